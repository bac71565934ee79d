/- Codes, calls, rounds; what a row asks. -/
import Derived.Test.YteabhojpkhaknaaGreatS5
import Derived.Lib.Repeat
import Derived.Lib.Bytealg
import Derived.Below
import Derived.ChangeSame
import Derived.WideKeyArgs
import Derived.OpenShut
import Derived.ProofKit
import Derived.WalkKit
namespace Nt
open Go

/-- What the reading of a code came to. -/
def Res.Is (x : Res) (e : Exit) (t : Tr Value) (h : AHeap) : Prop :=
  match x with
  | .fail => False
  | .norm t' h' => e = .normal ∧ t = t' ∧ h = h'
  | .exit id t' h' => e = .exit id ∧ t = t' ∧ h = h'
  | .ret t' h' => e = .ret ∧ t = t' ∧ h = h'

/-- The marks on an activation: blocks of their own, behind B, for rounds' deferred calls: none was laid there. -/
def Marks (B : Nat) (ds : List Deferred) (w : World) : Prop :=
  ∃ rs : List Nat, ds = rs.map (fun x => { target := .collected x, args := #[] }) ∧ rs.Nodup ∧ ∀ x ∈ rs, B ≤ x ∧ w.heap[x]? = some (.deferred (some []))

theorem not_im_deferred {ρ : Ren} {h : AHeap} {heap : Array Obj} (hr : HR ρ h heap) {x : Nat} {q : Option (List Deferred)} (hx : heap[x]? = some (.deferred q)) : ¬ Im ρ h x := by
  rintro ⟨b, o, L, h1, h2, h3⟩
  obtain ⟨L', co, h4, h5, h6⟩ := hr.obj b o h1
  rw [h2] at h4; cases h4
  rw [h3, hx] at h5; cases h5
  cases o <;> exact h6

theorem Marks.ev {B : Nat} {ds : List Deferred} {ρ ρ' : Ren} {h h' : AHeap} {w w' : World} (hm : Marks B ds w) (hr : HR ρ h w.heap) (hev : Ev ρ h w ρ' h' w') : Marks B ds w' := by
  obtain ⟨rs, h1, h2, h3⟩ := hm
  refine ⟨rs, h1, h2, fun x hx => ⟨(h3 x hx).1, ?_⟩⟩
  have hx' := (h3 x hx).2
  rw [(hev.keep x (Array.getElem?_eq_some_iff.1 hx').1 (not_im_deferred hr hx')).2]
  exact hx'

/-- What is asked where a code is left. -/
def Post (B : Nat) (ρ : Ren) (h : AHeap) (w : World) (n : Nat) (e₀ : Exit) (t' : Tr Value) (h' : AHeap) : Exit → Act → World → Prop := fun e a' w' =>
  e = e₀ ∧ (∃ ρ', Ev ρ h w ρ' h' w' ∧ TRel ρ' n t' a'.tmps) ∧ Marks B a'.defers w'

/-- The round that is under way lies where the machine says. -/
def RoundR (ρ : Ren) (r ro : Option Nat) : Prop :=
  match r, ro with
  | none, none => True
  | some l, some x => ∃ L, ρ l = some L ∧ L.r = x
  | _, _ => False
theorem RoundR.mono {ρ ρ' : Ren} {r ro : Option Nat} (h : RoundR ρ r ro) (hs : Sub ρ ρ') : RoundR ρ' r ro := by
  cases r <;> cases ro <;> simp only [RoundR] at h ⊢
  obtain ⟨L, h1, h2⟩ := h; exact ⟨L, hs _ _ h1, h2⟩

/-- A loop, as often as the reading has gone round. -/
theorem wpIn_loop_fuel {ro : Option Nat} {P : Program} {c : Code} {Q : Exit → Act → World → Prop} (J : Nat → Act → World → Prop)
    (round : ∀ j a w, J j a w → ∃ j', j = j' + 1 ∧ c.wpIn (FW ro) 0 P (Exit.then (J j') Q) a w) {n : Nat} {a : Act} {w : World} (h : J n a w) : (Code.loop c).wpIn (FW ro) 0 P Q a w := by
  intro b k cs hro hb hr
  have key : ∀ j a w, J j a w → ∃ e a' w', Q e a' w' ∧ ArrivesIn (Machine.fenced P (FW ro)) P (lone (b.atR a (.code c :: .inLoop c :: k)) cs w) b k cs e a' w' := by
    intro j
    induction j with
    | zero => intro a w hJ; obtain ⟨j', e, _⟩ := round 0 a w hJ; omega
    | succ j ih =>
      intro a w hJ
      obtain ⟨j', e, hround⟩ := round _ a w hJ
      have : j' = j := by omega
      subst this
      obtain ⟨e, a₁, w₁, hq, harr⟩ := hround b (.inLoop c :: k) cs hro hb hr
      cases e with
      | normal =>
        obtain ⟨e₂, a₂, w₂, hq₂, harr₂⟩ := ih a₁ w₁ hq
        exact ⟨e₂, a₂, w₂, hq₂, .of_steps (StepsIn.trans harr (oneW stepR_inLoop)) harr₂⟩
      | exit id => exact ⟨_, a₁, w₁, hq, .pass (x := .inLoop c) rfl (fun _ _ => .inl (by simp)) harr⟩
      | goto l => exact ⟨_, a₁, w₁, hq, .pass (x := .inLoop c) rfl (fun _ _ => .inl (by simp)) harr⟩
      | ret => exact ⟨_, a₁, w₁, hq, .pass (x := .inLoop c) rfl (fun _ _ => .inl (by simp)) harr⟩
      | panic ch => exact ⟨_, a₁, w₁, hq, .pass (x := .inLoop c) rfl (fun _ _ => .inl (by simp)) harr⟩
      | outgrown => exact ⟨_, a₁, w₁, hq, .pass (x := .inLoop c) rfl (fun _ _ => .inl (by simp)) harr⟩
  obtain ⟨e, a', w', hq, harr⟩ := key n a w h
  exact ⟨e, a', w', hq, .of_steps (oneW stepR_loop) harr⟩

section
variable {P : Program} {b : Frame} {a : Act} {k : List Item} {cs : List Frame} {w : World}
theorem stepR_scope {c : Code} : step P (lone (b.atR a (.code (.scope c) :: k)) cs w) = .next (lone (b.atR a (.code c :: .inScope c :: k)) cs w) :=
  step_lone_go (by simp [stepG, stepG.exec, Frame.atR])
theorem stepR_inScope {c : Code} : step P (lone (b.atR a (.inScope c :: k)) cs w) = .next (lone (b.atR a k) cs w) :=
  step_lone_go (by simp [stepG, stepG.exec, Frame.atR])
end
/-- A scope in which nothing is jumped to. -/
theorem wpIn_scope_plain {ro : Option Nat} {P : Program} {c : Code} {Q : Exit → Act → World → Prop} {a : Act} {w : World} (h : c.wpIn (FW ro) 0 P Q a w) (hg : ∀ l a w, ¬ Q (.goto l) a w) : (Code.scope c).wpIn (FW ro) 0 P Q a w := by
  intro b k cs hro hb hr
  obtain ⟨e, a₁, w₁, hq, harr⟩ := h b (.inScope c :: k) cs hro hb hr
  cases e with
  | normal => exact ⟨.normal, a₁, w₁, hq, .trans (oneW stepR_scope) (StepsIn.trans harr (oneW stepR_inScope))⟩
  | exit id =>
    have hx : exitTo id (.inScope c :: k) = exitTo id k := by simp [exitTo]
    exact ⟨_, a₁, w₁, hq, fun k' hk => .trans (oneW stepR_scope) (harr.1 k' (by rw [hx]; exact hk)), fun hr' hk => let ⟨k₁, h1, h2⟩ := harr.2 hr' (by rw [hx]; exact hk); ⟨k₁, h1, .trans (oneW stepR_scope) h2⟩⟩
  | goto l => exact absurd hq (hg _ _ _)
  | ret => exact ⟨_, a₁, w₁, hq, .of_steps (oneW stepR_scope) harr⟩
  | panic ch => exact ⟨_, a₁, w₁, hq, .of_steps (oneW stepR_scope) harr⟩
  | outgrown => exact ⟨_, a₁, w₁, hq, .of_steps (oneW stepR_scope) harr⟩

/-! ### The numbers of blocks only grow, in codes -/
theorem onNorm_is {x : Res} {k : Tr Value → AHeap → Res} {e : Exit} {t : Tr Value} {h : AHeap} (hi : (onNorm x k).Is e t h) :
    (∃ t₁ h₁, x = .norm t₁ h₁ ∧ (k t₁ h₁).Is e t h) ∨ (e ≠ .normal ∧ x.Is e t h) := by
  cases x with
  | fail => cases hi
  | norm t₁ h₁ => exact .inl ⟨t₁, h₁, rfl, hi⟩
  | exit id t₁ h₁ => exact .inr ⟨by rw [hi.1]; simp, hi⟩
  | ret t₁ h₁ => exact .inr ⟨by rw [hi.1]; simp, hi⟩

theorem Res.is_norm {t : Tr Value} {h : AHeap} : (Res.norm t h).Is .normal t h := ⟨rfl, rfl, rfl⟩

theorem draw_norm {ops : List Oper} {T : TyT} {r : Rec} {t : Tr Value} {h : AHeap} : dDraw ops T r t h = .fail ∨ ∃ t' h', dDraw ops T r t h = .norm t' h' := by
  unfold dDraw
  split
  · rename_i t' h' hs ps _
    cases alls (pendOk T (revs hs [])) ps with
    | false => exact .inl rfl
    | true => exact .inr ⟨_, _, rfl⟩
  · exact .inl rfl

theorem draw_mono {ops : Array Oper} {T : TyT} {r : Rec} {t t' : Tr Value} {h h' : AHeap} (e : dDraw ops.toList T r t h = .norm t' h') : h.next ≤ h'.next := by
  obtain ⟨D, hD, e1, e2, e3, e4⟩ := draw_trace e
  rw [← e2, ← e4]
  exact hh_mono hD (Nat.zero_le _) (Nat.le_refl _)

theorem rangeEnd_is {t t' : Tr Value} {l : Nat} {o : Option (Value × AHeap)} {e : Exit} {h' : AHeap} (hi : (rangeEnd t l o).Is e t' h') :
    ∃ v h L, o = some (v, h) ∧ l + 1 ≤ h.next ∧ h.get l = some (.loop L) ∧ L.state ≠ .busy ∧ t' = t ∧ h' = h.set l (.loop { L with state := .exhausted }) ∧
      (match L.pending with | none => e = .normal | some (.exit id) => e = .exit id | some .ret => e = .ret | _ => False) := by
  cases o with
  | none => cases hi
  | some p =>
    obtain ⟨v, h⟩ := p
    unfold rangeEnd at hi
    simp only at hi
    cases hb : Nat.ble (Nat.succ l) h.next with
    | false => rw [hb] at hi; cases hi
    | true =>
      rw [hb] at hi
      simp only [Bool.not_true, bcond_false] at hi
      split at hi
      · rename_i L hL
        split at hi
        · cases hi
        · rename_i hns
          refine ⟨v, h, L, rfl, ble_true hb, hL, fun e => hns e, ?_⟩
          split at hi
          · rename_i hp; obtain ⟨h1, h2, h3⟩ := hi; refine ⟨h2, h3, ?_⟩; rw [hp]; exact h1
          · rename_i id hp; obtain ⟨h1, h2, h3⟩ := hi; refine ⟨h2, h3, ?_⟩; rw [hp]; exact h1
          · rename_i hp; obtain ⟨h1, h2, h3⟩ := hi; refine ⟨h2, h3, ?_⟩; rw [hp]; exact h1
          · cases hi
      · cases hi

theorem code_mono {T : TyT} {r : Rec} : ∀ {c : Code} {t t' : Tr Value} {h h' : AHeap} {e : Exit}, (dC c T r t h).Is e t' h' → h.next ≤ h'.next := by
  intro c
  induction c with
  | skip => intro t t' h h' e hi; rw [hi.2.2]; exact Nat.le_refl _
  | region id ops draw =>
    intro t t' h h' e hi
    have hi' : (bcond draw (dDraw ops.toList) (dOps ops.toList ops.toList) T r t h).Is e t' h' := hi
    cases draw with
    | true =>
      rw [bcond_true] at hi'
      rcases draw_norm (ops := ops.toList) (T := T) (r := r) (t := t) (h := h) with e1 | ⟨t₁, h₁, e1⟩
      · rw [e1] at hi'; cases hi'
      · rw [e1] at hi'; rw [hi'.2.2]; exact draw_mono e1
    | false =>
      rw [bcond_false] at hi'
      rcases dOps_norm ops.toList T r ops.toList t h with e1 | ⟨t₁, h₁, e1⟩
      · rw [e1] at hi'; cases hi'
      · rw [e1] at hi'; rw [hi'.2.2]; exact dOps_mono e1
  | seq a b iha ihb =>
    intro t t' h h' e hi
    have hi' : (onNorm (dC a T r t h) (dC b T r)).Is e t' h' := hi
    rcases onNorm_is hi' with ⟨t₁, h₁, e1, h2⟩ | ⟨_, h2⟩
    · exact Nat.le_trans (iha (e := .normal) (t' := t₁) (by rw [e1]; exact Res.is_norm)) (ihb h2)
    · exact iha h2
  | cond q a b iha ihb =>
    intro t t' h h' e hi
    have hi' : (match envOf t q with | .bool z => bcond z (dC a T r t h) (dC b T r t h) | _ => Res.fail).Is e t' h' := hi
    split at hi'
    · rename_i z _
      cases z with
      | true => exact iha hi'
      | false => exact ihb hi'
    · cases hi'
  | block id a iha =>
    intro t t' h h' e hi
    have hi' : (onExit id (dC a T r t h)).Is e t' h' := hi
    cases hq : dC a T r t h with
    | fail => rw [hq] at hi'; cases hi'
    | norm t₁ h₁ => rw [hq] at hi'; exact iha (e := .normal) (t' := t₁) (by rw [hq]; exact ⟨rfl, rfl, hi'.2.2⟩)
    | exit j t₁ h₁ =>
      rw [hq] at hi'
      have hi'' : (bcond (Nat.beq j id) (Res.norm t₁ h₁) (.exit j t₁ h₁)).Is e t' h' := hi'
      refine iha (e := .exit j) (t' := t₁) (by rw [hq]; refine ⟨rfl, rfl, ?_⟩; cases hb : Nat.beq j id <;> rw [hb] at hi'' <;> exact hi''.2.2)
    | ret t₁ h₁ => rw [hq] at hi'; exact iha (e := .ret) (t' := t₁) (by rw [hq]; exact ⟨rfl, rfl, hi'.2.2⟩)
  | loop a iha =>
    intro t t' h h' e hi
    have hi' : (loopN (dC a T r) r.fuel t h).Is e t' h' := hi
    have key : ∀ n t h, (loopN (dC a T r) n t h).Is e t' h' → h.next ≤ h'.next := by
      intro n
      induction n with
      | zero => intro t h hi; cases hi
      | succ n ihn =>
        intro t h hi
        have hi' : (onNorm (dC a T r t h) (loopN (dC a T r) n)).Is e t' h' := hi
        rcases onNorm_is hi' with ⟨t₁, h₁, e1, h2⟩ | ⟨_, h2⟩
        · exact Nat.le_trans (iha (e := .normal) (t' := t₁) (by rw [e1]; exact Res.is_norm)) (ihn _ _ h2)
        · exact iha h2
    exact key _ _ _ hi'
  | rangeFunc f ps assign body iha ihb =>
    intro t t' h h' e hi
    have hi' : (kRange f ps assign body (dC assign) (dC body) T r t h).Is e t' h' := hi
    unfold kRange at hi'
    split at hi'
    · rename_i g first cap _
      cases hb : (roundB r h && r.goes g) with
      | false => rw [hb] at hi'; cases hi'
      | true =>
        rw [hb] at hi'
        simp only [Bool.not_true, bcond_false] at hi'
        obtain ⟨v, h₁, L, _, h2, _, _, _, h3, _⟩ := rangeEnd_is hi'
        rw [h3]; exact Nat.le_of_succ_le h2
    · cases hi'
  | exit id => intro t t' h h' e hi; rw [hi.2.2]; exact Nat.le_refl _
  | scope a iha => intro t t' h h' e hi; exact iha hi
  | label l => intro t t' h h' e hi; rw [hi.2.2]; exact Nat.le_refl _
  | goto l => intro t t' h h' e hi; cases hi
  | ret => intro t t' h h' e hi; rw [hi.2.2]; exact Nat.le_refl _
  | refuse s => intro t t' h h' e hi; cases hi

/-! ### The walk of a code -/
theorem Left.post {B : Nat} {ρ : Ren} {h h' : AHeap} {w w' : World} {a a' : Act} {t' : Tr Value} (hl : Left ρ h w a t' h' a' w') (hh : HR ρ h w.heap) (hm : Marks B a.defers w) : Post B ρ h w a.tmps.size .normal t' h' .normal a' w' := by
  obtain ⟨⟨ρ', h1, h2⟩, h3⟩ := hl
  exact ⟨rfl, ⟨ρ', h1, h2⟩, by rw [h3]; exact hm.ev hh h1⟩

theorem Post.step {B n : Nat} {ρ ρ₁ : Ren} {h h₁ h' : AHeap} {w w₁ : World} {e₀ : Exit} {t' : Tr Value} (hev : Ev ρ h w ρ₁ h₁ w₁) {e : Exit} {a' : Act} {w' : World} (hp : Post B ρ₁ h₁ w₁ n e₀ t' h' e a' w') : Post B ρ h w n e₀ t' h' e a' w' := by
  obtain ⟨h1, ⟨ρ', h2, h3⟩, h4⟩ := hp
  exact ⟨h1, ⟨ρ', hev.trans h2, h3⟩, h4⟩

theorem frame_push {ρ : Ren} {h : AHeap} {w : World} (hr : HR ρ h w.heap) (o : Obj) : Ev ρ h w ρ h (w.alloc o) := by
  have hpush : ∀ x, x < w.heap.size → (w.heap.push o)[x]? = w.heap[x]? := fun x hx => by rw [Array.getElem?_push_lt hx, Array.getElem?_eq_getElem hx]
  exact ⟨Nat.le_refl _, Sub.refl _, fun _ _ => rfl, hr.wider (Sub.refl _) hpush, by show w.heap.size ≤ (w.heap.push o).size; rw [Array.size_push]; exact Nat.le_succ _, fun x hx hi => ⟨hi, hpush x hx⟩, fun x c L hx hL => ⟨hx, hpush _ (hr.lt hx hL)⟩, rfl, rfl, rfl⟩

theorem wpIn_post {ro : Option Nat} {P : Program} {c : Code} {a : Act} {w : World} {B n : Nat} {ρ ρ₁ : Ren} {h h₁ h' : AHeap} {w₀ : World} {e₀ : Exit} {t' : Tr Value} (hev : Ev ρ h w₀ ρ₁ h₁ w)
    (hc : c.wpIn (FW ro) 0 P (Post B ρ₁ h₁ w n e₀ t' h') a w) : c.wpIn (FW ro) 0 P (Post B ρ h w₀ n e₀ t' h') a w := wpIn_mono hc fun _ _ _ hp => hp.step hev

theorem codeOk_seq {Gs : List Nat} {N : Nat} {a b : Bool} (h : bcond a b false = true) : a = true ∧ b = true := by
  cases a with
  | true => exact ⟨rfl, h⟩
  | false => cases h

theorem get_loop {ρ : Ren} {h : AHeap} {heap : Array Obj} (hr : HR ρ h heap) {l : Nat} {L : ALoop} (hl : h.get l = some (.loop L)) : ∃ M lp, ρ l = some M ∧ heap[M.r]? = some (.loop lp) ∧ OR ρ M (.loop L) (.loop lp) := by
  obtain ⟨M, co, h1, h2, h3⟩ := hr.obj l _ hl
  cases co with
  | loop lp => exact ⟨M, lp, h1, h2, h3⟩
  | _ => exact h3.elim

theorem marks_cons {B : Nat} {ds : List Deferred} {w : World} (h : Marks B ds w) (hB : B ≤ w.heap.size) : Marks B ({ target := .collected w.heap.size, args := #[] } :: ds) (w.alloc (.deferred (some []))) := by
  obtain ⟨rs, h1, h2, h3⟩ := h
  have hlt : ∀ x ∈ rs, x < w.heap.size := fun x hx => (Array.getElem?_eq_some_iff.1 (h3 x hx).2).1
  refine ⟨w.heap.size :: rs, by rw [h1]; rfl, List.nodup_cons.2 ⟨fun hm => absurd (hlt _ hm) (by omega), h2⟩, fun x hx => ?_⟩
  rcases List.mem_cons.1 hx with rfl | hx
  · exact ⟨hB, World.alloc_heap_new w _⟩
  · refine ⟨(h3 x hx).1, ?_⟩
    show (w.heap.push _)[x]? = _
    rw [Array.getElem?_push_lt (hlt x hx), ← (h3 x hx).2, Array.getElem?_eq_getElem (hlt x hx)]

theorem range_code_ok {P : Program} {Gs : List Nat} {r : Rec} (hr : RecOk P Gs r) {N : Nat} {ro : Option Nat} {B : Nat} {f : Operand} {ps : Array Tmp} {assign body : Code} {t : Tr Value} {h h₂ : AHeap} {e₀ : Exit} {ρ : Ren} {a : Act} {w : World}
    (ht : TRel ρ a.tmps.size t a.tmps) (hN : N ≤ a.tmps.size) (hh : HR ρ h w.heap) {L : ALoop} (hf : Free ρ h.next (h₂.set h.next (.loop { L with state := .exhausted })).next) (hg : GOk Gs ρ) (hro : RoundR ρ r.round ro) (hmk : Marks B a.defers w) (hB : B ≤ w.heap.size)
    (hca : codeOk Gs N assign = true) (hcb : codeOk Gs N body = true) {g : FuncId} {first cap : Array Value} (hfv : VR ρ (.func (.func g) first cap) (a.eval f)) (hrb : roundB r h = true) (hgo : r.goes g = true) {v : Value}
    (hcall : r.call g (app first.toList (.func (.yield h.next) #[] #[] :: cap.toList)) (h.alloc (.loop { fn := 0, n := 0, tmps := t, params := ps, assign, body, state := .ready, pending := none })) = some (v, h₂))
    (hle : h.next + 1 ≤ h₂.next) (hget : h₂.get h.next = some (.loop L)) (hst : L.state ≠ .busy)
    (hpend : match L.pending with | none => e₀ = .normal | some (.exit id) => e₀ = .exit id | some .ret => e₀ = .ret | _ => False) :
    (Code.rangeFunc f ps assign body).wpIn (FW ro) 0 P (Post B ρ h w a.tmps.size e₀ t (h₂.set h.next (.loop { L with state := .exhausted }))) a w := by
  have hf2 : Free ρ h.next h₂.next := hf
  rcases hfv.func_inv with ⟨g', bs, ds, e1, hv', k1, k2⟩ | ⟨b, L', e1, _⟩
  case inr => cases e1
  cases e1
  refine wpIn_rangeFunc fun fn _ => ?_
  -- what entering lays
  have henter : ∃ (w0 : World) (mark : List Deferred) (df : Nat), (Instr.enterLoop fn a.tmps ps assign body ro).run P w = .ok (w0.heap.size, mark) (w0.alloc (.loop { state := .ready, pending := none, fn, tmps := a.tmps, params := ps, assign, body, defers := df })) ∧
      Ev ρ h w ρ h w0 ∧ Marks B (mark ++ a.defers) w0 := by
    cases ro with
    | none =>
      refine ⟨w.alloc (.deferred (some [])), [{ target := .collected w.heap.size, args := #[] }], w.heap.size, ?_, frame_push hh _, marks_cons hmk hB⟩
      have := run_enterLoop_outer (P := P) (w := w) fn a.tmps ps assign body
      rw [World.size_alloc]
      exact this
    | some x =>
      unfold roundB at hrb
      cases hq : r.round with
      | none => rw [hq] at hro; exact hro.elim
      | some l =>
        rw [hq] at hro hrb
        obtain ⟨M, hM, rfl⟩ := hro
        simp only [optE_some] at hrb
        split at hrb
        · rename_i L₀ hL₀
          obtain ⟨M', lp, h1, h2, _⟩ := get_loop hh hL₀
          rw [hM] at h1; cases h1
          exact ⟨w, [], _, run_enterLoop_in (P := P) h2 fn a.tmps ps assign body, Ev.refl hh, hmk⟩
        · cases hrb
  obtain ⟨w0, mark, df, hent, hev0, hmk0⟩ := henter
  have hfree : ρ h.next = none := hf2 h.next (Nat.le_refl _) (by omega)
  have hsub := upd_sub ⟨w0.heap.size, 0, 0⟩ hfree
  have hor : OR (upd ρ h.next ⟨w0.heap.size, 0, 0⟩) ⟨w0.heap.size, 0, 0⟩ (.loop { fn := 0, n := 0, tmps := t, params := ps, assign, body, state := .ready, pending := none })
      (.loop { state := .ready, pending := none, fn, tmps := a.tmps, params := ps, assign, body, defers := df }) :=
    ⟨rfl, rfl, rfl, rfl, rfl, ht.mono hsub, Gs, N, hg.mono hsub, hN, hca, hcb⟩
  have hev1 := Ev.alloc hev0.rel hfree _ _ 0 hor
  have hargs : VRL (upd ρ h.next ⟨w0.heap.size, 0, 0⟩) (app first.toList (.func (.yield h.next) #[] #[] :: cap.toList)) (bs ++ #[Value.func (.yield w0.heap.size) #[] #[]] ++ ds).toList := by
    rw [app_eq]
    have hy : VR (upd ρ h.next ⟨w0.heap.size, 0, 0⟩) (.func (.yield h.next) #[] #[]) (.func (.yield w0.heap.size) #[] #[]) := VR.yield (L := ⟨w0.heap.size, 0, 0⟩) (upd_same _ _ _)
    have := VRL.append ((VRA.iff_list.1 k1).mono hsub) (VRL.cons hy ((VRA.iff_list.1 k2).mono hsub))
    simpa using this
  have hfree1 : Free (upd ρ h.next ⟨w0.heap.size, 0, 0⟩) (h.alloc (.loop { fn := 0, n := 0, tmps := t, params := ps, assign, body, state := .ready, pending := none })).next h₂.next := fun b h1 h2 => by
    have h1' : h.next + 1 ≤ b := h1
    rw [upd_ne _ _ (by omega)]
    exact hf2 b (by omega) h2
  obtain ⟨hcf, hci⟩ := hr.goes g _ _ _ _ hgo hcall _ (bs ++ #[Value.func (.yield w0.heap.size) #[] #[]] ++ ds) _ hargs hev1.rel hfree1 (hg.mono hsub)
  refine ⟨w0.heap.size, mark, _, { target := .fn (.func g) ds, args := bs ++ #[Value.func (.yield w0.heap.size) #[] #[]] }, _, g, _, _, hent, ?_, fun _ _ => trivial, hcf, (fun h => by cases h), ?_⟩
  · have hq : ({ tmps := a.tmps, defers := a.defers } : Act).eval f = .func (.func g) bs ds := hv'
    simp only [resolve, rangeCall, hv', Deferred.ofValue]
    simp [Act.eval]
  · refine CallsIn.mono (F := FW none) hci fun e w₃ he => ?_
    obtain ⟨u, rfl, ρ₂, hvu, hev2⟩ := he
    obtain ⟨M, lp, m1, m2, m3⟩ := get_loop hev2.rel hget
    have m4 := hev2.sub _ _ (upd_same ρ h.next ⟨w0.heap.size, 0, 0⟩)
    rw [m1] at m4; cases m4
    obtain ⟨o1, o2, o3, o4, o5, o6, o7⟩ := m3
    have hev3 := Ev.put hev2.rel hget m1 (.loop { L with state := .exhausted }) (.loop { lp with state := .exhausted }) ⟨rfl, o2, o3, o4, o5, o6, o7⟩
    have htot := ((hev0.trans hev1).trans hev2).trans hev3
    have go : ∀ (pe : Option Code) (W : World) (a' : Act) (g' : AHeap), pe = L.pending → (∀ e, e = e₀ → Post B ρ h w a.tmps.size e₀ t g' e a' W) →
        (match pe with | none => Post B ρ h w a.tmps.size e₀ t g' .normal a' W | some c => c.wpIn (FW ro) 0 P (Post B ρ h w a.tmps.size e₀ t g') a' W) := by
      intro pe W a' g' hpe hpost
      rw [← hpe] at hpend
      cases pe with
      | none => exact hpost _ hpend.symm
      | some c =>
        cases c with
        | exit id => exact wpIn_exit (hpost _ hpend.symm)
        | ret => exact wpIn_ret (hpost _ hpend.symm)
        | _ => exact hpend.elim
    exact ⟨lp.pending, _, run_endLoop m2 (by rw [o1]; exact hst), go _ _ _ _ o2 fun e he => ⟨he, ⟨ρ₂, htot, ht.mono htot.sub⟩, hmk0.ev hev0.rel ((hev1.trans hev2).trans hev3)⟩⟩

/-- The walk of a code: every exit is the one that the reading says, and all lies as it says. -/
theorem code_ok {T : TyT} {P : Program} (hT : TabOK T P) (hm : P.follows .mixedOrders = true) {Gs : List Nat} {r : Rec} (hr : RecOk P Gs r) {N : Nat} {ro : Option Nat} {B : Nat} : ∀ (c : Code), codeOk Gs N c = true →
    ∀ {t t' : Tr Value} {h h' : AHeap} {e₀ : Exit}, (dC c T r t h).Is e₀ t' h' → ∀ {ρ : Ren} {a : Act} {w : World}, TRel ρ a.tmps.size t a.tmps → N ≤ a.tmps.size → HR ρ h w.heap → Free ρ h.next h'.next → GOk Gs ρ → RoundR ρ r.round ro →
    Marks B a.defers w → B ≤ w.heap.size → c.wpIn (FW ro) 0 P (Post B ρ h w a.tmps.size e₀ t' h') a w := by
  intro c
  induction c with
  | skip =>
    intro hc t t' h h' e₀ hi ρ a w ht hN hh hf hg hro hmk hB
    obtain ⟨rfl, rfl, rfl⟩ := hi
    exact wpIn_skip ⟨rfl, ⟨ρ, Ev.refl hh, ht⟩, hmk⟩
  | region id ops draw =>
    intro hc t t' h h' e₀ hi ρ a w ht hN hh hf hg hro hmk hB
    obtain ⟨h1, h2⟩ := codeOk_seq (Gs := Gs) (N := N) (show bcond (alls (operOk Gs N ops.toList) ops.toList) (bcond draw (drawOk ops.toList) true) false = true from hc)
    have hops : ∀ o ∈ ops.toList, operOk Gs N ops.toList o = true := by rw [alls_eq, List.all_eq_true] at h1; exact h1
    have hi' : (bcond draw (dDraw ops.toList) (dOps ops.toList ops.toList) T r t h).Is e₀ t' h' := hi
    cases draw with
    | true =>
      rw [bcond_true] at hi' h2
      rcases draw_norm (ops := ops.toList) (T := T) (r := r) (t := t) (h := h) with e1 | ⟨t₁, h₁, e1⟩
      · rw [e1] at hi'; cases hi'
      · rw [e1] at hi'
        obtain ⟨rfl, rfl, rfl⟩ := hi'
        exact wp_goesR_draw hm fun n => draw_ok hT hr hops h2 e1 ht hN hh hf hg (fun a' w' hL => hL.post hh hmk) n
    | false =>
      rw [bcond_false] at hi'
      rcases dOps_norm ops.toList T r ops.toList t h with e1 | ⟨t₁, h₁, e1⟩
      · rw [e1] at hi'; cases hi'
      · rw [e1] at hi'
        obtain ⟨rfl, rfl, rfl⟩ := hi'
        refine wp_goesR ?_
        have := ops_ok hT hr (ro := ro) hops ops.toList 0 t h rfl e1 ρ a w ht hN hh hf hg (Post B ρ h w a.tmps.size .normal t' h') (fun a' w' hL => hL.post hh hmk)
        rwa [Array.length_toList, ← List.range_eq_range'] at this
  | seq x y ihx ihy =>
    intro hc t t' h h' e₀ hi ρ a w ht hN hh hf hg hro hmk hB
    obtain ⟨h1, h2⟩ := codeOk_seq (Gs := Gs) (N := N) (show bcond (codeOk Gs N x) (codeOk Gs N y) false = true from hc)
    have hi' : (onNorm (dC x T r t h) (dC y T r)).Is e₀ t' h' := hi
    rcases onNorm_is hi' with ⟨t₁, h₁, e1, h3⟩ | ⟨hne, h3⟩
    · have hx : (dC x T r t h).Is .normal t₁ h₁ := by rw [e1]; exact Res.is_norm
      have m2 := code_mono h3
      refine wpIn_seq (wpIn_mono (ihx h1 hx ht hN hh (hf.left m2) hg hro hmk hB) fun e a₁ w₁ hp => ?_)
      obtain ⟨rfl, ⟨ρ₁, hev, ht₁⟩, hmk₁⟩ := hp
      have hsz : a₁.tmps.size = a.tmps.size := ht₁.1
      have := ihy h2 h3 (ρ := ρ₁) (a := a₁) (w := w₁) (hsz ▸ ht₁) (by omega) hev.rel (hev.free hf) (hg.mono hev.sub) (hro.mono hev.sub) hmk₁ (Nat.le_trans hB hev.size)
      rw [hsz] at this
      exact wpIn_post hev this
    · refine wpIn_seq (wpIn_mono (ihx h1 h3 ht hN hh hf hg hro hmk hB) fun e a₁ w₁ hp => ?_)
      have he := hp.1
      subst he
      cases e <;> first
        | exact absurd rfl hne
        | exact hp
  | cond q x y ihx ihy =>
    intro hc t t' h h' e₀ hi ρ a w ht hN hh hf hg hro hmk hB
    obtain ⟨h0, h12⟩ := codeOk_seq (Gs := Gs) (N := N) (show bcond (opndOk Gs N q) (bcond (codeOk Gs N x) (codeOk Gs N y) false) false = true from hc)
    obtain ⟨h1, h2⟩ := codeOk_seq (Gs := Gs) (N := N) h12
    have hi' : (match envOf t q with | .bool z => bcond z (dC x T r t h) (dC y T r t h) | _ => Res.fail).Is e₀ t' h' := hi
    split at hi'
    · rename_i z hz
      have hv := env_ok ht hN hg h0
      rw [hz] at hv
      have hq : a.eval q = .bool z := hv.bool_inv
      refine wpIn_cond_split hq (fun hz => ?_) (fun hz => ?_)
      · subst hz; exact ihx h1 hi' ht hN hh hf hg hro hmk hB
      · subst hz; exact ihy h2 hi' ht hN hh hf hg hro hmk hB
    · cases hi'
  | block id x ihx =>
    intro hc t t' h h' e₀ hi ρ a w ht hN hh hf hg hro hmk hB
    have hi' : (onExit id (dC x T r t h)).Is e₀ t' h' := hi
    have hc' : codeOk Gs N x = true := hc
    refine wpIn_block ?_
    cases hq : dC x T r t h with
    | fail => rw [hq] at hi'; cases hi'
    | norm t₁ h₁ =>
      rw [hq] at hi'
      obtain ⟨rfl, rfl, rfl⟩ := hi'
      refine wpIn_mono (ihx hc' (e₀ := .normal) (by rw [hq]; exact ⟨rfl, rfl, rfl⟩) ht hN hh hf hg hro hmk hB) fun e a₁ w₁ hp => ?_
      obtain ⟨rfl, hp⟩ := hp
      exact ⟨rfl, hp⟩
    | exit j t₁ h₁ =>
      rw [hq] at hi'
      have hi'' : (bcond (Nat.beq j id) (Res.norm t₁ h₁) (.exit j t₁ h₁)).Is e₀ t' h' := hi'
      cases hb : Nat.beq j id with
      | true =>
        have hj := beq_true hb
        subst hj
        rw [hb, bcond_true] at hi''
        obtain ⟨rfl, rfl, rfl⟩ := hi''
        refine wpIn_mono (ihx hc' (e₀ := .exit j) (by rw [hq]; exact ⟨rfl, rfl, rfl⟩) ht hN hh hf hg hro hmk hB) fun e a₁ w₁ hp => ?_
        obtain ⟨rfl, hp⟩ := hp
        simp only [Exit.inBlock, if_true]
        exact ⟨rfl, hp⟩
      | false =>
        have hne : j ≠ id := fun e => by rw [e, Nat.beq_refl] at hb; cases hb
        rw [hb, bcond_false] at hi''
        obtain ⟨rfl, rfl, rfl⟩ := hi''
        refine wpIn_mono (ihx hc' (e₀ := .exit j) (by rw [hq]; exact ⟨rfl, rfl, rfl⟩) ht hN hh hf hg hro hmk hB) fun e a₁ w₁ hp => ?_
        obtain ⟨rfl, hp⟩ := hp
        simp only [Exit.inBlock, if_neg hne]
        exact ⟨rfl, hp⟩
    | ret t₁ h₁ =>
      rw [hq] at hi'
      obtain ⟨rfl, rfl, rfl⟩ := hi'
      refine wpIn_mono (ihx hc' (e₀ := .ret) (by rw [hq]; exact ⟨rfl, rfl, rfl⟩) ht hN hh hf hg hro hmk hB) fun e a₁ w₁ hp => ?_
      obtain ⟨rfl, hp⟩ := hp
      exact ⟨rfl, hp⟩
  | loop x ihx =>
    intro hc t t' h h' e₀ hi ρ a w ht hN hh hf hg hro hmk hB
    have hi' : (loopN (dC x T r) r.fuel t h).Is e₀ t' h' := hi
    have hc' : codeOk Gs N x = true := hc
    refine wpIn_loop_fuel (J := fun j a₁ w₁ => ∃ t₁ h₁ ρ₁, (loopN (dC x T r) j t₁ h₁).Is e₀ t' h' ∧ Ev ρ h w ρ₁ h₁ w₁ ∧ TRel ρ₁ a₁.tmps.size t₁ a₁.tmps ∧ a₁.tmps.size = a.tmps.size ∧ Free ρ₁ h₁.next h'.next ∧ Marks B a₁.defers w₁) ?_ ⟨t, h, ρ, hi', Ev.refl hh, ht, rfl, hf, hmk⟩
    intro j a₁ w₁ hJ
    obtain ⟨t₁, h₁, ρ₁, hi₁, hev, ht₁, hsz, hf₁, hmk₁⟩ := hJ
    cases j with
    | zero => cases hi₁
    | succ j =>
      refine ⟨j, rfl, ?_⟩
      have hi₂ : (onNorm (dC x T r t₁ h₁) (loopN (dC x T r) j)).Is e₀ t' h' := hi₁
      rcases onNorm_is hi₂ with ⟨t₂, h₂, e1, h3⟩ | ⟨hne, h3⟩
      · have hx : (dC x T r t₁ h₁).Is .normal t₂ h₂ := by rw [e1]; exact Res.is_norm
        have m2 : h₂.next ≤ h'.next := by
          have key : ∀ n t h, (loopN (dC x T r) n t h).Is e₀ t' h' → h.next ≤ h'.next := by
            intro n
            induction n with
            | zero => intro t h hi; cases hi
            | succ n ihn =>
              intro t h hi
              have hi' : (onNorm (dC x T r t h) (loopN (dC x T r) n)).Is e₀ t' h' := hi
              rcases onNorm_is hi' with ⟨t₃, h₃, e3, h4⟩ | ⟨_, h4⟩
              · exact Nat.le_trans (code_mono (e := .normal) (t' := t₃) (by rw [e3]; exact Res.is_norm)) (ihn _ _ h4)
              · exact code_mono h4
          exact key _ _ _ h3
        refine wpIn_mono (ihx hc' hx ht₁ (by omega) hev.rel (hf₁.left m2) (hg.mono hev.sub) (hro.mono hev.sub) hmk₁ (Nat.le_trans hB hev.size)) fun e a₂ w₂ hp => ?_
        obtain ⟨rfl, ⟨ρ₂, hev₂, ht₂⟩, hmk₂⟩ := hp
        have hs2 : a₂.tmps.size = a₁.tmps.size := ht₂.1
        exact ⟨t₂, h₂, ρ₂, h3, hev.trans hev₂, hs2 ▸ ht₂, hs2.trans hsz, hev₂.free hf₁, hmk₂⟩
      · refine wpIn_mono (ihx hc' h3 ht₁ (by omega) hev.rel hf₁ (hg.mono hev.sub) (hro.mono hev.sub) hmk₁ (Nat.le_trans hB hev.size)) fun e a₂ w₂ hp => ?_
        have he := hp.1
        subst he
        have hp' : Post B ρ h w a.tmps.size e t' h' e a₂ w₂ := by rw [← hsz]; exact hp.step hev
        cases e <;> first
          | exact absurd rfl hne
          | exact hp'
  | rangeFunc f ps assign body iha ihb =>
    intro hc t t' h h' e₀ hi ρ a w ht hN hh hf hg hro hmk hB
    obtain ⟨h0, h12⟩ := codeOk_seq (Gs := Gs) (N := N) (show bcond (opndOk Gs N f) (bcond (codeOk Gs N assign) (codeOk Gs N body) false) false = true from hc)
    obtain ⟨hca, hcb⟩ := codeOk_seq (Gs := Gs) (N := N) h12
    have hi' : (kRange f ps assign body (dC assign) (dC body) T r t h).Is e₀ t' h' := hi
    unfold kRange at hi'
    split at hi'
    · rename_i g first cap hfe
      cases hb : (roundB r h && r.goes g) with
      | false => rw [hb] at hi'; cases hi'
      | true =>
        rw [hb] at hi'
        simp only [Bool.not_true, bcond_false] at hi'
        rw [Bool.and_eq_true] at hb
        obtain ⟨hrb, hgo⟩ := hb
        obtain ⟨v, h₂, L, hcall, hle, hget, hst, rfl, rfl, hpend⟩ := rangeEnd_is hi'
        have hfv := env_ok ht hN hg h0
        rw [hfe] at hfv
        exact range_code_ok hr ht hN hh hf hg hro hmk hB hca hcb hfv hrb hgo hcall hle hget hst hpend
    · cases hi'
  | exit id =>
    intro hc t t' h h' e₀ hi ρ a w ht hN hh hf hg hro hmk hB
    obtain ⟨rfl, rfl, rfl⟩ := hi
    exact wpIn_exit ⟨rfl, ⟨ρ, Ev.refl hh, ht⟩, hmk⟩
  | scope x ihx =>
    intro hc t t' h h' e₀ hi ρ a w ht hN hh hf hg hro hmk hB
    have hi' : (dC x T r t h).Is e₀ t' h' := hi
    exact wpIn_scope_plain (ihx hc hi' ht hN hh hf hg hro hmk hB) fun l a' w' hp => by
      have := hp.1
      subst this
      cases hq : dC x T r t h with
      | fail => rw [hq] at hi'; exact hi'
      | norm t₁ h₁ => rw [hq] at hi'; cases hi'.1
      | exit j t₁ h₁ => rw [hq] at hi'; cases hi'.1
      | ret t₁ h₁ => rw [hq] at hi'; cases hi'.1
  | label l =>
    intro hc t t' h h' e₀ hi ρ a w ht hN hh hf hg hro hmk hB
    obtain ⟨rfl, rfl, rfl⟩ := hi
    exact wpIn_label ⟨rfl, ⟨ρ, Ev.refl hh, ht⟩, hmk⟩
  | goto l => intro hc t t' h h' e₀ hi; cases hi
  | ret =>
    intro hc t t' h h' e₀ hi ρ a w ht hN hh hf hg hro hmk hB
    obtain ⟨rfl, rfl, rfl⟩ := hi
    exact wpIn_ret ⟨rfl, ⟨ρ, Ev.refl hh, ht⟩, hmk⟩
  | refuse s => intro hc t t' h h' e₀ hi; cases hi
end Nt

namespace Nt
open Go

/-! ### What a function leaves -/
theorem HR.putOther {ρ : Ren} {h : AHeap} {w : World} (hr : HR ρ h w.heap) {x : Nat} (hx : ¬ Im ρ h x) (o : Obj) : HR ρ h (w.putObj x o).heap := by
  refine ⟨fun b u hb => ?_, hr.inj, hr.fresh⟩
  obtain ⟨L, co, h1, h2, h3⟩ := hr.obj b u hb
  refine ⟨L, co, h1, ?_, h3⟩
  rw [World.putObj_heap_other (fun e => hx ⟨b, u, L, hb, h1, e⟩)]
  exact h2

theorem marks_taken {P : Program} {fn : Func} {tmps : Array Value} {R : Ending → World → Prop} {ρ : Ren} {h : AHeap} {B : Nat} :
    ∀ (ds : List Deferred) (w : World), Marks B ds w → HR ρ h w.heap →
      (∀ w', HR ρ h w'.heap → w'.heap.size = w.heap.size → (∀ x, (x < B ∨ Im ρ h x) → w'.heap[x]? = w.heap[x]?) → w'.tape = w.tape → w'.os = w.os → w'.output = w.output → LeavesIn (FW none) 0 P fn tmps R [] .returning w') →
      LeavesInM (FW none) 0 P fn tmps R ds .returning w := by
  intro ds
  induction ds with
  | nil => intro w _ hr hk; exact hk w hr rfl (fun _ _ => rfl) rfl rfl rfl
  | cons d ds ih =>
    intro w hm hr hk
    obtain ⟨rs, h1, h2, h3⟩ := hm
    cases rs with
    | nil => cases h1
    | cons x rs =>
      simp only [List.map_cons, List.cons.injEq] at h1
      obtain ⟨rfl, h1⟩ := h1
      obtain ⟨hx, h2⟩ := List.nodup_cons.1 h2
      obtain ⟨hBx, hhx⟩ := h3 x (List.mem_cons_self ..)
      have hni := not_im_deferred hr hhx
      refine ⟨by simp, .inl ⟨x, _, rfl, run_takeDeferred hhx, ?_⟩⟩
      refine ih _ ⟨rs, h1, h2, fun y hy => ⟨(h3 y (List.mem_cons_of_mem _ hy)).1, ?_⟩⟩ (hr.putOther hni _) fun w' k1 k2 k3 k4 k5 k6 => ?_
      · rw [World.putObj_heap_other (fun e => hx (by first | (rw [← e]; exact hy) | (rw [e]; exact hy)))]
        exact (h3 y (List.mem_cons_of_mem _ hy)).2
      · refine hk w' k1 (by rw [k2, World.putObj_size]) (fun y hy => ?_) k4 k5 k6
        rw [k3 y hy]
        refine World.putObj_heap_other (fun e => ?_)
        subst e
        rcases hy with hy | hy
        · omega
        · exact hni hy

def resSem (tmps : Array Value) (x : ResultVar) : Sem Value :=
  match x with
  | .tmp t => pure (tmps.getD t undef)
  | .cell a t => do loadVar t (← asAddr (tmps.getD a undef))
def resIx (x : ResultVar) : Nat := match x with | .tmp i => i | .cell a _ => a

theorem res_ok {T : TyT} {P : Program} (hT : TabOK T P) {ρ : Ren} {h : AHeap} {w : World} (hr : HR ρ h w.heap) {n N : Nat} {t : Tr Value} {tmps : Array Value} (ht : TRel ρ n t tmps) (hN : N ≤ n) : ∀ (rs : List ResultVar), (∀ x ∈ rs, resIx x < N) →
    ∀ {l : List Value}, resD T t h rs = some l → ∃ l', VRL ρ l l' ∧ (rs.mapM (resSem tmps)).run P w = .ok l' w := by
  intro rs
  induction rs with
  | nil => intro _ l e; cases e; exact ⟨[], VRL.nil ρ, by simp⟩
  | cons x rs ih =>
    intro hN' l e
    have e' : consO (resOne T t h x) (resD T t h rs) = some l := e
    unfold consO at e'
    split at e'
    · rename_i v hv
      split at e'
      · rename_i l₁ hl₁
        cases e'
        obtain ⟨l', h1, h2⟩ := ih (fun y hy => hN' y (List.mem_cons_of_mem _ hy)) hl₁
        have hx : resIx x < N := hN' x (List.mem_cons_self ..)
        have hone : ∃ v', VR ρ v v' ∧ (resSem tmps x).run P w = .ok v' w := by
          cases x with
          | tmp i =>
            cases hv
            exact ⟨_, ht.2 i (Nat.lt_of_lt_of_le hx hN), by simp [resSem]⟩
          | cell a ty =>
            have hv' : dLoad T h ty (tget t a) = some v := hv
            obtain ⟨ad, v', k1, k2, k3⟩ := load_ok (P := P) hT hr (ht.2 a (Nat.lt_of_lt_of_le hx hN)) hv'
            refine ⟨v', k3, ?_⟩
            simp only [resSem, Sem.run_bind, k1, asAddr, Sem.run_pure, Result.andThen]
            exact k2
        obtain ⟨v', k1, k2⟩ := hone
        refine ⟨v' :: l', VRL.cons k1 h1, ?_⟩
        rw [List.mapM_cons]
        simp only [Sem.run_bind, k2, h2, Result.andThen, Sem.run_pure]
      · cases e'
    · cases e'

theorem results_eq (fn : Func) (tmps : Array Value) : results fn tmps = (do
    let vs ← fn.results.mapM (resSem tmps)
    pure (if h : vs.size = 1 then vs[0] else .tuple vs)) := by
  unfold results
  congr 1

theorem results_ok {T : TyT} {P : Program} (hT : TabOK T P) {ρ : Ren} {h : AHeap} {w : World} (hr : HR ρ h w.heap) {n N : Nat} {t : Tr Value} {tmps : Array Value} (ht : TRel ρ n t tmps) (hN : N ≤ n) {fn : Func}
    (hok : ∀ x ∈ fn.results.toList, resIx x < N) {l : List Value} (e : resD T t h fn.results.toList = some l) : ∃ v', VR ρ (oneOr l) v' ∧ (results fn tmps).run P w = .ok v' w := by
  obtain ⟨l', h1, h2⟩ := res_ok (P := P) hT hr ht hN fn.results.toList hok e
  have hm : (fn.results.mapM (resSem tmps)).run P w = .ok l'.toArray w := by
    rw [Array.mapM_eq_mapM_toList]
    have : (List.toArray <$> List.mapM (resSem tmps) fn.results.toList : Sem (Array Value)) = (do let x ← List.mapM (resSem tmps) fn.results.toList; pure x.toArray) := rfl
    rw [this]
    simp only [Sem.run_bind, h2, Result.andThen, Sem.run_pure]
  refine ⟨if h : l'.toArray.size = 1 then l'.toArray[0] else .tuple l'.toArray, ?_, ?_⟩
  · have hl := h1.1
    cases l with
    | nil => rw [h1.unnil]; exact .tuple rfl fun i x y hx => by simp at hx
    | cons x l =>
      obtain ⟨y, l'', rfl, hx, ht'⟩ := h1.uncons
      cases l with
      | nil => rw [ht'.unnil]; exact hx
      | cons x₂ l =>
        obtain ⟨y₂, l₃, rfl, _, _⟩ := ht'.uncons
        rw [dif_neg (by simp)]
        show VR ρ (.tuple ⟨x :: x₂ :: l⟩) _
        exact .mk_tuple (VRA.of_list h1)
  · rw [results_eq]
    simp only [Sem.run_bind, hm, Result.andThen, Sem.run_pure]

/-! ### A function -/
noncomputable def resultsOk (N : Nat) (rs : List ResultVar) : Bool := alls (fun x => match x with | .tmp i => Nat.ble (Nat.succ i) N | .cell a _ => Nat.ble (Nat.succ a) N) rs

/-- What is asked once of a function that is walked. -/
structure FnOk (P : Program) (Gs : List Nat) (f : FuncId) (fn : Func) : Prop where
  get : P.funcs[f]? = some fn
  name : (fn.name == "runtime.NumGoroutine") = false
  body : ∃ c, fn.body = some c ∧ codeOk Gs fn.ntmps c = true
  results : resultsOk fn.ntmps fn.results.toList = true

theorem init_tget : ∀ (l : List Value) (i : Nat) (t : Tr Value) (j : Nat), tget (initTmps l i t) j = if i ≤ j ∧ j < i + l.length then l.getD (j - i) undef else tget t j := by
  intro l
  induction l with
  | nil => intro i t j; rw [if_neg (by simp)]; rfl
  | cons v l ih =>
    intro i t j
    show tget (initTmps l (i + 1) (t.set i v)) j = _
    rw [ih, tget_set]
    by_cases h1 : j = i
    · subst h1
      rw [if_neg (by omega), if_pos rfl, if_pos (by simp), Nat.sub_self]; rfl
    · by_cases h2 : i + 1 ≤ j ∧ j < i + 1 + l.length
      · rw [if_pos h2, if_pos (by simp; omega)]
        obtain ⟨k, rfl⟩ : ∃ k, j = i + 1 + k := ⟨j - (i + 1), by omega⟩
        rw [show i + 1 + k - (i + 1) = k by omega, show i + 1 + k - i = k + 1 by omega]
        rfl
      · rw [if_neg h2, if_neg h1, if_neg (by simp; omega)]

theorem args_rel {ρ : Ren} {args : List Value} {args' : Array Value} (h : VRL ρ args args'.toList) (k : Nat) : TRel ρ (args' ++ Array.replicate k undef).size (initTmps args 0 .leaf) (args' ++ Array.replicate k undef) := by
  refine ⟨rfl, fun j hj => ?_⟩
  rw [init_tget]
  have hl : args.length = args'.size := by have := h.1; simpa using this
  have hu : tget (.leaf : Tr Value) j = undef := rfl
  rw [Array.getD_eq_getD_getElem?]
  by_cases hlt : j < args'.size
  · rw [if_pos (by omega), Nat.sub_zero, List.getD_eq_getElem?_getD, Array.getElem?_append_left hlt]
    have h1 : args[j]? = some (args[j]'(by omega)) := List.getElem?_eq_getElem _
    obtain ⟨y, h2, h3⟩ := h.get h1
    rw [Array.getElem?_toList] at h2
    rw [h1, h2]; exact h3
  · rw [if_neg (by omega), hu, Array.getElem?_append_right (by omega), Array.getElem?_replicate]
    split <;> exact VR.undef _

theorem fn_ok {T : TyT} {P : Program} (hT : TabOK T P) (hm : P.follows .mixedOrders = true) {Gs : List Nat} {r : Rec} (hr : RecOk P Gs r) (hro : r.round = none) {f : FuncId} {fn : Func} (hfn : FnOk P Gs f fn)
    {args : List Value} {h h' : AHeap} {v : Value} (e : callFn T r fn args h = some (v, h')) {ρ : Ren} {args' : Array Value} {w : World} (ha : VRL ρ args args'.toList) (hh : HR ρ h w.heap) (hf : Free ρ h.next h'.next) (hg : GOk Gs ρ) :
    Enters P f args' w (Came ρ h w v h') := by
  obtain ⟨c, hb, hc⟩ := hfn.body
  refine ⟨?_, ?_⟩
  · have h1 := hfn.get
    have h2 := hfn.name
    have h3 : ¬ fn.name = "runtime.NumGoroutine" := by simpa using h2
    simp [callFunc, h1, h3, hb]
  · refine callsIn_of_wp_marks hfn.get hb trivial ?_ rfl
    unfold callFn at e
    rw [hb] at e
    simp only at e
    have ht := args_rel ha (fn.ntmps - args'.size)
    have hN : fn.ntmps ≤ (args' ++ Array.replicate (fn.ntmps - args'.size) undef).size := by simp; omega
    have hres : ∀ x ∈ fn.results.toList, resIx x < fn.ntmps := by
      have := hfn.results
      unfold resultsOk at this
      rw [alls_eq, List.all_eq_true] at this
      intro x hx
      have := this x hx
      cases x with
      | tmp i => exact ble_true this
      | cell a ty => exact ble_true this
    have hout : ∃ e₀ t' , (dC c T r (initTmps args 0 .leaf) h).Is e₀ t' h' ∧ (e₀ = .normal ∨ e₀ = .ret) ∧ ∃ l, resD T t' h' fn.results.toList = some l ∧ v = oneOr l := by
      unfold callEnd at e
      split at e
      · rename_i t₁ h₁ hq
        split at e
        · rename_i l hl; cases e; exact ⟨.normal, t₁, by rw [hq]; exact ⟨rfl, rfl, rfl⟩, .inl rfl, l, hl, rfl⟩
        · cases e
      · rename_i t₁ h₁ hq
        split at e
        · rename_i l hl; cases e; exact ⟨.ret, t₁, by rw [hq]; exact ⟨rfl, rfl, rfl⟩, .inr rfl, l, hl, rfl⟩
        · cases e
      · cases e
    obtain ⟨e₀, t', hi, he₀, l, hl, rfl⟩ := hout
    have hrr : RoundR ρ r.round none := by rw [hro]; trivial
    refine wpIn_mono (code_ok hT hm hr (B := w.heap.size) c hc hi (a := { tmps := args' ++ Array.replicate (fn.ntmps - args'.size) undef, defers := [] }) ht hN hh hf hg hrr ⟨[], rfl, List.nodup_nil, fun _ h => by cases h⟩ (Nat.le_refl _)) fun e a' w' hp => ?_
    obtain ⟨rfl, ⟨ρ', hev, ht'⟩, hmk⟩ := hp
    have key : LeavesInM (FW none) 0 P fn a'.tmps (fun e w' => ∃ v', e = .returned v' ∧ Came ρ h w (oneOr l) h' v' w') a'.defers .returning w' := by
      refine marks_taken (ρ := ρ') (h := h') a'.defers w' hmk hev.rel fun w'' k1 k2 k3 k4 k5 k6 => ?_
      obtain ⟨v', hv, hrun⟩ := results_ok (P := P) hT k1 ht' hN hres hl
      refine ⟨v', hrun, v', rfl, ρ', hv, ⟨hev.next, hev.sub, hev.out, k1, by rw [k2]; exact hev.size, fun x hx hni => ?_, (fun x c L hx hL => by
        obtain ⟨q1, q2⟩ := hev.rows x c L hx hL
        exact ⟨q1, (k3 L.r (.inl (hh.lt hx hL))).trans q2⟩), k4.trans hev.tape, k5.trans hev.os, k6.trans hev.output⟩⟩
      obtain ⟨q1, q2⟩ := hev.keep x hx hni
      exact ⟨q1, (k3 x (.inl hx)).trans q2⟩
    rcases he₀ with rfl | rfl
    · exact key
    · exact key

/-! ### A round -/
theorem set_rel {ρ : Ren} {n : Nat} : ∀ (ps : List Tmp) (args args' : List Value) (t : Tr Value) (tmps : Array Value), VRL ρ args args' → ps.length = args.length → TRel ρ n t tmps → TRel ρ n (setTmps ps args t) ((ps.zip args').foldl (fun tmps (p, v) => tmps.setIfInBounds p v) tmps) := by
  intro ps
  induction ps with
  | nil => intro args args' t tmps _ _ ht; exact ht
  | cons p ps ih =>
    intro args args' t tmps h hl ht
    cases args with
    | nil => cases hl
    | cons v args =>
      obtain ⟨y, ys, rfl, hv, h'⟩ := h.uncons
      show TRel ρ n (setTmps ps args (t.set p v)) ((ps.zip ys).foldl _ (tmps.setIfInBounds p y))
      exact ih args ys _ _ h' (by simpa using hl) (TRel.put (a := ⟨tmps, []⟩) ht (some p) hv)

theorem yieldEnd_is {l : Nat} {o : Res} {v : Value} {h' : AHeap} (e : yieldEnd l o = some (v, h')) :
    ∃ e₀ t h₁ L, o.Is e₀ t h₁ ∧ h₁.get l = some (.loop L) ∧
      ((e₀ = .normal ∧ v = .bool true ∧ h' = h₁.set l (.loop { L with state := .ready, pending := none })) ∨
       ((∃ id, e₀ = .exit id ∧ v = .bool false ∧ h' = h₁.set l (.loop { L with state := .done, pending := some (.exit id) })) ∨
        (e₀ = .ret ∧ v = .bool false ∧ h' = h₁.set l (.loop { L with state := .done, pending := some .ret })))) := by
  unfold yieldEnd at e
  split at e
  · cases e
  · split at e
    · rename_i L hL; cases e; exact ⟨.normal, _, _, L, ⟨rfl, rfl, rfl⟩, hL, .inl ⟨rfl, rfl, rfl⟩⟩
    · cases e
  · split at e
    · rename_i L hL; cases e; exact ⟨.exit _, _, _, L, ⟨rfl, rfl, rfl⟩, hL, .inr (.inl ⟨_, rfl, rfl, rfl⟩)⟩
    · cases e
  · split at e
    · rename_i L hL; cases e; exact ⟨.ret, _, _, L, ⟨rfl, rfl, rfl⟩, hL, .inr (.inr ⟨rfl, rfl, rfl⟩)⟩
    · cases e

theorem RecOk.wider {P : Program} {Gs Gs' : List Nat} {r : Rec} (h : RecOk P Gs r) (hs : ∀ g ∈ Gs, g ∈ Gs') : RecOk P Gs' r :=
  ⟨fun f args h₁ v h' e ρ args' w a b c d => h.call f args h₁ v h' e ρ args' w a b c fun g hg => d g (hs g hg),
   fun f args h₁ v h' q e ρ args' w a b c d => h.goes f args h₁ v h' q e ρ args' w a b c fun g hg => d g (hs g hg),
   fun l args h₁ v h' e ρ L args' w z a b c d => h.yield l args h₁ v h' e ρ L args' w z a b c fun g hg => d g (hs g hg)⟩

theorem opndOk_mono {Gs Gs' : List Nat} (hs : ∀ g ∈ Gs, g ∈ Gs') {N : Nat} {x : Operand} (h : opndOk Gs N x = true) : opndOk Gs' N x = true := by
  cases x with
  | global g =>
    have h' : anys (Nat.beq g) Gs = true := h
    show anys (Nat.beq g) Gs' = true
    rw [anys_eq, List.any_eq_true] at h' ⊢
    obtain ⟨y, h1, h2⟩ := h'
    exact ⟨y, hs y h1, h2⟩
  | _ => exact h
theorem operOk_mono {Gs Gs' : List Nat} (hs : ∀ g ∈ Gs, g ∈ Gs') {N : Nat} {all : List Oper} {o : Oper} (h : operOk Gs N all o = true) : operOk Gs' N all o = true := by
  unfold operOk at h ⊢
  obtain ⟨h1, h2⟩ := codeOk_seq (Gs := Gs) (N := N) h
  rw [alls_eq, List.all_eq_true] at h1
  have : alls (opndOk Gs' N) o.op.operands.toList = true := by
    rw [alls_eq, List.all_eq_true]
    exact fun x hx => opndOk_mono hs (h1 x hx)
  rw [this, bcond_true]; exact h2
theorem codeOk_mono {Gs Gs' : List Nat} (hs : ∀ g ∈ Gs, g ∈ Gs') {N : Nat} : ∀ c : Code, codeOk Gs N c = true → codeOk Gs' N c = true := by
  intro c
  induction c with
  | region id ops draw =>
    intro h
    have h' : bcond (alls (operOk Gs N ops.toList) ops.toList) (bcond draw (drawOk ops.toList) true) false = true := h
    show bcond (alls (operOk Gs' N ops.toList) ops.toList) (bcond draw (drawOk ops.toList) true) false = true
    obtain ⟨h1, h2⟩ := codeOk_seq (Gs := Gs) (N := N) h'
    rw [alls_eq, List.all_eq_true] at h1
    have : alls (operOk Gs' N ops.toList) ops.toList = true := by
      rw [alls_eq, List.all_eq_true]
      exact fun x hx => operOk_mono hs (h1 x hx)
    rw [this, bcond_true]; exact h2
  | seq a b iha ihb =>
    intro h
    obtain ⟨h1, h2⟩ := codeOk_seq (Gs := Gs) (N := N) (show bcond (codeOk Gs N a) (codeOk Gs N b) false = true from h)
    show bcond (codeOk Gs' N a) (codeOk Gs' N b) false = true
    rw [iha h1, ihb h2]; rfl
  | cond q a b iha ihb =>
    intro h
    obtain ⟨h0, h12⟩ := codeOk_seq (Gs := Gs) (N := N) (show bcond (opndOk Gs N q) (bcond (codeOk Gs N a) (codeOk Gs N b) false) false = true from h)
    obtain ⟨h1, h2⟩ := codeOk_seq (Gs := Gs) (N := N) h12
    show bcond (opndOk Gs' N q) (bcond (codeOk Gs' N a) (codeOk Gs' N b) false) false = true
    rw [opndOk_mono hs h0, iha h1, ihb h2]; rfl
  | block id a iha => intro h; exact iha h
  | loop a iha => intro h; exact iha h
  | rangeFunc f ps a b iha ihb =>
    intro h
    obtain ⟨h0, h12⟩ := codeOk_seq (Gs := Gs) (N := N) (show bcond (opndOk Gs N f) (bcond (codeOk Gs N a) (codeOk Gs N b) false) false = true from h)
    obtain ⟨h1, h2⟩ := codeOk_seq (Gs := Gs) (N := N) h12
    show bcond (opndOk Gs' N f) (bcond (codeOk Gs' N a) (codeOk Gs' N b) false) false = true
    rw [opndOk_mono hs h0, iha h1, ihb h2]; rfl
  | scope a iha => intro h; exact iha h
  | skip => intro h; exact h
  | exit id => intro h; exact h
  | label l => intro h; exact h
  | goto l => intro h; exact h
  | ret => intro h; exact h
  | refuse s => intro h; exact h

theorem yield_ok {T : TyT} {P : Program} (hT : TabOK T P) (hm : P.follows .mixedOrders = true) {Gs : List Nat} {r : Rec} (hr : RecOk P Gs r) {l : Nat} {args : List Value} {h h' : AHeap} {v : Value} (e : dYield T r l args h = some (v, h'))
    {ρ : Ren} {L : Loc} {args' : Array Value} {w : World} (hL : ρ l = some L) (ha : VRL ρ args args'.toList) (hh : HR ρ h w.heap) (hf : Free ρ h.next h'.next) (hg : GOk Gs ρ) :
    ∃ lp, w.heap[L.r]? = some (.loop lp) ∧ args'.size = lp.params.size ∧
      RoundIn (FW none) 0 P L.r lp.fn ((lp.params.zip args').foldl (fun tmps (t, a) => tmps.setIfInBounds t a) lp.tmps) lp.assign lp.body w fun e w' => ∃ u, e = .returned u ∧ Came ρ h w v h' u w' := by
  unfold dYield at e
  split at e
  · rename_i A hA
    obtain ⟨M, lp, m1, m2, m3⟩ := get_loop hh hA
    rw [hL] at m1; cases m1
    obtain ⟨o1, o2, o3, o4, o5, o6, Gs', N, o7, o8, o9, o10⟩ := m3
    cases hq : Nat.beq (len args) (len A.params.toList) with
    | false => rw [hq] at e; cases e
    | true =>
      rw [hq, bcond_true] at e
      have hlen := beq_true hq
      rw [len_eq, len_eq] at hlen
      have hsz : args'.size = args.length := by have := ha.1; simp at this; exact this.symm
      refine ⟨lp, m2, by rw [hsz, hlen, o3]; simp, ?_⟩
      unfold yieldBody at e
      split at e
      · rename_i t₁ h₁ hq1
        split at e
        · rename_i A₁ hA₁
          split at e
          · rename_i hready
            obtain ⟨e₀, t₂, h₂, A₂, hi, hA₂, hcase⟩ := yieldEnd_is e
            have hi1 : (dC A.assign T (r.at l) (setTmps A.params.toList args A.tmps) h).Is .normal t₁ h₁ := by rw [hq1]; exact Res.is_norm
            have hr' : RecOk P (Gs ++ Gs') (r.at l) := RecOk.wider (r := r.at l) ⟨hr.call, hr.goes, hr.yield⟩ fun g hg => List.mem_append_left _ hg
            have hgg : GOk (Gs ++ Gs') ρ := fun g hx => by
              rcases List.mem_append.1 hx with h | h
              · exact hg g h
              · exact o7 g h
            have c1 : codeOk (Gs ++ Gs') N A.assign = true := codeOk_mono (fun g hg => List.mem_append_right _ hg) _ (by rw [← o4]; exact o4 ▸ o9)
            have c2 : codeOk (Gs ++ Gs') N A.body = true := codeOk_mono (fun g hg => List.mem_append_right _ hg) _ o10
            have n1 : h.next ≤ h₁.next := code_mono hi1
            have n2 : h₁.next ≤ h₂.next := show (h₁.set l (.loop { A₁ with state := .busy })).next ≤ h₂.next from code_mono hi
            have n3 : h'.next = h₂.next := by
              rcases hcase with ⟨_, _, rfl⟩ | ⟨id, _, _, rfl⟩ | ⟨_, _, rfl⟩ <;> rfl
            have hf' : Free ρ h.next h₂.next := by rw [← n3]; exact hf
            have ht0 : TRel ρ ((lp.params.zip args').foldl (fun tmps (t, a) => tmps.setIfInBounds t a) lp.tmps).size (setTmps A.params.toList args A.tmps) ((lp.params.zip args').foldl (fun tmps (t, a) => tmps.setIfInBounds t a) lp.tmps) := by
              have h1 := set_rel A.params.toList args args'.toList A.tmps lp.tmps ha hlen.symm o6
              have h2 : (lp.params.zip args').foldl (fun tmps (t, a) => tmps.setIfInBounds t a) lp.tmps = ((A.params.toList.zip args'.toList).foldl (fun tmps (p, v) => tmps.setIfInBounds p v) lp.tmps) := by
                rw [← Array.foldl_toList, Array.toList_zip, o3]
              rw [h2, h1.1]; exact h1
            have hsz0 : ((lp.params.zip args').foldl (fun tmps (t, a) => tmps.setIfInBounds t a) lp.tmps).size = lp.tmps.size := by
              have h1 := set_rel A.params.toList args args'.toList A.tmps lp.tmps ha hlen.symm o6
              have h2 : (lp.params.zip args').foldl (fun tmps (t, a) => tmps.setIfInBounds t a) lp.tmps = ((A.params.toList.zip args'.toList).foldl (fun tmps (p, v) => tmps.setIfInBounds p v) lp.tmps) := by
                rw [← Array.foldl_toList, Array.toList_zip, o3]
              rw [h2]; exact h1.1
            rw [o4, o5]
            refine roundIn_of_wpIn (F := FW none) trivial ?_
            refine wpIn_mono (code_ok hT hm hr' (ro := some L.r) (B := w.heap.size) A.assign c1 hi1 (a := { tmps := (lp.params.zip args').foldl (fun tmps (t, a) => tmps.setIfInBounds t a) lp.tmps, defers := [] }) ht0 (show N ≤ Array.size _ from hsz0.symm ▸ o8) hh (hf'.left n2) hgg ⟨L, hL, rfl⟩ ⟨[], rfl, List.nodup_nil, fun _ h => by cases h⟩ (Nat.le_refl _)) fun e a₁ w₁ hp => ?_
            obtain ⟨rfl, ⟨ρ₁, hev₁, ht₁⟩, hmk₁⟩ := hp
            obtain ⟨M₁, lp₁, p1, p2, p3⟩ := get_loop hev₁.rel hA₁
            rw [hev₁.sub _ _ hL] at p1; cases p1
            obtain ⟨q1, q2, q3, q4, q5, q6, q7⟩ := p3
            have hev₂ := Ev.put hev₁.rel hA₁ (hev₁.sub _ _ hL) (.loop { A₁ with state := .busy }) (.loop { lp₁ with state := .busy }) ⟨rfl, q2, q3, q4, q5, q6, q7⟩
            have hs1 : a₁.tmps.size = lp.tmps.size := by rw [ht₁.1]; exact hsz0
            refine ⟨_, run_beginRound p2 (by rw [q1]; exact hready), ?_⟩
            have ht₁' : TRel ρ₁ a₁.tmps.size t₁ a₁.tmps := by have := ht₁; rw [← this.1] at this; exact this
            refine wpIn_mono (code_ok hT hm hr' (ro := some L.r) (B := w.heap.size) A.body c2 hi ht₁' (by omega) hev₂.rel (hev₂.free (hev₁.free hf')) (hgg.mono (hev₁.sub.trans hev₂.sub)) ⟨L, hev₁.sub _ _ hL, rfl⟩ (hmk₁.ev hev₁.rel hev₂) (Nat.le_trans hev₁.size hev₂.size)) fun e a₂ w₂ hp => ?_
            obtain ⟨rfl, ⟨ρ₃, hev₃, ht₃⟩, hmk₃⟩ := hp
            obtain ⟨M₂, lp₂, s1, s2, s3⟩ := get_loop hev₃.rel hA₂
            have hL₃ := hev₃.sub _ _ (hev₁.sub _ _ hL)
            rw [hL₃] at s1; cases s1
            obtain ⟨u1, u2, u3, u4, u5, u6, u7⟩ := s3
            have hev := (hev₁.trans hev₂).trans hev₃
            rcases hcase with ⟨rfl, rfl, rfl⟩ | ⟨id, rfl, rfl, rfl⟩ | ⟨rfl, rfl, rfl⟩
            · exact ⟨_, _, run_endRound none s2, _, rfl, ρ₃, .bool true, hev.trans (Ev.put hev₃.rel hA₂ hL₃ _ _ ⟨rfl, rfl, u3, u4, u5, u6, u7⟩)⟩
            · exact ⟨_, _, run_endRound (some (.exit id)) s2, _, rfl, ρ₃, .bool false, hev.trans (Ev.put hev₃.rel hA₂ hL₃ _ _ ⟨rfl, rfl, u3, u4, u5, u6, u7⟩)⟩
            · exact ⟨_, _, run_endRound (some .ret) s2, _, rfl, ρ₃, .bool false, hev.trans (Ev.put hev₃.rel hA₂ hL₃ _ _ ⟨rfl, rfl, u3, u4, u5, u6, u7⟩)⟩
          · cases e
        · cases e
      · cases e
  · cases e

/-! ### As deep as it goes -/
/-- What is asked of a function that is taken by what it is known to do. -/
def OrcOk (P : Program) (Gs : List Nat) (f : FuncId) (o : Orc) : Prop :=
  ∀ args h v h', dOrc o args h = some (v, h') → ∀ (ρ : Ren) (args' : Array Value) (w : World), VRL ρ args args'.toList → HR ρ h w.heap → Free ρ h.next h'.next → GOk Gs ρ → CallTo P f args' w (Came ρ h w v h')

structure FnsOk (P : Program) (Gs : List Nat) (F : FnT) : Prop where
  go : ∀ f fn, F.get f = some (.go fn) → FnOk P Gs f fn
  orc : ∀ f o, F.get f = some (.orc o) → OrcOk P Gs f o

theorem recN_ok {T : TyT} {P : Program} (hT : TabOK T P) (hm : P.follows .mixedOrders = true) {Gs : List Nat} {F : FnT} (hF : FnsOk P Gs F) (K : Nat) : ∀ n, RecOk P Gs (recN T F K n) ∧ (recN T F K n).round = none := by
  intro n
  induction n with
  | zero => exact ⟨⟨(fun f args h v h' e => by cases e), (fun f args h v h' q => by cases q), (fun l args h v h' e => by cases e)⟩, rfl⟩
  | succ n ih =>
    obtain ⟨ih, ihr⟩ := ih
    have hgo : ∀ f fn args h v h', F.get f = some (.go fn) → dCall T F (recN T F K n) f args h = some (v, h') → ∀ (ρ : Ren) (args' : Array Value) (w : World), VRL ρ args args'.toList → HR ρ h w.heap → Free ρ h.next h'.next → GOk Gs ρ →
        Enters P f args' w (Came ρ h w v h') := by
      intro f fn args h v h' hf e ρ args' w ha hh hfr hg
      unfold dCall at e
      rw [hf] at e
      exact fn_ok hT hm ih ihr (hF.go f fn hf) e ha hh hfr hg
    refine ⟨⟨?_, ?_, ?_⟩, rfl⟩
    · intro f args h v h' e ρ args' w ha hh hfr hg
      have e' : dCall T F (recN T F K n) f args h = some (v, h') := e
      cases hf : F.get f with
      | none => unfold dCall at e'; rw [hf] at e'; cases e'
      | some x =>
        cases x with
        | go fn => exact .inr (hgo f fn args h v h' hf e' ρ args' w ha hh hfr hg)
        | orc o =>
          unfold dCall at e'
          rw [hf] at e'
          exact hF.orc f o hf args h v h' e' ρ args' w ha hh hfr hg
    · intro f args h v h' q e ρ args' w ha hh hfr hg
      have e' : dCall T F (recN T F K n) f args h = some (v, h') := e
      have q' : goesF F f = true := q
      unfold goesF at q'
      split at q'
      · rename_i fn hf
        exact hgo f fn args h v h' hf e' ρ args' w ha hh hfr hg
      · cases q'
    · intro l args h v h' e ρ L args' w hL ha hh hfr hg
      exact yield_ok hT hm ih e hL ha hh hfr hg

/-- **What the reading says of a call is what the machine comes to.** -/
theorem calls_of_reading {T : TyT} {P : Program} (hT : TabOK T P) (hm : P.follows .mixedOrders = true) {Gs : List Nat} {F : FnT} (hF : FnsOk P Gs F) {K n : Nat} {f : FuncId} {args : List Value} {h h' : AHeap} {v : Value}
    (hgo : goesF F f = true) (e : (recN T F K (n + 1)).call f args h = some (v, h')) {ρ : Ren} {args' : Array Value} {w : World} (ha : VRL ρ args args'.toList) (hh : HR ρ h w.heap) (hf : Free ρ h.next h'.next) (hg : GOk Gs ρ) :
    Calls P f args' w fun e w' => ∃ v', e = .returned v' ∧ Came ρ h w v h' v' w' :=
  callsIn_wide.1 ((recN_ok hT hm hF K (n + 1)).1.goes f args h v h' hgo e ρ args' w ha hh hf hg).2
end Nt

namespace Nt
open Go

def Tr.entries {α : Type} : Tr α → List (Nat × α)
  | .leaf => []
  | .node v l r => (match v with | some x => [(0, x)] | none => []) ++ ((l.entries.map fun p => (2 * p.1 + 1, p.2)) ++ (r.entries.map fun p => (2 * p.1 + 2, p.2)))

theorem Tr.mem_entries {α : Type} : ∀ (t : Tr α) (k : Nat) (x : α), t.get k = some x → (k, x) ∈ t.entries := by
  intro t
  induction t with
  | leaf => intro k x h; cases h
  | node v l r ihl ihr =>
    intro k x h
    rw [Tr.get_node] at h
    unfold Tr.entries
    by_cases h0 : k = 0
    · subst h0
      rw [Nat.beq_refl, cond_true] at h
      rw [h]
      exact List.mem_append_left _ (List.mem_singleton.2 rfl)
    · rw [Tr.beq_f h0, cond_false] at h
      refine List.mem_append_right _ ?_
      by_cases h1 : k % 2 = 1
      · rw [Tr.beq_t h1, cond_true] at h
        exact List.mem_append_left _ (List.mem_map.2 ⟨(k / 2, x), ihl _ _ h, by simp; omega⟩)
      · rw [Tr.beq_f h1, cond_false] at h
        exact List.mem_append_right _ (List.mem_map.2 ⟨(k / 2 - 1, x), ihr _ _ h, by simp; omega⟩)

def namesB (u : TypeDesc) : Bool := match u with | .struct fs => fs.toList.all fun f => f.name != "_" | _ => true

structure TyOk (P : Program) (t : TypeId) (e : TyE) : Prop where
  und : P.underlying t = some e.u
  info : ∃ i, P.info? t = some i ∧ i.size = e.size ∧ i.bytes = e.bytes ∧ i.zero = some e.zero
  eq : e.eqOk = true → P.eqGuardType P.depth t = false ∧ P.stoodInHeld t = false
  names : namesB e.u = true
  zero : gndC e.zero = true ∧ Nat.beq (cellsL e.zero).length e.size = true

theorem tabOK_of {T : TyT} {P : Program} (h : ∀ x ∈ T.entries, TyOk P x.1 x.2) : TabOK T P where
  und t e ht := (h _ (Tr.mem_entries _ _ _ ht)).und
  info t e ht := (h _ (Tr.mem_entries _ _ _ ht)).info
  eq t e ht := (h _ (Tr.mem_entries _ _ _ ht)).eq
  names t e fields ht _ hu f hf := by
    have := (h _ (Tr.mem_entries _ _ _ ht)).names
    simp only at this
    rw [hu] at this
    have := List.all_eq_true.1 this f hf
    simpa using this
  zero t e ht := by
    have := (h _ (Tr.mem_entries _ _ _ ht)).zero
    exact ⟨this.1, Nat.eq_of_beq_eq_true this.2⟩

noncomputable def fnCheck (Gs : List Nat) (fn : Func) : Bool := match fn.body with | some c => codeOk Gs fn.ntmps c && resultsOk fn.ntmps fn.results.toList | none => false
theorem fnOk_of {P : Program} {Gs : List Nat} {f : FuncId} {fn : Func} (h1 : P.funcs[f]? = some fn) (h2 : (fn.name == "runtime.NumGoroutine") = false) (h3 : fnCheck Gs fn = true) : FnOk P Gs f fn := by
  unfold fnCheck at h3
  split at h3
  · rename_i c hc
    rw [Bool.and_eq_true] at h3
    exact ⟨h1, h2, ⟨c, hc, h3.1⟩, h3.2⟩
  · cases h3

def FeOk (P : Program) (Gs : List Nat) (f : FuncId) : FnE → Prop
  | .go fn => FnOk P Gs f fn
  | .orc o => OrcOk P Gs f o
theorem fnsOk_of {P : Program} {Gs : List Nat} {F : FnT} (h : ∀ x ∈ F.entries, FeOk P Gs x.1 x.2) : FnsOk P Gs F where
  go f fn hf := h _ (Tr.mem_entries _ _ _ hf)
  orc f o hf := h _ (Tr.mem_entries _ _ _ hf)

/-! ### Functions that are known -/
/-- abi.NoEscape. -/
theorem orc_noEscape {P : Program} {Gs : List Nat} {f : FuncId} (h : ∀ (x : Value) (w : World), (callFunc f #[x]).run P w = .ok (.value x) w) : OrcOk P Gs f .noEscape := by
  intro args hp v hp' e ρ args' w ha hh hf hg
  have e' : oNoEscape args hp = some (v, hp') := e
  unfold oNoEscape at e'
  split at e'
  · rename_i x
    cases e'
    obtain ⟨y, l, hl, hv, h0⟩ := ha.uncons
    have h1 := h0.unnil
    subst h1
    have : args' = #[y] := Array.ext' (by simpa using hl)
    subst this
    exact .inl ⟨y, w, h y w, ρ, hv, Ev.refl hh⟩
  · cases e'

theorem indexB_eq (c : Nat) (hc : c ≤ 255) : ∀ (l : List UInt8) (i : Nat), indexB c l i = if Lib.indexByte l c.toUInt8 = -1 then -1 else Lib.indexByte l c.toUInt8 + i := by
  intro l
  induction l with
  | nil => intro i; rfl
  | cons b l ih =>
    intro i
    show bcond (Nat.beq (u8N b) c) (.ofNat i) (indexB c l (i + 1)) = _
    unfold Lib.indexByte
    have hu : u8N b = b.toNat := rfl
    by_cases hb : b = c.toUInt8
    · subst hb
      have h1 : (c.toUInt8).toNat = c := by
        show c % 256 = c
        omega
      rw [hu, h1, Nat.beq_refl, bcond_true]
      simp
    · have h1 : Nat.beq (u8N b) c = false := by
        refine Tr.beq_f fun e => hb ?_
        rw [hu] at e
        rw [← e]
        simp
      have h2 : (b == c.toUInt8) = false := by simpa using hb
      rw [h1, bcond_false, ih, h2]
      have hge := Lib.indexByte_ge l c.toUInt8
      by_cases h3 : Lib.indexByte l c.toUInt8 = -1
      · simp [h3]
      · have h4 : (Lib.indexByte l c.toUInt8 == -1) = false := by simpa using h3
        rw [if_neg h3, h4]
        simp only [Bool.false_eq_true, if_false]
        rw [if_neg (by omega)]
        push_cast
        omega

/-- bytealg.IndexByteString. -/
theorem orc_indexByte {P : Program} {Gs : List Nat} {f : FuncId} (h : ∀ (args : Array Value) (w : World), (callFunc f args).run P w = ((Extern.BytealgIndexByte.indexByte args).run P w).andThen fun v w' => .ok (.value v) w') : OrcOk P Gs f .indexByteString := by
  intro args hp v hp' e ρ args' w ha hh hf hg
  have e' : oIndexByteString args hp = some (v, hp') := e
  unfold oIndexByteString at e'
  split at e'
  · rename_i s c
    cases hq : Nat.ble c 255 with
    | false => rw [hq] at e'; cases e'
    | true =>
      rw [hq, bcond_true] at e'
      cases e'
      obtain ⟨y, l, hl, hv, h0⟩ := ha.uncons
      obtain ⟨y₂, l₂, hl₂, hv₂, h1⟩ := h0.uncons
      have h2 := h1.unnil
      subst h2
      subst hl₂
      cases hv
      cases hv₂
      have : args' = #[.string s, .int .u8 (c : Int)] := Array.ext' (by simpa using hl)
      subst this
      refine .inl ⟨.int .i64 (Lib.indexByte s.data.toList c.toUInt8), w, ?_, ρ, ?_, Ev.refl hh⟩
      · rw [h, Lib.run_indexByteString]
        rfl
      · rw [indexB_eq c (ble_true hq)]
        have : (if Lib.indexByte (strL s) c.toUInt8 = -1 then (-1 : Int) else Lib.indexByte (strL s) c.toUInt8 + ((0 : Nat) : Int)) = Lib.indexByte s.data.toList c.toUInt8 := by
          show (if Lib.indexByte s.data.toList c.toUInt8 = -1 then (-1 : Int) else Lib.indexByte s.data.toList c.toUInt8 + ((0 : Nat) : Int)) = _
          split
          · rename_i h; exact h.symm
          · simp
        rw [this]
        exact .int _ _
  · cases e'

theorem rep_eq_repeat (l : List UInt8) : ∀ n, repB l n = Lib.repeatL l n := by
  intro n
  induction n with
  | zero => rfl
  | succ n ih => show app l (repB l n) = l ++ Lib.repeatL l n; rw [app_eq, ih]

/-- strings.Repeat, of no negative count. -/
theorem orc_repeat {P : Program} {Gs : List Nat} {f : FuncId} (hin : ∀ (args : Array Value) (w : World), (callFunc f args).run P w = .ok (.enter f args) w)
    (h : ∀ (s : ByteArray) (c : Nat) (w : World), c ≤ 9223372036854775807 → s.size * c ≤ 140737488355328 → Calls P f #[.string s, .int .i64 c] w fun e w' => e = .returned (.string ⟨(Lib.repeatL s.data.toList c).toArray⟩) ∧ RowKit.Below w.heap.size w w') : OrcOk P Gs f .rept := by
  intro args hp v hp' e ρ args' w ha hh hf hg
  have e' : oRept args hp = some (v, hp') := e
  unfold oRept at e'
  split at e'
  · rename_i s n
    rw [bcond_eq] at e'
    cases hq : small (Nat.mul (len (strL s)) n) && Nat.ble n 9223372036854775807 with
    | false => rw [hq] at e'; cases e'
    | true =>
      rw [hq, cond_true] at e'
      cases e'
      rw [Bool.and_eq_true] at hq
      obtain ⟨y, l, hl, hv, h0⟩ := ha.uncons
      obtain ⟨y₂, l₂, hl₂, hv₂, h1⟩ := h0.uncons
      have h2 := h1.unnil
      subst h2
      subst hl₂
      cases hv
      cases hv₂
      have : args' = #[.string s, .int .i64 (n : Int)] := Array.ext' (by simpa using hl)
      subst this
      have hsz : s.size * n ≤ 140737488355328 := by
        have := ble_true hq.1
        have h3 : (Nat.mul (len (strL s)) n) = s.size * n := by rw [len_eq, strL_length]; rfl
        rw [h3] at this
        omega
      refine .inr ⟨hin _ w, callsIn_wide.2 ((h s n w (ble_true hq.2) hsz).mono fun e w' he => ?_)⟩
      obtain ⟨rfl, hb⟩ := he
      refine ⟨_, rfl, ρ, ?_, ⟨Nat.le_refl _, Sub.refl _, fun _ _ => rfl, hh.wider (Sub.refl _) fun x hx => hb.block x hx, hb.size, fun x hx hi => ⟨hi, hb.block x hx⟩, (fun x c L hx hL => ⟨hx, hb.block _ (hh.lt hx hL)⟩), hb.tape, hb.os, hb.output⟩⟩
      rw [show mkS (repB (strL s) n) = ⟨(Lib.repeatL s.data.toList n).toArray⟩ by rw [rep_eq_repeat]; rfl]
      exact .string _
  · cases e'
end Nt

namespace Nt
open Go

/-- All blocks that were there are as they were. -/
structure Kept (w w' : World) : Prop where
  tape : w'.tape = w.tape
  os : w'.os = w.os
  output : w'.output = w.output
  size : w.heap.size ≤ w'.heap.size
  block : ∀ i, i < w.heap.size → w'.heap[i]? = w.heap[i]?

theorem Kept.keptBut {w w' : World} (h : Kept w w') (may : MemPlace → Prop) : w.keptBut w' may := by
  refine ⟨h.os, h.output, fun i hi => ?_⟩
  rw [h.block i hi]
  cases w.heap[i]? with
  | none => rfl
  | some o =>
    cases o <;> first
      | exact ⟨rfl, rfl, rfl, fun _ _ => rfl⟩
      | exact .inr ⟨rfl, rfl⟩
      | rfl
theorem Kept.frozen {w w' : World} (h : Kept w w') {a : Addr} (ha : a.block < w.heap.size) : w'.frozen? a = w.frozen? a := by
  unfold World.frozen?
  rw [h.block _ ha]

open Go.ChangeShapes Go.WideShapes in
/-- The result is new, the arguments are as they were; no block that was there has been touched. -/
theorem post_of_kept {H : Type} {enc : TypeId × Value → H} {P : Program} {f : Func} {s : ChangeSpec} {apart fresh handsOn again : Bool} {W W' : World} {args : Array Value} {v : Value} {ds gs : List (DataW H)} {before pa pv : List MemPlace}
    (hW : DataW.Whole enc P f.params.toList s.vars apart W args.toList ds gs before)
    (hres : ∀ (b : Nat) (sp : Nat → Bool) (hd : Bool), DataW.TrodAll enc P W' b sp hd f.resultTypes.toList (v.resultList f.resultTypes.size) (s.fn H (ds ++ gs)).results [])
    (hargs : ∀ sp : Nat → Bool, (∀ p ∈ before, sp p.block = true) → DataW.TrodAll enc P W' 0 sp true f.params.toList args.toList (s.fn H (ds ++ gs)).args pa)
    (hvars : ∀ sp : Nat → Bool, (∀ p ∈ before, sp p.block = true) → DataW.TrodVars enc P W' sp s.vars (s.fn H (ds ++ gs)).vars pv)
    (hps : before = pa ++ pv) (hk : Kept W W')
    (hok : ∀ (j : Nat) (t : TypeId) (r : Value), f.resultTypes[j]? = some t → (v.resultList f.resultTypes.size)[j]? = some r → Value.okWide P W' .any 0 t r) :
    s.post enc P f apart fresh handsOn again W args v W' := by
  have hold : ∀ p ∈ before, (fun b => decide (b < W.heap.size)) p.block = true := fun p hp => by simpa using hW.lt p hp
  refine ⟨ds, gs, before, [], pa, pv, hW, hres _ _ _, hargs _ hold, hvars _ hold, World.keptBut_mono (fun p hp => ⟨hp, ?_⟩) (hk.keptBut (· ∈ before)), fun _ => ?_⟩
  · rw [hps, List.mem_append] at hp
    exact Or.inr hp
  · have hlt := hW.lt
    obtain ⟨_, _, _, _, _, hz, hn⟩ := hW
    refine ⟨hok, _, _, ([] ++ pa) ++ pv, ⟨[] ++ pa, pv, trodAll_append (hargs _ (fun _ _ => rfl)) (hres _ _ _), hvars _ (fun _ _ => rfl), rfl, ?_, ?_⟩, ?_⟩
    · intro b off hp
      have hb : MemPlace.cell b off ∈ before := by rw [hps]; simpa using hp
      rw [hk.frozen (hlt _ hb)]
      exact hz b off hb
    · intro ha
      have := hn ha
      rw [hps] at this
      simpa using this
    · intro p hp _
      rw [hps]
      simpa using hp

theorem hr_empty (heap : Array Obj) : HR (fun _ => none) ⟨.leaf, 0⟩ heap :=
  ⟨(fun b o h => by cases h), (fun b b' o o' L L' h => by cases h), (fun _ _ => rfl)⟩

/-- A reading from nothing: values without places in, a value out. -/
theorem calls_of_nothing {T : TyT} {P : Program} (hT : TabOK T P) (hm : P.follows .mixedOrders = true) {F : FnT} (hF : FnsOk P [] F) {K n : Nat} {f : FuncId} {args : List Value} {h' : AHeap} {v : Value}
    (hgo : goesF F f = true) (e : (recN T F K (n + 1)).call f args ⟨.leaf, 0⟩ = some (v, h')) {args' : Array Value} (ha : VRL (fun _ => none) args args'.toList) (w : World) :
    Calls P f args' w fun e w' => ∃ v' ρ', e = .returned v' ∧ VR ρ' v v' ∧ Kept w w' := by
  refine (calls_of_reading hT hm hF hgo e ha (hr_empty w.heap) (fun _ _ _ => rfl) (fun _ h => by cases h)).mono fun e w' he => ?_
  obtain ⟨v', rfl, ρ', hv, hev⟩ := he
  refine ⟨v', ρ', rfl, hv, hev.tape, hev.os, hev.output, hev.size, fun i hi => (hev.keep i hi ?_).2⟩
  rintro ⟨b, o, L, h, _⟩
  cases h

def isTrue (v : Value) : Bool := match v with | .bool b => b | _ => false
theorem true_of {o : Option (Value × AHeap)} (h : optE o false (fun p => isTrue p.1) = true) : ∃ h', o = some (.bool true, h') := by
  cases o with
  | none => cases h
  | some p =>
    obtain ⟨v, h'⟩ := p
    have hv : isTrue v = true := h
    unfold isTrue at hv
    split at hv
    · subst hv; exact ⟨h', rfl⟩
    · cases hv
theorem VR.true_inv {ρ : Ren} {v' : Value} (h : VR ρ (.bool true) v') : v' = .bool true := h.bool_inv
end Nt

namespace Nt
open Go

theorem Kept.cell {w w' : World} (h : Kept w w') {p : MemPlace} (hp : p.block < w.heap.size) : w.sameAt w' p := by
  cases p with
  | cell b off =>
    have hb := h.block b hp
    simp only [World.sameAt, World.cell?, hb]
  | map b => exact h.block b hp

theorem trodAll_kept {H : Type} {enc : TypeId × Value → H} {P : Program} (hl : laidOutB P = true) {W W' : World} (hk : Kept W W') {base : Nat} {sp : Nat → Bool} :
    ∀ (ts : List TypeId) (vs : List Value) (ds : List (DataW H)) (ps : List MemPlace), (∀ t ∈ ts, P.readableRec t = true ∧ t < P.types.size) → DataW.TrodAll enc P W base (fun _ => true) true ts vs ds ps →
      (∀ p ∈ ps, p.block < W.heap.size) → (∀ p ∈ ps, sp p.block = true) → DataW.TrodAll enc P W' base sp true ts vs ds ps := by
  intro ts
  induction ts with
  | nil =>
    intro vs ds ps _ h _ _
    cases vs <;> cases ds <;> first | exact h | exact h.elim
  | cons t ts ih =>
    intro vs ds ps hr h hlt hsp
    cases vs with
    | nil => cases ds <;> exact h.elim
    | cons v vs =>
      cases ds with
      | nil => exact h.elim
      | cons d ds =>
        obtain ⟨p, q, h1, h2, rfl⟩ := h
        obtain ⟨r1, r2⟩ := hr t (List.mem_cons_self ..)
        exact ⟨p, q, WideElems.Trod_stays hl r1 r2 h1 (fun x hx => hk.cell (hlt x (List.mem_append_left _ hx))) (fun x hx => hsp x (List.mem_append_left _ hx)),
          ih vs ds q (fun u hu => hr u (List.mem_cons_of_mem _ hu)) h2 (fun x hx => hlt x (List.mem_append_right _ hx)) (fun x hx => hsp x (List.mem_append_right _ hx)), rfl⟩

open Go.ChangeShapes Go.WideShapes Go.ChangeAt Go.RowKit in
/-- A law that has answered true, and touched no block that was there. -/
theorem law_post {H : Type} {enc : TypeId × Value → H} {P : Program} {f : Func} {s : ChangeSpec} {apart fresh handsOn again : Bool} {W W' : World} {args : Array Value} {ds gs : List (DataW H)} {before : List MemPlace}
    (hl : laidOutB P = true) (hr : ∀ t ∈ f.params.toList, P.readableRec t = true ∧ t < P.types.size) (hvars : s.vars = []) {tb : TypeId} (hres : f.resultTypes = #[tb]) (htb : P.underlying tb = some .bool)
    (hW : DataW.Whole enc P f.params.toList s.vars apart W args.toList ds gs before) (hfn : s.fn H (ds ++ gs) = { results := [.lit (.bool true)], args := ds, vars := gs }) (hk : Kept W W') :
    s.post enc P f apart fresh handsOn again W args (.bool true) W' := by
  have hlt := hW.lt
  have hW' := hW
  obtain ⟨p, q, hA, hV, hpq, _, _⟩ := hW
  rw [hvars] at hV
  obtain ⟨rfl, rfl⟩ := trodVars_none hV
  rw [List.append_nil] at hpq
  subst hpq
  refine post_of_kept (pa := before) (pv := []) hW' (fun b sp hd => ?_) (fun sp hsp => ?_) (fun sp _ => ?_) (by simp) hk (fun j t r ht hr' => ?_)
  · rw [hfn, hres]
    exact trodAll_cons_mk (shut_bool htb _) trodAll_mk0
  · rw [hfn]
    exact trodAll_kept hl hk _ _ _ _ hr hA hlt hsp
  · rw [hfn, hvars]
    rfl
  · rw [hres] at ht hr'
    cases j with
    | zero =>
      simp at ht
      subst ht
      have : r = .bool true := by simpa [Value.resultList] using hr'.symm
      subst this
      exact okWide_bool_mk htb _
    | succ j => simp at ht

theorem hr_vars (ρ : Ren) (k : Nat) (heap : Array Obj) : HR ρ ⟨.leaf, k⟩ heap :=
  ⟨(fun b o h => by cases h), (fun b b' o o' L L' h => by cases h), (fun _ _ => rfl)⟩
/-- The variables of a program, where they lie. -/
def varsAt (k : Nat) : Ren := fun b => if b < k then some ⟨b, 0, 0⟩ else none

/-- A reading that knows nothing of the memory but where the variables lie. -/
theorem calls_of_vars {T : TyT} {P : Program} (hT : TabOK T P) (hm : P.follows .mixedOrders = true) {Gs : List Nat} {F : FnT} (hF : FnsOk P Gs F) {k : Nat} (hGs : ∀ g ∈ Gs, g < k) {K n : Nat} {f : FuncId} {args : List Value} {h' : AHeap} {v : Value}
    (hgo : goesF F f = true) (e : (recN T F K (n + 1)).call f args ⟨.leaf, k⟩ = some (v, h')) {args' : Array Value} (ha : VRL (varsAt k) args args'.toList) (w : World) :
    Calls P f args' w fun e w' => ∃ v' ρ', e = .returned v' ∧ VR ρ' v v' ∧ Kept w w' := by
  refine (calls_of_reading hT hm hF hgo e ha (hr_vars _ _ w.heap) (fun b h1 _ => ?_) (fun g hg => ?_)).mono fun e w' he => ?_
  · have h1' : k ≤ b := h1
    simp [varsAt, Nat.not_lt_of_le h1']
  · simp [varsAt, hGs g hg]
  · obtain ⟨v', rfl, ρ', hv, hev⟩ := he
    refine ⟨v', ρ', rfl, hv, hev.tape, hev.os, hev.output, hev.size, fun i hi => (hev.keep i hi ?_).2⟩
    rintro ⟨b, o, L, h, _⟩
    cases h

/-! ### What an argument that fits looks like -/
theorem okW_int {P : Program} {w : World} {r : Reach} {b : Nat} {t : TypeId} {k : IntKind} {v : Value} (ht : P.underlying t = some (.int k)) (h : Cell.okWide P w r b t v) : ∃ n, v = .int k n := by
  unfold Cell.okWide Cell.ok at h
  rw [ht] at h
  cases v <;> simp only at h
  obtain ⟨rfl, _⟩ := h
  exact ⟨_, rfl⟩
theorem okW_string {P : Program} {w : World} {r : Reach} {b : Nat} {t : TypeId} {v : Value} (ht : P.underlying t = some .string) (h : Cell.okWide P w r b t v) : ∃ s, v = .string s := by
  unfold Cell.okWide Cell.ok at h
  rw [ht] at h
  cases v <;> simp only at h
  exact ⟨_, rfl⟩
/-- The cells of an argument of a struct's type. -/
theorem okW_struct {P : Program} {w : World} {r : Reach} {b : Nat} {t : TypeId} {fs : Array Field} {ts : List TypeId} {v : Value} (ht : P.underlying t = some (.struct fs)) (hts : P.cellTypes P.depth t = some ts) (hn : P.cellsOf t = ts.length) (h : Value.okWide P w r b t v) :
    ∃ cs : Array Value, v = .agg cs ∧ cs.size = ts.length ∧ ∀ (i : Nat) (u : TypeId), ts[i]? = some u → ∃ x, cs[i]? = some x ∧ Cell.okWide P w r b u x := by
  unfold Value.okWide at h
  rw [ht] at h
  obtain ⟨cs, rfl, hsz, ts', hts', _, hcell⟩ := h
  rw [hts] at hts'
  cases hts'
  refine ⟨cs, rfl, by omega, fun i u hu => ?_⟩
  have hi : i < ts.length := (List.getElem?_eq_some_iff.1 hu).1
  have hx : cs[i]? = some (cs[i]'(by omega)) := Array.getElem?_eq_getElem _
  obtain ⟨u', h1, h2⟩ := hcell i _ hx
  rw [Nat.mod_eq_of_lt hi, hu] at h1
  cases h1
  exact ⟨_, hx, h2⟩

/-! ### Calls that have been made once and for all -/
theorem Kept.ev {ρ : Ren} {h : AHeap} {w w' : World} (hk : Kept w w') (hr : HR ρ h w.heap) : Ev ρ h w ρ h w' :=
  ⟨Nat.le_refl _, Sub.refl _, fun _ _ => rfl, hr.wider (Sub.refl _) fun x hx => hk.block x hx, hk.size, fun x hx hi => ⟨hi, hk.block x hx⟩, (fun x c L hx hL => ⟨hx, hk.block _ (hr.lt hx hL)⟩), hk.tape, hk.os, hk.output⟩

/-- Of no argument: true, and nothing that was there is touched. -/
def trueG : List Value → AHeap → Option (Value × AHeap) := fun args h => match args with | [] => some (.bool true, h) | _ => none
theorem orc_true {P : Program} {Gs : List Nat} {f : FuncId} (hin : ∀ (args : Array Value) (w : World), (callFunc f args).run P w = .ok (.enter f args) w)
    (h : ∀ w, Calls P f #[] w fun e w' => e = .returned (.bool true) ∧ Kept w w') : OrcOk P Gs f (.sem trueG) := by
  intro args hp v hp' e ρ args' w ha hh hf hg
  have e' : trueG args hp = some (v, hp') := e
  unfold trueG at e'
  split at e'
  · cases e'
    have : args' = #[] := Array.ext' (by simpa using ha.unnil)
    subst this
    refine .inr ⟨hin _ w, callsIn_wide.2 ((h w).mono fun e w' he => ?_)⟩
    obtain ⟨rfl, hk⟩ := he
    exact ⟨_, rfl, ρ, .bool true, hk.ev hh⟩
  · cases e'

/-- Three things of which nothing is known, and that all is well. -/
noncomputable def threeG (n : Nat) : List Value → AHeap → Option (Value × AHeap) := fun args h =>
  match args with
  | [.int .i64 (.ofNat m)] => bcond (Nat.beq m n) (some (.tuple #[.pointer (some ⟨h.next, 0, none⟩), .pointer (some ⟨h.next + 1, 0, none⟩), .pointer (some ⟨h.next + 2, 0, none⟩), .int .i64 0], ⟨h.m, h.next + 3⟩)) none
  | _ => none
def isThree (v : Value) : Bool :=
  match v with
  | .tuple ⟨[.pointer (some ⟨_, 0, none⟩), .pointer (some ⟨_, 0, none⟩), .pointer (some ⟨_, 0, none⟩), .int .i64 n]⟩ => eqI n 0
  | _ => false
theorem orc_three {P : Program} {Gs : List Nat} {f : FuncId} {n : Nat} (hin : ∀ (args : Array Value) (w : World), (callFunc f args).run P w = .ok (.enter f args) w)
    (h : ∀ w, Calls P f #[.int .i64 n] w fun e w' => ∃ v v' ρ', isThree v = true ∧ e = .returned v' ∧ VR ρ' v v' ∧ Kept w w') : OrcOk P Gs f (.sem (threeG n)) := by
  intro args hp v hp' e ρ args' w ha hh hf hg
  have e' : threeG n args hp = some (v, hp') := e
  unfold threeG at e'
  split at e'
  · rename_i m
    cases hq : Nat.beq m n with
    | false => rw [hq] at e'; cases e'
    | true =>
      have hmn := beq_true hq
      subst hmn
      rw [hq, bcond_true] at e'
      cases e'
      obtain ⟨y, l, hl, hv, h0⟩ := ha.uncons
      have h2 := h0.unnil
      subst h2
      cases hv
      have : args' = #[.int .i64 (m : Int)] := Array.ext' (by simpa using hl)
      subst this
      refine .inr ⟨hin _ w, callsIn_wide.2 ((h w).mono fun e w' he => ?_)⟩
      obtain ⟨u, u', ρ', h3, rfl, hvr, hk⟩ := he
      unfold isThree at h3
      split at h3
      · rename_i b1 b2 b3 k
        rw [eqI_eq] at h3
        have hk0 : k = 0 := eq_of_beq h3
        subst hk0
        have hvr' : VR ρ' (.tuple #[.pointer (some ⟨b1, 0, none⟩), .pointer (some ⟨b2, 0, none⟩), .pointer (some ⟨b3, 0, none⟩), .int .i64 0]) u' := hvr
        cases hvr' with
        | tuple h1 h2 =>
          rename_i bs
          have hsz : bs.size = 4 := h1.symm
          have g0 : bs[0]? = some (bs[0]'(by omega)) := Array.getElem?_eq_getElem _
          have g1 : bs[1]? = some (bs[1]'(by omega)) := Array.getElem?_eq_getElem _
          have g2 : bs[2]? = some (bs[2]'(by omega)) := Array.getElem?_eq_getElem _
          have g3 : bs[3]? = some (bs[3]'(by omega)) := Array.getElem?_eq_getElem _
          obtain ⟨L1, m1, p1, _⟩ := (h2 0 _ _ rfl g0).ptr_inv
          obtain ⟨L2, m2, p2, _⟩ := (h2 1 _ _ rfl g1).ptr_inv
          obtain ⟨L3, m3, p3, _⟩ := (h2 2 _ _ rfl g2).ptr_inv
          have p4 := h2 3 _ _ rfl g3
          have q4 : bs[3]'(by omega) = .int .i64 0 := by
            generalize bs[3]'(by omega) = z at p4
            have p4' : VR ρ' (.int .i64 0) z := p4
            cases p4'
            rfl
          have hbs : bs = #[.pointer (some ⟨L1.r, L1.base + 0, none⟩), .pointer (some ⟨L2.r, L2.base + 0, none⟩), .pointer (some ⟨L3.r, L3.base + 0, none⟩), .int .i64 0] := by
            apply Array.ext (by rw [hsz]; rfl)
            intro i hi1 hi2
            match i, hi2 with
            | 0, _ => exact p1
            | 1, _ => exact p2
            | 2, _ => exact p3
            | 3, _ => exact q4
          have f0 : ρ hp.next = none := hf _ (Nat.le_refl _) (by show hp.next < hp.next + 3; omega)
          have f1 : ρ (hp.next + 1) = none := hf _ (by omega) (by show hp.next + 1 < hp.next + 3; omega)
          have f2 : ρ (hp.next + 2) = none := hf _ (by omega) (by show hp.next + 2 < hp.next + 3; omega)
          have s1 : Sub ρ (upd ρ hp.next L1) := upd_sub _ f0
          have s2 : Sub (upd ρ hp.next L1) (upd (upd ρ hp.next L1) (hp.next + 1) L2) := upd_sub _ (by rw [upd_ne _ _ (by omega)]; exact f1)
          have s3 : Sub (upd (upd ρ hp.next L1) (hp.next + 1) L2) (upd (upd (upd ρ hp.next L1) (hp.next + 1) L2) (hp.next + 2) L3) := upd_sub _ (by rw [upd_ne _ _ (by omega), upd_ne _ _ (by omega)]; exact f2)
          have hs := (s1.trans s2).trans s3
          have r1 := s3 _ _ (s2 _ _ (upd_same ρ hp.next L1))
          have r2 := s3 _ _ (upd_same (upd ρ hp.next L1) (hp.next + 1) L2)
          have r3 := upd_same (upd (upd ρ hp.next L1) (hp.next + 1) L2) (hp.next + 2) L3
          refine ⟨_, rfl, upd (upd (upd ρ hp.next L1) (hp.next + 1) L2) (hp.next + 2) L3, ?_, ?_⟩
          · rw [hbs]
            exact .mk_tuple (VRA.of_list (VRL.cons (.ptr 0 r1) (VRL.cons (.ptr 0 r2) (VRL.cons (.ptr 0 r3) (VRL.cons (.int _ _) (VRL.nil _))))))
          · have hw := hh.wider hs fun x hx => hk.block x hx
            refine ⟨by show hp.next ≤ hp.next + 3; omega, hs, fun b hb => ?_, ⟨hw.obj, hw.inj, fun b hb => hh.fresh b ?_⟩, hk.size, fun x hx hi => ⟨fun him => hi (im_wider (h := hp) hh hs him), hk.block x hx⟩, (fun x c L hx hL => ⟨hx, hk.block _ (hh.lt hx hL)⟩), hk.tape, hk.os, hk.output⟩
            · have hb' : b < hp.next ∨ hp.next + 3 ≤ b := hb
              rw [upd_ne _ _ (by omega), upd_ne _ _ (by omega), upd_ne _ _ (by omega)]
            · have hb' : hp.next + 3 ≤ b := hb
              omega
      · cases h3
  · cases e'

theorem three_of {o : Option (Value × AHeap)} (h : optE o false (fun p => isThree p.1) = true) : ∃ v h', o = some (v, h') ∧ isThree v = true := by
  cases o with
  | none => cases h
  | some p => exact ⟨p.1, p.2, rfl, h⟩
end Nt

namespace Nt
open Go

theorem calls_of_rows {T : TyT} {P : Program} (hT : TabOK T P) (hm : P.follows .mixedOrders = true) {Gs : List Nat} {F : FnT} (hF : FnsOk P Gs F) {K n : Nat} {f : FuncId} {args : List Value} {h h' : AHeap} {v : Value}
    (hgo : goesF F f = true) (e : (recN T F K (n + 1)).call f args h = some (v, h')) {ρ : Ren} {args' : Array Value} {w : World} (ha : VRL ρ args args'.toList) (hrow : ∀ b o, h.get b = some o → isRow o = true) (hh : HR ρ h w.heap) (hf : Free ρ h.next h'.next) (hg : GOk Gs ρ) :
    Calls P f args' w fun e w' => ∃ v' ρ', e = .returned v' ∧ VR ρ' v v' ∧ Kept w w' := by
  refine (calls_of_reading hT hm hF hgo e ha hh hf hg).mono fun e w' he => ?_
  obtain ⟨v', rfl, ρ', hv, hev⟩ := he
  refine ⟨v', ρ', rfl, hv, hev.tape, hev.os, hev.output, hev.size, fun i hi => ?_⟩
  rcases Classical.em (Im ρ h i) with him | him
  · obtain ⟨b, o, L, h1, h2, rfl⟩ := him
    have h3 := hrow b o h1
    cases o <;> first | cases h3 | skip
    exact (hev.rows b _ L h1 h2).2
  · exact (hev.keep i hi him).2

/-- The numbers of a row, as values. -/
def xsOf (k : IntKind) (x : Nat → Int) (n : Nat) : List Value := Nat.rec (motive := fun _ => Nat → List Value) (fun _ => []) (fun _ ih i => .int k (x i) :: ih (Nat.succ i)) n 0
def xsFrom (k : IntKind) (x : Nat → Int) (n : Nat) : Nat → List Value := Nat.rec (motive := fun _ => Nat → List Value) (fun _ => []) (fun _ ih i => .int k (x i) :: ih (Nat.succ i)) n
theorem xsFrom_get (k : IntKind) (x : Nat → Int) : ∀ (n i j : Nat), (xsFrom k x n j)[i]? = if i < n then some (.int k (x (j + i))) else none
  | 0, i, j => by
    show ([] : List Value)[i]? = _
    simp
  | n + 1, i, j => by
    have e : xsFrom k x (n + 1) j = .int k (x j) :: xsFrom k x n (j + 1) := rfl
    rw [e]
    cases i with
    | zero => simp
    | succ i =>
      rw [List.getElem?_cons_succ, xsFrom_get k x n i (j + 1)]
      have : j + 1 + i = j + (i + 1) := by omega
      rw [this]
      by_cases h : i < n
      · rw [if_pos h, if_pos (by omega)]
      · rw [if_neg h, if_neg (by omega)]
theorem xsOf_get (k : IntKind) (x : Nat → Int) (n i : Nat) : (xsOf k x n)[i]? = if i < n then some (.int k (x i)) else none := by
  have := xsFrom_get k x n i 0
  rw [Nat.zero_add] at this
  exact this

/-- A memory of one row. -/
noncomputable def rowH (c : List Value) : AHeap := ⟨.node (some (.row c)) .leaf .leaf, 1⟩
/-- A memory of which nothing is known, in which block 0 is spoken of. -/
noncomputable def bareH : AHeap := ⟨.leaf, 1⟩
def rho0 (L : Loc) : Ren := fun b => if b = 0 then some L else none
theorem rowH_get {c : List Value} {b : Nat} {o : AObj} (h : (rowH c).get b = some o) : b = 0 ∧ o = .row c := by
  cases b with
  | zero => cases (h : some (AObj.row c) = some o); exact ⟨rfl, rfl⟩
  | succ b =>
    exfalso
    have h' : Tr.get (.node (some (.row c)) .leaf .leaf) (b + 1) = some o := h
    have e : Tr.put (Tr.leaf : Tr AObj) 0 (some (.row c)) = .node (some (.row c)) .leaf .leaf := rfl
    rw [← e, Tr.get_put, if_neg (by omega)] at h'
    cases h'
theorem bareH_get {b : Nat} {o : AObj} (h : bareH.get b = some o) : False := by
  have h' : Tr.get (.leaf : Tr AObj) b = some o := h
  have e : Tr.put (Tr.leaf : Tr AObj) b none = Tr.put (Tr.leaf : Tr AObj) b none := rfl
  simp [Tr.get] at h'
theorem free0 {L : Loc} {n : Nat} : Free (rho0 L) 1 n := fun b h1 _ => by
  have : b ≠ 0 := by omega
  simp [rho0, this]
theorem hr_bare (L : Loc) (heap : Array Obj) : HR (rho0 L) bareH heap :=
  ⟨fun b o h => (bareH_get h).elim, fun b b' o o' L L' h => (bareH_get h).elim, fun b _ => by
    cases hb : bareH.get b with
    | none => rfl
    | some o => exact (bareH_get hb).elim⟩
theorem hr_row {L : Loc} {c : List Value} {heap : Array Obj} {cs : Array Value} {e : TypeId} {f : Nat × Nat} (h1 : heap[L.r]? = some (.cells cs e f)) (h2 : RowR (rho0 L) L c cs) : HR (rho0 L) (rowH c) heap := by
  refine ⟨fun b o h => ?_, fun b b' o o' L L' h g _ _ _ => ?_, fun b hb => ?_⟩
  · obtain ⟨rfl, rfl⟩ := rowH_get h
    exact ⟨L, _, rfl, h1, h2⟩
  · rw [(rowH_get h).1, (rowH_get g).1]
  · have hb' : 1 ≤ b := hb
    cases hq : (rowH c).get b with
    | none => rfl
    | some o => have := (rowH_get hq).1; omega
end Nt
