/- Append and the other operations that turn memory. -/
import Derived.Test.YteabhojpkhaknaaGreatS3
import Derived.Laws.Append
namespace Nt
open Go

/-- What an append puts behind, in the model. -/
def News (P : Program) (w : World) (z : Value) (size n : Nat) (new : List Value) (xt : TypeId) (x : Value) : Prop :=
  (∃ u : TypeDesc, (∀ w', (underlying xt).run P w' = .ok u w') ∧ (u = .string ∨ ∃ q, u = .slice q) ∧
    ∀ w' : World, w'.heap = w.heap → (Builtin.lenOf x).run P w' = .ok n w' ∧ (Builtin.firstCells size n x).run P w' = .ok new.toArray w') ∨
  (∃ k, (∀ w', (underlying xt).run P w' = .ok (.int k) w') ∧ x = .int .i64 n ∧ ((n * size = 0 ∧ new = []) ∨ (n * size ≠ 0 ∧ new = (Builtin.zeroCells z.cells n).toList)))

structure AppOK (P : Program) (w : World) (tys : Array TypeId) (st xt e : TypeId) (te : TyE) (n : Nat) (new : List Value) (x : Value) : Prop where
  t0 : tys[0]? = some st
  t1 : tys[1]? = some xt
  und : ∀ w', (underlying st).run P w' = .ok (.slice e) w'
  size : ∀ w', (Go.sizeOf e).run P w' = .ok te.size w'
  zero : ∀ w', (zeroValue e).run P w' = .ok te.zero w'
  info : ∀ w', ∃ i : TypeInfo, (typeInfo e).run P w' = .ok i w' ∧ i.bytes = te.bytes
  few : n ≤ 68719476736
  bytes : te.bytes ≤ 512
  news : News P w te.zero te.size n new xt x

theorem mul_small {n b : Nat} (h : n ≤ 68719476736) (hb : b ≤ 512) : n * b ≤ 35184372088832 := Nat.mul_le_mul h hb

set_option maxHeartbeats 1000000 in
theorem append_fit_none {P : Program} {w : World} {tys : Array TypeId} {st xt e ty : TypeId} {te : TyE} {n : Nat} {new : List Value} {x : Value} (ok : AppOK P w tys st xt e te n new x) {sLen sCap : Nat} (hc : sLen + n ≤ sCap) :
    (Builtin.append_ tys ty #[.slice none sLen sCap, x]).run P w = .ok (.slice none (sLen + n) sCap) w := by
  obtain ⟨h0, h1, hund, hsize, hzero, hinfo, hfew, hb, hnew⟩ := ok
  rcases hnew with ⟨u, hu, hz, hx⟩ | ⟨k, hu, rfl, hx⟩
  · obtain ⟨hl, hf⟩ := hx w rfl
    rcases hz with rfl | ⟨q, rfl⟩ <;>
      simp [Builtin.append_, h0, h1, hund, hsize, hu, hl, hf, hc]
  · have hw : IntKind.i64.wrap (n : Int) = n := wrap_small _ (by omega)
    obtain ⟨i, hi, hib⟩ := hinfo w
    have hm := mul_small hfew hb
    have hmI : ¬ (281474976710656 < (n : Int) * (te.bytes : Int)) := by have := Int.ofNat_le.2 hm; rw [Int.natCast_mul] at this; omega
    have hneg : ¬ ((n : Int) < 0) := by omega
    rcases hx with ⟨h2, rfl⟩ | ⟨h2, rfl⟩
    · simp [Builtin.append_, h0, h1, hund, hsize, hu, asInt, asIntOf, hw, hi, hib, hmI, hneg, hc, h2]
    · simp [Builtin.append_, h0, h1, hund, hsize, hu, asInt, asIntOf, hw, hi, hib, hmI, hneg, hc, hzero]

set_option maxHeartbeats 1000000 in
theorem append_fit {P : Program} {w w' : World} {tys : Array TypeId} {st xt e ty : TypeId} {te : TyE} {n : Nat} {new : List Value} {x : Value} (ok : AppOK P w tys st xt e te n new x) {sLen sCap : Nat} (hc : sLen + n ≤ sCap)
    {a : Addr} (hs : (storeCells (a.add (sLen * te.size)) new).run P w = .ok () w') :
    (Builtin.append_ tys ty #[.slice (some a) sLen sCap, x]).run P w = .ok (.slice (some a) (sLen + n) sCap) w' := by
  obtain ⟨h0, h1, hund, hsize, hzero, hinfo, hfew, hb, hnew⟩ := ok
  rcases hnew with ⟨u, hu, hz, hx⟩ | ⟨k, hu, rfl, hx⟩
  · obtain ⟨hl, hf⟩ := hx w rfl
    rcases hz with rfl | ⟨q, rfl⟩ <;>
      simp [Builtin.append_, h0, h1, hund, hsize, hu, hl, hf, hc, hs]
  · have hw : IntKind.i64.wrap (n : Int) = n := wrap_small _ (by omega)
    obtain ⟨i, hi, hib⟩ := hinfo w
    have hm := mul_small hfew hb
    have hmI : ¬ (281474976710656 < (n : Int) * (te.bytes : Int)) := by have := Int.ofNat_le.2 hm; rw [Int.natCast_mul] at this; omega
    have hneg : ¬ ((n : Int) < 0) := by omega
    rcases hx with ⟨h2, rfl⟩ | ⟨h2, rfl⟩
    · simp [Builtin.append_, h0, h1, hund, hsize, hu, asInt, asIntOf, hw, hi, hib, hmI, hneg, hc, h2, hs]
    · simp [Builtin.append_, h0, h1, hund, hsize, hu, asInt, asIntOf, hw, hi, hib, hmI, hneg, hc, h2, hzero, hs]

end Nt

namespace Nt
open Go

set_option maxHeartbeats 1000000 in
theorem append_grow {P : Program} {w : World} {tys : Array TypeId} {st xt e ty : TypeId} {te : TyE} {n : Nat} {new old : List Value} {x : Value} (ok : AppOK P w tys st xt e te n new x) {sLen sCap : Nat} (hc : sCap < sLen + n)
    (hn : sLen + n ≤ 68719476736) (hby : te.bytes ≠ 0) {base : Option Addr} (ho : ∀ w' : World, w'.heap = w.heap → (Builtin.firstCells te.size sLen (.slice base sLen sCap)).run P w' = .ok old.toArray w') :
    (Builtin.append_ tys ty #[.slice base sLen sCap, x]).run P w =
      .ok (.slice (some ⟨w.heap.size, 0, none⟩) (sLen + n) (grownCap w (sLen + n) sCap e))
        (w.drew.alloc (.cells (old.toArray ++ (new.toArray ++ Builtin.zeroCells te.zero.cells (grownCap w (sLen + n) sCap e - (sLen + n)))) e)) := by
  obtain ⟨h0, h1, hund, hsize, hzero, hinfo, hfew, hb, hnew⟩ := ok
  have hc' : ¬ (sLen + n ≤ sCap) := by omega
  obtain ⟨i, hi, hib⟩ := hinfo w
  obtain ⟨i', hi', hib'⟩ := hinfo w.drew
  have hfit : ¬ (281474976710656 < Builtin.nextslicecap (sLen + n) sCap * te.bytes) := by
    have := growslice_fits hc (Nat.le_trans (mul_small hn hb) (by omega)); omega
  have hmx : ¬ (9223372036854775807 < (sLen : Int) + (n : Int)) := by omega
  rcases hnew with ⟨u, hu, hz, hx⟩ | ⟨k, hu, rfl, hx⟩
  · obtain ⟨hl, _⟩ := hx w rfl
    obtain ⟨_, hf⟩ := hx w.drew rfl
    have ho' := ho w.drew rfl
    rcases hz with rfl | ⟨q, rfl⟩ <;>
      simp [Builtin.append_, h0, h1, hund, hsize, hu, hl, hf, hc', hi, hib, hi', hib', hfit, hmx, ho', hzero, Question.forced, newRow, grownCap]
  · have hw : IntKind.i64.wrap (n : Int) = n := wrap_small _ (by omega)
    have hm := mul_small hfew hb
    have hmI : ¬ (281474976710656 < (n : Int) * (te.bytes : Int)) := by have := Int.ofNat_le.2 hm; rw [Int.natCast_mul] at this; omega
    have hneg : ¬ ((n : Int) < 0) := by omega
    have ho' := ho w.drew rfl
    rcases hx with ⟨h2, rfl⟩ | ⟨h2, rfl⟩
    · simp [Builtin.append_, h0, h1, hund, hsize, hu, asInt, asIntOf, hw, hi, hib, hmI, hneg, hc', h2, hi', hib', hfit, hmx, ho', hzero, Question.forced, newRow, grownCap]
    · simp [Builtin.append_, h0, h1, hund, hsize, hu, asInt, asIntOf, hw, hi, hib, hmI, hneg, hc', h2, hi', hib', hfit, hmx, ho', hzero, Question.forced, newRow, grownCap]

end Nt

namespace Nt
open Go

theorem firstD_all {ρ : Ren} {h : AHeap} {w : World} (hr : HR ρ h w.heap) {size n : Nat} {v v' : Value} (hv : VR ρ v v') {l : List Value} (hf : firstD h size n v = some l) (P : Program) :
    ∃ l', (∀ w' : World, w'.heap = w.heap → (Builtin.firstCells size n v').run P w' = .ok l'.toArray w') ∧ VRL ρ l l' := by
  unfold firstD at hf
  split at hf
  · rename_i b o ln c
    cases hz : Nat.beq (Nat.mul n size) 0 with
    | true =>
      rw [hz, bcond_true] at hf; cases hf
      have hz' : n * size = 0 := beq_true hz
      rcases hv.slice_inv with ⟨L, _, e, _⟩ | ⟨_, _, a', c', e⟩ <;> (rw [e]; exact ⟨[], fun w' _ => by simp [Builtin.firstCells, hz', loadCells, loadCellsFrom], VRL.nil ρ⟩)
    | false =>
      rw [hz, bcond_false] at hf
      cases hvc : Nat.beq c voidCap with
      | true => rw [hvc] at hf; cases hf
      | false =>
      rw [hvc, bcond_false] at hf
      split at hf
      · rename_i cs hb
        rcases hv.slice_inv with ⟨L, hL, e', _⟩ | ⟨h0, h1, _⟩
        · obtain ⟨cs', e, f, h1, h2⟩ := hr.known hb hL
          obtain ⟨l', e1, e2, e3⟩ := h2.sub hf
          refine ⟨l', fun w' hw => ?_, e2⟩
          rw [e']
          have := run_cells (P := P) (w := w') (o := L.base + o) (by rw [hw]; exact h1) e3
          rw [e1] at this
          exact this
        · rw [h1, Nat.beq_refl] at hvc; cases hvc
      · cases hf
  · rename_i ln c
    cases hz : Nat.beq (Nat.mul n size) 0 with
    | true =>
      rw [hz, bcond_true] at hf; cases hf
      rw [hv.sliceNil_inv]
      exact ⟨[], fun _ _ => rfl, VRL.nil ρ⟩
    | false => rw [hz] at hf; cases hf
  · rename_i s
    obtain ⟨l', h1, h2⟩ := firstD_ok (h := h) (w := w) (size := size) (n := n) (l := l) hr hv hf P
    refine ⟨l', fun w' _ => ?_, h2⟩
    rw [hv.string_inv] at h1 ⊢
    simp only [Builtin.firstCells, Sem.run_pure] at h1 ⊢
    have := congrArg (fun q : Result (Array Value) => match q with | .ok a _ => a | _ => #[]) h1
    simp only at this
    rw [this]
  · cases hf

theorem newD_ok {T : TyT} {P : Program} (hT : TabOK T P) {ρ : Ren} {h : AHeap} {w : World} (hr : HR ρ h w.heap) {e : TypeId} {te : TyE} (he : T.get e = some te) {xt : TypeId} {x x' : Value} (hx : VR ρ x x') {n : Nat} {new : List Value}
    (hd : newD T h te (some xt) x = some (n, new)) (hlen : new.length = n * te.size) (hs0 : te.size ≠ 0) : ∃ new', VRL ρ new new' ∧ News P w te.zero te.size n new' xt x' := by
  unfold newD at hd
  simp only at hd
  cases hq : T.get xt with
  | none => rw [hq] at hd; cases hd
  | some ex =>
    rw [hq] at hd
    simp only at hd
    have hund : ∀ w', (underlying xt).run P w' = .ok ex.u w' := fun w' => run_und hT hq w'
    have hseq : (ex.u = .string ∨ ∃ q, ex.u = .slice q) → (match lenV x with | none => none | some n => match firstD h te.size n x with | some l => some (n, l) | none => none) = some (n, new) →
        ∃ new', VRL ρ new new' ∧ News P w te.zero te.size n new' xt x' := by
      intro hu hd
      cases hl : lenV x with
      | none => rw [hl] at hd; cases hd
      | some m =>
        rw [hl] at hd
        simp only at hd
        cases hf : firstD h te.size m x with
        | none => rw [hf] at hd; cases hd
        | some l =>
          rw [hf] at hd; cases hd
          obtain ⟨l', h1, h2⟩ := firstD_all hr hx hf P
          exact ⟨l', h2, .inl ⟨ex.u, hund, hu, fun w' hw => ⟨lenV_ok hx hl P w', h1 w' hw⟩⟩⟩
    split at hd
    · rename_i q hu; exact hseq (.inr ⟨q, by simpa using hu⟩) hd
    · rename_i hu; exact hseq (.inl (by simpa using hu)) hd
    · rename_i k hu
      have hu : ex.u = .int k := by simpa using hu
      cases hn : natOf x with
      | none => rw [hn] at hd; cases hd
      | some m =>
        rw [hn] at hd
        simp only at hd
        cases h1 : Nat.ble m 68719476736 with
        | false => rw [h1] at hd; cases hd
        | true =>
          rw [h1, bcond_true] at hd
          cases h2 : Nat.beq (len (cellsL te.zero)) te.size with
          | false => rw [h2] at hd; cases hd
          | true =>
            rw [h2, bcond_true] at hd; cases hd
            rw [len_eq] at h2
            have hzl := beq_true h2
            have hz := (VR.of_gndC (ρ := ρ) (hT.zero e te he).1).cellsL
            have hzs : te.zero.cells.size = te.size := by rw [← Array.length_toList, cellsL_cells]; exact hzl
            have hx' := natOf_some hx hn
            by_cases h0 : n * te.size = 0
            · refine ⟨[], ?_, .inr ⟨k, fun w' => by rw [hund, hu], hx', .inl ⟨h0, rfl⟩⟩⟩
              have : rep (cellsL te.zero) n = [] := List.length_eq_zero_iff.1 (by rw [rep_length, hzl]; exact h0)
              rw [this]; exact VRL.nil ρ
            · refine ⟨_, ?_, .inr ⟨k, fun w' => by rw [hund, hu], hx', .inr ⟨h0, rfl⟩⟩⟩
              have : (Builtin.zeroCells te.zero.cells n).toList = rep te.zero.cells.toList n := rep_model te.zero.cells n _ rfl (by rw [hzs]; exact hs0)
              rw [this, cellsL_cells]
              exact hz.rep n
    · cases hd

end Nt

namespace Nt
open Go

/-- A block is not used any more. -/
theorem Ev.kill {ρ : Ren} {h : AHeap} {w : World} (hr : HR ρ h w.heap) (x : Nat) (hn : ∀ c, h.get x ≠ some (.row c)) : Ev ρ h w ρ (h.kill x) w where
  next := Nat.le_refl _
  sub := Sub.refl _
  out _ _ := rfl
  rel := by
    have ex : ∀ {b : Nat} {o : AObj}, (h.kill x).get b = some o → h.get b = some o := fun {b o} hb => by
      rw [AHeap.get_kill] at hb
      split at hb
      · cases hb
      · exact hb
    refine ⟨fun b o hb => hr.obj b o (ex hb), fun b b' o o' L L' h1 h2 => hr.inj b b' o o' L L' (ex h1) (ex h2), fun b hb => ?_⟩
    rw [AHeap.get_kill]
    split
    · rfl
    · exact hr.fresh b hb
  size := Nat.le_refl _
  keep r _ hi := by
    refine ⟨fun ⟨b, o, L, h1, h2, h3⟩ => ?_, rfl⟩
    rw [AHeap.get_kill] at h1
    split at h1
    · cases h1
    · exact hi ⟨b, o, L, h1, h2, h3⟩
  rows b c L hb hL := by
    have hne : b ≠ x := fun e => by subst e; exact hn c hb
    exact ⟨by rw [AHeap.get_kill, if_neg hne]; exact hb, rfl⟩
  tape := rfl
  os := rfl
  output := rfl

/-- A new block takes the place of another one. -/
theorem Ev.move {ρ : Ren} {h : AHeap} {w : World} (hr : HR ρ h w.heap) {b : Nat} {o : AObj} {L : Loc} (hb : h.get b = some o) (hL : ρ b = some L) (hf : ρ h.next = none) (M : Loc) (hM : M.r = L.r) (o' : AObj) (co' : Obj)
    (ho : OR (upd ρ h.next M) M o' co') (hn : isRow o = false := by rfl) : Ev ρ h w (upd ρ h.next M) ((h.kill b).alloc o') { w with heap := w.heap.setIfInBounds L.r co' } where
  next := Nat.le_succ _
  sub := upd_sub _ hf
  out x hx := upd_ne _ _ (by have : ((h.kill b).alloc o').next = h.next + 1 := rfl; omega)
  rel := by
    have hlt := hr.lt hb hL
    have hs := upd_sub M hf
    have hnx : (h.kill b).next = h.next := rfl
    have ex : ∀ {x : Nat} {u : AObj}, ((h.kill b).alloc o').get x = some u → (x = h.next ∧ u = o') ∨ (x ≠ h.next ∧ x ≠ b ∧ h.get x = some u) := fun {x u} hx => by
      rw [AHeap.get_alloc, hnx, AHeap.get_kill] at hx
      by_cases e : x = h.next
      · rw [if_pos e] at hx; cases hx; exact .inl ⟨e, rfl⟩
      · rw [if_neg e] at hx
        by_cases e' : x = b
        · rw [if_pos e'] at hx; cases hx
        · rw [if_neg e'] at hx; exact .inr ⟨e, e', hx⟩
    refine ⟨fun x u hx => ?_, fun x x' u u' N N' h1 h2 h3 h4 e => ?_, fun x hx => ?_⟩
    · rcases ex hx with ⟨rfl, rfl⟩ | ⟨e1, e2, hx⟩
      · exact ⟨M, co', upd_same _ _ _, by rw [hM]; simp [hlt], ho⟩
      · obtain ⟨N, co, h1, h2, h3⟩ := hr.obj x u hx
        refine ⟨N, co, hs _ _ h1, ?_, h3.mono hs⟩
        have : L.r ≠ N.r := fun e' => e2 (hr.inj _ _ _ _ _ _ hx hb h1 hL e'.symm)
        rw [Array.getElem?_setIfInBounds_ne this]; exact h2
    · rcases ex h1 with ⟨rfl, rfl⟩ | ⟨e1, e2, g1⟩ <;> rcases ex h2 with ⟨rfl, rfl⟩ | ⟨e3, e4, g2⟩
      · rfl
      · exfalso
        rw [upd_same] at h3; cases h3
        rw [upd_ne _ _ e3] at h4
        exact e4 (hr.inj _ _ _ _ _ _ g2 hb h4 hL (by rw [← e, hM]))
      · exfalso
        rw [upd_same] at h4; cases h4
        rw [upd_ne _ _ e1] at h3
        exact e2 (hr.inj _ _ _ _ _ _ g1 hb h3 hL (by rw [e, hM]))
      · rw [upd_ne _ _ e1] at h3; rw [upd_ne _ _ e3] at h4
        exact hr.inj _ _ _ _ _ _ g1 g2 h3 h4 e
    · have hq : ((h.kill b).alloc o').next = h.next + 1 := rfl
      rw [hq] at hx
      rw [AHeap.get_alloc, hnx, if_neg (by omega), AHeap.get_kill]
      split
      · rfl
      · exact hr.fresh x (by omega)
  size := by simp
  keep r hlt hi := by
    have hne : r ≠ L.r := fun e => hi ⟨b, o, L, hb, hL, e.symm⟩
    refine ⟨fun ⟨x, u, N, h1, h2, h3⟩ => ?_, by simp only; rw [Array.getElem?_setIfInBounds_ne (Ne.symm hne)]⟩
    rw [AHeap.get_alloc, AHeap.get_kill] at h1
    have hnx : (h.kill b).next = h.next := rfl
    rw [hnx] at h1
    by_cases e : x = h.next
    · rw [e, upd_same] at h2; cases h2; exact hne (by rw [← h3, hM])
    · rw [if_neg e] at h1
      rw [upd_ne _ _ e] at h2
      split at h1
      · cases h1
      · exact hi ⟨x, u, N, h1, h2, h3⟩
  rows x c N hx hN := by
    have hne : x ≠ b := fun e => by
      subst e; rw [hx] at hb; cases hb; cases hn
    have hne2 : x ≠ h.next := fun e => by have := hr.below hx; omega
    have : L.r ≠ N.r := fun e' => hne (hr.inj _ _ _ _ _ _ hx hb hN hL e'.symm)
    exact ⟨by rw [AHeap.get_alloc, AHeap.get_kill, if_neg (show x ≠ (h.kill b).next from hne2), if_neg hne]; exact hx, by simp [Array.getElem?_setIfInBounds_ne this]⟩
  tape := rfl
  os := rfl
  output := rfl

/-- The array that an append makes. -/
theorem or_grown {ρ : Ren} {old new old' new' rest : List Value} {e : TypeId} {r size extra fz : Nat} (ho : VRL ρ old old') (hn : VRL ρ new new') (hrest : rest.length = extra * size) (hs : size ≠ 0) :
    OR ρ ⟨r, 0, extra⟩ (.cells (app old new) e size fz) (.cells (old'.toArray ++ (new'.toArray ++ rest.toArray)) e) where
  elem := rfl
  room := by
    have h1 := ho.1; have h2 := hn.1
    rw [app_eq, List.length_append]
    simp only [Array.size_append, List.size_toArray]
    show 0 + _ + extra * size ≤ _
    omega
  exact h := absurd h hs
  cell i x hx := by
    rw [app_eq] at hx
    obtain ⟨y, h1, h2⟩ := (ho.append hn).get hx
    refine ⟨y, ?_, h2⟩
    have hi : i < (old' ++ new').length := (List.getElem?_eq_some_iff.1 h1).1
    have : (old'.toArray ++ (new'.toArray ++ rest.toArray)) = ((old' ++ new') ++ rest).toArray := by simp
    rw [this, List.getElem?_toArray]
    show ((old' ++ new') ++ rest)[0 + i]? = some y
    rw [Nat.zero_add, List.getElem?_append_left hi, h1]
  ice := .inl rfl

end Nt

namespace Nt
open Go

theorem appOK_mk {T : TyT} {P : Program} (hT : TabOK T P) {w : World} {st e xt : TypeId} {te : TyE} {es eb : Nat} {ez : Value} {eq : Bool} (ht : T.get st = some ⟨.slice e, es, eb, ez, eq⟩) (he : T.get e = some te) {tys : Array TypeId} (t0 : tys[0]? = some st) (t1 : tys[1]? = some xt)
    {n : Nat} {new : List Value} {x : Value} (hfew : n ≤ 68719476736) (hb : te.bytes ≤ 512) (hn : News P w te.zero te.size n new xt x) : AppOK P w tys st xt e te n new x where
  t0 := t0
  t1 := t1
  und w' := run_und hT ht w'
  size w' := run_size hT he w'
  zero w' := run_zero hT he w'
  info w' := by obtain ⟨i, h1, _, h2⟩ := run_typeInfo hT he w'; exact ⟨i, h1, h2⟩
  few := hfew
  bytes := hb
  news := hn

/-- A new array. -/
theorem append_new {T : TyT} {P : Program} (hT : TabOK T P) {ρ : Ren} {h : AHeap} {w : World} (hr : HR ρ h w.heap) {st e xt ty : TypeId} {te : TyE} (he : T.get e = some te) {tys : Array TypeId} {n : Nat} {new new' old old' : List Value} {x' : Value}
    (ok : AppOK P w tys st xt e te n new' x') (hn : VRL ρ new new') (hfree : ρ h.next = none) {sLen sCap : Nat} (hc : sCap < sLen + n) (hsm : sLen + n ≤ 68719476736) (hby : te.bytes ≠ 0) (hs0 : te.size ≠ 0) (hzl : (cellsL te.zero).length = te.size)
    {base : Option Addr} (ho : VRL ρ old old') (hrun : ∀ w' : World, w'.heap = w.heap → (Builtin.firstCells te.size sLen (.slice base sLen sCap)).run P w' = .ok old'.toArray w') (fz : Nat) :
    ∃ ρ' r' w', (Builtin.append_ tys ty #[.slice base sLen sCap, x']).run P w = .ok r' w' ∧ VR ρ' (.slice (some ⟨h.next, 0, none⟩) (sLen + n) (sLen + n + big)) r' ∧ Ev ρ h w ρ' (h.alloc (.cells (app old new) e te.size fz)) w' := by
  have hg := append_grow (ty := ty) ok hc hsm hby hrun
  have hz : te.zero.cells.size = te.size := by rw [← Array.length_toList, cellsL_cells]; exact hzl
  have hcap : sLen + n ≤ grownCap w (sLen + n) sCap e := by
    simp only [grownCap, Question.cut]
    exact Nat.le_add_right _ _
  refine ⟨upd ρ h.next ⟨w.heap.size, 0, grownCap w (sLen + n) sCap e - (sLen + n)⟩, _, _, hg, ?_, ?_⟩
  · have := VR.slice (ρ := upd ρ h.next ⟨w.heap.size, 0, grownCap w (sLen + n) sCap e - (sLen + n)⟩) (b := h.next) 0 (sLen + n) (sLen + n + big) (upd_same _ _ _)
    have hcp : capOf ⟨w.heap.size, 0, grownCap w (sLen + n) sCap e - (sLen + n)⟩ (sLen + n + big) = grownCap w (sLen + n) sCap e := by
      unfold capOf; rw [if_neg (by omega)]; simp only; omega
    rw [hcp] at this
    exact this
  · have hs := upd_sub ⟨w.heap.size, 0, grownCap w (sLen + n) sCap e - (sLen + n)⟩ hfree
    have hrest : (Builtin.zeroCells te.zero.cells (grownCap w (sLen + n) sCap e - (sLen + n))) = (Builtin.zeroCells te.zero.cells (grownCap w (sLen + n) sCap e - (sLen + n))).toList.toArray := by simp
    rw [hrest]
    have h1 : Ev ρ h w ρ h w.drew := Ev.drawn hr _
    have h2 := Ev.alloc (w := w.drew) h1.rel hfree (.cells (app old new) e te.size fz) _ (grownCap w (sLen + n) sCap e - (sLen + n))
      (or_grown (fz := fz) (r := w.drew.heap.size) (e := e) (rest := (Builtin.zeroCells te.zero.cells (grownCap w (sLen + n) sCap e - (sLen + n))).toList) (size := te.size) (extra := grownCap w (sLen + n) sCap e - (sLen + n)) (ho.mono hs) (hn.mono hs)
        (by simp [Builtin.zeroCells, hz]) hs0)
    exact h1.trans h2

end Nt

namespace Nt
open Go

/-- An array that was grown already has room: the new elements lie behind the old ones. -/
theorem append_place {P : Program} {ρ : Ren} {h : AHeap} {w : World} (hr : HR ρ h w.heap) {st e xt ty : TypeId} {te : TyE} {tys : Array TypeId} {n : Nat} {new new' old old' : List Value} {x' : Value}
    {b o fz : Nat} {c : List Value} {L : Loc} (hb : h.get b = some (.cells c e te.size fz)) (hL : ρ b = some L)
    (ok : AppOK P w tys st xt e te n new' x') (hn : VRL ρ new new') (hone : alls one new = true) (hlen : new.length = n * te.size) (hs0 : te.size ≠ 0) (hfree : ρ h.next = none) {ln k : Nat} (k1 : o + k * te.size = c.length) (k4 : ln ≤ k)
    (k5 : fz ≤ o + ln * te.size) (hin : k + L.extra ≥ ln + n) {cs : Array Value} {f : Nat × Nat} (hc1 : w.heap[L.r]? = some (.cells cs e f)) (hc2 : CellsR ρ L c e te.size fz cs e f)
    (o1 : old'.length = ln * te.size) (o2 : VRL ρ old old') (o3 : ∀ (j : Nat) (v : Value), old'[j]? = some v → cs[L.base + o + j]? = some v) :
    ∃ ρ' r' w', (Builtin.append_ tys ty #[.slice (some ⟨L.r, L.base + o, none⟩) ln (k + L.extra), x']).run P w = .ok r' w' ∧ VR ρ' (.slice (some ⟨h.next, 0, none⟩) (ln + n) (ln + n + big)) r' ∧
      Ev ρ h w ρ' ((h.kill b).alloc (.cells (app old new) e te.size (fz - o))) w' := by
  have hroom := hc2.room
  have hn1 := hn.1
  have m1 : (ln + n) * te.size ≤ (k + L.extra) * te.size := Nat.mul_le_mul_right _ hin
  have m2 : (ln + n) * te.size = ln * te.size + n * te.size := Nat.add_mul _ _ _
  have m3 : (k + L.extra) * te.size = k * te.size + L.extra * te.size := Nat.add_mul _ _ _
  have m4 : (k + L.extra - (ln + n)) * te.size = (k + L.extra) * te.size - (ln + n) * te.size := Nat.sub_mul _ _ _
  have hsz : L.base + (o + ln * te.size) + 0 + new'.length ≤ cs.size := by omega
  have hst := run_storeCells (P := P) (o := L.base + (o + ln * te.size)) new' 0 cs w hc1 hsz (fun u hu => by
      obtain ⟨i, hi, rfl⟩ := List.getElem_of_mem hu
      rw [alls_eq, List.all_eq_true] at hone
      have hi' : i < new.length := by rw [hn1]; exact hi
      have := hn.2 i new[i] new'[i] (List.getElem?_eq_getElem hi') (List.getElem?_eq_getElem hi)
      rw [← this.one]
      exact hone _ (List.getElem_mem hi')) (fun j h3 h4 => hc2.free j (by omega) (by omega))
  have hs := upd_sub (⟨L.r, L.base + o, k + L.extra - (ln + n)⟩ : Loc) hfree
  refine ⟨upd ρ h.next ⟨L.r, L.base + o, k + L.extra - (ln + n)⟩, .slice (some ⟨L.r, L.base + o, none⟩) (ln + n) (k + L.extra), _, append_fit ok hin (by rw [add_addr, Nat.add_assoc]; exact hst), ?_, ?_⟩
  · have := VR.slice (ρ := upd ρ h.next ⟨L.r, L.base + o, k + L.extra - (ln + n)⟩) (b := h.next) 0 (ln + n) (ln + n + big) (upd_same _ _ _)
    have hcp : capOf ⟨L.r, L.base + o, k + L.extra - (ln + n)⟩ (ln + n + big) = k + L.extra := by
      unfold capOf; rw [if_neg (by omega)]; simp only; omega
    rw [hcp] at this
    exact this
  · refine Ev.move hr hb hL hfree ⟨L.r, L.base + o, k + L.extra - (ln + n)⟩ rfl _ _ ?_
    have hol := o2.1
    exact {
      elem := rfl
      room := by
        rw [app_eq, List.length_append, putA_size]
        show L.base + o + _ + (k + L.extra - (ln + n)) * te.size ≤ _
        omega
      exact := fun h => absurd h hs0
      cell := fun i x hx => by
        rw [app_eq] at hx
        show ∃ y, (putA cs (L.base + (o + ln * te.size) + 0) new')[L.base + o + i]? = some y ∧ _
        rw [← Array.getElem?_toList, putA_toList new' cs _ hsz, lput_get (by simpa using hsz)]
        by_cases h1 : i < ln * te.size
        · rw [if_neg (by omega)]
          rw [List.getElem?_append_left (by omega)] at hx
          obtain ⟨y, y1, y2⟩ := o2.get hx
          exact ⟨y, by rw [Array.getElem?_toList]; exact o3 i y y1, y2.mono hs⟩
        · have hi : i < (old ++ new).length := (List.getElem?_eq_some_iff.1 hx).1
          rw [List.length_append] at hi
          rw [if_pos (by omega)]
          rw [List.getElem?_append_right (by omega)] at hx
          obtain ⟨y, y1, y2⟩ := hn.get hx
          exact ⟨y, by rw [← y1]; congr 1; omega, y2.mono hs⟩
      ice := by
        rcases hc2.ice with h | h
        · exact .inl h
        · refine .inr ?_
          show f.2 ≤ L.base + o + (fz - o)
          omega }

theorem append_ok {T : TyT} {P : Program} (hT : TabOK T P) {ρ : Ren} {h h' : AHeap} {w : World} (hr : HR ρ h w.heap) {st xt : TypeId} {s s' x x' r : Value} (hs : VR ρ s s') (hx : VR ρ x x')
    (hd : dAppend T h st (some xt) s x = some (r, h')) (hfree : Free ρ h.next h'.next) {tys : Array TypeId} (t0 : tys[0]? = some st) (t1 : tys[1]? = some xt) (ty : TypeId) :
    ∃ ρ' r' w', (Builtin.append_ tys ty #[s', x']).run P w = .ok r' w' ∧ VR ρ' r r' ∧ Ev ρ h w ρ' h' w' := by
  unfold dAppend at hd
  split at hd
  · rename_i e es eb ez eq ht
    split at hd
    · rename_i te base ln cap he
      cases hnd : newD T h te (some xt) x with
      | none => rw [hnd] at hd; cases hd
      | some q =>
        obtain ⟨n, new⟩ := q
        rw [hnd] at hd
        simp only at hd
        cases hq : (Nat.beq te.size 0 || Nat.beq te.bytes 0 || !(alls one new) || !(Nat.beq (len new) (n * te.size)) || !(small (ln + n)) || !(smallT te)) with
        | true => rw [hq] at hd; cases hd
        | false =>
          rw [hq, bcond_false] at hd
          simp only [Bool.or_eq_false_iff, Bool.not_eq_false', len_eq] at hq
          obtain ⟨⟨⟨⟨⟨hq1, hq2⟩, hone⟩, hq4⟩, hq5⟩, hq6⟩ := hq
          have hs0 : te.size ≠ 0 := fun e => by rw [e] at hq1; cases hq1
          have hby : te.bytes ≠ 0 := fun e => by rw [e] at hq2; cases hq2
          have hlen := beq_true hq4
          have hsm : ln + n ≤ 68719476736 := ble_true hq5
          have hb512 : te.bytes ≤ 512 := ble_true hq6
          obtain ⟨new', hn, hnews⟩ := newD_ok hT hr he hx hnd hlen hs0
          have ok := appOK_mk hT ht he t0 t1 (by omega) hb512 hnews
          have hz : (cellsL te.zero).length = te.size := (hT.zero e te he).2
          cases hbig : Nat.ble big cap with
          | true =>
            rw [hbig, bcond_true] at hd
            have hbig := ble_true hbig
            split at hd
            · rename_i b o
              split at hd
              · rename_i c ce g fz hb
                cases hk : (Nat.beq (o + (cap - big) * te.size) (len c) && Nat.beq ce e && Nat.beq g te.size && Nat.ble ln (cap - big) && Nat.ble fz (o + ln * te.size) && Nat.ble (cap - big) 68719476736) with
                | false => rw [hk] at hd; cases hd
                | true =>
                  rw [hk, bcond_true] at hd
                  simp only [Bool.and_eq_true, len_eq] at hk
                  obtain ⟨⟨⟨⟨⟨k1, k2⟩, k3⟩, k4⟩, k5⟩, k6⟩ := hk
                  have k1 := beq_true k1; have k2 := beq_true k2; have k3 := beq_true k3
                  have k4 := ble_true k4; have k5 := ble_true k5; have k6 := ble_true k6
                  subst k2; subst k3
                  rcases hs.slice_inv with ⟨L, hL, e1, _⟩ | ⟨_, e0, _⟩
                  · have hcap : capOf L cap = cap - big + L.extra := by unfold capOf; rw [if_neg (by omega)]
                    obtain ⟨cs, f, hc1, hc2⟩ := hr.cells hb hL
                    cases hn0 : Nat.beq n 0 with
                    | true =>
                      rw [hn0, bcond_true] at hd; cases hd
                      have hn0 := beq_true hn0
                      subst hn0
                      have hnil : new' = [] := List.length_eq_zero_iff.1 (by rw [← hn.1, hlen, Nat.zero_mul])
                      subst hnil
                      refine ⟨ρ, s', w, ?_, hs, Ev.refl hr⟩
                      rw [e1]
                      exact append_fit ok (by rw [hcap]; omega) rfl
                    | false =>
                      rw [hn0, bcond_false] at hd
                      cases hfit : Nat.ble (ln + n) (cap - big) with
                      | true =>
                        rw [hfit, bcond_true] at hd
                        have hfit := ble_true hfit
                        obtain ⟨rfl, w', h3, h4⟩ := putIn_ok (P := P) hr hn hone hd hL
                        refine ⟨ρ, _, w', ?_, VR.slice o (ln + n) cap hL, h4⟩
                        rw [e1]
                        exact append_fit ok (by rw [hcap]; omega) (by rw [add_addr, Nat.add_assoc]; exact h3)
                      | false =>
                        rw [hfit, bcond_false] at hd
                        have hfit := ble_false hfit
                        cases hso : Nt.sub c o (ln * te.size) with
                        | none => rw [hso] at hd; cases hd
                        | some old =>
                          rw [hso] at hd; cases hd
                          have hfr : ρ h.next = none := hfree h.next (Nat.le_refl _) (Nat.lt_succ_self _)
                          obtain ⟨old', o1, o2, o3⟩ := hc2.row.sub hso
                          rcases Nat.lt_or_ge (cap - big + L.extra) (ln + n) with hgr | hin
                          · -- grown
                            have hrun : ∀ w' : World, w'.heap = w.heap → (Builtin.firstCells te.size ln (.slice (some ⟨L.r, L.base + o, none⟩) ln (cap - big + L.extra))).run P w' = .ok old'.toArray w' := by
                              intro w' hw
                              have := run_cells (P := P) (w := w') (o := L.base + o) (by rw [hw]; exact hc1) o3
                              rw [o1] at this
                              exact this
                            have hk := Ev.kill hr b (fun c' hc' => by simp_all)
                            obtain ⟨ρ', r', w', g1, g2, g3⟩ := append_new (ty := ty) hT hk.rel he ok hn hfr hgr hsm hby hs0 hz o2 hrun (fz - o)
                            refine ⟨ρ', r', w', ?_, g2, hk.trans g3⟩
                            rw [e1, hcap]; exact g1
                          · -- in place
                            rw [e1, hcap]
                            exact append_place (ty := ty) hr hb hL ok hn hone hlen hs0 hfr k1 k4 k5 hin hc1 hc2 o1 o2 o3
                  · exfalso; rw [e0] at k6; unfold voidCap big at k6; omega
              · cases hd
            · cases hd
          | false =>
            rw [hbig, bcond_false] at hd
            have hbig := ble_false hbig
            cases hfit : Nat.ble (ln + n) cap with
            | true =>
              rw [hfit, bcond_true] at hd
              have hfit := ble_true hfit
              split at hd
              · rename_i b o
                rcases hs.slice_inv with ⟨L, hL, e1, _⟩ | ⟨_, e0, _⟩
                · have hcap : capOf L cap = cap := by unfold capOf; rw [if_pos hbig]
                  obtain ⟨rfl, w', h3, h4⟩ := putIn_ok (P := P) hr hn hone hd hL
                  refine ⟨ρ, _, w', ?_, VR.slice o (ln + n) cap hL, h4⟩
                  rw [e1]
                  exact append_fit ok (by rw [hcap]; omega) (by rw [add_addr, Nat.add_assoc]; exact h3)
                · exfalso; rw [e0] at hbig; unfold voidCap big at hbig; omega
              · cases hz0 : Nat.beq (ln + n) 0 with
                | false => rw [hz0] at hd; cases hd
                | true =>
                  rw [hz0, bcond_true] at hd; cases hd
                  have hz0 := beq_true hz0
                  refine ⟨ρ, _, w, ?_, .sliceNil 0 cap, Ev.refl hr⟩
                  rw [hs.sliceNil_inv, append_fit_none ok hfit, hz0]
              · cases hd
            | false =>
              rw [hfit, bcond_false] at hd
              have hfit := ble_false hfit
              cases hsc : small cap with
              | false => rw [hsc] at hd; cases hd
              | true =>
                rw [hsc, bcond_true] at hd
                cases hfo : firstD h te.size ln (.slice base ln cap) with
                | none => rw [hfo] at hd; cases hd
                | some old =>
                  rw [hfo] at hd; cases hd
                  have hfr : ρ h.next = none := hfree h.next (Nat.le_refl _) (Nat.lt_succ_self _)
                  obtain ⟨old', f1, f2⟩ := firstD_all hr hs hfo P
                  have hs' : ∃ base', s' = .slice base' ln cap := by
                    cases base with
                    | none => exact ⟨none, hs.sliceNil_inv⟩
                    | some a =>
                      rcases hs.slice_inv with ⟨L, hL, e1, _⟩ | ⟨_, e0, _⟩
                      · have hcap : capOf L cap = cap := by unfold capOf; rw [if_pos hbig]
                        rw [hcap] at e1; exact ⟨_, e1⟩
                      · exfalso; rw [e0] at hbig; unfold voidCap big at hbig; omega
                  obtain ⟨base', rfl⟩ := hs'
                  exact append_new (ty := ty) hT hr he ok hn hfr hfit hsm hby hs0 hz f2 f1 0
    · cases hd
  · cases hd

end Nt

namespace Nt
open Go

theorem clear_ok {T : TyT} {P : Program} (hT : TabOK T P) {ρ : Ren} {h h' : AHeap} {w : World} (hr : HR ρ h w.heap) {args : Array Operand} {tys : Array TypeId} {env env' : Env} (henv : EnvR ρ env env' args) {r : Value}
    (hd : hClear args tys T env h = some (r, h')) (ty : TypeId) : ∃ w', (Builtin.clear_ tys ty (args.map env')).run P w = .ok (.tuple #[]) w' ∧ r = .tuple #[] ∧ Ev ρ h w ρ h' w' := by
  unfold hClear at hd
  split at hd
  · rename_i x t ha ht
    have ea : args = #[x] := Array.ext' (by simpa using ha)
    have et : tys = #[t] := Array.ext' (by simpa using ht)
    subst ea; subst et
    have hx := henv x (by simp)
    split at hd
    · rename_i k v _ _ _ _ b hq hb
      have hund := run_und hT hq w
      simp only at hund
      split at hd
      · rename_i es clock hm
        cases hd
        rw [hb] at hx
        obtain ⟨L, hL, e⟩ := hx.map_inv
        obtain ⟨es', h1, _⟩ := hr.map hm hL
        have hget := run_getObj (P := P) h1 (fun _ _ _ e => by cases e)
        refine ⟨_, ?_, rfl, Ev.put hr hm hL _ (.map #[] clock) ⟨rfl, rfl, fun i x y hx => by simp at hx⟩⟩
        simp [Builtin.clear_, e, hund, hget, run_setObj _ h1 (fun _ _ _ e => by cases e)]
      · cases hd
    · rename_i k v _ _ _ _ hq hb
      cases hd
      have hund := run_und hT hq w
      simp only at hund
      rw [hb] at hx
      refine ⟨w, ?_, rfl, Ev.refl hr⟩
      simp [Builtin.clear_, hx.mapNil_inv, hund]
    · rename_i e _ _ _ _ base n c hq hb
      have hund := run_und hT hq w
      simp only at hund
      rw [hb] at hx
      cases h0 : Nat.beq n 0 with
      | true =>
        rw [h0, bcond_true] at hd
        cases hd
        have hn := beq_true h0
        subst hn
        refine ⟨w, ?_, rfl, Ev.refl hr⟩
        cases base with
        | none => simp [Builtin.clear_, hx.sliceNil_inv, hund]
        | some a =>
          rcases hx.slice_inv with ⟨L, _, e', _⟩ | ⟨_, _, a', c', e'⟩
          · simp [Builtin.clear_, e', hund]
          · simp [Builtin.clear_, e', hund]
      | false =>
        rw [h0, bcond_false] at hd
        have hn0 : n ≠ 0 := fun e => by rw [e] at h0; cases h0
        split at hd
        · rename_i b o te he
          cases hz : (Nat.beq te.size 0 || !(alls one (rep (cellsL te.zero) n))) with
          | true => rw [hz] at hd; cases hd
          | false =>
            rw [hz, bcond_false] at hd
            rw [Bool.or_eq_false_iff, Bool.not_eq_false'] at hz
            rcases hx.slice_inv with ⟨L, hL, e', _⟩ | ⟨e0, _, _⟩
            case inr => exact absurd e0 hn0
            have hzt := hT.zero e te he
            have hzs : te.zero.cells.size = te.size := by rw [← Array.length_toList, cellsL_cells]; exact hzt.2
            have hs0 : te.size ≠ 0 := fun e => by rw [e] at hz; cases hz.1
            have hzl := ((VR.of_gndC (ρ := ρ) hzt.1).cellsL).rep n
            obtain ⟨rfl, w', h1, h2⟩ := putIn_ok (P := P) hr hzl hz.2 hd hL
            refine ⟨w', ?_, rfl, h2⟩
            have hm : (Builtin.zeroCells te.zero.cells n).toList = rep (cellsL te.zero) n := by
              rw [← cellsL_cells]
              exact rep_model te.zero.cells n _ rfl (by rw [hzs]; exact hs0)
            obtain ⟨m, rfl⟩ : ∃ m, n = m + 1 := ⟨n - 1, by omega⟩
            simp [Builtin.clear_, e', hund, run_zero hT he w, hm, h1]
        · cases hd
          refine ⟨w, ?_, rfl, Ev.refl hr⟩
          simp [Builtin.clear_, hx.sliceNil_inv, hund]
        · cases hd
    · cases hd
  · cases hd

theorem range_ok {T : TyT} {P : Program} (hT : TabOK T P) {ρ : Ren} {h h' : AHeap} {w : World} (hr : HR ρ h w.heap) {t : TypeId} {x : Operand} {env env' : Env} (hx : VR ρ (env x) (env' x)) {r : Value}
    (hd : hRange t x T env h = some (r, h')) (hfree : Free ρ h.next h'.next) : ∃ ρ' r' w', (Instr.range t (env' x)).run P w = .ok r' w' ∧ VR ρ' r r' ∧ Ev ρ h w ρ' h' w' := by
  unfold hRange at hd
  split at hd
  · rename_i k v _ _ _ _ b hq hb
    have hund := run_und hT hq w
    simp only at hund
    split at hd
    · rename_i es clock hm
      cases hd
      have hfr : ρ h.next = none := hfree h.next (Nat.le_refl _) (Nat.lt_succ_self _)
      rw [hb] at hx
      obtain ⟨L, hL, e⟩ := hx.map_inv
      obtain ⟨es', h1, _⟩ := hr.map hm hL
      have hget := run_getObj (P := P) h1 (fun _ _ _ e => by cases e)
      have hs := upd_sub (⟨w.heap.size, 0, 0⟩ : Loc) hfr
      refine ⟨upd ρ h.next ⟨w.heap.size, 0, 0⟩, .pointer (some ⟨w.heap.size, 0, none⟩), _, ?_, ?_, Ev.alloc hr hfr (.iter b clock [] clock) (.mapIter (some L.r) clock #[] clock) 0 ⟨⟨L, hs _ _ hL, rfl, rfl, rfl, rfl⟩, rfl⟩⟩
      · rw [e]; simp [Instr.range, hund, hget]
      · exact ptrTo_vr _ _ _ (upd_same _ _ _)
    · cases hd
  · cases hd

theorem filt_eq {α : Type} (f : α → Bool) (l : List α) : filt f l = l.filter f := by
  induction l with
  | nil => rfl
  | cons x l ih =>
    show bcond (f x) (x :: filt f l) (filt f l) = _
    rw [ih, bcond_eq]
    cases h : f x <;> simp [h]
theorem EL.filter {ρ : Ren} {p q : MapEntry → Bool} (hpq : ∀ x y, ER ρ x y → p x = q y) : ∀ {as bs : List MapEntry}, EL ρ as bs → EL ρ (as.filter p) (bs.filter q) := by
  intro as
  induction as with
  | nil => intro bs h; rw [h.unnil]; exact EL.nil ρ
  | cons x as ih =>
    intro bs h
    obtain ⟨y, bs', rfl, hxy, ht⟩ := h.uncons
    rw [List.filter_cons, List.filter_cons, hpq x y hxy]
    cases q y with
    | true => exact EL.cons hxy (ih ht)
    | false => exact ih ht
theorem EL.all {ρ : Ren} {p q : MapEntry → Bool} (hpq : ∀ x y, ER ρ x y → p x = q y) : ∀ {as bs : List MapEntry}, EL ρ as bs → as.all p = bs.all q := by
  intro as
  induction as with
  | nil => intro bs h; rw [h.unnil]; rfl
  | cons x as ih =>
    intro bs h
    obtain ⟨y, bs', rfl, hxy, ht⟩ := h.uncons
    rw [List.all_cons, List.all_cons, hpq x y hxy, ih ht]
theorem notIn_eq (l : List Nat) (x : Nat) : notIn l x = !l.contains x := by
  unfold notIn
  rw [alls_eq]
  induction l with
  | nil => rfl
  | cons y l ih =>
    rw [List.all_cons, ih, List.contains_cons]
    have : Nat.beq y x = (x == y) := by
      cases h : Nat.beq y x with
      | true => rw [beq_true h]; simp
      | false =>
        cases h' : x == y with
        | false => rfl
        | true => rw [eq_of_beq h', Nat.beq_refl] at h; cases h
    rw [this, Bool.not_or]

theorem next_ok {P : Program} {ρ : Ren} {h h' : AHeap} {w : World} (hr : HR ρ h w.heap) {x : Operand} {isS : Bool} {T : TyT} {env env' : Env} (hx : VR ρ (env x) (env' x)) {r : Value} (ty : TypeId)
    (hd : hNext x isS T env h = some (r, h')) : ∃ r' w', (Instr.next (env' x) isS ty).run P w = .ok r' w' ∧ VR ρ r r' ∧ Ev ρ h w ρ h' w' := by
  unfold hNext at hd
  split at hd
  · rename_i b he
    split at hd
    · rename_i m since seen last hb
      split at hd
      · rename_i es clock hm
        rw [he] at hx
        obtain ⟨L, hL, e, _⟩ := hx.ptr_inv
        obtain ⟨M, seen', h1, h2, h3, h4⟩ := hr.iter hb hL
        obtain ⟨es', h5, h6⟩ := hr.map hm h2
        have hel : EL ρ es es'.toList := ⟨by simpa using h6.1, fun i x y hx hy => h6.2 i x y hx (by simpa using hy)⟩
        cases hq : (nonE seen && nonE es && alls (fun e => Nat.ble last e.born) es) with
        | true => rw [hq] at hd; cases hd
        | false =>
          rw [hq, bcond_false] at hd
          have hg : (!seen'.isEmpty && !es'.isEmpty && es'.all (fun e => decide (e.born ≥ last))) = false := by
            have e1 : (!seen'.isEmpty) = nonE seen := by
              have : seen'.isEmpty = seen'.toList.isEmpty := by simp
              rw [this, h4]; cases seen <;> simp [nonE]
            have e2 : (!es'.isEmpty) = nonE es := by
              have h7 : es'.isEmpty = es'.toList.isEmpty := by simp
              rw [h7]
              cases es with
              | nil => rw [hel.unnil]; rfl
              | cons x es => obtain ⟨y, bs, hbs, _⟩ := hel.uncons; rw [hbs]; rfl
            have e3 : es'.all (fun e => decide (e.born ≥ last)) = alls (fun e => Nat.ble last e.born) es := by
              rw [alls_eq, ← Array.all_toList]
              refine (EL.all (fun x y hxy => ?_) hel).symm
              rw [hxy.2.2]
              cases hb : Nat.ble last y.born with
              | true => simp [ble_true hb]
              | false => have := ble_false hb; simp; omega
            rw [e1, e2, e3]; exact hq
          have hleft : EL ρ (filt (fun e => notIn seen e.born) es) (es'.filter (fun e => !seen'.contains e.born)).toList := by
            rw [filt_eq, Array.toList_filter]
            refine EL.filter (fun x y hxy => ?_) hel
            rw [notIn_eq, hxy.2.2]
            have : seen'.contains y.born = seen'.toList.contains y.born := by simp
            rw [this, h4]
            simp
          rw [e, h3, Nat.zero_add]
          split at hd
          · rename_i hnil
            cases hd
            rw [hnil] at hleft
            have hl0 : es'.filter (fun e => !seen'.contains e.born) = #[] := Array.ext' (by simpa using hleft.unnil)
            refine ⟨.tuple #[.bool false], w, ?_, .mk_tuple (VRA.of_list (VRL.cons (.bool _) (VRL.nil ρ))), Ev.refl hr⟩
            simp only [Instr.next, Sem.run_bind, run_getObj h1 (fun _ _ _ e => by cases e), Result.andThen_ok, run_getObj h5 (fun _ _ _ e => by cases e), hg, Bool.false_eq_true, if_false, hl0]
            have f0 : ∀ p : MapEntry → Bool, Array.filter p #[] = #[] := fun p => by simp
            simp only [f0]
            simp [Question.forced]
          · rename_i e0 hone
            cases hb2 : Nat.ble (Nat.succ e0.born) since with
            | false => rw [hb2] at hd; cases hd
            | true =>
              rw [hb2, bcond_true] at hd
              cases hd
              rw [hone] at hleft
              obtain ⟨e1, bs, hbs, hee, hbs0⟩ := hleft.uncons
              have := hbs0.unnil
              subst this
              have hl1 : es'.filter (fun e => !seen'.contains e.born) = #[e1] := Array.ext' (by simpa using hbs)
              have hlt : e1.born < since := by rw [← hee.2.2]; exact ble_true hb2
              refine ⟨.tuple #[.bool true, e1.key, e1.val], { w with heap := w.heap.setIfInBounds L.r (.mapIter (some M.r) since (seen'.push e1.born) clock) }, ?_, .mk_tuple (VRA.of_list (VRL.cons (.bool _) (VRL.cons hee.1 (VRL.cons hee.2.1 (VRL.nil ρ))))),
                Ev.put hr hb hL _ _ ⟨⟨M, h2, rfl, rfl, by rw [Array.toList_push, h4, hee.2.2]; simp, rfl⟩, h3⟩⟩
              simp only [Instr.next, Sem.run_bind, run_getObj h1 (fun _ _ _ e => by cases e), Result.andThen_ok, run_getObj h5 (fun _ _ _ e => by cases e), hg, Bool.false_eq_true, if_false, hl1]
              have hlt' : ¬ since ≤ e1.born := by omega
              simp [Question.forced, hlt, hlt', setObj, Sem.run, h1]
          · cases hd
      · cases hd
    · cases hd
  · cases hd
end Nt

namespace Nt
open Go

theorem freeze_cells {w : World} {r o n : Nat} {cs : Array Value} {e : TypeId} {f : Nat × Nat} (h : w.heap[r]? = some (.cells cs e f)) (hn : n ≠ 0) :
    w.freeze ⟨r, o, none⟩ n = { w with heap := w.heap.setIfInBounds r (.cells cs e (if f.1 = f.2 then (o, o + n) else (min f.1 o, max f.2 (o + n)))) } := by
  unfold World.freeze
  rw [if_neg hn]
  congr 1
  apply Array.ext_getElem?
  intro j
  have hlt := (Array.getElem?_eq_some_iff.1 h).1
  rw [Array.getElem?_modify]
  by_cases hj : r = j
  · subst hj
    rw [if_pos rfl, Array.getElem?_setIfInBounds_self_of_lt hlt, h]
    simp
  · rw [if_neg hj, Array.getElem?_setIfInBounds_ne hj]

theorem unsafeString_ok {T : TyT} {P : Program} (hT : TabOK T P) {ρ : Ren} {h h' : AHeap} {w : World} (hr : HR ρ h w.heap) {args : Array Operand} {tys : Array TypeId} {env env' : Env} (henv : EnvR ρ env env' args) {r : Value}
    (hd : hUnsafeString args tys T env h = some (r, h')) (ty : TypeId) : ∃ r' w', (Builtin.unsafeString_ tys ty (args.map env')).run P w = .ok r' w' ∧ VR ρ r r' ∧ Ev ρ h w ρ h' w' := by
  unfold hUnsafeString at hd
  split at hd
  · rename_i x q pt rest ha ht
    have ea : args = #[x, q] := Array.ext' (by simpa using ha)
    subst ea
    have t0 : tys[0]? = some pt := by rw [← Array.getElem?_toList, ht]; rfl
    have hx := henv x (by simp)
    have hq := henv q (by simp)
    split at hd
    · rename_i n u _ _ _ _ hn hp
      have hund := run_und hT hp w
      simp only at hund
      have hq' := natOf_some hq hn
      have hneg : ¬ ((n : Int) < 0) := by omega
      have hmax0 : IntKind.i64.max = 9223372036854775807 := by decide
      split at hd
      · rename_i hb
        rw [hb] at hx
        cases hn0 : Nat.beq n 0 with
        | false => rw [hn0] at hd; cases hd
        | true =>
          rw [hn0, bcond_true] at hd; cases hd
          have hn0 := beq_true hn0
          subst hn0
          refine ⟨_, w, ?_, .string _, Ev.refl hr⟩
          rw [show Array.map env' #[x, q] = #[env' x, env' q] by simp]
          rw [hx.ptrNil_inv, hq']
          delta Builtin.unsafeString_ Builtin.unsafeString_.match_3 Builtin.unsafeString_._sparseCasesOn_3
          simp [Array.getLit, asInt, asIntOf, t0, hmax0]
          rfl
      · rename_i b o hb
        rw [hb] at hx
        obtain ⟨L, hL, e1, _⟩ := hx.ptr_inv
        cases hn0 : Nat.beq n 0 with
        | true =>
          rw [hn0, bcond_true] at hd; cases hd
          have hn0 := beq_true hn0
          subst hn0
          refine ⟨_, w, ?_, .string _, Ev.refl hr⟩
          rw [show Array.map env' #[x, q] = #[env' x, env' q] by simp]
          rw [e1, hq']
          delta Builtin.unsafeString_ Builtin.unsafeString_.match_3 Builtin.unsafeString_._sparseCasesOn_3
          simp [Array.getLit, asInt, asIntOf, t0, hmax0]
          rfl
        | false =>
          rw [hn0, bcond_false] at hd
          have hn0 : n ≠ 0 := fun e => by subst e; cases hn0
          split at hd
          · rename_i c e g fz _ _ _ hc hu
            cases hk : (Nat.beq e u && Nat.ble n 68719476736) with
            | false => rw [hk] at hd; cases hd
            | true =>
              rw [hk, bcond_true] at hd
              rw [Bool.and_eq_true] at hk
              have hk1 := beq_true hk.1
              have hk2 := ble_true hk.2
              subst hk1
              cases hs : Nt.sub c o n with
              | none => rw [hs] at hd; cases hd
              | some l =>
                rw [hs] at hd
                simp only at hd
                cases hbs : bytesD l with
                | none => rw [hbs] at hd; cases hd
                | some bs =>
                  rw [hbs] at hd; cases hd
                  obtain ⟨cs, f, h1, h2⟩ := hr.cells hc hL
                  obtain ⟨xs, rfl, rfl⟩ := bytesD_some hbs
                  obtain ⟨l', l1, l2, l3⟩ := h2.row.sub hs
                  have hl' := l2.ints
                  subst hl'
                  have hxs : xs.length = n := by simpa using l1
                  have hload := run_loadBytes' (P := P) w xs ⟨L.r, L.base + o, none⟩ .empty (fun j x hj => by
                    rw [add_addr, cell_eq h1]
                    exact l3 j _ (by simp [hj]))
                  rw [hxs, push_all] at hload
                  have hcell : P.cellsOf e = 1 := cellsOf_T hT hu
                  have hroom := h2.room
                  have hsub := (sub_eq hs).2.2
                  have hva : (variablesAt ⟨L.r, L.base + o, none⟩ e n).run P w = .ok true w := by
                    have := liesAt_bytes' hcell cs.size (L.base + o) n (by omega)
                    simp [variablesAt, World.shape?, h1, this, hcell]
                  have hmx : ¬ ((n : Int) > IntKind.i64.max) := by
                    have hmx : IntKind.i64.max = 9223372036854775807 := by decide
                    rw [hmx]; omega
                  have hput := Ev.put hr hc hL (.cells c e g (bcond (Nat.ble fz (o + n)) (o + n) fz)) (.cells cs e (if f.1 = f.2 then (L.base + o, L.base + o + n) else (min f.1 (L.base + o), max f.2 (L.base + o + n)))) {
                    elem := rfl
                    room := h2.room
                    exact := h2.exact
                    cell := h2.cell
                    ice := by
                      have hfz : L.base + fz ≤ L.base + bcond (Nat.ble fz (o + n)) (o + n) fz ∧ L.base + o + n ≤ L.base + bcond (Nat.ble fz (o + n)) (o + n) fz := by
                        cases hq : Nat.ble fz (o + n) with
                        | true => have := ble_true hq; rw [bcond_true]; omega
                        | false => have := ble_false hq; rw [bcond_false]; omega
                      refine .inr ?_
                      by_cases hf : f.1 = f.2
                      · rw [if_pos hf]; exact hfz.2
                      · rw [if_neg hf]
                        rcases h2.ice with h | h
                        · exact absurd h hf
                        · show max f.2 (L.base + o + n) ≤ _
                          omega }
                  refine ⟨_, _, ?_, .string _, hput⟩
                  have hfz := freeze_cells (o := L.base + o) h1 hn0
                  rw [show Array.map env' #[x, q] = #[env' x, env' q] by simp]
                  rw [e1, hq']
                  delta Builtin.unsafeString_ Builtin.unsafeString_.match_3 Builtin.unsafeString_._sparseCasesOn_3
                  simp [Array.getLit, asInt, asIntOf, t0, elemOf, hund, hneg, hmx, hn0, hva, hload, hfz]
                  rw [if_neg (by omega)]
                  rfl
          · cases hd
      · cases hd
    · cases hd
  · cases hd

end Nt

namespace Nt
open Go

/-- What a heavy operation comes to. -/
def Hv (P : Program) (s : Sem Next) (ρ : Ren) (h : AHeap) (w : World) (v : Value) (h' : AHeap) : Prop :=
  ∃ ρ' w', Ev ρ h w ρ' h' w' ∧ (s.run P w = .ok .skip w' ∧ v = undef ∨ ∃ v', s.run P w = .ok (.value v') w' ∧ VR ρ' v v')

theorem hv_skip {P : Program} {s : Sem Unit} {ρ : Ren} {h h' : AHeap} {w w' : World} {v : Value} (h1 : s.run P w = .ok () w') (h2 : Ev ρ h w ρ h' w') (hv : v = undef) : Hv P (do s; pure .skip) ρ h w v h' := ⟨ρ, w', h2, .inl ⟨by simp [h1], hv⟩⟩
theorem hv_value {P : Program} {s : Sem Value} {ρ ρ' : Ren} {h h' : AHeap} {w w' : World} {v v' : Value} (h1 : s.run P w = .ok v' w') (hv : VR ρ' v v') (h2 : Ev ρ h w ρ' h' w') : Hv P (do pure (.value (← s))) ρ h w v h' := ⟨ρ', w', h2, .inr ⟨v', by simp [h1], hv⟩⟩

theorem putIn_undef {h h' : AHeap} {b o : Nat} {vs : List Value} {r v : Value} (hf : putIn h b o vs r = some (v, h')) : v = r := by
  unfold putIn at hf
  split at hf
  · rename_i c ce g fz _
    rw [bcond_eq] at hf
    revert hf
    cases Nat.ble fz o with
    | false => intro hf; cases hf
    | true =>
      intro hf
      simp only [cond_true] at hf
      split at hf
      · cases hf; rfl
      · cases hf
  · cases hf
theorem store_undef {T : TyT} {t : TypeId} {a x : Operand} {env : Env} {h h' : AHeap} {v : Value} (hf : hStore t a x T env h = some (v, h')) : v = undef := by
  unfold hStore dStore at hf
  split at hf
  · cases hf
  · split at hf
    · rw [bcond_eq] at hf
      revert hf
      cases (Nat.beq (len (cellsL (env x))) _ && alls one (cellsL (env x))) with
      | false => intro hf; cases hf
      | true => intro hf; exact putIn_undef hf
    · cases hf
theorem mapUpdate_undef {T : TyT} {t : TypeId} {m k x : Operand} {env : Env} {h h' : AHeap} {v : Value} (hf : hMapUpdate t m k x T env h = some (v, h')) : v = undef := by
  unfold hMapUpdate dMapUpdate at hf
  split at hf
  · rename_i kt _ _ _ _ _ _
    have key : ∀ (q : Bool) (z : Option (Value × AHeap)), (∀ u g, z = some (u, g) → u = undef) → bcond q z none = some (v, h') → v = undef := by
      intro q z hz e
      cases q with
      | false => cases e
      | true => exact hz _ _ e
    refine key _ _ ?_ hf
    intro u g e
    split at e
    · split at e
      · split at e
        · cases e
        · cases e; rfl
        · cases e; rfl
      · cases e
    · cases e
  · cases hf

theorem heavy_store {T : TyT} {P : Program} (hT : TabOK T P) {ρ : Ren} {t : TypeId} {a x : Operand} {env env' : Env} (henv : EnvR ρ env env' (Op.store t a x).operands) {h h' : AHeap} {w : World} (hr : HR ρ h w.heap) {v : Value}
    (hf : hStore t a x T env h = some (v, h')) (dst : Option Tmp) (ty : TypeId) (pos : String) (after : Array Edge) (guard : Option (Nat × Bool)) : Hv P (execOp env' ⟨dst, .store t a x, ty, pos, after, guard⟩) ρ h w v h' := by
  obtain ⟨w', h1, h2⟩ := store_ok (P := P) hT hr (henv a (by simp [Op.operands])) (henv x (by simp [Op.operands])) hf
  exact hv_skip h1 h2 (store_undef hf)
theorem heavy_mapUpdate {T : TyT} {P : Program} (hT : TabOK T P) {ρ : Ren} {t : TypeId} {m k x : Operand} {env env' : Env} (henv : EnvR ρ env env' (Op.mapUpdate t m k x).operands) {h h' : AHeap} {w : World} (hr : HR ρ h w.heap) {v : Value}
    (hf : hMapUpdate t m k x T env h = some (v, h')) (dst : Option Tmp) (ty : TypeId) (pos : String) (after : Array Edge) (guard : Option (Nat × Bool)) : Hv P (execOp env' ⟨dst, .mapUpdate t m k x, ty, pos, after, guard⟩) ρ h w v h' := by
  obtain ⟨w', h1, h2⟩ := mapUpdate_ok (P := P) hT hr (henv m (by simp [Op.operands])) (henv k (by simp [Op.operands])) (henv x (by simp [Op.operands])) hf
  exact hv_skip h1 h2 (mapUpdate_undef hf)
theorem heavy_insert {T : TyT} {P : Program} (hT : TabOK T P) {ρ : Ren} {t : TypeId} {m k x : Operand} {env env' : Env} (henv : EnvR ρ env env' (Op.insert t m k x).operands) {h h' : AHeap} {w : World} (hr : HR ρ h w.heap) {v : Value}
    (hf : hMapUpdate t m k x T env h = some (v, h')) (dst : Option Tmp) (ty : TypeId) (pos : String) (after : Array Edge) (guard : Option (Nat × Bool)) : Hv P (execOp env' ⟨dst, .insert t m k x, ty, pos, after, guard⟩) ρ h w v h' := by
  obtain ⟨w', h1, h2⟩ := mapUpdate_ok (P := P) hT hr (henv m (by simp [Op.operands])) (henv k (by simp [Op.operands])) (henv x (by simp [Op.operands])) hf
  exact hv_skip h1 h2 (mapUpdate_undef hf)
theorem heavy_range {T : TyT} {P : Program} (hT : TabOK T P) {ρ : Ren} {t : TypeId} {x : Operand} {env env' : Env} (henv : EnvR ρ env env' (Op.range t x).operands) {h h' : AHeap} {w : World} (hr : HR ρ h w.heap) {v : Value}
    (hf : hRange t x T env h = some (v, h')) (hfree : Free ρ h.next h'.next) (dst : Option Tmp) (ty : TypeId) (pos : String) (after : Array Edge) (guard : Option (Nat × Bool)) : Hv P (execOp env' ⟨dst, .range t x, ty, pos, after, guard⟩) ρ h w v h' := by
  obtain ⟨ρ', r', w', h1, h2, h3⟩ := range_ok (P := P) hT hr (henv x (by simp [Op.operands])) hf hfree
  exact hv_value h1 h2 h3

theorem heavy_next {T : TyT} {P : Program} {ρ : Ren} {x : Operand} {isS : Bool} {env env' : Env} (henv : EnvR ρ env env' (Op.next x isS).operands) {h h' : AHeap} {w : World} (hr : HR ρ h w.heap) {v : Value}
    (hf : hNext x isS T env h = some (v, h')) (dst : Option Tmp) (ty : TypeId) (pos : String) (after : Array Edge) (guard : Option (Nat × Bool)) : Hv P (execOp env' ⟨dst, .next x isS, ty, pos, after, guard⟩) ρ h w v h' := by
  obtain ⟨r', w', h1, h2, h3⟩ := next_ok (P := P) hr (henv x (by simp [Op.operands])) ty hf
  exact hv_value h1 h2 h3

theorem heavy_clear {T : TyT} {P : Program} (hT : TabOK T P) {ρ : Ren} {args : Array Operand} {tys : Array TypeId} {env env' : Env} (henv : EnvR ρ env env' (Op.call ⟨.builtin .clear, args, tys⟩).operands) {h h' : AHeap} {w : World} (hr : HR ρ h w.heap) {v : Value}
    (hf : hClear args tys T env h = some (v, h')) (dst : Option Tmp) (ty : TypeId) (pos : String) (after : Array Edge) (guard : Option (Nat × Bool)) : Hv P (execOp env' ⟨dst, .call ⟨.builtin .clear, args, tys⟩, ty, pos, after, guard⟩) ρ h w v h' := by
  obtain ⟨w', h1, h2, h3⟩ := clear_ok (P := P) hT hr (args := args) (fun x hx => henv x (by simp [Op.operands, Call.operands, hx])) hf ty
  exact hv_value h1 (by rw [h2]; exact .mk_tuple (VRA.iff_list.2 (VRL.nil _))) h3

theorem heavy_unsafeString {T : TyT} {P : Program} (hT : TabOK T P) {ρ : Ren} {args : Array Operand} {tys : Array TypeId} {env env' : Env} (henv : EnvR ρ env env' (Op.call ⟨.builtin .unsafeString, args, tys⟩).operands) {h h' : AHeap} {w : World} (hr : HR ρ h w.heap) {v : Value}
    (hf : hUnsafeString args tys T env h = some (v, h')) (dst : Option Tmp) (ty : TypeId) (pos : String) (after : Array Edge) (guard : Option (Nat × Bool)) : Hv P (execOp env' ⟨dst, .call ⟨.builtin .unsafeString, args, tys⟩, ty, pos, after, guard⟩) ρ h w v h' := by
  obtain ⟨r', w', h1, h2, h3⟩ := unsafeString_ok (P := P) hT hr (args := args) (fun x hx => henv x (by simp [Op.operands, Call.operands, hx])) hf ty
  exact hv_value h1 h2 h3

theorem heavy_append {T : TyT} {P : Program} (hT : TabOK T P) {ρ : Ren} {args : Array Operand} {tys : Array TypeId} {env env' : Env} (henv : EnvR ρ env env' (Op.call ⟨.builtin .append, args, tys⟩).operands) {h h' : AHeap} {w : World} (hr : HR ρ h w.heap) {v : Value}
    (hf : hAppend args tys T env h = some (v, h')) (hfree : Free ρ h.next h'.next) (dst : Option Tmp) (ty : TypeId) (pos : String) (after : Array Edge) (guard : Option (Nat × Bool)) : Hv P (execOp env' ⟨dst, .call ⟨.builtin .append, args, tys⟩, ty, pos, after, guard⟩) ρ h w v h' := by
  unfold hAppend at hf
  split at hf
  · rename_i s x st xt ha ht
    have ea : args = #[s, x] := Array.ext' (by simpa using ha)
    have et : tys = #[st, xt] := Array.ext' (by simpa using ht)
    subst ea; subst et
    obtain ⟨ρ', r', w', h1, h2, h3⟩ := append_ok (P := P) (tys := #[st, xt]) hT hr (henv s (by simp [Op.operands, Call.operands])) (henv x (by simp [Op.operands, Call.operands])) hf hfree rfl rfl ty
    exact hv_value (by simpa using h1) h2 h3
  · cases hf

theorem heavy_copy {T : TyT} {P : Program} (hT : TabOK T P) {ρ : Ren} {args : Array Operand} {tys : Array TypeId} {env env' : Env} (henv : EnvR ρ env env' (Op.call ⟨.builtin .copy, args, tys⟩).operands) {h h' : AHeap} {w : World} (hr : HR ρ h w.heap) {v : Value}
    (hf : hCopy args tys T env h = some (v, h')) (dst : Option Tmp) (ty : TypeId) (pos : String) (after : Array Edge) (guard : Option (Nat × Bool)) : Hv P (execOp env' ⟨dst, .call ⟨.builtin .copy, args, tys⟩, ty, pos, after, guard⟩) ρ h w v h' := by
  unfold hCopy at hf
  split at hf
  · rename_i d x dt rest ha ht
    have ea : args = #[d, x] := Array.ext' (by simpa using ha)
    subst ea
    have t0 : tys[0]? = some dt := by rw [← Array.getElem?_toList, ht]; rfl
    obtain ⟨r', w', h1, h2, h3⟩ := copy_ok (P := P) hT hr (henv d (by simp [Op.operands, Call.operands])) (henv x (by simp [Op.operands, Call.operands])) hf t0 ty
    exact hv_value (by simpa using h1) h2 h3
  · cases hf

end Nt

namespace Nt
open Go

theorem heavy_ok {T : TyT} {P : Program} (hT : TabOK T P) {ρ : Ren} {o : Oper} {env env' : Env} (henv : EnvR ρ env env' o.op.operands) {f : TyT → Env → AHeap → Option (Value × AHeap)} (hd : opD o.op T = .heavy f)
    (hsel : ∀ c b, o.op ≠ .select c b) {h h' : AHeap} {w : World} (hr : HR ρ h w.heap) {v : Value} (hf : f T env h = some (v, h')) (hfree : Free ρ h.next h'.next) : Hv P (execOp env' o) ρ h w v h' := by
  obtain ⟨dst, op, ty, pos, after, guard⟩ := o
  simp only at hd henv
  cases op with
  | store t a x => cases hd; exact heavy_store hT henv hr hf dst ty pos after guard
  | mapUpdate t m k x => cases hd; exact heavy_mapUpdate hT henv hr hf dst ty pos after guard
  | range t x => cases hd; exact heavy_range hT henv hr hf hfree dst ty pos after guard
  | insert t m k x => cases hd; exact heavy_insert hT henv hr hf dst ty pos after guard
  | next x isS => cases hd; exact heavy_next henv hr hf dst ty pos after guard
  | select c b => exact absurd rfl (hsel c b)
  | convert s d x =>
    simp only [opD, opConv] at hd
    split at hd
    · split at hd
      · cases hd
      · split at hd <;> cases hd
      · cases hd
      · split at hd <;> cases hd
      · split at hd <;> cases hd
      · cases hd
    · cases hd
  | call c =>
    obtain ⟨callee, args, tys⟩ := c
    cases callee with
    | value g => cases hd
    | invoke r n => cases hd
    | builtin b =>
      cases b <;> simp only [opD, opCall, opBuiltin] at hd
      case append => cases hd; exact heavy_append hT henv hr hf hfree dst ty pos after guard
      case copy => cases hd; exact heavy_copy hT henv hr hf dst ty pos after guard
      case clear => cases hd; exact heavy_clear hT henv hr hf dst ty pos after guard
      case unsafeString => cases hd; exact heavy_unsafeString hT henv hr hf dst ty pos after guard
      case len => split at hd <;> cases hd
      case cap => split at hd <;> cases hd
      case unsafeSliceData => split at hd <;> cases hd
      all_goals cases hd
  | _ => cases hd

end Nt
