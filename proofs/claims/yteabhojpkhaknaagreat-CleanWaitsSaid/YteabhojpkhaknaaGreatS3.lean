/- Stores, reads, new blocks. -/
import Derived.Test.YteabhojpkhaknaaGreatS2
import Derived.Laws.BytesString
import Derived.Lib.UnsafeStr
namespace Nt
open Go

theorem cell_eq {w : World} {r : Nat} {cs : Array Value} {e : TypeId} {f : Nat × Nat} (h : w.heap[r]? = some (.cells cs e f)) (i : Nat) : w.cell? ⟨r, i, none⟩ = cs[i]? := by
  simp [World.cell?, h]
theorem frozen_eq {w : World} {r : Nat} {cs : Array Value} {e : TypeId} {f : Nat × Nat} (h : w.heap[r]? = some (.cells cs e f)) (i : Nat) : w.frozen? ⟨r, i, none⟩ = (decide (f.1 ≤ i) && decide (i < f.2)) := by
  simp [World.frozen?, h]

/-- What an abstract block of cells comes to. -/
theorem HR.cells {ρ : Ren} {h : AHeap} {heap : Array Obj} (hr : HR ρ h heap) {b : Nat} {c : List Value} {e : TypeId} {g fz : Nat} (hb : h.get b = some (.cells c e g fz)) {L : Loc} (hL : ρ b = some L) :
    ∃ cs f, heap[L.r]? = some (.cells cs e f) ∧ CellsR ρ L c e g fz cs e f := by
  obtain ⟨L', co, h1, h2, h3⟩ := hr.obj b _ hb
  rw [hL] at h1; cases h1
  cases co <;> simp only [OR] at h3
  rename_i cs e' f
  obtain rfl := h3.elem
  exact ⟨cs, f, h2, h3⟩

theorem RowR.sub {ρ : Ren} {L : Loc} {c : List Value} {cs : Array Value} (hc : RowR ρ L c cs) {o n : Nat} {l : List Value} (h : Nt.sub c o n = some l) :
    ∃ l', l'.length = n ∧ VRL ρ l l' ∧ ∀ (j : Nat) (v : Value), l'[j]? = some v → cs[L.base + o + j]? = some v := by
  obtain ⟨h1, h2, h3⟩ := sub_eq h
  by_cases hn : n = 0
  · subst hn
    have : l = [] := List.length_eq_zero_iff.1 h2
    subst this
    exact ⟨[], rfl, VRL.nil ρ, fun j v hv => by simp at hv⟩
  · have hle : o + n ≤ c.length := by omega
    have hroom : L.base + c.length ≤ cs.size := by
      have hl : c.length - 1 < c.length := by omega
      obtain ⟨y, hy, _⟩ := hc (c.length - 1) _ (List.getElem?_eq_getElem hl)
      have := (Array.getElem?_eq_some_iff.1 hy).1
      omega
    refine ⟨(cs.toList.drop (L.base + o)).take n, by simp; omega, ⟨by rw [h2]; simp; omega, fun i x y hx hy => ?_⟩, fun j v hv => ?_⟩
    · have hi : i < n := by have := (List.getElem?_eq_some_iff.1 hx).1; omega
      rw [h1, List.getElem?_take, if_pos hi, List.getElem?_drop] at hx
      rw [List.getElem?_take, if_pos hi, List.getElem?_drop] at hy
      obtain ⟨y', hy1, hy2⟩ := hc (o + i) x hx
      have : cs[L.base + (o + i)]? = some y := by rw [← Nat.add_assoc]; simpa using hy
      rw [hy1] at this; cases this
      exact hy2
    · have hj : j < n := by have := (List.getElem?_eq_some_iff.1 hv).1; simp at this; omega
      rw [List.getElem?_take, if_pos hj, List.getElem?_drop] at hv
      simpa using hv
theorem HR.known {ρ : Ren} {h : AHeap} {heap : Array Obj} (hr : HR ρ h heap) {b : Nat} {c : List Value} (hb : knownD h b = some c) {L : Loc} (hL : ρ b = some L) :
    ∃ cs e f, heap[L.r]? = some (.cells cs e f) ∧ RowR ρ L c cs := by
  unfold knownD at hb
  split at hb
  · rename_i c' e g fz hg
    cases hb
    obtain ⟨cs, f, h1, h2⟩ := hr.cells hg hL
    exact ⟨cs, e, f, h1, h2.row⟩
  · rename_i c' hg
    cases hb
    obtain ⟨L', co, h1, h2, h3⟩ := hr.obj b _ hg
    rw [hL] at h1; cases h1
    cases co <;> simp only [OR] at h3
    exact ⟨_, _, _, h2, h3⟩
  · cases hb

theorem run_cells {P : Program} {w : World} {r o : Nat} {cs : Array Value} {e : TypeId} {f : Nat × Nat} (h : w.heap[r]? = some (.cells cs e f)) {l : List Value} (hl : ∀ (j : Nat) (v : Value), l[j]? = some v → cs[o + j]? = some v) :
    (loadCells ⟨r, o, none⟩ l.length).run P w = .ok l.toArray w :=
  run_loadCells_list (P := P) (w := w) (⟨r, o, none⟩ : Addr) l fun j v hv => by
    rw [add_addr, cell_eq h]; exact hl j v hv

theorem load_ok {T : TyT} {P : Program} (hT : TabOK T P) {ρ : Ren} {h : AHeap} {w : World} (hr : HR ρ h w.heap) {t : TypeId} {x x' v : Value} (hx : VR ρ x x') (hv : dLoad T h t x = some v) :
    ∃ a v', x' = .pointer (some a) ∧ (loadVar t a).run P w = .ok v' w ∧ VR ρ v v' := by
  unfold dLoad at hv
  cases ht : T.get t with
  | none => rw [ht] at hv; cases hv
  | some ti =>
    rw [ht] at hv
    simp only at hv
    split at hv
    · rename_i b o
      obtain ⟨L, hL, e, _⟩ := hx.ptr_inv
      split at hv
      · rename_i c hb
        obtain ⟨cs, el, f, h1, h2⟩ := hr.known hb hL
        refine ⟨⟨L.r, L.base + o, none⟩, ?_⟩
        cases hu : isAggU ti.u with
        | true =>
          rw [hu, bcond_true] at hv
          cases hs : Nt.sub c o ti.size with
          | none => rw [hs] at hv; cases hv
          | some l =>
            rw [hs] at hv; cases hv
            obtain ⟨l', e1, e2, e3⟩ := h2.sub hs
            refine ⟨.agg l'.toArray, e, ?_, .mk_agg (VRA.iff_list.2 (by simpa using e2))⟩
            have := run_cells (P := P) (o := L.base + o) h1 e3
            rw [e1] at this
            simp only [loadVar, Sem.run_bind, run_isAgg hT ht, hu, Result.andThen_ok, if_true, run_size hT ht, this, Sem.run_pure]
        | false =>
          rw [hu, bcond_false, nth_eq] at hv
          obtain ⟨y, hy, hvy⟩ := h2 o v hv
          refine ⟨y, e, ?_, hvy⟩
          simp only [loadVar, Sem.run_bind, run_isAgg hT ht, hu, Result.andThen_ok, Bool.false_eq_true, if_false, run_load, cell_eq h1, hy]
      · cases hv
    · cases hv

/-! ### Writing -/
theorem setIf_twice {α : Type} (xs : Array α) (i : Nat) (a b : α) : (xs.setIfInBounds i a).setIfInBounds i b = xs.setIfInBounds i b := by
  apply Array.ext_getElem?
  intro j
  by_cases h : i = j
  · subst h
    simp only [Array.getElem?_setIfInBounds_self]
    simp
  · simp [Array.getElem?_setIfInBounds_ne h]
theorem setCell_eq {w : World} {r : Nat} {cs : Array Value} {e : TypeId} {f : Nat × Nat} (h : w.heap[r]? = some (.cells cs e f)) (i : Nat) (v : Value) :
    w.setCell ⟨r, i, none⟩ v = { w with heap := w.heap.setIfInBounds r (.cells (cs.setIfInBounds i v) e f) } := by
  unfold World.setCell
  congr 1
  apply Array.ext_getElem?
  intro j
  rw [Array.getElem?_modify]
  by_cases hj : r = j
  · subst hj
    have hlt := (Array.getElem?_eq_some_iff.1 h).1
    rw [if_pos rfl, h, Array.getElem?_setIfInBounds_self_of_lt hlt]
    rfl
  · rw [if_neg hj, Array.getElem?_setIfInBounds_ne hj]

def putA (cur : Array Value) (k : Nat) : List Value → Array Value
  | [] => cur
  | v :: vs => putA (cur.setIfInBounds k v) (k + 1) vs
theorem putA_size : ∀ (vs : List Value) (cur : Array Value) (k : Nat), (putA cur k vs).size = cur.size
  | [], _, _ => rfl
  | _ :: vs, cur, k => by rw [putA, putA_size vs]; simp
theorem putA_toList : ∀ (vs : List Value) (cur : Array Value) (k : Nat), k + vs.length ≤ cur.size → (putA cur k vs).toList = lput cur.toList k vs := by
  intro vs
  induction vs with
  | nil => intro cur k h; simp [putA, lput]
  | cons v vs ih =>
    intro cur k h
    simp only [List.length_cons] at h
    rw [putA, ih _ _ (by simp; omega)]
    apply List.ext_getElem?
    intro i
    have hlen : cur.toList.length = cur.size := by simp
    rw [lput_get (by simp; omega), lput_get (by simp; omega), Array.toList_setIfInBounds]
    by_cases h1 : k + 1 ≤ i ∧ i < k + 1 + vs.length
    · rw [if_pos h1, if_pos (by simp; omega)]
      obtain ⟨m, hm⟩ : ∃ m, i - k = m + 1 := ⟨i - k - 1, by omega⟩
      rw [hm, List.getElem?_cons_succ]
      congr 1; omega
    · rw [if_neg h1]
      by_cases h2 : i = k
      · subst h2
        rw [if_pos (by simp)]
        simp [show i < cur.size by omega]
      · rw [if_neg (by simp; omega), List.getElem?_set_ne (fun e => h2 e.symm)]

theorem run_storeCells {P : Program} {r o : Nat} {e : TypeId} {f : Nat × Nat} : ∀ (vs : List Value) (i : Nat) (cur : Array Value) (w : World), w.heap[r]? = some (.cells cur e f) → o + i + vs.length ≤ cur.size →
    (∀ v ∈ vs, one v = true) → (∀ j, o + i ≤ j → j < o + i + vs.length → ¬ (f.1 ≤ j ∧ j < f.2)) →
    (storeCells ⟨r, o, none⟩ vs i).run P w = .ok () { w with heap := w.heap.setIfInBounds r (.cells (putA cur (o + i) vs) e f) } := by
  intro vs
  induction vs with
  | nil =>
    intro i cur w h _ _ _
    simp only [storeCells, Sem.run_pure, putA]
    congr 1
    have : w.heap.setIfInBounds r (.cells cur e f) = w.heap := by
      apply Array.ext_getElem?
      intro j
      by_cases hj : r = j
      · subst hj; have hlt := (Array.getElem?_eq_some_iff.1 h).1; rw [Array.getElem?_setIfInBounds_self_of_lt hlt, h]
      · simp [Array.getElem?_setIfInBounds_ne hj]
    rw [this]
  | cons v vs ih =>
    intro i cur w h hlen hone hfree
    simp only [List.length_cons] at hlen hfree
    have hi : o + i < cur.size := by omega
    have hlt := (Array.getElem?_eq_some_iff.1 h).1
    have hv : v.oneCell' = true := by rw [← one_eq]; exact hone v (List.mem_cons_self ..)
    have hcell : w.cell? ⟨r, o + i, none⟩ = some cur[o + i] := by rw [cell_eq h, Array.getElem?_eq_getElem hi]
    have hfr : w.frozen? ⟨r, o + i, none⟩ = false := by
      rw [frozen_eq h]
      have := hfree (o + i) (Nat.le_refl _) (by omega)
      cases h1 : decide (f.1 ≤ o + i) <;> cases h2 : decide (o + i < f.2) <;> first | rfl | (exact absurd ⟨of_decide_eq_true h1, of_decide_eq_true h2⟩ this)
    have hst : (store ((⟨r, o, none⟩ : Addr).add i) v).run P w = .ok () { w with heap := w.heap.setIfInBounds r (.cells (cur.setIfInBounds (o + i) v) e f) } := by
      rw [add_addr, run_store P w _ v .plain hv]
      simp only [hcell, hfr, Bool.false_eq_true, if_false, setCell_eq h]
    simp only [storeCells, Sem.run_bind, hst, Result.andThen_ok]
    have hnew : ({ w with heap := w.heap.setIfInBounds r (.cells (cur.setIfInBounds (o + i) v) e f) } : World).heap[r]? = some (.cells (cur.setIfInBounds (o + i) v) e f) := by
      simp only; rw [Array.getElem?_setIfInBounds_self_of_lt hlt]
    rw [ih (i + 1) _ _ hnew (by simp; omega) (fun u hu => hone u (List.mem_cons_of_mem _ hu)) (fun j h1 h2 => hfree j (by omega) (by omega))]
    simp only [setIf_twice, putA]
    rfl

theorem CellsR.put {ρ : Ren} {L : Loc} {c : List Value} {e e' : TypeId} {g fz : Nat} {cs : Array Value} {f : Nat × Nat} (hc : CellsR ρ L c e g fz cs e' f) {o : Nat} {vs us : List Value} (hv : VRL ρ vs us)
    (ho : o + vs.length ≤ c.length) : CellsR ρ L (lput c o vs) e g fz (putA cs (L.base + o) us) e' f where
  elem := hc.elem
  room := by rw [lput_length ho, putA_size]; exact hc.room
  exact hg := by rw [lput_length ho, putA_size]; exact hc.exact hg
  cell i x hx := by
    have hroom := hc.room
    have hlen : L.base + o + us.length ≤ cs.size := by rw [← hv.1]; omega
    rw [lput_get ho] at hx
    rw [← Array.getElem?_toList, putA_toList us cs _ hlen, lput_get (by simpa using hlen)]
    by_cases h1 : o ≤ i ∧ i < o + vs.length
    · rw [if_pos h1] at hx
      rw [if_pos (by rw [← hv.1]; omega)]
      obtain ⟨y, hy1, hy2⟩ := hv.get hx
      exact ⟨y, by rw [← hy1]; congr 1; omega, hy2⟩
    · rw [if_neg h1] at hx
      rw [if_neg (by rw [← hv.1]; omega)]
      obtain ⟨y, hy1, hy2⟩ := hc.cell i x hx
      exact ⟨y, by simpa using hy1, hy2⟩
  ice := hc.ice

/-- Cells are put into a block. -/
theorem putIn_ok {P : Program} {ρ : Ren} {h h' : AHeap} {w : World} (hr : HR ρ h w.heap) {b o : Nat} {new new' : List Value} (hn : VRL ρ new new') (hone : alls one new = true) {v r : Value} (hp : putIn h b o new v = some (r, h'))
    {L : Loc} (hL : ρ b = some L) : r = v ∧ ∃ w', (storeCells ⟨L.r, L.base + o, none⟩ new').run P w = .ok () w' ∧ Ev ρ h w ρ h' w' := by
  unfold putIn at hp
  split at hp
  · rename_i c e g fz hb
    cases hz : Nat.ble fz o with
    | false => rw [hz] at hp; cases hp
    | true =>
      rw [hz, bcond_true] at hp
      cases hs : lset c o new with
      | none => rw [hs] at hp; cases hp
      | some c' =>
        rw [hs] at hp; cases hp
        obtain ⟨h1, h2⟩ := lset_eq hs
        obtain ⟨cs, f, hc1, hc2⟩ := hr.cells hb hL
        have hroom := hc2.room
        have hle := ble_true hz
        refine ⟨rfl, _, run_storeCells new' 0 cs w hc1 (by rw [← hn.1]; omega) (fun u hu => ?_) (fun j h3 h4 => hc2.free j (by omega) (by rw [← hn.1] at h4; omega)), ?_⟩
        · obtain ⟨i, hi, rfl⟩ := List.getElem_of_mem hu
          rw [alls_eq, List.all_eq_true] at hone
          have hi' : i < new.length := by rw [hn.1]; exact hi
          have := hn.2 i new[i] new'[i] (List.getElem?_eq_getElem hi') (List.getElem?_eq_getElem hi)
          rw [← this.one]
          exact hone _ (List.getElem_mem hi')
        · rw [h2]
          exact Ev.put hr hb hL _ _ (by simp only [OR, Nat.add_zero]; exact hc2.put hn h1)
  · cases hp

end Nt

namespace Nt
open Go

/-! ### Maps -/
theorem keyEq_some {ρ : Ren} {a b a' b' : Value} {q : Bool} (ha : VR ρ a a') (hb : VR ρ b b') (h : keyEq a b = some q) :
    (∃ k m n, a' = .int k m ∧ b' = .int k n ∧ q = (m == n)) ∨ (∃ s t, a' = .string s ∧ b' = .string t ∧ q = (s == t)) := by
  unfold keyEq at h
  split at h
  · rename_i k x k' y
    cases hk : kindEq k k' with
    | false => rw [hk] at h; cases h
    | true =>
      rw [hk, bcond_true] at h; cases h
      rw [kindEq_eq] at hk
      obtain rfl : k = k' := of_decide_eq_true hk
      exact .inl ⟨k, x, y, ha.int_inv, hb.int_inv, eqI_eq _ _⟩
  · rename_i s t
    cases h
    exact .inr ⟨s, t, ha.string_inv, hb.string_inv, by rw [beq_toListBytes, toList_strL, toList_strL, eqBytes_eq]⟩
  · cases h

def ERL (ρ : Ren) (a b : List MapEntry) : Prop := a.length = b.length ∧ ∀ (i : Nat) (x y : MapEntry), a[i]? = some x → b[i]? = some y → ER ρ x y
theorem ERL.uncons {ρ : Ren} {x : MapEntry} {a b : List MapEntry} (h : ERL ρ (x :: a) b) : ∃ y b', b = y :: b' ∧ ER ρ x y ∧ ERL ρ a b' := by
  cases b with
  | nil => exact absurd h.1 (by simp)
  | cons y b' => exact ⟨y, b', rfl, h.2 0 x y rfl rfl, by simpa using h.1, fun i u v hu hv => h.2 (i + 1) u v (by simpa using hu) (by simpa using hv)⟩
theorem ERL.nil (ρ : Ren) : ERL ρ [] [] := ⟨rfl, fun i x y h => by simp at h⟩
theorem ERL.cons {ρ : Ren} {x y : MapEntry} {a b : List MapEntry} (h : ER ρ x y) (t : ERL ρ a b) : ERL ρ (x :: a) (y :: b) := by
  refine ⟨by simp [t.1], fun i u v hu hv => ?_⟩
  cases i with
  | zero => simp at hu hv; subst hu; subst hv; exact h
  | succ i => exact t.2 i u v (by simpa using hu) (by simpa using hv)

/-- What is found fits. -/
def FR (ρ : Ren) (n : Nat) (r r' : Option (Nat × Value)) : Prop :=
  match r, r' with
  | none, none => True
  | some (a, x), some (b, y) => a = b ∧ VR ρ x y ∧ a < n
  | _, _ => False

theorem findD_ok {ρ : Ren} {kd : TypeDesc} (hk : (∃ k, kd = .int k) ∨ kd = .string) {k k' : Value} (hkv : VR ρ k k') : ∀ {es es' : List MapEntry} (i : Nat) {r : Option (Nat × Value)},
    ERL ρ es es' → findD k es i = some r → (hty : (∃ a n, k' = .int a n) → ∃ q, kd = .int q) → (hts : (∃ s, k' = .string s) → kd = .string) →
    ∃ r', Instr.findNow kd k' es' i = some r' ∧ FR ρ (i + es.length) r r' := by
  intro es
  induction es with
  | nil =>
    intro es' i r he h _ _
    have : es' = [] := by cases es' with | nil => rfl | cons _ _ => exact absurd he.1 (by simp)
    subst this
    cases (h : some none = some r)
    exact ⟨none, rfl, trivial⟩
  | cons e es ih =>
    intro es' i r he h hty hts
    obtain ⟨e', es'', rfl, hee, he'⟩ := he.uncons
    have h' : (match keyEq k e.key with | some true => some (some (i, e.val)) | some false => findD k es (Nat.succ i) | none => none) = some r := h
    cases hq : keyEq k e.key with
    | none => rw [hq] at h'; cases h'
    | some q =>
      rw [hq] at h'
      have hsn : Instr.sameNow kd k' e'.key = some q := by
        rcases keyEq_some hkv hee.1 hq with ⟨a, m, n, h1, h2, h3⟩ | ⟨s, t, h1, h2, h3⟩
        · obtain ⟨q', rfl⟩ := hty ⟨a, m, h1⟩
          rw [h1, h2, h3]; simp [Instr.sameNow]
        · obtain rfl := hts ⟨s, h1⟩
          rw [h1, h2, h3]; simp [Instr.sameNow]
      cases q with
      | true =>
        cases h'
        exact ⟨some (i, e'.val), by simp [Instr.findNow, hsn], rfl, hee.2.1, by simp⟩
      | false =>
        obtain ⟨r', h1, h2⟩ := ih (i + 1) he' h' hty hts
        refine ⟨r', by simp [Instr.findNow, hsn, h1], ?_⟩
        cases r with
        | none => cases r' with | none => exact trivial | some _ => exact h2.elim
        | some p =>
          obtain ⟨a, x⟩ := p
          cases r' with
          | none => exact h2.elim
          | some p' => obtain ⟨b, y⟩ := p'; obtain ⟨h3, h4, h5⟩ := h2; exact ⟨h3, h4, by simp only [List.length_cons]; omega⟩

theorem checkKey_ok {T : TyT} {P : Program} (hT : TabOK T P) {kt : TypeId} {e : TyE} (ht : T.get kt = some e) (hu : (∃ k, e.u = .int k) ∨ e.u = .string) (b : Bool) (v : Value) (w : World) :
    (Instr.checkKey b 10000 kt v).run P w = .ok () w := by
  have := run_und hT ht w
  have key : ∀ n, (Instr.checkKey b (n + 1) kt v).run P w = .ok () w := fun n => by
    rcases hu with ⟨k, hu⟩ | hu <;> simp [Instr.checkKey, this, hu]
  exact key 9999

theorem findKey_ok {T : TyT} {P : Program} (hT : TabOK T P) {ρ : Ren} {kt : TypeId} {e : TyE} (ht : T.get kt = some e) {k k' : Value} (hkv : VR ρ k k') (hfit : keyFits e.u k = true) {es : List MapEntry} {es' : Array MapEntry}
    (he : ERL ρ es es'.toList) {r : Option (Nat × Value)} (h : findD k es 0 = some r) (w : World) :
    ∃ r', (Instr.findKey kt k' es'.toList).run P w = .ok r' w ∧ FR ρ es.length r r' := by
  have hkd : ((∃ k, e.u = .int k) ∨ e.u = .string) ∧ ((∃ a n, k' = .int a n) → ∃ q, e.u = .int q) ∧ ((∃ s, k' = .string s) → e.u = .string) := by
    unfold keyFits at hfit
    split at hfit
    · rename_i a b n hu
      refine ⟨.inl ⟨_, hu⟩, fun _ => ⟨_, hu⟩, fun ⟨s, hs⟩ => ?_⟩
      rw [hkv.int_inv] at hs; cases hs
    · rename_i s hu
      refine ⟨.inr hu, fun ⟨a, n, hs⟩ => ?_, fun _ => hu⟩
      rw [hkv.string_inv] at hs; cases hs
    · cases hfit
  obtain ⟨r', h1, h2⟩ := findD_ok hkd.1 hkv 0 he h hkd.2.1 hkd.2.2
  refine ⟨r', ?_, ?_⟩
  · simp only [Instr.findKey, Sem.run_bind, run_und hT ht, Result.andThen_ok, h1, Sem.run_pure]
  · simpa using h2

theorem HR.map {ρ : Ren} {h : AHeap} {heap : Array Obj} (hr : HR ρ h heap) {b : Nat} {es : List MapEntry} {k : Nat} (hb : h.get b = some (.map es k)) {L : Loc} (hL : ρ b = some L) :
    ∃ es', heap[L.r]? = some (.map es' k) ∧ ERL ρ es es'.toList := by
  obtain ⟨L', co, h1, h2, h3⟩ := hr.obj b _ hb
  rw [hL] at h1; cases h1
  cases co <;> simp only [OR] at h3
  rename_i es' k'
  obtain ⟨rfl, h4, h5⟩ := h3
  exact ⟨es', h2, by simpa using h4, fun i x y hx hy => h5 i x y hx (by simpa using hy)⟩
theorem run_getObj {P : Program} {w : World} {r : Nat} {o : Obj} (h : w.heap[r]? = some o) (hc : ∀ c e f, o ≠ .cells c e f) : (getObj r).run P w = .ok o w := by
  cases o <;> first | (exact absurd rfl (hc _ _ _)) | simp only [getObj, Sem.run, h]
theorem run_setObj {P : Program} {w : World} {r : Nat} {o : Obj} (o' : Obj) (h : w.heap[r]? = some o) (hc : ∀ c e f, o ≠ .cells c e f) : (setObj r o').run P w = .ok () { w with heap := w.heap.setIfInBounds r o' } := by
  cases o <;> first | (exact absurd rfl (hc _ _ _)) | simp only [setObj, Sem.run, h]

theorem keyOk_some {T : TyT} {kt : TypeId} {k : Value} (h : keyOk T kt k = true) : ∃ e, T.get kt = some e ∧ keyFits e.u k = true ∧ ((∃ k, e.u = .int k) ∨ e.u = .string) := by
  unfold keyOk at h
  cases ht : T.get kt with
  | none => rw [ht] at h; cases h
  | some e =>
    rw [ht] at h
    simp only at h
    refine ⟨e, rfl, h, ?_⟩
    unfold keyFits at h
    split at h
    · rename_i hu; exact .inl ⟨_, hu⟩
    · rename_i hu; exact .inr hu
    · cases h

theorem lookup_ok {T : TyT} {P : Program} (hT : TabOK T P) {ρ : Ren} {h : AHeap} {w : World} (hr : HR ρ h w.heap) {t : TypeId} {x x' k k' v : Value} {ok : Bool} (hx : VR ρ x x') (hk : VR ρ k k') (hv : dLookup T h t x k ok = some v) :
    ∃ v', (Instr.lookup t x' k' ok).run P w = .ok v' w ∧ VR ρ v v' := by
  unfold dLookup at hv
  split at hv
  · rename_i kt et _ _ _ _ ht
    cases hte : T.get et with
    | none => rw [hte] at hv; cases hv
    | some te =>
      rw [hte] at hv
      simp only at hv
      cases hko : keyOk T kt k with
      | false => rw [hko] at hv; cases hv
      | true =>
        rw [hko, bcond_true] at hv
        obtain ⟨e, hkt, hfit, hku⟩ := keyOk_some hko
        cases hes : entries h x with
        | none => rw [hes] at hv; cases hv
        | some es =>
          rw [hes] at hv
          simp only at hv
          -- the entries in the model
          have hent : ∃ es' : Array MapEntry, ERL ρ es es'.toList ∧ ((x' = .map none ∧ es' = #[]) ∨ ∃ r clock, x' = .map (some r) ∧ (getObj r).run P w = .ok (.map es' clock) w) := by
            unfold entries at hes
            split at hes
            · cases hes; cases hx; exact ⟨#[], ERL.nil ρ, .inl ⟨rfl, rfl⟩⟩
            · rename_i b
              split at hes
              · rename_i es2 clock hb
                cases hes
                cases hx with
                | map hL =>
                  obtain ⟨es', h1, h2⟩ := hr.map hb hL
                  exact ⟨es', h2, .inr ⟨_, clock, rfl, run_getObj h1 (fun _ _ _ e => by cases e)⟩⟩
              · cases hes
            · cases hes
          obtain ⟨es', hE, hrun⟩ := hent
          cases hf : findD k es 0 with
          | none => rw [hf] at hv; cases hv
          | some r =>
            rw [hf] at hv
            obtain ⟨r', h1, h2⟩ := findKey_ok hT hkt hk hfit hE hf w
            have hund := run_und hT ht w
            simp only at hund
            cases r with
            | none =>
              cases r' with
              | some _ => exact h2.elim
              | none =>
                simp only at hv
                cases hv
                have hz := VR.of_gndC (ρ := ρ) (hT.zero et te hte).1
                refine ⟨if ok then .tuple #[te.zero, .bool false] else te.zero, ?_, ?_⟩
                · rcases hrun with ⟨rfl, rfl⟩ | ⟨q, clock, rfl, hq⟩
                  · simp only [Instr.lookup, Sem.run_bind, hund, Result.andThen_ok, Sem.run_pure, checkKey_ok hT hkt hku, h1, run_zero hT hte]
                  · simp only [Instr.lookup, Sem.run_bind, hund, Result.andThen_ok, hq, Sem.run_pure, checkKey_ok hT hkt hku, h1, run_zero hT hte]
                · cases ok
                  · exact hz
                  · exact .mk_tuple (VRA.of_list (VRL.cons hz (VRL.cons (.bool _) (VRL.nil ρ))))
            | some p =>
              obtain ⟨a, u⟩ := p
              cases r' with
              | none => exact h2.elim
              | some p' =>
                obtain ⟨a', u'⟩ := p'
                simp only at hv
                cases hv
                refine ⟨if ok then .tuple #[u', .bool true] else u', ?_, ?_⟩
                · rcases hrun with ⟨rfl, rfl⟩ | ⟨q, clock, rfl, hq⟩
                  · simp only [Instr.lookup, Sem.run_bind, hund, Result.andThen_ok, Sem.run_pure, checkKey_ok hT hkt hku, h1]
                  · simp only [Instr.lookup, Sem.run_bind, hund, Result.andThen_ok, hq, Sem.run_pure, checkKey_ok hT hkt hku, h1]
                · cases ok
                  · exact h2.2.1
                  · exact .mk_tuple (VRA.of_list (VRL.cons h2.2.1 (VRL.cons (.bool _) (VRL.nil ρ))))
  · cases hv

end Nt

namespace Nt
open Go

theorem bytesD_cons (c : Value) (l : List Value) : bytesD (c :: l) = match c with | .int .u8 q => (match bytesD l with | some bs => some (UInt8.ofNat q.toNat :: bs) | none => none) | _ => none := by
  cases c with
  | int k q => cases k <;> rfl
  | _ => rfl
theorem bytesD_some : ∀ {l : List Value} {bs : List UInt8}, bytesD l = some bs → ∃ xs : List Int, l = xs.map (Value.int .u8) ∧ bs = xs.map fun q => UInt8.ofNat q.toNat := by
  intro l
  induction l with
  | nil => intro bs h; cases (h : some [] = some bs); exact ⟨[], rfl, rfl⟩
  | cons c l ih =>
    intro bs h
    rw [bytesD_cons] at h
    split at h
    · rename_i q
      cases hb : bytesD l with
      | none => rw [hb] at h; cases h
      | some bs' =>
        rw [hb] at h; cases h
        obtain ⟨xs, e1, e2⟩ := ih hb
        exact ⟨q :: xs, by rw [e1]; rfl, by rw [e2]; rfl⟩
    · cases h
theorem VRL.ints {ρ : Ren} {k : IntKind} : ∀ {xs : List Int} {l' : List Value}, VRL ρ (xs.map (Value.int k)) l' → l' = xs.map (Value.int k) := by
  intro xs
  induction xs with
  | nil => intro l' h; exact h.unnil
  | cons x xs ih =>
    intro l' h
    obtain ⟨y, l'', rfl, hy, ht⟩ := h.uncons
    rw [hy.int_inv, ih ht]; rfl

theorem push_all (xs : List Int) : ∀ acc : ByteArray, xs.foldl (fun r n => r.push (UInt8.ofNat n.toNat)) acc = ⟨⟨acc.data.toList ++ xs.map fun q => UInt8.ofNat q.toNat⟩⟩ := by
  induction xs with
  | nil => intro acc; simp
  | cons x xs ih =>
    intro acc
    rw [List.foldl_cons, ih]
    simp [ByteArray.push]
theorem run_loadBytes' {P : Program} (w : World) : ∀ (xs : List Int) (a : Addr) (acc : ByteArray), (∀ j x, xs[j]? = some x → w.cell? (a.add j) = some (.int .u8 x)) →
    (loadBytes a acc xs.length).run P w = .ok (xs.foldl (fun r n => r.push (UInt8.ofNat n.toNat)) acc) w
  | [], a, acc, _ => by simp [loadBytes]
  | x :: xs, a, acc, h => by
    have h0 : w.cell? a = some (.int .u8 x) := by
      have := h 0 x rfl
      simpa [Addr.add] using this
    have ih := run_loadBytes' (P := P) w xs (a.add 1) (acc.push (UInt8.ofNat x.toNat)) (fun j y hy => by
      have := h (j + 1) y (by simpa using hy)
      have e : (a.add 1).add j = a.add (j + 1) := by
        unfold Addr.add
        by_cases hj : j = 0
        · subst hj; simp
        · simp [hj]; omega
      rw [e]; exact this)
    simp only [List.length_cons, loadBytes, Sem.run_bind, run_load, h0, Result.andThen, List.foldl_cons]
    exact ih
theorem liesAt_bytes' {P : Program} {e : TypeId} (hc : P.cellsOf e = 1) (count o n : Nat) (hn : o + n ≤ count) : liesAt P P.depth e count o e n = true := by
  have hd : P.depth = (2 * (P.types.size + Made.depth) + 1) + 1 := rfl
  rw [hd]
  simp only [liesAt, Bool.or_eq_true]
  left
  rw [hd]
  simp [rowAt, hc, hn, sameLayout, Nat.mod_one]
theorem liesAt_one {P : Program} {e : TypeId} (hz : P.cellsOf e ≠ 0) (count : Nat) (hn : 1 ≤ count) : liesAt P P.depth e count 0 e 1 = true := by
  have hd : P.depth = (2 * (P.types.size + Made.depth) + 1) + 1 := rfl
  rw [hd]
  simp only [liesAt, Bool.or_eq_true]
  left
  rw [hd]
  simp [rowAt, hz, hn, sameLayout]
theorem cellsOf_T {T : TyT} {P : Program} (hT : TabOK T P) {t : TypeId} {e : TyE} (h : T.get t = some e) : P.cellsOf t = e.size := by
  obtain ⟨i, h1, h2, _⟩ := hT.info t e h
  simp [Program.cellsOf, h1, h2]

theorem firstD_ok {ρ : Ren} {h : AHeap} {w : World} (hr : HR ρ h w.heap) {size n : Nat} {v v' : Value} (hv : VR ρ v v') {l : List Value} (hf : firstD h size n v = some l) (P : Program) :
    ∃ l', (Builtin.firstCells size n v').run P w = .ok l'.toArray w ∧ VRL ρ l l' := by
  unfold firstD at hf
  split at hf
  · rename_i b o ln c
    cases hz : Nat.beq (Nat.mul n size) 0 with
    | true =>
      rw [hz, bcond_true] at hf; cases hf
      have hz' : n * size = 0 := beq_true hz
      rcases hv.slice_inv with ⟨L, _, e, _⟩ | ⟨_, _, a', c', e⟩ <;> (rw [e]; exact ⟨[], by simp [Builtin.firstCells, hz', loadCells, loadCellsFrom], VRL.nil ρ⟩)
    | false =>
      rw [hz, bcond_false] at hf
      cases hvc : Nat.beq c voidCap with
      | true => rw [hvc] at hf; cases hf
      | false =>
      rw [hvc, bcond_false] at hf
      split at hf
      · rename_i cs hb
        rcases hv.slice_inv with ⟨L, hL, e', _⟩ | ⟨h0, h1, _⟩
        · obtain ⟨cs', e, f, h1, h2⟩ := hr.known hb hL
          obtain ⟨l', e1, e2, e3⟩ := h2.sub hf
          refine ⟨l', ?_, e2⟩
          rw [e']
          have := run_cells (P := P) (o := L.base + o) h1 e3
          rw [e1] at this
          exact this
        · rw [h1, Nat.beq_refl] at hvc; cases hvc
      · cases hf
  · rename_i ln c
    cases hz : Nat.beq (Nat.mul n size) 0 with
    | true =>
      rw [hz, bcond_true] at hf; cases hf
      rw [hv.sliceNil_inv]
      exact ⟨[], rfl, VRL.nil ρ⟩
    | false => rw [hz] at hf; cases hf
  · rename_i s
    cases hf
    rw [hv.string_inv]
    refine ⟨(((strL s).take n).map fun b => .int .u8 b.toNat), ?_, ?_⟩
    · simp only [Builtin.firstCells, Sem.run_pure]
      congr 1
      apply Array.ext'
      rw [extract_mkS]
      simp [mkS]
    · rw [mp_eq, tke_eq]
      have : ∀ l : List UInt8, VRL ρ (l.map fun b => Value.int .u8 (.ofNat (u8N b))) (l.map fun b => Value.int .u8 b.toNat) := by
        intro l
        induction l with
        | nil => exact VRL.nil ρ
        | cons x l ih => exact VRL.cons (.int _ _) ih
      exact this _
  · cases hf

end Nt

namespace Nt
open Go

theorem VR.mapNil_inv {ρ : Ren} {v : Value} (h : VR ρ (.map none) v) : v = .map none := by cases h; rfl
theorem VR.map_inv {ρ : Ren} {b : Nat} {v : Value} (h : VR ρ (.map (some b)) v) : ∃ L, ρ b = some L ∧ v = .map (some L.r) := by cases h with | map hL => exact ⟨_, hL, rfl⟩
theorem VR.chan_inv {ρ : Ren} {b : Nat} {v : Value} (h : VR ρ (.chan (some b)) v) : ∃ L, ρ b = some L ∧ v = .chan (some L.r) := by cases h with | chan hL => exact ⟨_, hL, rfl⟩
theorem HR.chan {ρ : Ren} {h : AHeap} {heap : Array Obj} (hr : HR ρ h heap) {b : Nat} {cap : Nat} {buf : List Value} (hb : h.get b = some (.chan cap buf)) {L : Loc} (hL : ρ b = some L) :
    ∃ buf' s r, heap[L.r]? = some (.chan cap buf' false s r false) ∧ VRL ρ buf buf'.toList := by
  obtain ⟨L', co, h1, h2, h3⟩ := hr.obj b _ hb
  rw [hL] at h1; cases h1
  cases co <;> simp only [OR] at h3
  obtain ⟨rfl, h4, rfl, rfl⟩ := h3
  exact ⟨_, _, _, h2, h4⟩
theorem HR.iter {ρ : Ren} {h : AHeap} {heap : Array Obj} (hr : HR ρ h heap) {b m since last : Nat} {seen : List Nat} (hb : h.get b = some (.iter m since seen last)) {L : Loc} (hL : ρ b = some L) :
    ∃ M seen', heap[L.r]? = some (.mapIter (some M.r) since seen' last) ∧ ρ m = some M ∧ L.base = 0 ∧ seen'.toList = seen.reverse := by
  obtain ⟨L', co, h1, h2, h3⟩ := hr.obj b _ hb
  rw [hL] at h1; cases h1
  cases co <;> simp only [OR] at h3
  obtain ⟨⟨M, h4, rfl, rfl, h5, rfl⟩, h6⟩ := h3
  exact ⟨M, _, h2, h4, h6, h5⟩

/-- Entries, one by one. -/
def EL (ρ : Ren) (as bs : List MapEntry) : Prop := as.length = bs.length ∧ ∀ (i : Nat) (x y : MapEntry), as[i]? = some x → bs[i]? = some y → ER ρ x y
theorem EL.nil (ρ : Ren) : EL ρ [] [] := ⟨rfl, fun i x y h => by simp at h⟩
theorem EL.cons {ρ : Ren} {x y : MapEntry} {as bs : List MapEntry} (h : ER ρ x y) (t : EL ρ as bs) : EL ρ (x :: as) (y :: bs) := by
  refine ⟨by simp [t.1], fun i u v hu hv => ?_⟩
  cases i with
  | zero => simp at hu hv; subst hu; subst hv; exact h
  | succ i => exact t.2 i u v (by simpa using hu) (by simpa using hv)
theorem EL.uncons {ρ : Ren} {x : MapEntry} {as bs : List MapEntry} (h : EL ρ (x :: as) bs) : ∃ y bs', bs = y :: bs' ∧ ER ρ x y ∧ EL ρ as bs' := by
  cases bs with
  | nil => exact absurd h.1 (by simp)
  | cons y bs' => exact ⟨y, bs', rfl, h.2 0 x y rfl rfl, by simpa using h.1, fun i u v hu hv => h.2 (i + 1) u v (by simpa using hu) (by simpa using hv)⟩
theorem EL.unnil {ρ : Ren} {bs : List MapEntry} (h : EL ρ [] bs) : bs = [] := by
  cases bs with
  | nil => rfl
  | cons y bs' => exact absurd h.1 (by simp)
theorem findB_ok {ρ : Ren} {s : Nat} : ∀ {as bs : List MapEntry} {e : MapEntry}, EL ρ as bs → findB s as = some e → ∃ e', bs.find? (fun x => x.born == s) = some e' ∧ ER ρ e e' := by
  intro as
  induction as with
  | nil => intro bs e _ h; cases h
  | cons x as ih =>
    intro bs e h hf
    obtain ⟨y, bs', rfl, hxy, ht⟩ := h.uncons
    have hf' : bcond (Nat.beq x.born s) (some x) (findB s as) = some e := hf
    cases hb : Nat.beq x.born s with
    | true =>
      rw [hb, bcond_true] at hf'
      cases hf'
      have hy : y.born = s := by rw [← hxy.2.2]; exact beq_true hb
      exact ⟨y, by rw [List.find?_cons]; simp [hy], hxy⟩
    | false =>
      rw [hb, bcond_false] at hf'
      obtain ⟨e', h1, h2⟩ := ih ht hf'
      have hy : (y.born == s) = false := by
        rw [← hxy.2.2]
        cases hq : x.born == s with
        | false => rfl
        | true => have := eq_of_beq hq; rw [this, Nat.beq_refl] at hb; cases hb
      exact ⟨e', by rw [List.find?_cons, hy]; exact h1, h2⟩

theorem run_viewAt_cells {P : Program} {w : World} {r : Nat} {cs : Array Value} {e : TypeId} {f : Nat × Nat} (h : w.heap[r]? = some (.cells cs e f)) : (viewAt r).run P w = .ok none w := by
  simp [viewAt, World.shape?, h]
theorem run_seenAt {P : Program} {w : World} {a : Addr} {cs : Array Value} {e : TypeId} {f : Nat × Nat} (h : w.heap[a.block]? = some (.cells cs e f)) : (Conv.seenAt a).run P w = .ok a w := by
  simp [Conv.seenAt, run_viewAt_cells h]

theorem bytes_ok {P : Program} {ρ : Ren} {h : AHeap} {w : World} (hr : HR ρ h w.heap) {a : Addr} {n c : Nat} {x' : Value} (hx : VR ρ (.slice (some a) n c) x') {l : List Value} (hf : firstD h 1 n (.slice (some a) n c) = some l) {bs : List UInt8} (hb : bytesD l = some bs) :
    (Conv.bytesToString x').run P w = .ok (.string (mkS bs)) w := by
  obtain ⟨xs, rfl, rfl⟩ := bytesD_some hb
  obtain ⟨l', h1, h2⟩ := firstD_ok hr hx hf P
  rw [h2.ints] at h1
  have key : ∀ a' c', x' = .slice (some a') n c' → (Conv.bytesToString x').run P w = .ok (.string (mkS (xs.map fun q => UInt8.ofNat q.toNat))) w := by
    intro a' c' e
    rw [e] at h1 ⊢
    have : (loadCells a' n).run P w = .ok (xs.map (Value.int .u8)).toArray w := by
      simpa [Builtin.firstCells] using h1
    rw [run_bytesToString w a' n c' xs this, push_all]
    rfl
  rcases hx.slice_inv with ⟨L, _, e, _⟩ | ⟨h0, _, a', c', e⟩
  · exact key _ _ e
  · subst h0; exact key _ _ e

set_option maxHeartbeats 4000000 in
theorem read_ok {T : TyT} {P : Program} (hT : TabOK T P) {ρ : Ren} {o : Oper} {env env' : Env} (henv : EnvR ρ env env' o.op.operands) {f : TyT → Env → AHeap → Option Value} (hd : opD o.op T = .read f)
    {h : AHeap} {w : World} (hr : HR ρ h w.heap) {v : Value} (hv : f T env h = some v) : Same P (execOp env' o) ρ v w := by
  obtain ⟨dst, op, ty, pos, after, guard⟩ := o
  simp only at hd henv
  cases op with
  | load t x =>
    cases hd
    obtain ⟨a, v', e, h1, h2⟩ := load_ok hT hr (henv x (by simp [Op.operands])) hv
    refine same_mk (s := Instr.loadAt t (env' x)) ?_ h2
    rw [e]; simp only [Instr.loadAt, Instr.sureAddr, Sem.run_bind, Sem.run_pure, Result.andThen_ok, h1]
  | lookup t x k ok =>
    cases hd
    obtain ⟨v', h1, h2⟩ := lookup_ok hT hr (henv x (by simp [Op.operands])) (henv k (by simp [Op.operands])) hv
    exact same_mk h1 h2
  | entry x =>
    cases hd
    have hx := henv x (by simp [Op.operands])
    unfold rEntry at hv
    split at hv
    · rename_i b he
      split at hv
      · rename_i m _ s _ last hb
        split at hv
        · rename_i es clock hm
          cases hc : Nat.beq clock last with
          | false => rw [hc] at hv; cases hv
          | true =>
            rw [hc, bcond_true] at hv
            have hcl := beq_true hc
            cases hfb : findB s es with
            | none => rw [hfb] at hv; cases hv
            | some e0 =>
              rw [hfb, optE_some] at hv
              cases hv
              rw [he] at hx
              obtain ⟨L, hL, e, _⟩ := hx.ptr_inv
              obtain ⟨M, seen', h1, h2, h3, h4⟩ := hr.iter hb hL
              obtain ⟨es', h5, h6⟩ := hr.map hm h2
              obtain ⟨e1, h7, h8⟩ := findB_ok (bs := es'.toList) ⟨by simpa using h6.1, fun i x y hx hy => h6.2 i x y hx (by simpa using hy)⟩ hfb
              have hback : seen'.back? = some s := by
                rw [← Array.getLast?_toList, h4]; simp
              refine same_mk (s := Instr.entry (env' x)) (v' := .tuple #[e1.key, e1.val]) ?_ (.mk_tuple (VRA.of_list (VRL.cons h8.1 (VRL.cons h8.2.1 (VRL.nil ρ)))))
              rw [e, h3]
              have hfind : es'.find? (fun x => x.born == s) = some e1 := by rw [← Array.find?_toList]; exact h7
              simp only [Instr.entry, Sem.run_bind, Nat.zero_add, run_getObj h1 (fun _ _ _ e => by cases e), Result.andThen_ok, hback, run_getObj h5 (fun _ _ _ e => by cases e)]
              simp [hcl, hfind]
        · cases hv
      · cases hv
    · cases hv
  | convert s d x =>
    have hx := henv x (by simp [Op.operands])
    simp only [opD, opConv] at hd
    cases hs : T.get s with
    | none => rw [hs] at hd; cases hd
    | some ts =>
      cases hdd : T.get d with
      | none => rw [hs, hdd] at hd; cases hd
      | some td =>
        rw [hs, hdd] at hd
        simp only at hd
        have hund1 := run_und hT hs w
        have hund2 := run_und hT hdd w
        split at hd
        · cases hd
        · rename_i hu
          split at hd
          · rename_i e hu1
            cases hd
            unfold rBytes at hv
            split at hv
            · rename_i _ _ _ _ hte
              have hunde := run_und hT hte w
              simp only at hunde
              split at hv
              · rename_i n c he
                cases hv
                rw [he] at hx
                refine same_mk (s := convert s d (env' x)) (v' := .string .empty) ?_ (.string _)
                rw [hx.sliceNil_inv]
                simp only [convert, Sem.run_bind, hund1, hund2, hu, hu1, hunde, Result.andThen_ok]
                rfl
              · rename_i a n c he
                cases hf : firstD h 1 n (.slice (some a) n c) with
                | none => rw [hf] at hv; cases hv
                | some l =>
                  rw [hf] at hv
                  simp only at hv
                  cases hb : bytesD l with
                  | none => rw [hb] at hv; cases hv
                  | some bs =>
                    rw [hb] at hv; cases hv
                    rw [he] at hx
                    have hbytes := bytes_ok (P := P) hr hx hf hb
                    refine same_mk (s := convert s d (env' x)) ?_ (.string _)
                    rw [← hbytes]
                    rcases hx.slice_inv with ⟨L, _, e', _⟩ | ⟨_, _, a', c', e'⟩ <;>
                    · rw [e']
                      simp only [convert, Sem.run_bind, hund1, hund2, hu, hu1, hunde, Result.andThen_ok]
              · cases hv
            · cases hv
          · cases hd
        · cases hd
        · rename_i hu
          split at hd
          · rename_i t hu1
            cases hd
            unfold rToUnsafe at hv
            split at hv
            · rename_i he
              cases hv
              rw [he] at hx
              refine same_mk (s := convert s d (env' x)) (v' := .pointer none) ?_ .ptrNil
              rw [hx.ptrNil_inv]
              simp only [convert, Sem.run_bind, hund1, hund2, hu, hu1, Result.andThen_ok, Conv.unsafePointer]
              rfl
            · rename_i b o' tt he htt
              split at hv
              · rename_i c el g fz hb
                cases hq : (Nat.beq tt.size 0 || Nat.ble (len c) o') with
                | true => rw [hq] at hv; cases hv
                | false =>
                  rw [hq, bcond_false] at hv
                  cases hv
                  rw [Bool.or_eq_false_iff, len_eq] at hq
                  obtain ⟨hq1, hq2⟩ := hq
                  have hz : tt.size ≠ 0 := fun e => by rw [Tr.beq_t e] at hq1; cases hq1
                  have hlt := ble_false hq2
                  rw [he] at hx
                  obtain ⟨L, hL, e', _⟩ := hx.ptr_inv
                  obtain ⟨cs, f, h1, h2⟩ := hr.cells hb hL
                  have hroom := h2.room
                  refine same_mk (s := convert s d (env' x)) (v' := .pointer (some ⟨L.r, L.base + o', none⟩)) ?_ (.ptr _ hL)
                  rw [e']
                  have hcin : (cellsIn L.r).run P w = .ok (some cs.size) w := by simp [cellsIn, World.shape?, h1]
                  have hnot : ¬ cs.size ≤ L.base + o' := by omega
                  simp only [convert, Sem.run_bind, hund1, hund2, hu, hu1, Result.andThen_ok, Conv.unsafePointer, run_seenAt (a := ⟨L.r, L.base + o', none⟩) h1, hcin, run_size hT htt]
                  simp [hz, hnot]
              · cases hv
            · cases hv
          · cases hd
        · rename_i t hu
          split at hd
          · rename_i hu1
            cases hd
            unfold rFromUnsafe at hv
            split at hv
            · rename_i he
              cases hv
              rw [he] at hx
              refine same_mk (s := convert s d (env' x)) (v' := .pointer none) ?_ .ptrNil
              rw [hx.ptrNil_inv]
              simp only [convert, Sem.run_bind, hund1, hund2, hu, hu1, Result.andThen_ok, Conv.unsafePointer]
              rfl
            · rename_i b tt he htt
              split at hv
              · rename_i c el fz hb
                cases hq : (Nat.beq el t && !(Nat.beq tt.size 0) && Nat.ble tt.size (len c)) with
                | false => rw [hq] at hv; cases hv
                | true =>
                  rw [hq, bcond_true] at hv
                  cases hv
                  simp only [Bool.and_eq_true, Bool.not_eq_true', len_eq] at hq
                  obtain ⟨⟨hq1, hq2⟩, hq3⟩ := hq
                  obtain rfl := beq_true hq1
                  have hz : tt.size ≠ 0 := fun e => by rw [Tr.beq_t e] at hq2; cases hq2
                  have hle := ble_true hq3
                  rw [he] at hx
                  obtain ⟨L, hL, e', _⟩ := hx.ptr_inv
                  obtain ⟨cs, f, h1, h2⟩ := hr.cells hb hL
                  obtain ⟨hb0, hsz⟩ := h2.exact rfl
                  refine same_mk (s := convert s d (env' x)) (v' := .pointer (some ⟨L.r, L.base + 0, none⟩)) ?_ (.ptr _ hL)
                  rw [e', hb0]
                  have hva : (variablesAt ⟨L.r, 0 + 0, none⟩ el 1).run P w = .ok true w := by
                    have hc := cellsOf_T hT htt
                    have : liesAt P P.depth el (cs.size / P.cellsOf el) 0 el 1 = true := liesAt_one (by rw [hc]; exact hz) _ (by
                      rw [hc, hsz]; exact (Nat.one_le_div_iff (by omega)).2 hle)
                    simp [variablesAt, World.shape?, h1, this]
                  simp only [convert, Sem.run_bind, hund1, hund2, hu, hu1, Result.andThen_ok, Conv.unsafePointer, run_seenAt (a := ⟨L.r, 0 + 0, none⟩) h1, run_size hT htt, hva]
                  simp
              · cases hv
            · cases hv
          · cases hd
        · cases hd
  | call c =>
    obtain ⟨callee, args, tys⟩ := c
    cases callee with
    | value g => cases hd
    | invoke r n => cases hd
    | builtin b =>
      have harg : ∀ x ∈ args, VR ρ (env x) (env' x) := fun x hx => henv x (by simp [Op.operands, Call.operands, hx])
      cases b <;> simp only [opD, opCall, opBuiltin] at hd
      case len =>
        split at hd
        · rename_i x t ha htt
          cases hd
          have hx := harg x (by rw [← Array.mem_toList_iff, ha]; simp)
          have hargs : (args.map env') = #[env' x] := by
            apply Array.ext'; simp [ha]
          have htys : tys[0]? = some t := by
            rw [← Array.getElem?_toList, htt]; rfl
          have hgoal : ∀ r : Value, (Builtin.len_ tys ty #[env' x]).run P w = .ok r w → VR ρ v r → Same P (execOp env' ⟨dst, .call ⟨.builtin .len, args, tys⟩, ty, pos, after, guard⟩) ρ v w := fun r h1 h2 =>
            same_mk (s := Builtin.len_ tys ty (args.map env')) (by rw [hargs]; exact h1) h2
          unfold rLen at hv
          cases ht : T.get t with
          | none => rw [ht] at hv; cases hv
          | some e =>
            rw [ht] at hv
            have hund := run_und hT ht w
            simp only at hv
            split at hv
            · rename_i s hu he
              cases hv
              rw [he] at hx
              refine hgoal (.int .i64 s.size) ?_ (by rw [len_eq, strL_length]; exact .int _ _)
              rw [hx.string_inv]; simp [Builtin.len_, htys, hund, hu, goInt]
            · rename_i a n c hu he
              cases hv
              rw [he] at hx
              refine hgoal (.int .i64 n) ?_ (.int _ _)
              cases a with
              | none => rw [hx.sliceNil_inv]; simp [Builtin.len_, htys, hund, hu, goInt]
              | some a =>
                rcases hx.slice_inv with ⟨L, _, e', _⟩ | ⟨h0, _, a', c', e'⟩
                · rw [e']; simp [Builtin.len_, htys, hund, hu, goInt]
                · subst h0; rw [e']; simp [Builtin.len_, htys, hund, hu, goInt]
            · rename_i hu
              cases hv
              exact hgoal _ (by simp [Builtin.len_, htys, hund, hu, goInt]) (.int _ _)
            · rename_i hu he
              cases hv
              rw [he] at hx
              refine hgoal (.int .i64 0) ?_ (.int _ _)
              rw [hx.mapNil_inv]; simp [Builtin.len_, htys, hund, hu, goInt]
            · rename_i r hu he
              split at hv
              · rename_i es k hb
                cases hv
                rw [he] at hx
                cases hm : env' x with
                | map q =>
                  rw [hm] at hx
                  cases hx with
                  | map hL =>
                    obtain ⟨es', h1, h2⟩ := hr.map hb hL
                    refine hgoal (.int .i64 es'.size) ?_ (by rw [len_eq, h2.1]; simp; exact .int _ _)
                    rw [hm]
                    simp [Builtin.len_, htys, hund, hu, goInt, run_getObj h1 (fun _ _ _ e => by cases e)]
                | _ => rw [hm] at hx; cases hx
              · cases hv
            · rename_i r hu he
              split at hv
              · rename_i cap buf hb
                cases hv
                rw [he] at hx
                cases hm : env' x with
                | chan q =>
                  rw [hm] at hx
                  cases hx with
                  | chan hL =>
                    obtain ⟨buf', s, r', h1, h2⟩ := hr.chan hb hL
                    refine hgoal (.int .i64 buf'.size) ?_ (by rw [len_eq, h2.1]; simp; exact .int _ _)
                    rw [hm]
                    simp [Builtin.len_, htys, hund, hu, goInt, run_getObj h1 (fun _ _ _ e => by cases e)]
                | _ => rw [hm] at hx; cases hx
              · cases hv
            · cases hv
        · cases hd
      case cap => split at hd <;> cases hd
      case unsafeSliceData => split at hd <;> cases hd
      all_goals cases hd
  | _ => cases hd

end Nt

namespace Nt
open Go

/-- What an allocation comes to: a block behind all others, and the value that leads to it. -/
def Made (P : Program) (s : Sem Next) (ρ : Ren) (obj : AObj) (mk : Nat → Value) (w : World) : Prop :=
  ∃ co v', s.run P w = .ok (.value v') { w with heap := w.heap.push co } ∧ OR ρ ⟨w.heap.size, 0, 0⟩ obj co ∧ ∀ (ρ' : Ren) b, ρ' b = some ⟨w.heap.size, 0, 0⟩ → VR ρ' (mk b) v'

theorem made_mk {P : Program} {s : Sem Value} {ρ : Ren} {obj : AObj} {mk : Nat → Value} {w : World} {co : Obj} {v' : Value} (h : s.run P w = .ok v' { w with heap := w.heap.push co })
    (ho : OR ρ ⟨w.heap.size, 0, 0⟩ obj co) (hv : ∀ (ρ' : Ren) b, ρ' b = some ⟨w.heap.size, 0, 0⟩ → VR ρ' (mk b) v') : Made P (do pure (.value (← s))) ρ obj mk w :=
  ⟨co, v', by simp [h], ho, hv⟩

theorem or_cells {ρ : Ren} {c : List Value} {cs : Array Value} {e : TypeId} (r : Nat) (h : VRL ρ c cs.toList) : OR ρ ⟨r, 0, 0⟩ (.cells c e 0 0) (.cells cs e) where
  elem := rfl
  room := by have := h.1; simp only [Array.length_toList] at this; show 0 + c.length + 0 * 0 ≤ cs.size; omega
  exact _ := ⟨rfl, by have := h.1; simp only [Array.length_toList] at this; exact this.symm⟩
  cell i x hx := by
    obtain ⟨y, h1, h2⟩ := h.get hx
    exact ⟨y, by simpa using h1, h2⟩
  ice := .inl rfl

theorem ptrTo_vr (n : Nat) : ∀ (ρ' : Ren) b, ρ' b = some ⟨n, 0, 0⟩ → VR ρ' (ptrTo b) (.pointer (some ⟨n, 0, none⟩)) := fun ρ' b h => by
  have := VR.ptr (ρ := ρ') (b := b) 0 h
  simpa [ptrTo] using this

theorem rep_length (z : List Value) (n : Nat) : (rep z n).length = n * z.length := by
  induction n with
  | zero => rw [Nat.zero_mul]; rfl
  | succ n ih => show (app z (rep z n)).length = _; rw [app_eq, List.length_append, ih, Nat.succ_mul, Nat.add_comm]
theorem rep_get (z : List Value) : ∀ (n i : Nat), i < n * z.length → (rep z n)[i]? = z[i % z.length]? := by
  intro n
  induction n with
  | zero => intro i h; simp at h
  | succ n ih =>
    intro i h
    show (app z (rep z n))[i]? = _
    rw [app_eq]
    rcases Nat.lt_or_ge i z.length with h1 | h1
    · rw [List.getElem?_append_left h1, Nat.mod_eq_of_lt h1]
    · rw [List.getElem?_append_right h1, ih _ (by rw [Nat.succ_mul] at h; omega), Nat.mod_eq_sub_mod h1]
theorem rep_model (z : Array Value) (n m : Nat) (h : m = n * z.size) (hz : z.size ≠ 0) : ((Array.range m).map (fun i => z[i % z.size]!)).toList = rep z.toList n := by
  apply List.ext_getElem?
  intro i
  rw [Array.toList_map, Array.toList_range, List.getElem?_map]
  by_cases hi : i < m
  · rw [List.getElem?_range hi, rep_get _ _ _ (by simpa [h] using hi)]
    have : i % z.size < z.size := Nat.mod_lt _ (by omega)
    simp [this]
  · rw [List.getElem?_eq_none (by simpa using hi), List.getElem?_eq_none (by rw [rep_length]; simp; omega)]
    rfl

theorem VRL.rep {ρ : Ren} {a b : List Value} (h : VRL ρ a b) (n : Nat) : VRL ρ (Nt.rep a n) (Nt.rep b n) := by
  induction n with
  | zero => exact VRL.nil ρ
  | succ n ih =>
    show VRL ρ (app a (Nt.rep a n)) (app b (Nt.rep b n))
    rw [app_eq, app_eq]
    exact h.append ih

theorem natOf_some {v v' : Value} {ρ : Ren} (hv : VR ρ v v') {n : Nat} (h : natOf v = some n) : v' = .int .i64 n := by
  unfold natOf at h
  split at h
  · cases h; exact hv.int_inv
  · cases h

theorem wrap_small (n : Nat) (h : n ≤ 68719476736) : IntKind.i64.wrap (n : Int) = n := by
  have h1 : topN .i64 = 9223372036854775807 := rfl
  have h2 : lowN .i64 = 9223372036854775808 := rfl
  apply wrap_in .i64 _
  · rw [h1]; omega
  · rw [h2]; omega

set_option maxHeartbeats 2000000 in
theorem made_alloc {T : TyT} {P : Program} (hT : TabOK T P) {ρ : Ren} (e : TypeId) (dst : Option Tmp) (ty : TypeId) (pos : String) (after : Array Edge) (guard : Option (Nat × Bool))
    {env env' : Env} (henv : EnvR ρ env env' (Op.alloc e).operands) {f : TyT → Env → Option (AObj × (Nat → Value))} (hd : opD (.alloc e) T = .alloc f)
    {obj : AObj} {mk : Nat → Value} (hf : f T env = some (obj, mk)) (w : World) : Made P (execOp env' ⟨dst, .alloc e, ty, pos, after, guard⟩) ρ obj mk w := by
  cases hd
  unfold aAlloc at hf
  cases he : T.get e with
  | none => rw [he] at hf; cases hf
  | some te =>
    rw [he] at hf; cases hf
    have hz := VR.of_gndC (ρ := ρ) (hT.zero e te he).1
    refine made_mk (s := Instr.alloc e true (.tuple #[])) (co := .cells te.zero.cells e) (v' := .pointer (some ⟨w.heap.size, 0, none⟩)) ?_ (or_cells _ (by rw [cellsL_cells]; exact hz.cellsL)) (ptrTo_vr _)
    simp only [Instr.alloc, Sem.run_bind, run_zero hT he, Result.andThen_ok, newVar, newRow, run_newObj, Sem.run_pure]

set_option maxHeartbeats 2000000 in
theorem made_box {T : TyT} {P : Program} (hT : TabOK T P) {ρ : Ren} (e : TypeId) (x : Operand) (dst : Option Tmp) (ty : TypeId) (pos : String) (after : Array Edge) (guard : Option (Nat × Bool))
    {env env' : Env} (henv : EnvR ρ env env' (Op.box e x).operands) {f : TyT → Env → Option (AObj × (Nat → Value))} (hd : opD (.box e x) T = .alloc f)
    {obj : AObj} {mk : Nat → Value} (hf : f T env = some (obj, mk)) (w : World) : Made P (execOp env' ⟨dst, .box e x, ty, pos, after, guard⟩) ρ obj mk w := by
  cases hd
  cases hf
  have hx := henv x (by simp [Op.operands])
  refine made_mk (s := Instr.box e (env' x)) (co := .cells (env' x).cells e) (v' := .pointer (some ⟨w.heap.size, 0, none⟩)) ?_ (or_cells _ (by rw [cellsL_cells]; exact hx.cellsL)) (ptrTo_vr _)
  simp only [Instr.box, Sem.run_bind, Result.andThen_ok, newVar, newRow, run_newObj, Sem.run_pure]

set_option maxHeartbeats 800000 in
theorem made_buildSlice {T : TyT} {P : Program} (hT : TabOK T P) {ρ : Ren} (t : TypeId) (n : Nat) (parts : Array (Nat × Operand)) (dst : Option Tmp) (ty : TypeId) (pos : String) (after : Array Edge) (guard : Option (Nat × Bool))
    {env env' : Env} (henv : EnvR ρ env env' (Op.buildSlice t n parts).operands) {f : TyT → Env → Option (AObj × (Nat → Value))} (hd : opD (.buildSlice t n parts) T = .alloc f)
    {obj : AObj} {mk : Nat → Value} (hf : f T env = some (obj, mk)) (w : World) : Made P (execOp env' ⟨dst, .buildSlice t n parts, ty, pos, after, guard⟩) ρ obj mk w := by
  cases hd
  unfold aBuildSlice at hf
  split at hf
  · rename_i e _ _ _ _ ht
    cases he : T.get e with
    | none => rw [he] at hf; cases hf
    | some te =>
      rw [he] at hf
      simp only at hf
      cases hc : (Nat.beq te.size 0 || Nat.ble 16777216 (n * te.size) || !(Nat.beq (len (cellsL te.zero)) te.size)) with
      | true => rw [hc] at hf; cases hf
      | false =>
        rw [hc, bcond_false] at hf
        simp only [Bool.or_eq_false_iff, Bool.not_eq_false', len_eq] at hc
        obtain ⟨⟨hc1, hc2⟩, hc3⟩ := hc
        have hz0 : te.size ≠ 0 := fun e => by rw [Tr.beq_t e] at hc1; cases hc1
        have hlt := ble_false hc2
        have hzl := beq_true hc3
        rw [mp_eq] at hf
        cases hfill : fillD (fun i => some (i * te.size, te.size)) (rep (cellsL te.zero) n) (parts.toList.map fun q => (q.1, env q.2)) with
        | none => rw [hfill] at hf; cases hf
        | some l =>
          rw [hfill] at hf; cases hf
          have hz := (VR.of_gndC (ρ := ρ) (hT.zero e te he).1).cellsL
          have hzs : te.zero.cells.size = te.size := by rw [← Array.length_toList, cellsL_cells]; exact hzl
          have hp : VRP ρ (parts.toList.map fun q => (q.1, env q.2)) (parts.map fun (q : Nat × Operand) => (q.1, env' q.2)).toList := by
            rw [Array.toList_map]
            exact vrp_map fun q hq => henv q.2 (by simp only [Op.operands]; simp; exact ⟨q.1, by simpa using hq⟩)
          have hzero : ∃ z : Array Value, ((n * te.size = 0 ∧ z = #[]) ∨ (n * te.size ≠ 0 ∧ z = te.zero.cells)) ∧ ((Array.range (n * te.size)).map (fun i => z[i % z.size]!)).toList = rep (cellsL te.zero) n := by
            by_cases hn : n * te.size = 0
            · have n0 : n = 0 := by rcases Nat.mul_eq_zero.1 hn with h | h; exact h; exact absurd h hz0
              subst n0
              exact ⟨#[], .inl ⟨hn, rfl⟩, by rw [hn, Array.toList_map, Array.toList_range]; rfl⟩
            · refine ⟨te.zero.cells, .inr ⟨hn, rfl⟩, ?_⟩
              rw [rep_model _ n _ (by rw [hzs]) (by rw [hzs]; exact hz0), cellsL_cells]
          obtain ⟨z, hz1, hz2⟩ := hzero
          obtain ⟨l', h1, h2⟩ := fill_ok (cells' := (Array.range (n * te.size)).map (fun i => z[i % z.size]!)) hp (by rw [hz2]; exact hz.rep n) hfill
          simp only [execOp]
          refine made_mk (co := .cells l' e) (v' := .slice (some ⟨w.heap.size, 0, none⟩) n n) ?_ (or_cells _ h2) ?_
          · have hund := run_und hT ht w
            simp only at hund
            have hle : ¬ n * te.size > 2 ^ 24 := by simp; omega
            simp only [Instr.buildSlice, Sem.run_bind, hund, Result.andThen_ok, run_size hT he, hle, if_false]
            rcases hz1 with ⟨hn, rfl⟩ | ⟨hn, rfl⟩
            · rw [if_pos hn]
              simp only [pure_bind]
              rw [h1]
              simp only [Sem.run_bind, newRow, run_newObj, Result.andThen_ok, Sem.run_pure]
            · rw [if_neg hn]
              simp only [Sem.run_bind, run_zero hT he, Result.andThen_ok, Sem.run_pure]
              rw [h1]
              simp only [Sem.run_bind, newRow, run_newObj, Result.andThen_ok, Sem.run_pure]
          · intro ρ' b hb
            have hb' : n < big := by unfold big; have : n ≤ n * te.size := Nat.le_mul_of_pos_right _ (by omega); omega
            have := VR.slice (ρ := ρ') (b := b) 0 n n hb
            have hc : capOf ⟨w.heap.size, 0, 0⟩ n = n := by unfold capOf; rw [if_pos hb']
            rw [hc] at this
            simpa using this
  · cases hf

set_option maxHeartbeats 2000000 in
theorem made_makeSlice {T : TyT} {P : Program} (hT : TabOK T P) {ρ : Ren} (t : TypeId) (l c : Operand) (dst : Option Tmp) (ty : TypeId) (pos : String) (after : Array Edge) (guard : Option (Nat × Bool))
    {env env' : Env} (henv : EnvR ρ env env' (Op.makeSlice t l c).operands) {f : TyT → Env → Option (AObj × (Nat → Value))} (hd : opD (.makeSlice t l c) T = .alloc f)
    {obj : AObj} {mk : Nat → Value} (hf : f T env = some (obj, mk)) (w : World) : Made P (execOp env' ⟨dst, .makeSlice t l c, ty, pos, after, guard⟩) ρ obj mk w := by
  cases hd
  unfold aMakeSlice at hf
  split at hf
  · rename_i e _ _ _ _ ht
    split at hf
    · rename_i te l0 c0 he hl hc
      cases hq : (Nat.beq te.size 0 || !(Nat.ble l0 c0) || !(small c0) || !(smallT te) || !(Nat.beq (len (cellsL te.zero)) te.size)) with
      | true => rw [hq] at hf; cases hf
      | false =>
        rw [hq, bcond_false] at hf
        cases hf
        simp only [Bool.or_eq_false_iff, Bool.not_eq_false', len_eq] at hq
        obtain ⟨⟨⟨⟨hq1, hq2⟩, hq3⟩, hq4⟩, hq5⟩ := hq
        have hz0 : te.size ≠ 0 := fun e => by rw [Tr.beq_t e] at hq1; cases hq1
        have hlc := ble_true hq2
        have hcs : c0 ≤ 68719476736 := ble_true hq3
        have hbs : te.bytes ≤ 512 := ble_true hq4
        have hzl := beq_true hq5
        have hl' := natOf_some (henv l (by simp [Op.operands])) hl
        have hc' := natOf_some (henv c (by simp [Op.operands])) hc
        have hz := (VR.of_gndC (ρ := ρ) (hT.zero e te he).1).cellsL
        have hzs : te.zero.cells.size = te.size := by rw [← Array.length_toList, cellsL_cells]; exact hzl
        obtain ⟨i, hi, his, hib⟩ := run_typeInfo hT he w
        have hzero : ∃ z : Array Value, ((c0 * te.size = 0 ∧ z = #[]) ∨ (c0 * te.size ≠ 0 ∧ z = te.zero.cells)) ∧ ((Array.range (c0 * te.size)).map (fun i => z[i % z.size]!)).toList = rep (cellsL te.zero) c0 := by
          by_cases hn : c0 * te.size = 0
          · have n0 : c0 = 0 := by rcases Nat.mul_eq_zero.1 hn with h | h; exact h; exact absurd h hz0
            exact ⟨#[], .inl ⟨hn, rfl⟩, by rw [hn, n0, Array.toList_map, Array.toList_range]; rfl⟩
          · refine ⟨te.zero.cells, .inr ⟨hn, rfl⟩, ?_⟩
            rw [rep_model _ c0 _ (by rw [hzs]) (by rw [hzs]; exact hz0), cellsL_cells]
        obtain ⟨z, hz1, hz2⟩ := hzero
        refine made_mk (s := Instr.makeSlice t (env' l) (env' c)) (co := .cells ((Array.range (c0 * te.size)).map (fun i => z[i % z.size]!)) e) (v' := .slice (some ⟨w.heap.size, 0, none⟩) l0 c0) ?_ (or_cells _ (by rw [hz2]; exact hz.rep c0)) ?_
        · have hund := run_und hT ht w
          simp only at hund
          have w1 : IntKind.i64.wrap (l0 : Int) = l0 := wrap_small _ (by omega)
          have w2 : IntKind.i64.wrap (c0 : Int) = c0 := wrap_small _ (by omega)
          have hmul : te.bytes * c0 ≤ 512 * 68719476736 := Nat.mul_le_mul hbs hcs
          have hmulI : ((te.bytes : Int) * (c0 : Int)) ≤ 35184372088832 := by have := Int.ofNat_le.2 hmul; rw [Int.natCast_mul] at this; omega
          have hcond : (decide ((c0 : Int) < 0) || decide ((te.bytes : Int) * (c0 : Int) > 2 ^ 48) || decide ((l0 : Int) < 0) || decide ((l0 : Int) > (c0 : Int))) = false := by
            have h48 : (2 : Int) ^ 48 = 281474976710656 := by decide
            rw [h48]
            simp only [Bool.or_eq_false_iff, decide_eq_false_iff_not]
            refine ⟨⟨⟨?_, ?_⟩, ?_⟩, ?_⟩ <;> omega
          rw [hl', hc']
          simp only [Instr.makeSlice, Sem.run_bind, hund, Result.andThen_ok, asInt, asIntOf, Sem.run_pure, hi, hib, w1, w2, hcond, Bool.false_eq_true, if_false, run_askRoom, run_size hT he, Int.toNat_natCast]
          rcases hz1 with ⟨hn, rfl⟩ | ⟨hn, rfl⟩
          · rw [if_pos hn]
            simp only [pure_bind, Sem.run_bind, newRow, run_newObj, Result.andThen_ok, Sem.run_pure]
          · rw [if_neg hn]
            simp only [Sem.run_bind, run_zero hT he, newRow, run_newObj, Result.andThen_ok, Sem.run_pure]
        · intro ρ' b hb
          have hb' : c0 < big := by unfold big; omega
          have := VR.slice (ρ := ρ') (b := b) 0 l0 c0 hb
          have hc : capOf ⟨w.heap.size, 0, 0⟩ c0 = c0 := by unfold capOf; rw [if_pos hb']
          rw [hc] at this
          simpa using this
    · cases hf
  · cases hf

set_option maxHeartbeats 2000000 in
theorem made_makeMap {T : TyT} {P : Program} (hT : TabOK T P) {ρ : Ren} (t : TypeId) (r : Option Operand) (dst : Option Tmp) (ty : TypeId) (pos : String) (after : Array Edge) (guard : Option (Nat × Bool))
    {env env' : Env} (henv : EnvR ρ env env' (Op.makeMap t r).operands) {f : TyT → Env → Option (AObj × (Nat → Value))} (hd : opD (.makeMap t r) T = .alloc f)
    {obj : AObj} {mk : Nat → Value} (hf : f T env = some (obj, mk)) (w : World) : Made P (execOp env' ⟨dst, .makeMap t r, ty, pos, after, guard⟩) ρ obj mk w := by
  cases hd
  have hmap : ∀ (ρ' : Ren) b, ρ' b = some ⟨w.heap.size, 0, 0⟩ → VR ρ' (mapTo b) (.map (some w.heap.size)) := fun ρ' b hb => .map hb
  have hor : OR ρ ⟨w.heap.size, 0, 0⟩ (.map [] 0) (.map #[] 0) := ⟨rfl, rfl, fun i x y hx => by simp at hx⟩
  unfold aMakeMap at hf
  split at hf
  · cases hf
    refine made_mk (s := Instr.makeMap t none) ?_ hor hmap
    simp [Instr.makeMap]
  · rename_i q
    split at hf
    · rename_i k n ht hq
      cases hf
      have hx := henv q (by simp [Op.operands])
      rw [hq] at hx
      refine made_mk (s := Instr.makeMap t (some (env' q))) ?_ hor hmap
      have hund := run_und hT ht w
      simp only at hund
      rw [hx.int_inv]
      simp [Instr.makeMap, hund, asInt, asIntOf]
    · cases hf

set_option maxHeartbeats 2000000 in
theorem made_makeChan {T : TyT} {P : Program} (hT : TabOK T P) {ρ : Ren} (t : TypeId) (s : Operand) (dst : Option Tmp) (ty : TypeId) (pos : String) (after : Array Edge) (guard : Option (Nat × Bool))
    {env env' : Env} (henv : EnvR ρ env env' (Op.makeChan t s).operands) {f : TyT → Env → Option (AObj × (Nat → Value))} (hd : opD (.makeChan t s) T = .alloc f)
    {obj : AObj} {mk : Nat → Value} (hf : f T env = some (obj, mk)) (w : World) : Made P (execOp env' ⟨dst, .makeChan t s, ty, pos, after, guard⟩) ρ obj mk w := by
  cases hd
  unfold aMakeChan at hf
  split at hf
  · rename_i dir e _ _ _ _ n ht hn
    cases he : T.get e with
    | none => rw [he] at hf; cases hf
    | some te =>
      rw [he] at hf
      simp only at hf
      cases hq : (Nat.ble n 1048576 && smallT te) with
      | false => rw [hq] at hf; cases hf
      | true =>
        rw [hq, bcond_true] at hf
        cases hf
        rw [Bool.and_eq_true] at hq
        have hns := ble_true hq.1
        have hbs : te.bytes ≤ 512 := ble_true hq.2
        have hn' := natOf_some (henv s (by simp [Op.operands])) hn
        obtain ⟨i, hi, his, hib⟩ := run_typeInfo hT he w
        refine made_mk (s := Instr.makeChan t (env' s)) (co := .chan n #[] false 0 0 false) (v' := .chan (some w.heap.size)) ?_ ⟨rfl, VRL.nil ρ, rfl, rfl⟩ (fun ρ' b hb => .chan hb)
        have hund := run_und hT ht w
        simp only at hund
        have hmul : te.bytes * n ≤ 512 * 1048576 := Nat.mul_le_mul hbs hns
        have hmulI : ((te.bytes : Int) * (n : Int)) ≤ 536870912 := by have := Int.ofNat_le.2 hmul; rw [Int.natCast_mul] at this; omega
        have hcond : ¬ ((n : Int) < 0 ∨ (n : Int) > IntKind.i64.max ∨ (te.bytes : Int) * (n : Int) > 2 ^ 48 - 112) := by
          have h48 : (2 : Int) ^ 48 = 281474976710656 := by decide
          have hmx : IntKind.i64.max = 9223372036854775807 := by decide
          rw [h48, hmx]
          omega
        rw [hn']
        simp only [Instr.makeChan, Sem.run_bind, asInt, asIntOf, Sem.run_pure, Result.andThen_ok, hund, hi, hib, hcond, if_false, run_newObj, Int.toNat_natCast]
  · cases hf

set_option maxHeartbeats 4000000 in
theorem alloc_ok {T : TyT} {P : Program} (hT : TabOK T P) {ρ : Ren} {o : Oper} {env env' : Env} (henv : EnvR ρ env env' o.op.operands) {f : TyT → Env → Option (AObj × (Nat → Value))} (hd : opD o.op T = .alloc f)
    {obj : AObj} {mk : Nat → Value} (hf : f T env = some (obj, mk)) (w : World) : Made P (execOp env' o) ρ obj mk w := by
  obtain ⟨dst, op, ty, pos, after, guard⟩ := o
  simp only at hd henv
  cases op with
  | alloc e => exact made_alloc hT _ dst ty pos after guard henv hd hf w
  | box e x => exact made_box hT _ _ dst ty pos after guard henv hd hf w
  | buildSlice t n parts => exact made_buildSlice hT _ _ _ dst ty pos after guard henv hd hf w
  | makeSlice t l c => exact made_makeSlice hT _ _ _ dst ty pos after guard henv hd hf w
  | makeMap t r => exact made_makeMap hT _ _ dst ty pos after guard henv hd hf w
  | makeChan t s => exact made_makeChan hT _ _ dst ty pos after guard henv hd hf w
  | convert s d x =>
    simp only [opD, opConv] at hd
    split at hd
    · split at hd
      · cases hd
      · split at hd <;> cases hd
      · cases hd
      · split at hd <;> cases hd
      · split at hd <;> cases hd
      · cases hd
    · cases hd
  | call c =>
    obtain ⟨callee, args, tys⟩ := c
    cases callee with
    | value g => cases hd
    | invoke r n => cases hd
    | builtin b =>
      cases b <;> simp only [opD, opCall, opBuiltin] at hd
      case len => split at hd <;> cases hd
      case cap => split at hd <;> cases hd
      case unsafeSliceData => split at hd <;> cases hd
      all_goals cases hd
  | _ => cases hd

end Nt

namespace Nt
open Go

/-! ### A store -/
theorem store_ok {T : TyT} {P : Program} (hT : TabOK T P) {ρ : Ren} {h h' : AHeap} {w : World} (hr : HR ρ h w.heap) {t : TypeId} {x x' v v' r : Value} (hx : VR ρ x x') (hv : VR ρ v v')
    (hd : dStore T h t x v = some (r, h')) : ∃ w', (Instr.storeAt t x' v').run P w = .ok () w' ∧ Ev ρ h w ρ h' w' := by
  unfold dStore at hd
  cases ht : T.get t with
  | none => rw [ht] at hd; cases hd
  | some ti =>
    rw [ht] at hd
    simp only at hd
    split at hd
    · rename_i b o
      cases hc : (Nat.beq (len (cellsL v)) ti.size && alls one (cellsL v)) with
      | false => rw [hc] at hd; cases hd
      | true =>
        rw [hc, bcond_true] at hd
        rw [Bool.and_eq_true, len_eq] at hc
        obtain ⟨L, hL, e, _⟩ := hx.ptr_inv
        obtain ⟨_, w', h1, h2⟩ := putIn_ok (P := P) hr hv.cellsL hc.2 hd hL
        refine ⟨w', ?_, h2⟩
        have hs := beq_true hc.1
        have hz : ¬ v'.cells.size ≠ ti.size := by
          have := hv.cellsL.1
          rw [← Array.length_toList, cellsL_cells]; omega
        rw [e]
        rw [← cellsL_cells] at h1
        simp only [Instr.storeAt, Instr.sureAddr, storeVar, Sem.run_bind, Sem.run_pure, Result.andThen_ok, run_size hT ht, hz, if_false]
        exact h1
    · cases hd

/-! ### A map's entry -/
theorem findD_key {k : Value} : ∀ {es : List MapEntry} {i j : Nat} {v : Value}, findD k es i = some (some (j, v)) → ∃ n e, j = i + n ∧ es[n]? = some e ∧ keyEq k e.key = some true := by
  intro es
  induction es with
  | nil => intro i j v h; simp [findD] at h
  | cons e es ih =>
    intro i j v h
    have h' : (match keyEq k e.key with | some true => some (some (i, e.val)) | some false => findD k es (Nat.succ i) | none => none) = some (some (j, v)) := h
    split at h'
    · rename_i hq; cases h'; exact ⟨0, e, rfl, rfl, hq⟩
    · obtain ⟨n, u, h1, h2, h3⟩ := ih h'
      exact ⟨n + 1, u, by omega, by simpa using h2, h3⟩
    · cases h'

theorem setAt_get (k v : Value) : ∀ (es : List MapEntry) (n i : Nat), (setAt es k v n)[i]? = es[i]?.map fun e => if i = n then { e with key := k, val := v } else e := by
  intro es
  induction es with
  | nil => intro n i; simp [setAt]
  | cons e es ih =>
    intro n i
    show (bcond (Nat.beq n 0) ({ e with key := k, val := v } :: es) (e :: setAt es k v (n - 1)))[i]? = _
    cases n with
    | zero =>
      show ({ e with key := k, val := v } :: es)[i]? = _
      cases i with
      | zero => simp
      | succ i => simp
    | succ n =>
      show (e :: setAt es k v n)[i]? = _
      cases i with
      | zero => simp
      | succ i => simp [ih]
theorem setAt_length (k v : Value) (es : List MapEntry) (n : Nat) : (setAt es k v n).length = es.length := by
  have h1 := fun i => setAt_get k v es n i
  apply Nat.le_antisymm
  · have := h1 es.length
    simp at this
    exact this
  · have := h1 (setAt es k v n).length
    rw [List.getElem?_eq_none (Nat.le_refl _)] at this
    have := this.symm
    simpa using this

theorem sameBits_key {ρ : Ren} {k k' e e' : Value} (hk : VR ρ k k') (he : VR ρ e e') (h : keyEq k e = some true) : Instr.sameBits 10000 e' k' = true := by
  rcases keyEq_some hk he h with ⟨a, m, n, rfl, rfl, hq⟩ | ⟨a, b, rfl, rfl, hq⟩
  · have : m = n := by simpa using hq
    subst this
    simp [Instr.sameBits]
  · have : (a == b) = true := hq.symm
    rw [beq_toListBytes] at this
    have hab := eq_of_beq this
    simp only [Instr.sameBits, beq_toListBytes, hab]
    exact beq_self_eq_true _

theorem mapUpdate_ok {T : TyT} {P : Program} (hT : TabOK T P) {ρ : Ren} {h h' : AHeap} {w : World} (hr : HR ρ h w.heap) {t : TypeId} {m m' k k' v v' r : Value} (hm : VR ρ m m') (hk : VR ρ k k') (hv : VR ρ v v')
    (hd : dMapUpdate T h t m k v = some (r, h')) : ∃ w', (Instr.mapUpdate t m' k' v').run P w = .ok () w' ∧ Ev ρ h w ρ h' w' := by
  unfold dMapUpdate at hd
  split at hd
  · rename_i kt et _ _ _ _ ht
    cases hko : keyOk T kt k with
    | false => rw [hko] at hd; cases hd
    | true =>
      rw [hko, bcond_true] at hd
      obtain ⟨e, hkt, hfit, hku⟩ := keyOk_some hko
      split at hd
      · rename_i b
        split at hd
        · rename_i es clock hb
          obtain ⟨L, hL, rfl⟩ := hm.map_inv
          obtain ⟨es', h1, hE⟩ := hr.map hb hL
          have hund := run_und hT ht w
          simp only at hund
          have hget := run_getObj (P := P) h1 (fun _ _ _ e => by cases e)
          have hck := checkKey_ok hT hkt hku false k' w
          cases hf : findD k es 0 with
          | none => rw [hf] at hd; cases hd
          | some q =>
            rw [hf] at hd
            obtain ⟨q', h2, h3⟩ := findKey_ok hT hkt hk hfit hE hf w
            cases q with
            | none =>
              cases hd
              cases q' with
              | some _ => exact h3.elim
              | none =>
                refine ⟨_, ?_, Ev.put hr hb hL _ (.map (es'.push { key := k', val := v', born := clock }) (clock + 1)) ?_⟩
                · simp only [Instr.mapUpdate, Sem.run_bind, hund, Result.andThen_ok, hget, hck, h2, run_setObj _ h1 (fun _ _ _ e => by cases e)]
                · refine ⟨rfl, ?_, fun i x y hx hy => ?_⟩
                  · rw [app_eq]; have := hE.1; simp at this ⊢; exact this
                  · rw [app_eq] at hx
                    have hl : es.length = es'.size := by simpa using hE.1
                    rw [Array.getElem?_push] at hy
                    by_cases hi : i = es'.size
                    · rw [if_pos hi] at hy
                      cases hy
                      rw [List.getElem?_append_right (by omega), show i - es.length = 0 by omega] at hx
                      cases hx
                      exact ⟨hk, hv, rfl⟩
                    · rw [if_neg hi] at hy
                      have hi' : i < es'.size := by
                        rcases Nat.lt_or_ge i es'.size with h | h
                        · exact h
                        · rw [Array.getElem?_eq_none h] at hy; cases hy
                      rw [List.getElem?_append_left (by omega)] at hx
                      exact hE.2 i x y hx (by simpa using hy)
            | some q =>
              obtain ⟨i, u⟩ := q
              cases hd
              cases q' with
              | none => exact h3.elim
              | some q' =>
                obtain ⟨i', u'⟩ := q'
                obtain ⟨rfl, _, hlt⟩ := h3
                obtain ⟨n, x, e1, e2, e3⟩ := findD_key hf
                have e1 : n = i := by omega
                subst e1
                have hl : es.length = es'.size := by simpa using hE.1
                have hn' : n < es'.size := by omega
                have hER := hE.2 n x es'[n] e2 (by simp [hn'])
                have hsb := sameBits_key hk hER.1 e3
                refine ⟨_, ?_, Ev.put hr hb hL _ (.map (es'.modify n fun e => { key := k', val := v', born := e.born }) clock) ?_⟩
                · have hk1 : (Option.map (fun x : MapEntry => x.key) es'[n]?).getD k' = es'[n].key := by simp [hn']
                  simp only [Instr.mapUpdate, Sem.run_bind, hund, Result.andThen_ok, hget, hck, h2, hk1, Instr.keyThatStays, hsb, if_true, Sem.run_pure, run_setObj _ h1 (fun _ _ _ e => by cases e)]
                · refine ⟨rfl, by rw [setAt_length]; simpa using hl, fun j a c ha hc => ?_⟩
                  rw [setAt_get] at ha
                  rw [Array.getElem?_modify] at hc
                  cases hj : es[j]? with
                  | none => rw [hj] at ha; cases ha
                  | some a0 =>
                    cases hj' : es'[j]? with
                    | none => rw [hj'] at hc; split at hc <;> cases hc
                    | some c0 =>
                      have hx0 := hE.2 j a0 c0 hj (by simpa using hj')
                      rw [hj] at ha
                      rw [hj'] at hc
                      by_cases hjn : j = n
                      · subst hjn
                        simp at ha hc
                        rw [← ha, ← hc]
                        exact ⟨hk, hv, hx0.2.2⟩
                      · rw [if_neg (Ne.symm hjn)] at hc
                        simp [hjn] at ha hc
                        rw [← ha, ← hc]
                        exact hx0
        · cases hd
      · cases hd
  · cases hd

end Nt

namespace Nt
open Go

theorem lenV_ok {ρ : Ren} {x x' : Value} (hx : VR ρ x x') {n : Nat} (h : lenV x = some n) (P : Program) (w : World) : (Builtin.lenOf x').run P w = .ok n w := by
  unfold lenV at h
  split at h
  · rename_i a n' c
    cases h
    cases a with
    | none => rw [hx.sliceNil_inv]; simp [Builtin.lenOf]
    | some a =>
      rcases hx.slice_inv with ⟨L, _, e, _⟩ | ⟨h0, _, a', c', e⟩
      · rw [e]; simp [Builtin.lenOf]
      · rw [e, h0]; simp [Builtin.lenOf]
  · cases h
    rw [hx.string_inv]
    simp [Builtin.lenOf, strL_length, len_eq]
  · cases h

theorem minN_eq (a b : Nat) : minN a b = Nat.min a b := by
  unfold minN
  rcases Nat.lt_or_ge b a with h | h
  · have : Nat.ble a b = false := by
      cases hq : Nat.ble a b with
      | false => rfl
      | true => have := ble_true hq; omega
    rw [this, bcond_false]; show b = min a b; omega
  · rw [Nat.ble_eq_true_of_le h, bcond_true]; show a = min a b; omega

theorem copy_ok {T : TyT} {P : Program} (hT : TabOK T P) {ρ : Ren} {h h' : AHeap} {w : World} (hr : HR ρ h w.heap) {dt : TypeId} {d d' x x' r : Value} (hd : VR ρ d d') (hx : VR ρ x x')
    (hc : dCopy T h dt d x = some (r, h')) {tys : Array TypeId} (h0 : tys[0]? = some dt) (ty : TypeId) :
    ∃ r' w', (Builtin.copy_ tys ty #[d', x']).run P w = .ok r' w' ∧ VR ρ r r' ∧ Ev ρ h w ρ h' w' := by
  unfold dCopy at hc
  split at hc
  · rename_i e _ _ _ _ ht
    split at hc
    · rename_i te base dl dc xl he hl
      have hund := run_und hT ht w
      simp only at hund
      have hlen := lenV_ok hx hl P w
      cases hf : firstD h te.size (minN xl dl) x with
      | none => rw [hf] at hc; cases hc
      | some new =>
        rw [hf] at hc
        simp only at hc
        cases hone : (alls one new && Nat.beq (len new) (minN xl dl * te.size)) with
        | false => rw [hone] at hc; cases hc
        | true =>
          rw [hone, bcond_true] at hc
          rw [Bool.and_eq_true, len_eq] at hone
          obtain ⟨new', h1, h2⟩ := firstD_ok hr hx hf P
          rw [minN_eq] at h1
          have hnone : ∀ (c' : Nat), d' = .slice none dl c' → (Builtin.copy_ tys ty #[d', x']).run P w = .ok (goInt (Nat.min xl dl)) w := by
            intro c' e
            rw [e]
            simp only [Builtin.copy_, h0, List.getElem?_toArray, List.getElem?_cons_zero, List.getElem?_cons_succ, Sem.run_bind, hund, Result.andThen_ok, hlen, run_size hT he, h1, Sem.run_pure]
          have hsome : ∀ (a : Addr) (c' : Nat) (w' : World), d' = .slice (some a) dl c' → (storeCells a new').run P w = .ok () w' → (Builtin.copy_ tys ty #[d', x']).run P w = .ok (goInt (Nat.min xl dl)) w' := by
            intro a c' w' e h3
            rw [e]
            simp only [Builtin.copy_, h0, List.getElem?_toArray, List.getElem?_cons_zero, List.getElem?_cons_succ, Sem.run_bind, hund, Result.andThen_ok, hlen, run_size hT he, h1, h3, Sem.run_pure]
          cases hz : Nat.beq (minN xl dl * te.size) 0 with
          | true =>
            rw [hz, bcond_true] at hc; cases hc
            have hnil : new' = [] := by
              have hl0 : new = [] := List.length_eq_zero_iff.1 (by rw [beq_true hone.2, beq_true hz])
              have := h2.1
              rw [hl0] at this
              exact List.length_eq_zero_iff.1 this.symm
            rw [minN_eq]
            refine ⟨_, w, ?_, .int _ _, Ev.refl hr⟩
            cases base with
            | none => rw [hnone dc hd.sliceNil_inv]; rfl
            | some a =>
              have hs0 : ∀ a', (storeCells a' new').run P w = .ok () w := fun a' => by rw [hnil]; rfl
              rcases hd.slice_inv with ⟨L, _, e, _⟩ | ⟨e0, _, a', c', e⟩
              · rw [hsome _ _ w e (hs0 _)]; rfl
              · rw [hsome a' c' w (by rw [e, e0]) (hs0 _)]; rfl
          | false =>
            rw [hz, bcond_false] at hc
            split at hc
            · rename_i b o
              rcases hd.slice_inv with ⟨L, hL, e, _⟩ | ⟨e0, _, _⟩
              · obtain ⟨rfl, w', h3, h4⟩ := putIn_ok (P := P) hr h2 hone.1 hc hL
                rw [minN_eq]
                exact ⟨_, w', hsome _ _ w' e h3, .int _ _, h4⟩
              · exfalso
                rw [e0, minN_eq, show Nat.min xl 0 = 0 from Nat.min_zero _, Nat.zero_mul] at hz
                cases hz
            · cases hc
    · cases hc
  · cases hc

end Nt
