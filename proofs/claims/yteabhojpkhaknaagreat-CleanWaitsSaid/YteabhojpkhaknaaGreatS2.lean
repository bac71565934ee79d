/- Operations that ask no memory. -/
import Derived.Test.YteabhojpkhaknaaGreatS1
import Derived.Laws.Sem
import Derived.Laws.Cells
import Derived.Lib.Strings
import Derived.Laws.StructEq
namespace Nt
open Go

/-! ### Values without places -/
theorem VR.of_gnd {ρ : Ren} {v : Value} (h : gnd v = true) : VR ρ v v := by
  unfold gnd at h
  split at h
  all_goals first
    | exact .bool _ | exact .int _ _ | exact .float _ _ | exact .string _ | exact .ptrNil | exact .sliceNil _ _ | exact .mapNil | exact .chanNil | exact .nilFunc | exact .nilIface
    | exact .func _ rfl (fun i x y hx => by simp at hx) rfl (fun i x y hx => by simp at hx)
    | cases h
theorem VR.of_gndC {ρ : Ren} {v : Value} (h : gndC v = true) : VR ρ v v := by
  unfold gndC at h
  split at h
  · rename_i cs
    refine .agg rfl fun i x y hx hy => ?_
    rw [hx] at hy; cases hy
    exact VR.of_gnd (List.all_eq_true.1 h x (by have := Array.mem_of_getElem? hx; simpa using this))
  · rename_i cs
    refine .tuple rfl fun i x y hx hy => ?_
    rw [hx] at hy; cases hy
    exact VR.of_gnd (List.all_eq_true.1 h x (by have := Array.mem_of_getElem? hx; simpa using this))
  · exact VR.of_gnd h

/-! ### The table of types -/
structure TabOK (T : TyT) (P : Program) : Prop where
  und : ∀ t e, T.get t = some e → P.underlying t = some e.u
  info : ∀ t e, T.get t = some e → ∃ i, P.info? t = some i ∧ i.size = e.size ∧ i.bytes = e.bytes ∧ i.zero = some e.zero
  eq : ∀ t e, T.get t = some e → e.eqOk = true → P.eqGuardType P.depth t = false ∧ P.stoodInHeld t = false
  names : ∀ t e fields, T.get t = some e → e.eqOk = true → e.u = .struct fields → ∀ f ∈ fields.toList, f.name ≠ "_"
  zero : ∀ t e, T.get t = some e → gndC e.zero = true ∧ (cellsL e.zero).length = e.size

section types
variable {T : TyT} {P : Program} (hT : TabOK T P) {t : TypeId} {e : TyE} (h : T.get t = some e) (w : World)
include hT h
theorem run_und : (underlying t).run P w = .ok e.u w := by simp [underlying, hT.und t e h]
theorem run_size : (Go.sizeOf t).run P w = .ok e.size w := by
  obtain ⟨i, h1, h2, _⟩ := hT.info t e h
  simp [Go.sizeOf, typeInfo, h1, h2]
theorem run_isAgg : (isAgg t).run P w = .ok (isAggU e.u) w := by
  simp only [isAgg, Sem.run_bind, run_und hT h, Result.andThen_ok]
  unfold isAggU
  split <;> simp_all
theorem run_zero : (zeroValue t).run P w = .ok e.zero w := by
  obtain ⟨i, h1, _, _, h2⟩ := hT.info t e h
  simp [zeroValue, typeInfo, h1, h2]
theorem run_typeInfo : ∃ i, (typeInfo t).run P w = .ok i w ∧ i.size = e.size ∧ i.bytes = e.bytes := by
  obtain ⟨i, h1, h2, h3, _⟩ := hT.info t e h
  exact ⟨i, by simp [typeInfo, h1], h2, h3⟩
end types

/-! ### Taking relations apart -/
section inv
variable {ρ : Ren} {v : Value}
theorem VR.bool_inv {b : Bool} (h : VR ρ (.bool b) v) : v = .bool b := by cases h; rfl
theorem VR.int_inv {k : IntKind} {n : Int} (h : VR ρ (.int k n) v) : v = .int k n := by cases h; rfl
theorem VR.string_inv {s : ByteArray} (h : VR ρ (.string s) v) : v = .string s := by cases h; rfl
theorem VR.ptr_inv {a : Addr} (h : VR ρ (.pointer (some a)) v) : ∃ L, ρ a.block = some L ∧ v = .pointer (some ⟨L.r, L.base + a.off, none⟩) ∧ a.spot = none := by
  cases h with
  | ptr o h => exact ⟨_, h, rfl, rfl⟩
theorem VR.ptrNil_inv (h : VR ρ (.pointer none) v) : v = .pointer none := by cases h; rfl
theorem VR.agg_inv {cs : Array Value} (h : VR ρ (.agg cs) v) : ∃ ds, v = .agg ds ∧ VRA ρ cs ds := by cases h with | agg h1 h2 => exact ⟨_, rfl, h1, h2⟩
theorem VR.tuple_inv {cs : Array Value} (h : VR ρ (.tuple cs) v) : ∃ ds, v = .tuple ds ∧ VRA ρ cs ds := by cases h with | tuple h1 h2 => exact ⟨_, rfl, h1, h2⟩
theorem VR.mk_agg {as bs : Array Value} (h : VRA ρ as bs) : VR ρ (.agg as) (.agg bs) := .agg h.1 h.2
theorem VR.mk_tuple {as bs : Array Value} (h : VRA ρ as bs) : VR ρ (.tuple as) (.tuple bs) := .tuple h.1 h.2
end inv

theorem VRL.take {ρ : Ren} {as bs : List Value} (h : VRL ρ as bs) (n : Nat) : VRL ρ (as.take n) (bs.take n) :=
  ⟨by simp [h.1], fun i x y hx hy => by
    rw [List.getElem?_take] at hx hy
    split at hx
    · rename_i hi; rw [if_pos hi] at hy; exact h.2 i x y hx hy
    · cases hx⟩
theorem VRL.drop {ρ : Ren} {as bs : List Value} (h : VRL ρ as bs) (n : Nat) : VRL ρ (as.drop n) (bs.drop n) :=
  ⟨by simp [h.1], fun i x y hx hy => by
    rw [List.getElem?_drop] at hx hy
    exact h.2 _ x y hx hy⟩

theorem one_eq (v : Value) : one v = v.oneCell' := by cases v <;> rfl
theorem VR.one {ρ : Ren} {v v' : Value} (h : VR ρ v v') : one v = Nt.one v' := by cases h <;> rfl
theorem VR.cellsL {ρ : Ren} {v v' : Value} (h : VR ρ v v') : VRL ρ (cellsL v) (Nt.cellsL v') := by
  have hh := h
  cases h with
  | agg h1 h2 => exact VRA.iff_list.1 ⟨h1, h2⟩
  | _ => exact VRL.cons hh (VRL.nil ρ)
theorem cellsL_cells (v : Value) : v.cells.toList = cellsL v := by cases v <;> rfl

/-! ### Whole numbers -/
theorem addI_eq (a b : Int) : addI a b = a + b := by
  unfold addI
  split
  · rfl
  · rename_i x y
    cases h : Nat.ble (Nat.succ y) x with
    | true =>
      have := ble_true h
      simp only [bcond_true, Nat.sub_eq]
      simp only [Int.ofNat_eq_natCast, Int.negSucc_eq]; omega
    | false =>
      have := ble_false h
      simp only [bcond_false, Nat.sub_eq]
      simp only [Int.ofNat_eq_natCast, Int.negSucc_eq]; omega
  · rfl
theorem subI_eq (a b : Int) : subI a b = a - b := by
  unfold subI
  split
  · rename_i x y
    cases h : Nat.ble y x with
    | true => have := ble_true h; simp only [bcond_true, Nat.sub_eq]; simp only [Int.ofNat_eq_natCast]; omega
    | false => have := ble_false h; simp only [bcond_false, Nat.sub_eq, Nat.pred_eq_sub_one]; simp only [Int.ofNat_eq_natCast, Int.negSucc_eq]; omega
  · rfl
theorem mulI_eq (a b : Int) : mulI a b = a * b := by unfold mulI; split <;> rfl
theorem quoI_eq (a b : Int) : quoI a b = a.tdiv b := by unfold quoI; split <;> rfl
theorem remI_eq (a b : Int) : remI a b = a.tmod b := by unfold remI; split <;> rfl
theorem eqI_eq (a b : Int) : eqI a b = (a == b) := by
  unfold eqI
  split
  · rename_i x y; rw [Bool.eq_iff_iff, Nat.beq_eq, beq_iff_eq]; exact ⟨fun h => by rw [h], fun h => by injection h⟩
  · rename_i x y; rw [Bool.eq_iff_iff, Nat.beq_eq, beq_iff_eq]; exact ⟨fun h => by rw [h], fun h => by injection h⟩
  · rename_i h1 h2
    cases a <;> cases b <;> first | exact absurd rfl (h1 _ _ rfl) | exact absurd rfl (h2 _ _ rfl) | (symm; rw [beq_eq_false_iff_ne]; simp)
theorem ltI_eq (a b : Int) : ltI a b = decide (a < b) := by
  unfold ltI
  rw [Bool.eq_iff_iff]
  split <;> simp only [Nat.ble_eq, decide_eq_true_eq, Int.ofNat_eq_natCast, Int.negSucc_eq, Bool.false_eq_true, false_iff, true_iff] <;> omega
theorem two_pow_bits (k : IntKind) : ((2 : Int) ^ k.bits) = (modN k : Int) := by cases k <;> decide
theorem p8 : (2 : Int) ^ 8 = 256 := by decide
theorem p7 : (2 : Int) ^ (8 - 1) = 128 := by decide
theorem p16 : (2 : Int) ^ 16 = 65536 := by decide
theorem p15 : (2 : Int) ^ (16 - 1) = 32768 := by decide
theorem p32 : (2 : Int) ^ 32 = 4294967296 := by decide
theorem p31 : (2 : Int) ^ (32 - 1) = 2147483648 := by decide
theorem p64 : (2 : Int) ^ 64 = 18446744073709551616 := by decide
theorem p63 : (2 : Int) ^ (64 - 1) = 9223372036854775808 := by decide
theorem wrap_in (k : IntKind) (n : Int) (h1 : n ≤ (topN k : Int)) (h2 : -(lowN k : Int) ≤ n) : k.wrap n = n := by
  unfold IntKind.wrap
  cases k <;> simp only [topN, lowN] at h1 h2 <;>
    simp only [IntKind.bits, IntKind.signed, p8, p7, p16, p15, p32, p31, p64, p63, Bool.true_and, Bool.false_and, Bool.false_eq_true, if_false, decide_eq_true_eq] <;>
    (try split) <;> omega
theorem wrapF_eq (k : IntKind) (n : Int) : wrapF k n = k.wrap n := by
  unfold wrapF
  split
  · rename_i a
    cases h : Nat.ble a (topN k) with
    | false => rfl
    | true =>
      have := ble_true h
      rw [bcond_true]
      exact (wrap_in k _ (by simp only [Int.ofNat_eq_natCast]; omega) (by simp only [Int.ofNat_eq_natCast]; omega)).symm
  · rename_i a
    cases h : Nat.ble (Nat.succ a) (lowN k) with
    | false => rfl
    | true =>
      have := ble_true h
      rw [bcond_true]
      exact (wrap_in k _ (by simp only [Int.negSucc_eq]; omega) (by simp only [Int.negSucc_eq]; omega)).symm
theorem wrapU_eq (k : IntKind) (n : Int) : wrapU k n = k.wrap n := by
  unfold wrapU
  split
  · simp only [IntKind.wrap, IntKind.bits, IntKind.signed, Bool.false_and, Bool.false_eq_true, if_false, p8]; rfl
  · simp only [IntKind.wrap, IntKind.bits, IntKind.signed, Bool.false_and, Bool.false_eq_true, if_false, p16]; rfl
  · simp only [IntKind.wrap, IntKind.bits, IntKind.signed, Bool.false_and, Bool.false_eq_true, if_false, p32]; rfl
  · simp only [IntKind.wrap, IntKind.bits, IntKind.signed, Bool.false_and, Bool.false_eq_true, if_false, p64]; rfl
  · exact wrapF_eq _ _
theorem kindEq_eq (a b : IntKind) : kindEq a b = decide (a = b) := by cases a <;> cases b <;> rfl

theorem eqBytes_eq : ∀ a b : List UInt8, eqBytes a b = (a == b) := by
  intro a
  induction a with
  | nil => intro b; cases b <;> rfl
  | cons x a ih =>
    intro b
    cases b with
    | nil => rfl
    | cons y b =>
      show bcond (Nat.beq (u8N x) (u8N y)) (eqBytes a b) false = _
      rw [ih b, List.cons_beq_cons]
      have hxy : Nat.beq (u8N x) (u8N y) = (x == y) := by
        rw [Bool.eq_iff_iff, beq_iff_eq, Nat.beq_eq]
        exact ⟨fun h => UInt8.toNat_inj.1 h, fun h => by rw [h]⟩
      rw [hxy]
      cases x == y <;> rfl
theorem ltBytes_eq : ∀ a b : List UInt8, ltBytes a b = Op.bytesLess a b := by
  intro a
  induction a with
  | nil => intro b; cases b <;> rfl
  | cons x a ih =>
    intro b
    cases b with
    | nil => rfl
    | cons y b =>
      show bcond (Nat.ble (Nat.succ (u8N x)) (u8N y)) true (bcond (Nat.beq (u8N x) (u8N y)) (ltBytes a b) false) = _
      rw [ih b]
      have hxy : Nat.beq (u8N x) (u8N y) = (x == y) := by
        rw [Bool.eq_iff_iff, beq_iff_eq, Nat.beq_eq]
        exact ⟨fun h => UInt8.toNat_inj.1 h, fun h => by rw [h]⟩
      have hlt : Nat.ble (Nat.succ (u8N x)) (u8N y) = decide (x < y) := by
        rw [Bool.eq_iff_iff, decide_eq_true_eq, Nat.ble_eq]
        exact UInt8.lt_iff_toNat_lt.symm
      rw [hxy, hlt]
      simp only [Op.bytesLess]
      cases decide (x < y) <;> cases x == y <;> simp
theorem toList_strL (s : ByteArray) : s.toList = strL s := by
  unfold strL
  exact Lib.toList_data s

end Nt

namespace Nt
open Go

theorem part_ok {T : TyT} {P : Program} (hT : TabOK T P) {ρ : Ren} {t : TypeId} {cs ds : Array Value} {off : Nat} {x : Value} (hc : VRA ρ cs ds)
    (h : partD T t cs.toList off = some x) (w : World) : ∃ y, (part t ds off).run P w = .ok y w ∧ VR ρ x y := by
  unfold partD at h
  cases ht : T.get t with
  | none => rw [ht] at h; cases h
  | some ti =>
    rw [ht] at h
    simp only at h
    cases hu : isAggU ti.u with
    | true =>
      rw [hu, bcond_true] at h
      cases hs : Nt.sub cs.toList off ti.size with
      | none => rw [hs] at h; cases h
      | some l =>
        rw [hs] at h; cases h
        obtain ⟨h1, h2, _⟩ := sub_eq hs
        refine ⟨.agg (ds.extract off (off + ti.size)), ?_, .mk_agg ?_⟩
        · simp only [part, Sem.run_bind, run_isAgg hT ht, Result.andThen_ok, hu, if_true, run_size hT ht, Sem.run_pure]
        · rw [VRA.iff_list]
          have := (VRA.iff_list.1 hc).drop off |>.take ti.size
          rw [← h1] at this
          have e : (ds.extract off (off + ti.size)).toList = (ds.toList.drop off).take ti.size := by
            rw [Array.toList_extract, List.extract_eq_take_drop]; congr 1; omega
          rw [e]; exact this
    | false =>
      rw [hu, bcond_false, nth_eq] at h
      have hx : cs[off]? = some x := by simpa using h
      obtain ⟨y, hy, hv⟩ := hc.get hx
      refine ⟨y, ?_, hv⟩
      simp only [part, Sem.run_bind, run_isAgg hT ht, Result.andThen_ok, hu, Bool.false_eq_true, if_false, hy, Sem.run_pure]

theorem run_sameAddr_block (P : Program) (w : World) (a b : Addr) (h : a.block = b.block) : (sameAddr a b).run P w = .ok (a == b) w := by
  simp [sameAddr, h]

theorem eqFields_ok {T : TyT} {P : Program} (hT : TabOK T P) {ρ : Ren} {xs xs' ys ys' : Array Value} (hx : VRA ρ xs xs') (hy : VRA ρ ys ys') (D : Nat) (w : World)
    (A : ∀ d', d' ≤ D → ∀ (t : TypeId) (x y x' y' : Value) (b : Bool), VR ρ x x' → VR ρ y y' → dEq T d' t x y = some b → (Op.equalIn D t x' y').run P w = .ok b w) :
    ∀ (d : Nat) (fs : List Field) (b : Bool), d ≤ D → (∀ f ∈ fs, f.name ≠ "_") → dEqF T d fs xs.toList ys.toList = some b → (Op.eqFields D xs' ys' fs).run P w = .ok b w := by
  intro d fs
  induction fs generalizing d with
  | nil =>
    intro b hd hn h
    cases d with
    | zero => simp [dEqF] at h
    | succ d => simp only [dEqF] at h; cases h; simp [Op.eqFields]
  | cons f fs ih =>
    intro b hd hn h
    cases d with
    | zero => simp [dEqF] at h
    | succ d =>
      simp only [dEqF] at h
      cases h1 : partD T f.type xs.toList f.offset with
      | none => rw [h1] at h; cases h
      | some x =>
        cases h2 : partD T f.type ys.toList f.offset with
        | none => rw [h1, h2] at h; cases h
        | some y =>
          rw [h1, h2] at h
          simp only at h
          obtain ⟨x', hx1, hx2⟩ := part_ok hT hx h1 w
          obtain ⟨y', hy1, hy2⟩ := part_ok hT hy h2 w
          have hname : f.name ≠ "_" := hn f (List.mem_cons_self ..)
          cases h3 : dEq T d f.type x y with
          | none => rw [h3] at h; cases h
          | some r =>
            rw [h3] at h
            have := A d (by omega) f.type x y x' y' r hx2 hy2 h3
            simp only [Op.eqFields, hname, ne_eq, not_false_eq_true, if_true, Sem.run_bind, hx1, Result.andThen_ok, hy1, this, Sem.run_ite]
            cases r with
            | true => simp only [Bool.not_true, Bool.false_eq_true, if_false]; exact ih d b (by omega) (fun g hg => hn g (List.mem_cons_of_mem _ hg)) h
            | false => cases h; simp

/-- The comparison of two arrays, place by place. -/
def eqArr (d : Nat) (elem : TypeId) (n : Nat) (xs ys : Array Value) : List Nat → Sem Bool
  | [] => pure true
  | i :: is => do
    let a ← part elem xs (i * n)
    let b ← part elem ys (i * n)
    let r ← Op.equalIn d elem a b
    if (!r) = true then pure false else eqArr d elem n xs ys is

theorem run_equalIn_array {T : TyT} {P : Program} (hT : TabOK T P) (d : Nat) (t elem : TypeId) (ln : Nat) (te e : TyE) (xs ys : Array Value) (ht : T.get t = some e) (hu : e.u = .array ln elem) (hte : T.get elem = some te) (w : World) :
    (Op.equalIn (d + 1) t (.agg xs) (.agg ys)).run P w = (eqArr d elem te.size xs ys (List.range' 0 ln 1)).run P w := by
  have hund := run_und hT ht w
  rw [hu] at hund
  simp only [Op.equalIn, Sem.run_bind, hund, Result.andThen_ok, run_size hT hte]
  rw [Std.Legacy.Range.forIn_eq_forIn_range']
  have hsz : ([0:ln] : Std.Legacy.Range).size = ln := by simp [Std.Legacy.Range.size]
  rw [hsz]
  show _ = (eqArr d elem te.size xs ys (List.range' 0 ln 1)).run P w
  generalize List.range' 0 ln 1 = is
  induction is generalizing w with
  | nil => simp [eqArr]
  | cons i is ih =>
    simp only [List.forIn_cons, eqArr, Sem.run_bind, Sem.run_ite]
    generalize (part elem xs (i * te.size)).run P w = r1
    cases r1 with
    | ok a w1 =>
      simp only [Result.andThen_ok]
      generalize (part elem ys (i * te.size)).run P w1 = r2
      cases r2 with
      | ok b w2 =>
        simp only [Result.andThen_ok]
        generalize (Op.equalIn d elem a b).run P w2 = r3
        cases r3 with
        | ok r w3 =>
          cases r
          · simp only [Result.andThen_ok, Bool.not_false, if_true, Sem.run_pure]
          · simp only [Result.andThen_ok, Bool.not_true, Bool.false_eq_true, if_false, Sem.run_pure]
            exact ih w3 (run_und hT ht w3 |>.trans (by rw [hu]))
        | halt x w3 => simp [Result.andThen]
      | halt x w2 => simp [Result.andThen]
    | halt x w1 => simp [Result.andThen]

theorem eqArr_ok {T : TyT} {P : Program} (hT : TabOK T P) {ρ : Ren} {xs xs' ys ys' : Array Value} (hx : VRA ρ xs xs') (hy : VRA ρ ys ys') (D : Nat) (w : World) (elem : TypeId) (n : Nat)
    (A : ∀ d', d' ≤ D → ∀ (t : TypeId) (x y x' y' : Value) (b : Bool), VR ρ x x' → VR ρ y y' → dEq T d' t x y = some b → (Op.equalIn D t x' y').run P w = .ok b w) :
    ∀ (ln d i : Nat) (b : Bool), d ≤ D → dEqA T d elem n ln i xs.toList ys.toList = some b → (eqArr D elem n xs' ys' (List.range' i ln 1)).run P w = .ok b w := by
  intro ln
  induction ln with
  | zero =>
    intro d i b hd h
    cases d with
    | zero => simp [dEqA] at h
    | succ d => simp only [dEqA] at h; cases h; simp [eqArr]
  | succ ln ih =>
    intro d i b hd h
    cases d with
    | zero => simp [dEqA] at h
    | succ d =>
      simp only [dEqA] at h
      cases h1 : partD T elem xs.toList (i * n) with
      | none => rw [h1] at h; cases h
      | some x =>
        cases h2 : partD T elem ys.toList (i * n) with
        | none => rw [h1, h2] at h; cases h
        | some y =>
          rw [h1, h2] at h
          simp only at h
          obtain ⟨x', hx1, hx2⟩ := part_ok hT hx h1 w
          obtain ⟨y', hy1, hy2⟩ := part_ok hT hy h2 w
          cases h3 : dEq T d elem x y with
          | none => rw [h3] at h; cases h
          | some r =>
            rw [h3] at h
            have := A d (by omega) elem x y x' y' r hx2 hy2 h3
            simp only [List.range'_succ, eqArr, Sem.run_bind, hx1, Result.andThen_ok, hy1, this, Sem.run_ite]
            cases r with
            | true => simp only [Bool.not_true, Bool.false_eq_true, if_false]; exact ih d (i + 1) b (by omega) h
            | false => cases h; simp

set_option maxHeartbeats 2000000 in
theorem dEq_ok {T : TyT} {P : Program} (hT : TabOK T P) {ρ : Ren} (w : World) : ∀ (D d : Nat), d ≤ D → ∀ (t : TypeId) (x y x' y' : Value) (b : Bool),
    VR ρ x x' → VR ρ y y' → dEq T d t x y = some b → (Op.equalIn D t x' y').run P w = .ok b w := by
  intro D
  induction D with
  | zero =>
    intro d hd t x y x' y' b hx hy h
    obtain rfl : d = 0 := by omega
    simp [dEq] at h
  | succ D ih =>
    intro d hd t x y x' y' b hx hy h
    cases d with
    | zero => simp [dEq] at h
    | succ d =>
      simp only [dEq] at h
      cases ht : T.get t with
      | none => rw [ht] at h; cases h
      | some e =>
        rw [ht] at h
        have hund := run_und hT ht w
        simp only at h
        split at h
        · rename_i hu; cases h; rw [hx.bool_inv, hy.bool_inv]; simp [Op.equalIn, hund, hu]
        · rename_i hu
          rw [hx.int_inv, hy.int_inv]
          rename_i k a k' b'
          cases hk : kindEq k k' with
          | false => rw [hk] at h; cases h
          | true =>
            rw [hk] at h; cases h
            rw [kindEq_eq] at hk
            simp [Op.equalIn, hund, hu, of_decide_eq_true hk, eqI_eq]
        · rename_i hu
          cases h; rw [hx.string_inv, hy.string_inv]
          simp [Op.equalIn, hund, hu, beq_toListBytes, eqBytes_eq, toList_strL]
        · rename_i hu
          cases h
          rw [hx.ptrNil_inv]
          rename_i b'
          cases b' with
          | none => rw [hy.ptrNil_inv]; simp [Op.equalIn, hund, hu]
          | some a => obtain ⟨L, _, e, _⟩ := hy.ptr_inv; subst e; simp [Op.equalIn, hund, hu]
        · rename_i hu
          cases h
          rw [hy.ptrNil_inv]
          obtain ⟨L, _, e, _⟩ := hx.ptr_inv; subst e; simp [Op.equalIn, hund, hu]
        · rename_i el a b' hu
          cases hte : T.get el with
          | none => rw [hte] at h; cases h
          | some te =>
            rw [hte] at h
            simp only at h
            cases hz : Nat.beq te.size 0 with
            | true => rw [hz] at h; cases h
            | false =>
              rw [hz, bcond_false] at h
              cases hb : Nat.beq a.block b'.block with
              | false => rw [hb] at h; cases h
              | true =>
                rw [hb, bcond_true] at h; cases h
                have hbl := beq_true hb
                obtain ⟨L, hL, e1, s1⟩ := hx.ptr_inv
                obtain ⟨M, hM, e2, s2⟩ := hy.ptr_inv
                rw [hbl, hM] at hL; cases hL
                subst e1; subst e2
                have hz' : te.size ≠ 0 := fun e => by rw [e] at hz; cases hz
                simp only [Op.equalIn, Sem.run_bind, hund, hu, Result.andThen_ok, run_size hT hte, ne_eq, hz', not_false_eq_true, if_true, run_sameAddr_block]
                congr 1
                rw [Bool.eq_iff_iff, beq_iff_eq, Nat.beq_eq]
                simp
        · rename_i hu
          cases h
          cases hx
          cases hy
          simp [Op.equalIn, hund, hu]
        · rename_i hu
          cases h
          cases hx
          cases hy
          simp [Op.equalIn, hund, hu]
        · rename_i fields xs ys hu
          cases heq : e.eqOk with
          | false => rw [heq] at h; cases h
          | true =>
            rw [heq, bcond_true] at h
            obtain ⟨xs', e1, hx'⟩ := hx.agg_inv
            obtain ⟨ys', e2, hy'⟩ := hy.agg_inv
            subst e1; subst e2
            have hP : P.underlying t = some (.struct fields) := by rw [hT.und t e ht, hu]
            have hfo : P.fieldsOf t = fields := by simp [Program.fieldsOf, hP]
            rw [run_equalIn_struct w D t xs' ys' (by rw [hfo]; exact hP) (hT.eq t e ht heq).2, hfo]
            exact eqFields_ok hT hx' hy' D w (fun d' hd' => ih d' hd') d fields.toList b (by omega) (fun f hf => hT.names t e fields ht heq hu f hf) h
        · rename_i ln elem xs ys hu
          cases hte : T.get elem with
          | none => rw [hte] at h; cases h
          | some te =>
            rw [hte] at h
            simp only at h
            have heq : e.eqOk = true := by
              cases hq : e.eqOk with
              | true => rfl
              | false => rw [hq] at h; cases h
            rw [heq, bcond_true] at h
            obtain ⟨xs', e1, hx'⟩ := hx.agg_inv
            obtain ⟨ys', e2, hy'⟩ := hy.agg_inv
            subst e1; subst e2
            rw [run_equalIn_array hT D t elem ln te e xs' ys' ht hu hte w]
            exact eqArr_ok hT hx' hy' D w elem te.size (fun d' hd' => ih d' hd') ln d 0 b (by omega) h
        · rename_i b' _ _ hu
          cases h
          cases hx
          cases hy <;> simp [Op.equalIn, hund, hu]
        · rename_i hu
          cases h
          cases hy
          cases hx <;> simp [Op.equalIn, hund, hu]
        · rename_i b' hu
          cases h
          cases hx
          cases hy <;> simp [Op.equalIn, hund, hu]
        · rename_i hu
          cases h
          cases hy
          cases hx <;> simp [Op.equalIn, hund, hu]
        · rename_i hu
          cases h; cases hx; cases hy; simp [Op.equalIn, hund, hu]
        · rename_i hu
          cases h; cases hx; cases hy <;> simp [Op.equalIn, hund, hu]
        · rename_i hu
          cases h; cases hy; cases hx <;> simp [Op.equalIn, hund, hu]
        · cases h

/-! ### Two operands -/
theorem dShift_ok {op : BinOp} {k k' : IntKind} {a b : Int} {v : Value} (h : dShift op k a b = some v) (hs : isShift op = true) (P : Program) (t : TypeId) (w : World) :
    (binOp op t (.int k a) (.int k' b)).run P w = .ok v w ∧ gnd v = true := by
  have hb : bitsN k = k.bits := by cases k <;> rfl
  have hm : ∀ a b, minN a b = min a b := fun a b => by
    unfold minN
    cases e : Nat.ble a b with
    | true => rw [bcond_true, Nat.min_eq_left (ble_true e)]
    | false => rw [bcond_false, Nat.min_eq_right (Nat.le_of_lt (ble_false e))]
  unfold dShift at h
  split at h
  · rename_i x n
    cases h
    refine ⟨?_, rfl⟩
    simp only [binOp, Op.shift]
    rw [if_neg (by simp)]
    simp only [Sem.run_pure, wrapU_eq, hb, hm, Int.ofNat_eq_natCast, Int.toNat_natCast]
    congr 3
    rw [show Nat.shiftLeft x (min n k.bits) = x * 2 ^ (min n k.bits) from Nat.shiftLeft_eq _ _]
    push_cast
    rfl
  · rename_i x n
    cases h
    refine ⟨?_, rfl⟩
    simp only [binOp, Op.shift]
    rw [if_neg (by simp)]
    simp only [Sem.run_pure, hb, hm, Int.ofNat_eq_natCast, Int.toNat_natCast]
    congr 3
    rw [show Nat.shiftRight x (min n k.bits) = x / 2 ^ (min n k.bits) from Nat.shiftRight_eq_div_pow _ _]
    rw [Int.fdiv_eq_ediv_of_nonneg _ (by exact_mod_cast Nat.zero_le _)]
    push_cast
    rfl
  · cases h

theorem bits_ok (f : Nat → Nat → Nat) (g : (n : Nat) → BitVec n → BitVec n → BitVec n) (hg : ∀ n a b, a < 2 ^ n → b < 2 ^ n → (g n (BitVec.ofNat n a) (BitVec.ofNat n b)).toNat = f a b)
    (hf : ∀ n a b, a < 2 ^ n → b < 2 ^ n → f a b < 2 ^ n) {k : IntKind} {x y : Int} {v : Value}
    (h : bitsI f (k.wrap (g k.bits (BitVec.ofInt k.bits x) (BitVec.ofInt k.bits y)).toNat) k x y = some v) :
    v = .int k (k.wrap (g k.bits (BitVec.ofInt k.bits x) (BitVec.ofInt k.bits y)).toNat) := by
  unfold bitsI at h
  split at h
  · rename_i a b
    cases ha : Nat.ble a (topN k) with
    | false => rw [ha] at h; cases h; rfl
    | true =>
      cases hb : Nat.ble b (topN k) with
      | false => rw [ha, hb] at h; cases h; rfl
      | true =>
        rw [ha, hb] at h; cases h
        have h1 := ble_true ha
        have h2 := ble_true hb
        have hbits : ∃ m, topN k = 2 ^ m - 1 ∧ m ≤ k.bits := by
          cases k
          · exact ⟨7, by decide, by decide⟩
          · exact ⟨15, by decide, by decide⟩
          · exact ⟨31, by decide, by decide⟩
          · exact ⟨63, by decide, by decide⟩
          · exact ⟨8, by decide, by decide⟩
          · exact ⟨16, by decide, by decide⟩
          · exact ⟨32, by decide, by decide⟩
          · exact ⟨64, by decide, by decide⟩
        obtain ⟨m, hm, hmk⟩ := hbits
        have hp : 0 < 2 ^ m := Nat.two_pow_pos m
        have a1 : a < 2 ^ m := by omega
        have b1 : b < 2 ^ m := by omega
        have hle : 2 ^ m ≤ 2 ^ k.bits := Nat.pow_le_pow_right (by decide) hmk
        have hfab := hf m a b a1 b1
        have e : (g k.bits (BitVec.ofInt k.bits (Int.ofNat a)) (BitVec.ofInt k.bits (Int.ofNat b))).toNat = f a b := by
          have := hg k.bits a b (by omega) (by omega)
          simpa using this
        rw [e, wrap_in k (f a b) (by omega) (by omega)]
        rfl
  · cases h; rfl

theorem dInt_ok {op : BinOp} {k : IntKind} {a b : Int} {v : Value} (h : dInt op k a b = some v) (P : Program) (t : TypeId) (w : World) :
    (binOp op t (.int k a) (.int k b)).run P w = .ok v w ∧ gnd v = true := by
  cases op <;> simp only [dInt] at h
  case add => cases h; exact ⟨by simp [binOp, Op.intArith, wrapU_eq, addI_eq], rfl⟩
  case sub => cases h; exact ⟨by simp [binOp, Op.intArith, wrapU_eq, subI_eq], rfl⟩
  case mul => cases h; exact ⟨by simp [binOp, Op.intArith, wrapU_eq, mulI_eq], rfl⟩
  case quo =>
    rw [eqI_eq] at h
    cases hb : (b == 0) with
    | true => rw [hb] at h; cases h
    | false =>
      rw [hb] at h; cases h
      have : b ≠ 0 := by intro e; subst e; simp at hb
      exact ⟨by simp [binOp, Op.intDiv, wrapU_eq, quoI_eq, this], rfl⟩
  case rem =>
    rw [eqI_eq] at h
    cases hb : (b == 0) with
    | true => rw [hb] at h; cases h
    | false =>
      rw [hb] at h; cases h
      have : b ≠ 0 := by intro e; subst e; simp at hb
      exact ⟨by simp [binOp, Op.intDiv, remI_eq, this], rfl⟩
  case and =>
    have := bits_ok Nat.land (fun n x y => x &&& y) (fun n a b ha hb => by
      rw [BitVec.toNat_and, BitVec.toNat_ofNat, BitVec.toNat_ofNat, Nat.mod_eq_of_lt ha, Nat.mod_eq_of_lt hb]; rfl) (fun n a b ha _ => Nat.and_lt_two_pow _ ‹_›) h
    subst this
    exact ⟨by simp [binOp, Op.intBits], rfl⟩
  case or =>
    have := bits_ok Nat.lor (fun n x y => x ||| y) (fun n a b ha hb => by
      rw [BitVec.toNat_or, BitVec.toNat_ofNat, BitVec.toNat_ofNat, Nat.mod_eq_of_lt ha, Nat.mod_eq_of_lt hb]; rfl) (fun n a b ha hb => Nat.or_lt_two_pow ha hb) h
    subst this
    exact ⟨by simp [binOp, Op.intBits], rfl⟩
  case xor =>
    have := bits_ok Nat.xor (fun n x y => x ^^^ y) (fun n a b ha hb => by
      rw [BitVec.toNat_xor, BitVec.toNat_ofNat, BitVec.toNat_ofNat, Nat.mod_eq_of_lt ha, Nat.mod_eq_of_lt hb]; rfl) (fun n a b ha hb => Nat.xor_lt_two_pow ha hb) h
    subst this
    exact ⟨by simp [binOp, Op.intBits], rfl⟩
  case eql => cases h; exact ⟨by simp [binOp, Op.intCmp, eqI_eq], rfl⟩
  case neq => cases h; exact ⟨by simp only [binOp, ne_eq, not_true_eq_false, if_false, Op.intCmp, eqI_eq, Sem.run_pure]; rfl, rfl⟩
  case lss => cases h; exact ⟨by simp [binOp, Op.intCmp, ltI_eq], rfl⟩
  case leq => cases h; exact ⟨by simp [binOp, Op.intCmp, ltI_eq, ← Int.not_lt], rfl⟩
  case gtr => cases h; exact ⟨by simp [binOp, Op.intCmp, ltI_eq], rfl⟩
  case geq => cases h; exact ⟨by simp [binOp, Op.intCmp, ltI_eq, ← Int.not_lt], rfl⟩
  all_goals cases h

theorem mkS_app (x y : ByteArray) : mkS (strL x ++ strL y) = x ++ y := by
  obtain ⟨⟨a⟩⟩ := x
  obtain ⟨⟨b⟩⟩ := y
  apply ByteArray.ext
  simp [mkS, strL]
theorem strL_length (x : ByteArray) : (strL x).length = x.size := by
  unfold strL; rw [Array.length_toList]; rfl
theorem dStr_ok {op : BinOp} {a b : ByteArray} {v : Value} (h : dStr op a b = some v) (P : Program) (t : TypeId) (w : World) :
    (binOp op t (.string a) (.string b)).run P w = .ok v w ∧ gnd v = true := by
  cases op <;> simp only [dStr] at h
  case add =>
    cases hb : Nat.ble (len (strL a) + len (strL b)) maxInt with
    | false => rw [hb] at h; cases h
    | true =>
      rw [hb] at h; cases h
      have := ble_true hb
      rw [len_eq, len_eq, strL_length, strL_length] at this
      refine ⟨?_, rfl⟩
      have hle : ¬ ((a.size + b.size : Nat) : Int) > IntKind.i64.max := by
        have : IntKind.i64.max = 9223372036854775807 := by decide
        rw [this]; unfold maxInt at *; omega
      simp only [binOp, Op.stringOp, hle, if_false, Sem.run_pure, app_eq, mkS_app]
  case eql => cases h; exact ⟨by simp [binOp, Op.stringOp, eqBytes_eq, toList_strL], rfl⟩
  case neq => cases h; exact ⟨by simp [binOp, Op.stringOp, eqBytes_eq, toList_strL], rfl⟩
  case lss => cases h; exact ⟨by simp [binOp, Op.stringOp, ltBytes_eq, toList_strL], rfl⟩
  case leq => cases h; exact ⟨by simp [binOp, Op.stringOp, ltBytes_eq, eqBytes_eq, toList_strL], rfl⟩
  case gtr => cases h; exact ⟨by simp [binOp, Op.stringOp, ltBytes_eq, eqBytes_eq, toList_strL], rfl⟩
  case geq => cases h; exact ⟨by simp [binOp, Op.stringOp, ltBytes_eq, toList_strL], rfl⟩
  all_goals cases h

end Nt

namespace Nt
open Go

theorem run_eqGuard_other (P : Program) (w : World) (op : BinOp) (t : TypeId) (ox oy : Operand) (x y : Value) (h : ∀ xs ys, x = .agg xs → y = .agg ys → P.eqGuardType P.depth t = false)
    (h2 : ¬ (x = .nilIface ∧ y = .nilIface)) : (eqGuard op t ox oy x y).run P w = .ok () w := by
  by_cases hagg : ∃ xs ys, x = .agg xs ∧ y = .agg ys
  · obtain ⟨xs, ys, rfl, rfl⟩ := hagg
    exact run_eqGuard_agg w op t ox oy xs ys (h xs ys rfl rfl)
  · unfold eqGuard
    by_cases ho : (!(match op with | .eql | .neq => true | _ => false)) = true
    · cases op <;> first | (simp at ho; done) | rfl
    · have ho' : op = .eql ∨ op = .neq := by cases op <;> simp_all
      rcases ho' with rfl | rfl <;>
      · simp only [Bool.not_true, Bool.false_eq_true, if_false]
        split
        · exact absurd ⟨rfl, rfl⟩ h2
        · exact absurd ⟨_, _, rfl, rfl⟩ hagg
        · rfl

theorem binOp_eql_ok {T : TyT} {P : Program} (hT : TabOK T P) {ρ : Ren} (w : World) {d : Nat} (hd : d ≤ 10000) {t : TypeId} {x y x' y' : Value} {b : Bool} (hx : VR ρ x x') (hy : VR ρ y y')
    (h : dEq T d t x y = some b) (hi : ∀ k n, x ≠ .int k n) (hs : ∀ s, x ≠ .string s) :
    (binOp .eql t x' y').run P w = .ok (.bool b) w ∧ (binOp .neq t x' y').run P w = .ok (.bool (!b)) w ∧ (∀ op ox oy, (eqGuard op t ox oy x' y').run P w = .ok () w) := by
  have he := dEq_ok hT w 10000 d hd t x y x' y' b hx hy h
  have he' : (Op.equal t x' y').run P w = .ok b w := he
  have hg : ∀ op ox oy, (eqGuard op t ox oy x' y').run P w = .ok () w := by
    intro op ox oy
    refine run_eqGuard_other P w op t ox oy x' y' (fun xs ys e1 e2 => ?_) (fun ⟨e1, e2⟩ => ?_)
    · subst e1; subst e2
      cases hx; cases hy
      cases d with
      | zero => simp [dEq] at h
      | succ d =>
        simp only [dEq] at h
        cases ht : T.get t with
        | none => rw [ht] at h; cases h
        | some e =>
          rw [ht] at h
          simp only at h
          have heq : e.eqOk = true := by
            cases hq : e.eqOk with
            | true => rfl
            | false =>
              exfalso
              rw [hq] at h
              split at h <;> first | (rename_i h1 _; cases h1; done) | (rename_i h1; cases h1; done) | skip
              all_goals first | cases h | (simp at h; done) | (split at h <;> simp at h)
          exact (hT.eq t e ht heq).1
    · subst e1; subst e2
      cases hx; cases hy
      cases d with
      | zero => simp [dEq] at h
      | succ d =>
        simp only [dEq] at h
        cases ht : T.get t with
        | none => rw [ht] at h; cases h
        | some e =>
          rw [ht] at h
          simp only at h
          split at h <;> simp_all
  refine ⟨?_, ?_, hg⟩
  · cases hx <;> first | (exact absurd rfl (hi _ _)) | (exact absurd rfl (hs _)) | skip
    all_goals first
      | (simp only [binOp, Sem.run_bind, he', Result.andThen_ok, Sem.run_pure]; done)
      | (cases hy <;> simp only [binOp, Sem.run_bind, he', Result.andThen_ok, Sem.run_pure]; done)
      | (exfalso; cases d with
          | zero => simp [dEq] at h
          | succ d =>
            simp only [dEq] at h
            cases ht : T.get t with
            | none => rw [ht] at h; cases h
            | some e => rw [ht] at h; simp only at h; split at h <;> simp_all)
  · cases hx <;> first | (exact absurd rfl (hi _ _)) | (exact absurd rfl (hs _)) | skip
    all_goals first
      | (simp only [binOp, Sem.run_bind, he', Result.andThen_ok, Sem.run_pure]; done)
      | (cases hy <;> simp only [binOp, Sem.run_bind, he', Result.andThen_ok, Sem.run_pure]; done)
      | (exfalso; cases d with
          | zero => simp [dEq] at h
          | succ d =>
            simp only [dEq] at h
            cases ht : T.get t with
            | none => rw [ht] at h; cases h
            | some e => rw [ht] at h; simp only at h; split at h <;> simp_all)

theorem dBin_ok {T : TyT} {P : Program} (hT : TabOK T P) {ρ : Ren} {op : BinOp} {t : TypeId} {x y x' y' v : Value} (hx : VR ρ x x') (hy : VR ρ y y') (h : dBin T op t x y = some v) (ox oy : Operand) (w : World) :
    (do eqGuard op t ox oy x' y'; binOp op t x' y').run P w = .ok v w ∧ VR ρ v v := by
  unfold dBin at h
  split at h
  · rename_i k a
    split at h
    · rename_i k' b
      rw [hx.int_inv, hy.int_inv]
      have hg : (eqGuard op t ox oy (.int k a) (.int k' b)).run P w = .ok () w := run_eqGuard_other P w op t ox oy _ _ (fun _ _ e => by cases e) (fun e => by cases e.1)
      simp only [Sem.run_bind, hg, Result.andThen_ok]
      unfold dBinI at h
      cases hs : isShift op with
      | true =>
        rw [hs] at h
        obtain ⟨h1, h2⟩ := dShift_ok (k' := k') h hs P t w
        exact ⟨h1, .of_gnd h2⟩
      | false =>
        rw [hs, bcond_false] at h
        cases hk : kindEq k k' with
        | false => rw [hk] at h; cases h
        | true =>
          rw [hk, bcond_true] at h
          rw [kindEq_eq] at hk
          obtain rfl : k = k' := of_decide_eq_true hk
          obtain ⟨h1, h2⟩ := dInt_ok h P t w
          exact ⟨h1, .of_gnd h2⟩
    · cases h
  · rename_i a
    split at h
    · rename_i b
      rw [hx.string_inv, hy.string_inv]
      have hg : (eqGuard op t ox oy (.string a) (.string b)).run P w = .ok () w := run_eqGuard_other P w op t ox oy _ _ (fun _ _ e => by cases e) (fun e => by cases e.1)
      simp only [Sem.run_bind, hg, Result.andThen_ok]
      obtain ⟨h1, h2⟩ := dStr_ok h P t w
      exact ⟨h1, .of_gnd h2⟩
    · cases h
  · rename_i hi hs
    unfold dEqOp at h
    split at h
    · unfold optBool at h
      cases hd : dEq T eqDepth t x y with
      | none => rw [hd] at h; cases h
      | some b =>
        rw [hd] at h; cases h
        obtain ⟨h1, _, h3⟩ := binOp_eql_ok hT w (by unfold eqDepth; omega) hx hy hd (fun k n e => hi k n e) (fun s e => hs s e)
        simp only [Sem.run_bind, h3, Result.andThen_ok, h1]
        exact ⟨trivial, .bool _⟩
    · unfold optBool at h
      cases hd : dEq T eqDepth t x y with
      | none => rw [hd] at h; cases h
      | some b =>
        rw [hd] at h; cases h
        obtain ⟨_, h1, h3⟩ := binOp_eql_ok hT w (by unfold eqDepth; omega) hx hy hd (fun k n e => hi k n e) (fun s e => hs s e)
        simp only [Sem.run_bind, h3, Result.andThen_ok, h1]
        exact ⟨trivial, .bool _⟩
    · cases h

end Nt

namespace Nt
open Go

/-- An operation leaves the world alone and hands back a value that fits. -/
def Same (P : Program) (s : Sem Next) (ρ : Ren) (v : Value) (w : World) : Prop := ∃ v', s.run P w = .ok (.value v') w ∧ VR ρ v v'

theorem same_mk {P : Program} {s : Sem Value} {ρ : Ren} {v v' : Value} {w : World} (h : s.run P w = .ok v' w) (hv : VR ρ v v') :
    Same P (do pure (.value (← s))) ρ v w := ⟨v', by simp [h], hv⟩

theorem VR.slice_inv {ρ : Ren} {a : Addr} {n c : Nat} {v : Value} (h : VR ρ (.slice (some a) n c) v) :
    (∃ L, ρ a.block = some L ∧ v = .slice (some ⟨L.r, L.base + a.off, none⟩) n (capOf L c) ∧ a.spot = none) ∨ (n = 0 ∧ c = voidCap ∧ ∃ a' c', v = .slice (some a') 0 c') := by
  cases h with
  | slice o _ _ h => exact .inl ⟨_, h, rfl, rfl⟩
  | void _ a' c => exact .inr ⟨rfl, rfl, a', c, rfl⟩
theorem VR.sliceNil_inv {ρ : Ren} {n c : Nat} {v : Value} (h : VR ρ (.slice none n c) v) : v = .slice none n c := by cases h; rfl

theorem add_addr (b o n : Nat) : (⟨b, o, none⟩ : Addr).add n = ⟨b, o + n, none⟩ := by
  unfold Addr.add; split <;> simp_all

/-! #### Places -/
theorem fieldAddr_ok {T : TyT} {P : Program} (hT : TabOK T P) {ρ : Ren} {s : TypeId} {f : Nat} {env env' : Env} {x : Operand} (hx : VR ρ (env x) (env' x)) {v : Value}
    (h : pFieldAddr s x f T env = some v) (w : World) : ∃ v', (Instr.fieldAt s (env' x) f).run P w = .ok v' w ∧ VR ρ v v' := by
  unfold pFieldAddr at h
  split at h
  · rename_i fields _ _ _ _ hs
    rw [nth_eq] at h
    cases hf : fields.toList[f]? with
    | none => rw [hf] at h; cases h
    | some fl =>
      rw [hf] at h
      simp only at h
      cases htf : T.get fl.type with
      | none => rw [htf] at h; cases h
      | some tf =>
        rw [htf] at h
        simp only at h
        cases hz : Nat.beq tf.size 0 with
        | true => rw [hz] at h; cases h
        | false =>
          rw [hz, bcond_false] at h
          split at h
          · rename_i b o he
            cases h
            rw [he] at hx
            obtain ⟨L, hL, e, _⟩ := hx.ptr_inv
            have hf' : fields[f]? = some fl := by simpa using hf
            have hz' : tf.size ≠ 0 := fun e => by rw [e] at hz; cases hz
            refine ⟨.pointer (some ⟨L.r, L.base + (o + fl.offset), none⟩), ?_, .ptr _ hL⟩
            rw [e]
            simp only [Instr.fieldAt, Sem.run_bind, run_und hT hs, Result.andThen_ok, hf', Instr.sureAddr, Sem.run_pure, fieldPlace, run_size hT htf, hz', if_false, add_addr]
            simp only [Nat.add_assoc]
          · cases h
  · cases h

theorem idxIn_some {i : Int} {n k : Nat} (h : idxIn i n = some k) : i = (k : Int) ∧ k < n := by
  unfold idxIn at h
  split at h
  · rename_i j
    cases hb : Nat.ble (Nat.succ j) n with
    | false => rw [hb] at h; cases h
    | true => rw [hb] at h; cases h; exact ⟨rfl, ble_true hb⟩
  · cases h

theorem indexAddr_ok {T : TyT} {P : Program} (hT : TabOK T P) {ρ : Ren} {t : TypeId} {env env' : Env} {x i : Operand} (hx : VR ρ (env x) (env' x)) (hi : VR ρ (env i) (env' i)) {v : Value}
    (h : pIndexAddr t x i T env = some v) (w : World) : ∃ v', (Instr.indexAt t (env' x) (env' i)).run P w = .ok v' w ∧ VR ρ v v' := by
  unfold pIndexAddr at h
  split at h
  · rename_i e _ _ _ _ ht
    split at h
    · rename_i te b o ln c k n hte he hn
      cases hk : idxIn n ln with
      | none => rw [hk] at h; cases h
      | some m =>
        rw [hk] at h; cases h
        obtain ⟨hm1, hm2⟩ := idxIn_some hk
        rw [hn] at hi; rw [he] at hx
        rw [hi.int_inv]
        rcases hx.slice_inv with ⟨L, hL, e', _⟩ | ⟨h0, _, _⟩
        · rw [e']
          refine ⟨.pointer (some ⟨L.r, L.base + (o + m * te.size), none⟩), ?_, .ptr _ hL⟩
          subst hm1
          simp only [Instr.indexAt, asIntOf, Sem.run_bind, Sem.run_pure, Result.andThen_ok, run_und hT ht]
          rw [if_pos ⟨by omega, by omega⟩]
          simp only [Sem.run_bind, run_size hT hte, Result.andThen_ok, Sem.run_pure, add_addr, Int.toNat_natCast, Nat.add_assoc]
        · omega
    · cases h
  · rename_i ln e _ _ _ _ ht
    split at h
    · rename_i te b o k n hte he hn
      cases hk : idxIn n ln with
      | none => rw [hk] at h; cases h
      | some m =>
        rw [hk] at h; cases h
        obtain ⟨hm1, hm2⟩ := idxIn_some hk
        rw [hn] at hi; rw [he] at hx
        rw [hi.int_inv]
        obtain ⟨L, hL, e', _⟩ := hx.ptr_inv
        rw [e']
        refine ⟨.pointer (some ⟨L.r, L.base + (o + m * te.size), none⟩), ?_, .ptr _ hL⟩
        subst hm1
        simp only [Instr.indexAt, asIntOf, Sem.run_bind, Sem.run_pure, Result.andThen_ok, run_und hT ht, Instr.sureAddr]
        rw [if_pos ⟨by omega, by omega⟩]
        simp only [Sem.run_bind, run_size hT hte, Result.andThen_ok, Sem.run_pure, add_addr, Int.toNat_natCast, Nat.add_assoc]
    · cases h
  · cases h

theorem byte_get (s : ByteArray) (n : Nat) : s[n]? = (strL s)[n]? := by
  obtain ⟨⟨l⟩⟩ := s
  show (if h : n < (ByteArray.mk ⟨l⟩).size then some ((ByteArray.mk ⟨l⟩)[n]) else none) = l[n]?
  have hsz : (ByteArray.mk ⟨l⟩).size = l.length := rfl
  by_cases h : n < l.length
  · rw [dif_pos (by rw [hsz]; exact h), List.getElem?_eq_getElem h]; rfl
  · rw [dif_neg (by rw [hsz]; exact h), List.getElem?_eq_none (by omega)]
theorem u8N_eq (b : UInt8) : u8N b = b.toNat := rfl

theorem index_ok {T : TyT} {P : Program} (hT : TabOK T P) {ρ : Ren} {t : TypeId} {env env' : Env} {x i : Operand} (hx : VR ρ (env x) (env' x)) (hi : VR ρ (env i) (env' i)) {v : Value}
    (h : pIndex t x i T env = some v) (w : World) : ∃ v', (Instr.index t (env' x) (env' i)).run P w = .ok v' w ∧ VR ρ v v' := by
  unfold pIndex at h
  split at h
  · rename_i _ _ _ _ ht
    split at h
    · rename_i s k n he hn
      rw [nth_eq] at h
      cases hb : (strL s)[n]? with
      | none => rw [hb] at h; cases h
      | some b =>
        rw [hb] at h; cases h
        rw [he] at hx; rw [hn] at hi
        rw [hx.string_inv, hi.int_inv]
        refine ⟨.int .u8 b.toNat, ?_, .int _ _⟩
        simp only [Instr.index, asIntOf, Sem.run_bind, Sem.run_pure, Result.andThen_ok, run_und hT ht, Int.ofNat_eq_natCast, Int.toNat_natCast]
        rw [if_pos (by omega), byte_get, hb]
        rfl
    · cases h
  · rename_i ln e _ _ _ _ ht
    split at h
    · rename_i te cs k n hte he hn
      cases hk : idxIn n ln with
      | none => rw [hk] at h; cases h
      | some m =>
        rw [hk] at h
        obtain ⟨hm1, hm2⟩ := idxIn_some hk
        rw [hn] at hi; rw [he] at hx
        rw [hi.int_inv]
        obtain ⟨ds, e', hc⟩ := hx.agg_inv
        rw [e']
        obtain ⟨y, hy, hv⟩ := part_ok hT hc h w
        refine ⟨y, ?_, hv⟩
        subst hm1
        simp only [Instr.index, asIntOf, Sem.run_bind, Sem.run_pure, Result.andThen_ok, run_und hT ht]
        rw [if_pos ⟨by omega, by omega⟩]
        simp only [Sem.run_bind, run_size hT hte, Result.andThen_ok, Int.toNat_natCast, hy]
    · cases h
  · cases h

theorem field_ok {T : TyT} {P : Program} (hT : TabOK T P) {ρ : Ren} {t : TypeId} {f : Nat} {env env' : Env} {x : Operand} (hx : VR ρ (env x) (env' x)) {v : Value}
    (h : pField t x f T env = some v) (w : World) : ∃ v', (Instr.field t (env' x) f).run P w = .ok v' w ∧ VR ρ v v' := by
  unfold pField at h
  split at h
  · rename_i fields _ _ _ _ cs ht he
    rw [nth_eq] at h
    cases hf : fields.toList[f]? with
    | none => rw [hf] at h; cases h
    | some fl =>
      rw [hf] at h
      rw [he] at hx
      obtain ⟨ds, e', hc⟩ := hx.agg_inv
      obtain ⟨y, hy, hv⟩ := part_ok hT hc h w
      refine ⟨y, ?_, hv⟩
      have hf' : fields[f]? = some fl := by simpa using hf
      rw [e']
      simp only [Instr.field, Sem.run_bind, run_und hT ht, Result.andThen_ok, hf', asAgg, Sem.run_pure, hy]
  · cases h

/-! #### Slice expressions -/
theorem bound_some {v v' : Value} {ρ : Ren} (hv : VR ρ v v') {y y' n : Nat} (h : bound v y = some n) (hy : y ≤ y') (code : BoundsCode) (P : Program) (w : World) :
    (Instr.sliceBound v' y' code).run P w = .ok n w ∧ n ≤ y := by
  unfold bound at h
  split at h
  · rename_i k i
    cases hb : Nat.ble i y with
    | false => rw [hb] at h; cases h
    | true =>
      rw [hb] at h; cases h
      have := ble_true hb
      rw [hv.int_inv]
      refine ⟨?_, this⟩
      simp only [Instr.sliceBound, asIntOf, Sem.run_bind, Sem.run_pure, Result.andThen_ok, Int.ofNat_eq_natCast]
      rw [if_pos ⟨by omega, by omega⟩]
      simp
  · cases h

/-- Two bounds fit. -/
def VO (ρ : Ren) (a b : Option Value) : Prop := match a, b with | none, none => True | some x, some y => VR ρ x y | _, _ => False

theorem dBounds_ok {ρ : Ren} {lo lo' hi hi' mx mx' : Option Value} (hl : VO ρ lo lo') (hh : VO ρ hi hi') (hm : VO ρ mx mx') {len cap cap' l h m : Nat} (e : dBounds len cap lo hi mx = some (l, h, m))
    (hc : cap ≤ cap') (hx : hiMx hi mx = true) (isS : Bool) (P : Program) (w : World) (hcm : mx = none ∨ cap' = cap ∨ True) :
    (Instr.sliceBounds isS len cap' lo' hi' mx').run P w = .ok (l, h, if mx.isSome then m else cap') w ∧ l ≤ h ∧ (hi.isSome = true → h ≤ m) ∧ m ≤ cap ∧ (mx = none → m = cap) ∧ (hi = none → h = len) := by
  unfold dBounds at e
  cases h1 : boundO mx cap cap with
  | none => rw [h1] at e; cases e
  | some m1 =>
    rw [h1] at e
    simp only at e
    cases h2 : boundO hi len m1 with
    | none => rw [h2] at e; cases e
    | some h1' =>
      rw [h2] at e
      simp only at e
      cases h3 : boundO lo 0 h1' with
      | none => rw [h3] at e; cases e
      | some l1 =>
        rw [h3] at e; cases e
        -- the model's three bounds
        cases mx with
        | none =>
          cases mx' with
          | some _ => exact hm.elim
          | none =>
            cases h1
            cases hi with
            | none =>
              cases hi' with
              | some _ => exact hh.elim
              | none =>
                cases h2
                cases lo with
                | none =>
                  cases lo' with
                  | some _ => exact hl.elim
                  | none => cases h3; exact ⟨by simp [Instr.sliceBounds], by omega, by simp, by omega, fun _ => rfl, fun _ => rfl⟩
                | some x =>
                  cases lo' with
                  | none => exact hl.elim
                  | some x' =>
                    have hb := fun c => bound_some hl h3 (Nat.le_refl _) c P w
                    exact ⟨by simp [Instr.sliceBounds, (hb _).1], (hb .index).2, by simp, by omega, fun _ => rfl, fun _ => rfl⟩
            | some y =>
              cases hi' with
              | none => exact hh.elim
              | some y' =>
                have hb1 := fun c => bound_some hh h2 hc c P w
                cases lo with
                | none =>
                  cases lo' with
                  | some _ => exact hl.elim
                  | none => cases h3; exact ⟨by simp [Instr.sliceBounds, (hb1 _).1], by omega, fun _ => (hb1 .index).2, by omega, fun _ => rfl, (fun e => nomatch e)⟩
                | some x =>
                  cases lo' with
                  | none => exact hl.elim
                  | some x' =>
                    have hb := fun c => bound_some hl h3 (Nat.le_refl _) c P w
                    exact ⟨by simp [Instr.sliceBounds, (hb _).1, (hb1 _).1], (hb .index).2, fun _ => (hb1 .index).2, by omega, fun _ => rfl, (fun e => nomatch e)⟩
        | some z =>
          cases mx' with
          | none => exact hm.elim
          | some z' =>
            have hb0 := fun c => bound_some hm h1 hc c P w
            cases hi with
            | none => simp [hiMx] at hx
            | some y =>
              cases hi' with
              | none => exact hh.elim
              | some y' =>
                have hb1 := fun c => bound_some hh h2 (Nat.le_refl _) c P w
                cases lo with
                | none =>
                  cases lo' with
                  | some _ => exact hl.elim
                  | none => cases h3; exact ⟨by simp [Instr.sliceBounds, (hb1 _).1, (hb0 _).1], by omega, fun _ => (hb1 .index).2, (hb0 .index).2, (fun e => nomatch e), (fun e => nomatch e)⟩
                | some x =>
                  cases lo' with
                  | none => exact hl.elim
                  | some x' =>
                    have hb := fun c => bound_some hl h3 (Nat.le_refl _) c P w
                    exact ⟨by simp [Instr.sliceBounds, (hb _).1, (hb1 _).1, (hb0 _).1], (hb .index).2, fun _ => (hb1 .index).2, (hb0 .index).2, (fun e => nomatch e), (fun e => nomatch e)⟩

theorem extract_mkS (s : ByteArray) (l h : Nat) : s.extract l h = mkS (((strL s).drop l).take (h - l)) := by
  obtain ⟨⟨a⟩⟩ := s
  apply ByteArray.ext
  apply Array.ext'
  simp only [mkS, strL]
  rw [ByteArray.data_extract, Array.toList_extract, List.extract_eq_take_drop]

end Nt

namespace Nt
open Go

theorem slice_ok {T : TyT} {P : Program} (hT : TabOK T P) {ρ : Ren} {t : TypeId} {x x' v : Value} {lo lo' hi hi' mx mx' : Option Value} (hx : VR ρ x x') (hl : VO ρ lo lo') (hh : VO ρ hi hi') (hm : VO ρ mx mx')
    (h : dSlice T t x lo hi mx = some v) (w : World) : ∃ v', (Instr.sliceAt t x' lo' hi' mx').run P w = .ok v' w ∧ VR ρ v v' := by
  unfold dSlice at h
  cases ht : T.get t with
  | none => rw [ht] at h; cases h
  | some ti =>
    rw [ht] at h
    have hund := run_und hT ht w
    simp only at h
    split at h
    · -- a text
      rename_i hu
      split at h
      · rename_i s
        unfold dSliceS at h
        split at h
        · cases h
        · cases hb : dBounds (len (strL s)) (len (strL s)) lo hi none with
          | none => rw [hb] at h; cases h
          | some r =>
            obtain ⟨l, hh', m⟩ := r
            rw [hb] at h; cases h
            rw [hx.string_inv]
            have hmx : mx' = none := by cases mx' with | none => rfl | some _ => exact hm.elim
            subst hmx
            rw [len_eq, strL_length] at hb
            obtain ⟨hr, _⟩ := dBounds_ok (mx := none) (mx' := none) hl hh trivial hb (Nat.le_refl _) (by cases hi <;> rfl) false P w (.inl rfl)
            refine ⟨_, ?_, .string _⟩
            simp only [Instr.sliceAt, Sem.run_bind, hund, hu, Result.andThen_ok, Instr.slice, Option.isSome_none, Bool.false_eq_true, if_false, hr, Sem.run_pure]
            rw [tke_eq, drp_eq, ← extract_mkS]
      · cases h
    · -- a slice
      rename_i e hu
      split at h
      · rename_i te a ln cap hte
        unfold dSliceL at h
        have hmi : mx'.isSome = mx.isSome := by cases mx <;> cases mx' <;> first | rfl | exact hm.elim
        cases hxv : (hiMx hi mx && !(Nat.ble voidCap cap)) with
        | false => rw [hxv] at h; cases h
        | true =>
          rw [hxv, bcond_true] at h
          rw [Bool.and_eq_true] at hxv
          obtain ⟨hxm, hnv⟩ := hxv
          have hnv' : cap ≠ voidCap := fun e => by subst e; simp [Nat.ble_self_eq_true] at hnv
          cases hbig : Nat.ble big cap with
          | true =>
            rw [hbig, bcond_true] at h
            have hge := ble_true hbig
            cases hln : Nat.ble ln (cap - big) with
            | false => rw [hln] at h; cases h
            | true =>
            rw [hln, bcond_true] at h
            have hln' := ble_true hln
            cases hb : dBounds ln (cap - big) lo hi mx with
            | none => rw [hb] at h; cases h
            | some r =>
              obtain ⟨l, hh', m⟩ := r
              rw [hb] at h
              simp only at h
              cases a with
              | none => cases h
              | some a =>
                simp only at h
                rcases hx.slice_inv with ⟨L, hL, e', hsp⟩ | ⟨_, h2, _⟩
                · have hcap : capOf L cap = cap - big + L.extra := by unfold capOf; rw [if_neg (by omega)]
                  obtain ⟨hr, hlh, hhm, hmc, hmn, hhn⟩ := dBounds_ok hl hh hm hb (Nat.le_add_right _ L.extra) hxm true P w (.inr (.inr trivial))
                  have hle : hh' ≤ m ∨ mx.isSome = true := by
                    cases hi with
                    | some _ => exact .inl (hhm rfl)
                    | none =>
                      cases mx with
                      | none => left; rw [hhn rfl, hmn rfl]; exact hln'
                      | some _ => exact .inr rfl
                  have hmod : (Instr.sliceAt t x' lo' hi' mx').run P w = .ok (.slice (if (if mx.isSome then m else cap - big + L.extra) = l then some ⟨L.r, L.base + a.off, none⟩ else some (⟨L.r, L.base + a.off + l * te.size, none⟩)) (hh' - l) ((if mx.isSome then m else cap - big + L.extra) - l)) w := by
                    rw [e']
                    simp only [Instr.sliceAt, Sem.run_bind, hund, hu, Result.andThen_ok, Instr.slice, hcap, hr, Sem.run_pure, run_size hT hte, Option.map_some, add_addr]
                  rw [hmod]
                  cases hmx : mx.isSome with
                  | true =>
                    rw [hmx, bcond_true] at h
                    cases h
                    refine ⟨_, rfl, ?_⟩
                    simp only [if_true]
                    have hlt : m - l < big := by
                      have := hnv; simp only [Bool.not_eq_true'] at this; have := ble_false this; unfold voidCap at this; unfold big at *; omega
                    have hc' : m - l = capOf L (m - l) := by unfold capOf; rw [if_pos hlt]
                    by_cases eml : m = l
                    · subst eml
                      rw [Nat.beq_refl, bcond_true, if_pos rfl]
                      have := VR.slice (ρ := ρ) (b := a.block) a.off (hh' - m) (m - m) hL
                      rw [← hc'] at this
                      obtain ⟨b, o, sp⟩ := a; simp only at hsp; subst hsp; exact this
                    · rw [Tr.beq_f eml, bcond_false, if_neg eml]
                      have := VR.slice (ρ := ρ) (b := a.block) (a.off + l * te.size) (hh' - l) (m - l) hL
                      rw [← hc'] at this
                      rw [Nat.add_assoc]; exact this
                  | false =>
                    rw [hmx, bcond_false] at h
                    have hmx' : mx = none := by cases mx with | none => rfl | some _ => cases hmx
                    have hmeq := hmn hmx'
                    refine ⟨_, rfl, ?_⟩
                    simp only [Bool.false_eq_true, if_false]
                    by_cases eml : m = l
                    · rw [Tr.beq_t eml, bcond_true] at h
                      cases h
                      have h0 : hh' - l = 0 := by
                        rcases hle with h7 | h7
                        · omega
                        · rw [hmx] at h7; cases h7
                      rw [h0]
                      split <;> exact .void _ _ _
                    · rw [Tr.beq_f eml, bcond_false] at h
                      cases h
                      have hle' : hh' ≤ m := by
                        rcases hle with h7 | h7
                        · exact h7
                        · rw [hmx] at h7; cases h7
                      rw [if_neg (by omega)]
                      have := VR.slice (ρ := ρ) (b := a.block) (a.off + l * te.size) (hh' - l) (m - l + big) hL
                      have hc' : capOf L (m - l + big) = cap - big + L.extra - l := by unfold capOf; rw [if_neg (by omega)]; omega
                      rw [hc'] at this
                      rw [Nat.add_assoc]; exact this
                · exact absurd h2 hnv'
          | false =>
            rw [hbig, bcond_false] at h
            have hlt := ble_false hbig
            cases hb : dBounds ln cap lo hi mx with
            | none => rw [hb] at h; cases h
            | some r =>
              obtain ⟨l, hh', m⟩ := r
              rw [hb] at h
              cases h
              obtain ⟨hr, hlh, hhm, hmc, hmn, _⟩ := dBounds_ok hl hh hm hb (Nat.le_refl _) hxm true P w (.inr (.inl rfl))
              have hm' : (if mx.isSome then m else cap) = m := by
                cases hmx : mx.isSome with
                | true => rfl
                | false => have hmx' : mx = none := by cases mx with | none => rfl | some _ => cases hmx
                           rw [hmn hmx']; rfl
              rw [hm'] at hr
              cases a with
              | none =>
                rw [hx.sliceNil_inv]
                refine ⟨.slice none (hh' - l) (m - l), ?_, ?_⟩
                · simp only [Instr.sliceAt, Sem.run_bind, hund, hu, Result.andThen_ok, Instr.slice, hr, Sem.run_pure, run_size hT hte, Option.map_none, ite_self]
                · have : bcond (Nat.beq m l) (none : Option Addr) (addOO none (l * te.size)) = none := by cases Nat.beq m l <;> rfl
                  rw [this]; exact .sliceNil _ _
              | some a =>
                rcases hx.slice_inv with ⟨L, hL, e', hsp⟩ | ⟨_, h2, _⟩
                · have hcap : capOf L cap = cap := by unfold capOf; rw [if_pos hlt]
                  rw [e']
                  refine ⟨.slice (if m = l then some ⟨L.r, L.base + a.off, none⟩ else some (⟨L.r, L.base + a.off + l * te.size, none⟩)) (hh' - l) (m - l), ?_, ?_⟩
                  · simp only [Instr.sliceAt, Sem.run_bind, hund, hu, Result.andThen_ok, Instr.slice, hcap, hr, Sem.run_pure, run_size hT hte, Option.map_some, add_addr]
                  · have hc' : m - l = capOf L (m - l) := by unfold capOf; rw [if_pos (by omega)]
                    by_cases eml : m = l
                    · subst eml
                      rw [Nat.beq_refl, bcond_true, if_pos rfl]
                      have := VR.slice (ρ := ρ) (b := a.block) a.off (hh' - m) (m - m) hL
                      rw [← hc'] at this
                      obtain ⟨b, o, sp⟩ := a; simp only at hsp; subst hsp; exact this
                    · rw [Tr.beq_f eml, bcond_false, if_neg eml]
                      have := VR.slice (ρ := ρ) (b := a.block) (a.off + l * te.size) (hh' - l) (m - l) hL
                      rw [← hc'] at this
                      rw [Nat.add_assoc]; exact this
                · exact absurd h2 hnv'
      · cases h
    · -- an array
      rename_i n e hu
      split at h
      · rename_i te a hte
        unfold dSliceA at h
        cases hxm' : (hiMx hi mx && !(Nat.ble big n)) with
        | false => rw [hxm'] at h; cases h
        | true =>
          rw [hxm', bcond_true] at h
          rw [Bool.and_eq_true, Bool.not_eq_true'] at hxm'
          obtain ⟨hxm, hbn⟩ := hxm'
          have hbn' := ble_false hbn
          cases hb : dBounds n n lo hi mx with
          | none => rw [hb] at h; cases h
          | some r =>
            obtain ⟨l, hh', m⟩ := r
            rw [hb] at h
            cases h
            obtain ⟨hr, hlh, hhm, hmc, hmn, _⟩ := dBounds_ok hl hh hm hb (Nat.le_refl _) hxm false P w (.inr (.inl rfl))
            have hm' : (if mx.isSome then m else n) = m := by
              cases hmx : mx.isSome with
              | true => rfl
              | false => have hmx' : mx = none := by cases mx with | none => rfl | some _ => cases hmx
                         rw [hmn hmx']; rfl
            rw [hm'] at hr
            obtain ⟨L, hL, e', hsp⟩ := hx.ptr_inv
            rw [e']
            have hsm : m - l < big := by omega
            refine ⟨.slice (some (if m = l then ⟨L.r, L.base + a.off, none⟩ else ⟨L.r, L.base + a.off + l * te.size, none⟩)) (hh' - l) (m - l), ?_, ?_⟩
            · simp only [Instr.sliceAt, Sem.run_bind, hund, hu, Result.andThen_ok, Instr.sureAddr, hr, Sem.run_pure, run_size hT hte, add_addr]
            · have hc' : m - l = capOf L (m - l) := by unfold capOf; rw [if_pos hsm]
              by_cases eml : m = l
              · subst eml
                rw [Nat.beq_refl, bcond_true, if_pos rfl]
                have := VR.slice (ρ := ρ) (b := a.block) a.off (hh' - m) (m - m) hL
                rw [← hc'] at this
                obtain ⟨b, o, sp⟩ := a; simp only at hsp; subst hsp; exact this
              · rw [Tr.beq_f eml, bcond_false, if_neg eml]
                have := VR.slice (ρ := ρ) (b := a.block) (a.off + l * te.size) (hh' - l) (m - l) hL
                rw [← hc'] at this
                rw [Nat.add_assoc]; exact this
      · cases h
    · cases h

end Nt

namespace Nt
open Go

/-! #### Building -/
theorem foldl_put (off : Nat) : ∀ (vs : List Value) (k : Nat) (cells : Array Value), off + k + vs.length ≤ cells.size →
    ((vs.zipIdx k).foldl (fun cs p => cs.setIfInBounds (off + p.2) p.1) cells).toList = lput cells.toList (off + k) vs := by
  intro vs
  induction vs with
  | nil => intro k cells h; simp [lput]
  | cons v vs ih =>
    intro k cells h
    simp only [List.zipIdx_cons, List.foldl_cons, List.length_cons] at h ⊢
    rw [ih (k + 1) _ (by simp; omega)]
    apply List.ext_getElem?
    intro i
    have hlen : cells.toList.length = cells.size := by simp
    rw [lput_get (by simp; omega), lput_get (by simp; omega), Array.toList_setIfInBounds]
    by_cases h1 : off + (k + 1) ≤ i ∧ i < off + (k + 1) + vs.length
    · rw [if_pos h1, if_pos (by simp; omega)]
      obtain ⟨m, hm⟩ : ∃ m, i - (off + k) = m + 1 := ⟨i - (off + k) - 1, by omega⟩
      rw [hm, List.getElem?_cons_succ]
      congr 1; omega
    · rw [if_neg h1]
      by_cases h2 : i = off + k
      · subst h2
        rw [if_pos (by simp)]
        simp [show off + k < cells.size by omega]
      · rw [if_neg (by simp; omega), List.getElem?_set_ne (fun e => h2 e.symm)]

def VRP (ρ : Ren) (a b : List (Nat × Value)) : Prop := a.length = b.length ∧ ∀ (i : Nat) (x y : Nat × Value), a[i]? = some x → b[i]? = some y → x.1 = y.1 ∧ VR ρ x.2 y.2
theorem VRP.nil (ρ : Ren) : VRP ρ [] [] := ⟨rfl, fun i x y h => by simp at h⟩
theorem VRP.cons {ρ : Ren} {i : Nat} {x y : Value} {a b : List (Nat × Value)} (h : VR ρ x y) (t : VRP ρ a b) : VRP ρ ((i, x) :: a) ((i, y) :: b) := by
  refine ⟨by simp [t.1], fun k u v hu hv => ?_⟩
  cases k with
  | zero => simp at hu hv; subst hu; subst hv; exact ⟨rfl, h⟩
  | succ k => exact t.2 k u v (by simpa using hu) (by simpa using hv)
theorem VRP.uncons {ρ : Ren} {i : Nat} {x : Value} {a b : List (Nat × Value)} (h : VRP ρ ((i, x) :: a) b) : ∃ y b', b = (i, y) :: b' ∧ VR ρ x y ∧ VRP ρ a b' := by
  cases b with
  | nil => exact absurd h.1 (by simp)
  | cons p b' =>
    obtain ⟨j, y⟩ := p
    obtain ⟨h1, h2⟩ := h.2 0 (i, x) (j, y) rfl rfl
    cases h1
    exact ⟨y, b', rfl, h2, by simpa using h.1, fun k u v hu hv => h.2 (k + 1) u v (by simpa using hu) (by simpa using hv)⟩

theorem VRL.lput {ρ : Ren} {c d : List Value} (h : VRL ρ c d) {vs us : List Value} (hv : VRL ρ vs us) {o : Nat} : VRL ρ (Nt.lput c o vs) (Nt.lput d o us) := by
  unfold Nt.lput
  have := ((h.take o).append hv).append (h.drop (o + vs.length))
  rw [hv.1] at this ⊢
  exact this

theorem fill_ok {ρ : Ren} {place : Nat → Option (Nat × Nat)} : ∀ {parts parts' : List (Nat × Value)} {cells l : List Value} {cells' : Array Value}, VRP ρ parts parts' → VRL ρ cells cells'.toList →
    fillD place cells parts = some l → ∃ l', Instr.fill place cells' parts' = some l' ∧ VRL ρ l l'.toList := by
  intro parts
  induction parts with
  | nil =>
    intro parts' cells l cells' hp hc h
    have : parts' = [] := by cases parts' with | nil => rfl | cons _ _ => exact absurd hp.1 (by simp)
    subst this
    unfold fillD at h; cases h
    exact ⟨cells', rfl, hc⟩
  | cons p parts ih =>
    intro parts' cells l cells' hp hc h
    obtain ⟨i, v⟩ := p
    obtain ⟨v', ps', rfl, hv, hp'⟩ := hp.uncons
    unfold fillD at h
    cases hpl : place i with
    | none => rw [hpl] at h; cases h
    | some q =>
      obtain ⟨off, size⟩ := q
      rw [hpl] at h
      simp only [len_eq] at h
      cases hb : Nat.beq (cellsL v).length size with
      | false => rw [hb] at h; cases h
      | true =>
        rw [hb, bcond_true] at h
        cases hs : lset cells off (cellsL v) with
        | none => rw [hs] at h; cases h
        | some c =>
          rw [hs] at h
          obtain ⟨h1, h2⟩ := lset_eq hs
          have hcl := hv.cellsL
          have hlen : (cellsL v').length = size := by rw [← hcl.1]; exact beq_true hb
          have hsz : cells.length = cells'.size := by have := hc.1; simpa using this
          have hv2 : v'.cells.size = size := by rw [← Array.length_toList, cellsL_cells]; exact hlen
          have hput : ((v'.cells.zipIdx.foldl (fun cs (x : Value × Nat) => cs.setIfInBounds (off + x.2) x.1) cells') : Array Value).toList = lput cells'.toList off (cellsL v') := by
            rw [← Array.foldl_toList, Array.toList_zipIdx, cellsL_cells]
            exact foldl_put off (cellsL v') 0 cells' (by rw [← hcl.1] ; omega)
          have hcc : VRL ρ c ((v'.cells.zipIdx.foldl (fun cs (x : Value × Nat) => cs.setIfInBounds (off + x.2) x.1) cells') : Array Value).toList := by
            rw [h2, hput]; exact hc.lput hcl
          obtain ⟨l', e1, e2⟩ := ih hp' hcc h
          refine ⟨l', ?_, e2⟩
          simp only [Instr.fill, hpl]
          rw [if_neg (by rw [hv2]; have := hcl.1; simp; omega)]
          exact e1

theorem run_mapM {α β : Type} (P : Program) (f : α → Sem β) (g : α → β) (w : World) : ∀ l : List α, (∀ x ∈ l, (f x).run P w = .ok (g x) w) → (l.mapM f).run P w = .ok (l.map g) w := by
  intro l
  induction l with
  | nil => intro _; simp
  | cons x l ih =>
    intro h
    rw [List.mapM_cons]
    simp [h x (List.mem_cons_self ..), ih (fun y hy => h y (List.mem_cons_of_mem _ hy))]

theorem build_ok {T : TyT} {P : Program} (hT : TabOK T P) {ρ : Ren} {t : TypeId} {parts : List (Nat × Value)} {parts' : Array (Nat × Value)} (hp : VRP ρ parts parts'.toList) {v : Value}
    (h : dBuild T t parts = some v) (w : World) : ∃ v', (Instr.build t parts').run P w = .ok v' w ∧ VR ρ v v' := by
  unfold dBuild at h
  cases ht : T.get t with
  | none => rw [ht] at h; cases h
  | some ti =>
    rw [ht] at h
    have hz : VRL ρ (cellsL ti.zero) ti.zero.cells.toList := by
      rw [cellsL_cells]; exact (VR.of_gndC (ρ := ρ) (hT.zero t ti ht).1).cellsL
    simp only at h
    split at h
    · rename_i fields hu
      cases hin : typesIn T fields.toList with
      | false => rw [hin] at h; cases h
      | true =>
        rw [hin, bcond_true] at h
        unfold typesIn at hin
        rw [alls_eq, List.all_eq_true] at hin
        cases hf : fillD (placesD T fields.toList) (cellsL ti.zero) parts with
        | none => rw [hf] at h; cases h
        | some l =>
          rw [hf] at h; cases h
          obtain ⟨l', h1, h2⟩ := fill_ok hp hz hf
          have hmm : (fields.mapM fun f => do pure (f.offset, ← Go.sizeOf f.type) : Sem (Array (Nat × Nat))).run P w =
              .ok ((fields.toList.map fun f => (f.offset, match T.get f.type with | some e => e.size | none => 0)).toArray) w := by
            rw [Array.mapM_eq_mapM_toList]
            have := run_mapM P (fun f : Field => do pure (f.offset, ← Go.sizeOf f.type)) (fun f => (f.offset, match T.get f.type with | some e => e.size | none => 0)) w fields.toList (fun f hf => by
              have := hin f hf
              cases hg : T.get f.type with
              | none => rw [hg] at this; cases this
              | some e => simp [run_size hT hg])
            rw [Sem.run_map, this]
            rfl
          have hpl : (fun i => (((fields.toList.map fun f => (f.offset, match T.get f.type with | some e => e.size | none => 0)).toArray)[i]?)) = placesD T fields.toList := by
            funext i
            unfold placesD
            rw [nth_eq]
            simp only [List.getElem?_toArray, List.getElem?_map]
            cases hg : fields.toList[i]? with
            | none => rfl
            | some f =>
              have := hin f (List.mem_of_getElem? hg)
              cases hg' : T.get f.type with
              | none => rw [hg'] at this; cases this
              | some e => simp [hg']
          refine ⟨.agg l', ?_, .mk_agg (VRA.iff_list.2 (by simpa using h2))⟩
          simp only [Instr.build, Sem.run_bind, run_zero hT ht, Result.andThen_ok, run_und hT ht, hu, hmm]
          rw [hpl, h1]
          simp
    · rename_i n e hu
      cases hte : T.get e with
      | none => rw [hte] at h; cases h
      | some te =>
        rw [hte] at h
        simp only at h
        cases hf : fillD (fun i => some (i * te.size, te.size)) (cellsL ti.zero) parts with
        | none => rw [hf] at h; cases h
        | some l =>
          rw [hf] at h; cases h
          obtain ⟨l', h1, h2⟩ := fill_ok hp hz hf
          refine ⟨.agg l', ?_, .mk_agg (VRA.iff_list.2 (by simpa using h2))⟩
          simp only [Instr.build, Sem.run_bind, run_zero hT ht, Result.andThen_ok, run_und hT ht, hu, run_size hT hte, h1]
          simp
    · cases h

/-! #### The rest -/
theorem minD_ok {ρ : Ren} (mx : Bool) (P : Program) (w : World) : ∀ (l l' : List Value) (v v' r : Value), VRL ρ l l' → VR ρ v v' → minD mx v l = some r → (∃ k n, v = .int k n) ∨ l = [] →
    ∃ r', (l'.foldlM (if mx then Builtin.max2 else Builtin.min2) v').run P w = .ok r' w ∧ VR ρ r r' := by
  intro l
  induction l with
  | nil =>
    intro l' v v' r hl hv h _
    rw [hl.unnil]
    unfold minD at h; cases h
    exact ⟨v', by simp, hv⟩
  | cons y l ih =>
    intro l' v v' r hl hv h _
    obtain ⟨y', l'', rfl, hy, hl'⟩ := hl.uncons
    unfold minD at h
    split at h
    · rename_i k x k' y _
      cases hk : kindEq k k' with
      | false => rw [hk] at h; cases h
      | true =>
        rw [hk, bcond_true] at h
        rw [kindEq_eq] at hk
        obtain rfl : k = k' := of_decide_eq_true hk
        obtain ⟨r', h1, h2⟩ := ih l'' _ _ r hl' (VR.int k _) h (.inl ⟨_, _, rfl⟩)
        refine ⟨r', ?_, h2⟩
        rw [hv.int_inv, hy.int_inv, List.foldlM_cons]
        cases mx
        · simp only [Bool.false_eq_true, if_false, bcond_false] at h1 ⊢
          simp only [Builtin.min2, Sem.run_bind, Sem.run_pure, Result.andThen_ok]
          rw [ltI_eq] at h1
          by_cases hlt : y < x
          · simpa [hlt] using h1
          · simpa [hlt] using h1
        · simp only [if_true, bcond_true] at h1 ⊢
          simp only [Builtin.max2, Sem.run_bind, Sem.run_pure, Result.andThen_ok]
          rw [ltI_eq] at h1
          by_cases hlt : x < y
          · simpa [hlt] using h1
          · simpa [hlt] using h1
    · cases h

end Nt

namespace Nt
open Go

/-- What the operands read as fits. -/
def EnvR (ρ : Ren) (env env' : Env) (xs : Array Operand) : Prop := ∀ x ∈ xs, VR ρ (env x) (env' x)

theorem vo_opt {ρ : Ren} {env env' : Env} {o : Option Operand} (h : ∀ x, o = some x → VR ρ (env x) (env' x)) : VO ρ (optV env o) (o.map env') := by
  cases o with
  | none => exact trivial
  | some x => exact h x rfl
theorem vrl_map {ρ : Ren} {env env' : Env} : ∀ {l : List Operand}, (∀ x ∈ l, VR ρ (env x) (env' x)) → VRL ρ (l.map env) (l.map env') := by
  intro l
  induction l with
  | nil => intro _; exact VRL.nil ρ
  | cons x l ih => intro h; exact VRL.cons (h x (List.mem_cons_self ..)) (ih fun y hy => h y (List.mem_cons_of_mem _ hy))
theorem vrp_map {ρ : Ren} {env env' : Env} : ∀ {l : List (Nat × Operand)}, (∀ x ∈ l, VR ρ (env x.2) (env' x.2)) → VRP ρ (l.map fun q => (q.1, env q.2)) (l.map fun q => (q.1, env' q.2)) := by
  intro l
  induction l with
  | nil => intro _; exact VRP.nil ρ
  | cons x l ih => intro h; exact VRP.cons (h x (List.mem_cons_self ..)) (ih fun y hy => h y (List.mem_cons_of_mem _ hy))

theorem bool_op {ρ : Ren} {v v' : Value} {q : Bool} (h : VR ρ v v') (e : v = .bool q) : v' = .bool q := by subst e; exact h.bool_inv

set_option maxHeartbeats 4000000 in
theorem pure_ok {T : TyT} {P : Program} (hT : TabOK T P) {ρ : Ren} {o : Oper} {env env' : Env} (henv : EnvR ρ env env' o.op.operands) {f : TyT → Env → Option Value} (hd : opD o.op T = .pure f)
    {v : Value} (h : f T env = some v) (w : World) : Same P (execOp env' o) ρ v w := by
  obtain ⟨dst, op, ty, pos, after, guard⟩ := o
  simp only at hd henv
  cases op with
  | move x =>
    cases hd; cases h
    exact ⟨env' x, rfl, henv x (by simp [Op.operands])⟩
  | assign x =>
    cases hd; cases h
    exact ⟨env' x, rfl, henv x (by simp [Op.operands])⟩
  | pick c a b =>
    cases hd
    unfold pPick at h
    split at h
    · rename_i q hq
      cases h
      have hc := bool_op (henv c (by simp [Op.operands])) hq
      refine ⟨if q then env' a else env' b, ?_, ?_⟩
      · simp only [execOp, hc, asBool, Sem.run_bind, Sem.run_pure, Result.andThen_ok]
      · cases q
        · exact henv b (by simp [Op.operands])
        · exact henv a (by simp [Op.operands])
    · cases h
  | binOp o t x y yt =>
    cases hd
    obtain ⟨h1, h2⟩ := dBin_ok hT (henv x (by simp [Op.operands])) (henv y (by simp [Op.operands])) h x y w
    exact same_mk h1 h2
  | unOp o t x =>
    cases hd
    have hx := henv x (by simp [Op.operands])
    unfold pUn dUn at h
    split at h
    · rename_i k n he
      cases h
      rw [he] at hx
      refine same_mk (v' := .int k (k.wrap (0 - n))) ?_ (by rw [wrapU_eq]; exact .int _ _)
      rw [hx.int_inv]; simp [Op.unary, Op.intArith]
    · rename_i k n he
      cases h
      rw [he] at hx
      refine same_mk ?_ (.int _ _)
      rw [hx.int_inv]; simp [Op.unary, Op.intBits]
    · rename_i b he
      cases h
      rw [he] at hx
      refine same_mk ?_ (.bool _)
      rw [hx.bool_inv]; simp [Op.unary]
    · cases h
  | fieldAddr s x fl =>
    cases hd
    obtain ⟨v', h1, h2⟩ := fieldAddr_ok hT (henv x (by simp [Op.operands])) h w
    exact same_mk h1 h2
  | indexAddr t x i =>
    cases hd
    obtain ⟨v', h1, h2⟩ := indexAddr_ok hT (henv x (by simp [Op.operands])) (henv i (by simp [Op.operands])) h w
    exact same_mk h1 h2
  | index t x i =>
    cases hd
    obtain ⟨v', h1, h2⟩ := index_ok hT (henv x (by simp [Op.operands])) (henv i (by simp [Op.operands])) h w
    exact same_mk h1 h2
  | field t x fl =>
    cases hd
    obtain ⟨v', h1, h2⟩ := field_ok hT (henv x (by simp [Op.operands])) h w
    exact same_mk h1 h2
  | extract x i =>
    cases hd
    have hx := henv x (by simp [Op.operands])
    unfold pExtract at h
    split at h
    · rename_i vs he
      rw [he] at hx
      rw [nth_eq] at h
      obtain ⟨ds, e, hc⟩ := hx.tuple_inv
      have : vs[i]? = some v := by simpa using h
      obtain ⟨y, hy, hv⟩ := hc.get this
      refine same_mk ?_ hv
      rw [e]; simp [Instr.extract, hy]
    · cases h
  | nilCheck x =>
    cases hd
    have hx := henv x (by simp [Op.operands])
    unfold pNilCheck at h
    split at h
    · cases h
    · cases h
    · cases h
    · rename_i u h1 h2 h3
      cases h
      refine ⟨env' x, ?_, hx⟩
      generalize env x = a at hx h1 h2 h3
      simp only [execOp]
      generalize env' x = b at hx
      cases hx <;> first | (exact absurd rfl h1) | (exact absurd rfl h2) | (exact absurd rfl h3) | rfl
  | slice t x lo hi mx =>
    cases hd
    obtain ⟨v', h1, h2⟩ := slice_ok hT (henv x (by simp [Op.operands])) (vo_opt fun y hy => henv y (by simp [Op.operands, hy])) (vo_opt fun y hy => henv y (by simp [Op.operands, hy])) (vo_opt fun y hy => henv y (by simp [Op.operands, hy])) h w
    exact same_mk h1 h2
  | build t parts =>
    cases hd
    unfold pBuild at h
    rw [mp_eq] at h
    have hp : VRP ρ (parts.toList.map fun q => (q.1, env q.2)) (parts.map fun (q : Nat × Operand) => (q.1, env' q.2)).toList := by
      rw [Array.toList_map]
      exact vrp_map fun q hq => henv q.2 (by simp only [Op.operands]; simp; exact ⟨q.1, by simpa using hq⟩)
    obtain ⟨v', h1, h2⟩ := build_ok hT hp h w
    exact same_mk h1 h2
  | makeInterface t x =>
    cases hd
    unfold pMakeInterface at h
    cases ht : T.get t with
    | none => rw [ht] at h; cases h
    | some ti =>
      obtain ⟨u, s, b, z, q⟩ := ti
      rw [ht] at h
      have hund := run_und hT ht w
      have hx := henv x (by simp [Op.operands])
      cases u <;> first
        | (cases h; done)
        | (cases h; refine same_mk (v' := .iface t (env' x)) ?_ (.iface _ hx); simp only [Instr.makeInterface, Sem.run_bind, hund, Result.andThen_ok, Sem.run_pure])
  | makeFunc fn first cap =>
    cases hd
    unfold pMakeFunc at h
    split at h
    · rename_i g
      cases h
      refine ⟨.func (.func g) (first.map env') (cap.map env'), by simp [execOp, Instr.makeFunc], ?_⟩
      have e1 : VRA ρ ⟨mp env first.toList⟩ (first.map env') := by
        rw [VRA.iff_list, Array.toList_map]
        show VRL ρ (mp env first.toList) _
        rw [mp_eq]
        exact vrl_map fun y hy => henv y (by simp only [Op.operands, Array.mem_append]; exact .inl (by simpa using hy))
      have e2 : VRA ρ ⟨mp env cap.toList⟩ (cap.map env') := by
        rw [VRA.iff_list, Array.toList_map]
        show VRL ρ (mp env cap.toList) _
        rw [mp_eq]
        exact vrl_map fun y hy => henv y (by simp only [Op.operands, Array.mem_append]; exact .inr (by simpa using hy))
      exact .func g e1.1 e1.2 e2.1 e2.2
    · cases h
  | convert s d x =>
    have hx := henv x (by simp [Op.operands])
    simp only [opD, opConv] at hd
    cases hs : T.get s with
    | none => rw [hs] at hd; cases hd
    | some ts =>
      cases hdd : T.get d with
      | none => rw [hs, hdd] at hd; cases hd
      | some td =>
        rw [hs, hdd] at hd
        simp only at hd
        have hund1 := run_und hT hs w
        have hund2 := run_und hT hdd w
        split at hd
        · rename_i k hu
          cases hd
          unfold pConvI at h
          split at h
          · rename_i k' n he
            cases h
            rw [he] at hx
            refine same_mk (v' := .int k (k.wrap n)) ?_ (by rw [wrapU_eq]; exact .int _ _)
            rw [hx.int_inv]
            simp only [convert, Sem.run_bind, hund1, hund2, hu, Result.andThen_ok]
            rfl
          · cases h
        · rename_i hu
          split at hd
          · cases hd
          · cases hd
            unfold pConvS at h
            split at h
            · rename_i q he
              cases h
              rw [he] at hx
              refine same_mk (v' := .string q) ?_ (.string _)
              rw [hx.string_inv]
              simp only [convert, Sem.run_bind, hund1, hund2, hu, Result.andThen_ok]
              rfl
            · cases h
        · cases hd
        · split at hd <;> cases hd
        · split at hd <;> cases hd
        · cases hd
  | call c =>
    obtain ⟨callee, args, tys⟩ := c
    cases callee with
    | value g => cases hd
    | invoke r n => cases hd
    | builtin b =>
      have harg : ∀ x ∈ args, VR ρ (env x) (env' x) := fun x hx => henv x (by simp [Op.operands, Call.operands, hx])
      cases b <;> simp only [opD, opCall, opBuiltin] at hd
      case len => split at hd <;> cases hd
      case cap =>
        split at hd
        · rename_i x t ha htt
          cases hd
          unfold pCap at h
          split at h
          · rename_i e _ _ _ _ a n c ht he
            have hx := harg x (by rw [← Array.mem_toList_iff, ha]; simp)
            cases hb : Nat.ble big c with
            | true => rw [hb] at h; cases h
            | false =>
              rw [hb, bcond_false] at h; cases h
              have hlt := ble_false hb
              rw [he] at hx
              have hargs : (args.map env') = #[env' x] := by
                apply Array.ext'; simp [ha]
              have htys : tys[0]? = some t := by
                rw [← Array.getElem?_toList, htt]; rfl
              refine same_mk (s := Builtin.cap_ tys ty (args.map env')) (v' := .int .i64 c) ?_ (.int _ _)
              rw [hargs]
              cases a with
              | none => rw [hx.sliceNil_inv]; simp [Builtin.cap_, htys, run_und hT ht, goInt]
              | some a =>
                rcases hx.slice_inv with ⟨L, _, e', _⟩ | ⟨_, h2, _⟩
                · rw [e']; simp [Builtin.cap_, htys, run_und hT ht, goInt, capOf, hlt]
                · exfalso; rw [h2] at hlt; unfold voidCap big at hlt; omega
          · cases h
        · cases hd
      case min =>
        cases hd
        unfold pMin at h
        split at h
        · rename_i x r ha
          rw [mp_eq] at h
          have hx := harg x (by rw [← Array.mem_toList_iff, ha]; simp)
          have hr : VRL ρ (r.map env) (r.map env') := vrl_map fun y hy => harg y (by rw [← Array.mem_toList_iff, ha]; exact List.mem_cons_of_mem _ hy)
          by_cases hint : (∃ k n, env x = .int k n) ∨ r.map env = []
          · obtain ⟨r', h1, h2⟩ := minD_ok false P w _ _ _ _ _ hr hx h hint
            refine same_mk (s := Builtin.min_ tys ty (args.map env')) ?_ h2
            have : (args.map env').toList = env' x :: r.map env' := by simp [ha]
            simp only [Builtin.min_, this]
            simpa using h1
          · exfalso
            unfold minD at h
            split at h
            · rename_i e; exact hint (.inr e)
            · split at h
              · rename_i e1 e2; exact hint (.inl ⟨_, _, e1⟩)
              · cases h
        · cases h
      case max =>
        cases hd
        unfold pMin at h
        split at h
        · rename_i x r ha
          rw [mp_eq] at h
          have hx := harg x (by rw [← Array.mem_toList_iff, ha]; simp)
          have hr : VRL ρ (r.map env) (r.map env') := vrl_map fun y hy => harg y (by rw [← Array.mem_toList_iff, ha]; exact List.mem_cons_of_mem _ hy)
          by_cases hint : (∃ k n, env x = .int k n) ∨ r.map env = []
          · obtain ⟨r', h1, h2⟩ := minD_ok true P w _ _ _ _ _ hr hx h hint
            refine same_mk (s := Builtin.max_ tys ty (args.map env')) ?_ h2
            have : (args.map env').toList = env' x :: r.map env' := by simp [ha]
            simp only [Builtin.max_, this]
            simpa using h1
          · exfalso
            unfold minD at h
            split at h
            · rename_i e; exact hint (.inr e)
            · split at h
              · rename_i e1 e2; exact hint (.inl ⟨_, _, e1⟩)
              · cases h
        · cases h
      case unsafeSliceData =>
        split at hd
        · rename_i x ha
          cases hd
          have hx := harg x (by rw [← Array.mem_toList_iff, ha]; simp)
          have hargs : (args.map env') = #[env' x] := by
            apply Array.ext'; simp [ha]
          unfold pSliceData at h
          split at h
          · rename_i n c he
            cases h
            rw [he] at hx
            refine same_mk (s := Builtin.unsafeSliceData_ tys ty (args.map env')) (v' := .pointer none) ?_ .ptrNil
            rw [hargs, hx.sliceNil_inv]; rfl
          · rename_i b o n c he
            cases hb : (Nat.beq c 0 || Nat.beq c big || Nat.beq c voidCap) with
            | true => rw [hb] at h; cases h
            | false =>
              rw [hb, bcond_false] at h; cases h
              simp only [Bool.or_eq_false_iff] at hb
              obtain ⟨⟨hb1, hb2⟩, hb3⟩ := hb
              have c1 : c ≠ 0 := fun e => by rw [Tr.beq_t e] at hb1; cases hb1
              have c2 : c ≠ big := fun e => by rw [Tr.beq_t e] at hb2; cases hb2
              have c3 : c ≠ voidCap := fun e => by rw [Tr.beq_t e] at hb3; cases hb3
              rw [he] at hx
              rcases hx.slice_inv with ⟨L, hL, e', _⟩ | ⟨_, h2, _⟩
              · refine same_mk (s := Builtin.unsafeSliceData_ tys ty (args.map env')) (v' := .pointer (some ⟨L.r, L.base + o, none⟩)) ?_ (.ptr _ hL)
                have hc : capOf L c ≠ 0 := by unfold capOf; split <;> omega
                rw [hargs, e']
                show (if capOf L c ≠ 0 then (pure (.pointer (some ⟨L.r, L.base + o, none⟩)) : Sem Value) else _).run P w = _
                rw [if_pos hc]
                rfl
              · exact absurd h2 c3
          · cases h
        · cases hd
      all_goals cases hd
  | _ => cases hd

end Nt
