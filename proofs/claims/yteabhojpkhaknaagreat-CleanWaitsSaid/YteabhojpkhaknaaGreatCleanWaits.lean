/-
  CleanWaits: for every list of numbers and every way, the cleaner takes the first sixteen questions and refuses the rest, and a way that is none is refused: the law returns true. No condition.
-/
import Derived.Test.YteabhojpkhaknaaGreatRows
import Derived.WalkKit
import Derived.ProofKit
import Derived.OpenShut
import Derived.Test.YteabhojpkhaknaaGreatWaits
import Derived.Test.YteabhojpkhaknaaGreatWaitsFacts
namespace Go.Proofs.YteabhojpkhaknaaGreat.cleanWaits
open Go.ChangeShapes Go.WideShapes Go.ChangeAt Go.RowKit
set_option maxRecDepth 100000

theorem own : ownKnob Tryz.prog.godebug = none := by kernel_rfl

theorem okW_slice {P : Program} {w : World} {r : Reach} {b : Nat} {t e : TypeId} {a : Addr} {len cap : Nat} (ht : P.underlying t = some (.slice e)) (h : Value.okWide P w r b t (.slice (some a) len cap)) : a.spot = none := by
  unfold Value.okWide at h
  rw [ht] at h
  simp only [Cell.okWide, Cell.ok, ht] at h
  exact h.2.2.2.1

/-! ### The row's step -/
theorem lifted (os : Os) (started : os.Started) (H : Type) (enc : TypeId × Value → H) :
    ReturnsInHanded {} Tryz.checked os 4 .any (Rows.cleanWaitsSpec.pre6 enc Tryz.prog Tryz.f4 Rows.cleanWaitsRow.domain false) (Rows.cleanWaitsSpec.post enc Tryz.prog Tryz.f4 false true false false) := by
  refine returnsInHanded_of_change (C := Tryz.checked) own started (by kernel_rfl) Tryz.func4
    (ChangeSpec.witness6 (enc := enc) (C := Tryz.checked) false ⟨#[], #[.slice none 0 0, .int .i64 0], []⟩ 8 (by kernel_rfl) (by kernel_rfl) (by kernel_rfl) (by kernel_rfl)) ?_
  intro W base args ds gs before hval0 hW hcnd _
  have hval : ∀ (j : Nat) t v, Tryz.f4.params[j]? = some t → args[j]? = some v → Value.okWide Tryz.prog W .any base t v := hval0
  have hW' := hW
  obtain ⟨p, q, hA0, hV, rfl, _, _⟩ := hW
  have hA : DataW.TrodAll enc Tryz.prog W 0 (fun _ => true) true Tryz.f4.params.toList args.toList ds p := hA0
  rw [Tryz.params4] at hA hval
  obtain ⟨v0, vs0, d0, ds0, p0, q0, hargs, rfl, rfl, h0, r0⟩ := trodAll_cons hA
  obtain ⟨v1, vs1, d1, ds1, p1, q1, rfl, rfl, rfl, h1, r1⟩ := trodAll_cons r0
  obtain ⟨rfl, rfl, rfl⟩ := trodAll_nil r1
  obtain rfl : args = #[v0, v1] := by cases args; simp_all
  obtain ⟨rfl, rfl⟩ := trodVars_none hV
  obtain ⟨way, rfl, _, _, _⟩ := open_int Tryz.underlying3 (hval 1 3 v1 rfl rfl) h1
  have hcall : Calls Tryz.prog 4 #[v0, .int .i64 way] W fun e w' => e = .returned (.bool true) ∧ Nt.Kept W w' := by
    obtain ⟨a, len, cap, rfl⟩ := okWide_slice Tryz.underlying22 (hval 0 22 v0 rfl rfl)
    obtain ⟨fuel, hf⟩ := h0
    have hcs : (Value.slice a len cap).cells.toList = [.slice a len cap] := rfl
    rw [hcs] at hf
    rcases open_ints Tryz.underlying22 Tryz.underlying3 (by kernel_rfl) hf with ⟨e, _⟩ | ⟨a', len', cap', zs, e, _, hl, hm, hz, _, hcell, _⟩
    · cases e
      exact NtZ.waits_nil W way
    · cases e
      have hsp := okW_slice Tryz.underlying22 (hval 0 22 _ rfl rfl)
      obtain ⟨b, off, spot⟩ := a'
      obtain rfl : spot = none := hsp
      refine NtZ.waits_calls (x := fun i => zs.getD i 0) ?_ (fun i hi => ?_) way
      · have : cap ≤ 2 ^ 63 - 1 := hm
        show cap < 2 ^ 64
        omega
      · have := hcell i (by simp at hz; omega)
        rw [Nt.add_addr] at this
        exact this
  refine hcall.mono fun e W' ⟨he, hk⟩ => ?_
  subst he
  refine ⟨_, rfl, Nt.law_post cleanWaitsJ.j1 ?_ rfl (tb := 4) (by kernel_rfl) Tryz.underlying4 hW' rfl hk⟩
  rw [Tryz.params4]
  intro t ht
  simp only [List.mem_cons, List.not_mem_nil, or_false] at ht
  rcases ht with rfl | rfl
  · exact ⟨by kernel_rfl, by decide +kernel⟩
  · exact ⟨by kernel_rfl, by decide +kernel⟩

theorem over : Rows.cleanWaitsRow.holds Tryz.pinned (OpenSpec.ofChange Rows.cleanWaitsSpec) :=
  OpenClaim.holds_of_wide 4 Tryz.f4 rfl rfl rfl rfl rfl rfl rfl ⟨rfl, rfl, rfl, rfl, rfl⟩ rfl rfl rfl rfl rfl (by kernel_rfl) Tryz.func4 cleanWaitsJ.joined
    (of_decide_eq_true (by kernel_rfl)) (by unfold Func.isWrapper; first | (rw [if_pos (by decide +kernel)]; kernel_rfl) | (rw [if_neg (by decide +kernel)]; exact ⟨rfl, rfl⟩))
    (fun os started H enc _ => lifted os started H enc)

/-- The statement. -/
theorem proved : Rows.CleanWaitsSaid :=
  over
#print axioms proved
end Go.Proofs.YteabhojpkhaknaaGreat.cleanWaits
