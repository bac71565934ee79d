/-
  HistNone: of no file system, and a nil view, there is nothing: for every checkpoint and call the law returns true; the two listed tables lie as the program's text lays them.
  The row's conditions: the listed variables (tied by the card). No other condition.
-/
import Derived.Test.YteabhojpkhaknaaGreatDoorRows
import Derived.Test.YteabhojpkhaknaaGreatDoorCards
import Derived.Test.YteabhojpkhaknaaGreatDoorTie
import Derived.WalkKit
import Derived.ProofKit
import Derived.OpenShut
import Derived.LaidMore
import Derived.Lay
import Derived.SevenTiedAt
import Derived.Stop.Joined
import Derived.Test.YteabhojpkhaknaaGreatDoorHistNoneRun
import Derived.Test.YteabhojpkhaknaaGreatDoorHistNoneFacts
namespace Go.Proofs.YteabhojpkhaknaaGreatDoor.histNone
open Go.ChangeShapes Go.WideShapes Go.ChangeAt Go.RowKit
set_option maxRecDepth 100000

theorem own : ownKnob Tryz.prog.godebug = none := by kernel_rfl

theorem lifted (os : Os) (started : os.Started) (H : Type) (enc : TypeId × Value → H) :
    ReturnsInHanded {} Tryz.checked os 8 .any (fun w args => (Rows.histNoneSpec.pre enc Tryz.prog Tryz.f8 Rows.histNoneRow.domain false w args ∧ laidMetH Tryz.prog Rows.histNoneRow.laid w) ∧ sizedMet enc Tryz.prog Tryz.f8 (OpenSpec.ofChange Rows.histNoneSpec) false w args)
      (Rows.histNoneSpec.post enc Tryz.prog Tryz.f8 false true false false) := by
  refine returnsInHanded_of_change_and (C := Tryz.checked) (X := fun w _ => laidMetH Tryz.prog Rows.histNoneRow.laid w) (fun _ _ _ hh h => h.of_heap hh) own started (by kernel_rfl) Tryz.func8
    (ChangeSpec.witness_shaped (enc := enc) (C := Tryz.checked) (os := os) (X := fun w _ => laidMetH Tryz.prog Rows.histNoneRow.laid w) false (World.laidAll Tryz.prog os Rows.histNoneRow.laid) #[.int .u64 0, .agg #[.int .i64 0, .string ⟨#[]⟩, .string ⟨#[]⟩, .string ⟨#[]⟩, .int .i64 0, .int .i64 0, .int .i64 0]] 8 (World.laidAll_os _ _ _)
      (World.shaped_of_ZipB (by kernel_rfl) (by kernel_rfl)) (by kernel_rfl) (by kernel_rfl) (by kernel_rfl)
      (by rw [MakeChecks.laidMetH_plain _ _ _ (by kernel_rfl)]; exact laidMet_laidAll _ (by kernel_rfl) (by kernel_rfl))) ?_
  intro W base args ds gs before hval0 hW hc _ hL _
  have hval : ∀ (j : Nat) t v, Tryz.f8.params[j]? = some t → args[j]? = some v → Value.okWide Tryz.prog W .any base t v := hval0
  have hW' := hW
  obtain ⟨p, q, hA0, hV, rfl, _, _⟩ := hW
  have hA : DataW.TrodAll enc Tryz.prog W 0 (fun _ => true) true Tryz.f8.params.toList args.toList ds p := hA0
  rw [Tryz.params8] at hA hval
  obtain ⟨v0, vs0, d0, ds0, p0, q0, hargs, rfl, rfl, h0, r0⟩ := trodAll_cons hA
  obtain ⟨v1, vs1, d1, ds1, p1, q1, rfl, rfl, rfl, h1, r1⟩ := trodAll_cons r0
  obtain ⟨rfl, rfl, rfl⟩ := trodAll_nil r1
  obtain rfl : args = #[v0, v1] := by cases args; simp_all
  obtain ⟨rfl, rfl⟩ := trodVars_none hV
  obtain ⟨a0, rfl, _, _, _⟩ := open_int Tryz.underlying28 (hval 0 28 v0 rfl rfl) h0
  obtain ⟨a1, s1, s2, s3, a2, a3, a4, rfl⟩ := NtH.call_cells (hval 1 36 v1 rfl rfl)
  refine (NtH.none_calls a0 a1 a2 a3 a4 s1 s2 s3 W).mono fun e W' ⟨he, hk⟩ => ?_
  subst he
  refine ⟨_, rfl, Nt.law_post histNoneJ.j1 ?_ rfl (tb := 4) (by kernel_rfl) Tryz.underlying4 hW' rfl hk⟩
  rw [Tryz.params8]
  intro t ht
  simp only [List.mem_cons, List.not_mem_nil, or_false] at ht
  rcases ht with rfl | rfl
  · exact ⟨by kernel_rfl, by decide +kernel⟩
  · exact ⟨by kernel_rfl, by decide +kernel⟩

theorem holds : Rows.HistNoneSaid :=
  OpenClaim.holds_of_wide 8 Tryz.f8 rfl rfl rfl rfl rfl rfl rfl ⟨rfl, rfl, rfl, rfl, rfl⟩ rfl rfl rfl rfl rfl (by kernel_rfl) Tryz.func8 histNoneJ.joined
    (of_decide_eq_true (by kernel_rfl)) (by unfold Func.isWrapper; first | (rw [if_pos (by decide +kernel)]; kernel_rfl) | (rw [if_neg (by decide +kernel)]; exact ⟨rfl, rfl⟩))
    (fun os started H enc _ => lifted os started H enc)
theorem c1 : Rows.histNoneRow.wfByText (OpenSpec.ofChange Rows.histNoneSpec) = true := by kernel_rfl
theorem c2 : Tryz.pinned.checked.prog.mainIs = some (true, "83ecb7b39c2f1af4b71828c5a72d15455465da43de386fb38755c754432d6376".toList) := by kernel_rfl
theorem c3 : false = Tryz.pinned.checked.prog.looks [] := by kernel_rfl
theorem c4 : ([28, 36].all fun u => !Tryz.prog.wantsStandIn u) = true := by kernel_rfl
theorem c5 : false = Rows.histNoneRow.goesBy Tryz.pinned.checked.prog := by kernel_rfl
theorem c6 : Tryz.prog.funcNamed "nautilus/nautiluslaw22.HistNone" = some 8 := by kernel_rfl
theorem card_holds : Rows.HistNoneCardSaid :=
  Claim7.holds_tied_plain_at .later [] [.data, .pinned] true (true, "83ecb7b39c2f1af4b71828c5a72d15455465da43de386fb38755c754432d6376") false holds (fun _ h => by cases h) c1 (fun _ h => by cases h) histNone_row_tie rfl ⟨rfl, rfl⟩ c2 rfl
    (fun f fn hf hfn => by
      obtain rfl : f = 8 := Option.some.inj (c6.symm.trans hf) |>.symm
      obtain rfl : fn = Tryz.f8 := (Option.some.inj (Tryz.func8.symm.trans hfn)).symm
      exact ⟨c3, fun j t ht => by
        rw [Tryz.params8] at ht
        have hm : t ∈ [28, 36] := by simpa using Array.mem_of_getElem? ht
        exact (show Tryz.prog.wantsStandIn t = false by simpa using List.all_eq_true.1 c4 t hm)⟩)
    c5
#print axioms card_holds
end Go.Proofs.YteabhojpkhaknaaGreatDoor.histNone
