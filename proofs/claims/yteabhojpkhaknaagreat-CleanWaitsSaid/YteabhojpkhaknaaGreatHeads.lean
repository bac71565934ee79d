/- CleanWaits: the law's head and its fresh data are taken by what they are known to do. -/
import Derived.Test.YteabhojpkhaknaaGreatSKnown
import Derived.Test.YteabhojpkhaknaaGreatS6
namespace NtZ
open Go Nt Go.Proofs
set_option maxRecDepth 1000000
noncomputable def fnW : FnT := (.node (none) (.node (none) (.node (none) (.node (some (.orc (.sem trueG))) .leaf (.node (some (.go Go.Proofs.Tryz.f23)) .leaf .leaf)) (.node (some (.go Go.Proofs.Tryz.f11)) .leaf .leaf)) (.node (none) (.node (some (.go Go.Proofs.Tryz.f9)) .leaf .leaf) (.node (none) (.node (some (.go Go.Proofs.Tryz.f21)) .leaf .leaf) .leaf))) (.node (none) (.node (some (.go Go.Proofs.Tryz.f4)) (.node (some (.orc (.sem (threeG 0)))) .leaf .leaf) .leaf) (.node (none) (.node (some (.go Go.Proofs.Tryz.f10)) .leaf .leaf) (.node (none) (.node (some (.go Go.Proofs.Tryz.f22)) .leaf .leaf) .leaf))))
theorem shown_run : optE ((recN tyT fnT 100000 40).call 7 [] ⟨.leaf, 0⟩) false (fun p => isTrue p.1) = true := by kernel_rfl
theorem fresh_run : optE ((recN tyT fnT 100000 40).call 8 [.int .i64 0] ⟨.leaf, 0⟩) false (fun p => isThree p.1) = true := by kernel_rfl
theorem in7 (args : Array Value) (w : World) : (callFunc 7 args).run Tryz.prog w = .ok (.enter 7 args) w := by
  have h1 := Tryz.func7
  have h2 : (Tryz.f7.name == "runtime.NumGoroutine") = false := by kernel_rfl
  have h2' : ¬ Tryz.f7.name = "runtime.NumGoroutine" := by simpa using h2
  have h3 : Tryz.f7.body.isNone = false := by kernel_rfl
  have h3' : ¬ Tryz.f7.body = none := fun e => by rw [e] at h3; cases h3
  simp [callFunc, h1, h2', h3']
theorem in8 (args : Array Value) (w : World) : (callFunc 8 args).run Tryz.prog w = .ok (.enter 8 args) w := by
  have h1 := Tryz.func8
  have h2 : (Tryz.f8.name == "runtime.NumGoroutine") = false := by kernel_rfl
  have h2' : ¬ Tryz.f8.name = "runtime.NumGoroutine" := by simpa using h2
  have h3 : Tryz.f8.body.isNone = false := by kernel_rfl
  have h3' : ¬ Tryz.f8.body = none := fun e => by rw [e] at h3; cases h3
  simp [callFunc, h1, h2', h3']
theorem shown_calls (w : World) : Calls Tryz.prog 7 #[] w fun e w' => e = .returned (.bool true) ∧ Kept w w' := by
  obtain ⟨h', e⟩ := true_of shown_run
  have hgo : goesF fnT 7 = true := by kernel_rfl
  refine (calls_of_nothing tyT_ok mixed fns hgo (n := 39) e (args' := #[]) (VRL.nil _) w).mono fun e w' he => ?_
  obtain ⟨v', ρ', rfl, hv, hk⟩ := he
  rw [hv.true_inv]
  exact ⟨rfl, hk⟩
theorem fresh_calls (w : World) : Calls Tryz.prog 8 #[.int .i64 (0 : Nat)] w fun e w' => ∃ v v' ρ', isThree v = true ∧ e = .returned v' ∧ VR ρ' v v' ∧ Kept w w' := by
  obtain ⟨v, h', e, h3⟩ := three_of fresh_run
  have hgo : goesF fnT 8 = true := by kernel_rfl
  refine (calls_of_nothing tyT_ok mixed fns hgo (n := 39) e (args' := #[.int .i64 0]) (VRL.cons (.int _ _) (VRL.nil _)) w).mono fun e w' he => ?_
  obtain ⟨v', ρ', rfl, hv, hk⟩ := he
  exact ⟨v, v', ρ', h3, rfl, hv, hk⟩
theorem fok4 (Gs : List Nat) (h : fnCheck Gs Go.Proofs.Tryz.f4 = true := by kernel_rfl) : FnOk Go.Proofs.Tryz.prog Gs 4 Go.Proofs.Tryz.f4 := fnOk_of Go.Proofs.Tryz.func4 (by kernel_rfl) h
theorem o7 : OrcOk Tryz.prog [] 7 (.sem trueG) := orc_true in7 shown_calls
theorem o8 : OrcOk Tryz.prog [] 8 (.sem (threeG 0)) := orc_three in8 fresh_calls
theorem fnsW : FnsOk Tryz.prog [] fnW := fnsOk_of (by
  intro x hx
  have e : fnW.entries = [(7, .orc (.sem trueG)), (23, .go Go.Proofs.Tryz.f23), (11, .go Go.Proofs.Tryz.f11), (9, .go Go.Proofs.Tryz.f9), (21, .go Go.Proofs.Tryz.f21), (4, .go Go.Proofs.Tryz.f4), (8, .orc (.sem (threeG 0))), (10, .go Go.Proofs.Tryz.f10), (22, .go Go.Proofs.Tryz.f22)] := by kernel_rfl
  rw [e] at hx
  simp only [List.mem_cons, List.not_mem_nil, or_false] at hx
  rcases hx with rfl | rfl | rfl | rfl | rfl | rfl | rfl | rfl | rfl
  · exact o7
  · exact fok23 []
  · exact fok11 []
  · exact fok9 []
  · exact fok21 []
  · exact fok4 []
  · exact o8
  · exact fok10 []
  · exact fok22 [])
end NtZ