import Derived.Test.YteabhojpkhaknaaGreatKnown
import Derived.Test.YteabhojpkhaknaaGreatR6
namespace NtZ
open Go Nt Go.Proofs
set_option maxRecDepth 1000000
theorem none_run (a b : Int) : optE ((recN tyT fnT 100000 40).call 5 [.int .i64 a, .int .u64 b] ⟨.leaf, 0⟩) false (fun p => isTrue p.1) = true := by kernel_rfl
theorem none_calls (a b : Int) (w : World) : Calls Tryz.prog 5 #[.int .i64 a, .int .u64 b] w fun e w' => e = .returned (.bool true) ∧ Kept w w' := by
  obtain ⟨h', e⟩ := true_of (none_run a b)
  have hgo : goesF fnT 5 = true := by kernel_rfl
  refine (calls_of_nothing tyT_ok mixed fns hgo (n := 39) e (args' := #[.int .i64 a, .int .u64 b]) (VRL.cons (.int _ _) (VRL.cons (.int _ _) (VRL.nil _))) w).mono fun e w' he => ?_
  obtain ⟨v', ρ', rfl, hv, hk⟩ := he
  rw [hv.true_inv]
  exact ⟨rfl, hk⟩
end NtZ
