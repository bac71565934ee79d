/- HistNone: the call. -/
import Derived.Test.YteabhojpkhaknaaGreatDoorKnown
import Derived.Test.YteabhojpkhaknaaGreatDoorR6
namespace NtH
open Go Nt Go.Proofs
set_option maxRecDepth 1000000
theorem none_run (a a1 a2 a3 a4 : Int) (s1 s2 s3 : ByteArray) :
    optE ((recN tyT fnT 100000 40).call 8 [.int .u64 a, .agg #[.int .i64 a1, .string s1, .string s2, .string s3, .int .i64 a2, .int .i64 a3, .int .i64 a4]] ⟨.leaf, 3⟩) false (fun p => isTrue p.1) = true := by kernel_rfl
theorem none_calls (a a1 a2 a3 a4 : Int) (s1 s2 s3 : ByteArray) (w : World) :
    Calls Tryz.prog 8 #[.int .u64 a, .agg #[.int .i64 a1, .string s1, .string s2, .string s3, .int .i64 a2, .int .i64 a3, .int .i64 a4]] w fun e w' => e = .returned (.bool true) ∧ Kept w w' := by
  obtain ⟨h', e⟩ := true_of (none_run a a1 a2 a3 a4 s1 s2 s3)
  have hgo : goesF fnT 8 = true := by kernel_rfl
  have hg : gndC (.agg #[.int .i64 a1, .string s1, .string s2, .string s3, .int .i64 a2, .int .i64 a3, .int .i64 a4]) = true := by kernel_rfl
  refine (calls_of_vars tyT_ok mixed fns (k := 3) (fun g hg => by simp at hg; omega) hgo (n := 39) e (args' := #[.int .u64 a, .agg #[.int .i64 a1, .string s1, .string s2, .string s3, .int .i64 a2, .int .i64 a3, .int .i64 a4]])
    (VRL.cons (.int _ _) (VRL.cons (VR.of_gndC hg) (VRL.nil _))) w).mono fun e w' he => ?_
  obtain ⟨v', ρ', rfl, hv, hk⟩ := he
  rw [hv.true_inv]
  exact ⟨rfl, hk⟩
/-- What the second argument looks like. -/
theorem call_cells {w : World} {r : Reach} {b : Nat} {v : Value} (h : Value.okWide Tryz.prog w r b 36 v) :
    ∃ a1 s1 s2 s3 a2 a3 a4, v = .agg #[.int .i64 a1, .string s1, .string s2, .string s3, .int .i64 a2, .int .i64 a3, .int .i64 a4] := by
  have hts : Tryz.prog.cellTypes Tryz.prog.depth 36 = some [3, 9, 9, 9, 2, 2, 3] := by kernel_rfl
  obtain ⟨cs, rfl, hsz, hc⟩ := okW_struct Tryz.underlying36 hts (by kernel_rfl) h
  obtain ⟨x0, e0, k0⟩ := hc 0 _ rfl
  obtain ⟨x1, e1, k1⟩ := hc 1 _ rfl
  obtain ⟨x2, e2, k2⟩ := hc 2 _ rfl
  obtain ⟨x3, e3, k3⟩ := hc 3 _ rfl
  obtain ⟨x4, e4, k4⟩ := hc 4 _ rfl
  obtain ⟨x5, e5, k5⟩ := hc 5 _ rfl
  obtain ⟨x6, e6, k6⟩ := hc 6 _ rfl
  obtain ⟨a1, rfl⟩ := okW_int Tryz.underlying3 k0
  obtain ⟨s1, rfl⟩ := okW_string Tryz.underlying9 k1
  obtain ⟨s2, rfl⟩ := okW_string Tryz.underlying9 k2
  obtain ⟨s3, rfl⟩ := okW_string Tryz.underlying9 k3
  obtain ⟨a2, rfl⟩ := okW_int Tryz.underlying2 k4
  obtain ⟨a3, rfl⟩ := okW_int Tryz.underlying2 k5
  obtain ⟨a4, rfl⟩ := okW_int Tryz.underlying3 k6
  refine ⟨a1, s1, s2, s3, a2, a3, a4, ?_⟩
  congr 1
  apply Array.ext'
  obtain ⟨l⟩ := cs
  simp only [List.size_toArray, List.length_cons, List.length_nil] at hsz
  match l, hsz with
  | [y0, y1, y2, y3, y4, y5, y6], _ =>
    simp at e0 e1 e2 e3 e4 e5 e6
    subst e0; subst e1; subst e2; subst e3; subst e4; subst e5; subst e6
    rfl
end NtH
