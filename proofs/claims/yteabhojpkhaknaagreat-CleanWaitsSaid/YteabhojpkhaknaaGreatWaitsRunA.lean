/- CleanWaits, way 0: what the readings say. -/
import Derived.Test.YteabhojpkhaknaaGreatWaitsAsk
namespace NtZ
open Go Nt Go.Proofs
set_option maxRecDepth 1000000
section
variable (x : Nat → Int) (cap : Nat)
theorem run0_1 : rowsW 0 x cap 1 27 = true := by kernel_rfl
theorem run0_28 : rowsW 0 x cap 28 11 = true := by kernel_rfl
theorem run0_39 : rowsW 0 x cap 39 9 = true := by kernel_rfl
theorem run0_48 : rowsW 0 x cap 48 7 = true := by kernel_rfl
theorem run0_55 : rowsW 0 x cap 55 6 = true := by kernel_rfl
theorem run0_61 : rowsW 0 x cap 61 6 = true := by kernel_rfl
theorem run0_67 : rowsW 0 x cap 67 5 = true := by kernel_rfl
theorem run0_72 : rowsW 0 x cap 72 5 = true := by kernel_rfl
theorem run0_77 : rowsW 0 x cap 77 5 = true := by kernel_rfl
theorem run0_82 : rowsW 0 x cap 82 4 = true := by kernel_rfl
theorem run0_86 : rowsW 0 x cap 86 4 = true := by kernel_rfl
theorem run0_90 : rowsW 0 x cap 90 4 = true := by kernel_rfl
theorem run0_94 : rowsW 0 x cap 94 4 = true := by kernel_rfl
theorem run0_98 : rowsW 0 x cap 98 3 = true := by kernel_rfl
theorem runBig0 (m : Nat) : rowW 0 x cap 100 (m + 101) = true := by kernel_rfl
theorem runZero0 : ansW (.slice (some ⟨0, 0, none⟩) 0 cap) 0 bareH = true := by kernel_rfl
theorem runNil0 : ansW (.slice none 0 0) 0 bareH = true := by kernel_rfl
theorem runRow0 (n : Nat) (h1 : 1 ≤ n) (h2 : n ≤ 100) : rowW 0 x cap n n = true := by
  rcases Nat.lt_or_ge n 28 with h | h
  · exact rowsW_spec (run0_1 x cap) n (by omega) (by omega)
  rcases Nat.lt_or_ge n 39 with h | h
  · exact rowsW_spec (run0_28 x cap) n (by omega) (by omega)
  rcases Nat.lt_or_ge n 48 with h | h
  · exact rowsW_spec (run0_39 x cap) n (by omega) (by omega)
  rcases Nat.lt_or_ge n 55 with h | h
  · exact rowsW_spec (run0_48 x cap) n (by omega) (by omega)
  rcases Nat.lt_or_ge n 61 with h | h
  · exact rowsW_spec (run0_55 x cap) n (by omega) (by omega)
  rcases Nat.lt_or_ge n 67 with h | h
  · exact rowsW_spec (run0_61 x cap) n (by omega) (by omega)
  rcases Nat.lt_or_ge n 72 with h | h
  · exact rowsW_spec (run0_67 x cap) n (by omega) (by omega)
  rcases Nat.lt_or_ge n 77 with h | h
  · exact rowsW_spec (run0_72 x cap) n (by omega) (by omega)
  rcases Nat.lt_or_ge n 82 with h | h
  · exact rowsW_spec (run0_77 x cap) n (by omega) (by omega)
  rcases Nat.lt_or_ge n 86 with h | h
  · exact rowsW_spec (run0_82 x cap) n (by omega) (by omega)
  rcases Nat.lt_or_ge n 90 with h | h
  · exact rowsW_spec (run0_86 x cap) n (by omega) (by omega)
  rcases Nat.lt_or_ge n 94 with h | h
  · exact rowsW_spec (run0_90 x cap) n (by omega) (by omega)
  rcases Nat.lt_or_ge n 98 with h | h
  · exact rowsW_spec (run0_94 x cap) n (by omega) (by omega)
  exact rowsW_spec (run0_98 x cap) n (by omega) (by omega)
theorem runNeg (n k : Nat) : ansW (.slice (some ⟨0, 0, none⟩) n cap) (.negSucc k) bareH = true := by kernel_rfl
theorem runOver (n k : Nat) : ansW (.slice (some ⟨0, 0, none⟩) n cap) (.ofNat (k + 3)) bareH = true := by kernel_rfl
theorem runNilNeg (k : Nat) : ansW (.slice none 0 0) (.negSucc k) bareH = true := by kernel_rfl
theorem runNilOver (k : Nat) : ansW (.slice none 0 0) (.ofNat (k + 3)) bareH = true := by kernel_rfl
end
end NtZ
