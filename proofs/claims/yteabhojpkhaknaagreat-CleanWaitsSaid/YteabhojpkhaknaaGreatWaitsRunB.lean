/- CleanWaits, way 1: what the readings say. -/
import Derived.Test.YteabhojpkhaknaaGreatWaitsAsk
namespace NtZ
open Go Nt Go.Proofs
set_option maxRecDepth 1000000
section
variable (x : Nat → Int) (cap : Nat)
theorem run1_1 : rowsW 1 x cap 1 27 = true := by kernel_rfl
theorem run1_28 : rowsW 1 x cap 28 11 = true := by kernel_rfl
theorem run1_39 : rowsW 1 x cap 39 9 = true := by kernel_rfl
theorem run1_48 : rowsW 1 x cap 48 7 = true := by kernel_rfl
theorem run1_55 : rowsW 1 x cap 55 6 = true := by kernel_rfl
theorem run1_61 : rowsW 1 x cap 61 6 = true := by kernel_rfl
theorem run1_67 : rowsW 1 x cap 67 5 = true := by kernel_rfl
theorem run1_72 : rowsW 1 x cap 72 5 = true := by kernel_rfl
theorem run1_77 : rowsW 1 x cap 77 5 = true := by kernel_rfl
theorem run1_82 : rowsW 1 x cap 82 4 = true := by kernel_rfl
theorem run1_86 : rowsW 1 x cap 86 4 = true := by kernel_rfl
theorem run1_90 : rowsW 1 x cap 90 4 = true := by kernel_rfl
theorem run1_94 : rowsW 1 x cap 94 4 = true := by kernel_rfl
theorem run1_98 : rowsW 1 x cap 98 3 = true := by kernel_rfl
theorem runBig1 (m : Nat) : rowW 1 x cap 100 (m + 101) = true := by kernel_rfl
theorem runZero1 : ansW (.slice (some ⟨0, 0, none⟩) 0 cap) 1 bareH = true := by kernel_rfl
theorem runNil1 : ansW (.slice none 0 0) 1 bareH = true := by kernel_rfl
theorem runRow1 (n : Nat) (h1 : 1 ≤ n) (h2 : n ≤ 100) : rowW 1 x cap n n = true := by
  rcases Nat.lt_or_ge n 28 with h | h
  · exact rowsW_spec (run1_1 x cap) n (by omega) (by omega)
  rcases Nat.lt_or_ge n 39 with h | h
  · exact rowsW_spec (run1_28 x cap) n (by omega) (by omega)
  rcases Nat.lt_or_ge n 48 with h | h
  · exact rowsW_spec (run1_39 x cap) n (by omega) (by omega)
  rcases Nat.lt_or_ge n 55 with h | h
  · exact rowsW_spec (run1_48 x cap) n (by omega) (by omega)
  rcases Nat.lt_or_ge n 61 with h | h
  · exact rowsW_spec (run1_55 x cap) n (by omega) (by omega)
  rcases Nat.lt_or_ge n 67 with h | h
  · exact rowsW_spec (run1_61 x cap) n (by omega) (by omega)
  rcases Nat.lt_or_ge n 72 with h | h
  · exact rowsW_spec (run1_67 x cap) n (by omega) (by omega)
  rcases Nat.lt_or_ge n 77 with h | h
  · exact rowsW_spec (run1_72 x cap) n (by omega) (by omega)
  rcases Nat.lt_or_ge n 82 with h | h
  · exact rowsW_spec (run1_77 x cap) n (by omega) (by omega)
  rcases Nat.lt_or_ge n 86 with h | h
  · exact rowsW_spec (run1_82 x cap) n (by omega) (by omega)
  rcases Nat.lt_or_ge n 90 with h | h
  · exact rowsW_spec (run1_86 x cap) n (by omega) (by omega)
  rcases Nat.lt_or_ge n 94 with h | h
  · exact rowsW_spec (run1_90 x cap) n (by omega) (by omega)
  rcases Nat.lt_or_ge n 98 with h | h
  · exact rowsW_spec (run1_94 x cap) n (by omega) (by omega)
  exact rowsW_spec (run1_98 x cap) n (by omega) (by omega)
end
end NtZ
