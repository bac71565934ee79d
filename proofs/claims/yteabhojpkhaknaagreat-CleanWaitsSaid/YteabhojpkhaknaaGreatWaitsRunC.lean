/- CleanWaits, way 2: what the readings say. -/
import Derived.Test.YteabhojpkhaknaaGreatWaitsAsk
namespace NtZ
open Go Nt Go.Proofs
set_option maxRecDepth 1000000
section
variable (x : Nat → Int) (cap : Nat)
theorem run2_1 : rowsW 2 x cap 1 27 = true := by kernel_rfl
theorem run2_28 : rowsW 2 x cap 28 11 = true := by kernel_rfl
theorem run2_39 : rowsW 2 x cap 39 9 = true := by kernel_rfl
theorem run2_48 : rowsW 2 x cap 48 7 = true := by kernel_rfl
theorem run2_55 : rowsW 2 x cap 55 6 = true := by kernel_rfl
theorem run2_61 : rowsW 2 x cap 61 6 = true := by kernel_rfl
theorem run2_67 : rowsW 2 x cap 67 5 = true := by kernel_rfl
theorem run2_72 : rowsW 2 x cap 72 5 = true := by kernel_rfl
theorem run2_77 : rowsW 2 x cap 77 5 = true := by kernel_rfl
theorem run2_82 : rowsW 2 x cap 82 4 = true := by kernel_rfl
theorem run2_86 : rowsW 2 x cap 86 4 = true := by kernel_rfl
theorem run2_90 : rowsW 2 x cap 90 4 = true := by kernel_rfl
theorem run2_94 : rowsW 2 x cap 94 4 = true := by kernel_rfl
theorem run2_98 : rowsW 2 x cap 98 3 = true := by kernel_rfl
theorem runBig2 (m : Nat) : rowW 2 x cap 100 (m + 101) = true := by kernel_rfl
theorem runZero2 : ansW (.slice (some ⟨0, 0, none⟩) 0 cap) 2 bareH = true := by kernel_rfl
theorem runNil2 : ansW (.slice none 0 0) 2 bareH = true := by kernel_rfl
theorem runRow2 (n : Nat) (h1 : 1 ≤ n) (h2 : n ≤ 100) : rowW 2 x cap n n = true := by
  rcases Nat.lt_or_ge n 28 with h | h
  · exact rowsW_spec (run2_1 x cap) n (by omega) (by omega)
  rcases Nat.lt_or_ge n 39 with h | h
  · exact rowsW_spec (run2_28 x cap) n (by omega) (by omega)
  rcases Nat.lt_or_ge n 48 with h | h
  · exact rowsW_spec (run2_39 x cap) n (by omega) (by omega)
  rcases Nat.lt_or_ge n 55 with h | h
  · exact rowsW_spec (run2_48 x cap) n (by omega) (by omega)
  rcases Nat.lt_or_ge n 61 with h | h
  · exact rowsW_spec (run2_55 x cap) n (by omega) (by omega)
  rcases Nat.lt_or_ge n 67 with h | h
  · exact rowsW_spec (run2_61 x cap) n (by omega) (by omega)
  rcases Nat.lt_or_ge n 72 with h | h
  · exact rowsW_spec (run2_67 x cap) n (by omega) (by omega)
  rcases Nat.lt_or_ge n 77 with h | h
  · exact rowsW_spec (run2_72 x cap) n (by omega) (by omega)
  rcases Nat.lt_or_ge n 82 with h | h
  · exact rowsW_spec (run2_77 x cap) n (by omega) (by omega)
  rcases Nat.lt_or_ge n 86 with h | h
  · exact rowsW_spec (run2_82 x cap) n (by omega) (by omega)
  rcases Nat.lt_or_ge n 90 with h | h
  · exact rowsW_spec (run2_86 x cap) n (by omega) (by omega)
  rcases Nat.lt_or_ge n 94 with h | h
  · exact rowsW_spec (run2_90 x cap) n (by omega) (by omega)
  rcases Nat.lt_or_ge n 98 with h | h
  · exact rowsW_spec (run2_94 x cap) n (by omega) (by omega)
  exact rowsW_spec (run2_98 x cap) n (by omega) (by omega)
end
end NtZ
