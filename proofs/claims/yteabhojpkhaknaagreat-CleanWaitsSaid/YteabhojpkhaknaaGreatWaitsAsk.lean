/- CleanWaits: the readings' arguments. -/
import Derived.Test.YteabhojpkhaknaaGreatHeads
import Derived.Test.YteabhojpkhaknaaGreatS6
namespace NtZ
open Go Nt Go.Proofs
set_option maxRecDepth 1000000
noncomputable def ansW (s : Value) (way : Int) (h : AHeap) : Bool := optE ((recN tyT fnW 1000 40).call 4 [s, .int .i64 way] h) false (fun p => isTrue p.1)
noncomputable def rowW (way : Int) (x : Nat → Int) (cap n m : Nat) : Bool := ansW (.slice (some ⟨0, 0, none⟩) m cap) way (rowH (xsOf .i64 x n))
noncomputable def rowsW (way : Int) (x : Nat → Int) (cap lo k : Nat) : Bool := Nat.rec (motive := fun _ => Bool) true (fun i ih => bcond (rowW way x cap (Nat.add lo i) (Nat.add lo i)) ih false) k
theorem rowsW_spec {way : Int} {x : Nat → Int} {cap lo : Nat} : ∀ {k : Nat}, rowsW way x cap lo k = true → ∀ n, lo ≤ n → n < lo + k → rowW way x cap n n = true
  | 0, _, n, h1, h2 => by omega
  | k + 1, h, n, h1, h2 => by
    have h' : bcond (rowW way x cap (lo + k) (lo + k)) (rowsW way x cap lo k) false = true := h
    cases hb : rowW way x cap (lo + k) (lo + k) with
    | false => rw [hb] at h'; cases h'
    | true =>
      rw [hb] at h'
      rcases Nat.lt_or_ge n (lo + k) with hn | hn
      · exact rowsW_spec (k := k) h' n h1 hn
      · have : n = lo + k := by omega
        rw [this, hb]
end NtZ
