/- CleanWaits returns true, of every row of numbers and every way. -/
import Derived.Test.YteabhojpkhaknaaGreatWaitsRunA
import Derived.Test.YteabhojpkhaknaaGreatWaitsRunB
import Derived.Test.YteabhojpkhaknaaGreatWaitsRunC
namespace NtZ
open Go Nt Go.Proofs
set_option maxRecDepth 1000000

theorem ans_calls {s : Value} {way : Int} {h : AHeap} (hans : ansW s way h = true) {ρ : Ren} {s' : Value} {w : World} (hs : VR ρ s s') (hrow : ∀ b o, h.get b = some o → isRow o = true) (hh : HR ρ h w.heap) (hf : ∀ n, Free ρ h.next n) :
    Calls Tryz.prog 4 #[s', .int .i64 way] w fun e w' => e = .returned (.bool true) ∧ Kept w w' := by
  obtain ⟨h', e⟩ := true_of hans
  have hgo : goesF fnW 4 = true := by kernel_rfl
  refine (calls_of_rows tyT_ok mixed fnsW hgo (n := 39) e (args' := #[s', .int .i64 way]) (VRL.cons hs (VRL.cons (.int _ _) (VRL.nil _))) hrow hh (hf _) (fun g h => by cases h)).mono fun e w' he => ?_
  obtain ⟨v', ρ', rfl, hv, hk⟩ := he
  rw [hv.true_inv]
  exact ⟨rfl, hk⟩

theorem nil_calls {way : Int} (hans : ansW (.slice none 0 0) way bareH = true) (w : World) :
    Calls Tryz.prog 4 #[.slice none 0 0, .int .i64 way] w fun e w' => e = .returned (.bool true) ∧ Kept w w' :=
  ans_calls (ρ := rho0 ⟨0, 0, 0⟩) hans (.sliceNil _ _) (fun _ _ h => (bareH_get h).elim) (hr_bare _ _) fun _ => free0

theorem vr_at (b off len cap : Nat) (hc : cap < big) : VR (rho0 ⟨b, off, 0⟩) (.slice (some ⟨0, 0, none⟩) len cap) (.slice (some ⟨b, off, none⟩) len cap) := by
  have h : VR (rho0 ⟨b, off, 0⟩) (.slice (some ⟨0, 0, none⟩) len cap) (.slice (some ⟨b, off + 0, none⟩) len (capOf ⟨b, off, 0⟩ cap)) := VR.slice (b := 0) (L := ⟨b, off, 0⟩) 0 len cap rfl
  rw [capOf, if_pos hc] at h
  exact h

theorem bare_calls {way : Int} {b off len cap : Nat} (hc : cap < big) (hans : ansW (.slice (some ⟨0, 0, none⟩) len cap) way bareH = true) (w : World) :
    Calls Tryz.prog 4 #[.slice (some ⟨b, off, none⟩) len cap, .int .i64 way] w fun e w' => e = .returned (.bool true) ∧ Kept w w' :=
  ans_calls (ρ := rho0 ⟨b, off, 0⟩) hans (vr_at b off len cap hc) (fun _ _ h => (bareH_get h).elim) (hr_bare _ _) fun _ => free0

theorem row_calls {way : Int} {b off len cap n : Nat} {x : Nat → Int} (hc : cap < big) (hn : 0 < n) {w : World} (hx : ∀ i, i < n → w.cell? ⟨b, off + i, none⟩ = some (.int .i64 (x i))) (hans : rowW way x cap n len = true) :
    Calls Tryz.prog 4 #[.slice (some ⟨b, off, none⟩) len cap, .int .i64 way] w fun e w' => e = .returned (.bool true) ∧ Kept w w' := by
  have h0 := hx 0 hn
  unfold World.cell? at h0
  split at h0
  · rename_i cs e f hb
    have hb' : w.heap[b]? = some (.cells cs e f) := hb
    refine ans_calls (ρ := rho0 ⟨b, off, 0⟩) hans (vr_at b off len cap hc) (fun _ _ h => by rw [(rowH_get h).2]; rfl) (hr_row hb' fun i y hy => ?_) fun _ => free0
    rw [xsOf_get] at hy
    split at hy
    · rename_i hi
      cases hy
      have := hx i hi
      rw [cell_eq hb'] at this
      exact ⟨_, this, .int _ _⟩
    · cases hy
  · cases h0

theorem way_calls {way : Int} (h1 : ∀ (x : Nat → Int) (cap n : Nat), 1 ≤ n → n ≤ 100 → rowW way x cap n n = true) (h2 : ∀ (x : Nat → Int) (cap m : Nat), rowW way x cap 100 (m + 101) = true) (h3 : ∀ cap, ansW (.slice (some ⟨0, 0, none⟩) 0 cap) way bareH = true)
    {b off len cap : Nat} {x : Nat → Int} (hc : cap < big) {w : World} (hx : ∀ i, i < len → w.cell? ⟨b, off + i, none⟩ = some (.int .i64 (x i))) :
    Calls Tryz.prog 4 #[.slice (some ⟨b, off, none⟩) len cap, .int .i64 way] w fun e w' => e = .returned (.bool true) ∧ Kept w w' := by
  rcases Nat.eq_zero_or_pos len with rfl | hl
  · exact bare_calls hc (h3 cap) w
  · rcases Nat.lt_or_ge 100 len with h | h
    · obtain ⟨m, rfl⟩ : ∃ m, len = m + 101 := ⟨len - 101, by omega⟩
      exact row_calls hc (n := 100) (by omega) (fun i hi => hx i (by omega)) (h2 x cap m)
    · exact row_calls hc hl hx (h1 x cap len hl h)

/-- Of a row that lies somewhere. -/
theorem waits_calls {b off len cap : Nat} {x : Nat → Int} (hc : cap < big) {w : World} (hx : ∀ i, i < len → w.cell? ⟨b, off + i, none⟩ = some (.int .i64 (x i))) :
    ∀ way : Int, Calls Tryz.prog 4 #[.slice (some ⟨b, off, none⟩) len cap, .int .i64 way] w fun e w' => e = .returned (.bool true) ∧ Kept w w'
  | .negSucc k => bare_calls hc (runNeg cap len k) w
  | .ofNat 0 => way_calls runRow0 runBig0 runZero0 hc hx
  | .ofNat 1 => way_calls runRow1 runBig1 runZero1 hc hx
  | .ofNat 2 => way_calls runRow2 runBig2 runZero2 hc hx
  | .ofNat (k + 3) => bare_calls hc (runOver cap len k) w
/-- Of no row. -/
theorem waits_nil (w : World) : ∀ way : Int, Calls Tryz.prog 4 #[.slice none 0 0, .int .i64 way] w fun e w' => e = .returned (.bool true) ∧ Kept w w'
  | .negSucc k => nil_calls (runNilNeg k) w
  | .ofNat 0 => nil_calls runNil0 w
  | .ofNat 1 => nil_calls runNil1 w
  | .ofNat 2 => nil_calls runNil2 w
  | .ofNat (k + 3) => nil_calls (runNilOver k) w
end NtZ
