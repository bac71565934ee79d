/-
  No cell of these rows narrows 'for every input' (looked for: loops, veiled, ifaces, maps, wideKeys, modest, calm, conditions, laid).
  DERIVED. THE GIVEN ROWS OF THIS SEAT. 4 by the template 'for every input the law returns true; each argument reads behind the call as it read before'; 0 by the template 'total and deterministic' (their statements: YteabhojpkhaknaaGreatTotals.lean).
  GIVEN WITH THE SEED: the statements are not yours to turn. If you find one false, say at which input.
  Laid BY PROGRAM, IN A SANDBOX (cutbox-rows.mjs): the forced cells as the released guide's own fill.sh prints them over the translation 0c2bc501fc4c5597… (all of the seat's roots in one cut). By AI agents, Wed Nov 11 2026. No macro, syntax, notation, axiom, sorry.
-/
import Derived.Test.YteabhojpkhaknaaGreatChecked
import GoSem.Claim
import GoSem.ClaimJoined
import GoSem.ClaimMapViews
import Derived.JoinedTies
import Derived.KernelRfl
namespace Go.Proofs.YteabhojpkhaknaaGreat
/- THE CELL 'sum', in the pinned program and in every row, IS THE sha256 OF THE DUMP (.gsa) THAT YteabhojpkhaknaaGreatProg.lean LOADS. Nothing in Lean hashes anything: it is a label: what it is worth is what the hold of that sum in a sandbox is worth. -/
noncomputable def Tryz.pinned : Pinned := { name := "yteabhojpkhaknaagreat", sum := "0c2bc501fc4c55975254656de67a3284c495b8eb1c783d515fc3c6a1ef5e4ea1", checked := Tryz.checked }
namespace Rows
def none {H : Type} : Left H := { results := [], args := [] }

/-- 'nautiluslaw20.CleanAsks': WHATEVER THE INPUT: true; the input reads as it did. -/
def cleanAsksSpec : ChangeSpec := { name := "cleanAsks", fn := fun _ => fun
  | [d1, d2, d3] => { results := [.lit (.bool true)], args := [d1, d2, d3] }
  | _ => none }
def cleanAsksRow : OpenClaim := { program := "yteabhojpkhaknaagreat", sum := "0c2bc501fc4c55975254656de67a3284c495b8eb1c783d515fc3c6a1ef5e4ea1", func := "nautilus/nautiluslaw20.CleanAsks", spec := "cleanAsks", inPlace := ["internal/abi.NoEscape", "internal/bytealg.MakeNoZero"], unfollowed := true, recurses := true, apart := false }
def CleanAsksSaid : Prop := cleanAsksRow.holds Tryz.pinned (OpenSpec.ofChange cleanAsksSpec)

/-- ITS FALSE NEIGHBOUR: 'it returns false'. Refute it at one input. -/
def cleanAsksWrong : ChangeSpec := { name := "cleanAsks", fn := fun _ => fun
  | [d1, d2, d3] => { results := [.lit (.bool false)], args := [d1, d2, d3] }
  | _ => none }
def CleanAsksWrongFalsely : Prop := cleanAsksRow.holds Tryz.pinned (OpenSpec.ofChange cleanAsksWrong)

/-- 'nautiluslaw20.CleanWaits': WHATEVER THE INPUT: true; the input reads as it did. -/
def cleanWaitsSpec : ChangeSpec := { name := "cleanWaits", fn := fun _ => fun
  | [d1, d2] => { results := [.lit (.bool true)], args := [d1, d2] }
  | _ => none }
def cleanWaitsRow : OpenClaim := { program := "yteabhojpkhaknaagreat", sum := "0c2bc501fc4c55975254656de67a3284c495b8eb1c783d515fc3c6a1ef5e4ea1", func := "nautilus/nautiluslaw20.CleanWaits", spec := "cleanWaits", inPlace := ["internal/abi.NoEscape", "internal/bytealg.MakeNoZero"], unfollowed := true, recurses := true, apart := false }
def CleanWaitsSaid : Prop := cleanWaitsRow.holds Tryz.pinned (OpenSpec.ofChange cleanWaitsSpec)

/-- ITS FALSE NEIGHBOUR: 'it returns false'. Refute it at one input. -/
def cleanWaitsWrong : ChangeSpec := { name := "cleanWaits", fn := fun _ => fun
  | [d1, d2] => { results := [.lit (.bool false)], args := [d1, d2] }
  | _ => none }
def CleanWaitsWrongFalsely : Prop := cleanWaitsRow.holds Tryz.pinned (OpenSpec.ofChange cleanWaitsWrong)

/-- 'nautiluslaw20.CleanNone': WHATEVER THE INPUT: true; the input reads as it did. -/
def cleanNoneSpec : ChangeSpec := { name := "cleanNone", fn := fun _ => fun
  | [d1, d2] => { results := [.lit (.bool true)], args := [d1, d2] }
  | _ => none }
def cleanNoneRow : OpenClaim := { program := "yteabhojpkhaknaagreat", sum := "0c2bc501fc4c55975254656de67a3284c495b8eb1c783d515fc3c6a1ef5e4ea1", func := "nautilus/nautiluslaw20.CleanNone", spec := "cleanNone", inPlace := ["internal/abi.NoEscape", "internal/bytealg.MakeNoZero"], unfollowed := true, recurses := true, apart := false }
def CleanNoneSaid : Prop := cleanNoneRow.holds Tryz.pinned (OpenSpec.ofChange cleanNoneSpec)

/-- ITS FALSE NEIGHBOUR: 'it returns false'. Refute it at one input. -/
def cleanNoneWrong : ChangeSpec := { name := "cleanNone", fn := fun _ => fun
  | [d1, d2] => { results := [.lit (.bool false)], args := [d1, d2] }
  | _ => none }
def CleanNoneWrongFalsely : Prop := cleanNoneRow.holds Tryz.pinned (OpenSpec.ofChange cleanNoneWrong)

/-- 'nautiluslaw19.MountNone': WHATEVER THE INPUT: true; the input reads as it did. -/
def mountNoneSpec : ChangeSpec := { name := "mountNone", fn := fun _ => fun
  | [d] => { results := [.lit (.bool true)], args := [d] }
  | _ => none }
def mountNoneRow : OpenClaim := { program := "yteabhojpkhaknaagreat", sum := "0c2bc501fc4c55975254656de67a3284c495b8eb1c783d515fc3c6a1ef5e4ea1", func := "nautilus/nautiluslaw19.MountNone", spec := "mountNone", inPlace := ["internal/abi.NoEscape", "internal/bytealg.MakeNoZero", "internal/bytealg.IndexByteString", "slices.overlaps[int64]", "slices.overlaps[string]", "slices.overlaps[*nautilus/bag.node[string]]"], unfollowed := true, recurses := true, apart := false }
def MountNoneSaid : Prop := mountNoneRow.holds Tryz.pinned (OpenSpec.ofChange mountNoneSpec)

/-- ITS FALSE NEIGHBOUR: 'it returns false'. Refute it at one input. -/
def mountNoneWrong : ChangeSpec := { name := "mountNone", fn := fun _ => fun
  | [d] => { results := [.lit (.bool false)], args := [d] }
  | _ => none }
def MountNoneWrongFalsely : Prop := mountNoneRow.holds Tryz.pinned (OpenSpec.ofChange mountNoneWrong)

/- THE SECOND FORM. 'bulk': how many values and letters a reading holds, each counted each time it is reached (what is shared counts as often as it is met; a slice's spare places count too). A statement '..UptoSaid' is the law's where the arguments, and the package variables that the reading takes, are together of bulk at most 1048576: NARROWER than '..Said'. Prove '..Said' where nothing that the law and all that it calls make is longer than what came in: it says more and counts as full. Else prove '..UptoSaid'. A law counts once. -/
mutual
def uptoBulk {H : Type} : DataW H → Nat
  | .lit (.string bytes) => bytes.length + 1
  | .lit _ => 1
  | .nil => 1
  | .ptr d => uptoBulk d + 1
  | .slice elems spare => uptoBulkAll elems + uptoBulkAll spare + 1
  | .agg parts => uptoBulkAll parts + 1
  | .iface _ d => uptoBulk d + 1
  | .map entries => uptoBulkEntries entries + 1
  | .held _ => 1
def uptoBulkAll {H : Type} : List (DataW H) → Nat
  | [] => 0
  | d :: r => uptoBulk d + uptoBulkAll r
def uptoBulkEntries {H : Type} : List (Lit × DataW H) → Nat
  | [] => 0
  | x :: r => uptoBulkEntry x + uptoBulkEntries r
def uptoBulkEntry {H : Type} : Lit × DataW H → Nat
  | (.string bytes, d) => bytes.length + uptoBulk d + 1
  | (_, d) => uptoBulk d + 1
 end
def uptoSmall : (H : Type) → List (DataW H) → Bool := fun _ ds => decide (uptoBulkAll ds ≤ 1048576)
def OpenSpec.upto (s : _root_.Go.ChangeSpec) : _root_.Go.OpenSpec := { _root_.Go.OpenSpec.ofChange s with cond := some uptoSmall }

/-- 'nautiluslaw20.CleanAsks', WHERE WHAT IT READS IS OF BULK AT MOST 1048576: true; the input reads as it did. -/
def cleanAsksUptoRow : OpenClaim := { program := "yteabhojpkhaknaagreat", sum := "0c2bc501fc4c55975254656de67a3284c495b8eb1c783d515fc3c6a1ef5e4ea1", func := "nautilus/nautiluslaw20.CleanAsks", spec := "cleanAsks", inPlace := ["internal/abi.NoEscape", "internal/bytealg.MakeNoZero"], unfollowed := true, recurses := true, apart := false, narrowed := true }
def CleanAsksUptoSaid : Prop := cleanAsksUptoRow.holds Tryz.pinned (OpenSpec.upto cleanAsksSpec)

/-- 'nautiluslaw20.CleanWaits', WHERE WHAT IT READS IS OF BULK AT MOST 1048576: true; the input reads as it did. -/
def cleanWaitsUptoRow : OpenClaim := { program := "yteabhojpkhaknaagreat", sum := "0c2bc501fc4c55975254656de67a3284c495b8eb1c783d515fc3c6a1ef5e4ea1", func := "nautilus/nautiluslaw20.CleanWaits", spec := "cleanWaits", inPlace := ["internal/abi.NoEscape", "internal/bytealg.MakeNoZero"], unfollowed := true, recurses := true, apart := false, narrowed := true }
def CleanWaitsUptoSaid : Prop := cleanWaitsUptoRow.holds Tryz.pinned (OpenSpec.upto cleanWaitsSpec)

/-- 'nautiluslaw20.CleanNone', WHERE WHAT IT READS IS OF BULK AT MOST 1048576: true; the input reads as it did. -/
def cleanNoneUptoRow : OpenClaim := { program := "yteabhojpkhaknaagreat", sum := "0c2bc501fc4c55975254656de67a3284c495b8eb1c783d515fc3c6a1ef5e4ea1", func := "nautilus/nautiluslaw20.CleanNone", spec := "cleanNone", inPlace := ["internal/abi.NoEscape", "internal/bytealg.MakeNoZero"], unfollowed := true, recurses := true, apart := false, narrowed := true }
def CleanNoneUptoSaid : Prop := cleanNoneUptoRow.holds Tryz.pinned (OpenSpec.upto cleanNoneSpec)

/-- 'nautiluslaw19.MountNone', WHERE WHAT IT READS IS OF BULK AT MOST 1048576: true; the input reads as it did. -/
def mountNoneUptoRow : OpenClaim := { program := "yteabhojpkhaknaagreat", sum := "0c2bc501fc4c55975254656de67a3284c495b8eb1c783d515fc3c6a1ef5e4ea1", func := "nautilus/nautiluslaw19.MountNone", spec := "mountNone", inPlace := ["internal/abi.NoEscape", "internal/bytealg.MakeNoZero", "internal/bytealg.IndexByteString", "slices.overlaps[int64]", "slices.overlaps[string]", "slices.overlaps[*nautilus/bag.node[string]]"], unfollowed := true, recurses := true, apart := false, narrowed := true }
def MountNoneUptoSaid : Prop := mountNoneUptoRow.holds Tryz.pinned (OpenSpec.upto mountNoneSpec)

end Rows
end Go.Proofs.YteabhojpkhaknaaGreat
