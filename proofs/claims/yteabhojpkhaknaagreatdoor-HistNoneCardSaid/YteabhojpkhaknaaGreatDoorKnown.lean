/- The functions that are taken by what they are known to do. -/
import Derived.Test.YteabhojpkhaknaaGreatDoorTabOk
import Derived.Test.YteabhojpkhaknaaGreatDoorRep
namespace NtH
open Go Nt Go.Proofs
set_option maxRecDepth 1000000

theorem noEscape_run (x : Value) (w : World) : (callFunc 326 #[x]).run Tryz.prog w = .ok (.value x) w := by
  have h1 := Tryz.func326
  have h2 : (Tryz.f326.name == "runtime.NumGoroutine") = false := by kernel_rfl
  have h2' : ¬ Tryz.f326.name = "runtime.NumGoroutine" := by simpa using h2
  have h3 : Extern.findNext Tryz.f326 = none := by kernel_rfl
  have h4 : Extern.find Tryz.f326 = some Extern.AbiNoEscape.same := by kernel_rfl
  have h6 : Tryz.f326.body = none := by kernel_rfl
  simp [callFunc, h1, h2', h6, h3, h4, mark]
  rfl
theorem o326 : OrcOk Tryz.prog [0, 1, 2] 326 .noEscape := orc_noEscape noEscape_run
theorem o299 : OrcOk Tryz.prog [0, 1, 2] 299 .indexByteString := orc_indexByte fun args w => by
  have h1 := Tryz.func299
  have h2 : (Tryz.f299.name == "runtime.NumGoroutine") = false := by kernel_rfl
  have h2' : ¬ Tryz.f299.name = "runtime.NumGoroutine" := by simpa using h2
  have h3 : Extern.findNext Tryz.f299 = none := by kernel_rfl
  have h4 : Extern.find Tryz.f299 = some Extern.BytealgIndexByte.indexByte := by kernel_rfl
  have h6 : Tryz.f299.body = none := by kernel_rfl
  simp [callFunc, h1, h2', h6, h3, h4, mark]
  rfl
theorem o99 : OrcOk Tryz.prog [0, 1, 2] 99 .rept := orc_repeat (fun args w => by
    have h1 := Tryz.func99
    have h2 : (Tryz.f99.name == "runtime.NumGoroutine") = false := by kernel_rfl
    have h2' : ¬ Tryz.f99.name = "runtime.NumGoroutine" := by simpa using h2
    have h3 : Tryz.f99.body.isNone = false := by kernel_rfl
    have h3' : ¬ Tryz.f99.body = none := fun e => by rw [e] at h3; cases h3
    simp [callFunc, h1, h2', h3']) fun s c w hc hl => Tryz.strings_Repeat s c w hc hl
theorem fns : FnsOk Tryz.prog [0, 1, 2] fnT := fnT_ok o99 o299 o326
end NtH
