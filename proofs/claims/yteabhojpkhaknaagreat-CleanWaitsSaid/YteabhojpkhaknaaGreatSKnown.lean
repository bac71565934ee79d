/- The two functions that are taken by what they are known to do. -/
import Derived.Test.YteabhojpkhaknaaGreatSTabOk
import Derived.Test.YteabhojpkhaknaaGreatRep
namespace NtZ
open Go Nt Go.Proofs
set_option maxRecDepth 1000000

theorem find239 : Extern.findNext Tryz.f239 = none := by kernel_rfl
theorem noEscape_run (x : Value) (w : World) : (callFunc 239 #[x]).run Tryz.prog w = .ok (.value x) w := by
  have h1 := Tryz.func239
  have h2 : (Tryz.f239.name == "runtime.NumGoroutine") = false := by kernel_rfl
  have h2' : ¬ Tryz.f239.name = "runtime.NumGoroutine" := by simpa using h2
  have h3 : Tryz.f239.body.isNone = true := by kernel_rfl
  have h4 : Extern.find Tryz.f239 = some Extern.AbiNoEscape.same := by kernel_rfl
  have h5 : (Extern.AbiNoEscape.same #[x]).run Tryz.prog w = .ok x w := rfl
  have h6 : Tryz.f239.body = none := by kernel_rfl
  simp [callFunc, h1, h2', h6, find239, h4, mark]
  rfl
theorem o239 : OrcOk Tryz.prog [] 239 .noEscape := orc_noEscape noEscape_run
theorem o40 : OrcOk Tryz.prog [] 40 .rept := orc_repeat (fun args w => by
    have h1 := Tryz.func40
    have h2 : (Tryz.f40.name == "runtime.NumGoroutine") = false := by kernel_rfl
    have h2' : ¬ Tryz.f40.name = "runtime.NumGoroutine" := by simpa using h2
    have h3 : Tryz.f40.body.isNone = false := by kernel_rfl
    have h3' : ¬ Tryz.f40.body = none := fun e => by rw [e] at h3; cases h3
    simp [callFunc, h1, h2', h3']) fun s c w hc hl => Tryz.strings_Repeat s c w hc hl
theorem fns : FnsOk Tryz.prog [] fnT := fnT_ok o40 o239
end NtZ
