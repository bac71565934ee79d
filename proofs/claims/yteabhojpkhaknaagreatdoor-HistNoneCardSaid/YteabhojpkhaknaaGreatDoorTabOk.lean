import Derived.Test.YteabhojpkhaknaaGreatDoorTab
import Derived.Test.YteabhojpkhaknaaGreatDoorR6
import Derived.Test.YteabhojpkhaknaaGreatDoorChecked
namespace NtH
open Go Nt
set_option maxRecDepth 1000000
theorem tok2 : TyOk Go.Proofs.Tryz.prog 2 ty2 := ⟨Go.Proofs.Tryz.underlying2, ⟨Go.Proofs.Tryz.t2, by kernel_rfl, rfl, rfl, rfl⟩, fun h => Bool.noConfusion h, by kernel_rfl, by kernel_rfl, by kernel_rfl⟩
theorem tok3 : TyOk Go.Proofs.Tryz.prog 3 ty3 := ⟨Go.Proofs.Tryz.underlying3, ⟨Go.Proofs.Tryz.t3, by kernel_rfl, rfl, rfl, rfl⟩, fun h => Bool.noConfusion h, by kernel_rfl, by kernel_rfl, by kernel_rfl⟩
theorem tok4 : TyOk Go.Proofs.Tryz.prog 4 ty4 := ⟨Go.Proofs.Tryz.underlying4, ⟨Go.Proofs.Tryz.t4, by kernel_rfl, rfl, rfl, rfl⟩, fun h => Bool.noConfusion h, by kernel_rfl, by kernel_rfl, by kernel_rfl⟩
theorem tok5 : TyOk Go.Proofs.Tryz.prog 5 ty5 := ⟨Go.Proofs.Tryz.underlying5, ⟨Go.Proofs.Tryz.t5, by kernel_rfl, rfl, rfl, rfl⟩, fun h => Bool.noConfusion h, by kernel_rfl, by kernel_rfl, by kernel_rfl⟩
theorem tok9 : TyOk Go.Proofs.Tryz.prog 9 ty9 := ⟨Go.Proofs.Tryz.underlying9, ⟨Go.Proofs.Tryz.t9, by kernel_rfl, rfl, rfl, rfl⟩, fun h => Bool.noConfusion h, by kernel_rfl, by kernel_rfl, by kernel_rfl⟩
theorem tok21 : TyOk Go.Proofs.Tryz.prog 21 ty21 := ⟨Go.Proofs.Tryz.underlying21, ⟨Go.Proofs.Tryz.t21, by kernel_rfl, rfl, rfl, rfl⟩, fun h => Bool.noConfusion h, by kernel_rfl, by kernel_rfl, by kernel_rfl⟩
theorem tok22 : TyOk Go.Proofs.Tryz.prog 22 ty22 := ⟨Go.Proofs.Tryz.underlying22, ⟨Go.Proofs.Tryz.t22, by kernel_rfl, rfl, rfl, rfl⟩, fun h => Bool.noConfusion h, by kernel_rfl, by kernel_rfl, by kernel_rfl⟩
theorem tok25 : TyOk Go.Proofs.Tryz.prog 25 ty25 := ⟨Go.Proofs.Tryz.underlying25, ⟨Go.Proofs.Tryz.t25, by kernel_rfl, rfl, rfl, rfl⟩, fun h => Bool.noConfusion h, by kernel_rfl, by kernel_rfl, by kernel_rfl⟩
theorem tok26 : TyOk Go.Proofs.Tryz.prog 26 ty26 := ⟨Go.Proofs.Tryz.underlying26, ⟨Go.Proofs.Tryz.t26, by kernel_rfl, rfl, rfl, rfl⟩, fun h => Bool.noConfusion h, by kernel_rfl, by kernel_rfl, by kernel_rfl⟩
theorem tok27 : TyOk Go.Proofs.Tryz.prog 27 ty27 := ⟨Go.Proofs.Tryz.underlying27, ⟨Go.Proofs.Tryz.t27, by kernel_rfl, rfl, rfl, rfl⟩, fun h => Bool.noConfusion h, by kernel_rfl, by kernel_rfl, by kernel_rfl⟩
theorem tok28 : TyOk Go.Proofs.Tryz.prog 28 ty28 := ⟨Go.Proofs.Tryz.underlying28, ⟨Go.Proofs.Tryz.t28, by kernel_rfl, rfl, rfl, rfl⟩, fun h => Bool.noConfusion h, by kernel_rfl, by kernel_rfl, by kernel_rfl⟩
theorem tok30 : TyOk Go.Proofs.Tryz.prog 30 ty30 := ⟨Go.Proofs.Tryz.underlying30, ⟨Go.Proofs.Tryz.t30, by kernel_rfl, rfl, rfl, rfl⟩, fun _ => ⟨by kernel_rfl, by kernel_rfl⟩, by kernel_rfl, by kernel_rfl, by kernel_rfl⟩
theorem tok32 : TyOk Go.Proofs.Tryz.prog 32 ty32 := ⟨Go.Proofs.Tryz.underlying32, ⟨Go.Proofs.Tryz.t32, by kernel_rfl, rfl, rfl, rfl⟩, fun _ => ⟨by kernel_rfl, by kernel_rfl⟩, by kernel_rfl, by kernel_rfl, by kernel_rfl⟩
theorem tok36 : TyOk Go.Proofs.Tryz.prog 36 ty36 := ⟨Go.Proofs.Tryz.underlying36, ⟨Go.Proofs.Tryz.t36, by kernel_rfl, rfl, rfl, rfl⟩, fun _ => ⟨by kernel_rfl, by kernel_rfl⟩, by kernel_rfl, by kernel_rfl, by kernel_rfl⟩
theorem tok37 : TyOk Go.Proofs.Tryz.prog 37 ty37 := ⟨Go.Proofs.Tryz.underlying37, ⟨Go.Proofs.Tryz.t37, by kernel_rfl, rfl, rfl, rfl⟩, fun h => Bool.noConfusion h, by kernel_rfl, by kernel_rfl, by kernel_rfl⟩
theorem tok39 : TyOk Go.Proofs.Tryz.prog 39 ty39 := ⟨Go.Proofs.Tryz.underlying39, ⟨Go.Proofs.Tryz.t39, by kernel_rfl, rfl, rfl, rfl⟩, fun _ => ⟨by kernel_rfl, by kernel_rfl⟩, by kernel_rfl, by kernel_rfl, by kernel_rfl⟩
theorem tok41 : TyOk Go.Proofs.Tryz.prog 41 ty41 := ⟨Go.Proofs.Tryz.underlying41, ⟨Go.Proofs.Tryz.t41, by kernel_rfl, rfl, rfl, rfl⟩, fun _ => ⟨by kernel_rfl, by kernel_rfl⟩, by kernel_rfl, by kernel_rfl, by kernel_rfl⟩
theorem tok43 : TyOk Go.Proofs.Tryz.prog 43 ty43 := ⟨Go.Proofs.Tryz.underlying43, ⟨Go.Proofs.Tryz.t43, by kernel_rfl, rfl, rfl, rfl⟩, fun h => Bool.noConfusion h, by kernel_rfl, by kernel_rfl, by kernel_rfl⟩
theorem tok45 : TyOk Go.Proofs.Tryz.prog 45 ty45 := ⟨Go.Proofs.Tryz.underlying45, ⟨Go.Proofs.Tryz.t45, by kernel_rfl, rfl, rfl, rfl⟩, fun h => Bool.noConfusion h, by kernel_rfl, by kernel_rfl, by kernel_rfl⟩
theorem tok48 : TyOk Go.Proofs.Tryz.prog 48 ty48 := ⟨Go.Proofs.Tryz.underlying48, ⟨Go.Proofs.Tryz.t48, by kernel_rfl, rfl, rfl, rfl⟩, fun h => Bool.noConfusion h, by kernel_rfl, by kernel_rfl, by kernel_rfl⟩
theorem tok54 : TyOk Go.Proofs.Tryz.prog 54 ty54 := ⟨Go.Proofs.Tryz.underlying54, ⟨Go.Proofs.Tryz.t54, by kernel_rfl, rfl, rfl, rfl⟩, fun _ => ⟨by kernel_rfl, by kernel_rfl⟩, by kernel_rfl, by kernel_rfl, by kernel_rfl⟩
theorem tok55 : TyOk Go.Proofs.Tryz.prog 55 ty55 := ⟨Go.Proofs.Tryz.underlying55, ⟨Go.Proofs.Tryz.t55, by kernel_rfl, rfl, rfl, rfl⟩, fun h => Bool.noConfusion h, by kernel_rfl, by kernel_rfl, by kernel_rfl⟩
theorem tok64 : TyOk Go.Proofs.Tryz.prog 64 ty64 := ⟨Go.Proofs.Tryz.underlying64, ⟨Go.Proofs.Tryz.t64, by kernel_rfl, rfl, rfl, rfl⟩, fun h => Bool.noConfusion h, by kernel_rfl, by kernel_rfl, by kernel_rfl⟩
theorem tok65 : TyOk Go.Proofs.Tryz.prog 65 ty65 := ⟨Go.Proofs.Tryz.underlying65, ⟨Go.Proofs.Tryz.t65, by kernel_rfl, rfl, rfl, rfl⟩, fun h => Bool.noConfusion h, by kernel_rfl, by kernel_rfl, by kernel_rfl⟩
theorem tok72 : TyOk Go.Proofs.Tryz.prog 72 ty72 := ⟨Go.Proofs.Tryz.underlying72, ⟨Go.Proofs.Tryz.t72, by kernel_rfl, rfl, rfl, rfl⟩, fun h => Bool.noConfusion h, by kernel_rfl, by kernel_rfl, by kernel_rfl⟩
theorem tok86 : TyOk Go.Proofs.Tryz.prog 86 ty86 := ⟨Go.Proofs.Tryz.underlying86, ⟨Go.Proofs.Tryz.t86, by kernel_rfl, rfl, rfl, rfl⟩, fun h => Bool.noConfusion h, by kernel_rfl, by kernel_rfl, by kernel_rfl⟩
theorem tok95 : TyOk Go.Proofs.Tryz.prog 95 ty95 := ⟨Go.Proofs.Tryz.underlying95, ⟨Go.Proofs.Tryz.t95, by kernel_rfl, rfl, rfl, rfl⟩, fun h => Bool.noConfusion h, by kernel_rfl, by kernel_rfl, by kernel_rfl⟩
theorem tok96 : TyOk Go.Proofs.Tryz.prog 96 ty96 := ⟨Go.Proofs.Tryz.underlying96, ⟨Go.Proofs.Tryz.t96, by kernel_rfl, rfl, rfl, rfl⟩, fun h => Bool.noConfusion h, by kernel_rfl, by kernel_rfl, by kernel_rfl⟩
theorem tok97 : TyOk Go.Proofs.Tryz.prog 97 ty97 := ⟨Go.Proofs.Tryz.underlying97, ⟨Go.Proofs.Tryz.t97, by kernel_rfl, rfl, rfl, rfl⟩, fun h => Bool.noConfusion h, by kernel_rfl, by kernel_rfl, by kernel_rfl⟩
theorem tok102 : TyOk Go.Proofs.Tryz.prog 102 ty102 := ⟨Go.Proofs.Tryz.underlying102, ⟨Go.Proofs.Tryz.t102, by kernel_rfl, rfl, rfl, rfl⟩, fun h => Bool.noConfusion h, by kernel_rfl, by kernel_rfl, by kernel_rfl⟩
theorem tok104 : TyOk Go.Proofs.Tryz.prog 104 ty104 := ⟨Go.Proofs.Tryz.underlying104, ⟨Go.Proofs.Tryz.t104, by kernel_rfl, rfl, rfl, rfl⟩, fun _ => ⟨by kernel_rfl, by kernel_rfl⟩, by kernel_rfl, by kernel_rfl, by kernel_rfl⟩
theorem tok108 : TyOk Go.Proofs.Tryz.prog 108 ty108 := ⟨Go.Proofs.Tryz.underlying108, ⟨Go.Proofs.Tryz.t108, by kernel_rfl, rfl, rfl, rfl⟩, fun h => Bool.noConfusion h, by kernel_rfl, by kernel_rfl, by kernel_rfl⟩
theorem tok116 : TyOk Go.Proofs.Tryz.prog 116 ty116 := ⟨Go.Proofs.Tryz.underlying116, ⟨Go.Proofs.Tryz.t116, by kernel_rfl, rfl, rfl, rfl⟩, fun h => Bool.noConfusion h, by kernel_rfl, by kernel_rfl, by kernel_rfl⟩
theorem tok120 : TyOk Go.Proofs.Tryz.prog 120 ty120 := ⟨Go.Proofs.Tryz.underlying120, ⟨Go.Proofs.Tryz.t120, by kernel_rfl, rfl, rfl, rfl⟩, fun _ => ⟨by kernel_rfl, by kernel_rfl⟩, by kernel_rfl, by kernel_rfl, by kernel_rfl⟩
theorem tok132 : TyOk Go.Proofs.Tryz.prog 132 ty132 := ⟨Go.Proofs.Tryz.underlying132, ⟨Go.Proofs.Tryz.t132, by kernel_rfl, rfl, rfl, rfl⟩, fun _ => ⟨by kernel_rfl, by kernel_rfl⟩, by kernel_rfl, by kernel_rfl, by kernel_rfl⟩
theorem tok133 : TyOk Go.Proofs.Tryz.prog 133 ty133 := ⟨Go.Proofs.Tryz.underlying133, ⟨Go.Proofs.Tryz.t133, by kernel_rfl, rfl, rfl, rfl⟩, fun h => Bool.noConfusion h, by kernel_rfl, by kernel_rfl, by kernel_rfl⟩
theorem tok136 : TyOk Go.Proofs.Tryz.prog 136 ty136 := ⟨Go.Proofs.Tryz.underlying136, ⟨Go.Proofs.Tryz.t136, by kernel_rfl, rfl, rfl, rfl⟩, fun _ => ⟨by kernel_rfl, by kernel_rfl⟩, by kernel_rfl, by kernel_rfl, by kernel_rfl⟩
theorem tok140 : TyOk Go.Proofs.Tryz.prog 140 ty140 := ⟨Go.Proofs.Tryz.underlying140, ⟨Go.Proofs.Tryz.t140, by kernel_rfl, rfl, rfl, rfl⟩, fun h => Bool.noConfusion h, by kernel_rfl, by kernel_rfl, by kernel_rfl⟩
theorem tok141 : TyOk Go.Proofs.Tryz.prog 141 ty141 := ⟨Go.Proofs.Tryz.underlying141, ⟨Go.Proofs.Tryz.t141, by kernel_rfl, rfl, rfl, rfl⟩, fun h => Bool.noConfusion h, by kernel_rfl, by kernel_rfl, by kernel_rfl⟩
theorem tok142 : TyOk Go.Proofs.Tryz.prog 142 ty142 := ⟨Go.Proofs.Tryz.underlying142, ⟨Go.Proofs.Tryz.t142, by kernel_rfl, rfl, rfl, rfl⟩, fun h => Bool.noConfusion h, by kernel_rfl, by kernel_rfl, by kernel_rfl⟩
theorem tok143 : TyOk Go.Proofs.Tryz.prog 143 ty143 := ⟨Go.Proofs.Tryz.underlying143, ⟨Go.Proofs.Tryz.t143, by kernel_rfl, rfl, rfl, rfl⟩, fun h => Bool.noConfusion h, by kernel_rfl, by kernel_rfl, by kernel_rfl⟩
theorem tok144 : TyOk Go.Proofs.Tryz.prog 144 ty144 := ⟨Go.Proofs.Tryz.underlying144, ⟨Go.Proofs.Tryz.t144, by kernel_rfl, rfl, rfl, rfl⟩, fun h => Bool.noConfusion h, by kernel_rfl, by kernel_rfl, by kernel_rfl⟩
theorem tok146 : TyOk Go.Proofs.Tryz.prog 146 ty146 := ⟨Go.Proofs.Tryz.underlying146, ⟨Go.Proofs.Tryz.t146, by kernel_rfl, rfl, rfl, rfl⟩, fun _ => ⟨by kernel_rfl, by kernel_rfl⟩, by kernel_rfl, by kernel_rfl, by kernel_rfl⟩
theorem tok147 : TyOk Go.Proofs.Tryz.prog 147 ty147 := ⟨Go.Proofs.Tryz.underlying147, ⟨Go.Proofs.Tryz.t147, by kernel_rfl, rfl, rfl, rfl⟩, fun h => Bool.noConfusion h, by kernel_rfl, by kernel_rfl, by kernel_rfl⟩
theorem tok149 : TyOk Go.Proofs.Tryz.prog 149 ty149 := ⟨Go.Proofs.Tryz.underlying149, ⟨Go.Proofs.Tryz.t149, by kernel_rfl, rfl, rfl, rfl⟩, fun _ => ⟨by kernel_rfl, by kernel_rfl⟩, by kernel_rfl, by kernel_rfl, by kernel_rfl⟩
theorem tok159 : TyOk Go.Proofs.Tryz.prog 159 ty159 := ⟨Go.Proofs.Tryz.underlying159, ⟨Go.Proofs.Tryz.t159, by kernel_rfl, rfl, rfl, rfl⟩, fun h => Bool.noConfusion h, by kernel_rfl, by kernel_rfl, by kernel_rfl⟩
theorem tok165 : TyOk Go.Proofs.Tryz.prog 165 ty165 := ⟨Go.Proofs.Tryz.underlying165, ⟨Go.Proofs.Tryz.t165, by kernel_rfl, rfl, rfl, rfl⟩, fun _ => ⟨by kernel_rfl, by kernel_rfl⟩, by kernel_rfl, by kernel_rfl, by kernel_rfl⟩
theorem tok171 : TyOk Go.Proofs.Tryz.prog 171 ty171 := ⟨Go.Proofs.Tryz.underlying171, ⟨Go.Proofs.Tryz.t171, by kernel_rfl, rfl, rfl, rfl⟩, fun h => Bool.noConfusion h, by kernel_rfl, by kernel_rfl, by kernel_rfl⟩
theorem tok175 : TyOk Go.Proofs.Tryz.prog 175 ty175 := ⟨Go.Proofs.Tryz.underlying175, ⟨Go.Proofs.Tryz.t175, by kernel_rfl, rfl, rfl, rfl⟩, fun h => Bool.noConfusion h, by kernel_rfl, by kernel_rfl, by kernel_rfl⟩
theorem tok177 : TyOk Go.Proofs.Tryz.prog 177 ty177 := ⟨Go.Proofs.Tryz.underlying177, ⟨Go.Proofs.Tryz.t177, by kernel_rfl, rfl, rfl, rfl⟩, fun _ => ⟨by kernel_rfl, by kernel_rfl⟩, by kernel_rfl, by kernel_rfl, by kernel_rfl⟩
theorem tok179 : TyOk Go.Proofs.Tryz.prog 179 ty179 := ⟨Go.Proofs.Tryz.underlying179, ⟨Go.Proofs.Tryz.t179, by kernel_rfl, rfl, rfl, rfl⟩, fun _ => ⟨by kernel_rfl, by kernel_rfl⟩, by kernel_rfl, by kernel_rfl, by kernel_rfl⟩
theorem tok187 : TyOk Go.Proofs.Tryz.prog 187 ty187 := ⟨Go.Proofs.Tryz.underlying187, ⟨Go.Proofs.Tryz.t187, by kernel_rfl, rfl, rfl, rfl⟩, fun _ => ⟨by kernel_rfl, by kernel_rfl⟩, by kernel_rfl, by kernel_rfl, by kernel_rfl⟩
theorem tok197 : TyOk Go.Proofs.Tryz.prog 197 ty197 := ⟨Go.Proofs.Tryz.underlying197, ⟨Go.Proofs.Tryz.t197, by kernel_rfl, rfl, rfl, rfl⟩, fun h => Bool.noConfusion h, by kernel_rfl, by kernel_rfl, by kernel_rfl⟩
theorem tok199 : TyOk Go.Proofs.Tryz.prog 199 ty199 := ⟨Go.Proofs.Tryz.underlying199, ⟨Go.Proofs.Tryz.t199, by kernel_rfl, rfl, rfl, rfl⟩, fun _ => ⟨by kernel_rfl, by kernel_rfl⟩, by kernel_rfl, by kernel_rfl, by kernel_rfl⟩
theorem tok204 : TyOk Go.Proofs.Tryz.prog 204 ty204 := ⟨Go.Proofs.Tryz.underlying204, ⟨Go.Proofs.Tryz.t204, by kernel_rfl, rfl, rfl, rfl⟩, fun _ => ⟨by kernel_rfl, by kernel_rfl⟩, by kernel_rfl, by kernel_rfl, by kernel_rfl⟩
theorem tok212 : TyOk Go.Proofs.Tryz.prog 212 ty212 := ⟨Go.Proofs.Tryz.underlying212, ⟨Go.Proofs.Tryz.t212, by kernel_rfl, rfl, rfl, rfl⟩, fun _ => ⟨by kernel_rfl, by kernel_rfl⟩, by kernel_rfl, by kernel_rfl, by kernel_rfl⟩
theorem tok222 : TyOk Go.Proofs.Tryz.prog 222 ty222 := ⟨Go.Proofs.Tryz.underlying222, ⟨Go.Proofs.Tryz.t222, by kernel_rfl, rfl, rfl, rfl⟩, fun h => Bool.noConfusion h, by kernel_rfl, by kernel_rfl, by kernel_rfl⟩
theorem tok226 : TyOk Go.Proofs.Tryz.prog 226 ty226 := ⟨Go.Proofs.Tryz.underlying226, ⟨Go.Proofs.Tryz.t226, by kernel_rfl, rfl, rfl, rfl⟩, fun _ => ⟨by kernel_rfl, by kernel_rfl⟩, by kernel_rfl, by kernel_rfl, by kernel_rfl⟩
theorem tok229 : TyOk Go.Proofs.Tryz.prog 229 ty229 := ⟨Go.Proofs.Tryz.underlying229, ⟨Go.Proofs.Tryz.t229, by kernel_rfl, rfl, rfl, rfl⟩, fun h => Bool.noConfusion h, by kernel_rfl, by kernel_rfl, by kernel_rfl⟩
theorem tok240 : TyOk Go.Proofs.Tryz.prog 240 ty240 := ⟨Go.Proofs.Tryz.underlying240, ⟨Go.Proofs.Tryz.t240, by kernel_rfl, rfl, rfl, rfl⟩, fun h => Bool.noConfusion h, by kernel_rfl, by kernel_rfl, by kernel_rfl⟩
theorem tok242 : TyOk Go.Proofs.Tryz.prog 242 ty242 := ⟨Go.Proofs.Tryz.underlying242, ⟨Go.Proofs.Tryz.t242, by kernel_rfl, rfl, rfl, rfl⟩, fun h => Bool.noConfusion h, by kernel_rfl, by kernel_rfl, by kernel_rfl⟩
theorem tok254 : TyOk Go.Proofs.Tryz.prog 254 ty254 := ⟨Go.Proofs.Tryz.underlying254, ⟨Go.Proofs.Tryz.t254, by kernel_rfl, rfl, rfl, rfl⟩, fun h => Bool.noConfusion h, by kernel_rfl, by kernel_rfl, by kernel_rfl⟩
theorem tok256 : TyOk Go.Proofs.Tryz.prog 256 ty256 := ⟨Go.Proofs.Tryz.underlying256, ⟨Go.Proofs.Tryz.t256, by kernel_rfl, rfl, rfl, rfl⟩, fun _ => ⟨by kernel_rfl, by kernel_rfl⟩, by kernel_rfl, by kernel_rfl, by kernel_rfl⟩
theorem tok259 : TyOk Go.Proofs.Tryz.prog 259 ty259 := ⟨Go.Proofs.Tryz.underlying259, ⟨Go.Proofs.Tryz.t259, by kernel_rfl, rfl, rfl, rfl⟩, fun h => Bool.noConfusion h, by kernel_rfl, by kernel_rfl, by kernel_rfl⟩
theorem tok261 : TyOk Go.Proofs.Tryz.prog 261 ty261 := ⟨Go.Proofs.Tryz.underlying261, ⟨Go.Proofs.Tryz.t261, by kernel_rfl, rfl, rfl, rfl⟩, fun _ => ⟨by kernel_rfl, by kernel_rfl⟩, by kernel_rfl, by kernel_rfl, by kernel_rfl⟩
theorem tok273 : TyOk Go.Proofs.Tryz.prog 273 ty273 := ⟨Go.Proofs.Tryz.underlying273, ⟨Go.Proofs.Tryz.t273, by kernel_rfl, rfl, rfl, rfl⟩, fun _ => ⟨by kernel_rfl, by kernel_rfl⟩, by kernel_rfl, by kernel_rfl, by kernel_rfl⟩
theorem tok275 : TyOk Go.Proofs.Tryz.prog 275 ty275 := ⟨Go.Proofs.Tryz.underlying275, ⟨Go.Proofs.Tryz.t275, by kernel_rfl, rfl, rfl, rfl⟩, fun _ => ⟨by kernel_rfl, by kernel_rfl⟩, by kernel_rfl, by kernel_rfl, by kernel_rfl⟩
theorem tok277 : TyOk Go.Proofs.Tryz.prog 277 ty277 := ⟨Go.Proofs.Tryz.underlying277, ⟨Go.Proofs.Tryz.t277, by kernel_rfl, rfl, rfl, rfl⟩, fun h => Bool.noConfusion h, by kernel_rfl, by kernel_rfl, by kernel_rfl⟩
theorem tok282 : TyOk Go.Proofs.Tryz.prog 282 ty282 := ⟨Go.Proofs.Tryz.underlying282, ⟨Go.Proofs.Tryz.t282, by kernel_rfl, rfl, rfl, rfl⟩, fun _ => ⟨by kernel_rfl, by kernel_rfl⟩, by kernel_rfl, by kernel_rfl, by kernel_rfl⟩
theorem tok325 : TyOk Go.Proofs.Tryz.prog 325 ty325 := ⟨Go.Proofs.Tryz.underlying325, ⟨Go.Proofs.Tryz.t325, by kernel_rfl, rfl, rfl, rfl⟩, fun h => Bool.noConfusion h, by kernel_rfl, by kernel_rfl, by kernel_rfl⟩
theorem tok329 : TyOk Go.Proofs.Tryz.prog 329 ty329 := ⟨Go.Proofs.Tryz.underlying329, ⟨Go.Proofs.Tryz.t329, by kernel_rfl, rfl, rfl, rfl⟩, fun h => Bool.noConfusion h, by kernel_rfl, by kernel_rfl, by kernel_rfl⟩
theorem tok340 : TyOk Go.Proofs.Tryz.prog 340 ty340 := ⟨Go.Proofs.Tryz.underlying340, ⟨Go.Proofs.Tryz.t340, by kernel_rfl, rfl, rfl, rfl⟩, fun h => Bool.noConfusion h, by kernel_rfl, by kernel_rfl, by kernel_rfl⟩
theorem tok343 : TyOk Go.Proofs.Tryz.prog 343 ty343 := ⟨Go.Proofs.Tryz.underlying343, ⟨Go.Proofs.Tryz.t343, by kernel_rfl, rfl, rfl, rfl⟩, fun h => Bool.noConfusion h, by kernel_rfl, by kernel_rfl, by kernel_rfl⟩
theorem tok358 : TyOk Go.Proofs.Tryz.prog 358 ty358 := ⟨Go.Proofs.Tryz.underlying358, ⟨Go.Proofs.Tryz.t358, by kernel_rfl, rfl, rfl, rfl⟩, fun h => Bool.noConfusion h, by kernel_rfl, by kernel_rfl, by kernel_rfl⟩
theorem tok360 : TyOk Go.Proofs.Tryz.prog 360 ty360 := ⟨Go.Proofs.Tryz.underlying360, ⟨Go.Proofs.Tryz.t360, by kernel_rfl, rfl, rfl, rfl⟩, fun _ => ⟨by kernel_rfl, by kernel_rfl⟩, by kernel_rfl, by kernel_rfl, by kernel_rfl⟩
theorem tok370 : TyOk Go.Proofs.Tryz.prog 370 ty370 := ⟨Go.Proofs.Tryz.underlying370, ⟨Go.Proofs.Tryz.t370, by kernel_rfl, rfl, rfl, rfl⟩, fun h => Bool.noConfusion h, by kernel_rfl, by kernel_rfl, by kernel_rfl⟩
theorem tok431 : TyOk Go.Proofs.Tryz.prog 431 ty431 := ⟨Go.Proofs.Tryz.underlying431, ⟨Go.Proofs.Tryz.t431, by kernel_rfl, rfl, rfl, rfl⟩, fun h => Bool.noConfusion h, by kernel_rfl, by kernel_rfl, by kernel_rfl⟩
theorem tok437 : TyOk Go.Proofs.Tryz.prog 437 ty437 := ⟨Go.Proofs.Tryz.underlying437, ⟨Go.Proofs.Tryz.t437, by kernel_rfl, rfl, rfl, rfl⟩, fun h => Bool.noConfusion h, by kernel_rfl, by kernel_rfl, by kernel_rfl⟩
theorem tok452 : TyOk Go.Proofs.Tryz.prog 452 ty452 := ⟨Go.Proofs.Tryz.underlying452, ⟨Go.Proofs.Tryz.t452, by kernel_rfl, rfl, rfl, rfl⟩, fun h => Bool.noConfusion h, by kernel_rfl, by kernel_rfl, by kernel_rfl⟩
theorem tok481 : TyOk Go.Proofs.Tryz.prog 481 ty481 := ⟨Go.Proofs.Tryz.underlying481, ⟨Go.Proofs.Tryz.t481, by kernel_rfl, rfl, rfl, rfl⟩, fun h => Bool.noConfusion h, by kernel_rfl, by kernel_rfl, by kernel_rfl⟩
theorem tyT_entries : tyT.entries = [(3, ty3), (95, ty95), (159, ty159), (143, ty143), (175, ty175), (431, ty431), (39, ty39), (199, ty199), (55, ty55), (343, ty343), (259, ty259), (147, ty147), (275, ty275), (179, ty179), (27, ty27), (43, ty43), (171, ty171), (187, ty187), (5, ty5), (9, ty9), (65, ty65), (97, ty97), (481, ty481), (273, ty273), (177, ty177), (25, ty25), (41, ty41), (329, ty329), (21, ty21), (37, ty37), (133, ty133), (261, ty261), (197, ty197), (325, ty325), (165, ty165), (229, ty229), (149, ty149), (277, ty277), (437, ty437), (45, ty45), (141, ty141), (2, ty2), (4, ty4), (32, ty32), (64, ty64), (256, ty256), (96, ty96), (48, ty48), (144, ty144), (240, ty240), (72, ty72), (136, ty136), (104, ty104), (360, ty360), (120, ty120), (36, ty36), (132, ty132), (452, ty452), (212, ty212), (340, ty340), (116, ty116), (28, ty28), (140, ty140), (204, ty204), (108, ty108), (226, ty226), (146, ty146), (242, ty242), (370, ty370), (26, ty26), (282, ty282), (22, ty22), (102, ty102), (358, ty358), (54, ty54), (86, ty86), (30, ty30), (142, ty142), (222, ty222), (254, ty254)] := by kernel_rfl
theorem tyT_ok : TabOK tyT Go.Proofs.Tryz.prog := tabOK_of (by
  rw [tyT_entries]
  intro x hx
  simp only [List.mem_cons, List.not_mem_nil, or_false] at hx
  rcases hx with rfl | rfl | rfl | rfl | rfl | rfl | rfl | rfl | rfl | rfl | rfl | rfl | rfl | rfl | rfl | rfl | rfl | rfl | rfl | rfl | rfl | rfl | rfl | rfl | rfl | rfl | rfl | rfl | rfl | rfl | rfl | rfl | rfl | rfl | rfl | rfl | rfl | rfl | rfl | rfl | rfl | rfl | rfl | rfl | rfl | rfl | rfl | rfl | rfl | rfl | rfl | rfl | rfl | rfl | rfl | rfl | rfl | rfl | rfl | rfl | rfl | rfl | rfl | rfl | rfl | rfl | rfl | rfl | rfl | rfl | rfl | rfl | rfl | rfl | rfl | rfl | rfl | rfl | rfl | rfl
  · exact tok3
  · exact tok95
  · exact tok159
  · exact tok143
  · exact tok175
  · exact tok431
  · exact tok39
  · exact tok199
  · exact tok55
  · exact tok343
  · exact tok259
  · exact tok147
  · exact tok275
  · exact tok179
  · exact tok27
  · exact tok43
  · exact tok171
  · exact tok187
  · exact tok5
  · exact tok9
  · exact tok65
  · exact tok97
  · exact tok481
  · exact tok273
  · exact tok177
  · exact tok25
  · exact tok41
  · exact tok329
  · exact tok21
  · exact tok37
  · exact tok133
  · exact tok261
  · exact tok197
  · exact tok325
  · exact tok165
  · exact tok229
  · exact tok149
  · exact tok277
  · exact tok437
  · exact tok45
  · exact tok141
  · exact tok2
  · exact tok4
  · exact tok32
  · exact tok64
  · exact tok256
  · exact tok96
  · exact tok48
  · exact tok144
  · exact tok240
  · exact tok72
  · exact tok136
  · exact tok104
  · exact tok360
  · exact tok120
  · exact tok36
  · exact tok132
  · exact tok452
  · exact tok212
  · exact tok340
  · exact tok116
  · exact tok28
  · exact tok140
  · exact tok204
  · exact tok108
  · exact tok226
  · exact tok146
  · exact tok242
  · exact tok370
  · exact tok26
  · exact tok282
  · exact tok22
  · exact tok102
  · exact tok358
  · exact tok54
  · exact tok86
  · exact tok30
  · exact tok142
  · exact tok222
  · exact tok254)
theorem fok8 (Gs : List Nat) (h : fnCheck Gs Go.Proofs.Tryz.f8 = true := by kernel_rfl) : FnOk Go.Proofs.Tryz.prog Gs 8 Go.Proofs.Tryz.f8 := fnOk_of Go.Proofs.Tryz.func8 (by kernel_rfl) h
theorem fok13 (Gs : List Nat) (h : fnCheck Gs Go.Proofs.Tryz.f13 = true := by kernel_rfl) : FnOk Go.Proofs.Tryz.prog Gs 13 Go.Proofs.Tryz.f13 := fnOk_of Go.Proofs.Tryz.func13 (by kernel_rfl) h
theorem fok14 (Gs : List Nat) (h : fnCheck Gs Go.Proofs.Tryz.f14 = true := by kernel_rfl) : FnOk Go.Proofs.Tryz.prog Gs 14 Go.Proofs.Tryz.f14 := fnOk_of Go.Proofs.Tryz.func14 (by kernel_rfl) h
theorem fok16 (Gs : List Nat) (h : fnCheck Gs Go.Proofs.Tryz.f16 = true := by kernel_rfl) : FnOk Go.Proofs.Tryz.prog Gs 16 Go.Proofs.Tryz.f16 := fnOk_of Go.Proofs.Tryz.func16 (by kernel_rfl) h
theorem fok17 (Gs : List Nat) (h : fnCheck Gs Go.Proofs.Tryz.f17 = true := by kernel_rfl) : FnOk Go.Proofs.Tryz.prog Gs 17 Go.Proofs.Tryz.f17 := fnOk_of Go.Proofs.Tryz.func17 (by kernel_rfl) h
theorem fok19 (Gs : List Nat) (h : fnCheck Gs Go.Proofs.Tryz.f19 = true := by kernel_rfl) : FnOk Go.Proofs.Tryz.prog Gs 19 Go.Proofs.Tryz.f19 := fnOk_of Go.Proofs.Tryz.func19 (by kernel_rfl) h
theorem fok20 (Gs : List Nat) (h : fnCheck Gs Go.Proofs.Tryz.f20 = true := by kernel_rfl) : FnOk Go.Proofs.Tryz.prog Gs 20 Go.Proofs.Tryz.f20 := fnOk_of Go.Proofs.Tryz.func20 (by kernel_rfl) h
theorem fok21 (Gs : List Nat) (h : fnCheck Gs Go.Proofs.Tryz.f21 = true := by kernel_rfl) : FnOk Go.Proofs.Tryz.prog Gs 21 Go.Proofs.Tryz.f21 := fnOk_of Go.Proofs.Tryz.func21 (by kernel_rfl) h
theorem fok22 (Gs : List Nat) (h : fnCheck Gs Go.Proofs.Tryz.f22 = true := by kernel_rfl) : FnOk Go.Proofs.Tryz.prog Gs 22 Go.Proofs.Tryz.f22 := fnOk_of Go.Proofs.Tryz.func22 (by kernel_rfl) h
theorem fok23 (Gs : List Nat) (h : fnCheck Gs Go.Proofs.Tryz.f23 = true := by kernel_rfl) : FnOk Go.Proofs.Tryz.prog Gs 23 Go.Proofs.Tryz.f23 := fnOk_of Go.Proofs.Tryz.func23 (by kernel_rfl) h
theorem fok24 (Gs : List Nat) (h : fnCheck Gs Go.Proofs.Tryz.f24 = true := by kernel_rfl) : FnOk Go.Proofs.Tryz.prog Gs 24 Go.Proofs.Tryz.f24 := fnOk_of Go.Proofs.Tryz.func24 (by kernel_rfl) h
theorem fok25 (Gs : List Nat) (h : fnCheck Gs Go.Proofs.Tryz.f25 = true := by kernel_rfl) : FnOk Go.Proofs.Tryz.prog Gs 25 Go.Proofs.Tryz.f25 := fnOk_of Go.Proofs.Tryz.func25 (by kernel_rfl) h
theorem fok26 (Gs : List Nat) (h : fnCheck Gs Go.Proofs.Tryz.f26 = true := by kernel_rfl) : FnOk Go.Proofs.Tryz.prog Gs 26 Go.Proofs.Tryz.f26 := fnOk_of Go.Proofs.Tryz.func26 (by kernel_rfl) h
theorem fok40 (Gs : List Nat) (h : fnCheck Gs Go.Proofs.Tryz.f40 = true := by kernel_rfl) : FnOk Go.Proofs.Tryz.prog Gs 40 Go.Proofs.Tryz.f40 := fnOk_of Go.Proofs.Tryz.func40 (by kernel_rfl) h
theorem fok41 (Gs : List Nat) (h : fnCheck Gs Go.Proofs.Tryz.f41 = true := by kernel_rfl) : FnOk Go.Proofs.Tryz.prog Gs 41 Go.Proofs.Tryz.f41 := fnOk_of Go.Proofs.Tryz.func41 (by kernel_rfl) h
theorem fok42 (Gs : List Nat) (h : fnCheck Gs Go.Proofs.Tryz.f42 = true := by kernel_rfl) : FnOk Go.Proofs.Tryz.prog Gs 42 Go.Proofs.Tryz.f42 := fnOk_of Go.Proofs.Tryz.func42 (by kernel_rfl) h
theorem fok43 (Gs : List Nat) (h : fnCheck Gs Go.Proofs.Tryz.f43 = true := by kernel_rfl) : FnOk Go.Proofs.Tryz.prog Gs 43 Go.Proofs.Tryz.f43 := fnOk_of Go.Proofs.Tryz.func43 (by kernel_rfl) h
theorem fok44 (Gs : List Nat) (h : fnCheck Gs Go.Proofs.Tryz.f44 = true := by kernel_rfl) : FnOk Go.Proofs.Tryz.prog Gs 44 Go.Proofs.Tryz.f44 := fnOk_of Go.Proofs.Tryz.func44 (by kernel_rfl) h
theorem fok45 (Gs : List Nat) (h : fnCheck Gs Go.Proofs.Tryz.f45 = true := by kernel_rfl) : FnOk Go.Proofs.Tryz.prog Gs 45 Go.Proofs.Tryz.f45 := fnOk_of Go.Proofs.Tryz.func45 (by kernel_rfl) h
theorem fok46 (Gs : List Nat) (h : fnCheck Gs Go.Proofs.Tryz.f46 = true := by kernel_rfl) : FnOk Go.Proofs.Tryz.prog Gs 46 Go.Proofs.Tryz.f46 := fnOk_of Go.Proofs.Tryz.func46 (by kernel_rfl) h
theorem fok47 (Gs : List Nat) (h : fnCheck Gs Go.Proofs.Tryz.f47 = true := by kernel_rfl) : FnOk Go.Proofs.Tryz.prog Gs 47 Go.Proofs.Tryz.f47 := fnOk_of Go.Proofs.Tryz.func47 (by kernel_rfl) h
theorem fok48 (Gs : List Nat) (h : fnCheck Gs Go.Proofs.Tryz.f48 = true := by kernel_rfl) : FnOk Go.Proofs.Tryz.prog Gs 48 Go.Proofs.Tryz.f48 := fnOk_of Go.Proofs.Tryz.func48 (by kernel_rfl) h
theorem fok49 (Gs : List Nat) (h : fnCheck Gs Go.Proofs.Tryz.f49 = true := by kernel_rfl) : FnOk Go.Proofs.Tryz.prog Gs 49 Go.Proofs.Tryz.f49 := fnOk_of Go.Proofs.Tryz.func49 (by kernel_rfl) h
theorem fok50 (Gs : List Nat) (h : fnCheck Gs Go.Proofs.Tryz.f50 = true := by kernel_rfl) : FnOk Go.Proofs.Tryz.prog Gs 50 Go.Proofs.Tryz.f50 := fnOk_of Go.Proofs.Tryz.func50 (by kernel_rfl) h
theorem fok51 (Gs : List Nat) (h : fnCheck Gs Go.Proofs.Tryz.f51 = true := by kernel_rfl) : FnOk Go.Proofs.Tryz.prog Gs 51 Go.Proofs.Tryz.f51 := fnOk_of Go.Proofs.Tryz.func51 (by kernel_rfl) h
theorem fok52 (Gs : List Nat) (h : fnCheck Gs Go.Proofs.Tryz.f52 = true := by kernel_rfl) : FnOk Go.Proofs.Tryz.prog Gs 52 Go.Proofs.Tryz.f52 := fnOk_of Go.Proofs.Tryz.func52 (by kernel_rfl) h
theorem fok53 (Gs : List Nat) (h : fnCheck Gs Go.Proofs.Tryz.f53 = true := by kernel_rfl) : FnOk Go.Proofs.Tryz.prog Gs 53 Go.Proofs.Tryz.f53 := fnOk_of Go.Proofs.Tryz.func53 (by kernel_rfl) h
theorem fok54 (Gs : List Nat) (h : fnCheck Gs Go.Proofs.Tryz.f54 = true := by kernel_rfl) : FnOk Go.Proofs.Tryz.prog Gs 54 Go.Proofs.Tryz.f54 := fnOk_of Go.Proofs.Tryz.func54 (by kernel_rfl) h
theorem fok55 (Gs : List Nat) (h : fnCheck Gs Go.Proofs.Tryz.f55 = true := by kernel_rfl) : FnOk Go.Proofs.Tryz.prog Gs 55 Go.Proofs.Tryz.f55 := fnOk_of Go.Proofs.Tryz.func55 (by kernel_rfl) h
theorem fok56 (Gs : List Nat) (h : fnCheck Gs Go.Proofs.Tryz.f56 = true := by kernel_rfl) : FnOk Go.Proofs.Tryz.prog Gs 56 Go.Proofs.Tryz.f56 := fnOk_of Go.Proofs.Tryz.func56 (by kernel_rfl) h
theorem fok77 (Gs : List Nat) (h : fnCheck Gs Go.Proofs.Tryz.f77 = true := by kernel_rfl) : FnOk Go.Proofs.Tryz.prog Gs 77 Go.Proofs.Tryz.f77 := fnOk_of Go.Proofs.Tryz.func77 (by kernel_rfl) h
theorem fok78 (Gs : List Nat) (h : fnCheck Gs Go.Proofs.Tryz.f78 = true := by kernel_rfl) : FnOk Go.Proofs.Tryz.prog Gs 78 Go.Proofs.Tryz.f78 := fnOk_of Go.Proofs.Tryz.func78 (by kernel_rfl) h
theorem fok79 (Gs : List Nat) (h : fnCheck Gs Go.Proofs.Tryz.f79 = true := by kernel_rfl) : FnOk Go.Proofs.Tryz.prog Gs 79 Go.Proofs.Tryz.f79 := fnOk_of Go.Proofs.Tryz.func79 (by kernel_rfl) h
theorem fok80 (Gs : List Nat) (h : fnCheck Gs Go.Proofs.Tryz.f80 = true := by kernel_rfl) : FnOk Go.Proofs.Tryz.prog Gs 80 Go.Proofs.Tryz.f80 := fnOk_of Go.Proofs.Tryz.func80 (by kernel_rfl) h
theorem fok81 (Gs : List Nat) (h : fnCheck Gs Go.Proofs.Tryz.f81 = true := by kernel_rfl) : FnOk Go.Proofs.Tryz.prog Gs 81 Go.Proofs.Tryz.f81 := fnOk_of Go.Proofs.Tryz.func81 (by kernel_rfl) h
theorem fok82 (Gs : List Nat) (h : fnCheck Gs Go.Proofs.Tryz.f82 = true := by kernel_rfl) : FnOk Go.Proofs.Tryz.prog Gs 82 Go.Proofs.Tryz.f82 := fnOk_of Go.Proofs.Tryz.func82 (by kernel_rfl) h
theorem fok83 (Gs : List Nat) (h : fnCheck Gs Go.Proofs.Tryz.f83 = true := by kernel_rfl) : FnOk Go.Proofs.Tryz.prog Gs 83 Go.Proofs.Tryz.f83 := fnOk_of Go.Proofs.Tryz.func83 (by kernel_rfl) h
theorem fok84 (Gs : List Nat) (h : fnCheck Gs Go.Proofs.Tryz.f84 = true := by kernel_rfl) : FnOk Go.Proofs.Tryz.prog Gs 84 Go.Proofs.Tryz.f84 := fnOk_of Go.Proofs.Tryz.func84 (by kernel_rfl) h
theorem fok85 (Gs : List Nat) (h : fnCheck Gs Go.Proofs.Tryz.f85 = true := by kernel_rfl) : FnOk Go.Proofs.Tryz.prog Gs 85 Go.Proofs.Tryz.f85 := fnOk_of Go.Proofs.Tryz.func85 (by kernel_rfl) h
theorem fok86 (Gs : List Nat) (h : fnCheck Gs Go.Proofs.Tryz.f86 = true := by kernel_rfl) : FnOk Go.Proofs.Tryz.prog Gs 86 Go.Proofs.Tryz.f86 := fnOk_of Go.Proofs.Tryz.func86 (by kernel_rfl) h
theorem fok87 (Gs : List Nat) (h : fnCheck Gs Go.Proofs.Tryz.f87 = true := by kernel_rfl) : FnOk Go.Proofs.Tryz.prog Gs 87 Go.Proofs.Tryz.f87 := fnOk_of Go.Proofs.Tryz.func87 (by kernel_rfl) h
theorem fok88 (Gs : List Nat) (h : fnCheck Gs Go.Proofs.Tryz.f88 = true := by kernel_rfl) : FnOk Go.Proofs.Tryz.prog Gs 88 Go.Proofs.Tryz.f88 := fnOk_of Go.Proofs.Tryz.func88 (by kernel_rfl) h
theorem fok89 (Gs : List Nat) (h : fnCheck Gs Go.Proofs.Tryz.f89 = true := by kernel_rfl) : FnOk Go.Proofs.Tryz.prog Gs 89 Go.Proofs.Tryz.f89 := fnOk_of Go.Proofs.Tryz.func89 (by kernel_rfl) h
theorem fok90 (Gs : List Nat) (h : fnCheck Gs Go.Proofs.Tryz.f90 = true := by kernel_rfl) : FnOk Go.Proofs.Tryz.prog Gs 90 Go.Proofs.Tryz.f90 := fnOk_of Go.Proofs.Tryz.func90 (by kernel_rfl) h
theorem fok91 (Gs : List Nat) (h : fnCheck Gs Go.Proofs.Tryz.f91 = true := by kernel_rfl) : FnOk Go.Proofs.Tryz.prog Gs 91 Go.Proofs.Tryz.f91 := fnOk_of Go.Proofs.Tryz.func91 (by kernel_rfl) h
theorem fok92 (Gs : List Nat) (h : fnCheck Gs Go.Proofs.Tryz.f92 = true := by kernel_rfl) : FnOk Go.Proofs.Tryz.prog Gs 92 Go.Proofs.Tryz.f92 := fnOk_of Go.Proofs.Tryz.func92 (by kernel_rfl) h
theorem fok93 (Gs : List Nat) (h : fnCheck Gs Go.Proofs.Tryz.f93 = true := by kernel_rfl) : FnOk Go.Proofs.Tryz.prog Gs 93 Go.Proofs.Tryz.f93 := fnOk_of Go.Proofs.Tryz.func93 (by kernel_rfl) h
theorem fok94 (Gs : List Nat) (h : fnCheck Gs Go.Proofs.Tryz.f94 = true := by kernel_rfl) : FnOk Go.Proofs.Tryz.prog Gs 94 Go.Proofs.Tryz.f94 := fnOk_of Go.Proofs.Tryz.func94 (by kernel_rfl) h
theorem fok95 (Gs : List Nat) (h : fnCheck Gs Go.Proofs.Tryz.f95 = true := by kernel_rfl) : FnOk Go.Proofs.Tryz.prog Gs 95 Go.Proofs.Tryz.f95 := fnOk_of Go.Proofs.Tryz.func95 (by kernel_rfl) h
theorem fok107 (Gs : List Nat) (h : fnCheck Gs Go.Proofs.Tryz.f107 = true := by kernel_rfl) : FnOk Go.Proofs.Tryz.prog Gs 107 Go.Proofs.Tryz.f107 := fnOk_of Go.Proofs.Tryz.func107 (by kernel_rfl) h
theorem fok123 (Gs : List Nat) (h : fnCheck Gs Go.Proofs.Tryz.f123 = true := by kernel_rfl) : FnOk Go.Proofs.Tryz.prog Gs 123 Go.Proofs.Tryz.f123 := fnOk_of Go.Proofs.Tryz.func123 (by kernel_rfl) h
theorem fok131 (Gs : List Nat) (h : fnCheck Gs Go.Proofs.Tryz.f131 = true := by kernel_rfl) : FnOk Go.Proofs.Tryz.prog Gs 131 Go.Proofs.Tryz.f131 := fnOk_of Go.Proofs.Tryz.func131 (by kernel_rfl) h
theorem fok132 (Gs : List Nat) (h : fnCheck Gs Go.Proofs.Tryz.f132 = true := by kernel_rfl) : FnOk Go.Proofs.Tryz.prog Gs 132 Go.Proofs.Tryz.f132 := fnOk_of Go.Proofs.Tryz.func132 (by kernel_rfl) h
theorem fok133 (Gs : List Nat) (h : fnCheck Gs Go.Proofs.Tryz.f133 = true := by kernel_rfl) : FnOk Go.Proofs.Tryz.prog Gs 133 Go.Proofs.Tryz.f133 := fnOk_of Go.Proofs.Tryz.func133 (by kernel_rfl) h
theorem fok134 (Gs : List Nat) (h : fnCheck Gs Go.Proofs.Tryz.f134 = true := by kernel_rfl) : FnOk Go.Proofs.Tryz.prog Gs 134 Go.Proofs.Tryz.f134 := fnOk_of Go.Proofs.Tryz.func134 (by kernel_rfl) h
theorem fok135 (Gs : List Nat) (h : fnCheck Gs Go.Proofs.Tryz.f135 = true := by kernel_rfl) : FnOk Go.Proofs.Tryz.prog Gs 135 Go.Proofs.Tryz.f135 := fnOk_of Go.Proofs.Tryz.func135 (by kernel_rfl) h
theorem fok136 (Gs : List Nat) (h : fnCheck Gs Go.Proofs.Tryz.f136 = true := by kernel_rfl) : FnOk Go.Proofs.Tryz.prog Gs 136 Go.Proofs.Tryz.f136 := fnOk_of Go.Proofs.Tryz.func136 (by kernel_rfl) h
theorem fok137 (Gs : List Nat) (h : fnCheck Gs Go.Proofs.Tryz.f137 = true := by kernel_rfl) : FnOk Go.Proofs.Tryz.prog Gs 137 Go.Proofs.Tryz.f137 := fnOk_of Go.Proofs.Tryz.func137 (by kernel_rfl) h
theorem fok138 (Gs : List Nat) (h : fnCheck Gs Go.Proofs.Tryz.f138 = true := by kernel_rfl) : FnOk Go.Proofs.Tryz.prog Gs 138 Go.Proofs.Tryz.f138 := fnOk_of Go.Proofs.Tryz.func138 (by kernel_rfl) h
theorem fok139 (Gs : List Nat) (h : fnCheck Gs Go.Proofs.Tryz.f139 = true := by kernel_rfl) : FnOk Go.Proofs.Tryz.prog Gs 139 Go.Proofs.Tryz.f139 := fnOk_of Go.Proofs.Tryz.func139 (by kernel_rfl) h
theorem fok140 (Gs : List Nat) (h : fnCheck Gs Go.Proofs.Tryz.f140 = true := by kernel_rfl) : FnOk Go.Proofs.Tryz.prog Gs 140 Go.Proofs.Tryz.f140 := fnOk_of Go.Proofs.Tryz.func140 (by kernel_rfl) h
theorem fok141 (Gs : List Nat) (h : fnCheck Gs Go.Proofs.Tryz.f141 = true := by kernel_rfl) : FnOk Go.Proofs.Tryz.prog Gs 141 Go.Proofs.Tryz.f141 := fnOk_of Go.Proofs.Tryz.func141 (by kernel_rfl) h
theorem fok142 (Gs : List Nat) (h : fnCheck Gs Go.Proofs.Tryz.f142 = true := by kernel_rfl) : FnOk Go.Proofs.Tryz.prog Gs 142 Go.Proofs.Tryz.f142 := fnOk_of Go.Proofs.Tryz.func142 (by kernel_rfl) h
theorem fok143 (Gs : List Nat) (h : fnCheck Gs Go.Proofs.Tryz.f143 = true := by kernel_rfl) : FnOk Go.Proofs.Tryz.prog Gs 143 Go.Proofs.Tryz.f143 := fnOk_of Go.Proofs.Tryz.func143 (by kernel_rfl) h
theorem fok144 (Gs : List Nat) (h : fnCheck Gs Go.Proofs.Tryz.f144 = true := by kernel_rfl) : FnOk Go.Proofs.Tryz.prog Gs 144 Go.Proofs.Tryz.f144 := fnOk_of Go.Proofs.Tryz.func144 (by kernel_rfl) h
theorem fok145 (Gs : List Nat) (h : fnCheck Gs Go.Proofs.Tryz.f145 = true := by kernel_rfl) : FnOk Go.Proofs.Tryz.prog Gs 145 Go.Proofs.Tryz.f145 := fnOk_of Go.Proofs.Tryz.func145 (by kernel_rfl) h
theorem fok146 (Gs : List Nat) (h : fnCheck Gs Go.Proofs.Tryz.f146 = true := by kernel_rfl) : FnOk Go.Proofs.Tryz.prog Gs 146 Go.Proofs.Tryz.f146 := fnOk_of Go.Proofs.Tryz.func146 (by kernel_rfl) h
theorem fok147 (Gs : List Nat) (h : fnCheck Gs Go.Proofs.Tryz.f147 = true := by kernel_rfl) : FnOk Go.Proofs.Tryz.prog Gs 147 Go.Proofs.Tryz.f147 := fnOk_of Go.Proofs.Tryz.func147 (by kernel_rfl) h
theorem fok148 (Gs : List Nat) (h : fnCheck Gs Go.Proofs.Tryz.f148 = true := by kernel_rfl) : FnOk Go.Proofs.Tryz.prog Gs 148 Go.Proofs.Tryz.f148 := fnOk_of Go.Proofs.Tryz.func148 (by kernel_rfl) h
theorem fok149 (Gs : List Nat) (h : fnCheck Gs Go.Proofs.Tryz.f149 = true := by kernel_rfl) : FnOk Go.Proofs.Tryz.prog Gs 149 Go.Proofs.Tryz.f149 := fnOk_of Go.Proofs.Tryz.func149 (by kernel_rfl) h
theorem fok150 (Gs : List Nat) (h : fnCheck Gs Go.Proofs.Tryz.f150 = true := by kernel_rfl) : FnOk Go.Proofs.Tryz.prog Gs 150 Go.Proofs.Tryz.f150 := fnOk_of Go.Proofs.Tryz.func150 (by kernel_rfl) h
theorem fok151 (Gs : List Nat) (h : fnCheck Gs Go.Proofs.Tryz.f151 = true := by kernel_rfl) : FnOk Go.Proofs.Tryz.prog Gs 151 Go.Proofs.Tryz.f151 := fnOk_of Go.Proofs.Tryz.func151 (by kernel_rfl) h
theorem fok152 (Gs : List Nat) (h : fnCheck Gs Go.Proofs.Tryz.f152 = true := by kernel_rfl) : FnOk Go.Proofs.Tryz.prog Gs 152 Go.Proofs.Tryz.f152 := fnOk_of Go.Proofs.Tryz.func152 (by kernel_rfl) h
theorem fok153 (Gs : List Nat) (h : fnCheck Gs Go.Proofs.Tryz.f153 = true := by kernel_rfl) : FnOk Go.Proofs.Tryz.prog Gs 153 Go.Proofs.Tryz.f153 := fnOk_of Go.Proofs.Tryz.func153 (by kernel_rfl) h
theorem fok154 (Gs : List Nat) (h : fnCheck Gs Go.Proofs.Tryz.f154 = true := by kernel_rfl) : FnOk Go.Proofs.Tryz.prog Gs 154 Go.Proofs.Tryz.f154 := fnOk_of Go.Proofs.Tryz.func154 (by kernel_rfl) h
theorem fok155 (Gs : List Nat) (h : fnCheck Gs Go.Proofs.Tryz.f155 = true := by kernel_rfl) : FnOk Go.Proofs.Tryz.prog Gs 155 Go.Proofs.Tryz.f155 := fnOk_of Go.Proofs.Tryz.func155 (by kernel_rfl) h
theorem fok156 (Gs : List Nat) (h : fnCheck Gs Go.Proofs.Tryz.f156 = true := by kernel_rfl) : FnOk Go.Proofs.Tryz.prog Gs 156 Go.Proofs.Tryz.f156 := fnOk_of Go.Proofs.Tryz.func156 (by kernel_rfl) h
theorem fok157 (Gs : List Nat) (h : fnCheck Gs Go.Proofs.Tryz.f157 = true := by kernel_rfl) : FnOk Go.Proofs.Tryz.prog Gs 157 Go.Proofs.Tryz.f157 := fnOk_of Go.Proofs.Tryz.func157 (by kernel_rfl) h
theorem fok158 (Gs : List Nat) (h : fnCheck Gs Go.Proofs.Tryz.f158 = true := by kernel_rfl) : FnOk Go.Proofs.Tryz.prog Gs 158 Go.Proofs.Tryz.f158 := fnOk_of Go.Proofs.Tryz.func158 (by kernel_rfl) h
theorem fok159 (Gs : List Nat) (h : fnCheck Gs Go.Proofs.Tryz.f159 = true := by kernel_rfl) : FnOk Go.Proofs.Tryz.prog Gs 159 Go.Proofs.Tryz.f159 := fnOk_of Go.Proofs.Tryz.func159 (by kernel_rfl) h
theorem fok160 (Gs : List Nat) (h : fnCheck Gs Go.Proofs.Tryz.f160 = true := by kernel_rfl) : FnOk Go.Proofs.Tryz.prog Gs 160 Go.Proofs.Tryz.f160 := fnOk_of Go.Proofs.Tryz.func160 (by kernel_rfl) h
theorem fok162 (Gs : List Nat) (h : fnCheck Gs Go.Proofs.Tryz.f162 = true := by kernel_rfl) : FnOk Go.Proofs.Tryz.prog Gs 162 Go.Proofs.Tryz.f162 := fnOk_of Go.Proofs.Tryz.func162 (by kernel_rfl) h
theorem fok163 (Gs : List Nat) (h : fnCheck Gs Go.Proofs.Tryz.f163 = true := by kernel_rfl) : FnOk Go.Proofs.Tryz.prog Gs 163 Go.Proofs.Tryz.f163 := fnOk_of Go.Proofs.Tryz.func163 (by kernel_rfl) h
theorem fok164 (Gs : List Nat) (h : fnCheck Gs Go.Proofs.Tryz.f164 = true := by kernel_rfl) : FnOk Go.Proofs.Tryz.prog Gs 164 Go.Proofs.Tryz.f164 := fnOk_of Go.Proofs.Tryz.func164 (by kernel_rfl) h
theorem fok166 (Gs : List Nat) (h : fnCheck Gs Go.Proofs.Tryz.f166 = true := by kernel_rfl) : FnOk Go.Proofs.Tryz.prog Gs 166 Go.Proofs.Tryz.f166 := fnOk_of Go.Proofs.Tryz.func166 (by kernel_rfl) h
theorem fok167 (Gs : List Nat) (h : fnCheck Gs Go.Proofs.Tryz.f167 = true := by kernel_rfl) : FnOk Go.Proofs.Tryz.prog Gs 167 Go.Proofs.Tryz.f167 := fnOk_of Go.Proofs.Tryz.func167 (by kernel_rfl) h
theorem fok181 (Gs : List Nat) (h : fnCheck Gs Go.Proofs.Tryz.f181 = true := by kernel_rfl) : FnOk Go.Proofs.Tryz.prog Gs 181 Go.Proofs.Tryz.f181 := fnOk_of Go.Proofs.Tryz.func181 (by kernel_rfl) h
theorem fok182 (Gs : List Nat) (h : fnCheck Gs Go.Proofs.Tryz.f182 = true := by kernel_rfl) : FnOk Go.Proofs.Tryz.prog Gs 182 Go.Proofs.Tryz.f182 := fnOk_of Go.Proofs.Tryz.func182 (by kernel_rfl) h
theorem fok208 (Gs : List Nat) (h : fnCheck Gs Go.Proofs.Tryz.f208 = true := by kernel_rfl) : FnOk Go.Proofs.Tryz.prog Gs 208 Go.Proofs.Tryz.f208 := fnOk_of Go.Proofs.Tryz.func208 (by kernel_rfl) h
theorem fok218 (Gs : List Nat) (h : fnCheck Gs Go.Proofs.Tryz.f218 = true := by kernel_rfl) : FnOk Go.Proofs.Tryz.prog Gs 218 Go.Proofs.Tryz.f218 := fnOk_of Go.Proofs.Tryz.func218 (by kernel_rfl) h
theorem fok224 (Gs : List Nat) (h : fnCheck Gs Go.Proofs.Tryz.f224 = true := by kernel_rfl) : FnOk Go.Proofs.Tryz.prog Gs 224 Go.Proofs.Tryz.f224 := fnOk_of Go.Proofs.Tryz.func224 (by kernel_rfl) h
theorem fok225 (Gs : List Nat) (h : fnCheck Gs Go.Proofs.Tryz.f225 = true := by kernel_rfl) : FnOk Go.Proofs.Tryz.prog Gs 225 Go.Proofs.Tryz.f225 := fnOk_of Go.Proofs.Tryz.func225 (by kernel_rfl) h
theorem fok226 (Gs : List Nat) (h : fnCheck Gs Go.Proofs.Tryz.f226 = true := by kernel_rfl) : FnOk Go.Proofs.Tryz.prog Gs 226 Go.Proofs.Tryz.f226 := fnOk_of Go.Proofs.Tryz.func226 (by kernel_rfl) h
theorem fok227 (Gs : List Nat) (h : fnCheck Gs Go.Proofs.Tryz.f227 = true := by kernel_rfl) : FnOk Go.Proofs.Tryz.prog Gs 227 Go.Proofs.Tryz.f227 := fnOk_of Go.Proofs.Tryz.func227 (by kernel_rfl) h
theorem fok228 (Gs : List Nat) (h : fnCheck Gs Go.Proofs.Tryz.f228 = true := by kernel_rfl) : FnOk Go.Proofs.Tryz.prog Gs 228 Go.Proofs.Tryz.f228 := fnOk_of Go.Proofs.Tryz.func228 (by kernel_rfl) h
theorem fok229 (Gs : List Nat) (h : fnCheck Gs Go.Proofs.Tryz.f229 = true := by kernel_rfl) : FnOk Go.Proofs.Tryz.prog Gs 229 Go.Proofs.Tryz.f229 := fnOk_of Go.Proofs.Tryz.func229 (by kernel_rfl) h
theorem fok230 (Gs : List Nat) (h : fnCheck Gs Go.Proofs.Tryz.f230 = true := by kernel_rfl) : FnOk Go.Proofs.Tryz.prog Gs 230 Go.Proofs.Tryz.f230 := fnOk_of Go.Proofs.Tryz.func230 (by kernel_rfl) h
theorem fok231 (Gs : List Nat) (h : fnCheck Gs Go.Proofs.Tryz.f231 = true := by kernel_rfl) : FnOk Go.Proofs.Tryz.prog Gs 231 Go.Proofs.Tryz.f231 := fnOk_of Go.Proofs.Tryz.func231 (by kernel_rfl) h
theorem fok232 (Gs : List Nat) (h : fnCheck Gs Go.Proofs.Tryz.f232 = true := by kernel_rfl) : FnOk Go.Proofs.Tryz.prog Gs 232 Go.Proofs.Tryz.f232 := fnOk_of Go.Proofs.Tryz.func232 (by kernel_rfl) h
theorem fok233 (Gs : List Nat) (h : fnCheck Gs Go.Proofs.Tryz.f233 = true := by kernel_rfl) : FnOk Go.Proofs.Tryz.prog Gs 233 Go.Proofs.Tryz.f233 := fnOk_of Go.Proofs.Tryz.func233 (by kernel_rfl) h
theorem fok234 (Gs : List Nat) (h : fnCheck Gs Go.Proofs.Tryz.f234 = true := by kernel_rfl) : FnOk Go.Proofs.Tryz.prog Gs 234 Go.Proofs.Tryz.f234 := fnOk_of Go.Proofs.Tryz.func234 (by kernel_rfl) h
theorem fok235 (Gs : List Nat) (h : fnCheck Gs Go.Proofs.Tryz.f235 = true := by kernel_rfl) : FnOk Go.Proofs.Tryz.prog Gs 235 Go.Proofs.Tryz.f235 := fnOk_of Go.Proofs.Tryz.func235 (by kernel_rfl) h
theorem fok236 (Gs : List Nat) (h : fnCheck Gs Go.Proofs.Tryz.f236 = true := by kernel_rfl) : FnOk Go.Proofs.Tryz.prog Gs 236 Go.Proofs.Tryz.f236 := fnOk_of Go.Proofs.Tryz.func236 (by kernel_rfl) h
theorem fok237 (Gs : List Nat) (h : fnCheck Gs Go.Proofs.Tryz.f237 = true := by kernel_rfl) : FnOk Go.Proofs.Tryz.prog Gs 237 Go.Proofs.Tryz.f237 := fnOk_of Go.Proofs.Tryz.func237 (by kernel_rfl) h
theorem fok238 (Gs : List Nat) (h : fnCheck Gs Go.Proofs.Tryz.f238 = true := by kernel_rfl) : FnOk Go.Proofs.Tryz.prog Gs 238 Go.Proofs.Tryz.f238 := fnOk_of Go.Proofs.Tryz.func238 (by kernel_rfl) h
theorem fok239 (Gs : List Nat) (h : fnCheck Gs Go.Proofs.Tryz.f239 = true := by kernel_rfl) : FnOk Go.Proofs.Tryz.prog Gs 239 Go.Proofs.Tryz.f239 := fnOk_of Go.Proofs.Tryz.func239 (by kernel_rfl) h
theorem fok240 (Gs : List Nat) (h : fnCheck Gs Go.Proofs.Tryz.f240 = true := by kernel_rfl) : FnOk Go.Proofs.Tryz.prog Gs 240 Go.Proofs.Tryz.f240 := fnOk_of Go.Proofs.Tryz.func240 (by kernel_rfl) h
theorem fok241 (Gs : List Nat) (h : fnCheck Gs Go.Proofs.Tryz.f241 = true := by kernel_rfl) : FnOk Go.Proofs.Tryz.prog Gs 241 Go.Proofs.Tryz.f241 := fnOk_of Go.Proofs.Tryz.func241 (by kernel_rfl) h
theorem fok242 (Gs : List Nat) (h : fnCheck Gs Go.Proofs.Tryz.f242 = true := by kernel_rfl) : FnOk Go.Proofs.Tryz.prog Gs 242 Go.Proofs.Tryz.f242 := fnOk_of Go.Proofs.Tryz.func242 (by kernel_rfl) h
theorem fok243 (Gs : List Nat) (h : fnCheck Gs Go.Proofs.Tryz.f243 = true := by kernel_rfl) : FnOk Go.Proofs.Tryz.prog Gs 243 Go.Proofs.Tryz.f243 := fnOk_of Go.Proofs.Tryz.func243 (by kernel_rfl) h
theorem fok244 (Gs : List Nat) (h : fnCheck Gs Go.Proofs.Tryz.f244 = true := by kernel_rfl) : FnOk Go.Proofs.Tryz.prog Gs 244 Go.Proofs.Tryz.f244 := fnOk_of Go.Proofs.Tryz.func244 (by kernel_rfl) h
theorem fok245 (Gs : List Nat) (h : fnCheck Gs Go.Proofs.Tryz.f245 = true := by kernel_rfl) : FnOk Go.Proofs.Tryz.prog Gs 245 Go.Proofs.Tryz.f245 := fnOk_of Go.Proofs.Tryz.func245 (by kernel_rfl) h
theorem fok246 (Gs : List Nat) (h : fnCheck Gs Go.Proofs.Tryz.f246 = true := by kernel_rfl) : FnOk Go.Proofs.Tryz.prog Gs 246 Go.Proofs.Tryz.f246 := fnOk_of Go.Proofs.Tryz.func246 (by kernel_rfl) h
theorem fok249 (Gs : List Nat) (h : fnCheck Gs Go.Proofs.Tryz.f249 = true := by kernel_rfl) : FnOk Go.Proofs.Tryz.prog Gs 249 Go.Proofs.Tryz.f249 := fnOk_of Go.Proofs.Tryz.func249 (by kernel_rfl) h
theorem fok250 (Gs : List Nat) (h : fnCheck Gs Go.Proofs.Tryz.f250 = true := by kernel_rfl) : FnOk Go.Proofs.Tryz.prog Gs 250 Go.Proofs.Tryz.f250 := fnOk_of Go.Proofs.Tryz.func250 (by kernel_rfl) h
theorem fok251 (Gs : List Nat) (h : fnCheck Gs Go.Proofs.Tryz.f251 = true := by kernel_rfl) : FnOk Go.Proofs.Tryz.prog Gs 251 Go.Proofs.Tryz.f251 := fnOk_of Go.Proofs.Tryz.func251 (by kernel_rfl) h
theorem fok258 (Gs : List Nat) (h : fnCheck Gs Go.Proofs.Tryz.f258 = true := by kernel_rfl) : FnOk Go.Proofs.Tryz.prog Gs 258 Go.Proofs.Tryz.f258 := fnOk_of Go.Proofs.Tryz.func258 (by kernel_rfl) h
theorem fok260 (Gs : List Nat) (h : fnCheck Gs Go.Proofs.Tryz.f260 = true := by kernel_rfl) : FnOk Go.Proofs.Tryz.prog Gs 260 Go.Proofs.Tryz.f260 := fnOk_of Go.Proofs.Tryz.func260 (by kernel_rfl) h
theorem fok261 (Gs : List Nat) (h : fnCheck Gs Go.Proofs.Tryz.f261 = true := by kernel_rfl) : FnOk Go.Proofs.Tryz.prog Gs 261 Go.Proofs.Tryz.f261 := fnOk_of Go.Proofs.Tryz.func261 (by kernel_rfl) h
theorem fok262 (Gs : List Nat) (h : fnCheck Gs Go.Proofs.Tryz.f262 = true := by kernel_rfl) : FnOk Go.Proofs.Tryz.prog Gs 262 Go.Proofs.Tryz.f262 := fnOk_of Go.Proofs.Tryz.func262 (by kernel_rfl) h
theorem fok263 (Gs : List Nat) (h : fnCheck Gs Go.Proofs.Tryz.f263 = true := by kernel_rfl) : FnOk Go.Proofs.Tryz.prog Gs 263 Go.Proofs.Tryz.f263 := fnOk_of Go.Proofs.Tryz.func263 (by kernel_rfl) h
theorem fok264 (Gs : List Nat) (h : fnCheck Gs Go.Proofs.Tryz.f264 = true := by kernel_rfl) : FnOk Go.Proofs.Tryz.prog Gs 264 Go.Proofs.Tryz.f264 := fnOk_of Go.Proofs.Tryz.func264 (by kernel_rfl) h
theorem fok296 (Gs : List Nat) (h : fnCheck Gs Go.Proofs.Tryz.f296 = true := by kernel_rfl) : FnOk Go.Proofs.Tryz.prog Gs 296 Go.Proofs.Tryz.f296 := fnOk_of Go.Proofs.Tryz.func296 (by kernel_rfl) h
theorem fok300 (Gs : List Nat) (h : fnCheck Gs Go.Proofs.Tryz.f300 = true := by kernel_rfl) : FnOk Go.Proofs.Tryz.prog Gs 300 Go.Proofs.Tryz.f300 := fnOk_of Go.Proofs.Tryz.func300 (by kernel_rfl) h
theorem fok301 (Gs : List Nat) (h : fnCheck Gs Go.Proofs.Tryz.f301 = true := by kernel_rfl) : FnOk Go.Proofs.Tryz.prog Gs 301 Go.Proofs.Tryz.f301 := fnOk_of Go.Proofs.Tryz.func301 (by kernel_rfl) h
theorem fok302 (Gs : List Nat) (h : fnCheck Gs Go.Proofs.Tryz.f302 = true := by kernel_rfl) : FnOk Go.Proofs.Tryz.prog Gs 302 Go.Proofs.Tryz.f302 := fnOk_of Go.Proofs.Tryz.func302 (by kernel_rfl) h
theorem fok303 (Gs : List Nat) (h : fnCheck Gs Go.Proofs.Tryz.f303 = true := by kernel_rfl) : FnOk Go.Proofs.Tryz.prog Gs 303 Go.Proofs.Tryz.f303 := fnOk_of Go.Proofs.Tryz.func303 (by kernel_rfl) h
theorem fok304 (Gs : List Nat) (h : fnCheck Gs Go.Proofs.Tryz.f304 = true := by kernel_rfl) : FnOk Go.Proofs.Tryz.prog Gs 304 Go.Proofs.Tryz.f304 := fnOk_of Go.Proofs.Tryz.func304 (by kernel_rfl) h
theorem fok305 (Gs : List Nat) (h : fnCheck Gs Go.Proofs.Tryz.f305 = true := by kernel_rfl) : FnOk Go.Proofs.Tryz.prog Gs 305 Go.Proofs.Tryz.f305 := fnOk_of Go.Proofs.Tryz.func305 (by kernel_rfl) h
theorem fok306 (Gs : List Nat) (h : fnCheck Gs Go.Proofs.Tryz.f306 = true := by kernel_rfl) : FnOk Go.Proofs.Tryz.prog Gs 306 Go.Proofs.Tryz.f306 := fnOk_of Go.Proofs.Tryz.func306 (by kernel_rfl) h
theorem fok307 (Gs : List Nat) (h : fnCheck Gs Go.Proofs.Tryz.f307 = true := by kernel_rfl) : FnOk Go.Proofs.Tryz.prog Gs 307 Go.Proofs.Tryz.f307 := fnOk_of Go.Proofs.Tryz.func307 (by kernel_rfl) h
theorem fok308 (Gs : List Nat) (h : fnCheck Gs Go.Proofs.Tryz.f308 = true := by kernel_rfl) : FnOk Go.Proofs.Tryz.prog Gs 308 Go.Proofs.Tryz.f308 := fnOk_of Go.Proofs.Tryz.func308 (by kernel_rfl) h
theorem fok309 (Gs : List Nat) (h : fnCheck Gs Go.Proofs.Tryz.f309 = true := by kernel_rfl) : FnOk Go.Proofs.Tryz.prog Gs 309 Go.Proofs.Tryz.f309 := fnOk_of Go.Proofs.Tryz.func309 (by kernel_rfl) h
theorem fok310 (Gs : List Nat) (h : fnCheck Gs Go.Proofs.Tryz.f310 = true := by kernel_rfl) : FnOk Go.Proofs.Tryz.prog Gs 310 Go.Proofs.Tryz.f310 := fnOk_of Go.Proofs.Tryz.func310 (by kernel_rfl) h
theorem fok311 (Gs : List Nat) (h : fnCheck Gs Go.Proofs.Tryz.f311 = true := by kernel_rfl) : FnOk Go.Proofs.Tryz.prog Gs 311 Go.Proofs.Tryz.f311 := fnOk_of Go.Proofs.Tryz.func311 (by kernel_rfl) h
theorem fok312 (Gs : List Nat) (h : fnCheck Gs Go.Proofs.Tryz.f312 = true := by kernel_rfl) : FnOk Go.Proofs.Tryz.prog Gs 312 Go.Proofs.Tryz.f312 := fnOk_of Go.Proofs.Tryz.func312 (by kernel_rfl) h
theorem fok313 (Gs : List Nat) (h : fnCheck Gs Go.Proofs.Tryz.f313 = true := by kernel_rfl) : FnOk Go.Proofs.Tryz.prog Gs 313 Go.Proofs.Tryz.f313 := fnOk_of Go.Proofs.Tryz.func313 (by kernel_rfl) h
theorem fok314 (Gs : List Nat) (h : fnCheck Gs Go.Proofs.Tryz.f314 = true := by kernel_rfl) : FnOk Go.Proofs.Tryz.prog Gs 314 Go.Proofs.Tryz.f314 := fnOk_of Go.Proofs.Tryz.func314 (by kernel_rfl) h
theorem fok315 (Gs : List Nat) (h : fnCheck Gs Go.Proofs.Tryz.f315 = true := by kernel_rfl) : FnOk Go.Proofs.Tryz.prog Gs 315 Go.Proofs.Tryz.f315 := fnOk_of Go.Proofs.Tryz.func315 (by kernel_rfl) h
theorem fok316 (Gs : List Nat) (h : fnCheck Gs Go.Proofs.Tryz.f316 = true := by kernel_rfl) : FnOk Go.Proofs.Tryz.prog Gs 316 Go.Proofs.Tryz.f316 := fnOk_of Go.Proofs.Tryz.func316 (by kernel_rfl) h
theorem fok317 (Gs : List Nat) (h : fnCheck Gs Go.Proofs.Tryz.f317 = true := by kernel_rfl) : FnOk Go.Proofs.Tryz.prog Gs 317 Go.Proofs.Tryz.f317 := fnOk_of Go.Proofs.Tryz.func317 (by kernel_rfl) h
theorem fok318 (Gs : List Nat) (h : fnCheck Gs Go.Proofs.Tryz.f318 = true := by kernel_rfl) : FnOk Go.Proofs.Tryz.prog Gs 318 Go.Proofs.Tryz.f318 := fnOk_of Go.Proofs.Tryz.func318 (by kernel_rfl) h
theorem fok319 (Gs : List Nat) (h : fnCheck Gs Go.Proofs.Tryz.f319 = true := by kernel_rfl) : FnOk Go.Proofs.Tryz.prog Gs 319 Go.Proofs.Tryz.f319 := fnOk_of Go.Proofs.Tryz.func319 (by kernel_rfl) h
theorem fok320 (Gs : List Nat) (h : fnCheck Gs Go.Proofs.Tryz.f320 = true := by kernel_rfl) : FnOk Go.Proofs.Tryz.prog Gs 320 Go.Proofs.Tryz.f320 := fnOk_of Go.Proofs.Tryz.func320 (by kernel_rfl) h
theorem fok321 (Gs : List Nat) (h : fnCheck Gs Go.Proofs.Tryz.f321 = true := by kernel_rfl) : FnOk Go.Proofs.Tryz.prog Gs 321 Go.Proofs.Tryz.f321 := fnOk_of Go.Proofs.Tryz.func321 (by kernel_rfl) h
theorem fok322 (Gs : List Nat) (h : fnCheck Gs Go.Proofs.Tryz.f322 = true := by kernel_rfl) : FnOk Go.Proofs.Tryz.prog Gs 322 Go.Proofs.Tryz.f322 := fnOk_of Go.Proofs.Tryz.func322 (by kernel_rfl) h
theorem fok323 (Gs : List Nat) (h : fnCheck Gs Go.Proofs.Tryz.f323 = true := by kernel_rfl) : FnOk Go.Proofs.Tryz.prog Gs 323 Go.Proofs.Tryz.f323 := fnOk_of Go.Proofs.Tryz.func323 (by kernel_rfl) h
theorem fok324 (Gs : List Nat) (h : fnCheck Gs Go.Proofs.Tryz.f324 = true := by kernel_rfl) : FnOk Go.Proofs.Tryz.prog Gs 324 Go.Proofs.Tryz.f324 := fnOk_of Go.Proofs.Tryz.func324 (by kernel_rfl) h
theorem fok325 (Gs : List Nat) (h : fnCheck Gs Go.Proofs.Tryz.f325 = true := by kernel_rfl) : FnOk Go.Proofs.Tryz.prog Gs 325 Go.Proofs.Tryz.f325 := fnOk_of Go.Proofs.Tryz.func325 (by kernel_rfl) h
theorem fok330 (Gs : List Nat) (h : fnCheck Gs Go.Proofs.Tryz.f330 = true := by kernel_rfl) : FnOk Go.Proofs.Tryz.prog Gs 330 Go.Proofs.Tryz.f330 := fnOk_of Go.Proofs.Tryz.func330 (by kernel_rfl) h
theorem fok333 (Gs : List Nat) (h : fnCheck Gs Go.Proofs.Tryz.f333 = true := by kernel_rfl) : FnOk Go.Proofs.Tryz.prog Gs 333 Go.Proofs.Tryz.f333 := fnOk_of Go.Proofs.Tryz.func333 (by kernel_rfl) h
theorem fok335 (Gs : List Nat) (h : fnCheck Gs Go.Proofs.Tryz.f335 = true := by kernel_rfl) : FnOk Go.Proofs.Tryz.prog Gs 335 Go.Proofs.Tryz.f335 := fnOk_of Go.Proofs.Tryz.func335 (by kernel_rfl) h
theorem fok336 (Gs : List Nat) (h : fnCheck Gs Go.Proofs.Tryz.f336 = true := by kernel_rfl) : FnOk Go.Proofs.Tryz.prog Gs 336 Go.Proofs.Tryz.f336 := fnOk_of Go.Proofs.Tryz.func336 (by kernel_rfl) h
theorem fok337 (Gs : List Nat) (h : fnCheck Gs Go.Proofs.Tryz.f337 = true := by kernel_rfl) : FnOk Go.Proofs.Tryz.prog Gs 337 Go.Proofs.Tryz.f337 := fnOk_of Go.Proofs.Tryz.func337 (by kernel_rfl) h
theorem fok338 (Gs : List Nat) (h : fnCheck Gs Go.Proofs.Tryz.f338 = true := by kernel_rfl) : FnOk Go.Proofs.Tryz.prog Gs 338 Go.Proofs.Tryz.f338 := fnOk_of Go.Proofs.Tryz.func338 (by kernel_rfl) h
theorem fok360 (Gs : List Nat) (h : fnCheck Gs Go.Proofs.Tryz.f360 = true := by kernel_rfl) : FnOk Go.Proofs.Tryz.prog Gs 360 Go.Proofs.Tryz.f360 := fnOk_of Go.Proofs.Tryz.func360 (by kernel_rfl) h
theorem fok361 (Gs : List Nat) (h : fnCheck Gs Go.Proofs.Tryz.f361 = true := by kernel_rfl) : FnOk Go.Proofs.Tryz.prog Gs 361 Go.Proofs.Tryz.f361 := fnOk_of Go.Proofs.Tryz.func361 (by kernel_rfl) h
theorem fok362 (Gs : List Nat) (h : fnCheck Gs Go.Proofs.Tryz.f362 = true := by kernel_rfl) : FnOk Go.Proofs.Tryz.prog Gs 362 Go.Proofs.Tryz.f362 := fnOk_of Go.Proofs.Tryz.func362 (by kernel_rfl) h
theorem fok363 (Gs : List Nat) (h : fnCheck Gs Go.Proofs.Tryz.f363 = true := by kernel_rfl) : FnOk Go.Proofs.Tryz.prog Gs 363 Go.Proofs.Tryz.f363 := fnOk_of Go.Proofs.Tryz.func363 (by kernel_rfl) h
theorem fok364 (Gs : List Nat) (h : fnCheck Gs Go.Proofs.Tryz.f364 = true := by kernel_rfl) : FnOk Go.Proofs.Tryz.prog Gs 364 Go.Proofs.Tryz.f364 := fnOk_of Go.Proofs.Tryz.func364 (by kernel_rfl) h
theorem fok365 (Gs : List Nat) (h : fnCheck Gs Go.Proofs.Tryz.f365 = true := by kernel_rfl) : FnOk Go.Proofs.Tryz.prog Gs 365 Go.Proofs.Tryz.f365 := fnOk_of Go.Proofs.Tryz.func365 (by kernel_rfl) h
theorem fok366 (Gs : List Nat) (h : fnCheck Gs Go.Proofs.Tryz.f366 = true := by kernel_rfl) : FnOk Go.Proofs.Tryz.prog Gs 366 Go.Proofs.Tryz.f366 := fnOk_of Go.Proofs.Tryz.func366 (by kernel_rfl) h
theorem fok367 (Gs : List Nat) (h : fnCheck Gs Go.Proofs.Tryz.f367 = true := by kernel_rfl) : FnOk Go.Proofs.Tryz.prog Gs 367 Go.Proofs.Tryz.f367 := fnOk_of Go.Proofs.Tryz.func367 (by kernel_rfl) h
theorem fok368 (Gs : List Nat) (h : fnCheck Gs Go.Proofs.Tryz.f368 = true := by kernel_rfl) : FnOk Go.Proofs.Tryz.prog Gs 368 Go.Proofs.Tryz.f368 := fnOk_of Go.Proofs.Tryz.func368 (by kernel_rfl) h
theorem fok369 (Gs : List Nat) (h : fnCheck Gs Go.Proofs.Tryz.f369 = true := by kernel_rfl) : FnOk Go.Proofs.Tryz.prog Gs 369 Go.Proofs.Tryz.f369 := fnOk_of Go.Proofs.Tryz.func369 (by kernel_rfl) h
theorem fok370 (Gs : List Nat) (h : fnCheck Gs Go.Proofs.Tryz.f370 = true := by kernel_rfl) : FnOk Go.Proofs.Tryz.prog Gs 370 Go.Proofs.Tryz.f370 := fnOk_of Go.Proofs.Tryz.func370 (by kernel_rfl) h
theorem fok371 (Gs : List Nat) (h : fnCheck Gs Go.Proofs.Tryz.f371 = true := by kernel_rfl) : FnOk Go.Proofs.Tryz.prog Gs 371 Go.Proofs.Tryz.f371 := fnOk_of Go.Proofs.Tryz.func371 (by kernel_rfl) h
theorem fok372 (Gs : List Nat) (h : fnCheck Gs Go.Proofs.Tryz.f372 = true := by kernel_rfl) : FnOk Go.Proofs.Tryz.prog Gs 372 Go.Proofs.Tryz.f372 := fnOk_of Go.Proofs.Tryz.func372 (by kernel_rfl) h
theorem fok373 (Gs : List Nat) (h : fnCheck Gs Go.Proofs.Tryz.f373 = true := by kernel_rfl) : FnOk Go.Proofs.Tryz.prog Gs 373 Go.Proofs.Tryz.f373 := fnOk_of Go.Proofs.Tryz.func373 (by kernel_rfl) h
theorem fok374 (Gs : List Nat) (h : fnCheck Gs Go.Proofs.Tryz.f374 = true := by kernel_rfl) : FnOk Go.Proofs.Tryz.prog Gs 374 Go.Proofs.Tryz.f374 := fnOk_of Go.Proofs.Tryz.func374 (by kernel_rfl) h
theorem fok375 (Gs : List Nat) (h : fnCheck Gs Go.Proofs.Tryz.f375 = true := by kernel_rfl) : FnOk Go.Proofs.Tryz.prog Gs 375 Go.Proofs.Tryz.f375 := fnOk_of Go.Proofs.Tryz.func375 (by kernel_rfl) h
theorem fok377 (Gs : List Nat) (h : fnCheck Gs Go.Proofs.Tryz.f377 = true := by kernel_rfl) : FnOk Go.Proofs.Tryz.prog Gs 377 Go.Proofs.Tryz.f377 := fnOk_of Go.Proofs.Tryz.func377 (by kernel_rfl) h
theorem fok381 (Gs : List Nat) (h : fnCheck Gs Go.Proofs.Tryz.f381 = true := by kernel_rfl) : FnOk Go.Proofs.Tryz.prog Gs 381 Go.Proofs.Tryz.f381 := fnOk_of Go.Proofs.Tryz.func381 (by kernel_rfl) h
theorem fok391 (Gs : List Nat) (h : fnCheck Gs Go.Proofs.Tryz.f391 = true := by kernel_rfl) : FnOk Go.Proofs.Tryz.prog Gs 391 Go.Proofs.Tryz.f391 := fnOk_of Go.Proofs.Tryz.func391 (by kernel_rfl) h
theorem fok392 (Gs : List Nat) (h : fnCheck Gs Go.Proofs.Tryz.f392 = true := by kernel_rfl) : FnOk Go.Proofs.Tryz.prog Gs 392 Go.Proofs.Tryz.f392 := fnOk_of Go.Proofs.Tryz.func392 (by kernel_rfl) h
theorem fok393 (Gs : List Nat) (h : fnCheck Gs Go.Proofs.Tryz.f393 = true := by kernel_rfl) : FnOk Go.Proofs.Tryz.prog Gs 393 Go.Proofs.Tryz.f393 := fnOk_of Go.Proofs.Tryz.func393 (by kernel_rfl) h
theorem fok394 (Gs : List Nat) (h : fnCheck Gs Go.Proofs.Tryz.f394 = true := by kernel_rfl) : FnOk Go.Proofs.Tryz.prog Gs 394 Go.Proofs.Tryz.f394 := fnOk_of Go.Proofs.Tryz.func394 (by kernel_rfl) h
theorem fok400 (Gs : List Nat) (h : fnCheck Gs Go.Proofs.Tryz.f400 = true := by kernel_rfl) : FnOk Go.Proofs.Tryz.prog Gs 400 Go.Proofs.Tryz.f400 := fnOk_of Go.Proofs.Tryz.func400 (by kernel_rfl) h
theorem fok401 (Gs : List Nat) (h : fnCheck Gs Go.Proofs.Tryz.f401 = true := by kernel_rfl) : FnOk Go.Proofs.Tryz.prog Gs 401 Go.Proofs.Tryz.f401 := fnOk_of Go.Proofs.Tryz.func401 (by kernel_rfl) h
theorem fok402 (Gs : List Nat) (h : fnCheck Gs Go.Proofs.Tryz.f402 = true := by kernel_rfl) : FnOk Go.Proofs.Tryz.prog Gs 402 Go.Proofs.Tryz.f402 := fnOk_of Go.Proofs.Tryz.func402 (by kernel_rfl) h
theorem fok403 (Gs : List Nat) (h : fnCheck Gs Go.Proofs.Tryz.f403 = true := by kernel_rfl) : FnOk Go.Proofs.Tryz.prog Gs 403 Go.Proofs.Tryz.f403 := fnOk_of Go.Proofs.Tryz.func403 (by kernel_rfl) h
theorem fok405 (Gs : List Nat) (h : fnCheck Gs Go.Proofs.Tryz.f405 = true := by kernel_rfl) : FnOk Go.Proofs.Tryz.prog Gs 405 Go.Proofs.Tryz.f405 := fnOk_of Go.Proofs.Tryz.func405 (by kernel_rfl) h
theorem fok407 (Gs : List Nat) (h : fnCheck Gs Go.Proofs.Tryz.f407 = true := by kernel_rfl) : FnOk Go.Proofs.Tryz.prog Gs 407 Go.Proofs.Tryz.f407 := fnOk_of Go.Proofs.Tryz.func407 (by kernel_rfl) h
theorem fok408 (Gs : List Nat) (h : fnCheck Gs Go.Proofs.Tryz.f408 = true := by kernel_rfl) : FnOk Go.Proofs.Tryz.prog Gs 408 Go.Proofs.Tryz.f408 := fnOk_of Go.Proofs.Tryz.func408 (by kernel_rfl) h
theorem fok409 (Gs : List Nat) (h : fnCheck Gs Go.Proofs.Tryz.f409 = true := by kernel_rfl) : FnOk Go.Proofs.Tryz.prog Gs 409 Go.Proofs.Tryz.f409 := fnOk_of Go.Proofs.Tryz.func409 (by kernel_rfl) h
theorem fnT_entries : fnT.entries = [(319, .go Go.Proofs.Tryz.f319), (95, .go Go.Proofs.Tryz.f95), (159, .go Go.Proofs.Tryz.f159), (47, .go Go.Proofs.Tryz.f47), (79, .go Go.Proofs.Tryz.f79), (143, .go Go.Proofs.Tryz.f143), (335, .go Go.Proofs.Tryz.f335), (303, .go Go.Proofs.Tryz.f303), (239, .go Go.Proofs.Tryz.f239), (367, .go Go.Proofs.Tryz.f367), (23, .go Go.Proofs.Tryz.f23), (135, .go Go.Proofs.Tryz.f135), (263, .go Go.Proofs.Tryz.f263), (391, .go Go.Proofs.Tryz.f391), (167, .go Go.Proofs.Tryz.f167), (231, .go Go.Proofs.Tryz.f231), (55, .go Go.Proofs.Tryz.f55), (87, .go Go.Proofs.Tryz.f87), (151, .go Go.Proofs.Tryz.f151), (407, .go Go.Proofs.Tryz.f407), (311, .go Go.Proofs.Tryz.f311), (375, .go Go.Proofs.Tryz.f375), (19, .go Go.Proofs.Tryz.f19), (131, .go Go.Proofs.Tryz.f131), (323, .go Go.Proofs.Tryz.f323), (99, .orc .rept), (163, .go Go.Proofs.Tryz.f163), (227, .go Go.Proofs.Tryz.f227), (51, .go Go.Proofs.Tryz.f51), (83, .go Go.Proofs.Tryz.f83), (147, .go Go.Proofs.Tryz.f147), (403, .go Go.Proofs.Tryz.f403), (307, .go Go.Proofs.Tryz.f307), (243, .go Go.Proofs.Tryz.f243), (371, .go Go.Proofs.Tryz.f371), (43, .go Go.Proofs.Tryz.f43), (139, .go Go.Proofs.Tryz.f139), (107, .go Go.Proofs.Tryz.f107), (299, .orc .indexByteString), (235, .go Go.Proofs.Tryz.f235), (363, .go Go.Proofs.Tryz.f363), (91, .go Go.Proofs.Tryz.f91), (155, .go Go.Proofs.Tryz.f155), (123, .go Go.Proofs.Tryz.f123), (315, .go Go.Proofs.Tryz.f315), (251, .go Go.Proofs.Tryz.f251), (17, .go Go.Proofs.Tryz.f17), (321, .go Go.Proofs.Tryz.f321), (225, .go Go.Proofs.Tryz.f225), (49, .go Go.Proofs.Tryz.f49), (81, .go Go.Proofs.Tryz.f81), (145, .go Go.Proofs.Tryz.f145), (401, .go Go.Proofs.Tryz.f401), (337, .go Go.Proofs.Tryz.f337), (305, .go Go.Proofs.Tryz.f305), (241, .go Go.Proofs.Tryz.f241), (369, .go Go.Proofs.Tryz.f369), (25, .go Go.Proofs.Tryz.f25), (41, .go Go.Proofs.Tryz.f41), (137, .go Go.Proofs.Tryz.f137), (393, .go Go.Proofs.Tryz.f393), (233, .go Go.Proofs.Tryz.f233), (361, .go Go.Proofs.Tryz.f361), (89, .go Go.Proofs.Tryz.f89), (153, .go Go.Proofs.Tryz.f153), (409, .go Go.Proofs.Tryz.f409), (313, .go Go.Proofs.Tryz.f313), (249, .go Go.Proofs.Tryz.f249), (377, .go Go.Proofs.Tryz.f377), (13, .go Go.Proofs.Tryz.f13), (21, .go Go.Proofs.Tryz.f21), (133, .go Go.Proofs.Tryz.f133), (261, .go Go.Proofs.Tryz.f261), (325, .go Go.Proofs.Tryz.f325), (229, .go Go.Proofs.Tryz.f229), (53, .go Go.Proofs.Tryz.f53), (85, .go Go.Proofs.Tryz.f85), (149, .go Go.Proofs.Tryz.f149), (405, .go Go.Proofs.Tryz.f405), (181, .go Go.Proofs.Tryz.f181), (309, .go Go.Proofs.Tryz.f309), (245, .go Go.Proofs.Tryz.f245), (373, .go Go.Proofs.Tryz.f373), (45, .go Go.Proofs.Tryz.f45), (77, .go Go.Proofs.Tryz.f77), (141, .go Go.Proofs.Tryz.f141), (333, .go Go.Proofs.Tryz.f333), (301, .go Go.Proofs.Tryz.f301), (237, .go Go.Proofs.Tryz.f237), (365, .go Go.Proofs.Tryz.f365), (93, .go Go.Proofs.Tryz.f93), (157, .go Go.Proofs.Tryz.f157), (317, .go Go.Proofs.Tryz.f317), (381, .go Go.Proofs.Tryz.f381), (8, .go Go.Proofs.Tryz.f8), (16, .go Go.Proofs.Tryz.f16), (320, .go Go.Proofs.Tryz.f320), (160, .go Go.Proofs.Tryz.f160), (224, .go Go.Proofs.Tryz.f224), (48, .go Go.Proofs.Tryz.f48), (80, .go Go.Proofs.Tryz.f80), (144, .go Go.Proofs.Tryz.f144), (400, .go Go.Proofs.Tryz.f400), (208, .go Go.Proofs.Tryz.f208), (336, .go Go.Proofs.Tryz.f336), (304, .go Go.Proofs.Tryz.f304), (240, .go Go.Proofs.Tryz.f240), (368, .go Go.Proofs.Tryz.f368), (24, .go Go.Proofs.Tryz.f24), (40, .go Go.Proofs.Tryz.f40), (136, .go Go.Proofs.Tryz.f136), (264, .go Go.Proofs.Tryz.f264), (392, .go Go.Proofs.Tryz.f392), (296, .go Go.Proofs.Tryz.f296), (232, .go Go.Proofs.Tryz.f232), (360, .go Go.Proofs.Tryz.f360), (56, .go Go.Proofs.Tryz.f56), (88, .go Go.Proofs.Tryz.f88), (152, .go Go.Proofs.Tryz.f152), (408, .go Go.Proofs.Tryz.f408), (312, .go Go.Proofs.Tryz.f312), (20, .go Go.Proofs.Tryz.f20), (132, .go Go.Proofs.Tryz.f132), (260, .go Go.Proofs.Tryz.f260), (324, .go Go.Proofs.Tryz.f324), (164, .go Go.Proofs.Tryz.f164), (228, .go Go.Proofs.Tryz.f228), (52, .go Go.Proofs.Tryz.f52), (84, .go Go.Proofs.Tryz.f84), (148, .go Go.Proofs.Tryz.f148), (308, .go Go.Proofs.Tryz.f308), (244, .go Go.Proofs.Tryz.f244), (372, .go Go.Proofs.Tryz.f372), (44, .go Go.Proofs.Tryz.f44), (140, .go Go.Proofs.Tryz.f140), (300, .go Go.Proofs.Tryz.f300), (236, .go Go.Proofs.Tryz.f236), (364, .go Go.Proofs.Tryz.f364), (92, .go Go.Proofs.Tryz.f92), (156, .go Go.Proofs.Tryz.f156), (316, .go Go.Proofs.Tryz.f316), (258, .go Go.Proofs.Tryz.f258), (322, .go Go.Proofs.Tryz.f322), (162, .go Go.Proofs.Tryz.f162), (226, .go Go.Proofs.Tryz.f226), (50, .go Go.Proofs.Tryz.f50), (82, .go Go.Proofs.Tryz.f82), (146, .go Go.Proofs.Tryz.f146), (402, .go Go.Proofs.Tryz.f402), (338, .go Go.Proofs.Tryz.f338), (306, .go Go.Proofs.Tryz.f306), (242, .go Go.Proofs.Tryz.f242), (370, .go Go.Proofs.Tryz.f370), (26, .go Go.Proofs.Tryz.f26), (42, .go Go.Proofs.Tryz.f42), (138, .go Go.Proofs.Tryz.f138), (394, .go Go.Proofs.Tryz.f394), (330, .go Go.Proofs.Tryz.f330), (234, .go Go.Proofs.Tryz.f234), (362, .go Go.Proofs.Tryz.f362), (90, .go Go.Proofs.Tryz.f90), (154, .go Go.Proofs.Tryz.f154), (218, .go Go.Proofs.Tryz.f218), (314, .go Go.Proofs.Tryz.f314), (250, .go Go.Proofs.Tryz.f250), (14, .go Go.Proofs.Tryz.f14), (22, .go Go.Proofs.Tryz.f22), (134, .go Go.Proofs.Tryz.f134), (262, .go Go.Proofs.Tryz.f262), (326, .orc .noEscape), (166, .go Go.Proofs.Tryz.f166), (230, .go Go.Proofs.Tryz.f230), (54, .go Go.Proofs.Tryz.f54), (86, .go Go.Proofs.Tryz.f86), (150, .go Go.Proofs.Tryz.f150), (182, .go Go.Proofs.Tryz.f182), (310, .go Go.Proofs.Tryz.f310), (246, .go Go.Proofs.Tryz.f246), (374, .go Go.Proofs.Tryz.f374), (46, .go Go.Proofs.Tryz.f46), (78, .go Go.Proofs.Tryz.f78), (142, .go Go.Proofs.Tryz.f142), (302, .go Go.Proofs.Tryz.f302), (238, .go Go.Proofs.Tryz.f238), (366, .go Go.Proofs.Tryz.f366), (94, .go Go.Proofs.Tryz.f94), (158, .go Go.Proofs.Tryz.f158), (318, .go Go.Proofs.Tryz.f318)] := by kernel_rfl
theorem fnT_ok (o99 : OrcOk Go.Proofs.Tryz.prog [0, 1, 2] 99 .rept) (o299 : OrcOk Go.Proofs.Tryz.prog [0, 1, 2] 299 .indexByteString) (o326 : OrcOk Go.Proofs.Tryz.prog [0, 1, 2] 326 .noEscape) : FnsOk Go.Proofs.Tryz.prog [0, 1, 2] fnT := fnsOk_of (by
  rw [fnT_entries]
  intro x hx
  simp only [List.mem_cons, List.not_mem_nil, or_false] at hx
  rcases hx with rfl | rfl | rfl | rfl | rfl | rfl | rfl | rfl | rfl | rfl | rfl | rfl | rfl | rfl | rfl | rfl | rfl | rfl | rfl | rfl | rfl | rfl | rfl | rfl | rfl | rfl | rfl | rfl | rfl | rfl | rfl | rfl | rfl | rfl | rfl | rfl | rfl | rfl | rfl | rfl | rfl | rfl | rfl | rfl | rfl | rfl | rfl | rfl | rfl | rfl | rfl | rfl | rfl | rfl | rfl | rfl | rfl | rfl | rfl | rfl | rfl | rfl | rfl | rfl | rfl | rfl | rfl | rfl | rfl | rfl | rfl | rfl | rfl | rfl | rfl | rfl | rfl | rfl | rfl | rfl | rfl | rfl | rfl | rfl | rfl | rfl | rfl | rfl | rfl | rfl | rfl | rfl | rfl | rfl | rfl | rfl | rfl | rfl | rfl | rfl | rfl | rfl | rfl | rfl | rfl | rfl | rfl | rfl | rfl | rfl | rfl | rfl | rfl | rfl | rfl | rfl | rfl | rfl | rfl | rfl | rfl | rfl | rfl | rfl | rfl | rfl | rfl | rfl | rfl | rfl | rfl | rfl | rfl | rfl | rfl | rfl | rfl | rfl | rfl | rfl | rfl | rfl | rfl | rfl | rfl | rfl | rfl | rfl | rfl | rfl | rfl | rfl | rfl | rfl | rfl | rfl | rfl | rfl | rfl | rfl | rfl | rfl | rfl | rfl | rfl | rfl | rfl | rfl | rfl | rfl | rfl | rfl | rfl | rfl | rfl | rfl | rfl | rfl | rfl | rfl | rfl | rfl | rfl | rfl | rfl | rfl | rfl | rfl
  · exact fok319 [0, 1, 2]
  · exact fok95 [0, 1, 2]
  · exact fok159 [0, 1, 2]
  · exact fok47 [0, 1, 2]
  · exact fok79 [0, 1, 2]
  · exact fok143 [0, 1, 2]
  · exact fok335 [0, 1, 2]
  · exact fok303 [0, 1, 2]
  · exact fok239 [0, 1, 2]
  · exact fok367 [0, 1, 2]
  · exact fok23 [0, 1, 2]
  · exact fok135 [0, 1, 2]
  · exact fok263 [0, 1, 2]
  · exact fok391 [0, 1, 2]
  · exact fok167 [0, 1, 2]
  · exact fok231 [0, 1, 2]
  · exact fok55 [0, 1, 2]
  · exact fok87 [0, 1, 2]
  · exact fok151 [0, 1, 2]
  · exact fok407 [0, 1, 2]
  · exact fok311 [0, 1, 2]
  · exact fok375 [0, 1, 2]
  · exact fok19 [0, 1, 2]
  · exact fok131 [0, 1, 2]
  · exact fok323 [0, 1, 2]
  · exact o99
  · exact fok163 [0, 1, 2]
  · exact fok227 [0, 1, 2]
  · exact fok51 [0, 1, 2]
  · exact fok83 [0, 1, 2]
  · exact fok147 [0, 1, 2]
  · exact fok403 [0, 1, 2]
  · exact fok307 [0, 1, 2]
  · exact fok243 [0, 1, 2]
  · exact fok371 [0, 1, 2]
  · exact fok43 [0, 1, 2]
  · exact fok139 [0, 1, 2]
  · exact fok107 [0, 1, 2]
  · exact o299
  · exact fok235 [0, 1, 2]
  · exact fok363 [0, 1, 2]
  · exact fok91 [0, 1, 2]
  · exact fok155 [0, 1, 2]
  · exact fok123 [0, 1, 2]
  · exact fok315 [0, 1, 2]
  · exact fok251 [0, 1, 2]
  · exact fok17 [0, 1, 2]
  · exact fok321 [0, 1, 2]
  · exact fok225 [0, 1, 2]
  · exact fok49 [0, 1, 2]
  · exact fok81 [0, 1, 2]
  · exact fok145 [0, 1, 2]
  · exact fok401 [0, 1, 2]
  · exact fok337 [0, 1, 2]
  · exact fok305 [0, 1, 2]
  · exact fok241 [0, 1, 2]
  · exact fok369 [0, 1, 2]
  · exact fok25 [0, 1, 2]
  · exact fok41 [0, 1, 2]
  · exact fok137 [0, 1, 2]
  · exact fok393 [0, 1, 2]
  · exact fok233 [0, 1, 2]
  · exact fok361 [0, 1, 2]
  · exact fok89 [0, 1, 2]
  · exact fok153 [0, 1, 2]
  · exact fok409 [0, 1, 2]
  · exact fok313 [0, 1, 2]
  · exact fok249 [0, 1, 2]
  · exact fok377 [0, 1, 2]
  · exact fok13 [0, 1, 2]
  · exact fok21 [0, 1, 2]
  · exact fok133 [0, 1, 2]
  · exact fok261 [0, 1, 2]
  · exact fok325 [0, 1, 2]
  · exact fok229 [0, 1, 2]
  · exact fok53 [0, 1, 2]
  · exact fok85 [0, 1, 2]
  · exact fok149 [0, 1, 2]
  · exact fok405 [0, 1, 2]
  · exact fok181 [0, 1, 2]
  · exact fok309 [0, 1, 2]
  · exact fok245 [0, 1, 2]
  · exact fok373 [0, 1, 2]
  · exact fok45 [0, 1, 2]
  · exact fok77 [0, 1, 2]
  · exact fok141 [0, 1, 2]
  · exact fok333 [0, 1, 2]
  · exact fok301 [0, 1, 2]
  · exact fok237 [0, 1, 2]
  · exact fok365 [0, 1, 2]
  · exact fok93 [0, 1, 2]
  · exact fok157 [0, 1, 2]
  · exact fok317 [0, 1, 2]
  · exact fok381 [0, 1, 2]
  · exact fok8 [0, 1, 2]
  · exact fok16 [0, 1, 2]
  · exact fok320 [0, 1, 2]
  · exact fok160 [0, 1, 2]
  · exact fok224 [0, 1, 2]
  · exact fok48 [0, 1, 2]
  · exact fok80 [0, 1, 2]
  · exact fok144 [0, 1, 2]
  · exact fok400 [0, 1, 2]
  · exact fok208 [0, 1, 2]
  · exact fok336 [0, 1, 2]
  · exact fok304 [0, 1, 2]
  · exact fok240 [0, 1, 2]
  · exact fok368 [0, 1, 2]
  · exact fok24 [0, 1, 2]
  · exact fok40 [0, 1, 2]
  · exact fok136 [0, 1, 2]
  · exact fok264 [0, 1, 2]
  · exact fok392 [0, 1, 2]
  · exact fok296 [0, 1, 2]
  · exact fok232 [0, 1, 2]
  · exact fok360 [0, 1, 2]
  · exact fok56 [0, 1, 2]
  · exact fok88 [0, 1, 2]
  · exact fok152 [0, 1, 2]
  · exact fok408 [0, 1, 2]
  · exact fok312 [0, 1, 2]
  · exact fok20 [0, 1, 2]
  · exact fok132 [0, 1, 2]
  · exact fok260 [0, 1, 2]
  · exact fok324 [0, 1, 2]
  · exact fok164 [0, 1, 2]
  · exact fok228 [0, 1, 2]
  · exact fok52 [0, 1, 2]
  · exact fok84 [0, 1, 2]
  · exact fok148 [0, 1, 2]
  · exact fok308 [0, 1, 2]
  · exact fok244 [0, 1, 2]
  · exact fok372 [0, 1, 2]
  · exact fok44 [0, 1, 2]
  · exact fok140 [0, 1, 2]
  · exact fok300 [0, 1, 2]
  · exact fok236 [0, 1, 2]
  · exact fok364 [0, 1, 2]
  · exact fok92 [0, 1, 2]
  · exact fok156 [0, 1, 2]
  · exact fok316 [0, 1, 2]
  · exact fok258 [0, 1, 2]
  · exact fok322 [0, 1, 2]
  · exact fok162 [0, 1, 2]
  · exact fok226 [0, 1, 2]
  · exact fok50 [0, 1, 2]
  · exact fok82 [0, 1, 2]
  · exact fok146 [0, 1, 2]
  · exact fok402 [0, 1, 2]
  · exact fok338 [0, 1, 2]
  · exact fok306 [0, 1, 2]
  · exact fok242 [0, 1, 2]
  · exact fok370 [0, 1, 2]
  · exact fok26 [0, 1, 2]
  · exact fok42 [0, 1, 2]
  · exact fok138 [0, 1, 2]
  · exact fok394 [0, 1, 2]
  · exact fok330 [0, 1, 2]
  · exact fok234 [0, 1, 2]
  · exact fok362 [0, 1, 2]
  · exact fok90 [0, 1, 2]
  · exact fok154 [0, 1, 2]
  · exact fok218 [0, 1, 2]
  · exact fok314 [0, 1, 2]
  · exact fok250 [0, 1, 2]
  · exact fok14 [0, 1, 2]
  · exact fok22 [0, 1, 2]
  · exact fok134 [0, 1, 2]
  · exact fok262 [0, 1, 2]
  · exact o326
  · exact fok166 [0, 1, 2]
  · exact fok230 [0, 1, 2]
  · exact fok54 [0, 1, 2]
  · exact fok86 [0, 1, 2]
  · exact fok150 [0, 1, 2]
  · exact fok182 [0, 1, 2]
  · exact fok310 [0, 1, 2]
  · exact fok246 [0, 1, 2]
  · exact fok374 [0, 1, 2]
  · exact fok46 [0, 1, 2]
  · exact fok78 [0, 1, 2]
  · exact fok142 [0, 1, 2]
  · exact fok302 [0, 1, 2]
  · exact fok238 [0, 1, 2]
  · exact fok366 [0, 1, 2]
  · exact fok94 [0, 1, 2]
  · exact fok158 [0, 1, 2]
  · exact fok318 [0, 1, 2])
theorem mixed : Go.Proofs.Tryz.prog.follows .mixedOrders = true := Go.Proofs.Tryz.checked.mixed
end NtH
