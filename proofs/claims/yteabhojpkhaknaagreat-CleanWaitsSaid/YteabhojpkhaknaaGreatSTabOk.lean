import Derived.Test.YteabhojpkhaknaaGreatSTab
import Derived.Test.YteabhojpkhaknaaGreatS6
import Derived.Test.YteabhojpkhaknaaGreatChecked
namespace NtZ
open Go Nt
set_option maxRecDepth 1000000
theorem tok3 : TyOk Go.Proofs.Tryz.prog 3 ty3 := ⟨Go.Proofs.Tryz.underlying3, ⟨Go.Proofs.Tryz.t3, by kernel_rfl, rfl, rfl, rfl⟩, fun h => Bool.noConfusion h, by kernel_rfl, by kernel_rfl, by kernel_rfl⟩
theorem tok4 : TyOk Go.Proofs.Tryz.prog 4 ty4 := ⟨Go.Proofs.Tryz.underlying4, ⟨Go.Proofs.Tryz.t4, by kernel_rfl, rfl, rfl, rfl⟩, fun h => Bool.noConfusion h, by kernel_rfl, by kernel_rfl, by kernel_rfl⟩
theorem tok5 : TyOk Go.Proofs.Tryz.prog 5 ty5 := ⟨Go.Proofs.Tryz.underlying5, ⟨Go.Proofs.Tryz.t5, by kernel_rfl, rfl, rfl, rfl⟩, fun h => Bool.noConfusion h, by kernel_rfl, by kernel_rfl, by kernel_rfl⟩
theorem tok9 : TyOk Go.Proofs.Tryz.prog 9 ty9 := ⟨Go.Proofs.Tryz.underlying9, ⟨Go.Proofs.Tryz.t9, by kernel_rfl, rfl, rfl, rfl⟩, fun h => Bool.noConfusion h, by kernel_rfl, by kernel_rfl, by kernel_rfl⟩
theorem tok22 : TyOk Go.Proofs.Tryz.prog 22 ty22 := ⟨Go.Proofs.Tryz.underlying22, ⟨Go.Proofs.Tryz.t22, by kernel_rfl, rfl, rfl, rfl⟩, fun h => Bool.noConfusion h, by kernel_rfl, by kernel_rfl, by kernel_rfl⟩
theorem tok23 : TyOk Go.Proofs.Tryz.prog 23 ty23 := ⟨Go.Proofs.Tryz.underlying23, ⟨Go.Proofs.Tryz.t23, by kernel_rfl, rfl, rfl, rfl⟩, fun h => Bool.noConfusion h, by kernel_rfl, by kernel_rfl, by kernel_rfl⟩
theorem tok25 : TyOk Go.Proofs.Tryz.prog 25 ty25 := ⟨Go.Proofs.Tryz.underlying25, ⟨Go.Proofs.Tryz.t25, by kernel_rfl, rfl, rfl, rfl⟩, fun h => Bool.noConfusion h, by kernel_rfl, by kernel_rfl, by kernel_rfl⟩
theorem tok26 : TyOk Go.Proofs.Tryz.prog 26 ty26 := ⟨Go.Proofs.Tryz.underlying26, ⟨Go.Proofs.Tryz.t26, by kernel_rfl, rfl, rfl, rfl⟩, fun h => Bool.noConfusion h, by kernel_rfl, by kernel_rfl, by kernel_rfl⟩
theorem tok28 : TyOk Go.Proofs.Tryz.prog 28 ty28 := ⟨Go.Proofs.Tryz.underlying28, ⟨Go.Proofs.Tryz.t28, by kernel_rfl, rfl, rfl, rfl⟩, fun h => Bool.noConfusion h, by kernel_rfl, by kernel_rfl, by kernel_rfl⟩
theorem tok31 : TyOk Go.Proofs.Tryz.prog 31 ty31 := ⟨Go.Proofs.Tryz.underlying31, ⟨Go.Proofs.Tryz.t31, by kernel_rfl, rfl, rfl, rfl⟩, fun h => Bool.noConfusion h, by kernel_rfl, by kernel_rfl, by kernel_rfl⟩
theorem tok37 : TyOk Go.Proofs.Tryz.prog 37 ty37 := ⟨Go.Proofs.Tryz.underlying37, ⟨Go.Proofs.Tryz.t37, by kernel_rfl, rfl, rfl, rfl⟩, fun _ => ⟨by kernel_rfl, by kernel_rfl⟩, by kernel_rfl, by kernel_rfl, by kernel_rfl⟩
theorem tok45 : TyOk Go.Proofs.Tryz.prog 45 ty45 := ⟨Go.Proofs.Tryz.underlying45, ⟨Go.Proofs.Tryz.t45, by kernel_rfl, rfl, rfl, rfl⟩, fun h => Bool.noConfusion h, by kernel_rfl, by kernel_rfl, by kernel_rfl⟩
theorem tok56 : TyOk Go.Proofs.Tryz.prog 56 ty56 := ⟨Go.Proofs.Tryz.underlying56, ⟨Go.Proofs.Tryz.t56, by kernel_rfl, rfl, rfl, rfl⟩, fun _ => ⟨by kernel_rfl, by kernel_rfl⟩, by kernel_rfl, by kernel_rfl, by kernel_rfl⟩
theorem tok57 : TyOk Go.Proofs.Tryz.prog 57 ty57 := ⟨Go.Proofs.Tryz.underlying57, ⟨Go.Proofs.Tryz.t57, by kernel_rfl, rfl, rfl, rfl⟩, fun h => Bool.noConfusion h, by kernel_rfl, by kernel_rfl, by kernel_rfl⟩
theorem tok60 : TyOk Go.Proofs.Tryz.prog 60 ty60 := ⟨Go.Proofs.Tryz.underlying60, ⟨Go.Proofs.Tryz.t60, by kernel_rfl, rfl, rfl, rfl⟩, fun _ => ⟨by kernel_rfl, by kernel_rfl⟩, by kernel_rfl, by kernel_rfl, by kernel_rfl⟩
theorem tok67 : TyOk Go.Proofs.Tryz.prog 67 ty67 := ⟨Go.Proofs.Tryz.underlying67, ⟨Go.Proofs.Tryz.t67, by kernel_rfl, rfl, rfl, rfl⟩, fun h => Bool.noConfusion h, by kernel_rfl, by kernel_rfl, by kernel_rfl⟩
theorem tok69 : TyOk Go.Proofs.Tryz.prog 69 ty69 := ⟨Go.Proofs.Tryz.underlying69, ⟨Go.Proofs.Tryz.t69, by kernel_rfl, rfl, rfl, rfl⟩, fun h => Bool.noConfusion h, by kernel_rfl, by kernel_rfl, by kernel_rfl⟩
theorem tok72 : TyOk Go.Proofs.Tryz.prog 72 ty72 := ⟨Go.Proofs.Tryz.underlying72, ⟨Go.Proofs.Tryz.t72, by kernel_rfl, rfl, rfl, rfl⟩, fun _ => ⟨by kernel_rfl, by kernel_rfl⟩, by kernel_rfl, by kernel_rfl, by kernel_rfl⟩
theorem tok76 : TyOk Go.Proofs.Tryz.prog 76 ty76 := ⟨Go.Proofs.Tryz.underlying76, ⟨Go.Proofs.Tryz.t76, by kernel_rfl, rfl, rfl, rfl⟩, fun h => Bool.noConfusion h, by kernel_rfl, by kernel_rfl, by kernel_rfl⟩
theorem tok79 : TyOk Go.Proofs.Tryz.prog 79 ty79 := ⟨Go.Proofs.Tryz.underlying79, ⟨Go.Proofs.Tryz.t79, by kernel_rfl, rfl, rfl, rfl⟩, fun h => Bool.noConfusion h, by kernel_rfl, by kernel_rfl, by kernel_rfl⟩
theorem tok81 : TyOk Go.Proofs.Tryz.prog 81 ty81 := ⟨Go.Proofs.Tryz.underlying81, ⟨Go.Proofs.Tryz.t81, by kernel_rfl, rfl, rfl, rfl⟩, fun _ => ⟨by kernel_rfl, by kernel_rfl⟩, by kernel_rfl, by kernel_rfl, by kernel_rfl⟩
theorem tok84 : TyOk Go.Proofs.Tryz.prog 84 ty84 := ⟨Go.Proofs.Tryz.underlying84, ⟨Go.Proofs.Tryz.t84, by kernel_rfl, rfl, rfl, rfl⟩, fun h => Bool.noConfusion h, by kernel_rfl, by kernel_rfl, by kernel_rfl⟩
theorem tok85 : TyOk Go.Proofs.Tryz.prog 85 ty85 := ⟨Go.Proofs.Tryz.underlying85, ⟨Go.Proofs.Tryz.t85, by kernel_rfl, rfl, rfl, rfl⟩, fun h => Bool.noConfusion h, by kernel_rfl, by kernel_rfl, by kernel_rfl⟩
theorem tok86 : TyOk Go.Proofs.Tryz.prog 86 ty86 := ⟨Go.Proofs.Tryz.underlying86, ⟨Go.Proofs.Tryz.t86, by kernel_rfl, rfl, rfl, rfl⟩, fun h => Bool.noConfusion h, by kernel_rfl, by kernel_rfl, by kernel_rfl⟩
theorem tok87 : TyOk Go.Proofs.Tryz.prog 87 ty87 := ⟨Go.Proofs.Tryz.underlying87, ⟨Go.Proofs.Tryz.t87, by kernel_rfl, rfl, rfl, rfl⟩, fun h => Bool.noConfusion h, by kernel_rfl, by kernel_rfl, by kernel_rfl⟩
theorem tok88 : TyOk Go.Proofs.Tryz.prog 88 ty88 := ⟨Go.Proofs.Tryz.underlying88, ⟨Go.Proofs.Tryz.t88, by kernel_rfl, rfl, rfl, rfl⟩, fun h => Bool.noConfusion h, by kernel_rfl, by kernel_rfl, by kernel_rfl⟩
theorem tok90 : TyOk Go.Proofs.Tryz.prog 90 ty90 := ⟨Go.Proofs.Tryz.underlying90, ⟨Go.Proofs.Tryz.t90, by kernel_rfl, rfl, rfl, rfl⟩, fun _ => ⟨by kernel_rfl, by kernel_rfl⟩, by kernel_rfl, by kernel_rfl, by kernel_rfl⟩
theorem tok92 : TyOk Go.Proofs.Tryz.prog 92 ty92 := ⟨Go.Proofs.Tryz.underlying92, ⟨Go.Proofs.Tryz.t92, by kernel_rfl, rfl, rfl, rfl⟩, fun _ => ⟨by kernel_rfl, by kernel_rfl⟩, by kernel_rfl, by kernel_rfl, by kernel_rfl⟩
theorem tok97 : TyOk Go.Proofs.Tryz.prog 97 ty97 := ⟨Go.Proofs.Tryz.underlying97, ⟨Go.Proofs.Tryz.t97, by kernel_rfl, rfl, rfl, rfl⟩, fun _ => ⟨by kernel_rfl, by kernel_rfl⟩, by kernel_rfl, by kernel_rfl, by kernel_rfl⟩
theorem tok100 : TyOk Go.Proofs.Tryz.prog 100 ty100 := ⟨Go.Proofs.Tryz.underlying100, ⟨Go.Proofs.Tryz.t100, by kernel_rfl, rfl, rfl, rfl⟩, fun h => Bool.noConfusion h, by kernel_rfl, by kernel_rfl, by kernel_rfl⟩
theorem tok102 : TyOk Go.Proofs.Tryz.prog 102 ty102 := ⟨Go.Proofs.Tryz.underlying102, ⟨Go.Proofs.Tryz.t102, by kernel_rfl, rfl, rfl, rfl⟩, fun _ => ⟨by kernel_rfl, by kernel_rfl⟩, by kernel_rfl, by kernel_rfl, by kernel_rfl⟩
theorem tok113 : TyOk Go.Proofs.Tryz.prog 113 ty113 := ⟨Go.Proofs.Tryz.underlying113, ⟨Go.Proofs.Tryz.t113, by kernel_rfl, rfl, rfl, rfl⟩, fun _ => ⟨by kernel_rfl, by kernel_rfl⟩, by kernel_rfl, by kernel_rfl, by kernel_rfl⟩
theorem tok114 : TyOk Go.Proofs.Tryz.prog 114 ty114 := ⟨Go.Proofs.Tryz.underlying114, ⟨Go.Proofs.Tryz.t114, by kernel_rfl, rfl, rfl, rfl⟩, fun h => Bool.noConfusion h, by kernel_rfl, by kernel_rfl, by kernel_rfl⟩
theorem tok118 : TyOk Go.Proofs.Tryz.prog 118 ty118 := ⟨Go.Proofs.Tryz.underlying118, ⟨Go.Proofs.Tryz.t118, by kernel_rfl, rfl, rfl, rfl⟩, fun h => Bool.noConfusion h, by kernel_rfl, by kernel_rfl, by kernel_rfl⟩
theorem tok120 : TyOk Go.Proofs.Tryz.prog 120 ty120 := ⟨Go.Proofs.Tryz.underlying120, ⟨Go.Proofs.Tryz.t120, by kernel_rfl, rfl, rfl, rfl⟩, fun _ => ⟨by kernel_rfl, by kernel_rfl⟩, by kernel_rfl, by kernel_rfl, by kernel_rfl⟩
theorem tok122 : TyOk Go.Proofs.Tryz.prog 122 ty122 := ⟨Go.Proofs.Tryz.underlying122, ⟨Go.Proofs.Tryz.t122, by kernel_rfl, rfl, rfl, rfl⟩, fun _ => ⟨by kernel_rfl, by kernel_rfl⟩, by kernel_rfl, by kernel_rfl, by kernel_rfl⟩
theorem tok123 : TyOk Go.Proofs.Tryz.prog 123 ty123 := ⟨Go.Proofs.Tryz.underlying123, ⟨Go.Proofs.Tryz.t123, by kernel_rfl, rfl, rfl, rfl⟩, fun h => Bool.noConfusion h, by kernel_rfl, by kernel_rfl, by kernel_rfl⟩
theorem tok125 : TyOk Go.Proofs.Tryz.prog 125 ty125 := ⟨Go.Proofs.Tryz.underlying125, ⟨Go.Proofs.Tryz.t125, by kernel_rfl, rfl, rfl, rfl⟩, fun _ => ⟨by kernel_rfl, by kernel_rfl⟩, by kernel_rfl, by kernel_rfl, by kernel_rfl⟩
theorem tok126 : TyOk Go.Proofs.Tryz.prog 126 ty126 := ⟨Go.Proofs.Tryz.underlying126, ⟨Go.Proofs.Tryz.t126, by kernel_rfl, rfl, rfl, rfl⟩, fun h => Bool.noConfusion h, by kernel_rfl, by kernel_rfl, by kernel_rfl⟩
theorem tok128 : TyOk Go.Proofs.Tryz.prog 128 ty128 := ⟨Go.Proofs.Tryz.underlying128, ⟨Go.Proofs.Tryz.t128, by kernel_rfl, rfl, rfl, rfl⟩, fun _ => ⟨by kernel_rfl, by kernel_rfl⟩, by kernel_rfl, by kernel_rfl, by kernel_rfl⟩
theorem tok129 : TyOk Go.Proofs.Tryz.prog 129 ty129 := ⟨Go.Proofs.Tryz.underlying129, ⟨Go.Proofs.Tryz.t129, by kernel_rfl, rfl, rfl, rfl⟩, fun h => Bool.noConfusion h, by kernel_rfl, by kernel_rfl, by kernel_rfl⟩
theorem tok137 : TyOk Go.Proofs.Tryz.prog 137 ty137 := ⟨Go.Proofs.Tryz.underlying137, ⟨Go.Proofs.Tryz.t137, by kernel_rfl, rfl, rfl, rfl⟩, fun h => Bool.noConfusion h, by kernel_rfl, by kernel_rfl, by kernel_rfl⟩
theorem tok140 : TyOk Go.Proofs.Tryz.prog 140 ty140 := ⟨Go.Proofs.Tryz.underlying140, ⟨Go.Proofs.Tryz.t140, by kernel_rfl, rfl, rfl, rfl⟩, fun _ => ⟨by kernel_rfl, by kernel_rfl⟩, by kernel_rfl, by kernel_rfl, by kernel_rfl⟩
theorem tok154 : TyOk Go.Proofs.Tryz.prog 154 ty154 := ⟨Go.Proofs.Tryz.underlying154, ⟨Go.Proofs.Tryz.t154, by kernel_rfl, rfl, rfl, rfl⟩, fun _ => ⟨by kernel_rfl, by kernel_rfl⟩, by kernel_rfl, by kernel_rfl, by kernel_rfl⟩
theorem tok165 : TyOk Go.Proofs.Tryz.prog 165 ty165 := ⟨Go.Proofs.Tryz.underlying165, ⟨Go.Proofs.Tryz.t165, by kernel_rfl, rfl, rfl, rfl⟩, fun _ => ⟨by kernel_rfl, by kernel_rfl⟩, by kernel_rfl, by kernel_rfl, by kernel_rfl⟩
theorem tok167 : TyOk Go.Proofs.Tryz.prog 167 ty167 := ⟨Go.Proofs.Tryz.underlying167, ⟨Go.Proofs.Tryz.t167, by kernel_rfl, rfl, rfl, rfl⟩, fun _ => ⟨by kernel_rfl, by kernel_rfl⟩, by kernel_rfl, by kernel_rfl, by kernel_rfl⟩
theorem tok171 : TyOk Go.Proofs.Tryz.prog 171 ty171 := ⟨Go.Proofs.Tryz.underlying171, ⟨Go.Proofs.Tryz.t171, by kernel_rfl, rfl, rfl, rfl⟩, fun _ => ⟨by kernel_rfl, by kernel_rfl⟩, by kernel_rfl, by kernel_rfl, by kernel_rfl⟩
theorem tok174 : TyOk Go.Proofs.Tryz.prog 174 ty174 := ⟨Go.Proofs.Tryz.underlying174, ⟨Go.Proofs.Tryz.t174, by kernel_rfl, rfl, rfl, rfl⟩, fun h => Bool.noConfusion h, by kernel_rfl, by kernel_rfl, by kernel_rfl⟩
theorem tok194 : TyOk Go.Proofs.Tryz.prog 194 ty194 := ⟨Go.Proofs.Tryz.underlying194, ⟨Go.Proofs.Tryz.t194, by kernel_rfl, rfl, rfl, rfl⟩, fun h => Bool.noConfusion h, by kernel_rfl, by kernel_rfl, by kernel_rfl⟩
theorem tok198 : TyOk Go.Proofs.Tryz.prog 198 ty198 := ⟨Go.Proofs.Tryz.underlying198, ⟨Go.Proofs.Tryz.t198, by kernel_rfl, rfl, rfl, rfl⟩, fun h => Bool.noConfusion h, by kernel_rfl, by kernel_rfl, by kernel_rfl⟩
theorem tok199 : TyOk Go.Proofs.Tryz.prog 199 ty199 := ⟨Go.Proofs.Tryz.underlying199, ⟨Go.Proofs.Tryz.t199, by kernel_rfl, rfl, rfl, rfl⟩, fun h => Bool.noConfusion h, by kernel_rfl, by kernel_rfl, by kernel_rfl⟩
theorem tok201 : TyOk Go.Proofs.Tryz.prog 201 ty201 := ⟨Go.Proofs.Tryz.underlying201, ⟨Go.Proofs.Tryz.t201, by kernel_rfl, rfl, rfl, rfl⟩, fun _ => ⟨by kernel_rfl, by kernel_rfl⟩, by kernel_rfl, by kernel_rfl, by kernel_rfl⟩
theorem tok208 : TyOk Go.Proofs.Tryz.prog 208 ty208 := ⟨Go.Proofs.Tryz.underlying208, ⟨Go.Proofs.Tryz.t208, by kernel_rfl, rfl, rfl, rfl⟩, fun h => Bool.noConfusion h, by kernel_rfl, by kernel_rfl, by kernel_rfl⟩
theorem tok210 : TyOk Go.Proofs.Tryz.prog 210 ty210 := ⟨Go.Proofs.Tryz.underlying210, ⟨Go.Proofs.Tryz.t210, by kernel_rfl, rfl, rfl, rfl⟩, fun _ => ⟨by kernel_rfl, by kernel_rfl⟩, by kernel_rfl, by kernel_rfl, by kernel_rfl⟩
theorem tok214 : TyOk Go.Proofs.Tryz.prog 214 ty214 := ⟨Go.Proofs.Tryz.underlying214, ⟨Go.Proofs.Tryz.t214, by kernel_rfl, rfl, rfl, rfl⟩, fun _ => ⟨by kernel_rfl, by kernel_rfl⟩, by kernel_rfl, by kernel_rfl, by kernel_rfl⟩
theorem tok230 : TyOk Go.Proofs.Tryz.prog 230 ty230 := ⟨Go.Proofs.Tryz.underlying230, ⟨Go.Proofs.Tryz.t230, by kernel_rfl, rfl, rfl, rfl⟩, fun _ => ⟨by kernel_rfl, by kernel_rfl⟩, by kernel_rfl, by kernel_rfl, by kernel_rfl⟩
theorem tok232 : TyOk Go.Proofs.Tryz.prog 232 ty232 := ⟨Go.Proofs.Tryz.underlying232, ⟨Go.Proofs.Tryz.t232, by kernel_rfl, rfl, rfl, rfl⟩, fun _ => ⟨by kernel_rfl, by kernel_rfl⟩, by kernel_rfl, by kernel_rfl, by kernel_rfl⟩
theorem tok242 : TyOk Go.Proofs.Tryz.prog 242 ty242 := ⟨Go.Proofs.Tryz.underlying242, ⟨Go.Proofs.Tryz.t242, by kernel_rfl, rfl, rfl, rfl⟩, fun h => Bool.noConfusion h, by kernel_rfl, by kernel_rfl, by kernel_rfl⟩
theorem tok245 : TyOk Go.Proofs.Tryz.prog 245 ty245 := ⟨Go.Proofs.Tryz.underlying245, ⟨Go.Proofs.Tryz.t245, by kernel_rfl, rfl, rfl, rfl⟩, fun h => Bool.noConfusion h, by kernel_rfl, by kernel_rfl, by kernel_rfl⟩
theorem tok247 : TyOk Go.Proofs.Tryz.prog 247 ty247 := ⟨Go.Proofs.Tryz.underlying247, ⟨Go.Proofs.Tryz.t247, by kernel_rfl, rfl, rfl, rfl⟩, fun h => Bool.noConfusion h, by kernel_rfl, by kernel_rfl, by kernel_rfl⟩
theorem tok280 : TyOk Go.Proofs.Tryz.prog 280 ty280 := ⟨Go.Proofs.Tryz.underlying280, ⟨Go.Proofs.Tryz.t280, by kernel_rfl, rfl, rfl, rfl⟩, fun h => Bool.noConfusion h, by kernel_rfl, by kernel_rfl, by kernel_rfl⟩
theorem tok309 : TyOk Go.Proofs.Tryz.prog 309 ty309 := ⟨Go.Proofs.Tryz.underlying309, ⟨Go.Proofs.Tryz.t309, by kernel_rfl, rfl, rfl, rfl⟩, fun h => Bool.noConfusion h, by kernel_rfl, by kernel_rfl, by kernel_rfl⟩
theorem tok311 : TyOk Go.Proofs.Tryz.prog 311 ty311 := ⟨Go.Proofs.Tryz.underlying311, ⟨Go.Proofs.Tryz.t311, by kernel_rfl, rfl, rfl, rfl⟩, fun _ => ⟨by kernel_rfl, by kernel_rfl⟩, by kernel_rfl, by kernel_rfl, by kernel_rfl⟩
theorem tok320 : TyOk Go.Proofs.Tryz.prog 320 ty320 := ⟨Go.Proofs.Tryz.underlying320, ⟨Go.Proofs.Tryz.t320, by kernel_rfl, rfl, rfl, rfl⟩, fun h => Bool.noConfusion h, by kernel_rfl, by kernel_rfl, by kernel_rfl⟩
theorem tok331 : TyOk Go.Proofs.Tryz.prog 331 ty331 := ⟨Go.Proofs.Tryz.underlying331, ⟨Go.Proofs.Tryz.t331, by kernel_rfl, rfl, rfl, rfl⟩, fun h => Bool.noConfusion h, by kernel_rfl, by kernel_rfl, by kernel_rfl⟩
theorem tok338 : TyOk Go.Proofs.Tryz.prog 338 ty338 := ⟨Go.Proofs.Tryz.underlying338, ⟨Go.Proofs.Tryz.t338, by kernel_rfl, rfl, rfl, rfl⟩, fun h => Bool.noConfusion h, by kernel_rfl, by kernel_rfl, by kernel_rfl⟩
theorem tok341 : TyOk Go.Proofs.Tryz.prog 341 ty341 := ⟨Go.Proofs.Tryz.underlying341, ⟨Go.Proofs.Tryz.t341, by kernel_rfl, rfl, rfl, rfl⟩, fun h => Bool.noConfusion h, by kernel_rfl, by kernel_rfl, by kernel_rfl⟩
theorem tok343 : TyOk Go.Proofs.Tryz.prog 343 ty343 := ⟨Go.Proofs.Tryz.underlying343, ⟨Go.Proofs.Tryz.t343, by kernel_rfl, rfl, rfl, rfl⟩, fun h => Bool.noConfusion h, by kernel_rfl, by kernel_rfl, by kernel_rfl⟩
theorem tok389 : TyOk Go.Proofs.Tryz.prog 389 ty389 := ⟨Go.Proofs.Tryz.underlying389, ⟨Go.Proofs.Tryz.t389, by kernel_rfl, rfl, rfl, rfl⟩, fun h => Bool.noConfusion h, by kernel_rfl, by kernel_rfl, by kernel_rfl⟩
theorem tok408 : TyOk Go.Proofs.Tryz.prog 408 ty408 := ⟨Go.Proofs.Tryz.underlying408, ⟨Go.Proofs.Tryz.t408, by kernel_rfl, rfl, rfl, rfl⟩, fun h => Bool.noConfusion h, by kernel_rfl, by kernel_rfl, by kernel_rfl⟩
theorem tok410 : TyOk Go.Proofs.Tryz.prog 410 ty410 := ⟨Go.Proofs.Tryz.underlying410, ⟨Go.Proofs.Tryz.t410, by kernel_rfl, rfl, rfl, rfl⟩, fun _ => ⟨by kernel_rfl, by kernel_rfl⟩, by kernel_rfl, by kernel_rfl, by kernel_rfl⟩
theorem tok411 : TyOk Go.Proofs.Tryz.prog 411 ty411 := ⟨Go.Proofs.Tryz.underlying411, ⟨Go.Proofs.Tryz.t411, by kernel_rfl, rfl, rfl, rfl⟩, fun h => Bool.noConfusion h, by kernel_rfl, by kernel_rfl, by kernel_rfl⟩
theorem tok413 : TyOk Go.Proofs.Tryz.prog 413 ty413 := ⟨Go.Proofs.Tryz.underlying413, ⟨Go.Proofs.Tryz.t413, by kernel_rfl, rfl, rfl, rfl⟩, fun h => Bool.noConfusion h, by kernel_rfl, by kernel_rfl, by kernel_rfl⟩
theorem tok442 : TyOk Go.Proofs.Tryz.prog 442 ty442 := ⟨Go.Proofs.Tryz.underlying442, ⟨Go.Proofs.Tryz.t442, by kernel_rfl, rfl, rfl, rfl⟩, fun h => Bool.noConfusion h, by kernel_rfl, by kernel_rfl, by kernel_rfl⟩
theorem tyT_entries : tyT.entries = [(3, ty3), (31, ty31), (79, ty79), (23, ty23), (199, ty199), (167, ty167), (87, ty87), (343, ty343), (311, ty311), (247, ty247), (67, ty67), (331, ty331), (171, ty171), (411, ty411), (123, ty123), (5, ty5), (9, ty9), (129, ty129), (97, ty97), (81, ty81), (113, ty113), (25, ty25), (137, ty137), (201, ty201), (57, ty57), (37, ty37), (69, ty69), (389, ty389), (165, ty165), (85, ty85), (341, ty341), (309, ty309), (245, ty245), (45, ty45), (413, ty413), (125, ty125), (4, ty4), (128, ty128), (320, ty320), (208, ty208), (72, ty72), (232, ty232), (56, ty56), (88, ty88), (280, ty280), (408, ty408), (120, ty120), (100, ty100), (84, ty84), (28, ty28), (76, ty76), (140, ty140), (60, ty60), (92, ty92), (194, ty194), (210, ty210), (338, ty338), (114, ty114), (242, ty242), (26, ty26), (90, ty90), (154, ty154), (410, ty410), (122, ty122), (442, ty442), (22, ty22), (198, ty198), (102, ty102), (230, ty230), (86, ty86), (214, ty214), (118, ty118), (174, ty174), (126, ty126)] := by kernel_rfl
theorem tyT_ok : TabOK tyT Go.Proofs.Tryz.prog := tabOK_of (by
  rw [tyT_entries]
  intro x hx
  simp only [List.mem_cons, List.not_mem_nil, or_false] at hx
  rcases hx with rfl | rfl | rfl | rfl | rfl | rfl | rfl | rfl | rfl | rfl | rfl | rfl | rfl | rfl | rfl | rfl | rfl | rfl | rfl | rfl | rfl | rfl | rfl | rfl | rfl | rfl | rfl | rfl | rfl | rfl | rfl | rfl | rfl | rfl | rfl | rfl | rfl | rfl | rfl | rfl | rfl | rfl | rfl | rfl | rfl | rfl | rfl | rfl | rfl | rfl | rfl | rfl | rfl | rfl | rfl | rfl | rfl | rfl | rfl | rfl | rfl | rfl | rfl | rfl | rfl | rfl | rfl | rfl | rfl | rfl | rfl | rfl | rfl | rfl
  · exact tok3
  · exact tok31
  · exact tok79
  · exact tok23
  · exact tok199
  · exact tok167
  · exact tok87
  · exact tok343
  · exact tok311
  · exact tok247
  · exact tok67
  · exact tok331
  · exact tok171
  · exact tok411
  · exact tok123
  · exact tok5
  · exact tok9
  · exact tok129
  · exact tok97
  · exact tok81
  · exact tok113
  · exact tok25
  · exact tok137
  · exact tok201
  · exact tok57
  · exact tok37
  · exact tok69
  · exact tok389
  · exact tok165
  · exact tok85
  · exact tok341
  · exact tok309
  · exact tok245
  · exact tok45
  · exact tok413
  · exact tok125
  · exact tok4
  · exact tok128
  · exact tok320
  · exact tok208
  · exact tok72
  · exact tok232
  · exact tok56
  · exact tok88
  · exact tok280
  · exact tok408
  · exact tok120
  · exact tok100
  · exact tok84
  · exact tok28
  · exact tok76
  · exact tok140
  · exact tok60
  · exact tok92
  · exact tok194
  · exact tok210
  · exact tok338
  · exact tok114
  · exact tok242
  · exact tok26
  · exact tok90
  · exact tok154
  · exact tok410
  · exact tok122
  · exact tok442
  · exact tok22
  · exact tok198
  · exact tok102
  · exact tok230
  · exact tok86
  · exact tok214
  · exact tok118
  · exact tok174
  · exact tok126)
theorem fok5 (Gs : List Nat) (h : fnCheck Gs Go.Proofs.Tryz.f5 = true := by kernel_rfl) : FnOk Go.Proofs.Tryz.prog Gs 5 Go.Proofs.Tryz.f5 := fnOk_of Go.Proofs.Tryz.func5 (by kernel_rfl) h
theorem fok7 (Gs : List Nat) (h : fnCheck Gs Go.Proofs.Tryz.f7 = true := by kernel_rfl) : FnOk Go.Proofs.Tryz.prog Gs 7 Go.Proofs.Tryz.f7 := fnOk_of Go.Proofs.Tryz.func7 (by kernel_rfl) h
theorem fok8 (Gs : List Nat) (h : fnCheck Gs Go.Proofs.Tryz.f8 = true := by kernel_rfl) : FnOk Go.Proofs.Tryz.prog Gs 8 Go.Proofs.Tryz.f8 := fnOk_of Go.Proofs.Tryz.func8 (by kernel_rfl) h
theorem fok9 (Gs : List Nat) (h : fnCheck Gs Go.Proofs.Tryz.f9 = true := by kernel_rfl) : FnOk Go.Proofs.Tryz.prog Gs 9 Go.Proofs.Tryz.f9 := fnOk_of Go.Proofs.Tryz.func9 (by kernel_rfl) h
theorem fok10 (Gs : List Nat) (h : fnCheck Gs Go.Proofs.Tryz.f10 = true := by kernel_rfl) : FnOk Go.Proofs.Tryz.prog Gs 10 Go.Proofs.Tryz.f10 := fnOk_of Go.Proofs.Tryz.func10 (by kernel_rfl) h
theorem fok11 (Gs : List Nat) (h : fnCheck Gs Go.Proofs.Tryz.f11 = true := by kernel_rfl) : FnOk Go.Proofs.Tryz.prog Gs 11 Go.Proofs.Tryz.f11 := fnOk_of Go.Proofs.Tryz.func11 (by kernel_rfl) h
theorem fok12 (Gs : List Nat) (h : fnCheck Gs Go.Proofs.Tryz.f12 = true := by kernel_rfl) : FnOk Go.Proofs.Tryz.prog Gs 12 Go.Proofs.Tryz.f12 := fnOk_of Go.Proofs.Tryz.func12 (by kernel_rfl) h
theorem fok13 (Gs : List Nat) (h : fnCheck Gs Go.Proofs.Tryz.f13 = true := by kernel_rfl) : FnOk Go.Proofs.Tryz.prog Gs 13 Go.Proofs.Tryz.f13 := fnOk_of Go.Proofs.Tryz.func13 (by kernel_rfl) h
theorem fok17 (Gs : List Nat) (h : fnCheck Gs Go.Proofs.Tryz.f17 = true := by kernel_rfl) : FnOk Go.Proofs.Tryz.prog Gs 17 Go.Proofs.Tryz.f17 := fnOk_of Go.Proofs.Tryz.func17 (by kernel_rfl) h
theorem fok18 (Gs : List Nat) (h : fnCheck Gs Go.Proofs.Tryz.f18 = true := by kernel_rfl) : FnOk Go.Proofs.Tryz.prog Gs 18 Go.Proofs.Tryz.f18 := fnOk_of Go.Proofs.Tryz.func18 (by kernel_rfl) h
theorem fok19 (Gs : List Nat) (h : fnCheck Gs Go.Proofs.Tryz.f19 = true := by kernel_rfl) : FnOk Go.Proofs.Tryz.prog Gs 19 Go.Proofs.Tryz.f19 := fnOk_of Go.Proofs.Tryz.func19 (by kernel_rfl) h
theorem fok20 (Gs : List Nat) (h : fnCheck Gs Go.Proofs.Tryz.f20 = true := by kernel_rfl) : FnOk Go.Proofs.Tryz.prog Gs 20 Go.Proofs.Tryz.f20 := fnOk_of Go.Proofs.Tryz.func20 (by kernel_rfl) h
theorem fok21 (Gs : List Nat) (h : fnCheck Gs Go.Proofs.Tryz.f21 = true := by kernel_rfl) : FnOk Go.Proofs.Tryz.prog Gs 21 Go.Proofs.Tryz.f21 := fnOk_of Go.Proofs.Tryz.func21 (by kernel_rfl) h
theorem fok22 (Gs : List Nat) (h : fnCheck Gs Go.Proofs.Tryz.f22 = true := by kernel_rfl) : FnOk Go.Proofs.Tryz.prog Gs 22 Go.Proofs.Tryz.f22 := fnOk_of Go.Proofs.Tryz.func22 (by kernel_rfl) h
theorem fok23 (Gs : List Nat) (h : fnCheck Gs Go.Proofs.Tryz.f23 = true := by kernel_rfl) : FnOk Go.Proofs.Tryz.prog Gs 23 Go.Proofs.Tryz.f23 := fnOk_of Go.Proofs.Tryz.func23 (by kernel_rfl) h
theorem fok24 (Gs : List Nat) (h : fnCheck Gs Go.Proofs.Tryz.f24 = true := by kernel_rfl) : FnOk Go.Proofs.Tryz.prog Gs 24 Go.Proofs.Tryz.f24 := fnOk_of Go.Proofs.Tryz.func24 (by kernel_rfl) h
theorem fok25 (Gs : List Nat) (h : fnCheck Gs Go.Proofs.Tryz.f25 = true := by kernel_rfl) : FnOk Go.Proofs.Tryz.prog Gs 25 Go.Proofs.Tryz.f25 := fnOk_of Go.Proofs.Tryz.func25 (by kernel_rfl) h
theorem fok26 (Gs : List Nat) (h : fnCheck Gs Go.Proofs.Tryz.f26 = true := by kernel_rfl) : FnOk Go.Proofs.Tryz.prog Gs 26 Go.Proofs.Tryz.f26 := fnOk_of Go.Proofs.Tryz.func26 (by kernel_rfl) h
theorem fok27 (Gs : List Nat) (h : fnCheck Gs Go.Proofs.Tryz.f27 = true := by kernel_rfl) : FnOk Go.Proofs.Tryz.prog Gs 27 Go.Proofs.Tryz.f27 := fnOk_of Go.Proofs.Tryz.func27 (by kernel_rfl) h
theorem fok38 (Gs : List Nat) (h : fnCheck Gs Go.Proofs.Tryz.f38 = true := by kernel_rfl) : FnOk Go.Proofs.Tryz.prog Gs 38 Go.Proofs.Tryz.f38 := fnOk_of Go.Proofs.Tryz.func38 (by kernel_rfl) h
theorem fok39 (Gs : List Nat) (h : fnCheck Gs Go.Proofs.Tryz.f39 = true := by kernel_rfl) : FnOk Go.Proofs.Tryz.prog Gs 39 Go.Proofs.Tryz.f39 := fnOk_of Go.Proofs.Tryz.func39 (by kernel_rfl) h
theorem fok41 (Gs : List Nat) (h : fnCheck Gs Go.Proofs.Tryz.f41 = true := by kernel_rfl) : FnOk Go.Proofs.Tryz.prog Gs 41 Go.Proofs.Tryz.f41 := fnOk_of Go.Proofs.Tryz.func41 (by kernel_rfl) h
theorem fok42 (Gs : List Nat) (h : fnCheck Gs Go.Proofs.Tryz.f42 = true := by kernel_rfl) : FnOk Go.Proofs.Tryz.prog Gs 42 Go.Proofs.Tryz.f42 := fnOk_of Go.Proofs.Tryz.func42 (by kernel_rfl) h
theorem fok43 (Gs : List Nat) (h : fnCheck Gs Go.Proofs.Tryz.f43 = true := by kernel_rfl) : FnOk Go.Proofs.Tryz.prog Gs 43 Go.Proofs.Tryz.f43 := fnOk_of Go.Proofs.Tryz.func43 (by kernel_rfl) h
theorem fok44 (Gs : List Nat) (h : fnCheck Gs Go.Proofs.Tryz.f44 = true := by kernel_rfl) : FnOk Go.Proofs.Tryz.prog Gs 44 Go.Proofs.Tryz.f44 := fnOk_of Go.Proofs.Tryz.func44 (by kernel_rfl) h
theorem fok45 (Gs : List Nat) (h : fnCheck Gs Go.Proofs.Tryz.f45 = true := by kernel_rfl) : FnOk Go.Proofs.Tryz.prog Gs 45 Go.Proofs.Tryz.f45 := fnOk_of Go.Proofs.Tryz.func45 (by kernel_rfl) h
theorem fok46 (Gs : List Nat) (h : fnCheck Gs Go.Proofs.Tryz.f46 = true := by kernel_rfl) : FnOk Go.Proofs.Tryz.prog Gs 46 Go.Proofs.Tryz.f46 := fnOk_of Go.Proofs.Tryz.func46 (by kernel_rfl) h
theorem fok47 (Gs : List Nat) (h : fnCheck Gs Go.Proofs.Tryz.f47 = true := by kernel_rfl) : FnOk Go.Proofs.Tryz.prog Gs 47 Go.Proofs.Tryz.f47 := fnOk_of Go.Proofs.Tryz.func47 (by kernel_rfl) h
theorem fok48 (Gs : List Nat) (h : fnCheck Gs Go.Proofs.Tryz.f48 = true := by kernel_rfl) : FnOk Go.Proofs.Tryz.prog Gs 48 Go.Proofs.Tryz.f48 := fnOk_of Go.Proofs.Tryz.func48 (by kernel_rfl) h
theorem fok49 (Gs : List Nat) (h : fnCheck Gs Go.Proofs.Tryz.f49 = true := by kernel_rfl) : FnOk Go.Proofs.Tryz.prog Gs 49 Go.Proofs.Tryz.f49 := fnOk_of Go.Proofs.Tryz.func49 (by kernel_rfl) h
theorem fok50 (Gs : List Nat) (h : fnCheck Gs Go.Proofs.Tryz.f50 = true := by kernel_rfl) : FnOk Go.Proofs.Tryz.prog Gs 50 Go.Proofs.Tryz.f50 := fnOk_of Go.Proofs.Tryz.func50 (by kernel_rfl) h
theorem fok51 (Gs : List Nat) (h : fnCheck Gs Go.Proofs.Tryz.f51 = true := by kernel_rfl) : FnOk Go.Proofs.Tryz.prog Gs 51 Go.Proofs.Tryz.f51 := fnOk_of Go.Proofs.Tryz.func51 (by kernel_rfl) h
theorem fok52 (Gs : List Nat) (h : fnCheck Gs Go.Proofs.Tryz.f52 = true := by kernel_rfl) : FnOk Go.Proofs.Tryz.prog Gs 52 Go.Proofs.Tryz.f52 := fnOk_of Go.Proofs.Tryz.func52 (by kernel_rfl) h
theorem fok53 (Gs : List Nat) (h : fnCheck Gs Go.Proofs.Tryz.f53 = true := by kernel_rfl) : FnOk Go.Proofs.Tryz.prog Gs 53 Go.Proofs.Tryz.f53 := fnOk_of Go.Proofs.Tryz.func53 (by kernel_rfl) h
theorem fok54 (Gs : List Nat) (h : fnCheck Gs Go.Proofs.Tryz.f54 = true := by kernel_rfl) : FnOk Go.Proofs.Tryz.prog Gs 54 Go.Proofs.Tryz.f54 := fnOk_of Go.Proofs.Tryz.func54 (by kernel_rfl) h
theorem fok55 (Gs : List Nat) (h : fnCheck Gs Go.Proofs.Tryz.f55 = true := by kernel_rfl) : FnOk Go.Proofs.Tryz.prog Gs 55 Go.Proofs.Tryz.f55 := fnOk_of Go.Proofs.Tryz.func55 (by kernel_rfl) h
theorem fok56 (Gs : List Nat) (h : fnCheck Gs Go.Proofs.Tryz.f56 = true := by kernel_rfl) : FnOk Go.Proofs.Tryz.prog Gs 56 Go.Proofs.Tryz.f56 := fnOk_of Go.Proofs.Tryz.func56 (by kernel_rfl) h
theorem fok57 (Gs : List Nat) (h : fnCheck Gs Go.Proofs.Tryz.f57 = true := by kernel_rfl) : FnOk Go.Proofs.Tryz.prog Gs 57 Go.Proofs.Tryz.f57 := fnOk_of Go.Proofs.Tryz.func57 (by kernel_rfl) h
theorem fok58 (Gs : List Nat) (h : fnCheck Gs Go.Proofs.Tryz.f58 = true := by kernel_rfl) : FnOk Go.Proofs.Tryz.prog Gs 58 Go.Proofs.Tryz.f58 := fnOk_of Go.Proofs.Tryz.func58 (by kernel_rfl) h
theorem fok59 (Gs : List Nat) (h : fnCheck Gs Go.Proofs.Tryz.f59 = true := by kernel_rfl) : FnOk Go.Proofs.Tryz.prog Gs 59 Go.Proofs.Tryz.f59 := fnOk_of Go.Proofs.Tryz.func59 (by kernel_rfl) h
theorem fok60 (Gs : List Nat) (h : fnCheck Gs Go.Proofs.Tryz.f60 = true := by kernel_rfl) : FnOk Go.Proofs.Tryz.prog Gs 60 Go.Proofs.Tryz.f60 := fnOk_of Go.Proofs.Tryz.func60 (by kernel_rfl) h
theorem fok61 (Gs : List Nat) (h : fnCheck Gs Go.Proofs.Tryz.f61 = true := by kernel_rfl) : FnOk Go.Proofs.Tryz.prog Gs 61 Go.Proofs.Tryz.f61 := fnOk_of Go.Proofs.Tryz.func61 (by kernel_rfl) h
theorem fok62 (Gs : List Nat) (h : fnCheck Gs Go.Proofs.Tryz.f62 = true := by kernel_rfl) : FnOk Go.Proofs.Tryz.prog Gs 62 Go.Proofs.Tryz.f62 := fnOk_of Go.Proofs.Tryz.func62 (by kernel_rfl) h
theorem fok63 (Gs : List Nat) (h : fnCheck Gs Go.Proofs.Tryz.f63 = true := by kernel_rfl) : FnOk Go.Proofs.Tryz.prog Gs 63 Go.Proofs.Tryz.f63 := fnOk_of Go.Proofs.Tryz.func63 (by kernel_rfl) h
theorem fok64 (Gs : List Nat) (h : fnCheck Gs Go.Proofs.Tryz.f64 = true := by kernel_rfl) : FnOk Go.Proofs.Tryz.prog Gs 64 Go.Proofs.Tryz.f64 := fnOk_of Go.Proofs.Tryz.func64 (by kernel_rfl) h
theorem fok66 (Gs : List Nat) (h : fnCheck Gs Go.Proofs.Tryz.f66 = true := by kernel_rfl) : FnOk Go.Proofs.Tryz.prog Gs 66 Go.Proofs.Tryz.f66 := fnOk_of Go.Proofs.Tryz.func66 (by kernel_rfl) h
theorem fok73 (Gs : List Nat) (h : fnCheck Gs Go.Proofs.Tryz.f73 = true := by kernel_rfl) : FnOk Go.Proofs.Tryz.prog Gs 73 Go.Proofs.Tryz.f73 := fnOk_of Go.Proofs.Tryz.func73 (by kernel_rfl) h
theorem fok85 (Gs : List Nat) (h : fnCheck Gs Go.Proofs.Tryz.f85 = true := by kernel_rfl) : FnOk Go.Proofs.Tryz.prog Gs 85 Go.Proofs.Tryz.f85 := fnOk_of Go.Proofs.Tryz.func85 (by kernel_rfl) h
theorem fok86 (Gs : List Nat) (h : fnCheck Gs Go.Proofs.Tryz.f86 = true := by kernel_rfl) : FnOk Go.Proofs.Tryz.prog Gs 86 Go.Proofs.Tryz.f86 := fnOk_of Go.Proofs.Tryz.func86 (by kernel_rfl) h
theorem fok88 (Gs : List Nat) (h : fnCheck Gs Go.Proofs.Tryz.f88 = true := by kernel_rfl) : FnOk Go.Proofs.Tryz.prog Gs 88 Go.Proofs.Tryz.f88 := fnOk_of Go.Proofs.Tryz.func88 (by kernel_rfl) h
theorem fok90 (Gs : List Nat) (h : fnCheck Gs Go.Proofs.Tryz.f90 = true := by kernel_rfl) : FnOk Go.Proofs.Tryz.prog Gs 90 Go.Proofs.Tryz.f90 := fnOk_of Go.Proofs.Tryz.func90 (by kernel_rfl) h
theorem fok91 (Gs : List Nat) (h : fnCheck Gs Go.Proofs.Tryz.f91 = true := by kernel_rfl) : FnOk Go.Proofs.Tryz.prog Gs 91 Go.Proofs.Tryz.f91 := fnOk_of Go.Proofs.Tryz.func91 (by kernel_rfl) h
theorem fok92 (Gs : List Nat) (h : fnCheck Gs Go.Proofs.Tryz.f92 = true := by kernel_rfl) : FnOk Go.Proofs.Tryz.prog Gs 92 Go.Proofs.Tryz.f92 := fnOk_of Go.Proofs.Tryz.func92 (by kernel_rfl) h
theorem fok93 (Gs : List Nat) (h : fnCheck Gs Go.Proofs.Tryz.f93 = true := by kernel_rfl) : FnOk Go.Proofs.Tryz.prog Gs 93 Go.Proofs.Tryz.f93 := fnOk_of Go.Proofs.Tryz.func93 (by kernel_rfl) h
theorem fok94 (Gs : List Nat) (h : fnCheck Gs Go.Proofs.Tryz.f94 = true := by kernel_rfl) : FnOk Go.Proofs.Tryz.prog Gs 94 Go.Proofs.Tryz.f94 := fnOk_of Go.Proofs.Tryz.func94 (by kernel_rfl) h
theorem fok95 (Gs : List Nat) (h : fnCheck Gs Go.Proofs.Tryz.f95 = true := by kernel_rfl) : FnOk Go.Proofs.Tryz.prog Gs 95 Go.Proofs.Tryz.f95 := fnOk_of Go.Proofs.Tryz.func95 (by kernel_rfl) h
theorem fok96 (Gs : List Nat) (h : fnCheck Gs Go.Proofs.Tryz.f96 = true := by kernel_rfl) : FnOk Go.Proofs.Tryz.prog Gs 96 Go.Proofs.Tryz.f96 := fnOk_of Go.Proofs.Tryz.func96 (by kernel_rfl) h
theorem fok97 (Gs : List Nat) (h : fnCheck Gs Go.Proofs.Tryz.f97 = true := by kernel_rfl) : FnOk Go.Proofs.Tryz.prog Gs 97 Go.Proofs.Tryz.f97 := fnOk_of Go.Proofs.Tryz.func97 (by kernel_rfl) h
theorem fok98 (Gs : List Nat) (h : fnCheck Gs Go.Proofs.Tryz.f98 = true := by kernel_rfl) : FnOk Go.Proofs.Tryz.prog Gs 98 Go.Proofs.Tryz.f98 := fnOk_of Go.Proofs.Tryz.func98 (by kernel_rfl) h
theorem fok99 (Gs : List Nat) (h : fnCheck Gs Go.Proofs.Tryz.f99 = true := by kernel_rfl) : FnOk Go.Proofs.Tryz.prog Gs 99 Go.Proofs.Tryz.f99 := fnOk_of Go.Proofs.Tryz.func99 (by kernel_rfl) h
theorem fok100 (Gs : List Nat) (h : fnCheck Gs Go.Proofs.Tryz.f100 = true := by kernel_rfl) : FnOk Go.Proofs.Tryz.prog Gs 100 Go.Proofs.Tryz.f100 := fnOk_of Go.Proofs.Tryz.func100 (by kernel_rfl) h
theorem fok101 (Gs : List Nat) (h : fnCheck Gs Go.Proofs.Tryz.f101 = true := by kernel_rfl) : FnOk Go.Proofs.Tryz.prog Gs 101 Go.Proofs.Tryz.f101 := fnOk_of Go.Proofs.Tryz.func101 (by kernel_rfl) h
theorem fok102 (Gs : List Nat) (h : fnCheck Gs Go.Proofs.Tryz.f102 = true := by kernel_rfl) : FnOk Go.Proofs.Tryz.prog Gs 102 Go.Proofs.Tryz.f102 := fnOk_of Go.Proofs.Tryz.func102 (by kernel_rfl) h
theorem fok103 (Gs : List Nat) (h : fnCheck Gs Go.Proofs.Tryz.f103 = true := by kernel_rfl) : FnOk Go.Proofs.Tryz.prog Gs 103 Go.Proofs.Tryz.f103 := fnOk_of Go.Proofs.Tryz.func103 (by kernel_rfl) h
theorem fok104 (Gs : List Nat) (h : fnCheck Gs Go.Proofs.Tryz.f104 = true := by kernel_rfl) : FnOk Go.Proofs.Tryz.prog Gs 104 Go.Proofs.Tryz.f104 := fnOk_of Go.Proofs.Tryz.func104 (by kernel_rfl) h
theorem fok105 (Gs : List Nat) (h : fnCheck Gs Go.Proofs.Tryz.f105 = true := by kernel_rfl) : FnOk Go.Proofs.Tryz.prog Gs 105 Go.Proofs.Tryz.f105 := fnOk_of Go.Proofs.Tryz.func105 (by kernel_rfl) h
theorem fok106 (Gs : List Nat) (h : fnCheck Gs Go.Proofs.Tryz.f106 = true := by kernel_rfl) : FnOk Go.Proofs.Tryz.prog Gs 106 Go.Proofs.Tryz.f106 := fnOk_of Go.Proofs.Tryz.func106 (by kernel_rfl) h
theorem fok107 (Gs : List Nat) (h : fnCheck Gs Go.Proofs.Tryz.f107 = true := by kernel_rfl) : FnOk Go.Proofs.Tryz.prog Gs 107 Go.Proofs.Tryz.f107 := fnOk_of Go.Proofs.Tryz.func107 (by kernel_rfl) h
theorem fok108 (Gs : List Nat) (h : fnCheck Gs Go.Proofs.Tryz.f108 = true := by kernel_rfl) : FnOk Go.Proofs.Tryz.prog Gs 108 Go.Proofs.Tryz.f108 := fnOk_of Go.Proofs.Tryz.func108 (by kernel_rfl) h
theorem fok109 (Gs : List Nat) (h : fnCheck Gs Go.Proofs.Tryz.f109 = true := by kernel_rfl) : FnOk Go.Proofs.Tryz.prog Gs 109 Go.Proofs.Tryz.f109 := fnOk_of Go.Proofs.Tryz.func109 (by kernel_rfl) h
theorem fok110 (Gs : List Nat) (h : fnCheck Gs Go.Proofs.Tryz.f110 = true := by kernel_rfl) : FnOk Go.Proofs.Tryz.prog Gs 110 Go.Proofs.Tryz.f110 := fnOk_of Go.Proofs.Tryz.func110 (by kernel_rfl) h
theorem fok111 (Gs : List Nat) (h : fnCheck Gs Go.Proofs.Tryz.f111 = true := by kernel_rfl) : FnOk Go.Proofs.Tryz.prog Gs 111 Go.Proofs.Tryz.f111 := fnOk_of Go.Proofs.Tryz.func111 (by kernel_rfl) h
theorem fok112 (Gs : List Nat) (h : fnCheck Gs Go.Proofs.Tryz.f112 = true := by kernel_rfl) : FnOk Go.Proofs.Tryz.prog Gs 112 Go.Proofs.Tryz.f112 := fnOk_of Go.Proofs.Tryz.func112 (by kernel_rfl) h
theorem fok113 (Gs : List Nat) (h : fnCheck Gs Go.Proofs.Tryz.f113 = true := by kernel_rfl) : FnOk Go.Proofs.Tryz.prog Gs 113 Go.Proofs.Tryz.f113 := fnOk_of Go.Proofs.Tryz.func113 (by kernel_rfl) h
theorem fok114 (Gs : List Nat) (h : fnCheck Gs Go.Proofs.Tryz.f114 = true := by kernel_rfl) : FnOk Go.Proofs.Tryz.prog Gs 114 Go.Proofs.Tryz.f114 := fnOk_of Go.Proofs.Tryz.func114 (by kernel_rfl) h
theorem fok115 (Gs : List Nat) (h : fnCheck Gs Go.Proofs.Tryz.f115 = true := by kernel_rfl) : FnOk Go.Proofs.Tryz.prog Gs 115 Go.Proofs.Tryz.f115 := fnOk_of Go.Proofs.Tryz.func115 (by kernel_rfl) h
theorem fok116 (Gs : List Nat) (h : fnCheck Gs Go.Proofs.Tryz.f116 = true := by kernel_rfl) : FnOk Go.Proofs.Tryz.prog Gs 116 Go.Proofs.Tryz.f116 := fnOk_of Go.Proofs.Tryz.func116 (by kernel_rfl) h
theorem fok117 (Gs : List Nat) (h : fnCheck Gs Go.Proofs.Tryz.f117 = true := by kernel_rfl) : FnOk Go.Proofs.Tryz.prog Gs 117 Go.Proofs.Tryz.f117 := fnOk_of Go.Proofs.Tryz.func117 (by kernel_rfl) h
theorem fok118 (Gs : List Nat) (h : fnCheck Gs Go.Proofs.Tryz.f118 = true := by kernel_rfl) : FnOk Go.Proofs.Tryz.prog Gs 118 Go.Proofs.Tryz.f118 := fnOk_of Go.Proofs.Tryz.func118 (by kernel_rfl) h
theorem fok119 (Gs : List Nat) (h : fnCheck Gs Go.Proofs.Tryz.f119 = true := by kernel_rfl) : FnOk Go.Proofs.Tryz.prog Gs 119 Go.Proofs.Tryz.f119 := fnOk_of Go.Proofs.Tryz.func119 (by kernel_rfl) h
theorem fok120 (Gs : List Nat) (h : fnCheck Gs Go.Proofs.Tryz.f120 = true := by kernel_rfl) : FnOk Go.Proofs.Tryz.prog Gs 120 Go.Proofs.Tryz.f120 := fnOk_of Go.Proofs.Tryz.func120 (by kernel_rfl) h
theorem fok121 (Gs : List Nat) (h : fnCheck Gs Go.Proofs.Tryz.f121 = true := by kernel_rfl) : FnOk Go.Proofs.Tryz.prog Gs 121 Go.Proofs.Tryz.f121 := fnOk_of Go.Proofs.Tryz.func121 (by kernel_rfl) h
theorem fok122 (Gs : List Nat) (h : fnCheck Gs Go.Proofs.Tryz.f122 = true := by kernel_rfl) : FnOk Go.Proofs.Tryz.prog Gs 122 Go.Proofs.Tryz.f122 := fnOk_of Go.Proofs.Tryz.func122 (by kernel_rfl) h
theorem fok123 (Gs : List Nat) (h : fnCheck Gs Go.Proofs.Tryz.f123 = true := by kernel_rfl) : FnOk Go.Proofs.Tryz.prog Gs 123 Go.Proofs.Tryz.f123 := fnOk_of Go.Proofs.Tryz.func123 (by kernel_rfl) h
theorem fok124 (Gs : List Nat) (h : fnCheck Gs Go.Proofs.Tryz.f124 = true := by kernel_rfl) : FnOk Go.Proofs.Tryz.prog Gs 124 Go.Proofs.Tryz.f124 := fnOk_of Go.Proofs.Tryz.func124 (by kernel_rfl) h
theorem fok125 (Gs : List Nat) (h : fnCheck Gs Go.Proofs.Tryz.f125 = true := by kernel_rfl) : FnOk Go.Proofs.Tryz.prog Gs 125 Go.Proofs.Tryz.f125 := fnOk_of Go.Proofs.Tryz.func125 (by kernel_rfl) h
theorem fok126 (Gs : List Nat) (h : fnCheck Gs Go.Proofs.Tryz.f126 = true := by kernel_rfl) : FnOk Go.Proofs.Tryz.prog Gs 126 Go.Proofs.Tryz.f126 := fnOk_of Go.Proofs.Tryz.func126 (by kernel_rfl) h
theorem fok127 (Gs : List Nat) (h : fnCheck Gs Go.Proofs.Tryz.f127 = true := by kernel_rfl) : FnOk Go.Proofs.Tryz.prog Gs 127 Go.Proofs.Tryz.f127 := fnOk_of Go.Proofs.Tryz.func127 (by kernel_rfl) h
theorem fok128 (Gs : List Nat) (h : fnCheck Gs Go.Proofs.Tryz.f128 = true := by kernel_rfl) : FnOk Go.Proofs.Tryz.prog Gs 128 Go.Proofs.Tryz.f128 := fnOk_of Go.Proofs.Tryz.func128 (by kernel_rfl) h
theorem fok129 (Gs : List Nat) (h : fnCheck Gs Go.Proofs.Tryz.f129 = true := by kernel_rfl) : FnOk Go.Proofs.Tryz.prog Gs 129 Go.Proofs.Tryz.f129 := fnOk_of Go.Proofs.Tryz.func129 (by kernel_rfl) h
theorem fok130 (Gs : List Nat) (h : fnCheck Gs Go.Proofs.Tryz.f130 = true := by kernel_rfl) : FnOk Go.Proofs.Tryz.prog Gs 130 Go.Proofs.Tryz.f130 := fnOk_of Go.Proofs.Tryz.func130 (by kernel_rfl) h
theorem fok131 (Gs : List Nat) (h : fnCheck Gs Go.Proofs.Tryz.f131 = true := by kernel_rfl) : FnOk Go.Proofs.Tryz.prog Gs 131 Go.Proofs.Tryz.f131 := fnOk_of Go.Proofs.Tryz.func131 (by kernel_rfl) h
theorem fok135 (Gs : List Nat) (h : fnCheck Gs Go.Proofs.Tryz.f135 = true := by kernel_rfl) : FnOk Go.Proofs.Tryz.prog Gs 135 Go.Proofs.Tryz.f135 := fnOk_of Go.Proofs.Tryz.func135 (by kernel_rfl) h
theorem fok138 (Gs : List Nat) (h : fnCheck Gs Go.Proofs.Tryz.f138 = true := by kernel_rfl) : FnOk Go.Proofs.Tryz.prog Gs 138 Go.Proofs.Tryz.f138 := fnOk_of Go.Proofs.Tryz.func138 (by kernel_rfl) h
theorem fok141 (Gs : List Nat) (h : fnCheck Gs Go.Proofs.Tryz.f141 = true := by kernel_rfl) : FnOk Go.Proofs.Tryz.prog Gs 141 Go.Proofs.Tryz.f141 := fnOk_of Go.Proofs.Tryz.func141 (by kernel_rfl) h
theorem fok142 (Gs : List Nat) (h : fnCheck Gs Go.Proofs.Tryz.f142 = true := by kernel_rfl) : FnOk Go.Proofs.Tryz.prog Gs 142 Go.Proofs.Tryz.f142 := fnOk_of Go.Proofs.Tryz.func142 (by kernel_rfl) h
theorem fok145 (Gs : List Nat) (h : fnCheck Gs Go.Proofs.Tryz.f145 = true := by kernel_rfl) : FnOk Go.Proofs.Tryz.prog Gs 145 Go.Proofs.Tryz.f145 := fnOk_of Go.Proofs.Tryz.func145 (by kernel_rfl) h
theorem fok147 (Gs : List Nat) (h : fnCheck Gs Go.Proofs.Tryz.f147 = true := by kernel_rfl) : FnOk Go.Proofs.Tryz.prog Gs 147 Go.Proofs.Tryz.f147 := fnOk_of Go.Proofs.Tryz.func147 (by kernel_rfl) h
theorem fok154 (Gs : List Nat) (h : fnCheck Gs Go.Proofs.Tryz.f154 = true := by kernel_rfl) : FnOk Go.Proofs.Tryz.prog Gs 154 Go.Proofs.Tryz.f154 := fnOk_of Go.Proofs.Tryz.func154 (by kernel_rfl) h
theorem fok156 (Gs : List Nat) (h : fnCheck Gs Go.Proofs.Tryz.f156 = true := by kernel_rfl) : FnOk Go.Proofs.Tryz.prog Gs 156 Go.Proofs.Tryz.f156 := fnOk_of Go.Proofs.Tryz.func156 (by kernel_rfl) h
theorem fok166 (Gs : List Nat) (h : fnCheck Gs Go.Proofs.Tryz.f166 = true := by kernel_rfl) : FnOk Go.Proofs.Tryz.prog Gs 166 Go.Proofs.Tryz.f166 := fnOk_of Go.Proofs.Tryz.func166 (by kernel_rfl) h
theorem fok167 (Gs : List Nat) (h : fnCheck Gs Go.Proofs.Tryz.f167 = true := by kernel_rfl) : FnOk Go.Proofs.Tryz.prog Gs 167 Go.Proofs.Tryz.f167 := fnOk_of Go.Proofs.Tryz.func167 (by kernel_rfl) h
theorem fok168 (Gs : List Nat) (h : fnCheck Gs Go.Proofs.Tryz.f168 = true := by kernel_rfl) : FnOk Go.Proofs.Tryz.prog Gs 168 Go.Proofs.Tryz.f168 := fnOk_of Go.Proofs.Tryz.func168 (by kernel_rfl) h
theorem fok169 (Gs : List Nat) (h : fnCheck Gs Go.Proofs.Tryz.f169 = true := by kernel_rfl) : FnOk Go.Proofs.Tryz.prog Gs 169 Go.Proofs.Tryz.f169 := fnOk_of Go.Proofs.Tryz.func169 (by kernel_rfl) h
theorem fok171 (Gs : List Nat) (h : fnCheck Gs Go.Proofs.Tryz.f171 = true := by kernel_rfl) : FnOk Go.Proofs.Tryz.prog Gs 171 Go.Proofs.Tryz.f171 := fnOk_of Go.Proofs.Tryz.func171 (by kernel_rfl) h
theorem fok172 (Gs : List Nat) (h : fnCheck Gs Go.Proofs.Tryz.f172 = true := by kernel_rfl) : FnOk Go.Proofs.Tryz.prog Gs 172 Go.Proofs.Tryz.f172 := fnOk_of Go.Proofs.Tryz.func172 (by kernel_rfl) h
theorem fok173 (Gs : List Nat) (h : fnCheck Gs Go.Proofs.Tryz.f173 = true := by kernel_rfl) : FnOk Go.Proofs.Tryz.prog Gs 173 Go.Proofs.Tryz.f173 := fnOk_of Go.Proofs.Tryz.func173 (by kernel_rfl) h
theorem fok174 (Gs : List Nat) (h : fnCheck Gs Go.Proofs.Tryz.f174 = true := by kernel_rfl) : FnOk Go.Proofs.Tryz.prog Gs 174 Go.Proofs.Tryz.f174 := fnOk_of Go.Proofs.Tryz.func174 (by kernel_rfl) h
theorem fok175 (Gs : List Nat) (h : fnCheck Gs Go.Proofs.Tryz.f175 = true := by kernel_rfl) : FnOk Go.Proofs.Tryz.prog Gs 175 Go.Proofs.Tryz.f175 := fnOk_of Go.Proofs.Tryz.func175 (by kernel_rfl) h
theorem fok176 (Gs : List Nat) (h : fnCheck Gs Go.Proofs.Tryz.f176 = true := by kernel_rfl) : FnOk Go.Proofs.Tryz.prog Gs 176 Go.Proofs.Tryz.f176 := fnOk_of Go.Proofs.Tryz.func176 (by kernel_rfl) h
theorem fok177 (Gs : List Nat) (h : fnCheck Gs Go.Proofs.Tryz.f177 = true := by kernel_rfl) : FnOk Go.Proofs.Tryz.prog Gs 177 Go.Proofs.Tryz.f177 := fnOk_of Go.Proofs.Tryz.func177 (by kernel_rfl) h
theorem fok178 (Gs : List Nat) (h : fnCheck Gs Go.Proofs.Tryz.f178 = true := by kernel_rfl) : FnOk Go.Proofs.Tryz.prog Gs 178 Go.Proofs.Tryz.f178 := fnOk_of Go.Proofs.Tryz.func178 (by kernel_rfl) h
theorem fok179 (Gs : List Nat) (h : fnCheck Gs Go.Proofs.Tryz.f179 = true := by kernel_rfl) : FnOk Go.Proofs.Tryz.prog Gs 179 Go.Proofs.Tryz.f179 := fnOk_of Go.Proofs.Tryz.func179 (by kernel_rfl) h
theorem fok180 (Gs : List Nat) (h : fnCheck Gs Go.Proofs.Tryz.f180 = true := by kernel_rfl) : FnOk Go.Proofs.Tryz.prog Gs 180 Go.Proofs.Tryz.f180 := fnOk_of Go.Proofs.Tryz.func180 (by kernel_rfl) h
theorem fok181 (Gs : List Nat) (h : fnCheck Gs Go.Proofs.Tryz.f181 = true := by kernel_rfl) : FnOk Go.Proofs.Tryz.prog Gs 181 Go.Proofs.Tryz.f181 := fnOk_of Go.Proofs.Tryz.func181 (by kernel_rfl) h
theorem fok182 (Gs : List Nat) (h : fnCheck Gs Go.Proofs.Tryz.f182 = true := by kernel_rfl) : FnOk Go.Proofs.Tryz.prog Gs 182 Go.Proofs.Tryz.f182 := fnOk_of Go.Proofs.Tryz.func182 (by kernel_rfl) h
theorem fok183 (Gs : List Nat) (h : fnCheck Gs Go.Proofs.Tryz.f183 = true := by kernel_rfl) : FnOk Go.Proofs.Tryz.prog Gs 183 Go.Proofs.Tryz.f183 := fnOk_of Go.Proofs.Tryz.func183 (by kernel_rfl) h
theorem fok184 (Gs : List Nat) (h : fnCheck Gs Go.Proofs.Tryz.f184 = true := by kernel_rfl) : FnOk Go.Proofs.Tryz.prog Gs 184 Go.Proofs.Tryz.f184 := fnOk_of Go.Proofs.Tryz.func184 (by kernel_rfl) h
theorem fok185 (Gs : List Nat) (h : fnCheck Gs Go.Proofs.Tryz.f185 = true := by kernel_rfl) : FnOk Go.Proofs.Tryz.prog Gs 185 Go.Proofs.Tryz.f185 := fnOk_of Go.Proofs.Tryz.func185 (by kernel_rfl) h
theorem fok186 (Gs : List Nat) (h : fnCheck Gs Go.Proofs.Tryz.f186 = true := by kernel_rfl) : FnOk Go.Proofs.Tryz.prog Gs 186 Go.Proofs.Tryz.f186 := fnOk_of Go.Proofs.Tryz.func186 (by kernel_rfl) h
theorem fok187 (Gs : List Nat) (h : fnCheck Gs Go.Proofs.Tryz.f187 = true := by kernel_rfl) : FnOk Go.Proofs.Tryz.prog Gs 187 Go.Proofs.Tryz.f187 := fnOk_of Go.Proofs.Tryz.func187 (by kernel_rfl) h
theorem fok188 (Gs : List Nat) (h : fnCheck Gs Go.Proofs.Tryz.f188 = true := by kernel_rfl) : FnOk Go.Proofs.Tryz.prog Gs 188 Go.Proofs.Tryz.f188 := fnOk_of Go.Proofs.Tryz.func188 (by kernel_rfl) h
theorem fok189 (Gs : List Nat) (h : fnCheck Gs Go.Proofs.Tryz.f189 = true := by kernel_rfl) : FnOk Go.Proofs.Tryz.prog Gs 189 Go.Proofs.Tryz.f189 := fnOk_of Go.Proofs.Tryz.func189 (by kernel_rfl) h
theorem fok190 (Gs : List Nat) (h : fnCheck Gs Go.Proofs.Tryz.f190 = true := by kernel_rfl) : FnOk Go.Proofs.Tryz.prog Gs 190 Go.Proofs.Tryz.f190 := fnOk_of Go.Proofs.Tryz.func190 (by kernel_rfl) h
theorem fok191 (Gs : List Nat) (h : fnCheck Gs Go.Proofs.Tryz.f191 = true := by kernel_rfl) : FnOk Go.Proofs.Tryz.prog Gs 191 Go.Proofs.Tryz.f191 := fnOk_of Go.Proofs.Tryz.func191 (by kernel_rfl) h
theorem fok192 (Gs : List Nat) (h : fnCheck Gs Go.Proofs.Tryz.f192 = true := by kernel_rfl) : FnOk Go.Proofs.Tryz.prog Gs 192 Go.Proofs.Tryz.f192 := fnOk_of Go.Proofs.Tryz.func192 (by kernel_rfl) h
theorem fok193 (Gs : List Nat) (h : fnCheck Gs Go.Proofs.Tryz.f193 = true := by kernel_rfl) : FnOk Go.Proofs.Tryz.prog Gs 193 Go.Proofs.Tryz.f193 := fnOk_of Go.Proofs.Tryz.func193 (by kernel_rfl) h
theorem fok194 (Gs : List Nat) (h : fnCheck Gs Go.Proofs.Tryz.f194 = true := by kernel_rfl) : FnOk Go.Proofs.Tryz.prog Gs 194 Go.Proofs.Tryz.f194 := fnOk_of Go.Proofs.Tryz.func194 (by kernel_rfl) h
theorem fok195 (Gs : List Nat) (h : fnCheck Gs Go.Proofs.Tryz.f195 = true := by kernel_rfl) : FnOk Go.Proofs.Tryz.prog Gs 195 Go.Proofs.Tryz.f195 := fnOk_of Go.Proofs.Tryz.func195 (by kernel_rfl) h
theorem fok196 (Gs : List Nat) (h : fnCheck Gs Go.Proofs.Tryz.f196 = true := by kernel_rfl) : FnOk Go.Proofs.Tryz.prog Gs 196 Go.Proofs.Tryz.f196 := fnOk_of Go.Proofs.Tryz.func196 (by kernel_rfl) h
theorem fok197 (Gs : List Nat) (h : fnCheck Gs Go.Proofs.Tryz.f197 = true := by kernel_rfl) : FnOk Go.Proofs.Tryz.prog Gs 197 Go.Proofs.Tryz.f197 := fnOk_of Go.Proofs.Tryz.func197 (by kernel_rfl) h
theorem fok198 (Gs : List Nat) (h : fnCheck Gs Go.Proofs.Tryz.f198 = true := by kernel_rfl) : FnOk Go.Proofs.Tryz.prog Gs 198 Go.Proofs.Tryz.f198 := fnOk_of Go.Proofs.Tryz.func198 (by kernel_rfl) h
theorem fok199 (Gs : List Nat) (h : fnCheck Gs Go.Proofs.Tryz.f199 = true := by kernel_rfl) : FnOk Go.Proofs.Tryz.prog Gs 199 Go.Proofs.Tryz.f199 := fnOk_of Go.Proofs.Tryz.func199 (by kernel_rfl) h
theorem fok200 (Gs : List Nat) (h : fnCheck Gs Go.Proofs.Tryz.f200 = true := by kernel_rfl) : FnOk Go.Proofs.Tryz.prog Gs 200 Go.Proofs.Tryz.f200 := fnOk_of Go.Proofs.Tryz.func200 (by kernel_rfl) h
theorem fok201 (Gs : List Nat) (h : fnCheck Gs Go.Proofs.Tryz.f201 = true := by kernel_rfl) : FnOk Go.Proofs.Tryz.prog Gs 201 Go.Proofs.Tryz.f201 := fnOk_of Go.Proofs.Tryz.func201 (by kernel_rfl) h
theorem fok205 (Gs : List Nat) (h : fnCheck Gs Go.Proofs.Tryz.f205 = true := by kernel_rfl) : FnOk Go.Proofs.Tryz.prog Gs 205 Go.Proofs.Tryz.f205 := fnOk_of Go.Proofs.Tryz.func205 (by kernel_rfl) h
theorem fok206 (Gs : List Nat) (h : fnCheck Gs Go.Proofs.Tryz.f206 = true := by kernel_rfl) : FnOk Go.Proofs.Tryz.prog Gs 206 Go.Proofs.Tryz.f206 := fnOk_of Go.Proofs.Tryz.func206 (by kernel_rfl) h
theorem fok207 (Gs : List Nat) (h : fnCheck Gs Go.Proofs.Tryz.f207 = true := by kernel_rfl) : FnOk Go.Proofs.Tryz.prog Gs 207 Go.Proofs.Tryz.f207 := fnOk_of Go.Proofs.Tryz.func207 (by kernel_rfl) h
theorem fok210 (Gs : List Nat) (h : fnCheck Gs Go.Proofs.Tryz.f210 = true := by kernel_rfl) : FnOk Go.Proofs.Tryz.prog Gs 210 Go.Proofs.Tryz.f210 := fnOk_of Go.Proofs.Tryz.func210 (by kernel_rfl) h
theorem fok211 (Gs : List Nat) (h : fnCheck Gs Go.Proofs.Tryz.f211 = true := by kernel_rfl) : FnOk Go.Proofs.Tryz.prog Gs 211 Go.Proofs.Tryz.f211 := fnOk_of Go.Proofs.Tryz.func211 (by kernel_rfl) h
theorem fok213 (Gs : List Nat) (h : fnCheck Gs Go.Proofs.Tryz.f213 = true := by kernel_rfl) : FnOk Go.Proofs.Tryz.prog Gs 213 Go.Proofs.Tryz.f213 := fnOk_of Go.Proofs.Tryz.func213 (by kernel_rfl) h
theorem fok214 (Gs : List Nat) (h : fnCheck Gs Go.Proofs.Tryz.f214 = true := by kernel_rfl) : FnOk Go.Proofs.Tryz.prog Gs 214 Go.Proofs.Tryz.f214 := fnOk_of Go.Proofs.Tryz.func214 (by kernel_rfl) h
theorem fok215 (Gs : List Nat) (h : fnCheck Gs Go.Proofs.Tryz.f215 = true := by kernel_rfl) : FnOk Go.Proofs.Tryz.prog Gs 215 Go.Proofs.Tryz.f215 := fnOk_of Go.Proofs.Tryz.func215 (by kernel_rfl) h
theorem fok217 (Gs : List Nat) (h : fnCheck Gs Go.Proofs.Tryz.f217 = true := by kernel_rfl) : FnOk Go.Proofs.Tryz.prog Gs 217 Go.Proofs.Tryz.f217 := fnOk_of Go.Proofs.Tryz.func217 (by kernel_rfl) h
theorem fok218 (Gs : List Nat) (h : fnCheck Gs Go.Proofs.Tryz.f218 = true := by kernel_rfl) : FnOk Go.Proofs.Tryz.prog Gs 218 Go.Proofs.Tryz.f218 := fnOk_of Go.Proofs.Tryz.func218 (by kernel_rfl) h
theorem fok221 (Gs : List Nat) (h : fnCheck Gs Go.Proofs.Tryz.f221 = true := by kernel_rfl) : FnOk Go.Proofs.Tryz.prog Gs 221 Go.Proofs.Tryz.f221 := fnOk_of Go.Proofs.Tryz.func221 (by kernel_rfl) h
theorem fok226 (Gs : List Nat) (h : fnCheck Gs Go.Proofs.Tryz.f226 = true := by kernel_rfl) : FnOk Go.Proofs.Tryz.prog Gs 226 Go.Proofs.Tryz.f226 := fnOk_of Go.Proofs.Tryz.func226 (by kernel_rfl) h
theorem fok227 (Gs : List Nat) (h : fnCheck Gs Go.Proofs.Tryz.f227 = true := by kernel_rfl) : FnOk Go.Proofs.Tryz.prog Gs 227 Go.Proofs.Tryz.f227 := fnOk_of Go.Proofs.Tryz.func227 (by kernel_rfl) h
theorem fok241 (Gs : List Nat) (h : fnCheck Gs Go.Proofs.Tryz.f241 = true := by kernel_rfl) : FnOk Go.Proofs.Tryz.prog Gs 241 Go.Proofs.Tryz.f241 := fnOk_of Go.Proofs.Tryz.func241 (by kernel_rfl) h
theorem fok242 (Gs : List Nat) (h : fnCheck Gs Go.Proofs.Tryz.f242 = true := by kernel_rfl) : FnOk Go.Proofs.Tryz.prog Gs 242 Go.Proofs.Tryz.f242 := fnOk_of Go.Proofs.Tryz.func242 (by kernel_rfl) h
theorem fok243 (Gs : List Nat) (h : fnCheck Gs Go.Proofs.Tryz.f243 = true := by kernel_rfl) : FnOk Go.Proofs.Tryz.prog Gs 243 Go.Proofs.Tryz.f243 := fnOk_of Go.Proofs.Tryz.func243 (by kernel_rfl) h
theorem fok244 (Gs : List Nat) (h : fnCheck Gs Go.Proofs.Tryz.f244 = true := by kernel_rfl) : FnOk Go.Proofs.Tryz.prog Gs 244 Go.Proofs.Tryz.f244 := fnOk_of Go.Proofs.Tryz.func244 (by kernel_rfl) h
theorem fok245 (Gs : List Nat) (h : fnCheck Gs Go.Proofs.Tryz.f245 = true := by kernel_rfl) : FnOk Go.Proofs.Tryz.prog Gs 245 Go.Proofs.Tryz.f245 := fnOk_of Go.Proofs.Tryz.func245 (by kernel_rfl) h
theorem fok246 (Gs : List Nat) (h : fnCheck Gs Go.Proofs.Tryz.f246 = true := by kernel_rfl) : FnOk Go.Proofs.Tryz.prog Gs 246 Go.Proofs.Tryz.f246 := fnOk_of Go.Proofs.Tryz.func246 (by kernel_rfl) h
theorem fok247 (Gs : List Nat) (h : fnCheck Gs Go.Proofs.Tryz.f247 = true := by kernel_rfl) : FnOk Go.Proofs.Tryz.prog Gs 247 Go.Proofs.Tryz.f247 := fnOk_of Go.Proofs.Tryz.func247 (by kernel_rfl) h
theorem fok248 (Gs : List Nat) (h : fnCheck Gs Go.Proofs.Tryz.f248 = true := by kernel_rfl) : FnOk Go.Proofs.Tryz.prog Gs 248 Go.Proofs.Tryz.f248 := fnOk_of Go.Proofs.Tryz.func248 (by kernel_rfl) h
theorem fok249 (Gs : List Nat) (h : fnCheck Gs Go.Proofs.Tryz.f249 = true := by kernel_rfl) : FnOk Go.Proofs.Tryz.prog Gs 249 Go.Proofs.Tryz.f249 := fnOk_of Go.Proofs.Tryz.func249 (by kernel_rfl) h
theorem fok250 (Gs : List Nat) (h : fnCheck Gs Go.Proofs.Tryz.f250 = true := by kernel_rfl) : FnOk Go.Proofs.Tryz.prog Gs 250 Go.Proofs.Tryz.f250 := fnOk_of Go.Proofs.Tryz.func250 (by kernel_rfl) h
theorem fok251 (Gs : List Nat) (h : fnCheck Gs Go.Proofs.Tryz.f251 = true := by kernel_rfl) : FnOk Go.Proofs.Tryz.prog Gs 251 Go.Proofs.Tryz.f251 := fnOk_of Go.Proofs.Tryz.func251 (by kernel_rfl) h
theorem fok252 (Gs : List Nat) (h : fnCheck Gs Go.Proofs.Tryz.f252 = true := by kernel_rfl) : FnOk Go.Proofs.Tryz.prog Gs 252 Go.Proofs.Tryz.f252 := fnOk_of Go.Proofs.Tryz.func252 (by kernel_rfl) h
theorem fok253 (Gs : List Nat) (h : fnCheck Gs Go.Proofs.Tryz.f253 = true := by kernel_rfl) : FnOk Go.Proofs.Tryz.prog Gs 253 Go.Proofs.Tryz.f253 := fnOk_of Go.Proofs.Tryz.func253 (by kernel_rfl) h
theorem fok254 (Gs : List Nat) (h : fnCheck Gs Go.Proofs.Tryz.f254 = true := by kernel_rfl) : FnOk Go.Proofs.Tryz.prog Gs 254 Go.Proofs.Tryz.f254 := fnOk_of Go.Proofs.Tryz.func254 (by kernel_rfl) h
theorem fok255 (Gs : List Nat) (h : fnCheck Gs Go.Proofs.Tryz.f255 = true := by kernel_rfl) : FnOk Go.Proofs.Tryz.prog Gs 255 Go.Proofs.Tryz.f255 := fnOk_of Go.Proofs.Tryz.func255 (by kernel_rfl) h
theorem fok256 (Gs : List Nat) (h : fnCheck Gs Go.Proofs.Tryz.f256 = true := by kernel_rfl) : FnOk Go.Proofs.Tryz.prog Gs 256 Go.Proofs.Tryz.f256 := fnOk_of Go.Proofs.Tryz.func256 (by kernel_rfl) h
theorem fok257 (Gs : List Nat) (h : fnCheck Gs Go.Proofs.Tryz.f257 = true := by kernel_rfl) : FnOk Go.Proofs.Tryz.prog Gs 257 Go.Proofs.Tryz.f257 := fnOk_of Go.Proofs.Tryz.func257 (by kernel_rfl) h
theorem fok258 (Gs : List Nat) (h : fnCheck Gs Go.Proofs.Tryz.f258 = true := by kernel_rfl) : FnOk Go.Proofs.Tryz.prog Gs 258 Go.Proofs.Tryz.f258 := fnOk_of Go.Proofs.Tryz.func258 (by kernel_rfl) h
theorem fok259 (Gs : List Nat) (h : fnCheck Gs Go.Proofs.Tryz.f259 = true := by kernel_rfl) : FnOk Go.Proofs.Tryz.prog Gs 259 Go.Proofs.Tryz.f259 := fnOk_of Go.Proofs.Tryz.func259 (by kernel_rfl) h
theorem fok261 (Gs : List Nat) (h : fnCheck Gs Go.Proofs.Tryz.f261 = true := by kernel_rfl) : FnOk Go.Proofs.Tryz.prog Gs 261 Go.Proofs.Tryz.f261 := fnOk_of Go.Proofs.Tryz.func261 (by kernel_rfl) h
theorem fok262 (Gs : List Nat) (h : fnCheck Gs Go.Proofs.Tryz.f262 = true := by kernel_rfl) : FnOk Go.Proofs.Tryz.prog Gs 262 Go.Proofs.Tryz.f262 := fnOk_of Go.Proofs.Tryz.func262 (by kernel_rfl) h
theorem fok263 (Gs : List Nat) (h : fnCheck Gs Go.Proofs.Tryz.f263 = true := by kernel_rfl) : FnOk Go.Proofs.Tryz.prog Gs 263 Go.Proofs.Tryz.f263 := fnOk_of Go.Proofs.Tryz.func263 (by kernel_rfl) h
theorem fok264 (Gs : List Nat) (h : fnCheck Gs Go.Proofs.Tryz.f264 = true := by kernel_rfl) : FnOk Go.Proofs.Tryz.prog Gs 264 Go.Proofs.Tryz.f264 := fnOk_of Go.Proofs.Tryz.func264 (by kernel_rfl) h
theorem fok265 (Gs : List Nat) (h : fnCheck Gs Go.Proofs.Tryz.f265 = true := by kernel_rfl) : FnOk Go.Proofs.Tryz.prog Gs 265 Go.Proofs.Tryz.f265 := fnOk_of Go.Proofs.Tryz.func265 (by kernel_rfl) h
theorem fok284 (Gs : List Nat) (h : fnCheck Gs Go.Proofs.Tryz.f284 = true := by kernel_rfl) : FnOk Go.Proofs.Tryz.prog Gs 284 Go.Proofs.Tryz.f284 := fnOk_of Go.Proofs.Tryz.func284 (by kernel_rfl) h
theorem fok285 (Gs : List Nat) (h : fnCheck Gs Go.Proofs.Tryz.f285 = true := by kernel_rfl) : FnOk Go.Proofs.Tryz.prog Gs 285 Go.Proofs.Tryz.f285 := fnOk_of Go.Proofs.Tryz.func285 (by kernel_rfl) h
theorem fok286 (Gs : List Nat) (h : fnCheck Gs Go.Proofs.Tryz.f286 = true := by kernel_rfl) : FnOk Go.Proofs.Tryz.prog Gs 286 Go.Proofs.Tryz.f286 := fnOk_of Go.Proofs.Tryz.func286 (by kernel_rfl) h
theorem fok287 (Gs : List Nat) (h : fnCheck Gs Go.Proofs.Tryz.f287 = true := by kernel_rfl) : FnOk Go.Proofs.Tryz.prog Gs 287 Go.Proofs.Tryz.f287 := fnOk_of Go.Proofs.Tryz.func287 (by kernel_rfl) h
theorem fok288 (Gs : List Nat) (h : fnCheck Gs Go.Proofs.Tryz.f288 = true := by kernel_rfl) : FnOk Go.Proofs.Tryz.prog Gs 288 Go.Proofs.Tryz.f288 := fnOk_of Go.Proofs.Tryz.func288 (by kernel_rfl) h
theorem fok289 (Gs : List Nat) (h : fnCheck Gs Go.Proofs.Tryz.f289 = true := by kernel_rfl) : FnOk Go.Proofs.Tryz.prog Gs 289 Go.Proofs.Tryz.f289 := fnOk_of Go.Proofs.Tryz.func289 (by kernel_rfl) h
theorem fok290 (Gs : List Nat) (h : fnCheck Gs Go.Proofs.Tryz.f290 = true := by kernel_rfl) : FnOk Go.Proofs.Tryz.prog Gs 290 Go.Proofs.Tryz.f290 := fnOk_of Go.Proofs.Tryz.func290 (by kernel_rfl) h
theorem fok291 (Gs : List Nat) (h : fnCheck Gs Go.Proofs.Tryz.f291 = true := by kernel_rfl) : FnOk Go.Proofs.Tryz.prog Gs 291 Go.Proofs.Tryz.f291 := fnOk_of Go.Proofs.Tryz.func291 (by kernel_rfl) h
theorem fok292 (Gs : List Nat) (h : fnCheck Gs Go.Proofs.Tryz.f292 = true := by kernel_rfl) : FnOk Go.Proofs.Tryz.prog Gs 292 Go.Proofs.Tryz.f292 := fnOk_of Go.Proofs.Tryz.func292 (by kernel_rfl) h
theorem fok293 (Gs : List Nat) (h : fnCheck Gs Go.Proofs.Tryz.f293 = true := by kernel_rfl) : FnOk Go.Proofs.Tryz.prog Gs 293 Go.Proofs.Tryz.f293 := fnOk_of Go.Proofs.Tryz.func293 (by kernel_rfl) h
theorem fok315 (Gs : List Nat) (h : fnCheck Gs Go.Proofs.Tryz.f315 = true := by kernel_rfl) : FnOk Go.Proofs.Tryz.prog Gs 315 Go.Proofs.Tryz.f315 := fnOk_of Go.Proofs.Tryz.func315 (by kernel_rfl) h
theorem fok316 (Gs : List Nat) (h : fnCheck Gs Go.Proofs.Tryz.f316 = true := by kernel_rfl) : FnOk Go.Proofs.Tryz.prog Gs 316 Go.Proofs.Tryz.f316 := fnOk_of Go.Proofs.Tryz.func316 (by kernel_rfl) h
theorem fok317 (Gs : List Nat) (h : fnCheck Gs Go.Proofs.Tryz.f317 = true := by kernel_rfl) : FnOk Go.Proofs.Tryz.prog Gs 317 Go.Proofs.Tryz.f317 := fnOk_of Go.Proofs.Tryz.func317 (by kernel_rfl) h
theorem fnT_entries : fnT.entries = [(7, .go Go.Proofs.Tryz.f7), (63, .go Go.Proofs.Tryz.f63), (127, .go Go.Proofs.Tryz.f127), (255, .go Go.Proofs.Tryz.f255), (191, .go Go.Proofs.Tryz.f191), (95, .go Go.Proofs.Tryz.f95), (287, .go Go.Proofs.Tryz.f287), (47, .go Go.Proofs.Tryz.f47), (207, .go Go.Proofs.Tryz.f207), (111, .go Go.Proofs.Tryz.f111), (175, .go Go.Proofs.Tryz.f175), (239, .orc .noEscape), (23, .go Go.Proofs.Tryz.f23), (39, .go Go.Proofs.Tryz.f39), (135, .go Go.Proofs.Tryz.f135), (263, .go Go.Proofs.Tryz.f263), (199, .go Go.Proofs.Tryz.f199), (103, .go Go.Proofs.Tryz.f103), (167, .go Go.Proofs.Tryz.f167), (55, .go Go.Proofs.Tryz.f55), (215, .go Go.Proofs.Tryz.f215), (119, .go Go.Proofs.Tryz.f119), (183, .go Go.Proofs.Tryz.f183), (247, .go Go.Proofs.Tryz.f247), (11, .go Go.Proofs.Tryz.f11), (19, .go Go.Proofs.Tryz.f19), (131, .go Go.Proofs.Tryz.f131), (259, .go Go.Proofs.Tryz.f259), (195, .go Go.Proofs.Tryz.f195), (99, .go Go.Proofs.Tryz.f99), (291, .go Go.Proofs.Tryz.f291), (227, .go Go.Proofs.Tryz.f227), (51, .go Go.Proofs.Tryz.f51), (147, .go Go.Proofs.Tryz.f147), (211, .go Go.Proofs.Tryz.f211), (115, .go Go.Proofs.Tryz.f115), (179, .go Go.Proofs.Tryz.f179), (243, .go Go.Proofs.Tryz.f243), (27, .go Go.Proofs.Tryz.f27), (43, .go Go.Proofs.Tryz.f43), (107, .go Go.Proofs.Tryz.f107), (171, .go Go.Proofs.Tryz.f171), (59, .go Go.Proofs.Tryz.f59), (91, .go Go.Proofs.Tryz.f91), (123, .go Go.Proofs.Tryz.f123), (187, .go Go.Proofs.Tryz.f187), (315, .go Go.Proofs.Tryz.f315), (251, .go Go.Proofs.Tryz.f251), (5, .go Go.Proofs.Tryz.f5), (9, .go Go.Proofs.Tryz.f9), (17, .go Go.Proofs.Tryz.f17), (129, .go Go.Proofs.Tryz.f129), (257, .go Go.Proofs.Tryz.f257), (193, .go Go.Proofs.Tryz.f193), (97, .go Go.Proofs.Tryz.f97), (289, .go Go.Proofs.Tryz.f289), (49, .go Go.Proofs.Tryz.f49), (145, .go Go.Proofs.Tryz.f145), (113, .go Go.Proofs.Tryz.f113), (177, .go Go.Proofs.Tryz.f177), (241, .go Go.Proofs.Tryz.f241), (25, .go Go.Proofs.Tryz.f25), (41, .go Go.Proofs.Tryz.f41), (73, .go Go.Proofs.Tryz.f73), (265, .go Go.Proofs.Tryz.f265), (201, .go Go.Proofs.Tryz.f201), (105, .go Go.Proofs.Tryz.f105), (169, .go Go.Proofs.Tryz.f169), (57, .go Go.Proofs.Tryz.f57), (217, .go Go.Proofs.Tryz.f217), (121, .go Go.Proofs.Tryz.f121), (185, .go Go.Proofs.Tryz.f185), (249, .go Go.Proofs.Tryz.f249), (13, .go Go.Proofs.Tryz.f13), (21, .go Go.Proofs.Tryz.f21), (261, .go Go.Proofs.Tryz.f261), (197, .go Go.Proofs.Tryz.f197), (101, .go Go.Proofs.Tryz.f101), (293, .go Go.Proofs.Tryz.f293), (53, .go Go.Proofs.Tryz.f53), (85, .go Go.Proofs.Tryz.f85), (213, .go Go.Proofs.Tryz.f213), (117, .go Go.Proofs.Tryz.f117), (181, .go Go.Proofs.Tryz.f181), (245, .go Go.Proofs.Tryz.f245), (45, .go Go.Proofs.Tryz.f45), (141, .go Go.Proofs.Tryz.f141), (205, .go Go.Proofs.Tryz.f205), (109, .go Go.Proofs.Tryz.f109), (173, .go Go.Proofs.Tryz.f173), (61, .go Go.Proofs.Tryz.f61), (93, .go Go.Proofs.Tryz.f93), (285, .go Go.Proofs.Tryz.f285), (221, .go Go.Proofs.Tryz.f221), (125, .go Go.Proofs.Tryz.f125), (189, .go Go.Proofs.Tryz.f189), (317, .go Go.Proofs.Tryz.f317), (253, .go Go.Proofs.Tryz.f253), (8, .go Go.Proofs.Tryz.f8), (64, .go Go.Proofs.Tryz.f64), (128, .go Go.Proofs.Tryz.f128), (256, .go Go.Proofs.Tryz.f256), (192, .go Go.Proofs.Tryz.f192), (96, .go Go.Proofs.Tryz.f96), (288, .go Go.Proofs.Tryz.f288), (48, .go Go.Proofs.Tryz.f48), (112, .go Go.Proofs.Tryz.f112), (176, .go Go.Proofs.Tryz.f176), (24, .go Go.Proofs.Tryz.f24), (40, .orc .rept), (264, .go Go.Proofs.Tryz.f264), (200, .go Go.Proofs.Tryz.f200), (104, .go Go.Proofs.Tryz.f104), (168, .go Go.Proofs.Tryz.f168), (56, .go Go.Proofs.Tryz.f56), (88, .go Go.Proofs.Tryz.f88), (120, .go Go.Proofs.Tryz.f120), (184, .go Go.Proofs.Tryz.f184), (248, .go Go.Proofs.Tryz.f248), (12, .go Go.Proofs.Tryz.f12), (20, .go Go.Proofs.Tryz.f20), (196, .go Go.Proofs.Tryz.f196), (100, .go Go.Proofs.Tryz.f100), (292, .go Go.Proofs.Tryz.f292), (52, .go Go.Proofs.Tryz.f52), (116, .go Go.Proofs.Tryz.f116), (180, .go Go.Proofs.Tryz.f180), (244, .go Go.Proofs.Tryz.f244), (44, .go Go.Proofs.Tryz.f44), (108, .go Go.Proofs.Tryz.f108), (172, .go Go.Proofs.Tryz.f172), (60, .go Go.Proofs.Tryz.f60), (92, .go Go.Proofs.Tryz.f92), (156, .go Go.Proofs.Tryz.f156), (284, .go Go.Proofs.Tryz.f284), (124, .go Go.Proofs.Tryz.f124), (188, .go Go.Proofs.Tryz.f188), (316, .go Go.Proofs.Tryz.f316), (252, .go Go.Proofs.Tryz.f252), (10, .go Go.Proofs.Tryz.f10), (18, .go Go.Proofs.Tryz.f18), (66, .go Go.Proofs.Tryz.f66), (130, .go Go.Proofs.Tryz.f130), (258, .go Go.Proofs.Tryz.f258), (194, .go Go.Proofs.Tryz.f194), (98, .go Go.Proofs.Tryz.f98), (290, .go Go.Proofs.Tryz.f290), (226, .go Go.Proofs.Tryz.f226), (50, .go Go.Proofs.Tryz.f50), (210, .go Go.Proofs.Tryz.f210), (114, .go Go.Proofs.Tryz.f114), (178, .go Go.Proofs.Tryz.f178), (242, .go Go.Proofs.Tryz.f242), (26, .go Go.Proofs.Tryz.f26), (42, .go Go.Proofs.Tryz.f42), (138, .go Go.Proofs.Tryz.f138), (106, .go Go.Proofs.Tryz.f106), (58, .go Go.Proofs.Tryz.f58), (90, .go Go.Proofs.Tryz.f90), (154, .go Go.Proofs.Tryz.f154), (218, .go Go.Proofs.Tryz.f218), (122, .go Go.Proofs.Tryz.f122), (186, .go Go.Proofs.Tryz.f186), (250, .go Go.Proofs.Tryz.f250), (22, .go Go.Proofs.Tryz.f22), (38, .go Go.Proofs.Tryz.f38), (262, .go Go.Proofs.Tryz.f262), (198, .go Go.Proofs.Tryz.f198), (102, .go Go.Proofs.Tryz.f102), (166, .go Go.Proofs.Tryz.f166), (54, .go Go.Proofs.Tryz.f54), (86, .go Go.Proofs.Tryz.f86), (214, .go Go.Proofs.Tryz.f214), (118, .go Go.Proofs.Tryz.f118), (182, .go Go.Proofs.Tryz.f182), (246, .go Go.Proofs.Tryz.f246), (46, .go Go.Proofs.Tryz.f46), (142, .go Go.Proofs.Tryz.f142), (206, .go Go.Proofs.Tryz.f206), (110, .go Go.Proofs.Tryz.f110), (174, .go Go.Proofs.Tryz.f174), (62, .go Go.Proofs.Tryz.f62), (94, .go Go.Proofs.Tryz.f94), (286, .go Go.Proofs.Tryz.f286), (126, .go Go.Proofs.Tryz.f126), (190, .go Go.Proofs.Tryz.f190), (254, .go Go.Proofs.Tryz.f254)] := by kernel_rfl
theorem fnT_ok (o40 : OrcOk Go.Proofs.Tryz.prog [] 40 .rept) (o239 : OrcOk Go.Proofs.Tryz.prog [] 239 .noEscape) : FnsOk Go.Proofs.Tryz.prog [] fnT := fnsOk_of (by
  rw [fnT_entries]
  intro x hx
  simp only [List.mem_cons, List.not_mem_nil, or_false] at hx
  rcases hx with rfl | rfl | rfl | rfl | rfl | rfl | rfl | rfl | rfl | rfl | rfl | rfl | rfl | rfl | rfl | rfl | rfl | rfl | rfl | rfl | rfl | rfl | rfl | rfl | rfl | rfl | rfl | rfl | rfl | rfl | rfl | rfl | rfl | rfl | rfl | rfl | rfl | rfl | rfl | rfl | rfl | rfl | rfl | rfl | rfl | rfl | rfl | rfl | rfl | rfl | rfl | rfl | rfl | rfl | rfl | rfl | rfl | rfl | rfl | rfl | rfl | rfl | rfl | rfl | rfl | rfl | rfl | rfl | rfl | rfl | rfl | rfl | rfl | rfl | rfl | rfl | rfl | rfl | rfl | rfl | rfl | rfl | rfl | rfl | rfl | rfl | rfl | rfl | rfl | rfl | rfl | rfl | rfl | rfl | rfl | rfl | rfl | rfl | rfl | rfl | rfl | rfl | rfl | rfl | rfl | rfl | rfl | rfl | rfl | rfl | rfl | rfl | rfl | rfl | rfl | rfl | rfl | rfl | rfl | rfl | rfl | rfl | rfl | rfl | rfl | rfl | rfl | rfl | rfl | rfl | rfl | rfl | rfl | rfl | rfl | rfl | rfl | rfl | rfl | rfl | rfl | rfl | rfl | rfl | rfl | rfl | rfl | rfl | rfl | rfl | rfl | rfl | rfl | rfl | rfl | rfl | rfl | rfl | rfl | rfl | rfl | rfl | rfl | rfl | rfl | rfl | rfl | rfl | rfl | rfl | rfl | rfl | rfl | rfl | rfl | rfl | rfl | rfl | rfl | rfl | rfl | rfl | rfl | rfl | rfl | rfl | rfl
  · exact fok7 []
  · exact fok63 []
  · exact fok127 []
  · exact fok255 []
  · exact fok191 []
  · exact fok95 []
  · exact fok287 []
  · exact fok47 []
  · exact fok207 []
  · exact fok111 []
  · exact fok175 []
  · exact o239
  · exact fok23 []
  · exact fok39 []
  · exact fok135 []
  · exact fok263 []
  · exact fok199 []
  · exact fok103 []
  · exact fok167 []
  · exact fok55 []
  · exact fok215 []
  · exact fok119 []
  · exact fok183 []
  · exact fok247 []
  · exact fok11 []
  · exact fok19 []
  · exact fok131 []
  · exact fok259 []
  · exact fok195 []
  · exact fok99 []
  · exact fok291 []
  · exact fok227 []
  · exact fok51 []
  · exact fok147 []
  · exact fok211 []
  · exact fok115 []
  · exact fok179 []
  · exact fok243 []
  · exact fok27 []
  · exact fok43 []
  · exact fok107 []
  · exact fok171 []
  · exact fok59 []
  · exact fok91 []
  · exact fok123 []
  · exact fok187 []
  · exact fok315 []
  · exact fok251 []
  · exact fok5 []
  · exact fok9 []
  · exact fok17 []
  · exact fok129 []
  · exact fok257 []
  · exact fok193 []
  · exact fok97 []
  · exact fok289 []
  · exact fok49 []
  · exact fok145 []
  · exact fok113 []
  · exact fok177 []
  · exact fok241 []
  · exact fok25 []
  · exact fok41 []
  · exact fok73 []
  · exact fok265 []
  · exact fok201 []
  · exact fok105 []
  · exact fok169 []
  · exact fok57 []
  · exact fok217 []
  · exact fok121 []
  · exact fok185 []
  · exact fok249 []
  · exact fok13 []
  · exact fok21 []
  · exact fok261 []
  · exact fok197 []
  · exact fok101 []
  · exact fok293 []
  · exact fok53 []
  · exact fok85 []
  · exact fok213 []
  · exact fok117 []
  · exact fok181 []
  · exact fok245 []
  · exact fok45 []
  · exact fok141 []
  · exact fok205 []
  · exact fok109 []
  · exact fok173 []
  · exact fok61 []
  · exact fok93 []
  · exact fok285 []
  · exact fok221 []
  · exact fok125 []
  · exact fok189 []
  · exact fok317 []
  · exact fok253 []
  · exact fok8 []
  · exact fok64 []
  · exact fok128 []
  · exact fok256 []
  · exact fok192 []
  · exact fok96 []
  · exact fok288 []
  · exact fok48 []
  · exact fok112 []
  · exact fok176 []
  · exact fok24 []
  · exact o40
  · exact fok264 []
  · exact fok200 []
  · exact fok104 []
  · exact fok168 []
  · exact fok56 []
  · exact fok88 []
  · exact fok120 []
  · exact fok184 []
  · exact fok248 []
  · exact fok12 []
  · exact fok20 []
  · exact fok196 []
  · exact fok100 []
  · exact fok292 []
  · exact fok52 []
  · exact fok116 []
  · exact fok180 []
  · exact fok244 []
  · exact fok44 []
  · exact fok108 []
  · exact fok172 []
  · exact fok60 []
  · exact fok92 []
  · exact fok156 []
  · exact fok284 []
  · exact fok124 []
  · exact fok188 []
  · exact fok316 []
  · exact fok252 []
  · exact fok10 []
  · exact fok18 []
  · exact fok66 []
  · exact fok130 []
  · exact fok258 []
  · exact fok194 []
  · exact fok98 []
  · exact fok290 []
  · exact fok226 []
  · exact fok50 []
  · exact fok210 []
  · exact fok114 []
  · exact fok178 []
  · exact fok242 []
  · exact fok26 []
  · exact fok42 []
  · exact fok138 []
  · exact fok106 []
  · exact fok58 []
  · exact fok90 []
  · exact fok154 []
  · exact fok218 []
  · exact fok122 []
  · exact fok186 []
  · exact fok250 []
  · exact fok22 []
  · exact fok38 []
  · exact fok262 []
  · exact fok198 []
  · exact fok102 []
  · exact fok166 []
  · exact fok54 []
  · exact fok86 []
  · exact fok214 []
  · exact fok118 []
  · exact fok182 []
  · exact fok246 []
  · exact fok46 []
  · exact fok142 []
  · exact fok206 []
  · exact fok110 []
  · exact fok174 []
  · exact fok62 []
  · exact fok94 []
  · exact fok286 []
  · exact fok126 []
  · exact fok190 []
  · exact fok254 [])
theorem mixed : Go.Proofs.Tryz.prog.follows .mixedOrders = true := Go.Proofs.Tryz.checked.mixed
end NtZ
