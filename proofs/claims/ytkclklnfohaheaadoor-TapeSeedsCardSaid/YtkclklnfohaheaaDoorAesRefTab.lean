/- The document's table of S is the program's. -/
import Derived.Test.YtkclklnfohaheaaDoorAesRefSpec
import Derived.Test.YtkclklnfohaheaaDoorAesPlain
namespace Go.Proofs.YtkclklnfohaheaaDoor.AesSpec
set_option maxRecDepth 100000 in
theorem box_tab : boxR 256 = tabL := by decide +kernel
theorem gm_two : ∀ p : By, gm p 2#8 = xt p := by decide +kernel
theorem gm_three : ∀ p : By, gm p 3#8 = xt p ^^^ p := by decide +kernel
end Go.Proofs.YtkclklnfohaheaaDoor.AesSpec
