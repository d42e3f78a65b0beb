/- What the claim has need of: TxP2, TxP4. -/
import Derived.Test.YtljlkhobfdofhaaGreatDoorWv14
set_option linter.unusedVariables false
set_option maxHeartbeats 16000000
set_option maxRecDepth 20000
namespace Go.Proofs.YtljlkhobfdofhaaGreatDoor.Rv
open Go Vc Mi Ta
set_option maxRecDepth 100000
theorem FS:HC X1 100000 1000 139 [.lst 6 (BE (pA 2 false))] M00 (fun v M=>LI (tS (pA 2 false) v M))=some (.un,M00):=by kernel_rfl
theorem sP:HC X1 100000 1000 74 [.lst 6 (BE (jA (pA 2 false)))] M00 (fun v M=>LI (uS v M))=some (.un,M00):=by kernel_rfl
end Go.Proofs.YtljlkhobfdofhaaGreatDoor.Rv
namespace Go.Proofs.YtljlkhobfdofhaaGreatDoor.Rv
open Go Vc Mi Ta
set_option maxRecDepth 100000
theorem DS:HC X1 100000 1000 139 [.lst 6 (BE (pA 4 false))] M00 (fun v M=>LI (tS (pA 4 false) v M))=some (.un,M00):=by kernel_rfl
theorem rP:HC X1 100000 1000 74 [.lst 6 (BE (jA (pA 4 false)))] M00 (fun v M=>LI (uS v M))=some (.un,M00):=by kernel_rfl
end Go.Proofs.YtljlkhobfdofhaaGreatDoor.Rv
