/- What the claim has need of: TxA, Tx0a. -/
import Derived.Test.YtljlkhobfdofhaaGreatDoorWv14
set_option linter.unusedVariables false
set_option maxHeartbeats 16000000
set_option maxRecDepth 20000
namespace Go.Proofs.YtljlkhobfdofhaaGreatDoor.Rv
open Go Vc Mi Ta
set_option maxRecDepth 100000
theorem HS:HC X1 100000 1000 7 [] M00 (fun v M=>LI (trueB v))=some (.un,M00):=by kernel_rfl
end Go.Proofs.YtljlkhobfdofhaaGreatDoor.Rv
namespace Go.Proofs.YtljlkhobfdofhaaGreatDoor.Rv
open Go Vc Mi Ta
set_option maxRecDepth 100000
theorem SY:HC X1 100000 1000 11 [.str [105,110,112,117,116,32,48,32,120,32,91,93,59,32,105,110,112,117,116,32,49,32,121,32,91,93,59,32,108,101,116,32,122,32,61,32,114,101,108,117,40,120,41,59,32,111,117,116,112,117,116,32,122,59],.agg [.bool false,.bool false,.bool false,.int .i64 0]] M00 (fun v M=>LI (UE (jA (pA 0 false)) v M))=some (.un,M00):=by kernel_rfl
end Go.Proofs.YtljlkhobfdofhaaGreatDoor.Rv
