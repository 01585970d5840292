/-
  A part of the proof: Facts, BitsW, BitsX, BitsR, XvOpen, XvLate, XvNest, BsN, StrM, StrQ, FtA.
-/
import Derived.Test.YthdciapjllppjaaGreatFbE
import Derived.Below
import Derived.ChangeOld
import Derived.ChangeSame
import Derived.Deep.Fields
import Derived.Deep.Slices
import Derived.KernelRfl
import Derived.OpenShut
import Derived.ProofKit
import Derived.ShutString
import Derived.Test.YthdciapjllppjaaGreatProg
import Derived.WalkKit
set_option maxRecDepth 10000
set_option maxHeartbeats 8000000
set_option linter.unusedVariables false
set_option linter.unusedSectionVars false
set_option linter.unusedSimpArgs false
open Go.Proofs.Tryz (prog)
namespace Go.Proofs.YthdciapjllppjaaGreat
open Go.Xm
instance:aG prog 3 (.int .i64):=⟨Tryz.underlying3⟩
instance:aF prog 3 1:=⟨by kernel_rfl⟩
instance:TI prog 3 1:=⟨by kernel_rfl⟩
instance:cA prog 3:=⟨by kernel_rfl⟩
instance:aI prog 3 ([.int .i64 0]):=⟨by kernel_rfl⟩
instance:aG prog 4 (.bool):=⟨Tryz.underlying4⟩
instance:aF prog 4 1:=⟨by kernel_rfl⟩
instance:TI prog 4 1:=⟨by kernel_rfl⟩
instance:cA prog 4:=⟨by kernel_rfl⟩
instance:aI prog 4 ([.bool false]):=⟨by kernel_rfl⟩
instance:aG prog 5 (.int .u8):=⟨Tryz.underlying5⟩
instance:aF prog 5 1:=⟨by kernel_rfl⟩
instance:TI prog 5 1:=⟨by kernel_rfl⟩
instance:cA prog 5:=⟨by kernel_rfl⟩
instance:aI prog 5 ([.int .u8 0]):=⟨by kernel_rfl⟩
instance:aG prog 9 (.string):=⟨Tryz.underlying9⟩
instance:aG prog 22 (.array 64 5):=⟨Tryz.underlying22⟩
instance:aF prog 22 64:=⟨by kernel_rfl⟩
instance:cU prog 22:=⟨by kernel_rfl⟩
instance:aI prog 22 ((ti .u8 64 fun _=>0)):=⟨by kernel_rfl⟩
instance:cC prog 24 [(0,1),(1,64),(65,64)]:=⟨_,Tryz.underlying24,by kernel_rfl⟩
instance:aF prog 24 129:=⟨by kernel_rfl⟩
instance:cU prog 24:=⟨by kernel_rfl⟩
instance:aI prog 24 ([.bool false]++(ti .u8 64 fun _=>0)++(ti .u8 64 fun _=>0)):=⟨by kernel_rfl⟩
instance:bD prog 24 0 4 0:=⟨by kernel_rfl⟩
instance:bD prog 24 1 22 1:=⟨by kernel_rfl⟩
instance:bD prog 24 2 22 65:=⟨by kernel_rfl⟩
instance:cC prog 26 [(0,1),(1,1),(2,129)]:=⟨_,Tryz.underlying26,by kernel_rfl⟩
instance:aF prog 26 131:=⟨by kernel_rfl⟩
instance:cU prog 26:=⟨by kernel_rfl⟩
instance:aI prog 26 ([.int .i64 0,.int .i64 0,.bool false]++(ti .u8 64 fun _=>0)++(ti .u8 64 fun _=>0)):=⟨by kernel_rfl⟩
instance:bD prog 26 0 3 0:=⟨by kernel_rfl⟩
instance:bD prog 26 1 3 1:=⟨by kernel_rfl⟩
instance:bD prog 26 2 24 2:=⟨by kernel_rfl⟩
instance:aG prog 27 (.slice 84):=⟨Tryz.underlying27⟩
instance:aF prog 27 1:=⟨by kernel_rfl⟩
instance:cA prog 27:=⟨by kernel_rfl⟩
instance:aG prog 28 (.slice 99):=⟨Tryz.underlying28⟩
instance:aF prog 28 1:=⟨by kernel_rfl⟩
instance:cA prog 28:=⟨by kernel_rfl⟩
instance:cC prog 30 [(0,131),(131,1),(132,1)]:=⟨_,Tryz.underlying30,by kernel_rfl⟩
instance:aF prog 30 133:=⟨by kernel_rfl⟩
instance:cU prog 30:=⟨by kernel_rfl⟩
instance:aI prog 30 ([.int .i64 0,.int .i64 0,.bool false]++(ti .u8 64 fun _=>0)++(ti .u8 64 fun _=>0)++[.nils,.nils]):=⟨by kernel_rfl⟩
instance:bD prog 30 0 26 0:=⟨by kernel_rfl⟩
instance:bD prog 30 1 27 131:=⟨by kernel_rfl⟩
instance:bD prog 30 2 28 132:=⟨by kernel_rfl⟩
instance:aG prog 31 (.slice 4):=⟨Tryz.underlying31⟩
instance:aF prog 31 1:=⟨by kernel_rfl⟩
instance:cA prog 31:=⟨by kernel_rfl⟩
instance:aG prog 32 (.slice 5):=⟨Tryz.underlying32⟩
instance:aF prog 32 1:=⟨by kernel_rfl⟩
instance:TI prog 32 1:=⟨by kernel_rfl⟩
instance:cA prog 32:=⟨by kernel_rfl⟩
instance:aI prog 32 ([.nils]):=⟨by kernel_rfl⟩
instance:aG prog 34 (.slice 87):=⟨Tryz.underlying34⟩
instance:aF prog 34 1:=⟨by kernel_rfl⟩
instance:cA prog 34:=⟨by kernel_rfl⟩
instance:cC prog 36 [(0,131),(131,1)]:=⟨_,Tryz.underlying36,by kernel_rfl⟩
instance:aF prog 36 132:=⟨by kernel_rfl⟩
instance:cU prog 36:=⟨by kernel_rfl⟩
instance:aI prog 36 ([.int .i64 0,.int .i64 0,.bool false]++(ti .u8 64 fun _=>0)++(ti .u8 64 fun _=>0)++[.nils]):=⟨by kernel_rfl⟩
instance:bD prog 36 0 26 0:=⟨by kernel_rfl⟩
instance:bD prog 36 1 34 131:=⟨by kernel_rfl⟩
instance:aG prog 38 (.slice 32):=⟨Tryz.underlying38⟩
instance:aG prog 42 (.slice 3):=⟨Tryz.underlying42⟩
instance:aF prog 42 1:=⟨by kernel_rfl⟩
instance:cA prog 42:=⟨by kernel_rfl⟩
instance:aF prog 48 4:=⟨by kernel_rfl⟩
instance:cU prog 48:=⟨by kernel_rfl⟩
instance:bD prog 48 0 3 0:=⟨by kernel_rfl⟩
instance:bD prog 48 1 4 1:=⟨by kernel_rfl⟩
instance:bD prog 48 2 4 2:=⟨by kernel_rfl⟩
instance:bD prog 48 3 3 3:=⟨by kernel_rfl⟩
instance:cC prog 50 [(0,4),(4,1),(5,1),(6,1),(7,1)]:=⟨_,Tryz.underlying50,by kernel_rfl⟩
instance:aF prog 50 8:=⟨by kernel_rfl⟩
instance:cU prog 50:=⟨by kernel_rfl⟩
instance:aI prog 50 ([.int .i64 0,.bool false,.bool false,.int .i64 0,.int .i64 0,.int .i64 0,.nils,.nils]):=⟨by kernel_rfl⟩
instance:bD prog 50 0 48 0:=⟨by kernel_rfl⟩
instance:bD prog 50 1 3 4:=⟨by kernel_rfl⟩
instance:bD prog 50 2 3 5:=⟨by kernel_rfl⟩
instance:bD prog 50 3 32 6:=⟨by kernel_rfl⟩
instance:bD prog 50 4 32 7:=⟨by kernel_rfl⟩
instance:aG prog 63 (.slice 125):=⟨Tryz.underlying63⟩
instance:aG prog 65 (.slice 69):=⟨Tryz.underlying65⟩
instance:cC prog 69 [(0,1),(1,1)]:=⟨_,Tryz.underlying69,by kernel_rfl⟩
instance:aF prog 69 2:=⟨by kernel_rfl⟩
instance:TI prog 69 2:=⟨by kernel_rfl⟩
instance:cU prog 69:=⟨by kernel_rfl⟩
instance:aI prog 69 ([.bool false,.nils]):=⟨by kernel_rfl⟩
instance:bD prog 69 0 4 0:=⟨by kernel_rfl⟩
instance:bD prog 69 1 32 1:=⟨by kernel_rfl⟩
instance:aG prog 70 (.slice 75):=⟨Tryz.underlying70⟩
instance:cC prog 75 [(0,1),(1,1),(2,1)]:=⟨_,Tryz.underlying75,by kernel_rfl⟩
instance:aF prog 75 3:=⟨by kernel_rfl⟩
instance:TI prog 75 3:=⟨by kernel_rfl⟩
instance:cU prog 75:=⟨by kernel_rfl⟩
instance:aI prog 75 ([.int .i64 0,.int .i64 0,.nils]):=⟨by kernel_rfl⟩
instance:bD prog 75 2 31 2:=⟨by kernel_rfl⟩
instance:aG prog 77 (.slice 79):=⟨Tryz.underlying77⟩
instance:aG prog 79 (.array 2 3):=⟨Tryz.underlying79⟩
instance:aF prog 79 2:=⟨by kernel_rfl⟩
instance:TI prog 79 2:=⟨by kernel_rfl⟩
instance:cU prog 79:=⟨by kernel_rfl⟩
instance:aI prog 79 ([.int .i64 0,.int .i64 0]):=⟨by kernel_rfl⟩
instance:cC prog 84 [(0,1),(1,1),(2,1),(3,1)]:=⟨_,Tryz.underlying84,by kernel_rfl⟩
instance:aF prog 84 4:=⟨by kernel_rfl⟩
instance:cU prog 84:=⟨by kernel_rfl⟩
instance:aI prog 84 ([.bool false,.bool false,.int .u8 0,.int .u8 0]):=⟨by kernel_rfl⟩
instance:bD prog 84 0 4 0:=⟨by kernel_rfl⟩
instance:bD prog 84 1 4 1:=⟨by kernel_rfl⟩
instance:bD prog 84 2 5 2:=⟨by kernel_rfl⟩
instance:bD prog 84 3 5 3:=⟨by kernel_rfl⟩
instance:aG prog 85 (.slice 90):=⟨Tryz.underlying85⟩
instance:aF prog 85 1:=⟨by kernel_rfl⟩
instance:cA prog 85:=⟨by kernel_rfl⟩
instance:aF prog 87 5:=⟨by kernel_rfl⟩
instance:TI prog 87 5:=⟨by kernel_rfl⟩
instance:cU prog 87:=⟨by kernel_rfl⟩
instance:aI prog 87 ([.int .i64 0,.bool false,.bool false,.int .i64 0,.nils]):=⟨by kernel_rfl⟩
instance:bD prog 87 0 48 0:=⟨by kernel_rfl⟩
instance:bD prog 87 1 85 4:=⟨by kernel_rfl⟩
instance:aG prog 88 (.slice 107):=⟨Tryz.underlying88⟩
instance:aF prog 88 1:=⟨by kernel_rfl⟩
instance:cA prog 88:=⟨by kernel_rfl⟩
instance:cC prog 90 [(0,1),(1,1)]:=⟨_,Tryz.underlying90,by kernel_rfl⟩
instance:aF prog 90 2:=⟨by kernel_rfl⟩
instance:TI prog 90 2:=⟨by kernel_rfl⟩
instance:cU prog 90:=⟨by kernel_rfl⟩
instance:aI prog 90 ([.int .i64 0,.nils]):=⟨by kernel_rfl⟩
instance:bD prog 90 0 3 0:=⟨by kernel_rfl⟩
instance:bD prog 90 1 88 1:=⟨by kernel_rfl⟩
instance:aG prog 91 (.int .i8):=⟨Tryz.underlying91⟩
instance:aF prog 91 1:=⟨by kernel_rfl⟩
instance:cA prog 91:=⟨by kernel_rfl⟩
instance:aG prog 92 (.array 4 91):=⟨Tryz.underlying92⟩
instance:aF prog 92 4:=⟨by kernel_rfl⟩
instance:aF prog 94 9:=⟨by kernel_rfl⟩
instance:cU prog 94:=⟨by kernel_rfl⟩
instance:bD prog 94 0 92 0:=⟨by kernel_rfl⟩
instance:bD prog 94 1 92 4:=⟨by kernel_rfl⟩
instance:bD prog 94 2 4 8:=⟨by kernel_rfl⟩
instance:aG prog 95 (.int .u64):=⟨Tryz.underlying95⟩
instance:aF prog 95 1:=⟨by kernel_rfl⟩
instance:cA prog 95:=⟨by kernel_rfl⟩
instance:aG prog 96 (.array 6 95):=⟨Tryz.underlying96⟩
instance:aF prog 96 6:=⟨by kernel_rfl⟩
instance:aG prog 97 (.int .u32):=⟨Tryz.underlying97⟩
instance:aF prog 97 1:=⟨by kernel_rfl⟩
instance:cA prog 97:=⟨by kernel_rfl⟩
instance:cC prog 99 [(0,1),(1,1),(2,9),(11,1),(12,6),(18,1),(19,1)]:=⟨_,Tryz.underlying99,by kernel_rfl⟩
instance:aF prog 99 20:=⟨by kernel_rfl⟩
instance:cU prog 99:=⟨by kernel_rfl⟩
instance:aI prog 99 ([.int .u8 0,.int .u8 0,.int .i8 0,.int .i8 0,.int .i8 0,.int .i8 0,.int .i8 0,.int .i8 0,.int .i8 0,.int .i8 0,.bool false,.bool false,.int .u64 0,.int .u64 0,.int .u64 0,.int .u64 0,.int .u64 0,.int .u64 0,.int .u32 0,.bool false]):=⟨by kernel_rfl⟩
instance:bD prog 99 0 5 0:=⟨by kernel_rfl⟩
instance:bD prog 99 1 5 1:=⟨by kernel_rfl⟩
instance:bD prog 99 2 94 2:=⟨by kernel_rfl⟩
instance:bD prog 99 3 4 11:=⟨by kernel_rfl⟩
instance:bD prog 99 4 96 12:=⟨by kernel_rfl⟩
instance:bD prog 99 5 97 18:=⟨by kernel_rfl⟩
instance:bD prog 99 6 4 19:=⟨by kernel_rfl⟩
instance:aG prog 100 (.int .u8):=⟨Tryz.underlying100⟩
instance:aF prog 100 1:=⟨by kernel_rfl⟩
instance:cA prog 100:=⟨by kernel_rfl⟩
instance:aF prog 101 1:=⟨by kernel_rfl⟩
instance:TI prog 101 1:=⟨by kernel_rfl⟩
instance:cA prog 101:=⟨by kernel_rfl⟩
instance:aI prog 101 ([.cplx .f64 0 0]):=⟨by kernel_rfl⟩
instance:aG prog 103 (.array 4 101):=⟨Tryz.underlying103⟩
instance:aF prog 103 4:=⟨by kernel_rfl⟩
instance:cU prog 103:=⟨by kernel_rfl⟩
instance:aI prog 103 ([.cplx .f64 0 0,.cplx .f64 0 0,.cplx .f64 0 0,.cplx .f64 0 0]):=⟨by kernel_rfl⟩
instance:aG prog 104 (.array 64 3):=⟨Tryz.underlying104⟩
instance:aF prog 104 64:=⟨by kernel_rfl⟩
instance:cU prog 104:=⟨by kernel_rfl⟩
instance:aI prog 104 ((ti .i64 64 fun _=>0)):=⟨by kernel_rfl⟩
instance:aG prog 105 (.array 6 104):=⟨Tryz.underlying105⟩
instance:aF prog 105 384:=⟨by kernel_rfl⟩
instance:cU prog 105:=⟨by kernel_rfl⟩
instance:cC prog 107 [(0,1),(1,1),(2,4),(6,1),(7,384)]:=⟨_,Tryz.underlying107,by kernel_rfl⟩
instance:aF prog 107 391:=⟨by kernel_rfl⟩
instance:TI prog 107 391:=⟨by kernel_rfl⟩
instance:cU prog 107:=⟨by kernel_rfl⟩
instance:aI prog 107 ([.int .u8 0,.int .i64 0,.cplx .f64 0 0,.cplx .f64 0 0,.cplx .f64 0 0,.cplx .f64 0 0,.bool false]++(ti .i64 384 fun _=>0)):=⟨by kernel_rfl⟩
instance:bD prog 107 0 100 0:=⟨by kernel_rfl⟩
instance:bD prog 107 1 3 1:=⟨by kernel_rfl⟩
instance:bD prog 107 2 103 2:=⟨by kernel_rfl⟩
instance:bD prog 107 3 4 6:=⟨by kernel_rfl⟩
instance:bD prog 107 4 105 7:=⟨by kernel_rfl⟩
instance:aG prog 110 (.pointer 150):=⟨Tryz.underlying110⟩
instance:aF prog 110 1:=⟨by kernel_rfl⟩
instance:cA prog 110:=⟨by kernel_rfl⟩
instance:aG prog 122 (.int .u16):=⟨Tryz.underlying122⟩
instance:aF prog 122 1:=⟨by kernel_rfl⟩
instance:TI prog 122 1:=⟨by kernel_rfl⟩
instance:cA prog 122:=⟨by kernel_rfl⟩
instance:aI prog 122 ([.int .u16 0]):=⟨by kernel_rfl⟩
instance:aG prog 123 (.slice 122):=⟨Tryz.underlying123⟩
instance:aF prog 123 1:=⟨by kernel_rfl⟩
instance:cA prog 123:=⟨by kernel_rfl⟩
instance:aF prog 125 5:=⟨by kernel_rfl⟩
instance:cU prog 125:=⟨by kernel_rfl⟩
instance:aI prog 125 ([.int .u8 0,.int .u16 0,.int .u16 0,.nils,.nils]):=⟨by kernel_rfl⟩
instance:bD prog 125 0 5 0:=⟨by kernel_rfl⟩
instance:bD prog 125 1 122 1:=⟨by kernel_rfl⟩
instance:bD prog 125 2 122 2:=⟨by kernel_rfl⟩
instance:bD prog 125 3 123 3:=⟨by kernel_rfl⟩
instance:bD prog 125 4 32 4:=⟨by kernel_rfl⟩
instance:aG prog 132 (.pointer 134):=⟨Tryz.underlying132⟩
instance:cC prog 134 [(0,1),(1,1)]:=⟨_,Tryz.underlying134,by kernel_rfl⟩
instance:aF prog 134 2:=⟨by kernel_rfl⟩
instance:aI prog 134 ([.nils,.int .i64 0]):=⟨by kernel_rfl⟩
instance:bD prog 134 0 32 0:=⟨by kernel_rfl⟩
instance:bD prog 134 1 3 1:=⟨by kernel_rfl⟩
instance:aG prog 137 (.slice 22):=⟨Tryz.underlying137⟩
instance:aG prog 140 (.int .u64):=⟨Tryz.underlying140⟩
instance:aG prog 142 (.array 4 3):=⟨Tryz.underlying142⟩
instance:aF prog 142 4:=⟨by kernel_rfl⟩
instance:cU prog 142:=⟨by kernel_rfl⟩
instance:aI prog 142 ([.int .i64 0,.int .i64 0,.int .i64 0,.int .i64 0]):=⟨by kernel_rfl⟩
instance:aG prog 147 (.pointer 212):=⟨Tryz.underlying147⟩
instance:aF prog 147 1:=⟨by kernel_rfl⟩
instance:cA prog 147:=⟨by kernel_rfl⟩
instance:bD prog 150 0 147 0:=⟨by kernel_rfl⟩
instance:bD prog 150 1 147 1:=⟨by kernel_rfl⟩
instance:bD prog 150 2 147 2:=⟨by kernel_rfl⟩
instance:aG prog 154 (.pointer 216):=⟨Tryz.underlying154⟩
instance:aF prog 154 1:=⟨by kernel_rfl⟩
instance:cA prog 154:=⟨by kernel_rfl⟩
instance:aG prog 155 (.pointer 220):=⟨Tryz.underlying155⟩
instance:aF prog 155 1:=⟨by kernel_rfl⟩
instance:cA prog 155:=⟨by kernel_rfl⟩
instance:cC prog 157 [(0,1),(1,4),(5,1),(6,1),(7,1)]:=⟨_,Tryz.underlying157,by kernel_rfl⟩
instance:aI prog 157 ([.nilp,.int .i64 0,.bool false,.bool false,.int .i64 0,.int .i64 0,.nilp,.nilp]):=⟨by kernel_rfl⟩
instance:bD prog 157 0 110 0:=⟨by kernel_rfl⟩
instance:bD prog 157 1 48 1:=⟨by kernel_rfl⟩
instance:bD prog 157 2 3 5:=⟨by kernel_rfl⟩
instance:bD prog 157 3 154 6:=⟨by kernel_rfl⟩
instance:bD prog 157 4 155 7:=⟨by kernel_rfl⟩
instance:aG prog 161 (.pointer 190):=⟨Tryz.underlying161⟩
instance:aG prog 170 (.map 3 4):=⟨Tryz.underlying170⟩
instance:cC prog 190 [(0,1),(1,1),(2,1),(3,1)]:=⟨_,Tryz.underlying190,by kernel_rfl⟩
instance:aI prog 190 ([.nils,.int .i64 0,.int .i64 0,.bool false]):=⟨by kernel_rfl⟩
instance:bD prog 190 0 32 0:=⟨by kernel_rfl⟩
instance:bD prog 190 1 3 1:=⟨by kernel_rfl⟩
instance:bD prog 190 2 3 2:=⟨by kernel_rfl⟩
instance:bD prog 190 3 4 3:=⟨by kernel_rfl⟩
instance:aG prog 209 (.slice 95):=⟨Tryz.underlying209⟩
instance:aF prog 209 1:=⟨by kernel_rfl⟩
instance:cA prog 209:=⟨by kernel_rfl⟩
instance:bD prog 212 0 42 0:=⟨by kernel_rfl⟩
instance:bD prog 212 1 209 1:=⟨by kernel_rfl⟩
instance:aG prog 214 (.map 3 101):=⟨Tryz.underlying214⟩
instance:aF prog 214 1:=⟨by kernel_rfl⟩
instance:cA prog 214:=⟨by kernel_rfl⟩
instance:cC prog 216 [(0,1),(1,1),(2,1)]:=⟨_,Tryz.underlying216,by kernel_rfl⟩
instance:aI prog 216 ([.int .i64 0,.int .i64 0,.nilm]):=⟨by kernel_rfl⟩
instance:bD prog 216 0 3 0:=⟨by kernel_rfl⟩
instance:bD prog 216 1 3 1:=⟨by kernel_rfl⟩
instance:bD prog 216 2 214 2:=⟨by kernel_rfl⟩
instance:aG prog 217 (.map 3 242):=⟨Tryz.underlying217⟩
instance:aF prog 217 1:=⟨by kernel_rfl⟩
instance:cA prog 217:=⟨by kernel_rfl⟩
instance:aG prog 218 (.array 3 217):=⟨Tryz.underlying218⟩
instance:aF prog 218 3:=⟨by kernel_rfl⟩
instance:aI prog 218 ([.nilm,.nilm,.nilm]):=⟨by kernel_rfl⟩
instance:cC prog 220 [(0,1),(1,1),(2,3)]:=⟨_,Tryz.underlying220,by kernel_rfl⟩
instance:aI prog 220 ([.int .i64 0,.int .i64 0,.nilm,.nilm,.nilm]):=⟨by kernel_rfl⟩
instance:bD prog 220 0 3 0:=⟨by kernel_rfl⟩
instance:bD prog 220 1 3 1:=⟨by kernel_rfl⟩
instance:bD prog 220 2 218 2:=⟨by kernel_rfl⟩
instance:aG prog 226 (.slice 101):=⟨Tryz.underlying226⟩
instance:aG prog 227 (.array 3 79):=⟨Tryz.underlying227⟩
instance:aI prog 227 ([.int .i64 0,.int .i64 0,.int .i64 0,.int .i64 0,.int .i64 0,.int .i64 0]):=⟨by kernel_rfl⟩
instance:aG prog 231 (.slice 265):=⟨Tryz.underlying231⟩
instance:aF prog 231 1:=⟨by kernel_rfl⟩
instance:cA prog 231:=⟨by kernel_rfl⟩
instance:aG prog 232 (.array 6 231):=⟨Tryz.underlying232⟩
instance:aF prog 232 6:=⟨by kernel_rfl⟩
instance:cU prog 232:=⟨by kernel_rfl⟩
instance:aI prog 232 ([.nils,.nils,.nils,.nils,.nils,.nils]):=⟨by kernel_rfl⟩
instance:cC prog 242 [(0,64),(64,1)]:=⟨_,Tryz.underlying242,by kernel_rfl⟩
instance:aF prog 242 65:=⟨by kernel_rfl⟩
instance:cU prog 242:=⟨by kernel_rfl⟩
instance:aI prog 242 ((ti .i64 64 fun _=>0)++[.int .i64 0]):=⟨by kernel_rfl⟩
instance:bD prog 242 0 104 0:=⟨by kernel_rfl⟩
instance:bD prog 242 1 3 64:=⟨by kernel_rfl⟩
instance:aG prog 251 (.float .f64):=⟨Tryz.underlying251⟩
instance:cC prog 265 [(0,1),(1,1),(2,1)]:=⟨_,Tryz.underlying265,by kernel_rfl⟩
instance:aF prog 265 3:=⟨by kernel_rfl⟩
instance:TI prog 265 3:=⟨by kernel_rfl⟩
instance:cU prog 265:=⟨by kernel_rfl⟩
instance:aI prog 265 ([.int .i64 0,.int .i64 0,.bool false]):=⟨by kernel_rfl⟩
instance:bD prog 265 0 3 0:=⟨by kernel_rfl⟩
instance:bD prog 265 1 3 1:=⟨by kernel_rfl⟩
instance:bD prog 265 2 4 2:=⟨by kernel_rfl⟩
end Go.Proofs.YthdciapjllppjaaGreat
namespace Go.Proofs.YthdciapjllppjaaGreat
open Go.Xm
def kG(l:List Int)(i:Nat):Bool:=decide (l.getD (i/8) 0/2^(7-i%8)%2=1)
abbrev aW(l:List Int):Prop:=∀p,0<=l.getD p 0/\l.getD p 0<256
section
variable [av]
def iP(L:List Int)(many:Nat)(b:Bool):List Int:=
 if b then(if many%8=0 then L++[0]else L).set (many/8) (BW .u8 ((if many%8=0 then L++[0]else L).getD (many/8) 0) (128/2^(many%8)))else(if many%8=0 then L++[0]else L)
def Ry(st:List Int×Nat)(b:Bool):List Int×Nat:=(iP st.1 st.2 b,st.2+1)
def wr(bs:List Bool):List Int:=(bs.foldl Ry ([],0)).1
theorem Ee:∀(bs:List Bool) (st:List Int×Nat),(bs.foldl Ry st).2=st.2+bs.length
 | [],st=>rfl
 | b::bs,st=>by
   simp only[List.foldl_cons,Ee bs,Ry,List.length_cons];omega
theorem vj(bs:List Bool)(b:Bool):wr (bs++[b])=iP (wr bs) bs.length b:=by
 unfold wr;rw[List.foldl_append];have:=Ee bs ([],0);simp only[List.foldl_cons,List.foldl_nil,Ry,this,Nat.zero_add]
theorem Jb(L:List Int)(many:Nat)(b:Bool):(iP L many b).length=L.length+(if many%8=0 then 1 else 0):=by
 unfold iP;split<;>split<;>simp
theorem rE{p:List Bool->Prop}(h0:p [])(h1:∀bs b,p bs->p (bs++[b]))(bs:List Bool):p bs:=by
 have:∀n (bs:List Bool),bs.length=n->p bs:=by
  intro n
  induction n with
  | zero=>intro bs h;rw[List.length_eq_zero_iff.1 h];exact h0
  | succ n ih=>
    intro bs h;have hne:bs≠[]:=fun e=>by rw[e]at h;simp at h
    rw[<-List.dropLast_concat_getLast hne];exact h1 _ _ (ih _ (by simp[h]))
 exact this _ bs rfl
theorem dA(bs:List Bool):(wr bs).length=(bs.length+7)/8:=by
 refine rE (p:=fun bs=>(wr bs).length=(bs.length+7)/8) rfl (fun bs b ih=>?_) bs;rw[vj,Jb,ih,List.length_append,List.length_cons,List.length_nil];split<;>omega
theorem Ox:∀(x:Fin 256) (k j:Fin 8),decide (BW .u8 (x.val:Int) (128/2^k.val)/2^(7-j.val)%2=1)=(decide ((x.val:Int)/2^(7-j.val)%2=1)||decide (j=k)):=by
 decide +kernel
theorem Oy:∀(x:Fin 256) (k:Fin 8),0<=BW .u8 (x.val:Int) (128/2^k.val)/\BW .u8 (x.val:Int) (128/2^k.val)<256:=by
 decide +kernel
theorem zn{L:List Int}(h:aW L):aW (L++[0]):=fun p=>by
 rw[List.getD_eq_getElem?_getD]
 by_cases hp:p<L.length
 ·rw[List.getElem?_append_left hp,<-List.getD_eq_getElem?_getD];exact h p
 ·rw[List.getElem?_append_right (by omega)]
  cases hq:p-L.length with
  | zero=>simp
  | succ q=>simp
theorem FJ{L:List Int}(h:aW L)(many:Nat)(b:Bool):aW (iP L many b):=by
 have h1:aW (if many%8=0 then L++[0]else L):=by
  split
  ·exact zn h
  ·exact h
 unfold iP;generalize (if many%8=0 then L++[0]else L)=L1 at h1 ⊢;split
 ·intro p;rw[List.getD_eq_getElem?_getD,List.getElem?_set];split
  ·split
   ·have hb:=h1 (many/8)
    obtain⟨x,hx⟩:∃x:Fin 256,L1.getD (many/8) 0=(x.val:Int):=⟨⟨(L1.getD (many/8) 0).toNat,by omega⟩,by simp only[];omega⟩
    rw[hx];exact Oy x ⟨many%8,Nat.mod_lt _ (by omega)⟩
   ·simp
  ·rw[<-List.getD_eq_getElem?_getD];exact h1 p
 ·exact h1
theorem jG(bs:List Bool):aW (wr bs):=by
 refine rE (p:=fun bs=>aW (wr bs)) (fun p=>by simp[wr]) (fun bs b ih=>?_) bs;rw[vj];exact FJ ih _ _
theorem Hl(L:List Int)(j:Nat):kG (L++[0]) j=kG L j:=by
 unfold kG
 have:(L++[0]).getD (j/8) 0=L.getD (j/8) 0:=by
  rw[List.getD_eq_getElem?_getD,List.getD_eq_getElem?_getD]
  by_cases hp:j/8<L.length
  ·rw[List.getElem?_append_left hp]
  ·rw[List.getElem?_append_right (by omega),List.getElem?_eq_none (l:=L) (by omega)];cases j/8-L.length<;>simp
 rw[this]
theorem Ja{L:List Int}(h:aW L)(many:Nat)(hlen:L.length=(many+7)/8)(b:Bool)(j:Nat):kG (iP L many b) j=(kG L j||(b&&decide (j=many))):=by
 have h1:aW (if many%8=0 then L++[0]else L):=by
  split
  ·exact zn h
  ·exact h
 have h2:∀j,kG (if many%8=0 then L++[0]else L) j=kG L j:=fun j=>by
  split
  ·exact Hl L j
  ·rfl
 have h3:many/8<(if many%8=0 then L++[0]else L).length:=by
  split
  ·simp;omega
  ·omega
 unfold iP;generalize (if many%8=0 then L++[0]else L)=L1 at h1 h2 h3 ⊢;rw[<-h2]
 cases b with
 | false=>simp
 | true=>
   simp only[if_true,Bool.true_and];unfold kG;rw[List.getD_eq_getElem?_getD,List.getElem?_set]
   by_cases hj:many/8=j/8
   ·rw[if_pos hj,if_pos h3,<-hj];have hb:=h1 (many/8)
    obtain⟨x,hx⟩:∃x:Fin 256,L1.getD (many/8) 0=(x.val:Int):=⟨⟨(L1.getD (many/8) 0).toNat,by omega⟩,by simp only[];omega⟩
    rw[hx];have:=Ox x ⟨many%8,Nat.mod_lt _ (by omega)⟩ ⟨j%8,Nat.mod_lt _ (by omega)⟩;simp only[Fin.mk.injEq]at this;show decide (BW .u8 (x.val:Int) (128/2^(many%8))/2^(7-j%8)%2=1)=_;rw[this]
    congr 1
    exact decide_eq_decide.2 (by omega)
   ·rw[if_neg hj,<-List.getD_eq_getElem?_getD,decide_eq_false (show¬j=many by intro e;rw[e]at hj;exact hj rfl),Bool.or_false]
theorem Kh(bs:List Bool)(j:Nat):kG (wr bs) j=bs.getD j false:=by
 refine rE (p:=fun bs=>kG (wr bs) j=bs.getD j false) (by simp[wr,kG]) (fun bs b ih=>?_) bs;rw[vj,Ja (jG bs) _ (dA bs),ih,List.getD_eq_getElem?_getD,List.getD_eq_getElem?_getD]
 by_cases h:j<bs.length
 ·rw[List.getElem?_append_left h,decide_eq_false (by omega)];simp
 ·rw[List.getElem?_append_right (by omega),List.getElem?_eq_none (l:=bs) (by omega)]
  by_cases h2:j=bs.length
  ·subst h2;simp
  ·have:j-bs.length≠0:=by omega
   obtain⟨q,hq⟩:∃q,j-bs.length=q+1:=⟨j-bs.length-1,by omega⟩
   rw[hq,decide_eq_false h2];simp
def bd(n:Int):Nat->List Bool
 | 0=>[]
 | k+1=>decide (n/2^k%2=1)::bd n k
theorem bu(n:Int):∀k,(bd n k).length=k
 | 0=>rfl
 | k+1=>by simp[bd,bu n k]
end
abbrev WH(bs:List Bool):ah:=[.cells [eY 1 ((bs.length+7)/8) 1,.int .i64 (bs.length:Nat)] 134 false false,bz 5 (il .u8 (wr bs))]
abbrev KN(bs:List Bool):ah:=[.cells [eY 2 ((bs.length+7)/8) 1,.int .i64 (bs.length:Nat)] 134 false false,.dead,bz 5 (il .u8 (wr bs))]
variable [av]
theorem FK(n:Int)(bs:List Bool)(k:Nat):bs++bd n (k+1)=(bs++[decide (n/2^k%2=1)])++bd n k:=by
 simp[bd]
theorem Ef{bs:List Bool}{L:List Int}(h:L=if bs.length%8=0 then wr bs++[0]else wr bs):wr (bs++[true])=L.set ((bs.length:Int)/8).toNat (BW .u8 (L.getD ((bs.length:Int)/8).toNat 0) (128/2^((bs.length:Int)%8).toNat)):=by
 rw[vj,iP,if_pos rfl,<-h,show((bs.length:Int)/8).toNat=bs.length/8 by omega,show((bs.length:Int)%8).toNat=bs.length%8 by omega]
theorem AZ{bs:List Bool}{L:List Int}(h:L=if bs.length%8=0 then wr bs++[0]else wr bs):wr (bs++[false])=L:=by
 rw[vj,iP,if_neg (by decide),<-h]
theorem Kg(bs:List Bool)(n:Int)(size:Nat)(hn:0<=n/\n<18446744073709551616)(hs:size<=64)(hb:bs.length<=1000000) :
 bm prog 46 [.one (.ptr 0 0),.one (.int .u64 n),.one (.int .i64 (size:Nat))] (WH bs) (.tup []) (KN (bs++bd n size)):=by
 refine cO Tryz.func46 ?_
 repeat' (first|refine zz ?_|refine zx (fun _=>?_) (fun _=>?_)|fail)
 refine WX.bQ (σ:=Nat×List Bool) (fun s=>[(6,.one (.int .i64 ((s.1:Int)-1))),(0,.one (.ptr 0 0)),(1,.one (.int .u64 n))]) (fun s=>KN s.2) (fun s=>s.1<=64/\s.2.length+s.1<=1000064/\s.2++bd n s.1=bs++bd n size) (fun s=>s.1) (size,bs) ⟨hs,by simp only[];omega,rfl⟩ (fun s _=>mE) (bq [0,1,1]) ?_;intro s ⟨h1,h2,h3⟩ ih;have hwl:=dA s.2
 by_cases hk:s.1=0
 ·have e:bs++bd n size=s.2:=by rw[<-h3,hk];simp[bd]
  rw[e]
  repeat' (first|refine zz ?_|refine zx (fun _=>?_) (fun _=>?_)|fail)
  show aE _ _ _ _ _ _ _ _;refine kV [0,1,2] ?_;rfl
 ·have hsh:(n/2^(((s.1:Int)-1).toNat)%2=0\/n/2^(((s.1:Int)-1).toNat)%2=1)/\0<=n/2^(((s.1:Int)-1).toNat):=⟨by omega,Int.ediv_nonneg hn.1 (Int.le_of_lt (Int.pow_pos (by decide)))⟩
  have e3:((s.1-1:Nat):Int)=(s.1:Int)-1:=by omega
  have e4:((s.1:Int)-1).toNat=s.1-1:=by omega
  have hput:s.2++bd n s.1=(s.2++[decide (n/2^(s.1-1)%2=1)])++bd n (s.1-1):=by
   rw[<-FK,show s.1-1+1=s.1 by omega]
  repeat' (first|refine zz ?_|refine zx (fun _=>?_) (fun _=>?_)|fail)
  ·rename_i g1 g2;have e1:=Ef (bs:=s.2) (L:=wr s.2++[0]) (if_pos (by omega)).symm;have e2:((s.2++[true]).length:Int)=(s.2.length:Int)+1:=by simp
   rw[decide_eq_true (by rw[<-e4];exact g2)]at hput;refine ih (s.1-1,s.2++[true]) _ _ _ (bq [0,1,4] (obj:=by(repeat' (first|exact af.nil|refine af.flat (by rw[e1];rfl) ?_|refine af.gT (by rw[e2];rfl) rfl (by simp;omega) rfl ?_|refine oz ?_));first|done|fail) (reg:=by(repeat' (first|exact ae.nil|refine ae.flat (by rw[e3];rfl) ?_|refine rz ?_|refine ae.sl rfl (by assumption) rfl ?_));first|done|fail)) ⟨by show s.1-1<=_;omega,by simp;omega,by show _++_=_;rw[<-hput];exact h3⟩ (by show s.1-1<s.1;omega)
  ·rename_i g1 g2;have e1:=AZ (bs:=s.2) (L:=wr s.2++[0]) (if_pos (by omega)).symm;have e2:((s.2++[false]).length:Int)=(s.2.length:Int)+1:=by simp
   rw[decide_eq_false (by rw[<-e4];exact g2)]at hput;refine ih (s.1-1,s.2++[false]) _ _ _ (bq [0,1,4] (obj:=by(repeat' (first|exact af.nil|refine af.flat (by rw[e1];rfl) ?_|refine af.gT (by rw[e2];rfl) rfl (by simp;omega) rfl ?_|refine oz ?_));first|done|fail) (reg:=by(repeat' (first|exact ae.nil|refine ae.flat (by rw[e3];rfl) ?_|refine rz ?_|refine ae.sl rfl (by assumption) rfl ?_));first|done|fail)) ⟨by show s.1-1<=_;omega,by simp;omega,by show _++_=_;rw[<-hput];exact h3⟩ (by show s.1-1<s.1;omega)
  ·rename_i g1 g2;have e1:=Ef (bs:=s.2) (L:=wr s.2) (if_neg (by omega)).symm;have e2:((s.2++[true]).length:Int)=(s.2.length:Int)+1:=by simp
   rw[decide_eq_true (by rw[<-e4];exact g2)]at hput;refine ih (s.1-1,s.2++[true]) _ _ _ (bq [0,1,2] (obj:=by(repeat' (first|exact af.nil|refine af.flat (by rw[e1];rfl) ?_|refine af.gT (by rw[e2];rfl) rfl (by simp;omega) rfl ?_|refine oz ?_));first|done|fail) (reg:=by(repeat' (first|exact ae.nil|refine ae.flat (by rw[e3];rfl) ?_|refine rz ?_|refine ae.sl rfl (by assumption) rfl ?_));first|done|fail)) ⟨by show s.1-1<=_;omega,by simp;omega,by show _++_=_;rw[<-hput];exact h3⟩ (by show s.1-1<s.1;omega)
  ·rename_i g1 g2;have e1:=AZ (bs:=s.2) (L:=wr s.2) (if_neg (by omega)).symm;have e2:((s.2++[false]).length:Int)=(s.2.length:Int)+1:=by simp
   rw[decide_eq_false (by rw[<-e4];exact g2)]at hput;refine ih (s.1-1,s.2++[false]) _ _ _ (bq [0,1,2] (obj:=by(repeat' (first|exact af.nil|refine af.flat (by rw[e1];rfl) ?_|refine af.gT (by rw[e2];rfl) rfl (by simp;omega) rfl ?_|refine oz ?_));first|done|fail) (reg:=by(repeat' (first|exact ae.nil|refine ae.flat (by rw[e3];rfl) ?_|refine rz ?_|refine ae.sl rfl (by assumption) rfl ?_));first|done|fail)) ⟨by show s.1-1<=_;omega,by simp;omega,by show _++_=_;rw[<-hput];exact h3⟩ (by show s.1-1<s.1;omega)
end Go.Proofs.YthdciapjllppjaaGreat
namespace Go.Proofs.YthdciapjllppjaaGreat
open Go.Xm
variable [av]
instance Qt:b7 (.tup []):=i5 rfl
theorem Jl(a b:List XC)(e e' e2:TypeId)(cs ds:List XC):fM [.cells a e false false,bz e' cs] [.cells b e false false,.dead,bz e2 ds]=true:=by
 cases cs<;>cases ds<;>simp[fM,aj.live,aj.own,bz]
abbrev aO(k:Nat)(bs:List Bool):aj := .cells [eY k ((bs.length+7)/8) 1,.int .i64 (bs.length:Nat)] 134 false false
abbrev au(bs:List Bool):aj:=bz 5 (il .u8 (wr bs))
theorem MF{f:FuncId}{more:List XV}(hm:∀τ,eL τ more more)(hmo:gB 2 more){v:XV}[b7 v]{bs bs':List Bool}(hc:bm prog f (.one (.ptr 0 0)::more) (WH bs) v (KN bs')){HS:ah}{i k:Nat}(hi:HS[i]? = some (aO k bs))(hk:HS[k]? = some (au bs))(hd:i≠k){N:Nat}(hN:HS.length=N){HS':ah}(hh:bC HS [i,k] [aO N bs',.dead,au bs']=HS')(hbd:Nat.blt HS'.length Mem.bound=true) :
 aA.Sound prog ⟨f,.one (.ptr i 0)::more,HS,v,HS',[i,k]⟩:=by
 subst hN;refine bp [i,k] [i,k] 1 hc (by simp[hd]) ?_ ?_ ?_ rfl (.cons (by simp[XV.br,XC.ok]) hmo) (.cons rfl (hm _)) (b7.ok _) (b7.aB _) ?_ (Jl ..) rfl hh hbd (.inl rfl)
 ·exact af.gT hi rfl rfl rfl (.flat hk .nil)
 ·exact .cons (by simp[aj.br,XC.ok,aJ]) (.flat .nil)
 ·exact .cons (by simp[aj.br,XC.ok,aJ]) (.flat (.flat .nil))
 ·exact .cons (by simp only[aj.aB,List.map_cons,List.map_nil,XC.aB,aX];rfl) (.flat (.flat .nil))
theorem eZ{n:Int}{size:Nat}{z:Int}(hz:z=(size:Nat)){bs:List Bool}(hn:0<=n/\n<18446744073709551616)(hs:size<=64)(hb:bs.length<=1000000){HS:ah}{i k:Nat}(hi:HS[i]? = some (aO k bs))(hk:HS[k]? = some (au bs))(hd:i≠k){N:Nat}(hN:HS.length=N){HS':ah}(hh:bC HS [i,k] [aO N (bs++bd n size),.dead,au (bs++bd n size)]=HS')(hbd:Nat.blt HS'.length Mem.bound=true) :
 aA.Sound prog ⟨46,[.one (.ptr i 0),.one (.int .u64 n),.one (.int .i64 z)],HS,.tup [],HS',[i,k]⟩:=by
 subst hz;exact MF (fun τ => .flat (.flat .nil)) (.flat (.flat .nil)) (Kg bs n size hn hs hb) hi hk hd hN hh hbd
theorem Gx(bs:List Bool)(b:Bool)(hb:bs.length<=1000000) :
 bm prog 47 [.one (.ptr 0 0),.one (.bool b)] (WH bs) (.tup []) (KN (bs++[b])):=by
 refine cO Tryz.func47 ?_
 cases b with
 | true=>
   have e:bs++bd 1 1=bs++[true]:=rfl
   repeat' (first
    |(refine qz ?_;first
     |refine cl ?_ (hi:=by exact eZ (size:=1) rfl (bs:=bs) (by decide) (by decide) hb rfl rfl (by decide) nL nA rfl))
    |refine zz ?_|refine zx (fun _=>?_) (fun _=>?_)|fail)
   show aE _ _ _ _ _ _ _ _;refine kV [0,1,2] ?_;rfl
 | false=>
   have e:bs++bd 0 1=bs++[false]:=rfl
   repeat' (first
    |(refine qz ?_;first
     |refine cl ?_ (hi:=by exact eZ (size:=1) rfl (bs:=bs) (by decide) (by decide) hb rfl rfl (by decide) nL nA rfl))
    |refine zz ?_|refine zx (fun _=>?_) (fun _=>?_)|fail)
   show aE _ _ _ _ _ _ _ _;refine kV [0,1,2] ?_;rfl
theorem jj{b:Bool}{bs:List Bool}(hb:bs.length<=1000000){HS:ah}{i k:Nat}(hi:HS[i]? = some (aO k bs))(hk:HS[k]? = some (au bs))(hd:i≠k){N:Nat}(hN:HS.length=N){HS':ah}(hh:bC HS [i,k] [aO N (bs++[b]),.dead,au (bs++[b])]=HS')(hbd:Nat.blt HS'.length Mem.bound=true) :
 aA.Sound prog ⟨47,[.one (.ptr i 0),.one (.bool b)],HS,.tup [],HS',[i,k]⟩:=
 MF (fun τ => .flat .nil) (.flat .nil) (Gx bs b hb) hi hk hd hN hh hbd
def bitLen(n:Nat):Nat:=if n=0 then 0 else Nat.log2 n+1
def qs(n:Nat):Int:=(bitLen n:Nat)
theorem zR:∀i:Fin 256,0<=qs i.val/\qs i.val<=8:=by decide +kernel
theorem BB{n k:Nat}(h:2^k<=n):bitLen n=bitLen (n/2^k)+k:=by
 have hp:0<2^k:=Nat.two_pow_pos k;have h0:0<n/2^k:=Nat.div_pos h hp;unfold bitLen
 have e:Nat.log2 n=Nat.log2 (n/2^k)+k:=by
  rw[Nat.log2_eq_iff (by omega)];have h1:=Nat.log2_self_le (n:=n/2^k) (by omega);have h2:=Nat.lt_log2_self (n:=n/2^k);constructor
  ·rw[Nat.pow_add];exact(Nat.le_div_iff_mul_le hp).1 h1
  ·rw[show Nat.log2 (n/2^k)+k+1=Nat.log2 (n/2^k)+1+k by omega,Nat.pow_add];exact(Nat.div_lt_iff_lt_mul hp).1 h2
 rw[if_neg (by omega),if_neg (by omega),e];omega
theorem Fl(n:Int)(hn:0<=n/\n<65536) :
 bm prog 156 [.one (.int .u64 n)] [] (.one (.int .i64 (qs n.toNat))) []:=by
 refine cO Tryz.func156 ?_
 by_cases h:n<256
 ·have hr:=zR ⟨n.toNat,by omega⟩;simp only[]at hr
  repeat' (first
   |(refine qz ?_;first
    |refine SC qs ?_)
   |refine zz ?_|refine zx (fun _=>?_) (fun _=>?_)|fail)
  show aE _ _ _ _ _ _ _ _;refine kV [] ?_;rw[Int.zero_add];rfl
 ·have hq:0<=n/2^(8:Int).toNat/\n/2^(8:Int).toNat<256/\(n/2^(8:Int).toNat).toNat=n.toNat/2^8:=by
   show 0<=n/2^8/\n/2^8<256/\(n/2^8).toNat=n.toNat/2^8;omega
  have hr:=zR ⟨(n/2^(8:Int).toNat).toNat,by omega⟩;simp only[]at hr
  have hl:qs n.toNat=0+8+qs (n/2^(8:Int).toNat).toNat:=by
   unfold qs;rw[BB (n:=n.toNat) (k:=8) (by omega),hq.2.2];omega
  rw[hl]
  repeat' (first
   |(refine qz ?_;first
    |refine SC qs ?_)
   |refine zz ?_|refine zx (fun _=>?_) (fun _=>?_)|fail)
  show aE _ _ _ _ _ _ _ _;refine kV [] ?_;rfl
theorem Ix{HS:ah}{n:Int}(hn:0<=n/\n<65536)(hb:Nat.blt HS.length Mem.bound=true):aA.Sound prog ⟨156,[.one (.int .u64 n)],HS,.one (.int .i64 (qs n.toNat)),HS,[]⟩:=
 ay (Fl n hn) rfl rfl hb
theorem Lx(n:Int)(hn:0<=n/\n<65536) :
 bm prog 135 [.one (.int .u64 n)] [] (.one (.int .i64 (qs n.toNat))) []:=by
 refine cO Tryz.func135 ?_
 repeat' (first
  |(refine qz ?_;first
   |refine cl ?_ (hi:=by exact Ix (by omega) rfl))
  |refine zz ?_|refine zx (fun _=>?_) (fun _=>?_)|fail)
 show aE _ _ _ _ _ _ _ _;refine kV [] ?_;rfl
theorem BY{HS:ah}{n:Int}(hn:0<=n/\n<65536)(hb:Nat.blt HS.length Mem.bound=true):aA.Sound prog ⟨135,[.one (.int .u64 n)],HS,.one (.int .i64 (qs n.toNat)),HS,[]⟩:=
 ay (Lx n hn) rfl rfl hb
def sm(n:Int):Nat->List Bool
 | 0=>[]
 | k+1=>decide (n/2^k%2=1)::decide (0<k)::sm n k
def eF(v:Int):List Bool:=if v=0 then [true]else false::sm (v+1) (bitLen (v+1).toNat-1)
theorem xa(n:Int):∀k,(sm n k).length=2*k
 | 0=>rfl
 | k+1=>by simp[sm,xa n k];omega
theorem ri{n k:Nat}(h:n<2^k):bitLen n<=k:=by
 unfold bitLen;split
 ·omega
 ·have:=(Nat.log2_lt (by omega)).2 h;omega
theorem BA{n:Nat}(h:0<n):0<bitLen n:=by
 unfold bitLen;rw[if_neg (by omega)];omega
theorem AD(bs:List Bool)(v:Int)(hv:0<=v/\v<=8190)(hb:bs.length<=900000) :
 bm prog 113 [.one (.ptr 0 0),.one (.int .i64 v)] (WH bs) (.one (.bool true)) (KN (bs++eF v)):=by
 refine cO Tryz.func113 ?_
 by_cases h0:v=0
 ·subst h0;have e:bs++bd 1 1=bs++eF 0:=rfl
  repeat' (first
   |(refine qz ?_;first
    |refine cl ?_ (hi:=by exact eZ (size:=1) rfl (bs:=bs) (by decide) (by decide) (by omega) rfl rfl (by decide) nL nA rfl))
   |refine zz ?_|refine zx (fun _=>?_) (fun _=>?_)|fail)
  show aE _ _ _ _ _ _ _ _;refine kV [0,1,2] ?_;rfl
 ·have hl1:bitLen (v+1).toNat<=13:=ri (by show _<8192;omega);have hl2:=BA (n:=(v+1).toNat) (by omega);have hl3:qs (v+1).toNat=(bitLen (v+1).toNat:Nat):=rfl
  repeat' (first
   |(refine qz ?_;first
    |refine cl ?_ (hi:=by exact eZ (size:=1) rfl (bs:=bs) (by decide) (by decide) (by omega) rfl rfl (by decide) nL nA rfl)
    |refine cl ?_ (hi:=by exact BY (by omega) rfl))
   |refine zz ?_|refine zx (fun _=>?_) (fun _=>?_)|fail)
  have e5:((bitLen (v+1).toNat-1:Nat):Int)=qs (v+1).toNat-1:=by omega
  refine WX.bQ (σ:=Nat×List Bool) (fun s=>[(6,.one (.int .i64 ((s.1:Int)-1))),(0,.one (.ptr 0 0)),(1,.one (.int .i64 v))]) (fun s=>KN s.2) (fun s=>s.1<=13/\s.2.length+2*s.1<=900100/\s.2++sm (v+1) s.1=bs++eF v) (fun s=>s.1) (bitLen (v+1).toNat-1,bs++bd 0 1) ⟨by show _-1<=_;omega,by simp[bu];omega,by rw[eF,if_neg h0];simp[bd]⟩ (fun s _=>mE) (bq [0,1,2] (obj:=by(repeat' (first|exact af.nil|refine af.gT rfl rfl rfl rfl ?_|refine oz ?_));first|done|fail) (reg:=by(repeat' (first|exact ae.nil|refine ae.flat (by rw[e5];rfl) ?_|refine rz ?_|refine ae.sl rfl (by assumption) rfl ?_));first|done|fail)) ?_;intro s ⟨h1,h2,h3⟩ ih
  by_cases hk:s.1=0
  ·have e:bs++eF v=s.2:=by rw[<-h3,hk];simp[sm]
   rw[e]
   repeat' (first|refine zz ?_|refine zx (fun _=>?_) (fun _=>?_)|fail)
   show aE _ _ _ _ _ _ _ _;refine kV [0,1,2] ?_;rfl
  ·have hsh:0<=(v+1)/2^(((s.1:Int)-1).toNat)/\(v+1)/2^(((s.1:Int)-1).toNat)<=v+1:=⟨Int.ediv_nonneg (by omega) (Int.le_of_lt (Int.pow_pos (by decide))),Int.ediv_le_self _ (by omega)⟩
   have e3:((s.1-1:Nat):Int)=(s.1:Int)-1:=by omega
   have e4:((s.1:Int)-1).toNat=s.1-1:=by omega
   have hpl:∀x:Int,(s.2++bd x 1).length<=1000000:=fun x=>by simp[bu];omega
   have hin:∀b:Bool,b=decide (0<s.1-1)->(s.2++bd ((v+1)/2^(((s.1:Int)-1).toNat)%2^1) 1++[b])++sm (v+1) (s.1-1)=bs++eF v:=by
    intro b hb';rw[<-h3]
    obtain⟨k,hk'⟩:∃k,s.1=k+1:=⟨s.1-1,by omega⟩
    rw[hb',e4,hk'];simp only[bd,sm,Nat.add_sub_cancel,Nat.pow_zero,Int.pow_zero,Int.ediv_one,show(2:Int)^1=2 from rfl,List.append_assoc,List.cons_append,List.nil_append];rw[Int.emod_emod_of_dvd _ (by decide)]
   repeat' (first
    |(refine qz ?_;first
     |refine cl ?_ (hi:=by exact eZ (size:=1) rfl (bs:=s.2) (by omega) (by decide) (by omega) rfl rfl (by decide) nL nA rfl)
     |refine cl ?_ (hi:=by exact jj (bs:=s.2++bd _ 1) (hpl _) rfl rfl (by decide) nL nA rfl))
    |refine zz ?_|refine zx (fun _=>?_) (fun _=>?_)|fail)
   ·rename_i g;refine ih (s.1-1,s.2++bd _ 1++[true]) _ _ _ (bq [0,1,4] (obj:=by(repeat' (first|exact af.nil|refine af.gT rfl rfl rfl rfl ?_|refine oz ?_));first|done|fail) (reg:=by(repeat' (first|exact ae.nil|refine ae.flat (by rw[e3];rfl) ?_|refine rz ?_|refine ae.sl rfl (by assumption) rfl ?_));first|done|fail)) ⟨by show s.1-1<=_;omega,by simp[bu];omega,hin true (decide_eq_true (by omega)).symm⟩ (by show s.1-1<s.1;omega)
   ·rename_i g;refine ih (s.1-1,s.2++bd _ 1++[false]) _ _ _ (bq [0,1,4] (obj:=by(repeat' (first|exact af.nil|refine af.gT rfl rfl rfl rfl ?_|refine oz ?_));first|done|fail) (reg:=by(repeat' (first|exact ae.nil|refine ae.flat (by rw[e3];rfl) ?_|refine rz ?_|refine ae.sl rfl (by assumption) rfl ?_));first|done|fail)) ⟨by show s.1-1<=_;omega,by simp[bu];omega,hin false (decide_eq_false (by omega)).symm⟩ (by show s.1-1<s.1;omega)
theorem iI{v:Int}{bs:List Bool}(hv:0<=v/\v<=8190)(hb:bs.length<=900000){HS:ah}{i k:Nat}(hi:HS[i]? = some (aO k bs))(hk:HS[k]? = some (au bs))(hd:i≠k){N:Nat}(hN:HS.length=N){HS':ah}(hh:bC HS [i,k] [aO N (bs++eF v),.dead,au (bs++eF v)]=HS')(hbd:Nat.blt HS'.length Mem.bound=true) :
 aA.Sound prog ⟨113,[.one (.ptr i 0),.one (.int .i64 v)],HS,.one (.bool true),HS',[i,k]⟩:=
 MF (fun τ => .flat .nil) (.flat .nil) (AD bs v hv hb) hi hk hd hN hh hbd
structure nj(L:List Int)(B:List Bool):Prop where
 le:B.length<=8*L.length
 byte:aW L
 bit:∀j,j<B.length->kG L j=B.getD j false
 small:L.length<=1000000
def jq(B:List Bool)(r:Nat×Bool):Bool := !r.2&&B.getD r.1 false
def dO(B:List Bool)(r:Nat×Bool):Nat×Bool:=if r.2=true then r else if r.1<B.length then(r.1+1,false)else(r.1,true)
def b2(b:Bool):Int:=if b then 1 else 0
abbrev qE(k:Nat)(L:List Int)(B:List Bool)(p:Nat)(e:Bool):aj := .cells [.slice k 0 L.length (.exact L.length),.int .i64 (p:Nat),.int .i64 (B.length:Nat),.bool e] 190 false false
abbrev ln(L:List Int):aj := .cells (il .u8 L) 5 false false
abbrev RH(L:List Int)(B:List Bool)(p:Nat)(e:Bool):ah:=[qE 1 L B p e,ln L]
theorem Jf{L:List Int}{B:List Bool}(p:Nat) :
 bm prog 72 [.one (.ptr 0 0)] (RH L B p true) (.one (.int .u64 0)) (RH L B p true):=by
 refine cO Tryz.func72 ?_
 repeat' (first|refine zz ?_|refine zx (fun _=>?_) (fun _=>?_)|fail)
 show aE _ _ _ _ _ _ _ _;refine kV [0,1] ?_;rfl
theorem Jg{L:List Int}{B:List Bool}(p:Nat)(hp:¬p<B.length) :
 bm prog 72 [.one (.ptr 0 0)] (RH L B p false) (.one (.int .u64 0)) (RH L B p true):=by
 refine cO Tryz.func72 ?_
 repeat' (first|refine zz ?_|refine zx (fun _=>?_) (fun _=>?_)|fail)
 show aE _ _ _ _ _ _ _ _;refine kV [0,1] ?_;rfl
theorem L5{L:List Int}{B:List Bool}(h:nj L B)(p:Nat)(hp:p<B.length) :
 bm prog 72 [.one (.ptr 0 0)] (RH L B p false) (.one (.int .u64 (b2 (B.getD p false)))) (RH L B (p+1) false):=by
 refine cO Tryz.func72 ?_;have h1:=h.le;have h2:=h.small
 have e2:b2 (B.getD p false)=L.getD ((p:Int)/8).toNat 0/2^(7-(p:Int)%8).toNat%2^1:=by
  have:=h.bit p hp;have hb:=h.byte (p/8);unfold b2;rw[<-this];unfold kG;rw[show((p:Int)/8).toNat=p/8 by omega,show(7-(p:Int)%8).toNat=7-p%8 by omega];simp only[decide_eq_true_eq];split
  ·rename_i g;rw[show(2:Int)^1=2 from rfl,g]
  ·rename_i g;rw[show(2:Int)^1=2 from rfl];omega
 have hby:=h.byte ((p:Int)/8).toNat
 have hsh:0<=L.getD ((p:Int)/8).toNat 0/2^(7-(p:Int)%8).toNat/\L.getD ((p:Int)/8).toNat 0/2^(7-(p:Int)%8).toNat<256:=⟨Int.ediv_nonneg hby.1 (Int.le_of_lt (Int.pow_pos (by decide))),Int.lt_of_le_of_lt (Int.ediv_le_self _ hby.1) hby.2⟩
 have e3:((p+1:Nat):Int)=(p:Int)+1:=by omega
 rw[e2]
 repeat' (first|refine zz ?_|refine zx (fun _=>?_) (fun _=>?_)|fail)
 show aE _ _ _ _ _ _ _ _;refine kV [0,1] ?_;rfl
theorem Je{L:List Int}{B:List Bool}(h:nj L B)(r:Nat×Bool) :
 bm prog 72 [.one (.ptr 0 0)] (RH L B r.1 r.2) (.one (.int .u64 (b2 (jq B r)))) (RH L B (dO B r).1 (dO B r).2):=by
 obtain⟨p,e⟩:=r
 cases e with
 | true=>exact Jf p
 | false=>
   by_cases hp:p<B.length
   ·have e1:dO B (p,false)=(p+1,false):=by simp[dO,hp]
    rw[e1];exact L5 h p hp
   ·have e1:dO B (p,false)=(p,true):=by simp[dO,hp]
    have e2:b2 (jq B (p,false))=0:=by
     unfold b2 jq;rw[List.getD_eq_getElem?_getD,List.getElem?_eq_none (by simp only[];omega)];rfl
    rw[e1,e2];exact Jg p hp
theorem aC{α : Type}{l:List α}{i:Nat}{a : α}(h:l[i]? = some a):l.set i a=l:=by
 apply List.ext_getElem?;intro j;rw[List.getElem?_set];split
 ·rename_i e;subst e;rw[h];simp[(List.getElem?_eq_some_iff.1 h).1]
 ·rfl
theorem OD{f:FuncId}{more:List XV}(hm:∀τ,eL τ more more)(hmo:gB 2 more){v:XV}[b7 v]{L:List Int}{B:List Bool}{p p':Nat}{e e':Bool}(hc:bm prog f (.one (.ptr 0 0)::more) (RH L B p e) v (RH L B p' e')){HS:ah}{i k:Nat}(hi:HS[i]? = some (qE k L B p e))(hk:HS[k]? = some (ln L))(hd:i≠k){HS':ah}(hh:HS.set i (qE k L B p' e')=HS')(hbd:Nat.blt HS'.length Mem.bound=true) :
 aA.Sound prog ⟨f,.one (.ptr i 0)::more,HS,v,HS',[i]⟩:=by
 have hh':bC HS [i,k] [qE k L B p' e',ln L]=HS':=by
  subst hh;simp only[bC,List.append_nil];apply List.ext_getElem?;intro j;rw[List.getElem?_set];split
  ·rename_i h;subst h;rw[List.getElem?_set,if_neg hd,hk];simp[(List.getElem?_eq_some_iff.1 hk).1]
  ·rfl
 refine bp [i,k] [i] 0 hc (by simp[hd]) ?_ ?_ ?_ rfl (.cons (by simp[XV.br,XC.ok]) hmo) (.cons rfl (hm _)) (b7.ok _) (b7.aB _) ?_ rfl rfl hh' hbd (.inr fun j _ hj=>?_)
 ·exact .cons hi (.flat hk .nil)
 ·exact .cons (by simp[aj.br,XC.ok]) (.flat .nil)
 ·exact .cons (by simp[aj.br,XC.ok]) (.flat .nil)
 ·exact .cons rfl (.flat .nil)
 ·subst hh;rw[List.getElem?_set,if_neg (fun h=>hj (by rw[h];exact List.mem_singleton.2 rfl))]
theorem L4{L:List Int}{B:List Bool}(h:nj L B)(r:Nat×Bool){z:Int}(hz:b2 (jq B r)=z){HS:ah}{i k:Nat}(hi:HS[i]? = some (qE k L B r.1 r.2))(hk:HS[k]? = some (ln L))(hd:i≠k){HS':ah}(hh:HS.set i (qE k L B (dO B r).1 (dO B r).2)=HS')(hbd:Nat.blt HS'.length Mem.bound=true) :
 aA.Sound prog ⟨72,[.one (.ptr i 0)],HS,.one (.int .u64 z),HS',[i]⟩:=by
 subst hz;exact OD (fun _ => .nil) .nil (Je h r) hi hk hd hh hbd
theorem Cj{L:List Int}{B:List Bool}(p:Nat)(e:Bool) :
 bm prog 94 [.one (.ptr 0 0)] (RH L B p e) (.one (.bool e)) (RH L B p e):=by
 refine cO Tryz.func94 ?_
 repeat' (first|refine zz ?_|refine zx (fun _=>?_) (fun _=>?_)|fail)
 show aE _ _ _ _ _ _ _ _;refine kV [0,1] ?_;rfl
theorem FT{L:List Int}{B:List Bool}{p:Nat}{e:Bool}{HS:ah}{i k:Nat}(hi:HS[i]? = some (qE k L B p e))(hk:HS[k]? = some (ln L))(hd:i≠k)(hbd:Nat.blt HS.length Mem.bound=true) :
 aA.Sound prog ⟨94,[.one (.ptr i 0)],HS,.one (.bool e),HS,[i]⟩:=
 OD (fun _ => .nil) .nil (Cj p e) hi hk hd (aC hi) hbd
theorem Ic(k:IntKind)(h:k.bits=64){x b:Int}(hx:0<=x)(hx2:x<2^62)(hb:b=0\/b=1)(hw:∀y:Int,0<=y->y<2^63->k.wrap y=y):BW k (x*2^1) b=2*x+b:=by
 unfold BW;rw[BitVec.toNat_or,BitVec.toNat_ofInt,BitVec.toNat_ofInt,h];obtain⟨n,rfl⟩:=Int.eq_ofNat_of_zero_le hx;have e1:(((n:Int)*2^1)%((2^64:Nat):Int)).toNat=2^1*n:=by omega
 have e2:(b%((2^64:Nat):Int)).toNat=b.toNat:=by rcases hb with rfl|rfl<;>rfl
 rw[e1,e2,<-Nat.two_pow_add_eq_or_of_lt (by rcases hb with rfl|rfl<;>decide),hw _ (by omega) (by omega)];omega
end Go.Proofs.YthdciapjllppjaaGreat
namespace Go.Xm
open Go.ChangeShapes Go.WideShapes Go.ChangeAt Go.RowKit Go.Deep
variable [av]
def sT(w:World)(v:Value)(vs:List XC)(n:Nat):Prop:=
 (v = .slice none 0 0/\n=0/\vs = [])\/∃b off cap:Nat,n<=cap/\v = .slice (some ⟨b,off,none⟩) n cap/\∀(j:Nat) (c:XC),vs[j]? = some c->∀β : Env,w.cell? ⟨b,off+j,none⟩=some (c.den β)
theorem u2{P:Program}{w:World}{r:Reach}{b0:Nat}{t e:TypeId}{a:Addr}{len cap:Nat}(ht:P.underlying t=some (.slice e))(h:Cell.okWide P w r b0 t (.slice (some a) len cap)):a.spot=none:=by
 unfold Cell.okWide at h;rw[ht]at h;have hck:Cell.ok P w r b0 t (.slice (some a) len cap):=h;unfold Cell.ok at hck;rw[ht]at hck;exact hck.2.2.2.1
theorem Ex{a:Addr}(h:a.spot=none)(n:Nat):a.add n=⟨a.block,a.off+n,none⟩:=by
 obtain⟨b,o,s⟩:=a;simp only at h;subst h;exact Addr.dU b o n
def numOf:Option Value->Int
 | some (.int _ z)=>z
 | _=>0
theorem IT{W:World}{v:Value}{vs:List XC}{n:Nat}(hs:vs.all XC.shut=true)(h0:n=0->vs = [])(i:Nat)(h:sT W v vs n) :
 ∃(c:XC) (o:aj) (b lo sz:Nat),NA c i n/\cG c i 0 n/\(0<vs.length->∃e,o = .cells vs e true true)/\b9 o/\o.KV=true/\(∀β m,fb β m lo sz o W.heap[b]?)/\∀(β : Env) m,i<m -> β.bn i=b -> β.base i=lo->aK β m (.one c) v:=by
 have hok:∀m,∀c∈vs,c.ok m:=fun m c hc=>XC.bh (List.all_eq_true.1 hs c hc) m
 rcases h with⟨rfl,rfl,rfl⟩|⟨b,off,cap,hle,rfl,hc⟩
 ·exact⟨.nils,.dead,0,0,0,.inl ⟨rfl,rfl⟩,.nil,fun h=>absurd h (by simp),inferInstance,rfl,fun _ _=>trivial,fun β n _ _ _=>⟨trivial,rfl⟩⟩
 ·by_cases hl:0<vs.length
  ·obtain⟨e,sz,hr⟩:=w_ (β:=Env.zero) (n:=0) (W:=W) (b:=b) (lo:=off) (vs:=vs) hl (fun j c hj=>hc j c hj _) (hok 0);refine⟨.slice i 0 n (.exact cap),.cells vs e true true,b,off,sz,.inr ⟨cap,rfl⟩,.mk hle,fun _=>⟨e,rfl⟩,gq hs,rfl,fun β m=>?_,fun β m hi hb hlo=>⟨hi,?_⟩⟩
   ·obtain⟨cs,fr,g1,g2,g3,g4,g5,g6⟩:=hr;exact⟨cs,fr,g1,g2,g3,g4,hok m,g6.trans (List.map_congr_left fun c hm=>XC.iY (List.all_eq_true.1 hs c hm) _ _)⟩
   ·simp only[XC.den,hb,hlo,Nat.add_zero]
  ·refine⟨.slice i 0 n (.exact cap),.dead,b,off,0,.inr ⟨cap,rfl⟩,.mk hle,fun h=>absurd h hl,inferInstance,rfl,fun _ _=>trivial,fun β m hi hb hlo=>⟨hi,?_⟩⟩;simp only[XC.den,hb,hlo,Nat.add_zero]
theorem RO.in{o:aj}{k:IntKind}{l:List Int}(h:0<(il k l).length->∃e,o = .cells (il k l) e true true)(hf:b9 o):RO o k l:=
 ⟨fun hl=>by obtain⟨e,he⟩:=h (by rw[bH];exact hl);exact⟨e,true,true,he⟩,hf⟩
theorem nK{l:List Int}{p:Int->Prop}(h0:p 0)(h:∀z∈l,p z)(i:Nat):p (l.getD i 0):=by
 rw[List.getD_eq_getElem?_getD]
 cases hi:l[i]? with
 | none=>exact h0
 | some z=>exact h z (List.mem_of_getElem? hi)
section
variable {H:Type} {enc:TypeId×Value->H} {P:Program} {w:World} {base:Nat} {spare:Nat->Bool} {held:Bool}
theorem qC{t e:TypeId}{fs:Array Field}{fuel:Nat}{cs:List Value}{x:DataW H×List MemPlace}(ht:P.underlying t=some (.slice e))(he:P.underlying e=some (.struct fs))
 (hone:oneCellFields P fs=true) (hC:P.cellsOf e=fs.size) (h:DataW.trod enc P w base spare held fuel t cs=some x) :
 (cs = [.slice none 0 0]/\x=(.nil,[])) \/
 ∃ (a:Addr) (len cap m:Nat) (D:Nat->DataW H) (Pl:Nat->List MemPlace),cs = [.slice (some a) len cap]/\base<=a.block/\len<=cap/\cap<=maxLen/\m=(if spare a.block then cap else len) /\
   x=(.slice ((List.range len).map D) ((List.range (m-len)).map fun j=>D (len+j)),MemPlace.row a (m*fs.size)++(List.range m).flatMap Pl) /\
   ∀ i,i<m->∃(ys:List (DataW H×List MemPlace)) (n:Nat),D i = .agg (ys.map (·.1))/\Pl i=ys.flatMap (·.2)/\ys.length=fs.size /\
     ∀(j:Nat) (f:Field),fs[j]? = some f->∃(v:Value) (y:DataW H×List MemPlace),w.cell? (a.add (i*fs.size+j))=some v/\ys[j]? = some y/\DataW.trod enc P w base spare held n f.type [v]=some y:=by
 rcases open_slice ht h with h0|⟨a,len,cap,m,n,D,Pl,hcs,hb,hl,hm,hmm,hx,hi⟩
 ·exact .inl h0
 ·refine .inr ⟨a,len,cap,m,D,Pl,hcs,hb,hl,hm,hmm,by rw[hC]at hx;exact hx,fun i him=>?_⟩;obtain⟨cs',hc,ht'⟩:=hi i him;rw[hC]at hc;obtain⟨ys,n',hn',hy,hlen,hyl,hf⟩:=DataW.trod_struct he ht';obtain⟨_,hcl,hat⟩:=World.cells?_some hc;simp only[Prod.mk.injEq]at hy;refine⟨ys,n',hy.1,hy.2,hyl,fun j f hj=>?_⟩;obtain⟨ho,hk⟩:=hone_of hone j f hj;have hjl:j<fs.size:=(Array.getElem?_eq_some_iff.1 hj).1;have hcell:=hat j hjl;have hv:cs'[j]? = some (cs'[j]'(by omega)):=List.getElem?_eq_getElem (by omega);have h1:=hf j f hj;rw[ho,hk]at h1
  have hone':(cs'.drop j).take 1 = [cs'[j]'(by omega)]:=by
   rw[List.drop_eq_getElem_cons (by omega)];rfl
  rw[hone']at h1;have hys:ys[j]? = some (ys[j]'(by omega)):=List.getElem?_eq_getElem (by omega);refine⟨_,_,?_,hys,h1.trans hys⟩;rw[<-Go.Deep.add_add,hcell,hv]
end
theorem tT{α : Type}(f : α->List XC)(s:Nat)(hs:0<s):∀(l:List α),(∀a∈l,(f a).length=s)->∀j,(l.flatMap f)[j]? = (l[j/s]?).bind fun a=>(f a)[j%s]?
 | [],_,j=>by simp
 | x :: l,hl,j=>by
   have hx:=hl x (List.mem_cons_self ..);rw[List.flatMap_cons]
   by_cases hj:j<s
   ·rw[List.getElem?_append_left (by omega),Nat.div_eq_of_lt hj,Nat.mod_eq_of_lt hj];rfl
   ·rw[List.getElem?_append_right (by omega),tT f s hs l (fun b hb=>hl b (List.mem_cons_of_mem _ hb)),hx]
    obtain⟨q,rfl⟩:∃q,j=q+s:=⟨j-s,by omega⟩
    rw[Nat.add_sub_cancel,Nat.add_div_right _ hs,Nat.add_mod_right];rfl
theorem Br.in{α : Type}{enc : α->List XC}{s:Nat}[hE:nk enc s]{o:aj}{l:List α}(h:0<(fl enc l).length->∃e,o = .cells (fl enc l) e true true)(hf:b9 o):Br o enc l:=
 ⟨fun hl=>by
  have hp:=hE.pos;obtain⟨e,he⟩:=h (by rw[rB];exact Nat.mul_pos hl hp)
  exact⟨e,true,true,he⟩,hf⟩
theorem Du{α : Type}{enc : α->List XC}{l:List α}:l.length=0->fl enc l = []:=fun h=>by rw[List.length_eq_zero_iff.1 h];rfl
end Go.Xm
namespace Go.Xm
variable [av]
section
variable {P:Program} {ops:Array Oper} {nt nI:Nat} {al:aL} {hs:ah} {o:Oper} {l:List Oper} {L:List aA} {K:List Ab->aL->ah->Prop} {d:Nat}
theorem tZ{t:TypeId}{a b:Operand}{elem:TypeId}{s:Nat}{kd:IntKind}{z:Int}{g k off len fl cut:Nat}{p:Nat}(hk:SK P ops nt L l ((d,.one (.lpt g k p))::al) hs fun bs=>K (quiet::bs))(ho:o.op = .indexAddr t a b:=by exact rfl)(wn:Wn ops nt al o d:=by exact⟨rfl,rfl,rfl⟩)(hb:ag (rg al) b = .one (.int kd z):=by exact rfl)(ha:ag (rg al) a = .one (.lsl g k off len fl cut):=by exact rfl)(hu:aG P t (.slice elem):=by infer_instance)(hs':aF P elem s:=by infer_instance)(hz:0<=z/\z<(len:Nat):=by first|omega|decide)(hp:off+z.toNat*s=p:=by exact n1):SK P ops nt L (o::l) al hs K:=by
 subst hp;exact SK.lift wn.e wn.l (fun _=>az.pure wn.w (by rw[ho];simp[aR,b6,ha,hb,hu.out,hs'.out,hz])) hk
theorem qw{a:Operand}{t elem:TypeId}{g k off len fl cut:Nat}(hk:SK P ops nt L l ((d,.one (.int .i64 (len:Nat)))::al) hs fun bs=>K (quiet::bs))(ho:o.op = .call ⟨.builtin .len,#[a],#[t]⟩:=by exact rfl)(wn:Wn ops nt al o d:=by exact⟨rfl,rfl,rfl⟩)(ha:ag (rg al) a = .one (.lsl g k off len fl cut):=by exact rfl)(hu:aG P t (.slice elem):=by infer_instance):SK P ops nt L (o::l) al hs K:=
 SK.lift wn.e wn.l (fun _=>az.pure wn.w (by rw[ho];simp[aR,dh,ha,sN,hu.out])) hk
theorem az.Nf{O:cV}(hw:aw ops (rg al) o=some true){t:TypeId}{a:Operand}(ho:o.op = .load t a){g k off:Nat}(ha:ag (rg al) a = .one (.lpt g k off)){LL:List (List XC)}(hi:hs[g]? = some (.late LL)){cs:List XC}(hL:LL[k]? = some cs)(hne:cs≠[]){x:X1}(hl:dq P t (cs.map (·.self g)) off=some x) :
 az O P ops al hs o x.oU hs ⟨false,some g,[]⟩:=by
 intro m hm;refine⟨m,?_,hm,fun _ _=>rfl⟩;unfold iL;rw[hw]
 obtain⟨f,hf1,hf2⟩:∃f,fj P (ag (rg al)) o.op=some (g,f)/\∀(LL:List (List XC)) c cs,LL[k]? = some (c::cs)->f (.late LL)=(dq P t ((c::cs).map (·.self g)) off).map X1.oU:=by
  rw[ho];simp only[fj,ha];refine⟨_,rfl,fun LL c cs h=>?_⟩;simp only[h]
 refine oH (by rw[ho];rfl) (by rw[ho];rfl) hf1 ?_
 cases cs with
 | nil=>exact absurd rfl hne
 | cons c cs=>rw[hm.at hi,hf2 LL c cs hL,hl];rfl
theorem SD{t:TypeId}{a:Operand}{g k off:Nat}{LL:List (List XC)}{cs:List XC}{c:XC}(hk:SK P ops nt L l ((d,.one (c.self g))::al) hs fun bs=>K (⟨false,some g,[]⟩::bs))(hL:LL[k]? = some cs)(hc:cs[off]? = some c)(ho:o.op = .load t a:=by exact rfl)(ht:cA P t:=by infer_instance)(wn:Wn ops nt al o d:=by exact⟨rfl,rfl,rfl⟩)(ha:ag (rg al) a = .one (.lpt g k off):=by exact rfl)(hi:hs[g]? = some (.late LL):=by exact rfl):SK P ops nt L (o::l) al hs K:=
 SK.lift wn.e wn.l (fun _=>az.Nf wn.w ho ha hi hL (fun e=>by rw[e]at hc;cases hc) (zY ht.out (by rw[List.getElem?_map,hc];rfl))) hk
theorem yb{t:TypeId}{a:Operand}{g k off:Nat}{LL:List (List XC)}{kd:IntKind}{q:List Int}(hk:SK P ops nt L l ((d,.one (.int kd (q.getD off 0)))::al) hs fun bs=>K (⟨false,some g,[]⟩::bs))(hL:LL[k]? = some (il kd q))(hc:off<q.length)(ho:o.op = .load t a:=by exact rfl)(ht:cA P t:=by infer_instance)(wn:Wn ops nt al o d:=by exact⟨rfl,rfl,rfl⟩)(ha:ag (rg al) a = .one (.lpt g k off):=by exact rfl)(hi:hs[g]? = some (.late LL):=by exact rfl):SK P ops nt L (o::l) al hs K:=
 SD (c := .int kd (q.getD off 0)) hk hL (by unfold il;rw[List.getElem?_map,List.getD_eq_getElem?_getD,List.getElem?_eq_getElem hc];rfl) ho ht wn ha hi
theorem QG{t:TypeId}{a:Operand}{s:Nat}{g k off:Nat}{LL:List (List XC)}{vs cs cs':List XC}(hk:SK P ops nt L l ((d,.agg cs')::al) hs fun bs=>K (⟨false,some g,[]⟩::bs))(hL:LL[k]? = some vs)(hle:off+s<=vs.length/\0<s)(hc:(vs.drop off).take s=cs)(hc':cs.map (·.self g)=cs':=by exact rfl)(ho:o.op = .load t a:=by exact rfl)(ht:cU P t:=by infer_instance)(hs':aF P t s:=by infer_instance)(wn:Wn ops nt al o d:=by exact⟨rfl,rfl,rfl⟩)(ha:ag (rg al) a = .one (.lpt g k off):=by exact rfl)(hi:hs[g]? = some (.late LL):=by exact rfl):SK P ops nt L (o::l) al hs K:=by
 subst hc hc';refine SK.lift wn.e wn.l (fun _=>az.Nf (x := .agg (((vs.drop off).take s).map (·.self g))) wn.w ho ha hi hL (fun e=>by rw[e]at hle;simp at hle;omega) ?_) hk;unfold dq;rw[ht.out,hs'.out];simp only[List.length_map];rw[if_pos hle.1,<-List.map_drop,<-List.map_take]
class zb {α : Type}(enc : α->List XC) (s:outParam Nat):Prop where
 len:∀a,(enc a).length=s
 pos:0<s
instance (priority:=low) {α : Type} {enc : α->List XC} {s:Nat} [h:nk enc s]:zb enc s:=⟨h.len,h.pos⟩
theorem ue{α : Type}{enc : α->List XC}{s:Nat}[hE:zb enc s](q:List α):(fl enc q).length=q.length*s:=by
 induction q with
 | nil=>simp[fl]
 | cons a l ih=>simp only[fl,List.flatMap_cons,List.length_append,hE.len,List.length_cons]at ih ⊢;rw[ih,Nat.add_mul];omega
theorem QN{α : Type}{enc : α->List XC}{s:Nat}[hE:zb enc s](q:List α)(j:Nat)(hj:j<q.length)(dflt : α):j*s+s<=(fl enc q).length/\((fl enc q).drop (j*s)).take s=enc (q.getD j dflt):=
 xZ enc s q (fun a _=>hE.len a) j _ (by simp[List.getD_eq_getElem?_getD,hj])
theorem kD{α : Type}{enc : α->List XC}{s:Nat}[hE:zb enc s][Inhabited α]{t:TypeId}{a:Operand}{g k off:Nat}{LL:List (List XC)}{q:List α}{j:Nat}{cs':List XC}(hk:SK P ops nt L l ((d,.agg cs')::al) hs fun bs=>K (⟨false,some g,[]⟩::bs))(hL:LL[k]? = some (fl enc q))(hc:j<q.length)(hc':(enc (q.getD j default)).map (·.self g)=cs':=by exact rfl)(ho:o.op = .load t a:=by exact rfl)(ht:cU P t:=by infer_instance)(hs':aF P t s:=by infer_instance)(wn:Wn ops nt al o d:=by exact⟨rfl,rfl,rfl⟩)(ha:ag (rg al) a = .one (.lpt g k off):=by exact rfl)(hi:hs[g]? = some (.late LL):=by exact rfl)(hj:off=j*s:=by exact n1):SK P ops nt L (o::l) al hs K:=by
 subst hj;obtain⟨h1,h2⟩:=QN (enc:=enc) q j hc default;exact QG hk hL ⟨h1,hE.pos⟩ h2 hc' ho ht hs' wn ha hi
theorem Rv{t e:TypeId}{a:Operand}{lo hi:Option Operand}{s:Nat}{g k off n fl cut p q:Nat}{z w:Int}(hk:SK P ops nt L l ((d,.one (.lsl g k (off+p*s) (q-p) (fl-p) (cut+p)))::al) hs fun bs=>K (quiet::bs))(ho:o.op = .slice t a lo hi .none:=by exact rfl)(hu:aG P t (.slice e):=by infer_instance)(hs':aF P e s:=by infer_instance)(wn:Wn ops nt al o d:=by exact⟨rfl,rfl,rfl⟩)(ha:ag (rg al) a = .one (.lsl g k off n fl cut):=by exact rfl)(hl:sJ (lo.map (ag (rg al))) 0=some z:=by exact rfl)(hh:sJ (hi.map (ag (rg al))) (n:Nat)=some w:=by exact rfl)(hp:z=(p:Nat):=by first|exact rfl|omega)(hq:w=(q:Nat):=by first|exact rfl|omega)(hb:p<=q/\q<=fl/\(p=0\/p<fl):=by omega):SK P ops nt L (o::l) al hs K:=by
 subst hp hq;have e1:=qH (y:=q) hl (by omega);have e2:=qG (y:=fl) hh (by omega);exact SK.lift wn.e wn.l (fun _=>az.pure wn.w (by rw[ho];simp only[aR,mN,hu.out,ha,dN,Option.map_none,e1,e2,hs'.out];rw[if_pos hb.2.2])) hk
theorem Mr{t1 e1:TypeId}(hu:P.underlying t1=some (.slice e1)){b:Operand}{g k off n fl cut sz:Nat}(hb:ag (rg al) b = .one (.lsl g k off n fl cut))(hsz:0<sz){LL:List (List XC)}(hi:hs[g]? = some (.late LL)){cs:List XC}(hL:LL[k]? = some cs)(hn:off+n*sz<=cs.length){r:List XC}(hr:(((cs.map (·.self g)).drop off).take (n*sz))=r):∀M,aV M hs->jv P t1 sz (ag (rg al) b) M=some (n,r):=fun M hM=>by
 subst hr;rw[hb];unfold jv;simp only[hu]
 by_cases h0:n=0
 ·rw[if_pos h0,h0,Nat.zero_mul];rfl
 ·rw[if_neg h0,hM.at hi];simp only[hL]
  cases cs with
  | nil=>
    have:=Nat.mul_pos (Nat.pos_of_ne_zero h0) hsz;simp at hn;omega
  | cons c cs=>simp only[];rw[if_pos hn]
end
def XC.lA(g m:Nat):XC->Prop
 | .ptr j _=>j≠g
 | .slice j _ _ _=>j≠g
 | .map j=>j≠g
 | .lsl g' k _ _ _ _=>g'=g->k≠m
 | .lpt g' k _=>g'=g->k≠m
 | .bind a b=>a.lA g m/\b.lA g m
 | _=>True
theorem XC.iN{g m:Nat}:∀{c:XC},c.ok 0->c.lA g m:=by
 intro c
 induction c with
 | ptr j off=>exact fun h=>absurd h (Nat.not_lt_zero _)
 | slice j off n cap=>exact fun h=>absurd h (Nat.not_lt_zero _)
 | map j=>exact fun h=>absurd h (Nat.not_lt_zero _)
 | lsl g' k off n fl cut=>exact fun h=>absurd h (Nat.not_lt_zero _)
 | lpt g' k off=>exact fun h=>absurd h (Nat.not_lt_zero _)
 | bind a b ih1 ih2=>exact fun h=>⟨ih1 h.1,ih2 h.2⟩
 | _=>intro _;trivial
inductive iT(g m:Nat)(A B:XC):XC->XC->Prop where
 | same {c:XC}:c.lA g m->iT g m A B c c
 | zE:iT g m A B A B
inductive dR(g m:Nat)(A B:XC):List XC->List XC->Prop where
 | same {l:List XC}:(∀c∈l,c.lA g m)->dR g m A B l l
 | cons {c c':XC} {l l':List XC}:iT g m A B c c'->dR g m A B l l'->dR g m A B (c::l) (c'::l')
theorem dR.app{g m:Nat}{A B:XC}{a a' b b':List XC}(h:dR g m A B a a')(k:dR g m A B b b'):dR g m A B (a++b) (a'++b'):=by
 induction h with
 | @same l hl=>
   induction l with
   | nil=>exact k
   | cons c l ih=>exact .cons (.same (hl c (List.mem_cons_self ..))) (ih fun x hx=>hl x (List.mem_cons_of_mem _ hx))
 | cons hc _ ih=>exact .cons hc ih
inductive a_(i g m:Nat)(A B:XC)(L:List (List XC))(vs:List XC):Nat->ah->ah->Prop where
 | nil {j:Nat}:a_ i g m A B L vs j [] []
 | flat {j:Nat} {o:aj} {hs hs2:ah} [b9 o]:Nat.beq j i=false->a_ i g m A B L vs (j+1) hs hs2->a_ i g m A B L vs j (o::hs) (o::hs2)
 | dead {j:Nat} {o:aj} {hs hs2:ah}:a_ i g m A B L vs (j+1) hs hs2->a_ i g m A B L vs j (o::hs) (.dead::hs2)
 | cells {j:Nat} {us us2:List XC} {e:TypeId} {a b:Bool} {hs hs2:ah}:Nat.beq j i=false->dR g m A B us us2->a_ i g m A B L vs (j+1) hs hs2->a_ i g m A B L vs j (.cells us e a b::hs) (.cells us2 e a b::hs2)
 | ghost {hs hs2:ah}:a_ i g m A B L vs (g+1) hs hs2->a_ i g m A B L vs g (.late L::hs) (.late (L++[vs])::hs2)
inductive du(g m:Nat)(A B:XC)(al:aL):aL->Prop where
 | nil:du g m A B al []
 | flat {t:Nat} {v:XV} {r:aL} [b7 v]:rg al t=v->du g m A B al r->du g m A B al ((t,v)::r)
 | one {t:Nat} {c c':XC} {r:aL}:rg al t = .one c->iT g m A B c c'->du g m A B al r->du g m A B al ((t,.one c')::r)
 | agg {t:Nat} {c c':List XC} {r:aL}:rg al t = .agg c->dR g m A B c c'->du g m A B al r->du g m A B al ((t,.agg c')::r)
theorem a_.len{i g m:Nat}{A B:XC}{L:List (List XC)}{vs:List XC}{j:Nat}{hs hs2:ah}(h:a_ i g m A B L vs j hs hs2):hs2.length=hs.length:=by
 induction h with
 | nil=>rfl
 | flat _ _ ih=>simp[ih]
 | dead _ ih=>simp[ih]
 | cells _ _ _ ih=>simp[ih]
 | ghost _ ih=>simp[ih]
theorem a_.at{i g m:Nat}{A B:XC}{L:List (List XC)}{vs:List XC}{j:Nat}{hs hs2:ah}(h:a_ i g m A B L vs j hs hs2):∀(p:Nat) (o2:aj),hs2[p]? = some o2 ->
 o2 = .dead\/(j+p=g/\o2 = .late (L++[vs]))\/(j+p≠i/\b9 o2/\hs[p]? = some o2)\/∃us us2 e a b,j+p≠i/\o2 = .cells us2 e a b/\hs[p]? = some (.cells us e a b)/\dR g m A B us us2:=by
 induction h with
 | nil=>intro p o2 h;simp at h
 | @flat j o hs hs2 inst hj _ ih=>
   intro p o2 h
   cases p with
   | zero=>
     simp only[List.getElem?_cons_zero,Option.some.injEq]at h;subst h;exact .inr (.inr (.inl ⟨fun e=>(by rw[Nat.add_zero]at e;rw[e,Nat.beq_refl]at hj;cases hj),inst,rfl⟩))
   | succ p=>
     have:=ih p o2 (by simpa using h);rw[show j+1+p=j+(p+1) by omega]at this;simpa using this
 | @dead j o hs hs2 _ ih=>
   intro p o2 h
   cases p with
   | zero=>
     simp only[List.getElem?_cons_zero,Option.some.injEq]at h;exact .inl h.symm
   | succ p=>
     have:=ih p o2 (by simpa using h);rw[show j+1+p=j+(p+1) by omega]at this;simpa using this
 | @cells j us us2 e a b hs hs2 hj hl _ ih=>
   intro p o2 h
   cases p with
   | zero=>
     simp only[List.getElem?_cons_zero,Option.some.injEq]at h;subst h;exact .inr (.inr (.inr ⟨us,us2,e,a,b,fun e=>(by rw[Nat.add_zero]at e;rw[e,Nat.beq_refl]at hj;cases hj),rfl,rfl,hl⟩))
   | succ p=>
     have:=ih p o2 (by simpa using h);rw[show j+1+p=j+(p+1) by omega]at this;simpa using this
 | @ghost hs hs2 _ ih=>
   intro p o2 h
   cases p with
   | zero=>
     simp only[List.getElem?_cons_zero,Option.some.injEq]at h;exact .inr (.inl ⟨rfl,h.symm⟩)
   | succ p=>
     have:=ih p o2 (by simpa using h);rw[show g+1+p=g+(p+1) by omega]at this;simpa using this
instance Qq (L:List (List XC)):b9 (.late L):=⟨fun _=>rfl,fun _=>trivial⟩
section
variable {i g m n:Nat} {cp:oV} {A B:XC} {β β2:Env}
structure tx(g m:Nat)(A B:XC)(β β2:Env):Prop where
 ne:∀j,j≠g -> β2.bn j = β.bn j
 size:∀j,β2.size j = β.size j
 base:∀j,β2.base j = β.base j
 tab:∀k,k≠m->gU (β2.bn g) k=gU (β.bn g) k/\eG (β2.bn g) k=eG (β.bn g) k/\mG (β2.bn g) k=mG (β.bn g) k
 new:B.den β2=A.den β
theorem tx.same(h:tx g m A B β β2):∀{c:XC},c.lA g m->c.den β2=c.den β:=by
 intro c
 induction c with
 | ptr j off=>intro hc;simp only[XC.den,h.ne j hc,h.base]
 | slice j off len cap=>intro hc;cases cap<;>simp only[XC.den,h.ne j hc,h.base,h.size]
 | map j=>intro hc;simp only[XC.den,h.ne j hc]
 | bind a b ih1 ih2=>intro hc;simp only[XC.den,ih1 hc.1,ih2 hc.2]
 | lsl g' k off len fl cut=>
   intro hc
   by_cases e:g'=g
   ·subst e;simp only[XC.den,(h.tab k (hc rfl)).1,(h.tab k (hc rfl)).2.1,(h.tab k (hc rfl)).2.2]
   ·simp only[XC.den,h.ne g' e]
 | lpt g' k off=>
   intro hc
   by_cases e:g'=g
   ·subst e;simp only[XC.den,(h.tab k (hc rfl)).1,(h.tab k (hc rfl)).2.1,(h.tab k (hc rfl)).2.2]
   ·simp only[XC.den,h.ne g' e]
 | _=>intro _;rfl
theorem tx.cell(h:tx g m A B β β2){c c':XC}(hc:iT g m A B c c'):c'.den β2=c.den β:=by
 cases hc with
 | same hn=>exact h.same hn
 | zE=>exact h.new
theorem tx.cells(h:tx g m A B β β2){l l':List XC}(hl:dR g m A B l l'):l'.map (·.den β2)=l.map (·.den β)/\l'.length=l.length:=by
 induction hl with
 | same hn=>exact⟨List.map_congr_left fun c hc=>h.same (hn c hc),rfl⟩
 | cons hc _ ih=>exact⟨by simp only[List.map_cons,h.cell hc,ih.1],by simp only[List.length_cons,ih.2]⟩
theorem tx.Qr(h:tx g m A B β β2){o:aj}[ho:b9 o]{N N2 lo sz:Nat}{ob:Option Obj}(hr:fb β N lo sz o ob):fb β2 N2 lo sz o ob:=by
 have h0:=ho.ok 0
 cases o with
 | dead=>trivial
 | late L=>trivial
 | cells vs e a b=>
   obtain⟨cs,fr,h1,h2,h3,h4,h5,h6⟩:=hr;exact⟨cs,fr,h1,h2,h3,h4,fun c hc=>XC.dm (Nat.zero_le _) (h0 c hc),by rw[h6];exact(List.map_congr_left fun c hc=>h.same (XC.iN (h0 c hc))).symm⟩
 | map es=>
   obtain⟨en,clock,h1,h2,h3⟩:=hr
   have hx:∀x:X1,x.ok 0->x.den β2=x.den β:=fun x hx=>by
    cases x with
    | one c=>exact h.same (XC.iN hx)
    | agg cs=>simp only[X1.den];rw[List.map_congr_left fun c hc=>h.same (XC.iN (hx c hc))]
   refine⟨en,clock,h1,fun p hp=>⟨X1.dm (Nat.zero_le _) (h0 p hp).1,X1.dm (Nat.zero_le _) (h0 p hp).2⟩,h3.trans ?_⟩;exact List.map_congr_left fun p hp=>by rw[hx _ (h0 p hp).1,hx _ (h0 p hp).2]
theorem tx.Qu(h:tx g m A B β β2){v:XV}[hv:b7 v]{N N2:Nat}{u:Value}(hr:aK β N v u):aK β2 N2 v u:=by
 have h0:=hv.ok 0
 cases v with
 | undef=>trivial
 | one c=>exact⟨XC.dm (Nat.zero_le _) h0,hr.2.trans (h.same (XC.iN h0)).symm⟩
 | agg cs=>exact⟨fun c hc=>XC.dm (Nat.zero_le _) (h0 c hc),hr.2.trans (by rw[List.map_congr_left fun c hc=>h.same (XC.iN (h0 c hc))])⟩
 | tup xs=>
   refine⟨fun c hc=>X1.dm (Nat.zero_le _) (h0 c hc),hr.2.trans ?_⟩
   have:xs.map (·.den β2)=xs.map (·.den β):=List.map_congr_left fun x hx=>by
    have h1:=h0 x hx
    cases x with
    | one c=>exact h.same (XC.iN h1)
    | agg cs=>simp only[X1.den];rw[List.map_congr_left fun c hc=>h.same (XC.iN (h1 c hc))]
   rw[this]
theorem du.at{al r:aL}(h:du g m A B al r)(t:Nat):rg r t = .undef\/(b7 (rg r t)/\rg al t=rg r t)\/(∃c c',rg r t = .one c'/\rg al t = .one c/\iT g m A B c c')\/∃c c',rg r t = .agg c'/\rg al t = .agg c/\dR g m A B c c':=by
 induction h with
 | nil=>exact .inl rfl
 | @flat u v r inst hv _ ih=>
   rw[show rg ((u,v)::r) t=if t=u then v else rg r t from rfl];split
   ·rename_i e;subst e;exact .inr (.inl ⟨inst,hv⟩)
   ·exact ih
 | @one u c c' r hv hc _ ih=>
   rw[show rg ((u,XV.one c')::r) t=if t=u then XV.one c' else rg r t from rfl];split
   ·rename_i e;subst e;exact .inr (.inr (.inl ⟨c,c',rfl,hv,hc⟩))
   ·exact ih
 | @agg u c c' r hv hc _ ih=>
   rw[show rg ((u,XV.agg c')::r) t=if t=u then XV.agg c' else rg r t from rfl];split
   ·rename_i e;subst e;exact .inr (.inr (.inr ⟨c,c',rfl,hv,hc⟩))
   ·exact ih
theorem XC.uW{c:XC}{j:Nat}(h:c.iF m=true):(c.self j).lA g m:=by
 cases c with
 | ptr i off=>cases h
 | slice i off len cap=>cases h
 | map i=>cases h
 | bind g c=>cases h
 | lsl g' k off len fl cut=>exact fun _ e=>by subst e;simp[XC.iF,Nat.blt_eq]at h
 | lpt g' k off=>exact fun _ e=>by subst e;simp[XC.iF,Nat.blt_eq]at h
 | _=>trivial
theorem XC.nQ{c:XC}{a b:Nat}(hab:a<=b)(h:c.iF a=true):c.iF b=true:=by
 cases c with
 | ptr i off=>cases h
 | slice i off len cap=>cases h
 | map i=>cases h
 | bind g c=>cases h
 | lsl g' k off len fl cut=>simp only[XC.iF,Nat.blt_eq]at h ⊢;omega
 | lpt g' k off=>simp only[XC.iF,Nat.blt_eq]at h ⊢;omega
 | _=>rfl
theorem WX.Qv{P:Program}{nt nI:Nat}{al:aL}{hs:ah}{K:ch}{c:r4}{L:List (List XC)}{vs:List XC}(hg:hs[g]? = some (.late L))(hgI:nI<=g)(hm:L.length=m)(hvl:∀c∈vs,c.iF m=true)
 (hsrc:∀(β : Env) (mm:Mem) (w:World),aV mm hs->Rel β mm w->∃bk base cap,(∀β2:Env,gU (β2.bn g) m=bk->eG (β2.bn g) m=base->mG (β2.bn g) m=cap->B.den β2=A.den β)/\(vs≠[]->(∃all e fr,w.heap[bk]? = some (.cells all e fr)/\(all.toList.drop base).take vs.length=(vs.map (·.self g)).map (·.den β))/\((i<mm.n/\(mm.get i).own=true /\ β.bn i=bk)\/∃p L' q cs',p<mm.n/\mm.get p = .late L'/\L'[q]? = some cs'/\cs'≠[]/\gU (β.bn p) q=bk)))
 {R:aL} {H:ah}(hH:a_ i g m A B L vs 0 hs H) (hR:du g m A B al R) (hok:q_ nI R H)
 (h:WX P nt nI c R H K):WX P nt nI c al hs K:=by
 intro βI mI wI hnI mm hmm β w a Q hr hst hq;have rel:=hst.rel;have nn:=hmm.n;have hgn:g<mm.n:=by rw[nn];exact(List.getElem?_eq_some_iff.1 hg).1
 have gg:mm.get g = .late L:=hmm.at hg;obtain⟨bk,base,cap,hden,hnew⟩:=hsrc β mm w hmm rel;obtain⟨code,⟨t1,t3,t4⟩,t2⟩:=My bk base cap m (β.bn g)
 let β2:Env:=⟨fun j=>if j=g then code else β.bn j,β.base,β.size⟩
 have bg : β2.bn g=code:=if_pos rfl;have bne:∀j,j≠g -> β2.bn j = β.bn j:=fun j hj=>if_neg hj
 have E:tx g m A B β β2:=⟨bne,fun _=>rfl,fun _=>rfl,fun k hk=>by rw[bg];exact t2 k hk,hden β2 (by rw[bg];exact t1) (by rw[bg];exact t3) (by rw[bg];exact t4)⟩
 have ok:=hok;have hm2:=eK H (by simpa [Nat.blt_eq]using ok.bnd);have hlen:=hH.len;have n2:=hm2.n;generalize hM:iA H=m2 at hm2 n2
 have at2:∀p,p<m2.n->m2.get p = .dead\/(p=g/\m2.get p = .late (L++[vs]))\/(p≠i/\b9 (m2.get p)/\mm.get p=m2.get p)\/∃us us2 e a b,p≠i/\m2.get p = .cells us2 e a b/\mm.get p = .cells us e a b/\dR g m A B us us2:=fun p hp=>by
  rcases hH.at p _ (hm2.get? hp)with k|⟨k1,k2⟩|⟨k1,k2,k3⟩|⟨us,us2,e,a,b,k1,k2,k3,k4⟩
  ·exact .inl k
  ·exact .inr (.inl ⟨by omega,k2⟩)
  ·exact .inr (.inr (.inl ⟨by omega,k2,hmm.at k3⟩))
  ·exact .inr (.inr (.inr ⟨us,us2,e,a,b,by omega,k2,hmm.at k3,k4⟩))
 have low:∀p,p<m2.n->(m2.get p).live=true->p≠g/\p≠i/\(mm.get p).live=true/\((m2.get p).own=true->(mm.get p).own=true):=fun p hp hl=>by
  rcases at2 p hp with k|⟨k1,k2⟩|⟨k1,k2,k3⟩|⟨us,us2,e,a,b,k1,k2,k3,k4⟩
  ·rw[k]at hl;cases hl
  ·rw[k2]at hl;cases hl
  ·refine⟨fun e=>?_,k1,by rw[k3];exact hl,fun ho=>by rw[k3];exact ho⟩;rw[<-k3,e,gg]at hl;cases hl
  ·refine⟨fun e=>?_,k1,by rw[k3];rfl,fun ho=>?_⟩
   ·rw[e,gg]at k3;cases k3
   ·rw[k2]at ho;rw[k3];exact ho
 have img2:∀k,kA β2 m2 k->∃p,p<mm.n/\p≠i/\(mm.get p).own=true /\ β.bn p=k:=fun k ⟨p,hp,ho,hb⟩=>by
  obtain⟨k1,k2,k3,k4⟩:=low p hp (aj.bN ho);exact⟨p,by omega,k2,k4 ho,by rw[<-hb,bne p k1]⟩
 have himg:∀k,kA β2 m2 k->kA β mm k:=fun k hk=>by
  obtain⟨p,k1,k2,k3,k4⟩:=img2 k hk;exact⟨p,k1,k3,k4⟩
 have hni:vs≠[]->¬kA β2 m2 bk:=fun hne hk=>by
  rcases(hnew hne).2 with⟨hin,hio,hib⟩|⟨p,L',q,cs',h1,h2,h3,h4,h5⟩
  ·obtain⟨p,k1,k2,k3,k4⟩:=img2 _ hk;exact k2 (rel.inj p i k1 hin k3 (aj.bN hio) (k4.trans hib.symm))
  ·rw[<-h5]at hk;exact((rel.late p h1 L' h2 q cs' h3).2 h4).1 (himg _ hk)
 have jb:∀k cs',L[k]? = some cs'->(∀c∈cs',c.iF L.length=true)/\(cs'≠[]->¬kA β2 m2 (gU (β2.bn g) k) /\
  ∃all e fr,w.heap[(gU (β2.bn g) k)]? = some (.cells all e fr)/\(all.toList.drop (eG (β2.bn g) k)).take cs'.length=cs'.map fun c=>(c.self g).den β2):=fun k cs' hk=>by
  have hkl:=(List.getElem?_eq_some_iff.1 hk).1;obtain⟨q1,q2⟩:=rel.late g hgn L gg k cs' hk;refine⟨q1,fun hne=>?_⟩;obtain⟨q3,all,e,fr,q4,q5⟩:=q2 hne;rw[(E.tab k (by omega)).1,(E.tab k (by omega)).2.1];refine⟨fun hk=>q3 (himg _ hk),all,e,fr,q4,q5.trans (List.map_congr_left fun c hc=>?_)⟩;exact(E.same (XC.uW (by rw[<-hm];exact q1 c hc))).symm
 have hrel:Rel β2 m2 w:=by
  refine⟨hm2.bnd,hm2.fresh,fun p hp=>?_,fun a b ha hb la lb hab=>?_,fun p hp L2 hL2=>?_⟩
  ·rcases at2 p hp with k|⟨k1,k2⟩|⟨k1,k2,k3⟩|⟨us,us2,e,a,b,k1,k2,k3,k4⟩
   ·rw[k];trivial
   ·rw[k2];trivial
   ·by_cases hpg:p=g
    ·have:m2.get p = .late L:=by rw[<-k3,hpg];exact gg
     rw[this];trivial
    ·have:=rel.obj p (by omega);rw[k3]at this;rw[bne p hpg];exact E.Qr this
   ·have hpg:p≠g:=fun e=>by rw[e,gg]at k3;cases k3
    have:=rel.obj p (by omega);rw[k3]at this;obtain⟨cs,fr,j1,j2,j3,j4,j5,j6⟩:=this;obtain⟨d1,d2⟩:=E.cells k4;rw[bne p hpg,k2];refine⟨cs,fr,j1,j2,by rw[d2];exact j3,j4,?_,by rw[d1,d2];exact j6⟩;have hk:=ok.objs.at _ (List.mem_of_getElem? (hm2.get? hp));rw[k2]at hk;rw[n2];exact hk
  ·obtain⟨a1,a2,a3,a4⟩:=low a ha (aj.bN la);obtain⟨b1,b2,b3,b4⟩:=low b hb lb;rw[bne a a1,bne b b1]at hab;exact rel.inj a b (by omega) (by omega) (a4 la) b3 hab
  ·rcases at2 p hp with k|⟨k1,k2⟩|⟨k1,k2,k3⟩|⟨us,us2,e,a,b,k1,k2,k3,k4⟩
   ·rw[k]at hL2;cases hL2
   ·rw[k2]at hL2;cases hL2;subst k1;intro k cs' hk
    by_cases hkm:k<L.length
    ·rw[List.getElem?_append_left hkm]at hk;obtain⟨q1,q2⟩:=jb k cs' hk;exact⟨fun c hc=>XC.nQ (by simp) (q1 c hc),q2⟩
    ·have hkl:=(List.getElem?_eq_some_iff.1 hk).1;simp only[List.length_append,List.length_singleton]at hkl;obtain rfl:k=L.length:=by omega
     rw[List.getElem?_append_right (Nat.le_refl _),Nat.sub_self]at hk;simp only[List.getElem?_cons_zero,Option.some.injEq]at hk;subst hk;refine⟨fun c hc=>XC.nQ (by rw[<-hm];simp) (hvl c hc),fun hne=>?_⟩;rw[bg,hm,t1,t3];obtain⟨cs,e,fr,h1,h6⟩:=(hnew hne).1;refine⟨hni hne,cs,e,fr,h1,?_⟩;rw[h6,List.map_map];refine List.map_congr_left fun c hc=>?_
     exact(E.same (XC.uW (hvl c hc))).symm
   ·by_cases hpg:p=g
    ·rw[<-k3,hpg,gg]at hL2;cases hL2;rw[hpg];exact jb
    ·have hL:mm.get p = .late L2:=by rw[k3];exact hL2
     intro k cs' hk;obtain⟨q1,q2⟩:=rel.late p (by omega) L2 hL k cs' hk;refine⟨q1,fun hne=>?_⟩;obtain⟨q3,all,e,fr,q4,q5⟩:=q2 hne;rw[bne p hpg];refine⟨fun hk=>q3 (himg _ hk),all,e,fr,q4,q5.trans (List.map_congr_left fun c hc=>?_)⟩;exact(XC.nY (q1 c hc) (bne p hpg)).symm
   ·rw[k2]at hL2;cases hL2
 have hst2:Step βI mI wI β2 m2 w:=by
  have hle:=Nat.le_of_ble_eq_true ok.le;refine⟨by omega,fun j hj=>?_,hrel,hst.os,hst.tape,hst.output,hst.size,hst.frame,fun k hk hi=>hst.pU k hk (himg k hi),fun k hk ⟨p,hp,L2,q,cs',e1,e2,e3,e4⟩=>?_⟩
  ·have:=hst.ext j hj;rw[bne j (by omega)];exact this
  ·rcases at2 p hp with k1|⟨k1,k2⟩|⟨k1,k2,k3⟩|⟨us,us2,e,a,b,k1,k2,k3,k4⟩
   ·rw[k1]at e1;cases e1
   ·rw[k2]at e1;cases e1;subst k1
    by_cases hqm:q<L.length
    ·rw[List.getElem?_append_left hqm]at e2;rw[(E.tab q (by omega)).1]at e4;exact hst.vQ k hk ⟨p,hgn,L,q,cs',gg,e2,e3,e4⟩
    ·have hql:=(List.getElem?_eq_some_iff.1 e2).1;simp only[List.length_append,List.length_singleton]at hql;obtain rfl:q=L.length:=by omega
     rw[bg,hm,t1]at e4;rw[List.getElem?_append_right (Nat.le_refl _),Nat.sub_self]at e2;simp only[List.getElem?_cons_zero,Option.some.injEq]at e2;subst e2
     rcases(hnew e3).2 with⟨hin,hio,hib⟩|⟨p,L',q,cs',h1,h2,h3,h4,h5⟩
     ·exact .inl (hst.pU k hk ⟨i,hin,hio,hib.trans e4⟩)
     ·exact hst.vQ k hk ⟨p,h1,L',q,cs',h2,h3,h4,h5.trans e4⟩
   ·by_cases hpg:p=g
    ·rw[<-k3,hpg,gg]at e1;cases e1;have hql:=(List.getElem?_eq_some_iff.1 e2).1;rw[hpg,(E.tab q (by omega)).1]at e4;exact hst.vQ k hk ⟨g,hgn,L,q,cs',gg,e2,e3,e4⟩
    ·rw[bne p hpg]at e4;exact hst.vQ k hk ⟨p,by omega,L2,q,cs',by rw[k3];exact e1,e2,e3,e4⟩
   ·rw[k2]at e1;cases e1
 refine h βI mI wI hnI m2 (by rw[<-hM];exact eK H (by simpa [Nat.blt_eq]using ok.bnd)) β2 w a Q ⟨hr.size,hr.small,fun t ht=>?_,fun t ht=>?_⟩ hst2 hq
 ·have hrt:=hr.rel t ht;have hokt:=ok.gS.at t;rw[<-n2]at hokt
  rcases hR.at t with k|⟨k1,k2⟩|⟨c,c',k1,k2,k3⟩|⟨c,c',k1,k2,k3⟩
  ·rw[k];trivial
  ·rw[k2]at hrt;exact E.Qu hrt
  ·rw[k2]at hrt;rw[k1]at hokt ⊢;exact⟨hokt,hrt.2.trans (E.cell k3).symm⟩
  ·rw[k2]at hrt;rw[k1]at hokt ⊢;exact⟨hokt,hrt.2.trans (by rw[(E.cells k3).1])⟩
 ·have hot:=hr.out t ht
  rcases hR.at t with k|⟨k1,k2⟩|⟨c,c',k1,k2,k3⟩|⟨c,c',k1,k2,k3⟩
  ·exact k
  ·rw[<-k2];exact hot
  ·rw[k2]at hot;cases hot
  ·rw[k2]at hot;cases hot
theorem WX.zE{P:Program}{nt nI:Nat}{al:aL}{hs:ah}{K:ch}{c:r4}{L:List (List XC)}{vs us:List XC}{e:TypeId}{opn:Bool}(hg:hs[g]? = some (.late L))(hi:hs[i]? = some (.cells us e opn false))(hgI:nI<=g)(hm:L.length=m)(hv:vs.map (·.self g)=us)(hvl:∀c∈vs,c.iF m=true)
 {R:aL} {H:ah}(hH:a_ i g m (.slice i 0 n cp) (.lsl g m 0 n n 0) L vs 0 hs H) (hR:du g m (.slice i 0 n cp) (.lsl g m 0 n n 0) al R) (hok:q_ nI R H) (hn:(∃c,cp = .exact c/\n<=c)\/∃s,cp = .toEnd s/\0<s/\n*s<=us.length)
 (h:WX P nt nI c R H K):WX P nt nI c al hs K:=by
 refine WX.Qv hg hgI hm hvl (fun β mm w hmm rel=>?_) hH hR hok h;have nn:=hmm.n;have hin:i<mm.n:=by rw[nn];exact(List.getElem?_eq_some_iff.1 hi).1
 have gi:mm.get i = .cells us e opn false:=hmm.at hi;have ho:=rel.obj i hin;rw[gi]at ho;obtain⟨cs,fr,h1,h2,h3,h4,h5,h6⟩:=ho;have hbase : β.base i=0:=(h4 rfl).2;rw[hbase]at h6 h2
 obtain⟨cap,hcap,hden⟩:∃cap,n<=cap/\(XC.slice i 0 n cp).den β = .slice (some ⟨β.bn i,0,none⟩) n cap:=by
  rcases hn with⟨q,rfl,hq⟩|⟨s,rfl,hs0,hq⟩
  ·exact⟨q,hq,by simp only[XC.den,hbase]⟩
  ·refine⟨(β.size i-0)/s,?_,by simp only[XC.den,hbase]⟩;rw[Nat.le_div_iff_mul_le hs0];split at h3<;>omega
 refine⟨β.bn i,0,cap,fun β2 t1 t3 t4=>by simp only[XC.den,t1,t3,t4,hden,Nat.add_zero,Nat.sub_zero,Nat.max_eq_right hcap],fun _=>⟨⟨cs,e,fr,h1,?_⟩,.inl ⟨hin,by rw[gi];rfl,rfl⟩⟩⟩;have hl:us.length=vs.length:=by rw[<-hv,List.length_map]
 rw[hl]at h6;rw[h6,<-hv]
theorem XC.fk{c:XC}(h:c.iF 0=true)(g:Nat):c.self g=c:=by
 cases c with
 | ptr i off=>cases h
 | slice i off len cap=>cases h
 | map i=>cases h
 | bind g c=>cases h
 | lsl g' k off len fl cut=>cases h
 | lpt g' k off=>cases h
 | _=>rfl
theorem fk{vs:List XC}(h:∀c∈vs,c.iF 0=true)(g:Nat):vs.map (·.self g)=vs:=
 (List.map_congr_left fun c hc=>XC.fk (h c hc) g).trans (List.map_id' _)
theorem WX.R8{P:Program}{nt nI:Nat}{al:aL}{hs:ah}{K:ch}{c:r4}{L L':List (List XC)}{vs:List XC}{h k off n fl cut:Nat}(hg:hs[g]? = some (.late L))(hh:hs[h]? = some (.late L'))(hk:L'[k]? = some vs)(hgI:nI<=g)(hm:L.length=m)(hvl:∀c∈vs,c.iF 0=true)
 {R:aL} {H:ah}(hH:a_ hs.length g m (.lsl h k off n fl cut) (.lsl g m off n fl cut) L vs 0 hs H) (hR:du g m (.lsl h k off n fl cut) (.lsl g m off n fl cut) al R) (hok:q_ nI R H)
 (hx:WX P nt nI c R H K):WX P nt nI c al hs K:=by
 refine WX.Qv hg hgI hm (fun c hc=>XC.nQ (Nat.zero_le _) (hvl c hc)) (fun β mm w hmm rel=>?_) hH hR hok hx;have nn:=hmm.n;have hin:h<mm.n:=by rw[nn];exact(List.getElem?_eq_some_iff.1 hh).1
 have gh:mm.get h = .late L':=hmm.at hh;refine⟨gU (β.bn h) k,eG (β.bn h) k,mG (β.bn h) k,fun β2 t1 t3 t4=>by simp only[XC.den,t1,t3,t4],fun hne=>?_⟩;obtain⟨q1,q2⟩:=rel.late h hin L' gh k vs hk;obtain⟨q3,all,e,fr,q4,q5⟩:=q2 hne;refine⟨⟨all,e,fr,q4,?_⟩,.inr ⟨h,L',k,vs,hin,gh,hk,hne,rfl⟩⟩;rw[q5,fk hvl];exact List.map_congr_left fun c hc=>by rw[XC.fk (hvl c hc)]
end
theorem XC.Jq{c:XC}{m:Nat}(h:c.iF m=true)(g:Nat)(τ : Nat->Nat):(c.self g).aB τ = c.self (τ g):=by
 cases c with
 | ptr i off=>cases h
 | slice i off len cap=>cases h
 | map i=>cases h
 | bind g c=>cases h
 | _=>rfl
theorem rN{vs:List XC}{m:Nat}(h:∀c∈vs,c.iF m=true)(g:Nat)(τ : Nat->Nat):(vs.map (·.self g)).map (·.aB τ)=vs.map (·.self (τ g)):=by
 rw[List.map_map];exact List.map_congr_left fun c hc=>XC.Jq (h c hc) g τ
theorem gL{vs:List XC}{m:Nat}(h:∀c∈vs,c.iF m=true)(g j:Nat):∀c∈vs.map (·.self j),c.lA g m:=fun c hc=>by
 obtain⟨d,hd,rfl⟩:=List.mem_map.1 hc;exact XC.uW (h d hd)
theorem uX{vs:List XC}{m:Nat}(h:∀c∈vs,c.iF m=true){g n:Nat}(hg:g<n){t:TypeId}{a b:Bool}:(aj.cells (vs.map (·.self g)) t a b).br n:=fun c hc=>by
 obtain⟨d,hd,rfl⟩:=List.mem_map.1 hc;exact XC.yu (h d hd) hg
theorem FY{vs:List XC}(h:vs.all XC.shut=true)(g:Nat):vs.map (·.self g)=vs:=by
 rw[List.all_eq_true]at h;refine(List.map_congr_left (g:=id) fun c hc=>?_).trans (List.map_id _);have:=h c hc;cases c<;>first|rfl|cases this
theorem ll(k:IntKind)(q:List Int)(m:Nat):∀c∈il k q,c.iF m=true:=fun c hc=>by
 obtain⟨z,_,rfl⟩:=List.mem_map.1 hc;rfl
theorem WX.tU{P:Program}{nt nI:Nat}{al:aL}{hs:ah}{K:ch}{c:r4}{L:List (List XC)}{vs us:List XC}{e:TypeId}{opn:Bool}(i g n:Nat)(cp:oV)(R:aL)(H:ah){m:Nat}(hvl:∀c∈vs,c.iF m=true)(hn:(∃c,cp = .exact c/\n<=c)\/∃s,cp = .toEnd s/\0<s/\n*s<=us.length)(hm:L.length=m)(hg:hs[g]? = some (.late L):=by exact rfl)(hi:hs[i]? = some (.cells us e opn false):=by exact rfl)(hgI:Nat.ble nI g=true:=by exact rfl)(hv:vs.map (·.self g)=us:=by exact rfl)
 (hH:a_ i g m (.slice i 0 n cp) (.lsl g m 0 n n 0) L vs 0 hs H:=by repeat' (first|exact a_.nil|refine a_.ghost ?_|refine a_.flat rfl ?_|refine a_.cells rfl (dR.same (gL (by assumption) _ _)) ?_|refine a_.dead ?_)) (hR:du g m (.slice i 0 n cp) (.lsl g m 0 n n 0) al R:=by repeat' (first|exact du.nil|refine du.flat rfl ?_|refine du.one rfl iT.zE ?_|refine du.one rfl (iT.same (by first|trivial|decide|(intro h;first|exact absurd h (by decide)|omega))) ?_)) (hok:q_ nI R H:=by exact mE)
 (h:WX P nt nI c R H K):WX P nt nI c al hs K:=
 WX.zE hg hi (Nat.le_of_ble_eq_true hgI) hm hv hvl hH hR hok hn h
theorem WX.QR{P:Program}{nt nI:Nat}{al:aL}{hs:ah}{K:ch}{c:r4}{L L':List (List XC)}{vs:List XC}(h k off n fl cut g:Nat)(R:aL)(H:ah){m:Nat}(hvl:∀c∈vs,c.iF 0=true)(hm:L.length=m)(hk:L'[k]? = some vs)(hg:hs[g]? = some (.late L):=by exact rfl)(hh:hs[h]? = some (.late L'):=by exact rfl)(hgI:Nat.ble nI g=true:=by exact rfl)
 (hH:a_ hs.length g m (.lsl h k off n fl cut) (.lsl g m off n fl cut) L vs 0 hs H:=by repeat' (first|exact a_.nil|refine a_.ghost ?_|refine a_.flat rfl ?_|refine a_.cells rfl (dR.same (gL (by assumption) _ _)) ?_|refine a_.dead ?_)) (hR:du g m (.lsl h k off n fl cut) (.lsl g m off n fl cut) al R:=by repeat' (first|exact du.nil|refine du.flat rfl ?_|refine du.one rfl iT.zE ?_|refine du.one rfl (iT.same (by first|trivial|decide|(intro h;first|exact absurd h (by decide)|omega))) ?_)) (hok:q_ nI R H:=by exact mE)
 (hx:WX P nt nI c R H K):WX P nt nI c al hs K:=
 WX.R8 hg hh hk (Nat.le_of_ble_eq_true hgI) hm hvl hH hR hok hx
def da(L:List (List XC))(g:Nat)(c:XC)(vs:List XC)(n:Nat):Prop:=(n=0/\(c = .nils\/∃i,c = .lem i))\/∃k fl,n<=fl/\c = .lsl g k 0 n fl 0/\L[k]? = some vs
theorem da.ok{L:List (List XC)}{g:Nat}{c:XC}{vs:List XC}{n m:Nat}(h:da L g c vs n)(hg:g<m):c.ok m:=by
 rcases h with⟨_,rfl|⟨i,rfl⟩⟩|⟨k,fl,_,rfl,_⟩
 ·trivial
 ·trivial
 ·exact hg
theorem da.aB{L:List (List XC)}{g:Nat}{c:XC}{vs:List XC}{n:Nat}(h:da L g c vs n)(τ : Nat->Nat):da L (τ g) (c.aB τ) vs n:=by
 rcases h with⟨h0,rfl|⟨i,rfl⟩⟩|⟨k,fl,h1,rfl,h2⟩
 ·exact .inl ⟨h0,.inl rfl⟩
 ·exact .inl ⟨h0,.inr ⟨i,rfl⟩⟩
 ·exact .inr ⟨k,fl,h1,rfl,h2⟩
theorem da.id{L:List (List XC)}{g:Nat}{c:XC}{vs:List XC}{n:Nat}(h:da L g c vs n){τ : Nat->Nat}(hg : τ g=g):c.aB τ = c:=by
 rcases h with⟨h0,rfl|⟨i,rfl⟩⟩|⟨k,fl,h1,rfl,h2⟩
 ·rfl
 ·rfl
 ·simp only[XC.aB,hg]
theorem ae.ia{τ : Nat->Nat}{al:aL}{t:Nat}{L:List (List XC)}{g:Nat}{c:XC}{vs:List XC}{n:Nat}{r:aL}(h:rg al t = .one c)(hs:da L g c vs n)(hg : τ g=g)(hr:ae τ al r):ae τ al ((t,.one c)::r):=
 .cons (by rw[h];simp only[XV.aB,hs.id hg]) hr
section
variable {P:Program} {ops:Array Oper} {nt nI:Nat} {al:aL} {hs:ah} {o:Oper} {l:List Oper} {I:List aA} {K:List Ab->aL->ah->Prop} {d:Nat}
theorem lX{a:Operand}{t elem:TypeId}{L:List (List XC)}{g n:Nat}{c:XC}{vs:List XC}(hk:SK P ops nt I l ((d,.one (.int .i64 (n:Nat)))::al) hs fun bs=>K (quiet::bs))(ho:o.op = .call ⟨.builtin .len,#[a],#[t]⟩:=by exact rfl)(wn:Wn ops nt al o d:=by exact⟨rfl,rfl,rfl⟩)(ha:ag (rg al) a = .one c:=by exact rfl)(hc:da L g c vs n:=by assumption)(hu:aG P t (.slice elem):=by infer_instance):SK P ops nt I (o::l) al hs K:=by
 refine SK.lift wn.e wn.l (fun _=>az.pure wn.w ?_) hk
 rcases hc with⟨h0,rfl|⟨i,rfl⟩⟩|⟨k,fl,h1,rfl,h2⟩
 ·subst h0;rw[ho];simp[aR,dh,ha,sN,hu.out]
 ·subst h0;rw[ho];simp[aR,dh,ha,sN,hu.out]
 ·rw[ho];simp[aR,dh,ha,sN,hu.out]
theorem rC{t:TypeId}{a b:Operand}{elem:TypeId}{s:Nat}{kd:IntKind}{z:Int}{L:List (List XC)}{g n:Nat}{c:XC}{vs:List XC}{p:Nat}(hk:∀k,L[k]? = some vs->SK P ops nt I l ((d,.one (.lpt g k p))::al) hs fun bs=>K (quiet::bs))(ho:o.op = .indexAddr t a b:=by exact rfl)(wn:Wn ops nt al o d:=by exact⟨rfl,rfl,rfl⟩)(hb:ag (rg al) b = .one (.int kd z):=by exact rfl)(ha:ag (rg al) a = .one c:=by exact rfl)(hc:da L g c vs n:=by assumption)(hu:aG P t (.slice elem):=by infer_instance)(hs':aF P elem s:=by infer_instance)(hz:0<=z/\z<(n:Nat):=by first|omega|decide)(hp:z.toNat*s=p:=by exact n1):SK P ops nt I (o::l) al hs K:=by
 rcases hc with⟨h0,_⟩|⟨k,fl,h1,rfl,h2⟩
 ·omega
 ·exact tZ (hk k h2) ho wn hb ha hu hs' hz (by rw[Nat.zero_add];exact hp)
theorem Tx{t e:TypeId}{a:Operand}{lo hi:Option Operand}{s:Nat}{L:List (List XC)}{g n q:Nat}{c:XC}{vs:List XC}{z w:Int}(hk:∀c',da L g c' vs q->SK P ops nt I l ((d,.one c')::al) hs fun bs=>K (quiet::bs))(ho:o.op = .slice t a lo hi .none:=by exact rfl)(hu:aG P t (.slice e):=by infer_instance)(hs':aF P e s:=by infer_instance)(wn:Wn ops nt al o d:=by exact⟨rfl,rfl,rfl⟩)(ha:ag (rg al) a = .one c:=by exact rfl)(hc:da L g c vs n:=by assumption)(hl:sJ (lo.map (ag (rg al))) 0=some z:=by exact rfl)(hh:sJ (hi.map (ag (rg al))) (n:Nat)=some w:=by exact rfl)(hp:z=0:=by first|exact rfl|omega)(hq:w=(q:Nat):=by first|exact rfl|omega)(hb:q<=n:=by omega):SK P ops nt I (o::l) al hs K:=by
 subst hp hq
 rcases hc with⟨h0,h1⟩|⟨k,fl,h1,rfl,h2⟩
 ·obtain rfl:q=0:=by omega
  subst h0;have e1:=qH (y:=0) (p:=0) hl (by omega);have e2:=qG (y:=0) (q:=0) hh (by omega);refine SK.lift wn.e wn.l (fun _=>az.pure wn.w ?_) (hk c (.inl ⟨rfl,h1⟩))
  rcases h1 with rfl|⟨i,rfl⟩
  ·rw[ho];simp only[aR,mN,hu.out,ha,dN,Option.map_none,e1,e2,hs'.out]
  ·rw[ho];simp only[aR,mN,hu.out,ha,dN,Option.map_none,e1,e2,hs'.out]
 ·exact Rv (p:=0) (q:=q) (hk _ (.inr ⟨k,fl,by omega,by simp,h2⟩)) ho hu hs' wn ha hl hh rfl rfl ⟨Nat.zero_le _,by omega,.inl rfl⟩
theorem Ms{t1 e1:TypeId}(hu:P.underlying t1=some (.slice e1)){b:Operand}{L:List (List XC)}{g n:Nat}{c:XC}{vs:List XC}{sz:Nat}(hb:ag (rg al) b = .one c)(hc:da L g c vs n)(hsz:0<sz)(hi:hs[g]? = some (.late L))(hn:n*sz<=vs.length){r:List XC}(hr:((vs.map (·.self g)).take (n*sz))=r):∀M,aV M hs->jv P t1 sz (ag (rg al) b) M=some (n,r):=by
 rcases hc with⟨h0,h1⟩|⟨k,fl,h1,rfl,h2⟩
 ·subst h0;intro M hM;rw[Nat.zero_mul,List.take_zero]at hr;subst hr;rw[hb];unfold jv
  rcases h1 with rfl|⟨i,rfl⟩<;>simp only[hu]
 ·exact Mr hu hb hsz hi h2 (by omega) (by rw[List.drop_zero];exact hr)
end
end Go.Xm
namespace Go.Xm
open Go.ChangeShapes Go.WideShapes Go.ChangeAt Go.RowKit Go.Deep
def Fq:Value->Nat×Nat×Nat
 | .slice (some a) _ cap=>(a.block,a.off,cap)
 | _=>(0,0,0)
def jx:Value->Nat
 | .slice _ n _=>n
 | _=>0
def DG(w:World)(v:Value):List Int:=(List.range (jx v)).map fun i=>numOf (w.cell? ⟨(Fq v).1,(Fq v).2.1+i,none⟩)
theorem DH(w:World)(v:Value):(DG w v).length=jx v:=by simp[DG]
theorem ot{a:Addr}(h:a.spot=none)(n:Nat):a.add n=⟨a.block,a.off+n,none⟩:=by
 obtain⟨b,o,s⟩:=a;simp only at h;subst h;unfold Addr.add
 by_cases h0:n=0
 ·rw[if_pos h0,h0,Nat.add_zero]
 ·rw[if_neg h0]
structure pA(w:World)(k:IntKind)(v:Value):Prop where
 sl:v = .slice none 0 0\/(∃a cap,v = .slice (some a) 0 cap)\/∃b off n cap,0<n/\n<=cap/\n<=9223372036854775807/\v = .slice (some ⟨b,off,none⟩) n cap
 num:∀i,i<jx v->∃z,w.cell? ⟨(Fq v).1,(Fq v).2.1+i,none⟩=some (.int k z)/\(Lit.int k z).wf=true
theorem Fs{H:Type}{enc:TypeId×Value->H}{P:Program}{w:World}{base:Nat}{spare:Nat->Bool}{held:Bool}{t e:TypeId}{k:IntKind}(ht:P.underlying t=some (.slice e))(he:P.underlying e=some (.int k))(hC:P.cellsOf e=1){v:Value}{fuel:Nat}{x:DataW H×List MemPlace}(hf:DataW.trod enc P w base spare held fuel t [v]=some x):pA w k v:=by
 rcases open_slice1 ht hC hf with⟨hcs,_⟩|⟨a,len,cap,m,n,V,D,Pl,hcs,_,hlc,hcm,hm,_,hall⟩
 ·simp only[List.cons.injEq,and_true]at hcs;subst hcs;exact⟨.inl rfl,fun i hi=>absurd hi (Nat.not_lt_zero i)⟩
 ·simp only [List.cons.injEq,and_true]at hcs;subst hcs;have hlm:len<=m:=by rw[hm];split<;>omega
  by_cases h0:len=0
  ·subst h0;exact⟨.inr (.inl ⟨a,cap,rfl⟩),fun i hi=>absurd hi (Nat.not_lt_zero i)⟩
  ·have hspot:a.spot=none:=by
    have h1:=(hall 0 (by omega)).1;rw[show a.add 0=a from rfl]at h1;unfold World.cell? at h1
    cases hs:a.spot with
    | none=>rfl
    | some s=>
      rw[hs]at h1;split at h1
      ·simp at h1
      ·cases h1
   refine⟨.inr (.inr ⟨a.block,a.off,len,cap,by omega,hlc,by unfold maxLen at hcm;omega,?_⟩),fun i hi=>?_⟩
   ·obtain⟨b,o,s⟩:=a;simp only at hspot;subst hspot;rfl
   ·have hi:i<len:=hi;obtain⟨h1,h2⟩:=hall i (by omega);rw[ot hspot]at h1;obtain⟨z,hz,_,hwf⟩:=DataW.trod_int he h2;simp only[List.cons.injEq,and_true]at hz;rw[hz]at h1;exact⟨z,h1,hwf⟩
theorem Ni{w:World}{kd:IntKind}{v:Value}(hv:pA w kd v):∀z∈DG w v,(Lit.int kd z).wf=true:=fun z hz=>by
 obtain⟨i,hi,rfl⟩:=List.mem_map.1 hz;obtain⟨y,hy,hw⟩:=hv.num i (List.mem_range.1 hi);rw[hy];exact hw
theorem Mp(v:Value):AE v = .slice .none 0 0\/∃a cap,AE v = .slice (some a) 0 cap:=by
 unfold AE;split
 ·exact .inr ⟨_,_,rfl⟩
 ·exact .inl rfl
variable [av]
def y9(k n:Nat):XC:=if n=0 then .lem k else .lsl 0 k 0 n n 0
theorem Dp{k n m:Nat}(h:k<m):(y9 k n).iF m=true:=by
 unfold y9;split
 ·rfl
 ·simp only[XC.iF,Nat.blt_eq];exact h
theorem BF{L:List (List XC)}{k n:Nat}{vs:List XC}(h:L[k]? = some vs):da L 0 (y9 k n) vs n:=by
 unfold y9;split
 ·rename_i h0;exact .inl ⟨h0,.inr ⟨k,rfl⟩⟩
 ·exact .inr ⟨k,n,Nat.le_refl _,rfl,h⟩
theorem da.self{L:List (List XC)}{c:XC}{vs:List XC}{n:Nat}(h:da L 0 c vs n)(g:Nat):da L g (c.self g) vs n:=by
 rcases h with⟨h0,rfl|⟨i,rfl⟩⟩|⟨k,fl,h1,rfl,h2⟩
 ·exact .inl ⟨h0,.inl rfl⟩
 ·exact .inl ⟨h0,.inr ⟨i,rfl⟩⟩
 ·exact .inr ⟨k,fl,h1,rfl,h2⟩
theorem Dn{w:World}{kd:IntKind}{v:Value}(hv:pA w kd v){k g:Nat}(ha:av.val k=AE v){β : Env}(h1:gU (β.bn g) k=(Fq v).1)(h2:eG (β.bn g) k=(Fq v).2.1)(h3:mG (β.bn g) k=(Fq v).2.2):((y9 k (jx v)).self g).den β = v:=by
 rcases hv.sl with rfl|⟨a,cap,rfl⟩|⟨b,off,n,cap,hn,hc,hm,rfl⟩
 ·show AE (av.val k)=_;rw[ha];rfl
 ·show AE (av.val k)=_;rw[ha];rfl
 ·have e:y9 k (jx (.slice (some ⟨b,off,none⟩) n cap)) = .lsl 0 k 0 n n 0:=if_neg (by show n≠0;omega);rw[e];show Value.slice (some ⟨gU (β.bn g) k,eG (β.bn g) k+0,none⟩) n (max n (mG (β.bn g) k-0))=_;rw[h1,h2,h3];show Value.slice (some ⟨b,off+0,none⟩) n (max n (cap-0))=_;rw[Nat.add_zero,Nat.sub_zero,Nat.max_eq_right hc]
theorem DI{w:World}{kd:IntKind}{v:Value}(hv:pA w kd v){j:Nat}{c:XC}(hj:(il kd (DG w v))[j]? = some c)(β : Env)(g:Nat):w.cell? ⟨(Fq v).1,(Fq v).2.1+j,none⟩=some ((c.self g).den β):=by
 have hjl:j<jx v:=by
  have:=(List.getElem?_eq_some_iff.1 hj).1;simpa [il,DG]using this
 simp only[il,DG,List.map_map,List.getElem?_map,List.getElem?_range hjl,Option.map_some,Option.some.injEq]at hj;subst hj;obtain⟨z,hz,_⟩:=hv.num j hjl;show _=some (Value.int kd (numOf (w.cell? _)));rw[hz];rfl
theorem Iq{β : Env}{w:World}{g:Nat}{L:List (List XC)}(hlok:∀(k:Nat) (cs:List XC),L[k]? = some cs->∀c∈cs,c.iF L.length=true)(hcell:∀(k:Nat) (cs:List XC),L[k]? = some cs->∀(j:Nat) (c:XC),cs[j]? = some c->w.cell? ⟨gU (β.bn g) k,eG (β.bn g) k+j,none⟩=some ((c.self g).den β)):C1 β w g L:=fun k cs hk=>by
 refine⟨hlok k cs hk,fun hne=>?_⟩
 have hlen:0<(cs.map (·.self g)).length:=by
  rw[List.length_map];exact List.length_pos_iff.2 hne
 obtain⟨e,sz,cs',fr,h1,h2,h3,h4,h5,h6⟩:=w_ (β := β) (n:=g+1) (W:=w) (b:=gU (β.bn g) k) (lo:=eG (β.bn g) k) (vs:=cs.map (·.self g)) hlen (fun j c hj=>by
  rw[List.getElem?_map]at hj;obtain⟨d,hd,rfl⟩:=Option.map_eq_some_iff.1 hj
  exact hcell k cs hk j d hd) (fun c hc=>by
  obtain⟨d,hd,rfl⟩:=List.mem_map.1 hc
  exact XC.yu (hlok k cs hk d hd) (Nat.lt_succ_self g))
 refine⟨cs',e,fr,h1,?_⟩;rw[List.length_map,List.map_map]at h6;exact h6
end Go.Xm
namespace Go.Xm
variable [av]
variable {P:Program} {ops:Array Oper} {nt nI:Nat} {al:aL} {hs:ah} {o:Oper} {l:List Oper} {L:List aA} {K:List Ab->aL->ah->Prop} {d:Nat}
theorem vO{zs cs:List XC}{s k:Nat}{t e:TypeId}{parts:Array (Nat×Operand)}{n:Nat}{hs':ah}(hk:SK P ops nt L l ((d,.one (.slice n 0 k (.exact k)))::al) hs' fun bs=>K (⟨true,.none,[n]⟩::bs))(ho:o.op = .buildSlice t k parts:=by exact rfl)(hu:aG P t (.slice e):=by infer_instance)(hz:aI P e zs:=by infer_instance)(hse:aF P e s:=by infer_instance)(hsm:k*s<=16777216/\0<zs.length:=by exact⟨Nat.le_of_ble_eq_true rfl,Nat.le_of_ble_eq_true rfl⟩)(wn:Wn ops nt al o d:=by exact⟨rfl,rfl,rfl⟩)(hf:gv (fun i=>some (i*s,s)) (eg zs (k*s)) (parts.toList.map fun p=>(p.1,ag (rg al) p.2))=some cs:=by exact rfl)(hn:hs.length=n:=by exact n2)(hb:Nat.blt n Mem.bound=true:=by exact rfl)(hh:hs++[.cells cs e false false]=hs':=by exact n3):SK P ops nt L (o::l) al hs K:=by
 subst hn hh;refine SK.lift wn.e wn.l (fun _=>?_) hk;intro m hm;obtain⟨m',h1,h2,h3⟩:=hm.push (.cells cs e false false) (by simpa [Nat.blt_eq]using hb);refine⟨m',?_,h2,h3⟩;unfold iL;rw[wn.w];refine bT (by rw[ho];rfl) (by rw[ho];rfl) (by rw[ho];rfl) ?_;rw[ho];simp only[bU,d8,c9,hu.out,hse.out,hz.out,h1,hm.n,hf];rw[if_pos hsm]
theorem Sv{t t1 e e1:TypeId}{sz len:Nat}{a b:Operand}{zs:List XC}(i n:Nat){j:Nat}{cap:oV}(cs:List XC){vs:List XC}{et:TypeId}{opn ro:Bool}{N:Nat}{hs':ah}(hk:SK P ops nt L l ((d,.one (.slice N 0 (n+len) (.toEnd sz)))::al) hs' fun bs=>K (⟨true,.none,[i,N]⟩::bs))(ho:o.op = .call ⟨.builtin .append,#[a,b],#[t,t1]⟩:=by exact rfl)(hu:aG P t (.slice e):=by infer_instance)(hu1:aG P t1 (.slice e1):=by infer_instance)(hz:aI P e zs:=by infer_instance)(hI:TI P e sz:=by infer_instance)(wn:Wn ops nt al o d:=by exact⟨rfl,rfl,rfl⟩)(hsz:zs.length=sz/\0<sz:=by exact⟨rfl,Nat.le_of_ble_eq_true rfl⟩)(ha:ag (rg al) a=ee i n sz:=by exact rfl)(hi:hs[i]? = some (bz e cs):=by exact rfl)(hb:ag (rg al) b = .one (.slice j 0 len cap):=by exact rfl)(hj:hs[j]? = some (.cells vs et opn ro):=by exact rfl)(hl:vs.length=len*sz:=by exact rfl)(hn:cs.length=n*sz:=by exact rfl)(hm:0<len/\n+len<=2000000000:=by omega)(hN:hs.length=N:=by exact n2)(hbd:Nat.blt N Mem.bound=true:=by exact rfl)(hh:hs.set i .dead++[.cells (cs++vs) e true false]=hs':=by first|(simp only[List.set_cons_succ,List.set_cons_zero,List.cons_append,List.nil_append];exact rfl)|exact rfl):SK P ops nt L (o::l) al hs K:=
 Ss (ic hb hj hl) hk ho hu hz hI wn hsz ha hi hn hm hN hbd hh
end Go.Xm
namespace Go.Xm
variable [av]
section
variable {P:Program} {ops:Array Oper} {nt nI:Nat} {al:aL} {hs:ah} {o:Oper} {l:List Oper} {L:List aA} {K:List Ab->aL->ah->Prop} {d:Nat}
theorem Sw{t t1 e:TypeId}{sz:Nat}{a b:Operand}{zs:List XC}{i n:Nat}{cs ds:List XC}(hsrc:∀M,aV M hs->jv P t1 sz (ag (rg al) b) M=some (0,ds))(hk:SK P ops nt L l ((d,ee i n sz)::al) hs fun bs=>K (⟨true,.none,[]⟩::bs))(ho:o.op = .call ⟨.builtin .append,#[a,b],#[t,t1]⟩:=by exact rfl)(hu:aG P t (.slice e):=by infer_instance)(hz:aI P e zs:=by infer_instance)(hI:TI P e sz:=by infer_instance)(wn:Wn ops nt al o d:=by exact⟨rfl,rfl,rfl⟩)(hsz:zs.length=sz/\0<sz:=by exact⟨rfl,Nat.le_of_ble_eq_true rfl⟩)(ha:ag (rg al) a=ee i n sz:=by exact rfl)(hi:hs[i]? = some (bz e cs):=by exact rfl)(hn:cs.length=n*sz)(hm:n<=2000000000):SK P ops nt L (o::l) al hs K:=by
 obtain⟨ti,hti,rfl,hby⟩:=hI.get;obtain⟨z1,z2⟩:=hsz;have hbytes:(n+0)*ti.bytes<=140737488355328:=Nat.le_trans (Nat.mul_le_mul_left _ hby) (by omega);refine SK.lift wn.e wn.l (fun _=>?_) hk;intro M hM;refine⟨M,?_,hM,fun _ _=>rfl⟩;have hx:=hsrc M hM;unfold iL;rw[wn.w];refine bT (by rw[ho];rfl) (by rw[ho];rfl) (by rw[ho];rfl) ?_;rw[ho]
 by_cases h0:n=0
 ·subst h0;have ha':ag (rg al) a = .one .nils:=ha;simp only[bU,gA,c9,hu.out,hti,hz.out,ha',hx,List.getElem?_toArray,List.getElem?_cons_zero,List.getElem?_cons_succ];rw[if_pos ⟨z1,z2⟩];rfl
 ·have ha':ag (rg al) a = .one (.slice i 0 n (.toEnd ti.size)):=ha.trans (dp h0)
  have hne:cs≠[]:=fun e=>by
   subst e;have:=Nat.mul_pos (Nat.pos_of_ne_zero h0) z2;simp at hn;omega
  have hi':=hM.at hi;rw[bG hne]at hi';simp only[bU,gA,c9,hu.out,hti,hz.out,ha',hx,List.getElem?_toArray,List.getElem?_cons_zero,List.getElem?_cons_succ,hi'];rw[if_pos ⟨z1,z2⟩,if_pos ⟨trivial,by omega,hbytes⟩,dp h0];exact if_pos (show 0+n*ti.size<=cs.length by omega)
theorem SL{t t1 e e1:TypeId}{sz len:Nat}{a b:Operand}{zs:List XC}(i n:Nat){j:Nat}{cp cap:oV}{cs vs:List XC}{et:TypeId}{opn opn' ro:Bool}{N:Nat}{hs1 hs2:ah}(hcap:cp = .exact n\/(cp = .toEnd sz/\opn=true/\0<n))(h1:SK P ops nt L l ((d,.one (.slice N 0 (n+len) (.toEnd sz)))::al) hs1 fun bs=>K (⟨true,.none,[N]⟩::bs))(h2:SK P ops nt L l ((d,.one (.slice N 0 (n+len) (.toEnd sz)))::al) hs2 fun bs=>K (⟨true,.none,[i,N]⟩::bs))(ho:o.op = .call ⟨.builtin .append,#[a,b],#[t,t1]⟩:=by exact rfl)(hu:aG P t (.slice e):=by infer_instance)(hu1:aG P t1 (.slice e1):=by infer_instance)(hz:aI P e zs:=by infer_instance)(hI:TI P e sz:=by infer_instance)(wn:Wn ops nt al o d:=by exact⟨rfl,rfl,rfl⟩)(hsz:zs.length=sz/\0<sz:=by exact⟨rfl,Nat.le_of_ble_eq_true rfl⟩)(ha:ag (rg al) a = .one (.slice i 0 n cp):=by exact rfl)(hi:hs[i]? = some (.cells cs e opn false):=by exact rfl)(hb:ag (rg al) b = .one (.slice j 0 len cap):=by exact rfl)(hj:hs[j]? = some (.cells vs et opn' ro):=by exact rfl)(hl:vs.length=len*sz:=by exact rfl)(hn:cs.length=n*sz)(hm:0<len/\n+len<=2000000000:=by omega)(hN:hs.length=N:=by exact n2)(hbd:Nat.blt N Mem.bound=true:=by exact rfl)(hh1:hs++[.cells (cs++vs) e true false]=hs1:=by exact n3)(hh2:hs.set i .dead++[.cells (cs++vs) e true false]=hs2:=by first|(simp only[List.set_cons_succ,List.set_cons_zero,List.cons_append,List.nil_append];exact rfl)|exact rfl):SK P ops nt L (o::l) al hs K:=by
 have hsrc:∀M,aV M hs->jv P t1 sz (ag (rg al) b) M=some (len,vs):=ic (hu:=hu1) hb hj hl
 rcases hcap with rfl|⟨rfl,rfl,h0⟩
 ·subst hN hh1;obtain⟨ti,hti,rfl,hby⟩:=hI.get;obtain⟨z1,z2⟩:=hsz;have hbytes:(n+len)*ti.bytes<=140737488355328:=Nat.le_trans (Nat.mul_le_mul_left _ hby) (by omega);refine SK.lift wn.e wn.l (fun _=>?_) h1;intro M hM;obtain⟨m',p1,p2,p3⟩:=hM.push (.cells (cs++vs) e true false) (by simpa [Nat.blt_eq]using hbd);refine⟨m',?_,p2,p3⟩;unfold iL;rw[wn.w];refine bT (by rw[ho];rfl) (by rw[ho];rfl) (by rw[ho];rfl) ?_;rw[ho];have e2:0+n*ti.size<=cs.length:=by omega
  have e3:(cs.drop 0).take (n*ti.size)++vs=cs++vs:=by
   rw[List.drop_zero,List.take_of_length_le (by omega)]
  simp only[bU,gA,c9,hu.out,hti,hz.out,ha,hsrc M hM,List.getElem?_toArray,List.getElem?_cons_zero,List.getElem?_cons_succ,hM.at hi];rw[if_pos ⟨z1,z2⟩,if_neg (show¬n+len<=n by omega),if_pos ⟨by omega,hbytes⟩,if_pos e2,e3,p1,hM.n]
 ·have hpos:0<n*sz:=Nat.mul_pos h0 hsz.2;have hne:cs≠[]:=fun e=>by rw[e]at hn;simp at hn;omega
  exact Ss (cs:=cs) hsrc h2 ho hu hz hI wn hsz (ha.trans (dp (by omega)).symm) (hi.trans (congrArg some (bG hne).symm)) hn hm hN hbd hh2
theorem yc{t:TypeId}{a:Operand}{g k off:Nat}{LL:List (List XC)}{cs:List XC}{c x:XC}(hk:SK P ops nt L l ((d,.one x)::al) hs fun bs=>K (⟨false,some g,[]⟩::bs))(hL:LL[k]? = some cs)(hc:cs[off]? = some c)(hx:c.self g=x)(ho:o.op = .load t a:=by exact rfl)(ht:cA P t:=by infer_instance)(wn:Wn ops nt al o d:=by exact⟨rfl,rfl,rfl⟩)(ha:ag (rg al) a = .one (.lpt g k off):=by exact rfl)(hi:hs[g]? = some (.late LL):=by exact rfl):SK P ops nt L (o::l) al hs K:=by
 subst hx;exact SD hk hL hc ho ht wn ha hi
theorem tj{t1 e1:TypeId}[hu:aG P t1 (.slice e1)]{b:Operand}{LL:List (List XC)}{g:Nat}{c:XC}{kd:IntKind}{p:List Int}(hb:ag (rg al) b = .one c)(hc:da LL g c (il kd p) p.length)(hi:hs[g]? = some (.late LL)):∀M,aV M hs->jv P t1 1 (ag (rg al) b) M=some (p.length,il kd p):=
 Ms hu.out hb hc (by decide) hi (by rw[bH];omega) (by rw[fk (ll kd p 0),List.take_of_length_le (by rw[bH];omega)])
end
theorem da.back{L:List (List XC)}{i:Nat}{c:XC}{vs:List XC}{n:Nat}(h:da L i c vs n)(j:Nat)(τ : Nat->Nat)(hj : τ j=i):∃c0,da L j c0 vs n/\c0.aB τ = c:=by
 rcases h with⟨h0,rfl|⟨a,rfl⟩⟩|⟨k,fl,h1,rfl,h2⟩
 ·exact⟨.nils,.inl ⟨h0,.inl rfl⟩,rfl⟩
 ·exact⟨.lem a,.inl ⟨h0,.inr ⟨a,rfl⟩⟩,rfl⟩
 ·exact⟨.lsl j k 0 n fl 0,.inr ⟨k,fl,h1,rfl,h2⟩,by simp only[XC.aB,hj]⟩
theorem stM{nI:Nat}{al:aL}{hs:ah}(le:Nat.ble nI hs.length=true:=by exact rfl)(bnd:Nat.blt hs.length Mem.bound=true:=by exact rfl)(objs:aq hs.length hs:=by repeat' (first|exact aq.nil|refine aq.flat ?_|refine aq.cons (by first|(simp[aj.br,XC.ok,aJ];done)|(simp[aj.br,XC.ok,aJ, *];done)) ?_))(gS:jw hs.length al:=by repeat' (first|exact jw.nil|refine jw.flat ?_|refine jw.cons (by first|exact trivial|exact ib (Nat.le_of_ble_eq_true rfl)|exact da.ok (by assumption) (Nat.le_of_ble_eq_true rfl)|exact cG.ok ‹_› (Nat.le_of_ble_eq_true rfl)|(simp[XV.br,XC.ok,X1.ok];done)|(simp[XV.br,XC.ok,X1.ok,aJ, *];done)) ?_)):q_ nI al hs:=⟨le,bnd,objs,gS⟩
structure q9(p:Prop):Prop where
 out:p
section
variable {P:Program} {nt nI:Nat} {al:aL} {hs:ah}
theorem gJ(id:Nat){ops:Array Oper}{dr:Bool}{b:Code}{K:ch}(h:q9 (WX P nt nI (.code (.seq (.region id ops dr) b)) al hs K)):WX P nt nI (.code (.seq (.region id ops dr) b)) al hs K:=h.out
theorem mT(id:Nat){ops:Array Oper}{dr:Bool}{x b:Code}{K:ch}(h:q9 (WX P nt nI (.code (.seq (.seq (.region id ops dr) x) b)) al hs K)):WX P nt nI (.code (.seq (.seq (.region id ops dr) x) b)) al hs K:=h.out
theorem zI(id:Nat){ops:Array Oper}{dr:Bool}{K:ch}(h:q9 (WX P nt nI (.code (.region id ops dr)) al hs K)):WX P nt nI (.code (.region id ops dr)) al hs K:=h.out
end
def nr(L:List (List XC))(cs:List XC)(ps:List (List Int)):Prop:=
 cs.length=ps.length/\∀i,i<ps.length->da L 0 (cs.getD i .nils) (il .u8 (ps.getD i [])) (ps.getD i []).length
structure sC where
 lost:Bool
 c:XC
instance:Inhabited sC:=⟨⟨false,.nils⟩⟩
def i4(f:sC):List XC:=[.bool f.lost,f.c]
instance:zb i4 2:=⟨fun _=>rfl,by decide⟩
structure Fa where
 lost:Bool
 mask:List Int
instance:Inhabited Fa:=⟨⟨false,[]⟩⟩
def kZ(L:List (List XC))(l:List sC)(fs:List Fa):Prop:=
 l.length=fs.length/\∀i,i<fs.length->(l.getD i default).lost=(fs.getD i default).lost/\da L 0 (l.getD i default).c (il .u8 (fs.getD i default).mask) (fs.getD i default).mask.length
theorem Hu{L:List (List XC)}{cs:List XC}{ps:List (List Int)}(h:nr L cs ps){i:Nat}(hi:i<ps.length)(g:Nat):∃c x,cs[i]? = some c/\c.self g=x/\da L g x (il .u8 (ps.getD i [])) (ps.getD i []).length:=by
 have hi2:i<cs.length:=by rw[h.1];exact hi
 refine⟨cs.getD i .nils,_,?_,rfl,(h.2 i hi).self g⟩;rw[List.getD_eq_getElem?_getD,List.getElem?_eq_getElem hi2];rfl
theorem HT{L:List (List XC)}{l:List sC}{fs:List Fa}(h:kZ L l fs){i:Nat}(hi:i<fs.length)(g:Nat):∃x,i<l.length/\(i4 (l.getD i default)).map (·.self g) = [.bool (fs.getD i default).lost,x]/\da L g x (il .u8 (fs.getD i default).mask) (fs.getD i default).mask.length:=by
 have hi2:i<l.length:=by rw[h.1];exact hi
 obtain⟨h1,h2⟩:=h.2 i hi;refine⟨_,hi2,?_,h2.self g⟩;rw[<-h1];rfl
end Go.Xm
namespace Go.Proofs.YthdciapjllppjaaGreat
open Go.Xm
variable [av]
theorem Pu(b:BitVec 8):IntKind.u8.wrap (b.toNat:Int)=(b.toNat:Int):=by
 have:=b.isLt;simp[IntKind.wrap,IntKind.bits,IntKind.signed];omega
theorem QD(x y:Int):m9 .u8 x y=((BitVec.ofInt 8 x ^^^ BitVec.ofInt 8 y).toNat:Int):=Pu _
theorem Fg(x y:Int):0<=m9 .u8 x y/\m9 .u8 x y<256:=by
 rw[QD];have:=(BitVec.ofInt 8 x ^^^ BitVec.ofInt 8 y).isLt;omega
def rG(b m:List Int):Nat->List Int
 | 0=>b
 | k+1=>if 21+k<b.length then(rG b m k).set (21+k) (m9 .u8 ((rG b m k).getD (21+k) 0) (m.getD k 0))else rG b m k
def yd(b m:List Int):List Int:=rG b m m.length
theorem oA(b m:List Int):∀k,(rG b m k).length=b.length
 | 0=>rfl
 | k+1=>by
   rw[rG];split
   ·rw[List.length_set,oA b m k]
   ·exact oA b m k
theorem s_(b m:List Int):∀k i,(rG b m k).getD i 0=if 21<=i/\i<21+k/\i<b.length then m9 .u8 (b.getD i 0) (m.getD (i-21) 0)else b.getD i 0
 | 0,i=>by rw[if_neg (by omega)];rfl
 | k + 1,i=>by
   rw[rG]
   by_cases hk:21+k<b.length
   ·rw[if_pos hk]
    by_cases hi:i=21+k
    ·subst hi;rw[if_pos (by omega),List.getD_eq_getElem?_getD,List.getElem?_set_self (by rw[oA];exact hk),Option.getD_some,s_ b m k (21+k),if_neg (by omega),Nat.add_sub_cancel_left]
    ·rw[List.getD_eq_getElem?_getD,List.getElem?_set_ne (fun e=>hi e.symm),<-List.getD_eq_getElem?_getD,s_ b m k i]
     by_cases h:21<=i/\i<21+k/\i<b.length
     ·rw[if_pos h,if_pos (by omega)]
     ·rw[if_neg h,if_neg (by omega)]
   ·rw[if_neg hk,s_ b m k i]
    by_cases h:21<=i/\i<21+k/\i<b.length
    ·rw[if_pos h,if_pos (by omega)]
    ·rw[if_neg h,if_neg (by omega)]
theorem z9{b:List Int}(hb:aW b)(m:List Int)(k:Nat):aW (rG b m k):=fun i=>by
 rw[s_];split
 ·exact Fg _ _
 ·exact hb i
def Hc(fs:List Fa)(i:Nat)(p:List Int):List Int:=
 if 0<i/\i-1<fs.length then(if(fs.getD (i-1) default).lost=true then []else yd p (fs.getD (i-1) default).mask)else p
def vN(ps:List (List Int))(fs:List Fa):Nat->List Int
 | 0=>[]
 | i+1=>vN ps fs i++Hc fs i (ps.getD i [])
def KU(ps:List (List Int))(fs:List Fa):List Int:=vN ps fs ps.length
def M7(ps:List (List Int)):Nat->List Int
 | 0=>[]
 | i+1=>M7 ps i++ps.getD i []
theorem mO:aI prog 69 [.bool false,.nils]:=inferInstance
def m7(m:List Int):Nat->Bool
 | 0=>false
 | k+1=>m7 m k||decide (m.getD k 0≠0)
def iJ(f:Fa)(size:Int):Bool:=f.lost||m7 f.mask (min f.mask.length size.toNat)
theorem C8{m:List Int}:∀{a b:Nat},a<=b->m7 m a=true->m7 m b=true
 | a,0,h,ha=>by obtain rfl:a=0:=by omega
                exact ha
 | a,b+1,h,ha=>by
   rw[m7]
   by_cases e:a=b+1
   ·subst e;rw[m7]at ha;exact ha
   ·rw[C8 (show a<=b by omega) ha];rfl
theorem AR{L:List (List XC)}{f:Fa}{c:XC}(hc:da L 0 c (il .u8 f.mask) f.mask.length)(size:Int)(hm:f.mask.length<=1000000000) :
 bm prog 25 [.agg [.bool f.lost,c],.one (.int .i64 size)] [.late L] (.one (.bool (iJ f size))) [.late L]:=by
 obtain⟨r,hr⟩:∃r,iJ f size=r:=⟨_,rfl⟩
 rw[hr];unfold iJ at hr
 obtain⟨b,hb⟩:∃b,f.lost=b:=⟨_,rfl⟩
 rw[hb]at hr ⊢
 have hq:∃q:Nat,q=min f.mask.length size.toNat:=⟨_,rfl⟩
 obtain⟨q,hq⟩:=hq;rw[<-hq]at hr;refine cO Tryz.func25 ?_
 cases b with
 | true=>
   repeat' (first|refine zz ?_|refine zx (fun _=>?_) (fun _=>?_)|fail)
   show aE _ _ _ _ _ _ _ _;refine kV [0] ?_;rw[<-hr];rfl
 | false=>
   rw[Bool.false_or]at hr;subst hr
   repeat' (first
    |(refine qz ?_;first
     |refine lX ?_
     |refine Tx (q:=q) (fun c' hc'=>?_))
    |refine zz ?_|refine zx (fun _=>?_) (fun _=>?_)|fail)
   have hok:=hc'.ok (show 0<1 by decide);refine WX.bQ (σ:=Nat) (fun k=>[(17,.one c'),(18,.one (.int .i64 (q:Nat))),(19,.one (.int .i64 (k:Nat)))]) (fun k=>[.late L]) (fun k=>k<=q/\m7 f.mask k=false) (fun k=>q-k) 0 ⟨Nat.zero_le _,rfl⟩ (fun k _=>stM) (bq [0] (reg:=by(repeat' (first|exact ae.nil|refine ae.ia rfl (by assumption) rfl ?_|refine rz ?_|refine ae.sl rfl (by assumption) rfl ?_));first|done|fail)) ?_;intro k ⟨hk,ha⟩ ih
   by_cases hlt:k<q
   ·have hlt2:k<f.mask.length:=by omega
    repeat' (first
     |(refine qz ?_;first
      |refine rC (fun kk hkk=>?_)
      |refine yb ?_ (by assumption) hlt2)
     |refine zz ?_|refine zx (fun _=>?_) (fun _=>?_)|fail)
    ·rename_i h1;have e:m7 f.mask (k+1)=true:=by rw[m7,decide_eq_true h1,Bool.or_true]
     rw[C8 (show k+1<=q by omega) e];show aE _ _ _ _ _ _ _ _;refine kV [0] ?_;rfl
    ·rename_i h1;exact ih (k+1) _ _ _ (bq [0] (reg:=by(repeat' (first|exact ae.nil|refine ae.ia rfl (by assumption) rfl ?_|refine rz ?_|refine ae.sl rfl (by assumption) rfl ?_));first|done|fail)) ⟨by omega,by rw[m7,ha,decide_eq_false h1];rfl⟩ (by omega)
   ·obtain rfl:k=q:=by omega
    rw[ha]
    repeat' (first|refine zz ?_|refine zx (fun _=>?_) (fun _=>?_)|fail)
    show aE _ _ _ _ _ _ _ _;refine kV [0] ?_;rfl
theorem gF{L:List (List XC)}{f:Fa}{HS:ah}{i:Nat}{c:XC}(hc:da L i c (il .u8 f.mask) f.mask.length){size:Int}(hm:f.mask.length<=1000000000){b r:Bool}(hb:f.lost=b)(hr:iJ f size=r)(hi:HS[i]? = some (.late L))(hbd:Nat.blt HS.length Mem.bound=true) :
 aA.Sound prog ⟨25,[.agg [.bool b,c],.one (.int .i64 size)],HS,.one (.bool r),HS,[]⟩:=by
 subst hb hr;obtain⟨c0,h0,rfl⟩:=hc.back 0 (nth [i]) rfl;refine fV [i] (AR h0 size hm) (by simp) (.flat hi .nil) (.flat .nil) (.cons ?_ (.flat .nil)) (.cons rfl (.flat .nil)) trivial rfl hbd rfl;intro x hx;simp only[List.mem_cons,List.not_mem_nil,or_false]at hx
 rcases hx with rfl|rfl
 ·trivial
 ·exact h0.ok (Nat.lt_succ_self 0)
def oS(ps:List (List Int)):Nat->List Int
 | 0=>[]
 | k+1=>if k=0 then []else oS ps k++[max ((((ps.getD k []).length:Nat):Int)-21) 0]
theorem j_(ps:List (List Int)):∀k,(oS ps k).length=k-1
 | 0=>rfl
 | k+1=>by
   rw[oS];split
   ·subst_vars;rfl
   ·rw[List.length_append,j_ ps k,List.length_singleton];omega
theorem F1{L:List (List XC)}{cs:List XC}{ps:List (List Int)}(hb:nr L cs ps){c:XC}(hc:da L 0 c cs ps.length)(hn:ps.length<=1000000)(hpl:∀i,(ps.getD i []).length<=1000000000) :
 bm prog 20 [.one c] [.late L] (ee 1 (ps.length-1) 1) [.late L,bz 3 (il .i64 (oS ps ps.length))]:=by
 have hok:c.ok 2:=hc.ok (by decide);have hok1:c.ok 1:=hc.ok (by decide);refine cO Tryz.func20 ?_
 repeat' (first
  |(refine qz ?_;first
   |refine lX ?_)
  |refine zz ?_|refine zx (fun _=>?_) (fun _=>?_)|fail)
 refine WX.cj rfl ?_;refine WX.bQ (σ:=Nat) (fun k=>[(6,.one c),(7,.one (.int .i64 (ps.length:Nat))),(3,ee 1 (k-1) 1),(8,.one (.int .i64 (k:Nat)))]) (fun k=>[.late L,bz 3 (il .i64 (oS ps k))]) (fun k=>k<=ps.length) (fun k=>ps.length-k) 0 (Nat.zero_le _) (fun k _=>stM) (bq [0,1] (reg:=by(repeat' (first|exact ae.nil|refine ae.ia rfl (by assumption) rfl ?_|refine rz ?_|refine ae.sl rfl (by assumption) rfl ?_));first|done|fail)) ?_;intro k hk ih;have hsl:=j_ ps k
 by_cases hlt:k<ps.length
 ·obtain⟨y,x,h1,h2,h3⟩:=Hu hb hlt 0;have hpk:=hpl k
  obtain⟨p,hp⟩:∃p,ps.getD k []=p:=⟨_,rfl⟩
  rw[hp]at h3 hpk;have hs1:oS ps (k+1)=if k=0 then []else oS ps k++[max (((p.length:Nat):Int)-21) 0]:=by rw[oS,hp]
  by_cases hk0:k=0
  ·rw[if_pos hk0]at hs1;subst hk0
   repeat' (first
    |(refine qz ?_;first
     |refine lX ?_
     |refine rC (fun kk hkk=>?_)
     |refine yc ?_ (by assumption) h1 h2)
    |refine zz ?_|refine zx (fun _=>?_) (fun _=>?_)|fail)
   exact ih (0+1) _ _ _ (bq [0,1] (obj:=by(repeat' (first|exact af.nil|refine af.flat (by rw[hs1];rfl) ?_|refine oz ?_));first|done|fail) (reg:=by(repeat' (first|exact ae.nil|refine ae.ia rfl (by assumption) rfl ?_|refine rz ?_|refine ae.sl rfl (by assumption) rfl ?_));first|done|fail)) (by omega) (by omega)
  ·rw[if_neg hk0]at hs1
   repeat' (first
    |(refine qz ?_;first
     |refine lX ?_
     |refine rC (fun kk hkk=>?_)
     |refine yc ?_ (by assumption) h1 h2)
    |refine zz ?_|refine zx (fun _=>?_) (fun _=>?_)|fail)
   exact ih (k+1) _ _ _ (bq [0,3] (obj:=by(repeat' (first|exact af.nil|refine af.flat (by rw[hs1];rfl) ?_|refine oz ?_));first|done|fail) (reg:=by(repeat' (first|exact ae.nil|refine ae.ia rfl (by assumption) rfl ?_|refine ae.flat (by rw[show k+1-1=k-1+1 by omega];rfl) ?_|refine rz ?_|refine ae.sl rfl (by assumption) rfl ?_));first|done|fail)) (by omega) (by omega)
 ·obtain rfl:k=ps.length:=by omega
  repeat' (first
   |(refine qz ?_;first
    |refine lX ?_)
   |refine zz ?_|refine zx (fun _=>?_) (fun _=>?_)|fail)
  show aE _ _ _ _ _ _ _ _;refine kV [0,1] ?_;rw[dz];rfl
theorem Jt{L:List (List XC)}{cs:List XC}{ps:List (List Int)}(hb:nr L cs ps){c:XC}{i n:Nat}(hc:da L i c cs n)(hpn:ps.length=n)(hn:ps.length<=1000000)(hpl:∀i,(ps.getD i []).length<=1000000000){HS:ah}(hi:HS[i]? = some (.late L)){N:Nat}(hN:HS.length=N){HS':ah}(hh:HS++[bz 3 (il .i64 (oS ps ps.length))]=HS')(hbd:Nat.blt HS'.length Mem.bound=true) :
 aA.Sound prog ⟨20,[.one c],HS,ee N (n-1) 1,HS',[i]⟩:=by
 subst hpn hN;obtain⟨c0,h0,rfl⟩:=hc.back 0 (nth [i]) rfl;refine bp [i] [i] 1 (F1 hb h0 hn hpl) (by simp) (.flat hi .nil) (.flat .nil) (.flat (.flat .nil)) rfl (.cons (h0.ok (Nat.lt_succ_self 0)) .nil) (.cons rfl .nil) (ib (Nat.le_of_ble_eq_true rfl)) (dz ..) (.flat (.flat .nil)) ?_ rfl (by simp only[bC];rw[aC hi];exact hh) hbd (.inl rfl);cases il .i64 (oS ps ps.length)<;>simp[fM,aj.live,aj.own,bz]
end Go.Proofs.YthdciapjllppjaaGreat
