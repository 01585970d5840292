/-
  A part of the proof: Facts, Small, Flt.
-/
import Derived.Test.YtnkodcmkpfefhaaGreatEeE
import Derived.KernelRfl
import Derived.Test.YtnkodcmkpfefhaaGreatProg
set_option maxRecDepth 10000
set_option maxHeartbeats 8000000
set_option linter.unusedVariables false
set_option linter.unusedSectionVars false
set_option linter.unusedSimpArgs false
namespace Go.Proofs.YtnkodcmkpfefhaaGreat
open Go.Xm
instance:aZ Tryz.prog 3 (.int .i64):=⟨Tryz.underlying3⟩
instance:aO Tryz.prog 3 1:=⟨by kernel_rfl⟩
instance:dE Tryz.prog 3:=⟨by kernel_rfl⟩
instance:aZ Tryz.prog 4 (.bool):=⟨Tryz.underlying4⟩
instance:aO Tryz.prog 4 1:=⟨by kernel_rfl⟩
instance:dE Tryz.prog 4:=⟨by kernel_rfl⟩
instance:aZ Tryz.prog 5 (.int .u8):=⟨Tryz.underlying5⟩
instance:aO Tryz.prog 5 1:=⟨by kernel_rfl⟩
instance:TI Tryz.prog 5 1:=⟨by kernel_rfl⟩
instance:dE Tryz.prog 5:=⟨by kernel_rfl⟩
instance:aX Tryz.prog 5 ([.int .u8 0]):=⟨by kernel_rfl⟩
instance:aZ Tryz.prog 9 (.string):=⟨Tryz.underlying9⟩
instance:aZ Tryz.prog 22 (.array 64 5):=⟨Tryz.underlying22⟩
instance:aO Tryz.prog 22 64:=⟨by kernel_rfl⟩
instance:cn Tryz.prog 24 [(0,1),(1,64),(65,64)]:=⟨_,Tryz.underlying24,by kernel_rfl⟩
instance:aO Tryz.prog 24 129:=⟨by kernel_rfl⟩
instance:c9 Tryz.prog 24:=⟨by kernel_rfl⟩
instance:aX Tryz.prog 24 ([.bool false]++(ti .u8 64 fun _=>0)++(ti .u8 64 fun _=>0)):=⟨by kernel_rfl⟩
instance:bP Tryz.prog 24 0 4 0:=⟨by kernel_rfl⟩
instance:bP Tryz.prog 24 1 22 1:=⟨by kernel_rfl⟩
instance:bP Tryz.prog 24 2 22 65:=⟨by kernel_rfl⟩
instance:cn Tryz.prog 26 [(0,1),(1,1),(2,129)]:=⟨_,Tryz.underlying26,by kernel_rfl⟩
instance:aO Tryz.prog 26 131:=⟨by kernel_rfl⟩
instance:c9 Tryz.prog 26:=⟨by kernel_rfl⟩
instance:aX Tryz.prog 26 ([.int .i64 0,.int .i64 0,.bool false]++(ti .u8 64 fun _=>0)++(ti .u8 64 fun _=>0)):=⟨by kernel_rfl⟩
instance:bP Tryz.prog 26 0 3 0:=⟨by kernel_rfl⟩
instance:bP Tryz.prog 26 1 3 1:=⟨by kernel_rfl⟩
instance:bP Tryz.prog 26 2 24 2:=⟨by kernel_rfl⟩
instance:cn Tryz.prog 28 [(0,131),(131,1),(132,1),(133,1),(134,1),(135,1),(136,1),(137,1),(138,1)]:=⟨_,Tryz.underlying28,by kernel_rfl⟩
instance:aO Tryz.prog 28 139:=⟨by kernel_rfl⟩
instance:c9 Tryz.prog 28:=⟨by kernel_rfl⟩
instance:aX Tryz.prog 28 ([.int .i64 0,.int .i64 0,.bool false]++(ti .u8 64 fun _=>0)++(ti .u8 64 fun _=>0)++[.int .i64 0,.int .i64 0,.int .i64 0,.bool false,.bool false,.bool false,.int .i64 0,.int .i64 0]):=⟨by kernel_rfl⟩
instance:bP Tryz.prog 28 0 26 0:=⟨by kernel_rfl⟩
instance:bP Tryz.prog 28 1 3 131:=⟨by kernel_rfl⟩
instance:bP Tryz.prog 28 2 3 132:=⟨by kernel_rfl⟩
instance:bP Tryz.prog 28 3 3 133:=⟨by kernel_rfl⟩
instance:bP Tryz.prog 28 4 4 134:=⟨by kernel_rfl⟩
instance:bP Tryz.prog 28 5 4 135:=⟨by kernel_rfl⟩
instance:bP Tryz.prog 28 6 4 136:=⟨by kernel_rfl⟩
instance:bP Tryz.prog 28 7 3 137:=⟨by kernel_rfl⟩
instance:bP Tryz.prog 28 8 3 138:=⟨by kernel_rfl⟩
instance:aZ Tryz.prog 29 (.slice 83):=⟨Tryz.underlying29⟩
instance:aZ Tryz.prog 34 (.slice 56):=⟨Tryz.underlying34⟩
instance:aO Tryz.prog 34 1:=⟨by kernel_rfl⟩
instance:dE Tryz.prog 34:=⟨by kernel_rfl⟩
instance:cn Tryz.prog 36 [(0,131),(131,1)]:=⟨_,Tryz.underlying36,by kernel_rfl⟩
instance:aO Tryz.prog 36 132:=⟨by kernel_rfl⟩
instance:c9 Tryz.prog 36:=⟨by kernel_rfl⟩
instance:aX Tryz.prog 36 ([.int .i64 0,.int .i64 0,.bool false]++(ti .u8 64 fun _=>0)++(ti .u8 64 fun _=>0)++[.nils]):=⟨by kernel_rfl⟩
instance:bP Tryz.prog 36 1 34 131:=⟨by kernel_rfl⟩
instance:aZ Tryz.prog 37 (.slice 44):=⟨Tryz.underlying37⟩
instance:aZ Tryz.prog 40 (.slice 5):=⟨Tryz.underlying40⟩
instance:aO Tryz.prog 40 1:=⟨by kernel_rfl⟩
instance:dE Tryz.prog 40:=⟨by kernel_rfl⟩
instance:cn Tryz.prog 42 [(0,1),(1,1),(2,1)]:=⟨_,Tryz.underlying42,by kernel_rfl⟩
instance:aO Tryz.prog 42 3:=⟨by kernel_rfl⟩
instance:c9 Tryz.prog 42:=⟨by kernel_rfl⟩
instance:aX Tryz.prog 42 ([.int .i64 0,.int .i64 0,.nils]):=⟨by kernel_rfl⟩
instance:bP Tryz.prog 42 0 3 0:=⟨by kernel_rfl⟩
instance:bP Tryz.prog 42 1 3 1:=⟨by kernel_rfl⟩
instance:bP Tryz.prog 42 2 40 2:=⟨by kernel_rfl⟩
instance:cn Tryz.prog 44 [(0,1),(1,1),(2,3),(5,3),(8,3)]:=⟨_,Tryz.underlying44,by kernel_rfl⟩
instance:aO Tryz.prog 44 11:=⟨by kernel_rfl⟩
instance:TI Tryz.prog 44 11:=⟨by kernel_rfl⟩
instance:c9 Tryz.prog 44:=⟨by kernel_rfl⟩
instance:aX Tryz.prog 44 ([.int .i64 0,.int .i64 0,.int .i64 0,.int .i64 0,.nils,.int .i64 0,.int .i64 0,.nils,.int .i64 0,.int .i64 0,.nils]):=⟨by kernel_rfl⟩
instance:bP Tryz.prog 44 0 3 0:=⟨by kernel_rfl⟩
instance:bP Tryz.prog 44 1 3 1:=⟨by kernel_rfl⟩
instance:bP Tryz.prog 44 2 42 2:=⟨by kernel_rfl⟩
instance:bP Tryz.prog 44 3 42 5:=⟨by kernel_rfl⟩
instance:bP Tryz.prog 44 4 42 8:=⟨by kernel_rfl⟩
instance:cn Tryz.prog 53 [(0,1),(1,1),(2,1),(3,1)]:=⟨_,Tryz.underlying53,by kernel_rfl⟩
instance:aO Tryz.prog 53 4:=⟨by kernel_rfl⟩
instance:c9 Tryz.prog 53:=⟨by kernel_rfl⟩
instance:aX Tryz.prog 53 ([.int .i64 0,.bool false,.bool false,.int .i64 0]):=⟨by kernel_rfl⟩
instance:bP Tryz.prog 53 0 3 0:=⟨by kernel_rfl⟩
instance:bP Tryz.prog 53 1 4 1:=⟨by kernel_rfl⟩
instance:bP Tryz.prog 53 2 4 2:=⟨by kernel_rfl⟩
instance:bP Tryz.prog 53 3 3 3:=⟨by kernel_rfl⟩
instance:aZ Tryz.prog 54 (.slice 59):=⟨Tryz.underlying54⟩
instance:aO Tryz.prog 54 1:=⟨by kernel_rfl⟩
instance:dE Tryz.prog 54:=⟨by kernel_rfl⟩
instance:cn Tryz.prog 56 [(0,4),(4,1)]:=⟨_,Tryz.underlying56,by kernel_rfl⟩
instance:aO Tryz.prog 56 5:=⟨by kernel_rfl⟩
instance:TI Tryz.prog 56 5:=⟨by kernel_rfl⟩
instance:c9 Tryz.prog 56:=⟨by kernel_rfl⟩
instance:aX Tryz.prog 56 ([.int .i64 0,.bool false,.bool false,.int .i64 0,.nils]):=⟨by kernel_rfl⟩
instance:bP Tryz.prog 56 0 53 0:=⟨by kernel_rfl⟩
instance:bP Tryz.prog 56 1 54 4:=⟨by kernel_rfl⟩
instance:aZ Tryz.prog 57 (.slice 68):=⟨Tryz.underlying57⟩
instance:aO Tryz.prog 57 1:=⟨by kernel_rfl⟩
instance:dE Tryz.prog 57:=⟨by kernel_rfl⟩
instance:cn Tryz.prog 59 [(0,1),(1,1)]:=⟨_,Tryz.underlying59,by kernel_rfl⟩
instance:aO Tryz.prog 59 2:=⟨by kernel_rfl⟩
instance:TI Tryz.prog 59 2:=⟨by kernel_rfl⟩
instance:c9 Tryz.prog 59:=⟨by kernel_rfl⟩
instance:aX Tryz.prog 59 ([.int .i64 0,.nils]):=⟨by kernel_rfl⟩
instance:bP Tryz.prog 59 1 57 1:=⟨by kernel_rfl⟩
instance:aZ Tryz.prog 61 (.int .u8):=⟨Tryz.underlying61⟩
instance:aO Tryz.prog 61 1:=⟨by kernel_rfl⟩
instance:dE Tryz.prog 61:=⟨by kernel_rfl⟩
instance:aO Tryz.prog 62 1:=⟨by kernel_rfl⟩
instance:TI Tryz.prog 62 1:=⟨by kernel_rfl⟩
instance:dE Tryz.prog 62:=⟨by kernel_rfl⟩
instance:aX Tryz.prog 62 ([.cplx .f64 0 0]):=⟨by kernel_rfl⟩
instance:aZ Tryz.prog 63 (.array 4 62):=⟨Tryz.underlying63⟩
instance:aO Tryz.prog 63 4:=⟨by kernel_rfl⟩
instance:c9 Tryz.prog 63:=⟨by kernel_rfl⟩
instance:aZ Tryz.prog 64 (.array 4 62):=⟨Tryz.underlying64⟩
instance:aO Tryz.prog 64 4:=⟨by kernel_rfl⟩
instance:c9 Tryz.prog 64:=⟨by kernel_rfl⟩
instance:aZ Tryz.prog 65 (.array 64 3):=⟨Tryz.underlying65⟩
instance:aO Tryz.prog 65 64:=⟨by kernel_rfl⟩
instance:c9 Tryz.prog 65:=⟨by kernel_rfl⟩
instance:aX Tryz.prog 65 ((ti .i64 64 fun _=>0)):=⟨by kernel_rfl⟩
instance:aZ Tryz.prog 66 (.array 6 65):=⟨Tryz.underlying66⟩
instance:aO Tryz.prog 66 384:=⟨by kernel_rfl⟩
instance:c9 Tryz.prog 66:=⟨by kernel_rfl⟩
instance:aX Tryz.prog 66 ((ti .i64 384 fun _=>0)):=⟨by kernel_rfl⟩
instance:cn Tryz.prog 68 [(0,1),(1,1),(2,4),(6,1),(7,384)]:=⟨_,Tryz.underlying68,by kernel_rfl⟩
instance:aO Tryz.prog 68 391:=⟨by kernel_rfl⟩
instance:TI Tryz.prog 68 391:=⟨by kernel_rfl⟩
instance:c9 Tryz.prog 68:=⟨by kernel_rfl⟩
instance:aX Tryz.prog 68 ([.int .u8 0,.int .i64 0,.cplx .f64 0 0,.cplx .f64 0 0,.cplx .f64 0 0,.cplx .f64 0 0,.bool false]++(ti .i64 384 fun _=>0)):=⟨by kernel_rfl⟩
instance:bP Tryz.prog 68 0 61 0:=⟨by kernel_rfl⟩
instance:bP Tryz.prog 68 1 3 1:=⟨by kernel_rfl⟩
instance:bP Tryz.prog 68 2 64 2:=⟨by kernel_rfl⟩
instance:bP Tryz.prog 68 3 4 6:=⟨by kernel_rfl⟩
instance:bP Tryz.prog 68 4 66 7:=⟨by kernel_rfl⟩
instance:aZ Tryz.prog 74 (.array 4 3):=⟨Tryz.underlying74⟩
instance:aO Tryz.prog 74 4:=⟨by kernel_rfl⟩
instance:c9 Tryz.prog 74:=⟨by kernel_rfl⟩
instance:aX Tryz.prog 74 ([.int .i64 0,.int .i64 0,.int .i64 0,.int .i64 0]):=⟨by kernel_rfl⟩
instance:aO Tryz.prog 83 8:=⟨by kernel_rfl⟩
instance:c9 Tryz.prog 83:=⟨by kernel_rfl⟩
instance:aX Tryz.prog 83 ([.int .u8 0,.int .u8 0,.int .u8 0,.int .u8 0,.int .u8 0,.int .u8 0,.int .u32 0,.nils]):=⟨by kernel_rfl⟩
instance:aZ Tryz.prog 85 (.pointer 112):=⟨Tryz.underlying85⟩
instance:aO Tryz.prog 85 1:=⟨by kernel_rfl⟩
instance:dE Tryz.prog 85:=⟨by kernel_rfl⟩
instance:aZ Tryz.prog 87 (.pointer 142):=⟨Tryz.underlying87⟩
instance:aO Tryz.prog 87 1:=⟨by kernel_rfl⟩
instance:dE Tryz.prog 87:=⟨by kernel_rfl⟩
instance:cn Tryz.prog 89 [(0,139),(139,1),(140,11),(151,1),(152,1),(153,1),(154,1),(155,1)]:=⟨_,Tryz.underlying89,by kernel_rfl⟩
instance:aX Tryz.prog 89 ([.int .i64 0,.int .i64 0,.bool false]++(ti .u8 64 fun _=>0)++(ti .u8 64 fun _=>0)++[.int .i64 0,.int .i64 0,.int .i64 0,.bool false,.bool false,.bool false,.int .i64 0,.int .i64 0,.nilp,.int .i64 0,.int .i64 0,.int .i64 0,.int .i64 0,.nils,.int .i64 0,.int .i64 0,.nils,.int .i64 0,.int .i64 0,.nils,.int .i64 0,.int .i64 0,.nilp,.bool false,.bool false]):=⟨by kernel_rfl⟩
instance:bP Tryz.prog 89 0 28 0:=⟨by kernel_rfl⟩
instance:bP Tryz.prog 89 1 85 139:=⟨by kernel_rfl⟩
instance:bP Tryz.prog 89 2 44 140:=⟨by kernel_rfl⟩
instance:bP Tryz.prog 89 3 3 151:=⟨by kernel_rfl⟩
instance:bP Tryz.prog 89 4 3 152:=⟨by kernel_rfl⟩
instance:bP Tryz.prog 89 5 87 153:=⟨by kernel_rfl⟩
instance:bP Tryz.prog 89 6 4 154:=⟨by kernel_rfl⟩
instance:bP Tryz.prog 89 7 4 155:=⟨by kernel_rfl⟩
instance:aZ Tryz.prog 109 (.pointer 172):=⟨Tryz.underlying109⟩
instance:aO Tryz.prog 109 1:=⟨by kernel_rfl⟩
instance:dE Tryz.prog 109:=⟨by kernel_rfl⟩
instance:bP Tryz.prog 112 0 109 0:=⟨by kernel_rfl⟩
instance:bP Tryz.prog 112 1 109 1:=⟨by kernel_rfl⟩
instance:bP Tryz.prog 112 2 109 2:=⟨by kernel_rfl⟩
instance:aZ Tryz.prog 125 (.int .u64):=⟨Tryz.underlying125⟩
instance:aZ Tryz.prog 129 (.float .f64):=⟨Tryz.underlying129⟩
instance:aZ Tryz.prog 138 (.slice 3):=⟨Tryz.underlying138⟩
instance:aO Tryz.prog 138 1:=⟨by kernel_rfl⟩
instance:dE Tryz.prog 138:=⟨by kernel_rfl⟩
instance:aZ Tryz.prog 139 (.map 3 181):=⟨Tryz.underlying139⟩
instance:aO Tryz.prog 139 1:=⟨by kernel_rfl⟩
instance:dE Tryz.prog 139:=⟨by kernel_rfl⟩
instance:aZ Tryz.prog 140 (.array 3 139):=⟨Tryz.underlying140⟩
instance:aO Tryz.prog 140 3:=⟨by kernel_rfl⟩
instance:aX Tryz.prog 140 ([.nilm,.nilm,.nilm]):=⟨by kernel_rfl⟩
instance:cn Tryz.prog 142 [(0,1),(1,1),(2,3)]:=⟨_,Tryz.underlying142,by kernel_rfl⟩
instance:aX Tryz.prog 142 ([.int .i64 0,.int .i64 0,.nilm,.nilm,.nilm]):=⟨by kernel_rfl⟩
instance:bP Tryz.prog 142 0 3 0:=⟨by kernel_rfl⟩
instance:bP Tryz.prog 142 1 3 1:=⟨by kernel_rfl⟩
instance:bP Tryz.prog 142 2 140 2:=⟨by kernel_rfl⟩
instance:cn Tryz.prog 144 [(0,1),(1,1)]:=⟨_,Tryz.underlying144,by kernel_rfl⟩
instance:aO Tryz.prog 144 2:=⟨by kernel_rfl⟩
instance:aX Tryz.prog 144 ([.int .i64 0,.int .i64 0]):=⟨by kernel_rfl⟩
instance:aZ Tryz.prog 154 (.pointer 156):=⟨Tryz.underlying154⟩
instance:cn Tryz.prog 156 [(0,1),(1,1)]:=⟨_,Tryz.underlying156,by kernel_rfl⟩
instance:aO Tryz.prog 156 2:=⟨by kernel_rfl⟩
instance:aX Tryz.prog 156 ([.nils,.int .i64 0]):=⟨by kernel_rfl⟩
instance:bP Tryz.prog 156 0 40 0:=⟨by kernel_rfl⟩
instance:bP Tryz.prog 156 1 3 1:=⟨by kernel_rfl⟩
instance:aZ Tryz.prog 157 (.pointer 216):=⟨Tryz.underlying157⟩
instance:aO Tryz.prog 157 1:=⟨by kernel_rfl⟩
instance:dE Tryz.prog 157:=⟨by kernel_rfl⟩
instance:cn Tryz.prog 159 [(0,1),(1,4),(5,1),(6,1),(7,1)]:=⟨_,Tryz.underlying159,by kernel_rfl⟩
instance:aX Tryz.prog 159 ([.nilp,.int .i64 0,.bool false,.bool false,.int .i64 0,.int .i64 0,.nilp,.nilp]):=⟨by kernel_rfl⟩
instance:bP Tryz.prog 159 0 85 0:=⟨by kernel_rfl⟩
instance:bP Tryz.prog 159 1 53 1:=⟨by kernel_rfl⟩
instance:bP Tryz.prog 159 2 3 5:=⟨by kernel_rfl⟩
instance:bP Tryz.prog 159 3 157 6:=⟨by kernel_rfl⟩
instance:bP Tryz.prog 159 4 87 7:=⟨by kernel_rfl⟩
instance:aZ Tryz.prog 169 (.slice 173):=⟨Tryz.underlying169⟩
instance:aO Tryz.prog 169 1:=⟨by kernel_rfl⟩
instance:dE Tryz.prog 169:=⟨by kernel_rfl⟩
instance:bP Tryz.prog 172 0 138 0:=⟨by kernel_rfl⟩
instance:bP Tryz.prog 172 1 169 1:=⟨by kernel_rfl⟩
instance:aZ Tryz.prog 173 (.int .u64):=⟨Tryz.underlying173⟩
instance:aO Tryz.prog 173 1:=⟨by kernel_rfl⟩
instance:dE Tryz.prog 173:=⟨by kernel_rfl⟩
instance:cn Tryz.prog 181 [(0,64),(64,1)]:=⟨_,Tryz.underlying181,by kernel_rfl⟩
instance:aO Tryz.prog 181 65:=⟨by kernel_rfl⟩
instance:c9 Tryz.prog 181:=⟨by kernel_rfl⟩
instance:aX Tryz.prog 181 ((ti .i64 64 fun _=>0)++[.int .i64 0]):=⟨by kernel_rfl⟩
instance:bP Tryz.prog 181 0 65 0:=⟨by kernel_rfl⟩
instance:bP Tryz.prog 181 1 3 64:=⟨by kernel_rfl⟩
instance:aZ Tryz.prog 182 (.slice 62):=⟨Tryz.underlying182⟩
instance:aZ Tryz.prog 200 (.array 2 3):=⟨Tryz.underlying200⟩
instance:aO Tryz.prog 200 2:=⟨by kernel_rfl⟩
instance:c9 Tryz.prog 200:=⟨by kernel_rfl⟩
instance:aX Tryz.prog 200 ([.int .i64 0,.int .i64 0]):=⟨by kernel_rfl⟩
instance:aZ Tryz.prog 214 (.map 3 62):=⟨Tryz.underlying214⟩
instance:aO Tryz.prog 214 1:=⟨by kernel_rfl⟩
instance:dE Tryz.prog 214:=⟨by kernel_rfl⟩
instance:cn Tryz.prog 216 [(0,1),(1,1),(2,1)]:=⟨_,Tryz.underlying216,by kernel_rfl⟩
instance:aX Tryz.prog 216 ([.int .i64 0,.int .i64 0,.nilm]):=⟨by kernel_rfl⟩
instance:bP Tryz.prog 216 0 3 0:=⟨by kernel_rfl⟩
instance:bP Tryz.prog 216 1 3 1:=⟨by kernel_rfl⟩
instance:bP Tryz.prog 216 2 214 2:=⟨by kernel_rfl⟩
instance:aZ Tryz.prog 220 (.array 3 200):=⟨Tryz.underlying220⟩
instance:aX Tryz.prog 220 ([.int .i64 0,.int .i64 0,.int .i64 0,.int .i64 0,.int .i64 0,.int .i64 0]):=⟨by kernel_rfl⟩
instance:aZ Tryz.prog 224 (.slice 243):=⟨Tryz.underlying224⟩
instance:aO Tryz.prog 224 1:=⟨by kernel_rfl⟩
instance:dE Tryz.prog 224:=⟨by kernel_rfl⟩
instance:aZ Tryz.prog 225 (.array 6 224):=⟨Tryz.underlying225⟩
instance:aO Tryz.prog 225 6:=⟨by kernel_rfl⟩
instance:c9 Tryz.prog 225:=⟨by kernel_rfl⟩
instance:aX Tryz.prog 225 ([.nils,.nils,.nils,.nils,.nils,.nils]):=⟨by kernel_rfl⟩
instance:aZ Tryz.prog 233 (.array 8 62):=⟨Tryz.underlying233⟩
instance:aO Tryz.prog 233 8:=⟨by kernel_rfl⟩
instance:c9 Tryz.prog 233:=⟨by kernel_rfl⟩
instance:aX Tryz.prog 233 ([.cplx .f64 0 0,.cplx .f64 0 0,.cplx .f64 0 0,.cplx .f64 0 0,.cplx .f64 0 0,.cplx .f64 0 0,.cplx .f64 0 0,.cplx .f64 0 0]):=⟨by kernel_rfl⟩
instance:aZ Tryz.prog 238 (.array 8 3):=⟨Tryz.underlying238⟩
instance:aO Tryz.prog 238 8:=⟨by kernel_rfl⟩
instance:c9 Tryz.prog 238:=⟨by kernel_rfl⟩
instance:aX Tryz.prog 238 ([.int .i64 0,.int .i64 0,.int .i64 0,.int .i64 0,.int .i64 0,.int .i64 0,.int .i64 0,.int .i64 0]):=⟨by kernel_rfl⟩
instance:cn Tryz.prog 243 [(0,1),(1,1),(2,1)]:=⟨_,Tryz.underlying243,by kernel_rfl⟩
instance:aO Tryz.prog 243 3:=⟨by kernel_rfl⟩
instance:TI Tryz.prog 243 3:=⟨by kernel_rfl⟩
instance:c9 Tryz.prog 243:=⟨by kernel_rfl⟩
instance:aX Tryz.prog 243 ([.int .i64 0,.int .i64 0,.bool false]):=⟨by kernel_rfl⟩
instance:bP Tryz.prog 243 0 3 0:=⟨by kernel_rfl⟩
instance:bP Tryz.prog 243 1 3 1:=⟨by kernel_rfl⟩
instance:bP Tryz.prog 243 2 4 2:=⟨by kernel_rfl⟩
end Go.Proofs.YtnkodcmkpfefhaaGreat
namespace Go.Proofs.YtnkodcmkpfefhaaGreat
open Go.Xm
variable [aw]
def bT(x:Int):Int:=if 0<x then 2*x-1 else -2*x
def tP(n:Int):Int:=if n%2=1 then(n+1)/2 else -(n/2)
theorem y0(x:Int)(hx : -1000000<=x/\x<=1000000):aW Tryz.prog 140 [.one (.int .i64 x)] [] (.one (.int .i64 (bT x))) []:=by
 refine cO Tryz.func140 ?_
 by_cases h:0<x
 ·repeat' (first|refine zz ?_|refine zx (fun _=>?_) (fun _=>?_)|fail)
  show aD _ _ _ _ _ _ _ _;refine kV [] ?_
  rw[bT,if_pos h];rfl
 ·repeat' (first|refine zz ?_|refine zx (fun _=>?_) (fun _=>?_)|fail)
  show aD _ _ _ _ _ _ _ _;refine kV [] ?_
  rw[bT,if_neg h];rfl
theorem pt{x:Int}(hx : -1000000<=x/\x<=1000000){HS:ai}(hb:Nat.blt HS.length Mem.bound=true):aC.Sound Tryz.prog ⟨140,[.one (.int .i64 x)],HS,.one (.int .i64 (bT x)),HS,[]⟩:=
 au (y0 x hx) rfl rfl hb
end Go.Proofs.YtnkodcmkpfefhaaGreat
namespace Go.Xm
variable [aw]
variable {P:Program} {ops:Array Oper} {nt nI:Nat} {al:bc} {hs:ai} {o:Oper} {l:List Oper} {L:List aC} {K:List Ab->bc->ai->Prop} {d:Nat}
def fO(n:Int):Nat:=FloatKind.nearest .f64 n
def cI(p:Int×Int):XC := .cplx .f64 (fO p.1) (fO p.2)
def dk(n:Int):Prop := -32<=n/\n<=32
def I9:List (Int×Nat):=(List.range 65).map fun(i:Nat)=>((i:Int)-32,fO ((i:Int)-32))
def My(l:List (Int×Nat)):Bool:=l.all fun p=>l.all fun q=>FloatKind.f64.format.order p.2 q.2==some (compare p.1 q.1)
set_option maxRecDepth 100000 in
theorem G5:My I9=true:=by decide +kernel
theorem xh{n:Int}(h:dk n):(n,fO n)∈I9:=by
 unfold I9
 refine List.mem_map.2 ⟨(n+32).toNat,List.mem_range.2 (by have:=h.1;have:=h.2;omega),?_⟩
 have e:(((n+32).toNat:Nat):Int)-32=n:=by have:=h.1;omega
 rw[e]
theorem D7{x y:Int}(hx:dk x)(hy:dk y):FloatKind.f64.format.order (fO x) (fO y)=some (compare x y):=by
 have h:=G5
 have h1:=List.all_eq_true.1 h _ (xh hx)
 have h2:=List.all_eq_true.1 h1 _ (xh hy)
 simpa using h2
theorem tn{x y:Int}(hx:dk x)(hy:dk y):(FloatKind.f64.format.order (fO x) (fO y)==some .eq)=decide (x=y):=by
 rw[D7 hx hy]
 by_cases h:x=y
 ·subst h
  have:compare x x = .eq:=by simp
  rw[this];simp
 ·have:compare x y ≠ .eq:=by simpa [Int.compare_eq_eq]using h
  simp only[h,decide_false]
  cases hc:compare x y<;>first|(exact absurd hc this)|rfl
theorem G3:fO 0=0:=by decide +kernel
theorem iF:cI (0,0) = .cplx .f64 0 0:=by unfold cI;rw[G3]
theorem MN{a:Operand}{ts:Array TypeId}{k:FloatKind}{p q:Nat}(hk:SK P ops nt L l ((d,.one (.flt k p))::al) hs fun bs=>K (quiet::bs))(ho:o.op = .call ⟨.builtin .real,#[a],ts⟩:=by exact rfl)(hw:av ops (rg al) o=some true:=by exact rfl)(hd:o.dst=some d:=by exact rfl)(hlt:Nat.blt d nt=true:=by exact rfl)
 (ha:ag (rg al) a = .one (.cplx k p q):=by exact rfl):SK P ops nt L (o::l) al hs K:=gG hw hd hlt (by rw[ho];simp[ba,dW,ha]) hk
theorem MH{a:Operand}{ts:Array TypeId}{k:FloatKind}{p q:Nat}(hk:SK P ops nt L l ((d,.one (.flt k q))::al) hs fun bs=>K (quiet::bs))(ho:o.op = .call ⟨.builtin .imag,#[a],ts⟩:=by exact rfl)(hw:av ops (rg al) o=some true:=by exact rfl)(hd:o.dst=some d:=by exact rfl)(hlt:Nat.blt d nt=true:=by exact rfl)
 (ha:ag (rg al) a = .one (.cplx k p q):=by exact rfl):SK P ops nt L (o::l) al hs K:=gG hw hd hlt (by rw[ho];simp[ba,dW,ha]) hk
theorem Ms{a b:Operand}{ts:Array TypeId}{k:FloatKind}{p q:Nat}(hk:SK P ops nt L l ((d,.one (.cplx k p q))::al) hs fun bs=>K (quiet::bs))(ho:o.op = .call ⟨.builtin .complex,#[a,b],ts⟩:=by exact rfl)(hw:av ops (rg al) o=some true:=by exact rfl)(hd:o.dst=some d:=by exact rfl)(hlt:Nat.blt d nt=true:=by exact rfl)
 (ha:ag (rg al) a = .one (.flt k p):=by exact rfl) (hb:ag (rg al) b = .one (.flt k q):=by exact rfl):SK P ops nt L (o::l) al hs K:=gG hw hd hlt (by rw[ho];simp[ba,dW,ha,hb]) hk
theorem Mr{s t:TypeId}{y:Operand}{u:TypeDesc}{k:IntKind}{x:Int}(hk:SK P ops nt L l ((d,.one (.flt .f64 (fO x)))::al) hs fun bs=>K (quiet::bs))(ho:o.op = .convert s t y:=by exact rfl)(hw:av ops (rg al) o=some true:=by exact rfl)(hd:o.dst=some d:=by exact rfl)(hlt:Nat.blt d nt=true:=by exact rfl)
 (hy:ag (rg al) y = .one (.int k x):=by exact rfl) (h1:aZ P s u:=by infer_instance) (h2:aZ P t (.float .f64):=by infer_instance):SK P ops nt L (o::l) al hs K:=gG hw hd hlt (by rw[ho];simp only[ba,jn,hy,h1.out,h2.out];rfl) hk
theorem Mo{t t':TypeId}{a b:Operand}{x y:Int×Int}(h1:x=y->SK P ops nt L l ((d,.one (.bool true))::al) hs fun bs=>K (quiet::bs))(h2:x≠y->SK P ops nt L l ((d,.one (.bool false))::al) hs fun bs=>K (quiet::bs))(hx:dk x.1/\dk x.2)(hy:dk y.1/\dk y.2)(ho:o.op = .binOp .eql t a b t':=by exact rfl)(hw:av ops (rg al) o=some true:=by exact rfl)(hd:o.dst=some d:=by exact rfl)(hlt:Nat.blt d nt=true:=by exact rfl)
 (ha:ag (rg al) a = .one (cI x):=by exact rfl) (hb:ag (rg al) b = .one (cI y):=by exact rfl):SK P ops nt L (o::l) al hs K:=by
 obtain⟨x1,x2⟩:=x
 obtain⟨y1,y2⟩:=y
 have key:ba P (ag (rg al)) o.op=some (.one (.bool (decide (x1=y1)&&decide (x2=y2)))):=by
  rw[ho]
  simp only[ba,ha,hb,cI,qn,sn,if_true,tn hx.1 hy.1,tn hx.2 hy.2,Option.map_some]
 refine gG hw hd hlt key ?_
 by_cases h:x1=y1/\x2=y2
 ·simp only[h.1,h.2,decide_true,Bool.and_self]
  exact h1 (by rw[h.1,h.2])
 ·have:(decide (x1=y1)&&decide (x2=y2))=false:=by
   simp only[Bool.and_eq_false_iff,decide_eq_false_iff_not]
   rcases Classical.em (x1=y1)with h3|h3
   ·exact .inr fun h4=>h ⟨h3,h4⟩
   ·exact .inl h3
  rw[this]
  exact h2 fun e=>h (by cases e;exact⟨rfl,rfl⟩)
theorem Da{t t':TypeId}{a b:Operand}{x y:Int×Int}(h1:x≠y->SK P ops nt L l ((d,.one (.bool true))::al) hs fun bs=>K (quiet::bs))(h2:x=y->SK P ops nt L l ((d,.one (.bool false))::al) hs fun bs=>K (quiet::bs))(hx:dk x.1/\dk x.2)(hy:dk y.1/\dk y.2){cb:XC}(hcb:cb=cI y)(ho:o.op = .binOp .neq t a b t':=by exact rfl)(hw:av ops (rg al) o=some true:=by exact rfl)(hd:o.dst=some d:=by exact rfl)(hlt:Nat.blt d nt=true:=by exact rfl)
 (ha:ag (rg al) a = .one (cI x):=by exact rfl) (hb:ag (rg al) b = .one cb:=by exact rfl):SK P ops nt L (o::l) al hs K:=by
 obtain⟨x1,x2⟩:=x
 obtain⟨y1,y2⟩:=y
 subst hcb
 have key:ba P (ag (rg al)) o.op=some (.one (.bool (!(decide (x1=y1)&&decide (x2=y2))))):=by
  rw[ho]
  simp only[ba,ha,hb,cI,qn,sn,if_true,tn hx.1 hy.1,tn hx.2 hy.2,Option.map_some]
 refine gG hw hd hlt key ?_
 by_cases h:x1=y1/\x2=y2
 ·simp only[h.1,h.2,decide_true,Bool.and_self,Bool.not_true]
  exact h2 (by rw[h.1,h.2])
 ·have:(decide (x1=y1)&&decide (x2=y2))=false:=by
   simp only[Bool.and_eq_false_iff,decide_eq_false_iff_not]
   rcases Classical.em (x1=y1)with h3|h3
   ·exact .inr fun h4=>h ⟨h3,h4⟩
   ·exact .inl h3
  rw[this,Bool.not_false]
  exact h1 fun e=>h (by cases e;exact⟨rfl,rfl⟩)
end Go.Xm
namespace Go.Proofs.YtnkodcmkpfefhaaGreat
open Go.Xm
theorem mixed:Tryz.prog.follows .mixedOrders=true:=by kernel_rfl
def l9(i:Nat):uc:=⟨68,[.one (.flt .f64 (fO ((i:Int)-32)))],.one (.int .i64 ((i:Int)-32))⟩
noncomputable def DL:Bool:=(List.range 65).all fun i=>decide (((nr tD Tryz.prog 1000 10).call (l9 i).f (l9 i).args Mem.empty).map (·.1)=some (l9 i).v)
theorem vL:DL=true:=by kernel_rfl
variable [aw]
theorem CY(n:Int)(h:dk n):aW Tryz.prog 68 [.one (.flt .f64 (fO n))] [] (.one (.int .i64 n)) []:=by
 have e:(((n+32).toNat:Nat):Int)-32=n:=by have:=h.1;omega
 have h1:=List.all_eq_true.1 vL (n+32).toNat (List.mem_range.2 (by have:=h.1;have:=h.2;omega))
 have h2:=of_decide_eq_true h1
 have:=kU (kY (r:=l9 (n+32).toNat) (L5 (iA _) mixed h2 rfl))
 unfold l9 at this
 rw[e]at this
 exact this
theorem xn{n:Int}(h:dk n){HS:ai}(hb:Nat.blt HS.length Mem.bound=true):aC.Sound Tryz.prog ⟨68,[.one (.flt .f64 (fO n))],HS,.one (.int .i64 n),HS,[]⟩:=
 au (CY n h) rfl rfl hb
theorem n8{a b:Int}(ha:dk a)(hb:dk b){HS:ai}:Compat ⟨68,[.one (.flt .f64 (fO a))],HS,.one (.int .i64 a),HS,[]⟩ ⟨68,[.one (.flt .f64 (fO b))],HS,.one (.int .i64 b),HS,[]⟩:=fun _ h _=>by
 simp only[List.cons.injEq,XV.one.injEq,XC.flt.injEq,true_and,and_true]at h
 have h1:=tn ha ha
 have h2:=tn ha hb
 rw[<-h,h1]at h2
 have:a=b:=by simpa using h2
 subst this
 exact⟨rfl,rfl,rfl⟩
theorem B3(p:Int×Int)(h:dk p.1/\dk p.2):aW Tryz.prog 45 [.one (cI p)] [] (.tup [.one (.int .i64 p.1),.one (.int .i64 p.2)]) []:=by
 refine cO Tryz.func45 ?_
 repeat' (first
  |(refine qz ?_;first
   |refine MN ?_
   |refine MH ?_
   |refine cl ?_ (hi:=by exact xn h.1 rfl)
   |refine cl ?_ (hi:=by exact xn h.2 rfl))
  |refine zz ?_|refine zx (fun _=>?_) (fun _=>?_)|refine aS (by first|exact af.nil|exact af.one _|exact af.i3 (by repeat' (first|exact True.intro|refine And.intro ?_ ?_|exact Compat.ne rfl|exact n8 h.2 h.1))) ⟨by kernel_rfl,?_⟩|refine aS (by first|exact af.nil|exact af.one _|exact af.i3 (by repeat' (first|exact True.intro|refine And.intro ?_ ?_|exact Compat.ne rfl|exact n8 h.2 h.1))) ?_|fail)
 show aD _ _ _ _ _ _ _ _;refine kV [] ?_
 rfl
theorem fJ{p:Int×Int}(h:dk p.1/\dk p.2){HS:ai}(hb:Nat.blt HS.length Mem.bound=true):aC.Sound Tryz.prog ⟨45,[.one (cI p)],HS,.tup [.one (.int .i64 p.1),.one (.int .i64 p.2)],HS,[]⟩:=
 au (B3 p h) rfl rfl hb
theorem Ju(x y:Int):aW Tryz.prog 132 [.one (.int .i64 x),.one (.int .i64 y)] [] (.one (cI (x,y))) []:=by
 refine cO Tryz.func132 ?_
 repeat' (first
  |(refine qz ?_;first
   |refine Mr ?_
   |refine Ms ?_)
  |refine zz ?_|refine zx (fun _=>?_) (fun _=>?_)|fail)
 show aD _ _ _ _ _ _ _ _;refine kV [] ?_
 rfl
theorem wL{x y:Int}{HS:ai}(hb:Nat.blt HS.length Mem.bound=true):aC.Sound Tryz.prog ⟨132,[.one (.int .i64 x),.one (.int .i64 y)],HS,.one (cI (x,y)),HS,[]⟩:=
 au (Ju x y) rfl rfl hb
def gI(n:Int):Int:=(n+32)%64-32
theorem lA(n:Int) : -32<=gI n/\gI n<=31:=by unfold gI;omega
theorem F7(n:Int)(h : -1000000<=n/\n<=1000000):aW Tryz.prog 141 [.one (.int .i64 n)] [] (.one (.int .i64 (gI n))) []:=by
 refine cO Tryz.func141 ?_
 have h1:=Int.emod_nonneg (n+32) (show(2:Int)^6≠0 by decide)
 have h2:(n+32)%(2:Int)^6<64:=Int.emod_lt_of_pos (n+32) (show(0:Int)<2^6 by decide)
 have h3:=Int.emod_nonneg ((n+32)%2^6+64) (show(2:Int)^6≠0 by decide)
 have h4:((n+32)%2^6+64)%(2:Int)^6<64:=Int.emod_lt_of_pos _ (show(0:Int)<2^6 by decide)
 repeat' (first
  |(refine qz ?_;first
   |refine an (n:=6) ?_)
  |refine zz ?_|refine zx (fun _=>?_) (fun _=>?_)|fail)
 show aD _ _ _ _ _ _ _ _;refine kV [] ?_
 have:((n+32)%2^6+64)%(2:Int)^6-32=gI n:=by
  unfold gI
  show((n+32)%64+64)%64-32=_
  omega
 rw[<-this];rfl
theorem H9{n:Int}(h : -1000000<=n/\n<=1000000){HS:ai}(hb:Nat.blt HS.length Mem.bound=true):aC.Sound Tryz.prog ⟨141,[.one (.int .i64 n)],HS,.one (.int .i64 (gI n)),HS,[]⟩:=
 au (F7 n h) rfl rfl hb
def iL(p:Int×Int):Bool:=decide (-31<=p.1/\p.1<=31 /\ -31<=p.2/\p.2<=31)
theorem Cp(p:Int×Int)(h:dk p.1/\dk p.2):aW Tryz.prog 118 [.one (cI p)] [] (.one (.bool (iL p))) []:=by
 have hx1:=h.1.1
 have hx2:=h.1.2
 have hy1:=h.2.1
 have hy2:=h.2.2
 refine cO Tryz.func118 ?_
 by_cases ha : -31<=p.1/\p.1<=31
 ·by_cases hb : -31<=p.2/\p.2<=31
  ·have e:iL p=true:=decide_eq_true ⟨ha.1,ha.2,hb⟩
   rw[e]
   repeat' (first
    |(refine qz ?_;first
     |refine cl ?_ (hi:=by exact fJ h rfl)
     |refine cl ?_ (hi:=by exact wL rfl)
     |refine Mo (x:=(p.1,p.2)) (y:=p) (fun _=>?_) (fun hn=>absurd rfl hn) h h)
    |refine zz ?_|refine zx (fun _=>?_) (fun _=>?_)|fail)
   show aD _ _ _ _ _ _ _ _;refine kV [] ?_
   rfl
  ·have e:iL p=false:=decide_eq_false fun hh=>hb hh.2.2
   rw[e]
   repeat' (first
    |(refine qz ?_;first
     |refine cl ?_ (hi:=by exact fJ h rfl)
     |refine cl ?_ (hi:=by exact wL rfl)
     |refine Mo (x:=(p.1,p.2)) (y:=p) (fun _=>?_) (fun hn=>absurd rfl hn) h h)
    |refine zz ?_|refine zx (fun _=>?_) (fun _=>?_)|fail)
   show aD _ _ _ _ _ _ _ _;refine kV [] ?_
   rfl
 ·have e:iL p=false:=decide_eq_false fun hh=>ha ⟨hh.1,hh.2.1⟩
  rw[e]
  repeat' (first
   |(refine qz ?_;first
    |refine cl ?_ (hi:=by exact fJ h rfl)
    |refine cl ?_ (hi:=by exact wL rfl)
    |refine Mo (x:=(p.1,p.2)) (y:=p) (fun _=>?_) (fun hn=>absurd rfl hn) h h)
   |refine zz ?_|refine zx (fun _=>?_) (fun _=>?_)|fail)
  show aD _ _ _ _ _ _ _ _;refine kV [] ?_
  rfl
theorem dT{p:Int×Int}(h:dk p.1/\dk p.2){HS:ai}(hb:Nat.blt HS.length Mem.bound=true):aC.Sound Tryz.prog ⟨118,[.one (cI p)],HS,.one (.bool (iL p)),HS,[]⟩:=
 au (Cp p h) rfl rfl hb
def wH(a b c:Int):Int:=max (min a b) (min (max a b) c)
theorem Hn(a b c:Int):aW Tryz.prog 160 [.one (.int .i64 a),.one (.int .i64 b),.one (.int .i64 c)] [] (.one (.int .i64 (wH a b c))) []:=by
 refine cO Tryz.func160 ?_
 repeat' (first
  |(refine qz ?_;first
   |refine L3 ?_
   |refine Nh ?_)
  |refine zz ?_|refine zx (fun _=>?_) (fun _=>?_)|fail)
 show aD _ _ _ _ _ _ _ _;refine kV [] ?_
 rfl
theorem Jq{a b c:Int}{HS:ai}(hb:Nat.blt HS.length Mem.bound=true):aC.Sound Tryz.prog ⟨160,[.one (.int .i64 a),.one (.int .i64 b),.one (.int .i64 c)],HS,.one (.int .i64 (wH a b c)),HS,[]⟩:=
 au (Hn a b c) rfl rfl hb
theorem ra{a b c a' b' c':Int}{HS:ai}:Compat ⟨160,[.one (.int .i64 a),.one (.int .i64 b),.one (.int .i64 c)],HS,.one (.int .i64 (wH a b c)),HS,[]⟩ ⟨160,[.one (.int .i64 a'),.one (.int .i64 b'),.one (.int .i64 c')],HS,.one (.int .i64 (wH a' b' c')),HS,[]⟩:=fun _ h _=>by
 simp only[List.cons.injEq,XV.one.injEq,XC.int.injEq,true_and,and_true]at h
 obtain⟨rfl,rfl,rfl⟩:=h
 exact⟨rfl,rfl,rfl⟩
def Jp(a b c:Int×Int):Int×Int:=(wH a.1 b.1 c.1,wH a.2 b.2 c.2)
def bH(p:Int×Int):Prop:=dk p.1/\dk p.2
theorem tx{a b c:Int}(ha:dk a)(hb:dk b)(hc:dk c):dk (wH a b c):=by
 unfold wH dk at *
 omega
theorem yM(a b c:Int×Int)(ha:bH a)(hb:bH b)(hc:bH c):aW Tryz.prog 144 [.one (cI a),.one (cI b),.one (cI c)] [] (.one (cI (Jp a b c))) []:=by
 refine cO Tryz.func144 ?_
 repeat' (first
  |(refine qz ?_;first
   |refine cl ?_ (hi:=by exact fJ ha rfl)
   |refine cl ?_ (hi:=by exact fJ hb rfl)
   |refine cl ?_ (hi:=by exact fJ hc rfl)
   |refine cl ?_ (hi:=by exact Jq rfl)
   |refine cl ?_ (hi:=by exact wL rfl))
  |refine zz ?_|refine zx (fun _=>?_) (fun _=>?_)|refine aS (by first|exact af.nil|exact af.one _|exact af.i3 (by repeat' (first|exact True.intro|refine And.intro ?_ ?_|exact Compat.ne rfl|exact ra))) ⟨by kernel_rfl,?_⟩|refine aS (by first|exact af.nil|exact af.one _|exact af.i3 (by repeat' (first|exact True.intro|refine And.intro ?_ ?_|exact Compat.ne rfl|exact ra))) ?_|fail)
 show aD _ _ _ _ _ _ _ _;refine kV [] ?_
 rfl
theorem f8{a b c:Int×Int}(ha:bH a)(hb:bH b)(hc:bH c){HS:ai}(hbd:Nat.blt HS.length Mem.bound=true):aC.Sound Tryz.prog ⟨144,[.one (cI a),.one (cI b),.one (cI c)],HS,.one (cI (Jp a b c)),HS,[]⟩:=
 au (yM a b c ha hb hc) rfl rfl hbd
def vt(v:Nat->Int×Int):List XC:=[cI (v 0),cI (v 1),cI (v 2),cI (v 3)]
end Go.Proofs.YtnkodcmkpfefhaaGreat
