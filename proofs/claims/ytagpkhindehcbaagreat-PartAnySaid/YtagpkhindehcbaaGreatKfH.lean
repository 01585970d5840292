/-
  A part of the proof: Places.
-/
import Derived.Test.YtagpkhindehcbaaGreatKfG
set_option maxRecDepth 10000
set_option maxHeartbeats 8000000
set_option linter.unusedVariables false
set_option linter.unusedSectionVars false
set_option linter.unusedSimpArgs false
namespace Go.Proofs.YtagpkhindehcbaaGreat
open Go.Xm
def SD(o:Int):List Int:=
 if o=0 then [0,1,8,16,9,2,3,10,17,24,32,25,18,11,4,5,12,19,26,33,40,48,41,34,27,20,13,6,7,14,21,28,35,42,49,56,57,50,43,36,29,22,15,23,30,37,44,51,58,59,52,45,38,31,39,46,53,60,61,54,47,55,62,63]
 else if o=1 then [0,1,8,2,9,3,10,4,11,5,12,6,13,7,14,15,16,17,24,18,25,19,26,20,27,21,28,22,29,23,30,31,32,33,40,34,41,35,42,36,43,37,44,38,45,39,46,47,48,49,56,50,57,51,58,52,59,53,60,54,61,55,62,63]
 else [0,8,1,16,9,24,17,32,25,40,33,48,41,56,49,57,2,10,3,18,11,26,19,34,27,42,35,50,43,58,51,59,4,12,5,20,13,28,21,36,29,44,37,52,45,60,53,61,6,14,7,22,15,30,23,38,31,46,39,54,47,62,55,63]
def oG(o:Int)(i:Nat):Int:=(SD o).getD i 0
def ov(o:Int):yO:=⟨97,[.one (.int .u8 o)],.agg (ti .i64 64 (oG o))⟩
theorem O0:((qB xT Tryz.prog 100000 60).call (ov 0).f (ov 0).args Mem.empty).map (·.1)=some (ov 0).v:=by kernel_rfl
theorem O1:((qB xT Tryz.prog 100000 60).call (ov 1).f (ov 1).args Mem.empty).map (·.1)=some (ov 1).v:=by kernel_rfl
theorem O2:((qB xT Tryz.prog 100000 60).call (ov 2).f (ov 2).args Mem.empty).map (·.1)=some (ov 2).v:=by kernel_rfl
theorem Jo:∀i:Fin 64,0<=oG 0 i.val/\oG 0 i.val<64:=by decide +kernel
theorem Jp:∀i:Fin 64,0<=oG 1 i.val/\oG 1 i.val<64:=by decide +kernel
theorem Jq:∀i:Fin 64,0<=oG 2 i.val/\oG 2 i.val<64:=by decide +kernel
theorem kP{o:Int}(h:o=0\/o=1\/o=2){i:Nat}(hi:i<64):0<=oG o i/\oG o i<64:=by
 rcases h with rfl|rfl|rfl
 ·exact Jo ⟨i,hi⟩
 ·exact Jp ⟨i,hi⟩
 ·exact Jq ⟨i,hi⟩
variable [ax]
theorem gX(k:IntKind)(n:Nat)(f:Nat->Int):(ti k n f).all XC.shut=true:=by simp[ti,XC.shut]
instance Rp (k:IntKind) (n:Nat) (f:Nat->Int):bE (.agg (ti k n f)):=fw (gX k n f)
theorem Di{o:Int}(h:o=0\/o=1\/o=2):bh Tryz.prog 97 [.one (.int .u8 o)] [] (.agg (ti .i64 64 (oG o))) []:=by
 rcases h with rfl|rfl|rfl
 ·exact nC (nJ (r:=ov 0) (Q7 (j_ _) mixed O0 (by kernel_rfl)))
 ·exact nC (nJ (r:=ov 1) (Q7 (j_ _) mixed O1 (by kernel_rfl)))
 ·exact nC (nJ (r:=ov 2) (Q7 (j_ _) mixed O2 (by kernel_rfl)))
theorem xZ{o:Int}(h:o=0\/o=1\/o=2){HS:aj}(hb:Nat.blt HS.length Mem.bound=true):aG.Sound Tryz.prog ⟨97,[.one (.int .u8 o)],HS,.agg (ti .i64 64 (oG o)),HS,[]⟩:=
 aA (Di h) rfl (gX _ _ _) hb
end Go.Proofs.YtagpkhindehcbaaGreat
