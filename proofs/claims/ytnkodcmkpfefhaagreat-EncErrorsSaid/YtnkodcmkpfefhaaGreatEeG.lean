/-
  A part of the proof: Places.
-/
import Derived.Test.YtnkodcmkpfefhaaGreatEeF
set_option maxRecDepth 10000
set_option maxHeartbeats 8000000
set_option linter.unusedVariables false
set_option linter.unusedSectionVars false
set_option linter.unusedSimpArgs false
namespace Go.Proofs.YtnkodcmkpfefhaaGreat
open Go.Xm
def NR(o:Int):List Int:=
 if o=0 then [0,1,8,16,9,2,3,10,17,24,32,25,18,11,4,5,12,19,26,33,40,48,41,34,27,20,13,6,7,14,21,28,35,42,49,56,57,50,43,36,29,22,15,23,30,37,44,51,58,59,52,45,38,31,39,46,53,60,61,54,47,55,62,63]
 else if o=1 then [0,1,8,2,9,3,10,4,11,5,12,6,13,7,14,15,16,17,24,18,25,19,26,20,27,21,28,22,29,23,30,31,32,33,40,34,41,35,42,36,43,37,44,38,45,39,46,47,48,49,56,50,57,51,58,52,59,53,60,54,61,55,62,63]
 else [0,8,1,16,9,24,17,32,25,40,33,48,41,56,49,57,2,10,3,18,11,26,19,34,27,42,35,50,43,58,51,59,4,12,5,20,13,28,21,36,29,44,37,52,45,60,53,61,6,14,7,22,15,30,23,38,31,46,39,54,47,62,55,63]
def yT(o:Int)(i:Nat):Int:=(NR o).getD i 0
def lJ(o:Int):uc:=⟨161,[.one (.int .u8 o)],.agg (ti .i64 64 (yT o))⟩
theorem JE:((nr tD Tryz.prog 100000 60).call (lJ 0).f (lJ 0).args Mem.empty).map (·.1)=some (lJ 0).v:=by kernel_rfl
theorem JF:((nr tD Tryz.prog 100000 60).call (lJ 1).f (lJ 1).args Mem.empty).map (·.1)=some (lJ 1).v:=by kernel_rfl
theorem JG:((nr tD Tryz.prog 100000 60).call (lJ 2).f (lJ 2).args Mem.empty).map (·.1)=some (lJ 2).v:=by kernel_rfl
theorem EW:∀i:Fin 64,0<=yT 0 i.val/\yT 0 i.val<64:=by decide +kernel
theorem EX:∀i:Fin 64,0<=yT 1 i.val/\yT 1 i.val<64:=by decide +kernel
theorem EY:∀i:Fin 64,0<=yT 2 i.val/\yT 2 i.val<64:=by decide +kernel
theorem Ap{o:Int}(h:o=0\/o=1\/o=2){i:Nat}(hi:i<64):0<=yT o i/\yT o i<64:=by
 rcases h with rfl|rfl|rfl
 ·exact EW ⟨i,hi⟩
 ·exact EX ⟨i,hi⟩
 ·exact EY ⟨i,hi⟩
variable [aw]
theorem iX(k:IntKind)(n:Nat)(f:Nat->Int):(ti k n f).all XC.shut=true:=by simp[ti,XC.shut]
instance MD (k:IntKind) (n:Nat) (f:Nat->Int):bh (.agg (ti k n f)):=ef (iX k n f)
theorem yU{o:Int}(h:o=0\/o=1\/o=2):aW Tryz.prog 161 [.one (.int .u8 o)] [] (.agg (ti .i64 64 (yT o))) []:=by
 rcases h with rfl|rfl|rfl
 ·exact kU (kY (r:=lJ 0) (L5 (iA _) mixed JE (by kernel_rfl)))
 ·exact kU (kY (r:=lJ 1) (L5 (iA _) mixed JF (by kernel_rfl)))
 ·exact kU (kY (r:=lJ 2) (L5 (iA _) mixed JG (by kernel_rfl)))
theorem B7{o:Int}(h:o=0\/o=1\/o=2){HS:ai}(hb:Nat.blt HS.length Mem.bound=true):aC.Sound Tryz.prog ⟨161,[.one (.int .u8 o)],HS,.agg (ti .i64 64 (yT o)),HS,[]⟩:=
 au (yU h) rfl (iX _ _ _) hb
end Go.Proofs.YtnkodcmkpfefhaaGreat
