/-
  A part of the proof: Places.
-/
import Derived.Test.YthdciapjllppjaaGreatWbG
set_option maxRecDepth 10000
set_option maxHeartbeats 8000000
set_option linter.unusedVariables false
set_option linter.unusedSectionVars false
set_option linter.unusedSimpArgs false
open Go.Proofs.Tryz (prog)
namespace Go.Proofs.YthdciapjllppjaaGreat
open Go.Xm
def Ug(o:Int):List Int:=
 if o=0 then [0,1,8,16,9,2,3,10,17,24,32,25,18,11,4,5,12,19,26,33,40,48,41,34,27,20,13,6,7,14,21,28,35,42,49,56,57,50,43,36,29,22,15,23,30,37,44,51,58,59,52,45,38,31,39,46,53,60,61,54,47,55,62,63]
 else if o=1 then [0,1,8,2,9,3,10,4,11,5,12,6,13,7,14,15,16,17,24,18,25,19,26,20,27,21,28,22,29,23,30,31,32,33,40,34,41,35,42,36,43,37,44,38,45,39,46,47,48,49,56,50,57,51,58,52,59,53,60,54,61,55,62,63]
 else [0,8,1,16,9,24,17,32,25,40,33,48,41,56,49,57,2,10,3,18,11,26,19,34,27,42,35,50,43,58,51,59,4,12,5,20,13,28,21,36,29,44,37,52,45,60,53,61,6,14,7,22,15,30,23,38,31,46,39,54,47,62,55,63]
def BJ(o:Int)(i:Nat):Int:=(Ug o).getD i 0
def nw(o:Int):x4:=⟨144,[.one (.int .u8 o)],.agg (ti .i64 64 (BJ o))⟩
theorem O5:((pH xl prog 100000 60).call (nw 0).f (nw 0).args Mem.empty).map (·.1)=some (nw 0).v:=by kernel_rfl
theorem O6:((pH xl prog 100000 60).call (nw 1).f (nw 1).args Mem.empty).map (·.1)=some (nw 1).v:=by kernel_rfl
theorem O7:((pH xl prog 100000 60).call (nw 2).f (nw 2).args Mem.empty).map (·.1)=some (nw 2).v:=by kernel_rfl
theorem Jd:∀i:Fin 64,0<=BJ 0 i.val/\BJ 0 i.val<64:=by decide +kernel
theorem Je:∀i:Fin 64,0<=BJ 1 i.val/\BJ 1 i.val<64:=by decide +kernel
theorem Jf:∀i:Fin 64,0<=BJ 2 i.val/\BJ 2 i.val<64:=by decide +kernel
theorem D9{o:Int}(h:o=0\/o=1\/o=2){i:Nat}(hi:i<64):0<=BJ o i/\BJ o i<64:=by
 rcases h with rfl|rfl|rfl
 ·exact Jd ⟨i,hi⟩
 ·exact Je ⟨i,hi⟩
 ·exact Jf ⟨i,hi⟩
variable [aq]
theorem jg(k:IntKind)(n:Nat)(f:Nat->Int):(ti k n f).all XC.shut=true:=by simp[ti,XC.shut]
instance SN (k:IntKind) (n:Nat) (f:Nat->Int):b8 (.agg (ti k n f)):=eL (jg k n f)
theorem CA{o:Int}(h:o=0\/o=1\/o=2):bt prog 144 [.one (.int .u8 o)] [] (.agg (ti .i64 64 (BJ o))) []:=by
 rcases h with rfl|rfl|rfl
 ·exact mH (mL (r:=nw 0) (R_ (jy _) mixed O5 (by kernel_rfl)))
 ·exact mH (mL (r:=nw 1) (R_ (jy _) mixed O6 (by kernel_rfl)))
 ·exact mH (mL (r:=nw 2) (R_ (jy _) mixed O7 (by kernel_rfl)))
theorem FU{o:Int}(h:o=0\/o=1\/o=2){HS:aj}(hb:Nat.blt HS.length Mem.bound=true):aA.Sound prog ⟨144,[.one (.int .u8 o)],HS,.agg (ti .i64 64 (BJ o)),HS,[]⟩:=
 az (CA h) rfl (jg _ _ _) hb
end Go.Proofs.YthdciapjllppjaaGreat
