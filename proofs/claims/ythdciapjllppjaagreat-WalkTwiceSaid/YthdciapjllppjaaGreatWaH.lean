/-
  A part of the proof: Places.
-/
import Derived.Test.YthdciapjllppjaaGreatWaG
set_option maxRecDepth 10000
set_option maxHeartbeats 8000000
set_option linter.unusedVariables false
set_option linter.unusedSectionVars false
set_option linter.unusedSimpArgs false
open Go.Proofs.Tryz (prog)
namespace Go.Proofs.YthdciapjllppjaaGreat
open Go.Xm
def TU(o:Int):List Int:=
 if o=0 then [0,1,8,16,9,2,3,10,17,24,32,25,18,11,4,5,12,19,26,33,40,48,41,34,27,20,13,6,7,14,21,28,35,42,49,56,57,50,43,36,29,22,15,23,30,37,44,51,58,59,52,45,38,31,39,46,53,60,61,54,47,55,62,63]
 else if o=1 then [0,1,8,2,9,3,10,4,11,5,12,6,13,7,14,15,16,17,24,18,25,19,26,20,27,21,28,22,29,23,30,31,32,33,40,34,41,35,42,36,43,37,44,38,45,39,46,47,48,49,56,50,57,51,58,52,59,53,60,54,61,55,62,63]
 else [0,8,1,16,9,24,17,32,25,40,33,48,41,56,49,57,2,10,3,18,11,26,19,34,27,42,35,50,43,58,51,59,4,12,5,20,13,28,21,36,29,44,37,52,45,60,53,61,6,14,7,22,15,30,23,38,31,46,39,54,47,62,55,63]
def Bo(o:Int)(i:Nat):Int:=(TU o).getD i 0
def nc(o:Int):xJ:=⟨144,[.one (.int .u8 o)],.agg (ti .i64 64 (Bo o))⟩
theorem OH:((pv wZ prog 100000 60).call (nc 0).f (nc 0).args Mem.empty).map (·.1)=some (nc 0).v:=by kernel_rfl
theorem OI:((pv wZ prog 100000 60).call (nc 1).f (nc 1).args Mem.empty).map (·.1)=some (nc 1).v:=by kernel_rfl
theorem OJ:((pv wZ prog 100000 60).call (nc 2).f (nc 2).args Mem.empty).map (·.1)=some (nc 2).v:=by kernel_rfl
theorem IS:∀i:Fin 64,0<=Bo 0 i.val/\Bo 0 i.val<64:=by decide +kernel
theorem IT:∀i:Fin 64,0<=Bo 1 i.val/\Bo 1 i.val<64:=by decide +kernel
theorem IU:∀i:Fin 64,0<=Bo 2 i.val/\Bo 2 i.val<64:=by decide +kernel
theorem DN{o:Int}(h:o=0\/o=1\/o=2){i:Nat}(hi:i<64):0<=Bo o i/\Bo o i<64:=by
 rcases h with rfl|rfl|rfl
 ·exact IS ⟨i,hi⟩
 ·exact IT ⟨i,hi⟩
 ·exact IU ⟨i,hi⟩
variable [ak]
theorem je(k:IntKind)(n:Nat)(f:Nat->Int):(ti k n f).all XC.shut=true:=by simp[ti,XC.shut]
instance So (k:IntKind) (n:Nat) (f:Nat->Int):bZ (.agg (ti k n f)):=eI (je k n f)
theorem Ce{o:Int}(h:o=0\/o=1\/o=2):bq prog 144 [.one (.int .u8 o)] [] (.agg (ti .i64 64 (Bo o))) []:=by
 rcases h with rfl|rfl|rfl
 ·exact my (mB (r:=nc 0) (RR (jw _) mixed OH (by kernel_rfl)))
 ·exact my (mB (r:=nc 1) (RR (jw _) mixed OI (by kernel_rfl)))
 ·exact my (mB (r:=nc 2) (RR (jw _) mixed OJ (by kernel_rfl)))
theorem Fv{o:Int}(h:o=0\/o=1\/o=2){HS:ah}(hb:Nat.blt HS.length Mem.bound=true):az.Sound prog ⟨144,[.one (.int .u8 o)],HS,.agg (ti .i64 64 (Bo o)),HS,[]⟩:=
 ay (Ce h) rfl (je _ _ _) hb
end Go.Proofs.YthdciapjllppjaaGreat
