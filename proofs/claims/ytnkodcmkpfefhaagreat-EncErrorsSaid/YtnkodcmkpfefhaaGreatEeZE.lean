/-
  A part of the proof: EncV.
-/
import Derived.Test.YtnkodcmkpfefhaaGreatEeZD
set_option maxRecDepth 10000
set_option maxHeartbeats 8000000
set_option linter.unusedVariables false
set_option linter.unusedSectionVars false
set_option linter.unusedSimpArgs false
namespace Go.Proofs.YtnkodcmkpfefhaaGreat
open Go.Xm
variable [aw]
theorem vV(c:gg)(tl:List XC)(τ : Nat->Nat):(iJ c tl).map (·.ax τ)=iJ c (tl.map (·.ax τ)):=by
 unfold iJ
 rw[List.map_append]
 congr 1
abbrev HZ(K w:Nat)(qp p0:Int)(down inter:Bool):List XC := .ptr K 0::dQ 1 1 w (w+1) (w+2)++[.int .i64 qp,.int .i64 p0,.nilp,.bool down,.bool inter]
theorem Ht{c:gg}(hr:b7 c.hd)(hc1:c.hd.cols=1)(hc2:c.hd.rows=1)(hmn:1<=c.many/\c.many<=64)(htg:c.target=0)(hw:c.wave=false){qp p0:Int}(hqp:1<=qp/\qp<=31){down inter:Bool}{W F:Fr}(hW:oV W)(hF:oV F){M:Mb}{S2:bO}(hM:dp c.hd 1 1 F 0 qp qp oE=M)(hS2:i7 c.hd 1 1 F 0 qp qp oE=S2)(hT:fS c.hd ⟨0,false,false,qp⟩ [M] 0){a b:List Int}(hp:qi c.hd ⟨0,false,false,qp⟩ [M] 0 = .inr (a,b)){G:Fr}(hG:gE 1 1 0 (gD c.hd 1 1 W 0 M false) (jW 128) 6=G){HS:ai}{K e w i j k:Nat}(hS:(HS.drop K).take 13=gn K)(h0:HS[e]? = some (.cells (iJ c (HZ K w qp p0 down inter)) 89 false false))(h1:HS[w]? = some (yO 1 1 W))(h2:HS[w+1]? = some (uO 1 1 W))(h3:HS[w+2]? = some (vO 1 1 W))(h4:HS[i]? = some (yO 1 1 F))(h5:HS[j]? = some (uO 1 1 F))(h6:HS[k]? = some (vO 1 1 F))(nd:(rA K [e,w,w+1,w+2,i,j,k]).Nodup){N:Nat}(hN:HS.length=N){HS':ai}(hh:bQ HS (rA K [e,w,w+1,w+2,i,j,k]) (gn K++(.cells (iJ c (vU 1 1 K w (w+1) (w+2) N qp 0 false false)) 89 false false::yO 1 1 W::uO 1 1 W::vO 1 1 W::yO 1 1 F::uO 1 1 F::vO 1 1 F::qm S2 N :: .map (aj S2.A) :: .map (aj S2.B) :: .map (aj S2.C) :: .cells (Iw (N+5)) 59 true false::dG 68 (fl mC [M])::yO 1 1 G::uO 1 1 G::vO 1 1 G::[]))=HS')(hbd:Nat.blt HS'.length Mem.bound=true) :
 aC.Sound Tryz.prog ⟨33,[.one (.ptr e 0),.one (.int .i64 0),.agg (dQ 1 1 i j k)],HS,.tup [.agg (Jx qp (N+4)),.agg (dQ 1 1 (N+6) (N+7) (N+8)),.one (.int .i64 0)],HS',rA K [e,w,w+1,w+2,i,j,k]⟩:=by
 subst hN
 have e0:∀q,q<13->nth (rA K [e,w,w+1,w+2,i,j,k]) q=K+q:=wJ K _
 have e0':∀q,q<13->nth (rA K [e,w,w+1,w+2,i,j,k]++List.range' HS.length 9) q=K+q:=wJ K (e::w::(w+1)::(w+2)::i::j::k::List.range' HS.length 9)
 refine ca _ _ 9 (ET (p0:=p0) hr hc1 hc2 hmn htg hw hqp down inter hW hF hM hS2 hT hp hG) nd ?_ ?_ ?_ rfl ?_ ?_ ?_ ?_ ?_ ?_ rfl hh hbd (.inl rfl)
 ·exact Ag hS e0 (.cons (by rw[h0];simp only[ah.ax];rw[vV];rfl) (.flat h1 (.flat h2 (.flat h3 (.flat h4 (.flat h5 (.flat h6 .nil)))))))
 ·refine nD (by show 13<=20;omega) (.cons (GP fun x hx=>?_) (.flat (.flat (.flat (.flat (.flat (.flat .nil)))))))
  simp only[Nk,dQ,nU,List.cons_append,List.nil_append,List.mem_cons,List.not_mem_nil,or_false]at hx
  rcases hx with rfl|rfl|rfl|rfl|rfl|rfl|rfl|rfl|rfl|rfl|rfl|rfl|rfl|rfl|rfl|rfl|rfl
  all_goals first
   | trivial
   | (show 0<20;omega)
   | (show 14<20;omega)
   | (show 15<20;omega)
   | (show 16<20;omega)
 ·show ay 29 (oZ c 1 1 qp 0 false false (yO 1 1 W) (uO 1 1 W) (vO 1 1 W) F S2 [.cells (Iw 25) 59 true false,dG 68 (fl mC [M]),yO 1 1 G,uO 1 1 G,vO 1 1 G])
  exact nB (n:=29) (by omega) (.cons (by
   intro x hx
   simp only[List.mem_cons,List.not_mem_nil,or_false]at hx
   rcases hx with rfl|rfl
   ·trivial
   ·show 25<29;omega) (.flat (.flat (.flat (.flat .nil)))))
 ·exact .cons (by show 13<20;omega) (.flat (.cons (bI (e:=0) (a:=true) (b:=true) (by show 17<20;omega) (by show 18<20;omega) (by show 19<20;omega)) .nil))
 ·exact .cons rfl (.flat (.cons rfl .nil))
 ·exact EU qp
 ·rfl
 ·exact uA e0' (.cons (by simp only[ah.ax];rw[vV];rfl) (.flat (.flat (.flat (.flat (.flat (.flat (.cons rfl (.flat (.flat (.flat (.cons rfl (.flat (.flat (.flat (.flat .nil))))))))))))))))
 ·have hx:∀x:ah,(x.live||!x.live||x.own)=true:=fun x=>by cases x.live<;>rfl
  simp only[Jy,fe,List.cons_append,List.nil_append,eV,hx,Bool.true_and,Bool.and_true]
  rfl
end Go.Proofs.YtnkodcmkpfefhaaGreat
