/-
  A part of the proof: Modes.
-/
import Derived.Test.YthdciapjllppjaaGreatWbN
set_option maxRecDepth 10000
set_option maxHeartbeats 8000000
set_option linter.unusedVariables false
set_option linter.unusedSectionVars false
set_option linter.unusedSimpArgs false
open Go.Proofs.Tryz (prog)
namespace Go.Proofs.YthdciapjllppjaaGreat
open Go.Xm
variable [aq]
structure Mb where
 kind:Int
 qp:Int
 v:Nat->Int×Int
 edge:Bool
 lev:Nat->Int
def mC(m:Mb):List XC := .int .u8 m.kind :: .int .i64 m.qp::c7 (m.v 0)::c7 (m.v 1)::c7 (m.v 2)::c7 (m.v 3) :: .bool m.edge::ti .i64 384 m.lev
theorem bn(m:Mb):(mC m).length=391:=by simp[mC,aU]
theorem IL(m:Mb):((mC m).drop 7).take 384=ti .i64 384 m.lev:=by
 show(ti .i64 384 m.lev).take 384=_;rw[List.take_of_length_le (by rw[aU];omega)]
theorem jY(m:Mb):(mC m).all XC.shut=true:=by
 simp[mC,ti,XC.shut,c7]
instance:nH mC 391:=⟨bn,jY,by decide⟩
instance SJ (m:Mb):b8 (.agg (mC m)):=eL (jY m)
structure jT(m:Mb):Prop where
 kind:0<=m.kind/\m.kind<=255
 qp : -1000000<=m.qp/\m.qp<=1000000
 v:∀k,bM (m.v k)
 lev:∀i,-1000000<=m.lev i/\m.lev i<=1000000
def alone(m:Mb):Bool:=decide (m.kind=3\/m.kind=4)
abbrev OQ(m:Mb):ak := .cells (mC m) 107 false false
theorem E1(m:Mb):bt prog 42 [.agg (mC m)] [] (.one (.bool (alone m))) []:=by
 refine cO Tryz.func42 ?_
 by_cases h3:m.kind=3
 ·have e:alone m=true:=decide_eq_true (.inl h3);rw[e]
  repeat' (first|refine zz ?_|refine zx (fun _=>?_) (fun _=>?_)|fail)
  show aE _ _ _ _ _ _ _ _;refine kV [] ?_;rfl
 ·by_cases h4:m.kind=4
  ·have e:alone m=true:=decide_eq_true (.inr h4);rw[e]
   repeat' (first|refine zz ?_|refine zx (fun _=>?_) (fun _=>?_)|fail)
   show aE _ _ _ _ _ _ _ _;refine kV [] ?_;rfl
  ·have e:alone m=false:=decide_eq_false fun h=>h.elim h3 h4
   rw[e]
   repeat' (first|refine zz ?_|refine zx (fun _=>?_) (fun _=>?_)|fail)
   show aE _ _ _ _ _ _ _ _;refine kV [] ?_;rfl
theorem tV{m:Mb}{HS:aj}(hb:Nat.blt HS.length Mem.bound=true):aA.Sound prog ⟨42,[.agg (mC m)],HS,.one (.bool (alone m)),HS,[]⟩:=
 az (E1 m) (by simp only[List.all_cons,List.all_nil,Bool.and_true];exact jY m) rfl hb
theorem Gt:bt prog 53 [] [] (.agg [.int .i64 (-2),.int .i64 (-1),.int .i64 1,.int .i64 2]) []:=by
 refine cO Tryz.func53 ?_
 repeat' (first|refine zz ?_|refine zx (fun _=>?_) (fun _=>?_)|fail)
 show aE _ _ _ _ _ _ _ _;refine kV [] ?_;rfl
theorem vw{HS:aj}(hb:Nat.blt HS.length Mem.bound=true):aA.Sound prog ⟨53,[],HS,.agg [.int .i64 (-2),.int .i64 (-1),.int .i64 1,.int .i64 2],HS,[]⟩:=
 az Gt rfl rfl hb
def eF(was qp:Int):Int×Bool:=if qp<1\/31<qp then(0,false)else if was-2=qp then(0,true)else if was-1=qp then(1,true)else if was+1=qp then(2,true)else if was+2=qp then(3,true)else(0,false)
theorem JT(was qp:Int)(h1 : -1000000<=was/\was<=1000000)(h2 : -1000000<=qp/\qp<=1000000):bt prog 85 [.one (.int .i64 was),.one (.int .i64 qp)] [] (.tup [.one (.int .i64 (eF was qp).1),.one (.bool (eF was qp).2)]) []:=by
 refine cO Tryz.func85 ?_
 repeat' (first
  |(refine qz ?_;first
   |refine cl ?_ (hi:=by exact vw rfl)
   |refine KV ?_)
  |refine WX.loop ?_|refine WX.round ?_|refine zz ?_|refine zx (fun _=>?_) (fun _=>?_)|fail)
 all_goals
  show aE _ _ _ _ _ _ _ _;refine kV [] ?_
  first
   | (rw[show eF was qp=(0,true) by unfold eF;(repeat' split)<;>first|rfl|(exfalso;omega)];rfl)
   | (rw[show eF was qp=(1,true) by unfold eF;(repeat' split)<;>first|rfl|(exfalso;omega)];rfl)
   | (rw[show eF was qp=(2,true) by unfold eF;(repeat' split)<;>first|rfl|(exfalso;omega)];rfl)
   | (rw[show eF was qp=(3,true) by unfold eF;(repeat' split)<;>first|rfl|(exfalso;omega)];rfl)
   | (rw[show eF was qp=(0,false) by unfold eF;(repeat' split)<;>first|rfl|(exfalso;omega)];rfl)
theorem yR{was qp:Int}(h1 : -1000000<=was/\was<=1000000)(h2 : -1000000<=qp/\qp<=1000000){HS:aj}(hb:Nat.blt HS.length Mem.bound=true):aA.Sound prog ⟨85,[.one (.int .i64 was),.one (.int .i64 qp)],HS,.tup [.one (.int .i64 (eF was qp).1),.one (.bool (eF was qp).2)],HS,[]⟩:=
 az (JT was qp h1 h2) rfl rfl hb
def sL(m:Mb)(k:Nat):Prop:=fj (m.v k)=true/\(m.kind≠2->m.v k=m.v 0)/\(m.kind≠1->m.kind≠2->m.v k=(0,0))
instance (m:Mb) (k:Nat):Decidable (sL m k):=by unfold sL;infer_instance
def fW(m:Mb):Int:=if sL m 0/\sL m 1/\sL m 2/\sL m 3 then 0 else 14
theorem Kc(m:Mb)(hm:jT m):bt prog 86 [.agg (mC m)] [] (.one (.int .i64 (fW m))) []:=by
 have w0:=hm.v 0;have w1:=hm.v 1;have w2:=hm.v 2;have w3:=hm.v 3
 have z0:bM (0,0):=⟨⟨by decide,by decide⟩,⟨by decide,by decide⟩⟩
 by_cases hk2:m.kind=2
 ·refine cO Tryz.func86 ?_
  repeat' (first
   |(refine qz ?_;first
    |refine qI (cs:=vt m.v) ?_ (hle:=by rw[bn];decide)
    |refine KV ?_
    |refine B0 (fun g0=>?_) (fun g0=>?_) (hi:=by exact eS w0 rfl)
    |refine B0 (fun g1=>?_) (fun g1=>?_) (hi:=by exact eS w1 rfl)
    |refine B0 (fun g2=>?_) (fun g2=>?_) (hi:=by exact eS w2 rfl)
    |refine B0 (fun g3=>?_) (fun g3=>?_) (hi:=by exact eS w3 rfl))
   |refine WX.loop ?_|refine WX.round ?_|refine zz ?_|refine zx (fun _=>?_) (fun _=>?_)|fail)
  all_goals
   show aE _ _ _ _ _ _ _ _;refine kV [] ?_
   first
    | (rw[show fW m=0 by(unfold fW;refine if_pos ⟨⟨?_,?_,?_⟩,⟨?_,?_,?_⟩,⟨?_,?_,?_⟩,⟨?_,?_,?_⟩⟩<;>(intros;first|assumption|rfl|(exfalso;omega)))];rfl)
    | (rw[show fW m=14 by(unfold fW;refine if_neg ?_;rintro ⟨⟨a0,b0,c0⟩,⟨a1,b1,c1⟩,⟨a2,b2,c2⟩,⟨a3,b3,c3⟩⟩;first|exact absurd (g0.symm.trans a0) (by decide)|exact absurd (g1.symm.trans a1) (by decide)|exact absurd (g2.symm.trans a2) (by decide)|exact absurd (g3.symm.trans a3) (by decide)|exact d1 (b1 (by omega))|exact d2 (b2 (by omega))|exact d3 (b3 (by omega))|exact e0 (c0 (by omega) (by omega))|exact e1 (c1 (by omega) (by omega))|exact e2 (c2 (by omega) (by omega))|exact e3 (c3 (by omega) (by omega)))];rfl)
 by_cases hk1:m.kind=1
 ·refine cO Tryz.func86 ?_
  repeat' (first
   |(refine qz ?_;first
    |refine qI (cs:=vt m.v) ?_ (hle:=by rw[bn];decide)
    |refine KV ?_
    |refine B0 (fun g0=>?_) (fun g0=>?_) (hi:=by exact eS w0 rfl)
    |refine B0 (fun g1=>?_) (fun g1=>?_) (hi:=by exact eS w1 rfl)
    |refine B0 (fun g2=>?_) (fun g2=>?_) (hi:=by exact eS w2 rfl)
    |refine B0 (fun g3=>?_) (fun g3=>?_) (hi:=by exact eS w3 rfl)
    |refine G5 (x:=m.v 0) (y:=m.v 0) (fun hn=>absurd rfl hn) (fun _=>?_) w0 w0 rfl
    |refine G5 (x:=m.v 1) (y:=m.v 0) (fun d1=>?_) (fun d1=>?_) w1 w0 rfl
    |refine G5 (x:=m.v 2) (y:=m.v 0) (fun d2=>?_) (fun d2=>?_) w2 w0 rfl
    |refine G5 (x:=m.v 3) (y:=m.v 0) (fun d3=>?_) (fun d3=>?_) w3 w0 rfl)
   |refine WX.loop ?_|refine WX.round ?_|refine zz ?_|refine zx (fun _=>?_) (fun _=>?_)|fail)
  all_goals
   show aE _ _ _ _ _ _ _ _;refine kV [] ?_
   first
    | (rw[show fW m=0 by(unfold fW;refine if_pos ⟨⟨?_,?_,?_⟩,⟨?_,?_,?_⟩,⟨?_,?_,?_⟩,⟨?_,?_,?_⟩⟩<;>(intros;first|assumption|rfl|(exfalso;omega)))];rfl)
    | (rw[show fW m=14 by(unfold fW;refine if_neg ?_;rintro ⟨⟨a0,b0,c0⟩,⟨a1,b1,c1⟩,⟨a2,b2,c2⟩,⟨a3,b3,c3⟩⟩;first|exact absurd (g0.symm.trans a0) (by decide)|exact absurd (g1.symm.trans a1) (by decide)|exact absurd (g2.symm.trans a2) (by decide)|exact absurd (g3.symm.trans a3) (by decide)|exact d1 (b1 (by omega))|exact d2 (b2 (by omega))|exact d3 (b3 (by omega))|exact e0 (c0 (by omega) (by omega))|exact e1 (c1 (by omega) (by omega))|exact e2 (c2 (by omega) (by omega))|exact e3 (c3 (by omega) (by omega)))];rfl)
 ·refine cO Tryz.func86 ?_
  repeat' (first
   |(refine qz ?_;first
    |refine qI (cs:=vt m.v) ?_ (hle:=by rw[bn];decide)
    |refine KV ?_
    |refine B0 (fun g0=>?_) (fun g0=>?_) (hi:=by exact eS w0 rfl)
    |refine B0 (fun g1=>?_) (fun g1=>?_) (hi:=by exact eS w1 rfl)
    |refine B0 (fun g2=>?_) (fun g2=>?_) (hi:=by exact eS w2 rfl)
    |refine B0 (fun g3=>?_) (fun g3=>?_) (hi:=by exact eS w3 rfl)
    |refine G5 (x:=m.v 0) (y:=m.v 0) (fun hn=>absurd rfl hn) (fun _=>?_) w0 w0 rfl
    |refine G5 (x:=m.v 0) (y:=(0,0)) (fun e0=>?_) (fun e0=>?_) w0 z0 iK.symm
    |refine G5 (x:=m.v 1) (y:=m.v 0) (fun d1=>?_) (fun d1=>?_) w1 w0 rfl
    |refine G5 (x:=m.v 2) (y:=m.v 0) (fun d2=>?_) (fun d2=>?_) w2 w0 rfl
    |refine G5 (x:=m.v 3) (y:=m.v 0) (fun d3=>?_) (fun d3=>?_) w3 w0 rfl
    |refine G5 (x:=m.v 1) (y:=(0,0)) (fun e1=>?_) (fun e1=>?_) w1 z0 iK.symm
    |refine G5 (x:=m.v 2) (y:=(0,0)) (fun e2=>?_) (fun e2=>?_) w2 z0 iK.symm
    |refine G5 (x:=m.v 3) (y:=(0,0)) (fun e3=>?_) (fun e3=>?_) w3 z0 iK.symm)
   |refine WX.loop ?_|refine WX.round ?_|refine zz ?_|refine zx (fun _=>?_) (fun _=>?_)|fail)
  all_goals
   show aE _ _ _ _ _ _ _ _;refine kV [] ?_
   first
    | (rw[show fW m=0 by(unfold fW;refine if_pos ⟨⟨?_,?_,?_⟩,⟨?_,?_,?_⟩,⟨?_,?_,?_⟩,⟨?_,?_,?_⟩⟩<;>(intros;first|assumption|rfl|(exfalso;omega)))];rfl)
    | (rw[show fW m=14 by(unfold fW;refine if_neg ?_;rintro ⟨⟨a0,b0,c0⟩,⟨a1,b1,c1⟩,⟨a2,b2,c2⟩,⟨a3,b3,c3⟩⟩;first|exact absurd (g0.symm.trans a0) (by decide)|exact absurd (g1.symm.trans a1) (by decide)|exact absurd (g2.symm.trans a2) (by decide)|exact absurd (g3.symm.trans a3) (by decide)|exact d1 (b1 (by omega))|exact d2 (b2 (by omega))|exact d3 (b3 (by omega))|exact e0 (c0 (by omega) (by omega))|exact e1 (c1 (by omega) (by omega))|exact e2 (c2 (by omega) (by omega))|exact e3 (c3 (by omega) (by omega)))];rfl)
theorem MU{m:Mb}(hm:jT m){HS:aj}(hb:Nat.blt HS.length Mem.bound=true):aA.Sound prog ⟨86,[.agg (mC m)],HS,.one (.int .i64 (fW m)),HS,[]⟩:=
 az (Kc m hm) (by simp only[List.all_cons,List.all_nil,Bool.and_true];exact jY m) rfl hb
end Go.Proofs.YthdciapjllppjaaGreat
