/-
  A part of the proof: Modes.
-/
import Derived.Test.YthdciapjllppjaaGreatWaN
set_option maxRecDepth 10000
set_option maxHeartbeats 8000000
set_option linter.unusedVariables false
set_option linter.unusedSectionVars false
set_option linter.unusedSimpArgs false
open Go.Proofs.Tryz (prog)
namespace Go.Proofs.YthdciapjllppjaaGreat
open Go.Xm
variable [ak]
structure Mb where
 kind:Int
 qp:Int
 v:Nat->Int×Int
 edge:Bool
 lev:Nat->Int
def mC(m:Mb):List XC := .int .u8 m.kind :: .int .i64 m.qp::cS (m.v 0)::cS (m.v 1)::cS (m.v 2)::cS (m.v 3) :: .bool m.edge::ti .i64 384 m.lev
theorem bl(m:Mb):(mC m).length=391:=by simp[mC,aT]
theorem Il(m:Mb):((mC m).drop 7).take 384=ti .i64 384 m.lev:=by
 show(ti .i64 384 m.lev).take 384=_;rw[List.take_of_length_le (by rw[aT];omega)]
theorem jW(m:Mb):(mC m).all XC.shut=true:=by
 simp[mC,ti,XC.shut,cS]
instance:oY mC 391:=⟨bl,jW,by decide⟩
instance Sk (m:Mb):bZ (.agg (mC m)):=eI (jW m)
structure jR(m:Mb):Prop where
 kind:0<=m.kind/\m.kind<=255
 qp : -1000000<=m.qp/\m.qp<=1000000
 v:∀k,bJ (m.v k)
 lev:∀i,-1000000<=m.lev i/\m.lev i<=1000000
def alone(m:Mb):Bool:=decide (m.kind=3\/m.kind=4)
abbrev Oo(m:Mb):aj := .cells (mC m) 107 false false
theorem ED(m:Mb):bq prog 42 [.agg (mC m)] [] (.one (.bool (alone m))) []:=by
 refine cO Tryz.func42 ?_
 by_cases h3:m.kind=3
 ·have e:alone m=true:=decide_eq_true (.inl h3);rw[e]
  repeat' (first|refine zz ?_|refine zx (fun _=>?_) (fun _=>?_)|fail)
  show aE _ _ _ _ _ _ _ _;refine kV [] ?_;rfl
 ·by_cases h4:m.kind=4
  ·have e:alone m=true:=decide_eq_true (.inr h4);rw[e]
   repeat' (first|refine zz ?_|refine zx (fun _=>?_) (fun _=>?_)|fail)
   show aE _ _ _ _ _ _ _ _;refine kV [] ?_;rfl
  ·have e:alone m=false:=decide_eq_false fun h=>h.elim h3 h4
   rw[e]
   repeat' (first|refine zz ?_|refine zx (fun _=>?_) (fun _=>?_)|fail)
   show aE _ _ _ _ _ _ _ _;refine kV [] ?_;rfl
theorem tH{m:Mb}{HS:ah}(hb:Nat.blt HS.length Mem.bound=true):az.Sound prog ⟨42,[.agg (mC m)],HS,.one (.bool (alone m)),HS,[]⟩:=
 ay (ED m) (by simp only[List.all_cons,List.all_nil,Bool.and_true];exact jW m) rfl hb
theorem F6:bq prog 53 [] [] (.agg [.int .i64 (-2),.int .i64 (-1),.int .i64 1,.int .i64 2]) []:=by
 refine cO Tryz.func53 ?_
 repeat' (first|refine zz ?_|refine zx (fun _=>?_) (fun _=>?_)|fail)
 show aE _ _ _ _ _ _ _ _;refine kV [] ?_;rfl
theorem vf{HS:ah}(hb:Nat.blt HS.length Mem.bound=true):az.Sound prog ⟨53,[],HS,.agg [.int .i64 (-2),.int .i64 (-1),.int .i64 1,.int .i64 2],HS,[]⟩:=
 ay F6 rfl rfl hb
def ep(was qp:Int):Int×Bool:=if qp<1\/31<qp then(0,false)else if was-2=qp then(0,true)else if was-1=qp then(1,true)else if was+1=qp then(2,true)else if was+2=qp then(3,true)else(0,false)
theorem Jy(was qp:Int)(h1 : -1000000<=was/\was<=1000000)(h2 : -1000000<=qp/\qp<=1000000):bq prog 85 [.one (.int .i64 was),.one (.int .i64 qp)] [] (.tup [.one (.int .i64 (ep was qp).1),.one (.bool (ep was qp).2)]) []:=by
 refine cO Tryz.func85 ?_
 repeat' (first
  |(refine qz ?_;first
   |refine cl ?_ (hi:=by exact vf rfl)
   |refine Ky ?_)
  |refine WX.loop ?_|refine WX.round ?_|refine zz ?_|refine zx (fun _=>?_) (fun _=>?_)|fail)
 all_goals
  show aE _ _ _ _ _ _ _ _;refine kV [] ?_
  first
   | (rw[show ep was qp=(0,true) by unfold ep;(repeat' split)<;>first|rfl|(exfalso;omega)];rfl)
   | (rw[show ep was qp=(1,true) by unfold ep;(repeat' split)<;>first|rfl|(exfalso;omega)];rfl)
   | (rw[show ep was qp=(2,true) by unfold ep;(repeat' split)<;>first|rfl|(exfalso;omega)];rfl)
   | (rw[show ep was qp=(3,true) by unfold ep;(repeat' split)<;>first|rfl|(exfalso;omega)];rfl)
   | (rw[show ep was qp=(0,false) by unfold ep;(repeat' split)<;>first|rfl|(exfalso;omega)];rfl)
theorem yB{was qp:Int}(h1 : -1000000<=was/\was<=1000000)(h2 : -1000000<=qp/\qp<=1000000){HS:ah}(hb:Nat.blt HS.length Mem.bound=true):az.Sound prog ⟨85,[.one (.int .i64 was),.one (.int .i64 qp)],HS,.tup [.one (.int .i64 (ep was qp).1),.one (.bool (ep was qp).2)],HS,[]⟩:=
 ay (Jy was qp h1 h2) rfl rfl hb
def sA(m:Mb)(k:Nat):Prop:=fg (m.v k)=true/\(m.kind≠2->m.v k=m.v 0)/\(m.kind≠1->m.kind≠2->m.v k=(0,0))
instance (m:Mb) (k:Nat):Decidable (sA m k):=by unfold sA;infer_instance
def fS(m:Mb):Int:=if sA m 0/\sA m 1/\sA m 2/\sA m 3 then 0 else 14
theorem JT(m:Mb)(hm:jR m):bq prog 86 [.agg (mC m)] [] (.one (.int .i64 (fS m))) []:=by
 have w0:=hm.v 0;have w1:=hm.v 1;have w2:=hm.v 2;have w3:=hm.v 3
 have z0:bJ (0,0):=⟨⟨by decide,by decide⟩,⟨by decide,by decide⟩⟩
 by_cases hk2:m.kind=2
 ·refine cO Tryz.func86 ?_
  repeat' (first
   |(refine qz ?_;first
    |refine rG (cs:=vt m.v) ?_ (hle:=by rw[bl];decide)
    |refine Ky ?_
    |refine BE (fun g0=>?_) (fun g0=>?_) (hi:=by exact eO w0 rfl)
    |refine BE (fun g1=>?_) (fun g1=>?_) (hi:=by exact eO w1 rfl)
    |refine BE (fun g2=>?_) (fun g2=>?_) (hi:=by exact eO w2 rfl)
    |refine BE (fun g3=>?_) (fun g3=>?_) (hi:=by exact eO w3 rfl))
   |refine WX.loop ?_|refine WX.round ?_|refine zz ?_|refine zx (fun _=>?_) (fun _=>?_)|fail)
  all_goals
   show aE _ _ _ _ _ _ _ _;refine kV [] ?_
   first
    | (rw[show fS m=0 by(unfold fS;refine if_pos ⟨⟨?_,?_,?_⟩,⟨?_,?_,?_⟩,⟨?_,?_,?_⟩,⟨?_,?_,?_⟩⟩<;>(intros;first|assumption|rfl|(exfalso;omega)))];rfl)
    | (rw[show fS m=14 by(unfold fS;refine if_neg ?_;rintro ⟨⟨a0,b0,c0⟩,⟨a1,b1,c1⟩,⟨a2,b2,c2⟩,⟨a3,b3,c3⟩⟩;first|exact absurd (g0.symm.trans a0) (by decide)|exact absurd (g1.symm.trans a1) (by decide)|exact absurd (g2.symm.trans a2) (by decide)|exact absurd (g3.symm.trans a3) (by decide)|exact d1 (b1 (by omega))|exact d2 (b2 (by omega))|exact d3 (b3 (by omega))|exact e0 (c0 (by omega) (by omega))|exact e1 (c1 (by omega) (by omega))|exact e2 (c2 (by omega) (by omega))|exact e3 (c3 (by omega) (by omega)))];rfl)
 by_cases hk1:m.kind=1
 ·refine cO Tryz.func86 ?_
  repeat' (first
   |(refine qz ?_;first
    |refine rG (cs:=vt m.v) ?_ (hle:=by rw[bl];decide)
    |refine Ky ?_
    |refine BE (fun g0=>?_) (fun g0=>?_) (hi:=by exact eO w0 rfl)
    |refine BE (fun g1=>?_) (fun g1=>?_) (hi:=by exact eO w1 rfl)
    |refine BE (fun g2=>?_) (fun g2=>?_) (hi:=by exact eO w2 rfl)
    |refine BE (fun g3=>?_) (fun g3=>?_) (hi:=by exact eO w3 rfl)
    |refine GH (x:=m.v 0) (y:=m.v 0) (fun hn=>absurd rfl hn) (fun _=>?_) w0 w0 rfl
    |refine GH (x:=m.v 1) (y:=m.v 0) (fun d1=>?_) (fun d1=>?_) w1 w0 rfl
    |refine GH (x:=m.v 2) (y:=m.v 0) (fun d2=>?_) (fun d2=>?_) w2 w0 rfl
    |refine GH (x:=m.v 3) (y:=m.v 0) (fun d3=>?_) (fun d3=>?_) w3 w0 rfl)
   |refine WX.loop ?_|refine WX.round ?_|refine zz ?_|refine zx (fun _=>?_) (fun _=>?_)|fail)
  all_goals
   show aE _ _ _ _ _ _ _ _;refine kV [] ?_
   first
    | (rw[show fS m=0 by(unfold fS;refine if_pos ⟨⟨?_,?_,?_⟩,⟨?_,?_,?_⟩,⟨?_,?_,?_⟩,⟨?_,?_,?_⟩⟩<;>(intros;first|assumption|rfl|(exfalso;omega)))];rfl)
    | (rw[show fS m=14 by(unfold fS;refine if_neg ?_;rintro ⟨⟨a0,b0,c0⟩,⟨a1,b1,c1⟩,⟨a2,b2,c2⟩,⟨a3,b3,c3⟩⟩;first|exact absurd (g0.symm.trans a0) (by decide)|exact absurd (g1.symm.trans a1) (by decide)|exact absurd (g2.symm.trans a2) (by decide)|exact absurd (g3.symm.trans a3) (by decide)|exact d1 (b1 (by omega))|exact d2 (b2 (by omega))|exact d3 (b3 (by omega))|exact e0 (c0 (by omega) (by omega))|exact e1 (c1 (by omega) (by omega))|exact e2 (c2 (by omega) (by omega))|exact e3 (c3 (by omega) (by omega)))];rfl)
 ·refine cO Tryz.func86 ?_
  repeat' (first
   |(refine qz ?_;first
    |refine rG (cs:=vt m.v) ?_ (hle:=by rw[bl];decide)
    |refine Ky ?_
    |refine BE (fun g0=>?_) (fun g0=>?_) (hi:=by exact eO w0 rfl)
    |refine BE (fun g1=>?_) (fun g1=>?_) (hi:=by exact eO w1 rfl)
    |refine BE (fun g2=>?_) (fun g2=>?_) (hi:=by exact eO w2 rfl)
    |refine BE (fun g3=>?_) (fun g3=>?_) (hi:=by exact eO w3 rfl)
    |refine GH (x:=m.v 0) (y:=m.v 0) (fun hn=>absurd rfl hn) (fun _=>?_) w0 w0 rfl
    |refine GH (x:=m.v 0) (y:=(0,0)) (fun e0=>?_) (fun e0=>?_) w0 z0 iH.symm
    |refine GH (x:=m.v 1) (y:=m.v 0) (fun d1=>?_) (fun d1=>?_) w1 w0 rfl
    |refine GH (x:=m.v 2) (y:=m.v 0) (fun d2=>?_) (fun d2=>?_) w2 w0 rfl
    |refine GH (x:=m.v 3) (y:=m.v 0) (fun d3=>?_) (fun d3=>?_) w3 w0 rfl
    |refine GH (x:=m.v 1) (y:=(0,0)) (fun e1=>?_) (fun e1=>?_) w1 z0 iH.symm
    |refine GH (x:=m.v 2) (y:=(0,0)) (fun e2=>?_) (fun e2=>?_) w2 z0 iH.symm
    |refine GH (x:=m.v 3) (y:=(0,0)) (fun e3=>?_) (fun e3=>?_) w3 z0 iH.symm)
   |refine WX.loop ?_|refine WX.round ?_|refine zz ?_|refine zx (fun _=>?_) (fun _=>?_)|fail)
  all_goals
   show aE _ _ _ _ _ _ _ _;refine kV [] ?_
   first
    | (rw[show fS m=0 by(unfold fS;refine if_pos ⟨⟨?_,?_,?_⟩,⟨?_,?_,?_⟩,⟨?_,?_,?_⟩,⟨?_,?_,?_⟩⟩<;>(intros;first|assumption|rfl|(exfalso;omega)))];rfl)
    | (rw[show fS m=14 by(unfold fS;refine if_neg ?_;rintro ⟨⟨a0,b0,c0⟩,⟨a1,b1,c1⟩,⟨a2,b2,c2⟩,⟨a3,b3,c3⟩⟩;first|exact absurd (g0.symm.trans a0) (by decide)|exact absurd (g1.symm.trans a1) (by decide)|exact absurd (g2.symm.trans a2) (by decide)|exact absurd (g3.symm.trans a3) (by decide)|exact d1 (b1 (by omega))|exact d2 (b2 (by omega))|exact d3 (b3 (by omega))|exact e0 (c0 (by omega) (by omega))|exact e1 (c1 (by omega) (by omega))|exact e2 (c2 (by omega) (by omega))|exact e3 (c3 (by omega) (by omega)))];rfl)
theorem My{m:Mb}(hm:jR m){HS:ah}(hb:Nat.blt HS.length Mem.bound=true):az.Sound prog ⟨86,[.agg (mC m)],HS,.one (.int .i64 (fS m)),HS,[]⟩:=
 ay (JT m hm) (by simp only[List.all_cons,List.all_nil,Bool.and_true];exact jW m) rfl hb
end Go.Proofs.YthdciapjllppjaaGreat
