/-
  A part of the proof: Modes.
-/
import Derived.Test.YtagpkhindehcbaaGreatKdN
set_option maxRecDepth 10000
set_option maxHeartbeats 8000000
set_option linter.unusedVariables false
set_option linter.unusedSectionVars false
set_option linter.unusedSimpArgs false
namespace Go.Proofs.YtagpkhindehcbaaGreat
open Go.Xm
variable [az]
structure Mb where
 kind:Int
 qp:Int
 v:Nat→Int × Int
 edge:Bool
 lev:Nat→Int
def mC (m:Mb):List XC := .int .u8 m.kind :: .int .i64 m.qp::cq (m.v 0)::cq (m.v 1)::cq (m.v 2)::cq (m.v 3) :: .bool m.edge::ti .i64 384 m.lev
theorem aJ (m:Mb):(mC m).length=391:=by simp [mC,aF]
theorem tZ (m:Mb):((mC m).drop 7).take 384=ti .i64 384 m.lev:=by
 show(ti .i64 384 m.lev).take 384=_
 rw [List.take_of_length_le (by rw [aF];omega)]
theorem MI (m:Mb) {off s:Nat}(h7:7≤off) (h:off+s≤391):((mC m).drop off).take s=ti .i64 s fun i=>m.lev (off-7+i):=by
 have:(mC m).drop off=(ti .i64 384 m.lev).drop (off-7):=by
  obtain⟨q,rfl⟩:∃ q,off=q+7:=⟨off-7,by omega⟩
  rw [Nat.add_sub_cancel]
  rfl
 rw [this,IE (by omega)]
theorem iS (m:Mb):(mC m).all XC.shut=true:=by
 simp [mC,ti,XC.shut,cq]
instance:ry mC 391:=⟨aJ,iS,by decide⟩
instance Pq (m:Mb):bz (.agg (mC m)):=e_ (iS m)
structure i_ (m:Mb):Prop where
 kind:0≤m.kind∧m.kind≤255
 qp : -1000000≤m.qp∧m.qp≤1000000
 v:∀ k,bu (m.v k)
 lev:∀ i,-1000000≤m.lev i∧m.lev i≤1000000
def alone (m:Mb):Bool:=decide (m.kind=3∨m.kind=4)
abbrev lB (m:Mb):ak := .cells (mC m) 53 false false
theorem DK (m:Mb):bn Tryz.prog 13 [.agg (mC m)] [] (.one (.bool (alone m))) []:=by
 refine cO Tryz.func13 ?_
 by_cases h3:m.kind=3
 · have e:alone m=true:=decide_eq_true (.inl h3)
   rw [e]
   repeat' (first|refine zz ?_|refine zx (fun _=>?_) (fun _=>?_)|fail)
   show aC _ _ _ _ _ _ _ _;refine kV [] ?_
   rfl
 · by_cases h4:m.kind=4
   · have e:alone m=true:=decide_eq_true (.inr h4)
     rw [e]
     repeat' (first|refine zz ?_|refine zx (fun _=>?_) (fun _=>?_)|fail)
     show aC _ _ _ _ _ _ _ _;refine kV [] ?_
     rfl
   · have e:alone m=false:=decide_eq_false fun h=>h.elim h3 h4
     rw [e]
     repeat' (first|refine zz ?_|refine zx (fun _=>?_) (fun _=>?_)|fail)
     show aC _ _ _ _ _ _ _ _;refine kV [] ?_
     rfl
theorem nN {m:Mb} {HS:aj}(hb:Nat.blt HS.length Mem.bound=true):aH.Sound Tryz.prog ⟨13,[.agg (mC m)],HS,.one (.bool (alone m)),HS,[]⟩:=
 aA (DK m) (by simp only [List.all_cons,List.all_nil,Bool.and_true];exact iS m) rfl hb
theorem E2:bn Tryz.prog 42 [] [] (.agg [.int .i64 (-2),.int .i64 (-1),.int .i64 1,.int .i64 2]) []:=by
 refine cO Tryz.func42 ?_
 repeat' (first|refine zz ?_|refine zx (fun _=>?_) (fun _=>?_)|fail)
 show aC _ _ _ _ _ _ _ _;refine kV [] ?_
 rfl
theorem ou {HS:aj}(hb:Nat.blt HS.length Mem.bound=true):aH.Sound Tryz.prog ⟨42,[],HS,.agg [.int .i64 (-2),.int .i64 (-1),.int .i64 1,.int .i64 2],HS,[]⟩:=
 aA E2 rfl rfl hb
def dV (was qp:Int):Int × Bool:=if qp<1∨31<qp then(0,false)else if was-2=qp then(0,true)else if was-1=qp then(1,true)else if was+1=qp then(2,true)else if was+2=qp then(3,true)else(0,false)
theorem Ir (was qp:Int) (h1 : -1000000≤was∧was≤1000000) (h2 : -1000000≤qp∧qp≤1000000):bn Tryz.prog 49 [.one (.int .i64 was),.one (.int .i64 qp)] [] (.tup [.one (.int .i64 (dV was qp).1),.one (.bool (dV was qp).2)]) []:=by
 refine cO Tryz.func49 ?_
 repeat' (first
  |(refine qz ?_;first
   |refine cl ?_ (hi:=by exact ou rfl)
   |refine pS ?_)
  |refine WX.loop ?_|refine WX.round ?_|refine zz ?_|refine zx (fun _=>?_) (fun _=>?_)|fail)
 all_goals
  show aC _ _ _ _ _ _ _ _;refine kV [] ?_
  first
   | (rw [show dV was qp=(0,true) by unfold dV;(repeat' split) <;> first|rfl|(exfalso;omega)];rfl)
   | (rw [show dV was qp=(1,true) by unfold dV;(repeat' split) <;> first|rfl|(exfalso;omega)];rfl)
   | (rw [show dV was qp=(2,true) by unfold dV;(repeat' split) <;> first|rfl|(exfalso;omega)];rfl)
   | (rw [show dV was qp=(3,true) by unfold dV;(repeat' split) <;> first|rfl|(exfalso;omega)];rfl)
   | (rw [show dV was qp=(0,false) by unfold dV;(repeat' split) <;> first|rfl|(exfalso;omega)];rfl)
theorem xQ {was qp:Int}(h1 : -1000000≤was∧was≤1000000) (h2 : -1000000≤qp∧qp≤1000000) {HS:aj}(hb:Nat.blt HS.length Mem.bound=true):aH.Sound Tryz.prog ⟨49,[.one (.int .i64 was),.one (.int .i64 qp)],HS,.tup [.one (.int .i64 (dV was qp).1),.one (.bool (dV was qp).2)],HS,[]⟩:=
 aA (Ir was qp h1 h2) rfl rfl hb
def pD (m:Mb) (k:Nat):Prop:=d9 (m.v k)=true∧(m.kind≠2→m.v k=m.v 0)∧(m.kind≠1→m.kind≠2→m.v k=(0,0))
instance (m:Mb) (k:Nat):Decidable (pD m k):=by unfold pD;infer_instance
def gJ (m:Mb):Int:=if pD m 0∧pD m 1∧pD m 2∧pD m 3 then 0 else 14
theorem IP (m:Mb) (hm:i_ m):bn Tryz.prog 50 [.agg (mC m)] [] (.one (.int .i64 (gJ m))) []:=by
 have w0:=hm.v 0
 have w1:=hm.v 1
 have w2:=hm.v 2
 have w3:=hm.v 3
 have z0:bu (0,0):=⟨⟨by decide,by decide⟩,⟨by decide,by decide⟩⟩
 by_cases hk2:m.kind=2
 · refine cO Tryz.func50 ?_
   repeat' (first
    |(refine qz ?_;first
     |refine rH (cs:=vt m.v) ?_ (hle:=by rw [aJ];decide)
     |refine pS ?_
     |refine tn (fun g0=>?_) (fun g0=>?_) (hi:=by exact eC w0 rfl)
     |refine tn (fun g1=>?_) (fun g1=>?_) (hi:=by exact eC w1 rfl)
     |refine tn (fun g2=>?_) (fun g2=>?_) (hi:=by exact eC w2 rfl)
     |refine tn (fun g3=>?_) (fun g3=>?_) (hi:=by exact eC w3 rfl))
    |refine WX.loop ?_|refine WX.round ?_|refine zz ?_|refine zx (fun _=>?_) (fun _=>?_)|fail)
   all_goals
    show aC _ _ _ _ _ _ _ _;refine kV [] ?_
    first
     | (rw [show gJ m=0 by(unfold gJ;refine if_pos ⟨⟨?_,?_,?_⟩,⟨?_,?_,?_⟩,⟨?_,?_,?_⟩,⟨?_,?_,?_⟩⟩ <;> (intros;first|assumption|rfl|(exfalso;omega)))];rfl)
     | (rw [show gJ m=14 by(unfold gJ;refine if_neg ?_;rintro ⟨⟨a0,b0,c0⟩,⟨a1,b1,c1⟩,⟨a2,b2,c2⟩,⟨a3,b3,c3⟩⟩;first|exact absurd (g0.symm.trans a0) (by decide)|exact absurd (g1.symm.trans a1) (by decide)|exact absurd (g2.symm.trans a2) (by decide)|exact absurd (g3.symm.trans a3) (by decide)|exact d1 (b1 (by omega))|exact d2 (b2 (by omega))|exact d3 (b3 (by omega))|exact e0 (c0 (by omega) (by omega))|exact e1 (c1 (by omega) (by omega))|exact e2 (c2 (by omega) (by omega))|exact e3 (c3 (by omega) (by omega)))];rfl)
 by_cases hk1:m.kind=1
 · refine cO Tryz.func50 ?_
   repeat' (first
    |(refine qz ?_;first
     |refine rH (cs:=vt m.v) ?_ (hle:=by rw [aJ];decide)
     |refine pS ?_
     |refine tn (fun g0=>?_) (fun g0=>?_) (hi:=by exact eC w0 rfl)
     |refine tn (fun g1=>?_) (fun g1=>?_) (hi:=by exact eC w1 rfl)
     |refine tn (fun g2=>?_) (fun g2=>?_) (hi:=by exact eC w2 rfl)
     |refine tn (fun g3=>?_) (fun g3=>?_) (hi:=by exact eC w3 rfl)
     |refine FP (x:=m.v 0) (y:=m.v 0) (fun hn=>absurd rfl hn) (fun _=>?_) w0 w0 rfl
     |refine FP (x:=m.v 1) (y:=m.v 0) (fun d1=>?_) (fun d1=>?_) w1 w0 rfl
     |refine FP (x:=m.v 2) (y:=m.v 0) (fun d2=>?_) (fun d2=>?_) w2 w0 rfl
     |refine FP (x:=m.v 3) (y:=m.v 0) (fun d3=>?_) (fun d3=>?_) w3 w0 rfl)
    |refine WX.loop ?_|refine WX.round ?_|refine zz ?_|refine zx (fun _=>?_) (fun _=>?_)|fail)
   all_goals
    show aC _ _ _ _ _ _ _ _;refine kV [] ?_
    first
     | (rw [show gJ m=0 by(unfold gJ;refine if_pos ⟨⟨?_,?_,?_⟩,⟨?_,?_,?_⟩,⟨?_,?_,?_⟩,⟨?_,?_,?_⟩⟩ <;> (intros;first|assumption|rfl|(exfalso;omega)))];rfl)
     | (rw [show gJ m=14 by(unfold gJ;refine if_neg ?_;rintro ⟨⟨a0,b0,c0⟩,⟨a1,b1,c1⟩,⟨a2,b2,c2⟩,⟨a3,b3,c3⟩⟩;first|exact absurd (g0.symm.trans a0) (by decide)|exact absurd (g1.symm.trans a1) (by decide)|exact absurd (g2.symm.trans a2) (by decide)|exact absurd (g3.symm.trans a3) (by decide)|exact d1 (b1 (by omega))|exact d2 (b2 (by omega))|exact d3 (b3 (by omega))|exact e0 (c0 (by omega) (by omega))|exact e1 (c1 (by omega) (by omega))|exact e2 (c2 (by omega) (by omega))|exact e3 (c3 (by omega) (by omega)))];rfl)
 · refine cO Tryz.func50 ?_
   repeat' (first
    |(refine qz ?_;first
     |refine rH (cs:=vt m.v) ?_ (hle:=by rw [aJ];decide)
     |refine pS ?_
     |refine tn (fun g0=>?_) (fun g0=>?_) (hi:=by exact eC w0 rfl)
     |refine tn (fun g1=>?_) (fun g1=>?_) (hi:=by exact eC w1 rfl)
     |refine tn (fun g2=>?_) (fun g2=>?_) (hi:=by exact eC w2 rfl)
     |refine tn (fun g3=>?_) (fun g3=>?_) (hi:=by exact eC w3 rfl)
     |refine FP (x:=m.v 0) (y:=m.v 0) (fun hn=>absurd rfl hn) (fun _=>?_) w0 w0 rfl
     |refine FP (x:=m.v 0) (y:=(0,0)) (fun e0=>?_) (fun e0=>?_) w0 z0 dM.symm
     |refine FP (x:=m.v 1) (y:=m.v 0) (fun d1=>?_) (fun d1=>?_) w1 w0 rfl
     |refine FP (x:=m.v 2) (y:=m.v 0) (fun d2=>?_) (fun d2=>?_) w2 w0 rfl
     |refine FP (x:=m.v 3) (y:=m.v 0) (fun d3=>?_) (fun d3=>?_) w3 w0 rfl
     |refine FP (x:=m.v 1) (y:=(0,0)) (fun e1=>?_) (fun e1=>?_) w1 z0 dM.symm
     |refine FP (x:=m.v 2) (y:=(0,0)) (fun e2=>?_) (fun e2=>?_) w2 z0 dM.symm
     |refine FP (x:=m.v 3) (y:=(0,0)) (fun e3=>?_) (fun e3=>?_) w3 z0 dM.symm)
    |refine WX.loop ?_|refine WX.round ?_|refine zz ?_|refine zx (fun _=>?_) (fun _=>?_)|fail)
   all_goals
    show aC _ _ _ _ _ _ _ _;refine kV [] ?_
    first
     | (rw [show gJ m=0 by(unfold gJ;refine if_pos ⟨⟨?_,?_,?_⟩,⟨?_,?_,?_⟩,⟨?_,?_,?_⟩,⟨?_,?_,?_⟩⟩ <;> (intros;first|assumption|rfl|(exfalso;omega)))];rfl)
     | (rw [show gJ m=14 by(unfold gJ;refine if_neg ?_;rintro ⟨⟨a0,b0,c0⟩,⟨a1,b1,c1⟩,⟨a2,b2,c2⟩,⟨a3,b3,c3⟩⟩;first|exact absurd (g0.symm.trans a0) (by decide)|exact absurd (g1.symm.trans a1) (by decide)|exact absurd (g2.symm.trans a2) (by decide)|exact absurd (g3.symm.trans a3) (by decide)|exact d1 (b1 (by omega))|exact d2 (b2 (by omega))|exact d3 (b3 (by omega))|exact e0 (c0 (by omega) (by omega))|exact e1 (c1 (by omega) (by omega))|exact e2 (c2 (by omega) (by omega))|exact e3 (c3 (by omega) (by omega)))];rfl)
theorem Le {m:Mb}(hm:i_ m) {HS:aj}(hb:Nat.blt HS.length Mem.bound=true):aH.Sound Tryz.prog ⟨50,[.agg (mC m)],HS,.one (.int .i64 (gJ m)),HS,[]⟩:=
 aA (IP m hm) (by simp only [List.all_cons,List.all_nil,Bool.and_true];exact iS m) rfl hb
end Go.Proofs.YtagpkhindehcbaaGreat
