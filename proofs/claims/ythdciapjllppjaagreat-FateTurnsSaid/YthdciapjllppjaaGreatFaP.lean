/-
  A part of the proof: Modes2, Hd0.
-/
import Derived.Test.YthdciapjllppjaaGreatFaE
import Derived.Test.YthdciapjllppjaaGreatFaF
import Derived.Test.YthdciapjllppjaaGreatFaO
set_option maxRecDepth 10000
set_option maxHeartbeats 8000000
set_option linter.unusedVariables false
set_option linter.unusedSectionVars false
set_option linter.unusedSimpArgs false
open Go.Proofs.Tryz (prog)
namespace Go.Proofs.YthdciapjllppjaaGreat
open Go.Xm
variable [av]
def Az(m:Mb)(i:Nat):Prop:=(m.kind=0->m.lev i=0)/\(-2047<=m.lev i/\m.lev i<=2047)/\(i%64=0->alone m=true->0<=m.lev i/\m.lev i<=127)
open Classical in
noncomputable def uQ(m:Mb):Int:=if ∀i,i<384->Az m i then 0 else 2
theorem Jy(m : Mb)(hm:jc m):bm prog 87 [.agg (mC m)] [] (.one (.int .i64 (uQ m))) []:=by
 have hkind:=hm.kind;refine cO Tryz.func87 ?_
 repeat' (first
  |(refine qz ?_;first
   |refine uN (cs:=ti .i64 384 m.lev) ?_ (hle:=by rw[aY];decide) (hc:=JE m))
  |refine zz ?_|refine zx (fun _=>?_) (fun _=>?_)|fail)
 refine WX.bN (σ:=Nat) (fun k=>[(9,.one (.int .i64 (k:Nat))),(1,.one (.ptr 0 0)),(8,.agg (ti .i64 384 m.lev))]) (fun _=>[Py m]) (fun k=>k<=6/\∀i,i<k*64->Az m i) (fun k=>6-k) 0 ⟨by omega,fun i hi=>by omega⟩ (fun s _=>mZ) (bq [0]) ?_;intro k ⟨hk,hall⟩ ih
 by_cases hk6:k<6
 ·repeat' (first
   |(refine qz ?_;first
    |refine Mz (n:=384) ?_
    |refine tq ?_ (hs1:=by rw[aU]) (hs2:=by rw[aU])
    |refine lg ?_ (hle:=by rw[aU]))
   |refine zz ?_|refine zx (fun _=>?_) (fun _=>?_)|fail)
  refine WX.bN (σ:=Nat) (fun j=>[(13,.one (.int .i64 (j:Nat))),(1,.one (.ptr 0 0)),(8,.agg (ti .i64 384 m.lev)),(9,.one (.int .i64 (k:Nat))),(12,.agg (ti .i64 64 fun i=>m.lev (k*64+i)))]) (fun _=>[Py m]) (fun j=>j<=64/\∀i,i<k*64+j->Az m i) (fun j=>64-j) 0 ⟨by omega,hall⟩ (fun s _=>mZ) (bq [0]) ?_;intro j ⟨hj,hall2⟩ ih2
  by_cases hj64:j<64
  ·have hd : m.lev (k*64+j)=m.lev (k*64+(j:Int).toNat):=rfl;have hl:=hm.lev (k*64+j)
   repeat' (first
    |(refine qz ?_;first
     |refine RJ (n:=64) (q:=fun i=>m.lev (k*64+i)) ?_
     |refine lg ?_ (hle:=by rw[aY])
     |refine Ci (fun ga=>?_) (fun ga=>?_) (hi:=by exact qv rfl))
    |refine zz ?_|refine zx (fun _=>?_) (fun _=>?_)|fail)
   all_goals
    first
     | (refine ih2 (j+1) _ _ _ (bq [0]) ⟨by omega,fun i hi=>?_⟩ (by omega)
        by_cases hij:i=k*64+j
        ·subst hij;unfold Az;simp only[Int.toNat_natCast]at *;refine⟨fun _=>by omega,by omega,fun h64 hal=>?_⟩
         first
          | omega
          | (rw[hal]at ga;cases ga)
        ·exact hall2 i (by omega))
     | (show aE _ _ _ _ _ _ _ _;refine kV [] ?_
        rw [show uQ m=2 from if_neg (fun hall=>by
         obtain⟨p1,p2,p3⟩:=hall (k*64+j) (by omega);simp only[Int.toNat_natCast]at *
         first
          | omega
          | (have:=p3 (by omega) ga;omega))]
        rfl)
  ·repeat' (first|refine zz ?_|refine zx (fun _=>?_) (fun _=>?_)|fail)
   refine ih (k+1) _ _ _ (bq [0]) ⟨by omega,fun i hi=>hall2 i (by omega)⟩ (by omega)
 ·repeat' (first|refine zz ?_|refine zx (fun _=>?_) (fun _=>?_)|fail)
  show aE _ _ _ _ _ _ _ _;refine kV [] ?_;rw[show uQ m=0 from if_pos (fun i hi=>hall i (by omega))];rfl
theorem MF{m:Mb}(hm:jc m){HS:ah}(hb:Nat.blt HS.length Mem.bound=true):aA.Sound prog ⟨87,[.agg (mC m)],HS,.one (.int .i64 (uQ m)),HS,[]⟩:=
 ay (Jy m hm) (by simp only[List.all_cons,List.all_nil,Bool.and_true];exact jQ m) rfl hb
theorem lT{m:Mb}{b:Bool}(h:alone m=b){HS:ah}(hb:Nat.blt HS.length Mem.bound=true):aA.Sound prog ⟨42,[.agg (mC m)],HS,.one (.bool b),HS,[]⟩:=by
 subst h;exact qv hb
noncomputable def dp(m:Mb)(inter:Bool)(was:Int):Int:=
 if 5<=m.kind\/(inter=false/\alone m=false)then 5
 else if m.edge=true/\alone m=false then 4
 else if m.kind=4/\(eG was m.qp).2=false then 6
 else if m.kind≠4/\m.qp≠was then 6
 else if fK m≠0 then fK m else uQ m
theorem K0(m:Mb):fK m=0\/fK m=14:=by
 unfold fK;split
 ·exact .inl rfl
 ·exact .inr rfl
theorem FH(m:Mb)(hm:jc m)(inter:Bool)(was:Int)(hw : -1000000<=was/\was<=1000000):bm prog 62 [.agg (mC m),.one (.bool inter),.one (.int .i64 was)] [] (.one (.int .i64 (dp m inter was))) []:=by
 have hkind:=hm.kind;have hqp:=hm.qp;have hvv:=K0 m
 obtain⟨a,ha⟩:∃a,alone m=a:=⟨_,rfl⟩
 obtain⟨e,he⟩:∃e,m.edge=e:=⟨_,rfl⟩
 obtain⟨st,hst⟩:∃st,eG was m.qp=st:=⟨_,rfl⟩
 have hC:mC m = .int .u8 m.kind :: .int .i64 m.qp::cQ (m.v 0)::cQ (m.v 1)::cQ (m.v 2)::cQ (m.v 3) :: .bool e::ti .i64 384 m.lev:=by rw[<-he];rfl
 have al:∀{HS:ah},Nat.blt HS.length Mem.bound=true->aA.Sound prog ⟨42,[.agg (mC m)],HS,.one (.bool a),HS,[]⟩:=fun hb=>lT ha hb
 have sl:∀{HS:ah},Nat.blt HS.length Mem.bound=true->aA.Sound prog ⟨85,[.one (.int .i64 was),.one (.int .i64 m.qp)],HS,.tup [.one (.int .i64 st.1),.one (.bool st.2)],HS,[]⟩:=fun hb=>by
  have:=zk hw hqp hb;rw[hst]at this;exact this
 have hl6:(mC m)[6]? = some (.bool e):=by rw[hC];rfl
 obtain⟨s1,s2⟩:=st;cases inter<;>cases a<;>cases e<;>cases s2
 all_goals
  refine cO Tryz.func62 ?_
  repeat' (first
   |(refine qz ?_;first
    |refine ld (hc:=hl6) ?_
    |refine lg ?_ (hle:=by rw[aY])
    |refine cl ?_ (hi:=by exact al rfl)
    |refine cl ?_ (hi:=by exact sl rfl)
    |refine cl ?_ (hi:=by exact ND hm rfl)
    |refine cl ?_ (hi:=by exact MF hm rfl))
   |refine zz ?_|refine zx (fun _=>?_) (fun _=>?_)|fail)
  all_goals
   show aE _ _ _ _ _ _ _ _;refine kV [] ?_;unfold dp;rw[ha,he,hst];simp only[Bool.false_eq_true,Bool.true_eq_false,and_true,and_false,true_and,false_and,or_false,or_true,if_true,if_false,true_or,not_true,not_false_eq_true]
   repeat' split
   all_goals first
    | rfl
    | (exfalso;omega)
theorem Iv{m:Mb}(hm:jc m){inter:Bool}{was:Int}(hw : -1000000<=was/\was<=1000000){HS:ah}(hb:Nat.blt HS.length Mem.bound=true):aA.Sound prog ⟨62,[.agg (mC m),.one (.bool inter),.one (.int .i64 was)],HS,.one (.int .i64 (dp m inter was)),HS,[]⟩:=
 ay (FH m hm inter was hw) (by show((mC m).all XC.shut&&(true&&(true&&true)))=true;rw[jQ];rfl) rfl hb
structure Hd where
 cols:Int
 rows:Int
 w:Bool
 a:Nat->Int
 b:Nat->Int
def dY(h:Hd):List XC := .bool h.w::(ti .u8 64 h.a++ti .u8 64 h.b)
def ij(h:Hd):List XC := .int .i64 h.cols :: .int .i64 h.rows::dY h
theorem iG(h:Hd):(dY h).length=129:=by simp[dY,aU]
theorem cz(h:Hd):(ij h).length=131:=by simp[ij,iG]
theorem oV(h:Hd):(dY h).all XC.shut=true:=by simp[dY,ti,XC.shut]
theorem eO(h:Hd):(ij h).all XC.shut=true:=by simp[ij,dY,ti,XC.shut]
theorem KN(h:Hd){i:Nat}(hi:i<64):(dY h)[1+i]? = some (.int .u8 (h.a i)):=by
 unfold dY;rw[Nat.add_comm,List.getElem?_cons_succ,List.getElem?_append_left (by rw[aU];exact hi),lO hi]
theorem KO(h:Hd){i:Nat}(hi:i<64):(dY h)[65+i]? = some (.int .u8 (h.b i)):=by
 unfold dY;rw[show 65+i=(64+i)+1 by omega,List.getElem?_cons_succ,List.getElem?_append_right (by rw[aU];omega),aU,show 64+i-64=i by omega,lO hi]
instance Sw (h:Hd):b_ (.agg (ij h)):=jj (eO h)
instance Rz (h:Hd) (e:TypeId) (a b:Bool):cf (.cells (dY h) e a b):=gG (oV h)
instance Sx (h:Hd) (e:TypeId) (a b:Bool):cf (.cells (ij h) e a b):=gG (eO h)
theorem El(h:Hd):((ij h).drop 2).take 129=dY h:=by
 show(dY h).take 129=_;rw[List.take_of_length_le (by rw[iG];omega)]
def u4(g z:Nat->Int)(i j:Nat):Int:=if j<i then g j else z j
theorem qU(g z:Nat->Int)(i:Nat):gX (u4 g z i) i (g i)=u4 g z (i+1):=by
 funext j
 unfold gX u4
 by_cases h:j=i
 ·subst h;simp
 ·by_cases h1:j<i
  ·rw[if_neg h,if_pos h1,if_pos (by omega)]
  ·rw[if_neg h,if_neg h1,if_neg (by omega)]
theorem qV(g z:Nat->Int):u4 g z 0=z:=by funext j;simp[u4]
end Go.Proofs.YthdciapjllppjaaGreat
