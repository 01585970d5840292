/-
  A part of the proof: Modes2, Hd0.
-/
import Derived.Test.YthdciapjllppjaaGreatWbE
import Derived.Test.YthdciapjllppjaaGreatWbF
import Derived.Test.YthdciapjllppjaaGreatWbO
set_option maxRecDepth 10000
set_option maxHeartbeats 8000000
set_option linter.unusedVariables false
set_option linter.unusedSectionVars false
set_option linter.unusedSimpArgs false
open Go.Proofs.Tryz (prog)
namespace Go.Proofs.YthdciapjllppjaaGreat
open Go.Xm
variable [aq]
def zZ(m:Mb)(i:Nat):Prop:=(m.kind=0->m.lev i=0)/\(-2047<=m.lev i/\m.lev i<=2047)/\(i%64=0->alone m=true->0<=m.lev i/\m.lev i<=127)
open Classical in
noncomputable def uF(m:Mb):Int:=if ∀i,i<384->zZ m i then 0 else 2
theorem IH(m : Mb)(hm:jT m):bt prog 87 [.agg (mC m)] [] (.one (.int .i64 (uF m))) []:=by
 have hkind:=hm.kind;refine cO Tryz.func87 ?_
 repeat' (first
  |(refine qz ?_;first
   |refine qI (cs:=ti .i64 384 m.lev) ?_ (hle:=by rw[bn];decide) (hc:=IL m))
  |refine zz ?_|refine zx (fun _=>?_) (fun _=>?_)|fail)
 refine WX.cw (σ:=Nat) (fun k=>[(9,.one (.int .i64 (k:Nat))),(1,.one (.ptr 0 0)),(8,.agg (ti .i64 384 m.lev))]) (fun _=>[OQ m]) (fun k=>k<=6/\∀i,i<k*64->zZ m i) (fun k=>6-k) 0 ⟨by omega,fun i hi=>by omega⟩ (fun s _=>ny) (bW [0]) ?_;intro k ⟨hk,hall⟩ ih
 by_cases hk6:k<6
 ·repeat' (first
   |(refine qz ?_;first
    |refine LJ (n:=384) ?_
    |refine nD ?_ (hs1:=by rw[aU]) (hs2:=by rw[aU])
    |refine jI ?_ (hle:=by rw[aU]))
   |refine zz ?_|refine zx (fun _=>?_) (fun _=>?_)|fail)
  refine WX.cw (σ:=Nat) (fun j=>[(13,.one (.int .i64 (j:Nat))),(1,.one (.ptr 0 0)),(8,.agg (ti .i64 384 m.lev)),(9,.one (.int .i64 (k:Nat))),(12,.agg (ti .i64 64 fun i=>m.lev (k*64+i)))]) (fun _=>[OQ m]) (fun j=>j<=64/\∀i,i<k*64+j->zZ m i) (fun j=>64-j) 0 ⟨by omega,hall⟩ (fun s _=>ny) (bW [0]) ?_;intro j ⟨hj,hall2⟩ ih2
  by_cases hj64:j<64
  ·have hd : m.lev (k*64+j)=m.lev (k*64+(j:Int).toNat):=rfl;have hl:=hm.lev (k*64+j)
   repeat' (first
    |(refine qz ?_;first
     |refine Rc (n:=64) (q:=fun i=>m.lev (k*64+i)) ?_
     |refine jI ?_ (hle:=by rw[bn])
     |refine B0 (fun ga=>?_) (fun ga=>?_) (hi:=by exact tV rfl))
    |refine zz ?_|refine zx (fun _=>?_) (fun _=>?_)|fail)
   all_goals
    first
     | (refine ih2 (j+1) _ _ _ (bW [0]) ⟨by omega,fun i hi=>?_⟩ (by omega)
        by_cases hij:i=k*64+j
        ·subst hij;unfold zZ;simp only[Int.toNat_natCast]at *;refine⟨fun _=>by omega,by omega,fun h64 hal=>?_⟩
         first
          | omega
          | (rw[hal]at ga;cases ga)
        ·exact hall2 i (by omega))
     | (show aE _ _ _ _ _ _ _ _;refine kV [] ?_
        rw [show uF m=2 from if_neg (fun hall=>by
         obtain⟨p1,p2,p3⟩:=hall (k*64+j) (by omega);simp only[Int.toNat_natCast]at *
         first
          | omega
          | (have:=p3 (by omega) ga;omega))]
        rfl)
  ·repeat' (first|refine zz ?_|refine zx (fun _=>?_) (fun _=>?_)|fail)
   refine ih (k+1) _ _ _ (bW [0]) ⟨by omega,fun i hi=>hall2 i (by omega)⟩ (by omega)
 ·repeat' (first|refine zz ?_|refine zx (fun _=>?_) (fun _=>?_)|fail)
  show aE _ _ _ _ _ _ _ _;refine kV [] ?_;rw[show uF m=0 from if_pos (fun i hi=>hall i (by omega))];rfl
theorem LR{m:Mb}(hm:jT m){HS:aj}(hb:Nat.blt HS.length Mem.bound=true):aA.Sound prog ⟨87,[.agg (mC m)],HS,.one (.int .i64 (uF m)),HS,[]⟩:=
 az (IH m hm) (by simp only[List.all_cons,List.all_nil,Bool.and_true];exact jY m) rfl hb
theorem lW{m:Mb}{b:Bool}(h:alone m=b){HS:aj}(hb:Nat.blt HS.length Mem.bound=true):aA.Sound prog ⟨42,[.agg (mC m)],HS,.one (.bool b),HS,[]⟩:=by
 subst h;exact tV hb
noncomputable def dH(m:Mb)(inter:Bool)(was:Int):Int:=
 if 5<=m.kind\/(inter=false/\alone m=false)then 5
 else if m.edge=true/\alone m=false then 4
 else if m.kind=4/\(eF was m.qp).2=false then 6
 else if m.kind≠4/\m.qp≠was then 6
 else if fW m≠0 then fW m else uF m
theorem Kb(m:Mb):fW m=0\/fW m=14:=by
 unfold fW;split
 ·exact .inl rfl
 ·exact .inr rfl
theorem Fb(m:Mb)(hm:jT m)(inter:Bool)(was:Int)(hw : -1000000<=was/\was<=1000000):bt prog 62 [.agg (mC m),.one (.bool inter),.one (.int .i64 was)] [] (.one (.int .i64 (dH m inter was))) []:=by
 have hkind:=hm.kind;have hqp:=hm.qp;have hvv:=Kb m
 obtain⟨a,ha⟩:∃a,alone m=a:=⟨_,rfl⟩
 obtain⟨e,he⟩:∃e,m.edge=e:=⟨_,rfl⟩
 obtain⟨st,hst⟩:∃st,eF was m.qp=st:=⟨_,rfl⟩
 have hC:mC m = .int .u8 m.kind :: .int .i64 m.qp::c7 (m.v 0)::c7 (m.v 1)::c7 (m.v 2)::c7 (m.v 3) :: .bool e::ti .i64 384 m.lev:=by rw[<-he];rfl
 have al:∀{HS:aj},Nat.blt HS.length Mem.bound=true->aA.Sound prog ⟨42,[.agg (mC m)],HS,.one (.bool a),HS,[]⟩:=fun hb=>lW ha hb
 have sl:∀{HS:aj},Nat.blt HS.length Mem.bound=true->aA.Sound prog ⟨85,[.one (.int .i64 was),.one (.int .i64 m.qp)],HS,.tup [.one (.int .i64 st.1),.one (.bool st.2)],HS,[]⟩:=fun hb=>by
  have:=yR hw hqp hb;rw[hst]at this;exact this
 have hl6:(mC m)[6]? = some (.bool e):=by rw[hC];rfl
 obtain⟨s1,s2⟩:=st;cases inter<;>cases a<;>cases e<;>cases s2
 all_goals
  refine cO Tryz.func62 ?_
  repeat' (first
   |(refine qz ?_;first
    |refine ld (hc:=hl6) ?_
    |refine jI ?_ (hle:=by rw[bn])
    |refine cl ?_ (hi:=by exact al rfl)
    |refine cl ?_ (hi:=by exact sl rfl)
    |refine cl ?_ (hi:=by exact MU hm rfl)
    |refine cl ?_ (hi:=by exact LR hm rfl))
   |refine zz ?_|refine zx (fun _=>?_) (fun _=>?_)|fail)
  all_goals
   show aE _ _ _ _ _ _ _ _;refine kV [] ?_;unfold dH;rw[ha,he,hst];simp only[Bool.false_eq_true,Bool.true_eq_false,and_true,and_false,true_and,false_and,or_false,or_true,if_true,if_false,true_or,not_true,not_false_eq_true]
   repeat' split
   all_goals first
    | rfl
    | (exfalso;omega)
theorem HF{m:Mb}(hm:jT m){inter:Bool}{was:Int}(hw : -1000000<=was/\was<=1000000){HS:aj}(hb:Nat.blt HS.length Mem.bound=true):aA.Sound prog ⟨62,[.agg (mC m),.one (.bool inter),.one (.int .i64 was)],HS,.one (.int .i64 (dH m inter was)),HS,[]⟩:=
 az (Fb m hm inter was hw) (by show((mC m).all XC.shut&&(true&&(true&&true)))=true;rw[jY];rfl) rfl hb
structure Hd where
 cols:Int
 rows:Int
 w:Bool
 a:Nat->Int
 b:Nat->Int
def dY(h:Hd):List XC := .bool h.w::(ti .u8 64 h.a++ti .u8 64 h.b)
def b9(h:Hd):List XC := .int .i64 h.cols :: .int .i64 h.rows::dY h
theorem iI(h:Hd):(dY h).length=129:=by simp[dY,aU]
theorem aF(h:Hd):(b9 h).length=131:=by simp[b9,iI]
theorem oZ(h:Hd):(dY h).all XC.shut=true:=by simp[dY,ti,XC.shut]
theorem cW(h:Hd):(b9 h).all XC.shut=true:=by simp[b9,dY,ti,XC.shut]
theorem JX(h:Hd){i:Nat}(hi:i<64):(dY h)[1+i]? = some (.int .u8 (h.a i)):=by
 unfold dY;rw[Nat.add_comm,List.getElem?_cons_succ,List.getElem?_append_left (by rw[aU];exact hi),jM hi]
theorem JY(h:Hd){i:Nat}(hi:i<64):(dY h)[65+i]? = some (.int .u8 (h.b i)):=by
 unfold dY;rw[show 65+i=(64+i)+1 by omega,List.getElem?_cons_succ,List.getElem?_append_right (by rw[aU];omega),aU,show 64+i-64=i by omega,jM hi]
instance R1 (h:Hd):b8 (.agg (b9 h)):=eL (cW h)
instance Q2 (h:Hd) (e:TypeId) (a b:Bool):cA (.cells (dY h) e a b):=iA (oZ h)
instance R2 (h:Hd) (e:TypeId) (a b:Bool):cA (.cells (b9 h) e a b):=iA (cW h)
theorem DU(h:Hd):((b9 h).drop 2).take 129=dY h:=by
 show(dY h).take 129=_;rw[List.take_of_length_le (by rw[iI];omega)]
def uN(g z:Nat->Int)(i j:Nat):Int:=if j<i then g j else z j
theorem qN(g z:Nat->Int)(i:Nat):fY (uN g z i) i (g i)=uN g z (i+1):=by
 funext j
 unfold fY uN
 by_cases h:j=i
 ·subst h;simp
 ·by_cases h1:j<i
  ·rw[if_neg h,if_pos h1,if_pos (by omega)]
  ·rw[if_neg h,if_neg h1,if_neg (by omega)]
theorem qO(g z:Nat->Int):uN g z 0=z:=by funext j;simp[uN]
end Go.Proofs.YthdciapjllppjaaGreat
