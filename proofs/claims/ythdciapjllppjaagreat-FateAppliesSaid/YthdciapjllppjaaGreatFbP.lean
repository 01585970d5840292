/-
  A part of the proof: Modes2, Hd0.
-/
import Derived.Test.YthdciapjllppjaaGreatFbF
import Derived.Test.YthdciapjllppjaaGreatFbO
set_option maxRecDepth 10000
set_option maxHeartbeats 8000000
set_option linter.unusedVariables false
set_option linter.unusedSectionVars false
set_option linter.unusedSimpArgs false
open Go.Proofs.Tryz (prog)
namespace Go.Proofs.YthdciapjllppjaaGreat
open Go.Xm
variable [av]
def zP(m:Mb)(i:Nat):Prop:=(m.kind=0->m.lev i=0)/\(-2047<=m.lev i/\m.lev i<=2047)/\(i%64=0->alone m=true->0<=m.lev i/\m.lev i<=127)
open Classical in
noncomputable def uc(m:Mb):Int:=if ∀i,i<384->zP m i then 0 else 2
theorem IC(m : Mb)(hm:iU m):bm prog 87 [.agg (mC m)] [] (.one (.int .i64 (uc m))) []:=by
 have hkind:=hm.kind;refine cO Tryz.func87 ?_
 repeat' (first
  |(refine qz ?_;first
   |refine t_ (cs:=ti .i64 384 m.lev) ?_ (hle:=by rw[aY];decide) (hc:=IH m))
  |refine zz ?_|refine zx (fun _=>?_) (fun _=>?_)|fail)
 refine WX.bQ (σ:=Nat) (fun k=>[(9,.one (.int .i64 (k:Nat))),(1,.one (.ptr 0 0)),(8,.agg (ti .i64 384 m.lev))]) (fun _=>[Oo m]) (fun k=>k<=6/\∀i,i<k*64->zP m i) (fun k=>6-k) 0 ⟨by omega,fun i hi=>by omega⟩ (fun s _=>mE) (bq [0]) ?_;intro k ⟨hk,hall⟩ ih
 by_cases hk6:k<6
 ·repeat' (first
   |(refine qz ?_;first
    |refine Ls (n:=384) ?_
    |refine tk ?_ (hs1:=by rw[aS]) (hs2:=by rw[aS])
    |refine lI ?_ (hle:=by rw[aS]))
   |refine zz ?_|refine zx (fun _=>?_) (fun _=>?_)|fail)
  refine WX.bQ (σ:=Nat) (fun j=>[(13,.one (.int .i64 (j:Nat))),(1,.one (.ptr 0 0)),(8,.agg (ti .i64 384 m.lev)),(9,.one (.int .i64 (k:Nat))),(12,.agg (ti .i64 64 fun i=>m.lev (k*64+i)))]) (fun _=>[Oo m]) (fun j=>j<=64/\∀i,i<k*64+j->zP m i) (fun j=>64-j) 0 ⟨by omega,hall⟩ (fun s _=>mE) (bq [0]) ?_;intro j ⟨hj,hall2⟩ ih2
  by_cases hj64:j<64
  ·have hd : m.lev (k*64+j)=m.lev (k*64+(j:Int).toNat):=rfl;have hl:=hm.lev (k*64+j)
   repeat' (first
    |(refine qz ?_;first
     |refine QC (n:=64) (q:=fun i=>m.lev (k*64+i)) ?_
     |refine lI ?_ (hle:=by rw[aY])
     |refine BD (fun ga=>?_) (fun ga=>?_) (hi:=by exact p7 rfl))
    |refine zz ?_|refine zx (fun _=>?_) (fun _=>?_)|fail)
   all_goals
    first
     | (refine ih2 (j+1) _ _ _ (bq [0]) ⟨by omega,fun i hi=>?_⟩ (by omega)
        by_cases hij:i=k*64+j
        ·subst hij;unfold zP;simp only[Int.toNat_natCast]at *;refine⟨fun _=>by omega,by omega,fun h64 hal=>?_⟩
         first
          | omega
          | (rw[hal]at ga;cases ga)
        ·exact hall2 i (by omega))
     | (show aE _ _ _ _ _ _ _ _;refine kV [] ?_
        rw [show uc m=2 from if_neg (fun hall=>by
         obtain⟨p1,p2,p3⟩:=hall (k*64+j) (by omega);simp only[Int.toNat_natCast]at *
         first
          | omega
          | (have:=p3 (by omega) ga;omega))]
        rfl)
  ·repeat' (first|refine zz ?_|refine zx (fun _=>?_) (fun _=>?_)|fail)
   refine ih (k+1) _ _ _ (bq [0]) ⟨by omega,fun i hi=>hall2 i (by omega)⟩ (by omega)
 ·repeat' (first|refine zz ?_|refine zx (fun _=>?_) (fun _=>?_)|fail)
  show aE _ _ _ _ _ _ _ _;refine kV [] ?_;rw[show uc m=0 from if_pos (fun i hi=>hall i (by omega))];rfl
theorem Lz{m:Mb}(hm:iU m){HS:ah}(hb:Nat.blt HS.length Mem.bound=true):aA.Sound prog ⟨87,[.agg (mC m)],HS,.one (.int .i64 (uc m)),HS,[]⟩:=
 ay (IC m hm) (by simp only[List.all_cons,List.all_nil,Bool.and_true];exact jC m) rfl hb
theorem lD{m:Mb}{b:Bool}(h:alone m=b){HS:ah}(hb:Nat.blt HS.length Mem.bound=true):aA.Sound prog ⟨42,[.agg (mC m)],HS,.one (.bool b),HS,[]⟩:=by
 subst h;exact p7 hb
noncomputable def db(m:Mb)(inter:Bool)(was:Int):Int:=
 if 5<=m.kind\/(inter=false/\alone m=false)then 5
 else if m.edge=true/\alone m=false then 4
 else if m.kind=4/\(ei was m.qp).2=false then 6
 else if m.kind≠4/\m.qp≠was then 6
 else if fA m≠0 then fA m else uc m
theorem J0(m:Mb):fA m=0\/fA m=14:=by
 unfold fA;split
 ·exact .inl rfl
 ·exact .inr rfl
theorem EL(m:Mb)(hm:iU m)(inter:Bool)(was:Int)(hw : -1000000<=was/\was<=1000000):bm prog 62 [.agg (mC m),.one (.bool inter),.one (.int .i64 was)] [] (.one (.int .i64 (db m inter was))) []:=by
 have hkind:=hm.kind;have hqp:=hm.qp;have hvv:=J0 m
 obtain⟨a,ha⟩:∃a,alone m=a:=⟨_,rfl⟩
 obtain⟨e,he⟩:∃e,m.edge=e:=⟨_,rfl⟩
 obtain⟨st,hst⟩:∃st,ei was m.qp=st:=⟨_,rfl⟩
 have hC:mC m = .int .u8 m.kind :: .int .i64 m.qp::cI (m.v 0)::cI (m.v 1)::cI (m.v 2)::cI (m.v 3) :: .bool e::ti .i64 384 m.lev:=by rw[<-he];rfl
 have al:∀{HS:ah},Nat.blt HS.length Mem.bound=true->aA.Sound prog ⟨42,[.agg (mC m)],HS,.one (.bool a),HS,[]⟩:=fun hb=>lD ha hb
 have sl:∀{HS:ah},Nat.blt HS.length Mem.bound=true->aA.Sound prog ⟨85,[.one (.int .i64 was),.one (.int .i64 m.qp)],HS,.tup [.one (.int .i64 st.1),.one (.bool st.2)],HS,[]⟩:=fun hb=>by
  have:=yF hw hqp hb;rw[hst]at this;exact this
 have hl6:(mC m)[6]? = some (.bool e):=by rw[hC];rfl
 obtain⟨s1,s2⟩:=st;cases inter<;>cases a<;>cases e<;>cases s2
 all_goals
  refine cO Tryz.func62 ?_
  repeat' (first
   |(refine qz ?_;first
    |refine ld (hc:=hl6) ?_
    |refine lI ?_ (hle:=by rw[aY])
    |refine cl ?_ (hi:=by exact al rfl)
    |refine cl ?_ (hi:=by exact sl rfl)
    |refine cl ?_ (hi:=by exact MC hm rfl)
    |refine cl ?_ (hi:=by exact Lz hm rfl))
   |refine zz ?_|refine zx (fun _=>?_) (fun _=>?_)|fail)
  all_goals
   show aE _ _ _ _ _ _ _ _;refine kV [] ?_;unfold db;rw[ha,he,hst];simp only[Bool.false_eq_true,Bool.true_eq_false,and_true,and_false,true_and,false_and,or_false,or_true,if_true,if_false,true_or,not_true,not_false_eq_true]
   repeat' split
   all_goals first
    | rfl
    | (exfalso;omega)
theorem Hy{m:Mb}(hm:iU m){inter:Bool}{was:Int}(hw : -1000000<=was/\was<=1000000){HS:ah}(hb:Nat.blt HS.length Mem.bound=true):aA.Sound prog ⟨62,[.agg (mC m),.one (.bool inter),.one (.int .i64 was)],HS,.one (.int .i64 (db m inter was)),HS,[]⟩:=
 ay (EL m hm inter was hw) (by show((mC m).all XC.shut&&(true&&(true&&true)))=true;rw[jC];rfl) rfl hb
structure Hd where
 cols:Int
 rows:Int
 w:Bool
 a:Nat->Int
 b:Nat->Int
def dP(h:Hd):List XC := .bool h.w::(ti .u8 64 h.a++ti .u8 64 h.b)
def gV(h:Hd):List XC := .int .i64 h.cols :: .int .i64 h.rows::dP h
theorem ie(h:Hd):(dP h).length=129:=by simp[dP,aS]
theorem cu(h:Hd):(gV h).length=131:=by simp[gV,ie]
theorem oF(h:Hd):(dP h).all XC.shut=true:=by simp[dP,ti,XC.shut]
theorem eC(h:Hd):(gV h).all XC.shut=true:=by simp[gV,dP,ti,XC.shut]
theorem JN(h:Hd){i:Nat}(hi:i<64):(dP h)[1+i]? = some (.int .u8 (h.a i)):=by
 unfold dP;rw[Nat.add_comm,List.getElem?_cons_succ,List.getElem?_append_left (by rw[aS];exact hi),lu hi]
theorem JO(h:Hd){i:Nat}(hi:i<64):(dP h)[65+i]? = some (.int .u8 (h.b i)):=by
 unfold dP;rw[show 65+i=(64+i)+1 by omega,List.getElem?_cons_succ,List.getElem?_append_right (by rw[aS];omega),aS,show 64+i-64=i by omega,lu hi]
instance Rj (h:Hd):b7 (.agg (gV h)):=i5 (eC h)
instance Qs (h:Hd) (e:TypeId) (a b:Bool):b9 (.cells (dP h) e a b):=gq (oF h)
instance Rk (h:Hd) (e:TypeId) (a b:Bool):b9 (.cells (gV h) e a b):=gq (eC h)
theorem Dy(h:Hd):((gV h).drop 2).take 129=dP h:=by
 show(dP h).take 129=_;rw[List.take_of_length_le (by rw[ie];omega)]
def uv(g z:Nat->Int)(i j:Nat):Int:=if j<i then g j else z j
theorem qy(g z:Nat->Int)(i:Nat):gG (uv g z i) i (g i)=uv g z (i+1):=by
 funext j
 unfold gG uv
 by_cases h:j=i
 ·subst h;simp
 ·by_cases h1:j<i
  ·rw[if_neg h,if_pos h1,if_pos (by omega)]
  ·rw[if_neg h,if_neg h1,if_neg (by omega)]
theorem qA(g z:Nat->Int):uv g z 0=z:=by funext j;simp[uv]
end Go.Proofs.YthdciapjllppjaaGreat
