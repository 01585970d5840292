/-
  A part of the proof: Modes2, Hd0.
-/
import Derived.Test.YthdciapjllppjaaGreatWaE
import Derived.Test.YthdciapjllppjaaGreatWaF
import Derived.Test.YthdciapjllppjaaGreatWaO
set_option maxRecDepth 10000
set_option maxHeartbeats 8000000
set_option linter.unusedVariables false
set_option linter.unusedSectionVars false
set_option linter.unusedSimpArgs false
open Go.Proofs.Tryz (prog)
namespace Go.Proofs.YthdciapjllppjaaGreat
open Go.Xm
variable [ak]
def zJ(m:Mb)(i:Nat):Prop:=(m.kind=0->m.lev i=0)/\(-2047<=m.lev i/\m.lev i<=2047)/\(i%64=0->alone m=true->0<=m.lev i/\m.lev i<=127)
open Classical in
noncomputable def uv(m:Mb):Int:=if ∀i,i<384->zJ m i then 0 else 2
theorem Ih(m : Mb)(hm:jR m):bq prog 87 [.agg (mC m)] [] (.one (.int .i64 (uv m))) []:=by
 have hkind:=hm.kind;refine cO Tryz.func87 ?_
 repeat' (first
  |(refine qz ?_;first
   |refine rG (cs:=ti .i64 384 m.lev) ?_ (hle:=by rw[bl];decide) (hc:=Il m))
  |refine zz ?_|refine zx (fun _=>?_) (fun _=>?_)|fail)
 refine WX.cj (σ:=Nat) (fun k=>[(9,.one (.int .i64 (k:Nat))),(1,.one (.ptr 0 0)),(8,.agg (ti .i64 384 m.lev))]) (fun _=>[Oo m]) (fun k=>k<=6/\∀i,i<k*64->zJ m i) (fun k=>6-k) 0 ⟨by omega,fun i hi=>by omega⟩ (fun s _=>nf) (bV [0]) ?_;intro k ⟨hk,hall⟩ ih
 by_cases hk6:k<6
 ·repeat' (first
   |(refine qz ?_;first
    |refine Lm (n:=384) ?_
    |refine nr ?_ (hs1:=by rw[aT]) (hs2:=by rw[aT])
    |refine jV ?_ (hle:=by rw[aT]))
   |refine zz ?_|refine zx (fun _=>?_) (fun _=>?_)|fail)
  refine WX.cj (σ:=Nat) (fun j=>[(13,.one (.int .i64 (j:Nat))),(1,.one (.ptr 0 0)),(8,.agg (ti .i64 384 m.lev)),(9,.one (.int .i64 (k:Nat))),(12,.agg (ti .i64 64 fun i=>m.lev (k*64+i)))]) (fun _=>[Oo m]) (fun j=>j<=64/\∀i,i<k*64+j->zJ m i) (fun j=>64-j) 0 ⟨by omega,hall⟩ (fun s _=>nf) (bV [0]) ?_;intro j ⟨hj,hall2⟩ ih2
  by_cases hj64:j<64
  ·have hd : m.lev (k*64+j)=m.lev (k*64+(j:Int).toNat):=rfl;have hl:=hm.lev (k*64+j)
   repeat' (first
    |(refine qz ?_;first
     |refine QU (n:=64) (q:=fun i=>m.lev (k*64+i)) ?_
     |refine jV ?_ (hle:=by rw[bl])
     |refine BE (fun ga=>?_) (fun ga=>?_) (hi:=by exact tH rfl))
    |refine zz ?_|refine zx (fun _=>?_) (fun _=>?_)|fail)
   all_goals
    first
     | (refine ih2 (j+1) _ _ _ (bV [0]) ⟨by omega,fun i hi=>?_⟩ (by omega)
        by_cases hij:i=k*64+j
        ·subst hij;unfold zJ;simp only[Int.toNat_natCast]at *;refine⟨fun _=>by omega,by omega,fun h64 hal=>?_⟩
         first
          | omega
          | (rw[hal]at ga;cases ga)
        ·exact hall2 i (by omega))
     | (show aE _ _ _ _ _ _ _ _;refine kV [] ?_
        rw [show uv m=2 from if_neg (fun hall=>by
         obtain⟨p1,p2,p3⟩:=hall (k*64+j) (by omega);simp only[Int.toNat_natCast]at *
         first
          | omega
          | (have:=p3 (by omega) ga;omega))]
        rfl)
  ·repeat' (first|refine zz ?_|refine zx (fun _=>?_) (fun _=>?_)|fail)
   refine ih (k+1) _ _ _ (bV [0]) ⟨by omega,fun i hi=>hall2 i (by omega)⟩ (by omega)
 ·repeat' (first|refine zz ?_|refine zx (fun _=>?_) (fun _=>?_)|fail)
  show aE _ _ _ _ _ _ _ _;refine kV [] ?_;rw[show uv m=0 from if_pos (fun i hi=>hall i (by omega))];rfl
theorem Lt{m:Mb}(hm:jR m){HS:ah}(hb:Nat.blt HS.length Mem.bound=true):az.Sound prog ⟨87,[.agg (mC m)],HS,.one (.int .i64 (uv m)),HS,[]⟩:=
 ay (Ih m hm) (by simp only[List.all_cons,List.all_nil,Bool.and_true];exact jW m) rfl hb
theorem lR{m:Mb}{b:Bool}(h:alone m=b){HS:ah}(hb:Nat.blt HS.length Mem.bound=true):az.Sound prog ⟨42,[.agg (mC m)],HS,.one (.bool b),HS,[]⟩:=by
 subst h;exact tH hb
noncomputable def dD(m:Mb)(inter:Bool)(was:Int):Int:=
 if 5<=m.kind\/(inter=false/\alone m=false)then 5
 else if m.edge=true/\alone m=false then 4
 else if m.kind=4/\(ep was m.qp).2=false then 6
 else if m.kind≠4/\m.qp≠was then 6
 else if fS m≠0 then fS m else uv m
theorem JS(m:Mb):fS m=0\/fS m=14:=by
 unfold fS;split
 ·exact .inl rfl
 ·exact .inr rfl
theorem EN(m:Mb)(hm:jR m)(inter:Bool)(was:Int)(hw : -1000000<=was/\was<=1000000):bq prog 62 [.agg (mC m),.one (.bool inter),.one (.int .i64 was)] [] (.one (.int .i64 (dD m inter was))) []:=by
 have hkind:=hm.kind;have hqp:=hm.qp;have hvv:=JS m
 obtain⟨a,ha⟩:∃a,alone m=a:=⟨_,rfl⟩
 obtain⟨e,he⟩:∃e,m.edge=e:=⟨_,rfl⟩
 obtain⟨st,hst⟩:∃st,ep was m.qp=st:=⟨_,rfl⟩
 have hC:mC m = .int .u8 m.kind :: .int .i64 m.qp::cS (m.v 0)::cS (m.v 1)::cS (m.v 2)::cS (m.v 3) :: .bool e::ti .i64 384 m.lev:=by rw[<-he];rfl
 have al:∀{HS:ah},Nat.blt HS.length Mem.bound=true->az.Sound prog ⟨42,[.agg (mC m)],HS,.one (.bool a),HS,[]⟩:=fun hb=>lR ha hb
 have sl:∀{HS:ah},Nat.blt HS.length Mem.bound=true->az.Sound prog ⟨85,[.one (.int .i64 was),.one (.int .i64 m.qp)],HS,.tup [.one (.int .i64 st.1),.one (.bool st.2)],HS,[]⟩:=fun hb=>by
  have:=yB hw hqp hb;rw[hst]at this;exact this
 have hl6:(mC m)[6]? = some (.bool e):=by rw[hC];rfl
 obtain⟨s1,s2⟩:=st;cases inter<;>cases a<;>cases e<;>cases s2
 all_goals
  refine cO Tryz.func62 ?_
  repeat' (first
   |(refine qz ?_;first
    |refine ld (hc:=hl6) ?_
    |refine jV ?_ (hle:=by rw[bl])
    |refine cl ?_ (hi:=by exact al rfl)
    |refine cl ?_ (hi:=by exact sl rfl)
    |refine cl ?_ (hi:=by exact My hm rfl)
    |refine cl ?_ (hi:=by exact Lt hm rfl))
   |refine zz ?_|refine zx (fun _=>?_) (fun _=>?_)|fail)
  all_goals
   show aE _ _ _ _ _ _ _ _;refine kV [] ?_;unfold dD;rw[ha,he,hst];simp only[Bool.false_eq_true,Bool.true_eq_false,and_true,and_false,true_and,false_and,or_false,or_true,if_true,if_false,true_or,not_true,not_false_eq_true]
   repeat' split
   all_goals first
    | rfl
    | (exfalso;omega)
theorem Hh{m:Mb}(hm:jR m){inter:Bool}{was:Int}(hw : -1000000<=was/\was<=1000000){HS:ah}(hb:Nat.blt HS.length Mem.bound=true):az.Sound prog ⟨62,[.agg (mC m),.one (.bool inter),.one (.int .i64 was)],HS,.one (.int .i64 (dD m inter was)),HS,[]⟩:=
 ay (EN m hm inter was hw) (by show((mC m).all XC.shut&&(true&&(true&&true)))=true;rw[jW];rfl) rfl hb
structure Hd where
 cols:Int
 rows:Int
 w:Bool
 a:Nat->Int
 b:Nat->Int
def dU(h:Hd):List XC := .bool h.w::(ti .u8 64 h.a++ti .u8 64 h.b)
def b7(h:Hd):List XC := .int .i64 h.cols :: .int .i64 h.rows::dU h
theorem iF(h:Hd):(dU h).length=129:=by simp[dU,aT]
theorem aD(h:Hd):(b7 h).length=131:=by simp[b7,iF]
theorem oM(h:Hd):(dU h).all XC.shut=true:=by simp[dU,ti,XC.shut]
theorem cN(h:Hd):(b7 h).all XC.shut=true:=by simp[b7,dU,ti,XC.shut]
theorem JC(h:Hd){i:Nat}(hi:i<64):(dU h)[1+i]? = some (.int .u8 (h.a i)):=by
 unfold dU;rw[Nat.add_comm,List.getElem?_cons_succ,List.getElem?_append_left (by rw[aT];exact hi),jK hi]
theorem JD(h:Hd){i:Nat}(hi:i<64):(dU h)[65+i]? = some (.int .u8 (h.b i)):=by
 unfold dU;rw[show 65+i=(64+i)+1 by omega,List.getElem?_cons_succ,List.getElem?_append_right (by rw[aT];omega),aT,show 64+i-64=i by omega,jK hi]
instance RG (h:Hd):bZ (.agg (b7 h)):=eI (cN h)
instance QK (h:Hd) (e:TypeId) (a b:Bool):cu (.cells (dU h) e a b):=iz (oM h)
instance RI (h:Hd) (e:TypeId) (a b:Bool):cu (.cells (b7 h) e a b):=iz (cN h)
theorem Dz(h:Hd):((b7 h).drop 2).take 129=dU h:=by
 show(dU h).take 129=_;rw[List.take_of_length_le (by rw[iF];omega)]
def uE(g z:Nat->Int)(i j:Nat):Int:=if j<i then g j else z j
theorem qx(g z:Nat->Int)(i:Nat):fV (uE g z i) i (g i)=uE g z (i+1):=by
 funext j
 unfold fV uE
 by_cases h:j=i
 ·subst h;simp
 ·by_cases h1:j<i
  ·rw[if_neg h,if_pos h1,if_pos (by omega)]
  ·rw[if_neg h,if_neg h1,if_neg (by omega)]
theorem qy(g z:Nat->Int):uE g z 0=z:=by funext j;simp[uE]
end Go.Proofs.YthdciapjllppjaaGreat
