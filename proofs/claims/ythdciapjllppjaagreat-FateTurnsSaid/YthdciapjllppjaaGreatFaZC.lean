/-
  A part of the proof: StrS, StrV, FtI, FtJ.
-/
import Derived.Test.YthdciapjllppjaaGreatFaW
import Derived.Test.YthdciapjllppjaaGreatFaX
import Derived.Test.YthdciapjllppjaaGreatFaY
import Derived.Test.YthdciapjllppjaaGreatFaZA
import Derived.Test.YthdciapjllppjaaGreatFaZB
set_option maxRecDepth 10000
set_option maxHeartbeats 8000000
set_option linter.unusedVariables false
set_option linter.unusedSectionVars false
set_option linter.unusedSimpArgs false
open Go.Proofs.Tryz (prog)
namespace Go.Xm
variable [av]
section
variable {P:Program} {ops:Array Oper} {nt nI:Nat} {al:aL} {hs:ah} {o:Oper} {l:List Oper} {L:List aA} {K:List Ab->aL->ah->Prop} {d:Nat}
theorem Rc{t t1 e e1:TypeId}{sz len:Nat}{a b:Operand}{zs:List XC}(i n:Nat){j:Nat}{cap:nQ}(cs:List XC){vs:List XC}{et:TypeId}{opn ro:Bool}{N:Nat}{hs':ah}(hk:SK P ops nt L l ((d,dV N (n+len) sz)::al) hs' fun bs=>K (⟨true,.none,[i,N]⟩::bs))(ho:o.op = .call ⟨.builtin .append,#[a,b],#[t,t1]⟩:=by exact rfl)(hu:aG P t (.slice e):=by infer_instance)(hu1:aG P t1 (.slice e1):=by infer_instance)(hz:aK P e zs:=by infer_instance)(hI:TI P e sz:=by infer_instance)(wn:Wn ops nt al o d:=by exact⟨rfl,rfl,rfl⟩)(hsz:zs.length=sz/\0<sz:=by exact⟨rfl,Nat.le_of_ble_eq_true rfl⟩)(ha:ag (rg al) a=dV i n sz:=by exact rfl)(hi:hs[i]? = some (bu e cs):=by exact rfl)(hb:ag (rg al) b = .one (.slice j 0 len cap):=by exact rfl)(hj:hs[j]? = some (.cells vs et opn ro):=by exact rfl)(hl:vs.length=len*sz:=by exact rfl)(hn:cs.length=n*sz:=by exact rfl)(hm:0<len/\n+len<=2000000000:=by omega)(hN:hs.length=N:=by exact n2)(hbd:Nat.blt N Mem.bound=true:=by exact rfl)(hh:hs.set i .dead++[bu e (cs++vs)]=hs':=by first|(simp only[List.set_cons_succ,List.set_cons_zero,List.cons_append,List.nil_append];exact rfl)|exact rfl):SK P ops nt L (o::l) al hs K:=by
 have hpos:0<len*sz:=Nat.mul_pos hm.1 hsz.2
 have hne:cs++vs≠[]:=fun e=>by
  have h2:(cs++vs).length=0:=by rw[e];rfl
  rw[List.length_append]at h2;omega
 refine TG i n cs ?_ ho hu hu1 hz hI wn hsz ha hi hb hj hl hn hm hN hbd (hs':=hs') ?_
 ·rw[c_ (by omega)]at hk;exact hk
 ·rw[<-hh,bJ hne]
end
theorem aO.bu{i g m:Nat}{A B:XC}{L:List (List XC)}{vs cs:List XC}{e:TypeId}{j:Nat}{hs hs2:ah}(hj:Nat.beq j i=false)(hn:∀c∈cs,c.iA g m)(h:aO i g m A B L vs (j+1) hs hs2):aO i g m A B L vs j (Xm.bu e cs::hs) (Xm.bu e cs::hs2):=by
 cases cs with
 | nil=>exact .dead h
 | cons c r=>exact .cells hj (.same hn) h
theorem cL.iA{c:XC}{i off n g m:Nat}(h:cL c i off n)(hi:i≠g):c.iA g m:=by
 rcases h with⟨_,rfl|⟨_,_,rfl⟩⟩|⟨cap,_,rfl⟩<;>first|trivial|exact hi
end Go.Xm
namespace Go.Proofs.YthdciapjllppjaaGreat
open Go.Xm
variable [av]
def A5(pics:List tD):List tD:=if pics.length=0 then [default]else pics
theorem MV(pics:List tD)(i:Nat):(A5 pics).getD i default=pics.getD i default:=by
 unfold A5;split
 ·rename_i h;rw[List.length_eq_zero_iff.1 h];cases i<;>rfl
 ·rfl
theorem J1(pics:List tD):lu pics<=(A5 pics).length:=by
 unfold lu A5;split
 ·exact Nat.le_refl _
 ·exact Nat.min_le_left _ _
theorem D6{h:Hd}{c0 c1:XC}{n n' g m:Nat}(k0:cL c0 0 0 n)(k1:cL c1 1 0 n')(h0:0≠g)(h1:1≠g):∀x∈rY h c0 c1,x.iA g m:=fun x hx=>by
 rcases List.mem_append.1 (show x∈ij h++[c0,c1]from hx)with hx|hx
 ·exact XC.i5 (XC.bj (List.all_eq_true.1 (eO h) x hx) 0)
 ·simp only[List.mem_cons,List.not_mem_nil,or_false]at hx
  rcases hx with rfl|rfl
  ·exact k0.iA h0
  ·exact k1.iA h1
theorem tU{k n z g m:Nat}(h:k≠g):(fk k n z).iA g m:=by
 unfold fk;split
 ·trivial
 ·exact h
theorem KI{τ : Nat->Nat}{HS:ah}{i:Nat}{ls:List Nat}{hs:ah}{h:Hd}{c c0:XC}{a b:Bool}(hc:c.aC τ = c0)(hi:HS[i]? = some (.cells (d9 h c0) 36 a b))(r:af τ HS ls hs):af τ HS (i::ls) (.cells (d9 h c) 36 a b::hs):=by
 refine af.cons ?_ r;rw[hi];simp only[d9,aj.aC,List.map_append,qL,List.map_cons,List.map_nil,hc]
theorem Nu{g m:Nat}{A B:XC}(h:Hd):cU g m A B (d9 h A) (d9 h B):=
 cU.app (.same fun c hc=>XC.i5 (XC.bj (List.all_eq_true.1 (eO h) c hc) 0)) (.cons .uC (.same fun _ h=>nomatch h))
theorem i_{cs:List XC}{e:TypeId}{n:Nat}(h:∀c∈cs,c.ok n):(bu e cs).bt n:=by
 cases cs with
 | nil=>trivial
 | cons c r=>exact h
theorem dP{τ : Nat->Nat}{HS:ah}{i:Nat}{ls:List Nat}{hs:ah}{vs:List XC}{e:TypeId}{g m:Nat}(hl:∀c∈vs,c.f7 m=true)(hi:HS[i]? = some (bu e (vs.map (·.self g))))(hg : τ g=g)(r:af τ HS ls hs):af τ HS (i::ls) (bu e (vs.map (·.self g))::hs):=by
 refine af.cons ?_ r;rw[hi]
 cases hv:vs.map (·.self g)with
 | nil=>rfl
 | cons c r=>
   have:=oU hl g τ;rw[hg,hv]at this;show some (aj.cells (c::r) e true false)=some (.cells ((c::r).map (·.aC τ)) e true false);rw[this]
theorem fE{vs:List XC}{m:Nat}(h:∀c∈vs,c.f7 m=true){g n:Nat}(hg:g<n):∀c∈vs.map (·.self g),c.ok n:=rl (t:=0) (a:=false) (b:=false) h hg
theorem Aq{l:List Sm}{inter:Bool}{qp:Int}{many all n0 j:Nat}(h:(gL l inter qp many all n0 j).2=all):∀k,gL l inter qp many all n0 (j+k)=gL l inter qp many all n0 j
 | 0=>rfl
 | k+1=>by
   rw[<-Nat.add_assoc,gL,Aq h k,h,if_neg (Nat.lt_irrefl _)]
theorem NX:aK prog 84 (eP default):=by
 show aK prog 84 [.bool false,.bool false,.int .u8 0,.int .u8 0]
 infer_instance
structure SQ where
 X:aj
 j:Nat
 c:XC
theorem Dh{h : Hd}(hhr:pn h){pics:List tD}(hpp:∀j,j<pics.length->j8 (pics.getD j default)){l:List Sm}(hll:∀j,j<l.length->iP (l.getD j default)){ob0 ob1:aj}(hr0:B5 ob0 eP pics)(hr1:B5 ob1 tV l){c0 c1:XC}(hc0:cL c0 0 0 pics.length)(hc1:cL c1 1 0 l.length)(hn0:pics.length<=30)(hn1:l.length<=300) :
 bm prog 11 [.agg (rY h c0 c1)] [ob0,ob1] (.agg (d9 (jt h) (.lsl 2 (wide (tt h pics l).ps) 0 (lu pics) (lu pics) 0))) [ob0,ob1,.late (Gc (tt h pics l).ps)]:=by
 have hfo0:=hr0.flat;have hfo1:=hr1.flat
 obtain⟨G,hG⟩:∃G,jt h=G:=⟨_,rfl⟩
 have hset:(ij {fe h with cols:=1+(fe h).cols%3}).set 1 (.int .i64 (1+(fe h).rows%3))=ij G:=by rw[<-hG];rfl
 have hlen:131=(ij G).length:=(cz _).symm;have hfc:1<=(fe h).cols/\(fe h).cols<=8:=by show 1<=1+h.cols%2^3/\1+h.cols%2^3<=8;omega
 have hfr:1<=(fe h).rows/\(fe h).rows<=8:=by show 1<=1+h.rows%2^3/\1+h.rows%2^3<=8;omega
 obtain⟨np,hnp⟩:∃n,lu pics=n:=⟨_,rfl⟩
 have hnp5:1<=np/\np<=5:=by rw[<-hnp];unfold lu;split<;>omega
 refine cO Tryz.func11 ?_;refine WX.bU rfl ?_
 repeat' (first
  |(refine qz ?_;first
   |refine nH (zs:=ij wX) (hz:=Ly) ?_
   |refine nH (zs:=d9 wX .nils) (hz:=zP) ?_
   |refine uN (cs:=ij h) ?_ (hle:=by rw[D5];decide) (hc:=OT h c0 c1)
   |refine cl ?_ (hi:=by exact IV hhr rfl rfl)
   |refine tq (cs:=ij (fe h)) ?_ (hs1:=by rw[cz]) (hs2:=by rw[cz])
   |refine st ?_ (hle:=by rw[cz];omega) (hv:=hset)
   |refine st (c := .int .i64 (1+(fe h).cols%3)) ?_ (hle:=by rw[cz];omega) (hv:=I1 _ _)
   |refine lg ?_ (hle:=by rw[cz])
   |refine ld (c:=c0) ?_ (hc:=D3 h c0 c1)
   |refine UH (p:=0) (q:=min pics.length 5) (fun c hc=>?_)
   |refine tq (cs:=d9 G .nils) ?_ (hs1:=by rw[dh]) (hs2:=by rw[dh])
   |refine sL (zs:=eP default) ?_)
  |refine WX.xF 5 (σ:=SQ) (fun s=>[(1,.one (.ptr 3 0)),(2,.one (.ptr 4 0)),(3,.one (.ptr 5 0)),(4,.one (.ptr 6 0)),(5,.one s.c)]) (fun s=>[ob0,ob1,s.X,D7 h c0 c1,.cells (d9 wX .nils) 36 false false,.cells (ij G) 26 false false,.cells (d9 G .nils) 36 false false]) (fun s=>(s.j=0/\s.X = .dead/\0<pics.length\/s.j=2/\s.X = .cells (fl eP [default]) 84 false false/\pics.length=0)/\cL s.c s.j 0 np) (fun s hs=>rS.out ?_) ?_ (fun s hs=>rS.out ?_)|refine zz ?_|refine zx (fun _=>?_) (fun _=>?_)|fail)
 ·refine⟨?_⟩;obtain⟨X,j,c'⟩:=s;obtain⟨hXj,hcs⟩:=hs
  have hX:cf X:=by
   rcases hXj with⟨_,e,_⟩|⟨_,e,_⟩
   ·have e:X = .dead:=e;subst e;infer_instance
   ·have e:X = .cells (fl eP [default]) 84 false false:=e;subst e;infer_instance
  have hk7:c'.ok 7:=cL.ok hcs (by rcases hXj with h|h<;>(have:=h.1;simp only at this;omega));exact(stM (objs:=by repeat' (first|exact ak.nil|refine ak.flat ?_|refine ak.cons (lH hc0 hc1 rfl) ?_|refine ak.cons (bC trivial) ?_|refine ak.cons (bC (aJ (Nat.le_of_ble_eq_true rfl))) ?_|refine ak.cons (i_ (fE (by assumption) (Nat.le_of_ble_eq_true rfl))) ?_|refine ak.cons (by first|(simp[aj.bt,XC.ok,aJ];done)|(simp[aj.bt,XC.ok,aJ, *];done)) ?_)))
 ·rename_i h0;have h0:pics.length=0:=by omega
  have hp1:np=1:=by rw[<-hnp];exact if_pos h0
  subst hp1
  (first|refine tm ?_|skip)
  exact⟨⟨.cells (fl eP [default]) 84 false false,2,.slice 2 0 1 (.exact 1)⟩,_,⟨.inr ⟨rfl,rfl,h0⟩,cL.mk (Nat.le_refl 1)⟩,(bq [0,1,7,3,4,5,6] (obj:=by(repeat' (first|exact af.nil|refine ef hc0 hc1 rfl rfl rfl ?_|refine aH rfl rfl ?_|refine aH (aX ..) rfl ?_|refine oz ?_));first|done|fail))⟩
 ·rename_i h0;have hp1:min pics.length 5-0=np:=by rw[<-hnp];unfold lu;rw[if_neg (by omega)];omega
  rw[hp1]at hc
  (first|refine tm ?_|skip)
  exact⟨⟨.dead,0,c⟩,_,⟨.inl ⟨rfl,rfl,by omega⟩,hc⟩,(bq [0,1,2,3,4,5,6] (obj:=by(repeat' (first|exact af.nil|refine ef hc0 hc1 rfl rfl rfl ?_|refine aH rfl rfl ?_|refine aH (aX ..) rfl ?_|refine oz ?_));first|done|fail))⟩
 ·refine ⟨?_⟩;obtain⟨X,j,c'⟩:=s;obtain⟨hXj,hcs⟩:=hs;have hj2:j=0\/j=2:=hXj.elim (fun h => .inl h.1) (fun h => .inr h.1)
  have hX:cf X:=by
   rcases hXj with⟨_,e,_⟩|⟨_,e,_⟩
   ·have e:X = .dead:=e;subst e;infer_instance
   ·have e:X = .cells (fl eP [default]) 84 false false:=e;subst e;infer_instance
  have hobj:∃obP,B5 obP eP (A5 pics)/\∀r,(ob0::ob1::X::r)[j]? = some obP:=by
   rcases hXj with⟨e1,_,e2⟩|⟨e1,e,e2⟩
   ·have e1:j=0:=e1;subst e1;exact⟨ob0,by unfold A5;rw[if_neg (by omega)];exact hr0,fun _=>rfl⟩
   ·have e1:j=2:=e1;have e:X = .cells (fl eP [default]) 84 false false:=e;subst e1 e;exact⟨_,by unfold A5;rw[if_pos e2];exact⟨fun _=>⟨_,false,false,rfl⟩,inferInstance⟩,fun _=>rfl⟩
  obtain⟨obP,hrP,hjo⟩:=hobj;have hcj:∀n,c'.ok (n+3):=fun n=>hcs.ok (by rcases hj2 with h|h<;>omega)
  have hk9:c'.ok 9:=hcj 6;have hcs:cL c' j 0 np:=hcs;have hpl:=J1 pics;have hpat:=MV pics;rw[hnp]at hpl
  obtain⟨all,hall⟩:∃n:Nat,(G.cols*G.rows).toNat=n:=⟨_,rfl⟩
  have hGd:1<=G.cols/\G.cols<=3/\1<=G.rows/\G.rows<=3:=by
   rw[<-hG];refine⟨?_,?_,?_,?_⟩
   ·show 1<=1+(fe h).cols%3;omega
   ·show 1+(fe h).cols%3<=3;omega
   ·show 1<=1+(fe h).rows%3;omega
   ·show 1+(fe h).rows%3<=3;omega
  obtain⟨gc0,gc1,gr0,gr1⟩:=hGd
  have hcr:1<=G.cols*G.rows/\G.cols*G.rows<=9:=by
   have hc:G.cols=1\/G.cols=2\/G.cols=3:=by omega
   have hr:G.rows=1\/G.rows=2\/G.rows=3:=by omega
   rcases hc with e|e|e<;>rcases hr with f|f|f<;>rw[e,f]<;>decide
  have hall2:(all:Int)=G.cols*G.rows:=by omega
  obtain⟨ps,hps⟩:∃f:Nat->List Pc,Bp l all pics=f:=⟨_,rfl⟩
  have hpl2:∀n,(ps n).length=n:=fun n=>by rw[<-hps];exact kE l all pics n
  have hwl:∀n,(fB 0 (ps n)).length=wide (ps n):=fun n=>qN _ _
  have hp0:ps 0 = []:=by rw[<-hps];rfl
  have hok1:∀n,∀c∈fl nK (fi 0 (ps n)),c.f7 (wide (ps n))=true:=fun n=>A3 _ _ _ (by omega)
  refine WX.bU rfl ?_;refine WX.ghost rfl ?_
  repeat' (first|refine zz ?_|refine zx (fun _=>?_) (fun _=>?_)|fail)
  refine WX.bN (σ:=Nat) (fun i=>[(1,.one (.ptr 3 0)),(2,.one (.ptr 4 0)),(3,.one (.ptr 5 0)),(4,.one (.ptr 6 0)),(44,.one c'),(45,.one (.int .i64 (np:Nat))),(6,.one (.int .i64 ((i*all:Nat):Int))),(46,.one (.int .i64 (i:Nat)))]) (fun i=>[ob0,ob1,X,D7 h c0 c1,.cells (d9 wX .nils) 36 false false,.cells (ij G) 26 false false,.cells (d9 G (fk 7 i 5)) 36 false false,bu 87 ((fl nK (fi 0 (ps i))).map (·.self 8)),.late (fB 0 (ps i))]) (fun i=>i<=np) (fun i=>np-i) 0 (Nat.zero_le _) (fun i _=>by have hz:=hok1 i;exact(stM (objs:=by repeat' (first|exact ak.nil|refine ak.flat ?_|refine ak.cons (lH hc0 hc1 rfl) ?_|refine ak.cons (bC trivial) ?_|refine ak.cons (bC (aJ (Nat.le_of_ble_eq_true rfl))) ?_|refine ak.cons (i_ (fE (by assumption) (Nat.le_of_ble_eq_true rfl))) ?_|refine ak.cons (by first|(simp[aj.bt,XC.ok,aJ];done)|(simp[aj.bt,XC.ok,aJ, *];done)) ?_)))) (bq [0,1,2,3,4,5,6,7,8] (obj:=by(repeat' (first|exact af.nil|refine ef hc0 hc1 rfl rfl rfl ?_|refine aH rfl rfl ?_|refine aH (aX ..) rfl ?_|refine af.flat (by rw[hp0];rfl) ?_|refine af.cons (by rw[hp0];rfl) ?_|refine oz ?_));first|done|fail) (reg:=by(repeat' (first|exact ae.nil|refine ae.sl rfl (by assumption) (by rcases hj2 with h|h<;>rw[h]<;>rfl) ?_|refine ae.flat (by rw[Nat.zero_mul];rfl) ?_|refine rz ?_|refine ae.sl rfl (by assumption) rfl ?_));first|done|fail)) ?_;intro i hi ih;have hz1:=hok1 i
  by_cases hlt:i<np
  ·have hpr : j8 (pics.getD i default):=by
    by_cases hip:i<pics.length
    ·exact hpp i hip
    ·rw[List.getD_eq_getElem?_getD,List.getElem?_eq_none (by omega)];exact⟨by show(0:Int)<=0/\(0:Int)<=255;omega,by show(0:Int)<=0/\(0:Int)<=255;omega⟩
   have hnx0:ps (i+1)=ps i++[Gw l all i (pics.getD i default)]:=by rw[<-hps];rfl
   have hPe:(A5 pics).getD i default=pics.getD i default:=hpat i
   obtain⟨P,hP⟩:∃P,pics.getD i default=P:=⟨_,rfl⟩
   rw[hP]at hpr hnx0 hPe;obtain⟨pi,pd,pq,pm⟩:=P;obtain⟨⟨q0,q1⟩,⟨m0,m1⟩⟩:=hpr
   obtain⟨I,hI⟩:∃I,(pi&&decide (0<i))=I:=⟨_,rfl⟩
   obtain⟨D,hD⟩:∃D,(I&&pd)=D:=⟨_,rfl⟩
   have q0:0<=pq:=q0;have q1:pq<=255:=q1;have m0:0<=pm:=m0;have m1:pm<=255:=m1
   obtain⟨M,hM⟩:∃M:Nat,(1+pm%5).toNat=M:=⟨_,rfl⟩
   have hnx:ps (i+1)=ps i++[⟨⟨(i:Nat),I,D,1+pq%31⟩,(gL l I (1+pq%31) M all (i*all) all).1⟩]:=by rw[hnx0,<-hD,<-hI,<-hM];rfl
   repeat' (first
    |(refine qz ?_;first
     |refine nH (zs:=eP default) (hz:=NX) ?_
     |refine nH (zs:=sT ⟨0,false,false,0⟩ .nils) (hz:=sI) ?_
     |refine Pk (enc:=eP) ?_ (hi:=hjo _))
    |refine eY 12 ?_|refine zz ?_|refine zx (fun _=>?_) (fun _=>?_)|fail)
   refine⟨?_⟩;rw[hPe];refine WX.xE 12 (σ:=Unit) (fun _=>[(1,.one (.ptr 3 0)),(2,.one (.ptr 4 0)),(3,.one (.ptr 5 0)),(4,.one (.ptr 6 0)),(44,.one c'),(45,.one (.int .i64 (np:Nat))),(46,.one (.int .i64 (i:Nat))),(6,.one (.int .i64 ((i*all:Nat):Int))),(7,.one (.int .i64 (i:Nat))),(8,.one (.ptr 9 0)),(9,.one (.ptr 10 0))]) (fun _=>[ob0,ob1,X,D7 h c0 c1,.cells (d9 wX .nils) 36 false false,.cells (ij G) 26 false false,.cells (d9 G (fk 7 i 5)) 36 false false,bu 87 ((fl nK (fi 0 (ps i))).map (·.self 8)),.late (fB 0 (ps i)),.cells (eP ⟨pi,pd,pq,pm⟩) 84 false false,.cells (sT ⟨(i:Nat),I,false,0⟩ .nils) 87 false false]) (fun _=>True) (fun _ _=>by have hk11:c'.ok 11:=hcj 8;exact(stM (objs:=by repeat' (first|exact ak.nil|refine ak.flat ?_|refine ak.cons (lH hc0 hc1 rfl) ?_|refine ak.cons (bC trivial) ?_|refine ak.cons (bC (aJ (Nat.le_of_ble_eq_true rfl))) ?_|refine ak.cons (i_ (fE (by assumption) (Nat.le_of_ble_eq_true rfl))) ?_|refine ak.cons (by first|(simp[aj.bt,XC.ok,aJ];done)|(simp[aj.bt,XC.ok,aJ, *];done)) ?_)))) ?_ (fun _ _=>rS.out ?_)
   ·cases pi with
    | false=>
      obtain rfl:I=false:=hI.symm
      repeat' (first|refine zz ?_|refine zx (fun _=>?_) (fun _=>?_)|fail)
      (first|refine tm ?_|skip)
      exact⟨(),_,trivial,(bq [0,1,2,3,4,5,6,7,8,9,10] (obj:=by(repeat' (first|exact af.nil|refine ef hc0 hc1 rfl rfl rfl ?_|refine aH rfl rfl ?_|refine aH (aX ..) rfl ?_|refine dP (by assumption) rfl rfl ?_|refine oz ?_));first|done|fail) (reg:=by(repeat' (first|exact ae.nil|refine ae.sl rfl (by assumption) (by rcases hj2 with h|h<;>rw[h]<;>rfl) ?_|refine rz ?_|refine ae.sl rfl (by assumption) rfl ?_));first|done|fail))⟩
    | true=>
      repeat' (first|refine zz ?_|refine zx (fun _=>?_) (fun _=>?_)|fail)
      ·rename_i h0;obtain rfl:I=true:=by rw[<-hI,decide_eq_true (show 0<i by omega)];rfl
       (first|refine tm ?_|skip)
       exact⟨(),_,trivial,(bq [0,1,2,3,4,5,6,7,8,9,10] (obj:=by(repeat' (first|exact af.nil|refine ef hc0 hc1 rfl rfl rfl ?_|refine aH rfl rfl ?_|refine aH (aX ..) rfl ?_|refine dP (by assumption) rfl rfl ?_|refine oz ?_));first|done|fail) (reg:=by(repeat' (first|exact ae.nil|refine ae.sl rfl (by assumption) (by rcases hj2 with h|h<;>rw[h]<;>rfl) ?_|refine rz ?_|refine ae.sl rfl (by assumption) rfl ?_));first|done|fail))⟩
      ·rename_i h0;obtain rfl:I=false:=by rw[<-hI,decide_eq_false (show¬0<i by omega)];rfl
       (first|refine tm ?_|skip)
       exact⟨(),_,trivial,(bq [0,1,2,3,4,5,6,7,8,9,10] (obj:=by(repeat' (first|exact af.nil|refine ef hc0 hc1 rfl rfl rfl ?_|refine aH rfl rfl ?_|refine aH (aX ..) rfl ?_|refine dP (by assumption) rfl rfl ?_|refine oz ?_));first|done|fail) (reg:=by(repeat' (first|exact ae.nil|refine ae.sl rfl (by assumption) (by rcases hj2 with h|h<;>rw[h]<;>rfl) ?_|refine rz ?_|refine ae.sl rfl (by assumption) rfl ?_));first|done|fail))⟩
   refine⟨?_⟩;refine WX.xE 13 (σ:=Unit) (fun _=>[(1,.one (.ptr 3 0)),(2,.one (.ptr 4 0)),(3,.one (.ptr 5 0)),(4,.one (.ptr 6 0)),(44,.one c'),(45,.one (.int .i64 (np:Nat))),(46,.one (.int .i64 (i:Nat))),(6,.one (.int .i64 ((i*all:Nat):Int))),(8,.one (.ptr 9 0)),(9,.one (.ptr 10 0))]) (fun _=>[ob0,ob1,X,D7 h c0 c1,.cells (d9 wX .nils) 36 false false,.cells (ij G) 26 false false,.cells (d9 G (fk 7 i 5)) 36 false false,bu 87 ((fl nK (fi 0 (ps i))).map (·.self 8)),.late (fB 0 (ps i)),.cells (eP ⟨pi,pd,pq,pm⟩) 84 false false,.cells (sT ⟨(i:Nat),I,D,1+pq%31⟩ .nils) 87 false false]) (fun _=>True) (fun _ _=>by have hk11:c'.ok 11:=hcj 8;exact(stM (objs:=by repeat' (first|exact ak.nil|refine ak.flat ?_|refine ak.cons (lH hc0 hc1 rfl) ?_|refine ak.cons (bC trivial) ?_|refine ak.cons (bC (aJ (Nat.le_of_ble_eq_true rfl))) ?_|refine ak.cons (i_ (fE (by assumption) (Nat.le_of_ble_eq_true rfl))) ?_|refine ak.cons (by first|(simp[aj.bt,XC.ok,aJ];done)|(simp[aj.bt,XC.ok,aJ, *];done)) ?_)))) ?_ (fun _ _=>rS.out ?_)
   ·cases I with
    | false=>
      obtain rfl:D=false:=hD.symm
      repeat' (first|refine zz ?_|refine zx (fun _=>?_) (fun _=>?_)|fail)
      (first|refine tm ?_|skip)
      exact⟨(),_,trivial,(bq [0,1,2,3,4,5,6,7,8,9,10] (obj:=by(repeat' (first|exact af.nil|refine ef hc0 hc1 rfl rfl rfl ?_|refine aH rfl rfl ?_|refine aH (aX ..) rfl ?_|refine dP (by assumption) rfl rfl ?_|refine oz ?_));first|done|fail) (reg:=by(repeat' (first|exact ae.nil|refine ae.sl rfl (by assumption) (by rcases hj2 with h|h<;>rw[h]<;>rfl) ?_|refine rz ?_|refine ae.sl rfl (by assumption) rfl ?_));first|done|fail))⟩
    | true=>
      obtain rfl:D=pd:=hD.symm
      repeat' (first|refine zz ?_|refine zx (fun _=>?_) (fun _=>?_)|fail)
      (first|refine tm ?_|skip)
      exact⟨(),_,trivial,(bq [0,1,2,3,4,5,6,7,8,9,10] (obj:=by(repeat' (first|exact af.nil|refine ef hc0 hc1 rfl rfl rfl ?_|refine aH rfl rfl ?_|refine aH (aX ..) rfl ?_|refine dP (by assumption) rfl rfl ?_|refine oz ?_));first|done|fail) (reg:=by(repeat' (first|exact ae.nil|refine ae.sl rfl (by assumption) (by rcases hj2 with h|h<;>rw[h]<;>rfl) ?_|refine rz ?_|refine ae.sl rfl (by assumption) rfl ?_));first|done|fail))⟩
   refine⟨?_⟩
   obtain⟨Q,hQ⟩:∃Q,1+pq%31=Q:=⟨_,rfl⟩
   have hQr:1<=Q/\Q<=31:=by omega
   have hMr:1<=M/\M<=5:=by omega
   rw[hQ]at hnx ⊢;have hL0:fB 0 (ps i)++fU (gL l I Q M all (i*all) 0).1=fB 0 (ps i):=List.append_nil _;have hgok:=Cw hll I hQr hMr all (i*all);have h45:(i+1)*all<=45:=Nat.le_trans (Nat.mul_le_mul (show i+1<=5 by omega) (show all<=9 by omega)) (by decide);rw[Nat.add_mul,Nat.one_mul]at h45;rw[<-hL0];refine WX.bU rfl ?_
   repeat' (first
    |(refine qz ?_;first
     |refine ld (c := .int .i64 G.cols) ?_
     |refine ld (c := .int .i64 G.rows) ?_)
    |refine zz ?_|refine zx (fun _=>?_) (fun _=>?_)|fail)
   refine WX.bN (σ:=Nat) (fun t=>[(1,.one (.ptr 3 0)),(2,.one (.ptr 4 0)),(3,.one (.ptr 5 0)),(4,.one (.ptr 6 0)),(44,.one c'),(45,.one (.int .i64 (np:Nat))),(46,.one (.int .i64 (i:Nat))),(8,.one (.ptr 9 0)),(9,.one (.ptr 10 0)),(10,.one (.int .i64 (G.cols*G.rows))),(6,.one (.int .i64 ((i*all+(gL l I Q M all (i*all) t).2:Nat):Int))),(11,.one (.int .i64 ((gL l I Q M all (i*all) t).2:Nat)))]) (fun t=>[ob0,ob1,X,D7 h c0 c1,.cells (d9 wX .nils) 36 false false,.cells (ij G) 26 false false,.cells (d9 G (fk 7 i 5)) 36 false false,bu 87 ((fl nK (fi 0 (ps i))).map (·.self 8)),.late (fB 0 (ps i)++fU (gL l I Q M all (i*all) t).1),.cells (eP ⟨pi,pd,pq,pm⟩) 84 false false,.cells (sT ⟨(i:Nat),I,D,Q⟩ (fk 11 (gL l I Q M all (i*all) t).1.length 2)) 87 false false,bu 90 ((fl pe (gv (wide (ps i)) (gL l I Q M all (i*all) t).1)).map (·.self 8))]) (fun t=>t<=(gL l I Q M all (i*all) t).2) (fun t=>all-(gL l I Q M all (i*all) t).2) 0 (Nat.zero_le _) (fun t _=>by have hk12:c'.ok 12:=hcj 9;have hz2:∀c∈fl pe (gv (wide (ps i)) (gL l I Q M all (i*all) t).1),c.f7 (wide (ps i)+(gL l I Q M all (i*all) t).1.length)=true:=qG _ _ _ (by omega);exact(stM (objs:=by repeat' (first|exact ak.nil|refine ak.flat ?_|refine ak.cons (lH hc0 hc1 rfl) ?_|refine ak.cons (bC trivial) ?_|refine ak.cons (bC (aJ (Nat.le_of_ble_eq_true rfl))) ?_|refine ak.cons (i_ (fE (by assumption) (Nat.le_of_ble_eq_true rfl))) ?_|refine ak.cons (by first|(simp[aj.bt,XC.ok,aJ];done)|(simp[aj.bt,XC.ok,aJ, *];done)) ?_)))) (bq [0,1,2,3,4,5,6,7,8,9,10,11] (obj:=by(repeat' (first|exact af.nil|refine ef hc0 hc1 rfl rfl rfl ?_|refine aH rfl rfl ?_|refine aH (aX ..) rfl ?_|refine dP (by assumption) rfl rfl ?_|refine oz ?_));first|done|fail) (reg:=by(repeat' (first|exact ae.nil|refine ae.sl rfl (by assumption) (by rcases hj2 with h|h<;>rw[h]<;>rfl) ?_|refine rz ?_|refine ae.sl rfl (by assumption) rfl ?_));first|done|fail)) ?_;intro t ht ih2;obtain⟨k1,k2,k3,k4⟩:=hgok t;have hstop:=Aq (l:=l) (inter:=I) (qp:=Q) (many:=M) (all:=all) (n0:=i*all) (j:=t);have hnxt:gL l I Q M all (i*all) (t+1)=if(gL l I Q M all (i*all) t).2<all then((gL l I Q M all (i*all) t).1++[⟨((gL l I Q M all (i*all) t).2:Nat),(iv l I Q (i*all+(gL l I Q M all (i*all) t).2) (min M (all-(gL l I Q M all (i*all) t).2))).1⟩],(gL l I Q M all (i*all) t).2+min M (all-(gL l I Q M all (i*all) t).2))else gL l I Q M all (i*all) t:=rfl
   obtain⟨gs,hgs⟩:∃gs,(gL l I Q M all (i*all) t).1=gs:=⟨_,rfl⟩
   obtain⟨F,hF⟩:∃F,(gL l I Q M all (i*all) t).2=F:=⟨_,rfl⟩
   rw[hgs,hF]at k1 k4 hnxt;rw[hF]at ht k2 k3 hstop;rw[hgs,hF];have hz2:∀c∈fl pe (gv (wide (ps i)) gs),c.f7 (wide (ps i)+gs.length)=true:=qG _ _ _ (by omega);have hz1m:∀c∈fl nK (fi 0 (ps i)),c.f7 (wide (ps i)+gs.length)=true:=fun c hc=>XC.kp (by omega) (hz1 c hc)
   have hLl:(fB 0 (ps i)++fU gs).length=wide (ps i)+gs.length:=by rw[List.length_append,hwl];simp[fU]
   have hgl:(fl pe (gv (wide (ps i)) gs)).length=gs.length*2:=by rw[pZ,uD]
   by_cases hlt2:F<all
   ·rw [if_pos hlt2]at hnxt
    obtain⟨n,hn⟩:∃n,min M (all-F)=n:=⟨_,rfl⟩
    rw[hn]at hnxt;have hnr:1<=n/\n<=5/\F+n<=all:=by omega
    have hn2:min (1+pm%5) (G.cols*G.rows-(F:Nat))=(n:Nat):=by omega
    obtain⟨grp,hgrp⟩:∃g:Nat->List Mb×Int,iv l I Q (i*all+F)=g:=⟨_,rfl⟩
    have hgrl:∀k,(grp k).1.length=k:=fun k=>by rw[<-hgrp];exact qH l I Q _ k
    have hgro:=yN hll I hQr (i*all+F);have hgr0:grp 0=([],Q):=by rw[<-hgrp];rfl
    have hgrs:∀k,grp (k+1)=((grp k).1++[CJ l I (grp k).2 (i*all+F+k)],(CJ l I (grp k).2 (i*all+F+k)).qp):=fun k=>by rw[<-hgrp];rfl
    rw[hgrp]at hgro hnxt
    repeat' (first
     |(refine qz ?_;first
      |refine nH (zs:=yM 0 .nils) (hz:=wz) ?_
      |refine ld (c := .int .i64 Q) ?_)
     |refine zz ?_|refine zx (fun _=>?_) (fun _=>?_)|fail)
    refine WX.bU rfl ?_;refine WX.bN (σ:=Nat) (fun k=>[(1,.one (.ptr 3 0)),(2,.one (.ptr 4 0)),(3,.one (.ptr 5 0)),(4,.one (.ptr 6 0)),(44,.one c'),(45,.one (.int .i64 (np:Nat))),(46,.one (.int .i64 (i:Nat))),(8,.one (.ptr 9 0)),(9,.one (.ptr 10 0)),(10,.one (.int .i64 (G.cols*G.rows))),(11,.one (.int .i64 (F:Nat))),(12,.one (.int .i64 (n:Nat))),(13,.one (.ptr 12 0)),(100,.one (.int .i64 (n:Nat))),(6,.one (.int .i64 ((i*all+F+k:Nat):Int))),(14,.one (.int .i64 (grp k).2)),(101,.one (.int .i64 (k:Nat)))]) (fun k=>[ob0,ob1,X,D7 h c0 c1,.cells (d9 wX .nils) 36 false false,.cells (ij G) 26 false false,.cells (d9 G (fk 7 i 5)) 36 false false,bu 87 ((fl nK (fi 0 (ps i))).map (·.self 8)),.late (fB 0 (ps i)++fU gs),.cells (eP ⟨pi,pd,pq,pm⟩) 84 false false,.cells (sT ⟨(i:Nat),I,D,Q⟩ (fk 11 gs.length 2)) 87 false false,bu 90 ((fl pe (gv (wide (ps i)) gs)).map (·.self 8)),.cells (yM (F:Nat) (fk 13 k 391)) 90 false false,bu 107 (fl mC (grp k).1)]) (fun k=>k<=n) (fun k=>n-k) 0 (Nat.zero_le _) (fun k _=>by have hk14:c'.ok 14:=hcj 11;exact(stM (objs:=by repeat' (first|exact ak.nil|refine ak.flat ?_|refine ak.cons (lH hc0 hc1 rfl) ?_|refine ak.cons (bC trivial) ?_|refine ak.cons (bC (aJ (Nat.le_of_ble_eq_true rfl))) ?_|refine ak.cons (i_ (fE (by assumption) (Nat.le_of_ble_eq_true rfl))) ?_|refine ak.cons (by first|(simp[aj.bt,XC.ok,aJ];done)|(simp[aj.bt,XC.ok,aJ, *];done)) ?_)))) (bq [0,1,2,3,4,5,6,7,8,9,10,11,12,13] (obj:=by(repeat' (first|exact af.nil|refine ef hc0 hc1 rfl rfl rfl ?_|refine aH rfl rfl ?_|refine aH (aX ..) rfl ?_|refine dP (by assumption) rfl rfl ?_|refine af.flat (by rw[hgr0];rfl) ?_|refine oz ?_));first|done|fail) (reg:=by(repeat' (first|exact ae.nil|refine ae.sl rfl (by assumption) (by rcases hj2 with h|h<;>rw[h]<;>rfl) ?_|refine ae.flat (by rw[<-hn2];rfl) ?_|refine ae.flat (by rw[hgr0];rfl) ?_|refine rz ?_|refine ae.sl rfl (by assumption) rfl ?_));first|done|fail)) ?_;intro k hk ih3;obtain⟨-,o2,-⟩:=hgro k;have hgk:=hgrl k;have hgs1:=hgrs k
    obtain⟨ms,hms⟩:∃x,(grp k).1=x:=⟨_,rfl⟩
    obtain⟨qp,hqp⟩:∃x,(grp k).2=x:=⟨_,rfl⟩
    rw[hms]at hgk hgs1 ⊢;rw[hqp]at o2 hgs1 ⊢
    by_cases hlt3:k<n
    ·obtain⟨at_,hat⟩:∃a,i*all+F+k=a:=⟨_,rfl⟩
     rw[hat]at hgs1 ⊢;have hat2:at_<=45:=by omega
     have hel:=Bj hll at_
     obtain⟨el,hele⟩:∃e,w5 l at_=e:=⟨_,rfl⟩
     rw[hele]at hel
     obtain⟨mm,hmm⟩:∃m,oe el I qp=m:=⟨_,rfl⟩
     have hm1:CJ l I qp at_ = {mm with edge:=mm.edge&&!el.great}:=by unfold CJ;rw[hele,hmm]
     rw[hm1]at hgs1;obtain⟨kd,mq,mv,me,ml⟩:=mm
     obtain⟨ed,hed⟩:∃e,(me&&!el.great)=e:=⟨_,rfl⟩
     rw[hed]at hgs1;have hatl:0<l.length->at_%l.length<l.length:=fun h=>Nat.mod_lt _ h
     repeat' (first
      |(refine qz ?_;first
       |refine nH (zs:=tV Tt) (hz:=QU) ?_
       |refine ld (c:=c1) ?_ (hc:=D4 h c0 c1)
       |refine Pk (enc:=tV) ?_)
      |refine WX.xF 23 (σ:=Unit) (fun _=>[(1,.one (.ptr 3 0)),(2,.one (.ptr 4 0)),(3,.one (.ptr 5 0)),(4,.one (.ptr 6 0)),(44,.one c'),(45,.one (.int .i64 (np:Nat))),(46,.one (.int .i64 (i:Nat))),(8,.one (.ptr 9 0)),(9,.one (.ptr 10 0)),(10,.one (.int .i64 (G.cols*G.rows))),(11,.one (.int .i64 (F:Nat))),(12,.one (.int .i64 (n:Nat))),(13,.one (.ptr 12 0)),(100,.one (.int .i64 (n:Nat))),(14,.one (.int .i64 qp)),(101,.one (.int .i64 (k:Nat))),(6,.one (.int .i64 (at_:Nat))),(15,.one (.ptr 14 0))]) (fun _=>[ob0,ob1,X,D7 h c0 c1,.cells (d9 wX .nils) 36 false false,.cells (ij G) 26 false false,.cells (d9 G (fk 7 i 5)) 36 false false,bu 87 ((fl nK (fi 0 (ps i))).map (·.self 8)),.late (fB 0 (ps i)++fU gs),.cells (eP ⟨pi,pd,pq,pm⟩) 84 false false,.cells (sT ⟨(i:Nat),I,D,Q⟩ (fk 11 gs.length 2)) 87 false false,bu 90 ((fl pe (gv (wide (ps i)) gs)).map (·.self 8)),.cells (yM (F:Nat) (fk 13 k 391)) 90 false false,bu 107 (fl mC ms),.cells (tV el) 99 false false]) (fun _=>True) (fun _ _=>by have hk15:c'.ok 15:=hcj 12;exact(stM (objs:=by repeat' (first|exact ak.nil|refine ak.flat ?_|refine ak.cons (lH hc0 hc1 rfl) ?_|refine ak.cons (bC trivial) ?_|refine ak.cons (bC (aJ (Nat.le_of_ble_eq_true rfl))) ?_|refine ak.cons (i_ (fE (by assumption) (Nat.le_of_ble_eq_true rfl))) ?_|refine ak.cons (by first|(simp[aj.bt,XC.ok,aJ];done)|(simp[aj.bt,XC.ok,aJ, *];done)) ?_)))) ?_ (fun _ _=>rS.out ?_)|refine zz ?_|refine zx (fun _=>?_) (fun _=>?_)|fail)
     ·rename_i h0
      have hee:l.getD ((at_:Int)%(l.length:Nat)).toNat default=el:=by
       rw[<-hele];unfold w5;rw[if_neg (by omega)];rfl
      (first|refine tm ?_|skip)
      exact⟨(),_,trivial,(bq [0,1,2,3,4,5,6,7,8,9,10,11,12,13,14] (obj:=by(repeat' (first|exact af.nil|refine ef hc0 hc1 rfl rfl rfl ?_|refine aH rfl rfl ?_|refine aH (aX ..) rfl ?_|refine dP (by assumption) rfl rfl ?_|refine af.flat (by rw[<-hee];rfl) ?_|refine oz ?_));first|done|fail) (reg:=by(repeat' (first|exact ae.nil|refine ae.sl rfl (by assumption) (by rcases hj2 with h|h<;>rw[h]<;>rfl) ?_|refine rz ?_|refine ae.sl rfl (by assumption) rfl ?_));first|done|fail))⟩
     ·rename_i h0
      have hee:el=⟨(at_:Nat),0,⟨fun _=>0,fun _=>0,false⟩,false,fun _=>0,0,false⟩:=by
       rw[<-hele];unfold w5 TQ;rw[if_pos (by omega),Nat.mod_eq_of_lt (by omega)]
      (first|refine tm ?_|skip)
      exact⟨(),_,trivial,(bq [0,1,2,3,4,5,6,7,8,9,10,11,12,13,14] (obj:=by(repeat' (first|exact af.nil|refine ef hc0 hc1 rfl rfl rfl ?_|refine aH rfl rfl ?_|refine aH (aX ..) rfl ?_|refine dP (by assumption) rfl rfl ?_|refine af.flat (by rw[hee];rfl) ?_|refine oz ?_));first|done|fail) (reg:=by(repeat' (first|exact ae.nil|refine ae.sl rfl (by assumption) (by rcases hj2 with h|h<;>rw[h]<;>rfl) ?_|refine rz ?_|refine ae.sl rfl (by assumption) rfl ?_));first|done|fail))⟩
     refine⟨?_⟩
     repeat' (first
      |(refine qz ?_;first
       |refine nH (zs:=mC zR) (hz:=o9) ?_
       |refine cl ?_ (hi:=by exact Pr hel o2 hmm rfl)
       |refine tq (cs:=mC ⟨kd,mq,mv,me,ml⟩) ?_ (hs1:=by rw[aY]) (hs2:=by rw[aY]))
      |refine eY 27 ?_|refine zz ?_|refine zx (fun _=>?_) (fun _=>?_)|fail)
     refine⟨?_⟩;refine WX.xE 27 (σ:=Unit) (fun _=>[(1,.one (.ptr 3 0)),(2,.one (.ptr 4 0)),(3,.one (.ptr 5 0)),(4,.one (.ptr 6 0)),(44,.one c'),(45,.one (.int .i64 (np:Nat))),(46,.one (.int .i64 (i:Nat))),(8,.one (.ptr 9 0)),(9,.one (.ptr 10 0)),(10,.one (.int .i64 (G.cols*G.rows))),(11,.one (.int .i64 (F:Nat))),(12,.one (.int .i64 (n:Nat))),(13,.one (.ptr 12 0)),(100,.one (.int .i64 (n:Nat))),(14,.one (.int .i64 qp)),(101,.one (.int .i64 (k:Nat))),(6,.one (.int .i64 (at_+1:Nat))),(16,.one (.ptr 15 0))]) (fun _=>[ob0,ob1,X,D7 h c0 c1,.cells (d9 wX .nils) 36 false false,.cells (ij G) 26 false false,.cells (d9 G (fk 7 i 5)) 36 false false,bu 87 ((fl nK (fi 0 (ps i))).map (·.self 8)),.late (fB 0 (ps i)++fU gs),.cells (eP ⟨pi,pd,pq,pm⟩) 84 false false,.cells (sT ⟨(i:Nat),I,D,Q⟩ (fk 11 gs.length 2)) 87 false false,bu 90 ((fl pe (gv (wide (ps i)) gs)).map (·.self 8)),.cells (yM (F:Nat) (fk 13 k 391)) 90 false false,bu 107 (fl mC ms),.cells (tV el) 99 false false,.cells (mC ⟨kd,mq,mv,ed,ml⟩) 107 false false]) (fun _=>True) (fun _ _=>by have hk16:c'.ok 16:=hcj 13;exact(stM (objs:=by repeat' (first|exact ak.nil|refine ak.flat ?_|refine ak.cons (lH hc0 hc1 rfl) ?_|refine ak.cons (bC trivial) ?_|refine ak.cons (bC (aJ (Nat.le_of_ble_eq_true rfl))) ?_|refine ak.cons (i_ (fE (by assumption) (Nat.le_of_ble_eq_true rfl))) ?_|refine ak.cons (by first|(simp[aj.bt,XC.ok,aJ];done)|(simp[aj.bt,XC.ok,aJ, *];done)) ?_)))) ?_ (fun _ _=>rS.out ?_)
     ·cases me with
      | false=>
        obtain rfl:ed=false:=hed.symm
        repeat' (first
         |(refine qz ?_;first
          |refine st (c := .bool false) ?_ (hle:=by rw[aY];decide) (hv:=show _=mC ⟨kd,mq,mv,false,ml⟩from rfl))
         |refine zz ?_|refine zx (fun _=>?_) (fun _=>?_)|fail)
        (first|refine tm ?_|skip)
        exact⟨(),_,trivial,(bq [0,1,2,3,4,5,6,7,8,9,10,11,12,13,14,15] (obj:=by(repeat' (first|exact af.nil|refine ef hc0 hc1 rfl rfl rfl ?_|refine aH rfl rfl ?_|refine aH (aX ..) rfl ?_|refine dP (by assumption) rfl rfl ?_|refine oz ?_));first|done|fail) (reg:=by(repeat' (first|exact ae.nil|refine ae.sl rfl (by assumption) (by rcases hj2 with h|h<;>rw[h]<;>rfl) ?_|refine rz ?_|refine ae.sl rfl (by assumption) rfl ?_));first|done|fail))⟩
      | true=>
        obtain rfl:ed = !el.great:=hed.symm
        repeat' (first
         |(refine qz ?_;first
          |refine ld (c := .bool el.great) ?_
          |refine st (c := .bool (!el.great)) ?_ (hle:=by rw[aY];decide) (hv:=show _=mC ⟨kd,mq,mv,!el.great,ml⟩from rfl))
         |refine zz ?_|refine zx (fun _=>?_) (fun _=>?_)|fail)
        (first|refine tm ?_|skip)
        exact⟨(),_,trivial,(bq [0,1,2,3,4,5,6,7,8,9,10,11,12,13,14,15] (obj:=by(repeat' (first|exact af.nil|refine ef hc0 hc1 rfl rfl rfl ?_|refine aH rfl rfl ?_|refine aH (aX ..) rfl ?_|refine dP (by assumption) rfl rfl ?_|refine oz ?_));first|done|fail) (reg:=by(repeat' (first|exact ae.nil|refine ae.sl rfl (by assumption) (by rcases hj2 with h|h<;>rw[h]<;>rfl) ?_|refine rz ?_|refine ae.sl rfl (by assumption) rfl ?_));first|done|fail))⟩
     refine⟨?_⟩
     repeat' (first
      |(refine qz ?_;first
       |refine ld (c := .int .i64 mq) ?_
       |refine lg ?_ (hle:=by rw[aY])
       |refine uh (enc:=mC) (a:=⟨kd,mq,mv,ed,ml⟩) ?_
       |refine xe (enc:=mC) ?_)
      |refine zz ?_|refine zx (fun _=>?_) (fun _=>?_)|fail)
     exact ih3 (k+1) _ _ _ (bq [0,1,2,3,4,5,6,7,8,9,10,11,12,17] (obj:=by(repeat' (first|exact af.nil|refine ef hc0 hc1 rfl rfl rfl ?_|refine aH rfl rfl ?_|refine aH (aX ..) rfl ?_|refine dP (by assumption) rfl rfl ?_|refine af.flat (by rw[hgs1];rfl) ?_|refine oz ?_));first|done|fail) (reg:=by(repeat' (first|exact ae.nil|refine ae.sl rfl (by assumption) (by rcases hj2 with h|h<;>rw[h]<;>rfl) ?_|refine ae.flat (by rw[hgs1];rfl) ?_|refine ae.flat (by rw[<-Nat.add_assoc,hat];rfl) ?_|refine rz ?_|refine ae.sl rfl (by assumption) rfl ?_));first|done|fail)) (by omega) (by omega)
    ·obtain rfl:k=n:=by omega
     clear ih3
     have hLs:(fl mC ms).all XC.shut=true:=List.all_eq_true.2 fun c hc=>by
      obtain⟨x,_,hx⟩:=List.mem_flatMap.1 hc;exact List.all_eq_true.1 (jQ x) c hx
     have hne:fl mC ms≠[]:=IX fun e=>by rw[e]at hgk;simp at hgk;omega
     have hsl:bu 107 (fl mC ms) = .cells (fl mC ms) 107 true false:=bJ hne;have hsc:fk 13 k 391 = .slice 13 0 k (.toEnd 391):=if_neg (by omega);have hml:(fl mC ms).length=k*391:=by rw[pZ,hgk]
     have hnx3:gL l I Q M all (i*all) (t+1)=(gs++[⟨(F:Nat),ms⟩],F+k):=by rw[hnxt,hms]
     rw[hsl,hsc]
     repeat' (first|refine eY 31 ?_|refine lW 31 ?_|refine zz ?_|refine zx (fun _=>?_) (fun _=>?_)|fail)
     refine⟨?_⟩;refine WX.pc (L:=fB 0 (ps i)++fU gs) (vs:=fl mC ms) 13 8 k (.toEnd 391) [(1,.one (.ptr 3 0)),(2,.one (.ptr 4 0)),(3,.one (.ptr 5 0)),(4,.one (.ptr 6 0)),(44,.one c'),(45,.one (.int .i64 (np:Nat))),(46,.one (.int .i64 (i:Nat))),(8,.one (.ptr 9 0)),(9,.one (.ptr 10 0)),(10,.one (.int .i64 (G.cols*G.rows))),(6,.one (.int .i64 ((i*all+F+k:Nat):Int))),(11,.one (.int .i64 (F:Nat))),(12,.one (.int .i64 (k:Nat))),(13,.one (.ptr 12 0))] [ob0,ob1,X,D7 h c0 c1,.cells (d9 wX .nils) 36 false false,.cells (ij G) 26 false false,.cells (d9 G (fk 7 i 5)) 36 false false,bu 87 ((fl nK (fi 0 (ps i))).map (·.self 8)),.late (fB 0 (ps i)++fU gs++[fl mC ms]),.cells (eP ⟨pi,pd,pq,pm⟩) 84 false false,.cells (sT ⟨(i:Nat),I,D,Q⟩ (fk 11 gs.length 2)) 87 false false,bu 90 ((fl pe (gv (wide (ps i)) gs)).map (·.self 8)),.cells (yM (F:Nat) (.lsl 8 (wide (ps i)+gs.length) 0 k k 0)) 90 false false,.dead] (m:=wide (ps i)+gs.length) (O5 ms _) (.inr ⟨391,rfl,by decide,by rw[hml];exact Nat.le_refl _⟩) hLl (hv:=GU hLs 8) (hH:=by repeat' (first|exact aO.nil|refine aO.ghost ?_|refine aO.flat rfl ?_|refine aO.cells rfl (cU.same (D6 hc0 hc1 (by decide) (by decide))) ?_|refine aO.cells rfl (cU.same (fq trivial)) ?_|refine aO.cells rfl (cU.same (fq (tU (by decide)))) ?_|refine aO.bu rfl (d8 (by assumption) _ _) ?_|refine aO.cells rfl (cU.same (by simp[XC.iA,tU])) ?_|refine aO.cells rfl (cU.cons (.same trivial) (.cons .uC (.same (fun _ h=>nomatch h)))) ?_|refine aO.cells rfl (cU.cons (.same trivial) (.cons (.same trivial) (.cons (.same trivial) (.cons (.same trivial) (.cons .uC (.same (fun _ h=>nomatch h))))))) ?_|refine aO.dead ?_)) (hR:=by repeat' (first|exact bG.nil|refine bG.flat rfl ?_|refine bG.one rfl dF.uC ?_|refine bG.one rfl (dF.same (cL.iA (by assumption) (by rcases hj2 with h|h<;>rw[h]<;>decide))) ?_|refine bG.one rfl (dF.same (by first|trivial|(simp[XC.iA];done))) ?_)) (hok:=by have hk14:c'.ok 14:=hcj 11;exact(stM (objs:=by repeat' (first|exact ak.nil|refine ak.flat ?_|refine ak.cons (lH hc0 hc1 rfl) ?_|refine ak.cons (bC trivial) ?_|refine ak.cons (bC (aJ (Nat.le_of_ble_eq_true rfl))) ?_|refine ak.cons (i_ (fE (by assumption) (Nat.le_of_ble_eq_true rfl))) ?_|refine ak.cons (by first|(simp[aj.bt,XC.ok,aJ];done)|(simp[aj.bt,XC.ok,aJ, *];done)) ?_)))) (h:=?_);have hg1:(gL l I Q M all (i*all) (t+1)).1=gs++[⟨(F:Nat),ms⟩]:=by rw[hnx3]
     have hg2:(gL l I Q M all (i*all) (t+1)).2=F+k:=by rw[hnx3]
     have hg1l:(gL l I Q M all (i*all) (t+1)).1.length=gs.length+1:=by rw[hg1,List.length_append];rfl
     have hlate:fB 0 (ps i)++fU (gs++[⟨(F:Nat),ms⟩])=fB 0 (ps i)++fU gs++[fl mC ms]:=by
      unfold fU;rw[List.map_append,<-List.append_assoc];rfl
     have hgr:(fl pe (gv (wide (ps i)) (gs++[⟨(F:Nat),ms⟩]))).map (·.self 8)=(fl pe (gv (wide (ps i)) gs)).map (·.self 8)++yM (F:Nat) (.lsl 8 (wide (ps i)+gs.length) 0 k k 0):=by
      rw[xt];unfold fl;rw[List.flatMap_append,List.map_append,<-hgk];rfl
     have hz3:∀c∈fl pe (gv (wide (ps i)) (gL l I Q M all (i*all) (t+1)).1),c.f7 (wide (ps i)+(gL l I Q M all (i*all) (t+1)).1.length)=true:=qG _ _ _ (Nat.le_refl _)
     repeat' (first
      |(refine qz ?_;first
       |refine sL (zs:=yM 0 .nils) (hz:=wz) ?_
       |refine Rc 11 gs.length ((fl pe (gv (wide (ps i)) gs)).map (·.self 8)) ?_ (hn:=by rw[List.length_map,hgl]))
      |refine zz ?_|refine zx (fun _=>?_) (fun _=>?_)|fail)
     exact ih2 (t+1) _ _ _ (bq [0,1,2,3,4,5,6,7,8,9,10,15] (obj:=by(repeat' (first|exact af.nil|refine ef hc0 hc1 rfl rfl rfl ?_|refine aH rfl rfl ?_|refine KI (aX ..) rfl ?_|refine dP hz1 rfl rfl ?_|refine dP hz3 (by rw[hg1,hgr];rfl) rfl ?_|refine af.flat (by rw[hg1,hlate];rfl) ?_|refine af.cons (by rw[hg1l];simp only[aj.aC,List.map_cons,List.map_nil,XC.aC,aX];exact rfl) ?_|refine oz ?_));first|done|fail) (reg:=by(repeat' (first|exact ae.nil|refine ae.sl rfl (by assumption) (by rcases hj2 with h|h<;>rw[h]<;>rfl) ?_|refine ae.flat (by rw[hg2,<-Nat.add_assoc];rfl) ?_|refine ae.flat (by rw[hg2];rfl) ?_|refine rz ?_|refine ae.sl rfl (by assumption) rfl ?_));first|done|fail)) (by rw[hg2];omega) (by rw[hg2,hF];omega)
   ·have hFa:F=all:=by omega
    have hga:(gL l I Q M all (i*all) all).1=gs:=by
     have:=hstop hFa (all-t);rw[show t+(all-t)=all by omega]at this;rw[this,hgs]
    clear ih2
    have hgn:gs.length≠0:=fun e=>by
     obtain rfl:=List.length_eq_zero_iff.1 e;have k1:(0:Int)=(F:Nat):=k1;omega
    have hsl2:bu 90 ((fl pe (gv (wide (ps i)) gs)).map (·.self 8)) = .cells ((fl pe (gv (wide (ps i)) gs)).map (·.self 8)) 90 true false:=bJ fun e=>by
     have h2:((fl pe (gv (wide (ps i)) gs)).map (·.self 8)).length=0:=by rw[e];rfl
     rw[List.length_map,hgl]at h2;omega
    have hsc2:fk 11 gs.length 2 = .slice 11 0 gs.length (.toEnd 2):=if_neg hgn;rw[hsl2,hsc2]
    repeat' (first|refine eY 33 ?_|refine lW 33 ?_|refine qJ 33 ?_|refine zz ?_|refine zx (fun _=>?_) (fun _=>?_)|fail)
    refine⟨?_⟩;refine WX.pc (L:=fB 0 (ps i)++fU gs) (vs:=fl pe (gv (wide (ps i)) gs)) (us:=(fl pe (gv (wide (ps i)) gs)).map (·.self 8)) 11 8 gs.length (.toEnd 2) [(1,.one (.ptr 3 0)),(2,.one (.ptr 4 0)),(3,.one (.ptr 5 0)),(4,.one (.ptr 6 0)),(44,.one c'),(45,.one (.int .i64 (np:Nat))),(46,.one (.int .i64 (i:Nat))),(6,.one (.int .i64 ((i*all+F:Nat):Int))),(9,.one (.ptr 10 0))] [ob0,ob1,X,D7 h c0 c1,.cells (d9 wX .nils) 36 false false,.cells (ij G) 26 false false,.cells (d9 G (fk 7 i 5)) 36 false false,bu 87 ((fl nK (fi 0 (ps i))).map (·.self 8)),.late (fB 0 (ps i)++fU gs++[fl pe (gv (wide (ps i)) gs)]),.cells (eP ⟨pi,pd,pq,pm⟩) 84 false false,.cells (sT ⟨(i:Nat),I,D,Q⟩ (.lsl 8 (wide (ps i)+gs.length) 0 gs.length gs.length 0)) 87 false false,.dead] (m:=wide (ps i)+gs.length) hz2 (.inr ⟨2,rfl,by decide,by rw[List.length_map,hgl];exact Nat.le_refl _⟩) hLl (hH:=by repeat' (first|exact aO.nil|refine aO.ghost ?_|refine aO.flat rfl ?_|refine aO.cells rfl (cU.same (D6 hc0 hc1 (by decide) (by decide))) ?_|refine aO.cells rfl (cU.same (fq trivial)) ?_|refine aO.cells rfl (cU.same (fq (tU (by decide)))) ?_|refine aO.bu rfl (d8 (by assumption) _ _) ?_|refine aO.cells rfl (cU.same (by simp[XC.iA,tU])) ?_|refine aO.cells rfl (cU.cons (.same trivial) (.cons .uC (.same (fun _ h=>nomatch h)))) ?_|refine aO.cells rfl (cU.cons (.same trivial) (.cons (.same trivial) (.cons (.same trivial) (.cons (.same trivial) (.cons .uC (.same (fun _ h=>nomatch h))))))) ?_|refine aO.dead ?_)) (hR:=by repeat' (first|exact bG.nil|refine bG.flat rfl ?_|refine bG.one rfl dF.uC ?_|refine bG.one rfl (dF.same (cL.iA (by assumption) (by rcases hj2 with h|h<;>rw[h]<;>decide))) ?_|refine bG.one rfl (dF.same (by first|trivial|(simp[XC.iA];done))) ?_)) (hok:=by have hk12:c'.ok 12:=hcj 9;exact(stM (objs:=by repeat' (first|exact ak.nil|refine ak.flat ?_|refine ak.cons (lH hc0 hc1 rfl) ?_|refine ak.cons (bC trivial) ?_|refine ak.cons (bC (aJ (Nat.le_of_ble_eq_true rfl))) ?_|refine ak.cons (i_ (fE (by assumption) (Nat.le_of_ble_eq_true rfl))) ?_|refine ak.cons (by first|(simp[aj.bt,XC.ok,aJ];done)|(simp[aj.bt,XC.ok,aJ, *];done)) ?_)))) (h:=?_);rw[hga]at hnx
    have hpx:(fl nK (fi 0 (ps (i+1)))).map (·.self 8)=(fl nK (fi 0 (ps i))).map (·.self 8)++sT ⟨(i:Nat),I,D,Q⟩ (.lsl 8 (wide (ps i)+gs.length) 0 gs.length gs.length 0):=by
     rw[hnx,xJ,Nat.zero_add];unfold fl;rw[List.flatMap_append,List.map_append];rfl
    have hlx:fB 0 (ps (i+1))=fB 0 (ps i)++fU gs++[fl pe (gv (wide (ps i)) gs)]:=by
     rw[hnx,xA,Nat.zero_add,List.append_assoc];rfl
    have hz4:=hok1 (i+1);have hax:(i+1)*all=i*all+F:=by rw[Nat.add_mul,Nat.one_mul,hFa]
    repeat' (first
     |(refine qz ?_;first
      |refine ld (c:=fk 7 i 5) ?_ (hc:=zg _ _)
      |refine sL (zs:=sT ⟨0,false,false,0⟩ .nils) (hz:=sI) ?_
      |refine Rc 7 i ((fl nK (fi 0 (ps i))).map (·.self 8)) ?_ (hn:=by rw[List.length_map,pZ,qZ,hpl2])
      |refine st ?_ (hle:=by rw[dh];decide) (hv:=Nv _ _ _))
     |refine zz ?_|refine zx (fun _=>?_) (fun _=>?_)|fail)
    exact ih (i+1) _ _ _ (bq [0,1,2,3,4,5,6,13,8] (obj:=by(repeat' (first|exact af.nil|refine ef hc0 hc1 rfl rfl rfl ?_|refine aH rfl rfl ?_|refine KI (aX ..) rfl ?_|refine dP hz4 (by rw[hpx];rfl) rfl ?_|refine af.flat (by rw[hlx];rfl) ?_|refine oz ?_));first|done|fail) (reg:=by(repeat' (first|exact ae.nil|refine ae.sl rfl (by assumption) (by rcases hj2 with h|h<;>rw[h]<;>rfl) ?_|refine ae.flat (by rw[hax];rfl) ?_|refine rz ?_|refine ae.sl rfl (by assumption) rfl ?_));first|done|fail)) (by omega) (by omega)
  ·obtain rfl:i=np:=by omega
   clear ih
   have hSF:(tt h pics l).ps=ps i:=by
    show Bp l ((jt h).cols*(jt h).rows).toNat pics (lu pics)=_;rw[hG,hall,hnp,hps]
   have hpl3:(fl nK (fi 0 (ps i))).length=i*5:=by rw[pZ,qZ,hpl2]
   have hsl3:bu 87 ((fl nK (fi 0 (ps i))).map (·.self 8)) = .cells ((fl nK (fi 0 (ps i))).map (·.self 8)) 87 true false:=bJ fun e=>by
    have h2:((fl nK (fi 0 (ps i))).map (·.self 8)).length=0:=by rw[e];rfl
    rw[List.length_map,hpl3]at h2;omega
   have hsc3:fk 7 i 5 = .slice 7 0 i (.toEnd 5):=if_neg (by omega);have hl132:132=(d9 G (.lsl 8 (wide (ps i)) 0 i i 0)).length:=(dh _ _).symm;rw[hsl3,hsc3,hSF,hG,hnp]
   repeat' (first|refine eY 35 ?_|refine lW 35 ?_|refine zz ?_|refine zx (fun _=>?_) (fun _=>?_)|fail)
   refine⟨?_⟩;refine WX.pc (L:=fB 0 (ps i)) (vs:=fl nK (fi 0 (ps i))) (us:=(fl nK (fi 0 (ps i))).map (·.self 8)) 7 8 i (.toEnd 5) [(2,.one (.ptr 4 0)),(4,.one (.ptr 6 0))] [ob0,ob1,.dead,.dead,.cells (d9 wX .nils) 36 false false,.dead,.cells (d9 G (.lsl 8 (wide (ps i)) 0 i i 0)) 36 false false,.dead,.late (fB 0 (ps i)++[fl nK (fi 0 (ps i))])] (m:=wide (ps i)) hz1 (.inr ⟨5,rfl,by decide,by rw[List.length_map,hpl3];exact Nat.le_refl _⟩) (hwl i) (hH:=by repeat' (first|exact aO.nil|refine aO.ghost ?_|refine aO.dead ?_|refine aO.flat rfl ?_|refine aO.cells rfl (cU.same (fq trivial)) ?_|refine aO.cells rfl (Nu _) ?_)) (hok:=(stM (objs:=by repeat' (first|exact ak.nil|refine ak.flat ?_|refine ak.cons (bC trivial) ?_|refine ak.cons (bC (show 8<_ from Nat.le_of_ble_eq_true rfl)) ?_|refine ak.cons trivial ?_)))) (h:=?_)
   repeat' (first
    |(refine qz ?_;first
     |refine lg ?_ (hle:=(dh _ _).symm)
     |refine tq (cs:=d9 G (.lsl 8 (wide (ps i)) 0 i i 0)) ?_ (hs1:=(dh _ _).symm) (hs2:=(dh _ _).symm))
    |refine zz ?_|refine zx (fun _=>?_) (fun _=>?_)|fail)
   show aE _ _ _ _ _ _ _ _;refine kV [0,1,8] ?_ (hr:=gq.one rfl (.cell rfl rfl (cC hl132) .nil)) (hok:=p8 (show 2<3 by omega));exact(m7 (c' := .lsl 8 (wide (ps i)) 0 i i 0) rfl).symm
end Go.Proofs.YthdciapjllppjaaGreat
namespace Go.Xm
variable [av]
variable {P:Program} {ops:Array Oper} {nt nI:Nat} {al:aL} {hs:ah} {o:Oper} {l:List Oper} {L:List aA} {K:List Ab->aL->ah->Prop} {d:Nat}
theorem SY{t t1 e e1:TypeId}{a b:Operand}{k:IntKind}{i n g:Nat}{q p:List Int}{LL:List (List XC)}{c:XC}{N:Nat}{hs':ah}(hc:cy LL g c (il k p) p.length)(hk:SK P ops nt L l ((d,dV N (n+p.length) 1)::al) hs' fun bs=>K (⟨true,.none,[i,N]⟩::bs))(ho:o.op = .call ⟨.builtin .append,#[a,b],#[t,t1]⟩:=by exact rfl)(hu:aG P t (.slice e):=by infer_instance)(hu1:aG P t1 (.slice e1):=by infer_instance)(hz:aK P e [.int k 0]:=by infer_instance)(hI:TI P e 1:=by infer_instance)(wn:Wn ops nt al o d:=by exact⟨rfl,rfl,rfl⟩)(ha:ag (rg al) a=dV i n 1:=by exact rfl)(hi:hs[i]? = some (bu e (il k q)):=by exact rfl)(hb:ag (rg al) b = .one c:=by exact rfl)(hg:hs[g]? = some (.late LL):=by exact rfl)(hn:q.length=n:=by first|assumption|exact rfl)(hm:0<p.length/\n+p.length<=2000000000:=by omega)(hN:hs.length=N:=by exact n2)(hbd:Nat.blt N Mem.bound=true:=by exact rfl)(hh:hs.set i .dead++[bu e (il k (q++p))]=hs':=by first|(simp only[List.set_cons_succ,List.set_cons_zero,List.cons_append,List.nil_append];exact rfl)|exact rfl):SK P ops nt L (o::l) al hs K:=by
 have hne:il k (q++p)≠[]:=fun e=>by
  have h2:(il k (q++p)).length=0:=by rw[e];rfl
  rw[br,List.length_append]at h2;omega
 refine SX (cs:=il k q) (tW (hu:=hu1) hb hc hg) ?_ ho hu hz hI wn ⟨rfl,Nat.one_pos⟩ ha hi (by rw[br];omega) hm hN hbd (hs':=hs') ?_
 ·rw[c_ (by omega)]at hk;exact hk
 ·rw[<-hh,bJ hne,r_]
end Go.Xm
namespace Go.Proofs.YthdciapjllppjaaGreat
open Go.Xm
variable [av]
structure Q9(ps:List (List Int)):Prop where
 many:1<=ps.length/\ps.length<=46
 pos:∀i,i<ps.length->1<=(ps.getD i []).length
 body:∀i,0<i->i<ps.length->23<=(ps.getD i []).length
 few:∀i,(ps.getD i []).length<=70000
 byte:∀i,aR (ps.getD i [])
theorem xq(ps:List (List Int))(h:∀i,(ps.getD i []).length<=70000):∀n,(g_ ps n).length<=70000*n
 | 0=>Nat.le_refl _
 | n+1=>by
   have h1:=xq ps h n;have h2:=h n;rw[g_,List.length_append];omega
theorem xX(B:List Bool)(hB:119<=B.length):∀k,k<=17->aR (p7 B k)
 | 0,_=>jU
 | k+1,h=>by
   rw[p7];refine jT (xX B hB k (by omega)) (dD ?_ jU);unfold GV;rw[pS (by omega)];have:=OC B (7*k);omega
theorem CR{B:List Bool}(hB:119<=B.length){x y:List Int}(hx:aR x)(hy:aR y):aR (ln B x y):=
 jT (jT (jT (dD (by omega) (dD (by omega) (dD (by omega) (dD (by omega) jU)))) (xX B hB 17 (Nat.le_refl _))) hx) hy
theorem MY{h:Hd}{ps:List Pc}{q:List Int}(hq:q∈qh h ps):∃i,i<ps.length/\∃g∈(ps.getD i default).gs,q=EF h (ps.getD i default).ph g:=by
 unfold qh at hq;obtain⟨p,hp,hq⟩:=List.mem_flatMap.1 hq;obtain⟨i,hi,rfl⟩:=List.mem_iff_getElem.1 hp;unfold MX at hq;obtain⟨g,hg,rfl⟩:=List.mem_map.1 hq;refine⟨i,hi,g,?_,?_⟩<;>rw[List.getD_eq_getElem?_getD,List.getElem?_eq_getElem hi,Option.getD_some]
 exact hg
theorem CW{s:wC}(hs:jz s){q:List Int}(hq:q∈qh s.hd s.ps):23<=q.length/\q.length<=70000/\aR q/\∃a b:Nat,kA q=((a:Int),(b:Int))/\1<=a/\a<=30000/\1<=b/\b<=30000/\q.length=21+a+b:=by
 obtain⟨i,hi,g,hg,rfl⟩:=MY hq;obtain⟨-,-,ba,bb,la,lb⟩:=Oq hs hi hg;have hl:(EF s.hd (s.ps.getD i default).ph g).length=21+(gy s.hd (s.ps.getD i default).ph g).1.length+(gy s.hd (s.ps.getD i default).ph g).2.length:=xI ..;refine⟨by omega,by omega,CR (by rw[SE,xx];exact Nat.le_refl _) ba bb,_,_,A0 (by omega) (by omega) _ _,la.1,la.2,lb.1,lb.2,hl⟩
theorem EH{h:Hd}{all:Nat}:∀{ps:List Pc},(∀p∈ps,p.gs.length<=all)->(qh h ps).length<=all*ps.length
 | [],_=>Nat.zero_le _
 | p::l,hp=>by
   have ih:=EH (h:=h) (ps:=l) fun p hp'=>hp p (List.mem_cons_of_mem _ hp')
   have h1:=hp p (List.mem_cons_self ..);have e:qh h (p::l)=MX h p++qh h l:=rfl;have e2:(MX h p).length=p.gs.length:=List.length_map ..;rw[e,List.length_append,e2,List.length_cons,Nat.mul_add];omega
theorem y4{s:wC}{i:Nat}(h0:0<i)(hi:i<(iD s).length):(iD s).getD i []∈qh s.hd s.ps:=by
 cases i with
 | zero=>omega
 | succ i=>
   have hi:i<(qh s.hd s.ps).length:=by
    have:(iD s).length=(qh s.hd s.ps).length+1:=List.length_cons;omega
   show(qh s.hd s.ps).getD i []∈_;rw[List.getD_eq_getElem?_getD,List.getElem?_eq_getElem hi];exact List.getElem_mem hi
theorem CY{s:wC}(hs:jz s):Q9 (iD s):=by
 have hm:=hs.ok.many;have hcr:=m9 hs.ok;have hlen:(iD s).length=(qh s.hd s.ps).length+1:=List.length_cons
 have hl:(qh s.hd s.ps).length<=9*s.ps.length:=EH fun p hp=>by
  obtain⟨i,hi,rfl⟩:=List.mem_iff_getElem.1 hp;have:=(hs.ok.pics i hi).few;rw[List.getD_eq_getElem?_getD,List.getElem?_eq_getElem hi,Option.getD_some]at this;omega
 have hy:=Eo s.hd
 have key:∀i,i<(iD s).length->1<=((iD s).getD i []).length/\((iD s).getD i []).length<=70000/\aR ((iD s).getD i []):=fun i hi=>by
  by_cases h0:i=0
  ·subst h0;exact⟨by show 1<=(LH s.hd).length;omega,by show(LH s.hd).length<=70000;omega,I3 _⟩
  ·have:=CW hs (y4 (by omega) hi);exact⟨by omega,this.2.1,this.2.2.1⟩
 have out:∀i,¬i<(iD s).length->(iD s).getD i [] = []:=fun i hi=>by
  rw[List.getD_eq_getElem?_getD,List.getElem?_eq_none (by omega)];rfl
 refine⟨by omega,fun i hi=>(key i hi).1,fun i h0 hi=>(CW hs (y4 h0 hi)).1,fun i=>?_,fun i=>?_⟩
 ·by_cases hi:i<(iD s).length
  ·exact(key i hi).2.1
  ·rw[out i hi];exact Nat.zero_le _
 ·by_cases hi:i<(iD s).length
  ·exact(key i hi).2.2
  ·rw[out i hi];exact jU
theorem vd{s:wC}(hs:jz s){L:List (List XC)}{k n i:Nat}(hp:po L k s.ps)(hn:s.ps.length=n){ps:List (List Int)}(hps:iD s=ps){m:Nat}(hm:ps.length=m){B:List (List XC)}(hB:sd ps=B){HS:ah}(hi:HS[i]? = some (.late L)){N:Nat}(hN:HS.length=N){HS':ah}(hh:HS++[.late B]=HS')(hbd:Nat.blt HS'.length Mem.bound=true) :
 aA.Sound prog ⟨12,[.agg (d9 s.hd (.lsl i k 0 n n 0))],HS,.tup [.one (.lsl N m 0 m m 0),.one (.int .i64 0)],HS',[i]⟩:=by
 subst hB;exact CS hs hp hn hps hm hi hN hh hbd
theorem C6{s:wC}(hs:jz s){L:List (List XC)}{k n:Nat}(hp:po L k s.ps)(hn:s.ps.length=n){ps:List (List Int)}(hps:iD s=ps){q:List Int}(hq:g_ ps ps.length=q) :
 bm prog 14 [.agg (d9 s.hd (.lsl 0 k 0 n n 0))] [.late L] (.tup [.one (.slice 1 0 q.length (.toEnd 1)),.one (.int .i64 0)]) [.late L,.cells (il .u8 q) 5 true false]:=by
 have hko:=CY hs;rw[hps]at hko;obtain⟨hmany,hpos,hbody,hfew,hbyte⟩:=hko;subst hn
 obtain⟨m,hm⟩:∃m,ps.length=m:=⟨_,rfl⟩
 have hbs:lE (sd ps) (fb 0 ps) ps:=Et;have hlast:=xz ps
 obtain⟨B,hB⟩:∃B,sd ps=B:=⟨_,rfl⟩
 obtain⟨cs,hcs⟩:∃cs,fb 0 ps=cs:=⟨_,rfl⟩
 rw[hB,hcs]at hbs hlast;rw[hm]at hlast;refine cO Tryz.func14 ?_
 repeat' (first
  |(refine qz ?_;first
   |refine lg ?_ (hle:=(dh _ _).symm)
   |refine cl ?_ (hi:=by exact vd hs hp rfl hps hm hB (i:=0) rfl nL nA rfl)
   |refine nN ?_)
  |refine zz ?_|refine zx (fun _=>?_) (fun _=>?_)|fail)
 refine WX.bU rfl ?_;refine WX.bN (σ:=Nat) (fun j=>[(17,.one (.lsl 2 m 0 m m 0)),(18,.one (.int .i64 (m:Nat))),(6,dV 3 (g_ ps j).length 1),(19,.one (.int .i64 (j:Nat)))]) (fun j=>[.late L,.dead,.late B,bu 5 (il .u8 (g_ ps j))]) (fun j=>j<=m) (fun j=>m-j) 0 (Nat.zero_le _) (fun j _=>stM) (bq [0,1,2,3]) ?_;intro j hj ih;have hal:=xq ps hfew j
 by_cases hlt:j<m
 ·obtain⟨y,x,h1,h2,h3⟩:=D2 hbs (i:=j) (by omega) 2;have hpk:=hfew j;have hp1:=hpos j (by omega);have hs1:g_ ps (j+1)=g_ ps j++ps.getD j []:=rfl
  obtain⟨p,hpe⟩:∃p,ps.getD j []=p:=⟨_,rfl⟩
  obtain⟨A,hA⟩:∃A,g_ ps j=A:=⟨_,rfl⟩
  rw[hpe]at h3 hpk hp1 hs1;rw[hA]at hal hs1;rw[hA]
  repeat' (first
   |(refine qz ?_;first
    |refine nN ?_
    |refine sP ?_
    |refine se ?_ hlast h1 h2
    |refine SY h3 ?_)
   |refine zz ?_|refine zx (fun _=>?_) (fun _=>?_)|fail)
  exact ih (j+1) _ _ _ (bq [0,1,2,4] (obj:=by(repeat' (first|exact af.nil|refine af.flat (by rw[hs1];rfl) ?_|refine oz ?_));first|done|fail) (reg:=by(repeat' (first|exact ae.nil|refine ae.iO rfl rfl (by rw[hs1,List.length_append]) ?_|refine rz ?_|refine ae.sl rfl (by assumption) rfl ?_));first|done|fail)) (by omega) (by omega)
 ·obtain rfl:j=m:=by omega
  subst hm;rw[hq]
  have hq1:q.length≠0:=by
   rw[<-hq];have h0:=hpos (ps.length-1) (by omega);rw[show ps.length=(ps.length-1)+1 by omega,g_,List.length_append];omega
  have hsq:bu 5 (il .u8 q) = .cells (il .u8 q) 5 true false:=vL (by omega);rw[hsq,c_ hq1]
  repeat' (first
   |(refine qz ?_;first
    |refine nN ?_)
   |refine zz ?_|refine zx (fun _=>?_) (fun _=>?_)|fail)
  show aE _ _ _ _ _ _ _ _;refine kV [0,3] ?_;rfl
theorem GR{s:wC}(hs:jz s){L:List (List XC)}{k n i:Nat}(hp:po L k s.ps)(hn:s.ps.length=n){ps:List (List Int)}(hps:iD s=ps){q:List Int}(hq:g_ ps ps.length=q){m:Nat}(hm:q.length=m){HS:ah}(hi:HS[i]? = some (.late L)){N:Nat}(hN:HS.length=N){HS':ah}(hh:HS++[.cells (il .u8 q) 5 true false]=HS')(hbd:Nat.blt HS'.length Mem.bound=true) :
 aA.Sound prog ⟨14,[.agg (d9 s.hd (.lsl i k 0 n n 0))],HS,.tup [.one (.slice N 0 m (.toEnd 1)),.one (.int .i64 0)],HS',[i]⟩:=by
 subst hN hm;refine bh [i] [i] 1 (C6 hs hp hn hps hq) (by simp) (.flat hi .nil) (.flat .nil) (.flat (.flat .nil)) rfl (.cons (p8 (show 0<_ from Nat.le_of_ble_eq_true rfl)) .nil) (.cons (m7 rfl) .nil) (JQ (show 1<2 by omega) trivial) rfl (.flat (.flat .nil)) rfl rfl (by simp only[bD];rw[aB hi];exact hh) hbd (.inl rfl)
theorem Ch{h:Hd}{c0 c1:XC}{n:Nat}(h0:c0.ok n)(h1:c1.ok n):(XV.agg (rY h c0 c1)).bt n:=fun x hx=>by
 rcases List.mem_append.1 (show x∈ij h++[c0,c1]from hx)with hx|hx
 ·exact XC.bj (List.all_eq_true.1 (eO h) x hx) n
 ·simp only[List.mem_cons,List.not_mem_nil,or_false]at hx
  rcases hx with rfl|rfl
  ·exact h0
  ·exact h1
theorem D8{h:Hd}{c0 c1:XC}{τ : Nat->Nat}:(XV.agg (rY h c0 c1)).aC τ = .agg (rY h (c0.aC τ) (c1.aC τ)):=by
 simp only[rY,XV.aC,List.map_append,qL,List.map_cons,List.map_nil]
theorem xY{h:Hd}(hhr:pn h){pics:List tD}(hpp:∀j,j<pics.length->j8 (pics.getD j default)){l:List Sm}(hll:∀j,j<l.length->iP (l.getD j default)){ob0 ob1:aj}(hr0:B5 ob0 eP pics)(hr1:B5 ob1 tV l){i j:Nat}{c0 c1:XC}(hc0:cL c0 i 0 pics.length)(hc1:cL c1 j 0 l.length)(hn0:pics.length<=30)(hn1:l.length<=300){HS:ah}(hi:HS[i]? = some ob0)(hj:HS[j]? = some ob1)(hij:i≠j){s:wC}(hs:tt h pics l=s){w np:Nat}(hw:wide s.ps=w)(hnp:s.ps.length=np){B:List (List XC)}(hB:Gc s.ps=B){N:Nat}(hN:HS.length=N){HS':ah}(hh:HS++[.late B]=HS')(hbd:Nat.blt HS'.length Mem.bound=true) :
 aA.Sound prog ⟨11,[.agg (rY h c0 c1)],HS,.agg (d9 s.hd (.lsl N w 0 np np 0)),HS',[i,j]⟩:=by
 have hnp2:lu pics=np:=by rw[<-hnp,<-hs];exact(kE ..).symm
 subst hs hw hB hN;have hfo0:=hr0.flat;have hfo1:=hr1.flat;obtain⟨d0,k0,rfl⟩:=hc0.DW 0 (nth [i,j]) rfl;obtain⟨d1,k1,rfl⟩:=hc1.DW 1 (nth [i,j]) rfl;have hc:=Dh hhr hpp hll hr0 hr1 k0 k1 hn0 hn1;rw[hnp2]at hc;refine bh [i,j] [i,j] 1 hc (by simp[hij]) (.flat hi (.flat hj .nil)) (.flat (.flat .nil)) (.flat (.flat (.flat .nil))) rfl (.cons (Ch (k0.ok (Nat.le_of_ble_eq_true rfl)) (k1.ok (Nat.le_of_ble_eq_true rfl))) .nil) (.cons D8 .nil) (p8 (show 2<3 by omega)) (m7 rfl) (.flat (.flat (.flat .nil))) ?_ rfl (by simp only[bD];rw[aB hi,aB hj];exact hh) hbd (.inl rfl);simp only[fX];cases ob0.live<;>cases ob1.live<;>rfl
theorem Aj(h:Hd):((fe h).w=true->∀i,i<64->8<=(fe h).a i/\8<=(fe h).b i)/\((fe h).w=false->∀i,i<64->(fe h).a i=0/\(fe h).b i=0):=by
 have:=(Ms h).1;exact⟨this.yes,this.no⟩
theorem Bo{h:Hd}(hhr:pn h){pics:List tD}(hpp:∀j,j<pics.length->j8 (pics.getD j default)){l:List Sm}(hll:∀j,j<l.length->iP (l.getD j default)):jz (tt h pics l):=by
 have hG:1<=(jt h).cols/\(jt h).cols<=3/\1<=(jt h).rows/\(jt h).rows<=3:=by
  have hfc:1<=(fe h).cols/\(fe h).cols<=8:=by show 1<=1+h.cols%2^3/\1+h.cols%2^3<=8;omega
  have hfr:1<=(fe h).rows/\(fe h).rows<=8:=by show 1<=1+h.rows%2^3/\1+h.rows%2^3<=8;omega
  refine⟨?_,?_,?_,?_⟩
  ·show 1<=1+(fe h).cols%3;omega
  ·show 1+(fe h).cols%3<=3;omega
  ·show 1<=1+(fe h).rows%3;omega
  ·show 1+(fe h).rows%3<=3;omega
 obtain⟨c0,c1,r0,r1⟩:=hG;have hlen:(tt h pics l).ps.length=lu pics:=kE ..;have hnp:1<=lu pics/\lu pics<=5:=by unfold lu;split<;>omega
 have hraw:∀i,j8 (pics.getD i default):=fun i=>by
  by_cases hip:i<pics.length
  ·exact hpp i hip
  ·rw[List.getD_eq_getElem?_getD,List.getElem?_eq_none (by omega)];exact⟨by show(0:Int)<=0/\(0:Int)<=255;omega,by show(0:Int)<=0/\(0:Int)<=255;omega⟩
 refine⟨⟨⟨⟨c0,by show(jt h).cols<=8;omega,r0,by show(jt h).rows<=8;omega⟩,(Aj h).1,(Aj h).2⟩,?_,⟨c0,c1⟩,⟨r0,r1⟩,by omega,fun i hi=>?_⟩,fun p hp g hg m hm=>?_⟩
 ·intro i hi;have ht:=hhr.tab i hi;show(0<=(lU h).a i/\(lU h).a i<=255)/\(0<=(lU h).b i/\(lU h).b i<=255);unfold lU;split
  ·show(0<=max _ _/\max _ _<=255)/\(0<=max _ _/\max _ _<=255);omega
  ·show((0:Int)<=0/\(0:Int)<=255)/\((0:Int)<=0/\(0:Int)<=255);omega
 ·have e:(tt h pics l).ps.getD i default=Gw l ((jt h).cols*(jt h).rows).toNat i (pics.getD i default):=zl _ _ _ _ _ (by omega);rw[e];exact MU hll _ i (by omega) (hraw i)
 ·obtain⟨i,hi,rfl⟩:=List.mem_iff_getElem.1 hp;have e:(tt h pics l).ps.getD i default=Gw l ((jt h).cols*(jt h).rows).toNat i (pics.getD i default):=zl _ _ _ _ _ (by omega);rw[List.getD_eq_getElem?_getD,List.getElem?_eq_getElem hi,Option.getD_some]at e;rw[e]at hg;exact Cx l _ _ _ _ _ _ g hg m hm
theorem uo{s:wC}(hs:xd s){L F:List (List XC)}{k np n:Nat}(hp:po L k s.ps)(hnp:s.ps.length=np)(hn:s.hd.cols*s.hd.rows=(n:Nat)){sz:List Int}{ob1:aj}(hr1:RO ob1 .i64 sz){cp:nQ}(hsl:sz.length<=1000){l:List mA}{fs:List Fa}(hf:gm F l fs){i0 i1 i2 nf ns:Nat}{d:XC}(hd:cy F i2 d (fl cK l) nf)(hnf:fs.length=nf)(hns:sz.length=ns)(hfl:∀i,(fs.getD i default).mask.length<=1000000)(hfn:fs.length<=1000)
 {Q:Mb->Prop}(fT:List Bool->Int->Mb->Bool) (hFrom:∀(i6:List Bool) (mb:Int) (m:Mb),i6.length=n->0<=mb/\mb<n->Q m->jc m->∀(LL:List (List XC)) (kk:Nat),LL[kk]? = some (bl i6)->∀(HS:ah) (i:Nat),HS[i]? = some (.late LL)->Nat.blt HS.length Mem.bound=true->aA.Sound prog ⟨41,[.agg (pt s.hd.cols s.hd.rows (.lsl i kk 0 n n 0)),.one (.int .i64 mb),.agg (mC m)],HS,.one (.bool (fT i6 mb m)),HS,[]⟩)
 (hQ:∀i j,i<s.ps.length->j<(s.ps.getD i default).gs.length->gW (fs.getD ((gC fT fs sz n s.ps i).at_+j) default) (sz.getD ((gC fT fs sz n s.ps i).at_+j) 0)=false->∀m∈((s.ps.getD i default).gs.getD j default).ms,Q m) {x:SP}(hx:gC fT fs sz n s.ps np=x) {m:Nat}(hm:(x.last+1).toNat=m) {HS:ah}(h0:HS[i0]? = some (.late L)) (h1:HS[i1]? = some ob1) (h2:HS[i2]? = some (.late F)) (hnd : [i0,i1,i2].Nodup) {N:Nat}(hN:HS.length=N) {X:List (List XC)}(hX:bl (List.replicate n true)::x.out.map bl++[sM s.hd.cols s.hd.rows n np]=X) {HS':ah}(hh:HS++[.late X]=HS') (hbd:Nat.blt HS'.length Mem.bound=true) :
 aA.Sound prog ⟨21,[.agg (d9 s.hd (.lsl i0 k 0 np np 0)),.one (.slice i1 0 ns cp),.one d],HS,.one (.lsl N (np+1) 0 m np 0),HS',[i0,i1,i2]⟩:=by
 subst hnf hns hm hN hX;have hfo:=hr1.flat;obtain⟨d0,k0,rfl⟩:=hd.back 2 (nth [i0,i1,i2]) rfl;refine bh [i0,i1,i2] [i0,i1,i2] 1 (Ae hs hp hnp hn hr1 (cp:=cp) hsl hf k0 hfl hfn fT hFrom hQ hx) hnd (.flat h0 (.flat h1 (.flat h2 .nil))) (.flat (.flat (.flat .nil))) (.flat (.flat (.flat (.flat .nil)))) rfl (.cons (p8 (show 0<3 by omega)) (.cons (show 1<3 by omega) (.cons (k0.ok (Nat.le_of_ble_eq_true rfl)) .nil))) (.cons (m7 rfl) (.cons rfl (.cons rfl .nil))) (show 3<4 by omega) rfl (.flat (.flat (.flat (.flat .nil)))) ?_ rfl (by simp only[bD];rw[aB h0,aB h1,aB h2];exact hh) hbd (.inl rfl);simp only[fX];cases ob1.live<;>rfl
theorem AG{h:Hd}{c0 c1:XC}{na nb:Nat}{ob0 ob1:aj}[cf ob0][cf ob1](hc0:cL c0 0 0 na)(hc1:cL c1 1 0 nb) :
 bm prog 10 [.agg (rY h c0 c1)] [ob0,ob1] (.one (.bool (decide (na<=30)&&decide (nb<=300)))) [ob0,ob1]:=by
 by_cases h0:na<=30
 ·by_cases h1:nb<=300
  ·rw[decide_eq_true h0,decide_eq_true h1];refine cO Tryz.func10 ?_
   repeat' (first
    |(refine qz ?_;first
     |refine ld (c:=c0) ?_ (hc:=D3 h c0 c1)
     |refine ld (c:=c1) ?_ (hc:=D4 h c0 c1))
    |refine zz ?_|refine zx (fun _=>?_) (fun _=>?_)|fail)
   show aE _ _ _ _ _ _ _ _;refine kV [0,1] ?_;rfl
  ·rw[decide_eq_true h0,decide_eq_false h1];refine cO Tryz.func10 ?_
   repeat' (first
    |(refine qz ?_;first
     |refine ld (c:=c0) ?_ (hc:=D3 h c0 c1)
     |refine ld (c:=c1) ?_ (hc:=D4 h c0 c1))
    |refine zz ?_|refine zx (fun _=>?_) (fun _=>?_)|fail)
   show aE _ _ _ _ _ _ _ _;refine kV [0,1] ?_;rfl
 ·rw[decide_eq_false h0,Bool.false_and];refine cO Tryz.func10 ?_
  repeat' (first
   |(refine qz ?_;first
    |refine ld (c:=c0) ?_ (hc:=D3 h c0 c1)
    |refine ld (c:=c1) ?_ (hc:=D4 h c0 c1))
   |refine zz ?_|refine zx (fun _=>?_) (fun _=>?_)|fail)
  show aE _ _ _ _ _ _ _ _;refine kV [0,1] ?_;rfl
theorem pY{h:Hd}{c0 c1:XC}{na nb i j:Nat}{ob0 ob1:aj}(hf0:cf ob0)(hf1:cf ob1)(hc0:cL c0 i 0 na)(hc1:cL c1 j 0 nb){r:Bool}(hr:(decide (na<=30)&&decide (nb<=300))=r){HS:ah}(hi:HS[i]? = some ob0)(hj:HS[j]? = some ob1)(hij:i≠j)(hbd:Nat.blt HS.length Mem.bound=true) :
 aA.Sound prog ⟨10,[.agg (rY h c0 c1)],HS,.one (.bool r),HS,[]⟩:=by
 subst hr;obtain⟨d0,k0,rfl⟩:=hc0.DW 0 (nth [i,j]) rfl;obtain⟨d1,k1,rfl⟩:=hc1.DW 1 (nth [i,j]) rfl;exact f_ [i,j] (AG k0 k1) (by simp[hij]) (.flat hi (.flat hj .nil)) (.flat (.flat .nil)) (.cons (Ch (k0.ok (Nat.le_of_ble_eq_true rfl)) (k1.ok (Nat.le_of_ble_eq_true rfl))) .nil) (.cons D8 .nil) trivial rfl hbd rfl
def CO(s:qn):Bool:=decide (s.mask.length<=500)&&decide (s.odd.length<=30)
def AK(q:List qn):Bool:=q.all CO&&decide (q.length<=60)
theorem MH{q:List qn}{i:Nat}(hi:i<q.length)(h:CO (q.getD i default)=false):AK q=false:=by
 unfold AK
 cases ha:q.all CO with
 | false=>rfl
 | true=>
   have:=List.all_eq_true.1 ha (q.getD i default) (by rw[List.getD_eq_getElem?_getD,List.getElem?_eq_getElem hi,Option.getD_some];exact List.getElem_mem hi);rw[h]at this;cases this
theorem JD{q:List qn}(h:∀i,i<q.length->CO (q.getD i default)=true):AK q=decide (q.length<=60):=by
 unfold AK
 have ha:q.all CO=true:=List.all_eq_true.2 fun s hs=>by
  obtain⟨i,hi,rfl⟩:=List.mem_iff_getElem.1 hs;have:=h i hi;rwa [List.getD_eq_getElem?_getD,List.getElem?_eq_getElem hi,Option.getD_some]at this
 rw[ha,Bool.true_and]
theorem AH{LA:List (List XC)}{l:List o_}{q:List qn}(hq:pr LA l q){d:XC}(hd:cy LA 0 d (fl kX l) q.length)(hql:q.length<=9223372036854775807){r:Bool}(hr:AK q=r) :
 bm prog 18 [.one d] [.late LA] (.one (.bool r)) [.late LA]:=by
 have hdok:d.ok 1:=hd.ok (Nat.lt_succ_self 0);refine cO Tryz.func18 ?_
 repeat' (first
  |(refine qz ?_;first
   |refine ll ?_)
  |refine zz ?_|refine zx (fun _=>?_) (fun _=>?_)|fail)
 refine WX.bN (σ:=Nat) (fun i=>[(0,.one d),(5,.one d),(6,.one (.int .i64 (q.length:Nat))),(7,.one (.int .i64 (i:Nat)))]) (fun i=>[.late LA]) (fun i=>i<=q.length/\∀j,j<i->CO (q.getD j default)=true) (fun i=>q.length-i) 0 ⟨Nat.zero_le _,fun j h=>absurd h (Nat.not_lt_zero _)⟩ (fun i _=>stM) (bq [0] (reg:=by(repeat' (first|exact ae.nil|refine ae.gO rfl (by assumption) rfl ?_|refine rz ?_|refine ae.sl rfl (by assumption) rfl ?_));first|done|fail)) ?_;intro i ⟨hi,hall⟩ ih
 by_cases hlt:i<q.length
 ·obtain⟨co,cm,s1,s2,s3,s4,s5,s6⟩:=Ko hq hlt 0;have hno:=MH hlt
  have hnx:CO (q.getD i default)=true->∀j,j<i+1->CO (q.getD j default)=true:=fun h j hj=>by
   by_cases e:j=i
   ·subst e;exact h
   ·exact hall j (by omega)
  obtain⟨s,hse⟩:∃s,q.getD i default=s:=⟨_,rfl⟩
  rw[hse]at s2 s3 s4 hno hnx;rw[hr]at hno
  by_cases hm:s.mask.length<=500
  ·by_cases ho:s.odd.length<=30
   ·have e:CO s=true:=by unfold CO;rw[decide_eq_true hm,decide_eq_true ho];rfl
    repeat' (first
     |(refine qz ?_;first
      |refine ll ?_
      |refine sc (fun kk hkk=>?_)
      |refine nH (zs:=eI 0 0 0 .nils .nils) (hz:=zO) ?_
      |refine kn (enc:=kX) ?_ (by assumption) s1 (hc':=s2))
     |refine zz ?_|refine zx (fun _=>?_) (fun _=>?_)|fail)
    exact ih (i+1) _ _ _ (bq [0] (reg:=by(repeat' (first|exact ae.nil|refine ae.gO rfl (by assumption) rfl ?_|refine rz ?_|refine ae.sl rfl (by assumption) rfl ?_));first|done|fail)) ⟨by omega,hnx e⟩ (by omega)
   ·have e:CO s=false:=by unfold CO;rw[decide_eq_false ho,Bool.and_false]
    rw[hno e]
    repeat' (first
     |(refine qz ?_;first
      |refine ll ?_
      |refine sc (fun kk hkk=>?_)
      |refine nH (zs:=eI 0 0 0 .nils .nils) (hz:=zO) ?_
      |refine kn (enc:=kX) ?_ (by assumption) s1 (hc':=s2))
     |refine zz ?_|refine zx (fun _=>?_) (fun _=>?_)|fail)
    show aE _ _ _ _ _ _ _ _;refine kV [0] ?_;rfl
  ·have e:CO s=false:=by unfold CO;rw[decide_eq_false hm];rfl
   rw[hno e]
   repeat' (first
    |(refine qz ?_;first
     |refine ll ?_
     |refine sc (fun kk hkk=>?_)
     |refine nH (zs:=eI 0 0 0 .nils .nils) (hz:=zO) ?_
     |refine kn (enc:=kX) ?_ (by assumption) s1 (hc':=s2))
    |refine zz ?_|refine zx (fun _=>?_) (fun _=>?_)|fail)
   show aE _ _ _ _ _ _ _ _;refine kV [0] ?_;rfl
 ·obtain rfl:i=q.length:=by omega
  rw[JD hall]at hr
  by_cases h60:q.length<=60
  ·rw[decide_eq_true h60]at hr;subst hr
   repeat' (first
    |(refine qz ?_;first
     |refine ll ?_)
    |refine zz ?_|refine zx (fun _=>?_) (fun _=>?_)|fail)
   show aE _ _ _ _ _ _ _ _;refine kV [0] ?_;rfl
  ·rw[decide_eq_false h60]at hr;subst hr
   repeat' (first
    |(refine qz ?_;first
     |refine ll ?_)
    |refine zz ?_|refine zx (fun _=>?_) (fun _=>?_)|fail)
   show aE _ _ _ _ _ _ _ _;refine kV [0] ?_;rfl
theorem uR{LA:List (List XC)}{l:List o_}{q:List qn}(hq:pr LA l q){d:XC}{i n:Nat}(hd:cy LA i d (fl kX l) n)(hn:q.length=n)(hql:q.length<=9223372036854775807){r:Bool}(hr:AK q=r){HS:ah}(hi:HS[i]? = some (.late LA))(hbd:Nat.blt HS.length Mem.bound=true) :
 aA.Sound prog ⟨18,[.one d],HS,.one (.bool r),HS,[]⟩:=by
 subst hn;obtain⟨d0,k0,rfl⟩:=hd.back 0 (nth [i]) rfl;exact f_ [i] (AH hq k0 hql hr) (by simp) (.flat hi .nil) (.flat .nil) (.cons (k0.ok (Nat.lt_succ_self 0)) .nil) (.cons rfl .nil) trivial rfl hbd rfl
theorem HK:aK prog 30 (rY wX .nils .nils):=by
 show aK prog 30 ((.int .i64 0 :: .int .i64 0 :: .bool false::((ti .u8 64 fun _=>0)++(ti .u8 64 fun _=>0)))++[.nils,.nils])
 infer_instance
theorem H8{m:Mb}{qp:Int}(h:dp m false qp=0):alone m=true:=by
 unfold dp at h;split at h
 ·cases h
 ·rename_i g
  cases e:alone m with
  | true=>rfl
  | false=>exact absurd (.inr ⟨rfl,e⟩) g
theorem Ep:pn wX:=⟨by decide,by decide,fun i _=>⟨by show(0:Int)<=0/\(0:Int)<=255;decide,by show(0:Int)<=0/\(0:Int)<=255;decide⟩⟩
def Cb:wC:=tt wX [] []
theorem Ic:jz Cb:=Bo (pics:=[]) (l:=[]) Ep (fun j h=>absurd h (Nat.not_lt_zero j)) (fun j h=>absurd h (Nat.not_lt_zero j))
theorem OP:gC (fun _ _ _=>false) [] [9] 4 Cb.ps 1=⟨[[false,false,false,false]],[false,false,false,false],4,0⟩:=by kernel_rfl
theorem Ib:∀i,i<Cb.ps.length->∀j,j<(Cb.ps.getD i default).gs.length->∀m∈((Cb.ps.getD i default).gs.getD j default).ms,alone m=true:=fun i hi j hj m hm=>by
 have hp:=Ic.ok.pics i hi;have hl:Cb.ps.length=1:=rfl;obtain rfl:i=0:=by omega
 have hin:=hp.first rfl
 have hmem:(Cb.ps.getD 0 default).gs.getD j default∈(Cb.ps.getD 0 default).gs:=by
  obtain⟨gs,hgs⟩:∃gs,(Cb.ps.getD 0 default).gs=gs:=⟨_,rfl⟩
  rw[hgs]at hj ⊢;rw[List.getD_eq_getElem?_getD,List.getElem?_eq_getElem hj,Option.getD_some];exact List.getElem_mem hj
 obtain⟨o1,o2,o3,o4,o5,o6⟩:=qI hp.gs (Int.le_refl 0) _ hmem;obtain⟨k,hk,rfl⟩:=List.mem_iff_getElem.1 hm;have:=o6.chk k hk;rw[hin,List.getD_eq_getElem?_getD,List.getElem?_eq_getElem hk,Option.getD_some]at this;exact H8 this
theorem z7:bm prog 17 [] [] (.one (.bool true)) []:=by
 have hok:=Ic.ok;have hcr:Cb.hd.cols*Cb.hd.rows=((4:Nat):Int):=rfl;have hQ:=Ib;have hx:=OP;have hlay:=Jo Cb.ps;have hnp:Cb.ps.length=1:=rfl;have hse:tt wX [] []=Cb:=rfl
 obtain⟨s,hs⟩:∃s,Cb=s:=⟨_,rfl⟩
 rw[hs]at hok hcr hQ hx hlay hnp hse
 obtain⟨w,hw⟩:∃w,wide s.ps=w:=⟨_,rfl⟩
 obtain⟨B,hB⟩:∃B,Gc s.ps=B:=⟨_,rfl⟩
 rw[hw,hB]at hlay;have hdim:=hok.cols;have hdim2:=hok.rows;have hL2:([bl (List.replicate 4 true),bl [false,false,false,false],sM s.hd.cols s.hd.rows 4 1]:List (List XC))[1+1]? = some (sM s.hd.cols s.hd.rows 4 1):=rfl;have hL3:((sM s.hd.cols s.hd.rows 4 1).drop 0).take 3=pt s.hd.cols s.hd.rows (.lsl 0 1 0 4 4 0):=rfl;have hL4:(pt s.hd.cols s.hd.rows (.lsl 0 1 0 4 4 0)).map (·.self 6)=pt s.hd.cols s.hd.rows (.lsl 6 1 0 4 4 0):=rfl;refine cO Tryz.func17 ?_;refine WX.bU rfl ?_;refine WX.bU rfl ?_;refine WX.ghost rfl ?_
 repeat' (first
  |(refine qz ?_;first
   |refine b0 (zs:=rY wX .nils .nils) (hz:=HK) ?_
   |refine cl ?_ (hi:=by exact xY Ep (pics:=[]) (fun j h=>absurd h (Nat.not_lt_zero j)) (l:=[]) (fun j h=>absurd h (Nat.not_lt_zero j)) (ob0 := .dead) (ob1 := .dead) ⟨fun h=>absurd h (Nat.lt_irrefl _),inferInstance⟩ ⟨fun h=>absurd h (Nat.lt_irrefl _),inferInstance⟩ (i:=0) (j:=1) .nil .nil (by decide) (by decide) rfl rfl (by decide) hse hw hnp hB nL nA rfl)
   |refine nH (zs:=d9 wX .nils) (hz:=zP) ?_
   |refine tq (cs:=d9 s.hd (.lsl 3 w 0 1 1 0)) ?_ (hs1:=(dh _ _).symm) (hs2:=(dh _ _).symm)
   |refine lg ?_ (hle:=(dh _ _).symm)
   |refine cl ?_ (hi:=by exact uo hok hlay hnp hcr (sz:=[9]) (RO.of ..) (by decide) (F:=[]) (l:=[]) (fs:=[]) ⟨rfl,fun i h=>absurd h (Nat.not_lt_zero _)⟩ (i0:=3) (i1:=5) (i2:=2) (.inl ⟨rfl,.inl rfl⟩) rfl rfl (fun i=>Nat.zero_le _) (by decide) (Q:=fun m=>alone m=true) (fun _ _ _=>false) (fun i6 mb m _ _ hq _ LL kk _ HS i hi hb=>IY hq hi hb) (fun i j hi hj _=>hQ i hi j hj) hx (m:=1) rfl rfl rfl rfl (by decide) nL rfl nA rfl)
   |refine nN ?_
   |refine sP ?_
   |refine RN ?_ hL2 (hle:=⟨Nat.le_of_ble_eq_true rfl,Nat.le_of_ble_eq_true rfl⟩) (hc:=hL3) (hc':=hL4)
   |refine cl ?_ (hi:=by exact FM (l:=[false,false,false,false]) (i:=6) (.inr ⟨1,4,Nat.le_refl _,rfl,rfl⟩) (by decide) (z:=0) rfl rfl rfl)
   |refine cl ?_ (hi:=by exact kH (L:=[]) (f:=⟨true,[]⟩) (i:=2) (.inl ⟨rfl,.inl rfl⟩) (by decide) rfl (r:=true) rfl rfl rfl))
  |refine zz ?_|refine zx (fun _=>?_) (fun _=>?_)|fail)
 show aE _ _ _ _ _ _ _ _;refine kV [] ?_;rfl
theorem pR{HS:ah}(hbd:Nat.blt HS.length Mem.bound=true):aA.Sound prog ⟨17,[],HS,.one (.bool true),HS,[]⟩:=ay z7 rfl rfl hbd
end Go.Proofs.YthdciapjllppjaaGreat
