/-
  A part of the proof: StrS, StrV, FtI, FtJ, FtM.
-/
import Derived.Test.YthdciapjllppjaaGreatWaR
import Derived.Test.YthdciapjllppjaaGreatWaZ
import Derived.Test.YthdciapjllppjaaGreatWaZB
import Derived.Test.YthdciapjllppjaaGreatWaZC
set_option maxRecDepth 10000
set_option maxHeartbeats 8000000
set_option linter.unusedVariables false
set_option linter.unusedSectionVars false
set_option linter.unusedSimpArgs false
open Go.Proofs.Tryz (prog)
namespace Go.Xm
variable [ak]
section
variable {P:Program} {ops:Array Oper} {nt nI:Nat} {al:aN} {hs:ah} {o:Oper} {l:List Oper} {L:List az} {K:List Ab->aN->ah->Prop} {d:Nat}
theorem Qg{t t1 e e1:TypeId}{sz len:Nat}{a b:Operand}{zs:List XC}(i n:Nat){j:Nat}{cap:py}(cs:List XC){vs:List XC}{et:TypeId}{opn ro:Bool}{N:Nat}{hs':ah}(hk:SK P ops nt L l ((d,iq N (n+len) sz)::al) hs' fun bs=>K (⟨true,.none,[i,N]⟩::bs))(ho:o.op = .call ⟨.builtin .append,#[a,b],#[t,t1]⟩:=by exact rfl)(hu:aP P t (.slice e):=by infer_instance)(hu1:aP P t1 (.slice e1):=by infer_instance)(hz:aL P e zs:=by infer_instance)(hI:TI P e sz:=by infer_instance)(wn:Wn ops nt al o d:=by exact⟨rfl,rfl,rfl⟩)(hsz:zs.length=sz/\0<sz:=by exact⟨rfl,Nat.le_of_ble_eq_true rfl⟩)(ha:ae (rg al) a=iq i n sz:=by exact rfl)(hi:hs[i]? = some (bR e cs):=by exact rfl)(hb:ae (rg al) b = .one (.slice j 0 len cap):=by exact rfl)(hj:hs[j]? = some (.cells vs et opn ro):=by exact rfl)(hl:vs.length=len*sz:=by exact rfl)(hn:cs.length=n*sz:=by exact rfl)(hm:0<len/\n+len<=2000000000:=by omega)(hN:hs.length=N:=by exact n2)(hbd:Nat.blt N Mem.bound=true:=by exact rfl)(hh:hs.set i .dead++[bR e (cs++vs)]=hs':=by first|(simp only[List.set_cons_succ,List.set_cons_zero,List.cons_append,List.nil_append];exact rfl)|exact rfl):SK P ops nt L (o::l) al hs K:=by
 have hpos:0<len*sz:=Nat.mul_pos hm.1 hsz.2
 have hne:cs++vs≠[]:=fun e=>by
  have h2:(cs++vs).length=0:=by rw[e];rfl
  rw[List.length_append]at h2;omega
 refine SX i n cs ?_ ho hu hu1 hz hI wn hsz ha hi hb hj hl hn hm hN hbd (hs':=hs') ?_
 ·rw[fi (by omega)]at hk;exact hk
 ·rw[<-hh,cz hne]
end
theorem bh.bR{i g m:Nat}{A B:XC}{L:List (List XC)}{vs cs:List XC}{e:TypeId}{j:Nat}{hs hs2:ah}(hj:Nat.beq j i=false)(hn:∀c∈cs,c.mg g m)(h:bh i g m A B L vs (j+1) hs hs2):bh i g m A B L vs j (Xm.bR e cs::hs) (Xm.bR e cs::hs2):=by
 cases cs with
 | nil=>exact .dead h
 | cons c r=>exact .cells hj (.same hn) h
theorem cY.mg{c:XC}{i off n g m:Nat}(h:cY c i off n)(hi:i≠g):c.mg g m:=by
 rcases h with⟨_,rfl|⟨_,_,rfl⟩⟩|⟨cap,_,rfl⟩<;>first|trivial|exact hi
end Go.Xm
namespace Go.Proofs.YthdciapjllppjaaGreat
open Go.Xm
variable [ak]
def Aj(pics:List sW):List sW:=if pics.length=0 then [default]else pics
theorem LK(pics:List sW)(i:Nat):(Aj pics).getD i default=pics.getD i default:=by
 unfold Aj;split
 ·rename_i h;rw[List.length_eq_zero_iff.1 h];cases i<;>rfl
 ·rfl
theorem IK(pics:List sW):lu pics<=(Aj pics).length:=by
 unfold lu Aj;split
 ·exact Nat.le_refl _
 ·exact Nat.min_le_left _ _
theorem Dk{h:Hd}{c0 c1:XC}{n n' g m:Nat}(k0:cY c0 0 0 n)(k1:cY c1 1 0 n')(h0:0≠g)(h1:1≠g):∀x∈rn h c0 c1,x.mg g m:=fun x hx=>by
 rcases List.mem_append.1 (show x∈b7 h++[c0,c1]from hx)with hx|hx
 ·exact XC.gp (XC.aX (List.all_eq_true.1 (cN h) x hx) 0)
 ·simp only[List.mem_cons,List.not_mem_nil,or_false]at hx
  rcases hx with rfl|rfl
  ·exact k0.mg h0
  ·exact k1.mg h1
theorem tg{k n z g m:Nat}(h:k≠g):(eg k n z).mg g m:=by
 unfold eg;split
 ·trivial
 ·exact h
theorem Jw{τ : Nat->Nat}{HS:ah}{i:Nat}{ls:List Nat}{hs:ah}{h:Hd}{c c0:XC}{a b:Bool}(hc:c.aB τ = c0)(hi:HS[i]? = some (.cells (f9 h c0) 36 a b))(r:af τ HS ls hs):af τ HS (i::ls) (.cells (f9 h c) 36 a b::hs):=by
 refine af.cons ?_ r;rw[hi];simp only[f9,aj.aB,List.map_append,mD,List.map_cons,List.map_nil,hc]
theorem Mp{g m:Nat}{A B:XC}(h:Hd):dM g m A B (f9 h A) (f9 h B):=
 dM.app (.same fun c hc=>XC.gp (XC.aX (List.all_eq_true.1 (cN h) c hc) 0)) (.cons .BN (.same fun _ h=>nomatch h))
theorem jd{cs:List XC}{e:TypeId}{n:Nat}(h:∀c∈cs,c.ok n):(bR e cs).bH n:=by
 cases cs with
 | nil=>trivial
 | cons c r=>exact h
theorem dR{τ : Nat->Nat}{HS:ah}{i:Nat}{ls:List Nat}{hs:ah}{vs:List XC}{e:TypeId}{g m:Nat}(hl:∀c∈vs,c.lI m=true)(hi:HS[i]? = some (bR e (vs.map (·.self g))))(hg : τ g=g)(r:af τ HS ls hs):af τ HS (i::ls) (bR e (vs.map (·.self g))::hs):=by
 refine af.cons ?_ r;rw[hi]
 cases hv:vs.map (·.self g)with
 | nil=>rfl
 | cons c r=>
   have:=rR hl g τ;rw[hg,hv]at this;show some (aj.cells (c::r) e true false)=some (.cells ((c::r).map (·.aB τ)) e true false);rw[this]
theorem fC{vs:List XC}{m:Nat}(h:∀c∈vs,c.lI m=true){g n:Nat}(hg:g<n):∀c∈vs.map (·.self g),c.ok n:=u6 (t:=0) (a:=false) (b:=false) h hg
theorem zv{l:List Sm}{inter:Bool}{qp:Int}{many all n0 j:Nat}(h:(gQ l inter qp many all n0 j).2=all):∀k,gQ l inter qp many all n0 (j+k)=gQ l inter qp many all n0 j
 | 0=>rfl
 | k+1=>by
   rw[<-Nat.add_assoc,gQ,zv h k,h,if_neg (Nat.lt_irrefl _)]
theorem MQ:aL prog 84 (eL default):=by
 show aL prog 84 [.bool false,.bool false,.int .u8 0,.int .u8 0]
 infer_instance
structure R3 where
 X:aj
 j:Nat
 c:XC
theorem CA{h : Hd}(hhr:o7 h){pics:List sW}(hpp:∀j,j<pics.length->kb (pics.getD j default)){l:List Sm}(hll:∀j,j<l.length->iQ (l.getD j default)){ob0 ob1:aj}(hr0:EA ob0 eL pics)(hr1:EA ob1 th l){c0 c1:XC}(hc0:cY c0 0 0 pics.length)(hc1:cY c1 1 0 l.length)(hn0:pics.length<=30)(hn1:l.length<=300) :
 bq prog 11 [.agg (rn h c0 c1)] [ob0,ob1] (.agg (f9 (gL h) (.lsl 2 (wide (pM h pics l).ps) 0 (lu pics) (lu pics) 0))) [ob0,ob1,.late (E7 (pM h pics l).ps)]:=by
 have hfo0:=hr0.flat;have hfo1:=hr1.flat
 obtain⟨G,hG⟩:∃G,gL h=G:=⟨_,rfl⟩
 have hset:(b7 {e9 h with cols:=1+(e9 h).cols%3}).set 1 (.int .i64 (1+(e9 h).rows%3))=b7 G:=by rw[<-hG];rfl
 have hlen:131=(b7 G).length:=(aD _).symm;have hfc:1<=(e9 h).cols/\(e9 h).cols<=8:=by show 1<=1+h.cols%2^3/\1+h.cols%2^3<=8;omega
 have hfr:1<=(e9 h).rows/\(e9 h).rows<=8:=by show 1<=1+h.rows%2^3/\1+h.rows%2^3<=8;omega
 obtain⟨np,hnp⟩:∃n,lu pics=n:=⟨_,rfl⟩
 have hnp5:1<=np/\np<=5:=by rw[<-hnp];unfold lu;split<;>omega
 refine cO Tryz.func11 ?_;refine WX.cq rfl ?_
 repeat' (first
  |(refine qz ?_;first
   |refine jG (zs:=b7 lH) (hz:=gY) ?_
   |refine jG (zs:=f9 lH .nils) (hz:=y7) ?_
   |refine rG (cs:=b7 h) ?_ (hle:=by rw[Dj];decide) (hc:=NM h c0 c1)
   |refine cl ?_ (hi:=by exact HD hhr rfl rfl)
   |refine nr (cs:=b7 (e9 h)) ?_ (hs1:=by rw[aD]) (hs2:=by rw[aD])
   |refine st ?_ (hle:=by rw[aD];omega) (hv:=hset)
   |refine st (c := .int .i64 (1+(e9 h).cols%3)) ?_ (hle:=by rw[aD];omega) (hv:=HI _ _)
   |refine jV ?_ (hle:=by rw[aD])
   |refine ld (c:=c0) ?_ (hc:=Dh h c0 c1)
   |refine T2 (p:=0) (q:=min pics.length 5) (fun c hc=>?_)
   |refine nr (cs:=f9 G .nils) ?_ (hs1:=by rw[dt]) (hs2:=by rw[dt])
   |refine sY (zs:=eL default) ?_)
  |refine WX.Nf 5 (σ:=R3) (fun s=>[(1,.one (.ptr 3 0)),(2,.one (.ptr 4 0)),(3,.one (.ptr 5 0)),(4,.one (.ptr 6 0)),(5,.one s.c)]) (fun s=>[ob0,ob1,s.X,Dl h c0 c1,.cells (f9 lH .nils) 36 false false,.cells (b7 G) 26 false false,.cells (f9 G .nils) 36 false false]) (fun s=>(s.j=0/\s.X = .dead/\0<pics.length\/s.j=2/\s.X = .cells (fl eL [default]) 84 false false/\pics.length=0)/\cY s.c s.j 0 np) (fun s hs=>xF.out ?_) ?_ (fun s hs=>xF.out ?_)|refine zz ?_|refine zx (fun _=>?_) (fun _=>?_)|fail)
 ·refine⟨?_⟩;obtain⟨X,j,c'⟩:=s;obtain⟨hXj,hcs⟩:=hs
  have hX:cu X:=by
   rcases hXj with⟨_,e,_⟩|⟨_,e,_⟩
   ·have e:X = .dead:=e;subst e;infer_instance
   ·have e:X = .cells (fl eL [default]) 84 false false:=e;subst e;infer_instance
  have hk7:c'.ok 7:=cY.ok hcs (by rcases hXj with h|h<;>(have:=h.1;simp only at this;omega));exact(stM (objs:=by repeat' (first|exact aw.nil|refine aw.flat ?_|refine aw.cons (lE hc0 hc1 rfl) ?_|refine aw.cons (cQ trivial) ?_|refine aw.cons (cQ (aJ (Nat.le_of_ble_eq_true rfl))) ?_|refine aw.cons (jd (fC (by assumption) (Nat.le_of_ble_eq_true rfl))) ?_|refine aw.cons (by first|(simp[aj.bH,XC.ok,aJ];done)|(simp[aj.bH,XC.ok,aJ, *];done)) ?_)))
 ·rename_i h0;have h0:pics.length=0:=by omega
  have hp1:np=1:=by rw[<-hnp];exact if_pos h0
  subst hp1
  (first|refine Iu ?_|skip)
  exact⟨⟨.cells (fl eL [default]) 84 false false,2,.slice 2 0 1 (.exact 1)⟩,_,⟨.inr ⟨rfl,rfl,h0⟩,cY.mk (Nat.le_refl 1)⟩,(bV [0,1,7,3,4,5,6] (obj:=by(repeat' (first|exact af.nil|refine d8 hc0 hc1 rfl rfl rfl ?_|refine a_ rfl rfl ?_|refine a_ (aU ..) rfl ?_|refine oz ?_));first|done|fail))⟩
 ·rename_i h0;have hp1:min pics.length 5-0=np:=by rw[<-hnp];unfold lu;rw[if_neg (by omega)];omega
  rw[hp1]at hc
  (first|refine Iu ?_|skip)
  exact⟨⟨.dead,0,c⟩,_,⟨.inl ⟨rfl,rfl,by omega⟩,hc⟩,(bV [0,1,2,3,4,5,6] (obj:=by(repeat' (first|exact af.nil|refine d8 hc0 hc1 rfl rfl rfl ?_|refine a_ rfl rfl ?_|refine a_ (aU ..) rfl ?_|refine oz ?_));first|done|fail))⟩
 ·refine ⟨?_⟩;obtain⟨X,j,c'⟩:=s;obtain⟨hXj,hcs⟩:=hs;have hj2:j=0\/j=2:=hXj.elim (fun h => .inl h.1) (fun h => .inr h.1)
  have hX:cu X:=by
   rcases hXj with⟨_,e,_⟩|⟨_,e,_⟩
   ·have e:X = .dead:=e;subst e;infer_instance
   ·have e:X = .cells (fl eL [default]) 84 false false:=e;subst e;infer_instance
  have hobj:∃obP,EA obP eL (Aj pics)/\∀r,(ob0::ob1::X::r)[j]? = some obP:=by
   rcases hXj with⟨e1,_,e2⟩|⟨e1,e,e2⟩
   ·have e1:j=0:=e1;subst e1;exact⟨ob0,by unfold Aj;rw[if_neg (by omega)];exact hr0,fun _=>rfl⟩
   ·have e1:j=2:=e1;have e:X = .cells (fl eL [default]) 84 false false:=e;subst e1 e;exact⟨_,by unfold Aj;rw[if_pos e2];exact⟨fun _=>⟨_,false,false,rfl⟩,inferInstance⟩,fun _=>rfl⟩
  obtain⟨obP,hrP,hjo⟩:=hobj;have hcj:∀n,c'.ok (n+3):=fun n=>hcs.ok (by rcases hj2 with h|h<;>omega)
  have hk9:c'.ok 9:=hcj 6;have hcs:cY c' j 0 np:=hcs;have hpl:=IK pics;have hpat:=LK pics;rw[hnp]at hpl
  obtain⟨all,hall⟩:∃n:Nat,(G.cols*G.rows).toNat=n:=⟨_,rfl⟩
  have hGd:1<=G.cols/\G.cols<=3/\1<=G.rows/\G.rows<=3:=by
   rw[<-hG];refine⟨?_,?_,?_,?_⟩
   ·show 1<=1+(e9 h).cols%3;omega
   ·show 1+(e9 h).cols%3<=3;omega
   ·show 1<=1+(e9 h).rows%3;omega
   ·show 1+(e9 h).rows%3<=3;omega
  obtain⟨gc0,gc1,gr0,gr1⟩:=hGd
  have hcr:1<=G.cols*G.rows/\G.cols*G.rows<=9:=by
   have hc:G.cols=1\/G.cols=2\/G.cols=3:=by omega
   have hr:G.rows=1\/G.rows=2\/G.rows=3:=by omega
   rcases hc with e|e|e<;>rcases hr with f|f|f<;>rw[e,f]<;>decide
  have hall2:(all:Int)=G.cols*G.rows:=by omega
  obtain⟨ps,hps⟩:∃f:Nat->List Pc,AJ l all pics=f:=⟨_,rfl⟩
  have hpl2:∀n,(ps n).length=n:=fun n=>by rw[<-hps];exact kD l all pics n
  have hwl:∀n,(fy 0 (ps n)).length=wide (ps n):=fun n=>qo _ _
  have hp0:ps 0 = []:=by rw[<-hps];rfl
  have hok1:∀n,∀c∈fl nX (ff 0 (ps n)),c.lI (wide (ps n))=true:=fun n=>Ah _ _ _ (by omega)
  refine WX.cq rfl ?_;refine WX.ghost rfl ?_
  repeat' (first|refine zz ?_|refine zx (fun _=>?_) (fun _=>?_)|fail)
  refine WX.cj (σ:=Nat) (fun i=>[(1,.one (.ptr 3 0)),(2,.one (.ptr 4 0)),(3,.one (.ptr 5 0)),(4,.one (.ptr 6 0)),(44,.one c'),(45,.one (.int .i64 (np:Nat))),(6,.one (.int .i64 ((i*all:Nat):Int))),(46,.one (.int .i64 (i:Nat)))]) (fun i=>[ob0,ob1,X,Dl h c0 c1,.cells (f9 lH .nils) 36 false false,.cells (b7 G) 26 false false,.cells (f9 G (eg 7 i 5)) 36 false false,bR 87 ((fl nX (ff 0 (ps i))).map (·.self 8)),.late (fy 0 (ps i))]) (fun i=>i<=np) (fun i=>np-i) 0 (Nat.zero_le _) (fun i _=>by have hz:=hok1 i;exact(stM (objs:=by repeat' (first|exact aw.nil|refine aw.flat ?_|refine aw.cons (lE hc0 hc1 rfl) ?_|refine aw.cons (cQ trivial) ?_|refine aw.cons (cQ (aJ (Nat.le_of_ble_eq_true rfl))) ?_|refine aw.cons (jd (fC (by assumption) (Nat.le_of_ble_eq_true rfl))) ?_|refine aw.cons (by first|(simp[aj.bH,XC.ok,aJ];done)|(simp[aj.bH,XC.ok,aJ, *];done)) ?_)))) (bV [0,1,2,3,4,5,6,7,8] (obj:=by(repeat' (first|exact af.nil|refine d8 hc0 hc1 rfl rfl rfl ?_|refine a_ rfl rfl ?_|refine a_ (aU ..) rfl ?_|refine af.flat (by rw[hp0];rfl) ?_|refine af.cons (by rw[hp0];rfl) ?_|refine oz ?_));first|done|fail) (reg:=by(repeat' (first|exact ai.nil|refine ai.sl rfl (by assumption) (by rcases hj2 with h|h<;>rw[h]<;>rfl) ?_|refine ai.flat (by rw[Nat.zero_mul];rfl) ?_|refine rz ?_|refine ai.sl rfl (by assumption) rfl ?_));first|done|fail)) ?_;intro i hi ih;have hz1:=hok1 i
  by_cases hlt:i<np
  ·have hpr : kb (pics.getD i default):=by
    by_cases hip:i<pics.length
    ·exact hpp i hip
    ·rw[List.getD_eq_getElem?_getD,List.getElem?_eq_none (by omega)];exact⟨by show(0:Int)<=0/\(0:Int)<=255;omega,by show(0:Int)<=0/\(0:Int)<=255;omega⟩
   have hnx0:ps (i+1)=ps i++[Fs l all i (pics.getD i default)]:=by rw[<-hps];rfl
   have hPe:(Aj pics).getD i default=pics.getD i default:=hpat i
   obtain⟨P,hP⟩:∃P,pics.getD i default=P:=⟨_,rfl⟩
   rw[hP]at hpr hnx0 hPe;obtain⟨pi,pd,pq,pm⟩:=P;obtain⟨⟨q0,q1⟩,⟨m0,m1⟩⟩:=hpr
   obtain⟨I,hI⟩:∃I,(pi&&decide (0<i))=I:=⟨_,rfl⟩
   obtain⟨D,hD⟩:∃D,(I&&pd)=D:=⟨_,rfl⟩
   have q0:0<=pq:=q0;have q1:pq<=255:=q1;have m0:0<=pm:=m0;have m1:pm<=255:=m1
   obtain⟨M,hM⟩:∃M:Nat,(1+pm%5).toNat=M:=⟨_,rfl⟩
   have hnx:ps (i+1)=ps i++[⟨⟨(i:Nat),I,D,1+pq%31⟩,(gQ l I (1+pq%31) M all (i*all) all).1⟩]:=by rw[hnx0,<-hD,<-hI,<-hM];rfl
   repeat' (first
    |(refine qz ?_;first
     |refine jG (zs:=eL default) (hz:=MQ) ?_
     |refine jG (zs:=tb ⟨0,false,false,0⟩ .nils) (hz:=vR) ?_
     |refine Ob (enc:=eL) ?_ (hi:=hjo _))
    |refine ll 12 ?_|refine zz ?_|refine zx (fun _=>?_) (fun _=>?_)|fail)
   refine⟨?_⟩;rw[hPe];refine WX.Iq 12 (σ:=Unit) (fun _=>[(1,.one (.ptr 3 0)),(2,.one (.ptr 4 0)),(3,.one (.ptr 5 0)),(4,.one (.ptr 6 0)),(44,.one c'),(45,.one (.int .i64 (np:Nat))),(46,.one (.int .i64 (i:Nat))),(6,.one (.int .i64 ((i*all:Nat):Int))),(7,.one (.int .i64 (i:Nat))),(8,.one (.ptr 9 0)),(9,.one (.ptr 10 0))]) (fun _=>[ob0,ob1,X,Dl h c0 c1,.cells (f9 lH .nils) 36 false false,.cells (b7 G) 26 false false,.cells (f9 G (eg 7 i 5)) 36 false false,bR 87 ((fl nX (ff 0 (ps i))).map (·.self 8)),.late (fy 0 (ps i)),.cells (eL ⟨pi,pd,pq,pm⟩) 84 false false,.cells (tb ⟨(i:Nat),I,false,0⟩ .nils) 87 false false]) (fun _=>True) (fun _ _=>by have hk11:c'.ok 11:=hcj 8;exact(stM (objs:=by repeat' (first|exact aw.nil|refine aw.flat ?_|refine aw.cons (lE hc0 hc1 rfl) ?_|refine aw.cons (cQ trivial) ?_|refine aw.cons (cQ (aJ (Nat.le_of_ble_eq_true rfl))) ?_|refine aw.cons (jd (fC (by assumption) (Nat.le_of_ble_eq_true rfl))) ?_|refine aw.cons (by first|(simp[aj.bH,XC.ok,aJ];done)|(simp[aj.bH,XC.ok,aJ, *];done)) ?_)))) ?_ (fun _ _=>xF.out ?_)
   ·cases pi with
    | false=>
      obtain rfl:I=false:=hI.symm
      repeat' (first|refine zz ?_|refine zx (fun _=>?_) (fun _=>?_)|fail)
      (first|refine Iu ?_|skip)
      exact⟨(),_,trivial,(bV [0,1,2,3,4,5,6,7,8,9,10] (obj:=by(repeat' (first|exact af.nil|refine d8 hc0 hc1 rfl rfl rfl ?_|refine a_ rfl rfl ?_|refine a_ (aU ..) rfl ?_|refine dR (by assumption) rfl rfl ?_|refine oz ?_));first|done|fail) (reg:=by(repeat' (first|exact ai.nil|refine ai.sl rfl (by assumption) (by rcases hj2 with h|h<;>rw[h]<;>rfl) ?_|refine rz ?_|refine ai.sl rfl (by assumption) rfl ?_));first|done|fail))⟩
    | true=>
      repeat' (first|refine zz ?_|refine zx (fun _=>?_) (fun _=>?_)|fail)
      ·rename_i h0;obtain rfl:I=true:=by rw[<-hI,decide_eq_true (show 0<i by omega)];rfl
       (first|refine Iu ?_|skip)
       exact⟨(),_,trivial,(bV [0,1,2,3,4,5,6,7,8,9,10] (obj:=by(repeat' (first|exact af.nil|refine d8 hc0 hc1 rfl rfl rfl ?_|refine a_ rfl rfl ?_|refine a_ (aU ..) rfl ?_|refine dR (by assumption) rfl rfl ?_|refine oz ?_));first|done|fail) (reg:=by(repeat' (first|exact ai.nil|refine ai.sl rfl (by assumption) (by rcases hj2 with h|h<;>rw[h]<;>rfl) ?_|refine rz ?_|refine ai.sl rfl (by assumption) rfl ?_));first|done|fail))⟩
      ·rename_i h0;obtain rfl:I=false:=by rw[<-hI,decide_eq_false (show¬0<i by omega)];rfl
       (first|refine Iu ?_|skip)
       exact⟨(),_,trivial,(bV [0,1,2,3,4,5,6,7,8,9,10] (obj:=by(repeat' (first|exact af.nil|refine d8 hc0 hc1 rfl rfl rfl ?_|refine a_ rfl rfl ?_|refine a_ (aU ..) rfl ?_|refine dR (by assumption) rfl rfl ?_|refine oz ?_));first|done|fail) (reg:=by(repeat' (first|exact ai.nil|refine ai.sl rfl (by assumption) (by rcases hj2 with h|h<;>rw[h]<;>rfl) ?_|refine rz ?_|refine ai.sl rfl (by assumption) rfl ?_));first|done|fail))⟩
   refine⟨?_⟩;refine WX.Iq 13 (σ:=Unit) (fun _=>[(1,.one (.ptr 3 0)),(2,.one (.ptr 4 0)),(3,.one (.ptr 5 0)),(4,.one (.ptr 6 0)),(44,.one c'),(45,.one (.int .i64 (np:Nat))),(46,.one (.int .i64 (i:Nat))),(6,.one (.int .i64 ((i*all:Nat):Int))),(8,.one (.ptr 9 0)),(9,.one (.ptr 10 0))]) (fun _=>[ob0,ob1,X,Dl h c0 c1,.cells (f9 lH .nils) 36 false false,.cells (b7 G) 26 false false,.cells (f9 G (eg 7 i 5)) 36 false false,bR 87 ((fl nX (ff 0 (ps i))).map (·.self 8)),.late (fy 0 (ps i)),.cells (eL ⟨pi,pd,pq,pm⟩) 84 false false,.cells (tb ⟨(i:Nat),I,D,1+pq%31⟩ .nils) 87 false false]) (fun _=>True) (fun _ _=>by have hk11:c'.ok 11:=hcj 8;exact(stM (objs:=by repeat' (first|exact aw.nil|refine aw.flat ?_|refine aw.cons (lE hc0 hc1 rfl) ?_|refine aw.cons (cQ trivial) ?_|refine aw.cons (cQ (aJ (Nat.le_of_ble_eq_true rfl))) ?_|refine aw.cons (jd (fC (by assumption) (Nat.le_of_ble_eq_true rfl))) ?_|refine aw.cons (by first|(simp[aj.bH,XC.ok,aJ];done)|(simp[aj.bH,XC.ok,aJ, *];done)) ?_)))) ?_ (fun _ _=>xF.out ?_)
   ·cases I with
    | false=>
      obtain rfl:D=false:=hD.symm
      repeat' (first|refine zz ?_|refine zx (fun _=>?_) (fun _=>?_)|fail)
      (first|refine Iu ?_|skip)
      exact⟨(),_,trivial,(bV [0,1,2,3,4,5,6,7,8,9,10] (obj:=by(repeat' (first|exact af.nil|refine d8 hc0 hc1 rfl rfl rfl ?_|refine a_ rfl rfl ?_|refine a_ (aU ..) rfl ?_|refine dR (by assumption) rfl rfl ?_|refine oz ?_));first|done|fail) (reg:=by(repeat' (first|exact ai.nil|refine ai.sl rfl (by assumption) (by rcases hj2 with h|h<;>rw[h]<;>rfl) ?_|refine rz ?_|refine ai.sl rfl (by assumption) rfl ?_));first|done|fail))⟩
    | true=>
      obtain rfl:D=pd:=hD.symm
      repeat' (first|refine zz ?_|refine zx (fun _=>?_) (fun _=>?_)|fail)
      (first|refine Iu ?_|skip)
      exact⟨(),_,trivial,(bV [0,1,2,3,4,5,6,7,8,9,10] (obj:=by(repeat' (first|exact af.nil|refine d8 hc0 hc1 rfl rfl rfl ?_|refine a_ rfl rfl ?_|refine a_ (aU ..) rfl ?_|refine dR (by assumption) rfl rfl ?_|refine oz ?_));first|done|fail) (reg:=by(repeat' (first|exact ai.nil|refine ai.sl rfl (by assumption) (by rcases hj2 with h|h<;>rw[h]<;>rfl) ?_|refine rz ?_|refine ai.sl rfl (by assumption) rfl ?_));first|done|fail))⟩
   refine⟨?_⟩
   obtain⟨Q,hQ⟩:∃Q,1+pq%31=Q:=⟨_,rfl⟩
   have hQr:1<=Q/\Q<=31:=by omega
   have hMr:1<=M/\M<=5:=by omega
   rw[hQ]at hnx ⊢;have hL0:fy 0 (ps i)++f4 (gQ l I Q M all (i*all) 0).1=fy 0 (ps i):=List.append_nil _;have hgok:=BP hll I hQr hMr all (i*all);have h45:(i+1)*all<=45:=Nat.le_trans (Nat.mul_le_mul (show i+1<=5 by omega) (show all<=9 by omega)) (by decide);rw[Nat.add_mul,Nat.one_mul]at h45;rw[<-hL0];refine WX.cq rfl ?_
   repeat' (first
    |(refine qz ?_;first
     |refine ld (c := .int .i64 G.cols) ?_
     |refine ld (c := .int .i64 G.rows) ?_)
    |refine zz ?_|refine zx (fun _=>?_) (fun _=>?_)|fail)
   refine WX.cj (σ:=Nat) (fun t=>[(1,.one (.ptr 3 0)),(2,.one (.ptr 4 0)),(3,.one (.ptr 5 0)),(4,.one (.ptr 6 0)),(44,.one c'),(45,.one (.int .i64 (np:Nat))),(46,.one (.int .i64 (i:Nat))),(8,.one (.ptr 9 0)),(9,.one (.ptr 10 0)),(10,.one (.int .i64 (G.cols*G.rows))),(6,.one (.int .i64 ((i*all+(gQ l I Q M all (i*all) t).2:Nat):Int))),(11,.one (.int .i64 ((gQ l I Q M all (i*all) t).2:Nat)))]) (fun t=>[ob0,ob1,X,Dl h c0 c1,.cells (f9 lH .nils) 36 false false,.cells (b7 G) 26 false false,.cells (f9 G (eg 7 i 5)) 36 false false,bR 87 ((fl nX (ff 0 (ps i))).map (·.self 8)),.late (fy 0 (ps i)++f4 (gQ l I Q M all (i*all) t).1),.cells (eL ⟨pi,pd,pq,pm⟩) 84 false false,.cells (tb ⟨(i:Nat),I,D,Q⟩ (eg 11 (gQ l I Q M all (i*all) t).1.length 2)) 87 false false,bR 90 ((fl pE (gA (wide (ps i)) (gQ l I Q M all (i*all) t).1)).map (·.self 8))]) (fun t=>t<=(gQ l I Q M all (i*all) t).2) (fun t=>all-(gQ l I Q M all (i*all) t).2) 0 (Nat.zero_le _) (fun t _=>by have hk12:c'.ok 12:=hcj 9;have hz2:∀c∈fl pE (gA (wide (ps i)) (gQ l I Q M all (i*all) t).1),c.lI (wide (ps i)+(gQ l I Q M all (i*all) t).1.length)=true:=qj _ _ _ (by omega);exact(stM (objs:=by repeat' (first|exact aw.nil|refine aw.flat ?_|refine aw.cons (lE hc0 hc1 rfl) ?_|refine aw.cons (cQ trivial) ?_|refine aw.cons (cQ (aJ (Nat.le_of_ble_eq_true rfl))) ?_|refine aw.cons (jd (fC (by assumption) (Nat.le_of_ble_eq_true rfl))) ?_|refine aw.cons (by first|(simp[aj.bH,XC.ok,aJ];done)|(simp[aj.bH,XC.ok,aJ, *];done)) ?_)))) (bV [0,1,2,3,4,5,6,7,8,9,10,11] (obj:=by(repeat' (first|exact af.nil|refine d8 hc0 hc1 rfl rfl rfl ?_|refine a_ rfl rfl ?_|refine a_ (aU ..) rfl ?_|refine dR (by assumption) rfl rfl ?_|refine oz ?_));first|done|fail) (reg:=by(repeat' (first|exact ai.nil|refine ai.sl rfl (by assumption) (by rcases hj2 with h|h<;>rw[h]<;>rfl) ?_|refine rz ?_|refine ai.sl rfl (by assumption) rfl ?_));first|done|fail)) ?_;intro t ht ih2;obtain⟨k1,k2,k3,k4⟩:=hgok t;have hstop:=zv (l:=l) (inter:=I) (qp:=Q) (many:=M) (all:=all) (n0:=i*all) (j:=t);have hnxt:gQ l I Q M all (i*all) (t+1)=if(gQ l I Q M all (i*all) t).2<all then((gQ l I Q M all (i*all) t).1++[⟨((gQ l I Q M all (i*all) t).2:Nat),(iA l I Q (i*all+(gQ l I Q M all (i*all) t).2) (min M (all-(gQ l I Q M all (i*all) t).2))).1⟩],(gQ l I Q M all (i*all) t).2+min M (all-(gQ l I Q M all (i*all) t).2))else gQ l I Q M all (i*all) t:=rfl
   obtain⟨gs,hgs⟩:∃gs,(gQ l I Q M all (i*all) t).1=gs:=⟨_,rfl⟩
   obtain⟨F,hF⟩:∃F,(gQ l I Q M all (i*all) t).2=F:=⟨_,rfl⟩
   rw[hgs,hF]at k1 k4 hnxt;rw[hF]at ht k2 k3 hstop;rw[hgs,hF];have hz2:∀c∈fl pE (gA (wide (ps i)) gs),c.lI (wide (ps i)+gs.length)=true:=qj _ _ _ (by omega);have hz1m:∀c∈fl nX (ff 0 (ps i)),c.lI (wide (ps i)+gs.length)=true:=fun c hc=>XC.uy (by omega) (hz1 c hc)
   have hLl:(fy 0 (ps i)++f4 gs).length=wide (ps i)+gs.length:=by rw[List.length_append,hwl];simp[f4]
   have hgl:(fl pE (gA (wide (ps i)) gs)).length=gs.length*2:=by rw[yd,ua]
   by_cases hlt2:F<all
   ·rw [if_pos hlt2]at hnxt
    obtain⟨n,hn⟩:∃n,min M (all-F)=n:=⟨_,rfl⟩
    rw[hn]at hnxt;have hnr:1<=n/\n<=5/\F+n<=all:=by omega
    have hn2:min (1+pm%5) (G.cols*G.rows-(F:Nat))=(n:Nat):=by omega
    obtain⟨grp,hgrp⟩:∃g:Nat->List Mb×Int,iA l I Q (i*all+F)=g:=⟨_,rfl⟩
    have hgrl:∀k,(grp k).1.length=k:=fun k=>by rw[<-hgrp];exact qk l I Q _ k
    have hgro:=x7 hll I hQr (i*all+F);have hgr0:grp 0=([],Q):=by rw[<-hgrp];rfl
    have hgrs:∀k,grp (k+1)=((grp k).1++[B1 l I (grp k).2 (i*all+F+k)],(B1 l I (grp k).2 (i*all+F+k)).qp):=fun k=>by rw[<-hgrp];rfl
    rw[hgrp]at hgro hnxt
    repeat' (first
     |(refine qz ?_;first
      |refine jG (zs:=Dv 0 .nils) (hz:=y6) ?_
      |refine ld (c := .int .i64 Q) ?_)
     |refine zz ?_|refine zx (fun _=>?_) (fun _=>?_)|fail)
    refine WX.cq rfl ?_;refine WX.cj (σ:=Nat) (fun k=>[(1,.one (.ptr 3 0)),(2,.one (.ptr 4 0)),(3,.one (.ptr 5 0)),(4,.one (.ptr 6 0)),(44,.one c'),(45,.one (.int .i64 (np:Nat))),(46,.one (.int .i64 (i:Nat))),(8,.one (.ptr 9 0)),(9,.one (.ptr 10 0)),(10,.one (.int .i64 (G.cols*G.rows))),(11,.one (.int .i64 (F:Nat))),(12,.one (.int .i64 (n:Nat))),(13,.one (.ptr 12 0)),(100,.one (.int .i64 (n:Nat))),(6,.one (.int .i64 ((i*all+F+k:Nat):Int))),(14,.one (.int .i64 (grp k).2)),(101,.one (.int .i64 (k:Nat)))]) (fun k=>[ob0,ob1,X,Dl h c0 c1,.cells (f9 lH .nils) 36 false false,.cells (b7 G) 26 false false,.cells (f9 G (eg 7 i 5)) 36 false false,bR 87 ((fl nX (ff 0 (ps i))).map (·.self 8)),.late (fy 0 (ps i)++f4 gs),.cells (eL ⟨pi,pd,pq,pm⟩) 84 false false,.cells (tb ⟨(i:Nat),I,D,Q⟩ (eg 11 gs.length 2)) 87 false false,bR 90 ((fl pE (gA (wide (ps i)) gs)).map (·.self 8)),.cells (Dv (F:Nat) (eg 13 k 391)) 90 false false,bR 107 (fl mC (grp k).1)]) (fun k=>k<=n) (fun k=>n-k) 0 (Nat.zero_le _) (fun k _=>by have hk14:c'.ok 14:=hcj 11;exact(stM (objs:=by repeat' (first|exact aw.nil|refine aw.flat ?_|refine aw.cons (lE hc0 hc1 rfl) ?_|refine aw.cons (cQ trivial) ?_|refine aw.cons (cQ (aJ (Nat.le_of_ble_eq_true rfl))) ?_|refine aw.cons (jd (fC (by assumption) (Nat.le_of_ble_eq_true rfl))) ?_|refine aw.cons (by first|(simp[aj.bH,XC.ok,aJ];done)|(simp[aj.bH,XC.ok,aJ, *];done)) ?_)))) (bV [0,1,2,3,4,5,6,7,8,9,10,11,12,13] (obj:=by(repeat' (first|exact af.nil|refine d8 hc0 hc1 rfl rfl rfl ?_|refine a_ rfl rfl ?_|refine a_ (aU ..) rfl ?_|refine dR (by assumption) rfl rfl ?_|refine af.flat (by rw[hgr0];rfl) ?_|refine oz ?_));first|done|fail) (reg:=by(repeat' (first|exact ai.nil|refine ai.sl rfl (by assumption) (by rcases hj2 with h|h<;>rw[h]<;>rfl) ?_|refine ai.flat (by rw[<-hn2];rfl) ?_|refine ai.flat (by rw[hgr0];rfl) ?_|refine rz ?_|refine ai.sl rfl (by assumption) rfl ?_));first|done|fail)) ?_;intro k hk ih3;obtain⟨-,o2,-⟩:=hgro k;have hgk:=hgrl k;have hgs1:=hgrs k
    obtain⟨ms,hms⟩:∃x,(grp k).1=x:=⟨_,rfl⟩
    obtain⟨qp,hqp⟩:∃x,(grp k).2=x:=⟨_,rfl⟩
    rw[hms]at hgk hgs1 ⊢;rw[hqp]at o2 hgs1 ⊢
    by_cases hlt3:k<n
    ·obtain⟨at_,hat⟩:∃a,i*all+F+k=a:=⟨_,rfl⟩
     rw[hat]at hgs1 ⊢;have hat2:at_<=45:=by omega
     have hel:=AB hll at_
     obtain⟨el,hele⟩:∃e,wb l at_=e:=⟨_,rfl⟩
     rw[hele]at hel
     obtain⟨mm,hmm⟩:∃m,nS el I qp=m:=⟨_,rfl⟩
     have hm1:B1 l I qp at_ = {mm with edge:=mm.edge&&!el.great}:=by unfold B1;rw[hele,hmm]
     rw[hm1]at hgs1;obtain⟨kd,mq,mv,me,ml⟩:=mm
     obtain⟨ed,hed⟩:∃e,(me&&!el.great)=e:=⟨_,rfl⟩
     rw[hed]at hgs1;have hatl:0<l.length->at_%l.length<l.length:=fun h=>Nat.mod_lt _ h
     repeat' (first
      |(refine qz ?_;first
       |refine jG (zs:=th SD) (hz:=PO) ?_
       |refine ld (c:=c1) ?_ (hc:=Di h c0 c1)
       |refine Ob (enc:=th) ?_)
      |refine WX.Nf 23 (σ:=Unit) (fun _=>[(1,.one (.ptr 3 0)),(2,.one (.ptr 4 0)),(3,.one (.ptr 5 0)),(4,.one (.ptr 6 0)),(44,.one c'),(45,.one (.int .i64 (np:Nat))),(46,.one (.int .i64 (i:Nat))),(8,.one (.ptr 9 0)),(9,.one (.ptr 10 0)),(10,.one (.int .i64 (G.cols*G.rows))),(11,.one (.int .i64 (F:Nat))),(12,.one (.int .i64 (n:Nat))),(13,.one (.ptr 12 0)),(100,.one (.int .i64 (n:Nat))),(14,.one (.int .i64 qp)),(101,.one (.int .i64 (k:Nat))),(6,.one (.int .i64 (at_:Nat))),(15,.one (.ptr 14 0))]) (fun _=>[ob0,ob1,X,Dl h c0 c1,.cells (f9 lH .nils) 36 false false,.cells (b7 G) 26 false false,.cells (f9 G (eg 7 i 5)) 36 false false,bR 87 ((fl nX (ff 0 (ps i))).map (·.self 8)),.late (fy 0 (ps i)++f4 gs),.cells (eL ⟨pi,pd,pq,pm⟩) 84 false false,.cells (tb ⟨(i:Nat),I,D,Q⟩ (eg 11 gs.length 2)) 87 false false,bR 90 ((fl pE (gA (wide (ps i)) gs)).map (·.self 8)),.cells (Dv (F:Nat) (eg 13 k 391)) 90 false false,bR 107 (fl mC ms),.cells (th el) 99 false false]) (fun _=>True) (fun _ _=>by have hk15:c'.ok 15:=hcj 12;exact(stM (objs:=by repeat' (first|exact aw.nil|refine aw.flat ?_|refine aw.cons (lE hc0 hc1 rfl) ?_|refine aw.cons (cQ trivial) ?_|refine aw.cons (cQ (aJ (Nat.le_of_ble_eq_true rfl))) ?_|refine aw.cons (jd (fC (by assumption) (Nat.le_of_ble_eq_true rfl))) ?_|refine aw.cons (by first|(simp[aj.bH,XC.ok,aJ];done)|(simp[aj.bH,XC.ok,aJ, *];done)) ?_)))) ?_ (fun _ _=>xF.out ?_)|refine zz ?_|refine zx (fun _=>?_) (fun _=>?_)|fail)
     ·rename_i h0
      have hee:l.getD ((at_:Int)%(l.length:Nat)).toNat default=el:=by
       rw[<-hele];unfold wb;rw[if_neg (by omega)];rfl
      (first|refine Iu ?_|skip)
      exact⟨(),_,trivial,(bV [0,1,2,3,4,5,6,7,8,9,10,11,12,13,14] (obj:=by(repeat' (first|exact af.nil|refine d8 hc0 hc1 rfl rfl rfl ?_|refine a_ rfl rfl ?_|refine a_ (aU ..) rfl ?_|refine dR (by assumption) rfl rfl ?_|refine af.flat (by rw[<-hee];rfl) ?_|refine oz ?_));first|done|fail) (reg:=by(repeat' (first|exact ai.nil|refine ai.sl rfl (by assumption) (by rcases hj2 with h|h<;>rw[h]<;>rfl) ?_|refine rz ?_|refine ai.sl rfl (by assumption) rfl ?_));first|done|fail))⟩
     ·rename_i h0
      have hee:el=⟨(at_:Nat),0,⟨fun _=>0,fun _=>0,false⟩,false,fun _=>0,0,false⟩:=by
       rw[<-hele];unfold wb Tc;rw[if_pos (by omega),Nat.mod_eq_of_lt (by omega)]
      (first|refine Iu ?_|skip)
      exact⟨(),_,trivial,(bV [0,1,2,3,4,5,6,7,8,9,10,11,12,13,14] (obj:=by(repeat' (first|exact af.nil|refine d8 hc0 hc1 rfl rfl rfl ?_|refine a_ rfl rfl ?_|refine a_ (aU ..) rfl ?_|refine dR (by assumption) rfl rfl ?_|refine af.flat (by rw[hee];rfl) ?_|refine oz ?_));first|done|fail) (reg:=by(repeat' (first|exact ai.nil|refine ai.sl rfl (by assumption) (by rcases hj2 with h|h<;>rw[h]<;>rfl) ?_|refine rz ?_|refine ai.sl rfl (by assumption) rfl ?_));first|done|fail))⟩
     refine⟨?_⟩
     repeat' (first
      |(refine qz ?_;first
       |refine jG (zs:=mC zV) (hz:=rf) ?_
       |refine cl ?_ (hi:=by exact Oh hel o2 hmm rfl)
       |refine nr (cs:=mC ⟨kd,mq,mv,me,ml⟩) ?_ (hs1:=by rw[bl]) (hs2:=by rw[bl]))
      |refine ll 27 ?_|refine zz ?_|refine zx (fun _=>?_) (fun _=>?_)|fail)
     refine⟨?_⟩;refine WX.Iq 27 (σ:=Unit) (fun _=>[(1,.one (.ptr 3 0)),(2,.one (.ptr 4 0)),(3,.one (.ptr 5 0)),(4,.one (.ptr 6 0)),(44,.one c'),(45,.one (.int .i64 (np:Nat))),(46,.one (.int .i64 (i:Nat))),(8,.one (.ptr 9 0)),(9,.one (.ptr 10 0)),(10,.one (.int .i64 (G.cols*G.rows))),(11,.one (.int .i64 (F:Nat))),(12,.one (.int .i64 (n:Nat))),(13,.one (.ptr 12 0)),(100,.one (.int .i64 (n:Nat))),(14,.one (.int .i64 qp)),(101,.one (.int .i64 (k:Nat))),(6,.one (.int .i64 (at_+1:Nat))),(16,.one (.ptr 15 0))]) (fun _=>[ob0,ob1,X,Dl h c0 c1,.cells (f9 lH .nils) 36 false false,.cells (b7 G) 26 false false,.cells (f9 G (eg 7 i 5)) 36 false false,bR 87 ((fl nX (ff 0 (ps i))).map (·.self 8)),.late (fy 0 (ps i)++f4 gs),.cells (eL ⟨pi,pd,pq,pm⟩) 84 false false,.cells (tb ⟨(i:Nat),I,D,Q⟩ (eg 11 gs.length 2)) 87 false false,bR 90 ((fl pE (gA (wide (ps i)) gs)).map (·.self 8)),.cells (Dv (F:Nat) (eg 13 k 391)) 90 false false,bR 107 (fl mC ms),.cells (th el) 99 false false,.cells (mC ⟨kd,mq,mv,ed,ml⟩) 107 false false]) (fun _=>True) (fun _ _=>by have hk16:c'.ok 16:=hcj 13;exact(stM (objs:=by repeat' (first|exact aw.nil|refine aw.flat ?_|refine aw.cons (lE hc0 hc1 rfl) ?_|refine aw.cons (cQ trivial) ?_|refine aw.cons (cQ (aJ (Nat.le_of_ble_eq_true rfl))) ?_|refine aw.cons (jd (fC (by assumption) (Nat.le_of_ble_eq_true rfl))) ?_|refine aw.cons (by first|(simp[aj.bH,XC.ok,aJ];done)|(simp[aj.bH,XC.ok,aJ, *];done)) ?_)))) ?_ (fun _ _=>xF.out ?_)
     ·cases me with
      | false=>
        obtain rfl:ed=false:=hed.symm
        repeat' (first
         |(refine qz ?_;first
          |refine st (c := .bool false) ?_ (hle:=by rw[bl];decide) (hv:=show _=mC ⟨kd,mq,mv,false,ml⟩from rfl))
         |refine zz ?_|refine zx (fun _=>?_) (fun _=>?_)|fail)
        (first|refine Iu ?_|skip)
        exact⟨(),_,trivial,(bV [0,1,2,3,4,5,6,7,8,9,10,11,12,13,14,15] (obj:=by(repeat' (first|exact af.nil|refine d8 hc0 hc1 rfl rfl rfl ?_|refine a_ rfl rfl ?_|refine a_ (aU ..) rfl ?_|refine dR (by assumption) rfl rfl ?_|refine oz ?_));first|done|fail) (reg:=by(repeat' (first|exact ai.nil|refine ai.sl rfl (by assumption) (by rcases hj2 with h|h<;>rw[h]<;>rfl) ?_|refine rz ?_|refine ai.sl rfl (by assumption) rfl ?_));first|done|fail))⟩
      | true=>
        obtain rfl:ed = !el.great:=hed.symm
        repeat' (first
         |(refine qz ?_;first
          |refine ld (c := .bool el.great) ?_
          |refine st (c := .bool (!el.great)) ?_ (hle:=by rw[bl];decide) (hv:=show _=mC ⟨kd,mq,mv,!el.great,ml⟩from rfl))
         |refine zz ?_|refine zx (fun _=>?_) (fun _=>?_)|fail)
        (first|refine Iu ?_|skip)
        exact⟨(),_,trivial,(bV [0,1,2,3,4,5,6,7,8,9,10,11,12,13,14,15] (obj:=by(repeat' (first|exact af.nil|refine d8 hc0 hc1 rfl rfl rfl ?_|refine a_ rfl rfl ?_|refine a_ (aU ..) rfl ?_|refine dR (by assumption) rfl rfl ?_|refine oz ?_));first|done|fail) (reg:=by(repeat' (first|exact ai.nil|refine ai.sl rfl (by assumption) (by rcases hj2 with h|h<;>rw[h]<;>rfl) ?_|refine rz ?_|refine ai.sl rfl (by assumption) rfl ?_));first|done|fail))⟩
     refine⟨?_⟩
     repeat' (first
      |(refine qz ?_;first
       |refine ld (c := .int .i64 mq) ?_
       |refine jV ?_ (hle:=by rw[bl])
       |refine vZ (enc:=mC) (a:=⟨kd,mq,mv,ed,ml⟩) ?_
       |refine xN (enc:=mC) ?_)
      |refine zz ?_|refine zx (fun _=>?_) (fun _=>?_)|fail)
     exact ih3 (k+1) _ _ _ (bV [0,1,2,3,4,5,6,7,8,9,10,11,12,17] (obj:=by(repeat' (first|exact af.nil|refine d8 hc0 hc1 rfl rfl rfl ?_|refine a_ rfl rfl ?_|refine a_ (aU ..) rfl ?_|refine dR (by assumption) rfl rfl ?_|refine af.flat (by rw[hgs1];rfl) ?_|refine oz ?_));first|done|fail) (reg:=by(repeat' (first|exact ai.nil|refine ai.sl rfl (by assumption) (by rcases hj2 with h|h<;>rw[h]<;>rfl) ?_|refine ai.flat (by rw[hgs1];rfl) ?_|refine ai.flat (by rw[<-Nat.add_assoc,hat];rfl) ?_|refine rz ?_|refine ai.sl rfl (by assumption) rfl ?_));first|done|fail)) (by omega) (by omega)
    ·obtain rfl:k=n:=by omega
     clear ih3
     have hLs:(fl mC ms).all XC.shut=true:=List.all_eq_true.2 fun c hc=>by
      obtain⟨x,_,hx⟩:=List.mem_flatMap.1 hc;exact List.all_eq_true.1 (jW x) c hx
     have hne:fl mC ms≠[]:=HF fun e=>by rw[e]at hgk;simp at hgk;omega
     have hsl:bR 107 (fl mC ms) = .cells (fl mC ms) 107 true false:=cz hne;have hsc:eg 13 k 391 = .slice 13 0 k (.toEnd 391):=if_neg (by omega);have hml:(fl mC ms).length=k*391:=by rw[yd,hgk]
     have hnx3:gQ l I Q M all (i*all) (t+1)=(gs++[⟨(F:Nat),ms⟩],F+k):=by rw[hnxt,hms]
     rw[hsl,hsc]
     repeat' (first|refine ll 31 ?_|refine uc 31 ?_|refine zz ?_|refine zx (fun _=>?_) (fun _=>?_)|fail)
     refine⟨?_⟩;refine WX.sK (L:=fy 0 (ps i)++f4 gs) (vs:=fl mC ms) 13 8 k (.toEnd 391) [(1,.one (.ptr 3 0)),(2,.one (.ptr 4 0)),(3,.one (.ptr 5 0)),(4,.one (.ptr 6 0)),(44,.one c'),(45,.one (.int .i64 (np:Nat))),(46,.one (.int .i64 (i:Nat))),(8,.one (.ptr 9 0)),(9,.one (.ptr 10 0)),(10,.one (.int .i64 (G.cols*G.rows))),(6,.one (.int .i64 ((i*all+F+k:Nat):Int))),(11,.one (.int .i64 (F:Nat))),(12,.one (.int .i64 (k:Nat))),(13,.one (.ptr 12 0))] [ob0,ob1,X,Dl h c0 c1,.cells (f9 lH .nils) 36 false false,.cells (b7 G) 26 false false,.cells (f9 G (eg 7 i 5)) 36 false false,bR 87 ((fl nX (ff 0 (ps i))).map (·.self 8)),.late (fy 0 (ps i)++f4 gs++[fl mC ms]),.cells (eL ⟨pi,pd,pq,pm⟩) 84 false false,.cells (tb ⟨(i:Nat),I,D,Q⟩ (eg 11 gs.length 2)) 87 false false,bR 90 ((fl pE (gA (wide (ps i)) gs)).map (·.self 8)),.cells (Dv (F:Nat) (.lsl 8 (wide (ps i)+gs.length) 0 k k 0)) 90 false false,.dead] (m:=wide (ps i)+gs.length) (NW ms _) (.inr ⟨391,rfl,by decide,by rw[hml];exact Nat.le_refl _⟩) hLl (hv:=FT hLs 8) (hH:=by repeat' (first|exact bh.nil|refine bh.ghost ?_|refine bh.flat rfl ?_|refine bh.cells rfl (dM.same (Dk hc0 hc1 (by decide) (by decide))) ?_|refine bh.cells rfl (dM.same (lr trivial)) ?_|refine bh.cells rfl (dM.same (lr (tg (by decide)))) ?_|refine bh.bR rfl (gu (by assumption) _ _) ?_|refine bh.cells rfl (dM.same (by simp[XC.mg,tg])) ?_|refine bh.cells rfl (dM.cons (.same trivial) (.cons .BN (.same (fun _ h=>nomatch h)))) ?_|refine bh.cells rfl (dM.cons (.same trivial) (.cons (.same trivial) (.cons (.same trivial) (.cons (.same trivial) (.cons .BN (.same (fun _ h=>nomatch h))))))) ?_|refine bh.dead ?_)) (hR:=by repeat' (first|exact ib.nil|refine ib.flat rfl ?_|refine ib.one rfl oZ.BN ?_|refine ib.one rfl (oZ.same (cY.mg (by assumption) (by rcases hj2 with h|h<;>rw[h]<;>decide))) ?_|refine ib.one rfl (oZ.same (by first|trivial|(simp[XC.mg];done))) ?_)) (hok:=by have hk14:c'.ok 14:=hcj 11;exact(stM (objs:=by repeat' (first|exact aw.nil|refine aw.flat ?_|refine aw.cons (lE hc0 hc1 rfl) ?_|refine aw.cons (cQ trivial) ?_|refine aw.cons (cQ (aJ (Nat.le_of_ble_eq_true rfl))) ?_|refine aw.cons (jd (fC (by assumption) (Nat.le_of_ble_eq_true rfl))) ?_|refine aw.cons (by first|(simp[aj.bH,XC.ok,aJ];done)|(simp[aj.bH,XC.ok,aJ, *];done)) ?_)))) (h:=?_);have hg1:(gQ l I Q M all (i*all) (t+1)).1=gs++[⟨(F:Nat),ms⟩]:=by rw[hnx3]
     have hg2:(gQ l I Q M all (i*all) (t+1)).2=F+k:=by rw[hnx3]
     have hg1l:(gQ l I Q M all (i*all) (t+1)).1.length=gs.length+1:=by rw[hg1,List.length_append];rfl
     have hlate:fy 0 (ps i)++f4 (gs++[⟨(F:Nat),ms⟩])=fy 0 (ps i)++f4 gs++[fl mC ms]:=by
      unfold f4;rw[List.map_append,<-List.append_assoc];rfl
     have hgr:(fl pE (gA (wide (ps i)) (gs++[⟨(F:Nat),ms⟩]))).map (·.self 8)=(fl pE (gA (wide (ps i)) gs)).map (·.self 8)++Dv (F:Nat) (.lsl 8 (wide (ps i)+gs.length) 0 k k 0):=by
      rw[wM];unfold fl;rw[List.flatMap_append,List.map_append,<-hgk];rfl
     have hz3:∀c∈fl pE (gA (wide (ps i)) (gQ l I Q M all (i*all) (t+1)).1),c.lI (wide (ps i)+(gQ l I Q M all (i*all) (t+1)).1.length)=true:=qj _ _ _ (Nat.le_refl _)
     repeat' (first
      |(refine qz ?_;first
       |refine sY (zs:=Dv 0 .nils) (hz:=y6) ?_
       |refine Qg 11 gs.length ((fl pE (gA (wide (ps i)) gs)).map (·.self 8)) ?_ (hn:=by rw[List.length_map,hgl]))
      |refine zz ?_|refine zx (fun _=>?_) (fun _=>?_)|fail)
     exact ih2 (t+1) _ _ _ (bV [0,1,2,3,4,5,6,7,8,9,10,15] (obj:=by(repeat' (first|exact af.nil|refine d8 hc0 hc1 rfl rfl rfl ?_|refine a_ rfl rfl ?_|refine Jw (aU ..) rfl ?_|refine dR hz1 rfl rfl ?_|refine dR hz3 (by rw[hg1,hgr];rfl) rfl ?_|refine af.flat (by rw[hg1,hlate];rfl) ?_|refine af.cons (by rw[hg1l];simp only[aj.aB,List.map_cons,List.map_nil,XC.aB,aU];exact rfl) ?_|refine oz ?_));first|done|fail) (reg:=by(repeat' (first|exact ai.nil|refine ai.sl rfl (by assumption) (by rcases hj2 with h|h<;>rw[h]<;>rfl) ?_|refine ai.flat (by rw[hg2,<-Nat.add_assoc];rfl) ?_|refine ai.flat (by rw[hg2];rfl) ?_|refine rz ?_|refine ai.sl rfl (by assumption) rfl ?_));first|done|fail)) (by rw[hg2];omega) (by rw[hg2,hF];omega)
   ·have hFa:F=all:=by omega
    have hga:(gQ l I Q M all (i*all) all).1=gs:=by
     have:=hstop hFa (all-t);rw[show t+(all-t)=all by omega]at this;rw[this,hgs]
    clear ih2
    have hgn:gs.length≠0:=fun e=>by
     obtain rfl:=List.length_eq_zero_iff.1 e;have k1:(0:Int)=(F:Nat):=k1;omega
    have hsl2:bR 90 ((fl pE (gA (wide (ps i)) gs)).map (·.self 8)) = .cells ((fl pE (gA (wide (ps i)) gs)).map (·.self 8)) 90 true false:=cz fun e=>by
     have h2:((fl pE (gA (wide (ps i)) gs)).map (·.self 8)).length=0:=by rw[e];rfl
     rw[List.length_map,hgl]at h2;omega
    have hsc2:eg 11 gs.length 2 = .slice 11 0 gs.length (.toEnd 2):=if_neg hgn;rw[hsl2,hsc2]
    repeat' (first|refine ll 33 ?_|refine uc 33 ?_|refine M8 33 ?_|refine zz ?_|refine zx (fun _=>?_) (fun _=>?_)|fail)
    refine⟨?_⟩;refine WX.sK (L:=fy 0 (ps i)++f4 gs) (vs:=fl pE (gA (wide (ps i)) gs)) (us:=(fl pE (gA (wide (ps i)) gs)).map (·.self 8)) 11 8 gs.length (.toEnd 2) [(1,.one (.ptr 3 0)),(2,.one (.ptr 4 0)),(3,.one (.ptr 5 0)),(4,.one (.ptr 6 0)),(44,.one c'),(45,.one (.int .i64 (np:Nat))),(46,.one (.int .i64 (i:Nat))),(6,.one (.int .i64 ((i*all+F:Nat):Int))),(9,.one (.ptr 10 0))] [ob0,ob1,X,Dl h c0 c1,.cells (f9 lH .nils) 36 false false,.cells (b7 G) 26 false false,.cells (f9 G (eg 7 i 5)) 36 false false,bR 87 ((fl nX (ff 0 (ps i))).map (·.self 8)),.late (fy 0 (ps i)++f4 gs++[fl pE (gA (wide (ps i)) gs)]),.cells (eL ⟨pi,pd,pq,pm⟩) 84 false false,.cells (tb ⟨(i:Nat),I,D,Q⟩ (.lsl 8 (wide (ps i)+gs.length) 0 gs.length gs.length 0)) 87 false false,.dead] (m:=wide (ps i)+gs.length) hz2 (.inr ⟨2,rfl,by decide,by rw[List.length_map,hgl];exact Nat.le_refl _⟩) hLl (hH:=by repeat' (first|exact bh.nil|refine bh.ghost ?_|refine bh.flat rfl ?_|refine bh.cells rfl (dM.same (Dk hc0 hc1 (by decide) (by decide))) ?_|refine bh.cells rfl (dM.same (lr trivial)) ?_|refine bh.cells rfl (dM.same (lr (tg (by decide)))) ?_|refine bh.bR rfl (gu (by assumption) _ _) ?_|refine bh.cells rfl (dM.same (by simp[XC.mg,tg])) ?_|refine bh.cells rfl (dM.cons (.same trivial) (.cons .BN (.same (fun _ h=>nomatch h)))) ?_|refine bh.cells rfl (dM.cons (.same trivial) (.cons (.same trivial) (.cons (.same trivial) (.cons (.same trivial) (.cons .BN (.same (fun _ h=>nomatch h))))))) ?_|refine bh.dead ?_)) (hR:=by repeat' (first|exact ib.nil|refine ib.flat rfl ?_|refine ib.one rfl oZ.BN ?_|refine ib.one rfl (oZ.same (cY.mg (by assumption) (by rcases hj2 with h|h<;>rw[h]<;>decide))) ?_|refine ib.one rfl (oZ.same (by first|trivial|(simp[XC.mg];done))) ?_)) (hok:=by have hk12:c'.ok 12:=hcj 9;exact(stM (objs:=by repeat' (first|exact aw.nil|refine aw.flat ?_|refine aw.cons (lE hc0 hc1 rfl) ?_|refine aw.cons (cQ trivial) ?_|refine aw.cons (cQ (aJ (Nat.le_of_ble_eq_true rfl))) ?_|refine aw.cons (jd (fC (by assumption) (Nat.le_of_ble_eq_true rfl))) ?_|refine aw.cons (by first|(simp[aj.bH,XC.ok,aJ];done)|(simp[aj.bH,XC.ok,aJ, *];done)) ?_)))) (h:=?_);rw[hga]at hnx
    have hpx:(fl nX (ff 0 (ps (i+1)))).map (·.self 8)=(fl nX (ff 0 (ps i))).map (·.self 8)++tb ⟨(i:Nat),I,D,Q⟩ (.lsl 8 (wide (ps i)+gs.length) 0 gs.length gs.length 0):=by
     rw[hnx,w4,Nat.zero_add];unfold fl;rw[List.flatMap_append,List.map_append];rfl
    have hlx:fy 0 (ps (i+1))=fy 0 (ps i)++f4 gs++[fl pE (gA (wide (ps i)) gs)]:=by
     rw[hnx,wU,Nat.zero_add,List.append_assoc];rfl
    have hz4:=hok1 (i+1);have hax:(i+1)*all=i*all+F:=by rw[Nat.add_mul,Nat.one_mul,hFa]
    repeat' (first
     |(refine qz ?_;first
      |refine ld (c:=eg 7 i 5) ?_ (hc:=Cy _ _)
      |refine sY (zs:=tb ⟨0,false,false,0⟩ .nils) (hz:=vR) ?_
      |refine Qg 7 i ((fl nX (ff 0 (ps i))).map (·.self 8)) ?_ (hn:=by rw[List.length_map,yd,qB,hpl2])
      |refine st ?_ (hle:=by rw[dt];decide) (hv:=Mq _ _ _))
     |refine zz ?_|refine zx (fun _=>?_) (fun _=>?_)|fail)
    exact ih (i+1) _ _ _ (bV [0,1,2,3,4,5,6,13,8] (obj:=by(repeat' (first|exact af.nil|refine d8 hc0 hc1 rfl rfl rfl ?_|refine a_ rfl rfl ?_|refine Jw (aU ..) rfl ?_|refine dR hz4 (by rw[hpx];rfl) rfl ?_|refine af.flat (by rw[hlx];rfl) ?_|refine oz ?_));first|done|fail) (reg:=by(repeat' (first|exact ai.nil|refine ai.sl rfl (by assumption) (by rcases hj2 with h|h<;>rw[h]<;>rfl) ?_|refine ai.flat (by rw[hax];rfl) ?_|refine rz ?_|refine ai.sl rfl (by assumption) rfl ?_));first|done|fail)) (by omega) (by omega)
  ·obtain rfl:i=np:=by omega
   clear ih
   have hSF:(pM h pics l).ps=ps i:=by
    show AJ l ((gL h).cols*(gL h).rows).toNat pics (lu pics)=_;rw[hG,hall,hnp,hps]
   have hpl3:(fl nX (ff 0 (ps i))).length=i*5:=by rw[yd,qB,hpl2]
   have hsl3:bR 87 ((fl nX (ff 0 (ps i))).map (·.self 8)) = .cells ((fl nX (ff 0 (ps i))).map (·.self 8)) 87 true false:=cz fun e=>by
    have h2:((fl nX (ff 0 (ps i))).map (·.self 8)).length=0:=by rw[e];rfl
    rw[List.length_map,hpl3]at h2;omega
   have hsc3:eg 7 i 5 = .slice 7 0 i (.toEnd 5):=if_neg (by omega);have hl132:132=(f9 G (.lsl 8 (wide (ps i)) 0 i i 0)).length:=(dt _ _).symm;rw[hsl3,hsc3,hSF,hG,hnp]
   repeat' (first|refine ll 35 ?_|refine uc 35 ?_|refine zz ?_|refine zx (fun _=>?_) (fun _=>?_)|fail)
   refine⟨?_⟩;refine WX.sK (L:=fy 0 (ps i)) (vs:=fl nX (ff 0 (ps i))) (us:=(fl nX (ff 0 (ps i))).map (·.self 8)) 7 8 i (.toEnd 5) [(2,.one (.ptr 4 0)),(4,.one (.ptr 6 0))] [ob0,ob1,.dead,.dead,.cells (f9 lH .nils) 36 false false,.dead,.cells (f9 G (.lsl 8 (wide (ps i)) 0 i i 0)) 36 false false,.dead,.late (fy 0 (ps i)++[fl nX (ff 0 (ps i))])] (m:=wide (ps i)) hz1 (.inr ⟨5,rfl,by decide,by rw[List.length_map,hpl3];exact Nat.le_refl _⟩) (hwl i) (hH:=by repeat' (first|exact bh.nil|refine bh.ghost ?_|refine bh.dead ?_|refine bh.flat rfl ?_|refine bh.cells rfl (dM.same (lr trivial)) ?_|refine bh.cells rfl (Mp _) ?_)) (hok:=(stM (objs:=by repeat' (first|exact aw.nil|refine aw.flat ?_|refine aw.cons (cQ trivial) ?_|refine aw.cons (cQ (show 8<_ from Nat.le_of_ble_eq_true rfl)) ?_|refine aw.cons trivial ?_)))) (h:=?_)
   repeat' (first
    |(refine qz ?_;first
     |refine jV ?_ (hle:=(dt _ _).symm)
     |refine nr (cs:=f9 G (.lsl 8 (wide (ps i)) 0 i i 0)) ?_ (hs1:=(dt _ _).symm) (hs2:=(dt _ _).symm))
    |refine zz ?_|refine zx (fun _=>?_) (fun _=>?_)|fail)
   show aE _ _ _ _ _ _ _ _;refine kV [0,1,8] ?_ (hr:=fE.one rfl (.cell rfl rfl (bO hl132) .nil)) (hok:=rV (show 2<3 by omega));exact(qJ (c' := .lsl 8 (wide (ps i)) 0 i i 0) rfl).symm
end Go.Proofs.YthdciapjllppjaaGreat
namespace Go.Xm
variable [ak]
variable {P:Program} {ops:Array Oper} {nt nI:Nat} {al:aN} {hs:ah} {o:Oper} {l:List Oper} {L:List az} {K:List Ab->aN->ah->Prop} {d:Nat}
theorem R9{t t1 e e1:TypeId}{a b:Operand}{k:IntKind}{i n g:Nat}{q p:List Int}{LL:List (List XC)}{c:XC}{N:Nat}{hs':ah}(hc:p9 LL g c (il k p) p.length)(hk:SK P ops nt L l ((d,iq N (n+p.length) 1)::al) hs' fun bs=>K (⟨true,.none,[i,N]⟩::bs))(ho:o.op = .call ⟨.builtin .append,#[a,b],#[t,t1]⟩:=by exact rfl)(hu:aP P t (.slice e):=by infer_instance)(hu1:aP P t1 (.slice e1):=by infer_instance)(hz:aL P e [.int k 0]:=by infer_instance)(hI:TI P e 1:=by infer_instance)(wn:Wn ops nt al o d:=by exact⟨rfl,rfl,rfl⟩)(ha:ae (rg al) a=iq i n 1:=by exact rfl)(hi:hs[i]? = some (bR e (il k q)):=by exact rfl)(hb:ae (rg al) b = .one c:=by exact rfl)(hg:hs[g]? = some (.late LL):=by exact rfl)(hn:q.length=n:=by first|assumption|exact rfl)(hm:0<p.length/\n+p.length<=2000000000:=by omega)(hN:hs.length=N:=by exact n2)(hbd:Nat.blt N Mem.bound=true:=by exact rfl)(hh:hs.set i .dead++[bR e (il k (q++p))]=hs':=by first|(simp only[List.set_cons_succ,List.set_cons_zero,List.cons_append,List.nil_append];exact rfl)|exact rfl):SK P ops nt L (o::l) al hs K:=by
 have hne:il k (q++p)≠[]:=fun e=>by
  have h2:(il k (q++p)).length=0:=by rw[e];rfl
  rw[bu,List.length_append]at h2;omega
 refine R8 (cs:=il k q) (Mn (hu:=hu1) hb hc hg) ?_ ho hu hz hI wn ⟨rfl,Nat.one_pos⟩ ha hi (by rw[bu];omega) hm hN hbd (hs':=hs') ?_
 ·rw[fi (by omega)]at hk;exact hk
 ·rw[<-hh,cz hne,rF]
end Go.Xm
namespace Go.Proofs.YthdciapjllppjaaGreat
open Go.Xm
variable [ak]
structure Qb(ps:List (List Int)):Prop where
 many:1<=ps.length/\ps.length<=46
 pos:∀i,i<ps.length->1<=(ps.getD i []).length
 body:∀i,0<i->i<ps.length->23<=(ps.getD i []).length
 few:∀i,(ps.getD i []).length<=70000
 byte:∀i,bc (ps.getD i [])
theorem rC(ps:List (List Int))(h:∀i,(ps.getD i []).length<=70000):∀n,(iS ps n).length<=70000*n
 | 0=>Nat.le_refl _
 | n+1=>by
   have h1:=rC ps h n;have h2:=h n;rw[iS,List.length_append];omega
theorem xg(B:List Bool)(hB:119<=B.length):∀k,k<=17->bc (o6 B k)
 | 0,_=>gZ
 | k+1,h=>by
   rw[o6];refine gk (xg B hB k (by omega)) (dw ?_ gZ);unfold Cm;rw[mw (by omega)];have:=JR B (7*k);omega
theorem B8{B:List Bool}(hB:119<=B.length){x y:List Int}(hx:bc x)(hy:bc y):bc (eo B x y):=
 gk (gk (gk (dw (by omega) (dw (by omega) (dw (by omega) (dw (by omega) gZ)))) (xg B hB 17 (Nat.le_refl _))) hx) hy
theorem LO{h:Hd}{ps:List Pc}{q:List Int}(hq:q∈pZ h ps):∃i,i<ps.length/\∃g∈(ps.getD i default).gs,q=DI h (ps.getD i default).ph g:=by
 unfold pZ at hq;obtain⟨p,hp,hq⟩:=List.mem_flatMap.1 hq;obtain⟨i,hi,rfl⟩:=List.mem_iff_getElem.1 hp;unfold Nk at hq;obtain⟨g,hg,rfl⟩:=List.mem_map.1 hq;refine⟨i,hi,g,?_,?_⟩<;>rw[List.getD_eq_getElem?_getD,List.getElem?_eq_getElem hi,Option.getD_some]
 exact hg
theorem IM{s:o4}(hs:iv s){q:List Int}(hq:q∈pZ s.hd s.ps):23<=q.length/\q.length<=70000/\bc q/\∃a b:Nat,rL q=((a:Int),(b:Int))/\1<=a/\a<=30000/\1<=b/\b<=30000/\q.length=21+a+b:=by
 obtain⟨i,hi,g,hg,rfl⟩:=LO hq;obtain⟨-,-,ba,bb,la,lb⟩:=IP hs hi hg;have hl:(DI s.hd (s.ps.getD i default).ph g).length=21+(f7 s.hd (s.ps.getD i default).ph g).1.length+(f7 s.hd (s.ps.getD i default).ph g).2.length:=gq ..;refine⟨by omega,by omega,B8 (by rw[Ra,rE];exact Nat.le_refl _) ba bb,_,_,Af (by omega) (by omega) _ _,la.1,la.2,lb.1,lb.2,hl⟩
theorem DJ{h:Hd}{all:Nat}:∀{ps:List Pc},(∀p∈ps,p.gs.length<=all)->(pZ h ps).length<=all*ps.length
 | [],_=>Nat.zero_le _
 | p::l,hp=>by
   have ih:=DJ (h:=h) (ps:=l) fun p hp'=>hp p (List.mem_cons_of_mem _ hp')
   have h1:=hp p (List.mem_cons_self ..);have e:pZ h (p::l)=Nk h p++pZ h l:=rfl;have e2:(Nk h p).length=p.gs.length:=List.length_map ..;rw[e,List.length_append,e2,List.length_cons,Nat.mul_add];omega
theorem DL{s:o4}{i:Nat}(h0:0<i)(hi:i<(fU s).length):(fU s).getD i []∈pZ s.hd s.ps:=by
 cases i with
 | zero=>omega
 | succ i=>
   have hi:i<(pZ s.hd s.ps).length:=by
    have:(fU s).length=(pZ s.hd s.ps).length+1:=List.length_cons;omega
   show(pZ s.hd s.ps).getD i []∈_;rw[List.getD_eq_getElem?_getD,List.getElem?_eq_getElem hi];exact List.getElem_mem hi
theorem OA{s:o4}(hs:iv s):Qb (fU s):=by
 have hm:=hs.ok.many;have hcr:=oL hs.ok;have hlen:(fU s).length=(pZ s.hd s.ps).length+1:=List.length_cons
 have hl:(pZ s.hd s.ps).length<=9*s.ps.length:=DJ fun p hp=>by
  obtain⟨i,hi,rfl⟩:=List.mem_iff_getElem.1 hp;have:=(hs.ok.pics i hi).few;rw[List.getD_eq_getElem?_getD,List.getElem?_eq_getElem hi,Option.getD_some]at this;omega
 have hy:=jU s.hd
 have key:∀i,i<(fU s).length->1<=((fU s).getD i []).length/\((fU s).getD i []).length<=70000/\bc ((fU s).getD i []):=fun i hi=>by
  by_cases h0:i=0
  ·subst h0;exact⟨by show 1<=(ie s.hd).length;omega,by show(ie s.hd).length<=70000;omega,zy _⟩
  ·have:=IM hs (DL (by omega) hi);exact⟨by omega,this.2.1,this.2.2.1⟩
 have out:∀i,¬i<(fU s).length->(fU s).getD i [] = []:=fun i hi=>by
  rw[List.getD_eq_getElem?_getD,List.getElem?_eq_none (by omega)];rfl
 refine⟨by omega,fun i hi=>(key i hi).1,fun i h0 hi=>(IM hs (DL h0 hi)).1,fun i=>?_,fun i=>?_⟩
 ·by_cases hi:i<(fU s).length
  ·exact(key i hi).2.1
  ·rw[out i hi];exact Nat.zero_le _
 ·by_cases hi:i<(fU s).length
  ·exact(key i hi).2.2
  ·rw[out i hi];exact gZ
theorem B_{s:o4}(hs:iv s){L:List (List XC)}{k n i:Nat}(hp:wq L k s.ps)(hn:s.ps.length=n){ps:List (List Int)}(hps:fU s=ps){m:Nat}(hm:ps.length=m){B:List (List XC)}(hB:v7 ps=B){HS:ah}(hi:HS[i]? = some (.late L)){N:Nat}(hN:HS.length=N){HS':ah}(hh:HS++[.late B]=HS')(hbd:Nat.blt HS'.length Mem.bound=true) :
 az.Sound prog ⟨12,[.agg (f9 s.hd (.lsl i k 0 n n 0))],HS,.tup [.one (.lsl N m 0 m m 0),.one (.int .i64 0)],HS',[i]⟩:=by
 subst hB;exact B9 hs hp hn hps hm hi hN hh hbd
theorem BC{h:Hd}{c0 c1:XC}{n:Nat}(h0:c0.ok n)(h1:c1.ok n):(XV.agg (rn h c0 c1)).bH n:=fun x hx=>by
 rcases List.mem_append.1 (show x∈b7 h++[c0,c1]from hx)with hx|hx
 ·exact XC.aX (List.all_eq_true.1 (cN h) x hx) n
 ·simp only[List.mem_cons,List.not_mem_nil,or_false]at hx
  rcases hx with rfl|rfl
  ·exact h0
  ·exact h1
theorem Dm{h:Hd}{c0 c1:XC}{τ : Nat->Nat}:(XV.agg (rn h c0 c1)).aB τ = .agg (rn h (c0.aB τ) (c1.aB τ)):=by
 simp only[rn,XV.aB,List.map_append,mD,List.map_cons,List.map_nil]
theorem xi{h:Hd}(hhr:o7 h){pics:List sW}(hpp:∀j,j<pics.length->kb (pics.getD j default)){l:List Sm}(hll:∀j,j<l.length->iQ (l.getD j default)){ob0 ob1:aj}(hr0:EA ob0 eL pics)(hr1:EA ob1 th l){i j:Nat}{c0 c1:XC}(hc0:cY c0 i 0 pics.length)(hc1:cY c1 j 0 l.length)(hn0:pics.length<=30)(hn1:l.length<=300){HS:ah}(hi:HS[i]? = some ob0)(hj:HS[j]? = some ob1)(hij:i≠j){s:o4}(hs:pM h pics l=s){w np:Nat}(hw:wide s.ps=w)(hnp:s.ps.length=np){B:List (List XC)}(hB:E7 s.ps=B){N:Nat}(hN:HS.length=N){HS':ah}(hh:HS++[.late B]=HS')(hbd:Nat.blt HS'.length Mem.bound=true) :
 az.Sound prog ⟨11,[.agg (rn h c0 c1)],HS,.agg (f9 s.hd (.lsl N w 0 np np 0)),HS',[i,j]⟩:=by
 have hnp2:lu pics=np:=by rw[<-hnp,<-hs];exact(kD ..).symm
 subst hs hw hB hN;have hfo0:=hr0.flat;have hfo1:=hr1.flat;obtain⟨d0,k0,rfl⟩:=hc0.Da 0 (nth [i,j]) rfl;obtain⟨d1,k1,rfl⟩:=hc1.Da 1 (nth [i,j]) rfl;have hc:=CA hhr hpp hll hr0 hr1 k0 k1 hn0 hn1;rw[hnp2]at hc;refine bz [i,j] [i,j] 1 hc (by simp[hij]) (.flat hi (.flat hj .nil)) (.flat (.flat .nil)) (.flat (.flat (.flat .nil))) rfl (.cons (BC (k0.ok (Nat.le_of_ble_eq_true rfl)) (k1.ok (Nat.le_of_ble_eq_true rfl))) .nil) (.cons Dm .nil) (rV (show 2<3 by omega)) (qJ rfl) (.flat (.flat (.flat .nil))) ?_ rfl (by simp only[bE];rw[aF hi,aF hj];exact hh) hbd (.inl rfl);simp only[gK];cases ob0.live<;>cases ob1.live<;>rfl
theorem t5(h:Hd):((e9 h).w=true->∀i,i<64->8<=(e9 h).a i/\8<=(e9 h).b i)/\((e9 h).w=false->∀i,i<64->(e9 h).a i=0/\(e9 h).b i=0):=by
 have:=(Ld h).1;exact⟨this.yes,this.no⟩
theorem AH{h:Hd}(hhr:o7 h){pics:List sW}(hpp:∀j,j<pics.length->kb (pics.getD j default)){l:List Sm}(hll:∀j,j<l.length->iQ (l.getD j default)):iv (pM h pics l):=by
 have hG:1<=(gL h).cols/\(gL h).cols<=3/\1<=(gL h).rows/\(gL h).rows<=3:=by
  have hfc:1<=(e9 h).cols/\(e9 h).cols<=8:=by show 1<=1+h.cols%2^3/\1+h.cols%2^3<=8;omega
  have hfr:1<=(e9 h).rows/\(e9 h).rows<=8:=by show 1<=1+h.rows%2^3/\1+h.rows%2^3<=8;omega
  refine⟨?_,?_,?_,?_⟩
  ·show 1<=1+(e9 h).cols%3;omega
  ·show 1+(e9 h).cols%3<=3;omega
  ·show 1<=1+(e9 h).rows%3;omega
  ·show 1+(e9 h).rows%3<=3;omega
 obtain⟨c0,c1,r0,r1⟩:=hG;have hlen:(pM h pics l).ps.length=lu pics:=kD ..;have hnp:1<=lu pics/\lu pics<=5:=by unfold lu;split<;>omega
 have hraw:∀i,kb (pics.getD i default):=fun i=>by
  by_cases hip:i<pics.length
  ·exact hpp i hip
  ·rw[List.getD_eq_getElem?_getD,List.getElem?_eq_none (by omega)];exact⟨by show(0:Int)<=0/\(0:Int)<=255;omega,by show(0:Int)<=0/\(0:Int)<=255;omega⟩
 refine⟨⟨⟨⟨c0,by show(gL h).cols<=8;omega,r0,by show(gL h).rows<=8;omega⟩,(t5 h).1,(t5 h).2⟩,?_,⟨c0,c1⟩,⟨r0,r1⟩,by omega,fun i hi=>?_⟩,fun p hp g hg m hm=>?_⟩
 ·intro i hi;have ht:=hhr.tab i hi;show(0<=(lS h).a i/\(lS h).a i<=255)/\(0<=(lS h).b i/\(lS h).b i<=255);unfold lS;split
  ·show(0<=max _ _/\max _ _<=255)/\(0<=max _ _/\max _ _<=255);omega
  ·show((0:Int)<=0/\(0:Int)<=255)/\((0:Int)<=0/\(0:Int)<=255);omega
 ·have e:(pM h pics l).ps.getD i default=Fs l ((gL h).cols*(gL h).rows).toNat i (pics.getD i default):=yC _ _ _ _ _ (by omega);rw[e];exact LJ hll _ i (by omega) (hraw i)
 ·obtain⟨i,hi,rfl⟩:=List.mem_iff_getElem.1 hp;have e:(pM h pics l).ps.getD i default=Fs l ((gL h).cols*(gL h).rows).toNat i (pics.getD i default):=yC _ _ _ _ _ (by omega);rw[List.getD_eq_getElem?_getD,List.getElem?_eq_getElem hi,Option.getD_some]at e;rw[e]at hg;exact BQ l _ _ _ _ _ _ g hg m hm
theorem zP{h:Hd}{c0 c1:XC}{na nb:Nat}{ob0 ob1:aj}[cu ob0][cu ob1](hc0:cY c0 0 0 na)(hc1:cY c1 1 0 nb) :
 bq prog 10 [.agg (rn h c0 c1)] [ob0,ob1] (.one (.bool (decide (na<=30)&&decide (nb<=300)))) [ob0,ob1]:=by
 by_cases h0:na<=30
 ·by_cases h1:nb<=300
  ·rw[decide_eq_true h0,decide_eq_true h1];refine cO Tryz.func10 ?_
   repeat' (first
    |(refine qz ?_;first
     |refine ld (c:=c0) ?_ (hc:=Dh h c0 c1)
     |refine ld (c:=c1) ?_ (hc:=Di h c0 c1))
    |refine zz ?_|refine zx (fun _=>?_) (fun _=>?_)|fail)
   show aE _ _ _ _ _ _ _ _;refine kV [0,1] ?_;rfl
  ·rw[decide_eq_true h0,decide_eq_false h1];refine cO Tryz.func10 ?_
   repeat' (first
    |(refine qz ?_;first
     |refine ld (c:=c0) ?_ (hc:=Dh h c0 c1)
     |refine ld (c:=c1) ?_ (hc:=Di h c0 c1))
    |refine zz ?_|refine zx (fun _=>?_) (fun _=>?_)|fail)
   show aE _ _ _ _ _ _ _ _;refine kV [0,1] ?_;rfl
 ·rw[decide_eq_false h0,Bool.false_and];refine cO Tryz.func10 ?_
  repeat' (first
   |(refine qz ?_;first
    |refine ld (c:=c0) ?_ (hc:=Dh h c0 c1)
    |refine ld (c:=c1) ?_ (hc:=Di h c0 c1))
   |refine zz ?_|refine zx (fun _=>?_) (fun _=>?_)|fail)
  show aE _ _ _ _ _ _ _ _;refine kV [0,1] ?_;rfl
theorem uw{h:Hd}{c0 c1:XC}{na nb i j:Nat}{ob0 ob1:aj}(hf0:cu ob0)(hf1:cu ob1)(hc0:cY c0 i 0 na)(hc1:cY c1 j 0 nb){r:Bool}(hr:(decide (na<=30)&&decide (nb<=300))=r){HS:ah}(hi:HS[i]? = some ob0)(hj:HS[j]? = some ob1)(hij:i≠j)(hbd:Nat.blt HS.length Mem.bound=true) :
 az.Sound prog ⟨10,[.agg (rn h c0 c1)],HS,.one (.bool r),HS,[]⟩:=by
 subst hr;obtain⟨d0,k0,rfl⟩:=hc0.Da 0 (nth [i,j]) rfl;obtain⟨d1,k1,rfl⟩:=hc1.Da 1 (nth [i,j]) rfl;exact fM [i,j] (zP k0 k1) (by simp[hij]) (.flat hi (.flat hj .nil)) (.flat (.flat .nil)) (.cons (BC (k0.ok (Nat.le_of_ble_eq_true rfl)) (k1.ok (Nat.le_of_ble_eq_true rfl))) .nil) (.cons Dm .nil) trivial rfl hbd rfl
theorem GG:aL prog 30 (rn lH .nils .nils):=by
 show aL prog 30 ((.int .i64 0 :: .int .i64 0 :: .bool false::((ti .u8 64 fun _=>0)++(ti .u8 64 fun _=>0)))++[.nils,.nils])
 infer_instance
theorem DA:o7 lH:=⟨by decide,by decide,fun i _=>⟨by show(0:Int)<=0/\(0:Int)<=255;decide,by show(0:Int)<=0/\(0:Int)<=255;decide⟩⟩
def PV:o4:=pM lH [] []
theorem NJ:iv PV:=AH (pics:=[]) (l:=[]) DA (fun j h=>absurd h (Nat.not_lt_zero j)) (fun j h=>absurd h (Nat.not_lt_zero j))
end Go.Proofs.YthdciapjllppjaaGreat
namespace Go.Xm
theorem az.Sound.TO[ak]{P:Program}{f:FuncId}{args:List XV}{HS HS' new:ah}{v:XV}{ws:List Nat}(h:az.Sound P ⟨f,args,HS,v,HS',ws⟩)(hh:HS++new=HS'):az.Sound P ⟨f,args,HS,v,HS',[]⟩:=
 ⟨h.le,h.bnd,fun i hi _=>by subst hh;exact List.getElem?_append_left hi,h.call⟩
end Go.Xm
namespace Go.Proofs.YthdciapjllppjaaGreat
open Go.Xm
variable [ak]
theorem Ew.more{L:List (List XC)}{cs:List XC}{ps:List (List Int)}(h:Ew L cs ps)(r:List (List XC)):Ew (L++r) cs ps:=⟨h.1,fun i hi=>p9.mono (h.2 i hi) r⟩
end Go.Proofs.YthdciapjllppjaaGreat
