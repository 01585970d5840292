/-
  A part of the proof: StrS, StrV, FtI, FtJ, FtM.
-/
import Derived.Test.YthdciapjllppjaaGreatFbF
import Derived.Test.YthdciapjllppjaaGreatFbG
import Derived.Test.YthdciapjllppjaaGreatFbW
import Derived.Test.YthdciapjllppjaaGreatFbX
import Derived.Test.YthdciapjllppjaaGreatFbZ
import Derived.Test.YthdciapjllppjaaGreatFbZA
set_option maxRecDepth 10000
set_option maxHeartbeats 8000000
set_option linter.unusedVariables false
set_option linter.unusedSectionVars false
set_option linter.unusedSimpArgs false
open Go.Proofs.Tryz (prog)
namespace Go.Xm
variable [av]
section
variable {P:Program} {ops:Array Oper} {nt nI:Nat} {al:aL} {hs:ah} {o:Oper} {l:List Oper} {L:List aA} {K:List Ab->aL->ah->Prop} {d:Nat}
theorem P7{t t1 e e1:TypeId}{sz len:Nat}{a b:Operand}{zs:List XC}(i n:Nat){j:Nat}{cap:oV}(cs:List XC){vs:List XC}{et:TypeId}{opn ro:Bool}{N:Nat}{hs':ah}(hk:SK P ops nt L l ((d,ee N (n+len) sz)::al) hs' fun bs=>K (⟨true,.none,[i,N]⟩::bs))(ho:o.op = .call ⟨.builtin .append,#[a,b],#[t,t1]⟩:=by exact rfl)(hu:aG P t (.slice e):=by infer_instance)(hu1:aG P t1 (.slice e1):=by infer_instance)(hz:aI P e zs:=by infer_instance)(hI:TI P e sz:=by infer_instance)(wn:Wn ops nt al o d:=by exact⟨rfl,rfl,rfl⟩)(hsz:zs.length=sz/\0<sz:=by exact⟨rfl,Nat.le_of_ble_eq_true rfl⟩)(ha:ag (rg al) a=ee i n sz:=by exact rfl)(hi:hs[i]? = some (bz e cs):=by exact rfl)(hb:ag (rg al) b = .one (.slice j 0 len cap):=by exact rfl)(hj:hs[j]? = some (.cells vs et opn ro):=by exact rfl)(hl:vs.length=len*sz:=by exact rfl)(hn:cs.length=n*sz:=by exact rfl)(hm:0<len/\n+len<=2000000000:=by omega)(hN:hs.length=N:=by exact n2)(hbd:Nat.blt N Mem.bound=true:=by exact rfl)(hh:hs.set i .dead++[bz e (cs++vs)]=hs':=by first|(simp only[List.set_cons_succ,List.set_cons_zero,List.cons_append,List.nil_append];exact rfl)|exact rfl):SK P ops nt L (o::l) al hs K:=by
 have hpos:0<len*sz:=Nat.mul_pos hm.1 hsz.2
 have hne:cs++vs≠[]:=fun e=>by
  have h2:(cs++vs).length=0:=by rw[e];rfl
  rw[List.length_append]at h2;omega
 refine Sv i n cs ?_ ho hu hu1 hz hI wn hsz ha hi hb hj hl hn hm hN hbd (hs':=hs') ?_
 ·rw[dp (by omega)]at hk;exact hk
 ·rw[<-hh,bG hne]
end
theorem a_.bz{i g m:Nat}{A B:XC}{L:List (List XC)}{vs cs:List XC}{e:TypeId}{j:Nat}{hs hs2:ah}(hj:Nat.beq j i=false)(hn:∀c∈cs,c.lA g m)(h:a_ i g m A B L vs (j+1) hs hs2):a_ i g m A B L vs j (Xm.bz e cs::hs) (Xm.bz e cs::hs2):=by
 cases cs with
 | nil=>exact .dead h
 | cons c r=>exact .cells hj (.same hn) h
theorem cG.lA{c:XC}{i off n g m:Nat}(h:cG c i off n)(hi:i≠g):c.lA g m:=by
 rcases h with⟨_,rfl|⟨_,_,rfl⟩⟩|⟨cap,_,rfl⟩<;>first|trivial|exact hi
end Go.Xm
namespace Go.Proofs.YthdciapjllppjaaGreat
open Go.Xm
variable [av]
def Aq(pics:List sS):List sS:=if pics.length=0 then [default]else pics
theorem LR(pics:List sS)(i:Nat):(Aq pics).getD i default=pics.getD i default:=by
 unfold Aq;split
 ·rename_i h;rw[List.length_eq_zero_iff.1 h];cases i<;>rfl
 ·rfl
theorem I1(pics:List sS):kQ pics<=(Aq pics).length:=by
 unfold kQ Aq;split
 ·exact Nat.le_refl _
 ·exact Nat.min_le_left _ _
theorem Di{h:Hd}{c0 c1:XC}{n n' g m:Nat}(k0:cG c0 0 0 n)(k1:cG c1 1 0 n')(h0:0≠g)(h1:1≠g):∀x∈rj h c0 c1,x.lA g m:=fun x hx=>by
 rcases List.mem_append.1 (show x∈gV h++[c0,c1]from hx)with hx|hx
 ·exact XC.iN (XC.bh (List.all_eq_true.1 (eC h) x hx) 0)
 ·simp only[List.mem_cons,List.not_mem_nil,or_false]at hx
  rcases hx with rfl|rfl
  ·exact k0.lA h0
  ·exact k1.lA h1
theorem tg{k n z g m:Nat}(h:k≠g):(eY k n z).lA g m:=by
 unfold eY;split
 ·trivial
 ·exact h
theorem JI{τ : Nat->Nat}{HS:ah}{i:Nat}{ls:List Nat}{hs:ah}{h:Hd}{c c0:XC}{a b:Bool}(hc:c.aB τ = c0)(hi:HS[i]? = some (.cells (fh h c0) 36 a b))(r:af τ HS ls hs):af τ HS (i::ls) (.cells (fh h c) 36 a b::hs):=by
 refine af.cons ?_ r;rw[hi];simp only[fh,aj.aB,List.map_append,ql,List.map_cons,List.map_nil,hc]
theorem Mt{g m:Nat}{A B:XC}(h:Hd):dR g m A B (fh h A) (fh h B):=
 dR.app (.same fun c hc=>XC.iN (XC.bh (List.all_eq_true.1 (eC h) c hc) 0)) (.cons .zE (.same fun _ h=>nomatch h))
theorem iQ{cs:List XC}{e:TypeId}{n:Nat}(h:∀c∈cs,c.ok n):(bz e cs).br n:=by
 cases cs with
 | nil=>trivial
 | cons c r=>exact h
theorem dH{τ : Nat->Nat}{HS:ah}{i:Nat}{ls:List Nat}{hs:ah}{vs:List XC}{e:TypeId}{g m:Nat}(hl:∀c∈vs,c.iF m=true)(hi:HS[i]? = some (bz e (vs.map (·.self g))))(hg : τ g=g)(r:af τ HS ls hs):af τ HS (i::ls) (bz e (vs.map (·.self g))::hs):=by
 refine af.cons ?_ r;rw[hi]
 cases hv:vs.map (·.self g)with
 | nil=>rfl
 | cons c r=>
   have:=rN hl g τ;rw[hg,hv]at this;show some (aj.cells (c::r) e true false)=some (.cells ((c::r).map (·.aB τ)) e true false);rw[this]
theorem fm{vs:List XC}{m:Nat}(h:∀c∈vs,c.iF m=true){g n:Nat}(hg:g<n):∀c∈vs.map (·.self g),c.ok n:=uX (t:=0) (a:=false) (b:=false) h hg
theorem zH{l:List Sm}{inter:Bool}{qp:Int}{many all n0 j:Nat}(h:(gy l inter qp many all n0 j).2=all):∀k,gy l inter qp many all n0 (j+k)=gy l inter qp many all n0 j
 | 0=>rfl
 | k+1=>by
   rw[<-Nat.add_assoc,gy,zH h k,h,if_neg (Nat.lt_irrefl _)]
theorem MU:aI prog 84 (eD default):=by
 show aI prog 84 [.bool false,.bool false,.int .u8 0,.int .u8 0]
 infer_instance
structure RD where
 X:aj
 j:Nat
 c:XC
theorem Cw{h : Hd}(hhr:oW h){pics:List sS}(hpp:∀j,j<pics.length->jP (pics.getD j default)){l:List Sm}(hll:∀j,j<l.length->iy (l.getD j default)){ob0 ob1:aj}(hr0:Br ob0 eD pics)(hr1:Br ob1 th l){c0 c1:XC}(hc0:cG c0 0 0 pics.length)(hc1:cG c1 1 0 l.length)(hn0:pics.length<=30)(hn1:l.length<=300) :
 bm prog 11 [.agg (rj h c0 c1)] [ob0,ob1] (.agg (fh (jh h) (.lsl 2 (wide (sL h pics l).ps) 0 (kQ pics) (kQ pics) 0))) [ob0,ob1,.late (Fi (sL h pics l).ps)]:=by
 have hfo0:=hr0.flat;have hfo1:=hr1.flat
 obtain⟨G,hG⟩:∃G,jh h=G:=⟨_,rfl⟩
 have hset:(gV {eQ h with cols:=1+(eQ h).cols%3}).set 1 (.int .i64 (1+(eQ h).rows%3))=gV G:=by rw[<-hG];rfl
 have hlen:131=(gV G).length:=(cu _).symm;have hfc:1<=(eQ h).cols/\(eQ h).cols<=8:=by show 1<=1+h.cols%2^3/\1+h.cols%2^3<=8;omega
 have hfr:1<=(eQ h).rows/\(eQ h).rows<=8:=by show 1<=1+h.rows%2^3/\1+h.rows%2^3<=8;omega
 obtain⟨np,hnp⟩:∃n,kQ pics=n:=⟨_,rfl⟩
 have hnp5:1<=np/\np<=5:=by rw[<-hnp];unfold kQ;split<;>omega
 refine cO Tryz.func11 ?_;refine WX.cj rfl ?_
 repeat' (first
  |(refine qz ?_;first
   |refine nC (zs:=gV wH) (hz:=Ky) ?_
   |refine nC (zs:=fh wH .nils) (hz:=Eo) ?_
   |refine t_ (cs:=gV h) ?_ (hle:=by rw[Dh];decide) (hc:=NN h c0 c1)
   |refine cl ?_ (hi:=by exact HX hhr rfl rfl)
   |refine tk (cs:=gV (eQ h)) ?_ (hs1:=by rw[cu]) (hs2:=by rw[cu])
   |refine st ?_ (hle:=by rw[cu];omega) (hv:=hset)
   |refine st (c := .int .i64 (1+(eQ h).cols%3)) ?_ (hle:=by rw[cu];omega) (hv:=H3 _ _)
   |refine lI ?_ (hle:=by rw[cu])
   |refine ld (c:=c0) ?_ (hc:=Df h c0 c1)
   |refine Ty (p:=0) (q:=min pics.length 5) (fun c hc=>?_)
   |refine tk (cs:=fh G .nils) ?_ (hs1:=by rw[eo]) (hs2:=by rw[eo])
   |refine vO (zs:=eD default) ?_)
  |refine WX.ur 5 (σ:=RD) (fun s=>[(1,.one (.ptr 3 0)),(2,.one (.ptr 4 0)),(3,.one (.ptr 5 0)),(4,.one (.ptr 6 0)),(5,.one s.c)]) (fun s=>[ob0,ob1,s.X,Dj h c0 c1,.cells (fh wH .nils) 36 false false,.cells (gV G) 26 false false,.cells (fh G .nils) 36 false false]) (fun s=>(s.j=0/\s.X = .dead/\0<pics.length\/s.j=2/\s.X = .cells (fl eD [default]) 84 false false/\pics.length=0)/\cG s.c s.j 0 np) (fun s hs=>q9.out ?_) ?_ (fun s hs=>q9.out ?_)|refine zz ?_|refine zx (fun _=>?_) (fun _=>?_)|fail)
 ·refine⟨?_⟩;obtain⟨X,j,c'⟩:=s;obtain⟨hXj,hcs⟩:=hs
  have hX:b9 X:=by
   rcases hXj with⟨_,e,_⟩|⟨_,e,_⟩
   ·have e:X = .dead:=e;subst e;infer_instance
   ·have e:X = .cells (fl eD [default]) 84 false false:=e;subst e;infer_instance
  have hk7:c'.ok 7:=cG.ok hcs (by rcases hXj with h|h<;>(have:=h.1;simp only at this;omega));exact(stM (objs:=by repeat' (first|exact aq.nil|refine aq.flat ?_|refine aq.cons (lf hc0 hc1 rfl) ?_|refine aq.cons (bW trivial) ?_|refine aq.cons (bW (aJ (Nat.le_of_ble_eq_true rfl))) ?_|refine aq.cons (iQ (fm (by assumption) (Nat.le_of_ble_eq_true rfl))) ?_|refine aq.cons (by first|(simp[aj.br,XC.ok,aJ];done)|(simp[aj.br,XC.ok,aJ, *];done)) ?_)))
 ·rename_i h0;have h0:pics.length=0:=by omega
  have hp1:np=1:=by rw[<-hnp];exact if_pos h0
  subst hp1
  (first|refine sH ?_|skip)
  exact⟨⟨.cells (fl eD [default]) 84 false false,2,.slice 2 0 1 (.exact 1)⟩,_,⟨.inr ⟨rfl,rfl,h0⟩,cG.mk (Nat.le_refl 1)⟩,(bq [0,1,7,3,4,5,6] (obj:=by(repeat' (first|exact af.nil|refine dV hc0 hc1 rfl rfl rfl ?_|refine aN rfl rfl ?_|refine aN (aX ..) rfl ?_|refine oz ?_));first|done|fail))⟩
 ·rename_i h0;have hp1:min pics.length 5-0=np:=by rw[<-hnp];unfold kQ;rw[if_neg (by omega)];omega
  rw[hp1]at hc
  (first|refine sH ?_|skip)
  exact⟨⟨.dead,0,c⟩,_,⟨.inl ⟨rfl,rfl,by omega⟩,hc⟩,(bq [0,1,2,3,4,5,6] (obj:=by(repeat' (first|exact af.nil|refine dV hc0 hc1 rfl rfl rfl ?_|refine aN rfl rfl ?_|refine aN (aX ..) rfl ?_|refine oz ?_));first|done|fail))⟩
 ·refine ⟨?_⟩;obtain⟨X,j,c'⟩:=s;obtain⟨hXj,hcs⟩:=hs;have hj2:j=0\/j=2:=hXj.elim (fun h => .inl h.1) (fun h => .inr h.1)
  have hX:b9 X:=by
   rcases hXj with⟨_,e,_⟩|⟨_,e,_⟩
   ·have e:X = .dead:=e;subst e;infer_instance
   ·have e:X = .cells (fl eD [default]) 84 false false:=e;subst e;infer_instance
  have hobj:∃obP,Br obP eD (Aq pics)/\∀r,(ob0::ob1::X::r)[j]? = some obP:=by
   rcases hXj with⟨e1,_,e2⟩|⟨e1,e,e2⟩
   ·have e1:j=0:=e1;subst e1;exact⟨ob0,by unfold Aq;rw[if_neg (by omega)];exact hr0,fun _=>rfl⟩
   ·have e1:j=2:=e1;have e:X = .cells (fl eD [default]) 84 false false:=e;subst e1 e;exact⟨_,by unfold Aq;rw[if_pos e2];exact⟨fun _=>⟨_,false,false,rfl⟩,inferInstance⟩,fun _=>rfl⟩
  obtain⟨obP,hrP,hjo⟩:=hobj;have hcj:∀n,c'.ok (n+3):=fun n=>hcs.ok (by rcases hj2 with h|h<;>omega)
  have hk9:c'.ok 9:=hcj 6;have hcs:cG c' j 0 np:=hcs;have hpl:=I1 pics;have hpat:=LR pics;rw[hnp]at hpl
  obtain⟨all,hall⟩:∃n:Nat,(G.cols*G.rows).toNat=n:=⟨_,rfl⟩
  have hGd:1<=G.cols/\G.cols<=3/\1<=G.rows/\G.rows<=3:=by
   rw[<-hG];refine⟨?_,?_,?_,?_⟩
   ·show 1<=1+(eQ h).cols%3;omega
   ·show 1+(eQ h).cols%3<=3;omega
   ·show 1<=1+(eQ h).rows%3;omega
   ·show 1+(eQ h).rows%3<=3;omega
  obtain⟨gc0,gc1,gr0,gr1⟩:=hGd
  have hcr:1<=G.cols*G.rows/\G.cols*G.rows<=9:=by
   have hc:G.cols=1\/G.cols=2\/G.cols=3:=by omega
   have hr:G.rows=1\/G.rows=2\/G.rows=3:=by omega
   rcases hc with e|e|e<;>rcases hr with f|f|f<;>rw[e,f]<;>decide
  have hall2:(all:Int)=G.cols*G.rows:=by omega
  obtain⟨ps,hps⟩:∃f:Nat->List Pc,AM l all pics=f:=⟨_,rfl⟩
  have hpl2:∀n,(ps n).length=n:=fun n=>by rw[<-hps];exact kb l all pics n
  have hwl:∀n,(fg 0 (ps n)).length=wide (ps n):=fun n=>qn _ _
  have hp0:ps 0 = []:=by rw[<-hps];rfl
  have hok1:∀n,∀c∈fl m_ (eU 0 (ps n)),c.iF (wide (ps n))=true:=fun n=>Ao _ _ _ (by omega)
  refine WX.cj rfl ?_;refine WX.ghost rfl ?_
  repeat' (first|refine zz ?_|refine zx (fun _=>?_) (fun _=>?_)|fail)
  refine WX.bQ (σ:=Nat) (fun i=>[(1,.one (.ptr 3 0)),(2,.one (.ptr 4 0)),(3,.one (.ptr 5 0)),(4,.one (.ptr 6 0)),(44,.one c'),(45,.one (.int .i64 (np:Nat))),(6,.one (.int .i64 ((i*all:Nat):Int))),(46,.one (.int .i64 (i:Nat)))]) (fun i=>[ob0,ob1,X,Dj h c0 c1,.cells (fh wH .nils) 36 false false,.cells (gV G) 26 false false,.cells (fh G (eY 7 i 5)) 36 false false,bz 87 ((fl m_ (eU 0 (ps i))).map (·.self 8)),.late (fg 0 (ps i))]) (fun i=>i<=np) (fun i=>np-i) 0 (Nat.zero_le _) (fun i _=>by have hz:=hok1 i;exact(stM (objs:=by repeat' (first|exact aq.nil|refine aq.flat ?_|refine aq.cons (lf hc0 hc1 rfl) ?_|refine aq.cons (bW trivial) ?_|refine aq.cons (bW (aJ (Nat.le_of_ble_eq_true rfl))) ?_|refine aq.cons (iQ (fm (by assumption) (Nat.le_of_ble_eq_true rfl))) ?_|refine aq.cons (by first|(simp[aj.br,XC.ok,aJ];done)|(simp[aj.br,XC.ok,aJ, *];done)) ?_)))) (bq [0,1,2,3,4,5,6,7,8] (obj:=by(repeat' (first|exact af.nil|refine dV hc0 hc1 rfl rfl rfl ?_|refine aN rfl rfl ?_|refine aN (aX ..) rfl ?_|refine af.flat (by rw[hp0];rfl) ?_|refine af.cons (by rw[hp0];rfl) ?_|refine oz ?_));first|done|fail) (reg:=by(repeat' (first|exact ae.nil|refine ae.sl rfl (by assumption) (by rcases hj2 with h|h<;>rw[h]<;>rfl) ?_|refine ae.flat (by rw[Nat.zero_mul];rfl) ?_|refine rz ?_|refine ae.sl rfl (by assumption) rfl ?_));first|done|fail)) ?_;intro i hi ih;have hz1:=hok1 i
  by_cases hlt:i<np
  ·have hpr : jP (pics.getD i default):=by
    by_cases hip:i<pics.length
    ·exact hpp i hip
    ·rw[List.getD_eq_getElem?_getD,List.getElem?_eq_none (by omega)];exact⟨by show(0:Int)<=0/\(0:Int)<=255;omega,by show(0:Int)<=0/\(0:Int)<=255;omega⟩
   have hnx0:ps (i+1)=ps i++[FC l all i (pics.getD i default)]:=by rw[<-hps];rfl
   have hPe:(Aq pics).getD i default=pics.getD i default:=hpat i
   obtain⟨P,hP⟩:∃P,pics.getD i default=P:=⟨_,rfl⟩
   rw[hP]at hpr hnx0 hPe;obtain⟨pi,pd,pq,pm⟩:=P;obtain⟨⟨q0,q1⟩,⟨m0,m1⟩⟩:=hpr
   obtain⟨I,hI⟩:∃I,(pi&&decide (0<i))=I:=⟨_,rfl⟩
   obtain⟨D,hD⟩:∃D,(I&&pd)=D:=⟨_,rfl⟩
   have q0:0<=pq:=q0;have q1:pq<=255:=q1;have m0:0<=pm:=m0;have m1:pm<=255:=m1
   obtain⟨M,hM⟩:∃M:Nat,(1+pm%5).toNat=M:=⟨_,rfl⟩
   have hnx:ps (i+1)=ps i++[⟨⟨(i:Nat),I,D,1+pq%31⟩,(gy l I (1+pq%31) M all (i*all) all).1⟩]:=by rw[hnx0,<-hD,<-hI,<-hM];rfl
   repeat' (first
    |(refine qz ?_;first
     |refine nC (zs:=eD default) (hz:=MU) ?_
     |refine nC (zs:=sf ⟨0,false,false,0⟩ .nils) (hz:=rZ) ?_
     |refine Oc (enc:=eD) ?_ (hi:=hjo _))
    |refine gJ 12 ?_|refine zz ?_|refine zx (fun _=>?_) (fun _=>?_)|fail)
   refine⟨?_⟩;rw[hPe];refine WX.z8 12 (σ:=Unit) (fun _=>[(1,.one (.ptr 3 0)),(2,.one (.ptr 4 0)),(3,.one (.ptr 5 0)),(4,.one (.ptr 6 0)),(44,.one c'),(45,.one (.int .i64 (np:Nat))),(46,.one (.int .i64 (i:Nat))),(6,.one (.int .i64 ((i*all:Nat):Int))),(7,.one (.int .i64 (i:Nat))),(8,.one (.ptr 9 0)),(9,.one (.ptr 10 0))]) (fun _=>[ob0,ob1,X,Dj h c0 c1,.cells (fh wH .nils) 36 false false,.cells (gV G) 26 false false,.cells (fh G (eY 7 i 5)) 36 false false,bz 87 ((fl m_ (eU 0 (ps i))).map (·.self 8)),.late (fg 0 (ps i)),.cells (eD ⟨pi,pd,pq,pm⟩) 84 false false,.cells (sf ⟨(i:Nat),I,false,0⟩ .nils) 87 false false]) (fun _=>True) (fun _ _=>by have hk11:c'.ok 11:=hcj 8;exact(stM (objs:=by repeat' (first|exact aq.nil|refine aq.flat ?_|refine aq.cons (lf hc0 hc1 rfl) ?_|refine aq.cons (bW trivial) ?_|refine aq.cons (bW (aJ (Nat.le_of_ble_eq_true rfl))) ?_|refine aq.cons (iQ (fm (by assumption) (Nat.le_of_ble_eq_true rfl))) ?_|refine aq.cons (by first|(simp[aj.br,XC.ok,aJ];done)|(simp[aj.br,XC.ok,aJ, *];done)) ?_)))) ?_ (fun _ _=>q9.out ?_)
   ·cases pi with
    | false=>
      obtain rfl:I=false:=hI.symm
      repeat' (first|refine zz ?_|refine zx (fun _=>?_) (fun _=>?_)|fail)
      (first|refine sH ?_|skip)
      exact⟨(),_,trivial,(bq [0,1,2,3,4,5,6,7,8,9,10] (obj:=by(repeat' (first|exact af.nil|refine dV hc0 hc1 rfl rfl rfl ?_|refine aN rfl rfl ?_|refine aN (aX ..) rfl ?_|refine dH (by assumption) rfl rfl ?_|refine oz ?_));first|done|fail) (reg:=by(repeat' (first|exact ae.nil|refine ae.sl rfl (by assumption) (by rcases hj2 with h|h<;>rw[h]<;>rfl) ?_|refine rz ?_|refine ae.sl rfl (by assumption) rfl ?_));first|done|fail))⟩
    | true=>
      repeat' (first|refine zz ?_|refine zx (fun _=>?_) (fun _=>?_)|fail)
      ·rename_i h0;obtain rfl:I=true:=by rw[<-hI,decide_eq_true (show 0<i by omega)];rfl
       (first|refine sH ?_|skip)
       exact⟨(),_,trivial,(bq [0,1,2,3,4,5,6,7,8,9,10] (obj:=by(repeat' (first|exact af.nil|refine dV hc0 hc1 rfl rfl rfl ?_|refine aN rfl rfl ?_|refine aN (aX ..) rfl ?_|refine dH (by assumption) rfl rfl ?_|refine oz ?_));first|done|fail) (reg:=by(repeat' (first|exact ae.nil|refine ae.sl rfl (by assumption) (by rcases hj2 with h|h<;>rw[h]<;>rfl) ?_|refine rz ?_|refine ae.sl rfl (by assumption) rfl ?_));first|done|fail))⟩
      ·rename_i h0;obtain rfl:I=false:=by rw[<-hI,decide_eq_false (show¬0<i by omega)];rfl
       (first|refine sH ?_|skip)
       exact⟨(),_,trivial,(bq [0,1,2,3,4,5,6,7,8,9,10] (obj:=by(repeat' (first|exact af.nil|refine dV hc0 hc1 rfl rfl rfl ?_|refine aN rfl rfl ?_|refine aN (aX ..) rfl ?_|refine dH (by assumption) rfl rfl ?_|refine oz ?_));first|done|fail) (reg:=by(repeat' (first|exact ae.nil|refine ae.sl rfl (by assumption) (by rcases hj2 with h|h<;>rw[h]<;>rfl) ?_|refine rz ?_|refine ae.sl rfl (by assumption) rfl ?_));first|done|fail))⟩
   refine⟨?_⟩;refine WX.z8 13 (σ:=Unit) (fun _=>[(1,.one (.ptr 3 0)),(2,.one (.ptr 4 0)),(3,.one (.ptr 5 0)),(4,.one (.ptr 6 0)),(44,.one c'),(45,.one (.int .i64 (np:Nat))),(46,.one (.int .i64 (i:Nat))),(6,.one (.int .i64 ((i*all:Nat):Int))),(8,.one (.ptr 9 0)),(9,.one (.ptr 10 0))]) (fun _=>[ob0,ob1,X,Dj h c0 c1,.cells (fh wH .nils) 36 false false,.cells (gV G) 26 false false,.cells (fh G (eY 7 i 5)) 36 false false,bz 87 ((fl m_ (eU 0 (ps i))).map (·.self 8)),.late (fg 0 (ps i)),.cells (eD ⟨pi,pd,pq,pm⟩) 84 false false,.cells (sf ⟨(i:Nat),I,D,1+pq%31⟩ .nils) 87 false false]) (fun _=>True) (fun _ _=>by have hk11:c'.ok 11:=hcj 8;exact(stM (objs:=by repeat' (first|exact aq.nil|refine aq.flat ?_|refine aq.cons (lf hc0 hc1 rfl) ?_|refine aq.cons (bW trivial) ?_|refine aq.cons (bW (aJ (Nat.le_of_ble_eq_true rfl))) ?_|refine aq.cons (iQ (fm (by assumption) (Nat.le_of_ble_eq_true rfl))) ?_|refine aq.cons (by first|(simp[aj.br,XC.ok,aJ];done)|(simp[aj.br,XC.ok,aJ, *];done)) ?_)))) ?_ (fun _ _=>q9.out ?_)
   ·cases I with
    | false=>
      obtain rfl:D=false:=hD.symm
      repeat' (first|refine zz ?_|refine zx (fun _=>?_) (fun _=>?_)|fail)
      (first|refine sH ?_|skip)
      exact⟨(),_,trivial,(bq [0,1,2,3,4,5,6,7,8,9,10] (obj:=by(repeat' (first|exact af.nil|refine dV hc0 hc1 rfl rfl rfl ?_|refine aN rfl rfl ?_|refine aN (aX ..) rfl ?_|refine dH (by assumption) rfl rfl ?_|refine oz ?_));first|done|fail) (reg:=by(repeat' (first|exact ae.nil|refine ae.sl rfl (by assumption) (by rcases hj2 with h|h<;>rw[h]<;>rfl) ?_|refine rz ?_|refine ae.sl rfl (by assumption) rfl ?_));first|done|fail))⟩
    | true=>
      obtain rfl:D=pd:=hD.symm
      repeat' (first|refine zz ?_|refine zx (fun _=>?_) (fun _=>?_)|fail)
      (first|refine sH ?_|skip)
      exact⟨(),_,trivial,(bq [0,1,2,3,4,5,6,7,8,9,10] (obj:=by(repeat' (first|exact af.nil|refine dV hc0 hc1 rfl rfl rfl ?_|refine aN rfl rfl ?_|refine aN (aX ..) rfl ?_|refine dH (by assumption) rfl rfl ?_|refine oz ?_));first|done|fail) (reg:=by(repeat' (first|exact ae.nil|refine ae.sl rfl (by assumption) (by rcases hj2 with h|h<;>rw[h]<;>rfl) ?_|refine rz ?_|refine ae.sl rfl (by assumption) rfl ?_));first|done|fail))⟩
   refine⟨?_⟩
   obtain⟨Q,hQ⟩:∃Q,1+pq%31=Q:=⟨_,rfl⟩
   have hQr:1<=Q/\Q<=31:=by omega
   have hMr:1<=M/\M<=5:=by omega
   rw[hQ]at hnx ⊢;have hL0:fg 0 (ps i)++fI (gy l I Q M all (i*all) 0).1=fg 0 (ps i):=List.append_nil _;have hgok:=BR hll I hQr hMr all (i*all);have h45:(i+1)*all<=45:=Nat.le_trans (Nat.mul_le_mul (show i+1<=5 by omega) (show all<=9 by omega)) (by decide);rw[Nat.add_mul,Nat.one_mul]at h45;rw[<-hL0];refine WX.cj rfl ?_
   repeat' (first
    |(refine qz ?_;first
     |refine ld (c := .int .i64 G.cols) ?_
     |refine ld (c := .int .i64 G.rows) ?_)
    |refine zz ?_|refine zx (fun _=>?_) (fun _=>?_)|fail)
   refine WX.bQ (σ:=Nat) (fun t=>[(1,.one (.ptr 3 0)),(2,.one (.ptr 4 0)),(3,.one (.ptr 5 0)),(4,.one (.ptr 6 0)),(44,.one c'),(45,.one (.int .i64 (np:Nat))),(46,.one (.int .i64 (i:Nat))),(8,.one (.ptr 9 0)),(9,.one (.ptr 10 0)),(10,.one (.int .i64 (G.cols*G.rows))),(6,.one (.int .i64 ((i*all+(gy l I Q M all (i*all) t).2:Nat):Int))),(11,.one (.int .i64 ((gy l I Q M all (i*all) t).2:Nat)))]) (fun t=>[ob0,ob1,X,Dj h c0 c1,.cells (fh wH .nils) 36 false false,.cells (gV G) 26 false false,.cells (fh G (eY 7 i 5)) 36 false false,bz 87 ((fl m_ (eU 0 (ps i))).map (·.self 8)),.late (fg 0 (ps i)++fI (gy l I Q M all (i*all) t).1),.cells (eD ⟨pi,pd,pq,pm⟩) 84 false false,.cells (sf ⟨(i:Nat),I,D,Q⟩ (eY 11 (gy l I Q M all (i*all) t).1.length 2)) 87 false false,bz 90 ((fl oP (f8 (wide (ps i)) (gy l I Q M all (i*all) t).1)).map (·.self 8))]) (fun t=>t<=(gy l I Q M all (i*all) t).2) (fun t=>all-(gy l I Q M all (i*all) t).2) 0 (Nat.zero_le _) (fun t _=>by have hk12:c'.ok 12:=hcj 9;have hz2:∀c∈fl oP (f8 (wide (ps i)) (gy l I Q M all (i*all) t).1),c.iF (wide (ps i)+(gy l I Q M all (i*all) t).1.length)=true:=qh _ _ _ (by omega);exact(stM (objs:=by repeat' (first|exact aq.nil|refine aq.flat ?_|refine aq.cons (lf hc0 hc1 rfl) ?_|refine aq.cons (bW trivial) ?_|refine aq.cons (bW (aJ (Nat.le_of_ble_eq_true rfl))) ?_|refine aq.cons (iQ (fm (by assumption) (Nat.le_of_ble_eq_true rfl))) ?_|refine aq.cons (by first|(simp[aj.br,XC.ok,aJ];done)|(simp[aj.br,XC.ok,aJ, *];done)) ?_)))) (bq [0,1,2,3,4,5,6,7,8,9,10,11] (obj:=by(repeat' (first|exact af.nil|refine dV hc0 hc1 rfl rfl rfl ?_|refine aN rfl rfl ?_|refine aN (aX ..) rfl ?_|refine dH (by assumption) rfl rfl ?_|refine oz ?_));first|done|fail) (reg:=by(repeat' (first|exact ae.nil|refine ae.sl rfl (by assumption) (by rcases hj2 with h|h<;>rw[h]<;>rfl) ?_|refine rz ?_|refine ae.sl rfl (by assumption) rfl ?_));first|done|fail)) ?_;intro t ht ih2;obtain⟨k1,k2,k3,k4⟩:=hgok t;have hstop:=zH (l:=l) (inter:=I) (qp:=Q) (many:=M) (all:=all) (n0:=i*all) (j:=t);have hnxt:gy l I Q M all (i*all) (t+1)=if(gy l I Q M all (i*all) t).2<all then((gy l I Q M all (i*all) t).1++[⟨((gy l I Q M all (i*all) t).2:Nat),(g_ l I Q (i*all+(gy l I Q M all (i*all) t).2) (min M (all-(gy l I Q M all (i*all) t).2))).1⟩],(gy l I Q M all (i*all) t).2+min M (all-(gy l I Q M all (i*all) t).2))else gy l I Q M all (i*all) t:=rfl
   obtain⟨gs,hgs⟩:∃gs,(gy l I Q M all (i*all) t).1=gs:=⟨_,rfl⟩
   obtain⟨F,hF⟩:∃F,(gy l I Q M all (i*all) t).2=F:=⟨_,rfl⟩
   rw[hgs,hF]at k1 k4 hnxt;rw[hF]at ht k2 k3 hstop;rw[hgs,hF];have hz2:∀c∈fl oP (f8 (wide (ps i)) gs),c.iF (wide (ps i)+gs.length)=true:=qh _ _ _ (by omega);have hz1m:∀c∈fl m_ (eU 0 (ps i)),c.iF (wide (ps i)+gs.length)=true:=fun c hc=>XC.nQ (by omega) (hz1 c hc)
   have hLl:(fg 0 (ps i)++fI gs).length=wide (ps i)+gs.length:=by rw[List.length_append,hwl];simp[fI]
   have hgl:(fl oP (f8 (wide (ps i)) gs)).length=gs.length*2:=by rw[ue,tV]
   by_cases hlt2:F<all
   ·rw [if_pos hlt2]at hnxt
    obtain⟨n,hn⟩:∃n,min M (all-F)=n:=⟨_,rfl⟩
    rw[hn]at hnxt;have hnr:1<=n/\n<=5/\F+n<=all:=by omega
    have hn2:min (1+pm%5) (G.cols*G.rows-(F:Nat))=(n:Nat):=by omega
    obtain⟨grp,hgrp⟩:∃g:Nat->List Mb×Int,g_ l I Q (i*all+F)=g:=⟨_,rfl⟩
    have hgrl:∀k,(grp k).1.length=k:=fun k=>by rw[<-hgrp];exact qi l I Q _ k
    have hgro:=x7 hll I hQr (i*all+F);have hgr0:grp 0=([],Q):=by rw[<-hgrp];rfl
    have hgrs:∀k,grp (k+1)=((grp k).1++[B1 l I (grp k).2 (i*all+F+k)],(B1 l I (grp k).2 (i*all+F+k)).qp):=fun k=>by rw[<-hgrp];rfl
    rw[hgrp]at hgro hnxt
    repeat' (first
     |(refine qz ?_;first
      |refine nC (zs:=x6 0 .nils) (hz:=vM) ?_
      |refine ld (c := .int .i64 Q) ?_)
     |refine zz ?_|refine zx (fun _=>?_) (fun _=>?_)|fail)
    refine WX.cj rfl ?_;refine WX.bQ (σ:=Nat) (fun k=>[(1,.one (.ptr 3 0)),(2,.one (.ptr 4 0)),(3,.one (.ptr 5 0)),(4,.one (.ptr 6 0)),(44,.one c'),(45,.one (.int .i64 (np:Nat))),(46,.one (.int .i64 (i:Nat))),(8,.one (.ptr 9 0)),(9,.one (.ptr 10 0)),(10,.one (.int .i64 (G.cols*G.rows))),(11,.one (.int .i64 (F:Nat))),(12,.one (.int .i64 (n:Nat))),(13,.one (.ptr 12 0)),(100,.one (.int .i64 (n:Nat))),(6,.one (.int .i64 ((i*all+F+k:Nat):Int))),(14,.one (.int .i64 (grp k).2)),(101,.one (.int .i64 (k:Nat)))]) (fun k=>[ob0,ob1,X,Dj h c0 c1,.cells (fh wH .nils) 36 false false,.cells (gV G) 26 false false,.cells (fh G (eY 7 i 5)) 36 false false,bz 87 ((fl m_ (eU 0 (ps i))).map (·.self 8)),.late (fg 0 (ps i)++fI gs),.cells (eD ⟨pi,pd,pq,pm⟩) 84 false false,.cells (sf ⟨(i:Nat),I,D,Q⟩ (eY 11 gs.length 2)) 87 false false,bz 90 ((fl oP (f8 (wide (ps i)) gs)).map (·.self 8)),.cells (x6 (F:Nat) (eY 13 k 391)) 90 false false,bz 107 (fl mC (grp k).1)]) (fun k=>k<=n) (fun k=>n-k) 0 (Nat.zero_le _) (fun k _=>by have hk14:c'.ok 14:=hcj 11;exact(stM (objs:=by repeat' (first|exact aq.nil|refine aq.flat ?_|refine aq.cons (lf hc0 hc1 rfl) ?_|refine aq.cons (bW trivial) ?_|refine aq.cons (bW (aJ (Nat.le_of_ble_eq_true rfl))) ?_|refine aq.cons (iQ (fm (by assumption) (Nat.le_of_ble_eq_true rfl))) ?_|refine aq.cons (by first|(simp[aj.br,XC.ok,aJ];done)|(simp[aj.br,XC.ok,aJ, *];done)) ?_)))) (bq [0,1,2,3,4,5,6,7,8,9,10,11,12,13] (obj:=by(repeat' (first|exact af.nil|refine dV hc0 hc1 rfl rfl rfl ?_|refine aN rfl rfl ?_|refine aN (aX ..) rfl ?_|refine dH (by assumption) rfl rfl ?_|refine af.flat (by rw[hgr0];rfl) ?_|refine oz ?_));first|done|fail) (reg:=by(repeat' (first|exact ae.nil|refine ae.sl rfl (by assumption) (by rcases hj2 with h|h<;>rw[h]<;>rfl) ?_|refine ae.flat (by rw[<-hn2];rfl) ?_|refine ae.flat (by rw[hgr0];rfl) ?_|refine rz ?_|refine ae.sl rfl (by assumption) rfl ?_));first|done|fail)) ?_;intro k hk ih3;obtain⟨-,o2,-⟩:=hgro k;have hgk:=hgrl k;have hgs1:=hgrs k
    obtain⟨ms,hms⟩:∃x,(grp k).1=x:=⟨_,rfl⟩
    obtain⟨qp,hqp⟩:∃x,(grp k).2=x:=⟨_,rfl⟩
    rw[hms]at hgk hgs1 ⊢;rw[hqp]at o2 hgs1 ⊢
    by_cases hlt3:k<n
    ·obtain⟨at_,hat⟩:∃a,i*all+F+k=a:=⟨_,rfl⟩
     rw[hat]at hgs1 ⊢;have hat2:at_<=45:=by omega
     have hel:=AG hll at_
     obtain⟨el,hele⟩:∃e,v7 l at_=e:=⟨_,rfl⟩
     rw[hele]at hel
     obtain⟨mm,hmm⟩:∃m,nR el I qp=m:=⟨_,rfl⟩
     have hm1:B1 l I qp at_ = {mm with edge:=mm.edge&&!el.great}:=by unfold B1;rw[hele,hmm]
     rw[hm1]at hgs1;obtain⟨kd,mq,mv,me,ml⟩:=mm
     obtain⟨ed,hed⟩:∃e,(me&&!el.great)=e:=⟨_,rfl⟩
     rw[hed]at hgs1;have hatl:0<l.length->at_%l.length<l.length:=fun h=>Nat.mod_lt _ h
     repeat' (first
      |(refine qz ?_;first
       |refine nC (zs:=th Sf) (hz:=PM) ?_
       |refine ld (c:=c1) ?_ (hc:=Dg h c0 c1)
       |refine Oc (enc:=th) ?_)
      |refine WX.ur 23 (σ:=Unit) (fun _=>[(1,.one (.ptr 3 0)),(2,.one (.ptr 4 0)),(3,.one (.ptr 5 0)),(4,.one (.ptr 6 0)),(44,.one c'),(45,.one (.int .i64 (np:Nat))),(46,.one (.int .i64 (i:Nat))),(8,.one (.ptr 9 0)),(9,.one (.ptr 10 0)),(10,.one (.int .i64 (G.cols*G.rows))),(11,.one (.int .i64 (F:Nat))),(12,.one (.int .i64 (n:Nat))),(13,.one (.ptr 12 0)),(100,.one (.int .i64 (n:Nat))),(14,.one (.int .i64 qp)),(101,.one (.int .i64 (k:Nat))),(6,.one (.int .i64 (at_:Nat))),(15,.one (.ptr 14 0))]) (fun _=>[ob0,ob1,X,Dj h c0 c1,.cells (fh wH .nils) 36 false false,.cells (gV G) 26 false false,.cells (fh G (eY 7 i 5)) 36 false false,bz 87 ((fl m_ (eU 0 (ps i))).map (·.self 8)),.late (fg 0 (ps i)++fI gs),.cells (eD ⟨pi,pd,pq,pm⟩) 84 false false,.cells (sf ⟨(i:Nat),I,D,Q⟩ (eY 11 gs.length 2)) 87 false false,bz 90 ((fl oP (f8 (wide (ps i)) gs)).map (·.self 8)),.cells (x6 (F:Nat) (eY 13 k 391)) 90 false false,bz 107 (fl mC ms),.cells (th el) 99 false false]) (fun _=>True) (fun _ _=>by have hk15:c'.ok 15:=hcj 12;exact(stM (objs:=by repeat' (first|exact aq.nil|refine aq.flat ?_|refine aq.cons (lf hc0 hc1 rfl) ?_|refine aq.cons (bW trivial) ?_|refine aq.cons (bW (aJ (Nat.le_of_ble_eq_true rfl))) ?_|refine aq.cons (iQ (fm (by assumption) (Nat.le_of_ble_eq_true rfl))) ?_|refine aq.cons (by first|(simp[aj.br,XC.ok,aJ];done)|(simp[aj.br,XC.ok,aJ, *];done)) ?_)))) ?_ (fun _ _=>q9.out ?_)|refine zz ?_|refine zx (fun _=>?_) (fun _=>?_)|fail)
     ·rename_i h0
      have hee:l.getD ((at_:Int)%(l.length:Nat)).toNat default=el:=by
       rw[<-hele];unfold v7;rw[if_neg (by omega)];rfl
      (first|refine sH ?_|skip)
      exact⟨(),_,trivial,(bq [0,1,2,3,4,5,6,7,8,9,10,11,12,13,14] (obj:=by(repeat' (first|exact af.nil|refine dV hc0 hc1 rfl rfl rfl ?_|refine aN rfl rfl ?_|refine aN (aX ..) rfl ?_|refine dH (by assumption) rfl rfl ?_|refine af.flat (by rw[<-hee];rfl) ?_|refine oz ?_));first|done|fail) (reg:=by(repeat' (first|exact ae.nil|refine ae.sl rfl (by assumption) (by rcases hj2 with h|h<;>rw[h]<;>rfl) ?_|refine rz ?_|refine ae.sl rfl (by assumption) rfl ?_));first|done|fail))⟩
     ·rename_i h0
      have hee:el=⟨(at_:Nat),0,⟨fun _=>0,fun _=>0,false⟩,false,fun _=>0,0,false⟩:=by
       rw[<-hele];unfold v7 SF;rw[if_pos (by omega),Nat.mod_eq_of_lt (by omega)]
      (first|refine sH ?_|skip)
      exact⟨(),_,trivial,(bq [0,1,2,3,4,5,6,7,8,9,10,11,12,13,14] (obj:=by(repeat' (first|exact af.nil|refine dV hc0 hc1 rfl rfl rfl ?_|refine aN rfl rfl ?_|refine aN (aX ..) rfl ?_|refine dH (by assumption) rfl rfl ?_|refine af.flat (by rw[hee];rfl) ?_|refine oz ?_));first|done|fail) (reg:=by(repeat' (first|exact ae.nil|refine ae.sl rfl (by assumption) (by rcases hj2 with h|h<;>rw[h]<;>rfl) ?_|refine rz ?_|refine ae.sl rfl (by assumption) rfl ?_));first|done|fail))⟩
     refine⟨?_⟩
     repeat' (first
      |(refine qz ?_;first
       |refine nC (zs:=mC y_) (hz:=oN) ?_
       |refine cl ?_ (hi:=by exact Oi hel o2 hmm rfl)
       |refine tk (cs:=mC ⟨kd,mq,mv,me,ml⟩) ?_ (hs1:=by rw[aY]) (hs2:=by rw[aY]))
      |refine gJ 27 ?_|refine zz ?_|refine zx (fun _=>?_) (fun _=>?_)|fail)
     refine⟨?_⟩;refine WX.z8 27 (σ:=Unit) (fun _=>[(1,.one (.ptr 3 0)),(2,.one (.ptr 4 0)),(3,.one (.ptr 5 0)),(4,.one (.ptr 6 0)),(44,.one c'),(45,.one (.int .i64 (np:Nat))),(46,.one (.int .i64 (i:Nat))),(8,.one (.ptr 9 0)),(9,.one (.ptr 10 0)),(10,.one (.int .i64 (G.cols*G.rows))),(11,.one (.int .i64 (F:Nat))),(12,.one (.int .i64 (n:Nat))),(13,.one (.ptr 12 0)),(100,.one (.int .i64 (n:Nat))),(14,.one (.int .i64 qp)),(101,.one (.int .i64 (k:Nat))),(6,.one (.int .i64 (at_+1:Nat))),(16,.one (.ptr 15 0))]) (fun _=>[ob0,ob1,X,Dj h c0 c1,.cells (fh wH .nils) 36 false false,.cells (gV G) 26 false false,.cells (fh G (eY 7 i 5)) 36 false false,bz 87 ((fl m_ (eU 0 (ps i))).map (·.self 8)),.late (fg 0 (ps i)++fI gs),.cells (eD ⟨pi,pd,pq,pm⟩) 84 false false,.cells (sf ⟨(i:Nat),I,D,Q⟩ (eY 11 gs.length 2)) 87 false false,bz 90 ((fl oP (f8 (wide (ps i)) gs)).map (·.self 8)),.cells (x6 (F:Nat) (eY 13 k 391)) 90 false false,bz 107 (fl mC ms),.cells (th el) 99 false false,.cells (mC ⟨kd,mq,mv,ed,ml⟩) 107 false false]) (fun _=>True) (fun _ _=>by have hk16:c'.ok 16:=hcj 13;exact(stM (objs:=by repeat' (first|exact aq.nil|refine aq.flat ?_|refine aq.cons (lf hc0 hc1 rfl) ?_|refine aq.cons (bW trivial) ?_|refine aq.cons (bW (aJ (Nat.le_of_ble_eq_true rfl))) ?_|refine aq.cons (iQ (fm (by assumption) (Nat.le_of_ble_eq_true rfl))) ?_|refine aq.cons (by first|(simp[aj.br,XC.ok,aJ];done)|(simp[aj.br,XC.ok,aJ, *];done)) ?_)))) ?_ (fun _ _=>q9.out ?_)
     ·cases me with
      | false=>
        obtain rfl:ed=false:=hed.symm
        repeat' (first
         |(refine qz ?_;first
          |refine st (c := .bool false) ?_ (hle:=by rw[aY];decide) (hv:=show _=mC ⟨kd,mq,mv,false,ml⟩from rfl))
         |refine zz ?_|refine zx (fun _=>?_) (fun _=>?_)|fail)
        (first|refine sH ?_|skip)
        exact⟨(),_,trivial,(bq [0,1,2,3,4,5,6,7,8,9,10,11,12,13,14,15] (obj:=by(repeat' (first|exact af.nil|refine dV hc0 hc1 rfl rfl rfl ?_|refine aN rfl rfl ?_|refine aN (aX ..) rfl ?_|refine dH (by assumption) rfl rfl ?_|refine oz ?_));first|done|fail) (reg:=by(repeat' (first|exact ae.nil|refine ae.sl rfl (by assumption) (by rcases hj2 with h|h<;>rw[h]<;>rfl) ?_|refine rz ?_|refine ae.sl rfl (by assumption) rfl ?_));first|done|fail))⟩
      | true=>
        obtain rfl:ed = !el.great:=hed.symm
        repeat' (first
         |(refine qz ?_;first
          |refine ld (c := .bool el.great) ?_
          |refine st (c := .bool (!el.great)) ?_ (hle:=by rw[aY];decide) (hv:=show _=mC ⟨kd,mq,mv,!el.great,ml⟩from rfl))
         |refine zz ?_|refine zx (fun _=>?_) (fun _=>?_)|fail)
        (first|refine sH ?_|skip)
        exact⟨(),_,trivial,(bq [0,1,2,3,4,5,6,7,8,9,10,11,12,13,14,15] (obj:=by(repeat' (first|exact af.nil|refine dV hc0 hc1 rfl rfl rfl ?_|refine aN rfl rfl ?_|refine aN (aX ..) rfl ?_|refine dH (by assumption) rfl rfl ?_|refine oz ?_));first|done|fail) (reg:=by(repeat' (first|exact ae.nil|refine ae.sl rfl (by assumption) (by rcases hj2 with h|h<;>rw[h]<;>rfl) ?_|refine rz ?_|refine ae.sl rfl (by assumption) rfl ?_));first|done|fail))⟩
     refine⟨?_⟩
     repeat' (first
      |(refine qz ?_;first
       |refine ld (c := .int .i64 mq) ?_
       |refine lI ?_ (hle:=by rw[aY])
       |refine tH (enc:=mC) (a:=⟨kd,mq,mv,ed,ml⟩) ?_
       |refine wi (enc:=mC) ?_)
      |refine zz ?_|refine zx (fun _=>?_) (fun _=>?_)|fail)
     exact ih3 (k+1) _ _ _ (bq [0,1,2,3,4,5,6,7,8,9,10,11,12,17] (obj:=by(repeat' (first|exact af.nil|refine dV hc0 hc1 rfl rfl rfl ?_|refine aN rfl rfl ?_|refine aN (aX ..) rfl ?_|refine dH (by assumption) rfl rfl ?_|refine af.flat (by rw[hgs1];rfl) ?_|refine oz ?_));first|done|fail) (reg:=by(repeat' (first|exact ae.nil|refine ae.sl rfl (by assumption) (by rcases hj2 with h|h<;>rw[h]<;>rfl) ?_|refine ae.flat (by rw[hgs1];rfl) ?_|refine ae.flat (by rw[<-Nat.add_assoc,hat];rfl) ?_|refine rz ?_|refine ae.sl rfl (by assumption) rfl ?_));first|done|fail)) (by omega) (by omega)
    ·obtain rfl:k=n:=by omega
     clear ih3
     have hLs:(fl mC ms).all XC.shut=true:=List.all_eq_true.2 fun c hc=>by
      obtain⟨x,_,hx⟩:=List.mem_flatMap.1 hc;exact List.all_eq_true.1 (jC x) c hx
     have hne:fl mC ms≠[]:=H0 fun e=>by rw[e]at hgk;simp at hgk;omega
     have hsl:bz 107 (fl mC ms) = .cells (fl mC ms) 107 true false:=bG hne;have hsc:eY 13 k 391 = .slice 13 0 k (.toEnd 391):=if_neg (by omega);have hml:(fl mC ms).length=k*391:=by rw[ue,hgk]
     have hnx3:gy l I Q M all (i*all) (t+1)=(gs++[⟨(F:Nat),ms⟩],F+k):=by rw[hnxt,hms]
     rw[hsl,hsc]
     repeat' (first|refine gJ 31 ?_|refine mT 31 ?_|refine zz ?_|refine zx (fun _=>?_) (fun _=>?_)|fail)
     refine⟨?_⟩;refine WX.tU (L:=fg 0 (ps i)++fI gs) (vs:=fl mC ms) 13 8 k (.toEnd 391) [(1,.one (.ptr 3 0)),(2,.one (.ptr 4 0)),(3,.one (.ptr 5 0)),(4,.one (.ptr 6 0)),(44,.one c'),(45,.one (.int .i64 (np:Nat))),(46,.one (.int .i64 (i:Nat))),(8,.one (.ptr 9 0)),(9,.one (.ptr 10 0)),(10,.one (.int .i64 (G.cols*G.rows))),(6,.one (.int .i64 ((i*all+F+k:Nat):Int))),(11,.one (.int .i64 (F:Nat))),(12,.one (.int .i64 (k:Nat))),(13,.one (.ptr 12 0))] [ob0,ob1,X,Dj h c0 c1,.cells (fh wH .nils) 36 false false,.cells (gV G) 26 false false,.cells (fh G (eY 7 i 5)) 36 false false,bz 87 ((fl m_ (eU 0 (ps i))).map (·.self 8)),.late (fg 0 (ps i)++fI gs++[fl mC ms]),.cells (eD ⟨pi,pd,pq,pm⟩) 84 false false,.cells (sf ⟨(i:Nat),I,D,Q⟩ (eY 11 gs.length 2)) 87 false false,bz 90 ((fl oP (f8 (wide (ps i)) gs)).map (·.self 8)),.cells (x6 (F:Nat) (.lsl 8 (wide (ps i)+gs.length) 0 k k 0)) 90 false false,.dead] (m:=wide (ps i)+gs.length) (NY ms _) (.inr ⟨391,rfl,by decide,by rw[hml];exact Nat.le_refl _⟩) hLl (hv:=FY hLs 8) (hH:=by repeat' (first|exact a_.nil|refine a_.ghost ?_|refine a_.flat rfl ?_|refine a_.cells rfl (dR.same (Di hc0 hc1 (by decide) (by decide))) ?_|refine a_.cells rfl (dR.same (jE trivial)) ?_|refine a_.cells rfl (dR.same (jE (tg (by decide)))) ?_|refine a_.bz rfl (gL (by assumption) _ _) ?_|refine a_.cells rfl (dR.same (by simp[XC.lA,tg])) ?_|refine a_.cells rfl (dR.cons (.same trivial) (.cons .zE (.same (fun _ h=>nomatch h)))) ?_|refine a_.cells rfl (dR.cons (.same trivial) (.cons (.same trivial) (.cons (.same trivial) (.cons (.same trivial) (.cons .zE (.same (fun _ h=>nomatch h))))))) ?_|refine a_.dead ?_)) (hR:=by repeat' (first|exact du.nil|refine du.flat rfl ?_|refine du.one rfl iT.zE ?_|refine du.one rfl (iT.same (cG.lA (by assumption) (by rcases hj2 with h|h<;>rw[h]<;>decide))) ?_|refine du.one rfl (iT.same (by first|trivial|(simp[XC.lA];done))) ?_)) (hok:=by have hk14:c'.ok 14:=hcj 11;exact(stM (objs:=by repeat' (first|exact aq.nil|refine aq.flat ?_|refine aq.cons (lf hc0 hc1 rfl) ?_|refine aq.cons (bW trivial) ?_|refine aq.cons (bW (aJ (Nat.le_of_ble_eq_true rfl))) ?_|refine aq.cons (iQ (fm (by assumption) (Nat.le_of_ble_eq_true rfl))) ?_|refine aq.cons (by first|(simp[aj.br,XC.ok,aJ];done)|(simp[aj.br,XC.ok,aJ, *];done)) ?_)))) (h:=?_);have hg1:(gy l I Q M all (i*all) (t+1)).1=gs++[⟨(F:Nat),ms⟩]:=by rw[hnx3]
     have hg2:(gy l I Q M all (i*all) (t+1)).2=F+k:=by rw[hnx3]
     have hg1l:(gy l I Q M all (i*all) (t+1)).1.length=gs.length+1:=by rw[hg1,List.length_append];rfl
     have hlate:fg 0 (ps i)++fI (gs++[⟨(F:Nat),ms⟩])=fg 0 (ps i)++fI gs++[fl mC ms]:=by
      unfold fI;rw[List.map_append,<-List.append_assoc];rfl
     have hgr:(fl oP (f8 (wide (ps i)) (gs++[⟨(F:Nat),ms⟩]))).map (·.self 8)=(fl oP (f8 (wide (ps i)) gs)).map (·.self 8)++x6 (F:Nat) (.lsl 8 (wide (ps i)+gs.length) 0 k k 0):=by
      rw[wx];unfold fl;rw[List.flatMap_append,List.map_append,<-hgk];rfl
     have hz3:∀c∈fl oP (f8 (wide (ps i)) (gy l I Q M all (i*all) (t+1)).1),c.iF (wide (ps i)+(gy l I Q M all (i*all) (t+1)).1.length)=true:=qh _ _ _ (Nat.le_refl _)
     repeat' (first
      |(refine qz ?_;first
       |refine vO (zs:=x6 0 .nils) (hz:=vM) ?_
       |refine P7 11 gs.length ((fl oP (f8 (wide (ps i)) gs)).map (·.self 8)) ?_ (hn:=by rw[List.length_map,hgl]))
      |refine zz ?_|refine zx (fun _=>?_) (fun _=>?_)|fail)
     exact ih2 (t+1) _ _ _ (bq [0,1,2,3,4,5,6,7,8,9,10,15] (obj:=by(repeat' (first|exact af.nil|refine dV hc0 hc1 rfl rfl rfl ?_|refine aN rfl rfl ?_|refine JI (aX ..) rfl ?_|refine dH hz1 rfl rfl ?_|refine dH hz3 (by rw[hg1,hgr];rfl) rfl ?_|refine af.flat (by rw[hg1,hlate];rfl) ?_|refine af.cons (by rw[hg1l];simp only[aj.aB,List.map_cons,List.map_nil,XC.aB,aX];exact rfl) ?_|refine oz ?_));first|done|fail) (reg:=by(repeat' (first|exact ae.nil|refine ae.sl rfl (by assumption) (by rcases hj2 with h|h<;>rw[h]<;>rfl) ?_|refine ae.flat (by rw[hg2,<-Nat.add_assoc];rfl) ?_|refine ae.flat (by rw[hg2];rfl) ?_|refine rz ?_|refine ae.sl rfl (by assumption) rfl ?_));first|done|fail)) (by rw[hg2];omega) (by rw[hg2,hF];omega)
   ·have hFa:F=all:=by omega
    have hga:(gy l I Q M all (i*all) all).1=gs:=by
     have:=hstop hFa (all-t);rw[show t+(all-t)=all by omega]at this;rw[this,hgs]
    clear ih2
    have hgn:gs.length≠0:=fun e=>by
     obtain rfl:=List.length_eq_zero_iff.1 e;have k1:(0:Int)=(F:Nat):=k1;omega
    have hsl2:bz 90 ((fl oP (f8 (wide (ps i)) gs)).map (·.self 8)) = .cells ((fl oP (f8 (wide (ps i)) gs)).map (·.self 8)) 90 true false:=bG fun e=>by
     have h2:((fl oP (f8 (wide (ps i)) gs)).map (·.self 8)).length=0:=by rw[e];rfl
     rw[List.length_map,hgl]at h2;omega
    have hsc2:eY 11 gs.length 2 = .slice 11 0 gs.length (.toEnd 2):=if_neg hgn;rw[hsl2,hsc2]
    repeat' (first|refine gJ 33 ?_|refine mT 33 ?_|refine zI 33 ?_|refine zz ?_|refine zx (fun _=>?_) (fun _=>?_)|fail)
    refine⟨?_⟩;refine WX.tU (L:=fg 0 (ps i)++fI gs) (vs:=fl oP (f8 (wide (ps i)) gs)) (us:=(fl oP (f8 (wide (ps i)) gs)).map (·.self 8)) 11 8 gs.length (.toEnd 2) [(1,.one (.ptr 3 0)),(2,.one (.ptr 4 0)),(3,.one (.ptr 5 0)),(4,.one (.ptr 6 0)),(44,.one c'),(45,.one (.int .i64 (np:Nat))),(46,.one (.int .i64 (i:Nat))),(6,.one (.int .i64 ((i*all+F:Nat):Int))),(9,.one (.ptr 10 0))] [ob0,ob1,X,Dj h c0 c1,.cells (fh wH .nils) 36 false false,.cells (gV G) 26 false false,.cells (fh G (eY 7 i 5)) 36 false false,bz 87 ((fl m_ (eU 0 (ps i))).map (·.self 8)),.late (fg 0 (ps i)++fI gs++[fl oP (f8 (wide (ps i)) gs)]),.cells (eD ⟨pi,pd,pq,pm⟩) 84 false false,.cells (sf ⟨(i:Nat),I,D,Q⟩ (.lsl 8 (wide (ps i)+gs.length) 0 gs.length gs.length 0)) 87 false false,.dead] (m:=wide (ps i)+gs.length) hz2 (.inr ⟨2,rfl,by decide,by rw[List.length_map,hgl];exact Nat.le_refl _⟩) hLl (hH:=by repeat' (first|exact a_.nil|refine a_.ghost ?_|refine a_.flat rfl ?_|refine a_.cells rfl (dR.same (Di hc0 hc1 (by decide) (by decide))) ?_|refine a_.cells rfl (dR.same (jE trivial)) ?_|refine a_.cells rfl (dR.same (jE (tg (by decide)))) ?_|refine a_.bz rfl (gL (by assumption) _ _) ?_|refine a_.cells rfl (dR.same (by simp[XC.lA,tg])) ?_|refine a_.cells rfl (dR.cons (.same trivial) (.cons .zE (.same (fun _ h=>nomatch h)))) ?_|refine a_.cells rfl (dR.cons (.same trivial) (.cons (.same trivial) (.cons (.same trivial) (.cons (.same trivial) (.cons .zE (.same (fun _ h=>nomatch h))))))) ?_|refine a_.dead ?_)) (hR:=by repeat' (first|exact du.nil|refine du.flat rfl ?_|refine du.one rfl iT.zE ?_|refine du.one rfl (iT.same (cG.lA (by assumption) (by rcases hj2 with h|h<;>rw[h]<;>decide))) ?_|refine du.one rfl (iT.same (by first|trivial|(simp[XC.lA];done))) ?_)) (hok:=by have hk12:c'.ok 12:=hcj 9;exact(stM (objs:=by repeat' (first|exact aq.nil|refine aq.flat ?_|refine aq.cons (lf hc0 hc1 rfl) ?_|refine aq.cons (bW trivial) ?_|refine aq.cons (bW (aJ (Nat.le_of_ble_eq_true rfl))) ?_|refine aq.cons (iQ (fm (by assumption) (Nat.le_of_ble_eq_true rfl))) ?_|refine aq.cons (by first|(simp[aj.br,XC.ok,aJ];done)|(simp[aj.br,XC.ok,aJ, *];done)) ?_)))) (h:=?_);rw[hga]at hnx
    have hpx:(fl m_ (eU 0 (ps (i+1)))).map (·.self 8)=(fl m_ (eU 0 (ps i))).map (·.self 8)++sf ⟨(i:Nat),I,D,Q⟩ (.lsl 8 (wide (ps i)+gs.length) 0 gs.length gs.length 0):=by
     rw[hnx,wX,Nat.zero_add];unfold fl;rw[List.flatMap_append,List.map_append];rfl
    have hlx:fg 0 (ps (i+1))=fg 0 (ps i)++fI gs++[fl oP (f8 (wide (ps i)) gs)]:=by
     rw[hnx,wN,Nat.zero_add,List.append_assoc];rfl
    have hz4:=hok1 (i+1);have hax:(i+1)*all=i*all+F:=by rw[Nat.add_mul,Nat.one_mul,hFa]
    repeat' (first
     |(refine qz ?_;first
      |refine ld (c:=eY 7 i 5) ?_ (hc:=yB _ _)
      |refine vO (zs:=sf ⟨0,false,false,0⟩ .nils) (hz:=rZ) ?_
      |refine P7 7 i ((fl m_ (eU 0 (ps i))).map (·.self 8)) ?_ (hn:=by rw[List.length_map,ue,qD,hpl2])
      |refine st ?_ (hle:=by rw[eo];decide) (hv:=Mu _ _ _))
     |refine zz ?_|refine zx (fun _=>?_) (fun _=>?_)|fail)
    exact ih (i+1) _ _ _ (bq [0,1,2,3,4,5,6,13,8] (obj:=by(repeat' (first|exact af.nil|refine dV hc0 hc1 rfl rfl rfl ?_|refine aN rfl rfl ?_|refine JI (aX ..) rfl ?_|refine dH hz4 (by rw[hpx];rfl) rfl ?_|refine af.flat (by rw[hlx];rfl) ?_|refine oz ?_));first|done|fail) (reg:=by(repeat' (first|exact ae.nil|refine ae.sl rfl (by assumption) (by rcases hj2 with h|h<;>rw[h]<;>rfl) ?_|refine ae.flat (by rw[hax];rfl) ?_|refine rz ?_|refine ae.sl rfl (by assumption) rfl ?_));first|done|fail)) (by omega) (by omega)
  ·obtain rfl:i=np:=by omega
   clear ih
   have hSF:(sL h pics l).ps=ps i:=by
    show AM l ((jh h).cols*(jh h).rows).toNat pics (kQ pics)=_;rw[hG,hall,hnp,hps]
   have hpl3:(fl m_ (eU 0 (ps i))).length=i*5:=by rw[ue,qD,hpl2]
   have hsl3:bz 87 ((fl m_ (eU 0 (ps i))).map (·.self 8)) = .cells ((fl m_ (eU 0 (ps i))).map (·.self 8)) 87 true false:=bG fun e=>by
    have h2:((fl m_ (eU 0 (ps i))).map (·.self 8)).length=0:=by rw[e];rfl
    rw[List.length_map,hpl3]at h2;omega
   have hsc3:eY 7 i 5 = .slice 7 0 i (.toEnd 5):=if_neg (by omega);have hl132:132=(fh G (.lsl 8 (wide (ps i)) 0 i i 0)).length:=(eo _ _).symm;rw[hsl3,hsc3,hSF,hG,hnp]
   repeat' (first|refine gJ 35 ?_|refine mT 35 ?_|refine zz ?_|refine zx (fun _=>?_) (fun _=>?_)|fail)
   refine⟨?_⟩;refine WX.tU (L:=fg 0 (ps i)) (vs:=fl m_ (eU 0 (ps i))) (us:=(fl m_ (eU 0 (ps i))).map (·.self 8)) 7 8 i (.toEnd 5) [(2,.one (.ptr 4 0)),(4,.one (.ptr 6 0))] [ob0,ob1,.dead,.dead,.cells (fh wH .nils) 36 false false,.dead,.cells (fh G (.lsl 8 (wide (ps i)) 0 i i 0)) 36 false false,.dead,.late (fg 0 (ps i)++[fl m_ (eU 0 (ps i))])] (m:=wide (ps i)) hz1 (.inr ⟨5,rfl,by decide,by rw[List.length_map,hpl3];exact Nat.le_refl _⟩) (hwl i) (hH:=by repeat' (first|exact a_.nil|refine a_.ghost ?_|refine a_.dead ?_|refine a_.flat rfl ?_|refine a_.cells rfl (dR.same (jE trivial)) ?_|refine a_.cells rfl (Mt _) ?_)) (hok:=(stM (objs:=by repeat' (first|exact aq.nil|refine aq.flat ?_|refine aq.cons (bW trivial) ?_|refine aq.cons (bW (show 8<_ from Nat.le_of_ble_eq_true rfl)) ?_|refine aq.cons trivial ?_)))) (h:=?_)
   repeat' (first
    |(refine qz ?_;first
     |refine lI ?_ (hle:=(eo _ _).symm)
     |refine tk (cs:=fh G (.lsl 8 (wide (ps i)) 0 i i 0)) ?_ (hs1:=(eo _ _).symm) (hs2:=(eo _ _).symm))
    |refine zz ?_|refine zx (fun _=>?_) (fun _=>?_)|fail)
   show aE _ _ _ _ _ _ _ _;refine kV [0,1,8] ?_ (hr:=f4.one rfl (.cell rfl rfl (cy hl132) .nil)) (hok:=rQ (show 2<3 by omega));exact(oD (c' := .lsl 8 (wide (ps i)) 0 i i 0) rfl).symm
end Go.Proofs.YthdciapjllppjaaGreat
namespace Go.Xm
variable [av]
variable {P:Program} {ops:Array Oper} {nt nI:Nat} {al:aL} {hs:ah} {o:Oper} {l:List Oper} {L:List aA} {K:List Ab->aL->ah->Prop} {d:Nat}
end Go.Xm
namespace Go.Proofs.YthdciapjllppjaaGreat
open Go.Xm
variable [av]
structure P3(ps:List (List Int)):Prop where
 many:1<=ps.length/\ps.length<=46
 pos:∀i,i<ps.length->1<=(ps.getD i []).length
 body:∀i,0<i->i<ps.length->23<=(ps.getD i []).length
 few:∀i,(ps.getD i []).length<=70000
 byte:∀i,aW (ps.getD i [])
theorem xd(B:List Bool)(hB:119<=B.length):∀k,k<=17->aW (pM B k)
 | 0,_=>jI
 | k+1,h=>by
   rw[pM];refine jH (xd B hB k (by omega)) (dt ?_ jI);unfold FZ;rw[pE (by omega)];have:=Nw B (7*k);omega
theorem B9{B:List Bool}(hB:119<=B.length){x y:List Int}(hx:aW x)(hy:aW y):aW (kN B x y):=
 jH (jH (jH (dt (by omega) (dt (by omega) (dt (by omega) (dt (by omega) jI)))) (xd B hB 17 (Nat.le_refl _))) hx) hy
theorem LU{h:Hd}{ps:List Pc}{q:List Int}(hq:q∈sg h ps):∃i,i<ps.length/\∃g∈(ps.getD i default).gs,q=DO h (ps.getD i default).ph g:=by
 unfold sg at hq;obtain⟨p,hp,hq⟩:=List.mem_flatMap.1 hq;obtain⟨i,hi,rfl⟩:=List.mem_iff_getElem.1 hp;unfold Oz at hq;obtain⟨g,hg,rfl⟩:=List.mem_map.1 hq;refine⟨i,hi,g,?_,?_⟩<;>rw[List.getD_eq_getElem?_getD,List.getElem?_eq_getElem hi,Option.getD_some]
 exact hg
theorem yj{s:vR}(hs:jR s){q:List Int}(hq:q∈sg s.hd s.ps):23<=q.length/\q.length<=70000/\aW q/\∃a b:Nat,fu q=((a:Int),(b:Int))/\1<=a/\a<=30000/\1<=b/\b<=30000/\q.length=21+a+b:=by
 obtain⟨i,hi,g,hg,rfl⟩:=LU hq;obtain⟨-,-,ba,bb,la,lb⟩:=Nm hs hi hg;have hl:(DO s.hd (s.ps.getD i default).ph g).length=21+(gd s.hd (s.ps.getD i default).ph g).1.length+(gd s.hd (s.ps.getD i default).ph g).2.length:=wW ..;refine⟨by omega,by omega,B9 (by rw[Rr,wJ];exact Nat.le_refl _) ba bb,_,_,Am (by omega) (by omega) _ _,la.1,la.2,lb.1,lb.2,hl⟩
theorem DP{h:Hd}{all:Nat}:∀{ps:List Pc},(∀p∈ps,p.gs.length<=all)->(sg h ps).length<=all*ps.length
 | [],_=>Nat.zero_le _
 | p::l,hp=>by
   have ih:=DP (h:=h) (ps:=l) fun p hp'=>hp p (List.mem_cons_of_mem _ hp')
   have h1:=hp p (List.mem_cons_self ..);have e:sg h (p::l)=Oz h p++sg h l:=rfl;have e2:(Oz h p).length=p.gs.length:=List.length_map ..;rw[e,List.length_append,e2,List.length_cons,Nat.mul_add];omega
theorem td{s:vR}{i:Nat}(h0:0<i)(hi:i<(fC s).length):(fC s).getD i []∈sg s.hd s.ps:=by
 cases i with
 | zero=>omega
 | succ i=>
   have hi:i<(sg s.hd s.ps).length:=by
    have:(fC s).length=(sg s.hd s.ps).length+1:=List.length_cons;omega
   show(sg s.hd s.ps).getD i []∈_;rw[List.getD_eq_getElem?_getD,List.getElem?_eq_getElem hi];exact List.getElem_mem hi
theorem I3{s:vR}(hs:jR s):P3 (fC s):=by
 have hm:=hs.ok.many;have hcr:=oE hs.ok;have hlen:(fC s).length=(sg s.hd s.ps).length+1:=List.length_cons
 have hl:(sg s.hd s.ps).length<=9*s.ps.length:=DP fun p hp=>by
  obtain⟨i,hi,rfl⟩:=List.mem_iff_getElem.1 hp;have:=(hs.ok.pics i hi).few;rw[List.getD_eq_getElem?_getD,List.getElem?_eq_getElem hi,Option.getD_some]at this;omega
 have hy:=DB s.hd
 have key:∀i,i<(fC s).length->1<=((fC s).getD i []).length/\((fC s).getD i []).length<=70000/\aW ((fC s).getD i []):=fun i hi=>by
  by_cases h0:i=0
  ·subst h0;exact⟨by show 1<=(KF s.hd).length;omega,by show(KF s.hd).length<=70000;omega,H5 _⟩
  ·have:=yj hs (td (by omega) hi);exact⟨by omega,this.2.1,this.2.2.1⟩
 have out:∀i,¬i<(fC s).length->(fC s).getD i [] = []:=fun i hi=>by
  rw[List.getD_eq_getElem?_getD,List.getElem?_eq_none (by omega)];rfl
 refine⟨by omega,fun i hi=>(key i hi).1,fun i h0 hi=>(yj hs (td h0 hi)).1,fun i=>?_,fun i=>?_⟩
 ·by_cases hi:i<(fC s).length
  ·exact(key i hi).2.1
  ·rw[out i hi];exact Nat.zero_le _
 ·by_cases hi:i<(fC s).length
  ·exact(key i hi).2.2
  ·rw[out i hi];exact jI
theorem Ca{s:vR}(hs:jR s){L:List (List XC)}{k n i:Nat}(hp:r6 L k s.ps)(hn:s.ps.length=n){ps:List (List Int)}(hps:fC s=ps){m:Nat}(hm:ps.length=m){B:List (List XC)}(hB:vY ps=B){HS:ah}(hi:HS[i]? = some (.late L)){N:Nat}(hN:HS.length=N){HS':ah}(hh:HS++[.late B]=HS')(hbd:Nat.blt HS'.length Mem.bound=true) :
 aA.Sound prog ⟨12,[.agg (fh s.hd (.lsl i k 0 n n 0))],HS,.tup [.one (.lsl N m 0 m m 0),.one (.int .i64 0)],HS',[i]⟩:=by
 subst hB;exact B_ hs hp hn hps hm hi hN hh hbd
theorem BC{h:Hd}{c0 c1:XC}{n:Nat}(h0:c0.ok n)(h1:c1.ok n):(XV.agg (rj h c0 c1)).br n:=fun x hx=>by
 rcases List.mem_append.1 (show x∈gV h++[c0,c1]from hx)with hx|hx
 ·exact XC.bh (List.all_eq_true.1 (eC h) x hx) n
 ·simp only[List.mem_cons,List.not_mem_nil,or_false]at hx
  rcases hx with rfl|rfl
  ·exact h0
  ·exact h1
theorem Dk{h:Hd}{c0 c1:XC}{τ : Nat->Nat}:(XV.agg (rj h c0 c1)).aB τ = .agg (rj h (c0.aB τ) (c1.aB τ)):=by
 simp only[rj,XV.aB,List.map_append,ql,List.map_cons,List.map_nil]
theorem xe{h:Hd}(hhr:oW h){pics:List sS}(hpp:∀j,j<pics.length->jP (pics.getD j default)){l:List Sm}(hll:∀j,j<l.length->iy (l.getD j default)){ob0 ob1:aj}(hr0:Br ob0 eD pics)(hr1:Br ob1 th l){i j:Nat}{c0 c1:XC}(hc0:cG c0 i 0 pics.length)(hc1:cG c1 j 0 l.length)(hn0:pics.length<=30)(hn1:l.length<=300){HS:ah}(hi:HS[i]? = some ob0)(hj:HS[j]? = some ob1)(hij:i≠j){s:vR}(hs:sL h pics l=s){w np:Nat}(hw:wide s.ps=w)(hnp:s.ps.length=np){B:List (List XC)}(hB:Fi s.ps=B){N:Nat}(hN:HS.length=N){HS':ah}(hh:HS++[.late B]=HS')(hbd:Nat.blt HS'.length Mem.bound=true) :
 aA.Sound prog ⟨11,[.agg (rj h c0 c1)],HS,.agg (fh s.hd (.lsl N w 0 np np 0)),HS',[i,j]⟩:=by
 have hnp2:kQ pics=np:=by rw[<-hnp,<-hs];exact(kb ..).symm
 subst hs hw hB hN;have hfo0:=hr0.flat;have hfo1:=hr1.flat;obtain⟨d0,k0,rfl⟩:=hc0.C_ 0 (nth [i,j]) rfl;obtain⟨d1,k1,rfl⟩:=hc1.C_ 1 (nth [i,j]) rfl;have hc:=Cw hhr hpp hll hr0 hr1 k0 k1 hn0 hn1;rw[hnp2]at hc;refine bp [i,j] [i,j] 1 hc (by simp[hij]) (.flat hi (.flat hj .nil)) (.flat (.flat .nil)) (.flat (.flat (.flat .nil))) rfl (.cons (BC (k0.ok (Nat.le_of_ble_eq_true rfl)) (k1.ok (Nat.le_of_ble_eq_true rfl))) .nil) (.cons Dk .nil) (rQ (show 2<3 by omega)) (oD rfl) (.flat (.flat (.flat .nil))) ?_ rfl (by simp only[bC];rw[aC hi,aC hj];exact hh) hbd (.inl rfl);simp only[fM];cases ob0.live<;>cases ob1.live<;>rfl
theorem zw(h:Hd):((eQ h).w=true->∀i,i<64->8<=(eQ h).a i/\8<=(eQ h).b i)/\((eQ h).w=false->∀i,i<64->(eQ h).a i=0/\(eQ h).b i=0):=by
 have:=(Ll h).1;exact⟨this.yes,this.no⟩
theorem AL{h:Hd}(hhr:oW h){pics:List sS}(hpp:∀j,j<pics.length->jP (pics.getD j default)){l:List Sm}(hll:∀j,j<l.length->iy (l.getD j default)):jR (sL h pics l):=by
 have hG:1<=(jh h).cols/\(jh h).cols<=3/\1<=(jh h).rows/\(jh h).rows<=3:=by
  have hfc:1<=(eQ h).cols/\(eQ h).cols<=8:=by show 1<=1+h.cols%2^3/\1+h.cols%2^3<=8;omega
  have hfr:1<=(eQ h).rows/\(eQ h).rows<=8:=by show 1<=1+h.rows%2^3/\1+h.rows%2^3<=8;omega
  refine⟨?_,?_,?_,?_⟩
  ·show 1<=1+(eQ h).cols%3;omega
  ·show 1+(eQ h).cols%3<=3;omega
  ·show 1<=1+(eQ h).rows%3;omega
  ·show 1+(eQ h).rows%3<=3;omega
 obtain⟨c0,c1,r0,r1⟩:=hG;have hlen:(sL h pics l).ps.length=kQ pics:=kb ..;have hnp:1<=kQ pics/\kQ pics<=5:=by unfold kQ;split<;>omega
 have hraw:∀i,jP (pics.getD i default):=fun i=>by
  by_cases hip:i<pics.length
  ·exact hpp i hip
  ·rw[List.getD_eq_getElem?_getD,List.getElem?_eq_none (by omega)];exact⟨by show(0:Int)<=0/\(0:Int)<=255;omega,by show(0:Int)<=0/\(0:Int)<=255;omega⟩
 refine⟨⟨⟨⟨c0,by show(jh h).cols<=8;omega,r0,by show(jh h).rows<=8;omega⟩,(zw h).1,(zw h).2⟩,?_,⟨c0,c1⟩,⟨r0,r1⟩,by omega,fun i hi=>?_⟩,fun p hp g hg m hm=>?_⟩
 ·intro i hi;have ht:=hhr.tab i hi;show(0<=(lE h).a i/\(lE h).a i<=255)/\(0<=(lE h).b i/\(lE h).b i<=255);unfold lE;split
  ·show(0<=max _ _/\max _ _<=255)/\(0<=max _ _/\max _ _<=255);omega
  ·show((0:Int)<=0/\(0:Int)<=255)/\((0:Int)<=0/\(0:Int)<=255);omega
 ·have e:(sL h pics l).ps.getD i default=FC l ((jh h).cols*(jh h).rows).toNat i (pics.getD i default):=yG _ _ _ _ _ (by omega);rw[e];exact LQ hll _ i (by omega) (hraw i)
 ·obtain⟨i,hi,rfl⟩:=List.mem_iff_getElem.1 hp;have e:(sL h pics l).ps.getD i default=FC l ((jh h).cols*(jh h).rows).toNat i (pics.getD i default):=yG _ _ _ _ _ (by omega);rw[List.getD_eq_getElem?_getD,List.getElem?_eq_getElem hi,Option.getD_some]at e;rw[e]at hg;exact BS l _ _ _ _ _ _ g hg m hm
theorem BG{s:vR}(hs:wh s){L F:List (List XC)}{k np n:Nat}(hp:r6 L k s.ps)(hnp:s.ps.length=np)(hn:s.hd.cols*s.hd.rows=(n:Nat)){sz:List Int}{ob1:aj}(hr1:RO ob1 .i64 sz){cp:oV}(hsl:sz.length<=1000){l:List sC}{fs:List Fa}(hf:kZ F l fs){i0 i1 i2 nf ns:Nat}{d:XC}(hd:da F i2 d (fl i4 l) nf)(hnf:fs.length=nf)(hns:sz.length=ns)(hfl:∀i,(fs.getD i default).mask.length<=1000000)(hfn:fs.length<=1000)
 {Q:Mb->Prop}(fT:List Bool->Int->Mb->Bool) (hFrom:∀(jb:List Bool) (mb:Int) (m:Mb),jb.length=n->0<=mb/\mb<n->Q m->iU m->∀(LL:List (List XC)) (kk:Nat),LL[kk]? = some (bl jb)->∀(HS:ah) (i:Nat),HS[i]? = some (.late LL)->Nat.blt HS.length Mem.bound=true->aA.Sound prog ⟨41,[.agg (oY s.hd.cols s.hd.rows (.lsl i kk 0 n n 0)),.one (.int .i64 mb),.agg (mC m)],HS,.one (.bool (fT jb mb m)),HS,[]⟩)
 (hQ:∀i j,i<s.ps.length->j<(s.ps.getD i default).gs.length->iJ (fs.getD ((iv fT fs sz n s.ps i).at_+j) default) (sz.getD ((iv fT fs sz n s.ps i).at_+j) 0)=false->∀m∈((s.ps.getD i default).gs.getD j default).ms,Q m) {x:RC}(hx:iv fT fs sz n s.ps np=x) {m:Nat}(hm:(x.last+1).toNat=m) {HS:ah}(h0:HS[i0]? = some (.late L)) (h1:HS[i1]? = some ob1) (h2:HS[i2]? = some (.late F)) (hnd : [i0,i1,i2].Nodup) {N:Nat}(hN:HS.length=N) {X:List (List XC)}(hX:bl (List.replicate n true)::x.out.map bl++[r8 s.hd.cols s.hd.rows n np]=X) {HS':ah}(hh:HS++[.late X]=HS') (hbd:Nat.blt HS'.length Mem.bound=true) :
 aA.Sound prog ⟨21,[.agg (fh s.hd (.lsl i0 k 0 np np 0)),.one (.slice i1 0 ns cp),.one d],HS,.one (.lsl N (np+1) 0 m np 0),HS',[i0,i1,i2]⟩:=by
 subst hnf hns hm hN hX;have hfo:=hr1.flat;obtain⟨d0,k0,rfl⟩:=hd.back 2 (nth [i0,i1,i2]) rfl;refine bp [i0,i1,i2] [i0,i1,i2] 1 (zq hs hp hnp hn hr1 (cp:=cp) hsl hf k0 hfl hfn fT hFrom hQ hx) hnd (.flat h0 (.flat h1 (.flat h2 .nil))) (.flat (.flat (.flat .nil))) (.flat (.flat (.flat (.flat .nil)))) rfl (.cons (rQ (show 0<3 by omega)) (.cons (show 1<3 by omega) (.cons (k0.ok (Nat.le_of_ble_eq_true rfl)) .nil))) (.cons (oD rfl) (.cons rfl (.cons rfl .nil))) (show 3<4 by omega) rfl (.flat (.flat (.flat (.flat .nil)))) ?_ rfl (by simp only[bC];rw[aC h0,aC h1,aC h2];exact hh) hbd (.inl rfl);simp only[fM];cases ob1.live<;>rfl
theorem zV{h:Hd}{c0 c1:XC}{na nb:Nat}{ob0 ob1:aj}[b9 ob0][b9 ob1](hc0:cG c0 0 0 na)(hc1:cG c1 1 0 nb) :
 bm prog 10 [.agg (rj h c0 c1)] [ob0,ob1] (.one (.bool (decide (na<=30)&&decide (nb<=300)))) [ob0,ob1]:=by
 by_cases h0:na<=30
 ·by_cases h1:nb<=300
  ·rw[decide_eq_true h0,decide_eq_true h1];refine cO Tryz.func10 ?_
   repeat' (first
    |(refine qz ?_;first
     |refine ld (c:=c0) ?_ (hc:=Df h c0 c1)
     |refine ld (c:=c1) ?_ (hc:=Dg h c0 c1))
    |refine zz ?_|refine zx (fun _=>?_) (fun _=>?_)|fail)
   show aE _ _ _ _ _ _ _ _;refine kV [0,1] ?_;rfl
  ·rw[decide_eq_true h0,decide_eq_false h1];refine cO Tryz.func10 ?_
   repeat' (first
    |(refine qz ?_;first
     |refine ld (c:=c0) ?_ (hc:=Df h c0 c1)
     |refine ld (c:=c1) ?_ (hc:=Dg h c0 c1))
    |refine zz ?_|refine zx (fun _=>?_) (fun _=>?_)|fail)
   show aE _ _ _ _ _ _ _ _;refine kV [0,1] ?_;rfl
 ·rw[decide_eq_false h0,Bool.false_and];refine cO Tryz.func10 ?_
  repeat' (first
   |(refine qz ?_;first
    |refine ld (c:=c0) ?_ (hc:=Df h c0 c1)
    |refine ld (c:=c1) ?_ (hc:=Dg h c0 c1))
   |refine zz ?_|refine zx (fun _=>?_) (fun _=>?_)|fail)
  show aE _ _ _ _ _ _ _ _;refine kV [0,1] ?_;rfl
theorem pJ{h:Hd}{c0 c1:XC}{na nb i j:Nat}{ob0 ob1:aj}(hf0:b9 ob0)(hf1:b9 ob1)(hc0:cG c0 i 0 na)(hc1:cG c1 j 0 nb){r:Bool}(hr:(decide (na<=30)&&decide (nb<=300))=r){HS:ah}(hi:HS[i]? = some ob0)(hj:HS[j]? = some ob1)(hij:i≠j)(hbd:Nat.blt HS.length Mem.bound=true) :
 aA.Sound prog ⟨10,[.agg (rj h c0 c1)],HS,.one (.bool r),HS,[]⟩:=by
 subst hr;obtain⟨d0,k0,rfl⟩:=hc0.C_ 0 (nth [i,j]) rfl;obtain⟨d1,k1,rfl⟩:=hc1.C_ 1 (nth [i,j]) rfl;exact fV [i,j] (zV k0 k1) (by simp[hij]) (.flat hi (.flat hj .nil)) (.flat (.flat .nil)) (.cons (BC (k0.ok (Nat.le_of_ble_eq_true rfl)) (k1.ok (Nat.le_of_ble_eq_true rfl))) .nil) (.cons Dk .nil) trivial rfl hbd rfl
def B6(s:pZ):Bool:=decide (s.mask.length<=500)&&decide (s.odd.length<=30)
def zZ(q:List pZ):Bool:=q.all B6&&decide (q.length<=60)
theorem LB{q:List pZ}{i:Nat}(hi:i<q.length)(h:B6 (q.getD i default)=false):zZ q=false:=by
 unfold zZ
 cases ha:q.all B6 with
 | false=>rfl
 | true=>
   have:=List.all_eq_true.1 ha (q.getD i default) (by rw[List.getD_eq_getElem?_getD,List.getElem?_eq_getElem hi,Option.getD_some];exact List.getElem_mem hi);rw[h]at this;cases this
theorem IG{q:List pZ}(h:∀i,i<q.length->B6 (q.getD i default)=true):zZ q=decide (q.length<=60):=by
 unfold zZ
 have ha:q.all B6=true:=List.all_eq_true.2 fun s hs=>by
  obtain⟨i,hi,rfl⟩:=List.mem_iff_getElem.1 hs;have:=h i hi;rwa [List.getD_eq_getElem?_getD,List.getElem?_eq_getElem hi,Option.getD_some]at this
 rw[ha,Bool.true_and]
theorem zW{LA:List (List XC)}{l:List oO}{q:List pZ}(hq:oX LA l q){d:XC}(hd:da LA 0 d (fl kE l) q.length)(hql:q.length<=9223372036854775807){r:Bool}(hr:zZ q=r) :
 bm prog 18 [.one d] [.late LA] (.one (.bool r)) [.late LA]:=by
 have hdok:d.ok 1:=hd.ok (Nat.lt_succ_self 0);refine cO Tryz.func18 ?_
 repeat' (first
  |(refine qz ?_;first
   |refine lX ?_)
  |refine zz ?_|refine zx (fun _=>?_) (fun _=>?_)|fail)
 refine WX.bQ (σ:=Nat) (fun i=>[(0,.one d),(5,.one d),(6,.one (.int .i64 (q.length:Nat))),(7,.one (.int .i64 (i:Nat)))]) (fun i=>[.late LA]) (fun i=>i<=q.length/\∀j,j<i->B6 (q.getD j default)=true) (fun i=>q.length-i) 0 ⟨Nat.zero_le _,fun j h=>absurd h (Nat.not_lt_zero _)⟩ (fun i _=>stM) (bq [0] (reg:=by(repeat' (first|exact ae.nil|refine ae.ia rfl (by assumption) rfl ?_|refine rz ?_|refine ae.sl rfl (by assumption) rfl ?_));first|done|fail)) ?_;intro i ⟨hi,hall⟩ ih
 by_cases hlt:i<q.length
 ·obtain⟨co,cm,s1,s2,s3,s4,s5,s6⟩:=Jo hq hlt 0;have hno:=LB hlt
  have hnx:B6 (q.getD i default)=true->∀j,j<i+1->B6 (q.getD j default)=true:=fun h j hj=>by
   by_cases e:j=i
   ·subst e;exact h
   ·exact hall j (by omega)
  obtain⟨s,hse⟩:∃s,q.getD i default=s:=⟨_,rfl⟩
  rw[hse]at s2 s3 s4 hno hnx;rw[hr]at hno
  by_cases hm:s.mask.length<=500
  ·by_cases ho:s.odd.length<=30
   ·have e:B6 s=true:=by unfold B6;rw[decide_eq_true hm,decide_eq_true ho];rfl
    repeat' (first
     |(refine qz ?_;first
      |refine lX ?_
      |refine rC (fun kk hkk=>?_)
      |refine nC (zs:=ek 0 0 0 .nils .nils) (hz:=y8) ?_
      |refine kD (enc:=kE) ?_ (by assumption) s1 (hc':=s2))
     |refine zz ?_|refine zx (fun _=>?_) (fun _=>?_)|fail)
    exact ih (i+1) _ _ _ (bq [0] (reg:=by(repeat' (first|exact ae.nil|refine ae.ia rfl (by assumption) rfl ?_|refine rz ?_|refine ae.sl rfl (by assumption) rfl ?_));first|done|fail)) ⟨by omega,hnx e⟩ (by omega)
   ·have e:B6 s=false:=by unfold B6;rw[decide_eq_false ho,Bool.and_false]
    rw[hno e]
    repeat' (first
     |(refine qz ?_;first
      |refine lX ?_
      |refine rC (fun kk hkk=>?_)
      |refine nC (zs:=ek 0 0 0 .nils .nils) (hz:=y8) ?_
      |refine kD (enc:=kE) ?_ (by assumption) s1 (hc':=s2))
     |refine zz ?_|refine zx (fun _=>?_) (fun _=>?_)|fail)
    show aE _ _ _ _ _ _ _ _;refine kV [0] ?_;rfl
  ·have e:B6 s=false:=by unfold B6;rw[decide_eq_false hm];rfl
   rw[hno e]
   repeat' (first
    |(refine qz ?_;first
     |refine lX ?_
     |refine rC (fun kk hkk=>?_)
     |refine nC (zs:=ek 0 0 0 .nils .nils) (hz:=y8) ?_
     |refine kD (enc:=kE) ?_ (by assumption) s1 (hc':=s2))
    |refine zz ?_|refine zx (fun _=>?_) (fun _=>?_)|fail)
   show aE _ _ _ _ _ _ _ _;refine kV [0] ?_;rfl
 ·obtain rfl:i=q.length:=by omega
  rw[IG hall]at hr
  by_cases h60:q.length<=60
  ·rw[decide_eq_true h60]at hr;subst hr
   repeat' (first
    |(refine qz ?_;first
     |refine lX ?_)
    |refine zz ?_|refine zx (fun _=>?_) (fun _=>?_)|fail)
   show aE _ _ _ _ _ _ _ _;refine kV [0] ?_;rfl
  ·rw[decide_eq_false h60]at hr;subst hr
   repeat' (first
    |(refine qz ?_;first
     |refine lX ?_)
    |refine zz ?_|refine zx (fun _=>?_) (fun _=>?_)|fail)
   show aE _ _ _ _ _ _ _ _;refine kV [0] ?_;rfl
theorem ud{LA:List (List XC)}{l:List oO}{q:List pZ}(hq:oX LA l q){d:XC}{i n:Nat}(hd:da LA i d (fl kE l) n)(hn:q.length=n)(hql:q.length<=9223372036854775807){r:Bool}(hr:zZ q=r){HS:ah}(hi:HS[i]? = some (.late LA))(hbd:Nat.blt HS.length Mem.bound=true) :
 aA.Sound prog ⟨18,[.one d],HS,.one (.bool r),HS,[]⟩:=by
 subst hn;obtain⟨d0,k0,rfl⟩:=hd.back 0 (nth [i]) rfl;exact fV [i] (zW hq k0 hql hr) (by simp) (.flat hi .nil) (.flat .nil) (.cons (k0.ok (Nat.lt_succ_self 0)) .nil) (.cons rfl .nil) trivial rfl hbd rfl
theorem GN:aI prog 30 (rj wH .nils .nils):=by
 show aI prog 30 ((.int .i64 0 :: .int .i64 0 :: .bool false::((ti .u8 64 fun _=>0)++(ti .u8 64 fun _=>0)))++[.nils,.nils])
 infer_instance
theorem Hb{m:Mb}{qp:Int}(h:db m false qp=0):alone m=true:=by
 unfold db at h;split at h
 ·cases h
 ·rename_i g
  cases e:alone m with
  | true=>rfl
  | false=>exact absurd (.inr ⟨rfl,e⟩) g
theorem DC:oW wH:=⟨by decide,by decide,fun i _=>⟨by show(0:Int)<=0/\(0:Int)<=255;decide,by show(0:Int)<=0/\(0:Int)<=255;decide⟩⟩
def Bx:vR:=sL wH [] []
theorem Hh:jR Bx:=AL (pics:=[]) (l:=[]) DC (fun j h=>absurd h (Nat.not_lt_zero j)) (fun j h=>absurd h (Nat.not_lt_zero j))
theorem NJ:iv (fun _ _ _=>false) [] [9] 4 Bx.ps 1=⟨[[false,false,false,false]],[false,false,false,false],4,0⟩:=by kernel_rfl
theorem Hg:∀i,i<Bx.ps.length->∀j,j<(Bx.ps.getD i default).gs.length->∀m∈((Bx.ps.getD i default).gs.getD j default).ms,alone m=true:=fun i hi j hj m hm=>by
 have hp:=Hh.ok.pics i hi;have hl:Bx.ps.length=1:=rfl;obtain rfl:i=0:=by omega
 have hin:=hp.first rfl
 have hmem:(Bx.ps.getD 0 default).gs.getD j default∈(Bx.ps.getD 0 default).gs:=by
  obtain⟨gs,hgs⟩:∃gs,(Bx.ps.getD 0 default).gs=gs:=⟨_,rfl⟩
  rw[hgs]at hj ⊢;rw[List.getD_eq_getElem?_getD,List.getElem?_eq_getElem hj,Option.getD_some];exact List.getElem_mem hj
 obtain⟨o1,o2,o3,o4,o5,o6⟩:=qj hp.gs (Int.le_refl 0) _ hmem;obtain⟨k,hk,rfl⟩:=List.mem_iff_getElem.1 hm;have:=o6.chk k hk;rw[hin,List.getD_eq_getElem?_getD,List.getElem?_eq_getElem hk,Option.getD_some]at this;exact Hb this
theorem zl:bm prog 17 [] [] (.one (.bool true)) []:=by
 have hok:=Hh.ok;have hcr:Bx.hd.cols*Bx.hd.rows=((4:Nat):Int):=rfl;have hQ:=Hg;have hx:=NJ;have hlay:=Is Bx.ps;have hnp:Bx.ps.length=1:=rfl;have hse:sL wH [] []=Bx:=rfl
 obtain⟨s,hs⟩:∃s,Bx=s:=⟨_,rfl⟩
 rw[hs]at hok hcr hQ hx hlay hnp hse
 obtain⟨w,hw⟩:∃w,wide s.ps=w:=⟨_,rfl⟩
 obtain⟨B,hB⟩:∃B,Fi s.ps=B:=⟨_,rfl⟩
 rw[hw,hB]at hlay;have hdim:=hok.cols;have hdim2:=hok.rows;have hL2:([bl (List.replicate 4 true),bl [false,false,false,false],r8 s.hd.cols s.hd.rows 4 1]:List (List XC))[1+1]? = some (r8 s.hd.cols s.hd.rows 4 1):=rfl;have hL3:((r8 s.hd.cols s.hd.rows 4 1).drop 0).take 3=oY s.hd.cols s.hd.rows (.lsl 0 1 0 4 4 0):=rfl;have hL4:(oY s.hd.cols s.hd.rows (.lsl 0 1 0 4 4 0)).map (·.self 6)=oY s.hd.cols s.hd.rows (.lsl 6 1 0 4 4 0):=rfl;refine cO Tryz.func17 ?_;refine WX.cj rfl ?_;refine WX.cj rfl ?_;refine WX.ghost rfl ?_
 repeat' (first
  |(refine qz ?_;first
   |refine b0 (zs:=rj wH .nils .nils) (hz:=GN) ?_
   |refine cl ?_ (hi:=by exact xe DC (pics:=[]) (fun j h=>absurd h (Nat.not_lt_zero j)) (l:=[]) (fun j h=>absurd h (Nat.not_lt_zero j)) (ob0 := .dead) (ob1 := .dead) ⟨fun h=>absurd h (Nat.lt_irrefl _),inferInstance⟩ ⟨fun h=>absurd h (Nat.lt_irrefl _),inferInstance⟩ (i:=0) (j:=1) .nil .nil (by decide) (by decide) rfl rfl (by decide) hse hw hnp hB nL nA rfl)
   |refine nC (zs:=fh wH .nils) (hz:=Eo) ?_
   |refine tk (cs:=fh s.hd (.lsl 3 w 0 1 1 0)) ?_ (hs1:=(eo _ _).symm) (hs2:=(eo _ _).symm)
   |refine lI ?_ (hle:=(eo _ _).symm)
   |refine cl ?_ (hi:=by exact BG hok hlay hnp hcr (sz:=[9]) (RO.of ..) (by decide) (F:=[]) (l:=[]) (fs:=[]) ⟨rfl,fun i h=>absurd h (Nat.not_lt_zero _)⟩ (i0:=3) (i1:=5) (i2:=2) (.inl ⟨rfl,.inl rfl⟩) rfl rfl (fun i=>Nat.zero_le _) (by decide) (Q:=fun m=>alone m=true) (fun _ _ _=>false) (fun jb mb m _ _ hq _ LL kk _ HS i hi hb=>H2 hq hi hb) (fun i j hi hj _=>hQ i hi j hj) hx (m:=1) rfl rfl rfl rfl (by decide) nL rfl nA rfl)
   |refine qw ?_
   |refine tZ ?_
   |refine QG ?_ hL2 (hle:=⟨Nat.le_of_ble_eq_true rfl,Nat.le_of_ble_eq_true rfl⟩) (hc:=hL3) (hc':=hL4)
   |refine cl ?_ (hi:=by exact EP (l:=[false,false,false,false]) (i:=6) (.inr ⟨1,4,Nat.le_refl _,rfl,rfl⟩) (by decide) (z:=0) rfl rfl rfl)
   |refine cl ?_ (hi:=by exact gF (L:=[]) (f:=⟨true,[]⟩) (i:=2) (.inl ⟨rfl,.inl rfl⟩) (by decide) rfl (r:=true) rfl rfl rfl))
  |refine zz ?_|refine zx (fun _=>?_) (fun _=>?_)|fail)
 show aE _ _ _ _ _ _ _ _;refine kV [] ?_;rfl
theorem pD{HS:ah}(hbd:Nat.blt HS.length Mem.bound=true):aA.Sound prog ⟨17,[],HS,.one (.bool true),HS,[]⟩:=ay zl rfl rfl hbd
end Go.Proofs.YthdciapjllppjaaGreat
namespace Go.Xm
theorem aA.Sound.Tj[av]{P:Program}{f:FuncId}{args:List XV}{HS HS' new:ah}{v:XV}{ws:List Nat}(h:aA.Sound P ⟨f,args,HS,v,HS',ws⟩)(hh:HS++new=HS'):aA.Sound P ⟨f,args,HS,v,HS',[]⟩:=
 ⟨h.le,h.bnd,fun i hi _=>by subst hh;exact List.getElem?_append_left hi,h.call⟩
end Go.Xm
namespace Go.Proofs.YthdciapjllppjaaGreat
open Go.Xm
variable [av]
theorem F0{L:List (List XC)}{cs:List XC}{ps:List (List Int)}(hb:nr L cs ps){c:XC}{i n M:Nat}(hc:da L i c cs n)(hpn:ps.length=n)(hM:n=M+1)(h0:M≠0)(hn:ps.length<=1000000)(hpl:∀i,(ps.getD i []).length<=1000000000){z:List Int}(hz:oS ps ps.length=z){HS:ah}(hi:HS[i]? = some (.late L)){N:Nat}(hN:HS.length=N){HS':ah}(hh:HS++[.cells (il .i64 z) 3 true false]=HS')(hbd:Nat.blt HS'.length Mem.bound=true) :
 aA.Sound prog ⟨20,[.one c],HS,.one (.slice N 0 M (.toEnd 1)),HS',[i]⟩:=by
 have hl:(oS ps ps.length).length=M:=by rw[j_,hpn,hM];rfl
 have e1:bz 3 (il .i64 (oS ps ps.length)) = .cells (il .i64 z) 3 true false:=by
  rw[hz]at hl ⊢
  exact bG fun e=>by
   have h2:(il .i64 z).length=0:=by rw[e];rfl
   rw[bH]at h2;omega
 have h3:=Jt hb hc hpn hn hpl hi hN (HS':=HS') (by rw[e1];exact hh) hbd;have e2:n-1=M:=by omega
 rwa [e2,dp h0]at h3
theorem nr.more{L:List (List XC)}{cs:List XC}{ps:List (List Int)}(h:nr L cs ps)(r:List (List XC)):nr (L++r) cs ps:=⟨h.1,fun i hi=>da.mono (h.2 i hi) r⟩
theorem EA{L F:List (List XC)}{cs:List XC}{ps:List (List Int)}(hb:nr L cs ps){l:List sC}{fs:List Fa}(hf:kZ F l fs){i j np nf:Nat}{c d:XC}(hc:da L i c cs np)(hnp:ps.length=np)(hd:da F j d (fl i4 l) nf)(hnf:fs.length=nf)(hn:ps.length<=1000)(hfn:fs.length<=1000)(hp:∀i,(ps.getD i []).length<=100000)(hpB:∀i,aW (ps.getD i []))(hfB:∀i,aW (fs.getD i default).mask)(hfl:∀i,(fs.getD i default).mask.length<=100000){q:List Int}(hq:KU ps fs=q){nq:Nat}(hnq:q.length=nq)(h0:nq≠0){HS:ah}(hi:HS[i]? = some (.late L))(hj:HS[j]? = some (.late F))(hij:i≠j){N:Nat}(hN:HS.length=N){HS':ah}(hh:HS++[.cells (il .u8 q) 5 true false]=HS')(hbd:Nat.blt HS'.length Mem.bound=true) :
 aA.Sound prog ⟨26,[.one c,.one d],HS,.one (.slice N 0 nq (.toEnd 1)),HS',[]⟩:=by
 have e1:bz 5 (il .u8 q) = .cells (il .u8 q) 5 true false:=bG fun e=>by
  have h2:(il .u8 q).length=0:=by rw[e];rfl
  rw[bH]at h2;omega
 have h3:=zj hb hf hc hnp hd hnf hn hfn hp hpB hfB hfl hq hnq hi hj hij hN (HS':=HS') (by rw[e1];exact hh) hbd;rw[dp h0]at h3;exact h3.Tj hh
theorem kZ.more{L:List (List XC)}{l:List sC}{fs:List Fa}(h:kZ L l fs)(r:List (List XC)):kZ (L++r) l fs:=⟨h.1,fun i hi=>⟨(h.2 i hi).1,da.mono (h.2 i hi).2 r⟩⟩
theorem p9:aW []:=fun j=>by show(0:Int)<=0/\(0:Int)<256;omega
theorem x4{fs:List Fa}(P:List Int->Prop)(h0:P [])(h:∀i,i<fs.length->P (fs.getD i default).mask)(i:Nat):P (fs.getD i default).mask:=by
 by_cases hi:i<fs.length
 ·exact h i hi
 ·rw[List.getD_eq_getElem?_getD,List.getElem?_eq_none (by omega)];exact h0
end Go.Proofs.YthdciapjllppjaaGreat
