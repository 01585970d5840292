/-
  A part of the proof: StrS, StrV, FtI, FtJ, FtM.
-/
import Derived.Test.YthdciapjllppjaaGreatWbF
import Derived.Test.YthdciapjllppjaaGreatWbR
import Derived.Test.YthdciapjllppjaaGreatWbY
import Derived.Test.YthdciapjllppjaaGreatWbZA
import Derived.Test.YthdciapjllppjaaGreatWbZB
import Derived.Test.YthdciapjllppjaaGreatWbZC
set_option maxRecDepth 10000
set_option maxHeartbeats 8000000
set_option linter.unusedVariables false
set_option linter.unusedSectionVars false
set_option linter.unusedSimpArgs false
open Go.Proofs.Tryz (prog)
namespace Go.Xm
variable [aq]
section
variable {P:Program} {ops:Array Oper} {nt nI:Nat} {al:aO} {hs:aj} {o:Oper} {l:List Oper} {L:List aA} {K:List Ab->aO->aj->Prop} {d:Nat}
theorem QB{t t1 e e1:TypeId}{sz len:Nat}{a b:Operand}{zs:List XC}(i n:Nat){j:Nat}{cap:pr}(cs:List XC){vs:List XC}{et:TypeId}{opn ro:Bool}{N:Nat}{hs':aj}(hk:SK P ops nt L l ((d,gJ N (n+len) sz)::al) hs' fun bs=>K (⟨true,.none,[i,N]⟩::bs))(ho:o.op = .call ⟨.builtin .append,#[a,b],#[t,t1]⟩:=by exact rfl)(hu:aQ P t (.slice e):=by infer_instance)(hu1:aQ P t1 (.slice e1):=by infer_instance)(hz:aM P e zs:=by infer_instance)(hI:TI P e sz:=by infer_instance)(wn:Wn ops nt al o d:=by exact⟨rfl,rfl,rfl⟩)(hsz:zs.length=sz/\0<sz:=by exact⟨rfl,Nat.le_of_ble_eq_true rfl⟩)(ha:af (rg al) a=gJ i n sz:=by exact rfl)(hi:hs[i]? = some (bU e cs):=by exact rfl)(hb:af (rg al) b = .one (.slice j 0 len cap):=by exact rfl)(hj:hs[j]? = some (.cells vs et opn ro):=by exact rfl)(hl:vs.length=len*sz:=by exact rfl)(hn:cs.length=n*sz:=by exact rfl)(hm:0<len/\n+len<=2000000000:=by omega)(hN:hs.length=N:=by exact n2)(hbd:Nat.blt N Mem.bound=true:=by exact rfl)(hh:hs.set i .dead++[bU e (cs++vs)]=hs':=by first|(simp only[List.set_cons_succ,List.set_cons_zero,List.cons_append,List.nil_append];exact rfl)|exact rfl):SK P ops nt L (o::l) al hs K:=by
 have hpos:0<len*sz:=Nat.mul_pos hm.1 hsz.2
 have hne:cs++vs≠[]:=fun e=>by
  have h2:(cs++vs).length=0:=by rw[e];rfl
  rw[List.length_append]at h2;omega
 refine Tl i n cs ?_ ho hu hu1 hz hI wn hsz ha hi hb hj hl hn hm hN hbd (hs':=hs') ?_
 ·rw[fm (by omega)]at hk;exact hk
 ·rw[<-hh,cK hne]
end
theorem bd.bU{i g m:Nat}{A B:XC}{L:List (List XC)}{vs cs:List XC}{e:TypeId}{j:Nat}{hs hs2:aj}(hj:Nat.beq j i=false)(hn:∀c∈cs,c.mw g m)(h:bd i g m A B L vs (j+1) hs hs2):bd i g m A B L vs j (Xm.bU e cs::hs) (Xm.bU e cs::hs2):=by
 cases cs with
 | nil=>exact .dead h
 | cons c r=>exact .cells hj (.same hn) h
theorem cS.mw{c:XC}{i off n g m:Nat}(h:cS c i off n)(hi:i≠g):c.mw g m:=by
 rcases h with⟨_,rfl|⟨_,_,rfl⟩⟩|⟨cap,_,rfl⟩<;>first|trivial|exact hi
end Go.Xm
namespace Go.Proofs.YthdciapjllppjaaGreat
open Go.Xm
variable [aq]
def AE(pics:List tb):List tb:=if pics.length=0 then [default]else pics
theorem L9(pics:List tb)(i:Nat):(AE pics).getD i default=pics.getD i default:=by
 unfold AE;split
 ·rename_i h;rw[List.length_eq_zero_iff.1 h];cases i<;>rfl
 ·rfl
theorem I_(pics:List tb):lA pics<=(AE pics).length:=by
 unfold lA AE;split
 ·exact Nat.le_refl _
 ·exact Nat.min_le_left _ _
theorem DH{h:Hd}{c0 c1:XC}{n n' g m:Nat}(k0:cS c0 0 0 n)(k1:cS c1 1 0 n')(h0:0≠g)(h1:1≠g):∀x∈rH h c0 c1,x.mw g m:=fun x hx=>by
 rcases List.mem_append.1 (show x∈b9 h++[c0,c1]from hx)with hx|hx
 ·exact XC.gv (XC.aY (List.all_eq_true.1 (cW h) x hx) 0)
 ·simp only[List.mem_cons,List.not_mem_nil,or_false]at hx
  rcases hx with rfl|rfl
  ·exact k0.mw h0
  ·exact k1.mw h1
theorem tB{k n z g m:Nat}(h:k≠g):(eE k n z).mw g m:=by
 unfold eE;split
 ·trivial
 ·exact h
theorem JR{τ : Nat->Nat}{HS:aj}{i:Nat}{ls:List Nat}{hs:aj}{h:Hd}{c c0:XC}{a b:Bool}(hc:c.aC τ = c0)(hi:HS[i]? = some (.cells (fJ h c0) 36 a b))(r:ae τ HS ls hs):ae τ HS (i::ls) (.cells (fJ h c) 36 a b::hs):=by
 refine ae.cons ?_ r;rw[hi];simp only[fJ,ak.aC,List.map_append,mM,List.map_cons,List.map_nil,hc]
theorem ML{g m:Nat}{A B:XC}(h:Hd):dP g m A B (fJ h A) (fJ h B):=
 dP.app (.same fun c hc=>XC.gv (XC.aY (List.all_eq_true.1 (cW h) c hc) 0)) (.cons .Ca (.same fun _ h=>nomatch h))
theorem jf{cs:List XC}{e:TypeId}{n:Nat}(h:∀c∈cs,c.ok n):(bU e cs).bK n:=by
 cases cs with
 | nil=>trivial
 | cons c r=>exact h
theorem dV{τ : Nat->Nat}{HS:aj}{i:Nat}{ls:List Nat}{hs:aj}{vs:List XC}{e:TypeId}{g m:Nat}(hl:∀c∈vs,c.lL m=true)(hi:HS[i]? = some (bU e (vs.map (·.self g))))(hg : τ g=g)(r:ae τ HS ls hs):ae τ HS (i::ls) (bU e (vs.map (·.self g))::hs):=by
 refine ae.cons ?_ r;rw[hi]
 cases hv:vs.map (·.self g)with
 | nil=>rfl
 | cons c r=>
   have:=rY hl g τ;rw[hg,hv]at this;show some (ak.cells (c::r) e true false)=some (.cells ((c::r).map (·.aC τ)) e true false);rw[this]
theorem fF{vs:List XC}{m:Nat}(h:∀c∈vs,c.lL m=true){g n:Nat}(hg:g<n):∀c∈vs.map (·.self g),c.ok n:=vn (t:=0) (a:=false) (b:=false) h hg
theorem zR{l:List Sm}{inter:Bool}{qp:Int}{many all n0 j:Nat}(h:(gT l inter qp many all n0 j).2=all):∀k,gT l inter qp many all n0 (j+k)=gT l inter qp many all n0 j
 | 0=>rfl
 | k+1=>by
   rw[<-Nat.add_assoc,gT,zR h k,h,if_neg (Nat.lt_irrefl _)]
theorem Nf:aM prog 84 (eR default):=by
 show aM prog 84 [.bool false,.bool false,.int .u8 0,.int .u8 0]
 infer_instance
structure Sn where
 X:ak
 j:Nat
 c:XC
theorem CV{h : Hd}(hhr:pt h){pics:List tb}(hpp:∀j,j<pics.length->kj (pics.getD j default)){l:List Sm}(hll:∀j,j<l.length->iS (l.getD j default)){ob0 ob1:ak}(hr0:BN ob0 eR pics)(hr1:BN ob1 tC l){c0 c1:XC}(hc0:cS c0 0 0 pics.length)(hc1:cS c1 1 0 l.length)(hn0:pics.length<=30)(hn1:l.length<=300) :
 bt prog 11 [.agg (rH h c0 c1)] [ob0,ob1] (.agg (fJ (gO h) (.lsl 2 (wide (pY h pics l).ps) 0 (lA pics) (lA pics) 0))) [ob0,ob1,.late (Fx (pY h pics l).ps)]:=by
 have hfo0:=hr0.flat;have hfo1:=hr1.flat
 obtain⟨G,hG⟩:∃G,gO h=G:=⟨_,rfl⟩
 have hset:(b9 {fe h with cols:=1+(fe h).cols%3}).set 1 (.int .i64 (1+(fe h).rows%3))=b9 G:=by rw[<-hG];rfl
 have hlen:131=(b9 G).length:=(aF _).symm;have hfc:1<=(fe h).cols/\(fe h).cols<=8:=by show 1<=1+h.cols%2^3/\1+h.cols%2^3<=8;omega
 have hfr:1<=(fe h).rows/\(fe h).rows<=8:=by show 1<=1+h.rows%2^3/\1+h.rows%2^3<=8;omega
 obtain⟨np,hnp⟩:∃n,lA pics=n:=⟨_,rfl⟩
 have hnp5:1<=np/\np<=5:=by rw[<-hnp];unfold lA;split<;>omega
 refine cO Tryz.func11 ?_;refine WX.cc rfl ?_
 repeat' (first
  |(refine qz ?_;first
   |refine jU (zs:=b9 lr) (hz:=hU) ?_
   |refine jU (zs:=fJ lr .nils) (hz:=zm) ?_
   |refine qI (cs:=b9 h) ?_ (hle:=by rw[DG];decide) (hc:=Od h c0 c1)
   |refine cl ?_ (hi:=by exact H2 hhr rfl rfl)
   |refine nD (cs:=b9 (fe h)) ?_ (hs1:=by rw[aF]) (hs2:=by rw[aF])
   |refine st ?_ (hle:=by rw[aF];omega) (hv:=hset)
   |refine st (c := .int .i64 (1+(fe h).cols%3)) ?_ (hle:=by rw[aF];omega) (hv:=H9 _ _)
   |refine jI ?_ (hle:=by rw[aF])
   |refine ld (c:=c0) ?_ (hc:=DE h c0 c1)
   |refine Un (p:=0) (q:=min pics.length 5) (fun c hc=>?_)
   |refine nD (cs:=fJ G .nils) ?_ (hs1:=by rw[dh]) (hs2:=by rw[dh])
   |refine t5 (zs:=eR default) ?_)
  |refine WX.NB 5 (σ:=Sn) (fun s=>[(1,.one (.ptr 3 0)),(2,.one (.ptr 4 0)),(3,.one (.ptr 5 0)),(4,.one (.ptr 6 0)),(5,.one s.c)]) (fun s=>[ob0,ob1,s.X,DI h c0 c1,.cells (fJ lr .nils) 36 false false,.cells (b9 G) 26 false false,.cells (fJ G .nils) 36 false false]) (fun s=>(s.j=0/\s.X = .dead/\0<pics.length\/s.j=2/\s.X = .cells (fl eR [default]) 84 false false/\pics.length=0)/\cS s.c s.j 0 np) (fun s hs=>xX.out ?_) ?_ (fun s hs=>xX.out ?_)|refine zz ?_|refine zx (fun _=>?_) (fun _=>?_)|fail)
 ·refine⟨?_⟩;obtain⟨X,j,c'⟩:=s;obtain⟨hXj,hcs⟩:=hs
  have hX:cA X:=by
   rcases hXj with⟨_,e,_⟩|⟨_,e,_⟩
   ·have e:X = .dead:=e;subst e;infer_instance
   ·have e:X = .cells (fl eR [default]) 84 false false:=e;subst e;infer_instance
  have hk7:c'.ok 7:=cS.ok hcs (by rcases hXj with h|h<;>(have:=h.1;simp only at this;omega));exact(stM (objs:=by repeat' (first|exact ax.nil|refine ax.flat ?_|refine ax.cons (lI hc0 hc1 rfl) ?_|refine ax.cons (cY trivial) ?_|refine ax.cons (cY (aK (Nat.le_of_ble_eq_true rfl))) ?_|refine ax.cons (jf (fF (by assumption) (Nat.le_of_ble_eq_true rfl))) ?_|refine ax.cons (by first|(simp[ak.bK,XC.ok,aK];done)|(simp[ak.bK,XC.ok,aK, *];done)) ?_)))
 ·rename_i h0;have h0:pics.length=0:=by omega
  have hp1:np=1:=by rw[<-hnp];exact if_pos h0
  subst hp1
  (first|refine IU ?_|skip)
  exact⟨⟨.cells (fl eR [default]) 84 false false,2,.slice 2 0 1 (.exact 1)⟩,_,⟨.inr ⟨rfl,rfl,h0⟩,cS.mk (Nat.le_refl 1)⟩,(bW [0,1,7,3,4,5,6] (obj:=by(repeat' (first|exact ae.nil|refine ee hc0 hc1 rfl rfl rfl ?_|refine bh rfl rfl ?_|refine bh (aV ..) rfl ?_|refine oz ?_));first|done|fail))⟩
 ·rename_i h0;have hp1:min pics.length 5-0=np:=by rw[<-hnp];unfold lA;rw[if_neg (by omega)];omega
  rw[hp1]at hc
  (first|refine IU ?_|skip)
  exact⟨⟨.dead,0,c⟩,_,⟨.inl ⟨rfl,rfl,by omega⟩,hc⟩,(bW [0,1,2,3,4,5,6] (obj:=by(repeat' (first|exact ae.nil|refine ee hc0 hc1 rfl rfl rfl ?_|refine bh rfl rfl ?_|refine bh (aV ..) rfl ?_|refine oz ?_));first|done|fail))⟩
 ·refine ⟨?_⟩;obtain⟨X,j,c'⟩:=s;obtain⟨hXj,hcs⟩:=hs;have hj2:j=0\/j=2:=hXj.elim (fun h => .inl h.1) (fun h => .inr h.1)
  have hX:cA X:=by
   rcases hXj with⟨_,e,_⟩|⟨_,e,_⟩
   ·have e:X = .dead:=e;subst e;infer_instance
   ·have e:X = .cells (fl eR [default]) 84 false false:=e;subst e;infer_instance
  have hobj:∃obP,BN obP eR (AE pics)/\∀r,(ob0::ob1::X::r)[j]? = some obP:=by
   rcases hXj with⟨e1,_,e2⟩|⟨e1,e,e2⟩
   ·have e1:j=0:=e1;subst e1;exact⟨ob0,by unfold AE;rw[if_neg (by omega)];exact hr0,fun _=>rfl⟩
   ·have e1:j=2:=e1;have e:X = .cells (fl eR [default]) 84 false false:=e;subst e1 e;exact⟨_,by unfold AE;rw[if_pos e2];exact⟨fun _=>⟨_,false,false,rfl⟩,inferInstance⟩,fun _=>rfl⟩
  obtain⟨obP,hrP,hjo⟩:=hobj;have hcj:∀n,c'.ok (n+3):=fun n=>hcs.ok (by rcases hj2 with h|h<;>omega)
  have hk9:c'.ok 9:=hcj 6;have hcs:cS c' j 0 np:=hcs;have hpl:=I_ pics;have hpat:=L9 pics;rw[hnp]at hpl
  obtain⟨all,hall⟩:∃n:Nat,(G.cols*G.rows).toNat=n:=⟨_,rfl⟩
  have hGd:1<=G.cols/\G.cols<=3/\1<=G.rows/\G.rows<=3:=by
   rw[<-hG];refine⟨?_,?_,?_,?_⟩
   ·show 1<=1+(fe h).cols%3;omega
   ·show 1+(fe h).cols%3<=3;omega
   ·show 1<=1+(fe h).rows%3;omega
   ·show 1+(fe h).rows%3<=3;omega
  obtain⟨gc0,gc1,gr0,gr1⟩:=hGd
  have hcr:1<=G.cols*G.rows/\G.cols*G.rows<=9:=by
   have hc:G.cols=1\/G.cols=2\/G.cols=3:=by omega
   have hr:G.rows=1\/G.rows=2\/G.rows=3:=by omega
   rcases hc with e|e|e<;>rcases hr with f|f|f<;>rw[e,f]<;>decide
  have hall2:(all:Int)=G.cols*G.rows:=by omega
  obtain⟨ps,hps⟩:∃f:Nat->List Pc,A1 l all pics=f:=⟨_,rfl⟩
  have hpl2:∀n,(ps n).length=n:=fun n=>by rw[<-hps];exact kI l all pics n
  have hwl:∀n,(fB 0 (ps n)).length=wide (ps n):=fun n=>qF _ _
  have hp0:ps 0 = []:=by rw[<-hps];rfl
  have hok1:∀n,∀c∈fl oe (fi 0 (ps n)),c.lL (wide (ps n))=true:=fun n=>AB _ _ _ (by omega)
  refine WX.cc rfl ?_;refine WX.ghost rfl ?_
  repeat' (first|refine zz ?_|refine zx (fun _=>?_) (fun _=>?_)|fail)
  refine WX.cw (σ:=Nat) (fun i=>[(1,.one (.ptr 3 0)),(2,.one (.ptr 4 0)),(3,.one (.ptr 5 0)),(4,.one (.ptr 6 0)),(44,.one c'),(45,.one (.int .i64 (np:Nat))),(6,.one (.int .i64 ((i*all:Nat):Int))),(46,.one (.int .i64 (i:Nat)))]) (fun i=>[ob0,ob1,X,DI h c0 c1,.cells (fJ lr .nils) 36 false false,.cells (b9 G) 26 false false,.cells (fJ G (eE 7 i 5)) 36 false false,bU 87 ((fl oe (fi 0 (ps i))).map (·.self 8)),.late (fB 0 (ps i))]) (fun i=>i<=np) (fun i=>np-i) 0 (Nat.zero_le _) (fun i _=>by have hz:=hok1 i;exact(stM (objs:=by repeat' (first|exact ax.nil|refine ax.flat ?_|refine ax.cons (lI hc0 hc1 rfl) ?_|refine ax.cons (cY trivial) ?_|refine ax.cons (cY (aK (Nat.le_of_ble_eq_true rfl))) ?_|refine ax.cons (jf (fF (by assumption) (Nat.le_of_ble_eq_true rfl))) ?_|refine ax.cons (by first|(simp[ak.bK,XC.ok,aK];done)|(simp[ak.bK,XC.ok,aK, *];done)) ?_)))) (bW [0,1,2,3,4,5,6,7,8] (obj:=by(repeat' (first|exact ae.nil|refine ee hc0 hc1 rfl rfl rfl ?_|refine bh rfl rfl ?_|refine bh (aV ..) rfl ?_|refine ae.flat (by rw[hp0];rfl) ?_|refine ae.cons (by rw[hp0];rfl) ?_|refine oz ?_));first|done|fail) (reg:=by(repeat' (first|exact ai.nil|refine ai.sl rfl (by assumption) (by rcases hj2 with h|h<;>rw[h]<;>rfl) ?_|refine ai.flat (by rw[Nat.zero_mul];rfl) ?_|refine rz ?_|refine ai.sl rfl (by assumption) rfl ?_));first|done|fail)) ?_;intro i hi ih;have hz1:=hok1 i
  by_cases hlt:i<np
  ·have hpr : kj (pics.getD i default):=by
    by_cases hip:i<pics.length
    ·exact hpp i hip
    ·rw[List.getD_eq_getElem?_getD,List.getElem?_eq_none (by omega)];exact⟨by show(0:Int)<=0/\(0:Int)<=255;omega,by show(0:Int)<=0/\(0:Int)<=255;omega⟩
   have hnx0:ps (i+1)=ps i++[FQ l all i (pics.getD i default)]:=by rw[<-hps];rfl
   have hPe:(AE pics).getD i default=pics.getD i default:=hpat i
   obtain⟨P,hP⟩:∃P,pics.getD i default=P:=⟨_,rfl⟩
   rw[hP]at hpr hnx0 hPe;obtain⟨pi,pd,pq,pm⟩:=P;obtain⟨⟨q0,q1⟩,⟨m0,m1⟩⟩:=hpr
   obtain⟨I,hI⟩:∃I,(pi&&decide (0<i))=I:=⟨_,rfl⟩
   obtain⟨D,hD⟩:∃D,(I&&pd)=D:=⟨_,rfl⟩
   have q0:0<=pq:=q0;have q1:pq<=255:=q1;have m0:0<=pm:=m0;have m1:pm<=255:=m1
   obtain⟨M,hM⟩:∃M:Nat,(1+pm%5).toNat=M:=⟨_,rfl⟩
   have hnx:ps (i+1)=ps i++[⟨⟨(i:Nat),I,D,1+pq%31⟩,(gT l I (1+pq%31) M all (i*all) all).1⟩]:=by rw[hnx0,<-hD,<-hI,<-hM];rfl
   repeat' (first
    |(refine qz ?_;first
     |refine jU (zs:=eR default) (hz:=Nf) ?_
     |refine jU (zs:=tt ⟨0,false,false,0⟩ .nils) (hz:=v8) ?_
     |refine OE (enc:=eR) ?_ (hi:=hjo _))
    |refine lq 12 ?_|refine zz ?_|refine zx (fun _=>?_) (fun _=>?_)|fail)
   refine⟨?_⟩;rw[hPe];refine WX.IQ 12 (σ:=Unit) (fun _=>[(1,.one (.ptr 3 0)),(2,.one (.ptr 4 0)),(3,.one (.ptr 5 0)),(4,.one (.ptr 6 0)),(44,.one c'),(45,.one (.int .i64 (np:Nat))),(46,.one (.int .i64 (i:Nat))),(6,.one (.int .i64 ((i*all:Nat):Int))),(7,.one (.int .i64 (i:Nat))),(8,.one (.ptr 9 0)),(9,.one (.ptr 10 0))]) (fun _=>[ob0,ob1,X,DI h c0 c1,.cells (fJ lr .nils) 36 false false,.cells (b9 G) 26 false false,.cells (fJ G (eE 7 i 5)) 36 false false,bU 87 ((fl oe (fi 0 (ps i))).map (·.self 8)),.late (fB 0 (ps i)),.cells (eR ⟨pi,pd,pq,pm⟩) 84 false false,.cells (tt ⟨(i:Nat),I,false,0⟩ .nils) 87 false false]) (fun _=>True) (fun _ _=>by have hk11:c'.ok 11:=hcj 8;exact(stM (objs:=by repeat' (first|exact ax.nil|refine ax.flat ?_|refine ax.cons (lI hc0 hc1 rfl) ?_|refine ax.cons (cY trivial) ?_|refine ax.cons (cY (aK (Nat.le_of_ble_eq_true rfl))) ?_|refine ax.cons (jf (fF (by assumption) (Nat.le_of_ble_eq_true rfl))) ?_|refine ax.cons (by first|(simp[ak.bK,XC.ok,aK];done)|(simp[ak.bK,XC.ok,aK, *];done)) ?_)))) ?_ (fun _ _=>xX.out ?_)
   ·cases pi with
    | false=>
      obtain rfl:I=false:=hI.symm
      repeat' (first|refine zz ?_|refine zx (fun _=>?_) (fun _=>?_)|fail)
      (first|refine IU ?_|skip)
      exact⟨(),_,trivial,(bW [0,1,2,3,4,5,6,7,8,9,10] (obj:=by(repeat' (first|exact ae.nil|refine ee hc0 hc1 rfl rfl rfl ?_|refine bh rfl rfl ?_|refine bh (aV ..) rfl ?_|refine dV (by assumption) rfl rfl ?_|refine oz ?_));first|done|fail) (reg:=by(repeat' (first|exact ai.nil|refine ai.sl rfl (by assumption) (by rcases hj2 with h|h<;>rw[h]<;>rfl) ?_|refine rz ?_|refine ai.sl rfl (by assumption) rfl ?_));first|done|fail))⟩
    | true=>
      repeat' (first|refine zz ?_|refine zx (fun _=>?_) (fun _=>?_)|fail)
      ·rename_i h0;obtain rfl:I=true:=by rw[<-hI,decide_eq_true (show 0<i by omega)];rfl
       (first|refine IU ?_|skip)
       exact⟨(),_,trivial,(bW [0,1,2,3,4,5,6,7,8,9,10] (obj:=by(repeat' (first|exact ae.nil|refine ee hc0 hc1 rfl rfl rfl ?_|refine bh rfl rfl ?_|refine bh (aV ..) rfl ?_|refine dV (by assumption) rfl rfl ?_|refine oz ?_));first|done|fail) (reg:=by(repeat' (first|exact ai.nil|refine ai.sl rfl (by assumption) (by rcases hj2 with h|h<;>rw[h]<;>rfl) ?_|refine rz ?_|refine ai.sl rfl (by assumption) rfl ?_));first|done|fail))⟩
      ·rename_i h0;obtain rfl:I=false:=by rw[<-hI,decide_eq_false (show¬0<i by omega)];rfl
       (first|refine IU ?_|skip)
       exact⟨(),_,trivial,(bW [0,1,2,3,4,5,6,7,8,9,10] (obj:=by(repeat' (first|exact ae.nil|refine ee hc0 hc1 rfl rfl rfl ?_|refine bh rfl rfl ?_|refine bh (aV ..) rfl ?_|refine dV (by assumption) rfl rfl ?_|refine oz ?_));first|done|fail) (reg:=by(repeat' (first|exact ai.nil|refine ai.sl rfl (by assumption) (by rcases hj2 with h|h<;>rw[h]<;>rfl) ?_|refine rz ?_|refine ai.sl rfl (by assumption) rfl ?_));first|done|fail))⟩
   refine⟨?_⟩;refine WX.IQ 13 (σ:=Unit) (fun _=>[(1,.one (.ptr 3 0)),(2,.one (.ptr 4 0)),(3,.one (.ptr 5 0)),(4,.one (.ptr 6 0)),(44,.one c'),(45,.one (.int .i64 (np:Nat))),(46,.one (.int .i64 (i:Nat))),(6,.one (.int .i64 ((i*all:Nat):Int))),(8,.one (.ptr 9 0)),(9,.one (.ptr 10 0))]) (fun _=>[ob0,ob1,X,DI h c0 c1,.cells (fJ lr .nils) 36 false false,.cells (b9 G) 26 false false,.cells (fJ G (eE 7 i 5)) 36 false false,bU 87 ((fl oe (fi 0 (ps i))).map (·.self 8)),.late (fB 0 (ps i)),.cells (eR ⟨pi,pd,pq,pm⟩) 84 false false,.cells (tt ⟨(i:Nat),I,D,1+pq%31⟩ .nils) 87 false false]) (fun _=>True) (fun _ _=>by have hk11:c'.ok 11:=hcj 8;exact(stM (objs:=by repeat' (first|exact ax.nil|refine ax.flat ?_|refine ax.cons (lI hc0 hc1 rfl) ?_|refine ax.cons (cY trivial) ?_|refine ax.cons (cY (aK (Nat.le_of_ble_eq_true rfl))) ?_|refine ax.cons (jf (fF (by assumption) (Nat.le_of_ble_eq_true rfl))) ?_|refine ax.cons (by first|(simp[ak.bK,XC.ok,aK];done)|(simp[ak.bK,XC.ok,aK, *];done)) ?_)))) ?_ (fun _ _=>xX.out ?_)
   ·cases I with
    | false=>
      obtain rfl:D=false:=hD.symm
      repeat' (first|refine zz ?_|refine zx (fun _=>?_) (fun _=>?_)|fail)
      (first|refine IU ?_|skip)
      exact⟨(),_,trivial,(bW [0,1,2,3,4,5,6,7,8,9,10] (obj:=by(repeat' (first|exact ae.nil|refine ee hc0 hc1 rfl rfl rfl ?_|refine bh rfl rfl ?_|refine bh (aV ..) rfl ?_|refine dV (by assumption) rfl rfl ?_|refine oz ?_));first|done|fail) (reg:=by(repeat' (first|exact ai.nil|refine ai.sl rfl (by assumption) (by rcases hj2 with h|h<;>rw[h]<;>rfl) ?_|refine rz ?_|refine ai.sl rfl (by assumption) rfl ?_));first|done|fail))⟩
    | true=>
      obtain rfl:D=pd:=hD.symm
      repeat' (first|refine zz ?_|refine zx (fun _=>?_) (fun _=>?_)|fail)
      (first|refine IU ?_|skip)
      exact⟨(),_,trivial,(bW [0,1,2,3,4,5,6,7,8,9,10] (obj:=by(repeat' (first|exact ae.nil|refine ee hc0 hc1 rfl rfl rfl ?_|refine bh rfl rfl ?_|refine bh (aV ..) rfl ?_|refine dV (by assumption) rfl rfl ?_|refine oz ?_));first|done|fail) (reg:=by(repeat' (first|exact ai.nil|refine ai.sl rfl (by assumption) (by rcases hj2 with h|h<;>rw[h]<;>rfl) ?_|refine rz ?_|refine ai.sl rfl (by assumption) rfl ?_));first|done|fail))⟩
   refine⟨?_⟩
   obtain⟨Q,hQ⟩:∃Q,1+pq%31=Q:=⟨_,rfl⟩
   have hQr:1<=Q/\Q<=31:=by omega
   have hMr:1<=M/\M<=5:=by omega
   rw[hQ]at hnx ⊢;have hL0:fB 0 (ps i)++f8 (gT l I Q M all (i*all) 0).1=fB 0 (ps i):=List.append_nil _;have hgok:=Cc hll I hQr hMr all (i*all);have h45:(i+1)*all<=45:=Nat.le_trans (Nat.mul_le_mul (show i+1<=5 by omega) (show all<=9 by omega)) (by decide);rw[Nat.add_mul,Nat.one_mul]at h45;rw[<-hL0];refine WX.cc rfl ?_
   repeat' (first
    |(refine qz ?_;first
     |refine ld (c := .int .i64 G.cols) ?_
     |refine ld (c := .int .i64 G.rows) ?_)
    |refine zz ?_|refine zx (fun _=>?_) (fun _=>?_)|fail)
   refine WX.cw (σ:=Nat) (fun t=>[(1,.one (.ptr 3 0)),(2,.one (.ptr 4 0)),(3,.one (.ptr 5 0)),(4,.one (.ptr 6 0)),(44,.one c'),(45,.one (.int .i64 (np:Nat))),(46,.one (.int .i64 (i:Nat))),(8,.one (.ptr 9 0)),(9,.one (.ptr 10 0)),(10,.one (.int .i64 (G.cols*G.rows))),(6,.one (.int .i64 ((i*all+(gT l I Q M all (i*all) t).2:Nat):Int))),(11,.one (.int .i64 ((gT l I Q M all (i*all) t).2:Nat)))]) (fun t=>[ob0,ob1,X,DI h c0 c1,.cells (fJ lr .nils) 36 false false,.cells (b9 G) 26 false false,.cells (fJ G (eE 7 i 5)) 36 false false,bU 87 ((fl oe (fi 0 (ps i))).map (·.self 8)),.late (fB 0 (ps i)++f8 (gT l I Q M all (i*all) t).1),.cells (eR ⟨pi,pd,pq,pm⟩) 84 false false,.cells (tt ⟨(i:Nat),I,D,Q⟩ (eE 11 (gT l I Q M all (i*all) t).1.length 2)) 87 false false,bU 90 ((fl pO (gC (wide (ps i)) (gT l I Q M all (i*all) t).1)).map (·.self 8))]) (fun t=>t<=(gT l I Q M all (i*all) t).2) (fun t=>all-(gT l I Q M all (i*all) t).2) 0 (Nat.zero_le _) (fun t _=>by have hk12:c'.ok 12:=hcj 9;have hz2:∀c∈fl pO (gC (wide (ps i)) (gT l I Q M all (i*all) t).1),c.lL (wide (ps i)+(gT l I Q M all (i*all) t).1.length)=true:=qy _ _ _ (by omega);exact(stM (objs:=by repeat' (first|exact ax.nil|refine ax.flat ?_|refine ax.cons (lI hc0 hc1 rfl) ?_|refine ax.cons (cY trivial) ?_|refine ax.cons (cY (aK (Nat.le_of_ble_eq_true rfl))) ?_|refine ax.cons (jf (fF (by assumption) (Nat.le_of_ble_eq_true rfl))) ?_|refine ax.cons (by first|(simp[ak.bK,XC.ok,aK];done)|(simp[ak.bK,XC.ok,aK, *];done)) ?_)))) (bW [0,1,2,3,4,5,6,7,8,9,10,11] (obj:=by(repeat' (first|exact ae.nil|refine ee hc0 hc1 rfl rfl rfl ?_|refine bh rfl rfl ?_|refine bh (aV ..) rfl ?_|refine dV (by assumption) rfl rfl ?_|refine oz ?_));first|done|fail) (reg:=by(repeat' (first|exact ai.nil|refine ai.sl rfl (by assumption) (by rcases hj2 with h|h<;>rw[h]<;>rfl) ?_|refine rz ?_|refine ai.sl rfl (by assumption) rfl ?_));first|done|fail)) ?_;intro t ht ih2;obtain⟨k1,k2,k3,k4⟩:=hgok t;have hstop:=zR (l:=l) (inter:=I) (qp:=Q) (many:=M) (all:=all) (n0:=i*all) (j:=t);have hnxt:gT l I Q M all (i*all) (t+1)=if(gT l I Q M all (i*all) t).2<all then((gT l I Q M all (i*all) t).1++[⟨((gT l I Q M all (i*all) t).2:Nat),(iC l I Q (i*all+(gT l I Q M all (i*all) t).2) (min M (all-(gT l I Q M all (i*all) t).2))).1⟩],(gT l I Q M all (i*all) t).2+min M (all-(gT l I Q M all (i*all) t).2))else gT l I Q M all (i*all) t:=rfl
   obtain⟨gs,hgs⟩:∃gs,(gT l I Q M all (i*all) t).1=gs:=⟨_,rfl⟩
   obtain⟨F,hF⟩:∃F,(gT l I Q M all (i*all) t).2=F:=⟨_,rfl⟩
   rw[hgs,hF]at k1 k4 hnxt;rw[hF]at ht k2 k3 hstop;rw[hgs,hF];have hz2:∀c∈fl pO (gC (wide (ps i)) gs),c.lL (wide (ps i)+gs.length)=true:=qy _ _ _ (by omega);have hz1m:∀c∈fl oe (fi 0 (ps i)),c.lL (wide (ps i)+gs.length)=true:=fun c hc=>XC.uH (by omega) (hz1 c hc)
   have hLl:(fB 0 (ps i)++f8 gs).length=wide (ps i)+gs.length:=by rw[List.length_append,hwl];simp[f8]
   have hgl:(fl pO (gC (wide (ps i)) gs)).length=gs.length*2:=by rw[yv,uk]
   by_cases hlt2:F<all
   ·rw [if_pos hlt2]at hnxt
    obtain⟨n,hn⟩:∃n,min M (all-F)=n:=⟨_,rfl⟩
    rw[hn]at hnxt;have hnr:1<=n/\n<=5/\F+n<=all:=by omega
    have hn2:min (1+pm%5) (G.cols*G.rows-(F:Nat))=(n:Nat):=by omega
    obtain⟨grp,hgrp⟩:∃g:Nat->List Mb×Int,iC l I Q (i*all+F)=g:=⟨_,rfl⟩
    have hgrl:∀k,(grp k).1.length=k:=fun k=>by rw[<-hgrp];exact qA l I Q _ k
    have hgro:=ym hll I hQr (i*all+F);have hgr0:grp 0=([],Q):=by rw[<-hgrp];rfl
    have hgrs:∀k,grp (k+1)=((grp k).1++[Cp l I (grp k).2 (i*all+F+k)],(Cp l I (grp k).2 (i*all+F+k)).qp):=fun k=>by rw[<-hgrp];rfl
    rw[hgrp]at hgro hnxt
    repeat' (first
     |(refine qz ?_;first
      |refine jU (zs:=DQ 0 .nils) (hz:=zl) ?_
      |refine ld (c := .int .i64 Q) ?_)
     |refine zz ?_|refine zx (fun _=>?_) (fun _=>?_)|fail)
    refine WX.cc rfl ?_;refine WX.cw (σ:=Nat) (fun k=>[(1,.one (.ptr 3 0)),(2,.one (.ptr 4 0)),(3,.one (.ptr 5 0)),(4,.one (.ptr 6 0)),(44,.one c'),(45,.one (.int .i64 (np:Nat))),(46,.one (.int .i64 (i:Nat))),(8,.one (.ptr 9 0)),(9,.one (.ptr 10 0)),(10,.one (.int .i64 (G.cols*G.rows))),(11,.one (.int .i64 (F:Nat))),(12,.one (.int .i64 (n:Nat))),(13,.one (.ptr 12 0)),(100,.one (.int .i64 (n:Nat))),(6,.one (.int .i64 ((i*all+F+k:Nat):Int))),(14,.one (.int .i64 (grp k).2)),(101,.one (.int .i64 (k:Nat)))]) (fun k=>[ob0,ob1,X,DI h c0 c1,.cells (fJ lr .nils) 36 false false,.cells (b9 G) 26 false false,.cells (fJ G (eE 7 i 5)) 36 false false,bU 87 ((fl oe (fi 0 (ps i))).map (·.self 8)),.late (fB 0 (ps i)++f8 gs),.cells (eR ⟨pi,pd,pq,pm⟩) 84 false false,.cells (tt ⟨(i:Nat),I,D,Q⟩ (eE 11 gs.length 2)) 87 false false,bU 90 ((fl pO (gC (wide (ps i)) gs)).map (·.self 8)),.cells (DQ (F:Nat) (eE 13 k 391)) 90 false false,bU 107 (fl mC (grp k).1)]) (fun k=>k<=n) (fun k=>n-k) 0 (Nat.zero_le _) (fun k _=>by have hk14:c'.ok 14:=hcj 11;exact(stM (objs:=by repeat' (first|exact ax.nil|refine ax.flat ?_|refine ax.cons (lI hc0 hc1 rfl) ?_|refine ax.cons (cY trivial) ?_|refine ax.cons (cY (aK (Nat.le_of_ble_eq_true rfl))) ?_|refine ax.cons (jf (fF (by assumption) (Nat.le_of_ble_eq_true rfl))) ?_|refine ax.cons (by first|(simp[ak.bK,XC.ok,aK];done)|(simp[ak.bK,XC.ok,aK, *];done)) ?_)))) (bW [0,1,2,3,4,5,6,7,8,9,10,11,12,13] (obj:=by(repeat' (first|exact ae.nil|refine ee hc0 hc1 rfl rfl rfl ?_|refine bh rfl rfl ?_|refine bh (aV ..) rfl ?_|refine dV (by assumption) rfl rfl ?_|refine ae.flat (by rw[hgr0];rfl) ?_|refine oz ?_));first|done|fail) (reg:=by(repeat' (first|exact ai.nil|refine ai.sl rfl (by assumption) (by rcases hj2 with h|h<;>rw[h]<;>rfl) ?_|refine ai.flat (by rw[<-hn2];rfl) ?_|refine ai.flat (by rw[hgr0];rfl) ?_|refine rz ?_|refine ai.sl rfl (by assumption) rfl ?_));first|done|fail)) ?_;intro k hk ih3;obtain⟨-,o2,-⟩:=hgro k;have hgk:=hgrl k;have hgs1:=hgrs k
    obtain⟨ms,hms⟩:∃x,(grp k).1=x:=⟨_,rfl⟩
    obtain⟨qp,hqp⟩:∃x,(grp k).2=x:=⟨_,rfl⟩
    rw[hms]at hgk hgs1 ⊢;rw[hqp]at o2 hgs1 ⊢
    by_cases hlt3:k<n
    ·obtain⟨at_,hat⟩:∃a,i*all+F+k=a:=⟨_,rfl⟩
     rw[hat]at hgs1 ⊢;have hat2:at_<=45:=by omega
     have hel:=AU hll at_
     obtain⟨el,hele⟩:∃e,wx l at_=e:=⟨_,rfl⟩
     rw[hele]at hel
     obtain⟨mm,hmm⟩:∃m,n8 el I qp=m:=⟨_,rfl⟩
     have hm1:Cp l I qp at_ = {mm with edge:=mm.edge&&!el.great}:=by unfold Cp;rw[hele,hmm]
     rw[hm1]at hgs1;obtain⟨kd,mq,mv,me,ml⟩:=mm
     obtain⟨ed,hed⟩:∃e,(me&&!el.great)=e:=⟨_,rfl⟩
     rw[hed]at hgs1;have hatl:0<l.length->at_%l.length<l.length:=fun h=>Nat.mod_lt _ h
     repeat' (first
      |(refine qz ?_;first
       |refine jU (zs:=tC S5) (hz:=Qb) ?_
       |refine ld (c:=c1) ?_ (hc:=DF h c0 c1)
       |refine OE (enc:=tC) ?_)
      |refine WX.NB 23 (σ:=Unit) (fun _=>[(1,.one (.ptr 3 0)),(2,.one (.ptr 4 0)),(3,.one (.ptr 5 0)),(4,.one (.ptr 6 0)),(44,.one c'),(45,.one (.int .i64 (np:Nat))),(46,.one (.int .i64 (i:Nat))),(8,.one (.ptr 9 0)),(9,.one (.ptr 10 0)),(10,.one (.int .i64 (G.cols*G.rows))),(11,.one (.int .i64 (F:Nat))),(12,.one (.int .i64 (n:Nat))),(13,.one (.ptr 12 0)),(100,.one (.int .i64 (n:Nat))),(14,.one (.int .i64 qp)),(101,.one (.int .i64 (k:Nat))),(6,.one (.int .i64 (at_:Nat))),(15,.one (.ptr 14 0))]) (fun _=>[ob0,ob1,X,DI h c0 c1,.cells (fJ lr .nils) 36 false false,.cells (b9 G) 26 false false,.cells (fJ G (eE 7 i 5)) 36 false false,bU 87 ((fl oe (fi 0 (ps i))).map (·.self 8)),.late (fB 0 (ps i)++f8 gs),.cells (eR ⟨pi,pd,pq,pm⟩) 84 false false,.cells (tt ⟨(i:Nat),I,D,Q⟩ (eE 11 gs.length 2)) 87 false false,bU 90 ((fl pO (gC (wide (ps i)) gs)).map (·.self 8)),.cells (DQ (F:Nat) (eE 13 k 391)) 90 false false,bU 107 (fl mC ms),.cells (tC el) 99 false false]) (fun _=>True) (fun _ _=>by have hk15:c'.ok 15:=hcj 12;exact(stM (objs:=by repeat' (first|exact ax.nil|refine ax.flat ?_|refine ax.cons (lI hc0 hc1 rfl) ?_|refine ax.cons (cY trivial) ?_|refine ax.cons (cY (aK (Nat.le_of_ble_eq_true rfl))) ?_|refine ax.cons (jf (fF (by assumption) (Nat.le_of_ble_eq_true rfl))) ?_|refine ax.cons (by first|(simp[ak.bK,XC.ok,aK];done)|(simp[ak.bK,XC.ok,aK, *];done)) ?_)))) ?_ (fun _ _=>xX.out ?_)|refine zz ?_|refine zx (fun _=>?_) (fun _=>?_)|fail)
     ·rename_i h0
      have hee:l.getD ((at_:Int)%(l.length:Nat)).toNat default=el:=by
       rw[<-hele];unfold wx;rw[if_neg (by omega)];rfl
      (first|refine IU ?_|skip)
      exact⟨(),_,trivial,(bW [0,1,2,3,4,5,6,7,8,9,10,11,12,13,14] (obj:=by(repeat' (first|exact ae.nil|refine ee hc0 hc1 rfl rfl rfl ?_|refine bh rfl rfl ?_|refine bh (aV ..) rfl ?_|refine dV (by assumption) rfl rfl ?_|refine ae.flat (by rw[<-hee];rfl) ?_|refine oz ?_));first|done|fail) (reg:=by(repeat' (first|exact ai.nil|refine ai.sl rfl (by assumption) (by rcases hj2 with h|h<;>rw[h]<;>rfl) ?_|refine rz ?_|refine ai.sl rfl (by assumption) rfl ?_));first|done|fail))⟩
     ·rename_i h0
      have hee:el=⟨(at_:Nat),0,⟨fun _=>0,fun _=>0,false⟩,false,fun _=>0,0,false⟩:=by
       rw[<-hele];unfold wx TB;rw[if_pos (by omega),Nat.mod_eq_of_lt (by omega)]
      (first|refine IU ?_|skip)
      exact⟨(),_,trivial,(bW [0,1,2,3,4,5,6,7,8,9,10,11,12,13,14] (obj:=by(repeat' (first|exact ae.nil|refine ee hc0 hc1 rfl rfl rfl ?_|refine bh rfl rfl ?_|refine bh (aV ..) rfl ?_|refine dV (by assumption) rfl rfl ?_|refine ae.flat (by rw[hee];rfl) ?_|refine oz ?_));first|done|fail) (reg:=by(repeat' (first|exact ai.nil|refine ai.sl rfl (by assumption) (by rcases hj2 with h|h<;>rw[h]<;>rfl) ?_|refine rz ?_|refine ai.sl rfl (by assumption) rfl ?_));first|done|fail))⟩
     refine⟨?_⟩
     repeat' (first
      |(refine qz ?_;first
       |refine jU (zs:=mC Ag) (hz:=ry) ?_
       |refine cl ?_ (hi:=by exact OK hel o2 hmm rfl)
       |refine nD (cs:=mC ⟨kd,mq,mv,me,ml⟩) ?_ (hs1:=by rw[bn]) (hs2:=by rw[bn]))
      |refine lq 27 ?_|refine zz ?_|refine zx (fun _=>?_) (fun _=>?_)|fail)
     refine⟨?_⟩;refine WX.IQ 27 (σ:=Unit) (fun _=>[(1,.one (.ptr 3 0)),(2,.one (.ptr 4 0)),(3,.one (.ptr 5 0)),(4,.one (.ptr 6 0)),(44,.one c'),(45,.one (.int .i64 (np:Nat))),(46,.one (.int .i64 (i:Nat))),(8,.one (.ptr 9 0)),(9,.one (.ptr 10 0)),(10,.one (.int .i64 (G.cols*G.rows))),(11,.one (.int .i64 (F:Nat))),(12,.one (.int .i64 (n:Nat))),(13,.one (.ptr 12 0)),(100,.one (.int .i64 (n:Nat))),(14,.one (.int .i64 qp)),(101,.one (.int .i64 (k:Nat))),(6,.one (.int .i64 (at_+1:Nat))),(16,.one (.ptr 15 0))]) (fun _=>[ob0,ob1,X,DI h c0 c1,.cells (fJ lr .nils) 36 false false,.cells (b9 G) 26 false false,.cells (fJ G (eE 7 i 5)) 36 false false,bU 87 ((fl oe (fi 0 (ps i))).map (·.self 8)),.late (fB 0 (ps i)++f8 gs),.cells (eR ⟨pi,pd,pq,pm⟩) 84 false false,.cells (tt ⟨(i:Nat),I,D,Q⟩ (eE 11 gs.length 2)) 87 false false,bU 90 ((fl pO (gC (wide (ps i)) gs)).map (·.self 8)),.cells (DQ (F:Nat) (eE 13 k 391)) 90 false false,bU 107 (fl mC ms),.cells (tC el) 99 false false,.cells (mC ⟨kd,mq,mv,ed,ml⟩) 107 false false]) (fun _=>True) (fun _ _=>by have hk16:c'.ok 16:=hcj 13;exact(stM (objs:=by repeat' (first|exact ax.nil|refine ax.flat ?_|refine ax.cons (lI hc0 hc1 rfl) ?_|refine ax.cons (cY trivial) ?_|refine ax.cons (cY (aK (Nat.le_of_ble_eq_true rfl))) ?_|refine ax.cons (jf (fF (by assumption) (Nat.le_of_ble_eq_true rfl))) ?_|refine ax.cons (by first|(simp[ak.bK,XC.ok,aK];done)|(simp[ak.bK,XC.ok,aK, *];done)) ?_)))) ?_ (fun _ _=>xX.out ?_)
     ·cases me with
      | false=>
        obtain rfl:ed=false:=hed.symm
        repeat' (first
         |(refine qz ?_;first
          |refine st (c := .bool false) ?_ (hle:=by rw[bn];decide) (hv:=show _=mC ⟨kd,mq,mv,false,ml⟩from rfl))
         |refine zz ?_|refine zx (fun _=>?_) (fun _=>?_)|fail)
        (first|refine IU ?_|skip)
        exact⟨(),_,trivial,(bW [0,1,2,3,4,5,6,7,8,9,10,11,12,13,14,15] (obj:=by(repeat' (first|exact ae.nil|refine ee hc0 hc1 rfl rfl rfl ?_|refine bh rfl rfl ?_|refine bh (aV ..) rfl ?_|refine dV (by assumption) rfl rfl ?_|refine oz ?_));first|done|fail) (reg:=by(repeat' (first|exact ai.nil|refine ai.sl rfl (by assumption) (by rcases hj2 with h|h<;>rw[h]<;>rfl) ?_|refine rz ?_|refine ai.sl rfl (by assumption) rfl ?_));first|done|fail))⟩
      | true=>
        obtain rfl:ed = !el.great:=hed.symm
        repeat' (first
         |(refine qz ?_;first
          |refine ld (c := .bool el.great) ?_
          |refine st (c := .bool (!el.great)) ?_ (hle:=by rw[bn];decide) (hv:=show _=mC ⟨kd,mq,mv,!el.great,ml⟩from rfl))
         |refine zz ?_|refine zx (fun _=>?_) (fun _=>?_)|fail)
        (first|refine IU ?_|skip)
        exact⟨(),_,trivial,(bW [0,1,2,3,4,5,6,7,8,9,10,11,12,13,14,15] (obj:=by(repeat' (first|exact ae.nil|refine ee hc0 hc1 rfl rfl rfl ?_|refine bh rfl rfl ?_|refine bh (aV ..) rfl ?_|refine dV (by assumption) rfl rfl ?_|refine oz ?_));first|done|fail) (reg:=by(repeat' (first|exact ai.nil|refine ai.sl rfl (by assumption) (by rcases hj2 with h|h<;>rw[h]<;>rfl) ?_|refine rz ?_|refine ai.sl rfl (by assumption) rfl ?_));first|done|fail))⟩
     refine⟨?_⟩
     repeat' (first
      |(refine qz ?_;first
       |refine ld (c := .int .i64 mq) ?_
       |refine jI ?_ (hle:=by rw[bn])
       |refine wm (enc:=mC) (a:=⟨kd,mq,mv,ed,ml⟩) ?_
       |refine x7 (enc:=mC) ?_)
      |refine zz ?_|refine zx (fun _=>?_) (fun _=>?_)|fail)
     exact ih3 (k+1) _ _ _ (bW [0,1,2,3,4,5,6,7,8,9,10,11,12,17] (obj:=by(repeat' (first|exact ae.nil|refine ee hc0 hc1 rfl rfl rfl ?_|refine bh rfl rfl ?_|refine bh (aV ..) rfl ?_|refine dV (by assumption) rfl rfl ?_|refine ae.flat (by rw[hgs1];rfl) ?_|refine oz ?_));first|done|fail) (reg:=by(repeat' (first|exact ai.nil|refine ai.sl rfl (by assumption) (by rcases hj2 with h|h<;>rw[h]<;>rfl) ?_|refine ai.flat (by rw[hgs1];rfl) ?_|refine ai.flat (by rw[<-Nat.add_assoc,hat];rfl) ?_|refine rz ?_|refine ai.sl rfl (by assumption) rfl ?_));first|done|fail)) (by omega) (by omega)
    ·obtain rfl:k=n:=by omega
     clear ih3
     have hLs:(fl mC ms).all XC.shut=true:=List.all_eq_true.2 fun c hc=>by
      obtain⟨x,_,hx⟩:=List.mem_flatMap.1 hc;exact List.all_eq_true.1 (jY x) c hx
     have hne:fl mC ms≠[]:=H4 fun e=>by rw[e]at hgk;simp at hgk;omega
     have hsl:bU 107 (fl mC ms) = .cells (fl mC ms) 107 true false:=cK hne;have hsc:eE 13 k 391 = .slice 13 0 k (.toEnd 391):=if_neg (by omega);have hml:(fl mC ms).length=k*391:=by rw[yv,hgk]
     have hnx3:gT l I Q M all (i*all) (t+1)=(gs++[⟨(F:Nat),ms⟩],F+k):=by rw[hnxt,hms]
     rw[hsl,hsc]
     repeat' (first|refine lq 31 ?_|refine uo 31 ?_|refine zz ?_|refine zx (fun _=>?_) (fun _=>?_)|fail)
     refine⟨?_⟩;refine WX.sW (L:=fB 0 (ps i)++f8 gs) (vs:=fl mC ms) 13 8 k (.toEnd 391) [(1,.one (.ptr 3 0)),(2,.one (.ptr 4 0)),(3,.one (.ptr 5 0)),(4,.one (.ptr 6 0)),(44,.one c'),(45,.one (.int .i64 (np:Nat))),(46,.one (.int .i64 (i:Nat))),(8,.one (.ptr 9 0)),(9,.one (.ptr 10 0)),(10,.one (.int .i64 (G.cols*G.rows))),(6,.one (.int .i64 ((i*all+F+k:Nat):Int))),(11,.one (.int .i64 (F:Nat))),(12,.one (.int .i64 (k:Nat))),(13,.one (.ptr 12 0))] [ob0,ob1,X,DI h c0 c1,.cells (fJ lr .nils) 36 false false,.cells (b9 G) 26 false false,.cells (fJ G (eE 7 i 5)) 36 false false,bU 87 ((fl oe (fi 0 (ps i))).map (·.self 8)),.late (fB 0 (ps i)++f8 gs++[fl mC ms]),.cells (eR ⟨pi,pd,pq,pm⟩) 84 false false,.cells (tt ⟨(i:Nat),I,D,Q⟩ (eE 11 gs.length 2)) 87 false false,bU 90 ((fl pO (gC (wide (ps i)) gs)).map (·.self 8)),.cells (DQ (F:Nat) (.lsl 8 (wide (ps i)+gs.length) 0 k k 0)) 90 false false,.dead] (m:=wide (ps i)+gs.length) (Oo ms _) (.inr ⟨391,rfl,by decide,by rw[hml];exact Nat.le_refl _⟩) hLl (hv:=Ge hLs 8) (hH:=by repeat' (first|exact bd.nil|refine bd.ghost ?_|refine bd.flat rfl ?_|refine bd.cells rfl (dP.same (DH hc0 hc1 (by decide) (by decide))) ?_|refine bd.cells rfl (dP.same (j0 trivial)) ?_|refine bd.cells rfl (dP.same (j0 (tB (by decide)))) ?_|refine bd.bU rfl (gw (by assumption) _ _) ?_|refine bd.cells rfl (dP.same (by simp[XC.mw,tB])) ?_|refine bd.cells rfl (dP.cons (.same trivial) (.cons .Ca (.same (fun _ h=>nomatch h)))) ?_|refine bd.cells rfl (dP.cons (.same trivial) (.cons (.same trivial) (.cons (.same trivial) (.cons (.same trivial) (.cons .Ca (.same (fun _ h=>nomatch h))))))) ?_|refine bd.dead ?_)) (hR:=by repeat' (first|exact gX.nil|refine gX.flat rfl ?_|refine gX.one rfl nJ.Ca ?_|refine gX.one rfl (nJ.same (cS.mw (by assumption) (by rcases hj2 with h|h<;>rw[h]<;>decide))) ?_|refine gX.one rfl (nJ.same (by first|trivial|(simp[XC.mw];done))) ?_)) (hok:=by have hk14:c'.ok 14:=hcj 11;exact(stM (objs:=by repeat' (first|exact ax.nil|refine ax.flat ?_|refine ax.cons (lI hc0 hc1 rfl) ?_|refine ax.cons (cY trivial) ?_|refine ax.cons (cY (aK (Nat.le_of_ble_eq_true rfl))) ?_|refine ax.cons (jf (fF (by assumption) (Nat.le_of_ble_eq_true rfl))) ?_|refine ax.cons (by first|(simp[ak.bK,XC.ok,aK];done)|(simp[ak.bK,XC.ok,aK, *];done)) ?_)))) (h:=?_);have hg1:(gT l I Q M all (i*all) (t+1)).1=gs++[⟨(F:Nat),ms⟩]:=by rw[hnx3]
     have hg2:(gT l I Q M all (i*all) (t+1)).2=F+k:=by rw[hnx3]
     have hg1l:(gT l I Q M all (i*all) (t+1)).1.length=gs.length+1:=by rw[hg1,List.length_append];rfl
     have hlate:fB 0 (ps i)++f8 (gs++[⟨(F:Nat),ms⟩])=fB 0 (ps i)++f8 gs++[fl mC ms]:=by
      unfold f8;rw[List.map_append,<-List.append_assoc];rfl
     have hgr:(fl pO (gC (wide (ps i)) (gs++[⟨(F:Nat),ms⟩]))).map (·.self 8)=(fl pO (gC (wide (ps i)) gs)).map (·.self 8)++DQ (F:Nat) (.lsl 8 (wide (ps i)+gs.length) 0 k k 0):=by
      rw[xa];unfold fl;rw[List.flatMap_append,List.map_append,<-hgk];rfl
     have hz3:∀c∈fl pO (gC (wide (ps i)) (gT l I Q M all (i*all) (t+1)).1),c.lL (wide (ps i)+(gT l I Q M all (i*all) (t+1)).1.length)=true:=qy _ _ _ (Nat.le_refl _)
     repeat' (first
      |(refine qz ?_;first
       |refine t5 (zs:=DQ 0 .nils) (hz:=zl) ?_
       |refine QB 11 gs.length ((fl pO (gC (wide (ps i)) gs)).map (·.self 8)) ?_ (hn:=by rw[List.length_map,hgl]))
      |refine zz ?_|refine zx (fun _=>?_) (fun _=>?_)|fail)
     exact ih2 (t+1) _ _ _ (bW [0,1,2,3,4,5,6,7,8,9,10,15] (obj:=by(repeat' (first|exact ae.nil|refine ee hc0 hc1 rfl rfl rfl ?_|refine bh rfl rfl ?_|refine JR (aV ..) rfl ?_|refine dV hz1 rfl rfl ?_|refine dV hz3 (by rw[hg1,hgr];rfl) rfl ?_|refine ae.flat (by rw[hg1,hlate];rfl) ?_|refine ae.cons (by rw[hg1l];simp only[ak.aC,List.map_cons,List.map_nil,XC.aC,aV];exact rfl) ?_|refine oz ?_));first|done|fail) (reg:=by(repeat' (first|exact ai.nil|refine ai.sl rfl (by assumption) (by rcases hj2 with h|h<;>rw[h]<;>rfl) ?_|refine ai.flat (by rw[hg2,<-Nat.add_assoc];rfl) ?_|refine ai.flat (by rw[hg2];rfl) ?_|refine rz ?_|refine ai.sl rfl (by assumption) rfl ?_));first|done|fail)) (by rw[hg2];omega) (by rw[hg2,hF];omega)
   ·have hFa:F=all:=by omega
    have hga:(gT l I Q M all (i*all) all).1=gs:=by
     have:=hstop hFa (all-t);rw[show t+(all-t)=all by omega]at this;rw[this,hgs]
    clear ih2
    have hgn:gs.length≠0:=fun e=>by
     obtain rfl:=List.length_eq_zero_iff.1 e;have k1:(0:Int)=(F:Nat):=k1;omega
    have hsl2:bU 90 ((fl pO (gC (wide (ps i)) gs)).map (·.self 8)) = .cells ((fl pO (gC (wide (ps i)) gs)).map (·.self 8)) 90 true false:=cK fun e=>by
     have h2:((fl pO (gC (wide (ps i)) gs)).map (·.self 8)).length=0:=by rw[e];rfl
     rw[List.length_map,hgl]at h2;omega
    have hsc2:eE 11 gs.length 2 = .slice 11 0 gs.length (.toEnd 2):=if_neg hgn;rw[hsl2,hsc2]
    repeat' (first|refine lq 33 ?_|refine uo 33 ?_|refine Nv 33 ?_|refine zz ?_|refine zx (fun _=>?_) (fun _=>?_)|fail)
    refine⟨?_⟩;refine WX.sW (L:=fB 0 (ps i)++f8 gs) (vs:=fl pO (gC (wide (ps i)) gs)) (us:=(fl pO (gC (wide (ps i)) gs)).map (·.self 8)) 11 8 gs.length (.toEnd 2) [(1,.one (.ptr 3 0)),(2,.one (.ptr 4 0)),(3,.one (.ptr 5 0)),(4,.one (.ptr 6 0)),(44,.one c'),(45,.one (.int .i64 (np:Nat))),(46,.one (.int .i64 (i:Nat))),(6,.one (.int .i64 ((i*all+F:Nat):Int))),(9,.one (.ptr 10 0))] [ob0,ob1,X,DI h c0 c1,.cells (fJ lr .nils) 36 false false,.cells (b9 G) 26 false false,.cells (fJ G (eE 7 i 5)) 36 false false,bU 87 ((fl oe (fi 0 (ps i))).map (·.self 8)),.late (fB 0 (ps i)++f8 gs++[fl pO (gC (wide (ps i)) gs)]),.cells (eR ⟨pi,pd,pq,pm⟩) 84 false false,.cells (tt ⟨(i:Nat),I,D,Q⟩ (.lsl 8 (wide (ps i)+gs.length) 0 gs.length gs.length 0)) 87 false false,.dead] (m:=wide (ps i)+gs.length) hz2 (.inr ⟨2,rfl,by decide,by rw[List.length_map,hgl];exact Nat.le_refl _⟩) hLl (hH:=by repeat' (first|exact bd.nil|refine bd.ghost ?_|refine bd.flat rfl ?_|refine bd.cells rfl (dP.same (DH hc0 hc1 (by decide) (by decide))) ?_|refine bd.cells rfl (dP.same (j0 trivial)) ?_|refine bd.cells rfl (dP.same (j0 (tB (by decide)))) ?_|refine bd.bU rfl (gw (by assumption) _ _) ?_|refine bd.cells rfl (dP.same (by simp[XC.mw,tB])) ?_|refine bd.cells rfl (dP.cons (.same trivial) (.cons .Ca (.same (fun _ h=>nomatch h)))) ?_|refine bd.cells rfl (dP.cons (.same trivial) (.cons (.same trivial) (.cons (.same trivial) (.cons (.same trivial) (.cons .Ca (.same (fun _ h=>nomatch h))))))) ?_|refine bd.dead ?_)) (hR:=by repeat' (first|exact gX.nil|refine gX.flat rfl ?_|refine gX.one rfl nJ.Ca ?_|refine gX.one rfl (nJ.same (cS.mw (by assumption) (by rcases hj2 with h|h<;>rw[h]<;>decide))) ?_|refine gX.one rfl (nJ.same (by first|trivial|(simp[XC.mw];done))) ?_)) (hok:=by have hk12:c'.ok 12:=hcj 9;exact(stM (objs:=by repeat' (first|exact ax.nil|refine ax.flat ?_|refine ax.cons (lI hc0 hc1 rfl) ?_|refine ax.cons (cY trivial) ?_|refine ax.cons (cY (aK (Nat.le_of_ble_eq_true rfl))) ?_|refine ax.cons (jf (fF (by assumption) (Nat.le_of_ble_eq_true rfl))) ?_|refine ax.cons (by first|(simp[ak.bK,XC.ok,aK];done)|(simp[ak.bK,XC.ok,aK, *];done)) ?_)))) (h:=?_);rw[hga]at hnx
    have hpx:(fl oe (fi 0 (ps (i+1)))).map (·.self 8)=(fl oe (fi 0 (ps i))).map (·.self 8)++tt ⟨(i:Nat),I,D,Q⟩ (.lsl 8 (wide (ps i)+gs.length) 0 gs.length gs.length 0):=by
     rw[hnx,xn,Nat.zero_add];unfold fl;rw[List.flatMap_append,List.map_append];rfl
    have hlx:fB 0 (ps (i+1))=fB 0 (ps i)++f8 gs++[fl pO (gC (wide (ps i)) gs)]:=by
     rw[hnx,xg,Nat.zero_add,List.append_assoc];rfl
    have hz4:=hok1 (i+1);have hax:(i+1)*all=i*all+F:=by rw[Nat.add_mul,Nat.one_mul,hFa]
    repeat' (first
     |(refine qz ?_;first
      |refine ld (c:=eE 7 i 5) ?_ (hc:=CT _ _)
      |refine t5 (zs:=tt ⟨0,false,false,0⟩ .nils) (hz:=v8) ?_
      |refine QB 7 i ((fl oe (fi 0 (ps i))).map (·.self 8)) ?_ (hn:=by rw[List.length_map,yv,qQ,hpl2])
      |refine st ?_ (hle:=by rw[dh];decide) (hv:=MM _ _ _))
     |refine zz ?_|refine zx (fun _=>?_) (fun _=>?_)|fail)
    exact ih (i+1) _ _ _ (bW [0,1,2,3,4,5,6,13,8] (obj:=by(repeat' (first|exact ae.nil|refine ee hc0 hc1 rfl rfl rfl ?_|refine bh rfl rfl ?_|refine JR (aV ..) rfl ?_|refine dV hz4 (by rw[hpx];rfl) rfl ?_|refine ae.flat (by rw[hlx];rfl) ?_|refine oz ?_));first|done|fail) (reg:=by(repeat' (first|exact ai.nil|refine ai.sl rfl (by assumption) (by rcases hj2 with h|h<;>rw[h]<;>rfl) ?_|refine ai.flat (by rw[hax];rfl) ?_|refine rz ?_|refine ai.sl rfl (by assumption) rfl ?_));first|done|fail)) (by omega) (by omega)
  ·obtain rfl:i=np:=by omega
   clear ih
   have hSF:(pY h pics l).ps=ps i:=by
    show A1 l ((gO h).cols*(gO h).rows).toNat pics (lA pics)=_;rw[hG,hall,hnp,hps]
   have hpl3:(fl oe (fi 0 (ps i))).length=i*5:=by rw[yv,qQ,hpl2]
   have hsl3:bU 87 ((fl oe (fi 0 (ps i))).map (·.self 8)) = .cells ((fl oe (fi 0 (ps i))).map (·.self 8)) 87 true false:=cK fun e=>by
    have h2:((fl oe (fi 0 (ps i))).map (·.self 8)).length=0:=by rw[e];rfl
    rw[List.length_map,hpl3]at h2;omega
   have hsc3:eE 7 i 5 = .slice 7 0 i (.toEnd 5):=if_neg (by omega);have hl132:132=(fJ G (.lsl 8 (wide (ps i)) 0 i i 0)).length:=(dh _ _).symm;rw[hsl3,hsc3,hSF,hG,hnp]
   repeat' (first|refine lq 35 ?_|refine uo 35 ?_|refine zz ?_|refine zx (fun _=>?_) (fun _=>?_)|fail)
   refine⟨?_⟩;refine WX.sW (L:=fB 0 (ps i)) (vs:=fl oe (fi 0 (ps i))) (us:=(fl oe (fi 0 (ps i))).map (·.self 8)) 7 8 i (.toEnd 5) [(2,.one (.ptr 4 0)),(4,.one (.ptr 6 0))] [ob0,ob1,.dead,.dead,.cells (fJ lr .nils) 36 false false,.dead,.cells (fJ G (.lsl 8 (wide (ps i)) 0 i i 0)) 36 false false,.dead,.late (fB 0 (ps i)++[fl oe (fi 0 (ps i))])] (m:=wide (ps i)) hz1 (.inr ⟨5,rfl,by decide,by rw[List.length_map,hpl3];exact Nat.le_refl _⟩) (hwl i) (hH:=by repeat' (first|exact bd.nil|refine bd.ghost ?_|refine bd.dead ?_|refine bd.flat rfl ?_|refine bd.cells rfl (dP.same (j0 trivial)) ?_|refine bd.cells rfl (ML _) ?_)) (hok:=(stM (objs:=by repeat' (first|exact ax.nil|refine ax.flat ?_|refine ax.cons (cY trivial) ?_|refine ax.cons (cY (show 8<_ from Nat.le_of_ble_eq_true rfl)) ?_|refine ax.cons trivial ?_)))) (h:=?_)
   repeat' (first
    |(refine qz ?_;first
     |refine jI ?_ (hle:=(dh _ _).symm)
     |refine nD (cs:=fJ G (.lsl 8 (wide (ps i)) 0 i i 0)) ?_ (hs1:=(dh _ _).symm) (hs2:=(dh _ _).symm))
    |refine zz ?_|refine zx (fun _=>?_) (fun _=>?_)|fail)
   show aE _ _ _ _ _ _ _ _;refine kV [0,1,8] ?_ (hr:=fH.one rfl (.cell rfl rfl (bR hl132) .nil)) (hok:=lP (show 2<3 by omega));exact(qW (c' := .lsl 8 (wide (ps i)) 0 i i 0) rfl).symm
end Go.Proofs.YthdciapjllppjaaGreat
namespace Go.Xm
variable [aq]
variable {P:Program} {ops:Array Oper} {nt nI:Nat} {al:aO} {hs:aj} {o:Oper} {l:List Oper} {L:List aA} {K:List Ab->aO->aj->Prop} {d:Nat}
theorem Hq{t t1 e e1:TypeId}{a b:Operand}{k:IntKind}{i n g:Nat}{q p:List Int}{LL:List (List XC)}{c:XC}{N:Nat}{hs':aj}(hc:qi LL g c (il k p) p.length)(hk:SK P ops nt L l ((d,gJ N (n+p.length) 1)::al) hs' fun bs=>K (⟨true,.none,[i,N]⟩::bs))(ho:o.op = .call ⟨.builtin .append,#[a,b],#[t,t1]⟩:=by exact rfl)(hu:aQ P t (.slice e):=by infer_instance)(hu1:aQ P t1 (.slice e1):=by infer_instance)(hz:aM P e [.int k 0]:=by infer_instance)(hI:TI P e 1:=by infer_instance)(wn:Wn ops nt al o d:=by exact⟨rfl,rfl,rfl⟩)(ha:af (rg al) a=gJ i n 1:=by exact rfl)(hi:hs[i]? = some (bU e (il k q)):=by exact rfl)(hb:af (rg al) b = .one c:=by exact rfl)(hg:hs[g]? = some (.late LL):=by exact rfl)(hn:q.length=n:=by first|assumption|exact rfl)(hm:0<p.length/\n+p.length<=2000000000:=by omega)(hN:hs.length=N:=by exact n2)(hbd:Nat.blt N Mem.bound=true:=by exact rfl)(hh:hs.set i .dead++[bU e (il k (q++p))]=hs':=by first|(simp only[List.set_cons_succ,List.set_cons_zero,List.cons_append,List.nil_append];exact rfl)|exact rfl):SK P ops nt L (o::l) al hs K:=by
 have hne:il k (q++p)≠[]:=fun e=>by
  have h2:(il k (q++p)).length=0:=by rw[e];rfl
  rw[bz,List.length_append]at h2;omega
 refine Sw (cs:=il k q) (MJ (hu:=hu1) hb hc hg) ?_ ho hu hz hI wn ⟨rfl,Nat.one_pos⟩ ha hi (by rw[bz];omega) hm hN hbd (hs':=hs') ?_
 ·rw[fm (by omega)]at hk;exact hk
 ·rw[<-hh,cK hne,oS]
end Go.Xm
namespace Go.Proofs.YthdciapjllppjaaGreat
open Go.Xm
variable [aq]
structure Qw(ps:List (List Int)):Prop where
 many:1<=ps.length/\ps.length<=46
 pos:∀i,i<ps.length->1<=(ps.getD i []).length
 body:∀i,0<i->i<ps.length->23<=(ps.getD i []).length
 few:∀i,(ps.getD i []).length<=70000
 byte:∀i,bj (ps.getD i [])
theorem xC(B:List Bool)(hB:119<=B.length):∀k,k<=17->bj (po B k)
 | 0,_=>iX
 | k+1,h=>by
   rw[po];refine gp (xC B hB k (by omega)) (dD ?_ iX);unfold CI;rw[mG (by omega)];have:=Ka B (7*k);omega
theorem uT{B:List Bool}(hB:119<=B.length){x y:List Int}(hx:bj x)(hy:bj y):bj (eh B x y):=
 gp (gp (gp (dD (by omega) (dD (by omega) (dD (by omega) (dD (by omega) iX)))) (xC B hB 17 (Nat.le_refl _))) hx) hy
theorem Mc{h:Hd}{ps:List Pc}{q:List Int}(hq:q∈qk h ps):∃i,i<ps.length/\∃g∈(ps.getD i default).gs,q=D5 h (ps.getD i default).ph g:=by
 unfold qk at hq;obtain⟨p,hp,hq⟩:=List.mem_flatMap.1 hq;obtain⟨i,hi,rfl⟩:=List.mem_iff_getElem.1 hp;unfold NI at hq;obtain⟨g,hg,rfl⟩:=List.mem_map.1 hq;refine⟨i,hi,g,?_,?_⟩<;>rw[List.getD_eq_getElem?_getD,List.getElem?_eq_getElem hi,Option.getD_some]
 exact hg
theorem Jb{s:tP}(hs:lG s){q:List Int}(hq:q∈qk s.hd s.ps):23<=q.length/\q.length<=70000/\bj q/\∃a b:Nat,rS q=((a:Int),(b:Int))/\1<=a/\a<=30000/\1<=b/\b<=30000/\q.length=21+a+b:=by
 obtain⟨i,hi,g,hg,rfl⟩:=Mc hq;obtain⟨-,-,ba,bb,la,lb⟩:=Jc hs hi hg;have hl:(D5 s.hd (s.ps.getD i default).ph g).length=21+(f_ s.hd (s.ps.getD i default).ph g).1.length+(f_ s.hd (s.ps.getD i default).ph g).2.length:=eQ ..;refine⟨by omega,by omega,uT (by rw[Ru,oR];exact Nat.le_refl _) ba bb,_,_,Az (by omega) (by omega) _ _,la.1,la.2,lb.1,lb.2,hl⟩
theorem D6{h:Hd}{all:Nat}:∀{ps:List Pc},(∀p∈ps,p.gs.length<=all)->(qk h ps).length<=all*ps.length
 | [],_=>Nat.zero_le _
 | p::l,hp=>by
   have ih:=D6 (h:=h) (ps:=l) fun p hp'=>hp p (List.mem_cons_of_mem _ hp')
   have h1:=hp p (List.mem_cons_self ..);have e:qk h (p::l)=NI h p++qk h l:=rfl;have e2:(NI h p).length=p.gs.length:=List.length_map ..;rw[e,List.length_append,e2,List.length_cons,Nat.mul_add];omega
theorem D8{s:tP}{i:Nat}(h0:0<i)(hi:i<(iF s).length):(iF s).getD i []∈qk s.hd s.ps:=by
 cases i with
 | zero=>omega
 | succ i=>
   have hi:i<(qk s.hd s.ps).length:=by
    have:(iF s).length=(qk s.hd s.ps).length+1:=List.length_cons;omega
   show(qk s.hd s.ps).getD i []∈_;rw[List.getD_eq_getElem?_getD,List.getElem?_eq_getElem hi];exact List.getElem_mem hi
theorem OY{s:tP}(hs:lG s):Qw (iF s):=by
 have hm:=hs.ok.many;have hcr:=oY hs.ok;have hlen:(iF s).length=(qk s.hd s.ps).length+1:=List.length_cons
 have hl:(qk s.hd s.ps).length<=9*s.ps.length:=D6 fun p hp=>by
  obtain⟨i,hi,rfl⟩:=List.mem_iff_getElem.1 hp;have:=(hs.ok.pics i hi).few;rw[List.getD_eq_getElem?_getD,List.getElem?_eq_getElem hi,Option.getD_some]at this;omega
 have hy:=jX s.hd
 have key:∀i,i<(iF s).length->1<=((iF s).getD i []).length/\((iF s).getD i []).length<=70000/\bj ((iF s).getD i []):=fun i hi=>by
  by_cases h0:i=0
  ·subst h0;exact⟨by show 1<=(hZ s.hd).length;omega,by show(hZ s.hd).length<=70000;omega,qD _⟩
  ·have:=Jb hs (D8 (by omega) hi);exact⟨by omega,this.2.1,this.2.2.1⟩
 have out:∀i,¬i<(iF s).length->(iF s).getD i [] = []:=fun i hi=>by
  rw[List.getD_eq_getElem?_getD,List.getElem?_eq_none (by omega)];rfl
 refine⟨by omega,fun i hi=>(key i hi).1,fun i h0 hi=>(Jb hs (D8 h0 hi)).1,fun i=>?_,fun i=>?_⟩
 ·by_cases hi:i<(iF s).length
  ·exact(key i hi).2.1
  ·rw[out i hi];exact Nat.zero_le _
 ·by_cases hi:i<(iF s).length
  ·exact(key i hi).2.2
  ·rw[out i hi];exact iX
theorem Cw{s:tP}(hs:lG s){L:List (List XC)}{k n i:Nat}(hp:wN L k s.ps)(hn:s.ps.length=n){ps:List (List Int)}(hps:iF s=ps){m:Nat}(hm:ps.length=m){B:List (List XC)}(hB:wq ps=B){HS:aj}(hi:HS[i]? = some (.late L)){N:Nat}(hN:HS.length=N){HS':aj}(hh:HS++[.late B]=HS')(hbd:Nat.blt HS'.length Mem.bound=true) :
 aA.Sound prog ⟨12,[.agg (fJ s.hd (.lsl i k 0 n n 0))],HS,.tup [.one (.lsl N m 0 m m 0),.one (.int .i64 0)],HS',[i]⟩:=by
 subst hB;exact Cv hs hp hn hps hm hi hN hh hbd
theorem BY{h:Hd}{c0 c1:XC}{n:Nat}(h0:c0.ok n)(h1:c1.ok n):(XV.agg (rH h c0 c1)).bK n:=fun x hx=>by
 rcases List.mem_append.1 (show x∈b9 h++[c0,c1]from hx)with hx|hx
 ·exact XC.aY (List.all_eq_true.1 (cW h) x hx) n
 ·simp only[List.mem_cons,List.not_mem_nil,or_false]at hx
  rcases hx with rfl|rfl
  ·exact h0
  ·exact h1
theorem DJ{h:Hd}{c0 c1:XC}{τ : Nat->Nat}:(XV.agg (rH h c0 c1)).aC τ = .agg (rH h (c0.aC τ) (c1.aC τ)):=by
 simp only[rH,XV.aC,List.map_append,mM,List.map_cons,List.map_nil]
theorem xE{h:Hd}(hhr:pt h){pics:List tb}(hpp:∀j,j<pics.length->kj (pics.getD j default)){l:List Sm}(hll:∀j,j<l.length->iS (l.getD j default)){ob0 ob1:ak}(hr0:BN ob0 eR pics)(hr1:BN ob1 tC l){i j:Nat}{c0 c1:XC}(hc0:cS c0 i 0 pics.length)(hc1:cS c1 j 0 l.length)(hn0:pics.length<=30)(hn1:l.length<=300){HS:aj}(hi:HS[i]? = some ob0)(hj:HS[j]? = some ob1)(hij:i≠j){s:tP}(hs:pY h pics l=s){w np:Nat}(hw:wide s.ps=w)(hnp:s.ps.length=np){B:List (List XC)}(hB:Fx s.ps=B){N:Nat}(hN:HS.length=N){HS':aj}(hh:HS++[.late B]=HS')(hbd:Nat.blt HS'.length Mem.bound=true) :
 aA.Sound prog ⟨11,[.agg (rH h c0 c1)],HS,.agg (fJ s.hd (.lsl N w 0 np np 0)),HS',[i,j]⟩:=by
 have hnp2:lA pics=np:=by rw[<-hnp,<-hs];exact(kI ..).symm
 subst hs hw hB hN;have hfo0:=hr0.flat;have hfo1:=hr1.flat;obtain⟨d0,k0,rfl⟩:=hc0.Dx 0 (nth [i,j]) rfl;obtain⟨d1,k1,rfl⟩:=hc1.Dx 1 (nth [i,j]) rfl;have hc:=CV hhr hpp hll hr0 hr1 k0 k1 hn0 hn1;rw[hnp2]at hc;refine bI [i,j] [i,j] 1 hc (by simp[hij]) (.flat hi (.flat hj .nil)) (.flat (.flat .nil)) (.flat (.flat (.flat .nil))) rfl (.cons (BY (k0.ok (Nat.le_of_ble_eq_true rfl)) (k1.ok (Nat.le_of_ble_eq_true rfl))) .nil) (.cons DJ .nil) (lP (show 2<3 by omega)) (qW rfl) (.flat (.flat (.flat .nil))) ?_ rfl (by simp only[bJ];rw[aG hi,aG hj];exact hh) hbd (.inl rfl);simp only[gN];cases ob0.live<;>cases ob1.live<;>rfl
theorem ui(h:Hd):((fe h).w=true->∀i,i<64->8<=(fe h).a i/\8<=(fe h).b i)/\((fe h).w=false->∀i,i<64->(fe h).a i=0/\(fe h).b i=0):=by
 have:=(LB h).1;exact⟨this.yes,this.no⟩
theorem AZ{h:Hd}(hhr:pt h){pics:List tb}(hpp:∀j,j<pics.length->kj (pics.getD j default)){l:List Sm}(hll:∀j,j<l.length->iS (l.getD j default)):lG (pY h pics l):=by
 have hG:1<=(gO h).cols/\(gO h).cols<=3/\1<=(gO h).rows/\(gO h).rows<=3:=by
  have hfc:1<=(fe h).cols/\(fe h).cols<=8:=by show 1<=1+h.cols%2^3/\1+h.cols%2^3<=8;omega
  have hfr:1<=(fe h).rows/\(fe h).rows<=8:=by show 1<=1+h.rows%2^3/\1+h.rows%2^3<=8;omega
  refine⟨?_,?_,?_,?_⟩
  ·show 1<=1+(fe h).cols%3;omega
  ·show 1+(fe h).cols%3<=3;omega
  ·show 1<=1+(fe h).rows%3;omega
  ·show 1+(fe h).rows%3<=3;omega
 obtain⟨c0,c1,r0,r1⟩:=hG;have hlen:(pY h pics l).ps.length=lA pics:=kI ..;have hnp:1<=lA pics/\lA pics<=5:=by unfold lA;split<;>omega
 have hraw:∀i,kj (pics.getD i default):=fun i=>by
  by_cases hip:i<pics.length
  ·exact hpp i hip
  ·rw[List.getD_eq_getElem?_getD,List.getElem?_eq_none (by omega)];exact⟨by show(0:Int)<=0/\(0:Int)<=255;omega,by show(0:Int)<=0/\(0:Int)<=255;omega⟩
 refine⟨⟨⟨⟨c0,by show(gO h).cols<=8;omega,r0,by show(gO h).rows<=8;omega⟩,(ui h).1,(ui h).2⟩,?_,⟨c0,c1⟩,⟨r0,r1⟩,by omega,fun i hi=>?_⟩,fun p hp g hg m hm=>?_⟩
 ·intro i hi;have ht:=hhr.tab i hi;show(0<=(lX h).a i/\(lX h).a i<=255)/\(0<=(lX h).b i/\(lX h).b i<=255);unfold lX;split
  ·show(0<=max _ _/\max _ _<=255)/\(0<=max _ _/\max _ _<=255);omega
  ·show((0:Int)<=0/\(0:Int)<=255)/\((0:Int)<=0/\(0:Int)<=255);omega
 ·have e:(pY h pics l).ps.getD i default=FQ l ((gO h).cols*(gO h).rows).toNat i (pics.getD i default):=yS _ _ _ _ _ (by omega);rw[e];exact L8 hll _ i (by omega) (hraw i)
 ·obtain⟨i,hi,rfl⟩:=List.mem_iff_getElem.1 hp;have e:(pY h pics l).ps.getD i default=FQ l ((gO h).cols*(gO h).rows).toNat i (pics.getD i default):=yS _ _ _ _ _ (by omega);rw[List.getD_eq_getElem?_getD,List.getElem?_eq_getElem hi,Option.getD_some]at e;rw[e]at hg;exact Ce l _ _ _ _ _ _ g hg m hm
theorem z_{h:Hd}{c0 c1:XC}{na nb:Nat}{ob0 ob1:ak}[cA ob0][cA ob1](hc0:cS c0 0 0 na)(hc1:cS c1 1 0 nb) :
 bt prog 10 [.agg (rH h c0 c1)] [ob0,ob1] (.one (.bool (decide (na<=30)&&decide (nb<=300)))) [ob0,ob1]:=by
 by_cases h0:na<=30
 ·by_cases h1:nb<=300
  ·rw[decide_eq_true h0,decide_eq_true h1];refine cO Tryz.func10 ?_
   repeat' (first
    |(refine qz ?_;first
     |refine ld (c:=c0) ?_ (hc:=DE h c0 c1)
     |refine ld (c:=c1) ?_ (hc:=DF h c0 c1))
    |refine zz ?_|refine zx (fun _=>?_) (fun _=>?_)|fail)
   show aE _ _ _ _ _ _ _ _;refine kV [0,1] ?_;rfl
  ·rw[decide_eq_true h0,decide_eq_false h1];refine cO Tryz.func10 ?_
   repeat' (first
    |(refine qz ?_;first
     |refine ld (c:=c0) ?_ (hc:=DE h c0 c1)
     |refine ld (c:=c1) ?_ (hc:=DF h c0 c1))
    |refine zz ?_|refine zx (fun _=>?_) (fun _=>?_)|fail)
   show aE _ _ _ _ _ _ _ _;refine kV [0,1] ?_;rfl
 ·rw[decide_eq_false h0,Bool.false_and];refine cO Tryz.func10 ?_
  repeat' (first
   |(refine qz ?_;first
    |refine ld (c:=c0) ?_ (hc:=DE h c0 c1)
    |refine ld (c:=c1) ?_ (hc:=DF h c0 c1))
   |refine zz ?_|refine zx (fun _=>?_) (fun _=>?_)|fail)
  show aE _ _ _ _ _ _ _ _;refine kV [0,1] ?_;rfl
theorem mR{h:Hd}{c0 c1:XC}{na nb i j:Nat}{ob0 ob1:ak}(hf0:cA ob0)(hf1:cA ob1)(hc0:cS c0 i 0 na)(hc1:cS c1 j 0 nb){r:Bool}(hr:(decide (na<=30)&&decide (nb<=300))=r){HS:aj}(hi:HS[i]? = some ob0)(hj:HS[j]? = some ob1)(hij:i≠j)(hbd:Nat.blt HS.length Mem.bound=true) :
 aA.Sound prog ⟨10,[.agg (rH h c0 c1)],HS,.one (.bool r),HS,[]⟩:=by
 subst hr;obtain⟨d0,k0,rfl⟩:=hc0.Dx 0 (nth [i,j]) rfl;obtain⟨d1,k1,rfl⟩:=hc1.Dx 1 (nth [i,j]) rfl;exact fR [i,j] (z_ k0 k1) (by simp[hij]) (.flat hi (.flat hj .nil)) (.flat (.flat .nil)) (.cons (BY (k0.ok (Nat.le_of_ble_eq_true rfl)) (k1.ok (Nat.le_of_ble_eq_true rfl))) .nil) (.cons DJ .nil) trivial rfl hbd rfl
theorem G4:aM prog 30 (rH lr .nils .nils):=by
 show aM prog 30 ((.int .i64 0 :: .int .i64 0 :: .bool false::((ti .u8 64 fun _=>0)++(ti .u8 64 fun _=>0)))++[.nils,.nils])
 infer_instance
theorem DV:pt lr:=⟨by decide,by decide,fun i _=>⟨by show(0:Int)<=0/\(0:Int)<=255;decide,by show(0:Int)<=0/\(0:Int)<=255;decide⟩⟩
def Qf:tP:=pY lr [] []
theorem Oa:lG Qf:=AZ (pics:=[]) (l:=[]) DV (fun j h=>absurd h (Nat.not_lt_zero j)) (fun j h=>absurd h (Nat.not_lt_zero j))
end Go.Proofs.YthdciapjllppjaaGreat
namespace Go.Xm
theorem aA.Sound.Ua[aq]{P:Program}{f:FuncId}{args:List XV}{HS HS' new:aj}{v:XV}{ws:List Nat}(h:aA.Sound P ⟨f,args,HS,v,HS',ws⟩)(hh:HS++new=HS'):aA.Sound P ⟨f,args,HS,v,HS',[]⟩:=
 ⟨h.le,h.bnd,fun i hi _=>by subst hh;exact List.getElem?_append_left hi,h.call⟩
end Go.Xm
namespace Go.Proofs.YthdciapjllppjaaGreat
open Go.Xm
variable [aq]
theorem G_.more{L:List (List XC)}{cs:List XC}{ps:List (List Int)}(h:G_ L cs ps)(r:List (List XC)):G_ (L++r) cs ps:=⟨h.1,fun i hi=>qi.mono (h.2 i hi) r⟩
theorem NV.more{L:List (List XC)}{l:List Si}{fs:List Fa}(h:NV L l fs)(r:List (List XC)):NV (L++r) l fs:=⟨h.1,fun i hi=>⟨(h.2 i hi).1,qi.mono (h.2 i hi).2 r⟩⟩
end Go.Proofs.YthdciapjllppjaaGreat
