/-
  A part of the proof: WkR.
-/
import Derived.Test.YthdciapjllppjaaGreatWbZH
set_option maxRecDepth 10000
set_option maxHeartbeats 8000000
set_option linter.unusedVariables false
set_option linter.unusedSectionVars false
set_option linter.unusedSimpArgs false
open Go.Proofs.Tryz (prog)
namespace Go.Proofs.YthdciapjllppjaaGreat
open Go.Xm
variable [aq]
def bC(b:Bool):List XC:=[.bool b]
instance:nH bC 1:=⟨fun _=>rfl,fun _=>rfl,by decide⟩
theorem B_{l:List Bool}{i:Nat}(hi:i<l.length){b:Bool}(hb:l.getD i false=b):(fl bC l)[i]? = some (.bool b):=by
 have h:∀l:List Bool,fl bC l=l.map .bool:=fun l=>by
  induction l with
  | nil=>rfl
  | cons x l ih=>
    show [XC.bool x]++fl bC l=_;rw[ih];rfl
 rw[h,List.getElem?_map,List.getElem?_eq_getElem hi,<-hb,List.getD_eq_getElem?_getD,List.getElem?_eq_getElem hi];rfl
def BI(l:List Int):List Int:=l.map fun v=>sB .u8 v 2
theorem yC(l:List Int):(BI l).length=l.length:=List.length_map ..
theorem Ap{l:List Int}{i:Nat}(h:i<l.length):BI (l.take (i+1))=BI (l.take i)++[sB .u8 (l.getD i 0) 2]:=by
 rw[r7 l h];unfold BI;rw[List.map_append];rfl
theorem D3{l:List Int}(h:∀i,i<l.length->0<=l.getD i 0/\l.getD i 0<=255):∀x∈BI l,2<=x/\x<=255:=fun x hx=>by
 obtain⟨v,hv,rfl⟩:=List.mem_map.1 hx;obtain⟨j,hj,rfl⟩:=List.mem_iff_getElem.1 hv;have:=h j hj;rw[List.getD_eq_getElem?_getD,List.getElem?_eq_getElem hj,Option.getD_some]at this;exact Rb this
theorem Ai{l:List Int}(h:∀x∈l,0<=x/\x<256):bj l:=fun i=>by
 rw[List.getD_eq_getElem?_getD]
 by_cases hi:i<l.length
 ·rw[List.getElem?_eq_getElem hi];exact h _ (List.getElem_mem hi)
 ·rw[List.getElem?_eq_none (by omega)];show(0:Int)<=0/\(0:Int)<256;omega
theorem xf{all:Int}:∀l:List It,(∀x∈l,sT all x)->(∀n,.no n∈l->bj n)->bj (cU l)
 | [],_,_=>iX
 | x :: l,h,h2=>by
   rw[cy];refine gp ?_ (xf l (fun y hy=>h y (List.mem_cons_of_mem _ hy)) fun n hn=>h2 n (List.mem_cons_of_mem _ hn))
   cases x with
   | pk k=>
     obtain⟨_,a,b,e⟩:=h _ List.mem_cons_self;exact uT (by rw[<-e,oR];exact Nat.le_refl _) a b
   | hd y=>exact qD y
   | no n=>exact h2 n List.mem_cons_self
theorem ri{out:List Bool}{nz:List Int}{pks:List Pk}{q0:Nat}:∀i n,.no n∈(oC out nz pks q0 i).its->n=nz
 | 0,n,h=>nomatch h
 | i + 1, n,h=>by
   rw[oC]at h;unfold se at h;split at h
   ·exact ri i n h
   ·have h:It.no n∈ib nz i (oC out nz pks q0 i)++[.pk (pks.getD i default)]:=h
    rcases List.mem_append.1 h with h|h
    ·unfold ib at h;split at h
     ·rcases List.mem_append.1 h with h|h
      ·exact ri i n h
      ·have:=List.mem_singleton.1 h;cases this;rfl
     ·exact ri i n h
    ·have:=List.mem_singleton.1 h;cases this
theorem M4{out:List Bool}{nz:List Int}{pks:List Pk}{q0 i:Nat}{x:WS}(h:out.getD i false=true):se out nz pks q0 i x=x:=if_pos h
theorem EH{out:List Bool}{nz:List Int}{pks:List Pk}{q0 i:Nat}{x:WS}(h:out.getD i false=false):se out nz pks q0 i x=⟨ib nz i x++[.pk (pks.getD i default)],x.at_++[q0+(cU (ib nz i x)).length],x.wh++[i+1]⟩:=if_neg (by rw[h];decide)
theorem rh:∀l:List It,dN l<=(cU l).length
 | []=>Nat.le_refl _
 | .pk k::r=>by
   have:=rh r;rw[dN,cy,List.length_append];omega
 | .hd h::r=>by
   have:=rh r;rw[dN,cy,List.length_append,show(Il (.hd h)).length=(hZ h).length from rfl];omega
 | .no n::r=>by
   have:=rh r;rw[dN,cy,List.length_append,show(Il (.no n)).length=n.length from rfl];omega
theorem Q5(l:List Fo)(i:Nat):(l.getD i default).at_=(l.map (·.at_)).getD i 0:=by
 rw[List.getD_eq_getElem?_getD,List.getD_eq_getElem?_getD,List.getElem?_map];cases l[i]?<;>rfl
theorem M3{all:Int}{pks:List Pk}{q0 i:Nat}{x:WS}(h:N4 all pks q0 i x):(jt q0 x.its).length=x.at_.length/\∀j,j<x.at_.length->((jt q0 x.its).getD j default).at_=x.at_.getD j 0/\(1<=x.wh.getD j 0/\x.wh.getD j 0<=i)/\((jt q0 x.its).getD j default).k=pks.getD (x.wh.getD j 0-1) default:=by
 have e1:=congrArg List.length h.at_;rw[List.length_map]at e1;refine⟨e1,fun j hj=>⟨?_,?_,?_⟩⟩
 ·rw[Q5,h.at_]
 ·have hjw:j<x.wh.length:=by rw[h.len];exact hj
  refine h.wh _ ?_;rw[List.getD_eq_getElem?_getD,List.getElem?_eq_getElem hjw];exact List.getElem_mem hjw
 ·have hjw:j<x.wh.length:=by rw[h.len];exact hj
  rw[SO,yk,h.ks,List.getD_eq_getElem?_getD,List.getElem?_map,List.getElem?_eq_getElem hjw,List.getD_eq_getElem?_getD (l:=x.wh),List.getElem?_eq_getElem hjw];rfl
def nl(l:List Nat):List Int:=l.map (fun n:Nat=>(n:Int))
theorem IY(l:List Nat):(nl l).length=l.length:=List.length_map ..
theorem yw(l:List Nat)(n:Nat):nl (l++[n])=nl l++[(n:Int)]:=List.map_append ..
theorem ND(l:List Nat)(i:Nat):(nl l).getD i 0=((l.getD i 0:Nat):Int):=by
 unfold nl;rw[List.getD_eq_getElem?_getD,List.getD_eq_getElem?_getD,List.getElem?_map];cases l[i]?<;>rfl
theorem A3{h : Hd}(hhr:pt h){pics:List tb}(hpp:∀j,j<pics.length->kj (pics.getD j default)){l:List Sm}(hll:∀j,j<l.length->iS (l.getD j default)){ob0 ob1 ob2 ob3 ob4:ak}(hr0:BN ob0 eR pics)(hr1:BN ob1 tC l){out:List Bool}(hr2:BN ob2 bC out){noise ahead:List Int}(hr3:RO ob3 .u8 noise)(hr4:RO ob4 .u8 ahead)(hnz:∀i,i<noise.length->0<=noise.getD i 0/\noise.getD i 0<=255)(hah:∀i,i<ahead.length->0<=ahead.getD i 0/\ahead.getD i 0<=255){c0 c1 c2 c3 c4:XC}(hc0:cS c0 0 0 pics.length)(hc1:cS c1 1 0 l.length)(hc2:cS c2 2 0 out.length)(hc3:cS c3 3 0 noise.length)(hc4:cS c4 4 0 ahead.length) :
 bt prog 3 [.agg (rH h c0 c1),.one c2,.one c3,.one c4] [ob0,ob1,ob2,ob3,ob4] (.one (.bool true)) [ob0,ob1,ob2,ob3,ob4]:=by
 have hfo0:=hr0.flat;have hfo1:=hr1.flat;have hfo2:=hr2.flat;have hfo3:=hr3.flat;have hfo4:=hr4.flat
 obtain⟨r1,hr1'⟩:∃r,(decide (pics.length<=30)&&decide (l.length<=300))=r:=⟨_,rfl⟩
 have hb133:133=(rH h c0 c1).length:=(DG _ _ _).symm;refine cO Tryz.func3 ?_
 cases r1 with
 | false=>
   repeat' (first
    |(refine qz ?_;first
     |refine cl ?_ (hi:=by exact mF rfl)
     |refine jI ?_ (hle:=hb133)
     |refine cl ?_ (hi:=by exact mR hfo0 hfo1 hc0 hc1 hr1' (i:=0) (j:=1) rfl rfl (by decide) rfl))
    |refine zz ?_|refine zx (fun _=>?_) (fun _=>?_)|fail)
   show aE _ _ _ _ _ _ _ _;refine kV [0,1,2,3,4] ?_;rfl
 | true =>
   by_cases hn50:noise.length<=50
   ·by_cases ha50 : ahead.length<=50
    ·have hlt := hr1';simp only[Bool.and_eq_true,decide_eq_true_eq]at hr1';obtain⟨hn0,hn1⟩:=hr1';have hlow:=AZ hhr hpp hll;have hno:(pY h pics l).hd.w=false->∀j,j<64->(pY h pics l).hd.a j=0/\(pY h pics l).hd.b j=0:=A0 h;have hlay:=Ix (pY h pics l).ps
     obtain⟨s,hs⟩:∃s,pY h pics l=s:=⟨_,rfl⟩
     rw[hs]at hlow hlay hno;have hok:=hlow.ok;have hko:=OY hlow;have hk2:=Mg hlow;have hplen:=Md s;have hp00:(iF s).getD 0 []=hZ s.hd:=rfl;have hpk:∀j,j<(lx s).length->(iF s).getD (j+1) []=R9 ((lx s).getD j default):=fun j hj=>Mh s hj
     have hpo:∀j,j<(lx s).length->sT (s.hd.cols*s.hd.rows) (.pk ((lx s).getD j default))/\cx ((lx s).getD j default)<=70000:=fun j hj=>by
      refine⟨(Mf hlow ?_).2.2.2,?_⟩
      ·rw[List.getD_eq_getElem?_getD,List.getElem?_eq_getElem hj];exact List.getElem_mem hj
      ·rw[<-D7,<-hpk j hj];exact hko.few _
     obtain⟨pks,hpks⟩:∃x,lx s=x:=⟨_,rfl⟩
     rw[hpks]at hplen hpk hpo
     obtain⟨M,hM⟩:∃M,pks.length=M:=⟨_,rfl⟩
     rw[hM]at hplen hpk hpo
     obtain⟨w,hw⟩:∃w,wide s.ps=w:=⟨_,rfl⟩
     obtain⟨B,hB⟩:∃B,Fx s.ps=B:=⟨_,rfl⟩
     obtain⟨np,hnp⟩:∃n,s.ps.length=n:=⟨_,rfl⟩
     rw[hw,hB]at hlay;have hbs:G_ (wq (iF s)) (ik 0 (iF s)) (iF s):=LO;have hbl:=Fw (iF s)
     obtain⟨ps,hps⟩:∃p,iF s=p:=⟨_,rfl⟩
     rw[hps]at hko hbs hbl hk2 hplen hp00 hpk
     obtain⟨m,hm⟩:∃m,ps.length=m:=⟨_,rfl⟩
     obtain⟨PL,hPL⟩:∃P,wq ps=P:=⟨_,rfl⟩
     rw[hPL]at hbs hbl;rw[hm]at hbl hplen hk2;have hMm:m=M+1:=hplen;have hM0:M≠0:=by omega
     have hm46:=hko.many;rw[hm]at hm46
     have hbx:∀j,j<m->(ik 0 ps)[j]? = some (.lsl 0 j 0 (ps.getD j []).length (ps.getD j []).length 0):=fun j hj=>by
      have:=x8 ps 0 j (by omega);rw[List.getD_eq_getElem?_getD,List.getElem?_eq_getElem (show j<(ik 0 ps).length by rw[nP];omega),Option.getD_some,Nat.zero_add]at this;rw[List.getElem?_eq_getElem (show j<(ik 0 ps).length by rw[nP];omega),this]
     have hPe:∀j,j<m->PL[j]? = some (il .u8 (ps.getD j [])):=fun j hj=>by
      rw[<-hPL];unfold wq;rw[List.getElem?_append_left (by rw[List.length_map,hm];exact hj),List.getElem?_map,List.getElem?_eq_getElem (show j<ps.length by omega),List.getD_eq_getElem?_getD,List.getElem?_eq_getElem (show j<ps.length by omega)];rfl
     have hyl:=jX s.hd
     repeat' (first
      |(refine qz ?_;first
       |refine cl ?_ (hi:=by exact mF rfl)
       |refine jI ?_ (hle:=hb133)
       |refine cl ?_ (hi:=by exact mR hfo0 hfo1 hc0 hc1 hlt (i:=0) (j:=1) rfl rfl (by decide) rfl)
       |refine cl ?_ (hi:=by exact xE hhr hpp hll hr0 hr1 (i:=0) (j:=1) hc0 hc1 hn0 hn1 rfl rfl (by decide) hs hw hnp hB nL nA rfl)
       |refine jU (zs:=fJ lr .nils) (hz:=zm) ?_
       |refine nD (cs:=fJ s.hd (.lsl 6 w 0 np np 0)) ?_ (hs1:=(dh _ _).symm) (hs2:=(dh _ _).symm)
       |refine jI ?_ (hle:=(dh _ _).symm)
       |refine cl ?_ (hi:=by exact Cw hlow hlay hnp hps hm hPL (i:=6) rfl nL nA rfl)
       |refine t5 (zs:=[.int .u8 0]) ?_)
      |refine lq 10 ?_|refine zz ?_|refine zx (fun _=>?_) (fun _=>?_)|fail)
     refine⟨?_⟩
     repeat' (first|refine zz ?_|refine zx (fun _=>?_) (fun _=>?_)|fail)
     refine WX.cw (σ:=Nat×pr×Bool) (fun t=>[(1,.one c2),(3,.one c4),(9,.ptr 7 0 |> .one),(10,.one (.lsl 8 m 0 m m 0)),(52,.one c3),(53,.one (.int .i64 (noise.length:Nat))),(12,.one (.slice 9 0 (t.1+1) t.2.1)),(54,.one (.int .i64 (t.1:Nat)))]) (fun t=>[ob0,ob1,ob2,ob3,ob4,.dead,.dead,.cells (fJ s.hd (.lsl 6 w 0 np np 0)) 36 false false,.late PL,.cells (il .u8 (255::BI (noise.take t.1))) 5 t.2.2 false]) (fun t=>t.1<=noise.length/\(t.2.1 = .exact (t.1+1)\/(t.2.1 = .toEnd 1/\t.2.2=true/\0<t.1+1))) (fun t=>noise.length-t.1) (0,.exact 1,false) ⟨Nat.zero_le _,.inl rfl⟩ (fun t _=>(stM (objs:=by repeat' (first|exact ax.nil|refine ax.flat ?_|refine ax.cons (lP (show 6<_ from Nat.le_of_ble_eq_true rfl)) ?_|refine ax.cons trivial ?_)))) (bW [0,1,2,3,4,5,6,7,8,9] (obj:=by(repeat' (first|exact ae.nil|refine oz ?_));first|done|fail)) ?_;intro t ⟨hle,hcap⟩ ih;obtain⟨i,cp,opn⟩:=t;dsimp only at hle hcap ⊢
     by_cases hlt4:i<noise.length
     ·have hb:=hnz i hlt4;have hs1:il .u8 (255::BI (noise.take (i+1)))=il .u8 (255::BI (noise.take i))++[.int .u8 (sB .u8 (noise.getD i 0) 2)]:=by rw[Ap hlt4,<-List.cons_append,<-oS];rfl
      have hcl:(il .u8 (255::BI (noise.take i))).length=(i+1)*1:=by rw[bz,List.length_cons,yC,List.length_take];omega
      repeat' (first
       |(refine qz ?_;first
        |refine t5 (zs:=[.int .u8 0]) ?_
        |refine Tk 9 (i+1) hcap ?_ ?_ (hn:=hcl))
       |refine zz ?_|refine zx (fun _=>?_) (fun _=>?_)|fail)
      ·exact ih (i+1,.toEnd 1,true) _ _ _ (bW [0,1,2,3,4,5,6,7,8,11] (obj:=by(repeat' (first|exact ae.nil|refine ae.flat (by rw[hs1];rfl) ?_|refine oz ?_));first|done|fail)) ⟨by show i+1<=noise.length;omega,.inr ⟨rfl,rfl,Nat.succ_pos _⟩⟩ (by show noise.length-(i+1)<noise.length-i;omega)
      ·exact ih (i+1,.toEnd 1,true) _ _ _ (bW [0,1,2,3,4,5,6,7,8,11] (obj:=by(repeat' (first|exact ae.nil|refine ae.flat (by rw[hs1];rfl) ?_|refine oz ?_));first|done|fail)) ⟨by show i+1<=noise.length;omega,.inr ⟨rfl,rfl,Nat.succ_pos _⟩⟩ (by show noise.length-(i+1)<noise.length-i;omega)
     ·obtain rfl : i=noise.length:=by omega
      rw[List.take_length];have hnz2:=D3 hnz;have hnzl:(255::BI noise).length=noise.length+1:=by rw[List.length_cons,yC]
      have hnzg:∀x∈255::BI noise,2<=x/\x<=255:=fun x hx=>by
       rcases List.mem_cons.1 hx with rfl|hx
       ·omega
       ·exact hnz2 x hx
      obtain⟨nz,hnze⟩:∃z,255::BI noise=z:=⟨_,rfl⟩
      rw[hnze]at hnzl hnzg ⊢;clear ih;refine WX.cc rfl ?_;refine WX.cc rfl ?_;refine WX.cc rfl ?_
      repeat' (first|refine zz ?_|refine zx (fun _=>?_) (fun _=>?_)|fail)
      refine WX.cw (σ:=Nat) (fun i=>[(1,.one c2),(9,.ptr 7 0 |> .one),(10,.one (.lsl 8 m 0 m m 0)),(12,.one (.slice 9 0 (noise.length+1) cp)),(64,.one c4),(65,.one (.int .i64 (ahead.length:Nat))),(15,gJ 10 (BI (ahead.take i)).length 1),(66,.one (.int .i64 (i:Nat)))]) (fun i=>[ob0,ob1,ob2,ob3,ob4,.dead,.dead,.cells (fJ s.hd (.lsl 6 w 0 np np 0)) 36 false false,.late PL,.cells (il .u8 nz) 5 opn false,bU 5 (il .u8 (BI (ahead.take i))),.dead,.dead]) (fun i=>i<=ahead.length) (fun i=>ahead.length-i) 0 (Nat.zero_le _) (fun i _=>(stM (objs:=by repeat' (first|exact ax.nil|refine ax.flat ?_|refine ax.cons (lP (show 6<_ from Nat.le_of_ble_eq_true rfl)) ?_|refine ax.cons trivial ?_)))) (bW [0,1,2,3,4,5,6,7,8,9,10,11,12] (obj:=by(repeat' (first|exact ae.nil|refine oz ?_));first|done|fail)) ?_;intro i hi ih;have hal:(BI (ahead.take i)).length=i:=by rw[yC,List.length_take];omega
      by_cases hlt5:i<ahead.length
      ·have hb:=hah i hlt5;have hs1:=Ap hlt5
       repeat' (first|refine zz ?_|refine zx (fun _=>?_) (fun _=>?_)|fail)
       exact ih (i+1) _ _ _ (bW [0,1,2,3,4,5,6,7,8,9,14,11,12] (obj:=by(repeat' (first|exact ae.nil|refine ae.flat (by rw[hs1];rfl) ?_|refine oz ?_));first|done|fail) (reg:=by(repeat' (first|exact ai.nil|refine ai.lO rfl rfl (by rw[hs1,List.length_append];rfl) ?_|refine rz ?_|refine ai.sl rfl (by assumption) rfl ?_));first|done|fail)) (by omega) (by omega)
      ·obtain rfl:i=ahead.length:=by omega
       clear ih;rw[List.take_length]at hal ⊢;have haz:=D3 hah
       obtain⟨ah,hahe⟩:∃z,BI ahead=z:=⟨_,rfl⟩
       rw[hahe]at hal haz ⊢;rw[hal];have hp0:=hbx 0 (by omega);have hp0e:=hPe 0 (by omega);rw[hp00]at hp0 hp0e
       obtain⟨y,hy⟩:∃y,(hZ s.hd).length=y:=⟨_,rfl⟩
       have hprel:(ah++hZ s.hd).length=ahead.length+y:=by rw[List.length_append,hal,hy]
       obtain⟨Y0,hY0⟩:∃z,hZ s.hd=z:=⟨_,rfl⟩
       rw[hY0]at hp0 hp0e hy hyl hprel;rw[hy]at hp0 hyl;have hp0s:qi PL 8 (.lsl 8 0 0 y y 0) (il .u8 Y0) Y0.length:=by rw[hy];exact .inr ⟨_,_,Nat.le_refl _,rfl,hp0e⟩
       obtain⟨pre,hpre⟩:∃z,ah++Y0=z:=⟨_,rfl⟩
       rw[hpre]at hprel
       obtain⟨q0,hq0⟩:∃q,ahead.length+y=q:=⟨_,rfl⟩
       have hws:=fun i (hi:i<=pks.length)=>NS (all:=s.hd.cols*s.hd.rows) (out:=out) (q0:=q0) (fun x hx=>(hnzg x hx).1) (by omega) (fun j hj=>hpo j (by omega)) i hi
       have hXs:=fun i=>show oC out nz pks q0 (i+1)=se out nz pks q0 i (oC out nz pks q0 i)from rfl
       have hX0:oC out nz pks q0 0=⟨[],[],[]⟩:=rfl;have hXn:=fun i n h=>ri (out:=out) (nz:=nz) (pks:=pks) (q0:=q0) i n h
       obtain⟨X,hX⟩:∃X,oC out nz pks q0=X:=⟨_,rfl⟩
       rw[hX]at hXs hX0 hXn;rw[hM,hX]at hws
       repeat' (first
        |(refine qz ?_;first
         |refine l5 ?_
         |refine qJ ?_ hbl hp0 rfl
         |refine Hq hp0s ?_
         |refine Ty (p:=1) (q:=m) ?_
         |refine kD ?_)
        |refine zz ?_|refine zx (fun _=>?_) (fun _=>?_)|fail)
       rw[show m-1=M by omega,hpre];have hpn:pre++cU (X 0).its=pre:=by rw[hX0];exact List.append_nil _
       have hat0:nl (X 0).at_ = []:=by rw[hX0];rfl
       have hwh0:nl (X 0).wh = []:=by rw[hX0];rfl
       have hle0:(X 0).at_.length=0/\(X 0).wh.length=0:=by rw[hX0];exact⟨rfl,rfl⟩
       have hwa0:((ahead.length+dN (X 0).its:Nat):Int)=(ahead.length:Nat):=by rw[hX0];rfl
       refine WX.cw (σ:=Nat) (fun i=>[(1,.one c2),(9,.one (.ptr 7 0)),(10,.one (.lsl 8 m 0 m m 0)),(12,.one (.slice 9 0 (noise.length+1) cp)),(84,.one (.lsl 8 m 1 M M 1)),(85,.one (.int .i64 (M:Nat))),(15,gJ 10 (pre++cU (X i).its).length 1),(18,.one (.int .i64 ((ahead.length+dN (X i).its:Nat):Int))),(19,gJ 11 (X i).at_.length 1),(20,gJ 12 (X i).wh.length 1),(86,.one (.int .i64 (i:Nat)))]) (fun i=>[ob0,ob1,ob2,ob3,ob4,.dead,.dead,.cells (fJ s.hd (.lsl 6 w 0 np np 0)) 36 false false,.late PL,.cells (il .u8 nz) 5 opn false,bU 5 (il .u8 (pre++cU (X i).its)),bU 3 (il .i64 (nl (X i).at_)),bU 3 (il .i64 (nl (X i).wh))]) (fun i=>i<=M) (fun i=>M-i) 0 (Nat.zero_le _) (fun i _=>(stM (objs:=by repeat' (first|exact ax.nil|refine ax.flat ?_|refine ax.cons (lP (show 6<_ from Nat.le_of_ble_eq_true rfl)) ?_|refine ax.cons trivial ?_)))) (bW [0,1,2,3,4,5,6,7,8,9,13,11,12] (obj:=by(repeat' (first|exact ae.nil|refine ae.flat (by rw[hpn];rfl) ?_|refine ae.flat (by rw[hat0];rfl) ?_|refine ae.flat (by rw[hwh0];rfl) ?_|refine oz ?_));first|done|fail) (reg:=by(repeat' (first|exact ai.nil|refine ai.flat (by rw[hwa0];rfl) ?_|refine ai.lO rfl rfl (by rw[hpn];omega) ?_|refine ai.lO (k':=11) (n':=0) (sz:=1) rfl rfl hle0.1.symm ?_|refine ai.lO (k':=12) (n':=0) (sz:=1) rfl rfl hle0.2.symm ?_|refine rz ?_|refine ai.sl rfl (by assumption) rfl ?_));first|done|fail)) ?_;intro i hi ih;have hwi:=hws i hi;have hxs:=hXs i;have hxn:=hXn i
       obtain⟨x,hx⟩:∃x,X i=x:=⟨_,rfl⟩
       rw[hx]at hwi hxs hxn ⊢;have hxl:=hwi.len;have hxc:=hwi.cnt;have hxf:=hwi.few;have hnla:=IY x.at_;have hnlw:=IY x.wh;have hxw:=rh x.its
       obtain⟨bq,hbq⟩:∃b,pre++cU x.its=b:=⟨_,rfl⟩
       have hbql:bq.length=q0+(cU x.its).length:=by rw[<-hbq,List.length_append,hprel];omega
       have hi45:i<=45:=by omega
       have hbq2:bq.length<=10000000:=by omega
       rw[hbq]
       by_cases hlt6:i<M
       ·have hbi:=hbx (1+i) (by omega);have hpei:=hPe (1+i) (by omega);have hpfew:=hko.few (1+i);have hpbody:=hko.body (1+i) (by omega) (by omega);have hpki:=hpk i hlt6;rw[Nat.add_comm i 1]at hpki
        obtain⟨p,hp⟩:∃p,ps.getD (1+i) []=p:=⟨_,rfl⟩
        obtain⟨k,hk⟩:∃k,pks.getD i default=k:=⟨_,rfl⟩
        rw[hp]at hbi hpei hpfew hpbody hpki;rw[hk]at hpki;have hpsl:qi PL 8 (.lsl 8 (1+i) 0 p.length p.length 0) (il .u8 p) p.length := .inr ⟨_,_,Nat.le_refl _,rfl,hpei⟩;have hitp:cU [It.pk k]=p:=by rw[hpki];exact List.append_nil _
        obtain⟨o,ho⟩:∃o,out.getD i false=o:=⟨_,rfl⟩
        cases o with
        | true=>
          have hio:i<out.length:=by
           by_cases hio:i<out.length
           ·exact hio
           ·rw[List.getD_eq_getElem?_getD,List.getElem?_eq_none (by omega)]at ho;cases ho
          obtain⟨e,op2,ro2,he⟩:=hr2.get (by omega);have hob:=B_ hio ho;have ih2:=ih (i+1);rw[hxs,M4 ho,hbq]at ih2
          repeat' (first
           |(refine qz ?_;first
            |refine l5 ?_
            |refine qJ ?_ hbl hbi rfl
            |refine kD ?_
            |refine ld ?_ (hi:=congrArg some he) (hc:=hob))
           |refine zz ?_|refine zx (fun _=>?_) (fun _=>?_)|fail)
          exact ih2 _ _ _ (bW [0,1,2,3,4,5,6,7,8,9,10,11,12] (obj:=by(repeat' (first|exact ae.nil|refine oz ?_));first|done|fail)) (by omega) (by omega)
        | false =>
          have ih2:=ih (i+1)
          by_cases hm3:i%3=2/\x.at_.length≠0
          ·have hmid:ib nz i x=x.its++[.no nz]:=if_pos hm3;have hino:cU [It.no nz]=nz:=List.append_nil _;have eb:pre++cU (x.its++[.no nz]++[.pk k])=(bq++nz)++p:=by rw[lZ,lZ,hino,hitp,<-hbq,List.append_assoc,List.append_assoc,List.append_assoc]
           have ew:dN (x.its++[.no nz]++[.pk k])=dN x.its+nz.length:=by rw[kg,kg];rfl
           have el:q0+(cU (x.its++[.no nz])).length=bq.length+(noise.length+1):=by rw[lZ,hino,List.length_append,hnzl,hbql];omega
           have hqn:(bq++nz).length=bq.length+(noise.length+1):=by rw[List.length_append,hnzl]
           have e5:((ahead.length+(dN x.its+nz.length):Nat):Int)=((ahead.length+dN x.its:Nat):Int)+((noise.length+1:Nat):Int):=by omega
           rw[hxs,EH ho,hk,hmid]at ih2;dsimp only at ih2;rw[eb,ew,el,yw,yw]at ih2
           by_cases hio:i<out.length
           ·obtain⟨e,op2,ro2,he⟩:=hr2.get (by omega);have hob:=B_ hio ho
            repeat' (first
             |(refine qz ?_;first
              |refine l5 ?_
              |refine qJ ?_ hbl hbi rfl
              |refine kD ?_
              |refine ld ?_ (hi:=congrArg some he) (hc:=hob)
              |refine Hq hpsl ?_)
             |refine zz ?_|refine zx (fun _=>?_) (fun _=>?_)|fail)
            exact ih2 _ _ _ (bW [0,1,2,3,4,5,6,7,8,9,18,15,17] (obj:=by(repeat' (first|exact ae.nil|refine oz ?_));first|done|fail) (reg:=by(repeat' (first|exact ai.nil|refine ai.flat (by rw[e5];rfl) ?_|refine ai.lO rfl rfl (by simp only[List.length_append];rfl) ?_|refine rz ?_|refine ai.sl rfl (by assumption) rfl ?_));first|done|fail)) (by omega) (by omega)
           ·repeat' (first
             |(refine qz ?_;first
              |refine l5 ?_
              |refine qJ ?_ hbl hbi rfl
              |refine kD ?_
              |refine Hq hpsl ?_)
             |refine zz ?_|refine zx (fun _=>?_) (fun _=>?_)|fail)
            exact ih2 _ _ _ (bW [0,1,2,3,4,5,6,7,8,9,18,15,17] (obj:=by(repeat' (first|exact ae.nil|refine oz ?_));first|done|fail) (reg:=by(repeat' (first|exact ai.nil|refine ai.flat (by rw[e5];rfl) ?_|refine ai.lO rfl rfl (by simp only[List.length_append];rfl) ?_|refine rz ?_|refine ai.sl rfl (by assumption) rfl ?_));first|done|fail)) (by omega) (by omega)
          ·have hmid:ib nz i x=x.its:=if_neg hm3;have eb:pre++cU (x.its++[.pk k])=bq++p:=by rw[lZ,hitp,<-hbq,List.append_assoc]
           have ew:dN (x.its++[.pk k])=dN x.its:=by rw[kg];rfl
           have el:q0+(cU x.its).length=bq.length:=hbql.symm;rw[hxs,EH ho,hk,hmid]at ih2;dsimp only at ih2;rw[eb,ew,el,yw,yw]at ih2
           by_cases hio:i<out.length
           ·obtain⟨e,op2,ro2,he⟩:=hr2.get (by omega);have hob:=B_ hio ho
            repeat' (first
             |(refine qz ?_;first
              |refine l5 ?_
              |refine qJ ?_ hbl hbi rfl
              |refine kD ?_
              |refine ld ?_ (hi:=congrArg some he) (hc:=hob)
              |refine Hq hpsl ?_)
             |refine zz ?_|refine zx (fun _=>?_) (fun _=>?_)|fail)
            ·exact ih2 _ _ _ (bW [0,1,2,3,4,5,6,7,8,9,17,14,16] (obj:=by(repeat' (first|exact ae.nil|refine oz ?_));first|done|fail) (reg:=by(repeat' (first|exact ai.nil|refine ai.lO rfl rfl (by simp only[List.length_append];rfl) ?_|refine rz ?_|refine ai.sl rfl (by assumption) rfl ?_));first|done|fail)) (by omega) (by omega)
            ·exact ih2 _ _ _ (bW [0,1,2,3,4,5,6,7,8,9,17,14,16] (obj:=by(repeat' (first|exact ae.nil|refine oz ?_));first|done|fail) (reg:=by(repeat' (first|exact ai.nil|refine ai.lO rfl rfl (by simp only[List.length_append];rfl) ?_|refine rz ?_|refine ai.sl rfl (by assumption) rfl ?_));first|done|fail)) (by omega) (by omega)
           ·repeat' (first
             |(refine qz ?_;first
              |refine l5 ?_
              |refine qJ ?_ hbl hbi rfl
              |refine kD ?_
              |refine Hq hpsl ?_)
             |refine zz ?_|refine zx (fun _=>?_) (fun _=>?_)|fail)
            ·exact ih2 _ _ _ (bW [0,1,2,3,4,5,6,7,8,9,17,14,16] (obj:=by(repeat' (first|exact ae.nil|refine oz ?_));first|done|fail) (reg:=by(repeat' (first|exact ai.nil|refine ai.lO rfl rfl (by simp only[List.length_append];rfl) ?_|refine rz ?_|refine ai.sl rfl (by assumption) rfl ?_));first|done|fail)) (by omega) (by omega)
            ·exact ih2 _ _ _ (bW [0,1,2,3,4,5,6,7,8,9,17,14,16] (obj:=by(repeat' (first|exact ae.nil|refine oz ?_));first|done|fail) (reg:=by(repeat' (first|exact ai.nil|refine ai.lO rfl rfl (by simp only[List.length_append];rfl) ?_|refine rz ?_|refine ai.sl rfl (by assumption) rfl ?_));first|done|fail)) (by omega) (by omega)
       ·obtain rfl:M=i:=by omega
        clear ih;have hb2:bq=ah++(hZ s.hd++cU x.its):=by rw[<-hbq,<-hpre,hY0,List.append_assoc]
        have hfh:=Fk (fun x hx=>(haz x hx).1) hb2;have hdr0:bq.drop ahead.length=hZ s.hd++cU x.its:=by rw[hb2,List.drop_left' hal]
        have hdr1:bq.drop (ahead.length+y)=cU x.its:=by rw[<-List.drop_drop,hdr0,List.drop_left' (by rw[hY0,hy])]
        have hat:=DS hok.hd hok.raw hno hwi.ok hdr0 rfl hwi.hd;rw[hY0,hy]at hat
        have hbB:bj bq:=by
         rw[hb2];exact gp (Ai fun v hv=>by have:=haz v hv;omega) (gp (qD _) (xf _ hwi.ok fun n hn=>by rw[hxn n hn];exact Ai fun v hv=>by have:=hnzg v hv;omega))
        obtain⟨nq,hnq⟩:∃n,bq.length=n:=⟨_,rfl⟩
        rw[hnq]at hfh hat hbql hbq2;rw[hal]at hfh;have hwf:=M3 hwi;have heq:=Ns s.hd;have hsb:bU 5 (il .u8 bq) = .cells (il .u8 bq) 5 true false:=vr (by omega)
        obtain⟨kk,hkk⟩:∃kk,PL.length=kk:=⟨_,rfl⟩
        have hmk:m<kk:=by rw[<-hkk];exact(List.getElem?_eq_some_iff.1 hbl).1
        have hWk:(PL++[il .u8 bq])[kk]? = some (il .u8 bq):=by
         rw[List.getElem?_append_right (by omega),hkk,Nat.sub_self];rfl
        have hWl:(PL++[il .u8 bq])[m]? = some (ik 0 ps):=by
         rw[List.getElem?_append_left (by omega)];exact hbl
        rw[hsb,hnq,fm (show nq≠0 by omega)]
        repeat' (first|refine lq 35 ?_|refine uo 35 ?_|refine Nv 35 ?_|refine zz ?_|refine zx (fun _=>?_) (fun _=>?_)|fail)
        refine⟨?_⟩;refine WX.sW (L:=PL) (vs:=il .u8 bq) (us:=il .u8 bq) 10 8 nq (.toEnd 1) [(9,.one (.ptr 7 0)),(10,.one (.lsl 8 m 0 m m 0)),(15,.one (.lsl 8 kk 0 nq nq 0)),(18,.one (.int .i64 ((ahead.length+dN x.its:Nat):Int))),(19,gJ 11 x.at_.length 1),(20,gJ 12 x.wh.length 1)] [ob0,ob1,ob2,ob3,ob4,.dead,.dead,.cells (fJ s.hd (.lsl 6 w 0 np np 0)) 36 false false,.late (PL++[il .u8 bq]),.dead,.dead,bU 3 (il .i64 (nl x.at_)),bU 3 (il .i64 (nl x.wh))] (m:=kk) (gD .u8 _ _) (.inr ⟨1,rfl,Nat.one_pos,by rw[bz,hnq];omega⟩) hkk (hv:=eU (gD .u8 _ 0) 8) (hH:=by repeat' (first|exact bd.nil|refine bd.ghost ?_|refine bd.dead ?_|refine bd.flat rfl ?_|refine bd.cells rfl (dP.same (j0 (fun h=>absurd h (by decide)))) ?_)) (hR:=by repeat' (first|exact gX.nil|refine gX.flat rfl ?_|refine gX.one rfl nJ.Ca ?_|refine gX.one rfl (nJ.same (vq (by decide))) ?_|refine gX.one rfl (nJ.same (by first|(intro h;omega)|decide)) ?_)) (hok:=(stM (objs:=by repeat' (first|exact ax.nil|refine ax.flat ?_|refine ax.cons (lP (show 6<_ from Nat.le_of_ble_eq_true rfl)) ?_|refine ax.cons trivial ?_)))) (h:=?_)
        by_cases h0:x.at_.length=0
        ·have hf1:findF (dB bq 0) nq (ahead.length+y)=none:=by
          rw[hwi.emp h0]at hbql;exact nX (by rw[hbql,<-hq0];show ahead.length+y+0<=_;omega)
         have hln:nq=ahead.length+y:=by rw[hbql,hwi.emp h0,<-hq0];rfl
         have hwz:dN x.its=0:=by rw[hwi.emp h0];rfl
         repeat' (first
          |(refine qz ?_;first
           |refine cl ?_ (hi:=by exact EE (g:=8) hWk hnq (by omega) hfh.1 hfh.2 hat hf1 (pw:=(ahead.length:Nat)) (wk:=((ahead.length+1+y:Nat):Int)) (by omega) (by omega) rfl rfl)
           |refine jU (zs:=gV lr false .nils 0 0) (hz:=lS) ?_
           |refine nD (cs:=gV s.hd true .nils (ahead.length:Nat) ((ahead.length+1+y:Nat):Int)) ?_ (hs1:=by rw[bc]) (hs2:=by rw[bc])
           |refine kD ?_
           |refine ld ?_ (hc:=Kr ..)
           |refine ld ?_ (hc:=Ks ..)
           |refine ld ?_ (hc:=oy ..)
           |refine ld ?_ (hc:=oA ..)
           |refine qI (cs:=b9 s.hd) ?_ (hle:=by rw[bc];decide) (hc:=C5 ..)
           |refine qI (cs:=b9 s.hd) ?_ (hle:=by rw[dh];decide) (hc:=r6 ..)
           |refine Ti heq ?_)
          |refine zz ?_|refine zx (fun _=>?_) (fun _=>?_)|fail)
         repeat' (first|refine WX.loop ?_|refine WX.round (c := .seq (.region 40 _ _) _) ?_|refine zz ?_|refine zx (fun _=>?_) (fun _=>?_)|fail)
         show aE _ _ _ _ _ _ _ _;refine kV [0,1,2,3,4] ?_;rfl
        ·obtain⟨F,hF⟩:∃F,(nC (ahead.length+y) x.its).foldl w9 ⟨ahead.length+y,(ahead.length:Nat),(ahead.length:Nat)+1+(y:Nat),[]⟩=F:=⟨_,rfl⟩
         have hst:Steps bq nq (s.hd.cols*s.hd.rows) (ahead.length+y) (nC (ahead.length+y) x.its):=qY hnq x.its (ahead.length+y) (ahead.length+y) hwi.ok hdr1 (by omega) (Nat.le_refl _) fun j h1 h2=>by omega
         have hw9:=tH x.its (ahead.length+y) ⟨ahead.length+y,(ahead.length:Nat),(ahead.length:Nat)+1+(y:Nat),[]⟩ (Nat.le_refl _) (by show(0:Int)<=(ahead.length:Nat)+1+(y:Nat);omega) (by show((ahead.length:Nat):Int)+1+(y:Nat)<=2*((ahead.length+y:Nat):Int)+2;omega);rw[hF]at hw9;obtain⟨k1,k2,k3,k4,k5⟩:=hw9;have k1:F.acc=jt (ahead.length+y) x.its:=k1;have k2:F.passed+(((ahead.length+y+(cU x.its).length:Nat):Int)-(F.at_:Nat))=((ahead.length:Nat):Int)+(((ahead.length+y:Nat):Int)-((ahead.length+y:Nat):Int))+(dN x.its:Nat):=k2
         have hpw:F.passed+((nq:Int)-(F.at_:Nat))=((ahead.length+dN x.its:Nat):Int):=by
          rw[hbql,<-hq0,k2];omega
         rw[hq0]at k1
         obtain⟨fo,hfo⟩:∃fo,jt q0 x.its=fo:=⟨_,rfl⟩
         rw[hfo]at hwf k1;obtain⟨hfol,hff⟩:=hwf
         obtain⟨wk,hwk⟩:∃wk,F.work+((nq:Int)-(F.at_:Nat))=wk:=⟨_,rfl⟩
         have hwk2:0<=wk/\wk<=2*(nq:Int)+2:=by omega
         obtain⟨XX,hXX⟩:∃X,BF fo++[pj 0 0 fo]=X:=⟨_,rfl⟩
         obtain⟨cn,hcn⟩:∃c,x.at_.length=c:=⟨_,rfl⟩
         rw[hcn]at hfol hff h0 hxl hxc hnla
         have hXl:XX[2*cn]? = some (pj 0 0 fo):=by
          rw[<-hXX,List.getElem?_append_right (by rw[oQ,hfol];exact Nat.le_refl _),oQ,hfol,Nat.sub_self];rfl
         have hfun:∀i,i<cn->((pj 0 0 fo).drop (i*12)).take 12=H6 0 i (fo.getD i default):=fun i hi=>by
          have:=H7 0 fo 0 i (by omega);rwa [Nat.zero_add]at this
         have hrl2:(pj 0 0 fo).length=cn*12:=by rw[tg,hfol]
         rw[hxl]at hnlw;rw[hcn,hxl]
         repeat' (first
          |(refine qz ?_;first
           |refine cl ?_ (hi:=by exact PT (g:=8) hWk hnq (by omega) hbB hfh.1 hfh.2 hat hst hF k1 hfol h0 hpw hwk hXX rfl nL nA rfl)
           |refine jU (zs:=gV lr false .nils 0 0) (hz:=lS) ?_
           |refine nD (cs:=gV s.hd true (.lsl 13 (2*cn) 0 cn cn 0) ((ahead.length+dN x.its:Nat):Int) wk) ?_ (hs1:=by rw[bc]) (hs2:=by rw[bc])
           |refine kD ?_
           |refine ld ?_ (hc:=Kr ..)
           |refine ld ?_ (hc:=Ks ..)
           |refine ld ?_ (hc:=oy ..)
           |refine ld ?_ (hc:=oA ..)
           |refine qI (cs:=b9 s.hd) ?_ (hle:=by rw[bc];decide) (hc:=C5 ..)
           |refine qI (cs:=b9 s.hd) ?_ (hle:=by rw[dh];decide) (hc:=r6 ..)
           |refine Ti heq ?_)
          |refine zz ?_|refine zx (fun _=>?_) (fun _=>?_)|fail)
         obtain⟨W,hW⟩:∃W,PL++[il .u8 bq]=W:=⟨_,rfl⟩
         rw[hW]at hWl ⊢;refine WX.cw (σ:=Nat) (fun i=>[(10,.one (.lsl 5 m 0 m m 0)),(19,gJ 7 cn 1),(20,gJ 8 cn 1),(172,.one (.lsl 6 (2*cn) 0 cn cn 0)),(173,.one (.int .i64 (cn:Nat))),(174,.one (.int .i64 (i:Nat)))]) (fun i=>[ob0,ob1,ob2,ob3,ob4,.late W,.late XX,bU 3 (il .i64 (nl x.at_)),bU 3 (il .i64 (nl x.wh))]) (fun i=>i<=cn) (fun i=>cn-i) 0 (Nat.zero_le _) (fun i _=>stM) (bW [0,1,2,3,4,8,13,11,12]) ?_;intro j hj ih
         by_cases hlt7:j<cn
         ·have hc:=hfun j hlt7;have hle:j*12+12<=(pj 0 0 fo).length/\0<12:=by omega
          obtain⟨g1,⟨g2,g3⟩,g4⟩:=hff j hlt7;have hna:=ND x.at_ j;have hnw:=ND x.wh j;rw[<-g1]at hna
          obtain⟨wi,hwi2⟩:∃v,x.wh.getD j 0=v:=⟨_,rfl⟩
          rw[hwi2]at g2 g3 g4 hnw;have hpw2:=hpk (wi-1) (by omega);rw[<-g4,show wi-1+1=wi by omega]at hpw2;have hlw:=congrArg List.length hpw2;rw[D7]at hlw;have hbw:=hbx wi (by omega)
          obtain⟨f,hf⟩:∃f,fo.getD j default=f:=⟨_,rfl⟩
          rw[hf]at hc hna hlw
          repeat' (first
           |(refine qz ?_;first
            |refine l5 (p:=wi) ?_ (hz:=by rw[hnw];omega) (hp:=by rw[hnw];omega)
            |refine l5 ?_
            |refine Re (cs:=H6 0 j f) ?_ hXl hle hc (hc':=rfl)
            |refine jU (zs:=A8++[.int .i64 0]) (hz:=KR) ?_
            |refine qJ ?_ hWl hbw rfl
            |refine kD ?_)
           |refine zz ?_|refine zx (fun _=>?_) (fun _=>?_)|fail)
          exact ih (j+1) _ _ _ (bW [0,1,2,3,4,5,6,7,8]) (by omega) (by omega)
         ·repeat' (first|refine zz ?_|refine zx (fun _=>?_) (fun _=>?_)|fail)
          show aE _ _ _ _ _ _ _ _;refine kV [0,1,2,3,4] ?_;rfl
    ·repeat' (first
      |(refine qz ?_;first
       |refine cl ?_ (hi:=by exact mF rfl)
       |refine jI ?_ (hle:=hb133)
       |refine cl ?_ (hi:=by exact mR hfo0 hfo1 hc0 hc1 hr1' (i:=0) (j:=1) rfl rfl (by decide) rfl))
      |refine zz ?_|refine zx (fun _=>?_) (fun _=>?_)|fail)
     show aE _ _ _ _ _ _ _ _;refine kV [0,1,2,3,4] ?_;rfl
   ·repeat' (first
     |(refine qz ?_;first
      |refine cl ?_ (hi:=by exact mF rfl)
      |refine jI ?_ (hle:=hb133)
      |refine cl ?_ (hi:=by exact mR hfo0 hfo1 hc0 hc1 hr1' (i:=0) (j:=1) rfl rfl (by decide) rfl))
     |refine zz ?_|refine zx (fun _=>?_) (fun _=>?_)|fail)
    show aE _ _ _ _ _ _ _ _;refine kV [0,1,2,3,4] ?_;rfl
end Go.Proofs.YthdciapjllppjaaGreat
