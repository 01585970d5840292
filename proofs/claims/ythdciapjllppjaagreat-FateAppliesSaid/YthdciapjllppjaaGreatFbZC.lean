/-
  A part of the proof: FtN, StrX, FtP, OpenT, SmIn, StrO, FtO.
-/
import Derived.Test.YthdciapjllppjaaGreatFbF
import Derived.Test.YthdciapjllppjaaGreatFbG
import Derived.Test.YthdciapjllppjaaGreatFbX
import Derived.Test.YthdciapjllppjaaGreatFbY
import Derived.Test.YthdciapjllppjaaGreatFbZB
import Derived.OpenShut
set_option maxRecDepth 10000
set_option maxHeartbeats 8000000
set_option linter.unusedVariables false
set_option linter.unusedSectionVars false
set_option linter.unusedSimpArgs false
open Go.Proofs.Tryz (prog)
namespace Go.Proofs.YthdciapjllppjaaGreat
open Go.Xm
variable [av]
theorem Qx{q:List pZ}{ps:List (List Int)}(hqk:∀i,i<q.length->p5 (q.getD i default))(hqo:∀i,i<q.length->(q.getD i default).mask.length<=500/\(q.getD i default).odd.length<=30)(hp:xI ps):∀i,i<(jX q ps (ps.length-1)).length->aW ((jX q ps (ps.length-1)).getD i default).mask/\((jX q ps (ps.length-1)).getD i default).mask.length<=60000:=by
 have key:∀n,n<=ps.length-1->∀f∈jX q ps n,aW f.mask/\f.mask.length<=60000:=fun n=>by
  induction n with
  | zero=>exact fun _ f hf=>by cases hf
  | succ n ih=>
    intro hn f hf;rw[jX]at hf;split at hf
    ·rename_i hlt
     rcases List.mem_append.1 hf with hf|hf
     ·exact ih (by omega) f hf
     ·rw[List.mem_singleton.1 hf];obtain⟨-,a,b⟩:=hp.prt n (by omega);exact HU (hqk n hlt) (hqo n hlt).1 a.2 b.2
    ·exact ih (by omega) f hf
 intro i hi;rw[List.getD_eq_getElem?_getD,List.getElem?_eq_getElem hi,Option.getD_some];exact key _ (Nat.le_refl _) _ (List.getElem_mem hi)
theorem LW{s:vR}(hs:jR s):2<=(fC s).length:=by
 have hm:=hs.ok.many;have hcr:=oE hs.ok;have h0:=hs.ok.pics 0 (by omega);have hlen:(fC s).length=(sg s.hd s.ps).length+1:=List.length_cons
 cases hp:s.ps with
 | nil=>rw[hp]at hm;simp at hm
 | cons p l=>
   rw[hp]at h0;have hg:pW p.ph.inter p.ph.qp 0 p.gs (((s.hd.cols*s.hd.rows).toNat:Nat):Int):=h0.gs
   have hne:p.gs.length≠0:=fun e=>by
    rw[List.length_eq_zero_iff.1 e]at hg;have hg:(0:Int)=_:=hg;omega
   have e:sg s.hd (p::l)=Oz s.hd p++sg s.hd l:=rfl;have e2:(Oz s.hd p).length=p.gs.length:=List.length_map ..;rw[hlen,hp,e,List.length_append,e2];omega
theorem I4{s:vR}(hs:jR s):xI (fC s):=by
 have h:=I3 hs;refine⟨by have:=h.many;omega,fun i h0 hi=>⟨by have:=h.body i h0 hi;omega,by have:=h.few i;omega⟩,h.byte,fun i hi=>?_⟩;obtain⟨-,-,-,a,b,e,a1,a2,b1,b2,-⟩:=yj hs (td (Nat.succ_pos i) hi);unfold Ah;rw[e];exact⟨rfl,⟨a1,a2⟩,⟨b1,b2⟩⟩
end Go.Proofs.YthdciapjllppjaaGreat
namespace Go.Xm
variable [av]
variable {P:Program} {ops:Array Oper} {nt nI:Nat} {al:aL} {hs:ah} {o:Oper} {l:List Oper} {L:List aA} {K:List Ab->aL->ah->Prop} {d:Nat}
theorem Su{t t1 e e1:TypeId}{a b:Operand}{k:IntKind}{i n:Nat}{r:List Int}{et:TypeId}{opn ro:Bool}{N:Nat}{hs':ah}(hr:r.length=n)(h0:n≠0)(hsrc:∀M,aV M hs->jv P t1 1 (ag (rg al) b) M=some (n,il k r))(h2:SK P ops nt L l ((d,.one (.slice N 0 n (.toEnd 1)))::al) hs' fun bs=>K (⟨true,.none,[N]⟩::bs))(ho:o.op = .call ⟨.builtin .append,#[a,b],#[t,t1]⟩:=by exact rfl)(hu:aG P t (.slice e):=by infer_instance)(hu1:aG P t1 (.slice e1):=by infer_instance)(hz:aI P e [.int k 0]:=by infer_instance)(hI:TI P e 1:=by infer_instance)(wn:Wn ops nt al o d:=by exact⟨rfl,rfl,rfl⟩)(ha:ag (rg al) a = .one (.slice i 0 0 (.exact 0)):=by exact rfl)(hi:hs[i]? = some (.cells (il k []) et opn ro):=by exact rfl)(hm:n<=2000000000:=by omega)(hN:hs.length=N:=by exact n2)(hbd:Nat.blt N Mem.bound=true:=by exact rfl)(hh:hs++[.cells (il k r) e true false]=hs':=by exact n3):SK P ops nt L (o::l) al hs K:=
 KT (q:=[]) hr hsrc (fun h=>absurd h h0) (fun _=>by rw[Nat.zero_add];exact h2) ho hu hu1 hz hI wn ha hi rfl (by omega) hN hbd hh
theorem RK{t t1 e e1:TypeId}{a b:Operand}{k:IntKind}{i n:Nat}{r:List Int}{et:TypeId}{opn ro:Bool}{N:Nat}{hs':ah}(hr:r.length=n)(h0:n≠0)(hsrc:∀M,aV M hs->jv P t1 1 (ag (rg al) b) M=some (n,il k r))(h2:SK P ops nt L l ((d,ee N n 1)::al) hs' fun bs=>K (⟨true,.none,[N]⟩::bs))(ho:o.op = .call ⟨.builtin .append,#[a,b],#[t,t1]⟩:=by exact rfl)(hu:aG P t (.slice e):=by infer_instance)(hu1:aG P t1 (.slice e1):=by infer_instance)(hz:aI P e [.int k 0]:=by infer_instance)(hI:TI P e 1:=by infer_instance)(wn:Wn ops nt al o d:=by exact⟨rfl,rfl,rfl⟩)(ha:ag (rg al) a = .one (.slice i 0 0 (.exact 0)):=by exact rfl)(hi:hs[i]? = some (.cells (il k []) et opn ro):=by exact rfl)(hm:n<=2000000000:=by omega)(hN:hs.length=N:=by exact n2)(hbd:Nat.blt N Mem.bound=true:=by exact rfl)(hh:hs++[bz e (il k r)]=hs':=by exact n3):SK P ops nt L (o::l) al hs K:=by
 have e1:bz e (il k r) = .cells (il k r) e true false:=bG fun h=>by
  have h2:(il k r).length=0:=by rw[h];rfl
  rw[bH]at h2;omega
 rw[e1]at hh;rw[dp h0]at h2;exact Su hr h0 hsrc h2 ho hu hu1 hz hI wn ha hi hm hN hbd hh
end Go.Xm
namespace Go.Proofs.YthdciapjllppjaaGreat
open Go.Xm
variable [av]
theorem D2(ps:List (List Int)):∀n i,i+1<n->(oS ps n).getD i 0=max ((((ps.getD (i+1) []).length:Nat):Int)-21) 0
 | 0,i,h=>by omega
 | n + 1,i,h=>by
   rw[oS,if_neg (by omega),List.getD_eq_getElem?_getD]
   by_cases hi:i+1<n
   ·rw[List.getElem?_append_left (by rw[j_];omega),<-List.getD_eq_getElem?_getD];exact D2 ps n i hi
   ·obtain rfl:n=i+1:=by omega
    rw[List.getElem?_append_right (by rw[j_];omega),j_,show i-(i+1-1)=0 by omega];rfl
theorem KS(fs:List Fa)(i:Nat)(p:List Int):Hc fs (i+1) p=if(fs.getD i default).lost=true then []else yd p (fs.getD i default).mask:=by
 unfold Hc
 by_cases h:i<fs.length
 ·rw[if_pos ⟨Nat.succ_pos _,h⟩];rfl
 ·rw[if_neg (fun g=>h g.2),List.getD_eq_getElem?_getD,List.getElem?_eq_none (by omega)];rfl
theorem LV{s:vR}(hs:jR s){i:Nat}(hi:i+1<(fC s).length):(fu ((fC s).getD (i+1) [])).1+(fu ((fC s).getD (i+1) [])).2=(((fC s).getD (i+1) []).length:Nat)-21:=by
 obtain⟨-,-,-,a,b,e,a1,a2,b1,b2,hlen⟩:=yj hs (td (Nat.succ_pos i) hi);have hlen:((fC s).getD (i+1) []).length=21+a+b:=hlen;have e:fu ((fC s).getD (i+1) [])=((a:Int),(b:Int)):=e;rw[e,hlen];show(((a:Nat):Int))+((b:Nat):Int)=_;omega
theorem Fy{L:List (List XC)}{cs:List XC}{ps:List (List Int)}(hb:nr L cs ps){c:XC}{i n M:Nat}(hc:da L i c cs n)(hpn:ps.length=n)(hM:n=M+1)(h0:M≠0)(hn:ps.length<=1000000)(hp:∀i,0<i->i<ps.length->21<=(ps.getD i []).length/\(ps.getD i []).length<=100000000)(hpB:∀i,aW (ps.getD i [])){q:List (Int×Int)}(hq:oR ps ps.length=q){HS:ah}(hi:HS[i]? = some (.late L)){N:Nat}(hN:HS.length=N){HS':ah}(hh:HS++[.cells (fl sI q) 79 true false]=HS')(hbd:Nat.blt HS'.length Mem.bound=true) :
 aA.Sound prog ⟨24,[.one c],HS,.one (.slice N 0 M (.toEnd 2)),HS',[i]⟩:=by
 have hl:q.length=M:=by rw[<-hq,jd,hpn,hM];rfl
 have e1:bz 79 (fl sI q) = .cells (fl sI q) 79 true false:=bG fun e=>by
  have h2:=rB (enc:=sI) q;rw[e]at h2;have h2:0=q.length*2:=h2;omega
 have h3:=uB hb hc hpn hn hp hpB hq hi hN (HS':=HS') (by rw[e1];exact hh) hbd;have e2:n-1=M:=by omega
 rwa [e2,dp h0]at h3
theorem zi{h : Hd}(hhr:oW h){pics:List sS}(hpp:∀j,j<pics.length->jP (pics.getD j default)){l:List Sm}(hll:∀j,j<l.length->iy (l.getD j default)){ob0 ob1:aj}(hr0:Br ob0 eD pics)(hr1:Br ob1 th l){c0 c1:XC}(hc0:cG c0 0 0 pics.length)(hc1:cG c1 1 0 l.length){LA:List (List XC)}{lq:List oO}{q:List pZ}(hq:oX LA lq q){d:XC}(hd:da LA 2 d (fl kE lq) q.length)(hqk:∀i,i<q.length->p5 (q.getD i default))(hql:q.length<=9223372036854775807) :
 bm prog 7 [.agg (rj h c0 c1),.one d] [ob0,ob1,.late LA] (.one (.bool true)) [ob0,ob1,.late LA]:=by
 have hfo0:=hr0.flat;have hfo1:=hr1.flat;have hdok:∀n,d.ok (n+3):=fun n=>hd.ok (by omega)
 obtain⟨r1,hr1'⟩:∃r,(decide (pics.length<=30)&&decide (l.length<=300))=r:=⟨_,rfl⟩
 obtain⟨r2,hr2'⟩:∃r,zZ q=r:=⟨_,rfl⟩
 have hb133:133=(rj h c0 c1).length:=(Dh _ _ _).symm;refine cO Tryz.func7 ?_
 cases r1 with
 | false=>
   repeat' (first
    |(refine qz ?_;first
     |refine cl ?_ (hi:=by exact pD rfl)
     |refine lI ?_ (hle:=hb133)
     |refine cl ?_ (hi:=by exact pJ hfo0 hfo1 hc0 hc1 hr1' (i:=0) (j:=1) rfl rfl (by decide) rfl))
    |refine zz ?_|refine zx (fun _=>?_) (fun _=>?_)|fail)
   show aE _ _ _ _ _ _ _ _;refine kV [0,1,2] ?_;rfl
 | true =>
   cases r2 with
   | false=>
     repeat' (first
      |(refine qz ?_;first
       |refine cl ?_ (hi:=by exact pD rfl)
       |refine lI ?_ (hle:=hb133)
       |refine cl ?_ (hi:=by exact pJ hfo0 hfo1 hc0 hc1 hr1' (i:=0) (j:=1) rfl rfl (by decide) rfl)
       |refine cl ?_ (hi:=by exact ud hq hd rfl hql hr2' rfl rfl))
      |refine zz ?_|refine zx (fun _=>?_) (fun _=>?_)|fail)
     show aE _ _ _ _ _ _ _ _;refine kV [0,1,2] ?_;rfl
   | true =>
     have hlt:=hr1';simp only[Bool.and_eq_true,decide_eq_true_eq]at hr1';obtain⟨hn0,hn1⟩:=hr1';have hr3:=hr2';unfold zZ at hr3;simp only[Bool.and_eq_true,decide_eq_true_eq]at hr3;obtain⟨hqa,hq60⟩:=hr3
     have hqo:∀i,i<q.length->(q.getD i default).mask.length<=500/\(q.getD i default).odd.length<=30:=fun i hi=>by
      have:=List.all_eq_true.1 hqa (q.getD i default) (by rw[List.getD_eq_getElem?_getD,List.getElem?_eq_getElem hi,Option.getD_some];exact List.getElem_mem hi);unfold B6 at this;simp only[Bool.and_eq_true,decide_eq_true_eq]at this;exact this
     have hqk2:∀i,i<q.length->p5 (q.getD i default)/\(q.getD i default).odd.length<=30:=fun i hi=>⟨hqk i hi,(hqo i hi).2⟩
     have hlow:=AL hhr hpp hll;have hlay:=Is (sL h pics l).ps
     obtain⟨s,hs⟩:∃s,sL h pics l=s:=⟨_,rfl⟩
     rw[hs]at hlow hlay;have hok:=hlow.ok;have hko:=I3 hlow;have hk2:=LW hlow;have hpo:=I4 hlow
     obtain⟨w,hw⟩:∃w,wide s.ps=w:=⟨_,rfl⟩
     obtain⟨B,hB⟩:∃B,Fi s.ps=B:=⟨_,rfl⟩
     obtain⟨np,hnp⟩:∃n,s.ps.length=n:=⟨_,rfl⟩
     rw[hw,hB]at hlay;have hbs:nr (vY (fC s)) (gQ 0 (fC s)) (fC s):=Lw;have hbl:=Fh (fC s);have hsum:∀i,i+1<(fC s).length->(fu ((fC s).getD (i+1) [])).1+(fu ((fC s).getD (i+1) [])).2=(((fC s).getD (i+1) []).length:Nat)-21:=fun i hi=>LV hlow hi
     obtain⟨ps,hps⟩:∃p,fC s=p:=⟨_,rfl⟩
     rw[hps]at hsum hko hpo hbs hbl hk2
     obtain⟨m,hm⟩:∃m,ps.length=m:=⟨_,rfl⟩
     obtain⟨Y,hY⟩:∃Y,M7 ps ps.length=Y:=⟨_,rfl⟩
     obtain⟨PL,hPL⟩:∃P,vY ps=P:=⟨_,rfl⟩
     rw[hPL]at hbs hbl;rw[hm]at hbl
     obtain⟨x,hx⟩:∃x,o7 LA lq q ps (ps.length-1)=x:=⟨_,rfl⟩
     have hfx:kZ x.1 x.2 (jX q ps (ps.length-1)):=by rw[<-hx];exact nJ hq ps _
     obtain⟨fs,hfs⟩:∃f,jX q ps (ps.length-1)=f:=⟨_,rfl⟩
     rw[hfs]at hfx;have hfL:=NX hfx
     obtain⟨FL,hFL⟩:∃F,KC x=F:=⟨_,rfl⟩
     have hrs:da (KC x) 6 (KD x 6) (fl i4 x.2) x.2.length:=HR 6;rw[hFL]at hfL hrs
     obtain⟨r,hr⟩:∃r,KD x 6=r:=⟨_,rfl⟩
     rw[hr]at hrs;have hfslen:x.2.length=fs.length:=hfx.1;have hfsok:∀i,i<fs.length->aW (fs.getD i default).mask/\(fs.getD i default).mask.length<=60000:=by rw[<-hfs];exact Qx hqk hqo hpo
     have hfBy:=fun i hi=>(hfsok i hi).1
     have hfLn:∀i,i<fs.length->(fs.getD i default).mask.length<=100000:=fun i hi=>by have:=(hfsok i hi).2;omega
     have hsl:da PL 5 (.lsl 5 m 0 m m 0) (gQ 0 ps) m := .inr ⟨m,m,Nat.le_refl _,rfl,hbl⟩
     obtain⟨M,hM⟩:∃M,m-1=M:=⟨_,rfl⟩
     have hMm:m=M+1:=by omega
     have hM0:M≠0:=by omega
     have hm46:=hko.many;rw[hm]at hm46
     obtain⟨sz,hsz⟩:∃z,oS ps ps.length=z:=⟨_,rfl⟩
     have hszl:sz.length=M:=by rw[<-hsz,j_];omega
     obtain⟨pt,hpt⟩:∃z,oR ps ps.length=z:=⟨_,rfl⟩
     have hptl:pt.length=M:=by rw[<-hpt,jd];omega
     have hszi:∀i,i<M->sz.getD i 0=(((ps.getD (1+i) []).length:Nat):Int)-21:=fun i hi=>by
      have:=hko.body (i+1) (Nat.succ_pos i) (by omega);rw[<-hsz,D2 ps _ i (by omega),Nat.add_comm 1 i];omega
     have hpti:∀i,i<M->(pt.getD i default).1+(pt.getD i default).2=(((ps.getD (1+i) []).length:Nat):Int)-21:=fun i hi=>by
      rw[<-hpt,yk ps _ i (by omega),Nat.add_comm 1 i];exact hsum i (by omega)
     have hpi:∀i,i<M->(fu (ps.getD (1+i) [])).1=(fu (ps.getD (1+i) [])).1:=fun i hi=>rfl
     have hp0:=hko.pos 0 (by omega)
     have hbx:∀j,j<m->(gQ 0 ps)[j]? = some (.lsl 0 j 0 (ps.getD j []).length (ps.getD j []).length 0):=fun j hj=>by
      have:=xO ps 0 j (by omega);rw[List.getD_eq_getElem?_getD,List.getElem?_eq_getElem (show j<(gQ 0 ps).length by rw[nD];omega),Option.getD_some,Nat.zero_add]at this;rw[List.getElem?_eq_getElem (show j<(gQ 0 ps).length by rw[nD];omega),this]
     have hPe:∀j,j<m->PL[j]? = some (il .u8 (ps.getD j [])):=fun j hj=>by
      rw[<-hPL];unfold vY;rw[List.getElem?_append_left (by rw[List.length_map,hm];exact hj),List.getElem?_map,List.getElem?_eq_getElem (show j<ps.length by omega),List.getD_eq_getElem?_getD,List.getElem?_eq_getElem (show j<ps.length by omega)];rfl
     have hx0:=hbx 0 (by omega);have hp0e:=hPe 0 (by omega);have hp0l:=hko.few 0;have hfsl:fs.length=min (m-1) q.length:=by rw[<-hfs,ow,hm]
     obtain⟨p0,hp0n⟩:∃p,ps.getD 0 []=p:=⟨_,rfl⟩
     rw[hp0n]at hx0 hp0e hp0 hp0l;have hp0s:da PL 5 (.lsl 5 0 0 p0.length p0.length 0) (il .u8 p0) p0.length := .inr ⟨_,_,Nat.le_refl _,rfl,hp0e⟩
     repeat' (first
      |(refine qz ?_;first
       |refine cl ?_ (hi:=by exact pD rfl)
       |refine lI ?_ (hle:=hb133)
       |refine cl ?_ (hi:=by exact pJ hfo0 hfo1 hc0 hc1 hlt (i:=0) (j:=1) rfl rfl (by decide) rfl)
       |refine cl ?_ (hi:=by exact ud hq hd rfl hql hr2' rfl rfl)
       |refine cl ?_ (hi:=by exact xe hhr hpp hll hr0 hr1 (i:=0) (j:=1) hc0 hc1 hn0 hn1 rfl rfl (by decide) hs hw hnp hB nL nA rfl)
       |refine cl ?_ (hi:=by exact Ca hlow hlay hnp hps hm hPL (i:=4) rfl nL nA rfl)
       |refine cl ?_ (hi:=by exact HW hbs hq hsl hm hd rfl hqk2 hpo (by omega) hx hFL (i:=5) (j:=2) rfl rfl (by decide) nL hr nA rfl)
       |refine cl ?_ (hi:=by exact F0 hbs hsl hm hMm hM0 (by omega) (fun i=>by have:=hko.few i;omega) hsz (i:=5) rfl nL nA rfl)
       |refine cl ?_ (hi:=by exact Fy hbs hsl hm hMm hM0 (by omega) hpo.body hko.byte hpt (i:=5) rfl nL nA rfl)
       |refine vO (zs:=[.int .u8 0]) ?_
       |refine tZ ?_
       |refine yc ?_ hbl hx0 rfl
       |refine RK rfl (by omega) (tj rfl hp0s rfl) ?_)
      |refine gJ 12 ?_|refine zz ?_|refine zx (fun _=>?_) (fun _=>?_)|fail)
     refine⟨?_⟩
     have hap1:vN ps fs 1=p0:=by
      show []++Hc fs 0 (ps.getD 0 [])=p0;rw[hp0n,List.nil_append];exact if_neg (fun h=>Nat.lt_irrefl _ h.1)
     have hslo:bz 5 (il .u8 p0) = .cells (il .u8 p0) 5 true false:=bG fun e=>by
      have h2:(il .u8 p0).length=0:=by rw[e];rfl
      rw[bH]at h2;omega
     repeat' (first
      |(refine qz ?_;first
       |refine qw ?_
       |refine Rv (p:=1) (q:=m) ?_)
      |refine zz ?_|refine zx (fun _=>?_) (fun _=>?_)|fail)
     rw[hM];refine WX.bQ (σ:=Nat) (fun i=>[(5,.one (.lsl 5 m 0 m m 0)),(7,.one r),(8,.one (.slice 7 0 M (.toEnd 1))),(9,.one (.slice 8 0 M (.toEnd 2))),(49,.one (.lsl 5 m 1 M M 1)),(50,.one (.int .i64 (M:Nat))),(10,ee 9 (vN ps fs (i+1)).length 1),(51,.one (.int .i64 (i:Nat)))]) (fun i=>[ob0,ob1,.late LA,.dead,.late B,.late PL,.late FL,.cells (il .i64 sz) 3 true false,.cells (fl sI pt) 79 true false,bz 5 (il .u8 (vN ps fs (i+1)))]) (fun i=>i<=M) (fun i=>M-i) 0 (Nat.zero_le _) (fun i _=>stM) (bq [0,1,2,3,4,5,6,7,8,10] (obj:=by(repeat' (first|exact af.nil|refine af.flat (by rw[hap1];rfl) ?_|refine oz ?_));first|done|fail) (reg:=by(repeat' (first|exact ae.nil|refine ae.ia rfl (by assumption) rfl ?_|refine ae.jD rfl rfl (by rw[hap1]) ?_|refine rz ?_|refine ae.sl rfl (by assumption) rfl ?_));first|done|fail)) ?_;intro i hi ih;have hal:=xM ps fs (fun i=>by have:=hko.few i;omega) (i+1);have hs1:vN ps fs (i+1+1)=vN ps fs (i+1)++Hc fs (i+1) (ps.getD (i+1) []):=rfl;rw[KS,Nat.add_comm i 1]at hs1
     by_cases hlt:i<M
     ·have hxc := hbx (1+i) (by omega);have hfew:=hko.few (1+i);have hbody:=hko.body (1+i) (by omega) (by omega);have hpb:=hko.byte (1+i);have hpe:=hPe (1+i) (by omega);have hsi:=hszi i hlt;have hti:=hpti i hlt
      obtain⟨p,hp⟩:∃p,ps.getD (1+i) []=p:=⟨_,rfl⟩
      obtain⟨A,hA⟩:∃A,vN ps fs (1+i)=A:=⟨_,rfl⟩
      rw[hp]at hxc hfew hbody hpb hpe hsi hti hs1;rw[Nat.add_comm i 1,hA]at hal;rw[hA]at hs1;rw[Nat.add_comm i 1,hA];have hps:da PL 5 (.lsl 5 (1+i) 0 p.length p.length 0) (il .u8 p) p.length := .inr ⟨_,_,Nat.le_refl _,rfl,hpe⟩
      obtain⟨ab,hab⟩:∃z,pt.getD i default=z:=⟨_,rfl⟩
      rw[hab]at hti;have hsi':sz.getD (i:Int).toNat 0=((p.length:Nat):Int)-21:=hsi;have hpa:=(HZ (enc:=sI) pt i (by omega) default).2;rw[hab]at hpa
      have hpa0:(fl sI pt)[i*2]? = some (.int .i64 ab.1):=by
       have:=congrArg (fun l=>l[0]?) hpa;simpa [sI,List.getElem?_drop]using this
      have hpa1:(fl sI pt)[i*2+1]? = some (.int .i64 ab.2):=by
       have:=congrArg (fun l=>l[1]?) hpa;simpa [sI,List.getElem?_drop]using this
      have hml:=hfLn i;have hmB:=hfBy i
      have hfd:¬i<fs.length->fs.getD i default=⟨false,[]⟩:=fun h=>by
       rw[List.getD_eq_getElem?_getD,List.getElem?_eq_none (by omega)];rfl
      have hfa:i<fs.length->∃z,i<x.2.length/\(i4 (x.2.getD i default)).map (·.self 6) = [.bool (fs.getD i default).lost,z]/\da FL 6 z (il .u8 (fs.getD i default).mask) (fs.getD i default).mask.length:=fun h=>HT hfL h 6
      obtain⟨f,hf⟩:∃f,fs.getD i default=f:=⟨_,rfl⟩
      rw[hf]at hs1 hfd hfa hml hmB
      have hml:f.mask.length<=100000:=by
       by_cases h:i<fs.length
       ·exact hml h
       ·rw[hfd h];exact Nat.zero_le _
      have hmB:aW f.mask:=by
       by_cases h:i<fs.length
       ·exact hmB h
       ·rw[hfd h];exact p9
      repeat' (first
       |(refine qz ?_;first
        |refine qw ?_
        |refine tZ ?_
        |refine yc ?_ hbl hxc rfl
        |refine ld (c := .int .i64 ab.1) ?_ (hc:=hpa0)
        |refine ld (c := .int .i64 ab.2) ?_ (hc:=hpa1)
        |refine nC (zs:=[.bool false,.nils]) (hz:=mO) ?_)
       |refine gJ 18 ?_|refine mT 18 ?_|refine zz ?_|refine zx (fun _=>?_) (fun _=>?_)|fail)
      refine⟨?_⟩;refine WX.ur 18 (σ:=XC) (fun z=>[(5,.one (.lsl 5 m 0 m m 0)),(7,.one r),(8,.one (.slice 7 0 M (.toEnd 1))),(9,.one (.slice 8 0 M (.toEnd 2))),(49,.one (.lsl 5 m 1 M M 1)),(50,.one (.int .i64 (M:Nat))),(10,ee 9 A.length 1),(51,.one (.int .i64 (i:Nat))),(11,.one (.int .i64 (i:Nat))),(12,.one (.lsl 5 (1+i) 0 p.length p.length 0)),(13,.one (.ptr 10 0))]) (fun z=>[ob0,ob1,.late LA,.dead,.late B,.late PL,.late FL,.cells (il .i64 sz) 3 true false,.cells (fl sI pt) 79 true false,bz 5 (il .u8 A),.cells [.bool f.lost,z] 69 false false]) (fun z=>da FL 6 z (il .u8 f.mask) f.mask.length) (fun z hz=>(stM (objs:=by repeat' (first|exact aq.nil|refine aq.flat ?_|refine aq.cons (ux (da.ok (by assumption) (Nat.le_of_ble_eq_true rfl))) ?_|refine aq.cons trivial ?_)))) ?_ (fun z hz=>q9.out ?_)
      ·by_cases hat:i<fs.length
       ·obtain⟨z,e1,e2,e3⟩:=hfa hat
        repeat' (first
         |(refine qz ?_;first
          |refine lX ?_
          |refine rC (fun kk hkk=>?_)
          |refine kD (enc:=i4) ?_ (by assumption) e1 (hc':=e2))
         |refine zz ?_|refine zx (fun _=>?_) (fun _=>?_)|fail)
        (first|refine sH ?_|skip)
        exact⟨z,_,e3,(bq [0,1,2,3,4,5,6,7,8,9,10] (obj:=by(repeat' (first|exact af.nil|refine dW (by assumption) rfl rfl ?_|refine oz ?_));first|done|fail) (reg:=by(repeat' (first|exact ae.nil|refine ae.ia rfl (by assumption) rfl ?_|refine rz ?_|refine ae.sl rfl (by assumption) rfl ?_));first|done|fail))⟩
       ·have e0:=hfd hat;subst e0
        repeat' (first
         |(refine qz ?_;first
          |refine lX ?_)
         |refine zz ?_|refine zx (fun _=>?_) (fun _=>?_)|fail)
        (first|refine sH ?_|skip)
        exact⟨.nils,_,.inl ⟨rfl,.inl rfl⟩,(bq [0,1,2,3,4,5,6,7,8,9,10] (obj:=by(repeat' (first|exact af.nil|refine dW (by assumption) rfl rfl ?_|refine oz ?_));first|done|fail) (reg:=by(repeat' (first|exact ae.nil|refine ae.ia rfl (by assumption) rfl ?_|refine rz ?_|refine ae.sl rfl (by assumption) rfl ?_));first|done|fail))⟩
      refine⟨?_⟩
      obtain⟨lo,hlo⟩:∃b,f.lost=b:=⟨_,rfl⟩
      obtain⟨mk,hmk⟩:∃b,f.mask=b:=⟨_,rfl⟩
      have hfe:f=⟨lo,mk⟩:=by rw[<-hlo,<-hmk]
      subst hfe
      obtain⟨S,hS⟩:∃S:Nat,S=p.length-21:=⟨_,rfl⟩
      have hsS:sz.getD i 0=(S:Nat):=by omega
      have hsS':sz.getD (i:Int).toNat 0=(S:Nat):=hsS;have hz:da FL 6 z (il .u8 mk) mk.length:=hz;have hml:mk.length<=100000:=hml;have hmB:aW mk:=hmB;have hs1:vN ps fs (1+i+1)=A++if lo=true then []else yd p mk:=hs1
      repeat' (first
       |(refine qz ?_;first
        |refine vO (zs:=[.int .u8 0]) ?_
        |refine Su rfl (by omega) (tj rfl hps rfl) ?_
        |refine lX ?_)
       |refine gJ 23 ?_|refine zz ?_|refine zx (fun _=>?_) (fun _=>?_)|fail)
      refine WX.bQ (σ:=Nat) (fun t=>[(5,.one (.lsl 5 m 0 m m 0)),(7,.one r),(8,.one (.slice 7 0 M (.toEnd 1))),(9,.one (.slice 8 0 M (.toEnd 2))),(49,.one (.lsl 5 m 1 M M 1)),(50,.one (.int .i64 (M:Nat))),(10,ee 9 A.length 1),(51,.one (.int .i64 (i:Nat))),(11,.one (.int .i64 (i:Nat))),(13,.one (.ptr 10 0)),(15,.one (.slice 11 0 p.length (.toEnd 1))),(104,.one z),(105,.one (.int .i64 (mk.length:Nat))),(14,.one (.bool (lo||m7 mk (min t S)))),(106,.one (.int .i64 (t:Nat)))]) (fun t=>[ob0,ob1,.late LA,.dead,.late B,.late PL,.late FL,.cells (il .i64 sz) 3 true false,.cells (fl sI pt) 79 true false,bz 5 (il .u8 A),.cells [.bool lo,z] 69 false false,.cells (il .u8 (rG p mk t)) 5 true false]) (fun t=>t<=mk.length) (fun t=>mk.length-t) 0 (Nat.zero_le _) (fun t _=>(stM (objs:=by repeat' (first|exact aq.nil|refine aq.flat ?_|refine aq.cons (ux (da.ok (by assumption) (Nat.le_of_ble_eq_true rfl))) ?_|refine aq.cons trivial ?_)))) (bq [0,1,2,3,4,5,6,7,8,9,10,12] (obj:=by(repeat' (first|exact af.nil|refine dW (by assumption) rfl rfl ?_|refine oz ?_));first|done|fail) (reg:=by(repeat' (first|exact ae.nil|refine ae.ia rfl (by assumption) rfl ?_|refine ae.flat (by rw[show m7 mk (min 0 S)=false by rw[Nat.zero_min];rfl,Bool.or_false];rfl) ?_|refine rz ?_|refine ae.sl rfl (by assumption) rfl ?_));first|done|fail)) ?_;intro t ht ih2;have hkl:=oA p mk t;have hmb:=z9 hpb mk t
      by_cases hlt2:t<mk.length
      ·have e2 : (21+(t:Int)).toNat=21+t:=by omega
       have hv:=hmB t;have hw2:=hmb (21+t)
       obtain⟨bb,hbb⟩:∃b,(lo||m7 mk (min t S))=b:=⟨_,rfl⟩
       by_cases hlt3:t<S
       ·have e3:rG p mk (t+1)=(rG p mk t).set (21+t) (m9 .u8 ((rG p mk t).getD (21+t) 0) (mk.getD t 0)):=by rw[rG,if_pos (by omega)]
        have e4:(lo||m7 mk (min (t+1) S))=(bb||decide (mk.getD t 0≠0)):=by
         rw[<-hbb,show min (t+1) S=t+1 by omega,show min t S=t by omega,m7,Bool.or_assoc]
        by_cases hv0:mk.getD t 0=0
        ·have e5:(bb||decide (mk.getD t 0≠0))=bb:=by rw[decide_eq_false (by simpa using hv0),Bool.or_false]
         rw[e5]at e4;rw[hbb]
         cases bb with
         | true=>
           repeat' (first
            |(refine qz ?_;first
             |refine lX ?_
             |refine rC (fun kk hkk=>?_)
             |refine yb ?_ (by assumption) hlt2)
            |refine zz ?_|refine zx (fun _=>?_) (fun _=>?_)|fail)
           exact ih2 (t+1) _ _ _ (bq [0,1,2,3,4,5,6,7,8,9,10,11] (obj:=by(repeat' (first|exact af.nil|refine af.flat (by rw[e3];rfl) ?_|refine dW (by assumption) rfl rfl ?_|refine oz ?_));first|done|fail) (reg:=by(repeat' (first|exact ae.nil|refine ae.ia rfl (by assumption) rfl ?_|refine ae.flat (by rw[e4];rfl) ?_|refine rz ?_|refine ae.sl rfl (by assumption) rfl ?_));first|done|fail)) (by omega) (by omega)
         | false=>
           repeat' (first
            |(refine qz ?_;first
             |refine lX ?_
             |refine rC (fun kk hkk=>?_)
             |refine yb ?_ (by assumption) hlt2)
            |refine zz ?_|refine zx (fun _=>?_) (fun _=>?_)|fail)
           exact ih2 (t+1) _ _ _ (bq [0,1,2,3,4,5,6,7,8,9,10,11] (obj:=by(repeat' (first|exact af.nil|refine af.flat (by rw[e3];rfl) ?_|refine dW (by assumption) rfl rfl ?_|refine oz ?_));first|done|fail) (reg:=by(repeat' (first|exact ae.nil|refine ae.ia rfl (by assumption) rfl ?_|refine ae.flat (by rw[e4];rfl) ?_|refine rz ?_|refine ae.sl rfl (by assumption) rfl ?_));first|done|fail)) (by omega) (by omega)
        ·have e5:(bb||decide (mk.getD t 0≠0))=true:=by rw[decide_eq_true (by simpa using hv0),Bool.or_true]
         rw[e5]at e4;rw[hbb]
         cases bb with
         | true=>
           repeat' (first
            |(refine qz ?_;first
             |refine lX ?_
             |refine rC (fun kk hkk=>?_)
             |refine yb ?_ (by assumption) hlt2)
            |refine zz ?_|refine zx (fun _=>?_) (fun _=>?_)|fail)
           exact ih2 (t+1) _ _ _ (bq [0,1,2,3,4,5,6,7,8,9,10,11] (obj:=by(repeat' (first|exact af.nil|refine af.flat (by rw[e3];rfl) ?_|refine dW (by assumption) rfl rfl ?_|refine oz ?_));first|done|fail) (reg:=by(repeat' (first|exact ae.nil|refine ae.ia rfl (by assumption) rfl ?_|refine ae.flat (by rw[e4];rfl) ?_|refine rz ?_|refine ae.sl rfl (by assumption) rfl ?_));first|done|fail)) (by omega) (by omega)
         | false=>
           repeat' (first
            |(refine qz ?_;first
             |refine lX ?_
             |refine rC (fun kk hkk=>?_)
             |refine yb ?_ (by assumption) hlt2)
            |refine zz ?_|refine zx (fun _=>?_) (fun _=>?_)|fail)
           exact ih2 (t+1) _ _ _ (bq [0,1,2,3,4,5,6,7,8,9,10,11] (obj:=by(repeat' (first|exact af.nil|refine af.flat (by rw[e3];rfl) ?_|refine dW (by assumption) rfl rfl ?_|refine oz ?_));first|done|fail) (reg:=by(repeat' (first|exact ae.nil|refine ae.ia rfl (by assumption) rfl ?_|refine ae.flat (by rw[e4];rfl) ?_|refine rz ?_|refine ae.sl rfl (by assumption) rfl ?_));first|done|fail)) (by omega) (by omega)
       ·have e3:rG p mk (t+1)=rG p mk t:=by rw[rG,if_neg (by omega)]
        have e4:(lo||m7 mk (min (t+1) S))=(lo||m7 mk (min t S)):=by rw[show min (t+1) S=min t S by omega]
        repeat' (first
         |(refine qz ?_;first
          |refine lX ?_
          |refine rC (fun kk hkk=>?_)
          |refine yb ?_ (by assumption) hlt2)
         |refine zz ?_|refine zx (fun _=>?_) (fun _=>?_)|fail)
        exact ih2 (t+1) _ _ _ (bq [0,1,2,3,4,5,6,7,8,9,10,11] (obj:=by(repeat' (first|exact af.nil|refine af.flat (by rw[e3];rfl) ?_|refine dW (by assumption) rfl rfl ?_|refine oz ?_));first|done|fail) (reg:=by(repeat' (first|exact ae.nil|refine ae.ia rfl (by assumption) rfl ?_|refine ae.flat (by rw[e4];rfl) ?_|refine rz ?_|refine ae.sl rfl (by assumption) rfl ?_));first|done|fail)) (by omega) (by omega)
      ·obtain rfl:t=mk.length:=by omega
       clear ih2;have hmk2:rG p mk mk.length=yd p mk:=rfl;rw[hmk2]at hkl ⊢
       obtain⟨Q,hQ⟩:∃Q,yd p mk=Q:=⟨_,rfl⟩
       rw[hQ]at hkl hs1 ⊢
       obtain⟨bb,hbb⟩:∃b,(lo||m7 mk (min mk.length S))=b:=⟨_,rfl⟩
       have htf:iJ ⟨lo,mk⟩ (sz.getD (i:Int).toNat 0)=bb:=by
        rw[hsS',<-hbb];rfl
       rw[hbb]
       cases lo with
       | true=>
         rw[if_pos rfl,List.append_nil]at hs1;have hnx:vN ps fs (i+1+1)=A:=by rw[Nat.add_comm i 1];exact hs1
         obtain rfl:bb=true:=by rw[<-hbb];rfl
         repeat' (first
          |(refine qz ?_;first
           |refine cl ?_ (hi:=by exact gF (f:=⟨true,mk⟩) hz (by omega) rfl htf rfl rfl))
          |refine zz ?_|refine zx (fun _=>?_) (fun _=>?_)|fail)
         exact ih (i+1) _ _ _ (bq [0,1,2,3,4,5,6,7,8,9] (obj:=by(repeat' (first|exact af.nil|refine af.flat (by rw[hnx];rfl) ?_|refine oz ?_));first|done|fail) (reg:=by(repeat' (first|exact ae.nil|refine ae.ia rfl (by assumption) rfl ?_|refine ae.jD rfl rfl (by rw[hnx]) ?_|refine rz ?_|refine ae.sl rfl (by assumption) rfl ?_));first|done|fail)) (by omega) (by omega)
       | false=>
         rw[if_neg (by decide)]at hs1;have hnx:vN ps fs (i+1+1)=A++Q:=by rw[Nat.add_comm i 1];exact hs1
         cases bb with
         | true=>
           repeat' (first
            |(refine qz ?_;first
             |refine cl ?_ (hi:=by exact gF (f:=⟨false,mk⟩) hz (by omega) rfl htf rfl rfl))
            |refine zz ?_|refine zx (fun _=>?_) (fun _=>?_)|fail)
           exact ih (i+1) _ _ _ (bq [0,1,2,3,4,5,6,7,8,12] (obj:=by(repeat' (first|exact af.nil|refine af.flat (by rw[hnx];rfl) ?_|refine oz ?_));first|done|fail) (reg:=by(repeat' (first|exact ae.nil|refine ae.ia rfl (by assumption) rfl ?_|refine ae.jD rfl rfl (by rw[hnx,List.length_append,hkl]) ?_|refine rz ?_|refine ae.sl rfl (by assumption) rfl ?_));first|done|fail)) (by omega) (by omega)
         | false=>
           repeat' (first
            |(refine qz ?_;first
             |refine cl ?_ (hi:=by exact gF (f:=⟨false,mk⟩) hz (by omega) rfl htf rfl rfl))
            |refine zz ?_|refine zx (fun _=>?_) (fun _=>?_)|fail)
           exact ih (i+1) _ _ _ (bq [0,1,2,3,4,5,6,7,8,12] (obj:=by(repeat' (first|exact af.nil|refine af.flat (by rw[hnx];rfl) ?_|refine oz ?_));first|done|fail) (reg:=by(repeat' (first|exact ae.nil|refine ae.ia rfl (by assumption) rfl ?_|refine ae.jD rfl rfl (by rw[hnx,List.length_append,hkl]) ?_|refine rz ?_|refine ae.sl rfl (by assumption) rfl ?_));first|done|fail)) (by omega) (by omega)
     ·obtain rfl:i=M:=by omega
      clear ih
      obtain⟨A,hA⟩:∃A,KU ps fs=A:=⟨_,rfl⟩
      have hA1:vN ps fs (i+1)=A:=by rw[<-hMm,<-hm];exact hA
      have hAl:p0.length<=A.length:=by
       have key:∀n,p0.length<=(vN ps fs (n+1)).length:=fun n=>by
        induction n with
        | zero=>rw[hap1];exact Nat.le_refl _
        | succ n ih=>rw[vN,List.length_append];omega
       rw[<-hA1];exact key i
      rw[hA1]
      have hAs:bz 5 (il .u8 A) = .cells (il .u8 A) 5 true false:=bG fun e=>by
       have h2:(il .u8 A).length=0:=by rw[e];rfl
       rw[bH]at h2;omega
      rw[hAs,dp (show A.length≠0 by omega)];rw[hfslen]at hrs
      repeat' (first
       |(refine qz ?_;first
        |refine cl ?_ (hi:=by exact EA hbs hfL hsl hm hrs rfl (by omega) (by omega) (fun i=>by have:=hko.few i;omega) hko.byte (fun i=>x4 aW p9 hfBy i) (fun i=>x4 (fun l=>l.length<=100000) (Nat.zero_le _) hfLn i) hA rfl (by omega) (i:=5) (j:=6) rfl rfl (by decide) nL nA rfl)
        |refine SQ rfl ?_
        |refine eqs ?_
        |refine cl ?_ (hi:=by exact zj (cs:=[]) (ps:=[]) (L:=PL) ⟨rfl,fun i h=>absurd h (Nat.not_lt_zero _)⟩ hfL (np:=0) (.inl ⟨rfl,.inl rfl⟩) rfl hrs rfl (by decide) (by omega) (fun i=>Nat.zero_le _) (fun i=>p9) (fun i=>x4 aW p9 hfBy i) (fun i=>x4 (fun l=>l.length<=100000) (Nat.zero_le _) hfLn i) (q:=[]) rfl (nq:=0) rfl (i:=5) (j:=6) rfl rfl (by decide) nL nA rfl))
       |refine zz ?_|refine zx (fun _=>?_) (fun _=>?_)|refine bM (by first|exact ai.nil|exact ai.one _|exact ai.pf (by repeat' (first|exact True.intro|refine And.intro ?_ ?_|exact Compat.ne rfl|exact d9 rfl))) ⟨by kernel_rfl,?_⟩|refine bM (by first|exact ai.nil|exact ai.one _|exact ai.pf (by repeat' (first|exact True.intro|refine And.intro ?_ ?_|exact Compat.ne rfl|exact d9 rfl))) ?_|fail)
      show aE _ _ _ _ _ _ _ _;refine kV [0,1,2] ?_;rfl
end Go.Proofs.YthdciapjllppjaaGreat
namespace Go.Xm
inductive dF where
 | int (k:IntKind)
 | bool
def dF.has:dF->Value->Prop
 | .int k,v=>∃z,v = .int k z/\(Lit.int k z).wf=true
 | .bool,v=>∃b,v = .bool b
def lint:Value->Int
 | .int _ z=>z
 | _=>0
def t9:Value->Bool
 | .bool b=>b
 | _=>false
def dF.cell(l:dF)(v:Value):XC:=match l with
 | .int k => .int k (lint v)
 | .bool => .bool (t9 v)
theorem dF.den[av]{l:dF}{v:Value}(h:l.has v)(β : Env):(l.cell v).den β = v:=by
 cases l with
 | int k=>obtain⟨z,rfl,_⟩:=h;rfl
 | bool=>obtain⟨b,rfl⟩:=h;rfl
def eJ(P:Program)(t:TypeId)(ks:List dF):Prop:=
 P.cellsOf t=ks.length/\∀(H:Type) (enc:TypeId×Value->H) (w:World) (base:Nat) (spare:Nat->Bool) (held:Bool) (fuel:Nat) (cs:List Value) (x:DataW H×List MemPlace),
  DataW.trod enc P w base spare held fuel t cs=some x->cs.length=ks.length/\∀(j:Nat) (l:dF),ks[j]? = some l->∃v,cs[j]? = some v/\l.has v
variable {P:Program} {t:TypeId}
theorem eJ.int{k:IntKind}(ht:P.underlying t=some (.int k))(hc:P.cellsOf t=1):eJ P t [.int k]:=by
 refine⟨hc,fun H enc w base spare held fuel cs x h=>?_⟩;obtain⟨n,rfl,_,hw⟩:=DataW.trod_int ht h;refine⟨rfl,fun j l hj=>?_⟩
 match j,hj with
 | 0,hj=>cases hj;exact⟨_,rfl,n,rfl,hw⟩
 | j+1,hj=>simp at hj
theorem eJ.bool(ht:P.underlying t=some .bool)(hc:P.cellsOf t=1):eJ P t [.bool]:=by
 refine⟨hc,fun H enc w base spare held fuel cs x h=>?_⟩;obtain⟨b,rfl,_⟩:=DataW.trod_bool ht h;refine⟨rfl,fun j l hj=>?_⟩
 match j,hj with
 | 0,hj=>cases hj;exact⟨_,rfl,b,rfl⟩
 | j+1,hj=>simp at hj
def iw(ks:List dF):Nat->List dF
 | 0=>[]
 | n+1=>ks++iw ks n
theorem lN(ks:List dF):∀n,(iw ks n).length=n*ks.length
 | 0=>by simp[iw]
 | n+1=>by rw[iw,List.length_append,lN ks n,Nat.add_mul,Nat.one_mul,Nat.add_comm]
theorem AA{ks:List dF}{l:dF}:∀(n j:Nat),(iw ks n)[j]? = some l->∃i r,i<n/\j=i*ks.length+r/\ks[r]? = some l
 | 0,j,h=>by simp[iw]at h
 | n + 1,j,h=>by
   rw[iw]at h
   by_cases hj:j<ks.length
   ·rw[List.getElem?_append_left hj]at h;exact⟨0,j,Nat.succ_pos _,by simp,h⟩
   ·rw[List.getElem?_append_right (by omega)]at h;obtain⟨i,r,hi,hr,hl⟩:=AA n (j-ks.length) h;exact⟨i+1,r,by omega,by rw[Nat.add_mul,Nat.one_mul];omega,hl⟩
theorem eJ.array{n:Nat}{e:TypeId}{ks:List dF}(ht:P.underlying t=some (.array n e))(he:eJ P e ks)(hc:P.cellsOf t=n*ks.length):eJ P t (iw ks n):=by
 refine⟨by rw[hc,lN],fun H enc w base spare held fuel cs x h=>?_⟩;obtain⟨xs,m,_,_,hlen,hxl,hx⟩:=DataW.trod_array ht h;refine⟨by rw[hlen,hc,lN],fun j l hj=>?_⟩;obtain⟨i,r,hi,rfl,hr⟩:=AA n j hj;have hxi:xs[i]? = some (xs[i]'(by omega)):=List.getElem?_eq_getElem (by omega);obtain⟨hl,hv⟩:=he.2 H enc w base spare held m _ _ ((hx i hi).trans hxi);obtain⟨v,hv1,hv2⟩:=hv r l hr;refine⟨v,?_,hv2⟩;have hrl:r<ks.length:=(List.getElem?_eq_some_iff.1 hr).1;rw[he.1,List.getElem?_take_of_lt hrl,List.getElem?_drop]at hv1;exact hv1
theorem E6{kss:List (List dF)}{l:dF}:∀{j:Nat},kss.flatten[j]? = some l->∃i ks r,kss[i]? = some ks/\j=((kss.take i).flatten).length+r/\ks[r]? = some l:=by
 induction kss with
 | nil=>intro j h;simp at h
 | cons ks kss ih=>
   intro j h;rw[List.flatten_cons]at h
   by_cases hj:j<ks.length
   ·rw[List.getElem?_append_left hj]at h;exact⟨0,ks,j,rfl,by simp,h⟩
   ·rw[List.getElem?_append_right (by omega)]at h;obtain⟨i,ks',r,h1,h2,h3⟩:=ih h;refine⟨i+1,ks',r,h1,?_,h3⟩;rw[List.take_succ_cons,List.flatten_cons,List.length_append];omega
theorem eJ.struct{fs:Array Field}(kss:List (List dF))(ht:P.underlying t=some (.struct fs))(hn:kss.length=fs.size)(hf:∀(i:Nat) (f:Field) (ks:List dF),fs[i]? = some f->kss[i]? = some ks->eJ P f.type ks/\f.offset=((kss.take i).flatten).length)(hc:P.cellsOf t=kss.flatten.length):eJ P t kss.flatten:=by
 refine⟨hc,fun H enc w base spare held fuel cs x h=>?_⟩;obtain⟨xs,m,_,_,hlen,hxl,hx⟩:=DataW.trod_struct ht h;refine⟨by rw[hlen,hc],fun j l hj=>?_⟩;obtain⟨i,ks,r,h1,rfl,h3⟩:=E6 hj
 have hi:i<fs.size:=by
  have:=(List.getElem?_eq_some_iff.1 h1).1;omega
 have hfi:fs[i]? = some fs[i]:=Array.getElem?_eq_getElem hi;obtain⟨hl,ho⟩:=hf i _ ks hfi h1;have hxi:xs[i]? = some (xs[i]'(by omega)):=List.getElem?_eq_getElem (by omega);obtain⟨_,hv⟩:=hl.2 H enc w base spare held m _ _ ((hx i _ hfi).trans hxi);obtain⟨v,hv1,hv2⟩:=hv r l h3;refine⟨v,?_,hv2⟩;have hrl:r<ks.length:=(List.getElem?_eq_some_iff.1 h3).1;rw[hl.1,List.getElem?_take_of_lt hrl,List.getElem?_drop,ho]at hv1;exact hv1
def i_:List dF->(Nat->Value)->Nat->List XC
 | [],_,_=>[]
 | l::ks,g,j=>l.cell (g j)::i_ ks g (j+1)
theorem rD:∀(ks:List dF) (g:Nat->Value) (o j:Nat),(i_ ks g o)[j]? = (ks[j]?).map fun l=>l.cell (g (o+j))
 | [],g,o,j=>by simp[i_]
 | l::ks,g,o,0=>rfl
 | l::ks,g,o,j+1=>by
   rw[i_,List.getElem?_cons_succ,rD ks g (o+1) j,List.getElem?_cons_succ];rw[show o+1+j=o+(j+1) by omega]
def nP(ks:List dF)(g:Nat->Value)(o:Nat):Prop:=∀(j:Nat) (l:dF),ks[j]? = some l->l.has (g (o+j))
theorem wO[av]{ks:List dF}{cs:List Value}(hl:cs.length=ks.length)(h:∀(j:Nat) (l:dF),ks[j]? = some l->∃v,cs[j]? = some v/\l.has v)(β : Env):cs=(i_ ks (fun j=>cs.getD j .nilIface) 0).map (·.den β)/\nP ks (fun j=>cs.getD j .nilIface) 0:=by
 have hv:∀j l,ks[j]? = some l->l.has (cs.getD j .nilIface)/\cs[j]? = some (cs.getD j .nilIface):=fun j l hj=>by
  obtain⟨v,h1,h2⟩:=h j l hj;rw[List.getD_eq_getElem?_getD,h1];exact⟨h2,rfl⟩
 refine⟨List.ext_getElem? fun j=>?_,fun j l hj=>by rw[Nat.zero_add];exact(hv j l hj).1⟩;rw[List.getElem?_map,rD,Nat.zero_add]
 by_cases hj:j<ks.length
 ·have hk:ks[j]? = some ks[j]:=List.getElem?_eq_getElem hj;obtain⟨h1,h2⟩:=hv j _ hk;rw[hk];show cs[j]? = some ((ks[j].cell (cs.getD j .nilIface)).den β);rw[dF.den h1,h2]
 ·rw[List.getElem?_eq_none (by omega),List.getElem?_eq_none (by omega)];rfl
end Go.Xm
namespace Go.Proofs.YthdciapjllppjaaGreat
open Go.ChangeShapes Go.WideShapes Go.ChangeAt Go.RowKit Go.Deep Go.Xm
def Io:List dF:=[[dF.bool],iw [.int .u8] 64,iw [.int .u8] 64].flatten
def Ik:List dF:=[[dF.int .i64],[.int .i64],Io].flatten
def QE:List dF:=[iw [dF.int .i8] 4,iw [.int .i8] 4,[.bool]].flatten
def Im:List dF:=[[dF.int .u8],[.int .u8],QE,[.bool],iw [.int .u64] 6,[.int .u32],[.bool]].flatten
theorem zU:eJ prog 5 [.int .u8] := .int Tryz.underlying5 (by kernel_rfl)
theorem QJ:eJ prog 91 [.int .i8] := .int Tryz.underlying91 (by kernel_rfl)
theorem Og:eJ prog 95 [.int .u64] := .int Tryz.underlying95 (by kernel_rfl)
theorem Of:eJ prog 97 [.int .u32] := .int Tryz.underlying97 (by kernel_rfl)
theorem IE:eJ prog 3 [.int .i64] := .int Tryz.underlying3 (by kernel_rfl)
theorem oy:eJ prog 4 [.bool] := .bool Tryz.underlying4 (by kernel_rfl)
theorem ID:eJ prog 22 (iw [.int .u8] 64) := .array Tryz.underlying22 zU (by kernel_rfl)
theorem Nb:eJ prog 92 (iw [.int .i8] 4) := .array Tryz.underlying92 QJ (by kernel_rfl)
theorem QI:eJ prog 96 (iw [.int .u64] 6) := .array Tryz.underlying96 Og (by kernel_rfl)
theorem Oe:eJ prog 24 Io:=by
 refine .struct _ Tryz.underlying24 rfl (fun i f ks hi hk=>?_) (by kernel_rfl)
 match i,hi,hk with
 | 0,hi,hk=>cases hi;cases hk;exact⟨oy,rfl⟩
 | 1,hi,hk=>cases hi;cases hk;exact⟨ID,rfl⟩
 | 2,hi,hk=>cases hi;cases hk;exact⟨ID,rfl⟩
 | i+3,hi,hk=>simp at hk
theorem Nc:eJ prog 26 Ik:=by
 refine .struct _ Tryz.underlying26 rfl (fun i f ks hi hk=>?_) (by kernel_rfl)
 match i,hi,hk with
 | 0,hi,hk=>cases hi;cases hk;exact⟨IE,rfl⟩
 | 1,hi,hk=>cases hi;cases hk;exact⟨IE,rfl⟩
 | 2,hi,hk=>cases hi;cases hk;exact⟨Oe,rfl⟩
 | i+3,hi,hk=>simp at hk
theorem QL:eJ prog 94 QE:=by
 refine .struct _ Tryz.underlying94 rfl (fun i f ks hi hk=>?_) (by kernel_rfl)
 match i,hi,hk with
 | 0,hi,hk=>cases hi;cases hk;exact⟨Nb,rfl⟩
 | 1,hi,hk=>cases hi;cases hk;exact⟨Nb,rfl⟩
 | 2,hi,hk=>cases hi;cases hk;exact⟨oy,rfl⟩
 | i+3,hi,hk=>simp at hk
theorem QK:eJ prog 99 Im:=by
 refine .struct _ Tryz.underlying99 rfl (fun i f ks hi hk=>?_) (by kernel_rfl)
 match i,hi,hk with
 | 0,hi,hk=>cases hi;cases hk;exact⟨zU,rfl⟩
 | 1,hi,hk=>cases hi;cases hk;exact⟨zU,rfl⟩
 | 2,hi,hk=>cases hi;cases hk;exact⟨QL,rfl⟩
 | 3,hi,hk=>cases hi;cases hk;exact⟨oy,rfl⟩
 | 4,hi,hk=>cases hi;cases hk;exact⟨QI,rfl⟩
 | 5,hi,hk=>cases hi;cases hk;exact⟨Of,rfl⟩
 | 6,hi,hk=>cases hi;cases hk;exact⟨oy,rfl⟩
 | i+7,hi,hk=>simp at hk
theorem zQ(a b:List dF)(g:Nat->Value):∀o,i_ (a++b) g o=i_ a g o++i_ b g (o+a.length):=by
 induction a with
 | nil=>intro o;rfl
 | cons l a ih=>
   intro o;rw[List.cons_append,i_,ih,i_,List.cons_append,List.length_cons];rw[show o+1+a.length=o+(a.length+1) by omega]
theorem wP(k:IntKind)(g:Nat->Value):∀n o,i_ (iw [.int k] n) g o=ti k n fun i=>lint (g (o+i)):=by
 intro n
 induction n with
 | zero=>intro o;rfl
 | succ n ih=>
   intro o;rw[iw,zQ,ih];unfold ti;rw[List.range_succ_eq_map,List.map_cons,List.map_map];show _::_=_::_
   congr 1
   refine List.map_congr_left fun i _=>?_
   show XC.int k (lint (g (o+1+i)))=XC.int k (lint (g (o+(i+1))));rw[show o+1+i=o+(i+1) by omega]
def H4(g:Nat->Value):Hd:=⟨lint (g 0),lint (g 1),t9 (g 2),fun i=>lint (g (3+i)),fun i=>lint (g (67+i))⟩
def Q0(g:Nat->Value):Sm:=⟨lint (g 0),lint (g 1),⟨fun i=>lint (g (2+i)),fun i=>lint (g (6+i)),t9 (g 10)⟩,t9 (g 11),fun i=>lint (g (12+i)),lint (g 18),t9 (g 19)⟩
theorem x_:Ik = [dF.int .i64,.int .i64,.bool]++(iw [.int .u8] 64++iw [.int .u8] 64):=by
 simp only[Ik,Io,List.flatten_cons,List.flatten_nil,List.append_nil,List.cons_append,List.nil_append]
theorem It(g:Nat->Value):i_ Ik g 0=gV (H4 g):=by
 rw[x_];simp only[List.cons_append,List.nil_append,i_];rw[zQ,wP,wP,lN];rfl
theorem Iu(g:Nat->Value):i_ Im g 0=th (Q0 g):=rfl
theorem Iv{k:IntKind}{v:Value}(h:(dF.int k).has v):(Lit.int k (lint v)).wf=true:=by
 obtain⟨z,rfl,hz⟩:=h;exact hz
theorem uR(l:dF):∀n,iw [l] n=List.replicate n l
 | 0=>rfl
 | n+1=>by rw[iw,uR l n,List.replicate_succ];rfl
theorem DV(l:dF){n i:Nat}(h:i<n)(r:List dF):(iw [l] n++r)[i]? = some l:=by
 rw[List.getElem?_append_left (by rw[uR,List.length_replicate];exact h),uR,List.getElem?_replicate,if_pos h]
theorem ok_int{ks:List dF}{g:Nat->Value}(h:nP ks g 0){j:Nat}{k:IntKind}(hj:ks[j]? = some (.int k)):(Lit.int k (lint (g j))).wf=true:=by
 have:=Iv (h j _ hj);rwa [Nat.zero_add]at this
theorem N6{g:Nat->Value}(h:nP Ik g 0):oW (H4 g):=by
 refine⟨bounds_i64 (ok_int h rfl),bounds_i64 (ok_int h rfl),fun i h64=>⟨bounds_u8 (ok_int h ?_),bounds_u8 (ok_int h ?_)⟩⟩
 ·rw[Nat.add_comm];rw[x_];show(iw [dF.int .u8] 64++iw [.int .u8] 64)[i]? = _;exact DV _ h64 _
 ·rw[show 67+i=(64+i)+3 by omega];rw[x_];show(iw [dF.int .u8] 64++iw [.int .u8] 64)[64+i]? = _;rw[List.getElem?_append_right (by rw[lN];simp),lN];simp only[List.length_cons,List.length_nil,Nat.zero_add,Nat.mul_one,Nat.add_sub_cancel_left];rw[<-List.append_nil (iw _ 64)];exact DV _ h64 _
theorem O6{g:Nat->Value}(h:nP Im g 0):iy (Q0 g):=by
 have i8:∀{j},Im[j]? = some (.int .i8) -> -128<=lint (g j)/\lint (g j)<128:=fun {j} hj=>by
  have:=bounds_i8 (ok_int h hj);omega
 have u64:∀{j},Im[j]? = some (.int .u64)->0<=lint (g j)/\lint (g j)<18446744073709551616:=fun {j} hj=>by
  have:=bounds_u64 (ok_int h hj);omega
 refine⟨bounds_u8 (ok_int h rfl),bounds_u8 (ok_int h rfl),⟨fun k hk=>?_,fun k hk=>?_⟩,fun k hk=>?_,?_⟩
 ·match k,hk with
  | 0,_=>exact i8 rfl
  | 1,_=>exact i8 rfl
  | 2,_=>exact i8 rfl
  | 3,_=>exact i8 rfl
 ·match k,hk with
  | 0,_=>exact i8 rfl
  | 1,_=>exact i8 rfl
  | 2,_=>exact i8 rfl
  | 3,_=>exact i8 rfl
 ·match k,hk with
  | 0,_=>exact u64 rfl
  | 1,_=>exact u64 rfl
  | 2,_=>exact u64 rfl
  | 3,_=>exact u64 rfl
  | 4,_=>exact u64 rfl
  | 5,_=>exact u64 rfl
 ·have:=bounds_u32 (ok_int h (j:=18) rfl);show 0<=lint (g 18)/\lint (g 18)<4294967296;omega
variable [av]
section
variable {H:Type} {enc:TypeId×Value->H} {w:World} {base:Nat} {spare:Nat->Bool} {held:Bool}
theorem Iw{t:TypeId}{ks:List dF}(hl:eJ prog t ks){fuel:Nat}{cs:List Value}{x:Option (DataW H×List MemPlace)}{y:DataW H×List MemPlace}(h:DataW.trod enc prog w base spare held fuel t cs=x)(hx:x=some y):∃g,nP ks g 0/\∀β : Env,cs=(i_ ks g 0).map (·.den β):=by
 obtain⟨h1,h2⟩:=hl.2 H enc w base spare held fuel cs y (h.trans hx);exact⟨_,(wO h1 h2 Env.zero).2,fun β=>(wO h1 h2 β).1⟩
end
end Go.Proofs.YthdciapjllppjaaGreat
namespace Go.Proofs.YthdciapjllppjaaGreat
open Go.ChangeShapes Go.WideShapes Go.ChangeAt Go.RowKit Go.Deep Go.Xm
def Il:List dF:=[[dF.bool],[.bool],[.int .u8],[.int .u8]].flatten
theorem Od:eJ prog 84 Il:=by
 refine .struct _ Tryz.underlying84 rfl (fun i f ks hi hk=>?_) (by kernel_rfl)
 match i,hi,hk with
 | 0,hi,hk=>cases hi;cases hk;exact⟨oy,rfl⟩
 | 1,hi,hk=>cases hi;cases hk;exact⟨oy,rfl⟩
 | 2,hi,hk=>cases hi;cases hk;exact⟨zU,rfl⟩
 | 3,hi,hk=>cases hi;cases hk;exact⟨zU,rfl⟩
 | i+4,hi,hk=>simp at hk
variable [av]
def Nk(g:Nat->Value):sS:=⟨t9 (g 0),t9 (g 1),lint (g 2),lint (g 3)⟩
theorem Fk(g:Nat->Value):i_ Il g 0=eD (Nk g):=rfl
theorem LS{g:Nat->Value}(h:nP Il g 0):jP (Nk g):=⟨bounds_u8 (ok_int h rfl),bounds_u8 (ok_int h rfl)⟩
section
variable {H:Type} {enc:TypeId×Value->H} {w:World} {base:Nat} {spare:Nat->Bool} {held:Bool}
set_option maxRecDepth 100000 in
theorem DU{α : Type}[Inhabited α]{f : α->List XC}{s:Nat}[hE:nk f s]{ks:List dF}{te:TypeId}(hl:eJ prog te ks)(hks:ks.length=s){of:(Nat->Value) -> α}(hof:∀g,i_ ks g 0=f (of g)){raw : α->Prop}(hraw:∀g,nP ks g 0->raw (of g)){v:Value}{b0:Nat}{r:Reach}{t:TypeId}(ht:prog.underlying t=some (.slice te))(hcell:Cell.okWide prog w r b0 t v){fuel:Nat}{x:DataW H×List MemPlace}(hf:DataW.trod enc prog w base spare held fuel t [v]=some x) :
 ∃l:List α,(∀j,j<l.length->raw (l.getD j default))/\l.length<=9223372036854775807/\sT w v (fl f l) l.length:=by
 rcases open_slice ht hf with⟨hcs,_⟩|⟨a,len,cap,m,n,D,Pl,hcs,_,hlc,hcm,hm,_,hall⟩
 ·simp only[List.cons.injEq,and_true]at hcs;exact⟨[],fun j hj=>absurd hj (Nat.not_lt_zero _),Nat.zero_le _,.inl ⟨hcs,rfl,rfl⟩⟩
 ·simp only [List.cons.injEq,and_true]at hcs;subst hcs;have hspot:=u2 ht hcell;have hlm:len<=m:=by rw[hm];split<;>omega
  have hC:prog.cellsOf te=s:=hl.1.trans hks
  let g:Nat->Nat->Value:=fun i j=>(w.cell? ⟨a.block,a.off+(i*s+j),none⟩).getD .nilIface
  have hg:∀i,i<len->nP ks (g i) 0/\∀j,j<s->w.cell? ⟨a.block,a.off+(i*s+j),none⟩=some (g i j):=fun i hi=>by
   obtain⟨cs',hc,ht'⟩:=hall i (by omega);rw[hC]at hc;obtain⟨_,hcl,hat⟩:=World.cells?_some hc
   have hat':∀j,j<s->w.cell? ⟨a.block,a.off+(i*s+j),none⟩=cs'[j]?:=fun j hj=>by
    rw[<-hat j hj,Go.Deep.add_add,Ex hspot]
   have hgj:∀j,j<s->g i j=cs'.getD j .nilIface:=fun j hj=>by
    show(w.cell? _).getD _=_;rw[hat' j hj,List.getD_eq_getElem?_getD]
   obtain⟨hl1,hv⟩:=hl.2 H enc w base spare held n cs' _ ht';have hls:cs'.length=s:=hl1.trans hks;refine⟨fun j l hj=>?_,fun j hj=>?_⟩
   ·have hjs:j<s:=by rw[<-hks];exact(List.getElem?_eq_some_iff.1 hj).1
    obtain⟨v,h1,h2⟩:=hv j l hj;rw[Nat.zero_add,hgj j hjs,List.getD_eq_getElem?_getD,h1];exact h2
   ·rw[hat' j hj,hgj j hj,List.getD_eq_getElem?_getD,List.getElem?_eq_getElem (by omega)];rfl
  refine⟨(List.range len).map fun i=>of (g i),fun j hj=>?_,?_,.inr ⟨a.block,a.off,cap,by simpa using hlc,?_,fun j c hj β=>?_⟩⟩
  ·rw[List.length_map,List.length_range]at hj;rw[List.getD_eq_getElem?_getD,List.getElem?_map,List.getElem?_range hj];exact hraw _ (hg j hj).1
  ·unfold maxLen at hcm;rw[List.length_map,List.length_range];omega
  ·rw[List.length_map,List.length_range];obtain⟨b,o,sp⟩:=a;simp only at hspot;subst hspot;rfl
  ·have hj':=hj;unfold fl at hj;rw[tT f s hE.pos _ (fun a _=>hE.len a)]at hj
   have hlt:j/s<len:=by
    rw[List.getElem?_map]at hj
    by_cases h:j/s<len
    ·exact h
    ·rw[List.getElem?_eq_none (by rw[List.length_range];omega)]at hj;cases hj
   rw[List.getElem?_map,List.getElem?_range hlt]at hj;have hj2:(f (of (g (j/s))))[j%s]? = some c:=hj;have hr:j%s<s:=Nat.mod_lt _ hE.pos;rw[<-hof,rD,Nat.zero_add]at hj2;obtain⟨h1,h2⟩:=hg (j/s) hlt;have h3:=h2 (j%s) hr;have e5:j/s*s+j%s=j:=by rw[Nat.mul_comm];exact Nat.div_add_mod j s
   rw[e5]at h3;rw[h3]
   cases hk:ks[j%s]? with
   | none=>rw[hk]at hj2;cases hj2
   | some l=>
     rw[hk]at hj2;cases hj2;have:=h1 (j%s) l hk;rw[Nat.zero_add]at this;rw[dF.den this]
set_option maxRecDepth 100000 in
theorem NM{v:Value}{b0:Nat}{r:Reach}(hval:Value.okWide prog w r b0 30 v){fuel:Nat}{x:DataW H×List MemPlace}(hf:DataW.trod enc prog w base spare held fuel 30 v.cells.toList=some x) :
 ∃ (h:Hd) (pics:List sS) (l:List Sm) (va vb:Value),oW h/\(∀j,j<pics.length->jP (pics.getD j default))/\(∀j,j<l.length->iy (l.getD j default))/\pics.length<=9223372036854775807/\l.length<=9223372036854775807/\sT w va (fl eD pics) pics.length/\sT w vb (fl th l) l.length /\
   ∀(β : Env) (c0 c1:XC),c0.den β = va->c1.den β = vb->v = .agg ((rj h c0 c1).map (·.den β)).toArray:=by
 unfold Value.okWide at hval;rw[Tryz.underlying30]at hval;obtain⟨cs,rfl,hsz,ts,hts,_,hcell⟩:=hval;have hts2:(prog.cellTypes prog.depth 30).map (fun ts=>(ts.length,ts[131]?,ts[132]?))=some (133,some 27,some 28):=by kernel_rfl
 rw[hts]at hts2;simp only[Option.map_some,Option.some.injEq,Prod.mk.injEq]at hts2;obtain⟨hl133,h131,h132⟩:=hts2;obtain⟨xs,n,_,_,hlen,hxl,hx⟩:=DataW.trod_struct Tryz.underlying30 hf;have hC:prog.cellsOf 30=133:=by kernel_rfl
 have hcl:cs.toList.length=133:=by
  have:cs.size=prog.cellsOf 30:=hsz;rw[hC]at this;simpa using this
 have hx3:xs.length=3:=hxl
 have hget:∀i,i<3->∃y,xs[i]? = some y:=fun i hi=>⟨_,List.getElem?_eq_getElem (by omega)⟩
 obtain⟨y0,e0⟩:=hget 0 (by decide);obtain⟨y1,e1⟩:=hget 1 (by decide);obtain⟨y2,e2⟩:=hget 2 (by decide);have x0:=hx 0 _ rfl;have x1:=hx 1 _ rfl;have x2:=hx 2 _ rfl;obtain⟨g0,ok0,d0⟩:=Iw Nc x0 e0
 obtain⟨va,hva⟩:∃vm,cs.toList[131]? = some vm:=⟨_,List.getElem?_eq_getElem (by omega)⟩
 obtain⟨vb,hvb⟩:∃vm,cs.toList[132]? = some vm:=⟨_,List.getElem?_eq_getElem (by omega)⟩
 have hlast:cs.toList.drop 132 = [vb]:=by
  have h:132<cs.toList.length:=by omega
  rw[List.getElem?_eq_getElem h]at hvb;rw[List.drop_eq_getElem_cons h,Option.some.inj hvb,List.drop_of_length_le (by omega)]
 have hlast2:cs.toList.drop 131 = [va,vb]:=by
  have h:131<cs.toList.length:=by omega
  rw[List.getElem?_eq_getElem h]at hva;rw[List.drop_eq_getElem_cons h,Option.some.inj hva,hlast]
 have hcell1:Cell.okWide prog w r b0 27 va:=by
  obtain⟨u,hu,hok⟩:=hcell 131 va (by rw[<-Array.getElem?_toList];exact hva);rw[hl133,show 131%133=131 from rfl,h131]at hu;cases hu;exact hok
 have hcell2:Cell.okWide prog w r b0 28 vb:=by
  obtain⟨u,hu,hok⟩:=hcell 132 vb (by rw[<-Array.getElem?_toList];exact hvb);rw[hl133,show 132%133=132 from rfl,h132]at hu;cases hu;exact hok
 have x1':DataW.trod enc prog w base spare held n 27 [va]=some y1:=by
  rw[<-e1,<-x1];show _=DataW.trod enc prog w base spare held n 27 ((cs.toList.drop 131).take (prog.cellsOf 27));rw[hlast2,show prog.cellsOf 27=1 by kernel_rfl];rfl
 have x2':DataW.trod enc prog w base spare held n 28 [vb]=some y2:=by
  rw[<-e2,<-x2];show _=DataW.trod enc prog w base spare held n 28 ((cs.toList.drop 132).take (prog.cellsOf 28));rw[hlast,show prog.cellsOf 28=1 by kernel_rfl];rfl
 obtain⟨pics,p1,p2,p3⟩:=DU (f:=eD) Od rfl Fk (raw:=jP) (fun g h=>LS h) Tryz.underlying27 hcell1 x1';obtain⟨l,l1',l2',l3'⟩:=DU (f:=th) QK rfl Iu (raw:=iy) (fun g h=>O6 h) Tryz.underlying28 hcell2 x2';refine⟨H4 g0,pics,l,va,vb,N6 ok0,p1,l1',p2,l2',p3,l3',fun β c0 c1 h0 h1=>?_⟩
 have f0:cs.toList.take 131=(gV (H4 g0)).map (·.den β):=by
  rw[<-It,<-d0 β];show _=(cs.toList.drop 0).take (prog.cellsOf 26);rw[Nc.1];rfl
 have h2:cs.toList=(rj (H4 g0) c0 c1).map (·.den β):=by
  rw[<-List.take_append_drop 131 cs.toList,f0,hlast2];unfold rj;rw[List.map_append,<-h0,<-h1];rfl
 rw[<-h2]
end
end Go.Proofs.YthdciapjllppjaaGreat
namespace Go.Proofs.YthdciapjllppjaaGreat
open Go.ChangeShapes Go.WideShapes Go.ChangeAt Go.RowKit Go.Deep Go.Xm
def RF(w:World)(G:Nat->Nat->Value)(v:Value)(n:Nat):Prop:=(v = .slice none 0 0/\n=0)\/∃b off cap:Nat,n<=cap/\v = .slice (some ⟨b,off,none⟩) n cap/\∀i j,i<n->j<5->w.cell? ⟨b,off+(i*5+j),none⟩=some (G i j)
theorem MX{G:Nat->Nat->Value}{v:Value}{n i:Nat}(hi:i<n):CZ G v n (2*i)=G i 3:=by
 unfold CZ;rw[if_pos (by omega),show 2*i/2=i by omega,show 3+2*i%2=3 by omega]
theorem MY{G:Nat->Nat->Value}{v:Value}{n i:Nat}(hi:i<n):CZ G v n (2*i+1)=G i 4:=by
 unfold CZ;rw[if_pos (by omega),show(2*i+1)/2=i by omega,show 3+(2*i+1)%2=4 by omega]
theorem GW{G:Nat->Nat->Value}{v:Value}{n:Nat}:CZ G v n (2*n)=v:=by
 unfold CZ;rw[if_neg (by omega)]
def G3(β : Env)(g:Nat)(G:Nat->Nat->Value)(v:Value)(n:Nat):Prop:=∀k,k<2*n+1->gU (β.bn g) k=(Fq (CZ G v n k)).1/\eG (β.bn g) k=(Fq (CZ G v n k)).2.1/\mG (β.bn g) k=(Fq (CZ G v n k)).2.2
theorem Qm{w:World}{G:Nat->Nat->Value}{v:Value}{n:Nat}(hv:RF w G v n){β : Env}{g:Nat}(hβ : G3 β g G v n) : @XC.den (p8 G v n) β ((y9 (2*n) n).self g)=v:=by
 letI:av:=p8 G v n
 obtain⟨h1,h2,h3⟩:=hβ (2*n) (by omega);rw[GW]at h1 h2 h3;unfold y9
 by_cases h0:n=0
 ·rw[if_pos h0];show AE (AE (CZ G v n (2*n)))=v;rw[GW]
  rcases hv with⟨rfl,_⟩|⟨b,off,cap,_,rfl,_⟩
  ·rfl
  ·rw[h0];rfl
 ·rw[if_neg h0]
  rcases hv with⟨_,h⟩|⟨b,off,cap,hc,rfl,_⟩
  ·exact absurd h h0
  ·show Value.slice (some ⟨gU (β.bn g) (2*n),eG (β.bn g) (2*n)+0,none⟩) n (max n (mG (β.bn g) (2*n)-0))=_;rw[h1,h2,h3];show Value.slice (some ⟨b,off+0,none⟩) n (max n (cap-0))=_;rw[Nat.add_zero,Nat.sub_zero,Nat.max_eq_right hc]
set_option maxRecDepth 100000 in
theorem Ob{w:World}{G:Nat->Nat->Value}{v:Value}{n:Nat}(hin:∀i,i<n->G0 w G i)(hv:RF w G v n){β : Env}{g:Nat}(hβ : G3 β g G v n) : @C1 (p8 G v n) β w g (GO w G n):=by
 letI:av:=p8 G v n
 refine Iq (fun k cs hk=>?_) (fun k cs hk j c hj=>?_)
 ·rw[xH];have hkl:k<2*n+1:=by rw[<-xH w G n];exact(List.getElem?_eq_some_iff.1 hk).1
  by_cases h2:k<2*n
  ·rw[xG w G h2]at hk;cases hk;unfold PU;split
   ·exact ll _ _ _
   ·exact ll _ _ _
  ·obtain rfl:k=2*n:=by omega
   rw[tB]at hk;cases hk;intro c hc;obtain⟨x,hx,hc⟩:=List.mem_flatMap.1 hc;obtain⟨i,hi,rfl⟩:=List.mem_map.1 hx;have hi:=List.mem_range.1 hi;simp only[kE,List.mem_cons,List.not_mem_nil,or_false]at hc
   rcases hc with rfl|rfl|rfl|rfl|rfl
   ·rfl
   ·rfl
   ·rfl
   ·exact Dp (by omega)
   ·exact Dp (by omega)
 ·have hkl:k<2*n+1:=by rw[<-xH w G n];exact(List.getElem?_eq_some_iff.1 hk).1
  obtain⟨t1',t2',t3'⟩:=hβ k hkl
  by_cases h2:k<2*n
  ·rw[xG w G h2]at hk;cases hk;have hk2:k/2<n:=by omega
   have hG:CZ G v n k=G (k/2) (3+k%2):=if_pos h2;rw[t1',t2',hG];unfold PU at hj
   by_cases hm:k%2=0
   ·rw[if_pos hm]at hj;rw[hm];exact DI (hin _ hk2).odd hj β g
   ·rw[if_neg hm]at hj;rw[show k%2=1 by omega];exact DI (hin _ hk2).mask hj β g
  ·obtain rfl:k=2*n:=by omega
   rw[tB]at hk;cases hk;rw[GW]at t1' t2';rw[t1',t2'];unfold fl at hj;rw[tT kE 5 (by decide) _ (fun _ _=>rfl)]at hj
   have hlt:j/5<n:=by
    rw[<-ya w G n]
    by_cases h:j/5<(GQ w G n).length
    ·exact h
    ·rw[List.getElem?_eq_none (by omega)]at hj;cases hj
   rw[show(GQ w G n)[j/5]? = some ((GQ w G n).getD (j/5) default) by
    rw[List.getD_eq_getElem?_getD,List.getElem?_eq_getElem (by rw[ya];exact hlt)];rfl,Ip w G hlt]at hj
   obtain⟨i,hie⟩:∃i,j/5=i:=⟨_,rfl⟩
   obtain⟨m,hme⟩:∃m,j%5=m:=⟨_,rfl⟩
   have hmlt:m<5:=by omega
   have hje:j=i*5+m:=by omega
   rw[hie,hme]at hj;rw[hie]at hlt;subst hje
   rcases hv with⟨_,h⟩|⟨b,off,cap,hc,rfl,hcell⟩
   ·omega
   ·show w.cell? ⟨b,off+(i*5+m),none⟩=_;rw[hcell i m hlt hmlt];obtain⟨⟨z0,e0,-⟩,⟨z1,e1,-⟩,⟨z2,e2,-⟩,h3,h4⟩:=hin i hlt;have hj:(kE ⟨m8 (G i 0),m8 (G i 1),m8 (G i 2),y9 (2*i) (jx (G i 3)),y9 (2*i+1) (jx (G i 4))⟩)[m]? = some c:=hj
    match m,hmlt,hj with
    | 0,_,hj=>cases hj;rw[e0];rfl
    | 1,_,hj=>cases hj;rw[e1];rfl
    | 2,_,hj=>cases hj;rw[e2];rfl
    | 3,_,hj=>
      cases hj;obtain⟨q1,q2,q3⟩:=hβ (2*i) (by omega);rw[MX hlt]at q1 q2 q3;exact congrArg some (Dn h3 (congrArg AE (MX hlt)) q1 q2 q3).symm
    | 4,_,hj=>
      cases hj;obtain⟨q1,q2,q3⟩:=hβ (2*i+1) (by omega);rw[MY hlt]at q1 q2 q3;exact congrArg some (Dn h4 (congrArg AE (MY hlt)) q1 q2 q3).symm
def MZ(f:FuncId):Prop:=∀(_:av) (h:Hd) (_:oW h) (pics:List sS) (_:∀j,j<pics.length->jP (pics.getD j default)) (l:List Sm) (_:∀j,j<l.length->iy (l.getD j default)) (ob0 ob1:aj) (_:Br ob0 eD pics) (_:Br ob1 th l) (c0 c1:XC) (_:cG c0 0 0 pics.length) (_:cG c1 1 0 l.length) (LA:List (List XC)) (lq:List oO) (q:List pZ) (_:oX LA lq q) (d:XC) (_:da LA 2 d (fl kE lq) q.length) (_:∀i,i<q.length->p5 (q.getD i default)) (_:q.length<=9223372036854775807),bm prog f [.agg (rj h c0 c1),.one d] [ob0,ob1,.late LA] (.one (.bool true)) [ob0,ob1,.late LA]
section
variable {H:Type} {enc:TypeId×Value->H} {w:World} {base:Nat} {spare:Nat->Bool} {held:Bool}
set_option maxRecDepth 100000 in
theorem Ps{f:FuncId}(hcon:MZ f){v0 v1:Value}{b0 b1:Nat}{r s:Reach}(hval0:Value.okWide prog w r b0 30 v0)(hval1:Value.okWide prog w s b1 63 v1){f0 f1:Nat}{x0 x1:DataW H×List MemPlace}(hf0:DataW.trod enc prog w base spare held f0 30 v0.cells.toList=some x0)(hf1:DataW.trod enc prog w base spare held f1 63 v1.cells.toList=some x1) :
 Calls prog f #[v0,v1] w fun e w'=>e = .returned (.bool true)/\Below w.heap.size w w':=by
 have hv1:=hval1;unfold Value.okWide at hv1;rw[Tryz.underlying63]at hv1;have hv1:Cell.okWide prog w s b1 63 v1:=hv1
 have hone:v1.cells.toList = [v1]:=by
  have h:=hv1;unfold Cell.okWide at h;rw[Tryz.underlying63]at h;have hck:Cell.ok prog w s b1 63 v1:=h;unfold Cell.ok at hck;rw[Tryz.underlying63]at hck
  split at hck<;>first
   | rfl
   | (cases hck)
 rw[hone]at hf1;obtain⟨G,n,hn,hin,hv⟩ := @OL H enc w base spare held ⟨fun _ => .int .u8 0,fun _=>⟨rfl,rfl⟩⟩ v1 b1 s _ Tryz.underlying63 hv1 _ _ hf1;have hv:RF w G v1 n:=hv
 letI:av:=p8 G v1 n
 obtain⟨h,pics,l,va,vb,q1,q2,q3,q4',q5,q6,q7,q8⟩:=NM hval0 hf0;obtain⟨c0,o0,b0,lo0,sz0,a1,a2,a3,a4,a5,a6,a7⟩:=IT (sW (enc:=eD) pics) Du 0 q6;obtain⟨c1,o1,b1,lo1,sz1,d1,d2,d3,d4,d5,d6,d7⟩:=IT (sW (enc:=th) l) Du 1 q7;obtain⟨tb,htb⟩:=Pb (fun k=>Fq (CZ G v1 n k)) (2*n+1);have his:=R5 w G n;have hsl:da (GO w G n) 2 ((y9 (2*n) n).self 2) (fl kE (GQ w G n)) n:=(BF (tB w G n)).self 2;have hql:(OB w G n).length=n:=yl w G n
 have hc:=hcon inferInstance h q1 pics q2 l q3 o0 o1 (Br.in a3 a4) (Br.in d3 d4) c0 c1 a2 d2 (GO w G n) (GQ w G n) (OB w G n) his ((y9 (2*n) n).self 2) (by rw[hql];exact hsl) (fun i hi=>by
  rw[hql]at hi;rw[Jd w G hi]
  exact OM (hin i hi)) (by rw[hql];exact hn)
 let β : Env:=⟨fun i=>if i=0 then b0 else if i=1 then b1 else tb,fun i=>if i=0 then lo0 else lo1,fun i=>if i=0 then sz0 else sz1⟩
 have htab:G3 β 2 G v1 n:=htb;have r0:aK β 3 (.one c0) va:=a7 β 3 (by omega) rfl rfl;have r1:aK β 3 (.one c1) vb:=d7 β 3 (by omega) rfl rfl;refine EO hc (β := β) (Nat.le_of_ble_eq_true rfl) (fun i o ho=>?_) (fun i o ho=>?_) (vs:=[v0,v1]) ?_
 ·match i,ho with
  | 0,ho=>cases ho;exact a6 _ _
  | 1,ho=>cases ho;exact d6 _ _
  | 2,ho=>cases ho;trivial
  | i+3,ho=>simp at ho
 ·match i,ho with
  | 0,ho=>cases ho;exact .inl a5
  | 1,ho=>cases ho;exact .inl d5
  | 2,ho=>cases ho;exact .inr ⟨_,rfl,Ob hin hv htab⟩
  | i+3,ho=>simp at ho
 ·exact .cons ⟨BC r0.1 r1.1,q8 β c0 c1 r0.2.symm r1.2.symm⟩ (.cons ⟨hsl.ok (Nat.le_of_ble_eq_true rfl),(Qm hv htab).symm⟩ .nil)
end
set_option maxRecDepth 100000 in
def RP:Value := .agg (#[.int .i64 0,.int .i64 0,.bool false]++Array.replicate 128 (.int .u8 0) ++ #[.slice none 0 0,.slice none 0 0])
end Go.Proofs.YthdciapjllppjaaGreat
