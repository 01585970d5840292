/-
  A part of the proof: FtL, OpenT, SmIn, StrO, FtO.
-/
import Derived.Test.YthdciapjllppjaaGreatFaE
import Derived.Test.YthdciapjllppjaaGreatFaX
import Derived.Test.YthdciapjllppjaaGreatFaY
import Derived.Test.YthdciapjllppjaaGreatFaZC
import Derived.Test.YthdciapjllppjaaGreatFaZD
import Derived.OpenShut
set_option maxRecDepth 10000
set_option maxHeartbeats 8000000
set_option linter.unusedVariables false
set_option linter.unusedSectionVars false
set_option linter.unusedSimpArgs false
open Go.Proofs.Tryz (prog)
namespace Go.Xm
theorem WX.gen[av]{P:Program}{nt nI:Nat}{al:aL}{hs:ah}{c:rM}{K:ca}{σ : Type}(R : σ->aL)(H : σ->ah)(I : σ->Prop)(main:∀s,I s->WX P nt nI c (R s) (H s) K)(here:(∀s,I s->WX P nt nI c (R s) (H s) K)->WX P nt nI c al hs K):WX P nt nI c al hs K:=here main
theorem w7{α : Type}(l:List α)(j:Nat):l.take (l.take j).length=l.take j:=by
 rw[List.length_take]
 by_cases h:j<=l.length
 ·rw[Nat.min_eq_left h]
 ·rw[Nat.min_eq_right (by omega),List.take_of_length_le (by omega),List.take_of_length_le (by omega)]
theorem WX.NJ[av]{P:Program}{nt nI:Nat}{al:aL}{hs:ah}{K:ca}{c:rM}{L:List (List XC)}{all vs:List XC}{g m k off n fl cut:Nat}(j:Nat)(hg:hs[g]? = some (.late L))(hk:L[k]? = some all)(hgI:nI<=g)(hm:L.length=m)(hv:(all.drop off).take j=vs)(hvl:∀c∈all,c.f7 m=true)
 {R:aL} {H:ah}(hH:aO hs.length g m (.lsl g k off n fl cut) (.lsl g m 0 n fl 0) L vs 0 hs H) (hR:bG g m (.lsl g k off n fl cut) (.lsl g m 0 n fl 0) al R) (hok:qq nI R H)
 (hx:WX P nt nI c R H K):WX P nt nI c al hs K:=by
 subst hv;refine WX.O7 hg hgI hm (fun c hc=>hvl c (List.mem_of_mem_drop (List.mem_of_mem_take hc))) (fun β mm w hmm rel=>?_) hH hR hok hx;have nn:=hmm.n;have hin:g<mm.n:=by rw[nn];exact(List.getElem?_eq_some_iff.1 hg).1
 have gh:mm.get g = .late L:=hmm.at hg;refine⟨gV (β.bp g) k,dX (β.bp g) k+off,mc (β.bp g) k-cut,fun β2 t1 t3 t4=>by simp only[XC.den,t1,t3,t4,Nat.add_zero,Nat.sub_zero],fun hne=>?_⟩;have hall:all≠[]:=fun e=>hne (by rw[e];simp)
 obtain⟨q1,q2⟩:=rel.late g hin L gh k all hk;obtain⟨q3,al2,e,fr,q4,q5⟩:=q2 hall;refine⟨⟨al2,e,fr,q4,?_⟩,.inr ⟨g,L,k,all,hin,gh,hk,hall,rfl⟩⟩;have hle:((all.drop off).take j).length<=all.length-off:=by rw[List.length_take,List.length_drop];omega
 have e1:((al2.toList.drop (dX (β.bp g) k)).drop off).take ((all.drop off).take j).length=(((al2.toList.drop (dX (β.bp g) k)).take all.length).drop off).take ((all.drop off).take j).length:=by
  rw[List.drop_take,List.take_take,Nat.min_eq_left hle]
 rw[<-List.drop_drop,e1,q5,<-List.map_drop,<-List.map_take,w7,List.map_map];rfl
end Go.Xm
namespace Go.Proofs.YthdciapjllppjaaGreat
open Go.Xm
variable [av]
def wZ(x:List mA)(i:Nat):List mA:=(x.take i).map fun f=>⟨false,f.c⟩
theorem Ew(x:List mA)(i:Nat):(wZ x i).length=min i x.length:=by simp[wZ]
theorem JJ{x:List mA}{i:Nat}(h:i<x.length):wZ x (i+1)=wZ x i++[⟨false,(x.getD i default).c⟩]:=by
 unfold wZ;rw[sx x h,List.map_append];rfl
theorem MO{x:List mA}{i:Nat}(h:x.length<=i):wZ x (i+1)=wZ x i:=by
 unfold wZ;rw[List.take_of_length_le (by omega),List.take_of_length_le h]
def eQ(res:Nat->List Int)(i:Nat):List (List Int):=(List.range i).map res
theorem fC(res:Nat->List Int)(i:Nat):(eQ res i).length=i:=by simp[eQ]
theorem xT(res:Nat->List Int)(i:Nat):eQ res (i+1)=eQ res i++[res i]:=by
 unfold eQ;rw[List.range_succ,List.map_append];rfl
def rO(b:Nat)(ps:List (List Int))(res:Nat->List Int)(i:Nat):List XC := .lsl 0 0 0 (ps.getD 0 []).length (ps.getD 0 []).length 0::fb b (eQ res i)
theorem tP(b:Nat)(ps:List (List Int))(res:Nat->List Int)(i:Nat):(rO b ps res i).length=i+1:=by rw[rO,List.length_cons,nX,fC]
theorem JR(b:Nat)(ps:List (List Int))(res:Nat->List Int)(i:Nat):(rO b ps res (i+1)).map (·.self 6)=(rO b ps res i).map (·.self 6)++[.lsl 6 (b+i) 0 (res i).length (res i).length 0]:=by
 unfold rO;rw[xT,rX,fC,List.map_cons,List.map_cons,List.map_append];rfl
theorem yW{b:Nat}(hb:0<b)(ps:List (List Int))(res:Nat->List Int)(i:Nat):∀c∈rO b ps res i,c.f7 (b+i)=true:=fun c hc=>by
 rcases List.mem_cons.1 hc with rfl|hc
 ·simp only[XC.f7,Nat.blt_eq];omega
 ·exact ka (eQ res i) b (b+i) (by rw[fC];exact Nat.le_refl _) c hc
theorem qX(b:Nat)(ps:List (List Int))(res:Nat->List Int)(i:Nat):∀c∈rO b ps res i,c.f7 (b+i+1)=true:=fun c hc=>by
 rcases List.mem_cons.1 hc with rfl|hc
 ·simp only[XC.f7,Nat.blt_eq];omega
 ·exact ka (eQ res i) b (b+i+1) (by rw[fC];omega) c hc
theorem JT{τ : Nat->Nat}{HS:ah}{k:Nat}{ls:List Nat}{hs:ah}{b:Nat}{ps:List (List Int)}{res:Nat->List Int}{i:Nat}{e:TypeId}{x y:Bool}(hi:HS[k]? = some (.cells ((rO b ps res i).map (·.self 6)) e x y))(h6 : τ 6=6)(r:af τ HS ls hs):af τ HS (k::ls) (.cells ((rO b ps res i).map (·.self 6)) e x y::hs):=by
 refine af.cons ?_ r;rw[hi];simp only[aj.aC];rw[oU (qX b ps res i),h6]
theorem JS{τ : Nat->Nat}{HS:ah}{k:Nat}{ls:List Nat}{hs:ah}{b:Nat}{ps:List (List Int)}{res:Nat->List Int}{i:Nat}{e:TypeId}{x y:Bool}{cs:List XC}(hx:(rO b ps res i).map (·.self 6)=cs)(hi:HS[k]? = some (.cells cs e x y))(h6 : τ 6=6)(r:af τ HS ls hs):af τ HS (k::ls) (.cells ((rO b ps res i).map (·.self 6)) e x y::hs):=by
 subst hx;exact JT hi h6 r
theorem yX{b:Nat}{ps:List (List Int)}{res:Nat->List Int}{i n:Nat}{e:TypeId}{x y:Bool}(h:6<n):(aj.cells ((rO b ps res i).map (·.self 6)) e x y).bt n:=rl (qX b ps res i) h
theorem tQ{b:Nat}{ps:List (List Int)}{res:Nat->List Int}{i n k p fL:Nat}{e:TypeId}{x y:Bool}(h:6<n):(aj.cells ((rO b ps res i).map (·.self 6)++[.lsl 6 k 0 p fL 0]) e x y).bt n:=fun c hc=>by
 rcases List.mem_append.1 hc with hc|hc
 ·exact cq (qX b ps res i) h c hc
 ·rw[List.mem_singleton.1 hc];exact h
theorem MR(b:Nat)(ps:List (List Int))(res:Nat->List Int)(i:Nat){g:Nat}(hg:6≠g)(m:Nat):∀c∈(rO b ps res i).map (·.self 6),c.iA g m:=fun c hc=>by
 obtain⟨x,hx,rfl⟩:=List.mem_map.1 hc;have h:=qX b ps res i x hx
 cases x with
 | lsl g' k o n f ct=>exact fun e=>absurd e hg
 | lpt g' k o=>exact fun e=>absurd e hg
 | ptr i o=>cases h
 | slice i o n cp=>cases h
 | map i=>cases h
 | bind a b=>cases h
 | _=>trivial
theorem RZ{i o n g m:Nat}{cp:nQ}(h:i≠g):(XC.slice i o n cp).iA g m:=h
theorem RY{i o g m:Nat}(h:i≠g):(XC.ptr i o).iA g m:=h
theorem RX{i k o n f ct g m:Nat}(h:i≠g):(XC.lsl i k o n f ct).iA g m:=fun e=>absurd e h
def eh(i:Nat):List mA:=List.replicate i ⟨true,.nils⟩
theorem CF(i:Nat):eh (i+1)=eh i++[⟨true,.nils⟩]:=List.replicate_succ'
theorem jY(i n:Nat):∀c∈fl cK (eh i),c.f7 n=true:=yJ fun f hf=>by
 rw[List.eq_of_mem_replicate hf];rfl
theorem yS{L:List (List XC)}{x:List mA}{fs:List Fa}(h:gm L x fs)(i:Nat):∀c∈fl cK (wZ x i),c.f7 L.length=true:=yJ fun f hf=>by
 obtain⟨g,hg,rfl⟩:=List.mem_map.1 hf;have hg:=List.mem_of_mem_take hg;obtain⟨j,hj,rfl⟩:=List.mem_iff_getElem.1 hg;have:=(h.2 j (by rw[<-h.1];exact hj)).2;rw[List.getD_eq_getElem?_getD,List.getElem?_eq_getElem hj,Option.getD_some]at this
 rcases this with⟨_,e|⟨k,e⟩⟩|⟨k,fl,_,e,h3⟩
 ·show(x[j].c).f7 _=true;rw[e];rfl
 ·show(x[j].c).f7 _=true;rw[e];rfl
 ·show(x[j].c).f7 _=true;rw[e];have:=(List.getElem?_eq_some_iff.1 h3).1;simp only[XC.f7,Nat.blt_eq];exact this
theorem Rw(l:List mA)(f:mA)(g:Nat):(fl cK (l++[f])).map (·.self g)=(fl cK l).map (·.self g)++[.bool f.lost,f.c.self g]:=by
 unfold fl;rw[List.flatMap_append,List.map_append];rfl
theorem O4{l:List mA}{i:Nat}(h:i<l.length):(fl cK l)[i*2+1]? = some (l.getD i default).c:=by
 obtain⟨h1,h2⟩:=JB (enc:=cK) l i h default
 have h3:((fl cK l).drop (i*2))[1]? = some (l.getD i default).c:=by
  have:(((fl cK l).drop (i*2)).take 2)[1]? = some (l.getD i default).c:=by rw[h2];rfl
  rwa [List.getElem?_take,if_pos (by decide)]at this
 rwa [List.getElem?_drop]at h3
theorem Px{F:List (List XC)}{x:List mA}{fs:List Fa}(h:gm F x fs){i:Nat}(hi:x.length<=i):gm F (wZ x i) (fs.map fun f=>⟨false,f.mask⟩):=by
 refine⟨by rw[Ew,List.length_map,<-h.1];omega,fun j hj=>?_⟩;rw[List.length_map]at hj;have hj2:j<x.length:=by rw[h.1];exact hj
 have e1:(wZ x i).getD j default=⟨false,(x.getD j default).c⟩:=by
  unfold wZ;rw[List.take_of_length_le hi,List.getD_eq_getElem?_getD,List.getElem?_map,List.getD_eq_getElem?_getD,List.getElem?_eq_getElem hj2];rfl
 have e2:(fs.map fun f=>(⟨false,f.mask⟩:Fa)).getD j default=⟨false,(fs.getD j default).mask⟩:=by
  rw[List.getD_eq_getElem?_getD,List.getElem?_map,List.getD_eq_getElem?_getD,List.getElem?_eq_getElem hj];rfl
 rw[e1,e2];exact⟨rfl,(h.2 j hj).2⟩
theorem PD{PL:List (List XC)}{ps:List (List Int)}{res:Nat->List Int}{M:Nat}(h0:PL[0]? = some (il .u8 (ps.getD 0 [])))(W:List (List XC)):lE (PL++((eQ res M).map (il .u8)++W)) (rO PL.length ps res M) (ps.getD 0 []::eQ res M):=by
 refine⟨by rw[tP,List.length_cons,fC],fun i hi=>?_⟩
 cases i with
 | zero=>exact .inr ⟨0,_,Nat.le_refl _,rfl,by rw[List.getElem?_append_left (List.getElem?_eq_some_iff.1 h0).1];exact h0⟩
 | succ i=>
   have hi2:i<(eQ res M).length:=by simpa using hi
   have e:=tF (eQ res M) PL.length i hi2;show cy _ 0 ((fb PL.length (eQ res M)).getD i .nils) (il .u8 ((eQ res M).getD i [])) ((eQ res M).getD i []).length;rw[e];refine .inr ⟨_,_,Nat.le_refl _,rfl,?_⟩;rw[List.getElem?_append_right (by omega),Nat.add_sub_cancel_left,List.getElem?_append_left (by rw[List.length_map];exact hi2),List.getElem?_map,List.getElem?_eq_getElem hi2,List.getD_eq_getElem?_getD,List.getElem?_eq_getElem hi2];rfl
theorem EP(res:Nat->List Int){M i:Nat}(h:i<M):(eQ res M).getD i []=res i:=by
 unfold eQ;rw[List.getD_eq_getElem?_getD,List.getElem?_map,List.getElem?_range h];rfl
theorem ER{res:Nat->List Int}{M:Nat}(P:List Int->Prop){p:List Int}(h0:P [])(hp:P p)(h:∀i,i<M->P (res i))(i:Nat):P ((p::eQ res M).getD i []):=by
 cases i with
 | zero=>exact hp
 | succ i=>
   show P ((eQ res M).getD i [])
   by_cases hi:i<M
   ·rw[EP res hi];exact h i hi
   ·rw[List.getD_eq_getElem?_getD,List.getElem?_eq_none (by rw[fC];omega)];exact h0
theorem Ho{h : Hd}(hhr:pn h){pics:List tD}(hpp:∀j,j<pics.length->j8 (pics.getD j default)){l:List Sm}(hll:∀j,j<l.length->iP (l.getD j default)){ob0 ob1:aj}(hr0:B5 ob0 eP pics)(hr1:B5 ob1 tV l){c0 c1:XC}(hc0:cL c0 0 0 pics.length)(hc1:cL c1 1 0 l.length){LA:List (List XC)}{lq:List o_}{q:List qn}(hq:pr LA lq q){d:XC}(hd:cy LA 2 d (fl kX lq) q.length)(hqk:∀i,i<q.length->qo (q.getD i default))(hql:q.length<=9223372036854775807) :
 bm prog 8 [.agg (rY h c0 c1),.one d] [ob0,ob1,.late LA] (.one (.bool true)) [ob0,ob1,.late LA]:=by
 have hfo0:=hr0.flat;have hfo1:=hr1.flat;have hdok:∀n,d.ok (n+3):=fun n=>hd.ok (by omega)
 obtain⟨r1,hr1'⟩:∃r,(decide (pics.length<=30)&&decide (l.length<=300))=r:=⟨_,rfl⟩
 obtain⟨r2,hr2'⟩:∃r,AK q=r:=⟨_,rfl⟩
 have hb133:133=(rY h c0 c1).length:=(D5 _ _ _).symm;refine cO Tryz.func8 ?_
 cases r1 with
 | false=>
   repeat' (first
    |(refine qz ?_;first
     |refine cl ?_ (hi:=by exact pR rfl)
     |refine lg ?_ (hle:=hb133)
     |refine cl ?_ (hi:=by exact pY hfo0 hfo1 hc0 hc1 hr1' (i:=0) (j:=1) rfl rfl (by decide) rfl))
    |refine zz ?_|refine zx (fun _=>?_) (fun _=>?_)|fail)
   show aE _ _ _ _ _ _ _ _;refine kV [0,1,2] ?_;rfl
 | true =>
   cases r2 with
   | false=>
     repeat' (first
      |(refine qz ?_;first
       |refine cl ?_ (hi:=by exact pR rfl)
       |refine lg ?_ (hle:=hb133)
       |refine cl ?_ (hi:=by exact pY hfo0 hfo1 hc0 hc1 hr1' (i:=0) (j:=1) rfl rfl (by decide) rfl)
       |refine cl ?_ (hi:=by exact uR hq hd rfl hql hr2' rfl rfl))
      |refine zz ?_|refine zx (fun _=>?_) (fun _=>?_)|fail)
     show aE _ _ _ _ _ _ _ _;refine kV [0,1,2] ?_;rfl
   | true =>
     have hlt:=hr1';simp only[Bool.and_eq_true,decide_eq_true_eq]at hr1';obtain⟨hn0,hn1⟩:=hr1';have hr3:=hr2';unfold AK at hr3;simp only[Bool.and_eq_true,decide_eq_true_eq]at hr3;obtain⟨hqa,hq60⟩:=hr3
     have hqo:∀i,i<q.length->(q.getD i default).mask.length<=500/\(q.getD i default).odd.length<=30:=fun i hi=>by
      have:=List.all_eq_true.1 hqa (q.getD i default) (by rw[List.getD_eq_getElem?_getD,List.getElem?_eq_getElem hi,Option.getD_some];exact List.getElem_mem hi);unfold CO at this;simp only[Bool.and_eq_true,decide_eq_true_eq]at this;exact this
     have hqk2:∀i,i<q.length->qo (q.getD i default)/\(q.getD i default).odd.length<=30:=fun i hi=>⟨hqk i hi,(hqo i hi).2⟩
     have hlow:=Bo hhr hpp hll;have hlay:=Jo (tt h pics l).ps
     obtain⟨s,hs⟩:∃s,tt h pics l=s:=⟨_,rfl⟩
     rw[hs]at hlow hlay;have hok:=hlow.ok;have hko:=CY hlow;have hk2:=MZ hlow;have hpo:=J3 hlow
     obtain⟨w,hw⟩:∃w,wide s.ps=w:=⟨_,rfl⟩
     obtain⟨B,hB⟩:∃B,Gc s.ps=B:=⟨_,rfl⟩
     obtain⟨np,hnp⟩:∃n,s.ps.length=n:=⟨_,rfl⟩
     rw[hw,hB]at hlay;have hbs:lE (sd (iD s)) (fb 0 (iD s)) (iD s):=Et;have hbl:=xz (iD s)
     obtain⟨ps,hps⟩:∃p,iD s=p:=⟨_,rfl⟩
     rw[hps]at hko hpo hbs hbl hk2
     obtain⟨m,hm⟩:∃m,ps.length=m:=⟨_,rfl⟩
     obtain⟨Y,hY⟩:∃Y,g_ ps ps.length=Y:=⟨_,rfl⟩
     obtain⟨PL,hPL⟩:∃P,sd ps=P:=⟨_,rfl⟩
     rw[hPL]at hbs hbl;rw[hm]at hbl
     obtain⟨x,hx⟩:∃x,pw LA lq q ps (ps.length-1)=x:=⟨_,rfl⟩
     have hfx:gm x.1 x.2 (ki q ps (ps.length-1)):=by rw[<-hx];exact n6 hq ps _
     obtain⟨fs,hfs⟩:∃f,ki q ps (ps.length-1)=f:=⟨_,rfl⟩
     rw[hfs]at hfx;have hfL:=O3 hfx
     obtain⟨FL,hFL⟩:∃F,LD x=F:=⟨_,rfl⟩
     have hrs:cy (LD x) 8 (LF x 8) (fl cK x.2) x.2.length:=IP 8;rw[hFL]at hfL hrs
     obtain⟨r,hr⟩:∃r,LF x 8=r:=⟨_,rfl⟩
     rw[hr]at hrs;have hfslen:x.2.length=fs.length:=hfx.1;have hfsok:∀i,i<fs.length->aR (fs.getD i default).mask/\(fs.getD i default).mask.length<=60000:=by rw[<-hfs];exact RD hqk hqo hpo
     have hfBy:=fun i hi=>(hfsok i hi).1
     have hfLn:∀i,i<fs.length->(fs.getD i default).mask.length<=100000:=fun i hi=>by have:=(hfsok i hi).2;omega
     have hsl:cy PL 6 (.lsl 6 m 0 m m 0) (fb 0 ps) m := .inr ⟨m,m,Nat.le_refl _,rfl,hbl⟩
     repeat' (first
      |(refine qz ?_;first
       |refine cl ?_ (hi:=by exact pR rfl)
       |refine lg ?_ (hle:=hb133)
       |refine cl ?_ (hi:=by exact pY hfo0 hfo1 hc0 hc1 hlt (i:=0) (j:=1) rfl rfl (by decide) rfl)
       |refine cl ?_ (hi:=by exact uR hq hd rfl hql hr2' rfl rfl)
       |refine cl ?_ (hi:=by exact xY hhr hpp hll hr0 hr1 (i:=0) (j:=1) hc0 hc1 hn0 hn1 rfl rfl (by decide) hs hw hnp hB nL nA rfl)
       |refine nH (zs:=d9 wX .nils) (hz:=zP) ?_
       |refine tq (cs:=d9 s.hd (.lsl 4 w 0 np np 0)) ?_ (hs1:=(dh _ _).symm) (hs2:=(dh _ _).symm)
       |refine lg ?_ (hle:=(dh _ _).symm)
       |refine cl ?_ (hi:=by exact vd hlow hlay hnp hps hm hPL (i:=4) rfl nL nA rfl)
       |refine cl ?_ (hi:=by exact GR hlow hlay hnp hps hY rfl (i:=4) rfl nL nA rfl)
       |refine cl ?_ (hi:=by exact IU hbs hq hsl hm hd rfl hqk2 hpo (by omega) hx hFL (i:=6) (j:=2) rfl rfl (by decide) nL hr nA rfl))
      |refine eY 11 ?_|refine lW 11 ?_|refine zz ?_|refine zx (fun _=>?_) (fun _=>?_)|fail)
     refine⟨?_⟩;have hm46:=hko.many;rw[hm]at hm46 hk2;have hfsl:fs.length=min (m-1) q.length:=by rw[<-hfs,oO,hm]
     have hst:∀z,z=(m:Nat)->z=((m-1+1:Nat):Int):=fun z h=>by omega
     refine WX.bU rfl ?_;refine WX.bU rfl ?_
     repeat' (first
      |(refine qz ?_;first
       |refine nN ?_
       |refine Q1 (p:=1) (q:=m) ?_)
      |refine zz ?_|refine zx (fun _=>?_) (fun _=>?_)|fail)
     refine WX.bN (σ:=Nat) (fun i=>[(5,.one (.ptr 5 0)),(6,.one (.lsl 6 m 0 m m 0)),(8,.one (.slice 7 0 Y.length (.toEnd 1))),(10,.one r),(52,.one (.int .i64 (m-1:Nat))),(11,dV 9 i 2),(12,dV 10 (wZ x.2 i).length 2),(53,.one (.int .i64 (i:Nat)))]) (fun i=>[ob0,ob1,.late LA,.dead,.late B,.cells (d9 s.hd (.lsl 4 w 0 np np 0)) 36 false false,.late PL,.cells (il .u8 Y) 5 true false,.late FL,bu 69 ((fl cK (eh i)).map (·.self 8)),bu 69 ((fl cK (wZ x.2 i)).map (·.self 8))]) (fun i=>i<=m-1) (fun i=>m-1-i) 0 (Nat.zero_le _) (fun i _=>(stM (objs:=by repeat' (first|exact ak.nil|refine ak.flat ?_|refine ak.cons (bC (show 4<_ from Nat.le_of_ble_eq_true rfl)) ?_|refine ak.cons (ek (cq (jY _ 0) (Nat.le_of_ble_eq_true rfl))) ?_|refine ak.cons (ek (cq (yS hfx _) (Nat.le_of_ble_eq_true rfl))) ?_)))) (bq [0,1,2,3,4,5,6,7,8,9,10] (obj:=by(repeat' (first|exact af.nil|refine aH rfl rfl ?_|refine oz ?_));first|done|fail) (reg:=by(repeat' (first|exact ae.nil|refine ae.gO rfl (by assumption) rfl ?_|refine rz ?_|refine ae.sl rfl (by assumption) rfl ?_));first|done|fail)) ?_;intro i hi ih;have hl1:((fl cK (eh i)).map (·.self 8)).length=i*2:=by rw[List.length_map,pZ,eh,List.length_replicate]
     have hl2:((fl cK (wZ x.2 i)).map (·.self 8)).length=(wZ x.2 i).length*2:=by rw[List.length_map,pZ]
     have hml:=Ew x.2 i;have hcs1:(fl cK (eh (i+1))).map (·.self 8)=(fl cK (eh i)).map (·.self 8)++[.bool true,.nils]:=by rw[CF,Rw];rfl
     by_cases hlt:i<m-1
     ·by_cases hlf:i<x.2.length
      ·have hnx:=JJ hlf;have hcs2:(fl cK (wZ x.2 (i+1))).map (·.self 8)=(fl cK (wZ x.2 i)).map (·.self 8)++[.bool false,(x.2.getD i default).c.self 8]:=by rw[hnx,Rw]
       have hat:=O4 hlf
       obtain⟨y,hy⟩:∃y,(x.2.getD i default).c.self 8=y:=⟨_,rfl⟩
       rw[hy]at hcs2
       repeat' (first
        |(refine qz ?_;first
         |refine nN ?_
         |refine ll ?_
         |refine sc (fun kk hkk=>?_)
         |refine T4 ?_
         |refine se ?_ (by assumption) hat hy
         |refine sL (zs:=[.bool false,.nils]) (hz:=jI) ?_
         |refine yw 9 i ((fl cK (eh i)).map (·.self 8)) ?_ (hn:=hl1)
         |refine yw 10 (wZ x.2 i).length ((fl cK (wZ x.2 i)).map (·.self 8)) ?_ (hn:=hl2))
        |refine zz ?_|refine zx (fun _=>?_) (fun _=>?_)|fail)
       exact ih (i+1) _ _ _ (bq [0,1,2,3,4,5,6,7,8,12,14] (obj:=by(repeat' (first|exact af.nil|refine aH rfl rfl ?_|refine c9 (jY _ 0) (by rw[hcs1];rfl) rfl ?_|refine c9 (yS hfx _) (by rw[hcs2];rfl) rfl ?_|refine oz ?_));first|done|fail) (reg:=by(repeat' (first|exact ae.nil|refine ae.gO rfl (by assumption) rfl ?_|refine ae.iO rfl rfl (by rw[hnx,List.length_append];rfl) ?_|refine rz ?_|refine ae.sl rfl (by assumption) rfl ?_));first|done|fail)) (by omega) (by omega)
      ·have hnx:=MO (i:=i) (x:=x.2) (by omega)
       repeat' (first
        |(refine qz ?_;first
         |refine nN ?_
         |refine ll ?_
         |refine sL (zs:=[.bool false,.nils]) (hz:=jI) ?_
         |refine yw 9 i ((fl cK (eh i)).map (·.self 8)) ?_ (hn:=hl1))
        |refine zz ?_|refine zx (fun _=>?_) (fun _=>?_)|fail)
       exact ih (i+1) _ _ _ (bq [0,1,2,3,4,5,6,7,8,12,10] (obj:=by(repeat' (first|exact af.nil|refine aH rfl rfl ?_|refine c9 (jY _ 0) (by rw[hcs1];rfl) rfl ?_|refine c9 (yS hfx _) (by rw[hnx];rfl) rfl ?_|refine oz ?_));first|done|fail) (reg:=by(repeat' (first|exact ae.nil|refine ae.gO rfl (by assumption) rfl ?_|refine ae.iO rfl rfl (by rw[hnx]) ?_|refine rz ?_|refine ae.sl rfl (by assumption) rfl ?_));first|done|fail)) (by omega) (by omega)
     ·obtain rfl:i=m-1:=by omega
      clear ih
      obtain⟨mk,hmk⟩:∃k,wZ x.2 (m-1)=k:=⟨_,rfl⟩
      have hmkis:gm FL mk (fs.map fun f=>⟨false,f.mask⟩):=by rw[<-hmk];exact Px hfL (by omega)
      have hmkl0:∀c∈fl cK mk,c.f7 FL.length=true:=iy hmkis;have hmkl:∀c∈fl cK mk,c.f7 FL.length=true:=hmkl0;rw[hmk]at hl2 hml ⊢
      obtain⟨M,hM⟩:∃M,m-1=M:=⟨_,rfl⟩
      rw[hM]at hl1 hml ⊢
      have hs1:bu 69 ((fl cK (eh M)).map (·.self 8)) = .cells ((fl cK (eh M)).map (·.self 8)) 69 true false:=bJ fun e=>by
       rw[e]at hl1;have hl1:0=M*2:=hl1;omega
      rw[hs1,c_ (show M≠0 by omega)]
      repeat' (first|refine eY 19 ?_|refine lW 19 ?_|refine zz ?_|refine zx (fun _=>?_) (fun _=>?_)|fail)
      refine⟨?_⟩;refine WX.gen (σ:=List (List XC)×XC) (fun t=>[(5,.one (.ptr 5 0)),(6,.one (.lsl 6 m 0 m m 0)),(8,.one (.slice 7 0 Y.length (.toEnd 1))),(11,.one (.lsl 8 FL.length 0 M M 0)),(12,.one t.2)]) (fun t=>[ob0,ob1,.late LA,.dead,.late B,.cells (d9 s.hd (.lsl 4 w 0 np np 0)) 36 false false,.late PL,.cells (il .u8 Y) 5 true false,.late t.1,.dead,.dead]) (fun t=>(∃W,t.1=FL++[fl cK (eh M)]++W)/\cy t.1 8 t.2 (fl cK mk) mk.length) (fun t ht=>?_) (fun key=>?_)
      ·obtain ⟨FX,rm⟩:=t;obtain⟨⟨W0,hW0⟩,hrm⟩:=ht;have hW1:FX=FL++[fl cK (eh M)]++W0:=hW0;have hrm:cy FX 8 rm (fl cK mk) mk.length:=hrm
       obtain⟨res,hres⟩:∃f:Nat->List Int,(fun j=>if j<mk.length then og (ps.getD (j+1) []) (fs.getD j default).mask else ps.getD (j+1) [])=f:=⟨_,rfl⟩
       have hMm:m=M+1:=by omega
       have hPLl:PL.length=m+1:=by rw[<-hPL,<-hm];simp[sd]
       have hcsl:(fb 0 ps).length=m:=by rw[nX,hm]
       have hbx:∀j,j<m->(fb 0 ps)[j]? = some (.lsl 0 j 0 (ps.getD j []).length (ps.getD j []).length 0):=fun j hj=>by
        have:=tF ps 0 j (by omega);rw[List.getD_eq_getElem?_getD,List.getElem?_eq_getElem (show j<(fb 0 ps).length by omega),Option.getD_some,Nat.zero_add]at this;rw[List.getElem?_eq_getElem (show j<(fb 0 ps).length by omega),this]
       have hPe:∀j,j<m->PL[j]? = some (il .u8 (ps.getD j [])):=fun j hj=>by
        rw[<-hPL];unfold sd;rw[List.getElem?_append_left (by rw[List.length_map,hm];exact hj),List.getElem?_map,List.getElem?_eq_getElem (show j<ps.length by omega),List.getD_eq_getElem?_getD,List.getElem?_eq_getElem (show j<ps.length by omega)];rfl
       have hx0:=hbx 0 (by omega);have hon0:(rO PL.length ps res 0).map (·.self 6) = [.lsl 6 0 0 (ps.getD 0 []).length (ps.getD 0 []).length 0]:=rfl;have hrl0:PL++(eQ res 0).map (il .u8)=PL:=List.append_nil _
       repeat' (first
        |(refine qz ?_;first
         |refine nN ?_
         |refine sP ?_
         |refine se ?_ hbl hx0 rfl
         |refine sL (zs:=[.nils]) ?_
         |refine Q1 (p:=1) (q:=m) ?_)
        |refine zz ?_|refine zx (fun _=>?_) (fun _=>?_)|fail)
       rw[hM,<-hrl0];refine WX.bN (σ:=Nat×List (List XC)×nQ×Bool) (fun t=>[(5,.one (.ptr 5 0)),(6,.one (.lsl 6 m 0 m m 0)),(8,.one (.slice 7 0 Y.length (.toEnd 1))),(11,.one (.lsl 8 FL.length 0 M M 0)),(12,.one rm),(79,.one (.lsl 6 m 1 M M 1)),(80,.one (.int .i64 (M:Nat))),(14,.one (.slice 9 0 (t.1+1) t.2.2.1)),(81,.one (.int .i64 (t.1:Nat)))]) (fun t=>[ob0,ob1,.late LA,.dead,.late B,.cells (d9 s.hd (.lsl 4 w 0 np np 0)) 36 false false,.late (PL++(eQ res t.1).map (il .u8)),.cells (il .u8 Y) 5 true false,.late t.2.1,.cells ((rO PL.length ps res t.1).map (·.self 6)) 32 t.2.2.2 false,.dead]) (fun t=>t.1<=M/\(∃W,t.2.1=FX++W)/\Ea t.2.2.1 (t.1+1) t.2.2.2/\cy t.2.1 8 rm (fl cK mk) mk.length) (fun t=>M-t.1) (0,FX,.exact 1,false) ⟨Nat.zero_le _,⟨[],(List.append_nil _).symm⟩,.inl rfl,hrm⟩ (fun t ht=>by have hrm2:=ht.2.2.2;exact(stM (objs:=by repeat' (first|exact ak.nil|refine ak.flat ?_|refine ak.cons (bC (show 4<_ from Nat.le_of_ble_eq_true rfl)) ?_|refine ak.cons (yX (Nat.le_of_ble_eq_true rfl)) ?_|refine ak.cons (tQ (Nat.le_of_ble_eq_true rfl)) ?_|refine ak.cons trivial ?_)))) (bq [0,1,2,3,4,5,6,7,8,11,10] (obj:=by(repeat' (first|exact af.nil|refine aH rfl rfl ?_|refine JT rfl rfl ?_|refine oz ?_));first|done|fail) (reg:=by(repeat' (first|exact ae.nil|refine ae.gO rfl (by assumption) rfl ?_|refine rz ?_|refine ae.sl rfl (by assumption) rfl ?_));first|done|fail)) ?_;intro t ⟨ht1,⟨W,hW⟩,hcap,hrm2⟩ ih2;obtain⟨i,FXi,cp,opn⟩:=t;have ht1:i<=M:=ht1;have hW:FXi=FX++W:=hW;have hcap:Ea cp (i+1) opn:=hcap;have hrm2:cy FXi 8 rm (fl cK mk) mk.length:=hrm2
       by_cases hlt:i<M
       ·have hxc:=hbx (1+i) (by omega);have hfew:=hko.few (1+i);have hpb:=hko.byte (1+i);have hbody:=hko.body (1+i) (by omega) (by omega);have hPLp:0<PL.length:=by omega
        have hbl2:((PL++(eQ res i).map (il .u8)))[m]? = some (fb 0 ps):=by rw[List.getElem?_append_left (by omega)];exact hbl
        have hpe2:((PL++(eQ res i).map (il .u8)))[1+i]? = some (il .u8 (ps.getD (1+i) [])):=by rw[List.getElem?_append_left (by omega)];exact hPe _ (by omega)
        have hri:res i=if i<mk.length then og (ps.getD (1+i) []) (fs.getD i default).mask else ps.getD (1+i) []:=by rw[<-hres,Nat.add_comm]
        have hnx:=JR PL.length ps res i;have hlx:PL++(eQ res (i+1)).map (il .u8)=(PL++(eQ res i).map (il .u8))++[il .u8 (res i)]:=by rw[xT,List.map_append,<-List.append_assoc];rfl
        obtain⟨p,hp⟩:∃p,ps.getD (1+i) []=p:=⟨_,rfl⟩
        rw[hp]at hxc hfew hpb hbody hpe2 hri;have hxq:cy (PL++(eQ res i).map (il .u8)) 6 (.lsl 6 (1+i) 0 p.length p.length 0) (il .u8 p) p.length := .inr ⟨_,_,Nat.le_refl _,rfl,hpe2⟩;have hne3:m≠PL.length+i:=by omega
        obtain⟨qi,hqi⟩:∃q,res i=q:=⟨_,rfl⟩
        rw[hqi]at hri hnx hlx
        by_cases hlf:i<mk.length
        ·rw [if_pos hlf]at hri;obtain⟨km,fLm,hfLm,hrme,hkm⟩:=E3 hrm2 (by omega);subst hrme
         obtain⟨fm,hfm⟩:∃f,mk.getD i default=f:=⟨_,rfl⟩
         have hdr:((fl cK mk).drop (i*2)).take 2=fl cK [fm]:=by
          rw[(JB (enc:=cK) mk i hlf default).2,hfm];rfl
         have hkl:=(List.getElem?_eq_some_iff.1 hkm).1;have hne1:km≠FXi.length:=by omega
         have hFXl:FXi.length=FL.length+1+W0.length+W.length:=by rw[hW,hW1];simp only[List.length_append,List.length_cons,List.length_nil]
         have hne2:FL.length≠FXi.length:=by omega
         have hmkX:∀c∈fl cK mk,c.f7 FXi.length=true:=fun c hc=>XC.kp (by omega) (hmkl c hc)
         obtain⟨mf,hmf⟩:∃f,(fs.map fun f=>(⟨false,f.mask⟩:Fa)).getD i default=f:=⟨_,rfl⟩
         have hi3:i<(fs.map fun f=>(⟨false,f.mask⟩:Fa)).length:=by rw[<-hmkis.1];exact hlf
         obtain⟨u1,u2⟩:=hmkis.2 i hi3;rw[hfm,hmf]at u1 u2;have hi4:i<fs.length:=by rw[List.length_map]at hi3;exact hi3
         have hmfe:mf=⟨false,(fs.getD i default).mask⟩:=by
          rw[<-hmf,List.getD_eq_getElem?_getD,List.getElem?_map,List.getD_eq_getElem?_getD,List.getElem?_eq_getElem hi4];rfl
         have hFX0:∃Z,FXi=FL++Z:=⟨[fl cK (eh M)]++W0++W,by rw[hW,hW1];simp only[List.append_assoc]⟩
         obtain⟨Z,hZ⟩:=hFX0
         have hfe:gm (FXi++[fl cK [fm]]) [fm] [mf]:=⟨rfl,fun j hj=>by
          have:j=0:=by simp at hj;exact hj
          subst this
          exact⟨u1,by rw[hZ,List.append_assoc];exact cy.mono u2 _⟩⟩
         have hsl1:cy (FXi++[fl cK [fm]]) 8 (.lsl 8 FXi.length 0 1 (fLm-i) 0) (fl cK [fm]) 1 := .inr ⟨_,_,by omega,rfl,by rw[List.getElem?_append_right (Nat.le_refl _),Nat.sub_self];rfl⟩
         have hfB1:∀j,aR (([mf]:List Fa).getD j default).mask:=fun j=>by
          cases j with
          | zero=>show aR mf.mask;rw[hmfe];exact hfBy i hi4
          | succ j=>exact fun z=>by show(0:Int)<=0/\(0:Int)<256;omega
         have hfl1:∀j,(([mf]:List Fa).getD j default).mask.length<=100000:=fun j=>by
          cases j with
          | zero=>show mf.mask.length<=_;rw[hmfe];exact hfLn i hi4
          | succ j=>exact Nat.zero_le _
         have hq1:wG [mf] 1 p=qi:=by
          rw[hri,hmfe];unfold wG;rw[if_pos (by simp)];rfl
         have hqil:qi.length=p.length:=by rw[hri];unfold og;exact iz ..
         have hq0:qi.length≠0:=by omega
         have hrm3:cy (FXi++[fl cK [fm]]) 8 (.lsl 8 km 0 mk.length fLm 0) (fl cK mk) mk.length:=cy.mono hrm2 _
         repeat' (first
          |(refine qz ?_;first
           |refine sP ?_
           |refine se ?_ hbl2 hxc rfl
           |refine nN ?_
           |refine Q1 (p:=i) (q:=i+1) ?_)
          |refine eY 26 ?_|refine qJ 26 ?_|refine zz ?_|refine zx (fun _=>?_) (fun _=>?_)|fail)
         refine⟨?_⟩;simp only[Nat.zero_add,Nat.add_sub_cancel_left]
         refine WX.NJ 2 (g:=8) (L:=FXi) (all:=fl cK mk) (m:=FXi.length) rfl hkm (by show 3<=8;omega) rfl hdr hmkX (R:=[(5,.one (.ptr 5 0)),(6,.one (.lsl 6 m 0 m m 0)),(8,.one (.slice 7 0 Y.length (.toEnd 1))),(11,.one (.lsl 8 FL.length 0 M M 0)),(12,.one (.lsl 8 km 0 mk.length fLm 0)),(79,.one (.lsl 6 m 1 M M 1)),(80,.one (.int .i64 (M:Nat))),(14,.one (.slice 9 0 (i+1) cp)),(81,.one (.int .i64 (i:Nat))),(15,.one (.int .i64 (i:Nat))),(16,.one (.lsl 6 (1+i) 0 p.length p.length 0)),(17,.one (.lsl 8 FXi.length 0 1 (fLm-i) 0))]) (H:=[ob0,ob1,.late LA,.dead,.late B,.cells (d9 s.hd (.lsl 4 w 0 np np 0)) 36 false false,.late (PL++(eQ res i).map (il .u8)),.cells (il .u8 Y) 5 true false,.late (FXi++[fl cK [fm]]),.cells ((rO PL.length ps res i).map (·.self 6)) 32 opn false,.dead]) (by
          repeat' (first|exact aO.nil|refine aO.ghost ?_|refine aO.dead ?_|refine aO.flat rfl ?_|refine aO.cells rfl (cU.same (fq (by simp[XC.iA]))) ?_|refine aO.cells rfl (cU.same (MR _ _ _ _ (by decide) _)) ?_)) (by
          repeat' (first|exact bG.nil|refine bG.flat rfl ?_|refine bG.one rfl dF.uC ?_|refine bG.one rfl (dF.same (fun _=>hne1)) ?_|refine bG.one rfl (dF.same (fun _=>hne2)) ?_|refine bG.one rfl (dF.same trivial) ?_|refine bG.one rfl (dF.same (RZ (by decide))) ?_|refine bG.one rfl (dF.same (RY (by decide))) ?_|refine bG.one rfl (dF.same (RX (by decide))) ?_|skip)) (stM (objs:=by repeat' (first|exact ak.nil|refine ak.flat ?_|refine ak.cons (bC (show 4<_ from Nat.le_of_ble_eq_true rfl)) ?_|refine ak.cons (yX (Nat.le_of_ble_eq_true rfl)) ?_|refine ak.cons (tQ (Nat.le_of_ble_eq_true rfl)) ?_|refine ak.cons trivial ?_))) ?_
         repeat' (first
          |(refine qz ?_;first
           |refine sL (zs:=[.nils]) ?_
           |refine cl ?_ (hi:=by exact xg (k:=11) hxq hfe (nf:=1) hsl1 rfl (show 1<=1000 by omega) (by omega) hpb hfB1 hfl1 hq1 rfl hq0 (i:=6) (j:=8) rfl rfl rfl (by decide) nL nA rfl)
           |refine SZ 9 (i+1) hcap ?_ ?_ (hn:=by rw[List.length_map,tP,Nat.mul_one]))
          |refine eY 27 ?_|refine qJ 27 ?_|refine zz ?_|refine zx (fun _=>?_) (fun _=>?_)|fail)
         all_goals (
          refine⟨?_⟩
          refine WX.pc (L:=(PL++(eQ res i).map (il .u8))) (vs:=il .u8 qi) (us:=il .u8 qi) 12 6 qi.length (.toEnd 1) [(5,.one (.ptr 5 0)),(6,.one (.lsl 6 m 0 m m 0)),(8,.one (.slice 7 0 Y.length (.toEnd 1))),(11,.one (.lsl 8 FL.length 0 M M 0)),(12,.one (.lsl 8 km 0 mk.length fLm 0)),(79,.one (.lsl 6 m 1 M M 1)),(80,.one (.int .i64 (M:Nat))),(14,.one (.slice 14 0 (i+1+1) (.toEnd 1))),(81,.one (.int .i64 (i:Nat)))] [ob0,ob1,.late LA,.dead,.late B,.cells (d9 s.hd (.lsl 4 w 0 np np 0)) 36 false false,.late ((PL++(eQ res i).map (il .u8))++[il .u8 qi]),.cells (il .u8 Y) 5 true false,.late (FXi++[fl cK [fm]]),.dead,.dead,.dead,.dead,.dead,.cells ((rO PL.length ps res i).map (·.self 6)++[.lsl 6 (PL.length+i) 0 qi.length qi.length 0]) 32 true false] (m:=PL.length+i) (gT .u8 qi _) (.inr ⟨1,rfl,Nat.one_pos,by rw[br];omega⟩) (by rw[List.length_append,List.length_map,fC]) (hv:=dM (gT .u8 qi 0) 6) (hH:=by
           repeat' (first|exact aO.nil|refine aO.ghost ?_|refine aO.dead ?_|refine aO.flat rfl ?_|refine aO.cells rfl (cU.same (fq (by simp[XC.iA]))) ?_|refine aO.cells rfl (cU.app (cU.same (d8 (yW hPLp _ _ _) _ _)) (cU.cons .uC (.same (fun _ h=>nomatch h)))) ?_)) (hR:=by
           repeat' (first|exact bG.nil|refine bG.flat rfl ?_|refine bG.one rfl (dF.same (cy.iA (by assumption) (by decide))) ?_|refine bG.one rfl (dF.same (fun _=>hne3)) ?_|refine bG.one rfl (dF.same (by first|trivial|(simp[XC.iA];done))) ?_)) (hok:=(stM (objs:=by repeat' (first|exact ak.nil|refine ak.flat ?_|refine ak.cons (bC (show 4<_ from Nat.le_of_ble_eq_true rfl)) ?_|refine ak.cons (yX (Nat.le_of_ble_eq_true rfl)) ?_|refine ak.cons (tQ (Nat.le_of_ble_eq_true rfl)) ?_|refine ak.cons trivial ?_)))) (h:=?_)
          repeat' (first|refine zz ?_|refine zx (fun _=>?_) (fun _=>?_)|fail)
          exact ih2 (i+1,(FXi++[fl cK [fm]]),.toEnd 1,true) _ _ _ (bq [0,1,2,3,4,5,6,7,8,14,10] (obj:=by(repeat' (first|exact af.nil|refine aH rfl rfl ?_|refine JS hnx rfl rfl ?_|refine af.flat (by rw[hlx];rfl) ?_|refine oz ?_));first|done|fail) (reg:=by(repeat' (first|exact ae.nil|refine ae.gO rfl (by assumption) rfl ?_|refine rz ?_|refine ae.sl rfl (by assumption) rfl ?_));first|done|fail)) ⟨by show i+1<=M;omega,⟨W++[fl cK [fm]],by rw[hW,List.append_assoc]⟩,.inr ⟨rfl,rfl,Nat.succ_pos _⟩,hrm3⟩ (by show M-(i+1)<M-i;omega))
        ·rw [if_neg hlf]at hri
         have hfe:gm FXi [] []:=⟨rfl,fun i h=>absurd h (Nat.not_lt_zero _)⟩
         have hq1:wG [] 1 p=qi:=by rw[hri];exact if_neg (by decide)
         have hq0:qi.length≠0:=by rw[hri];omega
         have hrm3:=hrm2
         repeat' (first
          |(refine qz ?_;first
           |refine sP ?_
           |refine se ?_ hbl2 hxc rfl
           |refine ll ?_)
          |refine eY 26 ?_|refine qJ 26 ?_|refine zz ?_|refine zx (fun _=>?_) (fun _=>?_)|fail)
         refine⟨?_⟩
         repeat' (first
          |(refine qz ?_;first
           |refine sL (zs:=[.nils]) ?_
           |refine cl ?_ (hi:=by exact xg (k:=11) hxq hfe (nf:=0) (.inl ⟨rfl,.inl rfl⟩) rfl (by decide) (by omega) hpb (fun i j=>by show(0:Int)<=0/\(0:Int)<256;omega) (fun i=>Nat.zero_le _) hq1 rfl hq0 (i:=6) (j:=8) rfl rfl rfl (by decide) nL nA rfl)
           |refine SZ 9 (i+1) hcap ?_ ?_ (hn:=by rw[List.length_map,tP,Nat.mul_one]))
          |refine eY 27 ?_|refine qJ 27 ?_|refine zz ?_|refine zx (fun _=>?_) (fun _=>?_)|fail)
         all_goals (
          refine⟨?_⟩
          refine WX.pc (L:=(PL++(eQ res i).map (il .u8))) (vs:=il .u8 qi) (us:=il .u8 qi) 12 6 qi.length (.toEnd 1) [(5,.one (.ptr 5 0)),(6,.one (.lsl 6 m 0 m m 0)),(8,.one (.slice 7 0 Y.length (.toEnd 1))),(11,.one (.lsl 8 FL.length 0 M M 0)),(12,.one rm),(79,.one (.lsl 6 m 1 M M 1)),(80,.one (.int .i64 (M:Nat))),(14,.one (.slice 14 0 (i+1+1) (.toEnd 1))),(81,.one (.int .i64 (i:Nat)))] [ob0,ob1,.late LA,.dead,.late B,.cells (d9 s.hd (.lsl 4 w 0 np np 0)) 36 false false,.late ((PL++(eQ res i).map (il .u8))++[il .u8 qi]),.cells (il .u8 Y) 5 true false,.late FXi,.dead,.dead,.dead,.dead,.dead,.cells ((rO PL.length ps res i).map (·.self 6)++[.lsl 6 (PL.length+i) 0 qi.length qi.length 0]) 32 true false] (m:=PL.length+i) (gT .u8 qi _) (.inr ⟨1,rfl,Nat.one_pos,by rw[br];omega⟩) (by rw[List.length_append,List.length_map,fC]) (hv:=dM (gT .u8 qi 0) 6) (hH:=by
           repeat' (first|exact aO.nil|refine aO.ghost ?_|refine aO.dead ?_|refine aO.flat rfl ?_|refine aO.cells rfl (cU.same (fq (by simp[XC.iA]))) ?_|refine aO.cells rfl (cU.app (cU.same (d8 (yW hPLp _ _ _) _ _)) (cU.cons .uC (.same (fun _ h=>nomatch h)))) ?_)) (hR:=by
           repeat' (first|exact bG.nil|refine bG.flat rfl ?_|refine bG.one rfl (dF.same (cy.iA (by assumption) (by decide))) ?_|refine bG.one rfl (dF.same (fun _=>hne3)) ?_|refine bG.one rfl (dF.same (by first|trivial|(simp[XC.iA];done))) ?_)) (hok:=(stM (objs:=by repeat' (first|exact ak.nil|refine ak.flat ?_|refine ak.cons (bC (show 4<_ from Nat.le_of_ble_eq_true rfl)) ?_|refine ak.cons (yX (Nat.le_of_ble_eq_true rfl)) ?_|refine ak.cons (tQ (Nat.le_of_ble_eq_true rfl)) ?_|refine ak.cons trivial ?_)))) (h:=?_)
          repeat' (first|refine zz ?_|refine zx (fun _=>?_) (fun _=>?_)|fail)
          exact ih2 (i+1,FXi,.toEnd 1,true) _ _ _ (bq [0,1,2,3,4,5,6,7,8,14,10] (obj:=by(repeat' (first|exact af.nil|refine aH rfl rfl ?_|refine JS hnx rfl rfl ?_|refine af.flat (by rw[hlx];rfl) ?_|refine oz ?_));first|done|fail) (reg:=by(repeat' (first|exact ae.nil|refine ae.gO rfl (by assumption) rfl ?_|refine rz ?_|refine ae.sl rfl (by assumption) rfl ?_));first|done|fail)) ⟨by show i+1<=M;omega,⟨W,hW⟩,.inr ⟨rfl,rfl,Nat.succ_pos _⟩,hrm3⟩ (by show M-(i+1)<M-i;omega))
       ·obtain rfl:M=i:=by omega
        clear ih2;have hPLp:0<PL.length:=by omega
        have hne3:m≠PL.length+M:=by omega
        have hnF:(∃c,cp = .exact c/\M+1<=c)\/∃s,cp = .toEnd s/\0<s/\(M+1)*s<=((rO PL.length ps res M).map (·.self 6)).length:=by
         rcases hcap with h|⟨h,_,_⟩
         ·exact .inl ⟨_,h,Nat.le_refl _⟩
         ·exact .inr ⟨1,h,Nat.one_pos,by rw[List.length_map,tP];omega⟩
        repeat' (first|refine eY 28 ?_|refine zz ?_|refine zx (fun _=>?_) (fun _=>?_)|fail)
        refine⟨?_⟩
        refine WX.pc (L:=(PL++(eQ res M).map (il .u8))) (vs:=rO PL.length ps res M) (us:=(rO PL.length ps res M).map (·.self 6)) 9 6 (M+1) cp [(5,.one (.ptr 5 0)),(6,.one (.lsl 6 m 0 m m 0)),(8,.one (.slice 7 0 Y.length (.toEnd 1))),(11,.one (.lsl 8 FL.length 0 M M 0)),(12,.one rm),(14,.one (.lsl 6 (PL.length+M) 0 (M+1) (M+1) 0))] [ob0,ob1,.late LA,.dead,.late B,.cells (d9 s.hd (.lsl 4 w 0 np np 0)) 36 false false,.late ((PL++(eQ res M).map (il .u8))++[rO PL.length ps res M]),.cells (il .u8 Y) 5 true false,.late FXi,.dead,.dead] (m:=PL.length+M) (yW hPLp _ _ _) hnF (by rw[List.length_append,List.length_map,fC]) (hH:=by
         repeat' (first|exact aO.nil|refine aO.ghost ?_|refine aO.dead ?_|refine aO.flat rfl ?_|refine aO.cells rfl (cU.same (fq (by simp[XC.iA]))) ?_)) (hR:=by
         repeat' (first|exact bG.nil|refine bG.flat rfl ?_|refine bG.one rfl dF.uC ?_|refine bG.one rfl (dF.same (cy.iA (by assumption) (by decide))) ?_|refine bG.one rfl (dF.same (fun _=>hne3)) ?_|refine bG.one rfl (dF.same (RZ (by decide))) ?_|refine bG.one rfl (dF.same (RY (by decide))) ?_|refine bG.one rfl (dF.same (RX (by decide))) ?_)) (hok:=(stM (objs:=by repeat' (first|exact ak.nil|refine ak.flat ?_|refine ak.cons (bC (show 4<_ from Nat.le_of_ble_eq_true rfl)) ?_|refine ak.cons trivial ?_)))) (h:=?_)
        obtain⟨RL,hRL⟩:∃R,(PL++(eQ res M).map (il .u8))++[rO PL.length ps res M]=R:=⟨_,rfl⟩
        rw[hRL];have hRL2:RL=PL++((eQ res M).map (il .u8)++[rO PL.length ps res M]):=by rw[<-hRL,List.append_assoc]
        have hbsR:lE RL (fb 0 ps) ps:=by rw[hRL2];exact lE.more hbs _
        have hslR:cy RL 6 (.lsl 6 m 0 m m 0) (fb 0 ps) m:=by rw[hRL2];exact cy.mono hsl _
        have hFX2:FXi=FL++([fl cK (eh M)]++W0++W):=by
         have h5:FXi=FX++W:=hW;rw[h5,hW1];simp only[List.append_assoc]
        have hloS:cy FXi 8 (.lsl 8 FL.length 0 M M 0) (fl cK (eh M)) M := .inr ⟨_,_,Nat.le_refl _,rfl,by rw[hFX2,List.getElem?_append_right (Nat.le_refl _),Nat.sub_self];rfl⟩;have hlo:gm FXi (eh M) (List.replicate M ⟨true,[]⟩):=MG FXi M
        have hgr:Cu s.ps=M:=by
         have h1:(iD s).length=(qh s.hd s.ps).length+1:=List.length_cons;rw[EG,hps]at h1;omega
        have hcr:=m9 hok;have hcn:s.hd.cols*s.hd.rows=(((s.hd.cols*s.hd.rows).toNat:Nat):Int):=by omega
        obtain⟨nn,hnn⟩:∃n,(s.hd.cols*s.hd.rows).toNat=n:=⟨_,rfl⟩
        rw[hnn]at hcn
        obtain⟨sz,hsz⟩:∃z,rn ps ps.length=z:=⟨_,rfl⟩
        have hszl:sz.length=M:=by rw[<-hsz,rq];omega
        obtain⟨X,hX⟩:∃X,gC (fun _ _ _=>false) (List.replicate M ⟨true,[]⟩) sz nn s.ps np=X:=⟨_,rfl⟩
        have hXl:(X.last+1).toNat=0:=by
         have:=Ad (fun _ _ _=>false) (List.replicate M ⟨true,[]⟩) sz nn s.ps (fun k hk=>by rw[q_ (by omega)]) np (by omega);rw[hX]at this;rw[this];rfl
        repeat' (first
         |(refine qz ?_;first
          |refine lg ?_ (hle:=(dh _ _).symm)
          |refine cl ?_ (hi:=by exact GW hbsR hslR hm hMm (by omega) (by omega) (fun i=>by have:=hko.few i;omega) hsz (i:=6) rfl nL nA rfl)
          |refine cl ?_ (hi:=by exact uo hok hlay hnp hcn (sz:=sz) (RO.of ..) (by omega) hlo (i0:=4) (i1:=11) (i2:=8) hloS List.length_replicate hszl (fun i=>by rw[Bf];exact Nat.zero_le _) (by rw[List.length_replicate];omega) (Q:=fun m=>False) (fun _ _ _=>false) (fun i6 mb m _ _ hq=>False.elim hq) (fun i j hi hj h m _=>wU hgr hi hj (g:=fun k=>sz.getD k 0) h) hX hXl rfl rfl rfl (by decide) nL rfl nA rfl))
         |refine eY 29 ?_|refine zz ?_|refine zx (fun _=>?_) (fun _=>?_)|fail)
        refine⟨?_⟩;have hPe0:=hPe 0 (by omega);have honI:lE RL (rO PL.length ps res M) (ps.getD 0 []::eQ res M):=by rw[hRL2];exact PD hPe0 _
        have honS:cy RL 6 (.lsl 6 (PL.length+M) 0 (M+1) (M+1) 0) (rO PL.length ps res M) (M+1) := .inr ⟨_,_,Nat.le_refl _,rfl,by
         rw[<-hRL,List.getElem?_append_right (by rw[List.length_append,List.length_map,fC];exact Nat.le_refl _),show PL.length+M-(PL++(eQ res M).map (il .u8)).length=0 by rw[List.length_append,List.length_map,fC];omega];rfl⟩
        have honl:(ps.getD 0 []::eQ res M).length=M+1:=by rw[List.length_cons,fC]
        have hresi:∀i,res i=if i<mk.length then og (ps.getD (i+1) []) (fs.getD i default).mask else ps.getD (i+1) []:=fun i=>by rw[<-hres]
        have hresl:∀i,(res i).length<=100000:=fun i=>by
         have:=hko.few (i+1);rw[hresi];split
         ·unfold og;rw[iz];omega
         ·omega
        have hresb:∀i,aR (res i):=fun i=>by
         rw[hresi];split
         ·exact u6 (hko.byte _) _ _
         ·exact hko.byte _
        have hmsl:mk.length=fs.length:=by have:=hmkis.1;rwa [List.length_map]at this
        have hmkX:gm FXi mk (fs.map fun f=>⟨false,f.mask⟩):=by rw[hFX2];exact gm.more hmkis _
        have hA1:ue ps []=Y:=by rw[<-hY];exact DU ps ps.length
        have hA2:ue ps (List.replicate M ⟨true,[]⟩)=ps.getD 0 []:=by
         unfold ue;rw[hm,hMm];exact z5 (fun i hi=>by rw[List.length_replicate]at hi;rw[q_ hi]) M (by rw[List.length_replicate];exact Nat.le_refl _)
        have hA3:ue (ps.getD 0 []::eQ res M) (fs.map fun f=>⟨false,f.mask⟩)=Y:=by
         unfold ue;rw[honl,<-hY,hm,hMm];refine xf (ps:=ps) (qs:=ps.getD 0 []::eQ res M) hko.byte (fun i hi=>Pt (fs:=fs) (by simpa using hi)) rfl (fun i hi=>?_) (M+1) (by rw[hm,hMm];exact Nat.le_refl _);show(eQ res M).getD i []=_;rw[EP res (by omega),hresi,CH,List.length_map,hmsl]
        have hp0:=hko.pos 0 (by omega)
        have hY0:Y.length≠0:=by
         have e:g_ ps 1=ps.getD 0 []:=List.nil_append _
         have key:∀n,(g_ ps 1).length<=(g_ ps (n+1)).length:=fun n=>by
          induction n with
          | zero=>exact Nat.le_refl _
          | succ n ih=>
            show _<=(g_ ps (n+1)++ps.getD (n+1) []).length;rw[List.length_append];omega
         have:=key M;rw[<-hMm,<-hm,hY,e]at this;omega
        have hpe0:RL[0]? = some (il .u8 (ps.getD 0 [])):=by rw[hRL2,List.getElem?_append_left (by omega)];exact hPe0
        have hbl3:RL[m]? = some (fb 0 ps):=by rw[hRL2,List.getElem?_append_left (by omega)];exact hbl
        have hlotm:∀i,((List.replicate M (⟨true,[]⟩:Fa)).getD i default).mask = []:=Bf M
        repeat' (first
         |(refine qz ?_;first
          |refine cl ?_ (hi:=by exact rU hbsR (fs:=[]) (l:=[]) ⟨rfl,fun i h=>absurd h (Nat.not_lt_zero _)⟩ hslR hm (nf:=0) (.inl ⟨rfl,.inl rfl⟩) rfl (by omega) (by decide) (fun i=>by have:=hko.few i;omega) hko.byte (fun i=>qx) (fun i=>Nat.zero_le _) hA1 rfl hY0 (i:=6) (j:=8) rfl rfl (by decide) nL nA rfl)
          |refine cl ?_ (hi:=by exact rU hbsR hlo hslR hm hloS List.length_replicate (by omega) (by rw[List.length_replicate];omega) (fun i=>by have:=hko.few i;omega) hko.byte (fun i=>by rw[hlotm];exact qx) (fun i=>by rw[hlotm];exact Nat.zero_le _) hA2 rfl (by omega) (i:=6) (j:=8) rfl rfl (by decide) nL nA rfl)
          |refine cl ?_ (hi:=by exact rU honI hmkX honS honl hrm2 (by rw[List.length_map,hmsl]) (by rw[honl];omega) (by rw[List.length_map,<-hmsl];omega) (ER (fun l=>l.length<=100000) (Nat.zero_le _) (by have:=hko.few 0;omega) (fun i _=>hresl i)) (ER aR qx (hko.byte 0) (fun i _=>hresb i)) (fun i=>by rw[CH];exact IZ aR qx hfBy i) (fun i=>by rw[CH];exact IZ (fun l=>l.length<=100000) (Nat.zero_le _) hfLn i) hA3 rfl hY0 (i:=6) (j:=8) rfl rfl (by decide) nL nA rfl)
          |refine T0 rfl ?_
          |refine eqs ?_
          |refine sP ?_
          |refine se ?_ hbl3 hx0 rfl
          |refine TZ hpe0 rfl (by omega) ?_
          |refine nN ?_
          |refine cl ?_ (hi:=by exact kH (L:=LA) (f:=⟨false,[]⟩) (i:=2) (.inl ⟨rfl,.inl rfl⟩) (by decide) rfl (r:=false) rfl rfl rfl))
         |refine eY 30 ?_|refine zz ?_|refine zx (fun _=>?_) (fun _=>?_)|refine bP (by first|exact ai.nil|exact ai.one _|exact ai.pC (by repeat' (first|exact True.intro|refine And.intro ?_ ?_|exact Compat.ne rfl|exact ep rfl))) ⟨by kernel_rfl,?_⟩|refine bP (by first|exact ai.nil|exact ai.one _|exact ai.pC (by repeat' (first|exact True.intro|refine And.intro ?_ ?_|exact Compat.ne rfl|exact ep rfl))) ?_|fail)
        show aE _ _ _ _ _ _ _ _;refine kV [0,1,2] ?_;rfl
      ·refine WX.pc (L:=FL) (vs:=fl cK (eh M)) (us:=(fl cK (eh M)).map (·.self 8)) 9 8 M (.toEnd 2) [(5,.one (.ptr 5 0)),(6,.one (.lsl 6 m 0 m m 0)),(8,.one (.slice 7 0 Y.length (.toEnd 1))),(11,.one (.lsl 8 FL.length 0 M M 0)),(12,dV 10 mk.length 2)] [ob0,ob1,.late LA,.dead,.late B,.cells (d9 s.hd (.lsl 4 w 0 np np 0)) 36 false false,.late PL,.cells (il .u8 Y) 5 true false,.late (FL++[fl cK (eh M)]),.dead,bu 69 ((fl cK mk).map (·.self 8))] (m:=FL.length) (jY _ _) (.inr ⟨2,rfl,by decide,by rw[hl1];exact Nat.le_refl _⟩) rfl (hH:=by repeat' (first|exact aO.nil|refine aO.ghost ?_|refine aO.flat rfl ?_|refine aO.cells rfl (cU.same (fq (by simp[XC.iA]))) ?_|refine aO.Qg rfl (d8 hmkl _ _) ?_|refine aO.dead ?_)) (hR:=by repeat' (first|exact bG.nil|refine bG.flat rfl ?_|refine bG.one rfl dF.uC ?_|refine bG.one rfl (dF.same (by first|trivial|(simp[XC.iA];done)|exact rr (by decide))) ?_)) (hok:=(stM (objs:=by repeat' (first|exact ak.nil|refine ak.flat ?_|refine ak.cons (bC (show 4<_ from Nat.le_of_ble_eq_true rfl)) ?_|refine ak.cons (ek (cq (jY _ 0) (Nat.le_of_ble_eq_true rfl))) ?_|refine ak.cons (ek (cq hmkl (Nat.le_of_ble_eq_true rfl))) ?_|refine ak.cons trivial ?_)))) (h:=?_)
       by_cases h0:mk.length=0
       ·have hs2:bu 69 ((fl cK mk).map (·.self 8)) = .dead:=by rw[List.length_eq_zero_iff.1 h0];rfl
        rw[hs2,h0];exact key (FL++[fl cK (eh M)],.nils) ⟨⟨[],(List.append_nil _).symm⟩,.inl ⟨h0,.inl rfl⟩⟩
       ·have hs2:bu 69 ((fl cK mk).map (·.self 8)) = .cells ((fl cK mk).map (·.self 8)) 69 true false:=bJ fun e=>by
         rw[e]at hl2;have hl2:0=mk.length*2:=hl2;omega
        rw[hs2,c_ h0];have hmkl2:∀c∈fl cK mk,c.f7 (FL++[fl cK (eh M)]).length=true:=fun c hc=>XC.kp (by rw[List.length_append];omega) (hmkl c hc)
        refine WX.pc (L:=FL++[fl cK (eh M)]) (vs:=fl cK mk) (us:=(fl cK mk).map (·.self 8)) 10 8 mk.length (.toEnd 2) [(5,.one (.ptr 5 0)),(6,.one (.lsl 6 m 0 m m 0)),(8,.one (.slice 7 0 Y.length (.toEnd 1))),(11,.one (.lsl 8 FL.length 0 M M 0)),(12,.one (.lsl 8 (FL++[fl cK (eh M)]).length 0 mk.length mk.length 0))] [ob0,ob1,.late LA,.dead,.late B,.cells (d9 s.hd (.lsl 4 w 0 np np 0)) 36 false false,.late PL,.cells (il .u8 Y) 5 true false,.late ((FL++[fl cK (eh M)])++[fl cK mk]),.dead,.dead] (m:=(FL++[fl cK (eh M)]).length) hmkl2 (.inr ⟨2,rfl,by decide,by rw[hl2];exact Nat.le_refl _⟩) rfl (hH:=by repeat' (first|exact aO.nil|refine aO.ghost ?_|refine aO.flat rfl ?_|refine aO.cells rfl (cU.same (fq (by simp[XC.iA]))) ?_|refine aO.Qg rfl (d8 hmkl _ _) ?_|refine aO.dead ?_)) (hR:=by
         repeat' (first|exact bG.nil|refine bG.flat rfl ?_|refine bG.one rfl dF.uC ?_|refine bG.one rfl (dF.same (by first|trivial|(simp[XC.iA];done))) ?_)) (hok:=(stM (objs:=by repeat' (first|exact ak.nil|refine ak.flat ?_|refine ak.cons (bC (show 4<_ from Nat.le_of_ble_eq_true rfl)) ?_|refine ak.cons (ek (cq (jY _ 0) (Nat.le_of_ble_eq_true rfl))) ?_|refine ak.cons (ek (cq hmkl (Nat.le_of_ble_eq_true rfl))) ?_|refine ak.cons trivial ?_)))) (h:=?_)
        exact key ((FL++[fl cK (eh M)])++[fl cK mk],.lsl 8 (FL++[fl cK (eh M)]).length 0 mk.length mk.length 0) ⟨⟨[fl cK mk],rfl⟩,.inr ⟨_,_,Nat.le_refl _,rfl,by rw[List.getElem?_append_right (Nat.le_refl _),Nat.sub_self];rfl⟩⟩
end Go.Proofs.YthdciapjllppjaaGreat
namespace Go.Xm
inductive dN where
 | int (k:IntKind)
 | bool
def dN.has:dN->Value->Prop
 | .int k,v=>∃z,v = .int k z/\(Lit.int k z).wf=true
 | .bool,v=>∃b,v = .bool b
def lint:Value->Int
 | .int _ z=>z
 | _=>0
def uM:Value->Bool
 | .bool b=>b
 | _=>false
def dN.cell(l:dN)(v:Value):XC:=match l with
 | .int k => .int k (lint v)
 | .bool => .bool (uM v)
theorem dN.den[av]{l:dN}{v:Value}(h:l.has v)(β : Env):(l.cell v).den β = v:=by
 cases l with
 | int k=>obtain⟨z,rfl,_⟩:=h;rfl
 | bool=>obtain⟨b,rfl⟩:=h;rfl
def eX(P:Program)(t:TypeId)(ks:List dN):Prop:=
 P.cellsOf t=ks.length/\∀(H:Type) (enc:TypeId×Value->H) (w:World) (base:Nat) (spare:Nat->Bool) (held:Bool) (fuel:Nat) (cs:List Value) (x:DataW H×List MemPlace),
  DataW.trod enc P w base spare held fuel t cs=some x->cs.length=ks.length/\∀(j:Nat) (l:dN),ks[j]? = some l->∃v,cs[j]? = some v/\l.has v
variable {P:Program} {t:TypeId}
theorem eX.int{k:IntKind}(ht:P.underlying t=some (.int k))(hc:P.cellsOf t=1):eX P t [.int k]:=by
 refine⟨hc,fun H enc w base spare held fuel cs x h=>?_⟩;obtain⟨n,rfl,_,hw⟩:=DataW.trod_int ht h;refine⟨rfl,fun j l hj=>?_⟩
 match j,hj with
 | 0,hj=>cases hj;exact⟨_,rfl,n,rfl,hw⟩
 | j+1,hj=>simp at hj
theorem eX.bool(ht:P.underlying t=some .bool)(hc:P.cellsOf t=1):eX P t [.bool]:=by
 refine⟨hc,fun H enc w base spare held fuel cs x h=>?_⟩;obtain⟨b,rfl,_⟩:=DataW.trod_bool ht h;refine⟨rfl,fun j l hj=>?_⟩
 match j,hj with
 | 0,hj=>cases hj;exact⟨_,rfl,b,rfl⟩
 | j+1,hj=>simp at hj
def iN(ks:List dN):Nat->List dN
 | 0=>[]
 | n+1=>ks++iN ks n
theorem l_(ks:List dN):∀n,(iN ks n).length=n*ks.length
 | 0=>by simp[iN]
 | n+1=>by rw[iN,List.length_append,l_ ks n,Nat.add_mul,Nat.one_mul,Nat.add_comm]
theorem Bd{ks:List dN}{l:dN}:∀(n j:Nat),(iN ks n)[j]? = some l->∃i r,i<n/\j=i*ks.length+r/\ks[r]? = some l
 | 0,j,h=>by simp[iN]at h
 | n + 1,j,h=>by
   rw[iN]at h
   by_cases hj:j<ks.length
   ·rw[List.getElem?_append_left hj]at h;exact⟨0,j,Nat.succ_pos _,by simp,h⟩
   ·rw[List.getElem?_append_right (by omega)]at h;obtain⟨i,r,hi,hr,hl⟩:=Bd n (j-ks.length) h;exact⟨i+1,r,by omega,by rw[Nat.add_mul,Nat.one_mul];omega,hl⟩
theorem eX.array{n:Nat}{e:TypeId}{ks:List dN}(ht:P.underlying t=some (.array n e))(he:eX P e ks)(hc:P.cellsOf t=n*ks.length):eX P t (iN ks n):=by
 refine⟨by rw[hc,l_],fun H enc w base spare held fuel cs x h=>?_⟩;obtain⟨xs,m,_,_,hlen,hxl,hx⟩:=DataW.trod_array ht h;refine⟨by rw[hlen,hc,l_],fun j l hj=>?_⟩;obtain⟨i,r,hi,rfl,hr⟩:=Bd n j hj;have hxi:xs[i]? = some (xs[i]'(by omega)):=List.getElem?_eq_getElem (by omega);obtain⟨hl,hv⟩:=he.2 H enc w base spare held m _ _ ((hx i hi).trans hxi);obtain⟨v,hv1,hv2⟩:=hv r l hr;refine⟨v,?_,hv2⟩;have hrl:r<ks.length:=(List.getElem?_eq_some_iff.1 hr).1;rw[he.1,List.getElem?_take_of_lt hrl,List.getElem?_drop]at hv1;exact hv1
theorem F3{kss:List (List dN)}{l:dN}:∀{j:Nat},kss.flatten[j]? = some l->∃i ks r,kss[i]? = some ks/\j=((kss.take i).flatten).length+r/\ks[r]? = some l:=by
 induction kss with
 | nil=>intro j h;simp at h
 | cons ks kss ih=>
   intro j h;rw[List.flatten_cons]at h
   by_cases hj:j<ks.length
   ·rw[List.getElem?_append_left hj]at h;exact⟨0,ks,j,rfl,by simp,h⟩
   ·rw[List.getElem?_append_right (by omega)]at h;obtain⟨i,ks',r,h1,h2,h3⟩:=ih h;refine⟨i+1,ks',r,h1,?_,h3⟩;rw[List.take_succ_cons,List.flatten_cons,List.length_append];omega
theorem eX.struct{fs:Array Field}(kss:List (List dN))(ht:P.underlying t=some (.struct fs))(hn:kss.length=fs.size)(hf:∀(i:Nat) (f:Field) (ks:List dN),fs[i]? = some f->kss[i]? = some ks->eX P f.type ks/\f.offset=((kss.take i).flatten).length)(hc:P.cellsOf t=kss.flatten.length):eX P t kss.flatten:=by
 refine⟨hc,fun H enc w base spare held fuel cs x h=>?_⟩;obtain⟨xs,m,_,_,hlen,hxl,hx⟩:=DataW.trod_struct ht h;refine⟨by rw[hlen,hc],fun j l hj=>?_⟩;obtain⟨i,ks,r,h1,rfl,h3⟩:=F3 hj
 have hi:i<fs.size:=by
  have:=(List.getElem?_eq_some_iff.1 h1).1;omega
 have hfi:fs[i]? = some fs[i]:=Array.getElem?_eq_getElem hi;obtain⟨hl,ho⟩:=hf i _ ks hfi h1;have hxi:xs[i]? = some (xs[i]'(by omega)):=List.getElem?_eq_getElem (by omega);obtain⟨_,hv⟩:=hl.2 H enc w base spare held m _ _ ((hx i _ hfi).trans hxi);obtain⟨v,hv1,hv2⟩:=hv r l h3;refine⟨v,?_,hv2⟩;have hrl:r<ks.length:=(List.getElem?_eq_some_iff.1 h3).1;rw[hl.1,List.getElem?_take_of_lt hrl,List.getElem?_drop,ho]at hv1;exact hv1
def jm:List dN->(Nat->Value)->Nat->List XC
 | [],_,_=>[]
 | l::ks,g,j=>l.cell (g j)::jm ks g (j+1)
theorem sf:∀(ks:List dN) (g:Nat->Value) (o j:Nat),(jm ks g o)[j]? = (ks[j]?).map fun l=>l.cell (g (o+j))
 | [],g,o,j=>by simp[jm]
 | l::ks,g,o,0=>rfl
 | l::ks,g,o,j+1=>by
   rw[jm,List.getElem?_cons_succ,sf ks g (o+1) j,List.getElem?_cons_succ];rw[show o+1+j=o+(j+1) by omega]
def oc(ks:List dN)(g:Nat->Value)(o:Nat):Prop:=∀(j:Nat) (l:dN),ks[j]? = some l->l.has (g (o+j))
theorem xB[av]{ks:List dN}{cs:List Value}(hl:cs.length=ks.length)(h:∀(j:Nat) (l:dN),ks[j]? = some l->∃v,cs[j]? = some v/\l.has v)(β : Env):cs=(jm ks (fun j=>cs.getD j .nilIface) 0).map (·.den β)/\oc ks (fun j=>cs.getD j .nilIface) 0:=by
 have hv:∀j l,ks[j]? = some l->l.has (cs.getD j .nilIface)/\cs[j]? = some (cs.getD j .nilIface):=fun j l hj=>by
  obtain⟨v,h1,h2⟩:=h j l hj;rw[List.getD_eq_getElem?_getD,h1];exact⟨h2,rfl⟩
 refine⟨List.ext_getElem? fun j=>?_,fun j l hj=>by rw[Nat.zero_add];exact(hv j l hj).1⟩;rw[List.getElem?_map,sf,Nat.zero_add]
 by_cases hj:j<ks.length
 ·have hk:ks[j]? = some ks[j]:=List.getElem?_eq_getElem hj;obtain⟨h1,h2⟩:=hv j _ hk;rw[hk];show cs[j]? = some ((ks[j].cell (cs.getD j .nilIface)).den β);rw[dN.den h1,h2]
 ·rw[List.getElem?_eq_none (by omega),List.getElem?_eq_none (by omega)];rfl
end Go.Xm
namespace Go.Proofs.YthdciapjllppjaaGreat
open Go.ChangeShapes Go.WideShapes Go.ChangeAt Go.RowKit Go.Deep Go.Xm
def Jk:List dN:=[[dN.bool],iN [.int .u8] 64,iN [.int .u8] 64].flatten
def Jh:List dN:=[[dN.int .i64],[.int .i64],Jk].flatten
def RK:List dN:=[iN [dN.int .i8] 4,iN [.int .i8] 4,[.bool]].flatten
def Jj:List dN:=[[dN.int .u8],[.int .u8],RK,[.bool],iN [.int .u64] 6,[.int .u32],[.bool]].flatten
theorem AF:eX prog 5 [.int .u8] := .int Tryz.underlying5 (by kernel_rfl)
theorem RR:eX prog 91 [.int .i8] := .int Tryz.underlying91 (by kernel_rfl)
theorem Pp:eX prog 95 [.int .u64] := .int Tryz.underlying95 (by kernel_rfl)
theorem Po:eX prog 97 [.int .u32] := .int Tryz.underlying97 (by kernel_rfl)
theorem JA:eX prog 3 [.int .i64] := .int Tryz.underlying3 (by kernel_rfl)
theorem oQ:eX prog 4 [.bool] := .bool Tryz.underlying4 (by kernel_rfl)
theorem Jz:eX prog 22 (iN [.int .u8] 64) := .array Tryz.underlying22 AF (by kernel_rfl)
theorem Of:eX prog 92 (iN [.int .i8] 4) := .array Tryz.underlying92 RR (by kernel_rfl)
theorem RQ:eX prog 96 (iN [.int .u64] 6) := .array Tryz.underlying96 Pp (by kernel_rfl)
theorem Pn:eX prog 24 Jk:=by
 refine .struct _ Tryz.underlying24 rfl (fun i f ks hi hk=>?_) (by kernel_rfl)
 match i,hi,hk with
 | 0,hi,hk=>cases hi;cases hk;exact⟨oQ,rfl⟩
 | 1,hi,hk=>cases hi;cases hk;exact⟨Jz,rfl⟩
 | 2,hi,hk=>cases hi;cases hk;exact⟨Jz,rfl⟩
 | i+3,hi,hk=>simp at hk
theorem Og:eX prog 26 Jh:=by
 refine .struct _ Tryz.underlying26 rfl (fun i f ks hi hk=>?_) (by kernel_rfl)
 match i,hi,hk with
 | 0,hi,hk=>cases hi;cases hk;exact⟨JA,rfl⟩
 | 1,hi,hk=>cases hi;cases hk;exact⟨JA,rfl⟩
 | 2,hi,hk=>cases hi;cases hk;exact⟨Pn,rfl⟩
 | i+3,hi,hk=>simp at hk
theorem RT:eX prog 94 RK:=by
 refine .struct _ Tryz.underlying94 rfl (fun i f ks hi hk=>?_) (by kernel_rfl)
 match i,hi,hk with
 | 0,hi,hk=>cases hi;cases hk;exact⟨Of,rfl⟩
 | 1,hi,hk=>cases hi;cases hk;exact⟨Of,rfl⟩
 | 2,hi,hk=>cases hi;cases hk;exact⟨oQ,rfl⟩
 | i+3,hi,hk=>simp at hk
theorem RS:eX prog 99 Jj:=by
 refine .struct _ Tryz.underlying99 rfl (fun i f ks hi hk=>?_) (by kernel_rfl)
 match i,hi,hk with
 | 0,hi,hk=>cases hi;cases hk;exact⟨AF,rfl⟩
 | 1,hi,hk=>cases hi;cases hk;exact⟨AF,rfl⟩
 | 2,hi,hk=>cases hi;cases hk;exact⟨RT,rfl⟩
 | 3,hi,hk=>cases hi;cases hk;exact⟨oQ,rfl⟩
 | 4,hi,hk=>cases hi;cases hk;exact⟨RQ,rfl⟩
 | 5,hi,hk=>cases hi;cases hk;exact⟨Po,rfl⟩
 | 6,hi,hk=>cases hi;cases hk;exact⟨oQ,rfl⟩
 | i+7,hi,hk=>simp at hk
theorem AA(a b:List dN)(g:Nat->Value):∀o,jm (a++b) g o=jm a g o++jm b g (o+a.length):=by
 induction a with
 | nil=>intro o;rfl
 | cons l a ih=>
   intro o;rw[List.cons_append,jm,ih,jm,List.cons_append,List.length_cons];rw[show o+1+a.length=o+(a.length+1) by omega]
theorem xC(k:IntKind)(g:Nat->Value):∀n o,jm (iN [.int k] n) g o=ti k n fun i=>lint (g (o+i)):=by
 intro n
 induction n with
 | zero=>intro o;rfl
 | succ n ih=>
   intro o;rw[iN,AA,ih];unfold ti;rw[List.range_succ_eq_map,List.map_cons,List.map_map];show _::_=_::_
   congr 1
   refine List.map_congr_left fun i _=>?_
   show XC.int k (lint (g (o+1+i)))=XC.int k (lint (g (o+(i+1))));rw[show o+1+i=o+(i+1) by omega]
def I2(g:Nat->Value):Hd:=⟨lint (g 0),lint (g 1),uM (g 2),fun i=>lint (g (3+i)),fun i=>lint (g (67+i))⟩
def R_(g:Nat->Value):Sm:=⟨lint (g 0),lint (g 1),⟨fun i=>lint (g (2+i)),fun i=>lint (g (6+i)),uM (g 10)⟩,uM (g 11),fun i=>lint (g (12+i)),lint (g 18),uM (g 19)⟩
theorem yQ:Jh = [dN.int .i64,.int .i64,.bool]++(iN [.int .u8] 64++iN [.int .u8] 64):=by
 simp only[Jh,Jk,List.flatten_cons,List.flatten_nil,List.append_nil,List.cons_append,List.nil_append]
theorem Jp(g:Nat->Value):jm Jh g 0=ij (I2 g):=by
 rw[yQ];simp only[List.cons_append,List.nil_append,jm];rw[AA,xC,xC,l_];rfl
theorem Jq(g:Nat->Value):jm Jj g 0=tV (R_ g):=rfl
theorem Jr{k:IntKind}{v:Value}(h:(dN.int k).has v):(Lit.int k (lint v)).wf=true:=by
 obtain⟨z,rfl,hz⟩:=h;exact hz
theorem vA(l:dN):∀n,iN [l] n=List.replicate n l
 | 0=>rfl
 | n+1=>by rw[iN,vA l n,List.replicate_succ];rfl
theorem EO(l:dN){n i:Nat}(h:i<n)(r:List dN):(iN [l] n++r)[i]? = some l:=by
 rw[List.getElem?_append_left (by rw[vA,List.length_replicate];exact h),vA,List.getElem?_replicate,if_pos h]
theorem ok_int{ks:List dN}{g:Nat->Value}(h:oc ks g 0){j:Nat}{k:IntKind}(hj:ks[j]? = some (.int k)):(Lit.int k (lint (g j))).wf=true:=by
 have:=Jr (h j _ hj);rwa [Nat.zero_add]at this
theorem Pa{g:Nat->Value}(h:oc Jh g 0):pn (I2 g):=by
 refine⟨bounds_i64 (ok_int h rfl),bounds_i64 (ok_int h rfl),fun i h64=>⟨bounds_u8 (ok_int h ?_),bounds_u8 (ok_int h ?_)⟩⟩
 ·rw[Nat.add_comm];rw[yQ];show(iN [dN.int .u8] 64++iN [.int .u8] 64)[i]? = _;exact EO _ h64 _
 ·rw[show 67+i=(64+i)+3 by omega];rw[yQ];show(iN [dN.int .u8] 64++iN [.int .u8] 64)[64+i]? = _;rw[List.getElem?_append_right (by rw[l_];simp),l_];simp only[List.length_cons,List.length_nil,Nat.zero_add,Nat.mul_one,Nat.add_sub_cancel_left];rw[<-List.append_nil (iN _ 64)];exact EO _ h64 _
theorem Qh{g:Nat->Value}(h:oc Jj g 0):iP (R_ g):=by
 have i8:∀{j},Jj[j]? = some (.int .i8) -> -128<=lint (g j)/\lint (g j)<128:=fun {j} hj=>by
  have:=bounds_i8 (ok_int h hj);omega
 have u64:∀{j},Jj[j]? = some (.int .u64)->0<=lint (g j)/\lint (g j)<18446744073709551616:=fun {j} hj=>by
  have:=bounds_u64 (ok_int h hj);omega
 refine⟨bounds_u8 (ok_int h rfl),bounds_u8 (ok_int h rfl),⟨fun k hk=>?_,fun k hk=>?_⟩,fun k hk=>?_,?_⟩
 ·match k,hk with
  | 0,_=>exact i8 rfl
  | 1,_=>exact i8 rfl
  | 2,_=>exact i8 rfl
  | 3,_=>exact i8 rfl
 ·match k,hk with
  | 0,_=>exact i8 rfl
  | 1,_=>exact i8 rfl
  | 2,_=>exact i8 rfl
  | 3,_=>exact i8 rfl
 ·match k,hk with
  | 0,_=>exact u64 rfl
  | 1,_=>exact u64 rfl
  | 2,_=>exact u64 rfl
  | 3,_=>exact u64 rfl
  | 4,_=>exact u64 rfl
  | 5,_=>exact u64 rfl
 ·have:=bounds_u32 (ok_int h (j:=18) rfl);show 0<=lint (g 18)/\lint (g 18)<4294967296;omega
variable [av]
section
variable {H:Type} {enc:TypeId×Value->H} {w:World} {base:Nat} {spare:Nat->Bool} {held:Bool}
theorem Js{t:TypeId}{ks:List dN}(hl:eX prog t ks){fuel:Nat}{cs:List Value}{x:Option (DataW H×List MemPlace)}{y:DataW H×List MemPlace}(h:DataW.trod enc prog w base spare held fuel t cs=x)(hx:x=some y):∃g,oc ks g 0/\∀β : Env,cs=(jm ks g 0).map (·.den β):=by
 obtain⟨h1,h2⟩:=hl.2 H enc w base spare held fuel cs y (h.trans hx);exact⟨_,(xB h1 h2 Env.zero).2,fun β=>(xB h1 h2 β).1⟩
end
end Go.Proofs.YthdciapjllppjaaGreat
namespace Go.Proofs.YthdciapjllppjaaGreat
open Go.ChangeShapes Go.WideShapes Go.ChangeAt Go.RowKit Go.Deep Go.Xm
def Ji:List dN:=[[dN.bool],[.bool],[.int .u8],[.int .u8]].flatten
theorem Pm:eX prog 84 Ji:=by
 refine .struct _ Tryz.underlying84 rfl (fun i f ks hi hk=>?_) (by kernel_rfl)
 match i,hi,hk with
 | 0,hi,hk=>cases hi;cases hk;exact⟨oQ,rfl⟩
 | 1,hi,hk=>cases hi;cases hk;exact⟨oQ,rfl⟩
 | 2,hi,hk=>cases hi;cases hk;exact⟨AF,rfl⟩
 | 3,hi,hk=>cases hi;cases hk;exact⟨AF,rfl⟩
 | i+4,hi,hk=>simp at hk
variable [av]
def On(g:Nat->Value):tD:=⟨uM (g 0),uM (g 1),lint (g 2),lint (g 3)⟩
theorem Gf(g:Nat->Value):jm Ji g 0=eP (On g):=rfl
theorem MW{g:Nat->Value}(h:oc Ji g 0):j8 (On g):=⟨bounds_u8 (ok_int h rfl),bounds_u8 (ok_int h rfl)⟩
section
variable {H:Type} {enc:TypeId×Value->H} {w:World} {base:Nat} {spare:Nat->Bool} {held:Bool}
set_option maxRecDepth 100000 in
theorem EN{α : Type}[Inhabited α]{f : α->List XC}{s:Nat}[hE:nR f s]{ks:List dN}{te:TypeId}(hl:eX prog te ks)(hks:ks.length=s){of:(Nat->Value) -> α}(hof:∀g,jm ks g 0=f (of g)){raw : α->Prop}(hraw:∀g,oc ks g 0->raw (of g)){v:Value}{b0:Nat}{r:Reach}{t:TypeId}(ht:prog.underlying t=some (.slice te))(hcell:Cell.okWide prog w r b0 t v){fuel:Nat}{x:DataW H×List MemPlace}(hf:DataW.trod enc prog w base spare held fuel t [v]=some x) :
 ∃l:List α,(∀j,j<l.length->raw (l.getD j default))/\l.length<=9223372036854775807/\tE w v (fl f l) l.length:=by
 rcases open_slice ht hf with⟨hcs,_⟩|⟨a,len,cap,m,n,D,Pl,hcs,_,hlc,hcm,hm,_,hall⟩
 ·simp only[List.cons.injEq,and_true]at hcs;exact⟨[],fun j hj=>absurd hj (Nat.not_lt_zero _),Nat.zero_le _,.inl ⟨hcs,rfl,rfl⟩⟩
 ·simp only [List.cons.injEq,and_true]at hcs;subst hcs;have hspot:=vK ht hcell;have hlm:len<=m:=by rw[hm];split<;>omega
  have hC:prog.cellsOf te=s:=hl.1.trans hks
  let g:Nat->Nat->Value:=fun i j=>(w.cell? ⟨a.block,a.off+(i*s+j),none⟩).getD .nilIface
  have hg:∀i,i<len->oc ks (g i) 0/\∀j,j<s->w.cell? ⟨a.block,a.off+(i*s+j),none⟩=some (g i j):=fun i hi=>by
   obtain⟨cs',hc,ht'⟩:=hall i (by omega);rw[hC]at hc;obtain⟨_,hcl,hat⟩:=World.cells?_some hc
   have hat':∀j,j<s->w.cell? ⟨a.block,a.off+(i*s+j),none⟩=cs'[j]?:=fun j hj=>by
    rw[<-hat j hj,Go.Deep.add_add,Fv hspot]
   have hgj:∀j,j<s->g i j=cs'.getD j .nilIface:=fun j hj=>by
    show(w.cell? _).getD _=_;rw[hat' j hj,List.getD_eq_getElem?_getD]
   obtain⟨hl1,hv⟩:=hl.2 H enc w base spare held n cs' _ ht';have hls:cs'.length=s:=hl1.trans hks;refine⟨fun j l hj=>?_,fun j hj=>?_⟩
   ·have hjs:j<s:=by rw[<-hks];exact(List.getElem?_eq_some_iff.1 hj).1
    obtain⟨v,h1,h2⟩:=hv j l hj;rw[Nat.zero_add,hgj j hjs,List.getD_eq_getElem?_getD,h1];exact h2
   ·rw[hat' j hj,hgj j hj,List.getD_eq_getElem?_getD,List.getElem?_eq_getElem (by omega)];rfl
  refine⟨(List.range len).map fun i=>of (g i),fun j hj=>?_,?_,.inr ⟨a.block,a.off,cap,by simpa using hlc,?_,fun j c hj β=>?_⟩⟩
  ·rw[List.length_map,List.length_range]at hj;rw[List.getD_eq_getElem?_getD,List.getElem?_map,List.getElem?_range hj];exact hraw _ (hg j hj).1
  ·unfold maxLen at hcm;rw[List.length_map,List.length_range];omega
  ·rw[List.length_map,List.length_range];obtain⟨b,o,sp⟩:=a;simp only at hspot;subst hspot;rfl
  ·have hj':=hj;unfold fl at hj;rw[uB f s hE.pos _ (fun a _=>hE.len a)]at hj
   have hlt:j/s<len:=by
    rw[List.getElem?_map]at hj
    by_cases h:j/s<len
    ·exact h
    ·rw[List.getElem?_eq_none (by rw[List.length_range];omega)]at hj;cases hj
   rw[List.getElem?_map,List.getElem?_range hlt]at hj;have hj2:(f (of (g (j/s))))[j%s]? = some c:=hj;have hr:j%s<s:=Nat.mod_lt _ hE.pos;rw[<-hof,sf,Nat.zero_add]at hj2;obtain⟨h1,h2⟩:=hg (j/s) hlt;have h3:=h2 (j%s) hr;have e5:j/s*s+j%s=j:=by rw[Nat.mul_comm];exact Nat.div_add_mod j s
   rw[e5]at h3;rw[h3]
   cases hk:ks[j%s]? with
   | none=>rw[hk]at hj2;cases hj2
   | some l=>
     rw[hk]at hj2;cases hj2;have:=h1 (j%s) l hk;rw[Nat.zero_add]at this;rw[dN.den this]
set_option maxRecDepth 100000 in
theorem OS{v:Value}{b0:Nat}{r:Reach}(hval:Value.okWide prog w r b0 30 v){fuel:Nat}{x:DataW H×List MemPlace}(hf:DataW.trod enc prog w base spare held fuel 30 v.cells.toList=some x) :
 ∃ (h:Hd) (pics:List tD) (l:List Sm) (va vb:Value),pn h/\(∀j,j<pics.length->j8 (pics.getD j default))/\(∀j,j<l.length->iP (l.getD j default))/\pics.length<=9223372036854775807/\l.length<=9223372036854775807/\tE w va (fl eP pics) pics.length/\tE w vb (fl tV l) l.length /\
   ∀(β : Env) (c0 c1:XC),c0.den β = va->c1.den β = vb->v = .agg ((rY h c0 c1).map (·.den β)).toArray:=by
 unfold Value.okWide at hval;rw[Tryz.underlying30]at hval;obtain⟨cs,rfl,hsz,ts,hts,_,hcell⟩:=hval;have hts2:(prog.cellTypes prog.depth 30).map (fun ts=>(ts.length,ts[131]?,ts[132]?))=some (133,some 27,some 28):=by kernel_rfl
 rw[hts]at hts2;simp only[Option.map_some,Option.some.injEq,Prod.mk.injEq]at hts2;obtain⟨hl133,h131,h132⟩:=hts2;obtain⟨xs,n,_,_,hlen,hxl,hx⟩:=DataW.trod_struct Tryz.underlying30 hf;have hC:prog.cellsOf 30=133:=by kernel_rfl
 have hcl:cs.toList.length=133:=by
  have:cs.size=prog.cellsOf 30:=hsz;rw[hC]at this;simpa using this
 have hx3:xs.length=3:=hxl
 have hget:∀i,i<3->∃y,xs[i]? = some y:=fun i hi=>⟨_,List.getElem?_eq_getElem (by omega)⟩
 obtain⟨y0,e0⟩:=hget 0 (by decide);obtain⟨y1,e1⟩:=hget 1 (by decide);obtain⟨y2,e2⟩:=hget 2 (by decide);have x0:=hx 0 _ rfl;have x1:=hx 1 _ rfl;have x2:=hx 2 _ rfl;obtain⟨g0,ok0,d0⟩:=Js Og x0 e0
 obtain⟨va,hva⟩:∃vm,cs.toList[131]? = some vm:=⟨_,List.getElem?_eq_getElem (by omega)⟩
 obtain⟨vb,hvb⟩:∃vm,cs.toList[132]? = some vm:=⟨_,List.getElem?_eq_getElem (by omega)⟩
 have hlast:cs.toList.drop 132 = [vb]:=by
  have h:132<cs.toList.length:=by omega
  rw[List.getElem?_eq_getElem h]at hvb;rw[List.drop_eq_getElem_cons h,Option.some.inj hvb,List.drop_of_length_le (by omega)]
 have hlast2:cs.toList.drop 131 = [va,vb]:=by
  have h:131<cs.toList.length:=by omega
  rw[List.getElem?_eq_getElem h]at hva;rw[List.drop_eq_getElem_cons h,Option.some.inj hva,hlast]
 have hcell1:Cell.okWide prog w r b0 27 va:=by
  obtain⟨u,hu,hok⟩:=hcell 131 va (by rw[<-Array.getElem?_toList];exact hva);rw[hl133,show 131%133=131 from rfl,h131]at hu;cases hu;exact hok
 have hcell2:Cell.okWide prog w r b0 28 vb:=by
  obtain⟨u,hu,hok⟩:=hcell 132 vb (by rw[<-Array.getElem?_toList];exact hvb);rw[hl133,show 132%133=132 from rfl,h132]at hu;cases hu;exact hok
 have x1':DataW.trod enc prog w base spare held n 27 [va]=some y1:=by
  rw[<-e1,<-x1];show _=DataW.trod enc prog w base spare held n 27 ((cs.toList.drop 131).take (prog.cellsOf 27));rw[hlast2,show prog.cellsOf 27=1 by kernel_rfl];rfl
 have x2':DataW.trod enc prog w base spare held n 28 [vb]=some y2:=by
  rw[<-e2,<-x2];show _=DataW.trod enc prog w base spare held n 28 ((cs.toList.drop 132).take (prog.cellsOf 28));rw[hlast,show prog.cellsOf 28=1 by kernel_rfl];rfl
 obtain⟨pics,p1,p2,p3⟩:=EN (f:=eP) Pm rfl Gf (raw:=j8) (fun g h=>MW h) Tryz.underlying27 hcell1 x1';obtain⟨l,l1',l2',l3'⟩:=EN (f:=tV) RS rfl Jq (raw:=iP) (fun g h=>Qh h) Tryz.underlying28 hcell2 x2';refine⟨I2 g0,pics,l,va,vb,Pa ok0,p1,l1',p2,l2',p3,l3',fun β c0 c1 h0 h1=>?_⟩
 have f0:cs.toList.take 131=(ij (I2 g0)).map (·.den β):=by
  rw[<-Jp,<-d0 β];show _=(cs.toList.drop 0).take (prog.cellsOf 26);rw[Og.1];rfl
 have h2:cs.toList=(rY (I2 g0) c0 c1).map (·.den β):=by
  rw[<-List.take_append_drop 131 cs.toList,f0,hlast2];unfold rY;rw[List.map_append,<-h0,<-h1];rfl
 rw[<-h2]
end
end Go.Proofs.YthdciapjllppjaaGreat
namespace Go.Proofs.YthdciapjllppjaaGreat
open Go.ChangeShapes Go.WideShapes Go.ChangeAt Go.RowKit Go.Deep Go.Xm
def SS(w:World)(G:Nat->Nat->Value)(v:Value)(n:Nat):Prop:=(v = .slice none 0 0/\n=0)\/∃b off cap:Nat,n<=cap/\v = .slice (some ⟨b,off,none⟩) n cap/\∀i j,i<n->j<5->w.cell? ⟨b,off+(i*5+j),none⟩=some (G i j)
theorem N3{G:Nat->Nat->Value}{v:Value}{n i:Nat}(hi:i<n):DL G v n (2*i)=G i 3:=by
 unfold DL;rw[if_pos (by omega),show 2*i/2=i by omega,show 3+2*i%2=3 by omega]
theorem N4{G:Nat->Nat->Value}{v:Value}{n i:Nat}(hi:i<n):DL G v n (2*i+1)=G i 4:=by
 unfold DL;rw[if_pos (by omega),show(2*i+1)/2=i by omega,show 3+(2*i+1)%2=4 by omega]
theorem HT{G:Nat->Nat->Value}{v:Value}{n:Nat}:DL G v n (2*n)=v:=by
 unfold DL;rw[if_neg (by omega)]
def HY(β : Env)(g:Nat)(G:Nat->Nat->Value)(v:Value)(n:Nat):Prop:=∀k,k<2*n+1->gV (β.bp g) k=(Gk (DL G v n k)).1/\dX (β.bp g) k=(Gk (DL G v n k)).2.1/\mc (β.bp g) k=(Gk (DL G v n k)).2.2
theorem Rs{w:World}{G:Nat->Nat->Value}{v:Value}{n:Nat}(hv:SS w G v n){β : Env}{g:Nat}(hβ : HY β g G v n) : @XC.den (qw G v n) β ((zQ (2*n) n).self g)=v:=by
 letI:av:=qw G v n
 obtain⟨h1,h2,h3⟩:=hβ (2*n) (by omega);rw[HT]at h1 h2 h3;unfold zQ
 by_cases h0:n=0
 ·rw[if_pos h0];show Bh (Bh (DL G v n (2*n)))=v;rw[HT]
  rcases hv with⟨rfl,_⟩|⟨b,off,cap,_,rfl,_⟩
  ·rfl
  ·rw[h0];rfl
 ·rw[if_neg h0]
  rcases hv with⟨_,h⟩|⟨b,off,cap,hc,rfl,_⟩
  ·exact absurd h h0
  ·show Value.slice (some ⟨gV (β.bp g) (2*n),dX (β.bp g) (2*n)+0,none⟩) n (max n (mc (β.bp g) (2*n)-0))=_;rw[h1,h2,h3];show Value.slice (some ⟨b,off+0,none⟩) n (max n (cap-0))=_;rw[Nat.add_zero,Nat.sub_zero,Nat.max_eq_right hc]
set_option maxRecDepth 100000 in
theorem Pj{w:World}{G:Nat->Nat->Value}{v:Value}{n:Nat}(hin:∀i,i<n->HX w G i)(hv:SS w G v n){β : Env}{g:Nat}(hβ : HY β g G v n) : @DN (qw G v n) β w g (HL w G n):=by
 letI:av:=qw G v n
 refine Jm (fun k cs hk=>?_) (fun k cs hk j c hj=>?_)
 ·rw[yp];have hkl:k<2*n+1:=by rw[<-yp w G n];exact(List.getElem?_eq_some_iff.1 hk).1
  by_cases h2:k<2*n
  ·rw[yn w G h2]at hk;cases hk;unfold QZ;split
   ·exact gT _ _ _
   ·exact gT _ _ _
  ·obtain rfl:k=2*n:=by omega
   rw[ua]at hk;cases hk;intro c hc;obtain⟨x,hx,hc⟩:=List.mem_flatMap.1 hc;obtain⟨i,hi,rfl⟩:=List.mem_map.1 hx;have hi:=List.mem_range.1 hi;simp only[kX,List.mem_cons,List.not_mem_nil,or_false]at hc
   rcases hc with rfl|rfl|rfl|rfl|rfl
   ·rfl
   ·rfl
   ·rfl
   ·exact Ec (by omega)
   ·exact Ec (by omega)
 ·have hkl:k<2*n+1:=by rw[<-yp w G n];exact(List.getElem?_eq_some_iff.1 hk).1
  obtain⟨t1',t2',t3'⟩:=hβ k hkl
  by_cases h2:k<2*n
  ·rw[yn w G h2]at hk;cases hk;have hk2:k/2<n:=by omega
   have hG:DL G v n k=G (k/2) (3+k%2):=if_pos h2;rw[t1',t2',hG];unfold QZ at hj
   by_cases hm:k%2=0
   ·rw[if_pos hm]at hj;rw[hm];exact Ez (hin _ hk2).odd hj β g
   ·rw[if_neg hm]at hj;rw[show k%2=1 by omega];exact Ez (hin _ hk2).mask hj β g
  ·obtain rfl:k=2*n:=by omega
   rw[ua]at hk;cases hk;rw[HT]at t1' t2';rw[t1',t2'];unfold fl at hj;rw[uB kX 5 (by decide) _ (fun _ _=>rfl)]at hj
   have hlt:j/5<n:=by
    rw[<-yR w G n]
    by_cases h:j/5<(HN w G n).length
    ·exact h
    ·rw[List.getElem?_eq_none (by omega)]at hj;cases hj
   rw[show(HN w G n)[j/5]? = some ((HN w G n).getD (j/5) default) by
    rw[List.getD_eq_getElem?_getD,List.getElem?_eq_getElem (by rw[yR];exact hlt)];rfl,Jl w G hlt]at hj
   obtain⟨i,hie⟩:∃i,j/5=i:=⟨_,rfl⟩
   obtain⟨m,hme⟩:∃m,j%5=m:=⟨_,rfl⟩
   have hmlt:m<5:=by omega
   have hje:j=i*5+m:=by omega
   rw[hie,hme]at hj;rw[hie]at hlt;subst hje
   rcases hv with⟨_,h⟩|⟨b,off,cap,hc,rfl,hcell⟩
   ·omega
   ·show w.cell? ⟨b,off+(i*5+m),none⟩=_;rw[hcell i m hlt hmlt];obtain⟨⟨z0,e0,-⟩,⟨z1,e1,-⟩,⟨z2,e2,-⟩,h3,h4⟩:=hin i hlt;have hj:(kX ⟨nJ (G i 0),nJ (G i 1),nJ (G i 2),zQ (2*i) (jK (G i 3)),zQ (2*i+1) (jK (G i 4))⟩)[m]? = some c:=hj
    match m,hmlt,hj with
    | 0,_,hj=>cases hj;rw[e0];rfl
    | 1,_,hj=>cases hj;rw[e1];rfl
    | 2,_,hj=>cases hj;rw[e2];rfl
    | 3,_,hj=>
      cases hj;obtain⟨q1,q2,q3⟩:=hβ (2*i) (by omega);rw[N3 hlt]at q1 q2 q3;exact congrArg some (Eb h3 (congrArg Bh (N3 hlt)) q1 q2 q3).symm
    | 4,_,hj=>
      cases hj;obtain⟨q1,q2,q3⟩:=hβ (2*i+1) (by omega);rw[N4 hlt]at q1 q2 q3;exact congrArg some (Eb h4 (congrArg Bh (N4 hlt)) q1 q2 q3).symm
def N5(f:FuncId):Prop:=∀(_:av) (h:Hd) (_:pn h) (pics:List tD) (_:∀j,j<pics.length->j8 (pics.getD j default)) (l:List Sm) (_:∀j,j<l.length->iP (l.getD j default)) (ob0 ob1:aj) (_:B5 ob0 eP pics) (_:B5 ob1 tV l) (c0 c1:XC) (_:cL c0 0 0 pics.length) (_:cL c1 1 0 l.length) (LA:List (List XC)) (lq:List o_) (q:List qn) (_:pr LA lq q) (d:XC) (_:cy LA 2 d (fl kX lq) q.length) (_:∀i,i<q.length->qo (q.getD i default)) (_:q.length<=9223372036854775807),bm prog f [.agg (rY h c0 c1),.one d] [ob0,ob1,.late LA] (.one (.bool true)) [ob0,ob1,.late LA]
section
variable {H:Type} {enc:TypeId×Value->H} {w:World} {base:Nat} {spare:Nat->Bool} {held:Bool}
set_option maxRecDepth 100000 in
theorem QB{f:FuncId}(hcon:N5 f){v0 v1:Value}{b0 b1:Nat}{r s:Reach}(hval0:Value.okWide prog w r b0 30 v0)(hval1:Value.okWide prog w s b1 63 v1){f0 f1:Nat}{x0 x1:DataW H×List MemPlace}(hf0:DataW.trod enc prog w base spare held f0 30 v0.cells.toList=some x0)(hf1:DataW.trod enc prog w base spare held f1 63 v1.cells.toList=some x1) :
 Calls prog f #[v0,v1] w fun e w'=>e = .returned (.bool true)/\Below w.heap.size w w':=by
 have hv1:=hval1;unfold Value.okWide at hv1;rw[Tryz.underlying63]at hv1;have hv1:Cell.okWide prog w s b1 63 v1:=hv1
 have hone:v1.cells.toList = [v1]:=by
  have h:=hv1;unfold Cell.okWide at h;rw[Tryz.underlying63]at h;have hck:Cell.ok prog w s b1 63 v1:=h;unfold Cell.ok at hck;rw[Tryz.underlying63]at hck
  split at hck<;>first
   | rfl
   | (cases hck)
 rw[hone]at hf1;obtain⟨G,n,hn,hin,hv⟩ := @PW H enc w base spare held ⟨fun _ => .int .u8 0,fun _=>⟨rfl,rfl⟩⟩ v1 b1 s _ Tryz.underlying63 hv1 _ _ hf1;have hv:SS w G v1 n:=hv
 letI:av:=qw G v1 n
 obtain⟨h,pics,l,va,vb,q1,q2,q3,q4',q5,q6,q7,q8⟩:=OS hval0 hf0;obtain⟨c0,o0,b0,lo0,sz0,a1,a2,a3,a4,a5,a6,a7⟩:=JP (tI (enc:=eP) pics) Eh 0 q6;obtain⟨c1,o1,b1,lo1,sz1,d1,d2,d3,d4,d5,d6,d7⟩:=JP (tI (enc:=tV) l) Eh 1 q7;obtain⟨tb,htb⟩:=Qn (fun k=>Gk (DL G v1 n k)) (2*n+1);have his:=Tj w G n;have hsl:cy (HL w G n) 2 ((zQ (2*n) n).self 2) (fl kX (HN w G n)) n:=(Cj (ua w G n)).self 2;have hql:(PI w G n).length=n:=y5 w G n
 have hc:=hcon inferInstance h q1 pics q2 l q3 o0 o1 (B5.in a3 a4) (B5.in d3 d4) c0 c1 a2 d2 (HL w G n) (HN w G n) (PI w G n) his ((zQ (2*n) n).self 2) (by rw[hql];exact hsl) (fun i hi=>by
  rw[hql]at hi;rw[Kc w G hi]
  exact PX (hin i hi)) (by rw[hql];exact hn)
 let β : Env:=⟨fun i=>if i=0 then b0 else if i=1 then b1 else tb,fun i=>if i=0 then lo0 else lo1,fun i=>if i=0 then sz0 else sz1⟩
 have htab:HY β 2 G v1 n:=htb;have r0:aM β 3 (.one c0) va:=a7 β 3 (by omega) rfl rfl;have r1:aM β 3 (.one c1) vb:=d7 β 3 (by omega) rfl rfl;refine FK hc (β := β) (Nat.le_of_ble_eq_true rfl) (fun i o ho=>?_) (fun i o ho=>?_) (vs:=[v0,v1]) ?_
 ·match i,ho with
  | 0,ho=>cases ho;exact a6 _ _
  | 1,ho=>cases ho;exact d6 _ _
  | 2,ho=>cases ho;trivial
  | i+3,ho=>simp at ho
 ·match i,ho with
  | 0,ho=>cases ho;exact .inl a5
  | 1,ho=>cases ho;exact .inl d5
  | 2,ho=>cases ho;exact .inr ⟨_,rfl,Pj hin hv htab⟩
  | i+3,ho=>simp at ho
 ·exact .cons ⟨Ch r0.1 r1.1,q8 β c0 c1 r0.2.symm r1.2.symm⟩ (.cons ⟨hsl.ok (Nat.le_of_ble_eq_true rfl),(Rs hv htab).symm⟩ .nil)
end
set_option maxRecDepth 100000 in
def S4:Value := .agg (#[.int .i64 0,.int .i64 0,.bool false]++Array.replicate 128 (.int .u8 0) ++ #[.slice none 0 0,.slice none 0 0])
end Go.Proofs.YthdciapjllppjaaGreat
