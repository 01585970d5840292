/-
  A part of the proof: EncR, Pre, EncS, EncT.
-/
import Derived.Test.YtnkodcmkpfefhaaGreatEeE
import Derived.Test.YtnkodcmkpfefhaaGreatEeX
import Derived.Test.YtnkodcmkpfefhaaGreatEeZB
set_option maxRecDepth 10000
set_option maxHeartbeats 8000000
set_option linter.unusedVariables false
set_option linter.unusedSectionVars false
set_option linter.unusedSimpArgs false
namespace Go.Proofs.YtnkodcmkpfefhaaGreat
open Go.Xm
variable [aw]
theorem Jo(m:Mb){n:Nat}(h:n<384):(mC m)[7+n]? = some (.int .i64 (m.lev n)):=by
 unfold mC
 rw[show 7+n=n+1+1+1+1+1+1+1 by omega]
 simp only[List.getElem?_cons_succ]
 exact eY h
theorem Hm(m:Mb){k off:Nat}(hk:k<6)(ho:off=7+k*64){g:Nat->Int}{l:Nat->Int}(hl:∀i,i<384->l i=if 64*k<=i/\i<64*k+64 then g (i-64*k)else m.lev i):(mC m).take off++ti .i64 64 g++(mC m).drop (off+64)=mC {m with lev:=l}:=by
 subst ho
 have h:=FH (k := .i64) (n:=384) (s:=64) (a:=64*k) m.lev g (by omega)
 rw[show ti .i64 384 (fun i=>if 64*k<=i/\i<64*k+64 then g (i-64*k)else m.lev i)=ti .i64 384 l from(bJ hl).symm]at h
 unfold mC
 rw[show 7+k*64=64*k+1+1+1+1+1+1+1 by omega,show 64*k+1+1+1+1+1+1+1+64=(64*k+64)+1+1+1+1+1+1+1 by omega]
 simp only[List.take_succ_cons,List.drop_succ_cons,List.cons_append]
 rw[h]
theorem Dt{h:Hd}{C R:Nat}{F:Fr}{mb:Nat}{kd q:Int}{k off:Nat}(hk:k<6)(ho:off=7+k*64):(mC (xP h C R F mb kd q k)).take off++ti .i64 64 (qG h C R F mb q k)++(mC (xP h C R F mb kd q k)).drop (off+64)=mC (xP h C R F mb kd q (k+1)):=
 Hm (xP h C R F mb kd q k) hk ho (l:=kb (qG h C R F mb q) (fun _=>0) (k+1)) fun i hi=>by
  show kb (qG h C R F mb q) (fun _=>0) (k+1) i=if 64*k<=i/\i<64*k+64 then qG h C R F mb q k (i-64*k)else kb (qG h C R F mb q) (fun _=>0) k i
  unfold kb
  by_cases h1:64*k<=i/\i<64*k+64
  ·rw[if_pos (by omega),if_pos h1,show i/64=k by omega,show i-64*k=i%64 by omega]
  ·rw[if_neg h1]
   by_cases h2:i/64<k
   ·rw[if_pos (by omega),if_pos h2]
   ·rw[if_neg (by omega),if_neg h2]
def MF(C R:Nat)(F:Fr)(mb:Nat)(q xq:Int):Prop:=(dV q (q-1)).2=true/\q8 C R F mb<256/\q>xq-2
open Classical in
noncomputable def o3(C R:Nat)(F:Fr)(mb:Nat)(q xq:Int):Int×Int:=if MF C R F mb q xq then(4,q-1)else(3,q)
noncomputable def dp(h:Hd)(C R:Nat)(F:Fr)(mb:Nat)(q xq:Int)(S:bO):Mb:=
 let kq:=o3 C R F mb q xq
 let x:=pI h C R F mb kq.2 S 6
 {xP h C R F mb kq.1 kq.2 6 with edge:=x.ok&&decide (x.ed<x.pl)}
noncomputable def i7(h:Hd)(C R:Nat)(F:Fr)(mb:Nat)(q xq:Int)(S:bO):bO:=(pI h C R F mb (o3 C R F mb q xq).2 S 6).S
abbrev qm(S:bO)(t:Nat):ah := .cells [.int .i64 S.cols,.int .i64 S.rows,.map (t+1),.map (t+2),.map (t+3)] 142 false false
abbrev oZ(c:gg)(C R:Nat)(xq pic:Int)(down inter:Bool)(x1 x2 x3:ah)(F:Fr)(S:bO)(r:ai):ai:=fe++(.cells (mT c C R 0 14 15 16 20 xq pic down inter) 89 false false::x1::x2::x3::yO C R F::uO C R F::vO C R F::qm S 20 :: .map (aj S.A) :: .map (aj S.B) :: .map (aj S.C)::r)
theorem x5{c:gg}(hr:b7 c.hd){C R:Nat}(hC:1<=C/\C<=8)(hR:1<=R/\R<=8){xq pic:Int}(hxq : -1000<=xq/\xq<=1000)(down inter:Bool)(x1 x2 x3:ah)[aR x1][aR x2][aR x3]{F:Fr}(hF:oV F){S:bO}(hSc:S.cols=(C:Nat))(hSr:S.rows=(R:Nat))(hSl:pH S){mb:Nat}(hmb:mb<C*R){q:Int}(hq:1<=q/\q<=31) :
 aW Tryz.prog 75 [.one (.ptr 13 0),.agg (dQ C R 17 18 19),.one (.int .i64 (mb:Nat)),.one (.int .i64 q)] (oZ c C R xq pic down inter x1 x2 x3 F S []) (.agg (mC (dp c.hd C R F mb q xq S))) (oZ c C R xq pic down inter x1 x2 x3 F (i7 c.hd C R F mb q xq S) []):=by
 have hm1:C*R<=8*8:=Nat.mul_le_mul hC.2 hR.2
 obtain⟨kd,q',hkq⟩:∃kd q',o3 C R F mb q xq=(kd,q'):=⟨_,_,rfl⟩
 obtain⟨v,b,hst⟩:∃v b,dV q (q-1)=(v,b):=⟨_,_,rfl⟩
 have hstep:∀HS:ai,Nat.blt HS.length Mem.bound=true->aC.Sound Tryz.prog ⟨88,[.one (.int .i64 q),.one (.int .i64 (q-1))],HS,.tup [.one (.int .i64 v),.one (.bool b)],HS,[]⟩:=fun HS hb=>by
  have h:=qM (was:=q) (qp:=q-1) (by omega) (by omega) hb
  rw[hst]at h
  exact h
 obtain⟨B,hB⟩:∃B,q8 C R F mb=B:=⟨_,rfl⟩
 have hBr:=Bh (C:=C) (R:=R) hF mb
 rw[hB]at hBr
 have g1:=mz c C R 0 14 15 16 20 xq pic down inter 12
 have g2:=mz c C R 0 14 15 16 20 xq pic down inter 14
 have g3:((mT c C R 0 14 15 16 20 xq pic down inter).drop 2).take 129=bG c.hd:=by rw[GO _ _ _ _ _ _ _ _ _ _ _ _ (by omega)];exact q9 c
 have hyes:b=true->B<256->q>xq-2->kd=4/\q'=q-1:=fun h1 h2 h3=>by
  have:o3 C R F mb q xq=(4,q-1):=if_pos ⟨by rw[hst];exact h1,by rw[hB];exact h2,h3⟩
  rw[this]at hkq
  cases hkq;exact⟨rfl,rfl⟩
 have hno:¬(b=true/\B<256/\q>xq-2)->kd=3/\q'=q:=fun h1=>by
  have:o3 C R F mb q xq=(3,q):=if_neg fun⟨h2,h3,h4⟩=>h1 ⟨by rw[hst]at h2;exact h2,by rw[hB]at h3;exact h3,h4⟩
  rw[this]at hkq
  cases hkq;exact⟨rfl,rfl⟩
 refine cO Tryz.func75 ?_
 repeat' (first
  |(refine qz ?_;first
   |refine qd (zs:=mC sW) (hz:=iZ) ?_
   |refine bS (zs:=mC sW) (hz:=iZ) ?_
   |refine lO (cs:=mC ⟨3,q,fun _=>(0,0),false,fun _=>0⟩) ?_ (hs1:=by rw[aQ]) (hs2:=by rw[aQ]))
  |refine WX.EF 2 (σ:=Unit) (fun _=>[(0,.one (.ptr 13 0)),(2,.one (.int .i64 (mb:Nat))),(5,.one (.ptr 24 0)),(8,.one (.ptr 25 0)),(9,.one (.ptr 26 0))]) (fun _=>oZ c C R xq pic down inter x1 x2 x3 F S [.cells (dQ C R 17 18 19) 44 false false,.cells (mC sW) 68 false false,.cells (mC ⟨kd,q',fun _=>(0,0),false,fun _=>0⟩) 68 false false]) (fun _=>True) (fun _ _=>(hX (objs:=by repeat' (first|exact ay.nil|refine ay.cons (ff (by show 0<27;omega) (by show 14<27;omega) (by show 15<27;omega) (by show 16<27;omega) (by show 20<27;omega)) ?_|refine ay.cons (bI (by show 17<27;omega) (by show 18<27;omega) (by show 19<27;omega)) ?_|refine ay.flat ?_|refine ay.cons (by first|(simp[ah.bl,XC.ok,aE];done)|simp[ah.bl,XC.ok,aE, *]) ?_)))) ?_ (fun _ _=>?_)|refine zz ?_|refine zx (fun _=>?_) (fun _=>?_)|fail)
 ·cases b with
  | false=>
    repeat' (first
     |(refine qz ?_;first
      |refine fV ?_ (hle:=by first|rw[fP]|rw[aQ])
      |refine cl ?_ (hi:=by exact hstep _ rfl)
      |refine cl ?_ (hi:=by exact zU hC hR hF (by omega) hB rfl rfl rfl (by decide) rfl)
      |refine ld (hc:=g1) ?_)
     |refine zz ?_|refine zx (fun _=>?_) (fun _=>?_)|fail)
    obtain⟨rfl,rfl⟩:=hno (fun h=>Bool.noConfusion h.1)
    exact⟨rfl,(),_,trivial,(b_ [0,1,2,3,4,5,6,7,8,9,10,11,12,13,14,15,16,17,18,19,20,21,22,23,24,25,26])⟩
  | true =>
    repeat' (first
     |(refine qz ?_;first
      |refine fV ?_ (hle:=by first|rw[fP]|rw[aQ])
      |refine cl ?_ (hi:=by exact hstep _ rfl)
      |refine cl ?_ (hi:=by exact zU hC hR hF (by omega) hB rfl rfl rfl (by decide) rfl)
      |refine ld (hc:=g1) ?_)
     |refine zz ?_|refine zx (fun _=>?_) (fun _=>?_)|fail)
    all_goals first
     | (obtain⟨rfl,rfl⟩:=hyes rfl (by omega) (by omega);exact⟨(),_,trivial,(b_ [0,1,2,3,4,5,6,7,8,9,10,11,12,13,14,15,16,17,18,19,20,21,22,23,24,25,26])⟩)
     | (have hq2:¬(B<256/\q>xq-2):=by omega
        obtain⟨rfl,rfl⟩:=hno (fun h=>hq2 h.2)
        exact⟨rfl,(),_,trivial,(b_ [0,1,2,3,4,5,6,7,8,9,10,11,12,13,14,15,16,17,18,19,20,21,22,23,24,25,26])⟩)
 ·have hq3:0<=q'/\q'<=31:=by
   by_cases hh:b=true/\B<256/\q>xq-2
   ·have:=hyes hh.1 hh.2.1 hh.2.2;omega
   ·have:=hno hh;omega
  repeat' (first|refine zz ?_|refine zx (fun _=>?_) (fun _=>?_)|fail)
  refine WX.bZ (σ:=Nat) (fun k=>[(0,.one (.ptr 13 0)),(2,.one (.int .i64 (mb:Nat))),(5,.one (.ptr 24 0)),(8,.one (.ptr 25 0)),(9,.one (.ptr 26 0)),(12,.one (.int .i64 (pI c.hd C R F mb q' S k).pl)),(13,.one (.int .i64 (pI c.hd C R F mb q' S k).ed)),(14,.one (.bool (pI c.hd C R F mb q' S k).ok)),(51,.one (.int .i64 (k:Nat)))]) (fun k=>oZ c C R xq pic down inter x1 x2 x3 F (pI c.hd C R F mb q' S k).S [.cells (dQ C R 17 18 19) 44 false false,.cells (mC sW) 68 false false,.cells (mC (xP c.hd C R F mb kd q' k)) 68 false false]) (fun k=>k<=6) (fun k=>6-k) 0 (by omega) (fun _ _=>(hX (objs:=by repeat' (first|exact ay.nil|refine ay.cons (ff (by show 0<27;omega) (by show 14<27;omega) (by show 15<27;omega) (by show 16<27;omega) (by show 20<27;omega)) ?_|refine ay.cons (bI (by show 17<27;omega) (by show 18<27;omega) (by show 19<27;omega)) ?_|refine ay.flat ?_|refine ay.cons (by first|(simp[ah.bl,XC.ok,aE];done)|simp[ah.bl,XC.ok,aE, *]) ?_)))) (b_ [0,1,2,3,4,5,6,7,8,9,10,11,12,13,14,15,16,17,18,19,20,21,22,23,24,25,26] (obj:=by(repeat' (first|exact ae.nil|refine ae.flat (by rw[show xP c.hd C R F mb kd q' 0=⟨kd,q',fun _=>(0,0),false,fun _=>0⟩ by unfold xP;rw[td]];rfl) ?_|refine ae.flat rfl ?_|refine ae.cons rfl ?_|refine ae.dead rfl ?_|refine ae.cons (by simp only[ah.ax,List.map_cons,List.map_nil,XC.ax,aB];exact rfl) ?_));first|done|fail)) ?_
  intro k hk6 ih
  by_cases h6:k<6
  ·have ih1:=ih (k+1)
   have hI:=zP (h:=c.hd) (F:=F) (mb:=mb) (q:=q') hSc hSr hSl k
   obtain⟨x,hx⟩:∃x,pI c.hd C R F mb q' S k=x:=⟨_,rfl⟩
   rw[hx]at hI
   obtain⟨L,hL⟩:∃L,qG c.hd C R F mb q' k=L:=⟨_,rfl⟩
   have hLr:∀i,-2047<=L i/\L i<=2047:=by rw[<-hL];exact qH c.hd C R F mb q' k
   obtain⟨o,ho⟩:∃o,Lk x.S mb q' L k=o:=⟨_,rfl⟩
   have hs:pI c.hd C R F mb q' S (k+1)=⟨cc x.S mb k ⟨L,q'⟩,x.pl+vG L,x.ed+vG (o.getD fun _=>0),x.ok&&o.isSome⟩:=by
    rw[pI,hx,hL,ho]
   rw[hx]
   rw[hs]at ih1
   have hput:∀off,off=7+k*64->(mC (xP c.hd C R F mb kd q' k)).take off++ti .i64 64 L++(mC (xP c.hd C R F mb kd q' k)).drop (off+64)=mC (xP c.hd C R F mb kd q' (k+1)):=fun off ho=>by rw[<-hL];exact Dt h6 ho
   obtain⟨M,hM⟩:∃M,xP c.hd C R F mb kd q' k=M:=⟨_,rfl⟩
   obtain⟨M2,hM2⟩:∃M2,xP c.hd C R F mb kd q' (k+1)=M2:=⟨_,rfl⟩
   have hMq:M.qp=q':=by rw[<-hM];rfl
   have hM2q:M2.qp=q':=by rw[<-hM2];rfl
   have hM2l:∀j,j<64->M2.lev (64*k+j)=L j:=fun j hj=>by
    rw[<-hM2,<-hL]
    unfold xP kb
    dsimp only
    rw[if_pos (by omega),show(64*k+j)/64=k by omega,show(64*k+j)%64=j by omega]
   rw[hM,hM2]at hput
   rw[hM]
   rw[hM2]at ih1
   have cq:(mC M)[1]? = some (.int .i64 q'):=by rw[<-hMq];rfl
   have cq2:(mC M2)[1]? = some (.int .i64 q'):=by rw[<-hM2q];rfl
   have hwin:((mC M2).drop (7+k*64)).take 64=ti .i64 64 L:=by
    rw[ED M2 (by omega) (by omega)]
    exact bJ fun i hi=>by rw[<-hM2l i hi];exact congrArg M2.lev (by omega)
   obtain⟨f1,hf1⟩:∃f1,I7 C R F mb k=f1:=⟨_,rfl⟩
   obtain⟨f2,hf2⟩:∃f2,rq f1=f2:=⟨_,rfl⟩
   have hf1r:∀i,-255<=f1 i/\f1 i<=255:=fun i=>by have:=uu (C:=C) (R:=R) hF mb k i;rw[hf1]at this;omega
   have hf2r:∀i,i<64 -> -1000000000<=f2 i/\f2 i<=1000000000:=fun i _=>by have:=Ec (by omega) hf1r i;rw[hf2]at this;omega
   have hLq:jJ c.hd f2 q' true=L:=by rw[<-hL];unfold qG;rw[hf1,hf2]
   have hb':qe (qh k*C) (qh k*R) (F.pl k) (Db C mb k) (Dc C mb k)=f1:=hf1
   have hfr:=uv hC (mb:=mb) (k:=k) (by omega)
   have hDm:j6 x.S.cols x.S.rows:=⟨by rw[hI.cols];omega,by rw[hI.cols];omega,by rw[hI.rows];omega,by rw[hI.rows];omega⟩
   have hmbI:0<=(mb:Int)/\(mb:Int)<x.S.cols*x.S.rows:=⟨by omega,by rw[hI.cols,hI.rows,<-Int.natCast_mul];omega⟩
   have hkI:0<=(k:Int)/\(k:Int)<6:=by omega
   obtain⟨e,he⟩:∃e,j0 x.S mb k q'=e:=⟨_,rfl⟩
   have her:∀i,-1000000<=e i/\e i<=1000000:=by rw[<-he];exact ly fun dx dy b hb=>uG hI.lev hb
   have hls:jH L e=o:=by rw[<-ho,<-he];rfl
   have hte:∀HS:ai,HS[20]? = some (qm x.S 20)->HS[21]? = some (.map (aj x.S.A))->HS[22]? = some (.map (aj x.S.B))->HS[23]? = some (.map (aj x.S.C))->Nat.blt HS.length Mem.bound=true->aC.Sound Tryz.prog ⟨98,[.one (.ptr 20 0),.one (.int .i64 (mb:Nat)),.one (.int .i64 (k:Nat)),.one (.int .i64 q')],HS,.agg (ti .i64 64 e),HS,[]⟩:=fun HS a1 a2 a3 a4 a5=>by
    rw[<-he]
    exact aF (tN hDm hmbI hkI) 20 21 22 23 (by decide) a1 a2 a3 a4 rfl (iX _ _ _) a5
   have hset:∀HS HS':ai,HS[20]? = some (qm x.S 20)->HS[21]? = some (.map (aj x.S.A))->HS[22]? = some (.map (aj x.S.B))->HS[23]? = some (.map (aj x.S.C))->((HS.set 21 (.map (aj (cc x.S mb k ⟨L,q'⟩).A))).set 22 (.map (aj (cc x.S mb k ⟨L,q'⟩).B))).set 23 (.map (aj (cc x.S mb k ⟨L,q'⟩).C))=HS'->Nat.blt HS'.length Mem.bound=true->aC.Sound Tryz.prog ⟨99,[.one (.ptr 20 0),.one (.int .i64 (mb:Nat)),.one (.int .i64 (k:Nat)),.agg (ti .i64 64 L++[.int .i64 q'])],HS,.tup [],HS',[21,22,23]⟩:=fun HS HS' a1 a2 a3 a4 hh a5=>wk (xi hDm hmbI hkI ⟨L,q'⟩) 20 21 22 23 (by decide) a1 a2 a3 a4 hh a5
   have hDr:∀j,j<64 -> -2047<=(o.getD fun _=>0) j/\(o.getD fun _=>0) j<=2047:=fun j hj=>by rw[<-hls];exact pa j hj
   have hpl:=hI.pl
   have hed:=hI.ed
   repeat' (first
    |(refine qz ?_;first
     |refine mU (cs:=bG c.hd) ?_ (hle:=by rw[vR];decide) (hc:=g3)
     |refine mU (cs:=ti .i64 64 L) ?_ (hle:=by rw[aQ];omega) (hc:=hwin)
     |refine ld (hc:=cq) ?_
     |refine ld (hc:=cq2) ?_
     |refine ld (hc:=g2) ?_
     |refine fV ?_ (hle:=by first|rw[fP]|rw[aQ])
     |refine cl ?_ (hi:=by exact qA hC (by omega) (by omega) rfl rfl rfl rfl rfl (by decide) rfl)
     |refine cl ?_ (hi:=by exact DC (Hu hC hR k) (hF.pl k) (by omega) (by omega) hb' (z8 (by omega) rfl rfl rfl) rfl)
     |refine cl ?_ (hi:=by exact I_ hf1r (by omega) hf2 rfl)
     |refine cl ?_ (hi:=by exact Hy hr hf2r hLq rfl)
     |refine MS ?_ (by rw[aQ];omega) (hput _ rfl)
     |refine cl ?_ (hi:=by exact hte _ rfl rfl rfl rfl rfl)
     |refine cl ?_ (hi:=by exact qE (fun i=>by have:=hLr i;omega) her hls rfl))
    |refine Gr (id:=12) [17] ?_|refine WX.Lm 13 (σ:=Unit) (fun _=>[(0,.one (.ptr 13 0)),(2,.one (.int .i64 (mb:Nat))),(5,.one (.ptr 24 0)),(8,.one (.ptr 25 0)),(9,.one (.ptr 26 0)),(12,.one (.int .i64 x.pl)),(13,.one (.int .i64 x.ed)),(14,.one (.bool (x.ok&&o.isSome))),(15,.one (.int .i64 (k:Nat))),(19,.one (.ptr 27 0)),(51,.one (.int .i64 (k:Nat)))]) (fun _=>oZ c C R xq pic down inter x1 x2 x3 F x.S [.cells (dQ C R 17 18 19) 44 false false,.cells (mC sW) 68 false false,.cells (mC M2) 68 false false,.cells (ti .i64 64 (o.getD fun _=>0)) 65 false false]) (fun _=>True) (fun _ _=>(hX (objs:=by repeat' (first|exact ay.nil|refine ay.cons (ff (by show 0<28;omega) (by show 14<28;omega) (by show 15<28;omega) (by show 16<28;omega) (by show 20<28;omega)) ?_|refine ay.cons (bI (by show 17<28;omega) (by show 18<28;omega) (by show 19<28;omega)) ?_|refine ay.flat ?_|refine ay.cons (by first|(simp[ah.bl,XC.ok,aE];done)|simp[ah.bl,XC.ok,aE, *]) ?_)))) ?_ (fun _ _=>?_)|refine zz ?_|refine zx (fun _=>?_) (fun _=>?_)|fail)
   ·cases hxo:x.ok<;>cases hos:o.isSome
    all_goals
     repeat' (first|refine zz ?_|refine zx (fun _=>?_) (fun _=>?_)|fail)
    all_goals exact⟨(),_,trivial,(b_ [0,1,2,3,4,5,6,7,8,9,10,11,12,13,14,15,16,17,18,19,20,21,22,23,24,25,26,28])⟩
   ·repeat' (first|refine zz ?_|refine zx (fun _=>?_) (fun _=>?_)|fail)
    refine WX.bZ (σ:=Nat) (fun j=>[(0,.one (.ptr 13 0)),(2,.one (.int .i64 (mb:Nat))),(5,.one (.ptr 24 0)),(8,.one (.ptr 25 0)),(9,.one (.ptr 26 0)),(12,.one (.int .i64 (x.pl+dw (sP L) j))),(13,.one (.int .i64 (x.ed+dw (sP (o.getD fun _=>0)) j))),(14,.one (.bool (x.ok&&o.isSome))),(15,.one (.int .i64 (k:Nat))),(19,.one (.ptr 27 0)),(21,.one (.int .i64 (j:Nat))),(51,.one (.int .i64 (k:Nat)))]) (fun _=>oZ c C R xq pic down inter x1 x2 x3 F x.S [.cells (dQ C R 17 18 19) 44 false false,.cells (mC sW) 68 false false,.cells (mC M2) 68 false false,.cells (ti .i64 64 (o.getD fun _=>0)) 65 false false]) (fun j=>1<=j/\j<=64) (fun j=>64-j) 1 ⟨Nat.le_refl 1,by omega⟩ (fun _ _=>(hX (objs:=by repeat' (first|exact ay.nil|refine ay.cons (ff (by show 0<28;omega) (by show 14<28;omega) (by show 15<28;omega) (by show 16<28;omega) (by show 20<28;omega)) ?_|refine ay.cons (bI (by show 17<28;omega) (by show 18<28;omega) (by show 19<28;omega)) ?_|refine ay.flat ?_|refine ay.cons (by first|(simp[ah.bl,XC.ok,aE];done)|simp[ah.bl,XC.ok,aE, *]) ?_)))) (b_ [0,1,2,3,4,5,6,7,8,9,10,11,12,13,14,15,16,17,18,19,20,21,22,23,24,25,26,27] (reg:=by(repeat' (first|exact ak.nil|refine ak.flat (by rw[show x.pl+dw (sP L) 1=x.pl from Int.add_zero x.pl];rfl) ?_|refine ak.flat (by rw[show x.ed+dw (sP (o.getD fun _=>0)) 1=x.ed from Int.add_zero x.ed];rfl) ?_|refine ak.flat rfl ?_|refine ak.cons rfl ?_|refine ak.sl rfl (by assumption) rfl ?_|refine ak.gL rfl rfl (by first|rfl|omega|(simp;done)|(simp;omega)) ?_));first|done|fail)) ?_
    intro j ⟨hj1,hj⟩ ih2
    have hsl:=lS (g:=L) (fun i _=>hLr i) hj
    have hsd:=lS (g:=o.getD fun _=>0) hDr hj
    by_cases h8:j<64
    ·have hLj:=hLr j
     have hDj:=hDr j h8
     have ml:(mC M2)[7+k*64+j]? = some (.int .i64 (L j)):=by
      rw[<-hM2l j h8,show 7+k*64+j=7+(64*k+j) by omega]
      exact Jo M2 (by omega)
     have hn1:x.pl+dw (sP L) (j+1)=x.pl+dw (sP L) j+max (L j) (0-L j):=by rw[dw,show sP L j=max (L j) (0-L j)from if_neg (by omega)];omega
     have hn2:x.ed+dw (sP (o.getD fun _=>0)) (j+1)=x.ed+dw (sP (o.getD fun _=>0)) j+max ((o.getD fun _=>0) j) (0-(o.getD fun _=>0) j):=by rw[dw,show sP (o.getD fun _=>0) j=max ((o.getD fun _=>0) j) (0-(o.getD fun _=>0) j)from if_neg (by omega)];omega
     repeat' (first
      |(refine qz ?_;first
       |refine ld (hc:=ml) ?_)
      |refine zz ?_|refine zx (fun _=>?_) (fun _=>?_)|fail)
     refine ih2 (j+1) _ _ _ (b_ [0,1,2,3,4,5,6,7,8,9,10,11,12,13,14,15,16,17,18,19,20,21,22,23,24,25,26,27] (reg:=by(repeat' (first|exact ak.nil|refine ak.flat (by rw[hn1];rfl) ?_|refine ak.flat (by rw[hn2];rfl) ?_|refine ak.flat rfl ?_|refine ak.cons rfl ?_|refine ak.sl rfl (by assumption) rfl ?_|refine ak.gL rfl rfl (by first|rfl|omega|(simp;done)|(simp;omega)) ?_));first|done|fail)) ⟨by omega,by omega⟩ (by omega)
    ·obtain rfl:j=64:=by omega
     repeat' (first
      |(refine qz ?_;first
       |refine mU (cs:=ti .i64 64 L) ?_ (hle:=by rw[aQ];omega) (hc:=hwin)
       |refine ld (hc:=cq2) ?_
       |refine ld (hc:=g2) ?_
       |refine cl ?_ (hi:=by exact hset _ _ rfl rfl rfl rfl rfl rfl))
      |refine zz ?_|refine zx (fun _=>?_) (fun _=>?_)|fail)
     refine ih1 _ _ _ (b_ [0,1,2,3,4,5,6,7,8,9,10,11,12,13,14,15,16,17,18,19,20,21,22,23,24,25,26]) (by omega) (by omega)
  ·obtain rfl:k=6:=by omega
   have eM:dp c.hd C R F mb q xq S = {xP c.hd C R F mb kd q' 6 with edge:=(pI c.hd C R F mb q' S 6).ok&&decide ((pI c.hd C R F mb q' S 6).ed<(pI c.hd C R F mb q' S 6).pl)}:=by unfold dp;rw[hkq]
   have eS:i7 c.hd C R F mb q xq S=(pI c.hd C R F mb q' S 6).S:=by unfold i7;rw[hkq]
   rw[eM,eS]
   obtain⟨x,hx⟩:∃x,pI c.hd C R F mb q' S 6=x:=⟨_,rfl⟩
   obtain⟨M,hM⟩:∃M,xP c.hd C R F mb kd q' 6=M:=⟨_,rfl⟩
   rw[hx,hM]
   cases hxo:x.ok
   ·repeat' (first
     |(refine qz ?_;first
      |refine fV ?_ (hle:=by rw[aQ]))
     |refine zz ?_|refine zx (fun _=>?_) (fun _=>?_)|fail)
    show aD _ _ _ _ _ _ _ _;refine kV [0,1,2,3,4,5,6,7,8,9,10,11,12,13,14,15,16,17,18,19,20,21,22,23] ?_ (hk:=by repeat' (first|exact ay.nil|refine ay.cons (ff (by show 0<24;omega) (by show 14<24;omega) (by show 15<24;omega) (by show 16<24;omega) (by show 20<24;omega)) ?_|refine ay.flat ?_|refine ay.cons (by first|(simp[ah.bl,XC.ok,aE];done)|simp[ah.bl,XC.ok,aE, *]) ?_))
    rfl
   ·by_cases hlt:x.ed<x.pl
    ·rw[decide_eq_true hlt]
     repeat' (first
      |(refine qz ?_;first
       |refine fV ?_ (hle:=by rw[aQ]))
      |refine zz ?_|refine zx (fun _=>?_) (fun _=>?_)|fail)
     show aD _ _ _ _ _ _ _ _;refine kV [0,1,2,3,4,5,6,7,8,9,10,11,12,13,14,15,16,17,18,19,20,21,22,23] ?_ (hk:=by repeat' (first|exact ay.nil|refine ay.cons (ff (by show 0<24;omega) (by show 14<24;omega) (by show 15<24;omega) (by show 16<24;omega) (by show 20<24;omega)) ?_|refine ay.flat ?_|refine ay.cons (by first|(simp[ah.bl,XC.ok,aE];done)|simp[ah.bl,XC.ok,aE, *]) ?_))
     rfl
    ·rw[decide_eq_false hlt]
     repeat' (first
      |(refine qz ?_;first
       |refine fV ?_ (hle:=by rw[aQ]))
      |refine zz ?_|refine zx (fun _=>?_) (fun _=>?_)|fail)
     show aD _ _ _ _ _ _ _ _;refine kV [0,1,2,3,4,5,6,7,8,9,10,11,12,13,14,15,16,17,18,19,20,21,22,23] ?_ (hk:=by repeat' (first|exact ay.nil|refine ay.cons (ff (by show 0<24;omega) (by show 14<24;omega) (by show 15<24;omega) (by show 16<24;omega) (by show 20<24;omega)) ?_|refine ay.flat ?_|refine ay.cons (by first|(simp[ah.bl,XC.ok,aE];done)|simp[ah.bl,XC.ok,aE, *]) ?_))
     rfl
end Go.Proofs.YtnkodcmkpfefhaaGreat
namespace Go.Xm
variable [aw]
variable {P:Program}
theorem XC.hH{n:Nat}{τ σ : Nat->Nat}(h:∀j,j<n -> τ j = σ j):∀{c:XC},c.ok n->c.ax τ = c.ax σ:=by
 intro c
 induction c<;>intro hc<;>simp_all [XC.ax,XC.ok]
theorem X1.hH{n:Nat}{τ σ : Nat->Nat}(h:∀j,j<n -> τ j = σ j){x:X1}(hx:x.ok n):x.ax τ = x.ax σ:=by
 cases x with
 | one c=>simp only[X1.ax,XC.hH h hx]
 | agg cs=>simp only[X1.ax];exact congrArg X1.agg (List.map_congr_left fun c hc=>XC.hH h (hx c hc))
theorem XV.hH{n:Nat}{τ σ : Nat->Nat}(h:∀j,j<n -> τ j = σ j){x:XV}(hx:x.bl n):x.ax τ = x.ax σ:=by
 cases x with
 | undef=>rfl
 | one c=>simp only[XV.ax,XC.hH h hx]
 | agg cs=>simp only[XV.ax];exact congrArg XV.agg (List.map_congr_left fun c hc=>XC.hH h (hx c hc))
 | tup xs=>simp only[XV.ax];exact congrArg XV.tup (List.map_congr_left fun c hc=>X1.hH h (hx c hc))
theorem ah.hH{n:Nat}{τ σ : Nat->Nat}(h:∀j,j<n -> τ j = σ j){x:ah}(hx:x.bl n):x.ax τ = x.ax σ:=by
 cases x with
 | dead=>rfl
 | cells vs e a b=>simp only[ah.ax];rw[List.map_congr_left fun c hc=>XC.hH h (hx c hc)]
 | map es=>simp only[ah.ax];rw[List.map_congr_left fun p hp=>by rw[X1.hH h (hx p hp).1,X1.hH h (hx p hp).2]]
theorem rz{f:FuncId}{args:List XV}{v:XV}{hs0 hs0':ai}(r:ai)(hc:aW P f args hs0 v hs0')(hl:hs0'.length=hs0.length)(ha:∀x∈args,x.bl hs0.length)(hk:ay hs0.length hs0)(hk':ay hs0.length hs0')(hv:v.bl hs0.length)(hro:eV hs0 hs0'=true){HS HS':ai}(e1:hs0++r=HS)(e2:hs0'++r=HS')(hb:Nat.blt HS'.length Mem.bound=true):aC.Sound P ⟨f,args,HS,v,HS',List.range hs0.length⟩:=by
 subst e1 e2
 have hid:∀N j,j<hs0.length->beyond id hs0.length N j=id j:=fun N j hj=>if_pos hj
 refine oo hc (ρ:=id) (by omega) ⟨fun j hj=>?_,fun _ _ _ _ _ _ _ _ h=>h,fun j o h=>hk.at o (List.mem_of_getElem? h),fun j o h => .inr ?_⟩ ha ?_ ?_ ⟨?_,fun j o h=>?_,fun i hi hn=>?_⟩ (qK hro) (fun i hi hn=>?_) hb ?_
 ·rw[List.length_append];exact Nat.lt_of_lt_of_le hj (Nat.le_add_right ..)
 ·rw[ah.eA,id,List.getElem?_append_left (by
   rcases Nat.lt_or_ge j hs0.length with g|g
   ·exact g
   ·rw[List.getElem?_eq_none g]at h;cases h)]
  exact h
 ·rw[show(fun x:XV=>x.ax id)=id from funext XV.eA,List.map_id]
 ·rw[XV.hH (hid _) hv,XV.eA]
 ·simp only[List.length_append,hl];omega
 ·have hj:j<hs0.length:=by
   rcases Nat.lt_or_ge j hs0'.length with g|g
   ·omega
   ·rw[List.getElem?_eq_none g]at h;cases h
  rw[hid _ j hj,ah.hH (hid _) (hk'.at o (List.mem_of_getElem? h)),ah.eA,id,List.getElem?_append_left (by omega)]
  exact h
 ·have hi2:hs0.length<=i:=Nat.le_of_not_lt fun g=>hn i g rfl
  rw[List.getElem?_append_right (by omega),List.getElem?_append_right hi2,hl]
 ·have hi2:hs0.length<=i:=Nat.le_of_not_lt fun g=>hn (List.mem_range.2 g)
  rw[List.getElem?_append_right (by omega),List.getElem?_append_right hi2,hl]
 ·rw[Nat.blt_eq]at hb ⊢
  rw[List.length_append]at hb
  omega
end Go.Xm
namespace Go.Proofs.YtnkodcmkpfefhaaGreat
open Go.Xm
variable [aw]
theorem nB{c:gg}{C R:Nat}{xq pic:Int}{down inter:Bool}{x1 x2 x3:ah}[aR x1][aR x2][aR x3]{F:Fr}{S:bO}{n:Nat}(hn:24<=n){r:ai}(h:ay n r):ay n (oZ c C R xq pic down inter x1 x2 x3 F S r):=by
 have k:∀i,i<24->i<n:=fun i hi=>by omega
 refine nD (by omega) (.cons (ff (k 0 (by omega)) (k 14 (by omega)) (k 15 (by omega)) (k 16 (by omega)) (k 20 (by omega))) (.flat (.flat (.flat (.flat (.flat (.flat (.cons ?_ (.flat (.flat (.flat h)))))))))))
 intro x hx
 simp only[List.mem_cons,List.not_mem_nil,or_false]at hx
 rcases hx with rfl|rfl|rfl|rfl|rfl
 ·trivial
 ·trivial
 ·exact k 21 (by omega)
 ·exact k 22 (by omega)
 ·exact k 23 (by omega)
theorem A7{c:gg}(hr:b7 c.hd){C R:Nat}(hC:1<=C/\C<=8)(hR:1<=R/\R<=8){xq pic:Int}(hxq : -1000<=xq/\xq<=1000){down inter:Bool}{x1 x2 x3:ah}[aR x1][aR x2][aR x3]{F:Fr}(hF:oV F){S S2:bO}(hSc:S.cols=(C:Nat))(hSr:S.rows=(R:Nat))(hSl:pH S){mb:Nat}(hmb:mb<C*R){q:Int}(hq:1<=q/\q<=31){M:Mb}(hM:dp c.hd C R F mb q xq S=M)(hS:i7 c.hd C R F mb q xq S=S2)(r:ai){HS HS':ai}(e1:oZ c C R xq pic down inter x1 x2 x3 F S r=HS)(e2:oZ c C R xq pic down inter x1 x2 x3 F S2 r=HS')(hb:Nat.blt HS'.length Mem.bound=true) :
 aC.Sound Tryz.prog ⟨75,[.one (.ptr 13 0),.agg (dQ C R 17 18 19),.one (.int .i64 (mb:Nat)),.one (.int .i64 q)],HS,.agg (mC M),HS',List.range 24⟩:=by
 subst hM hS
 have l1:∀S,(oZ c C R xq pic down inter x1 x2 x3 F S []).length=24:=fun _=>rfl
 refine rz r (x5 hr hC hR hxq down inter x1 x2 x3 hF hSc hSr hSl hmb hq) ((l1 _).trans (l1 _).symm) ?_ (nB (Nat.le_refl 24) .nil) (nB (Nat.le_refl 24) .nil) (bh.ok _) ?_ e1 e2 hb
 ·intro x hx
  simp only[List.mem_cons,List.not_mem_nil,or_false]at hx
  rcases hx with rfl|rfl|rfl|rfl
  ·show 13<24;omega
  ·exact bI (e:=0) (a:=true) (b:=true) (by show 17<24;omega) (by show 18<24;omega) (by show 19<24;omega)
  ·trivial
  ·trivial
 ·have hx:∀x:ah,(x.live||!x.live||x.own)=true:=fun x=>by cases x.live<;>rfl
  simp only[oZ,fe,List.cons_append,List.nil_append,eV,hx,Bool.true_and,Bool.and_true]
  rfl
theorem um(c:gg)(C R K i j k e:Nat)(qp pic:Int)(down inter:Bool){n:Nat}(h:n<139):(mT c C R K i j k e qp pic down inter)[n]? = (bX c)[n]?:=by
 unfold mT
 rw[List.getElem?_append_left (by rw[aT];exact h)]
theorem yK{c:gg}(hr:b7 c.hd){C R:Nat}(hcc:c.hd.cols=(C:Nat))(hC:1<=C/\C<=8)(hR:1<=R/\R<=8){xq pic:Int}(hpic:0<=pic/\pic<=1000)(hxq : -1000<=xq/\xq<=1000)(hw:c.wave=false){down:Bool}{x1 x2 x3:ah}[aR x1][aR x2][aR x3]{F:Fr}(hF:oV F){S S2:bO}(hSc:S.cols=(C:Nat))(hSr:S.rows=(R:Nat))(hSl:pH S){mb:Nat}(hmb:mb<C*R){q:Int}(hq:1<=q/\q<=31){M:Mb}(hM:dp c.hd C R F mb q xq S=M)(hS:i7 c.hd C R F mb q xq S=S2) :
 aW Tryz.prog 57 [.one (.ptr 13 0),.agg (dQ C R 17 18 19),.one (.int .i64 (mb:Nat)),.one (.int .i64 q)] (oZ c C R xq pic down false x1 x2 x3 F S []) (.agg (mC M)) (oZ c C R xq pic down false x1 x2 x3 F S2 []):=by
 have e0:(mT c C R 0 14 15 16 20 xq pic down false)[0]? = some (.int .i64 (C:Nat)):=by rw[<-hcc];rfl
 have e3:(mT c C R 0 14 15 16 20 xq pic down false)[131+2]? = some (.int .i64 c.far):=by rw[um _ _ _ _ _ _ _ _ _ _ _ _ (by omega),cy];rfl
 have e5:(mT c C R 0 14 15 16 20 xq pic down false)[131+4]? = some (.bool false):=by rw[um _ _ _ _ _ _ _ _ _ _ _ _ (by omega),cy,<-hw];rfl
 have ep:=mz c C R 0 14 15 16 20 xq pic down false 13
 have ei:=mz c C R 0 14 15 16 20 xq pic down false 16
 refine cO Tryz.func57 ?_
 repeat' (first
  |(refine qz ?_;first
   |refine qd (zs:=mC sW) (hz:=iZ) ?_
   |refine ld (hc:=e0) ?_
   |refine ld (hc:=e3) ?_
   |refine ld (hc:=e5) ?_
   |refine ld (hc:=ep) ?_
   |refine ld (hc:=ei) ?_
   |refine fV ?_ (hle:=by rw[fP])
   |refine cl ?_ (hi:=by exact o7 (by omega) (by omega) rfl)
   |refine cl ?_ (hi:=by exact A7 hr hC hR hxq hF hSc hSr hSl hmb hq hM hS _ rfl rfl rfl)
   |refine lO (cs:=mC M) ?_ (hs1:=by rw[aQ]) (hs2:=by rw[aQ]))
  |refine zz ?_|refine zx (fun _=>?_) (fun _=>?_)|fail)
 show aD _ _ _ _ _ _ _ _;refine kV [0,1,2,3,4,5,6,7,8,9,10,11,12,13,14,15,16,17,18,19,20,21,22,23] ?_ (hk:=by repeat' (first|exact ay.nil|refine ay.cons (ff (by show 0<24;omega) (by show 14<24;omega) (by show 15<24;omega) (by show 16<24;omega) (by show 20<24;omega)) ?_|refine ay.flat ?_|refine ay.cons (by first|(simp[ah.bl,XC.ok,aE];done)|simp[ah.bl,XC.ok,aE, *]) ?_))
 rfl
theorem yL{c:gg}(hr:b7 c.hd){C R:Nat}(hcc:c.hd.cols=(C:Nat))(hC:1<=C/\C<=8)(hR:1<=R/\R<=8){xq pic:Int}(hpic:0<=pic/\pic<=1000)(hxq : -1000<=xq/\xq<=1000)(hw:c.wave=false){down:Bool}{x1 x2 x3:ah}[aR x1][aR x2][aR x3]{F:Fr}(hF:oV F){S S2:bO}(hSc:S.cols=(C:Nat))(hSr:S.rows=(R:Nat))(hSl:pH S){mb:Nat}(hmb:mb<C*R){q:Int}(hq:1<=q/\q<=31){M:Mb}(hM:dp c.hd C R F mb q xq S=M)(hS:i7 c.hd C R F mb q xq S=S2)(r:ai){HS HS':ai}(e1:oZ c C R xq pic down false x1 x2 x3 F S r=HS)(e2:oZ c C R xq pic down false x1 x2 x3 F S2 r=HS')(hb:Nat.blt HS'.length Mem.bound=true) :
 aC.Sound Tryz.prog ⟨57,[.one (.ptr 13 0),.agg (dQ C R 17 18 19),.one (.int .i64 (mb:Nat)),.one (.int .i64 q)],HS,.agg (mC M),HS',List.range 24⟩:=by
 have l1:∀S,(oZ c C R xq pic down false x1 x2 x3 F S []).length=24:=fun _=>rfl
 refine rz r (yK hr hcc hC hR hpic hxq hw hF hSc hSr hSl hmb hq hM hS) ((l1 _).trans (l1 _).symm) ?_ (nB (Nat.le_refl 24) .nil) (nB (Nat.le_refl 24) .nil) (bh.ok _) ?_ e1 e2 hb
 ·intro x hx
  simp only[List.mem_cons,List.not_mem_nil,or_false]at hx
  rcases hx with rfl|rfl|rfl|rfl
  ·show 13<24;omega
  ·exact bI (e:=0) (a:=true) (b:=true) (by show 17<24;omega) (by show 18<24;omega) (by show 19<24;omega)
  ·trivial
  ·trivial
 ·have hx:∀x:ah,(x.live||!x.live||x.own)=true:=fun x=>by cases x.live<;>rfl
  simp only[oZ,fe,List.cons_append,List.nil_append,eV,hx,Bool.true_and,Bool.and_true]
  rfl
def iJ(c:gg)(tl:List XC):List XC:=bX c++tl
theorem qy(c:gg)(tl:List XC)(n:Nat):(iJ c tl)[139+n]? = tl[n]?:=by
 unfold iJ
 rw[List.getElem?_append_right (by rw[aT];omega),aT,Nat.add_sub_cancel_left]
theorem n_(c:gg)(tl:List XC)(n:Nat)(x:XC):(iJ c tl).set (139+n) x=iJ c (tl.set n x):=by
 unfold iJ
 rw[List.set_append_right _ _ (by rw[aT];omega),aT,Nat.add_sub_cancel_left]
theorem DZ(c:gg)(tl:List XC)(n s:Nat):((iJ c tl).drop (139+n)).take s=(tl.drop n).take s:=by
 unfold iJ
 rw[List.drop_append,List.drop_eq_nil_of_le (by rw[aT];omega),aT,Nat.add_sub_cancel_left,List.nil_append]
theorem DX(c:gg)(tl:List XC):((iJ c tl).drop 0).take 139=bX c:=by
 unfold iJ
 rw[List.drop_zero,List.take_append_of_le_length (by rw[aT];exact Nat.le_refl _),List.take_of_length_le (by rw[aT];exact Nat.le_refl _)]
theorem kh(c:gg)(tl:List XC):(iJ c tl).length=139+tl.length:=by unfold iJ;rw[List.length_append,aT]
theorem GP{c:gg}{tl:List XC}{m:Nat}(h:∀x∈tl,x.ok m){t:TypeId}{a b:Bool}:(ah.cells (iJ c tl) t a b).bl m:=fun x hx=>by
 rcases List.mem_append.1 hx with hx|hx
 ·exact XC.bm (List.all_eq_true.1 (dB c) x hx) m
 ·exact h x hx
theorem tb(h:Hd)(C R:Nat)(F:Fr)(mb:Nat)(q xq:Int)(S:bO):Im (dp h C R F mb q xq S)/\alone (dp h C R F mb q xq S)=true:=by
 obtain⟨kd,q',hkq⟩:∃kd q',o3 C R F mb q xq=(kd,q'):=⟨_,_,rfl⟩
 have hk:kd=3\/kd=4:=by
  unfold o3 at hkq
  split at hkq<;>cases hkq<;>omega
 have hkd:(dp h C R F mb q xq S).kind=kd:=by unfold dp;rw[hkq];rfl
 refine⟨⟨by rw[hkd];omega,?_,?_⟩,by unfold alone;rw[hkd];exact decide_eq_true hk⟩
 ·intro k
  show dk (0:Int)/\dk (0:Int)
  unfold dk;omega
 ·intro i hi
  unfold dp
  rw[hkq]
  show -2047<=kb (qG h C R F mb q') (fun _=>0) 6 i/\kb (qG h C R F mb q') (fun _=>0) 6 i<=2047
  unfold kb
  split
  ·exact qH h C R F mb q' _ _
  ·omega
theorem Ck{c:gg}(ht:c.target=0){C R:Nat}{xq pic:Int}{down inter:Bool}{x1 x2 x3:ah}[aR x1][aR x2][aR x3]{F:Fr}{S:bO}(n:Int):aW Tryz.prog 60 [.one (.ptr 13 0),.one (.int .i64 n)] (oZ c C R xq pic down inter x1 x2 x3 F S []) (.tup []) (oZ c C R xq pic down inter x1 x2 x3 F S []):=by
 have e7:(mT c C R 0 14 15 16 20 xq pic down inter)[131+7]? = some (.int .i64 0):=by rw[um _ _ _ _ _ _ _ _ _ _ _ _ (by omega),cy,<-ht];rfl
 refine cO Tryz.func60 ?_
 repeat' (first
  |(refine qz ?_;first
   |refine ld (hc:=e7) ?_)
  |refine zz ?_|refine zx (fun _=>?_) (fun _=>?_)|fail)
 show aD _ _ _ _ _ _ _ _;refine kV [0,1,2,3,4,5,6,7,8,9,10,11,12,13,14,15,16,17,18,19,20,21,22,23] ?_ (hk:=by repeat' (first|exact ay.nil|refine ay.cons (ff (by show 0<24;omega) (by show 14<24;omega) (by show 15<24;omega) (by show 16<24;omega) (by show 20<24;omega)) ?_|refine ay.flat ?_|refine ay.cons (by first|(simp[ah.bl,XC.ok,aE];done)|simp[ah.bl,XC.ok,aE, *]) ?_))
 rfl
theorem Cl{c:gg}(ht:c.target=0){C R:Nat}{xq pic:Int}{down inter:Bool}{x1 x2 x3:ah}[aR x1][aR x2][aR x3]{F:Fr}{S:bO}{n:Int}(r:ai){HS:ai}(e1:oZ c C R xq pic down inter x1 x2 x3 F S r=HS)(hb:Nat.blt HS.length Mem.bound=true):aC.Sound Tryz.prog ⟨60,[.one (.ptr 13 0),.one (.int .i64 n)],HS,.tup [],HS,List.range 24⟩:=by
 refine rz r (Ck (C:=C) (R:=R) (xq:=xq) (pic:=pic) (down:=down) (inter:=inter) (x1:=x1) (x2:=x2) (x3:=x3) (F:=F) (S:=S) ht n) rfl ?_ (nB (Nat.le_refl 24) .nil) (nB (Nat.le_refl 24) .nil) (by simp[XV.bl]) ?_ e1 e1 hb
 ·intro x hx
  simp only[List.mem_cons,List.not_mem_nil,or_false]at hx
  rcases hx with rfl|rfl
  ·show 13<24;omega
  ·trivial
 ·have hx:∀x:ah,(x.live||!x.live||x.own)=true:=fun x=>by cases x.live<;>rfl
  simp only[oZ,fe,List.cons_append,List.nil_append,eV,hx,Bool.true_and,Bool.and_true]
end Go.Proofs.YtnkodcmkpfefhaaGreat
