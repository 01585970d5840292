/-
  A part of the proof: FtH.
-/
import Derived.Test.YthdciapjllppjaaGreatFaX
import Derived.Test.YthdciapjllppjaaGreatFaZ
import Derived.Test.YthdciapjllppjaaGreatFaZA
set_option maxRecDepth 10000
set_option maxHeartbeats 8000000
set_option linter.unusedVariables false
set_option linter.unusedSectionVars false
set_option linter.unusedSimpArgs false
open Go.Proofs.Tryz (prog)
namespace Go.Proofs.YthdciapjllppjaaGreat
open Go.Xm
variable [av]
theorem H7{m:Mb}{b:Bool}(h:alone m=b){HS:ah}(hb:Nat.blt HS.length Mem.bound=true):aA.Sound prog ⟨42,[.agg (mC m)],HS,.one (.bool b),HS,[]⟩:=by
 subst h;exact qv hb
theorem F6{c r:Int}{L:List (List XC)}{k n:Nat}(mb:Int){m:Mb}(hm:alone m=true) :
 bm prog 41 [.agg (pt c r (.lsl 0 k 0 n n 0)),.one (.int .i64 mb),.agg (mC m)] [.late L] (.one (.bool false)) [.late L]:=by
 refine cO Tryz.func41 ?_
 repeat' (first
  |(refine qz ?_;first
   |refine lg ?_ (hle:=by rw[aY])
   |refine cl ?_ (hi:=by exact H7 hm rfl))
  |refine zz ?_|refine zx (fun _=>?_) (fun _=>?_)|fail)
 show aE _ _ _ _ _ _ _ _;refine kV [0] ?_;rfl
theorem IY{c r:Int}{L:List (List XC)}{k n:Nat}{mb:Int}{m:Mb}(hm:alone m=true){HS:ah}{i:Nat}(hi:HS[i]? = some (.late L))(hbd:Nat.blt HS.length Mem.bound=true) :
 aA.Sound prog ⟨41,[.agg (pt c r (.lsl i k 0 n n 0)),.one (.int .i64 mb),.agg (mC m)],HS,.one (.bool false),HS,[]⟩:=
 f_ [i] (F6 (L:=L) (k:=k) (n:=n) mb hm) (by simp) (.flat hi .nil) (.flat .nil) (.cons (Ee (show 0<1 by omega)) (.flat (.flat .nil))) (.cons rfl (.flat (.flat .nil))) trivial rfl hbd rfl
def wQ(fT:Int->Mb->Bool)(first:Int)(ms:List Mb)(m:List Bool):Nat->List Bool
 | 0=>m
 | k+1=>(wQ fT first ms m k).set (first.toNat+k) (fT (first+(k:Nat)) (ms.getD k default))
theorem um(fT:Int->Mb->Bool)(first:Int)(ms:List Mb)(m:List Bool):∀k,(wQ fT first ms m k).length=m.length
 | 0=>rfl
 | k+1=>by rw[wQ,List.length_set,um fT first ms m k]
structure OG where
 m:List Bool
 at_:Nat
 last:Int
def pT(fT:Int->Mb->Bool)(fs:List Fa)(sz:List Int)(i:Nat)(gs:List Gr)(x0:OG):Nat->OG
 | 0=>x0
 | j+1=>⟨if gW (fs.getD (pT fT fs sz i gs x0 j).at_ default) (sz.getD (pT fT fs sz i gs x0 j).at_ 0)=true then(pT fT fs sz i gs x0 j).m else wQ fT (gs.getD j default).first (gs.getD j default).ms (pT fT fs sz i gs x0 j).m (gs.getD j default).ms.length,(pT fT fs sz i gs x0 j).at_+1,if(fs.getD (pT fT fs sz i gs x0 j).at_ default).lost=true then(pT fT fs sz i gs x0 j).last else(i:Nat)⟩
structure SP where
 out:List (List Bool)
 i6:List Bool
 at_:Nat
 last:Int
def gC(fT:List Bool->Int->Mb->Bool)(fs:List Fa)(sz:List Int)(n:Nat)(ps:List Pc):Nat->SP
 | 0=>⟨[],List.replicate n true,0,-1⟩
 | i+1=>⟨(gC fT fs sz n ps i).out++[(pT (fT (gC fT fs sz n ps i).i6) fs sz i (ps.getD i default).gs ⟨List.replicate n true,(gC fT fs sz n ps i).at_,(gC fT fs sz n ps i).last⟩ (ps.getD i default).gs.length).m],(pT (fT (gC fT fs sz n ps i).i6) fs sz i (ps.getD i default).gs ⟨List.replicate n true,(gC fT fs sz n ps i).at_,(gC fT fs sz n ps i).last⟩ (ps.getD i default).gs.length).m,(pT (fT (gC fT fs sz n ps i).i6) fs sz i (ps.getD i default).gs ⟨List.replicate n true,(gC fT fs sz n ps i).at_,(gC fT fs sz n ps i).last⟩ (ps.getD i default).gs.length).at_,(pT (fT (gC fT fs sz n ps i).i6) fs sz i (ps.getD i default).gs ⟨List.replicate n true,(gC fT fs sz n ps i).at_,(gC fT fs sz n ps i).last⟩ (ps.getD i default).gs.length).last⟩
theorem uj(fT:Int->Mb->Bool)(fs:List Fa)(sz:List Int)(i:Nat)(gs:List Gr)(x0:OG):∀j,(pT fT fs sz i gs x0 j).at_=x0.at_+j
 | 0=>rfl
 | j+1=>by rw[pT];show _+1=_;rw[uj fT fs sz i gs x0 j];omega
theorem tG(fT:Int->Mb->Bool)(fs:List Fa)(sz:List Int)(i:Nat)(gs:List Gr)(x0:OG):∀j,(pT fT fs sz i gs x0 j).m.length=x0.m.length
 | 0=>rfl
 | j+1=>by
   rw[pT];show(if _ then _ else _:List Bool).length=_;split
   ·exact tG fT fs sz i gs x0 j
   ·rw[um,tG fT fs sz i gs x0 j]
theorem uk(fT:Int->Mb->Bool)(fs:List Fa)(sz:List Int)(i:Nat)(gs:List Gr)(x0:OG)(h0 : -1<=x0.last/\x0.last<=i):∀j,-1<=(pT fT fs sz i gs x0 j).last/\(pT fT fs sz i gs x0 j).last<=i
 | 0=>h0
 | j+1=>by
   have:=uk fT fs sz i gs x0 h0 j;rw[pT];show -1<=(if _ then _ else _:Int)/\(if _ then _ else _:Int)<=_;split<;>omega
theorem yC(fT:List Bool->Int->Mb->Bool)(fs:List Fa)(sz:List Int)(n:Nat)(ps:List Pc):∀i,(gC fT fs sz n ps i).out.length=i/\(gC fT fs sz n ps i).i6.length=n/\(-1<=(gC fT fs sz n ps i).last/\(gC fT fs sz n ps i).last<(i:Nat))
 | 0=>⟨rfl,List.length_replicate,by show(-1:Int) <= -1/\(-1:Int)<((0:Nat):Int);omega⟩
 | i+1=>by
   obtain⟨h1,h2,h3,h4⟩:=yC fT fs sz n ps i;have hl:=uk (fT (gC fT fs sz n ps i).i6) fs sz i (ps.getD i default).gs ⟨List.replicate n true,(gC fT fs sz n ps i).at_,(gC fT fs sz n ps i).last⟩ ⟨h3,by show(gC fT fs sz n ps i).last<=_;omega⟩ (ps.getD i default).gs.length;refine⟨?_,?_,?_⟩
   ·rw[gC];show(_++[_]).length=_;rw[List.length_append,h1];rfl
   ·rw[gC];show(pT _ _ _ _ _ _ _).m.length=_;rw[tG];exact List.length_replicate
   ·rw[gC];show -1<=(pT _ _ _ _ _ _ _).last/\(pT _ _ _ _ _ _ _).last<_;omega
theorem AQ{b:Bool}{c:XC}{n:Nat}{e:TypeId}{x y:Bool}(h:c.ok n):(aj.cells [.bool b,c] e x y).bt n:=Gn h
theorem L_(fT:List Bool->Int->Mb->Bool)(fs:List Fa)(sz:List Int)(n:Nat)(ps:List Pc):∀i,(bl (List.replicate n true)::(gC fT fs sz n ps i).out.map bl)[i]? = some (bl (gC fT fs sz n ps i).i6)
 | 0=>rfl
 | i+1=>by
   have h1:=(yC fT fs sz n ps i).1;rw[List.getElem?_cons_succ,gC];show((_++[_]).map bl)[i]? = _;rw[List.map_append,List.getElem?_append_right (by rw[List.length_map,h1];exact Nat.le_refl _),List.length_map,h1,Nat.sub_self];rfl
theorem jP{τ : Nat->Nat}{HS:ah}{i:Nat}{ls:List Nat}{hs:ah}{L:List (List XC)}{g n:Nat}{b x y:Bool}{c:XC}{vs:List XC}{e:TypeId}(hc:cy L g c vs n)(hg : τ g=g)(hi:HS[i]? = some (.cells [.bool b,c] e x y))(r:af τ HS ls hs):af τ HS (i::ls) (.cells [.bool b,c] e x y::hs):=by
 refine af.cons ?_ r;rw[hi];simp only[aj.aC,List.map_cons,List.map_nil,hc.id hg];rfl
theorem yx(l:List Bool)(m:Nat):∀c∈bl l,c.f7 m=true:=fun c hc=>by
 obtain⟨b,_,rfl⟩:=List.mem_map.1 hc;rfl
def sM(c r:Int)(n:Nat):Nat->List XC
 | 0=>[]
 | i+1=>sM c r n i++pt c r (.lsl 0 (i+1) 0 n n 0)
theorem yF(c r:Int)(n:Nat):∀i,(sM c r n i).length=i*3
 | 0=>rfl
 | i+1=>by rw[sM,List.length_append,yF c r n i];show i*3+3=_;omega
theorem c7(c r:Int)(n:Nat):∀i,∀x∈sM c r n i,x.f7 (i+1)=true
 | 0=>fun x h=>by cases h
 | i + 1=>fun x h=>by
   rw[sM]at h
   rcases List.mem_append.1 h with h|h
   ·exact XC.kp (by omega) (c7 c r n i x h)
   ·simp only[List.mem_cons,List.not_mem_nil,or_false]at h
    rcases h with rfl|rfl|rfl
    ·rfl
    ·rfl
    ·simp only[XC.f7,Nat.blt_eq];omega
theorem QV:aK prog 75 (pt 0 0 .nils):=by
 show aK prog 75 [.int .i64 0,.int .i64 0,.nils]
 infer_instance
theorem Ae{s : wC}(hs:xd s){L F:List (List XC)}{k np n:Nat}(hp:po L k s.ps)(hnp:s.ps.length=np)(hn:s.hd.cols*s.hd.rows=(n:Nat)){sz:List Int}{ob1:aj}(hr1:RO ob1 .i64 sz){cp:nQ}(hsl:sz.length<=1000){l:List mA}{fs:List Fa}(hf:gm F l fs){d:XC}(hd:cy F 2 d (fl cK l) fs.length)(hfl:∀i,(fs.getD i default).mask.length<=1000000)(hfn:fs.length<=1000)
 {Q:Mb->Prop}(fT:List Bool->Int->Mb->Bool) (hFrom:∀(i6:List Bool) (mb:Int) (m:Mb),i6.length=n->0<=mb/\mb<n->Q m->jc m->∀(LL:List (List XC)) (kk:Nat),LL[kk]? = some (bl i6)->∀(HS:ah) (i:Nat),HS[i]? = some (.late LL)->Nat.blt HS.length Mem.bound=true->aA.Sound prog ⟨41,[.agg (pt s.hd.cols s.hd.rows (.lsl i kk 0 n n 0)),.one (.int .i64 mb),.agg (mC m)],HS,.one (.bool (fT i6 mb m)),HS,[]⟩)
 (hQ:∀i j,i<s.ps.length->j<(s.ps.getD i default).gs.length->gW (fs.getD ((gC fT fs sz n s.ps i).at_+j) default) (sz.getD ((gC fT fs sz n s.ps i).at_+j) 0)=false->∀m∈((s.ps.getD i default).gs.getD j default).ms,Q m) {x:SP}(hx:gC fT fs sz n s.ps np=x) :
 bm prog 21 [.agg (d9 s.hd (.lsl 0 k 0 np np 0)),.one (.slice 1 0 sz.length cp),.one d] [.late L,ob1,.late F] (.one (.lsl 3 (np+1) 0 (x.last+1).toNat np 0)) [.late L,ob1,.late F,.late (bl (List.replicate n true)::x.out.map bl++[sM s.hd.cols s.hd.rows n np])]:=by
 have hfo:=hr1.flat;have hmany:=hs.many;have hcr:=m9 hs;obtain⟨c0,c1⟩:=hs.cols;obtain⟨r0,r1⟩:=hs.rows;have hc8:1<=s.hd.cols/\s.hd.cols<=8:=by omega
 have hr8:1<=s.hd.rows/\s.hd.rows<=8:=by omega
 have hn9:1<=n/\n<=9:=by omega
 have hdok:∀m,d.ok (m+3):=fun m=>hd.ok (by omega)
 obtain⟨pl,hpl,hpll,hpall⟩:=hp
 have hatA:∀i,i<=np->(gC fT fs sz n s.ps i).at_<=9*i:=fun i=>by
  induction i with
  | zero=>exact fun _=>Nat.le_refl _
  | succ i ih=>
    intro h;have:=ih (by omega);have hw:=(hs.pics i (by omega)).few;show(pT _ _ _ _ _ _ _).at_<=_;rw[uj];show(gC fT fs sz n s.ps i).at_+_<=_;omega
 refine cO Tryz.func21 ?_;refine WX.ghost rfl ?_;refine WX.bU rfl ?_
 repeat' (first
  |(refine qz ?_;first
   |refine ld (c := .int .i64 s.hd.cols) ?_
   |refine ld (c := .int .i64 s.hd.rows) ?_
   |refine cl ?_ (hi:=by exact Ef hc8 hr8 hn (by omega) rfl nL nA rfl))
  |refine eY 3 ?_|refine zz ?_|refine zx (fun _=>?_) (fun _=>?_)|fail)
 refine⟨?_⟩
 refine WX.pc (L:=[]) (vs:=bl (List.replicate n true)) (us:=bl (List.replicate n true)) 6 3 n (.exact n) [(1,.one (.slice 1 0 sz.length cp)),(2,.one d),(3,.one (.ptr 5 0)),(7,.one .nils),(8,.one (.ptr 7 0))] [.late L,ob1,.late F,.late [bl (List.replicate n true)],.dead,.cells (d9 s.hd (.lsl 0 k 0 np np 0)) 36 false false,.dead,.cells (pt s.hd.cols s.hd.rows (.lsl 3 0 0 n n 0)) 75 false false] (yx _ 0) (.inl ⟨n,rfl,Nat.le_refl _⟩) (by exact rfl) (hv:=dM (yx _ 0) 3) (hH:=by
  repeat' (first|exact aO.nil|refine aO.ghost ?_|refine aO.flat rfl ?_|refine aO.cells rfl (cU.same (fq (by simp[XC.iA]))) ?_|refine aO.cells rfl (cU.cons (.same trivial) (.cons (.same trivial) (.cons .uC (.same (fun _ h=>nomatch h))))) ?_|refine aO.dead ?_)) (hR:=by
  repeat' (first|exact bG.nil|refine bG.flat rfl ?_|refine bG.one rfl (dF.same (cy.iA (by assumption) (by decide))) ?_|refine bG.one rfl (dF.same (by first|trivial|(simp[XC.iA];done))) ?_)) (hok:=(stM (objs:=by repeat' (first|exact ak.nil|refine ak.flat ?_|refine ak.cons (bC (show 0<_ from Nat.le_of_ble_eq_true rfl)) ?_|refine ak.cons (ek (cq (c7 _ _ _ _) (Nat.le_of_ble_eq_true rfl))) ?_|refine ak.cons trivial ?_|refine ak.cons (by first|(simp[aj.bt,XC.ok];done)|(simp[aj.bt,XC.ok, *];done)) ?_)))) (h:=?_)
 repeat' (first
  |(refine qz ?_;first
   |refine ld (c := .lsl 0 k 0 np np 0) ?_ (hc:=zg _ _)
   |refine nN ?_)
  |refine zz ?_|refine zx (fun _=>?_) (fun _=>?_)|fail)
 refine WX.bN (σ:=Nat) (fun i=>[(1,.one (.slice 1 0 sz.length cp)),(2,.one d),(3,.one (.ptr 5 0)),(8,.one (.ptr 7 0)),(28,.one (.lsl 0 k 0 np np 0)),(29,.one (.int .i64 (np:Nat))),(7,dV 4 i 3),(9,.one (.int .i64 ((gC fT fs sz n s.ps i).at_:Nat))),(10,.one (.int .i64 (gC fT fs sz n s.ps i).last)),(30,.one (.int .i64 (i:Nat)))]) (fun i=>[.late L,ob1,.late F,.late (bl (List.replicate n true)::(gC fT fs sz n s.ps i).out.map bl),bu 75 ((sM s.hd.cols s.hd.rows n i).map (·.self 3)),.cells (d9 s.hd (.lsl 0 k 0 np np 0)) 36 false false,.dead,.cells (pt s.hd.cols s.hd.rows (.lsl 3 i 0 n n 0)) 75 false false]) (fun i=>i<=np) (fun i=>np-i) 0 (Nat.zero_le _) (fun i _=>(stM (objs:=by repeat' (first|exact ak.nil|refine ak.flat ?_|refine ak.cons (bC (show 0<_ from Nat.le_of_ble_eq_true rfl)) ?_|refine ak.cons (ek (cq (c7 _ _ _ _) (Nat.le_of_ble_eq_true rfl))) ?_|refine ak.cons trivial ?_|refine ak.cons (by first|(simp[aj.bt,XC.ok];done)|(simp[aj.bt,XC.ok, *];done)) ?_)))) (bq [0,1,2,3,4,5,6,7] (obj:=by(repeat' (first|exact af.nil|refine aH rfl rfl ?_|refine c9 (c7 _ _ _ _) rfl rfl ?_|refine oz ?_));first|done|fail) (reg:=by(repeat' (first|exact ae.nil|refine ae.gO rfl (by assumption) rfl ?_|refine rz ?_|refine ae.sl rfl (by assumption) rfl ?_));first|done|fail)) ?_;intro i hi ih;obtain⟨h1,h2,h3,h4⟩:=yC fT fs sz n s.ps i;have hQi:=hQ i;have hnx:gC fT fs sz n s.ps (i+1)=⟨(gC fT fs sz n s.ps i).out++[(pT (fT (gC fT fs sz n s.ps i).i6) fs sz i (s.ps.getD i default).gs ⟨List.replicate n true,(gC fT fs sz n s.ps i).at_,(gC fT fs sz n s.ps i).last⟩ (s.ps.getD i default).gs.length).m],(pT (fT (gC fT fs sz n s.ps i).i6) fs sz i (s.ps.getD i default).gs ⟨List.replicate n true,(gC fT fs sz n s.ps i).at_,(gC fT fs sz n s.ps i).last⟩ (s.ps.getD i default).gs.length).m,(pT (fT (gC fT fs sz n s.ps i).i6) fs sz i (s.ps.getD i default).gs ⟨List.replicate n true,(gC fT fs sz n s.ps i).at_,(gC fT fs sz n s.ps i).last⟩ (s.ps.getD i default).gs.length).at_,(pT (fT (gC fT fs sz n s.ps i).i6) fs sz i (s.ps.getD i default).gs ⟨List.replicate n true,(gC fT fs sz n s.ps i).at_,(gC fT fs sz n s.ps i).last⟩ (s.ps.getD i default).gs.length).last⟩:=rfl;have hold:(bl (List.replicate n true)::(gC fT fs sz n s.ps i).out.map bl)[i]? = some (bl (gC fT fs sz n s.ps i).i6):=L_ ..;have hatB:=hatA i hi
 obtain⟨y,hy⟩:∃y,gC fT fs sz n s.ps i=y:=⟨_,rfl⟩
 rw[hy]at hatB h1 h2 h3 h4 hQi hnx hold ⊢;obtain⟨out,i6,at0,last0⟩:=y;have h1:out.length=i:=h1;have h2:i6.length=n:=h2;have h3 : -1<=last0:=h3;have h4:last0<(i:Nat):=h4
 by_cases hlt:i<np
 ·have hlt' : i<s.ps.length:=by omega
  obtain⟨a1,a2,a3⟩:=hpall i hlt';have hsf:=vf (ps:=s.ps) a1 a2 0;have hpo:=hs.pics i hlt';have hQi:=fun j=>hQi j hlt'
  obtain⟨p,hpe⟩:∃p,s.ps.getD i default=p:=⟨_,rfl⟩
  obtain⟨a,hae⟩:∃a,pl.getD i default=a:=⟨_,rfl⟩
  have hae':pl.getD (i:Int).toNat default=a:=hae;rw[hpe]at a3 hsf hpo hQi hnx;rw[hae]at a3 hsf;have hsf:(nK (pl.getD (i:Int).toNat default)).map (·.self 0)=sT p.ph (.lsl 0 a.k 0 p.gs.length p.gs.length 0):=by rw[hae'];exact hsf
  have hlt2:i<pl.length:=by omega
  have hfew:=hpo.few;have hgs:=hpo.gs;have hall:(((s.hd.cols*s.hd.rows).toNat:Nat):Int)=(n:Nat):=by omega
  rw[hall]at hgs;obtain⟨gl,gl1,gl2,gl3⟩:=a3
  obtain⟨P,hP⟩:∃P,p.ph=P:=⟨_,rfl⟩
  rw[hP]at hsf hgs
  obtain⟨cg,hcg⟩:∃f:Nat->OG,pT (fT i6) fs sz i p.gs ⟨List.replicate n true,at0,last0⟩=f:=⟨_,rfl⟩
  have hcgl:∀j,(cg j).m.length=n:=fun j=>by rw[<-hcg,tG];exact List.length_replicate
  have hcga:∀j,(cg j).at_=at0+j:=fun j=>by rw[<-hcg,uj]
  have hcgz:∀j,-1<=(cg j).last/\(cg j).last<=(i:Nat):=fun j=>by rw[<-hcg];exact uk _ _ _ _ _ _ ⟨h3,by show last0<=_;omega⟩ j
  have hcg0:cg 0=⟨List.replicate n true,at0,last0⟩:=by rw[<-hcg];rfl
  have hcgs:∀j,cg (j+1)=⟨if gW (fs.getD (cg j).at_ default) (sz.getD (cg j).at_ 0)=true then(cg j).m else wQ (fT i6) (p.gs.getD j default).first (p.gs.getD j default).ms (cg j).m (p.gs.getD j default).ms.length,(cg j).at_+1,if(fs.getD (cg j).at_ default).lost=true then(cg j).last else(i:Nat)⟩:=fun j=>by rw[<-hcg];rfl
  rw[hcg]at hnx;have hat0:at0<=9*i:=hatB
  repeat' (first
   |(refine qz ?_;first
    |refine nN ?_
    |refine sP ?_
    |refine nH (zs:=sT ⟨0,false,false,0⟩ .nils) (hz:=sI) ?_
    |refine kn (enc:=nK) ?_ hpl hlt2 (hc':=hsf)
    |refine ld (c := .int .i64 s.hd.cols) ?_
    |refine ld (c := .int .i64 s.hd.rows) ?_
    |refine cl ?_ (hi:=by exact Ef hc8 hr8 hn (by omega) rfl nL nA rfl))
   |refine zz ?_|refine zx (fun _=>?_) (fun _=>?_)|fail)
  refine WX.bN (σ:=Nat) (fun j=>[(1,.one (.slice 1 0 sz.length cp)),(2,.one d),(3,.one (.ptr 5 0)),(8,.one (.ptr 7 0)),(28,.one (.lsl 0 k 0 np np 0)),(29,.one (.int .i64 (np:Nat))),(7,dV 4 i 3),(30,.one (.int .i64 (i:Nat))),(11,.one (.int .i64 (i:Nat))),(13,.one (.ptr 10 0)),(43,.one (.lsl 0 a.k 0 p.gs.length p.gs.length 0)),(44,.one (.int .i64 (p.gs.length:Nat))),(9,.one (.int .i64 ((cg j).at_:Nat))),(10,.one (.int .i64 (cg j).last)),(45,.one (.int .i64 (j:Nat)))]) (fun j=>[.late L,ob1,.late F,.late (bl (List.replicate n true)::out.map bl),bu 75 ((sM s.hd.cols s.hd.rows n i).map (·.self 3)),.cells (d9 s.hd (.lsl 0 k 0 np np 0)) 36 false false,.dead,.cells (pt s.hd.cols s.hd.rows (.lsl 3 i 0 n n 0)) 75 false false,.dead,.cells (bl (cg j).m) 4 false false,.cells (pt s.hd.cols s.hd.rows (.slice 9 0 n (.exact n))) 75 false false]) (fun j=>j<=p.gs.length) (fun j=>p.gs.length-j) 0 (Nat.zero_le _) (fun j _=>(stM (objs:=by repeat' (first|exact ak.nil|refine ak.flat ?_|refine ak.cons (bC (show 0<_ from Nat.le_of_ble_eq_true rfl)) ?_|refine ak.cons (ek (cq (c7 _ _ _ _) (Nat.le_of_ble_eq_true rfl))) ?_|refine ak.cons (AQ (cy.ok (by assumption) (Nat.le_of_ble_eq_true rfl))) ?_|refine ak.cons trivial ?_|refine ak.cons (by first|(simp[aj.bt,XC.ok];done)|(simp[aj.bt,XC.ok, *];done)) ?_)))) (bq [0,1,2,3,4,5,6,7,8,9,10] (obj:=by(repeat' (first|exact af.nil|refine aH rfl rfl ?_|refine c9 (c7 _ _ _ _) rfl rfl ?_|refine af.flat (by rw[hcg0];rfl) ?_|refine oz ?_));first|done|fail) (reg:=by(repeat' (first|exact ae.nil|refine ae.gO rfl (by assumption) rfl ?_|refine ae.flat (by rw[hcg0];rfl) ?_|refine rz ?_|refine ae.sl rfl (by assumption) rfl ?_));first|done|fail)) ?_;intro j hj ih2;have hxl:=hcgl j;have hxa:=hcga j;obtain⟨hz1,hz2⟩:=hcgz j;have hxs:=hcgs j
  obtain⟨x1,hx1⟩:∃x,cg j=x:=⟨_,rfl⟩
  rw[hx1]at hxl hxa hz1 hz2 hxs ⊢;obtain⟨m0,at1,last1⟩:=x1;have hxl:m0.length=n:=hxl;have hxa:at1=at0+j:=hxa
  by_cases hlt3:j<p.gs.length
  ·obtain ⟨g1,g2,g3⟩:=gl3 j hlt3;have hgf:=Ap (gs:=p.gs) g1 g2 0
   have hmem:p.gs.getD j default∈p.gs:=by
    rw[List.getD_eq_getElem?_getD,List.getElem?_eq_getElem hlt3,Option.getD_some];exact List.getElem_mem hlt3
   obtain⟨o1,o2,o3,o4,o5,o6⟩:=qI hgs (Int.le_refl 0) _ hmem;have hQj:=hQi j hlt3
   obtain⟨g,hge⟩:∃g,p.gs.getD j default=g:=⟨_,rfl⟩
   obtain⟨b,hbe⟩:∃b,gl.getD j default=b:=⟨_,rfl⟩
   have hbe':gl.getD (j:Int).toNat default=b:=hbe;rw[hge]at g3 hgf o1 o3 o4 o5 o6 hQj hxs;rw[hbe]at g3 hgf;have hgf:(pe (gl.getD (j:Int).toNat default)).map (·.self 0)=yM g.first (.lsl 0 b.k 0 g.ms.length g.ms.length 0):=by rw[hbe'];exact hgf
   have hlt4:j<gl.length:=by omega
   have hfa:at1<fs.length->∃z,at1<l.length/\(cK (l.getD at1 default)).map (·.self 2) = [.bool (fs.getD at1 default).lost,z]/\cy F 2 z (il .u8 (fs.getD at1 default).mask) (fs.getD at1 default).mask.length:=fun h=>IQ hf h 2
   have hml:=hfl at1
   have hfd:¬at1<fs.length->fs.getD at1 default=⟨false,[]⟩:=fun h=>by
    rw[List.getD_eq_getElem?_getD,List.getElem?_eq_none (by omega)];rfl
   have hsd:¬at1<sz.length->sz.getD at1 0=0:=fun h=>by
    rw[List.getD_eq_getElem?_getD,List.getElem?_eq_none (by omega)];rfl
   have hxs:cg (j+1)=⟨if gW (fs.getD at1 default) (sz.getD at1 0)=true then m0 else wQ (fT i6) g.first g.ms m0 g.ms.length,at1+1,if(fs.getD at1 default).lost=true then last1 else(i:Nat)⟩:=hxs;have hQj:gW (fs.getD at1 default) (sz.getD at1 0)=false->∀m∈g.ms,Q m:=by rw[hxa];exact hQj
   obtain⟨f,hfe⟩:∃f,fs.getD at1 default=f:=⟨_,rfl⟩
   obtain⟨size,hsz⟩:∃z,sz.getD at1 0=z:=⟨_,rfl⟩
   rw[hfe]at hfa hml hfd hxs hQj;rw[hsz]at hxs hQj hsd
   repeat' (first
    |(refine qz ?_;first
     |refine nN ?_
     |refine sP ?_
     |refine nH (zs:=yM 0 .nils) (hz:=wz) ?_
     |refine kn (enc:=pe) ?_ gl1 hlt4 (hc':=hgf)
     |refine nH (zs:=[.bool false,.nils]) (hz:=jI) ?_)
    |refine lW 12 ?_|refine eY 12 ?_|refine zz ?_|refine zx (fun _=>?_) (fun _=>?_)|fail)
   refine⟨?_⟩;refine WX.xF 12 (σ:=XC) (fun z=>[(1,.one (.slice 1 0 sz.length cp)),(2,.one d),(3,.one (.ptr 5 0)),(8,.one (.ptr 7 0)),(28,.one (.lsl 0 k 0 np np 0)),(29,.one (.int .i64 (np:Nat))),(7,dV 4 i 3),(30,.one (.int .i64 (i:Nat))),(11,.one (.int .i64 (i:Nat))),(13,.one (.ptr 10 0)),(43,.one (.lsl 0 a.k 0 p.gs.length p.gs.length 0)),(44,.one (.int .i64 (p.gs.length:Nat))),(9,.one (.int .i64 (at1:Nat))),(10,.one (.int .i64 last1)),(45,.one (.int .i64 (j:Nat))),(15,.one (.ptr 11 0)),(16,.one (.ptr 12 0))]) (fun z=>[.late L,ob1,.late F,.late (bl (List.replicate n true)::out.map bl),bu 75 ((sM s.hd.cols s.hd.rows n i).map (·.self 3)),.cells (d9 s.hd (.lsl 0 k 0 np np 0)) 36 false false,.dead,.cells (pt s.hd.cols s.hd.rows (.lsl 3 i 0 n n 0)) 75 false false,.dead,.cells (bl m0) 4 false false,.cells (pt s.hd.cols s.hd.rows (.slice 9 0 n (.exact n))) 75 false false,.cells (yM g.first (.lsl 0 b.k 0 g.ms.length g.ms.length 0)) 90 false false,.cells [.bool f.lost,z] 69 false false]) (fun z=>cy F 2 z (il .u8 f.mask) f.mask.length) (fun z hz=>(stM (objs:=by repeat' (first|exact ak.nil|refine ak.flat ?_|refine ak.cons (bC (show 0<_ from Nat.le_of_ble_eq_true rfl)) ?_|refine ak.cons (ek (cq (c7 _ _ _ _) (Nat.le_of_ble_eq_true rfl))) ?_|refine ak.cons (AQ (cy.ok (by assumption) (Nat.le_of_ble_eq_true rfl))) ?_|refine ak.cons trivial ?_|refine ak.cons (by first|(simp[aj.bt,XC.ok];done)|(simp[aj.bt,XC.ok, *];done)) ?_)))) ?_ (fun z hz=>rS.out ?_)
   ·by_cases hat:at1<fs.length
    ·obtain⟨z,e1,e2,e3⟩:=hfa hat
     repeat' (first
      |(refine qz ?_;first
       |refine ll ?_
       |refine sc (fun kk hkk=>?_)
       |refine kn (enc:=cK) ?_ (by assumption) e1 (hc':=e2))
      |refine zz ?_|refine zx (fun _=>?_) (fun _=>?_)|fail)
     (first|refine tm ?_|skip)
     exact⟨z,_,e3,(bq [0,1,2,3,4,5,6,7,8,9,10,11,12] (obj:=by(repeat' (first|exact af.nil|refine aH rfl rfl ?_|refine c9 (c7 _ _ _ _) rfl rfl ?_|refine jP (by assumption) rfl rfl ?_|refine oz ?_));first|done|fail) (reg:=by(repeat' (first|exact ae.nil|refine ae.gO rfl (by assumption) rfl ?_|refine rz ?_|refine ae.sl rfl (by assumption) rfl ?_));first|done|fail))⟩
    ·have e0:=hfd hat;subst e0
     repeat' (first
      |(refine qz ?_;first
       |refine ll ?_)
      |refine zz ?_|refine zx (fun _=>?_) (fun _=>?_)|fail)
     (first|refine tm ?_|skip)
     exact⟨.nils,_,.inl ⟨rfl,.inl rfl⟩,(bq [0,1,2,3,4,5,6,7,8,9,10,11,12] (obj:=by(repeat' (first|exact af.nil|refine aH rfl rfl ?_|refine c9 (c7 _ _ _ _) rfl rfl ?_|refine jP (by assumption) rfl rfl ?_|refine oz ?_));first|done|fail) (reg:=by(repeat' (first|exact ae.nil|refine ae.gO rfl (by assumption) rfl ?_|refine rz ?_|refine ae.sl rfl (by assumption) rfl ?_));first|done|fail))⟩
   refine⟨?_⟩
   repeat' (first|refine lW 15 ?_|refine eY 15 ?_|refine zz ?_|refine zx (fun _=>?_) (fun _=>?_)|fail)
   refine⟨?_⟩;refine WX.xF 15 (σ:=Unit) (fun _=>[(1,.one (.slice 1 0 sz.length cp)),(2,.one d),(3,.one (.ptr 5 0)),(8,.one (.ptr 7 0)),(28,.one (.lsl 0 k 0 np np 0)),(29,.one (.int .i64 (np:Nat))),(7,dV 4 i 3),(30,.one (.int .i64 (i:Nat))),(11,.one (.int .i64 (i:Nat))),(13,.one (.ptr 10 0)),(43,.one (.lsl 0 a.k 0 p.gs.length p.gs.length 0)),(44,.one (.int .i64 (p.gs.length:Nat))),(9,.one (.int .i64 (at1:Nat))),(10,.one (.int .i64 last1)),(45,.one (.int .i64 (j:Nat))),(15,.one (.ptr 11 0)),(16,.one (.ptr 12 0)),(17,.one (.int .i64 size))]) (fun _=>[.late L,ob1,.late F,.late (bl (List.replicate n true)::out.map bl),bu 75 ((sM s.hd.cols s.hd.rows n i).map (·.self 3)),.cells (d9 s.hd (.lsl 0 k 0 np np 0)) 36 false false,.dead,.cells (pt s.hd.cols s.hd.rows (.lsl 3 i 0 n n 0)) 75 false false,.dead,.cells (bl m0) 4 false false,.cells (pt s.hd.cols s.hd.rows (.slice 9 0 n (.exact n))) 75 false false,.cells (yM g.first (.lsl 0 b.k 0 g.ms.length g.ms.length 0)) 90 false false,.cells [.bool f.lost,z] 69 false false]) (fun _=>True) (fun _ _=>(stM (objs:=by repeat' (first|exact ak.nil|refine ak.flat ?_|refine ak.cons (bC (show 0<_ from Nat.le_of_ble_eq_true rfl)) ?_|refine ak.cons (ek (cq (c7 _ _ _ _) (Nat.le_of_ble_eq_true rfl))) ?_|refine ak.cons (AQ (cy.ok (by assumption) (Nat.le_of_ble_eq_true rfl))) ?_|refine ak.cons trivial ?_|refine ak.cons (by first|(simp[aj.bt,XC.ok];done)|(simp[aj.bt,XC.ok, *];done)) ?_)))) ?_ (fun _ _=>rS.out ?_)
   ·by_cases hat:at1<sz.length
    ·repeat' (first|refine zz ?_|refine zx (fun _=>?_) (fun _=>?_)|fail)
     have hsz':sz.getD (at1:Int).toNat 0=size:=hsz
     (first|refine tm ?_|skip)
     exact⟨(),_,trivial,(bq [0,1,2,3,4,5,6,7,8,9,10,11,12] (obj:=by(repeat' (first|exact af.nil|refine aH rfl rfl ?_|refine c9 (c7 _ _ _ _) rfl rfl ?_|refine jP (by assumption) rfl rfl ?_|refine oz ?_));first|done|fail) (reg:=by(repeat' (first|exact ae.nil|refine ae.gO rfl (by assumption) rfl ?_|refine ae.flat (by rw[<-hsz];rfl) ?_|refine rz ?_|refine ae.sl rfl (by assumption) rfl ?_));first|done|fail))⟩
    ·have e0:=hsd hat;subst e0
     repeat' (first|refine zz ?_|refine zx (fun _=>?_) (fun _=>?_)|fail)
     (first|refine tm ?_|skip)
     exact⟨(),_,trivial,(bq [0,1,2,3,4,5,6,7,8,9,10,11,12] (obj:=by(repeat' (first|exact af.nil|refine aH rfl rfl ?_|refine c9 (c7 _ _ _ _) rfl rfl ?_|refine jP (by assumption) rfl rfl ?_|refine oz ?_));first|done|fail) (reg:=by(repeat' (first|exact ae.nil|refine ae.gO rfl (by assumption) rfl ?_|refine rz ?_|refine ae.sl rfl (by assumption) rfl ?_));first|done|fail))⟩
   refine⟨?_⟩
   obtain⟨tch,htc⟩:∃b,gW f size=b:=⟨_,rfl⟩
   rw[htc]at hxs hQj
   obtain⟨lo,hlo⟩:∃b,f.lost=b:=⟨_,rfl⟩
   cases lo with
   | true=>
     have ht:tch=true:=by rw[<-htc];unfold gW;rw[hlo];rfl
     subst ht;rw[hlo,if_pos rfl,if_pos rfl]at hxs;rw[hlo]
     repeat' (first
      |(refine qz ?_;first
       |refine cl ?_ (hi:=by exact kH hz (by omega) hlo htc rfl rfl))
      |refine zz ?_|refine zx (fun _=>?_) (fun _=>?_)|fail)
     exact ih2 (j+1) _ _ _ (bq [0,1,2,3,4,5,6,7,8,9,10] (obj:=by(repeat' (first|exact af.nil|refine aH rfl rfl ?_|refine c9 (c7 _ _ _ _) rfl rfl ?_|refine jP (by assumption) rfl rfl ?_|refine af.flat (by rw[hxs];rfl) ?_|refine oz ?_));first|done|fail) (reg:=by(repeat' (first|exact ae.nil|refine ae.gO rfl (by assumption) rfl ?_|refine ae.flat (by rw[hxs];rfl) ?_|refine rz ?_|refine ae.sl rfl (by assumption) rfl ?_));first|done|fail)) (by omega) (by omega)
   | false =>
     rw[hlo,if_neg (show¬(false=true) by decide)]at hxs;rw[hlo]
     cases tch with
     | true=>
       rw[if_pos rfl]at hxs
       repeat' (first
        |(refine qz ?_;first
         |refine cl ?_ (hi:=by exact kH hz (by omega) hlo htc rfl rfl))
        |refine zz ?_|refine zx (fun _=>?_) (fun _=>?_)|fail)
       exact ih2 (j+1) _ _ _ (bq [0,1,2,3,4,5,6,7,8,9,10] (obj:=by(repeat' (first|exact af.nil|refine aH rfl rfl ?_|refine c9 (c7 _ _ _ _) rfl rfl ?_|refine jP (by assumption) rfl rfl ?_|refine af.flat (by rw[hxs];rfl) ?_|refine oz ?_));first|done|fail) (reg:=by(repeat' (first|exact ae.nil|refine ae.gO rfl (by assumption) rfl ?_|refine ae.flat (by rw[hxs];rfl) ?_|refine rz ?_|refine ae.sl rfl (by assumption) rfl ?_));first|done|fail)) (by omega) (by omega)
     | false=>
       rw[if_neg (show¬(false=true) by decide)]at hxs;have hQj:=hQj rfl
       repeat' (first
        |(refine qz ?_;first
         |refine cl ?_ (hi:=by exact kH hz (by omega) hlo htc rfl rfl)
         |refine nN ?_)
        |refine zz ?_|refine zx (fun _=>?_) (fun _=>?_)|fail)
       refine WX.bN (σ:=Nat) (fun u=>[(1,.one (.slice 1 0 sz.length cp)),(2,.one d),(3,.one (.ptr 5 0)),(8,.one (.ptr 7 0)),(28,.one (.lsl 0 k 0 np np 0)),(29,.one (.int .i64 (np:Nat))),(7,dV 4 i 3),(30,.one (.int .i64 (i:Nat))),(11,.one (.int .i64 (i:Nat))),(13,.one (.ptr 10 0)),(43,.one (.lsl 0 a.k 0 p.gs.length p.gs.length 0)),(44,.one (.int .i64 (p.gs.length:Nat))),(9,.one (.int .i64 (at1+1:Nat))),(10,.one (.int .i64 (i:Nat))),(45,.one (.int .i64 (j:Nat))),(15,.one (.ptr 11 0)),(76,.one (.lsl 0 b.k 0 g.ms.length g.ms.length 0)),(77,.one (.int .i64 (g.ms.length:Nat))),(78,.one (.int .i64 (u:Nat)))]) (fun u=>[.late L,ob1,.late F,.late (bl (List.replicate n true)::out.map bl),bu 75 ((sM s.hd.cols s.hd.rows n i).map (·.self 3)),.cells (d9 s.hd (.lsl 0 k 0 np np 0)) 36 false false,.dead,.cells (pt s.hd.cols s.hd.rows (.lsl 3 i 0 n n 0)) 75 false false,.dead,.cells (bl (wQ (fT i6) g.first g.ms m0 u)) 4 false false,.cells (pt s.hd.cols s.hd.rows (.slice 9 0 n (.exact n))) 75 false false,.cells (yM g.first (.lsl 0 b.k 0 g.ms.length g.ms.length 0)) 90 false false]) (fun u=>u<=g.ms.length) (fun u=>g.ms.length-u) 0 (Nat.zero_le _) (fun u _=>(stM (objs:=by repeat' (first|exact ak.nil|refine ak.flat ?_|refine ak.cons (bC (show 0<_ from Nat.le_of_ble_eq_true rfl)) ?_|refine ak.cons (ek (cq (c7 _ _ _ _) (Nat.le_of_ble_eq_true rfl))) ?_|refine ak.cons (AQ (cy.ok (by assumption) (Nat.le_of_ble_eq_true rfl))) ?_|refine ak.cons trivial ?_|refine ak.cons (by first|(simp[aj.bt,XC.ok];done)|(simp[aj.bt,XC.ok, *];done)) ?_)))) (bq [0,1,2,3,4,5,6,7,8,9,10,11] (obj:=by(repeat' (first|exact af.nil|refine aH rfl rfl ?_|refine c9 (c7 _ _ _ _) rfl rfl ?_|refine jP (by assumption) rfl rfl ?_|refine oz ?_));first|done|fail) (reg:=by(repeat' (first|exact ae.nil|refine ae.gO rfl (by assumption) rfl ?_|refine rz ?_|refine ae.sl rfl (by assumption) rfl ?_));first|done|fail)) ?_;intro u hk ih3;have hcl:=um (fT i6) g.first g.ms m0 u
       have hcs:wQ (fT i6) g.first g.ms m0 (u+1)=(wQ (fT i6) g.first g.ms m0 u).set (g.first.toNat+u) (fT i6 (g.first+(u:Nat)) (g.ms.getD u default)):=rfl
       by_cases hlt5:u<g.ms.length
       ·have hmm:g.ms.getD u default∈g.ms:=by
         rw[List.getD_eq_getElem?_getD,List.getElem?_eq_getElem hlt5,Option.getD_some];exact List.getElem_mem hlt5
        have hq1:=hQj _ hmm;have hmk:=uY o6 _ hmm
        obtain⟨mm,hme⟩:∃m,g.ms.getD u default=m:=⟨_,rfl⟩
        have hme':g.ms.getD (u:Int).toNat default=mm:=hme;rw[hme]at hq1 hmk hcs
        obtain⟨r,hr⟩:∃r,fT i6 (g.first+(u:Nat)) mm=r:=⟨_,rfl⟩
        have hfr:=hFrom i6 (g.first+(u:Nat)) mm h2 (by omega) hq1 hmk _ i hold;rw[hr]at hfr hcs
        obtain⟨M,hM⟩:∃M,wQ (fT i6) g.first g.ms m0 u=M:=⟨_,rfl⟩
        rw[hM]at hcl hcs;rw[hM]
        repeat' (first
         |(refine qz ?_;first
          |refine nN ?_
          |refine sP ?_
          |refine nH (zs:=mC zR) (hz:=o9) ?_
          |refine kn (enc:=mC) ?_ g3 hlt5
          |refine tq (cs:=mC mm) ?_ (hy:=by rw[<-hme'];rfl) (hs1:=by rw[aY]) (hs2:=by rw[aY])
          |refine lg ?_ (hle:=by rw[aY])
          |refine cl ?_ (hi:=by exact hfr _ 3 rfl rfl)
          |refine cl ?_ (hi:=by exact Md (mb:=g.first.toNat+u) (hcl.trans hxl) (by omega) (by omega) (by omega) rfl (i:=9) rfl hS rfl))
         |refine zz ?_|refine zx (fun _=>?_) (fun _=>?_)|fail)
        exact ih3 (u+1) _ _ _ (bq [0,1,2,3,4,5,6,7,8,9,10,11] (obj:=by(repeat' (first|exact af.nil|refine aH rfl rfl ?_|refine c9 (c7 _ _ _ _) rfl rfl ?_|refine jP (by assumption) rfl rfl ?_|refine af.flat (by rw[hcs];rfl) ?_|refine oz ?_));first|done|fail) (reg:=by(repeat' (first|exact ae.nil|refine ae.gO rfl (by assumption) rfl ?_|refine rz ?_|refine ae.sl rfl (by assumption) rfl ?_));first|done|fail)) (by omega) (by omega)
       ·obtain rfl:u=g.ms.length:=by omega
        repeat' (first
         |(refine qz ?_;first
          |refine nN ?_)
         |refine zz ?_|refine zx (fun _=>?_) (fun _=>?_)|fail)
        exact ih2 (j+1) _ _ _ (bq [0,1,2,3,4,5,6,7,8,9,10] (obj:=by(repeat' (first|exact af.nil|refine aH rfl rfl ?_|refine c9 (c7 _ _ _ _) rfl rfl ?_|refine jP (by assumption) rfl rfl ?_|refine af.flat (by rw[hxs];rfl) ?_|refine oz ?_));first|done|fail) (reg:=by(repeat' (first|exact ae.nil|refine ae.gO rfl (by assumption) rfl ?_|refine ae.flat (by rw[hxs];rfl) ?_|refine rz ?_|refine ae.sl rfl (by assumption) rfl ?_));first|done|fail)) (by omega) (by omega)
  ·obtain rfl:j=p.gs.length:=by omega
   clear ih2
   have hdx:(sM s.hd.cols s.hd.rows n (i+1)).map (·.self 3)=(sM s.hd.cols s.hd.rows n i).map (·.self 3)++pt s.hd.cols s.hd.rows (.lsl 3 (i+1) 0 n n 0):=by
    rw[sM,List.map_append];rfl
   rw[hx1]at hnx
   have hlx:(gC fT fs sz n s.ps (i+1)).out.map bl=out.map bl++[bl m0]:=by
    rw[hnx];show(out++[m0]).map bl=_;rw[List.map_append];rfl
   repeat' (first
    |(refine qz ?_;first
     |refine nN ?_)
    |refine lW 27 ?_|refine eY 27 ?_|refine zz ?_|refine zx (fun _=>?_) (fun _=>?_)|fail)
   refine⟨?_⟩
   refine WX.pc (L:=bl (List.replicate n true)::out.map bl) (vs:=bl m0) (us:=bl m0) 9 3 n (.exact n) [(1,.one (.slice 1 0 sz.length cp)),(2,.one d),(3,.one (.ptr 5 0)),(8,.one (.ptr 7 0)),(28,.one (.lsl 0 k 0 np np 0)),(29,.one (.int .i64 (np:Nat))),(7,dV 4 i 3),(30,.one (.int .i64 (i:Nat))),(9,.one (.int .i64 (at1:Nat))),(10,.one (.int .i64 last1)),(13,.one (.ptr 10 0))] [.late L,ob1,.late F,.late ((bl (List.replicate n true)::out.map bl)++[bl m0]),bu 75 ((sM s.hd.cols s.hd.rows n i).map (·.self 3)),.cells (d9 s.hd (.lsl 0 k 0 np np 0)) 36 false false,.dead,.cells (pt s.hd.cols s.hd.rows (.lsl 3 i 0 n n 0)) 75 false false,.dead,.dead,.cells (pt s.hd.cols s.hd.rows (.lsl 3 (i+1) 0 n n 0)) 75 false false] (m:=i+1) (yx _ _) (.inl ⟨n,rfl,Nat.le_refl _⟩) (by rw[List.length_cons,List.length_map,h1]) (hv:=dM (yx _ 0) 3) (hH:=by
    repeat' (first|exact aO.nil|refine aO.ghost ?_|refine aO.flat rfl ?_|refine aO.cells rfl (cU.same (fq (by simp[XC.iA]))) ?_|refine aO.Qg rfl (d8 (c7 _ _ _ _) _ _) ?_|refine aO.cells rfl (cU.cons (.same trivial) (.cons (.same trivial) (.cons .uC (.same (fun _ h=>nomatch h))))) ?_|refine aO.cells rfl (cU.same (by simp[XC.iA])) ?_|refine aO.dead ?_)) (hR:=by
    repeat' (first|exact bG.nil|refine bG.flat rfl ?_|refine bG.one rfl (dF.same (cy.iA (by assumption) (by decide))) ?_|refine bG.one rfl (dF.same (by first|trivial|(simp[XC.iA];done)|exact rr (by decide))) ?_)) (hok:=(stM (objs:=by repeat' (first|exact ak.nil|refine ak.flat ?_|refine ak.cons (bC (show 0<_ from Nat.le_of_ble_eq_true rfl)) ?_|refine ak.cons (ek (cq (c7 _ _ _ _) (Nat.le_of_ble_eq_true rfl))) ?_|refine ak.cons (AQ (cy.ok (by assumption) (Nat.le_of_ble_eq_true rfl))) ?_|refine ak.cons trivial ?_|refine ak.cons (by first|(simp[aj.bt,XC.ok];done)|(simp[aj.bt,XC.ok, *];done)) ?_)))) (h:=?_)
   repeat' (first
    |(refine qz ?_;first
     |refine sL (zs:=pt 0 0 .nils) (hz:=QV) ?_
     |refine yw 4 i ((sM s.hd.cols s.hd.rows n i).map (·.self 3)) ?_ (hn:=by rw[List.length_map,yF]))
    |refine zz ?_|refine zx (fun _=>?_) (fun _=>?_)|fail)
   exact ih (i+1) _ _ _ (bq [0,1,2,3,12,5,6,7] (obj:=by(repeat' (first|exact af.nil|refine aH rfl rfl ?_|refine c9 (c7 _ _ _ (i+1)) (by rw[hdx];rfl) rfl ?_|refine af.flat (by rw[hlx];rfl) ?_|refine oz ?_));first|done|fail) (reg:=by(repeat' (first|exact ae.nil|refine ae.gO rfl (by assumption) rfl ?_|refine ae.flat (by rw[hnx];rfl) ?_|refine rz ?_|refine ae.sl rfl (by assumption) rfl ?_));first|done|fail)) (by omega) (by omega)
 ·obtain rfl:i=np:=by omega
  clear ih;rw[hx]at hy;subst hy;have hol:((sM s.hd.cols s.hd.rows n i).map (·.self 3)).length=i*3:=by rw[List.length_map,yF]
  have hos:bu 75 ((sM s.hd.cols s.hd.rows n i).map (·.self 3)) = .cells ((sM s.hd.cols s.hd.rows n i).map (·.self 3)) 75 true false:=bJ fun e=>by
   rw[e]at hol;have hol:0=i*3:=hol;omega
  rw[hos,c_ (show i≠0 by omega)]
  repeat' (first
   |(refine qz ?_;first
    |refine nN ?_)
   |refine lW 30 ?_|refine eY 30 ?_|refine zz ?_|refine zx (fun _=>?_) (fun _=>?_)|fail)
  refine⟨?_⟩;refine WX.pc (L:=bl (List.replicate n true)::out.map bl) (vs:=sM s.hd.cols s.hd.rows n i) (us:=(sM s.hd.cols s.hd.rows n i).map (·.self 3)) 4 3 i (.toEnd 3) [(7,.one (.lsl 3 (i+1) 0 i i 0)),(10,.one (.int .i64 last0))] [.late L,ob1,.late F,.late ((bl (List.replicate n true)::out.map bl)++[sM s.hd.cols s.hd.rows n i]),.dead,.dead,.dead,.dead] (m:=i+1) (c7 _ _ _ _) (.inr ⟨3,rfl,by decide,by rw[hol];exact Nat.le_refl _⟩) (by rw[List.length_cons,List.length_map,h1]) (h:=?_)
  repeat' (first
   |(refine qz ?_;first
    |refine Q1 (p:=0) (q:=(last0+1).toNat) ?_)
   |refine zz ?_|refine zx (fun _=>?_) (fun _=>?_)|fail)
  show aE _ _ _ _ _ _ _ _;refine kV [0,1,2,3] ?_;rfl
end Go.Proofs.YthdciapjllppjaaGreat
