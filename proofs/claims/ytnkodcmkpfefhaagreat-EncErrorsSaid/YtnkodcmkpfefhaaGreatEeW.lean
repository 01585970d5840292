/-
  A part of the proof: TakeA, PutAll, AllLaw, EdgeLaw, Fit0, Fits, MacLaw, SmIn.
-/
import Derived.Test.YtnkodcmkpfefhaaGreatEeE
import Derived.Test.YtnkodcmkpfefhaaGreatEeM
import Derived.Test.YtnkodcmkpfefhaaGreatEeN
import Derived.Test.YtnkodcmkpfefhaaGreatEeP
import Derived.Test.YtnkodcmkpfefhaaGreatEeV
set_option maxRecDepth 10000
set_option maxHeartbeats 8000000
set_option linter.unusedVariables false
set_option linter.unusedSectionVars false
set_option linter.unusedSimpArgs false
namespace Go.Proofs.YtnkodcmkpfefhaaGreat
open Go.Xm
variable [aw]
abbrev Ol:=Mb×(Nat->Bool)
structure TA where
 S:bO
 r:Nat×Bool
 out:List Ol
def J3(B:List Bool)(first:Int)(x:TA):TA:=
 ⟨(AH x.S B (first+(x.out.length:Nat)) x.r).1.S,(AH x.S B (first+(x.out.length:Nat)) x.r).1.r,x.out++[((AH x.S B (first+(x.out.length:Nat)) x.r).1.m,(AH x.S B (first+(x.out.length:Nat)) x.r).2)]⟩
def IG(B:List Bool)(first:Int):Nat->TA->TA
 | 0,x=>x
 | k+1,x=>if x.r.2=true then x else IG B first k (J3 B first x)
def MU(h:Hd)(p:Ph):bO:=⟨p.id,p.inter,p.down,p.qp,p.qp,h.cols,h.rows,[],[],[],[]⟩
structure M6(B:List Bool)(first:Int)(n:Nat)(c r:Int)(x s:TA):Prop where
 le:s.out.length<=n
 run:IG B first (n-s.out.length) s=x
 cols:s.S.cols=c
 rows:s.S.rows=r
 tiny:c_ s.S.M
 qp : -1000000<=s.S.qp/\s.S.qp<=1000000
structure LQ(h:Hd)(p:Ph)(a q:List Int)(B:List Bool)(first:Int)(n:Nat):Prop where
 hd:ua h
 ph:Dj p
 byt:jz a
 len:a.length<=30000
 esc:I4 a a.length [] 0 0=some q
 size:uS q=(B.length,true)
 fits:B.length<=8*q.length
 bits:IL q B
 pos:0<=first
 many:1<=n
 all:first+(n:Nat)<=h.cols*h.rows
theorem rf{c r:Int}(h:j6 c r):1<=c*r/\c*r<=64:=by
 have h1:=h.c0
 have h2:=h.c1
 have h3:=h.r0
 have h4:=h.r1
 constructor
 ·have:=Int.mul_le_mul h1 h3 (by omega) (by omega)
  omega
 ·have:=Int.mul_le_mul h2 h4 (by omega) (by omega)
  omega
instance LX (p:Ph) (e:TypeId) (a b:Bool):aR (.cells (uL p) e a b):=fF rfl
instance Nf:Inhabited Mb:=⟨sW⟩
theorem iZ:aX Tryz.prog 68 (mC sW):=by
 have h:([.int .u8 0,.int .i64 0,.cplx .f64 0 0,.cplx .f64 0 0,.cplx .f64 0 0,.cplx .f64 0 0,.bool false]++(ti .i64 384 fun _=>0):List XC)=mC sW:=by
  unfold mC sW
  simp only[<-iF]
  rfl
 rw[<-h]
 infer_instance
theorem lV{m:Mb}(hm:iR m){inter:Bool}{was:Int}(hw : -1000000<=was/\was<=1000000){c:Int}(hc:c7 m inter was=c){HS:ai}(hb:Nat.blt HS.length Mem.bound=true):aC.Sound Tryz.prog ⟨69,[.agg (mC m),.one (.bool inter),.one (.int .i64 was)],HS,.one (.int .i64 c),HS,[]⟩:=by
 subst hc;exact DK hm hw hb
structure fS(h:Hd)(p:Ph)(l:List Mb)(first:Int):Prop where
 hd:ua h
 ph:Dj p
 mok:∀m∈l,iR m
 pos:0<=first
 many:1<=l.length
 few:l.length<=16
 all:first+(l.length:Nat)<=h.cols*h.rows
abbrev yW(h:Hd)(p:Ph):PS:=⟨MU h p,[],[]⟩
theorem Ao{h:Hd}{p:Ph}(ho:ua h)(hp:Dj p):vC p.inter h.cols h.rows 0 (yW h p):=
 ⟨⟨ho.dims,⟨kn,kn,kn⟩,CP⟩,rfl,rfl,rfl,by have:=hp.qp;show -1000000<=p.qp/\p.qp<=1000000;omega,Nat.zero_le _,Nat.zero_le _⟩
theorem mA{l:List Int}(hl:jz l)(hn:l.length<=100000){q:List Int}(hq:(gr l l.length).1=q){n:Nat}(hln:l.length=n){HS:ai}{i:Nat}(hi:HS[i]? = some (dG 5 (il .u8 l))){N:Nat}(hN:HS.length=N){HS':ai}(hh:HS++[dG 5 (il .u8 q)]=HS')(hb:Nat.blt HS'.length Mem.bound=true) :
 aC.Sound Tryz.prog ⟨84,[kA i n 1],HS,kA N q.length 1,HS',[i]⟩:=by
 subst hq
 exact Bv hl hn hln hi hN hh hb
theorem pj{l:List Mb}{first:Int}{x0:PS}{k:Nat}{x:PS}(h:jg l first x0 k = .inr x):jg l first x0 (k+1)=jI first k (l.getD k default) x:=by
 rw[jg,h]
 rfl
theorem pk{first:Int}{k:Nat}{m:Mb}{x:PS}{c:Int}(hc:c7 m x.S.inter x.S.qp=c)(h0:c≠0):jI first k m x = .inl c:=by
 subst hc
 exact if_pos h0
theorem pn{first:Int}{k:Nat}{m:Mb}{x:PS}(hc:c7 m x.S.inter x.S.qp=0)(h:iB x.S x.B x.w m (first+(k:Nat))=none):jI first k m x = .inl 2:=by
 unfold jI
 rw[if_neg (fun g=>g hc),h]
theorem nM{first:Int}{k:Nat}{m:Mb}{x:PS}(hc:c7 m x.S.inter x.S.qp=0){z:bO×List Bool×List Bool}(h:iB x.S x.B x.w m (first+(k:Nat))=some z):jI first k m x = .inr ⟨z.1,z.2.1,z.2.2⟩:=by
 unfold jI
 rw[if_neg (fun g=>g hc),h]
theorem DS{h:Hd}{p:Ph}{l:List Mb}{first:Int}(hT:fS h p l first){cap:vy}{ob:ah}(ho:A1 ob mC l){e:Int}(hx:jg l first (yW h p) l.length = .inl e) :
 aW Tryz.prog 59 [.one (.ptr 0 0),.agg (j5 h),.agg (uL p),.one (.int .i64 first),.one (.slice 13 0 l.length cap)] [cK 1 5 9,aI 2 3 4 cM,bz cM,bC cM,bB cM,aI 6 7 8 cZ,bz cZ,bC cZ,bB cZ,aI 10 11 12 cP,bz cP,bC cP,bB cP,ob] (.tup [.one .nils,.one .nils,.one (.int .i64 e)]) [cK 1 5 9,aI 2 3 4 cM,bz cM,bC cM,bB cM,aI 6 7 8 cZ,bz cZ,bC cZ,bB cZ,aI 10 11 12 cP,bz cP,bC cP,bB cP,ob]:=by
 have hfo:=ho.flat
 have h1:=hT.hd.dims.c0
 have h2:=hT.hd.dims.c1
 have h3:=hT.hd.dims.r0
 have h4:=hT.hd.dims.r1
 have hf:=hT.pos
 have hm:=hT.many
 have hm16:=hT.few
 have ha:=hT.all
 have hcr:1<=h.cols*h.rows/\h.cols*h.rows<=64:=rf hT.hd.dims
 refine cO Tryz.func59 ?_
 repeat' (first
  |(refine qz ?_;first
   |refine fV ?_ (hle:=by rw[db])
   |refine cl ?_ (hi:=by exact o_ hT.hd rfl)
   |refine cl ?_ (hi:=by exact pf hT.ph rfl)
   |refine cl ?_ (hi:=by exact qZ hT.hd rfl nL nA rfl))
  |refine zz ?_|refine zx (fun _=>?_) (fun _=>?_)|fail)
 refine WX.c6 rfl ?_
 refine WX.c6 rfl ?_
 refine WX.bZ (σ:=Nat×PS) (fun s=>[(3,.one (.int .i64 first)),(7,.one (.ptr 14 0)),(15,.one (.ptr 15 0)),(16,.one (.ptr 22 0)),(17,.one (.ptr 24 0)),(71,.one (.slice 13 0 l.length cap)),(72,.one (.int .i64 (l.length:Nat))),(73,.one (.int .i64 (s.1:Nat)))]) (fun s=>[cK 1 5 9,aI 2 3 4 cM,bz cM,bC cM,bB cM,aI 6 7 8 cZ,bz cZ,bC cZ,bB cZ,aI 10 11 12 cP,bz cP,bC cP,bB cP,ob,.cells (uL p) 53 false false,KC s.2.S 15,dq 17 s.2.S.cols s.2.S.rows,.map (bK s.2.S.M),KD s.2.S 15,.map (aj s.2.S.A),.map (aj s.2.S.B),.map (aj s.2.S.C),aK 23 s.2.B,aq s.2.B,aK 25 s.2.w,aq s.2.w]) (fun s=>s.1<=l.length/\jg l first (yW h p) s.1 = .inr s.2/\vC p.inter h.cols h.rows s.1 s.2) (fun s=>l.length-s.1) (0,yW h p) ⟨Nat.zero_le _,rfl,Ao hT.hd hT.ph⟩ (fun s _=>hX) (b_ [0,1,2,3,4,5,6,7,8,9,10,11,12,13,15,16,17,18,19,20,21,22,23,25,24,26] (obj:=by(repeat' (first|exact ae.nil|refine ae.fu rfl rfl rfl rfl ?_|refine ae.dead rfl ?_|refine ae.flat rfl ?_|refine ae.cons rfl ?_|refine ae.dead rfl ?_|refine ae.cons (by simp only[ah.ax,List.map_cons,List.map_nil,XC.ax,aB];exact rfl) ?_));first|done|fail)) ?_
 intro s ⟨hle,hrun,hs⟩ ih
 by_cases hlt:s.1<l.length
 ·have hmk:iR (l.getD s.1 default):=by
   rw[List.getD_eq_getElem?_getD,List.getElem?_eq_getElem hlt,Option.getD_some]
   exact hT.mok _ (List.getElem_mem hlt)
  have hnx:=pj hrun
  obtain⟨m,hme⟩:∃m,l.getD s.1 default=m:=⟨_,rfl⟩
  have hme':l.getD (s.1:Int).toNat default=m:=hme
  rw[hme]at hmk hnx
  have hqq:=hs.qp
  have hmb:0<=first+(s.1:Nat)/\first+(s.1:Nat)<h.cols*h.rows:=by omega
  obtain⟨c,hc⟩:∃c,c7 m p.inter s.2.S.qp=c:=⟨_,rfl⟩
  have hcS:c7 m s.2.S.inter s.2.S.qp=c:=by rw[hs.inter];exact hc
  by_cases hc0:c=0
  ·subst hc0
   have hP:=rV hs (by omega) hmk hmb hcS
   cases hz:iB s.2.S s.2.B s.2.w m (first+(s.1:Nat))with
   | none=>
     have eN:=(hx.symm.trans (kx (hnx.trans (pn hcS hz)) l.length (by omega)))
     cases eN
     repeat' (first
      |(refine qz ?_;first
       |refine qd (zs:=mC sW) (hz:=iZ) ?_
       |refine uC (enc:=mC) ?_
       |refine lO (cs:=mC m) ?_ (hy:=by rw[<-hme'];rfl) (hs1:=by rw[aQ]) (hs2:=by rw[aQ])
       |refine fV ?_ (hle:=by rw[aQ])
       |refine cl ?_ (hi:=by exact lV hmk hqq hc rfl)
       |refine cl ?_ (hi:=by exact GH hP hz (i:=22) (k:=23) (N:=15) (j:=24) (g:=25) rfl rfl rfl rfl rfl rfl (by decide) nA rfl))
      |refine zz ?_|refine zx (fun _=>?_) (fun _=>?_)|fail)
     show aD _ _ _ _ _ _ _ _;refine kV [0,1,2,3,4,5,6,7,8,9,10,11,12,13] ?_
     rfl
   | some z=>
     have hnx2:=hnx.trans (nM hcS hz)
     repeat' (first
      |(refine qz ?_;first
       |refine qd (zs:=mC sW) (hz:=iZ) ?_
       |refine uC (enc:=mC) ?_
       |refine lO (cs:=mC m) ?_ (hy:=by rw[<-hme'];rfl) (hs1:=by rw[aQ]) (hs2:=by rw[aQ])
       |refine fV ?_ (hle:=by rw[aQ])
       |refine cl ?_ (hi:=by exact lV hmk hqq hc rfl)
       |refine cl ?_ (hi:=by exact yX hP hz (i:=22) (k:=23) (N:=15) (j:=24) (g:=25) rfl rfl rfl rfl rfl rfl (by decide) nL nA rfl))
      |refine zz ?_|refine zx (fun _=>?_) (fun _=>?_)|fail)
     exact ih (s.1+1,⟨z.1,z.2.1,z.2.2⟩) _ _ _ (b_ [0,1,2,3,4,5,6,7,8,9,10,11,12,13,14,15,16,17,18,19,20,21,22,27,24,28]) ⟨by show s.1+1<=l.length;omega,hnx2,mG hs hmk (hnx2▸hnx.symm)⟩ (by show l.length-(s.1+1)<l.length-s.1;omega)
  ·have eB:=(hx.symm.trans (kx (hnx.trans (pk hcS hc0)) l.length (by omega)))
   cases eB
   repeat' (first
    |(refine qz ?_;first
     |refine qd (zs:=mC sW) (hz:=iZ) ?_
     |refine uC (enc:=mC) ?_
     |refine lO (cs:=mC m) ?_ (hy:=by rw[<-hme'];rfl) (hs1:=by rw[aQ]) (hs2:=by rw[aQ])
     |refine fV ?_ (hle:=by rw[aQ])
     |refine cl ?_ (hi:=by exact lV hmk hqq hc rfl))
    |refine zz ?_|refine zx (fun _=>?_) (fun _=>?_)|fail)
   show aD _ _ _ _ _ _ _ _;refine kV [0,1,2,3,4,5,6,7,8,9,10,11,12,13] ?_
   rfl
 ·have e0:s.1=l.length:=by omega
  rw[e0,hx]at hrun
  cases hrun
theorem GM{h:Hd}{p:Ph}{l:List Mb}{first:Int}(hT:fS h p l first){cap:vy}{ob:ah}(ho:A1 ob mC l){x:PS}(hx:jg l first (yW h p) l.length = .inr x){a b:List Int}(hqa:(gr (wr (x.B++[true])) (wr (x.B++[true])).length).1=a)(hqb:(gr (wr (x.w++[true])) (wr (x.w++[true])).length).1=b)(hla:a.length<=30000)(hlb:b.length<=30000) :
 aW Tryz.prog 59 [.one (.ptr 0 0),.agg (j5 h),.agg (uL p),.one (.int .i64 first),.one (.slice 13 0 l.length cap)] [cK 1 5 9,aI 2 3 4 cM,bz cM,bC cM,bB cM,aI 6 7 8 cZ,bz cZ,bC cZ,bB cZ,aI 10 11 12 cP,bz cP,bC cP,bB cP,ob] (.tup [.one (jx 14 a.length 1),.one (jx 15 b.length 1),.one (.int .i64 0)]) [cK 1 5 9,aI 2 3 4 cM,bz cM,bC cM,bB cM,aI 6 7 8 cZ,bz cZ,bC cZ,bB cZ,aI 10 11 12 cP,bz cP,bC cP,bB cP,ob,dG 5 (il .u8 a),dG 5 (il .u8 b)]:=by
 have hfo:=ho.flat
 have h1:=hT.hd.dims.c0
 have h2:=hT.hd.dims.c1
 have h3:=hT.hd.dims.r0
 have h4:=hT.hd.dims.r1
 have hf:=hT.pos
 have hm:=hT.many
 have hm16:=hT.few
 have ha:=hT.all
 have hcr:1<=h.cols*h.rows/\h.cols*h.rows<=64:=rf hT.hd.dims
 refine cO Tryz.func59 ?_
 repeat' (first
  |(refine qz ?_;first
   |refine fV ?_ (hle:=by rw[db])
   |refine cl ?_ (hi:=by exact o_ hT.hd rfl)
   |refine cl ?_ (hi:=by exact pf hT.ph rfl)
   |refine cl ?_ (hi:=by exact qZ hT.hd rfl nL nA rfl))
  |refine zz ?_|refine zx (fun _=>?_) (fun _=>?_)|fail)
 refine WX.c6 rfl ?_
 refine WX.c6 rfl ?_
 refine WX.bZ (σ:=Nat×PS) (fun s=>[(3,.one (.int .i64 first)),(7,.one (.ptr 14 0)),(15,.one (.ptr 15 0)),(16,.one (.ptr 22 0)),(17,.one (.ptr 24 0)),(71,.one (.slice 13 0 l.length cap)),(72,.one (.int .i64 (l.length:Nat))),(73,.one (.int .i64 (s.1:Nat)))]) (fun s=>[cK 1 5 9,aI 2 3 4 cM,bz cM,bC cM,bB cM,aI 6 7 8 cZ,bz cZ,bC cZ,bB cZ,aI 10 11 12 cP,bz cP,bC cP,bB cP,ob,.cells (uL p) 53 false false,KC s.2.S 15,dq 17 s.2.S.cols s.2.S.rows,.map (bK s.2.S.M),KD s.2.S 15,.map (aj s.2.S.A),.map (aj s.2.S.B),.map (aj s.2.S.C),aK 23 s.2.B,aq s.2.B,aK 25 s.2.w,aq s.2.w]) (fun s=>s.1<=l.length/\jg l first (yW h p) s.1 = .inr s.2/\vC p.inter h.cols h.rows s.1 s.2) (fun s=>l.length-s.1) (0,yW h p) ⟨Nat.zero_le _,rfl,Ao hT.hd hT.ph⟩ (fun s _=>hX) (b_ [0,1,2,3,4,5,6,7,8,9,10,11,12,13,15,16,17,18,19,20,21,22,23,25,24,26] (obj:=by(repeat' (first|exact ae.nil|refine ae.fu rfl rfl rfl rfl ?_|refine ae.dead rfl ?_|refine ae.flat rfl ?_|refine ae.cons rfl ?_|refine ae.dead rfl ?_|refine ae.cons (by simp only[ah.ax,List.map_cons,List.map_nil,XC.ax,aB];exact rfl) ?_));first|done|fail)) ?_
 intro s ⟨hle,hrun,hs⟩ ih
 by_cases hlt:s.1<l.length
 ·have hmk:iR (l.getD s.1 default):=by
   rw[List.getD_eq_getElem?_getD,List.getElem?_eq_getElem hlt,Option.getD_some]
   exact hT.mok _ (List.getElem_mem hlt)
  have hnx:=pj hrun
  obtain⟨m,hme⟩:∃m,l.getD s.1 default=m:=⟨_,rfl⟩
  have hme':l.getD (s.1:Int).toNat default=m:=hme
  rw[hme]at hmk hnx
  have hqq:=hs.qp
  have hmb:0<=first+(s.1:Nat)/\first+(s.1:Nat)<h.cols*h.rows:=by omega
  obtain⟨c,hc⟩:∃c,c7 m p.inter s.2.S.qp=c:=⟨_,rfl⟩
  have hcS:c7 m s.2.S.inter s.2.S.qp=c:=by rw[hs.inter];exact hc
  by_cases hc0:c=0
  ·subst hc0
   have hP:=rV hs (by omega) hmk hmb hcS
   cases hz:iB s.2.S s.2.B s.2.w m (first+(s.1:Nat))with
   | none=>
     have eN:=(hx.symm.trans (kx (hnx.trans (pn hcS hz)) l.length (by omega)))
     cases eN
   | some z=>
     have hnx2:=hnx.trans (nM hcS hz)
     repeat' (first
      |(refine qz ?_;first
       |refine qd (zs:=mC sW) (hz:=iZ) ?_
       |refine uC (enc:=mC) ?_
       |refine lO (cs:=mC m) ?_ (hy:=by rw[<-hme'];rfl) (hs1:=by rw[aQ]) (hs2:=by rw[aQ])
       |refine fV ?_ (hle:=by rw[aQ])
       |refine cl ?_ (hi:=by exact lV hmk hqq hc rfl)
       |refine cl ?_ (hi:=by exact yX hP hz (i:=22) (k:=23) (N:=15) (j:=24) (g:=25) rfl rfl rfl rfl rfl rfl (by decide) nL nA rfl))
      |refine zz ?_|refine zx (fun _=>?_) (fun _=>?_)|fail)
     exact ih (s.1+1,⟨z.1,z.2.1,z.2.2⟩) _ _ _ (b_ [0,1,2,3,4,5,6,7,8,9,10,11,12,13,14,15,16,17,18,19,20,21,22,27,24,28]) ⟨by show s.1+1<=l.length;omega,hnx2,mG hs hmk (hnx2▸hnx.symm)⟩ (by show l.length-(s.1+1)<l.length-s.1;omega)
  ·have eB:=(hx.symm.trans (kx (hnx.trans (pk hcS hc0)) l.length (by omega)))
   cases eB
 ·have e0:s.1=l.length:=by omega
  have hlB:=hs.len
  have hlw:=hs.lenw
  rw[e0,hx]at hrun
  obtain rfl:x=s.2:=Sum.inr.inj hrun
  have hB1:s.2.B.length<=1000000:=by omega
  have hB2:s.2.w.length<=1000000:=by omega
  have hL1:(wr (s.2.B++[true])).length<=100000:=by rw[fz,List.length_append,List.length_cons,List.length_nil];omega
  have hL2:(wr (s.2.w++[true])).length<=100000:=by rw[fz,List.length_append,List.length_cons,List.length_nil];omega
  have hY1:=mM (s.2.B++[true])
  have hY2:=mM (s.2.w++[true])
  repeat' (first
   |(refine qz ?_;first
    |refine cl ?_ (hi:=by exact oL (bs:=s.2.B) hB1 (i:=22) (k:=23) rfl rfl (by decide) nL nA rfl)
    |refine cl ?_ (hi:=by exact mA (l:=wr (s.2.B++[true])) hY1 hL1 hqa (n:=((s.2.B++[true]).length+7)/8) (by rw[fz]) (i:=26) rfl nL nA rfl)
    |refine cl ?_ (hi:=by exact oL (bs:=s.2.w) hB2 (i:=24) (k:=25) rfl rfl (by decide) nL nA rfl)
    |refine cl ?_ (hi:=by exact mA (l:=wr (s.2.w++[true])) hY2 hL2 hqb (n:=((s.2.w++[true]).length+7)/8) (by rw[fz]) (i:=28) rfl nL nA rfl))
   |refine zz ?_|refine zx (fun _=>?_) (fun _=>?_)|refine aS (by first|exact af.nil|exact af.one _|exact af.i3 (by repeat' (first|exact True.intro|refine And.intro ?_ ?_|exact Compat.ne rfl|exact dI rfl))) ⟨by kernel_rfl,?_⟩|refine aS (by first|exact af.nil|exact af.one _|exact af.i3 (by repeat' (first|exact True.intro|refine And.intro ?_ ?_|exact Compat.ne rfl|exact dI rfl))) ?_|fail)
  show aD _ _ _ _ _ _ _ _;refine kV [0,1,2,3,4,5,6,7,8,9,10,11,12,13,27,29] ?_
  simp only[XV.ax,List.map_cons,List.map_nil,X1.ax,aB];rfl
theorem DQ{h:Hd}{p:Ph}{l:List Mb}{first:Int}(hT:fS h p l first){cap:vy}{ob:ah}(ho:A1 ob mC l){x:PS}(hx:jg l first (yW h p) l.length = .inr x){a b:List Int}(hqa:(gr (wr (x.B++[true])) (wr (x.B++[true])).length).1=a)(hqb:(gr (wr (x.w++[true])) (wr (x.w++[true])).length).1=b)(hl:30000<a.length\/30000<b.length) :
 aW Tryz.prog 59 [.one (.ptr 0 0),.agg (j5 h),.agg (uL p),.one (.int .i64 first),.one (.slice 13 0 l.length cap)] [cK 1 5 9,aI 2 3 4 cM,bz cM,bC cM,bB cM,aI 6 7 8 cZ,bz cZ,bC cZ,bB cZ,aI 10 11 12 cP,bz cP,bC cP,bB cP,ob] (.tup [.one .nils,.one .nils,.one (.int .i64 6)]) [cK 1 5 9,aI 2 3 4 cM,bz cM,bC cM,bB cM,aI 6 7 8 cZ,bz cZ,bC cZ,bB cZ,aI 10 11 12 cP,bz cP,bC cP,bB cP,ob]:=by
 have hfo:=ho.flat
 have h1:=hT.hd.dims.c0
 have h2:=hT.hd.dims.c1
 have h3:=hT.hd.dims.r0
 have h4:=hT.hd.dims.r1
 have hf:=hT.pos
 have hm:=hT.many
 have hm16:=hT.few
 have ha:=hT.all
 have hcr:1<=h.cols*h.rows/\h.cols*h.rows<=64:=rf hT.hd.dims
 refine cO Tryz.func59 ?_
 repeat' (first
  |(refine qz ?_;first
   |refine fV ?_ (hle:=by rw[db])
   |refine cl ?_ (hi:=by exact o_ hT.hd rfl)
   |refine cl ?_ (hi:=by exact pf hT.ph rfl)
   |refine cl ?_ (hi:=by exact qZ hT.hd rfl nL nA rfl))
  |refine zz ?_|refine zx (fun _=>?_) (fun _=>?_)|fail)
 refine WX.c6 rfl ?_
 refine WX.c6 rfl ?_
 refine WX.bZ (σ:=Nat×PS) (fun s=>[(3,.one (.int .i64 first)),(7,.one (.ptr 14 0)),(15,.one (.ptr 15 0)),(16,.one (.ptr 22 0)),(17,.one (.ptr 24 0)),(71,.one (.slice 13 0 l.length cap)),(72,.one (.int .i64 (l.length:Nat))),(73,.one (.int .i64 (s.1:Nat)))]) (fun s=>[cK 1 5 9,aI 2 3 4 cM,bz cM,bC cM,bB cM,aI 6 7 8 cZ,bz cZ,bC cZ,bB cZ,aI 10 11 12 cP,bz cP,bC cP,bB cP,ob,.cells (uL p) 53 false false,KC s.2.S 15,dq 17 s.2.S.cols s.2.S.rows,.map (bK s.2.S.M),KD s.2.S 15,.map (aj s.2.S.A),.map (aj s.2.S.B),.map (aj s.2.S.C),aK 23 s.2.B,aq s.2.B,aK 25 s.2.w,aq s.2.w]) (fun s=>s.1<=l.length/\jg l first (yW h p) s.1 = .inr s.2/\vC p.inter h.cols h.rows s.1 s.2) (fun s=>l.length-s.1) (0,yW h p) ⟨Nat.zero_le _,rfl,Ao hT.hd hT.ph⟩ (fun s _=>hX) (b_ [0,1,2,3,4,5,6,7,8,9,10,11,12,13,15,16,17,18,19,20,21,22,23,25,24,26] (obj:=by(repeat' (first|exact ae.nil|refine ae.fu rfl rfl rfl rfl ?_|refine ae.dead rfl ?_|refine ae.flat rfl ?_|refine ae.cons rfl ?_|refine ae.dead rfl ?_|refine ae.cons (by simp only[ah.ax,List.map_cons,List.map_nil,XC.ax,aB];exact rfl) ?_));first|done|fail)) ?_
 intro s ⟨hle,hrun,hs⟩ ih
 by_cases hlt:s.1<l.length
 ·have hmk:iR (l.getD s.1 default):=by
   rw[List.getD_eq_getElem?_getD,List.getElem?_eq_getElem hlt,Option.getD_some]
   exact hT.mok _ (List.getElem_mem hlt)
  have hnx:=pj hrun
  obtain⟨m,hme⟩:∃m,l.getD s.1 default=m:=⟨_,rfl⟩
  have hme':l.getD (s.1:Int).toNat default=m:=hme
  rw[hme]at hmk hnx
  have hqq:=hs.qp
  have hmb:0<=first+(s.1:Nat)/\first+(s.1:Nat)<h.cols*h.rows:=by omega
  obtain⟨c,hc⟩:∃c,c7 m p.inter s.2.S.qp=c:=⟨_,rfl⟩
  have hcS:c7 m s.2.S.inter s.2.S.qp=c:=by rw[hs.inter];exact hc
  by_cases hc0:c=0
  ·subst hc0
   have hP:=rV hs (by omega) hmk hmb hcS
   cases hz:iB s.2.S s.2.B s.2.w m (first+(s.1:Nat))with
   | none=>
     have eN:=(hx.symm.trans (kx (hnx.trans (pn hcS hz)) l.length (by omega)))
     cases eN
   | some z=>
     have hnx2:=hnx.trans (nM hcS hz)
     repeat' (first
      |(refine qz ?_;first
       |refine qd (zs:=mC sW) (hz:=iZ) ?_
       |refine uC (enc:=mC) ?_
       |refine lO (cs:=mC m) ?_ (hy:=by rw[<-hme'];rfl) (hs1:=by rw[aQ]) (hs2:=by rw[aQ])
       |refine fV ?_ (hle:=by rw[aQ])
       |refine cl ?_ (hi:=by exact lV hmk hqq hc rfl)
       |refine cl ?_ (hi:=by exact yX hP hz (i:=22) (k:=23) (N:=15) (j:=24) (g:=25) rfl rfl rfl rfl rfl rfl (by decide) nL nA rfl))
      |refine zz ?_|refine zx (fun _=>?_) (fun _=>?_)|fail)
     exact ih (s.1+1,⟨z.1,z.2.1,z.2.2⟩) _ _ _ (b_ [0,1,2,3,4,5,6,7,8,9,10,11,12,13,14,15,16,17,18,19,20,21,22,27,24,28]) ⟨by show s.1+1<=l.length;omega,hnx2,mG hs hmk (hnx2▸hnx.symm)⟩ (by show l.length-(s.1+1)<l.length-s.1;omega)
  ·have eB:=(hx.symm.trans (kx (hnx.trans (pk hcS hc0)) l.length (by omega)))
   cases eB
 ·by_cases hla:30000<a.length
  all_goals
   have e0:s.1=l.length:=by omega
   have hlB:=hs.len
   have hlw:=hs.lenw
   rw[e0,hx]at hrun
   obtain rfl:x=s.2:=Sum.inr.inj hrun
   have hB1:s.2.B.length<=1000000:=by omega
   have hB2:s.2.w.length<=1000000:=by omega
   have hL1:(wr (s.2.B++[true])).length<=100000:=by rw[fz,List.length_append,List.length_cons,List.length_nil];omega
   have hL2:(wr (s.2.w++[true])).length<=100000:=by rw[fz,List.length_append,List.length_cons,List.length_nil];omega
   have hY1:=mM (s.2.B++[true])
   have hY2:=mM (s.2.w++[true])
   repeat' (first
    |(refine qz ?_;first
     |refine cl ?_ (hi:=by exact oL (bs:=s.2.B) hB1 (i:=22) (k:=23) rfl rfl (by decide) nL nA rfl)
     |refine cl ?_ (hi:=by exact mA (l:=wr (s.2.B++[true])) hY1 hL1 hqa (n:=((s.2.B++[true]).length+7)/8) (by rw[fz]) (i:=26) rfl nL nA rfl)
     |refine cl ?_ (hi:=by exact oL (bs:=s.2.w) hB2 (i:=24) (k:=25) rfl rfl (by decide) nL nA rfl)
     |refine cl ?_ (hi:=by exact mA (l:=wr (s.2.w++[true])) hY2 hL2 hqb (n:=((s.2.w++[true]).length+7)/8) (by rw[fz]) (i:=28) rfl nL nA rfl))
    |refine zz ?_|refine zx (fun _=>?_) (fun _=>?_)|refine aS (by first|exact af.nil|exact af.one _|exact af.i3 (by repeat' (first|exact True.intro|refine And.intro ?_ ?_|exact Compat.ne rfl|exact dI rfl))) ⟨by kernel_rfl,?_⟩|refine aS (by first|exact af.nil|exact af.one _|exact af.i3 (by repeat' (first|exact True.intro|refine And.intro ?_ ?_|exact Compat.ne rfl|exact dI rfl))) ?_|fail)
   show aD _ _ _ _ _ _ _ _;refine kV [0,1,2,3,4,5,6,7,8,9,10,11,12,13] ?_
   rfl
theorem Cb{first:Int}{k:Nat}{m:Mb}{x y:PS}(h:jI first k m x = .inr y):c7 m x.S.inter x.S.qp=0/\∃z,iB x.S x.B x.w m (first+(k:Nat))=some z/\y=⟨z.1,z.2.1,z.2.2⟩:=by
 unfold jI at h
 split at h
 ·cases h
 ·rename_i hc
  refine⟨Decidable.byContradiction fun g=>hc g,?_⟩
  split at h
  ·cases h
  ·rename_i z hz
   exact⟨z,hz,(Sum.inr.inj h).symm⟩
theorem rU{l:List Mb}{first:Int}{x0:PS}{k:Nat}{y:PS}(h:jg l first x0 (k+1) = .inr y):∃x,jg l first x0 k = .inr x/\jI first k (l.getD k default) x = .inr y:=by
 rw[jg]at h
 split at h
 ·cases h
 ·rename_i x hx
  exact⟨x,hx,h⟩
theorem EH{h:Hd}{p:Ph}{l:List Mb}{first:Int}(hT:fS h p l first){k:Nat}(hk:k<l.length):iR (l.getD k default):=by
 rw[List.getD_eq_getElem?_getD,List.getElem?_eq_getElem hk,Option.getD_some]
 exact hT.mok _ (List.getElem_mem hk)
theorem rT{h:Hd}{p:Ph}{l:List Mb}{first:Int}(hT:fS h p l first):∀k,k<=l.length->∀x,jg l first (yW h p) k = .inr x->vC p.inter h.cols h.rows k x:=by
 intro k
 induction k with
 | zero=>intro _ x hx;cases hx;exact Ao hT.hd hT.ph
 | succ k ih=>
   intro hk x hx
   obtain⟨y,hy,hs⟩:=rU hx
   exact mG (ih (by omega) y hy) (EH hT (by omega)) hs
noncomputable def NO(l:List Mb)(first:Int)(x0:PS)(i j:Nat):List Ev:=
 match jg l first x0 i with
 | .inr x=>Mt x.S x.B (l.getD i default) (first+(i:Nat)) j
 | .inl _=>[]
structure L_(l:List Mb)(ft:Int)(x0:PS)(k:Nat)(x:PS)(t:TA):Prop where
 rel:Rel x.S t.S
 r:t.r=(x.B.length,false)
 len:t.out.length=k
 outs:∀i,i<k->∃o,t.out[i]? = some o/\KI (l.getD i default) o.1/\∀j,j<6->o.2 j=decide (0<(NO l ft x0 i j).length)
structure Di(inter:Bool)(qp:Int)(l:List Mb):Prop where
 mok:∀k,k<l.length->iR (l.getD k default)
 chk:∀k,k<l.length->c7 (l.getD k default) inter (if k=0 then qp else(l.getD (k-1) default).qp)=0
theorem oa:∀(l:List Int) (z:Int),0<=z->2*((ur z l).length:Int)<=3*(l.length:Int)+z
 | [],z,hz=>by show 2*((0:Nat):Int)<=3*((0:Nat):Int)+z;omega
 | b :: t,z,hz=>by
   rw[ur]
   by_cases hb:b=0
   ·rw[if_pos hb,if_pos hb]
    have h1:=oa t (0+1) (by omega)
    have h2:=oa t (z+1) (by omega)
    split
    ·simp only[List.length_cons];omega
    ·simp only[List.length_cons];omega
   ·rw[if_neg hb,if_neg hb]
    have h1:=oa t 0 (by omega)
    split
    ·simp only[List.length_cons];omega
    ·simp only[List.length_cons];omega
theorem v9(l:List Int):(gr l l.length).1.length<=2*l.length/\2*(gr l l.length).1.length<=3*l.length:=by
 have:=oa l 0 (Int.le_refl _)
 have h2:=rk l l.length
 rw[D4]at h2 ⊢
 omega
theorem yc{m:Mb}{S:bO}{mb:Int}{k:Nat}(h:f5 m S mb k=none):m.edge=true:=by
 unfold f5 at h
 split at h
 ·split at h
  ·assumption
  ·cases h
 ·cases h
theorem Bf{m:Mb}{mb:Int}{x0:oT}:∀k,gm m mb x0 k=none->m.edge=true:=by
 intro k
 induction k with
 | zero=>intro h;cases h
 | succ k ih=>
   intro h
   rw[gm]at h
   cases hy:gm m mb x0 k with
   | none=>exact ih hy
   | some y=>
     rw[hy]at h
     cases hr:f5 m y.S mb k with
     | none=>exact yc hr
     | some r=>
       have h2:Option.map _ (f5 m y.S mb k)=none:=h
       rw[hr]at h2
       cases h2
theorem yY{S:bO}{X bw:List Bool}{m:Mb}{mb:Int}(h:iB S X bw m mb=none):m.edge=true:=by
 unfold iB at h
 split at h
 ·cases h
 ·exact Bf 6 (Option.map_eq_none_iff.1 h)
theorem Hv{h:Hd}{p:Ph}{l:List Mb}{first:Int}(hT:fS h p l first):∀k,k<=l.length->∀x,jg l first (yW h p) k = .inr x->x.S.qp=if k=0 then p.qp else(l.getD (k-1) default).qp:=by
 intro k
 cases k with
 | zero=>intro _ x hx;cases hx;rfl
 | succ k=>
   intro hk y hy
   obtain⟨x,hx,hs⟩:=rU hy
   have hi:=rT hT k (by omega) x hx
   have hm:=EH hT (k:=k) (by omega)
   obtain⟨hc,z,hz,rfl⟩:=Cb hs
   have hk2:=tH hi.st hm (o6 hm hc) hz
   rw[if_neg (by omega),Nat.add_sub_cancel]
   exact hk2.qp
theorem Ca{h:Hd}{p:Ph}{l:List Mb}{first:Int}(hT:fS h p l first)(hM:Di p.inter p.qp l):∀k,k<=l.length->∀e,jg l first (yW h p) k = .inl e->e=2/\∃i,i<k/\(l.getD i default).edge=true:=by
 intro k
 induction k with
 | zero=>intro _ e h;cases h
 | succ k ih=>
   intro hk e he
   rw[jg]at he
   cases hx:jg l first (yW h p) k with
   | inl e'=>
     rw[hx]at he
     cases he
     obtain⟨a,i,b,c⟩:=ih (by omega) _ hx
     exact⟨a,i,by omega,c⟩
   | inr x=>
     rw[hx]at he
     have he:jI first k (l.getD k sW) x = .inl e:=he
     have hi:=rT hT k (by omega) x hx
     have hq:=Hv hT k (by omega) x hx
     have hc:=hM.chk k (by omega)
     rw[<-hq,<-hi.inter]at hc
     have hc:c7 (l.getD k sW) x.S.inter x.S.qp=0:=hc
     unfold jI at he
     rw[if_neg (by rw[hc];simp)]at he
     split at he
     ·rename_i hn
      cases he
      exact⟨rfl,k,by omega,yY hn⟩
     ·cases he
def lM(h:Hd):Hd:=if h.w=true then {h with a:=fun i=>max (h.a i) 8,b:=fun i=>max (h.b i) 8}else {h with w:=false,a:=fun _=>0,b:=fun _=>0}
abbrev xQ(h:Hd)(j:Nat):Hd:={h with a:=iz (fun i=>max (h.a i) 8) h.a j,b:=iz (fun i=>max (h.b i) 8) h.b j}
theorem CN{h g:Hd}(hw:h.w=g.w)(ha:∀i,i<64->h.a i=g.a i)(hb:∀i,i<64->h.b i=g.b i):bG h=bG g:=by
 unfold bG
 rw[hw,bJ ha,bJ hb]
theorem AJ(k:IntKind)(f:Nat->Int){n i:Nat}(hi:i<n)(z:Int):(ti k n f).set i (.int k z)=ti k n (gM f i z):=uX k n f i z
theorem FD(h:Hd){i:Nat}(hi:i<64)(z:Int):(bG h).set (1+i) (.int .u8 z)=bG {h with a:=gM h.a i z}:=by
 unfold bG
 rw[Nat.add_comm,List.set_cons_succ,List.set_append_left _ _ (by rw[aL];exact hi),AJ .u8 h.a hi z]
theorem FE(h:Hd){i:Nat}(hi:i<64)(z:Int):(bG h).set (65+i) (.int .u8 z)=bG {h with b:=gM h.b i z}:=by
 unfold bG
 rw[show 65+i=(64+i)+1 by omega,List.set_cons_succ,List.set_append_right _ _ (by rw[aL];omega),aL,show 64+i-64=i by omega,AJ .u8 h.b hi z]
theorem zJ:aX Tryz.prog 24 (bG ⟨0,0,false,fun _=>0,fun _=>0⟩):=by
 show aX Tryz.prog 24 (.bool false::((ti .u8 64 fun _=>0)++(ti .u8 64 fun _=>0)))
 infer_instance
theorem Eb(h:Hd)(hr:∀i,i<64->(0<=h.a i/\h.a i<=255)/\(0<=h.b i/\h.b i<=255)):aW Tryz.prog 61 [.agg (bG h)] [] (.agg (bG (lM h))) []:=by
 obtain⟨w,hw⟩:∃w,h.w=w:=⟨_,rfl⟩
 have h0:(bG h)[0]? = some (.bool w):=by rw[<-hw];rfl
 cases w
 ·have e:bG (lM h)=bG ⟨0,0,false,fun _=>0,fun _=>0⟩:=by unfold lM;rw[if_neg (by rw[hw];decide)];rfl
  rw[e]
  refine cO Tryz.func61 ?_
  repeat' (first
   |(refine qz ?_;first
    |refine qd (zs:=bG ⟨0,0,false,fun _=>0,fun _=>0⟩) (hz:=zJ) ?_
    |refine b0 (zs:=bG ⟨0,0,false,fun _=>0,fun _=>0⟩) (hz:=zJ) ?_
    |refine lO (cs:=bG ⟨0,0,false,fun _=>0,fun _=>0⟩) ?_ (hs1:=by rw[cW]) (hs2:=by rw[cW])
    |refine ld (hc:=h0) ?_)
   |refine zz ?_|refine zx (fun _=>?_) (fun _=>?_)|fail)
  show aD _ _ _ _ _ _ _ _;refine kV [] ?_
  rfl
 ·have e:bG (lM h)=bG (xQ h 64):=by
   unfold lM
   rw[if_pos hw]
   exact CN rfl (fun i hi=>by simp[iz,hi]) (fun i hi=>by simp[iz,hi])
  rw[e]
  refine cO Tryz.func61 ?_
  repeat' (first
   |(refine qz ?_;first
    |refine qd (zs:=bG ⟨0,0,false,fun _=>0,fun _=>0⟩) (hz:=zJ) ?_
    |refine ld (hc:=h0) ?_)
   |refine zz ?_|refine zx (fun _=>?_) (fun _=>?_)|fail)
  refine WX.bZ (σ:=Nat) (fun j=>[(8,.one (.int .i64 (j:Nat))),(1,.one (.ptr 0 0)),(2,.one (.ptr 1 0))]) (fun j=>[.cells (bG (xQ h j)) 24 false false,.cells (bG ⟨0,0,false,fun _=>0,fun _=>0⟩) 24 false false]) (fun j=>j<=64) (fun j=>64-j) 0 (by omega) (fun s _=>hX) (b_ [0,1] (obj:=by(repeat' (first|exact ae.nil|refine ae.flat (by rw[show xQ h 0=h by unfold xQ;rw[fI,fI]];rfl) ?_|refine ae.flat rfl ?_|refine ae.cons rfl ?_|refine ae.dead rfl ?_|refine ae.cons (by simp only[ah.ax,List.map_cons,List.map_nil,XC.ax,aB];exact rfl) ?_));first|done|fail)) ?_
  intro j hj ih
  by_cases hj64:j<64
  ·have ga:=uV (xQ h j) hj64
   have gb:=uW (xQ h j) hj64
   have ea:(xQ h j).a j=h.a j:=by simp[iz]
   have eb:(xQ h j).b j=h.b j:=by simp[iz]
   rw[ea]at ga
   rw[eb]at gb
   have hrj:=hr j hj64
   have e1:({xQ h j with a:=gM (xQ h j).a j (max (h.a j) 8),b:=gM (xQ h j).b j (max (h.b j) 8)}:Hd)=xQ h (j+1):=by
    show({h with a:=gM (iz (fun i=>max (h.a i) 8) h.a j) j (max (h.a j) 8),b:=gM (iz (fun i=>max (h.b i) 8) h.b j) j (max (h.b j) 8)}:Hd)=_
    rw[fH (fun i=>max (h.a i) 8),fH (fun i=>max (h.b i) 8)]
   repeat' (first
    |(refine qz ?_;first
     |refine ld (hc:=ga) ?_
     |refine ld (hc:=gb) ?_
     |refine st ?_ (hle:=by rw[cW];omega) (hv:=FD (xQ h j) hj64 (max (h.a j) 8))
     |refine st ?_ (hle:=by rw[cW];omega) (hv:=FE {xQ h j with a:=gM (xQ h j).a j (max (h.a j) 8)} hj64 (max (h.b j) 8)))
    |refine zz ?_|refine zx (fun _=>?_) (fun _=>?_)|fail)
   refine ih (j+1) _ _ _ (b_ [0,1] (obj:=by(repeat' (first|exact ae.nil|refine ae.flat (by rw[<-e1];rfl) ?_|refine ae.flat rfl ?_|refine ae.cons rfl ?_|refine ae.dead rfl ?_|refine ae.cons (by simp only[ah.ax,List.map_cons,List.map_nil,XC.ax,aB];exact rfl) ?_));first|done|fail)) (by omega) (by omega)
  ·obtain rfl:j=64:=by omega
   repeat' (first
    |(refine qz ?_;first
     |refine fV ?_ (hle:=by rw[cW])
     |refine lO (cs:=bG (xQ h 64)) ?_ (hs1:=by rw[cW]) (hs2:=by rw[cW]))
    |refine zz ?_|refine zx (fun _=>?_) (fun _=>?_)|fail)
   show aD _ _ _ _ _ _ _ _;refine kV [] ?_
   rfl
theorem G6{h g:Hd}(hr:∀i,i<64->(0<=h.a i/\h.a i<=255)/\(0<=h.b i/\h.b i<=255))(hg:lM h=g){HS:ai}(hb:Nat.blt HS.length Mem.bound=true):aC.Sound Tryz.prog ⟨61,[.agg (bG h)],HS,.agg (bG g),HS,[]⟩:=by
 subst hg
 exact au (Eb h hr) (by simp only[List.all_cons,List.all_nil,Bool.and_true];exact el h) (el _) hb
def og(h:Hd):Hd:={lM h with cols:=1+h.cols%2^3,rows:=1+h.rows%2^3}
structure vz(h:Hd):Prop where
 cols : -9223372036854775808<=h.cols/\h.cols<=9223372036854775807
 rows : -9223372036854775808<=h.rows/\h.rows<=9223372036854775807
 tab:∀i,i<64->(0<=h.a i/\h.a i<=255)/\(0<=h.b i/\h.b i<=255)
theorem Gk:aX Tryz.prog 26 (j5 ⟨0,0,false,fun _=>0,fun _=>0⟩):=by
 show aX Tryz.prog 26 (.int .i64 0 :: .int .i64 0 :: .bool false::((ti .u8 64 fun _=>0)++(ti .u8 64 fun _=>0)))
 infer_instance
theorem BD(h:Hd)(hr:vz h):aW Tryz.prog 35 [.agg (j5 h)] [] (.agg (j5 (og h))) []:=by
 have r1:=hr.cols
 have r2:=hr.rows
 refine cO Tryz.func35 ?_
 repeat' (first
  |(refine qz ?_;first
   |refine qd (zs:=j5 ⟨0,0,false,fun _=>0,fun _=>0⟩) (hz:=Gk) ?_
   |refine mU (cs:=bG h) ?_ (hle:=by rw[db];decide) (hc:=qB h)
   |refine an 3 ?_
   |refine cl ?_ (hi:=by exact G6 hr.tab rfl rfl))
  |refine zz ?_|refine zx (fun _=>?_) (fun _=>?_)|fail)
 show aD _ _ _ _ _ _ _ _;refine kV [] ?_
 rfl
theorem Ea{h g:Hd}(hr:vz h)(hg:og h=g){HS:ai}(hb:Nat.blt HS.length Mem.bound=true):aC.Sound Tryz.prog ⟨35,[.agg (j5 h)],HS,.agg (j5 g),HS,[]⟩:=by
 subst hg
 exact au (BD h hr) (by simp only[List.all_cons,List.all_nil,Bool.and_true];exact fG h) (fG _) hb
structure M1(p:Ph):Prop where
 id : -9223372036854775808<=p.id/\p.id<=9223372036854775807
 qp : -9223372036854775808<=p.qp/\p.qp<=9223372036854775807
def four(h:Hd):Hd:={og h with cols:=1+(og h).cols%2^2,rows:=1+(og h).rows%2^2}
structure Wy where
 x:Nat->Int
 y:Nat->Int
 same:Bool
structure KK(w:Wy):Prop where
 x:∀k,k<4 -> -128<=w.x k/\w.x k<128
 y:∀k,k<4 -> -128<=w.y k/\w.y k<128
structure Sm where
 kind:Int
 step:Int
 wy:Wy
 edge:Bool
 keep:Nat->Int
 seed:Int
 great:Bool
structure M5(s:Sm):Prop where
 kind:0<=s.kind/\s.kind<=255
 step:0<=s.step/\s.step<=255
 wy:KK s.wy
 keep:∀k,k<6->0<=s.keep k/\s.keep k<18446744073709551616
 seed:0<=s.seed/\s.seed<4294967296
end Go.Proofs.YtnkodcmkpfefhaaGreat
namespace Go.Proofs.YtnkodcmkpfefhaaGreat
open Go.ChangeShapes Go.WideShapes Go.ChangeAt Go.RowKit Go.Deep Go.Xm
def Eo:List c8:=[[c8.bool],ji [.int .u8] 64,ji [.int .u8] 64].flatten
def uB:List c8:=[[c8.int .i64],[.int .i64],Eo].flatten
theorem Lj:gN Tryz.prog 5 [.int .u8] := .int Tryz.underlying5 (by kernel_rfl)
theorem nH:gN Tryz.prog 3 [.int .i64] := .int Tryz.underlying3 (by kernel_rfl)
theorem qF:gN Tryz.prog 4 [.bool] := .bool Tryz.underlying4 (by kernel_rfl)
theorem EA:gN Tryz.prog 22 (ji [.int .u8] 64) := .array Tryz.underlying22 Lj (by kernel_rfl)
theorem Jn:gN Tryz.prog 24 Eo:=by
 refine .struct _ Tryz.underlying24 rfl (fun i f ks hi hk=>?_) (by kernel_rfl)
 match i,hi,hk with
 | 0,hi,hk=>cases hi;cases hk;exact⟨qF,rfl⟩
 | 1,hi,hk=>cases hi;cases hk;exact⟨EA,rfl⟩
 | 2,hi,hk=>cases hi;cases hk;exact⟨EA,rfl⟩
 | i+3,hi,hk=>simp at hk
theorem Li:gN Tryz.prog 26 uB:=by
 refine .struct _ Tryz.underlying26 rfl (fun i f ks hi hk=>?_) (by kernel_rfl)
 match i,hi,hk with
 | 0,hi,hk=>cases hi;cases hk;exact⟨nH,rfl⟩
 | 1,hi,hk=>cases hi;cases hk;exact⟨nH,rfl⟩
 | 2,hi,hk=>cases hi;cases hk;exact⟨Jn,rfl⟩
 | i+3,hi,hk=>simp at hk
theorem rH(a b:List c8)(g:Nat->Value):∀o,jd (a++b) g o=jd a g o++jd b g (o+a.length):=by
 induction a with
 | nil=>intro o;rfl
 | cons l a ih=>
   intro o
   rw[List.cons_append,jd,ih,jd,List.cons_append,List.length_cons]
   rw[show o+1+a.length=o+(a.length+1) by omega]
theorem tw(k:IntKind)(g:Nat->Value):∀n o,jd (ji [.int k] n) g o=ti k n fun i=>lint (g (o+i)):=by
 intro n
 induction n with
 | zero=>intro o;rfl
 | succ n ih=>
   intro o
   rw[ji,rH,ih]
   unfold ti
   rw[List.range_succ_eq_map,List.map_cons,List.map_map]
   show _::_=_::_
   congr 1
   refine List.map_congr_left fun i _=>?_
   show XC.int k (lint (g (o+1+i)))=XC.int k (lint (g (o+(i+1))))
   rw[show o+1+i=o+(i+1) by omega]
def Ja(g:Nat->Value):Hd:=⟨lint (g 0),lint (g 1),wu (g 2),fun i=>lint (g (3+i)),fun i=>lint (g (67+i))⟩
theorem qD:uB = [c8.int .i64,.int .i64,.bool]++(ji [.int .u8] 64++ji [.int .u8] 64):=by
 simp only[uB,Eo,List.flatten_cons,List.flatten_nil,List.append_nil,List.cons_append,List.nil_append]
theorem Ep(g:Nat->Value):jd uB g 0=j5 (Ja g):=by
 rw[qD]
 simp only[List.cons_append,List.nil_append,jd]
 rw[rH,tw,tw,jj]
 rfl
theorem km{k:IntKind}{v:Value}(h:(c8.int k).has v):(Lit.int k (lint v)).wf=true:=by
 obtain⟨z,rfl,hz⟩:=h
 exact hz
theorem rY(l:c8):∀n,ji [l] n=List.replicate n l
 | 0=>rfl
 | n+1=>by rw[ji,rY l n,List.replicate_succ];rfl
theorem Aw(l:c8){n i:Nat}(h:i<n)(r:List c8):(ji [l] n++r)[i]? = some l:=by
 rw[List.getElem?_append_left (by rw[rY,List.length_replicate];exact h),rY,List.getElem?_replicate,if_pos h]
theorem ok_int{ks:List c8}{g:Nat->Value}(h:l5 ks g 0){j:Nat}{k:IntKind}(hj:ks[j]? = some (.int k)):(Lit.int k (lint (g j))).wf=true:=by
 have:=km (h j _ hj)
 rwa [Nat.zero_add]at this
theorem Jb{g:Nat->Value}(h:l5 uB g 0):vz (Ja g):=by
 refine⟨bounds_i64 (ok_int h rfl),bounds_i64 (ok_int h rfl),fun i h64=>⟨bounds_u8 (ok_int h ?_),bounds_u8 (ok_int h ?_)⟩⟩
 ·rw[Nat.add_comm]
  rw[qD]
  show(ji [c8.int .u8] 64++ji [.int .u8] 64)[i]? = _
  exact Aw _ h64 _
 ·rw[show 67+i=(64+i)+3 by omega]
  rw[qD]
  show(ji [c8.int .u8] 64++ji [.int .u8] 64)[64+i]? = _
  rw[List.getElem?_append_right (by rw[jj];simp),jj]
  simp only[List.length_cons,List.length_nil,Nat.zero_add,Nat.mul_one,Nat.add_sub_cancel_left]
  rw[<-List.append_nil (ji _ 64)]
  exact Aw _ h64 _
variable [aw]
section
variable {H:Type} {enc:TypeId×Value->H} {w:World} {base:Nat} {spare:Nat->Bool} {held:Bool}
theorem Er{t:TypeId}{ks:List c8}(hl:gN Tryz.prog t ks){fuel:Nat}{cs:List Value}{x:Option (DataW H×List MemPlace)}{y:DataW H×List MemPlace}(h:DataW.trod enc Tryz.prog w base spare held fuel t cs=x)(hx:x=some y):∃g,l5 ks g 0/\∀β : Env,cs=(jd ks g 0).map (·.den β):=by
 obtain⟨h1,h2⟩:=hl.2 H enc w base spare held fuel cs y (h.trans hx)
 exact⟨_,(tu h1 h2 Env.zero).2,fun β=>(tu h1 h2 β).1⟩
end
end Go.Proofs.YtnkodcmkpfefhaaGreat
