/-
  A part of the proof: PutAll, MacLaw, Macro, FloatS, Made, Made2, AllLaw.
-/
import Derived.Test.YtagpkhindehcbaaGreatKbO
import Derived.Test.YtagpkhindehcbaaGreatKbR
import Derived.Test.YtagpkhindehcbaaGreatKbW
import Derived.Test.YtagpkhindehcbaaGreatKbX
set_option linter.unusedVariables false
set_option linter.unusedSectionVars false
set_option linter.unusedSimpArgs false
namespace Go.Proofs.YtagpkhindehcbaaGreat
open Go.Xm
variable [aC]
instance La (p:Ph) (e:TypeId) (a b:Bool):dT (.cells (iC p) e a b):=hZ rfl
instance L7:Inhabited Mb:=⟨lK⟩
theorem kE:bz Tryz.prog 53 (mC lK):=by
 have h:([.int .u8 0,.int .i64 0,.cplx .f64 0 0,.cplx .f64 0 0,.cplx .f64 0 0,.cplx .f64 0 0,.bool false]++(ti .i64 384 fun _=>0):List XC)=mC lK:=by
  unfold mC lK
  simp only [←dC]
  rfl
 rw [←h]
 infer_instance
theorem mV {m:Mb}(hm:iI m) {inter:Bool} {was:Int}(hw : -1000000≤was∧was≤1000000) {c:Int}(hc:dE m inter was=c) {HS:aq}(hb:Nat.blt HS.length Mem.bound=true):aG.Sound Tryz.prog ⟨28,[.agg (mC m),.one (.bool inter),.one (.int .i64 was)],HS,.one (.int .i64 c),HS,[]⟩:=by
 subst hc;exact Db hm hw hb
structure iJ (h:Hd) (p:Ph) (l:List Mb) (first:Int):Prop where
 hd:tv h
 ph:A5 p
 mok:∀ m∈l,iI m
 pos:0≤first
 many:1≤l.length
 few:l.length≤16
 all:first+(l.length:Nat)≤h.cols*h.rows
abbrev sE (h:Hd) (p:Ph):PS:=⟨sR h p,[],[]⟩
theorem Ap {h:Hd} {p:Ph}(ho:tv h) (hp:A5 p):v9 p.inter h.cols h.rows 0 (sE h p):=
 ⟨⟨ho.dims,⟨se,se,se⟩,qj⟩,rfl,rfl,rfl,by have:=hp.qp;show -1000000≤p.qp∧p.qp≤1000000;omega,Nat.zero_le _,Nat.zero_le _⟩
theorem nJ {l:List Int}(hl:ej l) (hn:l.length≤100000) {q:List Int}(hq:(gJ l l.length).1=q) {n:Nat}(hln:l.length=n) {HS:aq} {i:Nat}(hi:HS[i]? = some (c8 5 (il .u8 l))) {N:Nat}(hN:HS.length=N) {HS':aq}(hh:HS++[c8 5 (il .u8 q)]=HS') (hb:Nat.blt HS'.length Mem.bound=true) :
 aG.Sound Tryz.prog ⟨30,[iT i n 1],HS,iT N q.length 1,HS',[i]⟩:=by
 subst hq
 exact Bo hl hn hln hi hN hh hb
theorem qa {l:List Mb} {first:Int} {x0:PS} {k:Nat} {x:PS}(h:gw l first x0 k = .inr x):gw l first x0 (k+1)=lh first k (l.getD k default) x:=by
 rw [gw,h]
 rfl
theorem qb {first:Int} {k:Nat} {m:Mb} {x:PS} {c:Int}(hc:dE m x.S.inter x.S.qp=c) (h0:c≠0):lh first k m x = .inl c:=by
 subst hc
 exact if_pos h0
theorem qc {first:Int} {k:Nat} {m:Mb} {x:PS}(hc:dE m x.S.inter x.S.qp=0) (h:iG x.S x.B x.w m (first+(k:Nat))=none):lh first k m x = .inl 2:=by
 unfold lh
 rw [if_neg (fun g=>g hc),h]
theorem oS {first:Int} {k:Nat} {m:Mb} {x:PS}(hc:dE m x.S.inter x.S.qp=0) {z:bX × List Bool × List Bool}(h:iG x.S x.B x.w m (first+(k:Nat))=some z):lh first k m x = .inr ⟨z.1,z.2.1,z.2.2⟩:=by
 unfold lh
 rw [if_neg (fun g=>g hc),h]
set_option maxRecDepth 10000 in
set_option maxHeartbeats 8000000 in
theorem Di {h:Hd} {p:Ph} {l:List Mb} {first:Int}(hT:iJ h p l first) {cap:rE} {ob:ak}(ho:v_ ob mC l) {e:Int}(hx:gw l first (sE h p) l.length = .inl e) :
 bq Tryz.prog 11 [.one (.ptr 0 0),.agg (gC h),.agg (iC p),.one (.int .i64 first),.one (.slice 13 0 l.length cap)] [cc 1 5 9,ay 2 3 4 cM,bg cM,bj cM,bh cM,ay 6 7 8 cZ,bg cZ,bj cZ,bh cZ,ay 10 11 12 cP,bg cP,bj cP,bh cP,ob] (.tup [.one .nils,.one .nils,.one (.int .i64 e)]) [cc 1 5 9,ay 2 3 4 cM,bg cM,bj cM,bh cM,ay 6 7 8 cZ,bg cZ,bj cZ,bh cZ,ay 10 11 12 cP,bg cP,bj cP,bh cP,ob]:=by
 have hfo:=ho.flat
 have h1:=hT.hd.dims.c0
 have h2:=hT.hd.dims.c1
 have h3:=hT.hd.dims.r0
 have h4:=hT.hd.dims.r1
 have hf:=hT.pos
 have hm:=hT.many
 have hm16:=hT.few
 have ha:=hT.all
 have hcr:1≤h.cols*h.rows∧h.cols*h.rows≤64:=jL hT.hd.dims
 refine cO Tryz.func11 ?_
 repeat' (first
  |(refine qz ?_;first
   |refine jq ?_ (hle:=by rw [bn])
   |refine cl ?_ (hi:=by exact kW hT.hd rfl)
   |refine cl ?_ (hi:=by exact ll hT.ph rfl)
   |refine cl ?_ (hi:=by exact mT hT.hd rfl nL nA rfl))
  |refine zG ?_|refine zA ?_|refine cX (fun _=>?_) (fun _=>?_)|refine aS (fun _=>?_) (fun _=>?_)|refine zL ?_|refine zF ?_|fail)
 refine WX.dt rfl ?_
 refine WX.dt rfl ?_
 refine WX.ek (σ:=Nat × PS) (fun s=>[(3,.one (.int .i64 first)),(7,.one (.ptr 14 0)),(15,.one (.ptr 15 0)),(16,.one (.ptr 22 0)),(17,.one (.ptr 24 0)),(71,.one (.slice 13 0 l.length cap)),(72,.one (.int .i64 (l.length:Nat))),(73,.one (.int .i64 (s.1:Nat)))]) (fun s=>[cc 1 5 9,ay 2 3 4 cM,bg cM,bj cM,bh cM,ay 6 7 8 cZ,bg cZ,bj cZ,bh cZ,ay 10 11 12 cP,bg cP,bj cP,bh cP,ob,.cells (iC p) 28 false false,Hj s.2.S 15,cH 17 s.2.S.cols s.2.S.rows,.map (bp s.2.S.M),HE s.2.S 15,.map (ah s.2.S.A),.map (ah s.2.S.B),.map (ah s.2.S.C),aN 23 s.2.B,av s.2.B,aN 25 s.2.w,av s.2.w]) (fun s=>s.1≤l.length∧gw l first (sE h p) s.1 = .inr s.2∧v9 p.inter h.cols h.rows s.1 s.2) (fun s=>l.length-s.1) (0,sE h p) ⟨Nat.zero_le _,rfl,Ap hT.hd hT.ph⟩ (fun s _=>mO) (br [0,1,2,3,4,5,6,7,8,9,10,11,12,13,15,16,17,18,19,20,21,22,23,25,24,26] (obj:=by(repeat' (first|exact ae.nil|refine ae.aW rfl rfl rfl rfl ?_|refine ae.dead rfl ?_|refine ae.flat rfl ?_|refine ae.cons rfl ?_|refine ae.dead rfl ?_|refine ae.cons (by simp only [ak.aw,List.map_cons,List.map_nil,XC.aw,au];exact rfl) ?_));first|done|fail)) ?_
 intro s ⟨hle,hrun,hs⟩ ih
 by_cases hlt:s.1<l.length
 · have hmk:iI (l.getD s.1 default):=by
    rw [List.getD_eq_getElem?_getD,List.getElem?_eq_getElem hlt,Option.getD_some]
    exact hT.mok _ (List.getElem_mem hlt)
   have hnx:=qa hrun
   obtain⟨m,hme⟩:∃ m,l.getD s.1 default=m:=⟨_,rfl⟩
   have hme':l.getD (s.1:Int).toNat default=m:=hme
   rw [hme]at hmk hnx
   have hqq:=hs.qp
   have hmb:0≤first+(s.1:Nat)∧first+(s.1:Nat)<h.cols*h.rows:=by omega
   obtain⟨c,hc⟩:∃ c,dE m p.inter s.2.S.qp=c:=⟨_,rfl⟩
   have hcS:dE m s.2.S.inter s.2.S.qp=c:=by rw [hs.inter];exact hc
   by_cases hc0:c=0
   · subst hc0
     have hP:=sF hs (by omega) hmk hmb hcS
     cases hz:iG s.2.S s.2.B s.2.w m (first+(s.1:Nat))with
     | none=>
       have eN:=(hx.symm.trans (jS (hnx.trans (qc hcS hz)) l.length (by omega)))
       cases eN
       repeat' (first
        |(refine qz ?_;first
         |refine qA (zs:=mC lK) (hz:=kE) ?_
         |refine wV (enc:=mC) ?_
         |refine jC (cs:=mC m) ?_ (hy:=by rw [←hme'];rfl) (hs1:=by rw [aL]) (hs2:=by rw [aL])
         |refine jq ?_ (hle:=by rw [aL])
         |refine cl ?_ (hi:=by exact mV hmk hqq hc rfl)
         |refine cl ?_ (hi:=by exact Gb hP hz (i:=22) (k:=23) (N:=15) (j:=24) (g:=25) rfl rfl rfl rfl rfl rfl (by decide) nA rfl))
        |refine zG ?_|refine zA ?_|refine cX (fun _=>?_) (fun _=>?_)|refine aS (fun _=>?_) (fun _=>?_)|refine zL ?_|refine zF ?_|fail)
       show aF _ _ _ _ _ _ _ _;refine kV [0,1,2,3,4,5,6,7,8,9,10,11,12,13] ?_
       rfl
     | some z=>
       have hnx2:=hnx.trans (oS hcS hz)
       repeat' (first
        |(refine qz ?_;first
         |refine qA (zs:=mC lK) (hz:=kE) ?_
         |refine wV (enc:=mC) ?_
         |refine jC (cs:=mC m) ?_ (hy:=by rw [←hme'];rfl) (hs1:=by rw [aL]) (hs2:=by rw [aL])
         |refine jq ?_ (hle:=by rw [aL])
         |refine cl ?_ (hi:=by exact mV hmk hqq hc rfl)
         |refine cl ?_ (hi:=by exact y7 hP hz (i:=22) (k:=23) (N:=15) (j:=24) (g:=25) rfl rfl rfl rfl rfl rfl (by decide) nL nA rfl))
        |refine zG ?_|refine zA ?_|refine cX (fun _=>?_) (fun _=>?_)|refine aS (fun _=>?_) (fun _=>?_)|refine zL ?_|refine zF ?_|fail)
       exact ih (s.1+1,⟨z.1,z.2.1,z.2.2⟩) _ _ _ (br [0,1,2,3,4,5,6,7,8,9,10,11,12,13,14,15,16,17,18,19,20,21,22,27,24,28] (obj:=by(repeat' (first|exact ae.nil|refine ae.aW rfl rfl rfl rfl ?_|refine ae.flat rfl ?_|refine ae.cons rfl ?_|refine ae.dead rfl ?_|refine ae.cons (by simp only [ak.aw,List.map_cons,List.map_nil,XC.aw,au];exact rfl) ?_));first|done|fail)) ⟨by show s.1+1≤l.length;omega,hnx2,nR hs hmk (hnx2 ▸ hnx.symm)⟩ (by show l.length-(s.1+1)<l.length-s.1;omega)
   · have eB:=(hx.symm.trans (jS (hnx.trans (qb hcS hc0)) l.length (by omega)))
     cases eB
     repeat' (first
      |(refine qz ?_;first
       |refine qA (zs:=mC lK) (hz:=kE) ?_
       |refine wV (enc:=mC) ?_
       |refine jC (cs:=mC m) ?_ (hy:=by rw [←hme'];rfl) (hs1:=by rw [aL]) (hs2:=by rw [aL])
       |refine jq ?_ (hle:=by rw [aL])
       |refine cl ?_ (hi:=by exact mV hmk hqq hc rfl))
      |refine zG ?_|refine zA ?_|refine cX (fun _=>?_) (fun _=>?_)|refine aS (fun _=>?_) (fun _=>?_)|refine zL ?_|refine zF ?_|fail)
     show aF _ _ _ _ _ _ _ _;refine kV [0,1,2,3,4,5,6,7,8,9,10,11,12,13] ?_
     rfl
 · have e0:s.1=l.length:=by omega
   rw [e0,hx]at hrun
   cases hrun
set_option maxRecDepth 10000 in
set_option maxHeartbeats 8000000 in
theorem Gg {h:Hd} {p:Ph} {l:List Mb} {first:Int}(hT:iJ h p l first) {cap:rE} {ob:ak}(ho:v_ ob mC l) {x:PS}(hx:gw l first (sE h p) l.length = .inr x) {a b:List Int}(hqa:(gJ (wr (x.B++[true])) (wr (x.B++[true])).length).1=a) (hqb:(gJ (wr (x.w++[true])) (wr (x.w++[true])).length).1=b) (hla:a.length≤30000) (hlb:b.length≤30000) :
 bq Tryz.prog 11 [.one (.ptr 0 0),.agg (gC h),.agg (iC p),.one (.int .i64 first),.one (.slice 13 0 l.length cap)] [cc 1 5 9,ay 2 3 4 cM,bg cM,bj cM,bh cM,ay 6 7 8 cZ,bg cZ,bj cZ,bh cZ,ay 10 11 12 cP,bg cP,bj cP,bh cP,ob] (.tup [.one (mc 14 a.length 1),.one (mc 15 b.length 1),.one (.int .i64 0)]) [cc 1 5 9,ay 2 3 4 cM,bg cM,bj cM,bh cM,ay 6 7 8 cZ,bg cZ,bj cZ,bh cZ,ay 10 11 12 cP,bg cP,bj cP,bh cP,ob,c8 5 (il .u8 a),c8 5 (il .u8 b)]:=by
 have hfo:=ho.flat
 have h1:=hT.hd.dims.c0
 have h2:=hT.hd.dims.c1
 have h3:=hT.hd.dims.r0
 have h4:=hT.hd.dims.r1
 have hf:=hT.pos
 have hm:=hT.many
 have hm16:=hT.few
 have ha:=hT.all
 have hcr:1≤h.cols*h.rows∧h.cols*h.rows≤64:=jL hT.hd.dims
 refine cO Tryz.func11 ?_
 repeat' (first
  |(refine qz ?_;first
   |refine jq ?_ (hle:=by rw [bn])
   |refine cl ?_ (hi:=by exact kW hT.hd rfl)
   |refine cl ?_ (hi:=by exact ll hT.ph rfl)
   |refine cl ?_ (hi:=by exact mT hT.hd rfl nL nA rfl))
  |refine zG ?_|refine zA ?_|refine cX (fun _=>?_) (fun _=>?_)|refine aS (fun _=>?_) (fun _=>?_)|refine zL ?_|refine zF ?_|fail)
 refine WX.dt rfl ?_
 refine WX.dt rfl ?_
 refine WX.ek (σ:=Nat × PS) (fun s=>[(3,.one (.int .i64 first)),(7,.one (.ptr 14 0)),(15,.one (.ptr 15 0)),(16,.one (.ptr 22 0)),(17,.one (.ptr 24 0)),(71,.one (.slice 13 0 l.length cap)),(72,.one (.int .i64 (l.length:Nat))),(73,.one (.int .i64 (s.1:Nat)))]) (fun s=>[cc 1 5 9,ay 2 3 4 cM,bg cM,bj cM,bh cM,ay 6 7 8 cZ,bg cZ,bj cZ,bh cZ,ay 10 11 12 cP,bg cP,bj cP,bh cP,ob,.cells (iC p) 28 false false,Hj s.2.S 15,cH 17 s.2.S.cols s.2.S.rows,.map (bp s.2.S.M),HE s.2.S 15,.map (ah s.2.S.A),.map (ah s.2.S.B),.map (ah s.2.S.C),aN 23 s.2.B,av s.2.B,aN 25 s.2.w,av s.2.w]) (fun s=>s.1≤l.length∧gw l first (sE h p) s.1 = .inr s.2∧v9 p.inter h.cols h.rows s.1 s.2) (fun s=>l.length-s.1) (0,sE h p) ⟨Nat.zero_le _,rfl,Ap hT.hd hT.ph⟩ (fun s _=>mO) (br [0,1,2,3,4,5,6,7,8,9,10,11,12,13,15,16,17,18,19,20,21,22,23,25,24,26] (obj:=by(repeat' (first|exact ae.nil|refine ae.aW rfl rfl rfl rfl ?_|refine ae.dead rfl ?_|refine ae.flat rfl ?_|refine ae.cons rfl ?_|refine ae.dead rfl ?_|refine ae.cons (by simp only [ak.aw,List.map_cons,List.map_nil,XC.aw,au];exact rfl) ?_));first|done|fail)) ?_
 intro s ⟨hle,hrun,hs⟩ ih
 by_cases hlt:s.1<l.length
 · have hmk:iI (l.getD s.1 default):=by
    rw [List.getD_eq_getElem?_getD,List.getElem?_eq_getElem hlt,Option.getD_some]
    exact hT.mok _ (List.getElem_mem hlt)
   have hnx:=qa hrun
   obtain⟨m,hme⟩:∃ m,l.getD s.1 default=m:=⟨_,rfl⟩
   have hme':l.getD (s.1:Int).toNat default=m:=hme
   rw [hme]at hmk hnx
   have hqq:=hs.qp
   have hmb:0≤first+(s.1:Nat)∧first+(s.1:Nat)<h.cols*h.rows:=by omega
   obtain⟨c,hc⟩:∃ c,dE m p.inter s.2.S.qp=c:=⟨_,rfl⟩
   have hcS:dE m s.2.S.inter s.2.S.qp=c:=by rw [hs.inter];exact hc
   by_cases hc0:c=0
   · subst hc0
     have hP:=sF hs (by omega) hmk hmb hcS
     cases hz:iG s.2.S s.2.B s.2.w m (first+(s.1:Nat))with
     | none=>
       have eN:=(hx.symm.trans (jS (hnx.trans (qc hcS hz)) l.length (by omega)))
       cases eN
     | some z=>
       have hnx2:=hnx.trans (oS hcS hz)
       repeat' (first
        |(refine qz ?_;first
         |refine qA (zs:=mC lK) (hz:=kE) ?_
         |refine wV (enc:=mC) ?_
         |refine jC (cs:=mC m) ?_ (hy:=by rw [←hme'];rfl) (hs1:=by rw [aL]) (hs2:=by rw [aL])
         |refine jq ?_ (hle:=by rw [aL])
         |refine cl ?_ (hi:=by exact mV hmk hqq hc rfl)
         |refine cl ?_ (hi:=by exact y7 hP hz (i:=22) (k:=23) (N:=15) (j:=24) (g:=25) rfl rfl rfl rfl rfl rfl (by decide) nL nA rfl))
        |refine zG ?_|refine zA ?_|refine cX (fun _=>?_) (fun _=>?_)|refine aS (fun _=>?_) (fun _=>?_)|refine zL ?_|refine zF ?_|fail)
       exact ih (s.1+1,⟨z.1,z.2.1,z.2.2⟩) _ _ _ (br [0,1,2,3,4,5,6,7,8,9,10,11,12,13,14,15,16,17,18,19,20,21,22,27,24,28] (obj:=by(repeat' (first|exact ae.nil|refine ae.aW rfl rfl rfl rfl ?_|refine ae.flat rfl ?_|refine ae.cons rfl ?_|refine ae.dead rfl ?_|refine ae.cons (by simp only [ak.aw,List.map_cons,List.map_nil,XC.aw,au];exact rfl) ?_));first|done|fail)) ⟨by show s.1+1≤l.length;omega,hnx2,nR hs hmk (hnx2 ▸ hnx.symm)⟩ (by show l.length-(s.1+1)<l.length-s.1;omega)
   · have eB:=(hx.symm.trans (jS (hnx.trans (qb hcS hc0)) l.length (by omega)))
     cases eB
 · have e0:s.1=l.length:=by omega
   have hlB:=hs.len
   have hlw:=hs.lenw
   rw [e0,hx]at hrun
   obtain rfl:x=s.2:=Sum.inr.inj hrun
   have hB1:s.2.B.length≤1000000:=by omega
   have hB2:s.2.w.length≤1000000:=by omega
   have hL1:(wr (s.2.B++[true])).length≤100000:=by rw [fC,List.length_append,List.length_cons,List.length_nil];omega
   have hL2:(wr (s.2.w++[true])).length≤100000:=by rw [fC,List.length_append,List.length_cons,List.length_nil];omega
   have hY1:=iz (s.2.B++[true])
   have hY2:=iz (s.2.w++[true])
   repeat' (first
    |(refine qz ?_;first
     |refine cl ?_ (hi:=by exact pN (bs:=s.2.B) hB1 (i:=22) (k:=23) rfl rfl (by decide) nL nA rfl)
     |refine cl ?_ (hi:=by exact nJ (l:=wr (s.2.B++[true])) hY1 hL1 hqa (n:=((s.2.B++[true]).length+7)/8) (by rw [fC]) (i:=26) rfl nL nA rfl)
     |refine cl ?_ (hi:=by exact pN (bs:=s.2.w) hB2 (i:=24) (k:=25) rfl rfl (by decide) nL nA rfl)
     |refine cl ?_ (hi:=by exact nJ (l:=wr (s.2.w++[true])) hY2 hL2 hqb (n:=((s.2.w++[true]).length+7)/8) (by rw [fC]) (i:=28) rfl nL nA rfl))
    |refine zG ?_|refine zA ?_|refine cX (fun _=>?_) (fun _=>?_)|refine aS (fun _=>?_) (fun _=>?_)|refine bL (by first|exact ai.nil|exact ai.one _|exact ai.nN (by repeat' (first|exact True.intro|refine And.intro ?_ ?_|exact Compat.ne rfl|exact d_ rfl))) ⟨by kernel_rfl,?_⟩|refine bL (by first|exact ai.nil|exact ai.one _|exact ai.nN (by repeat' (first|exact True.intro|refine And.intro ?_ ?_|exact Compat.ne rfl|exact d_ rfl))) ?_|refine zF ?_|fail)
   show aF _ _ _ _ _ _ _ _;refine kV [0,1,2,3,4,5,6,7,8,9,10,11,12,13,27,29] ?_
   simp only [XV.aw,List.map_cons,List.map_nil,X1.aw,au];rfl
set_option maxRecDepth 10000 in
set_option maxHeartbeats 8000000 in
theorem Dg {h:Hd} {p:Ph} {l:List Mb} {first:Int}(hT:iJ h p l first) {cap:rE} {ob:ak}(ho:v_ ob mC l) {x:PS}(hx:gw l first (sE h p) l.length = .inr x) {a b:List Int}(hqa:(gJ (wr (x.B++[true])) (wr (x.B++[true])).length).1=a) (hqb:(gJ (wr (x.w++[true])) (wr (x.w++[true])).length).1=b) (hl:30000<a.length∨30000<b.length) :
 bq Tryz.prog 11 [.one (.ptr 0 0),.agg (gC h),.agg (iC p),.one (.int .i64 first),.one (.slice 13 0 l.length cap)] [cc 1 5 9,ay 2 3 4 cM,bg cM,bj cM,bh cM,ay 6 7 8 cZ,bg cZ,bj cZ,bh cZ,ay 10 11 12 cP,bg cP,bj cP,bh cP,ob] (.tup [.one .nils,.one .nils,.one (.int .i64 6)]) [cc 1 5 9,ay 2 3 4 cM,bg cM,bj cM,bh cM,ay 6 7 8 cZ,bg cZ,bj cZ,bh cZ,ay 10 11 12 cP,bg cP,bj cP,bh cP,ob]:=by
 have hfo:=ho.flat
 have h1:=hT.hd.dims.c0
 have h2:=hT.hd.dims.c1
 have h3:=hT.hd.dims.r0
 have h4:=hT.hd.dims.r1
 have hf:=hT.pos
 have hm:=hT.many
 have hm16:=hT.few
 have ha:=hT.all
 have hcr:1≤h.cols*h.rows∧h.cols*h.rows≤64:=jL hT.hd.dims
 refine cO Tryz.func11 ?_
 repeat' (first
  |(refine qz ?_;first
   |refine jq ?_ (hle:=by rw [bn])
   |refine cl ?_ (hi:=by exact kW hT.hd rfl)
   |refine cl ?_ (hi:=by exact ll hT.ph rfl)
   |refine cl ?_ (hi:=by exact mT hT.hd rfl nL nA rfl))
  |refine zG ?_|refine zA ?_|refine cX (fun _=>?_) (fun _=>?_)|refine aS (fun _=>?_) (fun _=>?_)|refine zL ?_|refine zF ?_|fail)
 refine WX.dt rfl ?_
 refine WX.dt rfl ?_
 refine WX.ek (σ:=Nat × PS) (fun s=>[(3,.one (.int .i64 first)),(7,.one (.ptr 14 0)),(15,.one (.ptr 15 0)),(16,.one (.ptr 22 0)),(17,.one (.ptr 24 0)),(71,.one (.slice 13 0 l.length cap)),(72,.one (.int .i64 (l.length:Nat))),(73,.one (.int .i64 (s.1:Nat)))]) (fun s=>[cc 1 5 9,ay 2 3 4 cM,bg cM,bj cM,bh cM,ay 6 7 8 cZ,bg cZ,bj cZ,bh cZ,ay 10 11 12 cP,bg cP,bj cP,bh cP,ob,.cells (iC p) 28 false false,Hj s.2.S 15,cH 17 s.2.S.cols s.2.S.rows,.map (bp s.2.S.M),HE s.2.S 15,.map (ah s.2.S.A),.map (ah s.2.S.B),.map (ah s.2.S.C),aN 23 s.2.B,av s.2.B,aN 25 s.2.w,av s.2.w]) (fun s=>s.1≤l.length∧gw l first (sE h p) s.1 = .inr s.2∧v9 p.inter h.cols h.rows s.1 s.2) (fun s=>l.length-s.1) (0,sE h p) ⟨Nat.zero_le _,rfl,Ap hT.hd hT.ph⟩ (fun s _=>mO) (br [0,1,2,3,4,5,6,7,8,9,10,11,12,13,15,16,17,18,19,20,21,22,23,25,24,26] (obj:=by(repeat' (first|exact ae.nil|refine ae.aW rfl rfl rfl rfl ?_|refine ae.dead rfl ?_|refine ae.flat rfl ?_|refine ae.cons rfl ?_|refine ae.dead rfl ?_|refine ae.cons (by simp only [ak.aw,List.map_cons,List.map_nil,XC.aw,au];exact rfl) ?_));first|done|fail)) ?_
 intro s ⟨hle,hrun,hs⟩ ih
 by_cases hlt:s.1<l.length
 · have hmk:iI (l.getD s.1 default):=by
    rw [List.getD_eq_getElem?_getD,List.getElem?_eq_getElem hlt,Option.getD_some]
    exact hT.mok _ (List.getElem_mem hlt)
   have hnx:=qa hrun
   obtain⟨m,hme⟩:∃ m,l.getD s.1 default=m:=⟨_,rfl⟩
   have hme':l.getD (s.1:Int).toNat default=m:=hme
   rw [hme]at hmk hnx
   have hqq:=hs.qp
   have hmb:0≤first+(s.1:Nat)∧first+(s.1:Nat)<h.cols*h.rows:=by omega
   obtain⟨c,hc⟩:∃ c,dE m p.inter s.2.S.qp=c:=⟨_,rfl⟩
   have hcS:dE m s.2.S.inter s.2.S.qp=c:=by rw [hs.inter];exact hc
   by_cases hc0:c=0
   · subst hc0
     have hP:=sF hs (by omega) hmk hmb hcS
     cases hz:iG s.2.S s.2.B s.2.w m (first+(s.1:Nat))with
     | none=>
       have eN:=(hx.symm.trans (jS (hnx.trans (qc hcS hz)) l.length (by omega)))
       cases eN
     | some z=>
       have hnx2:=hnx.trans (oS hcS hz)
       repeat' (first
        |(refine qz ?_;first
         |refine qA (zs:=mC lK) (hz:=kE) ?_
         |refine wV (enc:=mC) ?_
         |refine jC (cs:=mC m) ?_ (hy:=by rw [←hme'];rfl) (hs1:=by rw [aL]) (hs2:=by rw [aL])
         |refine jq ?_ (hle:=by rw [aL])
         |refine cl ?_ (hi:=by exact mV hmk hqq hc rfl)
         |refine cl ?_ (hi:=by exact y7 hP hz (i:=22) (k:=23) (N:=15) (j:=24) (g:=25) rfl rfl rfl rfl rfl rfl (by decide) nL nA rfl))
        |refine zG ?_|refine zA ?_|refine cX (fun _=>?_) (fun _=>?_)|refine aS (fun _=>?_) (fun _=>?_)|refine zL ?_|refine zF ?_|fail)
       exact ih (s.1+1,⟨z.1,z.2.1,z.2.2⟩) _ _ _ (br [0,1,2,3,4,5,6,7,8,9,10,11,12,13,14,15,16,17,18,19,20,21,22,27,24,28] (obj:=by(repeat' (first|exact ae.nil|refine ae.aW rfl rfl rfl rfl ?_|refine ae.flat rfl ?_|refine ae.cons rfl ?_|refine ae.dead rfl ?_|refine ae.cons (by simp only [ak.aw,List.map_cons,List.map_nil,XC.aw,au];exact rfl) ?_));first|done|fail)) ⟨by show s.1+1≤l.length;omega,hnx2,nR hs hmk (hnx2 ▸ hnx.symm)⟩ (by show l.length-(s.1+1)<l.length-s.1;omega)
   · have eB:=(hx.symm.trans (jS (hnx.trans (qb hcS hc0)) l.length (by omega)))
     cases eB
 · by_cases hla:30000<a.length
   all_goals
    have e0:s.1=l.length:=by omega
    have hlB:=hs.len
    have hlw:=hs.lenw
    rw [e0,hx]at hrun
    obtain rfl:x=s.2:=Sum.inr.inj hrun
    have hB1:s.2.B.length≤1000000:=by omega
    have hB2:s.2.w.length≤1000000:=by omega
    have hL1:(wr (s.2.B++[true])).length≤100000:=by rw [fC,List.length_append,List.length_cons,List.length_nil];omega
    have hL2:(wr (s.2.w++[true])).length≤100000:=by rw [fC,List.length_append,List.length_cons,List.length_nil];omega
    have hY1:=iz (s.2.B++[true])
    have hY2:=iz (s.2.w++[true])
    repeat' (first
     |(refine qz ?_;first
      |refine cl ?_ (hi:=by exact pN (bs:=s.2.B) hB1 (i:=22) (k:=23) rfl rfl (by decide) nL nA rfl)
      |refine cl ?_ (hi:=by exact nJ (l:=wr (s.2.B++[true])) hY1 hL1 hqa (n:=((s.2.B++[true]).length+7)/8) (by rw [fC]) (i:=26) rfl nL nA rfl)
      |refine cl ?_ (hi:=by exact pN (bs:=s.2.w) hB2 (i:=24) (k:=25) rfl rfl (by decide) nL nA rfl)
      |refine cl ?_ (hi:=by exact nJ (l:=wr (s.2.w++[true])) hY2 hL2 hqb (n:=((s.2.w++[true]).length+7)/8) (by rw [fC]) (i:=28) rfl nL nA rfl))
     |refine zG ?_|refine zA ?_|refine cX (fun _=>?_) (fun _=>?_)|refine aS (fun _=>?_) (fun _=>?_)|refine bL (by first|exact ai.nil|exact ai.one _|exact ai.nN (by repeat' (first|exact True.intro|refine And.intro ?_ ?_|exact Compat.ne rfl|exact d_ rfl))) ⟨by kernel_rfl,?_⟩|refine bL (by first|exact ai.nil|exact ai.one _|exact ai.nN (by repeat' (first|exact True.intro|refine And.intro ?_ ?_|exact Compat.ne rfl|exact d_ rfl))) ?_|refine zF ?_|fail)
    show aF _ _ _ _ _ _ _ _;refine kV [0,1,2,3,4,5,6,7,8,9,10,11,12,13] ?_
    rfl
end Go.Proofs.YtagpkhindehcbaaGreat
namespace Go.Proofs.YtagpkhindehcbaaGreat
open Go.Xm
variable [aC]
structure Sm where
 kind:Int
 step:Int
 wy:Wy
 edge:Bool
 keep:Nat→Int
 seed:Int
 great:Bool
def oy (s:Sm):List XC:=[.int .u8 s.kind,.int .u8 s.step,.int .i8 (s.wy.x 0),.int .i8 (s.wy.x 1),.int .i8 (s.wy.x 2),.int .i8 (s.wy.x 3),.int .i8 (s.wy.y 0),.int .i8 (s.wy.y 1),.int .i8 (s.wy.y 2),.int .i8 (s.wy.y 3),.bool s.wy.same,.bool s.edge,.int .u64 (s.keep 0),.int .u64 (s.keep 1),.int .u64 (s.keep 2),.int .u64 (s.keep 3),.int .u64 (s.keep 4),.int .u64 (s.keep 5),.int .u32 s.seed,.bool s.great]
instance:pU oy 20:=⟨fun _=>rfl,fun _=>rfl,by decide⟩
instance Lb (s:Sm) (e:TypeId) (a b:Bool):dT (.cells (oy s) e a b):=hZ rfl
structure i7 (s:Sm):Prop where
 kind:0≤s.kind∧s.kind≤255
 step:0≤s.step∧s.step≤255
 wy:zS s.wy
 keep:∀ k,k<6→0≤s.keep k∧s.keep k<18446744073709551616
 seed:0≤s.seed∧s.seed<4294967296
def tI (n:Int):Int:=IntKind.u32.wrap (IntKind.u32.wrap (n*1664525)+1013904223)
theorem wrap32 (x:Int):0≤IntKind.u32.wrap x∧IntKind.u32.wrap x<4294967296:=by
 unfold IntKind.wrap
 simp [IntKind.bits,IntKind.signed]
 omega
def k9 (s:Sm) (inter:Bool):Int:=if inter=true then s.kind%5 else 3+s.kind%2
def fG (s:Sm) (inter:Bool) (qp:Int):Int × Int:=
 if k9 s inter=4 then(if 1≤qp+oz (s.step%4)∧qp+oz (s.step%4)≤31 then(4,qp+oz (s.step%4))else(3,qp))else(k9 s inter,qp)
def MC (s:Sm) (k i:Nat) (x:Int × (Nat→Int)):Int × (Nat→Int):=
 (tI x.1,if s.keep k/2^i%2=1 then(if s.great=true then fw (fw x.2 (k*64+i) (tI x.1/2^16%7-3)) (k*64+i) (tI x.1/2^16%1001-500)else fw x.2 (k*64+i) (tI x.1/2^16%7-3))else x.2)
def oq (s:Sm) (k:Nat) (x:Int × (Nat→Int)):Nat→Int × (Nat→Int)
 | 0=>x
 | i+1=>MC s k i (oq s k x i)
def jP (s:Sm) (al:Bool):Nat→Int × (Nat→Int)
 | 0=>(s.seed,fun _=>0)
 | k+1=>((oq s k (jP s al k) 64).1,if al=true then fw (oq s k (jP s al k) 64).2 (k*64) ((oq s k (jP s al k) 64).1/2^20%128)else(oq s k (jP s al k) 64).2)
def od (K:Int) (w:Wy):Nat→Int × Int:=if K=1 then fun _=>q9 w 0 else if K=2 then fun k=>if k<4 then q9 w k else(0,0)else fun _=>(0,0)
def v5 (K:Int):Bool:=decide (K=3∨K=4)
def mJ (s:Sm) (inter:Bool) (qp:Int):Mb:=
 ⟨(fG s inter qp).1,(fG s inter qp).2,od (fG s inter qp).1 s.wy,if v5 (fG s inter qp).1=true then s.edge else false,if(fG s inter qp).1=0 then fun _=>0 else(jP s (v5 (fG s inter qp).1) 6).2⟩
theorem DY (s:Sm) (k:Nat) (x:Int × (Nat→Int)) (j:Nat) (hj:j<k*64):∀ i,(oq s k x i).2 j=x.2 j:=by
 intro i
 induction i with
 | zero=>rfl
 | succ i ih=>
   show(if s.keep k/2^i%2=1 then(if s.great=true then fw (fw (oq s k x i).2 (k*64+i) _) (k*64+i) _ else fw (oq s k x i).2 (k*64+i) _)else(oq s k x i).2) j=_
   split
   · split
     · unfold fw
       rw [if_neg (by omega),if_neg (by omega)];exact ih
     · unfold fw
       rw [if_neg (by omega)];exact ih
   · exact ih
theorem rA {f:Nat→Int} {lo hi:Int}(h:∀ j,lo≤f j∧f j≤hi) {i:Nat} {z:Int}(hz:lo≤z∧z≤hi):∀ j,lo≤fw f i z j∧fw f i z j≤hi:=fun j=>by
 unfold fw
 by_cases g:j=i
 · rw [if_pos g];exact hz
 · rw [if_neg g];exact h j
theorem GS (s:Sm) (k:Nat) (x:Int × (Nat→Int)) (h:∀ j,-500≤x.2 j∧x.2 j≤500):∀ i j,-500≤(oq s k x i).2 j∧(oq s k x i).2 j≤500:=by
 intro i
 induction i with
 | zero=>exact h
 | succ i ih=>
   show ∀ j,-500≤(if s.keep k/2^i%2=1 then(if s.great=true then fw (fw (oq s k x i).2 (k*64+i) (tI (oq s k x i).1/2^16%7-3)) (k*64+i) (tI (oq s k x i).1/2^16%1001-500)else fw (oq s k x i).2 (k*64+i) (tI (oq s k x i).1/2^16%7-3))else(oq s k x i).2) j∧(if s.keep k/2^i%2=1 then(if s.great=true then fw (fw (oq s k x i).2 (k*64+i) (tI (oq s k x i).1/2^16%7-3)) (k*64+i) (tI (oq s k x i).1/2^16%1001-500)else fw (oq s k x i).2 (k*64+i) (tI (oq s k x i).1/2^16%7-3))else(oq s k x i).2) j≤500
   obtain⟨z,hz⟩:∃ z,tI (oq s k x i).1/2^16=z:=⟨_,rfl⟩
   rw [hz]
   by_cases g1:s.keep k/2^i%2=1
   · rw [if_pos g1]
     by_cases g2:s.great=true
     · rw [if_pos g2]
       exact rA (rA ih (by omega)) (by omega)
     · rw [if_neg g2]
       exact rA ih (by omega)
   · rw [if_neg g1]
     exact ih
theorem w6 (s:Sm) (al:Bool):∀ k,(∀ j,-500≤(jP s al k).2 j∧(jP s al k).2 j≤500)∧(al=true→∀ j,j<k→0≤(jP s al k).2 (j*64)∧(jP s al k).2 (j*64)≤127):=by
 intro k
 induction k with
 | zero=>exact⟨fun j=>by show -500≤(0:Int)∧(0:Int)≤500;omega,fun _ j hj=>absurd hj (Nat.not_lt_zero _)⟩
 | succ k ih=>
   have hi:=GS s k (jP s al k) ih.1 64
   obtain⟨y,hy⟩:∃ y,oq s k (jP s al k) 64=y:=⟨_,rfl⟩
   have hkp:=fun j hj=>DY s k (jP s al k) j hj 64
   have e:(jP s al (k+1)).2=if al=true then fw y.2 (k*64) (y.1/2^20%128)else y.2:=by
    show(if al=true then fw (oq s k (jP s al k) 64).2 (k*64) ((oq s k (jP s al k) 64).1/2^20%128)else(oq s k (jP s al k) 64).2)=_
    rw [hy]
   rw [hy]at hi hkp
   obtain⟨z,hz⟩:∃ z,y.1/2^20=z:=⟨_,rfl⟩
   rw [e,hz]
   refine⟨fun j=>?_,fun ha j hj=>?_⟩
   · split
     · exact rA hi (by omega) j
     · exact hi j
   · rw [if_pos ha]
     unfold fw
     by_cases hjk:j=k
     · rw [if_pos (by rw [hjk])];omega
     · rw [if_neg (by omega),hkp (j*64) (by omega)]
       exact ih.2 ha j (by omega)
theorem E3 {q n:Int}(hn:0≤n∧n<4) (h:1≤q+oz n∧q+oz n≤31):(dI q (q+oz n)).2=true:=by
 have h4:n=0∨n=1∨n=2∨n=3:=by omega
 have e0:oz 0 = -2:=rfl
 have e1:oz 1 = -1:=rfl
 have e2:oz 2=1:=rfl
 have e3:oz 3=2:=rfl
 unfold dI
 rcases h4 with rfl|rfl|rfl|rfl
 · rw [e0]at h ⊢
   rw [if_neg (by omega),if_pos (by omega)]
 · rw [e1]at h ⊢
   rw [if_neg (by omega),if_neg (by omega),if_pos (by omega)]
 · rw [e2]at h ⊢
   rw [if_neg (by omega),if_neg (by omega),if_neg (by omega),if_pos (by omega)]
 · rw [e3]at h ⊢
   rw [if_neg (by omega),if_neg (by omega),if_neg (by omega),if_neg (by omega),if_pos (by omega)]
theorem w5 (s:Sm) (inter:Bool) (qp:Int) (hs:i7 s) (hq:1≤qp∧qp≤31):0≤(fG s inter qp).1∧(fG s inter qp).1≤4∧1≤(fG s inter qp).2∧(fG s inter qp).2≤31∧(inter=false→3≤(fG s inter qp).1)∧((fG s inter qp).1=4→(dI qp (fG s inter qp).2).2=true)∧((fG s inter qp).1≠4→(fG s inter qp).2=qp):=by
 have hk:=hs.kind
 have hst:=hs.step
 have hkk:0≤k9 s inter∧k9 s inter≤4∧(inter=false→3≤k9 s inter):=by
  unfold k9
  cases inter
  · rw [if_neg (by decide)];exact⟨by omega,by omega,fun _=>by omega⟩
  · rw [if_pos rfl];exact⟨by omega,by omega,fun h=>by cases h⟩
 unfold fG
 by_cases h4:k9 s inter=4
 · rw [if_pos h4]
   by_cases hr:1≤qp+oz (s.step%4)∧qp+oz (s.step%4)≤31
   · rw [if_pos hr]
     exact⟨by show(0:Int)≤4;decide,by show(4:Int)≤4;decide,hr.1,hr.2,fun _=>by show(3:Int)≤4;decide,fun _=>E3 (by omega) hr,fun g=>absurd rfl g⟩
   · rw [if_neg hr]
     exact⟨by show(0:Int)≤3;decide,by show(3:Int)≤4;decide,hq.1,hq.2,fun _=>by show(3:Int)≤3;decide,fun g=>absurd (show(3:Int)=4 from g) (by decide),fun _=>rfl⟩
 · rw [if_neg h4]
   exact⟨hkk.1,hkk.2.1,hq.1,hq.2,hkk.2.2,fun g=>absurd g h4,fun _=>rfl⟩
theorem D2 {s:Sm} {inter:Bool} {qp:Int}(hs:i7 s) (hq:1≤qp∧qp≤31):iI (mJ s inter qp)∧dE (mJ s inter qp) inter qp=0∧1≤(mJ s inter qp).qp∧(mJ s inter qp).qp≤31:=by
 obtain⟨k0,k4,q1,q31,hal,hst,hne⟩:=w5 s inter qp hs hq
 obtain⟨H,hH⟩:∃ H,fG s inter qp=H:=⟨_,rfl⟩
 have hm:mJ s inter qp=⟨H.1,H.2,od H.1 s.wy,if v5 H.1=true then s.edge else false,if H.1=0 then fun _=>0 else(jP s (v5 H.1) 6).2⟩:=by unfold mJ;rw [hH]
 rw [hH]at k0 k4 q1 q31 hal hst hne
 rw [hm]
 obtain⟨m,hmm⟩:∃ m:Mb,(⟨H.1,H.2,od H.1 s.wy,if v5 H.1=true then s.edge else false,if H.1=0 then fun _=>0 else(jP s (v5 H.1) 6).2⟩:Mb)=m:=⟨_,rfl⟩
 have mk:m.kind=H.1:=by rw [←hmm]
 have mq:m.qp=H.2:=by rw [←hmm]
 have mv:m.v=od H.1 s.wy:=by rw [←hmm]
 have me:m.edge=if v5 H.1=true then s.edge else false:=by rw [←hmm]
 have ml:m.lev=if H.1=0 then fun _=>0 else(jP s (v5 H.1) 6).2:=by rw [←hmm]
 have ma:alone m=v5 H.1:=by unfold alone v5;rw [mk]
 rw [hmm]
 have hlr:∀ i,-500≤m.lev i∧m.lev i≤500:=fun i=>by
  rw [ml]
  split
  · show -500≤(0:Int)∧(0:Int)≤500;omega
  · exact(w6 s _ 6).1 i
 have hwt:∀ k,k<4→dO (q9 s.wy k)=true:=CB hs.wy
 have hrz:dO (0,0)=true:=by decide
 have hvr:∀ k,k<4→dO (m.v k)=true:=fun k hk=>by
  rw [mv];unfold od
  split
  · exact hwt 0 (by decide)
  · split
    · show dO (if k<4 then q9 s.wy k else(0,0))=true
      rw [if_pos hk]
      exact hwt k hk
    · exact hrz
 have hvg:∀ k,k<4→oB m k:=fun k hk=>by
  refine⟨hvr k hk,fun g=>?_,fun g1 g2=>?_⟩
  · rw [mv];unfold od
    rw [mk]at g
    rw [if_neg g]
    split
    · rfl
    · rfl
  · rw [mv];unfold od
    rw [mk]at g1 g2
    rw [if_neg g1,if_neg g2]
 have hq':1≤m.qp∧m.qp≤31:=by rw [mq];exact⟨q1,q31⟩
 refine⟨⟨by rw [mk];omega,by omega,fun k=>?_,fun i=>by have:=hlr i;omega⟩,?_,hq'.1,hq'.2⟩
 · rw [mv];unfold od
   have tw:∀ k,k<4→bB (q9 s.wy k):=fun k hk=>by
    have:=hwt k hk
    unfold dO at this
    have h:=of_decide_eq_true this
    exact⟨by unfold fc;omega,by unfold fc;omega⟩
   split
   · exact tw 0 (by decide)
   · split
     · show bB (if k<4 then q9 s.wy k else(0,0))
       split
       · rename_i h;exact tw k h
       · exact Fe
     · exact Fe
 · unfold dE
   rw [if_neg (fun g=>by
    rcases g with g|⟨g1,g2⟩
    · rw [mk]at g;omega
    · have:=hal g1
      rw [ma]at g2
      unfold v5 at g2
      have:=of_decide_eq_false g2
      omega)]
   rw [if_neg (fun g=>by rw [me,←ma,g.2,if_neg (by decide)]at g;exact absurd g.1 (by decide))]
   rw [if_neg (fun g=>by
    have h4:H.1=4:=mk ▸ g.1
    have:=hst h4
    rw [mq,this]at g
    exact absurd g.2 (by decide))]
   rw [if_neg (fun g=>g.2 (by rw [mq];exact hne (by rw [←mk];exact g.1)))]
   have hv0:f_ m=0:=if_pos ⟨hvg 0 (by decide),hvg 1 (by decide),hvg 2 (by decide),hvg 3 (by decide)⟩
   rw [if_neg (fun g=>g hv0)]
   exact if_pos fun i hi=>⟨fun g=>by rw [ml,if_pos (by rw [←mk];exact g)],by have:=hlr i;omega,fun h64 ha=>by
    rw [ma]at ha
    have h0:H.1≠0:=fun e=>by rw [e]at ha;revert ha;decide
    rw [ml,if_neg h0]
    have:=(w6 s (v5 H.1) 6).2 ha (i/64) (by omega)
    rw [show i/64*64=i by omega]at this
    exact this⟩
end Go.Proofs.YtagpkhindehcbaaGreat
namespace Go.Proofs.YtagpkhindehcbaaGreat
open Go.Xm
variable [aC]
theorem rk (m:Mb) (z:Int):(mC m).set 0 (.int .u8 z)=mC {m with kind:=z}:=rfl
theorem KH (m:Mb) (z:Int):(mC m).set 1 (.int .i64 z)=mC {m with qp:=z}:=rfl
theorem GQ (m:Mb) (b:Bool):(mC m).set 6 (.bool b)=mC {m with edge:=b}:=rfl
theorem Ik (m:Mb) (q:Nat→Int × Int):(mC m).take 2++vt q++(mC m).drop (2+4)=mC {m with v:=q}:=rfl
theorem GR (m:Mb) (j:Nat) (z:Int):(mC m).set (7+j) (.int .i64 z)=mC {m with lev:=fw m.lev j z}:=by
 unfold mC
 rw [Nat.add_comm]
 simp only [List.set_cons_succ]
 rw [qi]
theorem rl (m:Mb) (k i:Nat) (z:Int):(mC m).set (7+k*64+i) (.int .i64 z)=mC {m with lev:=fw m.lev (k*64+i) z}:=by
 rw [Nat.add_assoc]
 exact GR m _ z
theorem gL (m:Mb):(mC m)[0]? = some (.int .u8 m.kind):=rfl
theorem xA {x:Int}(h:0≤x∧x<4):([.int .i64 (-2),.int .i64 (-1),.int .i64 1,.int .i64 2]:List XC)[x.toNat]? = some (.int .i64 (oz x)):=by
 have:x=0∨x=1∨x=2∨x=3:=by omega
 rcases this with rfl|rfl|rfl|rfl <;> rfl
theorem EU (s:Sm) {k:Nat}(hk:k<6):(oy s)[12+k]? = some (.int .u64 (s.keep k)):=by
 match k,hk with
 | 0,_=>rfl
 | 1,_=>rfl
 | 2,_=>rfl
 | 3,_=>rfl
 | 4,_=>rfl
 | 5,_=>rfl
theorem D0 (s:Sm) (al:Bool) (k:Nat) {y:Int × (Nat→Int)}(hy:oq s k (jP s al k) 64=y):jP s al (k+1)=(y.1,if al=true then fw y.2 (k*64) (y.1/2^20%128)else y.2):=by
 subst hy;rfl
theorem DZ (s:Sm) (k:Nat) (x:Int × (Nat→Int)) (i:Nat) {y:Int × (Nat→Int)}(hy:oq s k x i=y):oq s k x (i+1)=(tI y.1,if s.keep k/2^i%2=1 then(if s.great=true then fw (fw y.2 (k*64+i) (tI y.1/2^16%7-3)) (k*64+i) (tI y.1/2^16%1001-500)else fw y.2 (k*64+i) (tI y.1/2^16%7-3))else y.2):=by
 subst hy;rfl
abbrev F1 (K Q:Int):Mb:={lK with kind:=K,qp:=Q}
set_option maxRecDepth 10000 in
set_option maxHeartbeats 4000000 in
theorem GU {s : Sm} (hs:i7 s) (inter:Bool) {qp:Int}(hq:1≤qp∧qp≤31):bq Tryz.prog 21 [.agg (oy s),.one (.bool inter),.one (.int .i64 qp)] [] (.agg (mC (mJ s inter qp))) []:=by
 have hk:=hs.kind
 have hst:=hs.step
 have hkq:=w5 s inter qp hs hq
 refine cO Tryz.func21 ?_
 repeat' (first
  |(refine qz ?_;first
   |refine qA (zs:=mC lK) (hz:=kE) ?_
   |refine bS (zs:=mC lK) (hz:=kE) ?_
   |refine jC (cs:=mC (F1 (s.kind%5) qp)) ?_ (hs1:=by rw [aL]) (hs2:=by rw [aL]))
  |refine zG ?_|refine zA ?_|refine cX (fun _=>?_) (fun _=>?_)|refine aS (fun _=>?_) (fun _=>?_)|refine WX.u7 2 (σ:=Int) (fun K=>[(1,.one (.bool inter)),(2,.one (.int .i64 qp)),(3,.one (.ptr 0 0)),(6,.one (.ptr 1 0)),(7,.one (.ptr 2 0))]) (fun K=>[.cells (oy s) 81 false false,.cells (mC lK) 53 false false,.cells (mC (F1 K qp)) 53 false false]) (fun K=>k9 s inter=K) (fun s _=>mO) ?_ ?_|refine zL ?_|refine zF ?_|fail)
 · intro _
   cases inter
   · repeat' (first
      |(refine qz ?_;first
       |refine st ?_ (hle:=by rw [aL];omega) (hv:=rk _ _))
      |refine zG ?_|refine zA ?_|refine cX (fun _=>?_) (fun _=>?_)|refine aS (fun _=>?_) (fun _=>?_)|refine zL ?_|refine zF ?_|fail)
     (first|exact⟨k9 s false,_,rfl,(br [0,1,2])⟩|exact⟨rfl,k9 s false,_,rfl,(br [0,1,2])⟩)
   · repeat' (first|refine zG ?_|refine zA ?_|refine cX (fun _=>?_) (fun _=>?_)|refine aS (fun _=>?_) (fun _=>?_)|refine zL ?_|refine zF ?_|fail)
     (first|exact⟨k9 s true,_,rfl,(br [0,1,2])⟩|exact⟨rfl,k9 s true,_,rfl,(br [0,1,2])⟩)
 · intro K hK
   have hkr:0≤K∧K≤4:=by
    rw [←hK]
    unfold k9
    split <;> omega
   refine WX.u7 4 (σ:=Int × Int) (fun x=>[(1,.one (.bool inter)),(2,.one (.int .i64 qp)),(3,.one (.ptr 0 0)),(6,.one (.ptr 1 0)),(7,.one (.ptr 2 0))]) (fun x=>[.cells (oy s) 81 false false,.cells (mC lK) 53 false false,.cells (mC (F1 x.1 x.2)) 53 false false]) (fun x=>fG s inter qp=x) (fun s _=>mO) ?_ ?_
   · intro _
     have hb:=AI (s.step%4)
     by_cases h4:K=4
     · by_cases hr:1≤qp+oz (s.step%4)∧qp+oz (s.step%4)≤31
       · have e0:fG s inter qp=(4,qp+oz (s.step%4)):=by unfold fG;rw [hK,if_pos h4,if_pos hr]
         have hr1:=hr.1
         have hr2:=hr.2
         repeat' (first
          |(refine qz ?_;first
           |refine ld (c := .int .u8 K) ?_ (hc:=gL _)
           |refine st (c := .int .u8 3) ?_ (hle:=by rw [aL];omega) (hv:=rk _ _)
           |refine st (c := .int .u8 4) ?_ (hle:=by rw [aL];omega) (hv:=rk _ _)
           |refine st (c := .int .i64 (qp+oz (s.step%4))) ?_ (hle:=by rw [aL];omega) (hv:=KH _ _)
           |refine cl ?_ (hi:=by exact nf rfl)
           |refine r8 ?_ (hc:=xA (by omega)))
          |refine zG ?_|refine zA ?_|refine cX (fun _=>?_) (fun _=>?_)|refine aS (fun _=>?_) (fun _=>?_)|refine zL ?_|refine zF ?_|fail)
         (first|exact⟨(4,qp+oz (s.step%4)),_,e0,(br [0,1,2])⟩|exact⟨rfl,(4,qp+oz (s.step%4)),_,e0,(br [0,1,2])⟩)
       · have e0:fG s inter qp=(3,qp):=by unfold fG;rw [hK,if_pos h4,if_neg hr]
         repeat' (first
          |(refine qz ?_;first
           |refine ld (c := .int .u8 K) ?_ (hc:=gL _)
           |refine st (c := .int .u8 3) ?_ (hle:=by rw [aL];omega) (hv:=rk _ _)
           |refine cl ?_ (hi:=by exact nf rfl)
           |refine r8 ?_ (hc:=xA (by omega)))
          |refine zG ?_|refine zA ?_|refine cX (fun _=>?_) (fun _=>?_)|refine aS (fun _=>?_) (fun _=>?_)|refine zL ?_|refine zF ?_|fail)
         all_goals first|(exfalso;omega)|(first|exact⟨(3,qp),_,e0,(br [0,1,2])⟩|exact⟨rfl,(3,qp),_,e0,(br [0,1,2])⟩)
     · have e0:fG s inter qp=(K,qp):=by unfold fG;rw [hK,if_neg h4]
       repeat' (first
        |(refine qz ?_;first
         |refine ld (c := .int .u8 K) ?_ (hc:=gL _))
        |refine zG ?_|refine zA ?_|refine cX (fun _=>?_) (fun _=>?_)|refine aS (fun _=>?_) (fun _=>?_)|refine zL ?_|refine zF ?_|fail)
       (first|exact⟨(K,qp),_,e0,(br [0,1,2])⟩|exact⟨rfl,(K,qp),_,e0,(br [0,1,2])⟩)
   · intro H hH
     rw [hH]at hkq
     obtain⟨k0,k4,q1,q31,-,-,-⟩:=hkq
     obtain⟨q,hwq⟩:∃ q,q9 s.wy=q:=⟨_,rfl⟩
     by_cases h0:H.1=0
     · have eM:mJ s inter qp=F1 H.1 H.2:=by
        unfold mJ
        rw [hH]
        have e1:od H.1 s.wy=fun _=>(0,0):=by unfold od;rw [if_neg (by omega),if_neg (by omega)]
        have e2:v5 H.1=false:=decide_eq_false (by omega)
        rw [e1,e2,if_pos h0,if_neg (by decide)]
        rfl
       rw [eM]
       repeat' (first
        |(refine qz ?_;first
         |refine t9 (cs:=K1 s.wy) ?_
         |refine cl ?_ (hi:=by exact AQ hs.wy hwq rfl)
         |refine qA (zs:=vt fun _=>(0,0)) (hz:=zeroV) ?_
         |refine jC (cs:=vt q) ?_ (hs1:=by rfl) (hs2:=by rfl)
         |refine ld (c := .int .u8 H.1) ?_ (hc:=gL _)
         |refine jq ?_ (hle:=by rw [aL])
         |refine jC (cs:=mC (F1 H.1 H.2)) ?_ (hs1:=by rw [aL]) (hs2:=by rw [aL]))
        |refine zG ?_|refine zA ?_|refine cX (fun _=>?_) (fun _=>?_)|refine aS (fun _=>?_) (fun _=>?_)|refine zL ?_|refine zF ?_|fail)
       show aF _ _ _ _ _ _ _ _;refine kV [] ?_
       rfl
     · obtain ⟨m, hm⟩:∃ m:Mb,(⟨H.1,H.2,od H.1 s.wy,if v5 H.1=true then s.edge else false,fun _=>0⟩:Mb)=m:=⟨_,rfl⟩
       repeat' (first
        |(refine qz ?_;first
         |refine t9 (cs:=K1 s.wy) ?_
         |refine cl ?_ (hi:=by exact AQ hs.wy hwq rfl)
         |refine qA (zs:=vt fun _=>(0,0)) (hz:=zeroV) ?_
         |refine jC (cs:=vt q) ?_ (hs1:=by rfl) (hs2:=by rfl))
        |refine zG ?_|refine zA ?_|refine cX (fun _=>?_) (fun _=>?_)|refine aS (fun _=>?_) (fun _=>?_)|refine WX.u7 10 (σ:=Mb) (fun x=>[(3,.one (.ptr 0 0)),(6,.one (.ptr 1 0)),(7,.one (.ptr 2 0))]) (fun x=>[.cells (oy s) 81 false false,.cells (mC lK) 53 false false,.cells (mC x) 53 false false]) (fun x=>m=x) (fun s _=>mO) ?_ ?_|refine zL ?_|refine zF ?_|fail)
       · intro _
         by_cases h1:H.1=1
         · have e1:mC m=mC {F1 H.1 H.2 with v:=fun _=>q 0}:=by
            rw [←hm,←hwq]
            have e1:od H.1 s.wy=fun _=>q9 s.wy 0:=if_pos h1
            have e2:v5 H.1=false:=decide_eq_false (by omega)
            rw [e1,e2,if_neg (by decide)]
            rfl
           repeat' (first
            |(refine qz ?_;first
             |refine ld (c := .int .u8 H.1) ?_ (hc:=gL _)
             |refine cl ?_ (hi:=by exact IB rfl)
             |refine LV (off:=2) (s:=4) ?_ (hs2:=by rw [aL];omega) (hv:=Ik (F1 H.1 H.2) (fun _=>q 0)))
            |refine zG ?_|refine zA ?_|refine cX (fun _=>?_) (fun _=>?_)|refine aS (fun _=>?_) (fun _=>?_)|refine zL ?_|refine zF ?_|fail)
           first|exact⟨m,_,rfl,(br [0,1,2] (obj:=by(repeat' (first|exact ae.nil|refine ae.flat (by rw [e1];rfl) ?_|refine ae.flat rfl ?_|refine ae.cons rfl ?_|refine ae.dead rfl ?_|refine ae.cons (by simp only [ak.aw,List.map_cons,List.map_nil,XC.aw,au];exact rfl) ?_));first|done|fail))⟩|exact⟨rfl,m,_,rfl,(br [0,1,2] (obj:=by(repeat' (first|exact ae.nil|refine ae.flat (by rw [e1];rfl) ?_|refine ae.flat rfl ?_|refine ae.cons rfl ?_|refine ae.dead rfl ?_|refine ae.cons (by simp only [ak.aw,List.map_cons,List.map_nil,XC.aw,au];exact rfl) ?_));first|done|fail))⟩
         · by_cases h2:H.1=2
           · have e1:mC m=mC {F1 H.1 H.2 with v:=q}:=by
              rw [←hm,←hwq]
              have e1:od H.1 s.wy=fun k=>if k<4 then q9 s.wy k else(0,0):=by unfold od;rw [if_neg h1,if_pos h2]
              have e2:v5 H.1=false:=decide_eq_false (by omega)
              rw [e1,e2,if_neg (by decide)]
              rfl
             repeat' (first
              |(refine qz ?_;first
               |refine ld (c := .int .u8 H.1) ?_ (hc:=gL _)
               |refine jq ?_ (hle:=by rfl)
               |refine LV (cs:=vt q) (off:=2) (s:=4) ?_ (hs2:=by rw [aL];omega) (hv:=Ik (F1 H.1 H.2) q))
              |refine zG ?_|refine zA ?_|refine cX (fun _=>?_) (fun _=>?_)|refine aS (fun _=>?_) (fun _=>?_)|refine zL ?_|refine zF ?_|fail)
             first|exact⟨m,_,rfl,(br [0,1,2] (obj:=by(repeat' (first|exact ae.nil|refine ae.flat (by rw [e1];rfl) ?_|refine ae.flat rfl ?_|refine ae.cons rfl ?_|refine ae.dead rfl ?_|refine ae.cons (by simp only [ak.aw,List.map_cons,List.map_nil,XC.aw,au];exact rfl) ?_));first|done|fail))⟩|exact⟨rfl,m,_,rfl,(br [0,1,2] (obj:=by(repeat' (first|exact ae.nil|refine ae.flat (by rw [e1];rfl) ?_|refine ae.flat rfl ?_|refine ae.cons rfl ?_|refine ae.dead rfl ?_|refine ae.cons (by simp only [ak.aw,List.map_cons,List.map_nil,XC.aw,au];exact rfl) ?_));first|done|fail))⟩
           · have e1:mC m=mC {F1 H.1 H.2 with edge:=s.edge}:=by
              rw [←hm]
              have e1:od H.1 s.wy=fun _=>(0,0):=by unfold od;rw [if_neg h1,if_neg h2]
              have e2:v5 H.1=true:=decide_eq_true (by omega)
              rw [e1,e2,if_pos rfl]
              rfl
             repeat' (first
              |(refine qz ?_;first
               |refine ld (c := .int .u8 H.1) ?_ (hc:=gL _)
               |refine st (c := .bool s.edge) ?_ (hle:=by rw [aL];omega) (hv:=GQ _ _))
              |refine zG ?_|refine zA ?_|refine cX (fun _=>?_) (fun _=>?_)|refine aS (fun _=>?_) (fun _=>?_)|refine zL ?_|refine zF ?_|fail)
             first|exact⟨m,_,rfl,(br [0,1,2] (obj:=by(repeat' (first|exact ae.nil|refine ae.flat (by rw [e1];rfl) ?_|refine ae.flat rfl ?_|refine ae.cons rfl ?_|refine ae.dead rfl ?_|refine ae.cons (by simp only [ak.aw,List.map_cons,List.map_nil,XC.aw,au];exact rfl) ?_));first|done|fail))⟩|exact⟨rfl,m,_,rfl,(br [0,1,2] (obj:=by(repeat' (first|exact ae.nil|refine ae.flat (by rw [e1];rfl) ?_|refine ae.flat rfl ?_|refine ae.cons rfl ?_|refine ae.dead rfl ?_|refine ae.cons (by simp only [ak.aw,List.map_cons,List.map_nil,XC.aw,au];exact rfl) ?_));first|done|fail))⟩
       · intro x hx
         subst hx
         have em0:mC m=mC {m with lev:=fun _=>0}:=by rw [←hm]
         obtain⟨al,hal⟩:∃ al,v5 H.1=al:=⟨_,rfl⟩
         have hma:alone m=al:=by rw [←hal,←hm];rfl
         have eM:mJ s inter qp = {m with lev:=(jP s al 6).2}:=by
          unfold mJ
          rw [hH,if_neg h0,←hal,←hm]
         rw [eM]
         have hsd:=hs.seed
         repeat' (first
          |(refine qz ?_;first
           |refine ld (c := .int .u32 s.seed) ?_)
          |refine zG ?_|refine zA ?_|refine cX (fun _=>?_) (fun _=>?_)|refine aS (fun _=>?_) (fun _=>?_)|refine zL ?_|refine zF ?_|fail)
         refine WX.ek (σ:=Nat × Int × (Nat→Int)) (fun t=>[(3,.one (.ptr 0 0)),(6,.one (.ptr 1 0)),(7,.one (.ptr 2 0)),(10,.one (.int .u32 t.2.1)),(68,.one (.int .i64 (t.1:Nat)))]) (fun t=>[.cells (oy s) 81 false false,.cells (mC lK) 53 false false,.cells (mC {m with lev:=t.2.2}) 53 false false]) (fun t=>t.1≤6∧jP s al t.1=t.2∧0≤t.2.1∧t.2.1<4294967296) (fun t=>6-t.1) (0,s.seed,fun _=>0) ⟨Nat.zero_le _,rfl,hsd.1,hsd.2⟩ (fun s _=>mO) (br [0,1,2] (obj:=by(repeat' (first|exact ae.nil|refine ae.flat (by rw [em0];rfl) ?_|refine ae.flat rfl ?_|refine ae.cons rfl ?_|refine ae.dead rfl ?_|refine ae.cons (by simp only [ak.aw,List.map_cons,List.map_nil,XC.aw,au];exact rfl) ?_));first|done|fail)) ?_
         intro t ⟨ht6,hto,htn⟩ ih
         by_cases hlt:t.1<6
         · have hkp:=hs.keep t.1 hlt
           repeat' (first|refine zG ?_|refine zA ?_|refine cX (fun _=>?_) (fun _=>?_)|refine aS (fun _=>?_) (fun _=>?_)|refine zL ?_|refine zF ?_|fail)
           refine WX.ek (σ:=Nat × Int × (Nat→Int)) (fun u=>[(3,.one (.ptr 0 0)),(6,.one (.ptr 1 0)),(7,.one (.ptr 2 0)),(10,.one (.int .u32 u.2.1)),(11,.one (.int .i64 (t.1:Nat))),(68,.one (.int .i64 (t.1:Nat))),(71,.one (.int .i64 (u.1:Nat)))]) (fun u=>[.cells (oy s) 81 false false,.cells (mC lK) 53 false false,.cells (mC {m with lev:=u.2.2}) 53 false false]) (fun u=>u.1≤64∧oq s t.1 t.2 u.1=u.2∧0≤u.2.1∧u.2.1<4294967296) (fun u=>64-u.1) (0,t.2) ⟨Nat.zero_le _,rfl,htn⟩ (fun s _=>mO) (br [0,1,2]) ?_
           intro u ⟨hu64,hui,hun⟩ ih2
           by_cases hlu:u.1<64
           · have hn:=wrap32 (IntKind.u32.wrap (u.2.1*1664525)+1013904223)
             have hd:0≤IntKind.u32.wrap (IntKind.u32.wrap (u.2.1*1664525)+1013904223)/2^(16:Int).toNat∧IntKind.u32.wrap (IntKind.u32.wrap (u.2.1*1664525)+1013904223)/2^(16:Int).toNat<4294967296:=by
              show 0≤IntKind.u32.wrap (IntKind.u32.wrap (u.2.1*1664525)+1013904223)/2^16∧IntKind.u32.wrap (IntKind.u32.wrap (u.2.1*1664525)+1013904223)/2^16<4294967296
              omega
             have hk2:=EU s hlt
             have hnx:=DZ s t.1 t.2 u.1 hui
             by_cases hbit:s.keep t.1/2^((u.1:Nat):Int).toNat%2^1=1
             · have hbit':s.keep t.1/2^u.1%2=1:=hbit
               obtain⟨gr,hgr⟩:∃ g,s.great=g:=⟨_,rfl⟩
               have hl:(oy s)[19]? = some (.bool gr):=by rw [←hgr];rfl
               rw [if_pos hbit',hgr]at hnx
               cases gr
               · rw [if_neg (by decide)]at hnx
                 repeat' (first
                  |(refine qz ?_;first
                   |refine LF (k := .u32) ?_
                   |refine Ll (k := .u32) ?_
                   |refine ld (hc:=hl) ?_
                   |refine ld (hc:=hk2) ?_
                   |refine an 1 ?_
                   |refine st ?_ (hle:=by rw [aL];omega) (hv:=rl _ _ _ _))
                  |refine zG ?_|refine zA ?_|refine cX (fun _=>?_) (fun _=>?_)|refine aS (fun _=>?_) (fun _=>?_)|refine zL ?_|refine zF ?_|fail)
                 exact ih2 (u.1+1,tI u.2.1,fw u.2.2 (t.1*64+u.1) (tI u.2.1/2^16%7-3)) _ _ _ (br [0,1,2]) ⟨by show u.1+1≤64;omega,hnx,hn.1,hn.2⟩ (by show 64-(u.1+1)<64-u.1;omega)
               · rw [if_pos rfl]at hnx
                 repeat' (first
                  |(refine qz ?_;first
                   |refine LF (k := .u32) ?_
                   |refine Ll (k := .u32) ?_
                   |refine ld (hc:=hl) ?_
                   |refine ld (hc:=hk2) ?_
                   |refine an 1 ?_
                   |refine st ?_ (hle:=by rw [aL];omega) (hv:=rl _ _ _ _))
                  |refine zG ?_|refine zA ?_|refine cX (fun _=>?_) (fun _=>?_)|refine aS (fun _=>?_) (fun _=>?_)|refine zL ?_|refine zF ?_|fail)
                 exact ih2 (u.1+1,tI u.2.1,fw (fw u.2.2 (t.1*64+u.1) (tI u.2.1/2^16%7-3)) (t.1*64+u.1) (tI u.2.1/2^16%1001-500)) _ _ _ (br [0,1,2]) ⟨by show u.1+1≤64;omega,hnx,hn.1,hn.2⟩ (by show 64-(u.1+1)<64-u.1;omega)
             · have hbit':¬s.keep t.1/2^u.1%2=1:=hbit
               rw [if_neg hbit']at hnx
               repeat' (first
                |(refine qz ?_;first
                 |refine LF (k := .u32) ?_
                 |refine Ll (k := .u32) ?_
                 |refine ld (hc:=hk2) ?_
                 |refine an 1 ?_
                 |refine st ?_ (hle:=by rw [aL];omega) (hv:=rl _ _ _ _))
                |refine zG ?_|refine zA ?_|refine cX (fun _=>?_) (fun _=>?_)|refine aS (fun _=>?_) (fun _=>?_)|refine zL ?_|refine zF ?_|fail)
               exact ih2 (u.1+1,tI u.2.1,u.2.2) _ _ _ (br [0,1,2]) ⟨by show u.1+1≤64;omega,hnx,hn.1,hn.2⟩ (by show 64-(u.1+1)<64-u.1;omega)
           · have e64:u.1=64:=by omega
             rw [e64,←hto]at hui
             have hox:=D0 s al t.1 hui
             have hd:0≤u.2.1/2^(20:Int).toNat∧u.2.1/2^(20:Int).toNat<4294967296:=by
              show 0≤u.2.1/2^20∧u.2.1/2^20<4294967296
              omega
             cases al
             · rw [if_neg (by decide)]at hox
               repeat' (first
                |(refine qz ?_;first
                 |refine jq ?_ (hle:=by rw [aL])
                 |refine cl ?_ (hi:=by exact gp (m:={m with lev:=u.2.2}) (b:=false) hma rfl))
                |refine zG ?_|refine zA ?_|refine cX (fun _=>?_) (fun _=>?_)|refine aS (fun _=>?_) (fun _=>?_)|refine zL ?_|refine zF ?_|fail)
               exact ih (t.1+1,u.2.1,u.2.2) _ _ _ (br [0,1,2]) ⟨by show t.1+1≤6;omega,hox,hun⟩ (by show 6-(t.1+1)<6-t.1;omega)
             · rw [if_pos rfl]at hox
               repeat' (first
                |(refine qz ?_;first
                 |refine jq ?_ (hle:=by rw [aL])
                 |refine cl ?_ (hi:=by exact gp (m:={m with lev:=u.2.2}) (b:=true) hma rfl)
                 |refine st ?_ (hle:=by rw [aL];omega) (hv:=rl _ _ 0 _))
                |refine zG ?_|refine zA ?_|refine cX (fun _=>?_) (fun _=>?_)|refine aS (fun _=>?_) (fun _=>?_)|refine zL ?_|refine zF ?_|fail)
               exact ih (t.1+1,u.2.1,fw u.2.2 (t.1*64) (u.2.1/2^20%128)) _ _ _ (br [0,1,2]) ⟨by show t.1+1≤6;omega,hox,hun⟩ (by show 6-(t.1+1)<6-t.1;omega)
         · have e6:t.1=6:=by omega
           rw [e6]at hto
           rw [hto]
           repeat' (first
            |(refine qz ?_;first
             |refine jq ?_ (hle:=by rw [aL])
             |refine jC ?_ (hs1:=by rw [aL]) (hs2:=by rw [aL]))
            |refine zG ?_|refine zA ?_|refine cX (fun _=>?_) (fun _=>?_)|refine aS (fun _=>?_) (fun _=>?_)|refine zL ?_|refine zF ?_|fail)
           show aF _ _ _ _ _ _ _ _;refine kV [] ?_
           rfl
end Go.Proofs.YtagpkhindehcbaaGreat
namespace Go.Xm
variable [aC]
section
variable {O:cY} {P:Program} {ops:Array Oper} {nt:Nat} {tr:List (Mem × Out)} {rs:Nat→T XV} {ms:Nat→Mem} {ds:Nat→Out}
structure J8 (ops:Array Oper) (ms:Nat→Mem) (ds:Nat→Out) (f d:Nat) (t:TypeId):Prop where
 look:∀(i:Nat) (oi:Oper),ops[i]? = some oi→i≠f→d∈oi.looksAt ops→∀ e,e<f→(ds e).eff=true→iB ops i e
 rd:∀(i:Nat),i<ops.size→i≠f→(ds i).fp=some (ms f).n→∀ e,e<f→(ds e).eff=true→iB ops i e
 ro:∀ j,j<(ms f).n→((ms f).get j).live=true→((ms f).get j).own=true∨(j<(ms 0).n∧((ms 0).get j).live=true)
 lt:f<ops.size
 op:∃ o,ops[f]? = some o∧o.op = .alloc t∧o.guard = .none∧o.dst=some d
structure F3 (ops:Array Oper) (ms:Nat→Mem) (ds:Nat→Out) (F:Nat→Prop):Prop where
 ord:∀ i e,i<ops.size→e<ops.size→(ds i).eff=true→(ds e).eff=true→e<i→¬F i→iB ops i e
 ver:∀ i e fp,i<ops.size→e<ops.size→(ds i).fp=some fp→(ds e).eff=true→i≠e→¬iB ops i e→¬iB ops e i→((ds e).m.fF fp).ver=((ms e).fF fp).ver
 flt:∀ f,F f→∃ d t,J8 ops ms ds f d t
structure yf (O:cY) (P:Program) (ops:Array Oper) (nt:Nat) (rs:Nat→T XV) (ms:Nat→Mem) (ds:Nat→Out) (F:Nat→Prop) (β0:Env) (w0:World) (dfs:List Deferred) (er:Nat→Option Nat) (listed:Array Bool) (a:Act) (w:World) (β : Env) (q:Nat) (g:Nat→XV):Prop where
 size:listed.size=ops.size
 cl:∀ i j,iB ops i j→listed.getD i false=true→listed.getD j false=true
 qle:q≤ops.size
 eff:∀ e,e<ops.size→(ds e).eff=true→er e = .none→(listed.getD e false=true↔e<q)
 rel:Rel β (ms q) w
 iQ:fA β (ms q).n nt g a.tmps
 g1:∀(i:Nat) (o:Oper) (t:Nat),listed.getD i false=true→er i = .none→ops[i]? = some o→o.dst=some t→g t=(ds i).x
 g2:∀ t:Nat,(∀(i:Nat) (o:Oper),listed.getD i false=true→ops[i]? = some o→o.dst≠some t)→g t=(rs 0).get .undef t
 st:Step β0 (ms 0) w0 β (ms q) w
 ea:∀ f b,er f=some b→F f∧∃ d t,J8 ops ms ds f d t∧nB P ops ms ds w0 f d t b β q g listed a w
 dist:∀ f f' b,er f=some b→er f'=some b→f=f'
 dfs:a.defers=dfs
def Norm (ds:Nat→Out) (er:Nat→Option Nat) (listed:Array Bool):Prop:=∀ f b,er f=some b→∃ e,e<f∧(ds e).eff=true∧listed.getD e false=false
def rG (O:cY) (P:Program) (ops:Array Oper) (nt:Nat) (rs:Nat→T XV) (ms:Nat→Mem) (ds:Nat→Out) (F:Nat→Prop) (β0:Env) (w0:World) (dfs:List Deferred) (er:Nat→Option Nat) (listed:Array Bool) (a:Act) (w:World):Prop:=
 ∃ β q g,yf O P ops nt rs ms ds F β0 w0 dfs er listed a w β q g∧Norm ds er listed
theorem yf.yl (hs:df ops nt) (hT:Trace O P ops nt ops.toList tr rs ms ds) {F:Nat→Prop} {β0:Env} {w0:World}(hR0:Rel β0 (ms 0) w0) {dfs:List Deferred} {er:Nat→Option Nat} {listed:Array Bool} {a:Act} {w:World} {β : Env} {q:Nat} {g:Nat→XV}
 (h:yf O P ops nt rs ms ds F β0 w0 dfs er listed a w β q g) {f b:Nat}(hb:er f=some b) (hmin:∀ f' b',er f'=some b'→f'≠f→f<f') (hall:∀ e,e<f→(ds e).eff=true→listed.getD e false=true) :
 ∃ β' g',yf O P ops nt rs ms ds F β0 w0 dfs (fun j=>if j=f then .none else er j) listed a w β' (f+1) g':=by
 obtain⟨hF,d,t,hd,he⟩:=h.ea f b hb
 obtain⟨o,ho,hop,hgd,hdst⟩:=hd.op
 obtain⟨o',ho',_,hdo,hrs,hms⟩:=aU hT hd.lt
 rw [ho]at ho'
 cases ho'
 obtain⟨zs,hz,hp,hx,hef,_⟩:=f8 hop hgd hdo
 rw [←hms]at hp
 have hlt:=hd.lt
 have hqf:=he.le
 have noer:∀ e,e<f→er e = .none:=fun e hlt=>by
  cases hx:er e with
  | none=>rfl
  | some b'=>exact absurd (hmin e b' hx (by omega)) (by omega)
 have hmq:ms f=ms q:=by
  have:=jw hT q (f-q) (by omega) (fun e he1 he2=>by
   cases hxe:(ds e).eff
   · rfl
   · have h1:=hall e (by omega) hxe
     have:=(h.eff e (by omega) hxe (noer e (by omega))).1 h1
     omega)
  rw [show q+(f-q)=f by omega]at this
  exact this
 have hm:=h.rel
 have hr:=h.iQ
 have hst:=h.st
 rw [←hmq]at hm hr hst
 have himg:=he.qE
 rw [←hmq]at himg
 obtain⟨ti,v,v1,v2,v3⟩:=he.cU
 have hnl:∀ j,j<(ms f).n→((ms f).get j).live=true → β.cU j≠b:=fun j hj hl hb=>by
  rcases hd.ro j hj hl with h1|⟨h1,h2⟩
  · exact himg ⟨j,hj,h1,hb⟩
  · have h3:=hR0.lt h1 h2
    have h4:=(hst.ext j h1).1
    have:=he.ge
    omega
 obtain⟨β',k1,k2,k3,k4,k5,k6,k7⟩:=hm.H8 hp (b:=b) (sz:=zs.length) (fun β' hext=>by
  obtain⟨ti',v',z1,z2,z3,z4⟩:=fy hz β' (ms f).n
  rw [v1]at z1
  cases z1
  rw [v2]at z2
  cases z2
  have hn':=(Mem.bt hp).2.1
  refine⟨v.cells,(0,0),v3,?_,by simp,fun _=>⟨rfl,rfl⟩,fun c hc=>XC.eV (by omega) (z4 c hc),?_⟩
  · rw [z3];simp
  · rw [z3];simp [List.take_of_length_le]) hnl
 have hdlt:d<nt:=hs.dst f o d ho hdst
 refine⟨β',fun t'=>if t'=d then .one (.ptr (ms f).n 0)else g t',h.size,h.cl,by omega,fun e he1 he2 he3=>?_,k2,⟨hr.size,hr.small,fun t' ht'=>?_,fun t' ht'=>?_⟩,fun i oi t' hl hei hoi hdi=>?_,fun t' ht'=>?_,?_,fun f' b' hf'=>?_,fun f1 f2 b' h1 h2=>?_,h.dfs⟩
 · by_cases hef:e=f
   · subst hef
     exact⟨fun _=>by omega,fun _=>he.l⟩
   · rw [if_neg hef]at he3
     have:=h.eff e he1 he2 he3
     constructor
     · intro h;have:=this.1 h;omega
     · intro h;exact hall e (by omega) he2
 · by_cases htd:t'=d
   · subst htd
     simp only [if_true]
     rw [he.tmp]
     exact⟨by show(ms f).n<(ms (f+1)).n;omega,by simp only [XC.den,k3,k4,Nat.add_zero]⟩
   · simp only [htd,if_false]
     exact(hr.rel t' ht').ext k1 (by omega)
 · have htd:t'≠d:=by omega
   simp only [htd,if_false]
   exact hr.out t' ht'
 · by_cases hif:i=f
   · subst hif
     rw [ho]at hoi
     cases hoi
     rw [hdst]at hdi
     cases hdi
     simp only [if_true]
     exact hx.symm
   · have htd:t'≠d:=fun e=>hif (hs.uniq i f oi o t' hoi ho hdi (by rw [hdst,e]))
     simp only [htd,if_false]
     rw [if_neg hif]at hei
     exact h.g1 i oi t' hl hei hoi hdi
 · have htd:t'≠d:=fun e=>ht' f o he.l ho (by rw [hdst,e])
   simp only [htd,if_false]
   exact h.g2 t' ht'
 · refine⟨by have:=hst.le;omega,fun j hj=>?_,k2,hst.os,hst.tape,hst.output,hst.size,hst.frame,fun k hk hi=>?_⟩
   · have h1:=hst.ext j hj
     have h2:=k1 j (by have:=hst.le;omega)
     exact⟨h2.1.trans h1.1,h2.2.1.trans h1.2.1,h2.2.2.trans h1.2.2⟩
   · obtain⟨j,hj,hl,hb⟩:=hi
     by_cases hjn:j=(ms f).n
     · rw [hjn,k3]at hb
       have:=he.ge
       omega
     · have hjl:j<(ms f).n:=by omega
       rw [k7 j hjl]at hl
       rw [(k1 j hjl).1]at hb
       exact hst.qE k hk ⟨j,hjl,hl,hb⟩
 · by_cases hff:f'=f
   · rw [if_pos hff]at hf';cases hf'
   · rw [if_neg hff]at hf'
     obtain⟨hF',d',t',hd',he'⟩:=h.ea f' b' hf'
     obtain⟨o2,ho2,_,_,hdst2⟩:=hd'.op
     have hdd:d'≠d:=fun e=>hff (hs.uniq f' f o2 o d' ho2 ho hdst2 (by rw [hdst,e]))
     refine⟨hF',d',t',hd',⟨hmin f' b' hf' hff,he'.l,?_,he'.ge,he'.lt,he'.cU,fun hi=>?_,he'.tmp⟩⟩
     · simp only [hdd,if_false];exact he'.un
     · obtain⟨j,hj,hl,hbb⟩:=hi
       by_cases hjn:j=(ms f).n
       · rw [hjn,k3]at hbb
         exact hff (h.dist f' f b' hf' (by rw [hb,hbb]))
       · have hjl:j<(ms f).n:=by omega
         rw [k7 j hjl]at hl
         rw [(k1 j hjl).1]at hbb
         exact he'.qE (hmq ▸ ⟨j,hjl,hl,hbb⟩)
 · by_cases h1f:f1=f
   · rw [if_pos h1f]at h1;cases h1
   · by_cases h2f:f2=f
     · rw [if_pos h2f]at h2;cases h2
     · rw [if_neg h1f]at h1
       rw [if_neg h2f]at h2
       exact h.dist f1 f2 b' h1 h2
theorem least {p:Nat→Prop}:∀ n,p n→∃ m,p m∧∀ k,p k→m≤k:=by
 intro n
 induction n using Nat.strongRecOn with
 | _ n ih=>
   intro hp
   by_cases h:∃ k,k<n∧p k
   · obtain⟨k,hk,hpk⟩:=h
     exact ih k hk hpk
   · exact⟨n,hp,fun k hk=>Nat.le_of_not_lt fun hlt=>h ⟨k,hlt,hk⟩⟩
theorem yf.norm (hs:df ops nt) (hT:Trace O P ops nt ops.toList tr rs ms ds) {F:Nat→Prop} {β0:Env} {w0:World}(hR0:Rel β0 (ms 0) w0) {dfs:List Deferred} {listed:Array Bool} {a:Act} {w:World} :
 ∀(n:Nat) (er:Nat→Option Nat) (β : Env) (q:Nat) (g:Nat→XV),yf O P ops nt rs ms ds F β0 w0 dfs er listed a w β q g→(List.range ops.size).countP (fun j=>(er j).isSome)≤n→∃ er',rG O P ops nt rs ms ds F β0 w0 dfs er' listed a w:=by
 intro n
 induction n with
 | zero=>
   intro er β q g h hc
   refine⟨er,β,q,g,h,fun f b hf=>?_⟩
   obtain⟨_,d,t,hd,_⟩:=h.ea f b hf
   have:0<(List.range ops.size).countP (fun j=>(er j).isSome):=List.countP_pos_iff.2 ⟨f,List.mem_range.2 hd.lt,by simp [hf]⟩
   omega
 | succ n ih=>
   intro er β q g h hc
   by_cases hN:Norm ds er listed
   · exact⟨er,β,q,g,h,hN⟩
   · obtain⟨f,hf⟩:=Classical.not_forall.1 hN
     obtain⟨b,hb⟩:=Classical.not_forall.1 hf
     have hb1:er f=some b:=Classical.byContradiction fun h'=>hb fun h2=>absurd h2 h'
     have hb2:¬∃ e,e<f∧(ds e).eff=true∧listed.getD e false=false:=fun h'=>hb fun _=>h'
     obtain⟨f0,hf0,hmin⟩:=least (p:=fun j=>∃ b,er j=some b) f ⟨b,hb1⟩
     obtain⟨b0,hb0⟩:=hf0
     have hle:=hmin f ⟨b,hb1⟩
     obtain⟨_,d,t,hd,_⟩:=h.ea f0 b0 hb0
     obtain⟨β',g',h'⟩:=h.yl hs hT hR0 hb0 (fun f' b' hf' hne=>by have:=hmin f' ⟨b',hf'⟩;omega) (fun e e1 e2=>by
      cases hx:listed.getD e false with
      | true=>rfl
      | false=>exact absurd ⟨e,by omega,e2,hx⟩ hb2)
     refine ih _ β' _ g' h' ?_
     have hcnt:=iM (p:=fun j=>(if j=f0 then Option.none else er j).isSome) (q:=fun j=>(er j).isSome) (i:=f0) (fun j hj=>by
      by_cases hjf:j=f0
      · simp [hjf]at hj
      · simpa [hjf]using hj) (by simp [hb0]) (by simp) (List.range ops.size) (List.mem_range.2 hd.lt)
     omega
theorem rG.step (hO:aJ P O) (hs:df ops nt) (hnt:nt<1000000) (hT:Trace O P ops nt ops.toList tr rs ms ds) {F:Nat→Prop}(hd:F3 ops ms ds F) (h0:(ms 0).b8) {β0:Env} {w0:World}(hR0:Rel β0 (ms 0) w0) {dfs:List Deferred} {er:Nat→Option Nat} {listed:Array Bool} {a:Act} {w:World}
 (h:rG O P ops nt rs ms ds F β0 w0 dfs er listed a w) {i:Nat}(hi:i∈Region.ready .any ops listed) (hif:F i→∀ e,e<i→(ds e).eff=true→listed.getD e false=true) {K:Act→World→Prop} {Q:Exit→Act→World→Prop}
 (hK:∀ a' w' er',rG O P ops nt rs ms ds F β0 w0 dfs er' (listed.setIfInBounds i true) a' w'→K a' w'):wpOp P ops Q i K a w:=by
 obtain⟨hun,oi,hoi,hedges⟩:=mem_ready.1 hi
 obtain⟨β,q,g,h,hN⟩:=h
 have hilt:i<ops.size:=(Array.getElem?_eq_some_iff.1 hoi).1
 have hil:i<listed.size:=by rw [h.size];exact hilt
 have hun':listed.getD i false=false:=by rw [←cn hil];exact hun
 have hq:=h.qle
 have heff:=h.eff
 have hm:=h.rel
 have hr:=h.iQ
 have hg1:=h.g1
 have hg2:=h.g2
 have hst:=h.st
 have hanc:∀ i' j,iB ops i' j→i'=i→listed.getD j false=true:=by
  intro i' j ha
  induction ha with
  | edge ho he hb=>
    intro e
    subst e
    rw [hoi]at ho
    cases ho
    exact hedges _ he hb
  | trans h1 h2 ih1 _=>intro e;exact h.cl _ _ h2 (ih1 e)
 have hanc':∀ j,iB ops i j→listed.getD j false=true:=fun j ha=>hanc i j ha rfl
 have hno:∀ j,iB ops j i→listed.getD j false=false:=fun j ha=>by
  cases hx:listed.getD j false
  · rfl
  · have:=h.cl j i ha hx
    rw [hun']at this;cases this
 have early:∀ f b,er f=some b→∃ d t,J8 ops ms ds f d t∧nB P ops ms ds w0 f d t b β q g listed a w∧i≠f∧d∉oi.looksAt ops∧∃ e,e<f∧(ds e).eff=true∧listed.getD e false=false:=fun f b hb=>by
  obtain⟨hF,d,t,hfl,h1⟩:=h.ea f b hb
  obtain⟨e,e1,e2,e3⟩:=hN f b hb
  have hne:i≠f:=fun e'=>by rw [e',h1.l]at hun';cases hun'
  refine⟨d,t,hfl,h1,hne,fun hlk=>?_,e,e1,e2,e3⟩
  have:=hanc' e (hfl.look i oi hoi hne hlk e e1 e2)
  rw [e3]at this;cases this
 have eri:er i = .none:=by
  cases hx:er i with
  | none=>rfl
  | some b=>obtain⟨_,_,_,_,hne,_⟩:=early i b hx;exact absurd rfl hne
 obtain⟨o',ho',_,hdo,hrs,hms⟩:=aU hT hilt
 rw [hoi]at ho'
 cases ho'
 obtain⟨hr1,hr2⟩:=l_ hs hnt hT i (by omega)
 have hlook:∀ t∈oi.looksAt ops,g t=(rs i).get .undef t:=by
  intro t ht
  by_cases hw:∃(j:Nat) (oj:Oper),ops[j]? = some oj∧oj.dst=some t
  · obtain⟨j,oj,hj,hdj⟩:=hw
    have hjf:er j = .none:=by
     cases hx:er j with
     | none=>rfl
     | some b=>
       obtain⟨d,t',hfl,_,_,hdl,_⟩:=early j b hx
       obtain⟨o2,ho2,_,_,hd2⟩:=hfl.op
       rw [hj]at ho2
       cases ho2
       rw [hdj]at hd2
       cases hd2
       exact absurd ht hdl
    have nolisted:listed.getD j false=false→g t=(rs 0).get .undef t:=fun hlj=>hg2 t (fun k ok hk hok e=>by
     have:=hs.uniq k j ok oj t hok hj e hdj
     subst this
     rw [hlj]at hk;cases hk)
    have nobefore:¬j<i→(rs i).get .undef t=(rs 0).get .undef t:=fun hji=>hr2 t (fun k ok hk hok e=>by
     have:=hs.uniq k j ok oj t hok hj e hdj
     omega)
    rcases Nat.lt_trichotomy j i with hji|hji|hji
    · have:=(hs.look i j oi oj t hoi hj hdj ht (by omega)).1 hji
      rw [hg1 j oj t (hanc' j this) hjf hj hdj,hr1 j oj t hji hj hdj]
    · subst hji
      rw [nolisted hun',nobefore (by omega)]
    · have:=(hs.look i j oi oj t hoi hj hdj ht (by omega)).2 hji
      rw [nolisted (hno j this),nobefore (by omega)]
  · have hnone:∀(k:Nat) (ok:Oper),ops[k]? = some ok→ok.dst≠some t:=fun k ok hok e=>hw ⟨k,ok,hok,e⟩
    rw [hg2 t (fun k ok _ hok=>hnone k ok hok),hr2 t (fun k ok _ hok=>hnone k ok hok)]
 have hdstlt:∀ t,oi.dst=some t→t<nt:=fun t ht=>hs.dst i oi t hoi ht
 have hcl:∀ k j,iB ops k j→(listed.setIfInBounds i true).getD k false=true→(listed.setIfInBounds i true).getD j false=true:=by
  intro k j ha hk
  rw [aI hil]at hk ⊢
  by_cases hij:i=j
  · simp [hij]
  · simp only [hij,if_false]
    by_cases hik:i=k
    · subst hik;exact hanc' j ha
    · simp only [hik,if_false]at hk
      exact h.cl k j ha hk
 have hgs1:∀ {x:XV},x=(ds i).x→∀(k:Nat) (ok:Oper) (t:Nat),(listed.setIfInBounds i true).getD k false=true→er k = .none→ops[k]? = some ok→ok.dst=some t→(if oi.dst=some t then x else g t)=(ds k).x:=by
  intro x hx k ok t hk hkf hok ht
  rw [aI hil]at hk
  by_cases hik:i=k
  · subst hik
    rw [hoi]at hok
    cases hok
    rw [if_pos ht,hx]
  · simp only [hik,if_false]at hk
    have:oi.dst≠some t:=fun e=>hik (hs.uniq i k oi ok t hoi hok e ht)
    rw [if_neg this]
    exact hg1 k ok t hk hkf hok ht
 have hgs2:∀ {x:XV}(t:Nat),(∀(k:Nat) (ok:Oper),(listed.setIfInBounds i true).getD k false=true→ops[k]? = some ok→ok.dst≠some t)→(if oi.dst=some t then x else g t)=(rs 0).get .undef t:=by
  intro x t ht
  have hi':(listed.setIfInBounds i true).getD i false=true:=by rw [aI hil];simp
  rw [if_neg (ht i oi hi' hoi)]
  refine hg2 t (fun k ok hk hok=>ht k ok ?_ hok)
  rw [aI hil]
  split
  · rfl
  · exact hk
 have keep:∀ {β':Env} {m':Mem} {w':World} {u:Value} {q':Nat} {x:XV},Step β (ms q) w β' m' w'→m'=ms q'→(∀ f b,er f=some b→q'≤f)→∀ f b,er f=some b→F f∧∃ d t,J8 ops ms ds f d t∧nB P ops ms ds w0 f d t b β' q' (fun t=>if oi.dst=some t then x else g t) (listed.setIfInBounds i true) (a.put oi.dst u) w':=by
  intro β' m' w' u q' x hs' hq' hle f b hb
  obtain⟨d,t0,hfl,h1,hne,_,_⟩:=early f b hb
  obtain⟨of,hof,_,_,hofd⟩:=hfl.op
  have hnd:oi.dst≠some d:=fun e=>hne (hs.uniq i f oi of d hoi hof e hofd)
  subst hq'
  refine⟨(h.ea f b hb).1,d,t0,hfl,hle f b hb,?_,?_,h1.ge,Nat.lt_of_lt_of_le h1.lt hs'.size,?_,fun hi=>h1.qE (hs'.qE b h1.lt hi),?_⟩
  · rw [aI hil];simp [h1.l]
  · simp only [hnd,if_false];exact h1.un
  · obtain⟨ti,v,v1,v2,v3⟩:=h1.cU
    exact⟨ti,v,v1,v2,by rw [hs'.frame b h1.lt h1.qE];exact v3⟩
  · rw [←h1.tmp]
    cases hod:oi.dst with
    | none=>rfl
    | some d'=>
      have:d'≠d:=fun e=>hnd (by rw [hod,e])
      simp [Act.put,Array.getD_eq_getD_getElem?,Array.getElem?_setIfInBounds_ne this]
 have qle:∀ f b,er f=some b→q≤f:=fun f b hb=>by
  obtain⟨_,_,_,h1,_⟩:=early f b hb
  exact h1.le
 have hsz:(listed.setIfInBounds i true).size=ops.size:=by simp [h.size]
 cases he:(ds i).eff with
 | false =>
   have hobj : ∀ fp,(ds i).fp=some fp→(ms q).get fp=(ms i).get fp:=by
    intro fp hfp
    have verF:∀ f b,er f=some b→((ds f).m.fF fp).ver=((ms f).fF fp).ver:=fun f b hb=>by
     obtain⟨d,t,hfl,_,hne,_,e,e1,e2,e3⟩:=early f b hb
     obtain⟨of,hof,hofop,hofg,hofd⟩:=hfl.op
     obtain⟨o',ho',_,hdo',_,_⟩:=aU hT hfl.lt
     rw [hof]at ho'
     cases ho'
     obtain⟨zs,_,hp,_⟩:=f8 hofop hofg hdo'
     obtain⟨_,_,_,h4⟩:=Mem.bt hp
     rw [h4 fp (fun e'=>by
      have:=hanc' e (hfl.rd i hilt hne (by rw [hfp,e']) e e1 e2)
      rw [e3]at this;cases this)]
    rcases Nat.le_total q i with hqi|hqi
    · have := jM hO hT h0 fp q (i-q) (by omega) (fun e he1 he2 he3=>by
       cases hef:er e with
       | some b=>exact verF e b hef
       | none=>
         have hne:i≠e:=by omega
         refine hd.ver i e fp hilt (by omega) hfp he3 hne (fun ha=>?_) (fun ha=>?_)
         · have:=(heff e (by omega) he3 hef).1 (hanc' e ha)
           omega
         · have:=iB.lt hs ha
           omega)
      rw [show q+(i-q)=i by omega]at this
      exact this.symm
    · have := jM hO hT h0 fp i (q-i) (by omega) (fun e he1 he2 he3=>by
       have hne:i≠e:=fun e'=>by subst e';rw [he]at he3;cases he3
       refine hd.ver i e fp hilt (by omega) hfp he3 hne (fun ha=>?_) (fun ha=>?_)
       · have:=iB.lt hs ha
         omega
       · have h1:=hno e ha
         have h3:er e = .none:=by
          cases hx:er e with
          | none=>rfl
          | some b=>have:=qle e b hx;omega
         have h2:=(heff e (by omega) he3 h3).2 (by omega)
         rw [h1]at h2;cases h2)
      rw [show i+(q-i)=q by omega]at this
      exact this
   have hago:=qn hdo (g':=g) hlook he (m':=ms q) hobj
   refine oY hO hoi hago hm hr fun u β' w' hu hs'=>hK _ _ er ?_
   refine⟨β',q,fun t=>if oi.dst=some t then(ds i).x else g t,⟨hsz,hcl,hq,?_,hs'.rel,fA.put (hr.ext hs'.ext hs'.le) oi.dst hu hdstlt,hgs1 rfl,hgs2,hst.trans hs',keep hs' rfl qle,h.dist,?_⟩,fun f b hb=>?_⟩
   · intro e hel hee hef
     rw [aI hil]
     have hie:i≠e:=fun x=>by subst x;rw [he]at hee;cases hee
     simp only [hie,if_false]
     exact heff e hel hee hef
   · rw [cQ,h.dfs]
   · obtain⟨e,e1,e2,e3⟩:=hN f b hb
     refine⟨e,e1,e2,?_⟩
     rw [aI hil]
     have hie:i≠e:=fun x=>by subst x;rw [he]at e2;cases e2
     simp only [hie,if_false]
     exact e3
 | true =>
   have hbefore:∀ e,e<i→(ds e).eff=true→listed.getD e false=true:=fun e hlt hee=>by
    by_cases hii:F i
    · exact hif hii e hlt hee
    · exact hanc' e (hd.ord i e hilt (by omega) he hee hlt hii)
   have hilf:∀ f b,er f=some b→i<f:=fun f b hb=>by
    obtain⟨_,_,_,_,hne,_,e,e1,e2,e3⟩:=early f b hb
    rcases Nat.lt_or_ge i f with h1|h1
    · exact h1
    · have:=hbefore e (by omega) e2
      rw [e3]at this;cases this
   have hqi:q≤i:=by
    rcases Nat.lt_or_ge i q with hlt|hge
    · have:=(heff i hilt he eri).2 hlt
      rw [hun']at this;cases this
    · exact hge
   have hmq:ms i=ms q:=by
    have := jw hT q (i-q) (by omega) (fun e he1 he2=>by
     cases hx:(ds e).eff
     · rfl
     · have h3:er e = .none:=by
        cases hx:er e with
        | none=>rfl
        | some b=>have:=hilf e b hx;omega
       have h2:=(heff e (by omega) hx h3).1 (hbefore e (by omega) hx)
       omega)
    rw [show q+(i-q)=i by omega]at this
    exact this
   have hago:=i3 hdo (g':=g) hlook
   rw [hmq]at hago
   have heff':∀ e,e<ops.size→(ds e).eff=true→er e = .none→((listed.setIfInBounds i true).getD e false=true↔e<i+1):=by
    intro e hel hee hef
    rw [aI hil]
    by_cases hie:i=e
    · subst hie;simp
    · simp only [hie,if_false]
      constructor
      · intro hle
        have:=(heff e hel hee hef).1 hle
        omega
      · intro hlt
        exact hbefore e (by omega) hee
   refine oY hO hoi hago hm hr fun u β' w' hu hs'=>?_
   rw [←hms]at hu hs'
   have hput:(a.put oi.dst u).defers=dfs:=by rw [cQ,h.dfs]
   have hr':=fA.put (hr.ext hs'.ext hs'.le) oi.dst hu hdstlt
   obtain⟨er',h'⟩:=yf.norm hs hT hR0 _ er β' (i+1) (fun t=>if oi.dst=some t then(ds i).x else g t) ⟨hsz,hcl,by omega,heff',hs'.rel,hr',hgs1 rfl,hgs2,hst.trans hs',keep hs' rfl hilf,h.dist,hput⟩ (Nat.le_refl _)
   exact hK _ _ er' h'
theorem rG.early (hs:df ops nt) (hT:Trace O P ops nt ops.toList tr rs ms ds) {F:Nat→Prop} {β0:Env} {w0:World} {dfs:List Deferred} {er:Nat→Option Nat} {listed:Array Bool} {a:Act} {w:World}
 (h:rG O P ops nt rs ms ds F β0 w0 dfs er listed a w) {f d:Nat} {t0:TypeId}(hF:F f) (hd:J8 ops ms ds f d t0) (hi:f∈Region.ready .any ops listed) (hmore:∃ e,e<f∧(ds e).eff=true∧listed.getD e false=false) {K:Act→World→Prop} {Q:Exit→Act→World→Prop}
 (hK:∀ a' w' er',rG O P ops nt rs ms ds F β0 w0 dfs er' (listed.setIfInBounds f true) a' w'→K a' w'):wpOp P ops Q f K a w:=by
 obtain⟨hun,oi,hoi,hedges⟩:=mem_ready.1 hi
 obtain⟨β,q,g,h,hN⟩:=h
 have hflt:=hd.lt
 have hil:f<listed.size:=by rw [h.size];exact hflt
 have hun':listed.getD f false=false:=by rw [←cn hil];exact hun
 have hm:=h.rel
 have hr:=h.iQ
 have hst:=h.st
 obtain⟨of,hof,hofop,hofg,hofd⟩:=hd.op
 obtain rfl:oi=of:=by rw [hof]at hoi;exact(Option.some.inj hoi).symm
 obtain⟨o',ho',_,hdo,_,_⟩:=aU hT hflt
 obtain rfl:oi=o':=by rw [hof]at ho';exact Option.some.inj ho'
 obtain⟨zs,hz,hp,hx,hfe,_⟩:=f8 hofop hofg hdo
 have erf:er f = .none:=by
  cases hx:er f with
  | none=>rfl
  | some b=>
    obtain⟨_,_,_,_,h1⟩:=h.ea f b hx
    rw [h1.l]at hun';cases hun'
 have hanc':∀ j,iB ops f j→listed.getD j false=true:=fun j ha=>by
  have key:∀ i' j,iB ops i' j→i'=f→listed.getD j false=true:=by
   intro i' j ha
   induction ha with
   | edge ho he hb=>
     intro e
     subst e
     rw [hof]at ho
     cases ho
     exact hedges _ he hb
   | trans h1 h2 ih1 _=>intro e;exact h.cl _ _ h2 (ih1 e)
  exact key f j ha rfl
 have hqf:q≤f:=by
  rcases Nat.lt_or_ge f q with hlt|hge
  · have:=(h.eff f hflt hfe erf).2 hlt
    rw [hun']at this;cases this
  · exact hge
 have hdlt:d<nt:=hs.dst f oi d hof hofd
 obtain⟨ti,v,z1,z2,z3,z4⟩:=fy hz β (ms q).n
 have hrun:∀ ev:Operand→Value,(execOp ev oi).run P w = .ok (.value (.pointer (some ⟨w.heap.size,0,none⟩))) (w.alloc (.cells v.cells t0)):=fun ev=>by
  simp only [execOp,hofop,Instr.alloc,Sem.run_bind,c6 z1 z2,Result.andThen_ok,l0,Sem.run_pure]
 have hheap:(w.alloc (.cells v.cells t0)).heap=w.heap.push (.cells v.cells t0 (0,0)):=rfl
 have hb0:∀ k,k<w.heap.size→(w.alloc (.cells v.cells t0)).heap[k]? = w.heap[k]?:=fun k hk=>by
  rw [hheap,Array.getElem?_push,if_neg (Nat.ne_of_lt hk)]
 have hrel:Rel β (ms q) (w.alloc (.cells v.cells t0)):=by
  refine⟨hm.bnd,hm.fresh,fun j hj=>?_,hm.inj⟩
  have:=hm.obj j hj
  cases hg:(ms q).get j with
  | dead=>trivial
  | cells c1 c2 c3 c4=>
    rw [hb0 _ (hm.lt hj (by rw [hg];rfl)),←hg];exact this
  | map es=>
    rw [hb0 _ (hm.lt hj (by rw [hg];rfl)),←hg];exact this
 have hstep:Step β (ms q) w β (ms q) (w.alloc (.cells v.cells t0)):=
  ⟨Nat.le_refl _,Ext.refl _ _,hrel,rfl,rfl,rfl,by rw [hheap];simp,fun k hk _=>hb0 k hk,fun _ _ h=>h⟩
 have hst':=hst.trans hstep
 have hsz':(w.alloc (.cells v.cells t0)).heap.size=w.heap.size+1:=by rw [hheap];simp
 unfold wpOp
 rw [hof]
 simp only []
 have hwant:Region.wanted oi (yielded ops a.tmps)=true:=by unfold Region.wanted;rw [hofg]
 rw [if_pos hwant]
 refine .inl ?_
 unfold Oper.wp
 rw [hrun]
 refine hK _ _ (fun j=>if j=f then some w.heap.size else er j) ⟨β,q,fun t=>if t=d then .undef else g t,⟨by simp [h.size],fun k j ha hk=>?_,h.qle,fun e hel hee hef=>?_,hrel,⟨?_,hr.small,fun t ht=>?_,fun t ht=>?_⟩,fun k ok t hk hkf hok ht=>?_,fun t ht=>?_,hst',fun f' b hb=>?_,fun f1 f2 b h1 h2=>?_,?_⟩,fun f' b hb=>?_⟩
 · rw [aI hil]at hk ⊢
   by_cases hij:f=j
   · simp [hij]
   · simp only [hij,if_false]
     by_cases hik:f=k
     · subst hik;exact hanc' j ha
     · simp only [hik,if_false]at hk
       exact h.cl k j ha hk
 · rw [aI hil]
   by_cases hfe:e=f
   · rw [if_pos hfe]at hef;cases hef
   · rw [if_neg hfe]at hef
     have:f≠e:=fun e'=>hfe e'.symm
     simp only [this,if_false]
     exact h.eff e hel hee hef
 · rw [hofd];simpa [Act.put]using hr.size
 · by_cases htd:t=d
   · simp only [htd,if_true];trivial
   · simp only [htd,if_false]
     have:(a.put oi.dst (.pointer (some ⟨w.heap.size,0,none⟩))).tmps.getD t undef=a.tmps.getD t undef:=by
      rw [hofd]
      simp [Act.put,Array.getD_eq_getD_getElem?,Array.getElem?_setIfInBounds_ne (Ne.symm htd)]
     rw [this]
     exact hr.rel t ht
 · by_cases htd:t=d
   · simp [htd]
   · simp only [htd,if_false];exact hr.out t ht
 · by_cases hkf':k=f
   · rw [if_pos hkf']at hkf;cases hkf
   · rw [if_neg hkf']at hkf
     rw [aI hil]at hk
     simp only [Ne.symm hkf',if_false]at hk
     have htd:t≠d:=fun e=>hkf' (hs.uniq k f ok oi t hok hof ht (by rw [hofd,e]))
     simp only [htd,if_false]
     exact h.g1 k ok t hk hkf hok ht
 · have htd':t≠d:=fun e=>ht f oi (by rw [aI hil];simp) hof (by rw [hofd,e])
   simp only [htd',if_false]
   refine h.g2 t (fun k ok hk hok=>ht k ok ?_ hok)
   rw [aI hil]
   split
   · rfl
   · exact hk
 · by_cases hff:f'=f
   · subst hff
     rw [if_pos rfl]at hb
     cases hb
     refine⟨hF,d,t0,hd,⟨hqf,by rw [aI hil];simp,by simp,by have:=hst.size;omega,by omega,⟨ti,v,z1,z2,?_⟩,fun hi=>?_,?_⟩⟩
     · rw [hheap];simp
     · obtain⟨j,hj,hl,hb⟩:=hi
       have:=hm.lt hj (ak.cK hl)
       omega
     · rw [hofd]
       simp [Act.put,Array.getD_eq_getD_getElem?,hr.size,hdlt]
   · rw [if_neg hff]at hb
     obtain⟨hF',d',t',hd',he'⟩:=h.ea f' b hb
     obtain⟨o2,ho2,_,_,hdst2⟩:=hd'.op
     have hdd:d'≠d:=fun e=>hff (hs.uniq f' f o2 oi d' ho2 hof hdst2 (by rw [hofd,e]))
     refine⟨hF',d',t',hd',⟨he'.le,?_,?_,he'.ge,by have:=he'.lt;omega,?_,he'.qE,?_⟩⟩
     · rw [aI hil]
       split
       · rfl
       · exact he'.l
     · simp only [hdd,if_false];exact he'.un
     · obtain⟨ti,v,v1,v2,v3⟩:=he'.cU
       exact⟨ti,v,v1,v2,by rw [hb0 _ he'.lt];exact v3⟩
     · rw [←he'.tmp,hofd]
       simp [Act.put,Array.getD_eq_getD_getElem?,Array.getElem?_setIfInBounds_ne (Ne.symm hdd)]
 · by_cases h1f:f1=f
   · by_cases h2f:f2=f
     · rw [h1f,h2f]
     · rw [if_pos h1f]at h1
       rw [if_neg h2f]at h2
       cases h1
       obtain⟨_,_,_,_,he'⟩:=h.ea f2 _ h2
       have:=he'.lt
       omega
   · by_cases h2f:f2=f
     · rw [if_neg h1f]at h1
       rw [if_pos h2f]at h2
       cases h2
       obtain⟨_,_,_,_,he'⟩:=h.ea f1 _ h1
       have:=he'.lt
       omega
     · rw [if_neg h1f]at h1
       rw [if_neg h2f]at h2
       exact h.dist f1 f2 b h1 h2
 · rw [cQ,h.dfs]
 · by_cases hff:f'=f
   · obtain⟨e,e1,e2,e3⟩:=hmore
     refine⟨e,by omega,e2,?_⟩
     rw [aI hil]
     have:f≠e:=by omega
     simp only [this,if_false]
     exact e3
   · replace hb:er f'=some b:=(if_neg hff).symm.trans hb
     obtain⟨e,e1,e2,e3⟩:=hN f' b hb
     by_cases hef:e=f
     · obtain⟨e',e1',e2',e3'⟩:=hmore
       refine⟨e',by omega,e2',?_⟩
       rw [aI hil]
       have:f≠e':=by omega
       simp only [this,if_false]
       exact e3'
     · refine⟨e,e1,e2,?_⟩
       rw [aI hil]
       have:f≠e:=fun h=>hef h.symm
       simp only [this,if_false]
       exact e3
theorem rG.any (hO:aJ P O) (hs:df ops nt) (hnt:nt<1000000) (hT:Trace O P ops nt ops.toList tr rs ms ds) {F:Nat→Prop}(hd:F3 ops ms ds F) (h0:(ms 0).b8) {β0:Env} {w0:World}(hR0:Rel β0 (ms 0) w0) {dfs:List Deferred} {Q:Exit→Act→World→Prop}
 (hQ:rH β0 (ms 0) w0 nt dfs (rs ops.size) (ms ops.size) (Q .normal)):∀(fuel:Nat) (er:Nat→Option Nat) (listed:Array Bool) (a:Act) (w:World),rG O P ops nt rs ms ds F β0 w0 dfs er listed a w →
 (List.range ops.size).countP (fun i=>listed.getD i false == false)≤fuel→wpAny P .any ops Q fuel listed a w:=by
 have fin:∀(er:Nat→Option Nat) (listed:Array Bool) (a:Act) (w:World),rG O P ops nt rs ms ds F β0 w0 dfs er listed a w→(∀ i,i<ops.size→listed.getD i false=true)→Q .normal a w:=by
  intro er listed a w h hall
  obtain⟨β,q,g,h,hN⟩:=h
  have nn:∀ f,er f = .none:=fun f=>by
   cases hx:er f with
   | none=>rfl
   | some b=>
     obtain⟨_,d,t,hfl,_⟩:=h.ea f b hx
     obtain⟨e,e1,e2,e3⟩:=hN f b hx
     have:=hall e (by have:=hfl.lt;omega)
     rw [e3]at this;cases this
  have hq:=h.qle
  have hr:=h.iQ
  have hst:=h.st
  have hmq:ms ops.size=ms q:=by
   have:=jw hT q (ops.size-q) (by omega) (fun e he1 he2=>by
    cases hx:(ds e).eff
    · rfl
    · have:=(h.eff e (by omega) hx (nn e)).1 (hall e (by omega))
      omega)
   rw [show q+(ops.size-q)=ops.size by omega]at this
   exact this
  obtain⟨hr1,hr2⟩:=l_ hs hnt hT ops.size (Nat.le_refl _)
  have hge:g=(rs ops.size).get .undef:=by
   funext t
   by_cases hw:∃(j:Nat) (oj:Oper),ops[j]? = some oj∧oj.dst=some t
   · obtain⟨j,oj,hj,hdj⟩:=hw
     have hjl:j<ops.size:=(Array.getElem?_eq_some_iff.1 hj).1
     rw [h.g1 j oj t (hall j hjl) (nn j) hj hdj,hr1 j oj t hjl hj hdj]
   · have hnone:∀(k:Nat) (ok:Oper),ops[k]? = some ok→ok.dst≠some t:=fun k ok hok e=>hw ⟨k,ok,hok,e⟩
     rw [h.g2 t (fun k ok _ hok=>hnone k ok hok),hr2 t (fun k ok _ hok=>hnone k ok hok)]
  subst hge
  rw [←hmq]at hr hst
  exact hQ a β w hr h.dfs hst
 intro fuel
 induction fuel with
 | zero=>
   intro er listed a w h hc
   have hall:∀ i,i<ops.size→listed.getD i false=true:=fun i hi=>by
    cases hx:listed.getD i false
    · have:0<(List.range ops.size).countP (fun i=>listed.getD i false == false):=List.countP_pos_iff.2 ⟨i,List.mem_range.2 hi,by simp [hx]⟩
      omega
    · rfl
   refine⟨?_,fin er listed a w h hall⟩
   apply List.eq_nil_iff_forall_not_mem.2
   intro i hi
   obtain⟨hun,oi,hoi,_⟩:=mem_ready.1 hi
   obtain⟨_,_,_,h,_⟩:=h
   have hilt:i<ops.size:=(Array.getElem?_eq_some_iff.1 hoi).1
   rw [cn (by rw [h.size];exact hilt),hall i hilt]at hun
   cases hun
 | succ fuel ih=>
   intro er listed a w h hc
   have hsize:listed.size=ops.size:=by obtain⟨_,_,_,h,_⟩:=h;exact h.size
   refine⟨fun hnil=>fin er listed a w h (fun i hi=>?_),fun i hi=>?_⟩
   · induction i using Nat.strongRecOn with
     | _ i ihi=>
       cases hx:listed.getD i false
       · exfalso
         have ho:ops[i]? = some ops[i]:=by simp [hi]
         have:i∈Region.ready .any ops listed:=mem_ready.2 ⟨by rw [cn (by rw [hsize];exact hi)];exact hx,ops[i],ho,fun e he hb=>by
          have hlt:=hs.back i ops[i] ho e he hb
          exact ihi e.on hlt (by omega)⟩
         rw [hnil]at this
         cases this
       · rfl
   · obtain⟨hun,oi,hoi,_⟩:=mem_ready.1 hi
     have hilt:i<ops.size:=(Array.getElem?_eq_some_iff.1 hoi).1
     have hil:i<listed.size:=by rw [hsize];exact hilt
     have hcnt:=iM (p:=fun j=>(listed.setIfInBounds i true).getD j false == false) (q:=fun j=>listed.getD j false == false) (i:=i) (fun j hj=>by
      rw [aI hil]at hj
      split at hj
      · simp at hj
      · exact hj) (by rw [←cn hil,hun];rfl) (by rw [aI hil];simp) (List.range ops.size) (List.mem_range.2 hilt)
     by_cases hF:F i
     · by_cases hmore:∃ e,e<i∧(ds e).eff=true∧listed.getD e false=false
       · obtain⟨d,t,hfl⟩:=hd.flt i hF
         exact h.early hs hT hF hfl hi hmore fun a' w' er' h'=>ih er' _ a' w' h' (by omega)
       · refine h.step hO hs hnt hT hd h0 hR0 hi (fun _ e e1 e2=>?_) fun a' w' er' h'=>ih er' _ a' w' h' (by omega)
         cases hx:listed.getD e false with
         | true=>rfl
         | false=>exact absurd ⟨e,e1,e2,hx⟩ hmore
     · exact h.step hO hs hnt hT hd h0 hR0 hi (fun e=>absurd e hF) fun a' w' er' h'=>ih er' _ a' w' h' (by omega)
theorem y8 (hO:aJ P O) (hP:P.follows .mixedOrders=true) (hs:df ops nt) {id:Nat}(hT:Trace O P ops nt ops.toList tr rs ms ds) {F:Nat→Prop}(hd:F3 ops ms ds F) {r:T XV} {m:Mem}(h1:rs 0=r) (h2:ms 0=m) {β : Env} {w:World} {a:Act}(hr:i6 β m.n nt r a.tmps) (hm:Rel β m w)
 {Q:Exit→Act→World→Prop}(hq:rH β m w nt a.defers (rs ops.size) (ms ops.size) (Q .normal)):(Code.region id ops true).wp P Q a w:=by
 subst h1
 subst h2
 have hdr:=Step.drew hm
 refine wp_region_any hP ?_
 refine rG.any hO hs hr.small hT hd hm.fresh hm (β0 := β) (w0:=w) (dfs:=a.defers) (Q:=Q) hq _ (fun _ => .none) _ a _ ?_ ?_
 · refine⟨β,0,(rs 0).get .undef,⟨by simp,fun i j ha hi=>?_,by omega,fun e he _ _=>?_,hdr.rel,hr,fun i o t hi=>?_,fun t _=>rfl,hdr,fun f b hb=>(by cases hb),fun f f' b hb=>(by cases hb),rfl⟩,fun f b hb=>(by cases hb)⟩
   · exfalso
     by_cases hlt:i<ops.size <;> simp [Array.getD_eq_getD_getElem?,hlt]at hi
   · simp [Array.getD_eq_getD_getElem?,he]
   · exfalso
     by_cases hlt:i<ops.size <;> simp [Array.getD_eq_getD_getElem?,hlt]at hi
 · exact Nat.le_trans List.countP_le_length (by simp)
def rn (bs:List Nat) (fs:List Nat) (i:Nat) (di:Ab) (e:Nat) (de:Ab):Bool:=
 !de.eff || i == e || ((!(di.eff && decide (e<i) && !fs.contains i) || bit bs i e) &&
  (match di.fp with
    | .none=>true
    | some fp=>bit bs i e || bit bs e i || !(de.ws.contains fp)))
def Ic (ops:Array Oper) (bs:List Nat) (tr:List Ab) (f:Nat):Bool:=
 match ops[f]?,tr[f]? with
 | some o,some bf=>match o.op,o.guard,o.dst with
   | .alloc _,.none,some d=>(List.range ops.size).all (fun i=>i == f || (match ops[i]? with
      | .none=>true
      | some oi => !((oi.looksAt ops).contains d || (match tr[i]? with | .none=>false|some di=>(match di.fp with | .none=>false|some p=>bf.ws.contains p))) || (List.range f).all fun e=>match tr[e]? with
        | .none=>true
        | some de => !de.eff || bit bs i e))
   | _,_,_=>false
 | _,_=>false
def rV (ops:Array Oper) (bs:List Nat) (tr:List Ab) (fs:List Nat):Bool:=
 fs.all (Ic ops bs tr) && (List.range tr.length).all fun i=>match tr[i]? with
  | .none=>true
  | some di=>(!di.eff && di.fp.isNone) || (List.range tr.length).all fun e=>match tr[e]? with
    | .none=>true
    | some de=>rn bs fs i di e de
theorem yz (hO : aJ P O) (hT:Trace O P ops nt ops.toList tr rs ms ds) (h0f:(ms 0).b8) (hb:(ms 0).n≤Mem.bound) {ab:List Ab}(hno:fe ops.toList ab=true) (ht:CW tr ab) {fs:List Nat}(h:rV ops (e_ ops.toList) ab fs=true):F3 ops ms ds (·∈fs):=by
 have key:∀ i,i≤ops.size→gd (ms 0) (ms i)∧(ms i).b8:=by
  intro i
  induction i with
  | zero=>exact fun _=>⟨.same _,h0f⟩
  | succ i ih=>
    intro hi
    obtain⟨h1,h2⟩:=ih (by omega)
    obtain⟨o,ho,_,hx,_,hm⟩:=aU hT (show i<ops.size by omega)
    rw [hm]
    refine⟨h1.trans ?_,((i4 hO hx).mono h2).2⟩
    obtain⟨_,_,hti,_⟩:=aU hT (show i<ops.size by omega)
    obtain⟨b,hbi,_,_,k3⟩:=ct.get? ht i _ hti
    rcases mS ops.toList ab hno i o b (by simpa using ho) hbi with hn|hn
    · exact zq hn hx
    · exact xi (i4 hO hx) h2 (fun j=>k3 j (by rw [hn];simp))
 unfold rV at h
 simp only [Bool.and_eq_true]at h
 obtain⟨hfl,hdy⟩:=h
 have hl:tr.length=ab.length:=ct.length ht
 have at_:∀ i,i<ops.size→∃ b,ab[i]? = some b∧(ds i).eff=b.eff∧(ds i).fp=b.fp∧∀ j,j∉b.ws→((ds i).m.fF j).ver=((ms i).fF j).ver:=fun i hi=>by
  obtain⟨_,_,hti,_⟩:=aU hT hi
  obtain⟨b,hbi,k1,k2,k3⟩:=ct.get? ht i _ hti
  exact⟨b,hbi,k1,k2,k3⟩
 have pair:∀ i e bi be,ab[i]? = some bi→ab[e]? = some be→((!bi.eff && bi.fp.isNone) || rn (e_ ops.toList) fs i bi e be)=true:=fun i e bi be hi he=>by
  have hil:i<ab.length:=(List.getElem?_eq_some_iff.1 hi).1
  have hel:e<ab.length:=(List.getElem?_eq_some_iff.1 he).1
  have h3:=List.all_eq_true.1 hdy i (List.mem_range.2 hil)
  rw [hi]at h3
  simp only [Bool.or_eq_true]at h3 ⊢
  rcases h3 with h3|h3
  · exact .inl h3
  · have h4:=List.all_eq_true.1 h3 e (List.mem_range.2 hel)
    rw [he]at h4
    exact .inr h4
 refine⟨fun i e hi he h1 h2 hlt hF=>?_,fun i e fp hi he h1 h2 hne ha hb=>?_,fun f hf=>?_⟩
 · obtain⟨bi,hbi,k1,k2,k3⟩:=at_ i hi
   obtain⟨be,hbe,j1,j2,j3⟩:=at_ e he
   have hp:=pair i e bi be hbi hbe
   rw [k1]at h1
   rw [j1]at h2
   have hq:(i == e)=false:=by simp;omega
   have hc:fs.contains i=false:=by simpa using hF
   simp [rn,h1,h2,hq,hlt,hc]at hp
   exact dz ops i e (hp.1.resolve_left hF)
 · obtain⟨bi,hbi,k1,k2,k3⟩:=at_ i hi
   obtain⟨be,hbe,j1,j2,j3⟩:=at_ e he
   have hp:=pair i e bi be hbi hbe
   rw [k2]at h1
   rw [j1]at h2
   have hq:(i == e)=false:=by simpa using hne
   have n1:bit (e_ ops.toList) i e=false:=by
    cases hx:bit (e_ ops.toList) i e
    · rfl
    · exact absurd (dz ops i e hx) ha
   have n2:bit (e_ ops.toList) e i=false:=by
    cases hx:bit (e_ ops.toList) e i
    · rfl
    · exact absurd (dz ops e i hx) hb
   unfold rn at hp
   rw [h1,h2,hq,n1,n2]at hp
   simp only [Bool.not_true,Bool.false_or,Option.isNone_some,Bool.and_false,Bool.and_eq_true,Bool.or_false,Bool.not_eq_true']at hp
   exact j3 fp (by have:=hp.2;simpa using this)
 · have hf1 := List.all_eq_true.1 hfl f hf
   unfold Ic at hf1
   split at hf1
   · rename_i o bf hof hbf
     split at hf1
     · rename_i t d hop hg hd
       have hflt:f<ops.size:=(Array.getElem?_eq_some_iff.1 hof).1
       obtain⟨o',ho',htf,hxf,_,_⟩:=aU hT hflt
       obtain rfl:o=o':=by rw [hof]at ho';exact Option.some.inj ho'
       obtain⟨hkr,hfr⟩:=key f (by omega)
       obtain⟨bf',hbf',k1,k2,k3⟩:=at_ f hflt
       obtain rfl:bf=bf':=by rw [hbf]at hbf';exact Option.some.inj hbf'
       obtain⟨zs,_,hp,_⟩:=f8 hop hg hxf
       have hn:(ms f).n∈bf.ws:=by
        refine Classical.byContradiction fun hn=>?_
        have e1:=k3 _ hn
        obtain⟨_,_,e2,_⟩:=Mem.bt hp
        rw [e2,hfr _ (Nat.le_refl _)]at e1
        cases e1
       have look:∀ i oi,ops[i]? = some oi→i≠f→(d∈oi.looksAt ops∨(ds i).fp=some (ms f).n)→∀ e,e<f→(ds e).eff=true→iB ops i e:=fun i oi hoi hif hor e hef heff=>by
        have hi:i<ops.size:=(Array.getElem?_eq_some_iff.1 hoi).1
        obtain⟨bi,hbi,q1,q2,q3⟩:=at_ i hi
        obtain⟨be,hbe,r1,r2,r3⟩:=at_ e (by omega)
        have h1:=List.all_eq_true.1 hf1 i (List.mem_range.2 hi)
        have hq:(i == f)=false:=by simpa using hif
        rw [hoi,hbi,hq]at h1
        simp only [Bool.false_or,Bool.or_eq_true,Bool.not_eq_true']at h1
        have h2:((List.range f).all fun e=>match ab[e]? with | .none=>true|some de => !de.eff || bit (e_ ops.toList) i e)=true:=by
         rcases h1 with h1|h1
         · exfalso
           simp only [Bool.or_eq_false_iff]at h1
           rcases hor with hor|hor
           · have:(oi.looksAt ops).contains d=true:=by simpa using hor
             rw [this]at h1;cases h1.1
           · rw [q2]at hor
             have:=h1.2
             rw [hor]at this
             simp only at this
             rw [List.contains_iff_mem.2 hn]at this
             cases this
         · exact h1
        have h3:=List.all_eq_true.1 h2 e (List.mem_range.2 hef)
        rw [hbe]at h3
        rw [r1]at heff
        simp only [heff,Bool.not_true,Bool.false_or]at h3
        exact dz ops i e h3
       refine⟨d,t,fun i oi hoi hif hd=>look i oi hoi hif (.inl hd),fun i hi hif hfp=>look i ops[i] (by simp [hi]) hif (.inr hfp),fun j hj hlv=>?_,hflt,o,hof,hop,hg,hd⟩
       obtain⟨_,_,k⟩:=hkr hb
       rcases k j hj hlv with k|⟨k,ke⟩
       · exact .inl k
       · exact .inr ⟨k,by first|(rw [ke];exact hlv)|(rw [←ke];exact hlv)|simp [k,ke,hlv]⟩
     · cases hf1
   · cases hf1
theorem WX.IG (hO:aJ P O) (hP:P.follows .mixedOrders=true) {nI id:Nat} {fs:List Nat} {al al':bm} {hs hs':aq} {bs:List Ab} {K:cJ}(hst:bH ops nt (e_ ops.toList)=true) (h:jI O P ops nt ops.toList al hs bs al' hs') (hdy:rV ops (e_ ops.toList) bs fs=true) (hno:fe ops.toList bs=true)
 (hk:K .normal al' hs'):WX P nt nI (.code (.region id ops true)) al hs K:=by
 intro βI mI wI hn m hm β w a Q hr hw hq
 obtain⟨r,hrr⟩:=km (rg al) nt hr.small hr.out
 obtain⟨tr,r',m',h1,h2,h3,h4⟩:=jx hr.small h hm hrr
 obtain⟨rs,ms,ds,hT,t1,t2,t3,t4⟩:=gX h1
 have hd:=yz hO hT (by rw [t2];exact hm.fresh) (by rw [t2];exact hm.bnd) hno h4 hdy
 have e:(r.get .undef)=rg al:=funext hrr
 have e':(r'.get .undef)=rg al':=funext h2
 have hsz:ops.toList.length=ops.size:=by simp
 rw [hsz]at t3 t4
 refine y8 hO hP (hU hst) hT hd t1 t2 (by unfold i6;rw [e];exact hr) hw.rel ?_
 rw [t3,t4]
 intro a' β' w' k1 k2 k3
 unfold i6 at k1
 rw [e']at k1
 exact hq .normal al' hs' m' hk h3 a' β' w' k1 k2 (hw.trans k3)
theorem WX.IJ (fs:List Nat) {K:cJ} {al:bm} {hs:aq} {nI id:Nat}(hP:P.follows .mixedOrders=true) (hst:bH ops nt (e_ ops.toList)=true) (h:SK P ops nt [] ops.toList al hs fun bs al' hs'=>(rV ops (e_ ops.toList) bs fs && fe ops.toList bs)=true∧K .normal al' hs'):WX P nt nI (.code (.region id ops true)) al hs K:=by
 obtain⟨Lf,h1,h2,h3,bs,al',hs',h4,h5,h6⟩:=h
 exact WX.IG (jV fun e he=>(h2 e he).resolve_left (by simp)) hP hst h4 (by simp only [Bool.and_eq_true]at h5;exact h5.1) (by simp only [Bool.and_eq_true]at h5;exact h5.2) h6
theorem M1 {nI id:Nat}(fs:List Nat) {al:bm} {hs:aq} {K:cJ}(h:SK P ops nt [] ops.toList al hs fun bs al' hs'=>(rV ops (e_ ops.toList) bs fs && fe ops.toList bs)=true∧K .normal al' hs') (hP:P.follows .mixedOrders=true:=by kernel_rfl) (hst:bH ops nt (e_ ops.toList)=true:=by kernel_rfl):WX P nt nI (.code (.region id ops true)) al hs K:=
 WX.IJ fs hP hst h
end
end Go.Xm
namespace Go.Proofs.YtagpkhindehcbaaGreat
open Go.Xm
variable [aC]
theorem D1 {s:Sm}(hs:i7 s) {inter:Bool} {qp:Int}(hq:1≤qp∧qp≤31) {m:Mb}(hm:mJ s inter qp=m) {HS:aq}(hb:Nat.blt HS.length Mem.bound=true):aG.Sound Tryz.prog ⟨21,[.agg (oy s),.one (.bool inter),.one (.int .i64 qp)],HS,.agg (mC m),HS,[]⟩:=by
 subst hm
 exact az (GU hs inter hq) rfl (jv _) hb
abbrev KT:Sm:=⟨0,0,⟨fun _=>0,fun _=>0,false⟩,false,fun _=>0,0,false⟩
instance L8:Inhabited Sm:=⟨KT⟩
abbrev LS:Sm:=⟨3,0,⟨fun _=>0,fun _=>0,false⟩,false,fun _=>0,0,false⟩
theorem AF:i7 LS:=⟨⟨by decide,by decide⟩,⟨by decide,by decide⟩,⟨fun _ _=>by show -128≤(0:Int)∧(0:Int)<128;decide,fun _ _=>by show -128≤(0:Int)∧(0:Int)<128;decide⟩,fun _ _=>by show(0:Int)≤0∧(0:Int)<18446744073709551616;decide,by decide,by decide⟩
def jf (l:List Sm) (inter:Bool) (qp:Int):Nat→List Mb × Int
 | 0=>([],qp)
 | k+1=>((jf l inter qp k).1++[mJ (l.getD k default) inter (jf l inter qp k).2],(mJ (l.getD k default) inter (jf l inter qp k).2).qp)
def p9 (n:Nat) (room:Int):Nat:=min n (min 9 room.toNat)
def mE (l:List Sm) (inter:Bool) (qp room:Int):List Mb:=if l.length=0 then [mJ LS inter qp]else(jf l inter qp (p9 l.length room)).1
structure CT (inter:Bool) (qp:Int) (l:List Mb):Prop where
 mok:∀ k,k<l.length→iI (l.getD k default)
 chk:∀ k,k<l.length→dE (l.getD k default) inter (if k=0 then qp else(l.getD (k-1) default).qp)=0
theorem k_ (l:List Sm) (inter:Bool) (qp:Int):∀ k,(jf l inter qp k).1.length=k:=by
 intro k
 induction k with
 | zero=>rfl
 | succ k ih=>show((jf l inter qp k).1++[_]).length=k+1;rw [List.length_append,ih];rfl
theorem w8 {l:List Sm}(hl:∀ j,j<l.length→i7 (l.getD j default)) (inter:Bool) {qp:Int}(hq:1≤qp∧qp≤31):∀ k,k≤l.length→CT inter qp (jf l inter qp k).1∧1≤(jf l inter qp k).2∧(jf l inter qp k).2≤31∧(jf l inter qp k).2=if k=0 then qp else((jf l inter qp k).1.getD (k-1) default).qp:=by
 intro k
 induction k with
 | zero=>exact fun _=>⟨⟨fun _ h=>absurd h (Nat.not_lt_zero _),fun _ h=>absurd h (Nat.not_lt_zero _)⟩,hq.1,hq.2,rfl⟩
 | succ k ih=>
   intro hk
   obtain⟨ho,h1,h2,h3⟩:=ih (by omega)
   have hlen:=k_ l inter qp k
   obtain⟨x,hx⟩:∃ x,jf l inter qp k=x:=⟨_,rfl⟩
   rw [hx]at ho h1 h2 h3 hlen
   obtain⟨m,hm⟩:∃ m,mJ (l.getD k default) inter x.2=m:=⟨_,rfl⟩
   have hok:=D2 (inter:=inter) (hl k (by omega)) ⟨h1,h2⟩
   rw [hm]at hok
   have e:jf l inter qp (k+1)=(x.1++[m],m.qp):=by rw [jf,hx,hm]
   have g1:∀ j,j<k→(x.1++[m]).getD j default=x.1.getD j default:=fun j hj=>by
    rw [List.getD_eq_getElem?_getD,List.getD_eq_getElem?_getD,List.getElem?_append_left (by omega)]
   have g2:(x.1++[m]).getD k default=m:=by
    rw [List.getD_eq_getElem?_getD,List.getElem?_append_right (by omega),hlen,Nat.sub_self]
    rfl
   rw [e]
   refine⟨⟨fun j hj=>?_,fun j hj=>?_⟩,hok.2.2.1,hok.2.2.2,?_⟩
   · have hj':j<k+1:=by rw [List.length_append,hlen]at hj;exact hj
     show iI ((x.1++[m]).getD j default)
     by_cases h:j<k
     · rw [g1 j h];exact ho.mok j (by omega)
     · obtain rfl:j=k:=by omega
       rw [g2];exact hok.1
   · have hj':j<k+1:=by rw [List.length_append,hlen]at hj;exact hj
     show dE ((x.1++[m]).getD j default) inter (if j=0 then qp else((x.1++[m]).getD (j-1) default).qp)=0
     by_cases h:j<k
     · rw [g1 j h]
       have:=ho.chk j (by omega)
       by_cases h0:j=0
       · rw [if_pos h0]at this ⊢;exact this
       · rw [if_neg h0]at this ⊢
         rw [g1 (j-1) (by omega)];exact this
     · obtain rfl:j=k:=by omega
       rw [g2]
       have h3':(if j=0 then qp else((x.1++[m]).getD (j-1) default).qp)=x.2:=by
        rw [h3]
        by_cases h0:j=0
        · rw [if_pos h0,if_pos h0]
        · rw [if_neg h0,if_neg h0,g1 (j-1) (by omega)]
       rw [h3'];exact hok.2.1
   · rw [if_neg (by omega)]
     show m.qp=((x.1++[m]).getD (k+1-1) default).qp
     rw [Nat.add_sub_cancel,g2]
theorem D3 {l:List Sm}(hl:∀ j,j<l.length→i7 (l.getD j default)) (inter:Bool) {qp:Int}(hq:1≤qp∧qp≤31) {room:Int}(hr:1≤room):CT inter qp (mE l inter qp room)∧1≤(mE l inter qp room).length∧(mE l inter qp room).length≤9∧(((mE l inter qp room).length:Nat):Int)≤room:=by
 unfold mE
 by_cases h0:l.length=0
 · rw [if_pos h0]
   have hok:=D2 (inter:=inter) AF hq
   refine⟨⟨fun k hk=>?_,fun k hk=>?_⟩,Nat.le_refl 1,by show 1≤9;decide,hr⟩
   · have:k=0:=by simp at hk;exact hk
     subst this;exact hok.1
   · have:k=0:=by simp at hk;exact hk
     subst this;rw [if_pos rfl];exact hok.2.1
 · rw [if_neg h0]
   have:=w8 hl inter hq (p9 l.length room) (Nat.min_le_left _ _)
   refine⟨this.1,?_,?_,?_⟩
   · rw [k_];unfold p9;omega
   · rw [k_];unfold p9;omega
   · rw [k_];unfold p9;omega
def fj (h:Hd) (p:Ph) (f:Int) (c:XC):List XC:=gC h++(iC p++[.int .u8 f,c])
theorem ly (h:Hd) (p:Ph) (f:Int) (c:XC):(fj h p f c).length=137:=by simp [fj,bn,iC]
theorem EW (h:Hd) (p:Ph) (f:Int) (c:XC):((fj h p f c).drop 0).take 131=gC h:=by
 unfold fj
 rw [List.drop_zero,List.take_append_of_le_length (by rw [bn];exact Nat.le_refl _),List.take_of_length_le (by rw [bn];exact Nat.le_refl _)]
theorem xw (h:Hd) (p:Ph) (f:Int) (c:XC) (j:Nat):(fj h p f c)[131+j]? = (iC p++[.int .u8 f,c])[j]?:=by
 unfold fj
 rw [List.getElem?_append_right (by rw [bn];omega),bn,Nat.add_sub_cancel_left]
theorem EX (h:Hd) (p:Ph) (f:Int) (c:XC):((fj h p f c).drop 131).take 4=iC p:=by
 unfold fj
 rw [List.drop_append_of_le_length (by rw [bn];exact Nat.le_refl _),List.drop_of_length_le (by rw [bn];exact Nat.le_refl _)]
 rfl
theorem HC (h:Hd) (p:Ph) (f:Int) (c:XC):(fj h p f c)[135]? = some (.int .u8 f):=xw h p f c 4
theorem HB (h:Hd) (p:Ph) (f:Int) (c:XC):(fj h p f c)[136]? = some c:=xw h p f c 5
end Go.Proofs.YtagpkhindehcbaaGreat
namespace Go.Proofs.YtagpkhindehcbaaGreat
open Go.Xm
variable [aC]
theorem vZ:bz Tryz.prog 28 (iC ⟨0,false,false,0⟩):=by
 show bz Tryz.prog 28 [.int .i64 0,.bool false,.bool false,.int .i64 0]
 infer_instance
theorem Dz (g:Hd) (z:Int):(gC g).set 0 (.int .i64 z)=gC {g with cols:=z}:=rfl
def dZ (h:Hd) (f:Int):Int:=f%((four h).cols*(four h).rows)
def ib (h:Hd) (p:Ph) (f:Int) (l:List Sm):List Mb:=mE l (oc p).inter (oc p).qp ((four h).cols*(four h).rows-dZ h f)
theorem zP:bz Tryz.prog 81 (oy KT):=by
 show bz Tryz.prog 81 [.int .u8 0,.int .u8 0,.int .i8 0,.int .i8 0,.int .i8 0,.int .i8 0,.int .i8 0,.int .i8 0,.int .i8 0,.int .i8 0,.bool false,.bool false,.int .u64 0,.int .u64 0,.int .u64 0,.int .u64 0,.int .u64 0,.int .u64 0,.int .u32 0,.bool false]
 infer_instance
theorem pq (G:Hd) (P:Ph) (F:Int) (n k:Nat) (cap:rE) {m:Nat}(hk:k<m):(XV.tup [.agg (gC G),.agg (iC P),.one (.int .i64 F),.one (.slice k 0 n cap)]).cB m:=fun x hx=>by
 simp only [List.mem_cons,List.not_mem_nil,or_false]at hx
 rcases hx with rfl|rfl|rfl|rfl
 · exact X1.bO (x := .agg (gC G)) (h_ G) m
 · exact X1.bO (x := .agg (iC P)) rfl m
 · trivial
 · exact hk
theorem nM (G:Hd) (P:Ph) (F:Int) (n k:Nat) (cap:rE) (τ : Nat→Nat):(XV.tup [.agg (gC G),.agg (iC P),.one (.int .i64 F),.one (.slice k 0 n cap)]).aw τ = .tup [.agg (gC G),.agg (iC P),.one (.int .i64 F),.one (.slice (τ k) 0 n cap)]:=by
 have h:=(GA G).aw τ
 have e1:(X1.agg (gC G)).aw τ = .agg (gC G):=X1.dN (x := .agg (gC G)) (h_ G) τ
 simp only [XV.aw,List.map_cons,List.map_nil,e1]
 rfl
def Bh (n:Nat):rE:=if n=0 then .exact 1 else .toEnd 391
def yY (n:Nat):Bool:=if n=0 then false else true
set_option maxRecDepth 10000 in
set_option maxHeartbeats 4000000 in
theorem D4 {h:Hd} {p:Ph}(hh:oh h) (hp:my p) {f:Int}(hf:0≤f∧f≤255) (l:List Sm) (hl:∀ j,j<l.length→i7 (l.getD j default)) (ob:ak) (ho:v_ ob oy l) (c:XC) (hc:gl c 0 0 l.length) (hn:l.length≤9223372036854775807) :
 bq Tryz.prog 9 [.agg (fj h p f c)] [ob] (.tup [.agg (gC (four h)),.agg (iC (oc p)),.one (.int .i64 (dZ h f)),.one (.slice 1 0 (ib h p f l).length (Bh l.length))]) [ob,.cells (fl mC (ib h p f l)) 53 (yY l.length) false]:=by
 have hfo:=ho.flat
 obtain⟨hgo,g1,g2,g3,g4⟩:=Ac h
 have hcr:1≤(four h).cols*(four h).rows∧(four h).cols*(four h).rows≤64:=jL hgo.dims
 obtain⟨P,hP⟩:∃ P,oc p=P:=⟨_,rfl⟩
 have hpq:=(z7 hp).qp
 obtain⟨F,hF⟩:∃ F,dZ h f=F:=⟨_,rfl⟩
 have hF2:f%((four h).cols*(four h).rows)=F:=hF
 have hFr:0≤F∧F<(four h).cols*(four h).rows:=by
  rw [←hF2]
  exact⟨Int.emod_nonneg _ (by omega),Int.emod_lt_of_pos _ (by omega)⟩
 have hall:ib h p f l=mE l P.inter P.qp ((four h).cols*(four h).rows-F):=by unfold ib;rw [hP,hF]
 obtain⟨G,hG⟩:∃ G,four h=G:=⟨_,rfl⟩
 have hset:(gC {pe h with cols:=1+(pe h).cols%2^2}).set 1 (.int .i64 (1+(pe h).rows%2^2))=gC G:=by rw [←hG];rfl
 rw [hP]at hpq
 rw [hG]at hgo g1 g2 g3 g4 hcr hF2 hFr hall
 rw [hG,hP,hF,hall]
 have hlen:131=(gC G).length:=(bn _).symm
 obtain⟨r,hr⟩:∃ r,G.cols*G.rows-F=r:=⟨_,rfl⟩
 have hr1:1≤r∧r≤64:=by omega
 refine cO Tryz.func9 ?_
 repeat' (first
  |(refine qz ?_;first
   |refine qA (zs:=gC ⟨0,0,false,fun _=>0,fun _=>0⟩) (hz:=tp) ?_
   |refine qA (zs:=iC ⟨0,false,false,0⟩) (hz:=vZ) ?_
   |refine t9 (cs:=gC h) ?_ (hle:=by rw [ly];decide) (hc:=EW h p f c)
   |refine t9 (cs:=iC p) ?_ (hle:=by rw [ly];decide) (hc:=EX h p f c)
   |refine cl ?_ (hi:=by exact Dv hh rfl rfl)
   |refine cl ?_ (hi:=by exact Dw hp hP rfl)
   |refine jC (cs:=gC (pe h)) ?_ (hs1:=by rw [bn]) (hs2:=by rw [bn])
   |refine jC (cs:=iC P) ?_
   |refine an 2 ?_
   |refine st ?_ (hle:=by rw [bn];omega) (hv:=hset)
   |refine st (c := .int .i64 (1+(pe h).cols%2^2)) ?_ (hle:=by rw [bn];omega) (hv:=Dz _ _)
   |refine ld (c := .int .u8 f) ?_ (hc:=HC h p f c)
   |refine ld (c:=c) ?_ (hc:=HB h p f c)
   |refine ld (c := .int .i64 G.cols) ?_
   |refine ld (c := .int .i64 G.rows) ?_)
  |refine zG ?_|refine zA ?_|refine cX (fun _=>?_) (fun _=>?_)|refine aS (fun _=>?_) (fun _=>?_)|refine M1 (id:=1) [6,7] ?_|refine zL ?_|refine zF ?_|fail)
 refine WX.dt rfl ?_
 obtain⟨N,hN⟩:∃ N,p9 l.length r=N:=⟨_,rfl⟩
 have hN2:min l.length (min 9 r.toNat)=N:=hN
 refine WX.ek (σ:=Nat × List Mb × Int) (fun t=>[(2,.one (.ptr 1 0)),(3,.one (.ptr 2 0)),(6,.one (.ptr 3 0)),(7,.one (.ptr 4 0)),(8,.one (.int .i64 F)),(42,.one c),(43,.one (.int .i64 (l.length:Nat))),(9,iT 5 t.2.1.length 391),(10,.one (.int .i64 t.2.2)),(44,.one (.int .i64 (t.1:Nat)))]) (fun t=>[ob,.cells (gC ⟨0,0,false,fun _=>0,fun _=>0⟩) 26 false false,.cells (iC ⟨0,false,false,0⟩) 28 false false,.cells (gC G) 26 false false,.cells (iC P) 28 false false,c8 53 (fl mC t.2.1)]) (fun t=>t.1≤N∧jf l P.inter P.qp t.1=t.2) (fun t=>N-t.1) (0,[],P.qp) ⟨Nat.zero_le _,rfl⟩ (fun s _=>mO) (br [0,2,3,4,5,6] (reg:=by(repeat' (first|exact af.nil|refine af.flat (by rw [←hF2];rfl) ?_|refine af.flat rfl ?_|refine af.cons rfl ?_|refine af.sl rfl (by assumption) rfl ?_|refine af.dX rfl rfl (by first|rfl|omega|(simp;done)|(simp;omega)) ?_));first|done|fail)) ?_
 intro t ⟨ht,hrun⟩ ih
 have htl:=k_ l P.inter P.qp t.1
 have hto:=w8 hl P.inter hpq t.1 (by omega)
 rw [hrun]at htl hto
 obtain⟨-,hq1,hq2,-⟩:=hto
 by_cases hlt:t.1<N
 · have hmk:=hl t.1 (by omega)
   obtain⟨el,hel⟩:∃ el,l.getD t.1 default=el:=⟨_,rfl⟩
   have hel':l.getD (t.1:Int).toNat default=el:=hel
   rw [hel]at hmk
   obtain⟨m,hm⟩:∃ m,mJ el P.inter t.2.2=m:=⟨_,rfl⟩
   have hnx:jf l P.inter P.qp (t.1+1)=(t.2.1++[m],m.qp):=by rw [jf,hrun,hel,hm]
   repeat' (first
    |(refine qz ?_;first
     |refine qA (zs:=oy KT) (hz:=zP) ?_
     |refine qA (zs:=mC lK) (hz:=kE) ?_
     |refine wV (enc:=oy) ?_
     |refine jC (cs:=oy el) ?_ (hy:=by rw [←hel'];rfl)
     |refine ld (c := .int .i64 G.cols) ?_
     |refine ld (c := .int .i64 G.rows) ?_
     |refine ld (c := .int .i64 m.qp) ?_
     |refine cl ?_ (hi:=by exact D1 hmk ⟨hq1,hq2⟩ hm rfl)
     |refine jC (cs:=mC m) ?_ (hs1:=by rw [aL]) (hs2:=by rw [aL])
     |refine jq ?_ (hle:=by rw [aL])
     |refine pX (enc:=mC) (a:=m) ?_
     |refine tD (enc:=mC) ?_)
    |refine zG ?_|refine zA ?_|refine cX (fun _=>?_) (fun _=>?_)|refine aS (fun _=>?_) (fun _=>?_)|refine zL ?_|refine zF ?_|fail)
   exact ih (t.1+1,t.2.1++[m],m.qp) _ _ _ (br [0,1,2,3,4,9] (obj:=by(repeat' (first|exact ae.nil|refine ae.flat (by rw [List.length_append];rfl) ?_|refine ae.flat rfl ?_|refine ae.cons rfl ?_|refine ae.dead rfl ?_|refine ae.cons (by simp only [ak.aw,List.map_cons,List.map_nil,XC.aw,au];exact rfl) ?_));first|done|fail) (reg:=by(repeat' (first|exact af.nil|refine af.flat (by rw [List.length_append];rfl) ?_|refine af.flat rfl ?_|refine af.cons rfl ?_|refine af.sl rfl (by assumption) rfl ?_|refine af.dX rfl rfl (by first|rfl|omega|(simp;done)|(simp;omega)) ?_));first|done|fail)) ⟨by show t.1+1≤N;omega,hnx⟩ (by show N-(t.1+1)<N-t.1;omega)
 · have e0:t.1=N:=by omega
   by_cases h0:l.length=0
   · have eN:N=0:=by omega
     rw [e0,eN]at hrun
     have et:t.2.1 = []:=by rw [←hrun];rfl
     have eq:t.2.2=P.qp:=by rw [←hrun];rfl
     obtain⟨m,hm⟩:∃ m,mJ LS P.inter P.qp=m:=⟨_,rfl⟩
     have eL:mE l P.inter P.qp r = [m]:=by unfold mE;rw [if_pos h0,hm]
     have ec:Bh l.length = .exact 1:=if_pos h0
     have eo:yY l.length=false:=if_pos h0
     rw [hr,eL,ec,eo,et,eq]
     repeat' (first
      |(refine qz ?_;first
       |refine bS (zs:=oy KT) (hz:=zP) ?_
       |refine cl ?_ (hi:=by exact D1 AF hpq hm rfl)
       |refine pX (enc:=mC) (a:=m) ?_
       |refine ld (c := .int .i64 G.cols) ?_
       |refine ld (c := .int .i64 G.rows) ?_
       |refine jq ?_ (hle:=by rw [bn])
       |refine jC (cs:=gC G) ?_ (hs1:=by rw [bn]) (hs2:=by rw [bn])
       |refine jC (cs:=iC P) ?_)
      |refine zG ?_|refine zA ?_|refine cX (fun _=>?_) (fun _=>?_)|refine aS (fun _=>?_) (fun _=>?_)|refine zL ?_|refine zF ?_|fail)
     show aF _ _ _ _ _ _ _ _;refine kV [0,6] ?_ (hr:=gh.two rfl (.cell rfl rfl (b_ hlen) (.cell rfl rfl (b_ rfl) (.tmp rfl (.tmp rfl .nil))))) (hok:=pq G P F _ 1 _ (show 1<2 from Nat.lt_succ_self 1))
     rw [nM];rfl
   · have hne:t.2.1.length≠0:=by omega
     have hne2:fl mC t.2.1≠[]:=Dy (fun e=>hne (by rw [e];rfl))
     have eL:mE l P.inter P.qp r=t.2.1:=by unfold mE;rw [if_neg h0,hN,←e0,hrun]
     have ec:Bh l.length = .toEnd 391:=if_neg h0
     have eo:yY l.length=true:=if_neg h0
     rw [hr,eL,ec,eo,iu hne2,nU hne]
     by_cases h1:t.1<l.length
     · repeat' (first
        |(refine qz ?_;first
         |refine qA (zs:=oy KT) (hz:=zP) ?_
         |refine wV (enc:=oy) ?_
         |refine jC (cs:=oy (l.getD (t.1:Int).toNat default)) ?_
         |refine ld (c := .int .i64 G.cols) ?_
         |refine ld (c := .int .i64 G.rows) ?_
         |refine jq ?_ (hle:=by rw [bn])
         |refine jC (cs:=gC G) ?_ (hs1:=by rw [bn]) (hs2:=by rw [bn])
         |refine jC (cs:=iC P) ?_)
        |refine zG ?_|refine zA ?_|refine cX (fun _=>?_) (fun _=>?_)|refine aS (fun _=>?_) (fun _=>?_)|refine zL ?_|refine zF ?_|fail)
       all_goals first|(exfalso;omega)|skip
       all_goals (show aF _ _ _ _ _ _ _ _;refine kV [0,5] ?_ (hr:=gh.two rfl (.cell rfl rfl (b_ hlen) (.cell rfl rfl (b_ rfl) (.tmp rfl (.tmp rfl .nil))))) (hok:=pq G P F _ 1 _ (show 1<2 from Nat.lt_succ_self 1)))
       all_goals (rw [nM];rfl)
     · repeat' (first
        |(refine qz ?_;first
         |refine ld (c := .int .i64 G.cols) ?_
         |refine ld (c := .int .i64 G.rows) ?_
         |refine jq ?_ (hle:=by rw [bn])
         |refine jC (cs:=gC G) ?_ (hs1:=by rw [bn]) (hs2:=by rw [bn])
         |refine jC (cs:=iC P) ?_)
        |refine zG ?_|refine zA ?_|refine cX (fun _=>?_) (fun _=>?_)|refine aS (fun _=>?_) (fun _=>?_)|refine zL ?_|refine zF ?_|fail)
       show aF _ _ _ _ _ _ _ _;refine kV [0,5] ?_ (hr:=gh.two rfl (.cell rfl rfl (b_ hlen) (.cell rfl rfl (b_ rfl) (.tmp rfl (.tmp rfl .nil))))) (hok:=pq G P F _ 1 _ (show 1<2 from Nat.lt_succ_self 1))
       rw [nM];rfl
end Go.Proofs.YtagpkhindehcbaaGreat
namespace Go.Proofs.YtagpkhindehcbaaGreat
open Go.Xm
variable [aC]
theorem uj {first:Int} {k:Nat} {m:Mb} {x y:PS}(h:lh first k m x = .inr y):dE m x.S.inter x.S.qp=0∧∃ z,iG x.S x.B x.w m (first+(k:Nat))=some z∧y=⟨z.1,z.2.1,z.2.2⟩:=by
 unfold lh at h
 split at h
 · cases h
 · rename_i hc
   refine⟨Decidable.byContradiction fun g=>hc g,?_⟩
   split at h
   · cases h
   · rename_i z hz
     exact⟨z,hz,(Sum.inr.inj h).symm⟩
theorem oR {l:List Mb} {first:Int} {x0:PS} {k:Nat} {y:PS}(h:gw l first x0 (k+1) = .inr y):∃ x,gw l first x0 k = .inr x∧lh first k (l.getD k default) x = .inr y:=by
 rw [gw]at h
 split at h
 · cases h
 · rename_i x hx
   exact⟨x,hx,h⟩
theorem sC {l:List Mb} {first:Int} {x0:PS} {n:Nat} {y:PS}(h:gw l first x0 n = .inr y):∀ k,k≤n→∃ x,gw l first x0 k = .inr x:=by
 intro k hk
 cases hx:gw l first x0 k with
 | inr x=>exact⟨x,rfl⟩
 | inl e=>
   have:=jS hx n hk
   rw [h]at this
   cases this
theorem yS {h:Hd} {p:Ph} {l:List Mb} {first:Int}(hT:iJ h p l first) {k:Nat}(hk:k<l.length):iI (l.getD k default):=by
 rw [List.getD_eq_getElem?_getD,List.getElem?_eq_getElem hk,Option.getD_some]
 exact hT.mok _ (List.getElem_mem hk)
theorem sD {h:Hd} {p:Ph} {l:List Mb} {first:Int}(hT:iJ h p l first):∀ k,k≤l.length→∀ x,gw l first (sE h p) k = .inr x→v9 p.inter h.cols h.rows k x:=by
 intro k
 induction k with
 | zero=>intro _ x hx;cases hx;exact Ap hT.hd hT.ph
 | succ k ih=>
   intro hk x hx
   obtain⟨y,hy,hs⟩:=oR hx
   exact nR (ih (by omega) y hy) (yS hT (by omega)) hs
theorem ui {h:Hd} {p:Ph} {l:List Mb} {first:Int}(hT:iJ h p l first) {k:Nat}(hk:k<l.length) {x y:PS}(hx:gw l first (sE h p) k = .inr x) (hy:gw l first (sE h p) (k+1) = .inr y):x.B <+: y.B∧x.B.length<y.B.length:=by
 have hi:=sD hT k (by omega) x hx
 have hm:=yS hT hk
 obtain⟨x',hx',hs⟩:=oR hy
 obtain rfl:x=x':=by rw [hx]at hx';exact Sum.inr.inj hx'
 obtain⟨hc,z,hz,rfl⟩:=uj hs
 have hk2:=um hi.st hm (kS hm hc) hz
 have hn:0<(aA x.S (l.getD k default)).length:=by
  unfold aA
  rw [List.length_append]
  split
  · have hf:=(kS hm hc).kind
    have:∀ n:Fin 5,0<(c7 cM n.val).length:=by decide +kernel
    have:=this ⟨(l.getD k default).kind.toNat,by omega⟩
    simp only at this
    omega
  · simp only [List.length_cons,List.length_nil];omega
 refine⟨(List.prefix_append _ _).trans hk2.pre,?_⟩
 have:=hk2.pre.length_le
 rw [List.length_append]at this
 show x.B.length<z.2.1.length
 omega
theorem Ej {h:Hd} {p:Ph} {l:List Mb} {first:Int}(hT:iJ h p l first) {k:Nat} {x:PS}(hx:gw l first (sE h p) k = .inr x):∀ n,k≤n→n≤l.length→∀ y,gw l first (sE h p) n = .inr y→x.B <+: y.B∧(k<n→x.B.length<y.B.length):=by
 intro n hn
 induction hn with
 | refl=>
   intro _ y hy
   rw [hx]at hy
   cases hy
   exact⟨List.prefix_refl _,fun g=>absurd g (Nat.lt_irrefl _)⟩
 | @step n hkn ih=>
   intro hl y hy
   obtain⟨w,hw⟩:=sC hy n (Nat.le_succ _)
   have h1:=ih (by omega) w hw
   have h2:=ui hT (by omega) hw hy
   exact⟨h1.1.trans h2.1,fun _=>by have:=h1.1.length_le;omega⟩
noncomputable def Me (l:List Mb) (first:Int) (x0:PS) (i j:Nat):List Ev:=
 match gw l first x0 i with
 | .inr x=>Ds x.S x.B (l.getD i default) (first+(i:Nat)) j
 | .inl _=>[]
structure yd (l:List Mb) (ft:Int) (x0:PS) (k:Nat) (x:PS) (t:TA):Prop where
 rel:Rel x.S t.S
 r:t.r=(x.B.length,false)
 len:t.out.length=k
 outs:∀ i,i<k→∃ o,t.out[i]? = some o∧CU (l.getD i default) o.1∧∀ j,j<6→o.2 j=decide (0<(Me l ft x0 i j).length)
theorem rel_refl (S:bX):Rel S S:=⟨rfl,rfl,rfl,rfl,fun _=>rfl,fun _=>rfl,fun _=>rfl,fun _=>rfl⟩
theorem HF {h:Hd} {p:Ph} {l:List Mb} {first:Int}(hT:iJ h p l first) {B:List Bool}:∀ k,k≤l.length→∀ x,gw l first (sE h p) k = .inr x→x.B <+: B→∃ t,(∀ j,lA B first (k+j) ⟨sR h p,(0,false),[]⟩=lA B first j t)∧yd l first (sE h p) k x t:=by
 intro k
 induction k with
 | zero=>
   intro _ x hx hp
   cases hx
   exact⟨⟨sR h p,(0,false),[]⟩,fun j=>by rw [Nat.zero_add],rel_refl _,rfl,rfl,fun i hi=>absurd hi (Nat.not_lt_zero _)⟩
 | succ k ih=>
   intro hk y hy hp
   obtain⟨x,hx,hs⟩:=oR hy
   have hpre:=(ui hT (by omega) hx hy).1
   obtain⟨t,ht,hb⟩:=ih (by omega) x hx (hpre.trans hp)
   have hi:=sD hT k (by omega) x hx
   have hm:=yS hT (k:=k) (by omega)
   obtain⟨hc,z,hz,rfl⟩:=uj hs
   have hf:=kS hm hc
   have hmb:first+(t.out.length:Nat)=first+(k:Nat):=by rw [hb.len]
   have hz':iG x.S x.B x.w (l.getD k default) (first+(k:Nat))=some (z.1,z.2.1,z.2.2):=hz
   obtain⟨b1,b2,b3,b4⟩:=Ch hb.rel hi.st.tiny (r5 hm hf) hf hz' hp
   refine⟨mh B first t,fun j=>?_,?_,?_,?_,?_⟩
   · rw [show k+1+j=k+(j+1) by omega,ht (j+1),lA,if_neg (by rw [hb.r];exact Bool.false_ne_true)]
   · show Rel z.1 (dh t.S B (first+(t.out.length:Nat)) t.r).1.S
     rw [hmb,hb.r];exact b2
   · show(dh t.S B (first+(t.out.length:Nat)) t.r).1.r=_
     rw [hmb,hb.r];exact b1
   · show(t.out++[_]).length=k+1
     rw [List.length_append,hb.len];rfl
   · intro i hi'
     show ∃ o,(t.out++[((dh t.S B (first+(t.out.length:Nat)) t.r).1.m,(dh t.S B (first+(t.out.length:Nat)) t.r).2)])[i]? = some o∧_
     by_cases h1:i<k
     · obtain⟨o,ho,h2⟩:=hb.outs i h1
       exact⟨o,by rw [List.getElem?_append_left (by rw [hb.len];exact h1)];exact ho,h2⟩
     · obtain rfl:i=k:=by omega
       refine⟨_,by rw [List.getElem?_append_right (by rw [hb.len];exact Nat.le_refl _),hb.len,Nat.sub_self];rfl,?_,?_⟩
       · show CU _ (dh t.S B (first+(i:Nat)) t.r).1.m
         rw [hb.r];exact b3
       · intro j hj
         show(dh t.S B (first+(i:Nat)) t.r).2 j=_
         rw [hb.r,b4 j hj]
         unfold Me
         rw [hx]
theorem Cg {h:Hd} {p:Ph} {l:List Mb} {first:Int}(hT:iJ h p l first) {x:PS}(hx:gw l first (sE h p) l.length = .inr x) {n:Nat}(hn:n≤l.length) :
 ∃ t y,lA x.B first n ⟨sR h p,(0,false),[]⟩=t∧gw l first (sE h p) n = .inr y∧yd l first (sE h p) n y t∧yC x.B t.r=if n<l.length then 13 else 0:=by
 obtain⟨y,hy⟩:=sC hx n hn
 have hp:=Ej hT hy l.length hn (Nat.le_refl _) x hx
 obtain⟨t,ht,hb⟩:=HF hT n hn y hy hp.1
 have ht0:=ht 0
 rw [Nat.add_zero]at ht0
 refine⟨t,y,ht0,hy,hb,?_⟩
 rw [hb.r]
 unfold yC
 by_cases hlt:n<l.length
 · rw [if_pos hlt,if_neg Bool.false_ne_true,if_pos (hp.2 hlt)]
 · have e:n=l.length:=by omega
   rw [e,hx]at hy
   cases hy
   rw [if_neg hlt,if_neg Bool.false_ne_true,if_neg (Nat.lt_irrefl _)]
end Go.Proofs.YtagpkhindehcbaaGreat
