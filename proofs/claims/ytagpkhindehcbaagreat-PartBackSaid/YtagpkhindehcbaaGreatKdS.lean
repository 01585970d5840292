/-
  A part of the proof: Blocks.
-/
import Derived.Test.YtagpkhindehcbaaGreatKdM
import Derived.Test.YtagpkhindehcbaaGreatKdR
set_option maxRecDepth 10000
set_option maxHeartbeats 8000000
set_option linter.unusedVariables false
set_option linter.unusedSectionVars false
set_option linter.unusedSimpArgs false
namespace Go.Proofs.YtagpkhindehcbaaGreat
open Go.Xm
variable [az]
theorem oV {f:Nat→Int} {st:Nat} {EV:List Ev}(h:fI f st=EV) {z:Int}(hz:z=(st:Nat)) (hst:st≤64) {HS:aj} {N:Nat}(hN:HS.length=N) {HS':aj}(hh:HS++[dc EV]=HS') (hbd:Nat.blt HS'.length Mem.bound=true) :
 aH.Sound Tryz.prog ⟨90,[.agg (ti .i64 64 f),.one (.int .i64 z)],HS,fS N EV.length 3,HS',[]⟩:=by
 subst h
 exact KJ hz hst hN hh hbd
theorem wa:∀(ls:List Nat) (os HS l:aj),os.length=ls.length→(∀(j i:Nat),ls[j]? = some i→∃ o,HS[i]? = some o∧os[j]? = some o)→bG HS ls (os++l)=HS++l
 | [],[],HS,l,_,_=>by simp [bG]
 | [],_::_,_,_,h,_=>by simp at h
 | _::_,[],_,_,h,_=>by simp at h
 | i::ls,o::os,HS,l,h,hg=>by
   obtain⟨o',h1,h2⟩:=hg 0 i rfl
   have:o'=o:=by simpa using h2.symm
   subst this
   show bG (HS.set i o') ls (os++l)=_
   rw [aG h1]
   exact wa ls os HS l (by simpa using h) fun j i' hj=>hg (j+1) i' hj
theorem kT {bs:List Bool} {S:bC} {n:Int}(hn : -4000≤n∧n≤4000) (hb:bs.length≤800000) {HS:aj} {k:Nat}(hi:HS[0]? = some (aP k bs)) (hk:HS[k]? = some (aq bs)) (hS:(HS.drop 2).take 20=dI S) (hd:(k == 1 || Nat.ble 22 k)=true) {N:Nat}(hN:HS.length=N) {HS':aj}(hh:bG HS [0,k] [aP N (bs++aX n),.dead,aq (bs++aX n)]=HS') (hbd:Nat.blt HS'.length Mem.bound=true) :
 aH.Sound Tryz.prog ⟨89,[.one (.ptr 2 0),.one (.ptr 0 0),.one (.int .i64 n)],HS,.tup [],HS',0::k::bL⟩:=by
 refine JH hn hb hi hk hS hd hN ?_ hbd
 rw [←hh]
 rw [bG,bG]
 refine wa bL (dI S) _ _ rfl fun j i hj=>?_
 have hkk:k=1∨22≤k:=by simpa [Nat.ble_eq]using hd
 have hjl:j<20:=(List.getElem?_eq_some_iff.1 hj).1
 have hq:∀ q:Fin 20,bL[q.val]? = some (q.val+2):=by decide
 have:=hq ⟨j,hjl⟩
 rw [hj]at this
 obtain rfl:i=j+2:=by simpa using this
 rw [List.getElem?_set_ne (by omega),List.getElem?_set_ne (by omega)]
 have g:HS[j+2]? = (dI S)[j]?:=by
  rw [←hS,List.getElem?_take,if_pos hjl,List.getElem?_drop]
  congr 1
  omega
 have hl:j<(dI S).length:=hjl
 exact⟨(dI S)[j],by rw [g,List.getElem?_eq_getElem hl],List.getElem?_eq_getElem hl⟩
theorem oH (bs bw:List Bool) (S:bC) (m:Mb) (mb:Int) (hg:kb m) (hS:iy S) (hmb:0≤mb∧mb<S.cols*S.rows) (hb:bs.length≤700000) (hbw:bw.length≤700000) (x:pe) (hx:fq m mb ⟨S,bs,0,0,fun _=>[]⟩ 6=some x) :
 bn Tryz.prog 58 [.one (.ptr 2 0),.one (.ptr 0 0),.one (.ptr 22 0),.one (.int .i64 mb),.agg (mC m)] [aP 1 bs,aq bs,du (S),bM 4 8 12,ax 5 6 7 cM,aU cM,aW cM,aV cM,ax 9 10 11 cZ,aU cZ,aW cZ,aV cZ,ax 13 14 15 cP,aU cP,aW cP,aV cP,cg 17 (S).cols (S).rows,.map (bg (S).M),.cells [.int .i64 (S).cols,.int .i64 (S).rows,.map 19,.map 20,.map 21] 171 false false,.map (ah (S).A),.map (ah (S).B),.map (ah (S).C),aP 23 bw,aq bw] (.one (.int .i64 0)) [aP 24 (eY x),.dead,du (x.S),bM 4 8 12,ax 5 6 7 cM,aU cM,aW cM,aV cM,ax 9 10 11 cZ,aU cZ,aW cZ,aV cZ,ax 13 14 15 cP,aU cP,aW cP,aV cP,cg 17 (x.S).cols (x.S).rows,.map (bg (x.S).M),.cells [.int .i64 (x.S).cols,.int .i64 (x.S).rows,.map 19,.map 20,.map 21] 171 false false,.map (ah (x.S).A),.map (ah (x.S).B),.map (ah (x.S).C),aP 25 (bB bw x 6),.dead,aq (eY x),aq (bB bw x 6)]:=by
 have hm:=hg.ok
 refine cO Tryz.func58 ?_
 repeat' (first
  |(refine qz ?_;first
   |refine rH (cs:=ti .i64 384 m.lev) ?_ (hle:=by rw [aJ];decide) (hc:=tZ m))
  |refine zz ?_|refine zx (fun _=>?_) (fun _=>?_)|fail)
 refine WX.cS (σ:=Nat × pe) (fun s=>[(26,.one (.int .i64 (s.1:Nat))),(12,.one (.int .i64 s.2.pat)),(13,.one (.int .u64 s.2.col)),(0,.one (.ptr 2 0)),(1,.one (.ptr 0 0)),(2,.one (.ptr 22 0)),(3,.one (.int .i64 mb)),(9,.one (.ptr 25 0)),(11,.one (.ptr 26 0)),(25,.agg (ti .i64 384 m.lev))])
  (fun s=>[aP 24 s.2.B,.dead,du (s.2.S),bM 4 8 12,ax 5 6 7 cM,aU cM,aW cM,aV cM,ax 9 10 11 cZ,aU cZ,aW cZ,aV cZ,ax 13 14 15 cP,aU cP,aW cP,aV cP,cg 17 (s.2.S).cols (s.2.S).rows,.map (bg (s.2.S).M),.cells [.int .i64 (s.2.S).cols,.int .i64 (s.2.S).rows,.map 19,.map 20,.map 21] 171 false false,.map (ah (s.2.S).A),.map (ah (s.2.S).B),.map (ah (s.2.S).C),aP 23 bw,aq bw,aq s.2.B,lB m,Oe s.2.ev,dc (s.2.ev 0),dc (s.2.ev 1),dc (s.2.ev 2),dc (s.2.ev 3),dc (s.2.ev 4),dc (s.2.ev 5)]) (yv m mb ⟨S,bs,0,0,fun _=>[]⟩) (fun s=>6-s.1) (0,⟨S,bs,0,0,fun _=>[]⟩) ⟨by show 0≤6;omega,rfl,hS,⟨rfl,rfl⟩,by show bs.length≤bs.length+76*0;omega,fun _ _=>rfl,fun _ => .inl rfl,⟨by show(0:Int)≤0;omega,by show(0:Int)<16;omega⟩,⟨by show(0:Int)≤0;omega,by show(0:Int)<4;omega⟩⟩ (fun s _=>j5) (bh [0,1,2,3,4,5,6,7,8,9,10,11,12,13,14,15,16,17,18,19,20,21,22,23,1,24,25,0,0,0,0,0,0]) ?_
 intro s hs ih
 have hD:=hs.st.dims
 have hmb':0≤mb∧mb<s.2.S.cols*s.2.S.rows:=by rw [hs.cr.1,hs.cr.2];exact hmb
 have hpat:=hs.pat
 have hcol:=hs.col
 have hlen:s.2.B.length≤bs.length+76*s.1:=hs.len
 by_cases h6:s.1<6
 · obtain ⟨r,hr⟩:∃ r,fV m s.2.S mb s.1=some r:=by
    cases hr:fV m s.2.S mb s.1 with
    | some r=>exact⟨r,rfl⟩
    | none=>
      have h1:fq m mb ⟨S,bs,0,0,fun _=>[]⟩ (s.1+1)=none:=by
       rw [fq,hs.run]
       simp only [Option.bind_some,hr,Option.map_none]
      rw [DN h1 6 (by omega)]at hx
      cases hx
   have hN:=lM hg hs h6 hr
   cases ha:alone m
   · have er:aE m s.1=r:=by
      unfold fV at hr
      rw [if_neg (by rw [ha];decide)]at hr
      exact Option.some.inj hr
     subst er
     obtain⟨EV,hEV⟩:∃ EV,fI (iZ (dC m.edge (aL s.2.S mb s.1 m.qp).1) (aE m s.1)) 0=EV:=⟨_,rfl⟩
     have eEV:pk m s.2.S mb s.1 (aE m s.1)=EV:=by
      unfold pk
      rw [if_neg (by rw [ha];decide)]
      exact hEV
     rw [eEV]at hN
     repeat' (first
      |(refine qz ?_;first
       |refine zc (n:=384) ?_
       |refine jb ?_ (hs1:=by rw [aF]) (hs2:=by rw [aF])
       |refine fW ?_ (hle:=by first|rw [aF]|rw [aJ])
       |refine cl ?_ (hi:=by exact hZ (S:=s.2.S) (mb:=mb) (k:=(s.1:Nat)) (q:=m.qp) hD hmb' (by omega) rfl rfl rfl rfl rfl)
       |refine cl ?_ (hi:=by exact gU ha rfl)
       |refine cl ?_ (hi:=by exact jL rfl)
       |refine cl ?_ (hi:=by exact oZ (f:=aE m s.1) (fe _ _) rfl)
       |refine cl (v := .one (.int .i64 0)) ?_ (hi:=by exact l6 ha rfl)
       |refine cl ?_ (hi:=by exact oV hEV rfl (by decide) nL nA rfl)
       |refine st ?_ (hle:=by exact h6) (hv:=rfl)
       |refine ld (hc:=by exact List.getElem?_set_self (by exact h6)) ?_)
      |refine zz ?_|refine zx (fun _=>?_) (fun _=>?_)|fail)
     · rename_i g0 g1
       have hE:cy m mb s.1 s.2 EV=⟨s.2.S,s.2.B,eI s.2.pat s.1,s.2.col,fun j=>if j=s.1 then EV else s.2.ev j⟩:=by
        unfold cy
        rw [if_neg (by rw [ha];decide),if_neg (by rw [ha];decide),if_pos (by omega),if_neg (by omega)]
       rw [hE]at hN
       rcases(show s.1=0∨s.1=1∨s.1=2∨s.1=3 by omega)with hk|hk|hk|hk
       · rw [hk]at hN ⊢
         refine ih (1,⟨s.2.S,s.2.B,eI s.2.pat 0,s.2.col,fun j=>if j=0 then EV else s.2.ev j⟩) _ _ _ (bh [0,1,2,3,4,5,6,7,8,9,10,11,12,13,14,15,16,17,18,19,20,21,22,23,24,25,26,35,28,29,30,31,32]) hN (by show 6-1<6-s.1;omega)
       · rw [hk]at hN ⊢
         refine ih (2,⟨s.2.S,s.2.B,eI s.2.pat 1,s.2.col,fun j=>if j=1 then EV else s.2.ev j⟩) _ _ _ (bh [0,1,2,3,4,5,6,7,8,9,10,11,12,13,14,15,16,17,18,19,20,21,22,23,24,25,26,27,35,29,30,31,32]) hN (by show 6-2<6-s.1;omega)
       · rw [hk]at hN ⊢
         refine ih (3,⟨s.2.S,s.2.B,eI s.2.pat 2,s.2.col,fun j=>if j=2 then EV else s.2.ev j⟩) _ _ _ (bh [0,1,2,3,4,5,6,7,8,9,10,11,12,13,14,15,16,17,18,19,20,21,22,23,24,25,26,27,28,35,30,31,32]) hN (by show 6-3<6-s.1;omega)
       · rw [hk]at hN ⊢
         refine ih (4,⟨s.2.S,s.2.B,eI s.2.pat 3,s.2.col,fun j=>if j=3 then EV else s.2.ev j⟩) _ _ _ (bh [0,1,2,3,4,5,6,7,8,9,10,11,12,13,14,15,16,17,18,19,20,21,22,23,24,25,26,27,28,29,35,31,32]) hN (by show 6-4<6-s.1;omega)
     · rename_i g0 g1
       have hE:cy m mb s.1 s.2 EV=⟨s.2.S,s.2.B,s.2.pat,ic s.2.col s.1,fun j=>if j=s.1 then EV else s.2.ev j⟩:=by
        unfold cy
        rw [if_neg (by rw [ha];decide),if_neg (by rw [ha];decide),if_neg (by omega),if_pos (by omega)]
       rw [hE]at hN
       rcases(show s.1=4∨s.1=5 by omega)with hk|hk
       · rw [hk]at hN ⊢
         refine ih (5,⟨s.2.S,s.2.B,s.2.pat,ic s.2.col 4,fun j=>if j=4 then EV else s.2.ev j⟩) _ _ _ (bh [0,1,2,3,4,5,6,7,8,9,10,11,12,13,14,15,16,17,18,19,20,21,22,23,24,25,26,27,28,29,30,35,32]) hN (by show 6-5<6-s.1;omega)
       · rw [hk]at hN ⊢
         refine ih (6,⟨s.2.S,s.2.B,s.2.pat,ic s.2.col 5,fun j=>if j=5 then EV else s.2.ev j⟩) _ _ _ (bh [0,1,2,3,4,5,6,7,8,9,10,11,12,13,14,15,16,17,18,19,20,21,22,23,24,25,26,27,28,29,30,31,35]) hN (by show 6-6<6-s.1;omega)
     · rename_i g0
       have hE:cy m mb s.1 s.2 EV=⟨s.2.S,s.2.B,s.2.pat,s.2.col,fun j=>if j=s.1 then EV else s.2.ev j⟩:=by
        unfold cy
        rw [if_neg (by rw [ha];decide),if_neg (by rw [ha];decide),if_neg (by omega),if_neg (by omega)]
       rw [hE]at hN
       rcases(show s.1=0∨s.1=1∨s.1=2∨s.1=3∨s.1=4∨s.1=5 by omega)with hk|hk|hk|hk|hk|hk
       · rw [hk]at hN ⊢
         refine ih (1,⟨s.2.S,s.2.B,s.2.pat,s.2.col,fun j=>if j=0 then EV else s.2.ev j⟩) _ _ _ (bh [0,1,2,3,4,5,6,7,8,9,10,11,12,13,14,15,16,17,18,19,20,21,22,23,24,25,26,35,28,29,30,31,32]) hN (by show 6-1<6-s.1;omega)
       · rw [hk]at hN ⊢
         refine ih (2,⟨s.2.S,s.2.B,s.2.pat,s.2.col,fun j=>if j=1 then EV else s.2.ev j⟩) _ _ _ (bh [0,1,2,3,4,5,6,7,8,9,10,11,12,13,14,15,16,17,18,19,20,21,22,23,24,25,26,27,35,29,30,31,32]) hN (by show 6-2<6-s.1;omega)
       · rw [hk]at hN ⊢
         refine ih (3,⟨s.2.S,s.2.B,s.2.pat,s.2.col,fun j=>if j=2 then EV else s.2.ev j⟩) _ _ _ (bh [0,1,2,3,4,5,6,7,8,9,10,11,12,13,14,15,16,17,18,19,20,21,22,23,24,25,26,27,28,35,30,31,32]) hN (by show 6-3<6-s.1;omega)
       · rw [hk]at hN ⊢
         refine ih (4,⟨s.2.S,s.2.B,s.2.pat,s.2.col,fun j=>if j=3 then EV else s.2.ev j⟩) _ _ _ (bh [0,1,2,3,4,5,6,7,8,9,10,11,12,13,14,15,16,17,18,19,20,21,22,23,24,25,26,27,28,29,35,31,32]) hN (by show 6-4<6-s.1;omega)
       · rw [hk]at hN ⊢
         refine ih (5,⟨s.2.S,s.2.B,s.2.pat,s.2.col,fun j=>if j=4 then EV else s.2.ev j⟩) _ _ _ (bh [0,1,2,3,4,5,6,7,8,9,10,11,12,13,14,15,16,17,18,19,20,21,22,23,24,25,26,27,28,29,30,35,32]) hN (by show 6-5<6-s.1;omega)
       · rw [hk]at hN ⊢
         refine ih (6,⟨s.2.S,s.2.B,s.2.pat,s.2.col,fun j=>if j=5 then EV else s.2.ev j⟩) _ _ _ (bh [0,1,2,3,4,5,6,7,8,9,10,11,12,13,14,15,16,17,18,19,20,21,22,23,24,25,26,27,28,29,30,31,35]) hN (by show 6-6<6-s.1;omega)
   · cases he:m.edge
     · have he':m.edge=false:=he
       have hl6:(mC m)[6]? = some (.bool false):=congrArg (fun b=>some (XC.bool b)) he'
       have hfr:=j9 s.2.S mb s.1 m.qp
       have hfi:0≤m.lev ((s.1:Int).toNat*64+0)∧m.lev ((s.1:Int).toNat*64+0)≤127:=hg.first ha s.1 h6
       have hdr:=lO hg (S:=s.2.S) (mb:=mb) ha h6
       have er:c8 (aE m s.1) 0 0=r:=by
        unfold fV at hr
        rw [if_pos ha,if_neg (by rw [he'];decide)]at hr
        exact Option.some.inj hr
       subst er
       obtain⟨EV,hEV⟩:∃ EV,fI (iZ (dC false (aL s.2.S mb s.1 m.qp).1) (c8 (aE m s.1) 0 0)) 1=EV:=⟨_,rfl⟩
       have eEV:pk m s.2.S mb s.1 (c8 (aE m s.1) 0 0)=EV:=by
        unfold pk
        rw [if_pos ha,he']
        exact hEV
       rw [eEV]at hN
       repeat' (first
        |(refine qz ?_;first
         |refine ld (hc:=hl6) ?_
         |refine zc (n:=384) ?_
         |refine jb ?_ (hs1:=by rw [aF]) (hs2:=by rw [aF])
         |refine fW ?_ (hle:=by first|rw [aF]|rw [aJ])
         |refine cl ?_ (hi:=by exact hZ (S:=s.2.S) (mb:=mb) (k:=(s.1:Nat)) (q:=m.qp) hD hmb' (by omega) rfl rfl rfl rfl rfl)
         |refine cl ?_ (hi:=by exact gU ha rfl)
         |refine cl ?_ (hi:=by exact jL rfl)
         |refine O0 ?_ (hi:=by exact kT (n:=aE m s.1 0-(aL s.2.S mb s.1 m.qp).2) hdr (bs:=s.2.B) (by omega) rfl rfl (S:=s.2.S) rfl rfl nL nA rfl)
         |refine cl ?_ (hi:=by exact kT (n:=aE m s.1 0-(aL s.2.S mb s.1 m.qp).2) hdr (bs:=s.2.B) (by omega) rfl rfl (S:=s.2.S) rfl rfl nL nA rfl)
         |refine cl ?_ (hi:=by exact lh (S:=s.2.S) (mb:=mb) (k:=(s.1:Nat)) (b:=⟨aE m s.1,m.qp⟩) hD hmb' (by omega) rfl rfl rfl rfl nA rfl)
         |refine cl ?_ (hi:=by exact oZ (f:=c8 (aE m s.1) 0 0) (fe _ _) rfl)
         |refine cl (v := .one (.int .i64 1)) ?_ (hi:=by exact l6 ha rfl)
         |refine cl ?_ (hi:=by exact oV hEV rfl (by decide) nL nA rfl)
         |refine st ?_ (hle:=by exact h6) (hv:=rfl)
         |refine ld (hc:=by exact List.getElem?_set_self (by exact h6)) ?_)
        |refine zz ?_|refine zx (fun _=>?_) (fun _=>?_)|fail)
       · rename_i g0 g1
         have hE:cy m mb s.1 s.2 EV=⟨aN s.2.S mb s.1 ⟨aE m s.1,m.qp⟩,s.2.B++aX (aE m s.1 0-(aL s.2.S mb s.1 m.qp).2),eI s.2.pat s.1,s.2.col,fun j=>if j=s.1 then EV else s.2.ev j⟩:=by
          unfold cy
          rw [if_pos ha,if_pos ha,if_pos (by omega),if_neg (by omega)]
         rw [hE]at hN
         rcases(show s.1=0∨s.1=1∨s.1=2∨s.1=3 by omega)with hk|hk|hk|hk
         · rw [hk]at hN ⊢
           refine ih (1,⟨aN s.2.S mb 0 ⟨aE m 0,m.qp⟩,s.2.B++aX (aE m 0 0-(aL s.2.S mb 0 m.qp).2),eI s.2.pat 0,s.2.col,fun j=>if j=0 then EV else s.2.ev j⟩) _ _ _ (bh [0,1,2,3,4,5,6,7,8,9,10,11,12,13,14,15,16,17,18,19,20,21,22,23,35,25,26,36,28,29,30,31,32]) hN (by show 6-1<6-s.1;omega)
         · rw [hk]at hN ⊢
           refine ih (2,⟨aN s.2.S mb 1 ⟨aE m 1,m.qp⟩,s.2.B++aX (aE m 1 0-(aL s.2.S mb 1 m.qp).2),eI s.2.pat 1,s.2.col,fun j=>if j=1 then EV else s.2.ev j⟩) _ _ _ (bh [0,1,2,3,4,5,6,7,8,9,10,11,12,13,14,15,16,17,18,19,20,21,22,23,35,25,26,27,36,29,30,31,32]) hN (by show 6-2<6-s.1;omega)
         · rw [hk]at hN ⊢
           refine ih (3,⟨aN s.2.S mb 2 ⟨aE m 2,m.qp⟩,s.2.B++aX (aE m 2 0-(aL s.2.S mb 2 m.qp).2),eI s.2.pat 2,s.2.col,fun j=>if j=2 then EV else s.2.ev j⟩) _ _ _ (bh [0,1,2,3,4,5,6,7,8,9,10,11,12,13,14,15,16,17,18,19,20,21,22,23,35,25,26,27,28,36,30,31,32]) hN (by show 6-3<6-s.1;omega)
         · rw [hk]at hN ⊢
           refine ih (4,⟨aN s.2.S mb 3 ⟨aE m 3,m.qp⟩,s.2.B++aX (aE m 3 0-(aL s.2.S mb 3 m.qp).2),eI s.2.pat 3,s.2.col,fun j=>if j=3 then EV else s.2.ev j⟩) _ _ _ (bh [0,1,2,3,4,5,6,7,8,9,10,11,12,13,14,15,16,17,18,19,20,21,22,23,35,25,26,27,28,29,36,31,32]) hN (by show 6-4<6-s.1;omega)
       · rename_i g0 g1
         have hE:cy m mb s.1 s.2 EV=⟨aN s.2.S mb s.1 ⟨aE m s.1,m.qp⟩,s.2.B++aX (aE m s.1 0-(aL s.2.S mb s.1 m.qp).2),s.2.pat,ic s.2.col s.1,fun j=>if j=s.1 then EV else s.2.ev j⟩:=by
          unfold cy
          rw [if_pos ha,if_pos ha,if_neg (by omega),if_pos (by omega)]
         rw [hE]at hN
         rcases(show s.1=4∨s.1=5 by omega)with hk|hk
         · rw [hk]at hN ⊢
           refine ih (5,⟨aN s.2.S mb 4 ⟨aE m 4,m.qp⟩,s.2.B++aX (aE m 4 0-(aL s.2.S mb 4 m.qp).2),s.2.pat,ic s.2.col 4,fun j=>if j=4 then EV else s.2.ev j⟩) _ _ _ (bh [0,1,2,3,4,5,6,7,8,9,10,11,12,13,14,15,16,17,18,19,20,21,22,23,35,25,26,27,28,29,30,36,32]) hN (by show 6-5<6-s.1;omega)
         · rw [hk]at hN ⊢
           refine ih (6,⟨aN s.2.S mb 5 ⟨aE m 5,m.qp⟩,s.2.B++aX (aE m 5 0-(aL s.2.S mb 5 m.qp).2),s.2.pat,ic s.2.col 5,fun j=>if j=5 then EV else s.2.ev j⟩) _ _ _ (bh [0,1,2,3,4,5,6,7,8,9,10,11,12,13,14,15,16,17,18,19,20,21,22,23,35,25,26,27,28,29,30,31,36]) hN (by show 6-6<6-s.1;omega)
       · rename_i g0
         have hE:cy m mb s.1 s.2 EV=⟨aN s.2.S mb s.1 ⟨aE m s.1,m.qp⟩,s.2.B++aX (aE m s.1 0-(aL s.2.S mb s.1 m.qp).2),s.2.pat,s.2.col,fun j=>if j=s.1 then EV else s.2.ev j⟩:=by
          unfold cy
          rw [if_pos ha,if_pos ha,if_neg (by omega),if_neg (by omega)]
         rw [hE]at hN
         rcases(show s.1=0∨s.1=1∨s.1=2∨s.1=3∨s.1=4∨s.1=5 by omega)with hk|hk|hk|hk|hk|hk
         · rw [hk]at hN ⊢
           refine ih (1,⟨aN s.2.S mb 0 ⟨aE m 0,m.qp⟩,s.2.B++aX (aE m 0 0-(aL s.2.S mb 0 m.qp).2),s.2.pat,s.2.col,fun j=>if j=0 then EV else s.2.ev j⟩) _ _ _ (bh [0,1,2,3,4,5,6,7,8,9,10,11,12,13,14,15,16,17,18,19,20,21,22,23,35,25,26,36,28,29,30,31,32]) hN (by show 6-1<6-s.1;omega)
         · rw [hk]at hN ⊢
           refine ih (2,⟨aN s.2.S mb 1 ⟨aE m 1,m.qp⟩,s.2.B++aX (aE m 1 0-(aL s.2.S mb 1 m.qp).2),s.2.pat,s.2.col,fun j=>if j=1 then EV else s.2.ev j⟩) _ _ _ (bh [0,1,2,3,4,5,6,7,8,9,10,11,12,13,14,15,16,17,18,19,20,21,22,23,35,25,26,27,36,29,30,31,32]) hN (by show 6-2<6-s.1;omega)
         · rw [hk]at hN ⊢
           refine ih (3,⟨aN s.2.S mb 2 ⟨aE m 2,m.qp⟩,s.2.B++aX (aE m 2 0-(aL s.2.S mb 2 m.qp).2),s.2.pat,s.2.col,fun j=>if j=2 then EV else s.2.ev j⟩) _ _ _ (bh [0,1,2,3,4,5,6,7,8,9,10,11,12,13,14,15,16,17,18,19,20,21,22,23,35,25,26,27,28,36,30,31,32]) hN (by show 6-3<6-s.1;omega)
         · rw [hk]at hN ⊢
           refine ih (4,⟨aN s.2.S mb 3 ⟨aE m 3,m.qp⟩,s.2.B++aX (aE m 3 0-(aL s.2.S mb 3 m.qp).2),s.2.pat,s.2.col,fun j=>if j=3 then EV else s.2.ev j⟩) _ _ _ (bh [0,1,2,3,4,5,6,7,8,9,10,11,12,13,14,15,16,17,18,19,20,21,22,23,35,25,26,27,28,29,36,31,32]) hN (by show 6-4<6-s.1;omega)
         · rw [hk]at hN ⊢
           refine ih (5,⟨aN s.2.S mb 4 ⟨aE m 4,m.qp⟩,s.2.B++aX (aE m 4 0-(aL s.2.S mb 4 m.qp).2),s.2.pat,s.2.col,fun j=>if j=4 then EV else s.2.ev j⟩) _ _ _ (bh [0,1,2,3,4,5,6,7,8,9,10,11,12,13,14,15,16,17,18,19,20,21,22,23,35,25,26,27,28,29,30,36,32]) hN (by show 6-5<6-s.1;omega)
         · rw [hk]at hN ⊢
           refine ih (6,⟨aN s.2.S mb 5 ⟨aE m 5,m.qp⟩,s.2.B++aX (aE m 5 0-(aL s.2.S mb 5 m.qp).2),s.2.pat,s.2.col,fun j=>if j=5 then EV else s.2.ev j⟩) _ _ _ (bh [0,1,2,3,4,5,6,7,8,9,10,11,12,13,14,15,16,17,18,19,20,21,22,23,35,25,26,27,28,29,30,31,36]) hN (by show 6-6<6-s.1;omega)
     · have he':m.edge=true:=he
       have hl6:(mC m)[6]? = some (.bool true):=congrArg (fun b=>some (XC.bool b)) he'
       have hfr:=j9 s.2.S mb s.1 m.qp
       have hfi:0≤m.lev ((s.1:Int).toNat*64+0)∧m.lev ((s.1:Int).toNat*64+0)≤127:=hg.first ha s.1 h6
       have hdr:=lO hg (S:=s.2.S) (mb:=mb) ha h6
       obtain⟨R,hR,er⟩:∃ R,n7 (aE m s.1) (cz s.2.S mb s.1 m.qp)=some R∧c8 R 0 0=r:=by
        unfold fV at hr
        rw [if_pos ha,if_pos he']at hr
        exact Option.map_eq_some_iff.1 hr
       subst er
       obtain⟨EV,hEV⟩:∃ EV,fI (iZ (dC true (aL s.2.S mb s.1 m.qp).1) (c8 (R) 0 0)) 1=EV:=⟨_,rfl⟩
       have eEV:pk m s.2.S mb s.1 (c8 (R) 0 0)=EV:=by
        unfold pk
        rw [if_pos ha,he']
        exact hEV
       rw [eEV]at hN
       repeat' (first
        |(refine qz ?_;first
         |refine ld (hc:=hl6) ?_
         |refine zc (n:=384) ?_
         |refine jb ?_ (hs1:=by rw [aF]) (hs2:=by rw [aF])
         |refine fW ?_ (hle:=by first|rw [aF]|rw [aJ])
         |refine cl ?_ (hi:=by exact hZ (S:=s.2.S) (mb:=mb) (k:=(s.1:Nat)) (q:=m.qp) hD hmb' (by omega) rfl rfl rfl rfl rfl)
         |refine cl ?_ (hi:=by exact gU ha rfl)
         |refine cl ?_ (hi:=by exact jL rfl)
         |refine cl ?_ (hi:=by exact ov (S:=s.2.S) (mb:=mb) (k:=(s.1:Nat)) (q:=m.qp) hD hmb' (by omega) rfl rfl rfl rfl rfl)
         |refine cl (v := .tup [.agg (ti .i64 64 R),.one (.bool true)]) ?_ (hi:=by exact xx (l:=aE m s.1) (fun i=>hm.lev _) (m_ (fun dx dy b hb=>xB hs.st.lev hb)) hR rfl)
         |refine O0 ?_ (hi:=by exact kT (n:=aE m s.1 0-(aL s.2.S mb s.1 m.qp).2) hdr (bs:=s.2.B) (by omega) rfl rfl (S:=s.2.S) rfl rfl nL nA rfl)
         |refine cl ?_ (hi:=by exact kT (n:=aE m s.1 0-(aL s.2.S mb s.1 m.qp).2) hdr (bs:=s.2.B) (by omega) rfl rfl (S:=s.2.S) rfl rfl nL nA rfl)
         |refine cl ?_ (hi:=by exact lh (S:=s.2.S) (mb:=mb) (k:=(s.1:Nat)) (b:=⟨aE m s.1,m.qp⟩) hD hmb' (by omega) rfl rfl rfl rfl nA rfl)
         |refine cl ?_ (hi:=by exact oZ (f:=c8 (R) 0 0) (fe _ _) rfl)
         |refine cl (v := .one (.int .i64 1)) ?_ (hi:=by exact l6 ha rfl)
         |refine cl ?_ (hi:=by exact oV hEV rfl (by decide) nL nA rfl)
         |refine st ?_ (hle:=by exact h6) (hv:=rfl)
         |refine ld (hc:=by exact List.getElem?_set_self (by exact h6)) ?_)
        |refine Fx (id:=10) [14] ?_|refine zz ?_|refine zx (fun _=>?_) (fun _=>?_)|fail)
       · rename_i g0 g1
         have hE:cy m mb s.1 s.2 EV=⟨aN s.2.S mb s.1 ⟨aE m s.1,m.qp⟩,s.2.B++aX (aE m s.1 0-(aL s.2.S mb s.1 m.qp).2),eI s.2.pat s.1,s.2.col,fun j=>if j=s.1 then EV else s.2.ev j⟩:=by
          unfold cy
          rw [if_pos ha,if_pos ha,if_pos (by omega),if_neg (by omega)]
         rw [hE]at hN
         rcases(show s.1=0∨s.1=1∨s.1=2∨s.1=3 by omega)with hk|hk|hk|hk
         · rw [hk]at hN ⊢
           refine ih (1,⟨aN s.2.S mb 0 ⟨aE m 0,m.qp⟩,s.2.B++aX (aE m 0 0-(aL s.2.S mb 0 m.qp).2),eI s.2.pat 0,s.2.col,fun j=>if j=0 then EV else s.2.ev j⟩) _ _ _ (bh [0,1,2,3,4,5,6,7,8,9,10,11,12,13,14,15,16,17,18,19,20,21,22,23,36,25,26,37,28,29,30,31,32]) hN (by show 6-1<6-s.1;omega)
         · rw [hk]at hN ⊢
           refine ih (2,⟨aN s.2.S mb 1 ⟨aE m 1,m.qp⟩,s.2.B++aX (aE m 1 0-(aL s.2.S mb 1 m.qp).2),eI s.2.pat 1,s.2.col,fun j=>if j=1 then EV else s.2.ev j⟩) _ _ _ (bh [0,1,2,3,4,5,6,7,8,9,10,11,12,13,14,15,16,17,18,19,20,21,22,23,36,25,26,27,37,29,30,31,32]) hN (by show 6-2<6-s.1;omega)
         · rw [hk]at hN ⊢
           refine ih (3,⟨aN s.2.S mb 2 ⟨aE m 2,m.qp⟩,s.2.B++aX (aE m 2 0-(aL s.2.S mb 2 m.qp).2),eI s.2.pat 2,s.2.col,fun j=>if j=2 then EV else s.2.ev j⟩) _ _ _ (bh [0,1,2,3,4,5,6,7,8,9,10,11,12,13,14,15,16,17,18,19,20,21,22,23,36,25,26,27,28,37,30,31,32]) hN (by show 6-3<6-s.1;omega)
         · rw [hk]at hN ⊢
           refine ih (4,⟨aN s.2.S mb 3 ⟨aE m 3,m.qp⟩,s.2.B++aX (aE m 3 0-(aL s.2.S mb 3 m.qp).2),eI s.2.pat 3,s.2.col,fun j=>if j=3 then EV else s.2.ev j⟩) _ _ _ (bh [0,1,2,3,4,5,6,7,8,9,10,11,12,13,14,15,16,17,18,19,20,21,22,23,36,25,26,27,28,29,37,31,32]) hN (by show 6-4<6-s.1;omega)
       · rename_i g0 g1
         have hE:cy m mb s.1 s.2 EV=⟨aN s.2.S mb s.1 ⟨aE m s.1,m.qp⟩,s.2.B++aX (aE m s.1 0-(aL s.2.S mb s.1 m.qp).2),s.2.pat,ic s.2.col s.1,fun j=>if j=s.1 then EV else s.2.ev j⟩:=by
          unfold cy
          rw [if_pos ha,if_pos ha,if_neg (by omega),if_pos (by omega)]
         rw [hE]at hN
         rcases(show s.1=4∨s.1=5 by omega)with hk|hk
         · rw [hk]at hN ⊢
           refine ih (5,⟨aN s.2.S mb 4 ⟨aE m 4,m.qp⟩,s.2.B++aX (aE m 4 0-(aL s.2.S mb 4 m.qp).2),s.2.pat,ic s.2.col 4,fun j=>if j=4 then EV else s.2.ev j⟩) _ _ _ (bh [0,1,2,3,4,5,6,7,8,9,10,11,12,13,14,15,16,17,18,19,20,21,22,23,36,25,26,27,28,29,30,37,32]) hN (by show 6-5<6-s.1;omega)
         · rw [hk]at hN ⊢
           refine ih (6,⟨aN s.2.S mb 5 ⟨aE m 5,m.qp⟩,s.2.B++aX (aE m 5 0-(aL s.2.S mb 5 m.qp).2),s.2.pat,ic s.2.col 5,fun j=>if j=5 then EV else s.2.ev j⟩) _ _ _ (bh [0,1,2,3,4,5,6,7,8,9,10,11,12,13,14,15,16,17,18,19,20,21,22,23,36,25,26,27,28,29,30,31,37]) hN (by show 6-6<6-s.1;omega)
       · rename_i g0
         have hE:cy m mb s.1 s.2 EV=⟨aN s.2.S mb s.1 ⟨aE m s.1,m.qp⟩,s.2.B++aX (aE m s.1 0-(aL s.2.S mb s.1 m.qp).2),s.2.pat,s.2.col,fun j=>if j=s.1 then EV else s.2.ev j⟩:=by
          unfold cy
          rw [if_pos ha,if_pos ha,if_neg (by omega),if_neg (by omega)]
         rw [hE]at hN
         rcases(show s.1=0∨s.1=1∨s.1=2∨s.1=3∨s.1=4∨s.1=5 by omega)with hk|hk|hk|hk|hk|hk
         · rw [hk]at hN ⊢
           refine ih (1,⟨aN s.2.S mb 0 ⟨aE m 0,m.qp⟩,s.2.B++aX (aE m 0 0-(aL s.2.S mb 0 m.qp).2),s.2.pat,s.2.col,fun j=>if j=0 then EV else s.2.ev j⟩) _ _ _ (bh [0,1,2,3,4,5,6,7,8,9,10,11,12,13,14,15,16,17,18,19,20,21,22,23,36,25,26,37,28,29,30,31,32]) hN (by show 6-1<6-s.1;omega)
         · rw [hk]at hN ⊢
           refine ih (2,⟨aN s.2.S mb 1 ⟨aE m 1,m.qp⟩,s.2.B++aX (aE m 1 0-(aL s.2.S mb 1 m.qp).2),s.2.pat,s.2.col,fun j=>if j=1 then EV else s.2.ev j⟩) _ _ _ (bh [0,1,2,3,4,5,6,7,8,9,10,11,12,13,14,15,16,17,18,19,20,21,22,23,36,25,26,27,37,29,30,31,32]) hN (by show 6-2<6-s.1;omega)
         · rw [hk]at hN ⊢
           refine ih (3,⟨aN s.2.S mb 2 ⟨aE m 2,m.qp⟩,s.2.B++aX (aE m 2 0-(aL s.2.S mb 2 m.qp).2),s.2.pat,s.2.col,fun j=>if j=2 then EV else s.2.ev j⟩) _ _ _ (bh [0,1,2,3,4,5,6,7,8,9,10,11,12,13,14,15,16,17,18,19,20,21,22,23,36,25,26,27,28,37,30,31,32]) hN (by show 6-3<6-s.1;omega)
         · rw [hk]at hN ⊢
           refine ih (4,⟨aN s.2.S mb 3 ⟨aE m 3,m.qp⟩,s.2.B++aX (aE m 3 0-(aL s.2.S mb 3 m.qp).2),s.2.pat,s.2.col,fun j=>if j=3 then EV else s.2.ev j⟩) _ _ _ (bh [0,1,2,3,4,5,6,7,8,9,10,11,12,13,14,15,16,17,18,19,20,21,22,23,36,25,26,27,28,29,37,31,32]) hN (by show 6-4<6-s.1;omega)
         · rw [hk]at hN ⊢
           refine ih (5,⟨aN s.2.S mb 4 ⟨aE m 4,m.qp⟩,s.2.B++aX (aE m 4 0-(aL s.2.S mb 4 m.qp).2),s.2.pat,s.2.col,fun j=>if j=4 then EV else s.2.ev j⟩) _ _ _ (bh [0,1,2,3,4,5,6,7,8,9,10,11,12,13,14,15,16,17,18,19,20,21,22,23,36,25,26,27,28,29,30,37,32]) hN (by show 6-5<6-s.1;omega)
         · rw [hk]at hN ⊢
           refine ih (6,⟨aN s.2.S mb 5 ⟨aE m 5,m.qp⟩,s.2.B++aX (aE m 5 0-(aL s.2.S mb 5 m.qp).2),s.2.pat,s.2.col,fun j=>if j=5 then EV else s.2.ev j⟩) _ _ _ (bh [0,1,2,3,4,5,6,7,8,9,10,11,12,13,14,15,16,17,18,19,20,21,22,23,36,25,26,27,28,29,30,31,37]) hN (by show 6-6<6-s.1;omega)
 · have h66:s.1=6:=by have:=hs.le;omega
   have hxs:s.2=x:=by
    have h1:=hs.run
    rw [h66,hx]at h1
    exact(Option.some.inj h1).symm
   have hcl:=j7 Cz x.pat.toNat
   have hevs:=hs.evs
   rw [hxs]at hpat hcol hlen hevs ⊢
   have hpn:x.pat=(x.pat.toNat:Nat):=by omega
   repeat' (first
    |(refine qz ?_;first
     |refine cl ?_ (hi:=by exact qn (C:=cP) Cz (n:=x.pat.toNat) hpn (by show x.pat.toNat<16;omega) (bs:=x.B) (by omega) rfl rfl rfl rfl rfl rfl (by decide) nL nA rfl)
     |refine cl ?_ (hi:=by exact h_ (n:=x.col) (size:=2) rfl (bs:=x.B++db cP x.pat.toNat) (by omega) (by decide) (by rw [List.length_append];omega) rfl rfl (by decide) nL nA rfl))
    |refine zz ?_|refine zx (fun _=>?_) (fun _=>?_)|fail)
   refine WX.cS (σ:=Nat) (fun j=>[(125,.one (.int .i64 (j:Nat))),(2,.one (.ptr 22 0)),(124,.agg [gQ 26 (x.ev 0).length 3,gQ 27 (x.ev 1).length 3,gQ 28 (x.ev 2).length 3,gQ 29 (x.ev 3).length 3,gQ 30 (x.ev 4).length 3,gQ 31 (x.ev 5).length 3])]) (fun j=>[aP 24 (eY x),.dead,du (x.S),bM 4 8 12,ax 5 6 7 cM,aU cM,aW cM,aV cM,ax 9 10 11 cZ,aU cZ,aW cZ,aV cZ,ax 13 14 15 cP,aU cP,aW cP,aV cP,cg 17 (x.S).cols (x.S).rows,.map (bg (x.S).M),.cells [.int .i64 (x.S).cols,.int .i64 (x.S).rows,.map 19,.map 20,.map 21] 171 false false,.map (ah (x.S).A),.map (ah (x.S).B),.map (ah (x.S).C),aP 25 (bB bw x j),.dead,aq (eY x),aq (bB bw x j),dc (x.ev 0),dc (x.ev 1),dc (x.ev 2),dc (x.ev 3),dc (x.ev 4),dc (x.ev 5)]) (fun j=>j≤6) (fun j=>6-j) 0 (by omega) (fun s _=>j5) (bh [0,1,2,3,4,5,6,7,8,9,10,11,12,13,14,15,16,17,18,19,20,21,22,23,34,23,27,28,29,30,31,32] (obj:=by(repeat' (first|exact ae.nil|refine ae.ed rfl rfl rfl rfl ?_|refine ae.flat rfl ?_|refine ae.cons rfl ?_|refine ae.dead rfl ?_|refine ae.cons (by simp only [ak.ay,List.map_cons,List.map_nil,XC.ay,aw];exact rfl) ?_));first|done|fail) (reg:=by(repeat' (first|exact af.nil|refine af.cons (by simp only [XV.ay,List.map_cons,List.map_nil,aw];rfl) ?_|refine af.flat rfl ?_|refine af.cons rfl ?_|refine af.sl rfl (by assumption) rfl ?_|refine af.dY rfl rfl (by first|rfl|omega|(simp;done)|(simp;omega)) ?_));first|done|fail)) ?_
   intro j hj ih2
   by_cases hj6:j<6
   · have hW:=rB (bw:=bw) hevs j
     rcases(show j=0∨j=1∨j=2∨j=3∨j=4∨j=5 by omega)with rfl|rfl|rfl|rfl|rfl|rfl
     · by_cases hl0:(x.ev 0).length=0
       · have e0:x.ev 0 = []:=List.length_eq_zero_iff.1 hl0
         have eW:bB bw x (0+1)=bB bw x 0:=(show bB bw x (0+1)=bB bw x 0++cR (x.ev 0)from rfl).trans (by rw [e0];exact List.append_nil _)
         repeat' (first
          |(refine qz ?_;first
           |refine pS ?_)
          |refine zz ?_|refine zx (fun _=>?_) (fun _=>?_)|fail)
         refine ih2 (0+1) _ _ _ (bh [0,1,2,3,4,5,6,7,8,9,10,11,12,13,14,15,16,17,18,19,20,21,22,23,24,25,26,27,28,29,30,31] (obj:=by(repeat' (first|exact ae.nil|refine ae.flat (by rw [eW];rfl) ?_|refine ae.ed rfl rfl rfl rfl ?_|refine ae.ed (by rw [eW];rfl) rfl rfl rfl ?_|refine ae.flat rfl ?_|refine ae.cons rfl ?_|refine ae.dead rfl ?_|refine ae.cons (by simp only [ak.ay,List.map_cons,List.map_nil,XC.ay,aw];exact rfl) ?_));first|done|fail) (reg:=by(repeat' (first|exact af.nil|refine af.cons (by simp only [XV.ay,List.map_cons,List.map_nil,aw];rfl) ?_|refine af.flat rfl ?_|refine af.cons rfl ?_|refine af.sl rfl (by assumption) rfl ?_|refine af.dY rfl rfl (by first|rfl|omega|(simp;done)|(simp;omega)) ?_));first|done|fail)) (by omega) (by omega)
       · have ho:gG (x.ev 0):=(hevs 0).resolve_left (fun h=>hl0 (by rw [h];rfl))
         repeat' (first
          |(refine qz ?_;first
           |refine pS ?_
           |refine cl ?_ (hi:=by exact oI (bs:=bB bw x 0) (l:=x.ev 0) ho (by omega) rfl rfl rfl (by decide) nL nA rfl))
          |refine zz ?_|refine zx (fun _=>?_) (fun _=>?_)|fail)
         refine ih2 (0+1) _ _ _ (bh [0,1,2,3,4,5,6,7,8,9,10,11,12,13,14,15,16,17,18,19,20,21,22,23,24,32,26,27,28,29,30,31] (obj:=by(repeat' (first|exact ae.nil|refine ae.ed rfl rfl rfl rfl ?_|refine ae.flat rfl ?_|refine ae.cons rfl ?_|refine ae.dead rfl ?_|refine ae.cons (by simp only [ak.ay,List.map_cons,List.map_nil,XC.ay,aw];exact rfl) ?_));first|done|fail) (reg:=by(repeat' (first|exact af.nil|refine af.cons (by simp only [XV.ay,List.map_cons,List.map_nil,aw];rfl) ?_|refine af.flat rfl ?_|refine af.cons rfl ?_|refine af.sl rfl (by assumption) rfl ?_|refine af.dY rfl rfl (by first|rfl|omega|(simp;done)|(simp;omega)) ?_));first|done|fail)) (by omega) (by omega)
     · by_cases hl0:(x.ev 1).length=0
       · have e0:x.ev 1 = []:=List.length_eq_zero_iff.1 hl0
         have eW:bB bw x (1+1)=bB bw x 1:=(show bB bw x (1+1)=bB bw x 1++cR (x.ev 1)from rfl).trans (by rw [e0];exact List.append_nil _)
         repeat' (first
          |(refine qz ?_;first
           |refine pS ?_)
          |refine zz ?_|refine zx (fun _=>?_) (fun _=>?_)|fail)
         refine ih2 (1+1) _ _ _ (bh [0,1,2,3,4,5,6,7,8,9,10,11,12,13,14,15,16,17,18,19,20,21,22,23,24,25,26,27,28,29,30,31] (obj:=by(repeat' (first|exact ae.nil|refine ae.flat (by rw [eW];rfl) ?_|refine ae.ed rfl rfl rfl rfl ?_|refine ae.ed (by rw [eW];rfl) rfl rfl rfl ?_|refine ae.flat rfl ?_|refine ae.cons rfl ?_|refine ae.dead rfl ?_|refine ae.cons (by simp only [ak.ay,List.map_cons,List.map_nil,XC.ay,aw];exact rfl) ?_));first|done|fail) (reg:=by(repeat' (first|exact af.nil|refine af.cons (by simp only [XV.ay,List.map_cons,List.map_nil,aw];rfl) ?_|refine af.flat rfl ?_|refine af.cons rfl ?_|refine af.sl rfl (by assumption) rfl ?_|refine af.dY rfl rfl (by first|rfl|omega|(simp;done)|(simp;omega)) ?_));first|done|fail)) (by omega) (by omega)
       · have ho:gG (x.ev 1):=(hevs 1).resolve_left (fun h=>hl0 (by rw [h];rfl))
         repeat' (first
          |(refine qz ?_;first
           |refine pS ?_
           |refine cl ?_ (hi:=by exact oI (bs:=bB bw x 1) (l:=x.ev 1) ho (by omega) rfl rfl rfl (by decide) nL nA rfl))
          |refine zz ?_|refine zx (fun _=>?_) (fun _=>?_)|fail)
         refine ih2 (1+1) _ _ _ (bh [0,1,2,3,4,5,6,7,8,9,10,11,12,13,14,15,16,17,18,19,20,21,22,23,24,32,26,27,28,29,30,31] (obj:=by(repeat' (first|exact ae.nil|refine ae.ed rfl rfl rfl rfl ?_|refine ae.flat rfl ?_|refine ae.cons rfl ?_|refine ae.dead rfl ?_|refine ae.cons (by simp only [ak.ay,List.map_cons,List.map_nil,XC.ay,aw];exact rfl) ?_));first|done|fail) (reg:=by(repeat' (first|exact af.nil|refine af.cons (by simp only [XV.ay,List.map_cons,List.map_nil,aw];rfl) ?_|refine af.flat rfl ?_|refine af.cons rfl ?_|refine af.sl rfl (by assumption) rfl ?_|refine af.dY rfl rfl (by first|rfl|omega|(simp;done)|(simp;omega)) ?_));first|done|fail)) (by omega) (by omega)
     · by_cases hl0:(x.ev 2).length=0
       · have e0:x.ev 2 = []:=List.length_eq_zero_iff.1 hl0
         have eW:bB bw x (2+1)=bB bw x 2:=(show bB bw x (2+1)=bB bw x 2++cR (x.ev 2)from rfl).trans (by rw [e0];exact List.append_nil _)
         repeat' (first
          |(refine qz ?_;first
           |refine pS ?_)
          |refine zz ?_|refine zx (fun _=>?_) (fun _=>?_)|fail)
         refine ih2 (2+1) _ _ _ (bh [0,1,2,3,4,5,6,7,8,9,10,11,12,13,14,15,16,17,18,19,20,21,22,23,24,25,26,27,28,29,30,31] (obj:=by(repeat' (first|exact ae.nil|refine ae.flat (by rw [eW];rfl) ?_|refine ae.ed rfl rfl rfl rfl ?_|refine ae.ed (by rw [eW];rfl) rfl rfl rfl ?_|refine ae.flat rfl ?_|refine ae.cons rfl ?_|refine ae.dead rfl ?_|refine ae.cons (by simp only [ak.ay,List.map_cons,List.map_nil,XC.ay,aw];exact rfl) ?_));first|done|fail) (reg:=by(repeat' (first|exact af.nil|refine af.cons (by simp only [XV.ay,List.map_cons,List.map_nil,aw];rfl) ?_|refine af.flat rfl ?_|refine af.cons rfl ?_|refine af.sl rfl (by assumption) rfl ?_|refine af.dY rfl rfl (by first|rfl|omega|(simp;done)|(simp;omega)) ?_));first|done|fail)) (by omega) (by omega)
       · have ho:gG (x.ev 2):=(hevs 2).resolve_left (fun h=>hl0 (by rw [h];rfl))
         repeat' (first
          |(refine qz ?_;first
           |refine pS ?_
           |refine cl ?_ (hi:=by exact oI (bs:=bB bw x 2) (l:=x.ev 2) ho (by omega) rfl rfl rfl (by decide) nL nA rfl))
          |refine zz ?_|refine zx (fun _=>?_) (fun _=>?_)|fail)
         refine ih2 (2+1) _ _ _ (bh [0,1,2,3,4,5,6,7,8,9,10,11,12,13,14,15,16,17,18,19,20,21,22,23,24,32,26,27,28,29,30,31] (obj:=by(repeat' (first|exact ae.nil|refine ae.ed rfl rfl rfl rfl ?_|refine ae.flat rfl ?_|refine ae.cons rfl ?_|refine ae.dead rfl ?_|refine ae.cons (by simp only [ak.ay,List.map_cons,List.map_nil,XC.ay,aw];exact rfl) ?_));first|done|fail) (reg:=by(repeat' (first|exact af.nil|refine af.cons (by simp only [XV.ay,List.map_cons,List.map_nil,aw];rfl) ?_|refine af.flat rfl ?_|refine af.cons rfl ?_|refine af.sl rfl (by assumption) rfl ?_|refine af.dY rfl rfl (by first|rfl|omega|(simp;done)|(simp;omega)) ?_));first|done|fail)) (by omega) (by omega)
     · by_cases hl0:(x.ev 3).length=0
       · have e0:x.ev 3 = []:=List.length_eq_zero_iff.1 hl0
         have eW:bB bw x (3+1)=bB bw x 3:=(show bB bw x (3+1)=bB bw x 3++cR (x.ev 3)from rfl).trans (by rw [e0];exact List.append_nil _)
         repeat' (first
          |(refine qz ?_;first
           |refine pS ?_)
          |refine zz ?_|refine zx (fun _=>?_) (fun _=>?_)|fail)
         refine ih2 (3+1) _ _ _ (bh [0,1,2,3,4,5,6,7,8,9,10,11,12,13,14,15,16,17,18,19,20,21,22,23,24,25,26,27,28,29,30,31] (obj:=by(repeat' (first|exact ae.nil|refine ae.flat (by rw [eW];rfl) ?_|refine ae.ed rfl rfl rfl rfl ?_|refine ae.ed (by rw [eW];rfl) rfl rfl rfl ?_|refine ae.flat rfl ?_|refine ae.cons rfl ?_|refine ae.dead rfl ?_|refine ae.cons (by simp only [ak.ay,List.map_cons,List.map_nil,XC.ay,aw];exact rfl) ?_));first|done|fail) (reg:=by(repeat' (first|exact af.nil|refine af.cons (by simp only [XV.ay,List.map_cons,List.map_nil,aw];rfl) ?_|refine af.flat rfl ?_|refine af.cons rfl ?_|refine af.sl rfl (by assumption) rfl ?_|refine af.dY rfl rfl (by first|rfl|omega|(simp;done)|(simp;omega)) ?_));first|done|fail)) (by omega) (by omega)
       · have ho:gG (x.ev 3):=(hevs 3).resolve_left (fun h=>hl0 (by rw [h];rfl))
         repeat' (first
          |(refine qz ?_;first
           |refine pS ?_
           |refine cl ?_ (hi:=by exact oI (bs:=bB bw x 3) (l:=x.ev 3) ho (by omega) rfl rfl rfl (by decide) nL nA rfl))
          |refine zz ?_|refine zx (fun _=>?_) (fun _=>?_)|fail)
         refine ih2 (3+1) _ _ _ (bh [0,1,2,3,4,5,6,7,8,9,10,11,12,13,14,15,16,17,18,19,20,21,22,23,24,32,26,27,28,29,30,31] (obj:=by(repeat' (first|exact ae.nil|refine ae.ed rfl rfl rfl rfl ?_|refine ae.flat rfl ?_|refine ae.cons rfl ?_|refine ae.dead rfl ?_|refine ae.cons (by simp only [ak.ay,List.map_cons,List.map_nil,XC.ay,aw];exact rfl) ?_));first|done|fail) (reg:=by(repeat' (first|exact af.nil|refine af.cons (by simp only [XV.ay,List.map_cons,List.map_nil,aw];rfl) ?_|refine af.flat rfl ?_|refine af.cons rfl ?_|refine af.sl rfl (by assumption) rfl ?_|refine af.dY rfl rfl (by first|rfl|omega|(simp;done)|(simp;omega)) ?_));first|done|fail)) (by omega) (by omega)
     · by_cases hl0:(x.ev 4).length=0
       · have e0:x.ev 4 = []:=List.length_eq_zero_iff.1 hl0
         have eW:bB bw x (4+1)=bB bw x 4:=(show bB bw x (4+1)=bB bw x 4++cR (x.ev 4)from rfl).trans (by rw [e0];exact List.append_nil _)
         repeat' (first
          |(refine qz ?_;first
           |refine pS ?_)
          |refine zz ?_|refine zx (fun _=>?_) (fun _=>?_)|fail)
         refine ih2 (4+1) _ _ _ (bh [0,1,2,3,4,5,6,7,8,9,10,11,12,13,14,15,16,17,18,19,20,21,22,23,24,25,26,27,28,29,30,31] (obj:=by(repeat' (first|exact ae.nil|refine ae.flat (by rw [eW];rfl) ?_|refine ae.ed rfl rfl rfl rfl ?_|refine ae.ed (by rw [eW];rfl) rfl rfl rfl ?_|refine ae.flat rfl ?_|refine ae.cons rfl ?_|refine ae.dead rfl ?_|refine ae.cons (by simp only [ak.ay,List.map_cons,List.map_nil,XC.ay,aw];exact rfl) ?_));first|done|fail) (reg:=by(repeat' (first|exact af.nil|refine af.cons (by simp only [XV.ay,List.map_cons,List.map_nil,aw];rfl) ?_|refine af.flat rfl ?_|refine af.cons rfl ?_|refine af.sl rfl (by assumption) rfl ?_|refine af.dY rfl rfl (by first|rfl|omega|(simp;done)|(simp;omega)) ?_));first|done|fail)) (by omega) (by omega)
       · have ho:gG (x.ev 4):=(hevs 4).resolve_left (fun h=>hl0 (by rw [h];rfl))
         repeat' (first
          |(refine qz ?_;first
           |refine pS ?_
           |refine cl ?_ (hi:=by exact oI (bs:=bB bw x 4) (l:=x.ev 4) ho (by omega) rfl rfl rfl (by decide) nL nA rfl))
          |refine zz ?_|refine zx (fun _=>?_) (fun _=>?_)|fail)
         refine ih2 (4+1) _ _ _ (bh [0,1,2,3,4,5,6,7,8,9,10,11,12,13,14,15,16,17,18,19,20,21,22,23,24,32,26,27,28,29,30,31] (obj:=by(repeat' (first|exact ae.nil|refine ae.ed rfl rfl rfl rfl ?_|refine ae.flat rfl ?_|refine ae.cons rfl ?_|refine ae.dead rfl ?_|refine ae.cons (by simp only [ak.ay,List.map_cons,List.map_nil,XC.ay,aw];exact rfl) ?_));first|done|fail) (reg:=by(repeat' (first|exact af.nil|refine af.cons (by simp only [XV.ay,List.map_cons,List.map_nil,aw];rfl) ?_|refine af.flat rfl ?_|refine af.cons rfl ?_|refine af.sl rfl (by assumption) rfl ?_|refine af.dY rfl rfl (by first|rfl|omega|(simp;done)|(simp;omega)) ?_));first|done|fail)) (by omega) (by omega)
     · by_cases hl0:(x.ev 5).length=0
       · have e0:x.ev 5 = []:=List.length_eq_zero_iff.1 hl0
         have eW:bB bw x (5+1)=bB bw x 5:=(show bB bw x (5+1)=bB bw x 5++cR (x.ev 5)from rfl).trans (by rw [e0];exact List.append_nil _)
         repeat' (first
          |(refine qz ?_;first
           |refine pS ?_)
          |refine zz ?_|refine zx (fun _=>?_) (fun _=>?_)|fail)
         refine ih2 (5+1) _ _ _ (bh [0,1,2,3,4,5,6,7,8,9,10,11,12,13,14,15,16,17,18,19,20,21,22,23,24,25,26,27,28,29,30,31] (obj:=by(repeat' (first|exact ae.nil|refine ae.flat (by rw [eW];rfl) ?_|refine ae.ed rfl rfl rfl rfl ?_|refine ae.ed (by rw [eW];rfl) rfl rfl rfl ?_|refine ae.flat rfl ?_|refine ae.cons rfl ?_|refine ae.dead rfl ?_|refine ae.cons (by simp only [ak.ay,List.map_cons,List.map_nil,XC.ay,aw];exact rfl) ?_));first|done|fail) (reg:=by(repeat' (first|exact af.nil|refine af.cons (by simp only [XV.ay,List.map_cons,List.map_nil,aw];rfl) ?_|refine af.flat rfl ?_|refine af.cons rfl ?_|refine af.sl rfl (by assumption) rfl ?_|refine af.dY rfl rfl (by first|rfl|omega|(simp;done)|(simp;omega)) ?_));first|done|fail)) (by omega) (by omega)
       · have ho:gG (x.ev 5):=(hevs 5).resolve_left (fun h=>hl0 (by rw [h];rfl))
         repeat' (first
          |(refine qz ?_;first
           |refine pS ?_
           |refine cl ?_ (hi:=by exact oI (bs:=bB bw x 5) (l:=x.ev 5) ho (by omega) rfl rfl rfl (by decide) nL nA rfl))
          |refine zz ?_|refine zx (fun _=>?_) (fun _=>?_)|fail)
         refine ih2 (5+1) _ _ _ (bh [0,1,2,3,4,5,6,7,8,9,10,11,12,13,14,15,16,17,18,19,20,21,22,23,24,32,26,27,28,29,30,31] (obj:=by(repeat' (first|exact ae.nil|refine ae.ed rfl rfl rfl rfl ?_|refine ae.flat rfl ?_|refine ae.cons rfl ?_|refine ae.dead rfl ?_|refine ae.cons (by simp only [ak.ay,List.map_cons,List.map_nil,XC.ay,aw];exact rfl) ?_));first|done|fail) (reg:=by(repeat' (first|exact af.nil|refine af.cons (by simp only [XV.ay,List.map_cons,List.map_nil,aw];rfl) ?_|refine af.flat rfl ?_|refine af.cons rfl ?_|refine af.sl rfl (by assumption) rfl ?_|refine af.dY rfl rfl (by first|rfl|omega|(simp;done)|(simp;omega)) ?_));first|done|fail)) (by omega) (by omega)
   · obtain rfl:j=6:=by omega
     repeat' (first|refine zz ?_|refine zx (fun _=>?_) (fun _=>?_)|fail)
     show aC _ _ _ _ _ _ _ _;refine kV [0,1,2,3,4,5,6,7,8,9,10,11,12,13,14,15,16,17,18,19,20,21,22,23,24,25] ?_
     rfl
end Go.Proofs.YtagpkhindehcbaaGreat
