/-
  A part of the proof: Blocks2, Put0.
-/
import Derived.Test.YtagpkhindehcbaaGreatKdQ
import Derived.Test.YtagpkhindehcbaaGreatKdS
set_option maxRecDepth 10000
set_option maxHeartbeats 8000000
set_option linter.unusedVariables false
set_option linter.unusedSectionVars false
set_option linter.unusedSimpArgs false
namespace Go.Proofs.YtagpkhindehcbaaGreat
open Go.Xm
variable [az]
theorem mG (bs bw:List Bool) (S:bC) (m:Mb) (mb:Int) (hg:kb m) (hS:iy S) (hmb:0≤mb∧mb<S.cols*S.rows) (hb:bs.length≤700000) (hbw:bw.length≤700000) (hx:fq m mb ⟨S,bs,0,0,fun _=>[]⟩ 6=none) :
 bn Tryz.prog 58 [.one (.ptr 2 0),.one (.ptr 0 0),.one (.ptr 22 0),.one (.int .i64 mb),.agg (mC m)] [aP 1 bs,aq bs,du (S),bM 4 8 12,ax 5 6 7 cM,aU cM,aW cM,aV cM,ax 9 10 11 cZ,aU cZ,aW cZ,aV cZ,ax 13 14 15 cP,aU cP,aW cP,aV cP,cg 17 (S).cols (S).rows,.map (bg (S).M),.cells [.int .i64 (S).cols,.int .i64 (S).rows,.map 19,.map 20,.map 21] 171 false false,.map (ah (S).A),.map (ah (S).B),.map (ah (S).C),aP 23 bw,aq bw] (.one (.int .i64 2)) [.dead,.dead,.dead,bM 4 8 12,ax 5 6 7 cM,aU cM,aW cM,aV cM,ax 9 10 11 cZ,aU cZ,aW cZ,aV cZ,ax 13 14 15 cP,aU cP,aW cP,aV cP,.dead,.dead,.dead,.dead,.dead,.dead,.dead,.dead]:=by
 have hm:=hg.ok
 refine cO Tryz.func58 ?_
 repeat' (first
  |(refine qz ?_;first
   |refine rH (cs:=ti .i64 384 m.lev) ?_ (hle:=by rw [aJ];decide) (hc:=tZ m))
  |refine zz ?_|refine zx (fun _=>?_) (fun _=>?_)|fail)
 refine WX.cS (σ:=Nat × pe) (fun s=>[(26,.one (.int .i64 (s.1:Nat))),(12,.one (.int .i64 s.2.pat)),(13,.one (.int .u64 s.2.col)),(0,.one (.ptr 2 0)),(1,.one (.ptr 0 0)),(2,.one (.ptr 22 0)),(3,.one (.int .i64 mb)),(9,.one (.ptr 25 0)),(11,.one (.ptr 26 0)),(25,.agg (ti .i64 384 m.lev))])
  (fun s=>[aP 24 s.2.B,.dead,du (s.2.S),bM 4 8 12,ax 5 6 7 cM,aU cM,aW cM,aV cM,ax 9 10 11 cZ,aU cZ,aW cZ,aV cZ,ax 13 14 15 cP,aU cP,aW cP,aV cP,cg 17 (s.2.S).cols (s.2.S).rows,.map (bg (s.2.S).M),.cells [.int .i64 (s.2.S).cols,.int .i64 (s.2.S).rows,.map 19,.map 20,.map 21] 171 false false,.map (ah (s.2.S).A),.map (ah (s.2.S).B),.map (ah (s.2.S).C),aP 23 bw,aq bw,aq s.2.B,lB m,Oe s.2.ev,dc (s.2.ev 0),dc (s.2.ev 1),dc (s.2.ev 2),dc (s.2.ev 3),dc (s.2.ev 4),dc (s.2.ev 5)]) (yv m mb ⟨S,bs,0,0,fun _=>[]⟩) (fun s=>6-s.1) (0,⟨S,bs,0,0,fun _=>[]⟩) ⟨by show 0≤6;omega,rfl,hS,⟨rfl,rfl⟩,by show bs.length≤bs.length+76*0;omega,fun _ _=>rfl,fun _ => .inl rfl,⟨by show(0:Int)≤0;omega,by show(0:Int)<16;omega⟩,⟨by show(0:Int)≤0;omega,by show(0:Int)<4;omega⟩⟩ (fun s _=>j5) (bh [0,1,2,3,4,5,6,7,8,9,10,11,12,13,14,15,16,17,18,19,20,21,22,23,1,24,25,0,0,0,0,0,0]) ?_
 intro s hs ih
 have hD:=hs.st.dims
 have hmb':0≤mb∧mb<s.2.S.cols*s.2.S.rows:=by rw [hs.cr.1,hs.cr.2];exact hmb
 have hpat:=hs.pat
 have hcol:=hs.col
 have hlen:s.2.B.length≤bs.length+76*s.1:=hs.len
 by_cases h6:s.1<6
 · cases ha : alone m
   · have er:fV m s.2.S mb s.1=some (aE m s.1):=by
      unfold fV
      rw [if_neg (by rw [ha];decide)]
     have hN:=lM hg hs h6 er
     obtain⟨EV,hEV⟩:∃ EV,fI (iZ (dC m.edge (aL s.2.S mb s.1 m.qp).1) (aE m s.1)) 0=EV:=⟨_,rfl⟩
     have eEV:pk m s.2.S mb s.1 (aE m s.1)=EV:=by
      unfold pk
      rw [if_neg (by rw [ha];decide)]
      exact hEV
     rw [eEV]at hN
     repeat' (first
      |(refine qz ?_;first
       |refine zc (n:=384) ?_
       |refine jb ?_ (hs1:=by rw [aF]) (hs2:=by rw [aF])
       |refine fW ?_ (hle:=by first|rw [aF]|rw [aJ])
       |refine cl ?_ (hi:=by exact hZ (S:=s.2.S) (mb:=mb) (k:=(s.1:Nat)) (q:=m.qp) hD hmb' (by omega) rfl rfl rfl rfl rfl)
       |refine cl ?_ (hi:=by exact gU ha rfl)
       |refine cl ?_ (hi:=by exact jL rfl)
       |refine cl ?_ (hi:=by exact oZ (f:=aE m s.1) (fe _ _) rfl)
       |refine cl (v := .one (.int .i64 0)) ?_ (hi:=by exact l6 ha rfl)
       |refine cl ?_ (hi:=by exact oV hEV rfl (by decide) nL nA rfl)
       |refine st ?_ (hle:=by exact h6) (hv:=rfl)
       |refine ld (hc:=by exact List.getElem?_set_self (by exact h6)) ?_)
      |refine zz ?_|refine zx (fun _=>?_) (fun _=>?_)|fail)
     · rename_i g0 g1
       have hE:cy m mb s.1 s.2 EV=⟨s.2.S,s.2.B,eI s.2.pat s.1,s.2.col,fun j=>if j=s.1 then EV else s.2.ev j⟩:=by
        unfold cy
        rw [if_neg (by rw [ha];decide),if_neg (by rw [ha];decide),if_pos (by omega),if_neg (by omega)]
       rw [hE]at hN
       rcases(show s.1=0∨s.1=1∨s.1=2∨s.1=3 by omega)with hk|hk|hk|hk
       · rw [hk]at hN ⊢
         refine ih (1,⟨s.2.S,s.2.B,eI s.2.pat 0,s.2.col,fun j=>if j=0 then EV else s.2.ev j⟩) _ _ _ (bh [0,1,2,3,4,5,6,7,8,9,10,11,12,13,14,15,16,17,18,19,20,21,22,23,24,25,26,35,28,29,30,31,32]) hN (by show 6-1<6-s.1;omega)
       · rw [hk]at hN ⊢
         refine ih (2,⟨s.2.S,s.2.B,eI s.2.pat 1,s.2.col,fun j=>if j=1 then EV else s.2.ev j⟩) _ _ _ (bh [0,1,2,3,4,5,6,7,8,9,10,11,12,13,14,15,16,17,18,19,20,21,22,23,24,25,26,27,35,29,30,31,32]) hN (by show 6-2<6-s.1;omega)
       · rw [hk]at hN ⊢
         refine ih (3,⟨s.2.S,s.2.B,eI s.2.pat 2,s.2.col,fun j=>if j=2 then EV else s.2.ev j⟩) _ _ _ (bh [0,1,2,3,4,5,6,7,8,9,10,11,12,13,14,15,16,17,18,19,20,21,22,23,24,25,26,27,28,35,30,31,32]) hN (by show 6-3<6-s.1;omega)
       · rw [hk]at hN ⊢
         refine ih (4,⟨s.2.S,s.2.B,eI s.2.pat 3,s.2.col,fun j=>if j=3 then EV else s.2.ev j⟩) _ _ _ (bh [0,1,2,3,4,5,6,7,8,9,10,11,12,13,14,15,16,17,18,19,20,21,22,23,24,25,26,27,28,29,35,31,32]) hN (by show 6-4<6-s.1;omega)
     · rename_i g0 g1
       have hE:cy m mb s.1 s.2 EV=⟨s.2.S,s.2.B,s.2.pat,ic s.2.col s.1,fun j=>if j=s.1 then EV else s.2.ev j⟩:=by
        unfold cy
        rw [if_neg (by rw [ha];decide),if_neg (by rw [ha];decide),if_neg (by omega),if_pos (by omega)]
       rw [hE]at hN
       rcases(show s.1=4∨s.1=5 by omega)with hk|hk
       · rw [hk]at hN ⊢
         refine ih (5,⟨s.2.S,s.2.B,s.2.pat,ic s.2.col 4,fun j=>if j=4 then EV else s.2.ev j⟩) _ _ _ (bh [0,1,2,3,4,5,6,7,8,9,10,11,12,13,14,15,16,17,18,19,20,21,22,23,24,25,26,27,28,29,30,35,32]) hN (by show 6-5<6-s.1;omega)
       · rw [hk]at hN ⊢
         refine ih (6,⟨s.2.S,s.2.B,s.2.pat,ic s.2.col 5,fun j=>if j=5 then EV else s.2.ev j⟩) _ _ _ (bh [0,1,2,3,4,5,6,7,8,9,10,11,12,13,14,15,16,17,18,19,20,21,22,23,24,25,26,27,28,29,30,31,35]) hN (by show 6-6<6-s.1;omega)
     · rename_i g0
       have hE:cy m mb s.1 s.2 EV=⟨s.2.S,s.2.B,s.2.pat,s.2.col,fun j=>if j=s.1 then EV else s.2.ev j⟩:=by
        unfold cy
        rw [if_neg (by rw [ha];decide),if_neg (by rw [ha];decide),if_neg (by omega),if_neg (by omega)]
       rw [hE]at hN
       rcases(show s.1=0∨s.1=1∨s.1=2∨s.1=3∨s.1=4∨s.1=5 by omega)with hk|hk|hk|hk|hk|hk
       · rw [hk]at hN ⊢
         refine ih (1,⟨s.2.S,s.2.B,s.2.pat,s.2.col,fun j=>if j=0 then EV else s.2.ev j⟩) _ _ _ (bh [0,1,2,3,4,5,6,7,8,9,10,11,12,13,14,15,16,17,18,19,20,21,22,23,24,25,26,35,28,29,30,31,32]) hN (by show 6-1<6-s.1;omega)
       · rw [hk]at hN ⊢
         refine ih (2,⟨s.2.S,s.2.B,s.2.pat,s.2.col,fun j=>if j=1 then EV else s.2.ev j⟩) _ _ _ (bh [0,1,2,3,4,5,6,7,8,9,10,11,12,13,14,15,16,17,18,19,20,21,22,23,24,25,26,27,35,29,30,31,32]) hN (by show 6-2<6-s.1;omega)
       · rw [hk]at hN ⊢
         refine ih (3,⟨s.2.S,s.2.B,s.2.pat,s.2.col,fun j=>if j=2 then EV else s.2.ev j⟩) _ _ _ (bh [0,1,2,3,4,5,6,7,8,9,10,11,12,13,14,15,16,17,18,19,20,21,22,23,24,25,26,27,28,35,30,31,32]) hN (by show 6-3<6-s.1;omega)
       · rw [hk]at hN ⊢
         refine ih (4,⟨s.2.S,s.2.B,s.2.pat,s.2.col,fun j=>if j=3 then EV else s.2.ev j⟩) _ _ _ (bh [0,1,2,3,4,5,6,7,8,9,10,11,12,13,14,15,16,17,18,19,20,21,22,23,24,25,26,27,28,29,35,31,32]) hN (by show 6-4<6-s.1;omega)
       · rw [hk]at hN ⊢
         refine ih (5,⟨s.2.S,s.2.B,s.2.pat,s.2.col,fun j=>if j=4 then EV else s.2.ev j⟩) _ _ _ (bh [0,1,2,3,4,5,6,7,8,9,10,11,12,13,14,15,16,17,18,19,20,21,22,23,24,25,26,27,28,29,30,35,32]) hN (by show 6-5<6-s.1;omega)
       · rw [hk]at hN ⊢
         refine ih (6,⟨s.2.S,s.2.B,s.2.pat,s.2.col,fun j=>if j=5 then EV else s.2.ev j⟩) _ _ _ (bh [0,1,2,3,4,5,6,7,8,9,10,11,12,13,14,15,16,17,18,19,20,21,22,23,24,25,26,27,28,29,30,31,35]) hN (by show 6-6<6-s.1;omega)
   · cases he:m.edge
     · have he':m.edge=false:=he
       have hl6:(mC m)[6]? = some (.bool false):=congrArg (fun b=>some (XC.bool b)) he'
       have hfr:=j9 s.2.S mb s.1 m.qp
       have hfi:0≤m.lev ((s.1:Int).toNat*64+0)∧m.lev ((s.1:Int).toNat*64+0)≤127:=hg.first ha s.1 h6
       have hdr:=lO hg (S:=s.2.S) (mb:=mb) ha h6
       have er:fV m s.2.S mb s.1=some (c8 (aE m s.1) 0 0):=by
        unfold fV
        rw [if_pos ha,if_neg (by rw [he'];decide)];rfl
       have hN:=lM hg hs h6 er
       obtain⟨EV,hEV⟩:∃ EV,fI (iZ (dC false (aL s.2.S mb s.1 m.qp).1) (c8 (aE m s.1) 0 0)) 1=EV:=⟨_,rfl⟩
       have eEV:pk m s.2.S mb s.1 (c8 (aE m s.1) 0 0)=EV:=by
        unfold pk
        rw [if_pos ha,he']
        exact hEV
       rw [eEV]at hN
       repeat' (first
        |(refine qz ?_;first
         |refine ld (hc:=hl6) ?_
         |refine zc (n:=384) ?_
         |refine jb ?_ (hs1:=by rw [aF]) (hs2:=by rw [aF])
         |refine fW ?_ (hle:=by first|rw [aF]|rw [aJ])
         |refine cl ?_ (hi:=by exact hZ (S:=s.2.S) (mb:=mb) (k:=(s.1:Nat)) (q:=m.qp) hD hmb' (by omega) rfl rfl rfl rfl rfl)
         |refine cl ?_ (hi:=by exact gU ha rfl)
         |refine cl ?_ (hi:=by exact jL rfl)
         |refine O0 ?_ (hi:=by exact kT (n:=aE m s.1 0-(aL s.2.S mb s.1 m.qp).2) hdr (bs:=s.2.B) (by omega) rfl rfl (S:=s.2.S) rfl rfl nL nA rfl)
         |refine cl ?_ (hi:=by exact kT (n:=aE m s.1 0-(aL s.2.S mb s.1 m.qp).2) hdr (bs:=s.2.B) (by omega) rfl rfl (S:=s.2.S) rfl rfl nL nA rfl)
         |refine cl ?_ (hi:=by exact lh (S:=s.2.S) (mb:=mb) (k:=(s.1:Nat)) (b:=⟨aE m s.1,m.qp⟩) hD hmb' (by omega) rfl rfl rfl rfl nA rfl)
         |refine cl ?_ (hi:=by exact oZ (f:=c8 (aE m s.1) 0 0) (fe _ _) rfl)
         |refine cl (v := .one (.int .i64 1)) ?_ (hi:=by exact l6 ha rfl)
         |refine cl ?_ (hi:=by exact oV hEV rfl (by decide) nL nA rfl)
         |refine st ?_ (hle:=by exact h6) (hv:=rfl)
         |refine ld (hc:=by exact List.getElem?_set_self (by exact h6)) ?_)
        |refine zz ?_|refine zx (fun _=>?_) (fun _=>?_)|fail)
       · rename_i g0 g1
         have hE:cy m mb s.1 s.2 EV=⟨aN s.2.S mb s.1 ⟨aE m s.1,m.qp⟩,s.2.B++aX (aE m s.1 0-(aL s.2.S mb s.1 m.qp).2),eI s.2.pat s.1,s.2.col,fun j=>if j=s.1 then EV else s.2.ev j⟩:=by
          unfold cy
          rw [if_pos ha,if_pos ha,if_pos (by omega),if_neg (by omega)]
         rw [hE]at hN
         rcases(show s.1=0∨s.1=1∨s.1=2∨s.1=3 by omega)with hk|hk|hk|hk
         · rw [hk]at hN ⊢
           refine ih (1,⟨aN s.2.S mb 0 ⟨aE m 0,m.qp⟩,s.2.B++aX (aE m 0 0-(aL s.2.S mb 0 m.qp).2),eI s.2.pat 0,s.2.col,fun j=>if j=0 then EV else s.2.ev j⟩) _ _ _ (bh [0,1,2,3,4,5,6,7,8,9,10,11,12,13,14,15,16,17,18,19,20,21,22,23,35,25,26,36,28,29,30,31,32]) hN (by show 6-1<6-s.1;omega)
         · rw [hk]at hN ⊢
           refine ih (2,⟨aN s.2.S mb 1 ⟨aE m 1,m.qp⟩,s.2.B++aX (aE m 1 0-(aL s.2.S mb 1 m.qp).2),eI s.2.pat 1,s.2.col,fun j=>if j=1 then EV else s.2.ev j⟩) _ _ _ (bh [0,1,2,3,4,5,6,7,8,9,10,11,12,13,14,15,16,17,18,19,20,21,22,23,35,25,26,27,36,29,30,31,32]) hN (by show 6-2<6-s.1;omega)
         · rw [hk]at hN ⊢
           refine ih (3,⟨aN s.2.S mb 2 ⟨aE m 2,m.qp⟩,s.2.B++aX (aE m 2 0-(aL s.2.S mb 2 m.qp).2),eI s.2.pat 2,s.2.col,fun j=>if j=2 then EV else s.2.ev j⟩) _ _ _ (bh [0,1,2,3,4,5,6,7,8,9,10,11,12,13,14,15,16,17,18,19,20,21,22,23,35,25,26,27,28,36,30,31,32]) hN (by show 6-3<6-s.1;omega)
         · rw [hk]at hN ⊢
           refine ih (4,⟨aN s.2.S mb 3 ⟨aE m 3,m.qp⟩,s.2.B++aX (aE m 3 0-(aL s.2.S mb 3 m.qp).2),eI s.2.pat 3,s.2.col,fun j=>if j=3 then EV else s.2.ev j⟩) _ _ _ (bh [0,1,2,3,4,5,6,7,8,9,10,11,12,13,14,15,16,17,18,19,20,21,22,23,35,25,26,27,28,29,36,31,32]) hN (by show 6-4<6-s.1;omega)
       · rename_i g0 g1
         have hE:cy m mb s.1 s.2 EV=⟨aN s.2.S mb s.1 ⟨aE m s.1,m.qp⟩,s.2.B++aX (aE m s.1 0-(aL s.2.S mb s.1 m.qp).2),s.2.pat,ic s.2.col s.1,fun j=>if j=s.1 then EV else s.2.ev j⟩:=by
          unfold cy
          rw [if_pos ha,if_pos ha,if_neg (by omega),if_pos (by omega)]
         rw [hE]at hN
         rcases(show s.1=4∨s.1=5 by omega)with hk|hk
         · rw [hk]at hN ⊢
           refine ih (5,⟨aN s.2.S mb 4 ⟨aE m 4,m.qp⟩,s.2.B++aX (aE m 4 0-(aL s.2.S mb 4 m.qp).2),s.2.pat,ic s.2.col 4,fun j=>if j=4 then EV else s.2.ev j⟩) _ _ _ (bh [0,1,2,3,4,5,6,7,8,9,10,11,12,13,14,15,16,17,18,19,20,21,22,23,35,25,26,27,28,29,30,36,32]) hN (by show 6-5<6-s.1;omega)
         · rw [hk]at hN ⊢
           refine ih (6,⟨aN s.2.S mb 5 ⟨aE m 5,m.qp⟩,s.2.B++aX (aE m 5 0-(aL s.2.S mb 5 m.qp).2),s.2.pat,ic s.2.col 5,fun j=>if j=5 then EV else s.2.ev j⟩) _ _ _ (bh [0,1,2,3,4,5,6,7,8,9,10,11,12,13,14,15,16,17,18,19,20,21,22,23,35,25,26,27,28,29,30,31,36]) hN (by show 6-6<6-s.1;omega)
       · rename_i g0
         have hE:cy m mb s.1 s.2 EV=⟨aN s.2.S mb s.1 ⟨aE m s.1,m.qp⟩,s.2.B++aX (aE m s.1 0-(aL s.2.S mb s.1 m.qp).2),s.2.pat,s.2.col,fun j=>if j=s.1 then EV else s.2.ev j⟩:=by
          unfold cy
          rw [if_pos ha,if_pos ha,if_neg (by omega),if_neg (by omega)]
         rw [hE]at hN
         rcases(show s.1=0∨s.1=1∨s.1=2∨s.1=3∨s.1=4∨s.1=5 by omega)with hk|hk|hk|hk|hk|hk
         · rw [hk]at hN ⊢
           refine ih (1,⟨aN s.2.S mb 0 ⟨aE m 0,m.qp⟩,s.2.B++aX (aE m 0 0-(aL s.2.S mb 0 m.qp).2),s.2.pat,s.2.col,fun j=>if j=0 then EV else s.2.ev j⟩) _ _ _ (bh [0,1,2,3,4,5,6,7,8,9,10,11,12,13,14,15,16,17,18,19,20,21,22,23,35,25,26,36,28,29,30,31,32]) hN (by show 6-1<6-s.1;omega)
         · rw [hk]at hN ⊢
           refine ih (2,⟨aN s.2.S mb 1 ⟨aE m 1,m.qp⟩,s.2.B++aX (aE m 1 0-(aL s.2.S mb 1 m.qp).2),s.2.pat,s.2.col,fun j=>if j=1 then EV else s.2.ev j⟩) _ _ _ (bh [0,1,2,3,4,5,6,7,8,9,10,11,12,13,14,15,16,17,18,19,20,21,22,23,35,25,26,27,36,29,30,31,32]) hN (by show 6-2<6-s.1;omega)
         · rw [hk]at hN ⊢
           refine ih (3,⟨aN s.2.S mb 2 ⟨aE m 2,m.qp⟩,s.2.B++aX (aE m 2 0-(aL s.2.S mb 2 m.qp).2),s.2.pat,s.2.col,fun j=>if j=2 then EV else s.2.ev j⟩) _ _ _ (bh [0,1,2,3,4,5,6,7,8,9,10,11,12,13,14,15,16,17,18,19,20,21,22,23,35,25,26,27,28,36,30,31,32]) hN (by show 6-3<6-s.1;omega)
         · rw [hk]at hN ⊢
           refine ih (4,⟨aN s.2.S mb 3 ⟨aE m 3,m.qp⟩,s.2.B++aX (aE m 3 0-(aL s.2.S mb 3 m.qp).2),s.2.pat,s.2.col,fun j=>if j=3 then EV else s.2.ev j⟩) _ _ _ (bh [0,1,2,3,4,5,6,7,8,9,10,11,12,13,14,15,16,17,18,19,20,21,22,23,35,25,26,27,28,29,36,31,32]) hN (by show 6-4<6-s.1;omega)
         · rw [hk]at hN ⊢
           refine ih (5,⟨aN s.2.S mb 4 ⟨aE m 4,m.qp⟩,s.2.B++aX (aE m 4 0-(aL s.2.S mb 4 m.qp).2),s.2.pat,s.2.col,fun j=>if j=4 then EV else s.2.ev j⟩) _ _ _ (bh [0,1,2,3,4,5,6,7,8,9,10,11,12,13,14,15,16,17,18,19,20,21,22,23,35,25,26,27,28,29,30,36,32]) hN (by show 6-5<6-s.1;omega)
         · rw [hk]at hN ⊢
           refine ih (6,⟨aN s.2.S mb 5 ⟨aE m 5,m.qp⟩,s.2.B++aX (aE m 5 0-(aL s.2.S mb 5 m.qp).2),s.2.pat,s.2.col,fun j=>if j=5 then EV else s.2.ev j⟩) _ _ _ (bh [0,1,2,3,4,5,6,7,8,9,10,11,12,13,14,15,16,17,18,19,20,21,22,23,35,25,26,27,28,29,30,31,36]) hN (by show 6-6<6-s.1;omega)
     · have he':m.edge=true:=he
       have hl6:(mC m)[6]? = some (.bool true):=congrArg (fun b=>some (XC.bool b)) he'
       have hfr:=j9 s.2.S mb s.1 m.qp
       have hfi:0≤m.lev ((s.1:Int).toNat*64+0)∧m.lev ((s.1:Int).toNat*64+0)≤127:=hg.first ha s.1 h6
       have hdr:=lO hg (S:=s.2.S) (mb:=mb) ha h6
       cases hR:n7 (aE m s.1) (cz s.2.S mb s.1 m.qp)with
       | none=>
         repeat' (first
          |(refine qz ?_;first
           |refine ld (hc:=hl6) ?_
           |refine zc (n:=384) ?_
           |refine jb ?_ (hs1:=by rw [aF]) (hs2:=by rw [aF])
           |refine fW ?_ (hle:=by first|rw [aF]|rw [aJ])
           |refine cl ?_ (hi:=by exact hZ (S:=s.2.S) (mb:=mb) (k:=(s.1:Nat)) (q:=m.qp) hD hmb' (by omega) rfl rfl rfl rfl rfl)
           |refine cl ?_ (hi:=by exact gU ha rfl)
           |refine cl ?_ (hi:=by exact jL rfl)
           |refine cl ?_ (hi:=by exact ov (S:=s.2.S) (mb:=mb) (k:=(s.1:Nat)) (q:=m.qp) hD hmb' (by omega) rfl rfl rfl rfl rfl)
           |refine cl (v := .tup [.agg (ti .i64 64 fun _=>0),.one (.bool false)]) ?_ (hi:=by exact xx (l:=aE m s.1) (fun i=>hm.lev _) (m_ (fun dx dy b hb=>xB hs.st.lev hb)) hR rfl))
          |refine Fx (id:=10) [14] ?_|refine zz ?_|refine zx (fun _=>?_) (fun _=>?_)|fail)
         show aC _ _ _ _ _ _ _ _;refine kV [0,1,2,3,4,5,6,7,8,9,10,11,12,13,14,15,16,17,18,19,20,21,22,23] ?_
         rfl
       | some R=>
         have er:fV m s.2.S mb s.1=some (c8 R 0 0):=by
          unfold fV
          rw [if_pos ha,if_pos he',hR];rfl
         have hN:=lM hg hs h6 er
         obtain⟨EV,hEV⟩:∃ EV,fI (iZ (dC true (aL s.2.S mb s.1 m.qp).1) (c8 (R) 0 0)) 1=EV:=⟨_,rfl⟩
         have eEV:pk m s.2.S mb s.1 (c8 (R) 0 0)=EV:=by
          unfold pk
          rw [if_pos ha,he']
          exact hEV
         rw [eEV]at hN
         repeat' (first
          |(refine qz ?_;first
           |refine ld (hc:=hl6) ?_
           |refine zc (n:=384) ?_
           |refine jb ?_ (hs1:=by rw [aF]) (hs2:=by rw [aF])
           |refine fW ?_ (hle:=by first|rw [aF]|rw [aJ])
           |refine cl ?_ (hi:=by exact hZ (S:=s.2.S) (mb:=mb) (k:=(s.1:Nat)) (q:=m.qp) hD hmb' (by omega) rfl rfl rfl rfl rfl)
           |refine cl ?_ (hi:=by exact gU ha rfl)
           |refine cl ?_ (hi:=by exact jL rfl)
           |refine cl ?_ (hi:=by exact ov (S:=s.2.S) (mb:=mb) (k:=(s.1:Nat)) (q:=m.qp) hD hmb' (by omega) rfl rfl rfl rfl rfl)
           |refine cl (v := .tup [.agg (ti .i64 64 R),.one (.bool true)]) ?_ (hi:=by exact xx (l:=aE m s.1) (fun i=>hm.lev _) (m_ (fun dx dy b hb=>xB hs.st.lev hb)) hR rfl)
           |refine O0 ?_ (hi:=by exact kT (n:=aE m s.1 0-(aL s.2.S mb s.1 m.qp).2) hdr (bs:=s.2.B) (by omega) rfl rfl (S:=s.2.S) rfl rfl nL nA rfl)
           |refine cl ?_ (hi:=by exact kT (n:=aE m s.1 0-(aL s.2.S mb s.1 m.qp).2) hdr (bs:=s.2.B) (by omega) rfl rfl (S:=s.2.S) rfl rfl nL nA rfl)
           |refine cl ?_ (hi:=by exact lh (S:=s.2.S) (mb:=mb) (k:=(s.1:Nat)) (b:=⟨aE m s.1,m.qp⟩) hD hmb' (by omega) rfl rfl rfl rfl nA rfl)
           |refine cl ?_ (hi:=by exact oZ (f:=c8 (R) 0 0) (fe _ _) rfl)
           |refine cl (v := .one (.int .i64 1)) ?_ (hi:=by exact l6 ha rfl)
           |refine cl ?_ (hi:=by exact oV hEV rfl (by decide) nL nA rfl)
           |refine st ?_ (hle:=by exact h6) (hv:=rfl)
           |refine ld (hc:=by exact List.getElem?_set_self (by exact h6)) ?_)
          |refine Fx (id:=10) [14] ?_|refine zz ?_|refine zx (fun _=>?_) (fun _=>?_)|fail)
         · rename_i g0 g1
           have hE:cy m mb s.1 s.2 EV=⟨aN s.2.S mb s.1 ⟨aE m s.1,m.qp⟩,s.2.B++aX (aE m s.1 0-(aL s.2.S mb s.1 m.qp).2),eI s.2.pat s.1,s.2.col,fun j=>if j=s.1 then EV else s.2.ev j⟩:=by
            unfold cy
            rw [if_pos ha,if_pos ha,if_pos (by omega),if_neg (by omega)]
           rw [hE]at hN
           rcases(show s.1=0∨s.1=1∨s.1=2∨s.1=3 by omega)with hk|hk|hk|hk
           · rw [hk]at hN ⊢
             refine ih (1,⟨aN s.2.S mb 0 ⟨aE m 0,m.qp⟩,s.2.B++aX (aE m 0 0-(aL s.2.S mb 0 m.qp).2),eI s.2.pat 0,s.2.col,fun j=>if j=0 then EV else s.2.ev j⟩) _ _ _ (bh [0,1,2,3,4,5,6,7,8,9,10,11,12,13,14,15,16,17,18,19,20,21,22,23,36,25,26,37,28,29,30,31,32]) hN (by show 6-1<6-s.1;omega)
           · rw [hk]at hN ⊢
             refine ih (2,⟨aN s.2.S mb 1 ⟨aE m 1,m.qp⟩,s.2.B++aX (aE m 1 0-(aL s.2.S mb 1 m.qp).2),eI s.2.pat 1,s.2.col,fun j=>if j=1 then EV else s.2.ev j⟩) _ _ _ (bh [0,1,2,3,4,5,6,7,8,9,10,11,12,13,14,15,16,17,18,19,20,21,22,23,36,25,26,27,37,29,30,31,32]) hN (by show 6-2<6-s.1;omega)
           · rw [hk]at hN ⊢
             refine ih (3,⟨aN s.2.S mb 2 ⟨aE m 2,m.qp⟩,s.2.B++aX (aE m 2 0-(aL s.2.S mb 2 m.qp).2),eI s.2.pat 2,s.2.col,fun j=>if j=2 then EV else s.2.ev j⟩) _ _ _ (bh [0,1,2,3,4,5,6,7,8,9,10,11,12,13,14,15,16,17,18,19,20,21,22,23,36,25,26,27,28,37,30,31,32]) hN (by show 6-3<6-s.1;omega)
           · rw [hk]at hN ⊢
             refine ih (4,⟨aN s.2.S mb 3 ⟨aE m 3,m.qp⟩,s.2.B++aX (aE m 3 0-(aL s.2.S mb 3 m.qp).2),eI s.2.pat 3,s.2.col,fun j=>if j=3 then EV else s.2.ev j⟩) _ _ _ (bh [0,1,2,3,4,5,6,7,8,9,10,11,12,13,14,15,16,17,18,19,20,21,22,23,36,25,26,27,28,29,37,31,32]) hN (by show 6-4<6-s.1;omega)
         · rename_i g0 g1
           have hE:cy m mb s.1 s.2 EV=⟨aN s.2.S mb s.1 ⟨aE m s.1,m.qp⟩,s.2.B++aX (aE m s.1 0-(aL s.2.S mb s.1 m.qp).2),s.2.pat,ic s.2.col s.1,fun j=>if j=s.1 then EV else s.2.ev j⟩:=by
            unfold cy
            rw [if_pos ha,if_pos ha,if_neg (by omega),if_pos (by omega)]
           rw [hE]at hN
           rcases(show s.1=4∨s.1=5 by omega)with hk|hk
           · rw [hk]at hN ⊢
             refine ih (5,⟨aN s.2.S mb 4 ⟨aE m 4,m.qp⟩,s.2.B++aX (aE m 4 0-(aL s.2.S mb 4 m.qp).2),s.2.pat,ic s.2.col 4,fun j=>if j=4 then EV else s.2.ev j⟩) _ _ _ (bh [0,1,2,3,4,5,6,7,8,9,10,11,12,13,14,15,16,17,18,19,20,21,22,23,36,25,26,27,28,29,30,37,32]) hN (by show 6-5<6-s.1;omega)
           · rw [hk]at hN ⊢
             refine ih (6,⟨aN s.2.S mb 5 ⟨aE m 5,m.qp⟩,s.2.B++aX (aE m 5 0-(aL s.2.S mb 5 m.qp).2),s.2.pat,ic s.2.col 5,fun j=>if j=5 then EV else s.2.ev j⟩) _ _ _ (bh [0,1,2,3,4,5,6,7,8,9,10,11,12,13,14,15,16,17,18,19,20,21,22,23,36,25,26,27,28,29,30,31,37]) hN (by show 6-6<6-s.1;omega)
         · rename_i g0
           have hE:cy m mb s.1 s.2 EV=⟨aN s.2.S mb s.1 ⟨aE m s.1,m.qp⟩,s.2.B++aX (aE m s.1 0-(aL s.2.S mb s.1 m.qp).2),s.2.pat,s.2.col,fun j=>if j=s.1 then EV else s.2.ev j⟩:=by
            unfold cy
            rw [if_pos ha,if_pos ha,if_neg (by omega),if_neg (by omega)]
           rw [hE]at hN
           rcases(show s.1=0∨s.1=1∨s.1=2∨s.1=3∨s.1=4∨s.1=5 by omega)with hk|hk|hk|hk|hk|hk
           · rw [hk]at hN ⊢
             refine ih (1,⟨aN s.2.S mb 0 ⟨aE m 0,m.qp⟩,s.2.B++aX (aE m 0 0-(aL s.2.S mb 0 m.qp).2),s.2.pat,s.2.col,fun j=>if j=0 then EV else s.2.ev j⟩) _ _ _ (bh [0,1,2,3,4,5,6,7,8,9,10,11,12,13,14,15,16,17,18,19,20,21,22,23,36,25,26,37,28,29,30,31,32]) hN (by show 6-1<6-s.1;omega)
           · rw [hk]at hN ⊢
             refine ih (2,⟨aN s.2.S mb 1 ⟨aE m 1,m.qp⟩,s.2.B++aX (aE m 1 0-(aL s.2.S mb 1 m.qp).2),s.2.pat,s.2.col,fun j=>if j=1 then EV else s.2.ev j⟩) _ _ _ (bh [0,1,2,3,4,5,6,7,8,9,10,11,12,13,14,15,16,17,18,19,20,21,22,23,36,25,26,27,37,29,30,31,32]) hN (by show 6-2<6-s.1;omega)
           · rw [hk]at hN ⊢
             refine ih (3,⟨aN s.2.S mb 2 ⟨aE m 2,m.qp⟩,s.2.B++aX (aE m 2 0-(aL s.2.S mb 2 m.qp).2),s.2.pat,s.2.col,fun j=>if j=2 then EV else s.2.ev j⟩) _ _ _ (bh [0,1,2,3,4,5,6,7,8,9,10,11,12,13,14,15,16,17,18,19,20,21,22,23,36,25,26,27,28,37,30,31,32]) hN (by show 6-3<6-s.1;omega)
           · rw [hk]at hN ⊢
             refine ih (4,⟨aN s.2.S mb 3 ⟨aE m 3,m.qp⟩,s.2.B++aX (aE m 3 0-(aL s.2.S mb 3 m.qp).2),s.2.pat,s.2.col,fun j=>if j=3 then EV else s.2.ev j⟩) _ _ _ (bh [0,1,2,3,4,5,6,7,8,9,10,11,12,13,14,15,16,17,18,19,20,21,22,23,36,25,26,27,28,29,37,31,32]) hN (by show 6-4<6-s.1;omega)
           · rw [hk]at hN ⊢
             refine ih (5,⟨aN s.2.S mb 4 ⟨aE m 4,m.qp⟩,s.2.B++aX (aE m 4 0-(aL s.2.S mb 4 m.qp).2),s.2.pat,s.2.col,fun j=>if j=4 then EV else s.2.ev j⟩) _ _ _ (bh [0,1,2,3,4,5,6,7,8,9,10,11,12,13,14,15,16,17,18,19,20,21,22,23,36,25,26,27,28,29,30,37,32]) hN (by show 6-5<6-s.1;omega)
           · rw [hk]at hN ⊢
             refine ih (6,⟨aN s.2.S mb 5 ⟨aE m 5,m.qp⟩,s.2.B++aX (aE m 5 0-(aL s.2.S mb 5 m.qp).2),s.2.pat,s.2.col,fun j=>if j=5 then EV else s.2.ev j⟩) _ _ _ (bh [0,1,2,3,4,5,6,7,8,9,10,11,12,13,14,15,16,17,18,19,20,21,22,23,36,25,26,27,28,29,30,31,37]) hN (by show 6-6<6-s.1;omega)
 · have h66:s.1=6:=by have:=hs.le;omega
   have h1:=hs.run
   rw [h66,hx]at h1
   cases h1
end Go.Proofs.YtagpkhindehcbaaGreat
namespace Go.Proofs.YtagpkhindehcbaaGreat
open Go.Xm
variable [az]
def av (m:Mb) (mb:Int) (x:bC × List Bool) (k:Nat):bC × List Bool:=({x.1 with M:=aZ x.1.M x.1.cols mb k (m.v k)},x.2++cJ (m.v k) (cf x.1.M x.1.cols x.1.rows mb k))
def cp (S:bC) (B:List Bool) (m:Mb) (mb:Int):bC × List Bool:=
 if m.kind=0 then(ba S mb m.v,B++aB S m)
 else if m.kind=1 then(ba (av m mb (S,B++aB S m) 0).1 mb m.v,(av m mb (S,B++aB S m) 0).2)
 else if m.kind=2 then(ba (av m mb (av m mb (av m mb (av m mb (S,B++aB S m) 0) 1) 2) 3).1 mb m.v,(av m mb (av m mb (av m mb (av m mb (S,B++aB S m) 0) 1) 2) 3).2)
 else(ba (fc S m) mb m.v,(B++aB S m)++[m.edge])
structure kP (S:bC) (B bw:List Bool) (m:Mb) (mb:Int):Prop where
 st:iy S
 mb:0≤mb∧mb<S.cols*S.rows
 qp : -1000000≤S.qp∧S.qp≤1000000
 good:kb m
 right:∀ k,k<4→d9 (m.v k)=true
 len:B.length≤600000
 lenw:bw.length≤600000
theorem bH {M:fZ}(h:ch M) {cols mb k:Int} {v:Int × Int}(hv:bu v):ch (aZ M cols mb k v):=Fh h hv
theorem eJ {M:fZ}(h:ch M) {cols mb:Int} {v:Nat→Int × Int}(hv:∀ k,bu (v k)):ch (rb M cols mb v):=bH (bH (bH (bH h (hv 0)) (hv 1)) (hv 2)) (hv 3)
theorem dK {S:bC} {m:Mb}(h:m.kind≠4):fc S m=S:=if_neg h
theorem n5 {S:bC} {m:Mb}(h:m.kind=4):fc S m = {S with qp:=m.qp}:=if_pos h
theorem C7 (a b c d:List XC) (e e' e2 e3 e4 e5 e6 e7:TypeId) (cs ds fs gs:List XC) (S S':bC):dP (.cells a e false false::b8 e' cs::(dI S++[.cells c e5 false false,b8 e6 fs])) (.cells b e2 false false :: .dead::(dI S'++[.cells d e7 false false,.dead,b8 e3 ds,b8 e4 gs]))=true:=by
 cases cs <;> cases ds <;> cases fs <;> cases gs <;> simp [dP,ak.live,ak.own,b8]
theorem DR {B bw:List Bool} {S:bC} {m:Mb} {mb:Int} {x:pe}(hc:bn Tryz.prog 58 [.one (.ptr 2 0),.one (.ptr 0 0),.one (.ptr 22 0),.one (.int .i64 mb),.agg (mC m)] (aP 1 B::aq B::(dI S++[aP 23 bw,aq bw])) (.one (.int .i64 0)) (aP 24 (eY x) :: .dead::(dI x.S++[aP 25 (bB bw x 6),.dead,aq (eY x),aq (bB bw x 6)])))
 {HS:aj} {k:Nat}(hi:HS[0]? = some (aP k B)) (hk:HS[k]? = some (aq B)) (hS:(HS.drop 2).take 20=dI S) (h22:HS[22]? = some (aP 23 bw)) (h23:HS[23]? = some (aq bw)) (hd:(k == 1 || Nat.ble 24 k)=true) {N:Nat}(hN:HS.length=N) (hbd:Nat.blt (N+2) Mem.bound=true) :
 aH.Sound Tryz.prog ⟨58,[.one (.ptr 2 0),.one (.ptr 0 0),.one (.ptr 22 0),.one (.int .i64 mb),.agg (mC m)],HS,.one (.int .i64 0),bG HS ((0::k::bL)++[22,23]) (aP N (eY x) :: .dead::(dI x.S++[aP (N+1) (bB bw x 6),.dead,aq (eY x),aq (bB bw x 6)])),(0::k::bL)++[22,23]⟩:=by
 subst hN
 have hkk:k=1∨24≤k:=by simpa [Nat.ble_eq]using hd
 have nd0:=qX (k:=k) (by omega)
 have nd:((0::k::bL)++[22,23]).Nodup:=by
  refine List.nodup_append.2 ⟨nd0,by decide,fun a ha b hb=>?_⟩
  have hb':b=22∨b=23:=by simpa using hb
  simp only [bL,List.mem_cons,List.not_mem_nil,or_false]at ha
  omega
 have ht:∀ j,2≤j→j<22→nth ((0::k::bL)++[22,23]) j=j:=mY k _
 have ht':∀ j,2≤j→j<22→nth (((0::k::bL)++[22,23])++List.range' HS.length 2) j=j:=fun j h1 h2=>by
  rw [List.append_assoc];exact mY k _ j h1 h2
 have hv:=o3 S ht hS (ls:=[22,23]) (l:=[aP 23 bw,aq bw]) (ae.ed h22 rfl rfl rfl (.flat h23 .nil))
 have ho:=gp S 24 (by omega) (l:=[aP 23 bw,aq bw]) (.cons (by simp [ak.b7,XC.ok,bc]) (.flat .nil))
 have ho':=gp x.S 26 (by omega) (l:=[aP 25 (bB bw x 6),.dead,aq (eY x),aq (bB bw x 6)]) (.cons (by simp [ak.b7,XC.ok,bc]) (.flat (.flat (.flat .nil))))
 have hr:=qW x.S ht' (l:=[aP 25 (bB bw x 6),.dead,aq (eY x),aq (bB bw x 6)]) (l':=[aP (HS.length+1) (bB bw x 6),.dead,aq (eY x),aq (bB bw x 6)]) (.cons (by simp only [ak.ay,List.map_cons,List.map_nil,XC.ay,aw];rfl) (.flat (.flat (.flat .nil))))
 have hlen:(bG HS ((0::k::bL)++[22,23]) (aP HS.length (eY x) :: .dead::(dI x.S++[aP (HS.length+1) (bB bw x 6),.dead,aq (eY x),aq (bB bw x 6)]))).length=HS.length+2:=qM _ _ _ (by show 24≤26;omega)
 refine bV ((0::k::bL)++[22,23]) ((0::k::bL)++[22,23]) 2 hc nd (ae.ed hi rfl rfl rfl (.flat hk hv)) (.cons (by simp [ak.b7,XC.ok,bc]) (.flat ho)) (.cons (by simp [ak.b7,XC.ok,bc]) (.flat ho')) rfl (.cons (by show 2<24;omega) (.cons (by show 0<24;omega) (.cons (by show 22<24;omega) (.flat (.flat .nil))))) (.cons rfl (.cons rfl (.cons rfl (.flat (.flat .nil))))) (bz.ok _) (bz.ay _) ?_ (C7 ..) rfl rfl (by rw [hlen];exact hbd) (.inl rfl)
 exact .cons (by simp only [ak.ay,List.map_cons,List.map_nil,XC.ay,aw];rfl) (.flat hr)
abbrev nr:aj:=[.dead,.dead,.dead,bM 4 8 12,ax 5 6 7 cM,aU cM,aW cM,aV cM,ax 9 10 11 cZ,aU cZ,aW cZ,aV cZ,ax 13 14 15 cP,aU cP,aW cP,aV cP,.dead,.dead,.dead,.dead,.dead,.dead,.dead,.dead]
theorem zN (c a:List XC) (e e' e5 e6:TypeId) (cs fs:List XC) (S:bC):dP (.cells a e false false::b8 e' cs::(dI S++[.cells c e5 false false,b8 e6 fs])) nr=true:=by
 cases cs <;> cases fs <;> simp [dP,ak.live,ak.own,b8]
theorem AQ {B bw:List Bool} {S:bC} {m:Mb} {mb:Int}(hc:bn Tryz.prog 58 [.one (.ptr 2 0),.one (.ptr 0 0),.one (.ptr 22 0),.one (.int .i64 mb),.agg (mC m)] (aP 1 B::aq B::(dI S++[aP 23 bw,aq bw])) (.one (.int .i64 2)) nr)
 {HS:aj} {k:Nat}(hi:HS[0]? = some (aP k B)) (hk:HS[k]? = some (aq B)) (hS:(HS.drop 2).take 20=dI S) (h22:HS[22]? = some (aP 23 bw)) (h23:HS[23]? = some (aq bw)) (hd:(k == 1 || Nat.ble 24 k)=true) {N:Nat}(hN:HS.length=N) (hbd:Nat.blt N Mem.bound=true) :
 aH.Sound Tryz.prog ⟨58,[.one (.ptr 2 0),.one (.ptr 0 0),.one (.ptr 22 0),.one (.int .i64 mb),.agg (mC m)],HS,.one (.int .i64 2),bG HS ((0::k::bL)++[22,23]) nr,(0::k::bL)++[22,23]⟩:=by
 subst hN
 have hkk:k=1∨24≤k:=by simpa [Nat.ble_eq]using hd
 have nd0:=qX (k:=k) (by omega)
 have nd:((0::k::bL)++[22,23]).Nodup:=by
  refine List.nodup_append.2 ⟨nd0,by decide,fun a ha b hb=>?_⟩
  have hb':b=22∨b=23:=by simpa using hb
  simp only [bL,List.mem_cons,List.not_mem_nil,or_false]at ha
  omega
 have ht:∀ j,2≤j→j<22→nth ((0::k::bL)++[22,23]) j=j:=mY k _
 have ht':∀ j,2≤j→j<22→nth (((0::k::bL)++[22,23])++List.range' HS.length 0) j=j:=fun j h1 h2=>by
  rw [List.append_assoc];exact mY k _ j h1 h2
 have hv:=o3 S ht hS (ls:=[22,23]) (l:=[aP 23 bw,aq bw]) (ae.ed h22 rfl rfl rfl (.flat h23 .nil))
 have ho:=gp S 24 (by omega) (l:=[aP 23 bw,aq bw]) (.cons (by simp [ak.b7,XC.ok,bc]) (.flat .nil))
 have h4:=ht' 4 (by omega) (by omega)
 have h5:=ht' 5 (by omega) (by omega)
 have h6:=ht' 6 (by omega) (by omega)
 have h7:=ht' 7 (by omega) (by omega)
 have h8:=ht' 8 (by omega) (by omega)
 have h9:=ht' 9 (by omega) (by omega)
 have h10:=ht' 10 (by omega) (by omega)
 have h11:=ht' 11 (by omega) (by omega)
 have h12:=ht' 12 (by omega) (by omega)
 have h13:=ht' 13 (by omega) (by omega)
 have h14:=ht' 14 (by omega) (by omega)
 have h15:=ht' 15 (by omega) (by omega)
 have hlen:(bG HS ((0::k::bL)++[22,23]) nr).length=HS.length:=by
  rw [qM _ _ _ (by show 24≤24;omega)]
  show HS.length+(24-24)=_
  omega
 have hk':bl 24 nr:=by
  refine .flat (.flat (.flat (.cons ?_ (.cons ?_ (.flat (.flat (.flat (.cons ?_ (.flat (.flat (.flat (.cons ?_ (.flat (.flat (.flat (.flat (.flat (.flat (.flat (.flat (.flat (.flat (.flat .nil)))))))))))))))))))))))
  all_goals simp [ak.b7,XC.ok]
 refine bV ((0::k::bL)++[22,23]) ((0::k::bL)++[22,23]) 0 hc nd (ae.ed hi rfl rfl rfl (.flat hk hv)) (.cons (by simp [ak.b7,XC.ok,bc]) (.flat ho)) hk' rfl (.cons (by show 2<24;omega) (.cons (by show 0<24;omega) (.cons (by show 22<24;omega) (.flat (.flat .nil))))) (.cons rfl (.cons rfl (.cons rfl (.flat (.flat .nil))))) (bz.ok _) (bz.ay _) ?_ (zN ..) rfl rfl (by rw [hlen];exact hbd) (.inl rfl)
 refine .flat (.flat (.flat (.cons ?_ (.cons ?_ (.flat (.flat (.flat (.cons ?_ (.flat (.flat (.flat (.cons ?_ (.flat (.flat (.flat (.flat (.flat (.flat (.flat (.flat (.flat (.flat (.flat .nil)))))))))))))))))))))))
 all_goals simp only [ak.ay,List.map_cons,List.map_nil,XC.ay, *]
theorem oG {B bw:List Bool} {S:bC} {m:Mb} {mb:Int} {x:pe}(hc:bn Tryz.prog 58 [.one (.ptr 2 0),.one (.ptr 0 0),.one (.ptr 22 0),.one (.int .i64 mb),.agg (mC m)] [aP 1 B,aq B,du (S),bM 4 8 12,ax 5 6 7 cM,aU cM,aW cM,aV cM,ax 9 10 11 cZ,aU cZ,aW cZ,aV cZ,ax 13 14 15 cP,aU cP,aW cP,aV cP,cg 17 (S).cols (S).rows,.map (bg (S).M),.cells [.int .i64 (S).cols,.int .i64 (S).rows,.map 19,.map 20,.map 21] 171 false false,.map (ah (S).A),.map (ah (S).B),.map (ah (S).C),aP 23 bw,aq bw] (.one (.int .i64 0)) [aP 24 (eY x),.dead,du (x.S),bM 4 8 12,ax 5 6 7 cM,aU cM,aW cM,aV cM,ax 9 10 11 cZ,aU cZ,aW cZ,aV cZ,ax 13 14 15 cP,aU cP,aW cP,aV cP,cg 17 (x.S).cols (x.S).rows,.map (bg (x.S).M),.cells [.int .i64 (x.S).cols,.int .i64 (x.S).rows,.map 19,.map 20,.map 21] 171 false false,.map (ah (x.S).A),.map (ah (x.S).B),.map (ah (x.S).C),aP 25 (bB bw x 6),.dead,aq (eY x),aq (bB bw x 6)])
 {HS:aj} {k:Nat}(hi:HS[0]? = some (aP k B)) (hk:HS[k]? = some (aq B)) (hS:(HS.drop 2).take 20=dI S) (h22:HS[22]? = some (aP 23 bw)) (h23:HS[23]? = some (aq bw)) (hd:(k == 1 || Nat.ble 24 k)=true) {N:Nat}(hN:HS.length=N) {HS':aj}(hh:bG HS [0,k,2,3,4,5,6,7,8,9,10,11,12,13,14,15,16,17,18,19,20,21,22,23] [aP N (eY x),.dead,du (x.S),bM 4 8 12,ax 5 6 7 cM,aU cM,aW cM,aV cM,ax 9 10 11 cZ,aU cZ,aW cZ,aV cZ,ax 13 14 15 cP,aU cP,aW cP,aV cP,cg 17 (x.S).cols (x.S).rows,.map (bg (x.S).M),.cells [.int .i64 (x.S).cols,.int .i64 (x.S).rows,.map 19,.map 20,.map 21] 171 false false,.map (ah (x.S).A),.map (ah (x.S).B),.map (ah (x.S).C),aP (N+1) (bB bw x 6),.dead,aq (eY x),aq (bB bw x 6)]=HS') (hbd:Nat.blt (N+2) Mem.bound=true) :
 aH.Sound Tryz.prog ⟨58,[.one (.ptr 2 0),.one (.ptr 0 0),.one (.ptr 22 0),.one (.int .i64 mb),.agg (mC m)],HS,.one (.int .i64 0),HS',(0::k::bL)++[22,23]⟩:=by
 subst hh
 exact DR hc hi hk hS h22 h23 hd hN hbd
theorem mE {B bw:List Bool} {S:bC} {m:Mb} {mb:Int}(hc:bn Tryz.prog 58 [.one (.ptr 2 0),.one (.ptr 0 0),.one (.ptr 22 0),.one (.int .i64 mb),.agg (mC m)] [aP 1 B,aq B,du (S),bM 4 8 12,ax 5 6 7 cM,aU cM,aW cM,aV cM,ax 9 10 11 cZ,aU cZ,aW cZ,aV cZ,ax 13 14 15 cP,aU cP,aW cP,aV cP,cg 17 (S).cols (S).rows,.map (bg (S).M),.cells [.int .i64 (S).cols,.int .i64 (S).rows,.map 19,.map 20,.map 21] 171 false false,.map (ah (S).A),.map (ah (S).B),.map (ah (S).C),aP 23 bw,aq bw] (.one (.int .i64 2)) nr)
 {HS:aj} {k:Nat}(hi:HS[0]? = some (aP k B)) (hk:HS[k]? = some (aq B)) (hS:(HS.drop 2).take 20=dI S) (h22:HS[22]? = some (aP 23 bw)) (h23:HS[23]? = some (aq bw)) (hd:(k == 1 || Nat.ble 24 k)=true) {N:Nat}(hN:HS.length=N) {HS':aj}(hh:bG HS [0,k,2,3,4,5,6,7,8,9,10,11,12,13,14,15,16,17,18,19,20,21,22,23] [.dead,.dead,.dead,bM 4 8 12,ax 5 6 7 cM,aU cM,aW cM,aV cM,ax 9 10 11 cZ,aU cZ,aW cZ,aV cZ,ax 13 14 15 cP,aU cP,aW cP,aV cP,.dead,.dead,.dead,.dead,.dead,.dead,.dead,.dead]=HS') (hbd:Nat.blt N Mem.bound=true) :
 aH.Sound Tryz.prog ⟨58,[.one (.ptr 2 0),.one (.ptr 0 0),.one (.ptr 22 0),.one (.int .i64 mb),.agg (mC m)],HS,.one (.int .i64 2),HS',(0::k::bL)++[22,23]⟩:=by
 subst hh
 exact AQ hc hi hk hS h22 h23 hd hN hbd
end Go.Proofs.YtagpkhindehcbaaGreat
