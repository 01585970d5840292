/-
  A part of the proof: Blocks2, Sta4.
-/
import Derived.Test.YtnkodcmkpfefhaaGreatEeQ
import Derived.Test.YtnkodcmkpfefhaaGreatEeR
set_option maxRecDepth 10000
set_option maxHeartbeats 8000000
set_option linter.unusedVariables false
set_option linter.unusedSectionVars false
set_option linter.unusedSimpArgs false
namespace Go.Proofs.YtnkodcmkpfefhaaGreat
open Go.Xm
variable [aw]
theorem kS(bs bw:List Bool)(S:bO)(m:Mb)(mb:Int)(hg:kL m)(hS:f4 S)(hmb:0<=mb/\mb<S.cols*S.rows)(hb:bs.length<=700000)(hbw:bw.length<=700000)(hx:gm m mb ⟨S,bs,0,0,fun _=>[]⟩ 6=none) :
 aW Tryz.prog 115 [.one (.ptr 2 0),.one (.ptr 0 0),.one (.ptr 22 0),.one (.int .i64 mb),.agg (mC m)] [aK 1 bs,aq bs,fv (S),cK 4 8 12,aI 5 6 7 cM,bz cM,bC cM,bB cM,aI 9 10 11 cZ,bz cZ,bC cZ,bB cZ,aI 13 14 15 cP,bz cP,bC cP,bB cP,dq 17 (S).cols (S).rows,.map (bK (S).M),.cells [.int .i64 (S).cols,.int .i64 (S).rows,.map 19,.map 20,.map 21] 142 false false,.map (aj (S).A),.map (aj (S).B),.map (aj (S).C),aK 23 bw,aq bw] (.one (.int .i64 2)) [.dead,.dead,.dead,cK 4 8 12,aI 5 6 7 cM,bz cM,bC cM,bB cM,aI 9 10 11 cZ,bz cZ,bC cZ,bB cZ,aI 13 14 15 cP,bz cP,bC cP,bB cP,.dead,.dead,.dead,.dead,.dead,.dead,.dead,.dead]:=by
 have hm:=hg.ok
 refine cO Tryz.func115 ?_
 repeat' (first
  |(refine qz ?_;first
   |refine mU (cs:=ti .i64 384 m.lev) ?_ (hle:=by rw[aQ];decide) (hc:=yJ m))
  |refine zz ?_|refine zx (fun _=>?_) (fun _=>?_)|fail)
 refine WX.bZ (σ:=Nat×oT) (fun s=>[(26,.one (.int .i64 (s.1:Nat))),(12,.one (.int .i64 s.2.pat)),(13,.one (.int .u64 s.2.col)),(0,.one (.ptr 2 0)),(1,.one (.ptr 0 0)),(2,.one (.ptr 22 0)),(3,.one (.int .i64 mb)),(9,.one (.ptr 25 0)),(11,.one (.ptr 26 0)),(25,.agg (ti .i64 384 m.lev))])
  (fun s=>[aK 24 s.2.B,.dead,fv (s.2.S),cK 4 8 12,aI 5 6 7 cM,bz cM,bC cM,bB cM,aI 9 10 11 cZ,bz cZ,bC cZ,bB cZ,aI 13 14 15 cP,bz cP,bC cP,bB cP,dq 17 (s.2.S).cols (s.2.S).rows,.map (bK (s.2.S).M),.cells [.int .i64 (s.2.S).cols,.int .i64 (s.2.S).rows,.map 19,.map 20,.map 21] 142 false false,.map (aj (s.2.S).A),.map (aj (s.2.S).B),.map (aj (s.2.S).C),aK 23 bw,aq bw,aq s.2.B,Hp m,GA s.2.ev,da (s.2.ev 0),da (s.2.ev 1),da (s.2.ev 2),da (s.2.ev 3),da (s.2.ev 4),da (s.2.ev 5)]) (xS m mb ⟨S,bs,0,0,fun _=>[]⟩) (fun s=>6-s.1) (0,⟨S,bs,0,0,fun _=>[]⟩) ⟨by show 0<=6;omega,rfl,hS,⟨rfl,rfl⟩,by show bs.length<=bs.length+76*0;omega,fun _ _=>rfl,fun _ => .inl rfl,⟨by show(0:Int)<=0;omega,by show(0:Int)<16;omega⟩,⟨by show(0:Int)<=0;omega,by show(0:Int)<4;omega⟩⟩ (fun s _=>hX) (b_ [0,1,2,3,4,5,6,7,8,9,10,11,12,13,14,15,16,17,18,19,20,21,22,23,1,24,25,0,0,0,0,0,0]) ?_
 intro s hs ih
 have hD:=hs.st.dims
 have hmb':0<=mb/\mb<s.2.S.cols*s.2.S.rows:=by rw[hs.cr.1,hs.cr.2];exact hmb
 have hpat:=hs.pat
 have hcol:=hs.col
 have hlen:s.2.B.length<=bs.length+76*s.1:=hs.len
 by_cases h6:s.1<6
 ·cases ha : alone m
  ·have er:f5 m s.2.S mb s.1=some (bg m s.1):=by
    unfold f5
    rw[if_neg (by rw[ha];decide)]
   have hN:=j_ hg hs h6 er
   obtain⟨EV,hEV⟩:∃EV,gF (lK (gz m.edge (bN s.2.S mb s.1 m.qp).1) (bg m s.1)) 0=EV:=⟨_,rfl⟩
   have eEV:vu m s.2.S mb s.1 (bg m s.1)=EV:=by
    unfold vu
    rw[if_neg (by rw[ha];decide)]
    exact hEV
   rw[eEV]at hN
   repeat' (first
    |(refine qz ?_;first
     |refine uz (n:=384) ?_
     |refine lO ?_ (hs1:=by rw[aL]) (hs2:=by rw[aL])
     |refine fV ?_ (hle:=by first|rw[aL]|rw[aQ])
     |refine cl ?_ (hi:=by exact lz (S:=s.2.S) (mb:=mb) (k:=(s.1:Nat)) (q:=m.qp) hD hmb' (by omega) rfl rfl rfl rfl rfl)
     |refine cl ?_ (hi:=by exact dP ha rfl)
     |refine cl ?_ (hi:=by exact jf rfl)
     |refine cl ?_ (hi:=by exact mK (f:=bg m s.1) (gY _ _) rfl)
     |refine cl (v := .one (.int .i64 0)) ?_ (hi:=by exact kB ha rfl)
     |refine cl ?_ (hi:=by exact mH hEV rfl (by decide) nL nA rfl)
     |refine st ?_ (hle:=by exact h6) (hv:=rfl)
     |refine ld (hc:=by exact List.getElem?_set_self (by exact h6)) ?_)
    |refine zz ?_|refine zx (fun _=>?_) (fun _=>?_)|fail)
   ·rename_i g0 g1
    have hE:cw m mb s.1 s.2 EV=⟨s.2.S,s.2.B,lp s.2.pat s.1,s.2.col,fun j=>if j=s.1 then EV else s.2.ev j⟩:=by
     unfold cw
     rw[if_neg (by rw[ha];decide),if_neg (by rw[ha];decide),if_pos (by omega),if_neg (by omega)]
    rw[hE]at hN
    refine ih (s.1+1,⟨s.2.S,s.2.B,lp s.2.pat s.1,s.2.col,fun j=>if j=s.1 then EV else s.2.ev j⟩) _ _ _ (vv (w:=24) (k:=s.1) (N:=35)) hN (by show 6-(s.1+1)<6-s.1;omega)
   ·rename_i g0 g1
    have hE:cw m mb s.1 s.2 EV=⟨s.2.S,s.2.B,s.2.pat,kT s.2.col s.1,fun j=>if j=s.1 then EV else s.2.ev j⟩:=by
     unfold cw
     rw[if_neg (by rw[ha];decide),if_neg (by rw[ha];decide),if_neg (by omega),if_pos (by omega)]
    rw[hE]at hN
    refine ih (s.1+1,⟨s.2.S,s.2.B,s.2.pat,kT s.2.col s.1,fun j=>if j=s.1 then EV else s.2.ev j⟩) _ _ _ (vv (w:=24) (k:=s.1) (N:=35)) hN (by show 6-(s.1+1)<6-s.1;omega)
   ·rename_i g0
    have hE:cw m mb s.1 s.2 EV=⟨s.2.S,s.2.B,s.2.pat,s.2.col,fun j=>if j=s.1 then EV else s.2.ev j⟩:=by
     unfold cw
     rw[if_neg (by rw[ha];decide),if_neg (by rw[ha];decide),if_neg (by omega),if_neg (by omega)]
    rw[hE]at hN
    refine ih (s.1+1,⟨s.2.S,s.2.B,s.2.pat,s.2.col,fun j=>if j=s.1 then EV else s.2.ev j⟩) _ _ _ (vv (w:=24) (k:=s.1) (N:=35)) hN (by show 6-(s.1+1)<6-s.1;omega)
  ·cases he:m.edge
   ·have he':m.edge=false:=he
    have hl6:(mC m)[6]? = some (.bool false):=congrArg (fun b=>some (XC.bool b)) he'
    have hfr:=kD s.2.S mb s.1 m.qp
    have hfi:0<=m.lev ((s.1:Int).toNat*64+0)/\m.lev ((s.1:Int).toNat*64+0)<=127:=hg.first ha s.1 h6
    have hdr:=lW hg (S:=s.2.S) (mb:=mb) ha h6
    have er:f5 m s.2.S mb s.1=some (gM (bg m s.1) 0 0):=by
     unfold f5
     rw[if_pos ha,if_neg (by rw[he'];decide)];rfl
    have hN:=j_ hg hs h6 er
    obtain⟨EV,hEV⟩:∃EV,gF (lK (gz false (bN s.2.S mb s.1 m.qp).1) (gM (bg m s.1) 0 0)) 1=EV:=⟨_,rfl⟩
    have eEV:vu m s.2.S mb s.1 (gM (bg m s.1) 0 0)=EV:=by
     unfold vu
     rw[if_pos ha,he']
     exact hEV
    rw[eEV]at hN
    repeat' (first
     |(refine qz ?_;first
      |refine ld (hc:=hl6) ?_
      |refine uz (n:=384) ?_
      |refine lO ?_ (hs1:=by rw[aL]) (hs2:=by rw[aL])
      |refine fV ?_ (hle:=by first|rw[aL]|rw[aQ])
      |refine cl ?_ (hi:=by exact lz (S:=s.2.S) (mb:=mb) (k:=(s.1:Nat)) (q:=m.qp) hD hmb' (by omega) rfl rfl rfl rfl rfl)
      |refine cl ?_ (hi:=by exact dP ha rfl)
      |refine cl ?_ (hi:=by exact jf rfl)
      |refine LR ?_ (hi:=by exact jD (n:=bg m s.1 0-(bN s.2.S mb s.1 m.qp).2) hdr (bs:=s.2.B) (by omega) rfl rfl (S:=s.2.S) rfl rfl nL nA rfl)
      |refine cl ?_ (hi:=by exact jD (n:=bg m s.1 0-(bN s.2.S mb s.1 m.qp).2) hdr (bs:=s.2.B) (by omega) rfl rfl (S:=s.2.S) rfl rfl nL nA rfl)
      |refine cl ?_ (hi:=by exact qN (S:=s.2.S) (mb:=mb) (k:=(s.1:Nat)) (b:=⟨bg m s.1,m.qp⟩) hD hmb' (by omega) rfl rfl rfl rfl nA rfl)
      |refine cl ?_ (hi:=by exact mK (f:=gM (bg m s.1) 0 0) (gY _ _) rfl)
      |refine cl (v := .one (.int .i64 1)) ?_ (hi:=by exact kB ha rfl)
      |refine cl ?_ (hi:=by exact mH hEV rfl (by decide) nL nA rfl)
      |refine st ?_ (hle:=by exact h6) (hv:=rfl)
      |refine ld (hc:=by exact List.getElem?_set_self (by exact h6)) ?_)
     |refine zz ?_|refine zx (fun _=>?_) (fun _=>?_)|fail)
    ·rename_i g0 g1
     have hE:cw m mb s.1 s.2 EV=⟨cc s.2.S mb s.1 ⟨bg m s.1,m.qp⟩,s.2.B++cH (bg m s.1 0-(bN s.2.S mb s.1 m.qp).2),lp s.2.pat s.1,s.2.col,fun j=>if j=s.1 then EV else s.2.ev j⟩:=by
      unfold cw
      rw[if_pos ha,if_pos ha,if_pos (by omega),if_neg (by omega)]
     rw[hE]at hN
     refine ih (s.1+1,⟨cc s.2.S mb s.1 ⟨bg m s.1,m.qp⟩,s.2.B++cH (bg m s.1 0-(bN s.2.S mb s.1 m.qp).2),lp s.2.pat s.1,s.2.col,fun j=>if j=s.1 then EV else s.2.ev j⟩) _ _ _ (vv (w:=35) (k:=s.1) (N:=36)) hN (by show 6-(s.1+1)<6-s.1;omega)
    ·rename_i g0 g1
     have hE:cw m mb s.1 s.2 EV=⟨cc s.2.S mb s.1 ⟨bg m s.1,m.qp⟩,s.2.B++cH (bg m s.1 0-(bN s.2.S mb s.1 m.qp).2),s.2.pat,kT s.2.col s.1,fun j=>if j=s.1 then EV else s.2.ev j⟩:=by
      unfold cw
      rw[if_pos ha,if_pos ha,if_neg (by omega),if_pos (by omega)]
     rw[hE]at hN
     refine ih (s.1+1,⟨cc s.2.S mb s.1 ⟨bg m s.1,m.qp⟩,s.2.B++cH (bg m s.1 0-(bN s.2.S mb s.1 m.qp).2),s.2.pat,kT s.2.col s.1,fun j=>if j=s.1 then EV else s.2.ev j⟩) _ _ _ (vv (w:=35) (k:=s.1) (N:=36)) hN (by show 6-(s.1+1)<6-s.1;omega)
    ·rename_i g0
     have hE:cw m mb s.1 s.2 EV=⟨cc s.2.S mb s.1 ⟨bg m s.1,m.qp⟩,s.2.B++cH (bg m s.1 0-(bN s.2.S mb s.1 m.qp).2),s.2.pat,s.2.col,fun j=>if j=s.1 then EV else s.2.ev j⟩:=by
      unfold cw
      rw[if_pos ha,if_pos ha,if_neg (by omega),if_neg (by omega)]
     rw[hE]at hN
     refine ih (s.1+1,⟨cc s.2.S mb s.1 ⟨bg m s.1,m.qp⟩,s.2.B++cH (bg m s.1 0-(bN s.2.S mb s.1 m.qp).2),s.2.pat,s.2.col,fun j=>if j=s.1 then EV else s.2.ev j⟩) _ _ _ (vv (w:=35) (k:=s.1) (N:=36)) hN (by show 6-(s.1+1)<6-s.1;omega)
   ·have he':m.edge=true:=he
    have hl6:(mC m)[6]? = some (.bool true):=congrArg (fun b=>some (XC.bool b)) he'
    have hfr:=kD s.2.S mb s.1 m.qp
    have hfi:0<=m.lev ((s.1:Int).toNat*64+0)/\m.lev ((s.1:Int).toNat*64+0)<=127:=hg.first ha s.1 h6
    have hdr:=lW hg (S:=s.2.S) (mb:=mb) ha h6
    cases hR:jH (bg m s.1) (j0 s.2.S mb s.1 m.qp)with
    | none=>
      repeat' (first
       |(refine qz ?_;first
        |refine ld (hc:=hl6) ?_
        |refine uz (n:=384) ?_
        |refine lO ?_ (hs1:=by rw[aL]) (hs2:=by rw[aL])
        |refine fV ?_ (hle:=by first|rw[aL]|rw[aQ])
        |refine cl ?_ (hi:=by exact lz (S:=s.2.S) (mb:=mb) (k:=(s.1:Nat)) (q:=m.qp) hD hmb' (by omega) rfl rfl rfl rfl rfl)
        |refine cl ?_ (hi:=by exact dP ha rfl)
        |refine cl ?_ (hi:=by exact jf rfl)
        |refine cl ?_ (hi:=by exact sf (S:=s.2.S) (mb:=mb) (k:=(s.1:Nat)) (q:=m.qp) hD hmb' (by omega) rfl rfl rfl rfl rfl)
        |refine cl (v := .tup [.agg (ti .i64 64 fun _=>0),.one (.bool false)]) ?_ (hi:=by exact qE (l:=bg m s.1) (fun i=>hm.lev _) (ly (fun dx dy b hb=>uG hs.st.lev hb)) hR rfl))
       |refine Gr (id:=10) [14] ?_|refine zz ?_|refine zx (fun _=>?_) (fun _=>?_)|fail)
      show aD _ _ _ _ _ _ _ _;refine kV [0,1,2,3,4,5,6,7,8,9,10,11,12,13,14,15,16,17,18,19,20,21,22,23] ?_
      rfl
    | some R=>
      have er:f5 m s.2.S mb s.1=some (gM R 0 0):=by
       unfold f5
       rw[if_pos ha,if_pos he',hR];rfl
      have hN:=j_ hg hs h6 er
      obtain⟨EV,hEV⟩:∃EV,gF (lK (gz true (bN s.2.S mb s.1 m.qp).1) (gM (R) 0 0)) 1=EV:=⟨_,rfl⟩
      have eEV:vu m s.2.S mb s.1 (gM (R) 0 0)=EV:=by
       unfold vu
       rw[if_pos ha,he']
       exact hEV
      rw[eEV]at hN
      repeat' (first
       |(refine qz ?_;first
        |refine ld (hc:=hl6) ?_
        |refine uz (n:=384) ?_
        |refine lO ?_ (hs1:=by rw[aL]) (hs2:=by rw[aL])
        |refine fV ?_ (hle:=by first|rw[aL]|rw[aQ])
        |refine cl ?_ (hi:=by exact lz (S:=s.2.S) (mb:=mb) (k:=(s.1:Nat)) (q:=m.qp) hD hmb' (by omega) rfl rfl rfl rfl rfl)
        |refine cl ?_ (hi:=by exact dP ha rfl)
        |refine cl ?_ (hi:=by exact jf rfl)
        |refine cl ?_ (hi:=by exact sf (S:=s.2.S) (mb:=mb) (k:=(s.1:Nat)) (q:=m.qp) hD hmb' (by omega) rfl rfl rfl rfl rfl)
        |refine cl (v := .tup [.agg (ti .i64 64 R),.one (.bool true)]) ?_ (hi:=by exact qE (l:=bg m s.1) (fun i=>hm.lev _) (ly (fun dx dy b hb=>uG hs.st.lev hb)) hR rfl)
        |refine LR ?_ (hi:=by exact jD (n:=bg m s.1 0-(bN s.2.S mb s.1 m.qp).2) hdr (bs:=s.2.B) (by omega) rfl rfl (S:=s.2.S) rfl rfl nL nA rfl)
        |refine cl ?_ (hi:=by exact jD (n:=bg m s.1 0-(bN s.2.S mb s.1 m.qp).2) hdr (bs:=s.2.B) (by omega) rfl rfl (S:=s.2.S) rfl rfl nL nA rfl)
        |refine cl ?_ (hi:=by exact qN (S:=s.2.S) (mb:=mb) (k:=(s.1:Nat)) (b:=⟨bg m s.1,m.qp⟩) hD hmb' (by omega) rfl rfl rfl rfl nA rfl)
        |refine cl ?_ (hi:=by exact mK (f:=gM (R) 0 0) (gY _ _) rfl)
        |refine cl (v := .one (.int .i64 1)) ?_ (hi:=by exact kB ha rfl)
        |refine cl ?_ (hi:=by exact mH hEV rfl (by decide) nL nA rfl)
        |refine st ?_ (hle:=by exact h6) (hv:=rfl)
        |refine ld (hc:=by exact List.getElem?_set_self (by exact h6)) ?_)
       |refine Gr (id:=10) [14] ?_|refine zz ?_|refine zx (fun _=>?_) (fun _=>?_)|fail)
      ·rename_i g0 g1
       have hE:cw m mb s.1 s.2 EV=⟨cc s.2.S mb s.1 ⟨bg m s.1,m.qp⟩,s.2.B++cH (bg m s.1 0-(bN s.2.S mb s.1 m.qp).2),lp s.2.pat s.1,s.2.col,fun j=>if j=s.1 then EV else s.2.ev j⟩:=by
        unfold cw
        rw[if_pos ha,if_pos ha,if_pos (by omega),if_neg (by omega)]
       rw[hE]at hN
       refine ih (s.1+1,⟨cc s.2.S mb s.1 ⟨bg m s.1,m.qp⟩,s.2.B++cH (bg m s.1 0-(bN s.2.S mb s.1 m.qp).2),lp s.2.pat s.1,s.2.col,fun j=>if j=s.1 then EV else s.2.ev j⟩) _ _ _ (vv (w:=36) (k:=s.1) (N:=37)) hN (by show 6-(s.1+1)<6-s.1;omega)
      ·rename_i g0 g1
       have hE:cw m mb s.1 s.2 EV=⟨cc s.2.S mb s.1 ⟨bg m s.1,m.qp⟩,s.2.B++cH (bg m s.1 0-(bN s.2.S mb s.1 m.qp).2),s.2.pat,kT s.2.col s.1,fun j=>if j=s.1 then EV else s.2.ev j⟩:=by
        unfold cw
        rw[if_pos ha,if_pos ha,if_neg (by omega),if_pos (by omega)]
       rw[hE]at hN
       refine ih (s.1+1,⟨cc s.2.S mb s.1 ⟨bg m s.1,m.qp⟩,s.2.B++cH (bg m s.1 0-(bN s.2.S mb s.1 m.qp).2),s.2.pat,kT s.2.col s.1,fun j=>if j=s.1 then EV else s.2.ev j⟩) _ _ _ (vv (w:=36) (k:=s.1) (N:=37)) hN (by show 6-(s.1+1)<6-s.1;omega)
      ·rename_i g0
       have hE:cw m mb s.1 s.2 EV=⟨cc s.2.S mb s.1 ⟨bg m s.1,m.qp⟩,s.2.B++cH (bg m s.1 0-(bN s.2.S mb s.1 m.qp).2),s.2.pat,s.2.col,fun j=>if j=s.1 then EV else s.2.ev j⟩:=by
        unfold cw
        rw[if_pos ha,if_pos ha,if_neg (by omega),if_neg (by omega)]
       rw[hE]at hN
       refine ih (s.1+1,⟨cc s.2.S mb s.1 ⟨bg m s.1,m.qp⟩,s.2.B++cH (bg m s.1 0-(bN s.2.S mb s.1 m.qp).2),s.2.pat,s.2.col,fun j=>if j=s.1 then EV else s.2.ev j⟩) _ _ _ (vv (w:=36) (k:=s.1) (N:=37)) hN (by show 6-(s.1+1)<6-s.1;omega)
 ·have h66:s.1=6:=by have:=hs.le;omega
  have h1:=hs.run
  rw[h66,hx]at h1
  cases h1
theorem po:∀(ls:List Nat) (os HS:ai) (ls2:List Nat) (os2:ai),os.length=ls.length->(∀(j i:Nat),ls[j]? = some i->∃o,HS[i]? = some o/\os[j]? = some o)->bQ HS (ls++ls2) (os++os2)=bQ HS ls2 os2
 | [],[],HS,ls2,os2,_,_=>by simp
 | [],_::_,_,_,_,h,_=>by simp at h
 | _::_,[],_,_,_,h,_=>by simp at h
 | i::ls,o::os,HS,ls2,os2,h,hg=>by
   obtain⟨o',h1,h2⟩:=hg 0 i rfl
   have:o'=o:=by simpa using h2.symm
   subst this
   show bQ (HS.set i o') (ls++ls2) (os++os2)=_
   rw[aV h1]
   exact po ls os HS ls2 os2 (by simpa using h) fun j i' hj=>hg (j+1) i' hj
theorem uU{j i:Nat}(h:cf[j]? = some i):j<20/\i=j+2:=by
 have hjl:j<20:=(List.getElem?_eq_some_iff.1 h).1
 have hq:∀q:Fin 20,cf[q.val]? = some (q.val+2):=by decide
 have:=hq ⟨j,hjl⟩
 rw[h]at this
 exact⟨hjl,by simpa using this⟩
theorem zb{S:bO}{HS:ai}(hS:(HS.drop 2).take 20=gh S){j:Nat}(hj:j<20):HS[j+2]? = (gh S)[j]?:=by
 rw[<-hS,List.getElem?_take,if_pos hj,List.getElem?_drop]
 congr 1
 omega
theorem rW(ls:List Nat)(os HS l:ai)(h:os.length=ls.length)(hg:∀(j i:Nat),ls[j]? = some i->∃o,HS[i]? = some o/\os[j]? = some o):bQ HS ls (os++l)=HS++l:=by
 have:=po ls os HS [] l h hg
 rw[List.append_nil]at this
 rw[this,bQ]
theorem oI{f:FuncId}{more:List XV}(hm:∀τ,eD τ more more)(hmo:gj 22 more){v:XV}[bh v]{bs bs':List Bool}{S S':bO}(hT:(gh S').tail=(gh S).tail)(hc:aW Tryz.prog f (.one (.ptr 2 0) :: .one (.ptr 0 0)::more) (aK 1 bs::aq bs::gh S) v (aK 22 bs' :: .dead::(gh S'++[aq bs'])))
 {HS:ai} {k:Nat}(hi:HS[0]? = some (aK k bs)) (hk:HS[k]? = some (aq bs)) (hS:(HS.drop 2).take 20=gh S) (hd:(k==1||Nat.ble 22 k)=true) {N:Nat}(hN:HS.length=N) {HS':ai}(hh:bQ HS [0,k,2] [aK N bs',.dead,fv S',aq bs']=HS') (hbd:Nat.blt HS'.length Mem.bound=true) :
 aC.Sound Tryz.prog ⟨f,.one (.ptr 2 0) :: .one (.ptr 0 0)::more,HS,v,HS',0::k::cf⟩:=by
 refine IF hm hmo hc hi hk hS hd hN ?_ hbd
 rw[<-hh]
 have hkk:k=1\/22<=k:=by simpa [Nat.ble_eq]using hd
 have e1:gh S'++[aq bs']=fv S'::((gh S).tail++[aq bs']):=by rw[<-hT];rfl
 have e2:cf=2::cf.tail:=rfl
 rw[e1,e2,bQ,bQ,bQ,bQ,bQ,bQ,bQ]
 refine rW cf.tail (gh S).tail _ _ rfl fun j i hj=>?_
 have hj':cf[j+1]? = some i:=hj
 obtain⟨h1,rfl⟩:=uU hj'
 have hl:j+1<(gh S).length:=h1
 refine⟨(gh S)[j+1],?_,?_⟩
 ·rw[List.getElem?_set_ne (by omega),List.getElem?_set_ne (by omega),List.getElem?_set_ne (by omega),zb hS h1,List.getElem?_eq_getElem hl]
 ·rw[List.getElem?_tail,List.getElem?_eq_getElem hl]
theorem pe(k:Nat)(r:List Nat):∀j,2<=j->j<22->nth ((0::k::cf)++r) j=j:=fun j h1 h2=>by
 have hq:∀q:Fin 20,cf[q.val]? = some (q.val+2):=by decide
 obtain⟨q,rfl⟩:∃q,j=q+2:=⟨j-2,by omega⟩
 have:=hq ⟨q,by omega⟩
 unfold nth
 rw[List.getD_eq_getElem?_getD]
 show((cf++r)[q]?).getD 0=q+2
 rw[List.getElem?_append_left (show q<cf.length by show q<20;omega),this];rfl
theorem sc{k:Nat}(hkk:k=1\/22<=k):(0::k::cf).Nodup:=by
 have h0:0∉cf:=by decide
 have hk':k∉cf:=by
  intro h
  simp only[cf,List.mem_cons,List.not_mem_nil,or_false]at h
  omega
 exact List.nodup_cons.2 ⟨fun h=>(List.mem_cons.1 h).elim (fun e=>by omega) h0,List.nodup_cons.2 ⟨hk',by decide⟩⟩
theorem Fb(a:List XC)(e e':TypeId)(cs:List XC)(S S':bO):eV (.cells a e false false::dG e' cs::gh S) (.cells a e false false::dG e' cs::gh S')=true:=by
 cases cs<;>simp[eV,ah.live,ah.own,dG]
theorem gH{bs:List Bool}{S:bO}(hD:j6 S.cols S.rows){mb:Int}(hmb:0<=mb/\mb<S.cols*S.rows){m:Mb}{HS:ai}{k:Nat}(hi:HS[0]? = some (aK k bs))(hk:HS[k]? = some (aq bs))(hS:(HS.drop 2).take 20=gh S)(hd:(k==1||Nat.ble 22 k)=true){HS':ai}(hh:HS.set 17 (.map (bK (AM S.M S.cols mb m.v)))=HS')(hbd:Nat.blt HS'.length Mem.bound=true) :
 aC.Sound Tryz.prog ⟨110,[.one (.ptr 2 0),.one (.int .i64 mb),.agg (mC m)],HS,.tup [],HS',[17]⟩:=by
 have hkk:k=1\/22<=k:=by simpa [Nat.ble_eq]using hd
 have nd:=sc hkk
 have ht:∀j,2<=j->j<22->nth (0::k::cf) j=j:=fun j h1 h2=>by
  have:=pe k [] j h1 h2
  rwa [List.append_nil]at this
 have ht':∀j,2<=j->j<22->nth ((0::k::cf)++List.range' HS.length 0) j=j:=pe k _
 have hv:=qL S ht hS (ls:=[]) .nil
 rw[List.append_nil,List.append_nil]at hv
 have ho:=jZ S 22 (Nat.le_refl _) (l:=[]) .nil
 rw[List.append_nil]at ho
 have ho':=jZ (bk S mb m.v) 22 (Nat.le_refl _) (l:=[]) .nil
 rw[List.append_nil]at ho'
 have hr:=uT (bk S mb m.v) ht' (l:=[]) (l':=[]) .nil
 rw[List.append_nil]at hr
 have hh' : bQ HS (0::k::cf) (aK k bs::aq bs::gh (bk S mb m.v))=HS':=by
  rw[<-hh]
  have e1:(aK k bs::aq bs::gh (bk S mb m.v))=(aK k bs::aq bs::(gh S).take 15)++(.map (bK (AM S.M S.cols mb m.v))::((gh S).drop 16++[])):=rfl
  have e2:(0::k::cf)=(0::k::cf.take 15)++(17::cf.drop 16):=rfl
  rw[e1,e2,po _ _ _ _ _ rfl]
  ·rw[bQ]
   rw[rW (cf.drop 16) ((gh S).drop 16) _ [] rfl,List.append_nil]
   intro j i hj
   rw[List.getElem?_drop]at hj
   obtain⟨h1,rfl⟩:=uU hj
   have hl:16+j<(gh S).length:=h1
   refine⟨(gh S)[16+j],?_,?_⟩
   ·rw[List.getElem?_set_ne (by omega),zb hS h1,List.getElem?_eq_getElem hl]
   ·rw[List.getElem?_drop,List.getElem?_eq_getElem hl]
  ·intro j i hj
   match j,hj with
   | 0,hj=>cases hj;exact⟨_,hi,rfl⟩
   | 1,hj=>cases hj;exact⟨_,hk,rfl⟩
   | j + 2,hj=>
     have hj2:(cf.take 15)[j]? = some i:=hj
     rw[List.getElem?_take]at hj2
     split at hj2
     ·rename_i h15
      obtain⟨h1,rfl⟩:=uU hj2
      have hl:j<(gh S).length:=h1
      refine⟨(gh S)[j],?_,?_⟩
      ·rw[zb hS h1,List.getElem?_eq_getElem hl]
      ·show((gh S).take 15)[j]? = _
       rw[List.getElem?_take,if_pos h15,List.getElem?_eq_getElem hl]
     ·cases hj2
 refine ca (0::k::cf) [17] 0 (CK bs S hD mb hmb m) nd (ae.fu hi rfl rfl rfl (.flat hk hv)) (.cons (by simp[ah.bl,XC.ok,aE]) (.flat ho)) (.cons (by simp[ah.bl,XC.ok,aE]) (.flat ho')) rfl (.cons (by show 2<22;omega) (.flat (.flat .nil))) (.cons rfl (.flat (.flat .nil))) (bh.ok _) (bh.ax _) ?_ (Fb ..) rfl hh' hbd (.inr fun j hjl hj=>?_)
 ·exact .cons (by simp only[ah.ax,List.map_cons,List.map_nil,XC.ax,aB];rfl) (.flat hr)
 ·subst hh
  exact List.getElem?_set_ne (fun h=>hj (by rw[<-h];exact List.mem_singleton.2 rfl))
end Go.Proofs.YtnkodcmkpfefhaaGreat
