/-
  A part of the proof: Blocks2, Put0.
-/
import Derived.Test.YtagpkhindehcbaaGreatKfP
import Derived.Test.YtagpkhindehcbaaGreatKfR
set_option maxRecDepth 10000
set_option maxHeartbeats 8000000
set_option linter.unusedVariables false
set_option linter.unusedSectionVars false
set_option linter.unusedSimpArgs false
namespace Go.Proofs.YtagpkhindehcbaaGreat
open Go.Xm
variable [ax]
theorem nw(bs bw:List Bool)(S:bm)(m:Mb)(mb:Int)(hg:jE m)(hS:iX S)(hmb:0<=mb/\mb<S.cols*S.rows)(hb:bs.length<=700000)(hbw:bw.length<=700000)(hx:fJ m mb ⟨S,bs,0,0,fun _=>[]⟩ 6=none) :
 bh Tryz.prog 58 [.one (.ptr 2 0),.one (.ptr 0 0),.one (.ptr 22 0),.one (.int .i64 mb),.agg (mC m)] [aN 1 bs,aq bs,dJ (S),bM 4 8 12,aw 5 6 7 cM,aR cM,aT cM,aS cM,aw 9 10 11 cZ,aR cZ,aT cZ,aS cZ,aw 13 14 15 cP,aR cP,aT cP,aS cP,cn 17 (S).cols (S).rows,.map (ba (S).M),.cells [.int .i64 (S).cols,.int .i64 (S).rows,.map 19,.map 20,.map 21] 171 false false,.map (ag (S).A),.map (ag (S).B),.map (ag (S).C),aN 23 bw,aq bw] (.one (.int .i64 2)) [.dead,.dead,.dead,bM 4 8 12,aw 5 6 7 cM,aR cM,aT cM,aS cM,aw 9 10 11 cZ,aR cZ,aT cZ,aS cZ,aw 13 14 15 cP,aR cP,aT cP,aS cP,.dead,.dead,.dead,.dead,.dead,.dead,.dead,.dead]:=by
 have hm:=hg.ok
 refine cO Tryz.func58 ?_
 repeat' (first
  |(refine qz ?_;first
   |refine t_ (cs:=ti .i64 384 m.lev) ?_ (hle:=by rw[aI];decide) (hc:=C4 m))
  |refine zz ?_|refine zx (fun _=>?_) (fun _=>?_)|fail)
 refine WX.dw (σ:=Nat×oD) (fun s=>[(26,.one (.int .i64 (s.1:Nat))),(12,.one (.int .i64 s.2.pat)),(13,.one (.int .u64 s.2.col)),(0,.one (.ptr 2 0)),(1,.one (.ptr 0 0)),(2,.one (.ptr 22 0)),(3,.one (.int .i64 mb)),(9,.one (.ptr 25 0)),(11,.one (.ptr 26 0)),(25,.agg (ti .i64 384 m.lev))])
  (fun s=>[aN 24 s.2.B,.dead,dJ (s.2.S),bM 4 8 12,aw 5 6 7 cM,aR cM,aT cM,aS cM,aw 9 10 11 cZ,aR cZ,aT cZ,aS cZ,aw 13 14 15 cP,aR cP,aT cP,aS cP,cn 17 (s.2.S).cols (s.2.S).rows,.map (ba (s.2.S).M),.cells [.int .i64 (s.2.S).cols,.int .i64 (s.2.S).rows,.map 19,.map 20,.map 21] 171 false false,.map (ag (s.2.S).A),.map (ag (s.2.S).B),.map (ag (s.2.S).C),aN 23 bw,aq bw,aq s.2.B,mu m,Ln s.2.ev,db (s.2.ev 0),db (s.2.ev 1),db (s.2.ev 2),db (s.2.ev 3),db (s.2.ev 4),db (s.2.ev 5)]) (Cr m mb ⟨S,bs,0,0,fun _=>[]⟩) (fun s=>6-s.1) (0,⟨S,bs,0,0,fun _=>[]⟩) ⟨by show 0<=6;omega,rfl,hS,⟨rfl,rfl⟩,by show bs.length<=bs.length+76*0;omega,fun _ _=>rfl,fun _ => .inl rfl,⟨by show(0:Int)<=0;omega,by show(0:Int)<16;omega⟩,⟨by show(0:Int)<=0;omega,by show(0:Int)<4;omega⟩⟩ (fun s _=>lD) (cG [0,1,2,3,4,5,6,7,8,9,10,11,12,13,14,15,16,17,18,19,20,21,22,23,1,24,25,0,0,0,0,0,0]) ?_
 intro s hs ih
 have hD:=hs.st.dims
 have hmb':0<=mb/\mb<s.2.S.cols*s.2.S.rows:=by rw[hs.cr.1,hs.cr.2];exact hmb
 have hpat:=hs.pat
 have hcol:=hs.col
 have hlen:s.2.B.length<=bs.length+76*s.1:=hs.len
 by_cases h6:s.1<6
 ·cases ha : alone m
  ·have er:fW m s.2.S mb s.1=some (aK m s.1):=by
    unfold fW
    rw[if_neg (by rw[ha];decide)]
   have hN:=mH hg hs h6 er
   obtain⟨EV,hEV⟩:∃EV,dS (hU (dD m.edge (a_ s.2.S mb s.1 m.qp).1) (aK m s.1)) 0=EV:=⟨_,rfl⟩
   have eEV:nr m s.2.S mb s.1 (aK m s.1)=EV:=by
    unfold nr
    rw[if_neg (by rw[ha];decide)]
    exact hEV
   rw[eEV]at hN
   repeat' (first
    |(refine qz ?_;first
     |refine A3 (n:=384) ?_
     |refine kj ?_ (hs1:=by rw[aE]) (hs2:=by rw[aE])
     |refine fG ?_ (hle:=by first|rw[aE]|rw[aI])
     |refine cl ?_ (hi:=by exact iI (S:=s.2.S) (mb:=mb) (k:=(s.1:Nat)) (q:=m.qp) hD hmb' (by omega) rfl rfl rfl rfl rfl)
     |refine cl ?_ (hi:=by exact ir ha rfl)
     |refine cl ?_ (hi:=by exact kg rfl)
     |refine cl ?_ (hi:=by exact pT (f:=aK m s.1) (eT _ _) rfl)
     |refine cl (v := .one (.int .i64 0)) ?_ (hi:=by exact mX ha rfl)
     |refine cl ?_ (hi:=by exact pR hEV rfl (by decide) nL nA rfl)
     |refine st ?_ (hle:=by exact h6) (hv:=rfl)
     |refine ld (hc:=by exact List.getElem?_set_self (by exact h6)) ?_)
    |refine zz ?_|refine zx (fun _=>?_) (fun _=>?_)|fail)
   ·rename_i g0 g1
    have hE:cC m mb s.1 s.2 EV=⟨s.2.S,s.2.B,kA s.2.pat s.1,s.2.col,fun j=>if j=s.1 then EV else s.2.ev j⟩:=by
     unfold cC
     rw[if_neg (by rw[ha];decide),if_neg (by rw[ha];decide),if_pos (by omega),if_neg (by omega)]
    rw[hE]at hN
    refine ih (s.1+1,⟨s.2.S,s.2.B,kA s.2.pat s.1,s.2.col,fun j=>if j=s.1 then EV else s.2.ev j⟩) _ _ _ (Ai (w:=24) (k:=s.1) (N:=35)) hN (by show 6-(s.1+1)<6-s.1;omega)
   ·rename_i g0 g1
    have hE:cC m mb s.1 s.2 EV=⟨s.2.S,s.2.B,s.2.pat,kx s.2.col s.1,fun j=>if j=s.1 then EV else s.2.ev j⟩:=by
     unfold cC
     rw[if_neg (by rw[ha];decide),if_neg (by rw[ha];decide),if_neg (by omega),if_pos (by omega)]
    rw[hE]at hN
    refine ih (s.1+1,⟨s.2.S,s.2.B,s.2.pat,kx s.2.col s.1,fun j=>if j=s.1 then EV else s.2.ev j⟩) _ _ _ (Ai (w:=24) (k:=s.1) (N:=35)) hN (by show 6-(s.1+1)<6-s.1;omega)
   ·rename_i g0
    have hE:cC m mb s.1 s.2 EV=⟨s.2.S,s.2.B,s.2.pat,s.2.col,fun j=>if j=s.1 then EV else s.2.ev j⟩:=by
     unfold cC
     rw[if_neg (by rw[ha];decide),if_neg (by rw[ha];decide),if_neg (by omega),if_neg (by omega)]
    rw[hE]at hN
    refine ih (s.1+1,⟨s.2.S,s.2.B,s.2.pat,s.2.col,fun j=>if j=s.1 then EV else s.2.ev j⟩) _ _ _ (Ai (w:=24) (k:=s.1) (N:=35)) hN (by show 6-(s.1+1)<6-s.1;omega)
  ·cases he:m.edge
   ·have he':m.edge=false:=he
    have hl6:(mC m)[6]? = some (.bool false):=congrArg (fun b=>some (XC.bool b)) he'
    have hfr:=lg s.2.S mb s.1 m.qp
    have hfi:0<=m.lev ((s.1:Int).toNat*64+0)/\m.lev ((s.1:Int).toNat*64+0)<=127:=hg.first ha s.1 h6
    have hdr:=mK hg (S:=s.2.S) (mb:=mb) ha h6
    have er:fW m s.2.S mb s.1=some (cw (aK m s.1) 0 0):=by
     unfold fW
     rw[if_pos ha,if_neg (by rw[he'];decide)];rfl
    have hN:=mH hg hs h6 er
    obtain⟨EV,hEV⟩:∃EV,dS (hU (dD false (a_ s.2.S mb s.1 m.qp).1) (cw (aK m s.1) 0 0)) 1=EV:=⟨_,rfl⟩
    have eEV:nr m s.2.S mb s.1 (cw (aK m s.1) 0 0)=EV:=by
     unfold nr
     rw[if_pos ha,he']
     exact hEV
    rw[eEV]at hN
    repeat' (first
     |(refine qz ?_;first
      |refine ld (hc:=hl6) ?_
      |refine A3 (n:=384) ?_
      |refine kj ?_ (hs1:=by rw[aE]) (hs2:=by rw[aE])
      |refine fG ?_ (hle:=by first|rw[aE]|rw[aI])
      |refine cl ?_ (hi:=by exact iI (S:=s.2.S) (mb:=mb) (k:=(s.1:Nat)) (q:=m.qp) hD hmb' (by omega) rfl rfl rfl rfl rfl)
      |refine cl ?_ (hi:=by exact ir ha rfl)
      |refine cl ?_ (hi:=by exact kg rfl)
      |refine QX ?_ (hi:=by exact lW (n:=aK m s.1 0-(a_ s.2.S mb s.1 m.qp).2) hdr (bs:=s.2.B) (by omega) rfl rfl (S:=s.2.S) rfl rfl nL nA rfl)
      |refine cl ?_ (hi:=by exact lW (n:=aK m s.1 0-(a_ s.2.S mb s.1 m.qp).2) hdr (bs:=s.2.B) (by omega) rfl rfl (S:=s.2.S) rfl rfl nL nA rfl)
      |refine cl ?_ (hi:=by exact l7 (S:=s.2.S) (mb:=mb) (k:=(s.1:Nat)) (b:=⟨aK m s.1,m.qp⟩) hD hmb' (by omega) rfl rfl rfl rfl nA rfl)
      |refine cl ?_ (hi:=by exact pT (f:=cw (aK m s.1) 0 0) (eT _ _) rfl)
      |refine cl (v := .one (.int .i64 1)) ?_ (hi:=by exact mX ha rfl)
      |refine cl ?_ (hi:=by exact pR hEV rfl (by decide) nL nA rfl)
      |refine st ?_ (hle:=by exact h6) (hv:=rfl)
      |refine ld (hc:=by exact List.getElem?_set_self (by exact h6)) ?_)
     |refine zz ?_|refine zx (fun _=>?_) (fun _=>?_)|fail)
    ·rename_i g0 g1
     have hE:cC m mb s.1 s.2 EV=⟨bu s.2.S mb s.1 ⟨aK m s.1,m.qp⟩,s.2.B++bY (aK m s.1 0-(a_ s.2.S mb s.1 m.qp).2),kA s.2.pat s.1,s.2.col,fun j=>if j=s.1 then EV else s.2.ev j⟩:=by
      unfold cC
      rw[if_pos ha,if_pos ha,if_pos (by omega),if_neg (by omega)]
     rw[hE]at hN
     refine ih (s.1+1,⟨bu s.2.S mb s.1 ⟨aK m s.1,m.qp⟩,s.2.B++bY (aK m s.1 0-(a_ s.2.S mb s.1 m.qp).2),kA s.2.pat s.1,s.2.col,fun j=>if j=s.1 then EV else s.2.ev j⟩) _ _ _ (Ai (w:=35) (k:=s.1) (N:=36)) hN (by show 6-(s.1+1)<6-s.1;omega)
    ·rename_i g0 g1
     have hE:cC m mb s.1 s.2 EV=⟨bu s.2.S mb s.1 ⟨aK m s.1,m.qp⟩,s.2.B++bY (aK m s.1 0-(a_ s.2.S mb s.1 m.qp).2),s.2.pat,kx s.2.col s.1,fun j=>if j=s.1 then EV else s.2.ev j⟩:=by
      unfold cC
      rw[if_pos ha,if_pos ha,if_neg (by omega),if_pos (by omega)]
     rw[hE]at hN
     refine ih (s.1+1,⟨bu s.2.S mb s.1 ⟨aK m s.1,m.qp⟩,s.2.B++bY (aK m s.1 0-(a_ s.2.S mb s.1 m.qp).2),s.2.pat,kx s.2.col s.1,fun j=>if j=s.1 then EV else s.2.ev j⟩) _ _ _ (Ai (w:=35) (k:=s.1) (N:=36)) hN (by show 6-(s.1+1)<6-s.1;omega)
    ·rename_i g0
     have hE:cC m mb s.1 s.2 EV=⟨bu s.2.S mb s.1 ⟨aK m s.1,m.qp⟩,s.2.B++bY (aK m s.1 0-(a_ s.2.S mb s.1 m.qp).2),s.2.pat,s.2.col,fun j=>if j=s.1 then EV else s.2.ev j⟩:=by
      unfold cC
      rw[if_pos ha,if_pos ha,if_neg (by omega),if_neg (by omega)]
     rw[hE]at hN
     refine ih (s.1+1,⟨bu s.2.S mb s.1 ⟨aK m s.1,m.qp⟩,s.2.B++bY (aK m s.1 0-(a_ s.2.S mb s.1 m.qp).2),s.2.pat,s.2.col,fun j=>if j=s.1 then EV else s.2.ev j⟩) _ _ _ (Ai (w:=35) (k:=s.1) (N:=36)) hN (by show 6-(s.1+1)<6-s.1;omega)
   ·have he':m.edge=true:=he
    have hl6:(mC m)[6]? = some (.bool true):=congrArg (fun b=>some (XC.bool b)) he'
    have hfr:=lg s.2.S mb s.1 m.qp
    have hfi:0<=m.lev ((s.1:Int).toNat*64+0)/\m.lev ((s.1:Int).toNat*64+0)<=127:=hg.first ha s.1 h6
    have hdr:=mK hg (S:=s.2.S) (mb:=mb) ha h6
    cases hR:ot (aK m s.1) (cq s.2.S mb s.1 m.qp)with
    | none=>
      repeat' (first
       |(refine qz ?_;first
        |refine ld (hc:=hl6) ?_
        |refine A3 (n:=384) ?_
        |refine kj ?_ (hs1:=by rw[aE]) (hs2:=by rw[aE])
        |refine fG ?_ (hle:=by first|rw[aE]|rw[aI])
        |refine cl ?_ (hi:=by exact iI (S:=s.2.S) (mb:=mb) (k:=(s.1:Nat)) (q:=m.qp) hD hmb' (by omega) rfl rfl rfl rfl rfl)
        |refine cl ?_ (hi:=by exact ir ha rfl)
        |refine cl ?_ (hi:=by exact kg rfl)
        |refine cl ?_ (hi:=by exact pq (S:=s.2.S) (mb:=mb) (k:=(s.1:Nat)) (q:=m.qp) hD hmb' (by omega) rfl rfl rfl rfl rfl)
        |refine cl (v := .tup [.agg (ti .i64 64 fun _=>0),.one (.bool false)]) ?_ (hi:=by exact ze (l:=aK m s.1) (fun i=>hm.lev _) (n7 (fun dx dy b hb=>zi hs.st.lev hb)) hR rfl))
       |refine Hg (id:=10) [14] ?_|refine zz ?_|refine zx (fun _=>?_) (fun _=>?_)|fail)
      show aC _ _ _ _ _ _ _ _;refine kV [0,1,2,3,4,5,6,7,8,9,10,11,12,13,14,15,16,17,18,19,20,21,22,23] ?_
      rfl
    | some R=>
      have er:fW m s.2.S mb s.1=some (cw R 0 0):=by
       unfold fW
       rw[if_pos ha,if_pos he',hR];rfl
      have hN:=mH hg hs h6 er
      obtain⟨EV,hEV⟩:∃EV,dS (hU (dD true (a_ s.2.S mb s.1 m.qp).1) (cw (R) 0 0)) 1=EV:=⟨_,rfl⟩
      have eEV:nr m s.2.S mb s.1 (cw (R) 0 0)=EV:=by
       unfold nr
       rw[if_pos ha,he']
       exact hEV
      rw[eEV]at hN
      repeat' (first
       |(refine qz ?_;first
        |refine ld (hc:=hl6) ?_
        |refine A3 (n:=384) ?_
        |refine kj ?_ (hs1:=by rw[aE]) (hs2:=by rw[aE])
        |refine fG ?_ (hle:=by first|rw[aE]|rw[aI])
        |refine cl ?_ (hi:=by exact iI (S:=s.2.S) (mb:=mb) (k:=(s.1:Nat)) (q:=m.qp) hD hmb' (by omega) rfl rfl rfl rfl rfl)
        |refine cl ?_ (hi:=by exact ir ha rfl)
        |refine cl ?_ (hi:=by exact kg rfl)
        |refine cl ?_ (hi:=by exact pq (S:=s.2.S) (mb:=mb) (k:=(s.1:Nat)) (q:=m.qp) hD hmb' (by omega) rfl rfl rfl rfl rfl)
        |refine cl (v := .tup [.agg (ti .i64 64 R),.one (.bool true)]) ?_ (hi:=by exact ze (l:=aK m s.1) (fun i=>hm.lev _) (n7 (fun dx dy b hb=>zi hs.st.lev hb)) hR rfl)
        |refine QX ?_ (hi:=by exact lW (n:=aK m s.1 0-(a_ s.2.S mb s.1 m.qp).2) hdr (bs:=s.2.B) (by omega) rfl rfl (S:=s.2.S) rfl rfl nL nA rfl)
        |refine cl ?_ (hi:=by exact lW (n:=aK m s.1 0-(a_ s.2.S mb s.1 m.qp).2) hdr (bs:=s.2.B) (by omega) rfl rfl (S:=s.2.S) rfl rfl nL nA rfl)
        |refine cl ?_ (hi:=by exact l7 (S:=s.2.S) (mb:=mb) (k:=(s.1:Nat)) (b:=⟨aK m s.1,m.qp⟩) hD hmb' (by omega) rfl rfl rfl rfl nA rfl)
        |refine cl ?_ (hi:=by exact pT (f:=cw (R) 0 0) (eT _ _) rfl)
        |refine cl (v := .one (.int .i64 1)) ?_ (hi:=by exact mX ha rfl)
        |refine cl ?_ (hi:=by exact pR hEV rfl (by decide) nL nA rfl)
        |refine st ?_ (hle:=by exact h6) (hv:=rfl)
        |refine ld (hc:=by exact List.getElem?_set_self (by exact h6)) ?_)
       |refine Hg (id:=10) [14] ?_|refine zz ?_|refine zx (fun _=>?_) (fun _=>?_)|fail)
      ·rename_i g0 g1
       have hE:cC m mb s.1 s.2 EV=⟨bu s.2.S mb s.1 ⟨aK m s.1,m.qp⟩,s.2.B++bY (aK m s.1 0-(a_ s.2.S mb s.1 m.qp).2),kA s.2.pat s.1,s.2.col,fun j=>if j=s.1 then EV else s.2.ev j⟩:=by
        unfold cC
        rw[if_pos ha,if_pos ha,if_pos (by omega),if_neg (by omega)]
       rw[hE]at hN
       refine ih (s.1+1,⟨bu s.2.S mb s.1 ⟨aK m s.1,m.qp⟩,s.2.B++bY (aK m s.1 0-(a_ s.2.S mb s.1 m.qp).2),kA s.2.pat s.1,s.2.col,fun j=>if j=s.1 then EV else s.2.ev j⟩) _ _ _ (Ai (w:=36) (k:=s.1) (N:=37)) hN (by show 6-(s.1+1)<6-s.1;omega)
      ·rename_i g0 g1
       have hE:cC m mb s.1 s.2 EV=⟨bu s.2.S mb s.1 ⟨aK m s.1,m.qp⟩,s.2.B++bY (aK m s.1 0-(a_ s.2.S mb s.1 m.qp).2),s.2.pat,kx s.2.col s.1,fun j=>if j=s.1 then EV else s.2.ev j⟩:=by
        unfold cC
        rw[if_pos ha,if_pos ha,if_neg (by omega),if_pos (by omega)]
       rw[hE]at hN
       refine ih (s.1+1,⟨bu s.2.S mb s.1 ⟨aK m s.1,m.qp⟩,s.2.B++bY (aK m s.1 0-(a_ s.2.S mb s.1 m.qp).2),s.2.pat,kx s.2.col s.1,fun j=>if j=s.1 then EV else s.2.ev j⟩) _ _ _ (Ai (w:=36) (k:=s.1) (N:=37)) hN (by show 6-(s.1+1)<6-s.1;omega)
      ·rename_i g0
       have hE:cC m mb s.1 s.2 EV=⟨bu s.2.S mb s.1 ⟨aK m s.1,m.qp⟩,s.2.B++bY (aK m s.1 0-(a_ s.2.S mb s.1 m.qp).2),s.2.pat,s.2.col,fun j=>if j=s.1 then EV else s.2.ev j⟩:=by
        unfold cC
        rw[if_pos ha,if_pos ha,if_neg (by omega),if_neg (by omega)]
       rw[hE]at hN
       refine ih (s.1+1,⟨bu s.2.S mb s.1 ⟨aK m s.1,m.qp⟩,s.2.B++bY (aK m s.1 0-(a_ s.2.S mb s.1 m.qp).2),s.2.pat,s.2.col,fun j=>if j=s.1 then EV else s.2.ev j⟩) _ _ _ (Ai (w:=36) (k:=s.1) (N:=37)) hN (by show 6-(s.1+1)<6-s.1;omega)
 ·have h66:s.1=6:=by have:=hs.le;omega
  have h1:=hs.run
  rw[h66,hx]at h1
  cases h1
def au(m:Mb)(mb:Int)(x:bm×List Bool)(k:Nat):bm×List Bool:=({x.1 with M:=aV x.1.M x.1.cols mb k (m.v k)},x.2++cV (m.v k) (b9 x.1.M x.1.cols x.1.rows mb k))
def bC(S:bm)(B:List Bool)(m:Mb)(mb:Int):bm×List Bool:=
 if m.kind=0 then(aX S mb m.v,B++az S m)
 else if m.kind=1 then(aX (au m mb (S,B++az S m) 0).1 mb m.v,(au m mb (S,B++az S m) 0).2)
 else if m.kind=2 then(aX (au m mb (au m mb (au m mb (au m mb (S,B++az S m) 0) 1) 2) 3).1 mb m.v,(au m mb (au m mb (au m mb (au m mb (S,B++az S m) 0) 1) 2) 3).2)
 else(aX (fy S m) mb m.v,(B++az S m)++[m.edge])
structure lS(S:bm)(B bw:List Bool)(m:Mb)(mb:Int):Prop where
 st:iX S
 mb:0<=mb/\mb<S.cols*S.rows
 qp : -1000000<=S.qp/\S.qp<=1000000
 good:jE m
 right:∀k,k<4->dH (m.v k)=true
 len:B.length<=600000
 lenw:bw.length<=600000
theorem bL{M:gm}(h:cj M){cols mb k:Int}{v:Int×Int}(hv:bI v):cj (aV M cols mb k v):=G0 h hv
theorem fh{M:gm}(h:cj M){cols mb:Int}{v:Nat->Int×Int}(hv:∀k,bI (v k)):cj (si M cols mb v):=bL (bL (bL (bL h (hv 0)) (hv 1)) (hv 2)) (hv 3)
theorem dV{S:bm}{m:Mb}(h:m.kind≠4):fy S m=S:=if_neg h
theorem o_{S:bm}{m:Mb}(h:m.kind=4):fy S m = {S with qp:=m.qp}:=if_pos h
theorem EN(a b c d:List XC)(e e' e2 e3 e4 e5 e6 e7:TypeId)(cs ds fs gs:List XC)(S S':bm):d9 (.cells a e false false::cE e' cs::(ep S++[.cells c e5 false false,cE e6 fs])) (.cells b e2 false false :: .dead::(ep S'++[.cells d e7 false false,.dead,cE e3 ds,cE e4 gs]))=true:=by
 cases cs<;>cases ds<;>cases fs<;>cases gs<;>simp[d9,ak.live,ak.own,cE]
theorem Fu{B bw:List Bool}{S:bm}{m:Mb}{mb:Int}{x:oD}(hc:bh Tryz.prog 58 [.one (.ptr 2 0),.one (.ptr 0 0),.one (.ptr 22 0),.one (.int .i64 mb),.agg (mC m)] (aN 1 B::aq B::(ep S++[aN 23 bw,aq bw])) (.one (.int .i64 0)) (aN 24 (fj x) :: .dead::(ep x.S++[aN 25 (dq bw x 6),.dead,aq (fj x),aq (dq bw x 6)])))
 {HS:aj} {k:Nat}(hi:HS[0]? = some (aN k B)) (hk:HS[k]? = some (aq B)) (hS:(HS.drop 2).take 20=ep S) (h22:HS[22]? = some (aN 23 bw)) (h23:HS[23]? = some (aq bw)) (hd:(k==1||Nat.ble 24 k)=true) {N:Nat}(hN:HS.length=N) (hbd:Nat.blt (N+2) Mem.bound=true) :
 aG.Sound Tryz.prog ⟨58,[.one (.ptr 2 0),.one (.ptr 0 0),.one (.ptr 22 0),.one (.int .i64 mb),.agg (mC m)],HS,.one (.int .i64 0),bK HS ((0::k::bR)++[22,23]) (aN N (fj x) :: .dead::(ep x.S++[aN (N+1) (dq bw x 6),.dead,aq (fj x),aq (dq bw x 6)])),(0::k::bR)++[22,23]⟩:=by
 subst hN
 have hkk:k=1\/24<=k:=by simpa [Nat.ble_eq]using hd
 have nd0:=r9 (k:=k) (by omega)
 have nd:((0::k::bR)++[22,23]).Nodup:=by
  refine List.nodup_append.2 ⟨nd0,by decide,fun a ha b hb=>?_⟩
  have hb':b=22\/b=23:=by simpa using hb
  simp only[bR,List.mem_cons,List.not_mem_nil,or_false]at ha
  omega
 have ht:∀j,2<=j->j<22->nth ((0::k::bR)++[22,23]) j=j:=nS k _
 have ht':∀j,2<=j->j<22->nth (((0::k::bR)++[22,23])++List.range' HS.length 2) j=j:=fun j h1 h2=>by
  rw[List.append_assoc];exact nS k _ j h1 h2
 have hv:=pU S ht hS (ls:=[22,23]) (l:=[aN 23 bw,aq bw]) (ae.ij h22 rfl rfl rfl (.flat h23 .nil))
 have ho:=gK S 24 (by omega) (l:=[aN 23 bw,aq bw]) (.cons (by simp[ak.b7,XC.ok,aZ]) (.flat .nil))
 have ho':=gK x.S 26 (by omega) (l:=[aN 25 (dq bw x 6),.dead,aq (fj x),aq (dq bw x 6)]) (.cons (by simp[ak.b7,XC.ok,aZ]) (.flat (.flat (.flat .nil))))
 have hr:=r8 x.S ht' (l:=[aN 25 (dq bw x 6),.dead,aq (fj x),aq (dq bw x 6)]) (l':=[aN (HS.length+1) (dq bw x 6),.dead,aq (fj x),aq (dq bw x 6)]) (.cons (by simp only[ak.ay,List.map_cons,List.map_nil,XC.ay,aB];rfl) (.flat (.flat (.flat .nil))))
 have hlen:(bK HS ((0::k::bR)++[22,23]) (aN HS.length (fj x) :: .dead::(ep x.S++[aN (HS.length+1) (dq bw x 6),.dead,aq (fj x),aq (dq bw x 6)]))).length=HS.length+2:=rR _ _ _ (by show 24<=26;omega)
 refine bO ((0::k::bR)++[22,23]) ((0::k::bR)++[22,23]) 2 hc nd (ae.ij hi rfl rfl rfl (.flat hk hv)) (.cons (by simp[ak.b7,XC.ok,aZ]) (.flat ho)) (.cons (by simp[ak.b7,XC.ok,aZ]) (.flat ho')) rfl (.cons (by show 2<24;omega) (.cons (by show 0<24;omega) (.cons (by show 22<24;omega) (.flat (.flat .nil))))) (.cons rfl (.cons rfl (.cons rfl (.flat (.flat .nil))))) (bE.ok _) (bE.ay _) ?_ (EN ..) rfl rfl (by rw[hlen];exact hbd) (.inl rfl)
 exact .cons (by simp only[ak.ay,List.map_cons,List.map_nil,XC.ay,aB];rfl) (.flat hr)
abbrev om:aj:=[.dead,.dead,.dead,bM 4 8 12,aw 5 6 7 cM,aR cM,aT cM,aS cM,aw 9 10 11 cZ,aR cZ,aT cZ,aS cZ,aw 13 14 15 cP,aR cP,aT cP,aS cP,.dead,.dead,.dead,.dead,.dead,.dead,.dead,.dead]
theorem BC(c a:List XC)(e e' e5 e6:TypeId)(cs fs:List XC)(S:bm):d9 (.cells a e false false::cE e' cs::(ep S++[.cells c e5 false false,cE e6 fs])) om=true:=by
 cases cs<;>cases fs<;>simp[d9,ak.live,ak.own,cE]
theorem CD{B bw:List Bool}{S:bm}{m:Mb}{mb:Int}(hc:bh Tryz.prog 58 [.one (.ptr 2 0),.one (.ptr 0 0),.one (.ptr 22 0),.one (.int .i64 mb),.agg (mC m)] (aN 1 B::aq B::(ep S++[aN 23 bw,aq bw])) (.one (.int .i64 2)) om)
 {HS:aj} {k:Nat}(hi:HS[0]? = some (aN k B)) (hk:HS[k]? = some (aq B)) (hS:(HS.drop 2).take 20=ep S) (h22:HS[22]? = some (aN 23 bw)) (h23:HS[23]? = some (aq bw)) (hd:(k==1||Nat.ble 24 k)=true) {N:Nat}(hN:HS.length=N) (hbd:Nat.blt N Mem.bound=true) :
 aG.Sound Tryz.prog ⟨58,[.one (.ptr 2 0),.one (.ptr 0 0),.one (.ptr 22 0),.one (.int .i64 mb),.agg (mC m)],HS,.one (.int .i64 2),bK HS ((0::k::bR)++[22,23]) om,(0::k::bR)++[22,23]⟩:=by
 subst hN
 have hkk:k=1\/24<=k:=by simpa [Nat.ble_eq]using hd
 have nd0:=r9 (k:=k) (by omega)
 have nd:((0::k::bR)++[22,23]).Nodup:=by
  refine List.nodup_append.2 ⟨nd0,by decide,fun a ha b hb=>?_⟩
  have hb':b=22\/b=23:=by simpa using hb
  simp only[bR,List.mem_cons,List.not_mem_nil,or_false]at ha
  omega
 have ht:∀j,2<=j->j<22->nth ((0::k::bR)++[22,23]) j=j:=nS k _
 have ht':∀j,2<=j->j<22->nth (((0::k::bR)++[22,23])++List.range' HS.length 0) j=j:=fun j h1 h2=>by
  rw[List.append_assoc];exact nS k _ j h1 h2
 have hv:=pU S ht hS (ls:=[22,23]) (l:=[aN 23 bw,aq bw]) (ae.ij h22 rfl rfl rfl (.flat h23 .nil))
 have ho:=gK S 24 (by omega) (l:=[aN 23 bw,aq bw]) (.cons (by simp[ak.b7,XC.ok,aZ]) (.flat .nil))
 have h4:=ht' 4 (by omega) (by omega)
 have h5:=ht' 5 (by omega) (by omega)
 have h6:=ht' 6 (by omega) (by omega)
 have h7:=ht' 7 (by omega) (by omega)
 have h8:=ht' 8 (by omega) (by omega)
 have h9:=ht' 9 (by omega) (by omega)
 have h10:=ht' 10 (by omega) (by omega)
 have h11:=ht' 11 (by omega) (by omega)
 have h12:=ht' 12 (by omega) (by omega)
 have h13:=ht' 13 (by omega) (by omega)
 have h14:=ht' 14 (by omega) (by omega)
 have h15:=ht' 15 (by omega) (by omega)
 have hlen:(bK HS ((0::k::bR)++[22,23]) om).length=HS.length:=by
  rw[rR _ _ _ (by show 24<=24;omega)]
  show HS.length+(24-24)=_
  omega
 have hk':bc 24 om:=by
  refine .flat (.flat (.flat (.cons ?_ (.cons ?_ (.flat (.flat (.flat (.cons ?_ (.flat (.flat (.flat (.cons ?_ (.flat (.flat (.flat (.flat (.flat (.flat (.flat (.flat (.flat (.flat (.flat .nil)))))))))))))))))))))))
  all_goals simp[ak.b7,XC.ok]
 refine bO ((0::k::bR)++[22,23]) ((0::k::bR)++[22,23]) 0 hc nd (ae.ij hi rfl rfl rfl (.flat hk hv)) (.cons (by simp[ak.b7,XC.ok,aZ]) (.flat ho)) hk' rfl (.cons (by show 2<24;omega) (.cons (by show 0<24;omega) (.cons (by show 22<24;omega) (.flat (.flat .nil))))) (.cons rfl (.cons rfl (.cons rfl (.flat (.flat .nil))))) (bE.ok _) (bE.ay _) ?_ (BC ..) rfl rfl (by rw[hlen];exact hbd) (.inl rfl)
 refine .flat (.flat (.flat (.cons ?_ (.cons ?_ (.flat (.flat (.flat (.cons ?_ (.flat (.flat (.flat (.cons ?_ (.flat (.flat (.flat (.flat (.flat (.flat (.flat (.flat (.flat (.flat (.flat .nil)))))))))))))))))))))))
 all_goals simp only[ak.ay,List.map_cons,List.map_nil,XC.ay, *]
theorem pG{B bw:List Bool}{S:bm}{m:Mb}{mb:Int}{x:oD}(hc:bh Tryz.prog 58 [.one (.ptr 2 0),.one (.ptr 0 0),.one (.ptr 22 0),.one (.int .i64 mb),.agg (mC m)] [aN 1 B,aq B,dJ (S),bM 4 8 12,aw 5 6 7 cM,aR cM,aT cM,aS cM,aw 9 10 11 cZ,aR cZ,aT cZ,aS cZ,aw 13 14 15 cP,aR cP,aT cP,aS cP,cn 17 (S).cols (S).rows,.map (ba (S).M),.cells [.int .i64 (S).cols,.int .i64 (S).rows,.map 19,.map 20,.map 21] 171 false false,.map (ag (S).A),.map (ag (S).B),.map (ag (S).C),aN 23 bw,aq bw] (.one (.int .i64 0)) [aN 24 (fj x),.dead,dJ (x.S),bM 4 8 12,aw 5 6 7 cM,aR cM,aT cM,aS cM,aw 9 10 11 cZ,aR cZ,aT cZ,aS cZ,aw 13 14 15 cP,aR cP,aT cP,aS cP,cn 17 (x.S).cols (x.S).rows,.map (ba (x.S).M),.cells [.int .i64 (x.S).cols,.int .i64 (x.S).rows,.map 19,.map 20,.map 21] 171 false false,.map (ag (x.S).A),.map (ag (x.S).B),.map (ag (x.S).C),aN 25 (dq bw x 6),.dead,aq (fj x),aq (dq bw x 6)])
 {HS:aj} {k:Nat}(hi:HS[0]? = some (aN k B)) (hk:HS[k]? = some (aq B)) (hS:(HS.drop 2).take 20=ep S) (h22:HS[22]? = some (aN 23 bw)) (h23:HS[23]? = some (aq bw)) (hd:(k==1||Nat.ble 24 k)=true) {N:Nat}(hN:HS.length=N) {HS':aj}(hh:bK HS [0,k,2,3,4,5,6,7,8,9,10,11,12,13,14,15,16,17,18,19,20,21,22,23] [aN N (fj x),.dead,dJ (x.S),bM 4 8 12,aw 5 6 7 cM,aR cM,aT cM,aS cM,aw 9 10 11 cZ,aR cZ,aT cZ,aS cZ,aw 13 14 15 cP,aR cP,aT cP,aS cP,cn 17 (x.S).cols (x.S).rows,.map (ba (x.S).M),.cells [.int .i64 (x.S).cols,.int .i64 (x.S).rows,.map 19,.map 20,.map 21] 171 false false,.map (ag (x.S).A),.map (ag (x.S).B),.map (ag (x.S).C),aN (N+1) (dq bw x 6),.dead,aq (fj x),aq (dq bw x 6)]=HS') (hbd:Nat.blt (N+2) Mem.bound=true) :
 aG.Sound Tryz.prog ⟨58,[.one (.ptr 2 0),.one (.ptr 0 0),.one (.ptr 22 0),.one (.int .i64 mb),.agg (mC m)],HS,.one (.int .i64 0),HS',(0::k::bR)++[22,23]⟩:=by
 subst hh
 exact Fu hc hi hk hS h22 h23 hd hN hbd
theorem nu{B bw:List Bool}{S:bm}{m:Mb}{mb:Int}(hc:bh Tryz.prog 58 [.one (.ptr 2 0),.one (.ptr 0 0),.one (.ptr 22 0),.one (.int .i64 mb),.agg (mC m)] [aN 1 B,aq B,dJ (S),bM 4 8 12,aw 5 6 7 cM,aR cM,aT cM,aS cM,aw 9 10 11 cZ,aR cZ,aT cZ,aS cZ,aw 13 14 15 cP,aR cP,aT cP,aS cP,cn 17 (S).cols (S).rows,.map (ba (S).M),.cells [.int .i64 (S).cols,.int .i64 (S).rows,.map 19,.map 20,.map 21] 171 false false,.map (ag (S).A),.map (ag (S).B),.map (ag (S).C),aN 23 bw,aq bw] (.one (.int .i64 2)) om)
 {HS:aj} {k:Nat}(hi:HS[0]? = some (aN k B)) (hk:HS[k]? = some (aq B)) (hS:(HS.drop 2).take 20=ep S) (h22:HS[22]? = some (aN 23 bw)) (h23:HS[23]? = some (aq bw)) (hd:(k==1||Nat.ble 24 k)=true) {N:Nat}(hN:HS.length=N) {HS':aj}(hh:bK HS [0,k,2,3,4,5,6,7,8,9,10,11,12,13,14,15,16,17,18,19,20,21,22,23] [.dead,.dead,.dead,bM 4 8 12,aw 5 6 7 cM,aR cM,aT cM,aS cM,aw 9 10 11 cZ,aR cZ,aT cZ,aS cZ,aw 13 14 15 cP,aR cP,aT cP,aS cP,.dead,.dead,.dead,.dead,.dead,.dead,.dead,.dead]=HS') (hbd:Nat.blt N Mem.bound=true) :
 aG.Sound Tryz.prog ⟨58,[.one (.ptr 2 0),.one (.ptr 0 0),.one (.ptr 22 0),.one (.int .i64 mb),.agg (mC m)],HS,.one (.int .i64 2),HS',(0::k::bR)++[22,23]⟩:=by
 subst hh
 exact CD hc hi hk hS h22 h23 hd hN hbd
end Go.Proofs.YtagpkhindehcbaaGreat
