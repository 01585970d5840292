/-
  A part of the proof: Blocks2, Put0.
-/
import Derived.Test.YtagpkhindehcbaaGreatKcQ
import Derived.Test.YtagpkhindehcbaaGreatKcS
set_option maxRecDepth 10000
set_option maxHeartbeats 8000000
set_option linter.unusedVariables false
set_option linter.unusedSectionVars false
set_option linter.unusedSimpArgs false
namespace Go.Proofs.YtagpkhindehcbaaGreat
open Go.Xm
variable [az]
theorem mA (bs bw:List Bool) (S:bz) (m:Mb) (mb:Int) (hg:j9 m) (hS:iy S) (hmb:0≤mb∧mb<S.cols*S.rows) (hb:bs.length≤700000) (hbw:bw.length≤700000) (hx:fY m mb ⟨S,bs,0,0,fun _=>[]⟩ 6=none) :
 bt Tryz.prog 58 [.one (.ptr 2 0),.one (.ptr 0 0),.one (.ptr 22 0),.one (.int .i64 mb),.agg (mC m)] [aQ 1 bs,av bs,dw (S),bR 4 8 12,ay 5 6 7 cM,aX cM,aZ cM,aY cM,ay 9 10 11 cZ,aX cZ,aZ cZ,aY cZ,ay 13 14 15 cP,aX cP,aZ cP,aY cP,ch 17 (S).cols (S).rows,.map (bg (S).M),.cells [.int .i64 (S).cols,.int .i64 (S).rows,.map 19,.map 20,.map 21] 171 false false,.map (ah (S).A),.map (ah (S).B),.map (ah (S).C),aQ 23 bw,av bw] (.one (.int .i64 2)) [.dead,.dead,.dead,bR 4 8 12,ay 5 6 7 cM,aX cM,aZ cM,aY cM,ay 9 10 11 cZ,aX cZ,aZ cZ,aY cZ,ay 13 14 15 cP,aX cP,aZ cP,aY cP,.dead,.dead,.dead,.dead,.dead,.dead,.dead,.dead]:=by
 have hm:=hg.ok
 refine cO Tryz.func58 ?_
 repeat' (first
  |(refine qz ?_;first
   |refine rS (cs:=ti .i64 384 m.lev) ?_ (hle:=by rw [aF];decide) (hc:=AM m))
  |refine zz ?_|refine zx (fun _=>?_) (fun _=>?_)|fail)
 refine WX.dp (σ:=Nat × pq) (fun s=>[(26,.one (.int .i64 (s.1:Nat))),(12,.one (.int .i64 s.2.pat)),(13,.one (.int .u64 s.2.col)),(0,.one (.ptr 2 0)),(1,.one (.ptr 0 0)),(2,.one (.ptr 22 0)),(3,.one (.int .i64 mb)),(9,.one (.ptr 25 0)),(11,.one (.ptr 26 0)),(25,.agg (ti .i64 384 m.lev))])
  (fun s=>[aQ 24 s.2.B,.dead,dw (s.2.S),bR 4 8 12,ay 5 6 7 cM,aX cM,aZ cM,aY cM,ay 9 10 11 cZ,aX cZ,aZ cZ,aY cZ,ay 13 14 15 cP,aX cP,aZ cP,aY cP,ch 17 (s.2.S).cols (s.2.S).rows,.map (bg (s.2.S).M),.cells [.int .i64 (s.2.S).cols,.int .i64 (s.2.S).rows,.map 19,.map 20,.map 21] 171 false false,.map (ah (s.2.S).A),.map (ah (s.2.S).B),.map (ah (s.2.S).C),aQ 23 bw,av bw,av s.2.B,lF m,M1 s.2.ev,ee (s.2.ev 0),ee (s.2.ev 1),ee (s.2.ev 2),ee (s.2.ev 3),ee (s.2.ev 4),ee (s.2.ev 5)]) (z6 m mb ⟨S,bs,0,0,fun _=>[]⟩) (fun s=>6-s.1) (0,⟨S,bs,0,0,fun _=>[]⟩) ⟨by show 0≤6;omega,rfl,hS,⟨rfl,rfl⟩,by show bs.length≤bs.length+76*0;omega,fun _ _=>rfl,fun _ => .inl rfl,⟨by show(0:Int)≤0;omega,by show(0:Int)<16;omega⟩,⟨by show(0:Int)≤0;omega,by show(0:Int)<4;omega⟩⟩ (fun s _=>kS) (bm [0,1,2,3,4,5,6,7,8,9,10,11,12,13,14,15,16,17,18,19,20,21,22,23,1,24,25,0,0,0,0,0,0] (obj:=by(repeat' (first|exact ae.nil|refine ae.a_ rfl rfl rfl rfl ?_|refine ae.flat rfl ?_|refine ae.cons rfl ?_|refine ae.dead rfl ?_|refine ae.cons (by simp only [aj.au,List.map_cons,List.map_nil,XC.au,aq];exact rfl) ?_));first|done|fail)) ?_
 intro s hs ih
 have hD:=hs.st.dims
 have hmb':0≤mb∧mb<s.2.S.cols*s.2.S.rows:=by rw [hs.cr.1,hs.cr.2];exact hmb
 have hpat:=hs.pat
 have hcol:=hs.col
 have hlen:s.2.B.length≤bs.length+76*s.1:=hs.len
 by_cases h6:s.1<6
 · cases ha : alone m
   · have er:gF m s.2.S mb s.1=some (aA m s.1):=by
      unfold gF
      rw [if_neg (by rw [ha];decide)]
     have hN:=lM hg hs h6 er
     obtain⟨EV,hEV⟩:∃ EV,eP (gH (dt m.edge (aL s.2.S mb s.1 m.qp).1) (aA m s.1)) 0=EV:=⟨_,rfl⟩
     have eEV:nE m s.2.S mb s.1 (aA m s.1)=EV:=by
      unfold nE
      rw [if_neg (by rw [ha];decide)]
      exact hEV
     rw [eEV]at hN
     repeat' (first
      |(refine qz ?_;first
       |refine yC (n:=384) ?_
       |refine i9 ?_ (hs1:=by rw [aE]) (hs2:=by rw [aE])
       |refine fy ?_ (hle:=by first|rw [aE]|rw [aF])
       |refine cl ?_ (hi:=by exact hY (S:=s.2.S) (mb:=mb) (k:=(s.1:Nat)) (q:=m.qp) hD hmb' (by omega) rfl rfl rfl rfl rfl)
       |refine cl ?_ (hi:=by exact gS ha rfl)
       |refine cl ?_ (hi:=by exact jI rfl)
       |refine cl ?_ (hi:=by exact oO (f:=aA m s.1) (ej _ _) rfl)
       |refine cl (v := .one (.int .i64 0)) ?_ (hi:=by exact l5 ha rfl)
       |refine cl ?_ (hi:=by exact oK hEV rfl (by decide) nL nA rfl)
       |refine st ?_ (hle:=by exact h6) (hv:=rfl)
       |refine ld (hc:=by exact List.getElem?_set_self (by exact h6)) ?_)
      |refine zz ?_|refine zx (fun _=>?_) (fun _=>?_)|fail)
     · rename_i g0 g1
       have hE:cx m mb s.1 s.2 EV=⟨s.2.S,s.2.B,eF s.2.pat s.1,s.2.col,fun j=>if j=s.1 then EV else s.2.ev j⟩:=by
        unfold cx
        rw [if_neg (by rw [ha];decide),if_neg (by rw [ha];decide),if_pos (by omega),if_neg (by omega)]
       rw [hE]at hN
       rcases(show s.1=0∨s.1=1∨s.1=2∨s.1=3 by omega)with hk|hk|hk|hk
       · rw [hk]at hN ⊢
         refine ih (1,⟨s.2.S,s.2.B,eF s.2.pat 0,s.2.col,fun j=>if j=0 then EV else s.2.ev j⟩) _ _ _ (bm [0,1,2,3,4,5,6,7,8,9,10,11,12,13,14,15,16,17,18,19,20,21,22,23,24,25,26,35,28,29,30,31,32] (obj:=by(repeat' (first|exact ae.nil|refine ae.a_ rfl rfl rfl rfl ?_|refine ae.flat rfl ?_|refine ae.cons rfl ?_|refine ae.dead rfl ?_|refine ae.cons (by simp only [aj.au,List.map_cons,List.map_nil,XC.au,aq];exact rfl) ?_));first|done|fail)) hN (by show 6-1<6-s.1;omega)
       · rw [hk]at hN ⊢
         refine ih (2,⟨s.2.S,s.2.B,eF s.2.pat 1,s.2.col,fun j=>if j=1 then EV else s.2.ev j⟩) _ _ _ (bm [0,1,2,3,4,5,6,7,8,9,10,11,12,13,14,15,16,17,18,19,20,21,22,23,24,25,26,27,35,29,30,31,32] (obj:=by(repeat' (first|exact ae.nil|refine ae.a_ rfl rfl rfl rfl ?_|refine ae.flat rfl ?_|refine ae.cons rfl ?_|refine ae.dead rfl ?_|refine ae.cons (by simp only [aj.au,List.map_cons,List.map_nil,XC.au,aq];exact rfl) ?_));first|done|fail)) hN (by show 6-2<6-s.1;omega)
       · rw [hk]at hN ⊢
         refine ih (3,⟨s.2.S,s.2.B,eF s.2.pat 2,s.2.col,fun j=>if j=2 then EV else s.2.ev j⟩) _ _ _ (bm [0,1,2,3,4,5,6,7,8,9,10,11,12,13,14,15,16,17,18,19,20,21,22,23,24,25,26,27,28,35,30,31,32] (obj:=by(repeat' (first|exact ae.nil|refine ae.a_ rfl rfl rfl rfl ?_|refine ae.flat rfl ?_|refine ae.cons rfl ?_|refine ae.dead rfl ?_|refine ae.cons (by simp only [aj.au,List.map_cons,List.map_nil,XC.au,aq];exact rfl) ?_));first|done|fail)) hN (by show 6-3<6-s.1;omega)
       · rw [hk]at hN ⊢
         refine ih (4,⟨s.2.S,s.2.B,eF s.2.pat 3,s.2.col,fun j=>if j=3 then EV else s.2.ev j⟩) _ _ _ (bm [0,1,2,3,4,5,6,7,8,9,10,11,12,13,14,15,16,17,18,19,20,21,22,23,24,25,26,27,28,29,35,31,32] (obj:=by(repeat' (first|exact ae.nil|refine ae.a_ rfl rfl rfl rfl ?_|refine ae.flat rfl ?_|refine ae.cons rfl ?_|refine ae.dead rfl ?_|refine ae.cons (by simp only [aj.au,List.map_cons,List.map_nil,XC.au,aq];exact rfl) ?_));first|done|fail)) hN (by show 6-4<6-s.1;omega)
     · rename_i g0 g1
       have hE:cx m mb s.1 s.2 EV=⟨s.2.S,s.2.B,s.2.pat,ib s.2.col s.1,fun j=>if j=s.1 then EV else s.2.ev j⟩:=by
        unfold cx
        rw [if_neg (by rw [ha];decide),if_neg (by rw [ha];decide),if_neg (by omega),if_pos (by omega)]
       rw [hE]at hN
       rcases(show s.1=4∨s.1=5 by omega)with hk|hk
       · rw [hk]at hN ⊢
         refine ih (5,⟨s.2.S,s.2.B,s.2.pat,ib s.2.col 4,fun j=>if j=4 then EV else s.2.ev j⟩) _ _ _ (bm [0,1,2,3,4,5,6,7,8,9,10,11,12,13,14,15,16,17,18,19,20,21,22,23,24,25,26,27,28,29,30,35,32] (obj:=by(repeat' (first|exact ae.nil|refine ae.a_ rfl rfl rfl rfl ?_|refine ae.flat rfl ?_|refine ae.cons rfl ?_|refine ae.dead rfl ?_|refine ae.cons (by simp only [aj.au,List.map_cons,List.map_nil,XC.au,aq];exact rfl) ?_));first|done|fail)) hN (by show 6-5<6-s.1;omega)
       · rw [hk]at hN ⊢
         refine ih (6,⟨s.2.S,s.2.B,s.2.pat,ib s.2.col 5,fun j=>if j=5 then EV else s.2.ev j⟩) _ _ _ (bm [0,1,2,3,4,5,6,7,8,9,10,11,12,13,14,15,16,17,18,19,20,21,22,23,24,25,26,27,28,29,30,31,35] (obj:=by(repeat' (first|exact ae.nil|refine ae.a_ rfl rfl rfl rfl ?_|refine ae.flat rfl ?_|refine ae.cons rfl ?_|refine ae.dead rfl ?_|refine ae.cons (by simp only [aj.au,List.map_cons,List.map_nil,XC.au,aq];exact rfl) ?_));first|done|fail)) hN (by show 6-6<6-s.1;omega)
     · rename_i g0
       have hE:cx m mb s.1 s.2 EV=⟨s.2.S,s.2.B,s.2.pat,s.2.col,fun j=>if j=s.1 then EV else s.2.ev j⟩:=by
        unfold cx
        rw [if_neg (by rw [ha];decide),if_neg (by rw [ha];decide),if_neg (by omega),if_neg (by omega)]
       rw [hE]at hN
       rcases(show s.1=0∨s.1=1∨s.1=2∨s.1=3∨s.1=4∨s.1=5 by omega)with hk|hk|hk|hk|hk|hk
       · rw [hk]at hN ⊢
         refine ih (1,⟨s.2.S,s.2.B,s.2.pat,s.2.col,fun j=>if j=0 then EV else s.2.ev j⟩) _ _ _ (bm [0,1,2,3,4,5,6,7,8,9,10,11,12,13,14,15,16,17,18,19,20,21,22,23,24,25,26,35,28,29,30,31,32] (obj:=by(repeat' (first|exact ae.nil|refine ae.a_ rfl rfl rfl rfl ?_|refine ae.flat rfl ?_|refine ae.cons rfl ?_|refine ae.dead rfl ?_|refine ae.cons (by simp only [aj.au,List.map_cons,List.map_nil,XC.au,aq];exact rfl) ?_));first|done|fail)) hN (by show 6-1<6-s.1;omega)
       · rw [hk]at hN ⊢
         refine ih (2,⟨s.2.S,s.2.B,s.2.pat,s.2.col,fun j=>if j=1 then EV else s.2.ev j⟩) _ _ _ (bm [0,1,2,3,4,5,6,7,8,9,10,11,12,13,14,15,16,17,18,19,20,21,22,23,24,25,26,27,35,29,30,31,32] (obj:=by(repeat' (first|exact ae.nil|refine ae.a_ rfl rfl rfl rfl ?_|refine ae.flat rfl ?_|refine ae.cons rfl ?_|refine ae.dead rfl ?_|refine ae.cons (by simp only [aj.au,List.map_cons,List.map_nil,XC.au,aq];exact rfl) ?_));first|done|fail)) hN (by show 6-2<6-s.1;omega)
       · rw [hk]at hN ⊢
         refine ih (3,⟨s.2.S,s.2.B,s.2.pat,s.2.col,fun j=>if j=2 then EV else s.2.ev j⟩) _ _ _ (bm [0,1,2,3,4,5,6,7,8,9,10,11,12,13,14,15,16,17,18,19,20,21,22,23,24,25,26,27,28,35,30,31,32] (obj:=by(repeat' (first|exact ae.nil|refine ae.a_ rfl rfl rfl rfl ?_|refine ae.flat rfl ?_|refine ae.cons rfl ?_|refine ae.dead rfl ?_|refine ae.cons (by simp only [aj.au,List.map_cons,List.map_nil,XC.au,aq];exact rfl) ?_));first|done|fail)) hN (by show 6-3<6-s.1;omega)
       · rw [hk]at hN ⊢
         refine ih (4,⟨s.2.S,s.2.B,s.2.pat,s.2.col,fun j=>if j=3 then EV else s.2.ev j⟩) _ _ _ (bm [0,1,2,3,4,5,6,7,8,9,10,11,12,13,14,15,16,17,18,19,20,21,22,23,24,25,26,27,28,29,35,31,32] (obj:=by(repeat' (first|exact ae.nil|refine ae.a_ rfl rfl rfl rfl ?_|refine ae.flat rfl ?_|refine ae.cons rfl ?_|refine ae.dead rfl ?_|refine ae.cons (by simp only [aj.au,List.map_cons,List.map_nil,XC.au,aq];exact rfl) ?_));first|done|fail)) hN (by show 6-4<6-s.1;omega)
       · rw [hk]at hN ⊢
         refine ih (5,⟨s.2.S,s.2.B,s.2.pat,s.2.col,fun j=>if j=4 then EV else s.2.ev j⟩) _ _ _ (bm [0,1,2,3,4,5,6,7,8,9,10,11,12,13,14,15,16,17,18,19,20,21,22,23,24,25,26,27,28,29,30,35,32] (obj:=by(repeat' (first|exact ae.nil|refine ae.a_ rfl rfl rfl rfl ?_|refine ae.flat rfl ?_|refine ae.cons rfl ?_|refine ae.dead rfl ?_|refine ae.cons (by simp only [aj.au,List.map_cons,List.map_nil,XC.au,aq];exact rfl) ?_));first|done|fail)) hN (by show 6-5<6-s.1;omega)
       · rw [hk]at hN ⊢
         refine ih (6,⟨s.2.S,s.2.B,s.2.pat,s.2.col,fun j=>if j=5 then EV else s.2.ev j⟩) _ _ _ (bm [0,1,2,3,4,5,6,7,8,9,10,11,12,13,14,15,16,17,18,19,20,21,22,23,24,25,26,27,28,29,30,31,35] (obj:=by(repeat' (first|exact ae.nil|refine ae.a_ rfl rfl rfl rfl ?_|refine ae.flat rfl ?_|refine ae.cons rfl ?_|refine ae.dead rfl ?_|refine ae.cons (by simp only [aj.au,List.map_cons,List.map_nil,XC.au,aq];exact rfl) ?_));first|done|fail)) hN (by show 6-6<6-s.1;omega)
   · cases he:m.edge
     · have he':m.edge=false:=he
       have hl6:(mC m)[6]? = some (.bool false):=congrArg (fun b=>some (XC.bool b)) he'
       have hfr:=j6 s.2.S mb s.1 m.qp
       have hfi:0≤m.lev ((s.1:Int).toNat*64+0)∧m.lev ((s.1:Int).toNat*64+0)≤127:=hg.first ha s.1 h6
       have hdr:=lN hg (S:=s.2.S) (mb:=mb) ha h6
       have er:gF m s.2.S mb s.1=some (cW (aA m s.1) 0 0):=by
        unfold gF
        rw [if_pos ha,if_neg (by rw [he'];decide)];rfl
       have hN:=lM hg hs h6 er
       obtain⟨EV,hEV⟩:∃ EV,eP (gH (dt false (aL s.2.S mb s.1 m.qp).1) (cW (aA m s.1) 0 0)) 1=EV:=⟨_,rfl⟩
       have eEV:nE m s.2.S mb s.1 (cW (aA m s.1) 0 0)=EV:=by
        unfold nE
        rw [if_pos ha,he']
        exact hEV
       rw [eEV]at hN
       repeat' (first
        |(refine qz ?_;first
         |refine ld (hc:=hl6) ?_
         |refine yC (n:=384) ?_
         |refine i9 ?_ (hs1:=by rw [aE]) (hs2:=by rw [aE])
         |refine fy ?_ (hle:=by first|rw [aE]|rw [aF])
         |refine cl ?_ (hi:=by exact hY (S:=s.2.S) (mb:=mb) (k:=(s.1:Nat)) (q:=m.qp) hD hmb' (by omega) rfl rfl rfl rfl rfl)
         |refine cl ?_ (hi:=by exact gS ha rfl)
         |refine cl ?_ (hi:=by exact jI rfl)
         |refine NP ?_ (hi:=by exact k9 (n:=aA m s.1 0-(aL s.2.S mb s.1 m.qp).2) hdr (bs:=s.2.B) (by omega) rfl rfl (S:=s.2.S) rfl rfl nL nA rfl)
         |refine cl ?_ (hi:=by exact k9 (n:=aA m s.1 0-(aL s.2.S mb s.1 m.qp).2) hdr (bs:=s.2.B) (by omega) rfl rfl (S:=s.2.S) rfl rfl nL nA rfl)
         |refine cl ?_ (hi:=by exact lq (S:=s.2.S) (mb:=mb) (k:=(s.1:Nat)) (b:=⟨aA m s.1,m.qp⟩) hD hmb' (by omega) rfl rfl rfl rfl nA rfl)
         |refine cl ?_ (hi:=by exact oO (f:=cW (aA m s.1) 0 0) (ej _ _) rfl)
         |refine cl (v := .one (.int .i64 1)) ?_ (hi:=by exact l5 ha rfl)
         |refine cl ?_ (hi:=by exact oK hEV rfl (by decide) nL nA rfl)
         |refine st ?_ (hle:=by exact h6) (hv:=rfl)
         |refine ld (hc:=by exact List.getElem?_set_self (by exact h6)) ?_)
        |refine zz ?_|refine zx (fun _=>?_) (fun _=>?_)|fail)
       · rename_i g0 g1
         have hE:cx m mb s.1 s.2 EV=⟨aO s.2.S mb s.1 ⟨aA m s.1,m.qp⟩,s.2.B++aW (aA m s.1 0-(aL s.2.S mb s.1 m.qp).2),eF s.2.pat s.1,s.2.col,fun j=>if j=s.1 then EV else s.2.ev j⟩:=by
          unfold cx
          rw [if_pos ha,if_pos ha,if_pos (by omega),if_neg (by omega)]
         rw [hE]at hN
         rcases(show s.1=0∨s.1=1∨s.1=2∨s.1=3 by omega)with hk|hk|hk|hk
         · rw [hk]at hN ⊢
           refine ih (1,⟨aO s.2.S mb 0 ⟨aA m 0,m.qp⟩,s.2.B++aW (aA m 0 0-(aL s.2.S mb 0 m.qp).2),eF s.2.pat 0,s.2.col,fun j=>if j=0 then EV else s.2.ev j⟩) _ _ _ (bm [0,1,2,3,4,5,6,7,8,9,10,11,12,13,14,15,16,17,18,19,20,21,22,23,35,25,26,36,28,29,30,31,32] (obj:=by(repeat' (first|exact ae.nil|refine ae.a_ rfl rfl rfl rfl ?_|refine ae.flat rfl ?_|refine ae.cons rfl ?_|refine ae.dead rfl ?_|refine ae.cons (by simp only [aj.au,List.map_cons,List.map_nil,XC.au,aq];exact rfl) ?_));first|done|fail)) hN (by show 6-1<6-s.1;omega)
         · rw [hk]at hN ⊢
           refine ih (2,⟨aO s.2.S mb 1 ⟨aA m 1,m.qp⟩,s.2.B++aW (aA m 1 0-(aL s.2.S mb 1 m.qp).2),eF s.2.pat 1,s.2.col,fun j=>if j=1 then EV else s.2.ev j⟩) _ _ _ (bm [0,1,2,3,4,5,6,7,8,9,10,11,12,13,14,15,16,17,18,19,20,21,22,23,35,25,26,27,36,29,30,31,32] (obj:=by(repeat' (first|exact ae.nil|refine ae.a_ rfl rfl rfl rfl ?_|refine ae.flat rfl ?_|refine ae.cons rfl ?_|refine ae.dead rfl ?_|refine ae.cons (by simp only [aj.au,List.map_cons,List.map_nil,XC.au,aq];exact rfl) ?_));first|done|fail)) hN (by show 6-2<6-s.1;omega)
         · rw [hk]at hN ⊢
           refine ih (3,⟨aO s.2.S mb 2 ⟨aA m 2,m.qp⟩,s.2.B++aW (aA m 2 0-(aL s.2.S mb 2 m.qp).2),eF s.2.pat 2,s.2.col,fun j=>if j=2 then EV else s.2.ev j⟩) _ _ _ (bm [0,1,2,3,4,5,6,7,8,9,10,11,12,13,14,15,16,17,18,19,20,21,22,23,35,25,26,27,28,36,30,31,32] (obj:=by(repeat' (first|exact ae.nil|refine ae.a_ rfl rfl rfl rfl ?_|refine ae.flat rfl ?_|refine ae.cons rfl ?_|refine ae.dead rfl ?_|refine ae.cons (by simp only [aj.au,List.map_cons,List.map_nil,XC.au,aq];exact rfl) ?_));first|done|fail)) hN (by show 6-3<6-s.1;omega)
         · rw [hk]at hN ⊢
           refine ih (4,⟨aO s.2.S mb 3 ⟨aA m 3,m.qp⟩,s.2.B++aW (aA m 3 0-(aL s.2.S mb 3 m.qp).2),eF s.2.pat 3,s.2.col,fun j=>if j=3 then EV else s.2.ev j⟩) _ _ _ (bm [0,1,2,3,4,5,6,7,8,9,10,11,12,13,14,15,16,17,18,19,20,21,22,23,35,25,26,27,28,29,36,31,32] (obj:=by(repeat' (first|exact ae.nil|refine ae.a_ rfl rfl rfl rfl ?_|refine ae.flat rfl ?_|refine ae.cons rfl ?_|refine ae.dead rfl ?_|refine ae.cons (by simp only [aj.au,List.map_cons,List.map_nil,XC.au,aq];exact rfl) ?_));first|done|fail)) hN (by show 6-4<6-s.1;omega)
       · rename_i g0 g1
         have hE:cx m mb s.1 s.2 EV=⟨aO s.2.S mb s.1 ⟨aA m s.1,m.qp⟩,s.2.B++aW (aA m s.1 0-(aL s.2.S mb s.1 m.qp).2),s.2.pat,ib s.2.col s.1,fun j=>if j=s.1 then EV else s.2.ev j⟩:=by
          unfold cx
          rw [if_pos ha,if_pos ha,if_neg (by omega),if_pos (by omega)]
         rw [hE]at hN
         rcases(show s.1=4∨s.1=5 by omega)with hk|hk
         · rw [hk]at hN ⊢
           refine ih (5,⟨aO s.2.S mb 4 ⟨aA m 4,m.qp⟩,s.2.B++aW (aA m 4 0-(aL s.2.S mb 4 m.qp).2),s.2.pat,ib s.2.col 4,fun j=>if j=4 then EV else s.2.ev j⟩) _ _ _ (bm [0,1,2,3,4,5,6,7,8,9,10,11,12,13,14,15,16,17,18,19,20,21,22,23,35,25,26,27,28,29,30,36,32] (obj:=by(repeat' (first|exact ae.nil|refine ae.a_ rfl rfl rfl rfl ?_|refine ae.flat rfl ?_|refine ae.cons rfl ?_|refine ae.dead rfl ?_|refine ae.cons (by simp only [aj.au,List.map_cons,List.map_nil,XC.au,aq];exact rfl) ?_));first|done|fail)) hN (by show 6-5<6-s.1;omega)
         · rw [hk]at hN ⊢
           refine ih (6,⟨aO s.2.S mb 5 ⟨aA m 5,m.qp⟩,s.2.B++aW (aA m 5 0-(aL s.2.S mb 5 m.qp).2),s.2.pat,ib s.2.col 5,fun j=>if j=5 then EV else s.2.ev j⟩) _ _ _ (bm [0,1,2,3,4,5,6,7,8,9,10,11,12,13,14,15,16,17,18,19,20,21,22,23,35,25,26,27,28,29,30,31,36] (obj:=by(repeat' (first|exact ae.nil|refine ae.a_ rfl rfl rfl rfl ?_|refine ae.flat rfl ?_|refine ae.cons rfl ?_|refine ae.dead rfl ?_|refine ae.cons (by simp only [aj.au,List.map_cons,List.map_nil,XC.au,aq];exact rfl) ?_));first|done|fail)) hN (by show 6-6<6-s.1;omega)
       · rename_i g0
         have hE:cx m mb s.1 s.2 EV=⟨aO s.2.S mb s.1 ⟨aA m s.1,m.qp⟩,s.2.B++aW (aA m s.1 0-(aL s.2.S mb s.1 m.qp).2),s.2.pat,s.2.col,fun j=>if j=s.1 then EV else s.2.ev j⟩:=by
          unfold cx
          rw [if_pos ha,if_pos ha,if_neg (by omega),if_neg (by omega)]
         rw [hE]at hN
         rcases(show s.1=0∨s.1=1∨s.1=2∨s.1=3∨s.1=4∨s.1=5 by omega)with hk|hk|hk|hk|hk|hk
         · rw [hk]at hN ⊢
           refine ih (1,⟨aO s.2.S mb 0 ⟨aA m 0,m.qp⟩,s.2.B++aW (aA m 0 0-(aL s.2.S mb 0 m.qp).2),s.2.pat,s.2.col,fun j=>if j=0 then EV else s.2.ev j⟩) _ _ _ (bm [0,1,2,3,4,5,6,7,8,9,10,11,12,13,14,15,16,17,18,19,20,21,22,23,35,25,26,36,28,29,30,31,32] (obj:=by(repeat' (first|exact ae.nil|refine ae.a_ rfl rfl rfl rfl ?_|refine ae.flat rfl ?_|refine ae.cons rfl ?_|refine ae.dead rfl ?_|refine ae.cons (by simp only [aj.au,List.map_cons,List.map_nil,XC.au,aq];exact rfl) ?_));first|done|fail)) hN (by show 6-1<6-s.1;omega)
         · rw [hk]at hN ⊢
           refine ih (2,⟨aO s.2.S mb 1 ⟨aA m 1,m.qp⟩,s.2.B++aW (aA m 1 0-(aL s.2.S mb 1 m.qp).2),s.2.pat,s.2.col,fun j=>if j=1 then EV else s.2.ev j⟩) _ _ _ (bm [0,1,2,3,4,5,6,7,8,9,10,11,12,13,14,15,16,17,18,19,20,21,22,23,35,25,26,27,36,29,30,31,32] (obj:=by(repeat' (first|exact ae.nil|refine ae.a_ rfl rfl rfl rfl ?_|refine ae.flat rfl ?_|refine ae.cons rfl ?_|refine ae.dead rfl ?_|refine ae.cons (by simp only [aj.au,List.map_cons,List.map_nil,XC.au,aq];exact rfl) ?_));first|done|fail)) hN (by show 6-2<6-s.1;omega)
         · rw [hk]at hN ⊢
           refine ih (3,⟨aO s.2.S mb 2 ⟨aA m 2,m.qp⟩,s.2.B++aW (aA m 2 0-(aL s.2.S mb 2 m.qp).2),s.2.pat,s.2.col,fun j=>if j=2 then EV else s.2.ev j⟩) _ _ _ (bm [0,1,2,3,4,5,6,7,8,9,10,11,12,13,14,15,16,17,18,19,20,21,22,23,35,25,26,27,28,36,30,31,32] (obj:=by(repeat' (first|exact ae.nil|refine ae.a_ rfl rfl rfl rfl ?_|refine ae.flat rfl ?_|refine ae.cons rfl ?_|refine ae.dead rfl ?_|refine ae.cons (by simp only [aj.au,List.map_cons,List.map_nil,XC.au,aq];exact rfl) ?_));first|done|fail)) hN (by show 6-3<6-s.1;omega)
         · rw [hk]at hN ⊢
           refine ih (4,⟨aO s.2.S mb 3 ⟨aA m 3,m.qp⟩,s.2.B++aW (aA m 3 0-(aL s.2.S mb 3 m.qp).2),s.2.pat,s.2.col,fun j=>if j=3 then EV else s.2.ev j⟩) _ _ _ (bm [0,1,2,3,4,5,6,7,8,9,10,11,12,13,14,15,16,17,18,19,20,21,22,23,35,25,26,27,28,29,36,31,32] (obj:=by(repeat' (first|exact ae.nil|refine ae.a_ rfl rfl rfl rfl ?_|refine ae.flat rfl ?_|refine ae.cons rfl ?_|refine ae.dead rfl ?_|refine ae.cons (by simp only [aj.au,List.map_cons,List.map_nil,XC.au,aq];exact rfl) ?_));first|done|fail)) hN (by show 6-4<6-s.1;omega)
         · rw [hk]at hN ⊢
           refine ih (5,⟨aO s.2.S mb 4 ⟨aA m 4,m.qp⟩,s.2.B++aW (aA m 4 0-(aL s.2.S mb 4 m.qp).2),s.2.pat,s.2.col,fun j=>if j=4 then EV else s.2.ev j⟩) _ _ _ (bm [0,1,2,3,4,5,6,7,8,9,10,11,12,13,14,15,16,17,18,19,20,21,22,23,35,25,26,27,28,29,30,36,32] (obj:=by(repeat' (first|exact ae.nil|refine ae.a_ rfl rfl rfl rfl ?_|refine ae.flat rfl ?_|refine ae.cons rfl ?_|refine ae.dead rfl ?_|refine ae.cons (by simp only [aj.au,List.map_cons,List.map_nil,XC.au,aq];exact rfl) ?_));first|done|fail)) hN (by show 6-5<6-s.1;omega)
         · rw [hk]at hN ⊢
           refine ih (6,⟨aO s.2.S mb 5 ⟨aA m 5,m.qp⟩,s.2.B++aW (aA m 5 0-(aL s.2.S mb 5 m.qp).2),s.2.pat,s.2.col,fun j=>if j=5 then EV else s.2.ev j⟩) _ _ _ (bm [0,1,2,3,4,5,6,7,8,9,10,11,12,13,14,15,16,17,18,19,20,21,22,23,35,25,26,27,28,29,30,31,36] (obj:=by(repeat' (first|exact ae.nil|refine ae.a_ rfl rfl rfl rfl ?_|refine ae.flat rfl ?_|refine ae.cons rfl ?_|refine ae.dead rfl ?_|refine ae.cons (by simp only [aj.au,List.map_cons,List.map_nil,XC.au,aq];exact rfl) ?_));first|done|fail)) hN (by show 6-6<6-s.1;omega)
     · have he':m.edge=true:=he
       have hl6:(mC m)[6]? = some (.bool true):=congrArg (fun b=>some (XC.bool b)) he'
       have hfr:=j6 s.2.S mb s.1 m.qp
       have hfi:0≤m.lev ((s.1:Int).toNat*64+0)∧m.lev ((s.1:Int).toNat*64+0)≤127:=hg.first ha s.1 h6
       have hdr:=lN hg (S:=s.2.S) (mb:=mb) ha h6
       cases hR:nU (aA m s.1) (cA s.2.S mb s.1 m.qp)with
       | none=>
         repeat' (first
          |(refine qz ?_;first
           |refine ld (hc:=hl6) ?_
           |refine yC (n:=384) ?_
           |refine i9 ?_ (hs1:=by rw [aE]) (hs2:=by rw [aE])
           |refine fy ?_ (hle:=by first|rw [aE]|rw [aF])
           |refine cl ?_ (hi:=by exact hY (S:=s.2.S) (mb:=mb) (k:=(s.1:Nat)) (q:=m.qp) hD hmb' (by omega) rfl rfl rfl rfl rfl)
           |refine cl ?_ (hi:=by exact gS ha rfl)
           |refine cl ?_ (hi:=by exact jI rfl)
           |refine cl ?_ (hi:=by exact n9 (S:=s.2.S) (mb:=mb) (k:=(s.1:Nat)) (q:=m.qp) hD hmb' (by omega) rfl rfl rfl rfl rfl)
           |refine cl (v := .tup [.agg (ti .i64 64 fun _=>0),.one (.bool false)]) ?_ (hi:=by exact wW (l:=aA m s.1) (fun i=>hm.lev _) (mX (fun dx dy b hb=>w5 hs.st.lev hb)) hR rfl))
          |refine H8 (id:=10) 14 ?_|refine zz ?_|refine zx (fun _=>?_) (fun _=>?_)|fail)
         show aH _ _ _ _ _ _ _ _;refine kV [0,1,2,3,4,5,6,7,8,9,10,11,12,13,14,15,16,17,18,19,20,21,22,23] ?_
         rfl
       | some R=>
         have er:gF m s.2.S mb s.1=some (cW R 0 0):=by
          unfold gF
          rw [if_pos ha,if_pos he',hR];rfl
         have hN:=lM hg hs h6 er
         obtain⟨EV,hEV⟩:∃ EV,eP (gH (dt true (aL s.2.S mb s.1 m.qp).1) (cW (R) 0 0)) 1=EV:=⟨_,rfl⟩
         have eEV:nE m s.2.S mb s.1 (cW (R) 0 0)=EV:=by
          unfold nE
          rw [if_pos ha,he']
          exact hEV
         rw [eEV]at hN
         repeat' (first
          |(refine qz ?_;first
           |refine ld (hc:=hl6) ?_
           |refine yC (n:=384) ?_
           |refine i9 ?_ (hs1:=by rw [aE]) (hs2:=by rw [aE])
           |refine fy ?_ (hle:=by first|rw [aE]|rw [aF])
           |refine cl ?_ (hi:=by exact hY (S:=s.2.S) (mb:=mb) (k:=(s.1:Nat)) (q:=m.qp) hD hmb' (by omega) rfl rfl rfl rfl rfl)
           |refine cl ?_ (hi:=by exact gS ha rfl)
           |refine cl ?_ (hi:=by exact jI rfl)
           |refine cl ?_ (hi:=by exact n9 (S:=s.2.S) (mb:=mb) (k:=(s.1:Nat)) (q:=m.qp) hD hmb' (by omega) rfl rfl rfl rfl rfl)
           |refine cl (v := .tup [.agg (ti .i64 64 R),.one (.bool true)]) ?_ (hi:=by exact wW (l:=aA m s.1) (fun i=>hm.lev _) (mX (fun dx dy b hb=>w5 hs.st.lev hb)) hR rfl)
           |refine NP ?_ (hi:=by exact k9 (n:=aA m s.1 0-(aL s.2.S mb s.1 m.qp).2) hdr (bs:=s.2.B) (by omega) rfl rfl (S:=s.2.S) rfl rfl nL nA rfl)
           |refine cl ?_ (hi:=by exact k9 (n:=aA m s.1 0-(aL s.2.S mb s.1 m.qp).2) hdr (bs:=s.2.B) (by omega) rfl rfl (S:=s.2.S) rfl rfl nL nA rfl)
           |refine cl ?_ (hi:=by exact lq (S:=s.2.S) (mb:=mb) (k:=(s.1:Nat)) (b:=⟨aA m s.1,m.qp⟩) hD hmb' (by omega) rfl rfl rfl rfl nA rfl)
           |refine cl ?_ (hi:=by exact oO (f:=cW (R) 0 0) (ej _ _) rfl)
           |refine cl (v := .one (.int .i64 1)) ?_ (hi:=by exact l5 ha rfl)
           |refine cl ?_ (hi:=by exact oK hEV rfl (by decide) nL nA rfl)
           |refine st ?_ (hle:=by exact h6) (hv:=rfl)
           |refine ld (hc:=by exact List.getElem?_set_self (by exact h6)) ?_)
          |refine H8 (id:=10) 14 ?_|refine zz ?_|refine zx (fun _=>?_) (fun _=>?_)|fail)
         · rename_i g0 g1
           have hE:cx m mb s.1 s.2 EV=⟨aO s.2.S mb s.1 ⟨aA m s.1,m.qp⟩,s.2.B++aW (aA m s.1 0-(aL s.2.S mb s.1 m.qp).2),eF s.2.pat s.1,s.2.col,fun j=>if j=s.1 then EV else s.2.ev j⟩:=by
            unfold cx
            rw [if_pos ha,if_pos ha,if_pos (by omega),if_neg (by omega)]
           rw [hE]at hN
           rcases(show s.1=0∨s.1=1∨s.1=2∨s.1=3 by omega)with hk|hk|hk|hk
           · rw [hk]at hN ⊢
             refine ih (1,⟨aO s.2.S mb 0 ⟨aA m 0,m.qp⟩,s.2.B++aW (aA m 0 0-(aL s.2.S mb 0 m.qp).2),eF s.2.pat 0,s.2.col,fun j=>if j=0 then EV else s.2.ev j⟩) _ _ _ (bm [0,1,2,3,4,5,6,7,8,9,10,11,12,13,14,15,16,17,18,19,20,21,22,23,36,25,26,37,28,29,30,31,32] (obj:=by(repeat' (first|exact ae.nil|refine ae.a_ rfl rfl rfl rfl ?_|refine ae.flat rfl ?_|refine ae.cons rfl ?_|refine ae.dead rfl ?_|refine ae.cons (by simp only [aj.au,List.map_cons,List.map_nil,XC.au,aq];exact rfl) ?_));first|done|fail)) hN (by show 6-1<6-s.1;omega)
           · rw [hk]at hN ⊢
             refine ih (2,⟨aO s.2.S mb 1 ⟨aA m 1,m.qp⟩,s.2.B++aW (aA m 1 0-(aL s.2.S mb 1 m.qp).2),eF s.2.pat 1,s.2.col,fun j=>if j=1 then EV else s.2.ev j⟩) _ _ _ (bm [0,1,2,3,4,5,6,7,8,9,10,11,12,13,14,15,16,17,18,19,20,21,22,23,36,25,26,27,37,29,30,31,32] (obj:=by(repeat' (first|exact ae.nil|refine ae.a_ rfl rfl rfl rfl ?_|refine ae.flat rfl ?_|refine ae.cons rfl ?_|refine ae.dead rfl ?_|refine ae.cons (by simp only [aj.au,List.map_cons,List.map_nil,XC.au,aq];exact rfl) ?_));first|done|fail)) hN (by show 6-2<6-s.1;omega)
           · rw [hk]at hN ⊢
             refine ih (3,⟨aO s.2.S mb 2 ⟨aA m 2,m.qp⟩,s.2.B++aW (aA m 2 0-(aL s.2.S mb 2 m.qp).2),eF s.2.pat 2,s.2.col,fun j=>if j=2 then EV else s.2.ev j⟩) _ _ _ (bm [0,1,2,3,4,5,6,7,8,9,10,11,12,13,14,15,16,17,18,19,20,21,22,23,36,25,26,27,28,37,30,31,32] (obj:=by(repeat' (first|exact ae.nil|refine ae.a_ rfl rfl rfl rfl ?_|refine ae.flat rfl ?_|refine ae.cons rfl ?_|refine ae.dead rfl ?_|refine ae.cons (by simp only [aj.au,List.map_cons,List.map_nil,XC.au,aq];exact rfl) ?_));first|done|fail)) hN (by show 6-3<6-s.1;omega)
           · rw [hk]at hN ⊢
             refine ih (4,⟨aO s.2.S mb 3 ⟨aA m 3,m.qp⟩,s.2.B++aW (aA m 3 0-(aL s.2.S mb 3 m.qp).2),eF s.2.pat 3,s.2.col,fun j=>if j=3 then EV else s.2.ev j⟩) _ _ _ (bm [0,1,2,3,4,5,6,7,8,9,10,11,12,13,14,15,16,17,18,19,20,21,22,23,36,25,26,27,28,29,37,31,32] (obj:=by(repeat' (first|exact ae.nil|refine ae.a_ rfl rfl rfl rfl ?_|refine ae.flat rfl ?_|refine ae.cons rfl ?_|refine ae.dead rfl ?_|refine ae.cons (by simp only [aj.au,List.map_cons,List.map_nil,XC.au,aq];exact rfl) ?_));first|done|fail)) hN (by show 6-4<6-s.1;omega)
         · rename_i g0 g1
           have hE:cx m mb s.1 s.2 EV=⟨aO s.2.S mb s.1 ⟨aA m s.1,m.qp⟩,s.2.B++aW (aA m s.1 0-(aL s.2.S mb s.1 m.qp).2),s.2.pat,ib s.2.col s.1,fun j=>if j=s.1 then EV else s.2.ev j⟩:=by
            unfold cx
            rw [if_pos ha,if_pos ha,if_neg (by omega),if_pos (by omega)]
           rw [hE]at hN
           rcases(show s.1=4∨s.1=5 by omega)with hk|hk
           · rw [hk]at hN ⊢
             refine ih (5,⟨aO s.2.S mb 4 ⟨aA m 4,m.qp⟩,s.2.B++aW (aA m 4 0-(aL s.2.S mb 4 m.qp).2),s.2.pat,ib s.2.col 4,fun j=>if j=4 then EV else s.2.ev j⟩) _ _ _ (bm [0,1,2,3,4,5,6,7,8,9,10,11,12,13,14,15,16,17,18,19,20,21,22,23,36,25,26,27,28,29,30,37,32] (obj:=by(repeat' (first|exact ae.nil|refine ae.a_ rfl rfl rfl rfl ?_|refine ae.flat rfl ?_|refine ae.cons rfl ?_|refine ae.dead rfl ?_|refine ae.cons (by simp only [aj.au,List.map_cons,List.map_nil,XC.au,aq];exact rfl) ?_));first|done|fail)) hN (by show 6-5<6-s.1;omega)
           · rw [hk]at hN ⊢
             refine ih (6,⟨aO s.2.S mb 5 ⟨aA m 5,m.qp⟩,s.2.B++aW (aA m 5 0-(aL s.2.S mb 5 m.qp).2),s.2.pat,ib s.2.col 5,fun j=>if j=5 then EV else s.2.ev j⟩) _ _ _ (bm [0,1,2,3,4,5,6,7,8,9,10,11,12,13,14,15,16,17,18,19,20,21,22,23,36,25,26,27,28,29,30,31,37] (obj:=by(repeat' (first|exact ae.nil|refine ae.a_ rfl rfl rfl rfl ?_|refine ae.flat rfl ?_|refine ae.cons rfl ?_|refine ae.dead rfl ?_|refine ae.cons (by simp only [aj.au,List.map_cons,List.map_nil,XC.au,aq];exact rfl) ?_));first|done|fail)) hN (by show 6-6<6-s.1;omega)
         · rename_i g0
           have hE:cx m mb s.1 s.2 EV=⟨aO s.2.S mb s.1 ⟨aA m s.1,m.qp⟩,s.2.B++aW (aA m s.1 0-(aL s.2.S mb s.1 m.qp).2),s.2.pat,s.2.col,fun j=>if j=s.1 then EV else s.2.ev j⟩:=by
            unfold cx
            rw [if_pos ha,if_pos ha,if_neg (by omega),if_neg (by omega)]
           rw [hE]at hN
           rcases(show s.1=0∨s.1=1∨s.1=2∨s.1=3∨s.1=4∨s.1=5 by omega)with hk|hk|hk|hk|hk|hk
           · rw [hk]at hN ⊢
             refine ih (1,⟨aO s.2.S mb 0 ⟨aA m 0,m.qp⟩,s.2.B++aW (aA m 0 0-(aL s.2.S mb 0 m.qp).2),s.2.pat,s.2.col,fun j=>if j=0 then EV else s.2.ev j⟩) _ _ _ (bm [0,1,2,3,4,5,6,7,8,9,10,11,12,13,14,15,16,17,18,19,20,21,22,23,36,25,26,37,28,29,30,31,32] (obj:=by(repeat' (first|exact ae.nil|refine ae.a_ rfl rfl rfl rfl ?_|refine ae.flat rfl ?_|refine ae.cons rfl ?_|refine ae.dead rfl ?_|refine ae.cons (by simp only [aj.au,List.map_cons,List.map_nil,XC.au,aq];exact rfl) ?_));first|done|fail)) hN (by show 6-1<6-s.1;omega)
           · rw [hk]at hN ⊢
             refine ih (2,⟨aO s.2.S mb 1 ⟨aA m 1,m.qp⟩,s.2.B++aW (aA m 1 0-(aL s.2.S mb 1 m.qp).2),s.2.pat,s.2.col,fun j=>if j=1 then EV else s.2.ev j⟩) _ _ _ (bm [0,1,2,3,4,5,6,7,8,9,10,11,12,13,14,15,16,17,18,19,20,21,22,23,36,25,26,27,37,29,30,31,32] (obj:=by(repeat' (first|exact ae.nil|refine ae.a_ rfl rfl rfl rfl ?_|refine ae.flat rfl ?_|refine ae.cons rfl ?_|refine ae.dead rfl ?_|refine ae.cons (by simp only [aj.au,List.map_cons,List.map_nil,XC.au,aq];exact rfl) ?_));first|done|fail)) hN (by show 6-2<6-s.1;omega)
           · rw [hk]at hN ⊢
             refine ih (3,⟨aO s.2.S mb 2 ⟨aA m 2,m.qp⟩,s.2.B++aW (aA m 2 0-(aL s.2.S mb 2 m.qp).2),s.2.pat,s.2.col,fun j=>if j=2 then EV else s.2.ev j⟩) _ _ _ (bm [0,1,2,3,4,5,6,7,8,9,10,11,12,13,14,15,16,17,18,19,20,21,22,23,36,25,26,27,28,37,30,31,32] (obj:=by(repeat' (first|exact ae.nil|refine ae.a_ rfl rfl rfl rfl ?_|refine ae.flat rfl ?_|refine ae.cons rfl ?_|refine ae.dead rfl ?_|refine ae.cons (by simp only [aj.au,List.map_cons,List.map_nil,XC.au,aq];exact rfl) ?_));first|done|fail)) hN (by show 6-3<6-s.1;omega)
           · rw [hk]at hN ⊢
             refine ih (4,⟨aO s.2.S mb 3 ⟨aA m 3,m.qp⟩,s.2.B++aW (aA m 3 0-(aL s.2.S mb 3 m.qp).2),s.2.pat,s.2.col,fun j=>if j=3 then EV else s.2.ev j⟩) _ _ _ (bm [0,1,2,3,4,5,6,7,8,9,10,11,12,13,14,15,16,17,18,19,20,21,22,23,36,25,26,27,28,29,37,31,32] (obj:=by(repeat' (first|exact ae.nil|refine ae.a_ rfl rfl rfl rfl ?_|refine ae.flat rfl ?_|refine ae.cons rfl ?_|refine ae.dead rfl ?_|refine ae.cons (by simp only [aj.au,List.map_cons,List.map_nil,XC.au,aq];exact rfl) ?_));first|done|fail)) hN (by show 6-4<6-s.1;omega)
           · rw [hk]at hN ⊢
             refine ih (5,⟨aO s.2.S mb 4 ⟨aA m 4,m.qp⟩,s.2.B++aW (aA m 4 0-(aL s.2.S mb 4 m.qp).2),s.2.pat,s.2.col,fun j=>if j=4 then EV else s.2.ev j⟩) _ _ _ (bm [0,1,2,3,4,5,6,7,8,9,10,11,12,13,14,15,16,17,18,19,20,21,22,23,36,25,26,27,28,29,30,37,32] (obj:=by(repeat' (first|exact ae.nil|refine ae.a_ rfl rfl rfl rfl ?_|refine ae.flat rfl ?_|refine ae.cons rfl ?_|refine ae.dead rfl ?_|refine ae.cons (by simp only [aj.au,List.map_cons,List.map_nil,XC.au,aq];exact rfl) ?_));first|done|fail)) hN (by show 6-5<6-s.1;omega)
           · rw [hk]at hN ⊢
             refine ih (6,⟨aO s.2.S mb 5 ⟨aA m 5,m.qp⟩,s.2.B++aW (aA m 5 0-(aL s.2.S mb 5 m.qp).2),s.2.pat,s.2.col,fun j=>if j=5 then EV else s.2.ev j⟩) _ _ _ (bm [0,1,2,3,4,5,6,7,8,9,10,11,12,13,14,15,16,17,18,19,20,21,22,23,36,25,26,27,28,29,30,31,37] (obj:=by(repeat' (first|exact ae.nil|refine ae.a_ rfl rfl rfl rfl ?_|refine ae.flat rfl ?_|refine ae.cons rfl ?_|refine ae.dead rfl ?_|refine ae.cons (by simp only [aj.au,List.map_cons,List.map_nil,XC.au,aq];exact rfl) ?_));first|done|fail)) hN (by show 6-6<6-s.1;omega)
 · have h66:s.1=6:=by have:=hs.le;omega
   have h1:=hs.run
   rw [h66,hx]at h1
   cases h1
end Go.Proofs.YtagpkhindehcbaaGreat
namespace Go.Proofs.YtagpkhindehcbaaGreat
open Go.Xm
variable [az]
def ax (m:Mb) (mb:Int) (x:bz × List Bool) (k:Nat):bz × List Bool:=({x.1 with M:=ba x.1.M x.1.cols mb k (m.v k)},x.2++cJ (m.v k) (cg x.1.M x.1.cols x.1.rows mb k))
def c9 (S:bz) (B:List Bool) (m:Mb) (mb:Int):bz × List Bool:=
 if m.kind=0 then(bc S mb m.v,B++aC S m)
 else if m.kind=1 then(bc (ax m mb (S,B++aC S m) 0).1 mb m.v,(ax m mb (S,B++aC S m) 0).2)
 else if m.kind=2 then(bc (ax m mb (ax m mb (ax m mb (ax m mb (S,B++aC S m) 0) 1) 2) 3).1 mb m.v,(ax m mb (ax m mb (ax m mb (ax m mb (S,B++aC S m) 0) 1) 2) 3).2)
 else(bc (e9 S m) mb m.v,(B++aC S m)++[m.edge])
structure kU (S:bz) (B bw:List Bool) (m:Mb) (mb:Int):Prop where
 st:iy S
 mb:0≤mb∧mb<S.cols*S.rows
 qp : -1000000≤S.qp∧S.qp≤1000000
 good:j9 m
 right:∀ k,k<4→d7 (m.v k)=true
 len:B.length≤600000
 lenw:bw.length≤600000
theorem bJ {M:fX}(h:cj M) {cols mb k:Int} {v:Int × Int}(hv:bu v):cj (ba M cols mb k v):=Em h hv
theorem eG {M:fX}(h:cj M) {cols mb:Int} {v:Nat→Int × Int}(hv:∀ k,bu (v k)):cj (qI M cols mb v):=bJ (bJ (bJ (bJ h (hv 0)) (hv 1)) (hv 2)) (hv 3)
theorem dL {S:bz} {m:Mb}(h:m.kind≠4):e9 S m=S:=if_neg h
theorem nT {S:bz} {m:Mb}(h:m.kind=4):e9 S m = {S with qp:=m.qp}:=if_pos h
theorem Cu (a b c d:List XC) (e e' e2 e3 e4 e5 e6 e7:TypeId) (cs ds fs gs:List XC) (S S':bz):eg (.cells a e false false::cK e' cs::(dI S++[.cells c e5 false false,cK e6 fs])) (.cells b e2 false false :: .dead::(dI S'++[.cells d e7 false false,.dead,cK e3 ds,cK e4 gs]))=true:=by
 cases cs <;> cases ds <;> cases fs <;> cases gs <;> simp [eg,aj.live,aj.own,cK]
theorem C8 {B bw:List Bool} {S:bz} {m:Mb} {mb:Int} {x:pq}(hc:bt Tryz.prog 58 [.one (.ptr 2 0),.one (.ptr 0 0),.one (.ptr 22 0),.one (.int .i64 mb),.agg (mC m)] (aQ 1 B::av B::(dI S++[aQ 23 bw,av bw])) (.one (.int .i64 0)) (aQ 24 (eU x) :: .dead::(dI x.S++[aQ 25 (bH bw x 6),.dead,av (eU x),av (bH bw x 6)])))
 {HS:ak} {k:Nat}(hi:HS[0]? = some (aQ k B)) (hk:HS[k]? = some (av B)) (hS:(HS.drop 2).take 20=dI S) (h22:HS[22]? = some (aQ 23 bw)) (h23:HS[23]? = some (av bw)) (hd:(k == 1 || Nat.ble 24 k)=true) {N:Nat}(hN:HS.length=N) (hbd:Nat.blt (N+2) Mem.bound=true) :
 aI.Sound Tryz.prog ⟨58,[.one (.ptr 2 0),.one (.ptr 0 0),.one (.ptr 22 0),.one (.int .i64 mb),.agg (mC m)],HS,.one (.int .i64 0),bN HS ((0::k::bQ)++[22,23]) (aQ N (eU x) :: .dead::(dI x.S++[aQ (N+1) (bH bw x 6),.dead,av (eU x),av (bH bw x 6)])),(0::k::bQ)++[22,23]⟩:=by
 subst hN
 have hkk:k=1∨24≤k:=by simpa [Nat.ble_eq]using hd
 have nd0:=qC (k:=k) (by omega)
 have nd:((0::k::bQ)++[22,23]).Nodup:=by
  refine List.nodup_append.2 ⟨nd0,by decide,fun a ha b hb=>?_⟩
  have hb':b=22∨b=23:=by simpa using hb
  simp only [bQ,List.mem_cons,List.not_mem_nil,or_false]at ha
  omega
 have ht:∀ j,2≤j→j<22→nth ((0::k::bQ)++[22,23]) j=j:=mP k _
 have ht':∀ j,2≤j→j<22→nth (((0::k::bQ)++[22,23])++List.range' HS.length 2) j=j:=fun j h1 h2=>by
  rw [List.append_assoc];exact mP k _ j h1 h2
 have hv:=oP S ht hS (ls:=[22,23]) (l:=[aQ 23 bw,av bw]) (ae.a_ h22 rfl rfl rfl (.flat h23 .nil))
 have ho:=gk S 24 (by omega) (l:=[aQ 23 bw,av bw]) (.cons (by simp [aj.cc,XC.ok,bp]) (.flat .nil))
 have ho':=gk x.S 26 (by omega) (l:=[aQ 25 (bH bw x 6),.dead,av (eU x),av (bH bw x 6)]) (.cons (by simp [aj.cc,XC.ok,bp]) (.flat (.flat (.flat .nil))))
 have hr:=qB x.S ht' (l:=[aQ 25 (bH bw x 6),.dead,av (eU x),av (bH bw x 6)]) (l':=[aQ (HS.length+1) (bH bw x 6),.dead,av (eU x),av (bH bw x 6)]) (.cons (by simp only [aj.au,List.map_cons,List.map_nil,XC.au,aq];rfl) (.flat (.flat (.flat .nil))))
 have hlen:(bN HS ((0::k::bQ)++[22,23]) (aQ HS.length (eU x) :: .dead::(dI x.S++[aQ (HS.length+1) (bH bw x 6),.dead,av (eU x),av (bH bw x 6)]))).length=HS.length+2:=qq _ _ _ (by show 24≤26;omega)
 refine b8 ((0::k::bQ)++[22,23]) ((0::k::bQ)++[22,23]) 2 hc nd (ae.a_ hi rfl rfl rfl (.flat hk hv)) (.cons (by simp [aj.cc,XC.ok,bp]) (.flat ho)) (.cons (by simp [aj.cc,XC.ok,bp]) (.flat ho')) rfl (.cons (by show 2<24;omega) (.cons (by show 0<24;omega) (.cons (by show 22<24;omega) (.flat (.flat .nil))))) (.cons rfl (.cons rfl (.cons rfl (.flat (.flat .nil))))) (bB.ok _) (bB.au _) ?_ (Cu ..) rfl rfl (by rw [hlen];exact hbd) (.inl rfl)
 exact .cons (by simp only [aj.au,List.map_cons,List.map_nil,XC.au,aq];rfl) (.flat hr)
abbrev m_:ak:=[.dead,.dead,.dead,bR 4 8 12,ay 5 6 7 cM,aX cM,aZ cM,aY cM,ay 9 10 11 cZ,aX cZ,aZ cZ,aY cZ,ay 13 14 15 cP,aX cP,aZ cP,aY cP,.dead,.dead,.dead,.dead,.dead,.dead,.dead,.dead]
theorem zb (c a:List XC) (e e' e5 e6:TypeId) (cs fs:List XC) (S:bz):eg (.cells a e false false::cK e' cs::(dI S++[.cells c e5 false false,cK e6 fs])) m_=true:=by
 cases cs <;> cases fs <;> simp [eg,aj.live,aj.own,cK]
theorem Ai {B bw:List Bool} {S:bz} {m:Mb} {mb:Int}(hc:bt Tryz.prog 58 [.one (.ptr 2 0),.one (.ptr 0 0),.one (.ptr 22 0),.one (.int .i64 mb),.agg (mC m)] (aQ 1 B::av B::(dI S++[aQ 23 bw,av bw])) (.one (.int .i64 2)) m_)
 {HS:ak} {k:Nat}(hi:HS[0]? = some (aQ k B)) (hk:HS[k]? = some (av B)) (hS:(HS.drop 2).take 20=dI S) (h22:HS[22]? = some (aQ 23 bw)) (h23:HS[23]? = some (av bw)) (hd:(k == 1 || Nat.ble 24 k)=true) {N:Nat}(hN:HS.length=N) (hbd:Nat.blt N Mem.bound=true) :
 aI.Sound Tryz.prog ⟨58,[.one (.ptr 2 0),.one (.ptr 0 0),.one (.ptr 22 0),.one (.int .i64 mb),.agg (mC m)],HS,.one (.int .i64 2),bN HS ((0::k::bQ)++[22,23]) m_,(0::k::bQ)++[22,23]⟩:=by
 subst hN
 have hkk:k=1∨24≤k:=by simpa [Nat.ble_eq]using hd
 have nd0:=qC (k:=k) (by omega)
 have nd:((0::k::bQ)++[22,23]).Nodup:=by
  refine List.nodup_append.2 ⟨nd0,by decide,fun a ha b hb=>?_⟩
  have hb':b=22∨b=23:=by simpa using hb
  simp only [bQ,List.mem_cons,List.not_mem_nil,or_false]at ha
  omega
 have ht:∀ j,2≤j→j<22→nth ((0::k::bQ)++[22,23]) j=j:=mP k _
 have ht':∀ j,2≤j→j<22→nth (((0::k::bQ)++[22,23])++List.range' HS.length 0) j=j:=fun j h1 h2=>by
  rw [List.append_assoc];exact mP k _ j h1 h2
 have hv:=oP S ht hS (ls:=[22,23]) (l:=[aQ 23 bw,av bw]) (ae.a_ h22 rfl rfl rfl (.flat h23 .nil))
 have ho:=gk S 24 (by omega) (l:=[aQ 23 bw,av bw]) (.cons (by simp [aj.cc,XC.ok,bp]) (.flat .nil))
 have h4:=ht' 4 (by omega) (by omega)
 have h5:=ht' 5 (by omega) (by omega)
 have h6:=ht' 6 (by omega) (by omega)
 have h7:=ht' 7 (by omega) (by omega)
 have h8:=ht' 8 (by omega) (by omega)
 have h9:=ht' 9 (by omega) (by omega)
 have h10:=ht' 10 (by omega) (by omega)
 have h11:=ht' 11 (by omega) (by omega)
 have h12:=ht' 12 (by omega) (by omega)
 have h13:=ht' 13 (by omega) (by omega)
 have h14:=ht' 14 (by omega) (by omega)
 have h15:=ht' 15 (by omega) (by omega)
 have hlen:(bN HS ((0::k::bQ)++[22,23]) m_).length=HS.length:=by
  rw [qq _ _ _ (by show 24≤24;omega)]
  show HS.length+(24-24)=_
  omega
 have hk':bE 24 m_:=by
  refine .flat (.flat (.flat (.cons ?_ (.cons ?_ (.flat (.flat (.flat (.cons ?_ (.flat (.flat (.flat (.cons ?_ (.flat (.flat (.flat (.flat (.flat (.flat (.flat (.flat (.flat (.flat (.flat .nil)))))))))))))))))))))))
  all_goals simp [aj.cc,XC.ok]
 refine b8 ((0::k::bQ)++[22,23]) ((0::k::bQ)++[22,23]) 0 hc nd (ae.a_ hi rfl rfl rfl (.flat hk hv)) (.cons (by simp [aj.cc,XC.ok,bp]) (.flat ho)) hk' rfl (.cons (by show 2<24;omega) (.cons (by show 0<24;omega) (.cons (by show 22<24;omega) (.flat (.flat .nil))))) (.cons rfl (.cons rfl (.cons rfl (.flat (.flat .nil))))) (bB.ok _) (bB.au _) ?_ (zb ..) rfl rfl (by rw [hlen];exact hbd) (.inl rfl)
 refine .flat (.flat (.flat (.cons ?_ (.cons ?_ (.flat (.flat (.flat (.cons ?_ (.flat (.flat (.flat (.cons ?_ (.flat (.flat (.flat (.flat (.flat (.flat (.flat (.flat (.flat (.flat (.flat .nil)))))))))))))))))))))))
 all_goals simp only [aj.au,List.map_cons,List.map_nil,XC.au, *]
theorem ow {B bw:List Bool} {S:bz} {m:Mb} {mb:Int} {x:pq}(hc:bt Tryz.prog 58 [.one (.ptr 2 0),.one (.ptr 0 0),.one (.ptr 22 0),.one (.int .i64 mb),.agg (mC m)] [aQ 1 B,av B,dw (S),bR 4 8 12,ay 5 6 7 cM,aX cM,aZ cM,aY cM,ay 9 10 11 cZ,aX cZ,aZ cZ,aY cZ,ay 13 14 15 cP,aX cP,aZ cP,aY cP,ch 17 (S).cols (S).rows,.map (bg (S).M),.cells [.int .i64 (S).cols,.int .i64 (S).rows,.map 19,.map 20,.map 21] 171 false false,.map (ah (S).A),.map (ah (S).B),.map (ah (S).C),aQ 23 bw,av bw] (.one (.int .i64 0)) [aQ 24 (eU x),.dead,dw (x.S),bR 4 8 12,ay 5 6 7 cM,aX cM,aZ cM,aY cM,ay 9 10 11 cZ,aX cZ,aZ cZ,aY cZ,ay 13 14 15 cP,aX cP,aZ cP,aY cP,ch 17 (x.S).cols (x.S).rows,.map (bg (x.S).M),.cells [.int .i64 (x.S).cols,.int .i64 (x.S).rows,.map 19,.map 20,.map 21] 171 false false,.map (ah (x.S).A),.map (ah (x.S).B),.map (ah (x.S).C),aQ 25 (bH bw x 6),.dead,av (eU x),av (bH bw x 6)])
 {HS:ak} {k:Nat}(hi:HS[0]? = some (aQ k B)) (hk:HS[k]? = some (av B)) (hS:(HS.drop 2).take 20=dI S) (h22:HS[22]? = some (aQ 23 bw)) (h23:HS[23]? = some (av bw)) (hd:(k == 1 || Nat.ble 24 k)=true) {N:Nat}(hN:HS.length=N) {HS':ak}(hh:bN HS [0,k,2,3,4,5,6,7,8,9,10,11,12,13,14,15,16,17,18,19,20,21,22,23] [aQ N (eU x),.dead,dw (x.S),bR 4 8 12,ay 5 6 7 cM,aX cM,aZ cM,aY cM,ay 9 10 11 cZ,aX cZ,aZ cZ,aY cZ,ay 13 14 15 cP,aX cP,aZ cP,aY cP,ch 17 (x.S).cols (x.S).rows,.map (bg (x.S).M),.cells [.int .i64 (x.S).cols,.int .i64 (x.S).rows,.map 19,.map 20,.map 21] 171 false false,.map (ah (x.S).A),.map (ah (x.S).B),.map (ah (x.S).C),aQ (N+1) (bH bw x 6),.dead,av (eU x),av (bH bw x 6)]=HS') (hbd:Nat.blt (N+2) Mem.bound=true) :
 aI.Sound Tryz.prog ⟨58,[.one (.ptr 2 0),.one (.ptr 0 0),.one (.ptr 22 0),.one (.int .i64 mb),.agg (mC m)],HS,.one (.int .i64 0),HS',(0::k::bQ)++[22,23]⟩:=by
 subst hh
 exact C8 hc hi hk hS h22 h23 hd hN hbd
theorem my {B bw:List Bool} {S:bz} {m:Mb} {mb:Int}(hc:bt Tryz.prog 58 [.one (.ptr 2 0),.one (.ptr 0 0),.one (.ptr 22 0),.one (.int .i64 mb),.agg (mC m)] [aQ 1 B,av B,dw (S),bR 4 8 12,ay 5 6 7 cM,aX cM,aZ cM,aY cM,ay 9 10 11 cZ,aX cZ,aZ cZ,aY cZ,ay 13 14 15 cP,aX cP,aZ cP,aY cP,ch 17 (S).cols (S).rows,.map (bg (S).M),.cells [.int .i64 (S).cols,.int .i64 (S).rows,.map 19,.map 20,.map 21] 171 false false,.map (ah (S).A),.map (ah (S).B),.map (ah (S).C),aQ 23 bw,av bw] (.one (.int .i64 2)) m_)
 {HS:ak} {k:Nat}(hi:HS[0]? = some (aQ k B)) (hk:HS[k]? = some (av B)) (hS:(HS.drop 2).take 20=dI S) (h22:HS[22]? = some (aQ 23 bw)) (h23:HS[23]? = some (av bw)) (hd:(k == 1 || Nat.ble 24 k)=true) {N:Nat}(hN:HS.length=N) {HS':ak}(hh:bN HS [0,k,2,3,4,5,6,7,8,9,10,11,12,13,14,15,16,17,18,19,20,21,22,23] [.dead,.dead,.dead,bR 4 8 12,ay 5 6 7 cM,aX cM,aZ cM,aY cM,ay 9 10 11 cZ,aX cZ,aZ cZ,aY cZ,ay 13 14 15 cP,aX cP,aZ cP,aY cP,.dead,.dead,.dead,.dead,.dead,.dead,.dead,.dead]=HS') (hbd:Nat.blt N Mem.bound=true) :
 aI.Sound Tryz.prog ⟨58,[.one (.ptr 2 0),.one (.ptr 0 0),.one (.ptr 22 0),.one (.int .i64 mb),.agg (mC m)],HS,.one (.int .i64 2),HS',(0::k::bQ)++[22,23]⟩:=by
 subst hh
 exact Ai hc hi hk hS h22 h23 hd hN hbd
end Go.Proofs.YtagpkhindehcbaaGreat
