/-
  A part of the proof: Blocks2, Sta4.
-/
import Derived.Test.YtagpkhindehcbaaGreatKbR
import Derived.Test.YtagpkhindehcbaaGreatKbS
set_option linter.unusedVariables false
set_option linter.unusedSectionVars false
set_option linter.unusedSimpArgs false
namespace Go.Proofs.YtagpkhindehcbaaGreat
open Go.Xm
variable [aC]
set_option maxRecDepth 10000 in
set_option maxHeartbeats 8000000 in
theorem lQ (bs bw:List Bool) (S:bX) (m:Mb) (mb:Int) (hg:jG m) (hS:gP S) (hmb:0≤mb∧mb<S.cols*S.rows) (hb:bs.length≤700000) (hbw:bw.length≤700000) (hx:gY m mb ⟨S,bs,0,0,fun _=>[]⟩ 6=none) :
 bq Tryz.prog 58 [.one (.ptr 2 0),.one (.ptr 0 0),.one (.ptr 22 0),.one (.int .i64 mb),.agg (mC m)] [aN 1 bs,av bs,dS (S),cc 4 8 12,ay 5 6 7 cM,bg cM,bj cM,bh cM,ay 9 10 11 cZ,bg cZ,bj cZ,bh cZ,ay 13 14 15 cP,bg cP,bj cP,bh cP,cH 17 (S).cols (S).rows,.map (bp (S).M),.cells [.int .i64 (S).cols,.int .i64 (S).rows,.map 19,.map 20,.map 21] 171 false false,.map (ah (S).A),.map (ah (S).B),.map (ah (S).C),aN 23 bw,av bw] (.one (.int .i64 2)) [.dead,.dead,.dead,cc 4 8 12,ay 5 6 7 cM,bg cM,bj cM,bh cM,ay 9 10 11 cZ,bg cZ,bj cZ,bh cZ,ay 13 14 15 cP,bg cP,bj cP,bh cP,.dead,.dead,.dead,.dead,.dead,.dead,.dead,.dead]:=by
 have hm:=hg.ok
 refine cO Tryz.func58 ?_
 repeat' (first
  |(refine qz ?_;first
   |refine t9 (cs:=ti .i64 384 m.lev) ?_ (hle:=by rw [aL];decide) (hc:=yP m))
  |refine zG ?_|refine zA ?_|refine cX (fun _=>?_) (fun _=>?_)|refine aS (fun _=>?_) (fun _=>?_)|refine zL ?_|refine zF ?_|fail)
 refine WX.ek (σ:=Nat × o4) (fun s=>[(26,.one (.int .i64 (s.1:Nat))),(12,.one (.int .i64 s.2.pat)),(13,.one (.int .u64 s.2.col)),(0,.one (.ptr 2 0)),(1,.one (.ptr 0 0)),(2,.one (.ptr 22 0)),(3,.one (.int .i64 mb)),(9,.one (.ptr 25 0)),(11,.one (.ptr 26 0)),(25,.agg (ti .i64 384 m.lev))])
  (fun s=>[aN 24 s.2.B,.dead,dS (s.2.S),cc 4 8 12,ay 5 6 7 cM,bg cM,bj cM,bh cM,ay 9 10 11 cZ,bg cZ,bj cZ,bh cZ,ay 13 14 15 cP,bg cP,bj cP,bh cP,cH 17 (s.2.S).cols (s.2.S).rows,.map (bp (s.2.S).M),.cells [.int .i64 (s.2.S).cols,.int .i64 (s.2.S).rows,.map 19,.map 20,.map 21] 171 false false,.map (ah (s.2.S).A),.map (ah (s.2.S).B),.map (ah (s.2.S).C),aN 23 bw,av bw,av s.2.B,GX m,Km s.2.ev,dU (s.2.ev 0),dU (s.2.ev 1),dU (s.2.ev 2),dU (s.2.ev 3),dU (s.2.ev 4),dU (s.2.ev 5)]) (yc m mb ⟨S,bs,0,0,fun _=>[]⟩) (fun s=>6-s.1) (0,⟨S,bs,0,0,fun _=>[]⟩) ⟨by show 0≤6;omega,rfl,hS,⟨rfl,rfl⟩,by show bs.length≤bs.length+76*0;omega,fun _ _=>rfl,fun _ => .inl rfl,⟨by show(0:Int)≤0;omega,by show(0:Int)<16;omega⟩,⟨by show(0:Int)≤0;omega,by show(0:Int)<4;omega⟩⟩ (fun s _=>mO) (br [0,1,2,3,4,5,6,7,8,9,10,11,12,13,14,15,16,17,18,19,20,21,22,23,1,24,25,0,0,0,0,0,0] (obj:=by(repeat' (first|exact ae.nil|refine ae.aW rfl rfl rfl rfl ?_|refine ae.flat rfl ?_|refine ae.cons rfl ?_|refine ae.dead rfl ?_|refine ae.cons (by simp only [ak.aw,List.map_cons,List.map_nil,XC.aw,au];exact rfl) ?_));first|done|fail)) ?_
 intro s hs ih
 have hD:=hs.st.dims
 have hmb':0≤mb∧mb<s.2.S.cols*s.2.S.rows:=by rw [hs.cr.1,hs.cr.2];exact hmb
 have hpat:=hs.pat
 have hcol:=hs.col
 have hlen:s.2.B.length≤bs.length+76*s.1:=hs.len
 by_cases h6:s.1<6
 · cases ha : alone m
   · have er:jo m s.2.S mb s.1=some (aD m s.1):=by
      unfold jo
      rw [if_neg (by rw [ha];decide)]
     have hN:=kQ hg hs h6 er
     obtain⟨EV,hEV⟩:∃ EV,ir (mH (ig m.edge (aR s.2.S mb s.1 m.qp).1) (aD m s.1)) 0=EV:=⟨_,rfl⟩
     have eEV:rM m s.2.S mb s.1 (aD m s.1)=EV:=by
      unfold rM
      rw [if_neg (by rw [ha];decide)]
      exact hEV
     rw [eEV]at hN
     repeat' (first
      |(refine qz ?_;first
       |refine wO (n:=384) ?_
       |refine jC ?_ (hs1:=by rw [bc]) (hs2:=by rw [bc])
       |refine jq ?_ (hle:=by first|rw [bc]|rw [aL])
       |refine cl ?_ (hi:=by exact jy (S:=s.2.S) (mb:=mb) (k:=(s.1:Nat)) (q:=m.qp) hD hmb' (by omega) rfl rfl rfl rfl rfl)
       |refine cl ?_ (hi:=by exact gp ha rfl)
       |refine cl ?_ (hi:=by exact jR rfl)
       |refine cl ?_ (hi:=by exact nV (f:=aD m s.1) (iP _ _) rfl)
       |refine cl (v := .one (.int .i64 0)) ?_ (hi:=by exact lz ha rfl)
       |refine cl ?_ (hi:=by exact nT hEV rfl (by decide) nL nA rfl)
       |refine st ?_ (hle:=by exact h6) (hv:=rfl)
       |refine ld (hc:=by exact List.getElem?_set_self (by exact h6)) ?_)
      |refine zG ?_|refine zA ?_|refine cX (fun _=>?_) (fun _=>?_)|refine aS (fun _=>?_) (fun _=>?_)|refine zL ?_|refine zF ?_|fail)
     · rename_i g0 g1
       have hE:cC m mb s.1 s.2 EV=⟨s.2.S,s.2.B,ef s.2.pat s.1,s.2.col,fun j=>if j=s.1 then EV else s.2.ev j⟩:=by
        unfold cC
        rw [if_neg (by rw [ha];decide),if_neg (by rw [ha];decide),if_pos (by omega),if_neg (by omega)]
       rw [hE]at hN
       rcases(show s.1=0∨s.1=1∨s.1=2∨s.1=3 by omega)with hk|hk|hk|hk
       · rw [hk]at hN ⊢
         refine ih (1,⟨s.2.S,s.2.B,ef s.2.pat 0,s.2.col,fun j=>if j=0 then EV else s.2.ev j⟩) _ _ _ (br [0,1,2,3,4,5,6,7,8,9,10,11,12,13,14,15,16,17,18,19,20,21,22,23,24,25,26,35,28,29,30,31,32] (obj:=by(repeat' (first|exact ae.nil|refine ae.aW rfl rfl rfl rfl ?_|refine ae.flat rfl ?_|refine ae.cons rfl ?_|refine ae.dead rfl ?_|refine ae.cons (by simp only [ak.aw,List.map_cons,List.map_nil,XC.aw,au];exact rfl) ?_));first|done|fail)) hN (by show 6-1<6-s.1;omega)
       · rw [hk]at hN ⊢
         refine ih (2,⟨s.2.S,s.2.B,ef s.2.pat 1,s.2.col,fun j=>if j=1 then EV else s.2.ev j⟩) _ _ _ (br [0,1,2,3,4,5,6,7,8,9,10,11,12,13,14,15,16,17,18,19,20,21,22,23,24,25,26,27,35,29,30,31,32] (obj:=by(repeat' (first|exact ae.nil|refine ae.aW rfl rfl rfl rfl ?_|refine ae.flat rfl ?_|refine ae.cons rfl ?_|refine ae.dead rfl ?_|refine ae.cons (by simp only [ak.aw,List.map_cons,List.map_nil,XC.aw,au];exact rfl) ?_));first|done|fail)) hN (by show 6-2<6-s.1;omega)
       · rw [hk]at hN ⊢
         refine ih (3,⟨s.2.S,s.2.B,ef s.2.pat 2,s.2.col,fun j=>if j=2 then EV else s.2.ev j⟩) _ _ _ (br [0,1,2,3,4,5,6,7,8,9,10,11,12,13,14,15,16,17,18,19,20,21,22,23,24,25,26,27,28,35,30,31,32] (obj:=by(repeat' (first|exact ae.nil|refine ae.aW rfl rfl rfl rfl ?_|refine ae.flat rfl ?_|refine ae.cons rfl ?_|refine ae.dead rfl ?_|refine ae.cons (by simp only [ak.aw,List.map_cons,List.map_nil,XC.aw,au];exact rfl) ?_));first|done|fail)) hN (by show 6-3<6-s.1;omega)
       · rw [hk]at hN ⊢
         refine ih (4,⟨s.2.S,s.2.B,ef s.2.pat 3,s.2.col,fun j=>if j=3 then EV else s.2.ev j⟩) _ _ _ (br [0,1,2,3,4,5,6,7,8,9,10,11,12,13,14,15,16,17,18,19,20,21,22,23,24,25,26,27,28,29,35,31,32] (obj:=by(repeat' (first|exact ae.nil|refine ae.aW rfl rfl rfl rfl ?_|refine ae.flat rfl ?_|refine ae.cons rfl ?_|refine ae.dead rfl ?_|refine ae.cons (by simp only [ak.aw,List.map_cons,List.map_nil,XC.aw,au];exact rfl) ?_));first|done|fail)) hN (by show 6-4<6-s.1;omega)
     · rename_i g0 g1
       have hE:cC m mb s.1 s.2 EV=⟨s.2.S,s.2.B,s.2.pat,gH s.2.col s.1,fun j=>if j=s.1 then EV else s.2.ev j⟩:=by
        unfold cC
        rw [if_neg (by rw [ha];decide),if_neg (by rw [ha];decide),if_neg (by omega),if_pos (by omega)]
       rw [hE]at hN
       rcases(show s.1=4∨s.1=5 by omega)with hk|hk
       · rw [hk]at hN ⊢
         refine ih (5,⟨s.2.S,s.2.B,s.2.pat,gH s.2.col 4,fun j=>if j=4 then EV else s.2.ev j⟩) _ _ _ (br [0,1,2,3,4,5,6,7,8,9,10,11,12,13,14,15,16,17,18,19,20,21,22,23,24,25,26,27,28,29,30,35,32] (obj:=by(repeat' (first|exact ae.nil|refine ae.aW rfl rfl rfl rfl ?_|refine ae.flat rfl ?_|refine ae.cons rfl ?_|refine ae.dead rfl ?_|refine ae.cons (by simp only [ak.aw,List.map_cons,List.map_nil,XC.aw,au];exact rfl) ?_));first|done|fail)) hN (by show 6-5<6-s.1;omega)
       · rw [hk]at hN ⊢
         refine ih (6,⟨s.2.S,s.2.B,s.2.pat,gH s.2.col 5,fun j=>if j=5 then EV else s.2.ev j⟩) _ _ _ (br [0,1,2,3,4,5,6,7,8,9,10,11,12,13,14,15,16,17,18,19,20,21,22,23,24,25,26,27,28,29,30,31,35] (obj:=by(repeat' (first|exact ae.nil|refine ae.aW rfl rfl rfl rfl ?_|refine ae.flat rfl ?_|refine ae.cons rfl ?_|refine ae.dead rfl ?_|refine ae.cons (by simp only [ak.aw,List.map_cons,List.map_nil,XC.aw,au];exact rfl) ?_));first|done|fail)) hN (by show 6-6<6-s.1;omega)
     · rename_i g0
       have hE:cC m mb s.1 s.2 EV=⟨s.2.S,s.2.B,s.2.pat,s.2.col,fun j=>if j=s.1 then EV else s.2.ev j⟩:=by
        unfold cC
        rw [if_neg (by rw [ha];decide),if_neg (by rw [ha];decide),if_neg (by omega),if_neg (by omega)]
       rw [hE]at hN
       rcases(show s.1=0∨s.1=1∨s.1=2∨s.1=3∨s.1=4∨s.1=5 by omega)with hk|hk|hk|hk|hk|hk
       · rw [hk]at hN ⊢
         refine ih (1,⟨s.2.S,s.2.B,s.2.pat,s.2.col,fun j=>if j=0 then EV else s.2.ev j⟩) _ _ _ (br [0,1,2,3,4,5,6,7,8,9,10,11,12,13,14,15,16,17,18,19,20,21,22,23,24,25,26,35,28,29,30,31,32] (obj:=by(repeat' (first|exact ae.nil|refine ae.aW rfl rfl rfl rfl ?_|refine ae.flat rfl ?_|refine ae.cons rfl ?_|refine ae.dead rfl ?_|refine ae.cons (by simp only [ak.aw,List.map_cons,List.map_nil,XC.aw,au];exact rfl) ?_));first|done|fail)) hN (by show 6-1<6-s.1;omega)
       · rw [hk]at hN ⊢
         refine ih (2,⟨s.2.S,s.2.B,s.2.pat,s.2.col,fun j=>if j=1 then EV else s.2.ev j⟩) _ _ _ (br [0,1,2,3,4,5,6,7,8,9,10,11,12,13,14,15,16,17,18,19,20,21,22,23,24,25,26,27,35,29,30,31,32] (obj:=by(repeat' (first|exact ae.nil|refine ae.aW rfl rfl rfl rfl ?_|refine ae.flat rfl ?_|refine ae.cons rfl ?_|refine ae.dead rfl ?_|refine ae.cons (by simp only [ak.aw,List.map_cons,List.map_nil,XC.aw,au];exact rfl) ?_));first|done|fail)) hN (by show 6-2<6-s.1;omega)
       · rw [hk]at hN ⊢
         refine ih (3,⟨s.2.S,s.2.B,s.2.pat,s.2.col,fun j=>if j=2 then EV else s.2.ev j⟩) _ _ _ (br [0,1,2,3,4,5,6,7,8,9,10,11,12,13,14,15,16,17,18,19,20,21,22,23,24,25,26,27,28,35,30,31,32] (obj:=by(repeat' (first|exact ae.nil|refine ae.aW rfl rfl rfl rfl ?_|refine ae.flat rfl ?_|refine ae.cons rfl ?_|refine ae.dead rfl ?_|refine ae.cons (by simp only [ak.aw,List.map_cons,List.map_nil,XC.aw,au];exact rfl) ?_));first|done|fail)) hN (by show 6-3<6-s.1;omega)
       · rw [hk]at hN ⊢
         refine ih (4,⟨s.2.S,s.2.B,s.2.pat,s.2.col,fun j=>if j=3 then EV else s.2.ev j⟩) _ _ _ (br [0,1,2,3,4,5,6,7,8,9,10,11,12,13,14,15,16,17,18,19,20,21,22,23,24,25,26,27,28,29,35,31,32] (obj:=by(repeat' (first|exact ae.nil|refine ae.aW rfl rfl rfl rfl ?_|refine ae.flat rfl ?_|refine ae.cons rfl ?_|refine ae.dead rfl ?_|refine ae.cons (by simp only [ak.aw,List.map_cons,List.map_nil,XC.aw,au];exact rfl) ?_));first|done|fail)) hN (by show 6-4<6-s.1;omega)
       · rw [hk]at hN ⊢
         refine ih (5,⟨s.2.S,s.2.B,s.2.pat,s.2.col,fun j=>if j=4 then EV else s.2.ev j⟩) _ _ _ (br [0,1,2,3,4,5,6,7,8,9,10,11,12,13,14,15,16,17,18,19,20,21,22,23,24,25,26,27,28,29,30,35,32] (obj:=by(repeat' (first|exact ae.nil|refine ae.aW rfl rfl rfl rfl ?_|refine ae.flat rfl ?_|refine ae.cons rfl ?_|refine ae.dead rfl ?_|refine ae.cons (by simp only [ak.aw,List.map_cons,List.map_nil,XC.aw,au];exact rfl) ?_));first|done|fail)) hN (by show 6-5<6-s.1;omega)
       · rw [hk]at hN ⊢
         refine ih (6,⟨s.2.S,s.2.B,s.2.pat,s.2.col,fun j=>if j=5 then EV else s.2.ev j⟩) _ _ _ (br [0,1,2,3,4,5,6,7,8,9,10,11,12,13,14,15,16,17,18,19,20,21,22,23,24,25,26,27,28,29,30,31,35] (obj:=by(repeat' (first|exact ae.nil|refine ae.aW rfl rfl rfl rfl ?_|refine ae.flat rfl ?_|refine ae.cons rfl ?_|refine ae.dead rfl ?_|refine ae.cons (by simp only [ak.aw,List.map_cons,List.map_nil,XC.aw,au];exact rfl) ?_));first|done|fail)) hN (by show 6-6<6-s.1;omega)
   · cases he:m.edge
     · have he':m.edge=false:=he
       have hl6:(mC m)[6]? = some (.bool false):=congrArg (fun b=>some (XC.bool b)) he'
       have hfr:=jD s.2.S mb s.1 m.qp
       have hfi:0≤m.lev ((s.1:Int).toNat*64+0)∧m.lev ((s.1:Int).toNat*64+0)≤127:=hg.first ha s.1 h6
       have hdr:=kT hg (S:=s.2.S) (mb:=mb) ha h6
       have er:jo m s.2.S mb s.1=some (fw (aD m s.1) 0 0):=by
        unfold jo
        rw [if_pos ha,if_neg (by rw [he'];decide)];rfl
       have hN:=kQ hg hs h6 er
       obtain⟨EV,hEV⟩:∃ EV,ir (mH (ig false (aR s.2.S mb s.1 m.qp).1) (fw (aD m s.1) 0 0)) 1=EV:=⟨_,rfl⟩
       have eEV:rM m s.2.S mb s.1 (fw (aD m s.1) 0 0)=EV:=by
        unfold rM
        rw [if_pos ha,he']
        exact hEV
       rw [eEV]at hN
       repeat' (first
        |(refine qz ?_;first
         |refine ld (hc:=hl6) ?_
         |refine wO (n:=384) ?_
         |refine jC ?_ (hs1:=by rw [bc]) (hs2:=by rw [bc])
         |refine jq ?_ (hle:=by first|rw [bc]|rw [aL])
         |refine cl ?_ (hi:=by exact jy (S:=s.2.S) (mb:=mb) (k:=(s.1:Nat)) (q:=m.qp) hD hmb' (by omega) rfl rfl rfl rfl rfl)
         |refine cl ?_ (hi:=by exact gp ha rfl)
         |refine cl ?_ (hi:=by exact jR rfl)
         |refine K6 ?_ (hi:=by exact kj (n:=aD m s.1 0-(aR s.2.S mb s.1 m.qp).2) hdr (bs:=s.2.B) (by omega) rfl rfl (S:=s.2.S) rfl rfl nL nA rfl)
         |refine cl ?_ (hi:=by exact kj (n:=aD m s.1 0-(aR s.2.S mb s.1 m.qp).2) hdr (bs:=s.2.B) (by omega) rfl rfl (S:=s.2.S) rfl rfl nL nA rfl)
         |refine cl ?_ (hi:=by exact nY (S:=s.2.S) (mb:=mb) (k:=(s.1:Nat)) (b:=⟨aD m s.1,m.qp⟩) hD hmb' (by omega) rfl rfl rfl rfl nA rfl)
         |refine cl ?_ (hi:=by exact nV (f:=fw (aD m s.1) 0 0) (iP _ _) rfl)
         |refine cl (v := .one (.int .i64 1)) ?_ (hi:=by exact lz ha rfl)
         |refine cl ?_ (hi:=by exact nT hEV rfl (by decide) nL nA rfl)
         |refine st ?_ (hle:=by exact h6) (hv:=rfl)
         |refine ld (hc:=by exact List.getElem?_set_self (by exact h6)) ?_)
        |refine zG ?_|refine zA ?_|refine cX (fun _=>?_) (fun _=>?_)|refine aS (fun _=>?_) (fun _=>?_)|refine zL ?_|refine zF ?_|fail)
       · rename_i g0 g1
         have hE:cC m mb s.1 s.2 EV=⟨aZ s.2.S mb s.1 ⟨aD m s.1,m.qp⟩,s.2.B++aV (aD m s.1 0-(aR s.2.S mb s.1 m.qp).2),ef s.2.pat s.1,s.2.col,fun j=>if j=s.1 then EV else s.2.ev j⟩:=by
          unfold cC
          rw [if_pos ha,if_pos ha,if_pos (by omega),if_neg (by omega)]
         rw [hE]at hN
         rcases(show s.1=0∨s.1=1∨s.1=2∨s.1=3 by omega)with hk|hk|hk|hk
         · rw [hk]at hN ⊢
           refine ih (1,⟨aZ s.2.S mb 0 ⟨aD m 0,m.qp⟩,s.2.B++aV (aD m 0 0-(aR s.2.S mb 0 m.qp).2),ef s.2.pat 0,s.2.col,fun j=>if j=0 then EV else s.2.ev j⟩) _ _ _ (br [0,1,2,3,4,5,6,7,8,9,10,11,12,13,14,15,16,17,18,19,20,21,22,23,35,25,26,36,28,29,30,31,32] (obj:=by(repeat' (first|exact ae.nil|refine ae.aW rfl rfl rfl rfl ?_|refine ae.flat rfl ?_|refine ae.cons rfl ?_|refine ae.dead rfl ?_|refine ae.cons (by simp only [ak.aw,List.map_cons,List.map_nil,XC.aw,au];exact rfl) ?_));first|done|fail)) hN (by show 6-1<6-s.1;omega)
         · rw [hk]at hN ⊢
           refine ih (2,⟨aZ s.2.S mb 1 ⟨aD m 1,m.qp⟩,s.2.B++aV (aD m 1 0-(aR s.2.S mb 1 m.qp).2),ef s.2.pat 1,s.2.col,fun j=>if j=1 then EV else s.2.ev j⟩) _ _ _ (br [0,1,2,3,4,5,6,7,8,9,10,11,12,13,14,15,16,17,18,19,20,21,22,23,35,25,26,27,36,29,30,31,32] (obj:=by(repeat' (first|exact ae.nil|refine ae.aW rfl rfl rfl rfl ?_|refine ae.flat rfl ?_|refine ae.cons rfl ?_|refine ae.dead rfl ?_|refine ae.cons (by simp only [ak.aw,List.map_cons,List.map_nil,XC.aw,au];exact rfl) ?_));first|done|fail)) hN (by show 6-2<6-s.1;omega)
         · rw [hk]at hN ⊢
           refine ih (3,⟨aZ s.2.S mb 2 ⟨aD m 2,m.qp⟩,s.2.B++aV (aD m 2 0-(aR s.2.S mb 2 m.qp).2),ef s.2.pat 2,s.2.col,fun j=>if j=2 then EV else s.2.ev j⟩) _ _ _ (br [0,1,2,3,4,5,6,7,8,9,10,11,12,13,14,15,16,17,18,19,20,21,22,23,35,25,26,27,28,36,30,31,32] (obj:=by(repeat' (first|exact ae.nil|refine ae.aW rfl rfl rfl rfl ?_|refine ae.flat rfl ?_|refine ae.cons rfl ?_|refine ae.dead rfl ?_|refine ae.cons (by simp only [ak.aw,List.map_cons,List.map_nil,XC.aw,au];exact rfl) ?_));first|done|fail)) hN (by show 6-3<6-s.1;omega)
         · rw [hk]at hN ⊢
           refine ih (4,⟨aZ s.2.S mb 3 ⟨aD m 3,m.qp⟩,s.2.B++aV (aD m 3 0-(aR s.2.S mb 3 m.qp).2),ef s.2.pat 3,s.2.col,fun j=>if j=3 then EV else s.2.ev j⟩) _ _ _ (br [0,1,2,3,4,5,6,7,8,9,10,11,12,13,14,15,16,17,18,19,20,21,22,23,35,25,26,27,28,29,36,31,32] (obj:=by(repeat' (first|exact ae.nil|refine ae.aW rfl rfl rfl rfl ?_|refine ae.flat rfl ?_|refine ae.cons rfl ?_|refine ae.dead rfl ?_|refine ae.cons (by simp only [ak.aw,List.map_cons,List.map_nil,XC.aw,au];exact rfl) ?_));first|done|fail)) hN (by show 6-4<6-s.1;omega)
       · rename_i g0 g1
         have hE:cC m mb s.1 s.2 EV=⟨aZ s.2.S mb s.1 ⟨aD m s.1,m.qp⟩,s.2.B++aV (aD m s.1 0-(aR s.2.S mb s.1 m.qp).2),s.2.pat,gH s.2.col s.1,fun j=>if j=s.1 then EV else s.2.ev j⟩:=by
          unfold cC
          rw [if_pos ha,if_pos ha,if_neg (by omega),if_pos (by omega)]
         rw [hE]at hN
         rcases(show s.1=4∨s.1=5 by omega)with hk|hk
         · rw [hk]at hN ⊢
           refine ih (5,⟨aZ s.2.S mb 4 ⟨aD m 4,m.qp⟩,s.2.B++aV (aD m 4 0-(aR s.2.S mb 4 m.qp).2),s.2.pat,gH s.2.col 4,fun j=>if j=4 then EV else s.2.ev j⟩) _ _ _ (br [0,1,2,3,4,5,6,7,8,9,10,11,12,13,14,15,16,17,18,19,20,21,22,23,35,25,26,27,28,29,30,36,32] (obj:=by(repeat' (first|exact ae.nil|refine ae.aW rfl rfl rfl rfl ?_|refine ae.flat rfl ?_|refine ae.cons rfl ?_|refine ae.dead rfl ?_|refine ae.cons (by simp only [ak.aw,List.map_cons,List.map_nil,XC.aw,au];exact rfl) ?_));first|done|fail)) hN (by show 6-5<6-s.1;omega)
         · rw [hk]at hN ⊢
           refine ih (6,⟨aZ s.2.S mb 5 ⟨aD m 5,m.qp⟩,s.2.B++aV (aD m 5 0-(aR s.2.S mb 5 m.qp).2),s.2.pat,gH s.2.col 5,fun j=>if j=5 then EV else s.2.ev j⟩) _ _ _ (br [0,1,2,3,4,5,6,7,8,9,10,11,12,13,14,15,16,17,18,19,20,21,22,23,35,25,26,27,28,29,30,31,36] (obj:=by(repeat' (first|exact ae.nil|refine ae.aW rfl rfl rfl rfl ?_|refine ae.flat rfl ?_|refine ae.cons rfl ?_|refine ae.dead rfl ?_|refine ae.cons (by simp only [ak.aw,List.map_cons,List.map_nil,XC.aw,au];exact rfl) ?_));first|done|fail)) hN (by show 6-6<6-s.1;omega)
       · rename_i g0
         have hE:cC m mb s.1 s.2 EV=⟨aZ s.2.S mb s.1 ⟨aD m s.1,m.qp⟩,s.2.B++aV (aD m s.1 0-(aR s.2.S mb s.1 m.qp).2),s.2.pat,s.2.col,fun j=>if j=s.1 then EV else s.2.ev j⟩:=by
          unfold cC
          rw [if_pos ha,if_pos ha,if_neg (by omega),if_neg (by omega)]
         rw [hE]at hN
         rcases(show s.1=0∨s.1=1∨s.1=2∨s.1=3∨s.1=4∨s.1=5 by omega)with hk|hk|hk|hk|hk|hk
         · rw [hk]at hN ⊢
           refine ih (1,⟨aZ s.2.S mb 0 ⟨aD m 0,m.qp⟩,s.2.B++aV (aD m 0 0-(aR s.2.S mb 0 m.qp).2),s.2.pat,s.2.col,fun j=>if j=0 then EV else s.2.ev j⟩) _ _ _ (br [0,1,2,3,4,5,6,7,8,9,10,11,12,13,14,15,16,17,18,19,20,21,22,23,35,25,26,36,28,29,30,31,32] (obj:=by(repeat' (first|exact ae.nil|refine ae.aW rfl rfl rfl rfl ?_|refine ae.flat rfl ?_|refine ae.cons rfl ?_|refine ae.dead rfl ?_|refine ae.cons (by simp only [ak.aw,List.map_cons,List.map_nil,XC.aw,au];exact rfl) ?_));first|done|fail)) hN (by show 6-1<6-s.1;omega)
         · rw [hk]at hN ⊢
           refine ih (2,⟨aZ s.2.S mb 1 ⟨aD m 1,m.qp⟩,s.2.B++aV (aD m 1 0-(aR s.2.S mb 1 m.qp).2),s.2.pat,s.2.col,fun j=>if j=1 then EV else s.2.ev j⟩) _ _ _ (br [0,1,2,3,4,5,6,7,8,9,10,11,12,13,14,15,16,17,18,19,20,21,22,23,35,25,26,27,36,29,30,31,32] (obj:=by(repeat' (first|exact ae.nil|refine ae.aW rfl rfl rfl rfl ?_|refine ae.flat rfl ?_|refine ae.cons rfl ?_|refine ae.dead rfl ?_|refine ae.cons (by simp only [ak.aw,List.map_cons,List.map_nil,XC.aw,au];exact rfl) ?_));first|done|fail)) hN (by show 6-2<6-s.1;omega)
         · rw [hk]at hN ⊢
           refine ih (3,⟨aZ s.2.S mb 2 ⟨aD m 2,m.qp⟩,s.2.B++aV (aD m 2 0-(aR s.2.S mb 2 m.qp).2),s.2.pat,s.2.col,fun j=>if j=2 then EV else s.2.ev j⟩) _ _ _ (br [0,1,2,3,4,5,6,7,8,9,10,11,12,13,14,15,16,17,18,19,20,21,22,23,35,25,26,27,28,36,30,31,32] (obj:=by(repeat' (first|exact ae.nil|refine ae.aW rfl rfl rfl rfl ?_|refine ae.flat rfl ?_|refine ae.cons rfl ?_|refine ae.dead rfl ?_|refine ae.cons (by simp only [ak.aw,List.map_cons,List.map_nil,XC.aw,au];exact rfl) ?_));first|done|fail)) hN (by show 6-3<6-s.1;omega)
         · rw [hk]at hN ⊢
           refine ih (4,⟨aZ s.2.S mb 3 ⟨aD m 3,m.qp⟩,s.2.B++aV (aD m 3 0-(aR s.2.S mb 3 m.qp).2),s.2.pat,s.2.col,fun j=>if j=3 then EV else s.2.ev j⟩) _ _ _ (br [0,1,2,3,4,5,6,7,8,9,10,11,12,13,14,15,16,17,18,19,20,21,22,23,35,25,26,27,28,29,36,31,32] (obj:=by(repeat' (first|exact ae.nil|refine ae.aW rfl rfl rfl rfl ?_|refine ae.flat rfl ?_|refine ae.cons rfl ?_|refine ae.dead rfl ?_|refine ae.cons (by simp only [ak.aw,List.map_cons,List.map_nil,XC.aw,au];exact rfl) ?_));first|done|fail)) hN (by show 6-4<6-s.1;omega)
         · rw [hk]at hN ⊢
           refine ih (5,⟨aZ s.2.S mb 4 ⟨aD m 4,m.qp⟩,s.2.B++aV (aD m 4 0-(aR s.2.S mb 4 m.qp).2),s.2.pat,s.2.col,fun j=>if j=4 then EV else s.2.ev j⟩) _ _ _ (br [0,1,2,3,4,5,6,7,8,9,10,11,12,13,14,15,16,17,18,19,20,21,22,23,35,25,26,27,28,29,30,36,32] (obj:=by(repeat' (first|exact ae.nil|refine ae.aW rfl rfl rfl rfl ?_|refine ae.flat rfl ?_|refine ae.cons rfl ?_|refine ae.dead rfl ?_|refine ae.cons (by simp only [ak.aw,List.map_cons,List.map_nil,XC.aw,au];exact rfl) ?_));first|done|fail)) hN (by show 6-5<6-s.1;omega)
         · rw [hk]at hN ⊢
           refine ih (6,⟨aZ s.2.S mb 5 ⟨aD m 5,m.qp⟩,s.2.B++aV (aD m 5 0-(aR s.2.S mb 5 m.qp).2),s.2.pat,s.2.col,fun j=>if j=5 then EV else s.2.ev j⟩) _ _ _ (br [0,1,2,3,4,5,6,7,8,9,10,11,12,13,14,15,16,17,18,19,20,21,22,23,35,25,26,27,28,29,30,31,36] (obj:=by(repeat' (first|exact ae.nil|refine ae.aW rfl rfl rfl rfl ?_|refine ae.flat rfl ?_|refine ae.cons rfl ?_|refine ae.dead rfl ?_|refine ae.cons (by simp only [ak.aw,List.map_cons,List.map_nil,XC.aw,au];exact rfl) ?_));first|done|fail)) hN (by show 6-6<6-s.1;omega)
     · have he':m.edge=true:=he
       have hl6:(mC m)[6]? = some (.bool true):=congrArg (fun b=>some (XC.bool b)) he'
       have hfr:=jD s.2.S mb s.1 m.qp
       have hfi:0≤m.lev ((s.1:Int).toNat*64+0)∧m.lev ((s.1:Int).toNat*64+0)≤127:=hg.first ha s.1 h6
       have hdr:=kT hg (S:=s.2.S) (mb:=mb) ha h6
       cases hR:pk (aD m s.1) (nh s.2.S mb s.1 m.qp)with
       | none=>
         repeat' (first
          |(refine qz ?_;first
           |refine ld (hc:=hl6) ?_
           |refine wO (n:=384) ?_
           |refine jC ?_ (hs1:=by rw [bc]) (hs2:=by rw [bc])
           |refine jq ?_ (hle:=by first|rw [bc]|rw [aL])
           |refine cl ?_ (hi:=by exact jy (S:=s.2.S) (mb:=mb) (k:=(s.1:Nat)) (q:=m.qp) hD hmb' (by omega) rfl rfl rfl rfl rfl)
           |refine cl ?_ (hi:=by exact gp ha rfl)
           |refine cl ?_ (hi:=by exact jR rfl)
           |refine cl ?_ (hi:=by exact sT (S:=s.2.S) (mb:=mb) (k:=(s.1:Nat)) (q:=m.qp) hD hmb' (by omega) rfl rfl rfl rfl rfl)
           |refine cl (v := .tup [.agg (ti .i64 64 fun _=>0),.one (.bool false)]) ?_ (hi:=by exact u5 (l:=aD m s.1) (fun i=>hm.lev _) (oW (fun dx dy b hb=>yT hs.st.lev hb)) hR rfl))
          |refine zG ?_|refine zA ?_|refine cX (fun _=>?_) (fun _=>?_)|refine aS (fun _=>?_) (fun _=>?_)|refine LZ (id:=10) 14 ?_|refine zL ?_|refine zF ?_|fail)
         show aF _ _ _ _ _ _ _ _;refine kV [0,1,2,3,4,5,6,7,8,9,10,11,12,13,14,15,16,17,18,19,20,21,22,23] ?_
         rfl
       | some R=>
         have er:jo m s.2.S mb s.1=some (fw R 0 0):=by
          unfold jo
          rw [if_pos ha,if_pos he',hR];rfl
         have hN:=kQ hg hs h6 er
         obtain⟨EV,hEV⟩:∃ EV,ir (mH (ig true (aR s.2.S mb s.1 m.qp).1) (fw (R) 0 0)) 1=EV:=⟨_,rfl⟩
         have eEV:rM m s.2.S mb s.1 (fw (R) 0 0)=EV:=by
          unfold rM
          rw [if_pos ha,he']
          exact hEV
         rw [eEV]at hN
         repeat' (first
          |(refine qz ?_;first
           |refine ld (hc:=hl6) ?_
           |refine wO (n:=384) ?_
           |refine jC ?_ (hs1:=by rw [bc]) (hs2:=by rw [bc])
           |refine jq ?_ (hle:=by first|rw [bc]|rw [aL])
           |refine cl ?_ (hi:=by exact jy (S:=s.2.S) (mb:=mb) (k:=(s.1:Nat)) (q:=m.qp) hD hmb' (by omega) rfl rfl rfl rfl rfl)
           |refine cl ?_ (hi:=by exact gp ha rfl)
           |refine cl ?_ (hi:=by exact jR rfl)
           |refine cl ?_ (hi:=by exact sT (S:=s.2.S) (mb:=mb) (k:=(s.1:Nat)) (q:=m.qp) hD hmb' (by omega) rfl rfl rfl rfl rfl)
           |refine cl (v := .tup [.agg (ti .i64 64 R),.one (.bool true)]) ?_ (hi:=by exact u5 (l:=aD m s.1) (fun i=>hm.lev _) (oW (fun dx dy b hb=>yT hs.st.lev hb)) hR rfl)
           |refine K6 ?_ (hi:=by exact kj (n:=aD m s.1 0-(aR s.2.S mb s.1 m.qp).2) hdr (bs:=s.2.B) (by omega) rfl rfl (S:=s.2.S) rfl rfl nL nA rfl)
           |refine cl ?_ (hi:=by exact kj (n:=aD m s.1 0-(aR s.2.S mb s.1 m.qp).2) hdr (bs:=s.2.B) (by omega) rfl rfl (S:=s.2.S) rfl rfl nL nA rfl)
           |refine cl ?_ (hi:=by exact nY (S:=s.2.S) (mb:=mb) (k:=(s.1:Nat)) (b:=⟨aD m s.1,m.qp⟩) hD hmb' (by omega) rfl rfl rfl rfl nA rfl)
           |refine cl ?_ (hi:=by exact nV (f:=fw (R) 0 0) (iP _ _) rfl)
           |refine cl (v := .one (.int .i64 1)) ?_ (hi:=by exact lz ha rfl)
           |refine cl ?_ (hi:=by exact nT hEV rfl (by decide) nL nA rfl)
           |refine st ?_ (hle:=by exact h6) (hv:=rfl)
           |refine ld (hc:=by exact List.getElem?_set_self (by exact h6)) ?_)
          |refine zG ?_|refine zA ?_|refine cX (fun _=>?_) (fun _=>?_)|refine aS (fun _=>?_) (fun _=>?_)|refine LZ (id:=10) 14 ?_|refine zL ?_|refine zF ?_|fail)
         · rename_i g0 g1
           have hE:cC m mb s.1 s.2 EV=⟨aZ s.2.S mb s.1 ⟨aD m s.1,m.qp⟩,s.2.B++aV (aD m s.1 0-(aR s.2.S mb s.1 m.qp).2),ef s.2.pat s.1,s.2.col,fun j=>if j=s.1 then EV else s.2.ev j⟩:=by
            unfold cC
            rw [if_pos ha,if_pos ha,if_pos (by omega),if_neg (by omega)]
           rw [hE]at hN
           rcases(show s.1=0∨s.1=1∨s.1=2∨s.1=3 by omega)with hk|hk|hk|hk
           · rw [hk]at hN ⊢
             refine ih (1,⟨aZ s.2.S mb 0 ⟨aD m 0,m.qp⟩,s.2.B++aV (aD m 0 0-(aR s.2.S mb 0 m.qp).2),ef s.2.pat 0,s.2.col,fun j=>if j=0 then EV else s.2.ev j⟩) _ _ _ (br [0,1,2,3,4,5,6,7,8,9,10,11,12,13,14,15,16,17,18,19,20,21,22,23,36,25,26,37,28,29,30,31,32] (obj:=by(repeat' (first|exact ae.nil|refine ae.aW rfl rfl rfl rfl ?_|refine ae.flat rfl ?_|refine ae.cons rfl ?_|refine ae.dead rfl ?_|refine ae.cons (by simp only [ak.aw,List.map_cons,List.map_nil,XC.aw,au];exact rfl) ?_));first|done|fail)) hN (by show 6-1<6-s.1;omega)
           · rw [hk]at hN ⊢
             refine ih (2,⟨aZ s.2.S mb 1 ⟨aD m 1,m.qp⟩,s.2.B++aV (aD m 1 0-(aR s.2.S mb 1 m.qp).2),ef s.2.pat 1,s.2.col,fun j=>if j=1 then EV else s.2.ev j⟩) _ _ _ (br [0,1,2,3,4,5,6,7,8,9,10,11,12,13,14,15,16,17,18,19,20,21,22,23,36,25,26,27,37,29,30,31,32] (obj:=by(repeat' (first|exact ae.nil|refine ae.aW rfl rfl rfl rfl ?_|refine ae.flat rfl ?_|refine ae.cons rfl ?_|refine ae.dead rfl ?_|refine ae.cons (by simp only [ak.aw,List.map_cons,List.map_nil,XC.aw,au];exact rfl) ?_));first|done|fail)) hN (by show 6-2<6-s.1;omega)
           · rw [hk]at hN ⊢
             refine ih (3,⟨aZ s.2.S mb 2 ⟨aD m 2,m.qp⟩,s.2.B++aV (aD m 2 0-(aR s.2.S mb 2 m.qp).2),ef s.2.pat 2,s.2.col,fun j=>if j=2 then EV else s.2.ev j⟩) _ _ _ (br [0,1,2,3,4,5,6,7,8,9,10,11,12,13,14,15,16,17,18,19,20,21,22,23,36,25,26,27,28,37,30,31,32] (obj:=by(repeat' (first|exact ae.nil|refine ae.aW rfl rfl rfl rfl ?_|refine ae.flat rfl ?_|refine ae.cons rfl ?_|refine ae.dead rfl ?_|refine ae.cons (by simp only [ak.aw,List.map_cons,List.map_nil,XC.aw,au];exact rfl) ?_));first|done|fail)) hN (by show 6-3<6-s.1;omega)
           · rw [hk]at hN ⊢
             refine ih (4,⟨aZ s.2.S mb 3 ⟨aD m 3,m.qp⟩,s.2.B++aV (aD m 3 0-(aR s.2.S mb 3 m.qp).2),ef s.2.pat 3,s.2.col,fun j=>if j=3 then EV else s.2.ev j⟩) _ _ _ (br [0,1,2,3,4,5,6,7,8,9,10,11,12,13,14,15,16,17,18,19,20,21,22,23,36,25,26,27,28,29,37,31,32] (obj:=by(repeat' (first|exact ae.nil|refine ae.aW rfl rfl rfl rfl ?_|refine ae.flat rfl ?_|refine ae.cons rfl ?_|refine ae.dead rfl ?_|refine ae.cons (by simp only [ak.aw,List.map_cons,List.map_nil,XC.aw,au];exact rfl) ?_));first|done|fail)) hN (by show 6-4<6-s.1;omega)
         · rename_i g0 g1
           have hE:cC m mb s.1 s.2 EV=⟨aZ s.2.S mb s.1 ⟨aD m s.1,m.qp⟩,s.2.B++aV (aD m s.1 0-(aR s.2.S mb s.1 m.qp).2),s.2.pat,gH s.2.col s.1,fun j=>if j=s.1 then EV else s.2.ev j⟩:=by
            unfold cC
            rw [if_pos ha,if_pos ha,if_neg (by omega),if_pos (by omega)]
           rw [hE]at hN
           rcases(show s.1=4∨s.1=5 by omega)with hk|hk
           · rw [hk]at hN ⊢
             refine ih (5,⟨aZ s.2.S mb 4 ⟨aD m 4,m.qp⟩,s.2.B++aV (aD m 4 0-(aR s.2.S mb 4 m.qp).2),s.2.pat,gH s.2.col 4,fun j=>if j=4 then EV else s.2.ev j⟩) _ _ _ (br [0,1,2,3,4,5,6,7,8,9,10,11,12,13,14,15,16,17,18,19,20,21,22,23,36,25,26,27,28,29,30,37,32] (obj:=by(repeat' (first|exact ae.nil|refine ae.aW rfl rfl rfl rfl ?_|refine ae.flat rfl ?_|refine ae.cons rfl ?_|refine ae.dead rfl ?_|refine ae.cons (by simp only [ak.aw,List.map_cons,List.map_nil,XC.aw,au];exact rfl) ?_));first|done|fail)) hN (by show 6-5<6-s.1;omega)
           · rw [hk]at hN ⊢
             refine ih (6,⟨aZ s.2.S mb 5 ⟨aD m 5,m.qp⟩,s.2.B++aV (aD m 5 0-(aR s.2.S mb 5 m.qp).2),s.2.pat,gH s.2.col 5,fun j=>if j=5 then EV else s.2.ev j⟩) _ _ _ (br [0,1,2,3,4,5,6,7,8,9,10,11,12,13,14,15,16,17,18,19,20,21,22,23,36,25,26,27,28,29,30,31,37] (obj:=by(repeat' (first|exact ae.nil|refine ae.aW rfl rfl rfl rfl ?_|refine ae.flat rfl ?_|refine ae.cons rfl ?_|refine ae.dead rfl ?_|refine ae.cons (by simp only [ak.aw,List.map_cons,List.map_nil,XC.aw,au];exact rfl) ?_));first|done|fail)) hN (by show 6-6<6-s.1;omega)
         · rename_i g0
           have hE:cC m mb s.1 s.2 EV=⟨aZ s.2.S mb s.1 ⟨aD m s.1,m.qp⟩,s.2.B++aV (aD m s.1 0-(aR s.2.S mb s.1 m.qp).2),s.2.pat,s.2.col,fun j=>if j=s.1 then EV else s.2.ev j⟩:=by
            unfold cC
            rw [if_pos ha,if_pos ha,if_neg (by omega),if_neg (by omega)]
           rw [hE]at hN
           rcases(show s.1=0∨s.1=1∨s.1=2∨s.1=3∨s.1=4∨s.1=5 by omega)with hk|hk|hk|hk|hk|hk
           · rw [hk]at hN ⊢
             refine ih (1,⟨aZ s.2.S mb 0 ⟨aD m 0,m.qp⟩,s.2.B++aV (aD m 0 0-(aR s.2.S mb 0 m.qp).2),s.2.pat,s.2.col,fun j=>if j=0 then EV else s.2.ev j⟩) _ _ _ (br [0,1,2,3,4,5,6,7,8,9,10,11,12,13,14,15,16,17,18,19,20,21,22,23,36,25,26,37,28,29,30,31,32] (obj:=by(repeat' (first|exact ae.nil|refine ae.aW rfl rfl rfl rfl ?_|refine ae.flat rfl ?_|refine ae.cons rfl ?_|refine ae.dead rfl ?_|refine ae.cons (by simp only [ak.aw,List.map_cons,List.map_nil,XC.aw,au];exact rfl) ?_));first|done|fail)) hN (by show 6-1<6-s.1;omega)
           · rw [hk]at hN ⊢
             refine ih (2,⟨aZ s.2.S mb 1 ⟨aD m 1,m.qp⟩,s.2.B++aV (aD m 1 0-(aR s.2.S mb 1 m.qp).2),s.2.pat,s.2.col,fun j=>if j=1 then EV else s.2.ev j⟩) _ _ _ (br [0,1,2,3,4,5,6,7,8,9,10,11,12,13,14,15,16,17,18,19,20,21,22,23,36,25,26,27,37,29,30,31,32] (obj:=by(repeat' (first|exact ae.nil|refine ae.aW rfl rfl rfl rfl ?_|refine ae.flat rfl ?_|refine ae.cons rfl ?_|refine ae.dead rfl ?_|refine ae.cons (by simp only [ak.aw,List.map_cons,List.map_nil,XC.aw,au];exact rfl) ?_));first|done|fail)) hN (by show 6-2<6-s.1;omega)
           · rw [hk]at hN ⊢
             refine ih (3,⟨aZ s.2.S mb 2 ⟨aD m 2,m.qp⟩,s.2.B++aV (aD m 2 0-(aR s.2.S mb 2 m.qp).2),s.2.pat,s.2.col,fun j=>if j=2 then EV else s.2.ev j⟩) _ _ _ (br [0,1,2,3,4,5,6,7,8,9,10,11,12,13,14,15,16,17,18,19,20,21,22,23,36,25,26,27,28,37,30,31,32] (obj:=by(repeat' (first|exact ae.nil|refine ae.aW rfl rfl rfl rfl ?_|refine ae.flat rfl ?_|refine ae.cons rfl ?_|refine ae.dead rfl ?_|refine ae.cons (by simp only [ak.aw,List.map_cons,List.map_nil,XC.aw,au];exact rfl) ?_));first|done|fail)) hN (by show 6-3<6-s.1;omega)
           · rw [hk]at hN ⊢
             refine ih (4,⟨aZ s.2.S mb 3 ⟨aD m 3,m.qp⟩,s.2.B++aV (aD m 3 0-(aR s.2.S mb 3 m.qp).2),s.2.pat,s.2.col,fun j=>if j=3 then EV else s.2.ev j⟩) _ _ _ (br [0,1,2,3,4,5,6,7,8,9,10,11,12,13,14,15,16,17,18,19,20,21,22,23,36,25,26,27,28,29,37,31,32] (obj:=by(repeat' (first|exact ae.nil|refine ae.aW rfl rfl rfl rfl ?_|refine ae.flat rfl ?_|refine ae.cons rfl ?_|refine ae.dead rfl ?_|refine ae.cons (by simp only [ak.aw,List.map_cons,List.map_nil,XC.aw,au];exact rfl) ?_));first|done|fail)) hN (by show 6-4<6-s.1;omega)
           · rw [hk]at hN ⊢
             refine ih (5,⟨aZ s.2.S mb 4 ⟨aD m 4,m.qp⟩,s.2.B++aV (aD m 4 0-(aR s.2.S mb 4 m.qp).2),s.2.pat,s.2.col,fun j=>if j=4 then EV else s.2.ev j⟩) _ _ _ (br [0,1,2,3,4,5,6,7,8,9,10,11,12,13,14,15,16,17,18,19,20,21,22,23,36,25,26,27,28,29,30,37,32] (obj:=by(repeat' (first|exact ae.nil|refine ae.aW rfl rfl rfl rfl ?_|refine ae.flat rfl ?_|refine ae.cons rfl ?_|refine ae.dead rfl ?_|refine ae.cons (by simp only [ak.aw,List.map_cons,List.map_nil,XC.aw,au];exact rfl) ?_));first|done|fail)) hN (by show 6-5<6-s.1;omega)
           · rw [hk]at hN ⊢
             refine ih (6,⟨aZ s.2.S mb 5 ⟨aD m 5,m.qp⟩,s.2.B++aV (aD m 5 0-(aR s.2.S mb 5 m.qp).2),s.2.pat,s.2.col,fun j=>if j=5 then EV else s.2.ev j⟩) _ _ _ (br [0,1,2,3,4,5,6,7,8,9,10,11,12,13,14,15,16,17,18,19,20,21,22,23,36,25,26,27,28,29,30,31,37] (obj:=by(repeat' (first|exact ae.nil|refine ae.aW rfl rfl rfl rfl ?_|refine ae.flat rfl ?_|refine ae.cons rfl ?_|refine ae.dead rfl ?_|refine ae.cons (by simp only [ak.aw,List.map_cons,List.map_nil,XC.aw,au];exact rfl) ?_));first|done|fail)) hN (by show 6-6<6-s.1;omega)
 · have h66:s.1=6:=by have:=hs.le;omega
   have h1:=hs.run
   rw [h66,hx]at h1
   cases h1
end Go.Proofs.YtagpkhindehcbaaGreat
namespace Go.Proofs.YtagpkhindehcbaaGreat
open Go.Xm
variable [aC]
theorem qd:∀(ls:List Nat) (os HS:aq) (ls2:List Nat) (os2:aq),os.length=ls.length→(∀(j i:Nat),ls[j]? = some i→∃ o,HS[i]? = some o∧os[j]? = some o)→bM HS (ls++ls2) (os++os2)=bM HS ls2 os2
 | [],[],HS,ls2,os2,_,_=>by simp
 | [],_::_,_,_,_,h,_=>by simp at h
 | _::_,[],_,_,_,h,_=>by simp at h
 | i::ls,o::os,HS,ls2,os2,h,hg=>by
   obtain⟨o',h1,h2⟩:=hg 0 i rfl
   have:o'=o:=by simpa using h2.symm
   subst this
   show bM (HS.set i o') (ls++ls2) (os++os2)=_
   rw [aK h1]
   exact qd ls os HS ls2 os2 (by simpa using h) fun j i' hj=>hg (j+1) i' hj
theorem ry {j i:Nat}(h:bK[j]? = some i):j<20∧i=j+2:=by
 have hjl:j<20:=(List.getElem?_eq_some_iff.1 h).1
 have hq:∀ q:Fin 20,bK[q.val]? = some (q.val+2):=by decide
 have:=hq ⟨j,hjl⟩
 rw [h]at this
 exact⟨hjl,by simpa using this⟩
theorem vo {S:bX}{HS:aq}(hS:(HS.drop 2).take 20=dV S) {j:Nat}(hj:j<20):HS[j+2]? = (dV S)[j]?:=by
 rw [←hS,List.getElem?_take,if_pos hj,List.getElem?_drop]
 congr 1
 omega
theorem oT (ls:List Nat) (os HS l:aq) (h:os.length=ls.length) (hg:∀(j i:Nat),ls[j]? = some i→∃ o,HS[i]? = some o∧os[j]? = some o):bM HS ls (os++l)=HS++l:=by
 have:=qd ls os HS [] l h hg
 rw [List.append_nil]at this
 rw [this,bM]
theorem pH {f:FuncId}{more:List XV}(hm:∀ τ,dQ τ more more) (hmo:fz 22 more) {v:XV} [bG v] {bs bs':List Bool}{S S':bX}(hT:(dV S').tail=(dV S).tail) (hc:bq Tryz.prog f (.one (.ptr 2 0) :: .one (.ptr 0 0)::more) (aN 1 bs::av bs::dV S) v (aN 22 bs' :: .dead::(dV S'++[av bs'])))
 {HS:aq}{k:Nat}(hi:HS[0]? = some (aN k bs)) (hk:HS[k]? = some (av bs)) (hS:(HS.drop 2).take 20=dV S) (hd:(k == 1 || Nat.ble 22 k)=true) {N:Nat}(hN:HS.length=N) {HS':aq}(hh:bM HS [0,k,2] [aN N bs',.dead,dS S',av bs']=HS') (hbd:Nat.blt HS'.length Mem.bound=true) :
 aG.Sound Tryz.prog ⟨f,.one (.ptr 2 0) :: .one (.ptr 0 0)::more,HS,v,HS',0::k::bK⟩:=by
 refine Ip hm hmo hc hi hk hS hd hN ?_ hbd
 rw [←hh]
 have hkk:k=1∨22≤k:=by simpa [Nat.ble_eq]using hd
 have e1:dV S'++[av bs']=dS S'::((dV S).tail++[av bs']):=by rw [←hT];rfl
 have e2:bK=2::bK.tail:=rfl
 rw [e1,e2,bM,bM,bM,bM,bM,bM,bM]
 refine oT bK.tail (dV S).tail _ _ rfl fun j i hj=>?_
 have hj':bK[j+1]? = some i:=hj
 obtain⟨h1,rfl⟩:=ry hj'
 have hl:j+1<(dV S).length:=h1
 refine⟨(dV S)[j+1],?_,?_⟩
 · rw [List.getElem?_set_ne (by omega),List.getElem?_set_ne (by omega),List.getElem?_set_ne (by omega),vo hS h1,List.getElem?_eq_getElem hl]
 · rw [List.getElem?_tail,List.getElem?_eq_getElem hl]
theorem l5 (k:Nat) (r:List Nat):∀ j,2≤j→j<22→nth ((0::k::bK)++r) j=j:=fun j h1 h2=>by
 have hq:∀ q:Fin 20,bK[q.val]? = some (q.val+2):=by decide
 obtain⟨q,rfl⟩:∃ q,j=q+2:=⟨j-2,by omega⟩
 have:=hq ⟨q,by omega⟩
 unfold nth
 rw [List.getD_eq_getElem?_getD]
 show((bK++r)[q]?).getD 0=q+2
 rw [List.getElem?_append_left (show q<bK.length by show q<20;omega),this];rfl
theorem pG {k:Nat}(hkk:k=1∨22≤k):(0::k::bK).Nodup:=by
 have h0:0∉bK:=by decide
 have hk':k∉bK:=by
  intro h
  simp only [bK,List.mem_cons,List.not_mem_nil,or_false]at h
  omega
 exact List.nodup_cons.2 ⟨fun h=>(List.mem_cons.1 h).elim (fun e=>by omega) h0,List.nodup_cons.2 ⟨hk',by decide⟩⟩
theorem Ez (a:List XC) (e e':TypeId) (cs:List XC) (S S':bX):eI (.cells a e false false::c8 e' cs::dV S) (.cells a e false false::c8 e' cs::dV S')=true:=by
 cases cs <;> simp [eI,ak.live,ak.own,c8]
theorem iw {bs:List Bool}{S:bX}(hD:gG S.cols S.rows) {mb:Int}(hmb:0≤mb∧mb<S.cols*S.rows) {m:Mb}{HS:aq}{k:Nat}(hi:HS[0]? = some (aN k bs)) (hk:HS[k]? = some (av bs)) (hS:(HS.drop 2).take 20=dV S) (hd:(k == 1 || Nat.ble 22 k)=true) {HS':aq}(hh:HS.set 17 (.map (bp (pM S.M S.cols mb m.v)))=HS') (hbd:Nat.blt HS'.length Mem.bound=true) :
 aG.Sound Tryz.prog ⟨53,[.one (.ptr 2 0),.one (.int .i64 mb),.agg (mC m)],HS,.tup [],HS',[17]⟩:=by
 have hkk:k=1∨22≤k:=by simpa [Nat.ble_eq]using hd
 have nd:=pG hkk
 have ht:∀ j,2≤j→j<22→nth (0::k::bK) j=j:=fun j h1 h2=>by
  have:=l5 k [] j h1 h2
  rwa [List.append_nil]at this
 have ht':∀ j,2≤j→j<22→nth ((0::k::bK)++List.range' HS.length 0) j=j:=l5 k _
 have hv:=nW S ht hS (ls:=[]) .nil
 rw [List.append_nil,List.append_nil]at hv
 have ho:=gM S 22 (Nat.le_refl _) (l:=[]) .nil
 rw [List.append_nil]at ho
 have ho':=gM (ba S mb m.v) 22 (Nat.le_refl _) (l:=[]) .nil
 rw [List.append_nil]at ho'
 have hr:=pF (ba S mb m.v) ht' (l:=[]) (l':=[]) .nil
 rw [List.append_nil]at hr
 have hh' : bM HS (0::k::bK) (aN k bs::av bs::dV (ba S mb m.v))=HS':=by
  rw [←hh]
  have e1:(aN k bs::av bs::dV (ba S mb m.v))=(aN k bs::av bs::(dV S).take 15)++(.map (bp (pM S.M S.cols mb m.v))::((dV S).drop 16++[])):=rfl
  have e2:(0::k::bK)=(0::k::bK.take 15)++(17::bK.drop 16):=rfl
  rw [e1,e2,qd _ _ _ _ _ rfl]
  · rw [bM]
    rw [oT (bK.drop 16) ((dV S).drop 16) _ [] rfl,List.append_nil]
    intro j i hj
    rw [List.getElem?_drop]at hj
    obtain⟨h1,rfl⟩:=ry hj
    have hl:16+j<(dV S).length:=h1
    refine⟨(dV S)[16+j],?_,?_⟩
    · rw [List.getElem?_set_ne (by omega),vo hS h1,List.getElem?_eq_getElem hl]
    · rw [List.getElem?_drop,List.getElem?_eq_getElem hl]
  · intro j i hj
    match j,hj with
    | 0,hj=>cases hj;exact⟨_,hi,rfl⟩
    | 1,hj=>cases hj;exact⟨_,hk,rfl⟩
    | j + 2,hj=>
      have hj2:(bK.take 15)[j]? = some i:=hj
      rw [List.getElem?_take]at hj2
      split at hj2
      · rename_i h15
        obtain⟨h1,rfl⟩:=ry hj2
        have hl:j<(dV S).length:=h1
        refine⟨(dV S)[j],?_,?_⟩
        · rw [vo hS h1,List.getElem?_eq_getElem hl]
        · show((dV S).take 15)[j]? = _
          rw [List.getElem?_take,if_pos h15,List.getElem?_eq_getElem hl]
      · cases hj2
 refine cj (0::k::bK) [17] 0 (B_ bs S hD mb hmb m) nd (ae.aW hi rfl rfl rfl (.flat hk hv)) (.cons (by simp [ak.cB,XC.ok,ca]) (.flat ho)) (.cons (by simp [ak.cB,XC.ok,ca]) (.flat ho')) rfl (.cons (by show 2<22;omega) (.flat (.flat .nil))) (.cons rfl (.flat (.flat .nil))) (bG.ok _) (bG.aw _) ?_ (Ez ..) rfl hh' hbd (.inr fun j hjl hj=>?_)
 · exact .cons (by simp only [ak.aw,List.map_cons,List.map_nil,XC.aw,au];rfl) (.flat hr)
 · subst hh
   exact List.getElem?_set_ne (fun h=>hj (by rw [←h];exact List.mem_singleton.2 rfl))
end Go.Proofs.YtagpkhindehcbaaGreat
