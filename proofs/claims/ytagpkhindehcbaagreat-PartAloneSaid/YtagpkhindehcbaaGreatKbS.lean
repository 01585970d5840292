/-
  A part of the proof: Blocks.
-/
import Derived.Test.YtagpkhindehcbaaGreatKbR
set_option linter.unusedVariables false
set_option linter.unusedSectionVars false
set_option linter.unusedSimpArgs false
namespace Go.Proofs.YtagpkhindehcbaaGreat
open Go.Xm
variable [aC]
theorem nT {f:Nat→Int}{st:Nat}{EV:List Ev}(h:ir f st=EV) {z:Int}(hz:z=(st:Nat)) (hst:st≤64) {HS:aq}{N:Nat}(hN:HS.length=N) {HS':aq}(hh:HS++[dU EV]=HS') (hbd:Nat.blt HS'.length Mem.bound=true) :
 aG.Sound Tryz.prog ⟨90,[.agg (ti .i64 64 f),.one (.int .i64 z)],HS,iT N EV.length 3,HS',[]⟩:=by
 subst h
 exact Hh hz hst hN hh hbd
theorem uk:∀(ls:List Nat) (os HS l:aq),os.length=ls.length→(∀(j i:Nat),ls[j]? = some i→∃ o,HS[i]? = some o∧os[j]? = some o)→bM HS ls (os++l)=HS++l
 | [],[],HS,l,_,_=>by simp [bM]
 | [],_::_,_,_,h,_=>by simp at h
 | _::_,[],_,_,h,_=>by simp at h
 | i::ls,o::os,HS,l,h,hg=>by
   obtain⟨o',h1,h2⟩:=hg 0 i rfl
   have:o'=o:=by simpa using h2.symm
   subst this
   show bM (HS.set i o') ls (os++l)=_
   rw [aK h1]
   exact uk ls os HS l (by simpa using h) fun j i' hj=>hg (j+1) i' hj
set_option maxHeartbeats 1000000 in
theorem kj {bs:List Bool}{S:bX}{n:Int}(hn : -4000≤n∧n≤4000) (hb:bs.length≤800000) {HS:aq}{k:Nat}(hi:HS[0]? = some (aN k bs)) (hk:HS[k]? = some (av bs)) (hS:(HS.drop 2).take 20=dV S) (hd:(k == 1 || Nat.ble 22 k)=true) {N:Nat}(hN:HS.length=N) {HS':aq}(hh:bM HS [0,k] [aN N (bs++aV n),.dead,av (bs++aV n)]=HS') (hbd:Nat.blt HS'.length Mem.bound=true) :
 aG.Sound Tryz.prog ⟨89,[.one (.ptr 2 0),.one (.ptr 0 0),.one (.int .i64 n)],HS,.tup [],HS',0::k::bK⟩:=by
 refine Gh hn hb hi hk hS hd hN ?_ hbd
 rw [←hh]
 rw [bM,bM]
 refine uk bK (dV S) _ _ rfl fun j i hj=>?_
 have hkk:k=1∨22≤k:=by simpa [Nat.ble_eq]using hd
 have hjl:j<20:=(List.getElem?_eq_some_iff.1 hj).1
 have hq:∀ q:Fin 20,bK[q.val]? = some (q.val+2):=by decide
 have:=hq ⟨j,hjl⟩
 rw [hj]at this
 obtain rfl:i=j+2:=by simpa using this
 rw [List.getElem?_set_ne (by omega),List.getElem?_set_ne (by omega)]
 have g:HS[j+2]? = (dV S)[j]?:=by
  rw [←hS,List.getElem?_take,if_pos hjl,List.getElem?_drop]
  congr 1
  omega
 have hl:j<(dV S).length:=hjl
 exact⟨(dV S)[j],by rw [g,List.getElem?_eq_getElem hl],List.getElem?_eq_getElem hl⟩
set_option maxRecDepth 10000 in
set_option maxHeartbeats 8000000 in
theorem nG (bs bw:List Bool) (S:bX) (m:Mb) (mb:Int) (hg:jG m) (hS:gP S) (hmb:0≤mb∧mb<S.cols*S.rows) (hb:bs.length≤700000) (hbw:bw.length≤700000) (x:o4) (hx:gY m mb ⟨S,bs,0,0,fun _=>[]⟩ 6=some x) :
 bq Tryz.prog 58 [.one (.ptr 2 0),.one (.ptr 0 0),.one (.ptr 22 0),.one (.int .i64 mb),.agg (mC m)] [aN 1 bs,av bs,dS (S),cc 4 8 12,ay 5 6 7 cM,bg cM,bj cM,bh cM,ay 9 10 11 cZ,bg cZ,bj cZ,bh cZ,ay 13 14 15 cP,bg cP,bj cP,bh cP,cH 17 (S).cols (S).rows,.map (bp (S).M),.cells [.int .i64 (S).cols,.int .i64 (S).rows,.map 19,.map 20,.map 21] 171 false false,.map (ah (S).A),.map (ah (S).B),.map (ah (S).C),aN 23 bw,av bw] (.one (.int .i64 0)) [aN 24 (eF x),.dead,dS (x.S),cc 4 8 12,ay 5 6 7 cM,bg cM,bj cM,bh cM,ay 9 10 11 cZ,bg cZ,bj cZ,bh cZ,ay 13 14 15 cP,bg cP,bj cP,bh cP,cH 17 (x.S).cols (x.S).rows,.map (bp (x.S).M),.cells [.int .i64 (x.S).cols,.int .i64 (x.S).rows,.map 19,.map 20,.map 21] 171 false false,.map (ah (x.S).A),.map (ah (x.S).B),.map (ah (x.S).C),aN 25 (bC bw x 6),.dead,av (eF x),av (bC bw x 6)]:=by
 have hm:=hg.ok
 refine cO Tryz.func58 ?_
 repeat' (first
  |(refine qz ?_;first
   |refine t9 (cs:=ti .i64 384 m.lev) ?_ (hle:=by rw [aL];decide) (hc:=yP m))
  |refine zG ?_|refine zA ?_|refine cX (fun _=>?_) (fun _=>?_)|refine aS (fun _=>?_) (fun _=>?_)|refine zL ?_|refine zF ?_|fail)
 refine WX.ek (σ:=Nat × o4) (fun s=>[(26,.one (.int .i64 (s.1:Nat))),(12,.one (.int .i64 s.2.pat)),(13,.one (.int .u64 s.2.col)),(0,.one (.ptr 2 0)),(1,.one (.ptr 0 0)),(2,.one (.ptr 22 0)),(3,.one (.int .i64 mb)),(9,.one (.ptr 25 0)),(11,.one (.ptr 26 0)),(25,.agg (ti .i64 384 m.lev))])
  (fun s=>[aN 24 s.2.B,.dead,dS (s.2.S),cc 4 8 12,ay 5 6 7 cM,bg cM,bj cM,bh cM,ay 9 10 11 cZ,bg cZ,bj cZ,bh cZ,ay 13 14 15 cP,bg cP,bj cP,bh cP,cH 17 (s.2.S).cols (s.2.S).rows,.map (bp (s.2.S).M),.cells [.int .i64 (s.2.S).cols,.int .i64 (s.2.S).rows,.map 19,.map 20,.map 21] 171 false false,.map (ah (s.2.S).A),.map (ah (s.2.S).B),.map (ah (s.2.S).C),aN 23 bw,av bw,av s.2.B,GX m,Km s.2.ev,dU (s.2.ev 0),dU (s.2.ev 1),dU (s.2.ev 2),dU (s.2.ev 3),dU (s.2.ev 4),dU (s.2.ev 5)]) (yc m mb ⟨S,bs,0,0,fun _=>[]⟩) (fun s=>6-s.1) (0,⟨S,bs,0,0,fun _=>[]⟩) ⟨by show 0≤6;omega,rfl,hS,⟨rfl,rfl⟩,by show bs.length≤bs.length+76*0;omega,fun _ _=>rfl,fun _ => .inl rfl,⟨by show(0:Int)≤0;omega,by show(0:Int)<16;omega⟩,⟨by show(0:Int)≤0;omega,by show(0:Int)<4;omega⟩⟩ (fun s _=>mO) (br [0,1,2,3,4,5,6,7,8,9,10,11,12,13,14,15,16,17,18,19,20,21,22,23,1,24,25,0,0,0,0,0,0] (obj:=by(repeat' (first|exact ae.nil|refine ae.aW rfl rfl rfl rfl ?_|refine ae.flat rfl ?_|refine ae.cons rfl ?_|refine ae.dead rfl ?_|refine ae.cons (by simp only [ak.aw,List.map_cons,List.map_nil,XC.aw,au];exact rfl) ?_));first|done|fail)) ?_
 intro s hs ih
 have hD:=hs.st.dims
 have hmb':0≤mb∧mb<s.2.S.cols*s.2.S.rows:=by rw [hs.cr.1,hs.cr.2];exact hmb
 have hpat:=hs.pat
 have hcol:=hs.col
 have hlen:s.2.B.length≤bs.length+76*s.1:=hs.len
 by_cases h6:s.1<6
 · obtain ⟨r,hr⟩:∃ r,jo m s.2.S mb s.1=some r:=by
    cases hr:jo m s.2.S mb s.1 with
    | some r=>exact⟨r,rfl⟩
    | none=>
      have h1:gY m mb ⟨S,bs,0,0,fun _=>[]⟩ (s.1+1)=none:=by
       rw [gY,hs.run]
       simp only [Option.bind_some,hr,Option.map_none]
      rw [Ba h1 6 (by omega)]at hx
      cases hx
   have hN:=kQ hg hs h6 hr
   cases ha:alone m
   · have er:aD m s.1=r:=by
      unfold jo at hr
      rw [if_neg (by rw [ha];decide)]at hr
      exact Option.some.inj hr
     subst er
     obtain⟨EV,hEV⟩:∃ EV,ir (mH (ig m.edge (aR s.2.S mb s.1 m.qp).1) (aD m s.1)) 0=EV:=⟨_,rfl⟩
     have eEV:rM m s.2.S mb s.1 (aD m s.1)=EV:=by
      unfold rM
      rw [if_neg (by rw [ha];decide)]
      exact hEV
     rw [eEV]at hN
     repeat' (first
      |(refine qz ?_;first
       |refine wO (n:=384) ?_
       |refine jC ?_ (hs1:=by rw [bc]) (hs2:=by rw [bc])
       |refine jq ?_ (hle:=by first|rw [bc]|rw [aL])
       |refine cl ?_ (hi:=by exact jy (S:=s.2.S) (mb:=mb) (k:=(s.1:Nat)) (q:=m.qp) hD hmb' (by omega) rfl rfl rfl rfl rfl)
       |refine cl ?_ (hi:=by exact gp ha rfl)
       |refine cl ?_ (hi:=by exact jR rfl)
       |refine cl ?_ (hi:=by exact nV (f:=aD m s.1) (iP _ _) rfl)
       |refine cl (v := .one (.int .i64 0)) ?_ (hi:=by exact lz ha rfl)
       |refine cl ?_ (hi:=by exact nT hEV rfl (by decide) nL nA rfl)
       |refine st ?_ (hle:=by exact h6) (hv:=rfl)
       |refine ld (hc:=by exact List.getElem?_set_self (by exact h6)) ?_)
      |refine zG ?_|refine zA ?_|refine cX (fun _=>?_) (fun _=>?_)|refine aS (fun _=>?_) (fun _=>?_)|refine zL ?_|refine zF ?_|fail)
     · rename_i g0 g1
       have hE:cC m mb s.1 s.2 EV=⟨s.2.S,s.2.B,ef s.2.pat s.1,s.2.col,fun j=>if j=s.1 then EV else s.2.ev j⟩:=by
        unfold cC
        rw [if_neg (by rw [ha];decide),if_neg (by rw [ha];decide),if_pos (by omega),if_neg (by omega)]
       rw [hE]at hN
       rcases(show s.1=0∨s.1=1∨s.1=2∨s.1=3 by omega)with hk|hk|hk|hk
       · rw [hk]at hN ⊢
         refine ih (1,⟨s.2.S,s.2.B,ef s.2.pat 0,s.2.col,fun j=>if j=0 then EV else s.2.ev j⟩) _ _ _ (br [0,1,2,3,4,5,6,7,8,9,10,11,12,13,14,15,16,17,18,19,20,21,22,23,24,25,26,35,28,29,30,31,32] (obj:=by(repeat' (first|exact ae.nil|refine ae.aW rfl rfl rfl rfl ?_|refine ae.flat rfl ?_|refine ae.cons rfl ?_|refine ae.dead rfl ?_|refine ae.cons (by simp only [ak.aw,List.map_cons,List.map_nil,XC.aw,au];exact rfl) ?_));first|done|fail)) hN (by show 6-1<6-s.1;omega)
       · rw [hk]at hN ⊢
         refine ih (2,⟨s.2.S,s.2.B,ef s.2.pat 1,s.2.col,fun j=>if j=1 then EV else s.2.ev j⟩) _ _ _ (br [0,1,2,3,4,5,6,7,8,9,10,11,12,13,14,15,16,17,18,19,20,21,22,23,24,25,26,27,35,29,30,31,32] (obj:=by(repeat' (first|exact ae.nil|refine ae.aW rfl rfl rfl rfl ?_|refine ae.flat rfl ?_|refine ae.cons rfl ?_|refine ae.dead rfl ?_|refine ae.cons (by simp only [ak.aw,List.map_cons,List.map_nil,XC.aw,au];exact rfl) ?_));first|done|fail)) hN (by show 6-2<6-s.1;omega)
       · rw [hk]at hN ⊢
         refine ih (3,⟨s.2.S,s.2.B,ef s.2.pat 2,s.2.col,fun j=>if j=2 then EV else s.2.ev j⟩) _ _ _ (br [0,1,2,3,4,5,6,7,8,9,10,11,12,13,14,15,16,17,18,19,20,21,22,23,24,25,26,27,28,35,30,31,32] (obj:=by(repeat' (first|exact ae.nil|refine ae.aW rfl rfl rfl rfl ?_|refine ae.flat rfl ?_|refine ae.cons rfl ?_|refine ae.dead rfl ?_|refine ae.cons (by simp only [ak.aw,List.map_cons,List.map_nil,XC.aw,au];exact rfl) ?_));first|done|fail)) hN (by show 6-3<6-s.1;omega)
       · rw [hk]at hN ⊢
         refine ih (4,⟨s.2.S,s.2.B,ef s.2.pat 3,s.2.col,fun j=>if j=3 then EV else s.2.ev j⟩) _ _ _ (br [0,1,2,3,4,5,6,7,8,9,10,11,12,13,14,15,16,17,18,19,20,21,22,23,24,25,26,27,28,29,35,31,32] (obj:=by(repeat' (first|exact ae.nil|refine ae.aW rfl rfl rfl rfl ?_|refine ae.flat rfl ?_|refine ae.cons rfl ?_|refine ae.dead rfl ?_|refine ae.cons (by simp only [ak.aw,List.map_cons,List.map_nil,XC.aw,au];exact rfl) ?_));first|done|fail)) hN (by show 6-4<6-s.1;omega)
     · rename_i g0 g1
       have hE:cC m mb s.1 s.2 EV=⟨s.2.S,s.2.B,s.2.pat,gH s.2.col s.1,fun j=>if j=s.1 then EV else s.2.ev j⟩:=by
        unfold cC
        rw [if_neg (by rw [ha];decide),if_neg (by rw [ha];decide),if_neg (by omega),if_pos (by omega)]
       rw [hE]at hN
       rcases(show s.1=4∨s.1=5 by omega)with hk|hk
       · rw [hk]at hN ⊢
         refine ih (5,⟨s.2.S,s.2.B,s.2.pat,gH s.2.col 4,fun j=>if j=4 then EV else s.2.ev j⟩) _ _ _ (br [0,1,2,3,4,5,6,7,8,9,10,11,12,13,14,15,16,17,18,19,20,21,22,23,24,25,26,27,28,29,30,35,32] (obj:=by(repeat' (first|exact ae.nil|refine ae.aW rfl rfl rfl rfl ?_|refine ae.flat rfl ?_|refine ae.cons rfl ?_|refine ae.dead rfl ?_|refine ae.cons (by simp only [ak.aw,List.map_cons,List.map_nil,XC.aw,au];exact rfl) ?_));first|done|fail)) hN (by show 6-5<6-s.1;omega)
       · rw [hk]at hN ⊢
         refine ih (6,⟨s.2.S,s.2.B,s.2.pat,gH s.2.col 5,fun j=>if j=5 then EV else s.2.ev j⟩) _ _ _ (br [0,1,2,3,4,5,6,7,8,9,10,11,12,13,14,15,16,17,18,19,20,21,22,23,24,25,26,27,28,29,30,31,35] (obj:=by(repeat' (first|exact ae.nil|refine ae.aW rfl rfl rfl rfl ?_|refine ae.flat rfl ?_|refine ae.cons rfl ?_|refine ae.dead rfl ?_|refine ae.cons (by simp only [ak.aw,List.map_cons,List.map_nil,XC.aw,au];exact rfl) ?_));first|done|fail)) hN (by show 6-6<6-s.1;omega)
     · rename_i g0
       have hE:cC m mb s.1 s.2 EV=⟨s.2.S,s.2.B,s.2.pat,s.2.col,fun j=>if j=s.1 then EV else s.2.ev j⟩:=by
        unfold cC
        rw [if_neg (by rw [ha];decide),if_neg (by rw [ha];decide),if_neg (by omega),if_neg (by omega)]
       rw [hE]at hN
       rcases(show s.1=0∨s.1=1∨s.1=2∨s.1=3∨s.1=4∨s.1=5 by omega)with hk|hk|hk|hk|hk|hk
       · rw [hk]at hN ⊢
         refine ih (1,⟨s.2.S,s.2.B,s.2.pat,s.2.col,fun j=>if j=0 then EV else s.2.ev j⟩) _ _ _ (br [0,1,2,3,4,5,6,7,8,9,10,11,12,13,14,15,16,17,18,19,20,21,22,23,24,25,26,35,28,29,30,31,32] (obj:=by(repeat' (first|exact ae.nil|refine ae.aW rfl rfl rfl rfl ?_|refine ae.flat rfl ?_|refine ae.cons rfl ?_|refine ae.dead rfl ?_|refine ae.cons (by simp only [ak.aw,List.map_cons,List.map_nil,XC.aw,au];exact rfl) ?_));first|done|fail)) hN (by show 6-1<6-s.1;omega)
       · rw [hk]at hN ⊢
         refine ih (2,⟨s.2.S,s.2.B,s.2.pat,s.2.col,fun j=>if j=1 then EV else s.2.ev j⟩) _ _ _ (br [0,1,2,3,4,5,6,7,8,9,10,11,12,13,14,15,16,17,18,19,20,21,22,23,24,25,26,27,35,29,30,31,32] (obj:=by(repeat' (first|exact ae.nil|refine ae.aW rfl rfl rfl rfl ?_|refine ae.flat rfl ?_|refine ae.cons rfl ?_|refine ae.dead rfl ?_|refine ae.cons (by simp only [ak.aw,List.map_cons,List.map_nil,XC.aw,au];exact rfl) ?_));first|done|fail)) hN (by show 6-2<6-s.1;omega)
       · rw [hk]at hN ⊢
         refine ih (3,⟨s.2.S,s.2.B,s.2.pat,s.2.col,fun j=>if j=2 then EV else s.2.ev j⟩) _ _ _ (br [0,1,2,3,4,5,6,7,8,9,10,11,12,13,14,15,16,17,18,19,20,21,22,23,24,25,26,27,28,35,30,31,32] (obj:=by(repeat' (first|exact ae.nil|refine ae.aW rfl rfl rfl rfl ?_|refine ae.flat rfl ?_|refine ae.cons rfl ?_|refine ae.dead rfl ?_|refine ae.cons (by simp only [ak.aw,List.map_cons,List.map_nil,XC.aw,au];exact rfl) ?_));first|done|fail)) hN (by show 6-3<6-s.1;omega)
       · rw [hk]at hN ⊢
         refine ih (4,⟨s.2.S,s.2.B,s.2.pat,s.2.col,fun j=>if j=3 then EV else s.2.ev j⟩) _ _ _ (br [0,1,2,3,4,5,6,7,8,9,10,11,12,13,14,15,16,17,18,19,20,21,22,23,24,25,26,27,28,29,35,31,32] (obj:=by(repeat' (first|exact ae.nil|refine ae.aW rfl rfl rfl rfl ?_|refine ae.flat rfl ?_|refine ae.cons rfl ?_|refine ae.dead rfl ?_|refine ae.cons (by simp only [ak.aw,List.map_cons,List.map_nil,XC.aw,au];exact rfl) ?_));first|done|fail)) hN (by show 6-4<6-s.1;omega)
       · rw [hk]at hN ⊢
         refine ih (5,⟨s.2.S,s.2.B,s.2.pat,s.2.col,fun j=>if j=4 then EV else s.2.ev j⟩) _ _ _ (br [0,1,2,3,4,5,6,7,8,9,10,11,12,13,14,15,16,17,18,19,20,21,22,23,24,25,26,27,28,29,30,35,32] (obj:=by(repeat' (first|exact ae.nil|refine ae.aW rfl rfl rfl rfl ?_|refine ae.flat rfl ?_|refine ae.cons rfl ?_|refine ae.dead rfl ?_|refine ae.cons (by simp only [ak.aw,List.map_cons,List.map_nil,XC.aw,au];exact rfl) ?_));first|done|fail)) hN (by show 6-5<6-s.1;omega)
       · rw [hk]at hN ⊢
         refine ih (6,⟨s.2.S,s.2.B,s.2.pat,s.2.col,fun j=>if j=5 then EV else s.2.ev j⟩) _ _ _ (br [0,1,2,3,4,5,6,7,8,9,10,11,12,13,14,15,16,17,18,19,20,21,22,23,24,25,26,27,28,29,30,31,35] (obj:=by(repeat' (first|exact ae.nil|refine ae.aW rfl rfl rfl rfl ?_|refine ae.flat rfl ?_|refine ae.cons rfl ?_|refine ae.dead rfl ?_|refine ae.cons (by simp only [ak.aw,List.map_cons,List.map_nil,XC.aw,au];exact rfl) ?_));first|done|fail)) hN (by show 6-6<6-s.1;omega)
   · cases he:m.edge
     · have he':m.edge=false:=he
       have hl6:(mC m)[6]? = some (.bool false):=congrArg (fun b=>some (XC.bool b)) he'
       have hfr:=jD s.2.S mb s.1 m.qp
       have hfi:0≤m.lev ((s.1:Int).toNat*64+0)∧m.lev ((s.1:Int).toNat*64+0)≤127:=hg.first ha s.1 h6
       have hdr:=kT hg (S:=s.2.S) (mb:=mb) ha h6
       have er:fw (aD m s.1) 0 0=r:=by
        unfold jo at hr
        rw [if_pos ha,if_neg (by rw [he'];decide)]at hr
        exact Option.some.inj hr
       subst er
       obtain⟨EV,hEV⟩:∃ EV,ir (mH (ig false (aR s.2.S mb s.1 m.qp).1) (fw (aD m s.1) 0 0)) 1=EV:=⟨_,rfl⟩
       have eEV:rM m s.2.S mb s.1 (fw (aD m s.1) 0 0)=EV:=by
        unfold rM
        rw [if_pos ha,he']
        exact hEV
       rw [eEV]at hN
       repeat' (first
        |(refine qz ?_;first
         |refine ld (hc:=hl6) ?_
         |refine wO (n:=384) ?_
         |refine jC ?_ (hs1:=by rw [bc]) (hs2:=by rw [bc])
         |refine jq ?_ (hle:=by first|rw [bc]|rw [aL])
         |refine cl ?_ (hi:=by exact jy (S:=s.2.S) (mb:=mb) (k:=(s.1:Nat)) (q:=m.qp) hD hmb' (by omega) rfl rfl rfl rfl rfl)
         |refine cl ?_ (hi:=by exact gp ha rfl)
         |refine cl ?_ (hi:=by exact jR rfl)
         |refine K6 ?_ (hi:=by exact kj (n:=aD m s.1 0-(aR s.2.S mb s.1 m.qp).2) hdr (bs:=s.2.B) (by omega) rfl rfl (S:=s.2.S) rfl rfl nL nA rfl)
         |refine cl ?_ (hi:=by exact kj (n:=aD m s.1 0-(aR s.2.S mb s.1 m.qp).2) hdr (bs:=s.2.B) (by omega) rfl rfl (S:=s.2.S) rfl rfl nL nA rfl)
         |refine cl ?_ (hi:=by exact nY (S:=s.2.S) (mb:=mb) (k:=(s.1:Nat)) (b:=⟨aD m s.1,m.qp⟩) hD hmb' (by omega) rfl rfl rfl rfl nA rfl)
         |refine cl ?_ (hi:=by exact nV (f:=fw (aD m s.1) 0 0) (iP _ _) rfl)
         |refine cl (v := .one (.int .i64 1)) ?_ (hi:=by exact lz ha rfl)
         |refine cl ?_ (hi:=by exact nT hEV rfl (by decide) nL nA rfl)
         |refine st ?_ (hle:=by exact h6) (hv:=rfl)
         |refine ld (hc:=by exact List.getElem?_set_self (by exact h6)) ?_)
        |refine zG ?_|refine zA ?_|refine cX (fun _=>?_) (fun _=>?_)|refine aS (fun _=>?_) (fun _=>?_)|refine zL ?_|refine zF ?_|fail)
       · rename_i g0 g1
         have hE:cC m mb s.1 s.2 EV=⟨aZ s.2.S mb s.1 ⟨aD m s.1,m.qp⟩,s.2.B++aV (aD m s.1 0-(aR s.2.S mb s.1 m.qp).2),ef s.2.pat s.1,s.2.col,fun j=>if j=s.1 then EV else s.2.ev j⟩:=by
          unfold cC
          rw [if_pos ha,if_pos ha,if_pos (by omega),if_neg (by omega)]
         rw [hE]at hN
         rcases(show s.1=0∨s.1=1∨s.1=2∨s.1=3 by omega)with hk|hk|hk|hk
         · rw [hk]at hN ⊢
           refine ih (1,⟨aZ s.2.S mb 0 ⟨aD m 0,m.qp⟩,s.2.B++aV (aD m 0 0-(aR s.2.S mb 0 m.qp).2),ef s.2.pat 0,s.2.col,fun j=>if j=0 then EV else s.2.ev j⟩) _ _ _ (br [0,1,2,3,4,5,6,7,8,9,10,11,12,13,14,15,16,17,18,19,20,21,22,23,35,25,26,36,28,29,30,31,32] (obj:=by(repeat' (first|exact ae.nil|refine ae.aW rfl rfl rfl rfl ?_|refine ae.flat rfl ?_|refine ae.cons rfl ?_|refine ae.dead rfl ?_|refine ae.cons (by simp only [ak.aw,List.map_cons,List.map_nil,XC.aw,au];exact rfl) ?_));first|done|fail)) hN (by show 6-1<6-s.1;omega)
         · rw [hk]at hN ⊢
           refine ih (2,⟨aZ s.2.S mb 1 ⟨aD m 1,m.qp⟩,s.2.B++aV (aD m 1 0-(aR s.2.S mb 1 m.qp).2),ef s.2.pat 1,s.2.col,fun j=>if j=1 then EV else s.2.ev j⟩) _ _ _ (br [0,1,2,3,4,5,6,7,8,9,10,11,12,13,14,15,16,17,18,19,20,21,22,23,35,25,26,27,36,29,30,31,32] (obj:=by(repeat' (first|exact ae.nil|refine ae.aW rfl rfl rfl rfl ?_|refine ae.flat rfl ?_|refine ae.cons rfl ?_|refine ae.dead rfl ?_|refine ae.cons (by simp only [ak.aw,List.map_cons,List.map_nil,XC.aw,au];exact rfl) ?_));first|done|fail)) hN (by show 6-2<6-s.1;omega)
         · rw [hk]at hN ⊢
           refine ih (3,⟨aZ s.2.S mb 2 ⟨aD m 2,m.qp⟩,s.2.B++aV (aD m 2 0-(aR s.2.S mb 2 m.qp).2),ef s.2.pat 2,s.2.col,fun j=>if j=2 then EV else s.2.ev j⟩) _ _ _ (br [0,1,2,3,4,5,6,7,8,9,10,11,12,13,14,15,16,17,18,19,20,21,22,23,35,25,26,27,28,36,30,31,32] (obj:=by(repeat' (first|exact ae.nil|refine ae.aW rfl rfl rfl rfl ?_|refine ae.flat rfl ?_|refine ae.cons rfl ?_|refine ae.dead rfl ?_|refine ae.cons (by simp only [ak.aw,List.map_cons,List.map_nil,XC.aw,au];exact rfl) ?_));first|done|fail)) hN (by show 6-3<6-s.1;omega)
         · rw [hk]at hN ⊢
           refine ih (4,⟨aZ s.2.S mb 3 ⟨aD m 3,m.qp⟩,s.2.B++aV (aD m 3 0-(aR s.2.S mb 3 m.qp).2),ef s.2.pat 3,s.2.col,fun j=>if j=3 then EV else s.2.ev j⟩) _ _ _ (br [0,1,2,3,4,5,6,7,8,9,10,11,12,13,14,15,16,17,18,19,20,21,22,23,35,25,26,27,28,29,36,31,32] (obj:=by(repeat' (first|exact ae.nil|refine ae.aW rfl rfl rfl rfl ?_|refine ae.flat rfl ?_|refine ae.cons rfl ?_|refine ae.dead rfl ?_|refine ae.cons (by simp only [ak.aw,List.map_cons,List.map_nil,XC.aw,au];exact rfl) ?_));first|done|fail)) hN (by show 6-4<6-s.1;omega)
       · rename_i g0 g1
         have hE:cC m mb s.1 s.2 EV=⟨aZ s.2.S mb s.1 ⟨aD m s.1,m.qp⟩,s.2.B++aV (aD m s.1 0-(aR s.2.S mb s.1 m.qp).2),s.2.pat,gH s.2.col s.1,fun j=>if j=s.1 then EV else s.2.ev j⟩:=by
          unfold cC
          rw [if_pos ha,if_pos ha,if_neg (by omega),if_pos (by omega)]
         rw [hE]at hN
         rcases(show s.1=4∨s.1=5 by omega)with hk|hk
         · rw [hk]at hN ⊢
           refine ih (5,⟨aZ s.2.S mb 4 ⟨aD m 4,m.qp⟩,s.2.B++aV (aD m 4 0-(aR s.2.S mb 4 m.qp).2),s.2.pat,gH s.2.col 4,fun j=>if j=4 then EV else s.2.ev j⟩) _ _ _ (br [0,1,2,3,4,5,6,7,8,9,10,11,12,13,14,15,16,17,18,19,20,21,22,23,35,25,26,27,28,29,30,36,32] (obj:=by(repeat' (first|exact ae.nil|refine ae.aW rfl rfl rfl rfl ?_|refine ae.flat rfl ?_|refine ae.cons rfl ?_|refine ae.dead rfl ?_|refine ae.cons (by simp only [ak.aw,List.map_cons,List.map_nil,XC.aw,au];exact rfl) ?_));first|done|fail)) hN (by show 6-5<6-s.1;omega)
         · rw [hk]at hN ⊢
           refine ih (6,⟨aZ s.2.S mb 5 ⟨aD m 5,m.qp⟩,s.2.B++aV (aD m 5 0-(aR s.2.S mb 5 m.qp).2),s.2.pat,gH s.2.col 5,fun j=>if j=5 then EV else s.2.ev j⟩) _ _ _ (br [0,1,2,3,4,5,6,7,8,9,10,11,12,13,14,15,16,17,18,19,20,21,22,23,35,25,26,27,28,29,30,31,36] (obj:=by(repeat' (first|exact ae.nil|refine ae.aW rfl rfl rfl rfl ?_|refine ae.flat rfl ?_|refine ae.cons rfl ?_|refine ae.dead rfl ?_|refine ae.cons (by simp only [ak.aw,List.map_cons,List.map_nil,XC.aw,au];exact rfl) ?_));first|done|fail)) hN (by show 6-6<6-s.1;omega)
       · rename_i g0
         have hE:cC m mb s.1 s.2 EV=⟨aZ s.2.S mb s.1 ⟨aD m s.1,m.qp⟩,s.2.B++aV (aD m s.1 0-(aR s.2.S mb s.1 m.qp).2),s.2.pat,s.2.col,fun j=>if j=s.1 then EV else s.2.ev j⟩:=by
          unfold cC
          rw [if_pos ha,if_pos ha,if_neg (by omega),if_neg (by omega)]
         rw [hE]at hN
         rcases(show s.1=0∨s.1=1∨s.1=2∨s.1=3∨s.1=4∨s.1=5 by omega)with hk|hk|hk|hk|hk|hk
         · rw [hk]at hN ⊢
           refine ih (1,⟨aZ s.2.S mb 0 ⟨aD m 0,m.qp⟩,s.2.B++aV (aD m 0 0-(aR s.2.S mb 0 m.qp).2),s.2.pat,s.2.col,fun j=>if j=0 then EV else s.2.ev j⟩) _ _ _ (br [0,1,2,3,4,5,6,7,8,9,10,11,12,13,14,15,16,17,18,19,20,21,22,23,35,25,26,36,28,29,30,31,32] (obj:=by(repeat' (first|exact ae.nil|refine ae.aW rfl rfl rfl rfl ?_|refine ae.flat rfl ?_|refine ae.cons rfl ?_|refine ae.dead rfl ?_|refine ae.cons (by simp only [ak.aw,List.map_cons,List.map_nil,XC.aw,au];exact rfl) ?_));first|done|fail)) hN (by show 6-1<6-s.1;omega)
         · rw [hk]at hN ⊢
           refine ih (2,⟨aZ s.2.S mb 1 ⟨aD m 1,m.qp⟩,s.2.B++aV (aD m 1 0-(aR s.2.S mb 1 m.qp).2),s.2.pat,s.2.col,fun j=>if j=1 then EV else s.2.ev j⟩) _ _ _ (br [0,1,2,3,4,5,6,7,8,9,10,11,12,13,14,15,16,17,18,19,20,21,22,23,35,25,26,27,36,29,30,31,32] (obj:=by(repeat' (first|exact ae.nil|refine ae.aW rfl rfl rfl rfl ?_|refine ae.flat rfl ?_|refine ae.cons rfl ?_|refine ae.dead rfl ?_|refine ae.cons (by simp only [ak.aw,List.map_cons,List.map_nil,XC.aw,au];exact rfl) ?_));first|done|fail)) hN (by show 6-2<6-s.1;omega)
         · rw [hk]at hN ⊢
           refine ih (3,⟨aZ s.2.S mb 2 ⟨aD m 2,m.qp⟩,s.2.B++aV (aD m 2 0-(aR s.2.S mb 2 m.qp).2),s.2.pat,s.2.col,fun j=>if j=2 then EV else s.2.ev j⟩) _ _ _ (br [0,1,2,3,4,5,6,7,8,9,10,11,12,13,14,15,16,17,18,19,20,21,22,23,35,25,26,27,28,36,30,31,32] (obj:=by(repeat' (first|exact ae.nil|refine ae.aW rfl rfl rfl rfl ?_|refine ae.flat rfl ?_|refine ae.cons rfl ?_|refine ae.dead rfl ?_|refine ae.cons (by simp only [ak.aw,List.map_cons,List.map_nil,XC.aw,au];exact rfl) ?_));first|done|fail)) hN (by show 6-3<6-s.1;omega)
         · rw [hk]at hN ⊢
           refine ih (4,⟨aZ s.2.S mb 3 ⟨aD m 3,m.qp⟩,s.2.B++aV (aD m 3 0-(aR s.2.S mb 3 m.qp).2),s.2.pat,s.2.col,fun j=>if j=3 then EV else s.2.ev j⟩) _ _ _ (br [0,1,2,3,4,5,6,7,8,9,10,11,12,13,14,15,16,17,18,19,20,21,22,23,35,25,26,27,28,29,36,31,32] (obj:=by(repeat' (first|exact ae.nil|refine ae.aW rfl rfl rfl rfl ?_|refine ae.flat rfl ?_|refine ae.cons rfl ?_|refine ae.dead rfl ?_|refine ae.cons (by simp only [ak.aw,List.map_cons,List.map_nil,XC.aw,au];exact rfl) ?_));first|done|fail)) hN (by show 6-4<6-s.1;omega)
         · rw [hk]at hN ⊢
           refine ih (5,⟨aZ s.2.S mb 4 ⟨aD m 4,m.qp⟩,s.2.B++aV (aD m 4 0-(aR s.2.S mb 4 m.qp).2),s.2.pat,s.2.col,fun j=>if j=4 then EV else s.2.ev j⟩) _ _ _ (br [0,1,2,3,4,5,6,7,8,9,10,11,12,13,14,15,16,17,18,19,20,21,22,23,35,25,26,27,28,29,30,36,32] (obj:=by(repeat' (first|exact ae.nil|refine ae.aW rfl rfl rfl rfl ?_|refine ae.flat rfl ?_|refine ae.cons rfl ?_|refine ae.dead rfl ?_|refine ae.cons (by simp only [ak.aw,List.map_cons,List.map_nil,XC.aw,au];exact rfl) ?_));first|done|fail)) hN (by show 6-5<6-s.1;omega)
         · rw [hk]at hN ⊢
           refine ih (6,⟨aZ s.2.S mb 5 ⟨aD m 5,m.qp⟩,s.2.B++aV (aD m 5 0-(aR s.2.S mb 5 m.qp).2),s.2.pat,s.2.col,fun j=>if j=5 then EV else s.2.ev j⟩) _ _ _ (br [0,1,2,3,4,5,6,7,8,9,10,11,12,13,14,15,16,17,18,19,20,21,22,23,35,25,26,27,28,29,30,31,36] (obj:=by(repeat' (first|exact ae.nil|refine ae.aW rfl rfl rfl rfl ?_|refine ae.flat rfl ?_|refine ae.cons rfl ?_|refine ae.dead rfl ?_|refine ae.cons (by simp only [ak.aw,List.map_cons,List.map_nil,XC.aw,au];exact rfl) ?_));first|done|fail)) hN (by show 6-6<6-s.1;omega)
     · have he':m.edge=true:=he
       have hl6:(mC m)[6]? = some (.bool true):=congrArg (fun b=>some (XC.bool b)) he'
       have hfr:=jD s.2.S mb s.1 m.qp
       have hfi:0≤m.lev ((s.1:Int).toNat*64+0)∧m.lev ((s.1:Int).toNat*64+0)≤127:=hg.first ha s.1 h6
       have hdr:=kT hg (S:=s.2.S) (mb:=mb) ha h6
       obtain⟨R,hR,er⟩:∃ R,pk (aD m s.1) (nh s.2.S mb s.1 m.qp)=some R∧fw R 0 0=r:=by
        unfold jo at hr
        rw [if_pos ha,if_pos he']at hr
        exact Option.map_eq_some_iff.1 hr
       subst er
       obtain⟨EV,hEV⟩:∃ EV,ir (mH (ig true (aR s.2.S mb s.1 m.qp).1) (fw (R) 0 0)) 1=EV:=⟨_,rfl⟩
       have eEV:rM m s.2.S mb s.1 (fw (R) 0 0)=EV:=by
        unfold rM
        rw [if_pos ha,he']
        exact hEV
       rw [eEV]at hN
       repeat' (first
        |(refine qz ?_;first
         |refine ld (hc:=hl6) ?_
         |refine wO (n:=384) ?_
         |refine jC ?_ (hs1:=by rw [bc]) (hs2:=by rw [bc])
         |refine jq ?_ (hle:=by first|rw [bc]|rw [aL])
         |refine cl ?_ (hi:=by exact jy (S:=s.2.S) (mb:=mb) (k:=(s.1:Nat)) (q:=m.qp) hD hmb' (by omega) rfl rfl rfl rfl rfl)
         |refine cl ?_ (hi:=by exact gp ha rfl)
         |refine cl ?_ (hi:=by exact jR rfl)
         |refine cl ?_ (hi:=by exact sT (S:=s.2.S) (mb:=mb) (k:=(s.1:Nat)) (q:=m.qp) hD hmb' (by omega) rfl rfl rfl rfl rfl)
         |refine cl (v := .tup [.agg (ti .i64 64 R),.one (.bool true)]) ?_ (hi:=by exact u5 (l:=aD m s.1) (fun i=>hm.lev _) (oW (fun dx dy b hb=>yT hs.st.lev hb)) hR rfl)
         |refine K6 ?_ (hi:=by exact kj (n:=aD m s.1 0-(aR s.2.S mb s.1 m.qp).2) hdr (bs:=s.2.B) (by omega) rfl rfl (S:=s.2.S) rfl rfl nL nA rfl)
         |refine cl ?_ (hi:=by exact kj (n:=aD m s.1 0-(aR s.2.S mb s.1 m.qp).2) hdr (bs:=s.2.B) (by omega) rfl rfl (S:=s.2.S) rfl rfl nL nA rfl)
         |refine cl ?_ (hi:=by exact nY (S:=s.2.S) (mb:=mb) (k:=(s.1:Nat)) (b:=⟨aD m s.1,m.qp⟩) hD hmb' (by omega) rfl rfl rfl rfl nA rfl)
         |refine cl ?_ (hi:=by exact nV (f:=fw (R) 0 0) (iP _ _) rfl)
         |refine cl (v := .one (.int .i64 1)) ?_ (hi:=by exact lz ha rfl)
         |refine cl ?_ (hi:=by exact nT hEV rfl (by decide) nL nA rfl)
         |refine st ?_ (hle:=by exact h6) (hv:=rfl)
         |refine ld (hc:=by exact List.getElem?_set_self (by exact h6)) ?_)
        |refine zG ?_|refine zA ?_|refine cX (fun _=>?_) (fun _=>?_)|refine aS (fun _=>?_) (fun _=>?_)|refine LZ (id:=10) 14 ?_|refine zL ?_|refine zF ?_|fail)
       · rename_i g0 g1
         have hE:cC m mb s.1 s.2 EV=⟨aZ s.2.S mb s.1 ⟨aD m s.1,m.qp⟩,s.2.B++aV (aD m s.1 0-(aR s.2.S mb s.1 m.qp).2),ef s.2.pat s.1,s.2.col,fun j=>if j=s.1 then EV else s.2.ev j⟩:=by
          unfold cC
          rw [if_pos ha,if_pos ha,if_pos (by omega),if_neg (by omega)]
         rw [hE]at hN
         rcases(show s.1=0∨s.1=1∨s.1=2∨s.1=3 by omega)with hk|hk|hk|hk
         · rw [hk]at hN ⊢
           refine ih (1,⟨aZ s.2.S mb 0 ⟨aD m 0,m.qp⟩,s.2.B++aV (aD m 0 0-(aR s.2.S mb 0 m.qp).2),ef s.2.pat 0,s.2.col,fun j=>if j=0 then EV else s.2.ev j⟩) _ _ _ (br [0,1,2,3,4,5,6,7,8,9,10,11,12,13,14,15,16,17,18,19,20,21,22,23,36,25,26,37,28,29,30,31,32] (obj:=by(repeat' (first|exact ae.nil|refine ae.aW rfl rfl rfl rfl ?_|refine ae.flat rfl ?_|refine ae.cons rfl ?_|refine ae.dead rfl ?_|refine ae.cons (by simp only [ak.aw,List.map_cons,List.map_nil,XC.aw,au];exact rfl) ?_));first|done|fail)) hN (by show 6-1<6-s.1;omega)
         · rw [hk]at hN ⊢
           refine ih (2,⟨aZ s.2.S mb 1 ⟨aD m 1,m.qp⟩,s.2.B++aV (aD m 1 0-(aR s.2.S mb 1 m.qp).2),ef s.2.pat 1,s.2.col,fun j=>if j=1 then EV else s.2.ev j⟩) _ _ _ (br [0,1,2,3,4,5,6,7,8,9,10,11,12,13,14,15,16,17,18,19,20,21,22,23,36,25,26,27,37,29,30,31,32] (obj:=by(repeat' (first|exact ae.nil|refine ae.aW rfl rfl rfl rfl ?_|refine ae.flat rfl ?_|refine ae.cons rfl ?_|refine ae.dead rfl ?_|refine ae.cons (by simp only [ak.aw,List.map_cons,List.map_nil,XC.aw,au];exact rfl) ?_));first|done|fail)) hN (by show 6-2<6-s.1;omega)
         · rw [hk]at hN ⊢
           refine ih (3,⟨aZ s.2.S mb 2 ⟨aD m 2,m.qp⟩,s.2.B++aV (aD m 2 0-(aR s.2.S mb 2 m.qp).2),ef s.2.pat 2,s.2.col,fun j=>if j=2 then EV else s.2.ev j⟩) _ _ _ (br [0,1,2,3,4,5,6,7,8,9,10,11,12,13,14,15,16,17,18,19,20,21,22,23,36,25,26,27,28,37,30,31,32] (obj:=by(repeat' (first|exact ae.nil|refine ae.aW rfl rfl rfl rfl ?_|refine ae.flat rfl ?_|refine ae.cons rfl ?_|refine ae.dead rfl ?_|refine ae.cons (by simp only [ak.aw,List.map_cons,List.map_nil,XC.aw,au];exact rfl) ?_));first|done|fail)) hN (by show 6-3<6-s.1;omega)
         · rw [hk]at hN ⊢
           refine ih (4,⟨aZ s.2.S mb 3 ⟨aD m 3,m.qp⟩,s.2.B++aV (aD m 3 0-(aR s.2.S mb 3 m.qp).2),ef s.2.pat 3,s.2.col,fun j=>if j=3 then EV else s.2.ev j⟩) _ _ _ (br [0,1,2,3,4,5,6,7,8,9,10,11,12,13,14,15,16,17,18,19,20,21,22,23,36,25,26,27,28,29,37,31,32] (obj:=by(repeat' (first|exact ae.nil|refine ae.aW rfl rfl rfl rfl ?_|refine ae.flat rfl ?_|refine ae.cons rfl ?_|refine ae.dead rfl ?_|refine ae.cons (by simp only [ak.aw,List.map_cons,List.map_nil,XC.aw,au];exact rfl) ?_));first|done|fail)) hN (by show 6-4<6-s.1;omega)
       · rename_i g0 g1
         have hE:cC m mb s.1 s.2 EV=⟨aZ s.2.S mb s.1 ⟨aD m s.1,m.qp⟩,s.2.B++aV (aD m s.1 0-(aR s.2.S mb s.1 m.qp).2),s.2.pat,gH s.2.col s.1,fun j=>if j=s.1 then EV else s.2.ev j⟩:=by
          unfold cC
          rw [if_pos ha,if_pos ha,if_neg (by omega),if_pos (by omega)]
         rw [hE]at hN
         rcases(show s.1=4∨s.1=5 by omega)with hk|hk
         · rw [hk]at hN ⊢
           refine ih (5,⟨aZ s.2.S mb 4 ⟨aD m 4,m.qp⟩,s.2.B++aV (aD m 4 0-(aR s.2.S mb 4 m.qp).2),s.2.pat,gH s.2.col 4,fun j=>if j=4 then EV else s.2.ev j⟩) _ _ _ (br [0,1,2,3,4,5,6,7,8,9,10,11,12,13,14,15,16,17,18,19,20,21,22,23,36,25,26,27,28,29,30,37,32] (obj:=by(repeat' (first|exact ae.nil|refine ae.aW rfl rfl rfl rfl ?_|refine ae.flat rfl ?_|refine ae.cons rfl ?_|refine ae.dead rfl ?_|refine ae.cons (by simp only [ak.aw,List.map_cons,List.map_nil,XC.aw,au];exact rfl) ?_));first|done|fail)) hN (by show 6-5<6-s.1;omega)
         · rw [hk]at hN ⊢
           refine ih (6,⟨aZ s.2.S mb 5 ⟨aD m 5,m.qp⟩,s.2.B++aV (aD m 5 0-(aR s.2.S mb 5 m.qp).2),s.2.pat,gH s.2.col 5,fun j=>if j=5 then EV else s.2.ev j⟩) _ _ _ (br [0,1,2,3,4,5,6,7,8,9,10,11,12,13,14,15,16,17,18,19,20,21,22,23,36,25,26,27,28,29,30,31,37] (obj:=by(repeat' (first|exact ae.nil|refine ae.aW rfl rfl rfl rfl ?_|refine ae.flat rfl ?_|refine ae.cons rfl ?_|refine ae.dead rfl ?_|refine ae.cons (by simp only [ak.aw,List.map_cons,List.map_nil,XC.aw,au];exact rfl) ?_));first|done|fail)) hN (by show 6-6<6-s.1;omega)
       · rename_i g0
         have hE:cC m mb s.1 s.2 EV=⟨aZ s.2.S mb s.1 ⟨aD m s.1,m.qp⟩,s.2.B++aV (aD m s.1 0-(aR s.2.S mb s.1 m.qp).2),s.2.pat,s.2.col,fun j=>if j=s.1 then EV else s.2.ev j⟩:=by
          unfold cC
          rw [if_pos ha,if_pos ha,if_neg (by omega),if_neg (by omega)]
         rw [hE]at hN
         rcases(show s.1=0∨s.1=1∨s.1=2∨s.1=3∨s.1=4∨s.1=5 by omega)with hk|hk|hk|hk|hk|hk
         · rw [hk]at hN ⊢
           refine ih (1,⟨aZ s.2.S mb 0 ⟨aD m 0,m.qp⟩,s.2.B++aV (aD m 0 0-(aR s.2.S mb 0 m.qp).2),s.2.pat,s.2.col,fun j=>if j=0 then EV else s.2.ev j⟩) _ _ _ (br [0,1,2,3,4,5,6,7,8,9,10,11,12,13,14,15,16,17,18,19,20,21,22,23,36,25,26,37,28,29,30,31,32] (obj:=by(repeat' (first|exact ae.nil|refine ae.aW rfl rfl rfl rfl ?_|refine ae.flat rfl ?_|refine ae.cons rfl ?_|refine ae.dead rfl ?_|refine ae.cons (by simp only [ak.aw,List.map_cons,List.map_nil,XC.aw,au];exact rfl) ?_));first|done|fail)) hN (by show 6-1<6-s.1;omega)
         · rw [hk]at hN ⊢
           refine ih (2,⟨aZ s.2.S mb 1 ⟨aD m 1,m.qp⟩,s.2.B++aV (aD m 1 0-(aR s.2.S mb 1 m.qp).2),s.2.pat,s.2.col,fun j=>if j=1 then EV else s.2.ev j⟩) _ _ _ (br [0,1,2,3,4,5,6,7,8,9,10,11,12,13,14,15,16,17,18,19,20,21,22,23,36,25,26,27,37,29,30,31,32] (obj:=by(repeat' (first|exact ae.nil|refine ae.aW rfl rfl rfl rfl ?_|refine ae.flat rfl ?_|refine ae.cons rfl ?_|refine ae.dead rfl ?_|refine ae.cons (by simp only [ak.aw,List.map_cons,List.map_nil,XC.aw,au];exact rfl) ?_));first|done|fail)) hN (by show 6-2<6-s.1;omega)
         · rw [hk]at hN ⊢
           refine ih (3,⟨aZ s.2.S mb 2 ⟨aD m 2,m.qp⟩,s.2.B++aV (aD m 2 0-(aR s.2.S mb 2 m.qp).2),s.2.pat,s.2.col,fun j=>if j=2 then EV else s.2.ev j⟩) _ _ _ (br [0,1,2,3,4,5,6,7,8,9,10,11,12,13,14,15,16,17,18,19,20,21,22,23,36,25,26,27,28,37,30,31,32] (obj:=by(repeat' (first|exact ae.nil|refine ae.aW rfl rfl rfl rfl ?_|refine ae.flat rfl ?_|refine ae.cons rfl ?_|refine ae.dead rfl ?_|refine ae.cons (by simp only [ak.aw,List.map_cons,List.map_nil,XC.aw,au];exact rfl) ?_));first|done|fail)) hN (by show 6-3<6-s.1;omega)
         · rw [hk]at hN ⊢
           refine ih (4,⟨aZ s.2.S mb 3 ⟨aD m 3,m.qp⟩,s.2.B++aV (aD m 3 0-(aR s.2.S mb 3 m.qp).2),s.2.pat,s.2.col,fun j=>if j=3 then EV else s.2.ev j⟩) _ _ _ (br [0,1,2,3,4,5,6,7,8,9,10,11,12,13,14,15,16,17,18,19,20,21,22,23,36,25,26,27,28,29,37,31,32] (obj:=by(repeat' (first|exact ae.nil|refine ae.aW rfl rfl rfl rfl ?_|refine ae.flat rfl ?_|refine ae.cons rfl ?_|refine ae.dead rfl ?_|refine ae.cons (by simp only [ak.aw,List.map_cons,List.map_nil,XC.aw,au];exact rfl) ?_));first|done|fail)) hN (by show 6-4<6-s.1;omega)
         · rw [hk]at hN ⊢
           refine ih (5,⟨aZ s.2.S mb 4 ⟨aD m 4,m.qp⟩,s.2.B++aV (aD m 4 0-(aR s.2.S mb 4 m.qp).2),s.2.pat,s.2.col,fun j=>if j=4 then EV else s.2.ev j⟩) _ _ _ (br [0,1,2,3,4,5,6,7,8,9,10,11,12,13,14,15,16,17,18,19,20,21,22,23,36,25,26,27,28,29,30,37,32] (obj:=by(repeat' (first|exact ae.nil|refine ae.aW rfl rfl rfl rfl ?_|refine ae.flat rfl ?_|refine ae.cons rfl ?_|refine ae.dead rfl ?_|refine ae.cons (by simp only [ak.aw,List.map_cons,List.map_nil,XC.aw,au];exact rfl) ?_));first|done|fail)) hN (by show 6-5<6-s.1;omega)
         · rw [hk]at hN ⊢
           refine ih (6,⟨aZ s.2.S mb 5 ⟨aD m 5,m.qp⟩,s.2.B++aV (aD m 5 0-(aR s.2.S mb 5 m.qp).2),s.2.pat,s.2.col,fun j=>if j=5 then EV else s.2.ev j⟩) _ _ _ (br [0,1,2,3,4,5,6,7,8,9,10,11,12,13,14,15,16,17,18,19,20,21,22,23,36,25,26,27,28,29,30,31,37] (obj:=by(repeat' (first|exact ae.nil|refine ae.aW rfl rfl rfl rfl ?_|refine ae.flat rfl ?_|refine ae.cons rfl ?_|refine ae.dead rfl ?_|refine ae.cons (by simp only [ak.aw,List.map_cons,List.map_nil,XC.aw,au];exact rfl) ?_));first|done|fail)) hN (by show 6-6<6-s.1;omega)
 · have h66:s.1=6:=by have:=hs.le;omega
   have hxs:s.2=x:=by
    have h1:=hs.run
    rw [h66,hx]at h1
    exact(Option.some.inj h1).symm
   have hcl:=jA zZ x.pat.toNat
   have hevs:=hs.evs
   rw [hxs]at hpat hcol hlen hevs ⊢
   have hpn:x.pat=(x.pat.toNat:Nat):=by omega
   repeat' (first
    |(refine qz ?_;first
     |refine cl ?_ (hi:=by exact pc (C:=cP) zZ (n:=x.pat.toNat) hpn (by show x.pat.toNat<16;omega) (bs:=x.B) (by omega) rfl rfl rfl rfl rfl rfl (by decide) nL nA rfl)
     |refine cl ?_ (hi:=by exact gE (n:=x.col) (size:=2) rfl (bs:=x.B++c7 cP x.pat.toNat) (by omega) (by decide) (by rw [List.length_append];omega) rfl rfl (by decide) nL nA rfl))
    |refine zG ?_|refine zA ?_|refine cX (fun _=>?_) (fun _=>?_)|refine aS (fun _=>?_) (fun _=>?_)|refine zL ?_|refine zF ?_|fail)
   refine WX.ek (σ:=Nat) (fun j=>[(125,.one (.int .i64 (j:Nat))),(2,.one (.ptr 22 0)),(124,.agg [mc 26 (x.ev 0).length 3,mc 27 (x.ev 1).length 3,mc 28 (x.ev 2).length 3,mc 29 (x.ev 3).length 3,mc 30 (x.ev 4).length 3,mc 31 (x.ev 5).length 3])]) (fun j=>[aN 24 (eF x),.dead,dS (x.S),cc 4 8 12,ay 5 6 7 cM,bg cM,bj cM,bh cM,ay 9 10 11 cZ,bg cZ,bj cZ,bh cZ,ay 13 14 15 cP,bg cP,bj cP,bh cP,cH 17 (x.S).cols (x.S).rows,.map (bp (x.S).M),.cells [.int .i64 (x.S).cols,.int .i64 (x.S).rows,.map 19,.map 20,.map 21] 171 false false,.map (ah (x.S).A),.map (ah (x.S).B),.map (ah (x.S).C),aN 25 (bC bw x j),.dead,av (eF x),av (bC bw x j),dU (x.ev 0),dU (x.ev 1),dU (x.ev 2),dU (x.ev 3),dU (x.ev 4),dU (x.ev 5)]) (fun j=>j≤6) (fun j=>6-j) 0 (by omega) (fun s _=>mO) (br [0,1,2,3,4,5,6,7,8,9,10,11,12,13,14,15,16,17,18,19,20,21,22,23,34,23,27,28,29,30,31,32] (obj:=by(repeat' (first|exact ae.nil|refine ae.aW rfl rfl rfl rfl ?_|refine ae.flat rfl ?_|refine ae.cons rfl ?_|refine ae.dead rfl ?_|refine ae.cons (by simp only [ak.aw,List.map_cons,List.map_nil,XC.aw,au];exact rfl) ?_));first|done|fail) (reg:=by(repeat' (first|exact af.nil|refine af.cons (by simp only [XV.aw,List.map_cons,List.map_nil,au];rfl) ?_|refine af.flat rfl ?_|refine af.cons rfl ?_|refine af.sl rfl (by assumption) rfl ?_|refine af.dX rfl rfl (by first|rfl|omega|(simp;done)|(simp;omega)) ?_));first|done|fail)) ?_
   intro j hj ih2
   by_cases hj6:j<6
   · have hW:=pW (bw:=bw) hevs j
     rcases(show j=0∨j=1∨j=2∨j=3∨j=4∨j=5 by omega)with rfl|rfl|rfl|rfl|rfl|rfl
     · by_cases hl0:(x.ev 0).length=0
       · have e0:x.ev 0 = []:=List.length_eq_zero_iff.1 hl0
         have eW:bC bw x (0+1)=bC bw x 0:=(show bC bw x (0+1)=bC bw x 0++fB (x.ev 0)from rfl).trans (by rw [e0];exact List.append_nil _)
         repeat' (first
          |(refine qz ?_;first
           |refine r8 ?_)
          |refine zG ?_|refine zA ?_|refine cX (fun _=>?_) (fun _=>?_)|refine aS (fun _=>?_) (fun _=>?_)|refine zL ?_|refine zF ?_|fail)
         refine ih2 (0+1) _ _ _ (br [0,1,2,3,4,5,6,7,8,9,10,11,12,13,14,15,16,17,18,19,20,21,22,23,24,25,26,27,28,29,30,31] (obj:=by(repeat' (first|exact ae.nil|refine ae.flat (by rw [eW];rfl) ?_|refine ae.aW rfl rfl rfl rfl ?_|refine ae.aW (by rw [eW];rfl) rfl rfl rfl ?_|refine ae.flat rfl ?_|refine ae.cons rfl ?_|refine ae.dead rfl ?_|refine ae.cons (by simp only [ak.aw,List.map_cons,List.map_nil,XC.aw,au];exact rfl) ?_));first|done|fail) (reg:=by(repeat' (first|exact af.nil|refine af.cons (by simp only [XV.aw,List.map_cons,List.map_nil,au];rfl) ?_|refine af.flat rfl ?_|refine af.cons rfl ?_|refine af.sl rfl (by assumption) rfl ?_|refine af.dX rfl rfl (by first|rfl|omega|(simp;done)|(simp;omega)) ?_));first|done|fail)) (by omega) (by omega)
       · have ho:kf (x.ev 0):=(hevs 0).resolve_left (fun h=>hl0 (by rw [h];rfl))
         repeat' (first
          |(refine qz ?_;first
           |refine r8 ?_
           |refine cl ?_ (hi:=by exact nH (bs:=bC bw x 0) (l:=x.ev 0) ho (by omega) rfl rfl rfl (by decide) nL nA rfl))
          |refine zG ?_|refine zA ?_|refine cX (fun _=>?_) (fun _=>?_)|refine aS (fun _=>?_) (fun _=>?_)|refine zL ?_|refine zF ?_|fail)
         refine ih2 (0+1) _ _ _ (br [0,1,2,3,4,5,6,7,8,9,10,11,12,13,14,15,16,17,18,19,20,21,22,23,24,32,26,27,28,29,30,31] (obj:=by(repeat' (first|exact ae.nil|refine ae.aW rfl rfl rfl rfl ?_|refine ae.flat rfl ?_|refine ae.cons rfl ?_|refine ae.dead rfl ?_|refine ae.cons (by simp only [ak.aw,List.map_cons,List.map_nil,XC.aw,au];exact rfl) ?_));first|done|fail) (reg:=by(repeat' (first|exact af.nil|refine af.cons (by simp only [XV.aw,List.map_cons,List.map_nil,au];rfl) ?_|refine af.flat rfl ?_|refine af.cons rfl ?_|refine af.sl rfl (by assumption) rfl ?_|refine af.dX rfl rfl (by first|rfl|omega|(simp;done)|(simp;omega)) ?_));first|done|fail)) (by omega) (by omega)
     · by_cases hl0:(x.ev 1).length=0
       · have e0:x.ev 1 = []:=List.length_eq_zero_iff.1 hl0
         have eW:bC bw x (1+1)=bC bw x 1:=(show bC bw x (1+1)=bC bw x 1++fB (x.ev 1)from rfl).trans (by rw [e0];exact List.append_nil _)
         repeat' (first
          |(refine qz ?_;first
           |refine r8 ?_)
          |refine zG ?_|refine zA ?_|refine cX (fun _=>?_) (fun _=>?_)|refine aS (fun _=>?_) (fun _=>?_)|refine zL ?_|refine zF ?_|fail)
         refine ih2 (1+1) _ _ _ (br [0,1,2,3,4,5,6,7,8,9,10,11,12,13,14,15,16,17,18,19,20,21,22,23,24,25,26,27,28,29,30,31] (obj:=by(repeat' (first|exact ae.nil|refine ae.flat (by rw [eW];rfl) ?_|refine ae.aW rfl rfl rfl rfl ?_|refine ae.aW (by rw [eW];rfl) rfl rfl rfl ?_|refine ae.flat rfl ?_|refine ae.cons rfl ?_|refine ae.dead rfl ?_|refine ae.cons (by simp only [ak.aw,List.map_cons,List.map_nil,XC.aw,au];exact rfl) ?_));first|done|fail) (reg:=by(repeat' (first|exact af.nil|refine af.cons (by simp only [XV.aw,List.map_cons,List.map_nil,au];rfl) ?_|refine af.flat rfl ?_|refine af.cons rfl ?_|refine af.sl rfl (by assumption) rfl ?_|refine af.dX rfl rfl (by first|rfl|omega|(simp;done)|(simp;omega)) ?_));first|done|fail)) (by omega) (by omega)
       · have ho:kf (x.ev 1):=(hevs 1).resolve_left (fun h=>hl0 (by rw [h];rfl))
         repeat' (first
          |(refine qz ?_;first
           |refine r8 ?_
           |refine cl ?_ (hi:=by exact nH (bs:=bC bw x 1) (l:=x.ev 1) ho (by omega) rfl rfl rfl (by decide) nL nA rfl))
          |refine zG ?_|refine zA ?_|refine cX (fun _=>?_) (fun _=>?_)|refine aS (fun _=>?_) (fun _=>?_)|refine zL ?_|refine zF ?_|fail)
         refine ih2 (1+1) _ _ _ (br [0,1,2,3,4,5,6,7,8,9,10,11,12,13,14,15,16,17,18,19,20,21,22,23,24,32,26,27,28,29,30,31] (obj:=by(repeat' (first|exact ae.nil|refine ae.aW rfl rfl rfl rfl ?_|refine ae.flat rfl ?_|refine ae.cons rfl ?_|refine ae.dead rfl ?_|refine ae.cons (by simp only [ak.aw,List.map_cons,List.map_nil,XC.aw,au];exact rfl) ?_));first|done|fail) (reg:=by(repeat' (first|exact af.nil|refine af.cons (by simp only [XV.aw,List.map_cons,List.map_nil,au];rfl) ?_|refine af.flat rfl ?_|refine af.cons rfl ?_|refine af.sl rfl (by assumption) rfl ?_|refine af.dX rfl rfl (by first|rfl|omega|(simp;done)|(simp;omega)) ?_));first|done|fail)) (by omega) (by omega)
     · by_cases hl0:(x.ev 2).length=0
       · have e0:x.ev 2 = []:=List.length_eq_zero_iff.1 hl0
         have eW:bC bw x (2+1)=bC bw x 2:=(show bC bw x (2+1)=bC bw x 2++fB (x.ev 2)from rfl).trans (by rw [e0];exact List.append_nil _)
         repeat' (first
          |(refine qz ?_;first
           |refine r8 ?_)
          |refine zG ?_|refine zA ?_|refine cX (fun _=>?_) (fun _=>?_)|refine aS (fun _=>?_) (fun _=>?_)|refine zL ?_|refine zF ?_|fail)
         refine ih2 (2+1) _ _ _ (br [0,1,2,3,4,5,6,7,8,9,10,11,12,13,14,15,16,17,18,19,20,21,22,23,24,25,26,27,28,29,30,31] (obj:=by(repeat' (first|exact ae.nil|refine ae.flat (by rw [eW];rfl) ?_|refine ae.aW rfl rfl rfl rfl ?_|refine ae.aW (by rw [eW];rfl) rfl rfl rfl ?_|refine ae.flat rfl ?_|refine ae.cons rfl ?_|refine ae.dead rfl ?_|refine ae.cons (by simp only [ak.aw,List.map_cons,List.map_nil,XC.aw,au];exact rfl) ?_));first|done|fail) (reg:=by(repeat' (first|exact af.nil|refine af.cons (by simp only [XV.aw,List.map_cons,List.map_nil,au];rfl) ?_|refine af.flat rfl ?_|refine af.cons rfl ?_|refine af.sl rfl (by assumption) rfl ?_|refine af.dX rfl rfl (by first|rfl|omega|(simp;done)|(simp;omega)) ?_));first|done|fail)) (by omega) (by omega)
       · have ho:kf (x.ev 2):=(hevs 2).resolve_left (fun h=>hl0 (by rw [h];rfl))
         repeat' (first
          |(refine qz ?_;first
           |refine r8 ?_
           |refine cl ?_ (hi:=by exact nH (bs:=bC bw x 2) (l:=x.ev 2) ho (by omega) rfl rfl rfl (by decide) nL nA rfl))
          |refine zG ?_|refine zA ?_|refine cX (fun _=>?_) (fun _=>?_)|refine aS (fun _=>?_) (fun _=>?_)|refine zL ?_|refine zF ?_|fail)
         refine ih2 (2+1) _ _ _ (br [0,1,2,3,4,5,6,7,8,9,10,11,12,13,14,15,16,17,18,19,20,21,22,23,24,32,26,27,28,29,30,31] (obj:=by(repeat' (first|exact ae.nil|refine ae.aW rfl rfl rfl rfl ?_|refine ae.flat rfl ?_|refine ae.cons rfl ?_|refine ae.dead rfl ?_|refine ae.cons (by simp only [ak.aw,List.map_cons,List.map_nil,XC.aw,au];exact rfl) ?_));first|done|fail) (reg:=by(repeat' (first|exact af.nil|refine af.cons (by simp only [XV.aw,List.map_cons,List.map_nil,au];rfl) ?_|refine af.flat rfl ?_|refine af.cons rfl ?_|refine af.sl rfl (by assumption) rfl ?_|refine af.dX rfl rfl (by first|rfl|omega|(simp;done)|(simp;omega)) ?_));first|done|fail)) (by omega) (by omega)
     · by_cases hl0:(x.ev 3).length=0
       · have e0:x.ev 3 = []:=List.length_eq_zero_iff.1 hl0
         have eW:bC bw x (3+1)=bC bw x 3:=(show bC bw x (3+1)=bC bw x 3++fB (x.ev 3)from rfl).trans (by rw [e0];exact List.append_nil _)
         repeat' (first
          |(refine qz ?_;first
           |refine r8 ?_)
          |refine zG ?_|refine zA ?_|refine cX (fun _=>?_) (fun _=>?_)|refine aS (fun _=>?_) (fun _=>?_)|refine zL ?_|refine zF ?_|fail)
         refine ih2 (3+1) _ _ _ (br [0,1,2,3,4,5,6,7,8,9,10,11,12,13,14,15,16,17,18,19,20,21,22,23,24,25,26,27,28,29,30,31] (obj:=by(repeat' (first|exact ae.nil|refine ae.flat (by rw [eW];rfl) ?_|refine ae.aW rfl rfl rfl rfl ?_|refine ae.aW (by rw [eW];rfl) rfl rfl rfl ?_|refine ae.flat rfl ?_|refine ae.cons rfl ?_|refine ae.dead rfl ?_|refine ae.cons (by simp only [ak.aw,List.map_cons,List.map_nil,XC.aw,au];exact rfl) ?_));first|done|fail) (reg:=by(repeat' (first|exact af.nil|refine af.cons (by simp only [XV.aw,List.map_cons,List.map_nil,au];rfl) ?_|refine af.flat rfl ?_|refine af.cons rfl ?_|refine af.sl rfl (by assumption) rfl ?_|refine af.dX rfl rfl (by first|rfl|omega|(simp;done)|(simp;omega)) ?_));first|done|fail)) (by omega) (by omega)
       · have ho:kf (x.ev 3):=(hevs 3).resolve_left (fun h=>hl0 (by rw [h];rfl))
         repeat' (first
          |(refine qz ?_;first
           |refine r8 ?_
           |refine cl ?_ (hi:=by exact nH (bs:=bC bw x 3) (l:=x.ev 3) ho (by omega) rfl rfl rfl (by decide) nL nA rfl))
          |refine zG ?_|refine zA ?_|refine cX (fun _=>?_) (fun _=>?_)|refine aS (fun _=>?_) (fun _=>?_)|refine zL ?_|refine zF ?_|fail)
         refine ih2 (3+1) _ _ _ (br [0,1,2,3,4,5,6,7,8,9,10,11,12,13,14,15,16,17,18,19,20,21,22,23,24,32,26,27,28,29,30,31] (obj:=by(repeat' (first|exact ae.nil|refine ae.aW rfl rfl rfl rfl ?_|refine ae.flat rfl ?_|refine ae.cons rfl ?_|refine ae.dead rfl ?_|refine ae.cons (by simp only [ak.aw,List.map_cons,List.map_nil,XC.aw,au];exact rfl) ?_));first|done|fail) (reg:=by(repeat' (first|exact af.nil|refine af.cons (by simp only [XV.aw,List.map_cons,List.map_nil,au];rfl) ?_|refine af.flat rfl ?_|refine af.cons rfl ?_|refine af.sl rfl (by assumption) rfl ?_|refine af.dX rfl rfl (by first|rfl|omega|(simp;done)|(simp;omega)) ?_));first|done|fail)) (by omega) (by omega)
     · by_cases hl0:(x.ev 4).length=0
       · have e0:x.ev 4 = []:=List.length_eq_zero_iff.1 hl0
         have eW:bC bw x (4+1)=bC bw x 4:=(show bC bw x (4+1)=bC bw x 4++fB (x.ev 4)from rfl).trans (by rw [e0];exact List.append_nil _)
         repeat' (first
          |(refine qz ?_;first
           |refine r8 ?_)
          |refine zG ?_|refine zA ?_|refine cX (fun _=>?_) (fun _=>?_)|refine aS (fun _=>?_) (fun _=>?_)|refine zL ?_|refine zF ?_|fail)
         refine ih2 (4+1) _ _ _ (br [0,1,2,3,4,5,6,7,8,9,10,11,12,13,14,15,16,17,18,19,20,21,22,23,24,25,26,27,28,29,30,31] (obj:=by(repeat' (first|exact ae.nil|refine ae.flat (by rw [eW];rfl) ?_|refine ae.aW rfl rfl rfl rfl ?_|refine ae.aW (by rw [eW];rfl) rfl rfl rfl ?_|refine ae.flat rfl ?_|refine ae.cons rfl ?_|refine ae.dead rfl ?_|refine ae.cons (by simp only [ak.aw,List.map_cons,List.map_nil,XC.aw,au];exact rfl) ?_));first|done|fail) (reg:=by(repeat' (first|exact af.nil|refine af.cons (by simp only [XV.aw,List.map_cons,List.map_nil,au];rfl) ?_|refine af.flat rfl ?_|refine af.cons rfl ?_|refine af.sl rfl (by assumption) rfl ?_|refine af.dX rfl rfl (by first|rfl|omega|(simp;done)|(simp;omega)) ?_));first|done|fail)) (by omega) (by omega)
       · have ho:kf (x.ev 4):=(hevs 4).resolve_left (fun h=>hl0 (by rw [h];rfl))
         repeat' (first
          |(refine qz ?_;first
           |refine r8 ?_
           |refine cl ?_ (hi:=by exact nH (bs:=bC bw x 4) (l:=x.ev 4) ho (by omega) rfl rfl rfl (by decide) nL nA rfl))
          |refine zG ?_|refine zA ?_|refine cX (fun _=>?_) (fun _=>?_)|refine aS (fun _=>?_) (fun _=>?_)|refine zL ?_|refine zF ?_|fail)
         refine ih2 (4+1) _ _ _ (br [0,1,2,3,4,5,6,7,8,9,10,11,12,13,14,15,16,17,18,19,20,21,22,23,24,32,26,27,28,29,30,31] (obj:=by(repeat' (first|exact ae.nil|refine ae.aW rfl rfl rfl rfl ?_|refine ae.flat rfl ?_|refine ae.cons rfl ?_|refine ae.dead rfl ?_|refine ae.cons (by simp only [ak.aw,List.map_cons,List.map_nil,XC.aw,au];exact rfl) ?_));first|done|fail) (reg:=by(repeat' (first|exact af.nil|refine af.cons (by simp only [XV.aw,List.map_cons,List.map_nil,au];rfl) ?_|refine af.flat rfl ?_|refine af.cons rfl ?_|refine af.sl rfl (by assumption) rfl ?_|refine af.dX rfl rfl (by first|rfl|omega|(simp;done)|(simp;omega)) ?_));first|done|fail)) (by omega) (by omega)
     · by_cases hl0:(x.ev 5).length=0
       · have e0:x.ev 5 = []:=List.length_eq_zero_iff.1 hl0
         have eW:bC bw x (5+1)=bC bw x 5:=(show bC bw x (5+1)=bC bw x 5++fB (x.ev 5)from rfl).trans (by rw [e0];exact List.append_nil _)
         repeat' (first
          |(refine qz ?_;first
           |refine r8 ?_)
          |refine zG ?_|refine zA ?_|refine cX (fun _=>?_) (fun _=>?_)|refine aS (fun _=>?_) (fun _=>?_)|refine zL ?_|refine zF ?_|fail)
         refine ih2 (5+1) _ _ _ (br [0,1,2,3,4,5,6,7,8,9,10,11,12,13,14,15,16,17,18,19,20,21,22,23,24,25,26,27,28,29,30,31] (obj:=by(repeat' (first|exact ae.nil|refine ae.flat (by rw [eW];rfl) ?_|refine ae.aW rfl rfl rfl rfl ?_|refine ae.aW (by rw [eW];rfl) rfl rfl rfl ?_|refine ae.flat rfl ?_|refine ae.cons rfl ?_|refine ae.dead rfl ?_|refine ae.cons (by simp only [ak.aw,List.map_cons,List.map_nil,XC.aw,au];exact rfl) ?_));first|done|fail) (reg:=by(repeat' (first|exact af.nil|refine af.cons (by simp only [XV.aw,List.map_cons,List.map_nil,au];rfl) ?_|refine af.flat rfl ?_|refine af.cons rfl ?_|refine af.sl rfl (by assumption) rfl ?_|refine af.dX rfl rfl (by first|rfl|omega|(simp;done)|(simp;omega)) ?_));first|done|fail)) (by omega) (by omega)
       · have ho:kf (x.ev 5):=(hevs 5).resolve_left (fun h=>hl0 (by rw [h];rfl))
         repeat' (first
          |(refine qz ?_;first
           |refine r8 ?_
           |refine cl ?_ (hi:=by exact nH (bs:=bC bw x 5) (l:=x.ev 5) ho (by omega) rfl rfl rfl (by decide) nL nA rfl))
          |refine zG ?_|refine zA ?_|refine cX (fun _=>?_) (fun _=>?_)|refine aS (fun _=>?_) (fun _=>?_)|refine zL ?_|refine zF ?_|fail)
         refine ih2 (5+1) _ _ _ (br [0,1,2,3,4,5,6,7,8,9,10,11,12,13,14,15,16,17,18,19,20,21,22,23,24,32,26,27,28,29,30,31] (obj:=by(repeat' (first|exact ae.nil|refine ae.aW rfl rfl rfl rfl ?_|refine ae.flat rfl ?_|refine ae.cons rfl ?_|refine ae.dead rfl ?_|refine ae.cons (by simp only [ak.aw,List.map_cons,List.map_nil,XC.aw,au];exact rfl) ?_));first|done|fail) (reg:=by(repeat' (first|exact af.nil|refine af.cons (by simp only [XV.aw,List.map_cons,List.map_nil,au];rfl) ?_|refine af.flat rfl ?_|refine af.cons rfl ?_|refine af.sl rfl (by assumption) rfl ?_|refine af.dX rfl rfl (by first|rfl|omega|(simp;done)|(simp;omega)) ?_));first|done|fail)) (by omega) (by omega)
   · obtain rfl:j=6:=by omega
     repeat' (first|refine zG ?_|refine zA ?_|refine cX (fun _=>?_) (fun _=>?_)|refine aS (fun _=>?_) (fun _=>?_)|refine zL ?_|refine zF ?_|fail)
     show aF _ _ _ _ _ _ _ _;refine kV [0,1,2,3,4,5,6,7,8,9,10,11,12,13,14,15,16,17,18,19,20,21,22,23,24,25] ?_
     rfl
end Go.Proofs.YtagpkhindehcbaaGreat
