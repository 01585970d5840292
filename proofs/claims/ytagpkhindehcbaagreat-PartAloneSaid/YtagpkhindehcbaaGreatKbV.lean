/-
  A part of the proof: Put2.
-/
import Derived.Test.YtagpkhindehcbaaGreatKbU
set_option linter.unusedVariables false
set_option linter.unusedSectionVars false
set_option linter.unusedSimpArgs false
namespace Go.Proofs.YtagpkhindehcbaaGreat
open Go.Xm
variable [aC]
set_option maxRecDepth 10000 in
set_option maxHeartbeats 4000000 in
theorem KX {S:bX}{B bw:List Bool}{m:Mb}{mb:Int}(hP:kg S B bw m mb) (hk:m.kind=2) (x:o4) (hx:gY m mb ⟨ba (ax m mb (ax m mb (ax m mb (ax m mb (S,B++aA S m) 0) 1) 2) 3).1 mb m.v,(ax m mb (ax m mb (ax m mb (ax m mb (S,B++aA S m) 0) 1) 2) 3).2,0,0,fun _=>[]⟩ 6=some x) :
 bq Tryz.prog 29 [.one (.ptr 2 0),.one (.ptr 0 0),.one (.ptr 22 0),.one (.int .i64 mb),.agg (mC m)] [aN 1 B,av B,dS (S),cc 4 8 12,ay 5 6 7 cM,bg cM,bj cM,bh cM,ay 9 10 11 cZ,bg cZ,bj cZ,bh cZ,ay 13 14 15 cP,bg cP,bj cP,bh cP,cH 17 (S).cols (S).rows,.map (bp (S).M),.cells [.int .i64 (S).cols,.int .i64 (S).rows,.map 19,.map 20,.map 21] 171 false false,.map (ah (S).A),.map (ah (S).B),.map (ah (S).C),aN 23 bw,av bw] (.one (.int .i64 0)) [aN 24 (eF x),.dead,dS (x.S),cc 4 8 12,ay 5 6 7 cM,bg cM,bj cM,bh cM,ay 9 10 11 cZ,bg cZ,bj cZ,bh cZ,ay 13 14 15 cP,bg cP,bj cP,bh cP,cH 17 (x.S).cols (x.S).rows,.map (bp (x.S).M),.cells [.int .i64 (x.S).cols,.int .i64 (x.S).rows,.map 19,.map 20,.map 21] 171 false false,.map (ah (x.S).A),.map (ah (x.S).B),.map (ah (x.S).C),aN 25 (bC bw x 6),.dead,av (eF x),av (bC bw x 6)]:=by
 have hg:=hP.good
 have hm:=hg.ok
 have hD:=hP.st.dims
 have hmb:=hP.mb
 have hlen:=hP.len
 have hkl:=fu S m
 have hK:=ia B S m hm hg.kind hP.qp (by omega)
 rw [dA (by omega)]at hK
 have ht0:cg (S.M):=hP.st.tiny
 have hl0:=fW (m.v 0) (cf (S.M) S.cols S.rows mb 0)
 have ht1:cg (aX (S.M) S.cols mb 0 (m.v 0)):=bE ht0 (hm.v 0)
 have hl1:=fW (m.v 1) (cf (aX (S.M) S.cols mb 0 (m.v 0)) S.cols S.rows mb 1)
 have ht2:cg (aX (aX (S.M) S.cols mb 0 (m.v 0)) S.cols mb 1 (m.v 1)):=bE ht1 (hm.v 1)
 have hl2:=fW (m.v 2) (cf (aX (aX (S.M) S.cols mb 0 (m.v 0)) S.cols mb 1 (m.v 1)) S.cols S.rows mb 2)
 have ht3:cg (aX (aX (aX (S.M) S.cols mb 0 (m.v 0)) S.cols mb 1 (m.v 1)) S.cols mb 2 (m.v 2)):=bE ht2 (hm.v 2)
 have hl3:=fW (m.v 3) (cf (aX (aX (aX (S.M) S.cols mb 0 (m.v 0)) S.cols mb 1 (m.v 1)) S.cols mb 2 (m.v 2)) S.cols S.rows mb 3)
 have htE:cg (aX (aX (aX (aX (S.M) S.cols mb 0 (m.v 0)) S.cols mb 1 (m.v 1)) S.cols mb 2 (m.v 2)) S.cols mb 3 (m.v 3)):=bE ht3 (hm.v 3)
 have hS2:gP (ba (ax m mb (ax m mb (ax m mb (ax m mb (S,B++aA S m) 0) 1) 2) 3).1 mb m.v):=⟨hD,hP.st.lev,eg htE hm.v⟩
 have hB2:((ax m mb (ax m mb (ax m mb (ax m mb (S,B++aA S m) 0) 1) 2) 3).2).length≤700000:=by
  show((((((B++aA S m)++cG (m.v 0) (cf (S.M) S.cols S.rows mb 0))++cG (m.v 1) (cf (aX (S.M) S.cols mb 0 (m.v 0)) S.cols S.rows mb 1))++cG (m.v 2) (cf (aX (aX (S.M) S.cols mb 0 (m.v 0)) S.cols mb 1 (m.v 1)) S.cols S.rows mb 2))++cG (m.v 3) (cf (aX (aX (aX (S.M) S.cols mb 0 (m.v 0)) S.cols mb 1 (m.v 1)) S.cols mb 2 (m.v 2)) S.cols S.rows mb 3))).length≤700000
  simp only [List.length_append,List.length_cons,List.length_nil]
  omega
 refine cO Tryz.func29 ?_
 repeat' (first
  |(refine qz ?_;first
   |refine jq ?_ (hle:=by rw [aL])
   |refine cl ?_ (hi:=by exact pH (S:=S) (S':=S) (bs:=B) (bs':=B++aA S m) (fun _ => .flat .nil) (.flat .nil) rfl hK rfl rfl rfl rfl nL nA rfl)
   |refine cl ?_ (hi:=by exact eZ (M:=S.M) (k:=0) ht0 hD hmb (by decide) (i:=16) (j:=17) rfl rfl (by decide) rfl)
   |refine cl ?_ (hi:=by exact iZ (bs:=(B++aA S m)) (v:=m.v 0) (e:=cf (S.M) S.cols S.rows mb 0) (hm.v 0) (cR ht0) (hP.right 0 (by decide)) (by simp only [List.length_append];omega) rfl rfl (by decide) nL nA rfl)
   |refine cl ?_ (hi:=by exact dc (M:=S.M) (k:=0) (v:=m.v 0) hD hmb (by decide) (i:=16) (j:=17) rfl rfl (by decide) nA rfl)
   |refine cl ?_ (hi:=by exact eZ (M:=aX (S.M) S.cols mb 0 (m.v 0)) (k:=1) ht1 hD hmb (by decide) (i:=16) (j:=17) rfl rfl (by decide) rfl)
   |refine cl ?_ (hi:=by exact iZ (bs:=((B++aA S m)++cG (m.v 0) (cf (S.M) S.cols S.rows mb 0))) (v:=m.v 1) (e:=cf (aX (S.M) S.cols mb 0 (m.v 0)) S.cols S.rows mb 1) (hm.v 1) (cR ht1) (hP.right 1 (by decide)) (by simp only [List.length_append];omega) rfl rfl (by decide) nL nA rfl)
   |refine cl ?_ (hi:=by exact dc (M:=aX (S.M) S.cols mb 0 (m.v 0)) (k:=1) (v:=m.v 1) hD hmb (by decide) (i:=16) (j:=17) rfl rfl (by decide) nA rfl)
   |refine cl ?_ (hi:=by exact eZ (M:=aX (aX (S.M) S.cols mb 0 (m.v 0)) S.cols mb 1 (m.v 1)) (k:=2) ht2 hD hmb (by decide) (i:=16) (j:=17) rfl rfl (by decide) rfl)
   |refine cl ?_ (hi:=by exact iZ (bs:=(((B++aA S m)++cG (m.v 0) (cf (S.M) S.cols S.rows mb 0))++cG (m.v 1) (cf (aX (S.M) S.cols mb 0 (m.v 0)) S.cols S.rows mb 1))) (v:=m.v 2) (e:=cf (aX (aX (S.M) S.cols mb 0 (m.v 0)) S.cols mb 1 (m.v 1)) S.cols S.rows mb 2) (hm.v 2) (cR ht2) (hP.right 2 (by decide)) (by simp only [List.length_append];omega) rfl rfl (by decide) nL nA rfl)
   |refine cl ?_ (hi:=by exact dc (M:=aX (aX (S.M) S.cols mb 0 (m.v 0)) S.cols mb 1 (m.v 1)) (k:=2) (v:=m.v 2) hD hmb (by decide) (i:=16) (j:=17) rfl rfl (by decide) nA rfl)
   |refine cl ?_ (hi:=by exact eZ (M:=aX (aX (aX (S.M) S.cols mb 0 (m.v 0)) S.cols mb 1 (m.v 1)) S.cols mb 2 (m.v 2)) (k:=3) ht3 hD hmb (by decide) (i:=16) (j:=17) rfl rfl (by decide) rfl)
   |refine cl ?_ (hi:=by exact iZ (bs:=((((B++aA S m)++cG (m.v 0) (cf (S.M) S.cols S.rows mb 0))++cG (m.v 1) (cf (aX (S.M) S.cols mb 0 (m.v 0)) S.cols S.rows mb 1))++cG (m.v 2) (cf (aX (aX (S.M) S.cols mb 0 (m.v 0)) S.cols mb 1 (m.v 1)) S.cols S.rows mb 2))) (v:=m.v 3) (e:=cf (aX (aX (aX (S.M) S.cols mb 0 (m.v 0)) S.cols mb 1 (m.v 1)) S.cols mb 2 (m.v 2)) S.cols S.rows mb 3) (hm.v 3) (cR ht3) (hP.right 3 (by decide)) (by simp only [List.length_append];omega) rfl rfl (by decide) nL nA rfl)
   |refine cl ?_ (hi:=by exact dc (M:=aX (aX (aX (S.M) S.cols mb 0 (m.v 0)) S.cols mb 1 (m.v 1)) S.cols mb 2 (m.v 2)) (k:=3) (v:=m.v 3) hD hmb (by decide) (i:=16) (j:=17) rfl rfl (by decide) nA rfl)
   |refine cl ?_ (hi:=by exact iw (S:=(ax m mb (ax m mb (ax m mb (ax m mb (S,B++aA S m) 0) 1) 2) 3).1) (bs:=(ax m mb (ax m mb (ax m mb (ax m mb (S,B++aA S m) 0) 1) 2) 3).2) hD hmb rfl rfl rfl rfl nA rfl)
   |refine cl ?_ (hi:=by exact nF (B:=(ax m mb (ax m mb (ax m mb (ax m mb (S,B++aA S m) 0) 1) 2) 3).2) (S:=ba (ax m mb (ax m mb (ax m mb (ax m mb (S,B++aA S m) 0) 1) 2) 3).1 mb m.v) (nG ((ax m mb (ax m mb (ax m mb (ax m mb (S,B++aA S m) 0) 1) 2) 3).2) bw (ba (ax m mb (ax m mb (ax m mb (ax m mb (S,B++aA S m) 0) 1) 2) 3).1 mb m.v) m mb hg hS2 hmb hB2 (by have:=hP.lenw;omega) x hx) rfl rfl rfl rfl rfl rfl nL nA rfl))
  |refine zG ?_|refine zA ?_|refine cX (fun _=>?_) (fun _=>?_)|refine aS (fun _=>?_) (fun _=>?_)|refine WX.loop ?_|refine WX.round ?_|refine zL ?_|refine zF ?_|fail)
 show aF _ _ _ _ _ _ _ _;refine kV [0,1,2,3,4,5,6,7,8,9,10,11,12,13,14,15,16,17,18,19,20,21,22,23,30,31] ?_
 rfl
set_option maxRecDepth 10000 in
set_option maxHeartbeats 4000000 in
theorem JF {S:bX}{B bw:List Bool}{m:Mb}{mb:Int}(hP:kg S B bw m mb) (hk:m.kind=2) (hx:gY m mb ⟨ba (ax m mb (ax m mb (ax m mb (ax m mb (S,B++aA S m) 0) 1) 2) 3).1 mb m.v,(ax m mb (ax m mb (ax m mb (ax m mb (S,B++aA S m) 0) 1) 2) 3).2,0,0,fun _=>[]⟩ 6=none) :
 bq Tryz.prog 29 [.one (.ptr 2 0),.one (.ptr 0 0),.one (.ptr 22 0),.one (.int .i64 mb),.agg (mC m)] [aN 1 B,av B,dS (S),cc 4 8 12,ay 5 6 7 cM,bg cM,bj cM,bh cM,ay 9 10 11 cZ,bg cZ,bj cZ,bh cZ,ay 13 14 15 cP,bg cP,bj cP,bh cP,cH 17 (S).cols (S).rows,.map (bp (S).M),.cells [.int .i64 (S).cols,.int .i64 (S).rows,.map 19,.map 20,.map 21] 171 false false,.map (ah (S).A),.map (ah (S).B),.map (ah (S).C),aN 23 bw,av bw] (.one (.int .i64 2)) mD:=by
 have hg:=hP.good
 have hm:=hg.ok
 have hD:=hP.st.dims
 have hmb:=hP.mb
 have hlen:=hP.len
 have hkl:=fu S m
 have hK:=ia B S m hm hg.kind hP.qp (by omega)
 rw [dA (by omega)]at hK
 have ht0:cg (S.M):=hP.st.tiny
 have hl0:=fW (m.v 0) (cf (S.M) S.cols S.rows mb 0)
 have ht1:cg (aX (S.M) S.cols mb 0 (m.v 0)):=bE ht0 (hm.v 0)
 have hl1:=fW (m.v 1) (cf (aX (S.M) S.cols mb 0 (m.v 0)) S.cols S.rows mb 1)
 have ht2:cg (aX (aX (S.M) S.cols mb 0 (m.v 0)) S.cols mb 1 (m.v 1)):=bE ht1 (hm.v 1)
 have hl2:=fW (m.v 2) (cf (aX (aX (S.M) S.cols mb 0 (m.v 0)) S.cols mb 1 (m.v 1)) S.cols S.rows mb 2)
 have ht3:cg (aX (aX (aX (S.M) S.cols mb 0 (m.v 0)) S.cols mb 1 (m.v 1)) S.cols mb 2 (m.v 2)):=bE ht2 (hm.v 2)
 have hl3:=fW (m.v 3) (cf (aX (aX (aX (S.M) S.cols mb 0 (m.v 0)) S.cols mb 1 (m.v 1)) S.cols mb 2 (m.v 2)) S.cols S.rows mb 3)
 have htE:cg (aX (aX (aX (aX (S.M) S.cols mb 0 (m.v 0)) S.cols mb 1 (m.v 1)) S.cols mb 2 (m.v 2)) S.cols mb 3 (m.v 3)):=bE ht3 (hm.v 3)
 have hS2:gP (ba (ax m mb (ax m mb (ax m mb (ax m mb (S,B++aA S m) 0) 1) 2) 3).1 mb m.v):=⟨hD,hP.st.lev,eg htE hm.v⟩
 have hB2:((ax m mb (ax m mb (ax m mb (ax m mb (S,B++aA S m) 0) 1) 2) 3).2).length≤700000:=by
  show((((((B++aA S m)++cG (m.v 0) (cf (S.M) S.cols S.rows mb 0))++cG (m.v 1) (cf (aX (S.M) S.cols mb 0 (m.v 0)) S.cols S.rows mb 1))++cG (m.v 2) (cf (aX (aX (S.M) S.cols mb 0 (m.v 0)) S.cols mb 1 (m.v 1)) S.cols S.rows mb 2))++cG (m.v 3) (cf (aX (aX (aX (S.M) S.cols mb 0 (m.v 0)) S.cols mb 1 (m.v 1)) S.cols mb 2 (m.v 2)) S.cols S.rows mb 3))).length≤700000
  simp only [List.length_append,List.length_cons,List.length_nil]
  omega
 refine cO Tryz.func29 ?_
 repeat' (first
  |(refine qz ?_;first
   |refine jq ?_ (hle:=by rw [aL])
   |refine cl ?_ (hi:=by exact pH (S:=S) (S':=S) (bs:=B) (bs':=B++aA S m) (fun _ => .flat .nil) (.flat .nil) rfl hK rfl rfl rfl rfl nL nA rfl)
   |refine cl ?_ (hi:=by exact eZ (M:=S.M) (k:=0) ht0 hD hmb (by decide) (i:=16) (j:=17) rfl rfl (by decide) rfl)
   |refine cl ?_ (hi:=by exact iZ (bs:=(B++aA S m)) (v:=m.v 0) (e:=cf (S.M) S.cols S.rows mb 0) (hm.v 0) (cR ht0) (hP.right 0 (by decide)) (by simp only [List.length_append];omega) rfl rfl (by decide) nL nA rfl)
   |refine cl ?_ (hi:=by exact dc (M:=S.M) (k:=0) (v:=m.v 0) hD hmb (by decide) (i:=16) (j:=17) rfl rfl (by decide) nA rfl)
   |refine cl ?_ (hi:=by exact eZ (M:=aX (S.M) S.cols mb 0 (m.v 0)) (k:=1) ht1 hD hmb (by decide) (i:=16) (j:=17) rfl rfl (by decide) rfl)
   |refine cl ?_ (hi:=by exact iZ (bs:=((B++aA S m)++cG (m.v 0) (cf (S.M) S.cols S.rows mb 0))) (v:=m.v 1) (e:=cf (aX (S.M) S.cols mb 0 (m.v 0)) S.cols S.rows mb 1) (hm.v 1) (cR ht1) (hP.right 1 (by decide)) (by simp only [List.length_append];omega) rfl rfl (by decide) nL nA rfl)
   |refine cl ?_ (hi:=by exact dc (M:=aX (S.M) S.cols mb 0 (m.v 0)) (k:=1) (v:=m.v 1) hD hmb (by decide) (i:=16) (j:=17) rfl rfl (by decide) nA rfl)
   |refine cl ?_ (hi:=by exact eZ (M:=aX (aX (S.M) S.cols mb 0 (m.v 0)) S.cols mb 1 (m.v 1)) (k:=2) ht2 hD hmb (by decide) (i:=16) (j:=17) rfl rfl (by decide) rfl)
   |refine cl ?_ (hi:=by exact iZ (bs:=(((B++aA S m)++cG (m.v 0) (cf (S.M) S.cols S.rows mb 0))++cG (m.v 1) (cf (aX (S.M) S.cols mb 0 (m.v 0)) S.cols S.rows mb 1))) (v:=m.v 2) (e:=cf (aX (aX (S.M) S.cols mb 0 (m.v 0)) S.cols mb 1 (m.v 1)) S.cols S.rows mb 2) (hm.v 2) (cR ht2) (hP.right 2 (by decide)) (by simp only [List.length_append];omega) rfl rfl (by decide) nL nA rfl)
   |refine cl ?_ (hi:=by exact dc (M:=aX (aX (S.M) S.cols mb 0 (m.v 0)) S.cols mb 1 (m.v 1)) (k:=2) (v:=m.v 2) hD hmb (by decide) (i:=16) (j:=17) rfl rfl (by decide) nA rfl)
   |refine cl ?_ (hi:=by exact eZ (M:=aX (aX (aX (S.M) S.cols mb 0 (m.v 0)) S.cols mb 1 (m.v 1)) S.cols mb 2 (m.v 2)) (k:=3) ht3 hD hmb (by decide) (i:=16) (j:=17) rfl rfl (by decide) rfl)
   |refine cl ?_ (hi:=by exact iZ (bs:=((((B++aA S m)++cG (m.v 0) (cf (S.M) S.cols S.rows mb 0))++cG (m.v 1) (cf (aX (S.M) S.cols mb 0 (m.v 0)) S.cols S.rows mb 1))++cG (m.v 2) (cf (aX (aX (S.M) S.cols mb 0 (m.v 0)) S.cols mb 1 (m.v 1)) S.cols S.rows mb 2))) (v:=m.v 3) (e:=cf (aX (aX (aX (S.M) S.cols mb 0 (m.v 0)) S.cols mb 1 (m.v 1)) S.cols mb 2 (m.v 2)) S.cols S.rows mb 3) (hm.v 3) (cR ht3) (hP.right 3 (by decide)) (by simp only [List.length_append];omega) rfl rfl (by decide) nL nA rfl)
   |refine cl ?_ (hi:=by exact dc (M:=aX (aX (aX (S.M) S.cols mb 0 (m.v 0)) S.cols mb 1 (m.v 1)) S.cols mb 2 (m.v 2)) (k:=3) (v:=m.v 3) hD hmb (by decide) (i:=16) (j:=17) rfl rfl (by decide) nA rfl)
   |refine cl ?_ (hi:=by exact iw (S:=(ax m mb (ax m mb (ax m mb (ax m mb (S,B++aA S m) 0) 1) 2) 3).1) (bs:=(ax m mb (ax m mb (ax m mb (ax m mb (S,B++aA S m) 0) 1) 2) 3).2) hD hmb rfl rfl rfl rfl nA rfl)
   |refine cl ?_ (hi:=by exact lO (B:=(ax m mb (ax m mb (ax m mb (ax m mb (S,B++aA S m) 0) 1) 2) 3).2) (S:=ba (ax m mb (ax m mb (ax m mb (ax m mb (S,B++aA S m) 0) 1) 2) 3).1 mb m.v) (lQ ((ax m mb (ax m mb (ax m mb (ax m mb (S,B++aA S m) 0) 1) 2) 3).2) bw (ba (ax m mb (ax m mb (ax m mb (ax m mb (S,B++aA S m) 0) 1) 2) 3).1 mb m.v) m mb hg hS2 hmb hB2 (by have:=hP.lenw;omega) hx) rfl rfl rfl rfl rfl rfl nL nA rfl))
  |refine zG ?_|refine zA ?_|refine cX (fun _=>?_) (fun _=>?_)|refine aS (fun _=>?_) (fun _=>?_)|refine WX.loop ?_|refine WX.round ?_|refine zL ?_|refine zF ?_|fail)
 show aF _ _ _ _ _ _ _ _;refine kV [0,1,2,3,4,5,6,7,8,9,10,11,12,13,14,15,16,17,18,19,20,21,22,23] ?_
 rfl
end Go.Proofs.YtagpkhindehcbaaGreat
