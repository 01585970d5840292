/-
  A part of the proof: Put2.
-/
import Derived.Test.YthdciapjllppjaaGreatFaS
set_option maxRecDepth 10000
set_option maxHeartbeats 8000000
set_option linter.unusedVariables false
set_option linter.unusedSectionVars false
set_option linter.unusedSimpArgs false
open Go.Proofs.Tryz (prog)
namespace Go.Proofs.YthdciapjllppjaaGreat
open Go.Xm
variable [av]
theorem Sc{S:c6}{B bw:List Bool}{m:Mb}{mb:Int}(hP:sK S B bw m mb)(hk:m.kind=2)(x:rP)(hx:j_ m mb ⟨b6 (aS m mb (aS m mb (aS m mb (aS m mb (S,B++bc S m) 0) 1) 2) 3).1 mb m.v,(aS m mb (aS m mb (aS m mb (aS m mb (S,B++bc S m) 0) 1) 2) 3).2,0,0,fun _=>[]⟩ 6=some x) :
 bm prog 63 [.one (.ptr 2 0),.one (.ptr 0 0),.one (.ptr 22 0),.one (.int .i64 mb),.agg (mC m)] [aP 1 B,au B,jr (S),fc 4 8 12,aW 5 6 7 cM,cV cM,cY cM,cW cM,aW 9 10 11 cZ,cV cZ,cY cZ,cW cZ,aW 13 14 15 cP,cV cP,cY cP,cW cP,fD 17 (S).cols (S).rows,.map (cB (S).M),.cells [.int .i64 (S).cols,.int .i64 (S).rows,.map 19,.map 20,.map 21] 220 false false,.map (aq (S).A),.map (aq (S).B),.map (aq (S).C),aP 23 bw,au bw] (.one (.int .i64 0)) [aP 24 (eJ x),.dead,jr (x.S),fc 4 8 12,aW 5 6 7 cM,cV cM,cY cM,cW cM,aW 9 10 11 cZ,cV cZ,cY cZ,cW cZ,aW 13 14 15 cP,cV cP,cY cP,cW cP,fD 17 (x.S).cols (x.S).rows,.map (cB (x.S).M),.cells [.int .i64 (x.S).cols,.int .i64 (x.S).rows,.map 19,.map 20,.map 21] 220 false false,.map (aq (x.S).A),.map (aq (x.S).B),.map (aq (x.S).C),aP 25 (cR bw x 6),.dead,au (eJ x),au (cR bw x 6)]:=by
 have hg:=hP.good;have hm:=hg.ok;have hD:=hP.st.dims;have hmb:=hP.mb;have hlen:=hP.len;have hkl:=jX S m;have hK:=n_ B S m hm hg.kind hP.qp (by omega);rw[jl (by omega)]at hK;have ht0:fG (S.M):=hP.st.tiny;have hl0:=mj (m.v 0) (gB (S.M) S.cols S.rows mb 0);have ht1:fG (cI (S.M) S.cols mb 0 (m.v 0)):=eC ht0 (hm.v 0);have hl1:=mj (m.v 1) (gB (cI (S.M) S.cols mb 0 (m.v 0)) S.cols S.rows mb 1);have ht2:fG (cI (cI (S.M) S.cols mb 0 (m.v 0)) S.cols mb 1 (m.v 1)):=eC ht1 (hm.v 1);have hl2:=mj (m.v 2) (gB (cI (cI (S.M) S.cols mb 0 (m.v 0)) S.cols mb 1 (m.v 1)) S.cols S.rows mb 2);have ht3:fG (cI (cI (cI (S.M) S.cols mb 0 (m.v 0)) S.cols mb 1 (m.v 1)) S.cols mb 2 (m.v 2)):=eC ht2 (hm.v 2);have hl3:=mj (m.v 3) (gB (cI (cI (cI (S.M) S.cols mb 0 (m.v 0)) S.cols mb 1 (m.v 1)) S.cols mb 2 (m.v 2)) S.cols S.rows mb 3);have htE:fG (cI (cI (cI (cI (S.M) S.cols mb 0 (m.v 0)) S.cols mb 1 (m.v 1)) S.cols mb 2 (m.v 2)) S.cols mb 3 (m.v 3)):=eC ht3 (hm.v 3)
 have hS2:j9 (b6 (aS m mb (aS m mb (aS m mb (aS m mb (S,B++bc S m) 0) 1) 2) 3).1 mb m.v):=⟨hD,hP.st.lev,kG htE hm.v⟩
 have hB2:((aS m mb (aS m mb (aS m mb (aS m mb (S,B++bc S m) 0) 1) 2) 3).2).length<=700000:=by
  show((((((B++bc S m)++hU (m.v 0) (gB (S.M) S.cols S.rows mb 0))++hU (m.v 1) (gB (cI (S.M) S.cols mb 0 (m.v 0)) S.cols S.rows mb 1))++hU (m.v 2) (gB (cI (cI (S.M) S.cols mb 0 (m.v 0)) S.cols mb 1 (m.v 1)) S.cols S.rows mb 2))++hU (m.v 3) (gB (cI (cI (cI (S.M) S.cols mb 0 (m.v 0)) S.cols mb 1 (m.v 1)) S.cols mb 2 (m.v 2)) S.cols S.rows mb 3))).length<=700000;simp only[List.length_append,List.length_cons,List.length_nil];omega
 refine cO Tryz.func63 ?_
 repeat' (first
  |(refine qz ?_;first
   |refine lg ?_ (hle:=by rw[aY])
   |refine cl ?_ (hi:=by exact Bq (S:=S) (S':=S) (bs:=B) (bs':=B++bc S m) (fun _ => .flat .nil) (.flat .nil) rfl hK rfl rfl rfl rfl nL nA rfl)
   |refine cl ?_ (hi:=by exact rD (M:=S.M) (k:=0) ht0 hD hmb (by decide) (i:=16) (j:=17) rfl rfl (by decide) rfl)
   |refine cl ?_ (hi:=by exact rE (bs:=(B++bc S m)) (v:=m.v 0) (e:=gB (S.M) S.cols S.rows mb 0) (hm.v 0) (mh ht0) (hP.right 0 (by decide)) (by simp only[List.length_append];omega) rfl rfl (by decide) nL nA rfl)
   |refine cl ?_ (hi:=by exact jR (M:=S.M) (k:=0) (v:=m.v 0) hD hmb (by decide) (i:=16) (j:=17) rfl rfl (by decide) nA rfl)
   |refine cl ?_ (hi:=by exact rD (M:=cI (S.M) S.cols mb 0 (m.v 0)) (k:=1) ht1 hD hmb (by decide) (i:=16) (j:=17) rfl rfl (by decide) rfl)
   |refine cl ?_ (hi:=by exact rE (bs:=((B++bc S m)++hU (m.v 0) (gB (S.M) S.cols S.rows mb 0))) (v:=m.v 1) (e:=gB (cI (S.M) S.cols mb 0 (m.v 0)) S.cols S.rows mb 1) (hm.v 1) (mh ht1) (hP.right 1 (by decide)) (by simp only[List.length_append];omega) rfl rfl (by decide) nL nA rfl)
   |refine cl ?_ (hi:=by exact jR (M:=cI (S.M) S.cols mb 0 (m.v 0)) (k:=1) (v:=m.v 1) hD hmb (by decide) (i:=16) (j:=17) rfl rfl (by decide) nA rfl)
   |refine cl ?_ (hi:=by exact rD (M:=cI (cI (S.M) S.cols mb 0 (m.v 0)) S.cols mb 1 (m.v 1)) (k:=2) ht2 hD hmb (by decide) (i:=16) (j:=17) rfl rfl (by decide) rfl)
   |refine cl ?_ (hi:=by exact rE (bs:=(((B++bc S m)++hU (m.v 0) (gB (S.M) S.cols S.rows mb 0))++hU (m.v 1) (gB (cI (S.M) S.cols mb 0 (m.v 0)) S.cols S.rows mb 1))) (v:=m.v 2) (e:=gB (cI (cI (S.M) S.cols mb 0 (m.v 0)) S.cols mb 1 (m.v 1)) S.cols S.rows mb 2) (hm.v 2) (mh ht2) (hP.right 2 (by decide)) (by simp only[List.length_append];omega) rfl rfl (by decide) nL nA rfl)
   |refine cl ?_ (hi:=by exact jR (M:=cI (cI (S.M) S.cols mb 0 (m.v 0)) S.cols mb 1 (m.v 1)) (k:=2) (v:=m.v 2) hD hmb (by decide) (i:=16) (j:=17) rfl rfl (by decide) nA rfl)
   |refine cl ?_ (hi:=by exact rD (M:=cI (cI (cI (S.M) S.cols mb 0 (m.v 0)) S.cols mb 1 (m.v 1)) S.cols mb 2 (m.v 2)) (k:=3) ht3 hD hmb (by decide) (i:=16) (j:=17) rfl rfl (by decide) rfl)
   |refine cl ?_ (hi:=by exact rE (bs:=((((B++bc S m)++hU (m.v 0) (gB (S.M) S.cols S.rows mb 0))++hU (m.v 1) (gB (cI (S.M) S.cols mb 0 (m.v 0)) S.cols S.rows mb 1))++hU (m.v 2) (gB (cI (cI (S.M) S.cols mb 0 (m.v 0)) S.cols mb 1 (m.v 1)) S.cols S.rows mb 2))) (v:=m.v 3) (e:=gB (cI (cI (cI (S.M) S.cols mb 0 (m.v 0)) S.cols mb 1 (m.v 1)) S.cols mb 2 (m.v 2)) S.cols S.rows mb 3) (hm.v 3) (mh ht3) (hP.right 3 (by decide)) (by simp only[List.length_append];omega) rfl rfl (by decide) nL nA rfl)
   |refine cl ?_ (hi:=by exact jR (M:=cI (cI (cI (S.M) S.cols mb 0 (m.v 0)) S.cols mb 1 (m.v 1)) S.cols mb 2 (m.v 2)) (k:=3) (v:=m.v 3) hD hmb (by decide) (i:=16) (j:=17) rfl rfl (by decide) nA rfl)
   |refine cl ?_ (hi:=by exact oy (S:=(aS m mb (aS m mb (aS m mb (aS m mb (S,B++bc S m) 0) 1) 2) 3).1) (bs:=(aS m mb (aS m mb (aS m mb (aS m mb (S,B++bc S m) 0) 1) 2) 3).2) hD hmb rfl rfl rfl rfl nA rfl)
   |refine cl ?_ (hi:=by exact oM (B:=(aS m mb (aS m mb (aS m mb (aS m mb (S,B++bc S m) 0) 1) 2) 3).2) (S:=b6 (aS m mb (aS m mb (aS m mb (aS m mb (S,B++bc S m) 0) 1) 2) 3).1 mb m.v) (oN ((aS m mb (aS m mb (aS m mb (aS m mb (S,B++bc S m) 0) 1) 2) 3).2) bw (b6 (aS m mb (aS m mb (aS m mb (aS m mb (S,B++bc S m) 0) 1) 2) 3).1 mb m.v) m mb hg hS2 hmb hB2 (by have:=hP.lenw;omega) x hx) rfl rfl rfl rfl rfl rfl nL nA rfl))
  |refine WX.loop ?_|refine WX.round ?_|refine zz ?_|refine zx (fun _=>?_) (fun _=>?_)|fail)
 show aE _ _ _ _ _ _ _ _;refine kV [0,1,2,3,4,5,6,7,8,9,10,11,12,13,14,15,16,17,18,19,20,21,22,23,30,31] ?_;rfl
end Go.Proofs.YthdciapjllppjaaGreat
