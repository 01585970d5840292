/-
  A part of the proof: Put2.
-/
import Derived.Test.YtagpkhindehcbaaGreatKeS
set_option maxRecDepth 10000
set_option maxHeartbeats 8000000
set_option linter.unusedVariables false
set_option linter.unusedSectionVars false
set_option linter.unusedSimpArgs false
namespace Go.Proofs.YtagpkhindehcbaaGreat
open Go.Xm
variable [ax]
theorem Q7{S:bm}{B bw:List Bool}{m:Mb}{mb:Int}(hP:lV S B bw m mb)(hk:m.kind=2)(x:oC)(hx:fH m mb ⟨aY (au m mb (au m mb (au m mb (au m mb (S,B++aA S m) 0) 1) 2) 3).1 mb m.v,(au m mb (au m mb (au m mb (au m mb (S,B++aA S m) 0) 1) 2) 3).2,0,0,fun _=>[]⟩ 6=some x) :
 bh Tryz.prog 29 [.one (.ptr 2 0),.one (.ptr 0 0),.one (.ptr 22 0),.one (.int .i64 mb),.agg (mC m)] [aN 1 B,aq B,dK (S),bO 4 8 12,aw 5 6 7 cM,aR cM,aT cM,aS cM,aw 9 10 11 cZ,aR cZ,aT cZ,aS cZ,aw 13 14 15 cP,aR cP,aT cP,aS cP,cq 17 (S).cols (S).rows,.map (a_ (S).M),.cells [.int .i64 (S).cols,.int .i64 (S).rows,.map 19,.map 20,.map 21] 171 false false,.map (ag (S).A),.map (ag (S).B),.map (ag (S).C),aN 23 bw,aq bw] (.one (.int .i64 0)) [aN 24 (fg x),.dead,dK (x.S),bO 4 8 12,aw 5 6 7 cM,aR cM,aT cM,aS cM,aw 9 10 11 cZ,aR cZ,aT cZ,aS cZ,aw 13 14 15 cP,aR cP,aT cP,aS cP,cq 17 (x.S).cols (x.S).rows,.map (a_ (x.S).M),.cells [.int .i64 (x.S).cols,.int .i64 (x.S).rows,.map 19,.map 20,.map 21] 171 false false,.map (ag (x.S).A),.map (ag (x.S).B),.map (ag (x.S).C),aN 25 (dk bw x 6),.dead,aq (fg x),aq (dk bw x 6)]:=by
 have hg:=hP.good
 have hm:=hg.ok
 have hD:=hP.st.dims
 have hmb:=hP.mb
 have hlen:=hP.len
 have hkl:=f4 S m
 have hK:=jj B S m hm hg.kind hP.qp (by omega)
 rw[d7 (by omega)]at hK
 have ht0:cg (S.M):=hP.st.tiny
 have hl0:=gP (m.v 0) (b_ (S.M) S.cols S.rows mb 0)
 have ht1:cg (aW (S.M) S.cols mb 0 (m.v 0)):=bM ht0 (hm.v 0)
 have hl1:=gP (m.v 1) (b_ (aW (S.M) S.cols mb 0 (m.v 0)) S.cols S.rows mb 1)
 have ht2:cg (aW (aW (S.M) S.cols mb 0 (m.v 0)) S.cols mb 1 (m.v 1)):=bM ht1 (hm.v 1)
 have hl2:=gP (m.v 2) (b_ (aW (aW (S.M) S.cols mb 0 (m.v 0)) S.cols mb 1 (m.v 1)) S.cols S.rows mb 2)
 have ht3:cg (aW (aW (aW (S.M) S.cols mb 0 (m.v 0)) S.cols mb 1 (m.v 1)) S.cols mb 2 (m.v 2)):=bM ht2 (hm.v 2)
 have hl3:=gP (m.v 3) (b_ (aW (aW (aW (S.M) S.cols mb 0 (m.v 0)) S.cols mb 1 (m.v 1)) S.cols mb 2 (m.v 2)) S.cols S.rows mb 3)
 have htE:cg (aW (aW (aW (aW (S.M) S.cols mb 0 (m.v 0)) S.cols mb 1 (m.v 1)) S.cols mb 2 (m.v 2)) S.cols mb 3 (m.v 3)):=bM ht3 (hm.v 3)
 have hS2:iW (aY (au m mb (au m mb (au m mb (au m mb (S,B++aA S m) 0) 1) 2) 3).1 mb m.v):=⟨hD,hP.st.lev,fc htE hm.v⟩
 have hB2:((au m mb (au m mb (au m mb (au m mb (S,B++aA S m) 0) 1) 2) 3).2).length<=700000:=by
  show((((((B++aA S m)++cS (m.v 0) (b_ (S.M) S.cols S.rows mb 0))++cS (m.v 1) (b_ (aW (S.M) S.cols mb 0 (m.v 0)) S.cols S.rows mb 1))++cS (m.v 2) (b_ (aW (aW (S.M) S.cols mb 0 (m.v 0)) S.cols mb 1 (m.v 1)) S.cols S.rows mb 2))++cS (m.v 3) (b_ (aW (aW (aW (S.M) S.cols mb 0 (m.v 0)) S.cols mb 1 (m.v 1)) S.cols mb 2 (m.v 2)) S.cols S.rows mb 3))).length<=700000
  simp only[List.length_append,List.length_cons,List.length_nil]
  omega
 refine cO Tryz.func29 ?_
 repeat' (first
  |(refine qz ?_;first
   |refine fC ?_ (hle:=by rw[aI])
   |refine cl ?_ (hi:=by exact sd (S:=S) (S':=S) (bs:=B) (bs':=B++aA S m) (fun _ => .flat .nil) (.flat .nil) rfl hK rfl rfl rfl rfl nL nA rfl)
   |refine cl ?_ (hi:=by exact fN (M:=S.M) (k:=0) ht0 hD hmb (by decide) (i:=16) (j:=17) rfl rfl (by decide) rfl)
   |refine cl ?_ (hi:=by exact jX (bs:=(B++aA S m)) (v:=m.v 0) (e:=b_ (S.M) S.cols S.rows mb 0) (hm.v 0) (dg ht0) (hP.right 0 (by decide)) (by simp only[List.length_append];omega) rfl rfl (by decide) nL nA rfl)
   |refine cl ?_ (hi:=by exact dE (M:=S.M) (k:=0) (v:=m.v 0) hD hmb (by decide) (i:=16) (j:=17) rfl rfl (by decide) nA rfl)
   |refine cl ?_ (hi:=by exact fN (M:=aW (S.M) S.cols mb 0 (m.v 0)) (k:=1) ht1 hD hmb (by decide) (i:=16) (j:=17) rfl rfl (by decide) rfl)
   |refine cl ?_ (hi:=by exact jX (bs:=((B++aA S m)++cS (m.v 0) (b_ (S.M) S.cols S.rows mb 0))) (v:=m.v 1) (e:=b_ (aW (S.M) S.cols mb 0 (m.v 0)) S.cols S.rows mb 1) (hm.v 1) (dg ht1) (hP.right 1 (by decide)) (by simp only[List.length_append];omega) rfl rfl (by decide) nL nA rfl)
   |refine cl ?_ (hi:=by exact dE (M:=aW (S.M) S.cols mb 0 (m.v 0)) (k:=1) (v:=m.v 1) hD hmb (by decide) (i:=16) (j:=17) rfl rfl (by decide) nA rfl)
   |refine cl ?_ (hi:=by exact fN (M:=aW (aW (S.M) S.cols mb 0 (m.v 0)) S.cols mb 1 (m.v 1)) (k:=2) ht2 hD hmb (by decide) (i:=16) (j:=17) rfl rfl (by decide) rfl)
   |refine cl ?_ (hi:=by exact jX (bs:=(((B++aA S m)++cS (m.v 0) (b_ (S.M) S.cols S.rows mb 0))++cS (m.v 1) (b_ (aW (S.M) S.cols mb 0 (m.v 0)) S.cols S.rows mb 1))) (v:=m.v 2) (e:=b_ (aW (aW (S.M) S.cols mb 0 (m.v 0)) S.cols mb 1 (m.v 1)) S.cols S.rows mb 2) (hm.v 2) (dg ht2) (hP.right 2 (by decide)) (by simp only[List.length_append];omega) rfl rfl (by decide) nL nA rfl)
   |refine cl ?_ (hi:=by exact dE (M:=aW (aW (S.M) S.cols mb 0 (m.v 0)) S.cols mb 1 (m.v 1)) (k:=2) (v:=m.v 2) hD hmb (by decide) (i:=16) (j:=17) rfl rfl (by decide) nA rfl)
   |refine cl ?_ (hi:=by exact fN (M:=aW (aW (aW (S.M) S.cols mb 0 (m.v 0)) S.cols mb 1 (m.v 1)) S.cols mb 2 (m.v 2)) (k:=3) ht3 hD hmb (by decide) (i:=16) (j:=17) rfl rfl (by decide) rfl)
   |refine cl ?_ (hi:=by exact jX (bs:=((((B++aA S m)++cS (m.v 0) (b_ (S.M) S.cols S.rows mb 0))++cS (m.v 1) (b_ (aW (S.M) S.cols mb 0 (m.v 0)) S.cols S.rows mb 1))++cS (m.v 2) (b_ (aW (aW (S.M) S.cols mb 0 (m.v 0)) S.cols mb 1 (m.v 1)) S.cols S.rows mb 2))) (v:=m.v 3) (e:=b_ (aW (aW (aW (S.M) S.cols mb 0 (m.v 0)) S.cols mb 1 (m.v 1)) S.cols mb 2 (m.v 2)) S.cols S.rows mb 3) (hm.v 3) (dg ht3) (hP.right 3 (by decide)) (by simp only[List.length_append];omega) rfl rfl (by decide) nL nA rfl)
   |refine cl ?_ (hi:=by exact dE (M:=aW (aW (aW (S.M) S.cols mb 0 (m.v 0)) S.cols mb 1 (m.v 1)) S.cols mb 2 (m.v 2)) (k:=3) (v:=m.v 3) hD hmb (by decide) (i:=16) (j:=17) rfl rfl (by decide) nA rfl)
   |refine cl ?_ (hi:=by exact jv (S:=(au m mb (au m mb (au m mb (au m mb (S,B++aA S m) 0) 1) 2) 3).1) (bs:=(au m mb (au m mb (au m mb (au m mb (S,B++aA S m) 0) 1) 2) 3).2) hD hmb rfl rfl rfl rfl nA rfl)
   |refine cl ?_ (hi:=by exact pK (B:=(au m mb (au m mb (au m mb (au m mb (S,B++aA S m) 0) 1) 2) 3).2) (S:=aY (au m mb (au m mb (au m mb (au m mb (S,B++aA S m) 0) 1) 2) 3).1 mb m.v) (pL ((au m mb (au m mb (au m mb (au m mb (S,B++aA S m) 0) 1) 2) 3).2) bw (aY (au m mb (au m mb (au m mb (au m mb (S,B++aA S m) 0) 1) 2) 3).1 mb m.v) m mb hg hS2 hmb hB2 (by have:=hP.lenw;omega) x hx) rfl rfl rfl rfl rfl rfl nL nA rfl))
  |refine WX.loop ?_|refine WX.round ?_|refine zz ?_|refine zx (fun _=>?_) (fun _=>?_)|fail)
 show aB _ _ _ _ _ _ _ _;refine kV [0,1,2,3,4,5,6,7,8,9,10,11,12,13,14,15,16,17,18,19,20,21,22,23,30,31] ?_
 rfl
theorem PI{S:bm}{B bw:List Bool}{m:Mb}{mb:Int}(hP:lV S B bw m mb)(hk:m.kind=2)(hx:fH m mb ⟨aY (au m mb (au m mb (au m mb (au m mb (S,B++aA S m) 0) 1) 2) 3).1 mb m.v,(au m mb (au m mb (au m mb (au m mb (S,B++aA S m) 0) 1) 2) 3).2,0,0,fun _=>[]⟩ 6=none) :
 bh Tryz.prog 29 [.one (.ptr 2 0),.one (.ptr 0 0),.one (.ptr 22 0),.one (.int .i64 mb),.agg (mC m)] [aN 1 B,aq B,dK (S),bO 4 8 12,aw 5 6 7 cM,aR cM,aT cM,aS cM,aw 9 10 11 cZ,aR cZ,aT cZ,aS cZ,aw 13 14 15 cP,aR cP,aT cP,aS cP,cq 17 (S).cols (S).rows,.map (a_ (S).M),.cells [.int .i64 (S).cols,.int .i64 (S).rows,.map 19,.map 20,.map 21] 171 false false,.map (ag (S).A),.map (ag (S).B),.map (ag (S).C),aN 23 bw,aq bw] (.one (.int .i64 2)) oq:=by
 have hg:=hP.good
 have hm:=hg.ok
 have hD:=hP.st.dims
 have hmb:=hP.mb
 have hlen:=hP.len
 have hkl:=f4 S m
 have hK:=jj B S m hm hg.kind hP.qp (by omega)
 rw[d7 (by omega)]at hK
 have ht0:cg (S.M):=hP.st.tiny
 have hl0:=gP (m.v 0) (b_ (S.M) S.cols S.rows mb 0)
 have ht1:cg (aW (S.M) S.cols mb 0 (m.v 0)):=bM ht0 (hm.v 0)
 have hl1:=gP (m.v 1) (b_ (aW (S.M) S.cols mb 0 (m.v 0)) S.cols S.rows mb 1)
 have ht2:cg (aW (aW (S.M) S.cols mb 0 (m.v 0)) S.cols mb 1 (m.v 1)):=bM ht1 (hm.v 1)
 have hl2:=gP (m.v 2) (b_ (aW (aW (S.M) S.cols mb 0 (m.v 0)) S.cols mb 1 (m.v 1)) S.cols S.rows mb 2)
 have ht3:cg (aW (aW (aW (S.M) S.cols mb 0 (m.v 0)) S.cols mb 1 (m.v 1)) S.cols mb 2 (m.v 2)):=bM ht2 (hm.v 2)
 have hl3:=gP (m.v 3) (b_ (aW (aW (aW (S.M) S.cols mb 0 (m.v 0)) S.cols mb 1 (m.v 1)) S.cols mb 2 (m.v 2)) S.cols S.rows mb 3)
 have htE:cg (aW (aW (aW (aW (S.M) S.cols mb 0 (m.v 0)) S.cols mb 1 (m.v 1)) S.cols mb 2 (m.v 2)) S.cols mb 3 (m.v 3)):=bM ht3 (hm.v 3)
 have hS2:iW (aY (au m mb (au m mb (au m mb (au m mb (S,B++aA S m) 0) 1) 2) 3).1 mb m.v):=⟨hD,hP.st.lev,fc htE hm.v⟩
 have hB2:((au m mb (au m mb (au m mb (au m mb (S,B++aA S m) 0) 1) 2) 3).2).length<=700000:=by
  show((((((B++aA S m)++cS (m.v 0) (b_ (S.M) S.cols S.rows mb 0))++cS (m.v 1) (b_ (aW (S.M) S.cols mb 0 (m.v 0)) S.cols S.rows mb 1))++cS (m.v 2) (b_ (aW (aW (S.M) S.cols mb 0 (m.v 0)) S.cols mb 1 (m.v 1)) S.cols S.rows mb 2))++cS (m.v 3) (b_ (aW (aW (aW (S.M) S.cols mb 0 (m.v 0)) S.cols mb 1 (m.v 1)) S.cols mb 2 (m.v 2)) S.cols S.rows mb 3))).length<=700000
  simp only[List.length_append,List.length_cons,List.length_nil]
  omega
 refine cO Tryz.func29 ?_
 repeat' (first
  |(refine qz ?_;first
   |refine fC ?_ (hle:=by rw[aI])
   |refine cl ?_ (hi:=by exact sd (S:=S) (S':=S) (bs:=B) (bs':=B++aA S m) (fun _ => .flat .nil) (.flat .nil) rfl hK rfl rfl rfl rfl nL nA rfl)
   |refine cl ?_ (hi:=by exact fN (M:=S.M) (k:=0) ht0 hD hmb (by decide) (i:=16) (j:=17) rfl rfl (by decide) rfl)
   |refine cl ?_ (hi:=by exact jX (bs:=(B++aA S m)) (v:=m.v 0) (e:=b_ (S.M) S.cols S.rows mb 0) (hm.v 0) (dg ht0) (hP.right 0 (by decide)) (by simp only[List.length_append];omega) rfl rfl (by decide) nL nA rfl)
   |refine cl ?_ (hi:=by exact dE (M:=S.M) (k:=0) (v:=m.v 0) hD hmb (by decide) (i:=16) (j:=17) rfl rfl (by decide) nA rfl)
   |refine cl ?_ (hi:=by exact fN (M:=aW (S.M) S.cols mb 0 (m.v 0)) (k:=1) ht1 hD hmb (by decide) (i:=16) (j:=17) rfl rfl (by decide) rfl)
   |refine cl ?_ (hi:=by exact jX (bs:=((B++aA S m)++cS (m.v 0) (b_ (S.M) S.cols S.rows mb 0))) (v:=m.v 1) (e:=b_ (aW (S.M) S.cols mb 0 (m.v 0)) S.cols S.rows mb 1) (hm.v 1) (dg ht1) (hP.right 1 (by decide)) (by simp only[List.length_append];omega) rfl rfl (by decide) nL nA rfl)
   |refine cl ?_ (hi:=by exact dE (M:=aW (S.M) S.cols mb 0 (m.v 0)) (k:=1) (v:=m.v 1) hD hmb (by decide) (i:=16) (j:=17) rfl rfl (by decide) nA rfl)
   |refine cl ?_ (hi:=by exact fN (M:=aW (aW (S.M) S.cols mb 0 (m.v 0)) S.cols mb 1 (m.v 1)) (k:=2) ht2 hD hmb (by decide) (i:=16) (j:=17) rfl rfl (by decide) rfl)
   |refine cl ?_ (hi:=by exact jX (bs:=(((B++aA S m)++cS (m.v 0) (b_ (S.M) S.cols S.rows mb 0))++cS (m.v 1) (b_ (aW (S.M) S.cols mb 0 (m.v 0)) S.cols S.rows mb 1))) (v:=m.v 2) (e:=b_ (aW (aW (S.M) S.cols mb 0 (m.v 0)) S.cols mb 1 (m.v 1)) S.cols S.rows mb 2) (hm.v 2) (dg ht2) (hP.right 2 (by decide)) (by simp only[List.length_append];omega) rfl rfl (by decide) nL nA rfl)
   |refine cl ?_ (hi:=by exact dE (M:=aW (aW (S.M) S.cols mb 0 (m.v 0)) S.cols mb 1 (m.v 1)) (k:=2) (v:=m.v 2) hD hmb (by decide) (i:=16) (j:=17) rfl rfl (by decide) nA rfl)
   |refine cl ?_ (hi:=by exact fN (M:=aW (aW (aW (S.M) S.cols mb 0 (m.v 0)) S.cols mb 1 (m.v 1)) S.cols mb 2 (m.v 2)) (k:=3) ht3 hD hmb (by decide) (i:=16) (j:=17) rfl rfl (by decide) rfl)
   |refine cl ?_ (hi:=by exact jX (bs:=((((B++aA S m)++cS (m.v 0) (b_ (S.M) S.cols S.rows mb 0))++cS (m.v 1) (b_ (aW (S.M) S.cols mb 0 (m.v 0)) S.cols S.rows mb 1))++cS (m.v 2) (b_ (aW (aW (S.M) S.cols mb 0 (m.v 0)) S.cols mb 1 (m.v 1)) S.cols S.rows mb 2))) (v:=m.v 3) (e:=b_ (aW (aW (aW (S.M) S.cols mb 0 (m.v 0)) S.cols mb 1 (m.v 1)) S.cols mb 2 (m.v 2)) S.cols S.rows mb 3) (hm.v 3) (dg ht3) (hP.right 3 (by decide)) (by simp only[List.length_append];omega) rfl rfl (by decide) nL nA rfl)
   |refine cl ?_ (hi:=by exact dE (M:=aW (aW (aW (S.M) S.cols mb 0 (m.v 0)) S.cols mb 1 (m.v 1)) S.cols mb 2 (m.v 2)) (k:=3) (v:=m.v 3) hD hmb (by decide) (i:=16) (j:=17) rfl rfl (by decide) nA rfl)
   |refine cl ?_ (hi:=by exact jv (S:=(au m mb (au m mb (au m mb (au m mb (S,B++aA S m) 0) 1) 2) 3).1) (bs:=(au m mb (au m mb (au m mb (au m mb (S,B++aA S m) 0) 1) 2) 3).2) hD hmb rfl rfl rfl rfl nA rfl)
   |refine cl ?_ (hi:=by exact nC (B:=(au m mb (au m mb (au m mb (au m mb (S,B++aA S m) 0) 1) 2) 3).2) (S:=aY (au m mb (au m mb (au m mb (au m mb (S,B++aA S m) 0) 1) 2) 3).1 mb m.v) (nE ((au m mb (au m mb (au m mb (au m mb (S,B++aA S m) 0) 1) 2) 3).2) bw (aY (au m mb (au m mb (au m mb (au m mb (S,B++aA S m) 0) 1) 2) 3).1 mb m.v) m mb hg hS2 hmb hB2 (by have:=hP.lenw;omega) hx) rfl rfl rfl rfl rfl rfl nL nA rfl))
  |refine WX.loop ?_|refine WX.round ?_|refine zz ?_|refine zx (fun _=>?_) (fun _=>?_)|fail)
 show aB _ _ _ _ _ _ _ _;refine kV [0,1,2,3,4,5,6,7,8,9,10,11,12,13,14,15,16,17,18,19,20,21,22,23] ?_
 rfl
end Go.Proofs.YtagpkhindehcbaaGreat
