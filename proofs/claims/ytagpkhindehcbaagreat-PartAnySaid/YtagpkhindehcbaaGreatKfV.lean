/-
  A part of the proof: Put2.
-/
import Derived.Test.YtagpkhindehcbaaGreatKfS
set_option maxRecDepth 10000
set_option maxHeartbeats 8000000
set_option linter.unusedVariables false
set_option linter.unusedSectionVars false
set_option linter.unusedSimpArgs false
namespace Go.Proofs.YtagpkhindehcbaaGreat
open Go.Xm
variable [ax]
theorem QM{S:bm}{B bw:List Bool}{m:Mb}{mb:Int}(hP:lS S B bw m mb)(hk:m.kind=2)(x:oD)(hx:fJ m mb ⟨aX (au m mb (au m mb (au m mb (au m mb (S,B++az S m) 0) 1) 2) 3).1 mb m.v,(au m mb (au m mb (au m mb (au m mb (S,B++az S m) 0) 1) 2) 3).2,0,0,fun _=>[]⟩ 6=some x) :
 bh Tryz.prog 29 [.one (.ptr 2 0),.one (.ptr 0 0),.one (.ptr 22 0),.one (.int .i64 mb),.agg (mC m)] [aN 1 B,aq B,dJ (S),bM 4 8 12,aw 5 6 7 cM,aR cM,aT cM,aS cM,aw 9 10 11 cZ,aR cZ,aT cZ,aS cZ,aw 13 14 15 cP,aR cP,aT cP,aS cP,cn 17 (S).cols (S).rows,.map (ba (S).M),.cells [.int .i64 (S).cols,.int .i64 (S).rows,.map 19,.map 20,.map 21] 171 false false,.map (ag (S).A),.map (ag (S).B),.map (ag (S).C),aN 23 bw,aq bw] (.one (.int .i64 0)) [aN 24 (fj x),.dead,dJ (x.S),bM 4 8 12,aw 5 6 7 cM,aR cM,aT cM,aS cM,aw 9 10 11 cZ,aR cZ,aT cZ,aS cZ,aw 13 14 15 cP,aR cP,aT cP,aS cP,cn 17 (x.S).cols (x.S).rows,.map (ba (x.S).M),.cells [.int .i64 (x.S).cols,.int .i64 (x.S).rows,.map 19,.map 20,.map 21] 171 false false,.map (ag (x.S).A),.map (ag (x.S).B),.map (ag (x.S).C),aN 25 (dq bw x 6),.dead,aq (fj x),aq (dq bw x 6)]:=by
 have hg:=hP.good
 have hm:=hg.ok
 have hD:=hP.st.dims
 have hmb:=hP.mb
 have hlen:=hP.len
 have hkl:=f7 S m
 have hK:=jl B S m hm hg.kind hP.qp (by omega)
 rw[dV (by omega)]at hK
 have ht0:cj (S.M):=hP.st.tiny
 have hl0:=gN (m.v 0) (b9 (S.M) S.cols S.rows mb 0)
 have ht1:cj (aV (S.M) S.cols mb 0 (m.v 0)):=bL ht0 (hm.v 0)
 have hl1:=gN (m.v 1) (b9 (aV (S.M) S.cols mb 0 (m.v 0)) S.cols S.rows mb 1)
 have ht2:cj (aV (aV (S.M) S.cols mb 0 (m.v 0)) S.cols mb 1 (m.v 1)):=bL ht1 (hm.v 1)
 have hl2:=gN (m.v 2) (b9 (aV (aV (S.M) S.cols mb 0 (m.v 0)) S.cols mb 1 (m.v 1)) S.cols S.rows mb 2)
 have ht3:cj (aV (aV (aV (S.M) S.cols mb 0 (m.v 0)) S.cols mb 1 (m.v 1)) S.cols mb 2 (m.v 2)):=bL ht2 (hm.v 2)
 have hl3:=gN (m.v 3) (b9 (aV (aV (aV (S.M) S.cols mb 0 (m.v 0)) S.cols mb 1 (m.v 1)) S.cols mb 2 (m.v 2)) S.cols S.rows mb 3)
 have htE:cj (aV (aV (aV (aV (S.M) S.cols mb 0 (m.v 0)) S.cols mb 1 (m.v 1)) S.cols mb 2 (m.v 2)) S.cols mb 3 (m.v 3)):=bL ht3 (hm.v 3)
 have hS2:iX (aX (au m mb (au m mb (au m mb (au m mb (S,B++az S m) 0) 1) 2) 3).1 mb m.v):=⟨hD,hP.st.lev,fh htE hm.v⟩
 have hB2:((au m mb (au m mb (au m mb (au m mb (S,B++az S m) 0) 1) 2) 3).2).length<=700000:=by
  show((((((B++az S m)++cV (m.v 0) (b9 (S.M) S.cols S.rows mb 0))++cV (m.v 1) (b9 (aV (S.M) S.cols mb 0 (m.v 0)) S.cols S.rows mb 1))++cV (m.v 2) (b9 (aV (aV (S.M) S.cols mb 0 (m.v 0)) S.cols mb 1 (m.v 1)) S.cols S.rows mb 2))++cV (m.v 3) (b9 (aV (aV (aV (S.M) S.cols mb 0 (m.v 0)) S.cols mb 1 (m.v 1)) S.cols mb 2 (m.v 2)) S.cols S.rows mb 3))).length<=700000
  simp only[List.length_append,List.length_cons,List.length_nil]
  omega
 refine cO Tryz.func29 ?_
 repeat' (first
  |(refine qz ?_;first
   |refine fG ?_ (hle:=by rw[aI])
   |refine cl ?_ (hi:=by exact sd (S:=S) (S':=S) (bs:=B) (bs':=B++az S m) (fun _ => .flat .nil) (.flat .nil) rfl hK rfl rfl rfl rfl nL nA rfl)
   |refine cl ?_ (hi:=by exact fP (M:=S.M) (k:=0) ht0 hD hmb (by decide) (i:=16) (j:=17) rfl rfl (by decide) rfl)
   |refine cl ?_ (hi:=by exact jS (bs:=(B++az S m)) (v:=m.v 0) (e:=b9 (S.M) S.cols S.rows mb 0) (hm.v 0) (dk ht0) (hP.right 0 (by decide)) (by simp only[List.length_append];omega) rfl rfl (by decide) nL nA rfl)
   |refine cl ?_ (hi:=by exact dF (M:=S.M) (k:=0) (v:=m.v 0) hD hmb (by decide) (i:=16) (j:=17) rfl rfl (by decide) nA rfl)
   |refine cl ?_ (hi:=by exact fP (M:=aV (S.M) S.cols mb 0 (m.v 0)) (k:=1) ht1 hD hmb (by decide) (i:=16) (j:=17) rfl rfl (by decide) rfl)
   |refine cl ?_ (hi:=by exact jS (bs:=((B++az S m)++cV (m.v 0) (b9 (S.M) S.cols S.rows mb 0))) (v:=m.v 1) (e:=b9 (aV (S.M) S.cols mb 0 (m.v 0)) S.cols S.rows mb 1) (hm.v 1) (dk ht1) (hP.right 1 (by decide)) (by simp only[List.length_append];omega) rfl rfl (by decide) nL nA rfl)
   |refine cl ?_ (hi:=by exact dF (M:=aV (S.M) S.cols mb 0 (m.v 0)) (k:=1) (v:=m.v 1) hD hmb (by decide) (i:=16) (j:=17) rfl rfl (by decide) nA rfl)
   |refine cl ?_ (hi:=by exact fP (M:=aV (aV (S.M) S.cols mb 0 (m.v 0)) S.cols mb 1 (m.v 1)) (k:=2) ht2 hD hmb (by decide) (i:=16) (j:=17) rfl rfl (by decide) rfl)
   |refine cl ?_ (hi:=by exact jS (bs:=(((B++az S m)++cV (m.v 0) (b9 (S.M) S.cols S.rows mb 0))++cV (m.v 1) (b9 (aV (S.M) S.cols mb 0 (m.v 0)) S.cols S.rows mb 1))) (v:=m.v 2) (e:=b9 (aV (aV (S.M) S.cols mb 0 (m.v 0)) S.cols mb 1 (m.v 1)) S.cols S.rows mb 2) (hm.v 2) (dk ht2) (hP.right 2 (by decide)) (by simp only[List.length_append];omega) rfl rfl (by decide) nL nA rfl)
   |refine cl ?_ (hi:=by exact dF (M:=aV (aV (S.M) S.cols mb 0 (m.v 0)) S.cols mb 1 (m.v 1)) (k:=2) (v:=m.v 2) hD hmb (by decide) (i:=16) (j:=17) rfl rfl (by decide) nA rfl)
   |refine cl ?_ (hi:=by exact fP (M:=aV (aV (aV (S.M) S.cols mb 0 (m.v 0)) S.cols mb 1 (m.v 1)) S.cols mb 2 (m.v 2)) (k:=3) ht3 hD hmb (by decide) (i:=16) (j:=17) rfl rfl (by decide) rfl)
   |refine cl ?_ (hi:=by exact jS (bs:=((((B++az S m)++cV (m.v 0) (b9 (S.M) S.cols S.rows mb 0))++cV (m.v 1) (b9 (aV (S.M) S.cols mb 0 (m.v 0)) S.cols S.rows mb 1))++cV (m.v 2) (b9 (aV (aV (S.M) S.cols mb 0 (m.v 0)) S.cols mb 1 (m.v 1)) S.cols S.rows mb 2))) (v:=m.v 3) (e:=b9 (aV (aV (aV (S.M) S.cols mb 0 (m.v 0)) S.cols mb 1 (m.v 1)) S.cols mb 2 (m.v 2)) S.cols S.rows mb 3) (hm.v 3) (dk ht3) (hP.right 3 (by decide)) (by simp only[List.length_append];omega) rfl rfl (by decide) nL nA rfl)
   |refine cl ?_ (hi:=by exact dF (M:=aV (aV (aV (S.M) S.cols mb 0 (m.v 0)) S.cols mb 1 (m.v 1)) S.cols mb 2 (m.v 2)) (k:=3) (v:=m.v 3) hD hmb (by decide) (i:=16) (j:=17) rfl rfl (by decide) nA rfl)
   |refine cl ?_ (hi:=by exact ju (S:=(au m mb (au m mb (au m mb (au m mb (S,B++az S m) 0) 1) 2) 3).1) (bs:=(au m mb (au m mb (au m mb (au m mb (S,B++az S m) 0) 1) 2) 3).2) hD hmb rfl rfl rfl rfl nA rfl)
   |refine cl ?_ (hi:=by exact pG (B:=(au m mb (au m mb (au m mb (au m mb (S,B++az S m) 0) 1) 2) 3).2) (S:=aX (au m mb (au m mb (au m mb (au m mb (S,B++az S m) 0) 1) 2) 3).1 mb m.v) (pH ((au m mb (au m mb (au m mb (au m mb (S,B++az S m) 0) 1) 2) 3).2) bw (aX (au m mb (au m mb (au m mb (au m mb (S,B++az S m) 0) 1) 2) 3).1 mb m.v) m mb hg hS2 hmb hB2 (by have:=hP.lenw;omega) x hx) rfl rfl rfl rfl rfl rfl nL nA rfl))
  |refine WX.loop ?_|refine WX.round ?_|refine zz ?_|refine zx (fun _=>?_) (fun _=>?_)|fail)
 show aC _ _ _ _ _ _ _ _;refine kV [0,1,2,3,4,5,6,7,8,9,10,11,12,13,14,15,16,17,18,19,20,21,22,23,30,31] ?_
 rfl
theorem Pp{S:bm}{B bw:List Bool}{m:Mb}{mb:Int}(hP:lS S B bw m mb)(hk:m.kind=2)(hx:fJ m mb ⟨aX (au m mb (au m mb (au m mb (au m mb (S,B++az S m) 0) 1) 2) 3).1 mb m.v,(au m mb (au m mb (au m mb (au m mb (S,B++az S m) 0) 1) 2) 3).2,0,0,fun _=>[]⟩ 6=none) :
 bh Tryz.prog 29 [.one (.ptr 2 0),.one (.ptr 0 0),.one (.ptr 22 0),.one (.int .i64 mb),.agg (mC m)] [aN 1 B,aq B,dJ (S),bM 4 8 12,aw 5 6 7 cM,aR cM,aT cM,aS cM,aw 9 10 11 cZ,aR cZ,aT cZ,aS cZ,aw 13 14 15 cP,aR cP,aT cP,aS cP,cn 17 (S).cols (S).rows,.map (ba (S).M),.cells [.int .i64 (S).cols,.int .i64 (S).rows,.map 19,.map 20,.map 21] 171 false false,.map (ag (S).A),.map (ag (S).B),.map (ag (S).C),aN 23 bw,aq bw] (.one (.int .i64 2)) om:=by
 have hg:=hP.good
 have hm:=hg.ok
 have hD:=hP.st.dims
 have hmb:=hP.mb
 have hlen:=hP.len
 have hkl:=f7 S m
 have hK:=jl B S m hm hg.kind hP.qp (by omega)
 rw[dV (by omega)]at hK
 have ht0:cj (S.M):=hP.st.tiny
 have hl0:=gN (m.v 0) (b9 (S.M) S.cols S.rows mb 0)
 have ht1:cj (aV (S.M) S.cols mb 0 (m.v 0)):=bL ht0 (hm.v 0)
 have hl1:=gN (m.v 1) (b9 (aV (S.M) S.cols mb 0 (m.v 0)) S.cols S.rows mb 1)
 have ht2:cj (aV (aV (S.M) S.cols mb 0 (m.v 0)) S.cols mb 1 (m.v 1)):=bL ht1 (hm.v 1)
 have hl2:=gN (m.v 2) (b9 (aV (aV (S.M) S.cols mb 0 (m.v 0)) S.cols mb 1 (m.v 1)) S.cols S.rows mb 2)
 have ht3:cj (aV (aV (aV (S.M) S.cols mb 0 (m.v 0)) S.cols mb 1 (m.v 1)) S.cols mb 2 (m.v 2)):=bL ht2 (hm.v 2)
 have hl3:=gN (m.v 3) (b9 (aV (aV (aV (S.M) S.cols mb 0 (m.v 0)) S.cols mb 1 (m.v 1)) S.cols mb 2 (m.v 2)) S.cols S.rows mb 3)
 have htE:cj (aV (aV (aV (aV (S.M) S.cols mb 0 (m.v 0)) S.cols mb 1 (m.v 1)) S.cols mb 2 (m.v 2)) S.cols mb 3 (m.v 3)):=bL ht3 (hm.v 3)
 have hS2:iX (aX (au m mb (au m mb (au m mb (au m mb (S,B++az S m) 0) 1) 2) 3).1 mb m.v):=⟨hD,hP.st.lev,fh htE hm.v⟩
 have hB2:((au m mb (au m mb (au m mb (au m mb (S,B++az S m) 0) 1) 2) 3).2).length<=700000:=by
  show((((((B++az S m)++cV (m.v 0) (b9 (S.M) S.cols S.rows mb 0))++cV (m.v 1) (b9 (aV (S.M) S.cols mb 0 (m.v 0)) S.cols S.rows mb 1))++cV (m.v 2) (b9 (aV (aV (S.M) S.cols mb 0 (m.v 0)) S.cols mb 1 (m.v 1)) S.cols S.rows mb 2))++cV (m.v 3) (b9 (aV (aV (aV (S.M) S.cols mb 0 (m.v 0)) S.cols mb 1 (m.v 1)) S.cols mb 2 (m.v 2)) S.cols S.rows mb 3))).length<=700000
  simp only[List.length_append,List.length_cons,List.length_nil]
  omega
 refine cO Tryz.func29 ?_
 repeat' (first
  |(refine qz ?_;first
   |refine fG ?_ (hle:=by rw[aI])
   |refine cl ?_ (hi:=by exact sd (S:=S) (S':=S) (bs:=B) (bs':=B++az S m) (fun _ => .flat .nil) (.flat .nil) rfl hK rfl rfl rfl rfl nL nA rfl)
   |refine cl ?_ (hi:=by exact fP (M:=S.M) (k:=0) ht0 hD hmb (by decide) (i:=16) (j:=17) rfl rfl (by decide) rfl)
   |refine cl ?_ (hi:=by exact jS (bs:=(B++az S m)) (v:=m.v 0) (e:=b9 (S.M) S.cols S.rows mb 0) (hm.v 0) (dk ht0) (hP.right 0 (by decide)) (by simp only[List.length_append];omega) rfl rfl (by decide) nL nA rfl)
   |refine cl ?_ (hi:=by exact dF (M:=S.M) (k:=0) (v:=m.v 0) hD hmb (by decide) (i:=16) (j:=17) rfl rfl (by decide) nA rfl)
   |refine cl ?_ (hi:=by exact fP (M:=aV (S.M) S.cols mb 0 (m.v 0)) (k:=1) ht1 hD hmb (by decide) (i:=16) (j:=17) rfl rfl (by decide) rfl)
   |refine cl ?_ (hi:=by exact jS (bs:=((B++az S m)++cV (m.v 0) (b9 (S.M) S.cols S.rows mb 0))) (v:=m.v 1) (e:=b9 (aV (S.M) S.cols mb 0 (m.v 0)) S.cols S.rows mb 1) (hm.v 1) (dk ht1) (hP.right 1 (by decide)) (by simp only[List.length_append];omega) rfl rfl (by decide) nL nA rfl)
   |refine cl ?_ (hi:=by exact dF (M:=aV (S.M) S.cols mb 0 (m.v 0)) (k:=1) (v:=m.v 1) hD hmb (by decide) (i:=16) (j:=17) rfl rfl (by decide) nA rfl)
   |refine cl ?_ (hi:=by exact fP (M:=aV (aV (S.M) S.cols mb 0 (m.v 0)) S.cols mb 1 (m.v 1)) (k:=2) ht2 hD hmb (by decide) (i:=16) (j:=17) rfl rfl (by decide) rfl)
   |refine cl ?_ (hi:=by exact jS (bs:=(((B++az S m)++cV (m.v 0) (b9 (S.M) S.cols S.rows mb 0))++cV (m.v 1) (b9 (aV (S.M) S.cols mb 0 (m.v 0)) S.cols S.rows mb 1))) (v:=m.v 2) (e:=b9 (aV (aV (S.M) S.cols mb 0 (m.v 0)) S.cols mb 1 (m.v 1)) S.cols S.rows mb 2) (hm.v 2) (dk ht2) (hP.right 2 (by decide)) (by simp only[List.length_append];omega) rfl rfl (by decide) nL nA rfl)
   |refine cl ?_ (hi:=by exact dF (M:=aV (aV (S.M) S.cols mb 0 (m.v 0)) S.cols mb 1 (m.v 1)) (k:=2) (v:=m.v 2) hD hmb (by decide) (i:=16) (j:=17) rfl rfl (by decide) nA rfl)
   |refine cl ?_ (hi:=by exact fP (M:=aV (aV (aV (S.M) S.cols mb 0 (m.v 0)) S.cols mb 1 (m.v 1)) S.cols mb 2 (m.v 2)) (k:=3) ht3 hD hmb (by decide) (i:=16) (j:=17) rfl rfl (by decide) rfl)
   |refine cl ?_ (hi:=by exact jS (bs:=((((B++az S m)++cV (m.v 0) (b9 (S.M) S.cols S.rows mb 0))++cV (m.v 1) (b9 (aV (S.M) S.cols mb 0 (m.v 0)) S.cols S.rows mb 1))++cV (m.v 2) (b9 (aV (aV (S.M) S.cols mb 0 (m.v 0)) S.cols mb 1 (m.v 1)) S.cols S.rows mb 2))) (v:=m.v 3) (e:=b9 (aV (aV (aV (S.M) S.cols mb 0 (m.v 0)) S.cols mb 1 (m.v 1)) S.cols mb 2 (m.v 2)) S.cols S.rows mb 3) (hm.v 3) (dk ht3) (hP.right 3 (by decide)) (by simp only[List.length_append];omega) rfl rfl (by decide) nL nA rfl)
   |refine cl ?_ (hi:=by exact dF (M:=aV (aV (aV (S.M) S.cols mb 0 (m.v 0)) S.cols mb 1 (m.v 1)) S.cols mb 2 (m.v 2)) (k:=3) (v:=m.v 3) hD hmb (by decide) (i:=16) (j:=17) rfl rfl (by decide) nA rfl)
   |refine cl ?_ (hi:=by exact ju (S:=(au m mb (au m mb (au m mb (au m mb (S,B++az S m) 0) 1) 2) 3).1) (bs:=(au m mb (au m mb (au m mb (au m mb (S,B++az S m) 0) 1) 2) 3).2) hD hmb rfl rfl rfl rfl nA rfl)
   |refine cl ?_ (hi:=by exact nu (B:=(au m mb (au m mb (au m mb (au m mb (S,B++az S m) 0) 1) 2) 3).2) (S:=aX (au m mb (au m mb (au m mb (au m mb (S,B++az S m) 0) 1) 2) 3).1 mb m.v) (nw ((au m mb (au m mb (au m mb (au m mb (S,B++az S m) 0) 1) 2) 3).2) bw (aX (au m mb (au m mb (au m mb (au m mb (S,B++az S m) 0) 1) 2) 3).1 mb m.v) m mb hg hS2 hmb hB2 (by have:=hP.lenw;omega) hx) rfl rfl rfl rfl rfl rfl nL nA rfl))
  |refine WX.loop ?_|refine WX.round ?_|refine zz ?_|refine zx (fun _=>?_) (fun _=>?_)|fail)
 show aC _ _ _ _ _ _ _ _;refine kV [0,1,2,3,4,5,6,7,8,9,10,11,12,13,14,15,16,17,18,19,20,21,22,23] ?_
 rfl
end Go.Proofs.YtagpkhindehcbaaGreat
