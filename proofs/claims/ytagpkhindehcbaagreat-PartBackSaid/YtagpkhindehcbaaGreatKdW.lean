/-
  A part of the proof: Put2.
-/
import Derived.Test.YtagpkhindehcbaaGreatKdT
set_option maxRecDepth 10000
set_option maxHeartbeats 8000000
set_option linter.unusedVariables false
set_option linter.unusedSectionVars false
set_option linter.unusedSimpArgs false
namespace Go.Proofs.YtagpkhindehcbaaGreat
open Go.Xm
variable [az]
theorem OR {S:bC} {B bw:List Bool} {m:Mb} {mb:Int}(hP:kP S B bw m mb) (hk:m.kind=2) (x:pe) (hx:fq m mb ⟨ba (av m mb (av m mb (av m mb (av m mb (S,B++aB S m) 0) 1) 2) 3).1 mb m.v,(av m mb (av m mb (av m mb (av m mb (S,B++aB S m) 0) 1) 2) 3).2,0,0,fun _=>[]⟩ 6=some x) :
 bn Tryz.prog 29 [.one (.ptr 2 0),.one (.ptr 0 0),.one (.ptr 22 0),.one (.int .i64 mb),.agg (mC m)] [aP 1 B,aq B,du (S),bM 4 8 12,ax 5 6 7 cM,aU cM,aW cM,aV cM,ax 9 10 11 cZ,aU cZ,aW cZ,aV cZ,ax 13 14 15 cP,aU cP,aW cP,aV cP,cg 17 (S).cols (S).rows,.map (bg (S).M),.cells [.int .i64 (S).cols,.int .i64 (S).rows,.map 19,.map 20,.map 21] 171 false false,.map (ah (S).A),.map (ah (S).B),.map (ah (S).C),aP 23 bw,aq bw] (.one (.int .i64 0)) [aP 24 (eY x),.dead,du (x.S),bM 4 8 12,ax 5 6 7 cM,aU cM,aW cM,aV cM,ax 9 10 11 cZ,aU cZ,aW cZ,aV cZ,ax 13 14 15 cP,aU cP,aW cP,aV cP,cg 17 (x.S).cols (x.S).rows,.map (bg (x.S).M),.cells [.int .i64 (x.S).cols,.int .i64 (x.S).rows,.map 19,.map 20,.map 21] 171 false false,.map (ah (x.S).A),.map (ah (x.S).B),.map (ah (x.S).C),aP 25 (bB bw x 6),.dead,aq (eY x),aq (bB bw x 6)]:=by
 have hg:=hP.good
 have hm:=hg.ok
 have hD:=hP.st.dims
 have hmb:=hP.mb
 have hlen:=hP.len
 have hkl:=fN S m
 have hK:=iR B S m hm hg.kind hP.qp (by omega)
 rw [dK (by omega)]at hK
 have ht0:ch (S.M):=hP.st.tiny
 have hl0:=gu (m.v 0) (cf (S.M) S.cols S.rows mb 0)
 have ht1:ch (aZ (S.M) S.cols mb 0 (m.v 0)):=bH ht0 (hm.v 0)
 have hl1:=gu (m.v 1) (cf (aZ (S.M) S.cols mb 0 (m.v 0)) S.cols S.rows mb 1)
 have ht2:ch (aZ (aZ (S.M) S.cols mb 0 (m.v 0)) S.cols mb 1 (m.v 1)):=bH ht1 (hm.v 1)
 have hl2:=gu (m.v 2) (cf (aZ (aZ (S.M) S.cols mb 0 (m.v 0)) S.cols mb 1 (m.v 1)) S.cols S.rows mb 2)
 have ht3:ch (aZ (aZ (aZ (S.M) S.cols mb 0 (m.v 0)) S.cols mb 1 (m.v 1)) S.cols mb 2 (m.v 2)):=bH ht2 (hm.v 2)
 have hl3:=gu (m.v 3) (cf (aZ (aZ (aZ (S.M) S.cols mb 0 (m.v 0)) S.cols mb 1 (m.v 1)) S.cols mb 2 (m.v 2)) S.cols S.rows mb 3)
 have htE:ch (aZ (aZ (aZ (aZ (S.M) S.cols mb 0 (m.v 0)) S.cols mb 1 (m.v 1)) S.cols mb 2 (m.v 2)) S.cols mb 3 (m.v 3)):=bH ht3 (hm.v 3)
 have hS2:iy (ba (av m mb (av m mb (av m mb (av m mb (S,B++aB S m) 0) 1) 2) 3).1 mb m.v):=⟨hD,hP.st.lev,eJ htE hm.v⟩
 have hB2:((av m mb (av m mb (av m mb (av m mb (S,B++aB S m) 0) 1) 2) 3).2).length≤700000:=by
  show((((((B++aB S m)++cJ (m.v 0) (cf (S.M) S.cols S.rows mb 0))++cJ (m.v 1) (cf (aZ (S.M) S.cols mb 0 (m.v 0)) S.cols S.rows mb 1))++cJ (m.v 2) (cf (aZ (aZ (S.M) S.cols mb 0 (m.v 0)) S.cols mb 1 (m.v 1)) S.cols S.rows mb 2))++cJ (m.v 3) (cf (aZ (aZ (aZ (S.M) S.cols mb 0 (m.v 0)) S.cols mb 1 (m.v 1)) S.cols mb 2 (m.v 2)) S.cols S.rows mb 3))).length≤700000
  simp only [List.length_append,List.length_cons,List.length_nil]
  omega
 refine cO Tryz.func29 ?_
 repeat' (first
  |(refine qz ?_;first
   |refine fW ?_ (hle:=by rw [aJ])
   |refine cl ?_ (hi:=by exact q8 (S:=S) (S':=S) (bs:=B) (bs':=B++aB S m) (fun _ => .flat .nil) (.flat .nil) rfl hK rfl rfl rfl rfl nL nA rfl)
   |refine cl ?_ (hi:=by exact fz (M:=S.M) (k:=0) ht0 hD hmb (by decide) (i:=16) (j:=17) rfl rfl (by decide) rfl)
   |refine cl ?_ (hi:=by exact jv (bs:=(B++aB S m)) (v:=m.v 0) (e:=cf (S.M) S.cols S.rows mb 0) (hm.v 0) (cV ht0) (hP.right 0 (by decide)) (by simp only [List.length_append];omega) rfl rfl (by decide) nL nA rfl)
   |refine cl ?_ (hi:=by exact dh (M:=S.M) (k:=0) (v:=m.v 0) hD hmb (by decide) (i:=16) (j:=17) rfl rfl (by decide) nA rfl)
   |refine cl ?_ (hi:=by exact fz (M:=aZ (S.M) S.cols mb 0 (m.v 0)) (k:=1) ht1 hD hmb (by decide) (i:=16) (j:=17) rfl rfl (by decide) rfl)
   |refine cl ?_ (hi:=by exact jv (bs:=((B++aB S m)++cJ (m.v 0) (cf (S.M) S.cols S.rows mb 0))) (v:=m.v 1) (e:=cf (aZ (S.M) S.cols mb 0 (m.v 0)) S.cols S.rows mb 1) (hm.v 1) (cV ht1) (hP.right 1 (by decide)) (by simp only [List.length_append];omega) rfl rfl (by decide) nL nA rfl)
   |refine cl ?_ (hi:=by exact dh (M:=aZ (S.M) S.cols mb 0 (m.v 0)) (k:=1) (v:=m.v 1) hD hmb (by decide) (i:=16) (j:=17) rfl rfl (by decide) nA rfl)
   |refine cl ?_ (hi:=by exact fz (M:=aZ (aZ (S.M) S.cols mb 0 (m.v 0)) S.cols mb 1 (m.v 1)) (k:=2) ht2 hD hmb (by decide) (i:=16) (j:=17) rfl rfl (by decide) rfl)
   |refine cl ?_ (hi:=by exact jv (bs:=(((B++aB S m)++cJ (m.v 0) (cf (S.M) S.cols S.rows mb 0))++cJ (m.v 1) (cf (aZ (S.M) S.cols mb 0 (m.v 0)) S.cols S.rows mb 1))) (v:=m.v 2) (e:=cf (aZ (aZ (S.M) S.cols mb 0 (m.v 0)) S.cols mb 1 (m.v 1)) S.cols S.rows mb 2) (hm.v 2) (cV ht2) (hP.right 2 (by decide)) (by simp only [List.length_append];omega) rfl rfl (by decide) nL nA rfl)
   |refine cl ?_ (hi:=by exact dh (M:=aZ (aZ (S.M) S.cols mb 0 (m.v 0)) S.cols mb 1 (m.v 1)) (k:=2) (v:=m.v 2) hD hmb (by decide) (i:=16) (j:=17) rfl rfl (by decide) nA rfl)
   |refine cl ?_ (hi:=by exact fz (M:=aZ (aZ (aZ (S.M) S.cols mb 0 (m.v 0)) S.cols mb 1 (m.v 1)) S.cols mb 2 (m.v 2)) (k:=3) ht3 hD hmb (by decide) (i:=16) (j:=17) rfl rfl (by decide) rfl)
   |refine cl ?_ (hi:=by exact jv (bs:=((((B++aB S m)++cJ (m.v 0) (cf (S.M) S.cols S.rows mb 0))++cJ (m.v 1) (cf (aZ (S.M) S.cols mb 0 (m.v 0)) S.cols S.rows mb 1))++cJ (m.v 2) (cf (aZ (aZ (S.M) S.cols mb 0 (m.v 0)) S.cols mb 1 (m.v 1)) S.cols S.rows mb 2))) (v:=m.v 3) (e:=cf (aZ (aZ (aZ (S.M) S.cols mb 0 (m.v 0)) S.cols mb 1 (m.v 1)) S.cols mb 2 (m.v 2)) S.cols S.rows mb 3) (hm.v 3) (cV ht3) (hP.right 3 (by decide)) (by simp only [List.length_append];omega) rfl rfl (by decide) nL nA rfl)
   |refine cl ?_ (hi:=by exact dh (M:=aZ (aZ (aZ (S.M) S.cols mb 0 (m.v 0)) S.cols mb 1 (m.v 1)) S.cols mb 2 (m.v 2)) (k:=3) (v:=m.v 3) hD hmb (by decide) (i:=16) (j:=17) rfl rfl (by decide) nA rfl)
   |refine cl ?_ (hi:=by exact i4 (S:=(av m mb (av m mb (av m mb (av m mb (S,B++aB S m) 0) 1) 2) 3).1) (bs:=(av m mb (av m mb (av m mb (av m mb (S,B++aB S m) 0) 1) 2) 3).2) hD hmb rfl rfl rfl rfl nA rfl)
   |refine cl ?_ (hi:=by exact oG (B:=(av m mb (av m mb (av m mb (av m mb (S,B++aB S m) 0) 1) 2) 3).2) (S:=ba (av m mb (av m mb (av m mb (av m mb (S,B++aB S m) 0) 1) 2) 3).1 mb m.v) (oH ((av m mb (av m mb (av m mb (av m mb (S,B++aB S m) 0) 1) 2) 3).2) bw (ba (av m mb (av m mb (av m mb (av m mb (S,B++aB S m) 0) 1) 2) 3).1 mb m.v) m mb hg hS2 hmb hB2 (by have:=hP.lenw;omega) x hx) rfl rfl rfl rfl rfl rfl nL nA rfl))
  |refine WX.loop ?_|refine WX.round ?_|refine zz ?_|refine zx (fun _=>?_) (fun _=>?_)|fail)
 show aC _ _ _ _ _ _ _ _;refine kV [0,1,2,3,4,5,6,7,8,9,10,11,12,13,14,15,16,17,18,19,20,21,22,23,30,31] ?_
 rfl
theorem Np {S:bC} {B bw:List Bool} {m:Mb} {mb:Int}(hP:kP S B bw m mb) (hk:m.kind=2) (hx:fq m mb ⟨ba (av m mb (av m mb (av m mb (av m mb (S,B++aB S m) 0) 1) 2) 3).1 mb m.v,(av m mb (av m mb (av m mb (av m mb (S,B++aB S m) 0) 1) 2) 3).2,0,0,fun _=>[]⟩ 6=none) :
 bn Tryz.prog 29 [.one (.ptr 2 0),.one (.ptr 0 0),.one (.ptr 22 0),.one (.int .i64 mb),.agg (mC m)] [aP 1 B,aq B,du (S),bM 4 8 12,ax 5 6 7 cM,aU cM,aW cM,aV cM,ax 9 10 11 cZ,aU cZ,aW cZ,aV cZ,ax 13 14 15 cP,aU cP,aW cP,aV cP,cg 17 (S).cols (S).rows,.map (bg (S).M),.cells [.int .i64 (S).cols,.int .i64 (S).rows,.map 19,.map 20,.map 21] 171 false false,.map (ah (S).A),.map (ah (S).B),.map (ah (S).C),aP 23 bw,aq bw] (.one (.int .i64 2)) nr:=by
 have hg:=hP.good
 have hm:=hg.ok
 have hD:=hP.st.dims
 have hmb:=hP.mb
 have hlen:=hP.len
 have hkl:=fN S m
 have hK:=iR B S m hm hg.kind hP.qp (by omega)
 rw [dK (by omega)]at hK
 have ht0:ch (S.M):=hP.st.tiny
 have hl0:=gu (m.v 0) (cf (S.M) S.cols S.rows mb 0)
 have ht1:ch (aZ (S.M) S.cols mb 0 (m.v 0)):=bH ht0 (hm.v 0)
 have hl1:=gu (m.v 1) (cf (aZ (S.M) S.cols mb 0 (m.v 0)) S.cols S.rows mb 1)
 have ht2:ch (aZ (aZ (S.M) S.cols mb 0 (m.v 0)) S.cols mb 1 (m.v 1)):=bH ht1 (hm.v 1)
 have hl2:=gu (m.v 2) (cf (aZ (aZ (S.M) S.cols mb 0 (m.v 0)) S.cols mb 1 (m.v 1)) S.cols S.rows mb 2)
 have ht3:ch (aZ (aZ (aZ (S.M) S.cols mb 0 (m.v 0)) S.cols mb 1 (m.v 1)) S.cols mb 2 (m.v 2)):=bH ht2 (hm.v 2)
 have hl3:=gu (m.v 3) (cf (aZ (aZ (aZ (S.M) S.cols mb 0 (m.v 0)) S.cols mb 1 (m.v 1)) S.cols mb 2 (m.v 2)) S.cols S.rows mb 3)
 have htE:ch (aZ (aZ (aZ (aZ (S.M) S.cols mb 0 (m.v 0)) S.cols mb 1 (m.v 1)) S.cols mb 2 (m.v 2)) S.cols mb 3 (m.v 3)):=bH ht3 (hm.v 3)
 have hS2:iy (ba (av m mb (av m mb (av m mb (av m mb (S,B++aB S m) 0) 1) 2) 3).1 mb m.v):=⟨hD,hP.st.lev,eJ htE hm.v⟩
 have hB2:((av m mb (av m mb (av m mb (av m mb (S,B++aB S m) 0) 1) 2) 3).2).length≤700000:=by
  show((((((B++aB S m)++cJ (m.v 0) (cf (S.M) S.cols S.rows mb 0))++cJ (m.v 1) (cf (aZ (S.M) S.cols mb 0 (m.v 0)) S.cols S.rows mb 1))++cJ (m.v 2) (cf (aZ (aZ (S.M) S.cols mb 0 (m.v 0)) S.cols mb 1 (m.v 1)) S.cols S.rows mb 2))++cJ (m.v 3) (cf (aZ (aZ (aZ (S.M) S.cols mb 0 (m.v 0)) S.cols mb 1 (m.v 1)) S.cols mb 2 (m.v 2)) S.cols S.rows mb 3))).length≤700000
  simp only [List.length_append,List.length_cons,List.length_nil]
  omega
 refine cO Tryz.func29 ?_
 repeat' (first
  |(refine qz ?_;first
   |refine fW ?_ (hle:=by rw [aJ])
   |refine cl ?_ (hi:=by exact q8 (S:=S) (S':=S) (bs:=B) (bs':=B++aB S m) (fun _ => .flat .nil) (.flat .nil) rfl hK rfl rfl rfl rfl nL nA rfl)
   |refine cl ?_ (hi:=by exact fz (M:=S.M) (k:=0) ht0 hD hmb (by decide) (i:=16) (j:=17) rfl rfl (by decide) rfl)
   |refine cl ?_ (hi:=by exact jv (bs:=(B++aB S m)) (v:=m.v 0) (e:=cf (S.M) S.cols S.rows mb 0) (hm.v 0) (cV ht0) (hP.right 0 (by decide)) (by simp only [List.length_append];omega) rfl rfl (by decide) nL nA rfl)
   |refine cl ?_ (hi:=by exact dh (M:=S.M) (k:=0) (v:=m.v 0) hD hmb (by decide) (i:=16) (j:=17) rfl rfl (by decide) nA rfl)
   |refine cl ?_ (hi:=by exact fz (M:=aZ (S.M) S.cols mb 0 (m.v 0)) (k:=1) ht1 hD hmb (by decide) (i:=16) (j:=17) rfl rfl (by decide) rfl)
   |refine cl ?_ (hi:=by exact jv (bs:=((B++aB S m)++cJ (m.v 0) (cf (S.M) S.cols S.rows mb 0))) (v:=m.v 1) (e:=cf (aZ (S.M) S.cols mb 0 (m.v 0)) S.cols S.rows mb 1) (hm.v 1) (cV ht1) (hP.right 1 (by decide)) (by simp only [List.length_append];omega) rfl rfl (by decide) nL nA rfl)
   |refine cl ?_ (hi:=by exact dh (M:=aZ (S.M) S.cols mb 0 (m.v 0)) (k:=1) (v:=m.v 1) hD hmb (by decide) (i:=16) (j:=17) rfl rfl (by decide) nA rfl)
   |refine cl ?_ (hi:=by exact fz (M:=aZ (aZ (S.M) S.cols mb 0 (m.v 0)) S.cols mb 1 (m.v 1)) (k:=2) ht2 hD hmb (by decide) (i:=16) (j:=17) rfl rfl (by decide) rfl)
   |refine cl ?_ (hi:=by exact jv (bs:=(((B++aB S m)++cJ (m.v 0) (cf (S.M) S.cols S.rows mb 0))++cJ (m.v 1) (cf (aZ (S.M) S.cols mb 0 (m.v 0)) S.cols S.rows mb 1))) (v:=m.v 2) (e:=cf (aZ (aZ (S.M) S.cols mb 0 (m.v 0)) S.cols mb 1 (m.v 1)) S.cols S.rows mb 2) (hm.v 2) (cV ht2) (hP.right 2 (by decide)) (by simp only [List.length_append];omega) rfl rfl (by decide) nL nA rfl)
   |refine cl ?_ (hi:=by exact dh (M:=aZ (aZ (S.M) S.cols mb 0 (m.v 0)) S.cols mb 1 (m.v 1)) (k:=2) (v:=m.v 2) hD hmb (by decide) (i:=16) (j:=17) rfl rfl (by decide) nA rfl)
   |refine cl ?_ (hi:=by exact fz (M:=aZ (aZ (aZ (S.M) S.cols mb 0 (m.v 0)) S.cols mb 1 (m.v 1)) S.cols mb 2 (m.v 2)) (k:=3) ht3 hD hmb (by decide) (i:=16) (j:=17) rfl rfl (by decide) rfl)
   |refine cl ?_ (hi:=by exact jv (bs:=((((B++aB S m)++cJ (m.v 0) (cf (S.M) S.cols S.rows mb 0))++cJ (m.v 1) (cf (aZ (S.M) S.cols mb 0 (m.v 0)) S.cols S.rows mb 1))++cJ (m.v 2) (cf (aZ (aZ (S.M) S.cols mb 0 (m.v 0)) S.cols mb 1 (m.v 1)) S.cols S.rows mb 2))) (v:=m.v 3) (e:=cf (aZ (aZ (aZ (S.M) S.cols mb 0 (m.v 0)) S.cols mb 1 (m.v 1)) S.cols mb 2 (m.v 2)) S.cols S.rows mb 3) (hm.v 3) (cV ht3) (hP.right 3 (by decide)) (by simp only [List.length_append];omega) rfl rfl (by decide) nL nA rfl)
   |refine cl ?_ (hi:=by exact dh (M:=aZ (aZ (aZ (S.M) S.cols mb 0 (m.v 0)) S.cols mb 1 (m.v 1)) S.cols mb 2 (m.v 2)) (k:=3) (v:=m.v 3) hD hmb (by decide) (i:=16) (j:=17) rfl rfl (by decide) nA rfl)
   |refine cl ?_ (hi:=by exact i4 (S:=(av m mb (av m mb (av m mb (av m mb (S,B++aB S m) 0) 1) 2) 3).1) (bs:=(av m mb (av m mb (av m mb (av m mb (S,B++aB S m) 0) 1) 2) 3).2) hD hmb rfl rfl rfl rfl nA rfl)
   |refine cl ?_ (hi:=by exact mE (B:=(av m mb (av m mb (av m mb (av m mb (S,B++aB S m) 0) 1) 2) 3).2) (S:=ba (av m mb (av m mb (av m mb (av m mb (S,B++aB S m) 0) 1) 2) 3).1 mb m.v) (mG ((av m mb (av m mb (av m mb (av m mb (S,B++aB S m) 0) 1) 2) 3).2) bw (ba (av m mb (av m mb (av m mb (av m mb (S,B++aB S m) 0) 1) 2) 3).1 mb m.v) m mb hg hS2 hmb hB2 (by have:=hP.lenw;omega) hx) rfl rfl rfl rfl rfl rfl nL nA rfl))
  |refine WX.loop ?_|refine WX.round ?_|refine zz ?_|refine zx (fun _=>?_) (fun _=>?_)|fail)
 show aC _ _ _ _ _ _ _ _;refine kV [0,1,2,3,4,5,6,7,8,9,10,11,12,13,14,15,16,17,18,19,20,21,22,23] ?_
 rfl
end Go.Proofs.YtagpkhindehcbaaGreat
