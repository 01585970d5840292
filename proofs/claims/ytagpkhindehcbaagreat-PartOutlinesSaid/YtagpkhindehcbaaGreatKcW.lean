/-
  A part of the proof: Put2.
-/
import Derived.Test.YtagpkhindehcbaaGreatKcT
set_option maxRecDepth 10000
set_option maxHeartbeats 8000000
set_option linter.unusedVariables false
set_option linter.unusedSectionVars false
set_option linter.unusedSimpArgs false
namespace Go.Proofs.YtagpkhindehcbaaGreat
open Go.Xm
variable [az]
theorem NF {S:bz} {B bw:List Bool} {m:Mb} {mb:Int}(hP:kU S B bw m mb) (hk:m.kind=2) (x:pq) (hx:fY m mb ⟨bc (ax m mb (ax m mb (ax m mb (ax m mb (S,B++aC S m) 0) 1) 2) 3).1 mb m.v,(ax m mb (ax m mb (ax m mb (ax m mb (S,B++aC S m) 0) 1) 2) 3).2,0,0,fun _=>[]⟩ 6=some x) :
 bt Tryz.prog 29 [.one (.ptr 2 0),.one (.ptr 0 0),.one (.ptr 22 0),.one (.int .i64 mb),.agg (mC m)] [aQ 1 B,av B,dw (S),bR 4 8 12,ay 5 6 7 cM,aX cM,aZ cM,aY cM,ay 9 10 11 cZ,aX cZ,aZ cZ,aY cZ,ay 13 14 15 cP,aX cP,aZ cP,aY cP,ch 17 (S).cols (S).rows,.map (bg (S).M),.cells [.int .i64 (S).cols,.int .i64 (S).rows,.map 19,.map 20,.map 21] 171 false false,.map (ah (S).A),.map (ah (S).B),.map (ah (S).C),aQ 23 bw,av bw] (.one (.int .i64 0)) [aQ 24 (eU x),.dead,dw (x.S),bR 4 8 12,ay 5 6 7 cM,aX cM,aZ cM,aY cM,ay 9 10 11 cZ,aX cZ,aZ cZ,aY cZ,ay 13 14 15 cP,aX cP,aZ cP,aY cP,ch 17 (x.S).cols (x.S).rows,.map (bg (x.S).M),.cells [.int .i64 (x.S).cols,.int .i64 (x.S).rows,.map 19,.map 20,.map 21] 171 false false,.map (ah (x.S).A),.map (ah (x.S).B),.map (ah (x.S).C),aQ 25 (bH bw x 6),.dead,av (eU x),av (bH bw x 6)]:=by
 have hg:=hP.good
 have hm:=hg.ok
 have hD:=hP.st.dims
 have hmb:=hP.mb
 have hlen:=hP.len
 have hkl:=fI S m
 have hK:=iQ B S m hm hg.kind hP.qp (by omega)
 rw [dL (by omega)]at hK
 have ht0:cj (S.M):=hP.st.tiny
 have hl0:=gm (m.v 0) (cg (S.M) S.cols S.rows mb 0)
 have ht1:cj (ba (S.M) S.cols mb 0 (m.v 0)):=bJ ht0 (hm.v 0)
 have hl1:=gm (m.v 1) (cg (ba (S.M) S.cols mb 0 (m.v 0)) S.cols S.rows mb 1)
 have ht2:cj (ba (ba (S.M) S.cols mb 0 (m.v 0)) S.cols mb 1 (m.v 1)):=bJ ht1 (hm.v 1)
 have hl2:=gm (m.v 2) (cg (ba (ba (S.M) S.cols mb 0 (m.v 0)) S.cols mb 1 (m.v 1)) S.cols S.rows mb 2)
 have ht3:cj (ba (ba (ba (S.M) S.cols mb 0 (m.v 0)) S.cols mb 1 (m.v 1)) S.cols mb 2 (m.v 2)):=bJ ht2 (hm.v 2)
 have hl3:=gm (m.v 3) (cg (ba (ba (ba (S.M) S.cols mb 0 (m.v 0)) S.cols mb 1 (m.v 1)) S.cols mb 2 (m.v 2)) S.cols S.rows mb 3)
 have htE:cj (ba (ba (ba (ba (S.M) S.cols mb 0 (m.v 0)) S.cols mb 1 (m.v 1)) S.cols mb 2 (m.v 2)) S.cols mb 3 (m.v 3)):=bJ ht3 (hm.v 3)
 have hS2:iy (bc (ax m mb (ax m mb (ax m mb (ax m mb (S,B++aC S m) 0) 1) 2) 3).1 mb m.v):=⟨hD,hP.st.lev,eG htE hm.v⟩
 have hB2:((ax m mb (ax m mb (ax m mb (ax m mb (S,B++aC S m) 0) 1) 2) 3).2).length≤700000:=by
  show((((((B++aC S m)++cJ (m.v 0) (cg (S.M) S.cols S.rows mb 0))++cJ (m.v 1) (cg (ba (S.M) S.cols mb 0 (m.v 0)) S.cols S.rows mb 1))++cJ (m.v 2) (cg (ba (ba (S.M) S.cols mb 0 (m.v 0)) S.cols mb 1 (m.v 1)) S.cols S.rows mb 2))++cJ (m.v 3) (cg (ba (ba (ba (S.M) S.cols mb 0 (m.v 0)) S.cols mb 1 (m.v 1)) S.cols mb 2 (m.v 2)) S.cols S.rows mb 3))).length≤700000
  simp only [List.length_append,List.length_cons,List.length_nil]
  omega
 refine cO Tryz.func29 ?_
 repeat' (first
  |(refine qz ?_;first
   |refine fy ?_ (hle:=by rw [aF])
   |refine cl ?_ (hi:=by exact qF (S:=S) (S':=S) (bs:=B) (bs':=B++aC S m) (fun _ => .flat .nil) (.flat .nil) rfl hK rfl rfl rfl rfl nL nA rfl)
   |refine cl ?_ (hi:=by exact fu (M:=S.M) (k:=0) ht0 hD hmb (by decide) (i:=16) (j:=17) rfl rfl (by decide) rfl)
   |refine cl ?_ (hi:=by exact jt (bs:=(B++aC S m)) (v:=m.v 0) (e:=cg (S.M) S.cols S.rows mb 0) (hm.v 0) (cY ht0) (hP.right 0 (by decide)) (by simp only [List.length_append];omega) rfl rfl (by decide) nL nA rfl)
   |refine cl ?_ (hi:=by exact dk (M:=S.M) (k:=0) (v:=m.v 0) hD hmb (by decide) (i:=16) (j:=17) rfl rfl (by decide) nA rfl)
   |refine cl ?_ (hi:=by exact fu (M:=ba (S.M) S.cols mb 0 (m.v 0)) (k:=1) ht1 hD hmb (by decide) (i:=16) (j:=17) rfl rfl (by decide) rfl)
   |refine cl ?_ (hi:=by exact jt (bs:=((B++aC S m)++cJ (m.v 0) (cg (S.M) S.cols S.rows mb 0))) (v:=m.v 1) (e:=cg (ba (S.M) S.cols mb 0 (m.v 0)) S.cols S.rows mb 1) (hm.v 1) (cY ht1) (hP.right 1 (by decide)) (by simp only [List.length_append];omega) rfl rfl (by decide) nL nA rfl)
   |refine cl ?_ (hi:=by exact dk (M:=ba (S.M) S.cols mb 0 (m.v 0)) (k:=1) (v:=m.v 1) hD hmb (by decide) (i:=16) (j:=17) rfl rfl (by decide) nA rfl)
   |refine cl ?_ (hi:=by exact fu (M:=ba (ba (S.M) S.cols mb 0 (m.v 0)) S.cols mb 1 (m.v 1)) (k:=2) ht2 hD hmb (by decide) (i:=16) (j:=17) rfl rfl (by decide) rfl)
   |refine cl ?_ (hi:=by exact jt (bs:=(((B++aC S m)++cJ (m.v 0) (cg (S.M) S.cols S.rows mb 0))++cJ (m.v 1) (cg (ba (S.M) S.cols mb 0 (m.v 0)) S.cols S.rows mb 1))) (v:=m.v 2) (e:=cg (ba (ba (S.M) S.cols mb 0 (m.v 0)) S.cols mb 1 (m.v 1)) S.cols S.rows mb 2) (hm.v 2) (cY ht2) (hP.right 2 (by decide)) (by simp only [List.length_append];omega) rfl rfl (by decide) nL nA rfl)
   |refine cl ?_ (hi:=by exact dk (M:=ba (ba (S.M) S.cols mb 0 (m.v 0)) S.cols mb 1 (m.v 1)) (k:=2) (v:=m.v 2) hD hmb (by decide) (i:=16) (j:=17) rfl rfl (by decide) nA rfl)
   |refine cl ?_ (hi:=by exact fu (M:=ba (ba (ba (S.M) S.cols mb 0 (m.v 0)) S.cols mb 1 (m.v 1)) S.cols mb 2 (m.v 2)) (k:=3) ht3 hD hmb (by decide) (i:=16) (j:=17) rfl rfl (by decide) rfl)
   |refine cl ?_ (hi:=by exact jt (bs:=((((B++aC S m)++cJ (m.v 0) (cg (S.M) S.cols S.rows mb 0))++cJ (m.v 1) (cg (ba (S.M) S.cols mb 0 (m.v 0)) S.cols S.rows mb 1))++cJ (m.v 2) (cg (ba (ba (S.M) S.cols mb 0 (m.v 0)) S.cols mb 1 (m.v 1)) S.cols S.rows mb 2))) (v:=m.v 3) (e:=cg (ba (ba (ba (S.M) S.cols mb 0 (m.v 0)) S.cols mb 1 (m.v 1)) S.cols mb 2 (m.v 2)) S.cols S.rows mb 3) (hm.v 3) (cY ht3) (hP.right 3 (by decide)) (by simp only [List.length_append];omega) rfl rfl (by decide) nL nA rfl)
   |refine cl ?_ (hi:=by exact dk (M:=ba (ba (ba (S.M) S.cols mb 0 (m.v 0)) S.cols mb 1 (m.v 1)) S.cols mb 2 (m.v 2)) (k:=3) (v:=m.v 3) hD hmb (by decide) (i:=16) (j:=17) rfl rfl (by decide) nA rfl)
   |refine cl ?_ (hi:=by exact iW (S:=(ax m mb (ax m mb (ax m mb (ax m mb (S,B++aC S m) 0) 1) 2) 3).1) (bs:=(ax m mb (ax m mb (ax m mb (ax m mb (S,B++aC S m) 0) 1) 2) 3).2) hD hmb rfl rfl rfl rfl nA rfl)
   |refine cl ?_ (hi:=by exact ow (B:=(ax m mb (ax m mb (ax m mb (ax m mb (S,B++aC S m) 0) 1) 2) 3).2) (S:=bc (ax m mb (ax m mb (ax m mb (ax m mb (S,B++aC S m) 0) 1) 2) 3).1 mb m.v) (ox ((ax m mb (ax m mb (ax m mb (ax m mb (S,B++aC S m) 0) 1) 2) 3).2) bw (bc (ax m mb (ax m mb (ax m mb (ax m mb (S,B++aC S m) 0) 1) 2) 3).1 mb m.v) m mb hg hS2 hmb hB2 (by have:=hP.lenw;omega) x hx) rfl rfl rfl rfl rfl rfl nL nA rfl))
  |refine WX.loop ?_|refine WX.round ?_|refine zz ?_|refine zx (fun _=>?_) (fun _=>?_)|fail)
 show aH _ _ _ _ _ _ _ _;refine kV [0,1,2,3,4,5,6,7,8,9,10,11,12,13,14,15,16,17,18,19,20,21,22,23,30,31] ?_
 rfl
theorem Mf {S:bz} {B bw:List Bool} {m:Mb} {mb:Int}(hP:kU S B bw m mb) (hk:m.kind=2) (hx:fY m mb ⟨bc (ax m mb (ax m mb (ax m mb (ax m mb (S,B++aC S m) 0) 1) 2) 3).1 mb m.v,(ax m mb (ax m mb (ax m mb (ax m mb (S,B++aC S m) 0) 1) 2) 3).2,0,0,fun _=>[]⟩ 6=none) :
 bt Tryz.prog 29 [.one (.ptr 2 0),.one (.ptr 0 0),.one (.ptr 22 0),.one (.int .i64 mb),.agg (mC m)] [aQ 1 B,av B,dw (S),bR 4 8 12,ay 5 6 7 cM,aX cM,aZ cM,aY cM,ay 9 10 11 cZ,aX cZ,aZ cZ,aY cZ,ay 13 14 15 cP,aX cP,aZ cP,aY cP,ch 17 (S).cols (S).rows,.map (bg (S).M),.cells [.int .i64 (S).cols,.int .i64 (S).rows,.map 19,.map 20,.map 21] 171 false false,.map (ah (S).A),.map (ah (S).B),.map (ah (S).C),aQ 23 bw,av bw] (.one (.int .i64 2)) m_:=by
 have hg:=hP.good
 have hm:=hg.ok
 have hD:=hP.st.dims
 have hmb:=hP.mb
 have hlen:=hP.len
 have hkl:=fI S m
 have hK:=iQ B S m hm hg.kind hP.qp (by omega)
 rw [dL (by omega)]at hK
 have ht0:cj (S.M):=hP.st.tiny
 have hl0:=gm (m.v 0) (cg (S.M) S.cols S.rows mb 0)
 have ht1:cj (ba (S.M) S.cols mb 0 (m.v 0)):=bJ ht0 (hm.v 0)
 have hl1:=gm (m.v 1) (cg (ba (S.M) S.cols mb 0 (m.v 0)) S.cols S.rows mb 1)
 have ht2:cj (ba (ba (S.M) S.cols mb 0 (m.v 0)) S.cols mb 1 (m.v 1)):=bJ ht1 (hm.v 1)
 have hl2:=gm (m.v 2) (cg (ba (ba (S.M) S.cols mb 0 (m.v 0)) S.cols mb 1 (m.v 1)) S.cols S.rows mb 2)
 have ht3:cj (ba (ba (ba (S.M) S.cols mb 0 (m.v 0)) S.cols mb 1 (m.v 1)) S.cols mb 2 (m.v 2)):=bJ ht2 (hm.v 2)
 have hl3:=gm (m.v 3) (cg (ba (ba (ba (S.M) S.cols mb 0 (m.v 0)) S.cols mb 1 (m.v 1)) S.cols mb 2 (m.v 2)) S.cols S.rows mb 3)
 have htE:cj (ba (ba (ba (ba (S.M) S.cols mb 0 (m.v 0)) S.cols mb 1 (m.v 1)) S.cols mb 2 (m.v 2)) S.cols mb 3 (m.v 3)):=bJ ht3 (hm.v 3)
 have hS2:iy (bc (ax m mb (ax m mb (ax m mb (ax m mb (S,B++aC S m) 0) 1) 2) 3).1 mb m.v):=⟨hD,hP.st.lev,eG htE hm.v⟩
 have hB2:((ax m mb (ax m mb (ax m mb (ax m mb (S,B++aC S m) 0) 1) 2) 3).2).length≤700000:=by
  show((((((B++aC S m)++cJ (m.v 0) (cg (S.M) S.cols S.rows mb 0))++cJ (m.v 1) (cg (ba (S.M) S.cols mb 0 (m.v 0)) S.cols S.rows mb 1))++cJ (m.v 2) (cg (ba (ba (S.M) S.cols mb 0 (m.v 0)) S.cols mb 1 (m.v 1)) S.cols S.rows mb 2))++cJ (m.v 3) (cg (ba (ba (ba (S.M) S.cols mb 0 (m.v 0)) S.cols mb 1 (m.v 1)) S.cols mb 2 (m.v 2)) S.cols S.rows mb 3))).length≤700000
  simp only [List.length_append,List.length_cons,List.length_nil]
  omega
 refine cO Tryz.func29 ?_
 repeat' (first
  |(refine qz ?_;first
   |refine fy ?_ (hle:=by rw [aF])
   |refine cl ?_ (hi:=by exact qF (S:=S) (S':=S) (bs:=B) (bs':=B++aC S m) (fun _ => .flat .nil) (.flat .nil) rfl hK rfl rfl rfl rfl nL nA rfl)
   |refine cl ?_ (hi:=by exact fu (M:=S.M) (k:=0) ht0 hD hmb (by decide) (i:=16) (j:=17) rfl rfl (by decide) rfl)
   |refine cl ?_ (hi:=by exact jt (bs:=(B++aC S m)) (v:=m.v 0) (e:=cg (S.M) S.cols S.rows mb 0) (hm.v 0) (cY ht0) (hP.right 0 (by decide)) (by simp only [List.length_append];omega) rfl rfl (by decide) nL nA rfl)
   |refine cl ?_ (hi:=by exact dk (M:=S.M) (k:=0) (v:=m.v 0) hD hmb (by decide) (i:=16) (j:=17) rfl rfl (by decide) nA rfl)
   |refine cl ?_ (hi:=by exact fu (M:=ba (S.M) S.cols mb 0 (m.v 0)) (k:=1) ht1 hD hmb (by decide) (i:=16) (j:=17) rfl rfl (by decide) rfl)
   |refine cl ?_ (hi:=by exact jt (bs:=((B++aC S m)++cJ (m.v 0) (cg (S.M) S.cols S.rows mb 0))) (v:=m.v 1) (e:=cg (ba (S.M) S.cols mb 0 (m.v 0)) S.cols S.rows mb 1) (hm.v 1) (cY ht1) (hP.right 1 (by decide)) (by simp only [List.length_append];omega) rfl rfl (by decide) nL nA rfl)
   |refine cl ?_ (hi:=by exact dk (M:=ba (S.M) S.cols mb 0 (m.v 0)) (k:=1) (v:=m.v 1) hD hmb (by decide) (i:=16) (j:=17) rfl rfl (by decide) nA rfl)
   |refine cl ?_ (hi:=by exact fu (M:=ba (ba (S.M) S.cols mb 0 (m.v 0)) S.cols mb 1 (m.v 1)) (k:=2) ht2 hD hmb (by decide) (i:=16) (j:=17) rfl rfl (by decide) rfl)
   |refine cl ?_ (hi:=by exact jt (bs:=(((B++aC S m)++cJ (m.v 0) (cg (S.M) S.cols S.rows mb 0))++cJ (m.v 1) (cg (ba (S.M) S.cols mb 0 (m.v 0)) S.cols S.rows mb 1))) (v:=m.v 2) (e:=cg (ba (ba (S.M) S.cols mb 0 (m.v 0)) S.cols mb 1 (m.v 1)) S.cols S.rows mb 2) (hm.v 2) (cY ht2) (hP.right 2 (by decide)) (by simp only [List.length_append];omega) rfl rfl (by decide) nL nA rfl)
   |refine cl ?_ (hi:=by exact dk (M:=ba (ba (S.M) S.cols mb 0 (m.v 0)) S.cols mb 1 (m.v 1)) (k:=2) (v:=m.v 2) hD hmb (by decide) (i:=16) (j:=17) rfl rfl (by decide) nA rfl)
   |refine cl ?_ (hi:=by exact fu (M:=ba (ba (ba (S.M) S.cols mb 0 (m.v 0)) S.cols mb 1 (m.v 1)) S.cols mb 2 (m.v 2)) (k:=3) ht3 hD hmb (by decide) (i:=16) (j:=17) rfl rfl (by decide) rfl)
   |refine cl ?_ (hi:=by exact jt (bs:=((((B++aC S m)++cJ (m.v 0) (cg (S.M) S.cols S.rows mb 0))++cJ (m.v 1) (cg (ba (S.M) S.cols mb 0 (m.v 0)) S.cols S.rows mb 1))++cJ (m.v 2) (cg (ba (ba (S.M) S.cols mb 0 (m.v 0)) S.cols mb 1 (m.v 1)) S.cols S.rows mb 2))) (v:=m.v 3) (e:=cg (ba (ba (ba (S.M) S.cols mb 0 (m.v 0)) S.cols mb 1 (m.v 1)) S.cols mb 2 (m.v 2)) S.cols S.rows mb 3) (hm.v 3) (cY ht3) (hP.right 3 (by decide)) (by simp only [List.length_append];omega) rfl rfl (by decide) nL nA rfl)
   |refine cl ?_ (hi:=by exact dk (M:=ba (ba (ba (S.M) S.cols mb 0 (m.v 0)) S.cols mb 1 (m.v 1)) S.cols mb 2 (m.v 2)) (k:=3) (v:=m.v 3) hD hmb (by decide) (i:=16) (j:=17) rfl rfl (by decide) nA rfl)
   |refine cl ?_ (hi:=by exact iW (S:=(ax m mb (ax m mb (ax m mb (ax m mb (S,B++aC S m) 0) 1) 2) 3).1) (bs:=(ax m mb (ax m mb (ax m mb (ax m mb (S,B++aC S m) 0) 1) 2) 3).2) hD hmb rfl rfl rfl rfl nA rfl)
   |refine cl ?_ (hi:=by exact my (B:=(ax m mb (ax m mb (ax m mb (ax m mb (S,B++aC S m) 0) 1) 2) 3).2) (S:=bc (ax m mb (ax m mb (ax m mb (ax m mb (S,B++aC S m) 0) 1) 2) 3).1 mb m.v) (mA ((ax m mb (ax m mb (ax m mb (ax m mb (S,B++aC S m) 0) 1) 2) 3).2) bw (bc (ax m mb (ax m mb (ax m mb (ax m mb (S,B++aC S m) 0) 1) 2) 3).1 mb m.v) m mb hg hS2 hmb hB2 (by have:=hP.lenw;omega) hx) rfl rfl rfl rfl rfl rfl nL nA rfl))
  |refine WX.loop ?_|refine WX.round ?_|refine zz ?_|refine zx (fun _=>?_) (fun _=>?_)|fail)
 show aH _ _ _ _ _ _ _ _;refine kV [0,1,2,3,4,5,6,7,8,9,10,11,12,13,14,15,16,17,18,19,20,21,22,23] ?_
 rfl
end Go.Proofs.YtagpkhindehcbaaGreat
