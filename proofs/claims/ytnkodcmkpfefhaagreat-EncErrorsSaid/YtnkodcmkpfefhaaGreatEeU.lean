/-
  A part of the proof: Put2.
-/
import Derived.Test.YtnkodcmkpfefhaaGreatEeT
set_option maxRecDepth 10000
set_option maxHeartbeats 8000000
set_option linter.unusedVariables false
set_option linter.unusedSectionVars false
set_option linter.unusedSimpArgs false
namespace Go.Proofs.YtnkodcmkpfefhaaGreat
open Go.Xm
variable [aw]
theorem LA{S:bO}{B bw:List Bool}{m:Mb}{mb:Int}(hP:jA S B bw m mb)(hk:m.kind=2)(x:oT)(hx:gm m mb ⟨bk (az m mb (az m mb (az m mb (az m mb (S,B++aG S m) 0) 1) 2) 3).1 mb m.v,(az m mb (az m mb (az m mb (az m mb (S,B++aG S m) 0) 1) 2) 3).2,0,0,fun _=>[]⟩ 6=some x) :
 aW Tryz.prog 83 [.one (.ptr 2 0),.one (.ptr 0 0),.one (.ptr 22 0),.one (.int .i64 mb),.agg (mC m)] [aK 1 B,aq B,fv (S),cK 4 8 12,aI 5 6 7 cM,bz cM,bC cM,bB cM,aI 9 10 11 cZ,bz cZ,bC cZ,bB cZ,aI 13 14 15 cP,bz cP,bC cP,bB cP,dq 17 (S).cols (S).rows,.map (bK (S).M),.cells [.int .i64 (S).cols,.int .i64 (S).rows,.map 19,.map 20,.map 21] 142 false false,.map (aj (S).A),.map (aj (S).B),.map (aj (S).C),aK 23 bw,aq bw] (.one (.int .i64 0)) [aK 24 (dY x),.dead,fv (x.S),cK 4 8 12,aI 5 6 7 cM,bz cM,bC cM,bB cM,aI 9 10 11 cZ,bz cZ,bC cZ,bB cZ,aI 13 14 15 cP,bz cP,bC cP,bB cP,dq 17 (x.S).cols (x.S).rows,.map (bK (x.S).M),.cells [.int .i64 (x.S).cols,.int .i64 (x.S).rows,.map 19,.map 20,.map 21] 142 false false,.map (aj (x.S).A),.map (aj (x.S).B),.map (aj (x.S).C),aK 25 (cC bw x 6),.dead,aq (dY x),aq (cC bw x 6)]:=by
 have hg:=hP.good
 have hm:=hg.ok
 have hD:=hP.st.dims
 have hmb:=hP.mb
 have hlen:=hP.len
 have hkl:=ej S m
 have hK:=gx B S m hm hg.kind hP.qp (by omega)
 rw[eg (by omega)]at hK
 have ht0:c_ (S.M):=hP.st.tiny
 have hl0:=e9 (m.v 0) (cN (S.M) S.cols S.rows mb 0)
 have ht1:c_ (a_ (S.M) S.cols mb 0 (m.v 0)):=cg ht0 (hm.v 0)
 have hl1:=e9 (m.v 1) (cN (a_ (S.M) S.cols mb 0 (m.v 0)) S.cols S.rows mb 1)
 have ht2:c_ (a_ (a_ (S.M) S.cols mb 0 (m.v 0)) S.cols mb 1 (m.v 1)):=cg ht1 (hm.v 1)
 have hl2:=e9 (m.v 2) (cN (a_ (a_ (S.M) S.cols mb 0 (m.v 0)) S.cols mb 1 (m.v 1)) S.cols S.rows mb 2)
 have ht3:c_ (a_ (a_ (a_ (S.M) S.cols mb 0 (m.v 0)) S.cols mb 1 (m.v 1)) S.cols mb 2 (m.v 2)):=cg ht2 (hm.v 2)
 have hl3:=e9 (m.v 3) (cN (a_ (a_ (a_ (S.M) S.cols mb 0 (m.v 0)) S.cols mb 1 (m.v 1)) S.cols mb 2 (m.v 2)) S.cols S.rows mb 3)
 have htE:c_ (a_ (a_ (a_ (a_ (S.M) S.cols mb 0 (m.v 0)) S.cols mb 1 (m.v 1)) S.cols mb 2 (m.v 2)) S.cols mb 3 (m.v 3)):=cg ht3 (hm.v 3)
 have hS2:f4 (bk (az m mb (az m mb (az m mb (az m mb (S,B++aG S m) 0) 1) 2) 3).1 mb m.v):=⟨hD,hP.st.lev,d9 htE hm.v⟩
 have hB2:((az m mb (az m mb (az m mb (az m mb (S,B++aG S m) 0) 1) 2) 3).2).length<=700000:=by
  show((((((B++aG S m)++dt (m.v 0) (cN (S.M) S.cols S.rows mb 0))++dt (m.v 1) (cN (a_ (S.M) S.cols mb 0 (m.v 0)) S.cols S.rows mb 1))++dt (m.v 2) (cN (a_ (a_ (S.M) S.cols mb 0 (m.v 0)) S.cols mb 1 (m.v 1)) S.cols S.rows mb 2))++dt (m.v 3) (cN (a_ (a_ (a_ (S.M) S.cols mb 0 (m.v 0)) S.cols mb 1 (m.v 1)) S.cols mb 2 (m.v 2)) S.cols S.rows mb 3))).length<=700000
  simp only[List.length_append,List.length_cons,List.length_nil]
  omega
 refine cO Tryz.func83 ?_
 repeat' (first
  |(refine qz ?_;first
   |refine fV ?_ (hle:=by rw[aQ])
   |refine cl ?_ (hi:=by exact oI (S:=S) (S':=S) (bs:=B) (bs':=B++aG S m) (fun _ => .flat .nil) (.flat .nil) rfl hK rfl rfl rfl rfl nL nA rfl)
   |refine cl ?_ (hi:=by exact ie (M:=S.M) (k:=0) ht0 hD hmb (by decide) (i:=16) (j:=17) rfl rfl (by decide) rfl)
   |refine cl ?_ (hi:=by exact ig (bs:=(B++aG S m)) (v:=m.v 0) (e:=cN (S.M) S.cols S.rows mb 0) (hm.v 0) (eo ht0) (hP.right 0 (by decide)) (by simp only[List.length_append];omega) rfl rfl (by decide) nL nA rfl)
   |refine cl ?_ (hi:=by exact eH (M:=S.M) (k:=0) (v:=m.v 0) hD hmb (by decide) (i:=16) (j:=17) rfl rfl (by decide) nA rfl)
   |refine cl ?_ (hi:=by exact ie (M:=a_ (S.M) S.cols mb 0 (m.v 0)) (k:=1) ht1 hD hmb (by decide) (i:=16) (j:=17) rfl rfl (by decide) rfl)
   |refine cl ?_ (hi:=by exact ig (bs:=((B++aG S m)++dt (m.v 0) (cN (S.M) S.cols S.rows mb 0))) (v:=m.v 1) (e:=cN (a_ (S.M) S.cols mb 0 (m.v 0)) S.cols S.rows mb 1) (hm.v 1) (eo ht1) (hP.right 1 (by decide)) (by simp only[List.length_append];omega) rfl rfl (by decide) nL nA rfl)
   |refine cl ?_ (hi:=by exact eH (M:=a_ (S.M) S.cols mb 0 (m.v 0)) (k:=1) (v:=m.v 1) hD hmb (by decide) (i:=16) (j:=17) rfl rfl (by decide) nA rfl)
   |refine cl ?_ (hi:=by exact ie (M:=a_ (a_ (S.M) S.cols mb 0 (m.v 0)) S.cols mb 1 (m.v 1)) (k:=2) ht2 hD hmb (by decide) (i:=16) (j:=17) rfl rfl (by decide) rfl)
   |refine cl ?_ (hi:=by exact ig (bs:=(((B++aG S m)++dt (m.v 0) (cN (S.M) S.cols S.rows mb 0))++dt (m.v 1) (cN (a_ (S.M) S.cols mb 0 (m.v 0)) S.cols S.rows mb 1))) (v:=m.v 2) (e:=cN (a_ (a_ (S.M) S.cols mb 0 (m.v 0)) S.cols mb 1 (m.v 1)) S.cols S.rows mb 2) (hm.v 2) (eo ht2) (hP.right 2 (by decide)) (by simp only[List.length_append];omega) rfl rfl (by decide) nL nA rfl)
   |refine cl ?_ (hi:=by exact eH (M:=a_ (a_ (S.M) S.cols mb 0 (m.v 0)) S.cols mb 1 (m.v 1)) (k:=2) (v:=m.v 2) hD hmb (by decide) (i:=16) (j:=17) rfl rfl (by decide) nA rfl)
   |refine cl ?_ (hi:=by exact ie (M:=a_ (a_ (a_ (S.M) S.cols mb 0 (m.v 0)) S.cols mb 1 (m.v 1)) S.cols mb 2 (m.v 2)) (k:=3) ht3 hD hmb (by decide) (i:=16) (j:=17) rfl rfl (by decide) rfl)
   |refine cl ?_ (hi:=by exact ig (bs:=((((B++aG S m)++dt (m.v 0) (cN (S.M) S.cols S.rows mb 0))++dt (m.v 1) (cN (a_ (S.M) S.cols mb 0 (m.v 0)) S.cols S.rows mb 1))++dt (m.v 2) (cN (a_ (a_ (S.M) S.cols mb 0 (m.v 0)) S.cols mb 1 (m.v 1)) S.cols S.rows mb 2))) (v:=m.v 3) (e:=cN (a_ (a_ (a_ (S.M) S.cols mb 0 (m.v 0)) S.cols mb 1 (m.v 1)) S.cols mb 2 (m.v 2)) S.cols S.rows mb 3) (hm.v 3) (eo ht3) (hP.right 3 (by decide)) (by simp only[List.length_append];omega) rfl rfl (by decide) nL nA rfl)
   |refine cl ?_ (hi:=by exact eH (M:=a_ (a_ (a_ (S.M) S.cols mb 0 (m.v 0)) S.cols mb 1 (m.v 1)) S.cols mb 2 (m.v 2)) (k:=3) (v:=m.v 3) hD hmb (by decide) (i:=16) (j:=17) rfl rfl (by decide) nA rfl)
   |refine cl ?_ (hi:=by exact gH (S:=(az m mb (az m mb (az m mb (az m mb (S,B++aG S m) 0) 1) 2) 3).1) (bs:=(az m mb (az m mb (az m mb (az m mb (S,B++aG S m) 0) 1) 2) 3).2) hD hmb rfl rfl rfl rfl nA rfl)
   |refine cl ?_ (hi:=by exact mr (B:=(az m mb (az m mb (az m mb (az m mb (S,B++aG S m) 0) 1) 2) 3).2) (S:=bk (az m mb (az m mb (az m mb (az m mb (S,B++aG S m) 0) 1) 2) 3).1 mb m.v) (mu ((az m mb (az m mb (az m mb (az m mb (S,B++aG S m) 0) 1) 2) 3).2) bw (bk (az m mb (az m mb (az m mb (az m mb (S,B++aG S m) 0) 1) 2) 3).1 mb m.v) m mb hg hS2 hmb hB2 (by have:=hP.lenw;omega) x hx) rfl rfl rfl rfl rfl rfl nL nA rfl))
  |refine WX.loop ?_|refine WX.round ?_|refine zz ?_|refine zx (fun _=>?_) (fun _=>?_)|fail)
 show aD _ _ _ _ _ _ _ _;refine kV [0,1,2,3,4,5,6,7,8,9,10,11,12,13,14,15,16,17,18,19,20,21,22,23,30,31] ?_
 rfl
theorem JY{S:bO}{B bw:List Bool}{m:Mb}{mb:Int}(hP:jA S B bw m mb)(hk:m.kind=2)(hx:gm m mb ⟨bk (az m mb (az m mb (az m mb (az m mb (S,B++aG S m) 0) 1) 2) 3).1 mb m.v,(az m mb (az m mb (az m mb (az m mb (S,B++aG S m) 0) 1) 2) 3).2,0,0,fun _=>[]⟩ 6=none) :
 aW Tryz.prog 83 [.one (.ptr 2 0),.one (.ptr 0 0),.one (.ptr 22 0),.one (.int .i64 mb),.agg (mC m)] [aK 1 B,aq B,fv (S),cK 4 8 12,aI 5 6 7 cM,bz cM,bC cM,bB cM,aI 9 10 11 cZ,bz cZ,bC cZ,bB cZ,aI 13 14 15 cP,bz cP,bC cP,bB cP,dq 17 (S).cols (S).rows,.map (bK (S).M),.cells [.int .i64 (S).cols,.int .i64 (S).rows,.map 19,.map 20,.map 21] 142 false false,.map (aj (S).A),.map (aj (S).B),.map (aj (S).C),aK 23 bw,aq bw] (.one (.int .i64 2)) lH:=by
 have hg:=hP.good
 have hm:=hg.ok
 have hD:=hP.st.dims
 have hmb:=hP.mb
 have hlen:=hP.len
 have hkl:=ej S m
 have hK:=gx B S m hm hg.kind hP.qp (by omega)
 rw[eg (by omega)]at hK
 have ht0:c_ (S.M):=hP.st.tiny
 have hl0:=e9 (m.v 0) (cN (S.M) S.cols S.rows mb 0)
 have ht1:c_ (a_ (S.M) S.cols mb 0 (m.v 0)):=cg ht0 (hm.v 0)
 have hl1:=e9 (m.v 1) (cN (a_ (S.M) S.cols mb 0 (m.v 0)) S.cols S.rows mb 1)
 have ht2:c_ (a_ (a_ (S.M) S.cols mb 0 (m.v 0)) S.cols mb 1 (m.v 1)):=cg ht1 (hm.v 1)
 have hl2:=e9 (m.v 2) (cN (a_ (a_ (S.M) S.cols mb 0 (m.v 0)) S.cols mb 1 (m.v 1)) S.cols S.rows mb 2)
 have ht3:c_ (a_ (a_ (a_ (S.M) S.cols mb 0 (m.v 0)) S.cols mb 1 (m.v 1)) S.cols mb 2 (m.v 2)):=cg ht2 (hm.v 2)
 have hl3:=e9 (m.v 3) (cN (a_ (a_ (a_ (S.M) S.cols mb 0 (m.v 0)) S.cols mb 1 (m.v 1)) S.cols mb 2 (m.v 2)) S.cols S.rows mb 3)
 have htE:c_ (a_ (a_ (a_ (a_ (S.M) S.cols mb 0 (m.v 0)) S.cols mb 1 (m.v 1)) S.cols mb 2 (m.v 2)) S.cols mb 3 (m.v 3)):=cg ht3 (hm.v 3)
 have hS2:f4 (bk (az m mb (az m mb (az m mb (az m mb (S,B++aG S m) 0) 1) 2) 3).1 mb m.v):=⟨hD,hP.st.lev,d9 htE hm.v⟩
 have hB2:((az m mb (az m mb (az m mb (az m mb (S,B++aG S m) 0) 1) 2) 3).2).length<=700000:=by
  show((((((B++aG S m)++dt (m.v 0) (cN (S.M) S.cols S.rows mb 0))++dt (m.v 1) (cN (a_ (S.M) S.cols mb 0 (m.v 0)) S.cols S.rows mb 1))++dt (m.v 2) (cN (a_ (a_ (S.M) S.cols mb 0 (m.v 0)) S.cols mb 1 (m.v 1)) S.cols S.rows mb 2))++dt (m.v 3) (cN (a_ (a_ (a_ (S.M) S.cols mb 0 (m.v 0)) S.cols mb 1 (m.v 1)) S.cols mb 2 (m.v 2)) S.cols S.rows mb 3))).length<=700000
  simp only[List.length_append,List.length_cons,List.length_nil]
  omega
 refine cO Tryz.func83 ?_
 repeat' (first
  |(refine qz ?_;first
   |refine fV ?_ (hle:=by rw[aQ])
   |refine cl ?_ (hi:=by exact oI (S:=S) (S':=S) (bs:=B) (bs':=B++aG S m) (fun _ => .flat .nil) (.flat .nil) rfl hK rfl rfl rfl rfl nL nA rfl)
   |refine cl ?_ (hi:=by exact ie (M:=S.M) (k:=0) ht0 hD hmb (by decide) (i:=16) (j:=17) rfl rfl (by decide) rfl)
   |refine cl ?_ (hi:=by exact ig (bs:=(B++aG S m)) (v:=m.v 0) (e:=cN (S.M) S.cols S.rows mb 0) (hm.v 0) (eo ht0) (hP.right 0 (by decide)) (by simp only[List.length_append];omega) rfl rfl (by decide) nL nA rfl)
   |refine cl ?_ (hi:=by exact eH (M:=S.M) (k:=0) (v:=m.v 0) hD hmb (by decide) (i:=16) (j:=17) rfl rfl (by decide) nA rfl)
   |refine cl ?_ (hi:=by exact ie (M:=a_ (S.M) S.cols mb 0 (m.v 0)) (k:=1) ht1 hD hmb (by decide) (i:=16) (j:=17) rfl rfl (by decide) rfl)
   |refine cl ?_ (hi:=by exact ig (bs:=((B++aG S m)++dt (m.v 0) (cN (S.M) S.cols S.rows mb 0))) (v:=m.v 1) (e:=cN (a_ (S.M) S.cols mb 0 (m.v 0)) S.cols S.rows mb 1) (hm.v 1) (eo ht1) (hP.right 1 (by decide)) (by simp only[List.length_append];omega) rfl rfl (by decide) nL nA rfl)
   |refine cl ?_ (hi:=by exact eH (M:=a_ (S.M) S.cols mb 0 (m.v 0)) (k:=1) (v:=m.v 1) hD hmb (by decide) (i:=16) (j:=17) rfl rfl (by decide) nA rfl)
   |refine cl ?_ (hi:=by exact ie (M:=a_ (a_ (S.M) S.cols mb 0 (m.v 0)) S.cols mb 1 (m.v 1)) (k:=2) ht2 hD hmb (by decide) (i:=16) (j:=17) rfl rfl (by decide) rfl)
   |refine cl ?_ (hi:=by exact ig (bs:=(((B++aG S m)++dt (m.v 0) (cN (S.M) S.cols S.rows mb 0))++dt (m.v 1) (cN (a_ (S.M) S.cols mb 0 (m.v 0)) S.cols S.rows mb 1))) (v:=m.v 2) (e:=cN (a_ (a_ (S.M) S.cols mb 0 (m.v 0)) S.cols mb 1 (m.v 1)) S.cols S.rows mb 2) (hm.v 2) (eo ht2) (hP.right 2 (by decide)) (by simp only[List.length_append];omega) rfl rfl (by decide) nL nA rfl)
   |refine cl ?_ (hi:=by exact eH (M:=a_ (a_ (S.M) S.cols mb 0 (m.v 0)) S.cols mb 1 (m.v 1)) (k:=2) (v:=m.v 2) hD hmb (by decide) (i:=16) (j:=17) rfl rfl (by decide) nA rfl)
   |refine cl ?_ (hi:=by exact ie (M:=a_ (a_ (a_ (S.M) S.cols mb 0 (m.v 0)) S.cols mb 1 (m.v 1)) S.cols mb 2 (m.v 2)) (k:=3) ht3 hD hmb (by decide) (i:=16) (j:=17) rfl rfl (by decide) rfl)
   |refine cl ?_ (hi:=by exact ig (bs:=((((B++aG S m)++dt (m.v 0) (cN (S.M) S.cols S.rows mb 0))++dt (m.v 1) (cN (a_ (S.M) S.cols mb 0 (m.v 0)) S.cols S.rows mb 1))++dt (m.v 2) (cN (a_ (a_ (S.M) S.cols mb 0 (m.v 0)) S.cols mb 1 (m.v 1)) S.cols S.rows mb 2))) (v:=m.v 3) (e:=cN (a_ (a_ (a_ (S.M) S.cols mb 0 (m.v 0)) S.cols mb 1 (m.v 1)) S.cols mb 2 (m.v 2)) S.cols S.rows mb 3) (hm.v 3) (eo ht3) (hP.right 3 (by decide)) (by simp only[List.length_append];omega) rfl rfl (by decide) nL nA rfl)
   |refine cl ?_ (hi:=by exact eH (M:=a_ (a_ (a_ (S.M) S.cols mb 0 (m.v 0)) S.cols mb 1 (m.v 1)) S.cols mb 2 (m.v 2)) (k:=3) (v:=m.v 3) hD hmb (by decide) (i:=16) (j:=17) rfl rfl (by decide) nA rfl)
   |refine cl ?_ (hi:=by exact gH (S:=(az m mb (az m mb (az m mb (az m mb (S,B++aG S m) 0) 1) 2) 3).1) (bs:=(az m mb (az m mb (az m mb (az m mb (S,B++aG S m) 0) 1) 2) 3).2) hD hmb rfl rfl rfl rfl nA rfl)
   |refine cl ?_ (hi:=by exact kR (B:=(az m mb (az m mb (az m mb (az m mb (S,B++aG S m) 0) 1) 2) 3).2) (S:=bk (az m mb (az m mb (az m mb (az m mb (S,B++aG S m) 0) 1) 2) 3).1 mb m.v) (kS ((az m mb (az m mb (az m mb (az m mb (S,B++aG S m) 0) 1) 2) 3).2) bw (bk (az m mb (az m mb (az m mb (az m mb (S,B++aG S m) 0) 1) 2) 3).1 mb m.v) m mb hg hS2 hmb hB2 (by have:=hP.lenw;omega) hx) rfl rfl rfl rfl rfl rfl nL nA rfl))
  |refine WX.loop ?_|refine WX.round ?_|refine zz ?_|refine zx (fun _=>?_) (fun _=>?_)|fail)
 show aD _ _ _ _ _ _ _ _;refine kV [0,1,2,3,4,5,6,7,8,9,10,11,12,13,14,15,16,17,18,19,20,21,22,23] ?_
 rfl
end Go.Proofs.YtnkodcmkpfefhaaGreat
