/-
  A part of the proof: Put2.
-/
import Derived.Test.YthdciapjllppjaaGreatFbS
set_option maxRecDepth 10000
set_option maxHeartbeats 8000000
set_option linter.unusedVariables false
set_option linter.unusedSectionVars false
set_option linter.unusedSimpArgs false
open Go.Proofs.Tryz (prog)
namespace Go.Proofs.YthdciapjllppjaaGreat
open Go.Xm
variable [av]
theorem Q3{S:cR}{B bw:List Bool}{m:Mb}{mb:Int}(hP:r7 S B bw m mb)(hk:m.kind=2)(x:qX)(hx:jS m mb ⟨bY (aQ m mb (aQ m mb (aQ m mb (aQ m mb (S,B++bc S m) 0) 1) 2) 3).1 mb m.v,(aQ m mb (aQ m mb (aQ m mb (aQ m mb (S,B++bc S m) 0) 1) 2) 3).2,0,0,fun _=>[]⟩ 6=some x) :
 bm prog 63 [.one (.ptr 2 0),.one (.ptr 0 0),.one (.ptr 22 0),.one (.int .i64 mb),.agg (mC m)] [aO 1 B,au B,jg (S),eP 4 8 12,aU 5 6 7 cM,cL cM,cQ cM,cN cM,aU 9 10 11 cZ,cL cZ,cQ cZ,cN cZ,aU 13 14 15 cP,cL cP,cQ cP,cN cP,fi 17 (S).cols (S).rows,.map (cx (S).M),.cells [.int .i64 (S).cols,.int .i64 (S).rows,.map 19,.map 20,.map 21] 220 false false,.map (ak (S).A),.map (ak (S).B),.map (ak (S).C),aO 23 bw,au bw] (.one (.int .i64 0)) [aO 24 (ep x),.dead,jg (x.S),eP 4 8 12,aU 5 6 7 cM,cL cM,cQ cM,cN cM,aU 9 10 11 cZ,cL cZ,cQ cZ,cN cZ,aU 13 14 15 cP,cL cP,cQ cP,cN cP,fi 17 (x.S).cols (x.S).rows,.map (cx (x.S).M),.cells [.int .i64 (x.S).cols,.int .i64 (x.S).rows,.map 19,.map 20,.map 21] 220 false false,.map (ak (x.S).A),.map (ak (x.S).B),.map (ak (x.S).C),aO 25 (cJ bw x 6),.dead,au (ep x),au (cJ bw x 6)]:=by
 have hg:=hP.good;have hm:=hg.ok;have hD:=hP.st.dims;have hmb:=hP.mb;have hlen:=hP.len;have hkl:=jL S m;have hK:=nO B S m hm hg.kind hP.qp (by omega);rw[i9 (by omega)]at hK;have ht0:fv (S.M):=hP.st.tiny;have hl0:=lQ (m.v 0) (gk (S.M) S.cols S.rows mb 0);have ht1:fv (cD (S.M) S.cols mb 0 (m.v 0)):=ef ht0 (hm.v 0);have hl1:=lQ (m.v 1) (gk (cD (S.M) S.cols mb 0 (m.v 0)) S.cols S.rows mb 1);have ht2:fv (cD (cD (S.M) S.cols mb 0 (m.v 0)) S.cols mb 1 (m.v 1)):=ef ht1 (hm.v 1);have hl2:=lQ (m.v 2) (gk (cD (cD (S.M) S.cols mb 0 (m.v 0)) S.cols mb 1 (m.v 1)) S.cols S.rows mb 2);have ht3:fv (cD (cD (cD (S.M) S.cols mb 0 (m.v 0)) S.cols mb 1 (m.v 1)) S.cols mb 2 (m.v 2)):=ef ht2 (hm.v 2);have hl3:=lQ (m.v 3) (gk (cD (cD (cD (S.M) S.cols mb 0 (m.v 0)) S.cols mb 1 (m.v 1)) S.cols mb 2 (m.v 2)) S.cols S.rows mb 3);have htE:fv (cD (cD (cD (cD (S.M) S.cols mb 0 (m.v 0)) S.cols mb 1 (m.v 1)) S.cols mb 2 (m.v 2)) S.cols mb 3 (m.v 3)):=ef ht3 (hm.v 3)
 have hS2:jQ (bY (aQ m mb (aQ m mb (aQ m mb (aQ m mb (S,B++bc S m) 0) 1) 2) 3).1 mb m.v):=⟨hD,hP.st.lev,kg htE hm.v⟩
 have hB2:((aQ m mb (aQ m mb (aQ m mb (aQ m mb (S,B++bc S m) 0) 1) 2) 3).2).length<=700000:=by
  show((((((B++bc S m)++gM (m.v 0) (gk (S.M) S.cols S.rows mb 0))++gM (m.v 1) (gk (cD (S.M) S.cols mb 0 (m.v 0)) S.cols S.rows mb 1))++gM (m.v 2) (gk (cD (cD (S.M) S.cols mb 0 (m.v 0)) S.cols mb 1 (m.v 1)) S.cols S.rows mb 2))++gM (m.v 3) (gk (cD (cD (cD (S.M) S.cols mb 0 (m.v 0)) S.cols mb 1 (m.v 1)) S.cols mb 2 (m.v 2)) S.cols S.rows mb 3))).length<=700000;simp only[List.length_append,List.length_cons,List.length_nil];omega
 refine cO Tryz.func63 ?_
 repeat' (first
  |(refine qz ?_;first
   |refine lI ?_ (hle:=by rw[aY])
   |refine cl ?_ (hi:=by exact AN (S:=S) (S':=S) (bs:=B) (bs':=B++bc S m) (fun _ => .flat .nil) (.flat .nil) rfl hK rfl rfl rfl rfl nL nA rfl)
   |refine cl ?_ (hi:=by exact qN (M:=S.M) (k:=0) ht0 hD hmb (by decide) (i:=16) (j:=17) rfl rfl (by decide) rfl)
   |refine cl ?_ (hi:=by exact qO (bs:=(B++bc S m)) (v:=m.v 0) (e:=gk (S.M) S.cols S.rows mb 0) (hm.v 0) (lP ht0) (hP.right 0 (by decide)) (by simp only[List.length_append];omega) rfl rfl (by decide) nL nA rfl)
   |refine cl ?_ (hi:=by exact jF (M:=S.M) (k:=0) (v:=m.v 0) hD hmb (by decide) (i:=16) (j:=17) rfl rfl (by decide) nA rfl)
   |refine cl ?_ (hi:=by exact qN (M:=cD (S.M) S.cols mb 0 (m.v 0)) (k:=1) ht1 hD hmb (by decide) (i:=16) (j:=17) rfl rfl (by decide) rfl)
   |refine cl ?_ (hi:=by exact qO (bs:=((B++bc S m)++gM (m.v 0) (gk (S.M) S.cols S.rows mb 0))) (v:=m.v 1) (e:=gk (cD (S.M) S.cols mb 0 (m.v 0)) S.cols S.rows mb 1) (hm.v 1) (lP ht1) (hP.right 1 (by decide)) (by simp only[List.length_append];omega) rfl rfl (by decide) nL nA rfl)
   |refine cl ?_ (hi:=by exact jF (M:=cD (S.M) S.cols mb 0 (m.v 0)) (k:=1) (v:=m.v 1) hD hmb (by decide) (i:=16) (j:=17) rfl rfl (by decide) nA rfl)
   |refine cl ?_ (hi:=by exact qN (M:=cD (cD (S.M) S.cols mb 0 (m.v 0)) S.cols mb 1 (m.v 1)) (k:=2) ht2 hD hmb (by decide) (i:=16) (j:=17) rfl rfl (by decide) rfl)
   |refine cl ?_ (hi:=by exact qO (bs:=(((B++bc S m)++gM (m.v 0) (gk (S.M) S.cols S.rows mb 0))++gM (m.v 1) (gk (cD (S.M) S.cols mb 0 (m.v 0)) S.cols S.rows mb 1))) (v:=m.v 2) (e:=gk (cD (cD (S.M) S.cols mb 0 (m.v 0)) S.cols mb 1 (m.v 1)) S.cols S.rows mb 2) (hm.v 2) (lP ht2) (hP.right 2 (by decide)) (by simp only[List.length_append];omega) rfl rfl (by decide) nL nA rfl)
   |refine cl ?_ (hi:=by exact jF (M:=cD (cD (S.M) S.cols mb 0 (m.v 0)) S.cols mb 1 (m.v 1)) (k:=2) (v:=m.v 2) hD hmb (by decide) (i:=16) (j:=17) rfl rfl (by decide) nA rfl)
   |refine cl ?_ (hi:=by exact qN (M:=cD (cD (cD (S.M) S.cols mb 0 (m.v 0)) S.cols mb 1 (m.v 1)) S.cols mb 2 (m.v 2)) (k:=3) ht3 hD hmb (by decide) (i:=16) (j:=17) rfl rfl (by decide) rfl)
   |refine cl ?_ (hi:=by exact qO (bs:=((((B++bc S m)++gM (m.v 0) (gk (S.M) S.cols S.rows mb 0))++gM (m.v 1) (gk (cD (S.M) S.cols mb 0 (m.v 0)) S.cols S.rows mb 1))++gM (m.v 2) (gk (cD (cD (S.M) S.cols mb 0 (m.v 0)) S.cols mb 1 (m.v 1)) S.cols S.rows mb 2))) (v:=m.v 3) (e:=gk (cD (cD (cD (S.M) S.cols mb 0 (m.v 0)) S.cols mb 1 (m.v 1)) S.cols mb 2 (m.v 2)) S.cols S.rows mb 3) (hm.v 3) (lP ht3) (hP.right 3 (by decide)) (by simp only[List.length_append];omega) rfl rfl (by decide) nL nA rfl)
   |refine cl ?_ (hi:=by exact jF (M:=cD (cD (cD (S.M) S.cols mb 0 (m.v 0)) S.cols mb 1 (m.v 1)) S.cols mb 2 (m.v 2)) (k:=3) (v:=m.v 3) hD hmb (by decide) (i:=16) (j:=17) rfl rfl (by decide) nA rfl)
   |refine cl ?_ (hi:=by exact n6 (S:=(aQ m mb (aQ m mb (aQ m mb (aQ m mb (S,B++bc S m) 0) 1) 2) 3).1) (bs:=(aQ m mb (aQ m mb (aQ m mb (aQ m mb (S,B++bc S m) 0) 1) 2) 3).2) hD hmb rfl rfl rfl rfl nA rfl)
   |refine cl ?_ (hi:=by exact ou (B:=(aQ m mb (aQ m mb (aQ m mb (aQ m mb (S,B++bc S m) 0) 1) 2) 3).2) (S:=bY (aQ m mb (aQ m mb (aQ m mb (aQ m mb (S,B++bc S m) 0) 1) 2) 3).1 mb m.v) (ov ((aQ m mb (aQ m mb (aQ m mb (aQ m mb (S,B++bc S m) 0) 1) 2) 3).2) bw (bY (aQ m mb (aQ m mb (aQ m mb (aQ m mb (S,B++bc S m) 0) 1) 2) 3).1 mb m.v) m mb hg hS2 hmb hB2 (by have:=hP.lenw;omega) x hx) rfl rfl rfl rfl rfl rfl nL nA rfl))
  |refine WX.loop ?_|refine WX.round ?_|refine zz ?_|refine zx (fun _=>?_) (fun _=>?_)|fail)
 show aE _ _ _ _ _ _ _ _;refine kV [0,1,2,3,4,5,6,7,8,9,10,11,12,13,14,15,16,17,18,19,20,21,22,23,30,31] ?_;rfl
end Go.Proofs.YthdciapjllppjaaGreat
