/-
  A part of the proof: Put2.
-/
import Derived.Test.YthdciapjllppjaaGreatWaV
set_option maxRecDepth 10000
set_option maxHeartbeats 8000000
set_option linter.unusedVariables false
set_option linter.unusedSectionVars false
set_option linter.unusedSimpArgs false
open Go.Proofs.Tryz (prog)
namespace Go.Proofs.YthdciapjllppjaaGreat
open Go.Xm
variable [ak]
theorem Rk{S:cD}{B bw:List Bool}{m:Mb}{mb:Int}(hP:sf S B bw m mb)(hk:m.kind=2)(x:ri)(hx:kh m mb ⟨bX (aS m mb (aS m mb (aS m mb (aS m mb (S,B++bj S m) 0) 1) 2) 3).1 mb m.v,(aS m mb (aS m mb (aS m mb (aS m mb (S,B++bj S m) 0) 1) 2) 3).2,0,0,fun _=>[]⟩ 6=some x) :
 bq prog 63 [.one (.ptr 2 0),.one (.ptr 0 0),.one (.ptr 22 0),.one (.int .i64 mb),.agg (mC m)] [aO 1 B,au B,jz (S),eZ 4 8 12,aW 5 6 7 cM,c6 cM,c9 cM,c7 cM,aW 9 10 11 cZ,c6 cZ,c9 cZ,c7 cZ,aW 13 14 15 cP,c6 cP,c9 cP,c7 cP,fA 17 (S).cols (S).rows,.map (cB (S).M),.cells [.int .i64 (S).cols,.int .i64 (S).rows,.map 19,.map 20,.map 21] 220 false false,.map (aq (S).A),.map (aq (S).B),.map (aq (S).C),aO 23 bw,au bw] (.one (.int .i64 0)) [aO 24 (eG x),.dead,jz (x.S),eZ 4 8 12,aW 5 6 7 cM,c6 cM,c9 cM,c7 cM,aW 9 10 11 cZ,c6 cZ,c9 cZ,c7 cZ,aW 13 14 15 cP,c6 cP,c9 cP,c7 cP,fA 17 (x.S).cols (x.S).rows,.map (cB (x.S).M),.cells [.int .i64 (x.S).cols,.int .i64 (x.S).rows,.map 19,.map 20,.map 21] 220 false false,.map (aq (x.S).A),.map (aq (x.S).B),.map (aq (x.S).C),aO 25 (cV bw x 6),.dead,au (eG x),au (cV bw x 6)]:=by
 have hg:=hP.good;have hm:=hg.ok;have hD:=hP.st.dims;have hmb:=hP.mb;have hlen:=hP.len;have hkl:=j8 S m;have hK:=nQ B S m hm hg.kind hP.qp (by omega);rw[ju (by omega)]at hK;have ht0:fH (S.M):=hP.st.tiny;have hl0:=l5 (m.v 0) (gG (S.M) S.cols S.rows mb 0);have ht1:fH (cH (S.M) S.cols mb 0 (m.v 0)):=eh ht0 (hm.v 0);have hl1:=l5 (m.v 1) (gG (cH (S.M) S.cols mb 0 (m.v 0)) S.cols S.rows mb 1);have ht2:fH (cH (cH (S.M) S.cols mb 0 (m.v 0)) S.cols mb 1 (m.v 1)):=eh ht1 (hm.v 1);have hl2:=l5 (m.v 2) (gG (cH (cH (S.M) S.cols mb 0 (m.v 0)) S.cols mb 1 (m.v 1)) S.cols S.rows mb 2);have ht3:fH (cH (cH (cH (S.M) S.cols mb 0 (m.v 0)) S.cols mb 1 (m.v 1)) S.cols mb 2 (m.v 2)):=eh ht2 (hm.v 2);have hl3:=l5 (m.v 3) (gG (cH (cH (cH (S.M) S.cols mb 0 (m.v 0)) S.cols mb 1 (m.v 1)) S.cols mb 2 (m.v 2)) S.cols S.rows mb 3);have htE:fH (cH (cH (cH (cH (S.M) S.cols mb 0 (m.v 0)) S.cols mb 1 (m.v 1)) S.cols mb 2 (m.v 2)) S.cols mb 3 (m.v 3)):=eh ht3 (hm.v 3)
 have hS2:kg (bX (aS m mb (aS m mb (aS m mb (aS m mb (S,B++bj S m) 0) 1) 2) 3).1 mb m.v):=⟨hD,hP.st.lev,kH htE hm.v⟩
 have hB2:((aS m mb (aS m mb (aS m mb (aS m mb (S,B++bj S m) 0) 1) 2) 3).2).length<=700000:=by
  show((((((B++bj S m)++hJ (m.v 0) (gG (S.M) S.cols S.rows mb 0))++hJ (m.v 1) (gG (cH (S.M) S.cols mb 0 (m.v 0)) S.cols S.rows mb 1))++hJ (m.v 2) (gG (cH (cH (S.M) S.cols mb 0 (m.v 0)) S.cols mb 1 (m.v 1)) S.cols S.rows mb 2))++hJ (m.v 3) (gG (cH (cH (cH (S.M) S.cols mb 0 (m.v 0)) S.cols mb 1 (m.v 1)) S.cols mb 2 (m.v 2)) S.cols S.rows mb 3))).length<=700000;simp only[List.length_append,List.length_cons,List.length_nil];omega
 refine cO Tryz.func63 ?_
 repeat' (first
  |(refine qz ?_;first
   |refine jV ?_ (hle:=by rw[bl])
   |refine cl ?_ (hi:=by exact AK (S:=S) (S':=S) (bs:=B) (bs':=B++bj S m) (fun _ => .flat .nil) (.flat .nil) rfl hK rfl rfl rfl rfl nL nA rfl)
   |refine cl ?_ (hi:=by exact qR (M:=S.M) (k:=0) ht0 hD hmb (by decide) (i:=16) (j:=17) rfl rfl (by decide) rfl)
   |refine cl ?_ (hi:=by exact qS (bs:=(B++bj S m)) (v:=m.v 0) (e:=gG (S.M) S.cols S.rows mb 0) (hm.v 0) (lZ ht0) (hP.right 0 (by decide)) (by simp only[List.length_append];omega) rfl rfl (by decide) nL nA rfl)
   |refine cl ?_ (hi:=by exact jY (M:=S.M) (k:=0) (v:=m.v 0) hD hmb (by decide) (i:=16) (j:=17) rfl rfl (by decide) nA rfl)
   |refine cl ?_ (hi:=by exact qR (M:=cH (S.M) S.cols mb 0 (m.v 0)) (k:=1) ht1 hD hmb (by decide) (i:=16) (j:=17) rfl rfl (by decide) rfl)
   |refine cl ?_ (hi:=by exact qS (bs:=((B++bj S m)++hJ (m.v 0) (gG (S.M) S.cols S.rows mb 0))) (v:=m.v 1) (e:=gG (cH (S.M) S.cols mb 0 (m.v 0)) S.cols S.rows mb 1) (hm.v 1) (lZ ht1) (hP.right 1 (by decide)) (by simp only[List.length_append];omega) rfl rfl (by decide) nL nA rfl)
   |refine cl ?_ (hi:=by exact jY (M:=cH (S.M) S.cols mb 0 (m.v 0)) (k:=1) (v:=m.v 1) hD hmb (by decide) (i:=16) (j:=17) rfl rfl (by decide) nA rfl)
   |refine cl ?_ (hi:=by exact qR (M:=cH (cH (S.M) S.cols mb 0 (m.v 0)) S.cols mb 1 (m.v 1)) (k:=2) ht2 hD hmb (by decide) (i:=16) (j:=17) rfl rfl (by decide) rfl)
   |refine cl ?_ (hi:=by exact qS (bs:=(((B++bj S m)++hJ (m.v 0) (gG (S.M) S.cols S.rows mb 0))++hJ (m.v 1) (gG (cH (S.M) S.cols mb 0 (m.v 0)) S.cols S.rows mb 1))) (v:=m.v 2) (e:=gG (cH (cH (S.M) S.cols mb 0 (m.v 0)) S.cols mb 1 (m.v 1)) S.cols S.rows mb 2) (hm.v 2) (lZ ht2) (hP.right 2 (by decide)) (by simp only[List.length_append];omega) rfl rfl (by decide) nL nA rfl)
   |refine cl ?_ (hi:=by exact jY (M:=cH (cH (S.M) S.cols mb 0 (m.v 0)) S.cols mb 1 (m.v 1)) (k:=2) (v:=m.v 2) hD hmb (by decide) (i:=16) (j:=17) rfl rfl (by decide) nA rfl)
   |refine cl ?_ (hi:=by exact qR (M:=cH (cH (cH (S.M) S.cols mb 0 (m.v 0)) S.cols mb 1 (m.v 1)) S.cols mb 2 (m.v 2)) (k:=3) ht3 hD hmb (by decide) (i:=16) (j:=17) rfl rfl (by decide) rfl)
   |refine cl ?_ (hi:=by exact qS (bs:=((((B++bj S m)++hJ (m.v 0) (gG (S.M) S.cols S.rows mb 0))++hJ (m.v 1) (gG (cH (S.M) S.cols mb 0 (m.v 0)) S.cols S.rows mb 1))++hJ (m.v 2) (gG (cH (cH (S.M) S.cols mb 0 (m.v 0)) S.cols mb 1 (m.v 1)) S.cols S.rows mb 2))) (v:=m.v 3) (e:=gG (cH (cH (cH (S.M) S.cols mb 0 (m.v 0)) S.cols mb 1 (m.v 1)) S.cols mb 2 (m.v 2)) S.cols S.rows mb 3) (hm.v 3) (lZ ht3) (hP.right 3 (by decide)) (by simp only[List.length_append];omega) rfl rfl (by decide) nL nA rfl)
   |refine cl ?_ (hi:=by exact jY (M:=cH (cH (cH (S.M) S.cols mb 0 (m.v 0)) S.cols mb 1 (m.v 1)) S.cols mb 2 (m.v 2)) (k:=3) (v:=m.v 3) hD hmb (by decide) (i:=16) (j:=17) rfl rfl (by decide) nA rfl)
   |refine cl ?_ (hi:=by exact n_ (S:=(aS m mb (aS m mb (aS m mb (aS m mb (S,B++bj S m) 0) 1) 2) 3).1) (bs:=(aS m mb (aS m mb (aS m mb (aS m mb (S,B++bj S m) 0) 1) 2) 3).2) hD hmb rfl rfl rfl rfl nA rfl)
   |refine cl ?_ (hi:=by exact oB (B:=(aS m mb (aS m mb (aS m mb (aS m mb (S,B++bj S m) 0) 1) 2) 3).2) (S:=bX (aS m mb (aS m mb (aS m mb (aS m mb (S,B++bj S m) 0) 1) 2) 3).1 mb m.v) (oC ((aS m mb (aS m mb (aS m mb (aS m mb (S,B++bj S m) 0) 1) 2) 3).2) bw (bX (aS m mb (aS m mb (aS m mb (aS m mb (S,B++bj S m) 0) 1) 2) 3).1 mb m.v) m mb hg hS2 hmb hB2 (by have:=hP.lenw;omega) x hx) rfl rfl rfl rfl rfl rfl nL nA rfl))
  |refine WX.loop ?_|refine WX.round ?_|refine zz ?_|refine zx (fun _=>?_) (fun _=>?_)|fail)
 show aE _ _ _ _ _ _ _ _;refine kV [0,1,2,3,4,5,6,7,8,9,10,11,12,13,14,15,16,17,18,19,20,21,22,23,30,31] ?_;rfl
end Go.Proofs.YthdciapjllppjaaGreat
