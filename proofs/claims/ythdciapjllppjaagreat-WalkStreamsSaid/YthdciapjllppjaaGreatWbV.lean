/-
  A part of the proof: Put2.
-/
import Derived.Test.YthdciapjllppjaaGreatWbU
set_option maxRecDepth 10000
set_option maxHeartbeats 8000000
set_option linter.unusedVariables false
set_option linter.unusedSectionVars false
set_option linter.unusedSimpArgs false
open Go.Proofs.Tryz (prog)
namespace Go.Proofs.YthdciapjllppjaaGreat
open Go.Xm
variable [aq]
theorem RF{S:cH}{B bw:List Bool}{m:Mb}{mb:Int}(hP:ss S B bw m mb)(hk:m.kind=2)(x:rB)(hx:kn m mb ⟨b6 (aT m mb (aT m mb (aT m mb (aT m mb (S,B++bm S m) 0) 1) 2) 3).1 mb m.v,(aT m mb (aT m mb (aT m mb (aT m mb (S,B++bm S m) 0) 1) 2) 3).2,0,0,fun _=>[]⟩ 6=some x) :
 bt prog 63 [.one (.ptr 2 0),.one (.ptr 0 0),.one (.ptr 22 0),.one (.int .i64 mb),.agg (mC m)] [aP 1 B,av B,jB (S),fc 4 8 12,aX 5 6 7 cM,db cM,df cM,dc cM,aX 9 10 11 cZ,db cZ,df cZ,dc cZ,aX 13 14 15 cP,db cP,df cP,dc cP,fD 17 (S).cols (S).rows,.map (cE (S).M),.cells [.int .i64 (S).cols,.int .i64 (S).rows,.map 19,.map 20,.map 21] 220 false false,.map (au (S).A),.map (au (S).B),.map (au (S).C),aP 23 bw,av bw] (.one (.int .i64 0)) [aP 24 (eJ x),.dead,jB (x.S),fc 4 8 12,aX 5 6 7 cM,db cM,df cM,dc cM,aX 9 10 11 cZ,db cZ,df cZ,dc cZ,aX 13 14 15 cP,db cP,df cP,dc cP,fD 17 (x.S).cols (x.S).rows,.map (cE (x.S).M),.cells [.int .i64 (x.S).cols,.int .i64 (x.S).rows,.map 19,.map 20,.map 21] 220 false false,.map (au (x.S).A),.map (au (x.S).B),.map (au (x.S).C),aP 25 (c_ bw x 6),.dead,av (eJ x),av (c_ bw x 6)]:=by
 have hg:=hP.good;have hm:=hg.ok;have hD:=hP.st.dims;have hmb:=hP.mb;have hlen:=hP.len;have hkl:=ka S m;have hK:=n6 B S m hm hg.kind hP.qp (by omega);rw[jw (by omega)]at hK;have ht0:fN (S.M):=hP.st.tiny;have hl0:=mg (m.v 0) (gI (S.M) S.cols S.rows mb 0);have ht1:fN (cL (S.M) S.cols mb 0 (m.v 0)):=ep ht0 (hm.v 0);have hl1:=mg (m.v 1) (gI (cL (S.M) S.cols mb 0 (m.v 0)) S.cols S.rows mb 1);have ht2:fN (cL (cL (S.M) S.cols mb 0 (m.v 0)) S.cols mb 1 (m.v 1)):=ep ht1 (hm.v 1);have hl2:=mg (m.v 2) (gI (cL (cL (S.M) S.cols mb 0 (m.v 0)) S.cols mb 1 (m.v 1)) S.cols S.rows mb 2);have ht3:fN (cL (cL (cL (S.M) S.cols mb 0 (m.v 0)) S.cols mb 1 (m.v 1)) S.cols mb 2 (m.v 2)):=ep ht2 (hm.v 2);have hl3:=mg (m.v 3) (gI (cL (cL (cL (S.M) S.cols mb 0 (m.v 0)) S.cols mb 1 (m.v 1)) S.cols mb 2 (m.v 2)) S.cols S.rows mb 3);have htE:fN (cL (cL (cL (cL (S.M) S.cols mb 0 (m.v 0)) S.cols mb 1 (m.v 1)) S.cols mb 2 (m.v 2)) S.cols mb 3 (m.v 3)):=ep ht3 (hm.v 3)
 have hS2:km (b6 (aT m mb (aT m mb (aT m mb (aT m mb (S,B++bm S m) 0) 1) 2) 3).1 mb m.v):=⟨hD,hP.st.lev,kN htE hm.v⟩
 have hB2:((aT m mb (aT m mb (aT m mb (aT m mb (S,B++bm S m) 0) 1) 2) 3).2).length<=700000:=by
  show((((((B++bm S m)++ia (m.v 0) (gI (S.M) S.cols S.rows mb 0))++ia (m.v 1) (gI (cL (S.M) S.cols mb 0 (m.v 0)) S.cols S.rows mb 1))++ia (m.v 2) (gI (cL (cL (S.M) S.cols mb 0 (m.v 0)) S.cols mb 1 (m.v 1)) S.cols S.rows mb 2))++ia (m.v 3) (gI (cL (cL (cL (S.M) S.cols mb 0 (m.v 0)) S.cols mb 1 (m.v 1)) S.cols mb 2 (m.v 2)) S.cols S.rows mb 3))).length<=700000;simp only[List.length_append,List.length_cons,List.length_nil];omega
 refine cO Tryz.func63 ?_
 repeat' (first
  |(refine qz ?_;first
   |refine jI ?_ (hle:=by rw[bn])
   |refine cl ?_ (hi:=by exact A4 (S:=S) (S':=S) (bs:=B) (bs':=B++bm S m) (fun _ => .flat .nil) (.flat .nil) rfl hK rfl rfl rfl rfl nL nA rfl)
   |refine cl ?_ (hi:=by exact q_ (M:=S.M) (k:=0) ht0 hD hmb (by decide) (i:=16) (j:=17) rfl rfl (by decide) rfl)
   |refine cl ?_ (hi:=by exact rf (bs:=(B++bm S m)) (v:=m.v 0) (e:=gI (S.M) S.cols S.rows mb 0) (hm.v 0) (mf ht0) (hP.right 0 (by decide)) (by simp only[List.length_append];omega) rfl rfl (by decide) nL nA rfl)
   |refine cl ?_ (hi:=by exact j7 (M:=S.M) (k:=0) (v:=m.v 0) hD hmb (by decide) (i:=16) (j:=17) rfl rfl (by decide) nA rfl)
   |refine cl ?_ (hi:=by exact q_ (M:=cL (S.M) S.cols mb 0 (m.v 0)) (k:=1) ht1 hD hmb (by decide) (i:=16) (j:=17) rfl rfl (by decide) rfl)
   |refine cl ?_ (hi:=by exact rf (bs:=((B++bm S m)++ia (m.v 0) (gI (S.M) S.cols S.rows mb 0))) (v:=m.v 1) (e:=gI (cL (S.M) S.cols mb 0 (m.v 0)) S.cols S.rows mb 1) (hm.v 1) (mf ht1) (hP.right 1 (by decide)) (by simp only[List.length_append];omega) rfl rfl (by decide) nL nA rfl)
   |refine cl ?_ (hi:=by exact j7 (M:=cL (S.M) S.cols mb 0 (m.v 0)) (k:=1) (v:=m.v 1) hD hmb (by decide) (i:=16) (j:=17) rfl rfl (by decide) nA rfl)
   |refine cl ?_ (hi:=by exact q_ (M:=cL (cL (S.M) S.cols mb 0 (m.v 0)) S.cols mb 1 (m.v 1)) (k:=2) ht2 hD hmb (by decide) (i:=16) (j:=17) rfl rfl (by decide) rfl)
   |refine cl ?_ (hi:=by exact rf (bs:=(((B++bm S m)++ia (m.v 0) (gI (S.M) S.cols S.rows mb 0))++ia (m.v 1) (gI (cL (S.M) S.cols mb 0 (m.v 0)) S.cols S.rows mb 1))) (v:=m.v 2) (e:=gI (cL (cL (S.M) S.cols mb 0 (m.v 0)) S.cols mb 1 (m.v 1)) S.cols S.rows mb 2) (hm.v 2) (mf ht2) (hP.right 2 (by decide)) (by simp only[List.length_append];omega) rfl rfl (by decide) nL nA rfl)
   |refine cl ?_ (hi:=by exact j7 (M:=cL (cL (S.M) S.cols mb 0 (m.v 0)) S.cols mb 1 (m.v 1)) (k:=2) (v:=m.v 2) hD hmb (by decide) (i:=16) (j:=17) rfl rfl (by decide) nA rfl)
   |refine cl ?_ (hi:=by exact q_ (M:=cL (cL (cL (S.M) S.cols mb 0 (m.v 0)) S.cols mb 1 (m.v 1)) S.cols mb 2 (m.v 2)) (k:=3) ht3 hD hmb (by decide) (i:=16) (j:=17) rfl rfl (by decide) rfl)
   |refine cl ?_ (hi:=by exact rf (bs:=((((B++bm S m)++ia (m.v 0) (gI (S.M) S.cols S.rows mb 0))++ia (m.v 1) (gI (cL (S.M) S.cols mb 0 (m.v 0)) S.cols S.rows mb 1))++ia (m.v 2) (gI (cL (cL (S.M) S.cols mb 0 (m.v 0)) S.cols mb 1 (m.v 1)) S.cols S.rows mb 2))) (v:=m.v 3) (e:=gI (cL (cL (cL (S.M) S.cols mb 0 (m.v 0)) S.cols mb 1 (m.v 1)) S.cols mb 2 (m.v 2)) S.cols S.rows mb 3) (hm.v 3) (mf ht3) (hP.right 3 (by decide)) (by simp only[List.length_append];omega) rfl rfl (by decide) nL nA rfl)
   |refine cl ?_ (hi:=by exact j7 (M:=cL (cL (cL (S.M) S.cols mb 0 (m.v 0)) S.cols mb 1 (m.v 1)) S.cols mb 2 (m.v 2)) (k:=3) (v:=m.v 3) hD hmb (by decide) (i:=16) (j:=17) rfl rfl (by decide) nA rfl)
   |refine cl ?_ (hi:=by exact ov (S:=(aT m mb (aT m mb (aT m mb (aT m mb (S,B++bm S m) 0) 1) 2) 3).1) (bs:=(aT m mb (aT m mb (aT m mb (aT m mb (S,B++bm S m) 0) 1) 2) 3).2) hD hmb rfl rfl rfl rfl nA rfl)
   |refine cl ?_ (hi:=by exact oN (B:=(aT m mb (aT m mb (aT m mb (aT m mb (S,B++bm S m) 0) 1) 2) 3).2) (S:=b6 (aT m mb (aT m mb (aT m mb (aT m mb (S,B++bm S m) 0) 1) 2) 3).1 mb m.v) (oO ((aT m mb (aT m mb (aT m mb (aT m mb (S,B++bm S m) 0) 1) 2) 3).2) bw (b6 (aT m mb (aT m mb (aT m mb (aT m mb (S,B++bm S m) 0) 1) 2) 3).1 mb m.v) m mb hg hS2 hmb hB2 (by have:=hP.lenw;omega) x hx) rfl rfl rfl rfl rfl rfl nL nA rfl))
  |refine WX.loop ?_|refine WX.round ?_|refine zz ?_|refine zx (fun _=>?_) (fun _=>?_)|fail)
 show aE _ _ _ _ _ _ _ _;refine kV [0,1,2,3,4,5,6,7,8,9,10,11,12,13,14,15,16,17,18,19,20,21,22,23,30,31] ?_;rfl
end Go.Proofs.YthdciapjllppjaaGreat
