/-
  A part of the proof: TakeF, Take1, Take2, Heads, Begin, InPlace.
-/
import Derived.Test.YtagpkhindehcbaaGreatKcN
import Derived.Test.YtagpkhindehcbaaGreatKcQ
import Derived.Test.YtagpkhindehcbaaGreatKcR
import Derived.Test.YtagpkhindehcbaaGreatKcT
set_option maxRecDepth 10000
set_option maxHeartbeats 8000000
set_option linter.unusedVariables false
set_option linter.unusedSectionVars false
set_option linter.unusedSimpArgs false
namespace Go.Proofs.YtagpkhindehcbaaGreat
open Go.Xm
variable [az]
def jP (S:bz) (B:List Bool) (r:Nat × Bool):Int × (Nat × Bool):=if S.inter=true then kZ cM B r else(if dH B r=true then 4 else 3,bY B r)
def pd (n:Int):Int:=([-2,-1,1,2]:List Int).getD n.toNat 0
def CF (S:bz) (B:List Bool) (k:Int × (Nat × Bool)):Int × (Nat × Bool):=
 if k.1=4 then(if S.qp+pd (bZ B 2 k.2).1<1∨31<S.qp+pd (bZ B 2 k.2).1 then(1,((bZ B 2 k.2).2.1,true))else(S.qp+pd (bZ B 2 k.2).1,(bZ B 2 k.2).2))else(S.qp,k.2)
def iu (S:bz) (B:List Bool) (r:Nat × Bool):i_:=
 ⟨{kQ with kind:=(jP S B r).1,qp:=(CF S B (jP S B r)).1},{S with qp:=(CF S B (jP S B r)).1},(CF S B (jP S B r)).2⟩
def CJ (B:List Bool) (mb:Int) (x:i_) (k:Nat):i_:=
 ⟨{x.m with v:=l7 x.m.v k (pg B (cg x.S.M x.S.cols x.S.rows mb k) x.r).1},{x.S with M:=ba x.S.M x.S.cols mb k (pg B (cg x.S.M x.S.cols x.S.rows mb k) x.r).1},(pg B (cg x.S.M x.S.cols x.S.rows mb k) x.r).2⟩
def fb (B:List Bool) (mb:Int) (x:i_):i_:=
 if x.m.kind=1 then⟨{x.m with v:=fun _=>(pg B (cg x.S.M x.S.cols x.S.rows mb 0) x.r).1},x.S,(pg B (cg x.S.M x.S.cols x.S.rows mb 0) x.r).2⟩
 else if x.m.kind=2 then CJ B mb (CJ B mb (CJ B mb (CJ B mb x 0) 1) 2) 3
 else⟨{x.m with edge:=dH B x.r},x.S,bY B x.r⟩
def d9 (mb:Int) (x:i_):i_:=⟨x.m,bc x.S mb x.m.v,x.r⟩
def gY (B:List Bool) (mb:Int) (x:i_):i_:=if alone x.m=true then iJ B mb x 6 else x
def kP (p c:Int) (k:Nat):Bool:=if k<4 then decide (uO .i64 p (8/2^k)≠0)else decide (uO .u64 c (2/2^(k-4))≠0)
def zr (B:List Bool) (x:i_):i_ × (Nat→Bool):=(⟨x.m,x.S,(bZ B 2 (kZ cP B x.r).2).2⟩,kP (kZ cP B x.r).1 (bZ B 2 (kZ cP B x.r).2).1)
def Mj (B:List Bool) (mb:Int) (x:i_):i_ × (Nat→Bool):=if x.m.kind=0 then(d9 mb x,o3)else zr B (gY B mb (d9 mb (fb B mb x)))
def dC (S:bz) (B:List Bool) (mb:Int) (r:Nat × Bool):i_ × (Nat→Bool):=Mj B mb (iu S B r)
abbrev t6 (S:bz) (q:Int):bz:={S with qp:=q}
theorem CB {x:Int}(h:0≤x∧x<4):([.int .i64 (-2),.int .i64 (-1),.int .i64 1,.int .i64 2]:List XC)[(x%2^2).toNat]? = some (.int .i64 (pd x)):=by
 have:x=0∨x=1∨x=2∨x=3:=by omega
 rcases this with rfl|rfl|rfl|rfl <;> rfl
theorem CC (x:Int) : -2≤pd x∧pd x≤2:=jF (p:=fun x => -2≤x∧x≤2) (by decide) (by decide) x.toNat
theorem Be (S:bz) (B:List Bool) (r:Nat × Bool):0≤(jP S B r).1∧(jP S B r).1≤4:=by
 unfold jP
 split
 · exact nJ (K:=4) (by decide) K7 B (cM.T.length/2) 0 r
 · show 0≤(if dH B r=true then(4:Int)else 3)∧_≤(4:Int)
   split <;> omega
theorem CG (S:bz) (B:List Bool) (k:Int × (Nat × Bool)) (hq : -1000000≤S.qp∧S.qp≤1000000) : -1000000≤(CF S B k).1∧(CF S B k).1≤1000000:=by
 unfold CF
 split
 · split
   · show(-1000000:Int)≤1∧(1:Int)≤1000000;decide
   · simp only [];omega
 · exact hq
structure K1 (x z:i_):Prop where
 cols:z.S.cols=x.S.cols
 rows:z.S.rows=x.S.rows
 qp:z.m.qp=x.m.qp
 kind:z.m.kind=x.m.kind
theorem En (B:List Bool) (mb:Int) (x:i_):K1 x (fb B mb x):=by
 unfold fb
 split
 · exact⟨rfl,rfl,rfl,rfl⟩
 · split
   · exact⟨rfl,rfl,rfl,rfl⟩
   · exact⟨rfl,rfl,rfl,rfl⟩
theorem oe {L:List Int} {B:List Bool}(h:dG L B) {r:Nat × Bool} {e:Int × Int} {t:(Int × Int) × (Nat × Bool)}(ht:pg B e r=t) (he:bu e) {HS:ak} {i k:Nat}(hi:HS[i]? = some (bI k L B r.1 r.2)) (hk:HS[k]? = some (aR L)) (hd:i≠k) {HS':ak}(hh:HS.set i (bI k L B t.2.1 t.2.2)=HS') (hbd:Nat.blt HS'.length Mem.bound=true) :
 aI.Sound Tryz.prog ⟨67,[.one (.ptr i 0),.one (cn e)],HS,.one (cn t.1),HS',[i]⟩:=by
 subst ht
 exact H7 h r he hi hk hd hh hbd
theorem qo (m:Mb) (h:Nat→Bool) {k:Nat}(hk:k<4) (x:Int × Int):(eO {m with v:=l7 m.v k x} h)[2+k]? = some (cn x):=by
 rw [GB _ _ hk]
 exact congrArg (fun z=>some (cn z)) (if_pos rfl)
theorem Ke {B:List Bool} {mb:Int} {X:i_}(hk:X.m.kind=1) {t:(Int × Int) × (Nat × Bool)}(ht:pg B (cg X.S.M X.S.cols X.S.rows mb 0) X.r=t):fb B mb X=⟨{X.m with v:=fun _=>t.1},X.S,t.2⟩:=by
 subst ht
 exact if_pos hk
abbrev Ow (S:bz) (M:fX):bz:={S with M:=M}
abbrev V1 (X:i_) (mb:Int) (t0:(Int × Int) × (Nat × Bool)):fX:=ba X.S.M X.S.cols mb 0 t0.1
abbrev V2 (X:i_) (mb:Int) (t0 t1:(Int × Int) × (Nat × Bool)):fX:=ba (V1 X mb t0) X.S.cols mb 1 t1.1
abbrev V3 (X:i_) (mb:Int) (t0 t1 t2:(Int × Int) × (Nat × Bool)):fX:=ba (V2 X mb t0 t1) X.S.cols mb 2 t2.1
abbrev V4 (X:i_) (mb:Int) (t0 t1 t2 t3:(Int × Int) × (Nat × Bool)):fX:=ba (V3 X mb t0 t1 t2) X.S.cols mb 3 t3.1
abbrev X1 (X:i_) (t0:(Int × Int) × (Nat × Bool)):Mb:={X.m with v:=l7 X.m.v 0 t0.1}
abbrev X2 (X:i_) (t0 t1:(Int × Int) × (Nat × Bool)):Mb:={X.m with v:=l7 (l7 X.m.v 0 t0.1) 1 t1.1}
abbrev X3 (X:i_) (t0 t1 t2:(Int × Int) × (Nat × Bool)):Mb:={X.m with v:=l7 (l7 (l7 X.m.v 0 t0.1) 1 t1.1) 2 t2.1}
abbrev X4 (X:i_) (t0 t1 t2 t3:(Int × Int) × (Nat × Bool)):Mb:={X.m with v:=l7 (l7 (l7 (l7 X.m.v 0 t0.1) 1 t1.1) 2 t2.1) 3 t3.1}
theorem Kf {B:List Bool} {mb:Int} {X:i_}(hk:X.m.kind=2) {t0 t1 t2 t3:(Int × Int) × (Nat × Bool)}(h0:pg B (cg X.S.M X.S.cols X.S.rows mb 0) X.r=t0) (h1:pg B (cg (V1 X mb t0) X.S.cols X.S.rows mb 1) t0.2=t1) (h2:pg B (cg (V2 X mb t0 t1) X.S.cols X.S.rows mb 2) t1.2=t2) (h3:pg B (cg (V3 X mb t0 t1 t2) X.S.cols X.S.rows mb 3) t2.2=t3) :
 fb B mb X=⟨X4 X t0 t1 t2 t3,Ow X.S (V4 X mb t0 t1 t2 t3),t3.2⟩:=by
 subst h3 h2 h1 h0
 unfold fb
 rw [if_neg (by rw [hk];decide),if_pos hk]
 rfl
theorem CE {B:List Bool} {mb:Int} {X:i_}(h1:X.m.kind≠1) (h2:X.m.kind≠2):fb B mb X=⟨{X.m with edge:=dH B X.r},X.S,bY B X.r⟩:=by
 unfold fb
 rw [if_neg h1,if_neg h2]
end Go.Proofs.YtagpkhindehcbaaGreat
namespace Go.Xm
variable [az]
variable {P:Program} {ops:Array Oper} {nt nI:Nat} {al:bn} {hs:ak} {o:Oper} {l:List Oper} {L:List aI} {K:List Ab→bn→ak→Prop} {d:Nat}
theorem cN {t t':TypeId} {a b:Operand} {k:IntKind} {x y:Int}(hk:∀ z,decide (x≠y)=z→SK P ops nt L l ((d,.one (.bool z))::al) hs fun bs=>K (quiet::bs)) (ho:o.op = .binOp .neq t a b t':=by exact rfl) (hw:aw ops (rg al) o=some true:=by exact rfl) (hd:o.dst=some d:=by exact rfl) (hlt:Nat.blt d nt=true:=by exact rfl) (ha:ai (rg al) a = .one (.int k x):=by exact rfl) (hb:ai (rg al) b = .one (.int k y):=by exact rfl):SK P ops nt L (o::l) al hs K:=
 xh ho hw hd hlt ha hb (show Ap .neq x y=some (x≠y)from rfl) (fun h=>hk true (decide_eq_true h)) (fun h=>hk false (decide_eq_false h))
theorem WX.wZ (id:Nat) {σ : Type} {ops:Array Oper} {dr:Bool} {x b:Code} {K:cR}(R : σ→bn) (H : σ→ak) (I : σ→Prop) (hok:∀ s,I s→xZ nI (R s) (H s)) (h1:True→WX P nt nI (.code (.seq (.region id ops dr) x)) al hs fun e al1 hs1=>e = .normal∧∃ s τl,I s∧GoTo nI al1 hs1 (R s) (H s) τl)
 (h2:∀ s,I s→WX P nt nI (.code b) (R s) (H s) K):WX P nt nI (.code (.seq (.seq (.region id ops dr) x) b)) al hs K:=WX.meet R H I hok (h1 trivial) h2
end Go.Xm
namespace Go.Proofs.YtagpkhindehcbaaGreat
open Go.Xm
variable [az]
theorem Jx (m:Mb) (h:Nat→Bool) {b0 b1 b2 b3 b4 b5:Bool}(e0:h 0=b0) (e1:h 1=b1) (e2:h 2=b2) (e3:h 3=b3) (e4:h 4=b4) (e5:h 5=b5):((((((eO m o3).set 391 (.bool b0)).set 392 (.bool b1)).set 393 (.bool b2)).set 394 (.bool b3)).set 395 (.bool b4)).set 396 (.bool b5)=eO m h:=by
 subst e0 e1 e2 e3 e4 e5
 rw [←GA m h,oD m h (j:=0) (by decide),oD m h (j:=1) (by decide),oD m h (j:=2) (by decide),oD m h (j:=3) (by decide),oD m h (j:=4) (by decide),oD m h (j:=5) (by decide),Jv]
theorem Jn:∀ a:Fin 16,decide (uO .i64 (a.val:Int) (8/2^3)≠0)=decide ((a.val:Int)%2^1≠0):=by decide +kernel
theorem Jm:∀ a:Fin 4,decide (uO .u64 (a.val:Int) (2/2^1)≠0)=decide ((a.val:Int)%2^1≠0):=by decide +kernel
theorem Oh {p c:Int}(h:0≤p∧p≤15):kP p c 3=decide (p%2^1≠0):=by
 have:=Jn ⟨p.toNat,by omega⟩
 simp only [Int.toNat_of_nonneg h.1]at this
 exact this
theorem Oi {p c:Int}(h:0≤c∧c<2^2):kP p c 5=decide (c%2^1≠0):=by
 have:=Jm ⟨c.toNat,by omega⟩
 simp only [Int.toNat_of_nonneg h.1]at this
 exact this
theorem Fx {C:Cd}(hC:uG C) {L:List Int} {B:List Bool}(h:dG L B) {r:Nat × Bool} {q:Int × (Nat × Bool)}(hq:kZ C B r=q) {HS:ak} {i k c a b t:Nat}(hi:HS[i]? = some (bI k L B r.1 r.2)) (hk:HS[k]? = some (aR L)) (hc:HS[c]? = some (ay a b t C)) (ha:HS[a]? = some (aX C)) (hb:HS[b]? = some (aZ C)) (ht:HS[t]? = some (aY C)) (hd : [i,k,c,a,b,t].Nodup) {HS':ak}(hh:HS.set i (bI k L B q.2.1 q.2.2)=HS') (hbd:Nat.blt HS'.length Mem.bound=true) :
 aI.Sound Tryz.prog ⟨63,[.one (.ptr c 0),.one (.ptr i 0)],HS,.one (.int .i64 q.1),HS',[i]⟩:=by
 subst hq
 exact s6 hC h r hi hk hc ha hb ht hd hh hbd
theorem GY {L:List Int} {B:List Bool}(h:dG L B) {r:Nat × Bool} {n:Nat} {q:Int × (Nat × Bool)}(hq:bZ B n r=q) {z:Int}(hz:z=(n:Nat)) (hn:n≤32) {HS:ak} {i k:Nat}(hi:HS[i]? = some (bI k L B r.1 r.2)) (hk:HS[k]? = some (aR L)) (hd:i≠k) {HS':ak}(hh:HS.set i (bI k L B q.2.1 q.2.2)=HS') (hbd:Nat.blt HS'.length Mem.bound=true) :
 aI.Sound Tryz.prog ⟨65,[.one (.ptr i 0),.one (.int .i64 z)],HS,.one (.int .u64 q.1),HS',[i]⟩:=by
 subst hq
 exact qv h r hz hn hi hk hd hh hbd
theorem zo {L : List Int} {B:List Bool}(hB:dG L B) (S:bz) (r:Nat × Bool) (mb:Int) (hD:gw S.cols S.rows) (hT:cj S.M) (hmb:0≤mb∧mb<S.cols*S.rows) (hq : -1000000≤S.qp∧S.qp≤1000000) :
 bt Tryz.prog 34 [.one (.ptr 2 0),.one (.ptr 0 0),.one (.int .i64 mb)] [bI 1 L B r.1 r.2,aR L,dw (S),bR 4 8 12,ay 5 6 7 cM,aX cM,aZ cM,aY cM,ay 9 10 11 cZ,aX cZ,aZ cZ,aY cZ,ay 13 14 15 cP,aX cP,aZ cP,aY cP,ch 17 (S).cols (S).rows,.map (bg (S).M),.cells [.int .i64 (S).cols,.int .i64 (S).rows,.map 19,.map 20,.map 21] 171 false false,.map (ah (S).A),.map (ah (S).B),.map (ah (S).C)] (.agg (eO (dC S B mb r).1.m (dC S B mb r).2)) [bI 1 L B (dC S B mb r).1.r.1 (dC S B mb r).1.r.2,aR L,dw ((dC S B mb r).1.S),bR 4 8 12,ay 5 6 7 cM,aX cM,aZ cM,aY cM,ay 9 10 11 cZ,aX cZ,aZ cZ,aY cZ,ay 13 14 15 cP,aX cP,aZ cP,aY cP,ch 17 ((dC S B mb r).1.S).cols ((dC S B mb r).1.S).rows,.map (bg ((dC S B mb r).1.S).M),.cells [.int .i64 ((dC S B mb r).1.S).cols,.int .i64 ((dC S B mb r).1.S).rows,.map 19,.map 20,.map 21] 171 false false,.map (ah ((dC S B mb r).1.S).A),.map (ah ((dC S B mb r).1.S).B),.map (ah ((dC S B mb r).1.S).C)]:=by
 obtain⟨y,hy⟩:∃ y,dC S B mb r=y:=⟨_,rfl⟩
 rw [hy]
 have hkr:=Be S B r
 obtain⟨b,hin⟩:∃ b,S.inter=b:=⟨_,rfl⟩
 have hl2:=qy hin
 refine cO Tryz.func34 ?_
 repeat' (first
  |(refine qz ?_;first
   |refine ld (hc:=hl2) ?_
   |refine p7 (zs:=eO kQ o3) (hz:=uF) ?_
   |refine b0 (zs:=eO kQ o3) (hz:=uF) ?_
   |refine i9 (cs:=eO kQ o3) ?_ (hs1:=by rw [b7]) (hs2:=by rw [b7]))
  |refine WX.Gt 2 (σ:=Int × (Nat × Bool)) (fun s=>[(0,.one (.ptr 2 0)),(1,.one (.ptr 0 0)),(2,.one (.int .i64 mb)),(6,.one (.ptr 22 0)),(7,.one (.ptr 23 0))]) (fun s=>[bI 1 L B s.2.1 s.2.2,aR L,dw (S),bR 4 8 12,ay 5 6 7 cM,aX cM,aZ cM,aY cM,ay 9 10 11 cZ,aX cZ,aZ cZ,aY cZ,ay 13 14 15 cP,aX cP,aZ cP,aY cP,ch 17 (S).cols (S).rows,.map (bg (S).M),.cells [.int .i64 (S).cols,.int .i64 (S).rows,.map 19,.map 20,.map 21] 171 false false,.map (ah (S).A),.map (ah (S).B),.map (ah (S).C),.cells (eO kQ o3) 56 false false,.cells (eO {kQ with kind:=s.1} o3) 56 false false]) (fun s=>jP S B r=s) (fun s _=>kS) ?_ ?_|refine zz ?_|refine zx (fun _=>?_) (fun _=>?_)|fail)
 · cases b
   · have e0:jP S B r=(if dH B r=true then 4 else 3,bY B r):=if_neg (by rw [hin];decide)
     repeat' (first
      |(refine qz ?_;first
       |refine sZ (fun gb=>?_) (fun gb=>?_) (hi:=by exact qw hB r rfl rfl (by decide) nL rfl)
       |refine st ?_ (hle:=by rw [b7];omega) (hv:=yS _ _ _))
      |refine zz ?_|refine zx (fun _=>?_) (fun _=>?_)|fail)
     · rename_i gb
       rw [if_pos gb]at e0
       first|exact⟨(4,bY B r),_,e0,(bm [0,1,2,3,4,5,6,7,8,9,10,11,12,13,14,15,16,17,18,19,20,21,22,23])⟩|exact⟨rfl,(4,bY B r),_,e0,(bm [0,1,2,3,4,5,6,7,8,9,10,11,12,13,14,15,16,17,18,19,20,21,22,23])⟩
     · rename_i gb
       rw [if_neg (by rw [gb];decide)]at e0
       first|exact⟨(3,bY B r),_,e0,(bm [0,1,2,3,4,5,6,7,8,9,10,11,12,13,14,15,16,17,18,19,20,21,22,23])⟩|exact⟨rfl,(3,bY B r),_,e0,(bm [0,1,2,3,4,5,6,7,8,9,10,11,12,13,14,15,16,17,18,19,20,21,22,23])⟩
   · have e0:jP S B r=kZ cM B r:=if_pos hin
     rw [e0]at hkr
     repeat' (first
      |(refine qz ?_;first
       |refine cl ?_ (hi:=by exact s6 ye hB r (i:=0) (k:=1) (c:=4) (a:=5) (b:=6) (t:=7) rfl rfl rfl rfl rfl rfl (by decide) nL rfl)
       |refine st ?_ (hle:=by rw [b7];omega) (hv:=yS _ _ _))
      |refine zz ?_|refine zx (fun _=>?_) (fun _=>?_)|fail)
     first|exact⟨kZ cM B r,_,e0,(bm [0,1,2,3,4,5,6,7,8,9,10,11,12,13,14,15,16,17,18,19,20,21,22,23])⟩|exact⟨rfl,kZ cM B r,_,e0,(bm [0,1,2,3,4,5,6,7,8,9,10,11,12,13,14,15,16,17,18,19,20,21,22,23])⟩
 · intro s hs
   rw [hs]at hkr
   have hn:=mz B 2 s.2
   have hst:=CC (bZ B 2 s.2).1
   refine WX.Gt 7 (σ:=Int × (Nat × Bool)) (fun x=>[(0,.one (.ptr 2 0)),(1,.one (.ptr 0 0)),(2,.one (.int .i64 mb)),(6,.one (.ptr 22 0)),(7,.one (.ptr 23 0))]) (fun x=>[bI 1 L B x.2.1 x.2.2,aR L,dw (t6 S x.1),bR 4 8 12,ay 5 6 7 cM,aX cM,aZ cM,aY cM,ay 9 10 11 cZ,aX cZ,aZ cZ,aY cZ,ay 13 14 15 cP,aX cP,aZ cP,aY cP,ch 17 (t6 S x.1).cols (t6 S x.1).rows,.map (bg (t6 S x.1).M),.cells [.int .i64 (t6 S x.1).cols,.int .i64 (t6 S x.1).rows,.map 19,.map 20,.map 21] 171 false false,.map (ah (t6 S x.1).A),.map (ah (t6 S x.1).B),.map (ah (t6 S x.1).C),.cells (eO kQ o3) 56 false false,.cells (eO {kQ with kind:=s.1} o3) 56 false false]) (fun x=>CF S B s=x) (fun x _=>kS) ?_ ?_
   · by_cases h4:s.1=4
     · by_cases hb:S.qp+pd (bZ B 2 s.2).1<1∨31<S.qp+pd (bZ B 2 s.2).1
       · have e0:CF S B s=(1,((bZ B 2 s.2).2.1,true)):=by unfold CF;rw [if_pos h4,if_pos hb]
         repeat' (first
          |(refine qz ?_;first
           |refine ld (c := .int .u8 s.1) ?_ (hc:=ep _ _)
           |refine cl ?_ (hi:=by exact n7 rfl)
           |refine cl ?_ (hi:=by exact qv hB s.2 (n:=2) rfl (by decide) rfl rfl (by decide) nL rfl)
           |refine an 2 ?_
           |refine pH ?_ (hc:=CB hn)
           |refine cl ?_ (hi:=by exact l0 (p:=(bZ B 2 s.2).2.1) (e:=(bZ B 2 s.2).2.2) rfl rfl (by decide) nL rfl))
          |refine zz ?_|refine zx (fun _=>?_) (fun _=>?_)|fail)
         all_goals first|exact⟨(1,((bZ B 2 s.2).2.1,true)),_,e0,(bm [0,1,2,3,4,5,6,7,8,9,10,11,12,13,14,15,16,17,18,19,20,21,22,23])⟩|exact⟨rfl,(1,((bZ B 2 s.2).2.1,true)),_,e0,(bm [0,1,2,3,4,5,6,7,8,9,10,11,12,13,14,15,16,17,18,19,20,21,22,23])⟩
       · have e0:CF S B s=(S.qp+pd (bZ B 2 s.2).1,(bZ B 2 s.2).2):=by unfold CF;rw [if_pos h4,if_neg hb]
         repeat' (first
          |(refine qz ?_;first
           |refine ld (c := .int .u8 s.1) ?_ (hc:=ep _ _)
           |refine cl ?_ (hi:=by exact n7 rfl)
           |refine cl ?_ (hi:=by exact qv hB s.2 (n:=2) rfl (by decide) rfl rfl (by decide) nL rfl)
           |refine an 2 ?_
           |refine pH ?_ (hc:=CB hn))
          |refine zz ?_|refine zx (fun _=>?_) (fun _=>?_)|fail)
         all_goals first|exact⟨(S.qp+pd (bZ B 2 s.2).1,(bZ B 2 s.2).2),_,e0,(bm [0,1,2,3,4,5,6,7,8,9,10,11,12,13,14,15,16,17,18,19,20,21,22,23])⟩|exact⟨rfl,(S.qp+pd (bZ B 2 s.2).1,(bZ B 2 s.2).2),_,e0,(bm [0,1,2,3,4,5,6,7,8,9,10,11,12,13,14,15,16,17,18,19,20,21,22,23])⟩
     · have e0:CF S B s=(S.qp,s.2):=if_neg h4
       repeat' (first
        |(refine qz ?_;first
         |refine ld (c := .int .u8 s.1) ?_ (hc:=ep _ _))
        |refine zz ?_|refine zx (fun _=>?_) (fun _=>?_)|fail)
       all_goals first|exact⟨(S.qp,s.2),_,e0,(bm [0,1,2,3,4,5,6,7,8,9,10,11,12,13,14,15,16,17,18,19,20,21,22,23])⟩|exact⟨rfl,(S.qp,s.2),_,e0,(bm [0,1,2,3,4,5,6,7,8,9,10,11,12,13,14,15,16,17,18,19,20,21,22,23])⟩
   · intro x hx
     obtain⟨X,hX⟩:∃ X:i_,X=⟨{kQ with kind:=s.1,qp:=x.1},t6 S x.1,x.2⟩:=⟨_,rfl⟩
     have hH:iu S B r=X:=by rw [hX];unfold iu;rw [hs,hx]
     have hF:Mj B mb X=y:=by rw [←hH];exact hy
     have hDX:gw X.S.cols X.S.rows:=by rw [hX];exact hD
     have hmX:0≤mb∧mb<X.S.cols*X.S.rows:=by rw [hX];exact hmb
     have hTX:cj X.S.M:=by rw [hX];exact hT
     have hkX:X.m.kind=s.1:=by rw [hX]
     have hvq:(eO {kQ with kind:=s.1} o3).set 1 (.int .i64 x.1)=eO X.m o3:=by rw [hX];exact LD _ _ _
     have hS0:t6 S x.1=X.S:=by rw [hX]
     have hr0:x.2=X.r:=by rw [hX]
     rw [hS0,hr0]
     have hl3:(Ha X.S)[5]? = some (.int .i64 x.1):=by rw [hX];rfl
     have hqX : -1000000≤X.m.qp∧X.m.qp≤1000000:=by rw [hX];show -1000000≤x.1∧x.1≤1000000;rw [←hx];exact CG S B s hq
     clear hX
     by_cases h0:s.1=0
     · have e1:Mj B mb X=(d9 mb X,o3):=if_pos (hkX.trans h0)
       rw [←hF,e1]
       repeat' (first
        |(refine qz ?_;first
         |refine ld ?_ (hc:=hl3)
         |refine st ?_ (hle:=by rw [b7];omega) (hv:=hvq)
         |refine ld (c := .int .u8 s.1) ?_ (hc:=by rw [←hkX];exact ep _ _)
         |refine rS (cs:=mC X.m) ?_ (hle:=by rw [b7];omega) (hc:=sB _ _)
         |refine cl ?_ (hi:=by exact zd (S:=X.S) (mb:=mb) (m:=X.m) hDX hmX rfl rfl rfl nA rfl)
         |refine fy ?_ (hle:=by rw [b7])
         |refine i9 (cs:=eO X.m o3) ?_ (hs1:=by rw [b7]) (hs2:=by rw [b7]))
        |refine zz ?_|refine zx (fun _=>?_) (fun _=>?_)|fail)
       show aH _ _ _ _ _ _ _ _;refine kV [0,1,2,3,4,5,6,7,8,9,10,11,12,13,14,15,16,17,18,19,20,21] ?_
       rfl
     · have e1 : Mj B mb X=zr B (gY B mb (d9 mb (fb B mb X))):=if_neg (by rw [hkX];exact h0)
       repeat' (first
        |(refine qz ?_;first
         |refine ld ?_ (hc:=hl3)
         |refine st ?_ (hle:=by rw [b7];omega) (hv:=hvq)
         |refine ld (c := .int .u8 s.1) ?_ (hc:=by rw [←hkX];exact ep _ _))
        |refine WX.wZ 13 (σ:=i_) (fun z=>[(0,.one (.ptr 2 0)),(1,.one (.ptr 0 0)),(2,.one (.int .i64 mb)),(6,.one (.ptr 22 0)),(7,.one (.ptr 23 0))]) (fun z=>[bI 1 L B z.r.1 z.r.2,aR L,dw (z.S),bR 4 8 12,ay 5 6 7 cM,aX cM,aZ cM,aY cM,ay 9 10 11 cZ,aX cZ,aZ cZ,aY cZ,ay 13 14 15 cP,aX cP,aZ cP,aY cP,ch 17 (z.S).cols (z.S).rows,.map (bg (z.S).M),.cells [.int .i64 (z.S).cols,.int .i64 (z.S).rows,.map 19,.map 20,.map 21] 171 false false,.map (ah (z.S).A),.map (ah (z.S).B),.map (ah (z.S).C),.cells (eO kQ o3) 56 false false,.cells (eO z.m o3) 56 false false]) (fun z=>fb B mb X=z) (fun z _=>kS) ?_ ?_|refine zz ?_|refine zx (fun _=>?_) (fun _=>?_)|fail)
       · intro _
         by_cases h1:s.1=1
         · obtain⟨t,ht⟩:∃ t,pg B (cg X.S.M X.S.cols X.S.rows mb 0) X.r=t:=⟨_,rfl⟩
           have e2:=Ke (hkX.trans h1) ht
           repeat' (first
            |(refine qz ?_;first
             |refine ld (c := .int .u8 s.1) ?_ (hc:=by rw [←hkX];exact ep _ _)
             |refine cl ?_ (hi:=by exact fu (M:=X.S.M) (k:=0) hTX hDX hmX (by decide) (i:=16) (j:=17) rfl rfl (by decide) rfl)
             |refine cl ?_ (hi:=by exact oe hB (r:=X.r) ht (cY hTX) rfl rfl (by decide) nL rfl)
             |refine MK (off:=2) (s:=4) ?_ (hs2:=by rw [b7];omega) (hv:=LF X.m o3 t.1))
            |refine zz ?_|refine zx (fun _=>?_) (fun _=>?_)|fail)
           first|exact⟨_,_,e2,(bm [0,1,2,3,4,5,6,7,8,9,10,11,12,13,14,15,16,17,18,19,20,21,22,23])⟩|exact⟨rfl,_,_,e2,(bm [0,1,2,3,4,5,6,7,8,9,10,11,12,13,14,15,16,17,18,19,20,21,22,23])⟩
         · by_cases h2:s.1=2
           · obtain⟨uu0,e0⟩:∃ t,pg B (cg X.S.M X.S.cols X.S.rows mb 0) X.r=t:=⟨_,rfl⟩
             obtain⟨uu1,e1⟩:∃ t,pg B (cg (V1 X mb uu0) X.S.cols X.S.rows mb 1) uu0.2=t:=⟨_,rfl⟩
             obtain⟨uu2,e2⟩:∃ t,pg B (cg (V2 X mb uu0 uu1) X.S.cols X.S.rows mb 2) uu1.2=t:=⟨_,rfl⟩
             obtain⟨uu3,e3⟩:∃ t,pg B (cg (V3 X mb uu0 uu1 uu2) X.S.cols X.S.rows mb 3) uu2.2=t:=⟨_,rfl⟩
             have ez:=Kf (hkX.trans h2) e0 e1 e2 e3
             have T0:=hTX
             have T1:cj (V1 X mb uu0):=bJ T0 (e0 ▸ l_ _ _ _)
             have T2:cj (V2 X mb uu0 uu1):=bJ T1 (e1 ▸ l_ _ _ _)
             have T3:cj (V3 X mb uu0 uu1 uu2):=bJ T2 (e2 ▸ l_ _ _ _)
             repeat' (first
              |(refine qz ?_;first
               |refine ld (c := .int .u8 s.1) ?_ (hc:=by rw [←hkX];exact ep _ _)
               |refine cl ?_ (hi:=by exact fu (M:=X.S.M) (k:=0) T0 hDX hmX (by decide) (i:=16) (j:=17) rfl rfl (by decide) rfl)
               |refine cl ?_ (hi:=by exact oe hB (r:=X.r) e0 (cY T0) rfl rfl (by decide) nL rfl)
               |refine st ?_ (hle:=by rw [b7];omega) (hv:=Cj X.m o3 (k:=0) (by decide) uu0.1)
               |refine ld ?_ (hc:=qo X.m o3 (k:=0) (by decide) uu0.1)
               |refine cl ?_ (hi:=by exact dk (M:=X.S.M) (k:=0) (v:=uu0.1) hDX hmX (by decide) (i:=16) (j:=17) rfl rfl (by decide) nA rfl)
               |refine cl ?_ (hi:=by exact fu (M:=V1 X mb uu0) (k:=1) T1 hDX hmX (by decide) (i:=16) (j:=17) rfl rfl (by decide) rfl)
               |refine cl ?_ (hi:=by exact oe hB (r:=uu0.2) e1 (cY T1) rfl rfl (by decide) nL rfl)
               |refine st ?_ (hle:=by rw [b7];omega) (hv:=Cj (X1 X uu0) o3 (k:=1) (by decide) uu1.1)
               |refine ld ?_ (hc:=qo (X1 X uu0) o3 (k:=1) (by decide) uu1.1)
               |refine cl ?_ (hi:=by exact dk (M:=V1 X mb uu0) (k:=1) (v:=uu1.1) hDX hmX (by decide) (i:=16) (j:=17) rfl rfl (by decide) nA rfl)
               |refine cl ?_ (hi:=by exact fu (M:=V2 X mb uu0 uu1) (k:=2) T2 hDX hmX (by decide) (i:=16) (j:=17) rfl rfl (by decide) rfl)
               |refine cl ?_ (hi:=by exact oe hB (r:=uu1.2) e2 (cY T2) rfl rfl (by decide) nL rfl)
               |refine st ?_ (hle:=by rw [b7];omega) (hv:=Cj (X2 X uu0 uu1) o3 (k:=2) (by decide) uu2.1)
               |refine ld ?_ (hc:=qo (X2 X uu0 uu1) o3 (k:=2) (by decide) uu2.1)
               |refine cl ?_ (hi:=by exact dk (M:=V2 X mb uu0 uu1) (k:=2) (v:=uu2.1) hDX hmX (by decide) (i:=16) (j:=17) rfl rfl (by decide) nA rfl)
               |refine cl ?_ (hi:=by exact fu (M:=V3 X mb uu0 uu1 uu2) (k:=3) T3 hDX hmX (by decide) (i:=16) (j:=17) rfl rfl (by decide) rfl)
               |refine cl ?_ (hi:=by exact oe hB (r:=uu2.2) e3 (cY T3) rfl rfl (by decide) nL rfl)
               |refine st ?_ (hle:=by rw [b7];omega) (hv:=Cj (X3 X uu0 uu1 uu2) o3 (k:=3) (by decide) uu3.1)
               |refine ld ?_ (hc:=qo (X3 X uu0 uu1 uu2) o3 (k:=3) (by decide) uu3.1)
               |refine cl ?_ (hi:=by exact dk (M:=V3 X mb uu0 uu1 uu2) (k:=3) (v:=uu3.1) hDX hmX (by decide) (i:=16) (j:=17) rfl rfl (by decide) nA rfl))
              |refine WX.loop ?_|refine WX.round ?_|refine zz ?_|refine zx (fun _=>?_) (fun _=>?_)|fail)
             first|exact⟨_,_,ez,(bm [0,1,2,3,4,5,6,7,8,9,10,11,12,13,14,15,16,17,18,19,20,21,22,23])⟩|exact⟨rfl,_,_,ez,(bm [0,1,2,3,4,5,6,7,8,9,10,11,12,13,14,15,16,17,18,19,20,21,22,23])⟩
           · have ez:=CE (B:=B) (mb:=mb) (show X.m.kind≠1 from fun h=>h1 (hkX.symm.trans h)) (show X.m.kind≠2 from fun h=>h2 (hkX.symm.trans h))
             repeat' (first
              |(refine qz ?_;first
               |refine ld (c := .int .u8 s.1) ?_ (hc:=by rw [←hkX];exact ep _ _)
               |refine cl ?_ (hi:=by exact qw hB X.r rfl rfl (by decide) nL rfl)
               |refine st ?_ (hle:=by rw [b7];omega) (hv:=Gz _ _ _))
              |refine zz ?_|refine zx (fun _=>?_) (fun _=>?_)|fail)
             first|exact⟨_,_,ez,(bm [0,1,2,3,4,5,6,7,8,9,10,11,12,13,14,15,16,17,18,19,20,21,22,23])⟩|exact⟨rfl,_,_,ez,(bm [0,1,2,3,4,5,6,7,8,9,10,11,12,13,14,15,16,17,18,19,20,21,22,23])⟩
       · intro z hz
         have hz0:=En B mb X
         rw [hz]at hz0
         have hDz:gw z.S.cols z.S.rows:=by rw [hz0.cols,hz0.rows];exact hDX
         have hmz:0≤mb∧mb<z.S.cols*z.S.rows:=by rw [hz0.cols,hz0.rows];exact hmX
         have hqz : -1000000≤z.m.qp∧z.m.qp≤1000000:=by rw [hz0.qp];exact hqX
         repeat' (first
          |(refine qz ?_;first
           |refine rS (cs:=mC z.m) ?_ (hle:=by rw [b7];omega) (hc:=sB _ _))
          |refine zz ?_|refine zx (fun _=>?_) (fun _=>?_)|fail)
         refine cl ?_ (hi:=by exact zd (S:=z.S) (mb:=mb) (m:=z.m) (r:=z.r) hDz hmz rfl rfl rfl nA rfl)
         repeat' (first|refine WX.Gt 29 (σ:=i_) (fun w=>[(0,.one (.ptr 2 0)),(1,.one (.ptr 0 0)),(2,.one (.int .i64 mb)),(6,.one (.ptr 22 0)),(7,.one (.ptr 23 0))]) (fun w=>[bI 1 L B w.r.1 w.r.2,aR L,dw (w.S),bR 4 8 12,ay 5 6 7 cM,aX cM,aZ cM,aY cM,ay 9 10 11 cZ,aX cZ,aZ cZ,aY cZ,ay 13 14 15 cP,aX cP,aZ cP,aY cP,ch 17 (w.S).cols (w.S).rows,.map (bg (w.S).M),.cells [.int .i64 (w.S).cols,.int .i64 (w.S).rows,.map 19,.map 20,.map 21] 171 false false,.map (ah (w.S).A),.map (ah (w.S).B),.map (ah (w.S).C),.cells (eO kQ o3) 56 false false,.cells (eO w.m o3) 56 false false]) (fun w=>gY B mb (d9 mb z)=w) (fun w _=>kS) ?_ ?_|refine zz ?_|refine zx (fun _=>?_) (fun _=>?_)|fail)
         · repeat' (first
            |(refine qz ?_;first
             |refine rS (cs:=mC z.m) ?_ (hle:=by rw [b7];omega) (hc:=sB _ _)
             |refine sZ (fun ga=>?_) (fun ga=>?_) (hi:=by exact nC (m:=z.m) rfl)
             |refine cl ?_ (hi:=by exact Dm hB (x:=d9 mb z) (hs:=o3) (mb:=mb) hDz hmz hqz rfl rfl rfl rfl nA rfl))
            |refine zz ?_|refine zx (fun _=>?_) (fun _=>?_)|fail)
           · rename_i ga
             have e3:gY B mb (d9 mb z)=iJ B mb (d9 mb z) 6:=if_pos ga
             first|exact⟨iJ B mb (d9 mb z) 6,_,e3,(bm [0,1,2,3,4,5,6,7,8,9,10,11,12,13,14,15,16,17,18,19,20,21,22,23])⟩|exact⟨rfl,iJ B mb (d9 mb z) 6,_,e3,(bm [0,1,2,3,4,5,6,7,8,9,10,11,12,13,14,15,16,17,18,19,20,21,22,23])⟩
           · rename_i ga
             have e3:gY B mb (d9 mb z)=d9 mb z:=if_neg (by show¬alone z.m=true;rw [ga];decide)
             first|exact⟨d9 mb z,_,e3,(bm [0,1,2,3,4,5,6,7,8,9,10,11,12,13,14,15,16,17,18,19,20,21,22,23])⟩|exact⟨rfl,d9 mb z,_,e3,(bm [0,1,2,3,4,5,6,7,8,9,10,11,12,13,14,15,16,17,18,19,20,21,22,23])⟩
         · intro w hw
           have e4:y=zr B w:=by rw [←hF,e1,hz,hw]
           have hp:0≤(kZ cP B w.r).1∧(kZ cP B w.r).1≤15:=nJ (K:=15) (by decide) K8 B (cP.T.length/2) 0 w.r
           have hc:=mz B 2 (kZ cP B w.r).2
           have e5:zr B w=(⟨w.m,w.S,(bZ B 2 (kZ cP B w.r).2).2⟩,kP (kZ cP B w.r).1 (bZ B 2 (kZ cP B w.r).2).1):=rfl
           obtain⟨p,hpp⟩:∃ p,kZ cP B w.r=p:=⟨_,rfl⟩
           rw [hpp]at hp hc e5
           obtain⟨c,hcc⟩:∃ c,bZ B 2 p.2=c:=⟨_,rfl⟩
           rw [hcc]at hc e5
           repeat' (first
            |(refine qz ?_;first
             |refine cl ?_ (hi:=by exact Fx BU hB hpp (i:=0) (k:=1) (c:=12) (a:=13) (b:=14) (t:=15) rfl rfl rfl rfl rfl rfl (by decide) nL rfl)
             |refine cl ?_ (hi:=by exact GY hB hcc rfl (by decide) rfl rfl (by decide) nL rfl)
             |refine st ?_ (hle:=by simp only [List.length_set,b7];omega) (hv:=rfl)
             |refine fy ?_ (hle:=by simp only [List.length_set,b7])
             |refine i9 ?_ (hs1:=by simp only [List.length_set,b7]) (hs2:=by rw [b7])
             |refine cN (fun bb hbb=>?_))
            |refine WX.loop ?_|refine WX.round ?_|refine zz ?_|refine zx (fun _=>?_) (fun _=>?_)|fail)
           rw [e4,e5]
           rename_i b0 g0 b1 g1 b2 g2 b3 g3 b4 g4
           have h0':kP p.1 c.1 0=b0:=g0
           have h1':kP p.1 c.1 1=b1:=g1
           have h2':kP p.1 c.1 2=b2:=g2
           have h3':kP p.1 c.1 3=b3:=(Oh hp).trans g3
           have h4':kP p.1 c.1 4=b4:=g4
           have h5':kP p.1 c.1 5=bb:=(Oi hc).trans hbb
           rw [Jx w.m (kP p.1 c.1) h0' h1' h2' h3' h4' h5']
           show aH _ _ _ _ _ _ _ _;refine kV [0,1,2,3,4,5,6,7,8,9,10,11,12,13,14,15,16,17,18,19,20,21] ?_
           all_goals rfl
end Go.Proofs.YtagpkhindehcbaaGreat
namespace Go.Proofs.YtagpkhindehcbaaGreat
open Go.Xm
variable [az]
instance Od (m:Mb) (h:Nat→Bool):bB (.agg (eO m h)):=eY (tJ m h)
theorem NY {L:List Int} {B:List Bool}(hB:dG L B) {S:bz} {r:Nat × Bool} {mb:Int}(hD:gw S.cols S.rows) (hT:cj S.M) (hmb:0≤mb∧mb<S.cols*S.rows) (hq : -1000000≤S.qp∧S.qp≤1000000) {y:i_ × (Nat→Bool)}(hy:dC S B mb r=y)
 {HS:ak}(hi:HS[0]? = some (bI 1 L B r.1 r.2)) (hk:HS[1]? = some (aR L)) (hS:(HS.drop 2).take 20=dI S) {HS':ak}(hh:bN HS (0::1::bQ) (bI 1 L B y.1.r.1 y.1.r.2::aR L::dI y.1.S)=HS') (hbd:Nat.blt HS'.length Mem.bound=true) :
 aI.Sound Tryz.prog ⟨34,[.one (.ptr 2 0),.one (.ptr 0 0),.one (.int .i64 mb)],HS,.agg (eO y.1.m y.2),HS',0::1::bQ⟩:=by
 subst hy
 have hc:=zo hB S r mb hD hT hmb hq
 obtain⟨y,hy⟩:∃ y,dC S B mb r=y:=⟨_,rfl⟩
 rw [hy]at hc hh ⊢
 have hc':bt Tryz.prog 34 [.one (.ptr 2 0),.one (.ptr 0 0),.one (.int .i64 mb)] (bI 1 L B r.1 r.2::aR L::(dI S++[])) (.agg (eO y.1.m y.2)) (bI 1 L B y.1.r.1 y.1.r.2::aR L::(dI y.1.S++[])):=by
  rw [List.append_nil,List.append_nil];exact hc
 have h:=A1 (S:=S) (S':=y.1.S) (l:=[]) (l':=[]) (args':=[.one (.ptr 2 0),.one (.ptr 0 0),.one (.int .i64 mb)]) [] hc' hi hk hS (by decide) .nil rfl rfl .nil .nil .nil rfl (by decide) (.cons (by show 2<22;omega) (.cons (by show 0<22;omega) (.flat .nil))) (.cons rfl (.cons rfl (.flat .nil))) (HS':=HS') (by rw [List.append_nil];exact hh) hbd
 rw [List.append_nil]at h
 exact h
structure sS (x:i_) (c r:Int):Prop where
 cols:x.S.cols=c
 rows:x.S.rows=r
 tiny:cj x.S.M
 qp : -1000000≤x.S.qp∧x.S.qp≤1000000
 v:∀ k,bu (x.m.v k)
theorem HI:bu (0,0):=⟨by unfold fA;omega,by unfold fA;omega⟩
theorem Ep {S:bz} {B:List Bool} {r:Nat × Bool}(hT:cj S.M) (hq : -1000000≤S.qp∧S.qp≤1000000):sS (iu S B r) S.cols S.rows:=
 ⟨rfl,rfl,hT,CG S B _ hq,fun _=>HI⟩
theorem xn {x:i_} {c r:Int}(h:sS x c r) (B:List Bool) (mb:Int) (k:Nat):sS (CJ B mb x k) c r:=
 ⟨h.cols,h.rows,bJ h.tiny (l_ _ _ _),h.qp,fun j=>by
  show bu (if j=k then _ else x.m.v j)
  split
  · exact l_ _ _ _
  · exact h.v j⟩
theorem Eo {x:i_} {c r:Int}(h:sS x c r) (B:List Bool) (mb:Int):sS (fb B mb x) c r:=by
 unfold fb
 split
 · exact⟨h.cols,h.rows,h.tiny,h.qp,fun j=>l_ _ _ _⟩
 · split
   · exact xn (xn (xn (xn h B mb 0) B mb 1) B mb 2) B mb 3
   · exact⟨h.cols,h.rows,h.tiny,h.qp,h.v⟩
theorem vT {x:i_} {c r:Int}(h:sS x c r) (mb:Int):sS (d9 mb x) c r:=
 ⟨h.cols,h.rows,eG h.tiny h.v,h.qp,h.v⟩
theorem HK {x:i_} {c r:Int}(h:sS x c r) (B:List Bool) (mb:Int):∀ k,sS (iJ B mb x k) c r:=by
 intro k
 induction k with
 | zero=>exact h
 | succ k ih=>exact⟨ih.cols,ih.rows,ih.tiny,ih.qp,ih.v⟩
theorem OE {S:bz} {B:List Bool} {r:Nat × Bool} {mb:Int}(hT:cj S.M) (hq : -1000000≤S.qp∧S.qp≤1000000):sS (dC S B mb r).1 S.cols S.rows:=by
 have h:=Ep (B:=B) (r:=r) hT hq
 unfold dC Mj
 split
 · exact vT h mb
 · have h2:=vT (Eo h B mb) mb
   have h3:sS (gY B mb (d9 mb (fb B mb (iu S B r)))) S.cols S.rows:=by
    unfold gY
    split
    · exact HK h2 B mb 6
    · exact h2
   exact⟨h3.cols,h3.rows,h3.tiny,h3.qp,h3.v⟩
end Go.Proofs.YtagpkhindehcbaaGreat
namespace Go.Proofs.YtagpkhindehcbaaGreat
open Go.Xm
variable [az]
structure Hd where
 cols:Int
 rows:Int
 w:Bool
 a:Nat→Int
 b:Nat→Int
def eh (h:Hd):List XC := .bool h.w::(ti .u8 64 h.a++ti .u8 64 h.b)
def iz (h:Hd):List XC := .int .i64 h.cols :: .int .i64 h.rows::eh h
theorem iX (h:Hd):(eh h).length=129:=by simp [eh,aE]
theorem bM (h:Hd):(iz h).length=131:=by simp [iz,iX]
theorem oQ (h:Hd):(eh h).all XC.shut=true:=by simp [eh,ti,XC.shut]
theorem iP (h:Hd):(iz h).all XC.shut=true:=by simp [iz,eh,ti,XC.shut]
theorem Hz (h:Hd) {i:Nat}(hi:i<64):(eh h)[1+i]? = some (.int .u8 (h.a i)):=by
 unfold eh
 rw [Nat.add_comm,List.getElem?_cons_succ,List.getElem?_append_left (by rw [aE];exact hi),gP hi]
theorem HA (h:Hd) {i:Nat}(hi:i<64):(eh h)[65+i]? = some (.int .u8 (h.b i)):=by
 unfold eh
 rw [show 65+i=(64+i)+1 by omega,List.getElem?_cons_succ,List.getElem?_append_right (by rw [aE];omega),aE,show 64+i-64=i by omega,gP hi]
instance Jc (h:Hd):bB (.agg (iz h)):=eY (iP h)
instance Nc (h:Hd) (e:TypeId) (a b:Bool):dc (.cells (eh h) e a b):=gW (oQ h)
instance NQ (h:Hd) (e:TypeId) (a b:Bool):dc (.cells (iz h) e a b):=gW (iP h)
structure sM (h:Hd):Prop where
 dims:gw h.cols h.rows
 yes:h.w=true→∀ i,i<64→8≤h.a i∧8≤h.b i
 no:h.w=false→∀ i,i<64→h.a i=0∧h.b i=0
theorem Bb (h:Hd) (ho:sM h):bt Tryz.prog 46 [.agg (eh h)] [] (.one (.int .i64 0)) []:=by
 obtain⟨w,hw⟩:∃ w,h.w=w:=⟨_,rfl⟩
 have h0:(eh h)[0]? = some (.bool w):=by rw [←hw];rfl
 refine cO Tryz.func46 ?_
 repeat' (first|refine zz ?_|refine zx (fun _=>?_) (fun _=>?_)|fail)
 refine WX.dp (σ:=Nat) (fun j=>[(4,.one (.int .i64 (j:Nat))),(1,.one (.ptr 0 0))]) (fun _=>[.cells (eh h) 24 false false]) (fun j=>j≤64) (fun j=>64-j) 0 (by omega) (fun s _=>kS) (bm [0]) ?_
 intro j hj ih
 by_cases hj64:j<64
 · have ga:=Hz h hj64
   have gb:=HA h hj64
   cases w
   · have hn:=ho.no hw j hj64
     repeat' (first
      |(refine qz ?_;first
       |refine ld (hc:=h0) ?_
       |refine ld (hc:=ga) ?_
       |refine ld (hc:=gb) ?_)
      |refine zz ?_|refine zx (fun _=>?_) (fun _=>?_)|fail)
     refine ih (j+1) _ _ _ (bm [0]) (by omega) (by omega)
   · have hn:=ho.yes hw j hj64
     repeat' (first
      |(refine qz ?_;first
       |refine ld (hc:=h0) ?_
       |refine ld (hc:=ga) ?_
       |refine ld (hc:=gb) ?_)
      |refine zz ?_|refine zx (fun _=>?_) (fun _=>?_)|fail)
     refine ih (j+1) _ _ _ (bm [0]) (by omega) (by omega)
 · repeat' (first|refine zz ?_|refine zx (fun _=>?_) (fun _=>?_)|fail)
   show aH _ _ _ _ _ _ _ _;refine kV [] ?_
   rfl
theorem Ei {h:Hd}(ho:sM h) {HS:ak}(hb:Nat.blt HS.length Mem.bound=true):aI.Sound Tryz.prog ⟨46,[.agg (eh h)],HS,.one (.int .i64 0),HS,[]⟩:=
 aB (Bb h ho) (by simp only [List.all_cons,List.all_nil,Bool.and_true];exact oQ h) rfl hb
theorem B6 (h:Hd):((iz h).drop 2).take 129=eh h:=by
 show(eh h).take 129=_
 rw [List.take_of_length_le (by rw [iX];omega)]
theorem AG (h:Hd) (ho:sM h):bt Tryz.prog 25 [.agg (iz h)] [] (.one (.int .i64 0)) []:=by
 have h1:=ho.dims.c0
 have h2:=ho.dims.c1
 have h3:=ho.dims.r0
 have h4:=ho.dims.r1
 refine cO Tryz.func25 ?_
 repeat' (first
  |(refine qz ?_;first
   |refine rS (cs:=eh h) ?_ (hle:=by rw [bM];decide) (hc:=B6 h)
   |refine cl ?_ (hi:=by exact Ei ho rfl))
  |refine zz ?_|refine zx (fun _=>?_) (fun _=>?_)|fail)
 show aH _ _ _ _ _ _ _ _;refine kV [] ?_
 rfl
theorem oA {h:Hd}(ho:sM h) {HS:ak}(hb:Nat.blt HS.length Mem.bound=true):aI.Sound Tryz.prog ⟨25,[.agg (iz h)],HS,.one (.int .i64 0),HS,[]⟩:=
 aB (AG h ho) (by simp only [List.all_cons,List.all_nil,Bool.and_true];exact iP h) rfl hb
structure Ph where
 id:Int
 inter:Bool
 down:Bool
 qp:Int
def jh (p:Ph):List XC:=[.int .i64 p.id,.bool p.inter,.bool p.down,.int .i64 p.qp]
structure z9 (p:Ph):Prop where
 id:0≤p.id∧p.id≤65535
 qp:1≤p.qp∧p.qp≤31
 down:p.down=true→p.inter=true
instance NS (p:Ph):bB (.agg (jh p)):=eY rfl
theorem AV (p:Ph) (ho:z9 p):bt Tryz.prog 26 [.agg (jh p)] [] (.one (.int .i64 0)) []:=by
 have h1:=ho.id
 have h2:=ho.qp
 obtain⟨d,hd⟩:∃ d,p.down=d:=⟨_,rfl⟩
 have hl:(jh p)[2]? = some (.bool d):=by rw [←hd];rfl
 cases d
 · refine cO Tryz.func26 ?_
   repeat' (first
    |(refine qz ?_;first
     |refine ld (hc:=hl) ?_)
    |refine zz ?_|refine zx (fun _=>?_) (fun _=>?_)|fail)
   show aH _ _ _ _ _ _ _ _;refine kV [] ?_
   rfl
 · have hi:=ho.down hd
   have hl2:(jh p)[1]? = some (.bool true):=by rw [←hi];rfl
   refine cO Tryz.func26 ?_
   repeat' (first
    |(refine qz ?_;first
     |refine ld (hc:=hl) ?_
     |refine ld (hc:=hl2) ?_)
    |refine zz ?_|refine zx (fun _=>?_) (fun _=>?_)|fail)
   show aH _ _ _ _ _ _ _ _;refine kV [] ?_
   rfl
theorem oG {p:Ph}(ho:z9 p) {HS:ak}(hb:Nat.blt HS.length Mem.bound=true):aI.Sound Tryz.prog ⟨26,[.agg (jh p)],HS,.one (.int .i64 0),HS,[]⟩:=
 aB (AV p ho) rfl rfl hb
theorem Kk {cols rows:Int}(h:gw cols rows) {HS:ak} {N:Nat}(hN:HS.length=N) {HS':ak}(hh:HS++[ch (N+1) cols rows,.map (bg [])]=HS') (hbd:Nat.blt HS'.length Mem.bound=true) :
 aI.Sound Tryz.prog ⟨47,[.one (.int .i64 cols),.one (.int .i64 rows)],HS,.one (.ptr N 0),HS',[]⟩:=by
 subst hN
 refine b8 (os:=[ch (HS.length+1) cols rows,.map (bg [])]) [] [] 2 (H3 cols rows h) (by simp) .nil .nil ?_ rfl (.flat (.flat .nil)) (.flat (.flat .nil)) (by show 0<2;omega) rfl ?_ rfl rfl hh hbd (.inl rfl)
 · exact .cons (by simp [aj.cc,XC.ok]) (.flat .nil)
 · exact .cons rfl (.flat .nil)
abbrev Ff (h:Hd) (p:Ph):ak:=[.cells [.ptr 0 0,.int .i64 p.id,.bool p.inter,.bool p.down,.int .i64 p.qp,.int .i64 p.qp,.ptr 14 0,.ptr 16 0] 97 false false,ch 15 h.cols h.rows,.map (bg []),.cells [.int .i64 h.cols,.int .i64 h.rows,.map 17,.map 18,.map 19] 171 false false,.map (ah []),.map (ah []),.map (ah [])]
theorem C7 (h:Hd) (p:Ph) (ho:sM h):bt Tryz.prog 27 [.one (.ptr 0 0),.agg (iz h),.agg (jh p)] [bR 1 5 9,ay 2 3 4 cM,aX cM,aZ cM,aY cM,ay 6 7 8 cZ,aX cZ,aZ cZ,aY cZ,ay 10 11 12 cP,aX cP,aZ cP,aY cP] (.one (.ptr 13 0)) ([bR 1 5 9,ay 2 3 4 cM,aX cM,aZ cM,aY cM,ay 6 7 8 cZ,aX cZ,aZ cZ,aY cZ,ay 10 11 12 cP,aX cP,aZ cP,aY cP]++Ff h p):=by
 have h1:=ho.dims.c0
 have h2:=ho.dims.c1
 have h3:=ho.dims.r0
 have h4:=ho.dims.r1
 refine cO Tryz.func27 ?_
 repeat' (first
  |(refine qz ?_;first
   |refine fy ?_ (hle:=by rfl)
   |refine cl ?_ (hi:=by exact Kk (cols:=h.cols) (rows:=h.rows) ho.dims nL (by first|(simp only [List.cons_append,List.nil_append];exact rfl)|exact rfl) rfl)
   |refine cl ?_ (hi:=by exact F2 (cols:=h.cols) (rows:=h.rows) (by omega) (by omega) nL (by first|(simp only [List.cons_append,List.nil_append];exact rfl)|exact rfl) rfl))
  |refine zz ?_|refine zx (fun _=>?_) (fun _=>?_)|fail)
 show aH _ _ _ _ _ _ _ _;refine kV [0,1,2,3,4,5,6,7,8,9,10,11,12,21,15,16,17,18,19,20] ?_
 rfl
end Go.Proofs.YtagpkhindehcbaaGreat
namespace Go.Proofs.YtagpkhindehcbaaGreat
open Go.Xm
variable [az]
theorem LN (e e' e2 e3:TypeId) (cs ds fs gs:List XC):eg [cK e cs] [cK e' ds,.cells fs e2 false false,.cells gs e3 false false]=true:=by
 cases cs <;> cases ds <;> simp [eg,aj.live,aj.own,cK]
theorem Jz {l:List Int}(hl:eI l) (hn:l.length≤30000) {q:List Int}(h2:lE l l.length [] 0 0=some q) {B:List Bool}(h3:fm q=(B.length,true)) (hB:B.length≤8*q.length) {n:Nat}(hln:l.length=n) {HS:ak} {i:Nat}(hi:HS[i]? = some (cK 5 (il .u8 l))) {N:Nat}(hN:HS.length=N) {HS':ak}(hh:HS++[bI (N+1) q B 0 false,aR q]=HS') (hb:Nat.blt HS'.length Mem.bound=true) :
 aI.Sound Tryz.prog ⟨32,[iK i n 1],HS,.tup [.one (.ptr N 0),.one (.int .i64 0)],HS',[i]⟩:=by
 subst hln hN
 refine b8 (os:=[cK 5 (il .u8 l),bI (HS.length+1) q B 0 false,aR q]) [i] [i] 2 (JA hl hn h2 h3 hB) (by simp) (.flat hi .nil) (.flat .nil) (.flat (.cons ?_ (.flat .nil))) rfl (.cons (gO (Nat.le_of_ble_eq_true rfl)) .nil) (.cons (d_ ..) .nil) ?_ rfl (.flat (.cons rfl (.flat .nil))) (LN ..) rfl (by simp only [bN];rw [aG hi];exact hh) hb (.inl rfl)
 · simp [aj.cc,XC.ok]
 · exact Gx (by show 1<3;omega) trivial
abbrev Iv:List Nat:=[0,1,2,3,4,5,6,7,8,9,10,11,12]
abbrev BR (h:Hd) (p:Ph) (N:Nat):ak:=[.cells [.ptr 0 0,.int .i64 p.id,.bool p.inter,.bool p.down,.int .i64 p.qp,.int .i64 p.qp,.ptr (N+1) 0,.ptr (N+3) 0] 97 false false,ch (N+2) h.cols h.rows,.map (bg []),.cells [.int .i64 h.cols,.int .i64 h.rows,.map (N+4),.map (N+5),.map (N+6)] 171 false false,.map (ah []),.map (ah []),.map (ah [])]
abbrev gM:ak:=[bR 1 5 9,ay 2 3 4 cM,aX cM,aZ cM,aY cM,ay 6 7 8 cZ,aX cZ,aZ cZ,aY cZ,ay 10 11 12 cP,aX cP,aZ cP,aY cP]
theorem IM {HS:ak}(hS:HS.take 13=gM) {τ : Nat→Nat}(h:∀ j,j<13 → τ j=j):ae τ HS Iv gM:=by
 have g:∀ j,j<13→HS[j]? = gM[j]?:=fun j hj=>by rw [←hS,List.getElem?_take_of_lt hj]
 have h1:=h 1 (by decide)
 have h2:=h 2 (by decide)
 have h3:=h 3 (by decide)
 have h4:=h 4 (by decide)
 have h5:=h 5 (by decide)
 have h6:=h 6 (by decide)
 have h7:=h 7 (by decide)
 have h8:=h 8 (by decide)
 have h9:=h 9 (by decide)
 have h10:=h 10 (by decide)
 have h11:=h 11 (by decide)
 have h12:=h 12 (by decide)
 refine .cons ?_ (.cons ?_ (.flat (g 2 (by decide)) (.flat (g 3 (by decide)) (.flat (g 4 (by decide)) (.cons ?_ (.flat (g 6 (by decide)) (.flat (g 7 (by decide)) (.flat (g 8 (by decide)) (.cons ?_ (.flat (g 10 (by decide)) (.flat (g 11 (by decide)) (.flat (g 12 (by decide)) .nil))))))))))))
 · rw [g 0 (by decide)]
   simp only [aj.au,List.map_cons,List.map_nil,XC.au,h1,h5,h9];rfl
 · rw [g 1 (by decide)]
   simp only [aj.au,List.map_cons,List.map_nil,XC.au,h2,h3,h4];rfl
 · rw [g 5 (by decide)]
   simp only [aj.au,List.map_cons,List.map_nil,XC.au,h6,h7,h8];rfl
 · rw [g 9 (by decide)]
   simp only [aj.au,List.map_cons,List.map_nil,XC.au,h10,h11,h12];rfl
theorem px {n:Nat}(hn:13≤n) {l:ak}(hl:bE n l):bE n (gM++l):=by
 refine .cons ?_ (.cons ?_ (.flat (.flat (.flat (.cons ?_ (.flat (.flat (.flat (.cons ?_ (.flat (.flat (.flat hl))))))))))))
 all_goals simp [aj.cc,XC.ok];omega
theorem IL {τ : Nat→Nat}(h:∀ j,j<13 → τ j=j) {l l':ak}(hl:dO τ l l'):dO τ (gM++l) (gM++l'):=by
 have h1:=h 1 (by decide)
 have h2:=h 2 (by decide)
 have h3:=h 3 (by decide)
 have h4:=h 4 (by decide)
 have h5:=h 5 (by decide)
 have h6:=h 6 (by decide)
 have h7:=h 7 (by decide)
 have h8:=h 8 (by decide)
 have h9:=h 9 (by decide)
 have h10:=h 10 (by decide)
 have h11:=h 11 (by decide)
 have h12:=h 12 (by decide)
 refine .cons ?_ (.cons ?_ (.flat (.flat (.flat (.cons ?_ (.flat (.flat (.flat (.cons ?_ (.flat (.flat (.flat hl))))))))))))
 · simp only [aj.au,List.map_cons,List.map_nil,XC.au,h1,h5,h9]
 · simp only [aj.au,List.map_cons,List.map_nil,XC.au,h2,h3,h4]
 · simp only [aj.au,List.map_cons,List.map_nil,XC.au,h6,h7,h8]
 · simp only [aj.au,List.map_cons,List.map_nil,XC.au,h10,h11,h12]
theorem Fm {HS:ak}(hS:HS.take 13=gM) {os:ak}:bN HS Iv (gM++os)=HS++os:=by
 have g:∀ j,j<13→HS[j]? = gM[j]?:=fun j hj=>by rw [←hS,List.getElem?_take_of_lt hj]
 simp only [bN,gM,List.cons_append,List.nil_append]
 rw [aG (g 0 (by decide)),aG (g 1 (by decide)),aG (g 2 (by decide)),aG (g 3 (by decide)),aG (g 4 (by decide)),aG (g 5 (by decide)),aG (g 6 (by decide)),aG (g 7 (by decide)),aG (g 8 (by decide)),aG (g 9 (by decide)),aG (g 10 (by decide)),aG (g 11 (by decide)),aG (g 12 (by decide))]
theorem Cf (r:List Nat):∀ j,j<13→nth (Iv++r) j=j:=fun j hj=>by
 have hq:∀ q:Fin 13,Iv[q.val]? = some q.val:=by decide
 have:=hq ⟨j,hj⟩
 unfold nth
 rw [List.getD_eq_getElem?_getD,List.getElem?_append_left (by exact hj),this]
 rfl
theorem nF {h:Hd} {p:Ph}(ho:sM h) {HS:ak}(hS:HS.take 13=gM) {N:Nat}(hN:HS.length=N) {HS':ak}(hh:HS++BR h p N=HS') (hbd:Nat.blt HS'.length Mem.bound=true) :
 aI.Sound Tryz.prog ⟨27,[.one (.ptr 0 0),.agg (iz h),.agg (jh p)],HS,.one (.ptr N 0),HS',Iv⟩:=by
 subst hN
 have e0:∀ j,j<13→nth Iv j=j:=fun j hj=>by
  have:=Cf [] j hj
  rw [List.append_nil]at this
  exact this
 refine b8 (os:=gM++BR h p HS.length) Iv Iv 7 (C7 h p ho) (by decide) (IM hS e0) (px (l:=[]) (Nat.le_refl _) .nil) (px (l:=Ff h p) (by show 13≤20;omega) ?_) rfl (.cons (by show 0<13;omega) (.flat (.flat .nil))) (.cons rfl (.flat (.flat .nil))) (by show 13<20;omega) rfl (IL (Cf _) ?_) ?_ rfl (by rw [Fm hS];exact hh) hbd (.inl rfl)
 · refine .cons ?_ (.cons ?_ (.flat (.cons ?_ (.flat (.flat (.flat .nil))))))
   all_goals simp [aj.cc,XC.ok]
 · exact .cons rfl (.cons rfl (.flat (.cons rfl (.flat (.flat (.flat .nil))))))
 · rfl
end Go.Proofs.YtagpkhindehcbaaGreat
namespace Go.Proofs.YtagpkhindehcbaaGreat
open Go.Xm
variable [az]
abbrev G_ (S:bz) (N:Nat):aj := .cells [.ptr 0 0,.int .i64 S.id,.bool S.inter,.bool S.down,.int .i64 S.hqp,.int .i64 S.qp,.ptr (N+1) 0,.ptr (N+3) 0] 97 false false
abbrev Hy (S:bz) (N:Nat):aj := .cells [.int .i64 S.cols,.int .i64 S.rows,.map (N+4),.map (N+5),.map (N+6)] 171 false false
abbrev xi (S:bz) (N:Nat):ak:=[G_ S N,ch (N+2) S.cols S.rows,.map (bg S.M),Hy S N,.map (ah S.A),.map (ah S.B),.map (ah S.C)]
abbrev kA (N:Nat) (r:List Nat):List Nat:=N::0::1::2::3::4::5::6::7::8::9::10::11::12::(N+1)::(N+2)::(N+3)::(N+4)::(N+5)::(N+6)::r
abbrev Ka (S:bz) (N:Nat) (l:ak):ak:=G_ S N::bR 1 5 9::ay 2 3 4 cM::aX cM::aZ cM::aY cM::ay 6 7 8 cZ::aX cZ::aZ cZ::aY cZ::ay 10 11 12 cP::aX cP::aZ cP::aY cP::ch (N+2) S.cols S.rows :: .map (bg S.M)::Hy S N :: .map (ah S.A) :: .map (ah S.B) :: .map (ah S.C)::l
theorem xk {HS:ak} {S:bz} {N:Nat} {τ : Nat→Nat}(hS:HS.take 13=gM) (hN:(HS.drop N).take 7=xi S N) (h3:∀ j,j<13 → τ (3+j)=j) (h16:∀ j,j<6 → τ (16+j)=N+1+j) {ls:List Nat} {l:ak}(hl:ae τ HS ls l):ae τ HS (kA N ls) (dI S++l):=by
 have g:∀ j,j<13→HS[j]? = gM[j]?:=fun j hj=>by rw [←hS,List.getElem?_take_of_lt hj]
 have k:∀ j,j<7→HS[N+j]? = (xi S N)[j]?:=fun j hj=>by rw [←hN,List.getElem?_take_of_lt hj,List.getElem?_drop]
 have a1 : τ 4=1:=h3 1 (by decide)
 have a2 : τ 5=2:=h3 2 (by decide)
 have a3 : τ 6=3:=h3 3 (by decide)
 have a4 : τ 7=4:=h3 4 (by decide)
 have a5 : τ 8=5:=h3 5 (by decide)
 have a6 : τ 9=6:=h3 6 (by decide)
 have a7 : τ 10=7:=h3 7 (by decide)
 have a8 : τ 11=8:=h3 8 (by decide)
 have a9 : τ 12=9:=h3 9 (by decide)
 have b0 : τ 13=10:=h3 10 (by decide)
 have b1 : τ 14=11:=h3 11 (by decide)
 have b2 : τ 15=12:=h3 12 (by decide)
 have a0 : τ 3=0:=h3 0 (by decide)
 have d0 : τ 16=N+1:=h16 0 (by decide)
 have d1 : τ 17=N+2:=h16 1 (by decide)
 have d2 : τ 18=N+3:=h16 2 (by decide)
 have d3 : τ 19=N+4:=h16 3 (by decide)
 have d4 : τ 20=N+5:=h16 4 (by decide)
 have d5 : τ 21=N+6:=h16 5 (by decide)
 refine .cons ?_ (.cons ?_ (.cons ?_ (.flat (g 2 (by decide)) (.flat (g 3 (by decide)) (.flat (g 4 (by decide)) (.cons ?_ (.flat (g 6 (by decide)) (.flat (g 7 (by decide)) (.flat (g 8 (by decide)) (.cons ?_ (.flat (g 10 (by decide)) (.flat (g 11 (by decide)) (.flat (g 12 (by decide)) (.cons ?_ (.flat (k 2 (by decide)) (.cons ?_ (.flat (k 4 (by decide)) (.flat (k 5 (by decide)) (.flat (k 6 (by decide)) hl)))))))))))))))))))
 · have:=k 0 (by decide)
   rw [Nat.add_zero]at this
   rw [this]
   simp only [aj.au,List.map_cons,List.map_nil,XC.au,a0,d0,d2];rfl
 · rw [g 0 (by decide)]
   simp only [aj.au,List.map_cons,List.map_nil,XC.au,a1,a5,a9];rfl
 · rw [g 1 (by decide)]
   simp only [aj.au,List.map_cons,List.map_nil,XC.au,a2,a3,a4];rfl
 · rw [g 5 (by decide)]
   simp only [aj.au,List.map_cons,List.map_nil,XC.au,a6,a7,a8];rfl
 · rw [g 9 (by decide)]
   simp only [aj.au,List.map_cons,List.map_nil,XC.au,b0,b1,b2];rfl
 · rw [k 1 (by decide)]
   simp only [aj.au,List.map_cons,List.map_nil,XC.au,d1];rfl
 · rw [k 3 (by decide)]
   simp only [aj.au,List.map_cons,List.map_nil,XC.au,d3,d4,d5];rfl
theorem A9 {S:bz} {N:Nat} {τ : Nat→Nat}(h3:∀ j,j<13 → τ (3+j)=j) (h16:∀ j,j<6 → τ (16+j)=N+1+j) {l l':ak}(hl:dO τ l l'):dO τ (dI S++l) (Ka S N l'):=by
 have a1 : τ 4=1:=h3 1 (by decide)
 have a2 : τ 5=2:=h3 2 (by decide)
 have a3 : τ 6=3:=h3 3 (by decide)
 have a4 : τ 7=4:=h3 4 (by decide)
 have a5 : τ 8=5:=h3 5 (by decide)
 have a6 : τ 9=6:=h3 6 (by decide)
 have a7 : τ 10=7:=h3 7 (by decide)
 have a8 : τ 11=8:=h3 8 (by decide)
 have a9 : τ 12=9:=h3 9 (by decide)
 have b0 : τ 13=10:=h3 10 (by decide)
 have b1 : τ 14=11:=h3 11 (by decide)
 have b2 : τ 15=12:=h3 12 (by decide)
 have a0 : τ 3=0:=h3 0 (by decide)
 have d0 : τ 16=N+1:=h16 0 (by decide)
 have d1 : τ 17=N+2:=h16 1 (by decide)
 have d2 : τ 18=N+3:=h16 2 (by decide)
 have d3 : τ 19=N+4:=h16 3 (by decide)
 have d4 : τ 20=N+5:=h16 4 (by decide)
 have d5 : τ 21=N+6:=h16 5 (by decide)
 refine .cons ?_ (.cons ?_ (.cons ?_ (.flat (.flat (.flat (.cons ?_ (.flat (.flat (.flat (.cons ?_ (.flat (.flat (.flat (.cons ?_ (.flat (.cons ?_ (.flat (.flat (.flat hl)))))))))))))))))))
 all_goals simp only [aj.au,List.map_cons,List.map_nil,XC.au, *]
theorem tI (a b N:Nat) (r:List Nat):∀ j,j<13→nth (a::b::kA N r) (3+j)=j:=fun j hj=>by
 have hq:∀ q:Fin 13,Iv[q.val]? = some q.val:=by decide
 have:=hq ⟨j,hj⟩
 unfold nth
 rw [List.getD_eq_getElem?_getD,Nat.add_comm]
 show((Iv++((N+1)::(N+2)::(N+3)::(N+4)::(N+5)::(N+6)::r))[j]?).getD 0=j
 rw [List.getElem?_append_left (by exact hj),this]
 rfl
theorem qn (a b N:Nat) (r:List Nat):∀ j,j<6→nth (a::b::kA N r) (16+j)=N+1+j:=fun j hj=>by
 match j,hj with
 | 0,_=>rfl
 | 1,_=>rfl
 | 2,_=>rfl
 | 3,_=>rfl
 | 4,_=>rfl
 | 5,_=>rfl
theorem Nu {f:FuncId} {args args':List XV} {v:XV} [bB v] {L:List Int} {B:List Bool} {p p':Nat} {e e':Bool} {S S':bz} {i k N:Nat}(hc:bt Tryz.prog f args (bI 1 L B p e::aR L::dI S) v (bI 1 L B p' e'::aR L::dI S'))
 {HS:ak}(hi:HS[i]? = some (bI k L B p e)) (hk:HS[k]? = some (aR L)) (hS:HS.take 13=gM) (hN:(HS.drop N).take 7=xi S N) (hnd:(i::k::kA N []).Nodup) (ha:eT 22 args) (hr:dE (nth (i::k::kA N [])) args args')
 {HS':ak}(hh:bN HS (i::k::kA N []) (bI k L B p' e'::aR L::Ka S' N [])=HS') (hbd:Nat.blt HS'.length Mem.bound=true) :
 aI.Sound Tryz.prog ⟨f,args',HS,v,HS',i::k::kA N []⟩:=by
 have h3:=tI i k N []
 have h16:=qn i k N []
 have hc':bt Tryz.prog f args (bI 1 L B p e::aR L::(dI S++[])) v (bI 1 L B p' e'::aR L::(dI S'++[])):=by
  rw [List.append_nil,List.append_nil];exact hc
 have ht2:nth ((i::k::kA N [])++List.range' HS.length 0)=nth (i::k::kA N []):=by
  rw [List.range'_zero,List.append_nil]
 refine b8 (i::k::kA N []) (i::k::kA N []) 0 hc' hnd (.cons hi (.flat hk (xk hS hN h3 h16 .nil))) (.cons (by simp [aj.cc,XC.ok]) (.flat (gk S _ (Nat.le_refl _) .nil))) (.cons (by simp [aj.cc,XC.ok]) (.flat (gk S' _ (Nat.le_refl _) .nil))) rfl ha hr (bB.ok _) (bB.au _) ?_ rfl rfl hh hbd (.inl rfl)
 rw [ht2]
 exact .cons rfl (.flat (A9 h3 h16 .nil))
end Go.Proofs.YtagpkhindehcbaaGreat
