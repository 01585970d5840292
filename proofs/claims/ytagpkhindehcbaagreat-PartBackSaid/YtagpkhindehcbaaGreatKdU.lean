/-
  A part of the proof: TakeF, Take1, Take2, Heads, Begin, InPlace.
-/
import Derived.Test.YtagpkhindehcbaaGreatKdN
import Derived.Test.YtagpkhindehcbaaGreatKdQ
import Derived.Test.YtagpkhindehcbaaGreatKdR
import Derived.Test.YtagpkhindehcbaaGreatKdT
set_option maxRecDepth 10000
set_option maxHeartbeats 8000000
set_option linter.unusedVariables false
set_option linter.unusedSectionVars false
set_option linter.unusedSimpArgs false
namespace Go.Proofs.YtagpkhindehcbaaGreat
open Go.Xm
variable [az]
def jS (S:bC) (B:List Bool) (r:Nat × Bool):Int × (Nat × Bool):=if S.inter=true then kS cM B r else(if dH B r=true then 4 else 3,bY B r)
def pB (n:Int):Int:=([-2,-1,1,2]:List Int).getD n.toNat 0
def Dm (S:bC) (B:List Bool) (k:Int × (Nat × Bool)):Int × (Nat × Bool):=
 if k.1=4 then(if S.qp+pB (bZ B 2 k.2).1<1∨31<S.qp+pB (bZ B 2 k.2).1 then(1,((bZ B 2 k.2).2.1,true))else(S.qp+pB (bZ B 2 k.2).1,(bZ B 2 k.2).2))else(S.qp,k.2)
def iv (S:bC) (B:List Bool) (r:Nat × Bool):jc:=
 ⟨{kr with kind:=(jS S B r).1,qp:=(Dm S B (jS S B r)).1},{S with qp:=(Dm S B (jS S B r)).1},(Dm S B (jS S B r)).2⟩
def Dr (B:List Bool) (mb:Int) (x:jc) (k:Nat):jc:=
 ⟨{x.m with v:=l9 x.m.v k (pE B (cf x.S.M x.S.cols x.S.rows mb k) x.r).1},{x.S with M:=aZ x.S.M x.S.cols mb k (pE B (cf x.S.M x.S.cols x.S.rows mb k) x.r).1},(pE B (cf x.S.M x.S.cols x.S.rows mb k) x.r).2⟩
def fh (B:List Bool) (mb:Int) (x:jc):jc:=
 if x.m.kind=1 then⟨{x.m with v:=fun _=>(pE B (cf x.S.M x.S.cols x.S.rows mb 0) x.r).1},x.S,(pE B (cf x.S.M x.S.cols x.S.rows mb 0) x.r).2⟩
 else if x.m.kind=2 then Dr B mb (Dr B mb (Dr B mb (Dr B mb x 0) 1) 2) 3
 else⟨{x.m with edge:=dH B x.r},x.S,bY B x.r⟩
def ee (mb:Int) (x:jc):jc:=⟨x.m,ba x.S mb x.m.v,x.r⟩
def gY (B:List Bool) (mb:Int) (x:jc):jc:=if alone x.m=true then iH B mb x 6 else x
def kO (p c:Int) (k:Nat):Bool:=if k<4 then decide (vk .i64 p (8/2^k)≠0)else decide (vk .u64 c (2/2^(k-4))≠0)
def z9 (B:List Bool) (x:jc):jc × (Nat→Bool):=(⟨x.m,x.S,(bZ B 2 (kS cP B x.r).2).2⟩,kO (kS cP B x.r).1 (bZ B 2 (kS cP B x.r).2).1)
def Nt (B:List Bool) (mb:Int) (x:jc):jc × (Nat→Bool):=if x.m.kind=0 then(ee mb x,pv)else z9 B (gY B mb (ee mb (fh B mb x)))
def dD (S:bC) (B:List Bool) (mb:Int) (r:Nat × Bool):jc × (Nat→Bool):=Nt B mb (iv S B r)
abbrev uy (S:bC) (q:Int):bC:={S with qp:=q}
theorem Df {x:Int}(h:0≤x∧x<4):([.int .i64 (-2),.int .i64 (-1),.int .i64 1,.int .i64 2]:List XC)[(x%2^2).toNat]? = some (.int .i64 (pB x)):=by
 have:x=0∨x=1∨x=2∨x=3:=by omega
 rcases this with rfl|rfl|rfl|rfl <;> rfl
theorem Dg (x:Int) : -2≤pB x∧pB x≤2:=jH (p:=fun x => -2≤x∧x≤2) (by decide) (by decide) x.toNat
theorem BT (S:bC) (B:List Bool) (r:Nat × Bool):0≤(jS S B r).1∧(jS S B r).1≤4:=by
 unfold jS
 split
 · exact nT (K:=4) (by decide) Mc B (cM.T.length/2) 0 r
 · show 0≤(if dH B r=true then(4:Int)else 3)∧_≤(4:Int)
   split <;> omega
theorem Dn (S:bC) (B:List Bool) (k:Int × (Nat × Bool)) (hq : -1000000≤S.qp∧S.qp≤1000000) : -1000000≤(Dm S B k).1∧(Dm S B k).1≤1000000:=by
 unfold Dm
 split
 · split
   · show(-1000000:Int)≤1∧(1:Int)≤1000000;decide
   · simp only [];omega
 · exact hq
structure L4 (x z:jc):Prop where
 cols:z.S.cols=x.S.cols
 rows:z.S.rows=x.S.rows
 qp:z.m.qp=x.m.qp
 kind:z.m.kind=x.m.kind
theorem Fi (B:List Bool) (mb:Int) (x:jc):L4 x (fh B mb x):=by
 unfold fh
 split
 · exact⟨rfl,rfl,rfl,rfl⟩
 · split
   · exact⟨rfl,rfl,rfl,rfl⟩
   · exact⟨rfl,rfl,rfl,rfl⟩
theorem ox {L:List Int} {B:List Bool}(h:cK L B) {r:Nat × Bool} {e:Int × Int} {t:(Int × Int) × (Nat × Bool)}(ht:pE B e r=t) (he:bu e) {HS:aj} {i k:Nat}(hi:HS[i]? = some (br k L B r.1 r.2)) (hk:HS[k]? = some (aM L)) (hd:i≠k) {HS':aj}(hh:HS.set i (br k L B t.2.1 t.2.2)=HS') (hbd:Nat.blt HS'.length Mem.bound=true) :
 aH.Sound Tryz.prog ⟨67,[.one (.ptr i 0),.one (cq e)],HS,.one (cq t.1),HS',[i]⟩:=by
 subst ht
 exact I3 h r he hi hk hd hh hbd
theorem qK (m:Mb) (h:Nat→Bool) {k:Nat}(hk:k<4) (x:Int × Int):(fw {m with v:=l9 m.v k x} h)[2+k]? = some (cq x):=by
 rw [Ht _ _ hk]
 exact congrArg (fun z=>some (cq z)) (if_pos rfl)
theorem K9 {B:List Bool} {mb:Int} {X:jc}(hk:X.m.kind=1) {t:(Int × Int) × (Nat × Bool)}(ht:pE B (cf X.S.M X.S.cols X.S.rows mb 0) X.r=t):fh B mb X=⟨{X.m with v:=fun _=>t.1},X.S,t.2⟩:=by
 subst ht
 exact if_pos hk
abbrev PH (S:bC) (M:fZ):bC:={S with M:=M}
abbrev V1 (X:jc) (mb:Int) (t0:(Int × Int) × (Nat × Bool)):fZ:=aZ X.S.M X.S.cols mb 0 t0.1
abbrev V2 (X:jc) (mb:Int) (t0 t1:(Int × Int) × (Nat × Bool)):fZ:=aZ (V1 X mb t0) X.S.cols mb 1 t1.1
abbrev V3 (X:jc) (mb:Int) (t0 t1 t2:(Int × Int) × (Nat × Bool)):fZ:=aZ (V2 X mb t0 t1) X.S.cols mb 2 t2.1
abbrev V4 (X:jc) (mb:Int) (t0 t1 t2 t3:(Int × Int) × (Nat × Bool)):fZ:=aZ (V3 X mb t0 t1 t2) X.S.cols mb 3 t3.1
abbrev X1 (X:jc) (t0:(Int × Int) × (Nat × Bool)):Mb:={X.m with v:=l9 X.m.v 0 t0.1}
abbrev X2 (X:jc) (t0 t1:(Int × Int) × (Nat × Bool)):Mb:={X.m with v:=l9 (l9 X.m.v 0 t0.1) 1 t1.1}
abbrev X3 (X:jc) (t0 t1 t2:(Int × Int) × (Nat × Bool)):Mb:={X.m with v:=l9 (l9 (l9 X.m.v 0 t0.1) 1 t1.1) 2 t2.1}
abbrev X4 (X:jc) (t0 t1 t2 t3:(Int × Int) × (Nat × Bool)):Mb:={X.m with v:=l9 (l9 (l9 (l9 X.m.v 0 t0.1) 1 t1.1) 2 t2.1) 3 t3.1}
theorem K_ {B:List Bool} {mb:Int} {X:jc}(hk:X.m.kind=2) {t0 t1 t2 t3:(Int × Int) × (Nat × Bool)}(h0:pE B (cf X.S.M X.S.cols X.S.rows mb 0) X.r=t0) (h1:pE B (cf (V1 X mb t0) X.S.cols X.S.rows mb 1) t0.2=t1) (h2:pE B (cf (V2 X mb t0 t1) X.S.cols X.S.rows mb 2) t1.2=t2) (h3:pE B (cf (V3 X mb t0 t1 t2) X.S.cols X.S.rows mb 3) t2.2=t3) :
 fh B mb X=⟨X4 X t0 t1 t2 t3,PH X.S (V4 X mb t0 t1 t2 t3),t3.2⟩:=by
 subst h3 h2 h1 h0
 unfold fh
 rw [if_neg (by rw [hk];decide),if_pos hk]
 rfl
theorem Dk {B:List Bool} {mb:Int} {X:jc}(h1:X.m.kind≠1) (h2:X.m.kind≠2):fh B mb X=⟨{X.m with edge:=dH B X.r},X.S,bY B X.r⟩:=by
 unfold fh
 rw [if_neg h1,if_neg h2]
end Go.Proofs.YtagpkhindehcbaaGreat
namespace Go.Xm
variable [az]
variable {P:Program} {ops:Array Oper} {nt nI:Nat} {al:bm} {hs:aj} {o:Oper} {l:List Oper} {L:List aH} {K:List Ab→bm→aj→Prop} {d:Nat}
theorem cN {t t':TypeId} {a b:Operand} {k:IntKind} {x y:Int}(hk:∀ z,decide (x≠y)=z→SK P ops nt L l ((d,.one (.bool z))::al) hs fun bs=>K (quiet::bs)) (ho:o.op = .binOp .neq t a b t':=by exact rfl) (hw:au ops (rg al) o=some true:=by exact rfl) (hd:o.dst=some d:=by exact rfl) (hlt:Nat.blt d nt=true:=by exact rfl) (ha:ai (rg al) a = .one (.int k x):=by exact rfl) (hb:ai (rg al) b = .one (.int k y):=by exact rfl):SK P ops nt L (o::l) al hs K:=
 xM ho hw hd hlt ha hb (show AY .neq x y=some (x≠y)from rfl) (fun h=>hk true (decide_eq_true h)) (fun h=>hk false (decide_eq_false h))
theorem WX.xz (id:Nat) {σ : Type} {ops:Array Oper} {dr:Bool} {x b:Code} {K:dj}(R : σ→bm) (H : σ→aj) (I : σ→Prop) (hok:∀ s,I s→yA nI (R s) (H s)) (h1:True→WX P nt nI (.code (.seq (.region id ops dr) x)) al hs fun e al1 hs1=>e = .normal∧∃ s τl,I s∧GoTo nI al1 hs1 (R s) (H s) τl)
 (h2:∀ s,I s→WX P nt nI (.code b) (R s) (H s) K):WX P nt nI (.code (.seq (.seq (.region id ops dr) x) b)) al hs K:=WX.meet R H I hok (h1 trivial) h2
end Go.Xm
namespace Go.Proofs.YtagpkhindehcbaaGreat
open Go.Xm
variable [az]
theorem Kp (m:Mb) (h:Nat→Bool) {b0 b1 b2 b3 b4 b5:Bool}(e0:h 0=b0) (e1:h 1=b1) (e2:h 2=b2) (e3:h 3=b3) (e4:h 4=b4) (e5:h 5=b5):((((((fw m pv).set 391 (.bool b0)).set 392 (.bool b1)).set 393 (.bool b2)).set 394 (.bool b3)).set 395 (.bool b4)).set 396 (.bool b5)=fw m h:=by
 subst e0 e1 e2 e3 e4 e5
 rw [←Hs m h,oQ m h (j:=0) (by decide),oQ m h (j:=1) (by decide),oQ m h (j:=2) (by decide),oQ m h (j:=3) (by decide),oQ m h (j:=4) (by decide),oQ m h (j:=5) (by decide),Ko]
theorem Ke:∀ a:Fin 16,decide (vk .i64 (a.val:Int) (8/2^3)≠0)=decide ((a.val:Int)%2^1≠0):=by decide +kernel
theorem Kd:∀ a:Fin 4,decide (vk .u64 (a.val:Int) (2/2^1)≠0)=decide ((a.val:Int)%2^1≠0):=by decide +kernel
theorem Pv {p c:Int}(h:0≤p∧p≤15):kO p c 3=decide (p%2^1≠0):=by
 have:=Ke ⟨p.toNat,by omega⟩
 simp only [Int.toNat_of_nonneg h.1]at this
 exact this
theorem Pw {p c:Int}(h:0≤c∧c<2^2):kO p c 5=decide (c%2^1≠0):=by
 have:=Kd ⟨c.toNat,by omega⟩
 simp only [Int.toNat_of_nonneg h.1]at this
 exact this
theorem Gs {C:Cd}(hC:u_ C) {L:List Int} {B:List Bool}(h:cK L B) {r:Nat × Bool} {q:Int × (Nat × Bool)}(hq:kS C B r=q) {HS:aj} {i k c a b t:Nat}(hi:HS[i]? = some (br k L B r.1 r.2)) (hk:HS[k]? = some (aM L)) (hc:HS[c]? = some (ax a b t C)) (ha:HS[a]? = some (aU C)) (hb:HS[b]? = some (aW C)) (ht:HS[t]? = some (aV C)) (hd : [i,k,c,a,b,t].Nodup) {HS':aj}(hh:HS.set i (br k L B q.2.1 q.2.2)=HS') (hbd:Nat.blt HS'.length Mem.bound=true) :
 aH.Sound Tryz.prog ⟨63,[.one (.ptr c 0),.one (.ptr i 0)],HS,.one (.int .i64 q.1),HS',[i]⟩:=by
 subst hq
 exact tt hC h r hi hk hc ha hb ht hd hh hbd
theorem HQ {L:List Int} {B:List Bool}(h:cK L B) {r:Nat × Bool} {n:Nat} {q:Int × (Nat × Bool)}(hq:bZ B n r=q) {z:Int}(hz:z=(n:Nat)) (hn:n≤32) {HS:aj} {i k:Nat}(hi:HS[i]? = some (br k L B r.1 r.2)) (hk:HS[k]? = some (aM L)) (hd:i≠k) {HS':aj}(hh:HS.set i (br k L B q.2.1 q.2.2)=HS') (hbd:Nat.blt HS'.length Mem.bound=true) :
 aH.Sound Tryz.prog ⟨65,[.one (.ptr i 0),.one (.int .i64 z)],HS,.one (.int .u64 q.1),HS',[i]⟩:=by
 subst hq
 exact qO h r hz hn hi hk hd hh hbd
theorem z6 {L : List Int} {B:List Bool}(hB:cK L B) (S:bC) (r:Nat × Bool) (mb:Int) (hD:gz S.cols S.rows) (hT:ch S.M) (hmb:0≤mb∧mb<S.cols*S.rows) (hq : -1000000≤S.qp∧S.qp≤1000000) :
 bn Tryz.prog 34 [.one (.ptr 2 0),.one (.ptr 0 0),.one (.int .i64 mb)] [br 1 L B r.1 r.2,aM L,du (S),bM 4 8 12,ax 5 6 7 cM,aU cM,aW cM,aV cM,ax 9 10 11 cZ,aU cZ,aW cZ,aV cZ,ax 13 14 15 cP,aU cP,aW cP,aV cP,cg 17 (S).cols (S).rows,.map (bg (S).M),.cells [.int .i64 (S).cols,.int .i64 (S).rows,.map 19,.map 20,.map 21] 171 false false,.map (ah (S).A),.map (ah (S).B),.map (ah (S).C)] (.agg (fw (dD S B mb r).1.m (dD S B mb r).2)) [br 1 L B (dD S B mb r).1.r.1 (dD S B mb r).1.r.2,aM L,du ((dD S B mb r).1.S),bM 4 8 12,ax 5 6 7 cM,aU cM,aW cM,aV cM,ax 9 10 11 cZ,aU cZ,aW cZ,aV cZ,ax 13 14 15 cP,aU cP,aW cP,aV cP,cg 17 ((dD S B mb r).1.S).cols ((dD S B mb r).1.S).rows,.map (bg ((dD S B mb r).1.S).M),.cells [.int .i64 ((dD S B mb r).1.S).cols,.int .i64 ((dD S B mb r).1.S).rows,.map 19,.map 20,.map 21] 171 false false,.map (ah ((dD S B mb r).1.S).A),.map (ah ((dD S B mb r).1.S).B),.map (ah ((dD S B mb r).1.S).C)]:=by
 obtain⟨y,hy⟩:∃ y,dD S B mb r=y:=⟨_,rfl⟩
 rw [hy]
 have hkr:=BT S B r
 obtain⟨b,hin⟩:∃ b,S.inter=b:=⟨_,rfl⟩
 have hl2:=qT hin
 refine cO Tryz.func34 ?_
 repeat' (first
  |(refine qz ?_;first
   |refine ld (hc:=hl2) ?_
   |refine qi (zs:=fw kr pv) (hz:=yq) ?_
   |refine b0 (zs:=fw kr pv) (hz:=yq) ?_
   |refine jb (cs:=fw kr pv) ?_ (hs1:=by rw [b9]) (hs2:=by rw [b9]))
  |refine WX.Hm 2 (σ:=Int × (Nat × Bool)) (fun s=>[(0,.one (.ptr 2 0)),(1,.one (.ptr 0 0)),(2,.one (.int .i64 mb)),(6,.one (.ptr 22 0)),(7,.one (.ptr 23 0))]) (fun s=>[br 1 L B s.2.1 s.2.2,aM L,du (S),bM 4 8 12,ax 5 6 7 cM,aU cM,aW cM,aV cM,ax 9 10 11 cZ,aU cZ,aW cZ,aV cZ,ax 13 14 15 cP,aU cP,aW cP,aV cP,cg 17 (S).cols (S).rows,.map (bg (S).M),.cells [.int .i64 (S).cols,.int .i64 (S).rows,.map 19,.map 20,.map 21] 171 false false,.map (ah (S).A),.map (ah (S).B),.map (ah (S).C),.cells (fw kr pv) 56 false false,.cells (fw {kr with kind:=s.1} pv) 56 false false]) (fun s=>jS S B r=s) (fun s _=>j5) ?_ ?_|refine zz ?_|refine zx (fun _=>?_) (fun _=>?_)|fail)
 · cases b
   · have e0:jS S B r=(if dH B r=true then 4 else 3,bY B r):=if_neg (by rw [hin];decide)
     repeat' (first
      |(refine qz ?_;first
       |refine tn (fun gb=>?_) (fun gb=>?_) (hi:=by exact qQ hB r rfl rfl (by decide) nL rfl)
       |refine st ?_ (hle:=by rw [b9];omega) (hv:=zu _ _ _))
      |refine zz ?_|refine zx (fun _=>?_) (fun _=>?_)|fail)
     · rename_i gb
       rw [if_pos gb]at e0
       first|exact⟨(4,bY B r),_,e0,(bh [0,1,2,3,4,5,6,7,8,9,10,11,12,13,14,15,16,17,18,19,20,21,22,23])⟩|exact⟨rfl,(4,bY B r),_,e0,(bh [0,1,2,3,4,5,6,7,8,9,10,11,12,13,14,15,16,17,18,19,20,21,22,23])⟩
     · rename_i gb
       rw [if_neg (by rw [gb];decide)]at e0
       first|exact⟨(3,bY B r),_,e0,(bh [0,1,2,3,4,5,6,7,8,9,10,11,12,13,14,15,16,17,18,19,20,21,22,23])⟩|exact⟨rfl,(3,bY B r),_,e0,(bh [0,1,2,3,4,5,6,7,8,9,10,11,12,13,14,15,16,17,18,19,20,21,22,23])⟩
   · have e0:jS S B r=kS cM B r:=if_pos hin
     rw [e0]at hkr
     repeat' (first
      |(refine qz ?_;first
       |refine cl ?_ (hi:=by exact tt yO hB r (i:=0) (k:=1) (c:=4) (a:=5) (b:=6) (t:=7) rfl rfl rfl rfl rfl rfl (by decide) nL rfl)
       |refine st ?_ (hle:=by rw [b9];omega) (hv:=zu _ _ _))
      |refine zz ?_|refine zx (fun _=>?_) (fun _=>?_)|fail)
     first|exact⟨kS cM B r,_,e0,(bh [0,1,2,3,4,5,6,7,8,9,10,11,12,13,14,15,16,17,18,19,20,21,22,23])⟩|exact⟨rfl,kS cM B r,_,e0,(bh [0,1,2,3,4,5,6,7,8,9,10,11,12,13,14,15,16,17,18,19,20,21,22,23])⟩
 · intro s hs
   rw [hs]at hkr
   have hn:=mF B 2 s.2
   have hst:=Dg (bZ B 2 s.2).1
   refine WX.Hm 7 (σ:=Int × (Nat × Bool)) (fun x=>[(0,.one (.ptr 2 0)),(1,.one (.ptr 0 0)),(2,.one (.int .i64 mb)),(6,.one (.ptr 22 0)),(7,.one (.ptr 23 0))]) (fun x=>[br 1 L B x.2.1 x.2.2,aM L,du (uy S x.1),bM 4 8 12,ax 5 6 7 cM,aU cM,aW cM,aV cM,ax 9 10 11 cZ,aU cZ,aW cZ,aV cZ,ax 13 14 15 cP,aU cP,aW cP,aV cP,cg 17 (uy S x.1).cols (uy S x.1).rows,.map (bg (uy S x.1).M),.cells [.int .i64 (uy S x.1).cols,.int .i64 (uy S x.1).rows,.map 19,.map 20,.map 21] 171 false false,.map (ah (uy S x.1).A),.map (ah (uy S x.1).B),.map (ah (uy S x.1).C),.cells (fw kr pv) 56 false false,.cells (fw {kr with kind:=s.1} pv) 56 false false]) (fun x=>Dm S B s=x) (fun x _=>j5) ?_ ?_
   · by_cases h4:s.1=4
     · by_cases hb:S.qp+pB (bZ B 2 s.2).1<1∨31<S.qp+pB (bZ B 2 s.2).1
       · have e0:Dm S B s=(1,((bZ B 2 s.2).2.1,true)):=by unfold Dm;rw [if_pos h4,if_pos hb]
         repeat' (first
          |(refine qz ?_;first
           |refine ld (c := .int .u8 s.1) ?_ (hc:=fm _ _)
           |refine cl ?_ (hi:=by exact ou rfl)
           |refine cl ?_ (hi:=by exact qO hB s.2 (n:=2) rfl (by decide) rfl rfl (by decide) nL rfl)
           |refine an 2 ?_
           |refine pS ?_ (hc:=Df hn)
           |refine cl ?_ (hi:=by exact gj (p:=(bZ B 2 s.2).2.1) (e:=(bZ B 2 s.2).2.2) rfl rfl (by decide) nL rfl))
          |refine zz ?_|refine zx (fun _=>?_) (fun _=>?_)|fail)
         all_goals first|exact⟨(1,((bZ B 2 s.2).2.1,true)),_,e0,(bh [0,1,2,3,4,5,6,7,8,9,10,11,12,13,14,15,16,17,18,19,20,21,22,23])⟩|exact⟨rfl,(1,((bZ B 2 s.2).2.1,true)),_,e0,(bh [0,1,2,3,4,5,6,7,8,9,10,11,12,13,14,15,16,17,18,19,20,21,22,23])⟩
       · have e0:Dm S B s=(S.qp+pB (bZ B 2 s.2).1,(bZ B 2 s.2).2):=by unfold Dm;rw [if_pos h4,if_neg hb]
         repeat' (first
          |(refine qz ?_;first
           |refine ld (c := .int .u8 s.1) ?_ (hc:=fm _ _)
           |refine cl ?_ (hi:=by exact ou rfl)
           |refine cl ?_ (hi:=by exact qO hB s.2 (n:=2) rfl (by decide) rfl rfl (by decide) nL rfl)
           |refine an 2 ?_
           |refine pS ?_ (hc:=Df hn))
          |refine zz ?_|refine zx (fun _=>?_) (fun _=>?_)|fail)
         all_goals first|exact⟨(S.qp+pB (bZ B 2 s.2).1,(bZ B 2 s.2).2),_,e0,(bh [0,1,2,3,4,5,6,7,8,9,10,11,12,13,14,15,16,17,18,19,20,21,22,23])⟩|exact⟨rfl,(S.qp+pB (bZ B 2 s.2).1,(bZ B 2 s.2).2),_,e0,(bh [0,1,2,3,4,5,6,7,8,9,10,11,12,13,14,15,16,17,18,19,20,21,22,23])⟩
     · have e0:Dm S B s=(S.qp,s.2):=if_neg h4
       repeat' (first
        |(refine qz ?_;first
         |refine ld (c := .int .u8 s.1) ?_ (hc:=fm _ _))
        |refine zz ?_|refine zx (fun _=>?_) (fun _=>?_)|fail)
       all_goals first|exact⟨(S.qp,s.2),_,e0,(bh [0,1,2,3,4,5,6,7,8,9,10,11,12,13,14,15,16,17,18,19,20,21,22,23])⟩|exact⟨rfl,(S.qp,s.2),_,e0,(bh [0,1,2,3,4,5,6,7,8,9,10,11,12,13,14,15,16,17,18,19,20,21,22,23])⟩
   · intro x hx
     obtain⟨X,hX⟩:∃ X:jc,X=⟨{kr with kind:=s.1,qp:=x.1},uy S x.1,x.2⟩:=⟨_,rfl⟩
     have hH:iv S B r=X:=by rw [hX];unfold iv;rw [hs,hx]
     have hF:Nt B mb X=y:=by rw [←hH];exact hy
     have hDX:gz X.S.cols X.S.rows:=by rw [hX];exact hD
     have hmX:0≤mb∧mb<X.S.cols*X.S.rows:=by rw [hX];exact hmb
     have hTX:ch X.S.M:=by rw [hX];exact hT
     have hkX:X.m.kind=s.1:=by rw [hX]
     have hvq:(fw {kr with kind:=s.1} pv).set 1 (.int .i64 x.1)=fw X.m pv:=by rw [hX];exact MP _ _ _
     have hS0:uy S x.1=X.S:=by rw [hX]
     have hr0:x.2=X.r:=by rw [hX]
     rw [hS0,hr0]
     have hl3:(H3 X.S)[5]? = some (.int .i64 x.1):=by rw [hX];rfl
     have hqX : -1000000≤X.m.qp∧X.m.qp≤1000000:=by rw [hX];show -1000000≤x.1∧x.1≤1000000;rw [←hx];exact Dn S B s hq
     clear hX
     by_cases h0:s.1=0
     · have e1:Nt B mb X=(ee mb X,pv):=if_pos (hkX.trans h0)
       rw [←hF,e1]
       repeat' (first
        |(refine qz ?_;first
         |refine ld ?_ (hc:=hl3)
         |refine st ?_ (hle:=by rw [b9];omega) (hv:=hvq)
         |refine ld (c := .int .u8 s.1) ?_ (hc:=by rw [←hkX];exact fm _ _)
         |refine rH (cs:=mC X.m) ?_ (hle:=by rw [b9];omega) (hc:=sU _ _)
         |refine cl ?_ (hi:=by exact zO (S:=X.S) (mb:=mb) (m:=X.m) hDX hmX rfl rfl rfl nA rfl)
         |refine fW ?_ (hle:=by rw [b9])
         |refine jb (cs:=fw X.m pv) ?_ (hs1:=by rw [b9]) (hs2:=by rw [b9]))
        |refine zz ?_|refine zx (fun _=>?_) (fun _=>?_)|fail)
       show aC _ _ _ _ _ _ _ _;refine kV [0,1,2,3,4,5,6,7,8,9,10,11,12,13,14,15,16,17,18,19,20,21] ?_
       rfl
     · have e1 : Nt B mb X=z9 B (gY B mb (ee mb (fh B mb X))):=if_neg (by rw [hkX];exact h0)
       repeat' (first
        |(refine qz ?_;first
         |refine ld ?_ (hc:=hl3)
         |refine st ?_ (hle:=by rw [b9];omega) (hv:=hvq)
         |refine ld (c := .int .u8 s.1) ?_ (hc:=by rw [←hkX];exact fm _ _))
        |refine WX.xz 13 (σ:=jc) (fun z=>[(0,.one (.ptr 2 0)),(1,.one (.ptr 0 0)),(2,.one (.int .i64 mb)),(6,.one (.ptr 22 0)),(7,.one (.ptr 23 0))]) (fun z=>[br 1 L B z.r.1 z.r.2,aM L,du (z.S),bM 4 8 12,ax 5 6 7 cM,aU cM,aW cM,aV cM,ax 9 10 11 cZ,aU cZ,aW cZ,aV cZ,ax 13 14 15 cP,aU cP,aW cP,aV cP,cg 17 (z.S).cols (z.S).rows,.map (bg (z.S).M),.cells [.int .i64 (z.S).cols,.int .i64 (z.S).rows,.map 19,.map 20,.map 21] 171 false false,.map (ah (z.S).A),.map (ah (z.S).B),.map (ah (z.S).C),.cells (fw kr pv) 56 false false,.cells (fw z.m pv) 56 false false]) (fun z=>fh B mb X=z) (fun z _=>j5) ?_ ?_|refine zz ?_|refine zx (fun _=>?_) (fun _=>?_)|fail)
       · intro _
         by_cases h1:s.1=1
         · obtain⟨t,ht⟩:∃ t,pE B (cf X.S.M X.S.cols X.S.rows mb 0) X.r=t:=⟨_,rfl⟩
           have e2:=K9 (hkX.trans h1) ht
           repeat' (first
            |(refine qz ?_;first
             |refine ld (c := .int .u8 s.1) ?_ (hc:=by rw [←hkX];exact fm _ _)
             |refine cl ?_ (hi:=by exact fz (M:=X.S.M) (k:=0) hTX hDX hmX (by decide) (i:=16) (j:=17) rfl rfl (by decide) rfl)
             |refine cl ?_ (hi:=by exact ox hB (r:=X.r) ht (cV hTX) rfl rfl (by decide) nL rfl)
             |refine NU (off:=2) (s:=4) ?_ (hs2:=by rw [b9];omega) (hv:=MQ X.m pv t.1))
            |refine zz ?_|refine zx (fun _=>?_) (fun _=>?_)|fail)
           first|exact⟨_,_,e2,(bh [0,1,2,3,4,5,6,7,8,9,10,11,12,13,14,15,16,17,18,19,20,21,22,23])⟩|exact⟨rfl,_,_,e2,(bh [0,1,2,3,4,5,6,7,8,9,10,11,12,13,14,15,16,17,18,19,20,21,22,23])⟩
         · by_cases h2:s.1=2
           · obtain⟨uu0,e0⟩:∃ t,pE B (cf X.S.M X.S.cols X.S.rows mb 0) X.r=t:=⟨_,rfl⟩
             obtain⟨uu1,e1⟩:∃ t,pE B (cf (V1 X mb uu0) X.S.cols X.S.rows mb 1) uu0.2=t:=⟨_,rfl⟩
             obtain⟨uu2,e2⟩:∃ t,pE B (cf (V2 X mb uu0 uu1) X.S.cols X.S.rows mb 2) uu1.2=t:=⟨_,rfl⟩
             obtain⟨uu3,e3⟩:∃ t,pE B (cf (V3 X mb uu0 uu1 uu2) X.S.cols X.S.rows mb 3) uu2.2=t:=⟨_,rfl⟩
             have ez:=K_ (hkX.trans h2) e0 e1 e2 e3
             have T0:=hTX
             have T1:ch (V1 X mb uu0):=bH T0 (e0 ▸ mf _ _ _)
             have T2:ch (V2 X mb uu0 uu1):=bH T1 (e1 ▸ mf _ _ _)
             have T3:ch (V3 X mb uu0 uu1 uu2):=bH T2 (e2 ▸ mf _ _ _)
             repeat' (first
              |(refine qz ?_;first
               |refine ld (c := .int .u8 s.1) ?_ (hc:=by rw [←hkX];exact fm _ _)
               |refine cl ?_ (hi:=by exact fz (M:=X.S.M) (k:=0) T0 hDX hmX (by decide) (i:=16) (j:=17) rfl rfl (by decide) rfl)
               |refine cl ?_ (hi:=by exact ox hB (r:=X.r) e0 (cV T0) rfl rfl (by decide) nL rfl)
               |refine st ?_ (hle:=by rw [b9];omega) (hv:=CV X.m pv (k:=0) (by decide) uu0.1)
               |refine ld ?_ (hc:=qK X.m pv (k:=0) (by decide) uu0.1)
               |refine cl ?_ (hi:=by exact dh (M:=X.S.M) (k:=0) (v:=uu0.1) hDX hmX (by decide) (i:=16) (j:=17) rfl rfl (by decide) nA rfl)
               |refine cl ?_ (hi:=by exact fz (M:=V1 X mb uu0) (k:=1) T1 hDX hmX (by decide) (i:=16) (j:=17) rfl rfl (by decide) rfl)
               |refine cl ?_ (hi:=by exact ox hB (r:=uu0.2) e1 (cV T1) rfl rfl (by decide) nL rfl)
               |refine st ?_ (hle:=by rw [b9];omega) (hv:=CV (X1 X uu0) pv (k:=1) (by decide) uu1.1)
               |refine ld ?_ (hc:=qK (X1 X uu0) pv (k:=1) (by decide) uu1.1)
               |refine cl ?_ (hi:=by exact dh (M:=V1 X mb uu0) (k:=1) (v:=uu1.1) hDX hmX (by decide) (i:=16) (j:=17) rfl rfl (by decide) nA rfl)
               |refine cl ?_ (hi:=by exact fz (M:=V2 X mb uu0 uu1) (k:=2) T2 hDX hmX (by decide) (i:=16) (j:=17) rfl rfl (by decide) rfl)
               |refine cl ?_ (hi:=by exact ox hB (r:=uu1.2) e2 (cV T2) rfl rfl (by decide) nL rfl)
               |refine st ?_ (hle:=by rw [b9];omega) (hv:=CV (X2 X uu0 uu1) pv (k:=2) (by decide) uu2.1)
               |refine ld ?_ (hc:=qK (X2 X uu0 uu1) pv (k:=2) (by decide) uu2.1)
               |refine cl ?_ (hi:=by exact dh (M:=V2 X mb uu0 uu1) (k:=2) (v:=uu2.1) hDX hmX (by decide) (i:=16) (j:=17) rfl rfl (by decide) nA rfl)
               |refine cl ?_ (hi:=by exact fz (M:=V3 X mb uu0 uu1 uu2) (k:=3) T3 hDX hmX (by decide) (i:=16) (j:=17) rfl rfl (by decide) rfl)
               |refine cl ?_ (hi:=by exact ox hB (r:=uu2.2) e3 (cV T3) rfl rfl (by decide) nL rfl)
               |refine st ?_ (hle:=by rw [b9];omega) (hv:=CV (X3 X uu0 uu1 uu2) pv (k:=3) (by decide) uu3.1)
               |refine ld ?_ (hc:=qK (X3 X uu0 uu1 uu2) pv (k:=3) (by decide) uu3.1)
               |refine cl ?_ (hi:=by exact dh (M:=V3 X mb uu0 uu1 uu2) (k:=3) (v:=uu3.1) hDX hmX (by decide) (i:=16) (j:=17) rfl rfl (by decide) nA rfl))
              |refine WX.loop ?_|refine WX.round ?_|refine zz ?_|refine zx (fun _=>?_) (fun _=>?_)|fail)
             first|exact⟨_,_,ez,(bh [0,1,2,3,4,5,6,7,8,9,10,11,12,13,14,15,16,17,18,19,20,21,22,23])⟩|exact⟨rfl,_,_,ez,(bh [0,1,2,3,4,5,6,7,8,9,10,11,12,13,14,15,16,17,18,19,20,21,22,23])⟩
           · have ez:=Dk (B:=B) (mb:=mb) (show X.m.kind≠1 from fun h=>h1 (hkX.symm.trans h)) (show X.m.kind≠2 from fun h=>h2 (hkX.symm.trans h))
             repeat' (first
              |(refine qz ?_;first
               |refine ld (c := .int .u8 s.1) ?_ (hc:=by rw [←hkX];exact fm _ _)
               |refine cl ?_ (hi:=by exact qQ hB X.r rfl rfl (by decide) nL rfl)
               |refine st ?_ (hle:=by rw [b9];omega) (hv:=Hr _ _ _))
              |refine zz ?_|refine zx (fun _=>?_) (fun _=>?_)|fail)
             first|exact⟨_,_,ez,(bh [0,1,2,3,4,5,6,7,8,9,10,11,12,13,14,15,16,17,18,19,20,21,22,23])⟩|exact⟨rfl,_,_,ez,(bh [0,1,2,3,4,5,6,7,8,9,10,11,12,13,14,15,16,17,18,19,20,21,22,23])⟩
       · intro z hz
         have hz0:=Fi B mb X
         rw [hz]at hz0
         have hDz:gz z.S.cols z.S.rows:=by rw [hz0.cols,hz0.rows];exact hDX
         have hmz:0≤mb∧mb<z.S.cols*z.S.rows:=by rw [hz0.cols,hz0.rows];exact hmX
         have hqz : -1000000≤z.m.qp∧z.m.qp≤1000000:=by rw [hz0.qp];exact hqX
         repeat' (first
          |(refine qz ?_;first
           |refine rH (cs:=mC z.m) ?_ (hle:=by rw [b9];omega) (hc:=sU _ _))
          |refine zz ?_|refine zx (fun _=>?_) (fun _=>?_)|fail)
         refine cl ?_ (hi:=by exact zO (S:=z.S) (mb:=mb) (m:=z.m) (r:=z.r) hDz hmz rfl rfl rfl nA rfl)
         repeat' (first|refine WX.Hm 29 (σ:=jc) (fun w=>[(0,.one (.ptr 2 0)),(1,.one (.ptr 0 0)),(2,.one (.int .i64 mb)),(6,.one (.ptr 22 0)),(7,.one (.ptr 23 0))]) (fun w=>[br 1 L B w.r.1 w.r.2,aM L,du (w.S),bM 4 8 12,ax 5 6 7 cM,aU cM,aW cM,aV cM,ax 9 10 11 cZ,aU cZ,aW cZ,aV cZ,ax 13 14 15 cP,aU cP,aW cP,aV cP,cg 17 (w.S).cols (w.S).rows,.map (bg (w.S).M),.cells [.int .i64 (w.S).cols,.int .i64 (w.S).rows,.map 19,.map 20,.map 21] 171 false false,.map (ah (w.S).A),.map (ah (w.S).B),.map (ah (w.S).C),.cells (fw kr pv) 56 false false,.cells (fw w.m pv) 56 false false]) (fun w=>gY B mb (ee mb z)=w) (fun w _=>j5) ?_ ?_|refine zz ?_|refine zx (fun _=>?_) (fun _=>?_)|fail)
         · repeat' (first
            |(refine qz ?_;first
             |refine rH (cs:=mC z.m) ?_ (hle:=by rw [b9];omega) (hc:=sU _ _)
             |refine tn (fun ga=>?_) (fun ga=>?_) (hi:=by exact nN (m:=z.m) rfl)
             |refine cl ?_ (hi:=by exact D_ hB (x:=ee mb z) (hs:=pv) (mb:=mb) hDz hmz hqz rfl rfl rfl rfl nA rfl))
            |refine zz ?_|refine zx (fun _=>?_) (fun _=>?_)|fail)
           · rename_i ga
             have e3:gY B mb (ee mb z)=iH B mb (ee mb z) 6:=if_pos ga
             first|exact⟨iH B mb (ee mb z) 6,_,e3,(bh [0,1,2,3,4,5,6,7,8,9,10,11,12,13,14,15,16,17,18,19,20,21,22,23])⟩|exact⟨rfl,iH B mb (ee mb z) 6,_,e3,(bh [0,1,2,3,4,5,6,7,8,9,10,11,12,13,14,15,16,17,18,19,20,21,22,23])⟩
           · rename_i ga
             have e3:gY B mb (ee mb z)=ee mb z:=if_neg (by show¬alone z.m=true;rw [ga];decide)
             first|exact⟨ee mb z,_,e3,(bh [0,1,2,3,4,5,6,7,8,9,10,11,12,13,14,15,16,17,18,19,20,21,22,23])⟩|exact⟨rfl,ee mb z,_,e3,(bh [0,1,2,3,4,5,6,7,8,9,10,11,12,13,14,15,16,17,18,19,20,21,22,23])⟩
         · intro w hw
           have e4:y=z9 B w:=by rw [←hF,e1,hz,hw]
           have hp:0≤(kS cP B w.r).1∧(kS cP B w.r).1≤15:=nT (K:=15) (by decide) Md B (cP.T.length/2) 0 w.r
           have hc:=mF B 2 (kS cP B w.r).2
           have e5:z9 B w=(⟨w.m,w.S,(bZ B 2 (kS cP B w.r).2).2⟩,kO (kS cP B w.r).1 (bZ B 2 (kS cP B w.r).2).1):=rfl
           obtain⟨p,hpp⟩:∃ p,kS cP B w.r=p:=⟨_,rfl⟩
           rw [hpp]at hp hc e5
           obtain⟨c,hcc⟩:∃ c,bZ B 2 p.2=c:=⟨_,rfl⟩
           rw [hcc]at hc e5
           repeat' (first
            |(refine qz ?_;first
             |refine cl ?_ (hi:=by exact Gs Cz hB hpp (i:=0) (k:=1) (c:=12) (a:=13) (b:=14) (t:=15) rfl rfl rfl rfl rfl rfl (by decide) nL rfl)
             |refine cl ?_ (hi:=by exact HQ hB hcc rfl (by decide) rfl rfl (by decide) nL rfl)
             |refine st ?_ (hle:=by simp only [List.length_set,b9];omega) (hv:=rfl)
             |refine fW ?_ (hle:=by simp only [List.length_set,b9])
             |refine jb ?_ (hs1:=by simp only [List.length_set,b9]) (hs2:=by rw [b9])
             |refine cN (fun bb hbb=>?_))
            |refine WX.loop ?_|refine WX.round ?_|refine zz ?_|refine zx (fun _=>?_) (fun _=>?_)|fail)
           rw [e4,e5]
           rename_i b0 g0 b1 g1 b2 g2 b3 g3 b4 g4
           have h0':kO p.1 c.1 0=b0:=g0
           have h1':kO p.1 c.1 1=b1:=g1
           have h2':kO p.1 c.1 2=b2:=g2
           have h3':kO p.1 c.1 3=b3:=(Pv hp).trans g3
           have h4':kO p.1 c.1 4=b4:=g4
           have h5':kO p.1 c.1 5=bb:=(Pw hc).trans hbb
           rw [Kp w.m (kO p.1 c.1) h0' h1' h2' h3' h4' h5']
           show aC _ _ _ _ _ _ _ _;refine kV [0,1,2,3,4,5,6,7,8,9,10,11,12,13,14,15,16,17,18,19,20,21] ?_
           all_goals rfl
end Go.Proofs.YtagpkhindehcbaaGreat
namespace Go.Proofs.YtagpkhindehcbaaGreat
open Go.Xm
variable [az]
instance Pr (m:Mb) (h:Nat→Bool):bz (.agg (fw m h)):=e_ (ub m h)
theorem Pa {L:List Int} {B:List Bool}(hB:cK L B) {S:bC} {r:Nat × Bool} {mb:Int}(hD:gz S.cols S.rows) (hT:ch S.M) (hmb:0≤mb∧mb<S.cols*S.rows) (hq : -1000000≤S.qp∧S.qp≤1000000) {y:jc × (Nat→Bool)}(hy:dD S B mb r=y)
 {HS:aj}(hi:HS[0]? = some (br 1 L B r.1 r.2)) (hk:HS[1]? = some (aM L)) (hS:(HS.drop 2).take 20=dI S) {HS':aj}(hh:bG HS (0::1::bL) (br 1 L B y.1.r.1 y.1.r.2::aM L::dI y.1.S)=HS') (hbd:Nat.blt HS'.length Mem.bound=true) :
 aH.Sound Tryz.prog ⟨34,[.one (.ptr 2 0),.one (.ptr 0 0),.one (.int .i64 mb)],HS,.agg (fw y.1.m y.2),HS',0::1::bL⟩:=by
 subst hy
 have hc:=z6 hB S r mb hD hT hmb hq
 obtain⟨y,hy⟩:∃ y,dD S B mb r=y:=⟨_,rfl⟩
 rw [hy]at hc hh ⊢
 have hc':bn Tryz.prog 34 [.one (.ptr 2 0),.one (.ptr 0 0),.one (.int .i64 mb)] (br 1 L B r.1 r.2::aM L::(dI S++[])) (.agg (fw y.1.m y.2)) (br 1 L B y.1.r.1 y.1.r.2::aM L::(dI y.1.S++[])):=by
  rw [List.append_nil,List.append_nil];exact hc
 have h:=BF (S:=S) (S':=y.1.S) (l:=[]) (l':=[]) (args':=[.one (.ptr 2 0),.one (.ptr 0 0),.one (.int .i64 mb)]) [] hc' hi hk hS (by decide) .nil rfl rfl .nil .nil .nil rfl (by decide) (.cons (by show 2<22;omega) (.cons (by show 0<22;omega) (.flat .nil))) (.cons rfl (.cons rfl (.flat .nil))) (HS':=HS') (by rw [List.append_nil];exact hh) hbd
 rw [List.append_nil]at h
 exact h
structure td (x:jc) (c r:Int):Prop where
 cols:x.S.cols=c
 rows:x.S.rows=r
 tiny:ch x.S.M
 qp : -1000000≤x.S.qp∧x.S.qp≤1000000
 v:∀ k,bu (x.m.v k)
theorem Dj:bu (0,0):=⟨by unfold fD;omega,by unfold fD;omega⟩
theorem Fk {S:bC} {B:List Bool} {r:Nat × Bool}(hT:ch S.M) (hq : -1000000≤S.qp∧S.qp≤1000000):td (iv S B r) S.cols S.rows:=
 ⟨rfl,rfl,hT,Dn S B _ hq,fun _=>Dj⟩
theorem xR {x:jc} {c r:Int}(h:td x c r) (B:List Bool) (mb:Int) (k:Nat):td (Dr B mb x k) c r:=
 ⟨h.cols,h.rows,bH h.tiny (mf _ _ _),h.qp,fun j=>by
  show bu (if j=k then _ else x.m.v j)
  split
  · exact mf _ _ _
  · exact h.v j⟩
theorem Fj {x:jc} {c r:Int}(h:td x c r) (B:List Bool) (mb:Int):td (fh B mb x) c r:=by
 unfold fh
 split
 · exact⟨h.cols,h.rows,h.tiny,h.qp,fun j=>mf _ _ _⟩
 · split
   · exact xR (xR (xR (xR h B mb 0) B mb 1) B mb 2) B mb 3
   · exact⟨h.cols,h.rows,h.tiny,h.qp,h.v⟩
theorem wx {x:jc} {c r:Int}(h:td x c r) (mb:Int):td (ee mb x) c r:=
 ⟨h.cols,h.rows,eJ h.tiny h.v,h.qp,h.v⟩
theorem IH {x:jc} {c r:Int}(h:td x c r) (B:List Bool) (mb:Int):∀ k,td (iH B mb x k) c r:=by
 intro k
 induction k with
 | zero=>exact h
 | succ k ih=>exact⟨ih.cols,ih.rows,ih.tiny,ih.qp,ih.v⟩
theorem PQ {S:bC} {B:List Bool} {r:Nat × Bool} {mb:Int}(hT:ch S.M) (hq : -1000000≤S.qp∧S.qp≤1000000):td (dD S B mb r).1 S.cols S.rows:=by
 have h:=Fk (B:=B) (r:=r) hT hq
 unfold dD Nt
 split
 · exact wx h mb
 · have h2:=wx (Fj h B mb) mb
   have h3:td (gY B mb (ee mb (fh B mb (iv S B r)))) S.cols S.rows:=by
    unfold gY
    split
    · exact IH h2 B mb 6
    · exact h2
   exact⟨h3.cols,h3.rows,h3.tiny,h3.qp,h3.v⟩
end Go.Proofs.YtagpkhindehcbaaGreat
namespace Go.Proofs.YtagpkhindehcbaaGreat
open Go.Xm
variable [az]
structure Hd where
 cols:Int
 rows:Int
 w:Bool
 a:Nat→Int
 b:Nat→Int
def ek (h:Hd):List XC := .bool h.w::(ti .u8 64 h.a++ti .u8 64 h.b)
def gO (h:Hd):List XC := .int .i64 h.cols :: .int .i64 h.rows::ek h
theorem i5 (h:Hd):(ek h).length=129:=by simp [ek,aF]
theorem bE (h:Hd):(gO h).length=131:=by simp [gO,i5]
theorem o4 (h:Hd):(ek h).all XC.shut=true:=by simp [ek,ti,XC.shut]
theorem iQ (h:Hd):(gO h).all XC.shut=true:=by simp [gO,ek,ti,XC.shut]
theorem Iu (h:Hd) {i:Nat}(hi:i<64):(ek h)[1+i]? = some (.int .u8 (h.a i)):=by
 unfold ek
 rw [Nat.add_comm,List.getElem?_cons_succ,List.getElem?_append_left (by rw [aF];exact hi),fg hi]
theorem Iv (h:Hd) {i:Nat}(hi:i<64):(ek h)[65+i]? = some (.int .u8 (h.b i)):=by
 unfold ek
 rw [show 65+i=(64+i)+1 by omega,List.getElem?_cons_succ,List.getElem?_append_right (by rw [aF];omega),aF,show 64+i-64=i by omega,fg hi]
instance J3 (h:Hd):bz (.agg (gO h)):=e_ (iQ h)
instance Ot (h:Hd) (e:TypeId) (a b:Bool):cI (.cells (ek h) e a b):=iP (o4 h)
instance O1 (h:Hd) (e:TypeId) (a b:Bool):cI (.cells (gO h) e a b):=iP (iQ h)
structure s9 (h:Hd):Prop where
 dims:gz h.cols h.rows
 yes:h.w=true→∀ i,i<64→8≤h.a i∧8≤h.b i
 no:h.w=false→∀ i,i<64→h.a i=0∧h.b i=0
theorem BQ (h:Hd) (ho:s9 h):bn Tryz.prog 46 [.agg (ek h)] [] (.one (.int .i64 0)) []:=by
 obtain⟨w,hw⟩:∃ w,h.w=w:=⟨_,rfl⟩
 have h0:(ek h)[0]? = some (.bool w):=by rw [←hw];rfl
 refine cO Tryz.func46 ?_
 repeat' (first|refine zz ?_|refine zx (fun _=>?_) (fun _=>?_)|fail)
 refine WX.cS (σ:=Nat) (fun j=>[(4,.one (.int .i64 (j:Nat))),(1,.one (.ptr 0 0))]) (fun _=>[.cells (ek h) 24 false false]) (fun j=>j≤64) (fun j=>64-j) 0 (by omega) (fun s _=>j5) (bh [0]) ?_
 intro j hj ih
 by_cases hj64:j<64
 · have ga:=Iu h hj64
   have gb:=Iv h hj64
   cases w
   · have hn:=ho.no hw j hj64
     repeat' (first
      |(refine qz ?_;first
       |refine ld (hc:=h0) ?_
       |refine ld (hc:=ga) ?_
       |refine ld (hc:=gb) ?_)
      |refine zz ?_|refine zx (fun _=>?_) (fun _=>?_)|fail)
     refine ih (j+1) _ _ _ (bh [0]) (by omega) (by omega)
   · have hn:=ho.yes hw j hj64
     repeat' (first
      |(refine qz ?_;first
       |refine ld (hc:=h0) ?_
       |refine ld (hc:=ga) ?_
       |refine ld (hc:=gb) ?_)
      |refine zz ?_|refine zx (fun _=>?_) (fun _=>?_)|fail)
     refine ih (j+1) _ _ _ (bh [0]) (by omega) (by omega)
 · repeat' (first|refine zz ?_|refine zx (fun _=>?_) (fun _=>?_)|fail)
   show aC _ _ _ _ _ _ _ _;refine kV [] ?_
   rfl
theorem Fc {h:Hd}(ho:s9 h) {HS:aj}(hb:Nat.blt HS.length Mem.bound=true):aH.Sound Tryz.prog ⟨46,[.agg (ek h)],HS,.one (.int .i64 0),HS,[]⟩:=
 aA (BQ h ho) (by simp only [List.all_cons,List.all_nil,Bool.and_true];exact o4 h) rfl hb
theorem CL (h:Hd):((gO h).drop 2).take 129=ek h:=by
 show(ek h).take 129=_
 rw [List.take_of_length_le (by rw [i5];omega)]
theorem Bf (h:Hd) (ho:s9 h):bn Tryz.prog 25 [.agg (gO h)] [] (.one (.int .i64 0)) []:=by
 have h1:=ho.dims.c0
 have h2:=ho.dims.c1
 have h3:=ho.dims.r0
 have h4:=ho.dims.r1
 refine cO Tryz.func25 ?_
 repeat' (first
  |(refine qz ?_;first
   |refine rH (cs:=ek h) ?_ (hle:=by rw [bE];decide) (hc:=CL h)
   |refine cl ?_ (hi:=by exact Fc ho rfl))
  |refine zz ?_|refine zx (fun _=>?_) (fun _=>?_)|fail)
 show aC _ _ _ _ _ _ _ _;refine kV [] ?_
 rfl
theorem oK {h:Hd}(ho:s9 h) {HS:aj}(hb:Nat.blt HS.length Mem.bound=true):aH.Sound Tryz.prog ⟨25,[.agg (gO h)],HS,.one (.int .i64 0),HS,[]⟩:=
 aA (Bf h ho) (by simp only [List.all_cons,List.all_nil,Bool.and_true];exact iQ h) rfl hb
structure Ph where
 id:Int
 inter:Bool
 down:Bool
 qp:Int
def iJ (p:Ph):List XC:=[.int .i64 p.id,.bool p.inter,.bool p.down,.int .i64 p.qp]
structure AJ (p:Ph):Prop where
 id:0≤p.id∧p.id≤65535
 qp:1≤p.qp∧p.qp≤31
 down:p.down=true→p.inter=true
instance O3 (p:Ph):bz (.agg (iJ p)):=e_ rfl
theorem Bx (p:Ph) (ho:AJ p):bn Tryz.prog 26 [.agg (iJ p)] [] (.one (.int .i64 0)) []:=by
 have h1:=ho.id
 have h2:=ho.qp
 obtain⟨d,hd⟩:∃ d,p.down=d:=⟨_,rfl⟩
 have hl:(iJ p)[2]? = some (.bool d):=by rw [←hd];rfl
 cases d
 · refine cO Tryz.func26 ?_
   repeat' (first
    |(refine qz ?_;first
     |refine ld (hc:=hl) ?_)
    |refine zz ?_|refine zx (fun _=>?_) (fun _=>?_)|fail)
   show aC _ _ _ _ _ _ _ _;refine kV [] ?_
   rfl
 · have hi:=ho.down hd
   have hl2:(iJ p)[1]? = some (.bool true):=by rw [←hi];rfl
   refine cO Tryz.func26 ?_
   repeat' (first
    |(refine qz ?_;first
     |refine ld (hc:=hl) ?_
     |refine ld (hc:=hl2) ?_)
    |refine zz ?_|refine zx (fun _=>?_) (fun _=>?_)|fail)
   show aC _ _ _ _ _ _ _ _;refine kV [] ?_
   rfl
theorem oS {p:Ph}(ho:AJ p) {HS:aj}(hb:Nat.blt HS.length Mem.bound=true):aH.Sound Tryz.prog ⟨26,[.agg (iJ p)],HS,.one (.int .i64 0),HS,[]⟩:=
 aA (Bx p ho) rfl rfl hb
theorem Lg {cols rows:Int}(h:gz cols rows) {HS:aj} {N:Nat}(hN:HS.length=N) {HS':aj}(hh:HS++[cg (N+1) cols rows,.map (bg [])]=HS') (hbd:Nat.blt HS'.length Mem.bound=true) :
 aH.Sound Tryz.prog ⟨47,[.one (.int .i64 cols),.one (.int .i64 rows)],HS,.one (.ptr N 0),HS',[]⟩:=by
 subst hN
 refine bV (os:=[cg (HS.length+1) cols rows,.map (bg [])]) [] [] 2 (I0 cols rows h) (by simp) .nil .nil ?_ rfl (.flat (.flat .nil)) (.flat (.flat .nil)) (by show 0<2;omega) rfl ?_ rfl rfl hh hbd (.inl rfl)
 · exact .cons (by simp [ak.b7,XC.ok]) (.flat .nil)
 · exact .cons rfl (.flat .nil)
abbrev Gc (h:Hd) (p:Ph):aj:=[.cells [.ptr 0 0,.int .i64 p.id,.bool p.inter,.bool p.down,.int .i64 p.qp,.int .i64 p.qp,.ptr 14 0,.ptr 16 0] 97 false false,cg 15 h.cols h.rows,.map (bg []),.cells [.int .i64 h.cols,.int .i64 h.rows,.map 17,.map 18,.map 19] 171 false false,.map (ah []),.map (ah []),.map (ah [])]
theorem DQ (h:Hd) (p:Ph) (ho:s9 h):bn Tryz.prog 27 [.one (.ptr 0 0),.agg (gO h),.agg (iJ p)] [bM 1 5 9,ax 2 3 4 cM,aU cM,aW cM,aV cM,ax 6 7 8 cZ,aU cZ,aW cZ,aV cZ,ax 10 11 12 cP,aU cP,aW cP,aV cP] (.one (.ptr 13 0)) ([bM 1 5 9,ax 2 3 4 cM,aU cM,aW cM,aV cM,ax 6 7 8 cZ,aU cZ,aW cZ,aV cZ,ax 10 11 12 cP,aU cP,aW cP,aV cP]++Gc h p):=by
 have h1:=ho.dims.c0
 have h2:=ho.dims.c1
 have h3:=ho.dims.r0
 have h4:=ho.dims.r1
 refine cO Tryz.func27 ?_
 repeat' (first
  |(refine qz ?_;first
   |refine fW ?_ (hle:=by rfl)
   |refine cl ?_ (hi:=by exact Lg (cols:=h.cols) (rows:=h.rows) ho.dims nL (by first|(simp only [List.cons_append,List.nil_append];exact rfl)|exact rfl) rfl)
   |refine cl ?_ (hi:=by exact GW (cols:=h.cols) (rows:=h.rows) (by omega) (by omega) nL (by first|(simp only [List.cons_append,List.nil_append];exact rfl)|exact rfl) rfl))
  |refine zz ?_|refine zx (fun _=>?_) (fun _=>?_)|fail)
 show aC _ _ _ _ _ _ _ _;refine kV [0,1,2,3,4,5,6,7,8,9,10,11,12,21,15,16,17,18,19,20] ?_
 rfl
end Go.Proofs.YtagpkhindehcbaaGreat
namespace Go.Proofs.YtagpkhindehcbaaGreat
open Go.Xm
variable [az]
theorem MX (e e' e2 e3:TypeId) (cs ds fs gs:List XC):dP [b8 e cs] [b8 e' ds,.cells fs e2 false false,.cells gs e3 false false]=true:=by
 cases cs <;> cases ds <;> simp [dP,ak.live,ak.own,b8]
theorem CW {l:List Int}(hl:dZ l) (hn:l.length≤30000) {q:List Int}(h2:j0 l l.length [] 0 0=some q) {B:List Bool}(h3:ef q=(B.length,true)) (hB:B.length≤8*q.length) {n:Nat}(hln:l.length=n) {HS:aj} {i:Nat}(hi:HS[i]? = some (b8 5 (il .u8 l))) {N:Nat}(hN:HS.length=N) {HS':aj}(hh:HS++[br (N+1) q B 0 false,aM q]=HS') (hb:Nat.blt HS'.length Mem.bound=true) :
 aH.Sound Tryz.prog ⟨32,[fS i n 1],HS,.tup [.one (.ptr N 0),.one (.int .i64 0)],HS',[i]⟩:=by
 subst hln hN
 refine bV (os:=[b8 5 (il .u8 l),br (HS.length+1) q B 0 false,aM q]) [i] [i] 2 (Kr hl hn h2 h3 hB) (by simp) (.flat hi .nil) (.flat .nil) (.flat (.cons ?_ (.flat .nil))) rfl (.cons (ff (Nat.le_of_ble_eq_true rfl)) .nil) (.cons (cY ..) .nil) ?_ rfl (.flat (.cons rfl (.flat .nil))) (MX ..) rfl (by simp only [bG];rw [aG hi];exact hh) hb (.inl rfl)
 · simp [ak.b7,XC.ok]
 · exact Et (by show 1<3;omega) trivial
abbrev Jm:List Nat:=[0,1,2,3,4,5,6,7,8,9,10,11,12]
abbrev Ct (h:Hd) (p:Ph) (N:Nat):aj:=[.cells [.ptr 0 0,.int .i64 p.id,.bool p.inter,.bool p.down,.int .i64 p.qp,.int .i64 p.qp,.ptr (N+1) 0,.ptr (N+3) 0] 97 false false,cg (N+2) h.cols h.rows,.map (bg []),.cells [.int .i64 h.cols,.int .i64 h.rows,.map (N+4),.map (N+5),.map (N+6)] 171 false false,.map (ah []),.map (ah []),.map (ah [])]
abbrev fk:aj:=[bM 1 5 9,ax 2 3 4 cM,aU cM,aW cM,aV cM,ax 6 7 8 cZ,aU cZ,aW cZ,aV cZ,ax 10 11 12 cP,aU cP,aW cP,aV cP]
theorem JD {HS:aj}(hS:HS.take 13=fk) {τ : Nat→Nat}(h:∀ j,j<13 → τ j=j):ae τ HS Jm fk:=by
 have g:∀ j,j<13→HS[j]? = fk[j]?:=fun j hj=>by rw [←hS,List.getElem?_take_of_lt hj]
 have h1:=h 1 (by decide)
 have h2:=h 2 (by decide)
 have h3:=h 3 (by decide)
 have h4:=h 4 (by decide)
 have h5:=h 5 (by decide)
 have h6:=h 6 (by decide)
 have h7:=h 7 (by decide)
 have h8:=h 8 (by decide)
 have h9:=h 9 (by decide)
 have h10:=h 10 (by decide)
 have h11:=h 11 (by decide)
 have h12:=h 12 (by decide)
 refine .cons ?_ (.cons ?_ (.flat (g 2 (by decide)) (.flat (g 3 (by decide)) (.flat (g 4 (by decide)) (.cons ?_ (.flat (g 6 (by decide)) (.flat (g 7 (by decide)) (.flat (g 8 (by decide)) (.cons ?_ (.flat (g 10 (by decide)) (.flat (g 11 (by decide)) (.flat (g 12 (by decide)) .nil))))))))))))
 · rw [g 0 (by decide)]
   simp only [ak.ay,List.map_cons,List.map_nil,XC.ay,h1,h5,h9];rfl
 · rw [g 1 (by decide)]
   simp only [ak.ay,List.map_cons,List.map_nil,XC.ay,h2,h3,h4];rfl
 · rw [g 5 (by decide)]
   simp only [ak.ay,List.map_cons,List.map_nil,XC.ay,h6,h7,h8];rfl
 · rw [g 9 (by decide)]
   simp only [ak.ay,List.map_cons,List.map_nil,XC.ay,h10,h11,h12];rfl
theorem mH {n:Nat}(hn:13≤n) {l:aj}(hl:bl n l):bl n (fk++l):=by
 refine .cons ?_ (.cons ?_ (.flat (.flat (.flat (.cons ?_ (.flat (.flat (.flat (.cons ?_ (.flat (.flat (.flat hl))))))))))))
 all_goals simp [ak.b7,XC.ok];omega
theorem JC {τ : Nat→Nat}(h:∀ j,j<13 → τ j=j) {l l':aj}(hl:da τ l l'):da τ (fk++l) (fk++l'):=by
 have h1:=h 1 (by decide)
 have h2:=h 2 (by decide)
 have h3:=h 3 (by decide)
 have h4:=h 4 (by decide)
 have h5:=h 5 (by decide)
 have h6:=h 6 (by decide)
 have h7:=h 7 (by decide)
 have h8:=h 8 (by decide)
 have h9:=h 9 (by decide)
 have h10:=h 10 (by decide)
 have h11:=h 11 (by decide)
 have h12:=h 12 (by decide)
 refine .cons ?_ (.cons ?_ (.flat (.flat (.flat (.cons ?_ (.flat (.flat (.flat (.cons ?_ (.flat (.flat (.flat hl))))))))))))
 · simp only [ak.ay,List.map_cons,List.map_nil,XC.ay,h1,h5,h9]
 · simp only [ak.ay,List.map_cons,List.map_nil,XC.ay,h2,h3,h4]
 · simp only [ak.ay,List.map_cons,List.map_nil,XC.ay,h6,h7,h8]
 · simp only [ak.ay,List.map_cons,List.map_nil,XC.ay,h10,h11,h12]
theorem Gi {HS:aj}(hS:HS.take 13=fk) {os:aj}:bG HS Jm (fk++os)=HS++os:=by
 have g:∀ j,j<13→HS[j]? = fk[j]?:=fun j hj=>by rw [←hS,List.getElem?_take_of_lt hj]
 simp only [bG,fk,List.cons_append,List.nil_append]
 rw [aG (g 0 (by decide)),aG (g 1 (by decide)),aG (g 2 (by decide)),aG (g 3 (by decide)),aG (g 4 (by decide)),aG (g 5 (by decide)),aG (g 6 (by decide)),aG (g 7 (by decide)),aG (g 8 (by decide)),aG (g 9 (by decide)),aG (g 10 (by decide)),aG (g 11 (by decide)),aG (g 12 (by decide))]
theorem CS (r:List Nat):∀ j,j<13→nth (Jm++r) j=j:=fun j hj=>by
 have hq:∀ q:Fin 13,Jm[q.val]? = some q.val:=by decide
 have:=hq ⟨j,hj⟩
 unfold nth
 rw [List.getD_eq_getElem?_getD,List.getElem?_append_left (by exact hj),this]
 rfl
theorem nO {h:Hd} {p:Ph}(ho:s9 h) {HS:aj}(hS:HS.take 13=fk) {N:Nat}(hN:HS.length=N) {HS':aj}(hh:HS++Ct h p N=HS') (hbd:Nat.blt HS'.length Mem.bound=true) :
 aH.Sound Tryz.prog ⟨27,[.one (.ptr 0 0),.agg (gO h),.agg (iJ p)],HS,.one (.ptr N 0),HS',Jm⟩:=by
 subst hN
 have e0:∀ j,j<13→nth Jm j=j:=fun j hj=>by
  have:=CS [] j hj
  rw [List.append_nil]at this
  exact this
 refine bV (os:=fk++Ct h p HS.length) Jm Jm 7 (DQ h p ho) (by decide) (JD hS e0) (mH (l:=[]) (Nat.le_refl _) .nil) (mH (l:=Gc h p) (by show 13≤20;omega) ?_) rfl (.cons (by show 0<13;omega) (.flat (.flat .nil))) (.cons rfl (.flat (.flat .nil))) (by show 13<20;omega) rfl (JC (CS _) ?_) ?_ rfl (by rw [Gi hS];exact hh) hbd (.inl rfl)
 · refine .cons ?_ (.cons ?_ (.flat (.cons ?_ (.flat (.flat (.flat .nil))))))
   all_goals simp [ak.b7,XC.ok]
 · exact .cons rfl (.cons rfl (.flat (.cons rfl (.flat (.flat (.flat .nil))))))
 · rfl
end Go.Proofs.YtagpkhindehcbaaGreat
namespace Go.Proofs.YtagpkhindehcbaaGreat
open Go.Xm
variable [az]
abbrev H2 (S:bC) (N:Nat):ak := .cells [.ptr 0 0,.int .i64 S.id,.bool S.inter,.bool S.down,.int .i64 S.hqp,.int .i64 S.qp,.ptr (N+1) 0,.ptr (N+3) 0] 97 false false
abbrev It (S:bC) (N:Nat):ak := .cells [.int .i64 S.cols,.int .i64 S.rows,.map (N+4),.map (N+5),.map (N+6)] 171 false false
abbrev xN (S:bC) (N:Nat):aj:=[H2 S N,cg (N+2) S.cols S.rows,.map (bg S.M),It S N,.map (ah S.A),.map (ah S.B),.map (ah S.C)]
abbrev kB (N:Nat) (r:List Nat):List Nat:=N::0::1::2::3::4::5::6::7::8::9::10::11::12::(N+1)::(N+2)::(N+3)::(N+4)::(N+5)::(N+6)::r
abbrev K5 (S:bC) (N:Nat) (l:aj):aj:=H2 S N::bM 1 5 9::ax 2 3 4 cM::aU cM::aW cM::aV cM::ax 6 7 8 cZ::aU cZ::aW cZ::aV cZ::ax 10 11 12 cP::aU cP::aW cP::aV cP::cg (N+2) S.cols S.rows :: .map (bg S.M)::It S N :: .map (ah S.A) :: .map (ah S.B) :: .map (ah S.C)::l
theorem xP {HS:aj} {S:bC} {N:Nat} {τ : Nat→Nat}(hS:HS.take 13=fk) (hN:(HS.drop N).take 7=xN S N) (h3:∀ j,j<13 → τ (3+j)=j) (h16:∀ j,j<6 → τ (16+j)=N+1+j) {ls:List Nat} {l:aj}(hl:ae τ HS ls l):ae τ HS (kB N ls) (dI S++l):=by
 have g:∀ j,j<13→HS[j]? = fk[j]?:=fun j hj=>by rw [←hS,List.getElem?_take_of_lt hj]
 have k:∀ j,j<7→HS[N+j]? = (xN S N)[j]?:=fun j hj=>by rw [←hN,List.getElem?_take_of_lt hj,List.getElem?_drop]
 have a1 : τ 4=1:=h3 1 (by decide)
 have a2 : τ 5=2:=h3 2 (by decide)
 have a3 : τ 6=3:=h3 3 (by decide)
 have a4 : τ 7=4:=h3 4 (by decide)
 have a5 : τ 8=5:=h3 5 (by decide)
 have a6 : τ 9=6:=h3 6 (by decide)
 have a7 : τ 10=7:=h3 7 (by decide)
 have a8 : τ 11=8:=h3 8 (by decide)
 have a9 : τ 12=9:=h3 9 (by decide)
 have b0 : τ 13=10:=h3 10 (by decide)
 have b1 : τ 14=11:=h3 11 (by decide)
 have b2 : τ 15=12:=h3 12 (by decide)
 have a0 : τ 3=0:=h3 0 (by decide)
 have d0 : τ 16=N+1:=h16 0 (by decide)
 have d1 : τ 17=N+2:=h16 1 (by decide)
 have d2 : τ 18=N+3:=h16 2 (by decide)
 have d3 : τ 19=N+4:=h16 3 (by decide)
 have d4 : τ 20=N+5:=h16 4 (by decide)
 have d5 : τ 21=N+6:=h16 5 (by decide)
 refine .cons ?_ (.cons ?_ (.cons ?_ (.flat (g 2 (by decide)) (.flat (g 3 (by decide)) (.flat (g 4 (by decide)) (.cons ?_ (.flat (g 6 (by decide)) (.flat (g 7 (by decide)) (.flat (g 8 (by decide)) (.cons ?_ (.flat (g 10 (by decide)) (.flat (g 11 (by decide)) (.flat (g 12 (by decide)) (.cons ?_ (.flat (k 2 (by decide)) (.cons ?_ (.flat (k 4 (by decide)) (.flat (k 5 (by decide)) (.flat (k 6 (by decide)) hl)))))))))))))))))))
 · have:=k 0 (by decide)
   rw [Nat.add_zero]at this
   rw [this]
   simp only [ak.ay,List.map_cons,List.map_nil,XC.ay,a0,d0,d2];rfl
 · rw [g 0 (by decide)]
   simp only [ak.ay,List.map_cons,List.map_nil,XC.ay,a1,a5,a9];rfl
 · rw [g 1 (by decide)]
   simp only [ak.ay,List.map_cons,List.map_nil,XC.ay,a2,a3,a4];rfl
 · rw [g 5 (by decide)]
   simp only [ak.ay,List.map_cons,List.map_nil,XC.ay,a6,a7,a8];rfl
 · rw [g 9 (by decide)]
   simp only [ak.ay,List.map_cons,List.map_nil,XC.ay,b0,b1,b2];rfl
 · rw [k 1 (by decide)]
   simp only [ak.ay,List.map_cons,List.map_nil,XC.ay,d1];rfl
 · rw [k 3 (by decide)]
   simp only [ak.ay,List.map_cons,List.map_nil,XC.ay,d3,d4,d5];rfl
theorem BN {S:bC} {N:Nat} {τ : Nat→Nat}(h3:∀ j,j<13 → τ (3+j)=j) (h16:∀ j,j<6 → τ (16+j)=N+1+j) {l l':aj}(hl:da τ l l'):da τ (dI S++l) (K5 S N l'):=by
 have a1 : τ 4=1:=h3 1 (by decide)
 have a2 : τ 5=2:=h3 2 (by decide)
 have a3 : τ 6=3:=h3 3 (by decide)
 have a4 : τ 7=4:=h3 4 (by decide)
 have a5 : τ 8=5:=h3 5 (by decide)
 have a6 : τ 9=6:=h3 6 (by decide)
 have a7 : τ 10=7:=h3 7 (by decide)
 have a8 : τ 11=8:=h3 8 (by decide)
 have a9 : τ 12=9:=h3 9 (by decide)
 have b0 : τ 13=10:=h3 10 (by decide)
 have b1 : τ 14=11:=h3 11 (by decide)
 have b2 : τ 15=12:=h3 12 (by decide)
 have a0 : τ 3=0:=h3 0 (by decide)
 have d0 : τ 16=N+1:=h16 0 (by decide)
 have d1 : τ 17=N+2:=h16 1 (by decide)
 have d2 : τ 18=N+3:=h16 2 (by decide)
 have d3 : τ 19=N+4:=h16 3 (by decide)
 have d4 : τ 20=N+5:=h16 4 (by decide)
 have d5 : τ 21=N+6:=h16 5 (by decide)
 refine .cons ?_ (.cons ?_ (.cons ?_ (.flat (.flat (.flat (.cons ?_ (.flat (.flat (.flat (.cons ?_ (.flat (.flat (.flat (.cons ?_ (.flat (.cons ?_ (.flat (.flat (.flat hl)))))))))))))))))))
 all_goals simp only [ak.ay,List.map_cons,List.map_nil,XC.ay, *]
theorem ua (a b N:Nat) (r:List Nat):∀ j,j<13→nth (a::b::kB N r) (3+j)=j:=fun j hj=>by
 have hq:∀ q:Fin 13,Jm[q.val]? = some q.val:=by decide
 have:=hq ⟨j,hj⟩
 unfold nth
 rw [List.getD_eq_getElem?_getD,Nat.add_comm]
 show((Jm++((N+1)::(N+2)::(N+3)::(N+4)::(N+5)::(N+6)::r))[j]?).getD 0=j
 rw [List.getElem?_append_left (by exact hj),this]
 rfl
theorem qJ (a b N:Nat) (r:List Nat):∀ j,j<6→nth (a::b::kB N r) (16+j)=N+1+j:=fun j hj=>by
 match j,hj with
 | 0,_=>rfl
 | 1,_=>rfl
 | 2,_=>rfl
 | 3,_=>rfl
 | 4,_=>rfl
 | 5,_=>rfl
theorem OI {f:FuncId} {args args':List XV} {v:XV} [bz v] {L:List Int} {B:List Bool} {p p':Nat} {e e':Bool} {S S':bC} {i k N:Nat}(hc:bn Tryz.prog f args (br 1 L B p e::aM L::dI S) v (br 1 L B p' e'::aM L::dI S'))
 {HS:aj}(hi:HS[i]? = some (br k L B p e)) (hk:HS[k]? = some (aM L)) (hS:HS.take 13=fk) (hN:(HS.drop N).take 7=xN S N) (hnd:(i::k::kB N []).Nodup) (ha:eV 22 args) (hr:dF (nth (i::k::kB N [])) args args')
 {HS':aj}(hh:bG HS (i::k::kB N []) (br k L B p' e'::aM L::K5 S' N [])=HS') (hbd:Nat.blt HS'.length Mem.bound=true) :
 aH.Sound Tryz.prog ⟨f,args',HS,v,HS',i::k::kB N []⟩:=by
 have h3:=ua i k N []
 have h16:=qJ i k N []
 have hc':bn Tryz.prog f args (br 1 L B p e::aM L::(dI S++[])) v (br 1 L B p' e'::aM L::(dI S'++[])):=by
  rw [List.append_nil,List.append_nil];exact hc
 have ht2:nth ((i::k::kB N [])++List.range' HS.length 0)=nth (i::k::kB N []):=by
  rw [List.range'_zero,List.append_nil]
 refine bV (i::k::kB N []) (i::k::kB N []) 0 hc' hnd (.cons hi (.flat hk (xP hS hN h3 h16 .nil))) (.cons (by simp [ak.b7,XC.ok]) (.flat (gp S _ (Nat.le_refl _) .nil))) (.cons (by simp [ak.b7,XC.ok]) (.flat (gp S' _ (Nat.le_refl _) .nil))) rfl ha hr (bz.ok _) (bz.ay _) ?_ rfl rfl hh hbd (.inl rfl)
 rw [ht2]
 exact .cons rfl (.flat (BN h3 h16 .nil))
end Go.Proofs.YtagpkhindehcbaaGreat
