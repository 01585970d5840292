/-
  A part of the proof: Put3, MbLaw, Put4, PutLaw, PutAll, Fill2, ManyF, FillC.
-/
import Derived.Test.YtagpkhindehcbaaGreatKdR
import Derived.Test.YtagpkhindehcbaaGreatKdT
import Derived.Test.YtagpkhindehcbaaGreatKdU
import Derived.Test.YtagpkhindehcbaaGreatKdV
import Derived.Test.YtagpkhindehcbaaGreatKdW
set_option maxRecDepth 10000
set_option maxHeartbeats 8000000
set_option linter.unusedVariables false
set_option linter.unusedSectionVars false
set_option linter.unusedSimpArgs false
namespace Go.Proofs.YtagpkhindehcbaaGreat
open Go.Xm
variable [az]
theorem OS {S:bC} {B bw:List Bool} {m:Mb} {mb:Int}(hP:kP S B bw m mb) (hk:m.kind=3) (x:pe) (hx:fq m mb ⟨ba S mb m.v,((B++aB S m)++[m.edge]),0,0,fun _=>[]⟩ 6=some x) :
 bn Tryz.prog 29 [.one (.ptr 2 0),.one (.ptr 0 0),.one (.ptr 22 0),.one (.int .i64 mb),.agg (mC m)] [aP 1 B,aq B,du (S),bM 4 8 12,ax 5 6 7 cM,aU cM,aW cM,aV cM,ax 9 10 11 cZ,aU cZ,aW cZ,aV cZ,ax 13 14 15 cP,aU cP,aW cP,aV cP,cg 17 (S).cols (S).rows,.map (bg (S).M),.cells [.int .i64 (S).cols,.int .i64 (S).rows,.map 19,.map 20,.map 21] 171 false false,.map (ah (S).A),.map (ah (S).B),.map (ah (S).C),aP 23 bw,aq bw] (.one (.int .i64 0)) [aP 24 (eY x),.dead,du (x.S),bM 4 8 12,ax 5 6 7 cM,aU cM,aW cM,aV cM,ax 9 10 11 cZ,aU cZ,aW cZ,aV cZ,ax 13 14 15 cP,aU cP,aW cP,aV cP,cg 17 (x.S).cols (x.S).rows,.map (bg (x.S).M),.cells [.int .i64 (x.S).cols,.int .i64 (x.S).rows,.map 19,.map 20,.map 21] 171 false false,.map (ah (x.S).A),.map (ah (x.S).B),.map (ah (x.S).C),aP 25 (bB bw x 6),.dead,aq (eY x),aq (bB bw x 6)]:=by
 have hg:=hP.good
 have hm:=hg.ok
 have hD:=hP.st.dims
 have hmb:=hP.mb
 have hlen:=hP.len
 have hkl:=fN S m
 have hK:=iR B S m hm hg.kind hP.qp (by omega)
 rw [dK (by omega)]at hK
 have htE:ch S.M:=hP.st.tiny
 have hS2:iy (ba S mb m.v):=⟨hD,hP.st.lev,eJ htE hm.v⟩
 have hB2:(((B++aB S m)++[m.edge])).length≤700000:=by
  show(((B++aB S m)++[m.edge])).length≤700000
  simp only [List.length_append,List.length_cons,List.length_nil]
  omega
 refine cO Tryz.func29 ?_
 repeat' (first
  |(refine qz ?_;first
   |refine fW ?_ (hle:=by rw [aJ])
   |refine cl ?_ (hi:=by exact q8 (S:=S) (S':=S) (bs:=B) (bs':=B++aB S m) (fun _ => .flat .nil) (.flat .nil) rfl hK rfl rfl rfl rfl nL nA rfl)
   |refine cl ?_ (hi:=by exact kE (b:=m.edge) (bs:=(B++aB S m)) (by simp only [List.length_append];omega) rfl rfl (by decide) nL nA rfl)
   |refine cl ?_ (hi:=by exact i4 (S:=S) (bs:=((B++aB S m)++[m.edge])) hD hmb rfl rfl rfl rfl nA rfl)
   |refine cl ?_ (hi:=by exact oG (B:=((B++aB S m)++[m.edge])) (S:=ba S mb m.v) (oH (((B++aB S m)++[m.edge])) bw (ba S mb m.v) m mb hg hS2 hmb hB2 (by have:=hP.lenw;omega) x hx) rfl rfl rfl rfl rfl rfl nL nA rfl))
  |refine zz ?_|refine zx (fun _=>?_) (fun _=>?_)|fail)
 show aC _ _ _ _ _ _ _ _;refine kV [0,1,2,3,4,5,6,7,8,9,10,11,12,13,14,15,16,17,18,19,20,21,22,23,27,28] ?_
 rfl
theorem Nq {S:bC} {B bw:List Bool} {m:Mb} {mb:Int}(hP:kP S B bw m mb) (hk:m.kind=3) (hx:fq m mb ⟨ba S mb m.v,((B++aB S m)++[m.edge]),0,0,fun _=>[]⟩ 6=none) :
 bn Tryz.prog 29 [.one (.ptr 2 0),.one (.ptr 0 0),.one (.ptr 22 0),.one (.int .i64 mb),.agg (mC m)] [aP 1 B,aq B,du (S),bM 4 8 12,ax 5 6 7 cM,aU cM,aW cM,aV cM,ax 9 10 11 cZ,aU cZ,aW cZ,aV cZ,ax 13 14 15 cP,aU cP,aW cP,aV cP,cg 17 (S).cols (S).rows,.map (bg (S).M),.cells [.int .i64 (S).cols,.int .i64 (S).rows,.map 19,.map 20,.map 21] 171 false false,.map (ah (S).A),.map (ah (S).B),.map (ah (S).C),aP 23 bw,aq bw] (.one (.int .i64 2)) nr:=by
 have hg:=hP.good
 have hm:=hg.ok
 have hD:=hP.st.dims
 have hmb:=hP.mb
 have hlen:=hP.len
 have hkl:=fN S m
 have hK:=iR B S m hm hg.kind hP.qp (by omega)
 rw [dK (by omega)]at hK
 have htE:ch S.M:=hP.st.tiny
 have hS2:iy (ba S mb m.v):=⟨hD,hP.st.lev,eJ htE hm.v⟩
 have hB2:(((B++aB S m)++[m.edge])).length≤700000:=by
  show(((B++aB S m)++[m.edge])).length≤700000
  simp only [List.length_append,List.length_cons,List.length_nil]
  omega
 refine cO Tryz.func29 ?_
 repeat' (first
  |(refine qz ?_;first
   |refine fW ?_ (hle:=by rw [aJ])
   |refine cl ?_ (hi:=by exact q8 (S:=S) (S':=S) (bs:=B) (bs':=B++aB S m) (fun _ => .flat .nil) (.flat .nil) rfl hK rfl rfl rfl rfl nL nA rfl)
   |refine cl ?_ (hi:=by exact kE (b:=m.edge) (bs:=(B++aB S m)) (by simp only [List.length_append];omega) rfl rfl (by decide) nL nA rfl)
   |refine cl ?_ (hi:=by exact i4 (S:=S) (bs:=((B++aB S m)++[m.edge])) hD hmb rfl rfl rfl rfl nA rfl)
   |refine cl ?_ (hi:=by exact mE (B:=((B++aB S m)++[m.edge])) (S:=ba S mb m.v) (mG (((B++aB S m)++[m.edge])) bw (ba S mb m.v) m mb hg hS2 hmb hB2 (by have:=hP.lenw;omega) hx) rfl rfl rfl rfl rfl rfl nL nA rfl))
  |refine zz ?_|refine zx (fun _=>?_) (fun _=>?_)|fail)
 show aC _ _ _ _ _ _ _ _;refine kV [0,1,2,3,4,5,6,7,8,9,10,11,12,13,14,15,16,17,18,19,20,21,22,23] ?_
 rfl
theorem OT {S:bC} {B bw:List Bool} {m:Mb} {mb:Int}(hP:kP S B bw m mb) (hk:m.kind=4) (x:pe) (hx:fq m mb ⟨ba ({S with qp:=m.qp}:bC) mb m.v,((B++aB S m)++[m.edge]),0,0,fun _=>[]⟩ 6=some x) :
 bn Tryz.prog 29 [.one (.ptr 2 0),.one (.ptr 0 0),.one (.ptr 22 0),.one (.int .i64 mb),.agg (mC m)] [aP 1 B,aq B,du (S),bM 4 8 12,ax 5 6 7 cM,aU cM,aW cM,aV cM,ax 9 10 11 cZ,aU cZ,aW cZ,aV cZ,ax 13 14 15 cP,aU cP,aW cP,aV cP,cg 17 (S).cols (S).rows,.map (bg (S).M),.cells [.int .i64 (S).cols,.int .i64 (S).rows,.map 19,.map 20,.map 21] 171 false false,.map (ah (S).A),.map (ah (S).B),.map (ah (S).C),aP 23 bw,aq bw] (.one (.int .i64 0)) [aP 24 (eY x),.dead,du (x.S),bM 4 8 12,ax 5 6 7 cM,aU cM,aW cM,aV cM,ax 9 10 11 cZ,aU cZ,aW cZ,aV cZ,ax 13 14 15 cP,aU cP,aW cP,aV cP,cg 17 (x.S).cols (x.S).rows,.map (bg (x.S).M),.cells [.int .i64 (x.S).cols,.int .i64 (x.S).rows,.map 19,.map 20,.map 21] 171 false false,.map (ah (x.S).A),.map (ah (x.S).B),.map (ah (x.S).C),aP 25 (bB bw x 6),.dead,aq (eY x),aq (bB bw x 6)]:=by
 have hg:=hP.good
 have hm:=hg.ok
 have hD:=hP.st.dims
 have hmb:=hP.mb
 have hlen:=hP.len
 have hkl:=fN S m
 have hK:=iR B S m hm hg.kind hP.qp (by omega)
 rw [n5 hk]at hK
 have htE:ch S.M:=hP.st.tiny
 have hS2:iy (ba ({S with qp:=m.qp}:bC) mb m.v):=⟨hD,hP.st.lev,eJ htE hm.v⟩
 have hB2:(((B++aB S m)++[m.edge])).length≤700000:=by
  show(((B++aB S m)++[m.edge])).length≤700000
  simp only [List.length_append,List.length_cons,List.length_nil]
  omega
 refine cO Tryz.func29 ?_
 repeat' (first
  |(refine qz ?_;first
   |refine fW ?_ (hle:=by rw [aJ])
   |refine cl ?_ (hi:=by exact q8 (S:=S) (S':={S with qp:=m.qp}) (bs:=B) (bs':=B++aB S m) (fun _ => .flat .nil) (.flat .nil) rfl hK rfl rfl rfl rfl nL nA rfl)
   |refine cl ?_ (hi:=by exact kE (b:=m.edge) (bs:=(B++aB S m)) (by simp only [List.length_append];omega) rfl rfl (by decide) nL nA rfl)
   |refine cl ?_ (hi:=by exact i4 (S:=({S with qp:=m.qp}:bC)) (bs:=((B++aB S m)++[m.edge])) hD hmb rfl rfl rfl rfl nA rfl)
   |refine cl ?_ (hi:=by exact oG (B:=((B++aB S m)++[m.edge])) (S:=ba ({S with qp:=m.qp}:bC) mb m.v) (oH (((B++aB S m)++[m.edge])) bw (ba ({S with qp:=m.qp}:bC) mb m.v) m mb hg hS2 hmb hB2 (by have:=hP.lenw;omega) x hx) rfl rfl rfl rfl rfl rfl nL nA rfl))
  |refine zz ?_|refine zx (fun _=>?_) (fun _=>?_)|fail)
 show aC _ _ _ _ _ _ _ _;refine kV [0,1,2,3,4,5,6,7,8,9,10,11,12,13,14,15,16,17,18,19,20,21,22,23,27,28] ?_
 rfl
theorem Nr {S:bC} {B bw:List Bool} {m:Mb} {mb:Int}(hP:kP S B bw m mb) (hk:m.kind=4) (hx:fq m mb ⟨ba ({S with qp:=m.qp}:bC) mb m.v,((B++aB S m)++[m.edge]),0,0,fun _=>[]⟩ 6=none) :
 bn Tryz.prog 29 [.one (.ptr 2 0),.one (.ptr 0 0),.one (.ptr 22 0),.one (.int .i64 mb),.agg (mC m)] [aP 1 B,aq B,du (S),bM 4 8 12,ax 5 6 7 cM,aU cM,aW cM,aV cM,ax 9 10 11 cZ,aU cZ,aW cZ,aV cZ,ax 13 14 15 cP,aU cP,aW cP,aV cP,cg 17 (S).cols (S).rows,.map (bg (S).M),.cells [.int .i64 (S).cols,.int .i64 (S).rows,.map 19,.map 20,.map 21] 171 false false,.map (ah (S).A),.map (ah (S).B),.map (ah (S).C),aP 23 bw,aq bw] (.one (.int .i64 2)) nr:=by
 have hg:=hP.good
 have hm:=hg.ok
 have hD:=hP.st.dims
 have hmb:=hP.mb
 have hlen:=hP.len
 have hkl:=fN S m
 have hK:=iR B S m hm hg.kind hP.qp (by omega)
 rw [n5 hk]at hK
 have htE:ch S.M:=hP.st.tiny
 have hS2:iy (ba ({S with qp:=m.qp}:bC) mb m.v):=⟨hD,hP.st.lev,eJ htE hm.v⟩
 have hB2:(((B++aB S m)++[m.edge])).length≤700000:=by
  show(((B++aB S m)++[m.edge])).length≤700000
  simp only [List.length_append,List.length_cons,List.length_nil]
  omega
 refine cO Tryz.func29 ?_
 repeat' (first
  |(refine qz ?_;first
   |refine fW ?_ (hle:=by rw [aJ])
   |refine cl ?_ (hi:=by exact q8 (S:=S) (S':={S with qp:=m.qp}) (bs:=B) (bs':=B++aB S m) (fun _ => .flat .nil) (.flat .nil) rfl hK rfl rfl rfl rfl nL nA rfl)
   |refine cl ?_ (hi:=by exact kE (b:=m.edge) (bs:=(B++aB S m)) (by simp only [List.length_append];omega) rfl rfl (by decide) nL nA rfl)
   |refine cl ?_ (hi:=by exact i4 (S:=({S with qp:=m.qp}:bC)) (bs:=((B++aB S m)++[m.edge])) hD hmb rfl rfl rfl rfl nA rfl)
   |refine cl ?_ (hi:=by exact mE (B:=((B++aB S m)++[m.edge])) (S:=ba ({S with qp:=m.qp}:bC) mb m.v) (mG (((B++aB S m)++[m.edge])) bw (ba ({S with qp:=m.qp}:bC) mb m.v) m mb hg hS2 hmb hB2 (by have:=hP.lenw;omega) hx) rfl rfl rfl rfl rfl rfl nL nA rfl))
  |refine zz ?_|refine zx (fun _=>?_) (fun _=>?_)|fail)
 show aC _ _ _ _ _ _ _ _;refine kV [0,1,2,3,4,5,6,7,8,9,10,11,12,13,14,15,16,17,18,19,20,21,22,23] ?_
 rfl
end Go.Proofs.YtagpkhindehcbaaGreat
namespace Go.Proofs.YtagpkhindehcbaaGreat
open Go.Xm
variable [az]
theorem HR {B X:List Bool} {n:Nat}(h:n<5) (hp:X++db cM n <+: B):kS cM B (X.length,false)=((n:Int),((X++db cM n).length,false)):=by
 obtain⟨t,rfl⟩:=hp
 rw [List.append_assoc,Bq h X t,List.length_append]
theorem KC {B X:List Bool} {n:Nat}(h:n<16) (hp:X++db cP n <+: B):kS cP B (X.length,false)=((n:Int),((X++db cP n).length,false)):=by
 obtain⟨t,rfl⟩:=hp
 rw [List.append_assoc,vq h X t,List.length_append]
theorem KB {B X:List Bool} {n:Int}(h : -4000≤n∧n≤4000) (hp:X++aX n <+: B):fJ B (X.length,false)=(n,((X++aX n).length,false)):=by
 obtain⟨t,rfl⟩:=hp
 rw [List.append_assoc,D0 h X t,List.length_append]
theorem HT {B X:List Bool} {v e:Int × Int}(he:bu e) (hr:d9 v=true) (hp:X++cJ v e <+: B):pE B e (X.length,false)=(v,((X++cJ v e).length,false)):=by
 obtain⟨t,rfl⟩:=hp
 rw [List.append_assoc,IM v e he hr X t,List.length_append]
theorem C3 {B X:List Bool} {n:Int} {k:Nat}(h:0≤n∧n<2^k) (hp:X++ej n k <+: B):bZ B k (X.length,false)=(n,((X++ej n k).length,false)):=by
 obtain⟨t,rfl⟩:=hp
 rw [List.append_assoc,vF h X t,List.length_append,gi]
theorem C4 {B X:List Bool} {b:Bool}(hp:X++[b] <+: B):dH B (X.length,false)=b∧bY B (X.length,false)=((X++[b]).length,false):=by
 obtain⟨t,rfl⟩:=hp
 have:=p5 X b t
 rw [List.append_assoc,List.length_append]
 exact this
def kq (b:Kn):Int × Int:=(b.lv 0,b.qp)
def yC (T U:nF):Prop:=∀ k,(ct U k).map kq=(ct T k).map kq
structure Rel (S R:bC):Prop where
 inter:R.inter=S.inter
 qp:R.qp=S.qp
 cols:R.cols=S.cols
 rows:R.rows=S.rows
 M:∀ k,ct R.M k=ct S.M k
 a:yC S.A R.A
 b:yC S.B R.B
 c:yC S.C R.C
theorem uF {p q:Int} {T U:nF}(h:yC T U) {key:Int} {b c:Kn}(hb:kq c=kq b):yC (i3 p q T key b) (i3 p q U key c):=by
 unfold i3
 split
 · intro k
   rw [fQ,fQ]
   split
   · exact congrArg some hb
   · exact h k
 · exact h
theorem JX {a b:Kn}(h:kq a=kq b):gW a=gW b:=by
 unfold kq at h
 have h1:=(Prod.mk.inj h).1
 have h2:=(Prod.mk.inj h).2
 unfold gW
 rw [h1,h2]
theorem xp {la la' lb lb' lc lc':Option Kn} {q:Int}(ha:la'.map kq=la.map kq) (hb:lb'.map kq=lb.map kq) (hc:lc'.map kq=lc.map kq):jG la' lb' lc' q=jG la lb lc q:=by
 have e:∀ {x y:Option Kn},x.map kq=y.map kq→(x=none∧y=none)∨∃ a b,x=some a∧y=some b∧gW a=gW b:=by
  intro x y h
  cases x with
  | none=>cases y with
    | none=>exact .inl ⟨rfl,rfl⟩
    | some b=>cases h
  | some a=>cases y with
    | none=>cases h
    | some b=>exact .inr ⟨a,b,rfl,rfl,JX (Option.some.inj h)⟩
 rcases e ha with⟨rfl,rfl⟩|⟨a,a',rfl,rfl,ea⟩ <;> rcases e hb with⟨rfl,rfl⟩|⟨b,b',rfl,rfl,eb⟩ <;> rcases e hc with⟨rfl,rfl⟩|⟨c,c',rfl,rfl,ec⟩ <;> unfold jG <;> simp only [*]
theorem Br {S R:bC}(h:Rel S R) (mb k dx dy:Int):(xA R mb k dx dy).map kq=(xA S mb k dx dy).map kq:=by
 unfold xA c9 cw
 rw [h.cols]
 split
 · rfl
 · unfold bP
   split
   · exact h.a _
   · split
     · exact h.b _
     · exact h.c _
theorem ID {S R:bC}(h:Rel S R) (mb k q:Int):aL R mb k q=aL S mb k q:=xp (Br h ..) (Br h ..) (Br h ..)
theorem IK {S R:bC}(h:Rel S R) (mb k:Int) {b c:Kn}(hb:kq c=kq b):Rel (aN S mb k b) (aN R mb k c):=by
 have e:lF R mb k=lF S mb k:=by unfold lF;rw [h.cols]
 refine⟨h.inter,h.qp,h.cols,h.rows,h.M,?_,?_,?_⟩
 · show yC (i3 (placeOf S.cols mb k).1 0 S.A (lF S mb k) b) (i3 (placeOf R.cols mb k).1 0 R.A (lF R mb k) c)
   rw [e,h.cols];exact uF h.a hb
 · show yC (i3 (placeOf S.cols mb k).1 1 S.B (lF S mb k) b) (i3 (placeOf R.cols mb k).1 1 R.B (lF R mb k) c)
   rw [e,h.cols];exact uF h.b hb
 · show yC (i3 (placeOf S.cols mb k).1 2 S.C (lF S mb k) b) (i3 (placeOf R.cols mb k).1 2 R.C (lF R mb k) c)
   rw [e,h.cols];exact uF h.c hb
theorem wJ {M N:fZ}(h:∀ k,ct N k=ct M k) (cols rows mb k:Int):cf N cols rows mb k=cf M cols rows mb k:=by
 unfold cf kD
 simp only [h]
theorem mc {M N:fZ}(h:∀ k,ct N k=ct M k) (cols mb j:Int) (v:Int × Int) (k:Int):ct (aZ N cols mb j v) k=ct (aZ M cols mb j v) k:=by
 unfold aZ
 rw [fQ,fQ,h]
theorem o6 {M N:fZ}(h:∀ k,ct N k=ct M k) (cols mb:Int) {v w:Nat→Int × Int}(hv:∀ j,j<4→w j=v j) (k:Int):ct (rb N cols mb w) k=ct (rb M cols mb v) k:=by
 unfold rb
 rw [hv 0 (by omega),hv 1 (by omega),hv 2 (by omega),hv 3 (by omega)]
 exact mc (fun _=>mc (fun _=>mc (fun _=>mc h ..) ..) ..) ..
theorem BA {M N:fZ} {a b c d:Int} {x y z w:Int × Int}(h:∀ k,k≠a→k≠b→k≠c→k≠d→ct N k=ct M k) (k:Int):ct (nC (nC (nC (nC N a x) b y) c z) d w) k=ct (nC (nC (nC (nC M a x) b y) c z) d w) k:=by
 simp only [fQ]
 split
 · rfl
 · split
   · rfl
   · split
     · rfl
     · split
       · rfl
       · exact h k (by assumption) (by assumption) (by assumption) (by assumption)
theorem xU {M N:fZ}(h:∀ k,ct N k=ct M k) (cols mb:Int) {v w:Nat→Int × Int}(hv:∀ j,j<4→w j=v j) (x:Int × Int) (k:Int):ct (rb N cols mb w) k=ct (rb (aZ M cols mb 0 x) cols mb v) k:=by
 rw [o6 h cols mb hv k]
 exact BA (fun j h0 _ _ _=>by unfold aZ;rw [fQ,if_neg h0]) k
structure Cj (m o:Mb):Prop where
 kind:o.kind=m.kind
 qp:o.qp=m.qp
 v:∀ k,k<4→o.v k=m.v k
 edge:o.edge=m.edge
 lev:∀ i,o.lev i=if alone m=true∧i%64=0∧i<384 then m.lev i else 0
structure nj (S:bC) (m:Mb):Prop where
 kind:0≤m.kind∧m.kind≤4
 alo:S.inter=false→alone m=true
 edge:alone m=false→m.edge=false
 st:m.kind=4→(dV S.qp m.qp).2=true
 qp:m.kind≠4→m.qp=S.qp
 vecs:∀ k,k<4→pD m k
 lev:∀ i,i<384→zf m i
theorem iz {S:bC} {m:Mb}(hm:i_ m) (h:dk m S.inter S.qp=0):nj S m:=by
 have hk:=hm.kind
 unfold dk at h
 split at h
 · cases h
 rename_i h1
 split at h
 · cases h
 rename_i h2
 split at h
 · cases h
 rename_i h3
 split at h
 · cases h
 rename_i h4
 split at h
 · rename_i h5;exact absurd h h5
 rename_i h5
 have hv:gJ m=0:=Decidable.byContradiction fun g=>h5 g
 refine⟨⟨hk.1,?_⟩,?_,?_,?_,?_,?_,?_⟩
 · exact Decidable.byContradiction fun g=>h1 (.inl (by omega))
 · intro g
   cases ha:alone m with
   | true=>rfl
   | false=>exact absurd (.inr ⟨g,ha⟩) h1
 · intro g
   cases he:m.edge with
   | false=>rfl
   | true=>exact absurd ⟨he,g⟩ h2
 · intro g
   cases hs:(dV S.qp m.qp).2 with
   | true=>rfl
   | false=>exact absurd ⟨g,hs⟩ h3
 · intro g
   exact Decidable.byContradiction fun e=>h4 ⟨g,e⟩
 · unfold gJ at hv
   split at hv
   · rename_i g
     intro k hk
     match k,hk with
     | 0,_=>exact g.1
     | 1,_=>exact g.2.1
     | 2,_=>exact g.2.2.1
     | 3,_=>exact g.2.2.2
   · cases hv
 · unfold vU at h
   split at h
   · assumption
   · cases h
theorem E0 {a b:Int}(h:(dV a b).2=true):a+pB (dV a b).1=b∧1≤b∧b≤31:=by
 unfold dV at h ⊢
 split at h
 · cases h
 · rename_i h0
   rw [if_neg h0]
   repeat' split at h
   all_goals first|(cases h;done)|skip
   all_goals (repeat' split)
   all_goals first|contradiction|(refine⟨?_,by omega,by omega⟩;simp [pB];omega)
theorem j8 {S R:bC}(hR:Rel S R) {m:Mb}(hf:nj S m) {X B:List Bool}(hp:X++aB S m <+: B):iv R B (X.length,false)=⟨{kr with kind:=m.kind,qp:=m.qp},{R with qp:=m.qp},((X++aB S m).length,false)⟩:=by
 have hk:=hf.kind
 have e0:∃ K,aB S m=K++(if m.kind=4 then ej (dV S.qp m.qp).1 2 else [])∧(X++K <+: B→jS R B (X.length,false)=(m.kind,((X++K).length,false))):=by
  refine⟨_,rfl,fun hp=>?_⟩
  unfold jS
  rw [hR.inter]
  by_cases hi:S.inter=true
  · rw [if_pos hi]at hp ⊢
    rw [if_pos hi,HR (by omega) hp]
    congr 1
    omega
  · rw [if_neg hi]at hp ⊢
    rw [if_neg hi]
    have hr:=C4 hp
    rw [hr.1,hr.2]
    have ha:=hf.alo (by simpa using hi)
    unfold alone at ha
    have ha':=of_decide_eq_true ha
    by_cases h4:m.kind=4
    · rw [decide_eq_true h4,if_pos rfl,h4]
    · rw [decide_eq_false h4,if_neg (by decide)]
      congr 1
      omega
 obtain⟨K,eK,hK⟩:=e0
 rw [eK,←List.append_assoc]at hp ⊢
 have hp1:X++K <+: B:=(List.prefix_append _ _).trans hp
 have e1:=hK hp1
 have e2:Dm R B (m.kind,((X++K).length,false))=(m.qp,(((X++K)++(if m.kind=4 then ej (dV S.qp m.qp).1 2 else [])).length,false)):=by
  unfold Dm
  by_cases h4:m.kind=4
  · rw [if_pos h4]at hp ⊢
    have hs:=wt S.qp m.qp
    have hb:=E0 (hf.st h4)
    have:=C3 (k:=2) ⟨hs.1,by omega⟩ hp
    rw [if_pos h4]
    simp only [this,hR.qp]
    rw [if_neg (by omega),hb.1]
  · rw [if_neg h4,if_neg h4,List.append_nil,hR.qp,hf.qp h4]
 unfold iv
 rw [e1,e2]
theorem xF {S R:bC}(h:Rel S R) {m:Mb}(hf:nj S m):Rel (fc S m) {R with qp:=m.qp}:=by
 by_cases h4:m.kind=4
 · rw [n5 h4]
   exact⟨h.inter,rfl,h.cols,h.rows,h.M,h.a,h.b,h.c⟩
 · rw [dK h4]
   exact⟨h.inter,hf.qp h4,h.cols,h.rows,h.M,h.a,h.b,h.c⟩
theorem zK {S R:bC}(h:Rel S R) {M N:fZ}(hm:∀ k,ct N k=ct M k):Rel {S with M:=M} {R with M:=N}:=⟨h.inter,h.qp,h.cols,h.rows,hm,h.a,h.b,h.c⟩
theorem IG {S:bC} {z:jc}(hR:Rel S z.S) (hT:ch S.M) {m:Mb} {mb:Int} {k:Nat}(hr:d9 (m.v k)=true) {X B:List Bool}(hz:z.r=(X.length,false)) (hp:X++cJ (m.v k) (cf S.M S.cols S.rows mb k) <+: B) :
 Dr B mb z k=⟨{z.m with v:=l9 z.m.v k (m.v k)},{z.S with M:=aZ z.S.M z.S.cols mb k (m.v k)},((X++cJ (m.v k) (cf S.M S.cols S.rows mb k)).length,false)⟩:=by
 have e:pE B (cf z.S.M z.S.cols z.S.rows mb k) z.r=(m.v k,((X++cJ (m.v k) (cf S.M S.cols S.rows mb k)).length,false)):=by
  rw [hR.cols,hR.rows,wJ hR.M,hz]
  exact HT (cV hT) hr hp
 unfold Dr
 rw [e]
theorem KE {S R:bC}(h:Rel S R) (mb k:Int) (v:Int × Int):Rel {S with M:=aZ S.M S.cols mb k v} {R with M:=aZ R.M R.cols mb k v}:=
 zK h (fun j=>by rw [h.cols];exact mc h.M ..)
structure pK (S:bC) (Y:List Bool) (m:Mb) (z:jc):Prop where
 rel:Rel S z.S
 r:z.r=(Y.length,false)
 kind:z.m.kind=m.kind
 qp:z.m.qp=m.qp
 v:∀ k,k<4→z.m.v k=m.v k
 edge:z.m.edge=m.edge
 lev:∀ i,z.m.lev i=0
theorem Fu {m:Mb}(hv:∀ k,k<4→pD m k) (h2:m.kind≠2):∀ k,k<4→m.v 0=m.v k:=fun k hk=>((hv k hk).2.1 h2).symm
theorem wH {m:Mb}(hv:∀ k,k<4→pD m k) (h1:m.kind≠1) (h2:m.kind≠2):∀ k,k<4→(0,0)=m.v k:=fun k hk=>((hv k hk).2.2 h1 h2).symm
theorem ql {m:Mb}(h3:m.kind≠3) (h4:m.kind≠4):alone m=false:=decide_eq_false (by omega)
theorem Ov {S R:bC}(hR:Rel S R) {m:Mb} {mb:Int}(hf:nj S m) (h0:m.kind=0) {X B:List Bool}(hp:X++aB S m <+: B):pK (ba S mb m.v) (X++aB S m) m (ee mb (iv R B (X.length,false))):=by
 rw [j8 hR hf hp]
 have h:=xF hR hf
 rw [dK (by omega)]at h
 have hv:=wH hf.vecs (by omega) (by omega)
 exact⟨zK h (fun k=>by rw [h.cols];exact o6 h.M _ _ hv k),rfl,rfl,rfl,hv,(hf.edge (ql (by omega) (by omega))).symm,fun _=>rfl⟩
theorem Ow {S R:bC}(hR:Rel S R) (hT:ch S.M) {m:Mb} {mb:Int}(hf:nj S m) (h1:m.kind=1) {X B:List Bool}(hp:(av m mb (S,X++aB S m) 0).2 <+: B):pK (ba (av m mb (S,X++aB S m) 0).1 mb m.v) (av m mb (S,X++aB S m) 0).2 m (ee mb (fh B mb (iv R B (X.length,false)))):=by
 have hp1:X++aB S m <+: B:=(List.prefix_append _ _).trans hp
 have h:=xF hR hf
 rw [dK (by omega)]at h
 have hv:=Fu hf.vecs (by omega)
 have e:pE B (cf R.M R.cols R.rows mb 0) ((X++aB S m).length,false)=(m.v 0,((av m mb (S,X++aB S m) 0).2.length,false)):=by
  rw [hR.cols,hR.rows,wJ hR.M]
  exact HT (cV hT) (hf.vecs 0 (by omega)).1 hp
 rw [j8 hR hf hp1]
 unfold fh
 rw [if_pos h1]
 show pK _ _ _ (ee mb ⟨{kr with kind:=m.kind,qp:=m.qp,v:=fun _=>(pE B (cf R.M R.cols R.rows mb 0) ((X++aB S m).length,false)).1},{R with qp:=m.qp},(pE B (cf R.M R.cols R.rows mb 0) ((X++aB S m).length,false)).2⟩)
 rw [e]
 exact⟨zK (S:=S) h (fun k=>by rw [h.cols];exact xU h.M _ _ hv _ k),rfl,rfl,rfl,hv,(hf.edge (ql (by omega) (by omega))).symm,fun _=>rfl⟩
theorem q_ {x:bC × List Bool} {z:jc}(hR:Rel x.1 z.S) (hT:ch x.1.M) {m:Mb} {mb:Int} {k:Nat}(hr:d9 (m.v k)=true) {B:List Bool}(hz:z.r=(x.2.length,false)) (hp:(av m mb x k).2 <+: B) :
 Rel (av m mb x k).1 (Dr B mb z k).S∧(Dr B mb z k).r=((av m mb x k).2.length,false)∧(Dr B mb z k).m = {z.m with v:=l9 z.m.v k (m.v k)}:=by
 rw [IG hR hT hr hz hp]
 exact⟨KE hR mb k (m.v k),rfl,rfl⟩
theorem Ox {S R:bC}(hR:Rel S R) (hT:ch S.M) {m:Mb}(hm:i_ m) {mb:Int}(hf:nj S m) (h2:m.kind=2) {X B:List Bool}(hp:(av m mb (av m mb (av m mb (av m mb (S,X++aB S m) 0) 1) 2) 3).2 <+: B):pK (ba (av m mb (av m mb (av m mb (av m mb (S,X++aB S m) 0) 1) 2) 3).1 mb m.v) (av m mb (av m mb (av m mb (av m mb (S,X++aB S m) 0) 1) 2) 3).2 m (ee mb (fh B mb (iv R B (X.length,false)))):=by
 have p3:(av m mb (av m mb (av m mb (S,X++aB S m) 0) 1) 2).2 <+: B:=(List.prefix_append _ _).trans hp
 have p2:(av m mb (av m mb (S,X++aB S m) 0) 1).2 <+: B:=(List.prefix_append _ _).trans p3
 have p1:(av m mb (S,X++aB S m) 0).2 <+: B:=(List.prefix_append _ _).trans p2
 have p0:X++aB S m <+: B:=(List.prefix_append _ _).trans p1
 have h:=xF hR hf
 rw [dK (by omega)]at h
 rw [j8 hR hf p0]
 unfold fh
 rw [if_neg (by show¬m.kind=1;omega),if_pos h2]
 obtain⟨z0,hz0⟩:∃ z0:jc,(⟨{kr with kind:=m.kind,qp:=m.qp},{R with qp:=m.qp},((X++aB S m).length,false)⟩:jc)=z0:=⟨_,rfl⟩
 have i0:Rel (S,X++aB S m).1 z0.S:=by rw [←hz0];exact h
 have i1:z0.r=((S,X++aB S m).2.length,false):=by rw [←hz0]
 have i2:z0.m = {kr with kind:=m.kind,qp:=m.qp}:=by rw [←hz0]
 rw [hz0]
 clear hz0
 have s0:=q_ (k:=0) i0 hT (hf.vecs 0 (by omega)).1 i1 p1
 have T1:=bH (cols:=S.cols) (mb:=mb) (k:=0) hT (hm.v 0)
 have s1:=q_ (k:=1) s0.1 T1 (hf.vecs 1 (by omega)).1 s0.2.1 p2
 have T2:=bH (cols:=S.cols) (mb:=mb) (k:=1) T1 (hm.v 1)
 have s2:=q_ (k:=2) s1.1 T2 (hf.vecs 2 (by omega)).1 s1.2.1 p3
 have T3:=bH (cols:=S.cols) (mb:=mb) (k:=2) T2 (hm.v 2)
 have s3:=q_ (k:=3) s2.1 T3 (hf.vecs 3 (by omega)).1 s2.2.1 hp
 obtain⟨z3,hz3⟩:∃ z3,Dr B mb (Dr B mb (Dr B mb (Dr B mb z0 0) 1) 2) 3=z3:=⟨_,rfl⟩
 have em:z3.m = {kr with kind:=m.kind,qp:=m.qp,v:=l9 (l9 (l9 (l9 kr.v 0 (m.v 0)) 1 (m.v 1)) 2 (m.v 2)) 3 (m.v 3)}:=by
  rw [←hz3,s3.2.2,s2.2.2,s1.2.2,s0.2.2,i2]
 have hv:∀ k,k<4→z3.m.v k=m.v k:=fun k hk=>by
  rw [em]
  match k,hk with
  | 0,_=>rfl
  | 1,_=>rfl
  | 2,_=>rfl
  | 3,_=>rfl
 rw [hz3]at s3 ⊢
 exact⟨zK s3.1 (fun k=>by rw [s3.1.cols];exact o6 s3.1.M _ _ hv k),s3.2.1,by show z3.m.kind=_;rw [em],by show z3.m.qp=_;rw [em],hv,by show z3.m.edge=_;rw [em];exact(hf.edge (ql (by omega) (by omega))).symm,fun i=>by show z3.m.lev i=0;rw [em];rfl⟩
theorem Oy {S R:bC}(hR:Rel S R) {m:Mb} {mb:Int}(hf:nj S m) (h34:m.kind=3∨m.kind=4) {X B:List Bool}(hp:(X++aB S m)++[m.edge] <+: B):pK (ba (fc S m) mb m.v) ((X++aB S m)++[m.edge]) m (ee mb (fh B mb (iv R B (X.length,false)))):=by
 have p0:X++aB S m <+: B:=(List.prefix_append _ _).trans hp
 have h:=xF hR hf
 rw [j8 hR hf p0]
 have hr:=C4 hp
 rw [Dk (by show¬m.kind=1;omega) (by show¬m.kind=2;omega)]
 rw [hr.1,hr.2]
 have hv:=wH hf.vecs (by omega) (by omega)
 exact⟨zK h (fun k=>by rw [h.cols];exact o6 h.M _ _ hv k),rfl,rfl,rfl,hv,rfl,fun _=>rfl⟩
theorem GR {S R:bC}(hR:Rel S R) (hT:ch S.M) {m:Mb}(hm:i_ m) {mb:Int}(hf:nj S m) (h0:m.kind≠0) {X B:List Bool}(hp:(cp S X m mb).2 <+: B):pK (cp S X m mb).1 (cp S X m mb).2 m (ee mb (fh B mb (iv R B (X.length,false)))):=by
 have hk:=hf.kind
 unfold cp at hp ⊢
 rw [if_neg h0]at hp ⊢
 split at hp
 · rename_i h1
   rw [if_pos h1]
   exact Ow hR hT hf h1 hp
 · rename_i h1
   rw [if_neg h1]
   split at hp
   · rename_i h2
     rw [if_pos h2]
     exact Ox hR hT hm hf h2 hp
   · rename_i h2
     rw [if_neg h2]
     exact Oy hR hf (by omega) hp
theorem ib {m:Mb} {mb:Int} {x0:pe} {k:Nat} {x:pe}(h:fq m mb x0 (k+1)=some x):∃ y r,fq m mb x0 k=some y∧fV m y.S mb k=some r∧x=cy m mb k y (pk m y.S mb k r):=by
 rw [fq]at h
 obtain⟨y,hy,h2⟩:=Option.bind_eq_some_iff.1 h
 obtain⟨r,hr,h3⟩:=Option.map_eq_some_iff.1 h2
 exact⟨y,r,hy,hr,h3.symm⟩
structure FZ (m:Mb) (k:Nat) (x:pe) (z:jc):Prop where
 rel:Rel x.S z.S
 r:z.r=(x.B.length,false)
 kind:z.m.kind=m.kind
 qp:z.m.qp=m.qp
 v:∀ j,j<4→z.m.v j=m.v j
 edge:z.m.edge=m.edge
 lev:∀ i,z.m.lev i=if i%64=0∧i<64*k then m.lev i else 0
theorem Ef {m:Mb} {mb:Int}(ha:alone m=true) (hg:kb m) {x0:pe} {z:jc}(hz:pK x0.S x0.B m z) {B:List Bool}:∀ k,k≤6→∀ x,fq m mb x0 k=some x→x.B <+: B→FZ m k x (iH B mb z k):=by
 intro k
 induction k with
 | zero=>
   intro _ x hx hp
   cases hx
   exact⟨hz.rel,hz.r,hz.kind,hz.qp,hz.v,hz.edge,fun i=>by rw [if_neg (by omega)];exact hz.lev i⟩
 | succ k ih=>
   intro hk x hx hp
   obtain⟨y,r,hy,hr,rfl⟩:=ib hx
   have eB:(cy m mb k y (pk m y.S mb k r)).B=y.B++aX (aE m k 0-(aL y.S mb k m.qp).2):=if_pos ha
   have eS:(cy m mb k y (pk m y.S mb k r)).S=aN y.S mb k ⟨aE m k,m.qp⟩:=if_pos ha
   rw [eB]at hp
   have h:=ih (by omega) y hy ((List.prefix_append _ _).trans hp)
   obtain⟨w,hw⟩:∃ w,iH B mb z k=w:=⟨_,rfl⟩
   rw [hw]at h
   have hd:=KB (lO hg (S:=y.S) (mb:=mb) ha (by omega)) hp
   rw [←h.r]at hd
   have e0:aE m k 0=m.lev (k*64):=by unfold aE;rw [Nat.add_zero]
   have hl:=hg.first ha k (by omega)
   have ev:Bc B mb w k=m.lev (k*64):=by
    unfold Bc
    rw [hd,h.qp,ID h.rel,e0]
    show(aL y.S mb k m.qp).2+(m.lev (k*64)-(aL y.S mb k m.qp).2)=m.lev (k*64)
    omega
   have hb:¬vg B mb w k:=by unfold vg;rw [ev];omega
   have el:Bb B mb w k=m.lev (k*64):=by unfold Bb;rw [if_neg hb,ev]
   show FZ m (k+1) _ (si B mb (iH B mb z k) k)
   rw [hw]
   have eq1:kq ⟨aE (Jo B mb w k) k,(Jo B mb w k).qp⟩=kq ⟨aE m k,m.qp⟩:=by
    have e1:aE (Jo B mb w k) k 0=m.lev (k*64):=by
     show c8 w.m.lev (k*64) (Bb B mb w k) (k*64+0)=m.lev (k*64)
     rw [el];unfold c8;rw [if_pos (Nat.add_zero _)]
    show(aE (Jo B mb w k) k 0,w.m.qp)=(aE m k 0,m.qp)
    rw [e1,e0,h.qp]
   refine⟨?_,?_,h.kind,h.qp,h.v,h.edge,?_⟩
   · rw [eS]
     exact IK h.rel mb k eq1
   · rw [eB]
     show(if vg B mb w k then((fJ B w.r).2.1,true)else(fJ B w.r).2)=_
     rw [if_neg hb,hd]
   · intro i
     show c8 w.m.lev (k*64) (Bb B mb w k) i=_
     rw [el]
     unfold c8
     by_cases hi:i=k*64
     · rw [if_pos hi,if_pos (by omega),hi]
     · rw [if_neg hi,h.lev i]
       by_cases h2:i%64=0∧i<64*k
       · rw [if_pos h2,if_pos (by omega)]
       · rw [if_neg h2,if_neg (by omega)]
theorem AX {m:Mb} {mb:Int}(ha:alone m=false) {x0:pe}:∀ k x,fq m mb x0 k=some x→x.S=x0.S∧x.B=x0.B:=by
 intro k
 induction k with
 | zero=>intro x hx;cases hx;exact⟨rfl,rfl⟩
 | succ k ih=>
   intro x hx
   obtain⟨y,r,hy,hr,rfl⟩:=ib hx
   have h:=ih y hy
   have eB:(cy m mb k y (pk m y.S mb k r)).B=y.B:=if_neg (by rw [ha];decide)
   have eS:(cy m mb k y (pk m y.S mb k r)).S=y.S:=if_neg (by rw [ha];decide)
   rw [eB,eS];exact h
theorem Ks:∀(a:Fin 16) (k j:Fin 4),decide (vk .i64 (eI (a.val:Int) (k.val:Int)) (8/2^j.val)≠0)=(decide (j=k) || decide (vk .i64 (a.val:Int) (8/2^j.val)≠0)):=by decide +kernel
theorem JF:∀(a:Fin 4) (k j:Fin 2),decide (vk .u64 (ic (a.val:Int) ((k.val+4:Nat):Int)) (2/2^j.val)≠0)=(decide (j=k) || decide (vk .u64 (a.val:Int) (2/2^j.val)≠0)):=by decide +kernel
theorem J6 {a c:Int}(h:0≤a∧a<16) {k j:Nat}(hk:k<4) (hj:j<6):kO (eI a k) c j=(decide (j=k) || kO a c j):=by
 unfold kO
 by_cases h4:j<4
 · rw [if_pos h4,if_pos h4]
   have:=Ks ⟨a.toNat,by omega⟩ ⟨k,hk⟩ ⟨j,h4⟩
   simp only [Int.toNat_of_nonneg h.1,Fin.mk.injEq]at this
   exact this
 · rw [if_neg h4,if_neg h4,decide_eq_false (by omega:¬j=k),Bool.false_or]
theorem J5 {a c:Int}(h:0≤c∧c<4) {k j:Nat}(hk4:¬k<4) (hk:k<6) (hj:j<6):kO a (ic c k) j=(decide (j=k) || kO a c j):=by
 unfold kO
 by_cases h4:j<4
 · rw [if_pos h4,if_pos h4,decide_eq_false (by omega:¬j=k),Bool.false_or]
 · rw [if_neg h4,if_neg h4]
   have:=JF ⟨c.toNat,by omega⟩ ⟨k-4,by omega⟩ ⟨j-4,by omega⟩
   simp only [Int.toNat_of_nonneg h.1,Fin.mk.injEq,show k-4+4=k by omega]at this
   rw [this]
   congr 1
   exact decide_eq_decide.2 (by omega)
structure NY (x:pe):Prop where
 pat:0≤x.pat∧x.pat<16
 col:0≤x.col∧x.col<4
 has:∀ j,j<6→kO x.pat x.col j=decide (0<(x.ev j).length)
theorem J7 {m:Mb} {mb:Int} {S:bC} {X:List Bool}:∀ k,k≤6→∀ x,fq m mb ⟨S,X,0,0,fun _=>[]⟩ k=some x→NY x∧∀ j,k≤j→x.ev j = []:=by
 intro k
 induction k with
 | zero=>
   intro _ x hx
   cases hx
   refine⟨⟨by show(0:Int)≤0∧(0:Int)<16;decide,by show(0:Int)≤0∧(0:Int)<4;decide,?_⟩,fun _ _=>rfl⟩
   have:∀ j:Fin 6,kO 0 0 j.val=false:=by decide
   intro j hj
   exact this ⟨j,hj⟩
 | succ k ih=>
   intro hk x hx
   obtain⟨y,r,hy,hr,rfl⟩:=ib hx
   obtain⟨h,hn⟩:=ih (by omega) y hy
   obtain⟨ev,hev⟩:∃ ev,pk m y.S mb k r=ev:=⟨_,rfl⟩
   rw [hev]
   refine⟨⟨?_,?_,?_⟩,?_⟩
   · show 0≤(if 0<ev.length∧k<4 then eI y.pat k else y.pat)∧(if 0<ev.length∧k<4 then eI y.pat k else y.pat)<16
     split
     · rename_i g;exact zC h.pat g.2
     · exact h.pat
   · show 0≤(if 0<ev.length∧¬k<4 then ic y.col k else y.col)∧(if 0<ev.length∧¬k<4 then ic y.col k else y.col)<4
     split
     · rename_i g;exact yR h.col g.2 (by omega)
     · exact h.col
   · intro j hj
     show kO (if 0<ev.length∧k<4 then eI y.pat k else y.pat) (if 0<ev.length∧¬k<4 then ic y.col k else y.col) j=decide (0<(if j=k then ev else y.ev j).length)
     have e2:kO (if 0<ev.length∧k<4 then eI y.pat k else y.pat) (if 0<ev.length∧¬k<4 then ic y.col k else y.col) j=(decide (j=k∧0<ev.length) || kO y.pat y.col j):=by
      by_cases he:0<ev.length
      · by_cases h4:k<4
        · rw [if_pos ⟨he,h4⟩,if_neg (fun g=>g.2 h4),J6 h.pat h4 hj]
          congr 1;exact decide_eq_decide.2 ⟨fun g=>⟨g,he⟩,fun g=>g.1⟩
        · rw [if_neg (fun g=>h4 g.2),if_pos ⟨he,h4⟩,J5 h.col h4 (by omega) hj]
          congr 1;exact decide_eq_decide.2 ⟨fun g=>⟨g,he⟩,fun g=>g.1⟩
      · rw [if_neg (fun g=>he g.1),if_neg (fun g=>he g.1),decide_eq_false (fun g=>he g.2),Bool.false_or]
     rw [e2]
     by_cases hjk:j=k
     · subst hjk
       rw [h.has j hj,hn j (Nat.le_refl _),if_pos rfl,decide_eq_false (show¬0<([]:List Ev).length from Nat.lt_irrefl 0),Bool.or_false]
       exact decide_eq_decide.2 ⟨fun g=>g.2,fun g=>⟨rfl,g⟩⟩
     · rw [if_neg hjk,decide_eq_false (fun g=>hjk g.1),Bool.false_or]
       exact h.has j hj
   · intro j hj
     show(if j=k then ev else y.ev j) = []
     rw [if_neg (by omega)]
     exact hn j (by omega)
noncomputable def fH (S:bC) (X bw:List Bool) (m:Mb) (mb:Int):Option (bC × List Bool × List Bool):=
 if m.kind=0 then some (ba S mb m.v,X++aB S m,bw)else(fq m mb ⟨(cp S X m mb).1,(cp S X m mb).2,0,0,fun _=>[]⟩ 6).map fun x=>(x.S,eY x,bB bw x 6)
noncomputable def tH (S:bC) (X:List Bool) (m:Mb) (mb:Int) (k:Nat):List Ev:=
 if m.kind=0 then []else match fq m mb ⟨(cp S X m mb).1,(cp S X m mb).2,0,0,fun _=>[]⟩ 6 with
  | some x=>x.ev k
  | none=>[]
theorem Fb {S R:bC}(hR:Rel S R) (hT:ch S.M) {m:Mb}(hg:kb m) {mb:Int}(hf:nj S m) {X bw B:List Bool} {S':bC} {X' bw':List Bool}(hput:fH S X bw m mb=some (S',X',bw')) (hp:X' <+: B) :
 (dD R B mb (X.length,false)).1.r=(X'.length,false)∧Rel S' (dD R B mb (X.length,false)).1.S∧Cj m (dD R B mb (X.length,false)).1.m∧∀ k,k<6→(dD R B mb (X.length,false)).2 k=decide (0<(tH S X m mb k).length):=by
 unfold fH at hput
 unfold dD
 by_cases h0:m.kind=0
 · rw [if_pos h0]at hput
   have e:=Option.some.inj hput
   have e1:=(Prod.mk.inj e).1
   have e2:=(Prod.mk.inj (Prod.mk.inj e).2).1
   subst e1 e2
   have h:=Ov (mb:=mb) hR hf h0 hp
   have hk:(iv R B (X.length,false)).m.kind=0:=by rw [j8 hR hf hp];exact h0
   unfold Nt
   rw [if_pos hk]
   refine⟨h.r,h.rel,⟨h.kind,h.qp,h.v,h.edge,fun i=>?_⟩,fun k _=>?_⟩
   · rw [if_neg (fun g=>by have:=g.1;rw [ql (by omega) (by omega)]at this;cases this)]
     exact h.lev i
   · unfold tH
     rw [if_pos h0]
     rfl
 · rw [if_neg h0]at hput
   obtain⟨x,hx,e⟩:=Option.map_eq_some_iff.1 hput
   have e1:=(Prod.mk.inj e).1
   have e2:=(Prod.mk.inj (Prod.mk.inj e).2).1
   have e3:=(Prod.mk.inj (Prod.mk.inj e).2).2
   subst e1 e2 e3
   unfold eY at hp
   have hp1:x.B++db cP x.pat.toNat <+: B:=(List.prefix_append _ _).trans hp
   have hp2:x.B <+: B:=(List.prefix_append _ _).trans hp1
   obtain⟨hho,_⟩:=J7 6 (Nat.le_refl _) x hx
   have hev:∀ k,tH S X m mb k=x.ev k:=fun k=>by unfold tH;rw [if_neg h0,hx]
   have hpre:(cp S X m mb).2 <+: x.B:=by
    have:∀ k x,fq m mb ⟨(cp S X m mb).1,(cp S X m mb).2,0,0,fun _=>[]⟩ k=some x→(cp S X m mb).2 <+: x.B:=by
     intro k
     induction k with
     | zero=>intro x hx;cases hx;exact List.prefix_refl _
     | succ k ih=>
       intro x hx
       obtain⟨y,r,hy,hr,rfl⟩:=ib hx
       refine(ih y hy).trans ?_
       show y.B <+: (if alone m=true then y.B++_ else y.B)
       split
       · exact List.prefix_append _ _
       · exact List.prefix_refl _
    exact this 6 x hx
   have hh:=GR hR hT hg.ok hf h0 (hpre.trans hp2)
   have hk:(iv R B (X.length,false)).m.kind≠0:=by
    have:X++aB S m <+: B:=by
     refine List.IsPrefix.trans ?_ (hpre.trans hp2)
     unfold cp
     rw [if_neg h0]
     split
     · exact List.prefix_append _ _
     · split
       · exact(((List.prefix_append _ _).trans (List.prefix_append _ _)).trans (List.prefix_append _ _)).trans (List.prefix_append _ _)
       · exact List.prefix_append _ _
    rw [j8 hR hf this];exact h0
   obtain⟨z,hz⟩:∃ z,ee mb (fh B mb (iv R B (X.length,false)))=z:=⟨_,rfl⟩
   rw [hz]at hh
   have hrun:FZ m (if alone m=true then 6 else 0) x (gY B mb z):=by
    unfold gY
    have eal:alone z.m=alone m:=by unfold alone;rw [hh.kind]
    rw [eal]
    by_cases ha:alone m=true
    · rw [if_pos ha,if_pos ha]
      exact Ef ha hg (x0:=⟨(cp S X m mb).1,(cp S X m mb).2,0,0,fun _=>[]⟩) hh 6 (Nat.le_refl _) x hx hp2
    · have ha':alone m=false:=by simpa using ha
      have hs:=AX ha' 6 x hx
      rw [if_neg ha,if_neg ha]
      exact⟨by rw [hs.1];exact hh.rel,by rw [hs.2];exact hh.r,hh.kind,hh.qp,hh.v,hh.edge,fun i=>by rw [if_neg (by omega)];exact hh.lev i⟩
   unfold Nt
   rw [if_neg hk,hz]
   obtain⟨w,hw⟩:∃ w,gY B mb z=w:=⟨_,rfl⟩
   rw [hw]at hrun ⊢
   have hpt:=KC (n:=x.pat.toNat) (by have:=hho.pat;omega) hp1
   rw [Int.toNat_of_nonneg hho.pat.1]at hpt
   have hcl:=C3 (k:=2) ⟨hho.col.1,hho.col.2⟩ hp
   unfold z9
   rw [hrun.r,hpt]
   simp only []
   rw [hcl]
   refine⟨rfl,hrun.rel,⟨hrun.kind,hrun.qp,hrun.v,hrun.edge,fun i=>?_⟩,fun k hk=>?_⟩
   · show w.m.lev i=_
     rw [hrun.lev i]
     by_cases ha:alone m=true
     · rw [if_pos ha]
       by_cases g:i%64=0∧i<64*6
       · rw [if_pos g,if_pos ⟨ha,g.1,by omega⟩]
       · rw [if_neg g,if_neg (fun h=>g ⟨h.2.1,by omega⟩)]
     · rw [if_neg ha,if_neg (by omega),if_neg (fun h=>ha h.1)]
   · rw [hev k]
     exact hho.has k hk
end Go.Proofs.YtagpkhindehcbaaGreat
namespace Go.Proofs.YtagpkhindehcbaaGreat
open Go.Xm
variable [az]
theorem K4 {S:bC} {B bw:List Bool} {m:Mb} {mb:Int}(hP:kP S B bw m mb) {S':bC} {B' bw':List Bool}(h:fH S B bw m mb=some (S',B',bw')) :
 bn Tryz.prog 29 [.one (.ptr 2 0),.one (.ptr 0 0),.one (.ptr 22 0),.one (.int .i64 mb),.agg (mC m)] (aP 1 B::aq B::(dI S++[aP 23 bw,aq bw])) (.one (.int .i64 0)) (aP 24 B' :: .dead::(dI S'++[aP 25 bw',.dead,aq B',aq bw'])):=by
 have hk:=hP.good.kind
 have hk0:=hP.good.ok.kind
 unfold fH at h
 by_cases h0:m.kind=0
 · rw [if_pos h0]at h
   cases Option.some.inj h
   exact OP hP h0
 · rw [if_neg h0]at h
   obtain⟨x,hx,e⟩:=Option.map_eq_some_iff.1 h
   cases e
   unfold cp at hx
   by_cases h1:m.kind=1
   · rw [if_neg h0,if_pos h1]at hx
     exact OQ hP h1 x hx
   · by_cases h2:m.kind=2
     · rw [if_neg h0,if_neg h1,if_pos h2]at hx
       exact OR hP h2 x hx
     · rw [if_neg h0,if_neg h1,if_neg h2]at hx
       by_cases h3:m.kind=3
       · rw [dK (by omega)]at hx
         exact OS hP h3 x hx
       · have h4:m.kind=4:=by omega
         rw [n5 h4]at hx
         exact OT hP h4 x hx
theorem Ip {S:bC} {B bw:List Bool} {m:Mb} {mb:Int}(hP:kP S B bw m mb) (h:fH S B bw m mb=none) :
 bn Tryz.prog 29 [.one (.ptr 2 0),.one (.ptr 0 0),.one (.ptr 22 0),.one (.int .i64 mb),.agg (mC m)] (aP 1 B::aq B::(dI S++[aP 23 bw,aq bw])) (.one (.int .i64 2)) nr:=by
 have hk:=hP.good.kind
 have hk0:=hP.good.ok.kind
 unfold fH at h
 by_cases h0:m.kind=0
 · rw [if_pos h0]at h
   cases h
 · rw [if_neg h0]at h
   have hx:=Option.map_eq_none_iff.1 h
   unfold cp at hx
   by_cases h1:m.kind=1
   · rw [if_neg h0,if_pos h1]at hx
     exact No hP h1 hx
   · by_cases h2:m.kind=2
     · rw [if_neg h0,if_neg h1,if_pos h2]at hx
       exact Np hP h2 hx
     · rw [if_neg h0,if_neg h1,if_neg h2]at hx
       by_cases h3:m.kind=3
       · rw [dK (by omega)]at hx
         exact Nq hP h3 hx
       · have h4:m.kind=4:=by omega
         rw [n5 h4]at hx
         exact Nr hP h4 hx
theorem BB {S:bC} {B bw:List Bool} {m:Mb} {mb:Int}(hP:kP S B bw m mb) {S':bC} {B' bw':List Bool}(h:fH S B bw m mb=some (S',B',bw')) {HS:aj} {i k j g N:Nat}(hi:HS[i]? = some (aP k B)) (hk:HS[k]? = some (aq B)) (hS:HS.take 13=fk) (hN:(HS.drop N).take 7=xN S N) (hj:HS[j]? = some (aP g bw)) (hg:HS[g]? = some (aq bw))
 (hnd:(i::k::kB N [j,g]).Nodup) {M:Nat}(hM:HS.length=M) {HS':aj}(hh:bG HS [i,k,N,0,1,2,3,4,5,6,7,8,9,10,11,12,N+1,N+2,N+3,N+4,N+5,N+6,j,g] [aP M B',.dead,H2 S' N,bM 1 5 9,ax 2 3 4 cM,aU cM,aW cM,aV cM,ax 6 7 8 cZ,aU cZ,aW cZ,aV cZ,ax 10 11 12 cP,aU cP,aW cP,aV cP,cg (N+2) S'.cols S'.rows,.map (bg S'.M),It S' N,.map (ah S'.A),.map (ah S'.B),.map (ah S'.C),aP (M+1) bw',.dead,aq B',aq bw']=HS') (hbd:Nat.blt HS'.length Mem.bound=true) :
 aH.Sound Tryz.prog ⟨29,[.one (.ptr N 0),.one (.ptr i 0),.one (.ptr j 0),.one (.int .i64 mb),.agg (mC m)],HS,.one (.int .i64 0),HS',i::k::kB N [j,g]⟩:=by
 subst hM
 have h3:=ua i k N [j,g]
 have h16:=qJ i k N [j,g]
 have h3':=ua i k N ([j,g]++List.range' HS.length 2)
 have h16':=qJ i k N ([j,g]++List.range' HS.length 2)
 have hv:=xP (S:=S) hS hN h3 h16 (ls:=[j,g]) (l:=[aP 23 bw,aq bw]) (ae.ed hj rfl rfl rfl (.flat hg .nil))
 have ho:=gp S 24 (by omega) (l:=[aP 23 bw,aq bw]) (.cons (by simp [ak.b7,XC.ok,bc]) (.flat .nil))
 have ho':=gp S' 26 (by omega) (l:=[aP 25 bw',.dead,aq B',aq bw']) (.cons (by simp [ak.b7,XC.ok,bc]) (.flat (.flat (.flat .nil))))
 have hr:=BN (S:=S') (N:=N) h3' h16' (l:=[aP 25 bw',.dead,aq B',aq bw']) (l':=[aP (HS.length+1) bw',.dead,aq B',aq bw']) (.cons (by simp only [ak.ay,List.map_cons,List.map_nil,XC.ay,aw];rfl) (.flat (.flat (.flat .nil))))
 refine bV (os:=aP HS.length B' :: .dead::K5 S' N [aP (HS.length+1) bw',.dead,aq B',aq bw']) (i::k::kB N [j,g]) (i::k::kB N [j,g]) 2 (K4 hP h) hnd (ae.ed hi rfl rfl rfl (.flat hk hv)) (.cons (by simp [ak.b7,XC.ok,bc]) (.flat ho)) (.cons (by simp [ak.b7,XC.ok,bc]) (.flat ho')) rfl (.cons (by show 2<24;omega) (.cons (by show 0<24;omega) (.cons (by show 22<24;omega) (.flat (.flat .nil))))) (.cons rfl (.cons rfl (.cons rfl (.flat (.flat .nil))))) (bz.ok _) (bz.ay _) ?_ (C7 ..) rfl hh hbd (.inl rfl)
 exact .cons (by simp only [ak.ay,List.map_cons,List.map_nil,XC.ay,aw];rfl) (.flat hr)
theorem JB {S:bC} {B bw:List Bool} {m:Mb} {mb:Int}(hP:kP S B bw m mb) (h:fH S B bw m mb=none) {HS:aj} {i k j g N:Nat}(hi:HS[i]? = some (aP k B)) (hk:HS[k]? = some (aq B)) (hS:HS.take 13=fk) (hN:(HS.drop N).take 7=xN S N) (hj:HS[j]? = some (aP g bw)) (hg:HS[g]? = some (aq bw))
 (hnd:(i::k::kB N [j,g]).Nodup) {HS':aj}(hh:bG HS [i,k,N,0,1,2,3,4,5,6,7,8,9,10,11,12,N+1,N+2,N+3,N+4,N+5,N+6,j,g] [.dead,.dead,.dead,bM 1 5 9,ax 2 3 4 cM,aU cM,aW cM,aV cM,ax 6 7 8 cZ,aU cZ,aW cZ,aV cZ,ax 10 11 12 cP,aU cP,aW cP,aV cP,.dead,.dead,.dead,.dead,.dead,.dead,.dead,.dead]=HS') (hbd:Nat.blt HS'.length Mem.bound=true) :
 aH.Sound Tryz.prog ⟨29,[.one (.ptr N 0),.one (.ptr i 0),.one (.ptr j 0),.one (.int .i64 mb),.agg (mC m)],HS,.one (.int .i64 2),HS',i::k::kB N [j,g]⟩:=by
 have h3:=ua i k N [j,g]
 have h16:=qJ i k N [j,g]
 have ht2:nth ((i::k::kB N [j,g])++List.range' HS.length 0)=nth (i::k::kB N [j,g]):=by
  rw [List.range'_zero,List.append_nil]
 have hv:=xP (S:=S) hS hN h3 h16 (ls:=[j,g]) (l:=[aP 23 bw,aq bw]) (ae.ed hj rfl rfl rfl (.flat hg .nil))
 have ho:=gp S 24 (by omega) (l:=[aP 23 bw,aq bw]) (.cons (by simp [ak.b7,XC.ok,bc]) (.flat .nil))
 have hk':bl 24 nr:=by
  refine .flat (.flat (.flat (.cons ?_ (.cons ?_ (.flat (.flat (.flat (.cons ?_ (.flat (.flat (.flat (.cons ?_ (.flat (.flat (.flat (.flat (.flat (.flat (.flat (.flat (.flat (.flat (.flat .nil)))))))))))))))))))))))
  all_goals simp [ak.b7,XC.ok]
 refine bV (os:=[.dead,.dead,.dead,bM 1 5 9,ax 2 3 4 cM,aU cM,aW cM,aV cM,ax 6 7 8 cZ,aU cZ,aW cZ,aV cZ,ax 10 11 12 cP,aU cP,aW cP,aV cP,.dead,.dead,.dead,.dead,.dead,.dead,.dead,.dead]) (i::k::kB N [j,g]) (i::k::kB N [j,g]) 0 (Ip hP h) hnd (ae.ed hi rfl rfl rfl (.flat hk hv)) (.cons (by simp [ak.b7,XC.ok,bc]) (.flat ho)) hk' rfl (.cons (by show 2<24;omega) (.cons (by show 0<24;omega) (.cons (by show 22<24;omega) (.flat (.flat .nil))))) (.cons rfl (.cons rfl (.cons rfl (.flat (.flat .nil))))) (bz.ok _) (bz.ay _) ?_ (zN ..) rfl hh hbd (.inl rfl)
 rw [ht2]
 have a1:nth (i::k::kB N [j,g]) 4=1:=h3 1 (by decide)
 have a2:nth (i::k::kB N [j,g]) 5=2:=h3 2 (by decide)
 have a3:nth (i::k::kB N [j,g]) 6=3:=h3 3 (by decide)
 have a4:nth (i::k::kB N [j,g]) 7=4:=h3 4 (by decide)
 have a5:nth (i::k::kB N [j,g]) 8=5:=h3 5 (by decide)
 have a6:nth (i::k::kB N [j,g]) 9=6:=h3 6 (by decide)
 have a7:nth (i::k::kB N [j,g]) 10=7:=h3 7 (by decide)
 have a8:nth (i::k::kB N [j,g]) 11=8:=h3 8 (by decide)
 have a9:nth (i::k::kB N [j,g]) 12=9:=h3 9 (by decide)
 have b0:nth (i::k::kB N [j,g]) 13=10:=h3 10 (by decide)
 have b1:nth (i::k::kB N [j,g]) 14=11:=h3 11 (by decide)
 have b2:nth (i::k::kB N [j,g]) 15=12:=h3 12 (by decide)
 refine .flat (.flat (.flat (.cons ?_ (.cons ?_ (.flat (.flat (.flat (.cons ?_ (.flat (.flat (.flat (.cons ?_ (.flat (.flat (.flat (.flat (.flat (.flat (.flat (.flat (.flat (.flat (.flat .nil)))))))))))))))))))))))
 · simp only [ak.ay,List.map_cons,List.map_nil,XC.ay,a1,a5,a9]
 · simp only [ak.ay,List.map_cons,List.map_nil,XC.ay,a2,a3,a4]
 · simp only [ak.ay,List.map_cons,List.map_nil,XC.ay,a6,a7,a8]
 · simp only [ak.ay,List.map_cons,List.map_nil,XC.ay,b0,b1,b2]
end Go.Proofs.YtagpkhindehcbaaGreat
namespace Go.Proofs.YtagpkhindehcbaaGreat
open Go.Xm
variable [az]
theorem qA {S:bC} {m:Mb}(hm:i_ m) (hf:nj S m):kb m:=
 ⟨hm,hf.kind.2,fun i hi=>(hf.lev i hi).2.1,fun ha k hk=>(hf.lev (k*64) (by omega)).2.2 (by omega) ha⟩
theorem Ec {S:bC} {m:Mb}(hf:nj S m):∀ k,k<4→d9 (m.v k)=true:=fun k hk=>(hf.vecs k hk).1
theorem yL {m:Mb}(hg:kb m) {mb:Int} {x0:pe}(h0:yv m mb x0 (0,x0)):∀ k,k≤6→∀ x,fq m mb x0 k=some x→yv m mb x0 (k,x):=by
 intro k
 induction k with
 | zero=>
   intro _ x hx
   cases hx;exact h0
 | succ k ih=>
   intro hk x hx
   obtain⟨y,r,hy,hr,rfl⟩:=ib hx
   exact lM hg (ih (by omega) y hy) (by show k<6;omega) hr
theorem DT {m:Mb} {mb:Int} {x0:pe}:∀ k x,fq m mb x0 k=some x→x.S.inter=x0.S.inter∧x.S.qp=x0.S.qp∧x0.B <+: x.B:=by
 intro k
 induction k with
 | zero=>intro x hx;cases hx;exact⟨rfl,rfl,List.prefix_refl _⟩
 | succ k ih=>
   intro x hx
   obtain⟨y,r,hy,hr,rfl⟩:=ib hx
   obtain⟨h1,h2,h3⟩:=ih y hy
   refine⟨?_,?_,?_⟩
   · show(if alone m=true then aN y.S mb k ⟨aE m k,m.qp⟩else y.S).inter=_
     split <;> exact h1
   · show(if alone m=true then aN y.S mb k ⟨aE m k,m.qp⟩else y.S).qp=_
     split <;> exact h2
   · show x0.B <+: (if alone m=true then y.B++_ else y.B)
     split
     · exact h3.trans (List.prefix_append _ _)
     · exact h3
structure sc (S:bC) (X:List Bool) (n:Nat) (z:bC × List Bool):Prop where
 st:iy z.1
 cols:z.1.cols=S.cols
 rows:z.1.rows=S.rows
 inter:z.1.inter=S.inter
 qp:z.1.qp=S.qp
 pre:X <+: z.2
 len:z.2.length≤X.length+n
theorem nY {S:bC} {X:List Bool} {n:Nat} {z:bC × List Bool}(h:sc S X n z) {m:Mb}(hm:i_ m) (mb:Int) (k:Nat):sc S X (n+54) (av m mb z k):=by
 refine⟨⟨h.st.dims,h.st.lev,bH h.st.tiny (hm.v k)⟩,h.cols,h.rows,h.inter,h.qp,h.pre.trans (List.prefix_append _ _),?_⟩
 have:=gu (m.v k) (cf z.1.M z.1.cols z.1.rows mb k)
 have:=h.len
 show(z.2++cJ (m.v k) (cf z.1.M z.1.cols z.1.rows mb k)).length≤_
 rw [List.length_append];omega
theorem mP {S:bC} {X:List Bool} {n:Nat} {z:bC × List Bool}(h:sc S X n z) {m:Mb}(hm:i_ m) (mb:Int):sc S X n (ba z.1 mb m.v,z.2):=
 ⟨⟨h.st.dims,h.st.lev,eJ h.st.tiny hm.v⟩,h.cols,h.rows,h.inter,h.qp,h.pre,h.len⟩
theorem pQ {S:bC} {X:List Bool} {n k:Nat} {z:bC × List Bool}(h:sc S X n z) (hk:n≤k):sc S X k z:=
 ⟨h.st,h.cols,h.rows,h.inter,h.qp,h.pre,by have:=h.len;omega⟩
theorem ze {S:bC}(hS:iy S) (m:Mb):iy (fc S m)∧(fc S m).cols=S.cols∧(fc S m).rows=S.rows∧(fc S m).inter=S.inter∧(fc S m).qp=if m.kind=4 then m.qp else S.qp:=by
 unfold fc
 split
 · exact⟨⟨hS.dims,hS.lev,hS.tiny⟩,rfl,rfl,rfl,rfl⟩
 · exact⟨hS,rfl,rfl,rfl,rfl⟩
theorem tP {S:bC}(hS:iy S) {m:Mb}(hm:i_ m) {X:List Bool} {mb:Int}:sc (fc S m) (X++aB S m) 216 (cp S X m mb):=by
 have hk:=(ze hS m).1
 have h0:sc (fc S m) (X++aB S m) 0 (fc S m,X++aB S m):=⟨hk,rfl,rfl,rfl,rfl,List.prefix_refl _,Nat.le_refl _⟩
 unfold cp
 split
 · rename_i g
   rw [dK (by omega)]at h0 ⊢
   exact pQ (mP h0 hm mb) (by omega)
 · split
   · rename_i g
     rw [dK (by omega)]at h0 ⊢
     exact pQ (mP (nY h0 hm mb 0) hm mb) (by omega)
   · split
     · rename_i g
       rw [dK (by omega)]at h0 ⊢
       exact pQ (mP (nY (nY (nY (nY h0 hm mb 0) hm mb 1) hm mb 2) hm mb 3) hm mb) (by omega)
     · have h1:=mP h0 hm mb
       exact⟨h1.st,h1.cols,h1.rows,h1.inter,h1.qp,List.prefix_append _ _,by simp only [List.length_append,List.length_cons,List.length_nil];omega⟩
structure Pc (S:bC) (X bw:List Bool) (m:Mb) (z:bC × List Bool × List Bool):Prop where
 st:iy z.1
 cols:z.1.cols=S.cols
 rows:z.1.rows=S.rows
 inter:z.1.inter=S.inter
 qp:z.1.qp=m.qp
 pre:X++aB S m <+: z.2.1
 len:z.2.1.length≤X.length+1000
 lenw:z.2.2.length≤bw.length+20736
theorem rQ {S:bC}(hS:iy S) {m:Mb}(hm:i_ m) (hf:nj S m) {X bw:List Bool} {mb:Int} {z:bC × List Bool × List Bool}(h:fH S X bw m mb=some z):Pc S X bw m z:=by
 have hg:=qA hm hf
 have hh:=tP hS hm (X:=X) (mb:=mb)
 obtain⟨_,k1,k2,k3,k4⟩:=ze hS m
 have hkl:=fN S m
 have hq:(if m.kind=4 then m.qp else S.qp)=m.qp:=by
  split
  · rfl
  · rename_i h4;exact(hf.qp h4).symm
 rw [hq]at k4
 have hlx:(X++aB S m).length≤X.length+66:=by rw [List.length_append];omega
 have hhl:=hh.len
 unfold fH at h
 by_cases h0:m.kind=0
 · rw [if_pos h0]at h
   have e:cp S X m mb=(ba S mb m.v,X++aB S m):=by unfold cp;rw [if_pos h0]
   rw [e]at hh
   cases Option.some.inj h
   exact⟨hh.st,hh.cols.trans k1,hh.rows.trans k2,hh.inter.trans k3,hh.qp.trans k4,hh.pre,by show(X++aB S m).length≤_;omega,Nat.le_add_right _ _⟩
 · rw [if_neg h0]at h
   obtain⟨x,hx,e⟩:=Option.map_eq_some_iff.1 h
   cases e
   obtain⟨z0,hz0⟩:∃ z0,cp S X m mb=z0:=⟨_,rfl⟩
   rw [hz0]at hh hx hhl
   have hi:yv m mb ⟨z0.1,z0.2,0,0,fun _=>[]⟩ (0,⟨z0.1,z0.2,0,0,fun _=>[]⟩):=⟨Nat.zero_le _,rfl,hh.st,⟨rfl,rfl⟩,Nat.le_refl _,fun _ _=>rfl,fun _ => .inl rfl,by show(0:Int)≤0∧(0:Int)<16;decide,by show(0:Int)≤0∧(0:Int)<4;decide⟩
   have hb:=yL hg hi 6 (Nat.le_refl _) x hx
   have hr:=DT 6 x hx
   have hlen:x.B.length≤z0.2.length+76*6:=hb.len
   have hcl:=j7 Cz x.pat.toNat
   refine⟨hb.st,hb.cr.1.trans (hh.cols.trans k1),hb.cr.2.trans (hh.rows.trans k2),hr.1.trans (hh.inter.trans k3),hr.2.1.trans (hh.qp.trans k4),?_,?_,?_⟩
   · exact hh.pre.trans (hr.2.2.trans ((List.prefix_append _ _).trans (List.prefix_append _ _)))
   · show((x.B++db cP x.pat.toNat)++ej x.col 2).length≤_
     simp only [List.length_append,gi]
     rw [List.length_append]at hlx hhl
     omega
   · have:=rB (bw:=bw) hb.evs 6
     show(bB bw x 6).length≤_
     omega
structure PS where
 S:bC
 B:List Bool
 w:List Bool
noncomputable def jM (first:Int) (k:Nat) (m:Mb) (x:PS):Int ⊕ PS:=
 if dk m x.S.inter x.S.qp≠0 then .inl (dk m x.S.inter x.S.qp)else match fH x.S x.B x.w m (first+(k:Nat))with
  | none => .inl 2
  | some z => .inr ⟨z.1,z.2.1,z.2.2⟩
noncomputable def eg (l:List Mb) (first:Int) (x0:PS):Nat→Int ⊕ PS
 | 0 => .inr x0
 | k+1=>match eg l first x0 k with
   | .inl e => .inl e
   | .inr x=>jM first k (l.getD k kr) x
theorem ky {l:List Mb} {first:Int} {x0:PS} {k:Nat} {e:Int}(h:eg l first x0 k = .inl e):∀ j,k≤j→eg l first x0 j = .inl e:=by
 intro j hj
 induction hj with
 | refl=>exact h
 | step _ ih=>rw [eg,ih]
structure yx (p:Bool) (c r:Int) (j:Nat) (x:PS):Prop where
 st:iy x.S
 cols:x.S.cols=c
 rows:x.S.rows=r
 inter:x.S.inter=p
 qp : -1000000≤x.S.qp∧x.S.qp≤1000000
 len:x.B.length≤1000*j
 lenw:x.w.length≤20736*j
theorem oT {p:Bool} {c r:Int} {j:Nat} {x y:PS}(h:yx p c r j x) {m:Mb}(hm:i_ m) {first:Int} {k:Nat}(hy:jM first k m x = .inr y):yx p c r (j+1) y:=by
 unfold jM at hy
 split at hy
 · cases hy
 · rename_i hc
   have hc0:dk m x.S.inter x.S.qp=0:=Decidable.byContradiction fun g=>hc g
   have hf:=iz hm hc0
   split at hy
   · cases hy
   · rename_i z hz
     cases hy
     have hk:=rQ h.st hm hf hz
     have a:=hk.len
     have b:=hk.lenw
     have a':=h.len
     have b':=h.lenw
     exact⟨hk.st,hk.cols.trans h.cols,hk.rows.trans h.rows,hk.inter.trans h.inter,by rw [hk.qp];exact hm.qp,by show z.2.1.length≤_;omega,by show z.2.2.length≤_;omega⟩
theorem uk {p:Bool} {c r:Int} {j:Nat} {x:PS}(h:yx p c r j x) (hj:j≤20) {m:Mb}(hm:i_ m) {mb:Int}(hmb:0≤mb∧mb<c*r) (hc:dk m x.S.inter x.S.qp=0):kP x.S x.B x.w m mb:=by
 have hf:=iz hm hc
 have a:=h.len
 have b:=h.lenw
 exact⟨h.st,by rw [h.cols,h.rows];exact hmb,h.qp,qA hm hf,Ec hf,by omega,by omega⟩
end Go.Proofs.YtagpkhindehcbaaGreat
namespace Go.Proofs.YtagpkhindehcbaaGreat
open Go.Xm
variable [az]
instance O4 (p:Ph) (e:TypeId) (a b:Bool):cI (.cells (iJ p) e a b):=iP rfl
instance P1:Inhabited Mb:=⟨kr⟩
theorem ia:bt Tryz.prog 53 (mC kr):=by
 have h:([.int .u8 0,.int .i64 0,.cplx .f64 0 0,.cplx .f64 0 0,.cplx .f64 0 0,.cplx .f64 0 0,.bool false]++(ti .i64 384 fun _=>0):List XC)=mC kr:=by
  unfold mC kr
  simp only [←dM]
  rfl
 rw [←h]
 infer_instance
theorem nS {m:Mb}(hm:i_ m) {inter:Bool} {was:Int}(hw : -1000000≤was∧was≤1000000) {c:Int}(hc:dk m inter was=c) {HS:aj}(hb:Nat.blt HS.length Mem.bound=true):aH.Sound Tryz.prog ⟨28,[.agg (mC m),.one (.bool inter),.one (.int .i64 was)],HS,.one (.int .i64 c),HS,[]⟩:=by
 subst hc;exact Gj hm hw hb
structure eh (h:Hd) (p:Ph) (l:List Mb) (first:Int):Prop where
 hd:s9 h
 ph:AJ p
 mok:∀ m∈l,i_ m
 pos:0≤first
 many:1≤l.length
 few:l.length≤16
 all:first+(l.length:Nat)≤h.cols*h.rows
abbrev iC (h:Hd) (p:Ph):PS:=⟨gR h p,[],[]⟩
theorem CX {h:Hd} {p:Ph}(ho:s9 h) (hp:AJ p):yx p.inter h.cols h.rows 0 (iC h p):=
 ⟨⟨ho.dims,⟨lR,lR,lR⟩,wv⟩,rfl,rfl,rfl,by have:=hp.qp;show -1000000≤p.qp∧p.qp≤1000000;omega,Nat.zero_le _,Nat.zero_le _⟩
theorem oJ {l:List Int}(hl:dZ l) (hn:l.length≤100000) {q:List Int}(hq:(f3 l l.length).1=q) {n:Nat}(hln:l.length=n) {HS:aj} {i:Nat}(hi:HS[i]? = some (b8 5 (il .u8 l))) {N:Nat}(hN:HS.length=N) {HS':aj}(hh:HS++[b8 5 (il .u8 q)]=HS') (hb:Nat.blt HS'.length Mem.bound=true) :
 aH.Sound Tryz.prog ⟨30,[fS i n 1],HS,fS N q.length 1,HS',[i]⟩:=by
 subst hq
 exact D2 hl hn hln hi hN hh hb
theorem rM {l:List Mb} {first:Int} {x0:PS} {k:Nat} {x:PS}(h:eg l first x0 k = .inr x):eg l first x0 (k+1)=jM first k (l.getD k default) x:=by
 rw [eg,h]
 rfl
theorem rN {first:Int} {k:Nat} {m:Mb} {x:PS} {c:Int}(hc:dk m x.S.inter x.S.qp=c) (h0:c≠0):jM first k m x = .inl c:=by
 subst hc
 exact if_pos h0
theorem rO {first:Int} {k:Nat} {m:Mb} {x:PS}(hc:dk m x.S.inter x.S.qp=0) (h:fH x.S x.B x.w m (first+(k:Nat))=none):jM first k m x = .inl 2:=by
 unfold jM
 rw [if_neg (fun g=>g hc),h]
theorem pY {first:Int} {k:Nat} {m:Mb} {x:PS}(hc:dk m x.S.inter x.S.qp=0) {z:bC × List Bool × List Bool}(h:fH x.S x.B x.w m (first+(k:Nat))=some z):jM first k m x = .inr ⟨z.1,z.2.1,z.2.2⟩:=by
 unfold jM
 rw [if_neg (fun g=>g hc),h]
theorem Gr {h:Hd} {p:Ph} {l:List Mb} {first:Int}(hT:eh h p l first) {cap:r_} {ob:ak}(ho:sN ob mC l) {e:Int}(hx:eg l first (iC h p) l.length = .inl e) :
 bn Tryz.prog 11 [.one (.ptr 0 0),.agg (gO h),.agg (iJ p),.one (.int .i64 first),.one (.slice 13 0 l.length cap)] [bM 1 5 9,ax 2 3 4 cM,aU cM,aW cM,aV cM,ax 6 7 8 cZ,aU cZ,aW cZ,aV cZ,ax 10 11 12 cP,aU cP,aW cP,aV cP,ob] (.tup [.one .nils,.one .nils,.one (.int .i64 e)]) [bM 1 5 9,ax 2 3 4 cM,aU cM,aW cM,aV cM,ax 6 7 8 cZ,aU cZ,aW cZ,aV cZ,ax 10 11 12 cP,aU cP,aW cP,aV cP,ob]:=by
 have hfo:=ho.flat
 have h1:=hT.hd.dims.c0
 have h2:=hT.hd.dims.c1
 have h3:=hT.hd.dims.r0
 have h4:=hT.hd.dims.r1
 have hf:=hT.pos
 have hm:=hT.many
 have hm16:=hT.few
 have ha:=hT.all
 have hcr:1≤h.cols*h.rows∧h.cols*h.rows≤64:=jE hT.hd.dims
 refine cO Tryz.func11 ?_
 repeat' (first
  |(refine qz ?_;first
   |refine fW ?_ (hle:=by rw [bE])
   |refine cl ?_ (hi:=by exact oK hT.hd rfl)
   |refine cl ?_ (hi:=by exact oS hT.ph rfl)
   |refine cl ?_ (hi:=by exact nO hT.hd rfl nL nA rfl))
  |refine zz ?_|refine zx (fun _=>?_) (fun _=>?_)|fail)
 refine WX.cW rfl ?_
 refine WX.cW rfl ?_
 refine WX.cS (σ:=Nat × PS) (fun s=>[(3,.one (.int .i64 first)),(7,.one (.ptr 14 0)),(15,.one (.ptr 15 0)),(16,.one (.ptr 22 0)),(17,.one (.ptr 24 0)),(71,.one (.slice 13 0 l.length cap)),(72,.one (.int .i64 (l.length:Nat))),(73,.one (.int .i64 (s.1:Nat)))]) (fun s=>[bM 1 5 9,ax 2 3 4 cM,aU cM,aW cM,aV cM,ax 6 7 8 cZ,aU cZ,aW cZ,aV cZ,ax 10 11 12 cP,aU cP,aW cP,aV cP,ob,.cells (iJ p) 28 false false,H2 s.2.S 15,cg 17 s.2.S.cols s.2.S.rows,.map (bg s.2.S.M),It s.2.S 15,.map (ah s.2.S.A),.map (ah s.2.S.B),.map (ah s.2.S.C),aP 23 s.2.B,aq s.2.B,aP 25 s.2.w,aq s.2.w]) (fun s=>s.1≤l.length∧eg l first (iC h p) s.1 = .inr s.2∧yx p.inter h.cols h.rows s.1 s.2) (fun s=>l.length-s.1) (0,iC h p) ⟨Nat.zero_le _,rfl,CX hT.hd hT.ph⟩ (fun s _=>j5) (bh [0,1,2,3,4,5,6,7,8,9,10,11,12,13,15,16,17,18,19,20,21,22,23,25,24,26] (obj:=by(repeat' (first|exact ae.nil|refine ae.ed rfl rfl rfl rfl ?_|refine ae.dead rfl ?_|refine ae.flat rfl ?_|refine ae.cons rfl ?_|refine ae.dead rfl ?_|refine ae.cons (by simp only [ak.ay,List.map_cons,List.map_nil,XC.ay,aw];exact rfl) ?_));first|done|fail)) ?_
 intro s ⟨hle,hrun,hs⟩ ih
 by_cases hlt:s.1<l.length
 · have hmk:i_ (l.getD s.1 default):=by
    rw [List.getD_eq_getElem?_getD,List.getElem?_eq_getElem hlt,Option.getD_some]
    exact hT.mok _ (List.getElem_mem hlt)
   have hnx:=rM hrun
   obtain⟨m,hme⟩:∃ m,l.getD s.1 default=m:=⟨_,rfl⟩
   have hme':l.getD (s.1:Int).toNat default=m:=hme
   rw [hme]at hmk hnx
   have hqq:=hs.qp
   have hmb:0≤first+(s.1:Nat)∧first+(s.1:Nat)<h.cols*h.rows:=by omega
   obtain⟨c,hc⟩:∃ c,dk m p.inter s.2.S.qp=c:=⟨_,rfl⟩
   have hcS:dk m s.2.S.inter s.2.S.qp=c:=by rw [hs.inter];exact hc
   by_cases hc0:c=0
   · subst hc0
     have hP:=uk hs (by omega) hmk hmb hcS
     cases hz:fH s.2.S s.2.B s.2.w m (first+(s.1:Nat))with
     | none=>
       have eN:=(hx.symm.trans (ky (hnx.trans (rO hcS hz)) l.length (by omega)))
       cases eN
       repeat' (first
        |(refine qz ?_;first
         |refine qi (zs:=mC kr) (hz:=ia) ?_
         |refine n6 (enc:=mC) ?_
         |refine jb (cs:=mC m) ?_ (hy:=by rw [←hme'];rfl) (hs1:=by rw [aJ]) (hs2:=by rw [aJ])
         |refine fW ?_ (hle:=by rw [aJ])
         |refine cl ?_ (hi:=by exact nS hmk hqq hc rfl)
         |refine cl ?_ (hi:=by exact JB hP hz (i:=22) (k:=23) (N:=15) (j:=24) (g:=25) rfl rfl rfl rfl rfl rfl (by decide) nA rfl))
        |refine zz ?_|refine zx (fun _=>?_) (fun _=>?_)|fail)
       show aC _ _ _ _ _ _ _ _;refine kV [0,1,2,3,4,5,6,7,8,9,10,11,12,13] ?_
       rfl
     | some z=>
       have hnx2:=hnx.trans (pY hcS hz)
       repeat' (first
        |(refine qz ?_;first
         |refine qi (zs:=mC kr) (hz:=ia) ?_
         |refine n6 (enc:=mC) ?_
         |refine jb (cs:=mC m) ?_ (hy:=by rw [←hme'];rfl) (hs1:=by rw [aJ]) (hs2:=by rw [aJ])
         |refine fW ?_ (hle:=by rw [aJ])
         |refine cl ?_ (hi:=by exact nS hmk hqq hc rfl)
         |refine cl ?_ (hi:=by exact BB hP hz (i:=22) (k:=23) (N:=15) (j:=24) (g:=25) rfl rfl rfl rfl rfl rfl (by decide) nL nA rfl))
        |refine zz ?_|refine zx (fun _=>?_) (fun _=>?_)|fail)
       exact ih (s.1+1,⟨z.1,z.2.1,z.2.2⟩) _ _ _ (bh [0,1,2,3,4,5,6,7,8,9,10,11,12,13,14,15,16,17,18,19,20,21,22,27,24,28]) ⟨by show s.1+1≤l.length;omega,hnx2,oT hs hmk (hnx2 ▸ hnx.symm)⟩ (by show l.length-(s.1+1)<l.length-s.1;omega)
   · have eB:=(hx.symm.trans (ky (hnx.trans (rN hcS hc0)) l.length (by omega)))
     cases eB
     repeat' (first
      |(refine qz ?_;first
       |refine qi (zs:=mC kr) (hz:=ia) ?_
       |refine n6 (enc:=mC) ?_
       |refine jb (cs:=mC m) ?_ (hy:=by rw [←hme'];rfl) (hs1:=by rw [aJ]) (hs2:=by rw [aJ])
       |refine fW ?_ (hle:=by rw [aJ])
       |refine cl ?_ (hi:=by exact nS hmk hqq hc rfl))
      |refine zz ?_|refine zx (fun _=>?_) (fun _=>?_)|fail)
     show aC _ _ _ _ _ _ _ _;refine kV [0,1,2,3,4,5,6,7,8,9,10,11,12,13] ?_
     rfl
 · have e0:s.1=l.length:=by omega
   rw [e0,hx]at hrun
   cases hrun
theorem JG {h:Hd} {p:Ph} {l:List Mb} {first:Int}(hT:eh h p l first) {cap:r_} {ob:ak}(ho:sN ob mC l) {x:PS}(hx:eg l first (iC h p) l.length = .inr x) {a b:List Int}(hqa:(f3 (wr (x.B++[true])) (wr (x.B++[true])).length).1=a) (hqb:(f3 (wr (x.w++[true])) (wr (x.w++[true])).length).1=b) (hla:a.length≤30000) (hlb:b.length≤30000) :
 bn Tryz.prog 11 [.one (.ptr 0 0),.agg (gO h),.agg (iJ p),.one (.int .i64 first),.one (.slice 13 0 l.length cap)] [bM 1 5 9,ax 2 3 4 cM,aU cM,aW cM,aV cM,ax 6 7 8 cZ,aU cZ,aW cZ,aV cZ,ax 10 11 12 cP,aU cP,aW cP,aV cP,ob] (.tup [.one (gQ 14 a.length 1),.one (gQ 15 b.length 1),.one (.int .i64 0)]) [bM 1 5 9,ax 2 3 4 cM,aU cM,aW cM,aV cM,ax 6 7 8 cZ,aU cZ,aW cZ,aV cZ,ax 10 11 12 cP,aU cP,aW cP,aV cP,ob,b8 5 (il .u8 a),b8 5 (il .u8 b)]:=by
 have hfo:=ho.flat
 have h1:=hT.hd.dims.c0
 have h2:=hT.hd.dims.c1
 have h3:=hT.hd.dims.r0
 have h4:=hT.hd.dims.r1
 have hf:=hT.pos
 have hm:=hT.many
 have hm16:=hT.few
 have ha:=hT.all
 have hcr:1≤h.cols*h.rows∧h.cols*h.rows≤64:=jE hT.hd.dims
 refine cO Tryz.func11 ?_
 repeat' (first
  |(refine qz ?_;first
   |refine fW ?_ (hle:=by rw [bE])
   |refine cl ?_ (hi:=by exact oK hT.hd rfl)
   |refine cl ?_ (hi:=by exact oS hT.ph rfl)
   |refine cl ?_ (hi:=by exact nO hT.hd rfl nL nA rfl))
  |refine zz ?_|refine zx (fun _=>?_) (fun _=>?_)|fail)
 refine WX.cW rfl ?_
 refine WX.cW rfl ?_
 refine WX.cS (σ:=Nat × PS) (fun s=>[(3,.one (.int .i64 first)),(7,.one (.ptr 14 0)),(15,.one (.ptr 15 0)),(16,.one (.ptr 22 0)),(17,.one (.ptr 24 0)),(71,.one (.slice 13 0 l.length cap)),(72,.one (.int .i64 (l.length:Nat))),(73,.one (.int .i64 (s.1:Nat)))]) (fun s=>[bM 1 5 9,ax 2 3 4 cM,aU cM,aW cM,aV cM,ax 6 7 8 cZ,aU cZ,aW cZ,aV cZ,ax 10 11 12 cP,aU cP,aW cP,aV cP,ob,.cells (iJ p) 28 false false,H2 s.2.S 15,cg 17 s.2.S.cols s.2.S.rows,.map (bg s.2.S.M),It s.2.S 15,.map (ah s.2.S.A),.map (ah s.2.S.B),.map (ah s.2.S.C),aP 23 s.2.B,aq s.2.B,aP 25 s.2.w,aq s.2.w]) (fun s=>s.1≤l.length∧eg l first (iC h p) s.1 = .inr s.2∧yx p.inter h.cols h.rows s.1 s.2) (fun s=>l.length-s.1) (0,iC h p) ⟨Nat.zero_le _,rfl,CX hT.hd hT.ph⟩ (fun s _=>j5) (bh [0,1,2,3,4,5,6,7,8,9,10,11,12,13,15,16,17,18,19,20,21,22,23,25,24,26] (obj:=by(repeat' (first|exact ae.nil|refine ae.ed rfl rfl rfl rfl ?_|refine ae.dead rfl ?_|refine ae.flat rfl ?_|refine ae.cons rfl ?_|refine ae.dead rfl ?_|refine ae.cons (by simp only [ak.ay,List.map_cons,List.map_nil,XC.ay,aw];exact rfl) ?_));first|done|fail)) ?_
 intro s ⟨hle,hrun,hs⟩ ih
 by_cases hlt:s.1<l.length
 · have hmk:i_ (l.getD s.1 default):=by
    rw [List.getD_eq_getElem?_getD,List.getElem?_eq_getElem hlt,Option.getD_some]
    exact hT.mok _ (List.getElem_mem hlt)
   have hnx:=rM hrun
   obtain⟨m,hme⟩:∃ m,l.getD s.1 default=m:=⟨_,rfl⟩
   have hme':l.getD (s.1:Int).toNat default=m:=hme
   rw [hme]at hmk hnx
   have hqq:=hs.qp
   have hmb:0≤first+(s.1:Nat)∧first+(s.1:Nat)<h.cols*h.rows:=by omega
   obtain⟨c,hc⟩:∃ c,dk m p.inter s.2.S.qp=c:=⟨_,rfl⟩
   have hcS:dk m s.2.S.inter s.2.S.qp=c:=by rw [hs.inter];exact hc
   by_cases hc0:c=0
   · subst hc0
     have hP:=uk hs (by omega) hmk hmb hcS
     cases hz:fH s.2.S s.2.B s.2.w m (first+(s.1:Nat))with
     | none=>
       have eN:=(hx.symm.trans (ky (hnx.trans (rO hcS hz)) l.length (by omega)))
       cases eN
     | some z=>
       have hnx2:=hnx.trans (pY hcS hz)
       repeat' (first
        |(refine qz ?_;first
         |refine qi (zs:=mC kr) (hz:=ia) ?_
         |refine n6 (enc:=mC) ?_
         |refine jb (cs:=mC m) ?_ (hy:=by rw [←hme'];rfl) (hs1:=by rw [aJ]) (hs2:=by rw [aJ])
         |refine fW ?_ (hle:=by rw [aJ])
         |refine cl ?_ (hi:=by exact nS hmk hqq hc rfl)
         |refine cl ?_ (hi:=by exact BB hP hz (i:=22) (k:=23) (N:=15) (j:=24) (g:=25) rfl rfl rfl rfl rfl rfl (by decide) nL nA rfl))
        |refine zz ?_|refine zx (fun _=>?_) (fun _=>?_)|fail)
       exact ih (s.1+1,⟨z.1,z.2.1,z.2.2⟩) _ _ _ (bh [0,1,2,3,4,5,6,7,8,9,10,11,12,13,14,15,16,17,18,19,20,21,22,27,24,28]) ⟨by show s.1+1≤l.length;omega,hnx2,oT hs hmk (hnx2 ▸ hnx.symm)⟩ (by show l.length-(s.1+1)<l.length-s.1;omega)
   · have eB:=(hx.symm.trans (ky (hnx.trans (rN hcS hc0)) l.length (by omega)))
     cases eB
 · have e0:s.1=l.length:=by omega
   have hlB:=hs.len
   have hlw:=hs.lenw
   rw [e0,hx]at hrun
   obtain rfl:x=s.2:=Sum.inr.inj hrun
   have hB1:s.2.B.length≤1000000:=by omega
   have hB2:s.2.w.length≤1000000:=by omega
   have hL1:(wr (s.2.B++[true])).length≤100000:=by rw [eO,List.length_append,List.length_cons,List.length_nil];omega
   have hL2:(wr (s.2.w++[true])).length≤100000:=by rw [eO,List.length_append,List.length_cons,List.length_nil];omega
   have hY1:=gF (s.2.B++[true])
   have hY2:=gF (s.2.w++[true])
   repeat' (first
    |(refine qz ?_;first
     |refine cl ?_ (hi:=by exact rf (bs:=s.2.B) hB1 (i:=22) (k:=23) rfl rfl (by decide) nL nA rfl)
     |refine cl ?_ (hi:=by exact oJ (l:=wr (s.2.B++[true])) hY1 hL1 hqa (n:=((s.2.B++[true]).length+7)/8) (by rw [eO]) (i:=26) rfl nL nA rfl)
     |refine cl ?_ (hi:=by exact rf (bs:=s.2.w) hB2 (i:=24) (k:=25) rfl rfl (by decide) nL nA rfl)
     |refine cl ?_ (hi:=by exact oJ (l:=wr (s.2.w++[true])) hY2 hL2 hqb (n:=((s.2.w++[true]).length+7)/8) (by rw [eO]) (i:=28) rfl nL nA rfl))
    |refine zz ?_|refine zx (fun _=>?_) (fun _=>?_)|refine bq (by first|exact ag.nil|exact ag.one _|exact ag.lI (by repeat' (first|exact True.intro|refine And.intro ?_ ?_|exact Compat.ne rfl|exact eF rfl))) ⟨by kernel_rfl,?_⟩|refine bq (by first|exact ag.nil|exact ag.one _|exact ag.lI (by repeat' (first|exact True.intro|refine And.intro ?_ ?_|exact Compat.ne rfl|exact eF rfl))) ?_|fail)
   show aC _ _ _ _ _ _ _ _;refine kV [0,1,2,3,4,5,6,7,8,9,10,11,12,13,27,29] ?_
   simp only [XV.ay,List.map_cons,List.map_nil,X1.ay,aw];rfl
theorem Gp {h:Hd} {p:Ph} {l:List Mb} {first:Int}(hT:eh h p l first) {cap:r_} {ob:ak}(ho:sN ob mC l) {x:PS}(hx:eg l first (iC h p) l.length = .inr x) {a b:List Int}(hqa:(f3 (wr (x.B++[true])) (wr (x.B++[true])).length).1=a) (hqb:(f3 (wr (x.w++[true])) (wr (x.w++[true])).length).1=b) (hl:30000<a.length∨30000<b.length) :
 bn Tryz.prog 11 [.one (.ptr 0 0),.agg (gO h),.agg (iJ p),.one (.int .i64 first),.one (.slice 13 0 l.length cap)] [bM 1 5 9,ax 2 3 4 cM,aU cM,aW cM,aV cM,ax 6 7 8 cZ,aU cZ,aW cZ,aV cZ,ax 10 11 12 cP,aU cP,aW cP,aV cP,ob] (.tup [.one .nils,.one .nils,.one (.int .i64 6)]) [bM 1 5 9,ax 2 3 4 cM,aU cM,aW cM,aV cM,ax 6 7 8 cZ,aU cZ,aW cZ,aV cZ,ax 10 11 12 cP,aU cP,aW cP,aV cP,ob]:=by
 have hfo:=ho.flat
 have h1:=hT.hd.dims.c0
 have h2:=hT.hd.dims.c1
 have h3:=hT.hd.dims.r0
 have h4:=hT.hd.dims.r1
 have hf:=hT.pos
 have hm:=hT.many
 have hm16:=hT.few
 have ha:=hT.all
 have hcr:1≤h.cols*h.rows∧h.cols*h.rows≤64:=jE hT.hd.dims
 refine cO Tryz.func11 ?_
 repeat' (first
  |(refine qz ?_;first
   |refine fW ?_ (hle:=by rw [bE])
   |refine cl ?_ (hi:=by exact oK hT.hd rfl)
   |refine cl ?_ (hi:=by exact oS hT.ph rfl)
   |refine cl ?_ (hi:=by exact nO hT.hd rfl nL nA rfl))
  |refine zz ?_|refine zx (fun _=>?_) (fun _=>?_)|fail)
 refine WX.cW rfl ?_
 refine WX.cW rfl ?_
 refine WX.cS (σ:=Nat × PS) (fun s=>[(3,.one (.int .i64 first)),(7,.one (.ptr 14 0)),(15,.one (.ptr 15 0)),(16,.one (.ptr 22 0)),(17,.one (.ptr 24 0)),(71,.one (.slice 13 0 l.length cap)),(72,.one (.int .i64 (l.length:Nat))),(73,.one (.int .i64 (s.1:Nat)))]) (fun s=>[bM 1 5 9,ax 2 3 4 cM,aU cM,aW cM,aV cM,ax 6 7 8 cZ,aU cZ,aW cZ,aV cZ,ax 10 11 12 cP,aU cP,aW cP,aV cP,ob,.cells (iJ p) 28 false false,H2 s.2.S 15,cg 17 s.2.S.cols s.2.S.rows,.map (bg s.2.S.M),It s.2.S 15,.map (ah s.2.S.A),.map (ah s.2.S.B),.map (ah s.2.S.C),aP 23 s.2.B,aq s.2.B,aP 25 s.2.w,aq s.2.w]) (fun s=>s.1≤l.length∧eg l first (iC h p) s.1 = .inr s.2∧yx p.inter h.cols h.rows s.1 s.2) (fun s=>l.length-s.1) (0,iC h p) ⟨Nat.zero_le _,rfl,CX hT.hd hT.ph⟩ (fun s _=>j5) (bh [0,1,2,3,4,5,6,7,8,9,10,11,12,13,15,16,17,18,19,20,21,22,23,25,24,26] (obj:=by(repeat' (first|exact ae.nil|refine ae.ed rfl rfl rfl rfl ?_|refine ae.dead rfl ?_|refine ae.flat rfl ?_|refine ae.cons rfl ?_|refine ae.dead rfl ?_|refine ae.cons (by simp only [ak.ay,List.map_cons,List.map_nil,XC.ay,aw];exact rfl) ?_));first|done|fail)) ?_
 intro s ⟨hle,hrun,hs⟩ ih
 by_cases hlt:s.1<l.length
 · have hmk:i_ (l.getD s.1 default):=by
    rw [List.getD_eq_getElem?_getD,List.getElem?_eq_getElem hlt,Option.getD_some]
    exact hT.mok _ (List.getElem_mem hlt)
   have hnx:=rM hrun
   obtain⟨m,hme⟩:∃ m,l.getD s.1 default=m:=⟨_,rfl⟩
   have hme':l.getD (s.1:Int).toNat default=m:=hme
   rw [hme]at hmk hnx
   have hqq:=hs.qp
   have hmb:0≤first+(s.1:Nat)∧first+(s.1:Nat)<h.cols*h.rows:=by omega
   obtain⟨c,hc⟩:∃ c,dk m p.inter s.2.S.qp=c:=⟨_,rfl⟩
   have hcS:dk m s.2.S.inter s.2.S.qp=c:=by rw [hs.inter];exact hc
   by_cases hc0:c=0
   · subst hc0
     have hP:=uk hs (by omega) hmk hmb hcS
     cases hz:fH s.2.S s.2.B s.2.w m (first+(s.1:Nat))with
     | none=>
       have eN:=(hx.symm.trans (ky (hnx.trans (rO hcS hz)) l.length (by omega)))
       cases eN
     | some z=>
       have hnx2:=hnx.trans (pY hcS hz)
       repeat' (first
        |(refine qz ?_;first
         |refine qi (zs:=mC kr) (hz:=ia) ?_
         |refine n6 (enc:=mC) ?_
         |refine jb (cs:=mC m) ?_ (hy:=by rw [←hme'];rfl) (hs1:=by rw [aJ]) (hs2:=by rw [aJ])
         |refine fW ?_ (hle:=by rw [aJ])
         |refine cl ?_ (hi:=by exact nS hmk hqq hc rfl)
         |refine cl ?_ (hi:=by exact BB hP hz (i:=22) (k:=23) (N:=15) (j:=24) (g:=25) rfl rfl rfl rfl rfl rfl (by decide) nL nA rfl))
        |refine zz ?_|refine zx (fun _=>?_) (fun _=>?_)|fail)
       exact ih (s.1+1,⟨z.1,z.2.1,z.2.2⟩) _ _ _ (bh [0,1,2,3,4,5,6,7,8,9,10,11,12,13,14,15,16,17,18,19,20,21,22,27,24,28]) ⟨by show s.1+1≤l.length;omega,hnx2,oT hs hmk (hnx2 ▸ hnx.symm)⟩ (by show l.length-(s.1+1)<l.length-s.1;omega)
   · have eB:=(hx.symm.trans (ky (hnx.trans (rN hcS hc0)) l.length (by omega)))
     cases eB
 · by_cases hla:30000<a.length
   all_goals
    have e0:s.1=l.length:=by omega
    have hlB:=hs.len
    have hlw:=hs.lenw
    rw [e0,hx]at hrun
    obtain rfl:x=s.2:=Sum.inr.inj hrun
    have hB1:s.2.B.length≤1000000:=by omega
    have hB2:s.2.w.length≤1000000:=by omega
    have hL1:(wr (s.2.B++[true])).length≤100000:=by rw [eO,List.length_append,List.length_cons,List.length_nil];omega
    have hL2:(wr (s.2.w++[true])).length≤100000:=by rw [eO,List.length_append,List.length_cons,List.length_nil];omega
    have hY1:=gF (s.2.B++[true])
    have hY2:=gF (s.2.w++[true])
    repeat' (first
     |(refine qz ?_;first
      |refine cl ?_ (hi:=by exact rf (bs:=s.2.B) hB1 (i:=22) (k:=23) rfl rfl (by decide) nL nA rfl)
      |refine cl ?_ (hi:=by exact oJ (l:=wr (s.2.B++[true])) hY1 hL1 hqa (n:=((s.2.B++[true]).length+7)/8) (by rw [eO]) (i:=26) rfl nL nA rfl)
      |refine cl ?_ (hi:=by exact rf (bs:=s.2.w) hB2 (i:=24) (k:=25) rfl rfl (by decide) nL nA rfl)
      |refine cl ?_ (hi:=by exact oJ (l:=wr (s.2.w++[true])) hY2 hL2 hqb (n:=((s.2.w++[true]).length+7)/8) (by rw [eO]) (i:=28) rfl nL nA rfl))
     |refine zz ?_|refine zx (fun _=>?_) (fun _=>?_)|refine bq (by first|exact ag.nil|exact ag.one _|exact ag.lI (by repeat' (first|exact True.intro|refine And.intro ?_ ?_|exact Compat.ne rfl|exact eF rfl))) ⟨by kernel_rfl,?_⟩|refine bq (by first|exact ag.nil|exact ag.one _|exact ag.lI (by repeat' (first|exact True.intro|refine And.intro ?_ ?_|exact Compat.ne rfl|exact eF rfl))) ?_|fail)
    show aC _ _ _ _ _ _ _ _;refine kV [0,1,2,3,4,5,6,7,8,9,10,11,12,13] ?_
    rfl
end Go.Proofs.YtagpkhindehcbaaGreat
namespace Go.Xm
variable [az]
theorem c_.swap {α γ : Type} {R : α → γ→Prop} {x x' : α}(h:∀ v,R x v→R x' v) {b:List α}:∀ {a:List α} {vs:List γ},c_ R (a++x::b) vs→c_ R (a++x'::b) vs
 | [],_,.cons h1 h2 => .cons (h _ h1) h2
 | _::a,_,.cons h1 h2 => .cons h1 (c_.swap h (a:=a) h2)
theorem DX {P:Program} {f:FuncId}(a b:List XV) {i off n s:Nat} {hs hs':aj} {v:XV}(hs0:0<s) {vs:List XC} {e:TypeId} {opn ro:Bool}(ho:hs[i]? = some (.cells vs e opn ro)) (hle:off+n*s≤vs.length)
 (hc:∀ cap,n≤cap→bn P f (a ++ .one (.slice i off n (.exact cap))::b) hs v hs'):bn P f (a ++ .one (.slice i off n (.toEnd s))::b) hs v hs':=by
 intro m hm β w vs' hall hw
 have hi:i<m.n:=by
  have:=(List.getElem?_eq_some_iff.1 ho).1
  rw [hm.n];exact this
 have hr:=hw.obj i hi
 rw [hm.at ho]at hr
 obtain⟨cs,fr,_,_,h3,_,_,_⟩:=hr
 have hsz:off+n*s ≤ β.size i:=by
  split at h3 <;> omega
 have hcap:n≤(β.size i-off)/s:=(Nat.le_div_iff_mul_le hs0).2 (by omega)
 have hsw:∀ v,aQ β m.n (.one (.slice i off n (.toEnd s))) v→aQ β m.n (.one (.slice i off n (.exact ((β.size i-off)/s)))) v:=fun v hv=>hv
 exact hc _ hcap m hm β w vs' (c_.swap hsw hall) hw
end Go.Xm
namespace Go.Proofs.YtagpkhindehcbaaGreat
open Go.Xm
variable [az]
abbrev FK:=bC × Mb × Nat
noncomputable def JU (mb:Int) (x:FK) (k:Nat) (u:Nat) (rest:Nat→Int):Int ⊕ FK:=
 match km x.1 mb k x.2.1 rest with
 | none => .inl 2
 | some y => .inr (y.1,y.2,u)
noncomputable def fK (evs:List (List Ev)) (mb:Int) (has:Nat→Bool) (x:FK) (k:Nat):Int ⊕ FK:=
 if has k=true then
  if evs.length≤x.2.2 then .inl 3 else
   match jB (evs.getD x.2.2 []) (fy x.2.1)with
   | none => .inl 2
   | some rest=>JU mb x k (x.2.2+1) rest
 else JU mb x k x.2.2 fun _=>0
noncomputable def lP (evs:List (List Ev)) (mb:Int) (has:Nat→Bool) (x0:FK):Nat→Int ⊕ FK
 | 0 => .inr x0
 | k+1=>match lP evs mb has x0 k with
   | .inl e => .inl e
   | .inr x=>fK evs mb has x k
structure FA where
 S:bC
 out:List Mb
 u:Nat
noncomputable def vf (evs:List (List Ev)) (first:Int) (l:List Ol) (S0:bC):Nat→Int ⊕ FA
 | 0 => .inr ⟨S0,[],0⟩
 | i + 1=>match vf evs first l S0 i with
   | .inl e => .inl e
   | .inr x=>match lP evs (first+(i:Nat)) (l.getD i default).2 (x.S,(l.getD i default).1,x.u) 6 with
     | .inl e => .inl e
     | .inr y => .inr ⟨y.1,x.out++[y.2.1],y.2.2⟩
noncomputable def gI (evs:List (List Ev)) (first:Int) (l:List Ol) (S0:bC):Int ⊕ List Mb:=
 match vf evs first l S0 l.length with
 | .inl e => .inl e
 | .inr x=>if x.u<evs.length then .inl 13 else .inr x.out
theorem qx {evs:List (List Ev)} {mb:Int} {has:Nat→Bool} {x0:FK} {k:Nat} {e:Int}(h:lP evs mb has x0 k = .inl e):∀ j,k≤j→lP evs mb has x0 j = .inl e:=by
 intro j hj
 induction hj with
 | refl=>exact h
 | step _ ih=>rw [lP,ih]
theorem qw {evs:List (List Ev)} {first:Int} {l:List Ol} {S0:bC} {k:Nat} {e:Int}(h:vf evs first l S0 k = .inl e):∀ j,k≤j→vf evs first l S0 j = .inl e:=by
 intro j hj
 induction hj with
 | refl=>exact h
 | step _ ih=>rw [vf,ih]
def rz (f:Nat→Int):Prop:=∀ i,-2047≤f i∧f i≤2047
theorem Dp {o:Int} {f:Nat→Int}(h:rz f):∀ n,rz (FR o f n)
 | 0=>fun i=>by show -2047≤(0:Int)∧(0:Int)≤2047;omega
 | n+1=>fun i=>by
   show -2047≤c8 (FR o f n) _ _ i∧c8 (FR o f n) _ _ i≤2047
   unfold c8
   split
   · exact h n
   · exact Dp h n i
theorem rS {o:Int} {f:Nat→Int}(h:rz f):rz (d_ o f):=Dp h 64
theorem se {l:List Ev}(hl:∀ j,j<l.length→mw (l.getD j default)) {st:Int}:∀ j,j≤l.length→∀ x,dG l st j=some x→rz x.2
 | 0,_,x,h=>by cases h;exact fun i=>by show -2047≤(0:Int)∧(0:Int)≤2047;omega
 | j + 1,hj,x,h=>by
   have h2:(dG l st j).bind _=some x:=h
   cases hr:dG l st j with
   | none=>rw [hr]at h2;cases h2
   | some y=>
     rw [hr]at h2
     have h3:(if 63<y.1+(l.getD j default).1 then none else some _)=some x:=h2
     have h4:=se hl j (by omega) y hr
     have h5:=(hl j (by omega)).lev
     split at h3
     · cases h3
     · cases h3
       intro i
       dsimp only
       unfold c8
       split
       · exact h5
       · exact h4 i
theorem DO {l:List Ev}(hl:∀ j,j<l.length→mw (l.getD j default)) {st:Int} {f:Nat→Int}(h:jB l st=some f):rz f:=by
 unfold jB at h
 cases hr:dG l st l.length with
 | none=>rw [hr]at h;cases h
 | some y=>rw [hr]at h;cases h;exact se hl _ (Nat.le_refl _) y hr
theorem Ep {a b f:Nat→Int}(h:ku a b=some f):∀ i,i<64 → -2047≤f i∧f i≤2047:=by
 unfold ku at h
 split at h
 · cases h
 · rename_i hn
   cases h
   intro i hi
   have:¬kZ a b i:=fun hb=>hn ⟨i,hi,hb⟩
   unfold kZ at this
   dsimp only
   omega
theorem LV {f:FuncId} {args args':List XV} {v:XV} [bz v] {a b a' b':ak} [cI a] [cI b] [cI a'] [cI b'] {S S':bC} {i k N:Nat}(hc:bn Tryz.prog f args (a::b::dI S) v (a'::b'::dI S'))
 {HS:aj}(hi:HS[i]? = some a) (hk:HS[k]? = some b) (hS:HS.take 13=fk) (hN:(HS.drop N).take 7=xN S N) (hnd:(i::k::kB N []).Nodup) (ha:eV 22 args) (hr:dF (nth (i::k::kB N [])) args args') (hro:dP (a::b::dI S) (a'::b'::dI S')=true)
 {HS':aj}(hh:bG HS (i::k::kB N []) (a'::b'::K5 S' N [])=HS') (hbd:Nat.blt HS'.length Mem.bound=true) :
 aH.Sound Tryz.prog ⟨f,args',HS,v,HS',i::k::kB N []⟩:=by
 have h3:=ua i k N []
 have h16:=qJ i k N []
 have hc':bn Tryz.prog f args (a::b::(dI S++[])) v (a'::b'::(dI S'++[])):=by
  rw [List.append_nil,List.append_nil];exact hc
 have ht2:nth ((i::k::kB N [])++List.range' HS.length 0)=nth (i::k::kB N []):=by
  rw [List.range'_zero,List.append_nil]
 refine bV (i::k::kB N []) (i::k::kB N []) 0 hc' hnd (.flat hi (.flat hk (xP hS hN h3 h16 .nil))) (.flat (.flat (gp S _ (Nat.le_refl _) .nil))) (.flat (.flat (gp S' _ (Nat.le_refl _) .nil))) rfl ha hr (bz.ok _) (bz.ay _) ?_ (by rw [List.append_nil,List.append_nil];exact hro) rfl hh hbd (.inl rfl)
 rw [ht2]
 exact .flat (.flat (BN h3 h16 .nil))
structure jQ (S:bC) (mb:Int) (k:Nat) (m:Mb) (rest:Nat→Int):Prop where
 dims:gz S.cols S.rows
 mb:0≤mb∧mb<S.cols*S.rows
 k:k<6
 lev:tb S
 rest:rz rest
theorem jQ.b1 {S:bC} {mb:Int} {k:Nat} {m:Mb} {rest:Nat→Int}(h:jQ S mb k m rest) (o:Int):∀ i,-1000000≤d_ o rest i∧d_ o rest i≤1000000:=fun i=>by
 have:=rS (o:=o) h.rest i
 omega
theorem jQ.b2 {S:bC} {mb:Int} {k:Nat} {m:Mb} {rest:Nat→Int}(h:jQ S mb k m rest) (q:Int):∀ i,-1000000≤cz S mb k q i∧cz S mb k q i≤1000000:=m_ fun dx dy b hb=>xB h.lev hb
theorem J0 {S:bC} {mb:Int} {k:Nat} {m:Mb} {rest:Nat→Int}(h:jQ S mb k m rest) {y:bC × Mb}(hF:km S mb k m rest=some y) :
 bn Tryz.prog 38 [.one (.ptr 2 0),.one (.int .i64 mb),.one (.int .i64 (k:Nat)),.one (.ptr 0 0),.agg (ti .i64 64 rest)] (lB m :: .dead::dI S) (.one (.bool true)) (lB y.2 :: .dead::dI y.1):=by
 unfold km at hF
 cases ha:alone m with
 | false=>
   rw [if_neg (by rw [ha];decide)]at hF
   cases hF
   exact Ok h.k ha
 | true=>
   rw [if_pos ha]at hF
   cases he:m.edge with
   | false=>
     rw [if_neg (by rw [he];decide),he]at hF
     cases hF
     exact Om h.dims h.mb h.k ha he rfl rfl
   | true=>
     rw [if_pos he,he]at hF
     cases hm:ku (d_ (dC true (aL S mb k m.qp).1) rest) (cz S mb k m.qp)with
     | none=>rw [hm]at hF;cases hF
     | some l2=>
       rw [hm]at hF
       cases hF
       exact On h.dims h.mb h.k ha he rfl (h.b1 _) (h.b2 _) hm rfl
theorem JZ {S:bC} {mb:Int} {k:Nat} {m:Mb} {rest:Nat→Int}(h:jQ S mb k m rest) (hF:km S mb k m rest=none) :
 bn Tryz.prog 38 [.one (.ptr 2 0),.one (.int .i64 mb),.one (.int .i64 (k:Nat)),.one (.ptr 0 0),.agg (ti .i64 64 rest)] (lB m :: .dead::dI S) (.one (.bool false)) (lB m :: .dead::dI S):=by
 unfold km at hF
 cases ha:alone m with
 | false=>rw [if_neg (by rw [ha];decide)]at hF;cases hF
 | true=>
   rw [if_pos ha]at hF
   cases he:m.edge with
   | false=>rw [if_neg (by rw [he];decide)]at hF;cases hF
   | true=>
     rw [if_pos he,he]at hF
     cases hm:ku (d_ (dC true (aL S mb k m.qp).1) rest) (cz S mb k m.qp)with
     | none=>exact Oo h.dims h.mb h.k ha he rfl (h.b1 _) (h.b2 _) hm
     | some l2=>rw [hm]at hF;cases hF
theorem yZ {S:bC} {mb:Int} {k:Nat} {m:Mb} {rest:Nat→Int}(h:jQ S mb k m rest) {y:bC × Mb}(hF:km S mb k m rest=some y) {i d N:Nat} {HS:aj}(hi:HS[i]? = some (lB m)) (hk:HS[d]? = some .dead) (hS:HS.take 13=fk) (hN:(HS.drop N).take 7=xN S N) (hnd:(i::d::kB N []).Nodup)
 {HS':aj}(hh:bG HS [i,d,N,0,1,2,3,4,5,6,7,8,9,10,11,12,N+1,N+2,N+3,N+4,N+5,N+6] [lB y.2,.dead,H2 y.1 N,bM 1 5 9,ax 2 3 4 cM,aU cM,aW cM,aV cM,ax 6 7 8 cZ,aU cZ,aW cZ,aV cZ,ax 10 11 12 cP,aU cP,aW cP,aV cP,cg (N+2) y.1.cols y.1.rows,.map (bg y.1.M),It y.1 N,.map (ah y.1.A),.map (ah y.1.B),.map (ah y.1.C)]=HS') (hbd:Nat.blt HS'.length Mem.bound=true) :
 aH.Sound Tryz.prog ⟨38,[.one (.ptr N 0),.one (.int .i64 mb),.one (.int .i64 (k:Nat)),.one (.ptr i 0),.agg (ti .i64 64 rest)],HS,.one (.bool true),HS',i::d::kB N []⟩:=
 LV (J0 h hF) hi hk hS hN hnd (.cons (by show 2<22;omega) (.flat (.flat (.cons (by show 0<22;omega) (.flat .nil))))) (.cons rfl (.flat (.flat (.cons rfl (.flat .nil))))) rfl hh hbd
theorem yY {S:bC} {mb:Int} {k:Nat} {m:Mb} {rest:Nat→Int}(h:jQ S mb k m rest) (hF:km S mb k m rest=none) {i d N:Nat} {HS:aj}(hi:HS[i]? = some (lB m)) (hk:HS[d]? = some .dead) (hS:HS.take 13=fk) (hN:(HS.drop N).take 7=xN S N) (hnd:(i::d::kB N []).Nodup)
 {HS':aj}(hh:bG HS [i,d,N,0,1,2,3,4,5,6,7,8,9,10,11,12,N+1,N+2,N+3,N+4,N+5,N+6] [lB m,.dead,H2 S N,bM 1 5 9,ax 2 3 4 cM,aU cM,aW cM,aV cM,ax 6 7 8 cZ,aU cZ,aW cZ,aV cZ,ax 10 11 12 cP,aU cP,aW cP,aV cP,cg (N+2) S.cols S.rows,.map (bg S.M),It S N,.map (ah S.A),.map (ah S.B),.map (ah S.C)]=HS') (hbd:Nat.blt HS'.length Mem.bound=true) :
 aH.Sound Tryz.prog ⟨38,[.one (.ptr N 0),.one (.int .i64 mb),.one (.int .i64 (k:Nat)),.one (.ptr i 0),.agg (ti .i64 64 rest)],HS,.one (.bool false),HS',i::d::kB N []⟩:=
 LV (JZ h hF) hi hk hS hN hnd (.cons (by show 2<22;omega) (.flat (.flat (.cons (by show 0<22;omega) (.flat .nil))))) (.cons rfl (.flat (.flat (.cons rfl (.flat .nil))))) rfl hh hbd
end Go.Proofs.YtagpkhindehcbaaGreat
namespace Go.Proofs.YtagpkhindehcbaaGreat
open Go.Xm
variable [az]
instance Oq (h:Nat→Bool):bz (.agg (rG h)):=e_ rfl
theorem zv (m:Mb) (h:Nat→Bool):((fw m h).drop 391).take 6=rG h:=by
 unfold fw
 rw [List.drop_append_of_le_length (by rw [aJ];exact Nat.le_refl _),List.drop_of_length_le (by rw [aJ];exact Nat.le_refl _)]
 rfl
theorem CK (h:Nat→Bool) {k:Nat}(hk:k<6) {b:Bool}(hb:h k=b):(rG h)[k]? = some (.bool b):=by
 subst hb
 match k,hk with
 | 0,_=>rfl
 | 1,_=>rfl
 | 2,_=>rfl
 | 3,_=>rfl
 | 4,_=>rfl
 | 5,_=>rfl
def jh (h:Nat→Bool):Nat→Nat
 | 0=>0
 | k+1=>jh h k+if h k then 1 else 0
def manyN (l:List Ol):Nat→Nat
 | 0=>0
 | i+1=>manyN l i+jh (l.getD i default).2 6
def pr (l:List Ol):Nat:=manyN l l.length
theorem xg (h:Nat→Bool):∀ k,jh h k≤k
 | 0=>Nat.le_refl _
 | k+1=>by have:=xg h k;unfold jh;split <;> omega
theorem t5 (l:List Ol):∀ i,manyN l i≤6*i
 | 0=>Nat.le_refl _
 | i+1=>by have:=t5 l i;have:=xg (l.getD i default).2 6;unfold manyN;omega
theorem Hl {l:List Ol}(hl:l.length≤64):bn Tryz.prog 14 [fS 0 l.length 397] [b8 56 (fl iI l)] (.one (.int .i64 (pr l:Nat))) [b8 56 (fl iI l)]:=by
 refine cO Tryz.func14 ?_
 repeat' (first|refine zz ?_|refine zx (fun _=>?_) (fun _=>?_)|fail)
 refine WX.cS (σ:=Nat) (fun i=>[(3,.one (.int .i64 (manyN l i:Nat))),(8,fS 0 l.length 397),(9,.one (.int .i64 (l.length:Nat))),(10,.one (.int .i64 (i:Nat)))]) (fun _=>[b8 56 (fl iI l)]) (fun i=>i≤l.length) (fun i=>l.length-i) 0 (Nat.zero_le _) (fun s _=>j5) (bh [0]) ?_
 intro i hi ih
 have hm1:=t5 l i
 by_cases hlt:i<l.length
 · have htl:((iI (l.getD i default)).drop 391).take 6=rG (l.getD i default).2:=zv _ _
   repeat' (first
    |(refine qz ?_;first
     |refine n6 (enc:=iI) (j:=i) ?_
     |refine qi (zs:=fw kr pv) (hz:=yq) ?_
     |refine rH (cs:=rG (l.getD i default).2) ?_ (hle:=by show _≤(fw _ _).length;rw [b9];decide) (hc:=htl)
     |refine jb (cs:=iI (l.getD i default)) ?_)
    |refine zz ?_|refine zx (fun _=>?_) (fun _=>?_)|fail)
   refine WX.cS (σ:=Nat) (fun k=>[(3,.one (.int .i64 (manyN l i+jh (l.getD i default).2 k:Nat))),(8,fS 0 l.length 397),(9,.one (.int .i64 (l.length:Nat))),(10,.one (.int .i64 (i:Nat))),(15,.agg (rG (l.getD i default).2)),(16,.one (.int .i64 (k:Nat)))]) (fun _=>[b8 56 (fl iI l)]) (fun k=>k≤6) (fun k=>6-k) 0 (Nat.zero_le _) (fun s _=>j5) (bh [0]) ?_
   intro k hk ih2
   have hm2:=xg (l.getD i default).2 k
   by_cases h6:k<6
   · obtain⟨b,hb⟩:∃ b,(l.getD i default).2 k=b:=⟨_,rfl⟩
     have hat:=CK (l.getD i default).2 h6 hb
     cases b with
     | true=>
       have e:jh (l.getD i default).2 (k+1)=jh (l.getD i default).2 k+1:=by rw [jh,if_pos hb]
       repeat' (first
        |(refine qz ?_;first
         |refine pS (hc:=hat) ?_)
        |refine zz ?_|refine zx (fun _=>?_) (fun _=>?_)|fail)
       refine ih2 (k+1) _ _ _ (bh [0] (reg:=by(repeat' (first|exact af.nil|refine af.flat (by rw [e];rfl) ?_|refine af.flat rfl ?_|refine af.cons rfl ?_|refine af.sl rfl (by assumption) rfl ?_|refine af.dY rfl rfl (by first|rfl|omega|(simp;done)|(simp;omega)) ?_));first|done|fail)) (by omega) (by omega)
     | false=>
       have e:jh (l.getD i default).2 (k+1)=jh (l.getD i default).2 k:=by rw [jh,if_neg (by rw [hb];decide),Nat.add_zero]
       repeat' (first
        |(refine qz ?_;first
         |refine pS (hc:=hat) ?_)
        |refine zz ?_|refine zx (fun _=>?_) (fun _=>?_)|fail)
       refine ih2 (k+1) _ _ _ (bh [0] (reg:=by(repeat' (first|exact af.nil|refine af.flat (by rw [e];rfl) ?_|refine af.flat rfl ?_|refine af.cons rfl ?_|refine af.sl rfl (by assumption) rfl ?_|refine af.dY rfl rfl (by first|rfl|omega|(simp;done)|(simp;omega)) ?_));first|done|fail)) (by omega) (by omega)
   · obtain rfl:k=6:=by omega
     repeat' (first|refine zz ?_|refine zx (fun _=>?_) (fun _=>?_)|fail)
     refine ih (i+1) _ _ _ (bh [0]) (by omega) (by omega)
 · obtain rfl:i=l.length:=by omega
   repeat' (first|refine zz ?_|refine zx (fun _=>?_) (fun _=>?_)|fail)
   show aC _ _ _ _ _ _ _ _;refine kV [0] ?_
   rfl
theorem Kj {l:List Ol}(hl:l.length≤64) {n:Nat}(hn:l.length=n) {z:Nat}(hz:pr l=z) {i:Nat} {HS:aj}(hi:HS[i]? = some (b8 56 (fl iI l))) (hb:Nat.blt HS.length Mem.bound=true) :
 aH.Sound Tryz.prog ⟨14,[.one (gQ i n 397)],HS,.one (.int .i64 (z:Nat)),HS,[]⟩:=by
 subst hn hz
 exact sQ [i] (Hl hl) (by simp) (.flat hi .nil) (.flat .nil) (.cons (ff (Nat.le_of_ble_eq_true rfl)) .nil) (.cons (cY ..) .nil) trivial rfl hb rfl
end Go.Proofs.YtagpkhindehcbaaGreat
namespace Go.Proofs.YtagpkhindehcbaaGreat
open Go.Xm
variable [az]
theorem GN {τl:List Nat} {n:Nat}(h:(List.range n).all (fun j=>nth τl j == j)=true):∀ j,j<n→nth τl j=j:=fun j hj=>by
 have:=List.all_eq_true.1 h j (List.mem_range.2 hj)
 simpa using this
theorem xa.F9 {c:XC} {i n:Nat}(h:xa c i n) (τ : Nat→Nat) (ht : τ 0=i):∃ c0,xa c0 0 n∧c0.ay τ = c∧c0.ok 1:=by
 rcases h with⟨h0,rfl⟩|⟨cap,rfl⟩
 · exact⟨.nils,.inl ⟨h0,rfl⟩,rfl,trivial⟩
 · exact⟨.slice 0 0 n cap,.inr ⟨cap,rfl⟩,by simp only [XC.ay,ht],by show 0<1;omega⟩
theorem Cr {l:List Ev}(h:lJ l) {c:XC} {i:Nat}(hc:xa c i l.length) {o:ak}(ho:sN o lA l) {HS:aj}(hi:HS[i]? = some o) {st:Int}(hs:0≤st∧st≤1) {r:Option (Nat→Int)}(hr:jB l st=r) (hb:Nat.blt HS.length Mem.bound=true) :
 aH.Sound Tryz.prog ⟨36,[.one c,.one (.int .i64 st)],HS,Cq r,HS,[]⟩:=by
 subst hr
 have hfo:=ho.flat
 obtain⟨c0,h0,hcr,hok⟩:=hc.F9 (nth [i]) rfl
 exact sQ [i] (Ga h ho h0 hs) (by simp) (.flat hi .nil) (.flat .nil) (.cons hok (.flat .nil)) (.cons (congrArg XV.one hcr) (.flat .nil)) (XV.gX (tj _) _) (bz.ay _) hb rfl
theorem F_ {l:List Ev}(h:lJ l) {c:XC} {i:Nat}(hc:xa c i l.length) {o:ak}(ho:sN o lA l) {HS:aj}(hi:HS[i]? = some o) {st:Int}(hs:0≤st∧st≤1) (hr:jB l st=none) (hb:Nat.blt HS.length Mem.bound=true) :
 aH.Sound Tryz.prog ⟨36,[.one c,.one (.int .i64 st)],HS,.tup [.agg (ti .i64 64 fun _=>0),.one (.int .i64 2)],HS,[]⟩:=Cr h hc ho hi hs hr hb
theorem yI {l:List Ev}(h:lJ l) {c:XC} {i:Nat}(hc:xa c i l.length) {o:ak}(ho:sN o lA l) {HS:aj}(hi:HS[i]? = some o) {st:Int}(hs:0≤st∧st≤1) {f:Nat→Int}(hr:jB l st=some f) (hb:Nat.blt HS.length Mem.bound=true) :
 aH.Sound Tryz.prog ⟨36,[.one c,.one (.int .i64 st)],HS,.tup [.agg (ti .i64 64 f),.one (.int .i64 0)],HS,[]⟩:=Cr h hc ho hi hs hr hb
structure vA (h:Hd) (p:Ph) (first:Int) (l:List Ol):Prop where
 hd:s9 h
 ph:AJ p
 pos:0≤first
 many:1≤l.length
 all:first+(l.length:Nat)≤h.cols*h.rows
 lev:∀ j,j<l.length→∀ i,-1000000≤(l.getD j default).1.lev i∧(l.getD j default).1.lev i≤1000000
theorem Mm (b:Kn) {s:Nat}(hs:s≤8):∀ n,n≤7→∀ i,64≤i→em b s n i=0:=by
 intro n
 induction n with
 | zero=>intro _ i _;simp [em]
 | succ n ih=>
   intro hn i hi
   rw [mK]
   unfold c8
   have h1:(n+1)*s≤7*8:=Nat.mul_le_mul (by omega) hs
   rw [if_neg (by omega)]
   exact ih (by omega) i hi
theorem Ff {S:bC} {mb k q:Int} {i:Nat}(hi:64≤i):cz S mb k q i=0:=by
 have ho:∀(o:Option Kn) (s:Nat),s≤8→e9 o s q i=0:=fun o s hs=>by
  unfold e9
  cases o with
  | none=>rfl
  | some b=>
    dsimp only
    split
    · exact Mm b hs 7 (by omega) i hi
    · rfl
 unfold cz tA
 repeat' split
 all_goals first
  | exact ho _ _ (by omega)
  | rfl
theorem Eo {l e f:Nat→Int}(h:ku l e=some f) (hl:rz l) (he:∀ i,64≤i→e i=0):rz f:=fun i=>by
 by_cases hi:i<64
 · exact Ep h i hi
 · unfold ku at h
   split at h
   · cases h
   · cases h
     have:=hl i
     dsimp only
     rw [he i (by omega)]
     omega
theorem Bd {S:bC} {mb:Int} {k:Nat} {m:Mb} {rest:Nat→Int}(h:jQ S mb k m rest) (hm:∀ i,-1000000≤m.lev i∧m.lev i≤1000000) {y:bC × Mb}(hF:km S mb k m rest=some y):y.1.cols=S.cols∧y.1.rows=S.rows∧tb y.1∧∀ i,-1000000≤y.2.lev i∧y.2.lev i≤1000000:=by
 have hset:∀ l:Nat→Int,rz l→∀ i,-1000000≤(dQ m k l).lev i∧(dQ m k l).lev i≤1000000:=fun l hl i=>by
  unfold dQ
  dsimp only
  split
  · have:=hl (i-k*64);omega
  · exact hm i
 have hup:∀ l:Nat→Int,rz l→∀ i,-1000000≤c8 l 0 (m.lev (k*64)) i∧c8 l 0 (m.lev (k*64)) i≤1000000:=fun l hl i=>by
  unfold c8
  split
  · exact hm _
  · have:=hl i;omega
 have hset2:∀ l:Nat→Int,rz l→∀ i,-1000000≤(dQ m k (c8 l 0 (m.lev (k*64)))).lev i∧(dQ m k (c8 l 0 (m.lev (k*64)))).lev i≤1000000:=fun l hl i=>by
  unfold dQ
  dsimp only
  split
  · exact hup l hl _
  · exact hm i
 have hlev:∀ l:Nat→Int,rz l→tb (aN S mb k ⟨c8 l 0 (m.lev (k*64)),m.qp⟩):=fun l hl=>⟨lS h.lev.1 (hup l hl),lS h.lev.2.1 (hup l hl),lS h.lev.2.2 (hup l hl)⟩
 unfold km at hF
 split at hF
 · have hs:=rS (o:=dC m.edge (aL S mb k m.qp).1) h.rest
   split at hF
   · cases hmo:ku (d_ (dC m.edge (aL S mb k m.qp).1) rest) (cz S mb k m.qp)with
     | none=>rw [hmo]at hF;cases hF
     | some l2=>
       rw [hmo]at hF
       cases hF
       have hr:=Eo hmo hs (fun i hi=>Ff hi)
       exact⟨rfl,rfl,hlev l2 hr,hset2 l2 hr⟩
   · cases hF
     exact⟨rfl,rfl,hlev _ hs,hset2 _ hs⟩
 · cases hF
   exact⟨rfl,rfl,h.lev,hset _ (rS h.rest)⟩
end Go.Proofs.YtagpkhindehcbaaGreat
