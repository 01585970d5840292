/-
  A part of the proof: Put3, MbLaw, Put4, PutLaw, PutAll, Fill2, AllLaw, ManyF, FillLaw.
-/
import Derived.Test.YtagpkhindehcbaaGreatKcN
import Derived.Test.YtagpkhindehcbaaGreatKcR
import Derived.Test.YtagpkhindehcbaaGreatKcT
import Derived.Test.YtagpkhindehcbaaGreatKcU
import Derived.Test.YtagpkhindehcbaaGreatKcV
import Derived.Test.YtagpkhindehcbaaGreatKcW
set_option maxRecDepth 10000
set_option maxHeartbeats 8000000
set_option linter.unusedVariables false
set_option linter.unusedSectionVars false
set_option linter.unusedSimpArgs false
namespace Go.Proofs.YtagpkhindehcbaaGreat
open Go.Xm
variable [az]
theorem NG {S:bz} {B bw:List Bool} {m:Mb} {mb:Int}(hP:kU S B bw m mb) (hk:m.kind=3) (x:pq) (hx:fY m mb ⟨bc S mb m.v,((B++aC S m)++[m.edge]),0,0,fun _=>[]⟩ 6=some x) :
 bt Tryz.prog 29 [.one (.ptr 2 0),.one (.ptr 0 0),.one (.ptr 22 0),.one (.int .i64 mb),.agg (mC m)] [aQ 1 B,av B,dw (S),bR 4 8 12,ay 5 6 7 cM,aX cM,aZ cM,aY cM,ay 9 10 11 cZ,aX cZ,aZ cZ,aY cZ,ay 13 14 15 cP,aX cP,aZ cP,aY cP,ch 17 (S).cols (S).rows,.map (bg (S).M),.cells [.int .i64 (S).cols,.int .i64 (S).rows,.map 19,.map 20,.map 21] 171 false false,.map (ah (S).A),.map (ah (S).B),.map (ah (S).C),aQ 23 bw,av bw] (.one (.int .i64 0)) [aQ 24 (eU x),.dead,dw (x.S),bR 4 8 12,ay 5 6 7 cM,aX cM,aZ cM,aY cM,ay 9 10 11 cZ,aX cZ,aZ cZ,aY cZ,ay 13 14 15 cP,aX cP,aZ cP,aY cP,ch 17 (x.S).cols (x.S).rows,.map (bg (x.S).M),.cells [.int .i64 (x.S).cols,.int .i64 (x.S).rows,.map 19,.map 20,.map 21] 171 false false,.map (ah (x.S).A),.map (ah (x.S).B),.map (ah (x.S).C),aQ 25 (bH bw x 6),.dead,av (eU x),av (bH bw x 6)]:=by
 have hg:=hP.good
 have hm:=hg.ok
 have hD:=hP.st.dims
 have hmb:=hP.mb
 have hlen:=hP.len
 have hkl:=fI S m
 have hK:=iQ B S m hm hg.kind hP.qp (by omega)
 rw [dL (by omega)]at hK
 have htE:cj S.M:=hP.st.tiny
 have hS2:iy (bc S mb m.v):=⟨hD,hP.st.lev,eG htE hm.v⟩
 have hB2:(((B++aC S m)++[m.edge])).length≤700000:=by
  show(((B++aC S m)++[m.edge])).length≤700000
  simp only [List.length_append,List.length_cons,List.length_nil]
  omega
 refine cO Tryz.func29 ?_
 repeat' (first
  |(refine qz ?_;first
   |refine fy ?_ (hle:=by rw [aF])
   |refine cl ?_ (hi:=by exact qF (S:=S) (S':=S) (bs:=B) (bs':=B++aC S m) (fun _ => .flat .nil) (.flat .nil) rfl hK rfl rfl rfl rfl nL nA rfl)
   |refine cl ?_ (hi:=by exact kF (b:=m.edge) (bs:=(B++aC S m)) (by simp only [List.length_append];omega) rfl rfl (by decide) nL nA rfl)
   |refine cl ?_ (hi:=by exact iW (S:=S) (bs:=((B++aC S m)++[m.edge])) hD hmb rfl rfl rfl rfl nA rfl)
   |refine cl ?_ (hi:=by exact ow (B:=((B++aC S m)++[m.edge])) (S:=bc S mb m.v) (ox (((B++aC S m)++[m.edge])) bw (bc S mb m.v) m mb hg hS2 hmb hB2 (by have:=hP.lenw;omega) x hx) rfl rfl rfl rfl rfl rfl nL nA rfl))
  |refine zz ?_|refine zx (fun _=>?_) (fun _=>?_)|fail)
 show aH _ _ _ _ _ _ _ _;refine kV [0,1,2,3,4,5,6,7,8,9,10,11,12,13,14,15,16,17,18,19,20,21,22,23,27,28] ?_
 rfl
theorem Mg {S:bz} {B bw:List Bool} {m:Mb} {mb:Int}(hP:kU S B bw m mb) (hk:m.kind=3) (hx:fY m mb ⟨bc S mb m.v,((B++aC S m)++[m.edge]),0,0,fun _=>[]⟩ 6=none) :
 bt Tryz.prog 29 [.one (.ptr 2 0),.one (.ptr 0 0),.one (.ptr 22 0),.one (.int .i64 mb),.agg (mC m)] [aQ 1 B,av B,dw (S),bR 4 8 12,ay 5 6 7 cM,aX cM,aZ cM,aY cM,ay 9 10 11 cZ,aX cZ,aZ cZ,aY cZ,ay 13 14 15 cP,aX cP,aZ cP,aY cP,ch 17 (S).cols (S).rows,.map (bg (S).M),.cells [.int .i64 (S).cols,.int .i64 (S).rows,.map 19,.map 20,.map 21] 171 false false,.map (ah (S).A),.map (ah (S).B),.map (ah (S).C),aQ 23 bw,av bw] (.one (.int .i64 2)) m_:=by
 have hg:=hP.good
 have hm:=hg.ok
 have hD:=hP.st.dims
 have hmb:=hP.mb
 have hlen:=hP.len
 have hkl:=fI S m
 have hK:=iQ B S m hm hg.kind hP.qp (by omega)
 rw [dL (by omega)]at hK
 have htE:cj S.M:=hP.st.tiny
 have hS2:iy (bc S mb m.v):=⟨hD,hP.st.lev,eG htE hm.v⟩
 have hB2:(((B++aC S m)++[m.edge])).length≤700000:=by
  show(((B++aC S m)++[m.edge])).length≤700000
  simp only [List.length_append,List.length_cons,List.length_nil]
  omega
 refine cO Tryz.func29 ?_
 repeat' (first
  |(refine qz ?_;first
   |refine fy ?_ (hle:=by rw [aF])
   |refine cl ?_ (hi:=by exact qF (S:=S) (S':=S) (bs:=B) (bs':=B++aC S m) (fun _ => .flat .nil) (.flat .nil) rfl hK rfl rfl rfl rfl nL nA rfl)
   |refine cl ?_ (hi:=by exact kF (b:=m.edge) (bs:=(B++aC S m)) (by simp only [List.length_append];omega) rfl rfl (by decide) nL nA rfl)
   |refine cl ?_ (hi:=by exact iW (S:=S) (bs:=((B++aC S m)++[m.edge])) hD hmb rfl rfl rfl rfl nA rfl)
   |refine cl ?_ (hi:=by exact my (B:=((B++aC S m)++[m.edge])) (S:=bc S mb m.v) (mA (((B++aC S m)++[m.edge])) bw (bc S mb m.v) m mb hg hS2 hmb hB2 (by have:=hP.lenw;omega) hx) rfl rfl rfl rfl rfl rfl nL nA rfl))
  |refine zz ?_|refine zx (fun _=>?_) (fun _=>?_)|fail)
 show aH _ _ _ _ _ _ _ _;refine kV [0,1,2,3,4,5,6,7,8,9,10,11,12,13,14,15,16,17,18,19,20,21,22,23] ?_
 rfl
theorem NH {S:bz} {B bw:List Bool} {m:Mb} {mb:Int}(hP:kU S B bw m mb) (hk:m.kind=4) (x:pq) (hx:fY m mb ⟨bc ({S with qp:=m.qp}:bz) mb m.v,((B++aC S m)++[m.edge]),0,0,fun _=>[]⟩ 6=some x) :
 bt Tryz.prog 29 [.one (.ptr 2 0),.one (.ptr 0 0),.one (.ptr 22 0),.one (.int .i64 mb),.agg (mC m)] [aQ 1 B,av B,dw (S),bR 4 8 12,ay 5 6 7 cM,aX cM,aZ cM,aY cM,ay 9 10 11 cZ,aX cZ,aZ cZ,aY cZ,ay 13 14 15 cP,aX cP,aZ cP,aY cP,ch 17 (S).cols (S).rows,.map (bg (S).M),.cells [.int .i64 (S).cols,.int .i64 (S).rows,.map 19,.map 20,.map 21] 171 false false,.map (ah (S).A),.map (ah (S).B),.map (ah (S).C),aQ 23 bw,av bw] (.one (.int .i64 0)) [aQ 24 (eU x),.dead,dw (x.S),bR 4 8 12,ay 5 6 7 cM,aX cM,aZ cM,aY cM,ay 9 10 11 cZ,aX cZ,aZ cZ,aY cZ,ay 13 14 15 cP,aX cP,aZ cP,aY cP,ch 17 (x.S).cols (x.S).rows,.map (bg (x.S).M),.cells [.int .i64 (x.S).cols,.int .i64 (x.S).rows,.map 19,.map 20,.map 21] 171 false false,.map (ah (x.S).A),.map (ah (x.S).B),.map (ah (x.S).C),aQ 25 (bH bw x 6),.dead,av (eU x),av (bH bw x 6)]:=by
 have hg:=hP.good
 have hm:=hg.ok
 have hD:=hP.st.dims
 have hmb:=hP.mb
 have hlen:=hP.len
 have hkl:=fI S m
 have hK:=iQ B S m hm hg.kind hP.qp (by omega)
 rw [nT hk]at hK
 have htE:cj S.M:=hP.st.tiny
 have hS2:iy (bc ({S with qp:=m.qp}:bz) mb m.v):=⟨hD,hP.st.lev,eG htE hm.v⟩
 have hB2:(((B++aC S m)++[m.edge])).length≤700000:=by
  show(((B++aC S m)++[m.edge])).length≤700000
  simp only [List.length_append,List.length_cons,List.length_nil]
  omega
 refine cO Tryz.func29 ?_
 repeat' (first
  |(refine qz ?_;first
   |refine fy ?_ (hle:=by rw [aF])
   |refine cl ?_ (hi:=by exact qF (S:=S) (S':={S with qp:=m.qp}) (bs:=B) (bs':=B++aC S m) (fun _ => .flat .nil) (.flat .nil) rfl hK rfl rfl rfl rfl nL nA rfl)
   |refine cl ?_ (hi:=by exact kF (b:=m.edge) (bs:=(B++aC S m)) (by simp only [List.length_append];omega) rfl rfl (by decide) nL nA rfl)
   |refine cl ?_ (hi:=by exact iW (S:=({S with qp:=m.qp}:bz)) (bs:=((B++aC S m)++[m.edge])) hD hmb rfl rfl rfl rfl nA rfl)
   |refine cl ?_ (hi:=by exact ow (B:=((B++aC S m)++[m.edge])) (S:=bc ({S with qp:=m.qp}:bz) mb m.v) (ox (((B++aC S m)++[m.edge])) bw (bc ({S with qp:=m.qp}:bz) mb m.v) m mb hg hS2 hmb hB2 (by have:=hP.lenw;omega) x hx) rfl rfl rfl rfl rfl rfl nL nA rfl))
  |refine zz ?_|refine zx (fun _=>?_) (fun _=>?_)|fail)
 show aH _ _ _ _ _ _ _ _;refine kV [0,1,2,3,4,5,6,7,8,9,10,11,12,13,14,15,16,17,18,19,20,21,22,23,27,28] ?_
 rfl
theorem Mh {S:bz} {B bw:List Bool} {m:Mb} {mb:Int}(hP:kU S B bw m mb) (hk:m.kind=4) (hx:fY m mb ⟨bc ({S with qp:=m.qp}:bz) mb m.v,((B++aC S m)++[m.edge]),0,0,fun _=>[]⟩ 6=none) :
 bt Tryz.prog 29 [.one (.ptr 2 0),.one (.ptr 0 0),.one (.ptr 22 0),.one (.int .i64 mb),.agg (mC m)] [aQ 1 B,av B,dw (S),bR 4 8 12,ay 5 6 7 cM,aX cM,aZ cM,aY cM,ay 9 10 11 cZ,aX cZ,aZ cZ,aY cZ,ay 13 14 15 cP,aX cP,aZ cP,aY cP,ch 17 (S).cols (S).rows,.map (bg (S).M),.cells [.int .i64 (S).cols,.int .i64 (S).rows,.map 19,.map 20,.map 21] 171 false false,.map (ah (S).A),.map (ah (S).B),.map (ah (S).C),aQ 23 bw,av bw] (.one (.int .i64 2)) m_:=by
 have hg:=hP.good
 have hm:=hg.ok
 have hD:=hP.st.dims
 have hmb:=hP.mb
 have hlen:=hP.len
 have hkl:=fI S m
 have hK:=iQ B S m hm hg.kind hP.qp (by omega)
 rw [nT hk]at hK
 have htE:cj S.M:=hP.st.tiny
 have hS2:iy (bc ({S with qp:=m.qp}:bz) mb m.v):=⟨hD,hP.st.lev,eG htE hm.v⟩
 have hB2:(((B++aC S m)++[m.edge])).length≤700000:=by
  show(((B++aC S m)++[m.edge])).length≤700000
  simp only [List.length_append,List.length_cons,List.length_nil]
  omega
 refine cO Tryz.func29 ?_
 repeat' (first
  |(refine qz ?_;first
   |refine fy ?_ (hle:=by rw [aF])
   |refine cl ?_ (hi:=by exact qF (S:=S) (S':={S with qp:=m.qp}) (bs:=B) (bs':=B++aC S m) (fun _ => .flat .nil) (.flat .nil) rfl hK rfl rfl rfl rfl nL nA rfl)
   |refine cl ?_ (hi:=by exact kF (b:=m.edge) (bs:=(B++aC S m)) (by simp only [List.length_append];omega) rfl rfl (by decide) nL nA rfl)
   |refine cl ?_ (hi:=by exact iW (S:=({S with qp:=m.qp}:bz)) (bs:=((B++aC S m)++[m.edge])) hD hmb rfl rfl rfl rfl nA rfl)
   |refine cl ?_ (hi:=by exact my (B:=((B++aC S m)++[m.edge])) (S:=bc ({S with qp:=m.qp}:bz) mb m.v) (mA (((B++aC S m)++[m.edge])) bw (bc ({S with qp:=m.qp}:bz) mb m.v) m mb hg hS2 hmb hB2 (by have:=hP.lenw;omega) hx) rfl rfl rfl rfl rfl rfl nL nA rfl))
  |refine zz ?_|refine zx (fun _=>?_) (fun _=>?_)|fail)
 show aH _ _ _ _ _ _ _ _;refine kV [0,1,2,3,4,5,6,7,8,9,10,11,12,13,14,15,16,17,18,19,20,21,22,23] ?_
 rfl
end Go.Proofs.YtagpkhindehcbaaGreat
namespace Go.Proofs.YtagpkhindehcbaaGreat
open Go.Xm
variable [az]
theorem GZ {B X:List Bool} {n:Nat}(h:n<5) (hp:X++dh cM n <+: B):kZ cM B (X.length,false)=((n:Int),((X++dh cM n).length,false)):=by
 obtain⟨t,rfl⟩:=hp
 rw [List.append_assoc,AR h X t,List.length_append]
theorem JJ {B X:List Bool} {n:Nat}(h:n<16) (hp:X++dh cP n <+: B):kZ cP B (X.length,false)=((n:Int),((X++dh cP n).length,false)):=by
 obtain⟨t,rfl⟩:=hp
 rw [List.append_assoc,uR h X t,List.length_append]
theorem JI {B X:List Bool} {n:Int}(h : -4000≤n∧n≤4000) (hp:X++aW n <+: B):fF B (X.length,false)=(n,((X++aW n).length,false)):=by
 obtain⟨t,rfl⟩:=hp
 rw [List.append_assoc,De h X t,List.length_append]
theorem G0 {B X:List Bool} {v e:Int × Int}(he:bu e) (hr:d7 v=true) (hp:X++cJ v e <+: B):pg B e (X.length,false)=(v,((X++cJ v e).length,false)):=by
 obtain⟨t,rfl⟩:=hp
 rw [List.append_assoc,HP v e he hr X t,List.length_append]
theorem Cq {B X:List Bool} {n:Int} {k:Nat}(h:0≤n∧n<2^k) (hp:X++ef n k <+: B):bZ B k (X.length,false)=(n,((X++ef n k).length,false)):=by
 obtain⟨t,rfl⟩:=hp
 rw [List.append_assoc,u5 h X t,List.length_append,gd]
theorem Cr {B X:List Bool} {b:Bool}(hp:X++[b] <+: B):dH B (X.length,false)=b∧bY B (X.length,false)=((X++[b]).length,false):=by
 obtain⟨t,rfl⟩:=hp
 have:=pP X b t
 rw [List.append_assoc,List.length_append]
 exact this
def kq (b:Kn):Int × Int:=(b.lv 0,b.qp)
def x5 (T U:nr):Prop:=∀ k,(cp U k).map kq=(cp T k).map kq
structure Rel (S R:bz):Prop where
 inter:R.inter=S.inter
 qp:R.qp=S.qp
 cols:R.cols=S.cols
 rows:R.rows=S.rows
 M:∀ k,cp R.M k=cp S.M k
 a:x5 S.A R.A
 b:x5 S.B R.B
 c:x5 S.C R.C
theorem uc {p q:Int} {T U:nr}(h:x5 T U) {key:Int} {b c:Kn}(hb:kq c=kq b):x5 (iV p q T key b) (iV p q U key c):=by
 unfold iV
 split
 · intro k
   rw [fL,fL]
   split
   · exact congrArg some hb
   · exact h k
 · exact h
theorem I7 {a b:Kn}(h:kq a=kq b):gV a=gV b:=by
 unfold kq at h
 have h1:=(Prod.mk.inj h).1
 have h2:=(Prod.mk.inj h).2
 unfold gV
 rw [h1,h2]
theorem wL {la la' lb lb' lc lc':Option Kn} {q:Int}(ha:la'.map kq=la.map kq) (hb:lb'.map kq=lb.map kq) (hc:lc'.map kq=lc.map kq):jE la' lb' lc' q=jE la lb lc q:=by
 have e:∀ {x y:Option Kn},x.map kq=y.map kq→(x=none∧y=none)∨∃ a b,x=some a∧y=some b∧gV a=gV b:=by
  intro x y h
  cases x with
  | none=>cases y with
    | none=>exact .inl ⟨rfl,rfl⟩
    | some b=>cases h
  | some a=>cases y with
    | none=>cases h
    | some b=>exact .inr ⟨a,b,rfl,rfl,I7 (Option.some.inj h)⟩
 rcases e ha with⟨rfl,rfl⟩|⟨a,a',rfl,rfl,ea⟩ <;> rcases e hb with⟨rfl,rfl⟩|⟨b,b',rfl,rfl,eb⟩ <;> rcases e hc with⟨rfl,rfl⟩|⟨c,c',rfl,rfl,ec⟩ <;> unfold jE <;> simp only [*]
theorem AS {S R:bz}(h:Rel S R) (mb k dx dy:Int):(w4 R mb k dx dy).map kq=(w4 S mb k dx dy).map kq:=by
 unfold w4 c6 cu
 rw [h.cols]
 split
 · rfl
 · unfold bU
   split
   · exact h.a _
   · split
     · exact h.b _
     · exact h.c _
theorem HG {S R:bz}(h:Rel S R) (mb k q:Int):aL R mb k q=aL S mb k q:=wL (AS h ..) (AS h ..) (AS h ..)
theorem HN {S R:bz}(h:Rel S R) (mb k:Int) {b c:Kn}(hb:kq c=kq b):Rel (aO S mb k b) (aO R mb k c):=by
 have e:lI R mb k=lI S mb k:=by unfold lI;rw [h.cols]
 refine⟨h.inter,h.qp,h.cols,h.rows,h.M,?_,?_,?_⟩
 · show x5 (iV (placeOf S.cols mb k).1 0 S.A (lI S mb k) b) (iV (placeOf R.cols mb k).1 0 R.A (lI R mb k) c)
   rw [e,h.cols];exact uc h.a hb
 · show x5 (iV (placeOf S.cols mb k).1 1 S.B (lI S mb k) b) (iV (placeOf R.cols mb k).1 1 R.B (lI R mb k) c)
   rw [e,h.cols];exact uc h.b hb
 · show x5 (iV (placeOf S.cols mb k).1 2 S.C (lI S mb k) b) (iV (placeOf R.cols mb k).1 2 R.C (lI R mb k) c)
   rw [e,h.cols];exact uc h.c hb
theorem vY {M N:fX}(h:∀ k,cp N k=cp M k) (cols rows mb k:Int):cg N cols rows mb k=cg M cols rows mb k:=by
 unfold cg kE
 simp only [h]
theorem l9 {M N:fX}(h:∀ k,cp N k=cp M k) (cols mb j:Int) (v:Int × Int) (k:Int):cp (ba N cols mb j v) k=cp (ba M cols mb j v) k:=by
 unfold ba
 rw [fL,fL,h]
theorem oS {M N:fX}(h:∀ k,cp N k=cp M k) (cols mb:Int) {v w:Nat→Int × Int}(hv:∀ j,j<4→w j=v j) (k:Int):cp (qI N cols mb w) k=cp (qI M cols mb v) k:=by
 unfold qI
 rw [hv 0 (by omega),hv 1 (by omega),hv 2 (by omega),hv 3 (by omega)]
 exact l9 (fun _=>l9 (fun _=>l9 (fun _=>l9 h ..) ..) ..) ..
theorem AX {M N:fX} {a b c d:Int} {x y z w:Int × Int}(h:∀ k,k≠a→k≠b→k≠c→k≠d→cp N k=cp M k) (k:Int):cp (nk (nk (nk (nk N a x) b y) c z) d w) k=cp (nk (nk (nk (nk M a x) b y) c z) d w) k:=by
 simp only [fL]
 split
 · rfl
 · split
   · rfl
   · split
     · rfl
     · split
       · rfl
       · exact h k (by assumption) (by assumption) (by assumption) (by assumption)
theorem xr {M N:fX}(h:∀ k,cp N k=cp M k) (cols mb:Int) {v w:Nat→Int × Int}(hv:∀ j,j<4→w j=v j) (x:Int × Int) (k:Int):cp (qI N cols mb w) k=cp (qI (ba M cols mb 0 x) cols mb v) k:=by
 rw [oS h cols mb hv k]
 exact AX (fun j h0 _ _ _=>by unfold ba;rw [fL,if_neg h0]) k
structure BI (m o:Mb):Prop where
 kind:o.kind=m.kind
 qp:o.qp=m.qp
 v:∀ k,k<4→o.v k=m.v k
 edge:o.edge=m.edge
 lev:∀ i,o.lev i=if alone m=true∧i%64=0∧i<384 then m.lev i else 0
structure m6 (S:bz) (m:Mb):Prop where
 kind:0≤m.kind∧m.kind≤4
 alo:S.inter=false→alone m=true
 edge:alone m=false→m.edge=false
 st:m.kind=4→(dV S.qp m.qp).2=true
 qp:m.kind≠4→m.qp=S.qp
 vecs:∀ k,k<4→pf m k
 lev:∀ i,i<384→yF m i
theorem jd {S:bz} {m:Mb}(hm:jc m) (h:dQ m S.inter S.qp=0):m6 S m:=by
 have hk:=hm.kind
 unfold dQ at h
 split at h
 · cases h
 rename_i h1
 split at h
 · cases h
 rename_i h2
 split at h
 · cases h
 rename_i h3
 split at h
 · cases h
 rename_i h4
 split at h
 · rename_i h5;exact absurd h h5
 rename_i h5
 have hv:gI m=0:=Decidable.byContradiction fun g=>h5 g
 refine⟨⟨hk.1,?_⟩,?_,?_,?_,?_,?_,?_⟩
 · exact Decidable.byContradiction fun g=>h1 (.inl (by omega))
 · intro g
   cases ha:alone m with
   | true=>rfl
   | false=>exact absurd (.inr ⟨g,ha⟩) h1
 · intro g
   cases he:m.edge with
   | false=>rfl
   | true=>exact absurd ⟨he,g⟩ h2
 · intro g
   cases hs:(dV S.qp m.qp).2 with
   | true=>rfl
   | false=>exact absurd ⟨g,hs⟩ h3
 · intro g
   exact Decidable.byContradiction fun e=>h4 ⟨g,e⟩
 · unfold gI at hv
   split at hv
   · rename_i g
     intro k hk
     match k,hk with
     | 0,_=>exact g.1
     | 1,_=>exact g.2.1
     | 2,_=>exact g.2.2.1
     | 3,_=>exact g.2.2.2
   · cases hv
 · unfold vq at h
   split at h
   · assumption
   · cases h
theorem D7 {a b:Int}(h:(dV a b).2=true):a+pd (dV a b).1=b∧1≤b∧b≤31:=by
 unfold dV at h ⊢
 split at h
 · cases h
 · rename_i h0
   rw [if_neg h0]
   repeat' split at h
   all_goals first|(cases h;done)|skip
   all_goals (repeat' split)
   all_goals first|contradiction|(refine⟨?_,by omega,by omega⟩;simp [pd];omega)
theorem j5 {S R:bz}(hR:Rel S R) {m:Mb}(hf:m6 S m) {X B:List Bool}(hp:X++aC S m <+: B):iu R B (X.length,false)=⟨{kQ with kind:=m.kind,qp:=m.qp},{R with qp:=m.qp},((X++aC S m).length,false)⟩:=by
 have hk:=hf.kind
 have e0:∃ K,aC S m=K++(if m.kind=4 then ef (dV S.qp m.qp).1 2 else [])∧(X++K <+: B→jP R B (X.length,false)=(m.kind,((X++K).length,false))):=by
  refine⟨_,rfl,fun hp=>?_⟩
  unfold jP
  rw [hR.inter]
  by_cases hi:S.inter=true
  · rw [if_pos hi]at hp ⊢
    rw [if_pos hi,GZ (by omega) hp]
    congr 1
    omega
  · rw [if_neg hi]at hp ⊢
    rw [if_neg hi]
    have hr:=Cr hp
    rw [hr.1,hr.2]
    have ha:=hf.alo (by simpa using hi)
    unfold alone at ha
    have ha':=of_decide_eq_true ha
    by_cases h4:m.kind=4
    · rw [decide_eq_true h4,if_pos rfl,h4]
    · rw [decide_eq_false h4,if_neg (by decide)]
      congr 1
      omega
 obtain⟨K,eK,hK⟩:=e0
 rw [eK,←List.append_assoc]at hp ⊢
 have hp1:X++K <+: B:=(List.prefix_append _ _).trans hp
 have e1:=hK hp1
 have e2:CF R B (m.kind,((X++K).length,false))=(m.qp,(((X++K)++(if m.kind=4 then ef (dV S.qp m.qp).1 2 else [])).length,false)):=by
  unfold CF
  by_cases h4:m.kind=4
  · rw [if_pos h4]at hp ⊢
    have hs:=vQ S.qp m.qp
    have hb:=D7 (hf.st h4)
    have:=Cq (k:=2) ⟨hs.1,by omega⟩ hp
    rw [if_pos h4]
    simp only [this,hR.qp]
    rw [if_neg (by omega),hb.1]
  · rw [if_neg h4,if_neg h4,List.append_nil,hR.qp,hf.qp h4]
 unfold iu
 rw [e1,e2]
theorem w9 {S R:bz}(h:Rel S R) {m:Mb}(hf:m6 S m):Rel (e9 S m) {R with qp:=m.qp}:=by
 by_cases h4:m.kind=4
 · rw [nT h4]
   exact⟨h.inter,rfl,h.cols,h.rows,h.M,h.a,h.b,h.c⟩
 · rw [dL h4]
   exact⟨h.inter,hf.qp h4,h.cols,h.rows,h.M,h.a,h.b,h.c⟩
theorem y_ {S R:bz}(h:Rel S R) {M N:fX}(hm:∀ k,cp N k=cp M k):Rel {S with M:=M} {R with M:=N}:=⟨h.inter,h.qp,h.cols,h.rows,hm,h.a,h.b,h.c⟩
theorem HJ {S:bz} {z:i_}(hR:Rel S z.S) (hT:cj S.M) {m:Mb} {mb:Int} {k:Nat}(hr:d7 (m.v k)=true) {X B:List Bool}(hz:z.r=(X.length,false)) (hp:X++cJ (m.v k) (cg S.M S.cols S.rows mb k) <+: B) :
 CJ B mb z k=⟨{z.m with v:=l7 z.m.v k (m.v k)},{z.S with M:=ba z.S.M z.S.cols mb k (m.v k)},((X++cJ (m.v k) (cg S.M S.cols S.rows mb k)).length,false)⟩:=by
 have e:pg B (cg z.S.M z.S.cols z.S.rows mb k) z.r=(m.v k,((X++cJ (m.v k) (cg S.M S.cols S.rows mb k)).length,false)):=by
  rw [hR.cols,hR.rows,vY hR.M,hz]
  exact G0 (cY hT) hr hp
 unfold CJ
 rw [e]
theorem JL {S R:bz}(h:Rel S R) (mb k:Int) (v:Int × Int):Rel {S with M:=ba S.M S.cols mb k v} {R with M:=ba R.M R.cols mb k v}:=
 y_ h (fun j=>by rw [h.cols];exact l9 h.M ..)
structure pr (S:bz) (Y:List Bool) (m:Mb) (z:i_):Prop where
 rel:Rel S z.S
 r:z.r=(Y.length,false)
 kind:z.m.kind=m.kind
 qp:z.m.qp=m.qp
 v:∀ k,k<4→z.m.v k=m.v k
 edge:z.m.edge=m.edge
 lev:∀ i,z.m.lev i=0
theorem Ey {m:Mb}(hv:∀ k,k<4→pf m k) (h2:m.kind≠2):∀ k,k<4→m.v 0=m.v k:=fun k hk=>((hv k hk).2.1 h2).symm
theorem vX {m:Mb}(hv:∀ k,k<4→pf m k) (h1:m.kind≠1) (h2:m.kind≠2):∀ k,k<4→(0,0)=m.v k:=fun k hk=>((hv k hk).2.2 h1 h2).symm
theorem p9 {m:Mb}(h3:m.kind≠3) (h4:m.kind≠4):alone m=false:=decide_eq_false (by omega)
theorem Ng {S R:bz}(hR:Rel S R) {m:Mb} {mb:Int}(hf:m6 S m) (h0:m.kind=0) {X B:List Bool}(hp:X++aC S m <+: B):pr (bc S mb m.v) (X++aC S m) m (d9 mb (iu R B (X.length,false))):=by
 rw [j5 hR hf hp]
 have h:=w9 hR hf
 rw [dL (by omega)]at h
 have hv:=vX hf.vecs (by omega) (by omega)
 exact⟨y_ h (fun k=>by rw [h.cols];exact oS h.M _ _ hv k),rfl,rfl,rfl,hv,(hf.edge (p9 (by omega) (by omega))).symm,fun _=>rfl⟩
theorem Nh {S R:bz}(hR:Rel S R) (hT:cj S.M) {m:Mb} {mb:Int}(hf:m6 S m) (h1:m.kind=1) {X B:List Bool}(hp:(ax m mb (S,X++aC S m) 0).2 <+: B):pr (bc (ax m mb (S,X++aC S m) 0).1 mb m.v) (ax m mb (S,X++aC S m) 0).2 m (d9 mb (fb B mb (iu R B (X.length,false)))):=by
 have hp1:X++aC S m <+: B:=(List.prefix_append _ _).trans hp
 have h:=w9 hR hf
 rw [dL (by omega)]at h
 have hv:=Ey hf.vecs (by omega)
 have e:pg B (cg R.M R.cols R.rows mb 0) ((X++aC S m).length,false)=(m.v 0,((ax m mb (S,X++aC S m) 0).2.length,false)):=by
  rw [hR.cols,hR.rows,vY hR.M]
  exact G0 (cY hT) (hf.vecs 0 (by omega)).1 hp
 rw [j5 hR hf hp1]
 unfold fb
 rw [if_pos h1]
 show pr _ _ _ (d9 mb ⟨{kQ with kind:=m.kind,qp:=m.qp,v:=fun _=>(pg B (cg R.M R.cols R.rows mb 0) ((X++aC S m).length,false)).1},{R with qp:=m.qp},(pg B (cg R.M R.cols R.rows mb 0) ((X++aC S m).length,false)).2⟩)
 rw [e]
 exact⟨y_ (S:=S) h (fun k=>by rw [h.cols];exact xr h.M _ _ hv _ k),rfl,rfl,rfl,hv,(hf.edge (p9 (by omega) (by omega))).symm,fun _=>rfl⟩
theorem qG {x:bz × List Bool} {z:i_}(hR:Rel x.1 z.S) (hT:cj x.1.M) {m:Mb} {mb:Int} {k:Nat}(hr:d7 (m.v k)=true) {B:List Bool}(hz:z.r=(x.2.length,false)) (hp:(ax m mb x k).2 <+: B) :
 Rel (ax m mb x k).1 (CJ B mb z k).S∧(CJ B mb z k).r=((ax m mb x k).2.length,false)∧(CJ B mb z k).m = {z.m with v:=l7 z.m.v k (m.v k)}:=by
 rw [HJ hR hT hr hz hp]
 exact⟨JL hR mb k (m.v k),rfl,rfl⟩
theorem Ni {S R:bz}(hR:Rel S R) (hT:cj S.M) {m:Mb}(hm:jc m) {mb:Int}(hf:m6 S m) (h2:m.kind=2) {X B:List Bool}(hp:(ax m mb (ax m mb (ax m mb (ax m mb (S,X++aC S m) 0) 1) 2) 3).2 <+: B):pr (bc (ax m mb (ax m mb (ax m mb (ax m mb (S,X++aC S m) 0) 1) 2) 3).1 mb m.v) (ax m mb (ax m mb (ax m mb (ax m mb (S,X++aC S m) 0) 1) 2) 3).2 m (d9 mb (fb B mb (iu R B (X.length,false)))):=by
 have p3:(ax m mb (ax m mb (ax m mb (S,X++aC S m) 0) 1) 2).2 <+: B:=(List.prefix_append _ _).trans hp
 have p2:(ax m mb (ax m mb (S,X++aC S m) 0) 1).2 <+: B:=(List.prefix_append _ _).trans p3
 have p1:(ax m mb (S,X++aC S m) 0).2 <+: B:=(List.prefix_append _ _).trans p2
 have p0:X++aC S m <+: B:=(List.prefix_append _ _).trans p1
 have h:=w9 hR hf
 rw [dL (by omega)]at h
 rw [j5 hR hf p0]
 unfold fb
 rw [if_neg (by show¬m.kind=1;omega),if_pos h2]
 obtain⟨z0,hz0⟩:∃ z0:i_,(⟨{kQ with kind:=m.kind,qp:=m.qp},{R with qp:=m.qp},((X++aC S m).length,false)⟩:i_)=z0:=⟨_,rfl⟩
 have i0:Rel (S,X++aC S m).1 z0.S:=by rw [←hz0];exact h
 have i1:z0.r=((S,X++aC S m).2.length,false):=by rw [←hz0]
 have i2:z0.m = {kQ with kind:=m.kind,qp:=m.qp}:=by rw [←hz0]
 rw [hz0]
 clear hz0
 have s0:=qG (k:=0) i0 hT (hf.vecs 0 (by omega)).1 i1 p1
 have T1:=bJ (cols:=S.cols) (mb:=mb) (k:=0) hT (hm.v 0)
 have s1:=qG (k:=1) s0.1 T1 (hf.vecs 1 (by omega)).1 s0.2.1 p2
 have T2:=bJ (cols:=S.cols) (mb:=mb) (k:=1) T1 (hm.v 1)
 have s2:=qG (k:=2) s1.1 T2 (hf.vecs 2 (by omega)).1 s1.2.1 p3
 have T3:=bJ (cols:=S.cols) (mb:=mb) (k:=2) T2 (hm.v 2)
 have s3:=qG (k:=3) s2.1 T3 (hf.vecs 3 (by omega)).1 s2.2.1 hp
 obtain⟨z3,hz3⟩:∃ z3,CJ B mb (CJ B mb (CJ B mb (CJ B mb z0 0) 1) 2) 3=z3:=⟨_,rfl⟩
 have em:z3.m = {kQ with kind:=m.kind,qp:=m.qp,v:=l7 (l7 (l7 (l7 kQ.v 0 (m.v 0)) 1 (m.v 1)) 2 (m.v 2)) 3 (m.v 3)}:=by
  rw [←hz3,s3.2.2,s2.2.2,s1.2.2,s0.2.2,i2]
 have hv:∀ k,k<4→z3.m.v k=m.v k:=fun k hk=>by
  rw [em]
  match k,hk with
  | 0,_=>rfl
  | 1,_=>rfl
  | 2,_=>rfl
  | 3,_=>rfl
 rw [hz3]at s3 ⊢
 exact⟨y_ s3.1 (fun k=>by rw [s3.1.cols];exact oS s3.1.M _ _ hv k),s3.2.1,by show z3.m.kind=_;rw [em],by show z3.m.qp=_;rw [em],hv,by show z3.m.edge=_;rw [em];exact(hf.edge (p9 (by omega) (by omega))).symm,fun i=>by show z3.m.lev i=0;rw [em];rfl⟩
theorem Nj {S R:bz}(hR:Rel S R) {m:Mb} {mb:Int}(hf:m6 S m) (h34:m.kind=3∨m.kind=4) {X B:List Bool}(hp:(X++aC S m)++[m.edge] <+: B):pr (bc (e9 S m) mb m.v) ((X++aC S m)++[m.edge]) m (d9 mb (fb B mb (iu R B (X.length,false)))):=by
 have p0:X++aC S m <+: B:=(List.prefix_append _ _).trans hp
 have h:=w9 hR hf
 rw [j5 hR hf p0]
 have hr:=Cr hp
 rw [CE (by show¬m.kind=1;omega) (by show¬m.kind=2;omega)]
 rw [hr.1,hr.2]
 have hv:=vX hf.vecs (by omega) (by omega)
 exact⟨y_ h (fun k=>by rw [h.cols];exact oS h.M _ _ hv k),rfl,rfl,rfl,hv,rfl,fun _=>rfl⟩
theorem FY {S R:bz}(hR:Rel S R) (hT:cj S.M) {m:Mb}(hm:jc m) {mb:Int}(hf:m6 S m) (h0:m.kind≠0) {X B:List Bool}(hp:(c9 S X m mb).2 <+: B):pr (c9 S X m mb).1 (c9 S X m mb).2 m (d9 mb (fb B mb (iu R B (X.length,false)))):=by
 have hk:=hf.kind
 unfold c9 at hp ⊢
 rw [if_neg h0]at hp ⊢
 split at hp
 · rename_i h1
   rw [if_pos h1]
   exact Nh hR hT hf h1 hp
 · rename_i h1
   rw [if_neg h1]
   split at hp
   · rename_i h2
     rw [if_pos h2]
     exact Ni hR hT hm hf h2 hp
   · rename_i h2
     rw [if_neg h2]
     exact Nj hR hf (by omega) hp
theorem ia {m:Mb} {mb:Int} {x0:pq} {k:Nat} {x:pq}(h:fY m mb x0 (k+1)=some x):∃ y r,fY m mb x0 k=some y∧gF m y.S mb k=some r∧x=cx m mb k y (nE m y.S mb k r):=by
 rw [fY]at h
 obtain⟨y,hy,h2⟩:=Option.bind_eq_some_iff.1 h
 obtain⟨r,hr,h3⟩:=Option.map_eq_some_iff.1 h2
 exact⟨y,r,hy,hr,h3.symm⟩
structure E2 (m:Mb) (k:Nat) (x:pq) (z:i_):Prop where
 rel:Rel x.S z.S
 r:z.r=(x.B.length,false)
 kind:z.m.kind=m.kind
 qp:z.m.qp=m.qp
 v:∀ j,j<4→z.m.v j=m.v j
 edge:z.m.edge=m.edge
 lev:∀ i,z.m.lev i=if i%64=0∧i<64*k then m.lev i else 0
theorem Dt {m:Mb} {mb:Int}(ha:alone m=true) (hg:j9 m) {x0:pq} {z:i_}(hz:pr x0.S x0.B m z) {B:List Bool}:∀ k,k≤6→∀ x,fY m mb x0 k=some x→x.B <+: B→E2 m k x (iJ B mb z k):=by
 intro k
 induction k with
 | zero=>
   intro _ x hx hp
   cases hx
   exact⟨hz.rel,hz.r,hz.kind,hz.qp,hz.v,hz.edge,fun i=>by rw [if_neg (by omega)];exact hz.lev i⟩
 | succ k ih=>
   intro hk x hx hp
   obtain⟨y,r,hy,hr,rfl⟩:=ia hx
   have eB:(cx m mb k y (nE m y.S mb k r)).B=y.B++aW (aA m k 0-(aL y.S mb k m.qp).2):=if_pos ha
   have eS:(cx m mb k y (nE m y.S mb k r)).S=aO y.S mb k ⟨aA m k,m.qp⟩:=if_pos ha
   rw [eB]at hp
   have h:=ih (by omega) y hy ((List.prefix_append _ _).trans hp)
   obtain⟨w,hw⟩:∃ w,iJ B mb z k=w:=⟨_,rfl⟩
   rw [hw]at h
   have hd:=JI (lN hg (S:=y.S) (mb:=mb) ha (by omega)) hp
   rw [←h.r]at hd
   have e0:aA m k 0=m.lev (k*64):=by unfold aA;rw [Nat.add_zero]
   have hl:=hg.first ha k (by omega)
   have ev:AB B mb w k=m.lev (k*64):=by
    unfold AB
    rw [hd,h.qp,HG h.rel,e0]
    show(aL y.S mb k m.qp).2+(m.lev (k*64)-(aL y.S mb k m.qp).2)=m.lev (k*64)
    omega
   have hb:¬uM B mb w k:=by unfold uM;rw [ev];omega
   have el:AA B mb w k=m.lev (k*64):=by unfold AA;rw [if_neg hb,ev]
   show E2 m (k+1) _ (rP B mb (iJ B mb z k) k)
   rw [hw]
   have eq1:kq ⟨aA (Ix B mb w k) k,(Ix B mb w k).qp⟩=kq ⟨aA m k,m.qp⟩:=by
    have e1:aA (Ix B mb w k) k 0=m.lev (k*64):=by
     show cW w.m.lev (k*64) (AA B mb w k) (k*64+0)=m.lev (k*64)
     rw [el];unfold cW;rw [if_pos (Nat.add_zero _)]
    show(aA (Ix B mb w k) k 0,w.m.qp)=(aA m k 0,m.qp)
    rw [e1,e0,h.qp]
   refine⟨?_,?_,h.kind,h.qp,h.v,h.edge,?_⟩
   · rw [eS]
     exact HN h.rel mb k eq1
   · rw [eB]
     show(if uM B mb w k then((fF B w.r).2.1,true)else(fF B w.r).2)=_
     rw [if_neg hb,hd]
   · intro i
     show cW w.m.lev (k*64) (AA B mb w k) i=_
     rw [el]
     unfold cW
     by_cases hi:i=k*64
     · rw [if_pos hi,if_pos (by omega),hi]
     · rw [if_neg hi,h.lev i]
       by_cases h2:i%64=0∧i<64*k
       · rw [if_pos h2,if_pos (by omega)]
       · rw [if_neg h2,if_neg (by omega)]
theorem Ao {m:Mb} {mb:Int}(ha:alone m=false) {x0:pq}:∀ k x,fY m mb x0 k=some x→x.S=x0.S∧x.B=x0.B:=by
 intro k
 induction k with
 | zero=>intro x hx;cases hx;exact⟨rfl,rfl⟩
 | succ k ih=>
   intro x hx
   obtain⟨y,r,hy,hr,rfl⟩:=ia hx
   have h:=ih y hy
   have eB:(cx m mb k y (nE m y.S mb k r)).B=y.B:=if_neg (by rw [ha];decide)
   have eS:(cx m mb k y (nE m y.S mb k r)).S=y.S:=if_neg (by rw [ha];decide)
   rw [eB,eS];exact h
theorem JB:∀(a:Fin 16) (k j:Fin 4),decide (uO .i64 (eF (a.val:Int) (k.val:Int)) (8/2^j.val)≠0)=(decide (j=k) || decide (uO .i64 (a.val:Int) (8/2^j.val)≠0)):=by decide +kernel
theorem IP:∀(a:Fin 4) (k j:Fin 2),decide (uO .u64 (ib (a.val:Int) ((k.val+4:Nat):Int)) (2/2^j.val)≠0)=(decide (j=k) || decide (uO .u64 (a.val:Int) (2/2^j.val)≠0)):=by decide +kernel
theorem Je {a c:Int}(h:0≤a∧a<16) {k j:Nat}(hk:k<4) (hj:j<6):kP (eF a k) c j=(decide (j=k) || kP a c j):=by
 unfold kP
 by_cases h4:j<4
 · rw [if_pos h4,if_pos h4]
   have:=JB ⟨a.toNat,by omega⟩ ⟨k,hk⟩ ⟨j,h4⟩
   simp only [Int.toNat_of_nonneg h.1,Fin.mk.injEq]at this
   exact this
 · rw [if_neg h4,if_neg h4,decide_eq_false (by omega:¬j=k),Bool.false_or]
theorem Jd {a c:Int}(h:0≤c∧c<4) {k j:Nat}(hk4:¬k<4) (hk:k<6) (hj:j<6):kP a (ib c k) j=(decide (j=k) || kP a c j):=by
 unfold kP
 by_cases h4:j<4
 · rw [if_pos h4,if_pos h4,decide_eq_false (by omega:¬j=k),Bool.false_or]
 · rw [if_neg h4,if_neg h4]
   have:=IP ⟨c.toNat,by omega⟩ ⟨k-4,by omega⟩ ⟨j-4,by omega⟩
   simp only [Int.toNat_of_nonneg h.1,Fin.mk.injEq,show k-4+4=k by omega]at this
   rw [this]
   congr 1
   exact decide_eq_decide.2 (by omega)
structure MN (x:pq):Prop where
 pat:0≤x.pat∧x.pat<16
 col:0≤x.col∧x.col<4
 has:∀ j,j<6→kP x.pat x.col j=decide (0<(x.ev j).length)
theorem Jf {m:Mb} {mb:Int} {S:bz} {X:List Bool}:∀ k,k≤6→∀ x,fY m mb ⟨S,X,0,0,fun _=>[]⟩ k=some x→MN x∧∀ j,k≤j→x.ev j = []:=by
 intro k
 induction k with
 | zero=>
   intro _ x hx
   cases hx
   refine⟨⟨by show(0:Int)≤0∧(0:Int)<16;decide,by show(0:Int)≤0∧(0:Int)<4;decide,?_⟩,fun _ _=>rfl⟩
   have:∀ j:Fin 6,kP 0 0 j.val=false:=by decide
   intro j hj
   exact this ⟨j,hj⟩
 | succ k ih=>
   intro hk x hx
   obtain⟨y,r,hy,hr,rfl⟩:=ia hx
   obtain⟨h,hn⟩:=ih (by omega) y hy
   obtain⟨ev,hev⟩:∃ ev,nE m y.S mb k r=ev:=⟨_,rfl⟩
   rw [hev]
   refine⟨⟨?_,?_,?_⟩,?_⟩
   · show 0≤(if 0<ev.length∧k<4 then eF y.pat k else y.pat)∧(if 0<ev.length∧k<4 then eF y.pat k else y.pat)<16
     split
     · rename_i g;exact yX h.pat g.2
     · exact h.pat
   · show 0≤(if 0<ev.length∧¬k<4 then ib y.col k else y.col)∧(if 0<ev.length∧¬k<4 then ib y.col k else y.col)<4
     split
     · rename_i g;exact yh h.col g.2 (by omega)
     · exact h.col
   · intro j hj
     show kP (if 0<ev.length∧k<4 then eF y.pat k else y.pat) (if 0<ev.length∧¬k<4 then ib y.col k else y.col) j=decide (0<(if j=k then ev else y.ev j).length)
     have e2:kP (if 0<ev.length∧k<4 then eF y.pat k else y.pat) (if 0<ev.length∧¬k<4 then ib y.col k else y.col) j=(decide (j=k∧0<ev.length) || kP y.pat y.col j):=by
      by_cases he:0<ev.length
      · by_cases h4:k<4
        · rw [if_pos ⟨he,h4⟩,if_neg (fun g=>g.2 h4),Je h.pat h4 hj]
          congr 1;exact decide_eq_decide.2 ⟨fun g=>⟨g,he⟩,fun g=>g.1⟩
        · rw [if_neg (fun g=>h4 g.2),if_pos ⟨he,h4⟩,Jd h.col h4 (by omega) hj]
          congr 1;exact decide_eq_decide.2 ⟨fun g=>⟨g,he⟩,fun g=>g.1⟩
      · rw [if_neg (fun g=>he g.1),if_neg (fun g=>he g.1),decide_eq_false (fun g=>he g.2),Bool.false_or]
     rw [e2]
     by_cases hjk:j=k
     · subst hjk
       rw [h.has j hj,hn j (Nat.le_refl _),if_pos rfl,decide_eq_false (show¬0<([]:List Ev).length from Nat.lt_irrefl 0),Bool.or_false]
       exact decide_eq_decide.2 ⟨fun g=>g.2,fun g=>⟨rfl,g⟩⟩
     · rw [if_neg hjk,decide_eq_false (fun g=>hjk g.1),Bool.false_or]
       exact h.has j hj
   · intro j hj
     show(if j=k then ev else y.ev j) = []
     rw [if_neg (by omega)]
     exact hn j (by omega)
noncomputable def gg (S:bz) (X bw:List Bool) (m:Mb) (mb:Int):Option (bz × List Bool × List Bool):=
 if m.kind=0 then some (bc S mb m.v,X++aC S m,bw)else(fY m mb ⟨(c9 S X m mb).1,(c9 S X m mb).2,0,0,fun _=>[]⟩ 6).map fun x=>(x.S,eU x,bH bw x 6)
noncomputable def qY (S:bz) (X:List Bool) (m:Mb) (mb:Int) (k:Nat):List Ev:=
 if m.kind=0 then []else match fY m mb ⟨(c9 S X m mb).1,(c9 S X m mb).2,0,0,fun _=>[]⟩ 6 with
  | some x=>x.ev k
  | none=>[]
theorem Eh {S R:bz}(hR:Rel S R) (hT:cj S.M) {m:Mb}(hg:j9 m) {mb:Int}(hf:m6 S m) {X bw B:List Bool} {S':bz} {X' bw':List Bool}(hput:gg S X bw m mb=some (S',X',bw')) (hp:X' <+: B) :
 (dC R B mb (X.length,false)).1.r=(X'.length,false)∧Rel S' (dC R B mb (X.length,false)).1.S∧BI m (dC R B mb (X.length,false)).1.m∧∀ k,k<6→(dC R B mb (X.length,false)).2 k=decide (0<(qY S X m mb k).length):=by
 unfold gg at hput
 unfold dC
 by_cases h0:m.kind=0
 · rw [if_pos h0]at hput
   have e:=Option.some.inj hput
   have e1:=(Prod.mk.inj e).1
   have e2:=(Prod.mk.inj (Prod.mk.inj e).2).1
   subst e1 e2
   have h:=Ng (mb:=mb) hR hf h0 hp
   have hk:(iu R B (X.length,false)).m.kind=0:=by rw [j5 hR hf hp];exact h0
   unfold Mj
   rw [if_pos hk]
   refine⟨h.r,h.rel,⟨h.kind,h.qp,h.v,h.edge,fun i=>?_⟩,fun k _=>?_⟩
   · rw [if_neg (fun g=>by have:=g.1;rw [p9 (by omega) (by omega)]at this;cases this)]
     exact h.lev i
   · unfold qY
     rw [if_pos h0]
     rfl
 · rw [if_neg h0]at hput
   obtain⟨x,hx,e⟩:=Option.map_eq_some_iff.1 hput
   have e1:=(Prod.mk.inj e).1
   have e2:=(Prod.mk.inj (Prod.mk.inj e).2).1
   have e3:=(Prod.mk.inj (Prod.mk.inj e).2).2
   subst e1 e2 e3
   unfold eU at hp
   have hp1:x.B++dh cP x.pat.toNat <+: B:=(List.prefix_append _ _).trans hp
   have hp2:x.B <+: B:=(List.prefix_append _ _).trans hp1
   obtain⟨hho,_⟩:=Jf 6 (Nat.le_refl _) x hx
   have hev:∀ k,qY S X m mb k=x.ev k:=fun k=>by unfold qY;rw [if_neg h0,hx]
   have hpre:(c9 S X m mb).2 <+: x.B:=by
    have:∀ k x,fY m mb ⟨(c9 S X m mb).1,(c9 S X m mb).2,0,0,fun _=>[]⟩ k=some x→(c9 S X m mb).2 <+: x.B:=by
     intro k
     induction k with
     | zero=>intro x hx;cases hx;exact List.prefix_refl _
     | succ k ih=>
       intro x hx
       obtain⟨y,r,hy,hr,rfl⟩:=ia hx
       refine(ih y hy).trans ?_
       show y.B <+: (if alone m=true then y.B++_ else y.B)
       split
       · exact List.prefix_append _ _
       · exact List.prefix_refl _
    exact this 6 x hx
   have hh:=FY hR hT hg.ok hf h0 (hpre.trans hp2)
   have hk:(iu R B (X.length,false)).m.kind≠0:=by
    have:X++aC S m <+: B:=by
     refine List.IsPrefix.trans ?_ (hpre.trans hp2)
     unfold c9
     rw [if_neg h0]
     split
     · exact List.prefix_append _ _
     · split
       · exact(((List.prefix_append _ _).trans (List.prefix_append _ _)).trans (List.prefix_append _ _)).trans (List.prefix_append _ _)
       · exact List.prefix_append _ _
    rw [j5 hR hf this];exact h0
   obtain⟨z,hz⟩:∃ z,d9 mb (fb B mb (iu R B (X.length,false)))=z:=⟨_,rfl⟩
   rw [hz]at hh
   have hrun:E2 m (if alone m=true then 6 else 0) x (gY B mb z):=by
    unfold gY
    have eal:alone z.m=alone m:=by unfold alone;rw [hh.kind]
    rw [eal]
    by_cases ha:alone m=true
    · rw [if_pos ha,if_pos ha]
      exact Dt ha hg (x0:=⟨(c9 S X m mb).1,(c9 S X m mb).2,0,0,fun _=>[]⟩) hh 6 (Nat.le_refl _) x hx hp2
    · have ha':alone m=false:=by simpa using ha
      have hs:=Ao ha' 6 x hx
      rw [if_neg ha,if_neg ha]
      exact⟨by rw [hs.1];exact hh.rel,by rw [hs.2];exact hh.r,hh.kind,hh.qp,hh.v,hh.edge,fun i=>by rw [if_neg (by omega)];exact hh.lev i⟩
   unfold Mj
   rw [if_neg hk,hz]
   obtain⟨w,hw⟩:∃ w,gY B mb z=w:=⟨_,rfl⟩
   rw [hw]at hrun ⊢
   have hpt:=JJ (n:=x.pat.toNat) (by have:=hho.pat;omega) hp1
   rw [Int.toNat_of_nonneg hho.pat.1]at hpt
   have hcl:=Cq (k:=2) ⟨hho.col.1,hho.col.2⟩ hp
   unfold zr
   rw [hrun.r,hpt]
   simp only []
   rw [hcl]
   refine⟨rfl,hrun.rel,⟨hrun.kind,hrun.qp,hrun.v,hrun.edge,fun i=>?_⟩,fun k hk=>?_⟩
   · show w.m.lev i=_
     rw [hrun.lev i]
     by_cases ha:alone m=true
     · rw [if_pos ha]
       by_cases g:i%64=0∧i<64*6
       · rw [if_pos g,if_pos ⟨ha,g.1,by omega⟩]
       · rw [if_neg g,if_neg (fun h=>g ⟨h.2.1,by omega⟩)]
     · rw [if_neg ha,if_neg (by omega),if_neg (fun h=>ha h.1)]
   · rw [hev k]
     exact hho.has k hk
end Go.Proofs.YtagpkhindehcbaaGreat
namespace Go.Proofs.YtagpkhindehcbaaGreat
open Go.Xm
variable [az]
theorem J_ {S:bz} {B bw:List Bool} {m:Mb} {mb:Int}(hP:kU S B bw m mb) {S':bz} {B' bw':List Bool}(h:gg S B bw m mb=some (S',B',bw')) :
 bt Tryz.prog 29 [.one (.ptr 2 0),.one (.ptr 0 0),.one (.ptr 22 0),.one (.int .i64 mb),.agg (mC m)] (aQ 1 B::av B::(dI S++[aQ 23 bw,av bw])) (.one (.int .i64 0)) (aQ 24 B' :: .dead::(dI S'++[aQ 25 bw',.dead,av B',av bw'])):=by
 have hk:=hP.good.kind
 have hk0:=hP.good.ok.kind
 unfold gg at h
 by_cases h0:m.kind=0
 · rw [if_pos h0]at h
   cases Option.some.inj h
   exact NC hP h0
 · rw [if_neg h0]at h
   obtain⟨x,hx,e⟩:=Option.map_eq_some_iff.1 h
   cases e
   unfold c9 at hx
   by_cases h1:m.kind=1
   · rw [if_neg h0,if_pos h1]at hx
     exact ND hP h1 x hx
   · by_cases h2:m.kind=2
     · rw [if_neg h0,if_neg h1,if_pos h2]at hx
       exact NF hP h2 x hx
     · rw [if_neg h0,if_neg h1,if_neg h2]at hx
       by_cases h3:m.kind=3
       · rw [dL (by omega)]at hx
         exact NG hP h3 x hx
       · have h4:m.kind=4:=by omega
         rw [nT h4]at hx
         exact NH hP h4 x hx
theorem Hu {S:bz} {B bw:List Bool} {m:Mb} {mb:Int}(hP:kU S B bw m mb) (h:gg S B bw m mb=none) :
 bt Tryz.prog 29 [.one (.ptr 2 0),.one (.ptr 0 0),.one (.ptr 22 0),.one (.int .i64 mb),.agg (mC m)] (aQ 1 B::av B::(dI S++[aQ 23 bw,av bw])) (.one (.int .i64 2)) m_:=by
 have hk:=hP.good.kind
 have hk0:=hP.good.ok.kind
 unfold gg at h
 by_cases h0:m.kind=0
 · rw [if_pos h0]at h
   cases h
 · rw [if_neg h0]at h
   have hx:=Option.map_eq_none_iff.1 h
   unfold c9 at hx
   by_cases h1:m.kind=1
   · rw [if_neg h0,if_pos h1]at hx
     exact Me hP h1 hx
   · by_cases h2:m.kind=2
     · rw [if_neg h0,if_neg h1,if_pos h2]at hx
       exact Mf hP h2 hx
     · rw [if_neg h0,if_neg h1,if_neg h2]at hx
       by_cases h3:m.kind=3
       · rw [dL (by omega)]at hx
         exact Mg hP h3 hx
       · have h4:m.kind=4:=by omega
         rw [nT h4]at hx
         exact Mh hP h4 hx
theorem AY {S:bz} {B bw:List Bool} {m:Mb} {mb:Int}(hP:kU S B bw m mb) {S':bz} {B' bw':List Bool}(h:gg S B bw m mb=some (S',B',bw')) {HS:ak} {i k j g N:Nat}(hi:HS[i]? = some (aQ k B)) (hk:HS[k]? = some (av B)) (hS:HS.take 13=gM) (hN:(HS.drop N).take 7=xi S N) (hj:HS[j]? = some (aQ g bw)) (hg:HS[g]? = some (av bw))
 (hnd:(i::k::kA N [j,g]).Nodup) {M:Nat}(hM:HS.length=M) {HS':ak}(hh:bN HS [i,k,N,0,1,2,3,4,5,6,7,8,9,10,11,12,N+1,N+2,N+3,N+4,N+5,N+6,j,g] [aQ M B',.dead,G_ S' N,bR 1 5 9,ay 2 3 4 cM,aX cM,aZ cM,aY cM,ay 6 7 8 cZ,aX cZ,aZ cZ,aY cZ,ay 10 11 12 cP,aX cP,aZ cP,aY cP,ch (N+2) S'.cols S'.rows,.map (bg S'.M),Hy S' N,.map (ah S'.A),.map (ah S'.B),.map (ah S'.C),aQ (M+1) bw',.dead,av B',av bw']=HS') (hbd:Nat.blt HS'.length Mem.bound=true) :
 aI.Sound Tryz.prog ⟨29,[.one (.ptr N 0),.one (.ptr i 0),.one (.ptr j 0),.one (.int .i64 mb),.agg (mC m)],HS,.one (.int .i64 0),HS',i::k::kA N [j,g]⟩:=by
 subst hM
 have h3:=tI i k N [j,g]
 have h16:=qn i k N [j,g]
 have h3':=tI i k N ([j,g]++List.range' HS.length 2)
 have h16':=qn i k N ([j,g]++List.range' HS.length 2)
 have hv:=xk (S:=S) hS hN h3 h16 (ls:=[j,g]) (l:=[aQ 23 bw,av bw]) (ae.a_ hj rfl rfl rfl (.flat hg .nil))
 have ho:=gk S 24 (by omega) (l:=[aQ 23 bw,av bw]) (.cons (by simp [aj.cc,XC.ok,bp]) (.flat .nil))
 have ho':=gk S' 26 (by omega) (l:=[aQ 25 bw',.dead,av B',av bw']) (.cons (by simp [aj.cc,XC.ok,bp]) (.flat (.flat (.flat .nil))))
 have hr:=A9 (S:=S') (N:=N) h3' h16' (l:=[aQ 25 bw',.dead,av B',av bw']) (l':=[aQ (HS.length+1) bw',.dead,av B',av bw']) (.cons (by simp only [aj.au,List.map_cons,List.map_nil,XC.au,aq];rfl) (.flat (.flat (.flat .nil))))
 refine b8 (os:=aQ HS.length B' :: .dead::Ka S' N [aQ (HS.length+1) bw',.dead,av B',av bw']) (i::k::kA N [j,g]) (i::k::kA N [j,g]) 2 (J_ hP h) hnd (ae.a_ hi rfl rfl rfl (.flat hk hv)) (.cons (by simp [aj.cc,XC.ok,bp]) (.flat ho)) (.cons (by simp [aj.cc,XC.ok,bp]) (.flat ho')) rfl (.cons (by show 2<24;omega) (.cons (by show 0<24;omega) (.cons (by show 22<24;omega) (.flat (.flat .nil))))) (.cons rfl (.cons rfl (.cons rfl (.flat (.flat .nil))))) (bB.ok _) (bB.au _) ?_ (Cu ..) rfl hh hbd (.inl rfl)
 exact .cons (by simp only [aj.au,List.map_cons,List.map_nil,XC.au,aq];rfl) (.flat hr)
theorem IK {S:bz} {B bw:List Bool} {m:Mb} {mb:Int}(hP:kU S B bw m mb) (h:gg S B bw m mb=none) {HS:ak} {i k j g N:Nat}(hi:HS[i]? = some (aQ k B)) (hk:HS[k]? = some (av B)) (hS:HS.take 13=gM) (hN:(HS.drop N).take 7=xi S N) (hj:HS[j]? = some (aQ g bw)) (hg:HS[g]? = some (av bw))
 (hnd:(i::k::kA N [j,g]).Nodup) {HS':ak}(hh:bN HS [i,k,N,0,1,2,3,4,5,6,7,8,9,10,11,12,N+1,N+2,N+3,N+4,N+5,N+6,j,g] [.dead,.dead,.dead,bR 1 5 9,ay 2 3 4 cM,aX cM,aZ cM,aY cM,ay 6 7 8 cZ,aX cZ,aZ cZ,aY cZ,ay 10 11 12 cP,aX cP,aZ cP,aY cP,.dead,.dead,.dead,.dead,.dead,.dead,.dead,.dead]=HS') (hbd:Nat.blt HS'.length Mem.bound=true) :
 aI.Sound Tryz.prog ⟨29,[.one (.ptr N 0),.one (.ptr i 0),.one (.ptr j 0),.one (.int .i64 mb),.agg (mC m)],HS,.one (.int .i64 2),HS',i::k::kA N [j,g]⟩:=by
 have h3:=tI i k N [j,g]
 have h16:=qn i k N [j,g]
 have ht2:nth ((i::k::kA N [j,g])++List.range' HS.length 0)=nth (i::k::kA N [j,g]):=by
  rw [List.range'_zero,List.append_nil]
 have hv:=xk (S:=S) hS hN h3 h16 (ls:=[j,g]) (l:=[aQ 23 bw,av bw]) (ae.a_ hj rfl rfl rfl (.flat hg .nil))
 have ho:=gk S 24 (by omega) (l:=[aQ 23 bw,av bw]) (.cons (by simp [aj.cc,XC.ok,bp]) (.flat .nil))
 have hk':bE 24 m_:=by
  refine .flat (.flat (.flat (.cons ?_ (.cons ?_ (.flat (.flat (.flat (.cons ?_ (.flat (.flat (.flat (.cons ?_ (.flat (.flat (.flat (.flat (.flat (.flat (.flat (.flat (.flat (.flat (.flat .nil)))))))))))))))))))))))
  all_goals simp [aj.cc,XC.ok]
 refine b8 (os:=[.dead,.dead,.dead,bR 1 5 9,ay 2 3 4 cM,aX cM,aZ cM,aY cM,ay 6 7 8 cZ,aX cZ,aZ cZ,aY cZ,ay 10 11 12 cP,aX cP,aZ cP,aY cP,.dead,.dead,.dead,.dead,.dead,.dead,.dead,.dead]) (i::k::kA N [j,g]) (i::k::kA N [j,g]) 0 (Hu hP h) hnd (ae.a_ hi rfl rfl rfl (.flat hk hv)) (.cons (by simp [aj.cc,XC.ok,bp]) (.flat ho)) hk' rfl (.cons (by show 2<24;omega) (.cons (by show 0<24;omega) (.cons (by show 22<24;omega) (.flat (.flat .nil))))) (.cons rfl (.cons rfl (.cons rfl (.flat (.flat .nil))))) (bB.ok _) (bB.au _) ?_ (zb ..) rfl hh hbd (.inl rfl)
 rw [ht2]
 have a1:nth (i::k::kA N [j,g]) 4=1:=h3 1 (by decide)
 have a2:nth (i::k::kA N [j,g]) 5=2:=h3 2 (by decide)
 have a3:nth (i::k::kA N [j,g]) 6=3:=h3 3 (by decide)
 have a4:nth (i::k::kA N [j,g]) 7=4:=h3 4 (by decide)
 have a5:nth (i::k::kA N [j,g]) 8=5:=h3 5 (by decide)
 have a6:nth (i::k::kA N [j,g]) 9=6:=h3 6 (by decide)
 have a7:nth (i::k::kA N [j,g]) 10=7:=h3 7 (by decide)
 have a8:nth (i::k::kA N [j,g]) 11=8:=h3 8 (by decide)
 have a9:nth (i::k::kA N [j,g]) 12=9:=h3 9 (by decide)
 have b0:nth (i::k::kA N [j,g]) 13=10:=h3 10 (by decide)
 have b1:nth (i::k::kA N [j,g]) 14=11:=h3 11 (by decide)
 have b2:nth (i::k::kA N [j,g]) 15=12:=h3 12 (by decide)
 refine .flat (.flat (.flat (.cons ?_ (.cons ?_ (.flat (.flat (.flat (.cons ?_ (.flat (.flat (.flat (.cons ?_ (.flat (.flat (.flat (.flat (.flat (.flat (.flat (.flat (.flat (.flat (.flat .nil)))))))))))))))))))))))
 · simp only [aj.au,List.map_cons,List.map_nil,XC.au,a1,a5,a9]
 · simp only [aj.au,List.map_cons,List.map_nil,XC.au,a2,a3,a4]
 · simp only [aj.au,List.map_cons,List.map_nil,XC.au,a6,a7,a8]
 · simp only [aj.au,List.map_cons,List.map_nil,XC.au,b0,b1,b2]
end Go.Proofs.YtagpkhindehcbaaGreat
namespace Go.Proofs.YtagpkhindehcbaaGreat
open Go.Xm
variable [az]
theorem tg {S:bz} {m:Mb}(hm:jc m) (hf:m6 S m):j9 m:=
 ⟨hm,hf.kind.2,fun i hi=>(hf.lev i hi).2.1,fun ha k hk=>(hf.lev (k*64) (by omega)).2.2 (by omega) ha⟩
theorem Dq {S:bz} {m:Mb}(hf:m6 S m):∀ k,k<4→d7 (m.v k)=true:=fun k hk=>(hf.vecs k hk).1
theorem Fj {m:Mb}(hg:j9 m) {mb:Int} {x0:pq}(h0:z6 m mb x0 (0,x0)):∀ k,k≤6→∀ x,fY m mb x0 k=some x→z6 m mb x0 (k,x):=by
 intro k
 induction k with
 | zero=>
   intro _ x hx
   cases hx;exact h0
 | succ k ih=>
   intro hk x hx
   obtain⟨y,r,hy,hr,rfl⟩:=ia hx
   exact lM hg (ih (by omega) y hy) (by show k<6;omega) hr
theorem C9 {m:Mb} {mb:Int} {x0:pq}:∀ k x,fY m mb x0 k=some x→x.S.inter=x0.S.inter∧x.S.qp=x0.S.qp∧x0.B <+: x.B:=by
 intro k
 induction k with
 | zero=>intro x hx;cases hx;exact⟨rfl,rfl,List.prefix_refl _⟩
 | succ k ih=>
   intro x hx
   obtain⟨y,r,hy,hr,rfl⟩:=ia hx
   obtain⟨h1,h2,h3⟩:=ih y hy
   refine⟨?_,?_,?_⟩
   · show(if alone m=true then aO y.S mb k ⟨aA m k,m.qp⟩else y.S).inter=_
     split <;> exact h1
   · show(if alone m=true then aO y.S mb k ⟨aA m k,m.qp⟩else y.S).qp=_
     split <;> exact h2
   · show x0.B <+: (if alone m=true then y.B++_ else y.B)
     split
     · exact h3.trans (List.prefix_append _ _)
     · exact h3
structure rL (S:bz) (X:List Bool) (n:Nat) (z:bz × List Bool):Prop where
 st:iy z.1
 cols:z.1.cols=S.cols
 rows:z.1.rows=S.rows
 inter:z.1.inter=S.inter
 qp:z.1.qp=S.qp
 pre:X <+: z.2
 len:z.2.length≤X.length+n
theorem nQ {S:bz} {X:List Bool} {n:Nat} {z:bz × List Bool}(h:rL S X n z) {m:Mb}(hm:jc m) (mb:Int) (k:Nat):rL S X (n+54) (ax m mb z k):=by
 refine⟨⟨h.st.dims,h.st.lev,bJ h.st.tiny (hm.v k)⟩,h.cols,h.rows,h.inter,h.qp,h.pre.trans (List.prefix_append _ _),?_⟩
 have:=gm (m.v k) (cg z.1.M z.1.cols z.1.rows mb k)
 have:=h.len
 show(z.2++cJ (m.v k) (cg z.1.M z.1.cols z.1.rows mb k)).length≤_
 rw [List.length_append];omega
theorem mF {S:bz} {X:List Bool} {n:Nat} {z:bz × List Bool}(h:rL S X n z) {m:Mb}(hm:jc m) (mb:Int):rL S X n (bc z.1 mb m.v,z.2):=
 ⟨⟨h.st.dims,h.st.lev,eG h.st.tiny hm.v⟩,h.cols,h.rows,h.inter,h.qp,h.pre,h.len⟩
theorem pF {S:bz} {X:List Bool} {n k:Nat} {z:bz × List Bool}(h:rL S X n z) (hk:n≤k):rL S X k z:=
 ⟨h.st,h.cols,h.rows,h.inter,h.qp,h.pre,by have:=h.len;omega⟩
theorem yE {S:bz}(hS:iy S) (m:Mb):iy (e9 S m)∧(e9 S m).cols=S.cols∧(e9 S m).rows=S.rows∧(e9 S m).inter=S.inter∧(e9 S m).qp=if m.kind=4 then m.qp else S.qp:=by
 unfold e9
 split
 · exact⟨⟨hS.dims,hS.lev,hS.tiny⟩,rfl,rfl,rfl,rfl⟩
 · exact⟨hS,rfl,rfl,rfl,rfl⟩
theorem AH {S:bz}(hS:iy S) {m:Mb}(hm:jc m) {X:List Bool} {mb:Int}:rL (e9 S m) (X++aC S m) 216 (c9 S X m mb):=by
 have hk:=(yE hS m).1
 have h0:rL (e9 S m) (X++aC S m) 0 (e9 S m,X++aC S m):=⟨hk,rfl,rfl,rfl,rfl,List.prefix_refl _,Nat.le_refl _⟩
 unfold c9
 split
 · rename_i g
   rw [dL (by omega)]at h0 ⊢
   exact pF (mF h0 hm mb) (by omega)
 · split
   · rename_i g
     rw [dL (by omega)]at h0 ⊢
     exact pF (mF (nQ h0 hm mb 0) hm mb) (by omega)
   · split
     · rename_i g
       rw [dL (by omega)]at h0 ⊢
       exact pF (mF (nQ (nQ (nQ (nQ h0 hm mb 0) hm mb 1) hm mb 2) hm mb 3) hm mb) (by omega)
     · have h1:=mF h0 hm mb
       exact⟨h1.st,h1.cols,h1.rows,h1.inter,h1.qp,List.prefix_append _ _,by simp only [List.length_append,List.length_cons,List.length_nil];omega⟩
structure N2 (S:bz) (X bw:List Bool) (m:Mb) (z:bz × List Bool × List Bool):Prop where
 st:iy z.1
 cols:z.1.cols=S.cols
 rows:z.1.rows=S.rows
 inter:z.1.inter=S.inter
 qp:z.1.qp=m.qp
 pre:X++aC S m <+: z.2.1
 len:z.2.1.length≤X.length+1000
 lenw:z.2.2.length≤bw.length+20736
theorem vF {S:bz}(hS:iy S) {m:Mb}(hm:jc m) (hf:m6 S m) {X bw:List Bool} {mb:Int} {z:bz × List Bool × List Bool}(h:gg S X bw m mb=some z):N2 S X bw m z:=by
 have hg:=tg hm hf
 have hh:=AH hS hm (X:=X) (mb:=mb)
 obtain⟨_,k1,k2,k3,k4⟩:=yE hS m
 have hkl:=fI S m
 have hq:(if m.kind=4 then m.qp else S.qp)=m.qp:=by
  split
  · rfl
  · rename_i h4;exact(hf.qp h4).symm
 rw [hq]at k4
 have hlx:(X++aC S m).length≤X.length+66:=by rw [List.length_append];omega
 have hhl:=hh.len
 unfold gg at h
 by_cases h0:m.kind=0
 · rw [if_pos h0]at h
   have e:c9 S X m mb=(bc S mb m.v,X++aC S m):=by unfold c9;rw [if_pos h0]
   rw [e]at hh
   cases Option.some.inj h
   exact⟨hh.st,hh.cols.trans k1,hh.rows.trans k2,hh.inter.trans k3,hh.qp.trans k4,hh.pre,by show(X++aC S m).length≤_;omega,Nat.le_add_right _ _⟩
 · rw [if_neg h0]at h
   obtain⟨x,hx,e⟩:=Option.map_eq_some_iff.1 h
   cases e
   obtain⟨z0,hz0⟩:∃ z0,c9 S X m mb=z0:=⟨_,rfl⟩
   rw [hz0]at hh hx hhl
   have hi:z6 m mb ⟨z0.1,z0.2,0,0,fun _=>[]⟩ (0,⟨z0.1,z0.2,0,0,fun _=>[]⟩):=⟨Nat.zero_le _,rfl,hh.st,⟨rfl,rfl⟩,Nat.le_refl _,fun _ _=>rfl,fun _ => .inl rfl,by show(0:Int)≤0∧(0:Int)<16;decide,by show(0:Int)≤0∧(0:Int)<4;decide⟩
   have hb:=Fj hg hi 6 (Nat.le_refl _) x hx
   have hr:=C9 6 x hx
   have hlen:x.B.length≤z0.2.length+76*6:=hb.len
   have hcl:=j4 BU x.pat.toNat
   refine⟨hb.st,hb.cr.1.trans (hh.cols.trans k1),hb.cr.2.trans (hh.rows.trans k2),hr.1.trans (hh.inter.trans k3),hr.2.1.trans (hh.qp.trans k4),?_,?_,?_⟩
   · exact hh.pre.trans (hr.2.2.trans ((List.prefix_append _ _).trans (List.prefix_append _ _)))
   · show((x.B++dh cP x.pat.toNat)++ef x.col 2).length≤_
     simp only [List.length_append,gd]
     rw [List.length_append]at hlx hhl
     omega
   · have:=qT (bw:=bw) hb.evs 6
     show(bH bw x 6).length≤_
     omega
structure PS where
 S:bz
 B:List Bool
 w:List Bool
noncomputable def lV (first:Int) (k:Nat) (m:Mb) (x:PS):Int ⊕ PS:=
 if dQ m x.S.inter x.S.qp≠0 then .inl (dQ m x.S.inter x.S.qp)else match gg x.S x.B x.w m (first+(k:Nat))with
  | none => .inl 2
  | some z => .inr ⟨z.1,z.2.1,z.2.2⟩
noncomputable def fk (l:List Mb) (first:Int) (x0:PS):Nat→Int ⊕ PS
 | 0 => .inr x0
 | k+1=>match fk l first x0 k with
   | .inl e => .inl e
   | .inr x=>lV first k (l.getD k kQ) x
theorem kx {l:List Mb} {first:Int} {x0:PS} {k:Nat} {e:Int}(h:fk l first x0 k = .inl e):∀ j,k≤j→fk l first x0 j = .inl e:=by
 intro j hj
 induction hj with
 | refl=>exact h
 | step _ ih=>rw [fk,ih]
structure xX (p:Bool) (c r:Int) (j:Nat) (x:PS):Prop where
 st:iy x.S
 cols:x.S.cols=c
 rows:x.S.rows=r
 inter:x.S.inter=p
 qp : -1000000≤x.S.qp∧x.S.qp≤1000000
 len:x.B.length≤1000*j
 lenw:x.w.length≤20736*j
theorem oH {p:Bool} {c r:Int} {j:Nat} {x y:PS}(h:xX p c r j x) {m:Mb}(hm:jc m) {first:Int} {k:Nat}(hy:lV first k m x = .inr y):xX p c r (j+1) y:=by
 unfold lV at hy
 split at hy
 · cases hy
 · rename_i hc
   have hc0:dQ m x.S.inter x.S.qp=0:=Decidable.byContradiction fun g=>hc g
   have hf:=jd hm hc0
   split at hy
   · cases hy
   · rename_i z hz
     cases hy
     have hk:=vF h.st hm hf hz
     have a:=hk.len
     have b:=hk.lenw
     have a':=h.len
     have b':=h.lenw
     exact⟨hk.st,hk.cols.trans h.cols,hk.rows.trans h.rows,hk.inter.trans h.inter,by rw [hk.qp];exact hm.qp,by show z.2.1.length≤_;omega,by show z.2.2.length≤_;omega⟩
theorem tS {p:Bool} {c r:Int} {j:Nat} {x:PS}(h:xX p c r j x) (hj:j≤20) {m:Mb}(hm:jc m) {mb:Int}(hmb:0≤mb∧mb<c*r) (hc:dQ m x.S.inter x.S.qp=0):kU x.S x.B x.w m mb:=by
 have hf:=jd hm hc
 have a:=h.len
 have b:=h.lenw
 exact⟨h.st,by rw [h.cols,h.rows];exact hmb,h.qp,tg hm hf,Dq hf,by omega,by omega⟩
end Go.Proofs.YtagpkhindehcbaaGreat
namespace Go.Proofs.YtagpkhindehcbaaGreat
open Go.Xm
variable [az]
instance NT (p:Ph) (e:TypeId) (a b:Bool):dc (.cells (jh p) e a b):=gW rfl
instance OL:Inhabited Mb:=⟨kQ⟩
theorem jy:bC Tryz.prog 53 (mC kQ):=by
 have h:([.int .u8 0,.int .i64 0,.cplx .f64 0 0,.cplx .f64 0 0,.cplx .f64 0 0,.cplx .f64 0 0,.bool false]++(ti .i64 384 fun _=>0):List XC)=mC kQ:=by
  unfold mC kQ
  simp only [←dM]
  rfl
 rw [←h]
 infer_instance
theorem nH {m:Mb}(hm:jc m) {inter:Bool} {was:Int}(hw : -1000000≤was∧was≤1000000) {c:Int}(hc:dQ m inter was=c) {HS:ak}(hb:Nat.blt HS.length Mem.bound=true):aI.Sound Tryz.prog ⟨28,[.agg (mC m),.one (.bool inter),.one (.int .i64 was)],HS,.one (.int .i64 c),HS,[]⟩:=by
 subst hc;exact Fo hm hw hb
structure fZ (h:Hd) (p:Ph) (l:List Mb) (first:Int):Prop where
 hd:sM h
 ph:z9 p
 mok:∀ m∈l,jc m
 pos:0≤first
 many:1≤l.length
 few:l.length≤16
 all:first+(l.length:Nat)≤h.cols*h.rows
abbrev lW (h:Hd) (p:Ph):PS:=⟨jJ h p,[],[]⟩
theorem Ck {h:Hd} {p:Ph}(ho:sM h) (hp:z9 p):xX p.inter h.cols h.rows 0 (lW h p):=
 ⟨⟨ho.dims,⟨lP,lP,lP⟩,vS⟩,rfl,rfl,rfl,by have:=hp.qp;show -1000000≤p.qp∧p.qp≤1000000;omega,Nat.zero_le _,Nat.zero_le _⟩
theorem oz {l:List Int}(hl:eI l) (hn:l.length≤100000) {q:List Int}(hq:(ie l l.length).1=q) {n:Nat}(hln:l.length=n) {HS:ak} {i:Nat}(hi:HS[i]? = some (cK 5 (il .u8 l))) {N:Nat}(hN:HS.length=N) {HS':ak}(hh:HS++[cK 5 (il .u8 q)]=HS') (hb:Nat.blt HS'.length Mem.bound=true) :
 aI.Sound Tryz.prog ⟨30,[iK i n 1],HS,iK N q.length 1,HS',[i]⟩:=by
 subst hq
 exact Dg hl hn hln hi hN hh hb
theorem rf {l:List Mb} {first:Int} {x0:PS} {k:Nat} {x:PS}(h:fk l first x0 k = .inr x):fk l first x0 (k+1)=lV first k (l.getD k default) x:=by
 rw [fk,h]
 rfl
theorem rh {first:Int} {k:Nat} {m:Mb} {x:PS} {c:Int}(hc:dQ m x.S.inter x.S.qp=c) (h0:c≠0):lV first k m x = .inl c:=by
 subst hc
 exact if_pos h0
theorem ri {first:Int} {k:Nat} {m:Mb} {x:PS}(hc:dQ m x.S.inter x.S.qp=0) (h:gg x.S x.B x.w m (first+(k:Nat))=none):lV first k m x = .inl 2:=by
 unfold lV
 rw [if_neg (fun g=>g hc),h]
theorem pN {first:Int} {k:Nat} {m:Mb} {x:PS}(hc:dQ m x.S.inter x.S.qp=0) {z:bz × List Bool × List Bool}(h:gg x.S x.B x.w m (first+(k:Nat))=some z):lV first k m x = .inr ⟨z.1,z.2.1,z.2.2⟩:=by
 unfold lV
 rw [if_neg (fun g=>g hc),h]
theorem Fw {h:Hd} {p:Ph} {l:List Mb} {first:Int}(hT:fZ h p l first) {cap:sL} {ob:aj}(ho:wo ob mC l) {e:Int}(hx:fk l first (lW h p) l.length = .inl e) :
 bt Tryz.prog 11 [.one (.ptr 0 0),.agg (iz h),.agg (jh p),.one (.int .i64 first),.one (.slice 13 0 l.length cap)] [bR 1 5 9,ay 2 3 4 cM,aX cM,aZ cM,aY cM,ay 6 7 8 cZ,aX cZ,aZ cZ,aY cZ,ay 10 11 12 cP,aX cP,aZ cP,aY cP,ob] (.tup [.one .nils,.one .nils,.one (.int .i64 e)]) [bR 1 5 9,ay 2 3 4 cM,aX cM,aZ cM,aY cM,ay 6 7 8 cZ,aX cZ,aZ cZ,aY cZ,ay 10 11 12 cP,aX cP,aZ cP,aY cP,ob]:=by
 have hfo:=ho.flat
 have h1:=hT.hd.dims.c0
 have h2:=hT.hd.dims.c1
 have h3:=hT.hd.dims.r0
 have h4:=hT.hd.dims.r1
 have hf:=hT.pos
 have hm:=hT.many
 have hm16:=hT.few
 have ha:=hT.all
 have hcr:1≤h.cols*h.rows∧h.cols*h.rows≤64:=kh hT.hd.dims
 refine cO Tryz.func11 ?_
 repeat' (first
  |(refine qz ?_;first
   |refine fy ?_ (hle:=by rw [bM])
   |refine cl ?_ (hi:=by exact oA hT.hd rfl)
   |refine cl ?_ (hi:=by exact oG hT.ph rfl)
   |refine cl ?_ (hi:=by exact nF hT.hd rfl nL nA rfl))
  |refine zz ?_|refine zx (fun _=>?_) (fun _=>?_)|fail)
 refine WX.dv rfl ?_
 refine WX.dv rfl ?_
 refine WX.dp (σ:=Nat × PS) (fun s=>[(3,.one (.int .i64 first)),(7,.one (.ptr 14 0)),(15,.one (.ptr 15 0)),(16,.one (.ptr 22 0)),(17,.one (.ptr 24 0)),(71,.one (.slice 13 0 l.length cap)),(72,.one (.int .i64 (l.length:Nat))),(73,.one (.int .i64 (s.1:Nat)))]) (fun s=>[bR 1 5 9,ay 2 3 4 cM,aX cM,aZ cM,aY cM,ay 6 7 8 cZ,aX cZ,aZ cZ,aY cZ,ay 10 11 12 cP,aX cP,aZ cP,aY cP,ob,.cells (jh p) 28 false false,G_ s.2.S 15,ch 17 s.2.S.cols s.2.S.rows,.map (bg s.2.S.M),Hy s.2.S 15,.map (ah s.2.S.A),.map (ah s.2.S.B),.map (ah s.2.S.C),aQ 23 s.2.B,av s.2.B,aQ 25 s.2.w,av s.2.w]) (fun s=>s.1≤l.length∧fk l first (lW h p) s.1 = .inr s.2∧xX p.inter h.cols h.rows s.1 s.2) (fun s=>l.length-s.1) (0,lW h p) ⟨Nat.zero_le _,rfl,Ck hT.hd hT.ph⟩ (fun s _=>kS) (bm [0,1,2,3,4,5,6,7,8,9,10,11,12,13,15,16,17,18,19,20,21,22,23,25,24,26] (obj:=by(repeat' (first|exact ae.nil|refine ae.a_ rfl rfl rfl rfl ?_|refine ae.dead rfl ?_|refine ae.flat rfl ?_|refine ae.cons rfl ?_|refine ae.dead rfl ?_|refine ae.cons (by simp only [aj.au,List.map_cons,List.map_nil,XC.au,aq];exact rfl) ?_));first|done|fail)) ?_
 intro s ⟨hle,hrun,hs⟩ ih
 by_cases hlt:s.1<l.length
 · have hmk:jc (l.getD s.1 default):=by
    rw [List.getD_eq_getElem?_getD,List.getElem?_eq_getElem hlt,Option.getD_some]
    exact hT.mok _ (List.getElem_mem hlt)
   have hnx:=rf hrun
   obtain⟨m,hme⟩:∃ m,l.getD s.1 default=m:=⟨_,rfl⟩
   have hme':l.getD (s.1:Int).toNat default=m:=hme
   rw [hme]at hmk hnx
   have hqq:=hs.qp
   have hmb:0≤first+(s.1:Nat)∧first+(s.1:Nat)<h.cols*h.rows:=by omega
   obtain⟨c,hc⟩:∃ c,dQ m p.inter s.2.S.qp=c:=⟨_,rfl⟩
   have hcS:dQ m s.2.S.inter s.2.S.qp=c:=by rw [hs.inter];exact hc
   by_cases hc0:c=0
   · subst hc0
     have hP:=tS hs (by omega) hmk hmb hcS
     cases hz:gg s.2.S s.2.B s.2.w m (first+(s.1:Nat))with
     | none=>
       have eN:=(hx.symm.trans (kx (hnx.trans (ri hcS hz)) l.length (by omega)))
       cases eN
       repeat' (first
        |(refine qz ?_;first
         |refine p7 (zs:=mC kQ) (hz:=jy) ?_
         |refine pI (enc:=mC) ?_
         |refine i9 (cs:=mC m) ?_ (hy:=by rw [←hme'];rfl) (hs1:=by rw [aF]) (hs2:=by rw [aF])
         |refine fy ?_ (hle:=by rw [aF])
         |refine cl ?_ (hi:=by exact nH hmk hqq hc rfl)
         |refine cl ?_ (hi:=by exact IK hP hz (i:=22) (k:=23) (N:=15) (j:=24) (g:=25) rfl rfl rfl rfl rfl rfl (by decide) nA rfl))
        |refine zz ?_|refine zx (fun _=>?_) (fun _=>?_)|fail)
       show aH _ _ _ _ _ _ _ _;refine kV [0,1,2,3,4,5,6,7,8,9,10,11,12,13] ?_
       rfl
     | some z=>
       have hnx2:=hnx.trans (pN hcS hz)
       repeat' (first
        |(refine qz ?_;first
         |refine p7 (zs:=mC kQ) (hz:=jy) ?_
         |refine pI (enc:=mC) ?_
         |refine i9 (cs:=mC m) ?_ (hy:=by rw [←hme'];rfl) (hs1:=by rw [aF]) (hs2:=by rw [aF])
         |refine fy ?_ (hle:=by rw [aF])
         |refine cl ?_ (hi:=by exact nH hmk hqq hc rfl)
         |refine cl ?_ (hi:=by exact AY hP hz (i:=22) (k:=23) (N:=15) (j:=24) (g:=25) rfl rfl rfl rfl rfl rfl (by decide) nL nA rfl))
        |refine zz ?_|refine zx (fun _=>?_) (fun _=>?_)|fail)
       exact ih (s.1+1,⟨z.1,z.2.1,z.2.2⟩) _ _ _ (bm [0,1,2,3,4,5,6,7,8,9,10,11,12,13,14,15,16,17,18,19,20,21,22,27,24,28] (obj:=by(repeat' (first|exact ae.nil|refine ae.a_ rfl rfl rfl rfl ?_|refine ae.flat rfl ?_|refine ae.cons rfl ?_|refine ae.dead rfl ?_|refine ae.cons (by simp only [aj.au,List.map_cons,List.map_nil,XC.au,aq];exact rfl) ?_));first|done|fail)) ⟨by show s.1+1≤l.length;omega,hnx2,oH hs hmk (hnx2 ▸ hnx.symm)⟩ (by show l.length-(s.1+1)<l.length-s.1;omega)
   · have eB:=(hx.symm.trans (kx (hnx.trans (rh hcS hc0)) l.length (by omega)))
     cases eB
     repeat' (first
      |(refine qz ?_;first
       |refine p7 (zs:=mC kQ) (hz:=jy) ?_
       |refine pI (enc:=mC) ?_
       |refine i9 (cs:=mC m) ?_ (hy:=by rw [←hme'];rfl) (hs1:=by rw [aF]) (hs2:=by rw [aF])
       |refine fy ?_ (hle:=by rw [aF])
       |refine cl ?_ (hi:=by exact nH hmk hqq hc rfl))
      |refine zz ?_|refine zx (fun _=>?_) (fun _=>?_)|fail)
     show aH _ _ _ _ _ _ _ _;refine kV [0,1,2,3,4,5,6,7,8,9,10,11,12,13] ?_
     rfl
 · have e0:s.1=l.length:=by omega
   rw [e0,hx]at hrun
   cases hrun
theorem IQ {h:Hd} {p:Ph} {l:List Mb} {first:Int}(hT:fZ h p l first) {cap:sL} {ob:aj}(ho:wo ob mC l) {x:PS}(hx:fk l first (lW h p) l.length = .inr x) {a b:List Int}(hqa:(ie (wr (x.B++[true])) (wr (x.B++[true])).length).1=a) (hqb:(ie (wr (x.w++[true])) (wr (x.w++[true])).length).1=b) (hla:a.length≤30000) (hlb:b.length≤30000) :
 bt Tryz.prog 11 [.one (.ptr 0 0),.agg (iz h),.agg (jh p),.one (.int .i64 first),.one (.slice 13 0 l.length cap)] [bR 1 5 9,ay 2 3 4 cM,aX cM,aZ cM,aY cM,ay 6 7 8 cZ,aX cZ,aZ cZ,aY cZ,ay 10 11 12 cP,aX cP,aZ cP,aY cP,ob] (.tup [.one (kC 14 a.length 1),.one (kC 15 b.length 1),.one (.int .i64 0)]) [bR 1 5 9,ay 2 3 4 cM,aX cM,aZ cM,aY cM,ay 6 7 8 cZ,aX cZ,aZ cZ,aY cZ,ay 10 11 12 cP,aX cP,aZ cP,aY cP,ob,cK 5 (il .u8 a),cK 5 (il .u8 b)]:=by
 have hfo:=ho.flat
 have h1:=hT.hd.dims.c0
 have h2:=hT.hd.dims.c1
 have h3:=hT.hd.dims.r0
 have h4:=hT.hd.dims.r1
 have hf:=hT.pos
 have hm:=hT.many
 have hm16:=hT.few
 have ha:=hT.all
 have hcr:1≤h.cols*h.rows∧h.cols*h.rows≤64:=kh hT.hd.dims
 refine cO Tryz.func11 ?_
 repeat' (first
  |(refine qz ?_;first
   |refine fy ?_ (hle:=by rw [bM])
   |refine cl ?_ (hi:=by exact oA hT.hd rfl)
   |refine cl ?_ (hi:=by exact oG hT.ph rfl)
   |refine cl ?_ (hi:=by exact nF hT.hd rfl nL nA rfl))
  |refine zz ?_|refine zx (fun _=>?_) (fun _=>?_)|fail)
 refine WX.dv rfl ?_
 refine WX.dv rfl ?_
 refine WX.dp (σ:=Nat × PS) (fun s=>[(3,.one (.int .i64 first)),(7,.one (.ptr 14 0)),(15,.one (.ptr 15 0)),(16,.one (.ptr 22 0)),(17,.one (.ptr 24 0)),(71,.one (.slice 13 0 l.length cap)),(72,.one (.int .i64 (l.length:Nat))),(73,.one (.int .i64 (s.1:Nat)))]) (fun s=>[bR 1 5 9,ay 2 3 4 cM,aX cM,aZ cM,aY cM,ay 6 7 8 cZ,aX cZ,aZ cZ,aY cZ,ay 10 11 12 cP,aX cP,aZ cP,aY cP,ob,.cells (jh p) 28 false false,G_ s.2.S 15,ch 17 s.2.S.cols s.2.S.rows,.map (bg s.2.S.M),Hy s.2.S 15,.map (ah s.2.S.A),.map (ah s.2.S.B),.map (ah s.2.S.C),aQ 23 s.2.B,av s.2.B,aQ 25 s.2.w,av s.2.w]) (fun s=>s.1≤l.length∧fk l first (lW h p) s.1 = .inr s.2∧xX p.inter h.cols h.rows s.1 s.2) (fun s=>l.length-s.1) (0,lW h p) ⟨Nat.zero_le _,rfl,Ck hT.hd hT.ph⟩ (fun s _=>kS) (bm [0,1,2,3,4,5,6,7,8,9,10,11,12,13,15,16,17,18,19,20,21,22,23,25,24,26] (obj:=by(repeat' (first|exact ae.nil|refine ae.a_ rfl rfl rfl rfl ?_|refine ae.dead rfl ?_|refine ae.flat rfl ?_|refine ae.cons rfl ?_|refine ae.dead rfl ?_|refine ae.cons (by simp only [aj.au,List.map_cons,List.map_nil,XC.au,aq];exact rfl) ?_));first|done|fail)) ?_
 intro s ⟨hle,hrun,hs⟩ ih
 by_cases hlt:s.1<l.length
 · have hmk:jc (l.getD s.1 default):=by
    rw [List.getD_eq_getElem?_getD,List.getElem?_eq_getElem hlt,Option.getD_some]
    exact hT.mok _ (List.getElem_mem hlt)
   have hnx:=rf hrun
   obtain⟨m,hme⟩:∃ m,l.getD s.1 default=m:=⟨_,rfl⟩
   have hme':l.getD (s.1:Int).toNat default=m:=hme
   rw [hme]at hmk hnx
   have hqq:=hs.qp
   have hmb:0≤first+(s.1:Nat)∧first+(s.1:Nat)<h.cols*h.rows:=by omega
   obtain⟨c,hc⟩:∃ c,dQ m p.inter s.2.S.qp=c:=⟨_,rfl⟩
   have hcS:dQ m s.2.S.inter s.2.S.qp=c:=by rw [hs.inter];exact hc
   by_cases hc0:c=0
   · subst hc0
     have hP:=tS hs (by omega) hmk hmb hcS
     cases hz:gg s.2.S s.2.B s.2.w m (first+(s.1:Nat))with
     | none=>
       have eN:=(hx.symm.trans (kx (hnx.trans (ri hcS hz)) l.length (by omega)))
       cases eN
     | some z=>
       have hnx2:=hnx.trans (pN hcS hz)
       repeat' (first
        |(refine qz ?_;first
         |refine p7 (zs:=mC kQ) (hz:=jy) ?_
         |refine pI (enc:=mC) ?_
         |refine i9 (cs:=mC m) ?_ (hy:=by rw [←hme'];rfl) (hs1:=by rw [aF]) (hs2:=by rw [aF])
         |refine fy ?_ (hle:=by rw [aF])
         |refine cl ?_ (hi:=by exact nH hmk hqq hc rfl)
         |refine cl ?_ (hi:=by exact AY hP hz (i:=22) (k:=23) (N:=15) (j:=24) (g:=25) rfl rfl rfl rfl rfl rfl (by decide) nL nA rfl))
        |refine zz ?_|refine zx (fun _=>?_) (fun _=>?_)|fail)
       exact ih (s.1+1,⟨z.1,z.2.1,z.2.2⟩) _ _ _ (bm [0,1,2,3,4,5,6,7,8,9,10,11,12,13,14,15,16,17,18,19,20,21,22,27,24,28] (obj:=by(repeat' (first|exact ae.nil|refine ae.a_ rfl rfl rfl rfl ?_|refine ae.flat rfl ?_|refine ae.cons rfl ?_|refine ae.dead rfl ?_|refine ae.cons (by simp only [aj.au,List.map_cons,List.map_nil,XC.au,aq];exact rfl) ?_));first|done|fail)) ⟨by show s.1+1≤l.length;omega,hnx2,oH hs hmk (hnx2 ▸ hnx.symm)⟩ (by show l.length-(s.1+1)<l.length-s.1;omega)
   · have eB:=(hx.symm.trans (kx (hnx.trans (rh hcS hc0)) l.length (by omega)))
     cases eB
 · have e0:s.1=l.length:=by omega
   have hlB:=hs.len
   have hlw:=hs.lenw
   rw [e0,hx]at hrun
   obtain rfl:x=s.2:=Sum.inr.inj hrun
   have hB1:s.2.B.length≤1000000:=by omega
   have hB2:s.2.w.length≤1000000:=by omega
   have hL1:(wr (s.2.B++[true])).length≤100000:=by rw [fS,List.length_append,List.length_cons,List.length_nil];omega
   have hL2:(wr (s.2.w++[true])).length≤100000:=by rw [fS,List.length_append,List.length_cons,List.length_nil];omega
   have hY1:=iY (s.2.B++[true])
   have hY2:=iY (s.2.w++[true])
   repeat' (first
    |(refine qz ?_;first
     |refine cl ?_ (hi:=by exact qJ (bs:=s.2.B) hB1 (i:=22) (k:=23) rfl rfl (by decide) nL nA rfl)
     |refine cl ?_ (hi:=by exact oz (l:=wr (s.2.B++[true])) hY1 hL1 hqa (n:=((s.2.B++[true]).length+7)/8) (by rw [fS]) (i:=26) rfl nL nA rfl)
     |refine cl ?_ (hi:=by exact qJ (bs:=s.2.w) hB2 (i:=24) (k:=25) rfl rfl (by decide) nL nA rfl)
     |refine cl ?_ (hi:=by exact oz (l:=wr (s.2.w++[true])) hY2 hL2 hqb (n:=((s.2.w++[true]).length+7)/8) (by rw [fS]) (i:=28) rfl nL nA rfl))
    |refine zz ?_|refine zx (fun _=>?_) (fun _=>?_)|refine br (by first|exact ag.nil|exact ag.one _|exact ag.lK (by repeat' (first|exact True.intro|refine And.intro ?_ ?_|exact Compat.ne rfl|exact eD rfl))) ⟨by kernel_rfl,?_⟩|refine br (by first|exact ag.nil|exact ag.one _|exact ag.lK (by repeat' (first|exact True.intro|refine And.intro ?_ ?_|exact Compat.ne rfl|exact eD rfl))) ?_|fail)
   show aH _ _ _ _ _ _ _ _;refine kV [0,1,2,3,4,5,6,7,8,9,10,11,12,13,27,29] ?_
   simp only [XV.au,List.map_cons,List.map_nil,X1.au,aq];rfl
theorem Fu {h:Hd} {p:Ph} {l:List Mb} {first:Int}(hT:fZ h p l first) {cap:sL} {ob:aj}(ho:wo ob mC l) {x:PS}(hx:fk l first (lW h p) l.length = .inr x) {a b:List Int}(hqa:(ie (wr (x.B++[true])) (wr (x.B++[true])).length).1=a) (hqb:(ie (wr (x.w++[true])) (wr (x.w++[true])).length).1=b) (hl:30000<a.length∨30000<b.length) :
 bt Tryz.prog 11 [.one (.ptr 0 0),.agg (iz h),.agg (jh p),.one (.int .i64 first),.one (.slice 13 0 l.length cap)] [bR 1 5 9,ay 2 3 4 cM,aX cM,aZ cM,aY cM,ay 6 7 8 cZ,aX cZ,aZ cZ,aY cZ,ay 10 11 12 cP,aX cP,aZ cP,aY cP,ob] (.tup [.one .nils,.one .nils,.one (.int .i64 6)]) [bR 1 5 9,ay 2 3 4 cM,aX cM,aZ cM,aY cM,ay 6 7 8 cZ,aX cZ,aZ cZ,aY cZ,ay 10 11 12 cP,aX cP,aZ cP,aY cP,ob]:=by
 have hfo:=ho.flat
 have h1:=hT.hd.dims.c0
 have h2:=hT.hd.dims.c1
 have h3:=hT.hd.dims.r0
 have h4:=hT.hd.dims.r1
 have hf:=hT.pos
 have hm:=hT.many
 have hm16:=hT.few
 have ha:=hT.all
 have hcr:1≤h.cols*h.rows∧h.cols*h.rows≤64:=kh hT.hd.dims
 refine cO Tryz.func11 ?_
 repeat' (first
  |(refine qz ?_;first
   |refine fy ?_ (hle:=by rw [bM])
   |refine cl ?_ (hi:=by exact oA hT.hd rfl)
   |refine cl ?_ (hi:=by exact oG hT.ph rfl)
   |refine cl ?_ (hi:=by exact nF hT.hd rfl nL nA rfl))
  |refine zz ?_|refine zx (fun _=>?_) (fun _=>?_)|fail)
 refine WX.dv rfl ?_
 refine WX.dv rfl ?_
 refine WX.dp (σ:=Nat × PS) (fun s=>[(3,.one (.int .i64 first)),(7,.one (.ptr 14 0)),(15,.one (.ptr 15 0)),(16,.one (.ptr 22 0)),(17,.one (.ptr 24 0)),(71,.one (.slice 13 0 l.length cap)),(72,.one (.int .i64 (l.length:Nat))),(73,.one (.int .i64 (s.1:Nat)))]) (fun s=>[bR 1 5 9,ay 2 3 4 cM,aX cM,aZ cM,aY cM,ay 6 7 8 cZ,aX cZ,aZ cZ,aY cZ,ay 10 11 12 cP,aX cP,aZ cP,aY cP,ob,.cells (jh p) 28 false false,G_ s.2.S 15,ch 17 s.2.S.cols s.2.S.rows,.map (bg s.2.S.M),Hy s.2.S 15,.map (ah s.2.S.A),.map (ah s.2.S.B),.map (ah s.2.S.C),aQ 23 s.2.B,av s.2.B,aQ 25 s.2.w,av s.2.w]) (fun s=>s.1≤l.length∧fk l first (lW h p) s.1 = .inr s.2∧xX p.inter h.cols h.rows s.1 s.2) (fun s=>l.length-s.1) (0,lW h p) ⟨Nat.zero_le _,rfl,Ck hT.hd hT.ph⟩ (fun s _=>kS) (bm [0,1,2,3,4,5,6,7,8,9,10,11,12,13,15,16,17,18,19,20,21,22,23,25,24,26] (obj:=by(repeat' (first|exact ae.nil|refine ae.a_ rfl rfl rfl rfl ?_|refine ae.dead rfl ?_|refine ae.flat rfl ?_|refine ae.cons rfl ?_|refine ae.dead rfl ?_|refine ae.cons (by simp only [aj.au,List.map_cons,List.map_nil,XC.au,aq];exact rfl) ?_));first|done|fail)) ?_
 intro s ⟨hle,hrun,hs⟩ ih
 by_cases hlt:s.1<l.length
 · have hmk:jc (l.getD s.1 default):=by
    rw [List.getD_eq_getElem?_getD,List.getElem?_eq_getElem hlt,Option.getD_some]
    exact hT.mok _ (List.getElem_mem hlt)
   have hnx:=rf hrun
   obtain⟨m,hme⟩:∃ m,l.getD s.1 default=m:=⟨_,rfl⟩
   have hme':l.getD (s.1:Int).toNat default=m:=hme
   rw [hme]at hmk hnx
   have hqq:=hs.qp
   have hmb:0≤first+(s.1:Nat)∧first+(s.1:Nat)<h.cols*h.rows:=by omega
   obtain⟨c,hc⟩:∃ c,dQ m p.inter s.2.S.qp=c:=⟨_,rfl⟩
   have hcS:dQ m s.2.S.inter s.2.S.qp=c:=by rw [hs.inter];exact hc
   by_cases hc0:c=0
   · subst hc0
     have hP:=tS hs (by omega) hmk hmb hcS
     cases hz:gg s.2.S s.2.B s.2.w m (first+(s.1:Nat))with
     | none=>
       have eN:=(hx.symm.trans (kx (hnx.trans (ri hcS hz)) l.length (by omega)))
       cases eN
     | some z=>
       have hnx2:=hnx.trans (pN hcS hz)
       repeat' (first
        |(refine qz ?_;first
         |refine p7 (zs:=mC kQ) (hz:=jy) ?_
         |refine pI (enc:=mC) ?_
         |refine i9 (cs:=mC m) ?_ (hy:=by rw [←hme'];rfl) (hs1:=by rw [aF]) (hs2:=by rw [aF])
         |refine fy ?_ (hle:=by rw [aF])
         |refine cl ?_ (hi:=by exact nH hmk hqq hc rfl)
         |refine cl ?_ (hi:=by exact AY hP hz (i:=22) (k:=23) (N:=15) (j:=24) (g:=25) rfl rfl rfl rfl rfl rfl (by decide) nL nA rfl))
        |refine zz ?_|refine zx (fun _=>?_) (fun _=>?_)|fail)
       exact ih (s.1+1,⟨z.1,z.2.1,z.2.2⟩) _ _ _ (bm [0,1,2,3,4,5,6,7,8,9,10,11,12,13,14,15,16,17,18,19,20,21,22,27,24,28] (obj:=by(repeat' (first|exact ae.nil|refine ae.a_ rfl rfl rfl rfl ?_|refine ae.flat rfl ?_|refine ae.cons rfl ?_|refine ae.dead rfl ?_|refine ae.cons (by simp only [aj.au,List.map_cons,List.map_nil,XC.au,aq];exact rfl) ?_));first|done|fail)) ⟨by show s.1+1≤l.length;omega,hnx2,oH hs hmk (hnx2 ▸ hnx.symm)⟩ (by show l.length-(s.1+1)<l.length-s.1;omega)
   · have eB:=(hx.symm.trans (kx (hnx.trans (rh hcS hc0)) l.length (by omega)))
     cases eB
 · by_cases hla:30000<a.length
   all_goals
    have e0:s.1=l.length:=by omega
    have hlB:=hs.len
    have hlw:=hs.lenw
    rw [e0,hx]at hrun
    obtain rfl:x=s.2:=Sum.inr.inj hrun
    have hB1:s.2.B.length≤1000000:=by omega
    have hB2:s.2.w.length≤1000000:=by omega
    have hL1:(wr (s.2.B++[true])).length≤100000:=by rw [fS,List.length_append,List.length_cons,List.length_nil];omega
    have hL2:(wr (s.2.w++[true])).length≤100000:=by rw [fS,List.length_append,List.length_cons,List.length_nil];omega
    have hY1:=iY (s.2.B++[true])
    have hY2:=iY (s.2.w++[true])
    repeat' (first
     |(refine qz ?_;first
      |refine cl ?_ (hi:=by exact qJ (bs:=s.2.B) hB1 (i:=22) (k:=23) rfl rfl (by decide) nL nA rfl)
      |refine cl ?_ (hi:=by exact oz (l:=wr (s.2.B++[true])) hY1 hL1 hqa (n:=((s.2.B++[true]).length+7)/8) (by rw [fS]) (i:=26) rfl nL nA rfl)
      |refine cl ?_ (hi:=by exact qJ (bs:=s.2.w) hB2 (i:=24) (k:=25) rfl rfl (by decide) nL nA rfl)
      |refine cl ?_ (hi:=by exact oz (l:=wr (s.2.w++[true])) hY2 hL2 hqb (n:=((s.2.w++[true]).length+7)/8) (by rw [fS]) (i:=28) rfl nL nA rfl))
     |refine zz ?_|refine zx (fun _=>?_) (fun _=>?_)|refine br (by first|exact ag.nil|exact ag.one _|exact ag.lK (by repeat' (first|exact True.intro|refine And.intro ?_ ?_|exact Compat.ne rfl|exact eD rfl))) ⟨by kernel_rfl,?_⟩|refine br (by first|exact ag.nil|exact ag.one _|exact ag.lK (by repeat' (first|exact True.intro|refine And.intro ?_ ?_|exact Compat.ne rfl|exact eD rfl))) ?_|fail)
    show aH _ _ _ _ _ _ _ _;refine kV [0,1,2,3,4,5,6,7,8,9,10,11,12,13] ?_
    rfl
end Go.Proofs.YtagpkhindehcbaaGreat
namespace Go.Xm
variable [az]
end Go.Xm
namespace Go.Proofs.YtagpkhindehcbaaGreat
open Go.Xm
variable [az]
abbrev FK:=bz × Mb × Nat
noncomputable def Dj (mb:Int) (x:FK) (k:Nat) (u:Nat) (rest:Nat→Int):Int ⊕ FK:=
 match km x.1 mb k x.2.1 rest with
 | none => .inl 2
 | some y => .inr (y.1,y.2,u)
noncomputable def fK (evs:List (List Ev)) (mb:Int) (has:Nat→Bool) (x:FK) (k:Nat):Int ⊕ FK:=
 if has k=true then
  if evs.length≤x.2.2 then .inl 3 else
   match jB (evs.getD x.2.2 []) (fq x.2.1)with
   | none => .inl 2
   | some rest=>Dj mb x k (x.2.2+1) rest
 else Dj mb x k x.2.2 fun _=>0
noncomputable def iI (evs:List (List Ev)) (mb:Int) (has:Nat→Bool) (x0:FK):Nat→Int ⊕ FK
 | 0 => .inr x0
 | k+1=>match iI evs mb has x0 k with
   | .inl e => .inl e
   | .inr x=>fK evs mb has x k
structure FA where
 S:bz
 out:List Mb
 u:Nat
noncomputable def nK (evs:List (List Ev)) (first:Int) (l:List Ol) (S0:bz):Nat→Int ⊕ FA
 | 0 => .inr ⟨S0,[],0⟩
 | i + 1=>match nK evs first l S0 i with
   | .inl e => .inl e
   | .inr x=>match iI evs (first+(i:Nat)) (l.getD i default).2 (x.S,(l.getD i default).1,x.u) 6 with
     | .inl e => .inl e
     | .inr y => .inr ⟨y.1,x.out++[y.2.1],y.2.2⟩
noncomputable def fD (evs:List (List Ev)) (first:Int) (l:List Ol) (S0:bz):Int ⊕ List Mb:=
 match nK evs first l S0 l.length with
 | .inl e => .inl e
 | .inr x=>if x.u<evs.length then .inl 13 else .inr x.out
theorem nN {evs:List (List Ev)} {mb:Int} {has:Nat→Bool} {x0:FK} {k:Nat} {e:Int}(h:iI evs mb has x0 k = .inl e):∀ j,k≤j→iI evs mb has x0 j = .inl e:=by
 intro j hj
 induction hj with
 | refl=>exact h
 | step _ ih=>rw [iI,ih]
theorem nM {evs:List (List Ev)} {first:Int} {l:List Ol} {S0:bz} {k:Nat} {e:Int}(h:nK evs first l S0 k = .inl e):∀ j,k≤j→nK evs first l S0 j = .inl e:=by
 intro j hj
 induction hj with
 | refl=>exact h
 | step _ ih=>rw [nK,ih]
def qR (f:Nat→Int):Prop:=∀ i,-2047≤f i∧f i≤2047
theorem CH {o:Int} {f:Nat→Int}(h:qR f):∀ n,qR (ES o f n)
 | 0=>fun i=>by show -2047≤(0:Int)∧(0:Int)≤2047;omega
 | n+1=>fun i=>by
   show -2047≤cW (ES o f n) _ _ i∧cW (ES o f n) _ _ i≤2047
   unfold cW
   split
   · exact h n
   · exact CH h n i
theorem rm {o:Int} {f:Nat→Int}(h:qR f):qR (d8 o f):=CH h 64
theorem rM {l:List Ev}(hl:∀ j,j<l.length→wk (l.getD j default)) {st:Int}:∀ j,j≤l.length→∀ x,dF l st j=some x→qR x.2
 | 0,_,x,h=>by cases h;exact fun i=>by show -2047≤(0:Int)∧(0:Int)≤2047;omega
 | j + 1,hj,x,h=>by
   have h2:(dF l st j).bind _=some x:=h
   cases hr:dF l st j with
   | none=>rw [hr]at h2;cases h2
   | some y=>
     rw [hr]at h2
     have h3:(if 63<y.1+(l.getD j default).1 then none else some _)=some x:=h2
     have h4:=rM hl j (by omega) y hr
     have h5:=(hl j (by omega)).lev
     split at h3
     · cases h3
     · cases h3
       intro i
       dsimp only
       unfold cW
       split
       · exact h5
       · exact h4 i
theorem C6 {l:List Ev}(hl:∀ j,j<l.length→wk (l.getD j default)) {st:Int} {f:Nat→Int}(h:jB l st=some f):qR f:=by
 unfold jB at h
 cases hr:dF l st l.length with
 | none=>rw [hr]at h;cases h
 | some y=>rw [hr]at h;cases h;exact rM hl _ (Nat.le_refl _) y hr
theorem DC {a b f:Nat→Int}(h:kr a b=some f):∀ i,i<64 → -2047≤f i∧f i≤2047:=by
 unfold kr at h
 split at h
 · cases h
 · rename_i hn
   cases h
   intro i hi
   have:¬ll a b i:=fun hb=>hn ⟨i,hi,hb⟩
   unfold ll at this
   dsimp only
   omega
theorem KT {f:FuncId} {args args':List XV} {v:XV} [bB v] {a b a' b':aj} [dc a] [dc b] [dc a'] [dc b'] {S S':bz} {i k N:Nat}(hc:bt Tryz.prog f args (a::b::dI S) v (a'::b'::dI S'))
 {HS:ak}(hi:HS[i]? = some a) (hk:HS[k]? = some b) (hS:HS.take 13=gM) (hN:(HS.drop N).take 7=xi S N) (hnd:(i::k::kA N []).Nodup) (ha:eT 22 args) (hr:dE (nth (i::k::kA N [])) args args') (hro:eg (a::b::dI S) (a'::b'::dI S')=true)
 {HS':ak}(hh:bN HS (i::k::kA N []) (a'::b'::Ka S' N [])=HS') (hbd:Nat.blt HS'.length Mem.bound=true) :
 aI.Sound Tryz.prog ⟨f,args',HS,v,HS',i::k::kA N []⟩:=by
 have h3:=tI i k N []
 have h16:=qn i k N []
 have hc':bt Tryz.prog f args (a::b::(dI S++[])) v (a'::b'::(dI S'++[])):=by
  rw [List.append_nil,List.append_nil];exact hc
 have ht2:nth ((i::k::kA N [])++List.range' HS.length 0)=nth (i::k::kA N []):=by
  rw [List.range'_zero,List.append_nil]
 refine b8 (i::k::kA N []) (i::k::kA N []) 0 hc' hnd (.flat hi (.flat hk (xk hS hN h3 h16 .nil))) (.flat (.flat (gk S _ (Nat.le_refl _) .nil))) (.flat (.flat (gk S' _ (Nat.le_refl _) .nil))) rfl ha hr (bB.ok _) (bB.au _) ?_ (by rw [List.append_nil,List.append_nil];exact hro) rfl hh hbd (.inl rfl)
 rw [ht2]
 exact .flat (.flat (A9 h3 h16 .nil))
structure jN (S:bz) (mb:Int) (k:Nat) (m:Mb) (rest:Nat→Int):Prop where
 dims:gw S.cols S.rows
 mb:0≤mb∧mb<S.cols*S.rows
 k:k<6
 lev:sQ S
 rest:qR rest
theorem jN.b1 {S:bz} {mb:Int} {k:Nat} {m:Mb} {rest:Nat→Int}(h:jN S mb k m rest) (o:Int):∀ i,-1000000≤d8 o rest i∧d8 o rest i≤1000000:=fun i=>by
 have:=rm (o:=o) h.rest i
 omega
theorem jN.b2 {S:bz} {mb:Int} {k:Nat} {m:Mb} {rest:Nat→Int}(h:jN S mb k m rest) (q:Int):∀ i,-1000000≤cA S mb k q i∧cA S mb k q i≤1000000:=mX fun dx dy b hb=>w5 h.lev hb
theorem I_ {S:bz} {mb:Int} {k:Nat} {m:Mb} {rest:Nat→Int}(h:jN S mb k m rest) {y:bz × Mb}(hF:km S mb k m rest=some y) :
 bt Tryz.prog 38 [.one (.ptr 2 0),.one (.int .i64 mb),.one (.int .i64 (k:Nat)),.one (.ptr 0 0),.agg (ti .i64 64 rest)] (lF m :: .dead::dI S) (.one (.bool true)) (lF y.2 :: .dead::dI y.1):=by
 unfold km at hF
 cases ha:alone m with
 | false=>
   rw [if_neg (by rw [ha];decide)]at hF
   cases hF
   exact M8 h.k ha
 | true=>
   rw [if_pos ha]at hF
   cases he:m.edge with
   | false=>
     rw [if_neg (by rw [he];decide),he]at hF
     cases hF
     exact M9 h.dims h.mb h.k ha he rfl rfl
   | true=>
     rw [if_pos he,he]at hF
     cases hm:kr (d8 (dt true (aL S mb k m.qp).1) rest) (cA S mb k m.qp)with
     | none=>rw [hm]at hF;cases hF
     | some l2=>
       rw [hm]at hF
       cases hF
       exact M_ h.dims h.mb h.k ha he rfl (h.b1 _) (h.b2 _) hm rfl
theorem I9 {S:bz} {mb:Int} {k:Nat} {m:Mb} {rest:Nat→Int}(h:jN S mb k m rest) (hF:km S mb k m rest=none) :
 bt Tryz.prog 38 [.one (.ptr 2 0),.one (.int .i64 mb),.one (.int .i64 (k:Nat)),.one (.ptr 0 0),.agg (ti .i64 64 rest)] (lF m :: .dead::dI S) (.one (.bool false)) (lF m :: .dead::dI S):=by
 unfold km at hF
 cases ha:alone m with
 | false=>rw [if_neg (by rw [ha];decide)]at hF;cases hF
 | true=>
   rw [if_pos ha]at hF
   cases he:m.edge with
   | false=>rw [if_neg (by rw [he];decide)]at hF;cases hF
   | true=>
     rw [if_pos he,he]at hF
     cases hm:kr (d8 (dt true (aL S mb k m.qp).1) rest) (cA S mb k m.qp)with
     | none=>exact Na h.dims h.mb h.k ha he rfl (h.b1 _) (h.b2 _) hm
     | some l2=>rw [hm]at hF;cases hF
theorem yt {S:bz} {mb:Int} {k:Nat} {m:Mb} {rest:Nat→Int}(h:jN S mb k m rest) {y:bz × Mb}(hF:km S mb k m rest=some y) {i d N:Nat} {HS:ak}(hi:HS[i]? = some (lF m)) (hk:HS[d]? = some .dead) (hS:HS.take 13=gM) (hN:(HS.drop N).take 7=xi S N) (hnd:(i::d::kA N []).Nodup)
 {HS':ak}(hh:bN HS [i,d,N,0,1,2,3,4,5,6,7,8,9,10,11,12,N+1,N+2,N+3,N+4,N+5,N+6] [lF y.2,.dead,G_ y.1 N,bR 1 5 9,ay 2 3 4 cM,aX cM,aZ cM,aY cM,ay 6 7 8 cZ,aX cZ,aZ cZ,aY cZ,ay 10 11 12 cP,aX cP,aZ cP,aY cP,ch (N+2) y.1.cols y.1.rows,.map (bg y.1.M),Hy y.1 N,.map (ah y.1.A),.map (ah y.1.B),.map (ah y.1.C)]=HS') (hbd:Nat.blt HS'.length Mem.bound=true) :
 aI.Sound Tryz.prog ⟨38,[.one (.ptr N 0),.one (.int .i64 mb),.one (.int .i64 (k:Nat)),.one (.ptr i 0),.agg (ti .i64 64 rest)],HS,.one (.bool true),HS',i::d::kA N []⟩:=
 KT (I_ h hF) hi hk hS hN hnd (.cons (by show 2<22;omega) (.flat (.flat (.cons (by show 0<22;omega) (.flat .nil))))) (.cons rfl (.flat (.flat (.cons rfl (.flat .nil))))) rfl hh hbd
theorem yr {S:bz} {mb:Int} {k:Nat} {m:Mb} {rest:Nat→Int}(h:jN S mb k m rest) (hF:km S mb k m rest=none) {i d N:Nat} {HS:ak}(hi:HS[i]? = some (lF m)) (hk:HS[d]? = some .dead) (hS:HS.take 13=gM) (hN:(HS.drop N).take 7=xi S N) (hnd:(i::d::kA N []).Nodup)
 {HS':ak}(hh:bN HS [i,d,N,0,1,2,3,4,5,6,7,8,9,10,11,12,N+1,N+2,N+3,N+4,N+5,N+6] [lF m,.dead,G_ S N,bR 1 5 9,ay 2 3 4 cM,aX cM,aZ cM,aY cM,ay 6 7 8 cZ,aX cZ,aZ cZ,aY cZ,ay 10 11 12 cP,aX cP,aZ cP,aY cP,ch (N+2) S.cols S.rows,.map (bg S.M),Hy S N,.map (ah S.A),.map (ah S.B),.map (ah S.C)]=HS') (hbd:Nat.blt HS'.length Mem.bound=true) :
 aI.Sound Tryz.prog ⟨38,[.one (.ptr N 0),.one (.int .i64 mb),.one (.int .i64 (k:Nat)),.one (.ptr i 0),.agg (ti .i64 64 rest)],HS,.one (.bool false),HS',i::d::kA N []⟩:=
 KT (I9 h hF) hi hk hS hN hnd (.cons (by show 2<22;omega) (.flat (.flat (.cons (by show 0<22;omega) (.flat .nil))))) (.cons rfl (.flat (.flat (.cons rfl (.flat .nil))))) rfl hh hbd
end Go.Proofs.YtagpkhindehcbaaGreat
namespace Go.Proofs.YtagpkhindehcbaaGreat
open Go.Xm
variable [az]
theorem oJ {first:Int} {k:Nat} {m:Mb} {x y:PS}(h:lV first k m x = .inr y):dQ m x.S.inter x.S.qp=0∧∃ z,gg x.S x.B x.w m (first+(k:Nat))=some z∧y=⟨z.1,z.2.1,z.2.2⟩:=by
 unfold lV at h
 split at h
 · cases h
 · rename_i hc
   refine⟨Decidable.byContradiction fun g=>hc g,?_⟩
   split at h
   · cases h
   · rename_i z hz
     exact⟨z,hz,(Sum.inr.inj h).symm⟩
theorem ky {l:List Mb} {first:Int} {x0:PS} {k:Nat} {y:PS}(h:fk l first x0 (k+1) = .inr y):∃ x,fk l first x0 k = .inr x∧lV first k (l.getD k default) x = .inr y:=by
 rw [fk]at h
 split at h
 · cases h
 · rename_i x hx
   exact⟨x,hx,h⟩
theorem ji {l:List Mb} {first:Int} {x0:PS} {n:Nat} {y:PS}(h:fk l first x0 n = .inr y):∀ k,k≤n→∃ x,fk l first x0 k = .inr x:=by
 intro k hk
 cases hx:fk l first x0 k with
 | inr x=>exact⟨x,rfl⟩
 | inl e=>
   have:=kx hx n hk
   rw [h]at this
   cases this
theorem pK {h:Hd} {p:Ph} {l:List Mb} {first:Int}(hT:fZ h p l first) {k:Nat}(hk:k<l.length):jc (l.getD k default):=by
 rw [List.getD_eq_getElem?_getD,List.getElem?_eq_getElem hk,Option.getD_some]
 exact hT.mok _ (List.getElem_mem hk)
theorem tR {h:Hd} {p:Ph} {l:List Mb} {first:Int}(hT:fZ h p l first):∀ k,k≤l.length→∀ x,fk l first (lW h p) k = .inr x→xX p.inter h.cols h.rows k x:=by
 intro k
 induction k with
 | zero=>intro _ x hx;cases hx;exact Ck hT.hd hT.ph
 | succ k ih=>
   intro hk x hx
   obtain⟨y,hy,hs⟩:=ky hx
   exact oH (ih (by omega) y hy) (pK hT (by omega)) hs
theorem vD {h:Hd} {p:Ph} {l:List Mb} {first:Int}(hT:fZ h p l first) {k:Nat}(hk:k<l.length) {x y:PS}(hx:fk l first (lW h p) k = .inr x) (hy:fk l first (lW h p) (k+1) = .inr y):x.B <+: y.B∧x.B.length<y.B.length:=by
 have hi:=tR hT k (by omega) x hx
 have hm:=pK hT hk
 obtain⟨x',hx',hs⟩:=ky hy
 obtain rfl:x=x':=by rw [hx]at hx';exact Sum.inr.inj hx'
 obtain⟨hc,z,hz,rfl⟩:=oJ hs
 have hk2:=vF hi.st hm (jd hm hc) hz
 have hn:0<(aC x.S (l.getD k default)).length:=by
  unfold aC
  rw [List.length_append]
  split
  · have hf:=(jd hm hc).kind
    have:∀ n:Fin 5,0<(dh cM n.val).length:=by decide +kernel
    have:=this ⟨(l.getD k default).kind.toNat,by omega⟩
    simp only at this
    omega
  · simp only [List.length_cons,List.length_nil];omega
 refine⟨(List.prefix_append _ _).trans hk2.pre,?_⟩
 have:=hk2.pre.length_le
 rw [List.length_append]at this
 show x.B.length<z.2.1.length
 omega
theorem GQ {h:Hd} {p:Ph} {l:List Mb} {first:Int}(hT:fZ h p l first) {k:Nat} {x:PS}(hx:fk l first (lW h p) k = .inr x):∀ n,k≤n→n≤l.length→∀ y,fk l first (lW h p) n = .inr y→x.B <+: y.B∧(k<n→x.B.length<y.B.length):=by
 intro n hn
 induction hn with
 | refl=>
   intro _ y hy
   rw [hx]at hy
   cases hy
   exact⟨List.prefix_refl _,fun g=>absurd g (Nat.lt_irrefl _)⟩
 | @step n hkn ih=>
   intro hl y hy
   obtain⟨w,hw⟩:=ji hy n (Nat.le_succ _)
   have h1:=ih (by omega) w hw
   have h2:=vD hT (by omega) hw hy
   exact⟨h1.1.trans h2.1,fun _=>by have:=h1.1.length_le;omega⟩
noncomputable def Iz (l:List Mb) (first:Int) (x0:PS) (i j:Nat):List Ev:=
 match fk l first x0 i with
 | .inr x=>qY x.S x.B (l.getD i default) (first+(i:Nat)) j
 | .inl _=>[]
structure z7 (l:List Mb) (ft:Int) (x0:PS) (k:Nat) (x:PS) (t:TA):Prop where
 rel:Rel x.S t.S
 r:t.r=(x.B.length,false)
 len:t.out.length=k
 outs:∀ i,i<k→∃ o,t.out[i]? = some o∧BI (l.getD i default) o.1∧∀ j,j<6→o.2 j=decide (0<(Iz l ft x0 i j).length)
theorem rel_refl (S:bz):Rel S S:=⟨rfl,rfl,rfl,rfl,fun _=>rfl,fun _=>rfl,fun _=>rfl,fun _=>rfl⟩
theorem Kb {h:Hd} {p:Ph} {l:List Mb} {first:Int}(hT:fZ h p l first) {B:List Bool}:∀ k,k≤l.length→∀ x,fk l first (lW h p) k = .inr x→x.B <+: B→∃ t,(∀ j,n8 B first (k+j) ⟨jJ h p,(0,false),[]⟩=n8 B first j t)∧z7 l first (lW h p) k x t:=by
 intro k
 induction k with
 | zero=>
   intro _ x hx hp
   cases hx
   exact⟨⟨jJ h p,(0,false),[]⟩,fun j=>by rw [Nat.zero_add],rel_refl _,rfl,rfl,fun i hi=>absurd hi (Nat.not_lt_zero _)⟩
 | succ k ih=>
   intro hk y hy hp
   obtain⟨x,hx,hs⟩:=ky hy
   have hpre:=(vD hT (by omega) hx hy).1
   obtain⟨t,ht,hb⟩:=ih (by omega) x hx (hpre.trans hp)
   have hi:=tR hT k (by omega) x hx
   have hm:=pK hT (k:=k) (by omega)
   obtain⟨hc,z,hz,rfl⟩:=oJ hs
   have hf:=jd hm hc
   have hmb:first+(t.out.length:Nat)=first+(k:Nat):=by rw [hb.len]
   have hz':gg x.S x.B x.w (l.getD k default) (first+(k:Nat))=some (z.1,z.2.1,z.2.2):=hz
   obtain⟨b1,b2,b3,b4⟩:=Eh hb.rel hi.st.tiny (tg hm hf) hf hz' hp
   refine⟨pR B first t,fun j=>?_,?_,?_,?_,?_⟩
   · rw [show k+1+j=k+(j+1) by omega,ht (j+1),n8,if_neg (by rw [hb.r];exact Bool.false_ne_true)]
   · show Rel z.1 (dC t.S B (first+(t.out.length:Nat)) t.r).1.S
     rw [hmb,hb.r];exact b2
   · show(dC t.S B (first+(t.out.length:Nat)) t.r).1.r=_
     rw [hmb,hb.r];exact b1
   · show(t.out++[_]).length=k+1
     rw [List.length_append,hb.len];rfl
   · intro i hi'
     show ∃ o,(t.out++[((dC t.S B (first+(t.out.length:Nat)) t.r).1.m,(dC t.S B (first+(t.out.length:Nat)) t.r).2)])[i]? = some o∧_
     by_cases h1:i<k
     · obtain⟨o,ho,h2⟩:=hb.outs i h1
       exact⟨o,by rw [List.getElem?_append_left (by rw [hb.len];exact h1)];exact ho,h2⟩
     · obtain rfl:i=k:=by omega
       refine⟨_,by rw [List.getElem?_append_right (by rw [hb.len];exact Nat.le_refl _),hb.len,Nat.sub_self];rfl,?_,?_⟩
       · show BI _ (dC t.S B (first+(i:Nat)) t.r).1.m
         rw [hb.r];exact b3
       · intro j hj
         show(dC t.S B (first+(i:Nat)) t.r).2 j=_
         rw [hb.r,b4 j hj]
         unfold Iz
         rw [hx]
theorem Eg {h:Hd} {p:Ph} {l:List Mb} {first:Int}(hT:fZ h p l first) {x:PS}(hx:fk l first (lW h p) l.length = .inr x) {n:Nat}(hn:n≤l.length) :
 ∃ t y,n8 x.B first n ⟨jJ h p,(0,false),[]⟩=t∧fk l first (lW h p) n = .inr y∧z7 l first (lW h p) n y t∧FB x.B t.r=if n<l.length then 13 else 0:=by
 obtain⟨y,hy⟩:=ji hx n hn
 have hp:=GQ hT hy l.length hn (Nat.le_refl _) x hx
 obtain⟨t,ht,hb⟩:=Kb hT n hn y hy hp.1
 have ht0:=ht 0
 rw [Nat.add_zero]at ht0
 refine⟨t,y,ht0,hy,hb,?_⟩
 rw [hb.r]
 unfold FB
 by_cases hlt:n<l.length
 · rw [if_pos hlt,if_neg Bool.false_ne_true,if_pos (hp.2 hlt)]
 · have e:n=l.length:=by omega
   rw [e,hx]at hy
   cases hy
   rw [if_neg hlt,if_neg Bool.false_ne_true,if_neg (Nat.lt_irrefl _)]
end Go.Proofs.YtagpkhindehcbaaGreat
namespace Go.Proofs.YtagpkhindehcbaaGreat
open Go.Xm
variable [az]
instance Nb (h:Nat→Bool):bB (.agg (q7 h)):=eY rfl
theorem yT (m:Mb) (h:Nat→Bool):((eO m h).drop 391).take 6=q7 h:=by
 unfold eO
 rw [List.drop_append_of_le_length (by rw [aF];exact Nat.le_refl _),List.drop_of_length_le (by rw [aF];exact Nat.le_refl _)]
 rfl
theorem wP (h:Nat→Bool) {k:Nat}(hk:k<6) {b:Bool}(hb:h k=b):(q7 h)[k]? = some (.bool b):=by
 subst hb
 match k,hk with
 | 0,_=>rfl
 | 1,_=>rfl
 | 2,_=>rfl
 | 3,_=>rfl
 | 4,_=>rfl
 | 5,_=>rfl
def fQ (h:Nat→Bool):Nat→Nat
 | 0=>0
 | k+1=>fQ h k+if h k then 1 else 0
def manyN (l:List Ol):Nat→Nat
 | 0=>0
 | i+1=>manyN l i+fQ (l.getD i default).2 6
def tA (l:List Ol):Nat:=manyN l l.length
theorem sv (h:Nat→Bool):∀ k,fQ h k≤k
 | 0=>Nat.le_refl _
 | k+1=>by have:=sv h k;unfold fQ;split <;> omega
theorem qk (l:List Ol):∀ i,manyN l i≤6*i
 | 0=>Nat.le_refl _
 | i+1=>by have:=qk l i;have:=sv (l.getD i default).2 6;unfold manyN;omega
theorem Gs {l:List Ol}(hl:l.length≤64):bt Tryz.prog 14 [iK 0 l.length 397] [cK 56 (fl gz l)] (.one (.int .i64 (tA l:Nat))) [cK 56 (fl gz l)]:=by
 refine cO Tryz.func14 ?_
 repeat' (first|refine zz ?_|refine zx (fun _=>?_) (fun _=>?_)|fail)
 refine WX.dp (σ:=Nat) (fun i=>[(3,.one (.int .i64 (manyN l i:Nat))),(8,iK 0 l.length 397),(9,.one (.int .i64 (l.length:Nat))),(10,.one (.int .i64 (i:Nat)))]) (fun _=>[cK 56 (fl gz l)]) (fun i=>i≤l.length) (fun i=>l.length-i) 0 (Nat.zero_le _) (fun s _=>kS) (bm [0]) ?_
 intro i hi ih
 have hm1:=qk l i
 by_cases hlt:i<l.length
 · have htl:((gz (l.getD i default)).drop 391).take 6=q7 (l.getD i default).2:=yT _ _
   repeat' (first
    |(refine qz ?_;first
     |refine pI (enc:=gz) (j:=i) ?_
     |refine p7 (zs:=eO kQ o3) (hz:=uF) ?_
     |refine rS (cs:=q7 (l.getD i default).2) ?_ (hle:=by show _≤(eO _ _).length;rw [b7];decide) (hc:=htl)
     |refine i9 (cs:=gz (l.getD i default)) ?_)
    |refine zz ?_|refine zx (fun _=>?_) (fun _=>?_)|fail)
   refine WX.dp (σ:=Nat) (fun k=>[(3,.one (.int .i64 (manyN l i+fQ (l.getD i default).2 k:Nat))),(8,iK 0 l.length 397),(9,.one (.int .i64 (l.length:Nat))),(10,.one (.int .i64 (i:Nat))),(15,.agg (q7 (l.getD i default).2)),(16,.one (.int .i64 (k:Nat)))]) (fun _=>[cK 56 (fl gz l)]) (fun k=>k≤6) (fun k=>6-k) 0 (Nat.zero_le _) (fun s _=>kS) (bm [0]) ?_
   intro k hk ih2
   have hm2:=sv (l.getD i default).2 k
   by_cases h6:k<6
   · obtain⟨b,hb⟩:∃ b,(l.getD i default).2 k=b:=⟨_,rfl⟩
     have hat:=wP (l.getD i default).2 h6 hb
     cases b with
     | true=>
       have e:fQ (l.getD i default).2 (k+1)=fQ (l.getD i default).2 k+1:=by rw [fQ,if_pos hb]
       repeat' (first
        |(refine qz ?_;first
         |refine pH (hc:=hat) ?_)
        |refine zz ?_|refine zx (fun _=>?_) (fun _=>?_)|fail)
       refine ih2 (k+1) _ _ _ (bm [0] (reg:=by(repeat' (first|exact af.nil|refine af.flat (by rw [e];rfl) ?_|refine af.flat rfl ?_|refine af.cons rfl ?_|refine af.sl rfl (by assumption) rfl ?_|refine af.du rfl rfl (by first|rfl|omega|(simp;done)|(simp;omega)) ?_));first|done|fail)) (by omega) (by omega)
     | false=>
       have e:fQ (l.getD i default).2 (k+1)=fQ (l.getD i default).2 k:=by rw [fQ,if_neg (by rw [hb];decide),Nat.add_zero]
       repeat' (first
        |(refine qz ?_;first
         |refine pH (hc:=hat) ?_)
        |refine zz ?_|refine zx (fun _=>?_) (fun _=>?_)|fail)
       refine ih2 (k+1) _ _ _ (bm [0] (reg:=by(repeat' (first|exact af.nil|refine af.flat (by rw [e];rfl) ?_|refine af.flat rfl ?_|refine af.cons rfl ?_|refine af.sl rfl (by assumption) rfl ?_|refine af.du rfl rfl (by first|rfl|omega|(simp;done)|(simp;omega)) ?_));first|done|fail)) (by omega) (by omega)
   · obtain rfl:k=6:=by omega
     repeat' (first|refine zz ?_|refine zx (fun _=>?_) (fun _=>?_)|fail)
     refine ih (i+1) _ _ _ (bm [0]) (by omega) (by omega)
 · obtain rfl:i=l.length:=by omega
   repeat' (first|refine zz ?_|refine zx (fun _=>?_) (fun _=>?_)|fail)
   show aH _ _ _ _ _ _ _ _;refine kV [0] ?_
   rfl
theorem Cc {l:List Ol}(hl:l.length≤64) {n:Nat}(hn:l.length=n) {z:Nat}(hz:tA l=z) {i:Nat} {HS:ak}(hi:HS[i]? = some (cK 56 (fl gz l))) (hb:Nat.blt HS.length Mem.bound=true) :
 aI.Sound Tryz.prog ⟨14,[.one (kC i n 397)],HS,.one (.int .i64 (z:Nat)),HS,[]⟩:=by
 subst hn hz
 exact wQ [i] (Gs hl) (by simp) (.flat hi .nil) (.flat .nil) (.cons (gO (Nat.le_of_ble_eq_true rfl)) .nil) (.cons (d_ ..) .nil) trivial rfl hb rfl
end Go.Proofs.YtagpkhindehcbaaGreat
namespace Go.Proofs.YtagpkhindehcbaaGreat
open Go.Xm
theorem GH:∀ i j:Fin 64,mS 0 i.val=mS 0 j.val→i=j:=by decide +kernel
theorem GI:∀ i j:Fin 64,mS 1 i.val=mS 1 j.val→i=j:=by decide +kernel
theorem GJ:∀ i j:Fin 64,mS 2 i.val=mS 2 j.val→i=j:=by decide +kernel
theorem Cl {o:Int}(h:o=0∨o=1∨o=2) {i j:Nat}(hi:i<64) (hj:j<64) (he:mS o i=mS o j):i=j:=by
 rcases h with rfl|rfl|rfl
 · exact congrArg Fin.val (GH ⟨i,hi⟩ ⟨j,hj⟩ he)
 · exact congrArg Fin.val (GI ⟨i,hi⟩ ⟨j,hj⟩ he)
 · exact congrArg Fin.val (GJ ⟨i,hi⟩ ⟨j,hj⟩ he)
theorem GN:∀ i:Fin 64,∃ j:Fin 64,mS 0 j.val=i.val:=by decide +kernel
theorem GO:∀ i:Fin 64,∃ j:Fin 64,mS 1 j.val=i.val:=by decide +kernel
theorem GP:∀ i:Fin 64,∃ j:Fin 64,mS 2 j.val=i.val:=by decide +kernel
theorem Cm {o:Int}(h:o=0∨o=1∨o=2) {i:Nat}(hi:i<64):∃ j,j<64∧mS o j=(i:Nat):=by
 rcases h with rfl|rfl|rfl
 · obtain⟨j,hj⟩:=GN ⟨i,hi⟩;exact⟨j.val,j.isLt,hj⟩
 · obtain⟨j,hj⟩:=GO ⟨i,hi⟩;exact⟨j.val,j.isLt,hj⟩
 · obtain⟨j,hj⟩:=GP ⟨i,hi⟩;exact⟨j.val,j.isLt,hj⟩
theorem yY {o:Int}(h:o=0∨o=1∨o=2):mS o 0=0:=by
 rcases h with rfl|rfl|rfl <;> rfl
theorem CI {o:Int}(h:o=0∨o=1∨o=2) (f:Nat→Int):∀ n,n≤64→∀ j,j<n→ES o f n (mS o j).toNat=f j
 | 0,_,j,hj=>absurd hj (Nat.not_lt_zero _)
 | n + 1,hn,j,hj=>by
   show cW (ES o f n) (mS o n).toNat (f n) (mS o j).toNat=f j
   have h1:=oI h (i:=n) (by omega)
   have h2:=oI h (i:=j) (by omega)
   unfold cW
   by_cases hjn:j=n
   · subst hjn;rw [if_pos rfl]
   · rw [if_neg (fun e=>hjn (Cl h (by omega) (by omega) (by omega)))]
     exact CI h f n (by omega) j (by omega)
theorem rn {o:Int}(h:o=0∨o=1∨o=2) {f r:Nat→Int}(hf:∀ i,i<64→f i=gH o r i) {i:Nat}(hi:i<64):d8 o f i=r i:=by
 obtain⟨j,hj,he⟩:=Cm h hi
 have:=CI h f 64 (Nat.le_refl _) j hj
 rw [he,Int.toNat_natCast]at this
 show ES o f 64 i=r i
 rw [this,hf j hj]
 unfold gH
 rw [he,Int.toNat_natCast]
def bk:List Ev→Int→(Nat→Int)→Option (Nat→Int)
 | [],_,g=>some g
 | e::l,at_,g=>if 63<at_+e.1 then none else bk l (at_+e.1+1) (cW g (at_+e.1).toNat e.2.1)
theorem sV (l:List Ev) (st:Int):∀ j,j≤l.length→(dF l st j).bind (fun x=>bk (l.drop j) x.1 x.2)=bk l st fun _=>0
 | 0,_=>rfl
 | j + 1,hj=>by
   rw [←sV l st j (by omega)]
   show((dF l st j).bind _).bind _=_
   cases hr:dF l st j with
   | none=>rfl
   | some x=>
     have hd:l.drop j=l.getD j default::l.drop (j+1):=by
      rw [List.drop_eq_getElem_cons (by omega),List.getD_eq_getElem?_getD,List.getElem?_eq_getElem (by omega)];rfl
     rw [hd]
     show Option.bind (if 63<x.1+(l.getD j default).1 then none else some _) _=bk (_::_) x.1 x.2
     rw [bk]
     split <;> rfl
theorem Fb (l:List Ev) (st:Int):jB l st=bk l st fun _=>0:=by
 rw [←sV l st l.length (Nat.le_refl _),List.drop_length]
 unfold jB
 cases dF l st l.length <;> rfl
theorem BT:∀(l:List Ev) (st:Int) (g:Nat→Int),bk (jf l) st g=bk l st g
 | [],_,_=>rfl
 | [e],_,_=>rfl
 | e::e2::l,st,g=>by
   rw [jf,bk,bk]
   split
   · rfl
   · exact BT (e2::l) _ _
theorem sY (f:Nat→Int):∀(n i:Nat) (run:Int) (g:Nat→Int),i+n=64→0≤run→bk (gG f n i run) ((i:Int)-run) g=some fun j=>if i≤j∧j<64∧f j≠0 then f j else g j
 | 0,i,run,g,h,_=>by
   rw [gG,bk]
   congr 1
   funext j
   rw [if_neg (by omega)]
 | n + 1,i,run,g,h,hr=>by
   rw [gG]
   by_cases hz:f i=0
   · rw [if_pos hz]
     have:=sY f n (i+1) (run+1) g (by omega) (by omega)
     rw [show((i+1:Nat):Int)-(run+1)=(i:Int)-run by omega]at this
     rw [this]
     congr 1
     funext j
     by_cases hj:j=i
     · subst hj;rw [if_neg (by omega),if_neg (by rw [hz];simp)]
     · by_cases h1:i+1≤j∧j<64∧f j≠0
       · rw [if_pos h1,if_pos ⟨by omega,h1.2⟩]
       · rw [if_neg h1,if_neg (fun h2=>h1 ⟨by omega,h2.2⟩)]
   · rw [if_neg hz,bk]
     have h63:¬63<(i:Int)-run+run:=by omega
     show(if 63<(i:Int)-run+run then none else _)=_
     rw [if_neg h63]
     have:=sY f n (i+1) 0 (cW g i (f i)) (by omega) (by omega)
     rw [show((i+1:Nat):Int)-0=(i:Int)-run+run+1 by omega]at this
     show bk _ ((i:Int)-run+run+1) (cW g ((i:Int)-run+run).toNat (f i))=_
     rw [show((i:Int)-run+run).toNat=i by omega,this]
     congr 1
     funext j
     by_cases hj:j=i
     · subst hj
       rw [if_neg (by omega),if_pos ⟨Nat.le_refl _,by omega,hz⟩]
       unfold cW;rw [if_pos rfl]
     · have hu:cW g i (f i) j=g j:=by unfold cW;rw [if_neg hj]
       rw [hu]
       by_cases h1:i+1≤j∧j<64∧f j≠0
       · rw [if_pos h1,if_pos ⟨by omega,h1.2⟩]
       · rw [if_neg h1,if_neg (fun h2=>h1 ⟨by omega,h2.2⟩)]
theorem vM {f:Nat→Int} {st:Nat}(hst:st≤64):jB (eP f st) (st:Nat)=some fun j=>if st≤j∧j<64∧f j≠0 then f j else 0:=by
 rw [Fb]
 unfold eP
 rw [BT]
 have:=sY f (64-st) st 0 (fun _=>0) (by omega) (Int.le_refl _)
 rw [Int.sub_zero]at this
 exact this
theorem vK {f:Nat→Int}:∀(n i:Nat) (run:Int),gG f n i run = []→∀ j,i≤j→j<i+n→f j=0
 | 0,i,run,_,j,h1,h2=>by omega
 | n + 1,i,run,h,j,h1,h2=>by
   rw [gG]at h
   split at h
   · rename_i hz
     by_cases hj:j=i
     · rw [hj];exact hz
     · exact vK n (i+1) _ h j (by omega) (by omega)
   · cases h
variable [az]
theorem zc {f:Nat→Int} {st:Nat}(hst:st≤64) (h:eP f st = []):∀ j,st≤j→j<64→f j=0:=by
 have h0:gG f (64-st) st 0 = []:=by
  unfold eP at h
  have:=congrArg List.length h
  rw [ij]at this
  exact List.length_eq_zero_iff.1 this
 intro j h1 h2
 exact vK _ _ _ h0 j h1 (by omega)
def kf (b:Kn):Int × (Nat→Int):=(b.qp,fun i=>if i<64 then b.lv i else 0)
def x4 (T U:nr):Prop:=∀ k,(cp U k).map kf=(cp T k).map kf
structure lz (S R:bz):Prop where
 cols:R.cols=S.cols
 rows:R.rows=S.rows
 a:x4 S.A R.A
 b:x4 S.B R.B
 c:x4 S.C R.C
theorem vn {x y:Option Kn}(h:x.map kf=y.map kf):x.map kq=y.map kq:=by
 cases x with
 | none=>cases y with
   | none=>rfl
   | some b=>cases h
 | some a=>cases y with
   | none=>cases h
   | some b=>
     have h1:=Option.some.inj h
     have h2:=congrFun (congrArg Prod.snd h1) 0
     have h3:a.qp=b.qp:=congrArg Prod.fst h1
     have h4:a.lv 0=b.lv 0:=h2
     show some (a.lv 0,a.qp)=some (b.lv 0,b.qp)
     rw [h3,h4]
theorem ln {S R:bz}(h:lz S R) (mb k dx dy:Int):(w4 R mb k dx dy).map kf=(w4 S mb k dx dy).map kf:=by
 unfold w4 c6 cu
 rw [h.cols]
 split
 · rfl
 · unfold bU
   split
   · exact h.a _
   · split
     · exact h.b _
     · exact h.c _
theorem El {S R:bz}(h:lz S R) (mb k q:Int):aL R mb k q=aL S mb k q:=wL (vn (ln h ..)) (vn (ln h ..)) (vn (ln h ..))
theorem yi {a b:Kn}(h:∀ i,i<64→a.lv i=b.lv i) {s:Nat}(hs:s≤8):∀ n,n≤7→em a s n=em b s n
 | 0,_=>rfl
 | n+1,hn=>by
   have h1:(n+1)*s≤7*8:=Nat.mul_le_mul (by omega) hs
   rw [mB,mB,yi h hs n (by omega),h _ (by omega)]
theorem va {x y:Option Kn}(h:x.map kf=y.map kf) {s:Nat}(hs:s≤8) (q:Int):eX x s q=eX y s q:=by
 cases x with
 | none=>cases y with
   | none=>rfl
   | some b=>cases h
 | some a=>cases y with
   | none=>cases h
   | some b=>
     have h1:=Option.some.inj h
     have h3:a.qp=b.qp:=congrArg Prod.fst h1
     have h4:∀ i,i<64→a.lv i=b.lv i:=fun i hi=>by
      have:=congrFun (congrArg Prod.snd h1) i
      dsimp only [kf]at this
      rwa [if_pos hi,if_pos hi]at this
     unfold eX
     dsimp only
     rw [h3,yi h4 hs 7 (Nat.le_refl _)]
theorem Bc {S R:bz}(h:lz S R) (mb k q:Int):cA R mb k q=cA S mb k q:=by
 unfold cA s_
 rw [wL (vn (ln h mb k 1 0)) (vn (ln h mb k 0 1)) (vn (ln h mb k 1 1)),va (ln h mb k 1 0) (Nat.le_refl _),va (ln h mb k 0 1) (by omega)]
theorem ua {p q:Int} {T U:nr}(h:x4 T U) {key:Int} {b c:Kn}(hb:kf c=kf b):x4 (iV p q T key b) (iV p q U key c):=by
 unfold iV
 split
 · intro k
   rw [fL,fL]
   split
   · exact congrArg some hb
   · exact h k
 · exact h
theorem vU {S R:bz}(h:lz S R) (mb k:Int) {b c:Kn}(hb:kf c=kf b):lz (aO S mb k b) (aO R mb k c):=by
 have e:lI R mb k=lI S mb k:=by unfold lI;rw [h.cols]
 refine⟨h.cols,h.rows,?_,?_,?_⟩
 · show x4 (iV (placeOf S.cols mb k).1 0 S.A (lI S mb k) b) (iV (placeOf R.cols mb k).1 0 R.A (lI R mb k) c)
   rw [e,h.cols];exact ua h.a hb
 · show x4 (iV (placeOf S.cols mb k).1 1 S.B (lI S mb k) b) (iV (placeOf R.cols mb k).1 1 R.B (lI R mb k) c)
   rw [e,h.cols];exact ua h.b hb
 · show x4 (iV (placeOf S.cols mb k).1 2 S.C (lI S mb k) b) (iV (placeOf R.cols mb k).1 2 R.C (lI R mb k) c)
   rw [e,h.cols];exact ua h.c hb
theorem BW (b:Kn) {s:Nat}(hs:1≤s):∀ n,em b s n 0=0
 | 0=>rfl
 | n+1=>by
   have h1:1*1≤(n+1)*s:=Nat.mul_le_mul (by omega) hs
   rw [mB]
   unfold cW
   rw [if_neg (by omega)]
   exact BW b hs n
theorem Bd (S:bz) (mb k q:Int):cA S mb k q 0=0:=by
 have ho:∀(o:Option Kn) (s:Nat),1≤s→eX o s q 0=0:=fun o s hs=>by
  unfold eX
  cases o with
  | none=>rfl
  | some b=>
    dsimp only
    split
    · exact BW b hs 7
    · rfl
 unfold cA s_
 repeat' split
 all_goals first
  | exact ho _ _ (by omega)
  | rfl
theorem t9 (m:Mb):fq m=((if alone m=true then 1 else 0:Nat):Int):=by unfold fq;split <;> rfl
def pt (ev:List Ev) (st:Int) (rest:Nat→Int):Prop:=if 0<ev.length then jB ev st=some rest else rest=fun _=>0
theorem w_ {f:Nat→Int} {st:Nat}(hst:st≤1) (h0:st=1→f 0=0) {rest:Nat→Int}(h:pt (eP f st) (st:Nat) rest) {i:Nat}(hi:i<64):rest i=f i:=by
 unfold pt at h
 split at h
 · rw [vM (by omega)]at h
   cases h
   dsimp only
   by_cases h1:st≤i∧i<64∧f i≠0
   · rw [if_pos h1]
   · rw [if_neg h1]
     by_cases h2:f i=0
     · exact h2.symm
     · have hi0:i=0:=by omega
       subst hi0
       exact(h0 (by omega)).symm
 · rename_i hn
   have hnil:eP f st = []:=List.length_eq_zero_iff.1 (by omega)
   rw [h]
   dsimp only
   by_cases h1:st≤i
   · exact(zc (by omega) hnil i h1 hi).symm
   · have hi0:i=0:=by omega
     subst hi0
     exact(h0 (by omega)).symm
theorem KI {l l':Nat→Int} {q:Int}(h:∀ i,i<64→l i=l' i):kf ⟨l,q⟩=kf ⟨l',q⟩:=by
 unfold kf
 congr 1
 funext i
 by_cases hi:i<64
 · rw [if_pos hi,if_pos hi];exact h i hi
 · rw [if_neg hi,if_neg hi]
theorem vf {S R:bz}(hR:lz S R) {m o:Mb} {mb:Int} {k:Nat} {r:Nat→Int}(hr:gF m S mb k=some r) (hk:o.kind=m.kind) (hq:o.qp=m.qp) (he:o.edge=m.edge) (hm:alone m=false→m.edge=false) (h0:alone m=true→o.lev (k*64)=m.lev (k*64)) (hlev:∀ i,i<64 → -2047≤aA m k i∧aA m k i≤2047) {rest:Nat→Int}(hrest:pt (nE m S mb k r) (fq o) rest) :
 ∃ R' l,km R mb k o rest=some (R',dR o k l)∧lz (if alone m=true then aO S mb k ⟨aA m k,m.qp⟩else S) R'∧∀ i,i<64→l i=aA m k i:=by
 have ha:alone o=alone m:=by unfold alone;rw [hk]
 have hst:fq o=((if alone m=true then 1 else 0:Nat):Int):=by rw [t9,ha]
 have hor:=ej m.edge (aL S mb k m.qp).1
 obtain⟨od,hod⟩:∃ od,dt m.edge (aL S mb k m.qp).1=od:=⟨_,rfl⟩
 have hod2:dt o.edge (aL R mb k o.qp).1=od:=by rw [he,hq,El hR];exact hod
 rw [hst]at hrest
 unfold nE at hrest
 rw [hod]at hrest hor
 unfold gF at hr
 unfold km
 cases hal:alone m with
 | false=>
   rw [hal,if_neg (by decide)]at hr
   cases hr
   rw [hal,if_neg (by decide)]at hrest
   have hrl:∀ i,i<64→rest i=gH od (aA m k) i:=fun i hi=>w_ (by omega) (fun h=>absurd h (by decide)) hrest hi
   have hz:od=0:=by rw [←hod,hm hal];rfl
   rw [ha,hal,if_neg (by decide),if_neg (by decide)]
   refine⟨_,_,rfl,hR,fun i hi=>?_⟩
   rw [hz]at hrl
   exact rn (.inl rfl) hrl hi
 | true =>
   rw [hal,if_pos rfl]at hr hrest
   rw [ha,hal,if_pos rfl,if_pos rfl,hod2,he]
   have hp0:=yY hor
   cases hed:m.edge with
   | false=>
     rw [hed,if_neg (by decide)]at hr
     cases hr
     have hrl:∀ i,i<64→rest i=gH od (cW (aA m k) 0 0) i:=fun i hi=>w_ (by omega) (fun _=>by unfold gH;rw [hp0];rfl) hrest hi
     rw [if_neg (by decide)]
     have hl:∀ i,i<64→cW (d8 od rest) 0 (o.lev (k*64)) i=aA m k i:=fun i hi=>by
      unfold cW
      by_cases hi0:i=0
      · subst hi0;rw [if_pos rfl,h0 hal];unfold aA;rw [Nat.add_zero]
      · rw [if_neg hi0,rn hor hrl hi]
        unfold cW;rw [if_neg hi0]
     refine⟨_,_,rfl,?_,hl⟩
     rw [hq]
     exact vU hR mb k (KI hl)
   | true =>
     rw [hed,if_pos rfl]at hr
     cases hle:nU (aA m k) (cA S mb k m.qp)with
     | none=>rw [hle]at hr;cases hr
     | some d=>
       rw [hle]at hr
       cases hr
       have hd:∀ i,d i=aA m k i-cA S mb k m.qp i:=by
        unfold nU at hle
        split at hle
        · cases hle
        · cases hle;intro i;rfl
       have hrl:∀ i,i<64→rest i=gH od (cW d 0 0) i:=fun i hi=>w_ (by omega) (fun _=>by unfold gH;rw [hp0];rfl) hrest hi
       have hs:∀ i,i<64→d8 od rest i=cW d 0 0 i:=fun i hi=>rn hor hrl hi
       rw [if_pos rfl,hq,Bc hR]
       have hmore:kr (d8 od rest) (cA S mb k m.qp)=some fun i=>d8 od rest i+cA S mb k m.qp i:=by
        refine if_neg fun⟨i,hi,hb⟩=>?_
        unfold ll at hb
        rw [hs i hi]at hb
        have hl:=hlev i hi
        unfold cW at hb
        by_cases hi0:i=0
        · subst hi0
          rw [if_pos rfl,Bd]at hb
          omega
        · rw [if_neg hi0,hd i]at hb
          omega
       rw [hmore]
       have hl:∀ i,i<64→cW (fun i=>d8 od rest i+cA S mb k m.qp i) 0 (o.lev (k*64)) i=aA m k i:=fun i hi=>by
        unfold cW
        by_cases hi0:i=0
        · subst hi0;rw [if_pos rfl,h0 hal];unfold aA;rw [Nat.add_zero]
        · rw [if_neg hi0]
          show d8 od rest i+cA S mb k m.qp i=aA m k i
          rw [hs i hi]
          unfold cW;rw [if_neg hi0,hd i];omega
       exact⟨_,_,rfl,vU hR mb k (KI hl),hl⟩
theorem wx {m:Mb} {mb:Int} {x0:pq}:∀ k x,fY m mb x0 k=some x→(∀ j,j<k→∃ y r,fY m mb x0 j=some y∧gF m y.S mb j=some r∧x.ev j=nE m y.S mb j r)∧∀ j,k≤j→x.ev j=x0.ev j
 | 0,x,h=>by cases h;exact⟨fun j hj=>absurd hj (Nat.not_lt_zero _),fun _ _=>rfl⟩
 | k + 1,x,h=>by
   obtain⟨y,r,hy,hr,rfl⟩:=ia h
   obtain⟨h1,h2⟩:=wx k y hy
   refine⟨fun j hj=>?_,fun j hj=>?_⟩
   · by_cases hjk:j=k
     · subst hjk;exact⟨y,r,hy,hr,if_pos rfl⟩
     · obtain⟨y',r',a,b,c⟩:=h1 j (by omega)
       exact⟨y',r',a,b,(if_neg hjk).trans c⟩
   · exact(if_neg (by omega)).trans (h2 j (by omega))
structure nv (m o o':Mb) (k:Nat):Prop where
 kind:o'.kind=m.kind
 qp:o'.qp=m.qp
 edge:o'.edge=m.edge
 v:o'.v=o.v
 lo:∀ i,i<k*64→o'.lev i=m.lev i
 hi:∀ i,k*64≤i→o'.lev i=o.lev i
theorem nO {m o o':Mb} {k:Nat}(h:nv m o o' k) {l:Nat→Int}(hl:∀ i,i<64→l i=aA m k i):nv m o (dR o' k l) (k+1):=by
 refine⟨h.kind,h.qp,h.edge,h.v,fun i hi=>?_,fun i hi=>?_⟩
 · show(if k*64≤i∧i<k*64+64 then l (i-k*64)else o'.lev i)=m.lev i
   by_cases hk:k*64≤i
   · rw [if_pos ⟨hk,by omega⟩,hl _ (by omega)]
     unfold aA
     rw [show k*64+(i-k*64)=i by omega]
   · rw [if_neg (by omega)]
     exact h.lo i (by omega)
 · show(if k*64≤i∧i<k*64+64 then l (i-k*64)else o'.lev i)=o.lev i
   rw [if_neg (by omega)]
   exact h.hi i (by omega)
def BF (evs:List (List Ev)) (u:Nat) (has:Nat→Bool) (ev:Nat→List Ev) (k:Nat):Prop:=∀ j,j<k→has j=true→u+fQ has j<evs.length∧evs.getD (u+fQ has j) []=ev j
theorem FL {evs:List (List Ev)} {m o:Mb} {mb:Int} {x0 x6:pq}(hx6:fY m mb x0 6=some x6) {R0:bz}(hR:lz x0.S R0) {has:Nat→Bool}(hhas:∀ j,j<6→has j=decide (0<(x6.ev j).length)) {u:Nat}(hk:o.kind=m.kind) (hq:o.qp=m.qp) (he:o.edge=m.edge) (hm:alone m=false→m.edge=false) (h0:alone m=true→∀ k,k<6→o.lev (k*64)=m.lev (k*64)) (hlev:∀ i,i<384 → -2047≤m.lev i∧m.lev i≤2047) :
 ∀ k,k≤6→BF evs u has x6.ev k→∃ y o' R',fY m mb x0 k=some y∧iI evs mb has (R0,o,u) k = .inr (R',o',u+fQ has k)∧lz y.S R'∧nv m o o' k:=by
 intro k
 induction k with
 | zero=>intro _ _;exact⟨x0,o,R0,rfl,rfl,hR,hk,hq,he,rfl,fun i hi=>absurd hi (by omega),fun _ _=>rfl⟩
 | succ k ih=>
   intro hk6 hev
   obtain⟨y,o',R',hy,hf,hRk,hF⟩:=ih (by omega) (fun j hj=>hev j (by omega))
   obtain⟨y',r,hy',hr,hevk⟩:=(wx 6 x6 hx6).1 k (by omega)
   rw [hy]at hy'
   cases hy'
   have hsta:fq o'=fq m:=by unfold fq alone;rw [hF.kind]
   have hlv:∀ i,i<64 → -2047≤aA m k i∧aA m k i≤2047:=fun i hi=>hlev _ (by omega)
   have ho0:alone m=true→o'.lev (k*64)=m.lev (k*64):=fun ha=>by rw [hF.hi _ (Nat.le_refl _)];exact h0 ha k (by omega)
   have hynext:fY m mb x0 (k+1)=some (cx m mb k y (nE m y.S mb k r)):=by rw [fY,hy];show Option.map _ (gF m y.S mb k)=_;rw [hr];rfl
   have hS:(cx m mb k y (nE m y.S mb k r)).S=if alone m=true then aO y.S mb k ⟨aA m k,m.qp⟩else y.S:=rfl
   have hst:fq o'=((if alone m=true then 1 else 0:Nat):Int):=by rw [hsta,t9]
   by_cases hh:has k=true
   · have hpos:0<(x6.ev k).length:=by rw [hhas k (by omega)]at hh;exact of_decide_eq_true hh
     obtain⟨hu,hevu⟩:=hev k (by omega) hh
     have hbk:∃ rest,jB (nE m y.S mb k r) (fq o')=some rest:=by
      rw [hst];unfold nE
      exact⟨_,vM (by split <;> omega)⟩
     obtain⟨rest,hrest⟩:=hbk
     have hRest:pt (nE m y.S mb k r) (fq o') rest:=by unfold pt;rw [if_pos (by rw [←hevk];exact hpos)];exact hrest
     obtain⟨R2,l,hfill,hR2,hl⟩:=vf hRk hr hF.kind hF.qp hF.edge hm ho0 hlv hRest
     refine⟨_,dR o' k l,R2,hynext,?_,by rw [hS];exact hR2,nO hF hl⟩
     rw [iI,hf]
     show fK evs mb has (R',o',u+fQ has k) k=_
     unfold fK
     rw [if_pos hh,if_neg (by dsimp only;omega)]
     dsimp only
     rw [hevu,hevk,hrest]
     dsimp only
     unfold Dj
     dsimp only
     rw [hfill,fQ,if_pos hh]
     rfl
   · have hnil:¬0<(x6.ev k).length:=fun hp=>hh (by rw [hhas k (by omega)];exact decide_eq_true hp)
     have hRest:pt (nE m y.S mb k r) (fq o') (fun _=>0):=by unfold pt;rw [if_neg (by rw [←hevk];exact hnil)]
     obtain⟨R2,l,hfill,hR2,hl⟩:=vf hRk hr hF.kind hF.qp hF.edge hm ho0 hlv hRest
     refine⟨_,dR o' k l,R2,hynext,?_,by rw [hS];exact hR2,nO hF hl⟩
     rw [iI,hf]
     show fK evs mb has (R',o',u+fQ has k) k=_
     unfold fK
     rw [if_neg hh]
     unfold Dj
     dsimp only
     rw [hfill,fQ,if_neg hh]
     rfl
theorem zt (o:Int):∀ n i,ES o (fun _=>0) n i=0
 | 0,_=>rfl
 | n+1,i=>by
   show cW (ES o (fun _=>0) n) _ 0 i=0
   unfold cW
   split
   · rfl
   · exact zt o n i
theorem Dk {evs:List (List Ev)} {m o:Mb} {mb:Int} {R0:bz} {has:Nat→Bool}(hhas:∀ j,j<6→has j=false) {u:Nat}(hk:o.kind=m.kind) (hq:o.qp=m.qp) (he:o.edge=m.edge) (ha:alone m=false) (hlev:∀ i,i<384→m.lev i=0) :
 ∀ k,k≤6→∃ o',iI evs mb has (R0,o,u) k = .inr (R0,o',u+fQ has k)∧nv m o o' k:=by
 intro k
 induction k with
 | zero=>intro _;exact⟨o,rfl,hk,hq,he,rfl,fun i hi=>absurd hi (by omega),fun _ _=>rfl⟩
 | succ k ih=>
   intro hk6
   obtain⟨o',hf,hF⟩:=ih (by omega)
   have hal:alone o'=false:=by rw [←ha];unfold alone;rw [hF.kind]
   have hl:∀ i,i<64→d8 0 (fun _=>0) i=aA m k i:=fun i hi=>by
    show ES 0 (fun _=>0) 64 i=_
    rw [zt]
    exact(hlev _ (by omega)).symm
   refine⟨dR o' k (d8 0 fun _=>0),?_,nO hF hl⟩
   rw [iI,hf]
   show fK evs mb has (R0,o',u+fQ has k) k=_
   unfold fK
   rw [if_neg (by rw [hhas k (by omega)];decide)]
   unfold Dj
   dsimp only
   unfold km
   rw [if_neg (by rw [hal];decide),fQ,if_neg (by rw [hhas k (by omega)];decide)]
   rfl
structure Aa (m o:Mb):Prop where
 kind:o.kind=m.kind
 qp:o.qp=m.qp
 edge:o.edge=m.edge
 v:∀ k,k<4→o.v k=m.v k
 lev:∀ i,i<384→o.lev i=m.lev i
theorem AI {S R:bz}(h:lz S R) (m:Mb):lz (e9 S m) R:=by
 unfold e9
 split
 · exact⟨h.cols,h.rows,h.a,h.b,h.c⟩
 · exact h
theorem qd {z:bz × List Bool} {R:bz}(h:lz z.1 R) (m:Mb) (mb:Int) (k:Nat):lz (ax m mb z k).1 R:=⟨h.cols,h.rows,h.a,h.b,h.c⟩
theorem l8 {S R:bz}(h:lz S R) (mb:Int) (v:Nat→Int × Int):lz (bc S mb v) R:=⟨h.cols,h.rows,h.a,h.b,h.c⟩
theorem Du {S R:bz}(h:lz S R) (X:List Bool) (m:Mb) (mb:Int):lz (c9 S X m mb).1 R:=by
 unfold c9
 split
 · exact l8 h _ _
 · split
   · exact l8 (qd (z:=(S,X++aC S m)) h m mb 0) _ _
   · split
     · exact l8 (qd (qd (qd (qd (z:=(S,X++aC S m)) h m mb 0) m mb 1) m mb 2) m mb 3) _ _
     · exact l8 (AI h m) _ _
structure E1 (l:List Mb) (first:Int) (x0:PS) (outs:List Ol):Prop where
 len:outs.length=l.length
 at_:∀ i,i<l.length→BI (l.getD i default) (outs.getD i default).1∧∀ j,j<6→(outs.getD i default).2 j=decide (0<(Iz l first x0 i j).length)
theorem B4 {h:Hd} {p:Ph} {l:List Mb} {first:Int}(hT:fZ h p l first) {outs:List Ol}(hO:E1 l first (lW h p) outs) {evs:List (List Ev)} {i:Nat}(hi:i<l.length) {x y:PS}(hx:fk l first (lW h p) i = .inr x) (hy:fk l first (lW h p) (i+1) = .inr y) {R:bz}(hR:lz x.S R) {u:Nat} :
 ∀ k,k≤6→BF evs u (outs.getD i default).2 (Iz l first (lW h p) i) k→∃ o' R',iI evs (first+(i:Nat)) (outs.getD i default).2 (R,(outs.getD i default).1,u) k = .inr (R',o',u+fQ (outs.getD i default).2 k)∧(k=6→lz y.S R'∧Aa (l.getD i default) o'):=by
 obtain⟨x',hx',hs⟩:=ky hy
 rw [hx]at hx'
 cases hx'
 obtain⟨ho,hhas⟩:=hO.at_ i hi
 have hm:=pK hT hi
 obtain⟨hc,z,hz,rfl⟩:=oJ hs
 have hf:=jd hm hc
 have hpe:∀ j,Iz l first (lW h p) i j=qY x.S x.B (l.getD i default) (first+(i:Nat)) j:=fun j=>by unfold Iz;rw [hx]
 have hz':gg x.S x.B x.w (l.getD i default) (first+(i:Nat))=some (z.1,z.2.1,z.2.2):=hz
 have hsame:∀ {o'},nv (l.getD i default) (outs.getD i default).1 o' 6→Aa (l.getD i default) o':=fun hF=>⟨hF.kind,hF.qp,hF.edge,fun k hk=>by rw [hF.v];exact ho.v k hk,fun i hi=>hF.lo i (by omega)⟩
 intro k hk hev
 by_cases h0:(l.getD i default).kind=0
 · have ha:alone (l.getD i default)=false:=by unfold alone;rw [h0];rfl
   have hn:∀ j,j<6→(outs.getD i default).2 j=false:=fun j hj=>by
    rw [hhas j hj,hpe j];unfold qY;rw [if_pos h0];rfl
   obtain⟨o',h1,h2⟩:=Dk (evs:=evs) (mb:=first+(i:Nat)) (R0:=R) hn (u:=u) ho.kind ho.qp ho.edge ha (fun j hj=>(hf.lev j hj).1 h0) k hk
   refine⟨o',R,h1,fun h6=>?_⟩
   subst h6
   unfold gg at hz'
   rw [if_pos h0]at hz'
   have e1:bc x.S (first+(i:Nat)) (l.getD i default).v=z.1:=congrArg (fun q=>q.1) (Option.some.inj hz')
   refine⟨?_,hsame h2⟩
   show lz z.1 R
   rw [←e1]
   exact l8 hR _ _
 · unfold gg at hz'
   rw [if_neg h0]at hz'
   obtain⟨x6,hx6,he6⟩:=Option.map_eq_some_iff.1 hz'
   have hpe2:∀ j,Iz l first (lW h p) i j=x6.ev j:=fun j=>by rw [hpe j];unfold qY;rw [if_neg h0,hx6]
   obtain⟨y',o',R',a1,a2,a3,a4⟩:=FL (evs:=evs) hx6 (Du hR x.B (l.getD i default) (first+(i:Nat))) (has:=(outs.getD i default).2) (fun j hj=>by rw [hhas j hj,hpe2 j]) (u:=u) ho.kind ho.qp ho.edge hf.edge (fun ha k hk=>by rw [ho.lev,if_pos ⟨ha,by omega,by omega⟩]) (fun j hj=>(hf.lev j hj).2.1) k hk (fun j hj hh=>by rw [←hpe2 j];exact hev j hj hh)
   refine⟨o',R',a2,fun h6=>?_⟩
   subst h6
   rw [hx6]at a1
   cases a1
   have e1:x6.S=z.1:=congrArg (fun q=>q.1) he6
   rw [←e1]
   exact⟨a3,hsame a4⟩
theorem yq {h:Hd} {p:Ph} {l:List Mb} {first:Int}(hT:fZ h p l first) {outs:List Ol}(hO:E1 l first (lW h p) outs) {evs:List (List Ev)} {X:PS}(hX:fk l first (lW h p) l.length = .inr X) :
 ∀ n,n≤l.length→(∀ i,i<n→BF evs (manyN outs i) (outs.getD i default).2 (Iz l first (lW h p) i) 6)→∃ y R out,fk l first (lW h p) n = .inr y∧nK evs first outs (jJ h p) n = .inr ⟨R,out,manyN outs n⟩∧lz y.S R∧out.length=n∧∀ i,i<n→Aa (l.getD i default) (out.getD i default):=by
 intro n
 induction n with
 | zero=>intro _ _;exact⟨lW h p,jJ h p,[],rfl,rfl,⟨rfl,rfl,fun _=>rfl,fun _=>rfl,fun _=>rfl⟩,rfl,fun i hi=>absurd hi (Nat.not_lt_zero _)⟩
 | succ n ih=>
   intro hn hev
   obtain⟨x,R,out,hx,hf,hR,hlen,hsame⟩:=ih (by omega) (fun i hi=>hev i (by omega))
   obtain⟨y,hy⟩:=ji hX (n+1) hn
   obtain⟨o',R',h1,h2⟩:=B4 hT hO (by omega) hx hy hR 6 (Nat.le_refl _) (hev n (by omega))
   obtain⟨h3,h4⟩:=h2 rfl
   refine⟨y,R',out++[o'],hy,?_,h3,by rw [List.length_append,hlen];rfl,fun i hi=>?_⟩
   · rw [nK,hf]
     dsimp only
     rw [h1,manyN]
   · by_cases hin:i<n
     · have e:(out++[o']).getD i default=out.getD i default:=by rw [List.getD_eq_getElem?_getD,List.getElem?_append_left (by omega),←List.getD_eq_getElem?_getD]
       rw [e]
       exact hsame i hin
     · obtain rfl:i=n:=by omega
       have e:(out++[o']).getD i default=o':=by rw [List.getD_eq_getElem?_getD,List.getElem?_append_right (by omega),hlen,Nat.sub_self];rfl
       rw [e]
       exact h4
end Go.Proofs.YtagpkhindehcbaaGreat
