/-
  A part of the proof: Put3, MbLaw, Put4, PutLaw, PutAll, Fill2, ManyF, FillC.
-/
import Derived.Test.YtagpkhindehcbaaGreatKfQ
import Derived.Test.YtagpkhindehcbaaGreatKfS
import Derived.Test.YtagpkhindehcbaaGreatKfT
import Derived.Test.YtagpkhindehcbaaGreatKfU
import Derived.Test.YtagpkhindehcbaaGreatKfV
set_option maxRecDepth 10000
set_option maxHeartbeats 8000000
set_option linter.unusedVariables false
set_option linter.unusedSectionVars false
set_option linter.unusedSimpArgs false
namespace Go.Proofs.YtagpkhindehcbaaGreat
open Go.Xm
variable [ax]
theorem QN{S:bm}{B bw:List Bool}{m:Mb}{mb:Int}(hP:lS S B bw m mb)(hk:m.kind=3)(x:oD)(hx:fJ m mb ⟨aX S mb m.v,((B++az S m)++[m.edge]),0,0,fun _=>[]⟩ 6=some x) :
 bh Tryz.prog 29 [.one (.ptr 2 0),.one (.ptr 0 0),.one (.ptr 22 0),.one (.int .i64 mb),.agg (mC m)] [aN 1 B,aq B,dJ (S),bM 4 8 12,aw 5 6 7 cM,aR cM,aT cM,aS cM,aw 9 10 11 cZ,aR cZ,aT cZ,aS cZ,aw 13 14 15 cP,aR cP,aT cP,aS cP,cn 17 (S).cols (S).rows,.map (ba (S).M),.cells [.int .i64 (S).cols,.int .i64 (S).rows,.map 19,.map 20,.map 21] 171 false false,.map (ag (S).A),.map (ag (S).B),.map (ag (S).C),aN 23 bw,aq bw] (.one (.int .i64 0)) [aN 24 (fj x),.dead,dJ (x.S),bM 4 8 12,aw 5 6 7 cM,aR cM,aT cM,aS cM,aw 9 10 11 cZ,aR cZ,aT cZ,aS cZ,aw 13 14 15 cP,aR cP,aT cP,aS cP,cn 17 (x.S).cols (x.S).rows,.map (ba (x.S).M),.cells [.int .i64 (x.S).cols,.int .i64 (x.S).rows,.map 19,.map 20,.map 21] 171 false false,.map (ag (x.S).A),.map (ag (x.S).B),.map (ag (x.S).C),aN 25 (dq bw x 6),.dead,aq (fj x),aq (dq bw x 6)]:=by
 have hg:=hP.good
 have hm:=hg.ok
 have hD:=hP.st.dims
 have hmb:=hP.mb
 have hlen:=hP.len
 have hkl:=f7 S m
 have hK:=jl B S m hm hg.kind hP.qp (by omega)
 rw[dV (by omega)]at hK
 have htE:cj S.M:=hP.st.tiny
 have hS2:iX (aX S mb m.v):=⟨hD,hP.st.lev,fh htE hm.v⟩
 have hB2:(((B++az S m)++[m.edge])).length<=700000:=by
  show(((B++az S m)++[m.edge])).length<=700000
  simp only[List.length_append,List.length_cons,List.length_nil]
  omega
 refine cO Tryz.func29 ?_
 repeat' (first
  |(refine qz ?_;first
   |refine fG ?_ (hle:=by rw[aI])
   |refine cl ?_ (hi:=by exact sd (S:=S) (S':=S) (bs:=B) (bs':=B++az S m) (fun _ => .flat .nil) (.flat .nil) rfl hK rfl rfl rfl rfl nL nA rfl)
   |refine cl ?_ (hi:=by exact lH (b:=m.edge) (bs:=(B++az S m)) (by simp only[List.length_append];omega) rfl rfl (by decide) nL nA rfl)
   |refine cl ?_ (hi:=by exact ju (S:=S) (bs:=((B++az S m)++[m.edge])) hD hmb rfl rfl rfl rfl nA rfl)
   |refine cl ?_ (hi:=by exact pG (B:=((B++az S m)++[m.edge])) (S:=aX S mb m.v) (pH (((B++az S m)++[m.edge])) bw (aX S mb m.v) m mb hg hS2 hmb hB2 (by have:=hP.lenw;omega) x hx) rfl rfl rfl rfl rfl rfl nL nA rfl))
  |refine zz ?_|refine zx (fun _=>?_) (fun _=>?_)|fail)
 show aC _ _ _ _ _ _ _ _;refine kV [0,1,2,3,4,5,6,7,8,9,10,11,12,13,14,15,16,17,18,19,20,21,22,23,27,28] ?_
 rfl
theorem Pq{S:bm}{B bw:List Bool}{m:Mb}{mb:Int}(hP:lS S B bw m mb)(hk:m.kind=3)(hx:fJ m mb ⟨aX S mb m.v,((B++az S m)++[m.edge]),0,0,fun _=>[]⟩ 6=none) :
 bh Tryz.prog 29 [.one (.ptr 2 0),.one (.ptr 0 0),.one (.ptr 22 0),.one (.int .i64 mb),.agg (mC m)] [aN 1 B,aq B,dJ (S),bM 4 8 12,aw 5 6 7 cM,aR cM,aT cM,aS cM,aw 9 10 11 cZ,aR cZ,aT cZ,aS cZ,aw 13 14 15 cP,aR cP,aT cP,aS cP,cn 17 (S).cols (S).rows,.map (ba (S).M),.cells [.int .i64 (S).cols,.int .i64 (S).rows,.map 19,.map 20,.map 21] 171 false false,.map (ag (S).A),.map (ag (S).B),.map (ag (S).C),aN 23 bw,aq bw] (.one (.int .i64 2)) om:=by
 have hg:=hP.good
 have hm:=hg.ok
 have hD:=hP.st.dims
 have hmb:=hP.mb
 have hlen:=hP.len
 have hkl:=f7 S m
 have hK:=jl B S m hm hg.kind hP.qp (by omega)
 rw[dV (by omega)]at hK
 have htE:cj S.M:=hP.st.tiny
 have hS2:iX (aX S mb m.v):=⟨hD,hP.st.lev,fh htE hm.v⟩
 have hB2:(((B++az S m)++[m.edge])).length<=700000:=by
  show(((B++az S m)++[m.edge])).length<=700000
  simp only[List.length_append,List.length_cons,List.length_nil]
  omega
 refine cO Tryz.func29 ?_
 repeat' (first
  |(refine qz ?_;first
   |refine fG ?_ (hle:=by rw[aI])
   |refine cl ?_ (hi:=by exact sd (S:=S) (S':=S) (bs:=B) (bs':=B++az S m) (fun _ => .flat .nil) (.flat .nil) rfl hK rfl rfl rfl rfl nL nA rfl)
   |refine cl ?_ (hi:=by exact lH (b:=m.edge) (bs:=(B++az S m)) (by simp only[List.length_append];omega) rfl rfl (by decide) nL nA rfl)
   |refine cl ?_ (hi:=by exact ju (S:=S) (bs:=((B++az S m)++[m.edge])) hD hmb rfl rfl rfl rfl nA rfl)
   |refine cl ?_ (hi:=by exact nu (B:=((B++az S m)++[m.edge])) (S:=aX S mb m.v) (nw (((B++az S m)++[m.edge])) bw (aX S mb m.v) m mb hg hS2 hmb hB2 (by have:=hP.lenw;omega) hx) rfl rfl rfl rfl rfl rfl nL nA rfl))
  |refine zz ?_|refine zx (fun _=>?_) (fun _=>?_)|fail)
 show aC _ _ _ _ _ _ _ _;refine kV [0,1,2,3,4,5,6,7,8,9,10,11,12,13,14,15,16,17,18,19,20,21,22,23] ?_
 rfl
theorem QO{S:bm}{B bw:List Bool}{m:Mb}{mb:Int}(hP:lS S B bw m mb)(hk:m.kind=4)(x:oD)(hx:fJ m mb ⟨aX ({S with qp:=m.qp}:bm) mb m.v,((B++az S m)++[m.edge]),0,0,fun _=>[]⟩ 6=some x) :
 bh Tryz.prog 29 [.one (.ptr 2 0),.one (.ptr 0 0),.one (.ptr 22 0),.one (.int .i64 mb),.agg (mC m)] [aN 1 B,aq B,dJ (S),bM 4 8 12,aw 5 6 7 cM,aR cM,aT cM,aS cM,aw 9 10 11 cZ,aR cZ,aT cZ,aS cZ,aw 13 14 15 cP,aR cP,aT cP,aS cP,cn 17 (S).cols (S).rows,.map (ba (S).M),.cells [.int .i64 (S).cols,.int .i64 (S).rows,.map 19,.map 20,.map 21] 171 false false,.map (ag (S).A),.map (ag (S).B),.map (ag (S).C),aN 23 bw,aq bw] (.one (.int .i64 0)) [aN 24 (fj x),.dead,dJ (x.S),bM 4 8 12,aw 5 6 7 cM,aR cM,aT cM,aS cM,aw 9 10 11 cZ,aR cZ,aT cZ,aS cZ,aw 13 14 15 cP,aR cP,aT cP,aS cP,cn 17 (x.S).cols (x.S).rows,.map (ba (x.S).M),.cells [.int .i64 (x.S).cols,.int .i64 (x.S).rows,.map 19,.map 20,.map 21] 171 false false,.map (ag (x.S).A),.map (ag (x.S).B),.map (ag (x.S).C),aN 25 (dq bw x 6),.dead,aq (fj x),aq (dq bw x 6)]:=by
 have hg:=hP.good
 have hm:=hg.ok
 have hD:=hP.st.dims
 have hmb:=hP.mb
 have hlen:=hP.len
 have hkl:=f7 S m
 have hK:=jl B S m hm hg.kind hP.qp (by omega)
 rw[o_ hk]at hK
 have htE:cj S.M:=hP.st.tiny
 have hS2:iX (aX ({S with qp:=m.qp}:bm) mb m.v):=⟨hD,hP.st.lev,fh htE hm.v⟩
 have hB2:(((B++az S m)++[m.edge])).length<=700000:=by
  show(((B++az S m)++[m.edge])).length<=700000
  simp only[List.length_append,List.length_cons,List.length_nil]
  omega
 refine cO Tryz.func29 ?_
 repeat' (first
  |(refine qz ?_;first
   |refine fG ?_ (hle:=by rw[aI])
   |refine cl ?_ (hi:=by exact sd (S:=S) (S':={S with qp:=m.qp}) (bs:=B) (bs':=B++az S m) (fun _ => .flat .nil) (.flat .nil) rfl hK rfl rfl rfl rfl nL nA rfl)
   |refine cl ?_ (hi:=by exact lH (b:=m.edge) (bs:=(B++az S m)) (by simp only[List.length_append];omega) rfl rfl (by decide) nL nA rfl)
   |refine cl ?_ (hi:=by exact ju (S:=({S with qp:=m.qp}:bm)) (bs:=((B++az S m)++[m.edge])) hD hmb rfl rfl rfl rfl nA rfl)
   |refine cl ?_ (hi:=by exact pG (B:=((B++az S m)++[m.edge])) (S:=aX ({S with qp:=m.qp}:bm) mb m.v) (pH (((B++az S m)++[m.edge])) bw (aX ({S with qp:=m.qp}:bm) mb m.v) m mb hg hS2 hmb hB2 (by have:=hP.lenw;omega) x hx) rfl rfl rfl rfl rfl rfl nL nA rfl))
  |refine zz ?_|refine zx (fun _=>?_) (fun _=>?_)|fail)
 show aC _ _ _ _ _ _ _ _;refine kV [0,1,2,3,4,5,6,7,8,9,10,11,12,13,14,15,16,17,18,19,20,21,22,23,27,28] ?_
 rfl
theorem Pr{S:bm}{B bw:List Bool}{m:Mb}{mb:Int}(hP:lS S B bw m mb)(hk:m.kind=4)(hx:fJ m mb ⟨aX ({S with qp:=m.qp}:bm) mb m.v,((B++az S m)++[m.edge]),0,0,fun _=>[]⟩ 6=none) :
 bh Tryz.prog 29 [.one (.ptr 2 0),.one (.ptr 0 0),.one (.ptr 22 0),.one (.int .i64 mb),.agg (mC m)] [aN 1 B,aq B,dJ (S),bM 4 8 12,aw 5 6 7 cM,aR cM,aT cM,aS cM,aw 9 10 11 cZ,aR cZ,aT cZ,aS cZ,aw 13 14 15 cP,aR cP,aT cP,aS cP,cn 17 (S).cols (S).rows,.map (ba (S).M),.cells [.int .i64 (S).cols,.int .i64 (S).rows,.map 19,.map 20,.map 21] 171 false false,.map (ag (S).A),.map (ag (S).B),.map (ag (S).C),aN 23 bw,aq bw] (.one (.int .i64 2)) om:=by
 have hg:=hP.good
 have hm:=hg.ok
 have hD:=hP.st.dims
 have hmb:=hP.mb
 have hlen:=hP.len
 have hkl:=f7 S m
 have hK:=jl B S m hm hg.kind hP.qp (by omega)
 rw[o_ hk]at hK
 have htE:cj S.M:=hP.st.tiny
 have hS2:iX (aX ({S with qp:=m.qp}:bm) mb m.v):=⟨hD,hP.st.lev,fh htE hm.v⟩
 have hB2:(((B++az S m)++[m.edge])).length<=700000:=by
  show(((B++az S m)++[m.edge])).length<=700000
  simp only[List.length_append,List.length_cons,List.length_nil]
  omega
 refine cO Tryz.func29 ?_
 repeat' (first
  |(refine qz ?_;first
   |refine fG ?_ (hle:=by rw[aI])
   |refine cl ?_ (hi:=by exact sd (S:=S) (S':={S with qp:=m.qp}) (bs:=B) (bs':=B++az S m) (fun _ => .flat .nil) (.flat .nil) rfl hK rfl rfl rfl rfl nL nA rfl)
   |refine cl ?_ (hi:=by exact lH (b:=m.edge) (bs:=(B++az S m)) (by simp only[List.length_append];omega) rfl rfl (by decide) nL nA rfl)
   |refine cl ?_ (hi:=by exact ju (S:=({S with qp:=m.qp}:bm)) (bs:=((B++az S m)++[m.edge])) hD hmb rfl rfl rfl rfl nA rfl)
   |refine cl ?_ (hi:=by exact nu (B:=((B++az S m)++[m.edge])) (S:=aX ({S with qp:=m.qp}:bm) mb m.v) (nw (((B++az S m)++[m.edge])) bw (aX ({S with qp:=m.qp}:bm) mb m.v) m mb hg hS2 hmb hB2 (by have:=hP.lenw;omega) hx) rfl rfl rfl rfl rfl rfl nL nA rfl))
  |refine zz ?_|refine zx (fun _=>?_) (fun _=>?_)|fail)
 show aC _ _ _ _ _ _ _ _;refine kV [0,1,2,3,4,5,6,7,8,9,10,11,12,13,14,15,16,17,18,19,20,21,22,23] ?_
 rfl
theorem JF{B X:List Bool}{n:Nat}(h:n<5)(hp:X++c9 cM n <+: B):kK cM B (X.length,false)=((n:Int),((X++c9 cM n).length,false)):=by
 obtain⟨t,rfl⟩:=hp
 rw[List.append_assoc,Da h X t,List.length_append]
theorem Mz{B X:List Bool}{n:Nat}(h:n<16)(hp:X++c9 cP n <+: B):kK cP B (X.length,false)=((n:Int),((X++c9 cP n).length,false)):=by
 obtain⟨t,rfl⟩:=hp
 rw[List.append_assoc,xe h X t,List.length_append]
theorem My{B X:List Bool}{n:Int}(h : -4000<=n/\n<=4000)(hp:X++bY n <+: B):eI B (X.length,false)=(n,((X++bY n).length,false)):=by
 obtain⟨t,rfl⟩:=hp
 rw[List.append_assoc,FC h X t,List.length_append]
theorem JG{B X:List Bool}{v e:Int×Int}(he:bI e)(hr:dH v=true)(hp:X++cV v e <+: B):oC B e (X.length,false)=(v,((X++cV v e).length,false)):=by
 obtain⟨t,rfl⟩:=hp
 rw[List.append_assoc,Kx v e he hr X t,List.length_append]
theorem EI{B X:List Bool}{n:Int}{k:Nat}(h:0<=n/\n<2^k)(hp:X++d8 n k <+: B):bG B k (X.length,false)=(n,((X++d8 n k).length,false)):=by
 obtain⟨t,rfl⟩:=hp
 rw[List.append_assoc,xw h X t,List.length_append,gF]
theorem EJ{B X:List Bool}{b:Bool}(hp:X++[b] <+: B):cm B (X.length,false)=b/\bg B (X.length,false)=((X++[b]).length,false):=by
 obtain⟨t,rfl⟩:=hp
 have:=qW X b t
 rw[List.append_assoc,List.length_append]
 exact this
def kq(b:Kn):Int×Int:=(b.lv 0,b.qp)
def Aq(T U:oJ):Prop:=∀k,(cH U k).map kq=(cH T k).map kq
structure Rel(S R:bm):Prop where
 inter:R.inter=S.inter
 qp:R.qp=S.qp
 cols:R.cols=S.cols
 rows:R.rows=S.rows
 M:∀k,cH R.M k=cH S.M k
 a:Aq S.A R.A
 b:Aq S.B R.B
 c:Aq S.C R.C
theorem v_{p q:Int}{T U:oJ}(h:Aq T U){key:Int}{b c:Kn}(hb:kq c=kq b):Aq (jt p q T key b) (jt p q U key c):=by
 unfold jt
 split
 ·intro k
  rw[f9,f9]
  split
  ·exact congrArg some hb
  ·exact h k
 ·exact h
theorem LV{a b:Kn}(h:kq a=kq b):iw a=iw b:=by
 unfold kq at h
 have h1:=(Prod.mk.inj h).1
 have h2:=(Prod.mk.inj h).2
 unfold iw
 rw[h1,h2]
theorem y5{la la' lb lb' lc lc':Option Kn}{q:Int}(ha:la'.map kq=la.map kq)(hb:lb'.map kq=lb.map kq)(hc:lc'.map kq=lc.map kq):j5 la' lb' lc' q=j5 la lb lc q:=by
 have e:∀{x y:Option Kn},x.map kq=y.map kq->(x=none/\y=none)\/∃a b,x=some a/\y=some b/\iw a=iw b:=by
  intro x y h
  cases x with
  | none=>cases y with
    | none=>exact .inl ⟨rfl,rfl⟩
    | some b=>cases h
  | some a=>cases y with
    | none=>cases h
    | some b=>exact .inr ⟨a,b,rfl,rfl,LV (Option.some.inj h)⟩
 rcases e ha with⟨rfl,rfl⟩|⟨a,a',rfl,rfl,ea⟩<;>rcases e hb with⟨rfl,rfl⟩|⟨b,b',rfl,rfl,eb⟩<;>rcases e hc with⟨rfl,rfl⟩|⟨c,c',rfl,rfl,ec⟩<;>unfold j5<;>simp only[*]
theorem Dc{S R:bm}(h:Rel S R)(mb k dx dy:Int):(zh R mb k dx dy).map kq=(zh S mb k dx dy).map kq:=by
 unfold zh dt cI
 rw[h.cols]
 split
 ·rfl
 ·unfold bU
  split
  ·exact h.a _
  ·split
   ·exact h.b _
   ·exact h.c _
theorem BU{S R:bm}(h:Rel S R)(mb k q:Int):a_ R mb k q=a_ S mb k q:=y5 (Dc h ..) (Dc h ..) (Dc h ..)
theorem Kv{S R:bm}(h:Rel S R)(mb k:Int){b c:Kn}(hb:kq c=kq b):Rel (bu S mb k b) (bu R mb k c):=by
 have e:mz R mb k=mz S mb k:=by unfold mz;rw[h.cols]
 refine⟨h.inter,h.qp,h.cols,h.rows,h.M,?_,?_,?_⟩
 ·show Aq (jt (placeOf S.cols mb k).1 0 S.A (mz S mb k) b) (jt (placeOf R.cols mb k).1 0 R.A (mz R mb k) c)
  rw[e,h.cols];exact v_ h.a hb
 ·show Aq (jt (placeOf S.cols mb k).1 1 S.B (mz S mb k) b) (jt (placeOf R.cols mb k).1 1 R.B (mz R mb k) c)
  rw[e,h.cols];exact v_ h.b hb
 ·show Aq (jt (placeOf S.cols mb k).1 2 S.C (mz S mb k) b) (jt (placeOf R.cols mb k).1 2 R.C (mz R mb k) c)
  rw[e,h.cols];exact v_ h.c hb
theorem pZ{M N:gm}(h:∀k,cH N k=cH M k)(cols rows mb k:Int):b9 N cols rows mb k=b9 M cols rows mb k:=by
 unfold b9 lG
 simp only[h]
theorem mZ{M N:gm}(h:∀k,cH N k=cH M k)(cols mb j:Int)(v:Int×Int)(k:Int):cH (aV N cols mb j v) k=cH (aV M cols mb j v) k:=by
 unfold aV
 rw[f9,f9,h]
theorem pY{M N:gm}(h:∀k,cH N k=cH M k)(cols mb:Int){v w:Nat->Int×Int}(hv:∀j,j<4->w j=v j)(k:Int):cH (si N cols mb w) k=cH (si M cols mb v) k:=by
 unfold si
 rw[hv 0 (by omega),hv 1 (by omega),hv 2 (by omega),hv 3 (by omega)]
 exact mZ (fun _=>mZ (fun _=>mZ (fun _=>mZ h ..) ..) ..) ..
theorem Dj{M N:gm}{a b c d:Int}{x y z w:Int×Int}(h:∀k,k≠a->k≠b->k≠c->k≠d->cH N k=cH M k)(k:Int):cH (oH (oH (oH (oH N a x) b y) c z) d w) k=cH (oH (oH (oH (oH M a x) b y) c z) d w) k:=by
 simp only[f9]
 split
 ·rfl
 ·split
  ·rfl
  ·split
   ·rfl
   ·split
    ·rfl
    ·exact h k (by assumption) (by assumption) (by assumption) (by assumption)
theorem zM{M N:gm}(h:∀k,cH N k=cH M k)(cols mb:Int){v w:Nat->Int×Int}(hv:∀j,j<4->w j=v j)(x:Int×Int)(k:Int):cH (si N cols mb w) k=cH (si (aV M cols mb 0 x) cols mb v) k:=by
 rw[pY h cols mb hv k]
 exact Dj (fun j h0 _ _ _=>by unfold aV;rw[f9,if_neg h0]) k
structure xp(m o:Mb):Prop where
 kind:o.kind=m.kind
 qp:o.qp=m.qp
 v:∀k,k<4->o.v k=m.v k
 edge:o.edge=m.edge
 lev:∀i,o.lev i=if alone m=true/\i%64=0/\i<384 then m.lev i else 0
structure ln(S:bm)(m:Mb):Prop where
 kind:0<=m.kind/\m.kind<=4
 alo:S.inter=false->alone m=true
 edge:alone m=false->m.edge=false
 st:m.kind=4->(dz S.qp m.qp).2=true
 qp:m.kind≠4->m.qp=S.qp
 vecs:∀k,k<4->ow m k
 lev:∀i,i<384->A6 m i
theorem mJ{S:bm}{m:Mb}(hm:iK m)(h:dC m S.inter S.qp=0):ln S m:=by
 have hk:=hm.kind
 unfold dC at h
 split at h
 ·cases h
 rename_i h1
 split at h
 ·cases h
 rename_i h2
 split at h
 ·cases h
 rename_i h3
 split at h
 ·cases h
 rename_i h4
 split at h
 ·rename_i h5;exact absurd h h5
 rename_i h5
 have hv:gL m=0:=Decidable.byContradiction fun g=>h5 g
 refine⟨⟨hk.1,?_⟩,?_,?_,?_,?_,?_,?_⟩
 ·exact Decidable.byContradiction fun g=>h1 (.inl (by omega))
 ·intro g
  cases ha:alone m with
  | true=>rfl
  | false=>exact absurd (.inr ⟨g,ha⟩) h1
 ·intro g
  cases he:m.edge with
  | false=>rfl
  | true=>exact absurd ⟨he,g⟩ h2
 ·intro g
  cases hs:(dz S.qp m.qp).2 with
  | true=>rfl
  | false=>exact absurd ⟨g,hs⟩ h3
 ·intro g
  exact Decidable.byContradiction fun e=>h4 ⟨g,e⟩
 ·unfold gL at hv
  split at hv
  ·rename_i g
   intro k hk
   match k,hk with
   | 0,_=>exact g.1
   | 1,_=>exact g.2.1
   | 2,_=>exact g.2.2.1
   | 3,_=>exact g.2.2.2
  ·cases hv
 ·unfold xP at h
  split at h
  ·assumption
  ·cases h
theorem yi{a b:Int}(h:(dz a b).2=true):a+n5 (dz a b).1=b/\1<=b/\b<=31:=by
 unfold dz at h ⊢
 split at h
 ·cases h
 ·rename_i h0
  rw[if_neg h0]
  repeat' split at h
  all_goals first|(cases h;done)|skip
  all_goals (repeat' split)
  all_goals first|contradiction|(refine⟨?_,by omega,by omega⟩;simp[n5];omega)
theorem kU{S R:bm}(hR:Rel S R){m:Mb}(hf:ln S m){X B:List Bool}(hp:X++az S m <+: B):eP R B (X.length,false)=⟨{ly with kind:=m.kind,qp:=m.qp},{R with qp:=m.qp},((X++az S m).length,false)⟩:=by
 have hk:=hf.kind
 have e0:∃K,az S m=K++(if m.kind=4 then d8 (dz S.qp m.qp).1 2 else [])/\(X++K <+: B->jw R B (X.length,false)=(m.kind,((X++K).length,false))):=by
  refine⟨_,rfl,fun hp=>?_⟩
  unfold jw
  rw[hR.inter]
  by_cases hi:S.inter=true
  ·rw[if_pos hi]at hp ⊢
   rw[if_pos hi,JF (by omega) hp]
   congr 1
   omega
  ·rw[if_neg hi]at hp ⊢
   rw[if_neg hi]
   have hr:=EJ hp
   rw[hr.1,hr.2]
   have ha:=hf.alo (by simpa using hi)
   unfold alone at ha
   have ha':=of_decide_eq_true ha
   by_cases h4:m.kind=4
   ·rw[decide_eq_true h4,if_pos rfl,h4]
   ·rw[decide_eq_false h4,if_neg (by decide)]
    congr 1
    omega
 obtain⟨K,eK,hK⟩:=e0
 rw[eK,<-List.append_assoc]at hp ⊢
 have hp1:X++K <+: B:=(List.prefix_append _ _).trans hp
 have e1:=hK hp1
 have e2:Cq R B (m.kind,((X++K).length,false))=(m.qp,(((X++K)++(if m.kind=4 then d8 (dz S.qp m.qp).1 2 else [])).length,false)):=by
  unfold Cq
  by_cases h4:m.kind=4
  ·rw[if_pos h4]at hp ⊢
   have hs:=yh S.qp m.qp
   have hb:=yi (hf.st h4)
   have:=EI (k:=2) ⟨hs.1,by omega⟩ hp
   rw[if_pos h4]
   simp only[this,hR.qp]
   rw[if_neg (by omega),hb.1]
  ·rw[if_neg h4,if_neg h4,List.append_nil,hR.qp,hf.qp h4]
 unfold eP
 rw[e1,e2]
theorem zp{S R:bm}(h:Rel S R){m:Mb}(hf:ln S m):Rel (fy S m) {R with qp:=m.qp}:=by
 by_cases h4:m.kind=4
 ·rw[o_ h4]
  exact⟨h.inter,rfl,h.cols,h.rows,h.M,h.a,h.b,h.c⟩
 ·rw[dV h4]
  exact⟨h.inter,hf.qp h4,h.cols,h.rows,h.M,h.a,h.b,h.c⟩
theorem Bz{S R:bm}(h:Rel S R){M N:gm}(hm:∀k,cH N k=cH M k):Rel {S with M:=M} {R with M:=N}:=⟨h.inter,h.qp,h.cols,h.rows,hm,h.a,h.b,h.c⟩
theorem Kr{S:bm}{z:gh}(hR:Rel S z.S)(hT:cj S.M){m:Mb}{mb:Int}{k:Nat}(hr:dH (m.v k)=true){X B:List Bool}(hz:z.r=(X.length,false))(hp:X++cV (m.v k) (b9 S.M S.cols S.rows mb k) <+: B) :
 rj B mb z k=⟨{z.m with v:=km z.m.v k (m.v k)},{z.S with M:=aV z.S.M z.S.cols mb k (m.v k)},((X++cV (m.v k) (b9 S.M S.cols S.rows mb k)).length,false)⟩:=by
 have e:oC B (b9 z.S.M z.S.cols z.S.rows mb k) z.r=(m.v k,((X++cV (m.v k) (b9 S.M S.cols S.rows mb k)).length,false)):=by
  rw[hR.cols,hR.rows,pZ hR.M,hz]
  exact JG (dk hT) hr hp
 unfold rj
 rw[e]
theorem EK{S R:bm}(h:Rel S R)(mb k:Int)(v:Int×Int):Rel {S with M:=aV S.M S.cols mb k v} {R with M:=aV R.M R.cols mb k v}:=
 Bz h (fun j=>by rw[h.cols];exact mZ h.M ..)
structure oL(S:bm)(Y:List Bool)(m:Mb)(z:gh):Prop where
 rel:Rel S z.S
 r:z.r=(Y.length,false)
 kind:z.m.kind=m.kind
 qp:z.m.qp=m.qp
 v:∀k,k<4->z.m.v k=m.v k
 edge:z.m.edge=m.edge
 lev:∀i,z.m.lev i=0
theorem He{m:Mb}(hv:∀k,k<4->ow m k)(h2:m.kind≠2):∀k,k<4->m.v 0=m.v k:=fun k hk=>((hv k hk).2.1 h2).symm
theorem yu{m:Mb}(hv:∀k,k<4->ow m k)(h1:m.kind≠1)(h2:m.kind≠2):∀k,k<4->(0,0)=m.v k:=fun k hk=>((hv k hk).2.2 h1 h2).symm
theorem rq{m:Mb}(h3:m.kind≠3)(h4:m.kind≠4):alone m=false:=decide_eq_false (by omega)
theorem Qp{S R:bm}(hR:Rel S R){m:Mb}{mb:Int}(hf:ln S m)(h0:m.kind=0){X B:List Bool}(hp:X++az S m <+: B):oL (aX S mb m.v) (X++az S m) m (bD mb (eP R B (X.length,false))):=by
 rw[kU hR hf hp]
 have h:=zp hR hf
 rw[dV (by omega)]at h
 have hv:=yu hf.vecs (by omega) (by omega)
 exact⟨Bz h (fun k=>by rw[h.cols];exact pY h.M _ _ hv k),rfl,rfl,rfl,hv,(hf.edge (rq (by omega) (by omega))).symm,fun _=>rfl⟩
theorem Qq{S R:bm}(hR:Rel S R)(hT:cj S.M){m:Mb}{mb:Int}(hf:ln S m)(h1:m.kind=1){X B:List Bool}(hp:(au m mb (S,X++az S m) 0).2 <+: B):oL (aX (au m mb (S,X++az S m) 0).1 mb m.v) (au m mb (S,X++az S m) 0).2 m (bD mb (ch B mb (eP R B (X.length,false)))):=by
 have hp1:X++az S m <+: B:=(List.prefix_append _ _).trans hp
 have h:=zp hR hf
 rw[dV (by omega)]at h
 have hv:=He hf.vecs (by omega)
 have e:oC B (b9 R.M R.cols R.rows mb 0) ((X++az S m).length,false)=(m.v 0,((au m mb (S,X++az S m) 0).2.length,false)):=by
  rw[hR.cols,hR.rows,pZ hR.M]
  exact JG (dk hT) (hf.vecs 0 (by omega)).1 hp
 rw[kU hR hf hp1]
 unfold ch
 rw[if_pos h1]
 show oL _ _ _ (bD mb ⟨{ly with kind:=m.kind,qp:=m.qp,v:=fun _=>(oC B (b9 R.M R.cols R.rows mb 0) ((X++az S m).length,false)).1},{R with qp:=m.qp},(oC B (b9 R.M R.cols R.rows mb 0) ((X++az S m).length,false)).2⟩)
 rw[e]
 exact⟨Bz (S:=S) h (fun k=>by rw[h.cols];exact zM h.M _ _ hv _ k),rfl,rfl,rfl,hv,(hf.edge (rq (by omega) (by omega))).symm,fun _=>rfl⟩
theorem sg{x:bm×List Bool}{z:gh}(hR:Rel x.1 z.S)(hT:cj x.1.M){m:Mb}{mb:Int}{k:Nat}(hr:dH (m.v k)=true){B:List Bool}(hz:z.r=(x.2.length,false))(hp:(au m mb x k).2 <+: B) :
 Rel (au m mb x k).1 (rj B mb z k).S/\(rj B mb z k).r=((au m mb x k).2.length,false)/\(rj B mb z k).m = {z.m with v:=km z.m.v k (m.v k)}:=by
 rw[Kr hR hT hr hz hp]
 exact⟨EK hR mb k (m.v k),rfl,rfl⟩
theorem Qr{S R:bm}(hR:Rel S R)(hT:cj S.M){m:Mb}(hm:iK m){mb:Int}(hf:ln S m)(h2:m.kind=2){X B:List Bool}(hp:(au m mb (au m mb (au m mb (au m mb (S,X++az S m) 0) 1) 2) 3).2 <+: B):oL (aX (au m mb (au m mb (au m mb (au m mb (S,X++az S m) 0) 1) 2) 3).1 mb m.v) (au m mb (au m mb (au m mb (au m mb (S,X++az S m) 0) 1) 2) 3).2 m (bD mb (ch B mb (eP R B (X.length,false)))):=by
 have p3:(au m mb (au m mb (au m mb (S,X++az S m) 0) 1) 2).2 <+: B:=(List.prefix_append _ _).trans hp
 have p2:(au m mb (au m mb (S,X++az S m) 0) 1).2 <+: B:=(List.prefix_append _ _).trans p3
 have p1:(au m mb (S,X++az S m) 0).2 <+: B:=(List.prefix_append _ _).trans p2
 have p0:X++az S m <+: B:=(List.prefix_append _ _).trans p1
 have h:=zp hR hf
 rw[dV (by omega)]at h
 rw[kU hR hf p0]
 unfold ch
 rw[if_neg (by show¬m.kind=1;omega),if_pos h2]
 obtain⟨z0,hz0⟩:∃z0:gh,(⟨{ly with kind:=m.kind,qp:=m.qp},{R with qp:=m.qp},((X++az S m).length,false)⟩:gh)=z0:=⟨_,rfl⟩
 have i0:Rel (S,X++az S m).1 z0.S:=by rw[<-hz0];exact h
 have i1:z0.r=((S,X++az S m).2.length,false):=by rw[<-hz0]
 have i2:z0.m = {ly with kind:=m.kind,qp:=m.qp}:=by rw[<-hz0]
 rw[hz0]
 clear hz0
 have s0:=sg (k:=0) i0 hT (hf.vecs 0 (by omega)).1 i1 p1
 have T1:=bL (cols:=S.cols) (mb:=mb) (k:=0) hT (hm.v 0)
 have s1:=sg (k:=1) s0.1 T1 (hf.vecs 1 (by omega)).1 s0.2.1 p2
 have T2:=bL (cols:=S.cols) (mb:=mb) (k:=1) T1 (hm.v 1)
 have s2:=sg (k:=2) s1.1 T2 (hf.vecs 2 (by omega)).1 s1.2.1 p3
 have T3:=bL (cols:=S.cols) (mb:=mb) (k:=2) T2 (hm.v 2)
 have s3:=sg (k:=3) s2.1 T3 (hf.vecs 3 (by omega)).1 s2.2.1 hp
 obtain⟨z3,hz3⟩:∃z3,rj B mb (rj B mb (rj B mb (rj B mb z0 0) 1) 2) 3=z3:=⟨_,rfl⟩
 have em:z3.m = {ly with kind:=m.kind,qp:=m.qp,v:=km (km (km (km ly.v 0 (m.v 0)) 1 (m.v 1)) 2 (m.v 2)) 3 (m.v 3)}:=by
  rw[<-hz3,s3.2.2,s2.2.2,s1.2.2,s0.2.2,i2]
 have hv:∀k,k<4->z3.m.v k=m.v k:=fun k hk=>by
  rw[em]
  match k,hk with
  | 0,_=>rfl
  | 1,_=>rfl
  | 2,_=>rfl
  | 3,_=>rfl
 rw[hz3]at s3 ⊢
 exact⟨Bz s3.1 (fun k=>by rw[s3.1.cols];exact pY s3.1.M _ _ hv k),s3.2.1,by show z3.m.kind=_;rw[em],by show z3.m.qp=_;rw[em],hv,by show z3.m.edge=_;rw[em];exact(hf.edge (rq (by omega) (by omega))).symm,fun i=>by show z3.m.lev i=0;rw[em];rfl⟩
theorem Qs{S R:bm}(hR:Rel S R){m:Mb}{mb:Int}(hf:ln S m)(h34:m.kind=3\/m.kind=4){X B:List Bool}(hp:(X++az S m)++[m.edge] <+: B):oL (aX (fy S m) mb m.v) ((X++az S m)++[m.edge]) m (bD mb (ch B mb (eP R B (X.length,false)))):=by
 have p0:X++az S m <+: B:=(List.prefix_append _ _).trans hp
 have h:=zp hR hf
 rw[kU hR hf p0]
 have hr:=EJ hp
 rw[E0 (by show¬m.kind=1;omega) (by show¬m.kind=2;omega)]
 rw[hr.1,hr.2]
 have hv:=yu hf.vecs (by omega) (by omega)
 exact⟨Bz h (fun k=>by rw[h.cols];exact pY h.M _ _ hv k),rfl,rfl,rfl,hv,rfl,fun _=>rfl⟩
theorem AZ{S R:bm}(hR:Rel S R)(hT:cj S.M){m:Mb}(hm:iK m){mb:Int}(hf:ln S m)(h0:m.kind≠0){X B:List Bool}(hp:(bC S X m mb).2 <+: B):oL (bC S X m mb).1 (bC S X m mb).2 m (bD mb (ch B mb (eP R B (X.length,false)))):=by
 have hk:=hf.kind
 unfold bC at hp ⊢
 rw[if_neg h0]at hp ⊢
 split at hp
 ·rename_i h1
  rw[if_pos h1]
  exact Qq hR hT hf h1 hp
 ·rename_i h1
  rw[if_neg h1]
  split at hp
  ·rename_i h2
   rw[if_pos h2]
   exact Qr hR hT hm hf h2 hp
  ·rename_i h2
   rw[if_neg h2]
   exact Qs hR hf (by omega) hp
theorem gv{m:Mb}{mb:Int}{x0:oD}{k:Nat}{x:oD}(h:fJ m mb x0 (k+1)=some x):∃y r,fJ m mb x0 k=some y/\fW m y.S mb k=some r/\x=cC m mb k y (nr m y.S mb k r):=by
 rw[fJ]at h
 obtain⟨y,hy,h2⟩:=Option.bind_eq_some_iff.1 h
 obtain⟨r,hr,h3⟩:=Option.map_eq_some_iff.1 h2
 exact⟨y,r,hy,hr,h3.symm⟩
structure HI(m:Mb)(k:Nat)(x:oD)(z:gh):Prop where
 rel:Rel x.S z.S
 r:z.r=(x.B.length,false)
 kind:z.m.kind=m.kind
 qp:z.m.qp=m.qp
 v:∀j,j<4->z.m.v j=m.v j
 edge:z.m.edge=m.edge
 lev:∀i,z.m.lev i=if i%64=0/\i<64*k then m.lev i else 0
theorem sJ{m:Mb}{mb:Int}(ha:alone m=true)(hg:jE m){x0:oD}{z:gh}(hz:oL x0.S x0.B m z){B:List Bool}:∀k,k<=6->∀x,fJ m mb x0 k=some x->x.B <+: B->HI m k x (da B mb z k):=by
 intro k
 induction k with
 | zero=>
   intro _ x hx hp
   cases hx
   exact⟨hz.rel,hz.r,hz.kind,hz.qp,hz.v,hz.edge,fun i=>by rw[if_neg (by omega)];exact hz.lev i⟩
 | succ k ih=>
   intro hk x hx hp
   obtain⟨y,r,hy,hr,rfl⟩:=gv hx
   have eB:(cC m mb k y (nr m y.S mb k r)).B=y.B++bY (aK m k 0-(a_ y.S mb k m.qp).2):=if_pos ha
   have eS:(cC m mb k y (nr m y.S mb k r)).S=bu y.S mb k ⟨aK m k,m.qp⟩:=if_pos ha
   rw[eB]at hp
   have h:=ih (by omega) y hy ((List.prefix_append _ _).trans hp)
   obtain⟨w,hw⟩:∃w,da B mb z k=w:=⟨_,rfl⟩
   rw[hw]at h
   have hd:=My (mK hg (S:=y.S) (mb:=mb) ha (by omega)) hp
   rw[<-h.r]at hd
   have e0:aK m k 0=m.lev (k*64):=by unfold aK;rw[Nat.add_zero]
   have hl:=hg.first ha k (by omega)
   have ev:AO B mb w k=m.lev (k*64):=by
    unfold AO
    rw[hd,h.qp,BU h.rel,e0]
    show(a_ y.S mb k m.qp).2+(m.lev (k*64)-(a_ y.S mb k m.qp).2)=m.lev (k*64)
    omega
   have hb:¬sI B mb w k:=by unfold sI;rw[ev];omega
   have el:oY B mb w k=m.lev (k*64):=by unfold oY;rw[if_neg hb,ev]
   show HI m (k+1) _ (oo B mb (da B mb z k) k)
   rw[hw]
   have eq1:kq ⟨aK (K9 B mb w k) k,(K9 B mb w k).qp⟩=kq ⟨aK m k,m.qp⟩:=by
    have e1:aK (K9 B mb w k) k 0=m.lev (k*64):=by
     show cw w.m.lev (k*64) (oY B mb w k) (k*64+0)=m.lev (k*64)
     rw[el];unfold cw;rw[if_pos (Nat.add_zero _)]
    show(aK (K9 B mb w k) k 0,w.m.qp)=(aK m k 0,m.qp)
    rw[e1,e0,h.qp]
   refine⟨?_,?_,h.kind,h.qp,h.v,h.edge,?_⟩
   ·rw[eS]
    exact Kv h.rel mb k eq1
   ·rw[eB]
    show(if sI B mb w k then((eI B w.r).2.1,true)else(eI B w.r).2)=_
    rw[if_neg hb,hd]
   ·intro i
    show cw w.m.lev (k*64) (oY B mb w k) i=_
    rw[el]
    unfold cw
    by_cases hi:i=k*64
    ·rw[if_pos hi,if_pos (by omega),hi]
    ·rw[if_neg hi,h.lev i]
     by_cases h2:i%64=0/\i<64*k
     ·rw[if_pos h2,if_pos (by omega)]
     ·rw[if_neg h2,if_neg (by omega)]
theorem uI{m:Mb}{mb:Int}(ha:alone m=false){x0:oD}:∀k x,fJ m mb x0 k=some x->x.S=x0.S/\x.B=x0.B:=by
 intro k
 induction k with
 | zero=>intro x hx;cases hx;exact⟨rfl,rfl⟩
 | succ k ih=>
   intro x hx
   obtain⟨y,r,hy,hr,rfl⟩:=gv hx
   have h:=ih y hy
   have eB:(cC m mb k y (nr m y.S mb k r)).B=y.B:=if_neg (by rw[ha];decide)
   have eS:(cC m mb k y (nr m y.S mb k r)).S=y.S:=if_neg (by rw[ha];decide)
   rw[eB,eS];exact h
theorem Mr:∀(a:Fin 16) (k j:Fin 4),decide (w_ .i64 (kA (a.val:Int) (k.val:Int)) (8/2^j.val)≠0)=(decide (j=k)||decide (w_ .i64 (a.val:Int) (8/2^j.val)≠0)):=by decide +kernel
theorem LA:∀(a:Fin 4) (k j:Fin 2),decide (w_ .u64 (kx (a.val:Int) ((k.val+4:Nat):Int)) (2/2^j.val)≠0)=(decide (j=k)||decide (w_ .u64 (a.val:Int) (2/2^j.val)≠0)):=by decide +kernel
theorem L5{a c:Int}(h:0<=a/\a<16){k j:Nat}(hk:k<4)(hj:j<6):j6 (kA a k) c j=(decide (j=k)||j6 a c j):=by
 unfold j6
 by_cases h4:j<4
 ·rw[if_pos h4,if_pos h4]
  have:=Mr ⟨a.toNat,by omega⟩ ⟨k,hk⟩ ⟨j,h4⟩
  simp only[Int.toNat_of_nonneg h.1,Fin.mk.injEq]at this
  exact this
 ·rw[if_neg h4,if_neg h4,decide_eq_false (by omega:¬j=k),Bool.false_or]
theorem L3{a c:Int}(h:0<=c/\c<4){k j:Nat}(hk4:¬k<4)(hk:k<6)(hj:j<6):j6 a (kx c k) j=(decide (j=k)||j6 a c j):=by
 unfold j6
 by_cases h4:j<4
 ·rw[if_pos h4,if_pos h4,decide_eq_false (by omega:¬j=k),Bool.false_or]
 ·rw[if_neg h4,if_neg h4]
  have:=LA ⟨c.toNat,by omega⟩ ⟨k-4,by omega⟩ ⟨j-4,by omega⟩
  simp only[Int.toNat_of_nonneg h.1,Fin.mk.injEq,show k-4+4=k by omega]at this
  rw[this]
  congr 1
  exact decide_eq_decide.2 (by omega)
structure PY(x:oD):Prop where
 pat:0<=x.pat/\x.pat<16
 col:0<=x.col/\x.col<4
 has:∀j,j<6->j6 x.pat x.col j=decide (0<(x.ev j).length)
theorem Ep{m:Mb}{mb:Int}{S:bm}{X:List Bool}:∀k,k<=6->∀x,fJ m mb ⟨S,X,0,0,fun _=>[]⟩ k=some x->PY x/\∀j,k<=j->x.ev j = []:=by
 intro k
 induction k with
 | zero=>
   intro _ x hx
   cases hx
   refine⟨⟨by show(0:Int)<=0/\(0:Int)<16;decide,by show(0:Int)<=0/\(0:Int)<4;decide,?_⟩,fun _ _=>rfl⟩
   have:∀j:Fin 6,j6 0 0 j.val=false:=by decide
   intro j hj
   exact this ⟨j,hj⟩
 | succ k ih=>
   intro hk x hx
   obtain⟨y,r,hy,hr,rfl⟩:=gv hx
   obtain⟨h,hn⟩:=ih (by omega) y hy
   obtain⟨ev,hev⟩:∃ev,nr m y.S mb k r=ev:=⟨_,rfl⟩
   rw[hev]
   refine⟨⟨?_,?_,?_⟩,?_⟩
   ·show 0<=(if 0<ev.length/\k<4 then kA y.pat k else y.pat)/\(if 0<ev.length/\k<4 then kA y.pat k else y.pat)<16
    split
    ·rename_i g;exact Bq h.pat g.2
    ·exact h.pat
   ·show 0<=(if 0<ev.length/\¬k<4 then kx y.col k else y.col)/\(if 0<ev.length/\¬k<4 then kx y.col k else y.col)<4
    split
    ·rename_i g;exact AG h.col g.2 (by omega)
    ·exact h.col
   ·intro j hj
    show j6 (if 0<ev.length/\k<4 then kA y.pat k else y.pat) (if 0<ev.length/\¬k<4 then kx y.col k else y.col) j=decide (0<(if j=k then ev else y.ev j).length)
    have e2:j6 (if 0<ev.length/\k<4 then kA y.pat k else y.pat) (if 0<ev.length/\¬k<4 then kx y.col k else y.col) j=(decide (j=k/\0<ev.length)||j6 y.pat y.col j):=by
     by_cases he:0<ev.length
     ·by_cases h4:k<4
      ·rw[if_pos ⟨he,h4⟩,if_neg (fun g=>g.2 h4),L5 h.pat h4 hj]
       congr 1;exact decide_eq_decide.2 ⟨fun g=>⟨g,he⟩,fun g=>g.1⟩
      ·rw[if_neg (fun g=>h4 g.2),if_pos ⟨he,h4⟩,L3 h.col h4 (by omega) hj]
       congr 1;exact decide_eq_decide.2 ⟨fun g=>⟨g,he⟩,fun g=>g.1⟩
     ·rw[if_neg (fun g=>he g.1),if_neg (fun g=>he g.1),decide_eq_false (fun g=>he g.2),Bool.false_or]
    rw[e2]
    by_cases hjk:j=k
    ·subst hjk
     rw[h.has j hj,hn j (Nat.le_refl _),if_pos rfl,decide_eq_false (show¬0<([]:List Ev).length from Nat.lt_irrefl 0),Bool.or_false]
     exact decide_eq_decide.2 ⟨fun g=>g.2,fun g=>⟨rfl,g⟩⟩
    ·rw[if_neg hjk,decide_eq_false (fun g=>hjk g.1),Bool.false_or]
     exact h.has j hj
   ·intro j hj
    show(if j=k then ev else y.ev j) = []
    rw[if_neg (by omega)]
    exact hn j (by omega)
noncomputable def hJ(S:bm)(X bw:List Bool)(m:Mb)(mb:Int):Option (bm×List Bool×List Bool):=
 if m.kind=0 then some (aX S mb m.v,X++az S m,bw)else(fJ m mb ⟨(bC S X m mb).1,(bC S X m mb).2,0,0,fun _=>[]⟩ 6).map fun x=>(x.S,fj x,dq bw x 6)
noncomputable def tS(S:bm)(X:List Bool)(m:Mb)(mb:Int)(k:Nat):List Ev:=
 if m.kind=0 then []else match fJ m mb ⟨(bC S X m mb).1,(bC S X m mb).2,0,0,fun _=>[]⟩ 6 with
  | some x=>x.ev k
  | none=>[]
theorem yn{S R:bm}(hR:Rel S R)(hT:cj S.M){m:Mb}(hg:jE m){mb:Int}(hf:ln S m){X bw B:List Bool}{S':bm}{X' bw':List Bool}(hput:hJ S X bw m mb=some (S',X',bw'))(hp:X' <+: B) :
 (b_ R B mb (X.length,false)).1.r=(X'.length,false)/\Rel S' (b_ R B mb (X.length,false)).1.S/\xp m (b_ R B mb (X.length,false)).1.m/\∀k,k<6->(b_ R B mb (X.length,false)).2 k=decide (0<(tS S X m mb k).length):=by
 unfold hJ at hput
 unfold b_
 by_cases h0:m.kind=0
 ·rw[if_pos h0]at hput
  have e:=Option.some.inj hput
  have e1:=(Prod.mk.inj e).1
  have e2:=(Prod.mk.inj (Prod.mk.inj e).2).1
  subst e1 e2
  have h:=Qp (mb:=mb) hR hf h0 hp
  have hk:(eP R B (X.length,false)).m.kind=0:=by rw[kU hR hf hp];exact h0
  unfold Kp
  rw[if_pos hk]
  refine⟨h.r,h.rel,⟨h.kind,h.qp,h.v,h.edge,fun i=>?_⟩,fun k _=>?_⟩
  ·rw[if_neg (fun g=>by have:=g.1;rw[rq (by omega) (by omega)]at this;cases this)]
   exact h.lev i
  ·unfold tS
   rw[if_pos h0]
   rfl
 ·rw [if_neg h0]at hput
  obtain⟨x,hx,e⟩:=Option.map_eq_some_iff.1 hput
  have e1:=(Prod.mk.inj e).1
  have e2:=(Prod.mk.inj (Prod.mk.inj e).2).1
  have e3:=(Prod.mk.inj (Prod.mk.inj e).2).2
  subst e1 e2 e3
  unfold fj at hp
  have hp1:x.B++c9 cP x.pat.toNat <+: B:=(List.prefix_append _ _).trans hp
  have hp2:x.B <+: B:=(List.prefix_append _ _).trans hp1
  obtain⟨hho,_⟩:=Ep 6 (Nat.le_refl _) x hx
  have hev:∀k,tS S X m mb k=x.ev k:=fun k=>by unfold tS;rw[if_neg h0,hx]
  have hpre:(bC S X m mb).2 <+: x.B:=by
   have:∀k x,fJ m mb ⟨(bC S X m mb).1,(bC S X m mb).2,0,0,fun _=>[]⟩ k=some x->(bC S X m mb).2 <+: x.B:=by
    intro k
    induction k with
    | zero=>intro x hx;cases hx;exact List.prefix_refl _
    | succ k ih=>
      intro x hx
      obtain⟨y,r,hy,hr,rfl⟩:=gv hx
      refine(ih y hy).trans ?_
      show y.B <+: (if alone m=true then y.B++_ else y.B)
      split
      ·exact List.prefix_append _ _
      ·exact List.prefix_refl _
   exact this 6 x hx
  have hh:=AZ hR hT hg.ok hf h0 (hpre.trans hp2)
  have hk:(eP R B (X.length,false)).m.kind≠0:=by
   have:X++az S m <+: B:=by
    refine List.IsPrefix.trans ?_ (hpre.trans hp2)
    unfold bC
    rw[if_neg h0]
    split
    ·exact List.prefix_append _ _
    ·split
     ·exact(((List.prefix_append _ _).trans (List.prefix_append _ _)).trans (List.prefix_append _ _)).trans (List.prefix_append _ _)
     ·exact List.prefix_append _ _
   rw[kU hR hf this];exact h0
  obtain⟨z,hz⟩:∃z,bD mb (ch B mb (eP R B (X.length,false)))=z:=⟨_,rfl⟩
  rw[hz]at hh
  have hrun:HI m (if alone m=true then 6 else 0) x (b6 B mb z):=by
   unfold b6
   have eal:alone z.m=alone m:=by unfold alone;rw[hh.kind]
   rw[eal]
   by_cases ha:alone m=true
   ·rw[if_pos ha,if_pos ha]
    exact sJ ha hg (x0:=⟨(bC S X m mb).1,(bC S X m mb).2,0,0,fun _=>[]⟩) hh 6 (Nat.le_refl _) x hx hp2
   ·have ha':alone m=false:=by simpa using ha
    have hs:=uI ha' 6 x hx
    rw[if_neg ha,if_neg ha]
    exact⟨by rw[hs.1];exact hh.rel,by rw[hs.2];exact hh.r,hh.kind,hh.qp,hh.v,hh.edge,fun i=>by rw[if_neg (by omega)];exact hh.lev i⟩
  unfold Kp
  rw[if_neg hk,hz]
  obtain⟨w,hw⟩:∃w,b6 B mb z=w:=⟨_,rfl⟩
  rw[hw]at hrun ⊢
  have hpt:=Mz (n:=x.pat.toNat) (by have:=hho.pat;omega) hp1
  rw[Int.toNat_of_nonneg hho.pat.1]at hpt
  have hcl:=EI (k:=2) ⟨hho.col.1,hho.col.2⟩ hp
  unfold v9
  rw[hrun.r,hpt]
  simp only[]
  rw[hcl]
  refine⟨rfl,hrun.rel,⟨hrun.kind,hrun.qp,hrun.v,hrun.edge,fun i=>?_⟩,fun k hk=>?_⟩
  ·show w.m.lev i=_
   rw[hrun.lev i]
   by_cases ha:alone m=true
   ·rw[if_pos ha]
    by_cases g:i%64=0/\i<64*6
    ·rw[if_pos g,if_pos ⟨ha,g.1,by omega⟩]
    ·rw[if_neg g,if_neg (fun h=>g ⟨h.2.1,by omega⟩)]
   ·rw[if_neg ha,if_neg (by omega),if_neg (fun h=>ha h.1)]
  ·rw[hev k]
   exact hho.has k hk
theorem M4{S:bm}{B bw:List Bool}{m:Mb}{mb:Int}(hP:lS S B bw m mb){S':bm}{B' bw':List Bool}(h:hJ S B bw m mb=some (S',B',bw')) :
 bh Tryz.prog 29 [.one (.ptr 2 0),.one (.ptr 0 0),.one (.ptr 22 0),.one (.int .i64 mb),.agg (mC m)] (aN 1 B::aq B::(ep S++[aN 23 bw,aq bw])) (.one (.int .i64 0)) (aN 24 B' :: .dead::(ep S'++[aN 25 bw',.dead,aq B',aq bw'])):=by
 have hk:=hP.good.kind
 have hk0:=hP.good.ok.kind
 unfold hJ at h
 by_cases h0:m.kind=0
 ·rw[if_pos h0]at h
  cases Option.some.inj h
  exact QK hP h0
 ·rw [if_neg h0]at h
  obtain⟨x,hx,e⟩:=Option.map_eq_some_iff.1 h
  cases e
  unfold bC at hx
  by_cases h1:m.kind=1
  ·rw[if_neg h0,if_pos h1]at hx
   exact QL hP h1 x hx
  ·by_cases h2:m.kind=2
   ·rw[if_neg h0,if_neg h1,if_pos h2]at hx
    exact QM hP h2 x hx
   ·rw[if_neg h0,if_neg h1,if_neg h2]at hx
    by_cases h3:m.kind=3
    ·rw[dV (by omega)]at hx
     exact QN hP h3 x hx
    ·have h4:m.kind=4:=by omega
     rw[o_ h4]at hx
     exact QO hP h4 x hx
theorem J9{S:bm}{B bw:List Bool}{m:Mb}{mb:Int}(hP:lS S B bw m mb)(h:hJ S B bw m mb=none) :
 bh Tryz.prog 29 [.one (.ptr 2 0),.one (.ptr 0 0),.one (.ptr 22 0),.one (.int .i64 mb),.agg (mC m)] (aN 1 B::aq B::(ep S++[aN 23 bw,aq bw])) (.one (.int .i64 2)) om:=by
 have hk:=hP.good.kind
 have hk0:=hP.good.ok.kind
 unfold hJ at h
 by_cases h0:m.kind=0
 ·rw[if_pos h0]at h
  cases h
 ·rw [if_neg h0]at h
  have hx:=Option.map_eq_none_iff.1 h
  unfold bC at hx
  by_cases h1:m.kind=1
  ·rw[if_neg h0,if_pos h1]at hx
   exact Po hP h1 hx
  ·by_cases h2:m.kind=2
   ·rw[if_neg h0,if_neg h1,if_pos h2]at hx
    exact Pp hP h2 hx
   ·rw[if_neg h0,if_neg h1,if_neg h2]at hx
    by_cases h3:m.kind=3
    ·rw[dV (by omega)]at hx
     exact Pq hP h3 hx
    ·have h4:m.kind=4:=by omega
     rw[o_ h4]at hx
     exact Pr hP h4 hx
theorem Dk{S:bm}{B bw:List Bool}{m:Mb}{mb:Int}(hP:lS S B bw m mb){S':bm}{B' bw':List Bool}(h:hJ S B bw m mb=some (S',B',bw')){HS:aj}{i k j g N:Nat}(hi:HS[i]? = some (aN k B))(hk:HS[k]? = some (aq B))(hS:HS.take 13=dU)(hN:(HS.drop N).take 7=zC S N)(hj:HS[j]? = some (aN g bw))(hg:HS[g]? = some (aq bw))
 (hnd:(i::k::lB N [j,g]).Nodup) {M:Nat}(hM:HS.length=M) {HS':aj}(hh:bK HS [i,k,N,0,1,2,3,4,5,6,7,8,9,10,11,12,N+1,N+2,N+3,N+4,N+5,N+6,j,g] [aN M B',.dead,Hx S' N,bM 1 5 9,aw 2 3 4 cM,aR cM,aT cM,aS cM,aw 6 7 8 cZ,aR cZ,aT cZ,aS cZ,aw 10 11 12 cP,aR cP,aT cP,aS cP,cn (N+2) S'.cols S'.rows,.map (ba S'.M),Hy S' N,.map (ag S'.A),.map (ag S'.B),.map (ag S'.C),aN (M+1) bw',.dead,aq B',aq bw']=HS') (hbd:Nat.blt HS'.length Mem.bound=true) :
 aG.Sound Tryz.prog ⟨29,[.one (.ptr N 0),.one (.ptr i 0),.one (.ptr j 0),.one (.int .i64 mb),.agg (mC m)],HS,.one (.int .i64 0),HS',i::k::lB N [j,g]⟩:=by
 subst hM
 have h3:=vp i k N [j,g]
 have h16:=rP i k N [j,g]
 have h3':=vp i k N ([j,g]++List.range' HS.length 2)
 have h16':=rP i k N ([j,g]++List.range' HS.length 2)
 have hv:=zE (S:=S) hS hN h3 h16 (ls:=[j,g]) (l:=[aN 23 bw,aq bw]) (ae.ij hj rfl rfl rfl (.flat hg .nil))
 have ho:=gK S 24 (by omega) (l:=[aN 23 bw,aq bw]) (.cons (by simp[ak.b7,XC.ok,aZ]) (.flat .nil))
 have ho':=gK S' 26 (by omega) (l:=[aN 25 bw',.dead,aq B',aq bw']) (.cons (by simp[ak.b7,XC.ok,aZ]) (.flat (.flat (.flat .nil))))
 have hr:=Dw (S:=S') (N:=N) h3' h16' (l:=[aN 25 bw',.dead,aq B',aq bw']) (l':=[aN (HS.length+1) bw',.dead,aq B',aq bw']) (.cons (by simp only[ak.ay,List.map_cons,List.map_nil,XC.ay,aB];rfl) (.flat (.flat (.flat .nil))))
 refine bO (os:=aN HS.length B' :: .dead::M5 S' N [aN (HS.length+1) bw',.dead,aq B',aq bw']) (i::k::lB N [j,g]) (i::k::lB N [j,g]) 2 (M4 hP h) hnd (ae.ij hi rfl rfl rfl (.flat hk hv)) (.cons (by simp[ak.b7,XC.ok,aZ]) (.flat ho)) (.cons (by simp[ak.b7,XC.ok,aZ]) (.flat ho')) rfl (.cons (by show 2<24;omega) (.cons (by show 0<24;omega) (.cons (by show 22<24;omega) (.flat (.flat .nil))))) (.cons rfl (.cons rfl (.cons rfl (.flat (.flat .nil))))) (bE.ok _) (bE.ay _) ?_ (EN ..) rfl hh hbd (.inl rfl)
 exact .cons (by simp only[ak.ay,List.map_cons,List.map_nil,XC.ay,aB];rfl) (.flat hr)
theorem Lt{S:bm}{B bw:List Bool}{m:Mb}{mb:Int}(hP:lS S B bw m mb)(h:hJ S B bw m mb=none){HS:aj}{i k j g N:Nat}(hi:HS[i]? = some (aN k B))(hk:HS[k]? = some (aq B))(hS:HS.take 13=dU)(hN:(HS.drop N).take 7=zC S N)(hj:HS[j]? = some (aN g bw))(hg:HS[g]? = some (aq bw))
 (hnd:(i::k::lB N [j,g]).Nodup) {HS':aj}(hh:bK HS [i,k,N,0,1,2,3,4,5,6,7,8,9,10,11,12,N+1,N+2,N+3,N+4,N+5,N+6,j,g] [.dead,.dead,.dead,bM 1 5 9,aw 2 3 4 cM,aR cM,aT cM,aS cM,aw 6 7 8 cZ,aR cZ,aT cZ,aS cZ,aw 10 11 12 cP,aR cP,aT cP,aS cP,.dead,.dead,.dead,.dead,.dead,.dead,.dead,.dead]=HS') (hbd:Nat.blt HS'.length Mem.bound=true) :
 aG.Sound Tryz.prog ⟨29,[.one (.ptr N 0),.one (.ptr i 0),.one (.ptr j 0),.one (.int .i64 mb),.agg (mC m)],HS,.one (.int .i64 2),HS',i::k::lB N [j,g]⟩:=by
 have h3:=vp i k N [j,g]
 have h16:=rP i k N [j,g]
 have ht2:nth ((i::k::lB N [j,g])++List.range' HS.length 0)=nth (i::k::lB N [j,g]):=by
  rw[List.range'_zero,List.append_nil]
 have hv:=zE (S:=S) hS hN h3 h16 (ls:=[j,g]) (l:=[aN 23 bw,aq bw]) (ae.ij hj rfl rfl rfl (.flat hg .nil))
 have ho:=gK S 24 (by omega) (l:=[aN 23 bw,aq bw]) (.cons (by simp[ak.b7,XC.ok,aZ]) (.flat .nil))
 have hk':bc 24 om:=by
  refine .flat (.flat (.flat (.cons ?_ (.cons ?_ (.flat (.flat (.flat (.cons ?_ (.flat (.flat (.flat (.cons ?_ (.flat (.flat (.flat (.flat (.flat (.flat (.flat (.flat (.flat (.flat (.flat .nil)))))))))))))))))))))))
  all_goals simp[ak.b7,XC.ok]
 refine bO (os:=[.dead,.dead,.dead,bM 1 5 9,aw 2 3 4 cM,aR cM,aT cM,aS cM,aw 6 7 8 cZ,aR cZ,aT cZ,aS cZ,aw 10 11 12 cP,aR cP,aT cP,aS cP,.dead,.dead,.dead,.dead,.dead,.dead,.dead,.dead]) (i::k::lB N [j,g]) (i::k::lB N [j,g]) 0 (J9 hP h) hnd (ae.ij hi rfl rfl rfl (.flat hk hv)) (.cons (by simp[ak.b7,XC.ok,aZ]) (.flat ho)) hk' rfl (.cons (by show 2<24;omega) (.cons (by show 0<24;omega) (.cons (by show 22<24;omega) (.flat (.flat .nil))))) (.cons rfl (.cons rfl (.cons rfl (.flat (.flat .nil))))) (bE.ok _) (bE.ay _) ?_ (BC ..) rfl hh hbd (.inl rfl)
 rw[ht2]
 have a1:nth (i::k::lB N [j,g]) 4=1:=h3 1 (by decide)
 have a2:nth (i::k::lB N [j,g]) 5=2:=h3 2 (by decide)
 have a3:nth (i::k::lB N [j,g]) 6=3:=h3 3 (by decide)
 have a4:nth (i::k::lB N [j,g]) 7=4:=h3 4 (by decide)
 have a5:nth (i::k::lB N [j,g]) 8=5:=h3 5 (by decide)
 have a6:nth (i::k::lB N [j,g]) 9=6:=h3 6 (by decide)
 have a7:nth (i::k::lB N [j,g]) 10=7:=h3 7 (by decide)
 have a8:nth (i::k::lB N [j,g]) 11=8:=h3 8 (by decide)
 have a9:nth (i::k::lB N [j,g]) 12=9:=h3 9 (by decide)
 have b0:nth (i::k::lB N [j,g]) 13=10:=h3 10 (by decide)
 have b1:nth (i::k::lB N [j,g]) 14=11:=h3 11 (by decide)
 have b2:nth (i::k::lB N [j,g]) 15=12:=h3 12 (by decide)
 refine .flat (.flat (.flat (.cons ?_ (.cons ?_ (.flat (.flat (.flat (.cons ?_ (.flat (.flat (.flat (.cons ?_ (.flat (.flat (.flat (.flat (.flat (.flat (.flat (.flat (.flat (.flat (.flat .nil)))))))))))))))))))))))
 ·simp only[ak.ay,List.map_cons,List.map_nil,XC.ay,a1,a5,a9]
 ·simp only[ak.ay,List.map_cons,List.map_nil,XC.ay,a2,a3,a4]
 ·simp only[ak.ay,List.map_cons,List.map_nil,XC.ay,a6,a7,a8]
 ·simp only[ak.ay,List.map_cons,List.map_nil,XC.ay,b0,b1,b2]
theorem rG{S:bm}{m:Mb}(hm:iK m)(hf:ln S m):jE m:=
 ⟨hm,hf.kind.2,fun i hi=>(hf.lev i hi).2.1,fun ha k hk=>(hf.lev (k*64) (by omega)).2.2 (by omega) ha⟩
theorem FQ{S:bm}{m:Mb}(hf:ln S m):∀k,k<4->dH (m.v k)=true:=fun k hk=>(hf.vecs k hk).1
theorem H4{m:Mb}(hg:jE m){mb:Int}{x0:oD}(h0:Cr m mb x0 (0,x0)):∀k,k<=6->∀x,fJ m mb x0 k=some x->Cr m mb x0 (k,x):=by
 intro k
 induction k with
 | zero=>
   intro _ x hx
   cases hx;exact h0
 | succ k ih=>
   intro hk x hx
   obtain⟨y,r,hy,hr,rfl⟩:=gv hx
   exact mH hg (ih (by omega) y hy) (by show k<6;omega) hr
theorem Fv{m:Mb}{mb:Int}{x0:oD}:∀k x,fJ m mb x0 k=some x->x.S.inter=x0.S.inter/\x.S.qp=x0.S.qp/\x0.B <+: x.B:=by
 intro k
 induction k with
 | zero=>intro x hx;cases hx;exact⟨rfl,rfl,List.prefix_refl _⟩
 | succ k ih=>
   intro x hx
   obtain⟨y,r,hy,hr,rfl⟩:=gv hx
   obtain⟨h1,h2,h3⟩:=ih y hy
   refine⟨?_,?_,?_⟩
   ·show(if alone m=true then bu y.S mb k ⟨aK m k,m.qp⟩else y.S).inter=_
    split<;>exact h1
   ·show(if alone m=true then bu y.S mb k ⟨aK m k,m.qp⟩else y.S).qp=_
    split<;>exact h2
   ·show x0.B <+: (if alone m=true then y.B++_ else y.B)
    split
    ·exact h3.trans (List.prefix_append _ _)
    ·exact h3
structure tk(S:bm)(X:List Bool)(n:Nat)(z:bm×List Bool):Prop where
 st:iX z.1
 cols:z.1.cols=S.cols
 rows:z.1.rows=S.rows
 inter:z.1.inter=S.inter
 qp:z.1.qp=S.qp
 pre:X <+: z.2
 len:z.2.length<=X.length+n
theorem o7{S:bm}{X:List Bool}{n:Nat}{z:bm×List Bool}(h:tk S X n z){m:Mb}(hm:iK m)(mb:Int)(k:Nat):tk S X (n+54) (au m mb z k):=by
 refine⟨⟨h.st.dims,h.st.lev,bL h.st.tiny (hm.v k)⟩,h.cols,h.rows,h.inter,h.qp,h.pre.trans (List.prefix_append _ _),?_⟩
 have:=gN (m.v k) (b9 z.1.M z.1.cols z.1.rows mb k)
 have:=h.len
 show(z.2++cV (m.v k) (b9 z.1.M z.1.cols z.1.rows mb k)).length<=_
 rw[List.length_append];omega
theorem nK{S:bm}{X:List Bool}{n:Nat}{z:bm×List Bool}(h:tk S X n z){m:Mb}(hm:iK m)(mb:Int):tk S X n (aX z.1 mb m.v,z.2):=
 ⟨⟨h.st.dims,h.st.lev,fh h.st.tiny hm.v⟩,h.cols,h.rows,h.inter,h.qp,h.pre,h.len⟩
theorem qN{S:bm}{X:List Bool}{n k:Nat}{z:bm×List Bool}(h:tk S X n z)(hk:n<=k):tk S X k z:=
 ⟨h.st,h.cols,h.rows,h.inter,h.qp,h.pre,by have:=h.len;omega⟩
theorem A5{S:bm}(hS:iX S)(m:Mb):iX (fy S m)/\(fy S m).cols=S.cols/\(fy S m).rows=S.rows/\(fy S m).inter=S.inter/\(fy S m).qp=if m.kind=4 then m.qp else S.qp:=by
 unfold fy
 split
 ·exact⟨⟨hS.dims,hS.lev,hS.tiny⟩,rfl,rfl,rfl,rfl⟩
 ·exact⟨hS,rfl,rfl,rfl,rfl⟩
theorem CX{S:bm}(hS:iX S){m:Mb}(hm:iK m){X:List Bool}{mb:Int}:tk (fy S m) (X++az S m) 216 (bC S X m mb):=by
 have hk:=(A5 hS m).1
 have h0:tk (fy S m) (X++az S m) 0 (fy S m,X++az S m):=⟨hk,rfl,rfl,rfl,rfl,List.prefix_refl _,Nat.le_refl _⟩
 unfold bC
 split
 ·rename_i g
  rw[dV (by omega)]at h0 ⊢
  exact qN (nK h0 hm mb) (by omega)
 ·split
  ·rename_i g
   rw[dV (by omega)]at h0 ⊢
   exact qN (nK (o7 h0 hm mb 0) hm mb) (by omega)
  ·split
   ·rename_i g
    rw[dV (by omega)]at h0 ⊢
    exact qN (nK (o7 (o7 (o7 (o7 h0 hm mb 0) hm mb 1) hm mb 2) hm mb 3) hm mb) (by omega)
   ·have h1:=nK h0 hm mb
    exact⟨h1.st,h1.cols,h1.rows,h1.inter,h1.qp,List.prefix_append _ _,by simp only[List.length_append,List.length_cons,List.length_nil];omega⟩
structure Ra(S:bm)(X bw:List Bool)(m:Mb)(z:bm×List Bool×List Bool):Prop where
 st:iX z.1
 cols:z.1.cols=S.cols
 rows:z.1.rows=S.rows
 inter:z.1.inter=S.inter
 qp:z.1.qp=m.qp
 pre:X++az S m <+: z.2.1
 len:z.2.1.length<=X.length+1000
 lenw:z.2.2.length<=bw.length+20736
theorem x8{S:bm}(hS:iX S){m:Mb}(hm:iK m)(hf:ln S m){X bw:List Bool}{mb:Int}{z:bm×List Bool×List Bool}(h:hJ S X bw m mb=some z):Ra S X bw m z:=by
 have hg:=rG hm hf
 have hh:=CX hS hm (X:=X) (mb:=mb)
 obtain⟨_,k1,k2,k3,k4⟩:=A5 hS m
 have hkl:=f7 S m
 have hq:(if m.kind=4 then m.qp else S.qp)=m.qp:=by
  split
  ·rfl
  ·rename_i h4;exact(hf.qp h4).symm
 rw[hq]at k4
 have hlx:(X++az S m).length<=X.length+66:=by rw[List.length_append];omega
 have hhl:=hh.len
 unfold hJ at h
 by_cases h0:m.kind=0
 ·rw[if_pos h0]at h
  have e:bC S X m mb=(aX S mb m.v,X++az S m):=by unfold bC;rw[if_pos h0]
  rw[e]at hh
  cases Option.some.inj h
  exact⟨hh.st,hh.cols.trans k1,hh.rows.trans k2,hh.inter.trans k3,hh.qp.trans k4,hh.pre,by show(X++az S m).length<=_;omega,Nat.le_add_right _ _⟩
 ·rw[if_neg h0]at h
  obtain⟨x,hx,e⟩:=Option.map_eq_some_iff.1 h
  cases e
  obtain⟨z0,hz0⟩:∃z0,bC S X m mb=z0:=⟨_,rfl⟩
  rw[hz0]at hh hx hhl
  have hi:Cr m mb ⟨z0.1,z0.2,0,0,fun _=>[]⟩ (0,⟨z0.1,z0.2,0,0,fun _=>[]⟩):=⟨Nat.zero_le _,rfl,hh.st,⟨rfl,rfl⟩,Nat.le_refl _,fun _ _=>rfl,fun _ => .inl rfl,by show(0:Int)<=0/\(0:Int)<16;decide,by show(0:Int)<=0/\(0:Int)<4;decide⟩
  have hb:=H4 hg hi 6 (Nat.le_refl _) x hx
  have hr:=Fv 6 x hx
  have hlen:x.B.length<=z0.2.length+76*6:=hb.len
  have hcl:=kS Ef x.pat.toNat
  refine⟨hb.st,hb.cr.1.trans (hh.cols.trans k1),hb.cr.2.trans (hh.rows.trans k2),hr.1.trans (hh.inter.trans k3),hr.2.1.trans (hh.qp.trans k4),?_,?_,?_⟩
  ·exact hh.pre.trans (hr.2.2.trans ((List.prefix_append _ _).trans (List.prefix_append _ _)))
  ·show((x.B++c9 cP x.pat.toNat)++d8 x.col 2).length<=_
   simp only[List.length_append,gF]
   rw[List.length_append]at hlx hhl
   omega
  ·have:=sE (bw:=bw) hb.evs 6
   show(dq bw x 6).length<=_
   omega
structure PS where
 S:bm
 B:List Bool
 w:List Bool
noncomputable def kh(first:Int)(k:Nat)(m:Mb)(x:PS):Int ⊕ PS:=
 if dC m x.S.inter x.S.qp≠0 then .inl (dC m x.S.inter x.S.qp)else match hJ x.S x.B x.w m (first+(k:Nat))with
  | none => .inl 2
  | some z => .inr ⟨z.1,z.2.1,z.2.2⟩
noncomputable def gd(l:List Mb)(first:Int)(x0:PS):Nat->Int ⊕ PS
 | 0 => .inr x0
 | k+1=>match gd l first x0 k with
   | .inl e => .inl e
   | .inr x=>kh first k (l.getD k ly) x
theorem lA{l:List Mb}{first:Int}{x0:PS}{k:Nat}{e:Int}(h:gd l first x0 k = .inl e):∀j,k<=j->gd l first x0 j = .inl e:=by
 intro j hj
 induction hj with
 | refl=>exact h
 | step _ ih=>rw[gd,ih]
structure yN(p:Bool)(c r:Int)(j:Nat)(x:PS):Prop where
 st:iX x.S
 cols:x.S.cols=c
 rows:x.S.rows=r
 inter:x.S.inter=p
 qp : -1000000<=x.S.qp/\x.S.qp<=1000000
 len:x.B.length<=1000*j
 lenw:x.w.length<=20736*j
theorem mU{p:Bool}{c r:Int}{j:Nat}{x y:PS}(h:yN p c r j x){m:Mb}(hm:iK m){first:Int}{k:Nat}(hy:kh first k m x = .inr y):yN p c r (j+1) y:=by
 unfold kh at hy
 split at hy
 ·cases hy
 ·rename_i hc
  have hc0:dC m x.S.inter x.S.qp=0:=Decidable.byContradiction fun g=>hc g
  have hf:=mJ hm hc0
  split at hy
  ·cases hy
  ·rename_i z hz
   cases hy
   have hk:=x8 h.st hm hf hz
   have a:=hk.len
   have b:=hk.lenw
   have a':=h.len
   have b':=h.lenw
   exact⟨hk.st,hk.cols.trans h.cols,hk.rows.trans h.rows,hk.inter.trans h.inter,by rw[hk.qp];exact hm.qp,by show z.2.1.length<=_;omega,by show z.2.2.length<=_;omega⟩
theorem vI{p:Bool}{c r:Int}{j:Nat}{x:PS}(h:yN p c r j x)(hj:j<=20){m:Mb}(hm:iK m){mb:Int}(hmb:0<=mb/\mb<c*r)(hc:dC m x.S.inter x.S.qp=0):lS x.S x.B x.w m mb:=by
 have hf:=mJ hm hc
 have a:=h.len
 have b:=h.lenw
 exact⟨h.st,by rw[h.cols,h.rows];exact hmb,h.qp,rG hm hf,FQ hf,by omega,by omega⟩
instance Q3 (p:Ph) (e:TypeId) (a b:Bool):c8 (.cells (gV p) e a b):=jj rfl
instance RT:Inhabited Mb:=⟨ly⟩
theorem jV:bz Tryz.prog 53 (mC ly):=by
 have h:([.int .u8 0,.int .i64 0,.cplx .f64 0 0,.cplx .f64 0 0,.cplx .f64 0 0,.cplx .f64 0 0,.bool false]++(ti .i64 384 fun _=>0):List XC)=mC ly:=by
  unfold mC ly
  simp only[<-dX]
  rfl
 rw[<-h]
 infer_instance
theorem oT{m:Mb}(hm:iK m){inter:Bool}{was:Int}(hw : -1000000<=was/\was<=1000000){c:Int}(hc:dC m inter was=c){HS:aj}(hb:Nat.blt HS.length Mem.bound=true):aG.Sound Tryz.prog ⟨28,[.agg (mC m),.one (.bool inter),.one (.int .i64 was)],HS,.one (.int .i64 c),HS,[]⟩:=by
 subst hc;exact H_ hm hw hb
structure gp(h:Hd)(p:Ph)(l:List Mb)(first:Int):Prop where
 hd:qd h
 ph:tP p
 mok:∀m∈l,iK m
 pos:0<=first
 many:1<=l.length
 few:l.length<=16
 all:first+(l.length:Nat)<=h.cols*h.rows
abbrev qT(h:Hd)(p:Ph):PS:=⟨dQ h p,[],[]⟩
theorem Br{h:Hd}{p:Ph}(ho:qd h)(hp:tP p):yN p.inter h.cols h.rows 0 (qT h p):=
 ⟨⟨ho.dims,⟨mN,mN,mN⟩,s5⟩,rfl,rfl,rfl,by have:=hp.qp;show -1000000<=p.qp/\p.qp<=1000000;omega,Nat.zero_le _,Nat.zero_le _⟩
theorem pI{l:List Int}(hl:bQ l)(hn:l.length<=100000){q:List Int}(hq:(gS l l.length).1=q){n:Nat}(hln:l.length=n){HS:aj}{i:Nat}(hi:HS[i]? = some (cE 5 (il .u8 l))){N:Nat}(hN:HS.length=N){HS':aj}(hh:HS++[cE 5 (il .u8 q)]=HS')(hb:Nat.blt HS'.length Mem.bound=true) :
 aG.Sound Tryz.prog ⟨30,[hZ i n 1],HS,hZ N q.length 1,HS',[i]⟩:=by
 subst hq
 exact FF hl hn hln hi hN hh hb
theorem sQ{l:List Mb}{first:Int}{x0:PS}{k:Nat}{x:PS}(h:gd l first x0 k = .inr x):gd l first x0 (k+1)=kh first k (l.getD k default) x:=by
 rw[gd,h]
 rfl
theorem sR{first:Int}{k:Nat}{m:Mb}{x:PS}{c:Int}(hc:dC m x.S.inter x.S.qp=c)(h0:c≠0):kh first k m x = .inl c:=by
 subst hc
 exact if_pos h0
theorem sS{first:Int}{k:Nat}{m:Mb}{x:PS}(hc:dC m x.S.inter x.S.qp=0)(h:hJ x.S x.B x.w m (first+(k:Nat))=none):kh first k m x = .inl 2:=by
 unfold kh
 rw[if_neg (fun g=>g hc),h]
theorem qU{first:Int}{k:Nat}{m:Mb}{x:PS}(hc:dC m x.S.inter x.S.qp=0){z:bm×List Bool×List Bool}(h:hJ x.S x.B x.w m (first+(k:Nat))=some z):kh first k m x = .inr ⟨z.1,z.2.1,z.2.2⟩:=by
 unfold kh
 rw[if_neg (fun g=>g hc),h]
theorem Ii{h:Hd}{p:Ph}{l:List Mb}{first:Int}(hT:gp h p l first){cap:tO}{ob:ak}(ho:uy ob mC l){e:Int}(hx:gd l first (qT h p) l.length = .inl e) :
 bh Tryz.prog 11 [.one (.ptr 0 0),.agg (f6 h),.agg (gV p),.one (.int .i64 first),.one (.slice 13 0 l.length cap)] [bM 1 5 9,aw 2 3 4 cM,aR cM,aT cM,aS cM,aw 6 7 8 cZ,aR cZ,aT cZ,aS cZ,aw 10 11 12 cP,aR cP,aT cP,aS cP,ob] (.tup [.one .nils,.one .nils,.one (.int .i64 e)]) [bM 1 5 9,aw 2 3 4 cM,aR cM,aT cM,aS cM,aw 6 7 8 cZ,aR cZ,aT cZ,aS cZ,aw 10 11 12 cP,aR cP,aT cP,aS cP,ob]:=by
 have hfo:=ho.flat
 have h1:=hT.hd.dims.c0
 have h2:=hT.hd.dims.c1
 have h3:=hT.hd.dims.r0
 have h4:=hT.hd.dims.r1
 have hf:=hT.pos
 have hm:=hT.many
 have hm16:=hT.few
 have ha:=hT.all
 have hcr:1<=h.cols*h.rows/\h.cols*h.rows<=64:=jg hT.hd.dims
 refine cO Tryz.func11 ?_
 repeat' (first
  |(refine qz ?_;first
   |refine fG ?_ (hle:=by rw[br])
   |refine cl ?_ (hi:=by exact kT hT.hd rfl)
   |refine cl ?_ (hi:=by exact k9 hT.ph rfl)
   |refine cl ?_ (hi:=by exact mG hT.hd rfl nL nA rfl))
  |refine zz ?_|refine zx (fun _=>?_) (fun _=>?_)|fail)
 refine WX.cU rfl ?_
 refine WX.cU rfl ?_
 refine WX.dw (σ:=Nat×PS) (fun s=>[(3,.one (.int .i64 first)),(7,.one (.ptr 14 0)),(15,.one (.ptr 15 0)),(16,.one (.ptr 22 0)),(17,.one (.ptr 24 0)),(71,.one (.slice 13 0 l.length cap)),(72,.one (.int .i64 (l.length:Nat))),(73,.one (.int .i64 (s.1:Nat)))]) (fun s=>[bM 1 5 9,aw 2 3 4 cM,aR cM,aT cM,aS cM,aw 6 7 8 cZ,aR cZ,aT cZ,aS cZ,aw 10 11 12 cP,aR cP,aT cP,aS cP,ob,.cells (gV p) 28 false false,Hx s.2.S 15,cn 17 s.2.S.cols s.2.S.rows,.map (ba s.2.S.M),Hy s.2.S 15,.map (ag s.2.S.A),.map (ag s.2.S.B),.map (ag s.2.S.C),aN 23 s.2.B,aq s.2.B,aN 25 s.2.w,aq s.2.w]) (fun s=>s.1<=l.length/\gd l first (qT h p) s.1 = .inr s.2/\yN p.inter h.cols h.rows s.1 s.2) (fun s=>l.length-s.1) (0,qT h p) ⟨Nat.zero_le _,rfl,Br hT.hd hT.ph⟩ (fun s _=>lD) (cG [0,1,2,3,4,5,6,7,8,9,10,11,12,13,15,16,17,18,19,20,21,22,23,25,24,26] (obj:=by(repeat' (first|exact ae.nil|refine ae.ij rfl rfl rfl rfl ?_|refine ae.dead rfl ?_|refine ae.flat rfl ?_|refine ae.cons rfl ?_|refine ae.dead rfl ?_|refine ae.cons (by simp only[ak.ay,List.map_cons,List.map_nil,XC.ay,aB];exact rfl) ?_));first|done|fail)) ?_
 intro s ⟨hle,hrun,hs⟩ ih
 by_cases hlt:s.1<l.length
 ·have hmk:iK (l.getD s.1 default):=by
   rw[List.getD_eq_getElem?_getD,List.getElem?_eq_getElem hlt,Option.getD_some]
   exact hT.mok _ (List.getElem_mem hlt)
  have hnx:=sQ hrun
  obtain⟨m,hme⟩:∃m,l.getD s.1 default=m:=⟨_,rfl⟩
  have hme':l.getD (s.1:Int).toNat default=m:=hme
  rw[hme]at hmk hnx
  have hqq:=hs.qp
  have hmb:0<=first+(s.1:Nat)/\first+(s.1:Nat)<h.cols*h.rows:=by omega
  obtain⟨c,hc⟩:∃c,dC m p.inter s.2.S.qp=c:=⟨_,rfl⟩
  have hcS:dC m s.2.S.inter s.2.S.qp=c:=by rw[hs.inter];exact hc
  by_cases hc0:c=0
  ·subst hc0
   have hP:=vI hs (by omega) hmk hmb hcS
   cases hz:hJ s.2.S s.2.B s.2.w m (first+(s.1:Nat))with
   | none=>
     have eN:=(hx.symm.trans (lA (hnx.trans (sS hcS hz)) l.length (by omega)))
     cases eN
     repeat' (first
      |(refine qz ?_;first
       |refine tR (zs:=mC ly) (hz:=jV) ?_
       |refine sL (enc:=mC) ?_
       |refine kj (cs:=mC m) ?_ (hy:=by rw[<-hme'];rfl) (hs1:=by rw[aI]) (hs2:=by rw[aI])
       |refine fG ?_ (hle:=by rw[aI])
       |refine cl ?_ (hi:=by exact oT hmk hqq hc rfl)
       |refine cl ?_ (hi:=by exact Lt hP hz (i:=22) (k:=23) (N:=15) (j:=24) (g:=25) rfl rfl rfl rfl rfl rfl (by decide) nA rfl))
      |refine zz ?_|refine zx (fun _=>?_) (fun _=>?_)|fail)
     show aC _ _ _ _ _ _ _ _;refine kV [0,1,2,3,4,5,6,7,8,9,10,11,12,13] ?_
     rfl
   | some z=>
     have hnx2:=hnx.trans (qU hcS hz)
     repeat' (first
      |(refine qz ?_;first
       |refine tR (zs:=mC ly) (hz:=jV) ?_
       |refine sL (enc:=mC) ?_
       |refine kj (cs:=mC m) ?_ (hy:=by rw[<-hme'];rfl) (hs1:=by rw[aI]) (hs2:=by rw[aI])
       |refine fG ?_ (hle:=by rw[aI])
       |refine cl ?_ (hi:=by exact oT hmk hqq hc rfl)
       |refine cl ?_ (hi:=by exact Dk hP hz (i:=22) (k:=23) (N:=15) (j:=24) (g:=25) rfl rfl rfl rfl rfl rfl (by decide) nL nA rfl))
      |refine zz ?_|refine zx (fun _=>?_) (fun _=>?_)|fail)
     exact ih (s.1+1,⟨z.1,z.2.1,z.2.2⟩) _ _ _ (cG [0,1,2,3,4,5,6,7,8,9,10,11,12,13,14,15,16,17,18,19,20,21,22,27,24,28]) ⟨by show s.1+1<=l.length;omega,hnx2,mU hs hmk (hnx2▸hnx.symm)⟩ (by show l.length-(s.1+1)<l.length-s.1;omega)
  ·have eB:=(hx.symm.trans (lA (hnx.trans (sR hcS hc0)) l.length (by omega)))
   cases eB
   repeat' (first
    |(refine qz ?_;first
     |refine tR (zs:=mC ly) (hz:=jV) ?_
     |refine sL (enc:=mC) ?_
     |refine kj (cs:=mC m) ?_ (hy:=by rw[<-hme'];rfl) (hs1:=by rw[aI]) (hs2:=by rw[aI])
     |refine fG ?_ (hle:=by rw[aI])
     |refine cl ?_ (hi:=by exact oT hmk hqq hc rfl))
    |refine zz ?_|refine zx (fun _=>?_) (fun _=>?_)|fail)
   show aC _ _ _ _ _ _ _ _;refine kV [0,1,2,3,4,5,6,7,8,9,10,11,12,13] ?_
   rfl
 ·have e0:s.1=l.length:=by omega
  rw[e0,hx]at hrun
  cases hrun
theorem LB{h:Hd}{p:Ph}{l:List Mb}{first:Int}(hT:gp h p l first){cap:tO}{ob:ak}(ho:uy ob mC l){x:PS}(hx:gd l first (qT h p) l.length = .inr x){a b:List Int}(hqa:(gS (wr (x.B++[true])) (wr (x.B++[true])).length).1=a)(hqb:(gS (wr (x.w++[true])) (wr (x.w++[true])).length).1=b)(hla:a.length<=30000)(hlb:b.length<=30000) :
 bh Tryz.prog 11 [.one (.ptr 0 0),.agg (f6 h),.agg (gV p),.one (.int .i64 first),.one (.slice 13 0 l.length cap)] [bM 1 5 9,aw 2 3 4 cM,aR cM,aT cM,aS cM,aw 6 7 8 cZ,aR cZ,aT cZ,aS cZ,aw 10 11 12 cP,aR cP,aT cP,aS cP,ob] (.tup [.one (fD 14 a.length 1),.one (fD 15 b.length 1),.one (.int .i64 0)]) [bM 1 5 9,aw 2 3 4 cM,aR cM,aT cM,aS cM,aw 6 7 8 cZ,aR cZ,aT cZ,aS cZ,aw 10 11 12 cP,aR cP,aT cP,aS cP,ob,cE 5 (il .u8 a),cE 5 (il .u8 b)]:=by
 have hfo:=ho.flat
 have h1:=hT.hd.dims.c0
 have h2:=hT.hd.dims.c1
 have h3:=hT.hd.dims.r0
 have h4:=hT.hd.dims.r1
 have hf:=hT.pos
 have hm:=hT.many
 have hm16:=hT.few
 have ha:=hT.all
 have hcr:1<=h.cols*h.rows/\h.cols*h.rows<=64:=jg hT.hd.dims
 refine cO Tryz.func11 ?_
 repeat' (first
  |(refine qz ?_;first
   |refine fG ?_ (hle:=by rw[br])
   |refine cl ?_ (hi:=by exact kT hT.hd rfl)
   |refine cl ?_ (hi:=by exact k9 hT.ph rfl)
   |refine cl ?_ (hi:=by exact mG hT.hd rfl nL nA rfl))
  |refine zz ?_|refine zx (fun _=>?_) (fun _=>?_)|fail)
 refine WX.cU rfl ?_
 refine WX.cU rfl ?_
 refine WX.dw (σ:=Nat×PS) (fun s=>[(3,.one (.int .i64 first)),(7,.one (.ptr 14 0)),(15,.one (.ptr 15 0)),(16,.one (.ptr 22 0)),(17,.one (.ptr 24 0)),(71,.one (.slice 13 0 l.length cap)),(72,.one (.int .i64 (l.length:Nat))),(73,.one (.int .i64 (s.1:Nat)))]) (fun s=>[bM 1 5 9,aw 2 3 4 cM,aR cM,aT cM,aS cM,aw 6 7 8 cZ,aR cZ,aT cZ,aS cZ,aw 10 11 12 cP,aR cP,aT cP,aS cP,ob,.cells (gV p) 28 false false,Hx s.2.S 15,cn 17 s.2.S.cols s.2.S.rows,.map (ba s.2.S.M),Hy s.2.S 15,.map (ag s.2.S.A),.map (ag s.2.S.B),.map (ag s.2.S.C),aN 23 s.2.B,aq s.2.B,aN 25 s.2.w,aq s.2.w]) (fun s=>s.1<=l.length/\gd l first (qT h p) s.1 = .inr s.2/\yN p.inter h.cols h.rows s.1 s.2) (fun s=>l.length-s.1) (0,qT h p) ⟨Nat.zero_le _,rfl,Br hT.hd hT.ph⟩ (fun s _=>lD) (cG [0,1,2,3,4,5,6,7,8,9,10,11,12,13,15,16,17,18,19,20,21,22,23,25,24,26] (obj:=by(repeat' (first|exact ae.nil|refine ae.ij rfl rfl rfl rfl ?_|refine ae.dead rfl ?_|refine ae.flat rfl ?_|refine ae.cons rfl ?_|refine ae.dead rfl ?_|refine ae.cons (by simp only[ak.ay,List.map_cons,List.map_nil,XC.ay,aB];exact rfl) ?_));first|done|fail)) ?_
 intro s ⟨hle,hrun,hs⟩ ih
 by_cases hlt:s.1<l.length
 ·have hmk:iK (l.getD s.1 default):=by
   rw[List.getD_eq_getElem?_getD,List.getElem?_eq_getElem hlt,Option.getD_some]
   exact hT.mok _ (List.getElem_mem hlt)
  have hnx:=sQ hrun
  obtain⟨m,hme⟩:∃m,l.getD s.1 default=m:=⟨_,rfl⟩
  have hme':l.getD (s.1:Int).toNat default=m:=hme
  rw[hme]at hmk hnx
  have hqq:=hs.qp
  have hmb:0<=first+(s.1:Nat)/\first+(s.1:Nat)<h.cols*h.rows:=by omega
  obtain⟨c,hc⟩:∃c,dC m p.inter s.2.S.qp=c:=⟨_,rfl⟩
  have hcS:dC m s.2.S.inter s.2.S.qp=c:=by rw[hs.inter];exact hc
  by_cases hc0:c=0
  ·subst hc0
   have hP:=vI hs (by omega) hmk hmb hcS
   cases hz:hJ s.2.S s.2.B s.2.w m (first+(s.1:Nat))with
   | none=>
     have eN:=(hx.symm.trans (lA (hnx.trans (sS hcS hz)) l.length (by omega)))
     cases eN
   | some z=>
     have hnx2:=hnx.trans (qU hcS hz)
     repeat' (first
      |(refine qz ?_;first
       |refine tR (zs:=mC ly) (hz:=jV) ?_
       |refine sL (enc:=mC) ?_
       |refine kj (cs:=mC m) ?_ (hy:=by rw[<-hme'];rfl) (hs1:=by rw[aI]) (hs2:=by rw[aI])
       |refine fG ?_ (hle:=by rw[aI])
       |refine cl ?_ (hi:=by exact oT hmk hqq hc rfl)
       |refine cl ?_ (hi:=by exact Dk hP hz (i:=22) (k:=23) (N:=15) (j:=24) (g:=25) rfl rfl rfl rfl rfl rfl (by decide) nL nA rfl))
      |refine zz ?_|refine zx (fun _=>?_) (fun _=>?_)|fail)
     exact ih (s.1+1,⟨z.1,z.2.1,z.2.2⟩) _ _ _ (cG [0,1,2,3,4,5,6,7,8,9,10,11,12,13,14,15,16,17,18,19,20,21,22,27,24,28]) ⟨by show s.1+1<=l.length;omega,hnx2,mU hs hmk (hnx2▸hnx.symm)⟩ (by show l.length-(s.1+1)<l.length-s.1;omega)
  ·have eB:=(hx.symm.trans (lA (hnx.trans (sR hcS hc0)) l.length (by omega)))
   cases eB
 ·have e0:s.1=l.length:=by omega
  have hlB:=hs.len
  have hlw:=hs.lenw
  rw[e0,hx]at hrun
  obtain rfl:x=s.2:=Sum.inr.inj hrun
  have hB1:s.2.B.length<=1000000:=by omega
  have hB2:s.2.w.length<=1000000:=by omega
  have hL1:(wr (s.2.B++[true])).length<=100000:=by rw[fQ,List.length_append,List.length_cons,List.length_nil];omega
  have hL2:(wr (s.2.w++[true])).length<=100000:=by rw[fQ,List.length_append,List.length_cons,List.length_nil];omega
  have hY1:=gl (s.2.B++[true])
  have hY2:=gl (s.2.w++[true])
  repeat' (first
   |(refine qz ?_;first
    |refine cl ?_ (hi:=by exact sj (bs:=s.2.B) hB1 (i:=22) (k:=23) rfl rfl (by decide) nL nA rfl)
    |refine cl ?_ (hi:=by exact pI (l:=wr (s.2.B++[true])) hY1 hL1 hqa (n:=((s.2.B++[true]).length+7)/8) (by rw[fQ]) (i:=26) rfl nL nA rfl)
    |refine cl ?_ (hi:=by exact sj (bs:=s.2.w) hB2 (i:=24) (k:=25) rfl rfl (by decide) nL nA rfl)
    |refine cl ?_ (hi:=by exact pI (l:=wr (s.2.w++[true])) hY2 hL2 hqb (n:=((s.2.w++[true]).length+7)/8) (by rw[fQ]) (i:=28) rfl nL nA rfl))
   |refine zz ?_|refine zx (fun _=>?_) (fun _=>?_)|refine bp (by first|exact af.nil|exact af.one _|exact af.mD (by repeat' (first|exact True.intro|refine And.intro ?_ ?_|exact Compat.ne rfl|exact ff rfl))) ⟨by kernel_rfl,?_⟩|refine bp (by first|exact af.nil|exact af.one _|exact af.mD (by repeat' (first|exact True.intro|refine And.intro ?_ ?_|exact Compat.ne rfl|exact ff rfl))) ?_|fail)
  show aC _ _ _ _ _ _ _ _;refine kV [0,1,2,3,4,5,6,7,8,9,10,11,12,13,27,29] ?_
  simp only[XV.ay,List.map_cons,List.map_nil,X1.ay,aB];rfl
theorem Ig{h:Hd}{p:Ph}{l:List Mb}{first:Int}(hT:gp h p l first){cap:tO}{ob:ak}(ho:uy ob mC l){x:PS}(hx:gd l first (qT h p) l.length = .inr x){a b:List Int}(hqa:(gS (wr (x.B++[true])) (wr (x.B++[true])).length).1=a)(hqb:(gS (wr (x.w++[true])) (wr (x.w++[true])).length).1=b)(hl:30000<a.length\/30000<b.length) :
 bh Tryz.prog 11 [.one (.ptr 0 0),.agg (f6 h),.agg (gV p),.one (.int .i64 first),.one (.slice 13 0 l.length cap)] [bM 1 5 9,aw 2 3 4 cM,aR cM,aT cM,aS cM,aw 6 7 8 cZ,aR cZ,aT cZ,aS cZ,aw 10 11 12 cP,aR cP,aT cP,aS cP,ob] (.tup [.one .nils,.one .nils,.one (.int .i64 6)]) [bM 1 5 9,aw 2 3 4 cM,aR cM,aT cM,aS cM,aw 6 7 8 cZ,aR cZ,aT cZ,aS cZ,aw 10 11 12 cP,aR cP,aT cP,aS cP,ob]:=by
 have hfo:=ho.flat
 have h1:=hT.hd.dims.c0
 have h2:=hT.hd.dims.c1
 have h3:=hT.hd.dims.r0
 have h4:=hT.hd.dims.r1
 have hf:=hT.pos
 have hm:=hT.many
 have hm16:=hT.few
 have ha:=hT.all
 have hcr:1<=h.cols*h.rows/\h.cols*h.rows<=64:=jg hT.hd.dims
 refine cO Tryz.func11 ?_
 repeat' (first
  |(refine qz ?_;first
   |refine fG ?_ (hle:=by rw[br])
   |refine cl ?_ (hi:=by exact kT hT.hd rfl)
   |refine cl ?_ (hi:=by exact k9 hT.ph rfl)
   |refine cl ?_ (hi:=by exact mG hT.hd rfl nL nA rfl))
  |refine zz ?_|refine zx (fun _=>?_) (fun _=>?_)|fail)
 refine WX.cU rfl ?_
 refine WX.cU rfl ?_
 refine WX.dw (σ:=Nat×PS) (fun s=>[(3,.one (.int .i64 first)),(7,.one (.ptr 14 0)),(15,.one (.ptr 15 0)),(16,.one (.ptr 22 0)),(17,.one (.ptr 24 0)),(71,.one (.slice 13 0 l.length cap)),(72,.one (.int .i64 (l.length:Nat))),(73,.one (.int .i64 (s.1:Nat)))]) (fun s=>[bM 1 5 9,aw 2 3 4 cM,aR cM,aT cM,aS cM,aw 6 7 8 cZ,aR cZ,aT cZ,aS cZ,aw 10 11 12 cP,aR cP,aT cP,aS cP,ob,.cells (gV p) 28 false false,Hx s.2.S 15,cn 17 s.2.S.cols s.2.S.rows,.map (ba s.2.S.M),Hy s.2.S 15,.map (ag s.2.S.A),.map (ag s.2.S.B),.map (ag s.2.S.C),aN 23 s.2.B,aq s.2.B,aN 25 s.2.w,aq s.2.w]) (fun s=>s.1<=l.length/\gd l first (qT h p) s.1 = .inr s.2/\yN p.inter h.cols h.rows s.1 s.2) (fun s=>l.length-s.1) (0,qT h p) ⟨Nat.zero_le _,rfl,Br hT.hd hT.ph⟩ (fun s _=>lD) (cG [0,1,2,3,4,5,6,7,8,9,10,11,12,13,15,16,17,18,19,20,21,22,23,25,24,26] (obj:=by(repeat' (first|exact ae.nil|refine ae.ij rfl rfl rfl rfl ?_|refine ae.dead rfl ?_|refine ae.flat rfl ?_|refine ae.cons rfl ?_|refine ae.dead rfl ?_|refine ae.cons (by simp only[ak.ay,List.map_cons,List.map_nil,XC.ay,aB];exact rfl) ?_));first|done|fail)) ?_
 intro s ⟨hle,hrun,hs⟩ ih
 by_cases hlt:s.1<l.length
 ·have hmk:iK (l.getD s.1 default):=by
   rw[List.getD_eq_getElem?_getD,List.getElem?_eq_getElem hlt,Option.getD_some]
   exact hT.mok _ (List.getElem_mem hlt)
  have hnx:=sQ hrun
  obtain⟨m,hme⟩:∃m,l.getD s.1 default=m:=⟨_,rfl⟩
  have hme':l.getD (s.1:Int).toNat default=m:=hme
  rw[hme]at hmk hnx
  have hqq:=hs.qp
  have hmb:0<=first+(s.1:Nat)/\first+(s.1:Nat)<h.cols*h.rows:=by omega
  obtain⟨c,hc⟩:∃c,dC m p.inter s.2.S.qp=c:=⟨_,rfl⟩
  have hcS:dC m s.2.S.inter s.2.S.qp=c:=by rw[hs.inter];exact hc
  by_cases hc0:c=0
  ·subst hc0
   have hP:=vI hs (by omega) hmk hmb hcS
   cases hz:hJ s.2.S s.2.B s.2.w m (first+(s.1:Nat))with
   | none=>
     have eN:=(hx.symm.trans (lA (hnx.trans (sS hcS hz)) l.length (by omega)))
     cases eN
   | some z=>
     have hnx2:=hnx.trans (qU hcS hz)
     repeat' (first
      |(refine qz ?_;first
       |refine tR (zs:=mC ly) (hz:=jV) ?_
       |refine sL (enc:=mC) ?_
       |refine kj (cs:=mC m) ?_ (hy:=by rw[<-hme'];rfl) (hs1:=by rw[aI]) (hs2:=by rw[aI])
       |refine fG ?_ (hle:=by rw[aI])
       |refine cl ?_ (hi:=by exact oT hmk hqq hc rfl)
       |refine cl ?_ (hi:=by exact Dk hP hz (i:=22) (k:=23) (N:=15) (j:=24) (g:=25) rfl rfl rfl rfl rfl rfl (by decide) nL nA rfl))
      |refine zz ?_|refine zx (fun _=>?_) (fun _=>?_)|fail)
     exact ih (s.1+1,⟨z.1,z.2.1,z.2.2⟩) _ _ _ (cG [0,1,2,3,4,5,6,7,8,9,10,11,12,13,14,15,16,17,18,19,20,21,22,27,24,28]) ⟨by show s.1+1<=l.length;omega,hnx2,mU hs hmk (hnx2▸hnx.symm)⟩ (by show l.length-(s.1+1)<l.length-s.1;omega)
  ·have eB:=(hx.symm.trans (lA (hnx.trans (sR hcS hc0)) l.length (by omega)))
   cases eB
 ·by_cases hla:30000<a.length
  all_goals
   have e0:s.1=l.length:=by omega
   have hlB:=hs.len
   have hlw:=hs.lenw
   rw[e0,hx]at hrun
   obtain rfl:x=s.2:=Sum.inr.inj hrun
   have hB1:s.2.B.length<=1000000:=by omega
   have hB2:s.2.w.length<=1000000:=by omega
   have hL1:(wr (s.2.B++[true])).length<=100000:=by rw[fQ,List.length_append,List.length_cons,List.length_nil];omega
   have hL2:(wr (s.2.w++[true])).length<=100000:=by rw[fQ,List.length_append,List.length_cons,List.length_nil];omega
   have hY1:=gl (s.2.B++[true])
   have hY2:=gl (s.2.w++[true])
   repeat' (first
    |(refine qz ?_;first
     |refine cl ?_ (hi:=by exact sj (bs:=s.2.B) hB1 (i:=22) (k:=23) rfl rfl (by decide) nL nA rfl)
     |refine cl ?_ (hi:=by exact pI (l:=wr (s.2.B++[true])) hY1 hL1 hqa (n:=((s.2.B++[true]).length+7)/8) (by rw[fQ]) (i:=26) rfl nL nA rfl)
     |refine cl ?_ (hi:=by exact sj (bs:=s.2.w) hB2 (i:=24) (k:=25) rfl rfl (by decide) nL nA rfl)
     |refine cl ?_ (hi:=by exact pI (l:=wr (s.2.w++[true])) hY2 hL2 hqb (n:=((s.2.w++[true]).length+7)/8) (by rw[fQ]) (i:=28) rfl nL nA rfl))
    |refine zz ?_|refine zx (fun _=>?_) (fun _=>?_)|refine bp (by first|exact af.nil|exact af.one _|exact af.mD (by repeat' (first|exact True.intro|refine And.intro ?_ ?_|exact Compat.ne rfl|exact ff rfl))) ⟨by kernel_rfl,?_⟩|refine bp (by first|exact af.nil|exact af.one _|exact af.mD (by repeat' (first|exact True.intro|refine And.intro ?_ ?_|exact Compat.ne rfl|exact ff rfl))) ?_|fail)
   show aC _ _ _ _ _ _ _ _;refine kV [0,1,2,3,4,5,6,7,8,9,10,11,12,13] ?_
   rfl
end Go.Proofs.YtagpkhindehcbaaGreat
namespace Go.Xm
variable [ax]
theorem du.swap{α γ : Type}{R : α -> γ->Prop}{x x' : α}(h:∀v,R x v->R x' v){b:List α}:∀{a:List α} {vs:List γ},du R (a++x::b) vs->du R (a++x'::b) vs
 | [],_,.cons h1 h2 => .cons (h _ h1) h2
 | _::a,_,.cons h1 h2 => .cons h1 (du.swap h (a:=a) h2)
theorem sF{P:Program}{f:FuncId}(a b:List XV){i off n s:Nat}{hs hs':aj}{v:XV}(hs0:0<s){vs:List XC}{e:TypeId}{opn ro:Bool}(ho:hs[i]? = some (.cells vs e opn ro))(hle:off+n*s<=vs.length)
 (hc:∀cap,n<=cap->bh P f (a ++ .one (.slice i off n (.exact cap))::b) hs v hs'):bh P f (a ++ .one (.slice i off n (.toEnd s))::b) hs v hs':=by
 intro m hm β w vs' hall hw
 have hi:i<m.n:=by
  have:=(List.getElem?_eq_some_iff.1 ho).1
  rw[hm.n];exact this
 have hr:=hw.obj i hi
 rw[hm.at ho]at hr
 obtain⟨cs,fr,_,_,h3,_,_,_⟩:=hr
 have hsz:off+n*s <= β.size i:=by
  split at h3<;>omega
 have hcap:n<=(β.size i-off)/s:=(Nat.le_div_iff_mul_le hs0).2 (by omega)
 have hsw:∀v,aO β m.n (.one (.slice i off n (.toEnd s))) v->aO β m.n (.one (.slice i off n (.exact ((β.size i-off)/s)))) v:=fun v hv=>hv
 exact hc _ hcap m hm β w vs' (du.swap hsw hall) hw
end Go.Xm
namespace Go.Proofs.YtagpkhindehcbaaGreat
open Go.Xm
variable [ax]
abbrev FK:=bm×Mb×Nat
noncomputable def FI(mb:Int)(x:FK)(k:Nat)(u:Nat)(rest:Nat->Int):Int ⊕ FK:=
 match g_ x.1 mb k x.2.1 rest with
 | none => .inl 2
 | some y => .inr (y.1,y.2,u)
noncomputable def fK(evs:List (List Ev))(mb:Int)(has:Nat->Bool)(x:FK)(k:Nat):Int ⊕ FK:=
 if has k=true then
  if evs.length<=x.2.2 then .inl 3 else
   match iY (evs.getD x.2.2 []) (eJ x.2.1)with
   | none => .inl 2
   | some rest=>FI mb x k (x.2.2+1) rest
 else FI mb x k x.2.2 fun _=>0
noncomputable def ic(evs:List (List Ev))(mb:Int)(has:Nat->Bool)(x0:FK):Nat->Int ⊕ FK
 | 0 => .inr x0
 | k+1=>match ic evs mb has x0 k with
   | .inl e => .inl e
   | .inr x=>fK evs mb has x k
structure FA where
 S:bm
 out:List Mb
 u:Nat
noncomputable def nH(evs:List (List Ev))(first:Int)(l:List Ol)(S0:bm):Nat->Int ⊕ FA
 | 0 => .inr ⟨S0,[],0⟩
 | i + 1=>match nH evs first l S0 i with
   | .inl e => .inl e
   | .inr x=>match ic evs (first+(i:Nat)) (l.getD i default).2 (x.S,(l.getD i default).1,x.u) 6 with
     | .inl e => .inl e
     | .inr y => .inr ⟨y.1,x.out++[y.2.1],y.2.2⟩
noncomputable def gZ(evs:List (List Ev))(first:Int)(l:List Ol)(S0:bm):Int ⊕ List Mb:=
 match nH evs first l S0 l.length with
 | .inl e => .inl e
 | .inr x=>if x.u<evs.length then .inl 13 else .inr x.out
theorem rD{evs:List (List Ev)}{mb:Int}{has:Nat->Bool}{x0:FK}{k:Nat}{e:Int}(h:ic evs mb has x0 k = .inl e):∀j,k<=j->ic evs mb has x0 j = .inl e:=by
 intro j hj
 induction hj with
 | refl=>exact h
 | step _ ih=>rw[ic,ih]
theorem rC{evs:List (List Ev)}{first:Int}{l:List Ol}{S0:bm}{k:Nat}{e:Int}(h:nH evs first l S0 k = .inl e):∀j,k<=j->nH evs first l S0 j = .inl e:=by
 intro j hj
 induction hj with
 | refl=>exact h
 | step _ ih=>rw[nH,ih]
def sC(f:Nat->Int):Prop:=∀i,-2047<=f i/\f i<=2047
theorem E3{o:Int}{f:Nat->Int}(h:sC f):∀n,sC (Hz o f n)
 | 0=>fun i=>by show -2047<=(0:Int)/\(0:Int)<=2047;omega
 | n+1=>fun i=>by
   show -2047<=cw (Hz o f n) _ _ i/\cw (Hz o f n) _ _ i<=2047
   unfold cw
   split
   ·exact h n
   ·exact E3 h n i
theorem sW{o:Int}{f:Nat->Int}(h:sC f):sC (dc o f):=E3 h 64
theorem tm{l:List Ev}(hl:∀j,j<l.length->oE (l.getD j default)){st:Int}:∀j,j<=l.length->∀x,eZ l st j=some x->sC x.2
 | 0,_,x,h=>by cases h;exact fun i=>by show -2047<=(0:Int)/\(0:Int)<=2047;omega
 | j + 1,hj,x,h=>by
   have h2:(eZ l st j).bind _=some x:=h
   cases hr:eZ l st j with
   | none=>rw[hr]at h2;cases h2
   | some y=>
     rw[hr]at h2
     have h3:(if 63<y.1+(l.getD j default).1 then none else some _)=some x:=h2
     have h4:=tm hl j (by omega) y hr
     have h5:=(hl j (by omega)).lev
     split at h3
     ·cases h3
     ·cases h3
      intro i
      dsimp only
      unfold cw
      split
      ·exact h5
      ·exact h4 i
theorem xt{l:List Ev}(hl:∀j,j<l.length->oE (l.getD j default)){st:Int}{f:Nat->Int}(h:iY l st=some f):sC f:=by
 unfold iY at h
 cases hr:eZ l st l.length with
 | none=>rw[hr]at h;cases h
 | some y=>rw[hr]at h;cases h;exact tm hl _ (Nat.le_refl _) y hr
theorem F4{a b f:Nat->Int}(h:j9 a b=some f):∀i,i<64 -> -2047<=f i/\f i<=2047:=by
 unfold j9 at h
 split at h
 ·cases h
 ·rename_i hn
  cases h
  intro i hi
  have:¬l0 a b i:=fun hb=>hn ⟨i,hi,hb⟩
  unfold l0 at this
  dsimp only
  omega
theorem NT{f:FuncId}{args args':List XV}{v:XV}[bE v]{a b a' b':ak}[c8 a][c8 b][c8 a'][c8 b']{S S':bm}{i k N:Nat}(hc:bh Tryz.prog f args (a::b::ep S) v (a'::b'::ep S'))
 {HS:aj}(hi:HS[i]? = some a) (hk:HS[k]? = some b) (hS:HS.take 13=dU) (hN:(HS.drop N).take 7=zC S N) (hnd:(i::k::lB N []).Nodup) (ha:fq 22 args) (hr:dR (nth (i::k::lB N [])) args args') (hro:d9 (a::b::ep S) (a'::b'::ep S')=true)
 {HS':aj}(hh:bK HS (i::k::lB N []) (a'::b'::M5 S' N [])=HS') (hbd:Nat.blt HS'.length Mem.bound=true) :
 aG.Sound Tryz.prog ⟨f,args',HS,v,HS',i::k::lB N []⟩:=by
 have h3:=vp i k N []
 have h16:=rP i k N []
 have hc':bh Tryz.prog f args (a::b::(ep S++[])) v (a'::b'::(ep S'++[])):=by
  rw[List.append_nil,List.append_nil];exact hc
 have ht2:nth ((i::k::lB N [])++List.range' HS.length 0)=nth (i::k::lB N []):=by
  rw[List.range'_zero,List.append_nil]
 refine bO (i::k::lB N []) (i::k::lB N []) 0 hc' hnd (.flat hi (.flat hk (zE hS hN h3 h16 .nil))) (.flat (.flat (gK S _ (Nat.le_refl _) .nil))) (.flat (.flat (gK S' _ (Nat.le_refl _) .nil))) rfl ha hr (bE.ok _) (bE.ay _) ?_ (by rw[List.append_nil,List.append_nil];exact hro) rfl hh hbd (.inl rfl)
 rw[ht2]
 exact .flat (.flat (Dw h3 h16 .nil))
structure ku(S:bm)(mb:Int)(k:Nat)(m:Mb)(rest:Nat->Int):Prop where
 dims:gR S.cols S.rows
 mb:0<=mb/\mb<S.cols*S.rows
 k:k<6
 lev:ux S
 rest:sC rest
theorem ku.b1{S:bm}{mb:Int}{k:Nat}{m:Mb}{rest:Nat->Int}(h:ku S mb k m rest)(o:Int):∀i,-1000000<=dc o rest i/\dc o rest i<=1000000:=fun i=>by
 have:=sW (o:=o) h.rest i
 omega
theorem ku.b2{S:bm}{mb:Int}{k:Nat}{m:Mb}{rest:Nat->Int}(h:ku S mb k m rest)(q:Int):∀i,-1000000<=cq S mb k q i/\cq S mb k q i<=1000000:=n7 fun dx dy b hb=>zi h.lev hb
theorem LY{S:bm}{mb:Int}{k:Nat}{m:Mb}{rest:Nat->Int}(h:ku S mb k m rest){y:bm×Mb}(hF:g_ S mb k m rest=some y) :
 bh Tryz.prog 38 [.one (.ptr 2 0),.one (.int .i64 mb),.one (.int .i64 (k:Nat)),.one (.ptr 0 0),.agg (ti .i64 64 rest)] (mu m :: .dead::ep S) (.one (.bool true)) (mu y.2 :: .dead::ep y.1):=by
 unfold g_ at hF
 cases ha:alone m with
 | false=>
   rw[if_neg (by rw[ha];decide)]at hF
   cases hF
   exact Qi h.k ha
 | true=>
   rw[if_pos ha]at hF
   cases he:m.edge with
   | false=>
     rw[if_neg (by rw[he];decide),he]at hF
     cases hF
     exact Qj h.dims h.mb h.k ha he rfl rfl
   | true=>
     rw[if_pos he,he]at hF
     cases hm:j9 (dc (dD true (a_ S mb k m.qp).1) rest) (cq S mb k m.qp)with
     | none=>rw[hm]at hF;cases hF
     | some l2=>
       rw[hm]at hF
       cases hF
       exact Qk h.dims h.mb h.k ha he rfl (h.b1 _) (h.b2 _) hm rfl
theorem LX{S:bm}{mb:Int}{k:Nat}{m:Mb}{rest:Nat->Int}(h:ku S mb k m rest)(hF:g_ S mb k m rest=none) :
 bh Tryz.prog 38 [.one (.ptr 2 0),.one (.int .i64 mb),.one (.int .i64 (k:Nat)),.one (.ptr 0 0),.agg (ti .i64 64 rest)] (mu m :: .dead::ep S) (.one (.bool false)) (mu m :: .dead::ep S):=by
 unfold g_ at hF
 cases ha:alone m with
 | false=>rw[if_neg (by rw[ha];decide)]at hF;cases hF
 | true=>
   rw[if_pos ha]at hF
   cases he:m.edge with
   | false=>rw[if_neg (by rw[he];decide)]at hF;cases hF
   | true=>
     rw[if_pos he,he]at hF
     cases hm:j9 (dc (dD true (a_ S mb k m.qp).1) rest) (cq S mb k m.qp)with
     | none=>exact Ql h.dims h.mb h.k ha he rfl (h.b1 _) (h.b2 _) hm
     | some l2=>rw[hm]at hF;cases hF
theorem AR{S:bm}{mb:Int}{k:Nat}{m:Mb}{rest:Nat->Int}(h:ku S mb k m rest){y:bm×Mb}(hF:g_ S mb k m rest=some y){i d N:Nat}{HS:aj}(hi:HS[i]? = some (mu m))(hk:HS[d]? = some .dead)(hS:HS.take 13=dU)(hN:(HS.drop N).take 7=zC S N)(hnd:(i::d::lB N []).Nodup)
 {HS':aj}(hh:bK HS [i,d,N,0,1,2,3,4,5,6,7,8,9,10,11,12,N+1,N+2,N+3,N+4,N+5,N+6] [mu y.2,.dead,Hx y.1 N,bM 1 5 9,aw 2 3 4 cM,aR cM,aT cM,aS cM,aw 6 7 8 cZ,aR cZ,aT cZ,aS cZ,aw 10 11 12 cP,aR cP,aT cP,aS cP,cn (N+2) y.1.cols y.1.rows,.map (ba y.1.M),Hy y.1 N,.map (ag y.1.A),.map (ag y.1.B),.map (ag y.1.C)]=HS') (hbd:Nat.blt HS'.length Mem.bound=true) :
 aG.Sound Tryz.prog ⟨38,[.one (.ptr N 0),.one (.int .i64 mb),.one (.int .i64 (k:Nat)),.one (.ptr i 0),.agg (ti .i64 64 rest)],HS,.one (.bool true),HS',i::d::lB N []⟩:=
 NT (LY h hF) hi hk hS hN hnd (.cons (by show 2<22;omega) (.flat (.flat (.cons (by show 0<22;omega) (.flat .nil))))) (.cons rfl (.flat (.flat (.cons rfl (.flat .nil))))) rfl hh hbd
theorem AQ{S:bm}{mb:Int}{k:Nat}{m:Mb}{rest:Nat->Int}(h:ku S mb k m rest)(hF:g_ S mb k m rest=none){i d N:Nat}{HS:aj}(hi:HS[i]? = some (mu m))(hk:HS[d]? = some .dead)(hS:HS.take 13=dU)(hN:(HS.drop N).take 7=zC S N)(hnd:(i::d::lB N []).Nodup)
 {HS':aj}(hh:bK HS [i,d,N,0,1,2,3,4,5,6,7,8,9,10,11,12,N+1,N+2,N+3,N+4,N+5,N+6] [mu m,.dead,Hx S N,bM 1 5 9,aw 2 3 4 cM,aR cM,aT cM,aS cM,aw 6 7 8 cZ,aR cZ,aT cZ,aS cZ,aw 10 11 12 cP,aR cP,aT cP,aS cP,cn (N+2) S.cols S.rows,.map (ba S.M),Hy S N,.map (ag S.A),.map (ag S.B),.map (ag S.C)]=HS') (hbd:Nat.blt HS'.length Mem.bound=true) :
 aG.Sound Tryz.prog ⟨38,[.one (.ptr N 0),.one (.int .i64 mb),.one (.int .i64 (k:Nat)),.one (.ptr i 0),.agg (ti .i64 64 rest)],HS,.one (.bool false),HS',i::d::lB N []⟩:=
 NT (LX h hF) hi hk hS hN hnd (.cons (by show 2<22;omega) (.flat (.flat (.cons (by show 0<22;omega) (.flat .nil))))) (.cons rfl (.flat (.flat (.cons rfl (.flat .nil))))) rfl hh hbd
instance Qm (h:Nat->Bool):bE (.agg (sK h)):=fw rfl
theorem Bl(m:Mb)(h:Nat->Bool):((fZ m h).drop 391).take 6=sK h:=by
 unfold fZ
 rw[List.drop_append_of_le_length (by rw[aI];exact Nat.le_refl _),List.drop_of_length_le (by rw[aI];exact Nat.le_refl _)]
 rfl
theorem Eo(h:Nat->Bool){k:Nat}(hk:k<6){b:Bool}(hb:h k=b):(sK h)[k]? = some (.bool b):=by
 subst hb
 match k,hk with
 | 0,_=>rfl
 | 1,_=>rfl
 | 2,_=>rfl
 | 3,_=>rfl
 | 4,_=>rfl
 | 5,_=>rfl
def iM(h:Nat->Bool):Nat->Nat
 | 0=>0
 | k+1=>iM h k+if h k then 1 else 0
def manyN(l:List Ol):Nat->Nat
 | 0=>0
 | i+1=>manyN l i+iM (l.getD i default).2 6
def vf(l:List Ol):Nat:=manyN l l.length
theorem yV(h:Nat->Bool):∀k,iM h k<=k
 | 0=>Nat.le_refl _
 | k+1=>by have:=yV h k;unfold iM;split<;>omega
theorem vg(l:List Ol):∀i,manyN l i<=6*i
 | 0=>Nat.le_refl _
 | i+1=>by have:=vg l i;have:=yV (l.getD i default).2 6;unfold manyN;omega
theorem I8{l:List Ol}(hl:l.length<=64):bh Tryz.prog 14 [hZ 0 l.length 397] [cE 56 (fl gU l)] (.one (.int .i64 (vf l:Nat))) [cE 56 (fl gU l)]:=by
 refine cO Tryz.func14 ?_
 repeat' (first|refine zz ?_|refine zx (fun _=>?_) (fun _=>?_)|fail)
 refine WX.dw (σ:=Nat) (fun i=>[(3,.one (.int .i64 (manyN l i:Nat))),(8,hZ 0 l.length 397),(9,.one (.int .i64 (l.length:Nat))),(10,.one (.int .i64 (i:Nat)))]) (fun _=>[cE 56 (fl gU l)]) (fun i=>i<=l.length) (fun i=>l.length-i) 0 (Nat.zero_le _) (fun s _=>lD) (cG [0]) ?_
 intro i hi ih
 have hm1:=vg l i
 by_cases hlt:i<l.length
 ·have htl:((gU (l.getD i default)).drop 391).take 6=sK (l.getD i default).2:=Bl _ _
  repeat' (first
   |(refine qz ?_;first
    |refine sL (enc:=gU) (j:=i) ?_
    |refine tR (zs:=fZ ly pN) (hz:=Ag) ?_
    |refine t_ (cs:=sK (l.getD i default).2) ?_ (hle:=by show _<=(fZ _ _).length;rw[ca];decide) (hc:=htl)
    |refine kj (cs:=gU (l.getD i default)) ?_)
   |refine zz ?_|refine zx (fun _=>?_) (fun _=>?_)|fail)
  refine WX.dw (σ:=Nat) (fun k=>[(3,.one (.int .i64 (manyN l i+iM (l.getD i default).2 k:Nat))),(8,hZ 0 l.length 397),(9,.one (.int .i64 (l.length:Nat))),(10,.one (.int .i64 (i:Nat))),(15,.agg (sK (l.getD i default).2)),(16,.one (.int .i64 (k:Nat)))]) (fun _=>[cE 56 (fl gU l)]) (fun k=>k<=6) (fun k=>6-k) 0 (Nat.zero_le _) (fun s _=>lD) (cG [0]) ?_
  intro k hk ih2
  have hm2:=yV (l.getD i default).2 k
  by_cases h6:k<6
  ·obtain⟨b,hb⟩:∃b,(l.getD i default).2 k=b:=⟨_,rfl⟩
   have hat:=Eo (l.getD i default).2 h6 hb
   cases b with
   | true=>
     have e:iM (l.getD i default).2 (k+1)=iM (l.getD i default).2 k+1:=by rw[iM,if_pos hb]
     repeat' (first
      |(refine qz ?_;first
       |refine xc (hc:=hat) ?_)
      |refine zz ?_|refine zx (fun _=>?_) (fun _=>?_)|fail)
     refine ih2 (k+1) _ _ _ (cG [0] (reg:=by(repeat' (first|exact ah.nil|refine ah.flat (by rw[e];rfl) ?_|refine ah.flat rfl ?_|refine ah.cons rfl ?_|refine ah.sl rfl (by assumption) rfl ?_|refine ah.fN rfl rfl (by first|rfl|omega|(simp;done)|(simp;omega)) ?_));first|done|fail)) (by omega) (by omega)
   | false=>
     have e:iM (l.getD i default).2 (k+1)=iM (l.getD i default).2 k:=by rw[iM,if_neg (by rw[hb];decide),Nat.add_zero]
     repeat' (first
      |(refine qz ?_;first
       |refine xc (hc:=hat) ?_)
      |refine zz ?_|refine zx (fun _=>?_) (fun _=>?_)|fail)
     refine ih2 (k+1) _ _ _ (cG [0] (reg:=by(repeat' (first|exact ah.nil|refine ah.flat (by rw[e];rfl) ?_|refine ah.flat rfl ?_|refine ah.cons rfl ?_|refine ah.sl rfl (by assumption) rfl ?_|refine ah.fN rfl rfl (by first|rfl|omega|(simp;done)|(simp;omega)) ?_));first|done|fail)) (by omega) (by omega)
  ·obtain rfl:k=6:=by omega
   repeat' (first|refine zz ?_|refine zx (fun _=>?_) (fun _=>?_)|fail)
   refine ih (i+1) _ _ _ (cG [0]) (by omega) (by omega)
 ·obtain rfl:i=l.length:=by omega
  repeat' (first|refine zz ?_|refine zx (fun _=>?_) (fun _=>?_)|fail)
  show aC _ _ _ _ _ _ _ _;refine kV [0] ?_
  rfl
theorem Mj{l:List Ol}(hl:l.length<=64){n:Nat}(hn:l.length=n){z:Nat}(hz:vf l=z){i:Nat}{HS:aj}(hi:HS[i]? = some (cE 56 (fl gU l)))(hb:Nat.blt HS.length Mem.bound=true) :
 aG.Sound Tryz.prog ⟨14,[.one (fD i n 397)],HS,.one (.int .i64 (z:Nat)),HS,[]⟩:=by
 subst hn hz
 exact zb [i] (I8 hl) (by simp) (.flat hi .nil) (.flat .nil) (.cons (iT (Nat.le_of_ble_eq_true rfl)) .nil) (.cons (dT ..) .nil) trivial rfl hb rfl
theorem IB{τl:List Nat}{n:Nat}(h:(List.range n).all (fun j=>nth τl j==j)=true):∀j,j<n->nth τl j=j:=fun j hj=>by
 have:=List.all_eq_true.1 h j (List.mem_range.2 hj)
 simpa using this
theorem yP.oP{c:XC}{i n:Nat}(h:yP c i n)(τ : Nat->Nat)(ht : τ 0=i):∃c0,yP c0 0 n/\c0.ay τ = c/\c0.ok 1:=by
 rcases h with⟨h0,rfl⟩|⟨cap,rfl⟩
 ·exact⟨.nils,.inl ⟨h0,rfl⟩,rfl,trivial⟩
 ·exact⟨.slice 0 0 n cap,.inr ⟨cap,rfl⟩,by simp only[XC.ay,ht],by show 0<1;omega⟩
theorem D8{l:List Ev}(h:mE l){c:XC}{i:Nat}(hc:yP c i l.length){o:ak}(ho:uy o mr l){HS:aj}(hi:HS[i]? = some o){st:Int}(hs:0<=st/\st<=1){r:Option (Nat->Int)}(hr:iY l st=r)(hb:Nat.blt HS.length Mem.bound=true) :
 aG.Sound Tryz.prog ⟨36,[.one c,.one (.int .i64 st)],HS,D7 r,HS,[]⟩:=by
 subst hr
 have hfo:=ho.flat
 obtain⟨c0,h0,hcr,hok⟩:=hc.oP (nth [i]) rfl
 exact zb [i] (HW h ho h0 hs) (by simp) (.flat hi .nil) (.flat .nil) (.cons hok (.flat .nil)) (.cons (congrArg XV.one hcr) (.flat .nil)) (XV.e9 (uE _) _) (bE.ay _) hb rfl
theorem HV{l:List Ev}(h:mE l){c:XC}{i:Nat}(hc:yP c i l.length){o:ak}(ho:uy o mr l){HS:aj}(hi:HS[i]? = some o){st:Int}(hs:0<=st/\st<=1)(hr:iY l st=none)(hb:Nat.blt HS.length Mem.bound=true) :
 aG.Sound Tryz.prog ⟨36,[.one c,.one (.int .i64 st)],HS,.tup [.agg (ti .i64 64 fun _=>0),.one (.int .i64 2)],HS,[]⟩:=D8 h hc ho hi hs hr hb
theorem Ax{l:List Ev}(h:mE l){c:XC}{i:Nat}(hc:yP c i l.length){o:ak}(ho:uy o mr l){HS:aj}(hi:HS[i]? = some o){st:Int}(hs:0<=st/\st<=1){f:Nat->Int}(hr:iY l st=some f)(hb:Nat.blt HS.length Mem.bound=true) :
 aG.Sound Tryz.prog ⟨36,[.one c,.one (.int .i64 st)],HS,.tup [.agg (ti .i64 64 f),.one (.int .i64 0)],HS,[]⟩:=D8 h hc ho hi hs hr hb
structure Ak(h:Hd)(p:Ph)(first:Int)(l:List Ol):Prop where
 hd:qd h
 ph:tP p
 pos:0<=first
 many:1<=l.length
 all:first+(l.length:Nat)<=h.cols*h.rows
 lev:∀j,j<l.length->∀i,-1000000<=(l.getD j default).1.lev i/\(l.getD j default).1.lev i<=1000000
theorem Oo(b:Kn){s:Nat}(hs:s<=8):∀n,n<=7->∀i,64<=i->em b s n i=0:=by
 intro n
 induction n with
 | zero=>intro _ i _;simp[em]
 | succ n ih=>
   intro hn i hi
   rw[nD]
   unfold cw
   have h1:(n+1)*s<=7*8:=Nat.mul_le_mul (by omega) hs
   rw[if_neg (by omega)]
   exact ih (by omega) i hi
theorem GZ{S:bm}{mb k q:Int}{i:Nat}(hi:64<=i):cq S mb k q i=0:=by
 have ho:∀(o:Option Kn) (s:Nat),s<=8->fv o s q i=0:=fun o s hs=>by
  unfold fv
  cases o with
  | none=>rfl
  | some b=>
    dsimp only
    split
    ·exact Oo b hs 7 (by omega) i hi
    ·rfl
 unfold cq uQ
 repeat' split
 all_goals first
  | exact ho _ _ (by omega)
  | rfl
theorem F3{l e f:Nat->Int}(h:j9 l e=some f)(hl:sC l)(he:∀i,64<=i->e i=0):sC f:=fun i=>by
 by_cases hi:i<64
 ·exact F4 h i hi
 ·unfold j9 at h
  split at h
  ·cases h
  ·cases h
   have:=hl i
   dsimp only
   rw[he i (by omega)]
   omega
theorem CU{S:bm}{mb:Int}{k:Nat}{m:Mb}{rest:Nat->Int}(h:ku S mb k m rest)(hm:∀i,-1000000<=m.lev i/\m.lev i<=1000000){y:bm×Mb}(hF:g_ S mb k m rest=some y):y.1.cols=S.cols/\y.1.rows=S.rows/\ux y.1/\∀i,-1000000<=y.2.lev i/\y.2.lev i<=1000000:=by
 have hset:∀l:Nat->Int,sC l->∀i,-1000000<=(dE m k l).lev i/\(dE m k l).lev i<=1000000:=fun l hl i=>by
  unfold dE
  dsimp only
  split
  ·have:=hl (i-k*64);omega
  ·exact hm i
 have hup:∀l:Nat->Int,sC l->∀i,-1000000<=cw l 0 (m.lev (k*64)) i/\cw l 0 (m.lev (k*64)) i<=1000000:=fun l hl i=>by
  unfold cw
  split
  ·exact hm _
  ·have:=hl i;omega
 have hset2:∀l:Nat->Int,sC l->∀i,-1000000<=(dE m k (cw l 0 (m.lev (k*64)))).lev i/\(dE m k (cw l 0 (m.lev (k*64)))).lev i<=1000000:=fun l hl i=>by
  unfold dE
  dsimp only
  split
  ·exact hup l hl _
  ·exact hm i
 have hlev:∀l:Nat->Int,sC l->ux (bu S mb k ⟨cw l 0 (m.lev (k*64)),m.qp⟩):=fun l hl=>⟨mO h.lev.1 (hup l hl),mO h.lev.2.1 (hup l hl),mO h.lev.2.2 (hup l hl)⟩
 unfold g_ at hF
 split at hF
 ·have hs:=sW (o:=dD m.edge (a_ S mb k m.qp).1) h.rest
  split at hF
  ·cases hmo:j9 (dc (dD m.edge (a_ S mb k m.qp).1) rest) (cq S mb k m.qp)with
   | none=>rw[hmo]at hF;cases hF
   | some l2=>
     rw[hmo]at hF
     cases hF
     have hr:=F3 hmo hs (fun i hi=>GZ hi)
     exact⟨rfl,rfl,hlev l2 hr,hset2 l2 hr⟩
  ·cases hF
   exact⟨rfl,rfl,hlev _ hs,hset2 _ hs⟩
 ·cases hF
  exact⟨rfl,rfl,h.lev,hset _ (sW h.rest)⟩
end Go.Proofs.YtagpkhindehcbaaGreat
