/-
  A part of the proof: TakeA, Put1.
-/
import Derived.Test.YtagpkhindehcbaaGreatKfS
import Derived.Test.YtagpkhindehcbaaGreatKfT
set_option maxRecDepth 10000
set_option maxHeartbeats 8000000
set_option linter.unusedVariables false
set_option linter.unusedSectionVars false
set_option linter.unusedSimpArgs false
namespace Go.Proofs.YtagpkhindehcbaaGreat
open Go.Xm
variable [ax]
abbrev Ol:=Mb×(Nat->Bool)
def gU(o:Ol):List XC:=fZ o.1 o.2
instance:sw gU 397:=⟨fun _=>ca _ _,fun _=>vq _ _,by decide⟩
structure TA where
 S:bm
 r:Nat×Bool
 out:List Ol
def iU(B:List Bool)(first:Int)(x:TA):TA:=
 ⟨(b_ x.S B (first+(x.out.length:Nat)) x.r).1.S,(b_ x.S B (first+(x.out.length:Nat)) x.r).1.r,x.out++[((b_ x.S B (first+(x.out.length:Nat)) x.r).1.m,(b_ x.S B (first+(x.out.length:Nat)) x.r).2)]⟩
def fI(B:List Bool)(first:Int):Nat->TA->TA
 | 0,x=>x
 | k+1,x=>if x.r.2=true then x else fI B first k (iU B first x)
def dQ(h:Hd)(p:Ph):bm:=⟨p.id,p.inter,p.down,p.qp,p.qp,h.cols,h.rows,[],[],[],[]⟩
structure As(B:List Bool)(first:Int)(n:Nat)(c r:Int)(x s:TA):Prop where
 le:s.out.length<=n
 run:fI B first (n-s.out.length) s=x
 cols:s.S.cols=c
 rows:s.S.rows=r
 tiny:cj s.S.M
 qp : -1000000<=s.S.qp/\s.S.qp<=1000000
theorem vW{B:List Bool}{first:Int}{n:Nat}{c r:Int}{x s:TA}(h:As B first n c r x s)(hn:s.out.length<n)(he:s.r.2=false):As B first n c r x (iU B first s):=by
 have k:=QQ (B:=B) (r:=s.r) (mb:=first+(s.out.length:Nat)) h.tiny h.qp
 have hl:(iU B first s).out.length=s.out.length+1:=by simp[iU]
 refine⟨by rw[hl];omega,?_,k.cols.trans h.cols,k.rows.trans h.rows,k.tiny,k.qp⟩
 have hr:=h.run
 obtain⟨j,hj⟩:∃j,n-s.out.length=j+1:=⟨n-s.out.length-1,by omega⟩
 rw[hj,fI,if_neg (by rw[he];decide)]at hr
 rw[hl,show n-(s.out.length+1)=j by omega]
 exact hr
theorem n6{B:List Bool}{first:Int}{n:Nat}{c r:Int}{x s:TA}(h:As B first n c r x s)(hd:s.out.length=n\/s.r.2=true):s=x:=by
 have hr:=h.run
 rcases hd with hd|hd
 ·rw[hd,Nat.sub_self]at hr;exact hr
 ·obtain⟨j,hj⟩:∃j,n-s.out.length=j:=⟨_,rfl⟩
  rw[hj]at hr
  cases j with
  | zero=>exact hr
  | succ j=>rw[fI,if_pos hd]at hr;exact hr
theorem k_{L:List Int}{B:List Bool}{p:Nat}{e b:Bool}(hb:e=b){HS:aj}{i k:Nat}(hi:HS[i]? = some (bt k L B p e))(hk:HS[k]? = some (aL L))(hd:i≠k)(hbd:Nat.blt HS.length Mem.bound=true) :
 aG.Sound Tryz.prog ⟨33,[.one (.ptr i 0)],HS,.one (.bool b),HS,[i]⟩:=by
 subst hb;exact gW hi hk hd hbd
theorem nX{L:List Int}{B:List Bool}{p:Nat}{e:Bool}{z:Int}(hz:(if e then 3 else if p<B.length then 13 else 0)=z){HS:aj}{i k:Nat}(hi:HS[i]? = some (bt k L B p e))(hk:HS[k]? = some (aL L))(hd:i≠k)(hbd:Nat.blt HS.length Mem.bound=true) :
 aG.Sound Tryz.prog ⟨35,[.one (.ptr i 0)],HS,.one (.int .i64 z),HS,[i]⟩:=by
 subst hz;exact MB hi hk hd hbd
theorem EY{L:List Int}{B:List Bool}(hB:dp L B){S:bm}{r:Nat×Bool}{mb:Int}(hD:gR S.cols S.rows)(hT:cj S.M)(hmb:0<=mb/\mb<S.cols*S.rows)(hq : -1000000<=S.qp/\S.qp<=1000000){y:gh×(Nat->Bool)}(hy:b_ S B mb r=y){i k N:Nat}
 {HS:aj}(hi:HS[i]? = some (bt k L B r.1 r.2)) (hk:HS[k]? = some (aL L)) (hS:HS.take 13=dU) (hN:(HS.drop N).take 7=zC S N) (hnd:(i::k::lB N []).Nodup)
 {HS':aj}(hh:bK HS [i,k,N,0,1,2,3,4,5,6,7,8,9,10,11,12,N+1,N+2,N+3,N+4,N+5,N+6] [bt k L B y.1.r.1 y.1.r.2,aL L,Hx y.1.S N,bM 1 5 9,aw 2 3 4 cM,aR cM,aT cM,aS cM,aw 6 7 8 cZ,aR cZ,aT cZ,aS cZ,aw 10 11 12 cP,aR cP,aT cP,aS cP,cn (N+2) y.1.S.cols y.1.S.rows,.map (ba y.1.S.M),Hy y.1.S N,.map (ag y.1.S.A),.map (ag y.1.S.B),.map (ag y.1.S.C)]=HS') (hbd:Nat.blt HS'.length Mem.bound=true) :
 aG.Sound Tryz.prog ⟨34,[.one (.ptr N 0),.one (.ptr i 0),.one (.int .i64 mb)],HS,.agg (fZ y.1.m y.2),HS',i::k::lB N []⟩:=by
 subst hy
 exact QD (Kj hB S r mb hD hT hmb hq) hi hk hS hN hnd (.cons (by show 2<22;omega) (.cons (by show 0<22;omega) (.flat .nil))) (.cons rfl (.cons rfl (.flat .nil))) hh hbd
def ky(B:List Bool)(r:Nat×Bool):Int:=if r.2 then 3 else if r.1<B.length then 13 else 0
structure lT(h:Hd)(p:Ph)(a q:List Int)(B:List Bool)(first:Int)(n:Nat):Prop where
 hd:qd h
 ph:tP p
 byt:bQ a
 len:a.length<=30000
 esc:jc a a.length [] 0 0=some q
 size:cJ q=(B.length,true)
 fits:B.length<=8*q.length
 bits:dp q B
 pos:0<=first
 many:1<=n
 all:first+(n:Nat)<=h.cols*h.rows
theorem jg{c r:Int}(h:gR c r):1<=c*r/\c*r<=64:=by
 have h1:=h.c0
 have h2:=h.c1
 have h3:=h.r0
 have h4:=h.r1
 constructor
 ·have:=Int.mul_le_mul h1 h3 (by omega) (by omega)
  omega
 ·have:=Int.mul_le_mul h2 h4 (by omega) (by omega)
  omega
theorem QK{S:bm}{B bw:List Bool}{m:Mb}{mb:Int}(hP:lS S B bw m mb)(hk:m.kind=0) :
 bh Tryz.prog 29 [.one (.ptr 2 0),.one (.ptr 0 0),.one (.ptr 22 0),.one (.int .i64 mb),.agg (mC m)] [aN 1 B,aq B,dJ (S),bM 4 8 12,aw 5 6 7 cM,aR cM,aT cM,aS cM,aw 9 10 11 cZ,aR cZ,aT cZ,aS cZ,aw 13 14 15 cP,aR cP,aT cP,aS cP,cn 17 (S).cols (S).rows,.map (ba (S).M),.cells [.int .i64 (S).cols,.int .i64 (S).rows,.map 19,.map 20,.map 21] 171 false false,.map (ag (S).A),.map (ag (S).B),.map (ag (S).C),aN 23 bw,aq bw] (.one (.int .i64 0)) [aN 24 ((B++az S m)),.dead,dJ (aX S mb m.v),bM 4 8 12,aw 5 6 7 cM,aR cM,aT cM,aS cM,aw 9 10 11 cZ,aR cZ,aT cZ,aS cZ,aw 13 14 15 cP,aR cP,aT cP,aS cP,cn 17 (aX S mb m.v).cols (aX S mb m.v).rows,.map (ba (aX S mb m.v).M),.cells [.int .i64 (aX S mb m.v).cols,.int .i64 (aX S mb m.v).rows,.map 19,.map 20,.map 21] 171 false false,.map (ag (aX S mb m.v).A),.map (ag (aX S mb m.v).B),.map (ag (aX S mb m.v).C),aN 25 bw,.dead,aq ((B++az S m)),aq bw]:=by
 have hg:=hP.good
 have hm:=hg.ok
 have hD:=hP.st.dims
 have hmb:=hP.mb
 have hlen:=hP.len
 have hkl:=f7 S m
 have hK:=jl B S m hm hg.kind hP.qp (by omega)
 rw[dV (by omega)]at hK
 have htE:cj S.M:=hP.st.tiny
 refine cO Tryz.func29 ?_
 repeat' (first
  |(refine qz ?_;first
   |refine fG ?_ (hle:=by rw[aI])
   |refine cl ?_ (hi:=by exact sd (S:=S) (S':=S) (bs:=B) (bs':=B++az S m) (fun _ => .flat .nil) (.flat .nil) rfl hK rfl rfl rfl rfl nL nA rfl)
   |refine cl ?_ (hi:=by exact ju (S:=S) (bs:=(B++az S m)) hD hmb rfl rfl rfl rfl nA rfl))
  |refine zz ?_|refine zx (fun _=>?_) (fun _=>?_)|fail)
 show aC _ _ _ _ _ _ _ _;refine kV [0,1,2,3,4,5,6,7,8,9,10,11,12,13,14,15,16,17,18,19,20,21,22,23,25,23] ?_
 rfl
theorem QL{S:bm}{B bw:List Bool}{m:Mb}{mb:Int}(hP:lS S B bw m mb)(hk:m.kind=1)(x:oD)(hx:fJ m mb ⟨aX (au m mb (S,B++az S m) 0).1 mb m.v,(au m mb (S,B++az S m) 0).2,0,0,fun _=>[]⟩ 6=some x) :
 bh Tryz.prog 29 [.one (.ptr 2 0),.one (.ptr 0 0),.one (.ptr 22 0),.one (.int .i64 mb),.agg (mC m)] [aN 1 B,aq B,dJ (S),bM 4 8 12,aw 5 6 7 cM,aR cM,aT cM,aS cM,aw 9 10 11 cZ,aR cZ,aT cZ,aS cZ,aw 13 14 15 cP,aR cP,aT cP,aS cP,cn 17 (S).cols (S).rows,.map (ba (S).M),.cells [.int .i64 (S).cols,.int .i64 (S).rows,.map 19,.map 20,.map 21] 171 false false,.map (ag (S).A),.map (ag (S).B),.map (ag (S).C),aN 23 bw,aq bw] (.one (.int .i64 0)) [aN 24 (fj x),.dead,dJ (x.S),bM 4 8 12,aw 5 6 7 cM,aR cM,aT cM,aS cM,aw 9 10 11 cZ,aR cZ,aT cZ,aS cZ,aw 13 14 15 cP,aR cP,aT cP,aS cP,cn 17 (x.S).cols (x.S).rows,.map (ba (x.S).M),.cells [.int .i64 (x.S).cols,.int .i64 (x.S).rows,.map 19,.map 20,.map 21] 171 false false,.map (ag (x.S).A),.map (ag (x.S).B),.map (ag (x.S).C),aN 25 (dq bw x 6),.dead,aq (fj x),aq (dq bw x 6)]:=by
 have hg:=hP.good
 have hm:=hg.ok
 have hD:=hP.st.dims
 have hmb:=hP.mb
 have hlen:=hP.len
 have hkl:=f7 S m
 have hK:=jl B S m hm hg.kind hP.qp (by omega)
 rw[dV (by omega)]at hK
 have ht0:cj (S.M):=hP.st.tiny
 have hl0:=gN (m.v 0) (b9 (S.M) S.cols S.rows mb 0)
 have htE:cj (aV (S.M) S.cols mb 0 (m.v 0)):=bL ht0 (hm.v 0)
 have hS2:iX (aX (au m mb (S,B++az S m) 0).1 mb m.v):=⟨hD,hP.st.lev,fh htE hm.v⟩
 have hB2:((au m mb (S,B++az S m) 0).2).length<=700000:=by
  show(((B++az S m)++cV (m.v 0) (b9 (S.M) S.cols S.rows mb 0))).length<=700000
  simp only[List.length_append,List.length_cons,List.length_nil]
  omega
 refine cO Tryz.func29 ?_
 repeat' (first
  |(refine qz ?_;first
   |refine fG ?_ (hle:=by rw[aI])
   |refine cl ?_ (hi:=by exact sd (S:=S) (S':=S) (bs:=B) (bs':=B++az S m) (fun _ => .flat .nil) (.flat .nil) rfl hK rfl rfl rfl rfl nL nA rfl)
   |refine cl ?_ (hi:=by exact fP (M:=S.M) (k:=0) ht0 hD hmb (by decide) (i:=16) (j:=17) rfl rfl (by decide) rfl)
   |refine cl ?_ (hi:=by exact jS (bs:=(B++az S m)) (v:=m.v 0) (e:=b9 (S.M) S.cols S.rows mb 0) (hm.v 0) (dk ht0) (hP.right 0 (by decide)) (by simp only[List.length_append];omega) rfl rfl (by decide) nL nA rfl)
   |refine cl ?_ (hi:=by exact dF (M:=S.M) (k:=0) (v:=m.v 0) hD hmb (by decide) (i:=16) (j:=17) rfl rfl (by decide) nA rfl)
   |refine cl ?_ (hi:=by exact ju (S:=(au m mb (S,B++az S m) 0).1) (bs:=(au m mb (S,B++az S m) 0).2) hD hmb rfl rfl rfl rfl nA rfl)
   |refine cl ?_ (hi:=by exact pG (B:=(au m mb (S,B++az S m) 0).2) (S:=aX (au m mb (S,B++az S m) 0).1 mb m.v) (pH ((au m mb (S,B++az S m) 0).2) bw (aX (au m mb (S,B++az S m) 0).1 mb m.v) m mb hg hS2 hmb hB2 (by have:=hP.lenw;omega) x hx) rfl rfl rfl rfl rfl rfl nL nA rfl))
  |refine WX.loop ?_|refine WX.round ?_|refine zz ?_|refine zx (fun _=>?_) (fun _=>?_)|fail)
 show aC _ _ _ _ _ _ _ _;refine kV [0,1,2,3,4,5,6,7,8,9,10,11,12,13,14,15,16,17,18,19,20,21,22,23,27,28] ?_
 rfl
theorem Po{S:bm}{B bw:List Bool}{m:Mb}{mb:Int}(hP:lS S B bw m mb)(hk:m.kind=1)(hx:fJ m mb ⟨aX (au m mb (S,B++az S m) 0).1 mb m.v,(au m mb (S,B++az S m) 0).2,0,0,fun _=>[]⟩ 6=none) :
 bh Tryz.prog 29 [.one (.ptr 2 0),.one (.ptr 0 0),.one (.ptr 22 0),.one (.int .i64 mb),.agg (mC m)] [aN 1 B,aq B,dJ (S),bM 4 8 12,aw 5 6 7 cM,aR cM,aT cM,aS cM,aw 9 10 11 cZ,aR cZ,aT cZ,aS cZ,aw 13 14 15 cP,aR cP,aT cP,aS cP,cn 17 (S).cols (S).rows,.map (ba (S).M),.cells [.int .i64 (S).cols,.int .i64 (S).rows,.map 19,.map 20,.map 21] 171 false false,.map (ag (S).A),.map (ag (S).B),.map (ag (S).C),aN 23 bw,aq bw] (.one (.int .i64 2)) om:=by
 have hg:=hP.good
 have hm:=hg.ok
 have hD:=hP.st.dims
 have hmb:=hP.mb
 have hlen:=hP.len
 have hkl:=f7 S m
 have hK:=jl B S m hm hg.kind hP.qp (by omega)
 rw[dV (by omega)]at hK
 have ht0:cj (S.M):=hP.st.tiny
 have hl0:=gN (m.v 0) (b9 (S.M) S.cols S.rows mb 0)
 have htE:cj (aV (S.M) S.cols mb 0 (m.v 0)):=bL ht0 (hm.v 0)
 have hS2:iX (aX (au m mb (S,B++az S m) 0).1 mb m.v):=⟨hD,hP.st.lev,fh htE hm.v⟩
 have hB2:((au m mb (S,B++az S m) 0).2).length<=700000:=by
  show(((B++az S m)++cV (m.v 0) (b9 (S.M) S.cols S.rows mb 0))).length<=700000
  simp only[List.length_append,List.length_cons,List.length_nil]
  omega
 refine cO Tryz.func29 ?_
 repeat' (first
  |(refine qz ?_;first
   |refine fG ?_ (hle:=by rw[aI])
   |refine cl ?_ (hi:=by exact sd (S:=S) (S':=S) (bs:=B) (bs':=B++az S m) (fun _ => .flat .nil) (.flat .nil) rfl hK rfl rfl rfl rfl nL nA rfl)
   |refine cl ?_ (hi:=by exact fP (M:=S.M) (k:=0) ht0 hD hmb (by decide) (i:=16) (j:=17) rfl rfl (by decide) rfl)
   |refine cl ?_ (hi:=by exact jS (bs:=(B++az S m)) (v:=m.v 0) (e:=b9 (S.M) S.cols S.rows mb 0) (hm.v 0) (dk ht0) (hP.right 0 (by decide)) (by simp only[List.length_append];omega) rfl rfl (by decide) nL nA rfl)
   |refine cl ?_ (hi:=by exact dF (M:=S.M) (k:=0) (v:=m.v 0) hD hmb (by decide) (i:=16) (j:=17) rfl rfl (by decide) nA rfl)
   |refine cl ?_ (hi:=by exact ju (S:=(au m mb (S,B++az S m) 0).1) (bs:=(au m mb (S,B++az S m) 0).2) hD hmb rfl rfl rfl rfl nA rfl)
   |refine cl ?_ (hi:=by exact nu (B:=(au m mb (S,B++az S m) 0).2) (S:=aX (au m mb (S,B++az S m) 0).1 mb m.v) (nw ((au m mb (S,B++az S m) 0).2) bw (aX (au m mb (S,B++az S m) 0).1 mb m.v) m mb hg hS2 hmb hB2 (by have:=hP.lenw;omega) hx) rfl rfl rfl rfl rfl rfl nL nA rfl))
  |refine WX.loop ?_|refine WX.round ?_|refine zz ?_|refine zx (fun _=>?_) (fun _=>?_)|fail)
 show aC _ _ _ _ _ _ _ _;refine kV [0,1,2,3,4,5,6,7,8,9,10,11,12,13,14,15,16,17,18,19,20,21,22,23] ?_
 rfl
end Go.Proofs.YtagpkhindehcbaaGreat
