/-
  A part of the proof: TakeA, Put1.
-/
import Derived.Test.YtagpkhindehcbaaGreatKdT
import Derived.Test.YtagpkhindehcbaaGreatKdU
set_option maxRecDepth 10000
set_option maxHeartbeats 8000000
set_option linter.unusedVariables false
set_option linter.unusedSectionVars false
set_option linter.unusedSimpArgs false
namespace Go.Proofs.YtagpkhindehcbaaGreat
open Go.Xm
variable [az]
abbrev Ol:=Mb × (Nat→Bool)
def iI (o:Ol):List XC:=fw o.1 o.2
instance:ry iI 397:=⟨fun _=>b9 _ _,fun _=>ub _ _,by decide⟩
structure TA where
 S:bC
 r:Nat × Bool
 out:List Ol
def p7 (B:List Bool) (first:Int) (x:TA):TA:=
 ⟨(dD x.S B (first+(x.out.length:Nat)) x.r).1.S,(dD x.S B (first+(x.out.length:Nat)) x.r).1.r,x.out++[((dD x.S B (first+(x.out.length:Nat)) x.r).1.m,(dD x.S B (first+(x.out.length:Nat)) x.r).2)]⟩
def l7 (B:List Bool) (first:Int):Nat→TA→TA
 | 0,x=>x
 | k+1,x=>if x.r.2=true then x else l7 B first k (p7 B first x)
def gR (h:Hd) (p:Ph):bC:=⟨p.id,p.inter,p.down,p.qp,p.qp,h.cols,h.rows,[],[],[],[]⟩
structure Cl (B:List Bool) (first:Int) (n:Nat) (c r:Int) (x s:TA):Prop where
 le:s.out.length≤n
 run:l7 B first (n-s.out.length) s=x
 cols:s.S.cols=c
 rows:s.S.rows=r
 tiny:ch s.S.M
 qp : -1000000≤s.S.qp∧s.S.qp≤1000000
theorem BP {B:List Bool} {first:Int} {n:Nat} {c r:Int} {x s:TA}(h:Cl B first n c r x s) (hn:s.out.length<n) (he:s.r.2=false):Cl B first n c r x (p7 B first s):=by
 have k:=PQ (B:=B) (r:=s.r) (mb:=first+(s.out.length:Nat)) h.tiny h.qp
 have hl:(p7 B first s).out.length=s.out.length+1:=by simp [p7]
 refine⟨by rw [hl];omega,?_,k.cols.trans h.cols,k.rows.trans h.rows,k.tiny,k.qp⟩
 have hr:=h.run
 obtain⟨j,hj⟩:∃ j,n-s.out.length=j+1:=⟨n-s.out.length-1,by omega⟩
 rw [hj,l7,if_neg (by rw [he];decide)]at hr
 rw [hl,show n-(s.out.length+1)=j by omega]
 exact hr
theorem uC {B:List Bool} {first:Int} {n:Nat} {c r:Int} {x s:TA}(h:Cl B first n c r x s) (hd:s.out.length=n∨s.r.2=true):s=x:=by
 have hr:=h.run
 rcases hd with hd|hd
 · rw [hd,Nat.sub_self]at hr;exact hr
 · obtain⟨j,hj⟩:∃ j,n-s.out.length=j:=⟨_,rfl⟩
   rw [hj]at hr
   cases j with
   | zero=>exact hr
   | succ j=>rw [l7,if_pos hd]at hr;exact hr
theorem oU {L:List Int} {B:List Bool} {p:Nat} {e b:Bool}(hb:e=b) {HS:aj} {i k:Nat}(hi:HS[i]? = some (br k L B p e)) (hk:HS[k]? = some (aM L)) (hd:i≠k) (hbd:Nat.blt HS.length Mem.bound=true) :
 aH.Sound Tryz.prog ⟨33,[.one (.ptr i 0)],HS,.one (.bool b),HS,[i]⟩:=by
 subst hb;exact gB hi hk hd hbd
theorem qP {L:List Int} {B:List Bool} {p:Nat} {e:Bool} {z:Int}(hz:(if e then 3 else if p<B.length then 13 else 0)=z) {HS:aj} {i k:Nat}(hi:HS[i]? = some (br k L B p e)) (hk:HS[k]? = some (aM L)) (hd:i≠k) (hbd:Nat.blt HS.length Mem.bound=true) :
 aH.Sound Tryz.prog ⟨35,[.one (.ptr i 0)],HS,.one (.int .i64 z),HS,[i]⟩:=by
 subst hz;exact KF hi hk hd hbd
theorem K8 {L:List Int} {B:List Bool}(hB:cK L B) {S:bC} {r:Nat × Bool} {mb:Int}(hD:gz S.cols S.rows) (hT:ch S.M) (hmb:0≤mb∧mb<S.cols*S.rows) (hq : -1000000≤S.qp∧S.qp≤1000000) {y:jc × (Nat→Bool)}(hy:dD S B mb r=y) {i k N:Nat}
 {HS:aj}(hi:HS[i]? = some (br k L B r.1 r.2)) (hk:HS[k]? = some (aM L)) (hS:HS.take 13=fk) (hN:(HS.drop N).take 7=xN S N) (hnd:(i::k::kB N []).Nodup)
 {HS':aj}(hh:bG HS [i,k,N,0,1,2,3,4,5,6,7,8,9,10,11,12,N+1,N+2,N+3,N+4,N+5,N+6] [br k L B y.1.r.1 y.1.r.2,aM L,H2 y.1.S N,bM 1 5 9,ax 2 3 4 cM,aU cM,aW cM,aV cM,ax 6 7 8 cZ,aU cZ,aW cZ,aV cZ,ax 10 11 12 cP,aU cP,aW cP,aV cP,cg (N+2) y.1.S.cols y.1.S.rows,.map (bg y.1.S.M),It y.1.S N,.map (ah y.1.S.A),.map (ah y.1.S.B),.map (ah y.1.S.C)]=HS') (hbd:Nat.blt HS'.length Mem.bound=true) :
 aH.Sound Tryz.prog ⟨34,[.one (.ptr N 0),.one (.ptr i 0),.one (.int .i64 mb)],HS,.agg (fw y.1.m y.2),HS',i::k::kB N []⟩:=by
 subst hy
 exact OI (z6 hB S r mb hD hT hmb hq) hi hk hS hN hnd (.cons (by show 2<22;omega) (.cons (by show 0<22;omega) (.flat .nil))) (.cons rfl (.cons rfl (.flat .nil))) hh hbd
def rC (B:List Bool) (r:Nat × Bool):Int:=if r.2 then 3 else if r.1<B.length then 13 else 0
structure qh (h:Hd) (p:Ph) (a q:List Int) (B:List Bool) (first:Int) (n:Nat):Prop where
 hd:s9 h
 ph:AJ p
 byt:dZ a
 len:a.length≤30000
 esc:j0 a a.length [] 0 0=some q
 size:ef q=(B.length,true)
 fits:B.length≤8*q.length
 bits:cK q B
 pos:0≤first
 many:1≤n
 all:first+(n:Nat)≤h.cols*h.rows
theorem jE {c r:Int}(h:gz c r):1≤c*r∧c*r≤64:=by
 have h1:=h.c0
 have h2:=h.c1
 have h3:=h.r0
 have h4:=h.r1
 constructor
 · have:=Int.mul_le_mul h1 h3 (by omega) (by omega)
   omega
 · have:=Int.mul_le_mul h2 h4 (by omega) (by omega)
   omega
theorem Iz {h:Hd} {p:Ph} {a q:List Int} {B:List Bool} {first:Int} {n:Nat}(hT:qh h p a q B first n) {x:TA}(hx:l7 B first n ⟨gR h p,(0,false),[]⟩=x) (he:rC B x.r=0) :
 bn Tryz.prog 12 [.one (.ptr 0 0),.agg (gO h),.agg (iJ p),.one (.int .i64 first),.one (.int .i64 (n:Nat)),fS 13 a.length 1] [bM 1 5 9,ax 2 3 4 cM,aU cM,aW cM,aV cM,ax 6 7 8 cZ,aU cZ,aW cZ,aV cZ,ax 10 11 12 cP,aU cP,aW cP,aV cP,b8 5 (il .u8 a)] (.tup [.one (gQ 14 x.out.length 397),.one (.int .i64 0)]) [bM 1 5 9,ax 2 3 4 cM,aU cM,aW cM,aV cM,ax 6 7 8 cZ,aU cZ,aW cZ,aV cZ,ax 10 11 12 cP,aU cP,aW cP,aV cP,b8 5 (il .u8 a),b8 56 (fl iI x.out)]:=by
 have h1:=hT.hd.dims.c0
 have h2:=hT.hd.dims.c1
 have h3:=hT.hd.dims.r0
 have h4:=hT.hd.dims.r1
 have hf:=hT.pos
 have hm:=hT.many
 have ha:=hT.all
 have hcr:1≤h.cols*h.rows∧h.cols*h.rows≤64:=jE hT.hd.dims
 refine cO Tryz.func12 ?_
 repeat' (first
  |(refine qz ?_;first
   |refine fW ?_ (hle:=by rw [bE])
   |refine cl ?_ (hi:=by exact oK hT.hd rfl)
   |refine cl ?_ (hi:=by exact oS hT.ph rfl)
   |refine cl ?_ (hi:=by exact CW hT.byt hT.len hT.esc hT.size hT.fits rfl rfl nL nA rfl)
   |refine cl ?_ (hi:=by exact nO hT.hd rfl nL nA rfl))
  |refine zz ?_|refine zx (fun _=>?_) (fun _=>?_)|fail)
 refine WX.cW rfl ?_
 refine WX.cS (σ:=TA) (fun s=>[(3,.one (.int .i64 first)),(4,.one (.int .i64 (n:Nat))),(14,.one (.ptr 14 0)),(16,.one (.ptr 16 0)),(17,fS 23 s.out.length 397),(18,.one (.int .i64 (s.out.length:Nat)))]) (fun s=>[bM 1 5 9,ax 2 3 4 cM,aU cM,aW cM,aV cM,ax 6 7 8 cZ,aU cZ,aW cZ,aV cZ,ax 10 11 12 cP,aU cP,aW cP,aV cP,b8 5 (il .u8 a),br 15 q B s.r.1 s.r.2,aM q,H2 s.S 16,cg 18 s.S.cols s.S.rows,.map (bg s.S.M),It s.S 16,.map (ah s.S.A),.map (ah s.S.B),.map (ah s.S.C),b8 56 (fl iI s.out)]) (Cl B first n h.cols h.rows x) (fun s=>n-s.out.length) ⟨gR h p,(0,false),[]⟩ ⟨Nat.zero_le _,hx,rfl,rfl,wv,by have:=hT.ph.qp;show -1000000≤p.qp∧p.qp≤1000000;omega⟩ (fun s _=>j5) (bh [0,1,2,3,4,5,6,7,8,9,10,11,12,13,16,17,18,19,20,21,22,23,24,25]) ?_
 intro s hs ih
 have hle:=hs.le
 have hn36:n≤64:=by omega
 have hlen:s.out.length≤64:=by omega
 by_cases hlt:s.out.length<n
 · obtain⟨b,hr⟩:∃ b,s.r.2=b:=⟨_,rfl⟩
   cases b with
   | false=>
     have yt:gz s.S.cols s.S.rows:=by rw [hs.cols,hs.rows];exact hT.hd.dims
     have hmb:0≤first+(s.out.length:Nat)∧first+(s.out.length:Nat)<s.S.cols*s.S.rows:=by rw [hs.cols,hs.rows];omega
     obtain⟨y,hy⟩:∃ y,dD s.S B (first+(s.out.length:Nat)) s.r=y:=⟨_,rfl⟩
     repeat' (first
      |(refine qz ?_;first
       |refine cl ?_ (hi:=by exact oU hr rfl rfl (by decide) rfl)
       |refine cl ?_ (hi:=by exact K8 hT.bits (S:=s.S) (r:=s.r) yt hs.tiny hmb hs.qp hy (i:=14) (k:=15) (N:=16) rfl rfl rfl rfl (by decide) nA rfl)
       |refine pf (enc:=iI) (a:=(y.1.m,y.2)) ?_
       |refine tg (enc:=iI) ?_)
      |refine zz ?_|refine zx (fun _=>?_) (fun _=>?_)|fail)
     have e0:p7 B first s=⟨y.1.S,y.1.r,s.out++[(y.1.m,y.2)]⟩:=by unfold p7;rw [hy]
     have hnx:=BP hs hlt hr
     rw [e0]at hnx
     refine ih ⟨y.1.S,y.1.r,s.out++[(y.1.m,y.2)]⟩ _ _ _ (bh [0,1,2,3,4,5,6,7,8,9,10,11,12,13,14,15,16,17,18,19,20,21,22,25] (obj:=by(repeat' (first|exact ae.nil|refine ae.flat (by rw [List.length_append];rfl) ?_|refine ae.flat rfl ?_|refine ae.cons rfl ?_|refine ae.dead rfl ?_|refine ae.cons (by simp only [ak.ay,List.map_cons,List.map_nil,XC.ay,aw];exact rfl) ?_));first|done|fail) (reg:=by(repeat' (first|exact af.nil|refine af.flat (by rw [List.length_append];rfl) ?_|refine af.flat rfl ?_|refine af.cons rfl ?_|refine af.sl rfl (by assumption) rfl ?_|refine af.dY rfl rfl (by first|rfl|omega|(simp;done)|(simp;omega)) ?_));first|done|fail)) hnx (by show n-(s.out++[(y.1.m,y.2)]).length<n-s.out.length;rw [List.length_append];show n-(s.out.length+1)<_;omega)
   | true=>
     obtain rfl:=uC hs (.inr hr)
     repeat' (first
      |(refine qz ?_;first
       |refine cl ?_ (hi:=by exact oU hr rfl rfl (by decide) rfl)
       |refine cl ?_ (hi:=by exact qP he rfl rfl (by decide) rfl))
      |refine zz ?_|refine zx (fun _=>?_) (fun _=>?_)|fail)
     show aC _ _ _ _ _ _ _ _;refine kV [0,1,2,3,4,5,6,7,8,9,10,11,12,13,23] ?_
     simp only [XV.ay,List.map_cons,List.map_nil,X1.ay,aw];rfl
 · obtain rfl:=uC hs (.inl (by omega))
   repeat' (first
    |(refine qz ?_;first
     |refine cl ?_ (hi:=by exact qP he rfl rfl (by decide) rfl))
    |refine zz ?_|refine zx (fun _=>?_) (fun _=>?_)|fail)
   show aC _ _ _ _ _ _ _ _;refine kV [0,1,2,3,4,5,6,7,8,9,10,11,12,13,23] ?_
   simp only [XV.ay,List.map_cons,List.map_nil,X1.ay,aw];rfl
end Go.Proofs.YtagpkhindehcbaaGreat
namespace Go.Proofs.YtagpkhindehcbaaGreat
open Go.Xm
variable [az]
theorem OP {S:bC} {B bw:List Bool} {m:Mb} {mb:Int}(hP:kP S B bw m mb) (hk:m.kind=0) :
 bn Tryz.prog 29 [.one (.ptr 2 0),.one (.ptr 0 0),.one (.ptr 22 0),.one (.int .i64 mb),.agg (mC m)] [aP 1 B,aq B,du (S),bM 4 8 12,ax 5 6 7 cM,aU cM,aW cM,aV cM,ax 9 10 11 cZ,aU cZ,aW cZ,aV cZ,ax 13 14 15 cP,aU cP,aW cP,aV cP,cg 17 (S).cols (S).rows,.map (bg (S).M),.cells [.int .i64 (S).cols,.int .i64 (S).rows,.map 19,.map 20,.map 21] 171 false false,.map (ah (S).A),.map (ah (S).B),.map (ah (S).C),aP 23 bw,aq bw] (.one (.int .i64 0)) [aP 24 ((B++aB S m)),.dead,du (ba S mb m.v),bM 4 8 12,ax 5 6 7 cM,aU cM,aW cM,aV cM,ax 9 10 11 cZ,aU cZ,aW cZ,aV cZ,ax 13 14 15 cP,aU cP,aW cP,aV cP,cg 17 (ba S mb m.v).cols (ba S mb m.v).rows,.map (bg (ba S mb m.v).M),.cells [.int .i64 (ba S mb m.v).cols,.int .i64 (ba S mb m.v).rows,.map 19,.map 20,.map 21] 171 false false,.map (ah (ba S mb m.v).A),.map (ah (ba S mb m.v).B),.map (ah (ba S mb m.v).C),aP 25 bw,.dead,aq ((B++aB S m)),aq bw]:=by
 have hg:=hP.good
 have hm:=hg.ok
 have hD:=hP.st.dims
 have hmb:=hP.mb
 have hlen:=hP.len
 have hkl:=fN S m
 have hK:=iR B S m hm hg.kind hP.qp (by omega)
 rw [dK (by omega)]at hK
 have htE:ch S.M:=hP.st.tiny
 refine cO Tryz.func29 ?_
 repeat' (first
  |(refine qz ?_;first
   |refine fW ?_ (hle:=by rw [aJ])
   |refine cl ?_ (hi:=by exact q8 (S:=S) (S':=S) (bs:=B) (bs':=B++aB S m) (fun _ => .flat .nil) (.flat .nil) rfl hK rfl rfl rfl rfl nL nA rfl)
   |refine cl ?_ (hi:=by exact i4 (S:=S) (bs:=(B++aB S m)) hD hmb rfl rfl rfl rfl nA rfl))
  |refine zz ?_|refine zx (fun _=>?_) (fun _=>?_)|fail)
 show aC _ _ _ _ _ _ _ _;refine kV [0,1,2,3,4,5,6,7,8,9,10,11,12,13,14,15,16,17,18,19,20,21,22,23,25,23] ?_
 rfl
theorem OQ {S:bC} {B bw:List Bool} {m:Mb} {mb:Int}(hP:kP S B bw m mb) (hk:m.kind=1) (x:pe) (hx:fq m mb ⟨ba (av m mb (S,B++aB S m) 0).1 mb m.v,(av m mb (S,B++aB S m) 0).2,0,0,fun _=>[]⟩ 6=some x) :
 bn Tryz.prog 29 [.one (.ptr 2 0),.one (.ptr 0 0),.one (.ptr 22 0),.one (.int .i64 mb),.agg (mC m)] [aP 1 B,aq B,du (S),bM 4 8 12,ax 5 6 7 cM,aU cM,aW cM,aV cM,ax 9 10 11 cZ,aU cZ,aW cZ,aV cZ,ax 13 14 15 cP,aU cP,aW cP,aV cP,cg 17 (S).cols (S).rows,.map (bg (S).M),.cells [.int .i64 (S).cols,.int .i64 (S).rows,.map 19,.map 20,.map 21] 171 false false,.map (ah (S).A),.map (ah (S).B),.map (ah (S).C),aP 23 bw,aq bw] (.one (.int .i64 0)) [aP 24 (eY x),.dead,du (x.S),bM 4 8 12,ax 5 6 7 cM,aU cM,aW cM,aV cM,ax 9 10 11 cZ,aU cZ,aW cZ,aV cZ,ax 13 14 15 cP,aU cP,aW cP,aV cP,cg 17 (x.S).cols (x.S).rows,.map (bg (x.S).M),.cells [.int .i64 (x.S).cols,.int .i64 (x.S).rows,.map 19,.map 20,.map 21] 171 false false,.map (ah (x.S).A),.map (ah (x.S).B),.map (ah (x.S).C),aP 25 (bB bw x 6),.dead,aq (eY x),aq (bB bw x 6)]:=by
 have hg:=hP.good
 have hm:=hg.ok
 have hD:=hP.st.dims
 have hmb:=hP.mb
 have hlen:=hP.len
 have hkl:=fN S m
 have hK:=iR B S m hm hg.kind hP.qp (by omega)
 rw [dK (by omega)]at hK
 have ht0:ch (S.M):=hP.st.tiny
 have hl0:=gu (m.v 0) (cf (S.M) S.cols S.rows mb 0)
 have htE:ch (aZ (S.M) S.cols mb 0 (m.v 0)):=bH ht0 (hm.v 0)
 have hS2:iy (ba (av m mb (S,B++aB S m) 0).1 mb m.v):=⟨hD,hP.st.lev,eJ htE hm.v⟩
 have hB2:((av m mb (S,B++aB S m) 0).2).length≤700000:=by
  show(((B++aB S m)++cJ (m.v 0) (cf (S.M) S.cols S.rows mb 0))).length≤700000
  simp only [List.length_append,List.length_cons,List.length_nil]
  omega
 refine cO Tryz.func29 ?_
 repeat' (first
  |(refine qz ?_;first
   |refine fW ?_ (hle:=by rw [aJ])
   |refine cl ?_ (hi:=by exact q8 (S:=S) (S':=S) (bs:=B) (bs':=B++aB S m) (fun _ => .flat .nil) (.flat .nil) rfl hK rfl rfl rfl rfl nL nA rfl)
   |refine cl ?_ (hi:=by exact fz (M:=S.M) (k:=0) ht0 hD hmb (by decide) (i:=16) (j:=17) rfl rfl (by decide) rfl)
   |refine cl ?_ (hi:=by exact jv (bs:=(B++aB S m)) (v:=m.v 0) (e:=cf (S.M) S.cols S.rows mb 0) (hm.v 0) (cV ht0) (hP.right 0 (by decide)) (by simp only [List.length_append];omega) rfl rfl (by decide) nL nA rfl)
   |refine cl ?_ (hi:=by exact dh (M:=S.M) (k:=0) (v:=m.v 0) hD hmb (by decide) (i:=16) (j:=17) rfl rfl (by decide) nA rfl)
   |refine cl ?_ (hi:=by exact i4 (S:=(av m mb (S,B++aB S m) 0).1) (bs:=(av m mb (S,B++aB S m) 0).2) hD hmb rfl rfl rfl rfl nA rfl)
   |refine cl ?_ (hi:=by exact oG (B:=(av m mb (S,B++aB S m) 0).2) (S:=ba (av m mb (S,B++aB S m) 0).1 mb m.v) (oH ((av m mb (S,B++aB S m) 0).2) bw (ba (av m mb (S,B++aB S m) 0).1 mb m.v) m mb hg hS2 hmb hB2 (by have:=hP.lenw;omega) x hx) rfl rfl rfl rfl rfl rfl nL nA rfl))
  |refine WX.loop ?_|refine WX.round ?_|refine zz ?_|refine zx (fun _=>?_) (fun _=>?_)|fail)
 show aC _ _ _ _ _ _ _ _;refine kV [0,1,2,3,4,5,6,7,8,9,10,11,12,13,14,15,16,17,18,19,20,21,22,23,27,28] ?_
 rfl
theorem No {S:bC} {B bw:List Bool} {m:Mb} {mb:Int}(hP:kP S B bw m mb) (hk:m.kind=1) (hx:fq m mb ⟨ba (av m mb (S,B++aB S m) 0).1 mb m.v,(av m mb (S,B++aB S m) 0).2,0,0,fun _=>[]⟩ 6=none) :
 bn Tryz.prog 29 [.one (.ptr 2 0),.one (.ptr 0 0),.one (.ptr 22 0),.one (.int .i64 mb),.agg (mC m)] [aP 1 B,aq B,du (S),bM 4 8 12,ax 5 6 7 cM,aU cM,aW cM,aV cM,ax 9 10 11 cZ,aU cZ,aW cZ,aV cZ,ax 13 14 15 cP,aU cP,aW cP,aV cP,cg 17 (S).cols (S).rows,.map (bg (S).M),.cells [.int .i64 (S).cols,.int .i64 (S).rows,.map 19,.map 20,.map 21] 171 false false,.map (ah (S).A),.map (ah (S).B),.map (ah (S).C),aP 23 bw,aq bw] (.one (.int .i64 2)) nr:=by
 have hg:=hP.good
 have hm:=hg.ok
 have hD:=hP.st.dims
 have hmb:=hP.mb
 have hlen:=hP.len
 have hkl:=fN S m
 have hK:=iR B S m hm hg.kind hP.qp (by omega)
 rw [dK (by omega)]at hK
 have ht0:ch (S.M):=hP.st.tiny
 have hl0:=gu (m.v 0) (cf (S.M) S.cols S.rows mb 0)
 have htE:ch (aZ (S.M) S.cols mb 0 (m.v 0)):=bH ht0 (hm.v 0)
 have hS2:iy (ba (av m mb (S,B++aB S m) 0).1 mb m.v):=⟨hD,hP.st.lev,eJ htE hm.v⟩
 have hB2:((av m mb (S,B++aB S m) 0).2).length≤700000:=by
  show(((B++aB S m)++cJ (m.v 0) (cf (S.M) S.cols S.rows mb 0))).length≤700000
  simp only [List.length_append,List.length_cons,List.length_nil]
  omega
 refine cO Tryz.func29 ?_
 repeat' (first
  |(refine qz ?_;first
   |refine fW ?_ (hle:=by rw [aJ])
   |refine cl ?_ (hi:=by exact q8 (S:=S) (S':=S) (bs:=B) (bs':=B++aB S m) (fun _ => .flat .nil) (.flat .nil) rfl hK rfl rfl rfl rfl nL nA rfl)
   |refine cl ?_ (hi:=by exact fz (M:=S.M) (k:=0) ht0 hD hmb (by decide) (i:=16) (j:=17) rfl rfl (by decide) rfl)
   |refine cl ?_ (hi:=by exact jv (bs:=(B++aB S m)) (v:=m.v 0) (e:=cf (S.M) S.cols S.rows mb 0) (hm.v 0) (cV ht0) (hP.right 0 (by decide)) (by simp only [List.length_append];omega) rfl rfl (by decide) nL nA rfl)
   |refine cl ?_ (hi:=by exact dh (M:=S.M) (k:=0) (v:=m.v 0) hD hmb (by decide) (i:=16) (j:=17) rfl rfl (by decide) nA rfl)
   |refine cl ?_ (hi:=by exact i4 (S:=(av m mb (S,B++aB S m) 0).1) (bs:=(av m mb (S,B++aB S m) 0).2) hD hmb rfl rfl rfl rfl nA rfl)
   |refine cl ?_ (hi:=by exact mE (B:=(av m mb (S,B++aB S m) 0).2) (S:=ba (av m mb (S,B++aB S m) 0).1 mb m.v) (mG ((av m mb (S,B++aB S m) 0).2) bw (ba (av m mb (S,B++aB S m) 0).1 mb m.v) m mb hg hS2 hmb hB2 (by have:=hP.lenw;omega) hx) rfl rfl rfl rfl rfl rfl nL nA rfl))
  |refine WX.loop ?_|refine WX.round ?_|refine zz ?_|refine zx (fun _=>?_) (fun _=>?_)|fail)
 show aC _ _ _ _ _ _ _ _;refine kV [0,1,2,3,4,5,6,7,8,9,10,11,12,13,14,15,16,17,18,19,20,21,22,23] ?_
 rfl
end Go.Proofs.YtagpkhindehcbaaGreat
