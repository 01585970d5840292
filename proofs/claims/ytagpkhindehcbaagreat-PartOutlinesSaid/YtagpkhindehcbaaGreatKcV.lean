/-
  A part of the proof: TakeA, Put1.
-/
import Derived.Test.YtagpkhindehcbaaGreatKcT
import Derived.Test.YtagpkhindehcbaaGreatKcU
set_option maxRecDepth 10000
set_option maxHeartbeats 8000000
set_option linter.unusedVariables false
set_option linter.unusedSectionVars false
set_option linter.unusedSimpArgs false
namespace Go.Proofs.YtagpkhindehcbaaGreat
open Go.Xm
variable [az]
abbrev Ol:=Mb × (Nat→Bool)
def gz (o:Ol):List XC:=eO o.1 o.2
instance:qQ gz 397:=⟨fun _=>b7 _ _,fun _=>tJ _ _,by decide⟩
structure TA where
 S:bz
 r:Nat × Bool
 out:List Ol
def pR (B:List Bool) (first:Int) (x:TA):TA:=
 ⟨(dC x.S B (first+(x.out.length:Nat)) x.r).1.S,(dC x.S B (first+(x.out.length:Nat)) x.r).1.r,x.out++[((dC x.S B (first+(x.out.length:Nat)) x.r).1.m,(dC x.S B (first+(x.out.length:Nat)) x.r).2)]⟩
def n8 (B:List Bool) (first:Int):Nat→TA→TA
 | 0,x=>x
 | k+1,x=>if x.r.2=true then x else n8 B first k (pR B first x)
def jJ (h:Hd) (p:Ph):bz:=⟨p.id,p.inter,p.down,p.qp,p.qp,h.cols,h.rows,[],[],[],[]⟩
structure BK (B:List Bool) (first:Int) (n:Nat) (c r:Int) (x s:TA):Prop where
 le:s.out.length≤n
 run:n8 B first (n-s.out.length) s=x
 cols:s.S.cols=c
 rows:s.S.rows=r
 tiny:cj s.S.M
 qp : -1000000≤s.S.qp∧s.S.qp≤1000000
theorem Ba {B:List Bool} {first:Int} {n:Nat} {c r:Int} {x s:TA}(h:BK B first n c r x s) (hn:s.out.length<n) (he:s.r.2=false):BK B first n c r x (pR B first s):=by
 have k:=OE (B:=B) (r:=s.r) (mb:=first+(s.out.length:Nat)) h.tiny h.qp
 have hl:(pR B first s).out.length=s.out.length+1:=by simp [pR]
 refine⟨by rw [hl];omega,?_,k.cols.trans h.cols,k.rows.trans h.rows,k.tiny,k.qp⟩
 have hr:=h.run
 obtain⟨j,hj⟩:∃ j,n-s.out.length=j+1:=⟨n-s.out.length-1,by omega⟩
 rw [hj,n8,if_neg (by rw [he];decide)]at hr
 rw [hl,show n-(s.out.length+1)=j by omega]
 exact hr
theorem t_ {B:List Bool} {first:Int} {n:Nat} {c r:Int} {x s:TA}(h:BK B first n c r x s) (hd:s.out.length=n∨s.r.2=true):s=x:=by
 have hr:=h.run
 rcases hd with hd|hd
 · rw [hd,Nat.sub_self]at hr;exact hr
 · obtain⟨j,hj⟩:∃ j,n-s.out.length=j:=⟨_,rfl⟩
   rw [hj]at hr
   cases j with
   | zero=>exact hr
   | succ j=>rw [n8,if_pos hd]at hr;exact hr
theorem vJ {L:List Int} {B:List Bool} {p:Nat} {e b:Bool}(hb:e=b) {HS:ak} {i k:Nat}(hi:HS[i]? = some (bI k L B p e)) (hk:HS[k]? = some (aR L)) (hd:i≠k) (hbd:Nat.blt HS.length Mem.bound=true) :
 aI.Sound Tryz.prog ⟨33,[.one (.ptr i 0)],HS,.one (.bool b),HS,[i]⟩:=by
 subst hb;exact lY hi hk hd hbd
theorem Cs {L:List Int} {B:List Bool} {p:Nat} {e:Bool} {z:Int}(hz:(if e then 3 else if p<B.length then 13 else 0)=z) {HS:ak} {i k:Nat}(hi:HS[i]? = some (bI k L B p e)) (hk:HS[k]? = some (aR L)) (hd:i≠k) (hbd:Nat.blt HS.length Mem.bound=true) :
 aI.Sound Tryz.prog ⟨35,[.one (.ptr i 0)],HS,.one (.int .i64 z),HS,[i]⟩:=by
 subst hz;exact JM hi hk hd hbd
theorem Kd {L:List Int} {B:List Bool}(hB:dG L B) {S:bz} {r:Nat × Bool} {mb:Int}(hD:gw S.cols S.rows) (hT:cj S.M) (hmb:0≤mb∧mb<S.cols*S.rows) (hq : -1000000≤S.qp∧S.qp≤1000000) {y:i_ × (Nat→Bool)}(hy:dC S B mb r=y) {i k N:Nat}
 {HS:ak}(hi:HS[i]? = some (bI k L B r.1 r.2)) (hk:HS[k]? = some (aR L)) (hS:HS.take 13=gM) (hN:(HS.drop N).take 7=xi S N) (hnd:(i::k::kA N []).Nodup)
 {HS':ak}(hh:bN HS [i,k,N,0,1,2,3,4,5,6,7,8,9,10,11,12,N+1,N+2,N+3,N+4,N+5,N+6] [bI k L B y.1.r.1 y.1.r.2,aR L,G_ y.1.S N,bR 1 5 9,ay 2 3 4 cM,aX cM,aZ cM,aY cM,ay 6 7 8 cZ,aX cZ,aZ cZ,aY cZ,ay 10 11 12 cP,aX cP,aZ cP,aY cP,ch (N+2) y.1.S.cols y.1.S.rows,.map (bg y.1.S.M),Hy y.1.S N,.map (ah y.1.S.A),.map (ah y.1.S.B),.map (ah y.1.S.C)]=HS') (hbd:Nat.blt HS'.length Mem.bound=true) :
 aI.Sound Tryz.prog ⟨34,[.one (.ptr N 0),.one (.ptr i 0),.one (.int .i64 mb)],HS,.agg (eO y.1.m y.2),HS',i::k::kA N []⟩:=by
 subst hy
 exact Nu (zo hB S r mb hD hT hmb hq) hi hk hS hN hnd (.cons (by show 2<22;omega) (.cons (by show 0<22;omega) (.flat .nil))) (.cons rfl (.cons rfl (.flat .nil))) hh hbd
def FB (B:List Bool) (r:Nat × Bool):Int:=if r.2 then 3 else if r.1<B.length then 13 else 0
structure wq (h:Hd) (p:Ph) (a q:List Int) (B:List Bool) (first:Int) (n:Nat):Prop where
 hd:sM h
 ph:z9 p
 byt:eI a
 len:a.length≤30000
 esc:lE a a.length [] 0 0=some q
 size:fm q=(B.length,true)
 fits:B.length≤8*q.length
 bits:dG q B
 pos:0≤first
 many:1≤n
 all:first+(n:Nat)≤h.cols*h.rows
theorem kh {c r:Int}(h:gw c r):1≤c*r∧c*r≤64:=by
 have h1:=h.c0
 have h2:=h.c1
 have h3:=h.r0
 have h4:=h.r1
 constructor
 · have:=Int.mul_le_mul h1 h3 (by omega) (by omega)
   omega
 · have:=Int.mul_le_mul h2 h4 (by omega) (by omega)
   omega
theorem HD {h:Hd} {p:Ph} {a q:List Int} {B:List Bool} {first:Int} {n:Nat}(hT:wq h p a q B first n) {x:TA}(hx:n8 B first n ⟨jJ h p,(0,false),[]⟩=x) (he:FB B x.r=0) :
 bt Tryz.prog 12 [.one (.ptr 0 0),.agg (iz h),.agg (jh p),.one (.int .i64 first),.one (.int .i64 (n:Nat)),iK 13 a.length 1] [bR 1 5 9,ay 2 3 4 cM,aX cM,aZ cM,aY cM,ay 6 7 8 cZ,aX cZ,aZ cZ,aY cZ,ay 10 11 12 cP,aX cP,aZ cP,aY cP,cK 5 (il .u8 a)] (.tup [.one (kC 14 x.out.length 397),.one (.int .i64 0)]) [bR 1 5 9,ay 2 3 4 cM,aX cM,aZ cM,aY cM,ay 6 7 8 cZ,aX cZ,aZ cZ,aY cZ,ay 10 11 12 cP,aX cP,aZ cP,aY cP,cK 5 (il .u8 a),cK 56 (fl gz x.out)]:=by
 have h1:=hT.hd.dims.c0
 have h2:=hT.hd.dims.c1
 have h3:=hT.hd.dims.r0
 have h4:=hT.hd.dims.r1
 have hf:=hT.pos
 have hm:=hT.many
 have ha:=hT.all
 have hcr:1≤h.cols*h.rows∧h.cols*h.rows≤64:=kh hT.hd.dims
 refine cO Tryz.func12 ?_
 repeat' (first
  |(refine qz ?_;first
   |refine fy ?_ (hle:=by rw [bM])
   |refine cl ?_ (hi:=by exact oA hT.hd rfl)
   |refine cl ?_ (hi:=by exact oG hT.ph rfl)
   |refine cl ?_ (hi:=by exact Jz hT.byt hT.len hT.esc hT.size hT.fits rfl rfl nL nA rfl)
   |refine cl ?_ (hi:=by exact nF hT.hd rfl nL nA rfl))
  |refine zz ?_|refine zx (fun _=>?_) (fun _=>?_)|fail)
 refine WX.dv rfl ?_
 refine WX.dp (σ:=TA) (fun s=>[(3,.one (.int .i64 first)),(4,.one (.int .i64 (n:Nat))),(14,.one (.ptr 14 0)),(16,.one (.ptr 16 0)),(17,iK 23 s.out.length 397),(18,.one (.int .i64 (s.out.length:Nat)))]) (fun s=>[bR 1 5 9,ay 2 3 4 cM,aX cM,aZ cM,aY cM,ay 6 7 8 cZ,aX cZ,aZ cZ,aY cZ,ay 10 11 12 cP,aX cP,aZ cP,aY cP,cK 5 (il .u8 a),bI 15 q B s.r.1 s.r.2,aR q,G_ s.S 16,ch 18 s.S.cols s.S.rows,.map (bg s.S.M),Hy s.S 16,.map (ah s.S.A),.map (ah s.S.B),.map (ah s.S.C),cK 56 (fl gz s.out)]) (BK B first n h.cols h.rows x) (fun s=>n-s.out.length) ⟨jJ h p,(0,false),[]⟩ ⟨Nat.zero_le _,hx,rfl,rfl,vS,by have:=hT.ph.qp;show -1000000≤p.qp∧p.qp≤1000000;omega⟩ (fun s _=>kS) (bm [0,1,2,3,4,5,6,7,8,9,10,11,12,13,16,17,18,19,20,21,22,23,24,25]) ?_
 intro s hs ih
 have hle:=hs.le
 have hn36:n≤64:=by omega
 have hlen:s.out.length≤64:=by omega
 by_cases hlt:s.out.length<n
 · obtain⟨b,hr⟩:∃ b,s.r.2=b:=⟨_,rfl⟩
   cases b with
   | false=>
     have xT:gw s.S.cols s.S.rows:=by rw [hs.cols,hs.rows];exact hT.hd.dims
     have hmb:0≤first+(s.out.length:Nat)∧first+(s.out.length:Nat)<s.S.cols*s.S.rows:=by rw [hs.cols,hs.rows];omega
     obtain⟨y,hy⟩:∃ y,dC s.S B (first+(s.out.length:Nat)) s.r=y:=⟨_,rfl⟩
     repeat' (first
      |(refine qz ?_;first
       |refine cl ?_ (hi:=by exact vJ hr rfl rfl (by decide) rfl)
       |refine cl ?_ (hi:=by exact Kd hT.bits (S:=s.S) (r:=s.r) xT hs.tiny hmb hs.qp hy (i:=14) (k:=15) (N:=16) rfl rfl rfl rfl (by decide) nA rfl)
       |refine qU (enc:=gz) (a:=(y.1.m,y.2)) ?_
       |refine uL (enc:=gz) ?_)
      |refine zz ?_|refine zx (fun _=>?_) (fun _=>?_)|fail)
     have e0:pR B first s=⟨y.1.S,y.1.r,s.out++[(y.1.m,y.2)]⟩:=by unfold pR;rw [hy]
     have hnx:=Ba hs hlt hr
     rw [e0]at hnx
     refine ih ⟨y.1.S,y.1.r,s.out++[(y.1.m,y.2)]⟩ _ _ _ (bm [0,1,2,3,4,5,6,7,8,9,10,11,12,13,14,15,16,17,18,19,20,21,22,25] (obj:=by(repeat' (first|exact ae.nil|refine ae.flat (by rw [List.length_append];rfl) ?_|refine ae.flat rfl ?_|refine ae.cons rfl ?_|refine ae.dead rfl ?_|refine ae.cons (by simp only [aj.au,List.map_cons,List.map_nil,XC.au,aq];exact rfl) ?_));first|done|fail) (reg:=by(repeat' (first|exact af.nil|refine af.flat (by rw [List.length_append];rfl) ?_|refine af.flat rfl ?_|refine af.cons rfl ?_|refine af.sl rfl (by assumption) rfl ?_|refine af.du rfl rfl (by first|rfl|omega|(simp;done)|(simp;omega)) ?_));first|done|fail)) hnx (by show n-(s.out++[(y.1.m,y.2)]).length<n-s.out.length;rw [List.length_append];show n-(s.out.length+1)<_;omega)
   | true=>
     obtain rfl:=t_ hs (.inr hr)
     repeat' (first
      |(refine qz ?_;first
       |refine cl ?_ (hi:=by exact vJ hr rfl rfl (by decide) rfl)
       |refine cl ?_ (hi:=by exact Cs he rfl rfl (by decide) rfl))
      |refine zz ?_|refine zx (fun _=>?_) (fun _=>?_)|fail)
     show aH _ _ _ _ _ _ _ _;refine kV [0,1,2,3,4,5,6,7,8,9,10,11,12,13,23] ?_
     simp only [XV.au,List.map_cons,List.map_nil,X1.au,aq];rfl
 · obtain rfl:=t_ hs (.inl (by omega))
   repeat' (first
    |(refine qz ?_;first
     |refine cl ?_ (hi:=by exact Cs he rfl rfl (by decide) rfl))
    |refine zz ?_|refine zx (fun _=>?_) (fun _=>?_)|fail)
   show aH _ _ _ _ _ _ _ _;refine kV [0,1,2,3,4,5,6,7,8,9,10,11,12,13,23] ?_
   simp only [XV.au,List.map_cons,List.map_nil,X1.au,aq];rfl
end Go.Proofs.YtagpkhindehcbaaGreat
namespace Go.Proofs.YtagpkhindehcbaaGreat
open Go.Xm
variable [az]
theorem NC {S:bz} {B bw:List Bool} {m:Mb} {mb:Int}(hP:kU S B bw m mb) (hk:m.kind=0) :
 bt Tryz.prog 29 [.one (.ptr 2 0),.one (.ptr 0 0),.one (.ptr 22 0),.one (.int .i64 mb),.agg (mC m)] [aQ 1 B,av B,dw (S),bR 4 8 12,ay 5 6 7 cM,aX cM,aZ cM,aY cM,ay 9 10 11 cZ,aX cZ,aZ cZ,aY cZ,ay 13 14 15 cP,aX cP,aZ cP,aY cP,ch 17 (S).cols (S).rows,.map (bg (S).M),.cells [.int .i64 (S).cols,.int .i64 (S).rows,.map 19,.map 20,.map 21] 171 false false,.map (ah (S).A),.map (ah (S).B),.map (ah (S).C),aQ 23 bw,av bw] (.one (.int .i64 0)) [aQ 24 ((B++aC S m)),.dead,dw (bc S mb m.v),bR 4 8 12,ay 5 6 7 cM,aX cM,aZ cM,aY cM,ay 9 10 11 cZ,aX cZ,aZ cZ,aY cZ,ay 13 14 15 cP,aX cP,aZ cP,aY cP,ch 17 (bc S mb m.v).cols (bc S mb m.v).rows,.map (bg (bc S mb m.v).M),.cells [.int .i64 (bc S mb m.v).cols,.int .i64 (bc S mb m.v).rows,.map 19,.map 20,.map 21] 171 false false,.map (ah (bc S mb m.v).A),.map (ah (bc S mb m.v).B),.map (ah (bc S mb m.v).C),aQ 25 bw,.dead,av ((B++aC S m)),av bw]:=by
 have hg:=hP.good
 have hm:=hg.ok
 have hD:=hP.st.dims
 have hmb:=hP.mb
 have hlen:=hP.len
 have hkl:=fI S m
 have hK:=iQ B S m hm hg.kind hP.qp (by omega)
 rw [dL (by omega)]at hK
 have htE:cj S.M:=hP.st.tiny
 refine cO Tryz.func29 ?_
 repeat' (first
  |(refine qz ?_;first
   |refine fy ?_ (hle:=by rw [aF])
   |refine cl ?_ (hi:=by exact qF (S:=S) (S':=S) (bs:=B) (bs':=B++aC S m) (fun _ => .flat .nil) (.flat .nil) rfl hK rfl rfl rfl rfl nL nA rfl)
   |refine cl ?_ (hi:=by exact iW (S:=S) (bs:=(B++aC S m)) hD hmb rfl rfl rfl rfl nA rfl))
  |refine zz ?_|refine zx (fun _=>?_) (fun _=>?_)|fail)
 show aH _ _ _ _ _ _ _ _;refine kV [0,1,2,3,4,5,6,7,8,9,10,11,12,13,14,15,16,17,18,19,20,21,22,23,25,23] ?_
 rfl
theorem ND {S:bz} {B bw:List Bool} {m:Mb} {mb:Int}(hP:kU S B bw m mb) (hk:m.kind=1) (x:pq) (hx:fY m mb ⟨bc (ax m mb (S,B++aC S m) 0).1 mb m.v,(ax m mb (S,B++aC S m) 0).2,0,0,fun _=>[]⟩ 6=some x) :
 bt Tryz.prog 29 [.one (.ptr 2 0),.one (.ptr 0 0),.one (.ptr 22 0),.one (.int .i64 mb),.agg (mC m)] [aQ 1 B,av B,dw (S),bR 4 8 12,ay 5 6 7 cM,aX cM,aZ cM,aY cM,ay 9 10 11 cZ,aX cZ,aZ cZ,aY cZ,ay 13 14 15 cP,aX cP,aZ cP,aY cP,ch 17 (S).cols (S).rows,.map (bg (S).M),.cells [.int .i64 (S).cols,.int .i64 (S).rows,.map 19,.map 20,.map 21] 171 false false,.map (ah (S).A),.map (ah (S).B),.map (ah (S).C),aQ 23 bw,av bw] (.one (.int .i64 0)) [aQ 24 (eU x),.dead,dw (x.S),bR 4 8 12,ay 5 6 7 cM,aX cM,aZ cM,aY cM,ay 9 10 11 cZ,aX cZ,aZ cZ,aY cZ,ay 13 14 15 cP,aX cP,aZ cP,aY cP,ch 17 (x.S).cols (x.S).rows,.map (bg (x.S).M),.cells [.int .i64 (x.S).cols,.int .i64 (x.S).rows,.map 19,.map 20,.map 21] 171 false false,.map (ah (x.S).A),.map (ah (x.S).B),.map (ah (x.S).C),aQ 25 (bH bw x 6),.dead,av (eU x),av (bH bw x 6)]:=by
 have hg:=hP.good
 have hm:=hg.ok
 have hD:=hP.st.dims
 have hmb:=hP.mb
 have hlen:=hP.len
 have hkl:=fI S m
 have hK:=iQ B S m hm hg.kind hP.qp (by omega)
 rw [dL (by omega)]at hK
 have ht0:cj (S.M):=hP.st.tiny
 have hl0:=gm (m.v 0) (cg (S.M) S.cols S.rows mb 0)
 have htE:cj (ba (S.M) S.cols mb 0 (m.v 0)):=bJ ht0 (hm.v 0)
 have hS2:iy (bc (ax m mb (S,B++aC S m) 0).1 mb m.v):=⟨hD,hP.st.lev,eG htE hm.v⟩
 have hB2:((ax m mb (S,B++aC S m) 0).2).length≤700000:=by
  show(((B++aC S m)++cJ (m.v 0) (cg (S.M) S.cols S.rows mb 0))).length≤700000
  simp only [List.length_append,List.length_cons,List.length_nil]
  omega
 refine cO Tryz.func29 ?_
 repeat' (first
  |(refine qz ?_;first
   |refine fy ?_ (hle:=by rw [aF])
   |refine cl ?_ (hi:=by exact qF (S:=S) (S':=S) (bs:=B) (bs':=B++aC S m) (fun _ => .flat .nil) (.flat .nil) rfl hK rfl rfl rfl rfl nL nA rfl)
   |refine cl ?_ (hi:=by exact fu (M:=S.M) (k:=0) ht0 hD hmb (by decide) (i:=16) (j:=17) rfl rfl (by decide) rfl)
   |refine cl ?_ (hi:=by exact jt (bs:=(B++aC S m)) (v:=m.v 0) (e:=cg (S.M) S.cols S.rows mb 0) (hm.v 0) (cY ht0) (hP.right 0 (by decide)) (by simp only [List.length_append];omega) rfl rfl (by decide) nL nA rfl)
   |refine cl ?_ (hi:=by exact dk (M:=S.M) (k:=0) (v:=m.v 0) hD hmb (by decide) (i:=16) (j:=17) rfl rfl (by decide) nA rfl)
   |refine cl ?_ (hi:=by exact iW (S:=(ax m mb (S,B++aC S m) 0).1) (bs:=(ax m mb (S,B++aC S m) 0).2) hD hmb rfl rfl rfl rfl nA rfl)
   |refine cl ?_ (hi:=by exact ow (B:=(ax m mb (S,B++aC S m) 0).2) (S:=bc (ax m mb (S,B++aC S m) 0).1 mb m.v) (ox ((ax m mb (S,B++aC S m) 0).2) bw (bc (ax m mb (S,B++aC S m) 0).1 mb m.v) m mb hg hS2 hmb hB2 (by have:=hP.lenw;omega) x hx) rfl rfl rfl rfl rfl rfl nL nA rfl))
  |refine WX.loop ?_|refine WX.round ?_|refine zz ?_|refine zx (fun _=>?_) (fun _=>?_)|fail)
 show aH _ _ _ _ _ _ _ _;refine kV [0,1,2,3,4,5,6,7,8,9,10,11,12,13,14,15,16,17,18,19,20,21,22,23,27,28] ?_
 rfl
theorem Me {S:bz} {B bw:List Bool} {m:Mb} {mb:Int}(hP:kU S B bw m mb) (hk:m.kind=1) (hx:fY m mb ⟨bc (ax m mb (S,B++aC S m) 0).1 mb m.v,(ax m mb (S,B++aC S m) 0).2,0,0,fun _=>[]⟩ 6=none) :
 bt Tryz.prog 29 [.one (.ptr 2 0),.one (.ptr 0 0),.one (.ptr 22 0),.one (.int .i64 mb),.agg (mC m)] [aQ 1 B,av B,dw (S),bR 4 8 12,ay 5 6 7 cM,aX cM,aZ cM,aY cM,ay 9 10 11 cZ,aX cZ,aZ cZ,aY cZ,ay 13 14 15 cP,aX cP,aZ cP,aY cP,ch 17 (S).cols (S).rows,.map (bg (S).M),.cells [.int .i64 (S).cols,.int .i64 (S).rows,.map 19,.map 20,.map 21] 171 false false,.map (ah (S).A),.map (ah (S).B),.map (ah (S).C),aQ 23 bw,av bw] (.one (.int .i64 2)) m_:=by
 have hg:=hP.good
 have hm:=hg.ok
 have hD:=hP.st.dims
 have hmb:=hP.mb
 have hlen:=hP.len
 have hkl:=fI S m
 have hK:=iQ B S m hm hg.kind hP.qp (by omega)
 rw [dL (by omega)]at hK
 have ht0:cj (S.M):=hP.st.tiny
 have hl0:=gm (m.v 0) (cg (S.M) S.cols S.rows mb 0)
 have htE:cj (ba (S.M) S.cols mb 0 (m.v 0)):=bJ ht0 (hm.v 0)
 have hS2:iy (bc (ax m mb (S,B++aC S m) 0).1 mb m.v):=⟨hD,hP.st.lev,eG htE hm.v⟩
 have hB2:((ax m mb (S,B++aC S m) 0).2).length≤700000:=by
  show(((B++aC S m)++cJ (m.v 0) (cg (S.M) S.cols S.rows mb 0))).length≤700000
  simp only [List.length_append,List.length_cons,List.length_nil]
  omega
 refine cO Tryz.func29 ?_
 repeat' (first
  |(refine qz ?_;first
   |refine fy ?_ (hle:=by rw [aF])
   |refine cl ?_ (hi:=by exact qF (S:=S) (S':=S) (bs:=B) (bs':=B++aC S m) (fun _ => .flat .nil) (.flat .nil) rfl hK rfl rfl rfl rfl nL nA rfl)
   |refine cl ?_ (hi:=by exact fu (M:=S.M) (k:=0) ht0 hD hmb (by decide) (i:=16) (j:=17) rfl rfl (by decide) rfl)
   |refine cl ?_ (hi:=by exact jt (bs:=(B++aC S m)) (v:=m.v 0) (e:=cg (S.M) S.cols S.rows mb 0) (hm.v 0) (cY ht0) (hP.right 0 (by decide)) (by simp only [List.length_append];omega) rfl rfl (by decide) nL nA rfl)
   |refine cl ?_ (hi:=by exact dk (M:=S.M) (k:=0) (v:=m.v 0) hD hmb (by decide) (i:=16) (j:=17) rfl rfl (by decide) nA rfl)
   |refine cl ?_ (hi:=by exact iW (S:=(ax m mb (S,B++aC S m) 0).1) (bs:=(ax m mb (S,B++aC S m) 0).2) hD hmb rfl rfl rfl rfl nA rfl)
   |refine cl ?_ (hi:=by exact my (B:=(ax m mb (S,B++aC S m) 0).2) (S:=bc (ax m mb (S,B++aC S m) 0).1 mb m.v) (mA ((ax m mb (S,B++aC S m) 0).2) bw (bc (ax m mb (S,B++aC S m) 0).1 mb m.v) m mb hg hS2 hmb hB2 (by have:=hP.lenw;omega) hx) rfl rfl rfl rfl rfl rfl nL nA rfl))
  |refine WX.loop ?_|refine WX.round ?_|refine zz ?_|refine zx (fun _=>?_) (fun _=>?_)|fail)
 show aH _ _ _ _ _ _ _ _;refine kV [0,1,2,3,4,5,6,7,8,9,10,11,12,13,14,15,16,17,18,19,20,21,22,23] ?_
 rfl
end Go.Proofs.YtagpkhindehcbaaGreat
