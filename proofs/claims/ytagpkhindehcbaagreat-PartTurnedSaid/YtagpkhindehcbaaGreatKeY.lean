/-
  A part of the proof: Fits, MacLaw, Macro, Made, Made2, AllLaw, AtK, FillLaw, BlkLaw, TakeK.
-/
import Derived.Test.YtagpkhindehcbaaGreatKeF
import Derived.Test.YtagpkhindehcbaaGreatKeM
import Derived.Test.YtagpkhindehcbaaGreatKeO
import Derived.Test.YtagpkhindehcbaaGreatKeP
import Derived.Test.YtagpkhindehcbaaGreatKeT
import Derived.Test.YtagpkhindehcbaaGreatKeW
import Derived.Test.YtagpkhindehcbaaGreatKeX
set_option maxRecDepth 10000
set_option maxHeartbeats 8000000
set_option linter.unusedVariables false
set_option linter.unusedSectionVars false
set_option linter.unusedSimpArgs false
namespace Go.Proofs.YtagpkhindehcbaaGreat
open Go.Xm
variable [ax]
def qP(h:Hd):Hd:=if h.w=true then {h with a:=fun i=>max (h.a i) 8,b:=fun i=>max (h.b i) 8}else {h with w:=false,a:=fun _=>0,b:=fun _=>0}
abbrev xS(h:Hd)(j:Nat):Hd:={h with a:=rj (fun i=>max (h.a i) 8) h.a j,b:=rj (fun i=>max (h.b i) 8) h.b j}
theorem GY{h g:Hd}(hw:h.w=g.w)(ha:∀i,i<64->h.a i=g.a i)(hb:∀i,i<64->h.b i=g.b i):eO h=eO g:=by
 unfold eO
 rw[hw,sf ha,sf hb]
theorem Fa(k:IntKind)(f:Nat->Int){n i:Nat}(hi:i<n)(z:Int):(ti k n f).set i (.int k z)=ti k n (cn f i z):=tb k n f i z
theorem Kw(h:Hd){i:Nat}(hi:i<64)(z:Int):(eO h).set (1+i) (.int .u8 z)=eO {h with a:=cn h.a i z}:=by
 unfold eO
 rw[Nat.add_comm,List.set_cons_succ,List.set_append_left _ _ (by rw[aD];exact hi),Fa .u8 h.a hi z]
theorem Kx(h:Hd){i:Nat}(hi:i<64)(z:Int):(eO h).set (65+i) (.int .u8 z)=eO {h with b:=cn h.b i z}:=by
 unfold eO
 rw[show 65+i=(64+i)+1 by omega,List.set_cons_succ,List.set_append_right _ _ (by rw[aD];omega),aD,show 64+i-64=i by omega,Fa .u8 h.b hi z]
theorem D8:bD Tryz.prog 24 (eO ⟨0,0,false,fun _=>0,fun _=>0⟩):=by
 show bD Tryz.prog 24 (.bool false::((ti .u8 64 fun _=>0)++(ti .u8 64 fun _=>0)))
 infer_instance
theorem IL(h:Hd)(hr:∀i,i<64->(0<=h.a i/\h.a i<=255)/\(0<=h.b i/\h.b i<=255)):bh Tryz.prog 41 [.agg (eO h)] [] (.agg (eO (qP h))) []:=by
 obtain⟨w,hw⟩:∃w,h.w=w:=⟨_,rfl⟩
 have h0:(eO h)[0]? = some (.bool w):=by rw[<-hw];rfl
 cases w
 ·have e:eO (qP h)=eO ⟨0,0,false,fun _=>0,fun _=>0⟩:=by unfold qP;rw[if_neg (by rw[hw];decide)];rfl
  rw[e]
  refine cO Tryz.func41 ?_
  repeat' (first
   |(refine qz ?_;first
    |refine tY (zs:=eO ⟨0,0,false,fun _=>0,fun _=>0⟩) (hz:=D8) ?_
    |refine b0 (zs:=eO ⟨0,0,false,fun _=>0,fun _=>0⟩) (hz:=D8) ?_
    |refine kr (cs:=eO ⟨0,0,false,fun _=>0,fun _=>0⟩) ?_ (hs1:=by rw[jw]) (hs2:=by rw[jw])
    |refine ld (hc:=h0) ?_)
   |refine zz ?_|refine zx (fun _=>?_) (fun _=>?_)|fail)
  show aB _ _ _ _ _ _ _ _;refine kV [] ?_
  rfl
 ·have e:eO (qP h)=eO (xS h 64):=by
   unfold qP
   rw[if_pos hw]
   exact GY rfl (fun i hi=>by simp[rj,hi]) (fun i hi=>by simp[rj,hi])
  rw[e]
  refine cO Tryz.func41 ?_
  repeat' (first
   |(refine qz ?_;first
    |refine tY (zs:=eO ⟨0,0,false,fun _=>0,fun _=>0⟩) (hz:=D8) ?_
    |refine ld (hc:=h0) ?_)
   |refine zz ?_|refine zx (fun _=>?_) (fun _=>?_)|fail)
  refine WX.dA (σ:=Nat) (fun j=>[(8,.one (.int .i64 (j:Nat))),(1,.one (.ptr 0 0)),(2,.one (.ptr 1 0))]) (fun j=>[.cells (eO (xS h j)) 24 false false,.cells (eO ⟨0,0,false,fun _=>0,fun _=>0⟩) 24 false false]) (fun j=>j<=64) (fun j=>64-j) 0 (by omega) (fun s _=>lS) (cG [0,1] (obj:=by(repeat' (first|exact ae.nil|refine ae.flat (by rw[show xS h 0=h by unfold xS;rw[pc,pc]];rfl) ?_|refine ae.flat rfl ?_|refine ae.cons rfl ?_|refine ae.dead rfl ?_|refine ae.cons (by simp only[ak.ay,List.map_cons,List.map_nil,XC.ay,aC];exact rfl) ?_));first|done|fail)) ?_
  intro j hj ih
  by_cases hj64:j<64
  ·have ga:=Ku (xS h j) hj64
   have gb:=Kv (xS h j) hj64
   have ea:(xS h j).a j=h.a j:=by simp[rj]
   have eb:(xS h j).b j=h.b j:=by simp[rj]
   rw[ea]at ga
   rw[eb]at gb
   have hrj:=hr j hj64
   have e1:({xS h j with a:=cn (xS h j).a j (max (h.a j) 8),b:=cn (xS h j).b j (max (h.b j) 8)}:Hd)=xS h (j+1):=by
    show({h with a:=cn (rj (fun i=>max (h.a i) 8) h.a j) j (max (h.a j) 8),b:=cn (rj (fun i=>max (h.b i) 8) h.b j) j (max (h.b j) 8)}:Hd)=_
    rw[pb (fun i=>max (h.a i) 8),pb (fun i=>max (h.b i) 8)]
   repeat' (first
    |(refine qz ?_;first
     |refine ld (hc:=ga) ?_
     |refine ld (hc:=gb) ?_
     |refine st ?_ (hle:=by rw[jw];omega) (hv:=Kw (xS h j) hj64 (max (h.a j) 8))
     |refine st ?_ (hle:=by rw[jw];omega) (hv:=Kx {xS h j with a:=cn (xS h j).a j (max (h.a j) 8)} hj64 (max (h.b j) 8)))
    |refine zz ?_|refine zx (fun _=>?_) (fun _=>?_)|fail)
   refine ih (j+1) _ _ _ (cG [0,1] (obj:=by(repeat' (first|exact ae.nil|refine ae.flat (by rw[<-e1];rfl) ?_|refine ae.flat rfl ?_|refine ae.cons rfl ?_|refine ae.dead rfl ?_|refine ae.cons (by simp only[ak.ay,List.map_cons,List.map_nil,XC.ay,aC];exact rfl) ?_));first|done|fail)) (by omega) (by omega)
  ·obtain rfl:j=64:=by omega
   repeat' (first
    |(refine qz ?_;first
     |refine fC ?_ (hle:=by rw[jw])
     |refine kr (cs:=eO (xS h 64)) ?_ (hs1:=by rw[jw]) (hs2:=by rw[jw]))
    |refine zz ?_|refine zx (fun _=>?_) (fun _=>?_)|fail)
   show aB _ _ _ _ _ _ _ _;refine kV [] ?_
   rfl
theorem Md{h g:Hd}(hr:∀i,i<64->(0<=h.a i/\h.a i<=255)/\(0<=h.b i/\h.b i<=255))(hg:qP h=g){HS:aj}(hb:Nat.blt HS.length Mem.bound=true):aG.Sound Tryz.prog ⟨41,[.agg (eO h)],HS,.agg (eO g),HS,[]⟩:=by
 subst hg
 exact az (IL h hr) (by simp only[List.all_cons,List.all_nil,Bool.and_true];exact p5 h) (p5 _) hb
def rG(h:Hd):Hd:={qP h with cols:=1+h.cols%2^3,rows:=1+h.rows%2^3}
structure tu(h:Hd):Prop where
 cols : -9223372036854775808<=h.cols/\h.cols<=9223372036854775807
 rows : -9223372036854775808<=h.rows/\h.rows<=9223372036854775807
 tab:∀i,i<64->(0<=h.a i/\h.a i<=255)/\(0<=h.b i/\h.b i<=255)
theorem Ap:bD Tryz.prog 26 (f_ ⟨0,0,false,fun _=>0,fun _=>0⟩):=by
 show bD Tryz.prog 26 (.int .i64 0 :: .int .i64 0 :: .bool false::((ti .u8 64 fun _=>0)++(ti .u8 64 fun _=>0)))
 infer_instance
theorem F2(h:Hd)(hr:tu h):bh Tryz.prog 19 [.agg (f_ h)] [] (.agg (f_ (rG h))) []:=by
 have r1:=hr.cols
 have r2:=hr.rows
 refine cO Tryz.func19 ?_
 repeat' (first
  |(refine qz ?_;first
   |refine tY (zs:=f_ ⟨0,0,false,fun _=>0,fun _=>0⟩) (hz:=Ap) ?_
   |refine sO (cs:=eO h) ?_ (hle:=by rw[bt];decide) (hc:=EC h)
   |refine an 3 ?_
   |refine cl ?_ (hi:=by exact Md hr.tab rfl rfl))
  |refine zz ?_|refine zx (fun _=>?_) (fun _=>?_)|fail)
 show aB _ _ _ _ _ _ _ _;refine kV [] ?_
 rfl
theorem IJ{h g:Hd}(hr:tu h)(hg:rG h=g){HS:aj}(hb:Nat.blt HS.length Mem.bound=true):aG.Sound Tryz.prog ⟨19,[.agg (f_ h)],HS,.agg (f_ g),HS,[]⟩:=by
 subst hg
 exact az (F2 h hr) (by simp only[List.all_cons,List.all_nil,Bool.and_true];exact ji h) (ji _) hb
structure qm(p:Ph):Prop where
 id : -9223372036854775808<=p.id/\p.id<=9223372036854775807
 qp : -9223372036854775808<=p.qp/\p.qp<=9223372036854775807
def qO(p:Ph):Ph:=⟨p.id%2^16,p.inter,p.inter&&p.down,1+p.qp%2^5%31⟩
theorem F3(p:Ph)(hr:qm p):bh Tryz.prog 20 [.agg (hU p)] [] (.agg (hU (qO p))) []:=by
 have r1:=hr.id
 have r2:=hr.qp
 obtain⟨b,hi⟩:∃b,p.inter=b:=⟨_,rfl⟩
 have hl:(hU p)[1]? = some (.bool b):=by rw[<-hi];rfl
 have e:qO p=⟨p.id%2^16,b,b&&p.down,1+p.qp%2^5%31⟩:=by unfold qO;rw[hi]
 rw[e]
 cases b
 ·refine cO Tryz.func20 ?_
  repeat' (first
   |(refine qz ?_;first
    |refine ld (hc:=hl) ?_
    |refine an 16 ?_
    |refine an 5 ?_)
   |refine zz ?_|refine zx (fun _=>?_) (fun _=>?_)|fail)
  show aB _ _ _ _ _ _ _ _;refine kV [] ?_
  rfl
 ·refine cO Tryz.func20 ?_
  repeat' (first
   |(refine qz ?_;first
    |refine ld (hc:=hl) ?_
    |refine an 16 ?_
    |refine an 5 ?_)
   |refine zz ?_|refine zx (fun _=>?_) (fun _=>?_)|fail)
  show aB _ _ _ _ _ _ _ _;refine kV [] ?_
  rfl
theorem IK{p g:Ph}(hr:qm p)(hg:qO p=g){HS:aj}(hb:Nat.blt HS.length Mem.bound=true):aG.Sound Tryz.prog ⟨20,[.agg (hU p)],HS,.agg (hU g),HS,[]⟩:=by
 subst hg
 exact az (F3 p hr) rfl rfl hb
theorem Eu{p:Ph}(hr:qm p):tW (qO p):=by
 refine⟨?_,?_,?_⟩
 ·show 0<=p.id%2^16/\p.id%2^16<=65535
  omega
 ·show 1<=1+p.qp%2^5%31/\1+p.qp%2^5%31<=31
  omega
 ·intro h
  have h':(p.inter&&p.down)=true:=h
  exact(Bool.and_eq_true_iff.1 h').1
def four(h:Hd):Hd:={rG h with cols:=1+(rG h).cols%2^2,rows:=1+(rG h).rows%2^2}
theorem Ez(h:Hd):qk (four h)/\1<=(four h).cols/\(four h).cols<=4/\1<=(four h).rows/\(four h).rows<=4:=by
 have c:1<=(four h).cols/\(four h).cols<=4:=by show 1<=1+(rG h).cols%2^2/\1+(rG h).cols%2^2<=4;omega
 have r:1<=(four h).rows/\(four h).rows<=4:=by show 1<=1+(rG h).rows%2^2/\1+(rG h).rows%2^2<=4;omega
 refine⟨⟨⟨by omega,by omega,by omega,by omega⟩,?_,?_⟩,c.1,c.2,r.1,r.2⟩
 ·intro hw i hi
  have hw':(qP h).w=true:=hw
  show 8<=(qP h).a i/\8<=(qP h).b i
  unfold qP at hw' ⊢
  split at hw'
  ·rename_i g
   rw[if_pos g]
   exact⟨Int.le_max_right _ _,Int.le_max_right _ _⟩
  ·cases hw'
 ·intro hw i hi
  have hw':(qP h).w=false:=hw
  show(qP h).a i=0/\(qP h).b i=0
  unfold qP at hw' ⊢
  split at hw'
  ·rename_i g
   have:h.w=false:=hw'
   rw[g]at this
   cases this
  ·rename_i g
   rw[if_neg g]
   exact⟨rfl,rfl⟩
structure Wy where
 x:Nat->Int
 y:Nat->Int
 same:Bool
def Rb(w:Wy):List XC:=[.int .i8 (w.x 0),.int .i8 (w.x 1),.int .i8 (w.x 2),.int .i8 (w.x 3),.int .i8 (w.y 0),.int .i8 (w.y 1),.int .i8 (w.y 2),.int .i8 (w.y 3),.bool w.same]
def t7(w:Wy)(k:Nat):Int×Int:=if w.same=true then((w.x 0).tmod 32,(w.y 0).tmod 32)else((w.x k).tmod 32,(w.y k).tmod 32)
structure Ec(w:Wy):Prop where
 x:∀k,k<4 -> -128<=w.x k/\w.x k<128
 y:∀k,k<4 -> -128<=w.y k/\w.y k<128
theorem zeroV:bD Tryz.prog 49 (vt fun _=>(0,0)):=by
 show bD Tryz.prog 49 [cy (0,0),cy (0,0),cy (0,0),cy (0,0)]
 rw[d9]
 infer_instance
theorem gL{x y:Int}(hx : -128<=x/\x<128)(hy : -128<=y/\y<128){q:Int×Int}(hq:(x.tmod 32,y.tmod 32)=q){HS:aj}(hb:Nat.blt HS.length Mem.bound=true):aG.Sound Tryz.prog ⟨77,[.one (.int .i8 x),.one (.int .i8 y)],HS,.one (cy q),HS,[]⟩:=by
 subst hq;exact DG hx hy hb
theorem K0(w:Wy)(hr:Ec w):bh Tryz.prog 43 [.agg (Rb w)] [] (.agg (vt (t7 w))) []:=by
 have x0:=hr.x 0 (by decide)
 have x1:=hr.x 1 (by decide)
 have x2:=hr.x 2 (by decide)
 have x3:=hr.x 3 (by decide)
 have y0:=hr.y 0 (by decide)
 have y1:=hr.y 1 (by decide)
 have y2:=hr.y 2 (by decide)
 have y3:=hr.y 3 (by decide)
 obtain⟨p0,h0⟩:∃p,((w.x 0).tmod 32,(w.y 0).tmod 32)=p:=⟨_,rfl⟩
 obtain⟨p1,h1⟩:∃p,((w.x 1).tmod 32,(w.y 1).tmod 32)=p:=⟨_,rfl⟩
 obtain⟨p2,h2⟩:∃p,((w.x 2).tmod 32,(w.y 2).tmod 32)=p:=⟨_,rfl⟩
 obtain⟨p3,h3⟩:∃p,((w.x 3).tmod 32,(w.y 3).tmod 32)=p:=⟨_,rfl⟩
 obtain⟨b,hb⟩:∃b,w.same=b:=⟨_,rfl⟩
 have hl:(Rb w)[8]? = some (.bool b):=by rw[<-hb];rfl
 cases b
 ·have e:vt (t7 w) = [cy p0,cy p1,cy p2,cy p3]:=by
   have g:∀k,t7 w k=((w.x k).tmod 32,(w.y k).tmod 32):=fun k=>if_neg (by rw[hb];decide)
   show [cy (t7 w 0),cy (t7 w 1),cy (t7 w 2),cy (t7 w 3)]=_
   rw[g,g,g,g,h0,h1,h2,h3]
  rw[e]
  refine cO Tryz.func43 ?_
  repeat' (first
   |(refine qz ?_;first
    |refine tY (zs:=vt fun _=>(0,0)) (hz:=zeroV) ?_
    |refine ld (hc:=hl) ?_
    |refine cl ?_ (hi:=by exact gL x0 y0 h0 rfl)
    |refine cl ?_ (hi:=by exact gL x1 y1 h1 rfl)
    |refine cl ?_ (hi:=by exact gL x2 y2 h2 rfl)
    |refine cl ?_ (hi:=by exact gL x3 y3 h3 rfl))
   |refine WX.loop ?_|refine WX.round ?_|refine zz ?_|refine zx (fun _=>?_) (fun _=>?_)|fail)
  show aB _ _ _ _ _ _ _ _;refine kV [] ?_
  rfl
 ·have e:vt (t7 w) = [cy p0,cy p0,cy p0,cy p0]:=by
   have g:∀k,t7 w k=((w.x 0).tmod 32,(w.y 0).tmod 32):=fun k=>if_pos hb
   show [cy (t7 w 0),cy (t7 w 1),cy (t7 w 2),cy (t7 w 3)]=_
   rw[g,g,g,g,h0]
  rw[e]
  refine cO Tryz.func43 ?_
  repeat' (first
   |(refine qz ?_;first
    |refine tY (zs:=vt fun _=>(0,0)) (hz:=zeroV) ?_
    |refine ld (hc:=hl) ?_
    |refine cl ?_ (hi:=by exact gL x0 y0 h0 rfl)
    |refine cl ?_ (hi:=by exact gL x1 y1 h1 rfl)
    |refine cl ?_ (hi:=by exact gL x2 y2 h2 rfl)
    |refine cl ?_ (hi:=by exact gL x3 y3 h3 rfl))
   |refine WX.loop ?_|refine WX.round ?_|refine zz ?_|refine zx (fun _=>?_) (fun _=>?_)|fail)
  show aB _ _ _ _ _ _ _ _;refine kV [] ?_
  rfl
theorem Fk{w:Wy}(hr:Ec w){q:Nat->Int×Int}(hq:t7 w=q){HS:aj}(hb:Nat.blt HS.length Mem.bound=true):aG.Sound Tryz.prog ⟨43,[.agg (Rb w)],HS,.agg (vt q),HS,[]⟩:=by
 subst hq
 exact az (K0 w hr) rfl rfl hb
theorem PN:∀n:Fin 256,-31<=((n.val:Int)-128).tmod 32/\((n.val:Int)-128).tmod 32<=31:=by decide +kernel
theorem uv{x:Int}(h : -128<=x/\x<128) : -31<=x.tmod 32/\x.tmod 32<=31:=by
 have:=PN ⟨(x+128).toNat,by omega⟩
 have e:(((x+128).toNat:Nat):Int)-128=x:=by omega
 simp only[e]at this
 exact this
theorem Hs{w:Wy}(hr:Ec w):∀k,k<4->dH (t7 w k)=true:=fun k hk=>by
 have a:=uv (hr.x k hk)
 have b:=uv (hr.y k hk)
 have c:=uv (hr.x 0 (by decide))
 have d:=uv (hr.y 0 (by decide))
 unfold t7 dH
 split<;>exact decide_eq_true (by omega)
end Go.Proofs.YtagpkhindehcbaaGreat
namespace Go.Proofs.YtagpkhindehcbaaGreat
open Go.Xm
variable [ax]
structure Sm where
 kind:Int
 step:Int
 wy:Wy
 edge:Bool
 keep:Nat->Int
 seed:Int
 great:Bool
def r6(s:Sm):List XC:=[.int .u8 s.kind,.int .u8 s.step,.int .i8 (s.wy.x 0),.int .i8 (s.wy.x 1),.int .i8 (s.wy.x 2),.int .i8 (s.wy.x 3),.int .i8 (s.wy.y 0),.int .i8 (s.wy.y 1),.int .i8 (s.wy.y 2),.int .i8 (s.wy.y 3),.bool s.wy.same,.bool s.edge,.int .u64 (s.keep 0),.int .u64 (s.keep 1),.int .u64 (s.keep 2),.int .u64 (s.keep 3),.int .u64 (s.keep 4),.int .u64 (s.keep 5),.int .u32 s.seed,.bool s.great]
instance:sC r6 20:=⟨fun _=>rfl,fun _=>rfl,by decide⟩
instance Rn (s:Sm) (e:TypeId) (a b:Bool):cL (.cells (r6 s) e a b):=jh rfl
structure kH(s:Sm):Prop where
 kind:0<=s.kind/\s.kind<=255
 step:0<=s.step/\s.step<=255
 wy:Ec s.wy
 keep:∀k,k<6->0<=s.keep k/\s.keep k<18446744073709551616
 seed:0<=s.seed/\s.seed<4294967296
def xq(n:Int):Int:=IntKind.u32.wrap (IntKind.u32.wrap (n*1664525)+1013904223)
theorem wrap32(x:Int):0<=IntKind.u32.wrap x/\IntKind.u32.wrap x<4294967296:=by
 unfold IntKind.wrap
 simp[IntKind.bits,IntKind.signed]
 omega
def mS(s:Sm)(inter:Bool):Int:=if inter=true then s.kind%5 else 3+s.kind%2
def fW(s:Sm)(inter:Bool)(qp:Int):Int×Int:=
 if mS s inter=4 then(if 1<=qp+n8 (s.step%4)/\qp+n8 (s.step%4)<=31 then(4,qp+n8 (s.step%4))else(3,qp))else(mS s inter,qp)
def SQ(s:Sm)(k i:Nat)(x:Int×(Nat->Int)):Int×(Nat->Int):=
 (xq x.1,if s.keep k/2^i%2=1 then(if s.great=true then cn (cn x.2 (k*64+i) (xq x.1/2^16%7-3)) (k*64+i) (xq x.1/2^16%1001-500)else cn x.2 (k*64+i) (xq x.1/2^16%7-3))else x.2)
def ow(s:Sm)(k:Nat)(x:Int×(Nat->Int)):Nat->Int×(Nat->Int)
 | 0=>x
 | i+1=>SQ s k i (ow s k x i)
def jl(s:Sm)(al:Bool):Nat->Int×(Nat->Int)
 | 0=>(s.seed,fun _=>0)
 | k+1=>((ow s k (jl s al k) 64).1,if al=true then cn (ow s k (jl s al k) 64).2 (k*64) ((ow s k (jl s al k) 64).1/2^20%128)else(ow s k (jl s al k) 64).2)
def mT(K:Int)(w:Wy):Nat->Int×Int:=if K=1 then fun _=>t7 w 0 else if K=2 then fun k=>if k<4 then t7 w k else(0,0)else fun _=>(0,0)
def xj(K:Int):Bool:=decide (K=3\/K=4)
def lB(s:Sm)(inter:Bool)(qp:Int):Mb:=
 ⟨(fW s inter qp).1,(fW s inter qp).2,mT (fW s inter qp).1 s.wy,if xj (fW s inter qp).1=true then s.edge else false,if(fW s inter qp).1=0 then fun _=>0 else(jl s (xj (fW s inter qp).1) 6).2⟩
theorem Je(s:Sm)(k:Nat)(x:Int×(Nat->Int))(j:Nat)(hj:j<k*64):∀i,(ow s k x i).2 j=x.2 j:=by
 intro i
 induction i with
 | zero=>rfl
 | succ i ih=>
   show(if s.keep k/2^i%2=1 then(if s.great=true then cn (cn (ow s k x i).2 (k*64+i) _) (k*64+i) _ else cn (ow s k x i).2 (k*64+i) _)else(ow s k x i).2) j=_
   split
   ·split
    ·unfold cn
     rw[if_neg (by omega),if_neg (by omega)];exact ih
    ·unfold cn
     rw[if_neg (by omega)];exact ih
   ·exact ih
theorem uw{f:Nat->Int}{lo hi:Int}(h:∀j,lo<=f j/\f j<=hi){i:Nat}{z:Int}(hz:lo<=z/\z<=hi):∀j,lo<=cn f i z j/\cn f i z j<=hi:=fun j=>by
 unfold cn
 by_cases g:j=i
 ·rw[if_pos g];exact hz
 ·rw[if_neg g];exact h j
theorem Mw(s:Sm)(k:Nat)(x:Int×(Nat->Int))(h:∀j,-500<=x.2 j/\x.2 j<=500):∀i j,-500<=(ow s k x i).2 j/\(ow s k x i).2 j<=500:=by
 intro i
 induction i with
 | zero=>exact h
 | succ i ih=>
   show ∀j,-500<=(if s.keep k/2^i%2=1 then(if s.great=true then cn (cn (ow s k x i).2 (k*64+i) (xq (ow s k x i).1/2^16%7-3)) (k*64+i) (xq (ow s k x i).1/2^16%1001-500)else cn (ow s k x i).2 (k*64+i) (xq (ow s k x i).1/2^16%7-3))else(ow s k x i).2) j/\(if s.keep k/2^i%2=1 then(if s.great=true then cn (cn (ow s k x i).2 (k*64+i) (xq (ow s k x i).1/2^16%7-3)) (k*64+i) (xq (ow s k x i).1/2^16%1001-500)else cn (ow s k x i).2 (k*64+i) (xq (ow s k x i).1/2^16%7-3))else(ow s k x i).2) j<=500
   obtain⟨z,hz⟩:∃z,xq (ow s k x i).1/2^16=z:=⟨_,rfl⟩
   rw[hz]
   by_cases g1:s.keep k/2^i%2=1
   ·rw[if_pos g1]
    by_cases g2:s.great=true
    ·rw[if_pos g2]
     exact uw (uw ih (by omega)) (by omega)
    ·rw[if_neg g2]
     exact uw ih (by omega)
   ·rw[if_neg g1]
    exact ih
theorem Bp(s:Sm)(al:Bool):∀k,(∀j,-500<=(jl s al k).2 j/\(jl s al k).2 j<=500)/\(al=true->∀j,j<k->0<=(jl s al k).2 (j*64)/\(jl s al k).2 (j*64)<=127):=by
 intro k
 induction k with
 | zero=>exact⟨fun j=>by show -500<=(0:Int)/\(0:Int)<=500;omega,fun _ j hj=>absurd hj (Nat.not_lt_zero _)⟩
 | succ k ih=>
   have hi:=Mw s k (jl s al k) ih.1 64
   obtain⟨y,hy⟩:∃y,ow s k (jl s al k) 64=y:=⟨_,rfl⟩
   have hkp:=fun j hj=>Je s k (jl s al k) j hj 64
   have e:(jl s al (k+1)).2=if al=true then cn y.2 (k*64) (y.1/2^20%128)else y.2:=by
    show(if al=true then cn (ow s k (jl s al k) 64).2 (k*64) ((ow s k (jl s al k) 64).1/2^20%128)else(ow s k (jl s al k) 64).2)=_
    rw[hy]
   rw[hy]at hi hkp
   obtain⟨z,hz⟩:∃z,y.1/2^20=z:=⟨_,rfl⟩
   rw[e,hz]
   refine⟨fun j=>?_,fun ha j hj=>?_⟩
   ·split
    ·exact uw hi (by omega) j
    ·exact hi j
   ·rw[if_pos ha]
    unfold cn
    by_cases hjk:j=k
    ·rw[if_pos (by rw[hjk])];omega
    ·rw[if_neg (by omega),hkp (j*64) (by omega)]
     exact ih.2 ha j (by omega)
theorem Ks{q n:Int}(hn:0<=n/\n<4)(h:1<=q+n8 n/\q+n8 n<=31):(dt q (q+n8 n)).2=true:=by
 have h4:n=0\/n=1\/n=2\/n=3:=by omega
 have e0:n8 0 = -2:=rfl
 have e1:n8 1 = -1:=rfl
 have e2:n8 2=1:=rfl
 have e3:n8 3=2:=rfl
 unfold dt
 rcases h4 with rfl|rfl|rfl|rfl
 ·rw[e0]at h ⊢
  rw[if_neg (by omega),if_pos (by omega)]
 ·rw[e1]at h ⊢
  rw[if_neg (by omega),if_neg (by omega),if_pos (by omega)]
 ·rw[e2]at h ⊢
  rw[if_neg (by omega),if_neg (by omega),if_neg (by omega),if_pos (by omega)]
 ·rw[e3]at h ⊢
  rw[if_neg (by omega),if_neg (by omega),if_neg (by omega),if_neg (by omega),if_pos (by omega)]
theorem Bo(s:Sm)(inter:Bool)(qp:Int)(hs:kH s)(hq:1<=qp/\qp<=31):0<=(fW s inter qp).1/\(fW s inter qp).1<=4/\1<=(fW s inter qp).2/\(fW s inter qp).2<=31/\(inter=false->3<=(fW s inter qp).1)/\((fW s inter qp).1=4->(dt qp (fW s inter qp).2).2=true)/\((fW s inter qp).1≠4->(fW s inter qp).2=qp):=by
 have hk:=hs.kind
 have hst:=hs.step
 have hkk:0<=mS s inter/\mS s inter<=4/\(inter=false->3<=mS s inter):=by
  unfold mS
  cases inter
  ·rw[if_neg (by decide)];exact⟨by omega,by omega,fun _=>by omega⟩
  ·rw[if_pos rfl];exact⟨by omega,by omega,fun h=>by cases h⟩
 unfold fW
 by_cases h4:mS s inter=4
 ·rw[if_pos h4]
  by_cases hr:1<=qp+n8 (s.step%4)/\qp+n8 (s.step%4)<=31
  ·rw[if_pos hr]
   exact⟨by show(0:Int)<=4;decide,by show(4:Int)<=4;decide,hr.1,hr.2,fun _=>by show(3:Int)<=4;decide,fun _=>Ks (by omega) hr,fun g=>absurd rfl g⟩
  ·rw[if_neg hr]
   exact⟨by show(0:Int)<=3;decide,by show(3:Int)<=4;decide,hq.1,hq.2,fun _=>by show(3:Int)<=3;decide,fun g=>absurd (show(3:Int)=4 from g) (by decide),fun _=>rfl⟩
 ·rw[if_neg h4]
  exact⟨hkk.1,hkk.2.1,hq.1,hq.2,hkk.2.2,fun g=>absurd g h4,fun _=>rfl⟩
theorem Dg{s:Sm}{inter:Bool}{qp:Int}(hs:kH s)(hq:1<=qp/\qp<=31):iL (lB s inter qp)/\dB (lB s inter qp) inter qp=0/\1<=(lB s inter qp).qp/\(lB s inter qp).qp<=31:=by
 obtain⟨k0,k4,q1,q31,hal,hst,hne⟩:=Bo s inter qp hs hq
 obtain⟨H,hH⟩:∃H,fW s inter qp=H:=⟨_,rfl⟩
 have hm:lB s inter qp=⟨H.1,H.2,mT H.1 s.wy,if xj H.1=true then s.edge else false,if H.1=0 then fun _=>0 else(jl s (xj H.1) 6).2⟩:=by unfold lB;rw[hH]
 rw[hH]at k0 k4 q1 q31 hal hst hne
 rw[hm]
 obtain⟨m,hmm⟩:∃m:Mb,(⟨H.1,H.2,mT H.1 s.wy,if xj H.1=true then s.edge else false,if H.1=0 then fun _=>0 else(jl s (xj H.1) 6).2⟩:Mb)=m:=⟨_,rfl⟩
 have mk:m.kind=H.1:=by rw[<-hmm]
 have mq:m.qp=H.2:=by rw[<-hmm]
 have mv:m.v=mT H.1 s.wy:=by rw[<-hmm]
 have me:m.edge=if xj H.1=true then s.edge else false:=by rw[<-hmm]
 have ml:m.lev=if H.1=0 then fun _=>0 else(jl s (xj H.1) 6).2:=by rw[<-hmm]
 have ma:alone m=xj H.1:=by unfold alone xj;rw[mk]
 rw[hmm]
 have hlr:∀i,-500<=m.lev i/\m.lev i<=500:=fun i=>by
  rw[ml]
  split
  ·show -500<=(0:Int)/\(0:Int)<=500;omega
  ·exact(Bp s _ 6).1 i
 have hwt:∀k,k<4->dH (t7 s.wy k)=true:=Hs hs.wy
 have hrz:dH (0,0)=true:=by decide
 have hvr:∀k,k<4->dH (m.v k)=true:=fun k hk=>by
  rw[mv];unfold mT
  split
  ·exact hwt 0 (by decide)
  ·split
   ·show dH (if k<4 then t7 s.wy k else(0,0))=true
    rw[if_pos hk]
    exact hwt k hk
   ·exact hrz
 have hvg:∀k,k<4->oy m k:=fun k hk=>by
  refine⟨hvr k hk,fun g=>?_,fun g1 g2=>?_⟩
  ·rw[mv];unfold mT
   rw[mk]at g
   rw[if_neg g]
   split
   ·rfl
   ·rfl
  ·rw[mv];unfold mT
   rw[mk]at g1 g2
   rw[if_neg g1,if_neg g2]
 have hq':1<=m.qp/\m.qp<=31:=by rw[mq];exact⟨q1,q31⟩
 refine⟨⟨by rw[mk];omega,by omega,fun k=>?_,fun i=>by have:=hlr i;omega⟩,?_,hq'.1,hq'.2⟩
 ·rw [mv];unfold mT
  have tw:∀k,k<4->bz (t7 s.wy k):=fun k hk=>by
   have:=hwt k hk
   unfold dH at this
   have h:=of_decide_eq_true this
   exact⟨by unfold fT;omega,by unfold fT;omega⟩
  split
  ·exact tw 0 (by decide)
  ·split
   ·show bz (if k<4 then t7 s.wy k else(0,0))
    split
    ·rename_i h;exact tw k h
    ·exact Fc
   ·exact Fc
 ·unfold dB
  rw [if_neg (fun g=>by
   rcases g with g|⟨g1,g2⟩
   ·rw[mk]at g;omega
   ·have:=hal g1
    rw[ma]at g2
    unfold xj at g2
    have:=of_decide_eq_false g2
    omega)]
  rw[if_neg (fun g=>by rw[me,<-ma,g.2,if_neg (by decide)]at g;exact absurd g.1 (by decide))]
  rw[if_neg (fun g=>by
   have h4:H.1=4:=mk▸g.1
   have:=hst h4
   rw[mq,this]at g
   exact absurd g.2 (by decide))]
  rw[if_neg (fun g=>g.2 (by rw[mq];exact hne (by rw[<-mk];exact g.1)))]
  have hv0:gN m=0:=if_pos ⟨hvg 0 (by decide),hvg 1 (by decide),hvg 2 (by decide),hvg 3 (by decide)⟩
  rw[if_neg (fun g=>g hv0)]
  exact if_pos fun i hi=>⟨fun g=>by rw[ml,if_pos (by rw[<-mk];exact g)],by have:=hlr i;omega,fun h64 ha=>by
   rw[ma]at ha
   have h0:H.1≠0:=fun e=>by rw[e]at ha;revert ha;decide
   rw[ml,if_neg h0]
   have:=(Bp s (xj H.1) 6).2 ha (i/64) (by omega)
   rw[show i/64*64=i by omega]at this
   exact this⟩
end Go.Proofs.YtagpkhindehcbaaGreat
namespace Go.Proofs.YtagpkhindehcbaaGreat
open Go.Xm
variable [ax]
theorem ug(m:Mb)(z:Int):(mC m).set 0 (.int .u8 z)=mC {m with kind:=z}:=rfl
theorem QV(m:Mb)(z:Int):(mC m).set 1 (.int .i64 z)=mC {m with qp:=z}:=rfl
theorem Mt(m:Mb)(b:Bool):(mC m).set 6 (.bool b)=mC {m with edge:=b}:=rfl
theorem N5(m:Mb)(q:Nat->Int×Int):(mC m).take 2++vt q++(mC m).drop (2+4)=mC {m with v:=q}:=rfl
theorem Mu(m:Mb)(j:Nat)(z:Int):(mC m).set (7+j) (.int .i64 z)=mC {m with lev:=cn m.lev j z}:=by
 unfold mC
 rw[Nat.add_comm]
 simp only[List.set_cons_succ]
 rw[tb]
theorem uh(m:Mb)(k i:Nat)(z:Int):(mC m).set (7+k*64+i) (.int .i64 z)=mC {m with lev:=cn m.lev (k*64+i) z}:=by
 rw[Nat.add_assoc]
 exact Mu m _ z
theorem iT(m:Mb):(mC m)[0]? = some (.int .u8 m.kind):=rfl
theorem BY{x:Int}(h:0<=x/\x<4):([.int .i64 (-2),.int .i64 (-1),.int .i64 1,.int .i64 2]:List XC)[x.toNat]? = some (.int .i64 (n8 x)):=by
 have:x=0\/x=1\/x=2\/x=3:=by omega
 rcases this with rfl|rfl|rfl|rfl<;>rfl
theorem Kj(s:Sm){k:Nat}(hk:k<6):(r6 s)[12+k]? = some (.int .u64 (s.keep k)):=by
 match k,hk with
 | 0,_=>rfl
 | 1,_=>rfl
 | 2,_=>rfl
 | 3,_=>rfl
 | 4,_=>rfl
 | 5,_=>rfl
theorem Jh(s:Sm)(al:Bool)(k:Nat){y:Int×(Nat->Int)}(hy:ow s k (jl s al k) 64=y):jl s al (k+1)=(y.1,if al=true then cn y.2 (k*64) (y.1/2^20%128)else y.2):=by
 subst hy;rfl
theorem Jf(s:Sm)(k:Nat)(x:Int×(Nat->Int))(i:Nat){y:Int×(Nat->Int)}(hy:ow s k x i=y):ow s k x (i+1)=(xq y.1,if s.keep k/2^i%2=1 then(if s.great=true then cn (cn y.2 (k*64+i) (xq y.1/2^16%7-3)) (k*64+i) (xq y.1/2^16%1001-500)else cn y.2 (k*64+i) (xq y.1/2^16%7-3))else y.2):=by
 subst hy;rfl
abbrev Lm(K Q:Int):Mb:={lC with kind:=K,qp:=Q}
theorem Mx{s : Sm}(hs:kH s)(inter:Bool){qp:Int}(hq:1<=qp/\qp<=31):bh Tryz.prog 21 [.agg (r6 s),.one (.bool inter),.one (.int .i64 qp)] [] (.agg (mC (lB s inter qp))) []:=by
 have hk:=hs.kind
 have hst:=hs.step
 have hkq:=Bo s inter qp hs hq
 refine cO Tryz.func21 ?_
 repeat' (first
  |(refine qz ?_;first
   |refine tY (zs:=mC lC) (hz:=j0) ?_
   |refine bS (zs:=mC lC) (hz:=j0) ?_
   |refine kr (cs:=mC (Lm (s.kind%5) qp)) ?_ (hs1:=by rw[aI]) (hs2:=by rw[aI]))
  |refine WX.zt 2 (σ:=Int) (fun K=>[(1,.one (.bool inter)),(2,.one (.int .i64 qp)),(3,.one (.ptr 0 0)),(6,.one (.ptr 1 0)),(7,.one (.ptr 2 0))]) (fun K=>[.cells (r6 s) 81 false false,.cells (mC lC) 53 false false,.cells (mC (Lm K qp)) 53 false false]) (fun K=>mS s inter=K) (fun s _=>lS) ?_ ?_|refine zz ?_|refine zx (fun _=>?_) (fun _=>?_)|fail)
 ·intro _
  cases inter
  ·repeat' (first
    |(refine qz ?_;first
     |refine st ?_ (hle:=by rw[aI];omega) (hv:=ug _ _))
    |refine zz ?_|refine zx (fun _=>?_) (fun _=>?_)|fail)
   (first|exact⟨mS s false,_,rfl,(cG [0,1,2])⟩|exact⟨rfl,mS s false,_,rfl,(cG [0,1,2])⟩)
  ·repeat' (first|refine zz ?_|refine zx (fun _=>?_) (fun _=>?_)|fail)
   (first|exact⟨mS s true,_,rfl,(cG [0,1,2])⟩|exact⟨rfl,mS s true,_,rfl,(cG [0,1,2])⟩)
 ·intro K hK
  have hkr:0<=K/\K<=4:=by
   rw[<-hK]
   unfold mS
   split<;>omega
  refine WX.zt 4 (σ:=Int×Int) (fun x=>[(1,.one (.bool inter)),(2,.one (.int .i64 qp)),(3,.one (.ptr 0 0)),(6,.one (.ptr 1 0)),(7,.one (.ptr 2 0))]) (fun x=>[.cells (r6 s) 81 false false,.cells (mC lC) 53 false false,.cells (mC (Lm x.1 x.2)) 53 false false]) (fun x=>fW s inter qp=x) (fun s _=>lS) ?_ ?_
  ·intro _
   have hb:=E9 (s.step%4)
   by_cases h4:K=4
   ·by_cases hr:1<=qp+n8 (s.step%4)/\qp+n8 (s.step%4)<=31
    ·have e0:fW s inter qp=(4,qp+n8 (s.step%4)):=by unfold fW;rw[hK,if_pos h4,if_pos hr]
     have hr1:=hr.1
     have hr2:=hr.2
     repeat' (first
      |(refine qz ?_;first
       |refine ld (c := .int .u8 K) ?_ (hc:=iT _)
       |refine st (c := .int .u8 3) ?_ (hle:=by rw[aI];omega) (hv:=ug _ _)
       |refine st (c := .int .u8 4) ?_ (hle:=by rw[aI];omega) (hv:=ug _ _)
       |refine st (c := .int .i64 (qp+n8 (s.step%4))) ?_ (hle:=by rw[aI];omega) (hv:=QV _ _)
       |refine cl ?_ (hi:=by exact pw rfl)
       |refine xp ?_ (hc:=BY (by omega)))
      |refine zz ?_|refine zx (fun _=>?_) (fun _=>?_)|fail)
     (first|exact⟨(4,qp+n8 (s.step%4)),_,e0,(cG [0,1,2])⟩|exact⟨rfl,(4,qp+n8 (s.step%4)),_,e0,(cG [0,1,2])⟩)
    ·have e0:fW s inter qp=(3,qp):=by unfold fW;rw[hK,if_pos h4,if_neg hr]
     repeat' (first
      |(refine qz ?_;first
       |refine ld (c := .int .u8 K) ?_ (hc:=iT _)
       |refine st (c := .int .u8 3) ?_ (hle:=by rw[aI];omega) (hv:=ug _ _)
       |refine cl ?_ (hi:=by exact pw rfl)
       |refine xp ?_ (hc:=BY (by omega)))
      |refine zz ?_|refine zx (fun _=>?_) (fun _=>?_)|fail)
     all_goals first|(exfalso;omega)|(first|exact⟨(3,qp),_,e0,(cG [0,1,2])⟩|exact⟨rfl,(3,qp),_,e0,(cG [0,1,2])⟩)
   ·have e0:fW s inter qp=(K,qp):=by unfold fW;rw[hK,if_neg h4]
    repeat' (first
     |(refine qz ?_;first
      |refine ld (c := .int .u8 K) ?_ (hc:=iT _))
     |refine zz ?_|refine zx (fun _=>?_) (fun _=>?_)|fail)
    (first|exact⟨(K,qp),_,e0,(cG [0,1,2])⟩|exact⟨rfl,(K,qp),_,e0,(cG [0,1,2])⟩)
  ·intro H hH
   rw[hH]at hkq
   obtain⟨k0,k4,q1,q31,-,-,-⟩:=hkq
   obtain⟨q,hwq⟩:∃q,t7 s.wy=q:=⟨_,rfl⟩
   by_cases h0:H.1=0
   ·have eM:lB s inter qp=Lm H.1 H.2:=by
     unfold lB
     rw[hH]
     have e1:mT H.1 s.wy=fun _=>(0,0):=by unfold mT;rw[if_neg (by omega),if_neg (by omega)]
     have e2:xj H.1=false:=decide_eq_false (by omega)
     rw[e1,e2,if_pos h0,if_neg (by decide)]
     rfl
    rw[eM]
    repeat' (first
     |(refine qz ?_;first
      |refine sO (cs:=Rb s.wy) ?_
      |refine cl ?_ (hi:=by exact Fk hs.wy hwq rfl)
      |refine tY (zs:=vt fun _=>(0,0)) (hz:=zeroV) ?_
      |refine kr (cs:=vt q) ?_ (hs1:=by rfl) (hs2:=by rfl)
      |refine ld (c := .int .u8 H.1) ?_ (hc:=iT _)
      |refine fC ?_ (hle:=by rw[aI])
      |refine kr (cs:=mC (Lm H.1 H.2)) ?_ (hs1:=by rw[aI]) (hs2:=by rw[aI]))
     |refine zz ?_|refine zx (fun _=>?_) (fun _=>?_)|fail)
    show aB _ _ _ _ _ _ _ _;refine kV [] ?_
    rfl
   ·obtain ⟨m, hm⟩:∃m:Mb,(⟨H.1,H.2,mT H.1 s.wy,if xj H.1=true then s.edge else false,fun _=>0⟩:Mb)=m:=⟨_,rfl⟩
    repeat' (first
     |(refine qz ?_;first
      |refine sO (cs:=Rb s.wy) ?_
      |refine cl ?_ (hi:=by exact Fk hs.wy hwq rfl)
      |refine tY (zs:=vt fun _=>(0,0)) (hz:=zeroV) ?_
      |refine kr (cs:=vt q) ?_ (hs1:=by rfl) (hs2:=by rfl))
     |refine WX.zt 10 (σ:=Mb) (fun x=>[(3,.one (.ptr 0 0)),(6,.one (.ptr 1 0)),(7,.one (.ptr 2 0))]) (fun x=>[.cells (r6 s) 81 false false,.cells (mC lC) 53 false false,.cells (mC x) 53 false false]) (fun x=>m=x) (fun s _=>lS) ?_ ?_|refine zz ?_|refine zx (fun _=>?_) (fun _=>?_)|fail)
    ·intro _
     by_cases h1:H.1=1
     ·have e1:mC m=mC {Lm H.1 H.2 with v:=fun _=>q 0}:=by
       rw[<-hm,<-hwq]
       have e1:mT H.1 s.wy=fun _=>t7 s.wy 0:=if_pos h1
       have e2:xj H.1=false:=decide_eq_false (by omega)
       rw[e1,e2,if_neg (by decide)]
       rfl
      repeat' (first
       |(refine qz ?_;first
        |refine ld (c := .int .u8 H.1) ?_ (hc:=iT _)
        |refine cl ?_ (hi:=by exact Ot rfl)
        |refine Qc (off:=2) (s:=4) ?_ (hs2:=by rw[aI];omega) (hv:=N5 (Lm H.1 H.2) (fun _=>q 0)))
       |refine zz ?_|refine zx (fun _=>?_) (fun _=>?_)|fail)
      first|exact⟨m,_,rfl,(cG [0,1,2] (obj:=by(repeat' (first|exact ae.nil|refine ae.flat (by rw[e1];rfl) ?_|refine ae.flat rfl ?_|refine ae.cons rfl ?_|refine ae.dead rfl ?_|refine ae.cons (by simp only[ak.ay,List.map_cons,List.map_nil,XC.ay,aC];exact rfl) ?_));first|done|fail))⟩|exact⟨rfl,m,_,rfl,(cG [0,1,2] (obj:=by(repeat' (first|exact ae.nil|refine ae.flat (by rw[e1];rfl) ?_|refine ae.flat rfl ?_|refine ae.cons rfl ?_|refine ae.dead rfl ?_|refine ae.cons (by simp only[ak.ay,List.map_cons,List.map_nil,XC.ay,aC];exact rfl) ?_));first|done|fail))⟩
     ·by_cases h2:H.1=2
      ·have e1:mC m=mC {Lm H.1 H.2 with v:=q}:=by
        rw[<-hm,<-hwq]
        have e1:mT H.1 s.wy=fun k=>if k<4 then t7 s.wy k else(0,0):=by unfold mT;rw[if_neg h1,if_pos h2]
        have e2:xj H.1=false:=decide_eq_false (by omega)
        rw[e1,e2,if_neg (by decide)]
        rfl
       repeat' (first
        |(refine qz ?_;first
         |refine ld (c := .int .u8 H.1) ?_ (hc:=iT _)
         |refine fC ?_ (hle:=by rfl)
         |refine Qc (cs:=vt q) (off:=2) (s:=4) ?_ (hs2:=by rw[aI];omega) (hv:=N5 (Lm H.1 H.2) q))
        |refine zz ?_|refine zx (fun _=>?_) (fun _=>?_)|fail)
       first|exact⟨m,_,rfl,(cG [0,1,2] (obj:=by(repeat' (first|exact ae.nil|refine ae.flat (by rw[e1];rfl) ?_|refine ae.flat rfl ?_|refine ae.cons rfl ?_|refine ae.dead rfl ?_|refine ae.cons (by simp only[ak.ay,List.map_cons,List.map_nil,XC.ay,aC];exact rfl) ?_));first|done|fail))⟩|exact⟨rfl,m,_,rfl,(cG [0,1,2] (obj:=by(repeat' (first|exact ae.nil|refine ae.flat (by rw[e1];rfl) ?_|refine ae.flat rfl ?_|refine ae.cons rfl ?_|refine ae.dead rfl ?_|refine ae.cons (by simp only[ak.ay,List.map_cons,List.map_nil,XC.ay,aC];exact rfl) ?_));first|done|fail))⟩
      ·have e1:mC m=mC {Lm H.1 H.2 with edge:=s.edge}:=by
        rw[<-hm]
        have e1:mT H.1 s.wy=fun _=>(0,0):=by unfold mT;rw[if_neg h1,if_neg h2]
        have e2:xj H.1=true:=decide_eq_true (by omega)
        rw[e1,e2,if_pos rfl]
        rfl
       repeat' (first
        |(refine qz ?_;first
         |refine ld (c := .int .u8 H.1) ?_ (hc:=iT _)
         |refine st (c := .bool s.edge) ?_ (hle:=by rw[aI];omega) (hv:=Mt _ _))
        |refine zz ?_|refine zx (fun _=>?_) (fun _=>?_)|fail)
       first|exact⟨m,_,rfl,(cG [0,1,2] (obj:=by(repeat' (first|exact ae.nil|refine ae.flat (by rw[e1];rfl) ?_|refine ae.flat rfl ?_|refine ae.cons rfl ?_|refine ae.dead rfl ?_|refine ae.cons (by simp only[ak.ay,List.map_cons,List.map_nil,XC.ay,aC];exact rfl) ?_));first|done|fail))⟩|exact⟨rfl,m,_,rfl,(cG [0,1,2] (obj:=by(repeat' (first|exact ae.nil|refine ae.flat (by rw[e1];rfl) ?_|refine ae.flat rfl ?_|refine ae.cons rfl ?_|refine ae.dead rfl ?_|refine ae.cons (by simp only[ak.ay,List.map_cons,List.map_nil,XC.ay,aC];exact rfl) ?_));first|done|fail))⟩
    ·intro x hx
     subst hx
     have em0:mC m=mC {m with lev:=fun _=>0}:=by rw[<-hm]
     obtain⟨al,hal⟩:∃al,xj H.1=al:=⟨_,rfl⟩
     have hma:alone m=al:=by rw[<-hal,<-hm];rfl
     have eM:lB s inter qp = {m with lev:=(jl s al 6).2}:=by
      unfold lB
      rw[hH,if_neg h0,<-hal,<-hm]
     rw[eM]
     have hsd:=hs.seed
     repeat' (first
      |(refine qz ?_;first
       |refine ld (c := .int .u32 s.seed) ?_)
      |refine zz ?_|refine zx (fun _=>?_) (fun _=>?_)|fail)
     refine WX.dA (σ:=Nat×Int×(Nat->Int)) (fun t=>[(3,.one (.ptr 0 0)),(6,.one (.ptr 1 0)),(7,.one (.ptr 2 0)),(10,.one (.int .u32 t.2.1)),(68,.one (.int .i64 (t.1:Nat)))]) (fun t=>[.cells (r6 s) 81 false false,.cells (mC lC) 53 false false,.cells (mC {m with lev:=t.2.2}) 53 false false]) (fun t=>t.1<=6/\jl s al t.1=t.2/\0<=t.2.1/\t.2.1<4294967296) (fun t=>6-t.1) (0,s.seed,fun _=>0) ⟨Nat.zero_le _,rfl,hsd.1,hsd.2⟩ (fun s _=>lS) (cG [0,1,2] (obj:=by(repeat' (first|exact ae.nil|refine ae.flat (by rw[em0];rfl) ?_|refine ae.flat rfl ?_|refine ae.cons rfl ?_|refine ae.dead rfl ?_|refine ae.cons (by simp only[ak.ay,List.map_cons,List.map_nil,XC.ay,aC];exact rfl) ?_));first|done|fail)) ?_
     intro t ⟨ht6,hto,htn⟩ ih
     by_cases hlt:t.1<6
     ·have hkp:=hs.keep t.1 hlt
      repeat' (first|refine zz ?_|refine zx (fun _=>?_) (fun _=>?_)|fail)
      refine WX.dA (σ:=Nat×Int×(Nat->Int)) (fun u=>[(3,.one (.ptr 0 0)),(6,.one (.ptr 1 0)),(7,.one (.ptr 2 0)),(10,.one (.int .u32 u.2.1)),(11,.one (.int .i64 (t.1:Nat))),(68,.one (.int .i64 (t.1:Nat))),(71,.one (.int .i64 (u.1:Nat)))]) (fun u=>[.cells (r6 s) 81 false false,.cells (mC lC) 53 false false,.cells (mC {m with lev:=u.2.2}) 53 false false]) (fun u=>u.1<=64/\ow s t.1 t.2 u.1=u.2/\0<=u.2.1/\u.2.1<4294967296) (fun u=>64-u.1) (0,t.2) ⟨Nat.zero_le _,rfl,htn⟩ (fun s _=>lS) (cG [0,1,2]) ?_
      intro u ⟨hu64,hui,hun⟩ ih2
      by_cases hlu:u.1<64
      ·have hn:=wrap32 (IntKind.u32.wrap (u.2.1*1664525)+1013904223)
       have hd:0<=IntKind.u32.wrap (IntKind.u32.wrap (u.2.1*1664525)+1013904223)/2^(16:Int).toNat/\IntKind.u32.wrap (IntKind.u32.wrap (u.2.1*1664525)+1013904223)/2^(16:Int).toNat<4294967296:=by
        show 0<=IntKind.u32.wrap (IntKind.u32.wrap (u.2.1*1664525)+1013904223)/2^16/\IntKind.u32.wrap (IntKind.u32.wrap (u.2.1*1664525)+1013904223)/2^16<4294967296
        omega
       have hk2:=Kj s hlt
       have hnx:=Jf s t.1 t.2 u.1 hui
       by_cases hbit:s.keep t.1/2^((u.1:Nat):Int).toNat%2^1=1
       ·have hbit':s.keep t.1/2^u.1%2=1:=hbit
        obtain⟨gr,hgr⟩:∃g,s.great=g:=⟨_,rfl⟩
        have hl:(r6 s)[19]? = some (.bool gr):=by rw[<-hgr];rfl
        rw[if_pos hbit',hgr]at hnx
        cases gr
        ·rw[if_neg (by decide)]at hnx
         repeat' (first
          |(refine qz ?_;first
           |refine RT (k := .u32) ?_
           |refine Rx (k := .u32) ?_
           |refine ld (hc:=hl) ?_
           |refine ld (hc:=hk2) ?_
           |refine an 1 ?_
           |refine st ?_ (hle:=by rw[aI];omega) (hv:=uh _ _ _ _))
          |refine zz ?_|refine zx (fun _=>?_) (fun _=>?_)|fail)
         exact ih2 (u.1+1,xq u.2.1,cn u.2.2 (t.1*64+u.1) (xq u.2.1/2^16%7-3)) _ _ _ (cG [0,1,2]) ⟨by show u.1+1<=64;omega,hnx,hn.1,hn.2⟩ (by show 64-(u.1+1)<64-u.1;omega)
        ·rw[if_pos rfl]at hnx
         repeat' (first
          |(refine qz ?_;first
           |refine RT (k := .u32) ?_
           |refine Rx (k := .u32) ?_
           |refine ld (hc:=hl) ?_
           |refine ld (hc:=hk2) ?_
           |refine an 1 ?_
           |refine st ?_ (hle:=by rw[aI];omega) (hv:=uh _ _ _ _))
          |refine zz ?_|refine zx (fun _=>?_) (fun _=>?_)|fail)
         exact ih2 (u.1+1,xq u.2.1,cn (cn u.2.2 (t.1*64+u.1) (xq u.2.1/2^16%7-3)) (t.1*64+u.1) (xq u.2.1/2^16%1001-500)) _ _ _ (cG [0,1,2]) ⟨by show u.1+1<=64;omega,hnx,hn.1,hn.2⟩ (by show 64-(u.1+1)<64-u.1;omega)
       ·have hbit':¬s.keep t.1/2^u.1%2=1:=hbit
        rw[if_neg hbit']at hnx
        repeat' (first
         |(refine qz ?_;first
          |refine RT (k := .u32) ?_
          |refine Rx (k := .u32) ?_
          |refine ld (hc:=hk2) ?_
          |refine an 1 ?_
          |refine st ?_ (hle:=by rw[aI];omega) (hv:=uh _ _ _ _))
         |refine zz ?_|refine zx (fun _=>?_) (fun _=>?_)|fail)
        exact ih2 (u.1+1,xq u.2.1,u.2.2) _ _ _ (cG [0,1,2]) ⟨by show u.1+1<=64;omega,hnx,hn.1,hn.2⟩ (by show 64-(u.1+1)<64-u.1;omega)
      ·have e64:u.1=64:=by omega
       rw[e64,<-hto]at hui
       have hox:=Jh s al t.1 hui
       have hd:0<=u.2.1/2^(20:Int).toNat/\u.2.1/2^(20:Int).toNat<4294967296:=by
        show 0<=u.2.1/2^20/\u.2.1/2^20<4294967296
        omega
       cases al
       ·rw[if_neg (by decide)]at hox
        repeat' (first
         |(refine qz ?_;first
          |refine fC ?_ (hle:=by rw[aI])
          |refine cl ?_ (hi:=by exact iy (m:={m with lev:=u.2.2}) (b:=false) hma rfl))
         |refine zz ?_|refine zx (fun _=>?_) (fun _=>?_)|fail)
        exact ih (t.1+1,u.2.1,u.2.2) _ _ _ (cG [0,1,2]) ⟨by show t.1+1<=6;omega,hox,hun⟩ (by show 6-(t.1+1)<6-t.1;omega)
       ·rw[if_pos rfl]at hox
        repeat' (first
         |(refine qz ?_;first
          |refine fC ?_ (hle:=by rw[aI])
          |refine cl ?_ (hi:=by exact iy (m:={m with lev:=u.2.2}) (b:=true) hma rfl)
          |refine st ?_ (hle:=by rw[aI];omega) (hv:=uh _ _ 0 _))
         |refine zz ?_|refine zx (fun _=>?_) (fun _=>?_)|fail)
        exact ih (t.1+1,u.2.1,cn u.2.2 (t.1*64) (u.2.1/2^20%128)) _ _ _ (cG [0,1,2]) ⟨by show t.1+1<=6;omega,hox,hun⟩ (by show 6-(t.1+1)<6-t.1;omega)
     ·have e6:t.1=6:=by omega
      rw[e6]at hto
      rw[hto]
      repeat' (first
       |(refine qz ?_;first
        |refine fC ?_ (hle:=by rw[aI])
        |refine kr ?_ (hs1:=by rw[aI]) (hs2:=by rw[aI]))
       |refine zz ?_|refine zx (fun _=>?_) (fun _=>?_)|fail)
      show aB _ _ _ _ _ _ _ _;refine kV [] ?_
      rfl
end Go.Proofs.YtagpkhindehcbaaGreat
namespace Go.Proofs.YtagpkhindehcbaaGreat
open Go.Xm
variable [ax]
theorem Ji{s:Sm}(hs:kH s){inter:Bool}{qp:Int}(hq:1<=qp/\qp<=31){m:Mb}(hm:lB s inter qp=m){HS:aj}(hb:Nat.blt HS.length Mem.bound=true):aG.Sound Tryz.prog ⟨21,[.agg (r6 s),.one (.bool inter),.one (.int .i64 qp)],HS,.agg (mC m),HS,[]⟩:=by
 subst hm
 exact az (Mx hs inter hq) rfl (jk _) hb
abbrev PE:Sm:=⟨0,0,⟨fun _=>0,fun _=>0,false⟩,false,fun _=>0,0,false⟩
instance Si:Inhabited Sm:=⟨PE⟩
abbrev R5:Sm:=⟨3,0,⟨fun _=>0,fun _=>0,false⟩,false,fun _=>0,0,false⟩
theorem E7:kH R5:=⟨⟨by decide,by decide⟩,⟨by decide,by decide⟩,⟨fun _ _=>by show -128<=(0:Int)/\(0:Int)<128;decide,fun _ _=>by show -128<=(0:Int)/\(0:Int)<128;decide⟩,fun _ _=>by show(0:Int)<=0/\(0:Int)<18446744073709551616;decide,by decide,by decide⟩
def iZ(l:List Sm)(inter:Bool)(qp:Int):Nat->List Mb×Int
 | 0=>([],qp)
 | k+1=>((iZ l inter qp k).1++[lB (l.getD k default) inter (iZ l inter qp k).2],(lB (l.getD k default) inter (iZ l inter qp k).2).qp)
def sR(n:Nat)(room:Int):Nat:=min n (min 9 room.toNat)
def mU(l:List Sm)(inter:Bool)(qp room:Int):List Mb:=if l.length=0 then [lB R5 inter qp]else(iZ l inter qp (sR l.length room)).1
structure HO(inter:Bool)(qp:Int)(l:List Mb):Prop where
 mok:∀k,k<l.length->iL (l.getD k default)
 chk:∀k,k<l.length->dB (l.getD k default) inter (if k=0 then qp else(l.getD (k-1) default).qp)=0
theorem mV(l:List Sm)(inter:Bool)(qp:Int):∀k,(iZ l inter qp k).1.length=k:=by
 intro k
 induction k with
 | zero=>rfl
 | succ k ih=>show((iZ l inter qp k).1++[_]).length=k+1;rw[List.length_append,ih];rfl
theorem Bs{l:List Sm}(hl:∀j,j<l.length->kH (l.getD j default))(inter:Bool){qp:Int}(hq:1<=qp/\qp<=31):∀k,k<=l.length->HO inter qp (iZ l inter qp k).1/\1<=(iZ l inter qp k).2/\(iZ l inter qp k).2<=31/\(iZ l inter qp k).2=if k=0 then qp else((iZ l inter qp k).1.getD (k-1) default).qp:=by
 intro k
 induction k with
 | zero=>exact fun _=>⟨⟨fun _ h=>absurd h (Nat.not_lt_zero _),fun _ h=>absurd h (Nat.not_lt_zero _)⟩,hq.1,hq.2,rfl⟩
 | succ k ih=>
   intro hk
   obtain⟨ho,h1,h2,h3⟩:=ih (by omega)
   have hlen:=mV l inter qp k
   obtain⟨x,hx⟩:∃x,iZ l inter qp k=x:=⟨_,rfl⟩
   rw[hx]at ho h1 h2 h3 hlen
   obtain⟨m,hm⟩:∃m,lB (l.getD k default) inter x.2=m:=⟨_,rfl⟩
   have hok:=Dg (inter:=inter) (hl k (by omega)) ⟨h1,h2⟩
   rw[hm]at hok
   have e:iZ l inter qp (k+1)=(x.1++[m],m.qp):=by rw[iZ,hx,hm]
   have g1:∀j,j<k->(x.1++[m]).getD j default=x.1.getD j default:=fun j hj=>by
    rw[List.getD_eq_getElem?_getD,List.getD_eq_getElem?_getD,List.getElem?_append_left (by omega)]
   have g2:(x.1++[m]).getD k default=m:=by
    rw[List.getD_eq_getElem?_getD,List.getElem?_append_right (by omega),hlen,Nat.sub_self]
    rfl
   rw[e]
   refine⟨⟨fun j hj=>?_,fun j hj=>?_⟩,hok.2.2.1,hok.2.2.2,?_⟩
   ·have hj':j<k+1:=by rw[List.length_append,hlen]at hj;exact hj
    show iL ((x.1++[m]).getD j default)
    by_cases h:j<k
    ·rw[g1 j h];exact ho.mok j (by omega)
    ·obtain rfl:j=k:=by omega
     rw[g2];exact hok.1
   ·have hj':j<k+1:=by rw[List.length_append,hlen]at hj;exact hj
    show dB ((x.1++[m]).getD j default) inter (if j=0 then qp else((x.1++[m]).getD (j-1) default).qp)=0
    by_cases h:j<k
    ·rw[g1 j h]
     have:=ho.chk j (by omega)
     by_cases h0:j=0
     ·rw[if_pos h0]at this ⊢;exact this
     ·rw[if_neg h0]at this ⊢
      rw[g1 (j-1) (by omega)];exact this
    ·obtain rfl:j=k:=by omega
     rw[g2]
     have h3':(if j=0 then qp else((x.1++[m]).getD (j-1) default).qp)=x.2:=by
      rw[h3]
      by_cases h0:j=0
      ·rw[if_pos h0,if_pos h0]
      ·rw[if_neg h0,if_neg h0,g1 (j-1) (by omega)]
     rw[h3'];exact hok.2.1
   ·rw[if_neg (by omega)]
    show m.qp=((x.1++[m]).getD (k+1-1) default).qp
    rw[Nat.add_sub_cancel,g2]
theorem Jj{l:List Sm}(hl:∀j,j<l.length->kH (l.getD j default))(inter:Bool){qp:Int}(hq:1<=qp/\qp<=31){room:Int}(hr:1<=room):HO inter qp (mU l inter qp room)/\1<=(mU l inter qp room).length/\(mU l inter qp room).length<=9/\(((mU l inter qp room).length:Nat):Int)<=room:=by
 unfold mU
 by_cases h0:l.length=0
 ·rw[if_pos h0]
  have hok:=Dg (inter:=inter) E7 hq
  refine⟨⟨fun k hk=>?_,fun k hk=>?_⟩,Nat.le_refl 1,by show 1<=9;decide,hr⟩
  ·have:k=0:=by simp at hk;exact hk
   subst this;exact hok.1
  ·have:k=0:=by simp at hk;exact hk
   subst this;rw[if_pos rfl];exact hok.2.1
 ·rw[if_neg h0]
  have:=Bs hl inter hq (sR l.length room) (Nat.min_le_left _ _)
  refine⟨this.1,?_,?_,?_⟩
  ·rw[mV];unfold sR;omega
  ·rw[mV];unfold sR;omega
  ·rw[mV];unfold sR;omega
def gK(h:Hd)(p:Ph)(f:Int)(c:XC):List XC:=f_ h++(hU p++[.int .u8 f,c])
theorem s7(h:Hd)(p:Ph)(f:Int)(c:XC):(gK h p f c).length=137:=by simp[gK,bt,hU]
theorem Kk(h:Hd)(p:Ph)(f:Int)(c:XC):((gK h p f c).drop 0).take 131=f_ h:=by
 unfold gK
 rw[List.drop_zero,List.take_append_of_le_length (by rw[bt];exact Nat.le_refl _),List.take_of_length_le (by rw[bt];exact Nat.le_refl _)]
theorem BV(h:Hd)(p:Ph)(f:Int)(c:XC)(j:Nat):(gK h p f c)[131+j]? = (hU p++[.int .u8 f,c])[j]?:=by
 unfold gK
 rw[List.getElem?_append_right (by rw[bt];omega),bt,Nat.add_sub_cancel_left]
theorem Kl(h:Hd)(p:Ph)(f:Int)(c:XC):((gK h p f c).drop 131).take 4=hU p:=by
 unfold gK
 rw[List.drop_append_of_le_length (by rw[bt];exact Nat.le_refl _),List.drop_of_length_le (by rw[bt];exact Nat.le_refl _)]
 rfl
theorem Ng(h:Hd)(p:Ph)(f:Int)(c:XC):(gK h p f c)[135]? = some (.int .u8 f):=BV h p f c 4
theorem Nf(h:Hd)(p:Ph)(f:Int)(c:XC):(gK h p f c)[136]? = some c:=BV h p f c 5
end Go.Proofs.YtagpkhindehcbaaGreat
namespace Go.Proofs.YtagpkhindehcbaaGreat
open Go.Xm
variable [ax]
theorem D9:bD Tryz.prog 28 (hU ⟨0,false,false,0⟩):=by
 show bD Tryz.prog 28 [.int .i64 0,.bool false,.bool false,.int .i64 0]
 infer_instance
theorem IQ(g:Hd)(z:Int):(f_ g).set 0 (.int .i64 z)=f_ {g with cols:=z}:=rfl
def fx(h:Hd)(f:Int):Int:=f%((four h).cols*(four h).rows)
def gj(h:Hd)(p:Ph)(f:Int)(l:List Sm):List Mb:=mU l (qO p).inter (qO p).qp ((four h).cols*(four h).rows-fx h f)
theorem D_:bD Tryz.prog 81 (r6 PE):=by
 show bD Tryz.prog 81 [.int .u8 0,.int .u8 0,.int .i8 0,.int .i8 0,.int .i8 0,.int .i8 0,.int .i8 0,.int .i8 0,.int .i8 0,.int .i8 0,.bool false,.bool false,.int .u64 0,.int .u64 0,.int .u64 0,.int .u64 0,.int .u64 0,.int .u64 0,.int .u32 0,.bool false]
 infer_instance
theorem rN(G:Hd)(P:Ph)(F:Int)(n k:Nat)(cap:sx){m:Nat}(hk:k<m):(XV.tup [.agg (f_ G),.agg (hU P),.one (.int .i64 F),.one (.slice k 0 n cap)]).ca m:=fun x hx=>by
 simp only[List.mem_cons,List.not_mem_nil,or_false]at hx
 rcases hx with rfl|rfl|rfl|rfl
 ·exact X1.bV (x := .agg (f_ G)) (ji G) m
 ·exact X1.bV (x := .agg (hU P)) rfl m
 ·trivial
 ·exact hk
theorem pP(G:Hd)(P:Ph)(F:Int)(n k:Nat)(cap:sx)(τ : Nat->Nat):(XV.tup [.agg (f_ G),.agg (hU P),.one (.int .i64 F),.one (.slice k 0 n cap)]).ay τ = .tup [.agg (f_ G),.agg (hU P),.one (.int .i64 F),.one (.slice (τ k) 0 n cap)]:=by
 have h:=(Mf G).ay τ
 have e1:(X1.agg (f_ G)).ay τ = .agg (f_ G):=X1.eE (x := .agg (f_ G)) (ji G) τ
 simp only[XV.ay,List.map_cons,List.map_nil,e1]
 rfl
def Ij(n:Nat):sx:=if n=0 then .exact 1 else .toEnd 391
def Gj(n:Nat):Bool:=if n=0 then false else true
theorem Jk{h:Hd}{p:Ph}(hh:tu h)(hp:qm p){f:Int}(hf:0<=f/\f<=255)(l:List Sm)(hl:∀j,j<l.length->kH (l.getD j default))(ob:ak)(ho:sD ob r6 l)(c:XC)(hc:dj c 0 0 l.length)(hn:l.length<=9223372036854775807) :
 bh Tryz.prog 9 [.agg (gK h p f c)] [ob] (.tup [.agg (f_ (four h)),.agg (hU (qO p)),.one (.int .i64 (fx h f)),.one (.slice 1 0 (gj h p f l).length (Ij l.length))]) [ob,.cells (fl mC (gj h p f l)) 53 (Gj l.length) false]:=by
 have hfo:=ho.flat
 obtain⟨hgo,g1,g2,g3,g4⟩:=Ez h
 have hcr:1<=(four h).cols*(four h).rows/\(four h).cols*(four h).rows<=64:=jf hgo.dims
 obtain⟨P,hP⟩:∃P,qO p=P:=⟨_,rfl⟩
 have hpq:=(Eu hp).qp
 obtain⟨F,hF⟩:∃F,fx h f=F:=⟨_,rfl⟩
 have hF2:f%((four h).cols*(four h).rows)=F:=hF
 have hFr:0<=F/\F<(four h).cols*(four h).rows:=by
  rw[<-hF2]
  exact⟨Int.emod_nonneg _ (by omega),Int.emod_lt_of_pos _ (by omega)⟩
 have hall:gj h p f l=mU l P.inter P.qp ((four h).cols*(four h).rows-F):=by unfold gj;rw[hP,hF]
 obtain⟨G,hG⟩:∃G,four h=G:=⟨_,rfl⟩
 have hset:(f_ {rG h with cols:=1+(rG h).cols%2^2}).set 1 (.int .i64 (1+(rG h).rows%2^2))=f_ G:=by rw[<-hG];rfl
 rw[hP]at hpq
 rw[hG]at hgo g1 g2 g3 g4 hcr hF2 hFr hall
 rw[hG,hP,hF,hall]
 have hlen:131=(f_ G).length:=(bt _).symm
 obtain⟨r,hr⟩:∃r,G.cols*G.rows-F=r:=⟨_,rfl⟩
 have hr1:1<=r/\r<=64:=by omega
 refine cO Tryz.func9 ?_
 repeat' (first
  |(refine qz ?_;first
   |refine tY (zs:=f_ ⟨0,0,false,fun _=>0,fun _=>0⟩) (hz:=Ap) ?_
   |refine tY (zs:=hU ⟨0,false,false,0⟩) (hz:=D9) ?_
   |refine sO (cs:=f_ h) ?_ (hle:=by rw[s7];decide) (hc:=Kk h p f c)
   |refine sO (cs:=hU p) ?_ (hle:=by rw[s7];decide) (hc:=Kl h p f c)
   |refine cl ?_ (hi:=by exact IJ hh rfl rfl)
   |refine cl ?_ (hi:=by exact IK hp hP rfl)
   |refine kr (cs:=f_ (rG h)) ?_ (hs1:=by rw[bt]) (hs2:=by rw[bt])
   |refine kr (cs:=hU P) ?_
   |refine an 2 ?_
   |refine st ?_ (hle:=by rw[bt];omega) (hv:=hset)
   |refine st (c := .int .i64 (1+(rG h).cols%2^2)) ?_ (hle:=by rw[bt];omega) (hv:=IQ _ _)
   |refine ld (c := .int .u8 f) ?_ (hc:=Ng h p f c)
   |refine ld (c:=c) ?_ (hc:=Nf h p f c)
   |refine ld (c := .int .i64 G.cols) ?_
   |refine ld (c := .int .i64 G.rows) ?_)
  |refine Hn (id:=1) [6,7] ?_|refine zz ?_|refine zx (fun _=>?_) (fun _=>?_)|fail)
 refine WX.c7 rfl ?_
 obtain⟨N,hN⟩:∃N,sR l.length r=N:=⟨_,rfl⟩
 have hN2:min l.length (min 9 r.toNat)=N:=hN
 refine WX.dA (σ:=Nat×List Mb×Int) (fun t=>[(2,.one (.ptr 1 0)),(3,.one (.ptr 2 0)),(6,.one (.ptr 3 0)),(7,.one (.ptr 4 0)),(8,.one (.int .i64 F)),(42,.one c),(43,.one (.int .i64 (l.length:Nat))),(9,iv 5 t.2.1.length 391),(10,.one (.int .i64 t.2.2)),(44,.one (.int .i64 (t.1:Nat)))]) (fun t=>[ob,.cells (f_ ⟨0,0,false,fun _=>0,fun _=>0⟩) 26 false false,.cells (hU ⟨0,false,false,0⟩) 28 false false,.cells (f_ G) 26 false false,.cells (hU P) 28 false false,cR 53 (fl mC t.2.1)]) (fun t=>t.1<=N/\iZ l P.inter P.qp t.1=t.2) (fun t=>N-t.1) (0,[],P.qp) ⟨Nat.zero_le _,rfl⟩ (fun s _=>lS) (cG [0,2,3,4,5,6] (reg:=by(repeat' (first|exact ah.nil|refine ah.flat (by rw[<-hF2];rfl) ?_|refine ah.flat rfl ?_|refine ah.cons rfl ?_|refine ah.sl rfl (by assumption) rfl ?_|refine ah.fM rfl rfl (by first|rfl|omega|(simp;done)|(simp;omega)) ?_));first|done|fail)) ?_
 intro t ⟨ht,hrun⟩ ih
 have htl:=mV l P.inter P.qp t.1
 have hto:=Bs hl P.inter hpq t.1 (by omega)
 rw[hrun]at htl hto
 obtain⟨-,hq1,hq2,-⟩:=hto
 by_cases hlt:t.1<N
 ·have hmk:=hl t.1 (by omega)
  obtain⟨el,hel⟩:∃el,l.getD t.1 default=el:=⟨_,rfl⟩
  have hel':l.getD (t.1:Int).toNat default=el:=hel
  rw[hel]at hmk
  obtain⟨m,hm⟩:∃m,lB el P.inter t.2.2=m:=⟨_,rfl⟩
  have hnx:iZ l P.inter P.qp (t.1+1)=(t.2.1++[m],m.qp):=by rw[iZ,hrun,hel,hm]
  repeat' (first
   |(refine qz ?_;first
    |refine tY (zs:=r6 PE) (hz:=D_) ?_
    |refine tY (zs:=mC lC) (hz:=j0) ?_
    |refine pa (enc:=r6) ?_
    |refine kr (cs:=r6 el) ?_ (hy:=by rw[<-hel'];rfl)
    |refine ld (c := .int .i64 G.cols) ?_
    |refine ld (c := .int .i64 G.rows) ?_
    |refine ld (c := .int .i64 m.qp) ?_
    |refine cl ?_ (hi:=by exact Ji hmk ⟨hq1,hq2⟩ hm rfl)
    |refine kr (cs:=mC m) ?_ (hs1:=by rw[aI]) (hs2:=by rw[aI])
    |refine fC ?_ (hle:=by rw[aI])
    |refine oP (enc:=mC) (a:=m) ?_
    |refine ub (enc:=mC) ?_)
   |refine zz ?_|refine zx (fun _=>?_) (fun _=>?_)|fail)
  exact ih (t.1+1,t.2.1++[m],m.qp) _ _ _ (cG [0,1,2,3,4,9] (obj:=by(repeat' (first|exact ae.nil|refine ae.flat (by rw[List.length_append];rfl) ?_|refine ae.flat rfl ?_|refine ae.cons rfl ?_|refine ae.dead rfl ?_|refine ae.cons (by simp only[ak.ay,List.map_cons,List.map_nil,XC.ay,aC];exact rfl) ?_));first|done|fail) (reg:=by(repeat' (first|exact ah.nil|refine ah.flat (by rw[List.length_append];rfl) ?_|refine ah.flat rfl ?_|refine ah.cons rfl ?_|refine ah.sl rfl (by assumption) rfl ?_|refine ah.fM rfl rfl (by first|rfl|omega|(simp;done)|(simp;omega)) ?_));first|done|fail)) ⟨by show t.1+1<=N;omega,hnx⟩ (by show N-(t.1+1)<N-t.1;omega)
 ·have e0:t.1=N:=by omega
  by_cases h0:l.length=0
  ·have eN:N=0:=by omega
   rw[e0,eN]at hrun
   have et:t.2.1 = []:=by rw[<-hrun];rfl
   have eq:t.2.2=P.qp:=by rw[<-hrun];rfl
   obtain⟨m,hm⟩:∃m,lB R5 P.inter P.qp=m:=⟨_,rfl⟩
   have eL:mU l P.inter P.qp r = [m]:=by unfold mU;rw[if_pos h0,hm]
   have ec:Ij l.length = .exact 1:=if_pos h0
   have eo:Gj l.length=false:=if_pos h0
   rw[hr,eL,ec,eo,et,eq]
   repeat' (first
    |(refine qz ?_;first
     |refine bS (zs:=r6 PE) (hz:=D_) ?_
     |refine cl ?_ (hi:=by exact Ji E7 hpq hm rfl)
     |refine oP (enc:=mC) (a:=m) ?_
     |refine ld (c := .int .i64 G.cols) ?_
     |refine ld (c := .int .i64 G.rows) ?_
     |refine fC ?_ (hle:=by rw[bt])
     |refine kr (cs:=f_ G) ?_ (hs1:=by rw[bt]) (hs2:=by rw[bt])
     |refine kr (cs:=hU P) ?_)
    |refine zz ?_|refine zx (fun _=>?_) (fun _=>?_)|fail)
   show aB _ _ _ _ _ _ _ _;refine kV [0,6] ?_ (hr:=ig.two rfl (.cell rfl rfl (cj hlen) (.cell rfl rfl (cj rfl) (.tmp rfl (.tmp rfl .nil))))) (hok:=rN G P F _ 1 _ (show 1<2 from Nat.lt_succ_self 1))
   rw[pP];rfl
  ·have hne:t.2.1.length≠0:=by omega
   have hne2:fl mC t.2.1≠[]:=A3 (fun e=>hne (by rw[e];rfl))
   have eL:mU l P.inter P.qp r=t.2.1:=by unfold mU;rw[if_neg h0,hN,<-e0,hrun]
   have ec:Ij l.length = .toEnd 391:=if_neg h0
   have eo:Gj l.length=true:=if_neg h0
   rw[hr,eL,ec,eo,e9 hne2,l9 hne]
   by_cases h1:t.1<l.length
   ·repeat' (first
     |(refine qz ?_;first
      |refine tY (zs:=r6 PE) (hz:=D_) ?_
      |refine pa (enc:=r6) ?_
      |refine kr (cs:=r6 (l.getD (t.1:Int).toNat default)) ?_
      |refine ld (c := .int .i64 G.cols) ?_
      |refine ld (c := .int .i64 G.rows) ?_
      |refine fC ?_ (hle:=by rw[bt])
      |refine kr (cs:=f_ G) ?_ (hs1:=by rw[bt]) (hs2:=by rw[bt])
      |refine kr (cs:=hU P) ?_)
     |refine zz ?_|refine zx (fun _=>?_) (fun _=>?_)|fail)
    all_goals first|(exfalso;omega)|skip
    all_goals (show aB _ _ _ _ _ _ _ _;refine kV [0,5] ?_ (hr:=ig.two rfl (.cell rfl rfl (cj hlen) (.cell rfl rfl (cj rfl) (.tmp rfl (.tmp rfl .nil))))) (hok:=rN G P F _ 1 _ (show 1<2 from Nat.lt_succ_self 1)))
    all_goals (rw[pP];rfl)
   ·repeat' (first
     |(refine qz ?_;first
      |refine ld (c := .int .i64 G.cols) ?_
      |refine ld (c := .int .i64 G.rows) ?_
      |refine fC ?_ (hle:=by rw[bt])
      |refine kr (cs:=f_ G) ?_ (hs1:=by rw[bt]) (hs2:=by rw[bt])
      |refine kr (cs:=hU P) ?_)
     |refine zz ?_|refine zx (fun _=>?_) (fun _=>?_)|fail)
    show aB _ _ _ _ _ _ _ _;refine kV [0,5] ?_ (hr:=ig.two rfl (.cell rfl rfl (cj hlen) (.cell rfl rfl (cj rfl) (.tmp rfl (.tmp rfl .nil))))) (hok:=rN G P F _ 1 _ (show 1<2 from Nat.lt_succ_self 1))
    rw[pP];rfl
end Go.Proofs.YtagpkhindehcbaaGreat
namespace Go.Proofs.YtagpkhindehcbaaGreat
open Go.Xm
variable [ax]
theorem yf{first:Int}{k:Nat}{m:Mb}{x y:PS}(h:kn first k m x = .inr y):dB m x.S.inter x.S.qp=0/\∃z,hZ x.S x.B x.w m (first+(k:Nat))=some z/\y=⟨z.1,z.2.1,z.2.2⟩:=by
 unfold kn at h
 split at h
 ·cases h
 ·rename_i hc
  refine⟨Decidable.byContradiction fun g=>hc g,?_⟩
  split at h
  ·cases h
  ·rename_i z hz
   exact⟨z,hz,(Sum.inr.inj h).symm⟩
theorem qV{l:List Mb}{first:Int}{x0:PS}{k:Nat}{y:PS}(h:gd l first x0 (k+1) = .inr y):∃x,gd l first x0 k = .inr x/\kn first k (l.getD k default) x = .inr y:=by
 rw[gd]at h
 split at h
 ·cases h
 ·rename_i x hx
  exact⟨x,hx,h⟩
theorem vP{l:List Mb}{first:Int}{x0:PS}{n:Nat}{y:PS}(h:gd l first x0 n = .inr y):∀k,k<=n->∃x,gd l first x0 k = .inr x:=by
 intro k hk
 cases hx:gd l first x0 k with
 | inr x=>exact⟨x,rfl⟩
 | inl e=>
   have:=lE hx n hk
   rw[h]at this
   cases this
theorem vz{h:Hd}{p:Ph}{l:List Mb}{first:Int}(hT:gu h p l first){k:Nat}(hk:k<l.length):iL (l.getD k default):=by
 rw[List.getD_eq_getElem?_getD,List.getElem?_eq_getElem hk,Option.getD_some]
 exact hT.mok _ (List.getElem_mem hk)
theorem vQ{h:Hd}{p:Ph}{l:List Mb}{first:Int}(hT:gu h p l first):∀k,k<=l.length->∀x,gd l first (qW h p) k = .inr x->y4 p.inter h.cols h.rows k x:=by
 intro k
 induction k with
 | zero=>intro _ x hx;cases hx;exact BB hT.hd hT.ph
 | succ k ih=>
   intro hk x hx
   obtain⟨y,hy,hs⟩:=qV hx
   exact mZ (ih (by omega) y hy) (vz hT (by omega)) hs
theorem ye{h:Hd}{p:Ph}{l:List Mb}{first:Int}(hT:gu h p l first){k:Nat}(hk:k<l.length){x y:PS}(hx:gd l first (qW h p) k = .inr x)(hy:gd l first (qW h p) (k+1) = .inr y):x.B <+: y.B/\x.B.length<y.B.length:=by
 have hi:=vQ hT k (by omega) x hx
 have hm:=vz hT hk
 obtain⟨x',hx',hs⟩:=qV hy
 obtain rfl:x=x':=by rw[hx]at hx';exact Sum.inr.inj hx'
 obtain⟨hc,z,hz,rfl⟩:=yf hs
 have hk2:=yh hi.st hm (mM hm hc) hz
 have hn:0<(aA x.S (l.getD k default)).length:=by
  unfold aA
  rw[List.length_append]
  split
  ·have hf:=(mM hm hc).kind
   have:∀n:Fin 5,0<(cV cM n.val).length:=by decide +kernel
   have:=this ⟨(l.getD k default).kind.toNat,by omega⟩
   simp only at this
   omega
  ·simp only[List.length_cons,List.length_nil];omega
 refine⟨(List.prefix_append _ _).trans hk2.pre,?_⟩
 have:=hk2.pre.length_le
 rw[List.length_append]at this
 show x.B.length<z.2.1.length
 omega
theorem JJ{h:Hd}{p:Ph}{l:List Mb}{first:Int}(hT:gu h p l first){k:Nat}{x:PS}(hx:gd l first (qW h p) k = .inr x):∀n,k<=n->n<=l.length->∀y,gd l first (qW h p) n = .inr y->x.B <+: y.B/\(k<n->x.B.length<y.B.length):=by
 intro n hn
 induction hn with
 | refl=>
   intro _ y hy
   rw[hx]at hy
   cases hy
   exact⟨List.prefix_refl _,fun g=>absurd g (Nat.lt_irrefl _)⟩
 | @step n hkn ih=>
   intro hl y hy
   obtain⟨w,hw⟩:=vP hy n (Nat.le_succ _)
   have h1:=ih (by omega) w hw
   have h2:=ye hT (by omega) hw hy
   exact⟨h1.1.trans h2.1,fun _=>by have:=h1.1.length_le;omega⟩
noncomputable def RV(l:List Mb)(first:Int)(x0:PS)(i j:Nat):List Ev:=
 match gd l first x0 i with
 | .inr x=>tZ x.S x.B (l.getD i default) (first+(i:Nat)) j
 | .inl _=>[]
structure CD(l:List Mb)(ft:Int)(x0:PS)(k:Nat)(x:PS)(t:TA):Prop where
 rel:Rel x.S t.S
 r:t.r=(x.B.length,false)
 len:t.out.length=k
 outs:∀i,i<k->∃o,t.out[i]? = some o/\xB (l.getD i default) o.1/\∀j,j<6->o.2 j=decide (0<(RV l ft x0 i j).length)
theorem rel_refl(S:bm):Rel S S:=⟨rfl,rfl,rfl,rfl,fun _=>rfl,fun _=>rfl,fun _=>rfl,fun _=>rfl⟩
theorem Nj{h:Hd}{p:Ph}{l:List Mb}{first:Int}(hT:gu h p l first){B:List Bool}:∀k,k<=l.length->∀x,gd l first (qW h p) k = .inr x->x.B <+: B->∃t,(∀j,fF B first (k+j) ⟨dS h p,(0,false),[]⟩=fF B first j t)/\CD l first (qW h p) k x t:=by
 intro k
 induction k with
 | zero=>
   intro _ x hx hp
   cases hx
   exact⟨⟨dS h p,(0,false),[]⟩,fun j=>by rw[Nat.zero_add],rel_refl _,rfl,rfl,fun i hi=>absurd hi (Nat.not_lt_zero _)⟩
 | succ k ih=>
   intro hk y hy hp
   obtain⟨x,hx,hs⟩:=qV hy
   have hpre:=(ye hT (by omega) hx hy).1
   obtain⟨t,ht,hb⟩:=ih (by omega) x hx (hpre.trans hp)
   have hi:=vQ hT k (by omega) x hx
   have hm:=vz hT (k:=k) (by omega)
   obtain⟨hc,z,hz,rfl⟩:=yf hs
   have hf:=mM hm hc
   have hmb:first+(t.out.length:Nat)=first+(k:Nat):=by rw[hb.len]
   have hz':hZ x.S x.B x.w (l.getD k default) (first+(k:Nat))=some (z.1,z.2.1,z.2.2):=hz
   obtain⟨b1,b2,b3,b4⟩:=yC hb.rel hi.st.tiny (rH hm hf) hf hz' hp
   refine⟨iU B first t,fun j=>?_,?_,?_,?_,?_⟩
   ·rw[show k+1+j=k+(j+1) by omega,ht (j+1),fF,if_neg (by rw[hb.r];exact Bool.false_ne_true)]
   ·show Rel z.1 (bY t.S B (first+(t.out.length:Nat)) t.r).1.S
    rw[hmb,hb.r];exact b2
   ·show(bY t.S B (first+(t.out.length:Nat)) t.r).1.r=_
    rw[hmb,hb.r];exact b1
   ·show(t.out++[_]).length=k+1
    rw[List.length_append,hb.len];rfl
   ·intro i hi'
    show ∃o,(t.out++[((bY t.S B (first+(t.out.length:Nat)) t.r).1.m,(bY t.S B (first+(t.out.length:Nat)) t.r).2)])[i]? = some o/\_
    by_cases h1:i<k
    ·obtain⟨o,ho,h2⟩:=hb.outs i h1
     exact⟨o,by rw[List.getElem?_append_left (by rw[hb.len];exact h1)];exact ho,h2⟩
    ·obtain rfl:i=k:=by omega
     refine⟨_,by rw[List.getElem?_append_right (by rw[hb.len];exact Nat.le_refl _),hb.len,Nat.sub_self];rfl,?_,?_⟩
     ·show xB _ (bY t.S B (first+(i:Nat)) t.r).1.m
      rw[hb.r];exact b3
     ·intro j hj
      show(bY t.S B (first+(i:Nat)) t.r).2 j=_
      rw[hb.r,b4 j hj]
      unfold RV
      rw[hx]
theorem G0{h:Hd}{p:Ph}{l:List Mb}{first:Int}(hT:gu h p l first){x:PS}(hx:gd l first (qW h p) l.length = .inr x){n:Nat}(hn:n<=l.length) :
 ∃t y,fF x.B first n ⟨dS h p,(0,false),[]⟩=t/\gd l first (qW h p) n = .inr y/\CD l first (qW h p) n y t/\kC x.B t.r=if n<l.length then 13 else 0:=by
 obtain⟨y,hy⟩:=vP hx n hn
 have hp:=JJ hT hy l.length hn (Nat.le_refl _) x hx
 obtain⟨t,ht,hb⟩:=Nj hT n hn y hy hp.1
 have ht0:=ht 0
 rw[Nat.add_zero]at ht0
 refine⟨t,y,ht0,hy,hb,?_⟩
 rw[hb.r]
 unfold kC
 by_cases hlt:n<l.length
 ·rw[if_pos hlt,if_neg Bool.false_ne_true,if_pos (hp.2 hlt)]
 ·have e:n=l.length:=by omega
  rw[e,hx]at hy
  cases hy
  rw[if_neg hlt,if_neg Bool.false_ne_true,if_neg (Nat.lt_irrefl _)]
end Go.Proofs.YtagpkhindehcbaaGreat
namespace Go.Proofs.YtagpkhindehcbaaGreat
open Go.Xm
variable [ax]
abbrev eU(K:Nat):aj:=[bO (K+1) (K+5) (K+9),aw (K+2) (K+3) (K+4) cM,aR cM,aT cM,aS cM,aw (K+6) (K+7) (K+8) cZ,aR cZ,aT cZ,aS cZ,aw (K+10) (K+11) (K+12) cP,aR cP,aT cP,aS cP]
abbrev lA(K:Nat)(r:List Nat):List Nat:=K::(K+1)::(K+2)::(K+3)::(K+4)::(K+5)::(K+6)::(K+7)::(K+8)::(K+9)::(K+10)::(K+11)::(K+12)::r
theorem vA(K:Nat)(r:List Nat):∀j,j<13->nth (lA K r) j=K+j:=fun j hj=>by
 match j,hj with
 | 0,_=>rfl
 | 1,_=>rfl
 | 2,_=>rfl
 | 3,_=>rfl
 | 4,_=>rfl
 | 5,_=>rfl
 | 6,_=>rfl
 | 7,_=>rfl
 | 8,_=>rfl
 | 9,_=>rfl
 | 10,_=>rfl
 | 11,_=>rfl
 | 12,_=>rfl
theorem zo{HS:aj}{K:Nat}(hS:(HS.drop K).take 13=eU K){τ : Nat->Nat}(h:∀j,j<13 -> τ j=K+j){ls:List Nat}{l:aj}(hl:ae τ HS ls l):ae τ HS (lA K ls) (dZ++l):=by
 have g:∀j,j<13->HS[K+j]? = (eU K)[j]?:=fun j hj=>by rw[<-hS,List.getElem?_take_of_lt hj,List.getElem?_drop]
 have g0:HS[K]? = some (bO (K+1) (K+5) (K+9)):=g 0 (by decide)
 have h1:=h 1 (by decide)
 have h2:=h 2 (by decide)
 have h3:=h 3 (by decide)
 have h4:=h 4 (by decide)
 have h5:=h 5 (by decide)
 have h6:=h 6 (by decide)
 have h7:=h 7 (by decide)
 have h8:=h 8 (by decide)
 have h9:=h 9 (by decide)
 have h10:=h 10 (by decide)
 have h11:=h 11 (by decide)
 have h12:=h 12 (by decide)
 refine .cons ?_ (.cons ?_ (.flat (g 2 (by decide)) (.flat (g 3 (by decide)) (.flat (g 4 (by decide)) (.cons ?_ (.flat (g 6 (by decide)) (.flat (g 7 (by decide)) (.flat (g 8 (by decide)) (.cons ?_ (.flat (g 10 (by decide)) (.flat (g 11 (by decide)) (.flat (g 12 (by decide)) hl))))))))))))
 ·rw[g0]
  simp only[ak.ay,List.map_cons,List.map_nil,XC.ay,h1,h5,h9]
 ·rw[g 1 (by decide)]
  simp only[ak.ay,List.map_cons,List.map_nil,XC.ay,h2,h3,h4];rfl
 ·rw[g 5 (by decide)]
  simp only[ak.ay,List.map_cons,List.map_nil,XC.ay,h6,h7,h8];rfl
 ·rw[g 9 (by decide)]
  simp only[ak.ay,List.map_cons,List.map_nil,XC.ay,h10,h11,h12];rfl
theorem uf{K:Nat}{τ : Nat->Nat}(h:∀j,j<13 -> τ j=K+j){l l':aj}(hl:dq τ l l'):dq τ (dZ++l) (eU K++l'):=by
 have h1:=h 1 (by decide)
 have h2:=h 2 (by decide)
 have h3:=h 3 (by decide)
 have h4:=h 4 (by decide)
 have h5:=h 5 (by decide)
 have h6:=h 6 (by decide)
 have h7:=h 7 (by decide)
 have h8:=h 8 (by decide)
 have h9:=h 9 (by decide)
 have h10:=h 10 (by decide)
 have h11:=h 11 (by decide)
 have h12:=h 12 (by decide)
 refine .cons ?_ (.cons ?_ (.flat (.flat (.flat (.cons ?_ (.flat (.flat (.flat (.cons ?_ (.flat (.flat (.flat hl))))))))))))
 ·simp only[ak.ay,List.map_cons,List.map_nil,XC.ay,h1,h5,h9]
 ·simp only[ak.ay,List.map_cons,List.map_nil,XC.ay,h2,h3,h4]
 ·simp only[ak.ay,List.map_cons,List.map_nil,XC.ay,h6,h7,h8]
 ·simp only[ak.ay,List.map_cons,List.map_nil,XC.ay,h10,h11,h12]
theorem IY{HS:aj}{K i:Nat}(hS:(HS.drop K).take 13=eU K){ob:ak}(hi:HS[i]? = some ob){os:aj}:bK HS (lA K [i]) (eU K++ob::os)=HS++os:=by
 have g:∀j,j<13->HS[K+j]? = (eU K)[j]?:=fun j hj=>by rw[<-hS,List.getElem?_take_of_lt hj,List.getElem?_drop]
 have g0:HS[K]? = some (bO (K+1) (K+5) (K+9)):=g 0 (by decide)
 simp only[bK,eU,List.cons_append,List.nil_append]
 rw[aF g0,aF (g 1 (by decide)),aF (g 2 (by decide)),aF (g 3 (by decide)),aF (g 4 (by decide)),aF (g 5 (by decide)),aF (g 6 (by decide)),aF (g 7 (by decide)),aF (g 8 (by decide)),aF (g 9 (by decide)),aF (g 10 (by decide)),aF (g 11 (by decide)),aF (g 12 (by decide)),aF hi]
theorem pU:∀(h1 l l':aj),ee h1 h1=true->ee l l'=true->ee (h1++l) (h1++l')=true
 | [],l,l',_,h=>h
 | o::h1,l,l',h,h2=>by
   simp only[ee,Bool.and_eq_true,List.cons_append]at h ⊢
   exact⟨h.1,pU h1 l l' h.2 h2⟩
theorem o9{f:FuncId}{args0 args:List XV}{v v':XV}{news news':aj}{ob:ak}[cL ob](n:Nat)(hn:news.length=n)(hc:bh Tryz.prog f args0 (dZ++[ob]) v (dZ++ob::news)){HS:aj}{K i:Nat}(hS:(HS.drop K).take 13=eU K)(hi:HS[i]? = some ob)(hd:(lA K [i]).Nodup)(ha:fk 14 args0)(e1:dT (nth (lA K [i])) args0 args)(hv:v.ca (14+n))(e2:v.ay (nth (lA K [i]++List.range' HS.length n))=v')
 (hnk:bl (14+n) news) (hr:dq (nth (lA K [i]++List.range' HS.length n)) news news') (hro:ee [] news=true) {HS':aj}(hh:HS++news'=HS') (hbd:Nat.blt HS'.length Mem.bound=true):aG.Sound Tryz.prog ⟨f,args,HS,v',HS',lA K [i]⟩:=by
 have e0:∀j,j<13->nth (lA K [i]) j=K+j:=vA K [i]
 have e0':∀j,j<13->nth (lA K [i]++List.range' HS.length n) j=K+j:=vA K (i::List.range' HS.length n)
 have hln:(dZ++ob::news).length=14+n:=by rw[List.length_append];show 13+(news.length+1)=_;omega
 refine bT (os:=eU K++ob::news') (lA K [i]) (lA K [i]) n hc hd (zo hS e0 (.flat hi .nil)) (nF (l:=[ob]) (Nat.le_succ 13) (.flat .nil)) (by rw[hln];exact nF (l:=ob::news) (by omega) (.flat hnk)) (by rw[hln];rfl) ha e1 (by rw[hln];exact hv) e2 (uf e0' (.flat hr)) ?_ rfl (by rw[IY hS hi];exact hh) hbd (.inl rfl)
 refine pU _ _ _ rfl ?_
 simp only[ee,Bool.and_eq_true]
 exact⟨by cases ob.live<;>simp,hro⟩
theorem Jp{HS:aj}{N:Nat}(hN:HS.length=N){HS':aj}(hh:HS++eU N=HS')(hbd:Nat.blt HS'.length Mem.bound=true) :
 aG.Sound Tryz.prog ⟨10,[],HS,.one (.ptr N 0),HS',[]⟩:=by
 subst hN
 have e:List.range' HS.length 13=lA HS.length []:=rfl
 have h:=uf (K:=HS.length) (τ:=nth (lA HS.length [])) (vA _ []) (l:=[]) (l':=[]) .nil
 refine bT (os:=eU HS.length) [] [] 13 MC (by simp) .nil .nil (nF (l:=[]) (Nat.le_refl _) .nil) rfl .nil .nil (by show 0<13;omega) rfl (by rw[List.nil_append,e];exact h) rfl rfl hh hbd (.inl rfl)
noncomputable def pf(h:Hd)(p:Ph)(l:List Mb)(first:Int):Int ⊕ (List Int×List Int):=
 match gd l first (qW h p) l.length with
 | .inl e => .inl e
 | .inr x=>if 30000<(gT (wr (x.B++[true])) (wr (x.B++[true])).length).1.length\/30000<(gT (wr (x.w++[true])) (wr (x.w++[true])).length).1.length then .inl 6 else .inr ((gT (wr (x.B++[true])) (wr (x.B++[true])).length).1,(gT (wr (x.w++[true])) (wr (x.w++[true])).length).1)
theorem MK{h:Hd}{p:Ph}{l:List Mb}{first:Int}(hT:gu h p l first){cap:sx}{ob:ak}(ho:sD ob mC l){e:Int}(hp:pf h p l first = .inl e){n:Nat}(hln:l.length=n){HS:aj}{K i:Nat}(hS:(HS.drop K).take 13=eU K)(hi:HS[i]? = some ob)(hd:(lA K [i]).Nodup)(hbd:Nat.blt HS.length Mem.bound=true) :
 aG.Sound Tryz.prog ⟨11,[.one (.ptr K 0),.agg (f_ h),.agg (hU p),.one (.int .i64 first),.one (.slice i 0 n cap)],HS,.tup [.one .nils,.one .nils,.one (.int .i64 e)],HS,lA K [i]⟩:=by
 subst hln
 have hfo:=ho.flat
 have hc:bh Tryz.prog 11 [.one (.ptr 0 0),.agg (f_ h),.agg (hU p),.one (.int .i64 first),.one (.slice 13 0 l.length cap)] (dZ++[ob]) (.tup [.one .nils,.one .nils,.one (.int .i64 e)]) (dZ++ob::[]):=by
  unfold pf at hp
  split at hp
  ·rename_i e' he
   cases hp
   exact It hT ho he
  ·rename_i x hx
   split at hp
   ·rename_i hl
    cases hp
    exact Ir hT ho hx rfl rfl hl
   ·cases hp
 exact o9 0 rfl hc hS hi hd (.cons (by show 0<14;omega) (.flat (.flat (.flat (.cons (by show 13<14;omega) .nil))))) (.cons rfl (.flat (.flat (.flat (.cons rfl .nil))))) (XV.eZ rfl _) rfl .nil .nil rfl (List.append_nil HS) hbd
theorem ES{h:Hd}{p:Ph}{l:List Mb}{first:Int}(hT:gu h p l first){cap:sx}{ob:ak}(ho:sD ob mC l){a b:List Int}(hp:pf h p l first = .inr (a,b)){n:Nat}(hln:l.length=n){HS:aj}{K i:Nat}(hS:(HS.drop K).take 13=eU K)(hi:HS[i]? = some ob)(hd:(lA K [i]).Nodup){N:Nat}(hN:HS.length=N){HS':aj}(hh:HS++[cR 5 (il .u8 a),cR 5 (il .u8 b)]=HS')(hbd:Nat.blt HS'.length Mem.bound=true) :
 aG.Sound Tryz.prog ⟨11,[.one (.ptr K 0),.agg (f_ h),.agg (hU p),.one (.int .i64 first),.one (.slice i 0 n cap)],HS,.tup [.one (gJ N a.length 1),.one (gJ (N+1) b.length 1),.one (.int .i64 0)],HS',lA K [i]⟩:=by
 subst hln hN
 have hfo:=ho.flat
 have hc:bh Tryz.prog 11 [.one (.ptr 0 0),.agg (f_ h),.agg (hU p),.one (.int .i64 first),.one (.slice 13 0 l.length cap)] (dZ++[ob]) (.tup [.one (gJ 14 a.length 1),.one (gJ 15 b.length 1),.one (.int .i64 0)]) (dZ++ob::[cR 5 (il .u8 a),cR 5 (il .u8 b)]):=by
  unfold pf at hp
  split at hp
  ·cases hp
  ·rename_i x hx
   split at hp
   ·cases hp
   ·rename_i hl
    cases hp
    exact LO hT ho hx rfl rfl (by omega) (by omega)
 refine o9 2 rfl hc hS hi hd (.cons (by show 0<14;omega) (.flat (.flat (.flat (.cons (by show 13<14;omega) .nil))))) (.cons rfl (.flat (.flat (.flat (.cons rfl .nil))))) ?_ ?_ (.flat (.flat .nil)) (.flat (.flat .nil)) ?_ hh hbd
 ·intro x hx
  simp only[List.mem_cons,List.not_mem_nil,or_false]at hx
  rcases hx with rfl|rfl|rfl
  ·exact ba (by omega)
  ·exact ba (by omega)
  ·trivial
 ·simp only[XV.ay,List.map_cons,List.map_nil,X1.ay,aC];rfl
 ·cases il .u8 a<;>cases il .u8 b<;>rfl
theorem GM(h:Hd)(p:Ph)(f:Int)(c:XC)(τ : Nat->Nat):(gK h p f c).map (·.ay τ)=gK h p f (c.ay τ):=by
 unfold gK
 rw[List.map_append]
 have e1:(f_ h).map (·.ay τ)=f_ h:=fm (ji h) τ
 rw[e1]
 rfl
theorem BU(h:Hd)(p:Ph)(f:Int){c:XC}{n:Nat}(hc:c.ok n):∀x∈gK h p f c,x.ok n:=fun x hx=>by
 unfold gK at hx
 rcases List.mem_append.1 hx with hx|hx
 ·exact XC.bV (List.all_eq_true.1 (ji h) x hx) n
 ·simp only[hU,List.cons_append,List.nil_append,List.mem_cons,List.not_mem_nil,or_false]at hx
  rcases hx with rfl|rfl|rfl|rfl|rfl|rfl
  ·trivial
  ·trivial
  ·trivial
  ·trivial
  ·trivial
  ·exact hc
theorem My{h:Hd}{p:Ph}(hh1:tu h)(hp:qm p){f:Int}(hf:0<=f/\f<=255){l:List Sm}(hl:∀j,j<l.length->kH (l.getD j default)){ob:ak}(ho:sD ob r6 l){c:XC}{i:Nat}(hc:dj c i 0 l.length)(hn:l.length<=9223372036854775807){G:Hd}(hG:four h=G){P:Ph}(hP:qO p=P){F:Int}(hF:fx h f=F){L:List Mb}(hL:gj h p f l=L){cap:sx}(hcap:Ij l.length=cap){opn:Bool}(hopn:Gj l.length=opn){k:Nat}(hk:L.length=k)
 {HS:aj}(hi:HS[i]? = some ob) {N:Nat}(hN:HS.length=N) {HS':aj}(hh:HS++[.cells (fl mC L) 53 opn false]=HS') (hbd:Nat.blt HS'.length Mem.bound=true) :
 aG.Sound Tryz.prog ⟨9,[.agg (gK h p f c)],HS,.tup [.agg (f_ G),.agg (hU P),.one (.int .i64 F),.one (.slice N 0 k cap)],HS',[i]⟩:=by
 subst hk hopn hcap hL hF hP hG hN
 have hfo:=ho.flat
 obtain⟨c0,hc0,hcr⟩:=hc.qn 0 (nth [i]) rfl
 refine bT (os:=[ob,.cells (fl mC (gj h p f l)) 53 (Gj l.length) false]) [i] [i] 1 (Jk hh1 hp hf l hl ob ho c0 hc0 hn) (by simp) (.flat hi .nil) (.flat .nil) (.flat (.flat .nil)) rfl (.cons ?_ .nil) (.cons ?_ .nil) (rN _ _ _ _ 1 _ (show 1<2 by omega)) ?_ (.flat (.flat .nil)) ?_ rfl ?_ hbd (.inl rfl)
 ·exact BU h p f (hc0.ok (by show 0<1;omega))
 ·show XV.agg ((gK h p f c0).map (·.ay (nth [i])))=_
  rw[GM,hcr]
 ·rw[pP];rfl
 ·simp only[ee,Bool.and_eq_true]
  exact⟨by cases ob.live<;>simp,by simp[ak.live,ak.own]⟩
 ·simp only[bK];rw[aF hi];exact hh
end Go.Proofs.YtagpkhindehcbaaGreat
namespace Go.Proofs.YtagpkhindehcbaaGreat
open Go.Xm
theorem Jz:∀i j:Fin 64,oD 0 i.val=oD 0 j.val->i=j:=by decide +kernel
theorem JA:∀i j:Fin 64,oD 1 i.val=oD 1 j.val->i=j:=by decide +kernel
theorem JB:∀i j:Fin 64,oD 2 i.val=oD 2 j.val->i=j:=by decide +kernel
theorem EN{o:Int}(h:o=0\/o=1\/o=2){i j:Nat}(hi:i<64)(hj:j<64)(he:oD o i=oD o j):i=j:=by
 rcases h with rfl|rfl|rfl
 ·exact congrArg Fin.val (Jz ⟨i,hi⟩ ⟨j,hj⟩ he)
 ·exact congrArg Fin.val (JA ⟨i,hi⟩ ⟨j,hj⟩ he)
 ·exact congrArg Fin.val (JB ⟨i,hi⟩ ⟨j,hj⟩ he)
theorem JF:∀i:Fin 64,∃j:Fin 64,oD 0 j.val=i.val:=by decide +kernel
theorem JG:∀i:Fin 64,∃j:Fin 64,oD 1 j.val=i.val:=by decide +kernel
theorem JH:∀i:Fin 64,∃j:Fin 64,oD 2 j.val=i.val:=by decide +kernel
theorem EP{o:Int}(h:o=0\/o=1\/o=2){i:Nat}(hi:i<64):∃j,j<64/\oD o j=(i:Nat):=by
 rcases h with rfl|rfl|rfl
 ·obtain⟨j,hj⟩:=JF ⟨i,hi⟩;exact⟨j.val,j.isLt,hj⟩
 ·obtain⟨j,hj⟩:=JG ⟨i,hi⟩;exact⟨j.val,j.isLt,hj⟩
 ·obtain⟨j,hj⟩:=JH ⟨i,hi⟩;exact⟨j.val,j.isLt,hj⟩
theorem BC{o:Int}(h:o=0\/o=1\/o=2):oD o 0=0:=by
 rcases h with rfl|rfl|rfl<;>rfl
theorem zR{o:Int}(h:o=0\/o=1\/o=2)(f:Nat->Int):∀n,n<=64->∀j,j<n->HG o f n (oD o j).toNat=f j
 | 0,_,j,hj=>absurd hj (Nat.not_lt_zero _)
 | n + 1,hn,j,hj=>by
   show cn (HG o f n) (oD o n).toNat (f n) (oD o j).toNat=f j
   have h1:=kS h (i:=n) (by omega)
   have h2:=kS h (i:=j) (by omega)
   unfold cn
   by_cases hjn:j=n
   ·subst hjn;rw[if_pos rfl]
   ·rw[if_neg (fun e=>hjn (EN h (by omega) (by omega) (by omega)))]
    exact zR h f n (by omega) j (by omega)
theorem s5{o:Int}(h:o=0\/o=1\/o=2){f r:Nat->Int}(hf:∀i,i<64->f i=h_ o r i){i:Nat}(hi:i<64):c9 o f i=r i:=by
 obtain⟨j,hj,he⟩:=EP h hi
 have:=zR h f 64 (Nat.le_refl _) j hj
 rw[he,Int.toNat_natCast]at this
 show HG o f 64 i=r i
 rw[this,hf j hj]
 unfold h_
 rw[he,Int.toNat_natCast]
def bk:List Ev->Int->(Nat->Int)->Option (Nat->Int)
 | [],_,g=>some g
 | e::l,at_,g=>if 63<at_+e.1 then none else bk l (at_+e.1+1) (cn g (at_+e.1).toNat e.2.1)
theorem uI(l:List Ev)(st:Int):∀j,j<=l.length->(dU l st j).bind (fun x=>bk (l.drop j) x.1 x.2)=bk l st fun _=>0
 | 0,_=>rfl
 | j + 1,hj=>by
   rw[<-uI l st j (by omega)]
   show((dU l st j).bind _).bind _=_
   cases hr:dU l st j with
   | none=>rfl
   | some x=>
     have hd:l.drop j=l.getD j default::l.drop (j+1):=by
      rw[List.drop_eq_getElem_cons (by omega),List.getD_eq_getElem?_getD,List.getElem?_eq_getElem (by omega)];rfl
     rw[hd]
     show Option.bind (if 63<x.1+(l.getD j default).1 then none else some _) _=bk (_::_) x.1 x.2
     rw[bk]
     split<;>rfl
theorem AF(l:List Ev)(st:Int):iX l st=bk l st fun _=>0:=by
 rw[<-uI l st l.length (Nat.le_refl _),List.drop_length]
 unfold iX
 cases dU l st l.length<;>rfl
theorem El:∀(l:List Ev) (st:Int) (g:Nat->Int),bk (iQ l) st g=bk l st g
 | [],_,_=>rfl
 | [e],_,_=>rfl
 | e::e2::l,st,g=>by
   rw[iQ,bk,bk]
   split
   ·rfl
   ·exact El (e2::l) _ _
theorem uM(f:Nat->Int):∀(n i:Nat) (run:Int) (g:Nat->Int),i+n=64->0<=run->bk (eF f n i run) ((i:Int)-run) g=some fun j=>if i<=j/\j<64/\f j≠0 then f j else g j
 | 0,i,run,g,h,_=>by
   rw[eF,bk]
   congr 1
   funext j
   rw[if_neg (by omega)]
 | n + 1,i,run,g,h,hr=>by
   rw[eF]
   by_cases hz:f i=0
   ·rw[if_pos hz]
    have:=uM f n (i+1) (run+1) g (by omega) (by omega)
    rw[show((i+1:Nat):Int)-(run+1)=(i:Int)-run by omega]at this
    rw[this]
    congr 1
    funext j
    by_cases hj:j=i
    ·subst hj;rw[if_neg (by omega),if_neg (by rw[hz];simp)]
    ·by_cases h1:i+1<=j/\j<64/\f j≠0
     ·rw[if_pos h1,if_pos ⟨by omega,h1.2⟩]
     ·rw[if_neg h1,if_neg (fun h2=>h1 ⟨by omega,h2.2⟩)]
   ·rw[if_neg hz,bk]
    have h63:¬63<(i:Int)-run+run:=by omega
    show(if 63<(i:Int)-run+run then none else _)=_
    rw[if_neg h63]
    have:=uM f n (i+1) 0 (cn g i (f i)) (by omega) (by omega)
    rw[show((i+1:Nat):Int)-0=(i:Int)-run+run+1 by omega]at this
    show bk _ ((i:Int)-run+run+1) (cn g ((i:Int)-run+run).toNat (f i))=_
    rw[show((i:Int)-run+run).toNat=i by omega,this]
    congr 1
    funext j
    by_cases hj:j=i
    ·subst hj
     rw[if_neg (by omega),if_pos ⟨Nat.le_refl _,by omega,hz⟩]
     unfold cn;rw[if_pos rfl]
    ·have hu:cn g i (f i) j=g j:=by unfold cn;rw[if_neg hj]
     rw[hu]
     by_cases h1:i+1<=j/\j<64/\f j≠0
     ·rw[if_pos h1,if_pos ⟨by omega,h1.2⟩]
     ·rw[if_neg h1,if_neg (fun h2=>h1 ⟨by omega,h2.2⟩)]
theorem yn{f:Nat->Int}{st:Nat}(hst:st<=64):iX (dV f st) (st:Nat)=some fun j=>if st<=j/\j<64/\f j≠0 then f j else 0:=by
 rw[AF]
 unfold dV
 rw[El]
 have:=uM f (64-st) st 0 (fun _=>0) (by omega) (Int.le_refl _)
 rw[Int.sub_zero]at this
 exact this
theorem yl{f:Nat->Int}:∀(n i:Nat) (run:Int),eF f n i run = []->∀j,i<=j->j<i+n->f j=0
 | 0,i,run,_,j,h1,h2=>by omega
 | n + 1,i,run,h,j,h1,h2=>by
   rw[eF]at h
   split at h
   ·rename_i hz
    by_cases hj:j=i
    ·rw[hj];exact hz
    ·exact yl n (i+1) _ h j (by omega) (by omega)
   ·cases h
variable [ax]
theorem J3{f:Nat->Int}{st:Nat}(hst:st<=64)(h:dV f st = []):∀j,st<=j->j<64->f j=0:=by
 have h0:eF f (64-st) st 0 = []:=by
  unfold dV at h
  have:=congrArg List.length h
  rw[iR]at this
  exact List.length_eq_zero_iff.1 this
 intro j h1 h2
 exact yl _ _ _ h0 j h1 (by omega)
def kf(b:Kn):Int×(Nat->Int):=(b.qp,fun i=>if i<64 then b.lv i else 0)
def Ay(T U:oH):Prop:=∀k,(cC U k).map kf=(cC T k).map kf
structure kL(S R:bm):Prop where
 cols:R.cols=S.cols
 rows:R.rows=S.rows
 a:Ay S.A R.A
 b:Ay S.B R.B
 c:Ay S.C R.C
theorem xV{x y:Option Kn}(h:x.map kf=y.map kf):x.map kq=y.map kq:=by
 cases x with
 | none=>cases y with
   | none=>rfl
   | some b=>cases h
 | some a=>cases y with
   | none=>cases h
   | some b=>
     have h1:=Option.some.inj h
     have h2:=congrFun (congrArg Prod.snd h1) 0
     have h3:a.qp=b.qp:=congrArg Prod.fst h1
     have h4:a.lv 0=b.lv 0:=h2
     show some (a.lv 0,a.qp)=some (b.lv 0,b.qp)
     rw[h3,h4]
theorem l6{S R:bm}(h:kL S R)(mb k dx dy:Int):(zu R mb k dx dy).map kf=(zu S mb k dx dy).map kf:=by
 unfold zu dm cD
 rw[h.cols]
 split
 ·rfl
 ·unfold bU
  split
  ·exact h.a _
  ·split
   ·exact h.b _
   ·exact h.c _
theorem yD{S R:bm}(h:kL S R)(mb k q:Int):aZ R mb k q=aZ S mb k q:=zj (xV (l6 h ..)) (xV (l6 h ..)) (xV (l6 h ..))
theorem AS{a b:Kn}(h:∀i,i<64->a.lv i=b.lv i){s:Nat}(hs:s<=8):∀n,n<=7->em a s n=em b s n
 | 0,_=>rfl
 | n+1,hn=>by
   have h1:(n+1)*s<=7*8:=Nat.mul_le_mul (by omega) hs
   rw[nH,nH,AS h hs n (by omega),h _ (by omega)]
theorem xO{x y:Option Kn}(h:x.map kf=y.map kf){s:Nat}(hs:s<=8)(q:Int):fq x s q=fq y s q:=by
 cases x with
 | none=>cases y with
   | none=>rfl
   | some b=>cases h
 | some a=>cases y with
   | none=>cases h
   | some b=>
     have h1:=Option.some.inj h
     have h3:a.qp=b.qp:=congrArg Prod.fst h1
     have h4:∀i,i<64->a.lv i=b.lv i:=fun i hi=>by
      have:=congrFun (congrArg Prod.snd h1) i
      dsimp only [kf]at this
      rwa [if_pos hi,if_pos hi]at this
     unfold fq
     dsimp only
     rw[h3,AS h4 hs 7 (Nat.le_refl _)]
theorem wh{S R:bm}(h:kL S R)(mb k q:Int):cu R mb k q=cu S mb k q:=by
 unfold cu uU
 rw[zj (xV (l6 h mb k 1 0)) (xV (l6 h mb k 0 1)) (xV (l6 h mb k 1 1)),xO (l6 h mb k 1 0) (Nat.le_refl _),xO (l6 h mb k 0 1) (by omega)]
theorem wj{p q:Int}{T U:oH}(h:Ay T U){key:Int}{b c:Kn}(hb:kf c=kf b):Ay (jt p q T key b) (jt p q U key c):=by
 unfold jt
 split
 ·intro k
  rw[f6,f6]
  split
  ·exact congrArg some hb
  ·exact h k
 ·exact h
theorem p6{S R:bm}(h:kL S R)(mb k:Int){b c:Kn}(hb:kf c=kf b):kL (bu S mb k b) (bu R mb k c):=by
 have e:mB R mb k=mB S mb k:=by unfold mB;rw[h.cols]
 refine⟨h.cols,h.rows,?_,?_,?_⟩
 ·show Ay (jt (placeOf S.cols mb k).1 0 S.A (mB S mb k) b) (jt (placeOf R.cols mb k).1 0 R.A (mB R mb k) c)
  rw[e,h.cols];exact wj h.a hb
 ·show Ay (jt (placeOf S.cols mb k).1 1 S.B (mB S mb k) b) (jt (placeOf R.cols mb k).1 1 R.B (mB R mb k) c)
  rw[e,h.cols];exact wj h.b hb
 ·show Ay (jt (placeOf S.cols mb k).1 2 S.C (mB S mb k) b) (jt (placeOf R.cols mb k).1 2 R.C (mB R mb k) c)
  rw[e,h.cols];exact wj h.c hb
theorem Er(b:Kn){s:Nat}(hs:1<=s):∀n,em b s n 0=0
 | 0=>rfl
 | n+1=>by
   have h1:1*1<=(n+1)*s:=Nat.mul_le_mul (by omega) hs
   rw[nH]
   unfold cn
   rw[if_neg (by omega)]
   exact Er b hs n
theorem wi(S:bm)(mb k q:Int):cu S mb k q 0=0:=by
 have ho:∀(o:Option Kn) (s:Nat),1<=s->fq o s q 0=0:=fun o s hs=>by
  unfold fq
  cases o with
  | none=>rfl
  | some b=>
    dsimp only
    split
    ·exact Er b hs 7
    ·rfl
 unfold cu uU
 repeat' split
 all_goals first
  | exact ho _ _ (by omega)
  | rfl
theorem q9(m:Mb):eJ m=((if alone m=true then 1 else 0:Nat):Int):=by unfold eJ;split<;>rfl
def qG(ev:List Ev)(st:Int)(rest:Nat->Int):Prop:=if 0<ev.length then iX ev st=some rest else rest=fun _=>0
theorem zC{f:Nat->Int}{st:Nat}(hst:st<=1)(h0:st=1->f 0=0){rest:Nat->Int}(h:qG (dV f st) (st:Nat) rest){i:Nat}(hi:i<64):rest i=f i:=by
 unfold qG at h
 split at h
 ·rw [yn (by omega)]at h
  cases h
  dsimp only
  by_cases h1:st<=i/\i<64/\f i≠0
  ·rw[if_pos h1]
  ·rw[if_neg h1]
   by_cases h2:f i=0
   ·exact h2.symm
   ·have hi0:i=0:=by omega
    subst hi0
    exact(h0 (by omega)).symm
 ·rename_i hn
  have hnil:dV f st = []:=List.length_eq_zero_iff.1 (by omega)
  rw[h]
  dsimp only
  by_cases h1:st<=i
  ·exact(J3 (by omega) hnil i h1 hi).symm
  ·have hi0:i=0:=by omega
   subst hi0
   exact(h0 (by omega)).symm
theorem EF{l l':Nat->Int}{q:Int}(h:∀i,i<64->l i=l' i):kf ⟨l,q⟩=kf ⟨l',q⟩:=by
 unfold kf
 congr 1
 funext i
 by_cases hi:i<64
 ·rw[if_pos hi,if_pos hi];exact h i hi
 ·rw[if_neg hi,if_neg hi]
theorem xQ{S R:bm}(hR:kL S R){m o:Mb}{mb:Int}{k:Nat}{r:Nat->Int}(hr:fU m S mb k=some r)(hk:o.kind=m.kind)(hq:o.qp=m.qp)(he:o.edge=m.edge)(hm:alone m=false->m.edge=false)(h0:alone m=true->o.lev (k*64)=m.lev (k*64))(hlev:∀i,i<64 -> -2047<=aL m k i/\aL m k i<=2047){rest:Nat->Int}(hrest:qG (nB m S mb k r) (eJ o) rest) :
 ∃R' l,hJ R mb k o rest=some (R',dD o k l)/\kL (if alone m=true then bu S mb k ⟨aL m k,m.qp⟩else S) R'/\∀i,i<64->l i=aL m k i:=by
 have ha:alone o=alone m:=by unfold alone;rw[hk]
 have hst:eJ o=((if alone m=true then 1 else 0:Nat):Int):=by rw[q9,ha]
 have hor:=eQ m.edge (aZ S mb k m.qp).1
 obtain⟨od,hod⟩:∃od,dC m.edge (aZ S mb k m.qp).1=od:=⟨_,rfl⟩
 have hod2:dC o.edge (aZ R mb k o.qp).1=od:=by rw[he,hq,yD hR];exact hod
 rw[hst]at hrest
 unfold nB at hrest
 rw[hod]at hrest hor
 unfold fU at hr
 unfold hJ
 cases hal:alone m with
 | false=>
   rw[hal,if_neg (by decide)]at hr
   cases hr
   rw[hal,if_neg (by decide)]at hrest
   have hrl:∀i,i<64->rest i=h_ od (aL m k) i:=fun i hi=>zC (by omega) (fun h=>absurd h (by decide)) hrest hi
   have hz:od=0:=by rw[<-hod,hm hal];rfl
   rw[ha,hal,if_neg (by decide),if_neg (by decide)]
   refine⟨_,_,rfl,hR,fun i hi=>?_⟩
   rw[hz]at hrl
   exact s5 (.inl rfl) hrl hi
 | true =>
   rw[hal,if_pos rfl]at hr hrest
   rw[ha,hal,if_pos rfl,if_pos rfl,hod2,he]
   have hp0:=BC hor
   cases hed:m.edge with
   | false=>
     rw[hed,if_neg (by decide)]at hr
     cases hr
     have hrl:∀i,i<64->rest i=h_ od (cn (aL m k) 0 0) i:=fun i hi=>zC (by omega) (fun _=>by unfold h_;rw[hp0];rfl) hrest hi
     rw[if_neg (by decide)]
     have hl:∀i,i<64->cn (c9 od rest) 0 (o.lev (k*64)) i=aL m k i:=fun i hi=>by
      unfold cn
      by_cases hi0:i=0
      ·subst hi0;rw[if_pos rfl,h0 hal];unfold aL;rw[Nat.add_zero]
      ·rw[if_neg hi0,s5 hor hrl hi]
       unfold cn;rw[if_neg hi0]
     refine⟨_,_,rfl,?_,hl⟩
     rw[hq]
     exact p6 hR mb k (EF hl)
   | true =>
     rw[hed,if_pos rfl]at hr
     cases hle:ov (aL m k) (cu S mb k m.qp)with
     | none=>rw[hle]at hr;cases hr
     | some d=>
       rw[hle]at hr
       cases hr
       have hd:∀i,d i=aL m k i-cu S mb k m.qp i:=by
        unfold ov at hle
        split at hle
        ·cases hle
        ·cases hle;intro i;rfl
       have hrl:∀i,i<64->rest i=h_ od (cn d 0 0) i:=fun i hi=>zC (by omega) (fun _=>by unfold h_;rw[hp0];rfl) hrest hi
       have hs:∀i,i<64->c9 od rest i=cn d 0 0 i:=fun i hi=>s5 hor hrl hi
       rw[if_pos rfl,hq,wh hR]
       have hmore:kh (c9 od rest) (cu S mb k m.qp)=some fun i=>c9 od rest i+cu S mb k m.qp i:=by
        refine if_neg fun⟨i,hi,hb⟩=>?_
        unfold l5 at hb
        rw[hs i hi]at hb
        have hl:=hlev i hi
        unfold cn at hb
        by_cases hi0:i=0
        ·subst hi0
         rw[if_pos rfl,wi]at hb
         omega
        ·rw[if_neg hi0,hd i]at hb
         omega
       rw[hmore]
       have hl:∀i,i<64->cn (fun i=>c9 od rest i+cu S mb k m.qp i) 0 (o.lev (k*64)) i=aL m k i:=fun i hi=>by
        unfold cn
        by_cases hi0:i=0
        ·subst hi0;rw[if_pos rfl,h0 hal];unfold aL;rw[Nat.add_zero]
        ·rw[if_neg hi0]
         show c9 od rest i+cu S mb k m.qp i=aL m k i
         rw[hs i hi]
         unfold cn;rw[if_neg hi0,hd i];omega
       exact⟨_,_,rfl,p6 hR mb k (EF hl),hl⟩
theorem En{m:Mb}{mb:Int}{x0:oC}:∀k x,fH m mb x0 k=some x->(∀j,j<k->∃y r,fH m mb x0 j=some y/\fU m y.S mb j=some r/\x.ev j=nB m y.S mb j r)/\∀j,k<=j->x.ev j=x0.ev j
 | 0,x,h=>by cases h;exact⟨fun j hj=>absurd hj (Nat.not_lt_zero _),fun _ _=>rfl⟩
 | k + 1,x,h=>by
   obtain⟨y,r,hy,hr,rfl⟩:=gy h
   obtain⟨h1,h2⟩:=En k y hy
   refine⟨fun j hj=>?_,fun j hj=>?_⟩
   ·by_cases hjk:j=k
    ·subst hjk;exact⟨y,r,hy,hr,if_pos rfl⟩
    ·obtain⟨y',r',a,b,c⟩:=h1 j (by omega)
     exact⟨y',r',a,b,(if_neg hjk).trans c⟩
   ·exact(if_neg (by omega)).trans (h2 j (by omega))
structure rm(m o o':Mb)(k:Nat):Prop where
 kind:o'.kind=m.kind
 qp:o'.qp=m.qp
 edge:o'.edge=m.edge
 v:o'.v=o.v
 lo:∀i,i<k*64->o'.lev i=m.lev i
 hi:∀i,k*64<=i->o'.lev i=o.lev i
theorem o5{m o o':Mb}{k:Nat}(h:rm m o o' k){l:Nat->Int}(hl:∀i,i<64->l i=aL m k i):rm m o (dD o' k l) (k+1):=by
 refine⟨h.kind,h.qp,h.edge,h.v,fun i hi=>?_,fun i hi=>?_⟩
 ·show(if k*64<=i/\i<k*64+64 then l (i-k*64)else o'.lev i)=m.lev i
  by_cases hk:k*64<=i
  ·rw[if_pos ⟨hk,by omega⟩,hl _ (by omega)]
   unfold aL
   rw[show k*64+(i-k*64)=i by omega]
  ·rw[if_neg (by omega)]
   exact h.lo i (by omega)
 ·show(if k*64<=i/\i<k*64+64 then l (i-k*64)else o'.lev i)=o.lev i
  rw[if_neg (by omega)]
  exact h.hi i (by omega)
def Qf(evs:List (List Ev))(u:Nat)(has:Nat->Bool)(ev:Nat->List Ev)(k:Nat):Prop:=∀j,j<k->has j=true->u+iN has j<evs.length/\evs.getD (u+iN has j) []=ev j
theorem QC{evs:List (List Ev)}{m o:Mb}{mb:Int}{x0 x6:oC}(hx6:fH m mb x0 6=some x6){R0:bm}(hR:kL x0.S R0){has:Nat->Bool}(hhas:∀j,j<6->has j=decide (0<(x6.ev j).length)){u:Nat}(hk:o.kind=m.kind)(hq:o.qp=m.qp)(he:o.edge=m.edge)(hm:alone m=false->m.edge=false)(h0:alone m=true->∀k,k<6->o.lev (k*64)=m.lev (k*64))(hlev:∀i,i<384 -> -2047<=m.lev i/\m.lev i<=2047) :
 ∀k,k<=6->Qf evs u has x6.ev k->∃y o' R',fH m mb x0 k=some y/\ij evs mb has (R0,o,u) k = .inr (R',o',u+iN has k)/\kL y.S R'/\rm m o o' k:=by
 intro k
 induction k with
 | zero=>intro _ _;exact⟨x0,o,R0,rfl,rfl,hR,hk,hq,he,rfl,fun i hi=>absurd hi (by omega),fun _ _=>rfl⟩
 | succ k ih=>
   intro hk6 hev
   obtain⟨y,o',R',hy,hf,hRk,hF⟩:=ih (by omega) (fun j hj=>hev j (by omega))
   obtain⟨y',r,hy',hr,hevk⟩:=(En 6 x6 hx6).1 k (by omega)
   rw[hy]at hy'
   cases hy'
   have hsta:eJ o'=eJ m:=by unfold eJ alone;rw[hF.kind]
   have hlv:∀i,i<64 -> -2047<=aL m k i/\aL m k i<=2047:=fun i hi=>hlev _ (by omega)
   have ho0:alone m=true->o'.lev (k*64)=m.lev (k*64):=fun ha=>by rw[hF.hi _ (Nat.le_refl _)];exact h0 ha k (by omega)
   have hynext:fH m mb x0 (k+1)=some (cz m mb k y (nB m y.S mb k r)):=by rw[fH,hy];show Option.map _ (fU m y.S mb k)=_;rw[hr];rfl
   have hS:(cz m mb k y (nB m y.S mb k r)).S=if alone m=true then bu y.S mb k ⟨aL m k,m.qp⟩else y.S:=rfl
   have hst:eJ o'=((if alone m=true then 1 else 0:Nat):Int):=by rw[hsta,q9]
   by_cases hh:has k=true
   ·have hpos:0<(x6.ev k).length:=by rw[hhas k (by omega)]at hh;exact of_decide_eq_true hh
    obtain⟨hu,hevu⟩:=hev k (by omega) hh
    have hbk:∃rest,iX (nB m y.S mb k r) (eJ o')=some rest:=by
     rw[hst];unfold nB
     exact⟨_,yn (by split<;>omega)⟩
    obtain⟨rest,hrest⟩:=hbk
    have hRest:qG (nB m y.S mb k r) (eJ o') rest:=by unfold qG;rw[if_pos (by rw[<-hevk];exact hpos)];exact hrest
    obtain⟨R2,l,hfill,hR2,hl⟩:=xQ hRk hr hF.kind hF.qp hF.edge hm ho0 hlv hRest
    refine⟨_,dD o' k l,R2,hynext,?_,by rw[hS];exact hR2,o5 hF hl⟩
    rw[ij,hf]
    show fK evs mb has (R',o',u+iN has k) k=_
    unfold fK
    rw[if_pos hh,if_neg (by dsimp only;omega)]
    dsimp only
    rw[hevu,hevk,hrest]
    dsimp only
    unfold FY
    dsimp only
    rw[hfill,iN,if_pos hh]
    rfl
   ·have hnil:¬0<(x6.ev k).length:=fun hp=>hh (by rw[hhas k (by omega)];exact decide_eq_true hp)
    have hRest:qG (nB m y.S mb k r) (eJ o') (fun _=>0):=by unfold qG;rw[if_neg (by rw[<-hevk];exact hnil)]
    obtain⟨R2,l,hfill,hR2,hl⟩:=xQ hRk hr hF.kind hF.qp hF.edge hm ho0 hlv hRest
    refine⟨_,dD o' k l,R2,hynext,?_,by rw[hS];exact hR2,o5 hF hl⟩
    rw[ij,hf]
    show fK evs mb has (R',o',u+iN has k) k=_
    unfold fK
    rw[if_neg hh]
    unfold FY
    dsimp only
    rw[hfill,iN,if_neg hh]
    rfl
theorem B8(o:Int):∀n i,HG o (fun _=>0) n i=0
 | 0,_=>rfl
 | n+1,i=>by
   show cn (HG o (fun _=>0) n) _ 0 i=0
   unfold cn
   split
   ·rfl
   ·exact B8 o n i
theorem FZ{evs:List (List Ev)}{m o:Mb}{mb:Int}{R0:bm}{has:Nat->Bool}(hhas:∀j,j<6->has j=false){u:Nat}(hk:o.kind=m.kind)(hq:o.qp=m.qp)(he:o.edge=m.edge)(ha:alone m=false)(hlev:∀i,i<384->m.lev i=0) :
 ∀k,k<=6->∃o',ij evs mb has (R0,o,u) k = .inr (R0,o',u+iN has k)/\rm m o o' k:=by
 intro k
 induction k with
 | zero=>intro _;exact⟨o,rfl,hk,hq,he,rfl,fun i hi=>absurd hi (by omega),fun _ _=>rfl⟩
 | succ k ih=>
   intro hk6
   obtain⟨o',hf,hF⟩:=ih (by omega)
   have hal:alone o'=false:=by rw[<-ha];unfold alone;rw[hF.kind]
   have hl:∀i,i<64->c9 0 (fun _=>0) i=aL m k i:=fun i hi=>by
    show HG 0 (fun _=>0) 64 i=_
    rw[B8]
    exact(hlev _ (by omega)).symm
   refine⟨dD o' k (c9 0 fun _=>0),?_,o5 hF hl⟩
   rw[ij,hf]
   show fK evs mb has (R0,o',u+iN has k) k=_
   unfold fK
   rw[if_neg (by rw[hhas k (by omega)];decide)]
   unfold FY
   dsimp only
   unfold hJ
   rw[if_neg (by rw[hal];decide),iN,if_neg (by rw[hhas k (by omega)];decide)]
   rfl
structure uE(m o:Mb):Prop where
 kind:o.kind=m.kind
 qp:o.qp=m.qp
 edge:o.edge=m.edge
 v:∀k,k<4->o.v k=m.v k
 lev:∀i,i<384->o.lev i=m.lev i
theorem Da{S R:bm}(h:kL S R)(m:Mb):kL (fw S m) R:=by
 unfold fw
 split
 ·exact⟨h.cols,h.rows,h.a,h.b,h.c⟩
 ·exact h
theorem rI{z:bm×List Bool}{R:bm}(h:kL z.1 R)(m:Mb)(mb:Int)(k:Nat):kL (au m mb z k).1 R:=⟨h.cols,h.rows,h.a,h.b,h.c⟩
theorem m_{S R:bm}(h:kL S R)(mb:Int)(v:Nat->Int×Int):kL (aY S mb v) R:=⟨h.cols,h.rows,h.a,h.b,h.c⟩
theorem F8{S R:bm}(h:kL S R)(X:List Bool)(m:Mb)(mb:Int):kL (bE S X m mb).1 R:=by
 unfold bE
 split
 ·exact m_ h _ _
 ·split
  ·exact m_ (rI (z:=(S,X++aA S m)) h m mb 0) _ _
  ·split
   ·exact m_ (rI (rI (rI (rI (z:=(S,X++aA S m)) h m mb 0) m mb 1) m mb 2) m mb 3) _ _
   ·exact m_ (Da h m) _ _
structure Sq(l:List Mb)(first:Int)(x0:PS)(outs:List Ol):Prop where
 len:outs.length=l.length
 at_:∀i,i<l.length->xB (l.getD i default) (outs.getD i default).1/\∀j,j<6->(outs.getD i default).2 j=decide (0<(RV l first x0 i j).length)
end Go.Proofs.YtagpkhindehcbaaGreat
namespace Go.Proofs.YtagpkhindehcbaaGreat
open Go.Xm
variable [ax]
theorem LU(e:Ev):u0 (2*e.1+(if e.2.2 then 1 else 0)) (aV e.2.1-1)=e:=by
 obtain⟨a,b,c⟩:=e
 unfold u0
 rw[Int.sub_add_cancel,pv]
 cases c with
 | false=>
   have e1:(2*a+0)/2=a:=by omega
   have e2:decide ((2*a+0)%2=1)=false:=decide_eq_false (by omega)
   show((2*a+0)/2,b,decide ((2*a+0)%2=1))=(a,b,false)
   rw[e1,e2]
 | true=>
   have e1:(2*a+1)/2=a:=by omega
   have e2:decide ((2*a+1)%2=1)=true:=decide_eq_true (by omega)
   show((2*a+1)/2,b,decide ((2*a+1)%2=1))=(a,b,true)
   rw[e1,e2]
theorem C3{e:Ev}(h:lT e):iG e=true:=decide_eq_true ⟨h.run.1,h.run.2,h.nz,h.lev.1,h.lev.2⟩
theorem AJ:∀(l:List Ev) (k:Nat) (pre rest:List Bool) (acc:List Ev),0<l.length->l.length<=k->(∀j,j<l.length->lT (l.getD j default))->(∀j,j<l.length->(l.getD j default).2.2=decide (j+1=l.length))->mL (pre++(dO l++rest)) k (pre.length,false) acc=(acc++l,(pre.length+(dO l).length,false))
 | [],k,pre,rest,acc,h0,_,_,_=>absurd h0 (Nat.lt_irrefl 0)
 | e::l,0,pre,rest,acc,_,hk,_,_=>absurd hk (Nat.not_succ_le_zero _)
 | e :: l,k+1,pre,rest,acc,_,hk,hok,hla=>by
   have he:lT e:=hok 0 (Nat.succ_pos _)
   have hl0:e.2.2=decide (0+1=l.length+1):=hla 0 (Nat.succ_pos _)
   have hr:=he.run
   have hs:=pr he.lev he.nz
   have hrng:0<=2*e.1+(if e.2.2 then 1 else 0)/\2*e.1+(if e.2.2 then 1 else 0)<=8190:=by split<;>omega
   have eB:dO (e::l)=bP (2*e.1+(if e.2.2 then 1 else 0))++(bP (aV e.2.1-1)++dO l):=by
    show IE e++dO l=_
    unfold IE;rw[List.append_assoc]
   have hev:=LU e
   obtain⟨n,hn⟩:∃n,2*e.1+(if e.2.2 then 1 else 0)=n:=⟨_,rfl⟩
   obtain⟨m,hm⟩:∃m,aV e.2.1-1=m:=⟨_,rfl⟩
   rw[hn,hm]at hev eB
   rw[hn]at hrng
   have t1:=pX n hrng pre (bP m++(dO l++rest))
   have t2:=pX m (by omega) (pre++bP n) (dO l++rest)
   rw[List.append_assoc,List.length_append]at t2
   have hB:pre++(dO (e::l)++rest)=pre++(bP n++(bP m++(dO l++rest))):=by rw[eB];simp only[List.append_assoc]
   have hL:(dO (e::l)).length=(bP n).length+((bP m).length+(dO l).length):=by rw[eB,List.length_append,List.length_append]
   rw[hB,mL,t1]
   dsimp only
   rw[t2]
   dsimp only
   rw[hev,if_neg (by rw[C3 he];simp)]
   by_cases hz:l.length=0
   ·have hz2:=List.length_eq_zero_iff.1 hz
    subst hz2
    rw[if_pos (by rw[hl0];rfl),hL]
    simp only[Prod.mk.injEq,and_true,true_and]
    show _=_+(_+(_+0))
    omega
   ·rw[if_neg (by rw[hl0];simp;exact fun h=>hz (by rw[h];rfl))]
    have ih:=AJ l k (pre++(bP n++bP m)) rest (acc++[e]) (by omega) (Nat.le_of_succ_le_succ hk) (fun j hj=>hok (j+1) (Nat.succ_lt_succ hj)) (fun j hj=>by
     have h1:(l.getD j default).2.2=decide (j+1+1=l.length+1):=hla (j+1) (Nat.succ_lt_succ hj)
     rw[h1]
     exact decide_eq_decide.2 ⟨fun h=>by omega,fun h=>by omega⟩)
    simp only[List.append_assoc,List.length_append]at ih
    rw[Nat.add_assoc,ih,hL]
    simp only[List.cons_append,List.nil_append,Prod.mk.injEq,and_true,true_and]
    omega
theorem Ow{l:List Ev}(h:jC l)(pre rest:List Bool):jE (pre++(dO l++rest)) (pre.length,false)=(l,(pre.length+(dO l).length,false)):=AJ l 64 pre rest [] h.len.1 h.len.2 h.ok h.last
def ry(B:List Bool):Nat->List (List Ev)×(Nat×Bool)->List (List Ev)×(Nat×Bool)
 | 0,x=>x
 | k+1,x=>if(jE B x.2).2.2=true then(x.1++[(jE B x.2).1],(jE B x.2).2)else ry B k (x.1++[(jE B x.2).1],(jE B x.2).2)
def IC(ev:Nat->List Ev):Nat->List (List Ev)
 | 0=>[]
 | k+1=>IC ev k++if 0<(ev k).length then [ev k]else []
theorem NU{x:oC}{bw:List Bool}:∀k,dk bw x k=bw++(IC x.ev k).flatMap dO
 | 0=>(List.append_nil _).symm
 | k+1=>by
   rw[dk,NU k,IC,List.flatMap_append,List.append_assoc]
   by_cases h0:0<(x.ev k).length
   ·rw[if_pos h0];simp
   ·rw[if_neg h0,List.length_eq_zero_iff.1 (show(x.ev k).length=0 by omega)];rfl
end Go.Proofs.YtagpkhindehcbaaGreat
namespace Go.Xm
variable [ax]
theorem WX.BL{P:Program}{nt nI:Nat}{al:bn}{c:xf}{K:dF}:∀(n:Nat) {hs:aj}(hb:Nat.blt (hs.length+n) Mem.bound=true) (h:WX P nt nI c al (hs++List.replicate n .dead) K),WX P nt nI c al hs K
 | 0,hs,hb,h=>by rw[List.replicate_zero,List.append_nil]at h;exact h
 | n+1,hs,hb,h=>by
   rw[Nat.blt_eq]at hb
   refine WX.c7 (by rw[Nat.blt_eq];omega) (WX.BL n (by rw[List.length_append,Nat.blt_eq];show hs.length+1+n<_;omega) ?_)
   rw[List.append_assoc]
   exact h
theorem EZ{τ : Nat->Nat}{f:Nat->ak}(hf:∀j,cL (f j)){l m:aj}(h:dq τ l m):∀(js:List Nat),dq τ (js.map f++l) (js.map f++m)
 | []=>h
 | j::js=>by have:=hf j;exact dq.flat (EZ hf h js)
theorem Dn{n:Nat}{f:Nat->ak}(hf:∀j,cL (f j)){l:aj}(h:bl n l):∀(js:List Nat),bl n (js.map f++l)
 | []=>h
 | j::js=>by have:=hf j;exact bl.flat (Dn hf h js)
theorem lg:∀h:aj,ee h h=true
 | []=>rfl
 | o::h=>by
   simp only[ee,Bool.and_eq_true]
   exact⟨by cases o.live<;>simp,lg h⟩
theorem E6(e:TypeId)(cs:List XC)(τ : Nat->Nat):(cR e cs).ay τ = cR e (cs.map (·.ay τ)):=by cases cs<;>rfl
section
variable {P:Program} {ops:Array Oper} {nt nI:Nat} {al:bn} {hs:aj} {o:Oper} {l:List Oper} {L:List aG} {K:List Ab->bn->aj->Prop} {d:Nat}
theorem Se{t t1 e e1:TypeId}{a b:Operand}{i n j:Nat}{cap:sx}{cs:List XC}{c:XC}{et:TypeId}{opn ro:Bool}{N:Nat}{hs':aj}(hn:cs.length=n)(hk:SK P ops nt L l ((d,iv N (n+1) 1)::al) hs' fun bs=>K (⟨true,.none,[i,N]⟩::bs))(ho:o.op = .call ⟨.builtin .append,#[a,b],#[t,t1]⟩:=by exact rfl)(hu:aX P t (.slice e):=by infer_instance)(hu1:aX P t1 (.slice e1):=by infer_instance)(hz:bD P e [.nils]:=by infer_instance)(hI:TI P e 1:=by infer_instance)(wn:Wn ops nt al o d:=by exact⟨rfl,rfl,rfl⟩)(ha:ai (rg al) a=iv i n 1:=by exact rfl)(hi:hs[i]? = some (cR e cs):=by exact rfl)(hb:ai (rg al) b = .one (.slice j 0 1 cap):=by exact rfl)(hj:hs[j]? = some (.cells [c] et opn ro):=by exact rfl)(hm:n+1<=2000000000:=by omega)(hN:hs.length=N:=by exact nL)(hbd:Nat.blt N Mem.bound=true:=by exact rfl)(hh:hs.set i .dead++[.cells (cs++[c]) e true false]=hs':=by first|(simp only[List.set_cons_succ,List.set_cons_zero,List.cons_append,List.nil_append];exact rfl)|exact rfl):SK P ops nt L (o::l) al hs K:=by
 rw[l9 (Nat.succ_ne_zero _)]at hk
 exact DC (zs:=[.nils]) (sz:=1) ho wn.w wn.e wn.l ⟨rfl,by decide⟩ ha hi (by rw[hn,Nat.mul_one]) (r7 hb hj rfl) ⟨by decide,hm⟩ hN hbd hh hk
end
end Go.Xm
namespace Go.Proofs.YtagpkhindehcbaaGreat
open Go.Xm
variable [ax]
def fE(E:List (List Ev))(j:Nat):ak:=c8 (E.getD j [])
instance IN (E:List (List Ev)) (j:Nat):cL (fE E j):=by unfold fE;infer_instance
def jn(b:Nat)(E:List (List Ev)):List XC:=(List.range E.length).map fun j=>gJ (b+j) (E.getD j []).length 3
abbrev lU(b:Nat)(E:List (List Ev)):ak:=cR 106 (jn b E)
theorem mY(b:Nat)(E:List (List Ev)):(jn b E).length=E.length:=by simp[jn]
theorem Jv(b:Nat)(E:List (List Ev)){j:Nat}(hj:j<E.length):(jn b E)[j]? = some (gJ (b+j) (E.getD j []).length 3):=by
 unfold jn
 rw[List.getElem?_map,List.getElem?_range hj];rfl
theorem A8{E:List (List Ev)}{l:List Ev}{j:Nat}(hj:j<E.length):(E++[l]).getD j []=E.getD j []:=by
 rw[List.getD_eq_getElem?_getD,List.getElem?_append_left hj,<-List.getD_eq_getElem?_getD]
theorem A9{E:List (List Ev)}{l:List Ev}:(E++[l]).getD E.length []=l:=by
 rw[List.getD_eq_getElem?_getD,List.getElem?_append_right (Nat.le_refl _),Nat.sub_self];rfl
theorem Dr(b:Nat)(E:List (List Ev))(l:List Ev):jn b (E++[l])=jn b E++[gJ (b+E.length) l.length 3]:=by
 unfold jn
 rw[List.length_append,List.length_singleton,List.range_succ,List.map_append]
 congr 1
 ·exact List.map_congr_left fun j hj=>by rw[A8 (List.mem_range.1 hj)]
 ·rw[List.map_singleton,A9]
theorem ya{b b':Nat}{E:List (List Ev)}{τ : Nat->Nat}(h:∀j,j<E.length -> τ (b+j)=b'+j):(jn b E).map (·.ay τ)=jn b' E:=by
 unfold jn
 rw[List.map_map]
 exact List.map_congr_left fun j hj=>by show(gJ _ _ _).ay τ = _;rw[aC,h j (List.mem_range.1 hj)]
theorem vJ{b b':Nat}{E:List (List Ev)}{τ : Nat->Nat}(h:∀j,j<E.length -> τ (b+j)=b'+j):(lU b E).ay τ = lU b' E:=by
 rw[E6,ya h]
theorem uj{b n:Nat}{E:List (List Ev)}(h:b+E.length<=n):(lU b E).ca n:=by
 have hm:∀c∈jn b E,c.ok n:=fun c hc=>by
  unfold jn at hc
  obtain⟨j,hj,rfl⟩:=List.mem_map.1 hc
  have:=List.mem_range.1 hj
  exact ba (by omega)
 show(cR _ (jn b E)).ca n
 cases ho:jn b E with
 | nil=>trivial
 | cons c cs=>rw[ho]at hm;exact hm
theorem Gm{E:List (List Ev)}{l:List Ev}{τ : Nat->Nat}{b N:Nat}(h:∀j,j<E.length -> τ (b+j)=b+j)(hu : τ (b+E.length)=N):(lU b (E++[l])).ay τ = .cells (jn b E++[gJ N l.length 3]) 106 true false:=by
 rw[E6,Dr,List.map_append,ya h,List.map_singleton,aC,hu]
 exact e9 (by simp)
theorem OM(E:List (List Ev))(j:Nat):sD (fE E j) mu (E.getD j []):=by
 refine⟨fun h=>?_,inferInstance⟩
 unfold fE
 exact⟨_,_,_,e9 (A3 (fun h0=>by rw[h0]at h;exact absurd h (Nat.lt_irrefl 0)))⟩
theorem OL{E:List (List Ev)}(hE:∀e∈E,mF e)(h54:E.length<=54):NO (lU 15 E) (fE E) E:=by
 have hin:∀j,j<E.length->mF (E.getD j []):=fun j hj=>hE _ (by rw[List.getD_eq_getElem?_getD,List.getElem?_eq_getElem hj];exact List.getElem_mem hj)
 refine⟨fun h0=>⟨jn 15 E,_,_,_,e9 (fun h=>?_),fun j hj=>⟨_,Jv 15 E hj,.inr ⟨by omega,?_,OM E j⟩⟩⟩,hin,fun j=>inferInstance,fun n hn=>uj (by omega),fun τl h=>vJ fun j hj=>IM h _ (by omega)⟩
 ·have:=mY 15 E
  rw[h]at this
  exact absurd this (by show¬0=_;omega)
 ·by_cases hz:(E.getD j []).length=0
  ·exact .inl ⟨hz,by rw[hz];rfl⟩
  ·exact .inr ⟨.toEnd 3,if_neg hz⟩
theorem F0{h:Hd}{p:Ph}{first:Int}{l:List Ol}(hT:Au h p first l){E:List (List Ev)}(hE:∀e∈E,mF e)(h54:E.length<=54) :
 bh Tryz.prog 15 [.one (.ptr 0 0),.agg (f_ h),.agg (hU p),.one (.int .i64 first),iv 13 l.length 397,iv 14 E.length 1] (ou l (lU 15 E) (fE E) []) (Et (g_ E first l (dS h p))) (ou l (lU 15 E) (fE E) [jF (g_ E first l (dS h p))]):=by
 have hA:=OL hE h54
 by_cases h0:E.length=0
 ·have e:iv 14 E.length 1 = .one .nils:=by rw[h0];rfl
  rw[e]
  exact xP hT hA (.inl ⟨h0,.inl rfl⟩)
 ·rw[l9 h0]
  obtain⟨vs,et,opn,ro,ho,_⟩:=hA.out (by omega)
  have hvs:lU 15 E = .cells (jn 15 E) 106 true false:=e9 (fun h=>by have:=mY 15 E;rw[h]at this;exact h0 this.symm)
  exact sH [.one (.ptr 0 0),.agg (f_ h),.agg (hU p),.one (.int .i64 first),iv 13 l.length 397] [] (i:=14) (off:=0) (n:=E.length) (s:=1) (by decide) (vs:=jn 15 E) (e:=106) (opn:=true) (ro:=false) (by rw[<-hvs];rfl) (by rw[mY];omega) fun cap hcap=>xP hT hA (dj.mk hcap)
theorem AI{B:List Bool}:∀(k:Nat) (r:Nat×Bool) (acc:List Ev),(∀e∈acc,lT e/\e.2.2=false)->acc.length+k<=64->mF (mL B k r acc).1
 | 0,r,acc,_,_=>⟨fun j hj=>absurd hj (Nat.not_lt_zero _),fun j hj=>absurd hj (Nat.not_lt_zero _),Nat.zero_le _⟩
 | k + 1, r,acc,ha,hl=>by
   rw[mL]
   obtain⟨e,he⟩:∃e,u0 (br B r).1 (br B (br B r).2).1=e:=⟨_,rfl⟩
   rw[he]
   split
   ·exact⟨fun j hj=>absurd hj (Nat.not_lt_zero _),fun j hj=>absurd hj (Nat.not_lt_zero _),Nat.zero_le _⟩
   ·rename_i hn
    have hok:lT e:=qL (by cases hr:iG e with|true=>rfl|false=>exact absurd (.inr hr) hn)
    have hlen:(acc++[e]).length=acc.length+1:=by rw[List.length_append];rfl
    split
    ·rename_i hlast
     have hlo:∀j,j<acc.length->(acc++[e]).getD j default=acc.getD j default/\acc.getD j default∈acc:=fun j hj=>by
      rw[List.getD_eq_getElem?_getD,List.getElem?_append_left hj,List.getD_eq_getElem?_getD,List.getElem?_eq_getElem hj]
      exact⟨rfl,List.getElem_mem hj⟩
     have hhi:(acc++[e]).getD acc.length default=e:=by rw[List.getD_eq_getElem?_getD,List.getElem?_append_right (Nat.le_refl _),Nat.sub_self];rfl
     refine⟨fun j hj=>?_,fun j hj=>?_,by dsimp only;omega⟩
     ·have hj':j<acc.length+1:=by rw[<-hlen];exact hj
      show lT ((acc++[e]).getD j default)
      by_cases h:j<acc.length
      ·rw[(hlo j h).1];exact(ha _ (hlo j h).2).1
      ·obtain rfl:j=acc.length:=by omega
       rw[hhi];exact hok
     ·have hj':j<acc.length+1:=by rw[<-hlen];exact hj
      show((acc++[e]).getD j default).2.2=decide (j+1=(acc++[e]).length)
      rw[hlen]
      by_cases h:j<acc.length
      ·rw[(hlo j h).1,(ha _ (hlo j h).2).2,decide_eq_false (by omega)]
      ·obtain rfl:j=acc.length:=by omega
       rw[hhi,hlast,decide_eq_true rfl]
    ·rename_i hlast
     refine AI k _ _ (fun x hx=>?_) (by omega)
     rcases List.mem_append.1 hx with hx|hx
     ·exact ha x hx
     ·rw[List.mem_singleton.1 hx]
      exact⟨hok,by cases h:e.2.2 with|true=>exact absurd h hlast|false=>rfl⟩
theorem H_(B:List Bool)(r:Nat×Bool):mF (jE B r).1:=AI 64 r [] (fun e he=>by cases he) (by decide)
noncomputable def yB(B:List Bool)(first:Int)(l:List Ol)(S0:bm):Int ⊕ List Mb:=
 let y:=ry B (vq l) ([],(0,false))
 if kC B y.2≠0 then .inl (kC B y.2)else g_ y.1 first l S0
def B0(k:Nat):Int ⊕ List Mb->XV
 | .inl e => .tup [.one .nils,.one (.int .i64 e)]
 | .inr l => .tup [.one (gJ k l.length 391),.one (.int .i64 0)]
abbrev Rt(a b:List Int)(h:Hd)(p:Ph)(l:List Ol)(q:List Int)(B:List Bool)(E:List (List Ev))(r:Nat×Bool)(x:aj):aj:=bO 1 5 9::aw 2 3 4 cM::aR cM::aT cM::aS cM::aw 6 7 8 cZ::aR cZ::aT cZ::aS cZ::aw 10 11 12 cP::aR cP::aT cP::aS cP::cR 5 (il .u8 a)::cR 5 (il .u8 b) :: .cells (f_ h) 26 false false :: .cells (hU p) 28 false false::cR 56 (fl gV l)::bp 19 q B r.1 r.2::aK q::lU 21 E::fE E 0::fE E 1::fE E 2::fE E 3::fE E 4::fE E 5::fE E 6::fE E 7::fE E 8::fE E 9::fE E 10::fE E 11::fE E 12::fE E 13::fE E 14::fE E 15::fE E 16::fE E 17::fE E 18::fE E 19::fE E 20::fE E 21::fE E 22::fE E 23::fE E 24::fE E 25::fE E 26::fE E 27::fE E 28::fE E 29::fE E 30::fE E 31::fE E 32::fE E 33::fE E 34::fE E 35::fE E 36::fE E 37::fE E 38::fE E 39::fE E 40::fE E 41::fE E 42::fE E 43::fE E 44::fE E 45::fE E 46::fE E 47::fE E 48::fE E 49::fE E 50::fE E 51::fE E 52::fE E 53::x
theorem R9{a b:List Int}{h:Hd}{p:Ph}{l:List Ol}{q:List Int}{B:List Bool}{E:List (List Ev)}{r:Nat×Bool}{x:aj}{u:Nat}(hu:u<54):(Rt a b h p l q B E r x)[21+u]? = some (fE E u):=by
 have e:Rt a b h p l q B E r x=(Rt a b h p l q B E r []).take 21++((List.range 54).map (fE E)++x):=rfl
 rw[e,List.getElem?_append_right (by show 21<=21+u;omega),show 21+u-((Rt a b h p l q B E r []).take 21).length=u by show 21+u-21=u;omega,List.getElem?_append_left (by rw[List.length_map,List.length_range];exact hu),List.getElem?_map,List.getElem?_range hu]
 rfl
abbrev xw:List Nat:=lA 0 (17::20::((List.range 54).map (21 + ·)++[]))
theorem B7{r:List Nat}{j:Nat}(hj:j<54):nth (xw++r) (15+j)=21+j:=by
 have e:xw++r=lA 0 [17,20]++((List.range 54).map (21 + ·)++r):=rfl
 unfold nth
 rw[e,List.getD_eq_getElem?_getD,List.getElem?_append_right (by show 15<=15+j;omega),show 15+j-(lA 0 [17,20]).length=j by show 15+j-15=j;omega,List.getElem?_append_left (by rw[List.length_map,List.length_range];exact hj),List.getElem?_map,List.getElem?_range hj]
 rfl
structure Qe(B:List Bool)(n:Nat)(X s:List (List Ev)×(Nat×Bool)):Prop where
 le:s.1.length<=n
 run:ry B (n-s.1.length) s=X
 ins:∀e∈s.1,mF e
theorem Iw{HS:aj}{f:Nat->ak}(h:(HS.drop 21).take 54=(List.range 54).map f){j:Nat}(hj:j<54):HS[21+j]? = some (f j):=by
 rw[<-List.getElem?_drop,<-List.getElem?_take_of_lt hj,h,List.getElem?_map,List.getElem?_range hj];rfl
abbrev DN(u:Nat):List Nat:=0::1::2::3::4::5::6::7::8::9::10::11::12::13::14::15::16::17::18::19::77::((List.range 54).map (fun j=>if j=u then 75 else 21+j)++[])
theorem KD:∀u:Fin 54,(DN u.val).Nodup:=by decide +kernel
theorem No{u:Nat}(hu:u<54):(DN u).Nodup:=KD ⟨u,hu⟩
theorem Ff(u:Nat){j:Nat}(hj:j<54):nth (DN u) (21+j)=if j=u then 75 else 21+j:=by
 have e:DN u=(DN u).take 21++((List.range 54).map (fun j=>if j=u then 75 else 21+j)++[]):=rfl
 unfold nth
 rw[e,List.getD_eq_getElem?_getD,List.getElem?_append_right (by show 21<=21+j;omega),show 21+j-((DN u).take 21).length=j by show 21+j-21=j;omega,List.getElem?_append_left (by rw[List.length_map,List.length_range];exact hj),List.getElem?_map,List.getElem?_range hj]
 rfl
theorem L5{E:List (List Ev)}{l:List Ev}{HS:aj}(hd:(HS.drop 21).take 54=(List.range 54).map (fE E))(h75:HS[75]? = some (c8 l)):∀j∈List.range 54,HS[if j=E.length then 75 else 21+j]? = some (fE (E++[l]) j)\/(fE (E++[l]) j = .dead/\(if j=E.length then 75 else 21+j)<HS.length):=fun j hj=>by
 left
 unfold fE
 by_cases hu:j=E.length
 ·subst hu
  rw[if_pos rfl,A9];exact h75
 ·rw[if_neg hu,Iw hd (List.mem_range.1 hj)]
  unfold fE
  by_cases h:j<E.length
  ·rw[A8 h]
  ·rw[List.getD_eq_getElem?_getD,List.getElem?_eq_none (by omega),List.getD_eq_getElem?_getD,List.getElem?_eq_none (by rw[List.length_append,List.length_singleton];omega)]
end Go.Proofs.YtagpkhindehcbaaGreat
