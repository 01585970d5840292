/-
  A part of the proof: Fits, MacLaw, Macro, Made, Made2, AllLaw, AtK, FillLaw, BlkLaw, TakeK, TakeAG.
-/
import Derived.Test.YtagpkhindehcbaaGreatKfF
import Derived.Test.YtagpkhindehcbaaGreatKfM
import Derived.Test.YtagpkhindehcbaaGreatKfO
import Derived.Test.YtagpkhindehcbaaGreatKfP
import Derived.Test.YtagpkhindehcbaaGreatKfT
import Derived.Test.YtagpkhindehcbaaGreatKfW
import Derived.Test.YtagpkhindehcbaaGreatKfX
set_option maxRecDepth 10000
set_option maxHeartbeats 8000000
set_option linter.unusedVariables false
set_option linter.unusedSectionVars false
set_option linter.unusedSimpArgs false
namespace Go.Proofs.YtagpkhindehcbaaGreat
open Go.Xm
variable [ax]
def qM(h:Hd):Hd:=if h.w=true then {h with a:=fun i=>max (h.a i) 8,b:=fun i=>max (h.b i) 8}else {h with w:=false,a:=fun _=>0,b:=fun _=>0}
abbrev xI(h:Hd)(j:Nat):Hd:={h with a:=ri (fun i=>max (h.a i) 8) h.a j,b:=ri (fun i=>max (h.b i) 8) h.b j}
theorem GN{h g:Hd}(hw:h.w=g.w)(ha:∀i,i<64->h.a i=g.a i)(hb:∀i,i<64->h.b i=g.b i):eO h=eO g:=by
 unfold eO
 rw[hw,sf ha,sf hb]
theorem EZ(k:IntKind)(f:Nat->Int){n i:Nat}(hi:i<n)(z:Int):(ti k n f).set i (.int k z)=ti k n (cw f i z):=s4 k n f i z
theorem Kg(h:Hd){i:Nat}(hi:i<64)(z:Int):(eO h).set (1+i) (.int .u8 z)=eO {h with a:=cw h.a i z}:=by
 unfold eO
 rw[Nat.add_comm,List.set_cons_succ,List.set_append_left _ _ (by rw[aE];exact hi),EZ .u8 h.a hi z]
theorem Kh(h:Hd){i:Nat}(hi:i<64)(z:Int):(eO h).set (65+i) (.int .u8 z)=eO {h with b:=cw h.b i z}:=by
 unfold eO
 rw[show 65+i=(64+i)+1 by omega,List.set_cons_succ,List.set_append_right _ _ (by rw[aE];omega),aE,show 64+i-64=i by omega,EZ .u8 h.b hi z]
theorem DZ:bz Tryz.prog 24 (eO ⟨0,0,false,fun _=>0,fun _=>0⟩):=by
 show bz Tryz.prog 24 (.bool false::((ti .u8 64 fun _=>0)++(ti .u8 64 fun _=>0)))
 infer_instance
theorem IA(h:Hd)(hr:∀i,i<64->(0<=h.a i/\h.a i<=255)/\(0<=h.b i/\h.b i<=255)):bh Tryz.prog 41 [.agg (eO h)] [] (.agg (eO (qM h))) []:=by
 obtain⟨w,hw⟩:∃w,h.w=w:=⟨_,rfl⟩
 have h0:(eO h)[0]? = some (.bool w):=by rw[<-hw];rfl
 cases w
 ·have e:eO (qM h)=eO ⟨0,0,false,fun _=>0,fun _=>0⟩:=by unfold qM;rw[if_neg (by rw[hw];decide)];rfl
  rw[e]
  refine cO Tryz.func41 ?_
  repeat' (first
   |(refine qz ?_;first
    |refine tR (zs:=eO ⟨0,0,false,fun _=>0,fun _=>0⟩) (hz:=DZ) ?_
    |refine b0 (zs:=eO ⟨0,0,false,fun _=>0,fun _=>0⟩) (hz:=DZ) ?_
    |refine kj (cs:=eO ⟨0,0,false,fun _=>0,fun _=>0⟩) ?_ (hs1:=by rw[jv]) (hs2:=by rw[jv])
    |refine ld (hc:=h0) ?_)
   |refine zz ?_|refine zx (fun _=>?_) (fun _=>?_)|fail)
  show aC _ _ _ _ _ _ _ _;refine kV [] ?_
  rfl
 ·have e:eO (qM h)=eO (xI h 64):=by
   unfold qM
   rw[if_pos hw]
   exact GN rfl (fun i hi=>by simp[ri,hi]) (fun i hi=>by simp[ri,hi])
  rw[e]
  refine cO Tryz.func41 ?_
  repeat' (first
   |(refine qz ?_;first
    |refine tR (zs:=eO ⟨0,0,false,fun _=>0,fun _=>0⟩) (hz:=DZ) ?_
    |refine ld (hc:=h0) ?_)
   |refine zz ?_|refine zx (fun _=>?_) (fun _=>?_)|fail)
  refine WX.dw (σ:=Nat) (fun j=>[(8,.one (.int .i64 (j:Nat))),(1,.one (.ptr 0 0)),(2,.one (.ptr 1 0))]) (fun j=>[.cells (eO (xI h j)) 24 false false,.cells (eO ⟨0,0,false,fun _=>0,fun _=>0⟩) 24 false false]) (fun j=>j<=64) (fun j=>64-j) 0 (by omega) (fun s _=>lD) (cG [0,1] (obj:=by(repeat' (first|exact ae.nil|refine ae.flat (by rw[show xI h 0=h by unfold xI;rw[pb,pb]];rfl) ?_|refine ae.flat rfl ?_|refine ae.cons rfl ?_|refine ae.dead rfl ?_|refine ae.cons (by simp only[ak.ay,List.map_cons,List.map_nil,XC.ay,aB];exact rfl) ?_));first|done|fail)) ?_
  intro j hj ih
  by_cases hj64:j<64
  ·have ga:=Ke (xI h j) hj64
   have gb:=Kf (xI h j) hj64
   have ea:(xI h j).a j=h.a j:=by simp[ri]
   have eb:(xI h j).b j=h.b j:=by simp[ri]
   rw[ea]at ga
   rw[eb]at gb
   have hrj:=hr j hj64
   have e1:({xI h j with a:=cw (xI h j).a j (max (h.a j) 8),b:=cw (xI h j).b j (max (h.b j) 8)}:Hd)=xI h (j+1):=by
    show({h with a:=cw (ri (fun i=>max (h.a i) 8) h.a j) j (max (h.a j) 8),b:=cw (ri (fun i=>max (h.b i) 8) h.b j) j (max (h.b j) 8)}:Hd)=_
    rw[pa (fun i=>max (h.a i) 8),pa (fun i=>max (h.b i) 8)]
   repeat' (first
    |(refine qz ?_;first
     |refine ld (hc:=ga) ?_
     |refine ld (hc:=gb) ?_
     |refine st ?_ (hle:=by rw[jv];omega) (hv:=Kg (xI h j) hj64 (max (h.a j) 8))
     |refine st ?_ (hle:=by rw[jv];omega) (hv:=Kh {xI h j with a:=cw (xI h j).a j (max (h.a j) 8)} hj64 (max (h.b j) 8)))
    |refine zz ?_|refine zx (fun _=>?_) (fun _=>?_)|fail)
   refine ih (j+1) _ _ _ (cG [0,1] (obj:=by(repeat' (first|exact ae.nil|refine ae.flat (by rw[<-e1];rfl) ?_|refine ae.flat rfl ?_|refine ae.cons rfl ?_|refine ae.dead rfl ?_|refine ae.cons (by simp only[ak.ay,List.map_cons,List.map_nil,XC.ay,aB];exact rfl) ?_));first|done|fail)) (by omega) (by omega)
  ·obtain rfl:j=64:=by omega
   repeat' (first
    |(refine qz ?_;first
     |refine fG ?_ (hle:=by rw[jv])
     |refine kj (cs:=eO (xI h 64)) ?_ (hs1:=by rw[jv]) (hs2:=by rw[jv]))
    |refine zz ?_|refine zx (fun _=>?_) (fun _=>?_)|fail)
   show aC _ _ _ _ _ _ _ _;refine kV [] ?_
   rfl
theorem LZ{h g:Hd}(hr:∀i,i<64->(0<=h.a i/\h.a i<=255)/\(0<=h.b i/\h.b i<=255))(hg:qM h=g){HS:aj}(hb:Nat.blt HS.length Mem.bound=true):aG.Sound Tryz.prog ⟨41,[.agg (eO h)],HS,.agg (eO g),HS,[]⟩:=by
 subst hg
 exact aA (IA h hr) (by simp only[List.all_cons,List.all_nil,Bool.and_true];exact pV h) (pV _) hb
def rF(h:Hd):Hd:={qM h with cols:=1+h.cols%2^3,rows:=1+h.rows%2^3}
structure tj(h:Hd):Prop where
 cols : -9223372036854775808<=h.cols/\h.cols<=9223372036854775807
 rows : -9223372036854775808<=h.rows/\h.rows<=9223372036854775807
 tab:∀i,i<64->(0<=h.a i/\h.a i<=255)/\(0<=h.b i/\h.b i<=255)
theorem Af:bz Tryz.prog 26 (f6 ⟨0,0,false,fun _=>0,fun _=>0⟩):=by
 show bz Tryz.prog 26 (.int .i64 0 :: .int .i64 0 :: .bool false::((ti .u8 64 fun _=>0)++(ti .u8 64 fun _=>0)))
 infer_instance
theorem FN(h:Hd)(hr:tj h):bh Tryz.prog 19 [.agg (f6 h)] [] (.agg (f6 (rF h))) []:=by
 have r1:=hr.cols
 have r2:=hr.rows
 refine cO Tryz.func19 ?_
 repeat' (first
  |(refine qz ?_;first
   |refine tR (zs:=f6 ⟨0,0,false,fun _=>0,fun _=>0⟩) (hz:=Af) ?_
   |refine t_ (cs:=eO h) ?_ (hle:=by rw[br];decide) (hc:=Er h)
   |refine an 3 ?_
   |refine cl ?_ (hi:=by exact LZ hr.tab rfl rfl))
  |refine zz ?_|refine zx (fun _=>?_) (fun _=>?_)|fail)
 show aC _ _ _ _ _ _ _ _;refine kV [] ?_
 rfl
theorem Iy{h g:Hd}(hr:tj h)(hg:rF h=g){HS:aj}(hb:Nat.blt HS.length Mem.bound=true):aG.Sound Tryz.prog ⟨19,[.agg (f6 h)],HS,.agg (f6 g),HS,[]⟩:=by
 subst hg
 exact aA (FN h hr) (by simp only[List.all_cons,List.all_nil,Bool.and_true];exact jk h) (jk _) hb
structure qi(p:Ph):Prop where
 id : -9223372036854775808<=p.id/\p.id<=9223372036854775807
 qp : -9223372036854775808<=p.qp/\p.qp<=9223372036854775807
def qL(p:Ph):Ph:=⟨p.id%2^16,p.inter,p.inter&&p.down,1+p.qp%2^5%31⟩
theorem FO(p:Ph)(hr:qi p):bh Tryz.prog 20 [.agg (gV p)] [] (.agg (gV (qL p))) []:=by
 have r1:=hr.id
 have r2:=hr.qp
 obtain⟨b,hi⟩:∃b,p.inter=b:=⟨_,rfl⟩
 have hl:(gV p)[1]? = some (.bool b):=by rw[<-hi];rfl
 have e:qL p=⟨p.id%2^16,b,b&&p.down,1+p.qp%2^5%31⟩:=by unfold qL;rw[hi]
 rw[e]
 cases b
 ·refine cO Tryz.func20 ?_
  repeat' (first
   |(refine qz ?_;first
    |refine ld (hc:=hl) ?_
    |refine an 16 ?_
    |refine an 5 ?_)
   |refine zz ?_|refine zx (fun _=>?_) (fun _=>?_)|fail)
  show aC _ _ _ _ _ _ _ _;refine kV [] ?_
  rfl
 ·refine cO Tryz.func20 ?_
  repeat' (first
   |(refine qz ?_;first
    |refine ld (hc:=hl) ?_
    |refine an 16 ?_
    |refine an 5 ?_)
   |refine zz ?_|refine zx (fun _=>?_) (fun _=>?_)|fail)
  show aC _ _ _ _ _ _ _ _;refine kV [] ?_
  rfl
theorem Iz{p g:Ph}(hr:qi p)(hg:qL p=g){HS:aj}(hb:Nat.blt HS.length Mem.bound=true):aG.Sound Tryz.prog ⟨20,[.agg (gV p)],HS,.agg (gV g),HS,[]⟩:=by
 subst hg
 exact aA (FO p hr) rfl rfl hb
theorem Ek{p:Ph}(hr:qi p):tP (qL p):=by
 refine⟨?_,?_,?_⟩
 ·show 0<=p.id%2^16/\p.id%2^16<=65535
  omega
 ·show 1<=1+p.qp%2^5%31/\1+p.qp%2^5%31<=31
  omega
 ·intro h
  have h':(p.inter&&p.down)=true:=h
  exact(Bool.and_eq_true_iff.1 h').1
def four(h:Hd):Hd:={rF h with cols:=1+(rF h).cols%2^2,rows:=1+(rF h).rows%2^2}
theorem En(h:Hd):qd (four h)/\1<=(four h).cols/\(four h).cols<=4/\1<=(four h).rows/\(four h).rows<=4:=by
 have c:1<=(four h).cols/\(four h).cols<=4:=by show 1<=1+(rF h).cols%2^2/\1+(rF h).cols%2^2<=4;omega
 have r:1<=(four h).rows/\(four h).rows<=4:=by show 1<=1+(rF h).rows%2^2/\1+(rF h).rows%2^2<=4;omega
 refine⟨⟨⟨by omega,by omega,by omega,by omega⟩,?_,?_⟩,c.1,c.2,r.1,r.2⟩
 ·intro hw i hi
  have hw':(qM h).w=true:=hw
  show 8<=(qM h).a i/\8<=(qM h).b i
  unfold qM at hw' ⊢
  split at hw'
  ·rename_i g
   rw[if_pos g]
   exact⟨Int.le_max_right _ _,Int.le_max_right _ _⟩
  ·cases hw'
 ·intro hw i hi
  have hw':(qM h).w=false:=hw
  show(qM h).a i=0/\(qM h).b i=0
  unfold qM at hw' ⊢
  split at hw'
  ·rename_i g
   have:h.w=false:=hw'
   rw[g]at this
   cases this
  ·rename_i g
   rw[if_neg g]
   exact⟨rfl,rfl⟩
structure Wy where
 x:Nat->Int
 y:Nat->Int
 same:Bool
def QR(w:Wy):List XC:=[.int .i8 (w.x 0),.int .i8 (w.x 1),.int .i8 (w.x 2),.int .i8 (w.x 3),.int .i8 (w.y 0),.int .i8 (w.y 1),.int .i8 (w.y 2),.int .i8 (w.y 3),.bool w.same]
def tU(w:Wy)(k:Nat):Int×Int:=if w.same=true then((w.x 0).tmod 32,(w.y 0).tmod 32)else((w.x k).tmod 32,(w.y k).tmod 32)
structure D3(w:Wy):Prop where
 x:∀k,k<4 -> -128<=w.x k/\w.x k<128
 y:∀k,k<4 -> -128<=w.y k/\w.y k<128
theorem zeroV:bz Tryz.prog 49 (vt fun _=>(0,0)):=by
 show bz Tryz.prog 49 [cD (0,0),cD (0,0),cD (0,0),cD (0,0)]
 rw[dX]
 infer_instance
theorem gJ{x y:Int}(hx : -128<=x/\x<128)(hy : -128<=y/\y<128){q:Int×Int}(hq:(x.tmod 32,y.tmod 32)=q){HS:aj}(hb:Nat.blt HS.length Mem.bound=true):aG.Sound Tryz.prog ⟨77,[.one (.int .i8 x),.one (.int .i8 y)],HS,.one (cD q),HS,[]⟩:=by
 subst hq;exact Dv hx hy hb
theorem KN(w:Wy)(hr:D3 w):bh Tryz.prog 43 [.agg (QR w)] [] (.agg (vt (tU w))) []:=by
 have x0:=hr.x 0 (by decide)
 have x1:=hr.x 1 (by decide)
 have x2:=hr.x 2 (by decide)
 have x3:=hr.x 3 (by decide)
 have y0:=hr.y 0 (by decide)
 have y1:=hr.y 1 (by decide)
 have y2:=hr.y 2 (by decide)
 have y3:=hr.y 3 (by decide)
 obtain⟨p0,h0⟩:∃p,((w.x 0).tmod 32,(w.y 0).tmod 32)=p:=⟨_,rfl⟩
 obtain⟨p1,h1⟩:∃p,((w.x 1).tmod 32,(w.y 1).tmod 32)=p:=⟨_,rfl⟩
 obtain⟨p2,h2⟩:∃p,((w.x 2).tmod 32,(w.y 2).tmod 32)=p:=⟨_,rfl⟩
 obtain⟨p3,h3⟩:∃p,((w.x 3).tmod 32,(w.y 3).tmod 32)=p:=⟨_,rfl⟩
 obtain⟨b,hb⟩:∃b,w.same=b:=⟨_,rfl⟩
 have hl:(QR w)[8]? = some (.bool b):=by rw[<-hb];rfl
 cases b
 ·have e:vt (tU w) = [cD p0,cD p1,cD p2,cD p3]:=by
   have g:∀k,tU w k=((w.x k).tmod 32,(w.y k).tmod 32):=fun k=>if_neg (by rw[hb];decide)
   show [cD (tU w 0),cD (tU w 1),cD (tU w 2),cD (tU w 3)]=_
   rw[g,g,g,g,h0,h1,h2,h3]
  rw[e]
  refine cO Tryz.func43 ?_
  repeat' (first
   |(refine qz ?_;first
    |refine tR (zs:=vt fun _=>(0,0)) (hz:=zeroV) ?_
    |refine ld (hc:=hl) ?_
    |refine cl ?_ (hi:=by exact gJ x0 y0 h0 rfl)
    |refine cl ?_ (hi:=by exact gJ x1 y1 h1 rfl)
    |refine cl ?_ (hi:=by exact gJ x2 y2 h2 rfl)
    |refine cl ?_ (hi:=by exact gJ x3 y3 h3 rfl))
   |refine WX.loop ?_|refine WX.round ?_|refine zz ?_|refine zx (fun _=>?_) (fun _=>?_)|fail)
  show aC _ _ _ _ _ _ _ _;refine kV [] ?_
  rfl
 ·have e:vt (tU w) = [cD p0,cD p0,cD p0,cD p0]:=by
   have g:∀k,tU w k=((w.x 0).tmod 32,(w.y 0).tmod 32):=fun k=>if_pos hb
   show [cD (tU w 0),cD (tU w 1),cD (tU w 2),cD (tU w 3)]=_
   rw[g,g,g,g,h0]
  rw[e]
  refine cO Tryz.func43 ?_
  repeat' (first
   |(refine qz ?_;first
    |refine tR (zs:=vt fun _=>(0,0)) (hz:=zeroV) ?_
    |refine ld (hc:=hl) ?_
    |refine cl ?_ (hi:=by exact gJ x0 y0 h0 rfl)
    |refine cl ?_ (hi:=by exact gJ x1 y1 h1 rfl)
    |refine cl ?_ (hi:=by exact gJ x2 y2 h2 rfl)
    |refine cl ?_ (hi:=by exact gJ x3 y3 h3 rfl))
   |refine WX.loop ?_|refine WX.round ?_|refine zz ?_|refine zx (fun _=>?_) (fun _=>?_)|fail)
  show aC _ _ _ _ _ _ _ _;refine kV [] ?_
  rfl
theorem E6{w:Wy}(hr:D3 w){q:Nat->Int×Int}(hq:tU w=q){HS:aj}(hb:Nat.blt HS.length Mem.bound=true):aG.Sound Tryz.prog ⟨43,[.agg (QR w)],HS,.agg (vt q),HS,[]⟩:=by
 subst hq
 exact aA (KN w hr) rfl rfl hb
theorem Pu:∀n:Fin 256,-31<=((n.val:Int)-128).tmod 32/\((n.val:Int)-128).tmod 32<=31:=by decide +kernel
theorem uj{x:Int}(h : -128<=x/\x<128) : -31<=x.tmod 32/\x.tmod 32<=31:=by
 have:=Pu ⟨(x+128).toNat,by omega⟩
 have e:(((x+128).toNat:Nat):Int)-128=x:=by omega
 simp only[e]at this
 exact this
theorem Hl{w:Wy}(hr:D3 w):∀k,k<4->dH (tU w k)=true:=fun k hk=>by
 have a:=uj (hr.x k hk)
 have b:=uj (hr.y k hk)
 have c:=uj (hr.x 0 (by decide))
 have d:=uj (hr.y 0 (by decide))
 unfold tU dH
 split<;>exact decide_eq_true (by omega)
structure Sm where
 kind:Int
 step:Int
 wy:Wy
 edge:Bool
 keep:Nat->Int
 seed:Int
 great:Bool
def r6(s:Sm):List XC:=[.int .u8 s.kind,.int .u8 s.step,.int .i8 (s.wy.x 0),.int .i8 (s.wy.x 1),.int .i8 (s.wy.x 2),.int .i8 (s.wy.x 3),.int .i8 (s.wy.y 0),.int .i8 (s.wy.y 1),.int .i8 (s.wy.y 2),.int .i8 (s.wy.y 3),.bool s.wy.same,.bool s.edge,.int .u64 (s.keep 0),.int .u64 (s.keep 1),.int .u64 (s.keep 2),.int .u64 (s.keep 3),.int .u64 (s.keep 4),.int .u64 (s.keep 5),.int .u32 s.seed,.bool s.great]
instance:sw r6 20:=⟨fun _=>rfl,fun _=>rfl,by decide⟩
instance Q4 (s:Sm) (e:TypeId) (a b:Bool):c8 (.cells (r6 s) e a b):=jj rfl
structure kE(s:Sm):Prop where
 kind:0<=s.kind/\s.kind<=255
 step:0<=s.step/\s.step<=255
 wy:D3 s.wy
 keep:∀k,k<6->0<=s.keep k/\s.keep k<18446744073709551616
 seed:0<=s.seed/\s.seed<4294967296
def xd(n:Int):Int:=IntKind.u32.wrap (IntKind.u32.wrap (n*1664525)+1013904223)
theorem wrap32(x:Int):0<=IntKind.u32.wrap x/\IntKind.u32.wrap x<4294967296:=by
 unfold IntKind.wrap
 simp[IntKind.bits,IntKind.signed]
 omega
def mP(s:Sm)(inter:Bool):Int:=if inter=true then s.kind%5 else 3+s.kind%2
def gi(s:Sm)(inter:Bool)(qp:Int):Int×Int:=
 if mP s inter=4 then(if 1<=qp+n5 (s.step%4)/\qp+n5 (s.step%4)<=31 then(4,qp+n5 (s.step%4))else(3,qp))else(mP s inter,qp)
def Sp(s:Sm)(k i:Nat)(x:Int×(Nat->Int)):Int×(Nat->Int):=
 (xd x.1,if s.keep k/2^i%2=1 then(if s.great=true then cw (cw x.2 (k*64+i) (xd x.1/2^16%7-3)) (k*64+i) (xd x.1/2^16%1001-500)else cw x.2 (k*64+i) (xd x.1/2^16%7-3))else x.2)
def ql(s:Sm)(k:Nat)(x:Int×(Nat->Int)):Nat->Int×(Nat->Int)
 | 0=>x
 | i+1=>Sp s k i (ql s k x i)
def lx(s:Sm)(al:Bool):Nat->Int×(Nat->Int)
 | 0=>(s.seed,fun _=>0)
 | k+1=>((ql s k (lx s al k) 64).1,if al=true then cw (ql s k (lx s al k) 64).2 (k*64) ((ql s k (lx s al k) 64).1/2^20%128)else(ql s k (lx s al k) 64).2)
def qe(K:Int)(w:Wy):Nat->Int×Int:=if K=1 then fun _=>tU w 0 else if K=2 then fun k=>if k<4 then tU w k else(0,0)else fun _=>(0,0)
def Ah(K:Int):Bool:=decide (K=3\/K=4)
def nN(s:Sm)(inter:Bool)(qp:Int):Mb:=
 ⟨(gi s inter qp).1,(gi s inter qp).2,qe (gi s inter qp).1 s.wy,if Ah (gi s inter qp).1=true then s.edge else false,if(gi s inter qp).1=0 then fun _=>0 else(lx s (Ah (gi s inter qp).1) 6).2⟩
theorem I2(s:Sm)(k:Nat)(x:Int×(Nat->Int))(j:Nat)(hj:j<k*64):∀i,(ql s k x i).2 j=x.2 j:=by
 intro i
 induction i with
 | zero=>rfl
 | succ i ih=>
   show(if s.keep k/2^i%2=1 then(if s.great=true then cw (cw (ql s k x i).2 (k*64+i) _) (k*64+i) _ else cw (ql s k x i).2 (k*64+i) _)else(ql s k x i).2) j=_
   split
   ·split
    ·unfold cw
     rw[if_neg (by omega),if_neg (by omega)];exact ih
    ·unfold cw
     rw[if_neg (by omega)];exact ih
   ·exact ih
theorem uk{f:Nat->Int}{lo hi:Int}(h:∀j,lo<=f j/\f j<=hi){i:Nat}{z:Int}(hz:lo<=z/\z<=hi):∀j,lo<=cw f i z j/\cw f i z j<=hi:=fun j=>by
 unfold cw
 by_cases g:j=i
 ·rw[if_pos g];exact hz
 ·rw[if_neg g];exact h j
theorem Mg(s:Sm)(k:Nat)(x:Int×(Nat->Int))(h:∀j,-500<=x.2 j/\x.2 j<=500):∀i j,-500<=(ql s k x i).2 j/\(ql s k x i).2 j<=500:=by
 intro i
 induction i with
 | zero=>exact h
 | succ i ih=>
   show ∀j,-500<=(if s.keep k/2^i%2=1 then(if s.great=true then cw (cw (ql s k x i).2 (k*64+i) (xd (ql s k x i).1/2^16%7-3)) (k*64+i) (xd (ql s k x i).1/2^16%1001-500)else cw (ql s k x i).2 (k*64+i) (xd (ql s k x i).1/2^16%7-3))else(ql s k x i).2) j/\(if s.keep k/2^i%2=1 then(if s.great=true then cw (cw (ql s k x i).2 (k*64+i) (xd (ql s k x i).1/2^16%7-3)) (k*64+i) (xd (ql s k x i).1/2^16%1001-500)else cw (ql s k x i).2 (k*64+i) (xd (ql s k x i).1/2^16%7-3))else(ql s k x i).2) j<=500
   obtain⟨z,hz⟩:∃z,xd (ql s k x i).1/2^16=z:=⟨_,rfl⟩
   rw[hz]
   by_cases g1:s.keep k/2^i%2=1
   ·rw[if_pos g1]
    by_cases g2:s.great=true
    ·rw[if_pos g2]
     exact uk (uk ih (by omega)) (by omega)
    ·rw[if_neg g2]
     exact uk ih (by omega)
   ·rw[if_neg g1]
    exact ih
theorem Bf(s:Sm)(al:Bool):∀k,(∀j,-500<=(lx s al k).2 j/\(lx s al k).2 j<=500)/\(al=true->∀j,j<k->0<=(lx s al k).2 (j*64)/\(lx s al k).2 (j*64)<=127):=by
 intro k
 induction k with
 | zero=>exact⟨fun j=>by show -500<=(0:Int)/\(0:Int)<=500;omega,fun _ j hj=>absurd hj (Nat.not_lt_zero _)⟩
 | succ k ih=>
   have hi:=Mg s k (lx s al k) ih.1 64
   obtain⟨y,hy⟩:∃y,ql s k (lx s al k) 64=y:=⟨_,rfl⟩
   have hkp:=fun j hj=>I2 s k (lx s al k) j hj 64
   have e:(lx s al (k+1)).2=if al=true then cw y.2 (k*64) (y.1/2^20%128)else y.2:=by
    show(if al=true then cw (ql s k (lx s al k) 64).2 (k*64) ((ql s k (lx s al k) 64).1/2^20%128)else(ql s k (lx s al k) 64).2)=_
    rw[hy]
   rw[hy]at hi hkp
   obtain⟨z,hz⟩:∃z,y.1/2^20=z:=⟨_,rfl⟩
   rw[e,hz]
   refine⟨fun j=>?_,fun ha j hj=>?_⟩
   ·split
    ·exact uk hi (by omega) j
    ·exact hi j
   ·rw[if_pos ha]
    unfold cw
    by_cases hjk:j=k
    ·rw[if_pos (by rw[hjk])];omega
    ·rw[if_neg (by omega),hkp (j*64) (by omega)]
     exact ih.2 ha j (by omega)
theorem Kc{q n:Int}(hn:0<=n/\n<4)(h:1<=q+n5 n/\q+n5 n<=31):(dz q (q+n5 n)).2=true:=by
 have h4:n=0\/n=1\/n=2\/n=3:=by omega
 have e0:n5 0 = -2:=rfl
 have e1:n5 1 = -1:=rfl
 have e2:n5 2=1:=rfl
 have e3:n5 3=2:=rfl
 unfold dz
 rcases h4 with rfl|rfl|rfl|rfl
 ·rw[e0]at h ⊢
  rw[if_neg (by omega),if_pos (by omega)]
 ·rw[e1]at h ⊢
  rw[if_neg (by omega),if_neg (by omega),if_pos (by omega)]
 ·rw[e2]at h ⊢
  rw[if_neg (by omega),if_neg (by omega),if_neg (by omega),if_pos (by omega)]
 ·rw[e3]at h ⊢
  rw[if_neg (by omega),if_neg (by omega),if_neg (by omega),if_neg (by omega),if_pos (by omega)]
theorem Be(s:Sm)(inter:Bool)(qp:Int)(hs:kE s)(hq:1<=qp/\qp<=31):0<=(gi s inter qp).1/\(gi s inter qp).1<=4/\1<=(gi s inter qp).2/\(gi s inter qp).2<=31/\(inter=false->3<=(gi s inter qp).1)/\((gi s inter qp).1=4->(dz qp (gi s inter qp).2).2=true)/\((gi s inter qp).1≠4->(gi s inter qp).2=qp):=by
 have hk:=hs.kind
 have hst:=hs.step
 have hkk:0<=mP s inter/\mP s inter<=4/\(inter=false->3<=mP s inter):=by
  unfold mP
  cases inter
  ·rw[if_neg (by decide)];exact⟨by omega,by omega,fun _=>by omega⟩
  ·rw[if_pos rfl];exact⟨by omega,by omega,fun h=>by cases h⟩
 unfold gi
 by_cases h4:mP s inter=4
 ·rw[if_pos h4]
  by_cases hr:1<=qp+n5 (s.step%4)/\qp+n5 (s.step%4)<=31
  ·rw[if_pos hr]
   exact⟨by show(0:Int)<=4;decide,by show(4:Int)<=4;decide,hr.1,hr.2,fun _=>by show(3:Int)<=4;decide,fun _=>Kc (by omega) hr,fun g=>absurd rfl g⟩
  ·rw[if_neg hr]
   exact⟨by show(0:Int)<=3;decide,by show(3:Int)<=4;decide,hq.1,hq.2,fun _=>by show(3:Int)<=3;decide,fun g=>absurd (show(3:Int)=4 from g) (by decide),fun _=>rfl⟩
 ·rw[if_neg h4]
  exact⟨hkk.1,hkk.2.1,hq.1,hq.2,hkk.2.2,fun g=>absurd g h4,fun _=>rfl⟩
theorem C7{s:Sm}{inter:Bool}{qp:Int}(hs:kE s)(hq:1<=qp/\qp<=31):iK (nN s inter qp)/\dC (nN s inter qp) inter qp=0/\1<=(nN s inter qp).qp/\(nN s inter qp).qp<=31:=by
 obtain⟨k0,k4,q1,q31,hal,hst,hne⟩:=Be s inter qp hs hq
 obtain⟨H,hH⟩:∃H,gi s inter qp=H:=⟨_,rfl⟩
 have hm:nN s inter qp=⟨H.1,H.2,qe H.1 s.wy,if Ah H.1=true then s.edge else false,if H.1=0 then fun _=>0 else(lx s (Ah H.1) 6).2⟩:=by unfold nN;rw[hH]
 rw[hH]at k0 k4 q1 q31 hal hst hne
 rw[hm]
 obtain⟨m,hmm⟩:∃m:Mb,(⟨H.1,H.2,qe H.1 s.wy,if Ah H.1=true then s.edge else false,if H.1=0 then fun _=>0 else(lx s (Ah H.1) 6).2⟩:Mb)=m:=⟨_,rfl⟩
 have mk:m.kind=H.1:=by rw[<-hmm]
 have mq:m.qp=H.2:=by rw[<-hmm]
 have mv:m.v=qe H.1 s.wy:=by rw[<-hmm]
 have me:m.edge=if Ah H.1=true then s.edge else false:=by rw[<-hmm]
 have ml:m.lev=if H.1=0 then fun _=>0 else(lx s (Ah H.1) 6).2:=by rw[<-hmm]
 have ma:alone m=Ah H.1:=by unfold alone Ah;rw[mk]
 rw[hmm]
 have hlr:∀i,-500<=m.lev i/\m.lev i<=500:=fun i=>by
  rw[ml]
  split
  ·show -500<=(0:Int)/\(0:Int)<=500;omega
  ·exact(Bf s _ 6).1 i
 have hwt:∀k,k<4->dH (tU s.wy k)=true:=Hl hs.wy
 have hrz:dH (0,0)=true:=by decide
 have hvr:∀k,k<4->dH (m.v k)=true:=fun k hk=>by
  rw[mv];unfold qe
  split
  ·exact hwt 0 (by decide)
  ·split
   ·show dH (if k<4 then tU s.wy k else(0,0))=true
    rw[if_pos hk]
    exact hwt k hk
   ·exact hrz
 have hvg:∀k,k<4->ow m k:=fun k hk=>by
  refine⟨hvr k hk,fun g=>?_,fun g1 g2=>?_⟩
  ·rw[mv];unfold qe
   rw[mk]at g
   rw[if_neg g]
   split
   ·rfl
   ·rfl
  ·rw[mv];unfold qe
   rw[mk]at g1 g2
   rw[if_neg g1,if_neg g2]
 have hq':1<=m.qp/\m.qp<=31:=by rw[mq];exact⟨q1,q31⟩
 refine⟨⟨by rw[mk];omega,by omega,fun k=>?_,fun i=>by have:=hlr i;omega⟩,?_,hq'.1,hq'.2⟩
 ·rw [mv];unfold qe
  have tw:∀k,k<4->bI (tU s.wy k):=fun k hk=>by
   have:=hwt k hk
   unfold dH at this
   have h:=of_decide_eq_true this
   exact⟨by unfold fV;omega,by unfold fV;omega⟩
  split
  ·exact tw 0 (by decide)
  ·split
   ·show bI (if k<4 then tU s.wy k else(0,0))
    split
    ·rename_i h;exact tw k h
    ·exact Ko
   ·exact Ko
 ·unfold dC
  rw [if_neg (fun g=>by
   rcases g with g|⟨g1,g2⟩
   ·rw[mk]at g;omega
   ·have:=hal g1
    rw[ma]at g2
    unfold Ah at g2
    have:=of_decide_eq_false g2
    omega)]
  rw[if_neg (fun g=>by rw[me,<-ma,g.2,if_neg (by decide)]at g;exact absurd g.1 (by decide))]
  rw[if_neg (fun g=>by
   have h4:H.1=4:=mk▸g.1
   have:=hst h4
   rw[mq,this]at g
   exact absurd g.2 (by decide))]
  rw[if_neg (fun g=>g.2 (by rw[mq];exact hne (by rw[<-mk];exact g.1)))]
  have hv0:gL m=0:=if_pos ⟨hvg 0 (by decide),hvg 1 (by decide),hvg 2 (by decide),hvg 3 (by decide)⟩
  rw[if_neg (fun g=>g hv0)]
  exact if_pos fun i hi=>⟨fun g=>by rw[ml,if_pos (by rw[<-mk];exact g)],by have:=hlr i;omega,fun h64 ha=>by
   rw[ma]at ha
   have h0:H.1≠0:=fun e=>by rw[e]at ha;revert ha;decide
   rw[ml,if_neg h0]
   have:=(Bf s (Ah H.1) 6).2 ha (i/64) (by omega)
   rw[show i/64*64=i by omega]at this
   exact this⟩
theorem ua(m:Mb)(z:Int):(mC m).set 0 (.int .u8 z)=mC {m with kind:=z}:=rfl
theorem QA(m:Mb)(z:Int):(mC m).set 1 (.int .i64 z)=mC {m with qp:=z}:=rfl
theorem Me(m:Mb)(b:Bool):(mC m).set 6 (.bool b)=mC {m with edge:=b}:=rfl
theorem NO(m:Mb)(q:Nat->Int×Int):(mC m).take 2++vt q++(mC m).drop (2+4)=mC {m with v:=q}:=rfl
theorem Mf(m:Mb)(j:Nat)(z:Int):(mC m).set (7+j) (.int .i64 z)=mC {m with lev:=cw m.lev j z}:=by
 unfold mC
 rw[Nat.add_comm]
 simp only[List.set_cons_succ]
 rw[s4]
theorem ub(m:Mb)(k i:Nat)(z:Int):(mC m).set (7+k*64+i) (.int .i64 z)=mC {m with lev:=cw m.lev (k*64+i) z}:=by
 rw[Nat.add_assoc]
 exact Mf m _ z
theorem iS(m:Mb):(mC m)[0]? = some (.int .u8 m.kind):=rfl
theorem BP{x:Int}(h:0<=x/\x<4):([.int .i64 (-2),.int .i64 (-1),.int .i64 1,.int .i64 2]:List XC)[x.toNat]? = some (.int .i64 (n5 x)):=by
 have:x=0\/x=1\/x=2\/x=3:=by omega
 rcases this with rfl|rfl|rfl|rfl<;>rfl
theorem J5(s:Sm){k:Nat}(hk:k<6):(r6 s)[12+k]? = some (.int .u64 (s.keep k)):=by
 match k,hk with
 | 0,_=>rfl
 | 1,_=>rfl
 | 2,_=>rfl
 | 3,_=>rfl
 | 4,_=>rfl
 | 5,_=>rfl
theorem I4(s:Sm)(al:Bool)(k:Nat){y:Int×(Nat->Int)}(hy:ql s k (lx s al k) 64=y):lx s al (k+1)=(y.1,if al=true then cw y.2 (k*64) (y.1/2^20%128)else y.2):=by
 subst hy;rfl
theorem I3(s:Sm)(k:Nat)(x:Int×(Nat->Int))(i:Nat){y:Int×(Nat->Int)}(hy:ql s k x i=y):ql s k x (i+1)=(xd y.1,if s.keep k/2^i%2=1 then(if s.great=true then cw (cw y.2 (k*64+i) (xd y.1/2^16%7-3)) (k*64+i) (xd y.1/2^16%1001-500)else cw y.2 (k*64+i) (xd y.1/2^16%7-3))else y.2):=by
 subst hy;rfl
abbrev K_(K Q:Int):Mb:={ly with kind:=K,qp:=Q}
theorem Mh{s : Sm}(hs:kE s)(inter:Bool){qp:Int}(hq:1<=qp/\qp<=31):bh Tryz.prog 21 [.agg (r6 s),.one (.bool inter),.one (.int .i64 qp)] [] (.agg (mC (nN s inter qp))) []:=by
 have hk:=hs.kind
 have hst:=hs.step
 have hkq:=Be s inter qp hs hq
 refine cO Tryz.func21 ?_
 repeat' (first
  |(refine qz ?_;first
   |refine tR (zs:=mC ly) (hz:=jV) ?_
   |refine bS (zs:=mC ly) (hz:=jV) ?_
   |refine kj (cs:=mC (K_ (s.kind%5) qp)) ?_ (hs1:=by rw[aI]) (hs2:=by rw[aI]))
  |refine WX.zg 2 (σ:=Int) (fun K=>[(1,.one (.bool inter)),(2,.one (.int .i64 qp)),(3,.one (.ptr 0 0)),(6,.one (.ptr 1 0)),(7,.one (.ptr 2 0))]) (fun K=>[.cells (r6 s) 81 false false,.cells (mC ly) 53 false false,.cells (mC (K_ K qp)) 53 false false]) (fun K=>mP s inter=K) (fun s _=>lD) ?_ ?_|refine zz ?_|refine zx (fun _=>?_) (fun _=>?_)|fail)
 ·intro _
  cases inter
  ·repeat' (first
    |(refine qz ?_;first
     |refine st ?_ (hle:=by rw[aI];omega) (hv:=ua _ _))
    |refine zz ?_|refine zx (fun _=>?_) (fun _=>?_)|fail)
   (first|exact⟨mP s false,_,rfl,(cG [0,1,2])⟩|exact⟨rfl,mP s false,_,rfl,(cG [0,1,2])⟩)
  ·repeat' (first|refine zz ?_|refine zx (fun _=>?_) (fun _=>?_)|fail)
   (first|exact⟨mP s true,_,rfl,(cG [0,1,2])⟩|exact⟨rfl,mP s true,_,rfl,(cG [0,1,2])⟩)
 ·intro K hK
  have hkr:0<=K/\K<=4:=by
   rw[<-hK]
   unfold mP
   split<;>omega
  refine WX.zg 4 (σ:=Int×Int) (fun x=>[(1,.one (.bool inter)),(2,.one (.int .i64 qp)),(3,.one (.ptr 0 0)),(6,.one (.ptr 1 0)),(7,.one (.ptr 2 0))]) (fun x=>[.cells (r6 s) 81 false false,.cells (mC ly) 53 false false,.cells (mC (K_ x.1 x.2)) 53 false false]) (fun x=>gi s inter qp=x) (fun s _=>lD) ?_ ?_
  ·intro _
   have hb:=EX (s.step%4)
   by_cases h4:K=4
   ·by_cases hr:1<=qp+n5 (s.step%4)/\qp+n5 (s.step%4)<=31
    ·have e0:gi s inter qp=(4,qp+n5 (s.step%4)):=by unfold gi;rw[hK,if_pos h4,if_pos hr]
     have hr1:=hr.1
     have hr2:=hr.2
     repeat' (first
      |(refine qz ?_;first
       |refine ld (c := .int .u8 K) ?_ (hc:=iS _)
       |refine st (c := .int .u8 3) ?_ (hle:=by rw[aI];omega) (hv:=ua _ _)
       |refine st (c := .int .u8 4) ?_ (hle:=by rw[aI];omega) (hv:=ua _ _)
       |refine st (c := .int .i64 (qp+n5 (s.step%4))) ?_ (hle:=by rw[aI];omega) (hv:=QA _ _)
       |refine cl ?_ (hi:=by exact po rfl)
       |refine xc ?_ (hc:=BP (by omega)))
      |refine zz ?_|refine zx (fun _=>?_) (fun _=>?_)|fail)
     (first|exact⟨(4,qp+n5 (s.step%4)),_,e0,(cG [0,1,2])⟩|exact⟨rfl,(4,qp+n5 (s.step%4)),_,e0,(cG [0,1,2])⟩)
    ·have e0:gi s inter qp=(3,qp):=by unfold gi;rw[hK,if_pos h4,if_neg hr]
     repeat' (first
      |(refine qz ?_;first
       |refine ld (c := .int .u8 K) ?_ (hc:=iS _)
       |refine st (c := .int .u8 3) ?_ (hle:=by rw[aI];omega) (hv:=ua _ _)
       |refine cl ?_ (hi:=by exact po rfl)
       |refine xc ?_ (hc:=BP (by omega)))
      |refine zz ?_|refine zx (fun _=>?_) (fun _=>?_)|fail)
     all_goals first|(exfalso;omega)|(first|exact⟨(3,qp),_,e0,(cG [0,1,2])⟩|exact⟨rfl,(3,qp),_,e0,(cG [0,1,2])⟩)
   ·have e0:gi s inter qp=(K,qp):=by unfold gi;rw[hK,if_neg h4]
    repeat' (first
     |(refine qz ?_;first
      |refine ld (c := .int .u8 K) ?_ (hc:=iS _))
     |refine zz ?_|refine zx (fun _=>?_) (fun _=>?_)|fail)
    (first|exact⟨(K,qp),_,e0,(cG [0,1,2])⟩|exact⟨rfl,(K,qp),_,e0,(cG [0,1,2])⟩)
  ·intro H hH
   rw[hH]at hkq
   obtain⟨k0,k4,q1,q31,-,-,-⟩:=hkq
   obtain⟨q,hwq⟩:∃q,tU s.wy=q:=⟨_,rfl⟩
   by_cases h0:H.1=0
   ·have eM:nN s inter qp=K_ H.1 H.2:=by
     unfold nN
     rw[hH]
     have e1:qe H.1 s.wy=fun _=>(0,0):=by unfold qe;rw[if_neg (by omega),if_neg (by omega)]
     have e2:Ah H.1=false:=decide_eq_false (by omega)
     rw[e1,e2,if_pos h0,if_neg (by decide)]
     rfl
    rw[eM]
    repeat' (first
     |(refine qz ?_;first
      |refine t_ (cs:=QR s.wy) ?_
      |refine cl ?_ (hi:=by exact E6 hs.wy hwq rfl)
      |refine tR (zs:=vt fun _=>(0,0)) (hz:=zeroV) ?_
      |refine kj (cs:=vt q) ?_ (hs1:=by rfl) (hs2:=by rfl)
      |refine ld (c := .int .u8 H.1) ?_ (hc:=iS _)
      |refine fG ?_ (hle:=by rw[aI])
      |refine kj (cs:=mC (K_ H.1 H.2)) ?_ (hs1:=by rw[aI]) (hs2:=by rw[aI]))
     |refine zz ?_|refine zx (fun _=>?_) (fun _=>?_)|fail)
    show aC _ _ _ _ _ _ _ _;refine kV [] ?_
    rfl
   ·obtain ⟨m, hm⟩:∃m:Mb,(⟨H.1,H.2,qe H.1 s.wy,if Ah H.1=true then s.edge else false,fun _=>0⟩:Mb)=m:=⟨_,rfl⟩
    repeat' (first
     |(refine qz ?_;first
      |refine t_ (cs:=QR s.wy) ?_
      |refine cl ?_ (hi:=by exact E6 hs.wy hwq rfl)
      |refine tR (zs:=vt fun _=>(0,0)) (hz:=zeroV) ?_
      |refine kj (cs:=vt q) ?_ (hs1:=by rfl) (hs2:=by rfl))
     |refine WX.zg 10 (σ:=Mb) (fun x=>[(3,.one (.ptr 0 0)),(6,.one (.ptr 1 0)),(7,.one (.ptr 2 0))]) (fun x=>[.cells (r6 s) 81 false false,.cells (mC ly) 53 false false,.cells (mC x) 53 false false]) (fun x=>m=x) (fun s _=>lD) ?_ ?_|refine zz ?_|refine zx (fun _=>?_) (fun _=>?_)|fail)
    ·intro _
     by_cases h1:H.1=1
     ·have e1:mC m=mC {K_ H.1 H.2 with v:=fun _=>q 0}:=by
       rw[<-hm,<-hwq]
       have e1:qe H.1 s.wy=fun _=>tU s.wy 0:=if_pos h1
       have e2:Ah H.1=false:=decide_eq_false (by omega)
       rw[e1,e2,if_neg (by decide)]
       rfl
      repeat' (first
       |(refine qz ?_;first
        |refine ld (c := .int .u8 H.1) ?_ (hc:=iS _)
        |refine cl ?_ (hi:=by exact Ob rfl)
        |refine PR (off:=2) (s:=4) ?_ (hs2:=by rw[aI];omega) (hv:=NO (K_ H.1 H.2) (fun _=>q 0)))
       |refine zz ?_|refine zx (fun _=>?_) (fun _=>?_)|fail)
      first|exact⟨m,_,rfl,(cG [0,1,2] (obj:=by(repeat' (first|exact ae.nil|refine ae.flat (by rw[e1];rfl) ?_|refine ae.flat rfl ?_|refine ae.cons rfl ?_|refine ae.dead rfl ?_|refine ae.cons (by simp only[ak.ay,List.map_cons,List.map_nil,XC.ay,aB];exact rfl) ?_));first|done|fail))⟩|exact⟨rfl,m,_,rfl,(cG [0,1,2] (obj:=by(repeat' (first|exact ae.nil|refine ae.flat (by rw[e1];rfl) ?_|refine ae.flat rfl ?_|refine ae.cons rfl ?_|refine ae.dead rfl ?_|refine ae.cons (by simp only[ak.ay,List.map_cons,List.map_nil,XC.ay,aB];exact rfl) ?_));first|done|fail))⟩
     ·by_cases h2:H.1=2
      ·have e1:mC m=mC {K_ H.1 H.2 with v:=q}:=by
        rw[<-hm,<-hwq]
        have e1:qe H.1 s.wy=fun k=>if k<4 then tU s.wy k else(0,0):=by unfold qe;rw[if_neg h1,if_pos h2]
        have e2:Ah H.1=false:=decide_eq_false (by omega)
        rw[e1,e2,if_neg (by decide)]
        rfl
       repeat' (first
        |(refine qz ?_;first
         |refine ld (c := .int .u8 H.1) ?_ (hc:=iS _)
         |refine fG ?_ (hle:=by rfl)
         |refine PR (cs:=vt q) (off:=2) (s:=4) ?_ (hs2:=by rw[aI];omega) (hv:=NO (K_ H.1 H.2) q))
        |refine zz ?_|refine zx (fun _=>?_) (fun _=>?_)|fail)
       first|exact⟨m,_,rfl,(cG [0,1,2] (obj:=by(repeat' (first|exact ae.nil|refine ae.flat (by rw[e1];rfl) ?_|refine ae.flat rfl ?_|refine ae.cons rfl ?_|refine ae.dead rfl ?_|refine ae.cons (by simp only[ak.ay,List.map_cons,List.map_nil,XC.ay,aB];exact rfl) ?_));first|done|fail))⟩|exact⟨rfl,m,_,rfl,(cG [0,1,2] (obj:=by(repeat' (first|exact ae.nil|refine ae.flat (by rw[e1];rfl) ?_|refine ae.flat rfl ?_|refine ae.cons rfl ?_|refine ae.dead rfl ?_|refine ae.cons (by simp only[ak.ay,List.map_cons,List.map_nil,XC.ay,aB];exact rfl) ?_));first|done|fail))⟩
      ·have e1:mC m=mC {K_ H.1 H.2 with edge:=s.edge}:=by
        rw[<-hm]
        have e1:qe H.1 s.wy=fun _=>(0,0):=by unfold qe;rw[if_neg h1,if_neg h2]
        have e2:Ah H.1=true:=decide_eq_true (by omega)
        rw[e1,e2,if_pos rfl]
        rfl
       repeat' (first
        |(refine qz ?_;first
         |refine ld (c := .int .u8 H.1) ?_ (hc:=iS _)
         |refine st (c := .bool s.edge) ?_ (hle:=by rw[aI];omega) (hv:=Me _ _))
        |refine zz ?_|refine zx (fun _=>?_) (fun _=>?_)|fail)
       first|exact⟨m,_,rfl,(cG [0,1,2] (obj:=by(repeat' (first|exact ae.nil|refine ae.flat (by rw[e1];rfl) ?_|refine ae.flat rfl ?_|refine ae.cons rfl ?_|refine ae.dead rfl ?_|refine ae.cons (by simp only[ak.ay,List.map_cons,List.map_nil,XC.ay,aB];exact rfl) ?_));first|done|fail))⟩|exact⟨rfl,m,_,rfl,(cG [0,1,2] (obj:=by(repeat' (first|exact ae.nil|refine ae.flat (by rw[e1];rfl) ?_|refine ae.flat rfl ?_|refine ae.cons rfl ?_|refine ae.dead rfl ?_|refine ae.cons (by simp only[ak.ay,List.map_cons,List.map_nil,XC.ay,aB];exact rfl) ?_));first|done|fail))⟩
    ·intro x hx
     subst hx
     have em0:mC m=mC {m with lev:=fun _=>0}:=by rw[<-hm]
     obtain⟨al,hal⟩:∃al,Ah H.1=al:=⟨_,rfl⟩
     have hma:alone m=al:=by rw[<-hal,<-hm];rfl
     have eM:nN s inter qp = {m with lev:=(lx s al 6).2}:=by
      unfold nN
      rw[hH,if_neg h0,<-hal,<-hm]
     rw[eM]
     have hsd:=hs.seed
     repeat' (first
      |(refine qz ?_;first
       |refine ld (c := .int .u32 s.seed) ?_)
      |refine zz ?_|refine zx (fun _=>?_) (fun _=>?_)|fail)
     refine WX.dw (σ:=Nat×Int×(Nat->Int)) (fun t=>[(3,.one (.ptr 0 0)),(6,.one (.ptr 1 0)),(7,.one (.ptr 2 0)),(10,.one (.int .u32 t.2.1)),(68,.one (.int .i64 (t.1:Nat)))]) (fun t=>[.cells (r6 s) 81 false false,.cells (mC ly) 53 false false,.cells (mC {m with lev:=t.2.2}) 53 false false]) (fun t=>t.1<=6/\lx s al t.1=t.2/\0<=t.2.1/\t.2.1<4294967296) (fun t=>6-t.1) (0,s.seed,fun _=>0) ⟨Nat.zero_le _,rfl,hsd.1,hsd.2⟩ (fun s _=>lD) (cG [0,1,2] (obj:=by(repeat' (first|exact ae.nil|refine ae.flat (by rw[em0];rfl) ?_|refine ae.flat rfl ?_|refine ae.cons rfl ?_|refine ae.dead rfl ?_|refine ae.cons (by simp only[ak.ay,List.map_cons,List.map_nil,XC.ay,aB];exact rfl) ?_));first|done|fail)) ?_
     intro t ⟨ht6,hto,htn⟩ ih
     by_cases hlt:t.1<6
     ·have hkp:=hs.keep t.1 hlt
      repeat' (first|refine zz ?_|refine zx (fun _=>?_) (fun _=>?_)|fail)
      refine WX.dw (σ:=Nat×Int×(Nat->Int)) (fun u=>[(3,.one (.ptr 0 0)),(6,.one (.ptr 1 0)),(7,.one (.ptr 2 0)),(10,.one (.int .u32 u.2.1)),(11,.one (.int .i64 (t.1:Nat))),(68,.one (.int .i64 (t.1:Nat))),(71,.one (.int .i64 (u.1:Nat)))]) (fun u=>[.cells (r6 s) 81 false false,.cells (mC ly) 53 false false,.cells (mC {m with lev:=u.2.2}) 53 false false]) (fun u=>u.1<=64/\ql s t.1 t.2 u.1=u.2/\0<=u.2.1/\u.2.1<4294967296) (fun u=>64-u.1) (0,t.2) ⟨Nat.zero_le _,rfl,htn⟩ (fun s _=>lD) (cG [0,1,2]) ?_
      intro u ⟨hu64,hui,hun⟩ ih2
      by_cases hlu:u.1<64
      ·have hn:=wrap32 (IntKind.u32.wrap (u.2.1*1664525)+1013904223)
       have hd:0<=IntKind.u32.wrap (IntKind.u32.wrap (u.2.1*1664525)+1013904223)/2^(16:Int).toNat/\IntKind.u32.wrap (IntKind.u32.wrap (u.2.1*1664525)+1013904223)/2^(16:Int).toNat<4294967296:=by
        show 0<=IntKind.u32.wrap (IntKind.u32.wrap (u.2.1*1664525)+1013904223)/2^16/\IntKind.u32.wrap (IntKind.u32.wrap (u.2.1*1664525)+1013904223)/2^16<4294967296
        omega
       have hk2:=J5 s hlt
       have hnx:=I3 s t.1 t.2 u.1 hui
       by_cases hbit:s.keep t.1/2^((u.1:Nat):Int).toNat%2^1=1
       ·have hbit':s.keep t.1/2^u.1%2=1:=hbit
        obtain⟨gr,hgr⟩:∃g,s.great=g:=⟨_,rfl⟩
        have hl:(r6 s)[19]? = some (.bool gr):=by rw[<-hgr];rfl
        rw[if_pos hbit',hgr]at hnx
        cases gr
        ·rw[if_neg (by decide)]at hnx
         repeat' (first
          |(refine qz ?_;first
           |refine Rv (k := .u32) ?_
           |refine Rd (k := .u32) ?_
           |refine ld (hc:=hl) ?_
           |refine ld (hc:=hk2) ?_
           |refine an 1 ?_
           |refine st ?_ (hle:=by rw[aI];omega) (hv:=ub _ _ _ _))
          |refine zz ?_|refine zx (fun _=>?_) (fun _=>?_)|fail)
         exact ih2 (u.1+1,xd u.2.1,cw u.2.2 (t.1*64+u.1) (xd u.2.1/2^16%7-3)) _ _ _ (cG [0,1,2]) ⟨by show u.1+1<=64;omega,hnx,hn.1,hn.2⟩ (by show 64-(u.1+1)<64-u.1;omega)
        ·rw[if_pos rfl]at hnx
         repeat' (first
          |(refine qz ?_;first
           |refine Rv (k := .u32) ?_
           |refine Rd (k := .u32) ?_
           |refine ld (hc:=hl) ?_
           |refine ld (hc:=hk2) ?_
           |refine an 1 ?_
           |refine st ?_ (hle:=by rw[aI];omega) (hv:=ub _ _ _ _))
          |refine zz ?_|refine zx (fun _=>?_) (fun _=>?_)|fail)
         exact ih2 (u.1+1,xd u.2.1,cw (cw u.2.2 (t.1*64+u.1) (xd u.2.1/2^16%7-3)) (t.1*64+u.1) (xd u.2.1/2^16%1001-500)) _ _ _ (cG [0,1,2]) ⟨by show u.1+1<=64;omega,hnx,hn.1,hn.2⟩ (by show 64-(u.1+1)<64-u.1;omega)
       ·have hbit':¬s.keep t.1/2^u.1%2=1:=hbit
        rw[if_neg hbit']at hnx
        repeat' (first
         |(refine qz ?_;first
          |refine Rv (k := .u32) ?_
          |refine Rd (k := .u32) ?_
          |refine ld (hc:=hk2) ?_
          |refine an 1 ?_
          |refine st ?_ (hle:=by rw[aI];omega) (hv:=ub _ _ _ _))
         |refine zz ?_|refine zx (fun _=>?_) (fun _=>?_)|fail)
        exact ih2 (u.1+1,xd u.2.1,u.2.2) _ _ _ (cG [0,1,2]) ⟨by show u.1+1<=64;omega,hnx,hn.1,hn.2⟩ (by show 64-(u.1+1)<64-u.1;omega)
      ·have e64:u.1=64:=by omega
       rw[e64,<-hto]at hui
       have hox:=I4 s al t.1 hui
       have hd:0<=u.2.1/2^(20:Int).toNat/\u.2.1/2^(20:Int).toNat<4294967296:=by
        show 0<=u.2.1/2^20/\u.2.1/2^20<4294967296
        omega
       cases al
       ·rw[if_neg (by decide)]at hox
        repeat' (first
         |(refine qz ?_;first
          |refine fG ?_ (hle:=by rw[aI])
          |refine cl ?_ (hi:=by exact ir (m:={m with lev:=u.2.2}) (b:=false) hma rfl))
         |refine zz ?_|refine zx (fun _=>?_) (fun _=>?_)|fail)
        exact ih (t.1+1,u.2.1,u.2.2) _ _ _ (cG [0,1,2]) ⟨by show t.1+1<=6;omega,hox,hun⟩ (by show 6-(t.1+1)<6-t.1;omega)
       ·rw[if_pos rfl]at hox
        repeat' (first
         |(refine qz ?_;first
          |refine fG ?_ (hle:=by rw[aI])
          |refine cl ?_ (hi:=by exact ir (m:={m with lev:=u.2.2}) (b:=true) hma rfl)
          |refine st ?_ (hle:=by rw[aI];omega) (hv:=ub _ _ 0 _))
         |refine zz ?_|refine zx (fun _=>?_) (fun _=>?_)|fail)
        exact ih (t.1+1,u.2.1,cw u.2.2 (t.1*64) (u.2.1/2^20%128)) _ _ _ (cG [0,1,2]) ⟨by show t.1+1<=6;omega,hox,hun⟩ (by show 6-(t.1+1)<6-t.1;omega)
     ·have e6:t.1=6:=by omega
      rw[e6]at hto
      rw[hto]
      repeat' (first
       |(refine qz ?_;first
        |refine fG ?_ (hle:=by rw[aI])
        |refine kj ?_ (hs1:=by rw[aI]) (hs2:=by rw[aI]))
       |refine zz ?_|refine zx (fun _=>?_) (fun _=>?_)|fail)
      show aC _ _ _ _ _ _ _ _;refine kV [] ?_
      rfl
theorem I5{s:Sm}(hs:kE s){inter:Bool}{qp:Int}(hq:1<=qp/\qp<=31){m:Mb}(hm:nN s inter qp=m){HS:aj}(hb:Nat.blt HS.length Mem.bound=true):aG.Sound Tryz.prog ⟨21,[.agg (r6 s),.one (.bool inter),.one (.int .i64 qp)],HS,.agg (mC m),HS,[]⟩:=by
 subst hm
 exact aA (Mh hs inter hq) rfl (kO _) hb
abbrev Pk:Sm:=⟨0,0,⟨fun _=>0,fun _=>0,false⟩,false,fun _=>0,0,false⟩
instance RU:Inhabited Sm:=⟨Pk⟩
abbrev RF:Sm:=⟨3,0,⟨fun _=>0,fun _=>0,false⟩,false,fun _=>0,0,false⟩
theorem EU:kE RF:=⟨⟨by decide,by decide⟩,⟨by decide,by decide⟩,⟨fun _ _=>by show -128<=(0:Int)/\(0:Int)<128;decide,fun _ _=>by show -128<=(0:Int)/\(0:Int)<128;decide⟩,fun _ _=>by show(0:Int)<=0/\(0:Int)<18446744073709551616;decide,by decide,by decide⟩
def j8(l:List Sm)(inter:Bool)(qp:Int):Nat->List Mb×Int
 | 0=>([],qp)
 | k+1=>((j8 l inter qp k).1++[nN (l.getD k default) inter (j8 l inter qp k).2],(nN (l.getD k default) inter (j8 l inter qp k).2).qp)
def sO(n:Nat)(room:Int):Nat:=min n (min 9 room.toNat)
def ou(l:List Sm)(inter:Bool)(qp room:Int):List Mb:=if l.length=0 then [nN RF inter qp]else(j8 l inter qp (sO l.length room)).1
structure HH(inter:Bool)(qp:Int)(l:List Mb):Prop where
 mok:∀k,k<l.length->iK (l.getD k default)
 chk:∀k,k<l.length->dC (l.getD k default) inter (if k=0 then qp else(l.getD (k-1) default).qp)=0
theorem mQ(l:List Sm)(inter:Bool)(qp:Int):∀k,(j8 l inter qp k).1.length=k:=by
 intro k
 induction k with
 | zero=>rfl
 | succ k ih=>show((j8 l inter qp k).1++[_]).length=k+1;rw[List.length_append,ih];rfl
theorem Bi{l:List Sm}(hl:∀j,j<l.length->kE (l.getD j default))(inter:Bool){qp:Int}(hq:1<=qp/\qp<=31):∀k,k<=l.length->HH inter qp (j8 l inter qp k).1/\1<=(j8 l inter qp k).2/\(j8 l inter qp k).2<=31/\(j8 l inter qp k).2=if k=0 then qp else((j8 l inter qp k).1.getD (k-1) default).qp:=by
 intro k
 induction k with
 | zero=>exact fun _=>⟨⟨fun _ h=>absurd h (Nat.not_lt_zero _),fun _ h=>absurd h (Nat.not_lt_zero _)⟩,hq.1,hq.2,rfl⟩
 | succ k ih=>
   intro hk
   obtain⟨ho,h1,h2,h3⟩:=ih (by omega)
   have hlen:=mQ l inter qp k
   obtain⟨x,hx⟩:∃x,j8 l inter qp k=x:=⟨_,rfl⟩
   rw[hx]at ho h1 h2 h3 hlen
   obtain⟨m,hm⟩:∃m,nN (l.getD k default) inter x.2=m:=⟨_,rfl⟩
   have hok:=C7 (inter:=inter) (hl k (by omega)) ⟨h1,h2⟩
   rw[hm]at hok
   have e:j8 l inter qp (k+1)=(x.1++[m],m.qp):=by rw[j8,hx,hm]
   have g1:∀j,j<k->(x.1++[m]).getD j default=x.1.getD j default:=fun j hj=>by
    rw[List.getD_eq_getElem?_getD,List.getD_eq_getElem?_getD,List.getElem?_append_left (by omega)]
   have g2:(x.1++[m]).getD k default=m:=by
    rw[List.getD_eq_getElem?_getD,List.getElem?_append_right (by omega),hlen,Nat.sub_self]
    rfl
   rw[e]
   refine⟨⟨fun j hj=>?_,fun j hj=>?_⟩,hok.2.2.1,hok.2.2.2,?_⟩
   ·have hj':j<k+1:=by rw[List.length_append,hlen]at hj;exact hj
    show iK ((x.1++[m]).getD j default)
    by_cases h:j<k
    ·rw[g1 j h];exact ho.mok j (by omega)
    ·obtain rfl:j=k:=by omega
     rw[g2];exact hok.1
   ·have hj':j<k+1:=by rw[List.length_append,hlen]at hj;exact hj
    show dC ((x.1++[m]).getD j default) inter (if j=0 then qp else((x.1++[m]).getD (j-1) default).qp)=0
    by_cases h:j<k
    ·rw[g1 j h]
     have:=ho.chk j (by omega)
     by_cases h0:j=0
     ·rw[if_pos h0]at this ⊢;exact this
     ·rw[if_neg h0]at this ⊢
      rw[g1 (j-1) (by omega)];exact this
    ·obtain rfl:j=k:=by omega
     rw[g2]
     have h3':(if j=0 then qp else((x.1++[m]).getD (j-1) default).qp)=x.2:=by
      rw[h3]
      by_cases h0:j=0
      ·rw[if_pos h0,if_pos h0]
      ·rw[if_neg h0,if_neg h0,g1 (j-1) (by omega)]
     rw[h3'];exact hok.2.1
   ·rw[if_neg (by omega)]
    show m.qp=((x.1++[m]).getD (k+1-1) default).qp
    rw[Nat.add_sub_cancel,g2]
theorem I6{l:List Sm}(hl:∀j,j<l.length->kE (l.getD j default))(inter:Bool){qp:Int}(hq:1<=qp/\qp<=31){room:Int}(hr:1<=room):HH inter qp (ou l inter qp room)/\1<=(ou l inter qp room).length/\(ou l inter qp room).length<=9/\(((ou l inter qp room).length:Nat):Int)<=room:=by
 unfold ou
 by_cases h0:l.length=0
 ·rw[if_pos h0]
  have hok:=C7 (inter:=inter) EU hq
  refine⟨⟨fun k hk=>?_,fun k hk=>?_⟩,Nat.le_refl 1,by show 1<=9;decide,hr⟩
  ·have:k=0:=by simp at hk;exact hk
   subst this;exact hok.1
  ·have:k=0:=by simp at hk;exact hk
   subst this;rw[if_pos rfl];exact hok.2.1
 ·rw[if_neg h0]
  have:=Bi hl inter hq (sO l.length room) (Nat.min_le_left _ _)
  refine⟨this.1,?_,?_,?_⟩
  ·rw[mQ];unfold sO;omega
  ·rw[mQ];unfold sO;omega
  ·rw[mQ];unfold sO;omega
def gI(h:Hd)(p:Ph)(f:Int)(c:XC):List XC:=f6 h++(gV p++[.int .u8 f,c])
theorem sZ(h:Hd)(p:Ph)(f:Int)(c:XC):(gI h p f c).length=137:=by simp[gI,br,gV]
theorem J6(h:Hd)(p:Ph)(f:Int)(c:XC):((gI h p f c).drop 0).take 131=f6 h:=by
 unfold gI
 rw[List.drop_zero,List.take_append_of_le_length (by rw[br];exact Nat.le_refl _),List.take_of_length_le (by rw[br];exact Nat.le_refl _)]
theorem BM(h:Hd)(p:Ph)(f:Int)(c:XC)(j:Nat):(gI h p f c)[131+j]? = (gV p++[.int .u8 f,c])[j]?:=by
 unfold gI
 rw[List.getElem?_append_right (by rw[br];omega),br,Nat.add_sub_cancel_left]
theorem J7(h:Hd)(p:Ph)(f:Int)(c:XC):((gI h p f c).drop 131).take 4=gV p:=by
 unfold gI
 rw[List.drop_append_of_le_length (by rw[br];exact Nat.le_refl _),List.drop_of_length_le (by rw[br];exact Nat.le_refl _)]
 rfl
theorem M3(h:Hd)(p:Ph)(f:Int)(c:XC):(gI h p f c)[135]? = some (.int .u8 f):=BM h p f c 4
theorem M1(h:Hd)(p:Ph)(f:Int)(c:XC):(gI h p f c)[136]? = some c:=BM h p f c 5
theorem D0:bz Tryz.prog 28 (gV ⟨0,false,false,0⟩):=by
 show bz Tryz.prog 28 [.int .i64 0,.bool false,.bool false,.int .i64 0]
 infer_instance
theorem IE(g:Hd)(z:Int):(f6 g).set 0 (.int .i64 z)=f6 {g with cols:=z}:=rfl
def fz(h:Hd)(f:Int):Int:=f%((four h).cols*(four h).rows)
def jP(h:Hd)(p:Ph)(f:Int)(l:List Sm):List Mb:=ou l (qL p).inter (qL p).qp ((four h).cols*(four h).rows-fz h f)
theorem D1:bz Tryz.prog 81 (r6 Pk):=by
 show bz Tryz.prog 81 [.int .u8 0,.int .u8 0,.int .i8 0,.int .i8 0,.int .i8 0,.int .i8 0,.int .i8 0,.int .i8 0,.int .i8 0,.int .i8 0,.bool false,.bool false,.int .u64 0,.int .u64 0,.int .u64 0,.int .u64 0,.int .u64 0,.int .u64 0,.int .u32 0,.bool false]
 infer_instance
theorem rM(G:Hd)(P:Ph)(F:Int)(n k:Nat)(cap:tO){m:Nat}(hk:k<m):(XV.tup [.agg (f6 G),.agg (gV P),.one (.int .i64 F),.one (.slice k 0 n cap)]).b7 m:=fun x hx=>by
 simp only[List.mem_cons,List.not_mem_nil,or_false]at hx
 rcases hx with rfl|rfl|rfl|rfl
 ·exact X1.bV (x := .agg (f6 G)) (jk G) m
 ·exact X1.bV (x := .agg (gV P)) rfl m
 ·trivial
 ·exact hk
theorem pL(G:Hd)(P:Ph)(F:Int)(n k:Nat)(cap:tO)(τ : Nat->Nat):(XV.tup [.agg (f6 G),.agg (gV P),.one (.int .i64 F),.one (.slice k 0 n cap)]).ay τ = .tup [.agg (f6 G),.agg (gV P),.one (.int .i64 F),.one (.slice (τ k) 0 n cap)]:=by
 have h:=(L2 G).ay τ
 have e1:(X1.agg (f6 G)).ay τ = .agg (f6 G):=X1.eC (x := .agg (f6 G)) (jk G) τ
 simp only[XV.ay,List.map_cons,List.map_nil,e1]
 rfl
def H8(n:Nat):tO:=if n=0 then .exact 1 else .toEnd 391
def F8(n:Nat):Bool:=if n=0 then false else true
theorem I7{h:Hd}{p:Ph}(hh:tj h)(hp:qi p){f:Int}(hf:0<=f/\f<=255)(l:List Sm)(hl:∀j,j<l.length->kE (l.getD j default))(ob:ak)(ho:uy ob r6 l)(c:XC)(hc:cY c 0 0 l.length)(hn:l.length<=9223372036854775807) :
 bh Tryz.prog 9 [.agg (gI h p f c)] [ob] (.tup [.agg (f6 (four h)),.agg (gV (qL p)),.one (.int .i64 (fz h f)),.one (.slice 1 0 (jP h p f l).length (H8 l.length))]) [ob,.cells (fl mC (jP h p f l)) 53 (F8 l.length) false]:=by
 have hfo:=ho.flat
 obtain⟨hgo,g1,g2,g3,g4⟩:=En h
 have hcr:1<=(four h).cols*(four h).rows/\(four h).cols*(four h).rows<=64:=jg hgo.dims
 obtain⟨P,hP⟩:∃P,qL p=P:=⟨_,rfl⟩
 have hpq:=(Ek hp).qp
 obtain⟨F,hF⟩:∃F,fz h f=F:=⟨_,rfl⟩
 have hF2:f%((four h).cols*(four h).rows)=F:=hF
 have hFr:0<=F/\F<(four h).cols*(four h).rows:=by
  rw[<-hF2]
  exact⟨Int.emod_nonneg _ (by omega),Int.emod_lt_of_pos _ (by omega)⟩
 have hall:jP h p f l=ou l P.inter P.qp ((four h).cols*(four h).rows-F):=by unfold jP;rw[hP,hF]
 obtain⟨G,hG⟩:∃G,four h=G:=⟨_,rfl⟩
 have hset:(f6 {rF h with cols:=1+(rF h).cols%2^2}).set 1 (.int .i64 (1+(rF h).rows%2^2))=f6 G:=by rw[<-hG];rfl
 rw[hP]at hpq
 rw[hG]at hgo g1 g2 g3 g4 hcr hF2 hFr hall
 rw[hG,hP,hF,hall]
 have hlen:131=(f6 G).length:=(br _).symm
 obtain⟨r,hr⟩:∃r,G.cols*G.rows-F=r:=⟨_,rfl⟩
 have hr1:1<=r/\r<=64:=by omega
 refine cO Tryz.func9 ?_
 repeat' (first
  |(refine qz ?_;first
   |refine tR (zs:=f6 ⟨0,0,false,fun _=>0,fun _=>0⟩) (hz:=Af) ?_
   |refine tR (zs:=gV ⟨0,false,false,0⟩) (hz:=D0) ?_
   |refine t_ (cs:=f6 h) ?_ (hle:=by rw[sZ];decide) (hc:=J6 h p f c)
   |refine t_ (cs:=gV p) ?_ (hle:=by rw[sZ];decide) (hc:=J7 h p f c)
   |refine cl ?_ (hi:=by exact Iy hh rfl rfl)
   |refine cl ?_ (hi:=by exact Iz hp hP rfl)
   |refine kj (cs:=f6 (rF h)) ?_ (hs1:=by rw[br]) (hs2:=by rw[br])
   |refine kj (cs:=gV P) ?_
   |refine an 2 ?_
   |refine st ?_ (hle:=by rw[br];omega) (hv:=hset)
   |refine st (c := .int .i64 (1+(rF h).cols%2^2)) ?_ (hle:=by rw[br];omega) (hv:=IE _ _)
   |refine ld (c := .int .u8 f) ?_ (hc:=M3 h p f c)
   |refine ld (c:=c) ?_ (hc:=M1 h p f c)
   |refine ld (c := .int .i64 G.cols) ?_
   |refine ld (c := .int .i64 G.rows) ?_)
  |refine Hg (id:=1) [6,7] ?_|refine zz ?_|refine zx (fun _=>?_) (fun _=>?_)|fail)
 refine WX.cU rfl ?_
 obtain⟨N,hN⟩:∃N,sO l.length r=N:=⟨_,rfl⟩
 have hN2:min l.length (min 9 r.toNat)=N:=hN
 refine WX.dw (σ:=Nat×List Mb×Int) (fun t=>[(2,.one (.ptr 1 0)),(3,.one (.ptr 2 0)),(6,.one (.ptr 3 0)),(7,.one (.ptr 4 0)),(8,.one (.int .i64 F)),(42,.one c),(43,.one (.int .i64 (l.length:Nat))),(9,hZ 5 t.2.1.length 391),(10,.one (.int .i64 t.2.2)),(44,.one (.int .i64 (t.1:Nat)))]) (fun t=>[ob,.cells (f6 ⟨0,0,false,fun _=>0,fun _=>0⟩) 26 false false,.cells (gV ⟨0,false,false,0⟩) 28 false false,.cells (f6 G) 26 false false,.cells (gV P) 28 false false,cE 53 (fl mC t.2.1)]) (fun t=>t.1<=N/\j8 l P.inter P.qp t.1=t.2) (fun t=>N-t.1) (0,[],P.qp) ⟨Nat.zero_le _,rfl⟩ (fun s _=>lD) (cG [0,2,3,4,5,6] (reg:=by(repeat' (first|exact ah.nil|refine ah.flat (by rw[<-hF2];rfl) ?_|refine ah.flat rfl ?_|refine ah.cons rfl ?_|refine ah.sl rfl (by assumption) rfl ?_|refine ah.fN rfl rfl (by first|rfl|omega|(simp;done)|(simp;omega)) ?_));first|done|fail)) ?_
 intro t ⟨ht,hrun⟩ ih
 have htl:=mQ l P.inter P.qp t.1
 have hto:=Bi hl P.inter hpq t.1 (by omega)
 rw[hrun]at htl hto
 obtain⟨-,hq1,hq2,-⟩:=hto
 by_cases hlt:t.1<N
 ·have hmk:=hl t.1 (by omega)
  obtain⟨el,hel⟩:∃el,l.getD t.1 default=el:=⟨_,rfl⟩
  have hel':l.getD (t.1:Int).toNat default=el:=hel
  rw[hel]at hmk
  obtain⟨m,hm⟩:∃m,nN el P.inter t.2.2=m:=⟨_,rfl⟩
  have hnx:j8 l P.inter P.qp (t.1+1)=(t.2.1++[m],m.qp):=by rw[j8,hrun,hel,hm]
  repeat' (first
   |(refine qz ?_;first
    |refine tR (zs:=r6 Pk) (hz:=D1) ?_
    |refine tR (zs:=mC ly) (hz:=jV) ?_
    |refine sL (enc:=r6) ?_
    |refine kj (cs:=r6 el) ?_ (hy:=by rw[<-hel'];rfl)
    |refine ld (c := .int .i64 G.cols) ?_
    |refine ld (c := .int .i64 G.rows) ?_
    |refine ld (c := .int .i64 m.qp) ?_
    |refine cl ?_ (hi:=by exact I5 hmk ⟨hq1,hq2⟩ hm rfl)
    |refine kj (cs:=mC m) ?_ (hs1:=by rw[aI]) (hs2:=by rw[aI])
    |refine fG ?_ (hle:=by rw[aI])
    |refine oR (enc:=mC) (a:=m) ?_
    |refine t5 (enc:=mC) ?_)
   |refine zz ?_|refine zx (fun _=>?_) (fun _=>?_)|fail)
  exact ih (t.1+1,t.2.1++[m],m.qp) _ _ _ (cG [0,1,2,3,4,9] (obj:=by(repeat' (first|exact ae.nil|refine ae.flat (by rw[List.length_append];rfl) ?_|refine ae.flat rfl ?_|refine ae.cons rfl ?_|refine ae.dead rfl ?_|refine ae.cons (by simp only[ak.ay,List.map_cons,List.map_nil,XC.ay,aB];exact rfl) ?_));first|done|fail) (reg:=by(repeat' (first|exact ah.nil|refine ah.flat (by rw[List.length_append];rfl) ?_|refine ah.flat rfl ?_|refine ah.cons rfl ?_|refine ah.sl rfl (by assumption) rfl ?_|refine ah.fN rfl rfl (by first|rfl|omega|(simp;done)|(simp;omega)) ?_));first|done|fail)) ⟨by show t.1+1<=N;omega,hnx⟩ (by show N-(t.1+1)<N-t.1;omega)
 ·have e0:t.1=N:=by omega
  by_cases h0:l.length=0
  ·have eN:N=0:=by omega
   rw[e0,eN]at hrun
   have et:t.2.1 = []:=by rw[<-hrun];rfl
   have eq:t.2.2=P.qp:=by rw[<-hrun];rfl
   obtain⟨m,hm⟩:∃m,nN RF P.inter P.qp=m:=⟨_,rfl⟩
   have eL:ou l P.inter P.qp r = [m]:=by unfold ou;rw[if_pos h0,hm]
   have ec:H8 l.length = .exact 1:=if_pos h0
   have eo:F8 l.length=false:=if_pos h0
   rw[hr,eL,ec,eo,et,eq]
   repeat' (first
    |(refine qz ?_;first
     |refine bS (zs:=r6 Pk) (hz:=D1) ?_
     |refine cl ?_ (hi:=by exact I5 EU hpq hm rfl)
     |refine oR (enc:=mC) (a:=m) ?_
     |refine ld (c := .int .i64 G.cols) ?_
     |refine ld (c := .int .i64 G.rows) ?_
     |refine fG ?_ (hle:=by rw[br])
     |refine kj (cs:=f6 G) ?_ (hs1:=by rw[br]) (hs2:=by rw[br])
     |refine kj (cs:=gV P) ?_)
    |refine zz ?_|refine zx (fun _=>?_) (fun _=>?_)|fail)
   show aC _ _ _ _ _ _ _ _;refine kV [0,6] ?_ (hr:=ib.two rfl (.cell rfl rfl (cg hlen) (.cell rfl rfl (cg rfl) (.tmp rfl (.tmp rfl .nil))))) (hok:=rM G P F _ 1 _ (show 1<2 from Nat.lt_succ_self 1))
   rw[pL];rfl
  ·have hne:t.2.1.length≠0:=by omega
   have hne2:fl mC t.2.1≠[]:=AS (fun e=>hne (by rw[e];rfl))
   have eL:ou l P.inter P.qp r=t.2.1:=by unfold ou;rw[if_neg h0,hN,<-e0,hrun]
   have ec:H8 l.length = .toEnd 391:=if_neg h0
   have eo:F8 l.length=true:=if_neg h0
   rw[hr,eL,ec,eo,fb hne2,l6 hne]
   by_cases h1:t.1<l.length
   ·repeat' (first
     |(refine qz ?_;first
      |refine tR (zs:=r6 Pk) (hz:=D1) ?_
      |refine sL (enc:=r6) ?_
      |refine kj (cs:=r6 (l.getD (t.1:Int).toNat default)) ?_
      |refine ld (c := .int .i64 G.cols) ?_
      |refine ld (c := .int .i64 G.rows) ?_
      |refine fG ?_ (hle:=by rw[br])
      |refine kj (cs:=f6 G) ?_ (hs1:=by rw[br]) (hs2:=by rw[br])
      |refine kj (cs:=gV P) ?_)
     |refine zz ?_|refine zx (fun _=>?_) (fun _=>?_)|fail)
    all_goals first|(exfalso;omega)|skip
    all_goals (show aC _ _ _ _ _ _ _ _;refine kV [0,5] ?_ (hr:=ib.two rfl (.cell rfl rfl (cg hlen) (.cell rfl rfl (cg rfl) (.tmp rfl (.tmp rfl .nil))))) (hok:=rM G P F _ 1 _ (show 1<2 from Nat.lt_succ_self 1)))
    all_goals (rw[pL];rfl)
   ·repeat' (first
     |(refine qz ?_;first
      |refine ld (c := .int .i64 G.cols) ?_
      |refine ld (c := .int .i64 G.rows) ?_
      |refine fG ?_ (hle:=by rw[br])
      |refine kj (cs:=f6 G) ?_ (hs1:=by rw[br]) (hs2:=by rw[br])
      |refine kj (cs:=gV P) ?_)
     |refine zz ?_|refine zx (fun _=>?_) (fun _=>?_)|fail)
    show aC _ _ _ _ _ _ _ _;refine kV [0,5] ?_ (hr:=ib.two rfl (.cell rfl rfl (cg hlen) (.cell rfl rfl (cg rfl) (.tmp rfl (.tmp rfl .nil))))) (hok:=rM G P F _ 1 _ (show 1<2 from Nat.lt_succ_self 1))
    rw[pL];rfl
theorem x5{first:Int}{k:Nat}{m:Mb}{x y:PS}(h:kh first k m x = .inr y):dC m x.S.inter x.S.qp=0/\∃z,hJ x.S x.B x.w m (first+(k:Nat))=some z/\y=⟨z.1,z.2.1,z.2.2⟩:=by
 unfold kh at h
 split at h
 ·cases h
 ·rename_i hc
  refine⟨Decidable.byContradiction fun g=>hc g,?_⟩
  split at h
  ·cases h
  ·rename_i z hz
   exact⟨z,hz,(Sum.inr.inj h).symm⟩
theorem qS{l:List Mb}{first:Int}{x0:PS}{k:Nat}{y:PS}(h:gd l first x0 (k+1) = .inr y):∃x,gd l first x0 k = .inr x/\kh first k (l.getD k default) x = .inr y:=by
 rw[gd]at h
 split at h
 ·cases h
 ·rename_i x hx
  exact⟨x,hx,h⟩
theorem vG{l:List Mb}{first:Int}{x0:PS}{n:Nat}{y:PS}(h:gd l first x0 n = .inr y):∀k,k<=n->∃x,gd l first x0 k = .inr x:=by
 intro k hk
 cases hx:gd l first x0 k with
 | inr x=>exact⟨x,rfl⟩
 | inl e=>
   have:=lA hx n hk
   rw[h]at this
   cases this
theorem Db{h:Hd}{p:Ph}{l:List Mb}{first:Int}(hT:gp h p l first){k:Nat}(hk:k<l.length):iK (l.getD k default):=by
 rw[List.getD_eq_getElem?_getD,List.getElem?_eq_getElem hk,Option.getD_some]
 exact hT.mok _ (List.getElem_mem hk)
theorem vH{h:Hd}{p:Ph}{l:List Mb}{first:Int}(hT:gp h p l first):∀k,k<=l.length->∀x,gd l first (qT h p) k = .inr x->yN p.inter h.cols h.rows k x:=by
 intro k
 induction k with
 | zero=>intro _ x hx;cases hx;exact Br hT.hd hT.ph
 | succ k ih=>
   intro hk x hx
   obtain⟨y,hy,hs⟩:=qS hx
   exact mU (ih (by omega) y hy) (Db hT (by omega)) hs
theorem x4{h:Hd}{p:Ph}{l:List Mb}{first:Int}(hT:gp h p l first){k:Nat}(hk:k<l.length){x y:PS}(hx:gd l first (qT h p) k = .inr x)(hy:gd l first (qT h p) (k+1) = .inr y):x.B <+: y.B/\x.B.length<y.B.length:=by
 have hi:=vH hT k (by omega) x hx
 have hm:=Db hT hk
 obtain⟨x',hx',hs⟩:=qS hy
 obtain rfl:x=x':=by rw[hx]at hx';exact Sum.inr.inj hx'
 obtain⟨hc,z,hz,rfl⟩:=x5 hs
 have hk2:=x8 hi.st hm (mJ hm hc) hz
 have hn:0<(az x.S (l.getD k default)).length:=by
  unfold az
  rw[List.length_append]
  split
  ·have hf:=(mJ hm hc).kind
   have:∀n:Fin 5,0<(c9 cM n.val).length:=by decide +kernel
   have:=this ⟨(l.getD k default).kind.toNat,by omega⟩
   simp only at this
   omega
  ·simp only[List.length_cons,List.length_nil];omega
 refine⟨(List.prefix_append _ _).trans hk2.pre,?_⟩
 have:=hk2.pre.length_le
 rw[List.length_append]at this
 show x.B.length<z.2.1.length
 omega
theorem Jw{h:Hd}{p:Ph}{l:List Mb}{first:Int}(hT:gp h p l first){k:Nat}{x:PS}(hx:gd l first (qT h p) k = .inr x):∀n,k<=n->n<=l.length->∀y,gd l first (qT h p) n = .inr y->x.B <+: y.B/\(k<n->x.B.length<y.B.length):=by
 intro n hn
 induction hn with
 | refl=>
   intro _ y hy
   rw[hx]at hy
   cases hy
   exact⟨List.prefix_refl _,fun g=>absurd g (Nat.lt_irrefl _)⟩
 | @step n hkn ih=>
   intro hl y hy
   obtain⟨w,hw⟩:=vG hy n (Nat.le_succ _)
   have h1:=ih (by omega) w hw
   have h2:=x4 hT (by omega) hw hy
   exact⟨h1.1.trans h2.1,fun _=>by have:=h1.1.length_le;omega⟩
noncomputable def Rx(l:List Mb)(first:Int)(x0:PS)(i j:Nat):List Ev:=
 match gd l first x0 i with
 | .inr x=>tS x.S x.B (l.getD i default) (first+(i:Nat)) j
 | .inl _=>[]
structure Cs(l:List Mb)(ft:Int)(x0:PS)(k:Nat)(x:PS)(t:TA):Prop where
 rel:Rel x.S t.S
 r:t.r=(x.B.length,false)
 len:t.out.length=k
 outs:∀i,i<k->∃o,t.out[i]? = some o/\xp (l.getD i default) o.1/\∀j,j<6->o.2 j=decide (0<(Rx l ft x0 i j).length)
theorem rel_refl(S:bm):Rel S S:=⟨rfl,rfl,rfl,rfl,fun _=>rfl,fun _=>rfl,fun _=>rfl,fun _=>rfl⟩
theorem M6{h:Hd}{p:Ph}{l:List Mb}{first:Int}(hT:gp h p l first){B:List Bool}:∀k,k<=l.length->∀x,gd l first (qT h p) k = .inr x->x.B <+: B->∃t,(∀j,fI B first (k+j) ⟨dQ h p,(0,false),[]⟩=fI B first j t)/\Cs l first (qT h p) k x t:=by
 intro k
 induction k with
 | zero=>
   intro _ x hx hp
   cases hx
   exact⟨⟨dQ h p,(0,false),[]⟩,fun j=>by rw[Nat.zero_add],rel_refl _,rfl,rfl,fun i hi=>absurd hi (Nat.not_lt_zero _)⟩
 | succ k ih=>
   intro hk y hy hp
   obtain⟨x,hx,hs⟩:=qS hy
   have hpre:=(x4 hT (by omega) hx hy).1
   obtain⟨t,ht,hb⟩:=ih (by omega) x hx (hpre.trans hp)
   have hi:=vH hT k (by omega) x hx
   have hm:=Db hT (k:=k) (by omega)
   obtain⟨hc,z,hz,rfl⟩:=x5 hs
   have hf:=mJ hm hc
   have hmb:first+(t.out.length:Nat)=first+(k:Nat):=by rw[hb.len]
   have hz':hJ x.S x.B x.w (l.getD k default) (first+(k:Nat))=some (z.1,z.2.1,z.2.2):=hz
   obtain⟨b1,b2,b3,b4⟩:=yn hb.rel hi.st.tiny (rG hm hf) hf hz' hp
   refine⟨iU B first t,fun j=>?_,?_,?_,?_,?_⟩
   ·rw[show k+1+j=k+(j+1) by omega,ht (j+1),fI,if_neg (by rw[hb.r];exact Bool.false_ne_true)]
   ·show Rel z.1 (b_ t.S B (first+(t.out.length:Nat)) t.r).1.S
    rw[hmb,hb.r];exact b2
   ·show(b_ t.S B (first+(t.out.length:Nat)) t.r).1.r=_
    rw[hmb,hb.r];exact b1
   ·show(t.out++[_]).length=k+1
    rw[List.length_append,hb.len];rfl
   ·intro i hi'
    show ∃o,(t.out++[((b_ t.S B (first+(t.out.length:Nat)) t.r).1.m,(b_ t.S B (first+(t.out.length:Nat)) t.r).2)])[i]? = some o/\_
    by_cases h1:i<k
    ·obtain⟨o,ho,h2⟩:=hb.outs i h1
     exact⟨o,by rw[List.getElem?_append_left (by rw[hb.len];exact h1)];exact ho,h2⟩
    ·obtain rfl:i=k:=by omega
     refine⟨_,by rw[List.getElem?_append_right (by rw[hb.len];exact Nat.le_refl _),hb.len,Nat.sub_self];rfl,?_,?_⟩
     ·show xp _ (b_ t.S B (first+(i:Nat)) t.r).1.m
      rw[hb.r];exact b3
     ·intro j hj
      show(b_ t.S B (first+(i:Nat)) t.r).2 j=_
      rw[hb.r,b4 j hj]
      unfold Rx
      rw[hx]
theorem GP{h:Hd}{p:Ph}{l:List Mb}{first:Int}(hT:gp h p l first){x:PS}(hx:gd l first (qT h p) l.length = .inr x){n:Nat}(hn:n<=l.length) :
 ∃t y,fI x.B first n ⟨dQ h p,(0,false),[]⟩=t/\gd l first (qT h p) n = .inr y/\Cs l first (qT h p) n y t/\ky x.B t.r=if n<l.length then 13 else 0:=by
 obtain⟨y,hy⟩:=vG hx n hn
 have hp:=Jw hT hy l.length hn (Nat.le_refl _) x hx
 obtain⟨t,ht,hb⟩:=M6 hT n hn y hy hp.1
 have ht0:=ht 0
 rw[Nat.add_zero]at ht0
 refine⟨t,y,ht0,hy,hb,?_⟩
 rw[hb.r]
 unfold ky
 by_cases hlt:n<l.length
 ·rw[if_pos hlt,if_neg Bool.false_ne_true,if_pos (hp.2 hlt)]
 ·have e:n=l.length:=by omega
  rw[e,hx]at hy
  cases hy
  rw[if_neg hlt,if_neg Bool.false_ne_true,if_neg (Nat.lt_irrefl _)]
abbrev eG(K:Nat):aj:=[bM (K+1) (K+5) (K+9),aw (K+2) (K+3) (K+4) cM,aR cM,aT cM,aS cM,aw (K+6) (K+7) (K+8) cZ,aR cZ,aT cZ,aS cZ,aw (K+10) (K+11) (K+12) cP,aR cP,aT cP,aS cP]
abbrev kW(K:Nat)(r:List Nat):List Nat:=K::(K+1)::(K+2)::(K+3)::(K+4)::(K+5)::(K+6)::(K+7)::(K+8)::(K+9)::(K+10)::(K+11)::(K+12)::r
theorem vo(K:Nat)(r:List Nat):∀j,j<13->nth (kW K r) j=K+j:=fun j hj=>by
 match j,hj with
 | 0,_=>rfl
 | 1,_=>rfl
 | 2,_=>rfl
 | 3,_=>rfl
 | 4,_=>rfl
 | 5,_=>rfl
 | 6,_=>rfl
 | 7,_=>rfl
 | 8,_=>rfl
 | 9,_=>rfl
 | 10,_=>rfl
 | 11,_=>rfl
 | 12,_=>rfl
theorem zc{HS:aj}{K:Nat}(hS:(HS.drop K).take 13=eG K){τ : Nat->Nat}(h:∀j,j<13 -> τ j=K+j){ls:List Nat}{l:aj}(hl:ae τ HS ls l):ae τ HS (kW K ls) (dU++l):=by
 have g:∀j,j<13->HS[K+j]? = (eG K)[j]?:=fun j hj=>by rw[<-hS,List.getElem?_take_of_lt hj,List.getElem?_drop]
 have g0:HS[K]? = some (bM (K+1) (K+5) (K+9)):=g 0 (by decide)
 have h1:=h 1 (by decide)
 have h2:=h 2 (by decide)
 have h3:=h 3 (by decide)
 have h4:=h 4 (by decide)
 have h5:=h 5 (by decide)
 have h6:=h 6 (by decide)
 have h7:=h 7 (by decide)
 have h8:=h 8 (by decide)
 have h9:=h 9 (by decide)
 have h10:=h 10 (by decide)
 have h11:=h 11 (by decide)
 have h12:=h 12 (by decide)
 refine .cons ?_ (.cons ?_ (.flat (g 2 (by decide)) (.flat (g 3 (by decide)) (.flat (g 4 (by decide)) (.cons ?_ (.flat (g 6 (by decide)) (.flat (g 7 (by decide)) (.flat (g 8 (by decide)) (.cons ?_ (.flat (g 10 (by decide)) (.flat (g 11 (by decide)) (.flat (g 12 (by decide)) hl))))))))))))
 ·rw[g0]
  simp only[ak.ay,List.map_cons,List.map_nil,XC.ay,h1,h5,h9]
 ·rw[g 1 (by decide)]
  simp only[ak.ay,List.map_cons,List.map_nil,XC.ay,h2,h3,h4];rfl
 ·rw[g 5 (by decide)]
  simp only[ak.ay,List.map_cons,List.map_nil,XC.ay,h6,h7,h8];rfl
 ·rw[g 9 (by decide)]
  simp only[ak.ay,List.map_cons,List.map_nil,XC.ay,h10,h11,h12];rfl
theorem t9{K:Nat}{τ : Nat->Nat}(h:∀j,j<13 -> τ j=K+j){l l':aj}(hl:dv τ l l'):dv τ (dU++l) (eG K++l'):=by
 have h1:=h 1 (by decide)
 have h2:=h 2 (by decide)
 have h3:=h 3 (by decide)
 have h4:=h 4 (by decide)
 have h5:=h 5 (by decide)
 have h6:=h 6 (by decide)
 have h7:=h 7 (by decide)
 have h8:=h 8 (by decide)
 have h9:=h 9 (by decide)
 have h10:=h 10 (by decide)
 have h11:=h 11 (by decide)
 have h12:=h 12 (by decide)
 refine .cons ?_ (.cons ?_ (.flat (.flat (.flat (.cons ?_ (.flat (.flat (.flat (.cons ?_ (.flat (.flat (.flat hl))))))))))))
 ·simp only[ak.ay,List.map_cons,List.map_nil,XC.ay,h1,h5,h9]
 ·simp only[ak.ay,List.map_cons,List.map_nil,XC.ay,h2,h3,h4]
 ·simp only[ak.ay,List.map_cons,List.map_nil,XC.ay,h6,h7,h8]
 ·simp only[ak.ay,List.map_cons,List.map_nil,XC.ay,h10,h11,h12]
theorem IL{HS:aj}{K i:Nat}(hS:(HS.drop K).take 13=eG K){ob:ak}(hi:HS[i]? = some ob){os:aj}:bK HS (kW K [i]) (eG K++ob::os)=HS++os:=by
 have g:∀j,j<13->HS[K+j]? = (eG K)[j]?:=fun j hj=>by rw[<-hS,List.getElem?_take_of_lt hj,List.getElem?_drop]
 have g0:HS[K]? = some (bM (K+1) (K+5) (K+9)):=g 0 (by decide)
 simp only[bK,eG,List.cons_append,List.nil_append]
 rw[aF g0,aF (g 1 (by decide)),aF (g 2 (by decide)),aF (g 3 (by decide)),aF (g 4 (by decide)),aF (g 5 (by decide)),aF (g 6 (by decide)),aF (g 7 (by decide)),aF (g 8 (by decide)),aF (g 9 (by decide)),aF (g 10 (by decide)),aF (g 11 (by decide)),aF (g 12 (by decide)),aF hi]
theorem pQ:∀(h1 l l':aj),d9 h1 h1=true->d9 l l'=true->d9 (h1++l) (h1++l')=true
 | [],l,l',_,h=>h
 | o::h1,l,l',h,h2=>by
   simp only[d9,Bool.and_eq_true,List.cons_append]at h ⊢
   exact⟨h.1,pQ h1 l l' h.2 h2⟩
theorem o9{f:FuncId}{args0 args:List XV}{v v':XV}{news news':aj}{ob:ak}[c8 ob](n:Nat)(hn:news.length=n)(hc:bh Tryz.prog f args0 (dU++[ob]) v (dU++ob::news)){HS:aj}{K i:Nat}(hS:(HS.drop K).take 13=eG K)(hi:HS[i]? = some ob)(hd:(kW K [i]).Nodup)(ha:fq 14 args0)(e1:dR (nth (kW K [i])) args0 args)(hv:v.b7 (14+n))(e2:v.ay (nth (kW K [i]++List.range' HS.length n))=v')
 (hnk:bc (14+n) news) (hr:dv (nth (kW K [i]++List.range' HS.length n)) news news') (hro:d9 [] news=true) {HS':aj}(hh:HS++news'=HS') (hbd:Nat.blt HS'.length Mem.bound=true):aG.Sound Tryz.prog ⟨f,args,HS,v',HS',kW K [i]⟩:=by
 have e0:∀j,j<13->nth (kW K [i]) j=K+j:=vo K [i]
 have e0':∀j,j<13->nth (kW K [i]++List.range' HS.length n) j=K+j:=vo K (i::List.range' HS.length n)
 have hln:(dU++ob::news).length=14+n:=by rw[List.length_append];show 13+(news.length+1)=_;omega
 refine bO (os:=eG K++ob::news') (kW K [i]) (kW K [i]) n hc hd (zc hS e0 (.flat hi .nil)) (nB (l:=[ob]) (Nat.le_succ 13) (.flat .nil)) (by rw[hln];exact nB (l:=ob::news) (by omega) (.flat hnk)) (by rw[hln];rfl) ha e1 (by rw[hln];exact hv) e2 (t9 e0' (.flat hr)) ?_ rfl (by rw[IL hS hi];exact hh) hbd (.inl rfl)
 refine pQ _ _ _ rfl ?_
 simp only[d9,Bool.and_eq_true]
 exact⟨by cases ob.live<;>simp,hro⟩
theorem Jb{HS:aj}{N:Nat}(hN:HS.length=N){HS':aj}(hh:HS++eG N=HS')(hbd:Nat.blt HS'.length Mem.bound=true) :
 aG.Sound Tryz.prog ⟨10,[],HS,.one (.ptr N 0),HS',[]⟩:=by
 subst hN
 have e:List.range' HS.length 13=kW HS.length []:=rfl
 have h:=t9 (K:=HS.length) (τ:=nth (kW HS.length [])) (vo _ []) (l:=[]) (l':=[]) .nil
 refine bO (os:=eG HS.length) [] [] 13 Mn (by simp) .nil .nil (nB (l:=[]) (Nat.le_refl _) .nil) rfl .nil .nil (by show 0<13;omega) rfl (by rw[List.nil_append,e];exact h) rfl rfl hh hbd (.inl rfl)
noncomputable def qf(h:Hd)(p:Ph)(l:List Mb)(first:Int):Int ⊕ (List Int×List Int):=
 match gd l first (qT h p) l.length with
 | .inl e => .inl e
 | .inr x=>if 30000<(gS (wr (x.B++[true])) (wr (x.B++[true])).length).1.length\/30000<(gS (wr (x.w++[true])) (wr (x.w++[true])).length).1.length then .inl 6 else .inr ((gS (wr (x.B++[true])) (wr (x.B++[true])).length).1,(gS (wr (x.w++[true])) (wr (x.w++[true])).length).1)
theorem Mv{h:Hd}{p:Ph}{l:List Mb}{first:Int}(hT:gp h p l first){cap:tO}{ob:ak}(ho:uy ob mC l){e:Int}(hp:qf h p l first = .inl e){n:Nat}(hln:l.length=n){HS:aj}{K i:Nat}(hS:(HS.drop K).take 13=eG K)(hi:HS[i]? = some ob)(hd:(kW K [i]).Nodup)(hbd:Nat.blt HS.length Mem.bound=true) :
 aG.Sound Tryz.prog ⟨11,[.one (.ptr K 0),.agg (f6 h),.agg (gV p),.one (.int .i64 first),.one (.slice i 0 n cap)],HS,.tup [.one .nils,.one .nils,.one (.int .i64 e)],HS,kW K [i]⟩:=by
 subst hln
 have hfo:=ho.flat
 have hc:bh Tryz.prog 11 [.one (.ptr 0 0),.agg (f6 h),.agg (gV p),.one (.int .i64 first),.one (.slice 13 0 l.length cap)] (dU++[ob]) (.tup [.one .nils,.one .nils,.one (.int .i64 e)]) (dU++ob::[]):=by
  unfold qf at hp
  split at hp
  ·rename_i e' he
   cases hp
   exact Ii hT ho he
  ·rename_i x hx
   split at hp
   ·rename_i hl
    cases hp
    exact Ig hT ho hx rfl rfl hl
   ·cases hp
 exact o9 0 rfl hc hS hi hd (.cons (by show 0<14;omega) (.flat (.flat (.flat (.cons (by show 13<14;omega) .nil))))) (.cons rfl (.flat (.flat (.flat (.cons rfl .nil))))) (XV.e9 rfl _) rfl .nil .nil rfl (List.append_nil HS) hbd
theorem zo{h:Hd}{p:Ph}{l:List Mb}{first:Int}(hT:gp h p l first){cap:tO}{ob:ak}(ho:uy ob mC l){a b:List Int}(hp:qf h p l first = .inr (a,b)){n:Nat}(hln:l.length=n){HS:aj}{K i:Nat}(hS:(HS.drop K).take 13=eG K)(hi:HS[i]? = some ob)(hd:(kW K [i]).Nodup){N:Nat}(hN:HS.length=N){HS':aj}(hh:HS++[cE 5 (il .u8 a),cE 5 (il .u8 b)]=HS')(hbd:Nat.blt HS'.length Mem.bound=true) :
 aG.Sound Tryz.prog ⟨11,[.one (.ptr K 0),.agg (f6 h),.agg (gV p),.one (.int .i64 first),.one (.slice i 0 n cap)],HS,.tup [.one (fD N a.length 1),.one (fD (N+1) b.length 1),.one (.int .i64 0)],HS',kW K [i]⟩:=by
 subst hln hN
 have hfo:=ho.flat
 have hc:bh Tryz.prog 11 [.one (.ptr 0 0),.agg (f6 h),.agg (gV p),.one (.int .i64 first),.one (.slice 13 0 l.length cap)] (dU++[ob]) (.tup [.one (fD 14 a.length 1),.one (fD 15 b.length 1),.one (.int .i64 0)]) (dU++ob::[cE 5 (il .u8 a),cE 5 (il .u8 b)]):=by
  unfold qf at hp
  split at hp
  ·cases hp
  ·rename_i x hx
   split at hp
   ·cases hp
   ·rename_i hl
    cases hp
    exact LB hT ho hx rfl rfl (by omega) (by omega)
 refine o9 2 rfl hc hS hi hd (.cons (by show 0<14;omega) (.flat (.flat (.flat (.cons (by show 13<14;omega) .nil))))) (.cons rfl (.flat (.flat (.flat (.cons rfl .nil))))) ?_ ?_ (.flat (.flat .nil)) (.flat (.flat .nil)) ?_ hh hbd
 ·intro x hx
  simp only[List.mem_cons,List.not_mem_nil,or_false]at hx
  rcases hx with rfl|rfl|rfl
  ·exact aZ (by omega)
  ·exact aZ (by omega)
  ·trivial
 ·simp only[XV.ay,List.map_cons,List.map_nil,X1.ay,aB];rfl
 ·cases il .u8 a<;>cases il .u8 b<;>rfl
theorem GB(h:Hd)(p:Ph)(f:Int)(c:XC)(τ : Nat->Nat):(gI h p f c).map (·.ay τ)=gI h p f (c.ay τ):=by
 unfold gI
 rw[List.map_append]
 have e1:(f6 h).map (·.ay τ)=f6 h:=fu (jk h) τ
 rw[e1]
 rfl
theorem BL(h:Hd)(p:Ph)(f:Int){c:XC}{n:Nat}(hc:c.ok n):∀x∈gI h p f c,x.ok n:=fun x hx=>by
 unfold gI at hx
 rcases List.mem_append.1 hx with hx|hx
 ·exact XC.bV (List.all_eq_true.1 (jk h) x hx) n
 ·simp only[gV,List.cons_append,List.nil_append,List.mem_cons,List.not_mem_nil,or_false]at hx
  rcases hx with rfl|rfl|rfl|rfl|rfl|rfl
  ·trivial
  ·trivial
  ·trivial
  ·trivial
  ·trivial
  ·exact hc
theorem Mi{h:Hd}{p:Ph}(hh1:tj h)(hp:qi p){f:Int}(hf:0<=f/\f<=255){l:List Sm}(hl:∀j,j<l.length->kE (l.getD j default)){ob:ak}(ho:uy ob r6 l){c:XC}{i:Nat}(hc:cY c i 0 l.length)(hn:l.length<=9223372036854775807){G:Hd}(hG:four h=G){P:Ph}(hP:qL p=P){F:Int}(hF:fz h f=F){L:List Mb}(hL:jP h p f l=L){cap:tO}(hcap:H8 l.length=cap){opn:Bool}(hopn:F8 l.length=opn){k:Nat}(hk:L.length=k)
 {HS:aj}(hi:HS[i]? = some ob) {N:Nat}(hN:HS.length=N) {HS':aj}(hh:HS++[.cells (fl mC L) 53 opn false]=HS') (hbd:Nat.blt HS'.length Mem.bound=true) :
 aG.Sound Tryz.prog ⟨9,[.agg (gI h p f c)],HS,.tup [.agg (f6 G),.agg (gV P),.one (.int .i64 F),.one (.slice N 0 k cap)],HS',[i]⟩:=by
 subst hk hopn hcap hL hF hP hG hN
 have hfo:=ho.flat
 obtain⟨c0,hc0,hcr⟩:=hc.oP 0 (nth [i]) rfl
 refine bO (os:=[ob,.cells (fl mC (jP h p f l)) 53 (F8 l.length) false]) [i] [i] 1 (I7 hh1 hp hf l hl ob ho c0 hc0 hn) (by simp) (.flat hi .nil) (.flat .nil) (.flat (.flat .nil)) rfl (.cons ?_ .nil) (.cons ?_ .nil) (rM _ _ _ _ 1 _ (show 1<2 by omega)) ?_ (.flat (.flat .nil)) ?_ rfl ?_ hbd (.inl rfl)
 ·exact BL h p f (hc0.ok (by show 0<1;omega))
 ·show XV.agg ((gI h p f c0).map (·.ay (nth [i])))=_
  rw[GB,hcr]
 ·rw[pL];rfl
 ·simp only[d9,Bool.and_eq_true]
  exact⟨by cases ob.live<;>simp,by simp[ak.live,ak.own]⟩
 ·simp only[bK];rw[aF hi];exact hh
end Go.Proofs.YtagpkhindehcbaaGreat
namespace Go.Proofs.YtagpkhindehcbaaGreat
open Go.Xm
theorem Jl:∀i j:Fin 64,oG 0 i.val=oG 0 j.val->i=j:=by decide +kernel
theorem Jm:∀i j:Fin 64,oG 1 i.val=oG 1 j.val->i=j:=by decide +kernel
theorem Jn:∀i j:Fin 64,oG 2 i.val=oG 2 j.val->i=j:=by decide +kernel
theorem EC{o:Int}(h:o=0\/o=1\/o=2){i j:Nat}(hi:i<64)(hj:j<64)(he:oG o i=oG o j):i=j:=by
 rcases h with rfl|rfl|rfl
 ·exact congrArg Fin.val (Jl ⟨i,hi⟩ ⟨j,hj⟩ he)
 ·exact congrArg Fin.val (Jm ⟨i,hi⟩ ⟨j,hj⟩ he)
 ·exact congrArg Fin.val (Jn ⟨i,hi⟩ ⟨j,hj⟩ he)
theorem Jr:∀i:Fin 64,∃j:Fin 64,oG 0 j.val=i.val:=by decide +kernel
theorem Js:∀i:Fin 64,∃j:Fin 64,oG 1 j.val=i.val:=by decide +kernel
theorem Jt:∀i:Fin 64,∃j:Fin 64,oG 2 j.val=i.val:=by decide +kernel
theorem EE{o:Int}(h:o=0\/o=1\/o=2){i:Nat}(hi:i<64):∃j,j<64/\oG o j=(i:Nat):=by
 rcases h with rfl|rfl|rfl
 ·obtain⟨j,hj⟩:=Jr ⟨i,hi⟩;exact⟨j.val,j.isLt,hj⟩
 ·obtain⟨j,hj⟩:=Js ⟨i,hi⟩;exact⟨j.val,j.isLt,hj⟩
 ·obtain⟨j,hj⟩:=Jt ⟨i,hi⟩;exact⟨j.val,j.isLt,hj⟩
theorem Bs{o:Int}(h:o=0\/o=1\/o=2):oG o 0=0:=by
 rcases h with rfl|rfl|rfl<;>rfl
theorem zI{o:Int}(h:o=0\/o=1\/o=2)(f:Nat->Int):∀n,n<=64->∀j,j<n->Hz o f n (oG o j).toNat=f j
 | 0,_,j,hj=>absurd hj (Nat.not_lt_zero _)
 | n + 1,hn,j,hj=>by
   show cw (Hz o f n) (oG o n).toNat (f n) (oG o j).toNat=f j
   have h1:=kP h (i:=n) (by omega)
   have h2:=kP h (i:=j) (by omega)
   unfold cw
   by_cases hjn:j=n
   ·subst hjn;rw[if_pos rfl]
   ·rw[if_neg (fun e=>hjn (EC h (by omega) (by omega) (by omega)))]
    exact zI h f n (by omega) j (by omega)
theorem sX{o:Int}(h:o=0\/o=1\/o=2){f r:Nat->Int}(hf:∀i,i<64->f i=hU o r i){i:Nat}(hi:i<64):dc o f i=r i:=by
 obtain⟨j,hj,he⟩:=EE h hi
 have:=zI h f 64 (Nat.le_refl _) j hj
 rw[he,Int.toNat_natCast]at this
 show Hz o f 64 i=r i
 rw[this,hf j hj]
 unfold hU
 rw[he,Int.toNat_natCast]
def bk:List Ev->Int->(Nat->Int)->Option (Nat->Int)
 | [],_,g=>some g
 | e::l,at_,g=>if 63<at_+e.1 then none else bk l (at_+e.1+1) (cw g (at_+e.1).toNat e.2.1)
theorem uD(l:List Ev)(st:Int):∀j,j<=l.length->(eZ l st j).bind (fun x=>bk (l.drop j) x.1 x.2)=bk l st fun _=>0
 | 0,_=>rfl
 | j + 1,hj=>by
   rw[<-uD l st j (by omega)]
   show((eZ l st j).bind _).bind _=_
   cases hr:eZ l st j with
   | none=>rfl
   | some x=>
     have hd:l.drop j=l.getD j default::l.drop (j+1):=by
      rw[List.drop_eq_getElem_cons (by omega),List.getD_eq_getElem?_getD,List.getElem?_eq_getElem (by omega)];rfl
     rw[hd]
     show Option.bind (if 63<x.1+(l.getD j default).1 then none else some _) _=bk (_::_) x.1 x.2
     rw[bk]
     split<;>rfl
theorem Aw(l:List Ev)(st:Int):iY l st=bk l st fun _=>0:=by
 rw[<-uD l st l.length (Nat.le_refl _),List.drop_length]
 unfold iY
 cases eZ l st l.length<;>rfl
theorem Eb:∀(l:List Ev) (st:Int) (g:Nat->Int),bk (iP l) st g=bk l st g
 | [],_,_=>rfl
 | [e],_,_=>rfl
 | e::e2::l,st,g=>by
   rw[iP,bk,bk]
   split
   ·rfl
   ·exact Eb (e2::l) _ _
theorem uH(f:Nat->Int):∀(n i:Nat) (run:Int) (g:Nat->Int),i+n=64->0<=run->bk (eD f n i run) ((i:Int)-run) g=some fun j=>if i<=j/\j<64/\f j≠0 then f j else g j
 | 0,i,run,g,h,_=>by
   rw[eD,bk]
   congr 1
   funext j
   rw[if_neg (by omega)]
 | n + 1,i,run,g,h,hr=>by
   rw[eD]
   by_cases hz:f i=0
   ·rw[if_pos hz]
    have:=uH f n (i+1) (run+1) g (by omega) (by omega)
    rw[show((i+1:Nat):Int)-(run+1)=(i:Int)-run by omega]at this
    rw[this]
    congr 1
    funext j
    by_cases hj:j=i
    ·subst hj;rw[if_neg (by omega),if_neg (by rw[hz];simp)]
    ·by_cases h1:i+1<=j/\j<64/\f j≠0
     ·rw[if_pos h1,if_pos ⟨by omega,h1.2⟩]
     ·rw[if_neg h1,if_neg (fun h2=>h1 ⟨by omega,h2.2⟩)]
   ·rw[if_neg hz,bk]
    have h63:¬63<(i:Int)-run+run:=by omega
    show(if 63<(i:Int)-run+run then none else _)=_
    rw[if_neg h63]
    have:=uH f n (i+1) 0 (cw g i (f i)) (by omega) (by omega)
    rw[show((i+1:Nat):Int)-0=(i:Int)-run+run+1 by omega]at this
    show bk _ ((i:Int)-run+run+1) (cw g ((i:Int)-run+run).toNat (f i))=_
    rw[show((i:Int)-run+run).toNat=i by omega,this]
    congr 1
    funext j
    by_cases hj:j=i
    ·subst hj
     rw[if_neg (by omega),if_pos ⟨Nat.le_refl _,by omega,hz⟩]
     unfold cw;rw[if_pos rfl]
    ·have hu:cw g i (f i) j=g j:=by unfold cw;rw[if_neg hj]
     rw[hu]
     by_cases h1:i+1<=j/\j<64/\f j≠0
     ·rw[if_pos h1,if_pos ⟨by omega,h1.2⟩]
     ·rw[if_neg h1,if_neg (fun h2=>h1 ⟨by omega,h2.2⟩)]
theorem yc{f:Nat->Int}{st:Nat}(hst:st<=64):iY (dS f st) (st:Nat)=some fun j=>if st<=j/\j<64/\f j≠0 then f j else 0:=by
 rw[Aw]
 unfold dS
 rw[Eb]
 have:=uH f (64-st) st 0 (fun _=>0) (by omega) (Int.le_refl _)
 rw[Int.sub_zero]at this
 exact this
theorem yb{f:Nat->Int}:∀(n i:Nat) (run:Int),eD f n i run = []->∀j,i<=j->j<i+n->f j=0
 | 0,i,run,_,j,h1,h2=>by omega
 | n + 1,i,run,h,j,h1,h2=>by
   rw[eD]at h
   split at h
   ·rename_i hz
    by_cases hj:j=i
    ·rw[hj];exact hz
    ·exact yb n (i+1) _ h j (by omega) (by omega)
   ·cases h
variable [ax]
theorem JO{f:Nat->Int}{st:Nat}(hst:st<=64)(h:dS f st = []):∀j,st<=j->j<64->f j=0:=by
 have h0:eD f (64-st) st 0 = []:=by
  unfold dS at h
  have:=congrArg List.length h
  rw[iQ]at this
  exact List.length_eq_zero_iff.1 this
 intro j h1 h2
 exact yb _ _ _ h0 j h1 (by omega)
def kf(b:Kn):Int×(Nat->Int):=(b.qp,fun i=>if i<64 then b.lv i else 0)
def Ap(T U:oJ):Prop:=∀k,(cH U k).map kf=(cH T k).map kf
structure kH(S R:bm):Prop where
 cols:R.cols=S.cols
 rows:R.rows=S.rows
 a:Ap S.A R.A
 b:Ap S.B R.B
 c:Ap S.C R.C
theorem xM{x y:Option Kn}(h:x.map kf=y.map kf):x.map kq=y.map kq:=by
 cases x with
 | none=>cases y with
   | none=>rfl
   | some b=>cases h
 | some a=>cases y with
   | none=>cases h
   | some b=>
     have h1:=Option.some.inj h
     have h2:=congrFun (congrArg Prod.snd h1) 0
     have h3:a.qp=b.qp:=congrArg Prod.fst h1
     have h4:a.lv 0=b.lv 0:=h2
     show some (a.lv 0,a.qp)=some (b.lv 0,b.qp)
     rw[h3,h4]
theorem l4{S R:bm}(h:kH S R)(mb k dx dy:Int):(zh R mb k dx dy).map kf=(zh S mb k dx dy).map kf:=by
 unfold zh dt cI
 rw[h.cols]
 split
 ·rfl
 ·unfold bU
  split
  ·exact h.a _
  ·split
   ·exact h.b _
   ·exact h.c _
theorem yp{S R:bm}(h:kH S R)(mb k q:Int):a_ R mb k q=a_ S mb k q:=y5 (xM (l4 h ..)) (xM (l4 h ..)) (xM (l4 h ..))
theorem AI{a b:Kn}(h:∀i,i<64->a.lv i=b.lv i){s:Nat}(hs:s<=8):∀n,n<=7->em a s n=em b s n
 | 0,_=>rfl
 | n+1,hn=>by
   have h1:(n+1)*s<=7*8:=Nat.mul_le_mul (by omega) hs
   rw[nD,nD,AI h hs n (by omega),h _ (by omega)]
theorem xD{x y:Option Kn}(h:x.map kf=y.map kf){s:Nat}(hs:s<=8)(q:Int):fv x s q=fv y s q:=by
 cases x with
 | none=>cases y with
   | none=>rfl
   | some b=>cases h
 | some a=>cases y with
   | none=>cases h
   | some b=>
     have h1:=Option.some.inj h
     have h3:a.qp=b.qp:=congrArg Prod.fst h1
     have h4:∀i,i<64->a.lv i=b.lv i:=fun i hi=>by
      have:=congrFun (congrArg Prod.snd h1) i
      dsimp only [kf]at this
      rwa [if_pos hi,if_pos hi]at this
     unfold fv
     dsimp only
     rw[h3,AI h4 hs 7 (Nat.le_refl _)]
theorem vY{S R:bm}(h:kH S R)(mb k q:Int):cq R mb k q=cq S mb k q:=by
 unfold cq uQ
 rw[y5 (xM (l4 h mb k 1 0)) (xM (l4 h mb k 0 1)) (xM (l4 h mb k 1 1)),xD (l4 h mb k 1 0) (Nat.le_refl _),xD (l4 h mb k 0 1) (by omega)]
theorem v7{p q:Int}{T U:oJ}(h:Ap T U){key:Int}{b c:Kn}(hb:kf c=kf b):Ap (jt p q T key b) (jt p q U key c):=by
 unfold jt
 split
 ·intro k
  rw[f9,f9]
  split
  ·exact congrArg some hb
  ·exact h k
 ·exact h
theorem pW{S R:bm}(h:kH S R)(mb k:Int){b c:Kn}(hb:kf c=kf b):kH (bu S mb k b) (bu R mb k c):=by
 have e:mz R mb k=mz S mb k:=by unfold mz;rw[h.cols]
 refine⟨h.cols,h.rows,?_,?_,?_⟩
 ·show Ap (jt (placeOf S.cols mb k).1 0 S.A (mz S mb k) b) (jt (placeOf R.cols mb k).1 0 R.A (mz R mb k) c)
  rw[e,h.cols];exact v7 h.a hb
 ·show Ap (jt (placeOf S.cols mb k).1 1 S.B (mz S mb k) b) (jt (placeOf R.cols mb k).1 1 R.B (mz R mb k) c)
  rw[e,h.cols];exact v7 h.b hb
 ·show Ap (jt (placeOf S.cols mb k).1 2 S.C (mz S mb k) b) (jt (placeOf R.cols mb k).1 2 R.C (mz R mb k) c)
  rw[e,h.cols];exact v7 h.c hb
theorem Eh(b:Kn){s:Nat}(hs:1<=s):∀n,em b s n 0=0
 | 0=>rfl
 | n+1=>by
   have h1:1*1<=(n+1)*s:=Nat.mul_le_mul (by omega) hs
   rw[nD]
   unfold cw
   rw[if_neg (by omega)]
   exact Eh b hs n
theorem vZ(S:bm)(mb k q:Int):cq S mb k q 0=0:=by
 have ho:∀(o:Option Kn) (s:Nat),1<=s->fv o s q 0=0:=fun o s hs=>by
  unfold fv
  cases o with
  | none=>rfl
  | some b=>
    dsimp only
    split
    ·exact Eh b hs 7
    ·rfl
 unfold cq uQ
 repeat' split
 all_goals first
  | exact ho _ _ (by omega)
  | rfl
theorem qZ(m:Mb):eJ m=((if alone m=true then 1 else 0:Nat):Int):=by unfold eJ;split<;>rfl
def qD(ev:List Ev)(st:Int)(rest:Nat->Int):Prop:=if 0<ev.length then iY ev st=some rest else rest=fun _=>0
theorem zq{f:Nat->Int}{st:Nat}(hst:st<=1)(h0:st=1->f 0=0){rest:Nat->Int}(h:qD (dS f st) (st:Nat) rest){i:Nat}(hi:i<64):rest i=f i:=by
 unfold qD at h
 split at h
 ·rw [yc (by omega)]at h
  cases h
  dsimp only
  by_cases h1:st<=i/\i<64/\f i≠0
  ·rw[if_pos h1]
  ·rw[if_neg h1]
   by_cases h2:f i=0
   ·exact h2.symm
   ·have hi0:i=0:=by omega
    subst hi0
    exact(h0 (by omega)).symm
 ·rename_i hn
  have hnil:dS f st = []:=List.length_eq_zero_iff.1 (by omega)
  rw[h]
  dsimp only
  by_cases h1:st<=i
  ·exact(JO (by omega) hnil i h1 hi).symm
  ·have hi0:i=0:=by omega
   subst hi0
   exact(h0 (by omega)).symm
theorem Eu{l l':Nat->Int}{q:Int}(h:∀i,i<64->l i=l' i):kf ⟨l,q⟩=kf ⟨l',q⟩:=by
 unfold kf
 congr 1
 funext i
 by_cases hi:i<64
 ·rw[if_pos hi,if_pos hi];exact h i hi
 ·rw[if_neg hi,if_neg hi]
theorem xG{S R:bm}(hR:kH S R){m o:Mb}{mb:Int}{k:Nat}{r:Nat->Int}(hr:fW m S mb k=some r)(hk:o.kind=m.kind)(hq:o.qp=m.qp)(he:o.edge=m.edge)(hm:alone m=false->m.edge=false)(h0:alone m=true->o.lev (k*64)=m.lev (k*64))(hlev:∀i,i<64 -> -2047<=aK m k i/\aK m k i<=2047){rest:Nat->Int}(hrest:qD (nr m S mb k r) (eJ o) rest) :
 ∃R' l,g_ R mb k o rest=some (R',dE o k l)/\kH (if alone m=true then bu S mb k ⟨aK m k,m.qp⟩else S) R'/\∀i,i<64->l i=aK m k i:=by
 have ha:alone o=alone m:=by unfold alone;rw[hk]
 have hst:eJ o=((if alone m=true then 1 else 0:Nat):Int):=by rw[qZ,ha]
 have hor:=eT m.edge (a_ S mb k m.qp).1
 obtain⟨od,hod⟩:∃od,dD m.edge (a_ S mb k m.qp).1=od:=⟨_,rfl⟩
 have hod2:dD o.edge (a_ R mb k o.qp).1=od:=by rw[he,hq,yp hR];exact hod
 rw[hst]at hrest
 unfold nr at hrest
 rw[hod]at hrest hor
 unfold fW at hr
 unfold g_
 cases hal:alone m with
 | false=>
   rw[hal,if_neg (by decide)]at hr
   cases hr
   rw[hal,if_neg (by decide)]at hrest
   have hrl:∀i,i<64->rest i=hU od (aK m k) i:=fun i hi=>zq (by omega) (fun h=>absurd h (by decide)) hrest hi
   have hz:od=0:=by rw[<-hod,hm hal];rfl
   rw[ha,hal,if_neg (by decide),if_neg (by decide)]
   refine⟨_,_,rfl,hR,fun i hi=>?_⟩
   rw[hz]at hrl
   exact sX (.inl rfl) hrl hi
 | true =>
   rw[hal,if_pos rfl]at hr hrest
   rw[ha,hal,if_pos rfl,if_pos rfl,hod2,he]
   have hp0:=Bs hor
   cases hed:m.edge with
   | false=>
     rw[hed,if_neg (by decide)]at hr
     cases hr
     have hrl:∀i,i<64->rest i=hU od (cw (aK m k) 0 0) i:=fun i hi=>zq (by omega) (fun _=>by unfold hU;rw[hp0];rfl) hrest hi
     rw[if_neg (by decide)]
     have hl:∀i,i<64->cw (dc od rest) 0 (o.lev (k*64)) i=aK m k i:=fun i hi=>by
      unfold cw
      by_cases hi0:i=0
      ·subst hi0;rw[if_pos rfl,h0 hal];unfold aK;rw[Nat.add_zero]
      ·rw[if_neg hi0,sX hor hrl hi]
       unfold cw;rw[if_neg hi0]
     refine⟨_,_,rfl,?_,hl⟩
     rw[hq]
     exact pW hR mb k (Eu hl)
   | true =>
     rw[hed,if_pos rfl]at hr
     cases hle:ot (aK m k) (cq S mb k m.qp)with
     | none=>rw[hle]at hr;cases hr
     | some d=>
       rw[hle]at hr
       cases hr
       have hd:∀i,d i=aK m k i-cq S mb k m.qp i:=by
        unfold ot at hle
        split at hle
        ·cases hle
        ·cases hle;intro i;rfl
       have hrl:∀i,i<64->rest i=hU od (cw d 0 0) i:=fun i hi=>zq (by omega) (fun _=>by unfold hU;rw[hp0];rfl) hrest hi
       have hs:∀i,i<64->dc od rest i=cw d 0 0 i:=fun i hi=>sX hor hrl hi
       rw[if_pos rfl,hq,vY hR]
       have hmore:j9 (dc od rest) (cq S mb k m.qp)=some fun i=>dc od rest i+cq S mb k m.qp i:=by
        refine if_neg fun⟨i,hi,hb⟩=>?_
        unfold l0 at hb
        rw[hs i hi]at hb
        have hl:=hlev i hi
        unfold cw at hb
        by_cases hi0:i=0
        ·subst hi0
         rw[if_pos rfl,vZ]at hb
         omega
        ·rw[if_neg hi0,hd i]at hb
         omega
       rw[hmore]
       have hl:∀i,i<64->cw (fun i=>dc od rest i+cq S mb k m.qp i) 0 (o.lev (k*64)) i=aK m k i:=fun i hi=>by
        unfold cw
        by_cases hi0:i=0
        ·subst hi0;rw[if_pos rfl,h0 hal];unfold aK;rw[Nat.add_zero]
        ·rw[if_neg hi0]
         show dc od rest i+cq S mb k m.qp i=aK m k i
         rw[hs i hi]
         unfold cw;rw[if_neg hi0,hd i];omega
       exact⟨_,_,rfl,pW hR mb k (Eu hl),hl⟩
theorem Ee{m:Mb}{mb:Int}{x0:oD}:∀k x,fJ m mb x0 k=some x->(∀j,j<k->∃y r,fJ m mb x0 j=some y/\fW m y.S mb j=some r/\x.ev j=nr m y.S mb j r)/\∀j,k<=j->x.ev j=x0.ev j
 | 0,x,h=>by cases h;exact⟨fun j hj=>absurd hj (Nat.not_lt_zero _),fun _ _=>rfl⟩
 | k + 1,x,h=>by
   obtain⟨y,r,hy,hr,rfl⟩:=gv h
   obtain⟨h1,h2⟩:=Ee k y hy
   refine⟨fun j hj=>?_,fun j hj=>?_⟩
   ·by_cases hjk:j=k
    ·subst hjk;exact⟨y,r,hy,hr,if_pos rfl⟩
    ·obtain⟨y',r',a,b,c⟩:=h1 j (by omega)
     exact⟨y',r',a,b,(if_neg hjk).trans c⟩
   ·exact(if_neg (by omega)).trans (h2 j (by omega))
structure rk(m o o':Mb)(k:Nat):Prop where
 kind:o'.kind=m.kind
 qp:o'.qp=m.qp
 edge:o'.edge=m.edge
 v:o'.v=o.v
 lo:∀i,i<k*64->o'.lev i=m.lev i
 hi:∀i,k*64<=i->o'.lev i=o.lev i
theorem o5{m o o':Mb}{k:Nat}(h:rk m o o' k){l:Nat->Int}(hl:∀i,i<64->l i=aK m k i):rk m o (dE o' k l) (k+1):=by
 refine⟨h.kind,h.qp,h.edge,h.v,fun i hi=>?_,fun i hi=>?_⟩
 ·show(if k*64<=i/\i<k*64+64 then l (i-k*64)else o'.lev i)=m.lev i
  by_cases hk:k*64<=i
  ·rw[if_pos ⟨hk,by omega⟩,hl _ (by omega)]
   unfold aK
   rw[show k*64+(i-k*64)=i by omega]
  ·rw[if_neg (by omega)]
   exact h.lo i (by omega)
 ·show(if k*64<=i/\i<k*64+64 then l (i-k*64)else o'.lev i)=o.lev i
  rw[if_neg (by omega)]
  exact h.hi i (by omega)
def PV(evs:List (List Ev))(u:Nat)(has:Nat->Bool)(ev:Nat->List Ev)(k:Nat):Prop:=∀j,j<k->has j=true->u+iM has j<evs.length/\evs.getD (u+iM has j) []=ev j
theorem Qh{evs:List (List Ev)}{m o:Mb}{mb:Int}{x0 x6:oD}(hx6:fJ m mb x0 6=some x6){R0:bm}(hR:kH x0.S R0){has:Nat->Bool}(hhas:∀j,j<6->has j=decide (0<(x6.ev j).length)){u:Nat}(hk:o.kind=m.kind)(hq:o.qp=m.qp)(he:o.edge=m.edge)(hm:alone m=false->m.edge=false)(h0:alone m=true->∀k,k<6->o.lev (k*64)=m.lev (k*64))(hlev:∀i,i<384 -> -2047<=m.lev i/\m.lev i<=2047) :
 ∀k,k<=6->PV evs u has x6.ev k->∃y o' R',fJ m mb x0 k=some y/\ic evs mb has (R0,o,u) k = .inr (R',o',u+iM has k)/\kH y.S R'/\rk m o o' k:=by
 intro k
 induction k with
 | zero=>intro _ _;exact⟨x0,o,R0,rfl,rfl,hR,hk,hq,he,rfl,fun i hi=>absurd hi (by omega),fun _ _=>rfl⟩
 | succ k ih=>
   intro hk6 hev
   obtain⟨y,o',R',hy,hf,hRk,hF⟩:=ih (by omega) (fun j hj=>hev j (by omega))
   obtain⟨y',r,hy',hr,hevk⟩:=(Ee 6 x6 hx6).1 k (by omega)
   rw[hy]at hy'
   cases hy'
   have hsta:eJ o'=eJ m:=by unfold eJ alone;rw[hF.kind]
   have hlv:∀i,i<64 -> -2047<=aK m k i/\aK m k i<=2047:=fun i hi=>hlev _ (by omega)
   have ho0:alone m=true->o'.lev (k*64)=m.lev (k*64):=fun ha=>by rw[hF.hi _ (Nat.le_refl _)];exact h0 ha k (by omega)
   have hynext:fJ m mb x0 (k+1)=some (cC m mb k y (nr m y.S mb k r)):=by rw[fJ,hy];show Option.map _ (fW m y.S mb k)=_;rw[hr];rfl
   have hS:(cC m mb k y (nr m y.S mb k r)).S=if alone m=true then bu y.S mb k ⟨aK m k,m.qp⟩else y.S:=rfl
   have hst:eJ o'=((if alone m=true then 1 else 0:Nat):Int):=by rw[hsta,qZ]
   by_cases hh:has k=true
   ·have hpos:0<(x6.ev k).length:=by rw[hhas k (by omega)]at hh;exact of_decide_eq_true hh
    obtain⟨hu,hevu⟩:=hev k (by omega) hh
    have hbk:∃rest,iY (nr m y.S mb k r) (eJ o')=some rest:=by
     rw[hst];unfold nr
     exact⟨_,yc (by split<;>omega)⟩
    obtain⟨rest,hrest⟩:=hbk
    have hRest:qD (nr m y.S mb k r) (eJ o') rest:=by unfold qD;rw[if_pos (by rw[<-hevk];exact hpos)];exact hrest
    obtain⟨R2,l,hfill,hR2,hl⟩:=xG hRk hr hF.kind hF.qp hF.edge hm ho0 hlv hRest
    refine⟨_,dE o' k l,R2,hynext,?_,by rw[hS];exact hR2,o5 hF hl⟩
    rw[ic,hf]
    show fK evs mb has (R',o',u+iM has k) k=_
    unfold fK
    rw[if_pos hh,if_neg (by dsimp only;omega)]
    dsimp only
    rw[hevu,hevk,hrest]
    dsimp only
    unfold FI
    dsimp only
    rw[hfill,iM,if_pos hh]
    rfl
   ·have hnil:¬0<(x6.ev k).length:=fun hp=>hh (by rw[hhas k (by omega)];exact decide_eq_true hp)
    have hRest:qD (nr m y.S mb k r) (eJ o') (fun _=>0):=by unfold qD;rw[if_neg (by rw[<-hevk];exact hnil)]
    obtain⟨R2,l,hfill,hR2,hl⟩:=xG hRk hr hF.kind hF.qp hF.edge hm ho0 hlv hRest
    refine⟨_,dE o' k l,R2,hynext,?_,by rw[hS];exact hR2,o5 hF hl⟩
    rw[ic,hf]
    show fK evs mb has (R',o',u+iM has k) k=_
    unfold fK
    rw[if_neg hh]
    unfold FI
    dsimp only
    rw[hfill,iM,if_neg hh]
    rfl
theorem BX(o:Int):∀n i,Hz o (fun _=>0) n i=0
 | 0,_=>rfl
 | n+1,i=>by
   show cw (Hz o (fun _=>0) n) _ 0 i=0
   unfold cw
   split
   ·rfl
   ·exact BX o n i
theorem FJ{evs:List (List Ev)}{m o:Mb}{mb:Int}{R0:bm}{has:Nat->Bool}(hhas:∀j,j<6->has j=false){u:Nat}(hk:o.kind=m.kind)(hq:o.qp=m.qp)(he:o.edge=m.edge)(ha:alone m=false)(hlev:∀i,i<384->m.lev i=0) :
 ∀k,k<=6->∃o',ic evs mb has (R0,o,u) k = .inr (R0,o',u+iM has k)/\rk m o o' k:=by
 intro k
 induction k with
 | zero=>intro _;exact⟨o,rfl,hk,hq,he,rfl,fun i hi=>absurd hi (by omega),fun _ _=>rfl⟩
 | succ k ih=>
   intro hk6
   obtain⟨o',hf,hF⟩:=ih (by omega)
   have hal:alone o'=false:=by rw[<-ha];unfold alone;rw[hF.kind]
   have hl:∀i,i<64->dc 0 (fun _=>0) i=aK m k i:=fun i hi=>by
    show Hz 0 (fun _=>0) 64 i=_
    rw[BX]
    exact(hlev _ (by omega)).symm
   refine⟨dE o' k (dc 0 fun _=>0),?_,o5 hF hl⟩
   rw[ic,hf]
   show fK evs mb has (R0,o',u+iM has k) k=_
   unfold fK
   rw[if_neg (by rw[hhas k (by omega)];decide)]
   unfold FI
   dsimp only
   unfold g_
   rw[if_neg (by rw[hal];decide),iM,if_neg (by rw[hhas k (by omega)];decide)]
   rfl
structure Rb(m o:Mb):Prop where
 kind:o.kind=m.kind
 qp:o.qp=m.qp
 edge:o.edge=m.edge
 v:∀k,k<4->o.v k=m.v k
 lev:∀i,i<384->o.lev i=m.lev i
theorem CZ{S R:bm}(h:kH S R)(m:Mb):kH (fy S m) R:=by
 unfold fy
 split
 ·exact⟨h.cols,h.rows,h.a,h.b,h.c⟩
 ·exact h
theorem rH{z:bm×List Bool}{R:bm}(h:kH z.1 R)(m:Mb)(mb:Int)(k:Nat):kH (au m mb z k).1 R:=⟨h.cols,h.rows,h.a,h.b,h.c⟩
theorem mY{S R:bm}(h:kH S R)(mb:Int)(v:Nat->Int×Int):kH (aX S mb v) R:=⟨h.cols,h.rows,h.a,h.b,h.c⟩
theorem FU{S R:bm}(h:kH S R)(X:List Bool)(m:Mb)(mb:Int):kH (bC S X m mb).1 R:=by
 unfold bC
 split
 ·exact mY h _ _
 ·split
  ·exact mY (rH (z:=(S,X++az S m)) h m mb 0) _ _
  ·split
   ·exact mY (rH (rH (rH (rH (z:=(S,X++az S m)) h m mb 0) m mb 1) m mb 2) m mb 3) _ _
   ·exact mY (CZ h m) _ _
structure RZ(l:List Mb)(first:Int)(x0:PS)(outs:List Ol):Prop where
 len:outs.length=l.length
 at_:∀i,i<l.length->xp (l.getD i default) (outs.getD i default).1/\∀j,j<6->(outs.getD i default).2 j=decide (0<(Rx l first x0 i j).length)
end Go.Proofs.YtagpkhindehcbaaGreat
namespace Go.Proofs.YtagpkhindehcbaaGreat
open Go.Xm
variable [ax]
def ru(B:List Bool):Nat->List (List Ev)×(Nat×Bool)->List (List Ev)×(Nat×Bool)
 | 0,x=>x
 | k+1,x=>if(jY B x.2).2.2=true then(x.1++[(jY B x.2).1],(jY B x.2).2)else ru B k (x.1++[(jY B x.2).1],(jY B x.2).2)
def Is(ev:Nat->List Ev):Nat->List (List Ev)
 | 0=>[]
 | k+1=>Is ev k++if 0<(ev k).length then [ev k]else []
theorem NF{x:oD}{bw:List Bool}:∀k,dq bw x k=bw++(Is x.ev k).flatMap fF
 | 0=>(List.append_nil _).symm
 | k+1=>by
   rw[dq,NF k,Is,List.flatMap_append,List.append_assoc]
   by_cases h0:0<(x.ev k).length
   ·rw[if_pos h0];simp
   ·rw[if_neg h0,List.length_eq_zero_iff.1 (show(x.ev k).length=0 by omega)];rfl
end Go.Proofs.YtagpkhindehcbaaGreat
namespace Go.Xm
variable [ax]
theorem WX.BB{P:Program}{nt nI:Nat}{al:bl}{c:w5}{K:dM}:∀(n:Nat) {hs:aj}(hb:Nat.blt (hs.length+n) Mem.bound=true) (h:WX P nt nI c al (hs++List.replicate n .dead) K),WX P nt nI c al hs K
 | 0,hs,hb,h=>by rw[List.replicate_zero,List.append_nil]at h;exact h
 | n+1,hs,hb,h=>by
   rw[Nat.blt_eq]at hb
   refine WX.cU (by rw[Nat.blt_eq];omega) (WX.BB n (by rw[List.length_append,Nat.blt_eq];show hs.length+1+n<_;omega) ?_)
   rw[List.append_assoc]
   exact h
theorem EL{τ : Nat->Nat}{f:Nat->ak}(hf:∀j,c8 (f j)){l m:aj}(h:dv τ l m):∀(js:List Nat),dv τ (js.map f++l) (js.map f++m)
 | []=>h
 | j::js=>by have:=hf j;exact dv.flat (EL hf h js)
theorem Dd{n:Nat}{f:Nat->ak}(hf:∀j,c8 (f j)){l:aj}(h:bc n l):∀(js:List Nat),bc n (js.map f++l)
 | []=>h
 | j::js=>by have:=hf j;exact bc.flat (Dd hf h js)
theorem lf:∀h:aj,d9 h h=true
 | []=>rfl
 | o::h=>by
   simp only[d9,Bool.and_eq_true]
   exact⟨by cases o.live<;>simp,lf h⟩
theorem ET(e:TypeId)(cs:List XC)(τ : Nat->Nat):(cE e cs).ay τ = cE e (cs.map (·.ay τ)):=by cases cs<;>rfl
section
variable {P:Program} {ops:Array Oper} {nt nI:Nat} {al:bl} {hs:aj} {o:Oper} {l:List Oper} {L:List aG} {K:List Ab->bl->aj->Prop} {d:Nat}
theorem RP{t t1 e e1:TypeId}{a b:Operand}{i n j:Nat}{cap:tO}{cs:List XC}{c:XC}{et:TypeId}{opn ro:Bool}{N:Nat}{hs':aj}(hn:cs.length=n)(hk:SK P ops nt L l ((d,hZ N (n+1) 1)::al) hs' fun bs=>K (⟨true,.none,[i,N]⟩::bs))(ho:o.op = .call ⟨.builtin .append,#[a,b],#[t,t1]⟩:=by exact rfl)(hu:aW P t (.slice e):=by infer_instance)(hu1:aW P t1 (.slice e1):=by infer_instance)(hz:bz P e [.nils]:=by infer_instance)(hI:TI P e 1:=by infer_instance)(wn:Wn ops nt al o d:=by exact⟨rfl,rfl,rfl⟩)(ha:ai (rg al) a=hZ i n 1:=by exact rfl)(hi:hs[i]? = some (cE e cs):=by exact rfl)(hb:ai (rg al) b = .one (.slice j 0 1 cap):=by exact rfl)(hj:hs[j]? = some (.cells [c] et opn ro):=by exact rfl)(hm:n+1<=2000000000:=by omega)(hN:hs.length=N:=by exact nL)(hbd:Nat.blt N Mem.bound=true:=by exact rfl)(hh:hs.set i .dead++[.cells (cs++[c]) e true false]=hs':=by first|(simp only[List.set_cons_succ,List.set_cons_zero,List.cons_append,List.nil_append];exact rfl)|exact rfl):SK P ops nt L (o::l) al hs K:=by
 rw[l6 (Nat.succ_ne_zero _)]at hk
 exact Dr (zs:=[.nils]) (sz:=1) ho wn.w wn.e wn.l ⟨rfl,by decide⟩ ha hi (by rw[hn,Nat.mul_one]) (r7 hb hj rfl) ⟨by decide,hm⟩ hN hbd hh hk
end
end Go.Xm
namespace Go.Proofs.YtagpkhindehcbaaGreat
open Go.Xm
variable [ax]
def fE(E:List (List Ev))(j:Nat):ak:=db (E.getD j [])
instance IC (E:List (List Ev)) (j:Nat):c8 (fE E j):=by unfold fE;infer_instance
def jn(b:Nat)(E:List (List Ev)):List XC:=(List.range E.length).map fun j=>fD (b+j) (E.getD j []).length 3
abbrev lR(b:Nat)(E:List (List Ev)):ak:=cE 106 (jn b E)
theorem mT(b:Nat)(E:List (List Ev)):(jn b E).length=E.length:=by simp[jn]
theorem Jh(b:Nat)(E:List (List Ev)){j:Nat}(hj:j<E.length):(jn b E)[j]? = some (fD (b+j) (E.getD j []).length 3):=by
 unfold jn
 rw[List.getElem?_map,List.getElem?_range hj];rfl
theorem AX{E:List (List Ev)}{l:List Ev}{j:Nat}(hj:j<E.length):(E++[l]).getD j []=E.getD j []:=by
 rw[List.getD_eq_getElem?_getD,List.getElem?_append_left hj,<-List.getD_eq_getElem?_getD]
theorem AY{E:List (List Ev)}{l:List Ev}:(E++[l]).getD E.length []=l:=by
 rw[List.getD_eq_getElem?_getD,List.getElem?_append_right (Nat.le_refl _),Nat.sub_self];rfl
theorem Dg(b:Nat)(E:List (List Ev))(l:List Ev):jn b (E++[l])=jn b E++[fD (b+E.length) l.length 3]:=by
 unfold jn
 rw[List.length_append,List.length_singleton,List.range_succ,List.map_append]
 congr 1
 ·exact List.map_congr_left fun j hj=>by rw[AX (List.mem_range.1 hj)]
 ·rw[List.map_singleton,AY]
theorem xW{b b':Nat}{E:List (List Ev)}{τ : Nat->Nat}(h:∀j,j<E.length -> τ (b+j)=b'+j):(jn b E).map (·.ay τ)=jn b' E:=by
 unfold jn
 rw[List.map_map]
 exact List.map_congr_left fun j hj=>by show(fD _ _ _).ay τ = _;rw[aB,h j (List.mem_range.1 hj)]
theorem vB{b b':Nat}{E:List (List Ev)}{τ : Nat->Nat}(h:∀j,j<E.length -> τ (b+j)=b'+j):(lR b E).ay τ = lR b' E:=by
 rw[ET,xW h]
theorem ud{b n:Nat}{E:List (List Ev)}(h:b+E.length<=n):(lR b E).b7 n:=by
 have hm:∀c∈jn b E,c.ok n:=fun c hc=>by
  unfold jn at hc
  obtain⟨j,hj,rfl⟩:=List.mem_map.1 hc
  have:=List.mem_range.1 hj
  exact aZ (by omega)
 show(cE _ (jn b E)).b7 n
 cases ho:jn b E with
 | nil=>trivial
 | cons c cs=>rw[ho]at hm;exact hm
theorem Ga{E:List (List Ev)}{l:List Ev}{τ : Nat->Nat}{b N:Nat}(h:∀j,j<E.length -> τ (b+j)=b+j)(hu : τ (b+E.length)=N):(lR b (E++[l])).ay τ = .cells (jn b E++[fD N l.length 3]) 106 true false:=by
 rw[ET,Dg,List.map_append,xW h,List.map_singleton,aB,hu]
 exact fb (by simp)
theorem Ou(E:List (List Ev))(j:Nat):uy (fE E j) mr (E.getD j []):=by
 refine⟨fun h=>?_,inferInstance⟩
 unfold fE
 exact⟨_,_,_,fb (AS (fun h0=>by rw[h0]at h;exact absurd h (Nat.lt_irrefl 0)))⟩
theorem Ot{E:List (List Ev)}(hE:∀e∈E,mE e)(h54:E.length<=54):Ny (lR 15 E) (fE E) E:=by
 have hin:∀j,j<E.length->mE (E.getD j []):=fun j hj=>hE _ (by rw[List.getD_eq_getElem?_getD,List.getElem?_eq_getElem hj];exact List.getElem_mem hj)
 refine⟨fun h0=>⟨jn 15 E,_,_,_,fb (fun h=>?_),fun j hj=>⟨_,Jh 15 E hj,.inr ⟨by omega,?_,Ou E j⟩⟩⟩,hin,fun j=>inferInstance,fun n hn=>ud (by omega),fun τl h=>vB fun j hj=>IB h _ (by omega)⟩
 ·have:=mT 15 E
  rw[h]at this
  exact absurd this (by show¬0=_;omega)
 ·by_cases hz:(E.getD j []).length=0
  ·exact .inl ⟨hz,by rw[hz];rfl⟩
  ·exact .inr ⟨.toEnd 3,if_neg hz⟩
theorem FL{h:Hd}{p:Ph}{first:Int}{l:List Ol}(hT:Ak h p first l){E:List (List Ev)}(hE:∀e∈E,mE e)(h54:E.length<=54) :
 bh Tryz.prog 15 [.one (.ptr 0 0),.agg (f6 h),.agg (gV p),.one (.int .i64 first),hZ 13 l.length 397,hZ 14 E.length 1] (oq l (lR 15 E) (fE E) []) (Ej (gZ E first l (dQ h p))) (oq l (lR 15 E) (fE E) [jB (gZ E first l (dQ h p))]):=by
 have hA:=Ot hE h54
 by_cases h0:E.length=0
 ·have e:hZ 14 E.length 1 = .one .nils:=by rw[h0];rfl
  rw[e]
  exact xF hT hA (.inl ⟨h0,.inl rfl⟩)
 ·rw[l6 h0]
  obtain⟨vs,et,opn,ro,ho,_⟩:=hA.out (by omega)
  have hvs:lR 15 E = .cells (jn 15 E) 106 true false:=fb (fun h=>by have:=mT 15 E;rw[h]at this;exact h0 this.symm)
  exact sF [.one (.ptr 0 0),.agg (f6 h),.agg (gV p),.one (.int .i64 first),hZ 13 l.length 397] [] (i:=14) (off:=0) (n:=E.length) (s:=1) (by decide) (vs:=jn 15 E) (e:=106) (opn:=true) (ro:=false) (by rw[<-hvs];rfl) (by rw[mT];omega) fun cap hcap=>xF hT hA (cY.mk hcap)
theorem Ay{B:List Bool}:∀(k:Nat) (r:Nat×Bool) (acc:List Ev),(∀e∈acc,oE e/\e.2.2=false)->acc.length+k<=64->mE (oQ B k r acc).1
 | 0,r,acc,_,_=>⟨fun j hj=>absurd hj (Nat.not_lt_zero _),fun j hj=>absurd hj (Nat.not_lt_zero _),Nat.zero_le _⟩
 | k + 1, r,acc,ha,hl=>by
   rw[oQ]
   obtain⟨e,he⟩:∃e,w8 (bq B r).1 (bq B (bq B r).2).1=e:=⟨_,rfl⟩
   rw[he]
   split
   ·exact⟨fun j hj=>absurd hj (Nat.not_lt_zero _),fun j hj=>absurd hj (Nat.not_lt_zero _),Nat.zero_le _⟩
   ·rename_i hn
    have hok:oE e:=qI (by cases hr:ji e with|true=>rfl|false=>exact absurd (.inr hr) hn)
    have hlen:(acc++[e]).length=acc.length+1:=by rw[List.length_append];rfl
    split
    ·rename_i hlast
     have hlo:∀j,j<acc.length->(acc++[e]).getD j default=acc.getD j default/\acc.getD j default∈acc:=fun j hj=>by
      rw[List.getD_eq_getElem?_getD,List.getElem?_append_left hj,List.getD_eq_getElem?_getD,List.getElem?_eq_getElem hj]
      exact⟨rfl,List.getElem_mem hj⟩
     have hhi:(acc++[e]).getD acc.length default=e:=by rw[List.getD_eq_getElem?_getD,List.getElem?_append_right (Nat.le_refl _),Nat.sub_self];rfl
     refine⟨fun j hj=>?_,fun j hj=>?_,by dsimp only;omega⟩
     ·have hj':j<acc.length+1:=by rw[<-hlen];exact hj
      show oE ((acc++[e]).getD j default)
      by_cases h:j<acc.length
      ·rw[(hlo j h).1];exact(ha _ (hlo j h).2).1
      ·obtain rfl:j=acc.length:=by omega
       rw[hhi];exact hok
     ·have hj':j<acc.length+1:=by rw[<-hlen];exact hj
      show((acc++[e]).getD j default).2.2=decide (j+1=(acc++[e]).length)
      rw[hlen]
      by_cases h:j<acc.length
      ·rw[(hlo j h).1,(ha _ (hlo j h).2).2,decide_eq_false (by omega)]
      ·obtain rfl:j=acc.length:=by omega
       rw[hhi,hlast,decide_eq_true rfl]
    ·rename_i hlast
     refine Ay k _ _ (fun x hx=>?_) (by omega)
     rcases List.mem_append.1 hx with hx|hx
     ·exact ha x hx
     ·rw[List.mem_singleton.1 hx]
      exact⟨hok,by cases h:e.2.2 with|true=>exact absurd h hlast|false=>rfl⟩
theorem H0(B:List Bool)(r:Nat×Bool):mE (jY B r).1:=Ay 64 r [] (fun e he=>by cases he) (by decide)
noncomputable def ym(B:List Bool)(first:Int)(l:List Ol)(S0:bm):Int ⊕ List Mb:=
 let y:=ru B (vf l) ([],(0,false))
 if ky B y.2≠0 then .inl (ky B y.2)else gZ y.1 first l S0
def BR(k:Nat):Int ⊕ List Mb->XV
 | .inl e => .tup [.one .nils,.one (.int .i64 e)]
 | .inr l => .tup [.one (fD k l.length 391),.one (.int .i64 0)]
abbrev Q8(a b:List Int)(h:Hd)(p:Ph)(l:List Ol)(q:List Int)(B:List Bool)(E:List (List Ev))(r:Nat×Bool)(x:aj):aj:=bM 1 5 9::aw 2 3 4 cM::aR cM::aT cM::aS cM::aw 6 7 8 cZ::aR cZ::aT cZ::aS cZ::aw 10 11 12 cP::aR cP::aT cP::aS cP::cE 5 (il .u8 a)::cE 5 (il .u8 b) :: .cells (f6 h) 26 false false :: .cells (gV p) 28 false false::cE 56 (fl gU l)::bt 19 q B r.1 r.2::aL q::lR 21 E::fE E 0::fE E 1::fE E 2::fE E 3::fE E 4::fE E 5::fE E 6::fE E 7::fE E 8::fE E 9::fE E 10::fE E 11::fE E 12::fE E 13::fE E 14::fE E 15::fE E 16::fE E 17::fE E 18::fE E 19::fE E 20::fE E 21::fE E 22::fE E 23::fE E 24::fE E 25::fE E 26::fE E 27::fE E 28::fE E 29::fE E 30::fE E 31::fE E 32::fE E 33::fE E 34::fE E 35::fE E 36::fE E 37::fE E 38::fE E 39::fE E 40::fE E 41::fE E 42::fE E 43::fE E 44::fE E 45::fE E 46::fE E 47::fE E 48::fE E 49::fE E 50::fE E 51::fE E 52::fE E 53::x
theorem RJ{a b:List Int}{h:Hd}{p:Ph}{l:List Ol}{q:List Int}{B:List Bool}{E:List (List Ev)}{r:Nat×Bool}{x:aj}{u:Nat}(hu:u<54):(Q8 a b h p l q B E r x)[21+u]? = some (fE E u):=by
 have e:Q8 a b h p l q B E r x=(Q8 a b h p l q B E r []).take 21++((List.range 54).map (fE E)++x):=rfl
 rw[e,List.getElem?_append_right (by show 21<=21+u;omega),show 21+u-((Q8 a b h p l q B E r []).take 21).length=u by show 21+u-21=u;omega,List.getElem?_append_left (by rw[List.length_map,List.length_range];exact hu),List.getElem?_map,List.getElem?_range hu]
 rfl
abbrev xh:List Nat:=kW 0 (17::20::((List.range 54).map (21 + ·)++[]))
theorem BW{r:List Nat}{j:Nat}(hj:j<54):nth (xh++r) (15+j)=21+j:=by
 have e:xh++r=kW 0 [17,20]++((List.range 54).map (21 + ·)++r):=rfl
 unfold nth
 rw[e,List.getD_eq_getElem?_getD,List.getElem?_append_right (by show 15<=15+j;omega),show 15+j-(kW 0 [17,20]).length=j by show 15+j-15=j;omega,List.getElem?_append_left (by rw[List.length_map,List.length_range];exact hj),List.getElem?_map,List.getElem?_range hj]
 rfl
structure PU(B:List Bool)(n:Nat)(X s:List (List Ev)×(Nat×Bool)):Prop where
 le:s.1.length<=n
 run:ru B (n-s.1.length) s=X
 ins:∀e∈s.1,mE e
theorem Il{HS:aj}{f:Nat->ak}(h:(HS.drop 21).take 54=(List.range 54).map f){j:Nat}(hj:j<54):HS[21+j]? = some (f j):=by
 rw[<-List.getElem?_drop,<-List.getElem?_take_of_lt hj,h,List.getElem?_map,List.getElem?_range hj];rfl
abbrev DC(u:Nat):List Nat:=0::1::2::3::4::5::6::7::8::9::10::11::12::13::14::15::16::17::18::19::77::((List.range 54).map (fun j=>if j=u then 75 else 21+j)++[])
theorem Kq:∀u:Fin 54,(DC u.val).Nodup:=by decide +kernel
theorem Na{u:Nat}(hu:u<54):(DC u).Nodup:=Kq ⟨u,hu⟩
theorem E1(u:Nat){j:Nat}(hj:j<54):nth (DC u) (21+j)=if j=u then 75 else 21+j:=by
 have e:DC u=(DC u).take 21++((List.range 54).map (fun j=>if j=u then 75 else 21+j)++[]):=rfl
 unfold nth
 rw[e,List.getD_eq_getElem?_getD,List.getElem?_append_right (by show 21<=21+j;omega),show 21+j-((DC u).take 21).length=j by show 21+j-21=j;omega,List.getElem?_append_left (by rw[List.length_map,List.length_range];exact hj),List.getElem?_map,List.getElem?_range hj]
 rfl
theorem LQ{E:List (List Ev)}{l:List Ev}{HS:aj}(hd:(HS.drop 21).take 54=(List.range 54).map (fE E))(h75:HS[75]? = some (db l)):∀j∈List.range 54,HS[if j=E.length then 75 else 21+j]? = some (fE (E++[l]) j)\/(fE (E++[l]) j = .dead/\(if j=E.length then 75 else 21+j)<HS.length):=fun j hj=>by
 left
 unfold fE
 by_cases hu:j=E.length
 ·subst hu
  rw[if_pos rfl,AY];exact h75
 ·rw[if_neg hu,Il hd (List.mem_range.1 hj)]
  unfold fE
  by_cases h:j<E.length
  ·rw[AX h]
  ·rw[List.getD_eq_getElem?_getD,List.getElem?_eq_none (by omega),List.getD_eq_getElem?_getD,List.getElem?_eq_none (by rw[List.length_append,List.length_singleton];omega)]
theorem BD(ob:ak)(e:TypeId)(cs:List XC):d9 [ob] [ob,cE e cs]=true:=pQ [ob] [] [cE e cs] (lf _) (by cases cs<;>rfl)
theorem oX{l:List Int}{ob:ak}(ho:RO ob .u8 l){c:XC}{i:Nat}(hc:cY c i 0 l.length)(hl:bQ l)(hn:l.length<=100000){res:Option (List Int)}(hres:jc l l.length [] 0 0=res){e:Int}(he:(if res.isSome then 0 else 15)=e){HS:aj}(hi:HS[i]? = some ob){N:Nat}(hN:HS.length=N){HS':aj}(hh:HS++[cE 5 (il .u8 (res.getD []))]=HS')(hb:Nat.blt HS'.length Mem.bound=true) :
 aG.Sound Tryz.prog ⟨60,[.one c],HS,.tup [.one (fD N (res.getD []).length 1),.one (.int .i64 e)],HS',[i]⟩:=by
 subst hN he
 have hfo:=ho.flat
 obtain⟨c0,h0,hcr⟩:=hc.oP 0 (nth [i]) rfl
 exact bO (os:=[ob,cE 5 (il .u8 (res.getD []))]) [i] [i] 1 (y4 ho h0 hl hn res hres) (by simp) (.flat hi .nil) (.flat .nil) (.flat (.flat .nil)) rfl (.cons (h0.ok Nat.one_pos) .nil) (.cons (congrArg XV.one hcr) .nil) (F6 (aZ (Nat.le_of_ble_eq_true rfl)) trivial) (by simp only[XV.ay,List.map_cons,List.map_nil,X1.ay,aB];rfl) (.flat (.flat .nil)) (BD ..) rfl (by simp only[bK];rw[aF hi];exact hh) hb (.inl rfl)
def kd(a:List Int):Int ⊕ (List Int×List Bool):=
 match jc a a.length [] 0 0 with
 | none => .inl 15
 | some q=>if(cJ q).2=true then .inr (q,(List.range (cJ q).1).map (jA q))else .inl 4
theorem vu{a:List Int}(ha:bQ a)(hn:a.length<=30000){q:List Int}{B:List Bool}(h:kd a = .inr (q,B)):jc a a.length [] 0 0=some q/\cJ q=(B.length,true)/\B.length<=8*q.length/\dp q B:=by
 unfold kd at h
 split at h
 ·cases h
 ·rename_i q' hq
  split at h
  ·rename_i hs
   have e1:=(Prod.mk.inj (Sum.inr.inj h)).1
   have e2:=(Prod.mk.inj (Sum.inr.inj h)).2
   subst e1
   have hB:B.length=(cJ q').1:=by rw[<-e2];simp
   have hl:=oW _ _ _ _ q' hq
   simp only[List.length_nil,Nat.zero_add]at hl
   have hle:(cJ q').1<=8*q'.length:=by
    unfold cJ
    split
    ·exact Nat.zero_le _
    ·dsimp only;omega
   refine⟨hq,Prod.ext hB.symm hs,by omega,⟨by omega,mL ha _ _ _ _ q' (fun p=>by simp) hq,fun j hj=>?_,by omega⟩⟩
   rw[<-e2,List.getD_eq_getElem?_getD,List.getElem?_map,List.getElem?_range (by omega)]
   rfl
  ·cases h
theorem kZ{a:List Int}{e:Int}(h:kd a = .inl e):e≠0/\((jc a a.length [] 0 0=none/\e=15)\/∃q z,jc a a.length [] 0 0=some q/\cJ q=(z,false)/\e=4):=by
 unfold kd at h
 split at h
 ·rename_i hq
  cases h
  exact⟨by decide,.inl ⟨hq,rfl⟩⟩
 ·rename_i q hq
  split at h
  ·cases h
  ·rename_i hs
   cases h
   exact⟨by decide,.inr ⟨q,_,hq,Prod.ext rfl (by cases hh:(cJ q).2 with|true=>exact absurd hh hs|false=>rfl),rfl⟩⟩
theorem F7{l:List Int}{ob:ak}(ho:RO ob .u8 l){c:XC}(hc:cY c 0 0 l.length)(hl:bQ l)(hn:l.length<=30000){e:Int}(h:kd l = .inl e) :
 bh Tryz.prog 32 [.one c] [ob] (.tup [.one .nilp,.one (.int .i64 e)]) [ob]:=by
 have hfo:=ho.flat
 obtain⟨h0,h|⟨q,z,h2,h3,h⟩⟩:=kZ h
 ·obtain⟨h2,rfl⟩:=h
  refine cO Tryz.func32 ?_
  repeat' (first
   |(refine qz ?_;first
    |refine cl ?_ (hi:=by exact oX ho hc hl (by omega) h2 (e:=15) rfl rfl nL nA rfl))
   |refine zz ?_|refine zx (fun _=>?_) (fun _=>?_)|fail)
  show aC _ _ _ _ _ _ _ _;refine kV [0] ?_
  rfl
 ·subst h
  have hq:=mL hl _ _ _ _ q (fun p=>by simp) h2
  have hq2:=oW _ _ _ _ q h2
  refine cO Tryz.func32 ?_
  repeat' (first
   |(refine qz ?_;first
    |refine cl ?_ (hi:=by exact oX ho hc hl (by omega) h2 (e:=0) rfl rfl nL nA rfl)
    |refine cl ?_ (hi:=by exact BH (L:=q) hq (by simp at hq2;omega) h3 rfl rfl rfl))
   |refine zz ?_|refine zx (fun _=>?_) (fun _=>?_)|fail)
  show aC _ _ _ _ _ _ _ _;refine kV [0] ?_
  rfl
theorem Jg{l:List Int}{ob:ak}(ho:RO ob .u8 l){c:XC}(hc:cY c 0 0 l.length)(hl:bQ l)(hn:l.length<=30000){q:List Int}(h2:jc l l.length [] 0 0=some q){B:List Bool}(h3:cJ q=(B.length,true))(hB:B.length<=8*q.length) :
 bh Tryz.prog 32 [.one c] [ob] (.tup [.one (.ptr 1 0),.one (.int .i64 0)]) [ob,bt 2 q B 0 false,aL q]:=by
 have hfo:=ho.flat
 refine cO Tryz.func32 ?_
 have hq:=mL hl _ _ _ _ q (fun p=>by simp) h2
 have hq2:=oW _ _ _ _ q h2
 simp only[List.length_nil,Nat.zero_add]at hq2
 repeat' (first
  |(refine qz ?_;first
   |refine cl ?_ (hi:=by exact oX ho hc hl (by omega) h2 (e:=0) rfl rfl nL nA rfl)
   |refine cl ?_ (hi:=by exact BH (L:=q) hq (by omega) h3 rfl rfl rfl)
   |refine cl ?_ (hi:=by exact MA (L:=q) (B:=B) hB (by omega) rfl rfl rfl nL nA rfl))
  |refine zz ?_|refine zx (fun _=>?_) (fun _=>?_)|fail)
 show aC _ _ _ _ _ _ _ _;refine kV [0,2,3] ?_
 rfl
theorem xV{l:List Int}{ob:ak}(ho:RO ob .u8 l){c:XC}{i:Nat}(hc:cY c i 0 l.length)(hl:bQ l)(hn:l.length<=30000){e:Int}(h:kd l = .inl e){HS:aj}(hi:HS[i]? = some ob)(hb:Nat.blt HS.length Mem.bound=true) :
 aG.Sound Tryz.prog ⟨32,[.one c],HS,.tup [.one .nilp,.one (.int .i64 e)],HS,[i]⟩:=by
 have hfo:=ho.flat
 obtain⟨c0,h0,hcr⟩:=hc.oP 0 (nth [i]) rfl
 exact bO (os:=[ob]) [i] [i] 0 (F7 ho h0 hl hn h) (by simp) (.flat hi .nil) (.flat .nil) (.flat .nil) rfl (.cons (h0.ok Nat.one_pos) .nil) (.cons (congrArg XV.one hcr) .nil) (XV.e9 rfl _) rfl (.flat .nil) (lf _) rfl (by simp only[bK];rw[aF hi,List.append_nil]) hb (.inl rfl)
theorem JL(ob o1 o2:ak)(h:d9 [] [o1,o2]=true):d9 [ob] [ob,o1,o2]=true:=pQ [ob] [] [o1,o2] (lf _) h
theorem vv{l:List Int}{ob:ak}(ho:RO ob .u8 l){c:XC}{i:Nat}(hc:cY c i 0 l.length)(hl:bQ l)(hn:l.length<=30000){q:List Int}(h2:jc l l.length [] 0 0=some q){B:List Bool}(h3:cJ q=(B.length,true))(hB:B.length<=8*q.length){HS:aj}(hi:HS[i]? = some ob){N:Nat}(hN:HS.length=N){HS':aj}(hh:HS++[bt (N+1) q B 0 false,aL q]=HS')(hb:Nat.blt HS'.length Mem.bound=true) :
 aG.Sound Tryz.prog ⟨32,[.one c],HS,.tup [.one (.ptr N 0),.one (.int .i64 0)],HS',[i]⟩:=by
 subst hN
 have hfo:=ho.flat
 obtain⟨c0,h0,hcr⟩:=hc.oP 0 (nth [i]) rfl
 refine bO (os:=[ob,bt (HS.length+1) q B 0 false,aL q]) [i] [i] 2 (Jg ho h0 hl hn h2 h3 hB) (by simp) (.flat hi .nil) (.flat .nil) (.flat (.cons ?_ (.flat .nil))) rfl (.cons (h0.ok Nat.one_pos) .nil) (.cons (congrArg XV.one hcr) .nil) ?_ rfl (.flat (.cons rfl (.flat .nil))) (JL _ _ _ rfl) rfl (by simp only[bK];rw[aF hi];exact hh) hb (.inl rfl)
 ·simp[ak.b7,XC.ok]
 ·exact F6 (by show 1<3;omega) trivial
theorem GO{ob:ak}{c:XC}{h:Hd}{p:Ph}{a q:List Int}{B:List Bool}{first:Int}{n:Nat}(hT:lT h p a q B first n)(ho:RO ob .u8 a)(hc:cY c 13 0 a.length){x:TA}(hx:fI B first n ⟨dQ h p,(0,false),[]⟩=x)(he:ky B x.r=0) :
 bh Tryz.prog 12 [.one (.ptr 0 0),.agg (f6 h),.agg (gV p),.one (.int .i64 first),.one (.int .i64 (n:Nat)),.one c] [bM 1 5 9,aw 2 3 4 cM,aR cM,aT cM,aS cM,aw 6 7 8 cZ,aR cZ,aT cZ,aS cZ,aw 10 11 12 cP,aR cP,aT cP,aS cP,ob] (.tup [.one (fD 14 x.out.length 397),.one (.int .i64 0)]) [bM 1 5 9,aw 2 3 4 cM,aR cM,aT cM,aS cM,aw 6 7 8 cZ,aR cZ,aT cZ,aS cZ,aw 10 11 12 cP,aR cP,aT cP,aS cP,ob,cE 56 (fl gU x.out)]:=by
 have hfo:=ho.flat
 have h1:=hT.hd.dims.c0
 have h2:=hT.hd.dims.c1
 have h3:=hT.hd.dims.r0
 have h4:=hT.hd.dims.r1
 have hf:=hT.pos
 have hm:=hT.many
 have ha:=hT.all
 have hcr:1<=h.cols*h.rows/\h.cols*h.rows<=64:=jg hT.hd.dims
 refine cO Tryz.func12 ?_
 repeat' (first
  |(refine qz ?_;first
   |refine fG ?_ (hle:=by rw[br])
   |refine cl ?_ (hi:=by exact kT hT.hd rfl)
   |refine cl ?_ (hi:=by exact k9 hT.ph rfl)
   |refine cl ?_ (hi:=by exact vv ho hc hT.byt hT.len hT.esc hT.size hT.fits rfl nL nA rfl)
   |refine cl ?_ (hi:=by exact mG hT.hd rfl nL nA rfl))
  |refine zz ?_|refine zx (fun _=>?_) (fun _=>?_)|fail)
 refine WX.cU rfl ?_
 refine WX.dw (σ:=TA) (fun s=>[(3,.one (.int .i64 first)),(4,.one (.int .i64 (n:Nat))),(14,.one (.ptr 14 0)),(16,.one (.ptr 16 0)),(17,hZ 23 s.out.length 397),(18,.one (.int .i64 (s.out.length:Nat)))]) (fun s=>[bM 1 5 9,aw 2 3 4 cM,aR cM,aT cM,aS cM,aw 6 7 8 cZ,aR cZ,aT cZ,aS cZ,aw 10 11 12 cP,aR cP,aT cP,aS cP,ob,bt 15 q B s.r.1 s.r.2,aL q,Hx s.S 16,cn 18 s.S.cols s.S.rows,.map (ba s.S.M),Hy s.S 16,.map (ag s.S.A),.map (ag s.S.B),.map (ag s.S.C),cE 56 (fl gU s.out)]) (As B first n h.cols h.rows x) (fun s=>n-s.out.length) ⟨dQ h p,(0,false),[]⟩ ⟨Nat.zero_le _,hx,rfl,rfl,s5,by have:=hT.ph.qp;show -1000000<=p.qp/\p.qp<=1000000;omega⟩ (fun s _=>lD) (cG [0,1,2,3,4,5,6,7,8,9,10,11,12,13,16,17,18,19,20,21,22,23,24,25]) ?_
 intro s hs ih
 have hle:=hs.le
 have hn36:n<=64:=by omega
 have hlen:s.out.length<=64:=by omega
 by_cases hlt:s.out.length<n
 ·obtain⟨b,hr⟩:∃b,s.r.2=b:=⟨_,rfl⟩
  cases b with
  | false=>
    have xI:gR s.S.cols s.S.rows:=by rw[hs.cols,hs.rows];exact hT.hd.dims
    have hmb:0<=first+(s.out.length:Nat)/\first+(s.out.length:Nat)<s.S.cols*s.S.rows:=by rw[hs.cols,hs.rows];omega
    obtain⟨y,hy⟩:∃y,b_ s.S B (first+(s.out.length:Nat)) s.r=y:=⟨_,rfl⟩
    repeat' (first
     |(refine qz ?_;first
      |refine cl ?_ (hi:=by exact k_ hr rfl rfl (by decide) rfl)
      |refine cl ?_ (hi:=by exact EY hT.bits (S:=s.S) (r:=s.r) xI hs.tiny hmb hs.qp hy (i:=14) (k:=15) (N:=16) rfl rfl rfl rfl (by decide) nA rfl)
      |refine oR (enc:=gU) (a:=(y.1.m,y.2)) ?_
      |refine t5 (enc:=gU) ?_)
     |refine zz ?_|refine zx (fun _=>?_) (fun _=>?_)|fail)
    have e0:iU B first s=⟨y.1.S,y.1.r,s.out++[(y.1.m,y.2)]⟩:=by unfold iU;rw[hy]
    have hnx:=vW hs hlt hr
    rw[e0]at hnx
    refine ih ⟨y.1.S,y.1.r,s.out++[(y.1.m,y.2)]⟩ _ _ _ (cG [0,1,2,3,4,5,6,7,8,9,10,11,12,13,14,15,16,17,18,19,20,21,22,25] (obj:=by(repeat' (first|exact ae.nil|refine ae.flat (by rw[List.length_append];rfl) ?_|refine ae.flat rfl ?_|refine ae.cons rfl ?_|refine ae.dead rfl ?_|refine ae.cons (by simp only[ak.ay,List.map_cons,List.map_nil,XC.ay,aB];exact rfl) ?_));first|done|fail) (reg:=by(repeat' (first|exact ah.nil|refine ah.flat (by rw[List.length_append];rfl) ?_|refine ah.flat rfl ?_|refine ah.cons rfl ?_|refine ah.sl rfl (by assumption) rfl ?_|refine ah.fN rfl rfl (by first|rfl|omega|(simp;done)|(simp;omega)) ?_));first|done|fail)) hnx (by show n-(s.out++[(y.1.m,y.2)]).length<n-s.out.length;rw[List.length_append];show n-(s.out.length+1)<_;omega)
  | true=>
    obtain rfl:=n6 hs (.inr hr)
    repeat' (first
     |(refine qz ?_;first
      |refine cl ?_ (hi:=by exact k_ hr rfl rfl (by decide) rfl)
      |refine cl ?_ (hi:=by exact nX he rfl rfl (by decide) rfl))
     |refine zz ?_|refine zx (fun _=>?_) (fun _=>?_)|fail)
    show aC _ _ _ _ _ _ _ _;refine kV [0,1,2,3,4,5,6,7,8,9,10,11,12,13,23] ?_
    simp only[XV.ay,List.map_cons,List.map_nil,X1.ay,aB];rfl
 ·obtain rfl:=n6 hs (.inl (by omega))
  repeat' (first
   |(refine qz ?_;first
    |refine cl ?_ (hi:=by exact nX he rfl rfl (by decide) rfl))
   |refine zz ?_|refine zx (fun _=>?_) (fun _=>?_)|fail)
  show aC _ _ _ _ _ _ _ _;refine kV [0,1,2,3,4,5,6,7,8,9,10,11,12,13,23] ?_
  simp only[XV.ay,List.map_cons,List.map_nil,X1.ay,aB];rfl
theorem Dy{ob:ak}{c:XC}{h:Hd}{p:Ph}{a q:List Int}{B:List Bool}{first:Int}{n:Nat}(hT:lT h p a q B first n)(ho:RO ob .u8 a)(hc:cY c 13 0 a.length){x:TA}(hx:fI B first n ⟨dQ h p,(0,false),[]⟩=x){e:Int}(he:ky B x.r=e)(he0:e≠0) :
 bh Tryz.prog 12 [.one (.ptr 0 0),.agg (f6 h),.agg (gV p),.one (.int .i64 first),.one (.int .i64 (n:Nat)),.one c] [bM 1 5 9,aw 2 3 4 cM,aR cM,aT cM,aS cM,aw 6 7 8 cZ,aR cZ,aT cZ,aS cZ,aw 10 11 12 cP,aR cP,aT cP,aS cP,ob] (.tup [.one .nils,.one (.int .i64 e)]) [bM 1 5 9,aw 2 3 4 cM,aR cM,aT cM,aS cM,aw 6 7 8 cZ,aR cZ,aT cZ,aS cZ,aw 10 11 12 cP,aR cP,aT cP,aS cP,ob]:=by
 have hfo:=ho.flat
 have h1:=hT.hd.dims.c0
 have h2:=hT.hd.dims.c1
 have h3:=hT.hd.dims.r0
 have h4:=hT.hd.dims.r1
 have hf:=hT.pos
 have hm:=hT.many
 have ha:=hT.all
 have hcr:1<=h.cols*h.rows/\h.cols*h.rows<=64:=jg hT.hd.dims
 refine cO Tryz.func12 ?_
 repeat' (first
  |(refine qz ?_;first
   |refine fG ?_ (hle:=by rw[br])
   |refine cl ?_ (hi:=by exact kT hT.hd rfl)
   |refine cl ?_ (hi:=by exact k9 hT.ph rfl)
   |refine cl ?_ (hi:=by exact vv ho hc hT.byt hT.len hT.esc hT.size hT.fits rfl nL nA rfl)
   |refine cl ?_ (hi:=by exact mG hT.hd rfl nL nA rfl))
  |refine zz ?_|refine zx (fun _=>?_) (fun _=>?_)|fail)
 refine WX.cU rfl ?_
 refine WX.dw (σ:=TA) (fun s=>[(3,.one (.int .i64 first)),(4,.one (.int .i64 (n:Nat))),(14,.one (.ptr 14 0)),(16,.one (.ptr 16 0)),(17,hZ 23 s.out.length 397),(18,.one (.int .i64 (s.out.length:Nat)))]) (fun s=>[bM 1 5 9,aw 2 3 4 cM,aR cM,aT cM,aS cM,aw 6 7 8 cZ,aR cZ,aT cZ,aS cZ,aw 10 11 12 cP,aR cP,aT cP,aS cP,ob,bt 15 q B s.r.1 s.r.2,aL q,Hx s.S 16,cn 18 s.S.cols s.S.rows,.map (ba s.S.M),Hy s.S 16,.map (ag s.S.A),.map (ag s.S.B),.map (ag s.S.C),cE 56 (fl gU s.out)]) (As B first n h.cols h.rows x) (fun s=>n-s.out.length) ⟨dQ h p,(0,false),[]⟩ ⟨Nat.zero_le _,hx,rfl,rfl,s5,by have:=hT.ph.qp;show -1000000<=p.qp/\p.qp<=1000000;omega⟩ (fun s _=>lD) (cG [0,1,2,3,4,5,6,7,8,9,10,11,12,13,16,17,18,19,20,21,22,23,24,25]) ?_
 intro s hs ih
 have hle:=hs.le
 have hn36:n<=64:=by omega
 have hlen:s.out.length<=64:=by omega
 by_cases hlt:s.out.length<n
 ·obtain⟨b,hr⟩:∃b,s.r.2=b:=⟨_,rfl⟩
  cases b with
  | false=>
    have xI:gR s.S.cols s.S.rows:=by rw[hs.cols,hs.rows];exact hT.hd.dims
    have hmb:0<=first+(s.out.length:Nat)/\first+(s.out.length:Nat)<s.S.cols*s.S.rows:=by rw[hs.cols,hs.rows];omega
    obtain⟨y,hy⟩:∃y,b_ s.S B (first+(s.out.length:Nat)) s.r=y:=⟨_,rfl⟩
    repeat' (first
     |(refine qz ?_;first
      |refine cl ?_ (hi:=by exact k_ hr rfl rfl (by decide) rfl)
      |refine cl ?_ (hi:=by exact EY hT.bits (S:=s.S) (r:=s.r) xI hs.tiny hmb hs.qp hy (i:=14) (k:=15) (N:=16) rfl rfl rfl rfl (by decide) nA rfl)
      |refine oR (enc:=gU) (a:=(y.1.m,y.2)) ?_
      |refine t5 (enc:=gU) ?_)
     |refine zz ?_|refine zx (fun _=>?_) (fun _=>?_)|fail)
    have e0:iU B first s=⟨y.1.S,y.1.r,s.out++[(y.1.m,y.2)]⟩:=by unfold iU;rw[hy]
    have hnx:=vW hs hlt hr
    rw[e0]at hnx
    refine ih ⟨y.1.S,y.1.r,s.out++[(y.1.m,y.2)]⟩ _ _ _ (cG [0,1,2,3,4,5,6,7,8,9,10,11,12,13,14,15,16,17,18,19,20,21,22,25] (obj:=by(repeat' (first|exact ae.nil|refine ae.flat (by rw[List.length_append];rfl) ?_|refine ae.flat rfl ?_|refine ae.cons rfl ?_|refine ae.dead rfl ?_|refine ae.cons (by simp only[ak.ay,List.map_cons,List.map_nil,XC.ay,aB];exact rfl) ?_));first|done|fail) (reg:=by(repeat' (first|exact ah.nil|refine ah.flat (by rw[List.length_append];rfl) ?_|refine ah.flat rfl ?_|refine ah.cons rfl ?_|refine ah.sl rfl (by assumption) rfl ?_|refine ah.fN rfl rfl (by first|rfl|omega|(simp;done)|(simp;omega)) ?_));first|done|fail)) hnx (by show n-(s.out++[(y.1.m,y.2)]).length<n-s.out.length;rw[List.length_append];show n-(s.out.length+1)<_;omega)
  | true=>
    obtain rfl:=n6 hs (.inr hr)
    repeat' (first
     |(refine qz ?_;first
      |refine cl ?_ (hi:=by exact k_ hr rfl rfl (by decide) rfl)
      |refine cl ?_ (hi:=by exact nX he rfl rfl (by decide) rfl))
     |refine zz ?_|refine zx (fun _=>?_) (fun _=>?_)|fail)
    show aC _ _ _ _ _ _ _ _;refine kV [0,1,2,3,4,5,6,7,8,9,10,11,12,13] ?_
    rfl
 ·obtain rfl:=n6 hs (.inl (by omega))
  repeat' (first
   |(refine qz ?_;first
    |refine cl ?_ (hi:=by exact nX he rfl rfl (by decide) rfl))
   |refine zz ?_|refine zx (fun _=>?_) (fun _=>?_)|fail)
  show aC _ _ _ _ _ _ _ _;refine kV [0,1,2,3,4,5,6,7,8,9,10,11,12,13] ?_
  rfl
theorem BS{ob:ak}{c:XC}{h:Hd}{p:Ph}(hd:qd h)(hp:tP p){a:List Int}(ho:RO ob .u8 a)(hc:cY c 13 0 a.length)(hl:bQ a)(hn:a.length<=30000){first:Int}{n:Nat}(hf:0<=first)(hm:1<=n)(ha:first+(n:Nat)<=h.cols*h.rows){e:Int}(he:kd a = .inl e) :
 bh Tryz.prog 12 [.one (.ptr 0 0),.agg (f6 h),.agg (gV p),.one (.int .i64 first),.one (.int .i64 (n:Nat)),.one c] (dU++[ob]) (.tup [.one .nils,.one (.int .i64 e)]) (dU++[ob]):=by
 have hfo:=ho.flat
 have he0:=(kZ he).1
 have h1:=hd.dims.c0
 have h2:=hd.dims.c1
 have h3:=hd.dims.r0
 have h4:=hd.dims.r1
 have hcr:1<=h.cols*h.rows/\h.cols*h.rows<=64:=jg hd.dims
 refine cO Tryz.func12 ?_
 repeat' (first
  |(refine qz ?_;first
   |refine fG ?_ (hle:=by rw[br])
   |refine cl ?_ (hi:=by exact kT hd rfl)
   |refine cl ?_ (hi:=by exact k9 hp rfl)
   |refine cl ?_ (hi:=by exact xV ho hc hl hn he rfl rfl))
  |refine zz ?_|refine zx (fun _=>?_) (fun _=>?_)|fail)
 show aC _ _ _ _ _ _ _ _;refine kV [0,1,2,3,4,5,6,7,8,9,10,11,12,13] ?_
 rfl
end Go.Proofs.YtagpkhindehcbaaGreat
