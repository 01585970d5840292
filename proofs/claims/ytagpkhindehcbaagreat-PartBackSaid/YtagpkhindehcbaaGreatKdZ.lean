/-
  A part of the proof: Fits, MacLaw, Macro, Made, Made2, AllLaw, AtK, FillLaw, BlkLaw.
-/
import Derived.Test.YtagpkhindehcbaaGreatKdM
import Derived.Test.YtagpkhindehcbaaGreatKdN
import Derived.Test.YtagpkhindehcbaaGreatKdP
import Derived.Test.YtagpkhindehcbaaGreatKdQ
import Derived.Test.YtagpkhindehcbaaGreatKdU
import Derived.Test.YtagpkhindehcbaaGreatKdX
set_option maxRecDepth 10000
set_option maxHeartbeats 8000000
set_option linter.unusedVariables false
set_option linter.unusedSectionVars false
set_option linter.unusedSimpArgs false
namespace Go.Proofs.YtagpkhindehcbaaGreat
open Go.Xm
variable [az]
def pP (h:Hd):Hd:=if h.w=true then {h with a:=fun i=>max (h.a i) 8,b:=fun i=>max (h.b i) 8}else {h with w:=false,a:=fun _=>0,b:=fun _=>0}
abbrev yt (h:Hd) (j:Nat):Hd:={h with a:=qd (fun i=>max (h.a i) 8) h.a j,b:=qd (fun i=>max (h.b i) 8) h.b j}
theorem E9 {h g:Hd}(hw:h.w=g.w) (ha:∀ i,i<64→h.a i=g.a i) (hb:∀ i,i<64→h.b i=g.b i):ek h=ek g:=by
 unfold ek
 rw [hw,q9 ha,q9 hb]
theorem Dh (k:IntKind) (f:Nat→Int) {n i:Nat}(hi:i<n) (z:Int):(ti k n f).set i (.int k z)=ti k n (c8 f i z):=rV k n f i z
theorem Iw (h:Hd) {i:Nat}(hi:i<64) (z:Int):(ek h).set (1+i) (.int .u8 z)=ek {h with a:=c8 h.a i z}:=by
 unfold ek
 rw [Nat.add_comm,List.set_cons_succ,List.set_append_left _ _ (by rw [aF];exact hi),Dh .u8 h.a hi z]
theorem Ix (h:Hd) {i:Nat}(hi:i<64) (z:Int):(ek h).set (65+i) (.int .u8 z)=ek {h with b:=c8 h.b i z}:=by
 unfold ek
 rw [show 65+i=(64+i)+1 by omega,List.set_cons_succ,List.set_append_right _ _ (by rw [aF];omega),aF,show 64+i-64=i by omega,Dh .u8 h.b hi z]
theorem Cf:bt Tryz.prog 24 (ek ⟨0,0,false,fun _=>0,fun _=>0⟩):=by
 show bt Tryz.prog 24 (.bool false::((ti .u8 64 fun _=>0)++(ti .u8 64 fun _=>0)))
 infer_instance
theorem GM (h:Hd) (hr:∀ i,i<64→(0≤h.a i∧h.a i≤255)∧(0≤h.b i∧h.b i≤255)):bn Tryz.prog 41 [.agg (ek h)] [] (.agg (ek (pP h))) []:=by
 obtain⟨w,hw⟩:∃ w,h.w=w:=⟨_,rfl⟩
 have h0:(ek h)[0]? = some (.bool w):=by rw [←hw];rfl
 cases w
 · have e:ek (pP h)=ek ⟨0,0,false,fun _=>0,fun _=>0⟩:=by unfold pP;rw [if_neg (by rw [hw];decide)];rfl
   rw [e]
   refine cO Tryz.func41 ?_
   repeat' (first
    |(refine qz ?_;first
     |refine qi (zs:=ek ⟨0,0,false,fun _=>0,fun _=>0⟩) (hz:=Cf) ?_
     |refine b0 (zs:=ek ⟨0,0,false,fun _=>0,fun _=>0⟩) (hz:=Cf) ?_
     |refine jb (cs:=ek ⟨0,0,false,fun _=>0,fun _=>0⟩) ?_ (hs1:=by rw [i5]) (hs2:=by rw [i5])
     |refine ld (hc:=h0) ?_)
    |refine zz ?_|refine zx (fun _=>?_) (fun _=>?_)|fail)
   show aC _ _ _ _ _ _ _ _;refine kV [] ?_
   rfl
 · have e:ek (pP h)=ek (yt h 64):=by
    unfold pP
    rw [if_pos hw]
    exact E9 rfl (fun i hi=>by simp [qd,hi]) (fun i hi=>by simp [qd,hi])
   rw [e]
   refine cO Tryz.func41 ?_
   repeat' (first
    |(refine qz ?_;first
     |refine qi (zs:=ek ⟨0,0,false,fun _=>0,fun _=>0⟩) (hz:=Cf) ?_
     |refine ld (hc:=h0) ?_)
    |refine zz ?_|refine zx (fun _=>?_) (fun _=>?_)|fail)
   refine WX.cS (σ:=Nat) (fun j=>[(8,.one (.int .i64 (j:Nat))),(1,.one (.ptr 0 0)),(2,.one (.ptr 1 0))]) (fun j=>[.cells (ek (yt h j)) 24 false false,.cells (ek ⟨0,0,false,fun _=>0,fun _=>0⟩) 24 false false]) (fun j=>j≤64) (fun j=>64-j) 0 (by omega) (fun s _=>j5) (bh [0,1] (obj:=by(repeat' (first|exact ae.nil|refine ae.flat (by rw [show yt h 0=h by unfold yt;rw [n9,n9]];rfl) ?_|refine ae.flat rfl ?_|refine ae.cons rfl ?_|refine ae.dead rfl ?_|refine ae.cons (by simp only [ak.ay,List.map_cons,List.map_nil,XC.ay,aw];exact rfl) ?_));first|done|fail)) ?_
   intro j hj ih
   by_cases hj64:j<64
   · have ga:=Iu (yt h j) hj64
     have gb:=Iv (yt h j) hj64
     have ea:(yt h j).a j=h.a j:=by simp [qd]
     have eb:(yt h j).b j=h.b j:=by simp [qd]
     rw [ea]at ga
     rw [eb]at gb
     have hrj:=hr j hj64
     have e1:({yt h j with a:=c8 (yt h j).a j (max (h.a j) 8),b:=c8 (yt h j).b j (max (h.b j) 8)}:Hd)=yt h (j+1):=by
      show({h with a:=c8 (qd (fun i=>max (h.a i) 8) h.a j) j (max (h.a j) 8),b:=c8 (qd (fun i=>max (h.b i) 8) h.b j) j (max (h.b j) 8)}:Hd)=_
      rw [n8 (fun i=>max (h.a i) 8),n8 (fun i=>max (h.b i) 8)]
     repeat' (first
      |(refine qz ?_;first
       |refine ld (hc:=ga) ?_
       |refine ld (hc:=gb) ?_
       |refine st ?_ (hle:=by rw [i5];omega) (hv:=Iw (yt h j) hj64 (max (h.a j) 8))
       |refine st ?_ (hle:=by rw [i5];omega) (hv:=Ix {yt h j with a:=c8 (yt h j).a j (max (h.a j) 8)} hj64 (max (h.b j) 8)))
      |refine zz ?_|refine zx (fun _=>?_) (fun _=>?_)|fail)
     refine ih (j+1) _ _ _ (bh [0,1] (obj:=by(repeat' (first|exact ae.nil|refine ae.flat (by rw [←e1];rfl) ?_|refine ae.flat rfl ?_|refine ae.cons rfl ?_|refine ae.dead rfl ?_|refine ae.cons (by simp only [ak.ay,List.map_cons,List.map_nil,XC.ay,aw];exact rfl) ?_));first|done|fail)) (by omega) (by omega)
   · obtain rfl:j=64:=by omega
     repeat' (first
      |(refine qz ?_;first
       |refine fW ?_ (hle:=by rw [i5])
       |refine jb (cs:=ek (yt h 64)) ?_ (hs1:=by rw [i5]) (hs2:=by rw [i5]))
      |refine zz ?_|refine zx (fun _=>?_) (fun _=>?_)|fail)
     show aC _ _ _ _ _ _ _ _;refine kV [] ?_
     rfl
theorem J1 {h g:Hd}(hr:∀ i,i<64→(0≤h.a i∧h.a i≤255)∧(0≤h.b i∧h.b i≤255)) (hg:pP h=g) {HS:aj}(hb:Nat.blt HS.length Mem.bound=true):aH.Sound Tryz.prog ⟨41,[.agg (ek h)],HS,.agg (ek g),HS,[]⟩:=by
 subst hg
 exact aA (GM h hr) (by simp only [List.all_cons,List.all_nil,Bool.and_true];exact o4 h) (o4 _) hb
def qy (h:Hd):Hd:={pP h with cols:=1+h.cols%2^3,rows:=1+h.rows%2^3}
structure sa (h:Hd):Prop where
 cols : -9223372036854775808≤h.cols∧h.cols≤9223372036854775807
 rows : -9223372036854775808≤h.rows∧h.rows≤9223372036854775807
 tab:∀ i,i<64→(0≤h.a i∧h.a i≤255)∧(0≤h.b i∧h.b i≤255)
theorem u9:bt Tryz.prog 26 (gO ⟨0,0,false,fun _=>0,fun _=>0⟩):=by
 show bt Tryz.prog 26 (.int .i64 0 :: .int .i64 0 :: .bool false::((ti .u8 64 fun _=>0)++(ti .u8 64 fun _=>0)))
 infer_instance
theorem Ea (h:Hd) (hr:sa h):bn Tryz.prog 19 [.agg (gO h)] [] (.agg (gO (qy h))) []:=by
 have r1:=hr.cols
 have r2:=hr.rows
 refine cO Tryz.func19 ?_
 repeat' (first
  |(refine qz ?_;first
   |refine qi (zs:=gO ⟨0,0,false,fun _=>0,fun _=>0⟩) (hz:=u9) ?_
   |refine rH (cs:=ek h) ?_ (hle:=by rw [bE];decide) (hc:=CL h)
   |refine an 3 ?_
   |refine cl ?_ (hi:=by exact J1 hr.tab rfl rfl))
  |refine zz ?_|refine zx (fun _=>?_) (fun _=>?_)|fail)
 show aC _ _ _ _ _ _ _ _;refine kV [] ?_
 rfl
theorem GK {h g:Hd}(hr:sa h) (hg:qy h=g) {HS:aj}(hb:Nat.blt HS.length Mem.bound=true):aH.Sound Tryz.prog ⟨19,[.agg (gO h)],HS,.agg (gO g),HS,[]⟩:=by
 subst hg
 exact aA (Ea h hr) (by simp only [List.all_cons,List.all_nil,Bool.and_true];exact iQ h) (iQ _) hb
structure nK (p:Ph):Prop where
 id : -9223372036854775808≤p.id∧p.id≤9223372036854775807
 qp : -9223372036854775808≤p.qp∧p.qp≤9223372036854775807
def nB (p:Ph):Ph:=⟨p.id%2^16,p.inter,p.inter && p.down,1+p.qp%2^5%31⟩
theorem Eb (p:Ph) (hr:nK p):bn Tryz.prog 20 [.agg (iJ p)] [] (.agg (iJ (nB p))) []:=by
 have r1:=hr.id
 have r2:=hr.qp
 obtain⟨b,hi⟩:∃ b,p.inter=b:=⟨_,rfl⟩
 have hl:(iJ p)[1]? = some (.bool b):=by rw [←hi];rfl
 have e:nB p=⟨p.id%2^16,b,b && p.down,1+p.qp%2^5%31⟩:=by unfold nB;rw [hi]
 rw [e]
 cases b
 · refine cO Tryz.func20 ?_
   repeat' (first
    |(refine qz ?_;first
     |refine ld (hc:=hl) ?_
     |refine an 16 ?_
     |refine an 5 ?_)
    |refine zz ?_|refine zx (fun _=>?_) (fun _=>?_)|fail)
   show aC _ _ _ _ _ _ _ _;refine kV [] ?_
   rfl
 · refine cO Tryz.func20 ?_
   repeat' (first
    |(refine qz ?_;first
     |refine ld (hc:=hl) ?_
     |refine an 16 ?_
     |refine an 5 ?_)
    |refine zz ?_|refine zx (fun _=>?_) (fun _=>?_)|fail)
   show aC _ _ _ _ _ _ _ _;refine kV [] ?_
   rfl
theorem GL {p g:Ph}(hr:nK p) (hg:nB p=g) {HS:aj}(hb:Nat.blt HS.length Mem.bound=true):aH.Sound Tryz.prog ⟨20,[.agg (iJ p)],HS,.agg (iJ g),HS,[]⟩:=by
 subst hg
 exact aA (Eb p hr) rfl rfl hb
theorem xq {p:Ph}(hr:nK p):AJ (nB p):=by
 refine⟨?_,?_,?_⟩
 · show 0≤p.id%2^16∧p.id%2^16≤65535
   omega
 · show 1≤1+p.qp%2^5%31∧1+p.qp%2^5%31≤31
   omega
 · intro h
   have h':(p.inter && p.down)=true:=h
   exact(Bool.and_eq_true_iff.1 h').1
def four (h:Hd):Hd:={qy h with cols:=1+(qy h).cols%2^2,rows:=1+(qy h).rows%2^2}
theorem xt (h:Hd):s9 (four h)∧1≤(four h).cols∧(four h).cols≤4∧1≤(four h).rows∧(four h).rows≤4:=by
 have c:1≤(four h).cols∧(four h).cols≤4:=by show 1≤1+(qy h).cols%2^2∧1+(qy h).cols%2^2≤4;omega
 have r:1≤(four h).rows∧(four h).rows≤4:=by show 1≤1+(qy h).rows%2^2∧1+(qy h).rows%2^2≤4;omega
 refine⟨⟨⟨by omega,by omega,by omega,by omega⟩,?_,?_⟩,c.1,c.2,r.1,r.2⟩
 · intro hw i hi
   have hw':(pP h).w=true:=hw
   show 8≤(pP h).a i∧8≤(pP h).b i
   unfold pP at hw' ⊢
   split at hw'
   · rename_i g
     rw [if_pos g]
     exact⟨Int.le_max_right _ _,Int.le_max_right _ _⟩
   · cases hw'
 · intro hw i hi
   have hw':(pP h).w=false:=hw
   show(pP h).a i=0∧(pP h).b i=0
   unfold pP at hw' ⊢
   split at hw'
   · rename_i g
     have:h.w=false:=hw'
     rw [g]at this
     cases this
   · rename_i g
     rw [if_neg g]
     exact⟨rfl,rfl⟩
structure Wy where
 x:Nat→Int
 y:Nat→Int
 same:Bool
def OV (w:Wy):List XC:=[.int .i8 (w.x 0),.int .i8 (w.x 1),.int .i8 (w.x 2),.int .i8 (w.x 3),.int .i8 (w.y 0),.int .i8 (w.y 1),.int .i8 (w.y 2),.int .i8 (w.y 3),.bool w.same]
def sI (w:Wy) (k:Nat):Int × Int:=if w.same=true then((w.x 0).tmod 32,(w.y 0).tmod 32)else((w.x k).tmod 32,(w.y k).tmod 32)
structure Cm (w:Wy):Prop where
 x:∀ k,k<4 → -128≤w.x k∧w.x k<128
 y:∀ k,k<4 → -128≤w.y k∧w.y k<128
theorem zeroV:bt Tryz.prog 49 (vt fun _=>(0,0)):=by
 show bt Tryz.prog 49 [cq (0,0),cq (0,0),cq (0,0),cq (0,0)]
 rw [dM]
 infer_instance
theorem gm {x y:Int}(hx : -128≤x∧x<128) (hy : -128≤y∧y<128) {q:Int × Int}(hq:(x.tmod 32,y.tmod 32)=q) {HS:aj}(hb:Nat.blt HS.length Mem.bound=true):aH.Sound Tryz.prog ⟨77,[.one (.int .i8 x),.one (.int .i8 y)],HS,.one (cq q),HS,[]⟩:=by
 subst hq;exact BM hx hy hb
theorem I4 (w:Wy) (hr:Cm w):bn Tryz.prog 43 [.agg (OV w)] [] (.agg (vt (sI w))) []:=by
 have x0:=hr.x 0 (by decide)
 have x1:=hr.x 1 (by decide)
 have x2:=hr.x 2 (by decide)
 have x3:=hr.x 3 (by decide)
 have y0:=hr.y 0 (by decide)
 have y1:=hr.y 1 (by decide)
 have y2:=hr.y 2 (by decide)
 have y3:=hr.y 3 (by decide)
 obtain⟨p0,h0⟩:∃ p,((w.x 0).tmod 32,(w.y 0).tmod 32)=p:=⟨_,rfl⟩
 obtain⟨p1,h1⟩:∃ p,((w.x 1).tmod 32,(w.y 1).tmod 32)=p:=⟨_,rfl⟩
 obtain⟨p2,h2⟩:∃ p,((w.x 2).tmod 32,(w.y 2).tmod 32)=p:=⟨_,rfl⟩
 obtain⟨p3,h3⟩:∃ p,((w.x 3).tmod 32,(w.y 3).tmod 32)=p:=⟨_,rfl⟩
 obtain⟨b,hb⟩:∃ b,w.same=b:=⟨_,rfl⟩
 have hl:(OV w)[8]? = some (.bool b):=by rw [←hb];rfl
 cases b
 · have e:vt (sI w) = [cq p0,cq p1,cq p2,cq p3]:=by
    have g:∀ k,sI w k=((w.x k).tmod 32,(w.y k).tmod 32):=fun k=>if_neg (by rw [hb];decide)
    show [cq (sI w 0),cq (sI w 1),cq (sI w 2),cq (sI w 3)]=_
    rw [g,g,g,g,h0,h1,h2,h3]
   rw [e]
   refine cO Tryz.func43 ?_
   repeat' (first
    |(refine qz ?_;first
     |refine qi (zs:=vt fun _=>(0,0)) (hz:=zeroV) ?_
     |refine ld (hc:=hl) ?_
     |refine cl ?_ (hi:=by exact gm x0 y0 h0 rfl)
     |refine cl ?_ (hi:=by exact gm x1 y1 h1 rfl)
     |refine cl ?_ (hi:=by exact gm x2 y2 h2 rfl)
     |refine cl ?_ (hi:=by exact gm x3 y3 h3 rfl))
    |refine WX.loop ?_|refine WX.round ?_|refine zz ?_|refine zx (fun _=>?_) (fun _=>?_)|fail)
   show aC _ _ _ _ _ _ _ _;refine kV [] ?_
   rfl
 · have e:vt (sI w) = [cq p0,cq p0,cq p0,cq p0]:=by
    have g:∀ k,sI w k=((w.x 0).tmod 32,(w.y 0).tmod 32):=fun k=>if_pos hb
    show [cq (sI w 0),cq (sI w 1),cq (sI w 2),cq (sI w 3)]=_
    rw [g,g,g,g,h0]
   rw [e]
   refine cO Tryz.func43 ?_
   repeat' (first
    |(refine qz ?_;first
     |refine qi (zs:=vt fun _=>(0,0)) (hz:=zeroV) ?_
     |refine ld (hc:=hl) ?_
     |refine cl ?_ (hi:=by exact gm x0 y0 h0 rfl)
     |refine cl ?_ (hi:=by exact gm x1 y1 h1 rfl)
     |refine cl ?_ (hi:=by exact gm x2 y2 h2 rfl)
     |refine cl ?_ (hi:=by exact gm x3 y3 h3 rfl))
    |refine WX.loop ?_|refine WX.round ?_|refine zz ?_|refine zx (fun _=>?_) (fun _=>?_)|fail)
   show aC _ _ _ _ _ _ _ _;refine kV [] ?_
   rfl
theorem Dt {w:Wy}(hr:Cm w) {q:Nat→Int × Int}(hq:sI w=q) {HS:aj}(hb:Nat.blt HS.length Mem.bound=true):aH.Sound Tryz.prog ⟨43,[.agg (OV w)],HS,.agg (vt q),HS,[]⟩:=by
 subst hq
 exact aA (I4 w hr) rfl rfl hb
theorem Nv:∀ n:Fin 256,-31≤((n.val:Int)-128).tmod 32∧((n.val:Int)-128).tmod 32≤31:=by decide +kernel
theorem s4 {x:Int}(h : -128≤x∧x<128) : -31≤x.tmod 32∧x.tmod 32≤31:=by
 have:=Nv ⟨(x+128).toNat,by omega⟩
 have e:(((x+128).toNat:Nat):Int)-128=x:=by omega
 simp only [e]at this
 exact this
theorem FD {w:Wy}(hr:Cm w):∀ k,k<4→d9 (sI w k)=true:=fun k hk=>by
 have a:=s4 (hr.x k hk)
 have b:=s4 (hr.y k hk)
 have c:=s4 (hr.x 0 (by decide))
 have d:=s4 (hr.y 0 (by decide))
 unfold sI d9
 split <;> exact decide_eq_true (by omega)
end Go.Proofs.YtagpkhindehcbaaGreat
namespace Go.Proofs.YtagpkhindehcbaaGreat
open Go.Xm
variable [az]
structure Sm where
 kind:Int
 step:Int
 wy:Wy
 edge:Bool
 keep:Nat→Int
 seed:Int
 great:Bool
def qU (s:Sm):List XC:=[.int .u8 s.kind,.int .u8 s.step,.int .i8 (s.wy.x 0),.int .i8 (s.wy.x 1),.int .i8 (s.wy.x 2),.int .i8 (s.wy.x 3),.int .i8 (s.wy.y 0),.int .i8 (s.wy.y 1),.int .i8 (s.wy.y 2),.int .i8 (s.wy.y 3),.bool s.wy.same,.bool s.edge,.int .u64 (s.keep 0),.int .u64 (s.keep 1),.int .u64 (s.keep 2),.int .u64 (s.keep 3),.int .u64 (s.keep 4),.int .u64 (s.keep 5),.int .u32 s.seed,.bool s.great]
instance:ry qU 20:=⟨fun _=>rfl,fun _=>rfl,by decide⟩
instance O5 (s:Sm) (e:TypeId) (a b:Bool):cI (.cells (qU s) e a b):=iP rfl
structure jy (s:Sm):Prop where
 kind:0≤s.kind∧s.kind≤255
 step:0≤s.step∧s.step≤255
 wy:Cm s.wy
 keep:∀ k,k<6→0≤s.keep k∧s.keep k<18446744073709551616
 seed:0≤s.seed∧s.seed<4294967296
def vp (n:Int):Int:=IntKind.u32.wrap (IntKind.u32.wrap (n*1664525)+1013904223)
theorem wrap32 (x:Int):0≤IntKind.u32.wrap x∧IntKind.u32.wrap x<4294967296:=by
 unfold IntKind.wrap
 simp [IntKind.bits,IntKind.signed]
 omega
def lT (s:Sm) (inter:Bool):Int:=if inter=true then s.kind%5 else 3+s.kind%2
def fX (s:Sm) (inter:Bool) (qp:Int):Int × Int:=
 if lT s inter=4 then(if 1≤qp+pB (s.step%4)∧qp+pB (s.step%4)≤31 then(4,qp+pB (s.step%4))else(3,qp))else(lT s inter,qp)
def Qv (s:Sm) (k i:Nat) (x:Int × (Nat→Int)):Int × (Nat→Int):=
 (vp x.1,if s.keep k/2^i%2=1 then(if s.great=true then c8 (c8 x.2 (k*64+i) (vp x.1/2^16%7-3)) (k*64+i) (vp x.1/2^16%1001-500)else c8 x.2 (k*64+i) (vp x.1/2^16%7-3))else x.2)
def pq (s:Sm) (k:Nat) (x:Int × (Nat→Int)):Nat→Int × (Nat→Int)
 | 0=>x
 | i+1=>Qv s k i (pq s k x i)
def kp (s:Sm) (al:Bool):Nat→Int × (Nat→Int)
 | 0=>(s.seed,fun _=>0)
 | k+1=>((pq s k (kp s al k) 64).1,if al=true then c8 (pq s k (kp s al k) 64).2 (k*64) ((pq s k (kp s al k) 64).1/2^20%128)else(pq s k (kp s al k) 64).2)
def pg (K:Int) (w:Wy):Nat→Int × Int:=if K=1 then fun _=>sI w 0 else if K=2 then fun k=>if k<4 then sI w k else(0,0)else fun _=>(0,0)
def yr (K:Int):Bool:=decide (K=3∨K=4)
def mS (s:Sm) (inter:Bool) (qp:Int):Mb:=
 ⟨(fX s inter qp).1,(fX s inter qp).2,pg (fX s inter qp).1 s.wy,if yr (fX s inter qp).1=true then s.edge else false,if(fX s inter qp).1=0 then fun _=>0 else(kp s (yr (fX s inter qp).1) 6).2⟩
theorem Hg (s:Sm) (k:Nat) (x:Int × (Nat→Int)) (j:Nat) (hj:j<k*64):∀ i,(pq s k x i).2 j=x.2 j:=by
 intro i
 induction i with
 | zero=>rfl
 | succ i ih=>
   show(if s.keep k/2^i%2=1 then(if s.great=true then c8 (c8 (pq s k x i).2 (k*64+i) _) (k*64+i) _ else c8 (pq s k x i).2 (k*64+i) _)else(pq s k x i).2) j=_
   split
   · split
     · unfold c8
       rw [if_neg (by omega),if_neg (by omega)];exact ih
     · unfold c8
       rw [if_neg (by omega)];exact ih
   · exact ih
theorem s5 {f:Nat→Int} {lo hi:Int}(h:∀ j,lo≤f j∧f j≤hi) {i:Nat} {z:Int}(hz:lo≤z∧z≤hi):∀ j,lo≤c8 f i z j∧c8 f i z j≤hi:=fun j=>by
 unfold c8
 by_cases g:j=i
 · rw [if_pos g];exact hz
 · rw [if_neg g];exact h j
theorem Kh (s:Sm) (k:Nat) (x:Int × (Nat→Int)) (h:∀ j,-500≤x.2 j∧x.2 j≤500):∀ i j,-500≤(pq s k x i).2 j∧(pq s k x i).2 j≤500:=by
 intro i
 induction i with
 | zero=>exact h
 | succ i ih=>
   show ∀ j,-500≤(if s.keep k/2^i%2=1 then(if s.great=true then c8 (c8 (pq s k x i).2 (k*64+i) (vp (pq s k x i).1/2^16%7-3)) (k*64+i) (vp (pq s k x i).1/2^16%1001-500)else c8 (pq s k x i).2 (k*64+i) (vp (pq s k x i).1/2^16%7-3))else(pq s k x i).2) j∧(if s.keep k/2^i%2=1 then(if s.great=true then c8 (c8 (pq s k x i).2 (k*64+i) (vp (pq s k x i).1/2^16%7-3)) (k*64+i) (vp (pq s k x i).1/2^16%1001-500)else c8 (pq s k x i).2 (k*64+i) (vp (pq s k x i).1/2^16%7-3))else(pq s k x i).2) j≤500
   obtain⟨z,hz⟩:∃ z,vp (pq s k x i).1/2^16=z:=⟨_,rfl⟩
   rw [hz]
   by_cases g1:s.keep k/2^i%2=1
   · rw [if_pos g1]
     by_cases g2:s.great=true
     · rw [if_pos g2]
       exact s5 (s5 ih (by omega)) (by omega)
     · rw [if_neg g2]
       exact s5 ih (by omega)
   · rw [if_neg g1]
     exact ih
theorem zn (s:Sm) (al:Bool):∀ k,(∀ j,-500≤(kp s al k).2 j∧(kp s al k).2 j≤500)∧(al=true→∀ j,j<k→0≤(kp s al k).2 (j*64)∧(kp s al k).2 (j*64)≤127):=by
 intro k
 induction k with
 | zero=>exact⟨fun j=>by show -500≤(0:Int)∧(0:Int)≤500;omega,fun _ j hj=>absurd hj (Nat.not_lt_zero _)⟩
 | succ k ih=>
   have hi:=Kh s k (kp s al k) ih.1 64
   obtain⟨y,hy⟩:∃ y,pq s k (kp s al k) 64=y:=⟨_,rfl⟩
   have hkp:=fun j hj=>Hg s k (kp s al k) j hj 64
   have e:(kp s al (k+1)).2=if al=true then c8 y.2 (k*64) (y.1/2^20%128)else y.2:=by
    show(if al=true then c8 (pq s k (kp s al k) 64).2 (k*64) ((pq s k (kp s al k) 64).1/2^20%128)else(pq s k (kp s al k) 64).2)=_
    rw [hy]
   rw [hy]at hi hkp
   obtain⟨z,hz⟩:∃ z,y.1/2^20=z:=⟨_,rfl⟩
   rw [e,hz]
   refine⟨fun j=>?_,fun ha j hj=>?_⟩
   · split
     · exact s5 hi (by omega) j
     · exact hi j
   · rw [if_pos ha]
     unfold c8
     by_cases hjk:j=k
     · rw [if_pos (by rw [hjk])];omega
     · rw [if_neg (by omega),hkp (j*64) (by omega)]
       exact ih.2 ha j (by omega)
theorem Is {q n:Int}(hn:0≤n∧n<4) (h:1≤q+pB n∧q+pB n≤31):(dV q (q+pB n)).2=true:=by
 have h4:n=0∨n=1∨n=2∨n=3:=by omega
 have e0:pB 0 = -2:=rfl
 have e1:pB 1 = -1:=rfl
 have e2:pB 2=1:=rfl
 have e3:pB 3=2:=rfl
 unfold dV
 rcases h4 with rfl|rfl|rfl|rfl
 · rw [e0]at h ⊢
   rw [if_neg (by omega),if_pos (by omega)]
 · rw [e1]at h ⊢
   rw [if_neg (by omega),if_neg (by omega),if_pos (by omega)]
 · rw [e2]at h ⊢
   rw [if_neg (by omega),if_neg (by omega),if_neg (by omega),if_pos (by omega)]
 · rw [e3]at h ⊢
   rw [if_neg (by omega),if_neg (by omega),if_neg (by omega),if_neg (by omega),if_pos (by omega)]
theorem zm (s:Sm) (inter:Bool) (qp:Int) (hs:jy s) (hq:1≤qp∧qp≤31):0≤(fX s inter qp).1∧(fX s inter qp).1≤4∧1≤(fX s inter qp).2∧(fX s inter qp).2≤31∧(inter=false→3≤(fX s inter qp).1)∧((fX s inter qp).1=4→(dV qp (fX s inter qp).2).2=true)∧((fX s inter qp).1≠4→(fX s inter qp).2=qp):=by
 have hk:=hs.kind
 have hst:=hs.step
 have hkk:0≤lT s inter∧lT s inter≤4∧(inter=false→3≤lT s inter):=by
  unfold lT
  cases inter
  · rw [if_neg (by decide)];exact⟨by omega,by omega,fun _=>by omega⟩
  · rw [if_pos rfl];exact⟨by omega,by omega,fun h=>by cases h⟩
 unfold fX
 by_cases h4:lT s inter=4
 · rw [if_pos h4]
   by_cases hr:1≤qp+pB (s.step%4)∧qp+pB (s.step%4)≤31
   · rw [if_pos hr]
     exact⟨by show(0:Int)≤4;decide,by show(4:Int)≤4;decide,hr.1,hr.2,fun _=>by show(3:Int)≤4;decide,fun _=>Is (by omega) hr,fun g=>absurd rfl g⟩
   · rw [if_neg hr]
     exact⟨by show(0:Int)≤3;decide,by show(3:Int)≤4;decide,hq.1,hq.2,fun _=>by show(3:Int)≤3;decide,fun g=>absurd (show(3:Int)=4 from g) (by decide),fun _=>rfl⟩
 · rw [if_neg h4]
   exact⟨hkk.1,hkk.2.1,hq.1,hq.2,hkk.2.2,fun g=>absurd g h4,fun _=>rfl⟩
theorem Bm {s:Sm} {inter:Bool} {qp:Int}(hs:jy s) (hq:1≤qp∧qp≤31):i_ (mS s inter qp)∧dk (mS s inter qp) inter qp=0∧1≤(mS s inter qp).qp∧(mS s inter qp).qp≤31:=by
 obtain⟨k0,k4,q1,q31,hal,hst,hne⟩:=zm s inter qp hs hq
 obtain⟨H,hH⟩:∃ H,fX s inter qp=H:=⟨_,rfl⟩
 have hm:mS s inter qp=⟨H.1,H.2,pg H.1 s.wy,if yr H.1=true then s.edge else false,if H.1=0 then fun _=>0 else(kp s (yr H.1) 6).2⟩:=by unfold mS;rw [hH]
 rw [hH]at k0 k4 q1 q31 hal hst hne
 rw [hm]
 obtain⟨m,hmm⟩:∃ m:Mb,(⟨H.1,H.2,pg H.1 s.wy,if yr H.1=true then s.edge else false,if H.1=0 then fun _=>0 else(kp s (yr H.1) 6).2⟩:Mb)=m:=⟨_,rfl⟩
 have mk:m.kind=H.1:=by rw [←hmm]
 have mq:m.qp=H.2:=by rw [←hmm]
 have mv:m.v=pg H.1 s.wy:=by rw [←hmm]
 have me:m.edge=if yr H.1=true then s.edge else false:=by rw [←hmm]
 have ml:m.lev=if H.1=0 then fun _=>0 else(kp s (yr H.1) 6).2:=by rw [←hmm]
 have ma:alone m=yr H.1:=by unfold alone yr;rw [mk]
 rw [hmm]
 have hlr:∀ i,-500≤m.lev i∧m.lev i≤500:=fun i=>by
  rw [ml]
  split
  · show -500≤(0:Int)∧(0:Int)≤500;omega
  · exact(zn s _ 6).1 i
 have hwt:∀ k,k<4→d9 (sI s.wy k)=true:=FD hs.wy
 have hrz:d9 (0,0)=true:=by decide
 have hvr:∀ k,k<4→d9 (m.v k)=true:=fun k hk=>by
  rw [mv];unfold pg
  split
  · exact hwt 0 (by decide)
  · split
    · show d9 (if k<4 then sI s.wy k else(0,0))=true
      rw [if_pos hk]
      exact hwt k hk
    · exact hrz
 have hvg:∀ k,k<4→pD m k:=fun k hk=>by
  refine⟨hvr k hk,fun g=>?_,fun g1 g2=>?_⟩
  · rw [mv];unfold pg
    rw [mk]at g
    rw [if_neg g]
    split
    · rfl
    · rfl
  · rw [mv];unfold pg
    rw [mk]at g1 g2
    rw [if_neg g1,if_neg g2]
 have hq':1≤m.qp∧m.qp≤31:=by rw [mq];exact⟨q1,q31⟩
 refine⟨⟨by rw [mk];omega,by omega,fun k=>?_,fun i=>by have:=hlr i;omega⟩,?_,hq'.1,hq'.2⟩
 · rw [mv];unfold pg
   have tw:∀ k,k<4→bu (sI s.wy k):=fun k hk=>by
    have:=hwt k hk
    unfold d9 at this
    have h:=of_decide_eq_true this
    exact⟨by unfold fD;omega,by unfold fD;omega⟩
   split
   · exact tw 0 (by decide)
   · split
     · show bu (if k<4 then sI s.wy k else(0,0))
       split
       · rename_i h;exact tw k h
       · exact Dj
     · exact Dj
 · unfold dk
   rw [if_neg (fun g=>by
    rcases g with g|⟨g1,g2⟩
    · rw [mk]at g;omega
    · have:=hal g1
      rw [ma]at g2
      unfold yr at g2
      have:=of_decide_eq_false g2
      omega)]
   rw [if_neg (fun g=>by rw [me,←ma,g.2,if_neg (by decide)]at g;exact absurd g.1 (by decide))]
   rw [if_neg (fun g=>by
    have h4:H.1=4:=mk ▸ g.1
    have:=hst h4
    rw [mq,this]at g
    exact absurd g.2 (by decide))]
   rw [if_neg (fun g=>g.2 (by rw [mq];exact hne (by rw [←mk];exact g.1)))]
   have hv0:gJ m=0:=if_pos ⟨hvg 0 (by decide),hvg 1 (by decide),hvg 2 (by decide),hvg 3 (by decide)⟩
   rw [if_neg (fun g=>g hv0)]
   exact if_pos fun i hi=>⟨fun g=>by rw [ml,if_pos (by rw [←mk];exact g)],by have:=hlr i;omega,fun h64 ha=>by
    rw [ma]at ha
    have h0:H.1≠0:=fun e=>by rw [e]at ha;revert ha;decide
    rw [ml,if_neg h0]
    have:=(zn s (yr H.1) 6).2 ha (i/64) (by omega)
    rw [show i/64*64=i by omega]at this
    exact this⟩
end Go.Proofs.YtagpkhindehcbaaGreat
namespace Go.Proofs.YtagpkhindehcbaaGreat
open Go.Xm
variable [az]
theorem sS (m:Mb) (z:Int):(mC m).set 0 (.int .u8 z)=mC {m with kind:=z}:=rfl
theorem OF (m:Mb) (z:Int):(mC m).set 1 (.int .i64 z)=mC {m with qp:=z}:=rfl
theorem Kf (m:Mb) (b:Bool):(mC m).set 6 (.bool b)=mC {m with edge:=b}:=rfl
theorem LP (m:Mb) (q:Nat→Int × Int):(mC m).take 2++vt q++(mC m).drop (2+4)=mC {m with v:=q}:=rfl
theorem Kg (m:Mb) (j:Nat) (z:Int):(mC m).set (7+j) (.int .i64 z)=mC {m with lev:=c8 m.lev j z}:=by
 unfold mC
 rw [Nat.add_comm]
 simp only [List.set_cons_succ]
 rw [rV]
theorem sT (m:Mb) (k i:Nat) (z:Int):(mC m).set (7+k*64+i) (.int .i64 z)=mC {m with lev:=c8 m.lev (k*64+i) z}:=by
 rw [Nat.add_assoc]
 exact Kg m _ z
theorem ir (m:Mb):(mC m)[0]? = some (.int .u8 m.kind):=rfl
theorem zY {x:Int}(h:0≤x∧x<4):([.int .i64 (-2),.int .i64 (-1),.int .i64 1,.int .i64 2]:List XC)[x.toNat]? = some (.int .i64 (pB x)):=by
 have:x=0∨x=1∨x=2∨x=3:=by omega
 rcases this with rfl|rfl|rfl|rfl <;> rfl
theorem Ik (s:Sm) {k:Nat}(hk:k<6):(qU s)[12+k]? = some (.int .u64 (s.keep k)):=by
 match k,hk with
 | 0,_=>rfl
 | 1,_=>rfl
 | 2,_=>rfl
 | 3,_=>rfl
 | 4,_=>rfl
 | 5,_=>rfl
theorem Hi (s:Sm) (al:Bool) (k:Nat) {y:Int × (Nat→Int)}(hy:pq s k (kp s al k) 64=y):kp s al (k+1)=(y.1,if al=true then c8 y.2 (k*64) (y.1/2^20%128)else y.2):=by
 subst hy;rfl
theorem Hh (s:Sm) (k:Nat) (x:Int × (Nat→Int)) (i:Nat) {y:Int × (Nat→Int)}(hy:pq s k x i=y):pq s k x (i+1)=(vp y.1,if s.keep k/2^i%2=1 then(if s.great=true then c8 (c8 y.2 (k*64+i) (vp y.1/2^16%7-3)) (k*64+i) (vp y.1/2^16%1001-500)else c8 y.2 (k*64+i) (vp y.1/2^16%7-3))else y.2):=by
 subst hy;rfl
abbrev Jp (K Q:Int):Mb:={kr with kind:=K,qp:=Q}
theorem Ki {s : Sm} (hs:jy s) (inter:Bool) {qp:Int}(hq:1≤qp∧qp≤31):bn Tryz.prog 21 [.agg (qU s),.one (.bool inter),.one (.int .i64 qp)] [] (.agg (mC (mS s inter qp))) []:=by
 have hk:=hs.kind
 have hst:=hs.step
 have hkq:=zm s inter qp hs hq
 refine cO Tryz.func21 ?_
 repeat' (first
  |(refine qz ?_;first
   |refine qi (zs:=mC kr) (hz:=ia) ?_
   |refine bS (zs:=mC kr) (hz:=ia) ?_
   |refine jb (cs:=mC (Jp (s.kind%5) qp)) ?_ (hs1:=by rw [aJ]) (hs2:=by rw [aJ]))
  |refine WX.xz 2 (σ:=Int) (fun K=>[(1,.one (.bool inter)),(2,.one (.int .i64 qp)),(3,.one (.ptr 0 0)),(6,.one (.ptr 1 0)),(7,.one (.ptr 2 0))]) (fun K=>[.cells (qU s) 81 false false,.cells (mC kr) 53 false false,.cells (mC (Jp K qp)) 53 false false]) (fun K=>lT s inter=K) (fun s _=>j5) ?_ ?_|refine zz ?_|refine zx (fun _=>?_) (fun _=>?_)|fail)
 · intro _
   cases inter
   · repeat' (first
      |(refine qz ?_;first
       |refine st ?_ (hle:=by rw [aJ];omega) (hv:=sS _ _))
      |refine zz ?_|refine zx (fun _=>?_) (fun _=>?_)|fail)
     (first|exact⟨lT s false,_,rfl,(bh [0,1,2])⟩|exact⟨rfl,lT s false,_,rfl,(bh [0,1,2])⟩)
   · repeat' (first|refine zz ?_|refine zx (fun _=>?_) (fun _=>?_)|fail)
     (first|exact⟨lT s true,_,rfl,(bh [0,1,2])⟩|exact⟨rfl,lT s true,_,rfl,(bh [0,1,2])⟩)
 · intro K hK
   have hkr:0≤K∧K≤4:=by
    rw [←hK]
    unfold lT
    split <;> omega
   refine WX.xz 4 (σ:=Int × Int) (fun x=>[(1,.one (.bool inter)),(2,.one (.int .i64 qp)),(3,.one (.ptr 0 0)),(6,.one (.ptr 1 0)),(7,.one (.ptr 2 0))]) (fun x=>[.cells (qU s) 81 false false,.cells (mC kr) 53 false false,.cells (mC (Jp x.1 x.2)) 53 false false]) (fun x=>fX s inter qp=x) (fun s _=>j5) ?_ ?_
   · intro _
     have hb:=Dg (s.step%4)
     by_cases h4:K=4
     · by_cases hr:1≤qp+pB (s.step%4)∧qp+pB (s.step%4)≤31
       · have e0:fX s inter qp=(4,qp+pB (s.step%4)):=by unfold fX;rw [hK,if_pos h4,if_pos hr]
         have hr1:=hr.1
         have hr2:=hr.2
         repeat' (first
          |(refine qz ?_;first
           |refine ld (c := .int .u8 K) ?_ (hc:=ir _)
           |refine st (c := .int .u8 3) ?_ (hle:=by rw [aJ];omega) (hv:=sS _ _)
           |refine st (c := .int .u8 4) ?_ (hle:=by rw [aJ];omega) (hv:=sS _ _)
           |refine st (c := .int .i64 (qp+pB (s.step%4))) ?_ (hle:=by rw [aJ];omega) (hv:=OF _ _)
           |refine cl ?_ (hi:=by exact ou rfl)
           |refine pS ?_ (hc:=zY (by omega)))
          |refine zz ?_|refine zx (fun _=>?_) (fun _=>?_)|fail)
         (first|exact⟨(4,qp+pB (s.step%4)),_,e0,(bh [0,1,2])⟩|exact⟨rfl,(4,qp+pB (s.step%4)),_,e0,(bh [0,1,2])⟩)
       · have e0:fX s inter qp=(3,qp):=by unfold fX;rw [hK,if_pos h4,if_neg hr]
         repeat' (first
          |(refine qz ?_;first
           |refine ld (c := .int .u8 K) ?_ (hc:=ir _)
           |refine st (c := .int .u8 3) ?_ (hle:=by rw [aJ];omega) (hv:=sS _ _)
           |refine cl ?_ (hi:=by exact ou rfl)
           |refine pS ?_ (hc:=zY (by omega)))
          |refine zz ?_|refine zx (fun _=>?_) (fun _=>?_)|fail)
         all_goals first|(exfalso;omega)|(first|exact⟨(3,qp),_,e0,(bh [0,1,2])⟩|exact⟨rfl,(3,qp),_,e0,(bh [0,1,2])⟩)
     · have e0:fX s inter qp=(K,qp):=by unfold fX;rw [hK,if_neg h4]
       repeat' (first
        |(refine qz ?_;first
         |refine ld (c := .int .u8 K) ?_ (hc:=ir _))
        |refine zz ?_|refine zx (fun _=>?_) (fun _=>?_)|fail)
       (first|exact⟨(K,qp),_,e0,(bh [0,1,2])⟩|exact⟨rfl,(K,qp),_,e0,(bh [0,1,2])⟩)
   · intro H hH
     rw [hH]at hkq
     obtain⟨k0,k4,q1,q31,-,-,-⟩:=hkq
     obtain⟨q,hwq⟩:∃ q,sI s.wy=q:=⟨_,rfl⟩
     by_cases h0:H.1=0
     · have eM:mS s inter qp=Jp H.1 H.2:=by
        unfold mS
        rw [hH]
        have e1:pg H.1 s.wy=fun _=>(0,0):=by unfold pg;rw [if_neg (by omega),if_neg (by omega)]
        have e2:yr H.1=false:=decide_eq_false (by omega)
        rw [e1,e2,if_pos h0,if_neg (by decide)]
        rfl
       rw [eM]
       repeat' (first
        |(refine qz ?_;first
         |refine rH (cs:=OV s.wy) ?_
         |refine cl ?_ (hi:=by exact Dt hs.wy hwq rfl)
         |refine qi (zs:=vt fun _=>(0,0)) (hz:=zeroV) ?_
         |refine jb (cs:=vt q) ?_ (hs1:=by rfl) (hs2:=by rfl)
         |refine ld (c := .int .u8 H.1) ?_ (hc:=ir _)
         |refine fW ?_ (hle:=by rw [aJ])
         |refine jb (cs:=mC (Jp H.1 H.2)) ?_ (hs1:=by rw [aJ]) (hs2:=by rw [aJ]))
        |refine zz ?_|refine zx (fun _=>?_) (fun _=>?_)|fail)
       show aC _ _ _ _ _ _ _ _;refine kV [] ?_
       rfl
     · obtain ⟨m, hm⟩:∃ m:Mb,(⟨H.1,H.2,pg H.1 s.wy,if yr H.1=true then s.edge else false,fun _=>0⟩:Mb)=m:=⟨_,rfl⟩
       repeat' (first
        |(refine qz ?_;first
         |refine rH (cs:=OV s.wy) ?_
         |refine cl ?_ (hi:=by exact Dt hs.wy hwq rfl)
         |refine qi (zs:=vt fun _=>(0,0)) (hz:=zeroV) ?_
         |refine jb (cs:=vt q) ?_ (hs1:=by rfl) (hs2:=by rfl))
        |refine WX.xz 10 (σ:=Mb) (fun x=>[(3,.one (.ptr 0 0)),(6,.one (.ptr 1 0)),(7,.one (.ptr 2 0))]) (fun x=>[.cells (qU s) 81 false false,.cells (mC kr) 53 false false,.cells (mC x) 53 false false]) (fun x=>m=x) (fun s _=>j5) ?_ ?_|refine zz ?_|refine zx (fun _=>?_) (fun _=>?_)|fail)
       · intro _
         by_cases h1:H.1=1
         · have e1:mC m=mC {Jp H.1 H.2 with v:=fun _=>q 0}:=by
            rw [←hm,←hwq]
            have e1:pg H.1 s.wy=fun _=>sI s.wy 0:=if_pos h1
            have e2:yr H.1=false:=decide_eq_false (by omega)
            rw [e1,e2,if_neg (by decide)]
            rfl
           repeat' (first
            |(refine qz ?_;first
             |refine ld (c := .int .u8 H.1) ?_ (hc:=ir _)
             |refine cl ?_ (hi:=by exact L_ rfl)
             |refine NU (off:=2) (s:=4) ?_ (hs2:=by rw [aJ];omega) (hv:=LP (Jp H.1 H.2) (fun _=>q 0)))
            |refine zz ?_|refine zx (fun _=>?_) (fun _=>?_)|fail)
           first|exact⟨m,_,rfl,(bh [0,1,2] (obj:=by(repeat' (first|exact ae.nil|refine ae.flat (by rw [e1];rfl) ?_|refine ae.flat rfl ?_|refine ae.cons rfl ?_|refine ae.dead rfl ?_|refine ae.cons (by simp only [ak.ay,List.map_cons,List.map_nil,XC.ay,aw];exact rfl) ?_));first|done|fail))⟩|exact⟨rfl,m,_,rfl,(bh [0,1,2] (obj:=by(repeat' (first|exact ae.nil|refine ae.flat (by rw [e1];rfl) ?_|refine ae.flat rfl ?_|refine ae.cons rfl ?_|refine ae.dead rfl ?_|refine ae.cons (by simp only [ak.ay,List.map_cons,List.map_nil,XC.ay,aw];exact rfl) ?_));first|done|fail))⟩
         · by_cases h2:H.1=2
           · have e1:mC m=mC {Jp H.1 H.2 with v:=q}:=by
              rw [←hm,←hwq]
              have e1:pg H.1 s.wy=fun k=>if k<4 then sI s.wy k else(0,0):=by unfold pg;rw [if_neg h1,if_pos h2]
              have e2:yr H.1=false:=decide_eq_false (by omega)
              rw [e1,e2,if_neg (by decide)]
              rfl
             repeat' (first
              |(refine qz ?_;first
               |refine ld (c := .int .u8 H.1) ?_ (hc:=ir _)
               |refine fW ?_ (hle:=by rfl)
               |refine NU (cs:=vt q) (off:=2) (s:=4) ?_ (hs2:=by rw [aJ];omega) (hv:=LP (Jp H.1 H.2) q))
              |refine zz ?_|refine zx (fun _=>?_) (fun _=>?_)|fail)
             first|exact⟨m,_,rfl,(bh [0,1,2] (obj:=by(repeat' (first|exact ae.nil|refine ae.flat (by rw [e1];rfl) ?_|refine ae.flat rfl ?_|refine ae.cons rfl ?_|refine ae.dead rfl ?_|refine ae.cons (by simp only [ak.ay,List.map_cons,List.map_nil,XC.ay,aw];exact rfl) ?_));first|done|fail))⟩|exact⟨rfl,m,_,rfl,(bh [0,1,2] (obj:=by(repeat' (first|exact ae.nil|refine ae.flat (by rw [e1];rfl) ?_|refine ae.flat rfl ?_|refine ae.cons rfl ?_|refine ae.dead rfl ?_|refine ae.cons (by simp only [ak.ay,List.map_cons,List.map_nil,XC.ay,aw];exact rfl) ?_));first|done|fail))⟩
           · have e1:mC m=mC {Jp H.1 H.2 with edge:=s.edge}:=by
              rw [←hm]
              have e1:pg H.1 s.wy=fun _=>(0,0):=by unfold pg;rw [if_neg h1,if_neg h2]
              have e2:yr H.1=true:=decide_eq_true (by omega)
              rw [e1,e2,if_pos rfl]
              rfl
             repeat' (first
              |(refine qz ?_;first
               |refine ld (c := .int .u8 H.1) ?_ (hc:=ir _)
               |refine st (c := .bool s.edge) ?_ (hle:=by rw [aJ];omega) (hv:=Kf _ _))
              |refine zz ?_|refine zx (fun _=>?_) (fun _=>?_)|fail)
             first|exact⟨m,_,rfl,(bh [0,1,2] (obj:=by(repeat' (first|exact ae.nil|refine ae.flat (by rw [e1];rfl) ?_|refine ae.flat rfl ?_|refine ae.cons rfl ?_|refine ae.dead rfl ?_|refine ae.cons (by simp only [ak.ay,List.map_cons,List.map_nil,XC.ay,aw];exact rfl) ?_));first|done|fail))⟩|exact⟨rfl,m,_,rfl,(bh [0,1,2] (obj:=by(repeat' (first|exact ae.nil|refine ae.flat (by rw [e1];rfl) ?_|refine ae.flat rfl ?_|refine ae.cons rfl ?_|refine ae.dead rfl ?_|refine ae.cons (by simp only [ak.ay,List.map_cons,List.map_nil,XC.ay,aw];exact rfl) ?_));first|done|fail))⟩
       · intro x hx
         subst hx
         have em0:mC m=mC {m with lev:=fun _=>0}:=by rw [←hm]
         obtain⟨al,hal⟩:∃ al,yr H.1=al:=⟨_,rfl⟩
         have hma:alone m=al:=by rw [←hal,←hm];rfl
         have eM:mS s inter qp = {m with lev:=(kp s al 6).2}:=by
          unfold mS
          rw [hH,if_neg h0,←hal,←hm]
         rw [eM]
         have hsd:=hs.seed
         repeat' (first
          |(refine qz ?_;first
           |refine ld (c := .int .u32 s.seed) ?_)
          |refine zz ?_|refine zx (fun _=>?_) (fun _=>?_)|fail)
         refine WX.cS (σ:=Nat × Int × (Nat→Int)) (fun t=>[(3,.one (.ptr 0 0)),(6,.one (.ptr 1 0)),(7,.one (.ptr 2 0)),(10,.one (.int .u32 t.2.1)),(68,.one (.int .i64 (t.1:Nat)))]) (fun t=>[.cells (qU s) 81 false false,.cells (mC kr) 53 false false,.cells (mC {m with lev:=t.2.2}) 53 false false]) (fun t=>t.1≤6∧kp s al t.1=t.2∧0≤t.2.1∧t.2.1<4294967296) (fun t=>6-t.1) (0,s.seed,fun _=>0) ⟨Nat.zero_le _,rfl,hsd.1,hsd.2⟩ (fun s _=>j5) (bh [0,1,2] (obj:=by(repeat' (first|exact ae.nil|refine ae.flat (by rw [em0];rfl) ?_|refine ae.flat rfl ?_|refine ae.cons rfl ?_|refine ae.dead rfl ?_|refine ae.cons (by simp only [ak.ay,List.map_cons,List.map_nil,XC.ay,aw];exact rfl) ?_));first|done|fail)) ?_
         intro t ⟨ht6,hto,htn⟩ ih
         by_cases hlt:t.1<6
         · have hkp:=hs.keep t.1 hlt
           repeat' (first|refine zz ?_|refine zx (fun _=>?_) (fun _=>?_)|fail)
           refine WX.cS (σ:=Nat × Int × (Nat→Int)) (fun u=>[(3,.one (.ptr 0 0)),(6,.one (.ptr 1 0)),(7,.one (.ptr 2 0)),(10,.one (.int .u32 u.2.1)),(11,.one (.int .i64 (t.1:Nat))),(68,.one (.int .i64 (t.1:Nat))),(71,.one (.int .i64 (u.1:Nat)))]) (fun u=>[.cells (qU s) 81 false false,.cells (mC kr) 53 false false,.cells (mC {m with lev:=u.2.2}) 53 false false]) (fun u=>u.1≤64∧pq s t.1 t.2 u.1=u.2∧0≤u.2.1∧u.2.1<4294967296) (fun u=>64-u.1) (0,t.2) ⟨Nat.zero_le _,rfl,htn⟩ (fun s _=>j5) (bh [0,1,2]) ?_
           intro u ⟨hu64,hui,hun⟩ ih2
           by_cases hlu:u.1<64
           · have hn:=wrap32 (IntKind.u32.wrap (u.2.1*1664525)+1013904223)
             have hd:0≤IntKind.u32.wrap (IntKind.u32.wrap (u.2.1*1664525)+1013904223)/2^(16:Int).toNat∧IntKind.u32.wrap (IntKind.u32.wrap (u.2.1*1664525)+1013904223)/2^(16:Int).toNat<4294967296:=by
              show 0≤IntKind.u32.wrap (IntKind.u32.wrap (u.2.1*1664525)+1013904223)/2^16∧IntKind.u32.wrap (IntKind.u32.wrap (u.2.1*1664525)+1013904223)/2^16<4294967296
              omega
             have hk2:=Ik s hlt
             have hnx:=Hh s t.1 t.2 u.1 hui
             by_cases hbit:s.keep t.1/2^((u.1:Nat):Int).toNat%2^1=1
             · have hbit':s.keep t.1/2^u.1%2=1:=hbit
               obtain⟨gr,hgr⟩:∃ g,s.great=g:=⟨_,rfl⟩
               have hl:(qU s)[19]? = some (.bool gr):=by rw [←hgr];rfl
               rw [if_pos hbit',hgr]at hnx
               cases gr
               · rw [if_neg (by decide)]at hnx
                 repeat' (first
                  |(refine qz ?_;first
                   |refine PB (k := .u32) ?_
                   |refine Pe (k := .u32) ?_
                   |refine ld (hc:=hl) ?_
                   |refine ld (hc:=hk2) ?_
                   |refine an 1 ?_
                   |refine st ?_ (hle:=by rw [aJ];omega) (hv:=sT _ _ _ _))
                  |refine zz ?_|refine zx (fun _=>?_) (fun _=>?_)|fail)
                 exact ih2 (u.1+1,vp u.2.1,c8 u.2.2 (t.1*64+u.1) (vp u.2.1/2^16%7-3)) _ _ _ (bh [0,1,2]) ⟨by show u.1+1≤64;omega,hnx,hn.1,hn.2⟩ (by show 64-(u.1+1)<64-u.1;omega)
               · rw [if_pos rfl]at hnx
                 repeat' (first
                  |(refine qz ?_;first
                   |refine PB (k := .u32) ?_
                   |refine Pe (k := .u32) ?_
                   |refine ld (hc:=hl) ?_
                   |refine ld (hc:=hk2) ?_
                   |refine an 1 ?_
                   |refine st ?_ (hle:=by rw [aJ];omega) (hv:=sT _ _ _ _))
                  |refine zz ?_|refine zx (fun _=>?_) (fun _=>?_)|fail)
                 exact ih2 (u.1+1,vp u.2.1,c8 (c8 u.2.2 (t.1*64+u.1) (vp u.2.1/2^16%7-3)) (t.1*64+u.1) (vp u.2.1/2^16%1001-500)) _ _ _ (bh [0,1,2]) ⟨by show u.1+1≤64;omega,hnx,hn.1,hn.2⟩ (by show 64-(u.1+1)<64-u.1;omega)
             · have hbit':¬s.keep t.1/2^u.1%2=1:=hbit
               rw [if_neg hbit']at hnx
               repeat' (first
                |(refine qz ?_;first
                 |refine PB (k := .u32) ?_
                 |refine Pe (k := .u32) ?_
                 |refine ld (hc:=hk2) ?_
                 |refine an 1 ?_
                 |refine st ?_ (hle:=by rw [aJ];omega) (hv:=sT _ _ _ _))
                |refine zz ?_|refine zx (fun _=>?_) (fun _=>?_)|fail)
               exact ih2 (u.1+1,vp u.2.1,u.2.2) _ _ _ (bh [0,1,2]) ⟨by show u.1+1≤64;omega,hnx,hn.1,hn.2⟩ (by show 64-(u.1+1)<64-u.1;omega)
           · have e64:u.1=64:=by omega
             rw [e64,←hto]at hui
             have hox:=Hi s al t.1 hui
             have hd:0≤u.2.1/2^(20:Int).toNat∧u.2.1/2^(20:Int).toNat<4294967296:=by
              show 0≤u.2.1/2^20∧u.2.1/2^20<4294967296
              omega
             cases al
             · rw [if_neg (by decide)]at hox
               repeat' (first
                |(refine qz ?_;first
                 |refine fW ?_ (hle:=by rw [aJ])
                 |refine cl ?_ (hi:=by exact gU (m:={m with lev:=u.2.2}) (b:=false) hma rfl))
                |refine zz ?_|refine zx (fun _=>?_) (fun _=>?_)|fail)
               exact ih (t.1+1,u.2.1,u.2.2) _ _ _ (bh [0,1,2]) ⟨by show t.1+1≤6;omega,hox,hun⟩ (by show 6-(t.1+1)<6-t.1;omega)
             · rw [if_pos rfl]at hox
               repeat' (first
                |(refine qz ?_;first
                 |refine fW ?_ (hle:=by rw [aJ])
                 |refine cl ?_ (hi:=by exact gU (m:={m with lev:=u.2.2}) (b:=true) hma rfl)
                 |refine st ?_ (hle:=by rw [aJ];omega) (hv:=sT _ _ 0 _))
                |refine zz ?_|refine zx (fun _=>?_) (fun _=>?_)|fail)
               exact ih (t.1+1,u.2.1,c8 u.2.2 (t.1*64) (u.2.1/2^20%128)) _ _ _ (bh [0,1,2]) ⟨by show t.1+1≤6;omega,hox,hun⟩ (by show 6-(t.1+1)<6-t.1;omega)
         · have e6:t.1=6:=by omega
           rw [e6]at hto
           rw [hto]
           repeat' (first
            |(refine qz ?_;first
             |refine fW ?_ (hle:=by rw [aJ])
             |refine jb ?_ (hs1:=by rw [aJ]) (hs2:=by rw [aJ]))
            |refine zz ?_|refine zx (fun _=>?_) (fun _=>?_)|fail)
           show aC _ _ _ _ _ _ _ _;refine kV [] ?_
           rfl
end Go.Proofs.YtagpkhindehcbaaGreat
namespace Go.Proofs.YtagpkhindehcbaaGreat
open Go.Xm
variable [az]
theorem Hj {s:Sm}(hs:jy s) {inter:Bool} {qp:Int}(hq:1≤qp∧qp≤31) {m:Mb}(hm:mS s inter qp=m) {HS:aj}(hb:Nat.blt HS.length Mem.bound=true):aH.Sound Tryz.prog ⟨21,[.agg (qU s),.one (.bool inter),.one (.int .i64 qp)],HS,.agg (mC m),HS,[]⟩:=by
 subst hm
 exact aA (Ki hs inter hq) rfl (iS _) hb
abbrev Nl:Sm:=⟨0,0,⟨fun _=>0,fun _=>0,false⟩,false,fun _=>0,0,false⟩
instance P2:Inhabited Sm:=⟨Nl⟩
abbrev PL:Sm:=⟨3,0,⟨fun _=>0,fun _=>0,false⟩,false,fun _=>0,0,false⟩
theorem Dd:jy PL:=⟨⟨by decide,by decide⟩,⟨by decide,by decide⟩,⟨fun _ _=>by show -128≤(0:Int)∧(0:Int)<128;decide,fun _ _=>by show -128≤(0:Int)∧(0:Int)<128;decide⟩,fun _ _=>by show(0:Int)≤0∧(0:Int)<18446744073709551616;decide,by decide,by decide⟩
def jJ (l:List Sm) (inter:Bool) (qp:Int):Nat→List Mb × Int
 | 0=>([],qp)
 | k+1=>((jJ l inter qp k).1++[mS (l.getD k default) inter (jJ l inter qp k).2],(mS (l.getD k default) inter (jJ l inter qp k).2).qp)
def rK (n:Nat) (room:Int):Nat:=min n (min 9 room.toNat)
def nv (l:List Sm) (inter:Bool) (qp room:Int):List Mb:=if l.length=0 then [mS PL inter qp]else(jJ l inter qp (rK l.length room)).1
structure tc (inter:Bool) (qp:Int) (l:List Mb):Prop where
 mok:∀ k,k<l.length→i_ (l.getD k default)
 chk:∀ k,k<l.length→dk (l.getD k default) inter (if k=0 then qp else(l.getD (k-1) default).qp)=0
theorem lU (l:List Sm) (inter:Bool) (qp:Int):∀ k,(jJ l inter qp k).1.length=k:=by
 intro k
 induction k with
 | zero=>rfl
 | succ k ih=>show((jJ l inter qp k).1++[_]).length=k+1;rw [List.length_append,ih];rfl
theorem zq {l:List Sm}(hl:∀ j,j<l.length→jy (l.getD j default)) (inter:Bool) {qp:Int}(hq:1≤qp∧qp≤31):∀ k,k≤l.length→tc inter qp (jJ l inter qp k).1∧1≤(jJ l inter qp k).2∧(jJ l inter qp k).2≤31∧(jJ l inter qp k).2=if k=0 then qp else((jJ l inter qp k).1.getD (k-1) default).qp:=by
 intro k
 induction k with
 | zero=>exact fun _=>⟨⟨fun _ h=>absurd h (Nat.not_lt_zero _),fun _ h=>absurd h (Nat.not_lt_zero _)⟩,hq.1,hq.2,rfl⟩
 | succ k ih=>
   intro hk
   obtain⟨ho,h1,h2,h3⟩:=ih (by omega)
   have hlen:=lU l inter qp k
   obtain⟨x,hx⟩:∃ x,jJ l inter qp k=x:=⟨_,rfl⟩
   rw [hx]at ho h1 h2 h3 hlen
   obtain⟨m,hm⟩:∃ m,mS (l.getD k default) inter x.2=m:=⟨_,rfl⟩
   have hok:=Bm (inter:=inter) (hl k (by omega)) ⟨h1,h2⟩
   rw [hm]at hok
   have e:jJ l inter qp (k+1)=(x.1++[m],m.qp):=by rw [jJ,hx,hm]
   have g1:∀ j,j<k→(x.1++[m]).getD j default=x.1.getD j default:=fun j hj=>by
    rw [List.getD_eq_getElem?_getD,List.getD_eq_getElem?_getD,List.getElem?_append_left (by omega)]
   have g2:(x.1++[m]).getD k default=m:=by
    rw [List.getD_eq_getElem?_getD,List.getElem?_append_right (by omega),hlen,Nat.sub_self]
    rfl
   rw [e]
   refine⟨⟨fun j hj=>?_,fun j hj=>?_⟩,hok.2.2.1,hok.2.2.2,?_⟩
   · have hj':j<k+1:=by rw [List.length_append,hlen]at hj;exact hj
     show i_ ((x.1++[m]).getD j default)
     by_cases h:j<k
     · rw [g1 j h];exact ho.mok j (by omega)
     · obtain rfl:j=k:=by omega
       rw [g2];exact hok.1
   · have hj':j<k+1:=by rw [List.length_append,hlen]at hj;exact hj
     show dk ((x.1++[m]).getD j default) inter (if j=0 then qp else((x.1++[m]).getD (j-1) default).qp)=0
     by_cases h:j<k
     · rw [g1 j h]
       have:=ho.chk j (by omega)
       by_cases h0:j=0
       · rw [if_pos h0]at this ⊢;exact this
       · rw [if_neg h0]at this ⊢
         rw [g1 (j-1) (by omega)];exact this
     · obtain rfl:j=k:=by omega
       rw [g2]
       have h3':(if j=0 then qp else((x.1++[m]).getD (j-1) default).qp)=x.2:=by
        rw [h3]
        by_cases h0:j=0
        · rw [if_pos h0,if_pos h0]
        · rw [if_neg h0,if_neg h0,g1 (j-1) (by omega)]
       rw [h3'];exact hok.2.1
   · rw [if_neg (by omega)]
     show m.qp=((x.1++[m]).getD (k+1-1) default).qp
     rw [Nat.add_sub_cancel,g2]
theorem zo {l:List Sm}(hl:∀ j,j<l.length→jy (l.getD j default)) (inter:Bool) {qp:Int}(hq:1≤qp∧qp≤31) {room:Int}(hr:1≤room):tc inter qp (nv l inter qp room)∧1≤(nv l inter qp room).length∧(nv l inter qp room).length≤9∧(((nv l inter qp room).length:Nat):Int)≤room:=by
 unfold nv
 by_cases h0:l.length=0
 · rw [if_pos h0]
   have hok:=Bm (inter:=inter) Dd hq
   refine⟨⟨fun k hk=>?_,fun k hk=>?_⟩,Nat.le_refl 1,by show 1≤9;decide,hr⟩
   · have:k=0:=by simp at hk;exact hk
     subst this;exact hok.1
   · have:k=0:=by simp at hk;exact hk
     subst this;rw [if_pos rfl];exact hok.2.1
 · rw [if_neg h0]
   have:=zq hl inter hq (rK l.length room) (Nat.min_le_left _ _)
   refine⟨this.1,?_,?_,?_⟩
   · rw [lU];unfold rK;omega
   · rw [lU];unfold rK;omega
   · rw [lU];unfold rK;omega
def gl (h:Hd) (p:Ph) (f:Int) (c:XC):List XC:=gO h++(iJ p++[.int .u8 f,c])
theorem oY (h:Hd) (p:Ph) (f:Int) (c:XC):(gl h p f c).length=137:=by simp [gl,bE,iJ]
theorem Il (h:Hd) (p:Ph) (f:Int) (c:XC):((gl h p f c).drop 0).take 131=gO h:=by
 unfold gl
 rw [List.drop_zero,List.take_append_of_le_length (by rw [bE];exact Nat.le_refl _),List.take_of_length_le (by rw [bE];exact Nat.le_refl _)]
theorem zV (h:Hd) (p:Ph) (f:Int) (c:XC) (j:Nat):(gl h p f c)[131+j]? = (iJ p++[.int .u8 f,c])[j]?:=by
 unfold gl
 rw [List.getElem?_append_right (by rw [bE];omega),bE,Nat.add_sub_cancel_left]
theorem Im (h:Hd) (p:Ph) (f:Int) (c:XC):((gl h p f c).drop 131).take 4=iJ p:=by
 unfold gl
 rw [List.drop_append_of_le_length (by rw [bE];exact Nat.le_refl _),List.drop_of_length_le (by rw [bE];exact Nat.le_refl _)]
 rfl
theorem K3 (h:Hd) (p:Ph) (f:Int) (c:XC):(gl h p f c)[135]? = some (.int .u8 f):=zV h p f c 4
theorem K2 (h:Hd) (p:Ph) (f:Int) (c:XC):(gl h p f c)[136]? = some c:=zV h p f c 5
end Go.Proofs.YtagpkhindehcbaaGreat
namespace Go.Proofs.YtagpkhindehcbaaGreat
open Go.Xm
variable [az]
theorem yp:bt Tryz.prog 28 (iJ ⟨0,false,false,0⟩):=by
 show bt Tryz.prog 28 [.int .i64 0,.bool false,.bool false,.int .i64 0]
 infer_instance
theorem GP (g:Hd) (z:Int):(gO g).set 0 (.int .i64 z)=gO {g with cols:=z}:=rfl
def dp (h:Hd) (f:Int):Int:=f%((four h).cols*(four h).rows)
def iT (h:Hd) (p:Ph) (f:Int) (l:List Sm):List Mb:=nv l (nB p).inter (nB p).qp ((four h).cols*(four h).rows-dp h f)
theorem Cg:bt Tryz.prog 81 (qU Nl):=by
 show bt Tryz.prog 81 [.int .u8 0,.int .u8 0,.int .i8 0,.int .i8 0,.int .i8 0,.int .i8 0,.int .i8 0,.int .i8 0,.int .i8 0,.int .i8 0,.bool false,.bool false,.int .u64 0,.int .u64 0,.int .u64 0,.int .u64 0,.int .u64 0,.int .u64 0,.int .u32 0,.bool false]
 infer_instance
theorem qG (G:Hd) (P:Ph) (F:Int) (n k:Nat) (cap:r_) {m:Nat}(hk:k<m):(XV.tup [.agg (gO G),.agg (iJ P),.one (.int .i64 F),.one (.slice k 0 n cap)]).b7 m:=fun x hx=>by
 simp only [List.mem_cons,List.not_mem_nil,or_false]at hx
 rcases hx with rfl|rfl|rfl|rfl
 · exact X1.bQ (x := .agg (gO G)) (iQ G) m
 · exact X1.bQ (x := .agg (iJ P)) rfl m
 · trivial
 · exact hk
theorem oO (G:Hd) (P:Ph) (F:Int) (n k:Nat) (cap:r_) (τ : Nat→Nat):(XV.tup [.agg (gO G),.agg (iJ P),.one (.int .i64 F),.one (.slice k 0 n cap)]).ay τ = .tup [.agg (gO G),.agg (iJ P),.one (.int .i64 F),.one (.slice (τ k) 0 n cap)]:=by
 have h:=(J3 G).ay τ
 have e1:(X1.agg (gO G)).ay τ = .agg (gO G):=X1.d8 (x := .agg (gO G)) (iQ G) τ
 simp only [XV.ay,List.map_cons,List.map_nil,e1]
 rfl
def Gh (n:Nat):r_:=if n=0 then .exact 1 else .toEnd 391
def Eu (n:Nat):Bool:=if n=0 then false else true
theorem Hk {h:Hd} {p:Ph}(hh:sa h) (hp:nK p) {f:Int}(hf:0≤f∧f≤255) (l:List Sm) (hl:∀ j,j<l.length→jy (l.getD j default)) (ob:ak) (ho:sN ob qU l) (c:XC) (hc:eX c 0 0 l.length) (hn:l.length≤9223372036854775807) :
 bn Tryz.prog 9 [.agg (gl h p f c)] [ob] (.tup [.agg (gO (four h)),.agg (iJ (nB p)),.one (.int .i64 (dp h f)),.one (.slice 1 0 (iT h p f l).length (Gh l.length))]) [ob,.cells (fl mC (iT h p f l)) 53 (Eu l.length) false]:=by
 have hfo:=ho.flat
 obtain⟨hgo,g1,g2,g3,g4⟩:=xt h
 have hcr:1≤(four h).cols*(four h).rows∧(four h).cols*(four h).rows≤64:=jE hgo.dims
 obtain⟨P,hP⟩:∃ P,nB p=P:=⟨_,rfl⟩
 have hpq:=(xq hp).qp
 obtain⟨F,hF⟩:∃ F,dp h f=F:=⟨_,rfl⟩
 have hF2:f%((four h).cols*(four h).rows)=F:=hF
 have hFr:0≤F∧F<(four h).cols*(four h).rows:=by
  rw [←hF2]
  exact⟨Int.emod_nonneg _ (by omega),Int.emod_lt_of_pos _ (by omega)⟩
 have hall:iT h p f l=nv l P.inter P.qp ((four h).cols*(four h).rows-F):=by unfold iT;rw [hP,hF]
 obtain⟨G,hG⟩:∃ G,four h=G:=⟨_,rfl⟩
 have hset:(gO {qy h with cols:=1+(qy h).cols%2^2}).set 1 (.int .i64 (1+(qy h).rows%2^2))=gO G:=by rw [←hG];rfl
 rw [hP]at hpq
 rw [hG]at hgo g1 g2 g3 g4 hcr hF2 hFr hall
 rw [hG,hP,hF,hall]
 have hlen:131=(gO G).length:=(bE _).symm
 obtain⟨r,hr⟩:∃ r,G.cols*G.rows-F=r:=⟨_,rfl⟩
 have hr1:1≤r∧r≤64:=by omega
 refine cO Tryz.func9 ?_
 repeat' (first
  |(refine qz ?_;first
   |refine qi (zs:=gO ⟨0,0,false,fun _=>0,fun _=>0⟩) (hz:=u9) ?_
   |refine qi (zs:=iJ ⟨0,false,false,0⟩) (hz:=yp) ?_
   |refine rH (cs:=gO h) ?_ (hle:=by rw [oY];decide) (hc:=Il h p f c)
   |refine rH (cs:=iJ p) ?_ (hle:=by rw [oY];decide) (hc:=Im h p f c)
   |refine cl ?_ (hi:=by exact GK hh rfl rfl)
   |refine cl ?_ (hi:=by exact GL hp hP rfl)
   |refine jb (cs:=gO (qy h)) ?_ (hs1:=by rw [bE]) (hs2:=by rw [bE])
   |refine jb (cs:=iJ P) ?_
   |refine an 2 ?_
   |refine st ?_ (hle:=by rw [bE];omega) (hv:=hset)
   |refine st (c := .int .i64 (1+(qy h).cols%2^2)) ?_ (hle:=by rw [bE];omega) (hv:=GP _ _)
   |refine ld (c := .int .u8 f) ?_ (hc:=K3 h p f c)
   |refine ld (c:=c) ?_ (hc:=K2 h p f c)
   |refine ld (c := .int .i64 G.cols) ?_
   |refine ld (c := .int .i64 G.rows) ?_)
  |refine Fx (id:=1) [6,7] ?_|refine zz ?_|refine zx (fun _=>?_) (fun _=>?_)|fail)
 refine WX.cW rfl ?_
 obtain⟨N,hN⟩:∃ N,rK l.length r=N:=⟨_,rfl⟩
 have hN2:min l.length (min 9 r.toNat)=N:=hN
 refine WX.cS (σ:=Nat × List Mb × Int) (fun t=>[(2,.one (.ptr 1 0)),(3,.one (.ptr 2 0)),(6,.one (.ptr 3 0)),(7,.one (.ptr 4 0)),(8,.one (.int .i64 F)),(42,.one c),(43,.one (.int .i64 (l.length:Nat))),(9,fS 5 t.2.1.length 391),(10,.one (.int .i64 t.2.2)),(44,.one (.int .i64 (t.1:Nat)))]) (fun t=>[ob,.cells (gO ⟨0,0,false,fun _=>0,fun _=>0⟩) 26 false false,.cells (iJ ⟨0,false,false,0⟩) 28 false false,.cells (gO G) 26 false false,.cells (iJ P) 28 false false,b8 53 (fl mC t.2.1)]) (fun t=>t.1≤N∧jJ l P.inter P.qp t.1=t.2) (fun t=>N-t.1) (0,[],P.qp) ⟨Nat.zero_le _,rfl⟩ (fun s _=>j5) (bh [0,2,3,4,5,6] (reg:=by(repeat' (first|exact af.nil|refine af.flat (by rw [←hF2];rfl) ?_|refine af.flat rfl ?_|refine af.cons rfl ?_|refine af.sl rfl (by assumption) rfl ?_|refine af.dY rfl rfl (by first|rfl|omega|(simp;done)|(simp;omega)) ?_));first|done|fail)) ?_
 intro t ⟨ht,hrun⟩ ih
 have htl:=lU l P.inter P.qp t.1
 have hto:=zq hl P.inter hpq t.1 (by omega)
 rw [hrun]at htl hto
 obtain⟨-,hq1,hq2,-⟩:=hto
 by_cases hlt:t.1<N
 · have hmk:=hl t.1 (by omega)
   obtain⟨el,hel⟩:∃ el,l.getD t.1 default=el:=⟨_,rfl⟩
   have hel':l.getD (t.1:Int).toNat default=el:=hel
   rw [hel]at hmk
   obtain⟨m,hm⟩:∃ m,mS el P.inter t.2.2=m:=⟨_,rfl⟩
   have hnx:jJ l P.inter P.qp (t.1+1)=(t.2.1++[m],m.qp):=by rw [jJ,hrun,hel,hm]
   repeat' (first
    |(refine qz ?_;first
     |refine qi (zs:=qU Nl) (hz:=Cg) ?_
     |refine qi (zs:=mC kr) (hz:=ia) ?_
     |refine n6 (enc:=qU) ?_
     |refine jb (cs:=qU el) ?_ (hy:=by rw [←hel'];rfl)
     |refine ld (c := .int .i64 G.cols) ?_
     |refine ld (c := .int .i64 G.rows) ?_
     |refine ld (c := .int .i64 m.qp) ?_
     |refine cl ?_ (hi:=by exact Hj hmk ⟨hq1,hq2⟩ hm rfl)
     |refine jb (cs:=mC m) ?_ (hs1:=by rw [aJ]) (hs2:=by rw [aJ])
     |refine fW ?_ (hle:=by rw [aJ])
     |refine pf (enc:=mC) (a:=m) ?_
     |refine tg (enc:=mC) ?_)
    |refine zz ?_|refine zx (fun _=>?_) (fun _=>?_)|fail)
   exact ih (t.1+1,t.2.1++[m],m.qp) _ _ _ (bh [0,1,2,3,4,9] (obj:=by(repeat' (first|exact ae.nil|refine ae.flat (by rw [List.length_append];rfl) ?_|refine ae.flat rfl ?_|refine ae.cons rfl ?_|refine ae.dead rfl ?_|refine ae.cons (by simp only [ak.ay,List.map_cons,List.map_nil,XC.ay,aw];exact rfl) ?_));first|done|fail) (reg:=by(repeat' (first|exact af.nil|refine af.flat (by rw [List.length_append];rfl) ?_|refine af.flat rfl ?_|refine af.cons rfl ?_|refine af.sl rfl (by assumption) rfl ?_|refine af.dY rfl rfl (by first|rfl|omega|(simp;done)|(simp;omega)) ?_));first|done|fail)) ⟨by show t.1+1≤N;omega,hnx⟩ (by show N-(t.1+1)<N-t.1;omega)
 · have e0:t.1=N:=by omega
   by_cases h0:l.length=0
   · have eN:N=0:=by omega
     rw [e0,eN]at hrun
     have et:t.2.1 = []:=by rw [←hrun];rfl
     have eq:t.2.2=P.qp:=by rw [←hrun];rfl
     obtain⟨m,hm⟩:∃ m,mS PL P.inter P.qp=m:=⟨_,rfl⟩
     have eL:nv l P.inter P.qp r = [m]:=by unfold nv;rw [if_pos h0,hm]
     have ec:Gh l.length = .exact 1:=if_pos h0
     have eo:Eu l.length=false:=if_pos h0
     rw [hr,eL,ec,eo,et,eq]
     repeat' (first
      |(refine qz ?_;first
       |refine bS (zs:=qU Nl) (hz:=Cg) ?_
       |refine cl ?_ (hi:=by exact Hj Dd hpq hm rfl)
       |refine pf (enc:=mC) (a:=m) ?_
       |refine ld (c := .int .i64 G.cols) ?_
       |refine ld (c := .int .i64 G.rows) ?_
       |refine fW ?_ (hle:=by rw [bE])
       |refine jb (cs:=gO G) ?_ (hs1:=by rw [bE]) (hs2:=by rw [bE])
       |refine jb (cs:=iJ P) ?_)
      |refine zz ?_|refine zx (fun _=>?_) (fun _=>?_)|fail)
     show aC _ _ _ _ _ _ _ _;refine kV [0,6] ?_ (hr:=gN.two rfl (.cell rfl rfl (cc hlen) (.cell rfl rfl (cc rfl) (.tmp rfl (.tmp rfl .nil))))) (hok:=qG G P F _ 1 _ (show 1<2 from Nat.lt_succ_self 1))
     rw [oO];rfl
   · have hne:t.2.1.length≠0:=by omega
     have hne2:fl mC t.2.1≠[]:=CH (fun e=>hne (by rw [e];rfl))
     have eL:nv l P.inter P.qp r=t.2.1:=by unfold nv;rw [if_neg h0,hN,←e0,hrun]
     have ec:Gh l.length = .toEnd 391:=if_neg h0
     have eo:Eu l.length=true:=if_neg h0
     rw [hr,eL,ec,eo,fx hne2,lg hne]
     by_cases h1:t.1<l.length
     · repeat' (first
        |(refine qz ?_;first
         |refine qi (zs:=qU Nl) (hz:=Cg) ?_
         |refine n6 (enc:=qU) ?_
         |refine jb (cs:=qU (l.getD (t.1:Int).toNat default)) ?_
         |refine ld (c := .int .i64 G.cols) ?_
         |refine ld (c := .int .i64 G.rows) ?_
         |refine fW ?_ (hle:=by rw [bE])
         |refine jb (cs:=gO G) ?_ (hs1:=by rw [bE]) (hs2:=by rw [bE])
         |refine jb (cs:=iJ P) ?_)
        |refine zz ?_|refine zx (fun _=>?_) (fun _=>?_)|fail)
       all_goals first|(exfalso;omega)|skip
       all_goals (show aC _ _ _ _ _ _ _ _;refine kV [0,5] ?_ (hr:=gN.two rfl (.cell rfl rfl (cc hlen) (.cell rfl rfl (cc rfl) (.tmp rfl (.tmp rfl .nil))))) (hok:=qG G P F _ 1 _ (show 1<2 from Nat.lt_succ_self 1)))
       all_goals (rw [oO];rfl)
     · repeat' (first
        |(refine qz ?_;first
         |refine ld (c := .int .i64 G.cols) ?_
         |refine ld (c := .int .i64 G.rows) ?_
         |refine fW ?_ (hle:=by rw [bE])
         |refine jb (cs:=gO G) ?_ (hs1:=by rw [bE]) (hs2:=by rw [bE])
         |refine jb (cs:=iJ P) ?_)
        |refine zz ?_|refine zx (fun _=>?_) (fun _=>?_)|fail)
       show aC _ _ _ _ _ _ _ _;refine kV [0,5] ?_ (hr:=gN.two rfl (.cell rfl rfl (cc hlen) (.cell rfl rfl (cc rfl) (.tmp rfl (.tmp rfl .nil))))) (hok:=qG G P F _ 1 _ (show 1<2 from Nat.lt_succ_self 1))
       rw [oO];rfl
end Go.Proofs.YtagpkhindehcbaaGreat
namespace Go.Proofs.YtagpkhindehcbaaGreat
open Go.Xm
variable [az]
theorem lY {first:Int} {k:Nat} {m:Mb} {x y:PS}(h:jM first k m x = .inr y):dk m x.S.inter x.S.qp=0∧∃ z,fH x.S x.B x.w m (first+(k:Nat))=some z∧y=⟨z.1,z.2.1,z.2.2⟩:=by
 unfold jM at h
 split at h
 · cases h
 · rename_i hc
   refine⟨Decidable.byContradiction fun g=>hc g,?_⟩
   split at h
   · cases h
   · rename_i z hz
     exact⟨z,hz,(Sum.inr.inj h).symm⟩
theorem jk {l:List Mb} {first:Int} {x0:PS} {k:Nat} {y:PS}(h:eg l first x0 (k+1) = .inr y):∃ x,eg l first x0 k = .inr x∧jM first k (l.getD k default) x = .inr y:=by
 rw [eg]at h
 split at h
 · cases h
 · rename_i x hx
   exact⟨x,hx,h⟩
theorem pX {l:List Mb} {first:Int} {x0:PS} {n:Nat} {y:PS}(h:eg l first x0 n = .inr y):∀ k,k≤n→∃ x,eg l first x0 k = .inr x:=by
 intro k hk
 cases hx:eg l first x0 k with
 | inr x=>exact⟨x,rfl⟩
 | inl e=>
   have:=ky hx n hk
   rw [h]at this
   cases this
theorem mW {h:Hd} {p:Ph} {l:List Mb} {first:Int}(hT:eh h p l first) {k:Nat}(hk:k<l.length):i_ (l.getD k default):=by
 rw [List.getD_eq_getElem?_getD,List.getElem?_eq_getElem hk,Option.getD_some]
 exact hT.mok _ (List.getElem_mem hk)
theorem kz {h:Hd} {p:Ph} {l:List Mb} {first:Int}(hT:eh h p l first):∀ k,k≤l.length→∀ x,eg l first (iC h p) k = .inr x→yx p.inter h.cols h.rows k x:=by
 intro k
 induction k with
 | zero=>intro _ x hx;cases hx;exact CX hT.hd hT.ph
 | succ k ih=>
   intro hk x hx
   obtain⟨y,hy,hs⟩:=jk hx
   exact oT (ih (by omega) y hy) (mW hT (by omega)) hs
theorem v_ {h:Hd} {p:Ph} {l:List Mb} {first:Int}(hT:eh h p l first) {k:Nat}(hk:k<l.length) {x y:PS}(hx:eg l first (iC h p) k = .inr x) (hy:eg l first (iC h p) (k+1) = .inr y):x.B <+: y.B∧x.B.length<y.B.length:=by
 have hi:=kz hT k (by omega) x hx
 have hm:=mW hT hk
 obtain⟨x',hx',hs⟩:=jk hy
 obtain rfl:x=x':=by rw [hx]at hx';exact Sum.inr.inj hx'
 obtain⟨hc,z,hz,rfl⟩:=lY hs
 have hk2:=rQ hi.st hm (iz hm hc) hz
 have hn:0<(aB x.S (l.getD k default)).length:=by
  unfold aB
  rw [List.length_append]
  split
  · have hf:=(iz hm hc).kind
    have:∀ n:Fin 5,0<(db cM n.val).length:=by decide +kernel
    have:=this ⟨(l.getD k default).kind.toNat,by omega⟩
    simp only at this
    omega
  · simp only [List.length_cons,List.length_nil];omega
 refine⟨(List.prefix_append _ _).trans hk2.pre,?_⟩
 have:=hk2.pre.length_le
 rw [List.length_append]at this
 show x.B.length<z.2.1.length
 omega
theorem HI {h:Hd} {p:Ph} {l:List Mb} {first:Int}(hT:eh h p l first) {k:Nat} {x:PS}(hx:eg l first (iC h p) k = .inr x):∀ n,k≤n→n≤l.length→∀ y,eg l first (iC h p) n = .inr y→x.B <+: y.B∧(k<n→x.B.length<y.B.length):=by
 intro n hn
 induction hn with
 | refl=>
   intro _ y hy
   rw [hx]at hy
   cases hy
   exact⟨List.prefix_refl _,fun g=>absurd g (Nat.lt_irrefl _)⟩
 | @step n hkn ih=>
   intro hl y hy
   obtain⟨w,hw⟩:=pX hy n (Nat.le_succ _)
   have h1:=ih (by omega) w hw
   have h2:=v_ hT (by omega) hw hy
   exact⟨h1.1.trans h2.1,fun _=>by have:=h1.1.length_le;omega⟩
noncomputable def AG (l:List Mb) (first:Int) (x0:PS) (i j:Nat):List Ev:=
 match eg l first x0 i with
 | .inr x=>tH x.S x.B (l.getD i default) (first+(i:Nat)) j
 | .inl _=>[]
structure rr (l:List Mb) (ft:Int) (x0:PS) (k:Nat) (x:PS) (t:TA):Prop where
 rel:Rel x.S t.S
 r:t.r=(x.B.length,false)
 len:t.out.length=k
 outs:∀ i,i<k→∃ o,t.out[i]? = some o∧Cj (l.getD i default) o.1∧∀ j,j<6→o.2 j=decide (0<(AG l ft x0 i j).length)
theorem rel_refl (S:bC):Rel S S:=⟨rfl,rfl,rfl,rfl,fun _=>rfl,fun _=>rfl,fun _=>rfl,fun _=>rfl⟩
theorem K6 {h:Hd} {p:Ph} {l:List Mb} {first:Int}(hT:eh h p l first) {B:List Bool}:∀ k,k≤l.length→∀ x,eg l first (iC h p) k = .inr x→x.B <+: B→∃ t,(∀ j,l7 B first (k+j) ⟨gR h p,(0,false),[]⟩=l7 B first j t)∧rr l first (iC h p) k x t:=by
 intro k
 induction k with
 | zero=>
   intro _ x hx hp
   cases hx
   exact⟨⟨gR h p,(0,false),[]⟩,fun j=>by rw [Nat.zero_add],rel_refl _,rfl,rfl,fun i hi=>absurd hi (Nat.not_lt_zero _)⟩
 | succ k ih=>
   intro hk y hy hp
   obtain⟨x,hx,hs⟩:=jk hy
   have hpre:=(v_ hT (by omega) hx hy).1
   obtain⟨t,ht,hb⟩:=ih (by omega) x hx (hpre.trans hp)
   have hi:=kz hT k (by omega) x hx
   have hm:=mW hT (k:=k) (by omega)
   obtain⟨hc,z,hz,rfl⟩:=lY hs
   have hf:=iz hm hc
   have hmb:first+(t.out.length:Nat)=first+(k:Nat):=by rw [hb.len]
   have hz':fH x.S x.B x.w (l.getD k default) (first+(k:Nat))=some (z.1,z.2.1,z.2.2):=hz
   obtain⟨b1,b2,b3,b4⟩:=Fb hb.rel hi.st.tiny (qA hm hf) hf hz' hp
   refine⟨p7 B first t,fun j=>?_,?_,?_,?_,?_⟩
   · rw [show k+1+j=k+(j+1) by omega,ht (j+1),l7,if_neg (by rw [hb.r];exact Bool.false_ne_true)]
   · show Rel z.1 (dD t.S B (first+(t.out.length:Nat)) t.r).1.S
     rw [hmb,hb.r];exact b2
   · show(dD t.S B (first+(t.out.length:Nat)) t.r).1.r=_
     rw [hmb,hb.r];exact b1
   · show(t.out++[_]).length=k+1
     rw [List.length_append,hb.len];rfl
   · intro i hi'
     show ∃ o,(t.out++[((dD t.S B (first+(t.out.length:Nat)) t.r).1.m,(dD t.S B (first+(t.out.length:Nat)) t.r).2)])[i]? = some o∧_
     by_cases h1:i<k
     · obtain⟨o,ho,h2⟩:=hb.outs i h1
       exact⟨o,by rw [List.getElem?_append_left (by rw [hb.len];exact h1)];exact ho,h2⟩
     · obtain rfl:i=k:=by omega
       refine⟨_,by rw [List.getElem?_append_right (by rw [hb.len];exact Nat.le_refl _),hb.len,Nat.sub_self];rfl,?_,?_⟩
       · show Cj _ (dD t.S B (first+(i:Nat)) t.r).1.m
         rw [hb.r];exact b3
       · intro j hj
         show(dD t.S B (first+(i:Nat)) t.r).2 j=_
         rw [hb.r,b4 j hj]
         unfold AG
         rw [hx]
theorem E_ {h:Hd} {p:Ph} {l:List Mb} {first:Int}(hT:eh h p l first) {x:PS}(hx:eg l first (iC h p) l.length = .inr x) {n:Nat}(hn:n≤l.length) :
 ∃ t y,l7 x.B first n ⟨gR h p,(0,false),[]⟩=t∧eg l first (iC h p) n = .inr y∧rr l first (iC h p) n y t∧rC x.B t.r=if n<l.length then 13 else 0:=by
 obtain⟨y,hy⟩:=pX hx n hn
 have hp:=HI hT hy l.length hn (Nat.le_refl _) x hx
 obtain⟨t,ht,hb⟩:=K6 hT n hn y hy hp.1
 have ht0:=ht 0
 rw [Nat.add_zero]at ht0
 refine⟨t,y,ht0,hy,hb,?_⟩
 rw [hb.r]
 unfold rC
 by_cases hlt:n<l.length
 · rw [if_pos hlt,if_neg Bool.false_ne_true,if_pos (hp.2 hlt)]
 · have e:n=l.length:=by omega
   rw [e,hx]at hy
   cases hy
   rw [if_neg hlt,if_neg Bool.false_ne_true,if_neg (Nat.lt_irrefl _)]
end Go.Proofs.YtagpkhindehcbaaGreat
namespace Go.Proofs.YtagpkhindehcbaaGreat
open Go.Xm
variable [az]
abbrev eZ (K:Nat):aj:=[bM (K+1) (K+5) (K+9),ax (K+2) (K+3) (K+4) cM,aU cM,aW cM,aV cM,ax (K+6) (K+7) (K+8) cZ,aU cZ,aW cZ,aV cZ,ax (K+10) (K+11) (K+12) cP,aU cP,aW cP,aV cP]
abbrev oM (K:Nat) (r:List Nat):List Nat:=K::(K+1)::(K+2)::(K+3)::(K+4)::(K+5)::(K+6)::(K+7)::(K+8)::(K+9)::(K+10)::(K+11)::(K+12)::r
theorem t_ (K:Nat) (r:List Nat):∀ j,j<13→nth (oM K r) j=K+j:=fun j hj=>by
 match j,hj with
 | 0,_=>rfl
 | 1,_=>rfl
 | 2,_=>rfl
 | 3,_=>rfl
 | 4,_=>rfl
 | 5,_=>rfl
 | 6,_=>rfl
 | 7,_=>rfl
 | 8,_=>rfl
 | 9,_=>rfl
 | 10,_=>rfl
 | 11,_=>rfl
 | 12,_=>rfl
theorem xv {HS:aj} {K:Nat}(hS:(HS.drop K).take 13=eZ K) {τ : Nat→Nat}(h:∀ j,j<13 → τ j=K+j) {ls:List Nat} {l:aj}(hl:ae τ HS ls l):ae τ HS (oM K ls) (fk++l):=by
 have g:∀ j,j<13→HS[K+j]? = (eZ K)[j]?:=fun j hj=>by rw [←hS,List.getElem?_take_of_lt hj,List.getElem?_drop]
 have g0:HS[K]? = some (bM (K+1) (K+5) (K+9)):=g 0 (by decide)
 have h1:=h 1 (by decide)
 have h2:=h 2 (by decide)
 have h3:=h 3 (by decide)
 have h4:=h 4 (by decide)
 have h5:=h 5 (by decide)
 have h6:=h 6 (by decide)
 have h7:=h 7 (by decide)
 have h8:=h 8 (by decide)
 have h9:=h 9 (by decide)
 have h10:=h 10 (by decide)
 have h11:=h 11 (by decide)
 have h12:=h 12 (by decide)
 refine .cons ?_ (.cons ?_ (.flat (g 2 (by decide)) (.flat (g 3 (by decide)) (.flat (g 4 (by decide)) (.cons ?_ (.flat (g 6 (by decide)) (.flat (g 7 (by decide)) (.flat (g 8 (by decide)) (.cons ?_ (.flat (g 10 (by decide)) (.flat (g 11 (by decide)) (.flat (g 12 (by decide)) hl))))))))))))
 · rw [g0]
   simp only [ak.ay,List.map_cons,List.map_nil,XC.ay,h1,h5,h9]
 · rw [g 1 (by decide)]
   simp only [ak.ay,List.map_cons,List.map_nil,XC.ay,h2,h3,h4];rfl
 · rw [g 5 (by decide)]
   simp only [ak.ay,List.map_cons,List.map_nil,XC.ay,h6,h7,h8];rfl
 · rw [g 9 (by decide)]
   simp only [ak.ay,List.map_cons,List.map_nil,XC.ay,h10,h11,h12];rfl
theorem sR {K:Nat} {τ : Nat→Nat}(h:∀ j,j<13 → τ j=K+j) {l l':aj}(hl:da τ l l'):da τ (fk++l) (eZ K++l'):=by
 have h1:=h 1 (by decide)
 have h2:=h 2 (by decide)
 have h3:=h 3 (by decide)
 have h4:=h 4 (by decide)
 have h5:=h 5 (by decide)
 have h6:=h 6 (by decide)
 have h7:=h 7 (by decide)
 have h8:=h 8 (by decide)
 have h9:=h 9 (by decide)
 have h10:=h 10 (by decide)
 have h11:=h 11 (by decide)
 have h12:=h 12 (by decide)
 refine .cons ?_ (.cons ?_ (.flat (.flat (.flat (.cons ?_ (.flat (.flat (.flat (.cons ?_ (.flat (.flat (.flat hl))))))))))))
 · simp only [ak.ay,List.map_cons,List.map_nil,XC.ay,h1,h5,h9]
 · simp only [ak.ay,List.map_cons,List.map_nil,XC.ay,h2,h3,h4]
 · simp only [ak.ay,List.map_cons,List.map_nil,XC.ay,h6,h7,h8]
 · simp only [ak.ay,List.map_cons,List.map_nil,XC.ay,h10,h11,h12]
theorem GZ {HS:aj} {K i:Nat}(hS:(HS.drop K).take 13=eZ K) {ob:ak}(hi:HS[i]? = some ob) {os:aj}:bG HS (oM K [i]) (eZ K++ob::os)=HS++os:=by
 have g:∀ j,j<13→HS[K+j]? = (eZ K)[j]?:=fun j hj=>by rw [←hS,List.getElem?_take_of_lt hj,List.getElem?_drop]
 have g0:HS[K]? = some (bM (K+1) (K+5) (K+9)):=g 0 (by decide)
 simp only [bG,eZ,List.cons_append,List.nil_append]
 rw [aG g0,aG (g 1 (by decide)),aG (g 2 (by decide)),aG (g 3 (by decide)),aG (g 4 (by decide)),aG (g 5 (by decide)),aG (g 6 (by decide)),aG (g 7 (by decide)),aG (g 8 (by decide)),aG (g 9 (by decide)),aG (g 10 (by decide)),aG (g 11 (by decide)),aG (g 12 (by decide)),aG hi]
theorem sY:∀(h1 l l':aj),dP h1 h1=true→dP l l'=true→dP (h1++l) (h1++l')=true
 | [],l,l',_,h=>h
 | o::h1,l,l',h,h2=>by
   simp only [dP,Bool.and_eq_true,List.cons_append]at h ⊢
   exact⟨h.1,sY h1 l l' h.2 h2⟩
theorem tS {f:FuncId} {args0 args:List XV} {v v':XV} {news news':aj} {ob:ak} [cI ob] (n:Nat) (hn:news.length=n) (hc:bn Tryz.prog f args0 (fk++[ob]) v (fk++ob::news)) {HS:aj} {K i:Nat}(hS:(HS.drop K).take 13=eZ K) (hi:HS[i]? = some ob) (hd:(oM K [i]).Nodup) (ha:eV 14 args0) (e1:dF (nth (oM K [i])) args0 args) (hv:v.b7 (14+n)) (e2:v.ay (nth (oM K [i]++List.range' HS.length n))=v')
 (hnk:bl (14+n) news) (hr:da (nth (oM K [i]++List.range' HS.length n)) news news') (hro:dP [] news=true) {HS':aj}(hh:HS++news'=HS') (hbd:Nat.blt HS'.length Mem.bound=true):aH.Sound Tryz.prog ⟨f,args,HS,v',HS',oM K [i]⟩:=by
 have e0:∀ j,j<13→nth (oM K [i]) j=K+j:=t_ K [i]
 have e0':∀ j,j<13→nth (oM K [i]++List.range' HS.length n) j=K+j:=t_ K (i::List.range' HS.length n)
 have hln:(fk++ob::news).length=14+n:=by rw [List.length_append];show 13+(news.length+1)=_;omega
 refine bV (os:=eZ K++ob::news') (oM K [i]) (oM K [i]) n hc hd (xv hS e0 (.flat hi .nil)) (mH (l:=[ob]) (Nat.le_succ 13) (.flat .nil)) (by rw [hln];exact mH (l:=ob::news) (by omega) (.flat hnk)) (by rw [hln];rfl) ha e1 (by rw [hln];exact hv) e2 (sR e0' (.flat hr)) ?_ rfl (by rw [GZ hS hi];exact hh) hbd (.inl rfl)
 refine sY _ _ _ rfl ?_
 simp only [dP,Bool.and_eq_true]
 exact⟨by cases ob.live <;> simp,hro⟩
theorem Bs {HS:aj} {N:Nat}(hN:HS.length=N) {HS':aj}(hh:HS++eZ N=HS') (hbd:Nat.blt HS'.length Mem.bound=true) :
 aH.Sound Tryz.prog ⟨10,[],HS,.one (.ptr N 0),HS',[]⟩:=by
 subst hN
 have e:List.range' HS.length 13=oM HS.length []:=rfl
 have h:=sR (K:=HS.length) (τ:=nth (oM HS.length [])) (t_ _ []) (l:=[]) (l':=[]) .nil
 refine bV (os:=eZ HS.length) [] [] 13 Km (by simp) .nil .nil (mH (l:=[]) (Nat.le_refl _) .nil) rfl .nil .nil (by show 0<13;omega) rfl (by rw [List.nil_append,e];exact h) rfl rfl hh hbd (.inl rfl)
noncomputable def pW (h:Hd) (p:Ph) (l:List Mb) (first:Int):Int ⊕ (List Int × List Int):=
 match eg l first (iC h p) l.length with
 | .inl e => .inl e
 | .inr x=>if 30000<(f3 (wr (x.B++[true])) (wr (x.B++[true])).length).1.length∨30000<(f3 (wr (x.w++[true])) (wr (x.w++[true])).length).1.length then .inl 6 else .inr ((f3 (wr (x.B++[true])) (wr (x.B++[true])).length).1,(f3 (wr (x.w++[true])) (wr (x.w++[true])).length).1)
theorem Ky {h:Hd} {p:Ph} {l:List Mb} {first:Int}(hT:eh h p l first) {cap:r_} {ob:ak}(ho:sN ob mC l) {e:Int}(hp:pW h p l first = .inl e) {n:Nat}(hln:l.length=n) {HS:aj} {K i:Nat}(hS:(HS.drop K).take 13=eZ K) (hi:HS[i]? = some ob) (hd:(oM K [i]).Nodup) (hbd:Nat.blt HS.length Mem.bound=true) :
 aH.Sound Tryz.prog ⟨11,[.one (.ptr K 0),.agg (gO h),.agg (iJ p),.one (.int .i64 first),.one (.slice i 0 n cap)],HS,.tup [.one .nils,.one .nils,.one (.int .i64 e)],HS,oM K [i]⟩:=by
 subst hln
 have hfo:=ho.flat
 have hc:bn Tryz.prog 11 [.one (.ptr 0 0),.agg (gO h),.agg (iJ p),.one (.int .i64 first),.one (.slice 13 0 l.length cap)] (fk++[ob]) (.tup [.one .nils,.one .nils,.one (.int .i64 e)]) (fk++ob::[]):=by
  unfold pW at hp
  split at hp
  · rename_i e' he
    cases hp
    exact Gr hT ho he
  · rename_i x hx
    split at hp
    · rename_i hl
      cases hp
      exact Gp hT ho hx rfl rfl hl
    · cases hp
 exact tS 0 rfl hc hS hi hd (.cons (by show 0<14;omega) (.flat (.flat (.flat (.cons (by show 13<14;omega) .nil))))) (.cons rfl (.flat (.flat (.flat (.cons rfl .nil))))) (XV.gX rfl _) rfl .nil .nil rfl (List.append_nil HS) hbd
theorem CZ {h:Hd} {p:Ph} {l:List Mb} {first:Int}(hT:eh h p l first) {cap:r_} {ob:ak}(ho:sN ob mC l) {a b:List Int}(hp:pW h p l first = .inr (a,b)) {n:Nat}(hln:l.length=n) {HS:aj} {K i:Nat}(hS:(HS.drop K).take 13=eZ K) (hi:HS[i]? = some ob) (hd:(oM K [i]).Nodup) {N:Nat}(hN:HS.length=N) {HS':aj}(hh:HS++[b8 5 (il .u8 a),b8 5 (il .u8 b)]=HS') (hbd:Nat.blt HS'.length Mem.bound=true) :
 aH.Sound Tryz.prog ⟨11,[.one (.ptr K 0),.agg (gO h),.agg (iJ p),.one (.int .i64 first),.one (.slice i 0 n cap)],HS,.tup [.one (gQ N a.length 1),.one (gQ (N+1) b.length 1),.one (.int .i64 0)],HS',oM K [i]⟩:=by
 subst hln hN
 have hfo:=ho.flat
 have hc:bn Tryz.prog 11 [.one (.ptr 0 0),.agg (gO h),.agg (iJ p),.one (.int .i64 first),.one (.slice 13 0 l.length cap)] (fk++[ob]) (.tup [.one (gQ 14 a.length 1),.one (gQ 15 b.length 1),.one (.int .i64 0)]) (fk++ob::[b8 5 (il .u8 a),b8 5 (il .u8 b)]):=by
  unfold pW at hp
  split at hp
  · cases hp
  · rename_i x hx
    split at hp
    · cases hp
    · rename_i hl
      cases hp
      exact JG hT ho hx rfl rfl (by omega) (by omega)
 refine tS 2 rfl hc hS hi hd (.cons (by show 0<14;omega) (.flat (.flat (.flat (.cons (by show 13<14;omega) .nil))))) (.cons rfl (.flat (.flat (.flat (.cons rfl .nil))))) ?_ ?_ (.flat (.flat .nil)) (.flat (.flat .nil)) ?_ hh hbd
 · intro x hx
   simp only [List.mem_cons,List.not_mem_nil,or_false]at hx
   rcases hx with rfl|rfl|rfl
   · exact bc (by omega)
   · exact bc (by omega)
   · trivial
 · simp only [XV.ay,List.map_cons,List.map_nil,X1.ay,aw];rfl
 · cases il .u8 a <;> cases il .u8 b <;> rfl
theorem IB {h:Hd} {p:Ph} {a q:List Int} {B:List Bool} {first:Int} {n:Nat}(hT:qh h p a q B first n) {x:TA}(hx:l7 B first n ⟨gR h p,(0,false),[]⟩=x) (he:rC B x.r=0) {z:Int}(hz:z=(n:Nat)) {k:Nat}(hk:a.length=k) {HS:aj} {K i:Nat}(hS:(HS.drop K).take 13=eZ K) (hi:HS[i]? = some (b8 5 (il .u8 a))) (hd:(oM K [i]).Nodup) {N:Nat}(hN:HS.length=N) {HS':aj}(hh:HS++[b8 56 (fl iI x.out)]=HS') (hbd:Nat.blt HS'.length Mem.bound=true) :
 aH.Sound Tryz.prog ⟨12,[.one (.ptr K 0),.agg (gO h),.agg (iJ p),.one (.int .i64 first),.one (.int .i64 z),.one (gQ i k 1)],HS,.tup [.one (gQ N x.out.length 397),.one (.int .i64 0)],HS',oM K [i]⟩:=by
 subst hz hk hN
 refine tS 1 rfl (Iz hT hx he) hS hi hd (.cons (by show 0<14;omega) (.flat (.flat (.flat (.flat (.cons (ff (by omega)) .nil)))))) (.cons rfl (.flat (.flat (.flat (.flat (.cons (cY ..) .nil)))))) (Et (bc (by omega)) trivial) ?_ (.flat .nil) (.flat .nil) ?_ hh hbd
 · simp only [XV.ay,List.map_cons,List.map_nil,X1.ay,aw];rfl
 · cases fl iI x.out <;> rfl
theorem EX (h:Hd) (p:Ph) (f:Int) (c:XC) (τ : Nat→Nat):(gl h p f c).map (·.ay τ)=gl h p f (c.ay τ):=by
 unfold gl
 rw [List.map_append]
 have e1:(gO h).map (·.ay τ)=gO h:=e8 (iQ h) τ
 rw [e1]
 rfl
theorem zU (h:Hd) (p:Ph) (f:Int) {c:XC} {n:Nat}(hc:c.ok n):∀ x∈gl h p f c,x.ok n:=fun x hx=>by
 unfold gl at hx
 rcases List.mem_append.1 hx with hx|hx
 · exact XC.bQ (List.all_eq_true.1 (iQ h) x hx) n
 · simp only [iJ,List.cons_append,List.nil_append,List.mem_cons,List.not_mem_nil,or_false]at hx
   rcases hx with rfl|rfl|rfl|rfl|rfl|rfl
   · trivial
   · trivial
   · trivial
   · trivial
   · trivial
   · exact hc
theorem CQ {h:Hd} {p:Ph}(hh1:sa h) (hp:nK p) {f:Int}(hf:0≤f∧f≤255) {l:List Sm}(hl:∀ j,j<l.length→jy (l.getD j default)) {ob:ak}(ho:sN ob qU l) {c:XC} {i:Nat}(hc:eX c i 0 l.length) (hn:l.length≤9223372036854775807) {G:Hd}(hG:four h=G) {P:Ph}(hP:nB p=P) {F:Int}(hF:dp h f=F) {L:List Mb}(hL:iT h p f l=L) {cap:r_}(hcap:Gh l.length=cap) {opn:Bool}(hopn:Eu l.length=opn) {k:Nat}(hk:L.length=k)
 {HS:aj}(hi:HS[i]? = some ob) {N:Nat}(hN:HS.length=N) {HS':aj}(hh:HS++[.cells (fl mC L) 53 opn false]=HS') (hbd:Nat.blt HS'.length Mem.bound=true) :
 aH.Sound Tryz.prog ⟨9,[.agg (gl h p f c)],HS,.tup [.agg (gO G),.agg (iJ P),.one (.int .i64 F),.one (.slice N 0 k cap)],HS',[i]⟩:=by
 subst hk hopn hcap hL hF hP hG hN
 have hfo:=ho.flat
 obtain⟨c0,hc0,hcr⟩:=hc.F9 0 (nth [i]) rfl
 refine bV (os:=[ob,.cells (fl mC (iT h p f l)) 53 (Eu l.length) false]) [i] [i] 1 (Hk hh1 hp hf l hl ob ho c0 hc0 hn) (by simp) (.flat hi .nil) (.flat .nil) (.flat (.flat .nil)) rfl (.cons ?_ .nil) (.cons ?_ .nil) (qG _ _ _ _ 1 _ (show 1<2 by omega)) ?_ (.flat (.flat .nil)) ?_ rfl ?_ hbd (.inl rfl)
 · exact zU h p f (hc0.ok (by show 0<1;omega))
 · show XV.agg ((gl h p f c0).map (·.ay (nth [i])))=_
   rw [EX,hcr]
 · rw [oO];rfl
 · simp only [dP,Bool.and_eq_true]
   exact⟨by cases ob.live <;> simp,by simp [ak.live,ak.own]⟩
 · simp only [bG];rw [aG hi];exact hh
end Go.Proofs.YtagpkhindehcbaaGreat
namespace Go.Proofs.YtagpkhindehcbaaGreat
open Go.Xm
theorem Hy:∀ i j:Fin 64,oe 0 i.val=oe 0 j.val→i=j:=by decide +kernel
theorem Hz:∀ i j:Fin 64,oe 1 i.val=oe 1 j.val→i=j:=by decide +kernel
theorem HA:∀ i j:Fin 64,oe 2 i.val=oe 2 j.val→i=j:=by decide +kernel
theorem Kt {o:Int}(h:o=0∨o=1∨o=2) {i j:Nat}(hi:i<64) (hj:j<64) (he:oe o i=oe o j):i=j:=by
 rcases h with rfl|rfl|rfl
 · exact congrArg Fin.val (Hy ⟨i,hi⟩ ⟨j,hj⟩ he)
 · exact congrArg Fin.val (Hz ⟨i,hi⟩ ⟨j,hj⟩ he)
 · exact congrArg Fin.val (HA ⟨i,hi⟩ ⟨j,hj⟩ he)
theorem HE:∀ i:Fin 64,∃ j:Fin 64,oe 0 j.val=i.val:=by decide +kernel
theorem HF:∀ i:Fin 64,∃ j:Fin 64,oe 1 j.val=i.val:=by decide +kernel
theorem HG:∀ i:Fin 64,∃ j:Fin 64,oe 2 j.val=i.val:=by decide +kernel
theorem Ku {o:Int}(h:o=0∨o=1∨o=2) {i:Nat}(hi:i<64):∃ j,j<64∧oe o j=(i:Nat):=by
 rcases h with rfl|rfl|rfl
 · obtain⟨j,hj⟩:=HE ⟨i,hi⟩;exact⟨j.val,j.isLt,hj⟩
 · obtain⟨j,hj⟩:=HF ⟨i,hi⟩;exact⟨j.val,j.isLt,hj⟩
 · obtain⟨j,hj⟩:=HG ⟨i,hi⟩;exact⟨j.val,j.isLt,hj⟩
theorem HH {o:Int}(h:o=0∨o=1∨o=2):oe o 0=0:=by
 rcases h with rfl|rfl|rfl <;> rfl
theorem Dq {o:Int}(h:o=0∨o=1∨o=2) (f:Nat→Int):∀ n,n≤64→∀ j,j<n→FR o f n (oe o j).toNat=f j
 | 0,_,j,hj=>absurd hj (Nat.not_lt_zero _)
 | n + 1,hn,j,hj=>by
   show c8 (FR o f n) (oe o n).toNat (f n) (oe o j).toNat=f j
   have h1:=qL h (i:=n) (by omega)
   have h2:=qL h (i:=j) (by omega)
   unfold c8
   by_cases hjn:j=n
   · subst hjn;rw [if_pos rfl]
   · rw [if_neg (fun e=>hjn (Kt h (by omega) (by omega) (by omega)))]
     exact Dq h f n (by omega) j (by omega)
theorem rT {o:Int}(h:o=0∨o=1∨o=2) {f r:Nat→Int}(hf:∀ i,i<64→f i=iZ o r i) {i:Nat}(hi:i<64):d_ o f i=r i:=by
 obtain⟨j,hj,he⟩:=Ku h hi
 have:=Dq h f 64 (Nat.le_refl _) j hj
 rw [he,Int.toNat_natCast]at this
 show FR o f 64 i=r i
 rw [this,hf j hj]
 unfold iZ
 rw [he,Int.toNat_natCast]
def bk:List Ev→Int→(Nat→Int)→Option (Nat→Int)
 | [],_,g=>some g
 | e::l,at_,g=>if 63<at_+e.1 then none else bk l (at_+e.1+1) (c8 g (at_+e.1).toNat e.2.1)
theorem th (l:List Ev) (st:Int):∀ j,j≤l.length→(dG l st j).bind (fun x=>bk (l.drop j) x.1 x.2)=bk l st fun _=>0
 | 0,_=>rfl
 | j + 1,hj=>by
   rw [←th l st j (by omega)]
   show((dG l st j).bind _).bind _=_
   cases hr:dG l st j with
   | none=>rfl
   | some x=>
     have hd:l.drop j=l.getD j default::l.drop (j+1):=by
      rw [List.drop_eq_getElem_cons (by omega),List.getD_eq_getElem?_getD,List.getElem?_eq_getElem (by omega)];rfl
     rw [hd]
     show Option.bind (if 63<x.1+(l.getD j default).1 then none else some _) _=bk (_::_) x.1 x.2
     rw [bk]
     split <;> rfl
theorem F8 (l:List Ev) (st:Int):jB l st=bk l st fun _=>0:=by
 rw [←th l st l.length (Nat.le_refl _),List.drop_length]
 unfold jB
 cases dG l st l.length <;> rfl
theorem Cw:∀(l:List Ev) (st:Int) (g:Nat→Int),bk (ji l) st g=bk l st g
 | [],_,_=>rfl
 | [e],_,_=>rfl
 | e::e2::l,st,g=>by
   rw [ji,bk,bk]
   split
   · rfl
   · exact Cw (e2::l) _ _
theorem tm (f:Nat→Int):∀(n i:Nat) (run:Int) (g:Nat→Int),i+n=64→0≤run→bk (iD f n i run) ((i:Int)-run) g=some fun j=>if i≤j∧j<64∧f j≠0 then f j else g j
 | 0,i,run,g,h,_=>by
   rw [iD,bk]
   congr 1
   funext j
   rw [if_neg (by omega)]
 | n + 1,i,run,g,h,hr=>by
   rw [iD]
   by_cases hz:f i=0
   · rw [if_pos hz]
     have:=tm f n (i+1) (run+1) g (by omega) (by omega)
     rw [show((i+1:Nat):Int)-(run+1)=(i:Int)-run by omega]at this
     rw [this]
     congr 1
     funext j
     by_cases hj:j=i
     · subst hj;rw [if_neg (by omega),if_neg (by rw [hz];simp)]
     · by_cases h1:i+1≤j∧j<64∧f j≠0
       · rw [if_pos h1,if_pos ⟨by omega,h1.2⟩]
       · rw [if_neg h1,if_neg (fun h2=>h1 ⟨by omega,h2.2⟩)]
   · rw [if_neg hz,bk]
     have h63:¬63<(i:Int)-run+run:=by omega
     show(if 63<(i:Int)-run+run then none else _)=_
     rw [if_neg h63]
     have:=tm f n (i+1) 0 (c8 g i (f i)) (by omega) (by omega)
     rw [show((i+1:Nat):Int)-0=(i:Int)-run+run+1 by omega]at this
     show bk _ ((i:Int)-run+run+1) (c8 g ((i:Int)-run+run).toNat (f i))=_
     rw [show((i:Int)-run+run).toNat=i by omega,this]
     congr 1
     funext j
     by_cases hj:j=i
     · subst hj
       rw [if_neg (by omega),if_pos ⟨Nat.le_refl _,by omega,hz⟩]
       unfold c8;rw [if_pos rfl]
     · have hu:c8 g i (f i) j=g j:=by unfold c8;rw [if_neg hj]
       rw [hu]
       by_cases h1:i+1≤j∧j<64∧f j≠0
       · rw [if_pos h1,if_pos ⟨by omega,h1.2⟩]
       · rw [if_neg h1,if_neg (fun h2=>h1 ⟨by omega,h2.2⟩)]
theorem wj {f:Nat→Int} {st:Nat}(hst:st≤64):jB (fI f st) (st:Nat)=some fun j=>if st≤j∧j<64∧f j≠0 then f j else 0:=by
 rw [F8]
 unfold fI
 rw [Cw]
 have:=tm f (64-st) st 0 (fun _=>0) (by omega) (Int.le_refl _)
 rw [Int.sub_zero]at this
 exact this
theorem wh {f:Nat→Int}:∀(n i:Nat) (run:Int),iD f n i run = []→∀ j,i≤j→j<i+n→f j=0
 | 0,i,run,_,j,h1,h2=>by omega
 | n + 1,i,run,h,j,h1,h2=>by
   rw [iD]at h
   split at h
   · rename_i hz
     by_cases hj:j=i
     · rw [hj];exact hz
     · exact wh n (i+1) _ h j (by omega) (by omega)
   · cases h
variable [az]
theorem H0 {f:Nat→Int} {st:Nat}(hst:st≤64) (h:fI f st = []):∀ j,st≤j→j<64→f j=0:=by
 have h0:iD f (64-st) st 0 = []:=by
  unfold fI at h
  have:=congrArg List.length h
  rw [ik]at this
  exact List.length_eq_zero_iff.1 this
 intro j h1 h2
 exact wh _ _ _ h0 j h1 (by omega)
def kf (b:Kn):Int × (Nat→Int):=(b.qp,fun i=>if i<64 then b.lv i else 0)
def yB (T U:nF):Prop:=∀ k,(ct U k).map kf=(ct T k).map kf
structure lu (S R:bC):Prop where
 cols:R.cols=S.cols
 rows:R.rows=S.rows
 a:yB S.A R.A
 b:yB S.B R.B
 c:yB S.C R.C
theorem vR {x y:Option Kn}(h:x.map kf=y.map kf):x.map kq=y.map kq:=by
 cases x with
 | none=>cases y with
   | none=>rfl
   | some b=>cases h
 | some a=>cases y with
   | none=>cases h
   | some b=>
     have h1:=Option.some.inj h
     have h2:=congrFun (congrArg Prod.snd h1) 0
     have h3:a.qp=b.qp:=congrArg Prod.fst h1
     have h4:a.lv 0=b.lv 0:=h2
     show some (a.lv 0,a.qp)=some (b.lv 0,b.qp)
     rw [h3,h4]
theorem k9 {S R:bC}(h:lu S R) (mb k dx dy:Int):(xA R mb k dx dy).map kf=(xA S mb k dx dy).map kf:=by
 unfold xA c9 cw
 rw [h.cols]
 split
 · rfl
 · unfold bP
   split
   · exact h.a _
   · split
     · exact h.b _
     · exact h.c _
theorem Fg {S R:bC}(h:lu S R) (mb k q:Int):aL R mb k q=aL S mb k q:=xp (vR (k9 h ..)) (vR (k9 h ..)) (vR (k9 h ..))
theorem yS {a b:Kn}(h:∀ i,i<64→a.lv i=b.lv i) {s:Nat}(hs:s≤8):∀ n,n≤7→em a s n=em b s n
 | 0,_=>rfl
 | n+1,hn=>by
   have h1:(n+1)*s≤7*8:=Nat.mul_le_mul (by omega) hs
   rw [mK,mK,yS h hs n (by omega),h _ (by omega)]
theorem vL {x y:Option Kn}(h:x.map kf=y.map kf) {s:Nat}(hs:s≤8) (q:Int):e9 x s q=e9 y s q:=by
 cases x with
 | none=>cases y with
   | none=>rfl
   | some b=>cases h
 | some a=>cases y with
   | none=>cases h
   | some b=>
     have h1:=Option.some.inj h
     have h3:a.qp=b.qp:=congrArg Prod.fst h1
     have h4:∀ i,i<64→a.lv i=b.lv i:=fun i hi=>by
      have:=congrFun (congrArg Prod.snd h1) i
      dsimp only [kf]at this
      rwa [if_pos hi,if_pos hi]at this
     unfold e9
     dsimp only
     rw [h3,yS h4 hs 7 (Nat.le_refl _)]
theorem BR {S R:bC}(h:lu S R) (mb k q:Int):cz R mb k q=cz S mb k q:=by
 unfold cz tA
 rw [xp (vR (k9 h mb k 1 0)) (vR (k9 h mb k 0 1)) (vR (k9 h mb k 1 1)),vL (k9 h mb k 1 0) (Nat.le_refl _),vL (k9 h mb k 0 1) (by omega)]
theorem uD {p q:Int} {T U:nF}(h:yB T U) {key:Int} {b c:Kn}(hb:kf c=kf b):yB (i3 p q T key b) (i3 p q U key c):=by
 unfold i3
 split
 · intro k
   rw [fQ,fQ]
   split
   · exact congrArg some hb
   · exact h k
 · exact h
theorem wz {S R:bC}(h:lu S R) (mb k:Int) {b c:Kn}(hb:kf c=kf b):lu (aN S mb k b) (aN R mb k c):=by
 have e:lF R mb k=lF S mb k:=by unfold lF;rw [h.cols]
 refine⟨h.cols,h.rows,?_,?_,?_⟩
 · show yB (i3 (placeOf S.cols mb k).1 0 S.A (lF S mb k) b) (i3 (placeOf R.cols mb k).1 0 R.A (lF R mb k) c)
   rw [e,h.cols];exact uD h.a hb
 · show yB (i3 (placeOf S.cols mb k).1 1 S.B (lF S mb k) b) (i3 (placeOf R.cols mb k).1 1 R.B (lF R mb k) c)
   rw [e,h.cols];exact uD h.b hb
 · show yB (i3 (placeOf S.cols mb k).1 2 S.C (lF S mb k) b) (i3 (placeOf R.cols mb k).1 2 R.C (lF R mb k) c)
   rw [e,h.cols];exact uD h.c hb
theorem CB (b:Kn) {s:Nat}(hs:1≤s):∀ n,em b s n 0=0
 | 0=>rfl
 | n+1=>by
   have h1:1*1≤(n+1)*s:=Nat.mul_le_mul (by omega) hs
   rw [mK]
   unfold c8
   rw [if_neg (by omega)]
   exact CB b hs n
theorem BS (S:bC) (mb k q:Int):cz S mb k q 0=0:=by
 have ho:∀(o:Option Kn) (s:Nat),1≤s→e9 o s q 0=0:=fun o s hs=>by
  unfold e9
  cases o with
  | none=>rfl
  | some b=>
    dsimp only
    split
    · exact CB b hs 7
    · rfl
 unfold cz tA
 repeat' split
 all_goals first
  | exact ho _ _ (by omega)
  | rfl
theorem uB (m:Mb):fy m=((if alone m=true then 1 else 0:Nat):Int):=by unfold fy;split <;> rfl
def pL (ev:List Ev) (st:Int) (rest:Nat→Int):Prop:=if 0<ev.length then jB ev st=some rest else rest=fun _=>0
theorem xG {f:Nat→Int} {st:Nat}(hst:st≤1) (h0:st=1→f 0=0) {rest:Nat→Int}(h:pL (fI f st) (st:Nat) rest) {i:Nat}(hi:i<64):rest i=f i:=by
 unfold pL at h
 split at h
 · rw [wj (by omega)]at h
   cases h
   dsimp only
   by_cases h1:st≤i∧i<64∧f i≠0
   · rw [if_pos h1]
   · rw [if_neg h1]
     by_cases h2:f i=0
     · exact h2.symm
     · have hi0:i=0:=by omega
       subst hi0
       exact(h0 (by omega)).symm
 · rename_i hn
   have hnil:fI f st = []:=List.length_eq_zero_iff.1 (by omega)
   rw [h]
   dsimp only
   by_cases h1:st≤i
   · exact(H0 (by omega) hnil i h1 hi).symm
   · have hi0:i=0:=by omega
     subst hi0
     exact(h0 (by omega)).symm
theorem LI {l l':Nat→Int} {q:Int}(h:∀ i,i<64→l i=l' i):kf ⟨l,q⟩=kf ⟨l',q⟩:=by
 unfold kf
 congr 1
 funext i
 by_cases hi:i<64
 · rw [if_pos hi,if_pos hi];exact h i hi
 · rw [if_neg hi,if_neg hi]
theorem vO {S R:bC}(hR:lu S R) {m o:Mb} {mb:Int} {k:Nat} {r:Nat→Int}(hr:fV m S mb k=some r) (hk:o.kind=m.kind) (hq:o.qp=m.qp) (he:o.edge=m.edge) (hm:alone m=false→m.edge=false) (h0:alone m=true→o.lev (k*64)=m.lev (k*64)) (hlev:∀ i,i<64 → -2047≤aE m k i∧aE m k i≤2047) {rest:Nat→Int}(hrest:pL (pk m S mb k r) (fy o) rest) :
 ∃ R' l,km R mb k o rest=some (R',dQ o k l)∧lu (if alone m=true then aN S mb k ⟨aE m k,m.qp⟩else S) R'∧∀ i,i<64→l i=aE m k i:=by
 have ha:alone o=alone m:=by unfold alone;rw [hk]
 have hst:fy o=((if alone m=true then 1 else 0:Nat):Int):=by rw [uB,ha]
 have hor:=fe m.edge (aL S mb k m.qp).1
 obtain⟨od,hod⟩:∃ od,dC m.edge (aL S mb k m.qp).1=od:=⟨_,rfl⟩
 have hod2:dC o.edge (aL R mb k o.qp).1=od:=by rw [he,hq,Fg hR];exact hod
 rw [hst]at hrest
 unfold pk at hrest
 rw [hod]at hrest hor
 unfold fV at hr
 unfold km
 cases hal:alone m with
 | false=>
   rw [hal,if_neg (by decide)]at hr
   cases hr
   rw [hal,if_neg (by decide)]at hrest
   have hrl:∀ i,i<64→rest i=iZ od (aE m k) i:=fun i hi=>xG (by omega) (fun h=>absurd h (by decide)) hrest hi
   have hz:od=0:=by rw [←hod,hm hal];rfl
   rw [ha,hal,if_neg (by decide),if_neg (by decide)]
   refine⟨_,_,rfl,hR,fun i hi=>?_⟩
   rw [hz]at hrl
   exact rT (.inl rfl) hrl hi
 | true =>
   rw [hal,if_pos rfl]at hr hrest
   rw [ha,hal,if_pos rfl,if_pos rfl,hod2,he]
   have hp0:=HH hor
   cases hed:m.edge with
   | false=>
     rw [hed,if_neg (by decide)]at hr
     cases hr
     have hrl:∀ i,i<64→rest i=iZ od (c8 (aE m k) 0 0) i:=fun i hi=>xG (by omega) (fun _=>by unfold iZ;rw [hp0];rfl) hrest hi
     rw [if_neg (by decide)]
     have hl:∀ i,i<64→c8 (d_ od rest) 0 (o.lev (k*64)) i=aE m k i:=fun i hi=>by
      unfold c8
      by_cases hi0:i=0
      · subst hi0;rw [if_pos rfl,h0 hal];unfold aE;rw [Nat.add_zero]
      · rw [if_neg hi0,rT hor hrl hi]
        unfold c8;rw [if_neg hi0]
     refine⟨_,_,rfl,?_,hl⟩
     rw [hq]
     exact wz hR mb k (LI hl)
   | true =>
     rw [hed,if_pos rfl]at hr
     cases hle:n7 (aE m k) (cz S mb k m.qp)with
     | none=>rw [hle]at hr;cases hr
     | some d=>
       rw [hle]at hr
       cases hr
       have hd:∀ i,d i=aE m k i-cz S mb k m.qp i:=by
        unfold n7 at hle
        split at hle
        · cases hle
        · cases hle;intro i;rfl
       have hrl:∀ i,i<64→rest i=iZ od (c8 d 0 0) i:=fun i hi=>xG (by omega) (fun _=>by unfold iZ;rw [hp0];rfl) hrest hi
       have hs:∀ i,i<64→d_ od rest i=c8 d 0 0 i:=fun i hi=>rT hor hrl hi
       rw [if_pos rfl,hq,BR hR]
       have hmore:ku (d_ od rest) (cz S mb k m.qp)=some fun i=>d_ od rest i+cz S mb k m.qp i:=by
        refine if_neg fun⟨i,hi,hb⟩=>?_
        unfold kZ at hb
        rw [hs i hi]at hb
        have hl:=hlev i hi
        unfold c8 at hb
        by_cases hi0:i=0
        · subst hi0
          rw [if_pos rfl,BS]at hb
          omega
        · rw [if_neg hi0,hd i]at hb
          omega
       rw [hmore]
       have hl:∀ i,i<64→c8 (fun i=>d_ od rest i+cz S mb k m.qp i) 0 (o.lev (k*64)) i=aE m k i:=fun i hi=>by
        unfold c8
        by_cases hi0:i=0
        · subst hi0;rw [if_pos rfl,h0 hal];unfold aE;rw [Nat.add_zero]
        · rw [if_neg hi0]
          show d_ od rest i+cz S mb k m.qp i=aE m k i
          rw [hs i hi]
          unfold c8;rw [if_neg hi0,hd i];omega
       exact⟨_,_,rfl,wz hR mb k (LI hl),hl⟩
theorem Cx {m:Mb} {mb:Int} {x0:pe}:∀ k x,fq m mb x0 k=some x→(∀ j,j<k→∃ y r,fq m mb x0 j=some y∧fV m y.S mb j=some r∧x.ev j=pk m y.S mb j r)∧∀ j,k≤j→x.ev j=x0.ev j
 | 0,x,h=>by cases h;exact⟨fun j hj=>absurd hj (Nat.not_lt_zero _),fun _ _=>rfl⟩
 | k + 1,x,h=>by
   obtain⟨y,r,hy,hr,rfl⟩:=ib h
   obtain⟨h1,h2⟩:=Cx k y hy
   refine⟨fun j hj=>?_,fun j hj=>?_⟩
   · by_cases hjk:j=k
     · subst hjk;exact⟨y,r,hy,hr,if_pos rfl⟩
     · obtain⟨y',r',a,b,c⟩:=h1 j (by omega)
       exact⟨y',r',a,b,(if_neg hjk).trans c⟩
   · exact(if_neg (by omega)).trans (h2 j (by omega))
structure nH (m o o':Mb) (k:Nat):Prop where
 kind:o'.kind=m.kind
 qp:o'.qp=m.qp
 edge:o'.edge=m.edge
 v:o'.v=o.v
 lo:∀ i,i<k*64→o'.lev i=m.lev i
 hi:∀ i,k*64≤i→o'.lev i=o.lev i
theorem nV {m o o':Mb} {k:Nat}(h:nH m o o' k) {l:Nat→Int}(hl:∀ i,i<64→l i=aE m k i):nH m o (dQ o' k l) (k+1):=by
 refine⟨h.kind,h.qp,h.edge,h.v,fun i hi=>?_,fun i hi=>?_⟩
 · show(if k*64≤i∧i<k*64+64 then l (i-k*64)else o'.lev i)=m.lev i
   by_cases hk:k*64≤i
   · rw [if_pos ⟨hk,by omega⟩,hl _ (by omega)]
     unfold aE
     rw [show k*64+(i-k*64)=i by omega]
   · rw [if_neg (by omega)]
     exact h.lo i (by omega)
 · show(if k*64≤i∧i<k*64+64 then l (i-k*64)else o'.lev i)=o.lev i
   rw [if_neg (by omega)]
   exact h.hi i (by omega)
def Ch (evs:List (List Ev)) (u:Nat) (has:Nat→Bool) (ev:Nat→List Ev) (k:Nat):Prop:=∀ j,j<k→has j=true→u+jh has j<evs.length∧evs.getD (u+jh has j) []=ev j
theorem GJ {evs:List (List Ev)} {m o:Mb} {mb:Int} {x0 x6:pe}(hx6:fq m mb x0 6=some x6) {R0:bC}(hR:lu x0.S R0) {has:Nat→Bool}(hhas:∀ j,j<6→has j=decide (0<(x6.ev j).length)) {u:Nat}(hk:o.kind=m.kind) (hq:o.qp=m.qp) (he:o.edge=m.edge) (hm:alone m=false→m.edge=false) (h0:alone m=true→∀ k,k<6→o.lev (k*64)=m.lev (k*64)) (hlev:∀ i,i<384 → -2047≤m.lev i∧m.lev i≤2047) :
 ∀ k,k≤6→Ch evs u has x6.ev k→∃ y o' R',fq m mb x0 k=some y∧lP evs mb has (R0,o,u) k = .inr (R',o',u+jh has k)∧lu y.S R'∧nH m o o' k:=by
 intro k
 induction k with
 | zero=>intro _ _;exact⟨x0,o,R0,rfl,rfl,hR,hk,hq,he,rfl,fun i hi=>absurd hi (by omega),fun _ _=>rfl⟩
 | succ k ih=>
   intro hk6 hev
   obtain⟨y,o',R',hy,hf,hRk,hF⟩:=ih (by omega) (fun j hj=>hev j (by omega))
   obtain⟨y',r,hy',hr,hevk⟩:=(Cx 6 x6 hx6).1 k (by omega)
   rw [hy]at hy'
   cases hy'
   have hsta:fy o'=fy m:=by unfold fy alone;rw [hF.kind]
   have hlv:∀ i,i<64 → -2047≤aE m k i∧aE m k i≤2047:=fun i hi=>hlev _ (by omega)
   have ho0:alone m=true→o'.lev (k*64)=m.lev (k*64):=fun ha=>by rw [hF.hi _ (Nat.le_refl _)];exact h0 ha k (by omega)
   have hynext:fq m mb x0 (k+1)=some (cy m mb k y (pk m y.S mb k r)):=by rw [fq,hy];show Option.map _ (fV m y.S mb k)=_;rw [hr];rfl
   have hS:(cy m mb k y (pk m y.S mb k r)).S=if alone m=true then aN y.S mb k ⟨aE m k,m.qp⟩else y.S:=rfl
   have hst:fy o'=((if alone m=true then 1 else 0:Nat):Int):=by rw [hsta,uB]
   by_cases hh:has k=true
   · have hpos:0<(x6.ev k).length:=by rw [hhas k (by omega)]at hh;exact of_decide_eq_true hh
     obtain⟨hu,hevu⟩:=hev k (by omega) hh
     have hbk:∃ rest,jB (pk m y.S mb k r) (fy o')=some rest:=by
      rw [hst];unfold pk
      exact⟨_,wj (by split <;> omega)⟩
     obtain⟨rest,hrest⟩:=hbk
     have hRest:pL (pk m y.S mb k r) (fy o') rest:=by unfold pL;rw [if_pos (by rw [←hevk];exact hpos)];exact hrest
     obtain⟨R2,l,hfill,hR2,hl⟩:=vO hRk hr hF.kind hF.qp hF.edge hm ho0 hlv hRest
     refine⟨_,dQ o' k l,R2,hynext,?_,by rw [hS];exact hR2,nV hF hl⟩
     rw [lP,hf]
     show fK evs mb has (R',o',u+jh has k) k=_
     unfold fK
     rw [if_pos hh,if_neg (by dsimp only;omega)]
     dsimp only
     rw [hevu,hevk,hrest]
     dsimp only
     unfold JU
     dsimp only
     rw [hfill,jh,if_pos hh]
     rfl
   · have hnil:¬0<(x6.ev k).length:=fun hp=>hh (by rw [hhas k (by omega)];exact decide_eq_true hp)
     have hRest:pL (pk m y.S mb k r) (fy o') (fun _=>0):=by unfold pL;rw [if_neg (by rw [←hevk];exact hnil)]
     obtain⟨R2,l,hfill,hR2,hl⟩:=vO hRk hr hF.kind hF.qp hF.edge hm ho0 hlv hRest
     refine⟨_,dQ o' k l,R2,hynext,?_,by rw [hS];exact hR2,nV hF hl⟩
     rw [lP,hf]
     show fK evs mb has (R',o',u+jh has k) k=_
     unfold fK
     rw [if_neg hh]
     unfold JU
     dsimp only
     rw [hfill,jh,if_neg hh]
     rfl
theorem Aa (o:Int):∀ n i,FR o (fun _=>0) n i=0
 | 0,_=>rfl
 | n+1,i=>by
   show c8 (FR o (fun _=>0) n) _ 0 i=0
   unfold c8
   split
   · rfl
   · exact Aa o n i
theorem D7 {evs:List (List Ev)} {m o:Mb} {mb:Int} {R0:bC} {has:Nat→Bool}(hhas:∀ j,j<6→has j=false) {u:Nat}(hk:o.kind=m.kind) (hq:o.qp=m.qp) (he:o.edge=m.edge) (ha:alone m=false) (hlev:∀ i,i<384→m.lev i=0) :
 ∀ k,k≤6→∃ o',lP evs mb has (R0,o,u) k = .inr (R0,o',u+jh has k)∧nH m o o' k:=by
 intro k
 induction k with
 | zero=>intro _;exact⟨o,rfl,hk,hq,he,rfl,fun i hi=>absurd hi (by omega),fun _ _=>rfl⟩
 | succ k ih=>
   intro hk6
   obtain⟨o',hf,hF⟩:=ih (by omega)
   have hal:alone o'=false:=by rw [←ha];unfold alone;rw [hF.kind]
   have hl:∀ i,i<64→d_ 0 (fun _=>0) i=aE m k i:=fun i hi=>by
    show FR 0 (fun _=>0) 64 i=_
    rw [Aa]
    exact(hlev _ (by omega)).symm
   refine⟨dQ o' k (d_ 0 fun _=>0),?_,nV hF hl⟩
   rw [lP,hf]
   show fK evs mb has (R0,o',u+jh has k) k=_
   unfold fK
   rw [if_neg (by rw [hhas k (by omega)];decide)]
   unfold JU
   dsimp only
   unfold km
   rw [if_neg (by rw [hal];decide),jh,if_neg (by rw [hhas k (by omega)];decide)]
   rfl
structure my (m o:Mb):Prop where
 kind:o.kind=m.kind
 qp:o.qp=m.qp
 edge:o.edge=m.edge
 v:∀ k,k<4→o.v k=m.v k
 lev:∀ i,i<384→o.lev i=m.lev i
theorem Bg {S R:bC}(h:lu S R) (m:Mb):lu (fc S m) R:=by
 unfold fc
 split
 · exact⟨h.cols,h.rows,h.a,h.b,h.c⟩
 · exact h
theorem qB {z:bC × List Bool} {R:bC}(h:lu z.1 R) (m:Mb) (mb:Int) (k:Nat):lu (av m mb z k).1 R:=⟨h.cols,h.rows,h.a,h.b,h.c⟩
theorem l_ {S R:bC}(h:lu S R) (mb:Int) (v:Nat→Int × Int):lu (ba S mb v) R:=⟨h.cols,h.rows,h.a,h.b,h.c⟩
theorem Eg {S R:bC}(h:lu S R) (X:List Bool) (m:Mb) (mb:Int):lu (cp S X m mb).1 R:=by
 unfold cp
 split
 · exact l_ h _ _
 · split
   · exact l_ (qB (z:=(S,X++aB S m)) h m mb 0) _ _
   · split
     · exact l_ (qB (qB (qB (qB (z:=(S,X++aB S m)) h m mb 0) m mb 1) m mb 2) m mb 3) _ _
     · exact l_ (Bg h m) _ _
structure DH (l:List Mb) (first:Int) (x0:PS) (outs:List Ol):Prop where
 len:outs.length=l.length
 at_:∀ i,i<l.length→Cj (l.getD i default) (outs.getD i default).1∧∀ j,j<6→(outs.getD i default).2 j=decide (0<(AG l first x0 i j).length)
theorem J4 {h:Hd} {p:Ph} {l:List Mb} {first:Int}(hT:eh h p l first) {outs:List Ol}(hO:DH l first (iC h p) outs) {evs:List (List Ev)} {i:Nat}(hi:i<l.length) {x y:PS}(hx:eg l first (iC h p) i = .inr x) (hy:eg l first (iC h p) (i+1) = .inr y) {R:bC}(hR:lu x.S R) {u:Nat} :
 ∀ k,k≤6→Ch evs u (outs.getD i default).2 (AG l first (iC h p) i) k→∃ o' R',lP evs (first+(i:Nat)) (outs.getD i default).2 (R,(outs.getD i default).1,u) k = .inr (R',o',u+jh (outs.getD i default).2 k)∧(k=6→lu y.S R'∧my (l.getD i default) o'):=by
 obtain⟨x',hx',hs⟩:=jk hy
 rw [hx]at hx'
 cases hx'
 obtain⟨ho,hhas⟩:=hO.at_ i hi
 have hm:=mW hT hi
 obtain⟨hc,z,hz,rfl⟩:=lY hs
 have hf:=iz hm hc
 have hpe:∀ j,AG l first (iC h p) i j=tH x.S x.B (l.getD i default) (first+(i:Nat)) j:=fun j=>by unfold AG;rw [hx]
 have hz':fH x.S x.B x.w (l.getD i default) (first+(i:Nat))=some (z.1,z.2.1,z.2.2):=hz
 have hsame:∀ {o'},nH (l.getD i default) (outs.getD i default).1 o' 6→my (l.getD i default) o':=fun hF=>⟨hF.kind,hF.qp,hF.edge,fun k hk=>by rw [hF.v];exact ho.v k hk,fun i hi=>hF.lo i (by omega)⟩
 intro k hk hev
 by_cases h0:(l.getD i default).kind=0
 · have ha:alone (l.getD i default)=false:=by unfold alone;rw [h0];rfl
   have hn:∀ j,j<6→(outs.getD i default).2 j=false:=fun j hj=>by
    rw [hhas j hj,hpe j];unfold tH;rw [if_pos h0];rfl
   obtain⟨o',h1,h2⟩:=D7 (evs:=evs) (mb:=first+(i:Nat)) (R0:=R) hn (u:=u) ho.kind ho.qp ho.edge ha (fun j hj=>(hf.lev j hj).1 h0) k hk
   refine⟨o',R,h1,fun h6=>?_⟩
   subst h6
   unfold fH at hz'
   rw [if_pos h0]at hz'
   have e1:ba x.S (first+(i:Nat)) (l.getD i default).v=z.1:=congrArg (fun q=>q.1) (Option.some.inj hz')
   refine⟨?_,hsame h2⟩
   show lu z.1 R
   rw [←e1]
   exact l_ hR _ _
 · unfold fH at hz'
   rw [if_neg h0]at hz'
   obtain⟨x6,hx6,he6⟩:=Option.map_eq_some_iff.1 hz'
   have hpe2:∀ j,AG l first (iC h p) i j=x6.ev j:=fun j=>by rw [hpe j];unfold tH;rw [if_neg h0,hx6]
   obtain⟨y',o',R',a1,a2,a3,a4⟩:=GJ (evs:=evs) hx6 (Eg hR x.B (l.getD i default) (first+(i:Nat))) (has:=(outs.getD i default).2) (fun j hj=>by rw [hhas j hj,hpe2 j]) (u:=u) ho.kind ho.qp ho.edge hf.edge (fun ha k hk=>by rw [ho.lev,if_pos ⟨ha,by omega,by omega⟩]) (fun j hj=>(hf.lev j hj).2.1) k hk (fun j hj hh=>by rw [←hpe2 j];exact hev j hj hh)
   refine⟨o',R',a2,fun h6=>?_⟩
   subst h6
   rw [hx6]at a1
   cases a1
   have e1:x6.S=z.1:=congrArg (fun q=>q.1) he6
   rw [←e1]
   exact⟨a3,hsame a4⟩
theorem GI {h:Hd} {p:Ph} {l:List Mb} {first:Int}(hT:eh h p l first) {outs:List Ol}(hO:DH l first (iC h p) outs) {evs:List (List Ev)} {X:PS}(hX:eg l first (iC h p) l.length = .inr X) :
 ∀ n,n≤l.length→(∀ i,i<n→Ch evs (manyN outs i) (outs.getD i default).2 (AG l first (iC h p) i) 6)→∃ y R out,eg l first (iC h p) n = .inr y∧vf evs first outs (gR h p) n = .inr ⟨R,out,manyN outs n⟩∧lu y.S R∧out.length=n∧∀ i,i<n→my (l.getD i default) (out.getD i default):=by
 intro n
 induction n with
 | zero=>intro _ _;exact⟨iC h p,gR h p,[],rfl,rfl,⟨rfl,rfl,fun _=>rfl,fun _=>rfl,fun _=>rfl⟩,rfl,fun i hi=>absurd hi (Nat.not_lt_zero _)⟩
 | succ n ih=>
   intro hn hev
   obtain⟨x,R,out,hx,hf,hR,hlen,hsame⟩:=ih (by omega) (fun i hi=>hev i (by omega))
   obtain⟨y,hy⟩:=pX hX (n+1) hn
   obtain⟨o',R',h1,h2⟩:=J4 hT hO (by omega) hx hy hR 6 (Nat.le_refl _) (hev n (by omega))
   obtain⟨h3,h4⟩:=h2 rfl
   refine⟨y,R',out++[o'],hy,?_,h3,by rw [List.length_append,hlen];rfl,fun i hi=>?_⟩
   · rw [vf,hf]
     dsimp only
     rw [h1,manyN]
   · by_cases hin:i<n
     · have e:(out++[o']).getD i default=out.getD i default:=by rw [List.getD_eq_getElem?_getD,List.getElem?_append_left (by omega),←List.getD_eq_getElem?_getD]
       rw [e]
       exact hsame i hin
     · obtain rfl:i=n:=by omega
       have e:(out++[o']).getD i default=o':=by rw [List.getD_eq_getElem?_getD,List.getElem?_append_right (by omega),hlen,Nat.sub_self];rfl
       rw [e]
       exact h4
end Go.Proofs.YtagpkhindehcbaaGreat
namespace Go.Proofs.YtagpkhindehcbaaGreat
open Go.Xm
variable [az]
theorem JK (e:Ev):FQ (2*e.1+(if e.2.2 then 1 else 0)) (aY e.2.1-1)=e:=by
 obtain⟨a,b,c⟩:=e
 unfold FQ
 rw [Int.sub_add_cancel,ot]
 cases c with
 | false=>
   have e1:(2*a+0)/2=a:=by omega
   have e2:decide ((2*a+0)%2=1)=false:=decide_eq_false (by omega)
   show((2*a+0)/2,b,decide ((2*a+0)%2=1))=(a,b,false)
   rw [e1,e2]
 | true=>
   have e1:(2*a+1)/2=a:=by omega
   have e2:decide ((2*a+1)%2=1)=true:=decide_eq_true (by omega)
   show((2*a+1)/2,b,decide ((2*a+1)%2=1))=(a,b,true)
   rw [e1,e2]
theorem A_ {e:Ev}(h:mw e):iO e=true:=decide_eq_true ⟨h.run.1,h.run.2,h.nz,h.lev.1,h.lev.2⟩
theorem yK:∀(l:List Ev) (k:Nat) (pre rest:List Bool) (acc:List Ev),0<l.length→l.length≤k→(∀ j,j<l.length→mw (l.getD j default))→(∀ j,j<l.length→(l.getD j default).2.2=decide (j+1=l.length))→nP (pre++(cR l++rest)) k (pre.length,false) acc=(acc++l,(pre.length+(cR l).length,false))
 | [],k,pre,rest,acc,h0,_,_,_=>absurd h0 (Nat.lt_irrefl 0)
 | e::l,0,pre,rest,acc,_,hk,_,_=>absurd hk (Nat.not_succ_le_zero _)
 | e :: l,k+1,pre,rest,acc,_,hk,hok,hla=>by
   have he:mw e:=hok 0 (Nat.succ_pos _)
   have hl0:e.2.2=decide (0+1=l.length+1):=hla 0 (Nat.succ_pos _)
   have hr:=he.run
   have hs:=k_ he.lev he.nz
   have hrng:0≤2*e.1+(if e.2.2 then 1 else 0)∧2*e.1+(if e.2.2 then 1 else 0)≤8190:=by split <;> omega
   have eB:cR (e::l)=bN (2*e.1+(if e.2.2 then 1 else 0))++(bN (aY e.2.1-1)++cR l):=by
    show GD e++cR l=_
    unfold GD;rw [List.append_assoc]
   have hev:=JK e
   obtain⟨n,hn⟩:∃ n,2*e.1+(if e.2.2 then 1 else 0)=n:=⟨_,rfl⟩
   obtain⟨m,hm⟩:∃ m,aY e.2.1-1=m:=⟨_,rfl⟩
   rw [hn,hm]at hev eB
   rw [hn]at hrng
   have t1:=oX n hrng pre (bN m++(cR l++rest))
   have t2:=oX m (by omega) (pre++bN n) (cR l++rest)
   rw [List.append_assoc,List.length_append]at t2
   have hB:pre++(cR (e::l)++rest)=pre++(bN n++(bN m++(cR l++rest))):=by rw [eB];simp only [List.append_assoc]
   have hL:(cR (e::l)).length=(bN n).length+((bN m).length+(cR l).length):=by rw [eB,List.length_append,List.length_append]
   rw [hB,nP,t1]
   dsimp only
   rw [t2]
   dsimp only
   rw [hev,if_neg (by rw [A_ he];simp)]
   by_cases hz:l.length=0
   · have hz2:=List.length_eq_zero_iff.1 hz
     subst hz2
     rw [if_pos (by rw [hl0];rfl),hL]
     simp only [Prod.mk.injEq,and_true,true_and]
     show _=_+(_+(_+0))
     omega
   · rw [if_neg (by rw [hl0];simp;exact fun h=>hz (by rw [h];rfl))]
     have ih:=yK l k (pre++(bN n++bN m)) rest (acc++[e]) (by omega) (Nat.le_of_succ_le_succ hk) (fun j hj=>hok (j+1) (Nat.succ_lt_succ hj)) (fun j hj=>by
      have h1:(l.getD j default).2.2=decide (j+1+1=l.length+1):=hla (j+1) (Nat.succ_lt_succ hj)
      rw [h1]
      exact decide_eq_decide.2 ⟨fun h=>by omega,fun h=>by omega⟩)
     simp only [List.append_assoc,List.length_append]at ih
     rw [Nat.add_assoc,ih,hL]
     simp only [List.cons_append,List.nil_append,Prod.mk.injEq,and_true,true_and]
     omega
theorem AV {l:List Ev}(h:gG l) (pre rest:List Bool):jX (pre++(cR l++rest)) (pre.length,false)=(l,(pre.length+(cR l).length,false)):=yK l 64 pre rest [] h.len.1 h.len.2 h.ok h.last
def nQ (B:List Bool):Nat→List (List Ev) × (Nat × Bool)→List (List Ev) × (Nat × Bool)
 | 0,x=>x
 | k+1,x=>if(jX B x.2).2.2=true then(x.1++[(jX B x.2).1],(jX B x.2).2)else nQ B k (x.1++[(jX B x.2).1],(jX B x.2).2)
theorem Cy:∀(E:List (List Ev)) (pre rest:List Bool) (acc:List (List Ev)),(∀ e∈E,gG e)→nQ (pre++(E.flatMap cR++rest)) E.length (acc,(pre.length,false))=(acc++E,(pre.length+(E.flatMap cR).length,false))
 | [],pre,rest,acc,_=>by simp [nQ]
 | e::E,pre,rest,acc,h=>by
   have he:=h e (List.mem_cons_self ..)
   have h1:=AV he pre (E.flatMap cR++rest)
   have hB:pre++((e::E).flatMap cR++rest)=pre++(cR e++(E.flatMap cR++rest)):=by rw [List.flatMap_cons,List.append_assoc]
   rw [hB]
   show nQ _ (E.length+1) _=_
   rw [nQ]
   dsimp only
   rw [h1]
   dsimp only
   rw [if_neg Bool.false_ne_true]
   have ih:=Cy E (pre++cR e) rest (acc++[e]) fun x hx=>h x (List.mem_cons_of_mem _ hx)
   simp only [List.append_assoc,List.length_append]at ih
   rw [ih,List.flatMap_cons,List.length_append]
   simp only [List.cons_append,List.nil_append,Nat.add_assoc]
def xk (ev:Nat→List Ev):Nat→List (List Ev)
 | 0=>[]
 | k+1=>xk ev k++if 0<(ev k).length then [ev k]else []
noncomputable def A9 (l:List Mb) (first:Int) (x0:PS):Nat→List (List Ev)
 | 0=>[]
 | i+1=>A9 l first x0 i++xk (AG l first x0 i) 6
theorem xl {ev:Nat→List Ev} {has:Nat→Bool}:∀ k,(∀ j,j<k→has j=decide (0<(ev j).length))→(xk ev k).length=jh has k
 | 0,_=>rfl
 | k+1,h=>by
   rw [xk,jh,List.length_append,xl k fun j hj=>h j (by omega),h k (by omega)]
   by_cases h0:0<(ev k).length
   · rw [if_pos h0,if_pos (decide_eq_true h0)];rfl
   · rw [if_neg h0,if_neg (by rw [decide_eq_false h0];exact Bool.false_ne_true)];rfl
theorem GB {ev:Nat→List Ev} {has:Nat→Bool}:∀ k,(∀ j,j<k→has j=decide (0<(ev j).length))→∀ j,j<k→has j=true→(xk ev k)[jh has j]? = some (ev j)
 | 0,_,j,hj,_=>absurd hj (Nat.not_lt_zero _)
 | k + 1,h,j,hj,hh=>by
   have hl:=xl k fun j hj=>h j (by omega)
   rw [xk]
   by_cases hjk:j<k
   · have ih:=GB k (fun j hj=>h j (by omega)) j hjk hh
     rw [List.getElem?_append_left (List.getElem?_eq_some_iff.1 ih).1]
     exact ih
   · obtain rfl:j=k:=by omega
     rw [List.getElem?_append_right (by omega),hl,Nat.sub_self]
     rw [h j (by omega)]at hh
     rw [if_pos (of_decide_eq_true hh)];rfl
theorem LF {x:pe} {bw:List Bool}:∀ k,bB bw x k=bw++(xk x.ev k).flatMap cR
 | 0=>(List.append_nil _).symm
 | k+1=>by
   rw [bB,LF k,xk,List.flatMap_append,List.append_assoc]
   by_cases h0:0<(x.ev k).length
   · rw [if_pos h0];simp
   · rw [if_neg h0,List.length_eq_zero_iff.1 (show(x.ev k).length=0 by omega)];rfl
theorem GC {ev:Nat→List Ev}(h:∀ j,ev j = []∨gG (ev j)):∀ k,∀ e∈xk ev k,gG e
 | 0,e,he=>by cases he
 | k + 1,e,he=>by
   rw [xk]at he
   rcases List.mem_append.1 he with he|he
   · exact GC h k e he
   · split at he
     · rename_i h0
       rw [List.mem_singleton.1 he]
       rcases h k with h1|h1
       · rw [h1]at h0;exact absurd h0 (Nat.lt_irrefl 0)
       · exact h1
     · cases he
theorem CD:∀ k,xk (fun _=>[]) k = []
 | 0=>rfl
 | k+1=>by rw [xk,CD k];rfl
theorem vM {f g:Nat→List Ev}(h:∀ j,f j=g j) (k:Nat):xk f k=xk g k:=by rw [show f=g from funext h]
theorem Bz {h:Hd} {p:Ph} {l:List Mb} {first:Int}(hT:eh h p l first):∀ n,n≤l.length→∀ x,eg l first (iC h p) n = .inr x→x.w=(A9 l first (iC h p) n).flatMap cR∧∀ e∈A9 l first (iC h p) n,gG e:=by
 intro n
 induction n with
 | zero=>intro _ x hx;cases hx;exact⟨rfl,fun e he=>by cases he⟩
 | succ n ih=>
   intro hn y hy
   obtain⟨x,hx,hs⟩:=jk hy
   obtain⟨i1,i2⟩:=ih (by omega) x hx
   have hi:=kz hT n (by omega) x hx
   have hm:=mW hT (k:=n) (by omega)
   obtain⟨hc,z,hz,rfl⟩:=lY hs
   have hf:=iz hm hc
   have hpe:∀ j,AG l first (iC h p) n j=tH x.S x.B (l.getD n default) (first+(n:Nat)) j:=fun j=>by unfold AG;rw [hx]
   have hz':fH x.S x.B x.w (l.getD n default) (first+(n:Nat))=some (z.1,z.2.1,z.2.2):=hz
   unfold fH at hz'
   by_cases h0:(l.getD n default).kind=0
   · rw [if_pos h0]at hz'
     have e1:x.w=z.2.2:=congrArg (fun q=>q.2.2) (Option.some.inj hz')
     have e2:xk (AG l first (iC h p) n) 6 = []:=by
      rw [vM (g:=fun _=>[]) (fun j=>by rw [hpe j];unfold tH;rw [if_pos h0])]
      exact CD 6
     rw [A9,e2,List.append_nil]
     exact⟨e1.symm.trans i1,i2⟩
   · rw [if_neg h0]at hz'
     obtain⟨x6,hx6,he6⟩:=Option.map_eq_some_iff.1 hz'
     have e1:bB x.w x6 6=z.2.2:=congrArg (fun q=>q.2.2) he6
     have hpe2:∀ j,AG l first (iC h p) n j=x6.ev j:=fun j=>by rw [hpe j];unfold tH;rw [if_neg h0,hx6]
     have hg:=qA hm hf
     have hh:=tP hi.st hm (X:=x.B) (mb:=first+(n:Nat))
     have hbi:yv (l.getD n default) (first+(n:Nat)) ⟨(cp x.S x.B (l.getD n default) (first+(n:Nat))).1,(cp x.S x.B (l.getD n default) (first+(n:Nat))).2,0,0,fun _=>[]⟩ (0,⟨(cp x.S x.B (l.getD n default) (first+(n:Nat))).1,(cp x.S x.B (l.getD n default) (first+(n:Nat))).2,0,0,fun _=>[]⟩):=⟨Nat.zero_le _,rfl,hh.st,⟨rfl,rfl⟩,Nat.le_refl _,fun _ _=>rfl,fun _ => .inl rfl,by show(0:Int)≤0∧(0:Int)<16;decide,by show(0:Int)≤0∧(0:Int)<4;decide⟩
     have hb:=yL hg hbi 6 (Nat.le_refl _) x6 hx6
     have e2:xk (AG l first (iC h p) n) 6=xk x6.ev 6:=vM hpe2 6
     rw [A9,e2,List.flatMap_append,←i1,←LF,e1]
     refine⟨rfl,fun e he=>?_⟩
     rcases List.mem_append.1 he with he|he
     · exact i2 e he
     · exact GC hb.evs 6 e he
theorem CE {l:List Mb} {first:Int} {x0:PS} {outs:List Ol}(hO:DH l first x0 outs):∀ n,n≤l.length→(A9 l first x0 n).length=manyN outs n:=by
 intro n
 induction n with
 | zero=>intro _;rfl
 | succ n ih=>
   intro hn
   rw [A9,manyN,List.length_append,ih (by omega),xl 6 (hO.at_ n (by omega)).2]
theorem Mq {l:List Mb} {first:Int} {x0:PS} {outs:List Ol}(hO:DH l first x0 outs) {i:Nat}:∀ n,n≤l.length→i<n→Ch (A9 l first x0 n) (manyN outs i) (outs.getD i default).2 (AG l first x0 i) 6:=by
 intro n
 induction n with
 | zero=>intro _ hi;exact absurd hi (Nat.not_lt_zero _)
 | succ n ih=>
   intro hn hi j hj hh
   have hlen:=CE hO n (by omega)
   rw [A9]
   by_cases hin:i<n
   · obtain⟨a,b⟩:=ih (by omega) hin j hj hh
     refine⟨by rw [List.length_append];omega,?_⟩
     rw [List.getD_eq_getElem?_getD,List.getElem?_append_left a,←List.getD_eq_getElem?_getD]
     exact b
   · obtain rfl:i=n:=by omega
     have h1:=GB 6 (hO.at_ i (by omega)).2 j hj hh
     have h2:=(List.getElem?_eq_some_iff.1 h1).1
     refine⟨by rw [List.length_append];omega,?_⟩
     rw [List.getD_eq_getElem?_getD,List.getElem?_append_right (by omega),show manyN outs i+jh (outs.getD i default).2 j-(A9 l first x0 i).length=jh (outs.getD i default).2 j by omega,h1]
     rfl
theorem D9 {h:Hd} {p:Ph} {l:List Mb} {first:Int}(hT:eh h p l first) {outs:List Ol}(hO:DH l first (iC h p) outs) {X:PS}(hX:eg l first (iC h p) l.length = .inr X) :
 ∃ E out,nQ X.w (pr outs) ([],(0,false))=(E,(X.w.length,false))∧E.length=pr outs∧(∀ e∈E,gG e)∧gI E first outs (gR h p) = .inr out∧out.length=l.length∧∀ i,i<l.length→my (l.getD i default) (out.getD i default):=by
 obtain⟨w1,w2⟩:=Bz hT l.length (Nat.le_refl _) X hX
 have hlen:=CE hO l.length (Nat.le_refl _)
 have hmf:pr outs=manyN outs l.length:=by unfold pr;rw [hO.len]
 obtain⟨y,R,out,h1,h2,_,h3,h4⟩:=GI (evs:=A9 l first (iC h p) l.length) hT hO hX l.length (Nat.le_refl _) fun i hi=>Mq hO l.length (Nat.le_refl _) hi
 refine⟨A9 l first (iC h p) l.length,out,?_,by rw [hlen,hmf],w2,?_,h3,h4⟩
 · have hb:=Cy (A9 l first (iC h p) l.length) [] [] [] w2
   simp only [List.nil_append,List.append_nil,List.length_nil,Nat.zero_add]at hb
   rw [hmf,←hlen,w1]
   exact hb
 · unfold gI
   rw [hO.len,h2]
   exact if_neg (by dsimp only;omega)
end Go.Proofs.YtagpkhindehcbaaGreat
