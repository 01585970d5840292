/-
  A part of the proof: PutAll, AllLaw, EdgeLaw, Fit0, Fits, MacLaw.
-/
import Derived.Test.YthdciapjllppjaaGreatWaN
import Derived.Test.YthdciapjllppjaaGreatWaP
import Derived.Test.YthdciapjllppjaaGreatWaQ
import Derived.Test.YthdciapjllppjaaGreatWaX
import Derived.Test.YthdciapjllppjaaGreatWaY
set_option maxRecDepth 10000
set_option maxHeartbeats 8000000
set_option linter.unusedVariables false
set_option linter.unusedSectionVars false
set_option linter.unusedSimpArgs false
open Go.Proofs.Tryz (prog)
namespace Go.Proofs.YthdciapjllppjaaGreat
open Go.Xm
variable [ak]
instance RK (p:Ph) (e:TypeId) (a b:Bool):cu (.cells (sn p) e a b):=iz rfl
instance S4:Inhabited Mb:=⟨zV⟩
theorem rf:aL prog 107 (mC zV):=by
 have h:([.int .u8 0,.int .i64 0,.cplx .f64 0 0,.cplx .f64 0 0,.cplx .f64 0 0,.cplx .f64 0 0,.bool false]++(ti .i64 384 fun _=>0):List XC)=mC zV:=by
  unfold mC zV;simp only[<-iH];rfl
 rw[<-h]
 infer_instance
theorem zj{m:Mb}(hm:jR m){inter:Bool}{was:Int}(hw : -1000000<=was/\was<=1000000){c:Int}(hc:dD m inter was=c){HS:ah}(hb:Nat.blt HS.length Mem.bound=true):az.Sound prog ⟨62,[.agg (mC m),.one (.bool inter),.one (.int .i64 was)],HS,.one (.int .i64 c),HS,[]⟩:=by
 subst hc;exact Hh hm hw hb
structure mn(h:Hd)(p:Ph)(l:List Mb)(first:Int):Prop where
 hd:lB h
 ph:pA p
 mok:∀m∈l,jR m
 pos:0<=first
 many:1<=l.length
 few:l.length<=16
 all:first+(l.length:Nat)<=h.cols*h.rows
abbrev GI(h:Hd)(p:Ph):PS:=⟨O8 h p,[],[]⟩
theorem Nj{h:Hd}{p:Ph}(ho:lB h)(hp:pA p):Ez p.inter h.cols h.rows 0 (GI h p):=
 ⟨⟨ho.dims,⟨ur,ur,ur⟩,Gf⟩,rfl,rfl,rfl,by have:=hp.qp;show -1000000<=p.qp/\p.qp<=1000000;omega,Nat.zero_le _,Nat.zero_le _⟩
theorem ry{l:List Int}(hl:bc l)(hn:l.length<=100000){q:List Int}(hq:(fv l l.length).1=q){n:Nat}(hln:l.length=n){HS:ah}{i:Nat}(hi:HS[i]? = some (bR 5 (il .u8 l))){N:Nat}(hN:HS.length=N){HS':ah}(hh:HS++[bR 5 (il .u8 q)]=HS')(hb:Nat.blt HS'.length Mem.bound=true) :
 az.Sound prog ⟨51,[iq i n 1],HS,iq N q.length 1,HS',[i]⟩:=by
 subst hq;exact EU hl hn hln hi hN hh hb
theorem w8{l:List Mb}{first:Int}{x0:PS}{k:Nat}{x:PS}(h:mP l first x0 k = .inr x):mP l first x0 (k+1)=m9 first k (l.getD k default) x:=by
 rw[mP,h];rfl
theorem Fx{first:Int}{k:Nat}{m:Mb}{x:PS}{c:Int}(hc:dD m x.S.inter x.S.qp=c)(h0:c≠0):m9 first k m x = .inl c:=by
 subst hc;exact if_pos h0
theorem Fz{first:Int}{k:Nat}{m:Mb}{x:PS}(hc:dD m x.S.inter x.S.qp=0)(h:m_ x.S x.B x.w m (first+(k:Nat))=none):m9 first k m x = .inl 2:=by
 unfold m9;rw[if_neg (fun g=>g hc),h]
theorem uT{first:Int}{k:Nat}{m:Mb}{x:PS}(hc:dD m x.S.inter x.S.qp=0){z:cD×List Bool×List Bool}(h:m_ x.S x.B x.w m (first+(k:Nat))=some z):m9 first k m x = .inr ⟨z.1,z.2.1,z.2.2⟩:=by
 unfold m9;rw[if_neg (fun g=>g hc),h]
theorem Fy{first:Int}{k:Nat}{m:Mb}{x y:PS}(h:m9 first k m x = .inr y):dD m x.S.inter x.S.qp=0/\∃z,m_ x.S x.B x.w m (first+(k:Nat))=some z/\y=⟨z.1,z.2.1,z.2.2⟩:=by
 unfold m9 at h;split at h
 ·cases h
 ·rename_i hc;refine⟨Decidable.byContradiction fun g=>hc g,?_⟩;split at h
  ·cases h
  ·rename_i z hz;exact⟨z,hz,(Sum.inr.inj h).symm⟩
theorem uS{l:List Mb}{first:Int}{x0:PS}{k:Nat}{y:PS}(h:mP l first x0 (k+1) = .inr y):∃x,mP l first x0 k = .inr x/\m9 first k (l.getD k default) x = .inr y:=by
 rw[mP]at h;split at h
 ·cases h
 ·rename_i x hx;exact⟨x,hx,h⟩
theorem Is{h:Hd}{p:Ph}{l:List Mb}{first:Int}(hT:mn h p l first){k:Nat}(hk:k<l.length):jR (l.getD k default):=by
 rw[List.getD_eq_getElem?_getD,List.getElem?_eq_getElem hk,Option.getD_some];exact hT.mok _ (List.getElem_mem hk)
theorem uR{h:Hd}{p:Ph}{l:List Mb}{first:Int}(hT:mn h p l first):∀k,k<=l.length->∀x,mP l first (GI h p) k = .inr x->Ez p.inter h.cols h.rows k x:=by
 intro k
 induction k with
 | zero=>intro _ x hx;cases hx;exact Nj hT.hd hT.ph
 | succ k ih=>
   intro hk x hx;obtain⟨y,hy,hs⟩:=uS hx;exact w6 (ih (by omega) y hy) (Is hT (by omega)) hs
noncomputable def S_(l:List Mb)(first:Int)(x0:PS)(i j:Nat):List Ev:=
 match mP l first x0 i with
 | .inr x=>Sg x.S x.B (l.getD i default) (first+(i:Nat)) j
 | .inl _=>[]
structure GJ(l:List Mb)(ft:Int)(x0:PS)(k:Nat)(x:PS)(t:TA):Prop where
 rel:Rel x.S t.S
 r:t.r=(x.B.length,false)
 len:t.out.length=k
 outs:∀i,i<k->∃o,t.out[i]? = some o/\MV (l.getD i default) o.1/\∀j,j<6->o.2 j=decide (0<(S_ l ft x0 i j).length)
structure nv(inter:Bool)(qp:Int)(l:List Mb):Prop where
 mok:∀k,k<l.length->jR (l.getD k default)
 chk:∀k,k<l.length->dD (l.getD k default) inter (if k=0 then qp else(l.getD (k-1) default).qp)=0
theorem qe:∀(l:List Int) (z:Int),0<=z->2*((lG z l).length:Int)<=3*(l.length:Int)+z
 | [],z,hz=>by show 2*((0:Nat):Int)<=3*((0:Nat):Int)+z;omega
 | b :: t,z,hz=>by
   rw[lG]
   by_cases hb:b=0
   ·rw[if_pos hb,if_pos hb];have h1:=qe t (0+1) (by omega);have h2:=qe t (z+1) (by omega);split
    ·simp only[List.length_cons];omega
    ·simp only[List.length_cons];omega
   ·rw[if_neg hb,if_neg hb];have h1:=qe t 0 (by omega);split
    ·simp only[List.length_cons];omega
    ·simp only[List.length_cons];omega
theorem nJ(l:List Int):(fv l l.length).1.length<=2*l.length/\2*(fv l l.length).1.length<=3*l.length:=by
 have:=qe l 0 (Int.le_refl _);have h2:=tT l l.length;rw[nG]at h2 ⊢;omega
theorem LS{h:Hd}{p:Ph}{l:List Mb}{first:Int}(hT:mn h p l first):∀k,k<=l.length->∀x,mP l first (GI h p) k = .inr x->x.S.qp=if k=0 then p.qp else(l.getD (k-1) default).qp:=by
 intro k
 cases k with
 | zero=>intro _ x hx;cases hx;rfl
 | succ k=>
   intro hk y hy;obtain⟨x,hx,hs⟩:=uS hy;have hi:=uR hT k (by omega) x hx;have hm:=Is hT (k:=k) (by omega);obtain⟨hc,z,hz,rfl⟩:=Fy hs;have hk2:=xa hi.st hm (rp hm hc) hz;rw[if_neg (by omega),Nat.add_sub_cancel];exact hk2.qp
def lS(h:Hd):Hd:=if h.w=true then {h with a:=fun i=>max (h.a i) 8,b:=fun i=>max (h.b i) 8}else {h with w:=false,a:=fun _=>0,b:=fun _=>0}
abbrev Bm(h:Hd)(j:Nat):Hd:={h with a:=uE (fun i=>max (h.a i) 8) h.a j,b:=uE (fun i=>max (h.b i) 8) h.b j}
theorem Gc{h g:Hd}(hw:h.w=g.w)(ha:∀i,i<64->h.a i=g.a i)(hb:∀i,i<64->h.b i=g.b i):dU h=dU g:=by
 unfold dU;rw[hw,kG ha,kG hb]
theorem D7(k:IntKind)(f:Nat->Int){n i:Nat}(hi:i<n)(z:Int):(ti k n f).set i (.int k z)=ti k n (fV f i z):=rX k n f i z
theorem JE(h:Hd){i:Nat}(hi:i<64)(z:Int):(dU h).set (1+i) (.int .u8 z)=dU {h with a:=fV h.a i z}:=by
 unfold dU;rw[Nat.add_comm,List.set_cons_succ,List.set_append_left _ _ (by rw[aT];exact hi),D7 .u8 h.a hi z]
theorem JF(h:Hd){i:Nat}(hi:i<64)(z:Int):(dU h).set (65+i) (.int .u8 z)=dU {h with b:=fV h.b i z}:=by
 unfold dU;rw[show 65+i=(64+i)+1 by omega,List.set_cons_succ,List.set_append_right _ _ (by rw[aT];omega),aT,show 64+i-64=i by omega,D7 .u8 h.b hi z]
theorem C1:aL prog 24 (dU ⟨0,0,false,fun _=>0,fun _=>0⟩):=by
 show aL prog 24 (.bool false::((ti .u8 64 fun _=>0)++(ti .u8 64 fun _=>0)))
 infer_instance
theorem HE(h:Hd)(hr:∀i,i<64->(0<=h.a i/\h.a i<=255)/\(0<=h.b i/\h.b i<=255)):bq prog 52 [.agg (dU h)] [] (.agg (dU (lS h))) []:=by
 obtain⟨w,hw⟩:∃w,h.w=w:=⟨_,rfl⟩
 have h0:(dU h)[0]? = some (.bool w):=by rw[<-hw];rfl
 cases w
 ·have e:dU (lS h)=dU ⟨0,0,false,fun _=>0,fun _=>0⟩:=by unfold lS;rw[if_neg (by rw[hw];decide)];rfl
  rw[e];refine cO Tryz.func52 ?_
  repeat' (first
   |(refine qz ?_;first
    |refine jG (zs:=dU ⟨0,0,false,fun _=>0,fun _=>0⟩) (hz:=C1) ?_
    |refine b0 (zs:=dU ⟨0,0,false,fun _=>0,fun _=>0⟩) (hz:=C1) ?_
    |refine nr (cs:=dU ⟨0,0,false,fun _=>0,fun _=>0⟩) ?_ (hs1:=by rw[iF]) (hs2:=by rw[iF])
    |refine ld (hc:=h0) ?_)
   |refine zz ?_|refine zx (fun _=>?_) (fun _=>?_)|fail)
  show aE _ _ _ _ _ _ _ _;refine kV [] ?_;rfl
 ·have e:dU (lS h)=dU (Bm h 64):=by
   unfold lS;rw[if_pos hw];exact Gc rfl (fun i hi=>by simp[uE,hi]) (fun i hi=>by simp[uE,hi])
  rw[e];refine cO Tryz.func52 ?_
  repeat' (first
   |(refine qz ?_;first
    |refine jG (zs:=dU ⟨0,0,false,fun _=>0,fun _=>0⟩) (hz:=C1) ?_
    |refine ld (hc:=h0) ?_)
   |refine zz ?_|refine zx (fun _=>?_) (fun _=>?_)|fail)
  refine WX.cj (σ:=Nat) (fun j=>[(8,.one (.int .i64 (j:Nat))),(1,.one (.ptr 0 0)),(2,.one (.ptr 1 0))]) (fun j=>[.cells (dU (Bm h j)) 24 false false,.cells (dU ⟨0,0,false,fun _=>0,fun _=>0⟩) 24 false false]) (fun j=>j<=64) (fun j=>64-j) 0 (by omega) (fun s _=>nf) (bV [0,1] (obj:=by(repeat' (first|exact af.nil|refine af.flat (by rw[show Bm h 0=h by unfold Bm;rw[qy,qy]];rfl) ?_|refine oz ?_));first|done|fail)) ?_;intro j hj ih
  by_cases hj64:j<64
  ·have ga:=JC (Bm h j) hj64;have gb:=JD (Bm h j) hj64;have ea:(Bm h j).a j=h.a j:=by simp[uE]
   have eb:(Bm h j).b j=h.b j:=by simp[uE]
   rw[ea]at ga;rw[eb]at gb;have hrj:=hr j hj64
   have e1:({Bm h j with a:=fV (Bm h j).a j (max (h.a j) 8),b:=fV (Bm h j).b j (max (h.b j) 8)}:Hd)=Bm h (j+1):=by
    show({h with a:=fV (uE (fun i=>max (h.a i) 8) h.a j) j (max (h.a j) 8),b:=fV (uE (fun i=>max (h.b i) 8) h.b j) j (max (h.b j) 8)}:Hd)=_;rw[qx (fun i=>max (h.a i) 8),qx (fun i=>max (h.b i) 8)]
   repeat' (first
    |(refine qz ?_;first
     |refine ld (hc:=ga) ?_
     |refine ld (hc:=gb) ?_
     |refine st ?_ (hle:=by rw[iF];omega) (hv:=JE (Bm h j) hj64 (max (h.a j) 8))
     |refine st ?_ (hle:=by rw[iF];omega) (hv:=JF {Bm h j with a:=fV (Bm h j).a j (max (h.a j) 8)} hj64 (max (h.b j) 8)))
    |refine zz ?_|refine zx (fun _=>?_) (fun _=>?_)|fail)
   refine ih (j+1) _ _ _ (bV [0,1] (obj:=by(repeat' (first|exact af.nil|refine af.flat (by rw[<-e1];rfl) ?_|refine oz ?_));first|done|fail)) (by omega) (by omega)
  ·obtain rfl:j=64:=by omega
   repeat' (first
    |(refine qz ?_;first
     |refine jV ?_ (hle:=by rw[iF])
     |refine nr (cs:=dU (Bm h 64)) ?_ (hs1:=by rw[iF]) (hs2:=by rw[iF]))
    |refine zz ?_|refine zx (fun _=>?_) (fun _=>?_)|fail)
   show aE _ _ _ _ _ _ _ _;refine kV [] ?_;rfl
theorem Lc{h g:Hd}(hr:∀i,i<64->(0<=h.a i/\h.a i<=255)/\(0<=h.b i/\h.b i<=255))(hg:lS h=g){HS:ah}(hb:Nat.blt HS.length Mem.bound=true):az.Sound prog ⟨52,[.agg (dU h)],HS,.agg (dU g),HS,[]⟩:=by
 subst hg;exact ay (HE h hr) (by simp only[List.all_cons,List.all_nil,Bool.and_true];exact oM h) (oM _) hb
def e9(h:Hd):Hd:={lS h with cols:=1+h.cols%2^3,rows:=1+h.rows%2^3}
structure o7(h:Hd):Prop where
 cols : -9223372036854775808<=h.cols/\h.cols<=9223372036854775807
 rows : -9223372036854775808<=h.rows/\h.rows<=9223372036854775807
 tab:∀i,i<64->(0<=h.a i/\h.a i<=255)/\(0<=h.b i/\h.b i<=255)
theorem gY:aL prog 26 (b7 ⟨0,0,false,fun _=>0,fun _=>0⟩):=by
 show aL prog 26 (.int .i64 0 :: .int .i64 0 :: .bool false::((ti .u8 64 fun _=>0)++(ti .u8 64 fun _=>0)))
 infer_instance
theorem EY(h:Hd)(hr:o7 h):bq prog 28 [.agg (b7 h)] [] (.agg (b7 (e9 h))) []:=by
 have r1:=hr.cols;have r2:=hr.rows;refine cO Tryz.func28 ?_
 repeat' (first
  |(refine qz ?_;first
   |refine jG (zs:=b7 ⟨0,0,false,fun _=>0,fun _=>0⟩) (hz:=gY) ?_
   |refine rG (cs:=dU h) ?_ (hle:=by rw[aD];decide) (hc:=Dz h)
   |refine an 3 ?_
   |refine cl ?_ (hi:=by exact Lc hr.tab rfl rfl))
  |refine zz ?_|refine zx (fun _=>?_) (fun _=>?_)|fail)
 show aE _ _ _ _ _ _ _ _;refine kV [] ?_;rfl
theorem HD{h g:Hd}(hr:o7 h)(hg:e9 h=g){HS:ah}(hb:Nat.blt HS.length Mem.bound=true):az.Sound prog ⟨28,[.agg (b7 h)],HS,.agg (b7 g),HS,[]⟩:=by
 subst hg;exact ay (EY h hr) (by simp only[List.all_cons,List.all_nil,Bool.and_true];exact cN h) (cN _) hb
structure SO(p:Ph):Prop where
 id : -9223372036854775808<=p.id/\p.id<=9223372036854775807
 qp : -9223372036854775808<=p.qp/\p.qp<=9223372036854775807
def four(h:Hd):Hd:={e9 h with cols:=1+(e9 h).cols%2^2,rows:=1+(e9 h).rows%2^2}
theorem Ld(h:Hd):lB (four h)/\1<=(four h).cols/\(four h).cols<=4/\1<=(four h).rows/\(four h).rows<=4:=by
 have c:1<=(four h).cols/\(four h).cols<=4:=by show 1<=1+(e9 h).cols%2^2/\1+(e9 h).cols%2^2<=4;omega
 have r:1<=(four h).rows/\(four h).rows<=4:=by show 1<=1+(e9 h).rows%2^2/\1+(e9 h).rows%2^2<=4;omega
 refine⟨⟨⟨by omega,by omega,by omega,by omega⟩,?_,?_⟩,c.1,c.2,r.1,r.2⟩
 ·intro hw i hi;have hw':(lS h).w=true:=hw;show 8<=(lS h).a i/\8<=(lS h).b i;unfold lS at hw' ⊢;split at hw'
  ·rename_i g;rw[if_pos g];exact⟨Int.le_max_right _ _,Int.le_max_right _ _⟩
  ·cases hw'
 ·intro hw i hi;have hw':(lS h).w=false:=hw;show(lS h).a i=0/\(lS h).b i=0;unfold lS at hw' ⊢;split at hw'
  ·rename_i g;have:h.w=false:=hw';rw[g]at this;cases this
  ·rename_i g;rw[if_neg g];exact⟨rfl,rfl⟩
structure Wy where
 x:Nat->Int
 y:Nat->Int
 same:Bool
def Ry(w:Wy):List XC:=[.int .i8 (w.x 0),.int .i8 (w.x 1),.int .i8 (w.x 2),.int .i8 (w.x 3),.int .i8 (w.y 0),.int .i8 (w.y 1),.int .i8 (w.y 2),.int .i8 (w.y 3),.bool w.same]
def sP(w:Wy)(k:Nat):Int×Int:=if w.same=true then((w.x 0).tmod 32,(w.y 0).tmod 32)else((w.x k).tmod 32,(w.y k).tmod 32)
structure C7(w:Wy):Prop where
 x:∀k,k<4 -> -128<=w.x k/\w.x k<128
 y:∀k,k<4 -> -128<=w.y k/\w.y k<128
theorem zeroV:aL prog 103 (vt fun _=>(0,0)):=by
 show aL prog 103 [cS (0,0),cS (0,0),cS (0,0),cS (0,0)];rw[iH]
 infer_instance
theorem f8{x y:Int}(hx : -128<=x/\x<128)(hy : -128<=y/\y<128){q:Int×Int}(hq:(x.tmod 32,y.tmod 32)=q){HS:ah}(hb:Nat.blt HS.length Mem.bound=true):az.Sound prog ⟨81,[.one (.int .i8 x),.one (.int .i8 y)],HS,.one (cS q),HS,[]⟩:=by
 subst hq;exact Cx hx hy hb
theorem J6(w:Wy)(hr:C7 w):bq prog 54 [.agg (Ry w)] [] (.agg (vt (sP w))) []:=by
 have x0:=hr.x 0 (by decide);have x1:=hr.x 1 (by decide);have x2:=hr.x 2 (by decide);have x3:=hr.x 3 (by decide);have y0:=hr.y 0 (by decide);have y1:=hr.y 1 (by decide);have y2:=hr.y 2 (by decide);have y3:=hr.y 3 (by decide)
 obtain⟨p0,h0⟩:∃p,((w.x 0).tmod 32,(w.y 0).tmod 32)=p:=⟨_,rfl⟩
 obtain⟨p1,h1⟩:∃p,((w.x 1).tmod 32,(w.y 1).tmod 32)=p:=⟨_,rfl⟩
 obtain⟨p2,h2⟩:∃p,((w.x 2).tmod 32,(w.y 2).tmod 32)=p:=⟨_,rfl⟩
 obtain⟨p3,h3⟩:∃p,((w.x 3).tmod 32,(w.y 3).tmod 32)=p:=⟨_,rfl⟩
 obtain⟨b,hb⟩:∃b,w.same=b:=⟨_,rfl⟩
 have hl:(Ry w)[8]? = some (.bool b):=by rw[<-hb];rfl
 cases b
 ·have e:vt (sP w) = [cS p0,cS p1,cS p2,cS p3]:=by
   have g:∀k,sP w k=((w.x k).tmod 32,(w.y k).tmod 32):=fun k=>if_neg (by rw[hb];decide)
   show [cS (sP w 0),cS (sP w 1),cS (sP w 2),cS (sP w 3)]=_;rw[g,g,g,g,h0,h1,h2,h3]
  rw[e];refine cO Tryz.func54 ?_
  repeat' (first
   |(refine qz ?_;first
    |refine jG (zs:=vt fun _=>(0,0)) (hz:=zeroV) ?_
    |refine ld (hc:=hl) ?_
    |refine cl ?_ (hi:=by exact f8 x0 y0 h0 rfl)
    |refine cl ?_ (hi:=by exact f8 x1 y1 h1 rfl)
    |refine cl ?_ (hi:=by exact f8 x2 y2 h2 rfl)
    |refine cl ?_ (hi:=by exact f8 x3 y3 h3 rfl))
   |refine WX.loop ?_|refine WX.round ?_|refine zz ?_|refine zx (fun _=>?_) (fun _=>?_)|fail)
  show aE _ _ _ _ _ _ _ _;refine kV [] ?_;rfl
 ·have e:vt (sP w) = [cS p0,cS p0,cS p0,cS p0]:=by
   have g:∀k,sP w k=((w.x 0).tmod 32,(w.y 0).tmod 32):=fun k=>if_pos hb
   show [cS (sP w 0),cS (sP w 1),cS (sP w 2),cS (sP w 3)]=_;rw[g,g,g,g,h0]
  rw[e];refine cO Tryz.func54 ?_
  repeat' (first
   |(refine qz ?_;first
    |refine jG (zs:=vt fun _=>(0,0)) (hz:=zeroV) ?_
    |refine ld (hc:=hl) ?_
    |refine cl ?_ (hi:=by exact f8 x0 y0 h0 rfl)
    |refine cl ?_ (hi:=by exact f8 x1 y1 h1 rfl)
    |refine cl ?_ (hi:=by exact f8 x2 y2 h2 rfl)
    |refine cl ?_ (hi:=by exact f8 x3 y3 h3 rfl))
   |refine WX.loop ?_|refine WX.round ?_|refine zz ?_|refine zx (fun _=>?_) (fun _=>?_)|fail)
  show aE _ _ _ _ _ _ _ _;refine kV [] ?_;rfl
theorem Ec{w:Wy}(hr:C7 w){q:Nat->Int×Int}(hq:sP w=q){HS:ah}(hb:Nat.blt HS.length Mem.bound=true):az.Sound prog ⟨54,[.agg (Ry w)],HS,.agg (vt q),HS,[]⟩:=by
 subst hq;exact ay (J6 w hr) rfl rfl hb
theorem Pf:∀n:Fin 256,-31<=((n.val:Int)-128).tmod 32/\((n.val:Int)-128).tmod 32<=31:=by decide +kernel
theorem tk{x:Int}(h : -128<=x/\x<128) : -31<=x.tmod 32/\x.tmod 32<=31:=by
 have:=Pf ⟨(x+128).toNat,by omega⟩;have e:(((x+128).toNat:Nat):Int)-128=x:=by omega
 simp only[e]at this;exact this
theorem Gt{w:Wy}(hr:C7 w):∀k,k<4->fg (sP w k)=true:=fun k hk=>by
 have a:=tk (hr.x k hk);have b:=tk (hr.y k hk);have c:=tk (hr.x 0 (by decide));have d:=tk (hr.y 0 (by decide));unfold sP fg;split<;>exact decide_eq_true (by omega)
structure Sm where
 kind:Int
 step:Int
 wy:Wy
 edge:Bool
 ig:Nat->Int
 seed:Int
 great:Bool
def th(s:Sm):List XC:=[.int .u8 s.kind,.int .u8 s.step,.int .i8 (s.wy.x 0),.int .i8 (s.wy.x 1),.int .i8 (s.wy.x 2),.int .i8 (s.wy.x 3),.int .i8 (s.wy.y 0),.int .i8 (s.wy.y 1),.int .i8 (s.wy.y 2),.int .i8 (s.wy.y 3),.bool s.wy.same,.bool s.edge,.int .u64 (s.ig 0),.int .u64 (s.ig 1),.int .u64 (s.ig 2),.int .u64 (s.ig 3),.int .u64 (s.ig 4),.int .u64 (s.ig 5),.int .u32 s.seed,.bool s.great]
instance:oY th 20:=⟨fun _=>rfl,fun _=>rfl,by decide⟩
instance RL (s:Sm) (e:TypeId) (a b:Bool):cu (.cells (th s) e a b):=iz rfl
structure iQ(s:Sm):Prop where
 kind:0<=s.kind/\s.kind<=255
 step:0<=s.step/\s.step<=255
 wy:C7 s.wy
 ig:∀k,k<6->0<=s.ig k/\s.ig k<18446744073709551616
 seed:0<=s.seed/\s.seed<4294967296
def v8(n:Int):Int:=IntKind.u32.wrap (IntKind.u32.wrap (n*1664525)+1013904223)
theorem wrap32(x:Int):0<=IntKind.u32.wrap x/\IntKind.u32.wrap x<4294967296:=by
 unfold IntKind.wrap;simp[IntKind.bits,IntKind.signed];omega
def lV(s:Sm)(inter:Bool):Int:=if inter=true then s.kind%5 else 3+s.kind%2
def d_(s:Sm)(inter:Bool)(qp:Int):Int×Int:=
 if lV s inter=4 then(if 1<=qp+tj (s.step%4)/\qp+tj (s.step%4)<=31 then(4,qp+tj (s.step%4))else(3,qp))else(lV s inter,qp)
def TE(s:Sm)(k i:Nat)(x:Int×(Nat->Int)):Int×(Nat->Int):=
 (v8 x.1,if s.ig k/2^i%2=1 then(if s.great=true then fV (fV x.2 (k*64+i) (v8 x.1/2^16%7-3)) (k*64+i) (v8 x.1/2^16%1001-500)else fV x.2 (k*64+i) (v8 x.1/2^16%7-3))else x.2)
def pe(s:Sm)(k:Nat)(x:Int×(Nat->Int)):Nat->Int×(Nat->Int)
 | 0=>x
 | i+1=>TE s k i (pe s k x i)
def jH(s:Sm)(al:Bool):Nat->Int×(Nat->Int)
 | 0=>(s.seed,fun _=>0)
 | k+1=>((pe s k (jH s al k) 64).1,if al=true then fV (pe s k (jH s al k) 64).2 (k*64) ((pe s k (jH s al k) 64).1/2^20%128)else(pe s k (jH s al k) 64).2)
def o5(K:Int)(w:Wy):Nat->Int×Int:=if K=1 then fun _=>sP w 0 else if K=2 then fun k=>if k<4 then sP w k else(0,0)else fun _=>(0,0)
def vY(K:Int):Bool:=decide (K=3\/K=4)
def nS(s:Sm)(inter:Bool)(qp:Int):Mb:=
 ⟨(d_ s inter qp).1,(d_ s inter qp).2,o5 (d_ s inter qp).1 s.wy,if vY (d_ s inter qp).1=true then s.edge else false,if(d_ s inter qp).1=0 then fun _=>0 else(jH s (vY (d_ s inter qp).1) 6).2⟩
theorem Im(s:Sm)(k:Nat)(x:Int×(Nat->Int))(j:Nat)(hj:j<k*64):∀i,(pe s k x i).2 j=x.2 j:=by
 intro i
 induction i with
 | zero=>rfl
 | succ i ih=>
   show(if s.ig k/2^i%2=1 then(if s.great=true then fV (fV (pe s k x i).2 (k*64+i) _) (k*64+i) _ else fV (pe s k x i).2 (k*64+i) _)else(pe s k x i).2) j=_;split
   ·split
    ·unfold fV;rw[if_neg (by omega),if_neg (by omega)];exact ih
    ·unfold fV;rw[if_neg (by omega)];exact ih
   ·exact ih
theorem qQ{f:Nat->Int}{lo hi:Int}(h:∀j,lo<=f j/\f j<=hi){i:Nat}{z:Int}(hz:lo<=z/\z<=hi):∀j,lo<=fV f i z j/\fV f i z j<=hi:=fun j=>by
 unfold fV
 by_cases g:j=i
 ·rw[if_pos g];exact hz
 ·rw[if_neg g];exact h j
theorem Lw(s:Sm)(k:Nat)(x:Int×(Nat->Int))(h:∀j,-500<=x.2 j/\x.2 j<=500):∀i j,-500<=(pe s k x i).2 j/\(pe s k x i).2 j<=500:=by
 intro i
 induction i with
 | zero=>exact h
 | succ i ih=>
   show ∀j,-500<=(if s.ig k/2^i%2=1 then(if s.great=true then fV (fV (pe s k x i).2 (k*64+i) (v8 (pe s k x i).1/2^16%7-3)) (k*64+i) (v8 (pe s k x i).1/2^16%1001-500)else fV (pe s k x i).2 (k*64+i) (v8 (pe s k x i).1/2^16%7-3))else(pe s k x i).2) j/\(if s.ig k/2^i%2=1 then(if s.great=true then fV (fV (pe s k x i).2 (k*64+i) (v8 (pe s k x i).1/2^16%7-3)) (k*64+i) (v8 (pe s k x i).1/2^16%1001-500)else fV (pe s k x i).2 (k*64+i) (v8 (pe s k x i).1/2^16%7-3))else(pe s k x i).2) j<=500
   obtain⟨z,hz⟩:∃z,v8 (pe s k x i).1/2^16=z:=⟨_,rfl⟩
   rw[hz]
   by_cases g1:s.ig k/2^i%2=1
   ·rw[if_pos g1]
    by_cases g2:s.great=true
    ·rw[if_pos g2];exact qQ (qQ ih (by omega)) (by omega)
    ·rw[if_neg g2];exact qQ ih (by omega)
   ·rw[if_neg g1];exact ih
theorem uB(s:Sm)(al:Bool):∀k,(∀j,-500<=(jH s al k).2 j/\(jH s al k).2 j<=500)/\(al=true->∀j,j<k->0<=(jH s al k).2 (j*64)/\(jH s al k).2 (j*64)<=127):=by
 intro k
 induction k with
 | zero=>exact⟨fun j=>by show -500<=(0:Int)/\(0:Int)<=500;omega,fun _ j hj=>absurd hj (Nat.not_lt_zero _)⟩
 | succ k ih=>
   have hi:=Lw s k (jH s al k) ih.1 64
   obtain⟨y,hy⟩:∃y,pe s k (jH s al k) 64=y:=⟨_,rfl⟩
   have hkp:=fun j hj=>Im s k (jH s al k) j hj 64
   have e:(jH s al (k+1)).2=if al=true then fV y.2 (k*64) (y.1/2^20%128)else y.2:=by
    show(if al=true then fV (pe s k (jH s al k) 64).2 (k*64) ((pe s k (jH s al k) 64).1/2^20%128)else(pe s k (jH s al k) 64).2)=_;rw[hy]
   rw[hy]at hi hkp
   obtain⟨z,hz⟩:∃z,y.1/2^20=z:=⟨_,rfl⟩
   rw[e,hz];refine⟨fun j=>?_,fun ha j hj=>?_⟩
   ·split
    ·exact qQ hi (by omega) j
    ·exact hi j
   ·rw[if_pos ha];unfold fV
    by_cases hjk:j=k
    ·rw[if_pos (by rw[hjk])];omega
    ·rw[if_neg (by omega),hkp (j*64) (by omega)];exact ih.2 ha j (by omega)
theorem Jz{q n:Int}(hn:0<=n/\n<4)(h:1<=q+tj n/\q+tj n<=31):(ep q (q+tj n)).2=true:=by
 have h4:n=0\/n=1\/n=2\/n=3:=by omega
 have e0:tj 0 = -2:=rfl;have e1:tj 1 = -1:=rfl;have e2:tj 2=1:=rfl;have e3:tj 3=2:=rfl;unfold ep
 rcases h4 with rfl|rfl|rfl|rfl
 ·rw[e0]at h ⊢;rw[if_neg (by omega),if_pos (by omega)]
 ·rw[e1]at h ⊢;rw[if_neg (by omega),if_neg (by omega),if_pos (by omega)]
 ·rw[e2]at h ⊢;rw[if_neg (by omega),if_neg (by omega),if_neg (by omega),if_pos (by omega)]
 ·rw[e3]at h ⊢;rw[if_neg (by omega),if_neg (by omega),if_neg (by omega),if_neg (by omega),if_pos (by omega)]
theorem zS(s:Sm)(inter:Bool)(qp:Int)(hs:iQ s)(hq:1<=qp/\qp<=31):0<=(d_ s inter qp).1/\(d_ s inter qp).1<=4/\1<=(d_ s inter qp).2/\(d_ s inter qp).2<=31/\(inter=false->3<=(d_ s inter qp).1)/\((d_ s inter qp).1=4->(ep qp (d_ s inter qp).2).2=true)/\((d_ s inter qp).1≠4->(d_ s inter qp).2=qp):=by
 have hk:=hs.kind;have hst:=hs.step
 have hkk:0<=lV s inter/\lV s inter<=4/\(inter=false->3<=lV s inter):=by
  unfold lV;cases inter
  ·rw[if_neg (by decide)];exact⟨by omega,by omega,fun _=>by omega⟩
  ·rw[if_pos rfl];exact⟨by omega,by omega,fun h=>by cases h⟩
 unfold d_
 by_cases h4:lV s inter=4
 ·rw[if_pos h4]
  by_cases hr:1<=qp+tj (s.step%4)/\qp+tj (s.step%4)<=31
  ·rw[if_pos hr];exact⟨by show(0:Int)<=4;decide,by show(4:Int)<=4;decide,hr.1,hr.2,fun _=>by show(3:Int)<=4;decide,fun _=>Jz (by omega) hr,fun g=>absurd rfl g⟩
  ·rw[if_neg hr];exact⟨by show(0:Int)<=3;decide,by show(3:Int)<=4;decide,hq.1,hq.2,fun _=>by show(3:Int)<=3;decide,fun g=>absurd (show(3:Int)=4 from g) (by decide),fun _=>rfl⟩
 ·rw[if_neg h4];exact⟨hkk.1,hkk.2.1,hq.1,hq.2,hkk.2.2,fun g=>absurd g h4,fun _=>rfl⟩
theorem Oi{s:Sm}{inter:Bool}{qp:Int}(hs:iQ s)(hq:1<=qp/\qp<=31):jR (nS s inter qp)/\dD (nS s inter qp) inter qp=0/\1<=(nS s inter qp).qp/\(nS s inter qp).qp<=31:=by
 obtain⟨k0,k4,q1,q31,hal,hst,hne⟩:=zS s inter qp hs hq
 obtain⟨H,hH⟩:∃H,d_ s inter qp=H:=⟨_,rfl⟩
 have hm:nS s inter qp=⟨H.1,H.2,o5 H.1 s.wy,if vY H.1=true then s.edge else false,if H.1=0 then fun _=>0 else(jH s (vY H.1) 6).2⟩:=by unfold nS;rw[hH]
 rw[hH]at k0 k4 q1 q31 hal hst hne;rw[hm]
 obtain⟨m,hmm⟩:∃m:Mb,(⟨H.1,H.2,o5 H.1 s.wy,if vY H.1=true then s.edge else false,if H.1=0 then fun _=>0 else(jH s (vY H.1) 6).2⟩:Mb)=m:=⟨_,rfl⟩
 have mk:m.kind=H.1:=by rw[<-hmm]
 have mq:m.qp=H.2:=by rw[<-hmm]
 have mv:m.v=o5 H.1 s.wy:=by rw[<-hmm]
 have me:m.edge=if vY H.1=true then s.edge else false:=by rw[<-hmm]
 have ml:m.lev=if H.1=0 then fun _=>0 else(jH s (vY H.1) 6).2:=by rw[<-hmm]
 have ma:alone m=vY H.1:=by unfold alone vY;rw[mk]
 rw[hmm]
 have hlr:∀i,-500<=m.lev i/\m.lev i<=500:=fun i=>by
  rw[ml];split
  ·show -500<=(0:Int)/\(0:Int)<=500;omega
  ·exact(uB s _ 6).1 i
 have hwt:∀k,k<4->fg (sP s.wy k)=true:=Gt hs.wy;have hrz:fg (0,0)=true:=by decide
 have hvr:∀k,k<4->fg (m.v k)=true:=fun k hk=>by
  rw[mv];unfold o5;split
  ·exact hwt 0 (by decide)
  ·split
   ·show fg (if k<4 then sP s.wy k else(0,0))=true;rw[if_pos hk];exact hwt k hk
   ·exact hrz
 have hvg:∀k,k<4->sA m k:=fun k hk=>by
  refine⟨hvr k hk,fun g=>?_,fun g1 g2=>?_⟩
  ·rw[mv];unfold o5;rw[mk]at g;rw[if_neg g];split
   ·rfl
   ·rfl
  ·rw[mv];unfold o5;rw[mk]at g1 g2;rw[if_neg g1,if_neg g2]
 have hq':1<=m.qp/\m.qp<=31:=by rw[mq];exact⟨q1,q31⟩
 refine⟨⟨by rw[mk];omega,by omega,fun k=>?_,fun i=>by have:=hlr i;omega⟩,?_,hq'.1,hq'.2⟩
 ·rw [mv];unfold o5
  have tw:∀k,k<4->bJ (sP s.wy k):=fun k hk=>by
   have:=hwt k hk;unfold fg at this;have h:=of_decide_eq_true this;exact⟨by unfold fT;omega,by unfold fT;omega⟩
  split
  ·exact tw 0 (by decide)
  ·split
   ·show bJ (if k<4 then sP s.wy k else(0,0));split
    ·rename_i h;exact tw k h
    ·exact Nr
   ·exact Nr
 ·unfold dD
  rw [if_neg (fun g=>by
   rcases g with g|⟨g1,g2⟩
   ·rw[mk]at g;omega
   ·have:=hal g1;rw[ma]at g2;unfold vY at g2;have:=of_decide_eq_false g2
    omega)]
  rw[if_neg (fun g=>by rw[me,<-ma,g.2,if_neg (by decide)]at g;exact absurd g.1 (by decide))]
  rw[if_neg (fun g=>by
   have h4:H.1=4:=mk▸g.1;have:=hst h4;rw[mq,this]at g
   exact absurd g.2 (by decide))]
  rw[if_neg (fun g=>g.2 (by rw[mq];exact hne (by rw[<-mk];exact g.1)))];have hv0:fS m=0:=if_pos ⟨hvg 0 (by decide),hvg 1 (by decide),hvg 2 (by decide),hvg 3 (by decide)⟩;rw[if_neg (fun g=>g hv0)]
  exact if_pos fun i hi=>⟨fun g=>by rw[ml,if_pos (by rw[<-mk];exact g)],by have:=hlr i;omega,fun h64 ha=>by
   rw[ma]at ha;have h0:H.1≠0:=fun e=>by rw[e]at ha;revert ha;decide
   rw[ml,if_neg h0];have:=(uB s (vY H.1) 6).2 ha (i/64) (by omega);rw[show i/64*64=i by omega]at this
   exact this⟩
end Go.Proofs.YthdciapjllppjaaGreat
