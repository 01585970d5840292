/-
  A part of the proof: PutAll, AllLaw, EdgeLaw, Fit0, Fits, MacLaw.
-/
import Derived.Test.YthdciapjllppjaaGreatWbN
import Derived.Test.YthdciapjllppjaaGreatWbP
import Derived.Test.YthdciapjllppjaaGreatWbQ
import Derived.Test.YthdciapjllppjaaGreatWbW
import Derived.Test.YthdciapjllppjaaGreatWbX
set_option maxRecDepth 10000
set_option maxHeartbeats 8000000
set_option linter.unusedVariables false
set_option linter.unusedSectionVars false
set_option linter.unusedSimpArgs false
open Go.Proofs.Tryz (prog)
namespace Go.Proofs.YthdciapjllppjaaGreat
open Go.Xm
variable [aq]
instance R4 (p:Ph) (e:TypeId) (a b:Bool):cA (.cells (tu p) e a b):=iA rfl
instance Tr:Inhabited Mb:=⟨Ag⟩
theorem ry:aM prog 107 (mC Ag):=by
 have h:([.int .u8 0,.int .i64 0,.cplx .f64 0 0,.cplx .f64 0 0,.cplx .f64 0 0,.cplx .f64 0 0,.bool false]++(ti .i64 384 fun _=>0):List XC)=mC Ag:=by
  unfold mC Ag;simp only[<-iK];rfl
 rw[<-h]
 infer_instance
theorem zE{m:Mb}(hm:jT m){inter:Bool}{was:Int}(hw : -1000000<=was/\was<=1000000){c:Int}(hc:dH m inter was=c){HS:aj}(hb:Nat.blt HS.length Mem.bound=true):aA.Sound prog ⟨62,[.agg (mC m),.one (.bool inter),.one (.int .i64 was)],HS,.one (.int .i64 c),HS,[]⟩:=by
 subst hc;exact HF hm hw hb
structure mA(h:Hd)(p:Ph)(l:List Mb)(first:Int):Prop where
 hd:lE h
 ph:pK p
 mok:∀m∈l,jT m
 pos:0<=first
 many:1<=l.length
 few:l.length<=16
 all:first+(l.length:Nat)<=h.cols*h.rows
abbrev G6(h:Hd)(p:Ph):PS:=⟨PA h p,[],[]⟩
theorem NH{h:Hd}{p:Ph}(ho:lE h)(hp:pK p):EZ p.inter h.cols h.rows 0 (G6 h p):=
 ⟨⟨ho.dims,⟨uD,uD,uD⟩,GD⟩,rfl,rfl,rfl,by have:=hp.qp;show -1000000<=p.qp/\p.qp<=1000000;omega,Nat.zero_le _,Nat.zero_le _⟩
theorem rL{l:List Int}(hl:bj l)(hn:l.length<=100000){q:List Int}(hq:(fy l l.length).1=q){n:Nat}(hln:l.length=n){HS:aj}{i:Nat}(hi:HS[i]? = some (bU 5 (il .u8 l))){N:Nat}(hN:HS.length=N){HS':aj}(hh:HS++[bU 5 (il .u8 q)]=HS')(hb:Nat.blt HS'.length Mem.bound=true) :
 aA.Sound prog ⟨51,[gJ i n 1],HS,gJ N q.length 1,HS',[i]⟩:=by
 subst hq;exact Fi hl hn hln hi hN hh hb
theorem xu{l:List Mb}{first:Int}{x0:PS}{k:Nat}{x:PS}(h:mY l first x0 k = .inr x):mY l first x0 (k+1)=nu first k (l.getD k default) x:=by
 rw[mY,h];rfl
theorem FW{first:Int}{k:Nat}{m:Mb}{x:PS}{c:Int}(hc:dH m x.S.inter x.S.qp=c)(h0:c≠0):nu first k m x = .inl c:=by
 subst hc;exact if_pos h0
theorem FY{first:Int}{k:Nat}{m:Mb}{x:PS}(hc:dH m x.S.inter x.S.qp=0)(h:nv x.S x.B x.w m (first+(k:Nat))=none):nu first k m x = .inl 2:=by
 unfold nu;rw[if_neg (fun g=>g hc),h]
theorem u2{first:Int}{k:Nat}{m:Mb}{x:PS}(hc:dH m x.S.inter x.S.qp=0){z:cH×List Bool×List Bool}(h:nv x.S x.B x.w m (first+(k:Nat))=some z):nu first k m x = .inr ⟨z.1,z.2.1,z.2.2⟩:=by
 unfold nu;rw[if_neg (fun g=>g hc),h]
theorem FX{first:Int}{k:Nat}{m:Mb}{x y:PS}(h:nu first k m x = .inr y):dH m x.S.inter x.S.qp=0/\∃z,nv x.S x.B x.w m (first+(k:Nat))=some z/\y=⟨z.1,z.2.1,z.2.2⟩:=by
 unfold nu at h;split at h
 ·cases h
 ·rename_i hc;refine⟨Decidable.byContradiction fun g=>hc g,?_⟩;split at h
  ·cases h
  ·rename_i z hz;exact⟨z,hz,(Sum.inr.inj h).symm⟩
theorem u1{l:List Mb}{first:Int}{x0:PS}{k:Nat}{y:PS}(h:mY l first x0 (k+1) = .inr y):∃x,mY l first x0 k = .inr x/\nu first k (l.getD k default) x = .inr y:=by
 rw[mY]at h;split at h
 ·cases h
 ·rename_i x hx;exact⟨x,hx,h⟩
theorem IT{h:Hd}{p:Ph}{l:List Mb}{first:Int}(hT:mA h p l first){k:Nat}(hk:k<l.length):jT (l.getD k default):=by
 rw[List.getD_eq_getElem?_getD,List.getElem?_eq_getElem hk,Option.getD_some];exact hT.mok _ (List.getElem_mem hk)
theorem u0{h:Hd}{p:Ph}{l:List Mb}{first:Int}(hT:mA h p l first):∀k,k<=l.length->∀x,mY l first (G6 h p) k = .inr x->EZ p.inter h.cols h.rows k x:=by
 intro k
 induction k with
 | zero=>intro _ x hx;cases hx;exact NH hT.hd hT.ph
 | succ k ih=>
   intro hk x hx;obtain⟨y,hy,hs⟩:=u1 hx;exact xq (ih (by omega) y hy) (IT hT (by omega)) hs
noncomputable def Tx(l:List Mb)(first:Int)(x0:PS)(i j:Nat):List Ev:=
 match mY l first x0 i with
 | .inr x=>SF x.S x.B (l.getD i default) (first+(i:Nat)) j
 | .inl _=>[]
structure G7(l:List Mb)(ft:Int)(x0:PS)(k:Nat)(x:PS)(t:TA):Prop where
 rel:Rel x.S t.S
 r:t.r=(x.B.length,false)
 len:t.out.length=k
 outs:∀i,i<k->∃o,t.out[i]? = some o/\Nk (l.getD i default) o.1/\∀j,j<6->o.2 j=decide (0<(Tx l ft x0 i j).length)
structure nK(inter:Bool)(qp:Int)(l:List Mb):Prop where
 mok:∀k,k<l.length->jT (l.getD k default)
 chk:∀k,k<l.length->dH (l.getD k default) inter (if k=0 then qp else(l.getD (k-1) default).qp)=0
theorem qt:∀(l:List Int) (z:Int),0<=z->2*((lK z l).length:Int)<=3*(l.length:Int)+z
 | [],z,hz=>by show 2*((0:Nat):Int)<=3*((0:Nat):Int)+z;omega
 | b :: t,z,hz=>by
   rw[lK]
   by_cases hb:b=0
   ·rw[if_pos hb,if_pos hb];have h1:=qt t (0+1) (by omega);have h2:=qt t (z+1) (by omega);split
    ·simp only[List.length_cons];omega
    ·simp only[List.length_cons];omega
   ·rw[if_neg hb,if_neg hb];have h1:=qt t 0 (by omega);split
    ·simp only[List.length_cons];omega
    ·simp only[List.length_cons];omega
theorem nV(l:List Int):(fy l l.length).1.length<=2*l.length/\2*(fy l l.length).1.length<=3*l.length:=by
 have:=qt l 0 (Int.le_refl _);have h2:=ub l l.length;rw[nT]at h2 ⊢;omega
theorem Mi{h:Hd}{p:Ph}{l:List Mb}{first:Int}(hT:mA h p l first):∀k,k<=l.length->∀x,mY l first (G6 h p) k = .inr x->x.S.qp=if k=0 then p.qp else(l.getD (k-1) default).qp:=by
 intro k
 cases k with
 | zero=>intro _ x hx;cases hx;rfl
 | succ k=>
   intro hk y hy;obtain⟨x,hx,hs⟩:=u1 hy;have hi:=u0 hT k (by omega) x hx;have hm:=IT hT (k:=k) (by omega);obtain⟨hc,z,hz,rfl⟩:=FX hs;have hk2:=xw hi.st hm (rI hm hc) hz;rw[if_neg (by omega),Nat.add_sub_cancel];exact hk2.qp
def lX(h:Hd):Hd:=if h.w=true then {h with a:=fun i=>max (h.a i) 8,b:=fun i=>max (h.b i) 8}else {h with w:=false,a:=fun _=>0,b:=fun _=>0}
abbrev BG(h:Hd)(j:Nat):Hd:={h with a:=uN (fun i=>max (h.a i) 8) h.a j,b:=uN (fun i=>max (h.b i) 8) h.b j}
theorem GA{h g:Hd}(hw:h.w=g.w)(ha:∀i,i<64->h.a i=g.a i)(hb:∀i,i<64->h.b i=g.b i):dY h=dY g:=by
 unfold dY;rw[hw,kL ha,kL hb]
theorem Et(k:IntKind)(f:Nat->Int){n i:Nat}(hi:i<n)(z:Int):(ti k n f).set i (.int k z)=ti k n (fY f i z):=r9 k n f i z
theorem JZ(h:Hd){i:Nat}(hi:i<64)(z:Int):(dY h).set (1+i) (.int .u8 z)=dY {h with a:=fY h.a i z}:=by
 unfold dY;rw[Nat.add_comm,List.set_cons_succ,List.set_append_left _ _ (by rw[aU];exact hi),Et .u8 h.a hi z]
theorem J0(h:Hd){i:Nat}(hi:i<64)(z:Int):(dY h).set (65+i) (.int .u8 z)=dY {h with b:=fY h.b i z}:=by
 unfold dY;rw[show 65+i=(64+i)+1 by omega,List.set_cons_succ,List.set_append_right _ _ (by rw[aU];omega),aU,show 64+i-64=i by omega,Et .u8 h.b hi z]
theorem Dn:aM prog 24 (dY ⟨0,0,false,fun _=>0,fun _=>0⟩):=by
 show aM prog 24 (.bool false::((ti .u8 64 fun _=>0)++(ti .u8 64 fun _=>0)))
 infer_instance
theorem H3(h:Hd)(hr:∀i,i<64->(0<=h.a i/\h.a i<=255)/\(0<=h.b i/\h.b i<=255)):bt prog 52 [.agg (dY h)] [] (.agg (dY (lX h))) []:=by
 obtain⟨w,hw⟩:∃w,h.w=w:=⟨_,rfl⟩
 have h0:(dY h)[0]? = some (.bool w):=by rw[<-hw];rfl
 cases w
 ·have e:dY (lX h)=dY ⟨0,0,false,fun _=>0,fun _=>0⟩:=by unfold lX;rw[if_neg (by rw[hw];decide)];rfl
  rw[e];refine cO Tryz.func52 ?_
  repeat' (first
   |(refine qz ?_;first
    |refine jU (zs:=dY ⟨0,0,false,fun _=>0,fun _=>0⟩) (hz:=Dn) ?_
    |refine b0 (zs:=dY ⟨0,0,false,fun _=>0,fun _=>0⟩) (hz:=Dn) ?_
    |refine nD (cs:=dY ⟨0,0,false,fun _=>0,fun _=>0⟩) ?_ (hs1:=by rw[iI]) (hs2:=by rw[iI])
    |refine ld (hc:=h0) ?_)
   |refine zz ?_|refine zx (fun _=>?_) (fun _=>?_)|fail)
  show aE _ _ _ _ _ _ _ _;refine kV [] ?_;rfl
 ·have e:dY (lX h)=dY (BG h 64):=by
   unfold lX;rw[if_pos hw];exact GA rfl (fun i hi=>by simp[uN,hi]) (fun i hi=>by simp[uN,hi])
  rw[e];refine cO Tryz.func52 ?_
  repeat' (first
   |(refine qz ?_;first
    |refine jU (zs:=dY ⟨0,0,false,fun _=>0,fun _=>0⟩) (hz:=Dn) ?_
    |refine ld (hc:=h0) ?_)
   |refine zz ?_|refine zx (fun _=>?_) (fun _=>?_)|fail)
  refine WX.cw (σ:=Nat) (fun j=>[(8,.one (.int .i64 (j:Nat))),(1,.one (.ptr 0 0)),(2,.one (.ptr 1 0))]) (fun j=>[.cells (dY (BG h j)) 24 false false,.cells (dY ⟨0,0,false,fun _=>0,fun _=>0⟩) 24 false false]) (fun j=>j<=64) (fun j=>64-j) 0 (by omega) (fun s _=>ny) (bW [0,1] (obj:=by(repeat' (first|exact ae.nil|refine ae.flat (by rw[show BG h 0=h by unfold BG;rw[qO,qO]];rfl) ?_|refine oz ?_));first|done|fail)) ?_;intro j hj ih
  by_cases hj64:j<64
  ·have ga:=JX (BG h j) hj64;have gb:=JY (BG h j) hj64;have ea:(BG h j).a j=h.a j:=by simp[uN]
   have eb:(BG h j).b j=h.b j:=by simp[uN]
   rw[ea]at ga;rw[eb]at gb;have hrj:=hr j hj64
   have e1:({BG h j with a:=fY (BG h j).a j (max (h.a j) 8),b:=fY (BG h j).b j (max (h.b j) 8)}:Hd)=BG h (j+1):=by
    show({h with a:=fY (uN (fun i=>max (h.a i) 8) h.a j) j (max (h.a j) 8),b:=fY (uN (fun i=>max (h.b i) 8) h.b j) j (max (h.b j) 8)}:Hd)=_;rw[qN (fun i=>max (h.a i) 8),qN (fun i=>max (h.b i) 8)]
   repeat' (first
    |(refine qz ?_;first
     |refine ld (hc:=ga) ?_
     |refine ld (hc:=gb) ?_
     |refine st ?_ (hle:=by rw[iI];omega) (hv:=JZ (BG h j) hj64 (max (h.a j) 8))
     |refine st ?_ (hle:=by rw[iI];omega) (hv:=J0 {BG h j with a:=fY (BG h j).a j (max (h.a j) 8)} hj64 (max (h.b j) 8)))
    |refine zz ?_|refine zx (fun _=>?_) (fun _=>?_)|fail)
   refine ih (j+1) _ _ _ (bW [0,1] (obj:=by(repeat' (first|exact ae.nil|refine ae.flat (by rw[<-e1];rfl) ?_|refine oz ?_));first|done|fail)) (by omega) (by omega)
  ·obtain rfl:j=64:=by omega
   repeat' (first
    |(refine qz ?_;first
     |refine jI ?_ (hle:=by rw[iI])
     |refine nD (cs:=dY (BG h 64)) ?_ (hs1:=by rw[iI]) (hs2:=by rw[iI]))
    |refine zz ?_|refine zx (fun _=>?_) (fun _=>?_)|fail)
   show aE _ _ _ _ _ _ _ _;refine kV [] ?_;rfl
theorem Lz{h g:Hd}(hr:∀i,i<64->(0<=h.a i/\h.a i<=255)/\(0<=h.b i/\h.b i<=255))(hg:lX h=g){HS:aj}(hb:Nat.blt HS.length Mem.bound=true):aA.Sound prog ⟨52,[.agg (dY h)],HS,.agg (dY g),HS,[]⟩:=by
 subst hg;exact az (H3 h hr) (by simp only[List.all_cons,List.all_nil,Bool.and_true];exact oZ h) (oZ _) hb
def fe(h:Hd):Hd:={lX h with cols:=1+h.cols%2^3,rows:=1+h.rows%2^3}
structure pt(h:Hd):Prop where
 cols : -9223372036854775808<=h.cols/\h.cols<=9223372036854775807
 rows : -9223372036854775808<=h.rows/\h.rows<=9223372036854775807
 tab:∀i,i<64->(0<=h.a i/\h.a i<=255)/\(0<=h.b i/\h.b i<=255)
theorem hU:aM prog 26 (b9 ⟨0,0,false,fun _=>0,fun _=>0⟩):=by
 show aM prog 26 (.int .i64 0 :: .int .i64 0 :: .bool false::((ti .u8 64 fun _=>0)++(ti .u8 64 fun _=>0)))
 infer_instance
theorem Fl(h:Hd)(hr:pt h):bt prog 28 [.agg (b9 h)] [] (.agg (b9 (fe h))) []:=by
 have r1:=hr.cols;have r2:=hr.rows;refine cO Tryz.func28 ?_
 repeat' (first
  |(refine qz ?_;first
   |refine jU (zs:=b9 ⟨0,0,false,fun _=>0,fun _=>0⟩) (hz:=hU) ?_
   |refine qI (cs:=dY h) ?_ (hle:=by rw[aF];decide) (hc:=DU h)
   |refine an 3 ?_
   |refine cl ?_ (hi:=by exact Lz hr.tab rfl rfl))
  |refine zz ?_|refine zx (fun _=>?_) (fun _=>?_)|fail)
 show aE _ _ _ _ _ _ _ _;refine kV [] ?_;rfl
theorem H2{h g:Hd}(hr:pt h)(hg:fe h=g){HS:aj}(hb:Nat.blt HS.length Mem.bound=true):aA.Sound prog ⟨28,[.agg (b9 h)],HS,.agg (b9 g),HS,[]⟩:=by
 subst hg;exact az (Fl h hr) (by simp only[List.all_cons,List.all_nil,Bool.and_true];exact cW h) (cW _) hb
structure Td(p:Ph):Prop where
 id : -9223372036854775808<=p.id/\p.id<=9223372036854775807
 qp : -9223372036854775808<=p.qp/\p.qp<=9223372036854775807
def four(h:Hd):Hd:={fe h with cols:=1+(fe h).cols%2^2,rows:=1+(fe h).rows%2^2}
theorem LB(h:Hd):lE (four h)/\1<=(four h).cols/\(four h).cols<=4/\1<=(four h).rows/\(four h).rows<=4:=by
 have c:1<=(four h).cols/\(four h).cols<=4:=by show 1<=1+(fe h).cols%2^2/\1+(fe h).cols%2^2<=4;omega
 have r:1<=(four h).rows/\(four h).rows<=4:=by show 1<=1+(fe h).rows%2^2/\1+(fe h).rows%2^2<=4;omega
 refine⟨⟨⟨by omega,by omega,by omega,by omega⟩,?_,?_⟩,c.1,c.2,r.1,r.2⟩
 ·intro hw i hi;have hw':(lX h).w=true:=hw;show 8<=(lX h).a i/\8<=(lX h).b i;unfold lX at hw' ⊢;split at hw'
  ·rename_i g;rw[if_pos g];exact⟨Int.le_max_right _ _,Int.le_max_right _ _⟩
  ·cases hw'
 ·intro hw i hi;have hw':(lX h).w=false:=hw;show(lX h).a i=0/\(lX h).b i=0;unfold lX at hw' ⊢;split at hw'
  ·rename_i g;have:h.w=false:=hw';rw[g]at this;cases this
  ·rename_i g;rw[if_neg g];exact⟨rfl,rfl⟩
structure Wy where
 x:Nat->Int
 y:Nat->Int
 same:Bool
def RT(w:Wy):List XC:=[.int .i8 (w.x 0),.int .i8 (w.x 1),.int .i8 (w.x 2),.int .i8 (w.x 3),.int .i8 (w.y 0),.int .i8 (w.y 1),.int .i8 (w.y 2),.int .i8 (w.y 3),.bool w.same]
def s4(w:Wy)(k:Nat):Int×Int:=if w.same=true then((w.x 0).tmod 32,(w.y 0).tmod 32)else((w.x k).tmod 32,(w.y k).tmod 32)
structure Dt(w:Wy):Prop where
 x:∀k,k<4 -> -128<=w.x k/\w.x k<128
 y:∀k,k<4 -> -128<=w.y k/\w.y k<128
theorem zeroV:aM prog 103 (vt fun _=>(0,0)):=by
 show aM prog 103 [c7 (0,0),c7 (0,0),c7 (0,0),c7 (0,0)];rw[iK]
 infer_instance
theorem gd{x y:Int}(hx : -128<=x/\x<128)(hy : -128<=y/\y<128){q:Int×Int}(hq:(x.tmod 32,y.tmod 32)=q){HS:aj}(hb:Nat.blt HS.length Mem.bound=true):aA.Sound prog ⟨81,[.one (.int .i8 x),.one (.int .i8 y)],HS,.one (c7 q),HS,[]⟩:=by
 subst hq;exact CS hx hy hb
theorem Kq(w:Wy)(hr:Dt w):bt prog 54 [.agg (RT w)] [] (.agg (vt (s4 w))) []:=by
 have x0:=hr.x 0 (by decide);have x1:=hr.x 1 (by decide);have x2:=hr.x 2 (by decide);have x3:=hr.x 3 (by decide);have y0:=hr.y 0 (by decide);have y1:=hr.y 1 (by decide);have y2:=hr.y 2 (by decide);have y3:=hr.y 3 (by decide)
 obtain⟨p0,h0⟩:∃p,((w.x 0).tmod 32,(w.y 0).tmod 32)=p:=⟨_,rfl⟩
 obtain⟨p1,h1⟩:∃p,((w.x 1).tmod 32,(w.y 1).tmod 32)=p:=⟨_,rfl⟩
 obtain⟨p2,h2⟩:∃p,((w.x 2).tmod 32,(w.y 2).tmod 32)=p:=⟨_,rfl⟩
 obtain⟨p3,h3⟩:∃p,((w.x 3).tmod 32,(w.y 3).tmod 32)=p:=⟨_,rfl⟩
 obtain⟨b,hb⟩:∃b,w.same=b:=⟨_,rfl⟩
 have hl:(RT w)[8]? = some (.bool b):=by rw[<-hb];rfl
 cases b
 ·have e:vt (s4 w) = [c7 p0,c7 p1,c7 p2,c7 p3]:=by
   have g:∀k,s4 w k=((w.x k).tmod 32,(w.y k).tmod 32):=fun k=>if_neg (by rw[hb];decide)
   show [c7 (s4 w 0),c7 (s4 w 1),c7 (s4 w 2),c7 (s4 w 3)]=_;rw[g,g,g,g,h0,h1,h2,h3]
  rw[e];refine cO Tryz.func54 ?_
  repeat' (first
   |(refine qz ?_;first
    |refine jU (zs:=vt fun _=>(0,0)) (hz:=zeroV) ?_
    |refine ld (hc:=hl) ?_
    |refine cl ?_ (hi:=by exact gd x0 y0 h0 rfl)
    |refine cl ?_ (hi:=by exact gd x1 y1 h1 rfl)
    |refine cl ?_ (hi:=by exact gd x2 y2 h2 rfl)
    |refine cl ?_ (hi:=by exact gd x3 y3 h3 rfl))
   |refine WX.loop ?_|refine WX.round ?_|refine zz ?_|refine zx (fun _=>?_) (fun _=>?_)|fail)
  show aE _ _ _ _ _ _ _ _;refine kV [] ?_;rfl
 ·have e:vt (s4 w) = [c7 p0,c7 p0,c7 p0,c7 p0]:=by
   have g:∀k,s4 w k=((w.x 0).tmod 32,(w.y 0).tmod 32):=fun k=>if_pos hb
   show [c7 (s4 w 0),c7 (s4 w 1),c7 (s4 w 2),c7 (s4 w 3)]=_;rw[g,g,g,g,h0]
  rw[e];refine cO Tryz.func54 ?_
  repeat' (first
   |(refine qz ?_;first
    |refine jU (zs:=vt fun _=>(0,0)) (hz:=zeroV) ?_
    |refine ld (hc:=hl) ?_
    |refine cl ?_ (hi:=by exact gd x0 y0 h0 rfl)
    |refine cl ?_ (hi:=by exact gd x1 y1 h1 rfl)
    |refine cl ?_ (hi:=by exact gd x2 y2 h2 rfl)
    |refine cl ?_ (hi:=by exact gd x3 y3 h3 rfl))
   |refine WX.loop ?_|refine WX.round ?_|refine zz ?_|refine zx (fun _=>?_) (fun _=>?_)|fail)
  show aE _ _ _ _ _ _ _ _;refine kV [] ?_;rfl
theorem EA{w:Wy}(hr:Dt w){q:Nat->Int×Int}(hq:s4 w=q){HS:aj}(hb:Nat.blt HS.length Mem.bound=true):aA.Sound prog ⟨54,[.agg (RT w)],HS,.agg (vt q),HS,[]⟩:=by
 subst hq;exact az (Kq w hr) rfl rfl hb
theorem PH:∀n:Fin 256,-31<=((n.val:Int)-128).tmod 32/\((n.val:Int)-128).tmod 32<=31:=by decide +kernel
theorem tE{x:Int}(h : -128<=x/\x<128) : -31<=x.tmod 32/\x.tmod 32<=31:=by
 have:=PH ⟨(x+128).toNat,by omega⟩;have e:(((x+128).toNat:Nat):Int)-128=x:=by omega
 simp only[e]at this;exact this
theorem GP{w:Wy}(hr:Dt w):∀k,k<4->fj (s4 w k)=true:=fun k hk=>by
 have a:=tE (hr.x k hk);have b:=tE (hr.y k hk);have c:=tE (hr.x 0 (by decide));have d:=tE (hr.y 0 (by decide));unfold s4 fj;split<;>exact decide_eq_true (by omega)
structure Sm where
 kind:Int
 step:Int
 wy:Wy
 edge:Bool
 iq:Nat->Int
 seed:Int
 great:Bool
def tC(s:Sm):List XC:=[.int .u8 s.kind,.int .u8 s.step,.int .i8 (s.wy.x 0),.int .i8 (s.wy.x 1),.int .i8 (s.wy.x 2),.int .i8 (s.wy.x 3),.int .i8 (s.wy.y 0),.int .i8 (s.wy.y 1),.int .i8 (s.wy.y 2),.int .i8 (s.wy.y 3),.bool s.wy.same,.bool s.edge,.int .u64 (s.iq 0),.int .u64 (s.iq 1),.int .u64 (s.iq 2),.int .u64 (s.iq 3),.int .u64 (s.iq 4),.int .u64 (s.iq 5),.int .u32 s.seed,.bool s.great]
instance:nH tC 20:=⟨fun _=>rfl,fun _=>rfl,by decide⟩
instance R5 (s:Sm) (e:TypeId) (a b:Bool):cA (.cells (tC s) e a b):=iA rfl
structure iS(s:Sm):Prop where
 kind:0<=s.kind/\s.kind<=255
 step:0<=s.step/\s.step<=255
 wy:Dt s.wy
 iq:∀k,k<6->0<=s.iq k/\s.iq k<18446744073709551616
 seed:0<=s.seed/\s.seed<4294967296
def wt(n:Int):Int:=IntKind.u32.wrap (IntKind.u32.wrap (n*1664525)+1013904223)
theorem wrap32(x:Int):0<=IntKind.u32.wrap x/\IntKind.u32.wrap x<4294967296:=by
 unfold IntKind.wrap;simp[IntKind.bits,IntKind.signed];omega
def l8(s:Sm)(inter:Bool):Int:=if inter=true then s.kind%5 else 3+s.kind%2
def eg(s:Sm)(inter:Bool)(qp:Int):Int×Int:=
 if l8 s inter=4 then(if 1<=qp+tD (s.step%4)/\qp+tD (s.step%4)<=31 then(4,qp+tD (s.step%4))else(3,qp))else(l8 s inter,qp)
def T2(s:Sm)(k i:Nat)(x:Int×(Nat->Int)):Int×(Nat->Int):=
 (wt x.1,if s.iq k/2^i%2=1 then(if s.great=true then fY (fY x.2 (k*64+i) (wt x.1/2^16%7-3)) (k*64+i) (wt x.1/2^16%1001-500)else fY x.2 (k*64+i) (wt x.1/2^16%7-3))else x.2)
def pA(s:Sm)(k:Nat)(x:Int×(Nat->Int)):Nat->Int×(Nat->Int)
 | 0=>x
 | i+1=>T2 s k i (pA s k x i)
def jJ(s:Sm)(al:Bool):Nat->Int×(Nat->Int)
 | 0=>(s.seed,fun _=>0)
 | k+1=>((pA s k (jJ s al k) 64).1,if al=true then fY (pA s k (jJ s al k) 64).2 (k*64) ((pA s k (jJ s al k) 64).1/2^20%128)else(pA s k (jJ s al k) 64).2)
def pn(K:Int)(w:Wy):Nat->Int×Int:=if K=1 then fun _=>s4 w 0 else if K=2 then fun k=>if k<4 then s4 w k else(0,0)else fun _=>(0,0)
def wj(K:Int):Bool:=decide (K=3\/K=4)
def n8(s:Sm)(inter:Bool)(qp:Int):Mb:=
 ⟨(eg s inter qp).1,(eg s inter qp).2,pn (eg s inter qp).1 s.wy,if wj (eg s inter qp).1=true then s.edge else false,if(eg s inter qp).1=0 then fun _=>0 else(jJ s (wj (eg s inter qp).1) 6).2⟩
theorem IM(s:Sm)(k:Nat)(x:Int×(Nat->Int))(j:Nat)(hj:j<k*64):∀i,(pA s k x i).2 j=x.2 j:=by
 intro i
 induction i with
 | zero=>rfl
 | succ i ih=>
   show(if s.iq k/2^i%2=1 then(if s.great=true then fY (fY (pA s k x i).2 (k*64+i) _) (k*64+i) _ else fY (pA s k x i).2 (k*64+i) _)else(pA s k x i).2) j=_;split
   ·split
    ·unfold fY;rw[if_neg (by omega),if_neg (by omega)];exact ih
    ·unfold fY;rw[if_neg (by omega)];exact ih
   ·exact ih
theorem q9{f:Nat->Int}{lo hi:Int}(h:∀j,lo<=f j/\f j<=hi){i:Nat}{z:Int}(hz:lo<=z/\z<=hi):∀j,lo<=fY f i z j/\fY f i z j<=hi:=fun j=>by
 unfold fY
 by_cases g:j=i
 ·rw[if_pos g];exact hz
 ·rw[if_neg g];exact h j
theorem LV(s:Sm)(k:Nat)(x:Int×(Nat->Int))(h:∀j,-500<=x.2 j/\x.2 j<=500):∀i j,-500<=(pA s k x i).2 j/\(pA s k x i).2 j<=500:=by
 intro i
 induction i with
 | zero=>exact h
 | succ i ih=>
   show ∀j,-500<=(if s.iq k/2^i%2=1 then(if s.great=true then fY (fY (pA s k x i).2 (k*64+i) (wt (pA s k x i).1/2^16%7-3)) (k*64+i) (wt (pA s k x i).1/2^16%1001-500)else fY (pA s k x i).2 (k*64+i) (wt (pA s k x i).1/2^16%7-3))else(pA s k x i).2) j/\(if s.iq k/2^i%2=1 then(if s.great=true then fY (fY (pA s k x i).2 (k*64+i) (wt (pA s k x i).1/2^16%7-3)) (k*64+i) (wt (pA s k x i).1/2^16%1001-500)else fY (pA s k x i).2 (k*64+i) (wt (pA s k x i).1/2^16%7-3))else(pA s k x i).2) j<=500
   obtain⟨z,hz⟩:∃z,wt (pA s k x i).1/2^16=z:=⟨_,rfl⟩
   rw[hz]
   by_cases g1:s.iq k/2^i%2=1
   ·rw[if_pos g1]
    by_cases g2:s.great=true
    ·rw[if_pos g2];exact q9 (q9 ih (by omega)) (by omega)
    ·rw[if_neg g2];exact q9 ih (by omega)
   ·rw[if_neg g1];exact ih
theorem uK(s:Sm)(al:Bool):∀k,(∀j,-500<=(jJ s al k).2 j/\(jJ s al k).2 j<=500)/\(al=true->∀j,j<k->0<=(jJ s al k).2 (j*64)/\(jJ s al k).2 (j*64)<=127):=by
 intro k
 induction k with
 | zero=>exact⟨fun j=>by show -500<=(0:Int)/\(0:Int)<=500;omega,fun _ j hj=>absurd hj (Nat.not_lt_zero _)⟩
 | succ k ih=>
   have hi:=LV s k (jJ s al k) ih.1 64
   obtain⟨y,hy⟩:∃y,pA s k (jJ s al k) 64=y:=⟨_,rfl⟩
   have hkp:=fun j hj=>IM s k (jJ s al k) j hj 64
   have e:(jJ s al (k+1)).2=if al=true then fY y.2 (k*64) (y.1/2^20%128)else y.2:=by
    show(if al=true then fY (pA s k (jJ s al k) 64).2 (k*64) ((pA s k (jJ s al k) 64).1/2^20%128)else(pA s k (jJ s al k) 64).2)=_;rw[hy]
   rw[hy]at hi hkp
   obtain⟨z,hz⟩:∃z,y.1/2^20=z:=⟨_,rfl⟩
   rw[e,hz];refine⟨fun j=>?_,fun ha j hj=>?_⟩
   ·split
    ·exact q9 hi (by omega) j
    ·exact hi j
   ·rw[if_pos ha];unfold fY
    by_cases hjk:j=k
    ·rw[if_pos (by rw[hjk])];omega
    ·rw[if_neg (by omega),hkp (j*64) (by omega)];exact ih.2 ha j (by omega)
theorem JU{q n:Int}(hn:0<=n/\n<4)(h:1<=q+tD n/\q+tD n<=31):(eF q (q+tD n)).2=true:=by
 have h4:n=0\/n=1\/n=2\/n=3:=by omega
 have e0:tD 0 = -2:=rfl;have e1:tD 1 = -1:=rfl;have e2:tD 2=1:=rfl;have e3:tD 3=2:=rfl;unfold eF
 rcases h4 with rfl|rfl|rfl|rfl
 ·rw[e0]at h ⊢;rw[if_neg (by omega),if_pos (by omega)]
 ·rw[e1]at h ⊢;rw[if_neg (by omega),if_neg (by omega),if_pos (by omega)]
 ·rw[e2]at h ⊢;rw[if_neg (by omega),if_neg (by omega),if_neg (by omega),if_pos (by omega)]
 ·rw[e3]at h ⊢;rw[if_neg (by omega),if_neg (by omega),if_neg (by omega),if_neg (by omega),if_pos (by omega)]
theorem Ad(s:Sm)(inter:Bool)(qp:Int)(hs:iS s)(hq:1<=qp/\qp<=31):0<=(eg s inter qp).1/\(eg s inter qp).1<=4/\1<=(eg s inter qp).2/\(eg s inter qp).2<=31/\(inter=false->3<=(eg s inter qp).1)/\((eg s inter qp).1=4->(eF qp (eg s inter qp).2).2=true)/\((eg s inter qp).1≠4->(eg s inter qp).2=qp):=by
 have hk:=hs.kind;have hst:=hs.step
 have hkk:0<=l8 s inter/\l8 s inter<=4/\(inter=false->3<=l8 s inter):=by
  unfold l8;cases inter
  ·rw[if_neg (by decide)];exact⟨by omega,by omega,fun _=>by omega⟩
  ·rw[if_pos rfl];exact⟨by omega,by omega,fun h=>by cases h⟩
 unfold eg
 by_cases h4:l8 s inter=4
 ·rw[if_pos h4]
  by_cases hr:1<=qp+tD (s.step%4)/\qp+tD (s.step%4)<=31
  ·rw[if_pos hr];exact⟨by show(0:Int)<=4;decide,by show(4:Int)<=4;decide,hr.1,hr.2,fun _=>by show(3:Int)<=4;decide,fun _=>JU (by omega) hr,fun g=>absurd rfl g⟩
  ·rw[if_neg hr];exact⟨by show(0:Int)<=3;decide,by show(3:Int)<=4;decide,hq.1,hq.2,fun _=>by show(3:Int)<=3;decide,fun g=>absurd (show(3:Int)=4 from g) (by decide),fun _=>rfl⟩
 ·rw[if_neg h4];exact⟨hkk.1,hkk.2.1,hq.1,hq.2,hkk.2.2,fun g=>absurd g h4,fun _=>rfl⟩
theorem OL{s:Sm}{inter:Bool}{qp:Int}(hs:iS s)(hq:1<=qp/\qp<=31):jT (n8 s inter qp)/\dH (n8 s inter qp) inter qp=0/\1<=(n8 s inter qp).qp/\(n8 s inter qp).qp<=31:=by
 obtain⟨k0,k4,q1,q31,hal,hst,hne⟩:=Ad s inter qp hs hq
 obtain⟨H,hH⟩:∃H,eg s inter qp=H:=⟨_,rfl⟩
 have hm:n8 s inter qp=⟨H.1,H.2,pn H.1 s.wy,if wj H.1=true then s.edge else false,if H.1=0 then fun _=>0 else(jJ s (wj H.1) 6).2⟩:=by unfold n8;rw[hH]
 rw[hH]at k0 k4 q1 q31 hal hst hne;rw[hm]
 obtain⟨m,hmm⟩:∃m:Mb,(⟨H.1,H.2,pn H.1 s.wy,if wj H.1=true then s.edge else false,if H.1=0 then fun _=>0 else(jJ s (wj H.1) 6).2⟩:Mb)=m:=⟨_,rfl⟩
 have mk:m.kind=H.1:=by rw[<-hmm]
 have mq:m.qp=H.2:=by rw[<-hmm]
 have mv:m.v=pn H.1 s.wy:=by rw[<-hmm]
 have me:m.edge=if wj H.1=true then s.edge else false:=by rw[<-hmm]
 have ml:m.lev=if H.1=0 then fun _=>0 else(jJ s (wj H.1) 6).2:=by rw[<-hmm]
 have ma:alone m=wj H.1:=by unfold alone wj;rw[mk]
 rw[hmm]
 have hlr:∀i,-500<=m.lev i/\m.lev i<=500:=fun i=>by
  rw[ml];split
  ·show -500<=(0:Int)/\(0:Int)<=500;omega
  ·exact(uK s _ 6).1 i
 have hwt:∀k,k<4->fj (s4 s.wy k)=true:=GP hs.wy;have hrz:fj (0,0)=true:=by decide
 have hvr:∀k,k<4->fj (m.v k)=true:=fun k hk=>by
  rw[mv];unfold pn;split
  ·exact hwt 0 (by decide)
  ·split
   ·show fj (if k<4 then s4 s.wy k else(0,0))=true;rw[if_pos hk];exact hwt k hk
   ·exact hrz
 have hvg:∀k,k<4->sL m k:=fun k hk=>by
  refine⟨hvr k hk,fun g=>?_,fun g1 g2=>?_⟩
  ·rw[mv];unfold pn;rw[mk]at g;rw[if_neg g];split
   ·rfl
   ·rfl
  ·rw[mv];unfold pn;rw[mk]at g1 g2;rw[if_neg g1,if_neg g2]
 have hq':1<=m.qp/\m.qp<=31:=by rw[mq];exact⟨q1,q31⟩
 refine⟨⟨by rw[mk];omega,by omega,fun k=>?_,fun i=>by have:=hlr i;omega⟩,?_,hq'.1,hq'.2⟩
 ·rw [mv];unfold pn
  have tw:∀k,k<4->bM (s4 s.wy k):=fun k hk=>by
   have:=hwt k hk;unfold fj at this;have h:=of_decide_eq_true this;exact⟨by unfold fX;omega,by unfold fX;omega⟩
  split
  ·exact tw 0 (by decide)
  ·split
   ·show bM (if k<4 then s4 s.wy k else(0,0));split
    ·rename_i h;exact tw k h
    ·exact NP
   ·exact NP
 ·unfold dH
  rw [if_neg (fun g=>by
   rcases g with g|⟨g1,g2⟩
   ·rw[mk]at g;omega
   ·have:=hal g1;rw[ma]at g2;unfold wj at g2;have:=of_decide_eq_false g2
    omega)]
  rw[if_neg (fun g=>by rw[me,<-ma,g.2,if_neg (by decide)]at g;exact absurd g.1 (by decide))]
  rw[if_neg (fun g=>by
   have h4:H.1=4:=mk▸g.1;have:=hst h4;rw[mq,this]at g
   exact absurd g.2 (by decide))]
  rw[if_neg (fun g=>g.2 (by rw[mq];exact hne (by rw[<-mk];exact g.1)))];have hv0:fW m=0:=if_pos ⟨hvg 0 (by decide),hvg 1 (by decide),hvg 2 (by decide),hvg 3 (by decide)⟩;rw[if_neg (fun g=>g hv0)]
  exact if_pos fun i hi=>⟨fun g=>by rw[ml,if_pos (by rw[<-mk];exact g)],by have:=hlr i;omega,fun h64 ha=>by
   rw[ma]at ha;have h0:H.1≠0:=fun e=>by rw[e]at ha;revert ha;decide
   rw[ml,if_neg h0];have:=(uK s (wj H.1) 6).2 ha (i/64) (by omega);rw[show i/64*64=i by omega]at this
   exact this⟩
end Go.Proofs.YthdciapjllppjaaGreat
