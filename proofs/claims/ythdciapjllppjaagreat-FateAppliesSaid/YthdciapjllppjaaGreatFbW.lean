/-
  A part of the proof: PutAll, AllLaw, EdgeLaw, Fit0, Fits, MacLaw.
-/
import Derived.Test.YthdciapjllppjaaGreatFbN
import Derived.Test.YthdciapjllppjaaGreatFbP
import Derived.Test.YthdciapjllppjaaGreatFbQ
import Derived.Test.YthdciapjllppjaaGreatFbU
import Derived.Test.YthdciapjllppjaaGreatFbV
set_option maxRecDepth 10000
set_option maxHeartbeats 8000000
set_option linter.unusedVariables false
set_option linter.unusedSectionVars false
set_option linter.unusedSimpArgs false
open Go.Proofs.Tryz (prog)
namespace Go.Proofs.YthdciapjllppjaaGreat
open Go.Xm
variable [av]
instance Rm (p:Ph) (e:TypeId) (a b:Bool):b9 (.cells (wY p) e a b):=gq rfl
instance SA:Inhabited Mb:=⟨y_⟩
theorem oN:aI prog 107 (mC y_):=by
 have h:([.int .u8 0,.int .i64 0,.cplx .f64 0 0,.cplx .f64 0 0,.cplx .f64 0 0,.cplx .f64 0 0,.bool false]++(ti .i64 384 fun _=>0):List XC)=mC y_:=by
  unfold mC y_;simp only[<-ig];rfl
 rw[<-h]
 infer_instance
theorem zo{m:Mb}(hm:iU m){inter:Bool}{was:Int}(hw : -1000000<=was/\was<=1000000){c:Int}(hc:db m inter was=c){HS:ah}(hb:Nat.blt HS.length Mem.bound=true):aA.Sound prog ⟨62,[.agg (mC m),.one (.bool inter),.one (.int .i64 was)],HS,.one (.int .i64 c),HS,[]⟩:=by
 subst hc;exact Hy hm hw hb
structure l5(h:Hd)(p:Ph)(l:List Mb)(first:Int):Prop where
 hd:qZ h
 ph:sD p
 mok:∀m∈l,iU m
 pos:0<=first
 many:1<=l.length
 few:l.length<=16
 all:first+(l.length:Nat)<=h.cols*h.rows
abbrev Nn(h:Hd)(p:Ph):PS:=⟨Sh h p,[],[]⟩
theorem Nl{h:Hd}{p:Ph}(ho:qZ h)(hp:sD p):Eu p.inter h.cols h.rows 0 (Nn h p):=
 ⟨⟨ho.dims,⟨ua,ua,ua⟩,Gn⟩,rfl,rfl,rfl,by have:=hp.qp;show -1000000<=p.qp/\p.qp<=1000000;omega,Nat.zero_le _,Nat.zero_le _⟩
theorem ry{l:List Int}(hl:aW l)(hn:l.length<=100000){q:List Int}(hq:(f5 l l.length).1=q){n:Nat}(hln:l.length=n){HS:ah}{i:Nat}(hi:HS[i]? = some (bz 5 (il .u8 l))){N:Nat}(hN:HS.length=N){HS':ah}(hh:HS++[bz 5 (il .u8 q)]=HS')(hb:Nat.blt HS'.length Mem.bound=true) :
 aA.Sound prog ⟨51,[ee i n 1],HS,ee N q.length 1,HS',[i]⟩:=by
 subst hq;exact ET hl hn hln hi hN hh hb
theorem w6{l:List Mb}{first:Int}{x0:PS}{k:Nat}{x:PS}(h:nU l first x0 k = .inr x):nU l first x0 (k+1)=mV first k (l.getD k default) x:=by
 rw[nU,h];rfl
theorem FG{first:Int}{k:Nat}{m:Mb}{x:PS}{c:Int}(hc:db m x.S.inter x.S.qp=c)(h0:c≠0):mV first k m x = .inl c:=by
 subst hc;exact if_pos h0
theorem FI{first:Int}{k:Nat}{m:Mb}{x:PS}(hc:db m x.S.inter x.S.qp=0)(h:mW x.S x.B x.w m (first+(k:Nat))=none):mV first k m x = .inl 2:=by
 unfold mV;rw[if_neg (fun g=>g hc),h]
theorem uK{first:Int}{k:Nat}{m:Mb}{x:PS}(hc:db m x.S.inter x.S.qp=0){z:cR×List Bool×List Bool}(h:mW x.S x.B x.w m (first+(k:Nat))=some z):mV first k m x = .inr ⟨z.1,z.2.1,z.2.2⟩:=by
 unfold mV;rw[if_neg (fun g=>g hc),h]
theorem FH{first:Int}{k:Nat}{m:Mb}{x y:PS}(h:mV first k m x = .inr y):db m x.S.inter x.S.qp=0/\∃z,mW x.S x.B x.w m (first+(k:Nat))=some z/\y=⟨z.1,z.2.1,z.2.2⟩:=by
 unfold mV at h;split at h
 ·cases h
 ·rename_i hc;refine⟨Decidable.byContradiction fun g=>hc g,?_⟩;split at h
  ·cases h
  ·rename_i z hz;exact⟨z,hz,(Sum.inr.inj h).symm⟩
theorem uJ{l:List Mb}{first:Int}{x0:PS}{k:Nat}{y:PS}(h:nU l first x0 (k+1) = .inr y):∃x,nU l first x0 k = .inr x/\mV first k (l.getD k default) x = .inr y:=by
 rw[nU]at h;split at h
 ·cases h
 ·rename_i x hx;exact⟨x,hx,h⟩
theorem IM{h:Hd}{p:Ph}{l:List Mb}{first:Int}(hT:l5 h p l first){k:Nat}(hk:k<l.length):iU (l.getD k default):=by
 rw[List.getD_eq_getElem?_getD,List.getElem?_eq_getElem hk,Option.getD_some];exact hT.mok _ (List.getElem_mem hk)
theorem uI{h:Hd}{p:Ph}{l:List Mb}{first:Int}(hT:l5 h p l first):∀k,k<=l.length->∀x,nU l first (Nn h p) k = .inr x->Eu p.inter h.cols h.rows k x:=by
 intro k
 induction k with
 | zero=>intro _ x hx;cases hx;exact Nl hT.hd hT.ph
 | succ k ih=>
   intro hk x hx;obtain⟨y,hy,hs⟩:=uJ hx;exact w4 (ih (by omega) y hy) (IM hT (by omega)) hs
noncomputable def Tn(l:List Mb)(first:Int)(x0:PS)(i j:Nat):List Ev:=
 match nU l first x0 i with
 | .inr x=>RT x.S x.B (l.getD i default) (first+(i:Nat)) j
 | .inl _=>[]
structure Rz(l:List Mb)(ft:Int)(x0:PS)(k:Nat)(x:PS)(t:TA):Prop where
 rel:Rel x.S t.S
 r:t.r=(x.B.length,false)
 len:t.out.length=k
 outs:∀i,i<k->∃o,t.out[i]? = some o/\P0 (l.getD i default) o.1/\∀j,j<6->o.2 j=decide (0<(Tn l ft x0 i j).length)
structure nu(inter:Bool)(qp:Int)(l:List Mb):Prop where
 mok:∀k,k<l.length->iU (l.getD k default)
 chk:∀k,k<l.length->db (l.getD k default) inter (if k=0 then qp else(l.getD (k-1) default).qp)=0
theorem qb:∀(l:List Int) (z:Int),0<=z->2*((rn z l).length:Int)<=3*(l.length:Int)+z
 | [],z,hz=>by show 2*((0:Nat):Int)<=3*((0:Nat):Int)+z;omega
 | b :: t,z,hz=>by
   rw[rn]
   by_cases hb:b=0
   ·rw[if_pos hb,if_pos hb];have h1:=qb t (0+1) (by omega);have h2:=qb t (z+1) (by omega);split
    ·simp only[List.length_cons];omega
    ·simp only[List.length_cons];omega
   ·rw[if_neg hb,if_neg hb];have h1:=qb t 0 (by omega);split
    ·simp only[List.length_cons];omega
    ·simp only[List.length_cons];omega
theorem qc(l:List Int):(f5 l l.length).1.length<=2*l.length/\2*(f5 l l.length).1.length<=3*l.length:=by
 have:=qb l 0 (Int.le_refl _);have h2:=tQ l l.length;rw[tP]at h2 ⊢;omega
theorem LX{h:Hd}{p:Ph}{l:List Mb}{first:Int}(hT:l5 h p l first):∀k,k<=l.length->∀x,nU l first (Nn h p) k = .inr x->x.S.qp=if k=0 then p.qp else(l.getD (k-1) default).qp:=by
 intro k
 cases k with
 | zero=>intro _ x hx;cases hx;rfl
 | succ k=>
   intro hk y hy;obtain⟨x,hx,hs⟩:=uJ hy;have hi:=uI hT k (by omega) x hx;have hm:=IM hT (k:=k) (by omega);obtain⟨hc,z,hz,rfl⟩:=FH hs;have hk2:=w8 hi.st hm (rk hm hc) hz;rw[if_neg (by omega),Nat.add_sub_cancel];exact hk2.qp
def lE(h:Hd):Hd:=if h.w=true then {h with a:=fun i=>max (h.a i) 8,b:=fun i=>max (h.b i) 8}else {h with w:=false,a:=fun _=>0,b:=fun _=>0}
abbrev Bm(h:Hd)(j:Nat):Hd:={h with a:=uv (fun i=>max (h.a i) 8) h.a j,b:=uv (fun i=>max (h.b i) 8) h.b j}
theorem Gk{h g:Hd}(hw:h.w=g.w)(ha:∀i,i<64->h.a i=g.a i)(hb:∀i,i<64->h.b i=g.b i):dP h=dP g:=by
 unfold dP;rw[hw,u6 ha,u6 hb]
theorem D8(k:IntKind)(f:Nat->Int){n i:Nat}(hi:i<n)(z:Int):(ti k n f).set i (.int k z)=ti k n (gG f i z):=u9 k n f i z
theorem JP(h:Hd){i:Nat}(hi:i<64)(z:Int):(dP h).set (1+i) (.int .u8 z)=dP {h with a:=gG h.a i z}:=by
 unfold dP;rw[Nat.add_comm,List.set_cons_succ,List.set_append_left _ _ (by rw[aS];exact hi),D8 .u8 h.a hi z]
theorem JQ(h:Hd){i:Nat}(hi:i<64)(z:Int):(dP h).set (65+i) (.int .u8 z)=dP {h with b:=gG h.b i z}:=by
 unfold dP;rw[show 65+i=(64+i)+1 by omega,List.set_cons_succ,List.set_append_right _ _ (by rw[aS];omega),aS,show 64+i-64=i by omega,D8 .u8 h.b hi z]
theorem CY:aI prog 24 (dP ⟨0,0,false,fun _=>0,fun _=>0⟩):=by
 show aI prog 24 (.bool false::((ti .u8 64 fun _=>0)++(ti .u8 64 fun _=>0)))
 infer_instance
theorem HY(h:Hd)(hr:∀i,i<64->(0<=h.a i/\h.a i<=255)/\(0<=h.b i/\h.b i<=255)):bm prog 52 [.agg (dP h)] [] (.agg (dP (lE h))) []:=by
 obtain⟨w,hw⟩:∃w,h.w=w:=⟨_,rfl⟩
 have h0:(dP h)[0]? = some (.bool w):=by rw[<-hw];rfl
 cases w
 ·have e:dP (lE h)=dP ⟨0,0,false,fun _=>0,fun _=>0⟩:=by unfold lE;rw[if_neg (by rw[hw];decide)];rfl
  rw[e];refine cO Tryz.func52 ?_
  repeat' (first
   |(refine qz ?_;first
    |refine nC (zs:=dP ⟨0,0,false,fun _=>0,fun _=>0⟩) (hz:=CY) ?_
    |refine b0 (zs:=dP ⟨0,0,false,fun _=>0,fun _=>0⟩) (hz:=CY) ?_
    |refine tk (cs:=dP ⟨0,0,false,fun _=>0,fun _=>0⟩) ?_ (hs1:=by rw[ie]) (hs2:=by rw[ie])
    |refine ld (hc:=h0) ?_)
   |refine zz ?_|refine zx (fun _=>?_) (fun _=>?_)|fail)
  show aE _ _ _ _ _ _ _ _;refine kV [] ?_;rfl
 ·have e:dP (lE h)=dP (Bm h 64):=by
   unfold lE;rw[if_pos hw];exact Gk rfl (fun i hi=>by simp[uv,hi]) (fun i hi=>by simp[uv,hi])
  rw[e];refine cO Tryz.func52 ?_
  repeat' (first
   |(refine qz ?_;first
    |refine nC (zs:=dP ⟨0,0,false,fun _=>0,fun _=>0⟩) (hz:=CY) ?_
    |refine ld (hc:=h0) ?_)
   |refine zz ?_|refine zx (fun _=>?_) (fun _=>?_)|fail)
  refine WX.bQ (σ:=Nat) (fun j=>[(8,.one (.int .i64 (j:Nat))),(1,.one (.ptr 0 0)),(2,.one (.ptr 1 0))]) (fun j=>[.cells (dP (Bm h j)) 24 false false,.cells (dP ⟨0,0,false,fun _=>0,fun _=>0⟩) 24 false false]) (fun j=>j<=64) (fun j=>64-j) 0 (by omega) (fun s _=>mE) (bq [0,1] (obj:=by(repeat' (first|exact af.nil|refine af.flat (by rw[show Bm h 0=h by unfold Bm;rw[qA,qA]];rfl) ?_|refine oz ?_));first|done|fail)) ?_;intro j hj ih
  by_cases hj64:j<64
  ·have ga:=JN (Bm h j) hj64;have gb:=JO (Bm h j) hj64;have ea:(Bm h j).a j=h.a j:=by simp[uv]
   have eb:(Bm h j).b j=h.b j:=by simp[uv]
   rw[ea]at ga;rw[eb]at gb;have hrj:=hr j hj64
   have e1:({Bm h j with a:=gG (Bm h j).a j (max (h.a j) 8),b:=gG (Bm h j).b j (max (h.b j) 8)}:Hd)=Bm h (j+1):=by
    show({h with a:=gG (uv (fun i=>max (h.a i) 8) h.a j) j (max (h.a j) 8),b:=gG (uv (fun i=>max (h.b i) 8) h.b j) j (max (h.b j) 8)}:Hd)=_;rw[qy (fun i=>max (h.a i) 8),qy (fun i=>max (h.b i) 8)]
   repeat' (first
    |(refine qz ?_;first
     |refine ld (hc:=ga) ?_
     |refine ld (hc:=gb) ?_
     |refine st ?_ (hle:=by rw[ie];omega) (hv:=JP (Bm h j) hj64 (max (h.a j) 8))
     |refine st ?_ (hle:=by rw[ie];omega) (hv:=JQ {Bm h j with a:=gG (Bm h j).a j (max (h.a j) 8)} hj64 (max (h.b j) 8)))
    |refine zz ?_|refine zx (fun _=>?_) (fun _=>?_)|fail)
   refine ih (j+1) _ _ _ (bq [0,1] (obj:=by(repeat' (first|exact af.nil|refine af.flat (by rw[<-e1];rfl) ?_|refine oz ?_));first|done|fail)) (by omega) (by omega)
  ·obtain rfl:j=64:=by omega
   repeat' (first
    |(refine qz ?_;first
     |refine lI ?_ (hle:=by rw[ie])
     |refine tk (cs:=dP (Bm h 64)) ?_ (hs1:=by rw[ie]) (hs2:=by rw[ie]))
    |refine zz ?_|refine zx (fun _=>?_) (fun _=>?_)|fail)
   show aE _ _ _ _ _ _ _ _;refine kV [] ?_;rfl
theorem Lk{h g:Hd}(hr:∀i,i<64->(0<=h.a i/\h.a i<=255)/\(0<=h.b i/\h.b i<=255))(hg:lE h=g){HS:ah}(hb:Nat.blt HS.length Mem.bound=true):aA.Sound prog ⟨52,[.agg (dP h)],HS,.agg (dP g),HS,[]⟩:=by
 subst hg;exact ay (HY h hr) (by simp only[List.all_cons,List.all_nil,Bool.and_true];exact oF h) (oF _) hb
def eQ(h:Hd):Hd:={lE h with cols:=1+h.cols%2^3,rows:=1+h.rows%2^3}
structure oW(h:Hd):Prop where
 cols : -9223372036854775808<=h.cols/\h.cols<=9223372036854775807
 rows : -9223372036854775808<=h.rows/\h.rows<=9223372036854775807
 tab:∀i,i<64->(0<=h.a i/\h.a i<=255)/\(0<=h.b i/\h.b i<=255)
theorem Ky:aI prog 26 (gV ⟨0,0,false,fun _=>0,fun _=>0⟩):=by
 show aI prog 26 (.int .i64 0 :: .int .i64 0 :: .bool false::((ti .u8 64 fun _=>0)++(ti .u8 64 fun _=>0)))
 infer_instance
theorem E3(h:Hd)(hr:oW h):bm prog 28 [.agg (gV h)] [] (.agg (gV (eQ h))) []:=by
 have r1:=hr.cols;have r2:=hr.rows;refine cO Tryz.func28 ?_
 repeat' (first
  |(refine qz ?_;first
   |refine nC (zs:=gV ⟨0,0,false,fun _=>0,fun _=>0⟩) (hz:=Ky) ?_
   |refine t_ (cs:=dP h) ?_ (hle:=by rw[cu];decide) (hc:=Dy h)
   |refine an 3 ?_
   |refine cl ?_ (hi:=by exact Lk hr.tab rfl rfl))
  |refine zz ?_|refine zx (fun _=>?_) (fun _=>?_)|fail)
 show aE _ _ _ _ _ _ _ _;refine kV [] ?_;rfl
theorem HX{h g:Hd}(hr:oW h)(hg:eQ h=g){HS:ah}(hb:Nat.blt HS.length Mem.bound=true):aA.Sound prog ⟨28,[.agg (gV h)],HS,.agg (gV g),HS,[]⟩:=by
 subst hg;exact ay (E3 h hr) (by simp only[List.all_cons,List.all_nil,Bool.and_true];exact eC h) (eC _) hb
structure So(p:Ph):Prop where
 id : -9223372036854775808<=p.id/\p.id<=9223372036854775807
 qp : -9223372036854775808<=p.qp/\p.qp<=9223372036854775807
def four(h:Hd):Hd:={eQ h with cols:=1+(eQ h).cols%2^2,rows:=1+(eQ h).rows%2^2}
theorem Ll(h:Hd):qZ (four h)/\1<=(four h).cols/\(four h).cols<=4/\1<=(four h).rows/\(four h).rows<=4:=by
 have c:1<=(four h).cols/\(four h).cols<=4:=by show 1<=1+(eQ h).cols%2^2/\1+(eQ h).cols%2^2<=4;omega
 have r:1<=(four h).rows/\(four h).rows<=4:=by show 1<=1+(eQ h).rows%2^2/\1+(eQ h).rows%2^2<=4;omega
 refine⟨⟨⟨by omega,by omega,by omega,by omega⟩,?_,?_⟩,c.1,c.2,r.1,r.2⟩
 ·intro hw i hi;have hw':(lE h).w=true:=hw;show 8<=(lE h).a i/\8<=(lE h).b i;unfold lE at hw' ⊢;split at hw'
  ·rename_i g;rw[if_pos g];exact⟨Int.le_max_right _ _,Int.le_max_right _ _⟩
  ·cases hw'
 ·intro hw i hi;have hw':(lE h).w=false:=hw;show(lE h).a i=0/\(lE h).b i=0;unfold lE at hw' ⊢;split at hw'
  ·rename_i g;have:h.w=false:=hw';rw[g]at this;cases this
  ·rename_i g;rw[if_neg g];exact⟨rfl,rfl⟩
structure Wy where
 x:Nat->Int
 y:Nat->Int
 same:Bool
def Rb(w:Wy):List XC:=[.int .i8 (w.x 0),.int .i8 (w.x 1),.int .i8 (w.x 2),.int .i8 (w.x 3),.int .i8 (w.y 0),.int .i8 (w.y 1),.int .i8 (w.y 2),.int .i8 (w.y 3),.bool w.same]
def sM(w:Wy)(k:Nat):Int×Int:=if w.same=true then((w.x 0).tmod 32,(w.y 0).tmod 32)else((w.x k).tmod 32,(w.y k).tmod 32)
structure C5(w:Wy):Prop where
 x:∀k,k<4 -> -128<=w.x k/\w.x k<128
 y:∀k,k<4 -> -128<=w.y k/\w.y k<128
theorem zeroV:aI prog 103 (vt fun _=>(0,0)):=by
 show aI prog 103 [cI (0,0),cI (0,0),cI (0,0),cI (0,0)];rw[ig]
 infer_instance
theorem fN{x y:Int}(hx : -128<=x/\x<128)(hy : -128<=y/\y<128){q:Int×Int}(hq:(x.tmod 32,y.tmod 32)=q){HS:ah}(hb:Nat.blt HS.length Mem.bound=true):aA.Sound prog ⟨81,[.one (.int .i8 x),.one (.int .i8 y)],HS,.one (cI q),HS,[]⟩:=by
 subst hq;exact Cs hx hy hb
theorem Kd(w:Wy)(hr:C5 w):bm prog 54 [.agg (Rb w)] [] (.agg (vt (sM w))) []:=by
 have x0:=hr.x 0 (by decide);have x1:=hr.x 1 (by decide);have x2:=hr.x 2 (by decide);have x3:=hr.x 3 (by decide);have y0:=hr.y 0 (by decide);have y1:=hr.y 1 (by decide);have y2:=hr.y 2 (by decide);have y3:=hr.y 3 (by decide)
 obtain⟨p0,h0⟩:∃p,((w.x 0).tmod 32,(w.y 0).tmod 32)=p:=⟨_,rfl⟩
 obtain⟨p1,h1⟩:∃p,((w.x 1).tmod 32,(w.y 1).tmod 32)=p:=⟨_,rfl⟩
 obtain⟨p2,h2⟩:∃p,((w.x 2).tmod 32,(w.y 2).tmod 32)=p:=⟨_,rfl⟩
 obtain⟨p3,h3⟩:∃p,((w.x 3).tmod 32,(w.y 3).tmod 32)=p:=⟨_,rfl⟩
 obtain⟨b,hb⟩:∃b,w.same=b:=⟨_,rfl⟩
 have hl:(Rb w)[8]? = some (.bool b):=by rw[<-hb];rfl
 cases b
 ·have e:vt (sM w) = [cI p0,cI p1,cI p2,cI p3]:=by
   have g:∀k,sM w k=((w.x k).tmod 32,(w.y k).tmod 32):=fun k=>if_neg (by rw[hb];decide)
   show [cI (sM w 0),cI (sM w 1),cI (sM w 2),cI (sM w 3)]=_;rw[g,g,g,g,h0,h1,h2,h3]
  rw[e];refine cO Tryz.func54 ?_
  repeat' (first
   |(refine qz ?_;first
    |refine nC (zs:=vt fun _=>(0,0)) (hz:=zeroV) ?_
    |refine ld (hc:=hl) ?_
    |refine cl ?_ (hi:=by exact fN x0 y0 h0 rfl)
    |refine cl ?_ (hi:=by exact fN x1 y1 h1 rfl)
    |refine cl ?_ (hi:=by exact fN x2 y2 h2 rfl)
    |refine cl ?_ (hi:=by exact fN x3 y3 h3 rfl))
   |refine WX.loop ?_|refine WX.round ?_|refine zz ?_|refine zx (fun _=>?_) (fun _=>?_)|fail)
  show aE _ _ _ _ _ _ _ _;refine kV [] ?_;rfl
 ·have e:vt (sM w) = [cI p0,cI p0,cI p0,cI p0]:=by
   have g:∀k,sM w k=((w.x 0).tmod 32,(w.y 0).tmod 32):=fun k=>if_pos hb
   show [cI (sM w 0),cI (sM w 1),cI (sM w 2),cI (sM w 3)]=_;rw[g,g,g,g,h0]
  rw[e];refine cO Tryz.func54 ?_
  repeat' (first
   |(refine qz ?_;first
    |refine nC (zs:=vt fun _=>(0,0)) (hz:=zeroV) ?_
    |refine ld (hc:=hl) ?_
    |refine cl ?_ (hi:=by exact fN x0 y0 h0 rfl)
    |refine cl ?_ (hi:=by exact fN x1 y1 h1 rfl)
    |refine cl ?_ (hi:=by exact fN x2 y2 h2 rfl)
    |refine cl ?_ (hi:=by exact fN x3 y3 h3 rfl))
   |refine WX.loop ?_|refine WX.round ?_|refine zz ?_|refine zx (fun _=>?_) (fun _=>?_)|fail)
  show aE _ _ _ _ _ _ _ _;refine kV [] ?_;rfl
theorem Ed{w:Wy}(hr:C5 w){q:Nat->Int×Int}(hq:sM w=q){HS:ah}(hb:Nat.blt HS.length Mem.bound=true):aA.Sound prog ⟨54,[.agg (Rb w)],HS,.agg (vt q),HS,[]⟩:=by
 subst hq;exact ay (Kd w hr) rfl rfl hb
theorem Pj:∀n:Fin 256,-31<=((n.val:Int)-128).tmod 32/\((n.val:Int)-128).tmod 32<=31:=by decide +kernel
theorem tn{x:Int}(h : -128<=x/\x<128) : -31<=x.tmod 32/\x.tmod 32<=31:=by
 have:=Pj ⟨(x+128).toNat,by omega⟩;have e:(((x+128).toNat:Nat):Int)-128=x:=by omega
 simp only[e]at this;exact this
theorem GA{w:Wy}(hr:C5 w):∀k,k<4->eV (sM w k)=true:=fun k hk=>by
 have a:=tn (hr.x k hk);have b:=tn (hr.y k hk);have c:=tn (hr.x 0 (by decide));have d:=tn (hr.y 0 (by decide));unfold sM eV;split<;>exact decide_eq_true (by omega)
structure Sm where
 kind:Int
 step:Int
 wy:Wy
 edge:Bool
 gR:Nat->Int
 seed:Int
 great:Bool
def th(s:Sm):List XC:=[.int .u8 s.kind,.int .u8 s.step,.int .i8 (s.wy.x 0),.int .i8 (s.wy.x 1),.int .i8 (s.wy.x 2),.int .i8 (s.wy.x 3),.int .i8 (s.wy.y 0),.int .i8 (s.wy.y 1),.int .i8 (s.wy.y 2),.int .i8 (s.wy.y 3),.bool s.wy.same,.bool s.edge,.int .u64 (s.gR 0),.int .u64 (s.gR 1),.int .u64 (s.gR 2),.int .u64 (s.gR 3),.int .u64 (s.gR 4),.int .u64 (s.gR 5),.int .u32 s.seed,.bool s.great]
instance:nk th 20:=⟨fun _=>rfl,fun _=>rfl,by decide⟩
instance Rn (s:Sm) (e:TypeId) (a b:Bool):b9 (.cells (th s) e a b):=gq rfl
structure iy(s:Sm):Prop where
 kind:0<=s.kind/\s.kind<=255
 step:0<=s.step/\s.step<=255
 wy:C5 s.wy
 gR:∀k,k<6->0<=s.gR k/\s.gR k<18446744073709551616
 seed:0<=s.seed/\s.seed<4294967296
def vZ(n:Int):Int:=IntKind.u32.wrap (IntKind.u32.wrap (n*1664525)+1013904223)
theorem wrap32(x:Int):0<=IntKind.u32.wrap x/\IntKind.u32.wrap x<4294967296:=by
 unfold IntKind.wrap;simp[IntKind.bits,IntKind.signed];omega
def lJ(s:Sm)(inter:Bool):Int:=if inter=true then s.kind%5 else 3+s.kind%2
def dY(s:Sm)(inter:Bool)(qp:Int):Int×Int:=
 if lJ s inter=4 then(if 1<=qp+tm (s.step%4)/\qp+tm (s.step%4)<=31 then(4,qp+tm (s.step%4))else(3,qp))else(lJ s inter,qp)
def S_(s:Sm)(k i:Nat)(x:Int×(Nat->Int)):Int×(Nat->Int):=
 (vZ x.1,if s.gR k/2^i%2=1 then(if s.great=true then gG (gG x.2 (k*64+i) (vZ x.1/2^16%7-3)) (k*64+i) (vZ x.1/2^16%1001-500)else gG x.2 (k*64+i) (vZ x.1/2^16%7-3))else x.2)
def pc(s:Sm)(k:Nat)(x:Int×(Nat->Int)):Nat->Int×(Nat->Int)
 | 0=>x
 | i+1=>S_ s k i (pc s k x i)
def jn(s:Sm)(al:Bool):Nat->Int×(Nat->Int)
 | 0=>(s.seed,fun _=>0)
 | k+1=>((pc s k (jn s al k) 64).1,if al=true then gG (pc s k (jn s al k) 64).2 (k*64) ((pc s k (jn s al k) 64).1/2^20%128)else(pc s k (jn s al k) 64).2)
def oQ(K:Int)(w:Wy):Nat->Int×Int:=if K=1 then fun _=>sM w 0 else if K=2 then fun k=>if k<4 then sM w k else(0,0)else fun _=>(0,0)
def vU(K:Int):Bool:=decide (K=3\/K=4)
def nR(s:Sm)(inter:Bool)(qp:Int):Mb:=
 ⟨(dY s inter qp).1,(dY s inter qp).2,oQ (dY s inter qp).1 s.wy,if vU (dY s inter qp).1=true then s.edge else false,if(dY s inter qp).1=0 then fun _=>0 else(jn s (vU (dY s inter qp).1) 6).2⟩
theorem II(s:Sm)(k:Nat)(x:Int×(Nat->Int))(j:Nat)(hj:j<k*64):∀i,(pc s k x i).2 j=x.2 j:=by
 intro i
 induction i with
 | zero=>rfl
 | succ i ih=>
   show(if s.gR k/2^i%2=1 then(if s.great=true then gG (gG (pc s k x i).2 (k*64+i) _) (k*64+i) _ else gG (pc s k x i).2 (k*64+i) _)else(pc s k x i).2) j=_;split
   ·split
    ·unfold gG;rw[if_neg (by omega),if_neg (by omega)];exact ih
    ·unfold gG;rw[if_neg (by omega)];exact ih
   ·exact ih
theorem qM{f:Nat->Int}{lo hi:Int}(h:∀j,lo<=f j/\f j<=hi){i:Nat}{z:Int}(hz:lo<=z/\z<=hi):∀j,lo<=gG f i z j/\gG f i z j<=hi:=fun j=>by
 unfold gG
 by_cases g:j=i
 ·rw[if_pos g];exact hz
 ·rw[if_neg g];exact h j
theorem LF(s:Sm)(k:Nat)(x:Int×(Nat->Int))(h:∀j,-500<=x.2 j/\x.2 j<=500):∀i j,-500<=(pc s k x i).2 j/\(pc s k x i).2 j<=500:=by
 intro i
 induction i with
 | zero=>exact h
 | succ i ih=>
   show ∀j,-500<=(if s.gR k/2^i%2=1 then(if s.great=true then gG (gG (pc s k x i).2 (k*64+i) (vZ (pc s k x i).1/2^16%7-3)) (k*64+i) (vZ (pc s k x i).1/2^16%1001-500)else gG (pc s k x i).2 (k*64+i) (vZ (pc s k x i).1/2^16%7-3))else(pc s k x i).2) j/\(if s.gR k/2^i%2=1 then(if s.great=true then gG (gG (pc s k x i).2 (k*64+i) (vZ (pc s k x i).1/2^16%7-3)) (k*64+i) (vZ (pc s k x i).1/2^16%1001-500)else gG (pc s k x i).2 (k*64+i) (vZ (pc s k x i).1/2^16%7-3))else(pc s k x i).2) j<=500
   obtain⟨z,hz⟩:∃z,vZ (pc s k x i).1/2^16=z:=⟨_,rfl⟩
   rw[hz]
   by_cases g1:s.gR k/2^i%2=1
   ·rw[if_pos g1]
    by_cases g2:s.great=true
    ·rw[if_pos g2];exact qM (qM ih (by omega)) (by omega)
    ·rw[if_neg g2];exact qM ih (by omega)
   ·rw[if_neg g1];exact ih
theorem uk(s:Sm)(al:Bool):∀k,(∀j,-500<=(jn s al k).2 j/\(jn s al k).2 j<=500)/\(al=true->∀j,j<k->0<=(jn s al k).2 (j*64)/\(jn s al k).2 (j*64)<=127):=by
 intro k
 induction k with
 | zero=>exact⟨fun j=>by show -500<=(0:Int)/\(0:Int)<=500;omega,fun _ j hj=>absurd hj (Nat.not_lt_zero _)⟩
 | succ k ih=>
   have hi:=LF s k (jn s al k) ih.1 64
   obtain⟨y,hy⟩:∃y,pc s k (jn s al k) 64=y:=⟨_,rfl⟩
   have hkp:=fun j hj=>II s k (jn s al k) j hj 64
   have e:(jn s al (k+1)).2=if al=true then gG y.2 (k*64) (y.1/2^20%128)else y.2:=by
    show(if al=true then gG (pc s k (jn s al k) 64).2 (k*64) ((pc s k (jn s al k) 64).1/2^20%128)else(pc s k (jn s al k) 64).2)=_;rw[hy]
   rw[hy]at hi hkp
   obtain⟨z,hz⟩:∃z,y.1/2^20=z:=⟨_,rfl⟩
   rw[e,hz];refine⟨fun j=>?_,fun ha j hj=>?_⟩
   ·split
    ·exact qM hi (by omega) j
    ·exact hi j
   ·rw[if_pos ha];unfold gG
    by_cases hjk:j=k
    ·rw[if_pos (by rw[hjk])];omega
    ·rw[if_neg (by omega),hkp (j*64) (by omega)];exact ih.2 ha j (by omega)
theorem JL{q n:Int}(hn:0<=n/\n<4)(h:1<=q+tm n/\q+tm n<=31):(ei q (q+tm n)).2=true:=by
 have h4:n=0\/n=1\/n=2\/n=3:=by omega
 have e0:tm 0 = -2:=rfl;have e1:tm 1 = -1:=rfl;have e2:tm 2=1:=rfl;have e3:tm 3=2:=rfl;unfold ei
 rcases h4 with rfl|rfl|rfl|rfl
 ·rw[e0]at h ⊢;rw[if_neg (by omega),if_pos (by omega)]
 ·rw[e1]at h ⊢;rw[if_neg (by omega),if_neg (by omega),if_pos (by omega)]
 ·rw[e2]at h ⊢;rw[if_neg (by omega),if_neg (by omega),if_neg (by omega),if_pos (by omega)]
 ·rw[e3]at h ⊢;rw[if_neg (by omega),if_neg (by omega),if_neg (by omega),if_neg (by omega),if_pos (by omega)]
theorem z5(s:Sm)(inter:Bool)(qp:Int)(hs:iy s)(hq:1<=qp/\qp<=31):0<=(dY s inter qp).1/\(dY s inter qp).1<=4/\1<=(dY s inter qp).2/\(dY s inter qp).2<=31/\(inter=false->3<=(dY s inter qp).1)/\((dY s inter qp).1=4->(ei qp (dY s inter qp).2).2=true)/\((dY s inter qp).1≠4->(dY s inter qp).2=qp):=by
 have hk:=hs.kind;have hst:=hs.step
 have hkk:0<=lJ s inter/\lJ s inter<=4/\(inter=false->3<=lJ s inter):=by
  unfold lJ;cases inter
  ·rw[if_neg (by decide)];exact⟨by omega,by omega,fun _=>by omega⟩
  ·rw[if_pos rfl];exact⟨by omega,by omega,fun h=>by cases h⟩
 unfold dY
 by_cases h4:lJ s inter=4
 ·rw[if_pos h4]
  by_cases hr:1<=qp+tm (s.step%4)/\qp+tm (s.step%4)<=31
  ·rw[if_pos hr];exact⟨by show(0:Int)<=4;decide,by show(4:Int)<=4;decide,hr.1,hr.2,fun _=>by show(3:Int)<=4;decide,fun _=>JL (by omega) hr,fun g=>absurd rfl g⟩
  ·rw[if_neg hr];exact⟨by show(0:Int)<=3;decide,by show(3:Int)<=4;decide,hq.1,hq.2,fun _=>by show(3:Int)<=3;decide,fun g=>absurd (show(3:Int)=4 from g) (by decide),fun _=>rfl⟩
 ·rw[if_neg h4];exact⟨hkk.1,hkk.2.1,hq.1,hq.2,hkk.2.2,fun g=>absurd g h4,fun _=>rfl⟩
theorem Oj{s:Sm}{inter:Bool}{qp:Int}(hs:iy s)(hq:1<=qp/\qp<=31):iU (nR s inter qp)/\db (nR s inter qp) inter qp=0/\1<=(nR s inter qp).qp/\(nR s inter qp).qp<=31:=by
 obtain⟨k0,k4,q1,q31,hal,hst,hne⟩:=z5 s inter qp hs hq
 obtain⟨H,hH⟩:∃H,dY s inter qp=H:=⟨_,rfl⟩
 have hm:nR s inter qp=⟨H.1,H.2,oQ H.1 s.wy,if vU H.1=true then s.edge else false,if H.1=0 then fun _=>0 else(jn s (vU H.1) 6).2⟩:=by unfold nR;rw[hH]
 rw[hH]at k0 k4 q1 q31 hal hst hne;rw[hm]
 obtain⟨m,hmm⟩:∃m:Mb,(⟨H.1,H.2,oQ H.1 s.wy,if vU H.1=true then s.edge else false,if H.1=0 then fun _=>0 else(jn s (vU H.1) 6).2⟩:Mb)=m:=⟨_,rfl⟩
 have mk:m.kind=H.1:=by rw[<-hmm]
 have mq:m.qp=H.2:=by rw[<-hmm]
 have mv:m.v=oQ H.1 s.wy:=by rw[<-hmm]
 have me:m.edge=if vU H.1=true then s.edge else false:=by rw[<-hmm]
 have ml:m.lev=if H.1=0 then fun _=>0 else(jn s (vU H.1) 6).2:=by rw[<-hmm]
 have ma:alone m=vU H.1:=by unfold alone vU;rw[mk]
 rw[hmm]
 have hlr:∀i,-500<=m.lev i/\m.lev i<=500:=fun i=>by
  rw[ml];split
  ·show -500<=(0:Int)/\(0:Int)<=500;omega
  ·exact(uk s _ 6).1 i
 have hwt:∀k,k<4->eV (sM s.wy k)=true:=GA hs.wy;have hrz:eV (0,0)=true:=by decide
 have hvr:∀k,k<4->eV (m.v k)=true:=fun k hk=>by
  rw[mv];unfold oQ;split
  ·exact hwt 0 (by decide)
  ·split
   ·show eV (if k<4 then sM s.wy k else(0,0))=true;rw[if_pos hk];exact hwt k hk
   ·exact hrz
 have hvg:∀k,k<4->sq m k:=fun k hk=>by
  refine⟨hvr k hk,fun g=>?_,fun g1 g2=>?_⟩
  ·rw[mv];unfold oQ;rw[mk]at g;rw[if_neg g];split
   ·rfl
   ·rfl
  ·rw[mv];unfold oQ;rw[mk]at g1 g2;rw[if_neg g1,if_neg g2]
 have hq':1<=m.qp/\m.qp<=31:=by rw[mq];exact⟨q1,q31⟩
 refine⟨⟨by rw[mk];omega,by omega,fun k=>?_,fun i=>by have:=hlr i;omega⟩,?_,hq'.1,hq'.2⟩
 ·rw [mv];unfold oQ
  have tw:∀k,k<4->bK (sM s.wy k):=fun k hk=>by
   have:=hwt k hk;unfold eV at this;have h:=of_decide_eq_true this;exact⟨by unfold fB;omega,by unfold fB;omega⟩
  split
  ·exact tw 0 (by decide)
  ·split
   ·show bK (if k<4 then sM s.wy k else(0,0));split
    ·rename_i h;exact tw k h
    ·exact Nu
   ·exact Nu
 ·unfold db
  rw [if_neg (fun g=>by
   rcases g with g|⟨g1,g2⟩
   ·rw[mk]at g;omega
   ·have:=hal g1;rw[ma]at g2;unfold vU at g2;have:=of_decide_eq_false g2
    omega)]
  rw[if_neg (fun g=>by rw[me,<-ma,g.2,if_neg (by decide)]at g;exact absurd g.1 (by decide))]
  rw[if_neg (fun g=>by
   have h4:H.1=4:=mk▸g.1;have:=hst h4;rw[mq,this]at g
   exact absurd g.2 (by decide))]
  rw[if_neg (fun g=>g.2 (by rw[mq];exact hne (by rw[<-mk];exact g.1)))];have hv0:fA m=0:=if_pos ⟨hvg 0 (by decide),hvg 1 (by decide),hvg 2 (by decide),hvg 3 (by decide)⟩;rw[if_neg (fun g=>g hv0)]
  exact if_pos fun i hi=>⟨fun g=>by rw[ml,if_pos (by rw[<-mk];exact g)],by have:=hlr i;omega,fun h64 ha=>by
   rw[ma]at ha;have h0:H.1≠0:=fun e=>by rw[e]at ha;revert ha;decide
   rw[ml,if_neg h0];have:=(uk s (vU H.1) 6).2 ha (i/64) (by omega);rw[show i/64*64=i by omega]at this
   exact this⟩
end Go.Proofs.YthdciapjllppjaaGreat
