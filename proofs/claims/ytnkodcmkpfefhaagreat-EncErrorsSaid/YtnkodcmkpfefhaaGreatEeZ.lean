/-
  A part of the proof: FltX, EncH, EncI, EncJ, EncK.
-/
import Derived.Test.YtnkodcmkpfefhaaGreatEeF
import Derived.Test.YtnkodcmkpfefhaaGreatEeM
import Derived.Test.YtnkodcmkpfefhaaGreatEeP
import Derived.Test.YtnkodcmkpfefhaaGreatEeV
import Derived.Test.YtnkodcmkpfefhaaGreatEeY
set_option maxRecDepth 10000
set_option maxHeartbeats 8000000
set_option linter.unusedVariables false
set_option linter.unusedSectionVars false
set_option linter.unusedSimpArgs false
namespace Go.Xm
open Ieee
theorem rJ{N:Nat}(h:N≠0)(k:Nat):(N*2^k).log2=N.log2+k:=by
 have h2:N*2^k≠0:=Nat.mul_ne_zero h (Nat.pos_iff_ne_zero.1 (Nat.two_pow_pos k))
 rw[Nat.log2_eq_iff h2]
 obtain⟨h3,h4⟩:=(Nat.log2_eq_iff h).1 rfl
 exact⟨by rw[Nat.pow_add];exact Nat.mul_le_mul_right _ h3,by rw[show N.log2+k+1=(N.log2+1)+k by omega,Nat.pow_add];exact Nat.mul_lt_mul_of_pos_right h4 (Nat.two_pow_pos k)⟩
theorem tj(neg:Bool)(m d:Nat)(hd:d<=(m*2^d).log2+2):Toward.even.cut neg (m*2^d) d=m:=by
 unfold Toward.cut
 rw[Nat.min_eq_left hd]
 have hg:1 <<< d=2^d:=by rw[Nat.one_shiftLeft]
 have hp:0<2^d:=Nat.two_pow_pos d
 simp only[hg,Nat.mul_div_cancel _ hp,Nat.mul_mod_left,Nat.mul_zero,Nat.not_lt_zero,decide_false,Bool.false_or]
 have:(2^d==0)=false:=by rw[beq_eq_false_iff_ne];omega
 rw[this];rfl
def nh(N:Nat):Nat:=(N.log2+1022)*2^52+N*2^(52-N.log2)
theorem yI{N:Nat}(h0:N≠0)(h:N<2^53):N.log2<=52:=by
 have:=(Nat.log2_lt h0).2 h
 omega
theorem AB{N:Nat}(h0:N≠0)(h:N<2^53):2^52<=N*2^(52-N.log2)/\N*2^(52-N.log2)<2^53:=by
 have hl:=yI h0 h
 obtain⟨h3,h4⟩:=(Nat.log2_eq_iff h0).1 rfl
 have e1:(2:Nat)^52=2^N.log2*2^(52-N.log2):=by rw[<-Nat.pow_add];congr 1;omega
 have e2:(2:Nat)^53=2^(N.log2+1)*2^(52-N.log2):=by rw[<-Nat.pow_add];congr 1;omega
 exact⟨by rw[e1];exact Nat.mul_le_mul_right _ h3,by rw[e2];exact Nat.mul_lt_mul_of_pos_right h4 (Nat.two_pow_pos _)⟩
theorem Aj(neg:Bool){N k:Nat}(h0:N≠0)(h:N<2^53)(hk:k<=1074):double.nearest neg (N*2^k) (-(k:Int))=double.word neg (nh N):=by
 have hl:=yI h0 h
 obtain⟨s1,s2⟩:=AB h0 h
 have hm:N*2^k≠0:=Nat.mul_ne_zero h0 (Nat.pos_iff_ne_zero.1 (Nat.two_pow_pos k))
 have hL:double.leastPlace = -1074:=by decide
 have hB:double.binade=2^52:=by decide
 have hI:double.infRung=2047*2^52:=by decide
 have hlast:max (-(k:Int)+(N*2^k).log2-double.fractionBits) double.leastPlace=(N.log2:Int)-52:=by
  rw[rJ h0,hL,show double.fractionBits=52 from rfl]
  omega
 have hkept:Toward.even.cut neg ((N*2^k) <<< (-(k:Int)-((N.log2:Int)-52)).toNat) (((N.log2:Int)-52) - -(k:Int)).toNat=N*2^(52-N.log2):=by
  rw[Nat.shiftLeft_eq]
  by_cases hc:k<=52-N.log2
  ·have e1:(-(k:Int)-((N.log2:Int)-52)).toNat=52-N.log2-k:=by omega
   have e2:(((N.log2:Int)-52) - -(k:Int)).toNat=0:=by omega
   rw[e1,e2,Nat.mul_assoc,<-Nat.pow_add,show k+(52-N.log2-k)=52-N.log2 by omega]
   have:=tj neg (N*2^(52-N.log2)) 0 (by omega)
   rwa [Nat.pow_zero,Nat.mul_one]at this
  ·have e1:(-(k:Int)-((N.log2:Int)-52)).toNat=0:=by omega
   obtain⟨d,hd⟩:∃d,k=(52-N.log2)+d:=⟨k-(52-N.log2),by omega⟩
   have e2:(((N.log2:Int)-52) - -(k:Int)).toNat=d:=by omega
   rw[e1,e2,Nat.pow_zero,Nat.mul_one,hd,Nat.pow_add,<-Nat.mul_assoc]
   refine tj neg _ d ?_
   rw[Nat.mul_assoc,<-Nat.pow_add,rJ h0]
   omega
 unfold Format.nearest
 rw[if_neg hm]
 dsimp only
 rw[hlast,hkept,hL,hB,hI]
 have e3:(((N.log2:Int)-52) - -1074).toNat=N.log2+1022:=by omega
 rw[e3,Nat.min_eq_left]
 ·rfl
 ·omega
theorem BW(neg:Bool)(k:Int):double.nearest neg 0 k=double.word neg 0:=rfl
theorem D6{n:Int}(h0:n≠0)(h:n.natAbs<2^53):fO n=double.word (decide (n<0)) (nh n.natAbs):=by
 have:=Aj (decide (n<0)) (N:=n.natAbs) (k:=0) (by omega) h (by omega)
 rw[Nat.pow_zero,Nat.mul_one]at this
 exact this
structure zM(d:Datum)(n:Int):Prop where
 ex:∃k:Nat,k<=1074/\d = .number (decide (n<0)) (n.natAbs*2^k) (-(k:Int))
theorem Cm(neg:Bool){r:Nat}(hr:r<2047*2^52)(hb:2^52<=r):double.read (double.word neg r) = .number neg (2^52+r%2^52) (-1074+(r/2^52-1:Nat)):=by
 have hL:double.leastPlace = -1074:=by decide
 have hB:double.binade=2^52:=by decide
 have hI:double.infRung=2047*2^52:=by decide
 have hS:double.signWeight=2^63:=by decide
 have hn:(double.word neg r/2^63%2==1)=neg:=by
  unfold Format.word
  rw[hS]
  cases neg
  ·simp only[Bool.false_eq_true,if_false]
   rw[Nat.div_eq_of_lt (by omega)];rfl
  ·simp only[if_true]
   rw[show(2^63+r)/2^63=1 by omega];rfl
 have hm:double.word neg r%2^63=r:=by
  unfold Format.word
  rw[hS]
  cases neg
  ·simp only[Bool.false_eq_true,if_false];omega
  ·simp only[if_true];omega
 unfold Format.read
 simp only[hS,hB,hI,hL,hn,hm]
 rw[if_neg (by omega),if_pos hr]
theorem Mw:fO 0=0:=by decide +kernel
theorem Lp:double.read 0 = .number false 0 (-1074):=by decide
theorem od{n:Int}(h:n.natAbs<2^53):zM (double.read (fO n)) n:=by
 by_cases h0:n=0
 ·subst h0
  obtain⟨k,hk⟩:∃k:Nat,k=1074:=⟨_,rfl⟩
  refine⟨k,by omega,?_⟩
  rw[Mw,Lp,show Int.natAbs 0=0 from rfl,Nat.zero_mul,show(k:Int)=1074 by omega];rfl
 ·have hN:n.natAbs≠0:=by omega
  have hl:=yI hN h
  obtain⟨s1,s2⟩:=AB hN h
  rw[D6 h0 h]
  have hr:nh n.natAbs<2047*2^52:=by unfold nh;omega
  have hb:2^52<=nh n.natAbs:=by unfold nh;omega
  rw[Cm _ hr hb]
  have e1:nh n.natAbs%2^52=n.natAbs*2^(52-n.natAbs.log2)-2^52:=by unfold nh;omega
  have e2:nh n.natAbs/2^52=n.natAbs.log2+1023:=by unfold nh;omega
  refine⟨52-n.natAbs.log2,by omega,?_⟩
  have e3:2^52+(n.natAbs*2^(52-n.natAbs.log2)-2^52)=n.natAbs*2^(52-n.natAbs.log2):=by omega
  have e4:(-1074+((n.natAbs.log2+1023-1:Nat):Int)) = -((52-n.natAbs.log2:Nat):Int):=by omega
  rw[e1,e2,e3,e4]
theorem mJ{n:Int}{k u:Nat}:signed (decide (n<0)) (n.natAbs*2^k) u=n*((2^(k+u):Nat):Int):=by
 unfold signed
 rw[Nat.shiftLeft_eq,Nat.mul_assoc,<-Nat.pow_add]
 by_cases h:n<0
 ·rw[if_pos (decide_eq_true h),Int.natCast_mul,show((n.natAbs:Nat):Int) = -n by omega,Int.neg_mul,Int.neg_neg]
 ·rw[if_neg (by rw[decide_eq_false h];decide),Int.natCast_mul,show((n.natAbs:Nat):Int)=n by omega]
theorem y4{s:Bool}{m u:Nat}:signed (!s) m u = -signed s m u:=by
 unfold signed
 cases s<;>simp
theorem writes{neg:Bool}{n:Int}{k:Nat}(hk:k<=1074)(h:n.natAbs<2^53)(hn:neg=decide (n<0)):double.write (.number neg (n.natAbs*2^k) (-(k:Int)))=fO n:=by
 subst hn
 by_cases h0:n=0
 ·subst h0
  show double.nearest _ (0*2^k) _=_
  rw[Nat.zero_mul,BW];decide
 ·rw[D6 h0 h]
  exact Aj _ (by omega) h hk
theorem tL{x y:Datum}{a b:Int}{ty:Bool}(hx:zM x a)(hy:∃k:Nat,k<=1074/\y = .number ty (b.natAbs*2^k) (-(k:Int)))(ht:∀m u,signed ty (b.natAbs*2^m) u=b*((2^(m+u):Nat):Int))(hz:a+b=0->(decide (a<0)&&ty)=false)(h:(a+b).natAbs<2^53):(x.sum y).map double.write=some (fO (a+b)):=by
 obtain⟨i,hi,rfl⟩:=hx.ex
 obtain⟨j,hj,rfl⟩:=hy
 obtain⟨m,hm⟩:∃m:Nat,min (-(i:Int)) (-(j:Int)) = -(m:Int):=⟨max i j,by omega⟩
 have hmi:i<=m:=by omega
 have hmj:j<=m:=by omega
 have hmm:m<=1074:=by omega
 show(some (Datum.number _ _ _)).map double.write=_
 simp only[hm,Option.map_some]
 rw[show(-(i:Int) - -(m:Int)).toNat=m-i by omega,show(-(j:Int) - -(m:Int)).toNat=m-j by omega,mJ,ht,show i+(m-i)=m by omega,show j+(m-j)=m by omega,<-Int.add_mul]
 have hp:(0:Int)<((2^m:Nat):Int):=by exact_mod_cast Nat.two_pow_pos m
 have e1:((a+b)*((2^m:Nat):Int)).natAbs=(a+b).natAbs*2^m:=by rw[Int.natAbs_mul];rfl
 rw[e1]
 congr 1
 refine writes hmm h ?_
 by_cases h0:a+b=0
 ·rw[if_pos (by rw[h0,Int.zero_mul]),hz h0,h0];rfl
 ·rw[if_neg (fun g=>by rcases Int.mul_eq_zero.1 g with g|g<;>omega)]
  congr 1
  refine propext ⟨fun g=>?_,fun g=>Int.mul_neg_of_neg_of_pos g hp⟩
  refine Classical.byContradiction fun g2=>?_
  have:=Int.mul_nonneg (show 0<=a+b by omega) (Int.le_of_lt hp)
  omega
theorem K5{a b:Int}(ha:a.natAbs<2^53)(hb:b.natAbs<2^53)(h:(a+b).natAbs<2^53):double.add (fO a) (fO b)=some (fO (a+b)):=
 tL (od ha) (od hb).ex (fun m u=>mJ) (fun h0=>by
  by_cases g:a<0
  ·rw[decide_eq_true g,decide_eq_false (by omega)];rfl
  ·rw[decide_eq_false g];rfl) h
theorem Lb{a b:Int}(ha:a.natAbs<2^53)(hb:b.natAbs<2^53)(h:(a-b).natAbs<2^53):double.sub (fO a) (fO b)=some (fO (a-b)):=by
 obtain⟨j,hj,e⟩:=(od hb).ex
 rw[show a-b=a + -b by omega]at h ⊢
 refine tL (ty := !decide (b<0)) (od ha) ⟨j,hj,by rw[e,Int.natAbs_neg];rfl⟩ (fun m u=>?_) (fun h0=>?_) h
 ·rw[y4,Int.natAbs_neg,mJ,Int.neg_mul]
 ·by_cases g:a<0
  ·rw[decide_eq_true g,decide_eq_true (show b<0 by omega)];rfl
  ·rw[decide_eq_false g];rfl
theorem Mz{a:Int}(ha:a.natAbs<2^53):(double.read (fO a)).toInt .zero=some a:=by
 obtain⟨k,hk,e⟩:=(od ha).ex
 rw[e]
 unfold Datum.toInt Datum.integral
 dsimp only
 have hp:0<2^k:=Nat.two_pow_pos k
 have e1:(-(k:Int)).toNat=0:=by omega
 have e2:(- -(k:Int)).toNat=k:=by omega
 rw[e1,e2,Nat.shiftLeft_zero]
 have hc:Toward.zero.cut (decide (a<0)) (a.natAbs*2^k) k=a.natAbs:=by
  by_cases h0:a=0
  ·subst h0
   unfold Toward.cut
   simp
  ·unfold Toward.cut
   rw[Nat.min_eq_left (by rw[rJ (by omega)];omega),Nat.one_shiftLeft]
   simp[Nat.mul_div_cancel _ hp]
 rw[hc]
 have:=mJ (n:=a) (k:=0) (u:=0)
 rw[Nat.pow_zero,Nat.mul_one]at this
 rw[this];simp
end Go.Xm
namespace Go.Xm
variable [aw]
variable {P:Program} {ops:Array Oper} {nt nI:Nat} {al:bc} {hs:ai} {o:Oper} {l:List Oper} {L:List aC} {K:List Ab->bc->ai->Prop} {d:Nat}
def Hs(x y:Int×Int):Int×Int:=(x.1+y.1,x.2+y.2)
def Hw(x y:Int×Int):Int×Int:=(x.1-y.1,x.2-y.2)
class Bd (n:outParam Int) (p:Int×Int):Prop where
 a : -n<=p.1/\p.1<=n
 b : -n<=p.2/\p.2<=n
instance Mh {n m:Int} {x y:Int×Int} [h1:Bd n x] [h2:Bd m y]:Bd (n+m) (Hs x y):=⟨by have:=h1.a;have:=h2.a;show -(n+m)<=x.1+y.1/\x.1+y.1<=n+m;omega,by have:=h1.b;have:=h2.b;show -(n+m)<=x.2+y.2/\x.2+y.2<=n+m;omega⟩
instance Mi {n m:Int} {x y:Int×Int} [h1:Bd n x] [h2:Bd m y]:Bd (n+m) (Hw x y):=⟨by have:=h1.a;have:=h2.a;show -(n+m)<=x.1-y.1/\x.1-y.1<=n+m;omega,by have:=h1.b;have:=h2.b;show -(n+m)<=x.2-y.2/\x.2-y.2<=n+m;omega⟩
theorem M9{t t':TypeId}{a b:Operand}{x y:Int×Int}{n m:Int}(hk:SK P ops nt L l ((d,.one (cI (Hs x y)))::al) hs fun bs=>K (quiet::bs))(ho:o.op = .binOp .add t a b t':=by exact rfl)(wn:Wn ops nt al o d:=by exact⟨rfl,rfl,rfl⟩)(ha:ag (rg al) a = .one (cI x):=by exact rfl)(hb:ag (rg al) b = .one (cI y):=by exact rfl)(h1:Bd n x:=by infer_instance)(h2:Bd m y:=by infer_instance)(h:n+m<=4503599627370496:=by omega):SK P ops nt L (o::l) al hs K:=by
 have b1:=h1.a;have b2:=h1.b;have b3:=h2.a;have b4:=h2.b
 refine gG wn.w wn.e wn.l ?_ hk
 rw[ho]
 simp only[ba,ha,hb,cI,qn,sn,if_true]
 rw[show FloatKind.f64.format=Ieee.double from rfl,K5 (by omega) (by omega) (by omega),K5 (by omega) (by omega) (by omega)]
 rfl
theorem Nb{t t':TypeId}{a b:Operand}{x y:Int×Int}{n m:Int}(hk:SK P ops nt L l ((d,.one (cI (Hw x y)))::al) hs fun bs=>K (quiet::bs))(ho:o.op = .binOp .sub t a b t':=by exact rfl)(wn:Wn ops nt al o d:=by exact⟨rfl,rfl,rfl⟩)(ha:ag (rg al) a = .one (cI x):=by exact rfl)(hb:ag (rg al) b = .one (cI y):=by exact rfl)(h1:Bd n x:=by infer_instance)(h2:Bd m y:=by infer_instance)(h:n+m<=4503599627370496:=by omega):SK P ops nt L (o::l) al hs K:=by
 have b1:=h1.a;have b2:=h1.b;have b3:=h2.a;have b4:=h2.b
 refine gG wn.w wn.e wn.l ?_ hk
 rw[ho]
 simp only[ba,ha,hb,cI,qn,sn,if_true]
 rw[show FloatKind.f64.format=Ieee.double from rfl,Lb (by omega) (by omega) (by omega),Lb (by omega) (by omega) (by omega)]
 rfl
theorem M_{s t:TypeId}{y:Operand}{u:TypeDesc}{x:Int}(hk:SK P ops nt L l ((d,.one (.int .i64 x))::al) hs fun bs=>K (quiet::bs))(ho:o.op = .convert s t y:=by exact rfl)(wn:Wn ops nt al o d:=by exact⟨rfl,rfl,rfl⟩)(hy:ag (rg al) y = .one (.flt .f64 (fO x)):=by exact rfl)(h1:aZ P s u:=by infer_instance)(h2:aZ P t (.int .i64):=by infer_instance)(hx : -4503599627370496<=x/\x<=4503599627370496:=by omega):SK P ops nt L (o::l) al hs K:=by
 refine gG wn.w wn.e wn.l ?_ hk
 rw[ho]
 simp only[ba,jn,hy,h1.out,h2.out]
 rw[show(FloatKind.f64.decode (fO x)).toInt .zero=some x from Mz (by omega)]
 simp only
 rw[if_pos ⟨Int.le_trans (by decide) hx.1,Int.le_trans hx.2 (by decide)⟩]
theorem Nj{t t':TypeId}{a b:Operand}{k k':IntKind}{x y:Int}(n:Nat)(hk:SK P ops nt L l ((d,.one (.int k (x/2^n)))::al) hs fun bs=>K (quiet::bs))(ho:o.op = .binOp .shr t a b t':=by exact rfl)(wn:Wn ops nt al o d:=by exact⟨rfl,rfl,rfl⟩)(ha:ag (rg al) a = .one (.int k x):=by exact rfl)(hb:ag (rg al) b = .one (.int k' y):=by exact rfl)(hn:y=(n:Nat):=by exact rfl)(hle:n<=k.bits:=by decide):SK P ops nt L (o::l) al hs K:=by
 refine iM ho wn.w wn.e wn.l ha hb ?_ hk
 have h0:¬y<0:=by omega
 simp only[bU,h0,if_false,rS]
 rw[Int.fdiv_eq_ediv_of_nonneg _ (Int.le_of_lt (Int.pow_pos (by omega))),show y.toNat=n by omega,Nat.min_eq_left hle]
def v8(f:Nat->Int×Int):List XC:=[cI (f 0),cI (f 1),cI (f 2),cI (f 3),cI (f 4),cI (f 5),cI (f 6),cI (f 7)]
end Go.Xm
namespace Go.Proofs.YtnkodcmkpfefhaaGreat
open Go.Xm
variable [aw]
abbrev Ln:List XC:=[.int .i64 0,.int .i64 4,.int .i64 6,.int .i64 2,.int .i64 3,.int .i64 7,.int .i64 5,.int .i64 1]
theorem EN:aW Tryz.prog 158 [] [] (.agg Ln) []:=by
 refine cO Tryz.func158 ?_
 repeat' (first|refine zz ?_|refine zx (fun _=>?_) (fun _=>?_)|fail)
 show aD _ _ _ _ _ _ _ _;refine kV [] ?_
 rfl
theorem An{HS:ai}(hb:Nat.blt HS.length Mem.bound=true):aC.Sound Tryz.prog ⟨158,[],HS,.agg Ln,HS,[]⟩:=
 au EN rfl rfl hb
def zd(k:Nat)(g:Nat->Int×Int)(i:Nat):Int×Int:=if i/2^k%2=0 then Hs (g i) (g (i+2^k))else Hw (g (i-2^k)) (g i)
def lvl(f:Nat->Int×Int):Nat->Nat->Int×Int
 | 0=>f
 | k+1=>zd k (lvl f k)
theorem EC{f:Nat->Int×Int}{N:Int}(hf:∀i,Bd N (f i)):∀k i,Bd (2^k*N) (lvl f k i)
 | 0,i=>by rw[Int.pow_zero,Int.one_mul];exact hf i
 | k+1,i=>by
   have ih:=EC hf k
   rw[Int.pow_succ,show(2:Int)^k*2*N=2^k*N+2^k*N by rw[Int.mul_right_comm];omega]
   show Bd _ (zd k (lvl f k) i)
   unfold zd
   split<;>infer_instance
theorem uD{f:Nat->Int×Int}{N:Int}(hf:∀i,Bd N (f i))(h0:0<=N){k:Nat}(hk:k<=3)(i:Nat):Bd (8*N) (lvl f k i):=by
 have h:=EC hf k i
 have h1:=h.a
 have h2:=h.b
 have:(2:Int)^k*N<=8*N:=Int.mul_le_mul_of_nonneg_right (by
  have:k=0\/k=1\/k=2\/k=3:=by omega
  rcases this with rfl|rfl|rfl|rfl<;>decide) h0
 exact⟨by omega,by omega⟩
def DA(f:Nat->Int×Int):Nat->Int×Int:=lvl f 3
def BY:Nat->Nat
 | 0=>0|1=>4|2=>6|3=>2|4=>3|5=>7|6=>5|7=>1|_=>8
instance ME (f:Nat->Int×Int) (e:TypeId) (a b:Bool):aR (.cells (v8 f) e a b):=fF rfl
theorem Br{f:Nat->Int×Int}{N:Int}(hf:∀i,Bd N (f i))(hN:0<=N/\N<=281474976710656):aW Tryz.prog 151 [.agg (v8 f)] [] (.agg (v8 fun i=>DA f (BY i))) []:=by
 refine cO Tryz.func151 ?_
 repeat' (first|refine zz ?_|refine zx (fun _=>?_) (fun _=>?_)|fail)
 refine WX.bZ (σ:=Nat) (fun k=>[(1,.one (.ptr 0 0)),(2,.one (.ptr 1 0)),(3,.one (.int .i64 (2^k)))]) (fun k=>[.cells (v8 (lvl f k)) 233 false false,.cells (List.replicate 8 (.cplx .f64 0 0)) 233 false false]) (fun k=>k<=3) (fun k=>3-k) 0 (by omega) (fun s _=>hX) (b_ [0,1]) ?_
 intro k hk ih
 obtain⟨g,hg⟩:∃g,lvl f k=g:=⟨_,rfl⟩
 have hb:∀i,Bd (8*N) (g i):=by rw[<-hg];exact uD hf hN.1 hk
 by_cases h3:k<3
 ·have hs:lvl f (k+1)=zd k g:=by rw[<-hg];rfl
  have hc:k=0\/k=1\/k=2:=by omega
  rw[hg]
  rcases hc with rfl|rfl|rfl
  all_goals
   repeat' (first
    |(refine qz ?_;first
     |refine M9 ?_
     |refine Nb ?_)
    |refine WX.loop ?_|refine WX.round (c := .seq (.region 5 _ _) _) ?_|refine zz ?_|refine zx (fun _=>?_) (fun _=>?_)|fail)
  ·refine ih 1 _ _ _ (b_ [0,1] (obj:=by(repeat' (first|exact ae.nil|refine ae.flat (by rw[hs];rfl) ?_|refine ae.flat rfl ?_|refine ae.cons rfl ?_|refine ae.dead rfl ?_|refine ae.cons (by simp only[ah.ax,List.map_cons,List.map_nil,XC.ax,aB];exact rfl) ?_));first|done|fail)) (by omega) (by omega)
  ·refine ih 2 _ _ _ (b_ [0,1] (obj:=by(repeat' (first|exact ae.nil|refine ae.flat (by rw[hs];rfl) ?_|refine ae.flat rfl ?_|refine ae.cons rfl ?_|refine ae.dead rfl ?_|refine ae.cons (by simp only[ah.ax,List.map_cons,List.map_nil,XC.ax,aB];exact rfl) ?_));first|done|fail)) (by omega) (by omega)
  ·refine ih 3 _ _ _ (b_ [0,1] (obj:=by(repeat' (first|exact ae.nil|refine ae.flat (by rw[hs];rfl) ?_|refine ae.flat rfl ?_|refine ae.cons rfl ?_|refine ae.dead rfl ?_|refine ae.cons (by simp only[ah.ax,List.map_cons,List.map_nil,XC.ax,aB];exact rfl) ?_));first|done|fail)) (by omega) (by omega)
 ·obtain rfl:k=3:=by omega
  repeat' (first
   |(refine qz ?_;first
    |refine cl ?_ (hi:=by exact An rfl)
    |refine BL ?_)
   |refine WX.loop ?_|refine WX.round (c := .seq (.region 13 _ _) _) ?_|refine zz ?_|refine zx (fun _=>?_) (fun _=>?_)|fail)
  show aD _ _ _ _ _ _ _ _;refine kV [] ?_
  rfl
theorem Ee(n:Int):aW Tryz.prog 163 [.one (.int .i64 n)] [] (.tup [.one (.int .i64 (n/2^1)),.one (.int .i64 (n%2^1))]) []:=by
 refine cO Tryz.func163 ?_
 repeat' (first
  |(refine qz ?_;first
   |refine Nj 1 ?_
   |refine an 1 ?_)
  |refine zz ?_|refine zx (fun _=>?_) (fun _=>?_)|fail)
 show aD _ _ _ _ _ _ _ _;refine kV [] ?_
 rfl
theorem jG{n x y:Int}(hx:n/2^1=x)(hy:n%2^1=y){HS:ai}(hb:Nat.blt HS.length Mem.bound=true):aC.Sound Tryz.prog ⟨163,[.one (.int .i64 n)],HS,.tup [.one (.int .i64 x),.one (.int .i64 y)],HS,[]⟩:=by
 subst hx hy
 exact au (Ee n) rfl rfl hb
theorem pJ{w h n i:Nat}{f:Nat->Int}{x y x' y' v v':Int}(h1:qx w h f x y=v)(h2:qx w h f x' y'=v'){HS:ai}:Compat ⟨66,[.agg (nU w h i n),.one (.int .i64 x),.one (.int .i64 y)],HS,.one (.int .u8 v),HS,[]⟩ ⟨66,[.agg (nU w h i n),.one (.int .i64 x'),.one (.int .i64 y')],HS,.one (.int .u8 v'),HS,[]⟩:=fun _ h _=>by
 simp only[List.cons.injEq,XV.one.injEq,XC.int.injEq,true_and,and_true]at h
 have e:v=v':=by rw[<-h1,<-h2,h.1,h.2]
 subst e
 exact⟨rfl,rfl,rfl⟩
def Jh(w h:Nat)(f:Nat->Int)(x2 y2:Int)(down:Bool):Int:=
 if x2%2=0/\y2%2=0 then qx w h f (x2/2) (y2/2)
 else if y2%2=0 then(qx w h f (x2/2) (y2/2)+qx w h f (x2/2+1) (y2/2)+1-(if down=true then 1 else 0))/2
 else if x2%2=0 then(qx w h f (x2/2) (y2/2)+qx w h f (x2/2) (y2/2+1)+1-(if down=true then 1 else 0))/2
 else(qx w h f (x2/2) (y2/2)+qx w h f (x2/2+1) (y2/2)+qx w h f (x2/2) (y2/2+1)+qx w h f (x2/2+1) (y2/2+1)+2-(if down=true then 1 else 0))/4
theorem Hg{w h:Nat}{f:Nat->Int}(hf:jy f)(x2 y2:Int)(down:Bool):0<=Jh w h f x2 y2 down/\Jh w h f x2 y2 down<=255:=by
 have h1:∀x y,0<=qx w h f x y/\qx w h f x y<=255:=fun x y=>hf _
 have a1:=h1 (x2/2) (y2/2)
 have a2:=h1 (x2/2+1) (y2/2)
 have a3:=h1 (x2/2) (y2/2+1)
 have a4:=h1 (x2/2+1) (y2/2+1)
 unfold Jh
 cases down<;>(repeat' split)<;>first|(simp only[Bool.false_eq_true,if_false,if_true]at *;omega)|omega
theorem Ji{w h n:Nat}(ho:nX w h n){f:Nat->Int}(hf:jy f){x2 y2:Int}(hx : -300000<=x2/\x2<=300000)(hy : -300000<=y2/\y2<=300000)(down:Bool):aW Tryz.prog 155 [.agg (nU w h 0 n),.one (.int .i64 x2),.one (.int .i64 y2),.one (.bool down)] [mV n f] (.one (.int .i64 (Jh w h f x2 y2 down))) [mV n f]:=by
 obtain⟨x,hx1⟩:∃x,x2/2^1=x:=⟨_,rfl⟩
 obtain⟨y,hy1⟩:∃y,y2/2^1=y:=⟨_,rfl⟩
 obtain⟨fx,hfx⟩:∃fx,x2%2^1=fx:=⟨_,rfl⟩
 obtain⟨fy,hfy⟩:∃fy,y2%2^1=fy:=⟨_,rfl⟩
 obtain⟨a,ha⟩:∃a,qx w h f x y=a:=⟨_,rfl⟩
 obtain⟨b,hb⟩:∃b,qx w h f (x+1) y=b:=⟨_,rfl⟩
 obtain⟨c,hc⟩:∃c,qx w h f x (y+1)=c:=⟨_,rfl⟩
 obtain⟨d,hd⟩:∃d,qx w h f (x+1) (y+1)=d:=⟨_,rfl⟩
 have a1:0<=a/\a<=255:=by rw[<-ha];exact hf _
 have b1:0<=b/\b<=255:=by rw[<-hb];exact hf _
 have c1:0<=c/\c<=255:=by rw[<-hc];exact hf _
 have d1:0<=d/\d<=255:=by rw[<-hd];exact hf _
 have e:Jh w h f x2 y2 down=if fx=0/\fy=0 then a else if fy=0 then(a+b+1-(if down=true then 1 else 0))/2 else if fx=0 then(a+c+1-(if down=true then 1 else 0))/2 else(a+b+c+d+2-(if down=true then 1 else 0))/4:=by
  rw[<-ha,<-hb,<-hc,<-hd,<-hx1,<-hy1,<-hfx,<-hfy];rfl
 rw[e]
 clear e
 cases down
 all_goals
  by_cases g1:fx=0
  ·by_cases g2:fy=0
   ·rw[if_pos ⟨g1,g2⟩]
    refine cO Tryz.func155 ?_
    repeat' (first
     |(refine qz ?_;first
      |refine cl ?_ (hi:=by exact jG hx1 hfx rfl)
      |refine cl ?_ (hi:=by exact jG hy1 hfy rfl)
      |refine cl ?_ (hi:=by exact h_ ho ha rfl rfl))
     |refine zz ?_|refine zx (fun _=>?_) (fun _=>?_)|fail)
    show aD _ _ _ _ _ _ _ _;refine kV [0] ?_
    rfl
   ·rw[if_neg (fun k=>g2 k.2),if_neg g2,if_pos g1]
    refine cO Tryz.func155 ?_
    repeat' (first
     |(refine qz ?_;first
      |refine cl ?_ (hi:=by exact jG hx1 hfx rfl)
      |refine cl ?_ (hi:=by exact jG hy1 hfy rfl)
      |refine cl ?_ (hi:=by exact h_ ho ha rfl rfl)
      |refine cl ?_ (hi:=by exact h_ ho hc rfl rfl))
     |refine zz ?_|refine zx (fun _=>?_) (fun _=>?_)|fail)
    show aD _ _ _ _ _ _ _ _;refine kV [0] ?_
    simp only[Bool.false_eq_true,if_false,if_true]
    first|rfl|(rw[Int.sub_zero];rfl)
  ·by_cases g2:fy=0
   ·rw[if_neg (fun k=>g1 k.1),if_pos g2]
    refine cO Tryz.func155 ?_
    repeat' (first
     |(refine qz ?_;first
      |refine cl ?_ (hi:=by exact jG hx1 hfx rfl)
      |refine cl ?_ (hi:=by exact jG hy1 hfy rfl)
      |refine cl ?_ (hi:=by exact h_ ho ha rfl rfl)
      |refine cl ?_ (hi:=by exact h_ ho hb rfl rfl))
     |refine zz ?_|refine zx (fun _=>?_) (fun _=>?_)|fail)
    show aD _ _ _ _ _ _ _ _;refine kV [0] ?_
    simp only[Bool.false_eq_true,if_false,if_true]
    first|rfl|(rw[Int.sub_zero];rfl)
   ·rw[if_neg (fun k=>g1 k.1),if_neg g2,if_neg g1]
    refine cO Tryz.func155 ?_
    repeat' (first
     |(refine qz ?_;first
      |refine cl ?_ (hi:=by exact jG hx1 hfx rfl)
      |refine cl ?_ (hi:=by exact jG hy1 hfy rfl)
      |refine cl ?_ (hi:=by exact h_ ho ha rfl rfl)
      |refine cl ?_ (hi:=by exact h_ ho hb rfl rfl)
      |refine cl ?_ (hi:=by exact h_ ho hc rfl rfl)
      |refine cl ?_ (hi:=by exact h_ ho hd rfl rfl))
     |refine zz ?_|refine zx (fun _=>?_) (fun _=>?_)|refine aS (by first|exact af.nil|exact af.one _|exact af.i3 (by repeat' (first|exact True.intro|refine And.intro ?_ ?_|exact Compat.ne rfl|exact pJ (by assumption) (by assumption)))) ⟨by kernel_rfl,?_⟩|refine aS (by first|exact af.nil|exact af.one _|exact af.i3 (by repeat' (first|exact True.intro|refine And.intro ?_ ?_|exact Compat.ne rfl|exact pJ (by assumption) (by assumption)))) ?_|fail)
    show aD _ _ _ _ _ _ _ _;refine kV [0] ?_
    simp only[Bool.false_eq_true,if_false,if_true]
    first|rfl|(rw[Int.sub_zero];rfl)
theorem Lg{w h n:Nat}(ho:nX w h n){f:Nat->Int}(hf:jy f){x2 y2:Int}(hx : -300000<=x2/\x2<=300000)(hy : -300000<=y2/\y2<=300000){down:Bool}{v:Int}(hv:Jh w h f x2 y2 down=v){HS:ai}{i:Nat}(hi:HS[i]? = some (mV n f))(hb:Nat.blt HS.length Mem.bound=true) :
 aC.Sound Tryz.prog ⟨155,[.agg (nU w h i n),.one (.int .i64 x2),.one (.int .i64 y2),.one (.bool down)],HS,.one (.int .i64 v),HS,[]⟩:=by
 subst hv
 exact eE [i] (Ji ho hf hx hy down) (by simp) (.flat hi .nil) (.flat .nil) (.cons (gZ (e:=0) (a:=true) (b:=true) (by show 0<1;omega)) (.flat (.flat (.flat .nil)))) (.cons rfl (.flat (.flat (.flat .nil)))) (by trivial) (bh.ax _) hb rfl
def Eg(w h:Nat)(f:Nat->Int)(x y dx dy:Int)(down:Bool)(i:Nat):Int:=Jh w h f (2*(x+(i%8:Nat))+dx) (2*(y+(i/8:Nat))+dy) down
theorem Ha{w h:Nat}{f:Nat->Int}(hf:jy f)(x y dx dy:Int)(down:Bool)(i:Nat):0<=Eg w h f x y dx dy down i/\Eg w h f x y dx dy down i<=255:=Hg hf _ _ _
theorem Jc{w h n:Nat}(ho:nX w h n){f:Nat->Int}(hf:jy f){x y dx dy:Int}(hx : -10000<=x/\x<=10000)(hy : -10000<=y/\y<=10000)(hdx : -1000<=dx/\dx<=1000)(hdy : -1000<=dy/\dy<=1000)(down:Bool):aW Tryz.prog 133 [.agg (nU w h 0 n),.one (.int .i64 x),.one (.int .i64 y),.one (.int .i64 dx),.one (.int .i64 dy),.one (.bool down)] [mV n f] (.agg (ti .i64 64 (Eg w h f x y dx dy down))) [mV n f]:=by
 refine cO Tryz.func133 ?_
 repeat' (first|refine zz ?_|refine zx (fun _=>?_) (fun _=>?_)|fail)
 refine WX.bZ (σ:=Nat) (fun j=>[(1,.one (.int .i64 x)),(2,.one (.int .i64 y)),(3,.one (.int .i64 dx)),(4,.one (.int .i64 dy)),(5,.one (.bool down)),(6,.one (.ptr 1 0)),(12,.one (.ptr 2 0)),(13,.one (.ptr 3 0)),(15,.one (.int .i64 (j:Nat)))]) (fun j=>[mV n f,.cells (nU w h 0 n) 42 false false,.cells (ti .i64 64 fun _=>0) 65 false false,.cells (ti .i64 64 (iz (Eg w h f x y dx dy down) (fun _=>0) j)) 65 false false]) (fun j=>j<=64) (fun j=>64-j) 0 (by omega) (fun s _=>(hX (objs:=by repeat' (first|exact ay.nil|refine ay.cons (gZ (by show 0<4;omega)) ?_|refine ay.flat ?_|refine ay.cons (by first|(simp[ah.bl,XC.ok,aE];done)|simp[ah.bl,XC.ok,aE, *]) ?_)))) (b_ [0,1,2,3] (obj:=by(repeat' (first|exact ae.nil|refine ae.flat (by rw[fI];rfl) ?_|refine ae.flat rfl ?_|refine ae.cons rfl ?_|refine ae.dead rfl ?_|refine ae.cons (by simp only[ah.ax,List.map_cons,List.map_nil,XC.ax,aB];exact rfl) ?_));first|done|fail)) ?_
 intro j hj ih
 by_cases h8:j<64
 ·have hn:=fH (Eg w h f x y dx dy down) (fun _=>0) j
  repeat' (first
   |(refine qz ?_;first
    |refine cl ?_ (hi:=by exact Lg ho hf (by omega) (by omega) (v:=Eg w h f x y dx dy down j) rfl rfl rfl))
   |refine zz ?_|refine zx (fun _=>?_) (fun _=>?_)|fail)
  refine ih (j+1) _ _ _ (b_ [0,1,2,3] (obj:=by(repeat' (first|exact ae.nil|refine ae.flat (by rw[<-hn];rfl) ?_|refine ae.flat rfl ?_|refine ae.cons rfl ?_|refine ae.dead rfl ?_|refine ae.cons (by simp only[ah.ax,List.map_cons,List.map_nil,XC.ax,aB];exact rfl) ?_));first|done|fail)) (by omega) (by omega)
 ·obtain rfl:j=64:=by omega
  repeat' (first|refine zz ?_|refine zx (fun _=>?_) (fun _=>?_)|fail)
  show aD _ _ _ _ _ _ _ _;refine kV [0] ?_
  rw[show ti .i64 64 (Eg w h f x y dx dy down)=ti .i64 64 (iz (Eg w h f x y dx dy down) (fun _=>0) 64)from bJ fun i hi=>by simp[iz,hi]];rfl
theorem Ld{w h n:Nat}(ho:nX w h n){f g:Nat->Int}(hf:jy f){x y dx dy:Int}(hx : -10000<=x/\x<=10000)(hy : -10000<=y/\y<=10000)(hdx : -1000<=dx/\dx<=1000)(hdy : -1000<=dy/\dy<=1000){down:Bool}(hg:Eg w h f x y dx dy down=g){HS:ai}{i:Nat}(hi:HS[i]? = some (mV n f))(hb:Nat.blt HS.length Mem.bound=true) :
 aC.Sound Tryz.prog ⟨133,[.agg (nU w h i n),.one (.int .i64 x),.one (.int .i64 y),.one (.int .i64 dx),.one (.int .i64 dy),.one (.bool down)],HS,.agg (ti .i64 64 g),HS,[]⟩:=by
 subst hg
 exact eE [i] (Jc ho hf hx hy hdx hdy down) (by simp) (.flat hi .nil) (.flat .nil) (.cons (gZ (e:=0) (a:=true) (b:=true) (by show 0<1;omega)) (.flat (.flat (.flat (.flat (.flat .nil)))))) (.cons rfl (.flat (.flat (.flat (.flat (.flat .nil)))))) (bh.ok _) (bh.ax _) hb rfl
def gO(n:Int):Int:=if n<0 then -((4-n)/8)else(n+4)/8
theorem EJ{n:Int}(hn : -100000<=n/\n<=100000):aW Tryz.prog 157 [.one (.int .i64 n)] [] (.one (.int .i64 (gO n))) []:=by
 refine cO Tryz.func157 ?_
 by_cases h:n<0
 ·rw[show gO n=0-(4-n)/8 by unfold gO;rw[if_pos h];omega]
  repeat' (first|refine zz ?_|refine zx (fun _=>?_) (fun _=>?_)|fail)
  show aD _ _ _ _ _ _ _ _;refine kV [] ?_
  rfl
 ·rw[show gO n=(n+4)/8 from if_neg h]
  repeat' (first|refine zz ?_|refine zx (fun _=>?_) (fun _=>?_)|fail)
  show aD _ _ _ _ _ _ _ _;refine kV [] ?_
  rfl
theorem Ai{n r:Int}(hn : -100000<=n/\n<=100000)(hr:gO n=r){HS:ai}(hb:Nat.blt HS.length Mem.bound=true):aC.Sound Tryz.prog ⟨157,[.one (.int .i64 n)],HS,.one (.int .i64 r),HS,[]⟩:=by
 subst hr
 exact au (EJ hn) rfl rfl hb
theorem II(v:Nat->Int×Int):(vt v).all XC.shut=true:=rfl
instance L2 (v:Nat->Int×Int):bh (.agg (vt v)):=ef (II v)
instance L0 (v:Nat->Int×Int) (e:TypeId) (a b:Bool):aR (.cells (vt v) e a b):=fF (II v)
def mX(v:Nat->Int×Int):Prop:=∀k,dk (v k).1/\dk (v k).2
def sd(v:Nat->Int×Int):Nat->Int
 | 0=>0
 | k+1=>sd v k+(v k).1
def se(v:Nat->Int×Int):Nat->Int
 | 0=>0
 | k+1=>se v k+(v k).2
theorem oG{v:Nat->Int×Int}(hv:mX v):∀k:Nat,-(32*(k:Int))<=sd v k/\sd v k<=32*k
 | 0=>by show -(32*((0:Nat):Int))<=0/\(0:Int)<=32*((0:Nat):Int);omega
 | k+1=>by
   have:=oG hv k
   have h:=(hv k).1
   unfold dk at h
   show -(32*((k+1:Nat):Int))<=sd v k+(v k).1/\sd v k+(v k).1<=32*((k+1:Nat):Int)
   omega
theorem oH{v:Nat->Int×Int}(hv:mX v):∀k:Nat,-(32*(k:Int))<=se v k/\se v k<=32*k
 | 0=>by show -(32*((0:Nat):Int))<=0/\(0:Int)<=32*((0:Nat):Int);omega
 | k+1=>by
   have:=oH hv k
   have h:=(hv k).2
   unfold dk at h
   show -(32*((k+1:Nat):Int))<=se v k+(v k).2/\se v k+(v k).2<=32*((k+1:Nat):Int)
   omega
theorem yR{v:Nat->Int×Int}(hv:mX v):aW Tryz.prog 156 [.agg (vt v)] [] (.tup [.one (.int .i64 (sd v 4)),.one (.int .i64 (se v 4))]) []:=by
 refine cO Tryz.func156 ?_
 repeat' (first|refine zz ?_|refine zx (fun _=>?_) (fun _=>?_)|fail)
 refine WX.bZ (σ:=Nat) (fun j=>[(8,.agg (vt v)),(2,.one (.int .i64 (sd v j))),(3,.one (.int .i64 (se v j))),(9,.one (.int .i64 (j:Nat)))]) (fun _=>[.cells (vt v) 63 false false]) (fun j=>j<=4) (fun j=>4-j) 0 (by omega) (fun s _=>hX) (b_ [0]) ?_
 intro j hj ih
 by_cases h4:j<4
 ·have hx:=oG hv j
  have hy:=oH hv j
  have ht:=hv j
  have h1 : -32<=(v j).1/\(v j).1<=32:=ht.1
  have h2 : -32<=(v j).2/\(v j).2<=32:=ht.2
  have hg:=Ka v h4
  repeat' (first
   |(refine qz ?_;first
    |refine BL ?_ (hc:=hg)
    |refine cl ?_ (hi:=by exact fJ ht rfl))
   |refine zz ?_|refine zx (fun _=>?_) (fun _=>?_)|fail)
  refine ih (j+1) _ _ _ (b_ [0]) (by omega) (by omega)
 ·obtain rfl:j=4:=by omega
  repeat' (first|refine zz ?_|refine zx (fun _=>?_) (fun _=>?_)|fail)
  show aD _ _ _ _ _ _ _ _;refine kV [] ?_
  rfl
theorem B1{v:Nat->Int×Int}(hv:mX v){x y:Int}(hx:sd v 4=x)(hy:se v 4=y){HS:ai}(hb:Nat.blt HS.length Mem.bound=true):aC.Sound Tryz.prog ⟨156,[.agg (vt v)],HS,.tup [.one (.int .i64 x),.one (.int .i64 y)],HS,[]⟩:=by
 subst hx hy
 exact au (yR hv) rfl rfl hb
def vN(v:Nat->Int×Int):Int×Int:=(gO (sd v 4),gO (se v 4))
theorem tC{n:Int}(h : -128<=n/\n<=128) : -16<=gO n/\gO n<=16:=by unfold gO;split<;>omega
theorem tg{v:Nat->Int×Int}(hv:mX v):dk (vN v).1/\dk (vN v).2:=by
 have h1:=tC (n:=sd v 4) (by have:=oG hv 4;omega)
 have h2:=tC (n:=se v 4) (by have:=oH hv 4;omega)
 exact⟨⟨by show -32<=gO _;omega,by show gO _<=32;omega⟩,⟨by show -32<=gO _;omega,by show gO _<=32;omega⟩⟩
theorem jC{n n' r r':Int}(h1:gO n=r)(h2:gO n'=r'){HS:ai}:Compat ⟨157,[.one (.int .i64 n)],HS,.one (.int .i64 r),HS,[]⟩ ⟨157,[.one (.int .i64 n')],HS,.one (.int .i64 r'),HS,[]⟩:=fun _ h _=>by
 simp only[List.cons.injEq,XV.one.injEq,XC.int.injEq,true_and,and_true]at h
 have e:r=r':=by rw[<-h1,<-h2,h]
 subst e
 exact⟨rfl,rfl,rfl⟩
theorem ye{v:Nat->Int×Int}(hv:mX v):aW Tryz.prog 134 [.agg (vt v)] [] (.one (cI (vN v))) []:=by
 obtain⟨x,hx⟩:∃x,sd v 4=x:=⟨_,rfl⟩
 obtain⟨y,hy⟩:∃y,se v 4=y:=⟨_,rfl⟩
 obtain⟨a,ha⟩:∃a,gO x=a:=⟨_,rfl⟩
 obtain⟨b,hb⟩:∃b,gO y=b:=⟨_,rfl⟩
 have h1:=oG hv 4
 have h2:=oH hv 4
 rw[hx]at h1
 rw[hy]at h2
 rw[show vN v=(a,b) by unfold vN;rw[hx,hy,ha,hb]]
 refine cO Tryz.func134 ?_
 repeat' (first
  |(refine qz ?_;first
   |refine cl ?_ (hi:=by exact B1 hv hx hy rfl)
   |refine cl ?_ (hi:=by exact Ai (by omega) ha rfl)
   |refine cl ?_ (hi:=by exact Ai (by omega) hb rfl)
   |refine cl ?_ (hi:=by exact wL rfl))
  |refine zz ?_|refine zx (fun _=>?_) (fun _=>?_)|refine aS (by first|exact af.nil|exact af.one _|exact af.i3 (by repeat' (first|exact True.intro|refine And.intro ?_ ?_|exact Compat.ne rfl|exact jC ha hb|exact jC hb ha))) ⟨by kernel_rfl,?_⟩|refine aS (by first|exact af.nil|exact af.one _|exact af.i3 (by repeat' (first|exact True.intro|refine And.intro ?_ ?_|exact Compat.ne rfl|exact jC ha hb|exact jC hb ha))) ?_|fail)
 show aD _ _ _ _ _ _ _ _;refine kV [] ?_
 rfl
theorem Bm{v:Nat->Int×Int}(hv:mX v){p:Int×Int}(hp:vN v=p){HS:ai}(hb:Nat.blt HS.length Mem.bound=true):aC.Sound Tryz.prog ⟨134,[.agg (vt v)],HS,.one (cI p),HS,[]⟩:=by
 subst hp
 exact au (ye hv) rfl rfl hb
structure Fr where
 y:Nat->Int
 u:Nat->Int
 v:Nat->Int
def Fr.pl(F:Fr)(k:Nat):Nat->Int:=if k<4 then F.y else if k=4 then F.u else F.v
structure oV(F:Fr):Prop where
 y:jy F.y
 u:jy F.u
 v:jy F.v
theorem oV.pl{F:Fr}(h:oV F)(k:Nat):jy (F.pl k):=by
 unfold Fr.pl
 split
 ·exact h.y
 ·split
  ·exact h.u
  ·exact h.v
abbrev nY(C R:Nat):Nat:=16*C*(16*R)
abbrev nC(C R:Nat):Nat:=8*C*(8*R)
abbrev yO(C R:Nat)(F:Fr):ah:=mV (nY C R) F.y
abbrev uO(C R:Nat)(F:Fr):ah:=mV (nC C R) F.u
abbrev vO(C R:Nat)(F:Fr):ah:=mV (nC C R) F.v
theorem Hu{C R:Nat}(hC:1<=C/\C<=8)(hR:1<=R/\R<=8)(k:Nat):nX (qh k*C) (qh k*R) (qh k*C*(qh k*R)):=by
 unfold qh
 split<;>exact⟨by omega,by omega,rfl⟩
theorem uv{C:Nat}(hC:1<=C/\C<=8){mb k:Nat}(hm:mb<=100):0<=Db C mb k/\Db C mb k<=2000/\0<=Dc C mb k/\Dc C mb k<=2000:=by
 have h1:mb%C<8:=Nat.lt_of_lt_of_le (Nat.mod_lt _ (by omega)) hC.2
 have h2:mb/C<=100:=Nat.le_trans (Nat.div_le_self ..) hm
 obtain⟨a,ha⟩:∃a,mb%C=a:=⟨_,rfl⟩
 obtain⟨b,hb⟩:∃b,mb/C=b:=⟨_,rfl⟩
 rw[ha]at h1
 rw[hb]at h2
 unfold Db Dc
 rw[ha,hb]
 by_cases hk:k<4
 ·rw[if_pos hk,if_pos hk];omega
 ·rw[if_neg hk,if_neg hk];omega
def H3(v:Nat->Int×Int)(k:Nat):Int×Int:=if k<4 then v k else vN v
def B4(C R:Nat)(F:Fr)(mb:Nat)(v:Nat->Int×Int)(down:Bool)(k:Nat):Nat->Int:=Eg (qh k*C) (qh k*R) (F.pl k) (Db C mb k) (Dc C mb k) (H3 v k).1 (H3 v k).2 down
def E3(C R:Nat)(F:Fr)(mb:Nat)(v:Nat->Int×Int)(down:Bool)(n:Nat):Int:=B4 C R F mb v down (n/64) (n%64)
def kb(g:Nat->Nat->Int)(z:Nat->Int)(k n:Nat):Int:=if n/64<k then g (n/64) (n%64)else z n
theorem td(g:Nat->Nat->Int)(z:Nat->Int):kb g z 0=z:=by funext n;simp[kb]
theorem Bb(kk:IntKind)(g:Nat->Nat->Int)(z:Nat->Int){k off:Nat}(hk:k<6)(ho:off=64*k):(ti kk 384 (kb g z k)).take off++ti kk 64 (g k)++(ti kk 384 (kb g z k)).drop (off+64)=ti kk 384 (kb g z (k+1)):=by
 subst ho
 rw[FH _ _ (by omega)]
 refine bJ fun i hi=>?_
 unfold kb
 by_cases h:64*k<=i/\i<64*k+64
 ·rw[if_pos h,if_pos (by omega),show i/64=k by omega,show i-64*k=i%64 by omega]
 ·rw[if_neg h]
  by_cases h2:i/64<k
  ·rw[if_pos h2,if_pos (by omega)]
  ·rw[if_neg h2,if_neg (by omega)]
theorem wV{C R:Nat}(hC:1<=C/\C<=8)(hR:1<=R/\R<=8){F:Fr}(hF:oV F){mb:Nat}(hm:mb<=100){v:Nat->Int×Int}(hv:mX v)(down:Bool):aW Tryz.prog 105 [.agg (dQ C R 0 1 2),.one (.int .i64 (mb:Nat)),.agg (vt v),.one (.bool down)] [yO C R F,uO C R F,vO C R F] (.agg (ti .i64 384 (E3 C R F mb v down))) [yO C R F,uO C R F,vO C R F]:=by
 obtain⟨p,hp⟩:∃p,vN v=p:=⟨_,rfl⟩
 have hpt:dk p.1/\dk p.2:=by rw[<-hp];exact tg hv
 refine cO Tryz.func105 ?_
 repeat' (first|refine zz ?_|refine zx (fun _=>?_) (fun _=>?_)|fail)
 refine WX.bZ (σ:=Nat) (fun k=>[(1,.one (.int .i64 (mb:Nat))),(3,.one (.bool down)),(4,.one (.ptr 3 0)),(6,.one (.ptr 4 0)),(8,.one (.ptr 5 0)),(9,.one (.ptr 6 0)),(17,.one (.int .i64 (k:Nat)))]) (fun k=>[yO C R F,uO C R F,vO C R F,.cells (dQ C R 0 1 2) 44 false false,.cells (vt v) 64 false false,.cells (ti .i64 384 fun _=>0) 66 false false,.cells (ti .i64 384 (kb (B4 C R F mb v down) (fun _=>0) k)) 66 false false]) (fun k=>k<=6) (fun k=>6-k) 0 (by omega) (fun s _=>(hX (objs:=by repeat' (first|exact ay.nil|refine ay.cons (bI (by show 0<7;omega) (by show 1<7;omega) (by show 2<7;omega)) ?_|refine ay.flat ?_|refine ay.cons (by first|(simp[ah.bl,XC.ok,aE];done)|simp[ah.bl,XC.ok,aE, *]) ?_)))) (b_ [0,1,2,3,4,5,6] (obj:=by(repeat' (first|exact ae.nil|refine ae.flat (by rw[td];rfl) ?_|refine ae.flat rfl ?_|refine ae.cons rfl ?_|refine ae.dead rfl ?_|refine ae.cons (by simp only[ah.ax,List.map_cons,List.map_nil,XC.ax,aB];exact rfl) ?_));first|done|fail)) ?_
 intro k hk ih
 by_cases h6:k<6
 ·have ih1:=ih (k+1)
  have hn:=Bb .i64 (B4 C R F mb v down) (fun _=>0) h6 rfl
  have hf:=uv hC (mb:=mb) (k:=k) hm
  obtain⟨px,hpx⟩:∃px,Db C mb k=px:=⟨_,rfl⟩
  obtain⟨py,hpy⟩:∃py,Dc C mb k=py:=⟨_,rfl⟩
  rw[hpx,hpy]at hf
  obtain⟨w,hw⟩:∃w,H3 v k=w:=⟨_,rfl⟩
  have hwt:dk w.1/\dk w.2:=by
   rw[<-hw];unfold H3
   split
   ·exact hv k
   ·exact tg hv
  have hw1 : -32<=w.1/\w.1<=32:=hwt.1
  have hw2 : -32<=w.2/\w.2<=32:=hwt.2
  have hpb:Eg (qh k*C) (qh k*R) (F.pl k) px py w.1 w.2 down=B4 C R F mb v down k:=by unfold B4;rw[hpx,hpy,hw]
  have hc:k=0\/k=1\/k=2\/k=3\/k=4\/k=5:=by omega
  rcases hc with rfl|rfl|rfl|rfl|rfl|rfl
  all_goals
   first
    | (obtain rfl:v _=w:=hw)
    | (obtain rfl:p=w:=hp.symm.trans hw)
   repeat' (first
    |(refine qz ?_;first
     |refine cl ?_ (hi:=by exact Bm hv hp rfl)
     |refine cl ?_ (hi:=by exact fJ hwt rfl)
     |refine cl ?_ (hi:=by exact qA hC (by omega) (by omega) hpx hpy rfl rfl rfl (by decide) rfl)
     |refine cl ?_ (hi:=by exact Ld (Hu hC hR _) (hF.pl _) (by omega) (by omega) (by omega) (by omega) hpb rfl rfl)
     |refine MS ?_ (by rw[aL];decide) hn)
    |refine zz ?_|refine zx (fun _=>?_) (fun _=>?_)|fail)
   refine ih1 _ _ _ (b_ [0,1,2,3,4,5,6]) (by omega) (by omega)
 ·obtain rfl:k=6:=by omega
  repeat' (first|refine zz ?_|refine zx (fun _=>?_) (fun _=>?_)|fail)
  show aD _ _ _ _ _ _ _ _;refine kV [0,1,2] ?_
  rw[show ti .i64 384 (E3 C R F mb v down)=ti .i64 384 (kb (B4 C R F mb v down) (fun _=>0) 6)from bJ fun i hi=>by unfold kb;rw[if_pos (by omega)];rfl];rfl
theorem yV{C R:Nat}(hC:1<=C/\C<=8)(hR:1<=R/\R<=8){F:Fr}(hF:oV F){mb:Nat}(hm:mb<=100){v:Nat->Int×Int}(hv:mX v){down:Bool}{g:Nat->Int}(hg:E3 C R F mb v down=g){HS:ai}{a b c:Nat}(ha:HS[a]? = some (yO C R F))(hb:HS[b]? = some (uO C R F))(hc:HS[c]? = some (vO C R F))(nd : [a,b,c].Nodup)(hbd:Nat.blt HS.length Mem.bound=true) :
 aC.Sound Tryz.prog ⟨105,[.agg (dQ C R a b c),.one (.int .i64 (mb:Nat)),.agg (vt v),.one (.bool down)],HS,.agg (ti .i64 384 g),HS,[]⟩:=by
 subst hg
 exact eE [a,b,c] (wV hC hR hF hm hv down) nd (.flat ha (.flat hb (.flat hc .nil))) (.flat (.flat (.flat .nil))) (.cons (bI (e:=0) (a:=true) (b:=true) (by show 0<3;omega) (by show 1<3;omega) (by show 2<3;omega)) (.flat (.flat (.flat .nil)))) (.cons rfl (.flat (.flat (.flat .nil)))) (bh.ok _) (bh.ax _) hbd rfl
theorem z8{C R:Nat}{F:Fr}{HS:ai}{a b c k:Nat}(hk:k<6)(ha:HS[a]? = some (yO C R F))(hb:HS[b]? = some (uO C R F))(hc:HS[c]? = some (vO C R F)):HS[Mx a b c k]? = some (mV (qh k*C*(qh k*R)) (F.pl k)):=by
 have h:k=0\/k=1\/k=2\/k=3\/k=4\/k=5:=by omega
 rcases h with rfl|rfl|rfl|rfl|rfl|rfl
 ·exact ha
 ·exact ha
 ·exact ha
 ·exact ha
 ·exact hb
 ·exact hc
end Go.Proofs.YtnkodcmkpfefhaaGreat
