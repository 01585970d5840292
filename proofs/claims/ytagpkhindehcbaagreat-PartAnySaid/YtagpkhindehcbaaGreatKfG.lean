/-
  A part of the proof: Flt.
-/
import Derived.Test.YtagpkhindehcbaaGreatKfF
set_option maxRecDepth 10000
set_option maxHeartbeats 8000000
set_option linter.unusedVariables false
set_option linter.unusedSectionVars false
set_option linter.unusedSimpArgs false
namespace Go.Xm
variable [ax]
variable {P:Program} {ops:Array Oper} {nt nI:Nat} {al:bl} {hs:aj} {o:Oper} {l:List Oper} {L:List aG} {K:List Ab->bl->aj->Prop} {d:Nat}
def fO(n:Int):Nat:=FloatKind.nearest .f64 n
def cD(p:Int×Int):XC := .cplx .f64 (fO p.1) (fO p.2)
def fV(n:Int):Prop := -32<=n/\n<=32
def Ow:List (Int×Nat):=(List.range 65).map fun(i:Nat)=>((i:Int)-32,fO ((i:Int)-32))
def Rk(l:List (Int×Nat)):Bool:=l.all fun p=>l.all fun q=>FloatKind.f64.format.order p.2 q.2==some (compare p.1 q.1)
set_option maxRecDepth 100000 in
theorem LW:Rk Ow=true:=by decide +kernel
theorem BV{n:Int}(h:fV n):(n,fO n)∈Ow:=by
 unfold Ow
 refine List.mem_map.2 ⟨(n+32).toNat,List.mem_range.2 (by have:=h.1;have:=h.2;omega),?_⟩
 have e:(((n+32).toNat:Nat):Int)-32=n:=by have:=h.1;omega
 rw[e]
theorem Iw{x y:Int}(hx:fV x)(hy:fV y):FloatKind.f64.format.order (fO x) (fO y)=some (compare x y):=by
 have h:=LW
 have h1:=List.all_eq_true.1 h _ (BV hx)
 have h2:=List.all_eq_true.1 h1 _ (BV hy)
 simpa using h2
theorem xE{x y:Int}(hx:fV x)(hy:fV y):(FloatKind.f64.format.order (fO x) (fO y)==some .eq)=decide (x=y):=by
 rw[Iw hx hy]
 by_cases h:x=y
 ·subst h
  have:compare x x = .eq:=by simp
  rw[this];simp
 ·have:compare x y ≠ .eq:=by simpa [Int.compare_eq_eq]using h
  simp only[h,decide_false]
  cases hc:compare x y<;>first|(exact absurd hc this)|rfl
theorem LR:fO 0=0:=by decide +kernel
theorem dX:cD (0,0) = .cplx .f64 0 0:=by unfold cD;rw[LR]
theorem SI{a:Operand}{ts:Array TypeId}{k:FloatKind}{p q:Nat}(hk:SK P ops nt L l ((d,.one (.flt k p))::al) hs fun bs=>K (quiet::bs))(ho:o.op = .call ⟨.builtin .real,#[a],ts⟩:=by exact rfl)(hw:av ops (rg al) o=some true:=by exact rfl)(hd:o.dst=some d:=by exact rfl)(hlt:Nat.blt d nt=true:=by exact rfl)
 (ha:ai (rg al) a = .one (.cplx k p q):=by exact rfl):SK P ops nt L (o::l) al hs K:=l5 hw hd hlt (by rw[ho];simp[bj,fB,ha]) hk
theorem Sb{a:Operand}{ts:Array TypeId}{k:FloatKind}{p q:Nat}(hk:SK P ops nt L l ((d,.one (.flt k q))::al) hs fun bs=>K (quiet::bs))(ho:o.op = .call ⟨.builtin .imag,#[a],ts⟩:=by exact rfl)(hw:av ops (rg al) o=some true:=by exact rfl)(hd:o.dst=some d:=by exact rfl)(hlt:Nat.blt d nt=true:=by exact rfl)
 (ha:ai (rg al) a = .one (.cplx k p q):=by exact rfl):SK P ops nt L (o::l) al hs K:=l5 hw hd hlt (by rw[ho];simp[bj,fB,ha]) hk
theorem R9{a b:Operand}{ts:Array TypeId}{k:FloatKind}{p q:Nat}(hk:SK P ops nt L l ((d,.one (.cplx k p q))::al) hs fun bs=>K (quiet::bs))(ho:o.op = .call ⟨.builtin .complex,#[a,b],ts⟩:=by exact rfl)(hw:av ops (rg al) o=some true:=by exact rfl)(hd:o.dst=some d:=by exact rfl)(hlt:Nat.blt d nt=true:=by exact rfl)
 (ha:ai (rg al) a = .one (.flt k p):=by exact rfl) (hb:ai (rg al) b = .one (.flt k q):=by exact rfl):SK P ops nt L (o::l) al hs K:=l5 hw hd hlt (by rw[ho];simp[bj,fB,ha,hb]) hk
theorem R8{s t:TypeId}{y:Operand}{u:TypeDesc}{k:IntKind}{x:Int}(hk:SK P ops nt L l ((d,.one (.flt .f64 (fO x)))::al) hs fun bs=>K (quiet::bs))(ho:o.op = .convert s t y:=by exact rfl)(hw:av ops (rg al) o=some true:=by exact rfl)(hd:o.dst=some d:=by exact rfl)(hlt:Nat.blt d nt=true:=by exact rfl)
 (hy:ai (rg al) y = .one (.int k x):=by exact rfl) (h1:aW P s u:=by infer_instance) (h2:aW P t (.float .f64):=by infer_instance):SK P ops nt L (o::l) al hs K:=l5 hw hd hlt (by rw[ho];simp only[bj,lJ,hy,h1.out,h2.out];rfl) hk
theorem Rj{t t':TypeId}{a b:Operand}{x y:Int×Int}(h1:x=y->SK P ops nt L l ((d,.one (.bool true))::al) hs fun bs=>K (quiet::bs))(h2:x≠y->SK P ops nt L l ((d,.one (.bool false))::al) hs fun bs=>K (quiet::bs))(hx:fV x.1/\fV x.2)(hy:fV y.1/\fV y.2)(ho:o.op = .binOp .eql t a b t':=by exact rfl)(hw:av ops (rg al) o=some true:=by exact rfl)(hd:o.dst=some d:=by exact rfl)(hlt:Nat.blt d nt=true:=by exact rfl)
 (ha:ai (rg al) a = .one (cD x):=by exact rfl) (hb:ai (rg al) b = .one (cD y):=by exact rfl):SK P ops nt L (o::l) al hs K:=by
 obtain⟨x1,x2⟩:=x
 obtain⟨y1,y2⟩:=y
 have key:bj P (ai (rg al)) o.op=some (.one (.bool (decide (x1=y1)&&decide (x2=y2)))):=by
  rw[ho]
  simp only[bj,ha,hb,cD,tV,B6,if_true,xE hx.1 hy.1,xE hx.2 hy.2,Option.map_some]
 refine l5 hw hd hlt key ?_
 by_cases h:x1=y1/\x2=y2
 ·simp only[h.1,h.2,decide_true,Bool.and_self]
  exact h1 (by rw[h.1,h.2])
 ·have:(decide (x1=y1)&&decide (x2=y2))=false:=by
   simp only[Bool.and_eq_false_iff,decide_eq_false_iff_not]
   rcases Classical.em (x1=y1)with h3|h3
   ·exact .inr fun h4=>h ⟨h3,h4⟩
   ·exact .inl h3
  rw[this]
  exact h2 fun e=>h (by cases e;exact⟨rfl,rfl⟩)
theorem Hw{t t':TypeId}{a b:Operand}{x y:Int×Int}(h1:x≠y->SK P ops nt L l ((d,.one (.bool true))::al) hs fun bs=>K (quiet::bs))(h2:x=y->SK P ops nt L l ((d,.one (.bool false))::al) hs fun bs=>K (quiet::bs))(hx:fV x.1/\fV x.2)(hy:fV y.1/\fV y.2){cb:XC}(hcb:cb=cD y)(ho:o.op = .binOp .neq t a b t':=by exact rfl)(hw:av ops (rg al) o=some true:=by exact rfl)(hd:o.dst=some d:=by exact rfl)(hlt:Nat.blt d nt=true:=by exact rfl)
 (ha:ai (rg al) a = .one (cD x):=by exact rfl) (hb:ai (rg al) b = .one cb:=by exact rfl):SK P ops nt L (o::l) al hs K:=by
 obtain⟨x1,x2⟩:=x
 obtain⟨y1,y2⟩:=y
 subst hcb
 have key:bj P (ai (rg al)) o.op=some (.one (.bool (!(decide (x1=y1)&&decide (x2=y2))))):=by
  rw[ho]
  simp only[bj,ha,hb,cD,tV,B6,if_true,xE hx.1 hy.1,xE hx.2 hy.2,Option.map_some]
 refine l5 hw hd hlt key ?_
 by_cases h:x1=y1/\x2=y2
 ·simp only[h.1,h.2,decide_true,Bool.and_self,Bool.not_true]
  exact h2 (by rw[h.1,h.2])
 ·have:(decide (x1=y1)&&decide (x2=y2))=false:=by
   simp only[Bool.and_eq_false_iff,decide_eq_false_iff_not]
   rcases Classical.em (x1=y1)with h3|h3
   ·exact .inr fun h4=>h ⟨h3,h4⟩
   ·exact .inl h3
  rw[this,Bool.not_false]
  exact h1 fun e=>h (by cases e;exact⟨rfl,rfl⟩)
end Go.Xm
namespace Go.Proofs.YtagpkhindehcbaaGreat
open Go.Xm
theorem mixed:Tryz.prog.follows .mixedOrders=true:=by kernel_rfl
def pf(i:Nat):yO:=⟨105,[.one (.flt .f64 (fO ((i:Int)-32)))],.one (.int .i64 ((i:Int)-32))⟩
noncomputable def Ia:Bool:=(List.range 65).all fun i=>decide (((qB xT Tryz.prog 1000 10).call (pf i).f (pf i).args Mem.empty).map (·.1)=some (pf i).v)
theorem AF:Ia=true:=by kernel_rfl
variable [ax]
theorem Hj(n:Int)(h:fV n):bh Tryz.prog 105 [.one (.flt .f64 (fO n))] [] (.one (.int .i64 n)) []:=by
 have e:(((n+32).toNat:Nat):Int)-32=n:=by have:=h.1;omega
 have h1:=List.all_eq_true.1 AF (n+32).toNat (List.mem_range.2 (by have:=h.1;have:=h.2;omega))
 have h2:=of_decide_eq_true h1
 have:=nC (nJ (r:=pf (n+32).toNat) (Q7 (j_ _) mixed h2 rfl))
 unfold pf at this
 rw[e]at this
 exact this
theorem B0{n:Int}(h:fV n){HS:aj}(hb:Nat.blt HS.length Mem.bound=true):aG.Sound Tryz.prog ⟨105,[.one (.flt .f64 (fO n))],HS,.one (.int .i64 n),HS,[]⟩:=
 aA (Hj n h) rfl rfl hb
theorem ry{a b:Int}(ha:fV a)(hb:fV b){HS:aj}:Compat ⟨105,[.one (.flt .f64 (fO a))],HS,.one (.int .i64 a),HS,[]⟩ ⟨105,[.one (.flt .f64 (fO b))],HS,.one (.int .i64 b),HS,[]⟩:=fun _ h _=>by
 simp only[List.cons.injEq,XV.one.injEq,XC.flt.injEq,true_and,and_true]at h
 have h1:=xE ha ha
 have h2:=xE ha hb
 rw[<-h,h1]at h2
 have:a=b:=by simpa using h2
 subst this
 exact⟨rfl,rfl,rfl⟩
theorem Gb(p:Int×Int)(h:fV p.1/\fV p.2):bh Tryz.prog 81 [.one (cD p)] [] (.tup [.one (.int .i64 p.1),.one (.int .i64 p.2)]) []:=by
 refine cO Tryz.func81 ?_
 repeat' (first
  |(refine qz ?_;first
   |refine SI ?_
   |refine Sb ?_
   |refine cl ?_ (hi:=by exact B0 h.1 rfl)
   |refine cl ?_ (hi:=by exact B0 h.2 rfl))
  |refine zz ?_|refine zx (fun _=>?_) (fun _=>?_)|refine bp (by first|exact af.nil|exact af.one _|exact af.mD (by repeat' (first|exact True.intro|refine And.intro ?_ ?_|exact Compat.ne rfl|exact ry h.2 h.1))) ⟨by kernel_rfl,?_⟩|refine bp (by first|exact af.nil|exact af.one _|exact af.mD (by repeat' (first|exact True.intro|refine And.intro ?_ ?_|exact Compat.ne rfl|exact ry h.2 h.1))) ?_|fail)
 show aC _ _ _ _ _ _ _ _;refine kV [] ?_
 rfl
theorem jq{p:Int×Int}(h:fV p.1/\fV p.2){HS:aj}(hb:Nat.blt HS.length Mem.bound=true):aG.Sound Tryz.prog ⟨81,[.one (cD p)],HS,.tup [.one (.int .i64 p.1),.one (.int .i64 p.2)],HS,[]⟩:=
 aA (Gb p h) rfl rfl hb
theorem OM(x y:Int):bh Tryz.prog 95 [.one (.int .i64 x),.one (.int .i64 y)] [] (.one (cD (x,y))) []:=by
 refine cO Tryz.func95 ?_
 repeat' (first
  |(refine qz ?_;first
   |refine R8 ?_
   |refine R9 ?_)
  |refine zz ?_|refine zx (fun _=>?_) (fun _=>?_)|fail)
 show aC _ _ _ _ _ _ _ _;refine kV [] ?_
 rfl
theorem xU{x y:Int}{HS:aj}(hb:Nat.blt HS.length Mem.bound=true):aG.Sound Tryz.prog ⟨95,[.one (.int .i64 x),.one (.int .i64 y)],HS,.one (cD (x,y)),HS,[]⟩:=
 aA (OM x y) rfl rfl hb
def cp(n:Int):Int:=(n+32)%64-32
theorem gO(n:Int) : -32<=cp n/\cp n<=31:=by unfold cp;omega
theorem KR(n:Int)(h : -1000000<=n/\n<=1000000):bh Tryz.prog 84 [.one (.int .i64 n)] [] (.one (.int .i64 (cp n))) []:=by
 refine cO Tryz.func84 ?_
 have h1:=Int.emod_nonneg (n+32) (show(2:Int)^6≠0 by decide)
 have h2:(n+32)%(2:Int)^6<64:=Int.emod_lt_of_pos (n+32) (show(0:Int)<2^6 by decide)
 have h3:=Int.emod_nonneg ((n+32)%2^6+64) (show(2:Int)^6≠0 by decide)
 have h4:((n+32)%2^6+64)%(2:Int)^6<64:=Int.emod_lt_of_pos _ (show(0:Int)<2^6 by decide)
 repeat' (first
  |(refine qz ?_;first
   |refine an (n:=6) ?_)
  |refine zz ?_|refine zx (fun _=>?_) (fun _=>?_)|fail)
 show aC _ _ _ _ _ _ _ _;refine kV [] ?_
 have:((n+32)%2^6+64)%(2:Int)^6-32=cp n:=by
  unfold cp
  show((n+32)%64+64)%64-32=_
  omega
 rw[<-this];rfl
theorem E9{n:Int}(h : -1000000<=n/\n<=1000000){HS:aj}(hb:Nat.blt HS.length Mem.bound=true):aG.Sound Tryz.prog ⟨84,[.one (.int .i64 n)],HS,.one (.int .i64 (cp n)),HS,[]⟩:=
 aA (KR n h) rfl rfl hb
def dH(p:Int×Int):Bool:=decide (-31<=p.1/\p.1<=31 /\ -31<=p.2/\p.2<=31)
theorem Gk(p:Int×Int)(h:fV p.1/\fV p.2):bh Tryz.prog 79 [.one (cD p)] [] (.one (.bool (dH p))) []:=by
 have hx1:=h.1.1
 have hx2:=h.1.2
 have hy1:=h.2.1
 have hy2:=h.2.2
 refine cO Tryz.func79 ?_
 by_cases ha : -31<=p.1/\p.1<=31
 ·by_cases hb : -31<=p.2/\p.2<=31
  ·have e:dH p=true:=decide_eq_true ⟨ha.1,ha.2,hb⟩
   rw[e]
   repeat' (first
    |(refine qz ?_;first
     |refine cl ?_ (hi:=by exact jq h rfl)
     |refine cl ?_ (hi:=by exact xU rfl)
     |refine Rj (x:=(p.1,p.2)) (y:=p) (fun _=>?_) (fun hn=>absurd rfl hn) h h)
    |refine zz ?_|refine zx (fun _=>?_) (fun _=>?_)|fail)
   show aC _ _ _ _ _ _ _ _;refine kV [] ?_
   rfl
  ·have e:dH p=false:=decide_eq_false fun hh=>hb hh.2.2
   rw[e]
   repeat' (first
    |(refine qz ?_;first
     |refine cl ?_ (hi:=by exact jq h rfl)
     |refine cl ?_ (hi:=by exact xU rfl)
     |refine Rj (x:=(p.1,p.2)) (y:=p) (fun _=>?_) (fun hn=>absurd rfl hn) h h)
    |refine zz ?_|refine zx (fun _=>?_) (fun _=>?_)|fail)
   show aC _ _ _ _ _ _ _ _;refine kV [] ?_
   rfl
 ·have e:dH p=false:=decide_eq_false fun hh=>ha ⟨hh.1,hh.2.1⟩
  rw[e]
  repeat' (first
   |(refine qz ?_;first
    |refine cl ?_ (hi:=by exact jq h rfl)
    |refine cl ?_ (hi:=by exact xU rfl)
    |refine Rj (x:=(p.1,p.2)) (y:=p) (fun _=>?_) (fun hn=>absurd rfl hn) h h)
   |refine zz ?_|refine zx (fun _=>?_) (fun _=>?_)|fail)
  show aC _ _ _ _ _ _ _ _;refine kV [] ?_
  rfl
theorem e_{p:Int×Int}(h:fV p.1/\fV p.2){HS:aj}(hb:Nat.blt HS.length Mem.bound=true):aG.Sound Tryz.prog ⟨79,[.one (cD p)],HS,.one (.bool (dH p)),HS,[]⟩:=
 aA (Gk p h) rfl rfl hb
def Bj(a b c:Int):Int:=max (min a b) (min (max a b) c)
theorem Ml(a b c:Int):bh Tryz.prog 107 [.one (.int .i64 a),.one (.int .i64 b),.one (.int .i64 c)] [] (.one (.int .i64 (Bj a b c))) []:=by
 refine cO Tryz.func107 ?_
 repeat' (first
  |(refine qz ?_;first
   |refine Q6 ?_
   |refine RW ?_)
  |refine zz ?_|refine zx (fun _=>?_) (fun _=>?_)|fail)
 show aC _ _ _ _ _ _ _ _;refine kV [] ?_
 rfl
theorem OK{a b c:Int}{HS:aj}(hb:Nat.blt HS.length Mem.bound=true):aG.Sound Tryz.prog ⟨107,[.one (.int .i64 a),.one (.int .i64 b),.one (.int .i64 c)],HS,.one (.int .i64 (Bj a b c)),HS,[]⟩:=
 aA (Ml a b c) rfl rfl hb
theorem uL{a b c a' b' c':Int}{HS:aj}:Compat ⟨107,[.one (.int .i64 a),.one (.int .i64 b),.one (.int .i64 c)],HS,.one (.int .i64 (Bj a b c)),HS,[]⟩ ⟨107,[.one (.int .i64 a'),.one (.int .i64 b'),.one (.int .i64 c')],HS,.one (.int .i64 (Bj a' b' c')),HS,[]⟩:=fun _ h _=>by
 simp only[List.cons.injEq,XV.one.injEq,XC.int.injEq,true_and,and_true]at h
 obtain⟨rfl,rfl,rfl⟩:=h
 exact⟨rfl,rfl,rfl⟩
def OJ(a b c:Int×Int):Int×Int:=(Bj a.1 b.1 c.1,Bj a.2 b.2 c.2)
def bI(p:Int×Int):Prop:=fV p.1/\fV p.2
theorem xR{a b c:Int}(ha:fV a)(hb:fV b)(hc:fV c):fV (Bj a b c):=by
 unfold Bj fV at *
 omega
theorem C9(a b c:Int×Int)(ha:bI a)(hb:bI b)(hc:bI c):bh Tryz.prog 87 [.one (cD a),.one (cD b),.one (cD c)] [] (.one (cD (OJ a b c))) []:=by
 refine cO Tryz.func87 ?_
 repeat' (first
  |(refine qz ?_;first
   |refine cl ?_ (hi:=by exact jq ha rfl)
   |refine cl ?_ (hi:=by exact jq hb rfl)
   |refine cl ?_ (hi:=by exact jq hc rfl)
   |refine cl ?_ (hi:=by exact OK rfl)
   |refine cl ?_ (hi:=by exact xU rfl))
  |refine zz ?_|refine zx (fun _=>?_) (fun _=>?_)|refine bp (by first|exact af.nil|exact af.one _|exact af.mD (by repeat' (first|exact True.intro|refine And.intro ?_ ?_|exact Compat.ne rfl|exact uL))) ⟨by kernel_rfl,?_⟩|refine bp (by first|exact af.nil|exact af.one _|exact af.mD (by repeat' (first|exact True.intro|refine And.intro ?_ ?_|exact Compat.ne rfl|exact uL))) ?_|fail)
 show aC _ _ _ _ _ _ _ _;refine kV [] ?_
 rfl
theorem i6{a b c:Int×Int}(ha:bI a)(hb:bI b)(hc:bI c){HS:aj}(hbd:Nat.blt HS.length Mem.bound=true):aG.Sound Tryz.prog ⟨87,[.one (cD a),.one (cD b),.one (cD c)],HS,.one (cD (OJ a b c)),HS,[]⟩:=
 aA (C9 a b c ha hb hc) rfl rfl hbd
def vt(v:Nat->Int×Int):List XC:=[cD (v 0),cD (v 1),cD (v 2),cD (v 3)]
theorem BN(x y:Int)(hx : -128<=x/\x<128)(hy : -128<=y/\y<128):bh Tryz.prog 77 [.one (.int .i8 x),.one (.int .i8 y)] [] (.one (cD (x.tmod 32,y.tmod 32))) []:=by
 have ex:bP .rem .i64 .i64 x 32=some (.int .i64 (x.tmod 32)):=Ea (by decide) rfl
 have ey:bP .rem .i64 .i64 y 32=some (.int .i64 (y.tmod 32)):=Ea (by decide) rfl
 refine cO Tryz.func77 ?_
 repeat' (first
  |(refine qz ?_;first
   |refine ig rfl rfl rfl rfl rfl rfl ex ?_
   |refine ig rfl rfl rfl rfl rfl rfl ey ?_
   |refine cl ?_ (hi:=by exact xU rfl))
  |refine zz ?_|refine zx (fun _=>?_) (fun _=>?_)|fail)
 show aC _ _ _ _ _ _ _ _;refine kV [] ?_
 rfl
theorem Dv{x y:Int}(hx : -128<=x/\x<128)(hy : -128<=y/\y<128){HS:aj}(hb:Nat.blt HS.length Mem.bound=true):aG.Sound Tryz.prog ⟨77,[.one (.int .i8 x),.one (.int .i8 y)],HS,.one (cD (x.tmod 32,y.tmod 32)),HS,[]⟩:=
 aA (BN x y hx hy) rfl rfl hb
theorem Ll(p:Int×Int):bh Tryz.prog 44 [.one (cD p)] [] (.agg (vt fun _=>p)) []:=by
 refine cO Tryz.func44 ?_
 repeat' (first|refine zz ?_|refine zx (fun _=>?_) (fun _=>?_)|fail)
 show aC _ _ _ _ _ _ _ _;refine kV [] ?_
 rfl
theorem Ob{p:Int×Int}{HS:aj}(hb:Nat.blt HS.length Mem.bound=true):aG.Sound Tryz.prog ⟨44,[.one (cD p)],HS,.agg (vt fun _=>p),HS,[]⟩:=
 aA (Ll p) rfl rfl hb
end Go.Proofs.YtagpkhindehcbaaGreat
