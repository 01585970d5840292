/-
  A part of the proof: Flt.
-/
import Derived.Test.YthdciapjllppjaaGreatWbF
set_option maxRecDepth 10000
set_option maxHeartbeats 8000000
set_option linter.unusedVariables false
set_option linter.unusedSectionVars false
set_option linter.unusedSimpArgs false
open Go.Proofs.Tryz (prog)
namespace Go.Xm
variable [aq]
variable {P:Program} {ops:Array Oper} {nt nI:Nat} {al:aO} {hs:aj} {o:Oper} {l:List Oper} {L:List aA} {K:List Ab->aO->aj->Prop} {d:Nat}
def fO(n:Int):Nat:=FloatKind.nearest .f64 n
def c7(p:Int×Int):XC := .cplx .f64 (fO p.1) (fO p.2)
def fX(n:Int):Prop := -32<=n/\n<=32
def Ot:List (Int×Nat):=(List.range 65).map fun(i:Nat)=>((i:Int)-32,fO ((i:Int)-32))
def SI(l:List (Int×Nat)):Bool:=l.all fun p=>l.all fun q=>FloatKind.f64.format.order p.2 q.2==some (compare p.1 q.1)
set_option maxRecDepth 100000 in
theorem Lw:SI Ot=true:=by decide +kernel
theorem A7{n:Int}(h:fX n):(n,fO n)∈Ot:=by
 unfold Ot;refine List.mem_map.2 ⟨(n+32).toNat,List.mem_range.2 (by have:=h.1;have:=h.2;omega),?_⟩;have e:(((n+32).toNat:Nat):Int)-32=n:=by have:=h.1;omega
 rw[e]
theorem HZ{x y:Int}(hx:fX x)(hy:fX y):FloatKind.f64.format.order (fO x) (fO y)=some (compare x y):=by
 have h:=Lw;have h1:=List.all_eq_true.1 h _ (A7 hx);have h2:=List.all_eq_true.1 h1 _ (A7 hy);simpa using h2
theorem w_{x y:Int}(hx:fX x)(hy:fX y):(FloatKind.f64.format.order (fO x) (fO y)==some .eq)=decide (x=y):=by
 rw[HZ hx hy]
 by_cases h:x=y
 ·subst h;have:compare x x = .eq:=by simp
  rw[this];simp
 ·have:compare x y ≠ .eq:=by simpa [Int.compare_eq_eq]using h
  simp only[h,decide_false];cases hc:compare x y<;>first|(exact absurd hc this)|rfl
theorem Lv:fO 0=0:=by decide +kernel
theorem iK:c7 (0,0) = .cplx .f64 0 0:=by unfold c7;rw[Lv]
theorem Ul{a:Operand}{ts:Array TypeId}{k:FloatKind}{p q:Nat}(hk:SK P ops nt L l ((d,.one (.flt k p))::al) hs fun bs=>K (quiet::bs))(ho:o.op = .call ⟨.builtin .real,#[a],ts⟩:=by exact rfl)(hw:aw ops (rg al) o=some true:=by exact rfl)(hd:o.dst=some d:=by exact rfl)(hlt:Nat.blt d nt=true:=by exact rfl)
 (ha:af (rg al) a = .one (.cplx k p q):=by exact rfl):SK P ops nt L (o::l) al hs K:=lz hw hd hlt (by rw[ho];simp[aZ,ej,ha]) hk
theorem TP{a:Operand}{ts:Array TypeId}{k:FloatKind}{p q:Nat}(hk:SK P ops nt L l ((d,.one (.flt k q))::al) hs fun bs=>K (quiet::bs))(ho:o.op = .call ⟨.builtin .imag,#[a],ts⟩:=by exact rfl)(hw:aw ops (rg al) o=some true:=by exact rfl)(hd:o.dst=some d:=by exact rfl)(hlt:Nat.blt d nt=true:=by exact rfl)
 (ha:af (rg al) a = .one (.cplx k p q):=by exact rfl):SK P ops nt L (o::l) al hs K:=lz hw hd hlt (by rw[ho];simp[aZ,ej,ha]) hk
theorem TN{a b:Operand}{ts:Array TypeId}{k:FloatKind}{p q:Nat}(hk:SK P ops nt L l ((d,.one (.cplx k p q))::al) hs fun bs=>K (quiet::bs))(ho:o.op = .call ⟨.builtin .complex,#[a,b],ts⟩:=by exact rfl)(hw:aw ops (rg al) o=some true:=by exact rfl)(hd:o.dst=some d:=by exact rfl)(hlt:Nat.blt d nt=true:=by exact rfl)
 (ha:af (rg al) a = .one (.flt k p):=by exact rfl) (hb:af (rg al) b = .one (.flt k q):=by exact rfl):SK P ops nt L (o::l) al hs K:=lz hw hd hlt (by rw[ho];simp[aZ,ej,ha,hb]) hk
theorem TM{s t:TypeId}{y:Operand}{u:TypeDesc}{k:IntKind}{x:Int}(hk:SK P ops nt L l ((d,.one (.flt .f64 (fO x)))::al) hs fun bs=>K (quiet::bs))(ho:o.op = .convert s t y:=by exact rfl)(hw:aw ops (rg al) o=some true:=by exact rfl)(hd:o.dst=some d:=by exact rfl)(hlt:Nat.blt d nt=true:=by exact rfl)
 (hy:af (rg al) y = .one (.int k x):=by exact rfl) (h1:aQ P s u:=by infer_instance) (h2:aQ P t (.float .f64):=by infer_instance):SK P ops nt L (o::l) al hs K:=lz hw hd hlt (by rw[ho];simp only[aZ,kP,hy,h1.out,h2.out];rfl) hk
theorem SD{t t':TypeId}{a b:Operand}{x y:Int×Int}(h1:x=y->SK P ops nt L l ((d,.one (.bool true))::al) hs fun bs=>K (quiet::bs))(h2:x≠y->SK P ops nt L l ((d,.one (.bool false))::al) hs fun bs=>K (quiet::bs))(hx:fX x.1/\fX x.2)(hy:fX y.1/\fX y.2)(ho:o.op = .binOp .eql t a b t':=by exact rfl)(hw:aw ops (rg al) o=some true:=by exact rfl)(hd:o.dst=some d:=by exact rfl)(hlt:Nat.blt d nt=true:=by exact rfl)
 (ha:af (rg al) a = .one (c7 x):=by exact rfl) (hb:af (rg al) b = .one (c7 y):=by exact rfl):SK P ops nt L (o::l) al hs K:=by
 obtain⟨x1,x2⟩:=x;obtain⟨y1,y2⟩:=y
 have key:aZ P (af (rg al)) o.op=some (.one (.bool (decide (x1=y1)&&decide (x2=y2)))):=by
  rw[ho];simp only[aZ,ha,hb,c7,s5,Bl,if_true,w_ hx.1 hy.1,w_ hx.2 hy.2,Option.map_some]
 refine lz hw hd hlt key ?_
 by_cases h:x1=y1/\x2=y2
 ·simp only[h.1,h.2,decide_true,Bool.and_self];exact h1 (by rw[h.1,h.2])
 ·have:(decide (x1=y1)&&decide (x2=y2))=false:=by
   simp only[Bool.and_eq_false_iff,decide_eq_false_iff_not]
   rcases Classical.em (x1=y1)with h3|h3
   ·exact .inr fun h4=>h ⟨h3,h4⟩
   ·exact .inl h3
  rw[this];exact h2 fun e=>h (by cases e;exact⟨rfl,rfl⟩)
theorem G5{t t':TypeId}{a b:Operand}{x y:Int×Int}(h1:x≠y->SK P ops nt L l ((d,.one (.bool true))::al) hs fun bs=>K (quiet::bs))(h2:x=y->SK P ops nt L l ((d,.one (.bool false))::al) hs fun bs=>K (quiet::bs))(hx:fX x.1/\fX x.2)(hy:fX y.1/\fX y.2){cb:XC}(hcb:cb=c7 y)(ho:o.op = .binOp .neq t a b t':=by exact rfl)(hw:aw ops (rg al) o=some true:=by exact rfl)(hd:o.dst=some d:=by exact rfl)(hlt:Nat.blt d nt=true:=by exact rfl)
 (ha:af (rg al) a = .one (c7 x):=by exact rfl) (hb:af (rg al) b = .one cb:=by exact rfl):SK P ops nt L (o::l) al hs K:=by
 obtain⟨x1,x2⟩:=x;obtain⟨y1,y2⟩:=y;subst hcb
 have key:aZ P (af (rg al)) o.op=some (.one (.bool (!(decide (x1=y1)&&decide (x2=y2))))):=by
  rw[ho];simp only[aZ,ha,hb,c7,s5,Bl,if_true,w_ hx.1 hy.1,w_ hx.2 hy.2,Option.map_some]
 refine lz hw hd hlt key ?_
 by_cases h:x1=y1/\x2=y2
 ·simp only[h.1,h.2,decide_true,Bool.and_self,Bool.not_true];exact h2 (by rw[h.1,h.2])
 ·have:(decide (x1=y1)&&decide (x2=y2))=false:=by
   simp only[Bool.and_eq_false_iff,decide_eq_false_iff_not]
   rcases Classical.em (x1=y1)with h3|h3
   ·exact .inr fun h4=>h ⟨h3,h4⟩
   ·exact .inl h3
  rw[this,Bool.not_false];exact h1 fun e=>h (by cases e;exact⟨rfl,rfl⟩)
end Go.Xm
namespace Go.Proofs.YthdciapjllppjaaGreat
open Go.Xm
theorem mixed:prog.follows .mixedOrders=true:=by kernel_rfl
def om(i:Nat):x4:=⟨132,[.one (.flt .f64 (fO ((i:Int)-32)))],.one (.int .i64 ((i:Int)-32))⟩
noncomputable def HG:Bool:=(List.range 65).all fun i=>decide (((pH xl prog 1000 10).call (om i).f (om i).args Mem.empty).map (·.1)=some (om i).v)
theorem zF:HG=true:=by kernel_rfl
variable [aq]
theorem GN(n:Int)(h:fX n):bt prog 132 [.one (.flt .f64 (fO n))] [] (.one (.int .i64 n)) []:=by
 have e:(((n+32).toNat:Nat):Int)-32=n:=by have:=h.1;omega
 have h1:=List.all_eq_true.1 zF (n+32).toNat (List.mem_range.2 (by have:=h.1;have:=h.2;omega));have h2:=of_decide_eq_true h1;have:=mH (mL (r:=om (n+32).toNat) (R_ (jy _) mixed h2 rfl));unfold om at this;rw[e]at this;exact this
theorem Bg{n:Int}(h:fX n){HS:aj}(hb:Nat.blt HS.length Mem.bound=true):aA.Sound prog ⟨132,[.one (.flt .f64 (fO n))],HS,.one (.int .i64 n),HS,[]⟩:=
 az (GN n h) rfl rfl hb
theorem qq{a b:Int}(ha:fX a)(hb:fX b){HS:aj}:Compat ⟨132,[.one (.flt .f64 (fO a))],HS,.one (.int .i64 a),HS,[]⟩ ⟨132,[.one (.flt .f64 (fO b))],HS,.one (.int .i64 b),HS,[]⟩:=fun _ h _=>by
 simp only[List.cons.injEq,XV.one.injEq,XC.flt.injEq,true_and,and_true]at h;have h1:=w_ ha ha;have h2:=w_ ha hb;rw[<-h,h1]at h2;have:a=b:=by simpa using h2
 subst this;exact⟨rfl,rfl,rfl⟩
theorem FM(p:Int×Int)(h:fX p.1/\fX p.2):bt prog 100 [.one (c7 p)] [] (.tup [.one (.int .i64 p.1),.one (.int .i64 p.2)]) []:=by
 refine cO Tryz.func100 ?_
 repeat' (first
  |(refine qz ?_;first
   |refine Ul ?_
   |refine TP ?_
   |refine cl ?_ (hi:=by exact Bg h.1 rfl)
   |refine cl ?_ (hi:=by exact Bg h.2 rfl))
  |refine zz ?_|refine zx (fun _=>?_) (fun _=>?_)|refine bp (by first|exact ag.nil|exact ag.one _|exact ag.my (by repeat' (first|exact True.intro|refine And.intro ?_ ?_|exact Compat.ne rfl|exact qq h.2 h.1))) ⟨by kernel_rfl,?_⟩|refine bp (by first|exact ag.nil|exact ag.one _|exact ag.my (by repeat' (first|exact True.intro|refine And.intro ?_ ?_|exact Compat.ne rfl|exact qq h.2 h.1))) ?_|fail)
 show aE _ _ _ _ _ _ _ _;refine kV [] ?_;rfl
theorem jz{p:Int×Int}(h:fX p.1/\fX p.2){HS:aj}(hb:Nat.blt HS.length Mem.bound=true):aA.Sound prog ⟨100,[.one (c7 p)],HS,.tup [.one (.int .i64 p.1),.one (.int .i64 p.2)],HS,[]⟩:=
 az (FM p h) rfl rfl hb
theorem OT(x y:Int):bt prog 109 [.one (.int .i64 x),.one (.int .i64 y)] [] (.one (c7 (x,y))) []:=by
 refine cO Tryz.func109 ?_
 repeat' (first
  |(refine qz ?_;first
   |refine TM ?_
   |refine TN ?_)
  |refine zz ?_|refine zx (fun _=>?_) (fun _=>?_)|fail)
 show aE _ _ _ _ _ _ _ _;refine kV [] ?_;rfl
theorem Ak{x y:Int}{HS:aj}(hb:Nat.blt HS.length Mem.bound=true):aA.Sound prog ⟨109,[.one (.int .i64 x),.one (.int .i64 y)],HS,.one (c7 (x,y)),HS,[]⟩:=
 az (OT x y) rfl rfl hb
def iM(n:Int):Int:=(n+32)%64-32
theorem m_(n:Int) : -32<=iM n/\iM n<=31:=by unfold iM;omega
theorem KA(n:Int)(h : -1000000<=n/\n<=1000000):bt prog 115 [.one (.int .i64 n)] [] (.one (.int .i64 (iM n))) []:=by
 refine cO Tryz.func115 ?_;have h1:=Int.emod_nonneg (n+32) (show(2:Int)^6≠0 by decide);have h2:(n+32)%(2:Int)^6<64:=Int.emod_lt_of_pos (n+32) (show(0:Int)<2^6 by decide);have h3:=Int.emod_nonneg ((n+32)%2^6+64) (show(2:Int)^6≠0 by decide);have h4:((n+32)%2^6+64)%(2:Int)^6<64:=Int.emod_lt_of_pos _ (show(0:Int)<2^6 by decide)
 repeat' (first
  |(refine qz ?_;first
   |refine an (n:=6) ?_)
  |refine zz ?_|refine zx (fun _=>?_) (fun _=>?_)|fail)
 show aE _ _ _ _ _ _ _ _;refine kV [] ?_
 have:((n+32)%2^6+64)%(2:Int)^6-32=iM n:=by
  unfold iM;show((n+32)%64+64)%64-32=_;omega
 rw[<-this];rfl
theorem M1{n:Int}(h : -1000000<=n/\n<=1000000){HS:aj}(hb:Nat.blt HS.length Mem.bound=true):aA.Sound prog ⟨115,[.one (.int .i64 n)],HS,.one (.int .i64 (iM n)),HS,[]⟩:=
 az (KA n h) rfl rfl hb
def fj(p:Int×Int):Bool:=decide (-31<=p.1/\p.1<=31 /\ -31<=p.2/\p.2<=31)
theorem F_(p:Int×Int)(h:fX p.1/\fX p.2):bt prog 111 [.one (c7 p)] [] (.one (.bool (fj p))) []:=by
 have hx1:=h.1.1;have hx2:=h.1.2;have hy1:=h.2.1;have hy2:=h.2.2;refine cO Tryz.func111 ?_
 by_cases ha : -31<=p.1/\p.1<=31
 ·by_cases hb : -31<=p.2/\p.2<=31
  ·have e:fj p=true:=decide_eq_true ⟨ha.1,ha.2,hb⟩;rw[e]
   repeat' (first
    |(refine qz ?_;first
     |refine cl ?_ (hi:=by exact jz h rfl)
     |refine cl ?_ (hi:=by exact Ak rfl)
     |refine SD (x:=(p.1,p.2)) (y:=p) (fun _=>?_) (fun hn=>absurd rfl hn) h h)
    |refine zz ?_|refine zx (fun _=>?_) (fun _=>?_)|fail)
   show aE _ _ _ _ _ _ _ _;refine kV [] ?_;rfl
  ·have e:fj p=false:=decide_eq_false fun hh=>hb hh.2.2
   rw[e]
   repeat' (first
    |(refine qz ?_;first
     |refine cl ?_ (hi:=by exact jz h rfl)
     |refine cl ?_ (hi:=by exact Ak rfl)
     |refine SD (x:=(p.1,p.2)) (y:=p) (fun _=>?_) (fun hn=>absurd rfl hn) h h)
    |refine zz ?_|refine zx (fun _=>?_) (fun _=>?_)|fail)
   show aE _ _ _ _ _ _ _ _;refine kV [] ?_;rfl
 ·have e:fj p=false:=decide_eq_false fun hh=>ha ⟨hh.1,hh.2.1⟩
  rw[e]
  repeat' (first
   |(refine qz ?_;first
    |refine cl ?_ (hi:=by exact jz h rfl)
    |refine cl ?_ (hi:=by exact Ak rfl)
    |refine SD (x:=(p.1,p.2)) (y:=p) (fun _=>?_) (fun hn=>absurd rfl hn) h h)
   |refine zz ?_|refine zx (fun _=>?_) (fun _=>?_)|fail)
  show aE _ _ _ _ _ _ _ _;refine kV [] ?_;rfl
theorem eS{p:Int×Int}(h:fX p.1/\fX p.2){HS:aj}(hb:Nat.blt HS.length Mem.bound=true):aA.Sound prog ⟨111,[.one (c7 p)],HS,.one (.bool (fj p)),HS,[]⟩:=
 az (F_ p h) rfl rfl hb
def Ah(a b c:Int):Int:=max (min a b) (min (max a b) c)
theorem LY(a b c:Int):bt prog 137 [.one (.int .i64 a),.one (.int .i64 b),.one (.int .i64 c)] [] (.one (.int .i64 (Ah a b c))) []:=by
 refine cO Tryz.func137 ?_
 repeat' (first
  |(refine qz ?_;first
   |refine R8 ?_
   |refine Tv ?_)
  |refine zz ?_|refine zx (fun _=>?_) (fun _=>?_)|fail)
 show aE _ _ _ _ _ _ _ _;refine kV [] ?_;rfl
theorem OO{a b c:Int}{HS:aj}(hb:Nat.blt HS.length Mem.bound=true):aA.Sound prog ⟨137,[.one (.int .i64 a),.one (.int .i64 b),.one (.int .i64 c)],HS,.one (.int .i64 (Ah a b c)),HS,[]⟩:=
 az (LY a b c) rfl rfl hb
theorem t7{a b c a' b' c':Int}{HS:aj}:Compat ⟨137,[.one (.int .i64 a),.one (.int .i64 b),.one (.int .i64 c)],HS,.one (.int .i64 (Ah a b c)),HS,[]⟩ ⟨137,[.one (.int .i64 a'),.one (.int .i64 b'),.one (.int .i64 c')],HS,.one (.int .i64 (Ah a' b' c')),HS,[]⟩:=fun _ h _=>by
 simp only[List.cons.injEq,XV.one.injEq,XC.int.injEq,true_and,and_true]at h;obtain⟨rfl,rfl,rfl⟩:=h;exact⟨rfl,rfl,rfl⟩
def ON(a b c:Int×Int):Int×Int:=(Ah a.1 b.1 c.1,Ah a.2 b.2 c.2)
def bM(p:Int×Int):Prop:=fX p.1/\fX p.2
theorem xj{a b c:Int}(ha:fX a)(hb:fX b)(hc:fX c):fX (Ah a b c):=by
 unfold Ah fX at *;omega
theorem Cq(a b c:Int×Int)(ha:bM a)(hb:bM b)(hc:bM c):bt prog 118 [.one (c7 a),.one (c7 b),.one (c7 c)] [] (.one (c7 (ON a b c))) []:=by
 refine cO Tryz.func118 ?_
 repeat' (first
  |(refine qz ?_;first
   |refine cl ?_ (hi:=by exact jz ha rfl)
   |refine cl ?_ (hi:=by exact jz hb rfl)
   |refine cl ?_ (hi:=by exact jz hc rfl)
   |refine cl ?_ (hi:=by exact OO rfl)
   |refine cl ?_ (hi:=by exact Ak rfl))
  |refine zz ?_|refine zx (fun _=>?_) (fun _=>?_)|refine bp (by first|exact ag.nil|exact ag.one _|exact ag.my (by repeat' (first|exact True.intro|refine And.intro ?_ ?_|exact Compat.ne rfl|exact t7))) ⟨by kernel_rfl,?_⟩|refine bp (by first|exact ag.nil|exact ag.one _|exact ag.my (by repeat' (first|exact True.intro|refine And.intro ?_ ?_|exact Compat.ne rfl|exact t7))) ?_|fail)
 show aE _ _ _ _ _ _ _ _;refine kV [] ?_;rfl
theorem h_{a b c:Int×Int}(ha:bM a)(hb:bM b)(hc:bM c){HS:aj}(hbd:Nat.blt HS.length Mem.bound=true):aA.Sound prog ⟨118,[.one (c7 a),.one (c7 b),.one (c7 c)],HS,.one (c7 (ON a b c)),HS,[]⟩:=
 az (Cq a b c ha hb hc) rfl rfl hbd
def vt(v:Nat->Int×Int):List XC:=[c7 (v 0),c7 (v 1),c7 (v 2),c7 (v 3)]
theorem AV(x y:Int)(hx : -128<=x/\x<128)(hy : -128<=y/\y<128):bt prog 81 [.one (.int .i8 x),.one (.int .i8 y)] [] (.one (c7 (x.tmod 32,y.tmod 32))) []:=by
 have ex:bE .rem .i64 .i64 x 32=some (.int .i64 (x.tmod 32)):=DB (by decide) rfl;have ey:bE .rem .i64 .i64 y 32=some (.int .i64 (y.tmod 32)):=DB (by decide) rfl;refine cO Tryz.func81 ?_
 repeat' (first
  |(refine qz ?_;first
   |refine gG rfl rfl rfl rfl rfl rfl ex ?_
   |refine gG rfl rfl rfl rfl rfl rfl ey ?_
   |refine cl ?_ (hi:=by exact Ak rfl))
  |refine zz ?_|refine zx (fun _=>?_) (fun _=>?_)|fail)
 show aE _ _ _ _ _ _ _ _;refine kV [] ?_;rfl
theorem CS{x y:Int}(hx : -128<=x/\x<128)(hy : -128<=y/\y<128){HS:aj}(hb:Nat.blt HS.length Mem.bound=true):aA.Sound prog ⟨81,[.one (.int .i8 x),.one (.int .i8 y)],HS,.one (c7 (x.tmod 32,y.tmod 32)),HS,[]⟩:=
 az (AV x y hx hy) rfl rfl hb
theorem La(p:Int×Int):bt prog 55 [.one (c7 p)] [] (.agg (vt fun _=>p)) []:=by
 refine cO Tryz.func55 ?_
 repeat' (first|refine zz ?_|refine zx (fun _=>?_) (fun _=>?_)|fail)
 show aE _ _ _ _ _ _ _ _;refine kV [] ?_;rfl
theorem N8{p:Int×Int}{HS:aj}(hb:Nat.blt HS.length Mem.bound=true):aA.Sound prog ⟨55,[.one (c7 p)],HS,.agg (vt fun _=>p),HS,[]⟩:=
 az (La p) rfl rfl hb
end Go.Proofs.YthdciapjllppjaaGreat
