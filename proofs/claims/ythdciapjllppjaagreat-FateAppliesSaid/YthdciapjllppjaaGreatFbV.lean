/-
  A part of the proof: PutLaw, Take1, Take2, TakeA.
-/
import Derived.Test.YthdciapjllppjaaGreatFbU
set_option maxRecDepth 10000
set_option maxHeartbeats 8000000
set_option linter.unusedVariables false
set_option linter.unusedSectionVars false
set_option linter.unusedSimpArgs false
namespace Go.Proofs.YthdciapjllppjaaGreat
open Go.Xm
variable [av]
theorem zy{S:cR}{m:Mb}(hm:iU m)(hf:C3 S m):nv m:=
 ⟨hm,hf.kind.2,fun i hi=>(hf.lev i hi).2.1,fun ha k hk=>(hf.lev (k*64) (by omega)).2.2 (by omega) ha⟩
theorem E4{S:cR}{m:Mb}(hf:C3 S m):∀k,k<4->eV (m.v k)=true:=fun k hk=>(hf.vecs k hk).1
theorem Hr{m:Mb}(hg:nv m){mb:Int}{x0:qX}(h0:Ep m mb x0 (0,x0)):∀k,k<=6->∀x,jS m mb x0 k=some x->Ep m mb x0 (k,x):=by
 intro k
 induction k with
 | zero=>
   intro _ x hx;cases hx;exact h0
 | succ k ih=>
   intro hk x hx;obtain⟨y,r,hy,hr,rfl⟩:=tG hx;exact wk hg (ih (by omega) y hy) (by show k<6;omega) hr
theorem EJ{m:Mb}{mb:Int}{x0:qX}:∀k x,jS m mb x0 k=some x->x.S.inter=x0.S.inter/\x.S.qp=x0.S.qp/\x0.B <+: x.B:=by
 intro k
 induction k with
 | zero=>intro x hx;cases hx;exact⟨rfl,rfl,List.prefix_refl _⟩
 | succ k ih=>
   intro x hx;obtain⟨y,r,hy,hr,rfl⟩:=tG hx;obtain⟨h1,h2,h3⟩:=ih y hy;refine⟨?_,?_,?_⟩
   ·show(if alone m=true then eH y.S mb k ⟨cw m k,m.qp⟩else y.S).inter=_;split<;>exact h1
   ·show(if alone m=true then eH y.S mb k ⟨cw m k,m.qp⟩else y.S).qp=_;split<;>exact h2
   ·show x0.B <+: (if alone m=true then y.B++_ else y.B);split
    ·exact h3.trans (List.prefix_append _ _)
    ·exact h3
structure r5(S:cR)(X:List Bool)(n:Nat)(z:cR×List Bool):Prop where
 st:jQ z.1
 cols:z.1.cols=S.cols
 rows:z.1.rows=S.rows
 inter:z.1.inter=S.inter
 qp:z.1.qp=S.qp
 pre:X <+: z.2
 len:z.2.length<=X.length+n
theorem nM{S:cR}{X:List Bool}{n:Nat}{z:cR×List Bool}(h:r5 S X n z){m:Mb}(hm:iU m)(mb:Int)(k:Nat):r5 S X (n+54) (aQ m mb z k):=by
 refine⟨⟨h.st.dims,h.st.lev,ef h.st.tiny (hm.v k)⟩,h.cols,h.rows,h.inter,h.qp,h.pre.trans (List.prefix_append _ _),?_⟩;have:=lQ (m.v k) (gk z.1.M z.1.cols z.1.rows mb k);have:=h.len;show(z.2++gM (m.v k) (gk z.1.M z.1.cols z.1.rows mb k)).length<=_;rw[List.length_append];omega
theorem mh{S:cR}{X:List Bool}{n:Nat}{z:cR×List Bool}(h:r5 S X n z){m:Mb}(hm:iU m)(mb:Int):r5 S X n (bY z.1 mb m.v,z.2):=
 ⟨⟨h.st.dims,h.st.lev,kg h.st.tiny hm.v⟩,h.cols,h.rows,h.inter,h.qp,h.pre,h.len⟩
theorem pG{S:cR}{X:List Bool}{n k:Nat}{z:cR×List Bool}(h:r5 S X n z)(hk:n<=k):r5 S X k z:=
 ⟨h.st,h.cols,h.rows,h.inter,h.qp,h.pre,by have:=h.len;omega⟩
theorem zO{S:cR}(hS:jQ S)(m:Mb):jQ (ff S m)/\(ff S m).cols=S.cols/\(ff S m).rows=S.rows/\(ff S m).inter=S.inter/\(ff S m).qp=if m.kind=4 then m.qp else S.qp:=by
 unfold ff;split
 ·exact⟨⟨hS.dims,hS.lev,hS.tiny⟩,rfl,rfl,rfl,rfl⟩
 ·exact⟨hS,rfl,rfl,rfl,rfl⟩
theorem BU{S:cR}(hS:jQ S){m:Mb}(hm:iU m){X:List Bool}{mb:Int}:r5 (ff S m) (X++bc S m) 216 (fy S X m mb):=by
 have hk:=(zO hS m).1
 have h0:r5 (ff S m) (X++bc S m) 0 (ff S m,X++bc S m):=⟨hk,rfl,rfl,rfl,rfl,List.prefix_refl _,Nat.le_refl _⟩
 unfold fy;split
 ·rename_i g;rw[i9 (by omega)]at h0 ⊢;exact pG (mh h0 hm mb) (by omega)
 ·split
  ·rename_i g;rw[i9 (by omega)]at h0 ⊢;exact pG (mh (nM h0 hm mb 0) hm mb) (by omega)
  ·split
   ·rename_i g;rw[i9 (by omega)]at h0 ⊢;exact pG (mh (nM (nM (nM (nM h0 hm mb 0) hm mb 1) hm mb 2) hm mb 3) hm mb) (by omega)
   ·have h1:=mh h0 hm mb;exact⟨h1.st,h1.cols,h1.rows,h1.inter,h1.qp,List.prefix_append _ _,by simp only[List.length_append,List.length_cons,List.length_nil];omega⟩
structure RE(S:cR)(X bw:List Bool)(m:Mb)(z:cR×List Bool×List Bool):Prop where
 st:jQ z.1
 cols:z.1.cols=S.cols
 rows:z.1.rows=S.rows
 inter:z.1.inter=S.inter
 qp:z.1.qp=m.qp
 pre:X++bc S m <+: z.2.1
 len:z.2.1.length<=X.length+1000
 lenw:z.2.2.length<=bw.length+20736
theorem w8{S:cR}(hS:jQ S){m:Mb}(hm:iU m)(hf:C3 S m){X bw:List Bool}{mb:Int}{z:cR×List Bool×List Bool}(h:mW S X bw m mb=some z):RE S X bw m z:=by
 have hg:=zy hm hf;have hh:=BU hS hm (X:=X) (mb:=mb);obtain⟨_,k1,k2,k3,k4⟩:=zO hS m;have hkl:=jL S m
 have hq:(if m.kind=4 then m.qp else S.qp)=m.qp:=by
  split
  ·rfl
  ·rename_i h4;exact(hf.qp h4).symm
 rw[hq]at k4;have hlx:(X++bc S m).length<=X.length+66:=by rw[List.length_append];omega
 have hhl:=hh.len;unfold mW at h
 by_cases h0:m.kind=0
 ·rw[if_pos h0]at h;have e:fy S X m mb=(bY S mb m.v,X++bc S m):=by unfold fy;rw[if_pos h0]
  rw[e]at hh;cases Option.some.inj h;exact⟨hh.st,hh.cols.trans k1,hh.rows.trans k2,hh.inter.trans k3,hh.qp.trans k4,hh.pre,by show(X++bc S m).length<=_;omega,Nat.le_add_right _ _⟩
 ·rw[if_neg h0]at h;obtain⟨x,hx,e⟩:=Option.map_eq_some_iff.1 h;cases e
  obtain⟨z0,hz0⟩:∃z0,fy S X m mb=z0:=⟨_,rfl⟩
  rw[hz0]at hh hx hhl
  have hi:Ep m mb ⟨z0.1,z0.2,0,0,fun _=>[]⟩ (0,⟨z0.1,z0.2,0,0,fun _=>[]⟩):=⟨Nat.zero_le _,rfl,hh.st,⟨rfl,rfl⟩,Nat.le_refl _,fun _ _=>rfl,fun _ => .inl rfl,by show(0:Int)<=0/\(0:Int)<16;decide,by show(0:Int)<=0/\(0:Int)<4;decide⟩
  have hb:=Hr hg hi 6 (Nat.le_refl _) x hx;have hr:=EJ 6 x hx;have hlen:x.B.length<=z0.2.length+76*6:=hb.len;have hcl:=jJ Hw x.pat.toNat;refine⟨hb.st,hb.cr.1.trans (hh.cols.trans k1),hb.cr.2.trans (hh.rows.trans k2),hr.1.trans (hh.inter.trans k3),hr.2.1.trans (hh.qp.trans k4),?_,?_,?_⟩
  ·exact hh.pre.trans (hr.2.2.trans ((List.prefix_append _ _).trans (List.prefix_append _ _)))
  ·show((x.B++iX cP x.pat.toNat)++bd x.col 2).length<=_;simp only[List.length_append,bu];rw[List.length_append]at hlx hhl;omega
  ·have:=rh (bw:=bw) hb.evs 6;show(cJ bw x 6).length<=_;omega
structure PS where
 S:cR
 B:List Bool
 w:List Bool
noncomputable def mV(first:Int)(k:Nat)(m:Mb)(x:PS):Int ⊕ PS:=
 if db m x.S.inter x.S.qp≠0 then .inl (db m x.S.inter x.S.qp)else match mW x.S x.B x.w m (first+(k:Nat))with
  | none => .inl 2
  | some z => .inr ⟨z.1,z.2.1,z.2.2⟩
noncomputable def nU(l:List Mb)(first:Int)(x0:PS):Nat->Int ⊕ PS
 | 0 => .inr x0
 | k+1=>match nU l first x0 k with
   | .inl e => .inl e
   | .inr x=>mV first k (l.getD k y_) x
theorem Av{l:List Mb}{first:Int}{x0:PS}{k:Nat}{e:Int}(h:nU l first x0 k = .inl e):∀j,k<=j->nU l first x0 j = .inl e:=by
 intro j hj
 induction hj with
 | refl=>exact h
 | step _ ih=>rw[nU,ih]
structure Eu(p:Bool)(c r:Int)(j:Nat)(x:PS):Prop where
 st:jQ x.S
 cols:x.S.cols=c
 rows:x.S.rows=r
 inter:x.S.inter=p
 qp : -1000000<=x.S.qp/\x.S.qp<=1000000
 len:x.B.length<=1000*j
 lenw:x.w.length<=20736*j
theorem w4{p:Bool}{c r:Int}{j:Nat}{x y:PS}(h:Eu p c r j x){m:Mb}(hm:iU m){first:Int}{k:Nat}(hy:mV first k m x = .inr y):Eu p c r (j+1) y:=by
 unfold mV at hy;split at hy
 ·cases hy
 ·rename_i hc;have hc0:db m x.S.inter x.S.qp=0:=Decidable.byContradiction fun g=>hc g
  have hf:=rk hm hc0;split at hy
  ·cases hy
  ·rename_i z hz;cases hy;have hk:=w8 h.st hm hf hz;have a:=hk.len;have b:=hk.lenw;have a':=h.len;have b':=h.lenw;exact⟨hk.st,hk.cols.trans h.cols,hk.rows.trans h.rows,hk.inter.trans h.inter,by rw[hk.qp];exact hm.qp,by show z.2.1.length<=_;omega,by show z.2.2.length<=_;omega⟩
theorem I_{p:Bool}{c r:Int}{j:Nat}{x:PS}(h:Eu p c r j x)(hj:j<=20){m:Mb}(hm:iU m){mb:Int}(hmb:0<=mb/\mb<c*r)(hc:db m x.S.inter x.S.qp=0):r7 x.S x.B x.w m mb:=by
 have hf:=rk hm hc;have a:=h.len;have b:=h.lenw;exact⟨h.st,by rw[h.cols,h.rows];exact hmb,h.qp,zy hm hf,E4 hf,by omega,by omega⟩
end Go.Proofs.YthdciapjllppjaaGreat
namespace Go.Xm
variable [av]
variable {P:Program} {ops:Array Oper} {nt nI:Nat} {al:aL} {hs:ah} {o:Oper} {l:List Oper} {L:List aA} {K:List Ab->aL->ah->Prop} {d:Nat}
theorem WX.B4(id:Nat){σ : Type}{ops:Array Oper}{dr:Bool}{x b:Code}{K:ch}(R : σ->aL)(H : σ->ah)(I : σ->Prop)(hok:∀s,I s->q_ nI (R s) (H s))(h1:True->WX P nt nI (.code (.seq (.region id ops dr) x)) al hs fun e al1 hs1=>e = .normal/\∃s τl,I s/\GoTo nI al1 hs1 (R s) (H s) τl)
 (h2:∀s,I s->WX P nt nI (.code b) (R s) (H s) K):WX P nt nI (.code (.seq (.seq (.region id ops dr) x) b)) al hs K:=WX.meet R H I hok (h1 trivial) h2
end Go.Xm
namespace Go.Proofs.YthdciapjllppjaaGreat
open Go.Xm
variable [av]
structure SI(x:qW)(c r:Int):Prop where
 cols:x.S.cols=c
 rows:x.S.rows=r
 tiny:fv x.S.M
 qp : -1000000<=x.S.qp/\x.S.qp<=1000000
 v:∀k,bK (x.m.v k)
theorem Nu:bK (0,0):=⟨by unfold fB;omega,by unfold fB;omega⟩
abbrev Ol:=Mb×(Nat->Bool)
structure TA where
 S:cR
 r:Nat×Bool
 out:List Ol
def Pa(B:List Bool)(first:Int)(x:TA):TA:=
 ⟨(D7 x.S B (first+(x.out.length:Nat)) x.r).1.S,(D7 x.S B (first+(x.out.length:Nat)) x.r).1.r,x.out++[((D7 x.S B (first+(x.out.length:Nat)) x.r).1.m,(D7 x.S B (first+(x.out.length:Nat)) x.r).2)]⟩
def Nt(B:List Bool)(first:Int):Nat->TA->TA
 | 0,x=>x
 | k+1,x=>if x.r.2=true then x else Nt B first k (Pa B first x)
def Sh(h:Hd)(p:Ph):cR:=⟨p.id,p.inter,p.down,p.qp,p.qp,h.cols,h.rows,[],[],[],[]⟩
structure Sr(B:List Bool)(first:Int)(n:Nat)(c r:Int)(x s:TA):Prop where
 le:s.out.length<=n
 run:Nt B first (n-s.out.length) s=x
 cols:s.S.cols=c
 rows:s.S.rows=r
 tiny:fv s.S.M
 qp : -1000000<=s.S.qp/\s.S.qp<=1000000
structure Rg(h:Hd)(p:Ph)(a q:List Int)(B:List Bool)(first:Int)(n:Nat):Prop where
 hd:qZ h
 ph:sD p
 byt:aW a
 len:a.length<=30000
 esc:NV a a.length [] 0 0=some q
 size:yv q=(B.length,true)
 fits:B.length<=8*q.length
 bits:nj q B
 pos:0<=first
 many:1<=n
 all:first+(n:Nat)<=h.cols*h.rows
theorem HG{c r:Int}(h:lY c r):1<=c*r/\c*r<=64:=by
 have h1:=h.c0;have h2:=h.c1;have h3:=h.r0;have h4:=h.r1;constructor
 ·have:=Int.mul_le_mul h1 h3 (by omega) (by omega);omega
 ·have:=Int.mul_le_mul h2 h4 (by omega) (by omega);omega
end Go.Proofs.YthdciapjllppjaaGreat
