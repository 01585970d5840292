/-
  A part of the proof: InvA, InvB, InvC, InvD, InvE, InvF, TakeG, Bytes, Awake.
-/
import Derived.Test.YtagpkhindehcbaaGreatKfE
import Derived.Test.YtagpkhindehcbaaGreatKfF
import Derived.Test.YtagpkhindehcbaaGreatKfN
import Derived.Test.YtagpkhindehcbaaGreatKfP
import Derived.Test.YtagpkhindehcbaaGreatKfW
import Derived.Test.YtagpkhindehcbaaGreatKfY
set_option maxRecDepth 10000
set_option maxHeartbeats 8000000
set_option linter.unusedVariables false
set_option linter.unusedSectionVars false
set_option linter.unusedSimpArgs false
namespace Go.Proofs.YtagpkhindehcbaaGreat
open Go.Xm
variable [ax]
structure wZ(B:List Bool)(r r':Nat×Bool)(s:List Bool):Prop where
 a:r.2=false
 b:r'.2=false
 n:r'.1=r.1+s.length
 e:B.take r'.1=B.take r.1++s
 l:r'.1<=B.length
theorem wZ.trans{B:List Bool}{r r' r2:Nat×Bool}{s t:List Bool}(h:wZ B r r' s)(g:wZ B r' r2 t):wZ B r r2 (s++t):=
 ⟨h.a,g.b,by rw[g.n,h.n,List.length_append,Nat.add_assoc],by rw[g.e,h.e,List.append_assoc],g.l⟩
theorem wZ.none{B:List Bool}{r:Nat×Bool}(h:r.2=false)(hl:r.1<=B.length):wZ B r r []:=⟨h,h,rfl,(List.append_nil _).symm,hl⟩
theorem lV{B:List Bool}{r:Nat×Bool}(h:(bg B r).2=false):wZ B r (bg B r) [cm B r]:=by
 obtain⟨p,e⟩:=r
 unfold bg at h ⊢
 by_cases he:e=true
 ·subst he;rw[if_pos rfl]at h;cases h
 ·have he':e=false:=by cases e<;>simp at he ⊢
  subst he'
  rw[if_neg Bool.false_ne_true]at h ⊢
  by_cases hp:p<B.length
  ·rw[if_pos hp]
   refine⟨rfl,rfl,rfl,?_,hp⟩
   show B.take (p+1)=B.take p++[!false&&B.getD p false]
   rw[List.take_add_one,List.getElem?_eq_getElem hp,List.getD_eq_getElem?_getD,List.getElem?_eq_getElem hp]
   rfl
  ·dsimp only at h
   rw[if_neg hp]at h
   cases h
theorem fA{B:List Bool}{r:Nat×Bool}(h:r.2=true):(bg B r).2=true:=by unfold bg;rw[if_pos h];exact h
theorem HU(b:Bool):0<=b2 b/\b2 b<=1:=by cases b<;>decide
theorem CB(b:Bool)(x:Int):decide ((2*x+b2 b)%2=1)=b:=by
 cases b with
 | true=>exact decide_eq_true (by show(2*x+1)%2=1;omega)
 | false=>exact decide_eq_false (by show¬(2*x+0)%2=1;omega)
theorem pS{B:List Bool}:∀(k:Nat) (x:Int) (r:Nat×Bool),r.2=true->(ki B k x r).2.2=true
 | 0,x,r,h=>rfl
 | k+1,x,r,h=>by
   rw[ki,if_pos (.inl (fA (fA h)))]
theorem yd{B:List Bool}:∀(k:Nat) (x:Int) (r:Nat×Bool) (v:Int) (r':Nat×Bool),0<=x->ki B k x r=(v,r')->r'.2=false->∃j,0<j/\wZ B r r' (jC (v+1) j)/\(v+1)/2^j=x/\v<=8190/\0<=v+1
 | 0,x,r,v,r',hx,h,he=>by
   cases h;cases he
 | k + 1,x,r,v,r',hx,h,he=>by
   rw[ki]at h
   have hb:=HU (cm B r)
   split at h
   ·cases h;cases he
   ·rename_i hn
    have hn2:(bg B (bg B r)).2=false:=by
     cases hh:(bg B (bg B r)).2 with
     | false=>rfl
     | true=>exact absurd (.inl hh) hn
    have hn8:2*x+b2 (cm B r)-1<=8190:=by
     have:=fun q=>hn (.inr q)
     omega
    have a2:=lV hn2
    have a1:=lV (B:=B) (r:=r) a2.a
    have a3:=a1.trans a2
    split at h
    ·rename_i hm
     obtain⟨j,h0,h1,h2,h3,h4⟩:=yd k _ _ v r' (by omega) h he
     refine⟨j+1,Nat.succ_pos _,?_,?_,h3,h4⟩
     ·rw[jC,h2,CB,decide_eq_true h0]
      rw[hm]at a3
      exact a3.trans h1
     ·rw[Int.pow_succ,<-Int.ediv_ediv_of_nonneg (Int.le_of_lt (Int.pow_pos (by decide))),h2]
      omega
    ·rename_i hm
     cases h
     have hm':cm B (bg B r)=false:=by
      cases hh:cm B (bg B r)with
      | false=>rfl
      | true=>exact absurd hh hm
     refine⟨1,Nat.one_pos,?_,by omega,hn8,by omega⟩
     have e1:jC (2*x+b2 (cm B r)-1+1) 1 = [cm B r]++[cm B (bg B r)]:=by
      rw[Int.sub_add_cancel,jC,hm']
      show decide ((2*x+b2 (cm B r))/2^0%2=1)::decide (0<0)::jC _ 0=_
      have e0:(2*x+b2 (cm B r))/2^0=2*x+b2 (cm B r):=by rw[Int.pow_zero,Int.ediv_one]
      rw[e0,CB]
      rfl
     rw[e1]
     exact a3
theorem rX{B:List Bool}{r:Nat×Bool}{v:Int}{r':Nat×Bool}(h:bq B r=(v,r'))(he:r'.2=false):wZ B r r' (cu v)/\0<=v/\v<=8190:=by
 unfold bq at h
 split at h
 ·rename_i hb
  cases h
  have a1:=lV he
  rw[hb]at a1
  exact⟨a1,by decide,by decide⟩
 ·rename_i hb
  obtain⟨j,h0,h1,h2,h3,h4⟩:=yd 13 1 (bg B r) v r' (by decide) h he
  have a1:=lV (B:=B) (r:=r) h1.a
  have hb':cm B r=false:=by
   cases hh:cm B r with
   | false=>rfl
   | true=>exact absurd hh hb
  rw[hb']at a1
  have hp:(0:Int)<2^j:=Int.pow_pos (by decide)
  have q1:(2:Int)^j<=v+1:=by
   have:=Int.ediv_mul_le (v+1) (Int.ne_of_gt hp)
   rw[h2,Int.one_mul]at this
   exact this
  have q2:v+1<2^j*2:=by
   have:=Int.lt_ediv_add_one_mul_self (v+1) hp
   rw[h2]at this
   omega
  have q3:(2:Int)<=2^j:=by
   obtain⟨i,rfl⟩:∃i,j=i+1:=⟨j-1,by omega⟩
   have:(0:Int)<2^i:=Int.pow_pos (by decide)
   rw[Int.pow_succ]
   omega
  have hl:bitLen (v+1).toNat=j+1:=by
   have n1:2^j<=(v+1).toNat:=by
    have:((2^j:Nat):Int)<=((v+1).toNat:Int):=by rw[Int.natCast_pow,Int.toNat_of_nonneg h4];exact q1
    omega
   have n2:(v+1).toNat<2^(j+1):=by
    have:((v+1).toNat:Int)<((2^(j+1):Nat):Int):=by rw[Int.natCast_pow,Int.toNat_of_nonneg h4,Int.pow_succ];exact q2
    omega
   unfold bitLen
   have hne:(v+1).toNat≠0:=by omega
   rw[if_neg hne,(Nat.log2_eq_iff hne).2 ⟨n1,n2⟩]
  refine⟨?_,by omega,h3⟩
  unfold cu
  rw[if_neg (by omega),hl,Nat.add_sub_cancel]
  exact a1.trans h1
theorem x9{B:List Bool}:∀(n:Nat) (x:Int) (r:Nat×Bool) (v:Int) (r':Nat×Bool),iz B n x r=(v,r')->r'.2=false->r.1<=B.length->wZ B r r' (d8 v n)/\v/2^n=x
 | 0,x,r,v,r',h,he,hl=>by
   cases h
   exact⟨wZ.none he hl,by rw[Int.pow_zero,Int.ediv_one]⟩
 | n + 1,x,r,v,r',h,he,hl=>by
   have hb:=HU (cm B r)
   have hne:(bg B r).2=false:=by
    cases hh:(bg B r).2 with
    | false=>rfl
    | true=>
      have:∀(k:Nat) (x:Int) (r:Nat×Bool),r.2=true->(iz B k x r).2.2=true:=fun k=>by
       induction k with
       | zero=>intro x r h;exact h
       | succ k ih=>intro x r h;exact ih _ _ (fA h)
      have h2:=this n (2*x+b2 (cm B r)) _ hh
      have h3:iz B n (2*x+b2 (cm B r)) (bg B r)=(v,r'):=h
      rw[h3]at h2
      rw[he]at h2;cases h2
   have a1:=lV hne
   obtain⟨h1,h2⟩:=x9 n (2*x+b2 (cm B r)) (bg B r) v r' h he a1.l
   refine⟨?_,?_⟩
   ·rw[d8,h2,CB]
    exact a1.trans h1
   ·rw[Int.pow_succ,<-Int.ediv_ediv_of_nonneg (Int.le_of_lt (Int.pow_pos (by decide))),h2]
    omega
theorem uG{B:List Bool}{n:Nat}{r:Nat×Bool}{v:Int}{r':Nat×Bool}(h:bG B n r=(v,r'))(he:r'.2=false)(hl:r.1<=B.length):wZ B r r' (d8 v n):=by
 unfold bG at h
 obtain⟨v0,r0,hq⟩:∃v0 r0,iz B n 0 r=(v0,r0):=⟨_,_,rfl⟩
 rw[hq]at h
 cases h
 have he':r0.2=false:=he
 dsimp only
 rw[he',if_neg Bool.false_ne_true]
 exact(x9 n 0 r v0 r0 hq he' hl).1
def ways(C:Cd):Nat->Int->List (List Bool×Int)
 | 0,_=>[]
 | k+1,x=>[false,true].flatMap fun b=>
   let t:=C.T.getD (x.toNat*2+(b2 b%2^1).toNat) 0
   if t=0 then []else if t<0 then [([b],-1-t)]else(ways C k t).map fun p=>(b::p.1,p.2)
theorem AH{C:Cd}{B:List Bool}:∀(k:Nat) (x:Int) (r:Nat×Bool) (v:Int) (r':Nat×Bool),qG C B k x r=(v,r')->r'.2=false->∃s,(s,v)∈ways C k x/\wZ B r r' s
 | 0,x,r,v,r',h,he=>by cases h;cases he
 | k + 1,x,r,v,r',h,he=>by
   rw[qG]at h
   obtain⟨b,hb⟩:∃b,cm B r=b:=⟨_,rfl⟩
   obtain⟨t,ht⟩:∃t,C.T.getD (x.toNat*2+(b2 b%2^1).toNat) 0=t:=⟨_,rfl⟩
   rw[hb,ht]at h
   have hmem:∀q,q∈(if t=0 then []else if t<0 then [([b],-1-t)]else(ways C k t).map fun p=>(b::p.1,p.2))->q∈ways C (k+1) x:=fun q hq=>by
    rw[ways]
    refine List.mem_flatMap.2 ⟨b,by cases b<;>simp,?_⟩
    dsimp only
    rw[ht];exact hq
   split at h
   ·cases h;cases he
   ·rename_i hn
    have hne:(bg B r).2=false:=by
     cases hh:(bg B r).2 with
     | false=>rfl
     | true=>exact absurd (.inl hh) hn
    have ht0:t≠0:=fun q=>hn (.inr q)
    have a1:=lV hne
    rw[hb]at a1
    split at h
    ·rename_i hneg
     cases h
     exact⟨[b],hmem _ (by rw[if_neg ht0,if_pos hneg];exact List.mem_singleton.2 rfl),a1⟩
    ·rename_i hneg
     obtain⟨s,h1,h2⟩:=AH k t (bg B r) v r' h he
     exact⟨b::s,hmem _ (by rw[if_neg ht0,if_neg hneg];exact List.mem_map.2 ⟨_,h1,rfl⟩),a1.trans h2⟩
def zP(C:Cd):Bool:=(ways C (C.T.length/2) 0).all fun p=>p.1==c9 C p.2.toNat&&decide (0<=p.2/\p.2<C.S.length)
theorem Lu:zP cM=true:=by decide +kernel
theorem Lw:zP cZ=true:=by decide +kernel
theorem Lv:zP cP=true:=by decide +kernel
theorem yY{C:Cd}(hC:zP C=true){B:List Bool}{r:Nat×Bool}{v:Int}{r':Nat×Bool}(h:kK C B r=(v,r'))(he:r'.2=false):wZ B r r' (c9 C v.toNat)/\0<=v/\v<C.S.length:=by
 obtain⟨s,h1,h2⟩:=AH _ _ _ _ _ h he
 have:=List.all_eq_true.1 hC _ h1
 rw[Bool.and_eq_true]at this
 have e:s=c9 C v.toNat:=eq_of_beq this.1
 rw[<-e]
 exact⟨h2,of_decide_eq_true this.2⟩
theorem xv{n k:Nat}(h1:2^k<=n)(h2:n<2^(k+1)):bitLen n=k+1:=by
 have hp:0<2^k:=Nat.two_pow_pos k
 unfold bitLen
 rw[if_neg (by omega),(Nat.log2_eq_iff (by omega)).2 ⟨h1,h2⟩]
theorem Nh{B:List Bool}{r:Nat×Bool}{v:Int}{r':Nat×Bool}(h:eI B r=(v,r'))(he:r'.2=false):wZ B r r' (bY v):=by
 obtain⟨z,r1,hz⟩:∃z r1,kK cZ B r=(z,r1):=⟨_,_,rfl⟩
 obtain⟨m,r2,hm⟩:∃m r2,bG B z.toNat r1=(m,r2):=⟨_,_,rfl⟩
 have e1:cQ B r=z.toNat:=by unfold cQ;rw[hz]
 have e2:lF B r=(m,r2):=by unfold lF;rw[e1,hz];exact hm
 have hrng:=iL B z.toNat r1
 rw[hm]at hrng
 have hrng:0<=m/\m<2^z.toNat:=hrng
 unfold eI at h
 rw[e1,e2]at h
 dsimp only at h
 have hr2:r2.2=false:=by
  split at h
  ·cases h
   split at he
   ·cases he
   ·exact he
  ·cases h;exact he
 have hr1:r1.2=false:=by
  cases hh:r1.2 with
  | false=>rfl
  | true=>
    have:∀(k:Nat) (x:Int) (r:Nat×Bool),r.2=true->(iz B k x r).2.2=true:=fun k=>by
     induction k with
     | zero=>intro x r h;exact h
     | succ k ih=>intro x r h;exact ih _ _ (fA h)
    have h2:=this z.toNat 0 r1 hh
    have h3:(bG B z.toNat r1).2.2=true:=h2
    rw[hm]at h3
    rw[hr2]at h3;cases h3
 obtain⟨a1,z0,z1⟩:=yY Lw hz hr1
 have a2:=uG hm hr2 a1.l
 have a3:=a1.trans a2
 obtain⟨k,hk⟩:∃k,z.toNat=k:=⟨_,rfl⟩
 rw[hk]at h a3 hrng
 have hpk:(0:Int)<2^k:=Int.pow_pos (by decide)
 split at h
 ·rename_i hc
  obtain⟨i,rfl⟩:∃i,k=i+1:=⟨k-1,by omega⟩
  rw[Nat.add_sub_cancel,Int.one_mul]at hc
  have hpi:(0:Int)<2^i:=Int.pow_pos (by decide)
  have hps:(2:Int)^(i+1)=2^i*2:=Int.pow_succ ..
  rw[Int.one_mul,hps]at h
  have hv:v=m-(2^i*2-1):=(congrArg Prod.fst h).symm
  have hr':r'=r2:=by
   have:=congrArg Prod.snd h
   dsimp only at this
   rw[<-this]at he ⊢
   split at he
   ·cases he
   ·rename_i hq;rw[if_neg hq]
  have hd:bJ v=i+1:=by
   unfold bJ
   have e3:max v (-v) = -v:=by omega
   rw[e3]
   refine xv ?_ ?_
   ·have:((2^i:Nat):Int)<=((-v).toNat:Int):=by rw[Int.natCast_pow,Int.toNat_of_nonneg (by omega)];show(2:Int)^i <= -v;omega
    omega
   ·have:((-v).toNat:Int)<((2^(i+1):Nat):Int):=by rw[Int.natCast_pow,Int.toNat_of_nonneg (by omega),show((2:Nat):Int)^(i+1)=2^i*2 from hps];omega
    omega
  unfold bY
  rw[hd,if_pos (by omega),Int.one_mul,hps,show v+(2^i*2-1)=m by omega,hr']
  exact a3
 ·rename_i hc
  have hv:=(Prod.mk.inj h).1
  have hr':=(Prod.mk.inj h).2
  subst hv hr'
  have hd:bJ m=k:=by
   unfold bJ
   have e3:max m (-m)=m:=by omega
   rw[e3]
   cases k with
   | zero=>
     rw[Int.pow_zero]at hrng
     have:m.toNat=0:=by omega
     rw[this];rfl
   | succ i=>
     rw[Nat.add_sub_cancel,Int.one_mul]at hc
     have hpi:(0:Int)<2^i:=Int.pow_pos (by decide)
     have hps:(2:Int)^(i+1)=2^i*2:=Int.pow_succ ..
     refine xv ?_ ?_
     ·have:((2^i:Nat):Int)<=(m.toNat:Int):=by rw[Int.natCast_pow,Int.toNat_of_nonneg hrng.1];show(2:Int)^i<=m;omega
      omega
     ·have:(m.toNat:Int)<((2^(i+1):Nat):Int):=by rw[Int.natCast_pow,Int.toNat_of_nonneg hrng.1];exact hrng.2
      omega
  unfold bY
  rw[hd,if_neg (by omega)]
  exact a3
theorem qY{w:Int}(h:0<=w):aY (bB w)=w:=by
 unfold aY bB
 split<;>split<;>omega
theorem E5{B:List Bool}{e:Int×Int}{r:Nat×Bool}{v:Int×Int}{r':Nat×Bool}(h:oC B e r=(v,r'))(he:r'.2=false):wZ B r r' (cV v e)/\dH v=true:=by
 unfold oC at h
 split at h
 ·cases h;cases he
 ·rename_i hn
  cases h
  obtain⟨x,r1,h1⟩:∃x r1,bq B r=(x,r1):=⟨_,_,rfl⟩
  obtain⟨y,r2,h2⟩:∃y r2,bq B r1=(y,r2):=⟨_,_,rfl⟩
  have eR:s7 B r=r2:=by unfold s7;rw[h1,h2]
  have eX:wi B r=bB x:=by unfold wi;rw[h1]
  have eY:wj B r=bB y:=by unfold wj;rw[h1,h2]
  rw[eR]at he ⊢
  have hr1:r1.2=false:=by
   cases hh:r1.2 with
   | false=>rfl
   | true=>
     have:(bq B r1).2.2=true:=by
      unfold bq cm
      rw[hh]
      exact pS _ _ _ (fA hh)
     rw[h2]at this
     rw[he]at this;cases this
  obtain⟨a1,x0,x1⟩:=rX h1 hr1
  obtain⟨a2,y0,y1⟩:=rX h2 he
  unfold jM at hn
  rw[eX,eY]at hn
  have hr:dH (zO B e r)=true:=by
   cases hh:dH (zO B e r)with
   | true=>rfl
   | false=>exact absurd (.inr (.inr (.inr (.inr (.inr hh))))) hn
  refine⟨?_,hr⟩
  have b1 : -32<=bB x/\bB x<=31:=by
   have q1:=fun q=>hn (.inr (.inl q))
   have q2:=fun q=>hn (.inr (.inr (.inl q)))
   omega
  have b2 : -32<=bB y/\bB y<=31:=by
   have q1:=fun q=>hn (.inr (.inr (.inr (.inl q))))
   have q2:=fun q=>hn (.inr (.inr (.inr (.inr (.inl q)))))
   omega
  have w:∀(e z:Int),-32<=z/\z<=31->cp (cp (e+z)-e)=z:=fun e z hz=>by unfold cp;omega
  unfold cV zO
  dsimp only
  rw[eX,eY,w _ _ b1,w _ _ b2,qY x0,qY y0]
  exact a1.trans a2
theorem Dn{B:List Bool}{r:Nat×Bool}(h:r.2=true):(bq B r).2.2=true:=by
 unfold bq cm
 rw[h]
 exact pS _ _ _ (fA h)
theorem LF{n m:Int}(hn:0<=n)(hm:0<=m):LD (w8 n m)=cu n++cu m:=by
 have e1:2*(n/2)+(if decide (n%2=1)=true then 1 else 0)=n:=by
  by_cases h:n%2=1
  ·rw[if_pos (decide_eq_true h)];omega
  ·rw[if_neg (by rw[decide_eq_false h];decide)];omega
 unfold LD w8
 dsimp only
 rw[e1,qY (by omega),Int.add_sub_cancel]
theorem xx{B : List Bool}:∀(k:Nat) (r:Nat×Bool) (acc:List Ev) (l:List Ev) (r':Nat×Bool),oQ B k r acc=(l,r')->r'.2=false->∃m,l=acc++m/\0<m.length/\m.length<=k/\wZ B r r' (fF m)/\(∀j,j<m.length->oE (m.getD j default))/\∀j,j<m.length->(m.getD j default).2.2=decide (j+1=m.length)
 | 0,r,acc,l,r',h,he=>by cases h;cases he
 | k + 1, r, acc,l,r',h,he=>by
   obtain⟨v,r1,h1⟩:∃v r1,bq B r=(v,r1):=⟨_,_,rfl⟩
   obtain⟨w,r2,h2⟩:∃w r2,bq B r1=(w,r2):=⟨_,_,rfl⟩
   rw[oQ,h1]at h
   dsimp only at h
   rw[h2]at h
   dsimp only at h
   split at h
   ·cases h;cases he
   ·rename_i hn
    have hr2:r2.2=false:=by
     cases hh:r2.2 with
     | false=>rfl
     | true=>exact absurd (.inl hh) hn
    have hok:oE (w8 v w):=qI (by cases hh:ji (w8 v w)with|true=>rfl|false=>exact absurd (.inr hh) hn)
    have hr1:r1.2=false:=by
     cases hh:r1.2 with
     | false=>rfl
     | true=>
       have:=Dn (B:=B) hh
       rw[h2]at this
       rw[hr2]at this;cases this
    obtain⟨a1,v0,_⟩:=rX h1 hr1
    obtain⟨a2,w0,_⟩:=rX h2 hr2
    have a3:=a1.trans a2
    rw[<-LF v0 w0]at a3
    split at h
    ·rename_i hlast
     cases h
     refine⟨[w8 v w],rfl,Nat.one_pos,by simp,?_,fun j hj=>?_,fun j hj=>?_⟩
     ·have e:fF [w8 v w]=LD (w8 v w):=by simp[fF]
      rw[e];exact a3
     ·have:j=0:=by simpa using hj
      subst this;exact hok
     ·have:j=0:=by simpa using hj
      subst this;exact hlast
    ·rename_i hlast
     obtain⟨m,e1,e2,e3,e4,e5,e6⟩:=xx k r2 _ l r' h he
     refine⟨w8 v w::m,by rw[e1,List.append_assoc];rfl,Nat.succ_pos _,Nat.succ_le_succ e3,?_,fun j hj=>?_,fun j hj=>?_⟩
     ·exact a3.trans e4
     ·cases j with
      | zero=>exact hok
      | succ j=>exact e5 j (Nat.lt_of_succ_lt_succ hj)
     ·cases j with
      | zero=>
        have hf:(w8 v w).2.2=false:=by
         cases hh:(w8 v w).2.2 with
         | false=>rfl
         | true=>exact absurd hh hlast
        show(w8 v w).2.2=decide (0+1=m.length+1)
        rw[hf,decide_eq_false (by omega)]
      | succ j=>
        show(m.getD j default).2.2=decide (j+1+1=m.length+1)
        rw[e6 j (Nat.lt_of_succ_lt_succ hj)]
        exact decide_eq_decide.2 ⟨fun h=>by omega,fun h=>by omega⟩
theorem Lq{B:List Bool}{r:Nat×Bool}{l:List Ev}{r':Nat×Bool}(h:jY B r=(l,r'))(he:r'.2=false):wZ B r r' (fF l)/\jW l:=by
 obtain⟨m,e1,e2,e3,e4,e5,e6⟩:=xx 64 r [] l r' h he
 rw[List.nil_append]at e1
 subst e1
 exact⟨e4,⟨⟨e2,e3⟩,e5,e6⟩⟩
theorem H5{B:List Bool}:∀(k:Nat) (acc:List (List Ev)) (r:Nat×Bool) (E:List (List Ev)) (r':Nat×Bool),ru B k (acc,r)=(E,r')->r'.2=false->r.1<=B.length->∃F,E=acc++F/\F.length=k/\wZ B r r' (F.flatMap fF)/\∀e∈F,jW e
 | 0,acc,r,E,r',h,he,hl=>by
   cases h
   exact⟨[],(List.append_nil _).symm,rfl,wZ.none he hl,fun e he=>by cases he⟩
 | k + 1,acc,r,E,r',h,he,hl=>by
   obtain⟨l,r1,h1⟩:∃l r1,jY B r=(l,r1):=⟨_,_,rfl⟩
   rw[ru]at h
   dsimp only at h
   rw[h1]at h
   dsimp only at h
   split at h
   ·rename_i ht
    cases h
    rw[ht]at he;cases he
   ·rename_i ht
    have hr1:r1.2=false:=by
     cases hh:r1.2 with
     | false=>rfl
     | true=>exact absurd hh ht
    obtain⟨a1,ok1⟩:=Lq h1 hr1
    obtain⟨F,e1,e2,e3,e4⟩:=H5 k _ r1 E r' h he a1.l
    refine⟨l::F,by rw[e1,List.append_assoc];rfl,by rw[List.length_cons,e2],?_,fun e he=>?_⟩
    ·rw[List.flatMap_cons];exact a1.trans e3
    ·rcases List.mem_cons.1 he with rfl|he
     ·exact ok1
     ·exact e4 e he
theorem H6{x y:Int}(hx:0<=x/\x<256)(hy:0<=y/\y<256)(h:∀j,j<8->decide (x/2^(7-j)%2=1)=decide (y/2^(7-j)%2=1)):x=y:=by
 have g:∀j,j<8->x/2^(7-j)%2=y/2^(7-j)%2:=fun j hj=>by
  have:=decide_eq_decide.1 (h j hj)
  omega
 have g0:=g 0 (by decide)
 have g1:=g 1 (by decide)
 have g2:=g 2 (by decide)
 have g3:=g 3 (by decide)
 have g4:=g 4 (by decide)
 have g5:=g 5 (by decide)
 have g6:=g 6 (by decide)
 have g7:=g 7 (by decide)
 simp only[Nat.sub_self,Nat.reduceSub,Int.reducePow,Int.pow_zero,Int.ediv_one]at g0 g1 g2 g3 g4 g5 g6 g7
 omega
theorem Nf:∀x:Fin 256,x.val≠0->tz 8 (x.val:Int)<8/\(x.val:Int)/2^tz 8 (x.val:Int)%2=1/\∀k:Fin 8,k.val<tz 8 (x.val:Int)->(x.val:Int)/2^k.val%2=0:=by decide +kernel
theorem KQ{q:List Int}{B:List Bool}(hq:bQ q)(hs:cJ q=(B.length,true))(hB:∀j,j<B.length->jA q j=B.getD j false):wr (B++[true])=q:=by
 unfold cJ at hs
 split at hs
 ·exact absurd (congrArg Prod.snd hs) Bool.false_ne_true
 ·rename_i hne
  have hL:=congrArg Prod.fst hs
  dsimp only at hL
  obtain⟨x,hx⟩:∃x:Fin 256,q.getD (q.length-1) 0=(x.val:Int):=⟨⟨(q.getD (q.length-1) 0).toNat,by have:=hq (q.length-1);omega⟩,by have:=hq (q.length-1);simp only[];omega⟩
  rw[hx]at hL hne
  obtain⟨t1,t2,t3⟩:=Nf x (by omega)
  have hpos:0<q.length:=by
   refine Nat.pos_of_ne_zero fun h0=>?_
   rw[List.length_eq_zero_iff.1 h0]at hx
   exact hne (by simpa using hx.symm)
  have hwl:(wr (B++[true])).length=q.length:=by rw[fQ,List.length_append,List.length_singleton];omega
  refine List.ext_getElem hwl fun p hp1 hp2=>?_
  have e1:(wr (B++[true])).getD p 0=(wr (B++[true]))[p]:=by rw[List.getD_eq_getElem?_getD,List.getElem?_eq_getElem hp1];rfl
  have e2:q.getD p 0=q[p]:=by rw[List.getD_eq_getElem?_getD,List.getElem?_eq_getElem hp2];rfl
  rw[<-e1,<-e2]
  refine H6 (gl _ p) (hq p) fun j hj=>?_
  have w1:=DG (B++[true]) (8*p+j)
  unfold jA at w1
  rw[show(8*p+j)/8=p by omega,show(8*p+j)%8=j by omega]at w1
  rw[w1]
  by_cases h1:8*p+j<B.length
  ·have w2:=hB _ h1
   unfold jA at w2
   rw[show(8*p+j)/8=p by omega,show(8*p+j)%8=j by omega]at w2
   rw[w2,List.getD_eq_getElem?_getD,List.getElem?_append_left h1,<-List.getD_eq_getElem?_getD]
  ·have hpl:p=q.length-1:=by omega
   subst hpl
   rw[hx]
   by_cases h2:8*(q.length-1)+j=B.length
   ·rw[h2,List.getD_eq_getElem?_getD,List.getElem?_append_right (Nat.le_refl _),Nat.sub_self]
    have e3:7-j=tz 8 (x.val:Int):=by omega
    rw[e3,decide_eq_true t2];rfl
   ·rw[List.getD_eq_getElem?_getD,List.getElem?_eq_none (by rw[List.length_append,List.length_singleton];omega)]
    have:=t3 ⟨7-j,by omega⟩ (by show 7-j<_;omega)
    have e4:(x.val:Int)/2^(7-j)%2=0:=this
    rw[e4];rfl
theorem uT{x:List Int}:∀(k:Nat) (out:List Int) (z:Int) (i:Nat) (q:List Int),jc x k out z i=some q->k+i=x.length->0<=z->z<=2->∃t,q=out++t/\nG z t=x.drop i
 | 0,out,z,i,q,h,hk,h0,h2=>by
   cases h
   exact⟨[],(List.append_nil _).symm,by rw[List.drop_of_length_le (by omega)];rfl⟩
 | k + 1, out,z,i,q,h,hk,h0,h2=>by
   have hi:i<x.length:=by omega
   have hd:x.drop i=x.getD i 0::x.drop (i+1):=by
    rw[List.drop_eq_getElem_cons hi,List.getD_eq_getElem?_getD,List.getElem?_eq_getElem hi];rfl
   rw[jc]at h
   split at h
   ·cases h
   ·rename_i hn1
    split at h
    ·rename_i hz
     split at h
     ·cases h
     ·rename_i hn2
      obtain⟨t,e1,e2⟩:=uT k out 0 (i+1) q h (by omega) (Int.le_refl _) (by decide)
      have hi1:i+1<x.length:=by
       refine Nat.lt_of_le_of_ne hi fun e=>hn2 (.inl e)
      have hd1:x.drop (i+1)=x.getD (i+1) 0::x.drop (i+1+1):=by
       rw[List.drop_eq_getElem_cons hi1,List.getD_eq_getElem?_getD,List.getElem?_eq_getElem hi1];rfl
      have h3:x.getD (i+1) 0<=3:=by
       have:=fun q=>hn2 (.inr q)
       omega
      refine⟨t,e1,?_⟩
      cases t with
      | nil=>
        rw[hd1]at e2
        cases e2
      | cons b t=>
        rw[nG,if_neg (by omega),hd1]at e2
        have b1:b=x.getD (i+1) 0:=(List.cons.inj e2).1
        have b2:=(List.cons.inj e2).2
        rw[nG,if_pos ⟨by omega,by omega⟩,hd,hz.2,hd1,<-b1,<-b2]
    ·rename_i hz
     obtain⟨t,e1,e2⟩:=uT k _ (if x.getD i 0=0 then z+1 else 0) (i+1) q h (by omega) (by split<;>omega) (by
      split
      ·rename_i hc
       have:z≠2:=fun e=>hn1 ⟨e,by omega⟩
       omega
      ·decide)
     refine⟨x.getD i 0::t,by rw[e1,List.append_assoc];rfl,?_⟩
     rw[nG,if_neg (fun hc=>?_),e2,hd]
     have hz2:z=2:=by omega
     have h3:¬x.getD i 0<3:=fun q=>hn1 ⟨hz2,q⟩
     exact hz ⟨hz2,by omega⟩
theorem Ei{x q:List Int}(h:jc x x.length [] 0 0=some q):(gS q q.length).1=x:=by
 obtain⟨t,e1,e2⟩:=uT x.length [] 0 0 q h rfl (Int.le_refl _) (by decide)
 rw[List.nil_append]at e1
 subst e1
 rw[uR,e2,List.drop_zero]
theorem kJ{B X:List Bool}{r':Nat×Bool}{s:List Bool}(h:wZ B (X.length,false) r' s)(hp:X <+: B):X++s <+: B/\r'=((X++s).length,false):=by
 have e:B.take r'.1=X++s:=by rw[h.e];congr 1;exact(List.prefix_iff_eq_take.1 hp).symm
 exact⟨by rw[<-e];exact List.take_prefix _ _,Prod.ext (by rw[h.n,List.length_append]) h.b⟩
theorem iH{b:Bool}(h:b=true->False):b=false:=by cases b with|false=>rfl|true=>exact absurd rfl h
theorem tC{B:List Bool}:∀(k:Nat) (x:Int) (r:Nat×Bool),r.2=true->(iz B k x r).2.2=true
 | 0,_,_,h=>h
 | k+1,x,r,h=>tC k _ _ (fA h)
theorem nv{B:List Bool}{n:Nat}{r:Nat×Bool}(h:r.2=true):(bG B n r).2.2=true:=tC n 0 r h
theorem CM{C:Cd}{B:List Bool}:∀(k:Nat) (x:Int) (r:Nat×Bool),r.2=true->(qG C B k x r).2.2=true
 | 0,_,_,_=>rfl
 | k+1,x,r,h=>by rw[qG,if_pos (.inl (fA h))]
theorem sG{C:Cd}{B:List Bool}{r:Nat×Bool}(h:r.2=true):(kK C B r).2.2=true:=CM _ _ _ h
theorem G7{B:List Bool}{r:Nat×Bool}(h:r.2=true):(eI B r).2.2=true:=by
 have h1:(lF B r).2.2=true:=nv (sG h)
 unfold eI
 split
 ·dsimp only
  split
  ·rfl
  ·exact h1
 ·exact h1
theorem yw{B:List Bool}{e:Int×Int}{r:Nat×Bool}(h:r.2=true):(oC B e r).2.2=true:=by
 have h1:(s7 B r).2=true:=by
  unfold s7 bq cm
  have:(if(!r.2&&B.getD r.1 false)=true then((0:Int),bg B r)else ki B 13 1 (bg B r)).2.2=true:=by
   rw[h];exact pS _ _ _ (fA h)
  rw[this]
  exact pS _ _ _ (fA this)
 unfold oC
 rw[if_pos (.inl h1)]
theorem Kb{a v:Int}(hv:0<=v/\v<4)(h:1<=a+n5 v/\a+n5 v<=31):dz a (a+n5 v)=(v,true):=by
 have:v=0\/v=1\/v=2\/v=3:=by omega
 rcases this with rfl|rfl|rfl|rfl
 ·rw[show n5 0 = -2 from rfl]at h ⊢
  unfold dz
  rw[if_neg (by omega)]
  repeat' split
  all_goals first|rfl|(exfalso;omega)
 ·rw[show n5 1 = -1 from rfl]at h ⊢
  unfold dz
  rw[if_neg (by omega)]
  repeat' split
  all_goals first|rfl|(exfalso;omega)
 ·rw[show n5 2=1 from rfl]at h ⊢
  unfold dz
  rw[if_neg (by omega)]
  repeat' split
  all_goals first|rfl|(exfalso;omega)
 ·rw[show n5 3=2 from rfl]at h ⊢
  unfold dz
  rw[if_neg (by omega)]
  repeat' split
  all_goals first|rfl|(exfalso;omega)
structure HE(S:bm)(X B:List Bool)(m:Mb)(z:gh):Prop where
 pre:X++az S m <+: B
 r:z.r=((X++az S m).length,false)
 kind:0<=m.kind/\m.kind<=4
 alo:S.inter=false->alone m=true
 st:m.kind=4->(dz S.qp m.qp).2=true
 qp:m.kind≠4->m.qp=S.qp
theorem u4{S R:bm}(hR:Rel S R){X B:List Bool}(hp:X <+: B){z:gh}(hz:eP R B (X.length,false)=z)(he:z.r.2=false){m:Mb}(hk:m.kind=z.m.kind)(hq:m.qp=z.m.qp):HE S X B m z:=by
 obtain⟨K,r1,h1⟩:∃K r1,jw R B (X.length,false)=(K,r1):=⟨_,_,rfl⟩
 obtain⟨Q,r2,h2⟩:∃Q r2,Cq R B (K,r1)=(Q,r2):=⟨_,_,rfl⟩
 have ez:z=⟨{ly with kind:=K,qp:=Q},{R with qp:=Q},r2⟩:=by
  rw[<-hz];unfold eP;rw[h1,h2]
 subst ez
 have hk:m.kind=K:=hk
 have hq:m.qp=Q:=hq
 have he:r2.2=false:=he
 subst hk hq
 unfold Cq at h2
 dsimp only at h2
 have hr1:r1.2=false:=iH fun ht=>by
  split at h2
  ·have hb:(bG B 2 r1).2.2=true:=nv ht
   split at h2
   ·rw[<-(Prod.mk.inj h2).2]at he;cases he
   ·rw[<-(Prod.mk.inj h2).2,hb]at he;cases he
  ·rw[<-(Prod.mk.inj h2).2,ht]at he;cases he
 have hkind:∃s,X++s <+: B/\r1=((X++s).length,false)/\(0<=m.kind/\m.kind<=4)/\(S.inter=false->alone m=true)/\(if S.inter=true then c9 cM m.kind.toNat else [decide (m.kind=4)])=s:=by
  unfold jw at h1
  rw[hR.inter]at h1
  by_cases hi:S.inter=true
  ·rw[if_pos hi]at h1
   obtain⟨a1,k0,k1⟩:=yY Lu h1 hr1
   obtain⟨b1,b2⟩:=kJ a1 hp
   have k1:m.kind<5:=k1
   exact⟨_,b1,b2,⟨k0,by omega⟩,fun h=>(by rw[hi]at h;cases h),if_pos hi⟩
  ·rw[if_neg hi]at h1
   have e1:=congrArg Prod.fst h1
   have e2:=congrArg Prod.snd h1
   dsimp only at e1 e2
   rw[<-e2]at hr1
   obtain⟨b1,b2⟩:=kJ (lV hr1) hp
   refine⟨_,b1,by rw[<-e2];exact b2,?_,fun _=>?_,?_⟩
   ·rw[<-e1];split<;>omega
   ·refine decide_eq_true ?_
    rw[<-e1];split<;>simp
   ·rw[if_neg hi,<-e1]
    cases cm B (X.length,false)<;>rfl
 obtain⟨s,p1,p2,k0,al,es⟩:=hkind
 by_cases h4:m.kind=4
 ·rw[if_pos h4]at h2
  obtain⟨v,r3,h3⟩:∃v r3,bG B 2 r1=(v,r3):=⟨_,_,rfl⟩
  have hv:=iL B 2 r1
  rw[h3]at h2 hv
  have hv:0<=v/\v<4:=hv
  dsimp only at h2
  split at h2
  ·rw[<-(Prod.mk.inj h2).2]at he;cases he
  ·rename_i hn
   have q1:=(Prod.mk.inj h2).1
   have q2:=(Prod.mk.inj h2).2
   subst q2
   rw[hR.qp]at q1 hn
   have hst:=Kb (a:=S.qp) hv (by omega)
   rw[q1]at hst
   have a2:=uG h3 he (by rw[p2];exact p1.length_le)
   rw[p2]at a2
   obtain⟨b1,b2⟩:=kJ a2 p1
   have ek:az S m=s++d8 v 2:=by unfold az;rw[es,if_pos h4,hst]
   refine⟨by rw[ek,<-List.append_assoc];exact b1,by rw[ek,<-List.append_assoc];exact b2,k0,al,fun _=>by rw[hst],fun h=>absurd h4 h⟩
 ·rw[if_neg h4]at h2
  have q1:=(Prod.mk.inj h2).1
  have q2:=(Prod.mk.inj h2).2
  subst q2
  have ek:az S m=s:=by unfold az;rw[es,if_neg h4,List.append_nil]
  refine⟨by rw[ek];exact p1,by rw[ek];exact p2,k0,al,fun h=>absurd h h4,fun _=>by rw[<-q1,hR.qp]⟩
theorem ui{x:bm×List Bool}{z:gh}(hR:Rel x.1 z.S){B:List Bool}(hp:x.2 <+: B)(hz:z.r=(x.2.length,false)){mb:Int}{k:Nat}(he:(rj B mb z k).r.2=false){m:Mb}(hv:m.v k=(rj B mb z k).m.v k):(au m mb x k).2 <+: B/\dH (m.v k)=true/\(rj B mb z k).r=((au m mb x k).2.length,false)/\Rel (au m mb x k).1 (rj B mb z k).S:=by
 obtain⟨v,r1,h1⟩:∃v r1,oC B (b9 z.S.M z.S.cols z.S.rows mb k) z.r=(v,r1):=⟨_,_,rfl⟩
 have e:rj B mb z k=⟨{z.m with v:=km z.m.v k v},{z.S with M:=aV z.S.M z.S.cols mb k v},r1⟩:=by unfold rj;rw[h1]
 rw[e]at he hv ⊢
 have hv:m.v k=v:=by rw[hv];exact if_pos rfl
 subst hv
 obtain⟨a1,hr⟩:=E5 h1 he
 rw[hz]at a1
 obtain⟨b1,b2⟩:=kJ a1 hp
 rw[hR.cols,hR.rows,pZ hR.M]at b1 b2
 exact⟨b1,hr,b2,EK hR mb k (m.v k)⟩
theorem jK{B:List Bool}{mb:Int}{z:gh}{k:Nat}(h:z.r.2=true):(rj B mb z k).r.2=true:=yw h
structure N4(S:bm)(X B:List Bool)(m:Mb)(mb:Int)(z:gh):Prop where
 pre:(bC S X m mb).2 <+: B
 r:z.r=((bC S X m mb).2.length,false)
 vecs:∀k,k<4->ow m k
 edge:alone m=false->m.edge=false
theorem Az{S R:bm}(hR:Rel S R){X B:List Bool}(hp:X <+: B){mb:Int}{z1 z:gh}(hz1:eP R B (X.length,false)=z1)(hz:ch B mb z1=z)(he:z.r.2=false){m:Mb}(hk:m.kind=z1.m.kind)(hq:m.qp=z1.m.qp)(h0:m.kind≠0)(hv:∀k,k<4->m.v k=z.m.v k)(hed:m.edge=z.m.edge):HE S X B m z1/\N4 S X B m mb z:=by
 have he1:z1.r.2=false:=iH fun ht=>by
  unfold ch at hz
  split at hz
  ·rw[<-hz]at he
   rw[yw ht]at he;cases he
  ·split at hz
   ·rw[<-hz]at he
    rw[jK (jK (jK (jK ht)))]at he;cases he
   ·rw[<-hz]at he
    rw[fA ht]at he;cases he
 have hh:=u4 hR hp hz1 he1 hk hq
 have hS1:z1.S = {R with qp:=m.qp}:=by
  rw[hq,<-hz1];rfl
 have hm1:z1.m = {ly with kind:=m.kind,qp:=m.qp}:=by
  rw[hk,hq,<-hz1];rfl
 refine⟨hh,?_⟩
 unfold ch at hz
 rw[<-hk]at hz
 by_cases h1:m.kind=1
 ·rw[if_pos h1]at hz
  obtain⟨v,r1,h2⟩:∃v r1,oC B (b9 z1.S.M z1.S.cols z1.S.rows mb 0) z1.r=(v,r1):=⟨_,_,rfl⟩
  rw[h2]at hz
  subst hz
  have he:r1.2=false:=he
  have hv:∀k,k<4->m.v k=v:=hv
  obtain⟨a1,hr⟩:=E5 h2 he
  rw[hh.r]at a1
  obtain⟨b1,b2⟩:=kJ a1 hh.pre
  have e:b9 z1.S.M z1.S.cols z1.S.rows mb 0=b9 S.M S.cols S.rows mb 0:=by
   rw[hS1]
   show b9 R.M R.cols R.rows mb 0=_
   rw[hR.cols,hR.rows,pZ hR.M]
  rw[e,<-hv 0 (by decide)]at b1 b2
  have eH:bC S X m mb=(aX (au m mb (S,X++az S m) 0).1 mb m.v,(au m mb (S,X++az S m) 0).2):=by unfold bC;rw[if_neg h0,if_pos h1]
  refine⟨by rw[eH];exact b1,by rw[eH];exact b2,fun k hk4=>⟨by rw[hv k hk4];exact hr,fun _=>by rw[hv k hk4,hv 0 (by decide)],fun h=>absurd h1 h⟩,fun _=>?_⟩
  rw[hed,hm1];rfl
 ·rw [if_neg h1]at hz
  by_cases h2:m.kind=2
  ·rw[if_pos h2]at hz
   have i0:Rel (S,X++az S m).1 z1.S:=by
    rw[hS1]
    exact⟨hR.inter,hh.qp (by omega),hR.cols,hR.rows,hR.M,hR.a,hR.b,hR.c⟩
   obtain⟨z2,e2⟩:∃z2,rj B mb z1 0=z2:=⟨_,rfl⟩
   obtain⟨z3,e3⟩:∃z3,rj B mb z2 1=z3:=⟨_,rfl⟩
   obtain⟨z4,e4⟩:∃z4,rj B mb z3 2=z4:=⟨_,rfl⟩
   rw[e2,e3,e4]at hz
   have n4:z4.r.2=false:=iH fun ht=>by rw[<-hz,jK ht]at he;cases he
   have n3:z3.r.2=false:=iH fun ht=>by rw[<-e4,jK ht]at n4;cases n4
   have n2:z2.r.2=false:=iH fun ht=>by rw[<-e3,jK ht]at n3;cases n3
   have w:∀{z z':gh} {k j:Nat},rj B mb z k=z'->j≠k->z'.m.v j=z.m.v j:=fun h hj=>by rw[<-h];exact if_neg hj
   have v0:m.v 0=(rj B mb z1 0).m.v 0:=by rw[hv 0 (by decide),w hz (by decide),w e4 (by decide),w e3 (by decide),e2]
   have v1:m.v 1=(rj B mb z2 1).m.v 1:=by rw[hv 1 (by decide),w hz (by decide),w e4 (by decide),e3]
   have v2:m.v 2=(rj B mb z3 2).m.v 2:=by rw[hv 2 (by decide),w hz (by decide),e4]
   have v3:m.v 3=(rj B mb z4 3).m.v 3:=by rw[hv 3 (by decide),hz]
   have s0:=ui (mb:=mb) (k:=0) i0 hh.pre hh.r (by rw[e2];exact n2) v0
   rw[e2]at s0
   have s1:=ui (mb:=mb) (k:=1) s0.2.2.2 s0.1 s0.2.2.1 (by rw[e3];exact n3) v1
   rw[e3]at s1
   have s2:=ui (mb:=mb) (k:=2) s1.2.2.2 s1.1 s1.2.2.1 (by rw[e4];exact n4) v2
   rw[e4]at s2
   have s3:=ui (mb:=mb) (k:=3) s2.2.2.2 s2.1 s2.2.2.1 (by rw[hz];exact he) v3
   rw[hz]at s3
   have eH:(bC S X m mb).2=(au m mb (au m mb (au m mb (au m mb (S,X++az S m) 0) 1) 2) 3).2:=by unfold bC;rw[if_neg h0,if_neg h1,if_pos h2]
   refine⟨by rw[eH];exact s3.1,by rw[eH];exact s3.2.2.1,fun k hk4=>⟨?_,fun h=>absurd h2 h,fun _ h=>absurd h2 h⟩,fun _=>?_⟩
   ·match k,hk4 with
    | 0,_=>exact s0.2.1
    | 1,_=>exact s1.2.1
    | 2,_=>exact s2.2.1
    | 3,_=>exact s3.2.1
   ·have we:∀{z z':gh} {k:Nat},rj B mb z k=z'->z'.m.edge=z.m.edge:=fun h=>by rw[<-h];rfl
    rw[hed,we hz,we e4,we e3,we e2,hm1];rfl
  ·rw[if_neg h2]at hz
   subst hz
   have he:(bg B z1.r).2=false:=he
   have hed:m.edge=cm B z1.r:=hed
   rw[hh.r]at he
   obtain⟨b1,b2⟩:=kJ (lV he) hh.pre
   rw[<-hh.r,<-hed]at b1 b2
   have eH:(bC S X m mb).2=(X++az S m)++[m.edge]:=by unfold bC;rw[if_neg h0,if_neg h1,if_neg h2]
   have h34:m.kind=3\/m.kind=4:=by have:=hh.kind;omega
   have hvz:∀k,k<4->m.v k=(0,0):=fun k hk4=>by
    rw[hv k hk4]
    show z1.m.v k=(0,0)
    rw[hm1];rfl
   refine⟨by rw[eH];exact b1,by rw[eH];exact b2,fun k hk4=>⟨by rw[hvz k hk4];rfl,fun _=>by rw[hvz k hk4,hvz 0 (by decide)],fun _ _=>hvz k hk4⟩,fun h=>?_⟩
   rw[show alone m=true from decide_eq_true h34]at h;cases h
theorem oZ{B:List Bool}{mb:Int}{z:gh}{k:Nat}(h:z.r.2=true):(oo B mb z k).r.2=true:=by
 unfold oo
 dsimp only
 split
 ·rfl
 ·exact G7 h
theorem AN{B:List Bool}{mb:Int}{z:gh}{k:Nat}:∀n,k<n->(da B mb z n).m.lev (k*64)=oY B mb (da B mb z k) k
 | 0,h=>absurd h (Nat.not_lt_zero _)
 | n + 1,h=>by
   show cw (da B mb z n).m.lev (n*64) _ (k*64)=_
   unfold cw
   by_cases hkn:k=n
   ·subst hkn;rw[if_pos rfl]
   ·rw[if_neg (by omega)]
    exact AN n (by omega)
theorem ID{m:Mb}{mb:Int}(ha:alone m=true)(hg:jE m){x0:oD}{z:gh}(hz:oL x0.S x0.B m z){B:List Bool}(hp:x0.B <+: B):∀k,k<=6->(∀j,j<k->m.lev (j*64)=oY B mb (da B mb z j) j)->(da B mb z k).r.2=false->∀x,fJ m mb x0 k=some x->x.B <+: B:=by
 intro k
 induction k with
 | zero=>intro _ _ _ x hx;cases hx;exact hp
 | succ k ih=>
   intro hk hl he x hx
   obtain⟨y,r,hy,hr,rfl⟩:=gv hx
   have eB:(cC m mb k y (nr m y.S mb k r)).B=y.B++bY (aK m k 0-(a_ y.S mb k m.qp).2):=if_pos ha
   have he0:(da B mb z k).r.2=false:=iH fun ht=>by
    have:(da B mb z (k+1)).r.2=true:=oZ ht
    rw[this]at he;cases he
   have hyp:=ih (by omega) (fun j hj=>hl j (by omega)) he0 y hy
   have h:=sJ ha hg hz k (by omega) y hy hyp
   have hlk:=hl k (by omega)
   obtain⟨w,hw⟩:∃w,da B mb z k=w:=⟨_,rfl⟩
   rw[hw]at h he0 hlk
   have he:(oo B mb w k).r.2=false:=by rw[<-hw];exact he
   unfold oo at he
   dsimp only at he
   have hnb:¬sI B mb w k:=fun hb=>by rw[if_pos hb]at he;cases he
   rw[if_neg hnb]at he
   obtain⟨d,r1,hd⟩:∃d r1,eI B w.r=(d,r1):=⟨_,_,rfl⟩
   rw[hd]at he
   have a1:=Nh hd he
   rw[h.r]at a1
   obtain⟨b1,_⟩:=kJ a1 hyp
   rw[eB]
   have e0:aK m k 0=m.lev (k*64):=by unfold aK;rw[Nat.add_zero]
   have ev:m.lev (k*64)=(a_ y.S mb k m.qp).2+d:=by
    rw[hlk]
    unfold oY
    rw[if_neg hnb]
    unfold AO
    rw[hd,h.qp,BU h.rel]
   rw[e0,ev,show(a_ y.S mb k m.qp).2+d-(a_ y.S mb k m.qp).2=d by omega]
   exact b1
theorem CS{B:List Bool}{mb:Int}{x:gh}{k:Nat}:0<=oY B mb x k/\oY B mb x k<=127:=by
 unfold oY
 by_cases h:sI B mb x k
 ·rw[if_pos h];decide
 ·rw[if_neg h];unfold sI at h;omega
theorem L4:∀(a a':Fin 16) (c c':Fin 4),(∀j:Fin 6,j6 (a.val:Int) (c.val:Int) j.val=j6 (a'.val:Int) (c'.val:Int) j.val)->a=a'/\c=c':=by decide +kernel
theorem Kk{S R : bm}(hR:Rel S R)(hT:cj S.M){m:Mb}(hg:jE m){mb:Int}(hf:ln S m){X bw B:List Bool}(hp:X <+: B){S':bm}{X' bw':List Bool}(hput:hJ S X bw m mb=some (S',X',bw')){x:gh}{has:Nat->Bool}(hx:b_ R B mb (X.length,false)=(x,has))(he:x.r.2=false)(ho:xp m x.m)(hh:∀k,k<6->has k=decide (0<(tS S X m mb k).length)):X' <+: B:=by
 obtain⟨z1,hz1⟩:∃z1,eP R B (X.length,false)=z1:=⟨_,rfl⟩
 unfold b_ at hx
 rw[hz1]at hx
 unfold Kp at hx
 unfold hJ at hput
 by_cases h0:m.kind=0
 ·rw [if_pos h0]at hput
  have e2:=(Prod.mk.inj (Prod.mk.inj (Option.some.inj hput)).2).1
  have hk1 : z1.m.kind=0:=by
   split at hx
   ·assumption
   ·rename_i hn
    exfalso
    have hkx:x.m.kind=z1.m.kind:=by
     have e1:=congrArg (fun q=>q.1.m.kind) hx
     have w1:∀y:gh,(b6 B mb y).m.kind=y.m.kind:=fun y=>by
      unfold b6
      split
      ·have:∀k,(da B mb y k).m.kind=y.m.kind:=fun k=>by
        induction k with
        | zero=>rfl
        | succ k ih=>exact ih
       exact this 6
      ·rfl
     have w2:∀y:gh,(ch B mb y).m.kind=y.m.kind:=fun y=>by
      unfold ch
      split
      ·rfl
      ·split<;>rfl
     rw[<-e1]
     show(b6 B mb (bD mb (ch B mb z1))).m.kind=_
     rw[w1]
     exact w2 z1
    rw[ho.kind,h0]at hkx
    exact hn hkx.symm
  rw[if_pos hk1]at hx
  have e1:bD mb z1=x:=congrArg Prod.fst hx
  have hm:x.m=z1.m:=by rw[<-e1];rfl
  have hh:=u4 (m:=m) hR hp hz1 (by rw[<-e1]at he;exact he) (by rw[<-hm];exact ho.kind.symm) (by rw[<-hm];exact ho.qp.symm)
  rw[<-e2]
  exact hh.pre
 ·rw [if_neg h0]at hput
  obtain⟨y,hy,e⟩:=Option.map_eq_some_iff.1 hput
  have e2:=(Prod.mk.inj (Prod.mk.inj e).2).1
  obtain⟨z,hz⟩:∃z,ch B mb z1=z:=⟨_,rfl⟩
  obtain⟨w,hw⟩:∃w,b6 B mb (bD mb z)=w:=⟨_,rfl⟩
  have hk1:z1.m.kind≠0:=fun hc=>by
   rw[if_pos hc]at hx
   have e1:bD mb z1=x:=congrArg Prod.fst hx
   have:x.m.kind=0:=by rw[<-e1];exact hc
   rw[ho.kind]at this
   exact h0 this
  rw[if_neg hk1,hz,hw]at hx
  obtain⟨pt,r1,h1⟩:∃p r1,kK cP B w.r=(p,r1):=⟨_,_,rfl⟩
  obtain⟨cl,r2,h2⟩:∃c r2,bG B 2 r1=(c,r2):=⟨_,_,rfl⟩
  unfold v9 at hx
  rw[h1]at hx
  dsimp only at hx
  rw[h2]at hx
  have ex:=congrArg Prod.fst hx
  have eh:=congrArg Prod.snd hx
  dsimp only at ex eh
  have hr2:r2.2=false:=by rw[<-ex]at he;exact he
  have hr1:r1.2=false:=iH fun ht=>by
   have:=nv (B:=B) (n:=2) ht
   rw[h2]at this
   rw[this]at hr2;cases hr2
  have hwe:w.r.2=false:=iH fun ht=>by
   have:=sG (C:=cP) (B:=B) ht
   rw[h1]at this
   rw[this]at hr1;cases hr1
  have hze:z.r.2=false:=iH fun ht=>by
   have : w.r.2=true:=by
    rw[<-hw]
    unfold b6
    split
    ·have:∀k,(da B mb (bD mb z) k).r.2=true:=fun k=>by
      induction k with
      | zero=>exact ht
      | succ k ih=>exact oZ ih
     exact this 6
    ·exact ht
   rw[this]at hwe;cases hwe
  have hxm:x.m=w.m:=by rw[<-ex]
  have wk:w.m.kind=z.m.kind/\w.m.qp=z.m.qp/\w.m.v=z.m.v/\w.m.edge=z.m.edge:=by
   rw[<-hw]
   unfold b6
   split
   ·have:∀k,(da B mb (bD mb z) k).m.kind=z.m.kind/\(da B mb (bD mb z) k).m.qp=z.m.qp/\(da B mb (bD mb z) k).m.v=z.m.v/\(da B mb (bD mb z) k).m.edge=z.m.edge:=fun k=>by
     induction k with
     | zero=>exact⟨rfl,rfl,rfl,rfl⟩
     | succ k ih=>exact ih
    exact this 6
   ·exact⟨rfl,rfl,rfl,rfl⟩
  have zk:z.m.kind=z1.m.kind/\z.m.qp=z1.m.qp:=by
   rw[<-hz]
   unfold ch
   split
   ·exact⟨rfl,rfl⟩
   ·split<;>exact⟨rfl,rfl⟩
  obtain⟨b1,b2⟩:=Az (m:=m) hR hp hz1 hz hze (by rw[<-zk.1,<-wk.1,<-hxm];exact ho.kind.symm) (by rw[<-zk.2,<-wk.2.1,<-hxm];exact ho.qp.symm) h0 (fun k hk=>by rw[<-wk.2.2.1,<-hxm];exact(ho.v k hk).symm) (by rw[<-wk.2.2.2,<-hxm];exact ho.edge.symm)
  have hho:=AZ (mb:=mb) hR hT hg.ok hf h0 b2.pre
  rw[hz1,hz]at hho
  have hev:∀k,tS S X m mb k=y.ev k:=fun k=>by unfold tS;rw[if_neg h0,hy]
  have hyB:y.B <+: B/\w.r=(y.B.length,false):=by
   have eal:alone z.m=alone m:=by unfold alone;rw[<-wk.1,<-hxm,ho.kind]
   have eal2:alone (bD mb z).m=alone m:=eal
   unfold b6 at hw
   rw[eal2]at hw
   by_cases ha:alone m=true
   ·rw[if_pos ha]at hw
    have hl:∀j,j<6->m.lev (j*64)=oY B mb (da B mb (bD mb z) j) j:=fun j hj=>by
     have q1:=ho.lev (j*64)
     rw[if_pos ⟨ha,by omega,by omega⟩,hxm,<-hw,AN 6 hj]at q1
     exact q1.symm
    have q:=ID ha hg (x0:=⟨(bC S X m mb).1,(bC S X m mb).2,0,0,fun _=>[]⟩) hho b2.pre 6 (Nat.le_refl _) hl (by rw[hw];exact hwe) y hy
    have q2:=sJ ha hg (x0:=⟨(bC S X m mb).1,(bC S X m mb).2,0,0,fun _=>[]⟩) hho 6 (Nat.le_refl _) y hy q
    rw[hw]at q2
    exact⟨q,q2.r⟩
   ·rw[if_neg ha]at hw
    have hs:=uI (by simpa using ha) 6 y hy
    have hs2:y.B=(bC S X m mb).2:=hs.2
    rw[hs2,<-hw]
    exact⟨b2.pre,b2.r⟩
  rw[hyB.2]at h1
  obtain⟨a1,p0,p1⟩:=yY Lv h1 hr1
  have p1:pt<16:=p1
  obtain⟨c1,c2⟩:=kJ a1 hyB.1
  have hcl:=iL B 2 r1
  rw[h2]at hcl
  have hcl:0<=cl/\cl<4:=hcl
  have a2:=uG h2 hr2 (by rw[c2];exact c1.length_le)
  rw[c2]at a2
  obtain⟨d1,d2⟩:=kJ a2 c1
  obtain⟨hho2,_⟩:=Ep 6 (Nat.le_refl _) y hy
  have hinj:=L4 ⟨y.pat.toNat,by have:=hho2.pat;omega⟩ ⟨pt.toNat,by omega⟩ ⟨y.col.toNat,by have:=hho2.col;omega⟩ ⟨cl.toNat,by omega⟩ (fun j=>by
   have e1:((y.pat.toNat:Nat):Int)=y.pat:=by have:=hho2.pat;omega
   have e2:((y.col.toNat:Nat):Int)=y.col:=by have:=hho2.col;omega
   have e3:((pt.toNat:Nat):Int)=pt:=by omega
   have e4:((cl.toNat:Nat):Int)=cl:=by omega
   show j6 ((y.pat.toNat:Nat):Int) ((y.col.toNat:Nat):Int) j.val=j6 ((pt.toNat:Nat):Int) ((cl.toNat:Nat):Int) j.val
   rw[e1,e2,e3,e4,hho2.has j.val j.isLt,<-hev,<-hh j.val j.isLt,<-eh])
  have i1:y.pat.toNat=pt.toNat:=congrArg Fin.val hinj.1
  have i2:y.col.toNat=cl.toNat:=congrArg Fin.val hinj.2
  have i3:y.col=cl:=by have:=hho2.col;omega
  rw[<-e2]
  unfold fj
  rw[i1,i3]
  exact d1
theorem HZ:∀(l:List Ev) (a:Int) (g f:Nat->Int),(∀e∈l,oE e)->0<=a->bk l a g=some f->∀j:Nat,(j:Int)<a->f j=g j
 | [],a,g,f,_,_,h,j,hj=>by cases h;rfl
 | e :: l,a,g,f,hok,ha,h,j,hj=>by
   have he:=(hok e (List.mem_cons_self ..)).run
   rw[bk]at h
   split at h
   ·cases h
   ·rw[HZ l _ _ f (fun x hx=>hok x (List.mem_cons_of_mem _ hx)) (by omega) h j (by omega)]
    unfold cw
    rw[if_neg (by omega)]
theorem zt{f:Nat->Int}:∀(n i:Nat) (run:Int),(∀j,i<=j->j<i+n->f j=0)->eD f n i run = []
 | 0,_,_,_=>rfl
 | n+1,i,run,h=>by
   rw[eD,if_pos (h i (Nat.le_refl _) (by omega))]
   exact zt n (i+1) _ fun j h1 h2=>h j (by omega) (by omega)
theorem vO{f:Nat->Int}:∀(d i n:Nat) (run:Int),(∀j,i<=j->j<i+d->f j=0)->eD f (d+n) i run=eD f n (i+d) (run+(d:Nat))
 | 0,i,n,run,_=>by rw[Nat.zero_add,Nat.add_zero];congr 1;omega
 | d+1,i,n,run,h=>by
   rw[show d+1+n=(d+n)+1 by omega,eD,if_pos (h i (Nat.le_refl _) (by omega)),vO d (i+1) n (run+1) fun j h1 h2=>h j (by omega) (by omega)]
   rw[show i+1+d=i+(d+1) by omega,show run+1+((d:Nat):Int)=run+((d+1:Nat):Int) by omega]
theorem Ec:∀(l:List Ev) (i:Nat) (g f:Nat->Int),(∀e∈l,oE e)->i<=64->(∀j,i<=j->g j=0)->bk l (i:Nat) g=some f->eD f (64-i) i 0=l.map fun e=>(e.1,e.2.1,false)
 | [],i,g,f,_,hi,hg,h=>by
   cases h
   exact zt _ _ _ fun j h1 _=>hg j h1
 | e :: l,i,g,f,hok,hi,hg,h=>by
   have he:=hok e (List.mem_cons_self ..)
   have hr:=he.run
   have hokl:∀x∈l,oE x:=fun x hx=>hok x (List.mem_cons_of_mem _ hx)
   rw[bk]at h
   split at h
   ·cases h
   ·rename_i h63
    obtain⟨d,hd⟩:∃d:Nat,e.1=(d:Nat):=⟨e.1.toNat,by omega⟩
    have e1:((i:Nat):Int)+e.1+1=((i+d+1:Nat):Int):=by omega
    have e2:(((i:Nat):Int)+e.1).toNat=i+d:=by omega
    rw[e1,e2]at h
    have hlow:=HZ l _ _ f hokl (by omega) h
    have hz:∀j,i<=j->j<i+d->f j=0:=fun j h1 h2=>by
     rw[hlow j (by omega)]
     unfold cw
     rw[if_neg (by omega)]
     exact hg j h1
    have hp:f (i+d)=e.2.1:=by
     rw[hlow (i+d) (by omega)]
     unfold cw
     rw[if_pos rfl]
    have hs:=vO (f:=f) d i (64-(i+d)) 0 hz
    rw[show d+(64-(i+d))=64-i by omega]at hs
    rw[hs,show 64-(i+d)=(64-(i+d+1))+1 by omega,eD,if_neg (by rw[hp];exact he.nz)]
    have ih:=Ec l (i+d+1) _ f hokl (by omega) (fun j hj=>by
     unfold cw
     rw[if_neg (by omega)]
     exact hg j (by omega)) h
    rw[ih,hp,Int.zero_add,<-hd]
    rfl
theorem u7:∀(l:List Ev),(∀j,j<l.length->(l.getD j default).2.2=decide (j+1=l.length))->iP (l.map fun e=>(e.1,e.2.1,false))=l
 | [],_=>rfl
 | [e],h=>by
   have h0:e.2.2=true:=h 0 Nat.one_pos
   show [((e.1,e.2.1,true):Ev)] = [e]
   rw[<-h0]
 | e :: e2::l,h=>by
   have h0:e.2.2=decide (0+1=(e::e2::l).length):=h 0 (Nat.succ_pos _)
   rw[decide_eq_false (by simp)]at h0
   have ih:=u7 (e2::l) fun j hj=>by
    have h1:((e2::l).getD j default).2.2=decide (j+1+1=(e2::l).length+1):=h (j+1) (Nat.succ_lt_succ hj)
    rw[h1]
    exact decide_eq_decide.2 ⟨fun h=>by omega,fun h=>by omega⟩
   show(e.1,e.2.1,false)::iP ((e2::l).map fun e=>(e.1,e.2.1,false))=_
   rw[ih,<-h0]
theorem LH{l:List Ev}(h:jW l):∀e∈l,oE e:=fun e he=>by
 obtain⟨j,hj,rfl⟩:=List.mem_iff_getElem.1 he
 have:=h.ok j hj
 rw[List.getD_eq_getElem?_getD,List.getElem?_eq_getElem hj]at this
 exact this
theorem Fs{l:List Ev}(h:jW l){st:Nat}(hst:st<=1){f:Nat->Int}(hf:iY l (st:Nat)=some f):dS f st=l:=by
 rw[Aw]at hf
 unfold dS
 rw[Ec l st _ f (LH h) (by omega) (fun _ _=>rfl) hf]
 exact u7 l h.last
theorem pj{f g:Nat->Int}:∀(n i:Nat) (run:Int),(∀j,i<=j->j<i+n->f j=g j)->eD f n i run=eD g n i run
 | 0,_,_,_=>rfl
 | n+1,i,run,h=>by
   rw[eD,eD,h i (Nat.le_refl _) (by omega),pj n (i+1) _ fun j h1 h2=>h j (by omega) (by omega),pj n (i+1) _ fun j h1 h2=>h j (by omega) (by omega)]
theorem qX{f g:Nat->Int}{st:Nat}(h:∀j,st<=j->j<64->f j=g j):dS f st=dS g st:=by
 unfold dS
 rw[pj _ _ _ fun j h1 h2=>h j h1 (by omega)]
theorem Gn(st:Nat):dS (fun _=>0) st = []:=by
 unfold dS
 rw[zt _ _ _ fun _ _ _=>rfl]
 rfl
theorem rZ{o:Int}(h:o=0\/o=1\/o=2)(f:Nat->Int){j:Nat}(hj:j<64):dc o f (oG o j).toNat=f j:=zI h f 64 (Nat.le_refl _) j hj
theorem ED{o:Int}(h:o=0\/o=1\/o=2){j:Nat}(hj:j<64)(h1:1<=j):(oG o j).toNat≠0:=fun e=>by
 have h2:=kP h hj
 have h3:=Bs h
 have:=EC h hj (show 0<64 by decide) (by omega)
 omega
structure PT(S:bm)(m:Mb)(mb:Int)(k:Nat)(first:Int)(ev:List Ev)(R:bm):Prop where
 rest:∃r,fW m S mb k=some r/\nr m S mb k r=ev
 rng:∀i,i<64 -> -2047<=aK m k i/\aK m k i<=2047
 first:alone m=true->aK m k 0=first
 rel:kH (if alone m=true then bu S mb k ⟨aK m k,m.qp⟩else S) R
theorem Ix{S R:bm}(hR:kH S R){mb:Int}{k:Nat}{m0:Mb}{rest:Nat->Int}{R':bm}{m1:Mb}(hF:g_ R mb k m0 rest=some (R',m1))(hm:alone m0=false->m0.edge=false)(hfi:alone m0=true->0<=m0.lev (k*64)/\m0.lev (k*64)<=127)(hr:∀i,-2047<=rest i/\rest i<=2047){m:Mb}(hmk:m.kind=m0.kind)(hmq:m.qp=m0.qp)(hme:m.edge=m0.edge)(hml:∀i,i<64->aK m k i=m1.lev (k*64+i)) :
 PT S m mb k (m0.lev (k*64)) (dS rest (if alone m=true then 1 else 0)) R':=by
 have ha:alone m=alone m0:=by unfold alone;rw[hmk]
 have hset:∀(l:Nat->Int) (i:Nat),i<64->(dE m0 k l).lev (k*64+i)=l i:=fun l i hi=>by
  show(if k*64<=k*64+i/\k*64+i<k*64+64 then l (k*64+i-k*64)else m0.lev (k*64+i))=l i
  rw[if_pos (by omega),Nat.add_sub_cancel_left]
 obtain⟨od,hod⟩:∃od,dD m.edge (a_ S mb k m.qp).1=od:=⟨_,rfl⟩
 have hor:=eT m.edge (a_ S mb k m.qp).1
 rw[hod]at hor
 have hod2:dD m0.edge (a_ R mb k m0.qp).1=od:=by rw[<-hme,<-hmq,yp hR];exact hod
 have hst:∀i,i<64 -> -2047<=dc od rest i/\dc od rest i<=2047:=fun i hi=>by
  obtain⟨j,hj,he⟩:=EE hor hi
  have:=rZ hor rest hj
  rw[he,Int.toNat_natCast]at this
  rw[this];exact hr j
 unfold g_ at hF
 cases hal:alone m with
 | false=>
   rw[<-ha,hal,if_neg (by decide)]at hF
   have e1:=(Prod.mk.inj (Option.some.inj hF)).1
   have e2:=(Prod.mk.inj (Option.some.inj hF)).2
   subst e1 e2
   have hl:∀i,i<64->aK m k i=dc 0 rest i:=fun i hi=>by rw[hml i hi,hset _ i hi]
   have hz:od=0:=by rw[<-hod,hme,hm (ha▸hal)];rfl
   rw[hz]at hst hor hod
   refine⟨⟨aK m k,by unfold fW;rw[hal,if_neg (by decide)],?_⟩,fun i hi=>by rw[hl i hi];exact hst i hi,fun h=>(by rw[hal]at h;cases h),by rw[hal,if_neg (by decide)];exact hR⟩
   unfold nr
   rw[hal,if_neg (by decide),hod]
   refine qX fun j _ hj=>?_
   unfold hU
   have:=kP hor hj
   rw[hl _ (by omega),rZ hor rest hj]
 | true =>
   rw[<-ha,hal,if_pos rfl]at hF
   have hfi:=hfi (ha▸hal)
   rw[hod2]at hF
   cases hed:m0.edge with
   | false=>
     rw[hed,if_neg (by decide)]at hF
     have e1:=(Prod.mk.inj (Option.some.inj hF)).1
     have e2:=(Prod.mk.inj (Option.some.inj hF)).2
     subst e1 e2
     have hl:∀i,i<64->aK m k i=cw (dc od rest) 0 (m0.lev (k*64)) i:=fun i hi=>by rw[hml i hi,hset _ i hi]
     refine⟨⟨cw (aK m k) 0 0,by unfold fW;rw[hal,if_pos rfl,hme,hed,if_neg (by decide)];rfl,?_⟩,fun i hi=>?_,fun _=>by rw[hl 0 (by decide)];exact if_pos rfl,?_⟩
     ·unfold nr
      rw[hal,if_pos rfl,hod]
      refine qX fun j h1 hj=>?_
      unfold hU
      have:=kP hor hj
      have hp:=ED hor hj h1
      unfold cw
      rw[if_neg hp,hl _ (by omega)]
      unfold cw
      rw[if_neg hp,rZ hor rest hj]
     ·rw[hl i hi]
      unfold cw
      split
      ·omega
      ·exact hst i hi
     ·rw[hal,if_pos rfl,hmq]
      exact pW hR mb k (Eu fun i hi=>(hl i hi).symm)
   | true =>
     rw[hed,if_pos rfl]at hF
     cases hmo:j9 (dc od rest) (cq R mb k m0.qp)with
     | none=>rw[hmo]at hF;cases hF
     | some l1=>
       rw[hmo]at hF
       have e1:=(Prod.mk.inj (Option.some.inj hF)).1
       have e2:=(Prod.mk.inj (Option.some.inj hF)).2
       subst e1 e2
       obtain⟨E,hE⟩:∃E,cq S mb k m.qp=E:=⟨_,rfl⟩
       have hE2:cq R mb k m0.qp=E:=by rw[<-hmq,vY hR];exact hE
       have hE0:E 0=0:=by rw[<-hE];exact vZ _ _ _ _
       rw[hE2]at hmo
       unfold j9 at hmo
       split at hmo
       ·cases hmo
       ·rename_i hnb
        cases hmo
        have hb:∀i,i<64 -> -2047<=dc od rest i+E i/\dc od rest i+E i<=2047:=fun i hi=>by
         have h1:¬dc od rest i+E i < -2047:=fun q=>hnb ⟨i,hi,.inl q⟩
         have h2:¬2047<dc od rest i+E i:=fun q=>hnb ⟨i,hi,.inr q⟩
         omega
        have hl:∀i,i<64->aK m k i=cw (fun i=>dc od rest i+E i) 0 (m0.lev (k*64)) i:=fun i hi=>by rw[hml i hi,hset _ i hi]
        have hle:ot (aK m k) E=some fun i=>aK m k i-E i:=by
         refine if_neg fun⟨i,hi,hbad⟩=>?_
         unfold lZ at hbad
         rw[hl i hi]at hbad
         unfold cw at hbad
         have:=hst i hi
         by_cases h0:i=0
         ·subst h0
          rw[if_pos rfl,hE0]at hbad
          omega
         ·rw[if_neg h0]at hbad
          dsimp only at hbad
          omega
        refine⟨⟨cw (fun i=>aK m k i-E i) 0 0,by unfold fW;rw[hal,if_pos rfl,hme,hed,if_pos rfl,hE,hle];rfl,?_⟩,fun i hi=>?_,fun _=>by rw[hl 0 (by decide)];exact if_pos rfl,?_⟩
        ·unfold nr
         rw[hal,if_pos rfl,hod]
         refine qX fun j h1 hj=>?_
         unfold hU
         have:=kP hor hj
         have hp:=ED hor hj h1
         unfold cw
         rw[if_neg hp]
         dsimp only
         rw[hl _ (by omega)]
         unfold cw
         rw[if_neg hp]
         dsimp only
         rw[rZ hor rest hj]
         omega
        ·rw[hl i hi]
         unfold cw
         split
         ·omega
         ·exact hb i hi
        ·rw[hal,if_pos rfl,hmq]
         exact pW hR mb k (Eu fun i hi=>(hl i hi).symm)
theorem CT{E:List (List Ev)}{mb:Int}{has:Nat->Bool}{x y:FK}{k:Nat}(h:fK E mb has x k = .inr y):∃rest,g_ x.1 mb k x.2.1 rest=some (y.1,y.2.1)/\y.2.2=x.2.2+(if has k=true then 1 else 0)/\if has k=true then x.2.2<E.length/\iY (E.getD x.2.2 []) (eJ x.2.1)=some rest else rest=fun _=>0:=by
 unfold fK at h
 have hr:∀{u:Nat} {rest:Nat->Int},FI mb x k u rest = .inr y->g_ x.1 mb k x.2.1 rest=some (y.1,y.2.1)/\y.2.2=u:=fun {u rest} h=>by
  unfold FI at h
  cases hf:g_ x.1 mb k x.2.1 rest with
  | none=>rw[hf]at h;cases h
  | some z=>rw[hf]at h;cases h;exact⟨rfl,rfl⟩
 by_cases hh:has k=true
 ·rw [if_pos hh]at h
  split at h
  ·cases h
  ·rename_i hu
   cases hb:iY (E.getD x.2.2 []) (eJ x.2.1)with
   | none=>rw[hb]at h;cases h
   | some rest=>
     rw[hb]at h
     obtain⟨a,b⟩:=hr h
     exact⟨rest,a,by rw[b,if_pos hh],by rw[if_pos hh];exact⟨by omega,rfl⟩⟩
 ·rw[if_neg hh]at h
  obtain⟨a,b⟩:=hr h
  exact⟨fun _=>0,a,by rw[b,if_neg hh];rfl,by rw[if_neg hh]⟩
theorem uY{S:bm}{mb:Int}{k:Nat}{m:Mb}{rest:Nat->Int}{y:bm×Mb}(h:g_ S mb k m rest=some y):∃l,y.2=dE m k l:=by
 unfold g_ at h
 split at h
 ·obtain⟨l,_,h2⟩:=Option.map_eq_some_iff.1 h
  exact⟨_,by rw[<-h2]⟩
 ·cases h;exact⟨_,rfl⟩
structure Kept(m m':Mb)(k:Nat):Prop where
 kind:m'.kind=m.kind
 qp:m'.qp=m.qp
 edge:m'.edge=m.edge
 v:m'.v=m.v
 lo:∀i,i<k*64->m'.lev i=m.lev i
theorem qK{E:List (List Ev)}{mb:Int}{has:Nat->Bool}{x0:FK}{k:Nat}{y:FK}(h:ic E mb has x0 (k+1) = .inr y):∃x,ic E mb has x0 k = .inr x/\fK E mb has x k = .inr y:=by
 rw[ic]at h
 cases hx:ic E mb has x0 k with
 | inl e=>rw[hx]at h;cases h
 | inr x=>rw[hx]at h;exact⟨x,rfl,h⟩
theorem pJ{E:List (List Ev)}{mb:Int}{has:Nat->Bool}{x0:FK}{k:Nat}{x:FK}(hx:ic E mb has x0 k = .inr x):∀n,k<=n->∀y,ic E mb has x0 n = .inr y->Kept x.2.1 y.2.1 k:=by
 intro n hn
 induction hn with
 | refl=>intro y hy;rw[hx]at hy;cases hy;exact⟨rfl,rfl,rfl,rfl,fun _ _=>rfl⟩
 | @step n hn ih=>
   intro y hy
   obtain⟨w,hw,hK⟩:=qK hy
   have q:=ih w hw
   obtain⟨rest,hF,_,_⟩:=CT hK
   obtain⟨l,hl⟩:=uY hF
   have hl:y.2.1=dE w.2.1 n l:=hl
   rw[hl]
   have hn:k<=n:=hn
   refine⟨q.kind,q.qp,q.edge,q.v,fun i hi=>?_⟩
   have h64:k*64<=n*64:=Nat.mul_le_mul_right 64 hn
   show(if n*64<=i/\i<n*64+64 then l (i-n*64)else w.2.1.lev i)=_
   rw[if_neg (by omega)]
   exact q.lo i hi
theorem y7{E:List (List Ev)}{mb:Int}{has:Nat->Bool}{x0:FK}:∀k x,ic E mb has x0 k = .inr x->∀i,k*64<=i->x.2.1.lev i=x0.2.1.lev i
 | 0,x,h=>by cases h;exact fun _ _=>rfl
 | k+1,x,h=>by
   obtain⟨w,hw,hK⟩:=qK h
   obtain⟨rest,hF,_,_⟩:=CT hK
   obtain⟨l,hl⟩:=uY hF
   have hl:x.2.1=dE w.2.1 k l:=hl
   intro i hi
   rw[hl]
   show(if k*64<=i/\i<k*64+64 then l (i-k*64)else w.2.1.lev i)=_
   rw[if_neg (by omega)]
   exact y7 k w hw i (by omega)
def uV(E:List (List Ev))(u:Nat)(has:Nat->Bool)(j:Nat):List Ev:=if has j=true then E.getD (u+iM has j) []else []
structure N3(E:List (List Ev))(u:Nat)(has:Nat->Bool)(m m0:Mb)(k:Nat)(x:oD)(y:FK):Prop where
 rel:kH x.S y.1
 uu:y.2.2=u+iM has k
 use:∀j,j<k->has j=true->u+iM has j<E.length
 ev:∀j,j<k->x.ev j=uV E u has j
 rng:∀i,i<k*64 -> -2047<=m.lev i/\m.lev i<=2047
 first:alone m=true->∀j,j<k->m.lev (j*64)=m0.lev (j*64)
theorem H2{E:List (List Ev)}(hE:∀e∈E,jW e){mb:Int}{has:Nat->Bool}{R0:bm}{m0:Mb}{u:Nat}{y6:FK}(h6:ic E mb has (R0,m0,u) 6 = .inr y6)(hm:alone m0=false->m0.edge=false)(hfi:alone m0=true->∀k,k<6->0<=m0.lev (k*64)/\m0.lev (k*64)<=127){x0:oD}(hR:kH x0.S R0) :
 ∀k,k<=6->∀y,ic E mb has (R0,m0,u) k = .inr y->∃x,fJ y6.2.1 mb x0 k=some x/\N3 E u has y6.2.1 m0 k x y:=by
 intro k
 induction k with
 | zero=>
   intro _ y hy
   cases hy
   exact⟨x0,rfl,hR,rfl,fun j hj=>absurd hj (Nat.not_lt_zero _),fun j hj=>absurd hj (Nat.not_lt_zero _),fun i hi=>absurd hi (by omega),fun _ j hj=>absurd hj (Nat.not_lt_zero _)⟩
 | succ k ih=>
   intro hk y hy
   obtain⟨w,hw,hK⟩:=qK hy
   obtain⟨x,hx,hB⟩:=ih (by omega) w hw
   obtain⟨rest,hF,hu,hrest⟩:=CT hK
   have k0:Kept m0 w.2.1 0:=pJ (x0:=(R0,m0,u)) (k:=0) rfl k (Nat.zero_le _) w hw
   have k6:Kept w.2.1 y6.2.1 k:=pJ hw 6 (by omega) y6 h6
   have k7:Kept y.2.1 y6.2.1 (k+1):=pJ hy 6 hk y6 h6
   have hal:alone w.2.1=alone m0:=by unfold alone;rw[k0.kind]
   have hal6:alone y6.2.1=alone m0:=by unfold alone;rw[k6.kind,k0.kind]
   have hw0:w.2.1.lev (k*64)=m0.lev (k*64):=y7 k w hw _ (Nat.le_refl _)
   have hst:eJ w.2.1=((if alone y6.2.1=true then 1 else 0:Nat):Int):=by rw[qZ,hal,hal6]
   have hrr:(∀i,-2047<=rest i/\rest i<=2047)/\dS rest (if alone y6.2.1=true then 1 else 0)=uV E u has k:=by
    unfold uV
    by_cases hh:has k=true
    ·rw[if_pos hh]at hrest ⊢
     obtain⟨hlt,hb⟩:=hrest
     have hok:jW (E.getD w.2.2 []):=hE _ (by rw[List.getD_eq_getElem?_getD,List.getElem?_eq_getElem hlt];exact List.getElem_mem hlt)
     have hl:=xt hok.ok hb
     rw[hst]at hb
     have hs1:(if alone y6.2.1=true then 1 else 0:Nat)<=1:=by split<;>omega
     rw[<-hB.uu]
     exact⟨hl,Fs hok hs1 hb⟩
    ·rw[if_neg hh]at hrest ⊢
     subst hrest
     exact⟨fun i=>by show -2047<=(0:Int)/\(0:Int)<=2047;omega,Gn _⟩
   have hin:=Ix hB.rel hF (m:=y6.2.1) (fun h=>by rw[k0.edge];exact hm (hal▸h)) (fun h=>by rw[hw0];exact hfi (hal▸h) k (by omega)) hrr.1 k6.kind k6.qp k6.edge (fun i hi=>by unfold aK;exact k7.lo _ (by omega))
   rw[hrr.2]at hin
   obtain⟨r,hr,hev⟩:=hin.rest
   refine⟨cC y6.2.1 mb k x (nr y6.2.1 x.S mb k r),by rw[fJ,hx];show Option.map _ (fW y6.2.1 x.S mb k)=_;rw[hr];rfl,hin.rel,by rw[hu,hB.uu,iM,Nat.add_assoc],fun j hj hh=>?_,fun j hj=>?_,fun i hi=>?_,fun ha j hj=>?_⟩
   ·by_cases hjk:j<k
    ·exact hB.use j hjk hh
    ·obtain rfl:j=k:=by omega
     rw[if_pos hh]at hrest
     rw[<-hB.uu];exact hrest.1
   ·show(if j=k then nr y6.2.1 x.S mb k r else x.ev j)=_
    by_cases hjk:j=k
    ·rw[if_pos hjk,hjk,hev]
    ·rw[if_neg hjk];exact hB.ev j (by omega)
   ·by_cases hik:i<k*64
    ·exact hB.rng i hik
    ·have:=hin.rng (i-k*64) (by omega)
     unfold aK at this
     rw[show k*64+(i-k*64)=i by omega]at this
     exact this
   ·by_cases hjk:j<k
    ·exact hB.first ha j hjk
    ·obtain rfl:j=k:=by omega
     have:=hin.first ha
     unfold aK at this
     rw[Nat.add_zero,hw0]at this
     exact this
theorem It{E:List (List Ev)}{u:Nat}{has:Nat->Bool}(hE:∀e∈E,jW e):∀k,(∀j,j<k->has j=true->u+iM has j<E.length)->Is (uV E u has) k=(E.drop u).take (iM has k)
 | 0,_=>rfl
 | k + 1,h=>by
   rw[Is,It hE k fun j hj=>h j (by omega),iM]
   by_cases hh:has k=true
   ·have hlt:=h k (by omega) hh
    have e1:uV E u has k=E[u+iM has k]:=by
     unfold uV
     rw[if_pos hh,List.getD_eq_getElem?_getD,List.getElem?_eq_getElem hlt];rfl
    have hok:=hE _ (List.getElem_mem hlt)
    rw[e1,if_pos hok.len.1,if_pos hh,List.take_add_one,List.getElem?_drop,List.getElem?_eq_getElem hlt]
    rfl
   ·have e1:uV E u has k = []:=by unfold uV;rw[if_neg hh]
    rw[e1,if_neg (by decide),if_neg hh,List.append_nil,Nat.add_zero]
theorem FP{S:bm}{m:Mb}(hf:ln S m):dC m S.inter S.qp=0:=by
 have hk:=hf.kind
 unfold dC
 rw[if_neg (fun h=>by
  rcases h with h|⟨h1,h2⟩
  ·omega
  ·rw[hf.alo h1]at h2;cases h2),if_neg (fun⟨h1,h2⟩=>by rw[hf.edge h2]at h1;cases h1),if_neg (fun⟨h1,h2⟩=>by rw[hf.st h1]at h2;cases h2),if_neg (fun⟨h1,h2⟩=>h2 (hf.qp h1))]
 have hv:gL m=0:=if_pos ⟨hf.vecs 0 (by decide),hf.vecs 1 (by decide),hf.vecs 2 (by decide),hf.vecs 3 (by decide)⟩
 rw[hv,if_neg (by simp)]
 exact if_pos hf.lev
def lE(B:List Bool)(first:Int)(x0:TA):Nat->TA
 | 0=>x0
 | k+1=>iU B first (lE B first x0 k)
theorem vV{B:List Bool}{first:Int}:∀(n:Nat) (x:TA),(fI B first n x).r.2=false->fI B first n x=lE B first x n/\∀i,i<=n->(lE B first x i).r.2=false
 | 0,x,h=>⟨rfl,fun i hi=>by have e:i=0:=(by omega);subst e;exact h⟩
 | n + 1,x,h=>by
   have hx:x.r.2=false:=by
    cases hh:x.r.2 with
    | false=>rfl
    | true=>
      rw[fI,if_pos hh]at h
      rw[h]at hh;cases hh
   rw[fI,if_neg (by rw[hx];decide)]at h ⊢
   obtain⟨h1,h2⟩:=vV n (iU B first x) h
   have hsh:∀k,lE B first (iU B first x) k=lE B first x (k+1):=fun k=>by
    induction k with
    | zero=>rfl
    | succ k ih=>show iU B first _=iU B first _;rw[ih]
   refine⟨by rw[h1,hsh],fun i hi=>?_⟩
   cases i with
   | zero=>exact hx
   | succ i=>rw[<-hsh];exact h2 i (by omega)
theorem se{B:List Bool}{first:Int}{x0:TA}(h0:x0.out = []):∀n,(lE B first x0 n).out.length=n/\∀i,i<n->(lE B first x0 n).out.getD i default=((b_ (lE B first x0 i).S B (first+(i:Nat)) (lE B first x0 i).r).1.m,(b_ (lE B first x0 i).S B (first+(i:Nat)) (lE B first x0 i).r).2)
 | 0=>⟨by show x0.out.length=0;rw[h0];rfl,fun i hi=>absurd hi (Nat.not_lt_zero _)⟩
 | n + 1=>by
   obtain⟨h1,h2⟩:=se h0 n
   refine⟨by show((lE B first x0 n).out++[_]).length=_;rw[List.length_append,h1];rfl,fun i hi=>?_⟩
   show((lE B first x0 n).out++[((b_ (lE B first x0 n).S B (first+((lE B first x0 n).out.length:Nat)) (lE B first x0 n).r).1.m,_)]).getD i default=_
   by_cases hin:i<n
   ·rw[List.getD_eq_getElem?_getD,List.getElem?_append_left (by omega),<-List.getD_eq_getElem?_getD]
    exact h2 i hin
   ·obtain rfl:i=n:=by omega
    rw[List.getD_eq_getElem?_getD,List.getElem?_append_right (by omega),h1,Nat.sub_self]
    rfl
theorem qJ{E:List (List Ev)}{first:Int}{l:List Ol}{S0:bm}{i:Nat}{y:FA}(h:nH E first l S0 (i+1) = .inr y):∃x z,nH E first l S0 i = .inr x/\ic E (first+(i:Nat)) (l.getD i default).2 (x.S,(l.getD i default).1,x.u) 6 = .inr z/\y=⟨z.1,x.out++[z.2.1],z.2.2⟩:=by
 rw[nH]at h
 cases hx:nH E first l S0 i with
 | inl e=>rw[hx]at h;cases h
 | inr x=>
   rw[hx]at h
   dsimp only at h
   cases hz:ic E (first+(i:Nat)) (l.getD i default).2 (x.S,(l.getD i default).1,x.u) 6 with
   | inl e=>rw[hz]at h;cases h
   | inr z=>rw[hz]at h;cases h;exact⟨x,z,rfl,hz,rfl⟩
theorem rE{E:List (List Ev)}{first:Int}{l:List Ol}{S0:bm}:∀n x,nH E first l S0 n = .inr x->x.out.length=n
 | 0,x,h=>by cases h;rfl
 | n+1,y,h=>by
   obtain⟨x,z,hx,_,rfl⟩:=qJ h
   show(x.out++[_]).length=_
   rw[List.length_append,rE n x hx];rfl
theorem LS{E:List (List Ev)}{first:Int}{l:List Ol}{S0:bm}{i:Nat}{y:FA}(hy:nH E first l S0 (i+1) = .inr y):∀n,i<n->∀w,nH E first l S0 n = .inr w->w.out.getD i default=y.out.getD i default:=by
 intro n hn
 induction hn with
 | refl=>intro w hw;rw[hy]at hw;cases hw;rfl
 | @step n hn ih=>
   intro w hw
   have hn:i+1<=n:=hn
   obtain⟨x,z,hx,_,rfl⟩:=qJ hw
   have hl:=rE n x hx
   show(x.out++[_]).getD i default=_
   rw[List.getD_eq_getElem?_getD,List.getElem?_append_left (by omega),<-List.getD_eq_getElem?_getD]
   exact ih x hx
theorem zH{S:bm}{B:List Bool}{mb:Int}{r:Nat×Bool}{x:gh}{has:Nat->Bool}(h:b_ S B mb r=(x,has)):(alone x.m=true->∀k,k<6->0<=x.m.lev (k*64)/\x.m.lev (k*64)<=127)/\(∀i,¬(alone x.m=true/\i%64=0/\i<384)->x.m.lev i=0)/\(x.m.kind=0->has=pN/\x.m.v=(fun _=>(0,0))/\x.m.edge=false):=by
 obtain⟨z1,hz1⟩:∃z1,eP S B r=z1:=⟨_,rfl⟩
 have hl1:∀i,z1.m.lev i=0:=fun i=>by rw[<-hz1];rfl
 unfold b_ at h
 rw[hz1]at h
 unfold Kp at h
 split at h
 ·rename_i h0
  have e1:bD mb z1=x:=congrArg Prod.fst h
  have e2:pN=has:=congrArg Prod.snd h
  have em:x.m=z1.m:=by rw[<-e1];rfl
  rw[em]
  exact⟨fun _ k _=>by rw[hl1];decide,fun i _=>hl1 i,fun _=>⟨e2.symm,by rw[<-hz1];rfl,by rw[<-hz1];rfl⟩⟩
 ·rename_i h0
  obtain⟨z,hz⟩:∃z,bD mb (ch B mb z1)=z:=⟨_,rfl⟩
  rw[hz]at h
  have hzl:∀i,z.m.lev i=0:=fun i=>by
   rw[<-hz]
   show(ch B mb z1).m.lev i=0
   unfold ch
   split
   ·exact hl1 i
   ·split
    ·exact hl1 i
    ·exact hl1 i
  have hzk:z.m.kind≠0:=by
   rw[<-hz]
   show(ch B mb z1).m.kind≠0
   unfold ch
   split
   ·exact h0
   ·split
    ·exact h0
    ·exact h0
  have e1:x.m=(b6 B mb z).m:=by
   have:=congrArg (fun q=>q.1.m) h
   exact this.symm
  have hrun:∀k,k<=6->(da B mb z k).m.kind=z.m.kind/\∀i,((i%64=0/\i<64*k)->0<=(da B mb z k).m.lev i/\(da B mb z k).m.lev i<=127)/\(¬(i%64=0/\i<64*k)->(da B mb z k).m.lev i=0):=by
   intro k
   induction k with
   | zero=>exact fun _=>⟨rfl,fun i=>⟨fun h=>absurd h.2 (by omega),fun _=>hzl i⟩⟩
   | succ k ih=>
     intro hk
     obtain⟨i1,i2⟩:=ih (by omega)
     refine⟨i1,fun i=>?_⟩
     show(_->0<=cw (da B mb z k).m.lev (k*64) (oY B mb (da B mb z k) k) i/\cw (da B mb z k).m.lev (k*64) (oY B mb (da B mb z k) k) i<=127)/\(_->cw (da B mb z k).m.lev (k*64) (oY B mb (da B mb z k) k) i=0)
     have hf := @CS _ B mb (da B mb z k) k
     unfold cw
     by_cases hi:i=k*64
     ·rw[if_pos hi]
      exact⟨fun _=>hf,fun h=>absurd ⟨by omega,by omega⟩ h⟩
     ·rw[if_neg hi]
      exact⟨fun h=>(i2 i).1 ⟨h.1,by omega⟩,fun h=>(i2 i).2 fun g=>h ⟨g.1,by omega⟩⟩
  rw[e1]
  unfold b6
  have hk6:=hrun 6 (Nat.le_refl _)
  split
  ·rename_i ha
   have ha6:alone (da B mb z 6).m=true:=by unfold alone;rw[hk6.1];exact ha
   refine⟨fun _ k hk=>(hk6.2 (k*64)).1 ⟨by omega,by omega⟩,fun i hi=>(hk6.2 i).2 fun g=>hi ⟨ha6,g.1,by omega⟩,fun hc=>?_⟩
   rw[hk6.1]at hc
   exact absurd hc hzk
  ·exact⟨fun _ k _=>by rw[hzl];decide,fun i _=>hzl i,fun hc=>absurd hc hzk⟩
def Canon(m:Mb):Prop:=(∀i,384<=i->m.lev i=0)/\∀k,4<=k->m.v k=if m.kind=1 then m.v 0 else(0,0)
theorem M8{S:bm}{B:List Bool}{mb:Int}{r:Nat×Bool}{x:gh}{has:Nat->Bool}(h:b_ S B mb r=(x,has)):∀k,4<=k->x.m.v k=if x.m.kind=1 then x.m.v 0 else(0,0):=by
 obtain⟨z1,hz1⟩:∃z1,eP S B r=z1:=⟨_,rfl⟩
 have hv1:z1.m.v=fun _=>(0,0):=by rw[<-hz1];rfl
 unfold b_ at h
 rw[hz1]at h
 unfold Kp at h
 intro k hk
 split at h
 ·have e1:bD mb z1=x:=congrArg Prod.fst h
  have em:x.m=z1.m:=by rw[<-e1];rfl
  rw[em,hv1]
  split<;>rfl
 ·obtain⟨z,hz⟩:∃z,ch B mb z1=z:=⟨_,rfl⟩
  rw[hz]at h
  have hzv:z.m.v k=if z.m.kind=1 then z.m.v 0 else(0,0):=by
   rw[<-hz]
   unfold ch
   by_cases h1:z1.m.kind=1
   ·rw[if_pos h1]
    exact(if_pos h1).symm
   ·rw[if_neg h1]
    by_cases h2:z1.m.kind=2
    ·rw[if_pos h2]
     refine Eq.trans ?_ (if_neg (show¬z1.m.kind=1 from h1)).symm
     show km (km (km (km z1.m.v 0 _) 1 _) 2 _) 3 _ k=(0,0)
     unfold km
     rw[if_neg (by omega),if_neg (by omega),if_neg (by omega),if_neg (by omega),hv1]
    ·rw[if_neg h2]
     refine Eq.trans ?_ (if_neg (show¬z1.m.kind=1 from h1)).symm
     show z1.m.v k=(0,0)
     rw[hv1]
  have e1:x.m=(b6 B mb (bD mb z)).m:=(congrArg (fun q=>q.1.m) h).symm
  have e2:(b6 B mb (bD mb z)).m.v=z.m.v/\(b6 B mb (bD mb z)).m.kind=z.m.kind:=by
   unfold b6
   split
   ·have:∀k,(da B mb (bD mb z) k).m.v=z.m.v/\(da B mb (bD mb z) k).m.kind=z.m.kind:=fun k=>by
     induction k with
     | zero=>exact⟨rfl,rfl⟩
     | succ k ih=>exact ih
    exact this 6
   ·exact⟨rfl,rfl⟩
  rw[e1,e2.1,e2.2]
  exact hzv
structure Lg(S:bm)(m:Mb):Prop where
 kind:0<=m.kind/\m.kind<=4
 alo:S.inter=false->alone m=true
 st:m.kind=4->(dz S.qp m.qp).2=true
 qp:m.kind≠4->m.qp=S.qp
 vecs:∀k,k<4->ow m k
 edge:alone m=false->m.edge=false
theorem GW{S R:bm}(hR:Rel S R){X B:List Bool}(hp:X <+: B){mb:Int}{x:gh}{has:Nat->Bool}(hx:b_ R B mb (X.length,false)=(x,has))(he:x.r.2=false){m:Mb}(hk:m.kind=x.m.kind)(hq:m.qp=x.m.qp)(hv:m.v=x.m.v)(hed:m.edge=x.m.edge):Lg S m:=by
 obtain⟨z1,hz1⟩:∃z1,eP R B (X.length,false)=z1:=⟨_,rfl⟩
 have hm0:=(zH hx).2.2
 unfold b_ at hx
 rw[hz1]at hx
 unfold Kp at hx
 split at hx
 ·rename_i hk1
  have e1:bD mb z1=x:=congrArg Prod.fst hx
  have hm:x.m=z1.m:=by rw[<-e1];rfl
  have hh:=u4 (m:=m) hR hp hz1 (by rw[<-e1]at he;exact he) (by rw[<-hm];exact hk) (by rw[<-hm];exact hq)
  have h0:x.m.kind=0:=by rw[hm];exact hk1
  obtain⟨_,v0,ed0⟩:=hm0 h0
  have hvz:∀k,m.v k=(0,0):=fun k=>by rw[hv,v0]
  exact⟨hh.kind,hh.alo,hh.st,hh.qp,fun k hk4=>⟨by rw[hvz];rfl,fun _=>by rw[hvz,hvz],fun _ _=>hvz k⟩,fun _=>by rw[hed];exact ed0⟩
 ·rename_i hk1
  obtain⟨z,hz⟩:∃z,ch B mb z1=z:=⟨_,rfl⟩
  obtain⟨w,hw⟩:∃w,b6 B mb (bD mb z)=w:=⟨_,rfl⟩
  rw[hz,hw]at hx
  obtain⟨pt,r1,h1⟩:∃p r1,kK cP B w.r=(p,r1):=⟨_,_,rfl⟩
  unfold v9 at hx
  rw[h1]at hx
  dsimp only at hx
  have ex:=congrArg Prod.fst hx
  dsimp only at ex
  have hr2:(bG B 2 r1).2.2=false:=by rw[<-ex]at he;exact he
  have hr1:r1.2=false:=iH fun ht=>by
   have:=nv (B:=B) (n:=2) ht
   rw[this]at hr2;cases hr2
  have hwe:w.r.2=false:=iH fun ht=>by
   have:=sG (C:=cP) (B:=B) ht
   rw[h1]at this
   rw[this]at hr1;cases hr1
  have hze:z.r.2=false:=iH fun ht=>by
   have : w.r.2=true:=by
    rw[<-hw]
    unfold b6
    split
    ·have:∀k,(da B mb (bD mb z) k).r.2=true:=fun k=>by
      induction k with
      | zero=>exact ht
      | succ k ih=>exact oZ ih
     exact this 6
    ·exact ht
   rw[this]at hwe;cases hwe
  have hxm:x.m=w.m:=by rw[<-ex]
  have wk:w.m.kind=z.m.kind/\w.m.qp=z.m.qp/\w.m.v=z.m.v/\w.m.edge=z.m.edge:=by
   rw[<-hw]
   unfold b6
   split
   ·have:∀k,(da B mb (bD mb z) k).m.kind=z.m.kind/\(da B mb (bD mb z) k).m.qp=z.m.qp/\(da B mb (bD mb z) k).m.v=z.m.v/\(da B mb (bD mb z) k).m.edge=z.m.edge:=fun k=>by
     induction k with
     | zero=>exact⟨rfl,rfl,rfl,rfl⟩
     | succ k ih=>exact ih
    exact this 6
   ·exact⟨rfl,rfl,rfl,rfl⟩
  have zk:z.m.kind=z1.m.kind/\z.m.qp=z1.m.qp:=by
   rw[<-hz]
   unfold ch
   split
   ·exact⟨rfl,rfl⟩
   ·split<;>exact⟨rfl,rfl⟩
  have hkz:m.kind=z1.m.kind:=by rw[hk,hxm,wk.1,zk.1]
  obtain⟨b1,b2⟩:=Az (m:=m) hR hp hz1 hz hze hkz (by rw[hq,hxm,wk.2.1,zk.2]) (by rw[hkz];exact hk1) (fun k _=>by rw[hv,hxm,wk.2.2.1]) (by rw[hed,hxm,wk.2.2.2])
  exact⟨b1.kind,b1.alo,b1.st,b1.qp,b2.vecs,b2.edge⟩
structure HA(Ba:List Bool)(first:Int)(h:Hd)(p:Ph)(m:List Mb)(E:List (List Ev))(t:TA)(i:Nat)(X:PS)(R:FA):Prop where
 run:gd m first (qT h p) i = .inr X
 inv:yN p.inter h.cols h.rows i X
 rel:Rel X.S t.S
 frel:kH X.S R.S
 r:t.r=(X.B.length,false)
 pre:X.B <+: Ba
 w:X.w=(E.take R.u).flatMap fF
 mok:∀j,j<i->iK (m.getD j default)/\Canon (m.getD j default)
theorem HQ{h:Hd}{p:Ph}{first:Int}{Ba:List Bool}{m:List Mb}{E:List (List Ev)}(hE:∀e∈E,jW e){t:TA}{i:Nat}{X:PS}{R:FA}(hI:HA Ba first h p m E t i X R)(hmb:t.out.length=i){x:gh}{has:Nat->Bool}(hx:b_ t.S Ba (first+(i:Nat)) t.r=(x,has))(he:x.r.2=false){z:FK}(hz:ic E (first+(i:Nat)) has (R.S,x.m,R.u) 6 = .inr z)(hm:m.getD i default=z.2.1) :
 ∃X',HA Ba first h p m E (iU Ba first t) (i+1) X' ⟨z.1,R.out++[z.2.1],z.2.2⟩:=by
 obtain⟨M,hM⟩:∃M,z.2.1=M:=⟨_,rfl⟩
 have hxr:b_ t.S Ba (first+(i:Nat)) (X.B.length,false)=(x,has):=by rw[<-hI.r];exact hx
 have hT:=hI.inv.st.tiny
 have k0:Kept x.m M 0:=by rw[<-hM];exact pJ (x0:=(R.S,x.m,R.u)) (k:=0) rfl 6 (by decide) z hz
 have hal:alone M=alone x.m:=by unfold alone;rw[k0.kind]
 obtain⟨f1,f2,f3⟩:=zH hxr
 have hF:=GW hI.rel hI.pre hxr he (m:=M) k0.kind k0.qp k0.v k0.edge
 have hRT:cj t.S.M/\(-1000000<=t.S.qp/\t.S.qp<=1000000):=⟨fun k v hv=>hT k v (by rw[<-hI.rel.M];exact hv),by rw[hI.rel.qp];exact hI.inv.qp⟩
 have hv:∀k,bI (M.v k):=fun k=>by
  have:=(QQ (B:=Ba) (r:=(X.B.length,false)) (mb:=first+(i:Nat)) hRT.1 hRT.2).v k
  rw[hxr]at this
  rw[k0.v];exact this
 have hqp : -1000000<=M.qp/\M.qp<=1000000:=by
  by_cases h4:M.kind=4
  ·have:=(yi (hF.st h4)).2
   omega
  ·rw[hF.qp h4];exact hI.inv.qp
 obtain⟨x0,hx0⟩:∃x0:oD,(⟨(bC X.S X.B M (first+(i:Nat))).1,(bC X.S X.B M (first+(i:Nat))).2,0,0,fun _=>[]⟩:oD)=x0:=⟨_,rfl⟩
 have hfr:kH x0.S R.S:=by rw[<-hx0];exact FU hI.frel X.B M _
 obtain⟨y,hy,hB⟩:=H2 hE hz (fun h=>by rw[<-k0.edge];exact hF.edge (hal.trans h)) (fun h k hk=>f1 h k hk) (x0:=x0) hfr 6 (Nat.le_refl _) z hz
 rw[hM]at hy hB
 have hlev:∀j,j<384 -> -2047<=M.lev j/\M.lev j<=2047:=fun j hj=>hB.rng j hj
 have hhi:∀j,384<=j->M.lev j=0:=fun j hj=>by
  have:=y7 6 z hz j hj
  rw[hM]at this
  rw[this]
  exact f2 j (by omega)
 have hfirst:alone M=true->∀k,k<6->M.lev (k*64)=x.m.lev (k*64):=fun ha k hk=>hB.first ha k hk
 have hmok:iK M:=⟨by have:=hF.kind;omega,hqp,hv,fun j=>by
  by_cases hj:j<384
  ·have:=hlev j hj;omega
  ·rw[hhi j (by omega)];decide⟩
 have hzero:M.kind=0->(∀j,j<384->M.lev j=0)/\z.1=R.S/\∀j,has j=false:=fun h0=>by
  have hx0k:x.m.kind=0:=by rw[<-k0.kind];exact h0
  obtain⟨hn,_,hed⟩:=f3 hx0k
  have hax:alone x.m=false:=by unfold alone;rw[hx0k];rfl
  have hl0:∀j,j<384->x.m.lev j=0:=fun j hj=>f2 j (fun g=>by rw[hax]at g;cases g.1)
  have hnj:∀j,has j=false:=fun j=>by rw[hn];rfl
  obtain⟨o',e1,e2⟩:=FJ (evs:=E) (m:=x.m) (o:=x.m) (mb:=first+(i:Nat)) (R0:=R.S) (has:=has) (fun j _=>hnj j) (u:=R.u) rfl rfl rfl hax hl0 6 (Nat.le_refl _)
  rw[hz]at e1
  cases e1
  refine⟨fun j hj=>?_,rfl,hnj⟩
  rw[<-hM,e2.lo j (by omega)]
  exact hl0 j hj
 have hfit:ln X.S M:=⟨hF.kind,hF.alo,hF.edge,hF.st,hF.qp,hF.vecs,fun j hj=>⟨fun h0=>(hzero h0).1 j hj,hlev j hj,fun h64 ha=>by
  have hjk:j=j/64*64:=by omega
  rw[hjk,hfirst ha (j/64) (by omega)]
  exact f1 (hal▸ha) (j/64) (by omega)⟩⟩
 have hg:=rG hmok hfit
 have hc:=FP hfit
 have hout:xp M x.m:=⟨k0.kind.symm,k0.qp.symm,fun k _=>by rw[k0.v],k0.edge.symm,fun j=>by
  by_cases hj:alone M=true/\j%64=0/\j<384
  ·rw[if_pos hj]
   have hjk:j=j/64*64:=by omega
   rw[hjk,hfirst hj.1 (j/64) (by omega)]
  ·rw[if_neg hj]
   exact f2 j (fun g=>hj ⟨hal.trans g.1,g.2⟩)⟩
 have hput : ∃S' X' w',hJ X.S X.B X.w M (first+(i:Nat))=some (S',X',w')/\kH S' z.1/\w'=(E.take z.2.2).flatMap fF/\∀k,k<6->has k=decide (0<(tS X.S X.B M (first+(i:Nat)) k).length):=by
  unfold hJ
  by_cases h0:M.kind=0
  ·obtain⟨_,q2,q3⟩:=hzero h0
   have hc0:z.2.2=R.u:=by
    rw[hB.uu]
    have:∀k,iM has k=0:=fun k=>by
     induction k with
     | zero=>rfl
     | succ k ih=>rw[iM,ih,q3 k];rfl
    rw[this,Nat.add_zero]
   rw[if_pos h0]
   refine⟨_,_,_,rfl,by rw[q2];exact mY hI.frel _ _,by rw[hc0];exact hI.w,fun k _=>?_⟩
   rw[q3 k]
   unfold tS
   rw[if_pos h0];rfl
  ·rw [if_neg h0,hx0,hy]
   refine⟨_,_,_,rfl,hB.rel,?_,fun k hk=>?_⟩
   ·show dq X.w y 6=_
    have hevs:Is y.ev 6=Is (uV E R.u has) 6:=by
     have:∀k,k<=6->Is y.ev k=Is (uV E R.u has) k:=fun k=>by
      induction k with
      | zero=>exact fun _=>rfl
      | succ k ih=>intro hk;rw[Is,Is,ih (by omega),hB.ev k (by omega)]
     exact this 6 (Nat.le_refl _)
    rw[NF,hevs,It hE 6 (fun j hj=>hB.use j hj),hI.w,<-List.flatMap_append,<-List.take_add,<-hB.uu]
   ·have e1:tS X.S X.B M (first+(i:Nat)) k=y.ev k:=by unfold tS;rw[if_neg h0,hx0,hy]
    rw[e1,hB.ev k hk]
    unfold uV
    cases hh:has k with
    | true=>
      have hlt:=hB.use k hk hh
      rw[if_pos rfl,List.getD_eq_getElem?_getD,List.getElem?_eq_getElem hlt]
      exact(decide_eq_true (hE _ (List.getElem_mem hlt)).len.1).symm
    | false=>rfl
 obtain⟨S',X',w',hput,hfr',hw',hhas⟩:=hput
 have hpre:=Kk hI.rel hT hg hfit hI.pre hput hxr he hout hhas
 obtain⟨b1,b2,_,_⟩:=yn hI.rel hT hg hfit hput hpre
 rw[hxr]at b1 b2
 have hstep:kh first i (m.getD i ly) X = .inr ⟨S',X',w'⟩:=by
  have e:m.getD i ly=M:=by rw[<-hM];exact hm
  rw[e]
  unfold kh
  rw[if_neg (by rw[hc];simp),hput]
 have hmM:m.getD i default=M:=hm.trans hM
 refine⟨⟨S',X',w'⟩,?_,mU hI.inv hmok (first:=first) (k:=i) ?_,?_,hfr',?_,hpre,hw',fun j hj=>?_⟩
 ·rw[gd,hI.run];exact hstep
 ·rw[<-hmM];exact hstep
 ·show Rel S' (b_ t.S Ba (first+(t.out.length:Nat)) t.r).1.S
  rw[hmb,hx];exact b2
 ·show(b_ t.S Ba (first+(t.out.length:Nat)) t.r).1.r=_
  rw[hmb,hx];exact b1
 ·by_cases hji:j<i
  ·exact hI.mok j hji
  ·obtain rfl:j=i:=by omega
   rw[hmM];exact⟨hmok,hhi,fun k hk=>by rw[k0.kind,k0.v];exact M8 hxr k hk⟩
theorem Lm{h : Hd}{p:Ph}(ho:qd h)(hp:tP p){first:Int}{n:Nat}{Ba:List Bool}{t:TA}(ht:fI Ba first n ⟨dQ h p,(0,false),[]⟩=t)(he:ky Ba t.r=0){B:List Bool}{E:List (List Ev)}{r2:Nat×Bool}(hb:ru B (vf t.out) ([],(0,false))=(E,r2))(he2:ky B r2=0){m:List Mb}(hm:gZ E first t.out (dQ h p) = .inr m) :
 m.length=n/\(∀j,j<n->iK (m.getD j default)/\Canon (m.getD j default))/\∃X,gd m first (qT h p) n = .inr X/\X.B=Ba/\X.w=B:=by
 have hend:∀{B:List Bool} {r:Nat×Bool},ky B r=0->r.2=false/\B.length<=r.1:=fun {B r} h=>by
  unfold ky at h
  split at h
  ·cases h
  ·rename_i h1
   split at h
   ·cases h
   ·exact⟨by cases hh:r.2 with|false=>rfl|true=>exact absurd hh h1,by omega⟩
 obtain⟨q1,q2⟩:=hend he
 obtain⟨q3,q4⟩:=hend he2
 obtain⟨F,e1,e2,e3,hE⟩:=H5 _ _ _ _ _ hb q3 (Nat.zero_le _)
 rw[List.nil_append]at e1
 subst e1
 obtain⟨i1,i2⟩:=vV n _ (by rw[ht];exact q1)
 rw[ht]at i1
 obtain⟨o1,o2⟩:=se (B:=Ba) (first:=first) (x0:=⟨dQ h p,(0,false),[]⟩) rfl n
 rw[<-i1]at o1 o2
 unfold gZ at hm
 rw[o1]at hm
 cases hall:nH E first t.out (dQ h p) n with
 | inl e=>rw[hall]at hm;cases hm
 | inr W =>
   rw[hall]at hm
   dsimp only at hm
   split at hm
   ·cases hm
   ·rename_i hu
    have hmW:=Sum.inr.inj hm
    have hlen:=rE n W hall
    have key:∀i,i<=n->∀R,nH E first t.out (dQ h p) i = .inr R->∃X,HA Ba first h p m E (lE Ba first ⟨dQ h p,(0,false),[]⟩ i) i X R:=by
     intro i
     induction i with
     | zero=>
       intro _ R hR
       cases hR
       exact⟨qT h p,rfl,Br ho hp,rel_refl _,⟨rfl,rfl,fun _=>rfl,fun _=>rfl,fun _=>rfl⟩,rfl,List.nil_prefix,rfl,fun j hj=>absurd hj (Nat.not_lt_zero _)⟩
     | succ i ih=>
       intro hi Y hY
       obtain⟨R,z,hR,hz,rfl⟩:=qJ hY
       obtain⟨X,hI⟩:=ih (by omega) R hR
       have hol:=(se (B:=Ba) (first:=first) (x0:=⟨dQ h p,(0,false),[]⟩) rfl i).1
       obtain⟨x,has,hx⟩:∃x has,b_ (lE Ba first ⟨dQ h p,(0,false),[]⟩ i).S Ba (first+(i:Nat)) (lE Ba first ⟨dQ h p,(0,false),[]⟩ i).r=(x,has):=⟨_,_,rfl⟩
       have hoi:=o2 i (by omega)
       rw[hx]at hoi
       rw[hoi]at hz
       have hne:=i2 (i+1) hi
       have hxe:x.r.2=false:=by
        have e:(lE Ba first ⟨dQ h p,(0,false),[]⟩ (i+1)).r=x.r:=by
         show(b_ _ Ba (first+((lE Ba first ⟨dQ h p,(0,false),[]⟩ i).out.length:Nat)) _).1.r=x.r
         rw[hol,hx]
        rw[e]at hne;exact hne
       refine HQ hE hI hol hx hxe hz ?_
       have:=LS hY n (by omega) W hall
       rw[<-hmW,this]
       show(R.out++[z.2.1]).getD i default=_
       have hl:=rE i R hR
       rw[List.getD_eq_getElem?_getD,List.getElem?_append_right (by omega),hl,Nat.sub_self]
       rfl
    obtain⟨X,hI⟩:=key n (Nat.le_refl _) W hall
    rw[<-i1]at hI
    refine⟨by rw[<-hmW];exact hlen,hI.mok,X,hI.run,?_,?_⟩
    ·have:Ba.length<=X.B.length:=by have:=hI.r;rw[this]at q2;exact q2
     exact hI.pre.eq_of_length (Nat.le_antisymm hI.pre.length_le this)
    ·rw[hI.w,List.take_of_length_le (by omega)]
     have e4:=e3.e
     rw[List.take_of_length_le q4]at e4
     exact e4.symm
theorem JA{h:Hd}{p:Ph}(ho:qd h)(hp:tP p){first:Int}(hf:0<=first){n:Nat}(h1:1<=n)(h16:n<=16)(hall:first+(n:Nat)<=h.cols*h.rows){a qa:List Int}{Ba:List Bool}(hT:lT h p a qa Ba first n){t:TA}(ht:fI Ba first n ⟨dQ h p,(0,false),[]⟩=t)(he:ky Ba t.r=0){b q:List Int}{B:List Bool}(hbl:b.length<=30000)(hesc:jc b b.length [] 0 0=some q)(hsz:cJ q=(B.length,true))(hB:dp q B){m:List Mb}(hm:ym B first t.out (dQ h p) = .inr m) :
 gp h p m first/\m.length=n/\(∀j,j<n->Canon (m.getD j default))/\qf h p m first = .inr (a,b):=by
 unfold ym at hm
 obtain⟨E,r2,hb⟩:∃E r2,ru B (vf t.out) ([],(0,false))=(E,r2):=⟨_,_,rfl⟩
 rw[hb]at hm
 dsimp only at hm
 split at hm
 ·cases hm
 ·rename_i he2
  have he2:ky B r2=0:=Decidable.byContradiction fun g=>he2 g
  obtain⟨m1,m2,X,m3,m4,m5⟩:=Lm ho hp ht he hb he2 hm
  have hP:gp h p m first:=⟨ho,hp,fun x hx=>by
   obtain⟨j,hj,rfl⟩:=List.mem_iff_getElem.1 hx
   have:=(m2 j (by omega)).1
   rw[List.getD_eq_getElem?_getD,List.getElem?_eq_getElem hj]at this
   exact this,hf,by omega,by omega,by rw[m1];exact hall⟩
  refine⟨hP,m1,fun j hj=>(m2 j hj).2,?_⟩
  have ea:=Ei hT.esc
  have eb:=Ei hesc
  have wa:=KQ hT.bits.byte hT.size hT.bits.bit
  have wb:=KQ hB.byte hsz hB.bit
  unfold qf
  rw[m1,m3]
  dsimp only
  rw[m4,m5,wa,wb,ea,eb,if_neg (by have:=hT.len;omega)]
theorem yl{h:Hd}{p:Ph}{a q:List Int}{B:List Bool}{first:Int}{n:Nat}(hT:lT h p a q B first n){ob:ak}(ho:RO ob .u8 a){c:XC}{i:Nat}(hc:cY c i 0 a.length){x:TA}(hx:fI B first n ⟨dQ h p,(0,false),[]⟩=x)(he:ky B x.r=0){z:Int}(hz:z=(n:Nat)){HS:aj}{K:Nat}(hS:(HS.drop K).take 13=eG K)(hi:HS[i]? = some ob)(hd:(kW K [i]).Nodup){N:Nat}(hN:HS.length=N){HS':aj}(hh:HS++[cE 56 (fl gU x.out)]=HS')(hbd:Nat.blt HS'.length Mem.bound=true) :
 aG.Sound Tryz.prog ⟨12,[.one (.ptr K 0),.agg (f6 h),.agg (gV p),.one (.int .i64 first),.one (.int .i64 z),.one c],HS,.tup [.one (fD N x.out.length 397),.one (.int .i64 0)],HS',kW K [i]⟩:=by
 subst hz hN
 have hfo:=ho.flat
 obtain⟨c0,h0,hcr⟩:=hc.oP 13 (nth (kW K [i])) rfl
 refine o9 1 rfl (GO hT ho h0 hx he) hS hi hd (.cons (by show 0<14;omega) (.flat (.flat (.flat (.flat (.cons (h0.ok (by decide)) .nil)))))) (.cons rfl (.flat (.flat (.flat (.flat (.cons (congrArg XV.one hcr) .nil)))))) (F6 (aZ (by omega)) trivial) ?_ (.flat .nil) (.flat .nil) ?_ hh hbd
 ·simp only[XV.ay,List.map_cons,List.map_nil,X1.ay,aB];rfl
 ·cases fl gU x.out<;>rfl
theorem GV{h:Hd}{p:Ph}{a q:List Int}{B:List Bool}{first:Int}{n:Nat}(hT:lT h p a q B first n){ob:ak}(ho:RO ob .u8 a){c:XC}{i:Nat}(hc:cY c i 0 a.length){x:TA}(hx:fI B first n ⟨dQ h p,(0,false),[]⟩=x){e:Int}(he:ky B x.r=e)(he0:e≠0){z:Int}(hz:z=(n:Nat)){HS:aj}{K:Nat}(hS:(HS.drop K).take 13=eG K)(hi:HS[i]? = some ob)(hd:(kW K [i]).Nodup)(hbd:Nat.blt HS.length Mem.bound=true) :
 aG.Sound Tryz.prog ⟨12,[.one (.ptr K 0),.agg (f6 h),.agg (gV p),.one (.int .i64 first),.one (.int .i64 z),.one c],HS,.tup [.one .nils,.one (.int .i64 e)],HS,kW K [i]⟩:=by
 subst hz
 have hfo:=ho.flat
 obtain⟨c0,h0,hcr⟩:=hc.oP 13 (nth (kW K [i])) rfl
 exact o9 0 rfl (Dy hT ho h0 hx he he0) hS hi hd (.cons (by show 0<14;omega) (.flat (.flat (.flat (.flat (.cons (h0.ok (by decide)) .nil)))))) (.cons rfl (.flat (.flat (.flat (.flat (.cons (congrArg XV.one hcr) .nil)))))) (XV.e9 rfl _) rfl .nil .nil rfl (List.append_nil HS) hbd
theorem GU{ob:ak}{h:Hd}{p:Ph}(hd0:qd h)(hp:tP p){a:List Int}(ho:RO ob .u8 a){c:XC}{i:Nat}(hc:cY c i 0 a.length)(hl:bQ a)(hn:a.length<=30000){first:Int}{n:Nat}(hf:0<=first)(hm:1<=n)(ha:first+(n:Nat)<=h.cols*h.rows){e:Int}(he:kd a = .inl e){z:Int}(hz:z=(n:Nat)){HS:aj}{K:Nat}(hS:(HS.drop K).take 13=eG K)(hi:HS[i]? = some ob)(hd:(kW K [i]).Nodup)(hbd:Nat.blt HS.length Mem.bound=true) :
 aG.Sound Tryz.prog ⟨12,[.one (.ptr K 0),.agg (f6 h),.agg (gV p),.one (.int .i64 first),.one (.int .i64 z),.one c],HS,.tup [.one .nils,.one (.int .i64 e)],HS,kW K [i]⟩:=by
 subst hz
 have hfo:=ho.flat
 obtain⟨c0,h0,hcr⟩:=hc.oP 13 (nth (kW K [i])) rfl
 exact o9 0 rfl (BS hd0 hp ho h0 hl hn hf hm ha he) hS hi hd (.cons (by show 0<14;omega) (.flat (.flat (.flat (.flat (.cons (h0.ok (by decide)) .nil)))))) (.cons rfl (.flat (.flat (.flat (.flat (.cons (congrArg XV.one hcr) .nil)))))) (XV.e9 rfl _) rfl .nil .nil rfl (List.append_nil HS) hbd
abbrev Lb(obA obB:ak)(h:Hd)(p:Ph)(l:List Ol)(q:List Int)(B:List Bool)(E:List (List Ev))(r:Nat×Bool)(x:aj):aj:=bM 1 5 9::aw 2 3 4 cM::aR cM::aT cM::aS cM::aw 6 7 8 cZ::aR cZ::aT cZ::aS cZ::aw 10 11 12 cP::aR cP::aT cP::aS cP::obA::obB :: .cells (f6 h) 26 false false :: .cells (gV p) 28 false false::cE 56 (fl gU l)::bt 19 q B r.1 r.2::aL q::lR 21 E::fE E 0::fE E 1::fE E 2::fE E 3::fE E 4::fE E 5::fE E 6::fE E 7::fE E 8::fE E 9::fE E 10::fE E 11::fE E 12::fE E 13::fE E 14::fE E 15::fE E 16::fE E 17::fE E 18::fE E 19::fE E 20::fE E 21::fE E 22::fE E 23::fE E 24::fE E 25::fE E 26::fE E 27::fE E 28::fE E 29::fE E 30::fE E 31::fE E 32::fE E 33::fE E 34::fE E 35::fE E 36::fE E 37::fE E 38::fE E 39::fE E 40::fE E 41::fE E 42::fE E 43::fE E 44::fE E 45::fE E 46::fE E 47::fE E 48::fE E 49::fE E 50::fE E 51::fE E 52::fE E 53::x
theorem Pt{obA obB:ak}{h:Hd}{p:Ph}{l:List Ol}{q:List Int}{B:List Bool}{E:List (List Ev)}{r:Nat×Bool}{x:aj}{u:Nat}(hu:u<54):(Lb obA obB h p l q B E r x)[21+u]? = some (fE E u):=by
 have e:Lb obA obB h p l q B E r x=(Lb obA obB h p l q B E r []).take 21++((List.range 54).map (fE E)++x):=rfl
 rw[e,List.getElem?_append_right (by show 21<=21+u;omega),show 21+u-((Lb obA obB h p l q B E r []).take 21).length=u by show 21+u-21=u;omega,List.getElem?_append_left (by rw[List.length_map,List.length_range];exact hu),List.getElem?_map,List.getElem?_range hu]
 rfl
theorem AP{h:Hd}{p:Ph}{first:Int}{l:List Ol}(hT:Ak h p first l){E:List (List Ev)}(hE:∀e∈E,mE e)(h54:E.length<=54){R:Int ⊕ List Mb}(hR:gZ E first l (dQ h p)=R){v:XV}(hv:BR 75 R=v){o:ak}(ho:jB R=o){n m:Nat}(hn:l.length=n)(hm:E.length=m){obA obB:ak}[c8 obA][c8 obB]{q:List Int}{B:List Bool}{r:Nat×Bool} :
 aG.Sound Tryz.prog ⟨15,[.one (.ptr 0 0),.agg (f6 h),.agg (gV p),.one (.int .i64 first),.one (fD 17 n 397),.one (fD 20 m 1)],Lb obA obB h p l q B E r [],v,Lb obA obB h p l q B E r [o],xh⟩:=by
 subst hn hm hv ho hR
 have hF:=fun j=>IC E j
 have hc:=FL hT hE h54
 generalize gZ E first l (dQ h p)=R at hc
 have hvia:ae (nth xh) (Lb obA obB h p l q B E r []) xh (dU++(cE 56 (fl gU l)::lR 15 E::((List.range 54).map (fE E)++[]))):=zc (K:=0) rfl (fun j hj=>vo 0 _ j hj) (.flat rfl (.cons (by
  rw[vB (b':=21) fun j hj=>by have:=BW (r:=[]) (j:=j) (by omega);rw[List.append_nil]at this;exact this];rfl) (um hF .nil (List.range 54) fun j hj => .inl (Pt (List.mem_range.1 hj)))))
 have hren:dv (nth (xh++[75])) (dU++(cE 56 (fl gU l)::lR 15 E::((List.range 54).map (fE E)++[jB R]))) (eG 0++(cE 56 (fl gU l)::lR 21 E::((List.range 54).map (fE E)++[jB R]))):=t9 (K:=0) (fun j hj=>vo 0 _ j hj) (.flat (.cons (vB fun j hj=>BW (by omega)) (EL hF (.flat .nil) (List.range 54))))
 have hnd:xh.Nodup:=by decide +kernel
 have hok1:bc 69 (dU++(cE 56 (fl gU l)::lR 15 E::((List.range 54).map (fE E)++[]))):=nB (l:=cE 56 (fl gU l)::lR 15 E::((List.range 54).map (fE E)++[])) (by show 13<=69;omega) (.flat (.cons (ud (by show _<=69;omega)) (Dd hF .nil (List.range 54))))
 have hok2:bc 70 (dU++(cE 56 (fl gU l)::lR 15 E::((List.range 54).map (fE E)++[jB R]))):=nB (l:=cE 56 (fl gU l)::lR 15 E::((List.range 54).map (fE E)++[jB R])) (by show 13<=70;omega) (.flat (.cons (ud (by show _<=70;omega)) (Dd hF (.flat .nil) (List.range 54))))
 have hput:bK (Lb obA obB h p l q B E r []) xh (eG 0++(cE 56 (fl gU l)::lR 21 E::((List.range 54).map (fE E)++[jB R])))=Lb obA obB h p l q B E r [jB R]:=by kernel_rfl
 have hro:d9 (oq l (lR 15 E) (fE E) []) (oq l (lR 15 E) (fE E) [jB R])=true:=by
  refine pQ (oq l (lR 15 E) (fE E) []) [] [jB R] (lf _) ?_
  cases R with
  | inl e=>rfl
  | inr l=>
    show d9 [] [cE 53 (fl mC l)]=true
    cases fl mC l<;>rfl
 refine bO (os:=eG 0++(cE 56 (fl gU l)::lR 21 E::((List.range 54).map (fE E)++[jB R]))) xh xh 1 hc hnd hvia hok1 hok2 rfl (.cons (by show 0<69;omega) (.flat (.flat (.flat (.cons (iT (Nat.le_of_ble_eq_true rfl)) (.cons (iT (Nat.le_of_ble_eq_true rfl)) .nil)))))) (.cons rfl (.flat (.flat (.flat (.cons (dT ..) (.cons (dT ..) .nil)))))) ?_ ?_ hren hro rfl hput rfl (.inl rfl)
 ·cases R with
  | inl e=>exact XV.e9 rfl _
  | inr l=>exact F6 (aZ (Nat.le_of_ble_eq_true rfl)) trivial
 ·cases R with
  | inl e=>rfl
  | inr l=>simp only[Ej,BR,XV.ay,List.map_cons,List.map_nil,X1.ay,aB];rfl
theorem Dz{obA obB:ak}{cA cB:XC}{h:Hd}{p:Ph}{a b qa:List Int}{Ba:List Bool}{first:Int}{n:Nat}(hT:lT h p a qa Ba first n)(hoA:RO obA .u8 a)(hcA:cY cA 13 0 a.length)(hoB:RO obB .u8 b)(hcB:cY cB 14 0 b.length){x:TA}(hx:fI Ba first n ⟨dQ h p,(0,false),[]⟩=x)(he:ky Ba x.r=0)(hF:Ak h p first x.out)(h9:x.out.length<=9)(hb:bQ b)(hbl:b.length<=30000){q:List Int}{B:List Bool}(hesc:jc b b.length [] 0 0=some q)(hsz:cJ q=(B.length,true))(hfit:B.length<=8*q.length)(hB:dp q B){R:Int ⊕ List Mb}(hR:ym B first x.out (dQ h p)=R) :
 bh Tryz.prog 17 [.one (.ptr 0 0),.agg (f6 h),.agg (gV p),.one (.int .i64 first),.one (.int .i64 (n:Nat)),.one cA,.one cB] (dU++[obA,obB]) (BR 15 R) (dU++[obA,obB,jB R]):=by
 have hfA:=hoA.flat
 have hfB:=hoB.flat
 obtain⟨N,hmf⟩:∃N,vf x.out=N:=⟨_,rfl⟩
 have hN:N<=54:=by have:=vg x.out x.out.length;rw[<-hmf];unfold vf;omega
 unfold ym at hR
 rw[hmf]at hR
 obtain⟨X,hX⟩:∃X,ru B N ([],(0,false))=X:=⟨_,rfl⟩
 rw[hX]at hR
 dsimp only at hR
 refine cO Tryz.func17 ?_
 repeat' (first
  |(refine qz ?_;first
   |refine fG ?_ (hle:=by rw[br])
   |refine cl ?_ (hi:=by exact yl hT hoA hcA hx he rfl rfl rfl (by decide) nL (by simp only[dU,List.cons_append,List.nil_append];exact rfl) rfl)
   |refine cl ?_ (hi:=by exact vv hoB hcB hb hbl hesc hsz hfit rfl nL nA rfl)
   |refine cl ?_ (hi:=by exact Mj (by omega) rfl hmf rfl rfl))
  |refine zz ?_|refine zx (fun _=>?_) (fun _=>?_)|fail)
 refine WX.cU rfl ?_
 refine WX.BB 54 rfl ?_
 refine WX.dw (σ:=List (List Ev)×(Nat×Bool)) (fun s=>[(0,.one (.ptr 0 0)),(3,.one (.int .i64 first)),(8,.one (.ptr 15 0)),(9,.one (.ptr 16 0)),(16,.one (fD 17 x.out.length 397)),(18,.one (.ptr 18 0)),(43,.one (.int .i64 (N:Nat))),(19,hZ 20 s.1.length 1),(44,.one (.int .i64 (s.1.length:Nat)))]) (fun s=>Lb obA obB h p x.out q B s.1 s.2 []) (PU B N X) (fun s=>N-s.1.length) ([],(0,false)) ⟨Nat.zero_le _,hX,fun e he=>by cases he⟩ (fun s hs=>by have hle:=hs.le;exact(lD (objs:=by repeat' (first|exact bc.nil|refine bc.cons (ud (by show 21+_<=75;omega)) ?_|refine bc.flat ?_|refine bc.cons (by first|(simp[ak.b7,XC.ok,aZ];done)|simp[ak.b7,XC.ok,aZ, *]) ?_)))) (cG (0::1::2::3::4::5::6::7::8::9::10::11::12::13::14::15::16::17::18::19::20::21::22::23::24::25::26::27::28::29::30::31::32::33::34::35::36::37::38::39::40::41::42::43::44::45::46::47::48::49::50::51::52::53::54::55::56::57::58::59::60::61::62::63::64::65::66::67::68::69::70::71::72::73::74::[])) ?_
 intro s hs ih
 have hle:=hs.le
 have hrun:=hs.run
 by_cases hlt:s.1.length<N
 ·obtain⟨l,p',e',hq⟩:∃l p' e',jY B (s.2.1,s.2.2)=(l,p',e'):=⟨_,_,_,rfl⟩
  obtain⟨k,hk⟩:∃k,N-s.1.length=k+1:=⟨N-s.1.length-1,by omega⟩
  have hq':jY B s.2=(l,p',e'):=hq
  rw[hk,ru,hq']at hrun
  dsimp only at hrun
  have hl1:(s.1++[l]).length=s.1.length+1:=by rw[List.length_append];rfl
  have hin:mE l:=by have:=H0 B (s.2.1,s.2.2);rw[hq]at this;exact this
  cases e' with
  | true=>
    rw[if_pos rfl]at hrun
    rw[<-hrun]at hR
    have e3:ky B (p',true)=3:=rfl
    rw[e3,if_pos (by decide)]at hR
    subst hR
    repeat' (first
     |(refine qz ?_;first
      |refine cl ?_ (hi:=by exact AA hB hq rfl rfl (by decide) nL nA rfl)
      |refine RP (mT _ _) ?_
      |refine cl ?_ (hi:=by exact k_ rfl rfl rfl (by decide) rfl))
     |refine zz ?_|refine zx (fun _=>?_) (fun _=>?_)|fail)
    show aC _ _ _ _ _ _ _ _;refine kV [0,1,2,3,4,5,6,7,8,9,10,11,12,13,14,20] ?_
    rfl
  | false=>
    rw[if_neg Bool.false_ne_true]at hrun
    repeat' (first
     |(refine qz ?_;first
      |refine cl ?_ (hi:=by exact AA hB hq rfl rfl (by decide) nL nA rfl)
      |refine RP (mT _ _) ?_
      |refine cl ?_ (hi:=by exact k_ rfl rfl rfl (by decide) rfl))
     |refine zz ?_|refine zx (fun _=>?_) (fun _=>?_)|fail)
    refine ih (s.1++[l],(p',false)) _ _ _ (cG (DC s.1.length) (nd := .inl (Na (by omega))) (obj:=by
     iterate 20 (first|refine ae.flat rfl ?_|refine ae.cons rfl ?_)
     refine ae.cons ?_ (um (fun j=>IC _ j) .nil (List.range 54) (LQ rfl rfl))
     rw[Ga (N:=75) (fun j hj=>by rw[E1 _ (by omega),if_neg (by omega)]) (by rw[E1 _ (by omega),if_pos rfl])]
     rfl) (reg:=by
     repeat' (first|exact ah.nil|refine ah.flat (by rw[hl1];rfl) ?_|refine ah.flat rfl ?_|refine ah.cons (by rw[dT,hl1];rfl) ?_|refine ah.cons rfl ?_|refine ah.fN rfl rfl (by rfl) ?_)
     first|done|fail)) ⟨by dsimp only;omega,by dsimp only;rw[hl1,show N-(s.1.length+1)=k by omega];exact hrun,fun e he=>by
      rcases List.mem_append.1 he with he|he
      ·exact hs.ins e he
      ·rw[List.mem_singleton.1 he];exact hin⟩ (by dsimp only;omega)
 ·have h0:N-s.1.length=0:=by omega
  rw[h0]at hrun
  have hrun:s=X:=hrun
  subst hrun
  obtain⟨z,hz⟩:∃z,ky B s.2=z:=⟨_,rfl⟩
  rw[hz]at hR
  by_cases hz0:z=0
  ·rw [if_neg (by omega)]at hR
   subst hz0
   cases R with
   | inl e=>
     repeat' (first
      |(refine qz ?_;first
       |refine fG ?_ (hle:=by rw[br])
       |refine cl ?_ (hi:=by exact nX hz rfl rfl (by decide) rfl)
       |refine cl ?_ (hi:=by exact AP hF hs.ins (by omega) hR rfl rfl rfl rfl))
      |refine zz ?_|refine zx (fun _=>?_) (fun _=>?_)|fail)
     show aC _ _ _ _ _ _ _ _;refine kV [0,1,2,3,4,5,6,7,8,9,10,11,12,13,14,75] ?_
     rfl
   | inr r=>
     repeat' (first
      |(refine qz ?_;first
       |refine fG ?_ (hle:=by rw[br])
       |refine cl ?_ (hi:=by exact nX hz rfl rfl (by decide) rfl)
       |refine cl ?_ (hi:=by exact AP hF hs.ins (by omega) hR rfl rfl rfl rfl))
      |refine zz ?_|refine zx (fun _=>?_) (fun _=>?_)|fail)
     show aC _ _ _ _ _ _ _ _;refine kV [0,1,2,3,4,5,6,7,8,9,10,11,12,13,14,75] ?_
     simp only[BR,XV.ay,List.map_cons,List.map_nil,X1.ay,aB];rfl
  ·rw[if_pos hz0]at hR
   subst hR
   repeat' (first
    |(refine qz ?_;first
     |refine cl ?_ (hi:=by exact nX hz rfl rfl (by decide) rfl))
    |refine zz ?_|refine zx (fun _=>?_) (fun _=>?_)|fail)
   show aC _ _ _ _ _ _ _ _;refine kV [0,1,2,3,4,5,6,7,8,9,10,11,12,13,14,20] ?_
   rfl
noncomputable def qv(h:Hd)(p:Ph)(first:Int)(n:Nat)(a b:List Int):Int ⊕ List Mb:=
 match kd a with
 | .inl e => .inl e
 | .inr x=>if ky x.2 (fI x.2 first n ⟨dQ h p,(0,false),[]⟩).r≠0 then .inl (ky x.2 (fI x.2 first n ⟨dQ h p,(0,false),[]⟩).r)else match kd b with
   | .inl e => .inl e
   | .inr y=>ym y.2 first (fI x.2 first n ⟨dQ h p,(0,false),[]⟩).out (dQ h p)
structure mj(h:Hd)(p:Ph)(first:Int)(n:Nat)(a b:List Int):Prop where
 hd:qd h
 ph:tP p
 pos:0<=first
 many:1<=n
 few:n<=9
 all:first+(n:Nat)<=h.cols*h.rows
 bya:bQ a
 lea:a.length<=30000
 byb:bQ b
 leb:b.length<=30000
theorem mj.ta{h:Hd}{p:Ph}{first:Int}{n:Nat}{a b:List Int}(hI:mj h p first n a b){q:List Int}{B:List Bool}(ho:kd a = .inr (q,B)):lT h p a q B first n:=by
 obtain⟨o1,o2,o3,o4⟩:=vu hI.bya hI.lea ho
 exact⟨hI.hd,hI.ph,hI.bya,hI.lea,o1,o2,o3,o4,hI.pos,hI.many,hI.all⟩
theorem FE{B:List Bool}{r:Nat×Bool}(h:ky B r=0):r.2=false:=by
 unfold ky at h
 split at h
 ·cases h
 ·rename_i h1
  cases hh:r.2 with
  | false=>rfl
  | true=>exact absurd hh h1
theorem Kd{h:Hd}{p:Ph}{first:Int}{n:Nat}{a b:List Int}(hI:mj h p first n a b){B:List Bool}{t:TA}(ht:fI B first n ⟨dQ h p,(0,false),[]⟩=t)(he:ky B t.r=0):Ak h p first t.out/\t.out.length=n:=by
 obtain⟨i1,i2⟩:=vV n _ (by rw[ht];exact FE he)
 rw[ht]at i1
 obtain⟨o1,o2⟩:=se (B:=B) (first:=first) (x0:=⟨dQ h p,(0,false),[]⟩) rfl n
 rw[<-i1]at o1 o2
 have hm:=hI.many
 refine⟨⟨hI.hd,hI.ph,hI.pos,by omega,by rw[o1];exact hI.all,fun j hj i=>?_⟩,o1⟩
 rw[o2 j (by omega)]
 dsimp only
 obtain⟨x,has,hx⟩:∃x has,b_ (lE B first ⟨dQ h p,(0,false),[]⟩ j).S B (first+(j:Nat)) (lE B first ⟨dQ h p,(0,false),[]⟩ j).r=(x,has):=⟨_,_,rfl⟩
 rw[hx]
 obtain⟨f1,f2,_⟩:=zH hx
 by_cases hc:alone x.m=true/\i%64=0/\i<384
 ·have:=f1 hc.1 (i/64) (by omega)
  rw[show i/64*64=i by omega]at this
  show -1000000<=x.m.lev i/\x.m.lev i<=1000000
  omega
 ·show -1000000<=x.m.lev i/\x.m.lev i<=1000000
  rw[f2 i hc];decide
theorem yk{obA obB:ak}{cA cB:XC}{h:Hd}{p:Ph}{first:Int}{n:Nat}{a b:List Int}(hI:mj h p first n a b)(hoA:RO obA .u8 a)(hcA:cY cA 13 0 a.length)(hoB:RO obB .u8 b)(hcB:cY cB 14 0 b.length){R:Int ⊕ List Mb}(hR:qv h p first n a b=R) :
 bh Tryz.prog 17 [.one (.ptr 0 0),.agg (f6 h),.agg (gV p),.one (.int .i64 first),.one (.int .i64 (n:Nat)),.one cA,.one cB] (dU++[obA,obB]) (BR 15 R) (dU++[obA,obB,jB R]):=by
 have hfA:=hoA.flat
 have hfB:=hoB.flat
 have hn9:=hI.few
 unfold qv at hR
 cases hA:kd a with
 | inl e=>
   rw[hA]at hR
   subst hR
   have he0:=(kZ hA).1
   refine cO Tryz.func17 ?_
   repeat' (first
    |(refine qz ?_;first
     |refine fG ?_ (hle:=by rw[br])
     |refine cl ?_ (hi:=by exact GU hI.hd hI.ph hoA hcA hI.bya hI.lea hI.pos hI.many hI.all hA rfl rfl rfl (by decide) rfl))
    |refine zz ?_|refine zx (fun _=>?_) (fun _=>?_)|fail)
   show aC _ _ _ _ _ _ _ _;refine kV [0,1,2,3,4,5,6,7,8,9,10,11,12,13,14,15] ?_
   rfl
 | inr x =>
   obtain⟨qa,Ba⟩:=x
   rw[hA]at hR
   dsimp only at hR
   have hT:=hI.ta hA
   obtain⟨t,ht⟩:∃t,fI Ba first n ⟨dQ h p,(0,false),[]⟩=t:=⟨_,rfl⟩
   rw[ht]at hR
   obtain⟨e,he⟩:∃e,ky Ba t.r=e:=⟨_,rfl⟩
   rw[he]at hR
   by_cases he0:e=0
   ·rw [if_neg (fun g=>g he0)]at hR
    subst he0
    cases hB:kd b with
    | inl e=>
      rw[hB]at hR
      subst hR
      have he1:=(kZ hB).1
      refine cO Tryz.func17 ?_
      repeat' (first
       |(refine qz ?_;first
        |refine fG ?_ (hle:=by rw[br])
        |refine cl ?_ (hi:=by exact yl hT hoA hcA ht he rfl rfl rfl (by decide) nL (by simp only[dU,List.cons_append,List.nil_append];exact rfl) rfl)
        |refine cl ?_ (hi:=by exact xV hoB hcB hI.byb hI.leb hB rfl rfl))
       |refine zz ?_|refine zx (fun _=>?_) (fun _=>?_)|fail)
      show aC _ _ _ _ _ _ _ _;refine kV [0,1,2,3,4,5,6,7,8,9,10,11,12,13,14,15] ?_
      rfl
    | inr y=>
      obtain⟨qb,Bb⟩:=y
      rw[hB]at hR
      obtain⟨o1,o2,o3,o4⟩:=vu hI.byb hI.leb hB
      obtain⟨f1,f2⟩:=Kd hI ht he
      exact Dz hT hoA hcA hoB hcB ht he f1 (by omega) hI.byb hI.leb o1 o2 o3 o4 hR
   ·rw[if_pos he0]at hR
    subst hR
    refine cO Tryz.func17 ?_
    repeat' (first
     |(refine qz ?_;first
      |refine fG ?_ (hle:=by rw[br])
      |refine cl ?_ (hi:=by exact GV hT hoA hcA ht he he0 rfl rfl rfl (by decide) rfl))
     |refine zz ?_|refine zx (fun _=>?_) (fun _=>?_)|fail)
    show aC _ _ _ _ _ _ _ _;refine kV [0,1,2,3,4,5,6,7,8,9,10,11,12,13,14,15] ?_
    rfl
theorem GS{h : Hd}{p:Ph}{first:Int}{n:Nat}{a b:List Int}{e:Int}(hR:qv h p first n a b = .inl e):e≠0:=by
 unfold qv at hR
 cases hA:kd a with
 | inl e'=>rw[hA]at hR;cases hR;exact(kZ hA).1
 | inr x =>
   rw[hA]at hR
   dsimp only at hR
   split at hR
   ·rename_i hne;cases hR;exact hne
   ·cases hB : kd b with
    | inl e'=>rw[hB]at hR;cases hR;exact(kZ hB).1
    | inr y =>
      rw[hB]at hR
      unfold ym at hR
      dsimp only at hR
      split at hR
      ·rename_i hne;cases hR;exact hne
      ·unfold gZ at hR
       split at hR
       ·rename_i e' hf
        cases hR
        have fK_ne:∀{E:List (List Ev)} {mb:Int} {has:Nat->Bool} {x:FK} {k:Nat} {e:Int},fK E mb has x k = .inl e->e≠0:=fun {E mb has x k e} h=>by
         have hr:∀{u rest},FI mb x k u rest = .inl e->e≠0:=fun h=>by
          unfold FI at h
          split at h
          ·cases h;decide
          ·cases h
         unfold fK at h
         split at h
         ·split at h
          ·cases h;decide
          ·split at h
           ·cases h;decide
           ·exact hr h
         ·exact hr h
        have fB_ne:∀{E:List (List Ev)} {mb:Int} {has:Nat->Bool} {x:FK} {e:Int}(k:Nat),ic E mb has x k = .inl e->e≠0:=fun {E mb has x e} k=>by
         induction k with
         | zero=>intro h;cases h
         | succ k ih=>
           intro h
           rw[ic]at h
           split at h
           ·rename_i e2 h2;cases h;exact ih h2
           ·exact fK_ne h
        have fA_ne:∀{E:List (List Ev)} {l:List Ol} {S0:bm} {e:Int}(k:Nat),nH E first l S0 k = .inl e->e≠0:=fun {E l S0 e} k=>by
         induction k with
         | zero=>intro h;cases h
         | succ k ih=>
           intro h
           rw[nH]at h
           split at h
           ·rename_i e2 h2;cases h;exact ih h2
           ·split at h
            ·rename_i e2 h2;cases h;exact fB_ne 6 h2
            ·cases h
        exact fA_ne _ hf
       ·split at hR
        ·cases hR;decide
        ·cases hR
theorem Ki{h:Hd}{p:Ph}{first:Int}{n:Nat}{a b:List Int}(hI:mj h p first n a b){m:List Mb}(hR:qv h p first n a b = .inr m):gp h p m first/\m.length=n/\(∀j,j<n->Canon (m.getD j default))/\qf h p m first = .inr (a,b):=by
 unfold qv at hR
 cases hA:kd a with
 | inl e'=>rw[hA]at hR;cases hR
 | inr x=>
   obtain⟨qa,Ba⟩:=x
   rw[hA]at hR
   dsimp only at hR
   split at hR
   ·cases hR
   ·rename_i he
    have he:ky Ba (fI Ba first n ⟨dQ h p,(0,false),[]⟩).r=0:=Decidable.byContradiction fun g=>he g
    cases hB:kd b with
    | inl e'=>rw[hB]at hR;cases hR
    | inr y=>
      obtain⟨qb,Bb⟩:=y
      rw[hB]at hR
      obtain⟨o1,o2,o3,o4⟩:=vu hI.byb hI.leb hB
      exact JA hI.hd hI.ph hI.pos hI.many (by have:=hI.few;omega) hI.all (hI.ta hA) rfl he hI.leb o1 o2 o4 hR
end Go.Proofs.YtagpkhindehcbaaGreat
namespace Go.Xm
variable [ax]
variable {P:Program} {ops:Array Oper} {nt nI:Nat} {al:bl} {hs:aj} {o:Oper} {l:List Oper} {L:List aG} {K:List Ab->bl->aj->Prop} {d:Nat}
theorem aH.bytes{O:dI}(hw:av ops (rg al) o=some true){s t:TypeId}{x:Operand}(ho:o.op = .convert s t x){e:TypeId}(hs1:P.underlying s=some (.slice e))(he:P.underlying e=some (.int .u8))(hd:P.underlying t=some .string){i off len:Nat}{cap:tO}(hx:ai (rg al) x = .one (.slice i off len cap)){vs:List XC}{et:TypeId}{opn ro:Bool}(hi:hs[i]? = some (.cells vs et opn ro))(hfit:off+len<=vs.length){ns:List Int}(hb:py ((vs.drop off).take len)=some ns) :
 aH O P ops al hs o (.one (.str (oa ns))) hs ⟨false,some i,[]⟩:=by
 intro m hm
 refine⟨m,?_,hm,fun _ _=>rfl⟩
 unfold kC
 rw[hw]
 obtain⟨f,hf1,hf2⟩:∃f,f4 P (ai (rg al)) o.op=some (i,f)/\∀vs' e' o' r',f (.cells vs' e' o' r')=if off+len<=vs'.length then(py ((vs'.drop off).take len)).map fun ns=>XV.one (.str (oa ns))else .none:=by
  rw[ho]
  simp only[f4,hs1,hd,hx,he]
  exact⟨_,rfl,fun _ _ _ _=>rfl⟩
 refine s9 (by rw[ho];simp only[bj,lJ,hs1,hd,hx]) (by rw[ho];simp only[qh,hx]) hf1 ?_
 rw[hm.at hi,hf2,if_pos hfit,hb]
 rfl
theorem s_:∀a:List Int,py (il .u8 a)=some a
 | []=>rfl
 | z::a=>by
   show(py (il .u8 a)).map (z :: ·)=_
   rw[s_ a];rfl
theorem QY{s t e:TypeId}{x:Operand}{i:Nat}{a:List Int}(hne:a.length≠0)(hk:SK P ops nt L l ((d,.one (.str (oa a)))::al) hs fun bs=>K (⟨false,some i,[]⟩::bs))(ho:o.op = .convert s t x:=by exact rfl)(hu:aW P s (.slice e):=by infer_instance)(he:aW P e (.int .u8):=by infer_instance)(ht:aW P t .string:=by infer_instance)(hw:av ops (rg al) o=some true:=by exact rfl)(hd:o.dst=some d:=by exact rfl)(hlt:Nat.blt d nt=true:=by exact rfl)
 (hx:ai (rg al) x = .one (fD i a.length 1):=by exact rfl) {et:TypeId}(hi:hs[i]? = some (cE et (il .u8 a)):=by exact rfl):SK P ops nt L (o::l) al hs K:=by
 have hil:(il .u8 a).length=a.length:=dZ _ _
 have h1:cE et (il .u8 a) = .cells (il .u8 a) et true false:=fb (fun h=>hne (by rw[<-hil,h];rfl))
 have h2:fD i a.length 1 = .slice i 0 a.length (.toEnd 1):=if_neg hne
 refine SK.lift hd hlt (fun _=>aH.bytes hw ho hu.out he.out ht.out (by rw[hx,h2]) (hi.trans (congrArg some h1)) (by omega) (ns:=a) ?_) hk
 rw[List.drop_zero,<-hil,List.take_length]
 exact s_ a
theorem Sw{t t':TypeId}{a b:Operand}{x:List UInt8}(hk:SK P ops nt L l ((d,.one (.bool false))::al) hs fun bs=>K (quiet::bs))(ho:o.op = .binOp .neq t a b t':=by exact rfl)(hu:aW P t .string:=by infer_instance)(hw:av ops (rg al) o=some true:=by exact rfl)(hd:o.dst=some d:=by exact rfl)(hlt:Nat.blt d nt=true:=by exact rfl)
 (ha:ai (rg al) a = .one (.str x):=by exact rfl) (hb:ai (rg al) b = .one (.str x):=by exact rfl):SK P ops nt L (o::l) al hs K:=
 SK.lift hd hlt (fun _=>aH.pure hw (by rw[ho];simp[bj,ha,hb,tV,KU])) hk
end Go.Xm
namespace Go.Xm
variable [ax]
variable {P:Program} {ops:Array Oper} {nt nI:Nat} {al:bl} {hs:aj} {o:Oper} {l:List Oper} {L:List aG} {K:List Ab->bl->aj->Prop} {d:Nat}
theorem R_{t t':TypeId}{a b:Operand}{x:List UInt8}(hk:SK P ops nt L l ((d,.one (.bool true))::al) hs fun bs=>K (quiet::bs))(ho:o.op = .binOp .eql t a b t':=by exact rfl)(hu:aW P t .string:=by infer_instance)(hw:av ops (rg al) o=some true:=by exact rfl)(hd:o.dst=some d:=by exact rfl)(hlt:Nat.blt d nt=true:=by exact rfl)(ha:ai (rg al) a = .one (.str x):=by exact rfl)(hb:ai (rg al) b = .one (.str x):=by exact rfl):SK P ops nt L (o::l) al hs K:=
 SK.lift hd hlt (fun _=>aH.pure hw (by rw[ho];simp[bj,ha,hb,tV,KU])) hk
end Go.Xm
namespace Go.Proofs.YtagpkhindehcbaaGreat
open Go.Xm
variable [ax]
def hA:Hd:=⟨1,1,false,fun _=>0,fun _=>0⟩
def pA:Ph:=⟨0,true,false,1⟩
def mA:Mb:=nN Pk true 1
theorem MX:kE Pk:=⟨⟨by decide,by decide⟩,⟨by decide,by decide⟩,⟨fun _ _=>by show -128<=(0:Int)/\(0:Int)<128;decide,fun _ _=>by show -128<=(0:Int)/\(0:Int)<128;decide⟩,fun _ _=>by show(0:Int)<=0/\(0:Int)<18446744073709551616;decide,by decide,by decide⟩
theorem NN:iK mA/\dC mA true 1=0/\1<=mA.qp/\mA.qp<=31:=C7 (inter:=true) (qp:=1) MX ⟨by decide,by decide⟩
theorem Mu:gp hA pA [mA] 0:=⟨⟨⟨by decide,by decide,by decide,by decide⟩,fun h=>(by cases h),fun _ _ _=>⟨rfl,rfl⟩⟩,⟨by decide,by decide,fun h=>by cases h⟩,fun m hm=>by rw[List.mem_singleton.1 hm];exact NN.1,by decide,by decide,by decide,by decide⟩
theorem QC:qf hA pA [mA] 0 = .inr ([160],[128]):=by
 have h1:gd [mA] 0 (qT hA pA) 1 = .inr ⟨aX (dQ hA pA) 0 mA.v,[true,false],[]⟩:=by
  show kh 0 0 mA (qT hA pA)=_
  unfold kh
  have hc:dC mA (qT hA pA).S.inter (qT hA pA).S.qp=0:=NN.2.1
  rw[hc,if_neg (by simp)]
  rfl
 unfold qf
 show(match gd [mA] 0 (qT hA pA) 1 with | .inl e=>_ | .inr x=>_)=_
 rw[h1]
 have e1:gS (wr ([true,false]++[true])) (wr ([true,false]++[true])).length=([160],0):=by decide
 have e2:gS (wr ([]++[true])) (wr ([]++[true])).length=([128],0):=by decide
 dsimp only
 rw[e1,e2]
 rfl
theorem Fo:bh Tryz.prog 8 [] [] (.one (.bool true)) []:=by
 have hro:uy (.cells (fl mC [mA]) 53 false false) mC [mA]:=⟨fun _=>⟨_,_,_,rfl⟩,inferInstance⟩
 have hna:([160]:List Int).length≠0:=by decide
 have hnb:([128]:List Int).length≠0:=by decide
 refine cO Tryz.func8 ?_
 repeat' (first
  |(refine qz ?_;first
   |refine cl ?_ (hi:=by exact Jb nL (by simp only[eG,List.cons_append,List.nil_append];exact rfl) rfl)
   |refine bF (out:=f6 hA) ?_ (hz:=Af) (hc:=by kernel_rfl)
   |refine bF (out:=gV pA) ?_ (hz:=D0) (hc:=by kernel_rfl)
   |refine bF (out:=mC mA) ?_ (hz:=jV) (hc:=by kernel_rfl)
   |refine oR (enc:=mC) (a:=mA) ?_
   |refine cl ?_ (hi:=by exact zo Mu hro QC rfl rfl rfl (by decide) nL (by simp only[eG,List.cons_append,List.nil_append];exact rfl) rfl)
   |refine QY hna ?_
   |refine QY hnb ?_
   |refine R_ ?_)
  |refine zz ?_|refine zx (fun _=>?_) (fun _=>?_)|fail)
 show aC _ _ _ _ _ _ _ _;refine kV [] ?_
 rfl
theorem rr{HS:aj}(hb:Nat.blt HS.length Mem.bound=true):aG.Sound Tryz.prog ⟨8,[],HS,.one (.bool true),HS,[]⟩:=
 aA Fo rfl rfl hb
end Go.Proofs.YtagpkhindehcbaaGreat
