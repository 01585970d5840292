/-
  A part of the proof: PartMain, BackLaw, WkL, EqA, EqB, WkM, WkN.
-/
import Derived.Test.YthdciapjllppjaaGreatWaG
import Derived.Test.YthdciapjllppjaaGreatWaQ
import Derived.Test.YthdciapjllppjaaGreatWaZ
import Derived.Test.YthdciapjllppjaaGreatWaZA
import Derived.Test.YthdciapjllppjaaGreatWaZD
import Derived.Test.YthdciapjllppjaaGreatWaZE
import Derived.Test.YthdciapjllppjaaGreatWaZF
set_option maxRecDepth 10000
set_option maxHeartbeats 8000000
set_option linter.unusedVariables false
set_option linter.unusedSectionVars false
set_option linter.unusedSimpArgs false
open Go.Proofs.Tryz (prog)
namespace Go.Proofs.YthdciapjllppjaaGreat
open Go.Xm
variable [ak]
structure RZ(h:Hd)(p:Ph)(l:List Mb)(ft:Int)(a b:List Int):Prop where
 na:a.length≠0
 nb:b.length≠0
 out:∀n,1<=n->n<=l.length->∃q B t y,KI h p a q B ft n/\JB B ft n ⟨O8 h p,(0,false),[]⟩=t/\mP l ft (GI h p) n = .inr y/\GJ l ft (GI h p) n y t/\Sf B t.r=if n<l.length then 13 else 0
def Sw:Int->List Int->Prop
 | _,[]=>True
 | z,b::t=>¬(2<=z/\b<3)/\Sw (if b=0 then z+1 else 0) t
theorem tU:∀(l:List Int) (z:Int),Sw z (lG z l)
 | [],z=>trivial
 | b :: t,z=>by
   rw[lG];split
   ·refine⟨by omega,?_⟩;rw[if_neg (by decide)];exact⟨by omega,tU t _⟩
   ·exact⟨by omega,tU t _⟩
def KE(x:List Int):Prop:=∀i,i+2<x.length->¬(x.getD i 0=0/\x.getD (i+1) 0=0/\x.getD (i+2) 0<3)
theorem IC:∀(x:List Int) (z:Int),0<=z->Sw z x->KE x
 | [],z,_,_=>fun i hi=>absurd hi (Nat.not_lt_zero _)
 | b :: t,z,hz,h=>fun i hi=>by
   have ih:=IC t _ (by split<;>omega) h.2
   cases i with
   | succ i=>
     have:=ih i (by simp only[List.length_cons]at hi;omega);exact this
   | zero=>
     intro⟨h1,h2,h3⟩
     match t,hi,h,h2,h3 with
     | [],hi,_,_,_=>simp at hi
     | [_],hi,_,_,_=>simp at hi
     | c::d::t,hi,h,h2,h3=>
       have h1:b=0:=h1;have h2:c=0:=h2;have h3:d<3:=h3;have h5:=h.2.2.1;rw[if_pos h1,if_pos h2]at h5;omega
theorem NU(l:List Int):KE (fv l l.length).1:=by
 rw[nG];exact IC _ 0 (Int.le_refl _) (tU l 0)
structure P2(h:Hd)(p:Ph)(l:List Mb)(ft:Int)(a b:List Int):Prop where
 noa:KE a
 nob:KE b
 byb:bc b
 lea:a.length<=30000
 leb:b.length<=30000
 all:∀t y,mP l ft (GI h p) l.length = .inr y->GJ l ft (GI h p) l.length y t->∃q E,nH b b.length [] 0 0=some q/\fh q=(y.w.length,true)/\y.w.length<=8*q.length/\eX q y.w/\MZ y.w (Q3 t.out) ([],(0,false))=(E,(y.w.length,false))/\∃out,QG E ft t.out (O8 h p) = .inr out/\out.length=l.length/\∀i,i<l.length->Nx (l.getD i default) (out.getD i default)
theorem gm(b:List Int)(p i:Nat):(b.drop p).getD i 0=b.getD (p+i) 0:=by
 rw[List.getD_eq_getElem?_getD,List.getD_eq_getElem?_getD,List.getElem?_drop]
theorem tI{x y:List Int}{i:Nat}(h:i<x.length):(x++y).getD i 0=x.getD i 0:=by
 rw[List.getD_eq_getElem?_getD,List.getD_eq_getElem?_getD,List.getElem?_append_left h]
theorem oA{x y:List Int}{i:Nat}(h:x.length<=i):(x++y).getD i 0=y.getD (i-x.length) 0:=by
 rw[List.getD_eq_getElem?_getD,List.getD_eq_getElem?_getD,List.getElem?_append_right h]
def GP(g:Nat->Int)(j:Nat):Prop:=g j=0/\g (j+1)=0/\g (j+2)=1
theorem kp{g:Nat->Int}{n p:Nat}(hp:p+2<n)(hm:GP g p):∀(d a:Nat),p-a=d->a<=p->(∀j,a<=j->j<p->¬GP g j)->findF g n a=some p
 | 0,a,hd,ha,hc=>by
   have:a=p:=by omega
   subst this;exact kr hp hm
 | d+1,a,hd,ha,hc=>by
   rw[xY (by omega) (hc a (Nat.le_refl _) (by omega))];exact kp hp hm d (a+1) (by omega) (by omega) fun j h1 h2=>hc j (by omega) h2
theorem rB{g:Nat->Int}{n:Nat}:∀(d a:Nat),n-a=d->(∀j,a<=j->j+2<n->¬GP g j)->findF g n a=none
 | 0,a,hd,hc=>qi (by omega)
 | d + 1,a,hd,hc=>by
   by_cases h:n<=a+2
   ·exact qi h
   ·rw[xY (by omega) (hc a (Nat.le_refl _) (by omega))];exact rB d (a+1) (by omega) fun j h1 h2=>hc j (by omega) h2
inductive It where
 | pk (k:Pk)
 | hd (h:Hd)
 | no (l:List Int)
def PY:It->List Int
 | .pk k=>eo k.B k.A k.Bb
 | .hd h=>ie h
 | .no l=>l
def eD(l:List It):List Int:=l.flatMap PY
theorem dL(x:It)(l:List It):eD (x::l)=PY x++eD l:=rfl
def xH(all:Int):It->Prop
 | .pk k=>xI k.ph k.first k.count k.A.length k.Bb.length all/\bc k.A/\bc k.Bb/\ku k.ph k.first k.count (k.A.length:Nat) (k.Bb.length:Nat) (cU k.A) (cU k.Bb) (cU (wr (fP k.ph k.first k.count (k.A.length:Nat) (k.Bb.length:Nat) (cU k.A) (cU k.Bb))))=k.B
 | .hd h=>True
 | .no l=>∀x∈l,2<=x
def nj:Nat->List It->List MT
 | _,[]=>[]
 | p,.pk k::r=>(p,.some k)::nj (p+cA k) r
 | p,.hd h::r=>(p,.none)::nj (p+(ie h).length) r
 | p,.no l::r=>nj (p+l.length) r
def nM:Nat->List It->List Fo
 | _,[]=>[]
 | p,.pk k::r=>⟨k,p⟩::nM (p+cA k) r
 | p,.hd h::r=>nM (p+(ie h).length) r
 | p,.no l::r=>nM (p+l.length) r
def iI:List It->Nat
 | []=>0
 | .pk _::r=>iI r
 | .hd h::r=>(ie h).length+iI r
 | .no l::r=>l.length+iI r
theorem ug(h:Hd)(r:List Int):(ie h++r).getD 0 0=0/\(ie h++r).getD 1 0=0/\(ie h++r).getD 2 0=1/\(ie h++r).getD 3 0=176:=by
 unfold ie;exact⟨rfl,rfl,rfl,rfl⟩
theorem uJ(B:List Bool)(x y r:List Int):(eo B x y++r).getD 0 0=0/\(eo B x y++r).getD 1 0=0/\(eo B x y++r).getD 2 0=1:=by
 unfold eo;generalize o6 B 17=z;exact⟨rfl,rfl,rfl⟩
theorem yb{all:Int}:∀l:List It,(∀x∈l,xH all x)->(eD l).getD 0 0≠1/\(eD l).getD 1 0≠1
 | [],_=>⟨by show(0:Int)≠1;decide,by show(0:Int)≠1;decide⟩
 | .pk k::r,h=>by
   rw[dL];have:=uJ k.B k.A k.Bb (eD r);show(eo k.B k.A k.Bb++eD r).getD 0 0≠1/\(eo k.B k.A k.Bb++eD r).getD 1 0≠1;omega
 | .hd y::r,h=>by
   rw[dL];have:=ug y (eD r);show(ie y++eD r).getD 0 0≠1/\(ie y++eD r).getD 1 0≠1;omega
 | .no l::r,h=>by
   have ih:=yb r fun x hx=>h x (List.mem_cons_of_mem _ hx)
   have hl:∀x∈l,2<=x:=h _ List.mem_cons_self;rw[dL];show(l++eD r).getD 0 0≠1/\(l++eD r).getD 1 0≠1
   match l,hl with
   | [],_=>exact ih
   | [x],hl=>
     have:=hl x (by simp);exact⟨fun e=>by have e:x=1:=e;omega,ih.1⟩
   | x::y::t,hl=>
     have h1:=hl x (by simp);have h2:=hl y (by simp);exact⟨fun e=>by have e:x=1:=e;omega,fun e=>by have e:y=1:=e;omega⟩
theorem N3(h:Hd){j:Nat}(h3:3<=j)(hj:j+2<(ie h).length):¬GP (fun i=>(ie h).getD i 0) j:=fun hm=>by
 have hn:=NU (y8 h);unfold ie at hj hm;rw[List.length_append]at hj;obtain⟨m0,m1,m2⟩:=hm;dsimp only at m0 m1 m2
 by_cases h4:j=3
 ·subst h4;have m0:(176:Int)=0:=m0;omega
 ·have hj:j+2<4+_:=hj;rw[oA (by show 4<=j;omega)]at m0;rw[oA (by show 4<=j+1;omega)]at m1;rw[oA (by show 4<=j+2;omega)]at m2;have e1:j+1-([0,0,1,176]:List Int).length=j-4+1:=by show j+1-4=_;omega
  have e2:j+2-([0,0,1,176]:List Int).length=j-4+2:=by show j+2-4=_;omega
  rw[e1]at m1;rw[e2]at m2;exact hn (j-4) (by omega) ⟨m0,m1,by rw[m2];decide⟩
theorem zB{h:Hd}{r:List Int}(hs:r.getD 0 0≠1/\r.getD 1 0≠1){j:Nat}(h3:3<=j)(hj:j<(ie h).length):¬GP (fun i=>(ie h++r).getD i 0) j:=fun hm=>by
 obtain⟨m0,m1,m2⟩:=hm;dsimp only at m0 m1 m2
 by_cases h1:j+2<(ie h).length
 ·rw[tI (by omega)]at m0 m1 m2;exact N3 h h3 h1 ⟨m0,m1,m2⟩
 ·rw[oA (by omega)]at m2;have:j+2-(ie h).length=0\/j+2-(ie h).length=1:=by omega
  rcases this with e|e<;>rw[e]at m2
  ·exact hs.1 m2
  ·exact hs.2 m2
theorem LN{b:List Int}{n:Nat}{all:Int}{p:Nat}{k:Pk}{r:List Int}(hk:xH all (.pk k))(hb:b.drop p=eo k.B k.A k.Bb++r)(hn:b.length=n):Qa b n all p k:=by
 obtain⟨o,a1,b1,e⟩:=hk;have hl:=congrArg List.length hb;rw[List.length_drop,List.length_append,gq]at hl;refine⟨o,a1,b1,e,by omega,fun i hi=>?_⟩;rw[<-gm,hb,tI (by rw[gq];exact hi)]
theorem qL{b:List Int}{n:Nat}{all:Int}(hn:b.length=n):∀(its:List It) (p a:Nat),(∀x∈its,xH all x)->b.drop p=eD its->p<=n->a<=p->(∀j,a<=j->j<p->¬GP (du b 0) j)->Steps b n all a (nj p its)
 | [],p,a,ho,hb,hp,ha,hc=>by
   have hl:=congrArg List.length hb;rw[List.length_drop]at hl;have hl:b.length-p=0:=hl;exact .nil (by omega) (rB _ a rfl fun j h1 h2=>hc j h1 (by omega))
 | .pk k::r,p,a,ho,hb,hp,ha,hc=>by
   have hk:=ho _ List.mem_cons_self;rw[dL]at hb;have hb:b.drop p=eo k.B k.A k.Bb++eD r:=hb;have hl:=congrArg List.length hb;rw[List.length_drop,List.length_append,gq]at hl;have hg:=uJ k.B k.A k.Bb (eD r);rw[<-hb,gm,gm,gm]at hg
   have hm:GP (du b 0) p:=by
    unfold GP du;rw[Nat.zero_add,Nat.zero_add,Nat.zero_add];exact hg
   refine .pk ha (by omega) (kp (by omega) hm _ a rfl ha hc) (LN hk hb hn) ?_;refine qL hn r (p+cA k) _ (fun x hx=>ho x (List.mem_cons_of_mem _ hx)) ?_ (by unfold cA;omega) (Nat.le_refl _) fun j h1 h2=>by omega
   rw[<-List.drop_drop,hb,List.drop_left' (by rw[gq];rfl)]
 | .hd h::r,p,a,ho,hb,hp,ha,hc=>by
   have hor:∀x∈r,xH all x:=fun x hx=>ho x (List.mem_cons_of_mem _ hx)
   rw[dL]at hb;have hb:b.drop p=ie h++eD r:=hb;have hl:=congrArg List.length hb;have hy:=jU h;rw[List.length_drop,List.length_append]at hl;have hg:=ug h (eD r);rw[<-hb,gm,gm,gm,gm]at hg
   have hm:GP (du b 0) p:=by
    unfold GP du;rw[Nat.zero_add,Nat.zero_add,Nat.zero_add];exact⟨hg.1,hg.2.1,hg.2.2.1⟩
   refine .no ha (by omega) (kp (by omega) hm _ a rfl ha hc) (by rw[hg.2.2.2];decide) ?_;refine qL hn r (p+(ie h).length) _ hor ?_ (by omega) (by omega) fun j h1 h2 hm=>?_
   ·rw[<-List.drop_drop,hb,List.drop_left' rfl]
   ·refine zB (h:=h) (yb r hor) (j:=j-p) (by omega) (by omega) ?_;obtain⟨m0,m1,m2⟩:=hm;unfold du at m0 m1 m2;refine⟨?_,?_,?_⟩<;>dsimp only<;>rw[<-hb,gm]
    ·rw[<-m0];congr 1;omega
    ·rw[<-m1];congr 1;omega
    ·rw[<-m2];congr 1;omega
 | .no l::r,p,a,ho,hb,hp,ha,hc=>by
   have hor:∀x∈r,xH all x:=fun x hx=>ho x (List.mem_cons_of_mem _ hx)
   have hl2:∀x∈l,2<=x:=ho _ List.mem_cons_self;rw[dL]at hb;have hb:b.drop p=l++eD r:=hb;have hl:=congrArg List.length hb;rw[List.length_drop,List.length_append]at hl;show Steps b n all a (nj (p+l.length) r);refine qL hn r (p+l.length) a hor ?_ (by omega) (by omega) fun j h1 h2 hm=>?_
   ·rw[<-List.drop_drop,hb,List.drop_left' rfl]
   ·by_cases hj:j<p
    ·exact hc j h1 hj hm
    ·have m0:=hm.1;unfold du at m0;rw[show 0+j=p+(j-p) by omega,<-gm,hb,tI (by omega),List.getD_eq_getElem?_getD,List.getElem?_eq_getElem (show j-p<l.length by omega),Option.getD_some]at m0;have:=hl2 _ (List.getElem_mem (show j-p<l.length by omega));omega
theorem tp:∀(its:List It) (p:Nat) (s:W9),s.at_<=p->0<=s.work->s.work<=2*(s.at_:Nat)+2 ->
 ((nj p its).foldl w9 s).acc=s.acc++nM p its/\((nj p its).foldl w9 s).passed+(((p+(eD its).length:Nat):Int)-(((nj p its).foldl w9 s).at_:Nat))=s.passed+((p:Int)-(s.at_:Nat))+(iI its:Nat)/\0<=((nj p its).foldl w9 s).work/\((nj p its).foldl w9 s).work<=2*(((nj p its).foldl w9 s).at_:Nat)+2/\((nj p its).foldl w9 s).at_<=p+(eD its).length
 | [],p,s,ha,hw,hw2=>⟨(List.append_nil _).symm,by show s.passed+(((p+0:Nat):Int)-(s.at_:Nat))=s.passed+((p:Int)-(s.at_:Nat))+((0:Nat):Int);omega,hw,hw2,by show s.at_<=_;omega⟩
 | .pk k::r,p,s,ha,hw,hw2=>by
   have hk:21<=cA k:=by unfold cA;omega
   have hl:(PY (.pk k)).length=cA k:=gq ..;obtain⟨i1,i2,i3,i4,i5⟩:=tp r (p+cA k) ⟨p+cA k,s.passed+((p:Int)-(s.at_:Nat)),s.work+((p:Int)-(s.at_:Nat)+1)+(cA k:Nat),s.acc++[⟨k,p⟩]⟩ (Nat.le_refl _) (by show(0:Int)<=s.work+((p:Int)-(s.at_:Nat)+1)+(cA k:Nat);omega) (by show s.work+((p:Int)-(s.at_:Nat)+1)+(cA k:Nat)<=2*((p+cA k:Nat):Int)+2;omega);rw[dL,List.length_append,hl];show((nj (p+cA k) r).foldl w9 _).acc=s.acc++(⟨k,p⟩::nM (p+cA k) r)/\_;simp only[nj,List.foldl_cons,w9,iI]at *;refine⟨by rw[i1,List.append_assoc];rfl,?_,i3,i4,by omega⟩;rw[show p+(cA k+(eD r).length)=p+cA k+(eD r).length by omega,i2];omega
 | .hd h::r,p,s,ha,hw,hw2=>by
   have hy:=jU h;obtain⟨i1,i2,i3,i4,i5⟩:=tp r (p+(ie h).length) ⟨p+3,s.passed+((p:Int)-(s.at_:Nat))+3,s.work+((p:Int)-(s.at_:Nat)+1),s.acc⟩ (by show p+3<=_;omega) (by show(0:Int)<=s.work+((p:Int)-(s.at_:Nat)+1);omega) (by show s.work+((p:Int)-(s.at_:Nat)+1)<=2*((p+3:Nat):Int)+2;omega);rw[dL,List.length_append,show(PY (.hd h)).length=(ie h).length from rfl];simp only[nj,nM,List.foldl_cons,w9,iI]at *;refine⟨i1,?_,i3,i4,by omega⟩;rw[show p+((ie h).length+(eD r).length)=p+(ie h).length+(eD r).length by omega,i2];omega
 | .no l::r,p,s,ha,hw,hw2=>by
   obtain⟨i1,i2,i3,i4,i5⟩:=tp r (p+l.length) s (by omega) hw hw2;rw[dL,List.length_append,show(PY (.no l)).length=l.length from rfl];simp only[nj,nM,iI]at *;refine⟨i1,?_,i3,i4,by omega⟩;rw[show p+(l.length+(eD r).length)=p+l.length+(eD r).length by omega,i2];omega
theorem Dx{b:List Int}{n i:Nat}{all:Int}{h:Hd}{its:List It}(ho:lB h)(ht:∀j,j<64->(0<=h.a j/\h.a j<=255)/\(0<=h.b j/\h.b j<=255))(h0:h.w=false->∀j,j<64->h.a j=0/\h.b j=0)(hits:∀x∈its,xH all x)(hb:b.drop i=ie h++eD its)(hn:b.length=n)(hf:its = []\/∃x r,its=x::r/\(∀l,x ≠ .no l)):Bq b n i h (ie h).length:=by
 have hl:=congrArg List.length hb;have hy:=jU h;rw[List.length_drop,List.length_append]at hl
 have hcl:∀j,3<=j->j<(ie h).length->¬GP (du b i) j:=fun j h1 h2 hm=>by
  refine zB (h:=h) (yb its hits) h1 h2 ?_;obtain⟨m0,m1,m2⟩:=hm;unfold du at m0 m1 m2;refine⟨?_,?_,?_⟩<;>dsimp only<;>rw[<-hb,gm]<;>assumption
 refine⟨ho,ht,h0,rfl,by omega,fun j hj=>?_,?_⟩
 ·rw[<-gm,hb,tI hj]
 ·rcases hf with rfl|⟨x,r,rfl,hx⟩
  ·have hl:b.length-i=(ie h).length+0:=hl;exact .inl ⟨rB _ 3 rfl fun j h1 h2=>hcl j h1 (by omega),by omega⟩
  ·refine .inr (kp ?_ ?_ _ 3 rfl (by omega) hcl)
   ·rw[dL,List.length_append]at hl
    have:4<=(PY x).length:=by
     cases x with
     | pk k=>show 4<=(eo k.B k.A k.Bb).length;rw[gq];omega
     | hd h=>exact(jU h).1
     | no l=>exact absurd rfl (hx l)
    omega
   ·have e:∀j,du b i ((ie h).length+j)=(eD (x::r)).getD j 0:=fun j=>by
     unfold du;rw[<-gm,hb,oA (by omega),Nat.add_sub_cancel_left]
    have g:(eD (x::r)).getD 0 0=0/\(eD (x::r)).getD 1 0=0/\(eD (x::r)).getD 2 0=1:=by
     rw[dL]
     cases x with
     | pk k=>exact uJ ..
     | hd h=>have:=ug h (eD r);exact⟨this.1,this.2.1,this.2.2.1⟩
     | no l=>exact absurd rfl (hx l)
    refine⟨?_,?_,?_⟩
    ·rw[<-g.1];exact e 0
    ·rw[<-g.2.1];exact e 1
    ·rw[<-g.2.2];exact e 2
end Go.Proofs.YthdciapjllppjaaGreat
namespace Go.Xm
variable [ak]
variable {P:Program} {ops:Array Oper} {nt nI:Nat} {al:aN} {hs:ah} {o:Oper} {l:List Oper} {L:List az} {K:List Ab->aN->ah->Prop} {d:Nat}
theorem A4{t:TypeId}{xs ys:List XC}(h:P.eqGuardType P.depth t=false):sQ P t (.agg xs) (.agg ys)=bU P 40 t (.agg xs) (.agg ys):=by
 show(if P.eqGuardType P.depth t then none else _)=_;rw[h];rfl
theorem SV{t t':TypeId}{a b:Operand}{xs ys:List XC}{r:Bool}(hr:sQ P t (.agg xs) (.agg ys)=some r)(hk:SK P ops nt L l ((d,.one (.bool r))::al) hs fun bs=>K (quiet::bs))(ho:o.op = .binOp .eql t a b t':=by exact rfl)(hw:av ops (rg al) o=some true:=by exact rfl)(hd:o.dst=some d:=by exact rfl)(hlt:Nat.blt d nt=true:=by exact rfl)(ha:ae (rg al) a = .agg xs:=by exact rfl)(hb:ae (rg al) b = .agg ys:=by exact rfl):SK P ops nt L (o::l) al hs K:=
 SK.lift hd hlt (fun _=>aA.pure hw (by rw[ho];simp only[aY,ha,hb,vv,hr,Option.map_some])) hk
theorem Rz{e:TypeId}{n:Nat}{eq:TypeId->X1->X1->Option Bool}{xs ys:List XC}{R:Nat->Prop}:∀k i,(∀j,i<=j->j<i+k->∃a b r,gx P e xs (j*n)=some a/\gx P e ys (j*n)=some b/\eq e a b=some r/\(r=true↔R j))->∃r,kN P eq e n xs ys i k=some r/\(r=true↔∀j,i<=j->j<i+k->R j)
 | 0,i,_=>⟨true,rfl,fun _ j h1 h2=>absurd h2 (by omega),fun _=>rfl⟩
 | k + 1,i,h=>by
   obtain⟨a,b,r,h1,h2,h3,h4⟩:=h i (Nat.le_refl _) (by omega);rw[kN,h1,h2];dsimp only;rw[h3]
   cases r with
   | true=>
     obtain⟨r2,g1,g2⟩:=Rz k (i+1) (fun j h5 h6=>h j (by omega) (by omega));refine⟨r2,g1,fun hr j h5 h6=>?_,fun hr=>g2.2 fun j h5 h6=>hr j (by omega) (by omega)⟩
     by_cases hji:j=i
     ·subst hji;exact h4.1 rfl
     ·exact g2.1 hr j (by omega) (by omega)
   | false=>exact⟨false,rfl,fun hr=>(by cases hr),fun hr=>absurd (h4.2 (hr i (Nat.le_refl _) (by omega))) (by decide)⟩
theorem xx{e:TypeId}{u:TypeDesc}(hu:P.underlying e=some u)(hn:fG P e=some false){cs:List XC}{i:Nat}{c:XC}(hc:cs[i]? = some c):gx P e cs i=some (.one c):=by
 unfold gx;rw[hn,hc]
theorem QB{t e:TypeId}{kk:IntKind}{n:Nat}(ht:P.underlying t=some (.array n e))(he:P.underlying e=some (.int kk))(hs:bP P e=some 1){d:Nat}(f g:Nat->Int):∃r,bU P (d+2) t (.agg (ti kk n f)) (.agg (ti kk n g))=some r/\(r=true↔∀j,j<n->f j=g j):=by
 have hn:fG P e=some false:=by unfold fG;rw[he]
 obtain⟨r,h1,h2⟩:=Rz (P:=P) (e:=e) (n:=1) (eq:=bU P (d+1)) (xs:=ti kk n f) (ys:=ti kk n g) (R:=fun j=>f j=g j) n 0 (fun j _ hj=>by
  refine⟨.one (.int kk (f j)),.one (.int kk (g j)),f j==g j,?_,?_,?_,beq_iff_eq⟩
  ·exact xx he hn (by rw[Nat.mul_one];exact jK (by omega))
  ·exact xx he hn (by rw[Nat.mul_one];exact jK (by omega))
  ·rw[bU,he]
   simp[wj])
 refine⟨r,?_,h2.trans ⟨fun h j hj=>h j (Nat.zero_le _) (by omega),fun h j _ hj=>h j (by omega)⟩⟩;rw[bU,ht];dsimp only;rw[hs];exact h1
end Go.Xm
namespace Go.Proofs.YthdciapjllppjaaGreat
open Go.Xm
variable [ak]
theorem oS{P:Program}{eq:TypeId->Go.Xm.X1->Go.Xm.X1->Option Bool}{xs:List XC}:∀fs:List Field,(∀f∈fs,∃a,gx P f.type xs f.offset=some a/\eq f.type a a=some true)->h_ P eq xs xs fs=some true
 | [],_=>rfl
 | f::fs,h=>by
   obtain⟨a,h1,h2⟩:=h f List.mem_cons_self;have ih:=oS fs fun g hg=>h g (List.mem_cons_of_mem _ hg)
   unfold h_;split
   ·rw[h1];dsimp only;rw[h2];exact ih
   ·exact ih
theorem s3{d:Nat}(z:Int):bU prog (d+1) 3 (.one (.int .i64 z)) (.one (.int .i64 z))=some true:=by
 rw[bU,Tryz.underlying3];simp[wj]
theorem tS{d:Nat}(z:Bool):bU prog (d+1) 4 (.one (.bool z)) (.one (.bool z))=some true:=by
 rw[bU,Tryz.underlying4];simp[wj]
theorem sX:fG prog 3=some false:=by kernel_rfl
theorem tE:fG prog 4=some false:=by kernel_rfl
theorem kR{P:Program}{t:TypeId}{cs:List XC}{i:Nat}{c:XC}(h:fG P t=some false)(hc:cs[i]? = some c):gx P t cs i=some (.one c):=by
 unfold gx;rw[h,hc]
theorem QA(p:Ph):sQ prog 48 (.agg (sn p)) (.agg (sn p))=some true:=by
 rw[A4 (by kernel_rfl),bU,Tryz.underlying48];dsimp only;rw[if_neg (show¬(prog.stoodInHeld 48=true)from by rw[show prog.stoodInHeld 48=false by kernel_rfl];decide)];refine oS _ fun f hf=>?_
 simp only[List.mem_cons,List.not_mem_nil,or_false]at hf
 rcases hf with rfl|rfl|rfl|rfl
 ·exact⟨_,kR sX rfl,s3 _⟩
 ·exact⟨_,kR tE rfl,tS _⟩
 ·exact⟨_,kR tE rfl,tS _⟩
 ·exact⟨_,kR sX rfl,s3 _⟩
theorem Hw{d:Nat}(f:Nat->Int):bU prog (d+2) 22 (.agg (ti .u8 64 f)) (.agg (ti .u8 64 f))=some true:=by
 obtain⟨r,h1,h2⟩:=QB (P:=prog) (d:=d) (n:=64) Tryz.underlying22 Tryz.underlying5 (by kernel_rfl) f f;rw[h1,h2.2 fun _ _=>rfl]
theorem r_{P:Program}{t:TypeId}{cs xs:List XC}{i s:Nat}(h:fG P t=some true)(hs:bP P t=some s)(hc:(cs.drop i).take s=xs):gx P t cs i=some (.agg xs):=by
 unfold gx;rw[h,hs];dsimp only;rw[hc]
theorem Qz(h:Hd):sQ prog 26 (.agg (b7 h)) (.agg (b7 h))=some true:=by
 rw[A4 (by kernel_rfl),bU,Tryz.underlying26];dsimp only;rw[if_neg (show¬(prog.stoodInHeld 26=true)from by rw[show prog.stoodInHeld 26=false by kernel_rfl];decide)];refine oS _ fun f hf=>?_
 simp only[List.mem_cons,List.not_mem_nil,or_false]at hf
 rcases hf with rfl|rfl|rfl
 ·exact⟨_,kR sX rfl,s3 _⟩
 ·exact⟨_,kR sX rfl,s3 _⟩
 ·refine⟨.agg (dU h),r_ (s:=129) (by kernel_rfl) (by kernel_rfl) rfl,?_⟩;rw[bU,Tryz.underlying24];dsimp only;rw[if_neg (show¬(prog.stoodInHeld 24=true)from by rw[show prog.stoodInHeld 24=false by kernel_rfl];decide)];refine oS _ fun f hf=>?_
  simp only[List.mem_cons,List.not_mem_nil,or_false]at hf
  rcases hf with rfl|rfl|rfl
  ·exact⟨_,kR tE rfl,tS _⟩
  ·exact⟨.agg (ti .u8 64 h.a),r_ (s:=64) (by kernel_rfl) (by kernel_rfl) rfl,Hw _⟩
  ·exact⟨.agg (ti .u8 64 h.b),r_ (s:=64) (by kernel_rfl) (by kernel_rfl) rfl,Hw _⟩
theorem x5(g:Nat):∀(l:List Fo) (j i:Nat),i<l.length->((jq g j l).drop (i*12)).take 12=x4 g (j+i) (l.getD i default)
 | [],_,_,h=>absurd h (Nat.not_lt_zero _)
 | f::l,j,0,_=>by rw[Nat.zero_mul,List.drop_zero,jq,List.take_left' (show(x4 g j f).length=12 from rfl)];rfl
 | f::l,j,i+1,h=>by
   rw[jq,show(i+1)*12=12+i*12 by omega,<-List.drop_drop,List.drop_left' (show(x4 g j f).length=12 from rfl),x5 g l (j+1) i (by rw[List.length_cons]at h;omega),show j+1+i=j+(i+1) by omega];rfl
theorem HG(g:Nat){l:List Fo}{i:Nat}(h:i<l.length):jq g 0 (l.take (i+1))=jq g 0 (l.take i)++x4 g i (l.getD i default):=by
 rw[oN l h,t_,List.length_take,Nat.min_eq_left (by omega),Nat.zero_add]
def GR(k k':Pk):Prop:=k.ph.id<k'.ph.id\/(k.ph=k'.ph/\k.first+k.count<=k'.first)
structure xK(l:List Fo)(n:Nat):Prop where
 id:∀i,i<n->0<=(l.getD i default).k.ph.id/\(l.getD i default).k.ph.id<16
 rng:∀i,i<n->(0<=(l.getD i default).k.first/\(l.getD i default).k.first<=100)/\(0<=(l.getD i default).k.count/\(l.getD i default).k.count<=100)
 nx:∀i,i+1<n->GR (l.getD i default).k (l.getD (i+1) default).k
theorem Je{F:List (List XC)}{k n fl cut:Nat}{l:List Fo}(hF:F[k]? = some (jq 0 0 l))(hnl:n<=l.length)(hfl:n<=fl)(h0:n≠0)(hn:n<=1000)(ho:xK l n) :
 bq prog 16 [.one (.lsl 0 k 0 n fl cut),.one (.int .i64 16)] [.late F] (.tup [.one (.slice 1 0 n (.toEnd 12)),.one (.int .i64 0)]) [.late F,.dead]:=by
 have hlen:(jq 0 0 l).length=l.length*12:=oF 0 l 0;refine cO Tryz.func16 ?_;refine WX.cq rfl ?_
 repeat' (first
  |(refine qz ?_;first
   |refine kY ?_)
  |refine zz ?_|refine zx (fun _=>?_) (fun _=>?_)|fail)
 refine WX.cj (σ:=Nat) (fun i=>[(0,.one (.lsl 0 k 0 n fl cut)),(1,.one (.int .i64 16)),(12,.one (.lsl 0 k 0 n fl cut)),(13,.one (.int .i64 (n:Nat))),(6,iq 1 i 12),(14,.one (.int .i64 (i:Nat)))]) (fun i=>[.late F,bR 54 ((jq 0 0 (l.take i)).map (·.self 0))]) (fun i=>i<=n) (fun i=>n-i) 0 (Nat.zero_le _) (fun i _=>(stM (objs:=by repeat' (first|exact aw.nil|refine aw.flat ?_|refine aw.cons (qI (mT (e_ _ _ _ (Nat.le_refl _)) (Nat.le_of_ble_eq_true rfl))) ?_|refine aw.cons trivial ?_)))) (bV [0,1]) ?_;intro i hi ih;rw[t9]
 by_cases hlt:i<n
 ·have hc:=x5 0 l 0 i (by omega);rw[Nat.zero_add]at hc;have hid:=ho.id i hlt;have hrg:=ho.rng i hlt;have hnx:=fun h1:0<i=>ho.nx (i-1) (by omega)
  obtain⟨f,hf⟩:∃f,l.getD i default=f:=⟨_,rfl⟩
  rw[hf]at hc hid hrg;have hle:i*12+12<=(jq 0 0 l).length/\0<12:=by omega
  have hcl:(jq 0 0 (l.take i)).length=i*12:=by rw[oF,List.length_take,Nat.min_eq_left (by omega)]
  have htk:(jq 0 0 (l.take (i+1))).map (·.self 0)=jq 0 0 (l.take i)++x4 0 i f:=by rw[t9,HG 0 (by omega),hf]
  by_cases h1:i=0
  ·subst h1
   repeat' (first
    |(refine qz ?_;first
     |refine mf ?_
     |refine H6 (cs:=x4 0 0 f) ?_ hF hle hc (hc':=rfl)
     |refine jG (zs:=qM++[.int .i64 0]) (hz:=ox) ?_
     |refine sY (zs:=qM++[.int .i64 0]) (hz:=ox) ?_
     |refine KP 1 0 (jq 0 0 (l.take 0)) ?_ (hn:=hcl))
    |refine zz ?_|refine zx (fun _=>?_) (fun _=>?_)|fail)
   refine ih 1 _ _ _ (bV [0,4] (obj:=by(repeat' (first|exact af.nil|refine n7 (e_ _ _ _ (Nat.le_refl _)) (by rw[htk];rfl) rfl ?_|refine oz ?_));first|done|fail)) (by omega) (by omega)
  ·have hnx:=hnx (by omega);have hid2:=ho.id (i-1) (by omega);have hrg2:=ho.rng (i-1) (by omega);rw[show i-1+1=i by omega,hf]at hnx
   obtain⟨q,hq⟩:∃q,l.getD (i-1) default=q:=⟨_,rfl⟩
   rw[hq]at hnx hid2 hrg2;have hi1:((i:Int)-1).toNat=i-1:=by omega
   have hle2:((i:Int)-1).toNat*12+12<=(jq 0 0 (l.take i)).length:=by rw[hi1,hcl];omega
   have hc2:((jq 0 0 (l.take i)).drop (((i:Int)-1).toNat*12)).take 12=x4 0 (i-1) q:=by
    rw[hi1,x5 0 (l.take i) 0 (i-1) (by rw[List.length_take];omega),Nat.zero_add,<-hq]
    congr 1
    rw[List.getD_eq_getElem?_getD,List.getD_eq_getElem?_getD,List.getElem?_take_of_lt (by omega)]
   have hsl:bR 54 (jq 0 0 (l.take i)) = .cells (jq 0 0 (l.take i)) 54 true false:=cz fun e=>by
    rw[e]at hcl;have hcl:0=i*12:=hcl;omega
   rw[hsl]
   rcases hnx with hx|⟨hx,hy⟩
   ·repeat' (first
     |(refine qz ?_;first
      |refine mf ?_
      |refine H6 (cs:=x4 0 i f) ?_ hF hle hc (hc':=rfl)
      |refine jG (zs:=qM++[.int .i64 0]) (hz:=ox) ?_
      |refine rG (cs:=x4 0 (i-1) q) ?_ (hle:=hle2) (hc:=hc2)
      |refine sY (zs:=qM++[.int .i64 0]) (hz:=ox) ?_
      |refine KP 1 i (jq 0 0 (l.take i)) ?_ (hi:=congrArg some hsl.symm) (hn:=hcl))
     |refine zz ?_|refine zx (fun _=>?_) (fun _=>?_)|fail)
    refine ih (i+1) _ _ _ (bV [0,5] (obj:=by(repeat' (first|exact af.nil|refine n7 (e_ _ _ _ (Nat.le_refl _)) (by rw[htk];rfl) rfl ?_|refine oz ?_));first|done|fail)) (by omega) (by omega)
   ·have hx':q.k.ph=f.k.ph:=hx;have heq:sQ prog 48 (.agg (sn f.k.ph)) (.agg (sn q.k.ph))=some true:=by rw[hx'];exact QA _
    have hid3:q.k.ph.id=f.k.ph.id:=by rw[hx']
    repeat' (first
     |(refine qz ?_;first
      |refine mf ?_
      |refine H6 (cs:=x4 0 i f) ?_ hF hle hc (hc':=rfl)
      |refine jG (zs:=qM++[.int .i64 0]) (hz:=ox) ?_
      |refine rG (cs:=x4 0 (i-1) q) ?_ (hle:=hle2) (hc:=hc2)
      |refine SV heq ?_
      |refine sY (zs:=qM++[.int .i64 0]) (hz:=ox) ?_
      |refine KP 1 i (jq 0 0 (l.take i)) ?_ (hi:=congrArg some hsl.symm) (hn:=hcl))
     |refine zz ?_|refine zx (fun _=>?_) (fun _=>?_)|fail)
    refine ih (i+1) _ _ _ (bV [0,5] (obj:=by(repeat' (first|exact af.nil|refine n7 (e_ _ _ _ (Nat.le_refl _)) (by rw[htk];rfl) rfl ?_|refine oz ?_));first|done|fail)) (by omega) (by omega)
 ·obtain rfl:i=n:=by omega
  repeat' (first
   |(refine qz ?_;first
    |refine kY ?_)
   |refine zz ?_|refine zx (fun _=>?_) (fun _=>?_)|fail)
  show aE _ _ _ _ _ _ _ _;refine kV [0,1] ?_;rw[Int.sub_self,show eg 1 i 12 = .slice 1 0 i (.toEnd 12)from if_neg h0];rfl
theorem L6{F:List (List XC)}{g k n fl cut:Nat}{l:List Fo}(hF:F[k]? = some (jq 0 0 l))(hnl:n<=l.length)(hfl:n<=fl)(h0:n≠0)(hn:n<=1000)(ho:xK l n){HS:ah}(hi:HS[g]? = some (.late F)){N:Nat}(hN:HS.length=N){HS':ah}(hh:HS++[.dead]=HS')(hbd:Nat.blt HS'.length Mem.bound=true) :
 az.Sound prog ⟨16,[.one (.lsl g k 0 n fl cut),.one (.int .i64 16)],HS,.tup [.one (.slice N 0 n (.toEnd 12)),.one (.int .i64 0)],HS',[g]⟩:=by
 subst hN;exact bz [g] [g] 1 (Je (fl:=fl) (cut:=cut) hF hnl hfl h0 hn ho) (by simp) (.flat hi .nil) (.flat .nil) (.flat (.flat .nil)) rfl (.cons (show 0<1 by omega) (.flat .nil)) (.cons rfl (.flat .nil)) (by simp[XV.bH,X1.ok,XC.ok]) rfl (.flat (.flat .nil)) rfl rfl (by simp only[bE];rw[aF hi];exact hh) hbd (.inl rfl)
noncomputable def IN(h:Hd)(p:Ph)(g:Gr):Pk:=⟨p,g.first,(g.ms.length:Nat),(f7 h p g).1,(f7 h p g).2,Ra h p g⟩
noncomputable def dA(s:o4):List Pk:=s.ps.flatMap fun p=>p.gs.map (IN s.hd p.ph)
def RQ(k:Pk):List Int:=eo k.B k.A k.Bb
theorem DK(k:Pk):(RQ k).length=cA k:=gq ..
theorem uN(s:o4):(dA s).map RQ=pZ s.hd s.ps:=by
 unfold dA pZ Nk;rw[List.map_flatMap]
 congr 1
 funext p
 rw[List.map_map];rfl
theorem zE:∀l:List Pk,eD (l.map .pk)=(l.map RQ).flatten
 | []=>rfl
 | k::l=>by
   rw[List.map_cons,dL,zE l];rfl
theorem HU(a b:List It):eD (a++b)=eD a++eD b:=List.flatMap_append
theorem t8(ps:List (List Int)):∀n,n<=ps.length->iS ps n=(ps.take n).flatten
 | 0,_=>rfl
 | n+1,h=>by
   rw[iS,t8 ps n (by omega),oN ps (by omega),List.flatten_append];show _=_++(_++[]);rw[List.append_nil];rfl
theorem E1(s:o4):iS (fU s) (fU s).length=ie s.hd++eD ((dA s).map .pk):=by
 rw[t8 _ _ (Nat.le_refl _),List.take_length,zE,uN];rfl
theorem LQ{s:o4}{k:Pk}(hk:k∈dA s):∃i,i<s.ps.length/\∃g∈(s.ps.getD i default).gs,k=IN s.hd (s.ps.getD i default).ph g:=by
 unfold dA at hk;obtain⟨p,hp,hq⟩:=List.mem_flatMap.1 hk;obtain⟨i,hi,rfl⟩:=List.mem_iff_getElem.1 hp;obtain⟨g,hg,rfl⟩:=List.mem_map.1 hq;refine⟨i,hi,g,?_,?_⟩<;>rw[List.getD_eq_getElem?_getD,List.getElem?_eq_getElem hi,Option.getD_some]
 exact hg
theorem yk{s:o4}(h:iv s){k:Pk}(hk:k∈dA s):(0<=k.ph.id/\k.ph.id<16)/\(0<=k.first/\k.first<=100)/\(0<=k.count/\k.count<=100)/\xH (s.hd.cols*s.hd.rows) (.pk k):=by
 obtain⟨i,hi,g,hg,rfl⟩:=LQ hk;have hm:=oL h.ok;have hp:=h.ok.pics i hi;have h5:=h.ok.many;have he:(((s.hd.cols*s.hd.rows).toNat:Nat):Int)=s.hd.cols*s.hd.rows:=by omega
 obtain⟨g1,g2,g3,g4,g5,g6⟩:=ub hp.gs (Int.le_refl 0) g hg;rw[he]at g3;obtain⟨-,-,ba,bb,la,lb⟩:=IP h hi hg;have hid:=hp.id;refine⟨?_,⟨g1,?_⟩,⟨?_,?_⟩,⟨hp.ph,g1,?_,g3,by omega,la,lb⟩,ba,bb,rfl⟩
 ·show 0<=(s.ps.getD i default).ph.id/\(s.ps.getD i default).ph.id<16;omega
 ·show g.first<=100
  omega
 ·show(0:Int)<=(g.ms.length:Nat);omega
 ·show((g.ms.length:Nat):Int)<=100;omega
 ·show(1:Int)<=(g.ms.length:Nat);omega
def PQ:Option Pk->List Pk->Prop
 | _,[]=>True
 | o,k::r=>(∀q,o=some q->GR q k)/\PQ (some k) r
theorem Hj:∀(l:List Pk) (o:Option Pk),PQ o l->∀i,i+1<l.length->GR (l.getD i default) (l.getD (i+1) default)
 | [],_,_,i,h=>absurd h (Nat.not_lt_zero _)
 | [_],_,_,i,h=>by simp at h
 | k::q::r,o,hc,0,h=>hc.2.1 k rfl
 | k::q::r,o,hc,i+1,h=>Hj (q::r) (some k) hc.2 i (by rw[List.length_cons]at h;omega)
theorem M4{hd:Hd}{p:Ph}{inter:Bool}{qp:Int}{rest:List Pk}:∀(gs:List Gr) (b e:Int) (o:Option Pk),o3 inter qp b gs e->(∀q,o=some q->q.ph.id<p.id\/(q.ph=p/\q.first+q.count<=b))->(∀o',(∀q,o'=some q->q.ph.id<=p.id)->PQ o' rest)->PQ o (gs.map (IN hd p)++rest)
 | [],b,e,o,hg,ho,hr=>hr o fun q hq=>by
   rcases ho q hq with h|⟨h,-⟩
   ·omega
   ·rw[h];exact Int.le_refl _
 | g :: gs,b,e,o,hg,ho,hr=>by
   obtain⟨h1,h2,h3,h4,h5⟩:=hg;refine⟨fun q hq=>?_,M4 gs _ e (some (IN hd p g)) h5 (fun q hq=>?_) hr⟩
   ·rcases ho q hq with h|⟨h,h'⟩
    ·exact .inl h
    ·exact .inr ⟨h,by show _<=g.first;omega⟩
   ·cases hq;exact .inr ⟨rfl,by show g.first+((g.ms.length:Nat):Int)<=_;omega⟩
theorem M5{hd:Hd}:∀(ps:List Pc) (i:Nat) (o:Option Pk),(∀j,j<ps.length->(ps.getD j default).ph.id=((i+j:Nat):Int)/\∃inter qp e,o3 inter qp 0 (ps.getD j default).gs e)->(∀q,o=some q->q.ph.id<(i:Nat))->PQ o (ps.flatMap fun p=>p.gs.map (IN hd p.ph))
 | [],i,o,h,ho=>trivial
 | p::ps,i,o,h,ho=>by
   obtain⟨hid,inter,qp,e,hg⟩:=h 0 (Nat.succ_pos _);have hid:p.ph.id=((i+0:Nat):Int):=hid;rw[List.flatMap_cons];refine M4 p.gs 0 e o hg (fun q hq => .inl (by have:=ho q hq;omega)) fun o' ho'=>?_
   refine M5 ps (i+1) o' (fun j hj=>?_) fun q hq=>by have:=ho' q hq;omega
   have:=h (j+1) (by rw[List.length_cons];omega);rw[show i+1+j=i+(j+1) by omega];exact this
theorem Oz{s:o4}(h:iv s):PQ none (dA s):=
 M5 s.ps 0 none (fun j hj=>by
  have hp:=h.ok.pics j hj
  exact⟨by rw[hp.id,Nat.zero_add],_,_,_,hp.gs⟩) fun q hq=>by cases hq
theorem LP(s:o4):(fU s).length=(dA s).length+1:=by
 show(pZ s.hd s.ps).length+1=_;rw[<-uN,List.length_map]
theorem DM(s:o4){j:Nat}(hj:j<(dA s).length):(fU s).getD (j+1) []=RQ ((dA s).getD j default):=by
 show(pZ s.hd s.ps).getD j []=_;rw[<-uN,List.getD_eq_getElem?_getD,List.getElem?_map,List.getElem?_eq_getElem hj,List.getD_eq_getElem?_getD,List.getElem?_eq_getElem hj];rfl
def qC:List It->List Pk
 | []=>[]
 | .pk k::r=>k::qC r
 | .hd _::r=>qC r
 | .no _::r=>qC r
theorem rD:∀(its:List It) (p:Nat),(nM p its).map (·.k)=qC its
 | [],p=>rfl
 | .pk k::r,p=>by rw[nM,List.map_cons,rD r];rfl
 | .hd h::r,p=>by rw[nM,rD r];rfl
 | .no l::r,p=>by rw[nM,rD r];rfl
theorem qD:∀(a b:List It),qC (a++b)=qC a++qC b
 | [],b=>rfl
 | .pk k::r,b=>by rw[List.cons_append,qC,qD r b];rfl
 | .hd h::r,b=>by rw[List.cons_append,qC,qD r b];rfl
 | .no l::r,b=>by rw[List.cons_append,qC,qD r b];rfl
theorem uL:∀l:List Pk,qC (l.map .pk)=l
 | []=>rfl
 | k::l=>by rw[List.map_cons,qC,uL l]
theorem QN(l:List Fo)(i:Nat):(l.getD i default).k=(l.map (·.k)).getD i default:=by
 rw[List.getD_eq_getElem?_getD,List.getD_eq_getElem?_getD,List.getElem?_map];cases l[i]?<;>rfl
theorem oP:∀(a b:List It),iI (a++b)=iI a+iI b
 | [],b=>(Nat.zero_add _).symm
 | .pk k::r,b=>by rw[List.cons_append,iI,oP r b];rfl
 | .hd h::r,b=>by rw[List.cons_append,iI,oP r b,iI];omega
 | .no l::r,b=>by rw[List.cons_append,iI,oP r b,iI];omega
theorem rZ:∀l:List Pk,iI (l.map .pk)=0
 | []=>rfl
 | k::l=>by rw[List.map_cons,iI,rZ l]
theorem AI(h:Hd)(hw:(gL h).w=false):∀j,j<64->(gL h).a j=0/\(gL h).b j=0:=(t5 h).2 hw
noncomputable def kI(s:o4):List It:=(dA s).map .pk++(.hd s.hd::(dA s).map .pk)
theorem zZ{s:o4}(h:iv s):∀x∈(dA s).map It.pk,xH (s.hd.cols*s.hd.rows) x:=fun x hx=>by
 obtain⟨k,hk,rfl⟩:=List.mem_map.1 hx;exact(yk h hk).2.2.2
theorem Rs{s:o4}(h:iv s):∀x∈kI s,xH (s.hd.cols*s.hd.rows) x:=fun x hx=>by
 rcases List.mem_append.1 hx with hx|hx
 ·exact zZ h x hx
 ·rcases List.mem_cons.1 hx with rfl|hx
  ·trivial
  ·exact zZ h x hx
theorem Rr(s:o4):∃x r,kI s=x::r/\∀l,x≠It.no l:=by
 unfold kI
 cases dA s with
 | nil=>exact⟨_,_,rfl,fun l h=>nomatch h⟩
 | cons k r=>exact⟨_,_,rfl,fun l h=>nomatch h⟩
theorem JP(s:o4):iS (fU s) (fU s).length++iS (fU s) (fU s).length=ie s.hd++eD (kI s):=by
 rw[E1];unfold kI;rw[HU,dL,List.append_assoc];rfl
theorem IQ{s:o4}(h:iv s){l:List Fo}(hl:∃t,l.map (·.k)=dA s++t):xK l (dA s).length:=by
 obtain⟨t,ht⟩:=hl
 have hk:∀i,i<(dA s).length->(l.getD i default).k=(dA s).getD i default:=fun i hi=>by
  rw[QN,ht,List.getD_eq_getElem?_getD,List.getElem?_append_left hi,<-List.getD_eq_getElem?_getD]
 have hm:∀i,i<(dA s).length->(dA s).getD i default∈dA s:=fun i hi=>by
  rw[List.getD_eq_getElem?_getD,List.getElem?_eq_getElem hi];exact List.getElem_mem hi
 refine⟨fun i hi=>?_,fun i hi=>?_,fun i hi=>?_⟩
 ·rw[hk i hi];exact(yk h (hm i hi)).1
 ·rw[hk i hi];have:=yk h (hm i hi);exact⟨this.2.1,this.2.2.1⟩
 ·rw[hk i (by omega),hk (i+1) hi];exact Hj _ _ (Oz h) i hi
theorem vk(s:o4):qC (kI s)=dA s++dA s:=by
 unfold kI;rw[qD,uL,qC,uL]
theorem Pg{s:o4}{p i:Nat}(hi:i<2*(dA s).length):cA ((nM p (kI s)).getD i default).k=((fU s).getD (1+i%(dA s).length) []).length:=by
 rw[QN,rD,vk]
 by_cases h:i<(dA s).length
 ·rw[Nat.mod_eq_of_lt h,Nat.add_comm,DM s h,DK,List.getD_eq_getElem?_getD,List.getElem?_append_left h,<-List.getD_eq_getElem?_getD]
 ·have e:i%(dA s).length=i-(dA s).length:=by
   rw[Nat.mod_eq_sub_mod (by omega),Nat.mod_eq_of_lt (by omega)]
  rw[e,Nat.add_comm,DM s (by omega),DK,List.getD_eq_getElem?_getD,List.getElem?_append_right (by omega),<-List.getD_eq_getElem?_getD]
theorem EX{b pre:List Int}{h:Hd}{r:List Int}(hp:∀x∈pre,2<=x)(hb:b=pre++(ie h++r)):findF (du b 0) b.length 0=some pre.length/\pre.length+2<b.length:=by
 have hg:=ug h r;have hy:=jU h;have hl:b.length=pre.length+((ie h).length+r.length):=by rw[hb,List.length_append,List.length_append]
 have he:∀j,du b 0 (pre.length+j)=(ie h++r).getD j 0:=fun j=>by
  unfold du;rw[Nat.zero_add,hb,oA (by omega),Nat.add_sub_cancel_left]
 refine⟨kp (by omega) ⟨?_,?_,?_⟩ _ 0 rfl (Nat.zero_le _) fun j h0 h1 hm=>?_,by omega⟩
 ·rw[<-hg.1];exact he 0
 ·rw[<-hg.2.1];exact he 1
 ·rw[<-hg.2.2.1];exact he 2
 ·have m0:=hm.1;unfold du at m0;rw[Nat.zero_add,hb,tI h1,List.getD_eq_getElem?_getD,List.getElem?_eq_getElem h1,Option.getD_some]at m0;have:=hp _ (List.getElem_mem h1);omega
end Go.Proofs.YthdciapjllppjaaGreat
