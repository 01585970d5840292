/-
  A part of the proof: PartMain, BackLaw, WkL, EqA, EqB, WkM, WkN.
-/
import Derived.Test.YthdciapjllppjaaGreatWbG
import Derived.Test.YthdciapjllppjaaGreatWbQ
import Derived.Test.YthdciapjllppjaaGreatWbY
import Derived.Test.YthdciapjllppjaaGreatWbZ
import Derived.Test.YthdciapjllppjaaGreatWbZD
import Derived.Test.YthdciapjllppjaaGreatWbZE
import Derived.Test.YthdciapjllppjaaGreatWbZF
set_option maxRecDepth 10000
set_option maxHeartbeats 8000000
set_option linter.unusedVariables false
set_option linter.unusedSectionVars false
set_option linter.unusedSimpArgs false
open Go.Proofs.Tryz (prog)
namespace Go.Proofs.YthdciapjllppjaaGreat
open Go.Xm
variable [aq]
structure Sh(h:Hd)(p:Ph)(l:List Mb)(ft:Int)(a b:List Int):Prop where
 na:a.length≠0
 nb:b.length≠0
 out:∀n,1<=n->n<=l.length->∃q B t y,K5 h p a q B ft n/\JW B ft n ⟨PA h p,(0,false),[]⟩=t/\mY l ft (G6 h p) n = .inr y/\G7 l ft (G6 h p) n y t/\SE B t.r=if n<l.length then 13 else 0
def SW:Int->List Int->Prop
 | _,[]=>True
 | z,b::t=>¬(2<=z/\b<3)/\SW (if b=0 then z+1 else 0) t
theorem uc:∀(l:List Int) (z:Int),SW z (lK z l)
 | [],z=>trivial
 | b :: t,z=>by
   rw[lK];split
   ·refine⟨by omega,?_⟩;rw[if_neg (by decide)];exact⟨by omega,uc t _⟩
   ·exact⟨by omega,uc t _⟩
def K1(x:List Int):Prop:=∀i,i+2<x.length->¬(x.getD i 0=0/\x.getD (i+1) 0=0/\x.getD (i+2) 0<3)
theorem I2:∀(x:List Int) (z:Int),0<=z->SW z x->K1 x
 | [],z,_,_=>fun i hi=>absurd hi (Nat.not_lt_zero _)
 | b :: t,z,hz,h=>fun i hi=>by
   have ih:=I2 t _ (by split<;>omega) h.2
   cases i with
   | succ i=>
     have:=ih i (by simp only[List.length_cons]at hi;omega);exact this
   | zero=>
     intro⟨h1,h2,h3⟩
     match t,hi,h,h2,h3 with
     | [],hi,_,_,_=>simp at hi
     | [_],hi,_,_,_=>simp at hi
     | c::d::t,hi,h,h2,h3=>
       have h1:b=0:=h1;have h2:c=0:=h2;have h3:d<3:=h3;have h5:=h.2.2.1;rw[if_pos h1,if_pos h2]at h5;omega
theorem Om(l:List Int):K1 (fy l l.length).1:=by
 rw[nT];exact I2 _ 0 (Int.le_refl _) (uc l 0)
structure Ql(h:Hd)(p:Ph)(l:List Mb)(ft:Int)(a b:List Int):Prop where
 noa:K1 a
 nob:K1 b
 byb:bj b
 lea:a.length<=30000
 leb:b.length<=30000
 all:∀t y,mY l ft (G6 h p) l.length = .inr y->G7 l ft (G6 h p) l.length y t->∃q E,nU b b.length [] 0 0=some q/\fk q=(y.w.length,true)/\y.w.length<=8*q.length/\e_ q y.w/\No y.w (Rm t.out) ([],(0,false))=(E,(y.w.length,false))/\∃out,QY E ft t.out (PA h p) = .inr out/\out.length=l.length/\∀i,i<l.length->NW (l.getD i default) (out.getD i default)
theorem gq(b:List Int)(p i:Nat):(b.drop p).getD i 0=b.getD (p+i) 0:=by
 rw[List.getD_eq_getElem?_getD,List.getD_eq_getElem?_getD,List.getElem?_drop]
theorem tW{x y:List Int}{i:Nat}(h:i<x.length):(x++y).getD i 0=x.getD i 0:=by
 rw[List.getD_eq_getElem?_getD,List.getD_eq_getElem?_getD,List.getElem?_append_left h]
theorem oM{x y:List Int}{i:Nat}(h:x.length<=i):(x++y).getD i 0=y.getD (i-x.length) 0:=by
 rw[List.getD_eq_getElem?_getD,List.getD_eq_getElem?_getD,List.getElem?_append_right h]
def He(g:Nat->Int)(j:Nat):Prop:=g j=0/\g (j+1)=0/\g (j+2)=1
theorem ky{g:Nat->Int}{n p:Nat}(hp:p+2<n)(hm:He g p):∀(d a:Nat),p-a=d->a<=p->(∀j,a<=j->j<p->¬He g j)->findF g n a=some p
 | 0,a,hd,ha,hc=>by
   have:a=p:=by omega
   subst this;exact kA hp hm
 | d+1,a,hd,ha,hc=>by
   rw[yh (by omega) (hc a (Nat.le_refl _) (by omega))];exact ky hp hm d (a+1) (by omega) (by omega) fun j h1 h2=>hc j (by omega) h2
theorem rN{g:Nat->Int}{n:Nat}:∀(d a:Nat),n-a=d->(∀j,a<=j->j+2<n->¬He g j)->findF g n a=none
 | 0,a,hd,hc=>nX (by omega)
 | d + 1,a,hd,hc=>by
   by_cases h:n<=a+2
   ·exact nX h
   ·rw[yh (by omega) (hc a (Nat.le_refl _) (by omega))];exact rN d (a+1) (by omega) fun j h1 h2=>hc j (by omega) h2
inductive It where
 | pk (k:Pk)
 | hd (h:Hd)
 | no (l:List Int)
def Il:It->List Int
 | .pk k=>eh k.B k.A k.Bb
 | .hd h=>hZ h
 | .no l=>l
def cU(l:List It):List Int:=l.flatMap Il
theorem cy(x:It)(l:List It):cU (x::l)=Il x++cU l:=rfl
def sT(all:Int):It->Prop
 | .pk k=>xZ k.ph k.first k.count k.A.length k.Bb.length all/\bj k.A/\bj k.Bb/\kB k.ph k.first k.count (k.A.length:Nat) (k.Bb.length:Nat) (c9 k.A) (c9 k.Bb) (c9 (wr (fT k.ph k.first k.count (k.A.length:Nat) (k.Bb.length:Nat) (c9 k.A) (c9 k.Bb))))=k.B
 | .hd h=>True
 | .no l=>∀x∈l,2<=x
def nC:Nat->List It->List Ni
 | _,[]=>[]
 | p,.pk k::r=>(p,.some k)::nC (p+cx k) r
 | p,.hd h::r=>(p,.none)::nC (p+(hZ h).length) r
 | p,.no l::r=>nC (p+l.length) r
def jt:Nat->List It->List Fo
 | _,[]=>[]
 | p,.pk k::r=>⟨k,p⟩::jt (p+cx k) r
 | p,.hd h::r=>jt (p+(hZ h).length) r
 | p,.no l::r=>jt (p+l.length) r
def dN:List It->Nat
 | []=>0
 | .pk _::r=>dN r
 | .hd h::r=>(hZ h).length+dN r
 | .no l::r=>l.length+dN r
theorem uv(h:Hd)(r:List Int):(hZ h++r).getD 0 0=0/\(hZ h++r).getD 1 0=0/\(hZ h++r).getD 2 0=1/\(hZ h++r).getD 3 0=176:=by
 unfold hZ;exact⟨rfl,rfl,rfl,rfl⟩
theorem uU(B:List Bool)(x y r:List Int):(eh B x y++r).getD 0 0=0/\(eh B x y++r).getD 1 0=0/\(eh B x y++r).getD 2 0=1:=by
 unfold eh;generalize po B 17=z;exact⟨rfl,rfl,rfl⟩
theorem yt{all:Int}:∀l:List It,(∀x∈l,sT all x)->(cU l).getD 0 0≠1/\(cU l).getD 1 0≠1
 | [],_=>⟨by show(0:Int)≠1;decide,by show(0:Int)≠1;decide⟩
 | .pk k::r,h=>by
   rw[cy];have:=uU k.B k.A k.Bb (cU r);show(eh k.B k.A k.Bb++cU r).getD 0 0≠1/\(eh k.B k.A k.Bb++cU r).getD 1 0≠1;omega
 | .hd y::r,h=>by
   rw[cy];have:=uv y (cU r);show(hZ y++cU r).getD 0 0≠1/\(hZ y++cU r).getD 1 0≠1;omega
 | .no l::r,h=>by
   have ih:=yt r fun x hx=>h x (List.mem_cons_of_mem _ hx)
   have hl:∀x∈l,2<=x:=h _ List.mem_cons_self;rw[cy];show(l++cU r).getD 0 0≠1/\(l++cU r).getD 1 0≠1
   match l,hl with
   | [],_=>exact ih
   | [x],hl=>
     have:=hl x (by simp);exact⟨fun e=>by have e:x=1:=e;omega,ih.1⟩
   | x::y::t,hl=>
     have h1:=hl x (by simp);have h2:=hl y (by simp);exact⟨fun e=>by have e:x=1:=e;omega,fun e=>by have e:y=1:=e;omega⟩
theorem Ov(h:Hd){j:Nat}(h3:3<=j)(hj:j+2<(hZ h).length):¬He (fun i=>(hZ h).getD i 0) j:=fun hm=>by
 have hn:=Om (zn h);unfold hZ at hj hm;rw[List.length_append]at hj;obtain⟨m0,m1,m2⟩:=hm;dsimp only at m0 m1 m2
 by_cases h4:j=3
 ·subst h4;have m0:(176:Int)=0:=m0;omega
 ·have hj:j+2<4+_:=hj;rw[oM (by show 4<=j;omega)]at m0;rw[oM (by show 4<=j+1;omega)]at m1;rw[oM (by show 4<=j+2;omega)]at m2;have e1:j+1-([0,0,1,176]:List Int).length=j-4+1:=by show j+1-4=_;omega
  have e2:j+2-([0,0,1,176]:List Int).length=j-4+2:=by show j+2-4=_;omega
  rw[e1]at m1;rw[e2]at m2;exact hn (j-4) (by omega) ⟨m0,m1,by rw[m2];decide⟩
theorem zT{h:Hd}{r:List Int}(hs:r.getD 0 0≠1/\r.getD 1 0≠1){j:Nat}(h3:3<=j)(hj:j<(hZ h).length):¬He (fun i=>(hZ h++r).getD i 0) j:=fun hm=>by
 obtain⟨m0,m1,m2⟩:=hm;dsimp only at m0 m1 m2
 by_cases h1:j+2<(hZ h).length
 ·rw[tW (by omega)]at m0 m1 m2;exact Ov h h3 h1 ⟨m0,m1,m2⟩
 ·rw[oM (by omega)]at m2;have:j+2-(hZ h).length=0\/j+2-(hZ h).length=1:=by omega
  rcases this with e|e<;>rw[e]at m2
  ·exact hs.1 m2
  ·exact hs.2 m2
theorem Ma{b:List Int}{n:Nat}{all:Int}{p:Nat}{k:Pk}{r:List Int}(hk:sT all (.pk k))(hb:b.drop p=eh k.B k.A k.Bb++r)(hn:b.length=n):Qv b n all p k:=by
 obtain⟨o,a1,b1,e⟩:=hk;have hl:=congrArg List.length hb;rw[List.length_drop,List.length_append,eQ]at hl;refine⟨o,a1,b1,e,by omega,fun i hi=>?_⟩;rw[<-gq,hb,tW (by rw[eQ];exact hi)]
theorem qY{b:List Int}{n:Nat}{all:Int}(hn:b.length=n):∀(its:List It) (p a:Nat),(∀x∈its,sT all x)->b.drop p=cU its->p<=n->a<=p->(∀j,a<=j->j<p->¬He (dB b 0) j)->Steps b n all a (nC p its)
 | [],p,a,ho,hb,hp,ha,hc=>by
   have hl:=congrArg List.length hb;rw[List.length_drop]at hl;have hl:b.length-p=0:=hl;exact .nil (by omega) (rN _ a rfl fun j h1 h2=>hc j h1 (by omega))
 | .pk k::r,p,a,ho,hb,hp,ha,hc=>by
   have hk:=ho _ List.mem_cons_self;rw[cy]at hb;have hb:b.drop p=eh k.B k.A k.Bb++cU r:=hb;have hl:=congrArg List.length hb;rw[List.length_drop,List.length_append,eQ]at hl;have hg:=uU k.B k.A k.Bb (cU r);rw[<-hb,gq,gq,gq]at hg
   have hm:He (dB b 0) p:=by
    unfold He dB;rw[Nat.zero_add,Nat.zero_add,Nat.zero_add];exact hg
   refine .pk ha (by omega) (ky (by omega) hm _ a rfl ha hc) (Ma hk hb hn) ?_;refine qY hn r (p+cx k) _ (fun x hx=>ho x (List.mem_cons_of_mem _ hx)) ?_ (by unfold cx;omega) (Nat.le_refl _) fun j h1 h2=>by omega
   rw[<-List.drop_drop,hb,List.drop_left' (by rw[eQ];rfl)]
 | .hd h::r,p,a,ho,hb,hp,ha,hc=>by
   have hor:∀x∈r,sT all x:=fun x hx=>ho x (List.mem_cons_of_mem _ hx)
   rw[cy]at hb;have hb:b.drop p=hZ h++cU r:=hb;have hl:=congrArg List.length hb;have hy:=jX h;rw[List.length_drop,List.length_append]at hl;have hg:=uv h (cU r);rw[<-hb,gq,gq,gq,gq]at hg
   have hm:He (dB b 0) p:=by
    unfold He dB;rw[Nat.zero_add,Nat.zero_add,Nat.zero_add];exact⟨hg.1,hg.2.1,hg.2.2.1⟩
   refine .no ha (by omega) (ky (by omega) hm _ a rfl ha hc) (by rw[hg.2.2.2];decide) ?_;refine qY hn r (p+(hZ h).length) _ hor ?_ (by omega) (by omega) fun j h1 h2 hm=>?_
   ·rw[<-List.drop_drop,hb,List.drop_left' rfl]
   ·refine zT (h:=h) (yt r hor) (j:=j-p) (by omega) (by omega) ?_;obtain⟨m0,m1,m2⟩:=hm;unfold dB at m0 m1 m2;refine⟨?_,?_,?_⟩<;>dsimp only<;>rw[<-hb,gq]
    ·rw[<-m0];congr 1;omega
    ·rw[<-m1];congr 1;omega
    ·rw[<-m2];congr 1;omega
 | .no l::r,p,a,ho,hb,hp,ha,hc=>by
   have hor:∀x∈r,sT all x:=fun x hx=>ho x (List.mem_cons_of_mem _ hx)
   have hl2:∀x∈l,2<=x:=ho _ List.mem_cons_self;rw[cy]at hb;have hb:b.drop p=l++cU r:=hb;have hl:=congrArg List.length hb;rw[List.length_drop,List.length_append]at hl;show Steps b n all a (nC (p+l.length) r);refine qY hn r (p+l.length) a hor ?_ (by omega) (by omega) fun j h1 h2 hm=>?_
   ·rw[<-List.drop_drop,hb,List.drop_left' rfl]
   ·by_cases hj:j<p
    ·exact hc j h1 hj hm
    ·have m0:=hm.1;unfold dB at m0;rw[show 0+j=p+(j-p) by omega,<-gq,hb,tW (by omega),List.getD_eq_getElem?_getD,List.getElem?_eq_getElem (show j-p<l.length by omega),Option.getD_some]at m0;have:=hl2 _ (List.getElem_mem (show j-p<l.length by omega));omega
theorem tH:∀(its:List It) (p:Nat) (s:W9),s.at_<=p->0<=s.work->s.work<=2*(s.at_:Nat)+2 ->
 ((nC p its).foldl w9 s).acc=s.acc++jt p its/\((nC p its).foldl w9 s).passed+(((p+(cU its).length:Nat):Int)-(((nC p its).foldl w9 s).at_:Nat))=s.passed+((p:Int)-(s.at_:Nat))+(dN its:Nat)/\0<=((nC p its).foldl w9 s).work/\((nC p its).foldl w9 s).work<=2*(((nC p its).foldl w9 s).at_:Nat)+2/\((nC p its).foldl w9 s).at_<=p+(cU its).length
 | [],p,s,ha,hw,hw2=>⟨(List.append_nil _).symm,by show s.passed+(((p+0:Nat):Int)-(s.at_:Nat))=s.passed+((p:Int)-(s.at_:Nat))+((0:Nat):Int);omega,hw,hw2,by show s.at_<=_;omega⟩
 | .pk k::r,p,s,ha,hw,hw2=>by
   have hk:21<=cx k:=by unfold cx;omega
   have hl:(Il (.pk k)).length=cx k:=eQ ..;obtain⟨i1,i2,i3,i4,i5⟩:=tH r (p+cx k) ⟨p+cx k,s.passed+((p:Int)-(s.at_:Nat)),s.work+((p:Int)-(s.at_:Nat)+1)+(cx k:Nat),s.acc++[⟨k,p⟩]⟩ (Nat.le_refl _) (by show(0:Int)<=s.work+((p:Int)-(s.at_:Nat)+1)+(cx k:Nat);omega) (by show s.work+((p:Int)-(s.at_:Nat)+1)+(cx k:Nat)<=2*((p+cx k:Nat):Int)+2;omega);rw[cy,List.length_append,hl];show((nC (p+cx k) r).foldl w9 _).acc=s.acc++(⟨k,p⟩::jt (p+cx k) r)/\_;simp only[nC,List.foldl_cons,w9,dN]at *;refine⟨by rw[i1,List.append_assoc];rfl,?_,i3,i4,by omega⟩;rw[show p+(cx k+(cU r).length)=p+cx k+(cU r).length by omega,i2];omega
 | .hd h::r,p,s,ha,hw,hw2=>by
   have hy:=jX h;obtain⟨i1,i2,i3,i4,i5⟩:=tH r (p+(hZ h).length) ⟨p+3,s.passed+((p:Int)-(s.at_:Nat))+3,s.work+((p:Int)-(s.at_:Nat)+1),s.acc⟩ (by show p+3<=_;omega) (by show(0:Int)<=s.work+((p:Int)-(s.at_:Nat)+1);omega) (by show s.work+((p:Int)-(s.at_:Nat)+1)<=2*((p+3:Nat):Int)+2;omega);rw[cy,List.length_append,show(Il (.hd h)).length=(hZ h).length from rfl];simp only[nC,jt,List.foldl_cons,w9,dN]at *;refine⟨i1,?_,i3,i4,by omega⟩;rw[show p+((hZ h).length+(cU r).length)=p+(hZ h).length+(cU r).length by omega,i2];omega
 | .no l::r,p,s,ha,hw,hw2=>by
   obtain⟨i1,i2,i3,i4,i5⟩:=tH r (p+l.length) s (by omega) hw hw2;rw[cy,List.length_append,show(Il (.no l)).length=l.length from rfl];simp only[nC,jt,dN]at *;refine⟨i1,?_,i3,i4,by omega⟩;rw[show p+(l.length+(cU r).length)=p+l.length+(cU r).length by omega,i2];omega
theorem DS{b:List Int}{n i:Nat}{all:Int}{h:Hd}{its:List It}(ho:lE h)(ht:∀j,j<64->(0<=h.a j/\h.a j<=255)/\(0<=h.b j/\h.b j<=255))(h0:h.w=false->∀j,j<64->h.a j=0/\h.b j=0)(hits:∀x∈its,sT all x)(hb:b.drop i=hZ h++cU its)(hn:b.length=n)(hf:its = []\/∃x r,its=x::r/\(∀l,x ≠ .no l)):EW b n i h (hZ h).length:=by
 have hl:=congrArg List.length hb;have hy:=jX h;rw[List.length_drop,List.length_append]at hl
 have hcl:∀j,3<=j->j<(hZ h).length->¬He (dB b i) j:=fun j h1 h2 hm=>by
  refine zT (h:=h) (yt its hits) h1 h2 ?_;obtain⟨m0,m1,m2⟩:=hm;unfold dB at m0 m1 m2;refine⟨?_,?_,?_⟩<;>dsimp only<;>rw[<-hb,gq]<;>assumption
 refine⟨ho,ht,h0,rfl,by omega,fun j hj=>?_,?_⟩
 ·rw[<-gq,hb,tW hj]
 ·rcases hf with rfl|⟨x,r,rfl,hx⟩
  ·have hl:b.length-i=(hZ h).length+0:=hl;exact .inl ⟨rN _ 3 rfl fun j h1 h2=>hcl j h1 (by omega),by omega⟩
  ·refine .inr (ky ?_ ?_ _ 3 rfl (by omega) hcl)
   ·rw[cy,List.length_append]at hl
    have:4<=(Il x).length:=by
     cases x with
     | pk k=>show 4<=(eh k.B k.A k.Bb).length;rw[eQ];omega
     | hd h=>exact(jX h).1
     | no l=>exact absurd rfl (hx l)
    omega
   ·have e:∀j,dB b i ((hZ h).length+j)=(cU (x::r)).getD j 0:=fun j=>by
     unfold dB;rw[<-gq,hb,oM (by omega),Nat.add_sub_cancel_left]
    have g:(cU (x::r)).getD 0 0=0/\(cU (x::r)).getD 1 0=0/\(cU (x::r)).getD 2 0=1:=by
     rw[cy]
     cases x with
     | pk k=>exact uU ..
     | hd h=>have:=uv h (cU r);exact⟨this.1,this.2.1,this.2.2.1⟩
     | no l=>exact absurd rfl (hx l)
    refine⟨?_,?_,?_⟩
    ·rw[<-g.1];exact e 0
    ·rw[<-g.2.1];exact e 1
    ·rw[<-g.2.2];exact e 2
end Go.Proofs.YthdciapjllppjaaGreat
namespace Go.Xm
variable [aq]
variable {P:Program} {ops:Array Oper} {nt nI:Nat} {al:aO} {hs:aj} {o:Oper} {l:List Oper} {L:List aA} {K:List Ab->aO->aj->Prop} {d:Nat}
theorem Bo{t:TypeId}{xs ys:List XC}(h:P.eqGuardType P.depth t=false):s6 P t (.agg xs) (.agg ys)=bY P 40 t (.agg xs) (.agg ys):=by
 show(if P.eqGuardType P.depth t then none else _)=_;rw[h];rfl
theorem TF{t t':TypeId}{a b:Operand}{xs ys:List XC}{r:Bool}(hr:s6 P t (.agg xs) (.agg ys)=some r)(hk:SK P ops nt L l ((d,.one (.bool r))::al) hs fun bs=>K (quiet::bs))(ho:o.op = .binOp .eql t a b t':=by exact rfl)(hw:aw ops (rg al) o=some true:=by exact rfl)(hd:o.dst=some d:=by exact rfl)(hlt:Nat.blt d nt=true:=by exact rfl)(ha:af (rg al) a = .agg xs:=by exact rfl)(hb:af (rg al) b = .agg ys:=by exact rfl):SK P ops nt L (o::l) al hs K:=
 SK.lift hd hlt (fun _=>aB.pure hw (by rw[ho];simp only[aZ,ha,hb,s5,hr,Option.map_some])) hk
theorem Ti{t t':TypeId}{a b:Operand}{xs ys:List XC}{r:Bool}(hr:s6 P t (.agg xs) (.agg ys)=some r)(hk:SK P ops nt L l ((d,.one (.bool (!r)))::al) hs fun bs=>K (quiet::bs))(ho:o.op = .binOp .neq t a b t':=by exact rfl)(hw:aw ops (rg al) o=some true:=by exact rfl)(hd:o.dst=some d:=by exact rfl)(hlt:Nat.blt d nt=true:=by exact rfl)(ha:af (rg al) a = .agg xs:=by exact rfl)(hb:af (rg al) b = .agg ys:=by exact rfl):SK P ops nt L (o::l) al hs K:=
 SK.lift hd hlt (fun _=>aB.pure hw (by rw[ho];simp only[aZ,ha,hb,s5,hr,Option.map_some])) hk
theorem RU{e:TypeId}{n:Nat}{eq:TypeId->X1->X1->Option Bool}{xs ys:List XC}{R:Nat->Prop}:∀k i,(∀j,i<=j->j<i+k->∃a b r,gz P e xs (j*n)=some a/\gz P e ys (j*n)=some b/\eq e a b=some r/\(r=true↔R j))->∃r,kR P eq e n xs ys i k=some r/\(r=true↔∀j,i<=j->j<i+k->R j)
 | 0,i,_=>⟨true,rfl,fun _ j h1 h2=>absurd h2 (by omega),fun _=>rfl⟩
 | k + 1,i,h=>by
   obtain⟨a,b,r,h1,h2,h3,h4⟩:=h i (Nat.le_refl _) (by omega);rw[kR,h1,h2];dsimp only;rw[h3]
   cases r with
   | true=>
     obtain⟨r2,g1,g2⟩:=RU k (i+1) (fun j h5 h6=>h j (by omega) (by omega));refine⟨r2,g1,fun hr j h5 h6=>?_,fun hr=>g2.2 fun j h5 h6=>hr j (by omega) (by omega)⟩
     by_cases hji:j=i
     ·subst hji;exact h4.1 rfl
     ·exact g2.1 hr j (by omega) (by omega)
   | false=>exact⟨false,rfl,fun hr=>(by cases hr),fun hr=>absurd (h4.2 (hr i (Nat.le_refl _) (by omega))) (by decide)⟩
theorem xP{e:TypeId}{u:TypeDesc}(hu:P.underlying e=some u)(hn:fM P e=some false){cs:List XC}{i:Nat}{c:XC}(hc:cs[i]? = some c):gz P e cs i=some (.one c):=by
 unfold gz;rw[hn,hc]
theorem QT{t e:TypeId}{kk:IntKind}{n:Nat}(ht:P.underlying t=some (.array n e))(he:P.underlying e=some (.int kk))(hs:bT P e=some 1){d:Nat}(f g:Nat->Int):∃r,bY P (d+2) t (.agg (ti kk n f)) (.agg (ti kk n g))=some r/\(r=true↔∀j,j<n->f j=g j):=by
 have hn:fM P e=some false:=by unfold fM;rw[he]
 obtain⟨r,h1,h2⟩:=RU (P:=P) (e:=e) (n:=1) (eq:=bY P (d+1)) (xs:=ti kk n f) (ys:=ti kk n g) (R:=fun j=>f j=g j) n 0 (fun j _ hj=>by
  refine⟨.one (.int kk (f j)),.one (.int kk (g j)),f j==g j,?_,?_,?_,beq_iff_eq⟩
  ·exact xP he hn (by rw[Nat.mul_one];exact jM (by omega))
  ·exact xP he hn (by rw[Nat.mul_one];exact jM (by omega))
  ·rw[bY,he]
   simp[wJ])
 refine⟨r,?_,h2.trans ⟨fun h j hj=>h j (Nat.zero_le _) (by omega),fun h j _ hj=>h j (by omega)⟩⟩;rw[bY,ht];dsimp only;rw[hs];exact h1
end Go.Xm
namespace Go.Proofs.YthdciapjllppjaaGreat
open Go.Xm
variable [aq]
theorem o9{P:Program}{eq:TypeId->Go.Xm.X1->Go.Xm.X1->Option Bool}{xs:List XC}:∀fs:List Field,(∀f∈fs,∃a,gz P f.type xs f.offset=some a/\eq f.type a a=some true)->ig P eq xs xs fs=some true
 | [],_=>rfl
 | f::fs,h=>by
   obtain⟨a,h1,h2⟩:=h f List.mem_cons_self;have ih:=o9 fs fun g hg=>h g (List.mem_cons_of_mem _ hg)
   unfold ig;split
   ·rw[h1];dsimp only;rw[h2];exact ih
   ·exact ih
theorem tf{d:Nat}(z:Int):bY prog (d+1) 3 (.one (.int .i64 z)) (.one (.int .i64 z))=some true:=by
 rw[bY,Tryz.underlying3];simp[wJ]
theorem ua{d:Nat}(z:Bool):bY prog (d+1) 4 (.one (.bool z)) (.one (.bool z))=some true:=by
 rw[bY,Tryz.underlying4];simp[wJ]
theorem tc:fM prog 3=some false:=by kernel_rfl
theorem tS:fM prog 4=some false:=by kernel_rfl
theorem kW{P:Program}{t:TypeId}{cs:List XC}{i:Nat}{c:XC}(h:fM P t=some false)(hc:cs[i]? = some c):gz P t cs i=some (.one c):=by
 unfold gz;rw[h,hc]
theorem Tp(p:Ph):s6 prog 48 (.agg (tu p)) (.agg (tu p))=some true:=by
 rw[Bo (by kernel_rfl),bY,Tryz.underlying48];dsimp only;rw[if_neg (show¬(prog.stoodInHeld 48=true)from by rw[show prog.stoodInHeld 48=false by kernel_rfl];decide)];refine o9 _ fun f hf=>?_
 simp only[List.mem_cons,List.not_mem_nil,or_false]at hf
 rcases hf with rfl|rfl|rfl|rfl
 ·exact⟨_,kW tc rfl,tf _⟩
 ·exact⟨_,kW tS rfl,ua _⟩
 ·exact⟨_,kW tS rfl,ua _⟩
 ·exact⟨_,kW tc rfl,tf _⟩
theorem HU{d:Nat}(f:Nat->Int):bY prog (d+2) 22 (.agg (ti .u8 64 f)) (.agg (ti .u8 64 f))=some true:=by
 obtain⟨r,h1,h2⟩:=QT (P:=prog) (d:=d) (n:=64) Tryz.underlying22 Tryz.underlying5 (by kernel_rfl) f f;rw[h1,h2.2 fun _ _=>rfl]
theorem sk{P:Program}{t:TypeId}{cs xs:List XC}{i s:Nat}(h:fM P t=some true)(hs:bT P t=some s)(hc:(cs.drop i).take s=xs):gz P t cs i=some (.agg xs):=by
 unfold gz;rw[h,hs];dsimp only;rw[hc]
theorem Ns(h:Hd):s6 prog 26 (.agg (b9 h)) (.agg (b9 h))=some true:=by
 rw[Bo (by kernel_rfl),bY,Tryz.underlying26];dsimp only;rw[if_neg (show¬(prog.stoodInHeld 26=true)from by rw[show prog.stoodInHeld 26=false by kernel_rfl];decide)];refine o9 _ fun f hf=>?_
 simp only[List.mem_cons,List.not_mem_nil,or_false]at hf
 rcases hf with rfl|rfl|rfl
 ·exact⟨_,kW tc rfl,tf _⟩
 ·exact⟨_,kW tc rfl,tf _⟩
 ·refine⟨.agg (dY h),sk (s:=129) (by kernel_rfl) (by kernel_rfl) rfl,?_⟩;rw[bY,Tryz.underlying24];dsimp only;rw[if_neg (show¬(prog.stoodInHeld 24=true)from by rw[show prog.stoodInHeld 24=false by kernel_rfl];decide)];refine o9 _ fun f hf=>?_
  simp only[List.mem_cons,List.not_mem_nil,or_false]at hf
  rcases hf with rfl|rfl|rfl
  ·exact⟨_,kW tS rfl,ua _⟩
  ·exact⟨.agg (ti .u8 64 h.a),sk (s:=64) (by kernel_rfl) (by kernel_rfl) rfl,HU _⟩
  ·exact⟨.agg (ti .u8 64 h.b),sk (s:=64) (by kernel_rfl) (by kernel_rfl) rfl,HU _⟩
theorem H7(g:Nat):∀(l:List Fo) (j i:Nat),i<l.length->((pj g j l).drop (i*12)).take 12=H6 g (j+i) (l.getD i default)
 | [],_,_,h=>absurd h (Nat.not_lt_zero _)
 | f::l,j,0,_=>by rw[Nat.zero_mul,List.drop_zero,pj,List.take_left' (show(H6 g j f).length=12 from rfl)];rfl
 | f::l,j,i+1,h=>by
   rw[pj,show(i+1)*12=12+i*12 by omega,<-List.drop_drop,List.drop_left' (show(H6 g j f).length=12 from rfl),H7 g l (j+1) i (by rw[List.length_cons]at h;omega),show j+1+i=j+(i+1) by omega];rfl
def Qs(k k':Pk):Prop:=k.ph.id<k'.ph.id\/(k.ph=k'.ph/\k.first+k.count<=k'.first)
structure Sr(l:List Fo)(n:Nat):Prop where
 id:∀i,i<n->0<=(l.getD i default).k.ph.id/\(l.getD i default).k.ph.id<16
 rng:∀i,i<n->(0<=(l.getD i default).k.first/\(l.getD i default).k.first<=100)/\(0<=(l.getD i default).k.count/\(l.getD i default).k.count<=100)
 nx:∀i,i+1<n->Qs (l.getD i default).k (l.getD (i+1) default).k
noncomputable def Rv(h:Hd)(p:Ph)(g:Gr):Pk:=⟨p,g.first,(g.ms.length:Nat),(f_ h p g).1,(f_ h p g).2,Ru h p g⟩
noncomputable def lx(s:tP):List Pk:=s.ps.flatMap fun p=>p.gs.map (Rv s.hd p.ph)
def R9(k:Pk):List Int:=eh k.B k.A k.Bb
theorem D7(k:Pk):(R9 k).length=cx k:=eQ ..
theorem AG(s:tP):(lx s).map R9=qk s.hd s.ps:=by
 unfold lx qk NI;rw[List.map_flatMap]
 congr 1
 funext p
 rw[List.map_map];rfl
theorem lZ(a b:List It):cU (a++b)=cU a++cU b:=List.flatMap_append
theorem Me{s:tP}{k:Pk}(hk:k∈lx s):∃i,i<s.ps.length/\∃g∈(s.ps.getD i default).gs,k=Rv s.hd (s.ps.getD i default).ph g:=by
 unfold lx at hk;obtain⟨p,hp,hq⟩:=List.mem_flatMap.1 hk;obtain⟨i,hi,rfl⟩:=List.mem_iff_getElem.1 hp;obtain⟨g,hg,rfl⟩:=List.mem_map.1 hq;refine⟨i,hi,g,?_,?_⟩<;>rw[List.getD_eq_getElem?_getD,List.getElem?_eq_getElem hi,Option.getD_some]
 exact hg
theorem Mf{s:tP}(h:lG s){k:Pk}(hk:k∈lx s):(0<=k.ph.id/\k.ph.id<16)/\(0<=k.first/\k.first<=100)/\(0<=k.count/\k.count<=100)/\sT (s.hd.cols*s.hd.rows) (.pk k):=by
 obtain⟨i,hi,g,hg,rfl⟩:=Me hk;have hm:=oY h.ok;have hp:=h.ok.pics i hi;have h5:=h.ok.many;have he:(((s.hd.cols*s.hd.rows).toNat:Nat):Int)=s.hd.cols*s.hd.rows:=by omega
 obtain⟨g1,g2,g3,g4,g5,g6⟩:=um hp.gs (Int.le_refl 0) g hg;rw[he]at g3;obtain⟨-,-,ba,bb,la,lb⟩:=Jc h hi hg;have hid:=hp.id;refine⟨?_,⟨g1,?_⟩,⟨?_,?_⟩,⟨hp.ph,g1,?_,g3,by omega,la,lb⟩,ba,bb,rfl⟩
 ·show 0<=(s.ps.getD i default).ph.id/\(s.ps.getD i default).ph.id<16;omega
 ·show g.first<=100
  omega
 ·show(0:Int)<=(g.ms.length:Nat);omega
 ·show((g.ms.length:Nat):Int)<=100;omega
 ·show(1:Int)<=(g.ms.length:Nat);omega
theorem Md(s:tP):(iF s).length=(lx s).length+1:=by
 show(qk s.hd s.ps).length+1=_;rw[<-AG,List.length_map]
theorem Mh(s:tP){j:Nat}(hj:j<(lx s).length):(iF s).getD (j+1) []=R9 ((lx s).getD j default):=by
 show(qk s.hd s.ps).getD j []=_;rw[<-AG,List.getD_eq_getElem?_getD,List.getElem?_map,List.getElem?_eq_getElem hj,List.getD_eq_getElem?_getD,List.getElem?_eq_getElem hj];rfl
def qR:List It->List Pk
 | []=>[]
 | .pk k::r=>k::qR r
 | .hd _::r=>qR r
 | .no _::r=>qR r
theorem yk:∀(its:List It) (p:Nat),(jt p its).map (·.k)=qR its
 | [],p=>rfl
 | .pk k::r,p=>by rw[jt,List.map_cons,yk r];rfl
 | .hd h::r,p=>by rw[jt,yk r];rfl
 | .no l::r,p=>by rw[jt,yk r];rfl
theorem og:∀(a b:List It),qR (a++b)=qR a++qR b
 | [],b=>rfl
 | .pk k::r,b=>by rw[List.cons_append,qR,og r b];rfl
 | .hd h::r,b=>by rw[List.cons_append,qR,og r b];rfl
 | .no l::r,b=>by rw[List.cons_append,qR,og r b];rfl
theorem SO(l:List Fo)(i:Nat):(l.getD i default).k=(l.map (·.k)).getD i default:=by
 rw[List.getD_eq_getElem?_getD,List.getD_eq_getElem?_getD,List.getElem?_map];cases l[i]?<;>rfl
theorem kg:∀(a b:List It),dN (a++b)=dN a+dN b
 | [],b=>(Nat.zero_add _).symm
 | .pk k::r,b=>by rw[List.cons_append,dN,kg r b];rfl
 | .hd h::r,b=>by rw[List.cons_append,dN,kg r b,dN];omega
 | .no l::r,b=>by rw[List.cons_append,dN,kg r b,dN];omega
theorem A0(h:Hd)(hw:(gO h).w=false):∀j,j<64->(gO h).a j=0/\(gO h).b j=0:=(ui h).2 hw
theorem Fk{b pre:List Int}{h:Hd}{r:List Int}(hp:∀x∈pre,2<=x)(hb:b=pre++(hZ h++r)):findF (dB b 0) b.length 0=some pre.length/\pre.length+2<b.length:=by
 have hg:=uv h r;have hy:=jX h;have hl:b.length=pre.length+((hZ h).length+r.length):=by rw[hb,List.length_append,List.length_append]
 have he:∀j,dB b 0 (pre.length+j)=(hZ h++r).getD j 0:=fun j=>by
  unfold dB;rw[Nat.zero_add,hb,oM (by omega),Nat.add_sub_cancel_left]
 refine⟨ky (by omega) ⟨?_,?_,?_⟩ _ 0 rfl (Nat.zero_le _) fun j h0 h1 hm=>?_,by omega⟩
 ·rw[<-hg.1];exact he 0
 ·rw[<-hg.2.1];exact he 1
 ·rw[<-hg.2.2.1];exact he 2
 ·have m0:=hm.1;unfold dB at m0;rw[Nat.zero_add,hb,tW h1,List.getD_eq_getElem?_getD,List.getElem?_eq_getElem h1,Option.getD_some]at m0;have:=hp _ (List.getElem_mem h1);omega
end Go.Proofs.YthdciapjllppjaaGreat
