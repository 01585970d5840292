/-
  'Rows.PartTurnedSaid': for all its arguments the law returns true, and each argument reads behind the call as it read before.
-/
import Derived.Test.YtagpkhindehcbaaGreatKeF
import Derived.Test.YtagpkhindehcbaaGreatKeY
import Derived.Test.YtagpkhindehcbaaGreatKeZ
import Derived.Test.YtagpkhindehcbaaGreatKeZA
import Derived.OpenShut
import Derived.Test.YtagpkhindehcbaaGreatRows
set_option maxRecDepth 10000
set_option maxHeartbeats 8000000
set_option linter.unusedVariables false
set_option linter.unusedSectionVars false
set_option linter.unusedSimpArgs false
namespace Go.Proofs.YtagpkhindehcbaaGreat
open Go.Xm
variable [ax]
theorem MI{l:List Mb}{first:Int}{x0:PS}:∀k e,gd l first x0 k = .inl e->e≠0:=by
 intro k
 induction k with
 | zero=>intro e h;cases h
 | succ k ih=>
   intro e h
   rw[gd]at h
   split at h
   ·rename_i e' he
    cases h
    exact ih _ he
   ·unfold kn at h
    split at h
    ·rename_i hc
     cases h
     exact hc
    ·split at h
     ·cases h;decide
     ·cases h
theorem MH{h:Hd}{p:Ph}{l:List Mb}{first e:Int}(hp:pf h p l first = .inl e):e≠0:=by
 unfold pf at hp
 split at hp
 ·rename_i e' he
  cases hp
  exact MI _ _ he
 ·split at hp
  ·cases hp;decide
  ·cases hp
structure Ok(h:Hd)(p:Ph)(l:List Mb)(ft:Int)(a b:List Int):Prop where
 na:a.length≠0
 nb:b.length≠0
 out:∀n,1<=n->n<=l.length->∃q B t y,lW h p a q B ft n/\fF B ft n ⟨dS h p,(0,false),[]⟩=t/\gd l ft (qW h p) n = .inr y/\CD l ft (qW h p) n y t/\kC B t.r=if n<l.length then 13 else 0
theorem IB{l:List Int}(hl:dc l)(h:l.length≠0):(gT l l.length).1.length≠0:=fun e=>by
 have h1:=AV hl
 rw[List.length_eq_zero_iff.1 e]at h1
 have h2:some ([]:List Int)=some l:=h1
 cases h2
 exact h rfl
theorem uX:∀(l:List Int) (z:Int),(∀b∈l,0<=b/\b<256)->∀b∈nM z l,0<=b/\b<256
 | [],z,_=>fun b hb=>by cases hb
 | x :: t,z,h=>fun b hb=>by
   have hx:=h x (List.mem_cons_self ..)
   have ht:∀b∈t,0<=b/\b<256:=fun b hb=>h b (List.mem_cons_of_mem _ hb)
   rw[nM]at hb
   split at hb
   ·rcases List.mem_cons.1 hb with rfl|hb
    ·omega
    ·rcases List.mem_cons.1 hb with rfl|hb
     ·exact hx
     ·exact uX t _ ht b hb
   ·rcases List.mem_cons.1 hb with rfl|hb
    ·exact hx
    ·exact uX t _ ht b hb
theorem uZ(l:List Int)(hl:dc l):dc (gT l l.length).1:=fun i=>by
 rw[uW]
 refine j_ (p:=fun z=>0<=z/\z<256) (uX l 0 fun b hb=>?_) (by decide) i
 obtain⟨j,hj,rfl⟩:=List.mem_iff_getElem.1 hb
 have:=hl j
 rw[List.getD_eq_getElem?_getD,List.getElem?_eq_getElem hj]at this
 exact this
theorem LD{h:Hd}{p:Ph}{l:List Mb}{first:Int}(hT:gu h p l first){a b:List Int}(hp:pf h p l first = .inr (a,b)):Ok h p l first a b:=by
 unfold pf at hp
 split at hp
 ·cases hp
 ·rename_i x hx
  split at hp
  ·cases hp
  ·rename_i hl
   cases hp
   have hi:=vQ hT l.length (Nat.le_refl _) x hx
   have h16:=hT.few
   have hB:=hi.len
   have hw1:(wr (x.B++[true])).length≠0:=by rw[fP,List.length_append,List.length_cons,List.length_nil];omega
   have hw2:(wr (x.w++[true])).length≠0:=by rw[fP,List.length_append,List.length_cons,List.length_nil];omega
   refine⟨IB (gm _) hw1,IB (gm _) hw2,fun n hn1 hn=>?_⟩
   obtain⟨t,y,h1,h2,h3,h4⟩:=G0 hT hx hn
   refine⟨wr (x.B++[true]),x.B,t,y,⟨hT.hd,hT.ph,uZ _ (gm _),by omega,AV (gm _),MZ _,by rw[fP,List.length_append];simp;omega,LA _ (by omega),hT.pos,hn1,by have:=hT.all;omega⟩,h1,h2,h3,h4⟩
theorem Di{h:Hd}{p:Ph}(hp:qm p){f:Int}(hf:0<=f/\f<=255){l:List Sm}(hl:∀j,j<l.length->kH (l.getD j default)):gu (four h) (qO p) (gj h p f l) (fx h f)/\(gj h p f l).length<=9:=by
 obtain⟨ho,c1,c2,c3,c4⟩:=Ez h
 have hcr:=jf ho.dims
 have hpo:=Eu hp
 have hF:0<=fx h f/\fx h f<(four h).cols*(four h).rows:=by
  unfold fx
  exact⟨Int.emod_nonneg _ (by omega),Int.emod_lt_of_pos _ (by omega)⟩
 have hm:=Jj hl (qO p).inter hpo.qp (room:=(four h).cols*(four h).rows-fx h f) (by omega)
 obtain⟨m1,m2,m3,m4⟩:=hm
 obtain⟨L,hL⟩:∃L,gj h p f l=L:=⟨_,rfl⟩
 have hL2:mU l (qO p).inter (qO p).qp ((four h).cols*(four h).rows-fx h f)=L:=hL
 rw[hL2]at m1 m2 m3 m4
 rw[hL]
 refine⟨⟨ho,hpo,fun m hmm=>?_,hF.1,m2,by omega,by omega⟩,m3⟩
 obtain⟨j,hj,rfl⟩:=List.mem_iff_getElem.1 hmm
 have:=m1.mok j hj
 rw[List.getD_eq_getElem?_getD,List.getElem?_eq_getElem hj,Option.getD_some]at this
 exact this
end Go.Proofs.YtagpkhindehcbaaGreat
namespace Go.Proofs.YtagpkhindehcbaaGreat
open Go.Xm
variable [ax]
theorem GB{oL oO:ak}{L O:List Mb}(hL:sD oL mC L)(hO:sD oO mC O)(hl:∀i,i<L.length->jK (L.getD i default))(ho:∀i,i<O.length->jK (O.getD i default))(hn:L.length<=1000)(hn':O.length<=1000)(cap cap2:sx):bh Tryz.prog 18 [.one (.slice 0 0 L.length cap),.one (.slice 1 0 O.length cap2)] [oL,oO] (.one (.bool (sZ L O))) [oL,oO]:=by
 have hfo:=hL.flat
 have hfO:=hO.flat
 obtain⟨R,hR⟩:∃R,sZ L O=R:=⟨_,rfl⟩
 have hval := @vX _ L O
 rw[hR]at hval ⊢
 by_cases hlen:L.length=O.length
 ·refine cO Tryz.func18 ?_
  repeat' (first|refine zz ?_|refine zx (fun _=>?_) (fun _=>?_)|fail)
  refine WX.dA (σ:=Nat) (fun i=>[(0,.one (.slice 0 0 L.length cap)),(1,.one (.slice 1 0 O.length cap2)),(12,.one (.int .i64 (L.length:Nat))),(13,.one (.int .i64 (i:Nat)))]) (fun _=>[oL,oO]) (fun i=>i<=L.length/\∀j,j<i->uE (L.getD j default) (O.getD j default)) (fun i=>L.length-i) 0 ⟨Nat.zero_le _,fun j hj=>absurd hj (Nat.not_lt_zero _)⟩ (fun s _=>lS) (cG [0,1]) ?_
  intro i ⟨hi,hall⟩ ih
  by_cases hlt:i<L.length
  ·have t1:=hl i hlt
   have t2:=ho i (by omega)
   obtain⟨r,hr⟩:∃r,yt (L.getD i default) (O.getD i default)=r:=⟨_,rfl⟩
   have hri := @yu _ (L.getD i default) (O.getD i default)
   rw[hr]at hri
   cases r with
   | true=>
     repeat' (first
      |(refine qz ?_;first
       |refine pa (enc:=mC) (q:=L) (j:=i) ?_
       |refine pa (enc:=mC) (q:=O) (j:=i) ?_
       |refine cl ?_ (hi:=by exact Bu t1 t2 hr rfl))
      |refine zz ?_|refine zx (fun _=>?_) (fun _=>?_)|fail)
     refine ih (i+1) _ _ _ (cG [0,1]) ⟨by omega,fun j hj=>?_⟩ (by omega)
     by_cases hji:j=i
     ·rw[hji];exact hri.1 rfl
     ·exact hall j (by omega)
   | false=>
     have hR1:R=false:=by
      cases R with
      | false=>rfl
      | true=>have:=hri.2 ((hval.1 rfl).2 i hlt);cases this
     subst hR1
     repeat' (first
      |(refine qz ?_;first
       |refine pa (enc:=mC) (q:=L) (j:=i) ?_
       |refine pa (enc:=mC) (q:=O) (j:=i) ?_
       |refine cl ?_ (hi:=by exact Bu t1 t2 hr rfl))
      |refine zz ?_|refine zx (fun _=>?_) (fun _=>?_)|fail)
     show aB _ _ _ _ _ _ _ _;refine kV [0,1] ?_
     rfl
  ·have hR1:R=true:=hval.2 ⟨hlen,fun j hj=>hall j (by omega)⟩
   subst hR1
   repeat' (first|refine zz ?_|refine zx (fun _=>?_) (fun _=>?_)|fail)
   show aB _ _ _ _ _ _ _ _;refine kV [0,1] ?_
   rfl
 ·have hR1:R=false:=by
   cases R with
   | false=>rfl
   | true=>exact absurd (hval.1 rfl).1 hlen
  subst hR1
  refine cO Tryz.func18 ?_
  repeat' (first|refine zz ?_|refine zx (fun _=>?_) (fun _=>?_)|fail)
  show aB _ _ _ _ _ _ _ _;refine kV [0,1] ?_
  rfl
theorem r4{oL oO:ak}{L O:List Mb}(hL:sD oL mC L)(hO:sD oO mC O)(hl:∀i,i<L.length->jK (L.getD i default))(ho:∀i,i<O.length->jK (O.getD i default))(hn:L.length<=1000)(hn':O.length<=1000){cap cap2:sx}{r:Bool}(hr:sZ L O=r){n m:Nat}(h1:L.length=n)(h2:O.length=m){HS:aj}{i k:Nat}(hi:HS[i]? = some oL)(hk:HS[k]? = some oO)(hd:i≠k)(hb:Nat.blt HS.length Mem.bound=true) :
 aG.Sound Tryz.prog ⟨18,[.one (.slice i 0 n cap),.one (.slice k 0 m cap2)],HS,.one (.bool r),HS,[]⟩:=by
 subst hr h1 h2
 have hfo:=hL.flat
 have hfO:=hO.flat
 exact ue [i,k] (GB hL hO hl ho hn hn' cap cap2) (by simp[hd]) (.flat hi (.flat hk .nil)) (.flat (.flat .nil)) (.cons (by show 0<2;omega) (.cons (by show 1<2;omega) .nil)) (.cons rfl (.cons rfl .nil)) (by trivial) (bC.ay _) hb rfl
def y8(c:XC)(i n:Nat):Prop:=dj c i 0 n\/(n≠0/\c = .slice i 0 n (.toEnd 1))
theorem y8.gJ{i n:Nat}:y8 (gJ i n 1) i n:=by
 by_cases h:n=0
 ·exact .inl (.inl ⟨h,.inl (if_pos h)⟩)
 ·exact .inr ⟨h,if_neg h⟩
theorem y8.back{c:XC}{i n:Nat}(h:y8 c i n)(j:Nat)(τ : Nat->Nat)(ht : τ j=i):∃c0,y8 c0 j n/\c0.ay τ = c/\∀m,j<m->c0.ok m:=by
 rcases h with h|⟨h0,rfl⟩
 ·obtain⟨c0,h1,h2⟩:=h.qn j τ ht
  exact⟨c0,.inl h1,h2,fun m hm=>h1.ok hm⟩
 ·exact⟨.slice j 0 n (.toEnd 1),.inr ⟨h0,rfl⟩,by simp only[XC.ay,ht],fun m hm=>hm⟩
theorem wg{obA obB:ak}{cA cB:XC}{h:Hd}{p:Ph}{first:Int}{n:Nat}{a b:List Int}(hI:lr h p first n a b)(hoA:RO obA .u8 a)(hcA:y8 cA 13 a.length)(hoB:RO obB .u8 b)(hcB:y8 cB 14 b.length){R:Int ⊕ List Mb}(hR:m9 h p first n a b=R) :
 bh Tryz.prog 17 [.one (.ptr 0 0),.agg (f_ h),.agg (hU p),.one (.int .i64 first),.one (.int .i64 (n:Nat)),.one cA,.one cB] (dZ++[obA,obB]) (B0 15 R) (dZ++[obA,obB,jF R]):=by
 have hB:∀{cA},dj cA 13 0 a.length->bh Tryz.prog 17 [.one (.ptr 0 0),.agg (f_ h),.agg (hU p),.one (.int .i64 first),.one (.int .i64 (n:Nat)),.one cA,.one cB] (dZ++[obA,obB]) (B0 15 R) (dZ++[obA,obB,jF R]):=fun {cA} hA=>by
  rcases hcB with hcB|⟨h0,rfl⟩
  ·exact yz hI hoA hA hoB hcB hR
  ·obtain⟨e,opn,ro,ho⟩:=hoB.get (by omega)
   exact sH [.one (.ptr 0 0),.agg (f_ h),.agg (hU p),.one (.int .i64 first),.one (.int .i64 (n:Nat)),.one cA] [] (i:=14) (off:=0) (n:=b.length) (s:=1) (by decide) (vs:=il .u8 b) (e:=e) (opn:=opn) (ro:=ro) (by rw[<-ho];rfl) (by rw[dX];omega) fun cap hcap=>yz hI hoA hA hoB (dj.mk hcap) hR
 rcases hcA with hcA|⟨h0,rfl⟩
 ·exact hB hcA
 ·obtain⟨e,opn,ro,ho⟩:=hoA.get (by omega)
  exact sH [.one (.ptr 0 0),.agg (f_ h),.agg (hU p),.one (.int .i64 first),.one (.int .i64 (n:Nat))] [.one cB] (i:=13) (off:=0) (n:=a.length) (s:=1) (by decide) (vs:=il .u8 a) (e:=e) (opn:=opn) (ro:=ro) (by rw[<-ho];rfl) (by rw[dX];omega) fun cap hcap=>hB (dj.mk hcap)
theorem xU{f:FuncId}{args0 args:List XV}{v v':XV}{news news':aj}{ob oc:ak}[cL ob][cL oc](n:Nat)(hn:news.length=n)(hc:bh Tryz.prog f args0 (dZ++[ob,oc]) v (dZ++ob::oc::news)){HS:aj}{K i j:Nat}(hS:(HS.drop K).take 13=eU K)(hi:HS[i]? = some ob)(hj:HS[j]? = some oc)(hd:(lA K [i,j]).Nodup)(ha:fk 15 args0)(e1:dT (nth (lA K [i,j])) args0 args)(hv:v.ca (15+n))(e2:v.ay (nth (lA K [i,j]++List.range' HS.length n))=v')
 (hnk:bl (15+n) news) (hr:dq (nth (lA K [i,j]++List.range' HS.length n)) news news') (hro:ee [] news=true) {HS':aj}(hh:HS++news'=HS') (hbd:Nat.blt HS'.length Mem.bound=true):aG.Sound Tryz.prog ⟨f,args,HS,v',HS',lA K [i,j]⟩:=by
 have e0:∀q,q<13->nth (lA K [i,j]) q=K+q:=vA K [i,j]
 have e0':∀q,q<13->nth (lA K [i,j]++List.range' HS.length n) q=K+q:=vA K (i::j::List.range' HS.length n)
 have hln:(dZ++ob::oc::news).length=15+n:=by rw[List.length_append];show 13+(news.length+1+1)=_;omega
 refine bT (os:=eU K++ob::oc::news') (lA K [i,j]) (lA K [i,j]) n hc hd (zo hS e0 (.flat hi (.flat hj .nil))) (nF (l:=[ob,oc]) (by show 13<=15;omega) (.flat (.flat .nil))) (by rw[hln];exact nF (l:=ob::oc::news) (by omega) (.flat (.flat hnk))) (by rw[hln];rfl) ha e1 (by rw[hln];exact hv) e2 (uf e0' (.flat (.flat hr))) ?_ rfl ?_ hbd (.inl rfl)
 ·exact pU (dZ++[ob,oc]) [] news (lg _) hro
 ·have g:∀q,q<13->HS[K+q]? = (eU K)[q]?:=fun q hq=>by rw[<-hS,List.getElem?_take_of_lt hq,List.getElem?_drop]
  have g0:HS[K]? = some (bO (K+1) (K+5) (K+9)):=g 0 (by decide)
  simp only[bK,eU,List.cons_append,List.nil_append]
  rw[aF g0,aF (g 1 (by decide)),aF (g 2 (by decide)),aF (g 3 (by decide)),aF (g 4 (by decide)),aF (g 5 (by decide)),aF (g 6 (by decide)),aF (g 7 (by decide)),aF (g 8 (by decide)),aF (g 9 (by decide)),aF (g 10 (by decide)),aF (g 11 (by decide)),aF (g 12 (by decide)),aF hi,aF hj]
  exact hh
section
variable {h:Hd} {p:Ph} {first:Int} {n:Nat} {a b:List Int}
theorem s8(hI:lr h p first n a b){obA obB:ak}(hoA:RO obA .u8 a)(hoB:RO obB .u8 b){cA cB:XC}{i j:Nat}(hcA:y8 cA i a.length)(hcB:y8 cB j b.length){e:Int}(hR:m9 h p first n a b = .inl e){z:Int}(hz:z=(n:Nat)){HS:aj}{K:Nat}(hS:(HS.drop K).take 13=eU K)(hi:HS[i]? = some obA)(hj:HS[j]? = some obB)(hd:(lA K [i,j]).Nodup){HS':aj}(hh:HS++[.dead]=HS')(hbd:Nat.blt HS'.length Mem.bound=true) :
 aG.Sound Tryz.prog ⟨17,[.one (.ptr K 0),.agg (f_ h),.agg (hU p),.one (.int .i64 first),.one (.int .i64 z),.one cA,.one cB],HS,.tup [.one .nils,.one (.int .i64 e)],HS',lA K [i,j]⟩:=by
 subst hz
 have hfA:=hoA.flat
 have hfB:=hoB.flat
 obtain⟨a0,a1,a2,a3⟩:=hcA.back 13 (nth (lA K [i,j])) rfl
 obtain⟨b0,b1,b2,b3⟩:=hcB.back 14 (nth (lA K [i,j])) rfl
 exact xU 1 rfl (wg hI hoA a1 hoB b1 hR) hS hi hj hd (.cons (by show 0<15;omega) (.flat (.flat (.flat (.flat (.cons (a3 _ (by decide)) (.cons (b3 _ (by decide)) .nil))))))) (.cons rfl (.flat (.flat (.flat (.flat (.cons (congrArg XV.one a2) (.cons (congrArg XV.one b2) .nil))))))) (XV.eZ rfl _) rfl (.flat .nil) (.flat .nil) rfl hh hbd
theorem s9(hI:lr h p first n a b){obA obB:ak}(hoA:RO obA .u8 a)(hoB:RO obB .u8 b){cA cB:XC}{i j:Nat}(hcA:y8 cA i a.length)(hcB:y8 cB j b.length){r:List Mb}(hR:m9 h p first n a b = .inr r){m:Nat}(hm:r.length=m)(hm0:m≠0){z:Int}(hz:z=(n:Nat)){HS:aj}{K:Nat}(hS:(HS.drop K).take 13=eU K)(hi:HS[i]? = some obA)(hj:HS[j]? = some obB)(hd:(lA K [i,j]).Nodup){N:Nat}(hN:HS.length=N){HS':aj}(hh:HS++[cR 53 (fl mC r)]=HS')(hbd:Nat.blt HS'.length Mem.bound=true) :
 aG.Sound Tryz.prog ⟨17,[.one (.ptr K 0),.agg (f_ h),.agg (hU p),.one (.int .i64 first),.one (.int .i64 z),.one cA,.one cB],HS,.tup [.one (.slice N 0 m (.toEnd 391)),.one (.int .i64 0)],HS',lA K [i,j]⟩:=by
 subst hz hm hN
 have hfA:=hoA.flat
 have hfB:=hoB.flat
 obtain⟨a0,a1,a2,a3⟩:=hcA.back 13 (nth (lA K [i,j])) rfl
 obtain⟨b0,b1,b2,b3⟩:=hcB.back 14 (nth (lA K [i,j])) rfl
 refine xU 1 rfl (wg hI hoA a1 hoB b1 hR) hS hi hj hd (.cons (by show 0<15;omega) (.flat (.flat (.flat (.flat (.cons (a3 _ (by decide)) (.cons (b3 _ (by decide)) .nil))))))) (.cons rfl (.flat (.flat (.flat (.flat (.cons (congrArg XV.one a2) (.cons (congrArg XV.one b2) .nil))))))) (Gh (ba (Nat.le_of_ble_eq_true rfl)) trivial) ?_ (.flat .nil) (.flat .nil) ?_ hh hbd
 ·simp only[B0,XV.ay,List.map_cons,List.map_nil,X1.ay,aC]
  rw[show gJ _ r.length 391 = .slice _ 0 r.length (.toEnd 391)from if_neg hm0]
  rfl
 ·show ee [] [cR 53 (fl mC r)]=true
  cases fl mC r<;>rfl
end
theorem Mv(s:Sm)(k:Nat)(hk:k<6)(x:Int×(Nat->Int))(hx:∀j,384<=j->x.2 j=0):∀i,i<=64->∀j,384<=j->(ow s k x i).2 j=0:=by
 intro i
 induction i with
 | zero=>exact fun _=>hx
 | succ i ih=>
   intro hi j hj
   show(if s.keep k/2^i%2=1 then(if s.great=true then cn (cn (ow s k x i).2 (k*64+i) _) (k*64+i) _ else cn (ow s k x i).2 (k*64+i) _)else(ow s k x i).2) j=0
   have h0:=ih (by omega) j hj
   split
   ·split
    ·unfold cn
     rw[if_neg (by omega),if_neg (by omega)];exact h0
    ·unfold cn
     rw[if_neg (by omega)];exact h0
   ·exact h0
theorem Jg(s:Sm)(al:Bool):∀k,k<=6->∀j,384<=j->(jl s al k).2 j=0:=by
 intro k
 induction k with
 | zero=>exact fun _ _ _=>rfl
 | succ k ih=>
   intro hk j hj
   show(if al=true then cn (ow s k (jl s al k) 64).2 (k*64) _ else(ow s k (jl s al k) 64).2) j=0
   have h0:=Mv s k (by omega) (jl s al k) (ih (by omega)) 64 (Nat.le_refl _) j hj
   split
   ·unfold cn
    rw[if_neg (by omega)];exact h0
   ·exact h0
theorem x4(s:Sm)(inter:Bool)(qp:Int):Canon (lB s inter qp):=by
 obtain⟨H,hH⟩:∃H,fW s inter qp=H:=⟨_,rfl⟩
 have hm:lB s inter qp=⟨H.1,H.2,mT H.1 s.wy,if xj H.1=true then s.edge else false,if H.1=0 then fun _=>0 else(jl s (xj H.1) 6).2⟩:=by unfold lB;rw[hH]
 rw[hm]
 refine⟨fun i hi=>?_,fun k hk=>?_⟩
 ·show(if H.1=0 then fun _=>0 else(jl s (xj H.1) 6).2) i=0
  split
  ·rfl
  ·exact Jg s _ 6 (Nat.le_refl _) i hi
 ·show mT H.1 s.wy k=if H.1=1 then mT H.1 s.wy 0 else(0,0)
  unfold mT
  split
  ·rfl
  ·split
   ·exact if_neg (by omega)
   ·rfl
theorem Br(l:List Sm)(inter:Bool)(qp:Int):∀k,∀m∈(iZ l inter qp k).1,Canon m:=by
 intro k
 induction k with
 | zero=>intro m hm;cases hm
 | succ k ih=>
   intro m hm
   have hm:m∈(iZ l inter qp k).1++[lB (l.getD k default) inter (iZ l inter qp k).2]:=hm
   rcases List.mem_append.1 hm with hm|hm
   ·exact ih m hm
   ·rw[List.mem_singleton.1 hm];exact x4 _ _ _
theorem Dh(h:Hd)(p:Ph)(f:Int)(l:List Sm):∀j,j<(gj h p f l).length->Canon ((gj h p f l).getD j default):=by
 have:∀m∈gj h p f l,Canon m:=fun m hm=>by
  unfold gj mU at hm
  split at hm
  ·rw[List.mem_singleton.1 hm];exact x4 _ _ _
  ·exact Br _ _ _ _ m hm
 intro j hj
 refine this _ ?_
 rw[List.getD_eq_getElem?_getD,List.getElem?_eq_getElem hj]
 exact List.getElem_mem hj
theorem Mq{L O:List Mb}(hL:∀j,j<L.length->Canon (L.getD j default))(hO:∀j,j<O.length->Canon (O.getD j default))(h:HQ L O):O=L:=by
 obtain⟨h1,h2⟩:=h
 refine List.ext_getElem h1.symm fun j hj1 hj2=>?_
 have a:=Ii (hL j hj2) (hO j hj1) (h2 j hj2)
 rw[List.getD_eq_getElem?_getD,List.getElem?_eq_getElem hj1,List.getD_eq_getElem?_getD,List.getElem?_eq_getElem hj2]at a
 exact a
theorem NB:∀(v:Fin 256) (w:Fin 8),0<=t5 .u8 (v.val:Int) (1*2^w.val)/\t5 .u8 (v.val:Int) (1*2^w.val)<256/\t5 .u8 (v.val:Int) (1*2^w.val)≠(v.val:Int):=by decide +kernel
theorem Cl{v:Int}(hv:0<=v/\v<256){w:Nat}(hw:w<8):0<=t5 .u8 v (1*2^w)/\t5 .u8 v (1*2^w)<256/\t5 .u8 v (1*2^w)≠v:=by
 have:=NB ⟨v.toNat,by omega⟩ ⟨w,hw⟩
 rw[show((⟨v.toNat,by omega⟩:Fin 256).val:Int)=v by show(v.toNat:Int)=v;omega]at this
 exact this
theorem xI{a:List Int}(ha:dc a){j:Nat}{x:Int}(hx:0<=x/\x<256):dc (a.set j x):=fun i=>by
 rw[List.getD_eq_getElem?_getD,List.getElem?_set]
 split
 ·split
  ·exact hx
  ·show(0:Int)<=0/\(0:Int)<256;decide
 ·rw[<-List.getD_eq_getElem?_getD];exact ha i
theorem J7{a:List Int}{j:Nat}(hj:j<a.length){x:Int}(hx:x≠a.getD j 0):a.set j x≠a:=fun h=>by
 have e:(a.set j x)[j]? = a[j]?:=by rw[h]
 rw[List.getElem?_set_self hj]at e
 rw[List.getD_eq_getElem?_getD,<-e]at hx
 exact hx rfl
end Go.Proofs.YtagpkhindehcbaaGreat
namespace Go.Proofs.YtagpkhindehcbaaGreat
open Go.Xm
variable [ax]
theorem JI{h:Hd}{p:Ph}{l:List Mb}{first:Int}{a b:List Int}(hp:pf h p l first = .inr (a,b)):dc a/\a.length<=30000/\dc b/\b.length<=30000:=by
 unfold pf at hp
 split at hp
 ·cases hp
 ·split at hp
  ·cases hp
  ·rename_i hl
   cases hp
   exact⟨uZ _ (gm _),by omega,uZ _ (gm _),by omega⟩
theorem te{h:Hd}{p:Ph}{first:Int}{n:Nat}{a b:List Int}(hI:lr h p first n a b){L:List Mb}(hL:∀j,j<L.length->Canon (L.getD j default)){a0 b0:List Int}(h0:pf h p L first = .inr (a0,b0))(hne:¬(a=a0/\b=b0)){m:List Mb}(hm:m9 h p first n a b = .inr m):m.length=n/\sZ m L=false/\∀i,i<m.length->jK (m.getD i default):=by
 obtain⟨h1,h2,h3,h4⟩:=Ky hI hm
 refine⟨h2,?_,fun i hi k _=>(vz h1 hi).v k⟩
 cases hs:sZ m L with
 | false=>rfl
 | true=>
   have e:=Mq (L:=m) (O:=L) (fun j hj=>h3 j (by omega)) hL (vX.1 hs)
   rw[e,h4]at h0
   cases h0
   exact absurd ⟨rfl,rfl⟩ hne
theorem J1(l:List Int):RO (cR 5 (il .u8 l)) .u8 l:=⟨fun h=>⟨_,_,_,e9 fun hn=>by
 have h2:(il .u8 l).length=0:=by rw[hn];rfl
 rw[dX]at h2
 omega⟩,inferInstance⟩
theorem zE(l:List Mb):sD (cR 53 (fl mC l)) mC l:=⟨fun h=>⟨_,_,_,e9 (A3 fun hn=>by rw[hn]at h;exact absurd h (Nat.lt_irrefl 0))⟩,inferInstance⟩
theorem xL{i k n n':Nat}{c c':sx}(hne:i≠k){f f':FuncId}{l l':List XV}{HS H1 HS' H1':aj}{v v':XV}{w w':List Nat}:Compat ⟨f,.one (.slice i 0 n c)::l,HS,v,H1,w⟩ ⟨f',.one (.slice k 0 n' c')::l',HS',v',H1',w'⟩:=fun _ h _=>by
 have h1:=(List.cons.inj h).1
 have h2:=XC.slice.inj (XV.one.inj h1)
 exact absurd h2.1 hne
theorem Pb{w:Nat}(h:w<8):w<=IntKind.u8.bits/\xc .u8 (1*2^w):=by
 have:w=0\/w=1\/w=2\/w=3\/w=4\/w=5\/w=6\/w=7:=by omega
 rcases this with rfl|rfl|rfl|rfl|rfl|rfl|rfl|rfl<;>exact⟨by decide,by show _/\_;decide⟩
theorem vK{h:Hd}{p:Ph}(hh:tu h)(hp:qm p){f:Int}(hf:0<=f/\f<=255){l:List Sm}(hl:∀j,j<l.length->kH (l.getD j default)){o0:ak}(ho:sD o0 r6 l){c:XC}(hc:dj c 0 0 l.length)(hn:l.length<=9223372036854775807){at_ bit:Int}(hat:0<=at_/\at_<=65535)(hbit:0<=bit/\bit<=255) :
 bh Tryz.prog 7 [.agg (gK h p f c),.one (.int .u16 at_),.one (.int .u8 bit)] [o0] (.one (.bool true)) [o0]:=by
 have hfo:=ho.flat
 obtain⟨hT,h9⟩:=Di (h:=h) hp hf hl
 have hcan:=Dh h p f l
 obtain⟨G,hG⟩:∃G,four h=G:=⟨_,rfl⟩
 obtain⟨P,hP⟩:∃P,qO p=P:=⟨_,rfl⟩
 obtain⟨F,hF⟩:∃F,fx h f=F:=⟨_,rfl⟩
 obtain⟨L,hL⟩:∃L,gj h p f l=L:=⟨_,rfl⟩
 obtain⟨cap,hcap⟩:∃x,Ij l.length=x:=⟨_,rfl⟩
 obtain⟨opn,hopn⟩:∃x,Gj l.length=x:=⟨_,rfl⟩
 rw[hG,hP,hF,hL]at hT
 rw[hL]at h9 hcan
 have hm:=hT.many
 have hro:sD (.cells (fl mC L) 53 opn false) mC L:=⟨fun _=>⟨_,_,_,rfl⟩,inferInstance⟩
 obtain⟨n,hln⟩:∃n,L.length=n:=⟨_,rfl⟩
 rw[hln]at h9 hm
 refine cO Tryz.func7 ?_
 repeat' (first
  |(refine qz ?_;first
   |refine cl ?_ (hi:=by exact H3 rfl)
   |refine fC ?_ (hle:=by first|rw[s7]|rw[bt])
   |refine cl ?_ (hi:=by exact My hh hp hf hl ho hc hn hG hP hF hL hcap hopn hln rfl nL nA rfl)
   |refine tY (zs:=f_ ⟨0,0,false,fun _=>0,fun _=>0⟩) (hz:=Ap) ?_
   |refine tY (zs:=hU ⟨0,false,false,0⟩) (hz:=D9) ?_
   |refine kr (cs:=f_ G) ?_ (hs1:=by rw[bt]) (hs2:=by rw[bt])
   |refine kr (cs:=hU P) ?_
   |refine cl ?_ (hi:=by exact Jp nL (by simp only[eU,List.cons_append,List.nil_append];exact rfl) rfl))
  |refine zz ?_|refine zx (fun _=>?_) (fun _=>?_)|fail)
 cases hr:pf G P L F with
 | inl e=>
   have he:=MH hr
   repeat' (first
    |(refine qz ?_;first
     |refine cl ?_ (hi:=by exact MK hT hro hr hln rfl rfl (by decide) rfl))
    |refine zz ?_|refine zx (fun _=>?_) (fun _=>?_)|fail)
   show aB _ _ _ _ _ _ _ _;refine kV [0] ?_
   rfl
 | inr ab=>
   obtain⟨a,b⟩:=ab
   have hB:=LD hT hr
   have hna:=hB.na
   have hnb:=hB.nb
   obtain⟨bya,lea,byb,leb⟩:=JI hr
   obtain⟨w,hw⟩:∃w:Nat,bit%8=(w:Nat):=⟨(bit%8).toNat,by omega⟩
   have hw8:w<8:=by omega
   have hw2:=Pb hw8
   have ka:(0:Int)<((a.length:Nat):Int):=by omega
   have ja:0<=at_%(a.length:Int)/\at_%(a.length:Int)<a.length:=⟨Int.emod_nonneg _ (Int.ne_of_gt ka),Int.emod_lt_of_pos at_ ka⟩
   have ia:0<=at_%((0+a.length:Nat):Int)/\at_%((0+a.length:Nat):Int)<a.length:=by rw[Nat.zero_add];exact ja
   have kb:(0:Int)<((b.length:Nat):Int):=by omega
   have jb:0<=at_%(b.length:Int)/\at_%(b.length:Int)<b.length:=⟨Int.emod_nonneg _ (Int.ne_of_gt kb),Int.emod_lt_of_pos at_ kb⟩
   have ib:0<=at_%((0+b.length:Nat):Int)/\at_%((0+b.length:Nat):Int)<b.length:=by rw[Nat.zero_add];exact jb
   obtain⟨x,hx⟩:∃x,a.set (at_%(a.length:Int)).toNat (t5 .u8 (a.getD (at_%(a.length:Int)).toNat 0) (1*2^w))=x:=⟨_,rfl⟩
   obtain⟨y,hy⟩:∃y,b.set (at_%(b.length:Int)).toNat (t5 .u8 (b.getD (at_%(b.length:Int)).toNat 0) (1*2^w))=y:=⟨_,rfl⟩
   have xa:=Cl (bya (at_%(a.length:Int)).toNat) hw8
   have xb:=Cl (byb (at_%(b.length:Int)).toNat) hw8
   have hxl:x.length=a.length:=by rw[<-hx,List.length_set]
   have hyl:y.length=b.length:=by rw[<-hy,List.length_set]
   have hxne:x≠a:=by rw[<-hx];exact J7 (by omega) xa.2.2
   have hyne:y≠b:=by rw[<-hy];exact J7 (by omega) xb.2.2
   have I1:lr G P F n x b:=⟨hT.hd,hT.ph,hT.pos,hm,h9,by rw[<-hln];exact hT.all,by rw[<-hx];exact xI bya ⟨xa.1,xa.2.1⟩,by omega,byb,leb⟩
   have I2:lr G P F n a y:=⟨hT.hd,hT.ph,hT.pos,hm,h9,by rw[<-hln];exact hT.all,bya,lea,by rw[<-hy];exact xI byb ⟨xb.1,xb.2.1⟩,by omega⟩
   have hz:(n:Int)=(n:Nat):=rfl
   have oX:RO (.cells (il .u8 (a.set (at_%(a.length:Int)).toNat (t5 .u8 (a.getD (at_%(a.length:Int)).toNat 0) (1*2^w)))) 5 true false) .u8 x:=by rw[hx];exact RO.of ..
   have oY:RO (.cells (il .u8 (b.set (at_%(b.length:Int)).toNat (t5 .u8 (b.getD (at_%(b.length:Int)).toNat 0) (1*2^w)))) 5 true false) .u8 y:=by rw[hy];exact RO.of ..
   have oA:=J1 a
   have oB:=J1 b
   have sA:y8 (.slice 21 0 (0+a.length) (.toEnd 1)) 21 x.length := .inr ⟨by omega,by rw[hxl,Nat.zero_add]⟩
   have sB:y8 (.slice 23 0 (0+b.length) (.toEnd 1)) 23 y.length := .inr ⟨by omega,by rw[hyl,Nat.zero_add]⟩
   have htL:∀i,i<L.length->jK (L.getD i default):=fun i hi k hk=>(vz hT hi).v k
   repeat' (first
    |(refine qz ?_;first
     |refine cl ?_ (hi:=by exact ES hT hro hr hln rfl rfl (by decide) nL (by simp only[eU,List.cons_append,List.nil_append];exact rfl) rfl)
     |refine Rg (n:=a.length) (r:=a) rfl (uo rfl rfl rfl) (fun h=>absurd h hna) (fun _=>?_)
     |refine Rg (n:=b.length) (r:=b) rfl (uo rfl rfl rfl) (fun h=>absurd h hnb) (fun _=>?_)
     |refine BS (n:=w) ?_ (hn:=by exact hw) (h:=by exact hw2)
     |refine fC ?_ (hle:=by rw[bt]))
    |refine zz ?_|refine zx (fun _=>?_) (fun _=>?_)|fail)
   cases hR1:m9 G P F n x b with
   | inl e1=>
     have ne1:=s_ hR1
     repeat' (first
      |(refine qz ?_;first
       |refine fC ?_ (hle:=by rw[bt])
       |refine cl ?_ (hi:=by exact s8 I1 oX oB sA y8.gJ hR1 hz rfl rfl rfl (by decide) nA rfl))
      |refine zz ?_|refine zx (fun _=>?_) (fun _=>?_)|fail)
     cases hR2:m9 G P F n a y with
     | inl e2=>
       have ne2:=s_ hR2
       repeat' (first
        |(refine qz ?_;first
         |refine cl ?_ (hi:=by exact s8 I2 oA oY y8.gJ sB hR2 hz rfl rfl rfl (by decide) nA rfl))
        |refine zz ?_|refine zx (fun _=>?_) (fun _=>?_)|fail)
       show aB _ _ _ _ _ _ _ _;refine kV [0] ?_
       rfl
     | inr m2=>
       obtain⟨hlen2,hsm2,hty2⟩:=te I2 hcan hr (fun g=>hyne g.2) hR2
       have hob2:=zE m2
       repeat' (first
        |(refine qz ?_;first
         |refine cl ?_ (hi:=by exact s9 I2 oA oY y8.gJ sB hR2 hlen2 (by omega) hz rfl rfl rfl (by decide) nL nA rfl)
         |refine cl ?_ (hi:=by exact r4 hob2 hro hty2 htL (by omega) (by omega) hsm2 hlen2 hln rfl rfl (by decide) rfl))
        |refine zz ?_|refine zx (fun _=>?_) (fun _=>?_)|fail)
       show aB _ _ _ _ _ _ _ _;refine kV [0] ?_
       rfl
   | inr m1=>
     obtain⟨hlen1,hsm1,hty1⟩:=te I1 hcan hr (fun g=>hxne g.1) hR1
     have hob1:=zE m1
     repeat' (first
      |(refine qz ?_;first
       |refine fC ?_ (hle:=by rw[bt])
       |refine cl ?_ (hi:=by exact s9 I1 oX oB sA y8.gJ hR1 hlen1 (by omega) hz rfl rfl rfl (by decide) nL nA rfl))
      |refine zz ?_|refine zx (fun _=>?_) (fun _=>?_)|fail)
     cases hR2:m9 G P F n a y with
     | inl e2=>
       have ne2:=s_ hR2
       repeat' (first
        |(refine qz ?_;first
         |refine cl ?_ (hi:=by exact s8 I2 oA oY y8.gJ sB hR2 hz rfl rfl rfl (by decide) nA rfl)
         |refine cl ?_ (hi:=by exact r4 hob1 hro hty1 htL (by omega) (by omega) hsm1 hlen1 hln rfl rfl (by decide) rfl))
        |refine zz ?_|refine zx (fun _=>?_) (fun _=>?_)|fail)
       show aB _ _ _ _ _ _ _ _;refine kV [0] ?_
       rfl
     | inr m2=>
       obtain⟨hlen2,hsm2,hty2⟩:=te I2 hcan hr (fun g=>hyne g.2) hR2
       have hob2:=zE m2
       repeat' (first
        |(refine qz ?_;first
         |refine cl ?_ (hi:=by exact s9 I2 oA oY y8.gJ sB hR2 hlen2 (by omega) hz rfl rfl rfl (by decide) nL nA rfl)
         |refine cl ?_ (hi:=by exact r4 hob1 hro hty1 htL (by omega) (by omega) hsm1 hlen1 hln rfl rfl (by decide) rfl)
         |refine cl ?_ (hi:=by exact r4 hob2 hro hty2 htL (by omega) (by omega) hsm2 hlen2 hln rfl rfl (by decide) rfl))
        |refine zz ?_|refine zx (fun _=>?_) (fun _=>?_)|refine bj (by first|exact af.nil|exact af.one _|exact af.l7 (by repeat' (first|exact True.intro|refine And.intro ?_ ?_|exact Compat.ne rfl|exact xL (by decide)))) ⟨by kernel_rfl,?_⟩|refine bj (by first|exact af.nil|exact af.one _|exact af.l7 (by repeat' (first|exact True.intro|refine And.intro ?_ ?_|exact Compat.ne rfl|exact xL (by decide)))) ?_|fail)
       show aB _ _ _ _ _ _ _ _;refine kV [0] ?_
       rfl
end Go.Proofs.YtagpkhindehcbaaGreat
namespace Go.Xm
inductive eD where
 | int (k:IntKind)
 | bool
def eD.has:eD->Value->Prop
 | .int k,v=>∃z,v = .int k z/\(Lit.int k z).wf=true
 | .bool,v=>∃b,v = .bool b
def lint:Value->Int
 | .int _ z=>z
 | _=>0
def vj:Value->Bool
 | .bool b=>b
 | _=>false
def eD.cell(l:eD)(v:Value):XC:=match l with
 | .int k => .int k (lint v)
 | .bool => .bool (vj v)
theorem eD.den[ax]{l:eD}{v:Value}(h:l.has v)(β : Env):(l.cell v).den β = v:=by
 cases l with
 | int k=>obtain⟨z,rfl,_⟩:=h;rfl
 | bool=>obtain⟨b,rfl⟩:=h;rfl
def fS(P:Program)(t:TypeId)(ks:List eD):Prop:=
 P.cellsOf t=ks.length/\∀(H:Type) (enc:TypeId×Value->H) (w:World) (base:Nat) (spare:Nat->Bool) (held:Bool) (fuel:Nat) (cs:List Value) (x:DataW H×List MemPlace),
  DataW.trod enc P w base spare held fuel t cs=some x->cs.length=ks.length/\∀(j:Nat) (l:eD),ks[j]? = some l->∃v,cs[j]? = some v/\l.has v
variable {P:Program} {t:TypeId}
theorem fS.int{k:IntKind}(ht:P.underlying t=some (.int k))(hc:P.cellsOf t=1):fS P t [.int k]:=by
 refine⟨hc,fun H enc w base spare held fuel cs x h=>?_⟩
 obtain⟨n,rfl,_,hw⟩:=DataW.trod_int ht h
 refine⟨rfl,fun j l hj=>?_⟩
 match j,hj with
 | 0,hj=>cases hj;exact⟨_,rfl,n,rfl,hw⟩
 | j+1,hj=>simp at hj
theorem fS.bool(ht:P.underlying t=some .bool)(hc:P.cellsOf t=1):fS P t [.bool]:=by
 refine⟨hc,fun H enc w base spare held fuel cs x h=>?_⟩
 obtain⟨b,rfl,_⟩:=DataW.trod_bool ht h
 refine⟨rfl,fun j l hj=>?_⟩
 match j,hj with
 | 0,hj=>cases hj;exact⟨_,rfl,b,rfl⟩
 | j+1,hj=>simp at hj
def jB(ks:List eD):Nat->List eD
 | 0=>[]
 | n+1=>ks++jB ks n
theorem m7(ks:List eD):∀n,(jB ks n).length=n*ks.length
 | 0=>by simp[jB]
 | n+1=>by rw[jB,List.length_append,m7 ks n,Nat.add_mul,Nat.one_mul,Nat.add_comm]
theorem BK{ks:List eD}{l:eD}:∀(n j:Nat),(jB ks n)[j]? = some l->∃i r,i<n/\j=i*ks.length+r/\ks[r]? = some l
 | 0,j,h=>by simp[jB]at h
 | n + 1,j,h=>by
   rw[jB]at h
   by_cases hj:j<ks.length
   ·rw[List.getElem?_append_left hj]at h
    exact⟨0,j,Nat.succ_pos _,by simp,h⟩
   ·rw[List.getElem?_append_right (by omega)]at h
    obtain⟨i,r,hi,hr,hl⟩:=BK n (j-ks.length) h
    exact⟨i+1,r,by omega,by rw[Nat.add_mul,Nat.one_mul];omega,hl⟩
theorem fS.array{n:Nat}{e:TypeId}{ks:List eD}(ht:P.underlying t=some (.array n e))(he:fS P e ks)(hc:P.cellsOf t=n*ks.length):fS P t (jB ks n):=by
 refine⟨by rw[hc,m7],fun H enc w base spare held fuel cs x h=>?_⟩
 obtain⟨xs,m,_,_,hlen,hxl,hx⟩:=DataW.trod_array ht h
 refine⟨by rw[hlen,hc,m7],fun j l hj=>?_⟩
 obtain⟨i,r,hi,rfl,hr⟩:=BK n j hj
 have hxi:xs[i]? = some (xs[i]'(by omega)):=List.getElem?_eq_getElem (by omega)
 obtain⟨hl,hv⟩:=he.2 H enc w base spare held m _ _ ((hx i hi).trans hxi)
 obtain⟨v,hv1,hv2⟩:=hv r l hr
 refine⟨v,?_,hv2⟩
 have hrl:r<ks.length:=(List.getElem?_eq_some_iff.1 hr).1
 rw[he.1,List.getElem?_take_of_lt hrl,List.getElem?_drop]at hv1
 exact hv1
theorem F7{kss:List (List eD)}{l:eD}:∀{j:Nat},kss.flatten[j]? = some l->∃i ks r,kss[i]? = some ks/\j=((kss.take i).flatten).length+r/\ks[r]? = some l:=by
 induction kss with
 | nil=>intro j h;simp at h
 | cons ks kss ih=>
   intro j h
   rw[List.flatten_cons]at h
   by_cases hj:j<ks.length
   ·rw[List.getElem?_append_left hj]at h
    exact⟨0,ks,j,rfl,by simp,h⟩
   ·rw[List.getElem?_append_right (by omega)]at h
    obtain⟨i,ks',r,h1,h2,h3⟩:=ih h
    refine⟨i+1,ks',r,h1,?_,h3⟩
    rw[List.take_succ_cons,List.flatten_cons,List.length_append]
    omega
theorem fS.struct{fs:Array Field}(kss:List (List eD))(ht:P.underlying t=some (.struct fs))(hn:kss.length=fs.size)(hf:∀(i:Nat) (f:Field) (ks:List eD),fs[i]? = some f->kss[i]? = some ks->fS P f.type ks/\f.offset=((kss.take i).flatten).length)(hc:P.cellsOf t=kss.flatten.length):fS P t kss.flatten:=by
 refine⟨hc,fun H enc w base spare held fuel cs x h=>?_⟩
 obtain⟨xs,m,_,_,hlen,hxl,hx⟩:=DataW.trod_struct ht h
 refine⟨by rw[hlen,hc],fun j l hj=>?_⟩
 obtain⟨i,ks,r,h1,rfl,h3⟩:=F7 hj
 have hi:i<fs.size:=by
  have:=(List.getElem?_eq_some_iff.1 h1).1
  omega
 have hfi:fs[i]? = some fs[i]:=Array.getElem?_eq_getElem hi
 obtain⟨hl,ho⟩:=hf i _ ks hfi h1
 have hxi:xs[i]? = some (xs[i]'(by omega)):=List.getElem?_eq_getElem (by omega)
 obtain⟨_,hv⟩:=hl.2 H enc w base spare held m _ _ ((hx i _ hfi).trans hxi)
 obtain⟨v,hv1,hv2⟩:=hv r l h3
 refine⟨v,?_,hv2⟩
 have hrl:r<ks.length:=(List.getElem?_eq_some_iff.1 h3).1
 rw[hl.1,List.getElem?_take_of_lt hrl,List.getElem?_drop,ho]at hv1
 exact hv1
def jG:List eD->(Nat->Value)->Nat->List XC
 | [],_,_=>[]
 | l::ks,g,j=>l.cell (g j)::jG ks g (j+1)
theorem sP:∀(ks:List eD) (g:Nat->Value) (o j:Nat),(jG ks g o)[j]? = (ks[j]?).map fun l=>l.cell (g (o+j))
 | [],g,o,j=>by simp[jG]
 | l::ks,g,o,0=>rfl
 | l::ks,g,o,j+1=>by
   rw[jG,List.getElem?_cons_succ,sP ks g (o+1) j,List.getElem?_cons_succ]
   rw[show o+1+j=o+(j+1) by omega]
theorem Qb(ks:List eD)(g:Nat->Value):∀o,(jG ks g o).length=ks.length:=by
 induction ks with
 | nil=>intro o;rfl
 | cons l ks ih=>intro o;rw[jG,List.length_cons,ih,List.length_cons]
def qS(ks:List eD)(g:Nat->Value)(o:Nat):Prop:=∀(j:Nat) (l:eD),ks[j]? = some l->l.has (g (o+j))
theorem xW[ax]{ks:List eD}{cs:List Value}(hl:cs.length=ks.length)(h:∀(j:Nat) (l:eD),ks[j]? = some l->∃v,cs[j]? = some v/\l.has v)(β : Env):cs=(jG ks (fun j=>cs.getD j .nilIface) 0).map (·.den β)/\qS ks (fun j=>cs.getD j .nilIface) 0:=by
 have hv:∀j l,ks[j]? = some l->l.has (cs.getD j .nilIface)/\cs[j]? = some (cs.getD j .nilIface):=fun j l hj=>by
  obtain⟨v,h1,h2⟩:=h j l hj
  rw[List.getD_eq_getElem?_getD,h1]
  exact⟨h2,rfl⟩
 refine⟨List.ext_getElem? fun j=>?_,fun j l hj=>by rw[Nat.zero_add];exact(hv j l hj).1⟩
 rw[List.getElem?_map,sP,Nat.zero_add]
 by_cases hj:j<ks.length
 ·have hk:ks[j]? = some ks[j]:=List.getElem?_eq_getElem hj
  obtain⟨h1,h2⟩:=hv j _ hk
  rw[hk]
  show cs[j]? = some ((ks[j].cell (cs.getD j .nilIface)).den β)
  rw[eD.den h1,h2]
 ·rw[List.getElem?_eq_none (by omega),List.getElem?_eq_none (by omega)]
  rfl
end Go.Xm
namespace Go.Proofs.YtagpkhindehcbaaGreat
open Go.ChangeShapes Go.WideShapes Go.ChangeAt Go.RowKit Go.Deep Go.Xm
def I0:List eD:=[[eD.bool],jB [.int .u8] 64,jB [.int .u8] 64].flatten
def IZ:List eD:=[[eD.int .i64],[.int .i64],I0].flatten
def OW:List eD:=[[eD.int .i64],[.bool],[.bool],[.int .i64]].flatten
def QQ:List eD:=[jB [eD.int .i8] 4,jB [.int .i8] 4,[.bool]].flatten
def Db:List eD:=[[eD.int .u8],[.int .u8],QQ,[.bool],jB [.int .u64] 6,[.int .u32],[.bool]].flatten
theorem Bm:fS Tryz.prog 5 [.int .u8] := .int Tryz.underlying5 (by kernel_rfl)
theorem QT:fS Tryz.prog 73 [.int .i8] := .int Tryz.underlying73 (by kernel_rfl)
theorem OZ:fS Tryz.prog 77 [.int .u64] := .int Tryz.underlying77 (by kernel_rfl)
theorem OY:fS Tryz.prog 79 [.int .u32] := .int Tryz.underlying79 (by kernel_rfl)
theorem zr:fS Tryz.prog 3 [.int .i64] := .int Tryz.underlying3 (by kernel_rfl)
theorem pO:fS Tryz.prog 4 [.bool] := .bool Tryz.underlying4 (by kernel_rfl)
theorem Jb:fS Tryz.prog 22 (jB [.int .u8] 64) := .array Tryz.underlying22 Bm (by kernel_rfl)
theorem NY:fS Tryz.prog 74 (jB [.int .i8] 4) := .array Tryz.underlying74 QT (by kernel_rfl)
theorem QS:fS Tryz.prog 78 (jB [.int .u64] 6) := .array Tryz.underlying78 OZ (by kernel_rfl)
theorem OX:fS Tryz.prog 24 I0:=by
 refine .struct _ Tryz.underlying24 rfl (fun i f ks hi hk=>?_) (by kernel_rfl)
 match i,hi,hk with
 | 0,hi,hk=>cases hi;cases hk;exact⟨pO,rfl⟩
 | 1,hi,hk=>cases hi;cases hk;exact⟨Jb,rfl⟩
 | 2,hi,hk=>cases hi;cases hk;exact⟨Jb,rfl⟩
 | i+3,hi,hk=>simp at hk
theorem NZ:fS Tryz.prog 26 IZ:=by
 refine .struct _ Tryz.underlying26 rfl (fun i f ks hi hk=>?_) (by kernel_rfl)
 match i,hi,hk with
 | 0,hi,hk=>cases hi;cases hk;exact⟨zr,rfl⟩
 | 1,hi,hk=>cases hi;cases hk;exact⟨zr,rfl⟩
 | 2,hi,hk=>cases hi;cases hk;exact⟨OX,rfl⟩
 | i+3,hi,hk=>simp at hk
theorem N2:fS Tryz.prog 28 OW:=by
 refine .struct _ Tryz.underlying28 rfl (fun i f ks hi hk=>?_) (by kernel_rfl)
 match i,hi,hk with
 | 0,hi,hk=>cases hi;cases hk;exact⟨zr,rfl⟩
 | 1,hi,hk=>cases hi;cases hk;exact⟨pO,rfl⟩
 | 2,hi,hk=>cases hi;cases hk;exact⟨pO,rfl⟩
 | 3,hi,hk=>cases hi;cases hk;exact⟨zr,rfl⟩
 | i+4,hi,hk=>simp at hk
theorem QU:fS Tryz.prog 76 QQ:=by
 refine .struct _ Tryz.underlying76 rfl (fun i f ks hi hk=>?_) (by kernel_rfl)
 match i,hi,hk with
 | 0,hi,hk=>cases hi;cases hk;exact⟨NY,rfl⟩
 | 1,hi,hk=>cases hi;cases hk;exact⟨NY,rfl⟩
 | 2,hi,hk=>cases hi;cases hk;exact⟨pO,rfl⟩
 | i+3,hi,hk=>simp at hk
theorem N3:fS Tryz.prog 81 Db:=by
 refine .struct _ Tryz.underlying81 rfl (fun i f ks hi hk=>?_) (by kernel_rfl)
 match i,hi,hk with
 | 0,hi,hk=>cases hi;cases hk;exact⟨Bm,rfl⟩
 | 1,hi,hk=>cases hi;cases hk;exact⟨Bm,rfl⟩
 | 2,hi,hk=>cases hi;cases hk;exact⟨QU,rfl⟩
 | 3,hi,hk=>cases hi;cases hk;exact⟨pO,rfl⟩
 | 4,hi,hk=>cases hi;cases hk;exact⟨QS,rfl⟩
 | 5,hi,hk=>cases hi;cases hk;exact⟨OY,rfl⟩
 | 6,hi,hk=>cases hi;cases hk;exact⟨pO,rfl⟩
 | i+7,hi,hk=>simp at hk
theorem Bi(a b:List eD)(g:Nat->Value):∀o,jG (a++b) g o=jG a g o++jG b g (o+a.length):=by
 induction a with
 | nil=>intro o;rfl
 | cons l a ih=>
   intro o
   rw[List.cons_append,jG,ih,jG,List.cons_append,List.length_cons]
   rw[show o+1+a.length=o+(a.length+1) by omega]
theorem xX(k:IntKind)(g:Nat->Value):∀n o,jG (jB [.int k] n) g o=ti k n fun i=>lint (g (o+i)):=by
 intro n
 induction n with
 | zero=>intro o;rfl
 | succ n ih=>
   intro o
   rw[jB,Bi,ih]
   unfold ti
   rw[List.range_succ_eq_map,List.map_cons,List.map_map]
   show _::_=_::_
   congr 1
   refine List.map_congr_left fun i _=>?_
   show XC.int k (lint (g (o+1+i)))=XC.int k (lint (g (o+(i+1))))
   rw[show o+1+i=o+(i+1) by omega]
def IS(g:Nat->Value):Hd:=⟨lint (g 0),lint (g 1),vj (g 2),fun i=>lint (g (3+i)),fun i=>lint (g (67+i))⟩
def Jy(g:Nat->Value):Ph:=⟨lint (g 0),vj (g 1),vj (g 2),lint (g 3)⟩
def Nc(g:Nat->Value):Sm:=⟨lint (g 0),lint (g 1),⟨fun i=>lint (g (2+i)),fun i=>lint (g (6+i)),vj (g 10)⟩,vj (g 11),fun i=>lint (g (12+i)),lint (g 18),vj (g 19)⟩
theorem zp:IZ = [eD.int .i64,.int .i64,.bool]++(jB [.int .u8] 64++jB [.int .u8] 64):=by
 simp only[IZ,I0,List.flatten_cons,List.flatten_nil,List.append_nil,List.cons_append,List.nil_append]
theorem I3(g:Nat->Value):jG IZ g 0=f_ (IS g):=by
 rw[zp]
 simp only[List.cons_append,List.nil_append,jG]
 rw[Bi,xX,xX,m7]
 rfl
theorem I4(g:Nat->Value):jG OW g 0=hU (Jy g):=rfl
theorem I5(g:Nat->Value):jG Db g 0=r6 (Nc g):=rfl
theorem I6{k:IntKind}{v:Value}(h:(eD.int k).has v):(Lit.int k (lint v)).wf=true:=by
 obtain⟨z,rfl,hz⟩:=h
 exact hz
theorem vT(l:eD):∀n,jB [l] n=List.replicate n l
 | 0=>rfl
 | n+1=>by rw[jB,vT l n,List.replicate_succ];rfl
theorem E0(l:eD){n i:Nat}(h:i<n)(r:List eD):(jB [l] n++r)[i]? = some l:=by
 rw[List.getElem?_append_left (by rw[vT,List.length_replicate];exact h),vT,List.getElem?_replicate,if_pos h]
theorem ok_int{ks:List eD}{g:Nat->Value}(h:qS ks g 0){j:Nat}{k:IntKind}(hj:ks[j]? = some (.int k)):(Lit.int k (lint (g j))).wf=true:=by
 have:=I6 (h j _ hj)
 rwa [Nat.zero_add]at this
theorem OP{g:Nat->Value}(h:qS IZ g 0):tu (IS g):=by
 refine⟨bounds_i64 (ok_int h rfl),bounds_i64 (ok_int h rfl),fun i h64=>⟨bounds_u8 (ok_int h ?_),bounds_u8 (ok_int h ?_)⟩⟩
 ·rw[Nat.add_comm]
  rw[zp]
  show(jB [eD.int .u8] 64++jB [.int .u8] 64)[i]? = _
  exact E0 _ h64 _
 ·rw[show 67+i=(64+i)+3 by omega]
  rw[zp]
  show(jB [eD.int .u8] 64++jB [.int .u8] 64)[64+i]? = _
  rw[List.getElem?_append_right (by rw[m7];simp),m7]
  simp only[List.length_cons,List.length_nil,Nat.zero_add,Nat.mul_one,Nat.add_sub_cancel_left]
  rw[<-List.append_nil (jB _ 64)]
  exact E0 _ h64 _
theorem Pa{g:Nat->Value}(h:qS OW g 0):qm (Jy g):=⟨bounds_i64 (ok_int h rfl),bounds_i64 (ok_int h rfl)⟩
theorem PF{g:Nat->Value}(h:qS Db g 0):kH (Nc g):=by
 have i8:∀{j},Db[j]? = some (.int .i8) -> -128<=lint (g j)/\lint (g j)<128:=fun {j} hj=>by
  have:=bounds_i8 (ok_int h hj)
  omega
 have u64:∀{j},Db[j]? = some (.int .u64)->0<=lint (g j)/\lint (g j)<18446744073709551616:=fun {j} hj=>by
  have:=bounds_u64 (ok_int h hj)
  omega
 refine⟨bounds_u8 (ok_int h rfl),bounds_u8 (ok_int h rfl),⟨fun k hk=>?_,fun k hk=>?_⟩,fun k hk=>?_,?_⟩
 ·match k,hk with
  | 0,_=>exact i8 rfl
  | 1,_=>exact i8 rfl
  | 2,_=>exact i8 rfl
  | 3,_=>exact i8 rfl
 ·match k,hk with
  | 0,_=>exact i8 rfl
  | 1,_=>exact i8 rfl
  | 2,_=>exact i8 rfl
  | 3,_=>exact i8 rfl
 ·match k,hk with
  | 0,_=>exact u64 rfl
  | 1,_=>exact u64 rfl
  | 2,_=>exact u64 rfl
  | 3,_=>exact u64 rfl
  | 4,_=>exact u64 rfl
  | 5,_=>exact u64 rfl
 ·have:=bounds_u32 (ok_int h (j:=18) rfl)
  show 0<=lint (g 18)/\lint (g 18)<4294967296
  omega
variable [ax]
section
variable {H:Type} {enc:TypeId×Value->H} {w:World} {base:Nat} {spare:Nat->Bool} {held:Bool}
set_option maxRecDepth 100000 in
theorem PG{v:Value}{b0:Nat}{r:Reach}{t:TypeId}(ht:Tryz.prog.underlying t=some (.slice 81))(hcell:Cell.okWide Tryz.prog w r b0 t v){fuel:Nat}{x:DataW H×List MemPlace}(hf:DataW.trod enc Tryz.prog w base spare held fuel t [v]=some x) :
 ∃l:List Sm,(∀j,j<l.length->kH (l.getD j default))/\l.length<=9223372036854775807/\rp w v (fl r6 l) l.length:=by
 rcases open_slice ht hf with⟨hcs,_⟩|⟨a,len,cap,m,n,D,Pl,hcs,_,hlc,hcm,hm,_,hall⟩
 ·simp only[List.cons.injEq,and_true]at hcs
  exact⟨[],fun j hj=>absurd hj (Nat.not_lt_zero _),Nat.zero_le _,.inl ⟨hcs,rfl,rfl⟩⟩
 ·simp only [List.cons.injEq,and_true]at hcs
  subst hcs
  have hspot:=v8 ht hcell
  have hlm:len<=m:=by rw[hm];split<;>omega
  have hC:Tryz.prog.cellsOf 81=20:=N3.1
  let g:Nat->Nat->Value:=fun i j=>(w.cell? ⟨a.block,a.off+(i*20+j),none⟩).getD .nilIface
  have hg:∀i,i<len->qS Db (g i) 0/\∀j,j<20->w.cell? ⟨a.block,a.off+(i*20+j),none⟩=some (g i j):=fun i hi=>by
   obtain⟨cs',hc,ht'⟩:=hall i (by omega)
   rw[hC]at hc
   obtain⟨_,hcl,hat⟩:=World.cells?_some hc
   have hat':∀j,j<20->w.cell? ⟨a.block,a.off+(i*20+j),none⟩=cs'[j]?:=fun j hj=>by
    rw[<-hat j hj,Go.Deep.add_add,xC hspot]
   have hgj:∀j,j<20->g i j=cs'.getD j .nilIface:=fun j hj=>by
    show(w.cell? _).getD _=_
    rw[hat' j hj,List.getD_eq_getElem?_getD]
   obtain⟨hl,hv⟩:=N3.2 H enc w base spare held n cs' _ ht'
   have hl20:cs'.length=20:=hl
   refine⟨fun j l hj=>?_,fun j hj=>?_⟩
   ·have hj20:j<20:=(List.getElem?_eq_some_iff.1 hj).1
    obtain⟨v,h1,h2⟩:=hv j l hj
    rw[Nat.zero_add,hgj j hj20,List.getD_eq_getElem?_getD,h1]
    exact h2
   ·rw[hat' j hj,hgj j hj,List.getD_eq_getElem?_getD,List.getElem?_eq_getElem (by omega)]
    rfl
  refine⟨(List.range len).map fun i=>Nc (g i),fun j hj=>?_,?_,.inr ⟨a.block,a.off,cap,by simpa using hlc,?_,fun j c hj β=>?_⟩⟩
  ·rw[List.length_map,List.length_range]at hj
   rw[List.getD_eq_getElem?_getD,List.getElem?_map,List.getElem?_range hj]
   exact PF (hg j hj).1
  ·unfold maxLen at hcm
   rw[List.length_map,List.length_range]
   omega
  ·rw[List.length_map,List.length_range]
   obtain⟨b,o,s⟩:=a
   simp only at hspot
   subst hspot
   rfl
  ·have hj':=hj
   unfold fl at hj
   rw[A4 r6 20 (by decide) _ (fun _ _=>rfl)]at hj
   have hlt:j/20<len:=by
    rw[List.getElem?_map]at hj
    by_cases h:j/20<len
    ·exact h
    ·rw[List.getElem?_eq_none (by rw[List.length_range];omega)]at hj
     cases hj
   rw[List.getElem?_map,List.getElem?_range hlt]at hj
   have hj2:(r6 (Nc (g (j/20))))[j%20]? = some c:=hj
   have hr:j%20<20:=Nat.mod_lt _ (by decide)
   rw[<-I5,sP,Nat.zero_add]at hj2
   obtain⟨h1,h2⟩:=hg (j/20) hlt
   have h3:=h2 (j%20) hr
   rw[show j/20*20+j%20=j by omega]at h3
   rw[h3]
   cases hk:Db[j%20]? with
   | none=>rw[hk]at hj2;cases hj2
   | some l=>
     rw[hk]at hj2
     cases hj2
     have:=h1 (j%20) l hk
     rw[Nat.zero_add]at this
     rw[eD.den this]
theorem vk{t:TypeId}{ks:List eD}(hl:fS Tryz.prog t ks){fuel:Nat}{cs:List Value}{x:Option (DataW H×List MemPlace)}{y:DataW H×List MemPlace}(h:DataW.trod enc Tryz.prog w base spare held fuel t cs=x)(hx:x=some y):∃g,qS ks g 0/\∀β : Env,cs=(jG ks g 0).map (·.den β):=by
 obtain⟨h1,h2⟩:=hl.2 H enc w base spare held fuel cs y (h.trans hx)
 exact⟨_,(xW h1 h2 Env.zero).2,fun β=>(xW h1 h2 β).1⟩
set_option maxRecDepth 100000 in
theorem Km{v:Value}{b0:Nat}{r:Reach}(hval:Value.okWide Tryz.prog w r b0 31 v){fuel:Nat}{x:DataW H×List MemPlace}(hf:DataW.trod enc Tryz.prog w base spare held fuel 31 v.cells.toList=some x) :
 ∃ (h:Hd) (p:Ph) (f:Int) (l:List Sm) (vm:Value),tu h/\qm p/\(0<=f/\f<=255)/\(∀j,j<l.length->kH (l.getD j default))/\l.length<=9223372036854775807/\rp w vm (fl r6 l) l.length /\
   ∀(β : Env) (c:XC),c.den β = vm->v = .agg ((gK h p f c).map (·.den β)).toArray:=by
 unfold Value.okWide at hval
 rw[Tryz.underlying31]at hval
 obtain⟨cs,rfl,hsz,ts,hts,_,hcell⟩:=hval
 have hts2:(Tryz.prog.cellTypes Tryz.prog.depth 31).map (fun ts=>(ts.length,ts[136]?))=some (137,some 29):=by kernel_rfl
 rw[hts]at hts2
 simp only[Option.map_some,Option.some.injEq,Prod.mk.injEq]at hts2
 obtain⟨hl137,h136⟩:=hts2
 obtain⟨xs,n,_,_,hlen,hxl,hx⟩:=DataW.trod_struct Tryz.underlying31 hf
 have hC:Tryz.prog.cellsOf 31=137:=by kernel_rfl
 have hcl:cs.toList.length=137:=by
  have:cs.size=Tryz.prog.cellsOf 31:=hsz
  rw[hC]at this
  simpa using this
 have hx4:xs.length=4:=hxl
 have hget:∀i,i<4->∃y,xs[i]? = some y:=fun i hi=>⟨_,List.getElem?_eq_getElem (by omega)⟩
 obtain⟨y0,e0⟩:=hget 0 (by decide)
 obtain⟨y1,e1⟩:=hget 1 (by decide)
 obtain⟨y2,e2⟩:=hget 2 (by decide)
 obtain⟨y3,e3⟩:=hget 3 (by decide)
 have x0:=hx 0 _ rfl
 have x1:=hx 1 _ rfl
 have x2:=hx 2 _ rfl
 have x3:=hx 3 _ rfl
 obtain⟨g0,ok0,d0⟩:=vk NZ x0 e0
 obtain⟨g1,ok1,d1⟩:=vk N2 x1 e1
 obtain⟨g2,ok2,d2⟩:=vk Bm x2 e2
 obtain⟨vm,hvm⟩:∃vm,cs.toList[136]? = some vm:=⟨_,List.getElem?_eq_getElem (by omega)⟩
 have hlast:cs.toList.drop 136 = [vm]:=by
  have h136:136<cs.toList.length:=by omega
  rw[List.getElem?_eq_getElem h136]at hvm
  rw[List.drop_eq_getElem_cons h136,Option.some.inj hvm,List.drop_of_length_le (by omega)]
 have hcell3:Cell.okWide Tryz.prog w r b0 29 vm:=by
  obtain⟨u,hu,hok⟩:=hcell 136 vm (by rw[<-Array.getElem?_toList];exact hvm)
  rw[hl137,show 136%137=136 from rfl,h136]at hu
  cases hu
  exact hok
 have x3':DataW.trod enc Tryz.prog w base spare held n 29 [vm]=some y3:=by
  rw[<-e3,<-x3]
  show _=DataW.trod enc Tryz.prog w base spare held n 29 ((cs.toList.drop 136).take (Tryz.prog.cellsOf 29))
  rw[hlast,show Tryz.prog.cellsOf 29=1 by kernel_rfl]
  rfl
 obtain⟨l,hl1,hl2,hl3⟩:=PG Tryz.underlying29 hcell3 x3'
 refine⟨IS g0,Jy g1,lint (g2 0),l,vm,OP ok0,Pa ok1,bounds_u8 (ok_int ok2 (j:=0) rfl),hl1,hl2,hl3,fun β c hc=>?_⟩
 have f0:cs.toList.take 131=(f_ (IS g0)).map (·.den β):=by
  rw[<-I3,<-d0 β]
  show _=(cs.toList.drop 0).take (Tryz.prog.cellsOf 26)
  rw[NZ.1];rfl
 have f1:(cs.toList.drop 131).take 4=(hU (Jy g1)).map (·.den β):=by
  rw[<-I4,<-d1 β]
  show _=(cs.toList.drop 131).take (Tryz.prog.cellsOf 28)
  rw[N2.1];rfl
 have f2:(cs.toList.drop 135).take 1 = [(XC.int .u8 (lint (g2 0))).den β]:=by
  have:=d2 β
  have e:(cs.toList.drop 135).take (Tryz.prog.cellsOf 5) = [(XC.int .u8 (lint (g2 0))).den β]:=this
  rw[Bm.1]at e
  exact e
 have h1:cs.toList=cs.toList.take 131++((cs.toList.drop 131).take 4++((cs.toList.drop 135).take 1++cs.toList.drop 136)):=by
  have a1:=(List.take_append_drop 131 cs.toList).symm
  have a2:=(List.take_append_drop 4 (cs.toList.drop 131)).symm
  have a3:=(List.take_append_drop 1 (cs.toList.drop 135)).symm
  rw[List.drop_drop]at a2 a3
  rw[<-a3,<-a2,<-a1]
 have h2:cs.toList=(gK (IS g0) (Jy g1) (lint (g2 0)) c).map (·.den β):=by
  rw[h1,f0,f1,f2,hlast]
  unfold gK
  rw[List.map_append,List.map_append,<-hc]
  rfl
 rw[<-h2]
end
end Go.Proofs.YtagpkhindehcbaaGreat
namespace Go.Proofs.YtagpkhindehcbaaGreat.partTurned
open Go.ChangeShapes Go.WideShapes Go.ChangeAt Go.RowKit Go.Xm
theorem own:ownKnob Tryz.prog.godebug=none:=by kernel_rfl
theorem laidOut:laidOutB Tryz.prog=true:=by kernel_rfl
theorem walk[ax]{W:World}{v:Value}{h:Hd}{p:Ph}{f:Int}{l:List Sm}{vm:Value}(hh:tu h)(hp:qm p)(hf:0<=f/\f<=255)(hl:∀j,j<l.length->kH (l.getD j default))(hn:l.length<=9223372036854775807)(hm:rp W vm (fl r6 l) l.length)(hv:∀(β : Env) (c:XC),c.den β = vm->v = .agg ((gK h p f c).map (·.den β)).toArray){at_ bit:Int}(hat:0<=at_/\at_<=65535)(hbit:0<=bit/\bit<=255) :
 Calls Tryz.prog 7 #[v,.int .u16 at_,.int .u8 bit] W fun e w'=>e = .returned (.bool true)/\Below W.heap.size W w':=by
 obtain⟨c0,o0,b0,lo0,sz0,a1,a2,a3,a4,a5,a6,a7⟩:=O5 (zm (enc:=r6) l) Me 0 hm
 have hc:=vK hh hp hf hl (sD.in a3 a4) a2 hn hat hbit
 let β : Env:=⟨fun _=>b0,fun _=>lo0,fun _=>sz0⟩
 have r0:aO β 1 (.one c0) vm:=a7 β 1 (by omega) rfl rfl
 refine Iq hc (β := β) (Nat.le_of_ble_eq_true rfl) (fun i o ho=>?_) (fun o ho=>?_) (vs:=[v,.int .u16 at_,.int .u8 bit]) ?_
 ·match i,ho with
  | 0,ho=>cases ho;exact a6 _ _
  | i+1,ho=>simp at ho
 ·simp only[List.mem_cons,List.not_mem_nil,or_false]at ho
  rcases ho with rfl
  exact a5
 ·exact .cons ⟨BU h p f r0.1,hv β c0 r0.2.symm⟩ (.cons ⟨trivial,rfl⟩ (.cons ⟨trivial,rfl⟩ .nil))
def R4:Value := .agg (#[.int .i64 0,.int .i64 0,.bool false]++Array.replicate 128 (.int .u8 0) ++ #[.int .i64 0,.bool false,.bool false,.int .i64 0,.int .u8 0,.slice none 0 0])
set_option maxRecDepth 100000 in
theorem lifted(os:Os)(started:os.Started)(H:Type)(enc:TypeId×Value->H) :
 ReturnsInHanded {} Tryz.checked os 7 .any (Rows.partTurnedSpec.pre6 enc Tryz.prog Tryz.f7 Rows.partTurnedRow.domain false) (Rows.partTurnedSpec.post enc Tryz.prog Tryz.f7 false true false false):=by
 letI:ax:=⟨fun _ => .u8,fun _=>0⟩
 refine returnsInHanded_of_change (C:=Tryz.checked) own started (by kernel_rfl) Tryz.func7
  (ChangeSpec.witness6 (enc:=enc) (C:=Tryz.checked) false ⟨#[],#[R4,.int .u16 0,.int .u8 0],[]⟩ 8 (by kernel_rfl) (by kernel_rfl) (by kernel_rfl) (by kernel_rfl)) ?_
 intro W base args ds gs before hval0 hW hcnd _
 have hval:∀(j:Nat) t v,Tryz.f7.params[j]? = some t->args[j]? = some v->Value.okWide Tryz.prog W .any base t v:=hval0
 have hW':=hW
 obtain⟨p,q,hA0,hV,rfl,hfz,hnd⟩:=hW
 have hA:DataW.TrodAll enc Tryz.prog W 0 (fun _=>true) true Tryz.f7.params.toList args.toList ds p:=hA0
 rw[Tryz.params7]at hA hval
 obtain⟨v0,vs0,d0,ds0,p0,q0,hargs,rfl,rfl,h0,r0⟩:=trodAll_cons hA
 obtain⟨v1,vs1,d1,ds1,p1,q1,rfl,rfl,rfl,h1,r1⟩:=trodAll_cons r0
 obtain⟨v2,vs2,d2,ds2,p2,q2,rfl,rfl,rfl,h2,r2⟩:=trodAll_cons r1
 obtain⟨rfl,rfl,rfl⟩:=trodAll_nil r2
 obtain rfl:args = #[v0,v1,v2]:=by cases args;simp_all
 obtain⟨rfl,rfl⟩:=trodVars_none hV
 have k0:=h0
 have lt0:∀x∈p0,x.block<W.heap.size:=by obtain⟨m,hm⟩:=k0;exact DataW.trod_lt m _ _ _ hm
 obtain⟨m0,t0'⟩:=h0
 obtain⟨h,p',f,l,vm,a1,a2,a3,a4,a5,a6,a7⟩:=Km (hval 0 _ v0 rfl rfl) t0'
 obtain⟨at_,rfl,rfl,rfl,w1⟩:=open_int Tryz.underlying62 (hval 1 62 v1 rfl rfl) h1
 obtain⟨bit,rfl,rfl,rfl,w2⟩:=open_int Tryz.underlying5 (hval 2 5 v2 rfl rfl) h2
 have hat:=bounds_u16 w1
 have hbit:=bounds_u8 w2
 refine(walk a1 a2 a3 a4 a5 a6 a7 hat hbit).mono fun e W' ⟨he,bel⟩=>?_
 subst he
 exact⟨_,rfl,_,_,_,[],_,[],hW',trodAll_mk1 (shut_bool Tryz.underlying4 _),(trodAll_cons_mk (Below.trod laidOut (by kernel_rfl) (of_decide_eq_true (by kernel_rfl)) k0 bel lt0) (trodAll_cons_mk (shut_int Tryz.underlying62 w1) (trodAll_cons_mk (shut_int Tryz.underlying5 w2) trodAll_mk0))),rfl,bel.frame _,fun h=>by cases h⟩
theorem RU:Rows.partTurnedRow.holds Tryz.pinned (OpenSpec.ofChange Rows.partTurnedSpec):=
 OpenClaim.holds_of_wide 7 Tryz.f7 rfl rfl rfl rfl rfl rfl rfl ⟨rfl,rfl,rfl,rfl,rfl⟩ rfl rfl rfl rfl rfl (by kernel_rfl) Tryz.func7 (by kernel_rfl)
  (of_decide_eq_true (by kernel_rfl)) (by unfold Func.isWrapper;first|(rw[if_pos (by decide +kernel)];kernel_rfl)|(rw[if_neg (by decide +kernel)];exact⟨rfl,rfl⟩))
  (fun os started H enc _=>lifted os started H enc)
theorem proved:Rows.PartTurnedSaid:=RU
end Go.Proofs.YtagpkhindehcbaaGreat.partTurned
