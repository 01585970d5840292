/-
  'Rows.PartAnySaid': for all its arguments the law returns true, and each argument reads behind the call as it read before.
-/
import Derived.Test.YtagpkhindehcbaaGreatKfF
import Derived.Test.YtagpkhindehcbaaGreatKfG
import Derived.Test.YtagpkhindehcbaaGreatKfY
import Derived.Test.YtagpkhindehcbaaGreatKfZ
import Derived.OpenShut
import Derived.Test.YtagpkhindehcbaaGreatRows
set_option maxRecDepth 10000
set_option maxHeartbeats 8000000
set_option linter.unusedVariables false
set_option linter.unusedSectionVars false
set_option linter.unusedSimpArgs false
namespace Go.Proofs.YtagpkhindehcbaaGreat
open Go.Xm
variable [ax]
theorem Mt{l:List Mb}{first:Int}{x0:PS}:∀k e,gd l first x0 k = .inl e->e≠0:=by
 intro k
 induction k with
 | zero=>intro e h;cases h
 | succ k ih=>
   intro e h
   rw[gd]at h
   split at h
   ·rename_i e' he
    cases h
    exact ih _ he
   ·unfold kh at h
    split at h
    ·rename_i hc
     cases h
     exact hc
    ·split at h
     ·cases h;decide
     ·cases h
theorem Ms{h:Hd}{p:Ph}{l:List Mb}{first e:Int}(hp:qf h p l first = .inl e):e≠0:=by
 unfold qf at hp
 split at hp
 ·rename_i e' he
  cases hp
  exact Mt _ _ he
 ·split at hp
  ·cases hp;decide
  ·cases hp
structure N6(h:Hd)(p:Ph)(l:List Mb)(ft:Int)(a b:List Int):Prop where
 na:a.length≠0
 nb:b.length≠0
 out:∀n,1<=n->n<=l.length->∃q B t y,lT h p a q B ft n/\fI B ft n ⟨dQ h p,(0,false),[]⟩=t/\gd l ft (qT h p) n = .inr y/\Cs l ft (qT h p) n y t/\ky B t.r=if n<l.length then 13 else 0
theorem Ir{l:List Int}(hl:bQ l)(h:l.length≠0):(gS l l.length).1.length≠0:=fun e=>by
 have h1:=AL hl
 rw[List.length_eq_zero_iff.1 e]at h1
 have h2:some ([]:List Int)=some l:=h1
 cases h2
 exact h rfl
theorem uS:∀(l:List Int) (z:Int),(∀b∈l,0<=b/\b<256)->∀b∈nG z l,0<=b/\b<256
 | [],z,_=>fun b hb=>by cases hb
 | x :: t,z,h=>fun b hb=>by
   have hx:=h x (List.mem_cons_self ..)
   have ht:∀b∈t,0<=b/\b<256:=fun b hb=>h b (List.mem_cons_of_mem _ hb)
   rw[nG]at hb
   split at hb
   ·rcases List.mem_cons.1 hb with rfl|hb
    ·omega
    ·rcases List.mem_cons.1 hb with rfl|hb
     ·exact hx
     ·exact uS t _ ht b hb
   ·rcases List.mem_cons.1 hb with rfl|hb
    ·exact hx
    ·exact uS t _ ht b hb
theorem uU(l:List Int)(hl:bQ l):bQ (gS l l.length).1:=fun i=>by
 rw[uR]
 refine iy (p:=fun z=>0<=z/\z<256) (uS l 0 fun b hb=>?_) (by decide) i
 obtain⟨j,hj,rfl⟩:=List.mem_iff_getElem.1 hb
 have:=hl j
 rw[List.getD_eq_getElem?_getD,List.getElem?_eq_getElem hj]at this
 exact this
theorem Ed{h:Hd}{p:Ph}{l:List Mb}{first:Int}(hT:gp h p l first){a b:List Int}(hp:qf h p l first = .inr (a,b)):N6 h p l first a b:=by
 unfold qf at hp
 split at hp
 ·cases hp
 ·rename_i x hx
  split at hp
  ·cases hp
  ·rename_i hl
   cases hp
   have hi:=vH hT l.length (Nat.le_refl _) x hx
   have h16:=hT.few
   have hB:=hi.len
   have hw1:(wr (x.B++[true])).length≠0:=by rw[fQ,List.length_append,List.length_cons,List.length_nil];omega
   have hw2:(wr (x.w++[true])).length≠0:=by rw[fQ,List.length_append,List.length_cons,List.length_nil];omega
   refine⟨Ir (gl _) hw1,Ir (gl _) hw2,fun n hn1 hn=>?_⟩
   obtain⟨t,y,h1,h2,h3,h4⟩:=GP hT hx hn
   refine⟨wr (x.B++[true]),x.B,t,y,⟨hT.hd,hT.ph,uU _ (gl _),by omega,AL (gl _),ML _,by rw[fQ,List.length_append];simp;omega,Lp _ (by omega),hT.pos,hn1,by have:=hT.all;omega⟩,h1,h2,h3,h4⟩
theorem C8{h:Hd}{p:Ph}(hp:qi p){f:Int}(hf:0<=f/\f<=255){l:List Sm}(hl:∀j,j<l.length->kE (l.getD j default)):gp (four h) (qL p) (jP h p f l) (fz h f)/\(jP h p f l).length<=9:=by
 obtain⟨ho,c1,c2,c3,c4⟩:=En h
 have hcr:=jg ho.dims
 have hpo:=Ek hp
 have hF:0<=fz h f/\fz h f<(four h).cols*(four h).rows:=by
  unfold fz
  exact⟨Int.emod_nonneg _ (by omega),Int.emod_lt_of_pos _ (by omega)⟩
 have hm:=I6 hl (qL p).inter hpo.qp (room:=(four h).cols*(four h).rows-fz h f) (by omega)
 obtain⟨m1,m2,m3,m4⟩:=hm
 obtain⟨L,hL⟩:∃L,jP h p f l=L:=⟨_,rfl⟩
 have hL2:ou l (qL p).inter (qL p).qp ((four h).cols*(four h).rows-fz h f)=L:=hL
 rw[hL2]at m1 m2 m3 m4
 rw[hL]
 refine⟨⟨ho,hpo,fun m hmm=>?_,hF.1,m2,by omega,by omega⟩,m3⟩
 obtain⟨j,hj,rfl⟩:=List.mem_iff_getElem.1 hmm
 have:=m1.mok j hj
 rw[List.getD_eq_getElem?_getD,List.getElem?_eq_getElem hj,Option.getD_some]at this
 exact this
def rh(c:XC)(i n:Nat):Prop:=cY c i 0 n\/(n≠0/\c = .slice i 0 n (.toEnd 1))
theorem rh.fD{i n:Nat}:rh (fD i n 1) i n:=by
 by_cases h:n=0
 ·exact .inl (.inl ⟨h,.inl (if_pos h)⟩)
 ·exact .inr ⟨h,if_neg h⟩
theorem rh.back{c:XC}{i n:Nat}(h:rh c i n)(j:Nat)(τ : Nat->Nat)(ht : τ j=i):∃c0,rh c0 j n/\c0.ay τ = c/\∀m,j<m->c0.ok m:=by
 rcases h with h|⟨h0,rfl⟩
 ·obtain⟨c0,h1,h2⟩:=h.oP j τ ht
  exact⟨c0,.inl h1,h2,fun m hm=>h1.ok hm⟩
 ·exact⟨.slice j 0 n (.toEnd 1),.inr ⟨h0,rfl⟩,by simp only[XC.ay,ht],fun m hm=>hm⟩
theorem vX{obA obB:ak}{cA cB:XC}{h:Hd}{p:Ph}{first:Int}{n:Nat}{a b:List Int}(hI:mj h p first n a b)(hoA:RO obA .u8 a)(hcA:rh cA 13 a.length)(hoB:RO obB .u8 b)(hcB:rh cB 14 b.length){R:Int ⊕ List Mb}(hR:qv h p first n a b=R) :
 bh Tryz.prog 17 [.one (.ptr 0 0),.agg (f6 h),.agg (gV p),.one (.int .i64 first),.one (.int .i64 (n:Nat)),.one cA,.one cB] (dU++[obA,obB]) (BR 15 R) (dU++[obA,obB,jB R]):=by
 have hB:∀{cA},cY cA 13 0 a.length->bh Tryz.prog 17 [.one (.ptr 0 0),.agg (f6 h),.agg (gV p),.one (.int .i64 first),.one (.int .i64 (n:Nat)),.one cA,.one cB] (dU++[obA,obB]) (BR 15 R) (dU++[obA,obB,jB R]):=fun {cA} hA=>by
  rcases hcB with hcB|⟨h0,rfl⟩
  ·exact yk hI hoA hA hoB hcB hR
  ·obtain⟨e,opn,ro,ho⟩:=hoB.get (by omega)
   exact sF [.one (.ptr 0 0),.agg (f6 h),.agg (gV p),.one (.int .i64 first),.one (.int .i64 (n:Nat)),.one cA] [] (i:=14) (off:=0) (n:=b.length) (s:=1) (by decide) (vs:=il .u8 b) (e:=e) (opn:=opn) (ro:=ro) (by rw[<-ho];rfl) (by rw[dZ];omega) fun cap hcap=>yk hI hoA hA hoB (cY.mk hcap) hR
 rcases hcA with hcA|⟨h0,rfl⟩
 ·exact hB hcA
 ·obtain⟨e,opn,ro,ho⟩:=hoA.get (by omega)
  exact sF [.one (.ptr 0 0),.agg (f6 h),.agg (gV p),.one (.int .i64 first),.one (.int .i64 (n:Nat))] [.one cB] (i:=13) (off:=0) (n:=a.length) (s:=1) (by decide) (vs:=il .u8 a) (e:=e) (opn:=opn) (ro:=ro) (by rw[<-ho];rfl) (by rw[dZ];omega) fun cap hcap=>hB (cY.mk hcap)
theorem xL{f:FuncId}{args0 args:List XV}{v v':XV}{news news':aj}{ob oc:ak}[c8 ob][c8 oc](n:Nat)(hn:news.length=n)(hc:bh Tryz.prog f args0 (dU++[ob,oc]) v (dU++ob::oc::news)){HS:aj}{K i j:Nat}(hS:(HS.drop K).take 13=eG K)(hi:HS[i]? = some ob)(hj:HS[j]? = some oc)(hd:(kW K [i,j]).Nodup)(ha:fq 15 args0)(e1:dR (nth (kW K [i,j])) args0 args)(hv:v.b7 (15+n))(e2:v.ay (nth (kW K [i,j]++List.range' HS.length n))=v')
 (hnk:bc (15+n) news) (hr:dv (nth (kW K [i,j]++List.range' HS.length n)) news news') (hro:d9 [] news=true) {HS':aj}(hh:HS++news'=HS') (hbd:Nat.blt HS'.length Mem.bound=true):aG.Sound Tryz.prog ⟨f,args,HS,v',HS',kW K [i,j]⟩:=by
 have e0:∀q,q<13->nth (kW K [i,j]) q=K+q:=vo K [i,j]
 have e0':∀q,q<13->nth (kW K [i,j]++List.range' HS.length n) q=K+q:=vo K (i::j::List.range' HS.length n)
 have hln:(dU++ob::oc::news).length=15+n:=by rw[List.length_append];show 13+(news.length+1+1)=_;omega
 refine bO (os:=eG K++ob::oc::news') (kW K [i,j]) (kW K [i,j]) n hc hd (zc hS e0 (.flat hi (.flat hj .nil))) (nB (l:=[ob,oc]) (by show 13<=15;omega) (.flat (.flat .nil))) (by rw[hln];exact nB (l:=ob::oc::news) (by omega) (.flat (.flat hnk))) (by rw[hln];rfl) ha e1 (by rw[hln];exact hv) e2 (t9 e0' (.flat (.flat hr))) ?_ rfl ?_ hbd (.inl rfl)
 ·exact pQ (dU++[ob,oc]) [] news (lf _) hro
 ·have g:∀q,q<13->HS[K+q]? = (eG K)[q]?:=fun q hq=>by rw[<-hS,List.getElem?_take_of_lt hq,List.getElem?_drop]
  have g0:HS[K]? = some (bM (K+1) (K+5) (K+9)):=g 0 (by decide)
  simp only[bK,eG,List.cons_append,List.nil_append]
  rw[aF g0,aF (g 1 (by decide)),aF (g 2 (by decide)),aF (g 3 (by decide)),aF (g 4 (by decide)),aF (g 5 (by decide)),aF (g 6 (by decide)),aF (g 7 (by decide)),aF (g 8 (by decide)),aF (g 9 (by decide)),aF (g 10 (by decide)),aF (g 11 (by decide)),aF (g 12 (by decide)),aF hi,aF hj]
  exact hh
section
variable {h:Hd} {p:Ph} {first:Int} {n:Nat} {a b:List Int}
theorem GQ(hI:mj h p first n a b){obA obB:ak}(hoA:RO obA .u8 a)(hoB:RO obB .u8 b){cA cB:XC}{i j:Nat}(hcA:rh cA i a.length)(hcB:rh cB j b.length){e:Int}(hR:qv h p first n a b = .inl e){z:Int}(hz:z=(n:Nat)){HS:aj}{K:Nat}(hS:(HS.drop K).take 13=eG K)(hi:HS[i]? = some obA)(hj:HS[j]? = some obB)(hd:(kW K [i,j]).Nodup){HS':aj}(hh:HS++[.dead]=HS')(hbd:Nat.blt HS'.length Mem.bound=true) :
 aG.Sound Tryz.prog ⟨17,[.one (.ptr K 0),.agg (f6 h),.agg (gV p),.one (.int .i64 first),.one (.int .i64 z),.one cA,.one cB],HS,.tup [.one .nils,.one (.int .i64 e)],HS',kW K [i,j]⟩:=by
 subst hz
 have hfA:=hoA.flat
 have hfB:=hoB.flat
 obtain⟨a0,a1,a2,a3⟩:=hcA.back 13 (nth (kW K [i,j])) rfl
 obtain⟨b0,b1,b2,b3⟩:=hcB.back 14 (nth (kW K [i,j])) rfl
 exact xL 1 rfl (vX hI hoA a1 hoB b1 hR) hS hi hj hd (.cons (by show 0<15;omega) (.flat (.flat (.flat (.flat (.cons (a3 _ (by decide)) (.cons (b3 _ (by decide)) .nil))))))) (.cons rfl (.flat (.flat (.flat (.flat (.cons (congrArg XV.one a2) (.cons (congrArg XV.one b2) .nil))))))) (XV.e9 rfl _) rfl (.flat .nil) (.flat .nil) rfl hh hbd
theorem GR(hI:mj h p first n a b){obA obB:ak}(hoA:RO obA .u8 a)(hoB:RO obB .u8 b){cA cB:XC}{i j:Nat}(hcA:rh cA i a.length)(hcB:rh cB j b.length){r:List Mb}(hR:qv h p first n a b = .inr r){m:Nat}(hm:r.length=m)(hm0:m≠0){z:Int}(hz:z=(n:Nat)){HS:aj}{K:Nat}(hS:(HS.drop K).take 13=eG K)(hi:HS[i]? = some obA)(hj:HS[j]? = some obB)(hd:(kW K [i,j]).Nodup){N:Nat}(hN:HS.length=N){HS':aj}(hh:HS++[cE 53 (fl mC r)]=HS')(hbd:Nat.blt HS'.length Mem.bound=true) :
 aG.Sound Tryz.prog ⟨17,[.one (.ptr K 0),.agg (f6 h),.agg (gV p),.one (.int .i64 first),.one (.int .i64 z),.one cA,.one cB],HS,.tup [.one (.slice N 0 m (.toEnd 391)),.one (.int .i64 0)],HS',kW K [i,j]⟩:=by
 subst hz hm hN
 have hfA:=hoA.flat
 have hfB:=hoB.flat
 obtain⟨a0,a1,a2,a3⟩:=hcA.back 13 (nth (kW K [i,j])) rfl
 obtain⟨b0,b1,b2,b3⟩:=hcB.back 14 (nth (kW K [i,j])) rfl
 refine xL 1 rfl (vX hI hoA a1 hoB b1 hR) hS hi hj hd (.cons (by show 0<15;omega) (.flat (.flat (.flat (.flat (.cons (a3 _ (by decide)) (.cons (b3 _ (by decide)) .nil))))))) (.cons rfl (.flat (.flat (.flat (.flat (.cons (congrArg XV.one a2) (.cons (congrArg XV.one b2) .nil))))))) (F6 (aZ (Nat.le_of_ble_eq_true rfl)) trivial) ?_ (.flat .nil) (.flat .nil) ?_ hh hbd
 ·simp only[BR,XV.ay,List.map_cons,List.map_nil,X1.ay,aB]
  rw[show fD _ r.length 391 = .slice _ 0 r.length (.toEnd 391)from if_neg hm0]
  rfl
 ·show d9 [] [cE 53 (fl mC r)]=true
  cases fl mC r<;>rfl
end
theorem xy{a:List Int}(ha:bQ a){j:Nat}{x:Int}(hx:0<=x/\x<256):bQ (a.set j x):=fun i=>by
 rw[List.getD_eq_getElem?_getD,List.getElem?_set]
 split
 ·split
  ·exact hx
  ·show(0:Int)<=0/\(0:Int)<256;decide
 ·rw[<-List.getD_eq_getElem?_getD];exact ha i
end Go.Proofs.YtagpkhindehcbaaGreat
namespace Go.Xm
variable [ax]
variable {P:Program} {ops:Array Oper} {nt nI:Nat} {al:bl} {hs:aj} {o:Oper} {l:List Oper} {L:List aG} {K:List Ab->bl->aj->Prop} {d:Nat}
theorem RQ{zs cs:List XC}{s k:Nat}{t e:TypeId}{parts:Array (Nat×Operand)}{n:Nat}{hs':aj}(hk:SK P ops nt L l ((d,.one (.slice n 0 k (.exact k)))::al) hs' fun bs=>K (⟨true,.none,[n]⟩::bs))(ho:o.op = .buildSlice t k parts:=by exact rfl)(hu:aW P t (.slice e):=by infer_instance)(hz:bz P e zs:=by infer_instance)(hse:aP P e s:=by infer_instance)(hsm:k*s<=16777216/\0<zs.length:=by exact⟨Nat.le_of_ble_eq_true rfl,Nat.le_of_ble_eq_true rfl⟩)(wn:Wn ops nt al o d:=by exact⟨rfl,rfl,rfl⟩)(hf:iD (fun i=>some (i*s,s)) (fT zs (k*s)) (parts.toList.map fun p=>(p.1,ai (rg al) p.2))=some cs:=by exact rfl)(hn:hs.length=n:=by exact n2)(hb:Nat.blt n Mem.bound=true:=by exact rfl)(hh:hs++[.cells cs e false false]=hs':=by exact n3):SK P ops nt L (o::l) al hs K:=by
 subst hn hh
 refine SK.lift wn.e wn.l (fun _=>?_) hk
 intro m hm
 obtain⟨m',h1,h2,h3⟩:=hm.push (.cells cs e false false) (by simpa [Nat.blt_eq]using hb)
 refine⟨m',?_,h2,h3⟩
 unfold kC
 rw[wn.w]
 refine dg (by rw[ho];rfl) (by rw[ho];rfl) (by rw[ho];rfl) ?_
 rw[ho]
 simp only[cK,fc,fe,hu.out,hse.out,hz.out,h1,hm.n,hf]
 rw[if_pos hsm]
theorem RS{s t e:TypeId}{x:Operand}{i:Nat}{a:List Int}{cap:tO}{ob:ak}(hob:RO ob .u8 a)(hne:a.length≠0)(hk:SK P ops nt L l ((d,.one (.str (oa a)))::al) hs fun bs=>K (⟨false,some i,[]⟩::bs))(ho:o.op = .convert s t x:=by exact rfl)(hu:aW P s (.slice e):=by infer_instance)(he:aW P e (.int .u8):=by infer_instance)(ht:aW P t .string:=by infer_instance)(wn:Wn ops nt al o d:=by exact⟨rfl,rfl,rfl⟩)
 (hx:ai (rg al) x = .one (.slice i 0 a.length cap):=by exact rfl) (hi:hs[i]? = some ob:=by exact rfl):SK P ops nt L (o::l) al hs K:=by
 have hil:(il .u8 a).length=a.length:=dZ _ _
 obtain⟨et,opn,ro,rfl⟩:=hob.get (by omega)
 refine SK.lift wn.e wn.l (fun _=>aH.bytes wn.w ho hu.out he.out ht.out hx hi (by omega) (ns:=a) ?_) hk
 rw[List.drop_zero,<-hil,List.take_length]
 exact s_ a
end Go.Xm
namespace Go.Proofs.YtagpkhindehcbaaGreat
open Go.Xm
variable [ax]
def QJ(v:Int):Int:=[0,0,0,0,1,2,3,3,4,255].getD (v%10).toNat 0
def vU(l:List Int)(i:Nat):List Int:=(l.take i).map QJ
theorem MY(v:Int):0<=QJ v/\QJ v<256:=by
 have h:0<=v%10/\v%10<10:=⟨Int.emod_nonneg _ (by decide),Int.emod_lt_of_pos _ (by decide)⟩
 obtain⟨k,hk⟩:∃k:Nat,(v%10).toNat=k:=⟨_,rfl⟩
 have hk10:k<10:=by omega
 unfold QJ
 rw[hk]
 have:k=0\/k=1\/k=2\/k=3\/k=4\/k=5\/k=6\/k=7\/k=8\/k=9:=by omega
 rcases this with rfl|rfl|rfl|rfl|rfl|rfl|rfl|rfl|rfl|rfl<;>decide
theorem BK(l:List Int){i:Nat}(h:i<=l.length):(vU l i).length=i:=by
 unfold vU
 rw[List.length_map,List.length_take];omega
theorem GA(l:List Int){i:Nat}(h:i<l.length):vU l i++[QJ (l.getD i 0)]=vU l (i+1):=by
 unfold vU
 rw[List.take_add_one,List.map_append,List.getD_eq_getElem?_getD,List.getElem?_eq_getElem h]
 rfl
theorem Gz(l:List Int)(i:Nat):bQ (vU l i):=fun j=>by
 refine iy (p:=fun z=>0<=z/\z<256) (fun b hb=>?_) (by decide) j
 obtain⟨v,_,rfl⟩:=List.mem_map.1 hb
 exact MY v
theorem J4{l:List Int}{ob:ak}(ho:RO ob .u8 l){c:XC}(hc:cY c 0 0 l.length)(hl:bQ l)(hn:l.length<=100) :
 bh Tryz.prog 16 [.one c] [ob] (hZ 1 l.length 1) [ob,cE 5 (il .u8 (vU l l.length))]:=by
 have hfo:=ho.flat
 refine cO Tryz.func16 ?_
 repeat' (first|refine zz ?_|refine zx (fun _=>?_) (fun _=>?_)|fail)
 refine WX.cU rfl ?_
 refine WX.dw (σ:=Nat) (fun i=>[(3,hZ 1 i 1),(6,.one c),(7,.one (.int .i64 (l.length:Nat))),(8,.one (.int .i64 (i:Nat)))]) (fun i=>[ob,cE 5 (il .u8 (vU l i))]) (fun i=>i<=l.length) (fun i=>l.length-i) 0 (Nat.zero_le _) (fun s _=>lD) (cG [0,1]) ?_
 intro i hi ih
 by_cases hlt:i<l.length
 ·have hb:=hl i
  have hm:0<=l.getD i 0%10/\l.getD i 0%10<10:=⟨Int.emod_nonneg _ (by decide),Int.emod_lt_of_pos _ (by decide)⟩
  have hlen:=BK l hi
  have hst:=GA l hlt
  repeat' (first
   |(refine qz ?_;first
    |refine RQ (cs:=il .u8 [0,0,0,0,1,2,3,3,4,255]) ?_)
   |refine zz ?_|refine zx (fun _=>?_) (fun _=>?_)|fail)
  refine ih (i+1) _ _ _ (cG [0,4] (obj:=by(repeat' (first|exact ae.nil|refine ae.flat (by rw[<-hst];rfl) ?_|refine ae.flat rfl ?_|refine ae.cons rfl ?_|refine ae.dead rfl ?_|refine ae.cons (by simp only[ak.ay,List.map_cons,List.map_nil,XC.ay,aB];exact rfl) ?_));first|done|fail)) (by omega) (by omega)
 ·obtain rfl:i=l.length:=by omega
  repeat' (first|refine zz ?_|refine zx (fun _=>?_) (fun _=>?_)|fail)
  show aC _ _ _ _ _ _ _ _;refine kV [0,1] ?_
  rw[dT];rfl
theorem MZ{l:List Int}{ob:ak}(ho:RO ob .u8 l){c:XC}{i:Nat}(hc:cY c i 0 l.length)(hl:bQ l)(hn:l.length<=100){HS:aj}(hi:HS[i]? = some ob){N:Nat}(hN:HS.length=N){HS':aj}(hh:HS++[cE 5 (il .u8 (vU l l.length))]=HS')(hb:Nat.blt HS'.length Mem.bound=true) :
 aG.Sound Tryz.prog ⟨16,[.one c],HS,.one (fD N l.length 1),HS',[i]⟩:=by
 subst hN
 have hfo:=ho.flat
 obtain⟨c0,h0,hcr⟩:=hc.oP 0 (nth [i]) rfl
 exact bO (os:=[ob,cE 5 (il .u8 (vU l l.length))]) [i] [i] 1 (J4 ho h0 hl hn) (by simp) (.flat hi .nil) (.flat .nil) (.flat (.flat .nil)) rfl (.cons (h0.ok Nat.one_pos) .nil) (.cons (congrArg XV.one hcr) .nil) (iT (Nat.le_of_ble_eq_true rfl)) (dT ..) (.flat (.flat .nil)) (BD ..) rfl (by simp only[bK];rw[aF hi];exact hh) hb (.inl rfl)
theorem Ju{h:Hd}{p:Ph}{l:List Mb}{first:Int}{a b:List Int}(hp:qf h p l first = .inr (a,b)):bQ a/\a.length<=30000/\bQ b/\b.length<=30000:=by
 unfold qf at hp
 split at hp
 ·cases hp
 ·split at hp
  ·cases hp
  ·rename_i hl
   cases hp
   exact⟨uU _ (gl _),by omega,uU _ (gl _),by omega⟩
theorem vM(l:List Int):RO (cE 5 (il .u8 l)) .u8 l:=⟨fun h=>⟨_,_,_,fb fun hn=>by
 have h2:(il .u8 l).length=0:=by rw[hn];rfl
 rw[dZ]at h2
 omega⟩,inferInstance⟩
theorem MF(l:List Mb):uy (cE 53 (fl mC l)) mC l:=⟨fun h=>⟨_,_,_,fb (AS fun hn=>by rw[hn]at h;exact absurd h (Nat.lt_irrefl 0))⟩,inferInstance⟩
theorem xK(v w:Int):0<=FY .u8 v w/\FY .u8 v w<256:=by
 have h:∀z:Int,0<=IntKind.u8.wrap z/\IntKind.u8.wrap z<256:=fun z=>by
  have e:IntKind.u8.wrap z=z%256:=rfl
  rw[e]
  exact⟨Int.emod_nonneg _ (by decide),Int.emod_lt_of_pos _ (by decide)⟩
 exact h _
def RX(p:XC×XC):List XC:=[p.1,p.2]
def La(Q:List (XC×XC)):List XC:=Q.flatMap RX
def rm(c:XC):Prop:=∃i n,i<28/\rh c i n
theorem rh.ok{c:XC}{i n m:Nat}(h:rh c i n)(hi:i<m):c.ok m:=by
 rcases h with h|⟨_,rfl⟩
 ·exact h.ok hi
 ·exact hi
theorem rh.id{c:XC}{i n:Nat}(h:rh c i n){τ : Nat->Nat}(hi : τ i=i):c.ay τ = c:=by
 rcases h with h|⟨_,rfl⟩
 ·exact h.id hi
 ·simp only[XC.ay,hi]
theorem Jv{Q:List (XC×XC)}(h:∀p∈Q,rm p.1/\rm p.2){c:XC}(hc:c∈La Q):rm c:=by
 obtain⟨p,hp,hpc⟩:=List.mem_flatMap.1 hc
 have hpc:c∈[p.1,p.2]:=hpc
 simp only[List.mem_cons,List.not_mem_nil,or_false]at hpc
 rcases hpc with rfl|rfl
 ·exact(h p hp).1
 ·exact(h p hp).2
theorem OT{Q:List (XC×XC)}(h:∀p∈Q,rm p.1/\rm p.2){n:Nat}(hn:28<=n){e:TypeId}{a b:Bool}:(ak.cells (La Q) e a b).b7 n:=fun c hc=>by
 obtain⟨i,k,hi,hs⟩:=Jv h hc
 exact hs.ok (by omega)
theorem zn{Q:List (XC×XC)}(h:∀p∈Q,rm p.1/\rm p.2){τ : Nat->Nat}(ht:∀i,i<28 -> τ i=i)(e:TypeId)(a b:Bool):(ak.cells (La Q) e a b).ay τ = .cells (La Q) e a b:=by
 show ak.cells ((La Q).map (·.ay τ)) e a b=_
 rw[List.map_congr_left (g:=id) fun c hc=>by
  obtain⟨i,k,hi,hs⟩:=Jv h hc
  exact hs.id (ht i hi),List.map_id]
theorem OS{Q:List (XC×XC)}{j:Nat}{p:XC×XC}(h:Q[j]? = some p):j*2+2<=(La Q).length/\((La Q).drop (j*2)).take 2 = [p.1,p.2]:=
 y9 RX 2 Q (fun a _=>rfl) j p h
abbrev P4(o0 ox oy oz:ak)(G:Hd)(P:Ph)(L:List Mb)(opn:Bool)(a b a2 b2 z:List Int)(r:aj):aj:=o0::ox::oy::oz :: .dead :: .cells (fl mC L) 53 opn false :: .cells (f6 G) 26 false false :: .cells (gV P) 28 false false::bM 9 13 17::aw 10 11 12 cM::aR cM::aT cM::aS cM::aw 14 15 16 cZ::aR cZ::aT cZ::aS cZ::aw 18 19 20 cP::aR cP::aT cP::aS cP::cE 5 (il .u8 a)::cE 5 (il .u8 b) :: .dead :: .cells (il .u8 a2) 5 true false :: .dead :: .cells (il .u8 b2) 5 true false::cE 5 (il .u8 z)::r
structure Q_(Q:List (XC×XC))(h:Hd)(p:Ph)(first:Int)(n:Nat)(H:aj->aj)(j iA iB:Nat)(u v:List Int)(obA obB:ak)(cA cB:XC):Prop where
 q:Q[j]? = some (cA,cB)
 sA:rh cA iA u.length
 sB:rh cB iB v.length
 oA:RO obA .u8 u
 oB:RO obB .u8 v
 hA:∀t,(H t)[iA]? = some obA
 hB:∀t,(H t)[iB]? = some obB
 nd:(kW 8 [iA,iB]).Nodup
 ti:mj h p first n u v
theorem rh.of{c:XC}{i n:Nat}(h:rh c i n)(hn:n≠0):∃cap,c = .slice i 0 n cap:=by
 rcases h with(⟨h,_⟩|⟨cap,_,rfl⟩)|⟨_,rfl⟩
 ·exact absurd h hn
 ·exact⟨_,rfl⟩
 ·exact⟨_,rfl⟩
theorem Bp{h : Hd}{p:Ph}(hh:tj h)(hp:qi p){f:Int}(hf:0<=f/\f<=255){l:List Sm}(hl:∀j,j<l.length->kE (l.getD j default)){o0:ak}(ho:uy o0 r6 l){c:XC}(hc:cY c 0 0 l.length)(hn:l.length<=9223372036854775807){x y z:List Int}{ox oy oz:ak}(hox:RO ox .u8 x)(hoy:RO oy .u8 y)(hoz:RO oz .u8 z){cx cy cz:XC}(hcx:cY cx 1 0 x.length)(hcy:cY cy 2 0 y.length)(hcz:cY cz 3 0 z.length)(hx:bQ x)(hy:bQ y)(hz:bQ z)(hxn:x.length<=9223372036854775807)(hyn:y.length<=9223372036854775807)(hzn:z.length<=9223372036854775807){at_ by_:Int}(hat:0<=at_/\at_<=65535)(hby:0<=by_/\by_<=255) :
 bh Tryz.prog 5 [.agg (gI h p f c),.one cx,.one cy,.one cz,.one (.int .u16 at_),.one (.int .u8 by_)] [o0,ox,oy,oz] (.one (.bool true)) [o0,ox,oy,oz]:=by
 have hfo:=ho.flat
 have hfx:=hox.flat
 have hfy:=hoy.flat
 have hfz:=hoz.flat
 by_cases g1:x.length<=100
 ·by_cases g2 : y.length<=100
  ·by_cases g3:z.length<=100
   ·obtain ⟨hT,h9⟩:=C8 (h:=h) hp hf hl
    obtain⟨G,hG⟩:∃G,four h=G:=⟨_,rfl⟩
    obtain⟨P,hP⟩:∃P,qL p=P:=⟨_,rfl⟩
    obtain⟨F,hF⟩:∃F,fz h f=F:=⟨_,rfl⟩
    obtain⟨L,hL⟩:∃L,jP h p f l=L:=⟨_,rfl⟩
    obtain⟨cap,hcap⟩:∃x,H8 l.length=x:=⟨_,rfl⟩
    obtain⟨opn,hopn⟩:∃x,F8 l.length=x:=⟨_,rfl⟩
    rw[hG,hP,hF,hL]at hT
    rw[hL]at h9
    have hm:=hT.many
    have hro:uy (.cells (fl mC L) 53 opn false) mC L:=⟨fun _=>⟨_,_,_,rfl⟩,inferInstance⟩
    obtain⟨n,hln⟩:∃n,L.length=n:=⟨_,rfl⟩
    rw[hln]at h9 hm
    refine cO Tryz.func5 ?_
    repeat' (first
     |(refine qz ?_;first
      |refine cl ?_ (hi:=by exact rr rfl)
      |refine fG ?_ (hle:=by first|rw[sZ]|rw[br])
      |refine cl ?_ (hi:=by exact Mi hh hp hf hl ho hc hn hG hP hF hL hcap hopn hln rfl nL nA rfl)
      |refine tR (zs:=f6 ⟨0,0,false,fun _=>0,fun _=>0⟩) (hz:=Af) ?_
      |refine tR (zs:=gV ⟨0,false,false,0⟩) (hz:=D0) ?_
      |refine kj (cs:=f6 G) ?_ (hs1:=by rw[br]) (hs2:=by rw[br])
      |refine kj (cs:=gV P) ?_
      |refine cl ?_ (hi:=by exact Jb nL (by simp only[eG,List.cons_append,List.nil_append];exact rfl) rfl))
     |refine zz ?_|refine zx (fun _=>?_) (fun _=>?_)|fail)
    cases hr:qf G P L F with
    | inl e=>
      have he:=Ms hr
      repeat' (first
       |(refine qz ?_;first
        |refine cl ?_ (hi:=by exact Mv hT hro hr hln rfl rfl (by decide) rfl))
       |refine zz ?_|refine zx (fun _=>?_) (fun _=>?_)|fail)
      show aC _ _ _ _ _ _ _ _;refine kV [0,1,2,3] ?_
      rfl
    | inr ab=>
      obtain⟨a,b⟩:=ab
      have hB:=Ed hT hr
      have hna:=hB.na
      have hnb:=hB.nb
      obtain⟨bya,lea,byb,leb⟩:=Ju hr
      have ka:(0:Int)<((a.length:Nat):Int):=by omega
      have ja:0<=at_%(a.length:Int)/\at_%(a.length:Int)<a.length:=⟨Int.emod_nonneg _ (Int.ne_of_gt ka),Int.emod_lt_of_pos at_ ka⟩
      have kb:(0:Int)<((b.length:Nat):Int):=by omega
      have jb:0<=at_%(b.length:Int)/\at_%(b.length:Int)<b.length:=⟨Int.emod_nonneg _ (Int.ne_of_gt kb),Int.emod_lt_of_pos at_ kb⟩
      obtain⟨Q,hQ⟩:∃Q,[(cx,cy),(fD 21 a.length 1,cy),(.slice 24 0 (0+a.length) (.toEnd 1),fD 22 b.length 1),(fD 21 a.length 1,.slice 26 0 (0+b.length) (.toEnd 1)),(fD 27 z.length 1,fD 22 b.length 1)]=Q:=⟨_,rfl⟩
      have sA2:rh (.slice 24 0 (0+a.length) (.toEnd 1)) 24 a.length := .inr ⟨hna,by rw[Nat.zero_add]⟩
      have sB2:rh (.slice 26 0 (0+b.length) (.toEnd 1)) 26 b.length := .inr ⟨hnb,by rw[Nat.zero_add]⟩
      have hQin:∀p∈Q,rm p.1/\rm p.2:=by
       have i1:rm cx:=⟨1,_,by decide,.inl hcx⟩
       have i2:rm cy:=⟨2,_,by decide,.inl hcy⟩
       have i3:rm (fD 21 a.length 1):=⟨21,_,by decide,rh.fD⟩
       have i4:rm (fD 22 b.length 1):=⟨22,_,by decide,rh.fD⟩
       have i5:rm (fD 27 z.length 1):=⟨27,_,by decide,rh.fD⟩
       intro p hp
       rw[<-hQ]at hp
       simp only[List.mem_cons,List.not_mem_nil,or_false]at hp
       rcases hp with rfl|rfl|rfl|rfl|rfl
       ·exact⟨i1,i2⟩
       ·exact⟨i3,i2⟩
       ·exact⟨⟨24,_,by decide,sA2⟩,i4⟩
       ·exact⟨i3,⟨26,_,by decide,sB2⟩⟩
       ·exact⟨i5,i4⟩
      repeat' (first
       |(refine qz ?_;first
        |refine cl ?_ (hi:=by exact zo hT hro hr hln rfl rfl (by decide) nL (by simp only[eG,List.cons_append,List.nil_append];exact rfl) rfl)
        |refine QW (n:=a.length) (r:=a) rfl (ug rfl rfl rfl) (fun h=>absurd h hna) (fun _=>?_)
        |refine QW (n:=b.length) (r:=b) rfl (ug rfl rfl rfl) (fun h=>absurd h hnb) (fun _=>?_)
        |refine cl ?_ (hi:=by exact MZ hoz hcz hz g3 rfl nL nA rfl)
        |refine RQ (k:=5) (cs:=La Q) ?_ (hf:=by rw[<-hQ];exact rfl))
       |refine zz ?_|refine zx (fun _=>?_) (fun _=>?_)|fail)
      obtain⟨a2,ha2⟩:∃x,a.set (at_%(a.length:Int)).toNat (FY .u8 (a.getD (at_%(a.length:Int)).toNat 0) by_)=x:=⟨_,rfl⟩
      obtain⟨b2,hb2⟩:∃x,b.set (at_%(b.length:Int)).toNat (FY .u8 (b.getD (at_%(b.length:Int)).toNat 0) by_)=x:=⟨_,rfl⟩
      obtain⟨z2,hz2⟩:∃q,vU z z.length=q:=⟨_,rfl⟩
      have la2:a2.length=a.length:=by rw[<-ha2,List.length_set]
      have lb2:b2.length=b.length:=by rw[<-hb2,List.length_set]
      have lz2:z2.length=z.length:=by rw[<-hz2,BK _ (Nat.le_refl _)]
      have bya2:bQ a2:=by rw[<-ha2];exact xy bya (xK _ _)
      have byb2:bQ b2:=by rw[<-hb2];exact xy byb (xK _ _)
      have byz2:bQ z2:=by rw[<-hz2];exact Gz _ _
      have mk:∀u v,bQ u->u.length<=30000->bQ v->v.length<=30000->mj G P F n u v:=fun u v k1 k2 k3 k4=>⟨hT.hd,hT.ph,hT.pos,hm,h9,by rw[<-hln];exact hT.all,k1,k2,k3,k4⟩
      have hpr:∀j,j<5->∃iA iB u v obA obB cA cB,Q_ Q G P F n (fun t=>P4 o0 ox oy oz G P L opn a b a2 b2 z2 (.cells (La Q) 63 false false::t)) j iA iB u v obA obB cA cB:=by
       intro j hj
       have:j=0\/j=1\/j=2\/j=3\/j=4:=by omega
       rcases this with rfl|rfl|rfl|rfl|rfl
       ·exact⟨1,2,x,y,ox,oy,cx,cy,by rw[<-hQ];rfl,.inl hcx,.inl hcy,hox,hoy,fun _=>rfl,fun _=>rfl,by decide,mk _ _ hx (by omega) hy (by omega)⟩
       ·exact⟨21,2,a,y,_,oy,_,cy,by rw[<-hQ];rfl,rh.fD,.inl hcy,vM a,hoy,fun _=>rfl,fun _=>rfl,by decide,mk _ _ bya lea hy (by omega)⟩
       ·exact⟨24,22,a2,b,_,_,_,_,by rw[<-hQ];rfl,by rw[la2];exact sA2,rh.fD,RO.of ..,vM b,fun _=>rfl,fun _=>rfl,by decide,mk _ _ bya2 (by omega) byb leb⟩
       ·exact⟨21,26,a,b2,_,_,_,_,by rw[<-hQ];rfl,rh.fD,by rw[lb2];exact sB2,vM a,RO.of ..,fun _=>rfl,fun _=>rfl,by decide,mk _ _ bya lea byb2 (by omega)⟩
       ·exact⟨27,22,z2,b,_,_,_,_,by rw[<-hQ];rfl,by rw[lz2];exact rh.fD,rh.fD,vM z2,vM b,fun _=>rfl,fun _=>rfl,by decide,mk _ _ byz2 (by omega) byb leb⟩
      refine WX.dw (σ:=Nat) (fun j=>[(13,.one (.ptr 6 0)),(14,.one (.ptr 7 0)),(15,.one (.int .i64 F)),(16,.one (.slice 5 0 n cap)),(17,.one (.ptr 8 0)),(109,.one (.slice 28 0 5 (.exact 5))),(110,.one (.int .i64 (5:Nat))),(111,.one (.int .i64 (j:Nat)))]) (fun _=>P4 o0 ox oy oz G P L opn a b a2 b2 z2 [.cells (La Q) 63 false false]) (fun j=>j<=5) (fun j=>5-j) 0 (Nat.zero_le _) (fun s _=>(lD (objs:=by repeat' (first|exact bc.nil|refine bc.cons (OT hQin (by show 28<=29;omega)) ?_|refine bc.flat ?_|refine bc.cons (by first|(simp[ak.b7,XC.ok,aZ];done)|simp[ak.b7,XC.ok,aZ, *]) ?_)))) (cG [0,1,2,3,4,5,6,7,8,9,10,11,12,13,14,15,16,17,18,19,20,21,22,23,24,25,26,27,28] (obj:=by(repeat' (first|exact ae.nil|refine ae.flat (by rw[<-ha2];rfl) ?_|refine ae.flat (by rw[<-hb2];rfl) ?_|refine ae.flat (by rw[<-hz2];rfl) ?_|refine ae.cons (congrArg some (zn hQin (by decide) _ _ _).symm) ?_|refine ae.flat rfl ?_|refine ae.cons rfl ?_|refine ae.dead rfl ?_|refine ae.cons (by simp only[ak.ay,List.map_cons,List.map_nil,XC.ay,aB];exact rfl) ?_));first|done|fail)) ?_
      intro j hj ih
      by_cases hlt:j<5
      ·obtain⟨iA,iB,u,v,obA,obB,cA,cB,K⟩:=hpr j hlt
       obtain⟨kq,sA,sB,oA,oB,hA,hB2,nd,ti⟩:=K
       have hzn2:(n:Int)=(n:Nat):=rfl
       obtain⟨q1,q2⟩:=OS kq
       repeat' (first
        |(refine qz ?_;first
         |refine t_ (cs:=[cA,cB]) ?_ (hle:=by exact q1) (hc:=by exact q2)
         |refine fG ?_ (hle:=by rw[br]))
        |refine zz ?_|refine zx (fun _=>?_) (fun _=>?_)|fail)
       cases hR:qv G P F n u v with
       | inl e=>
         have ne:=GS hR
         repeat' (first
          |(refine qz ?_;first
           |refine fG ?_ (hle:=by rw[br])
           |refine cl ?_ (hi:=by exact GQ ti oA oB sA sB hR hzn2 rfl (hA _) (hB2 _) nd nA rfl))
          |refine zz ?_|refine zx (fun _=>?_) (fun _=>?_)|fail)
         refine ih (j+1) _ _ _ (cG [0,1,2,3,4,5,6,7,8,9,10,11,12,13,14,15,16,17,18,19,20,21,22,23,24,25,26,27,28] (obj:=by(repeat' (first|exact ae.nil|refine ae.cons (congrArg some (zn hQin (by decide) _ _ _).symm) ?_|refine ae.flat rfl ?_|refine ae.cons rfl ?_|refine ae.dead rfl ?_|refine ae.cons (by simp only[ak.ay,List.map_cons,List.map_nil,XC.ay,aB];exact rfl) ?_));first|done|fail)) (by omega) (by omega)
       | inr m=>
         obtain⟨hT2,hlm,_,hp2⟩:=Ki ti hR
         have hB3:=Ed hT2 hp2
         have hua:=hB3.na
         have hvb:=hB3.nb
         have hom:=MF m
         obtain⟨k1,rfl⟩:=sA.of hua
         obtain⟨k2,rfl⟩:=sB.of hvb
         repeat' (first
          |(refine qz ?_;first
           |refine fG ?_ (hle:=by rw[br])
           |refine cl ?_ (hi:=by exact GR ti oA oB sA sB hR hlm (by omega) hzn2 rfl (hA _) (hB2 _) nd nL nA rfl)
           |refine cl ?_ (hi:=by exact zo hT2 hom hp2 hlm rfl rfl (by decide) nL (by simp only[eG,List.cons_append,List.nil_append];exact rfl) rfl)
           |refine QY (a:=u) hua ?_
           |refine QY (a:=v) hvb ?_
           |refine RS (a:=u) oA hua ?_ (hi:=by exact hA _)
           |refine RS (a:=v) oB hvb ?_ (hi:=by exact hB2 _)
           |refine Sw ?_)
          |refine zz ?_|refine zx (fun _=>?_) (fun _=>?_)|fail)
         refine ih (j+1) _ _ _ (cG [0,1,2,3,4,5,6,7,8,9,10,11,12,13,14,15,16,17,18,19,20,21,22,23,24,25,26,27,28] (obj:=by(repeat' (first|exact ae.nil|refine ae.cons (congrArg some (zn hQin (by decide) _ _ _).symm) ?_|refine ae.flat rfl ?_|refine ae.cons rfl ?_|refine ae.dead rfl ?_|refine ae.cons (by simp only[ak.ay,List.map_cons,List.map_nil,XC.ay,aB];exact rfl) ?_));first|done|fail)) (by omega) (by omega)
      ·repeat' (first|refine zz ?_|refine zx (fun _=>?_) (fun _=>?_)|fail)
       show aC _ _ _ _ _ _ _ _;refine kV [0,1,2,3] ?_
       rfl
   ·refine cO Tryz.func5 ?_
    repeat' (first
     |(refine qz ?_;first
      |refine cl ?_ (hi:=by exact rr rfl))
     |refine zz ?_|refine zx (fun _=>?_) (fun _=>?_)|fail)
    show aC _ _ _ _ _ _ _ _;refine kV [0,1,2,3] ?_
    rfl
  ·refine cO Tryz.func5 ?_
   repeat' (first
    |(refine qz ?_;first
     |refine cl ?_ (hi:=by exact rr rfl))
    |refine zz ?_|refine zx (fun _=>?_) (fun _=>?_)|fail)
   show aC _ _ _ _ _ _ _ _;refine kV [0,1,2,3] ?_
   rfl
 ·refine cO Tryz.func5 ?_
  repeat' (first
   |(refine qz ?_;first
    |refine cl ?_ (hi:=by exact rr rfl))
   |refine zz ?_|refine zx (fun _=>?_) (fun _=>?_)|fail)
  show aC _ _ _ _ _ _ _ _;refine kV [0,1,2,3] ?_
  rfl
end Go.Proofs.YtagpkhindehcbaaGreat
namespace Go.Xm
inductive eF where
 | int (k:IntKind)
 | bool
def eF.has:eF->Value->Prop
 | .int k,v=>∃z,v = .int k z/\(Lit.int k z).wf=true
 | .bool,v=>∃b,v = .bool b
def lint:Value->Int
 | .int _ z=>z
 | _=>0
def va:Value->Bool
 | .bool b=>b
 | _=>false
def eF.cell(l:eF)(v:Value):XC:=match l with
 | .int k => .int k (lint v)
 | .bool => .bool (va v)
theorem eF.den[ax]{l:eF}{v:Value}(h:l.has v)(β : Env):(l.cell v).den β = v:=by
 cases l with
 | int k=>obtain⟨z,rfl,_⟩:=h;rfl
 | bool=>obtain⟨b,rfl⟩:=h;rfl
def fU(P:Program)(t:TypeId)(ks:List eF):Prop:=
 P.cellsOf t=ks.length/\∀(H:Type) (enc:TypeId×Value->H) (w:World) (base:Nat) (spare:Nat->Bool) (held:Bool) (fuel:Nat) (cs:List Value) (x:DataW H×List MemPlace),
  DataW.trod enc P w base spare held fuel t cs=some x->cs.length=ks.length/\∀(j:Nat) (l:eF),ks[j]? = some l->∃v,cs[j]? = some v/\l.has v
variable {P:Program} {t:TypeId}
theorem fU.int{k:IntKind}(ht:P.underlying t=some (.int k))(hc:P.cellsOf t=1):fU P t [.int k]:=by
 refine⟨hc,fun H enc w base spare held fuel cs x h=>?_⟩
 obtain⟨n,rfl,_,hw⟩:=DataW.trod_int ht h
 refine⟨rfl,fun j l hj=>?_⟩
 match j,hj with
 | 0,hj=>cases hj;exact⟨_,rfl,n,rfl,hw⟩
 | j+1,hj=>simp at hj
theorem fU.bool(ht:P.underlying t=some .bool)(hc:P.cellsOf t=1):fU P t [.bool]:=by
 refine⟨hc,fun H enc w base spare held fuel cs x h=>?_⟩
 obtain⟨b,rfl,_⟩:=DataW.trod_bool ht h
 refine⟨rfl,fun j l hj=>?_⟩
 match j,hj with
 | 0,hj=>cases hj;exact⟨_,rfl,b,rfl⟩
 | j+1,hj=>simp at hj
def jz(ks:List eF):Nat->List eF
 | 0=>[]
 | n+1=>ks++jz ks n
theorem mW(ks:List eF):∀n,(jz ks n).length=n*ks.length
 | 0=>by simp[jz]
 | n+1=>by rw[jz,List.length_append,mW ks n,Nat.add_mul,Nat.one_mul,Nat.add_comm]
theorem BA{ks:List eF}{l:eF}:∀(n j:Nat),(jz ks n)[j]? = some l->∃i r,i<n/\j=i*ks.length+r/\ks[r]? = some l
 | 0,j,h=>by simp[jz]at h
 | n + 1,j,h=>by
   rw[jz]at h
   by_cases hj:j<ks.length
   ·rw[List.getElem?_append_left hj]at h
    exact⟨0,j,Nat.succ_pos _,by simp,h⟩
   ·rw[List.getElem?_append_right (by omega)]at h
    obtain⟨i,r,hi,hr,hl⟩:=BA n (j-ks.length) h
    exact⟨i+1,r,by omega,by rw[Nat.add_mul,Nat.one_mul];omega,hl⟩
theorem fU.array{n:Nat}{e:TypeId}{ks:List eF}(ht:P.underlying t=some (.array n e))(he:fU P e ks)(hc:P.cellsOf t=n*ks.length):fU P t (jz ks n):=by
 refine⟨by rw[hc,mW],fun H enc w base spare held fuel cs x h=>?_⟩
 obtain⟨xs,m,_,_,hlen,hxl,hx⟩:=DataW.trod_array ht h
 refine⟨by rw[hlen,hc,mW],fun j l hj=>?_⟩
 obtain⟨i,r,hi,rfl,hr⟩:=BA n j hj
 have hxi:xs[i]? = some (xs[i]'(by omega)):=List.getElem?_eq_getElem (by omega)
 obtain⟨hl,hv⟩:=he.2 H enc w base spare held m _ _ ((hx i hi).trans hxi)
 obtain⟨v,hv1,hv2⟩:=hv r l hr
 refine⟨v,?_,hv2⟩
 have hrl:r<ks.length:=(List.getElem?_eq_some_iff.1 hr).1
 rw[he.1,List.getElem?_take_of_lt hrl,List.getElem?_drop]at hv1
 exact hv1
theorem FT{kss:List (List eF)}{l:eF}:∀{j:Nat},kss.flatten[j]? = some l->∃i ks r,kss[i]? = some ks/\j=((kss.take i).flatten).length+r/\ks[r]? = some l:=by
 induction kss with
 | nil=>intro j h;simp at h
 | cons ks kss ih=>
   intro j h
   rw[List.flatten_cons]at h
   by_cases hj:j<ks.length
   ·rw[List.getElem?_append_left hj]at h
    exact⟨0,ks,j,rfl,by simp,h⟩
   ·rw[List.getElem?_append_right (by omega)]at h
    obtain⟨i,ks',r,h1,h2,h3⟩:=ih h
    refine⟨i+1,ks',r,h1,?_,h3⟩
    rw[List.take_succ_cons,List.flatten_cons,List.length_append]
    omega
theorem fU.struct{fs:Array Field}(kss:List (List eF))(ht:P.underlying t=some (.struct fs))(hn:kss.length=fs.size)(hf:∀(i:Nat) (f:Field) (ks:List eF),fs[i]? = some f->kss[i]? = some ks->fU P f.type ks/\f.offset=((kss.take i).flatten).length)(hc:P.cellsOf t=kss.flatten.length):fU P t kss.flatten:=by
 refine⟨hc,fun H enc w base spare held fuel cs x h=>?_⟩
 obtain⟨xs,m,_,_,hlen,hxl,hx⟩:=DataW.trod_struct ht h
 refine⟨by rw[hlen,hc],fun j l hj=>?_⟩
 obtain⟨i,ks,r,h1,rfl,h3⟩:=FT hj
 have hi:i<fs.size:=by
  have:=(List.getElem?_eq_some_iff.1 h1).1
  omega
 have hfi:fs[i]? = some fs[i]:=Array.getElem?_eq_getElem hi
 obtain⟨hl,ho⟩:=hf i _ ks hfi h1
 have hxi:xs[i]? = some (xs[i]'(by omega)):=List.getElem?_eq_getElem (by omega)
 obtain⟨_,hv⟩:=hl.2 H enc w base spare held m _ _ ((hx i _ hfi).trans hxi)
 obtain⟨v,hv1,hv2⟩:=hv r l h3
 refine⟨v,?_,hv2⟩
 have hrl:r<ks.length:=(List.getElem?_eq_some_iff.1 h3).1
 rw[hl.1,List.getElem?_take_of_lt hrl,List.getElem?_drop,ho]at hv1
 exact hv1
def kF:List eF->(Nat->Value)->Nat->List XC
 | [],_,_=>[]
 | l::ks,g,j=>l.cell (g j)::kF ks g (j+1)
theorem sM:∀(ks:List eF) (g:Nat->Value) (o j:Nat),(kF ks g o)[j]? = (ks[j]?).map fun l=>l.cell (g (o+j))
 | [],g,o,j=>by simp[kF]
 | l::ks,g,o,0=>rfl
 | l::ks,g,o,j+1=>by
   rw[kF,List.getElem?_cons_succ,sM ks g (o+1) j,List.getElem?_cons_succ]
   rw[show o+1+j=o+(j+1) by omega]
def qP(ks:List eF)(g:Nat->Value)(o:Nat):Prop:=∀(j:Nat) (l:eF),ks[j]? = some l->l.has (g (o+j))
theorem xN[ax]{ks:List eF}{cs:List Value}(hl:cs.length=ks.length)(h:∀(j:Nat) (l:eF),ks[j]? = some l->∃v,cs[j]? = some v/\l.has v)(β : Env):cs=(kF ks (fun j=>cs.getD j .nilIface) 0).map (·.den β)/\qP ks (fun j=>cs.getD j .nilIface) 0:=by
 have hv:∀j l,ks[j]? = some l->l.has (cs.getD j .nilIface)/\cs[j]? = some (cs.getD j .nilIface):=fun j l hj=>by
  obtain⟨v,h1,h2⟩:=h j l hj
  rw[List.getD_eq_getElem?_getD,h1]
  exact⟨h2,rfl⟩
 refine⟨List.ext_getElem? fun j=>?_,fun j l hj=>by rw[Nat.zero_add];exact(hv j l hj).1⟩
 rw[List.getElem?_map,sM,Nat.zero_add]
 by_cases hj:j<ks.length
 ·have hk:ks[j]? = some ks[j]:=List.getElem?_eq_getElem hj
  obtain⟨h1,h2⟩:=hv j _ hk
  rw[hk]
  show cs[j]? = some ((ks[j].cell (cs.getD j .nilIface)).den β)
  rw[eF.den h1,h2]
 ·rw[List.getElem?_eq_none (by omega),List.getElem?_eq_none (by omega)]
  rfl
end Go.Xm
namespace Go.Proofs.YtagpkhindehcbaaGreat
open Go.ChangeShapes Go.WideShapes Go.ChangeAt Go.RowKit Go.Deep Go.Xm
def IN:List eF:=[[eF.bool],jz [.int .u8] 64,jz [.int .u8] 64].flatten
def IM:List eF:=[[eF.int .i64],[.int .i64],IN].flatten
def OE:List eF:=[[eF.int .i64],[.bool],[.bool],[.int .i64]].flatten
def Qv:List eF:=[jz [eF.int .i8] 4,jz [.int .i8] 4,[.bool]].flatten
def C0:List eF:=[[eF.int .u8],[.int .u8],Qv,[.bool],jz [.int .u64] 6,[.int .u32],[.bool]].flatten
theorem Bc:fU Tryz.prog 5 [.int .u8] := .int Tryz.underlying5 (by kernel_rfl)
theorem Qy:fU Tryz.prog 73 [.int .i8] := .int Tryz.underlying73 (by kernel_rfl)
theorem OH:fU Tryz.prog 77 [.int .u64] := .int Tryz.underlying77 (by kernel_rfl)
theorem OG:fU Tryz.prog 79 [.int .u32] := .int Tryz.underlying79 (by kernel_rfl)
theorem zf:fU Tryz.prog 3 [.int .i64] := .int Tryz.underlying3 (by kernel_rfl)
theorem pK:fU Tryz.prog 4 [.bool] := .bool Tryz.underlying4 (by kernel_rfl)
theorem IZ:fU Tryz.prog 22 (jz [.int .u8] 64) := .array Tryz.underlying22 Bc (by kernel_rfl)
theorem NJ:fU Tryz.prog 74 (jz [.int .i8] 4) := .array Tryz.underlying74 Qy (by kernel_rfl)
theorem Qx:fU Tryz.prog 78 (jz [.int .u64] 6) := .array Tryz.underlying78 OH (by kernel_rfl)
theorem OF:fU Tryz.prog 24 IN:=by
 refine .struct _ Tryz.underlying24 rfl (fun i f ks hi hk=>?_) (by kernel_rfl)
 match i,hi,hk with
 | 0,hi,hk=>cases hi;cases hk;exact⟨pK,rfl⟩
 | 1,hi,hk=>cases hi;cases hk;exact⟨IZ,rfl⟩
 | 2,hi,hk=>cases hi;cases hk;exact⟨IZ,rfl⟩
 | i+3,hi,hk=>simp at hk
theorem NK:fU Tryz.prog 26 IM:=by
 refine .struct _ Tryz.underlying26 rfl (fun i f ks hi hk=>?_) (by kernel_rfl)
 match i,hi,hk with
 | 0,hi,hk=>cases hi;cases hk;exact⟨zf,rfl⟩
 | 1,hi,hk=>cases hi;cases hk;exact⟨zf,rfl⟩
 | 2,hi,hk=>cases hi;cases hk;exact⟨OF,rfl⟩
 | i+3,hi,hk=>simp at hk
theorem NL:fU Tryz.prog 28 OE:=by
 refine .struct _ Tryz.underlying28 rfl (fun i f ks hi hk=>?_) (by kernel_rfl)
 match i,hi,hk with
 | 0,hi,hk=>cases hi;cases hk;exact⟨zf,rfl⟩
 | 1,hi,hk=>cases hi;cases hk;exact⟨pK,rfl⟩
 | 2,hi,hk=>cases hi;cases hk;exact⟨pK,rfl⟩
 | 3,hi,hk=>cases hi;cases hk;exact⟨zf,rfl⟩
 | i+4,hi,hk=>simp at hk
theorem Qz:fU Tryz.prog 76 Qv:=by
 refine .struct _ Tryz.underlying76 rfl (fun i f ks hi hk=>?_) (by kernel_rfl)
 match i,hi,hk with
 | 0,hi,hk=>cases hi;cases hk;exact⟨NJ,rfl⟩
 | 1,hi,hk=>cases hi;cases hk;exact⟨NJ,rfl⟩
 | 2,hi,hk=>cases hi;cases hk;exact⟨pK,rfl⟩
 | i+3,hi,hk=>simp at hk
theorem NM:fU Tryz.prog 81 C0:=by
 refine .struct _ Tryz.underlying81 rfl (fun i f ks hi hk=>?_) (by kernel_rfl)
 match i,hi,hk with
 | 0,hi,hk=>cases hi;cases hk;exact⟨Bc,rfl⟩
 | 1,hi,hk=>cases hi;cases hk;exact⟨Bc,rfl⟩
 | 2,hi,hk=>cases hi;cases hk;exact⟨Qz,rfl⟩
 | 3,hi,hk=>cases hi;cases hk;exact⟨pK,rfl⟩
 | 4,hi,hk=>cases hi;cases hk;exact⟨Qx,rfl⟩
 | 5,hi,hk=>cases hi;cases hk;exact⟨OG,rfl⟩
 | 6,hi,hk=>cases hi;cases hk;exact⟨pK,rfl⟩
 | i+7,hi,hk=>simp at hk
theorem A7(a b:List eF)(g:Nat->Value):∀o,kF (a++b) g o=kF a g o++kF b g (o+a.length):=by
 induction a with
 | nil=>intro o;rfl
 | cons l a ih=>
   intro o
   rw[List.cons_append,kF,ih,kF,List.cons_append,List.length_cons]
   rw[show o+1+a.length=o+(a.length+1) by omega]
theorem xO(k:IntKind)(g:Nat->Value):∀n o,kF (jz [.int k] n) g o=ti k n fun i=>lint (g (o+i)):=by
 intro n
 induction n with
 | zero=>intro o;rfl
 | succ n ih=>
   intro o
   rw[jz,A7,ih]
   unfold ti
   rw[List.range_succ_eq_map,List.map_cons,List.map_map]
   show _::_=_::_
   congr 1
   refine List.map_congr_left fun i _=>?_
   show XC.int k (lint (g (o+1+i)))=XC.int k (lint (g (o+(i+1))))
   rw[show o+1+i=o+(i+1) by omega]
def IF(g:Nat->Value):Hd:=⟨lint (g 0),lint (g 1),va (g 2),fun i=>lint (g (3+i)),fun i=>lint (g (67+i))⟩
def Jk(g:Nat->Value):Ph:=⟨lint (g 0),va (g 1),va (g 2),lint (g 3)⟩
def M0(g:Nat->Value):Sm:=⟨lint (g 0),lint (g 1),⟨fun i=>lint (g (2+i)),fun i=>lint (g (6+i)),va (g 10)⟩,va (g 11),fun i=>lint (g (12+i)),lint (g 18),va (g 19)⟩
theorem zd:IM = [eF.int .i64,.int .i64,.bool]++(jz [.int .u8] 64++jz [.int .u8] 64):=by
 simp only[IM,IN,List.flatten_cons,List.flatten_nil,List.append_nil,List.cons_append,List.nil_append]
theorem IP(g:Nat->Value):kF IM g 0=f6 (IF g):=by
 rw[zd]
 simp only[List.cons_append,List.nil_append,kF]
 rw[A7,xO,xO,mW]
 rfl
theorem IQ(g:Nat->Value):kF OE g 0=gV (Jk g):=rfl
theorem IS(g:Nat->Value):kF C0 g 0=r6 (M0 g):=rfl
theorem IT{k:IntKind}{v:Value}(h:(eF.int k).has v):(Lit.int k (lint v)).wf=true:=by
 obtain⟨z,rfl,hz⟩:=h
 exact hz
theorem vK(l:eF):∀n,jz [l] n=List.replicate n l
 | 0=>rfl
 | n+1=>by rw[jz,vK l n,List.replicate_succ];rfl
theorem EM(l:eF){n i:Nat}(h:i<n)(r:List eF):(jz [l] n++r)[i]? = some l:=by
 rw[List.getElem?_append_left (by rw[vK,List.length_replicate];exact h),vK,List.getElem?_replicate,if_pos h]
theorem ok_int{ks:List eF}{g:Nat->Value}(h:qP ks g 0){j:Nat}{k:IntKind}(hj:ks[j]? = some (.int k)):(Lit.int k (lint (g j))).wf=true:=by
 have:=IT (h j _ hj)
 rwa [Nat.zero_add]at this
theorem Ox{g:Nat->Value}(h:qP IM g 0):tj (IF g):=by
 refine⟨bounds_i64 (ok_int h rfl),bounds_i64 (ok_int h rfl),fun i h64=>⟨bounds_u8 (ok_int h ?_),bounds_u8 (ok_int h ?_)⟩⟩
 ·rw[Nat.add_comm]
  rw[zd]
  show(jz [eF.int .u8] 64++jz [.int .u8] 64)[i]? = _
  exact EM _ h64 _
 ·rw[show 67+i=(64+i)+3 by omega]
  rw[zd]
  show(jz [eF.int .u8] 64++jz [.int .u8] 64)[64+i]? = _
  rw[List.getElem?_append_right (by rw[mW];simp),mW]
  simp only[List.length_cons,List.length_nil,Nat.zero_add,Nat.mul_one,Nat.add_sub_cancel_left]
  rw[<-List.append_nil (jz _ 64)]
  exact EM _ h64 _
theorem OR{g:Nat->Value}(h:qP OE g 0):qi (Jk g):=⟨bounds_i64 (ok_int h rfl),bounds_i64 (ok_int h rfl)⟩
theorem Pm{g:Nat->Value}(h:qP C0 g 0):kE (M0 g):=by
 have i8:∀{j},C0[j]? = some (.int .i8) -> -128<=lint (g j)/\lint (g j)<128:=fun {j} hj=>by
  have:=bounds_i8 (ok_int h hj)
  omega
 have u64:∀{j},C0[j]? = some (.int .u64)->0<=lint (g j)/\lint (g j)<18446744073709551616:=fun {j} hj=>by
  have:=bounds_u64 (ok_int h hj)
  omega
 refine⟨bounds_u8 (ok_int h rfl),bounds_u8 (ok_int h rfl),⟨fun k hk=>?_,fun k hk=>?_⟩,fun k hk=>?_,?_⟩
 ·match k,hk with
  | 0,_=>exact i8 rfl
  | 1,_=>exact i8 rfl
  | 2,_=>exact i8 rfl
  | 3,_=>exact i8 rfl
 ·match k,hk with
  | 0,_=>exact i8 rfl
  | 1,_=>exact i8 rfl
  | 2,_=>exact i8 rfl
  | 3,_=>exact i8 rfl
 ·match k,hk with
  | 0,_=>exact u64 rfl
  | 1,_=>exact u64 rfl
  | 2,_=>exact u64 rfl
  | 3,_=>exact u64 rfl
  | 4,_=>exact u64 rfl
  | 5,_=>exact u64 rfl
 ·have:=bounds_u32 (ok_int h (j:=18) rfl)
  show 0<=lint (g 18)/\lint (g 18)<4294967296
  omega
variable [ax]
section
variable {H:Type} {enc:TypeId×Value->H} {w:World} {base:Nat} {spare:Nat->Bool} {held:Bool}
set_option maxRecDepth 100000 in
theorem Pn{v:Value}{b0:Nat}{r:Reach}{t:TypeId}(ht:Tryz.prog.underlying t=some (.slice 81))(hcell:Cell.okWide Tryz.prog w r b0 t v){fuel:Nat}{x:DataW H×List MemPlace}(hf:DataW.trod enc Tryz.prog w base spare held fuel t [v]=some x) :
 ∃l:List Sm,(∀j,j<l.length->kE (l.getD j default))/\l.length<=9223372036854775807/\kI w v (fl r6 l) l.length:=by
 rcases open_slice ht hf with⟨hcs,_⟩|⟨a,len,cap,m,n,D,Pl,hcs,_,hlc,hcm,hm,_,hall⟩
 ·simp only[List.cons.injEq,and_true]at hcs
  exact⟨[],fun j hj=>absurd hj (Nat.not_lt_zero _),Nat.zero_le _,.inl ⟨hcs,rfl,rfl⟩⟩
 ·simp only [List.cons.injEq,and_true]at hcs
  subst hcs
  have hspot:=vT ht hcell
  have hlm:len<=m:=by rw[hm];split<;>omega
  have hC:Tryz.prog.cellsOf 81=20:=NM.1
  let g:Nat->Nat->Value:=fun i j=>(w.cell? ⟨a.block,a.off+(i*20+j),none⟩).getD .nilIface
  have hg:∀i,i<len->qP C0 (g i) 0/\∀j,j<20->w.cell? ⟨a.block,a.off+(i*20+j),none⟩=some (g i j):=fun i hi=>by
   obtain⟨cs',hc,ht'⟩:=hall i (by omega)
   rw[hC]at hc
   obtain⟨_,hcl,hat⟩:=World.cells?_some hc
   have hat':∀j,j<20->w.cell? ⟨a.block,a.off+(i*20+j),none⟩=cs'[j]?:=fun j hj=>by
    rw[<-hat j hj,Go.Deep.add_add,xq hspot]
   have hgj:∀j,j<20->g i j=cs'.getD j .nilIface:=fun j hj=>by
    show(w.cell? _).getD _=_
    rw[hat' j hj,List.getD_eq_getElem?_getD]
   obtain⟨hl,hv⟩:=NM.2 H enc w base spare held n cs' _ ht'
   have hl20:cs'.length=20:=hl
   refine⟨fun j l hj=>?_,fun j hj=>?_⟩
   ·have hj20:j<20:=(List.getElem?_eq_some_iff.1 hj).1
    obtain⟨v,h1,h2⟩:=hv j l hj
    rw[Nat.zero_add,hgj j hj20,List.getD_eq_getElem?_getD,h1]
    exact h2
   ·rw[hat' j hj,hgj j hj,List.getD_eq_getElem?_getD,List.getElem?_eq_getElem (by omega)]
    rfl
  refine⟨(List.range len).map fun i=>M0 (g i),fun j hj=>?_,?_,.inr ⟨a.block,a.off,cap,by simpa using hlc,?_,fun j c hj β=>?_⟩⟩
  ·rw[List.length_map,List.length_range]at hj
   rw[List.getD_eq_getElem?_getD,List.getElem?_map,List.getElem?_range hj]
   exact Pm (hg j hj).1
  ·unfold maxLen at hcm
   rw[List.length_map,List.length_range]
   omega
  ·rw[List.length_map,List.length_range]
   obtain⟨b,o,s⟩:=a
   simp only at hspot
   subst hspot
   rfl
  ·have hj':=hj
   unfold fl at hj
   rw[AT r6 20 (by decide) _ (fun _ _=>rfl)]at hj
   have hlt:j/20<len:=by
    rw[List.getElem?_map]at hj
    by_cases h:j/20<len
    ·exact h
    ·rw[List.getElem?_eq_none (by rw[List.length_range];omega)]at hj
     cases hj
   rw[List.getElem?_map,List.getElem?_range hlt]at hj
   have hj2:(r6 (M0 (g (j/20))))[j%20]? = some c:=hj
   have hr:j%20<20:=Nat.mod_lt _ (by decide)
   rw[<-IS,sM,Nat.zero_add]at hj2
   obtain⟨h1,h2⟩:=hg (j/20) hlt
   have h3:=h2 (j%20) hr
   rw[show j/20*20+j%20=j by omega]at h3
   rw[h3]
   cases hk:C0[j%20]? with
   | none=>rw[hk]at hj2;cases hj2
   | some l=>
     rw[hk]at hj2
     cases hj2
     have:=h1 (j%20) l hk
     rw[Nat.zero_add]at this
     rw[eF.den this]
theorem vb{t:TypeId}{ks:List eF}(hl:fU Tryz.prog t ks){fuel:Nat}{cs:List Value}{x:Option (DataW H×List MemPlace)}{y:DataW H×List MemPlace}(h:DataW.trod enc Tryz.prog w base spare held fuel t cs=x)(hx:x=some y):∃g,qP ks g 0/\∀β : Env,cs=(kF ks g 0).map (·.den β):=by
 obtain⟨h1,h2⟩:=hl.2 H enc w base spare held fuel cs y (h.trans hx)
 exact⟨_,(xN h1 h2 Env.zero).2,fun β=>(xN h1 h2 β).1⟩
set_option maxRecDepth 100000 in
theorem J8{v:Value}{b0:Nat}{r:Reach}(hval:Value.okWide Tryz.prog w r b0 31 v){fuel:Nat}{x:DataW H×List MemPlace}(hf:DataW.trod enc Tryz.prog w base spare held fuel 31 v.cells.toList=some x) :
 ∃ (h:Hd) (p:Ph) (f:Int) (l:List Sm) (vm:Value),tj h/\qi p/\(0<=f/\f<=255)/\(∀j,j<l.length->kE (l.getD j default))/\l.length<=9223372036854775807/\kI w vm (fl r6 l) l.length /\
   ∀(β : Env) (c:XC),c.den β = vm->v = .agg ((gI h p f c).map (·.den β)).toArray:=by
 unfold Value.okWide at hval
 rw[Tryz.underlying31]at hval
 obtain⟨cs,rfl,hsz,ts,hts,_,hcell⟩:=hval
 have hts2:(Tryz.prog.cellTypes Tryz.prog.depth 31).map (fun ts=>(ts.length,ts[136]?))=some (137,some 29):=by kernel_rfl
 rw[hts]at hts2
 simp only[Option.map_some,Option.some.injEq,Prod.mk.injEq]at hts2
 obtain⟨hl137,h136⟩:=hts2
 obtain⟨xs,n,_,_,hlen,hxl,hx⟩:=DataW.trod_struct Tryz.underlying31 hf
 have hC:Tryz.prog.cellsOf 31=137:=by kernel_rfl
 have hcl:cs.toList.length=137:=by
  have:cs.size=Tryz.prog.cellsOf 31:=hsz
  rw[hC]at this
  simpa using this
 have hx4:xs.length=4:=hxl
 have hget:∀i,i<4->∃y,xs[i]? = some y:=fun i hi=>⟨_,List.getElem?_eq_getElem (by omega)⟩
 obtain⟨y0,e0⟩:=hget 0 (by decide)
 obtain⟨y1,e1⟩:=hget 1 (by decide)
 obtain⟨y2,e2⟩:=hget 2 (by decide)
 obtain⟨y3,e3⟩:=hget 3 (by decide)
 have x0:=hx 0 _ rfl
 have x1:=hx 1 _ rfl
 have x2:=hx 2 _ rfl
 have x3:=hx 3 _ rfl
 obtain⟨g0,ok0,d0⟩:=vb NK x0 e0
 obtain⟨g1,ok1,d1⟩:=vb NL x1 e1
 obtain⟨g2,ok2,d2⟩:=vb Bc x2 e2
 obtain⟨vm,hvm⟩:∃vm,cs.toList[136]? = some vm:=⟨_,List.getElem?_eq_getElem (by omega)⟩
 have hlast:cs.toList.drop 136 = [vm]:=by
  have h136:136<cs.toList.length:=by omega
  rw[List.getElem?_eq_getElem h136]at hvm
  rw[List.drop_eq_getElem_cons h136,Option.some.inj hvm,List.drop_of_length_le (by omega)]
 have hcell3:Cell.okWide Tryz.prog w r b0 29 vm:=by
  obtain⟨u,hu,hok⟩:=hcell 136 vm (by rw[<-Array.getElem?_toList];exact hvm)
  rw[hl137,show 136%137=136 from rfl,h136]at hu
  cases hu
  exact hok
 have x3':DataW.trod enc Tryz.prog w base spare held n 29 [vm]=some y3:=by
  rw[<-e3,<-x3]
  show _=DataW.trod enc Tryz.prog w base spare held n 29 ((cs.toList.drop 136).take (Tryz.prog.cellsOf 29))
  rw[hlast,show Tryz.prog.cellsOf 29=1 by kernel_rfl]
  rfl
 obtain⟨l,hl1,hl2,hl3⟩:=Pn Tryz.underlying29 hcell3 x3'
 refine⟨IF g0,Jk g1,lint (g2 0),l,vm,Ox ok0,OR ok1,bounds_u8 (ok_int ok2 (j:=0) rfl),hl1,hl2,hl3,fun β c hc=>?_⟩
 have f0:cs.toList.take 131=(f6 (IF g0)).map (·.den β):=by
  rw[<-IP,<-d0 β]
  show _=(cs.toList.drop 0).take (Tryz.prog.cellsOf 26)
  rw[NK.1];rfl
 have f1:(cs.toList.drop 131).take 4=(gV (Jk g1)).map (·.den β):=by
  rw[<-IQ,<-d1 β]
  show _=(cs.toList.drop 131).take (Tryz.prog.cellsOf 28)
  rw[NL.1];rfl
 have f2:(cs.toList.drop 135).take 1 = [(XC.int .u8 (lint (g2 0))).den β]:=by
  have:=d2 β
  have e:(cs.toList.drop 135).take (Tryz.prog.cellsOf 5) = [(XC.int .u8 (lint (g2 0))).den β]:=this
  rw[Bc.1]at e
  exact e
 have h1:cs.toList=cs.toList.take 131++((cs.toList.drop 131).take 4++((cs.toList.drop 135).take 1++cs.toList.drop 136)):=by
  have a1:=(List.take_append_drop 131 cs.toList).symm
  have a2:=(List.take_append_drop 4 (cs.toList.drop 131)).symm
  have a3:=(List.take_append_drop 1 (cs.toList.drop 135)).symm
  rw[List.drop_drop]at a2 a3
  rw[<-a3,<-a2,<-a1]
 have h2:cs.toList=(gI (IF g0) (Jk g1) (lint (g2 0)) c).map (·.den β):=by
  rw[h1,f0,f1,f2,hlast]
  unfold gI
  rw[List.map_append,List.map_append,<-hc]
  rfl
 rw[<-h2]
end
end Go.Proofs.YtagpkhindehcbaaGreat
namespace Go.Proofs.YtagpkhindehcbaaGreat.partAny
open Go.ChangeShapes Go.WideShapes Go.ChangeAt Go.RowKit Go.Xm
theorem own:ownKnob Tryz.prog.godebug=none:=by kernel_rfl
theorem laidOut:laidOutB Tryz.prog=true:=by kernel_rfl
theorem wf_u8[ax]{l:List Int}(h:∀z∈l,(Lit.int .u8 z).wf=true):bQ l:=fun p=>iy (p:=fun z=>0<=z/\z<256) (fun z hz=>by have:=bounds_u8 (h z hz);omega) (by decide) p
set_option maxRecDepth 100000 in
theorem uJ[ax]{H:Type}{enc:TypeId×Value->H}{W:World}{r:Reach}{base b0:Nat}{spare:Nat->Bool}{held:Bool}{v:Value}(hv:Value.okWide Tryz.prog W r b0 38 v){fuel:Nat}{x:DataW H×List MemPlace}(hf:DataW.trod enc Tryz.prog W base spare held fuel 38 v.cells.toList=some x):∃l:List Int,bQ l/\l.length<=9223372036854775807/\kI W v (il .u8 l) l.length:=by
 unfold Value.okWide at hv
 rw[Tryz.underlying38]at hv
 have hv:Cell.okWide Tryz.prog W r b0 38 v:=hv
 have hone:v.cells.toList = [v]:=by
  have h:=hv
  unfold Cell.okWide at h
  rw[Tryz.underlying38]at h
  have hck:Cell.ok Tryz.prog W r b0 38 v:=h
  unfold Cell.ok at hck
  rw[Tryz.underlying38]at hck
  split at hck<;>first
   | rfl
   | (cases hck)
 rw[hone]at hf
 obtain⟨l,w,n,sl⟩:=FX Tryz.underlying38 Tryz.underlying5 (by kernel_rfl) hv hf
 exact⟨l,wf_u8 w,n,sl⟩
theorem walk[ax]{W:World}{v vx vy vz:Value}{h:Hd}{p:Ph}{f:Int}{l:List Sm}{vm:Value}(hh:tj h)(hp:qi p)(hf:0<=f/\f<=255)(hl:∀j,j<l.length->kE (l.getD j default))(hn:l.length<=9223372036854775807)(hm:kI W vm (fl r6 l) l.length)(hv:∀(β : Env) (c:XC),c.den β = vm->v = .agg ((gI h p f c).map (·.den β)).toArray){x y z:List Int}(hx:bQ x)(nx:x.length<=9223372036854775807)(sx:kI W vx (il .u8 x) x.length)(hy:bQ y)(ny:y.length<=9223372036854775807)(sy:kI W vy (il .u8 y) y.length)(hz:bQ z)(nz:z.length<=9223372036854775807)(sz:kI W vz (il .u8 z) z.length){at_ by_:Int}(hat:0<=at_/\at_<=65535)(hby:0<=by_/\by_<=255) :
 Calls Tryz.prog 5 #[v,vx,vy,vz,.int .u16 at_,.int .u8 by_] W fun e w'=>e = .returned (.bool true)/\Below W.heap.size W w':=by
 obtain⟨c0,o0,b0,lo0,sz0,a1,a2,a3,a4,a5,a6,a7⟩:=zm (y8 (enc:=r6) l) L0 0 hm
 obtain⟨c1,o1,b1,lo1,sz1,d1,d2,d3,d4,d5,d6,d7⟩:=zm (t7 _ _) za 1 sx
 obtain⟨c2,o2,b2,lo2,sz2,e1,e2,e3,e4,e5,e6,e7⟩:=zm (t7 _ _) za 2 sy
 obtain⟨c3,o3,b3,lo3,sz3,g1,g2,g3,g4,g5,g6,g7⟩:=zm (t7 _ _) za 3 sz
 have hc:=Bp hh hp hf hl (uy.in a3 a4) a2 hn (RO.in d3 d4) (RO.in e3 e4) (RO.in g3 g4) d2 e2 g2 hx hy hz nx ny nz hat hby
 let β : Env:=⟨fun i=>if i=0 then b0 else if i=1 then b1 else if i=2 then b2 else b3,fun i=>if i=0 then lo0 else if i=1 then lo1 else if i=2 then lo2 else lo3,fun i=>if i=0 then sz0 else if i=1 then sz1 else if i=2 then sz2 else sz3⟩
 have r0:aO β 4 (.one c0) vm:=a7 β 4 (by omega) rfl rfl
 have r1:aO β 4 (.one c1) vx:=d7 β 4 (by omega) rfl rfl
 have r2:aO β 4 (.one c2) vy:=e7 β 4 (by omega) rfl rfl
 have r3:aO β 4 (.one c3) vz:=g7 β 4 (by omega) rfl rfl
 refine Ie hc (β := β) (Nat.le_of_ble_eq_true rfl) (fun i o ho=>?_) (fun o ho=>?_) (vs:=[v,vx,vy,vz,.int .u16 at_,.int .u8 by_]) ?_
 ·match i,ho with
  | 0,ho=>cases ho;exact a6 _ _
  | 1,ho=>cases ho;exact d6 _ _
  | 2,ho=>cases ho;exact e6 _ _
  | 3,ho=>cases ho;exact g6 _ _
  | i+4,ho=>simp at ho
 ·simp only[List.mem_cons,List.not_mem_nil,or_false]at ho
  rcases ho with rfl|rfl|rfl|rfl
  ·exact a5
  ·exact d5
  ·exact e5
  ·exact g5
 ·exact .cons ⟨BL h p f r0.1,hv β c0 r0.2.symm⟩ (.cons r1 (.cons r2 (.cons r3 (.cons ⟨trivial,rfl⟩ (.cons ⟨trivial,rfl⟩ .nil)))))
def RE:Value := .agg (#[.int .i64 0,.int .i64 0,.bool false]++Array.replicate 128 (.int .u8 0) ++ #[.int .i64 0,.bool false,.bool false,.int .i64 0,.int .u8 0,.slice none 0 0])
set_option maxRecDepth 100000 in
theorem lifted(os:Os)(started:os.Started)(H:Type)(enc:TypeId×Value->H) :
 ReturnsInHanded {} Tryz.checked os 5 .any (Rows.partAnySpec.pre6 enc Tryz.prog Tryz.f5 Rows.partAnyRow.domain false) (Rows.partAnySpec.post enc Tryz.prog Tryz.f5 false true false false):=by
 letI:ax:=⟨fun _ => .int .u8 0,fun _=>⟨rfl,rfl⟩⟩
 refine returnsInHanded_of_change (C:=Tryz.checked) own started (by kernel_rfl) Tryz.func5
  (ChangeSpec.witness6 (enc:=enc) (C:=Tryz.checked) false ⟨#[],#[RE,.slice none 0 0,.slice none 0 0,.slice none 0 0,.int .u16 0,.int .u8 0],[]⟩ 8 (by kernel_rfl) (by kernel_rfl) (by kernel_rfl) (by kernel_rfl)) ?_
 intro W base args ds gs before hval0 hW hcnd _
 have hval:∀(j:Nat) t v,Tryz.f5.params[j]? = some t->args[j]? = some v->Value.okWide Tryz.prog W .any base t v:=hval0
 have hW':=hW
 obtain⟨p,q,hA0,hV,rfl,hfz,hnd⟩:=hW
 have hA:DataW.TrodAll enc Tryz.prog W 0 (fun _=>true) true Tryz.f5.params.toList args.toList ds p:=hA0
 rw[Tryz.params5]at hA hval
 obtain⟨v0,vs0,d0,ds0,p0,q0,hargs,rfl,rfl,h0,r0⟩:=trodAll_cons hA
 obtain⟨v1,vs1,d1,ds1,p1,q1,rfl,rfl,rfl,h1,r1⟩:=trodAll_cons r0
 obtain⟨v2,vs2,d2,ds2,p2,q2,rfl,rfl,rfl,h2,r2⟩:=trodAll_cons r1
 obtain⟨v3,vs3,d3,ds3,p3,q3,rfl,rfl,rfl,h3,r3⟩:=trodAll_cons r2
 obtain⟨v4,vs4,d4,ds4,p4,q4,rfl,rfl,rfl,h4,r4⟩:=trodAll_cons r3
 obtain⟨v5,vs5,d5,ds5,p5,q5,rfl,rfl,rfl,h5,r5⟩:=trodAll_cons r4
 obtain⟨rfl,rfl,rfl⟩:=trodAll_nil r5
 obtain rfl:args = #[v0,v1,v2,v3,v4,v5]:=by cases args;simp_all
 obtain⟨rfl,rfl⟩:=trodVars_none hV
 have k0:=h0
 have k1:=h1
 have k2:=h2
 have k3:=h3
 have lt0:∀x∈p0,x.block<W.heap.size:=by obtain⟨m,hm⟩:=k0;exact DataW.trod_lt m _ _ _ hm
 have lt1:∀x∈p1,x.block<W.heap.size:=by obtain⟨m,hm⟩:=k1;exact DataW.trod_lt m _ _ _ hm
 have lt2:∀x∈p2,x.block<W.heap.size:=by obtain⟨m,hm⟩:=k2;exact DataW.trod_lt m _ _ _ hm
 have lt3:∀x∈p3,x.block<W.heap.size:=by obtain⟨m,hm⟩:=k3;exact DataW.trod_lt m _ _ _ hm
 obtain⟨m0,t0'⟩:=h0
 obtain⟨m1,t1'⟩:=h1
 obtain⟨m2,t2'⟩:=h2
 obtain⟨m3,t3'⟩:=h3
 obtain⟨h,p',f,l,vm,a1,a2,a3,a4,a5,a6,a7⟩:=J8 (hval 0 _ v0 rfl rfl) t0'
 obtain⟨x,x1,x2,x3⟩:=uJ (hval 1 _ v1 rfl rfl) t1'
 obtain⟨y,y1,y2,y3⟩:=uJ (hval 2 _ v2 rfl rfl) t2'
 obtain⟨z,z1,z2,z3⟩:=uJ (hval 3 _ v3 rfl rfl) t3'
 obtain⟨at_,rfl,rfl,rfl,w1⟩:=open_int Tryz.underlying62 (hval 4 62 v4 rfl rfl) h4
 obtain⟨by_,rfl,rfl,rfl,w2⟩:=open_int Tryz.underlying5 (hval 5 5 v5 rfl rfl) h5
 have hat:=bounds_u16 w1
 have hby:=bounds_u8 w2
 refine(walk a1 a2 a3 a4 a5 a6 a7 x1 x2 x3 y1 y2 y3 z1 z2 z3 hat hby).mono fun e W' ⟨he,bel⟩=>?_
 subst he
 exact⟨_,rfl,_,_,_,[],_,[],hW',trodAll_mk1 (shut_bool Tryz.underlying4 _),(trodAll_cons_mk (Below.trod laidOut (by kernel_rfl) (of_decide_eq_true (by kernel_rfl)) k0 bel lt0) (trodAll_cons_mk (Below.trod laidOut (by kernel_rfl) (of_decide_eq_true (by kernel_rfl)) k1 bel lt1) (trodAll_cons_mk (Below.trod laidOut (by kernel_rfl) (of_decide_eq_true (by kernel_rfl)) k2 bel lt2) (trodAll_cons_mk (Below.trod laidOut (by kernel_rfl) (of_decide_eq_true (by kernel_rfl)) k3 bel lt3) (trodAll_cons_mk (shut_int Tryz.underlying62 w1) (trodAll_cons_mk (shut_int Tryz.underlying5 w2) trodAll_mk0)))))),rfl,bel.frame _,fun h=>by cases h⟩
theorem Rw:Rows.partAnyRow.holds Tryz.pinned (OpenSpec.ofChange Rows.partAnySpec):=
 OpenClaim.holds_of_wide 5 Tryz.f5 rfl rfl rfl rfl rfl rfl rfl ⟨rfl,rfl,rfl,rfl,rfl⟩ rfl rfl rfl rfl rfl (by kernel_rfl) Tryz.func5 (by kernel_rfl)
  (of_decide_eq_true (by kernel_rfl)) (by unfold Func.isWrapper;first|(rw[if_pos (by decide +kernel)];kernel_rfl)|(rw[if_neg (by decide +kernel)];exact⟨rfl,rfl⟩))
  (fun os started H enc _=>lifted os started H enc)
theorem proved:Rows.PartAnySaid:=Rw
end Go.Proofs.YtagpkhindehcbaaGreat.partAny
