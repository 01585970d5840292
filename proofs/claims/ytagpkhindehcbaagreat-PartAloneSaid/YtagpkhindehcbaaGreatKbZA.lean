/-
  'Rows.PartAloneSaid': for all its arguments the law returns true, and each argument reads behind the call as it read before.
-/
import Derived.Test.YtagpkhindehcbaaGreatKbI
import Derived.Test.YtagpkhindehcbaaGreatKbY
import Derived.Test.YtagpkhindehcbaaGreatKbZ
import Derived.OpenShut
import Derived.Test.YtagpkhindehcbaaGreatRows
set_option linter.unusedVariables false
set_option linter.unusedSectionVars false
set_option linter.unusedSimpArgs false
namespace Go.Proofs.YtagpkhindehcbaaGreat
open Go.Xm
variable [aC]
theorem G6 {l:List Mb} {first:Int} {x0:PS}:∀ k e,gw l first x0 k = .inl e→e≠0:=by
 intro k
 induction k with
 | zero=>intro e h;cases h
 | succ k ih=>
   intro e h
   rw [gw]at h
   split at h
   · rename_i e' he
     cases h
     exact ih _ he
   · unfold lh at h
     split at h
     · rename_i hc
       cases h
       exact hc
     · split at h
       · cases h;decide
       · cases h
theorem G5 {h:Hd} {p:Ph} {l:List Mb} {first e:Int}(hp:sw h p l first = .inl e):e≠0:=by
 unfold sw at hp
 split at hp
 · rename_i e' he
   cases hp
   exact G6 _ _ he
 · split at hp
   · cases hp;decide
   · cases hp
structure Iy (h:Hd) (p:Ph) (l:List Mb) (ft:Int) (a b:List Int):Prop where
 na:a.length≠0
 nb:b.length≠0
 out:∀ n,1≤n→n≤l.length→∃ q B t y,o8 h p a q B ft n∧lA B ft n ⟨sR h p,(0,false),[]⟩=t∧gw l ft (sE h p) n = .inr y∧yd l ft (sE h p) n y t∧yC B t.r=if n<l.length then 13 else 0
theorem Dr {l:List Int}(hl:ej l) (h:l.length≠0):(gJ l l.length).1.length≠0:=fun e=>by
 have h1:=wx hl
 rw [List.length_eq_zero_iff.1 e]at h1
 have h2:some ([]:List Int)=some l:=h1
 cases h2
 exact h rfl
theorem rX:∀(l:List Int) (z:Int),(∀ b∈l,0≤b∧b<256)→∀ b∈oL z l,0≤b∧b<256
 | [],z,_=>fun b hb=>by cases hb
 | x :: t,z,h=>fun b hb=>by
   have hx:=h x (List.mem_cons_self ..)
   have ht:∀ b∈t,0≤b∧b<256:=fun b hb=>h b (List.mem_cons_of_mem _ hb)
   rw [oL]at hb
   split at hb
   · rcases List.mem_cons.1 hb with rfl|hb
     · omega
     · rcases List.mem_cons.1 hb with rfl|hb
       · exact hx
       · exact rX t _ ht b hb
   · rcases List.mem_cons.1 hb with rfl|hb
     · exact hx
     · exact rX t _ ht b hb
theorem Dq (l:List Int) (hl:ej l):ej (gJ l l.length).1:=fun i=>by
 rw [wu]
 refine jd (p:=fun z=>0≤z∧z<256) (rX l 0 fun b hb=>?_) (by decide) i
 obtain⟨j,hj,rfl⟩:=List.mem_iff_getElem.1 hb
 have:=hl j
 rw [List.getD_eq_getElem?_getD,List.getElem?_eq_getElem hj]at this
 exact this
theorem Ga {h:Hd} {p:Ph} {l:List Mb} {first:Int}(hT:iJ h p l first) {a b:List Int}(hp:sw h p l first = .inr (a,b)):Iy h p l first a b:=by
 unfold sw at hp
 split at hp
 · cases hp
 · rename_i x hx
   split at hp
   · cases hp
   · rename_i hl
     cases hp
     have hi:=sD hT l.length (Nat.le_refl _) x hx
     have h16:=hT.few
     have hB:=hi.len
     have hw1:(wr (x.B++[true])).length≠0:=by rw [fC,List.length_append,List.length_cons,List.length_nil];omega
     have hw2:(wr (x.w++[true])).length≠0:=by rw [fC,List.length_append,List.length_cons,List.length_nil];omega
     refine⟨Dr (iz _) hw1,Dr (iz _) hw2,fun n hn1 hn=>?_⟩
     obtain⟨t,y,h1,h2,h3,h4⟩:=Cg hT hx hn
     refine⟨wr (x.B++[true]),x.B,t,y,⟨hT.hd,hT.ph,Dq _ (iz _),by omega,wx (iz _),Hn _,by rw [fC,List.length_append];simp;omega,F_ _ (by omega),hT.pos,hn1,by have:=hT.all;omega⟩,h1,h2,h3,h4⟩
theorem sh {h:Hd} {p:Ph}(hp:my p) {f:Int}(hf:0≤f∧f≤255) {l:List Sm}(hl:∀ j,j<l.length→i7 (l.getD j default)):iJ (four h) (oc p) (ib h p f l) (dZ h f)∧(ib h p f l).length≤9:=by
 obtain⟨ho,c1,c2,c3,c4⟩:=Ac h
 have hcr:=jL ho.dims
 have hpo:=z7 hp
 have hF:0≤dZ h f∧dZ h f<(four h).cols*(four h).rows:=by
  unfold dZ
  exact⟨Int.emod_nonneg _ (by omega),Int.emod_lt_of_pos _ (by omega)⟩
 have hm:=D3 hl (oc p).inter hpo.qp (room:=(four h).cols*(four h).rows-dZ h f) (by omega)
 obtain⟨m1,m2,m3,m4⟩:=hm
 obtain⟨L,hL⟩:∃ L,ib h p f l=L:=⟨_,rfl⟩
 have hL2:mE l (oc p).inter (oc p).qp ((four h).cols*(four h).rows-dZ h f)=L:=hL
 rw [hL2]at m1 m2 m3 m4
 rw [hL]
 refine⟨⟨ho,hpo,fun m hmm=>?_,hF.1,m2,by omega,by omega⟩,m3⟩
 obtain⟨j,hj,rfl⟩:=List.mem_iff_getElem.1 hmm
 have:=m1.mok j hj
 rw [List.getD_eq_getElem?_getD,List.getElem?_eq_getElem hj,Option.getD_some]at this
 exact this
set_option maxRecDepth 10000 in
set_option maxHeartbeats 8000000 in
theorem tK {h h':Hd} {p p':Ph}(hh:oh h) (hh':oh h') (hp:my p) (hp':my p') {f f':Int}(hf:0≤f∧f≤255) (hf':0≤f'∧f'≤255) {l l':List Sm}(hl:∀ j,j<l.length→i7 (l.getD j default)) (hl':∀ j,j<l'.length→i7 (l'.getD j default)) {o0 o1:ak}(ho:v_ o0 oy l) (ho':v_ o1 oy l') {c c':XC}(hc:gl c 0 0 l.length) (hc':gl c' 1 0 l'.length) (hn:l.length≤9223372036854775807) (hn':l'.length≤9223372036854775807) {cnt:Int}(hcnt:0≤cnt∧cnt≤255) :
 bq Tryz.prog 3 [.agg (fj h p f c),.agg (fj h' p' f' c'),.one (.int .u8 cnt)] [o0,o1] (.one (.bool true)) [o0,o1]:=by
 have hfo:=ho.flat
 have hfo':=ho'.flat
 obtain⟨hT,h9⟩:=sh (h:=h) hp hf hl
 obtain⟨hT',h9'⟩:=sh (h:=h') hp' hf' hl'
 obtain⟨G,hG⟩:∃ G,four h=G:=⟨_,rfl⟩
 obtain⟨P,hP⟩:∃ P,oc p=P:=⟨_,rfl⟩
 obtain⟨F,hF⟩:∃ F,dZ h f=F:=⟨_,rfl⟩
 obtain⟨L,hL⟩:∃ L,ib h p f l=L:=⟨_,rfl⟩
 obtain⟨cap,hcap⟩:∃ x,Bh l.length=x:=⟨_,rfl⟩
 obtain⟨opn,hopn⟩:∃ x,yY l.length=x:=⟨_,rfl⟩
 obtain⟨G',hG'⟩:∃ G,four h'=G:=⟨_,rfl⟩
 obtain⟨P',hP'⟩:∃ P,oc p'=P:=⟨_,rfl⟩
 obtain⟨F',hF'⟩:∃ F,dZ h' f'=F:=⟨_,rfl⟩
 obtain⟨L',hL'⟩:∃ L,ib h' p' f' l'=L:=⟨_,rfl⟩
 obtain⟨cap',hcap'⟩:∃ x,Bh l'.length=x:=⟨_,rfl⟩
 obtain⟨opn',hopn'⟩:∃ x,yY l'.length=x:=⟨_,rfl⟩
 rw [hG,hP,hF,hL]at hT
 rw [hL]at h9
 rw [hG',hP',hF',hL']at hT'
 rw [hL']at h9'
 have hm:=hT.many
 have hm':=hT'.many
 have hro:v_ (.cells (fl mC L) 53 opn false) mC L:=⟨fun _=>⟨_,_,_,rfl⟩,inferInstance⟩
 have hro':v_ (.cells (fl mC L') 53 opn' false) mC L':=⟨fun _=>⟨_,_,_,rfl⟩,inferInstance⟩
 obtain⟨n,hln⟩:∃ n,L.length=n:=⟨_,rfl⟩
 obtain⟨n',hln'⟩:∃ n,L'.length=n:=⟨_,rfl⟩
 rw [hln]at h9 hm
 rw [hln']at h9' hm'
 cases hr:sw G P L F with
 | inl e=>
   have he:=G5 hr
   refine cO Tryz.func3 ?_
   repeat' (first
    |(refine qz ?_;first
     |refine cl ?_ (hi:=by exact rL rfl)
     |refine jq ?_ (hle:=by first|rw [ly]|rw [bn])
     |refine cl ?_ (hi:=by exact pr hh hp hf hl ho hc hn hG hP hF hL hcap hopn hln rfl nL nA rfl)
     |refine qA (zs:=gC ⟨0,0,false,fun _=>0,fun _=>0⟩) (hz:=tp) ?_
     |refine qA (zs:=iC ⟨0,false,false,0⟩) (hz:=vZ) ?_
     |refine jC (cs:=gC G) ?_ (hs1:=by rw [bn]) (hs2:=by rw [bn])
     |refine jC (cs:=iC P) ?_
     |refine cl ?_ (hi:=by exact yV nL (by simp only [ff,List.cons_append,List.nil_append];exact rfl) rfl)
     |refine cl ?_ (hi:=by exact vd hT hro hr hln rfl rfl (by decide) rfl))
    |refine zG ?_|refine zA ?_|refine cX (fun _=>?_) (fun _=>?_)|refine aS (fun _=>?_) (fun _=>?_)|refine zL ?_|refine zF ?_|fail)
   show aF _ _ _ _ _ _ _ _;refine kV [0,1] ?_
   rfl
 | inr ab=>
   obtain⟨a,b⟩:=ab
   have hB:=Ga hT hr
   obtain⟨k,hk⟩:∃ k:Nat,k=1+cnt.toNat%n:=⟨_,rfl⟩
   have hkn:1≤k∧k≤n:=by have:=Nat.mod_lt cnt.toNat (show 0<n by omega);omega
   have hz:1+cnt%(n:Int)=(k:Nat):=by
    rw [hk]
    have:(cnt.toNat:Int)=cnt:=by omega
    rw [←this,Int.natCast_add,Int.natCast_emod]
    rfl
   obtain⟨q,B,t,y,hTk,ht,_,_,hend⟩:=hB.out k hkn.1 (by omega)
   rw [hln]at hend
   have hna:=hB.na
   have hnb:=hB.nb
   by_cases hlt:k<n
   · rw [if_pos hlt]at hend
     rcases hr':sw G' P' L' F' with e|⟨a',b'⟩
     all_goals
      refine cO Tryz.func3 ?_
      repeat' (first
       |(refine qz ?_;first
        |refine cl ?_ (hi:=by exact rL rfl)
        |refine jq ?_ (hle:=by first|rw [ly]|rw [bn])
        |refine cl ?_ (hi:=by exact pr hh hp hf hl ho hc hn hG hP hF hL hcap hopn hln rfl nL nA rfl)
        |refine qA (zs:=gC ⟨0,0,false,fun _=>0,fun _=>0⟩) (hz:=tp) ?_
        |refine qA (zs:=iC ⟨0,false,false,0⟩) (hz:=vZ) ?_
        |refine jC (cs:=gC G) ?_ (hs1:=by rw [bn]) (hs2:=by rw [bn])
        |refine jC (cs:=iC P) ?_
        |refine cl ?_ (hi:=by exact yV nL (by simp only [ff,List.cons_append,List.nil_append];exact rfl) rfl)
        |refine cl ?_ (hi:=by exact rp hT hro hr hln rfl rfl (by decide) nL (by simp only [ff,List.cons_append,List.nil_append];exact rfl) rfl)
        |refine cl ?_ (hi:=by exact pr hh' hp' hf' hl' ho' hc' hn' hG' hP' hF' hL' hcap' hopn' hln' rfl nL (by simp only [ff,List.cons_append,List.nil_append];exact rfl) rfl)
        |refine jC (cs:=gC G') ?_ (hs1:=by rw [bn]) (hs2:=by rw [bn])
        |refine jC (cs:=iC P') ?_
        |refine cl ?_ (hi:=by exact vd hT' hro' hr' hln' rfl rfl (by decide) rfl)
        |refine cl ?_ (hi:=by exact rp hT' hro' hr' hln' rfl rfl (by decide) nL (by simp only [ff,List.cons_append,List.nil_append];exact rfl) rfl)
        |refine K7 hna ?_
        |refine K7 hnb ?_
        |refine Md ?_
        |refine cl ?_ (hi:=by exact E9 hTk ht hend (by decide) hz rfl rfl rfl (by decide) rfl))
       |refine zG ?_|refine zA ?_|refine cX (fun _=>?_) (fun _=>?_)|refine aS (fun _=>?_) (fun _=>?_)|refine zL ?_|refine zF ?_|fail)
      show aF _ _ _ _ _ _ _ _;refine kV [0,1] ?_
      rfl
   · rw [if_neg hlt]at hend
     rcases hr':sw G' P' L' F' with e|⟨a',b'⟩
     all_goals
      refine cO Tryz.func3 ?_
      repeat' (first
       |(refine qz ?_;first
        |refine cl ?_ (hi:=by exact rL rfl)
        |refine jq ?_ (hle:=by first|rw [ly]|rw [bn])
        |refine cl ?_ (hi:=by exact pr hh hp hf hl ho hc hn hG hP hF hL hcap hopn hln rfl nL nA rfl)
        |refine qA (zs:=gC ⟨0,0,false,fun _=>0,fun _=>0⟩) (hz:=tp) ?_
        |refine qA (zs:=iC ⟨0,false,false,0⟩) (hz:=vZ) ?_
        |refine jC (cs:=gC G) ?_ (hs1:=by rw [bn]) (hs2:=by rw [bn])
        |refine jC (cs:=iC P) ?_
        |refine cl ?_ (hi:=by exact yV nL (by simp only [ff,List.cons_append,List.nil_append];exact rfl) rfl)
        |refine cl ?_ (hi:=by exact rp hT hro hr hln rfl rfl (by decide) nL (by simp only [ff,List.cons_append,List.nil_append];exact rfl) rfl)
        |refine cl ?_ (hi:=by exact pr hh' hp' hf' hl' ho' hc' hn' hG' hP' hF' hL' hcap' hopn' hln' rfl nL (by simp only [ff,List.cons_append,List.nil_append];exact rfl) rfl)
        |refine jC (cs:=gC G') ?_ (hs1:=by rw [bn]) (hs2:=by rw [bn])
        |refine jC (cs:=iC P') ?_
        |refine cl ?_ (hi:=by exact vd hT' hro' hr' hln' rfl rfl (by decide) rfl)
        |refine cl ?_ (hi:=by exact rp hT' hro' hr' hln' rfl rfl (by decide) nL (by simp only [ff,List.cons_append,List.nil_append];exact rfl) rfl)
        |refine K7 hna ?_
        |refine K7 hnb ?_
        |refine Md ?_
        |refine cl ?_ (hi:=by exact E_ hTk ht hend hz rfl rfl rfl (by decide) nL (by simp only [ff,List.cons_append,List.nil_append];exact rfl) rfl))
       |refine zG ?_|refine zA ?_|refine cX (fun _=>?_) (fun _=>?_)|refine aS (fun _=>?_) (fun _=>?_)|refine zL ?_|refine zF ?_|fail)
      show aF _ _ _ _ _ _ _ _;refine kV [0,1] ?_
      rfl
end Go.Proofs.YtagpkhindehcbaaGreat
namespace Go.Xm
inductive dM where
 | int (k:IntKind)
 | bool
def dM.has:dM→Value→Prop
 | .int k,v=>∃ z,v = .int k z∧(Lit.int k z).wf=true
 | .bool,v=>∃ b,v = .bool b
def lint:Value→Int
 | .int _ z=>z
 | _=>0
def sc:Value→Bool
 | .bool b=>b
 | _=>false
def dM.cell (l:dM) (v:Value):XC:=match l with
 | .int k => .int k (lint v)
 | .bool => .bool (sc v)
theorem dM.den [aC] {l:dM} {v:Value}(h:l.has v) (β : Env):(l.cell v).den β = v:=by
 cases l with
 | int k=>obtain⟨z,rfl,_⟩:=h;rfl
 | bool=>obtain⟨b,rfl⟩:=h;rfl
def fb (P:Program) (t:TypeId) (ks:List dM):Prop:=
 P.cellsOf t=ks.length∧∀(H:Type) (enc:TypeId × Value→H) (w:World) (base:Nat) (spare:Nat→Bool) (held:Bool) (fuel:Nat) (cs:List Value) (x:DataW H × List MemPlace),
  DataW.trod enc P w base spare held fuel t cs=some x→cs.length=ks.length∧∀(j:Nat) (l:dM),ks[j]? = some l→∃ v,cs[j]? = some v∧l.has v
variable {P:Program} {t:TypeId}
theorem fb.int {k:IntKind}(ht:P.underlying t=some (.int k)) (hc:P.cellsOf t=1):fb P t [.int k]:=by
 refine⟨hc,fun H enc w base spare held fuel cs x h=>?_⟩
 obtain⟨n,rfl,_,hw⟩:=DataW.trod_int ht h
 refine⟨rfl,fun j l hj=>?_⟩
 match j,hj with
 | 0,hj=>cases hj;exact⟨_,rfl,n,rfl,hw⟩
 | j+1,hj=>simp at hj
theorem fb.bool (ht:P.underlying t=some .bool) (hc:P.cellsOf t=1):fb P t [.bool]:=by
 refine⟨hc,fun H enc w base spare held fuel cs x h=>?_⟩
 obtain⟨b,rfl,_⟩:=DataW.trod_bool ht h
 refine⟨rfl,fun j l hj=>?_⟩
 match j,hj with
 | 0,hj=>cases hj;exact⟨_,rfl,b,rfl⟩
 | j+1,hj=>simp at hj
def iD (ks:List dM):Nat→List dM
 | 0=>[]
 | n+1=>ks++iD ks n
theorem lq (ks:List dM):∀ n,(iD ks n).length=n*ks.length
 | 0=>by simp [iD]
 | n+1=>by rw [iD,List.length_append,lq ks n,Nat.add_mul,Nat.one_mul,Nat.add_comm]
theorem xn {ks:List dM} {l:dM}:∀(n j:Nat),(iD ks n)[j]? = some l→∃ i r,i<n∧j=i*ks.length+r∧ks[r]? = some l
 | 0,j,h=>by simp [iD]at h
 | n + 1,j,h=>by
   rw [iD]at h
   by_cases hj:j<ks.length
   · rw [List.getElem?_append_left hj]at h
     exact⟨0,j,Nat.succ_pos _,by simp,h⟩
   · rw [List.getElem?_append_right (by omega)]at h
     obtain⟨i,r,hi,hr,hl⟩:=xn n (j-ks.length) h
     exact⟨i+1,r,by omega,by rw [Nat.add_mul,Nat.one_mul];omega,hl⟩
theorem fb.array {n:Nat} {e:TypeId} {ks:List dM}(ht:P.underlying t=some (.array n e)) (he:fb P e ks) (hc:P.cellsOf t=n*ks.length):fb P t (iD ks n):=by
 refine⟨by rw [hc,lq],fun H enc w base spare held fuel cs x h=>?_⟩
 obtain⟨xs,m,_,_,hlen,hxl,hx⟩:=DataW.trod_array ht h
 refine⟨by rw [hlen,hc,lq],fun j l hj=>?_⟩
 obtain⟨i,r,hi,rfl,hr⟩:=xn n j hj
 have hxi:xs[i]? = some (xs[i]'(by omega)):=List.getElem?_eq_getElem (by omega)
 obtain⟨hl,hv⟩:=he.2 H enc w base spare held m _ _ ((hx i hi).trans hxi)
 obtain⟨v,hv1,hv2⟩:=hv r l hr
 refine⟨v,?_,hv2⟩
 have hrl:r<ks.length:=(List.getElem?_eq_some_iff.1 hr).1
 rw [he.1,List.getElem?_take_of_lt hrl,List.getElem?_drop]at hv1
 exact hv1
theorem Bv {kss:List (List dM)} {l:dM}:∀ {j:Nat},kss.flatten[j]? = some l→∃ i ks r,kss[i]? = some ks∧j=((kss.take i).flatten).length+r∧ks[r]? = some l:=by
 induction kss with
 | nil=>intro j h;simp at h
 | cons ks kss ih=>
   intro j h
   rw [List.flatten_cons]at h
   by_cases hj:j<ks.length
   · rw [List.getElem?_append_left hj]at h
     exact⟨0,ks,j,rfl,by simp,h⟩
   · rw [List.getElem?_append_right (by omega)]at h
     obtain⟨i,ks',r,h1,h2,h3⟩:=ih h
     refine⟨i+1,ks',r,h1,?_,h3⟩
     rw [List.take_succ_cons,List.flatten_cons,List.length_append]
     omega
theorem fb.struct {fs:Array Field}(kss:List (List dM)) (ht:P.underlying t=some (.struct fs)) (hn:kss.length=fs.size) (hf:∀(i:Nat) (f:Field) (ks:List dM),fs[i]? = some f→kss[i]? = some ks→fb P f.type ks∧f.offset=((kss.take i).flatten).length) (hc:P.cellsOf t=kss.flatten.length):fb P t kss.flatten:=by
 refine⟨hc,fun H enc w base spare held fuel cs x h=>?_⟩
 obtain⟨xs,m,_,_,hlen,hxl,hx⟩:=DataW.trod_struct ht h
 refine⟨by rw [hlen,hc],fun j l hj=>?_⟩
 obtain⟨i,ks,r,h1,rfl,h3⟩:=Bv hj
 have hi:i<fs.size:=by
  have:=(List.getElem?_eq_some_iff.1 h1).1
  omega
 have hfi:fs[i]? = some fs[i]:=Array.getElem?_eq_getElem hi
 obtain⟨hl,ho⟩:=hf i _ ks hfi h1
 have hxi:xs[i]? = some (xs[i]'(by omega)):=List.getElem?_eq_getElem (by omega)
 obtain⟨_,hv⟩:=hl.2 H enc w base spare held m _ _ ((hx i _ hfi).trans hxi)
 obtain⟨v,hv1,hv2⟩:=hv r l h3
 refine⟨v,?_,hv2⟩
 have hrl:r<ks.length:=(List.getElem?_eq_some_iff.1 h3).1
 rw [hl.1,List.getElem?_take_of_lt hrl,List.getElem?_drop,ho]at hv1
 exact hv1
def iF:List dM→(Nat→Value)→Nat→List XC
 | [],_,_=>[]
 | l::ks,g,j=>l.cell (g j)::iF ks g (j+1)
theorem p7:∀(ks:List dM) (g:Nat→Value) (o j:Nat),(iF ks g o)[j]? = (ks[j]?).map fun l=>l.cell (g (o+j))
 | [],g,o,j=>by simp [iF]
 | l::ks,g,o,0=>rfl
 | l::ks,g,o,j+1=>by
   rw [iF,List.getElem?_cons_succ,p7 ks g (o+1) j,List.getElem?_cons_succ]
   rw [show o+1+j=o+(j+1) by omega]
theorem J6 (ks:List dM) (g:Nat→Value):∀ o,(iF ks g o).length=ks.length:=by
 induction ks with
 | nil=>intro o;rfl
 | cons l ks ih=>intro o;rw [iF,List.length_cons,ih,List.length_cons]
def oP (ks:List dM) (g:Nat→Value) (o:Nat):Prop:=∀(j:Nat) (l:dM),ks[j]? = some l→l.has (g (o+j))
theorem t_ [aC] {ks:List dM} {cs:List Value}(hl:cs.length=ks.length) (h:∀(j:Nat) (l:dM),ks[j]? = some l→∃ v,cs[j]? = some v∧l.has v) (β : Env):cs=(iF ks (fun j=>cs.getD j .nilIface) 0).map (·.den β)∧oP ks (fun j=>cs.getD j .nilIface) 0:=by
 have hv:∀ j l,ks[j]? = some l→l.has (cs.getD j .nilIface)∧cs[j]? = some (cs.getD j .nilIface):=fun j l hj=>by
  obtain⟨v,h1,h2⟩:=h j l hj
  rw [List.getD_eq_getElem?_getD,h1]
  exact⟨h2,rfl⟩
 refine⟨List.ext_getElem? fun j=>?_,fun j l hj=>by rw [Nat.zero_add];exact(hv j l hj).1⟩
 rw [List.getElem?_map,p7,Nat.zero_add]
 by_cases hj:j<ks.length
 · have hk:ks[j]? = some ks[j]:=List.getElem?_eq_getElem hj
   obtain⟨h1,h2⟩:=hv j _ hk
   rw [hk]
   show cs[j]? = some ((ks[j].cell (cs.getD j .nilIface)).den β)
   rw [dM.den h1,h2]
 · rw [List.getElem?_eq_none (by omega),List.getElem?_eq_none (by omega)]
   rfl
end Go.Xm
namespace Go.Proofs.YtagpkhindehcbaaGreat
open Go.ChangeShapes Go.WideShapes Go.ChangeAt Go.RowKit Go.Deep Go.Xm
def DL:List dM:=[[dM.bool],iD [.int .u8] 64,iD [.int .u8] 64].flatten
def DK:List dM:=[[dM.int .i64],[.int .i64],DL].flatten
def IX:List dM:=[[dM.int .i64],[.bool],[.bool],[.int .i64]].flatten
def KC:List dM:=[iD [dM.int .i8] 4,iD [.int .i8] 4,[.bool]].flatten
def yL:List dM:=[[dM.int .u8],[.int .u8],KC,[.bool],iD [.int .u64] 6,[.int .u32],[.bool]].flatten
theorem wZ:fb Tryz.prog 5 [.int .u8] := .int Tryz.underlying5 (by kernel_rfl)
theorem KF:fb Tryz.prog 73 [.int .i8] := .int Tryz.underlying73 (by kernel_rfl)
theorem I0:fb Tryz.prog 77 [.int .u64] := .int Tryz.underlying77 (by kernel_rfl)
theorem IZ:fb Tryz.prog 79 [.int .u32] := .int Tryz.underlying79 (by kernel_rfl)
theorem u6:fb Tryz.prog 3 [.int .i64] := .int Tryz.underlying3 (by kernel_rfl)
theorem nK:fb Tryz.prog 4 [.bool] := .bool Tryz.underlying4 (by kernel_rfl)
theorem DW:fb Tryz.prog 22 (iD [.int .u8] 64) := .array Tryz.underlying22 wZ (by kernel_rfl)
theorem Ig:fb Tryz.prog 74 (iD [.int .i8] 4) := .array Tryz.underlying74 KF (by kernel_rfl)
theorem KE:fb Tryz.prog 78 (iD [.int .u64] 6) := .array Tryz.underlying78 I0 (by kernel_rfl)
theorem IY:fb Tryz.prog 24 DL:=by
 refine .struct _ Tryz.underlying24 rfl (fun i f ks hi hk=>?_) (by kernel_rfl)
 match i,hi,hk with
 | 0,hi,hk=>cases hi;cases hk;exact⟨nK,rfl⟩
 | 1,hi,hk=>cases hi;cases hk;exact⟨DW,rfl⟩
 | 2,hi,hk=>cases hi;cases hk;exact⟨DW,rfl⟩
 | i+3,hi,hk=>simp at hk
theorem Ih:fb Tryz.prog 26 DK:=by
 refine .struct _ Tryz.underlying26 rfl (fun i f ks hi hk=>?_) (by kernel_rfl)
 match i,hi,hk with
 | 0,hi,hk=>cases hi;cases hk;exact⟨u6,rfl⟩
 | 1,hi,hk=>cases hi;cases hk;exact⟨u6,rfl⟩
 | 2,hi,hk=>cases hi;cases hk;exact⟨IY,rfl⟩
 | i+3,hi,hk=>simp at hk
theorem Ii:fb Tryz.prog 28 IX:=by
 refine .struct _ Tryz.underlying28 rfl (fun i f ks hi hk=>?_) (by kernel_rfl)
 match i,hi,hk with
 | 0,hi,hk=>cases hi;cases hk;exact⟨u6,rfl⟩
 | 1,hi,hk=>cases hi;cases hk;exact⟨nK,rfl⟩
 | 2,hi,hk=>cases hi;cases hk;exact⟨nK,rfl⟩
 | 3,hi,hk=>cases hi;cases hk;exact⟨u6,rfl⟩
 | i+4,hi,hk=>simp at hk
theorem KG:fb Tryz.prog 76 KC:=by
 refine .struct _ Tryz.underlying76 rfl (fun i f ks hi hk=>?_) (by kernel_rfl)
 match i,hi,hk with
 | 0,hi,hk=>cases hi;cases hk;exact⟨Ig,rfl⟩
 | 1,hi,hk=>cases hi;cases hk;exact⟨Ig,rfl⟩
 | 2,hi,hk=>cases hi;cases hk;exact⟨nK,rfl⟩
 | i+3,hi,hk=>simp at hk
theorem Ij:fb Tryz.prog 81 yL:=by
 refine .struct _ Tryz.underlying81 rfl (fun i f ks hi hk=>?_) (by kernel_rfl)
 match i,hi,hk with
 | 0,hi,hk=>cases hi;cases hk;exact⟨wZ,rfl⟩
 | 1,hi,hk=>cases hi;cases hk;exact⟨wZ,rfl⟩
 | 2,hi,hk=>cases hi;cases hk;exact⟨KG,rfl⟩
 | 3,hi,hk=>cases hi;cases hk;exact⟨nK,rfl⟩
 | 4,hi,hk=>cases hi;cases hk;exact⟨KE,rfl⟩
 | 5,hi,hk=>cases hi;cases hk;exact⟨IZ,rfl⟩
 | 6,hi,hk=>cases hi;cases hk;exact⟨nK,rfl⟩
 | i+7,hi,hk=>simp at hk
theorem wW (a b:List dM) (g:Nat→Value):∀ o,iF (a++b) g o=iF a g o++iF b g (o+a.length):=by
 induction a with
 | nil=>intro o;rfl
 | cons l a ih=>
   intro o
   rw [List.cons_append,iF,ih,iF,List.cons_append,List.length_cons]
   rw [show o+1+a.length=o+(a.length+1) by omega]
theorem ua (k:IntKind) (g:Nat→Value):∀ n o,iF (iD [.int k] n) g o=ti k n fun i=>lint (g (o+i)):=by
 intro n
 induction n with
 | zero=>intro o;rfl
 | succ n ih=>
   intro o
   rw [iD,wW,ih]
   unfold ti
   rw [List.range_succ_eq_map,List.map_cons,List.map_map]
   show _::_=_::_
   congr 1
   refine List.map_congr_left fun i _=>?_
   show XC.int k (lint (g (o+1+i)))=XC.int k (lint (g (o+(i+1))))
   rw [show o+1+i=o+(i+1) by omega]
def DA (g:Nat→Value):Hd:=⟨lint (g 0),lint (g 1),sc (g 2),fun i=>lint (g (3+i)),fun i=>lint (g (67+i))⟩
def Ef (g:Nat→Value):Ph:=⟨lint (g 0),sc (g 1),sc (g 2),lint (g 3)⟩
def HA (g:Nat→Value):Sm:=⟨lint (g 0),lint (g 1),⟨fun i=>lint (g (2+i)),fun i=>lint (g (6+i)),sc (g 10)⟩,sc (g 11),fun i=>lint (g (12+i)),lint (g 18),sc (g 19)⟩
theorem u4:DK = [dM.int .i64,.int .i64,.bool]++(iD [.int .u8] 64++iD [.int .u8] 64):=by
 simp only [DK,DL,List.flatten_cons,List.flatten_nil,List.append_nil,List.cons_append,List.nil_append]
theorem DM (g:Nat→Value):iF DK g 0=gC (DA g):=by
 rw [u4]
 simp only [List.cons_append,List.nil_append,iF]
 rw [wW,ua,ua,lq]
 rfl
theorem DN (g:Nat→Value):iF IX g 0=iC (Ef g):=rfl
theorem DO (g:Nat→Value):iF yL g 0=oy (HA g):=rfl
theorem DP {k:IntKind} {v:Value}(h:(dM.int k).has v):(Lit.int k (lint v)).wf=true:=by
 obtain⟨z,rfl,hz⟩:=h
 exact hz
theorem sH (l:dM):∀ n,iD [l] n=List.replicate n l
 | 0=>rfl
 | n+1=>by rw [iD,sH l n,List.replicate_succ];rfl
theorem Ax (l:dM) {n i:Nat}(h:i<n) (r:List dM):(iD [l] n++r)[i]? = some l:=by
 rw [List.getElem?_append_left (by rw [sH,List.length_replicate];exact h),sH,List.getElem?_replicate,if_pos h]
theorem ok_int {ks:List dM} {g:Nat→Value}(h:oP ks g 0) {j:Nat} {k:IntKind}(hj:ks[j]? = some (.int k)):(Lit.int k (lint (g j))).wf=true:=by
 have:=DP (h j _ hj)
 rwa [Nat.zero_add]at this
theorem IS {g:Nat→Value}(h:oP DK g 0):oh (DA g):=by
 refine⟨bounds_i64 (ok_int h rfl),bounds_i64 (ok_int h rfl),fun i h64=>⟨bounds_u8 (ok_int h ?_),bounds_u8 (ok_int h ?_)⟩⟩
 · rw [Nat.add_comm]
   rw [u4]
   show(iD [dM.int .u8] 64++iD [.int .u8] 64)[i]? = _
   exact Ax _ h64 _
 · rw [show 67+i=(64+i)+3 by omega]
   rw [u4]
   show(iD [dM.int .u8] 64++iD [.int .u8] 64)[64+i]? = _
   rw [List.getElem?_append_right (by rw [lq];simp),lq]
   simp only [List.length_cons,List.length_nil,Nat.zero_add,Nat.mul_one,Nat.add_sub_cancel_left]
   rw [←List.append_nil (iD _ 64)]
   exact Ax _ h64 _
theorem Ja {g:Nat→Value}(h:oP IX g 0):my (Ef g):=⟨bounds_i64 (ok_int h rfl),bounds_i64 (ok_int h rfl)⟩
theorem JC {g:Nat→Value}(h:oP yL g 0):i7 (HA g):=by
 have i8:∀ {j},yL[j]? = some (.int .i8) → -128≤lint (g j)∧lint (g j)<128:=fun {j} hj=>by
  have:=bounds_i8 (ok_int h hj)
  omega
 have u64:∀ {j},yL[j]? = some (.int .u64)→0≤lint (g j)∧lint (g j)<18446744073709551616:=fun {j} hj=>by
  have:=bounds_u64 (ok_int h hj)
  omega
 refine⟨bounds_u8 (ok_int h rfl),bounds_u8 (ok_int h rfl),⟨fun k hk=>?_,fun k hk=>?_⟩,fun k hk=>?_,?_⟩
 · match k,hk with
   | 0,_=>exact i8 rfl
   | 1,_=>exact i8 rfl
   | 2,_=>exact i8 rfl
   | 3,_=>exact i8 rfl
 · match k,hk with
   | 0,_=>exact i8 rfl
   | 1,_=>exact i8 rfl
   | 2,_=>exact i8 rfl
   | 3,_=>exact i8 rfl
 · match k,hk with
   | 0,_=>exact u64 rfl
   | 1,_=>exact u64 rfl
   | 2,_=>exact u64 rfl
   | 3,_=>exact u64 rfl
   | 4,_=>exact u64 rfl
   | 5,_=>exact u64 rfl
 · have:=bounds_u32 (ok_int h (j:=18) rfl)
   show 0≤lint (g 18)∧lint (g 18)<4294967296
   omega
variable [aC]
section
variable {H:Type} {enc:TypeId × Value→H} {w:World} {base:Nat} {spare:Nat→Bool} {held:Bool}
set_option maxRecDepth 100000 in
theorem JD {v:Value} {b0:Nat} {r:Reach} {t:TypeId}(ht:Tryz.prog.underlying t=some (.slice 81)) (hcell:Cell.okWide Tryz.prog w r b0 t v) {fuel:Nat} {x:DataW H × List MemPlace}(hf:DataW.trod enc Tryz.prog w base spare held fuel t [v]=some x) :
 ∃ l:List Sm,(∀ j,j<l.length→i7 (l.getD j default))∧l.length≤9223372036854775807∧nC w v (fl oy l) l.length:=by
 rcases open_slice ht hf with⟨hcs,_⟩|⟨a,len,cap,m,n,D,Pl,hcs,_,hlc,hcm,hm,_,hall⟩
 · simp only [List.cons.injEq,and_true]at hcs
   exact⟨[],fun j hj=>absurd hj (Nat.not_lt_zero _),Nat.zero_le _,.inl ⟨hcs,rfl,rfl⟩⟩
 · simp only [List.cons.injEq,and_true]at hcs
   subst hcs
   have hspot:=sP ht hcell
   have hlm:len≤m:=by rw [hm];split <;> omega
   have hC:Tryz.prog.cellsOf 81=20:=Ij.1
   let g:Nat→Nat→Value:=fun i j=>(w.cell? ⟨a.block,a.off+(i*20+j),none⟩).getD .nilIface
   have hg:∀ i,i<len→oP yL (g i) 0∧∀ j,j<20→w.cell? ⟨a.block,a.off+(i*20+j),none⟩=some (g i j):=fun i hi=>by
    obtain⟨cs',hc,ht'⟩:=hall i (by omega)
    rw [hC]at hc
    obtain⟨_,hcl,hat⟩:=World.cells?_some hc
    have hat':∀ j,j<20→w.cell? ⟨a.block,a.off+(i*20+j),none⟩=cs'[j]?:=fun j hj=>by
     rw [←hat j hj,Go.Deep.add_add,tT hspot]
    have hgj:∀ j,j<20→g i j=cs'.getD j .nilIface:=fun j hj=>by
     show(w.cell? _).getD _=_
     rw [hat' j hj,List.getD_eq_getElem?_getD]
    obtain⟨hl,hv⟩:=Ij.2 H enc w base spare held n cs' _ ht'
    have hl20:cs'.length=20:=hl
    refine⟨fun j l hj=>?_,fun j hj=>?_⟩
    · have hj20:j<20:=(List.getElem?_eq_some_iff.1 hj).1
      obtain⟨v,h1,h2⟩:=hv j l hj
      rw [Nat.zero_add,hgj j hj20,List.getD_eq_getElem?_getD,h1]
      exact h2
    · rw [hat' j hj,hgj j hj,List.getD_eq_getElem?_getD,List.getElem?_eq_getElem (by omega)]
      rfl
   refine⟨(List.range len).map fun i=>HA (g i),fun j hj=>?_,?_,.inr ⟨a.block,a.off,cap,by simpa using hlc,?_,fun j c hj β=>?_⟩⟩
   · rw [List.length_map,List.length_range]at hj
     rw [List.getD_eq_getElem?_getD,List.getElem?_map,List.getElem?_range hj]
     exact JC (hg j hj).1
   · unfold maxLen at hcm
     rw [List.length_map,List.length_range]
     omega
   · rw [List.length_map,List.length_range]
     obtain⟨b,o,s⟩:=a
     simp only at hspot
     subst hspot
     rfl
   · have hj':=hj
     unfold fl at hj
     rw [wC oy 20 (by decide) _ (fun _ _=>rfl)]at hj
     have hlt:j/20<len:=by
      rw [List.getElem?_map]at hj
      by_cases h:j/20<len
      · exact h
      · rw [List.getElem?_eq_none (by rw [List.length_range];omega)]at hj
        cases hj
     rw [List.getElem?_map,List.getElem?_range hlt]at hj
     have hj2:(oy (HA (g (j/20))))[j%20]? = some c:=hj
     have hr:j%20<20:=Nat.mod_lt _ (by decide)
     rw [←DO,p7,Nat.zero_add]at hj2
     obtain⟨h1,h2⟩:=hg (j/20) hlt
     have h3:=h2 (j%20) hr
     rw [show j/20*20+j%20=j by omega]at h3
     rw [h3]
     cases hk:yL[j%20]? with
     | none=>rw [hk]at hj2;cases hj2
     | some l=>
       rw [hk]at hj2
       cases hj2
       have:=h1 (j%20) l hk
       rw [Nat.zero_add]at this
       rw [dM.den this]
theorem sd {t:TypeId} {ks:List dM}(hl:fb Tryz.prog t ks) {fuel:Nat} {cs:List Value} {x:Option (DataW H × List MemPlace)} {y:DataW H × List MemPlace}(h:DataW.trod enc Tryz.prog w base spare held fuel t cs=x) (hx:x=some y):∃ g,oP ks g 0∧∀ β : Env,cs=(iF ks g 0).map (·.den β):=by
 obtain⟨h1,h2⟩:=hl.2 H enc w base spare held fuel cs y (h.trans hx)
 exact⟨_,(t_ h1 h2 Env.zero).2,fun β=>(t_ h1 h2 β).1⟩
set_option maxRecDepth 100000 in
theorem xy {v:Value} {b0:Nat} {r:Reach}(hval:Value.okWide Tryz.prog w r b0 31 v) {fuel:Nat} {x:DataW H × List MemPlace}(hf:DataW.trod enc Tryz.prog w base spare held fuel 31 v.cells.toList=some x) :
 ∃ (h:Hd) (p:Ph) (f:Int) (l:List Sm) (vm:Value),oh h∧my p∧(0≤f∧f≤255)∧(∀ j,j<l.length→i7 (l.getD j default))∧l.length≤9223372036854775807∧nC w vm (fl oy l) l.length ∧
   ∀(β : Env) (c:XC),c.den β = vm→v = .agg ((fj h p f c).map (·.den β)).toArray:=by
 unfold Value.okWide at hval
 rw [Tryz.underlying31]at hval
 obtain⟨cs,rfl,hsz,ts,hts,_,hcell⟩:=hval
 have hts2:(Tryz.prog.cellTypes Tryz.prog.depth 31).map (fun ts=>(ts.length,ts[136]?))=some (137,some 29):=by kernel_rfl
 rw [hts]at hts2
 simp only [Option.map_some,Option.some.injEq,Prod.mk.injEq]at hts2
 obtain⟨hl137,h136⟩:=hts2
 obtain⟨xs,n,_,_,hlen,hxl,hx⟩:=DataW.trod_struct Tryz.underlying31 hf
 have hC:Tryz.prog.cellsOf 31=137:=by kernel_rfl
 have hcl:cs.toList.length=137:=by
  have:cs.size=Tryz.prog.cellsOf 31:=hsz
  rw [hC]at this
  simpa using this
 have hx4:xs.length=4:=hxl
 have hget:∀ i,i<4→∃ y,xs[i]? = some y:=fun i hi=>⟨_,List.getElem?_eq_getElem (by omega)⟩
 obtain⟨y0,e0⟩:=hget 0 (by decide)
 obtain⟨y1,e1⟩:=hget 1 (by decide)
 obtain⟨y2,e2⟩:=hget 2 (by decide)
 obtain⟨y3,e3⟩:=hget 3 (by decide)
 have x0:=hx 0 _ rfl
 have x1:=hx 1 _ rfl
 have x2:=hx 2 _ rfl
 have x3:=hx 3 _ rfl
 obtain⟨g0,ok0,d0⟩:=sd Ih x0 e0
 obtain⟨g1,ok1,d1⟩:=sd Ii x1 e1
 obtain⟨g2,ok2,d2⟩:=sd wZ x2 e2
 obtain⟨vm,hvm⟩:∃ vm,cs.toList[136]? = some vm:=⟨_,List.getElem?_eq_getElem (by omega)⟩
 have hlast:cs.toList.drop 136 = [vm]:=by
  have h136:136<cs.toList.length:=by omega
  rw [List.getElem?_eq_getElem h136]at hvm
  rw [List.drop_eq_getElem_cons h136,Option.some.inj hvm,List.drop_of_length_le (by omega)]
 have hcell3:Cell.okWide Tryz.prog w r b0 29 vm:=by
  obtain⟨u,hu,hok⟩:=hcell 136 vm (by rw [←Array.getElem?_toList];exact hvm)
  rw [hl137,show 136%137=136 from rfl,h136]at hu
  cases hu
  exact hok
 have x3':DataW.trod enc Tryz.prog w base spare held n 29 [vm]=some y3:=by
  rw [←e3,←x3]
  show _=DataW.trod enc Tryz.prog w base spare held n 29 ((cs.toList.drop 136).take (Tryz.prog.cellsOf 29))
  rw [hlast,show Tryz.prog.cellsOf 29=1 by kernel_rfl]
  rfl
 obtain⟨l,hl1,hl2,hl3⟩:=JD Tryz.underlying29 hcell3 x3'
 refine⟨DA g0,Ef g1,lint (g2 0),l,vm,IS ok0,Ja ok1,bounds_u8 (ok_int ok2 (j:=0) rfl),hl1,hl2,hl3,fun β c hc=>?_⟩
 have f0:cs.toList.take 131=(gC (DA g0)).map (·.den β):=by
  rw [←DM,←d0 β]
  show _=(cs.toList.drop 0).take (Tryz.prog.cellsOf 26)
  rw [Ih.1];rfl
 have f1:(cs.toList.drop 131).take 4=(iC (Ef g1)).map (·.den β):=by
  rw [←DN,←d1 β]
  show _=(cs.toList.drop 131).take (Tryz.prog.cellsOf 28)
  rw [Ii.1];rfl
 have f2:(cs.toList.drop 135).take 1 = [(XC.int .u8 (lint (g2 0))).den β]:=by
  have:=d2 β
  have e:(cs.toList.drop 135).take (Tryz.prog.cellsOf 5) = [(XC.int .u8 (lint (g2 0))).den β]:=this
  rw [wZ.1]at e
  exact e
 have h1:cs.toList=cs.toList.take 131++((cs.toList.drop 131).take 4++((cs.toList.drop 135).take 1++cs.toList.drop 136)):=by
  have a1:=(List.take_append_drop 131 cs.toList).symm
  have a2:=(List.take_append_drop 4 (cs.toList.drop 131)).symm
  have a3:=(List.take_append_drop 1 (cs.toList.drop 135)).symm
  rw [List.drop_drop]at a2 a3
  rw [←a3,←a2,←a1]
 have h2:cs.toList=(fj (DA g0) (Ef g1) (lint (g2 0)) c).map (·.den β):=by
  rw [h1,f0,f1,f2,hlast]
  unfold fj
  rw [List.map_append,List.map_append,←hc]
  rfl
 rw [←h2]
end
end Go.Proofs.YtagpkhindehcbaaGreat
namespace Go.Proofs.YtagpkhindehcbaaGreat.partAlone
open Go.ChangeShapes Go.WideShapes Go.ChangeAt Go.RowKit Go.Xm
theorem own:ownKnob Tryz.prog.godebug=none:=by kernel_rfl
theorem laidOut:laidOutB Tryz.prog=true:=by kernel_rfl
theorem walk [aC] {W:World} {v v':Value} {h h':Hd} {p p':Ph} {f f':Int} {l l':List Sm} {vm vm':Value}(hh:oh h) (hp:my p) (hf:0≤f∧f≤255) (hl:∀ j,j<l.length→i7 (l.getD j default)) (hn:l.length≤9223372036854775807) (hm:nC W vm (fl oy l) l.length) (hv:∀(β : Env) (c:XC),c.den β = vm→v = .agg ((fj h p f c).map (·.den β)).toArray)
 (hh':oh h') (hp':my p') (hf':0≤f'∧f'≤255) (hl':∀ j,j<l'.length→i7 (l'.getD j default)) (hn':l'.length≤9223372036854775807) (hm':nC W vm' (fl oy l') l'.length) (hv':∀(β : Env) (c:XC),c.den β = vm'→v' = .agg ((fj h' p' f' c).map (·.den β)).toArray) {cnt:Int}(hcnt:0≤cnt∧cnt≤255) :
 Calls Tryz.prog 3 #[v,v',.int .u8 cnt] W fun e w'=>e = .returned (.bool true)∧Below W.heap.size W w':=by
 obtain⟨c0,o0,b0,lo0,sz0,a1,a2,a3,a4,a5,a6,a7⟩:=D9 (rh (enc:=oy) l) z9 0 hm
 obtain⟨c1,o1,b1,lo1,sz1,d1,d2,d3,d4,d5,d6,d7⟩:=D9 (rh (enc:=oy) l') z9 1 hm'
 have hc:=tK hh hh' hp hp' hf hf' hl hl' (v_.in a3 a4) (v_.in d3 d4) a2 d2 hn hn' hcnt
 let β : Env:=⟨fun i=>if i=0 then b0 else b1,fun i=>if i=0 then lo0 else lo1,fun i=>if i=0 then sz0 else sz1⟩
 have r0:aP β 2 (.one c0) vm:=a7 β 2 (by omega) rfl rfl
 have r1:aP β 2 (.one c1) vm':=d7 β 2 (by omega) rfl rfl
 refine Df hc (β := β) (Nat.le_of_ble_eq_true rfl) (fun i o ho=>?_) (fun o ho=>?_) (vs:=[v,v',.int .u8 cnt]) ?_
 · match i,ho with
   | 0,ho=>cases ho;exact a6 _ _
   | 1,ho=>cases ho;exact d6 _ _
   | i+2,ho=>simp at ho
 · simp only [List.mem_cons,List.not_mem_nil,or_false]at ho
   rcases ho with rfl|rfl
   · exact a5
   · exact d5
 · refine .cons ⟨sQ h p f r0.1,hv β c0 ?_⟩ (.cons ⟨sQ h' p' f' r1.1,hv' β c1 ?_⟩ (.cons ⟨trivial,rfl⟩ .nil))
   · exact r0.2.symm
   · exact r1.2.symm
def KU:Value := .agg (#[.int .i64 0,.int .i64 0,.bool false]++Array.replicate 128 (.int .u8 0) ++ #[.int .i64 0,.bool false,.bool false,.int .i64 0,.int .u8 0,.slice none 0 0])
set_option maxRecDepth 100000 in
theorem lifted (os:Os) (started:os.Started) (H:Type) (enc:TypeId × Value→H) :
 ReturnsInHanded {} Tryz.checked os 3 .any (Rows.partAloneSpec.pre6 enc Tryz.prog Tryz.f3 Rows.partAloneRow.domain false) (Rows.partAloneSpec.post enc Tryz.prog Tryz.f3 false true false false):=by
 letI:aC:=⟨fun _ => .u8,fun _=>0⟩
 refine returnsInHanded_of_change (C:=Tryz.checked) own started (by kernel_rfl) Tryz.func3
  (ChangeSpec.witness6 (enc:=enc) (C:=Tryz.checked) false ⟨#[],#[KU,KU,.int .u8 0],[]⟩ 8 (by kernel_rfl) (by kernel_rfl) (by kernel_rfl) (by kernel_rfl)) ?_
 intro W base args ds gs before hval0 hW hcnd _
 have hval:∀(j:Nat) t v,Tryz.f3.params[j]? = some t→args[j]? = some v→Value.okWide Tryz.prog W .any base t v:=hval0
 have hW':=hW
 obtain⟨p,q,hA0,hV,rfl,hfz,hnd⟩:=hW
 have hA:DataW.TrodAll enc Tryz.prog W 0 (fun _=>true) true Tryz.f3.params.toList args.toList ds p:=hA0
 rw [Tryz.params3]at hA hval
 obtain⟨v0,vs0,d0,ds0,p0,q0,hargs,rfl,rfl,h0,r0⟩:=trodAll_cons hA
 obtain⟨v1,vs1,d1,ds1,p1,q1,rfl,rfl,rfl,h1,r1⟩:=trodAll_cons r0
 obtain⟨v2,vs2,d2,ds2,p2,q2,rfl,rfl,rfl,h2,r2⟩:=trodAll_cons r1
 obtain⟨rfl,rfl,rfl⟩:=trodAll_nil r2
 obtain rfl:args = #[v0,v1,v2]:=by cases args;simp_all
 obtain⟨rfl,rfl⟩:=trodVars_none hV
 have k0:=h0
 have k1:=h1
 have lt0:∀ x∈p0,x.block<W.heap.size:=by obtain⟨m,hm⟩:=k0;exact DataW.trod_lt m _ _ _ hm
 have lt1:∀ x∈p1,x.block<W.heap.size:=by obtain⟨m,hm⟩:=k1;exact DataW.trod_lt m _ _ _ hm
 obtain⟨m0,t0'⟩:=h0
 obtain⟨m1,t1'⟩:=h1
 obtain⟨h,p',f,l,vm,a1,a2,a3,a4,a5,a6,a7⟩:=xy (hval 0 _ v0 rfl rfl) t0'
 obtain⟨h',p'',f',l',vm',b1,b2,b3,b4,b5,b6,b7⟩:=xy (hval 1 _ v1 rfl rfl) t1'
 obtain⟨cnt,rfl,rfl,rfl,w2⟩:=open_int Tryz.underlying5 (hval 2 5 v2 rfl rfl) h2
 have hcnt:=bounds_u8 w2
 refine(walk a1 a2 a3 a4 a5 a6 a7 b1 b2 b3 b4 b5 b6 b7 hcnt).mono fun e W' ⟨he,bel⟩=>?_
 subst he
 exact⟨_,rfl,_,_,_,[],_,[],hW',trodAll_mk1 (shut_bool Tryz.underlying4 _),(trodAll_cons_mk (Below.trod laidOut (by kernel_rfl) (of_decide_eq_true (by kernel_rfl)) k0 bel lt0) (trodAll_cons_mk (Below.trod laidOut (by kernel_rfl) (of_decide_eq_true (by kernel_rfl)) k1 bel lt1) (trodAll_cons_mk (shut_int Tryz.underlying5 w2) trodAll_mk0))),rfl,bel.frame _,fun h=>by cases h⟩
theorem LG:Rows.partAloneRow.holds Tryz.pinned (OpenSpec.ofChange Rows.partAloneSpec):=
 OpenClaim.holds_of_wide 3 Tryz.f3 rfl rfl rfl rfl rfl rfl rfl ⟨rfl,rfl,rfl,rfl,rfl⟩ rfl rfl rfl rfl rfl (by kernel_rfl) Tryz.func3 (by kernel_rfl)
  (of_decide_eq_true (by kernel_rfl)) (by unfold Func.isWrapper;first|(rw [if_pos (by decide +kernel)];kernel_rfl)|(rw [if_neg (by decide +kernel)];exact⟨rfl,rfl⟩))
  (fun os started H enc _=>lifted os started H enc)
theorem proved:Rows.PartAloneSaid:=LG
end Go.Proofs.YtagpkhindehcbaaGreat.partAlone
