/-
  'Rows.PartBackSaid': for all its arguments the law returns true, and each argument reads behind the call as it read before.
-/
import Derived.Test.YtagpkhindehcbaaGreatKdF
import Derived.Test.YtagpkhindehcbaaGreatKdH
import Derived.Test.YtagpkhindehcbaaGreatKdZ
import Derived.Test.YtagpkhindehcbaaGreatKdZA
import Derived.OpenShut
import Derived.Test.YtagpkhindehcbaaGreatRows
set_option maxRecDepth 10000
set_option maxHeartbeats 8000000
set_option linter.unusedVariables false
set_option linter.unusedSectionVars false
set_option linter.unusedSimpArgs false
namespace Go.Proofs.YtagpkhindehcbaaGreat
open Go.Xm
variable [az]
theorem Kv {l:List Mb} {first:Int} {x0:PS}:∀ k e,eg l first x0 k = .inl e→e≠0:=by
 intro k
 induction k with
 | zero=>intro e h;cases h
 | succ k ih=>
   intro e h
   rw [eg]at h
   split at h
   · rename_i e' he
     cases h
     exact ih _ he
   · unfold jM at h
     split at h
     · rename_i hc
       cases h
       exact hc
     · split at h
       · cases h;decide
       · cases h
theorem O8 {h:Hd} {p:Ph} {l:List Mb} {first e:Int}(hp:pW h p l first = .inl e):e≠0:=by
 unfold pW at hp
 split at hp
 · rename_i e' he
   cases hp
   exact Kv _ _ he
 · split at hp
   · cases hp;decide
   · cases hp
structure L5 (h:Hd) (p:Ph) (l:List Mb) (ft:Int) (a b:List Int):Prop where
 na:a.length≠0
 nb:b.length≠0
 out:∀ n,1≤n→n≤l.length→∃ q B t y,qh h p a q B ft n∧l7 B ft n ⟨gR h p,(0,false),[]⟩=t∧eg l ft (iC h p) n = .inr y∧rr l ft (iC h p) n y t∧rC B t.r=if n<l.length then 13 else 0
theorem Gz {l:List Int}(hl:dZ l) (h:l.length≠0):(f3 l l.length).1.length≠0:=fun e=>by
 have h1:=tG hl
 rw [List.length_eq_zero_iff.1 e]at h1
 have h2:some ([]:List Int)=some l:=h1
 cases h2
 exact h rfl
theorem tD:∀(l:List Int) (z:Int),(∀ b∈l,0≤b∧b<256)→∀ b∈mN z l,0≤b∧b<256
 | [],z,_=>fun b hb=>by cases hb
 | x :: t,z,h=>fun b hb=>by
   have hx:=h x (List.mem_cons_self ..)
   have ht:∀ b∈t,0≤b∧b<256:=fun b hb=>h b (List.mem_cons_of_mem _ hb)
   rw [mN]at hb
   split at hb
   · rcases List.mem_cons.1 hb with rfl|hb
     · omega
     · rcases List.mem_cons.1 hb with rfl|hb
       · exact hx
       · exact tD t _ ht b hb
   · rcases List.mem_cons.1 hb with rfl|hb
     · exact hx
     · exact tD t _ ht b hb
theorem yU (l:List Int) (hl:dZ l):dZ (f3 l l.length).1:=fun i=>by
 rw [qo]
 refine jH (p:=fun z=>0≤z∧z<256) (tD l 0 fun b hb=>?_) (by decide) i
 obtain⟨j,hj,rfl⟩:=List.mem_iff_getElem.1 hb
 have:=hl j
 rw [List.getD_eq_getElem?_getD,List.getElem?_eq_getElem hj]at this
 exact this
theorem JA {h:Hd} {p:Ph} {l:List Mb} {first:Int}(hT:eh h p l first) {a b:List Int}(hp:pW h p l first = .inr (a,b)):L5 h p l first a b:=by
 unfold pW at hp
 split at hp
 · cases hp
 · rename_i x hx
   split at hp
   · cases hp
   · rename_i hl
     cases hp
     have hi:=kz hT l.length (Nat.le_refl _) x hx
     have h16:=hT.few
     have hB:=hi.len
     have hw1:(wr (x.B++[true])).length≠0:=by rw [eO,List.length_append,List.length_cons,List.length_nil];omega
     have hw2:(wr (x.w++[true])).length≠0:=by rw [eO,List.length_append,List.length_cons,List.length_nil];omega
     refine⟨Gz (gF _) hw1,Gz (gF _) hw2,fun n hn1 hn=>?_⟩
     obtain⟨t,y,h1,h2,h3,h4⟩:=E_ hT hx hn
     refine⟨wr (x.B++[true]),x.B,t,y,⟨hT.hd,hT.ph,yU _ (gF _),by omega,tG (gF _),C9 _,by rw [eO,List.length_append];simp;omega,Cv _ (by omega),hT.pos,hn1,by have:=hT.all;omega⟩,h1,h2,h3,h4⟩
theorem Bn {h:Hd} {p:Ph}(hp:nK p) {f:Int}(hf:0≤f∧f≤255) {l:List Sm}(hl:∀ j,j<l.length→jy (l.getD j default)):eh (four h) (nB p) (iT h p f l) (dp h f)∧(iT h p f l).length≤9:=by
 obtain⟨ho,c1,c2,c3,c4⟩:=xt h
 have hcr:=jE ho.dims
 have hpo:=xq hp
 have hF:0≤dp h f∧dp h f<(four h).cols*(four h).rows:=by
  unfold dp
  exact⟨Int.emod_nonneg _ (by omega),Int.emod_lt_of_pos _ (by omega)⟩
 have hm:=zo hl (nB p).inter hpo.qp (room:=(four h).cols*(four h).rows-dp h f) (by omega)
 obtain⟨m1,m2,m3,m4⟩:=hm
 obtain⟨L,hL⟩:∃ L,iT h p f l=L:=⟨_,rfl⟩
 have hL2:nv l (nB p).inter (nB p).qp ((four h).cols*(four h).rows-dp h f)=L:=hL
 rw [hL2]at m1 m2 m3 m4
 rw [hL]
 refine⟨⟨ho,hpo,fun m hmm=>?_,hF.1,m2,by omega,by omega⟩,m3⟩
 obtain⟨j,hj,rfl⟩:=List.mem_iff_getElem.1 hmm
 have:=m1.mok j hj
 rw [List.getD_eq_getElem?_getD,List.getElem?_eq_getElem hj,Option.getD_some]at this
 exact this
end Go.Proofs.YtagpkhindehcbaaGreat
namespace Go.Proofs.YtagpkhindehcbaaGreat
open Go.Xm
variable [az]
theorem zP {v:Int} {k:Nat}(h:0≤v∧v+1<2^k) (hk:1≤k):(bN v).length≤2*k:=by
 unfold bN
 split
 · show 1≤2*k;omega
 · have hb:bitLen (v+1).toNat≤k:=lN (by
    have h2:((v+1).toNat:Int)<((2^k:Nat):Int):=by rw [Int.natCast_pow];have:=h.2;rw [Int.toNat_of_nonneg (by omega)];exact this
    omega)
   rw [List.length_cons,oW]
   omega
theorem D3 {e:Ev}(h:mw e):(GD e).length≤40:=by
 unfold GD
 have h1:=h.run
 have h2:=k_ h.lev h.nz
 have h3:=zP (v:=2*e.1+(if e.2.2 then 1 else 0)) (k:=8) (by show _∧_<256;split <;> omega) (by decide)
 have h4:=zP (v:=aY e.2.1-1) (k:=12) (by show _∧_<4096;omega) (by decide)
 rw [List.length_append];omega
theorem tL:∀(l:List Ev),(∀ e∈l,mw e)→(cR l).length≤40*l.length
 | [],_=>Nat.zero_le _
 | e::l,h=>by
   have h1:=D3 (h e (List.mem_cons_self ..))
   have h2:=tL l fun x hx=>h x (List.mem_cons_of_mem _ hx)
   show(GD e++cR l).length≤_
   rw [List.length_append,List.length_cons];omega
theorem D5 {l:List Ev}(h:gG l):∀ e∈l,mw e:=fun e he=>by
 obtain⟨j,hj,rfl⟩:=List.mem_iff_getElem.1 he
 have:=h.ok j hj
 rw [List.getD_eq_getElem?_getD,List.getElem?_eq_getElem hj]at this
 exact this
theorem nX:∀(E:List (List Ev)),(∀ e∈E,gG e)→(E.flatMap cR).length≤2560*E.length
 | [],_=>Nat.zero_le _
 | e::E,h=>by
   have he:=h e (List.mem_cons_self ..)
   have h1:=tL e (D5 he)
   have h2:=nX E fun x hx=>h x (List.mem_cons_of_mem _ hx)
   have h3:=he.len.2
   rw [List.flatMap_cons,List.length_append,List.length_cons];omega
theorem CC (ev:Nat→List Ev):∀ k,(xk ev k).length≤k
 | 0=>Nat.le_refl _
 | k+1=>by have:=CC ev k;rw [xk,List.length_append];split <;> simp <;> omega
theorem xn (l:List Mb) (first:Int) (x0:PS):∀ n,(A9 l first x0 n).length≤6*n
 | 0=>Nat.le_refl _
 | n+1=>by have:=xn l first x0 n;have:=CC (AG l first x0 n) 6;rw [A9,List.length_append];omega
theorem qq:∀(l:List Int) (z:Int),0≤z→2*((mN z l).length:Int)≤3*(l.length:Int)+z
 | [],z,hz=>by show 2*((0:Nat):Int)≤3*((0:Nat):Int)+z;omega
 | b :: t,z,hz=>by
   rw [mN]
   by_cases hb:b=0
   · rw [if_pos hb,if_pos hb]
     have h1:=qq t (0+1) (by omega)
     have h2:=qq t (z+1) (by omega)
     split
     · simp only [List.length_cons];omega
     · simp only [List.length_cons];omega
   · rw [if_neg hb,if_neg hb]
     have h1:=qq t 0 (by omega)
     split
     · simp only [List.length_cons];omega
     · simp only [List.length_cons];omega
theorem yV (l:List Int):(f3 l l.length).1.length≤2*l.length∧2*(f3 l l.length).1.length≤3*l.length:=by
 have:=qq l 0 (Int.le_refl _)
 have h2:=tC l l.length
 rw [qo]at h2 ⊢
 omega
def PC:Int→List Int→Prop
 | _,[]=>True
 | z,b::t=>¬(2≤z∧b<3)∧PC (if b=0 then z+1 else 0) t
theorem tE:∀(l:List Int) (z:Int),PC z (mN z l)
 | [],z=>trivial
 | b :: t,z=>by
   rw [mN]
   split
   · refine⟨by omega,?_⟩
     rw [if_neg (by decide)]
     exact⟨by omega,tE t _⟩
   · exact⟨by omega,tE t _⟩
def Ju (x:List Int):Prop:=∀ i,i+2<x.length→¬(x.getD i 0=0∧x.getD (i+1) 0=0∧x.getD (i+2) 0<3)
theorem Hp:∀(x:List Int) (z:Int),0≤z→PC z x→Ju x
 | [],z,_,_=>fun i hi=>absurd hi (Nat.not_lt_zero _)
 | b :: t,z,hz,h=>fun i hi=>by
   have ih:=Hp t _ (by split <;> omega) h.2
   cases i with
   | succ i=>
     have:=ih i (by simp only [List.length_cons]at hi;omega)
     exact this
   | zero=>
     intro⟨h1,h2,h3⟩
     match t,hi,h,h2,h3 with
     | [],hi,_,_,_=>simp at hi
     | [_],hi,_,_,_=>simp at hi
     | c::d::t,hi,h,h2,h3=>
       have h1:b=0:=h1
       have h2:c=0:=h2
       have h3:d<3:=h3
       have h5:=h.2.2.1
       rw [if_pos h1,if_pos h2]at h5
       omega
theorem GA (l:List Int):Ju (f3 l l.length).1:=by
 rw [qo]
 exact Hp _ 0 (Int.le_refl _) (tE l 0)
theorem AW {m:Mb} {S:bC} {mb:Int} {k:Nat}(h:fV m S mb k=none):m.edge=true:=by
 unfold fV at h
 split at h
 · split at h
   · assumption
   · cases h
 · cases h
theorem DS {m:Mb} {mb:Int} {x0:pe}:∀ k,fq m mb x0 k=none→m.edge=true:=by
 intro k
 induction k with
 | zero=>intro h;cases h
 | succ k ih=>
   intro h
   rw [fq]at h
   cases hy:fq m mb x0 k with
   | none=>exact ih hy
   | some y=>
     rw [hy]at h
     cases hr:fV m y.S mb k with
     | none=>exact AW hr
     | some r=>
       have h2:Option.map _ (fV m y.S mb k)=none:=h
       rw [hr]at h2
       cases h2
theorem BC {S:bC} {X bw:List Bool} {m:Mb} {mb:Int}(h:fH S X bw m mb=none):m.edge=true:=by
 unfold fH at h
 split at h
 · cases h
 · exact DS 6 (Option.map_eq_none_iff.1 h)
theorem Kw {h:Hd} {p:Ph} {l:List Mb} {first:Int}(hT:eh h p l first):∀ k,k≤l.length→∀ x,eg l first (iC h p) k = .inr x→x.S.qp=if k=0 then p.qp else(l.getD (k-1) default).qp:=by
 intro k
 cases k with
 | zero=>intro _ x hx;cases hx;rfl
 | succ k=>
   intro hk y hy
   obtain⟨x,hx,hs⟩:=jk hy
   have hi:=kz hT k (by omega) x hx
   have hm:=mW hT (k:=k) (by omega)
   obtain⟨hc,z,hz,rfl⟩:=lY hs
   have hk2:=rQ hi.st hm (iz hm hc) hz
   rw [if_neg (by omega),Nat.add_sub_cancel]
   exact hk2.qp
theorem EB {h:Hd} {p:Ph} {l:List Mb} {first:Int}(hT:eh h p l first) (hM:tc p.inter p.qp l):∀ k,k≤l.length→∀ e,eg l first (iC h p) k = .inl e→e=2∧∃ i,i<k∧(l.getD i default).edge=true:=by
 intro k
 induction k with
 | zero=>intro _ e h;cases h
 | succ k ih=>
   intro hk e he
   rw [eg]at he
   cases hx:eg l first (iC h p) k with
   | inl e'=>
     rw [hx]at he
     cases he
     obtain⟨a,i,b,c⟩:=ih (by omega) _ hx
     exact⟨a,i,by omega,c⟩
   | inr x=>
     rw [hx]at he
     have he:jM first k (l.getD k kr) x = .inl e:=he
     have hi:=kz hT k (by omega) x hx
     have hq:=Kw hT k (by omega) x hx
     have hc:=hM.chk k (by omega)
     rw [←hq,←hi.inter]at hc
     have hc:dk (l.getD k kr) x.S.inter x.S.qp=0:=hc
     unfold jM at he
     rw [if_neg (by rw [hc];simp)]at he
     split at he
     · rename_i hn
       cases he
       exact⟨rfl,k,by omega,BC hn⟩
     · cases he
structure FT (h:Hd) (p:Ph) (l:List Mb) (ft:Int) (a b:List Int):Prop where
 noa:Ju a
 nob:Ju b
 byb:dZ b
 lea:a.length≤30000
 leb:b.length≤30000
 all:∀ t y,eg l ft (iC h p) l.length = .inr y→rr l ft (iC h p) l.length y t→∃ q E,j0 b b.length [] 0 0=some q∧ef q=(y.w.length,true)∧y.w.length≤8*q.length∧cK q y.w∧nQ y.w (pr t.out) ([],(0,false))=(E,(y.w.length,false))∧∃ out,gI E ft t.out (gR h p) = .inr out∧out.length=l.length∧∀ i,i<l.length→my (l.getD i default) (out.getD i default)
theorem vD {h:Hd} {p:Ph} {l:List Mb} {ft:Int} {y:PS} {t:TA}(hb:rr l ft (iC h p) l.length y t):DH l ft (iC h p) t.out:=⟨hb.len,fun i hi=>by
 obtain⟨o,ho1,ho2,ho3⟩:=hb.outs i hi
 have e:t.out.getD i default=o:=by rw [List.getD_eq_getElem?_getD,ho1];rfl
 rw [e]
 exact⟨ho2,ho3⟩⟩
theorem DP {h:Hd} {p:Ph} {l:List Mb} {first:Int}(hT:eh h p l first) (h9:l.length≤9) {a b:List Int}(hp:pW h p l first = .inr (a,b)):FT h p l first a b:=by
 unfold pW at hp
 split at hp
 · cases hp
 · rename_i x hx
   split at hp
   · cases hp
   · rename_i hl
     cases hp
     obtain⟨w1,w2⟩:=Bz hT l.length (Nat.le_refl _) x hx
     have w3:=nX _ w2
     have w4:=xn l first (iC h p) l.length
     rw [←w1]at w3
     refine⟨GA _,GA _,yU _ (gF _),by omega,by omega,fun t y hy hb=>?_⟩
     rw [hx]at hy
     cases hy
     obtain⟨E,out,e1,e2,e3,e4,e5,e6⟩:=D9 hT (vD hb) hx
     exact⟨wr (x.w++[true]),E,tG (gF _),C9 _,by rw [eO,List.length_append];simp;omega,Cv _ (by omega),e1,out,e4,e5,e6⟩
theorem Gb {h:Hd} {p:Ph} {l:List Mb} {first:Int}(hT:eh h p l first) (hM:tc p.inter p.qp l) (h9:l.length≤9) {e:Int}(hp:pW h p l first = .inl e):e=2∧∃ i,i<l.length∧(l.getD i default).edge=true:=by
 unfold pW at hp
 split at hp
 · rename_i e' he
   cases hp
   exact EB hT hM l.length (Nat.le_refl _) _ he
 · rename_i x hx
   split at hp
   · rename_i hl
     obtain⟨w1,w2⟩:=Bz hT l.length (Nat.le_refl _) x hx
     have w3:=nX _ w2
     have w4:=xn l first (iC h p) l.length
     rw [←w1]at w3
     have hi:=(kz hT l.length (Nat.le_refl _) x hx).len
     have l1:=(yV (wr (x.B++[true]))).2
     have l2:=(yV (wr (x.w++[true]))).2
     have l3:=eO (x.B++[true])
     have l4:=eO (x.w++[true])
     rw [List.length_append,List.length_singleton]at l3 l4
     exfalso
     omega
   · cases hp
end Go.Proofs.YtagpkhindehcbaaGreat
namespace Go.Xm
variable [az]
variable {P:Program} {ops:Array Oper} {nt nI:Nat} {al:bm} {hs:aj} {o:Oper} {l:List Oper} {L:List aH} {K:List Ab→bm→aj→Prop} {d:Nat}
theorem An {t:TypeId} {xs ys:List XC}(h:P.eqGuardType P.depth t=false):rk P t (.agg xs) (.agg ys)=bW P 40 t (.agg xs) (.agg ys):=by
 show(if P.eqGuardType P.depth t then none else _)=_
 rw [h];rfl
theorem PV {t t':TypeId} {a b:Operand} {xs ys:List XC} {r:Bool}(hr:rk P t (.agg xs) (.agg ys)=some r) (hk:SK P ops nt L l ((d,.one (.bool r))::al) hs fun bs=>K (quiet::bs)) (ho:o.op = .binOp .eql t a b t':=by exact rfl) (hw:au ops (rg al) o=some true:=by exact rfl) (hd:o.dst=some d:=by exact rfl) (hlt:Nat.blt d nt=true:=by exact rfl) (ha:ai (rg al) a = .agg xs:=by exact rfl) (hb:ai (rg al) b = .agg ys:=by exact rfl):SK P ops nt L (o::l) al hs K:=
 SK.lift hd hlt (fun _=>aI.pure hw (by rw [ho];simp only [bj,ha,hb,rh,hr,Option.map_some])) hk
theorem Ll {e:TypeId} {n:Nat} {eq:TypeId→X1→X1→Option Bool} {xs ys:List XC} {R:Nat→Prop}:∀ k i,(∀ j,i≤j→j<i+k→∃ a b r,g_ P e xs (j*n)=some a∧g_ P e ys (j*n)=some b∧eq e a b=some r∧(r=true↔R j))→∃ r,i7 P eq e n xs ys i k=some r∧(r=true↔∀ j,i≤j→j<i+k→R j)
 | 0,i,_=>⟨true,rfl,fun _ j h1 h2=>absurd h2 (by omega),fun _=>rfl⟩
 | k + 1,i,h=>by
   obtain⟨a,b,r,h1,h2,h3,h4⟩:=h i (Nat.le_refl _) (by omega)
   rw [i7,h1,h2]
   dsimp only
   rw [h3]
   cases r with
   | true=>
     obtain⟨r2,g1,g2⟩:=Ll k (i+1) (fun j h5 h6=>h j (by omega) (by omega))
     refine⟨r2,g1,fun hr j h5 h6=>?_,fun hr=>g2.2 fun j h5 h6=>hr j (by omega) (by omega)⟩
     by_cases hji:j=i
     · subst hji;exact h4.1 rfl
     · exact g2.1 hr j (by omega) (by omega)
   | false=>exact⟨false,rfl,fun hr=>(by cases hr),fun hr=>absurd (h4.2 (hr i (Nat.le_refl _) (by omega))) (by decide)⟩
theorem pa {e:TypeId} {u:TypeDesc}(hu:P.underlying e=some u) (hn:fT P e=some false) {cs:List XC} {i:Nat} {c:XC}(hc:cs[i]? = some c):g_ P e cs i=some (.one c):=by
 unfold g_
 rw [hn,hc]
theorem Oj {t e:TypeId} {kk:IntKind} {n:Nat}(ht:P.underlying t=some (.array n e)) (he:P.underlying e=some (.int kk)) (hs:cn P e=some 1) {d:Nat}(f g:Nat→Int):∃ r,bW P (d+2) t (.agg (ti kk n f)) (.agg (ti kk n g))=some r∧(r=true↔∀ j,j<n→f j=g j):=by
 have hn:fT P e=some false:=by unfold fT;rw [he]
 obtain⟨r,h1,h2⟩:=Ll (P:=P) (e:=e) (n:=1) (eq:=bW P (d+1)) (xs:=ti kk n f) (ys:=ti kk n g) (R:=fun j=>f j=g j) n 0 (fun j _ hj=>by
  refine⟨.one (.int kk (f j)),.one (.int kk (g j)),f j == g j,?_,?_,?_,beq_iff_eq⟩
  · exact pa he hn (by rw [Nat.mul_one];exact fg (by omega))
  · exact pa he hn (by rw [Nat.mul_one];exact fg (by omega))
  · rw [bW,he]
    simp [uP])
 refine⟨r,?_,h2.trans ⟨fun h j hj=>h j (Nat.zero_le _) (by omega),fun h j _ hj=>h j (by omega)⟩⟩
 rw [bW,ht]
 dsimp only
 rw [hs]
 exact h1
theorem Di {kk:IntKind} {N n i:Nat} {f:Nat→Int}(h:i+n≤N):((ti kk N f).drop i).take n=ti kk n fun j=>f (i+j):=by
 apply List.ext_getElem?
 intro j
 by_cases hj:j<n
 · rw [List.getElem?_take_of_lt hj,List.getElem?_drop,fg (by omega),fg hj]
 · rw [List.getElem?_eq_none (by rw [List.length_take];omega),List.getElem?_eq_none (by rw [aF];omega)]
theorem Mo {t u e:TypeId} {kk:IntKind} {m n N:Nat}(hN:N=m*n) (ht:P.underlying t=some (.array m u)) (hu:P.underlying u=some (.array n e)) (he:P.underlying e=some (.int kk)) (hs:cn P e=some 1) (hsu:cn P u=some n) {d:Nat}(f g:Nat→Int):∃ r,bW P (d+3) t (.agg (ti kk N f)) (.agg (ti kk N g))=some r∧(r=true↔∀ j,j<N→f j=g j):=by
 subst hN
 have hn:fT P u=some true:=by unfold fT;rw [hu]
 have hin:∀ j,j<m→j*n+n≤m*n:=fun j hj=>by
  have:=Nat.mul_le_mul_right n (show j+1≤m from hj)
  rw [Nat.add_mul,Nat.one_mul]at this
  exact this
 obtain⟨r,h1,h2⟩:=Ll (P:=P) (e:=u) (n:=n) (eq:=bW P (d+2)) (xs:=ti kk (m*n) f) (ys:=ti kk (m*n) g) (R:=fun k=>∀ j,j<n→f (k*n+j)=g (k*n+j)) m 0 (fun j _ hj=>by
  obtain⟨r,g1,g2⟩:=Oj (d:=d) hu he hs (fun i=>f (j*n+i)) (fun i=>g (j*n+i))
  refine⟨_,_,r,?_,?_,g1,g2⟩
  · unfold g_;rw [hn];dsimp only;rw [hsu];dsimp only;rw [Di (hin j (by omega))]
  · unfold g_;rw [hn];dsimp only;rw [hsu];dsimp only;rw [Di (hin j (by omega))])
 refine⟨r,?_,h2.trans ⟨fun h j hj=>?_,fun h k _ hk j hj=>h _ (by have:=hin k (by omega);omega)⟩⟩
 · rw [bW,ht]
   dsimp only
   rw [hsu]
   exact h1
 · by_cases h0:n=0
   · subst h0;omega
   · have e1:j/n*n+j%n=j:=by rw [Nat.mul_comm];exact Nat.div_add_mod j n
     have h3:=h (j/n) (Nat.zero_le _) (by rw [Nat.zero_add];exact(Nat.div_lt_iff_lt_mul (by omega)).2 hj) (j%n) (Nat.mod_lt _ (by omega))
     rw [e1]at h3
     exact h3
end Go.Xm
namespace Go.Proofs.YtagpkhindehcbaaGreat
open Go.Xm
variable [az]
theorem Mn (f g:Nat→Int):∃ r,rk Tryz.prog 51 (.agg (ti .i64 384 f)) (.agg (ti .i64 384 g))=some r∧(r=true↔∀ j,j<384→f j=g j):=by
 obtain⟨r,h1,h2⟩:=Mo (P:=Tryz.prog) (d:=37) (N:=384) (m:=6) (n:=64) rfl Tryz.underlying51 Tryz.underlying50 Tryz.underlying3 (by kernel_rfl) (by kernel_rfl) f g
 refine⟨r,?_,h2⟩
 rw [An (by kernel_rfl)]
 exact h1
theorem Mp {v w:Nat→Int × Int}(hv:∀ k,bu (v k)) (hw:∀ k,bu (w k)):∃ r,rk Tryz.prog 49 (.agg (vt v)) (.agg (vt w))=some r∧(r=true↔∀ k,k<4→w k=v k):=by
 have hun:Tryz.prog.underlying 47=some (.complex .f64):=by kernel_rfl
 have hn:fT Tryz.prog 47=some false:=by unfold fT;rw [hun]
 have hget:∀(v:Nat→Int × Int) (j:Nat),j<4→(vt v)[j*1]? = some (cq (v j)):=fun v j hj=>by
  match j,hj with
  | 0,_=>rfl
  | 1,_=>rfl
  | 2,_=>rfl
  | 3,_=>rfl
 obtain⟨r,h1,h2⟩:=Ll (P:=Tryz.prog) (e:=47) (n:=1) (eq:=bW Tryz.prog 39) (xs:=vt v) (ys:=vt w) (R:=fun j=>w j=v j) 4 0 (fun j _ hj=>by
  refine⟨_,_,decide ((v j).1=(w j).1) && decide ((v j).2=(w j).2),pa hun hn (hget v j (by omega)),pa hun hn (hget w j (by omega)),?_,?_⟩
  · rw [bW,hun]
    have a1:=sh (hv j).1 (hw j).1
    have a2:=sh (hv j).2 (hw j).2
    simp only [cq,uP,if_true,Op.floatEq,a1,a2]
  · rw [Bool.and_eq_true,decide_eq_true_iff,decide_eq_true_iff]
    exact⟨fun h=>Prod.ext h.1.symm h.2.symm,fun h=>by rw [h];exact⟨rfl,rfl⟩⟩)
 refine⟨r,?_,h2.trans ⟨fun h k hk=>h k (Nat.zero_le _) (by omega),fun h k _ hk=>h k (by omega)⟩⟩
 rw [An (by kernel_rfl),bW,show Tryz.prog.underlying 49=some (.array 4 47)from Tryz.underlying49]
 dsimp only
 rw [show cn Tryz.prog 47=some 1 by kernel_rfl]
 exact h1
end Go.Proofs.YtagpkhindehcbaaGreat
namespace Go.Proofs.YtagpkhindehcbaaGreat
open Go.Xm
variable [az]
def jf (m:Mb):Prop:=∀ k,k<4→bu (m.v k)
noncomputable def wo (m o:Mb):Bool := @decide (my m o) (Classical.propDecidable _)
theorem wq {m o:Mb}:wo m o=true↔my m o := @decide_eq_true_iff _ (Classical.propDecidable _)
theorem JI {m o:Mb}(hm:jf m) (ho:jf o):∃ r,rk Tryz.prog 49 (.agg (vt m.v)) (.agg (vt o.v))=some r∧(r=true↔∀ k,k<4→o.v k=m.v k):=by
 have h:∀ {m:Mb},jf m→∀ k,bu (if k<4 then m.v k else(0,0)):=fun h k=>by
  split
  · exact h k (by assumption)
  · exact Dj
 obtain⟨r,h1,h2⟩:=Mp (h hm) (h ho)
 refine⟨r,h1,h2.trans ⟨fun g k hk=>?_,fun g k hk=>?_⟩⟩
 · have:=g k hk
   rw [if_pos hk,if_pos hk]at this;exact this
 · rw [if_pos hk,if_pos hk];exact g k hk
theorem Er {m o:Mb}(hm:jf m) (ho:jf o):bn Tryz.prog 40 [.agg (mC m),.agg (mC o)] [] (.one (.bool (wo m o))) []:=by
 obtain⟨rv,v1,v2⟩:=JI hm ho
 obtain⟨rl,l1,l2⟩:=Mn m.lev o.lev
 obtain⟨em,hem⟩:∃ e,m.edge=e:=⟨_,rfl⟩
 obtain⟨eo,heo⟩:∃ e,o.edge=e:=⟨_,rfl⟩
 have c6:(mC m)[6]? = some (.bool em):=by rw [←hem];rfl
 have d6:(mC o)[6]? = some (.bool eo):=by rw [←heo];rfl
 have c0:(mC m)[0]? = some (.int .u8 m.kind):=rfl
 have d0:(mC o)[0]? = some (.int .u8 o.kind):=rfl
 have c1:(mC m)[1]? = some (.int .i64 m.qp):=rfl
 have d1:(mC o)[1]? = some (.int .i64 o.qp):=rfl
 have cv:((mC m).drop 2).take 4=vt m.v:=rfl
 have dv:((mC o).drop 2).take 4=vt o.v:=rfl
 have hval:wo m o=true↔m.kind=o.kind∧m.qp=o.qp∧rv=true∧em=eo∧rl=true:=by
  rw [wq,v2,l2,←hem,←heo]
  exact⟨fun h=>⟨h.kind.symm,h.qp.symm,h.v,h.edge.symm,fun j hj=>(h.lev j hj).symm⟩,fun⟨a,b,c,d,e⟩=>⟨a.symm,b.symm,d.symm,c,fun i hi=>(e i hi).symm⟩⟩
 obtain⟨R,hR⟩:∃ R,wo m o=R:=⟨_,rfl⟩
 rw [hR]at hval ⊢
 by_cases hk:m.kind=o.kind
 · by_cases hq:m.qp=o.qp
   · cases rv <;> cases em <;> cases eo <;> cases rl
     all_goals
      first
      | (have hR1:R=true:=hval.2 ⟨hk,hq,rfl,rfl,rfl⟩
         subst hR1)
      | (have hR1:R=false:=by
          cases R with
          | false=>rfl
          | true=>have:=hval.1 rfl;simp at this
         subst hR1)
      refine cO Tryz.func40 ?_
      repeat' (first
       |(refine qz ?_;first
        |refine ld (hc:=c0) ?_
        |refine ld (hc:=d0) ?_
        |refine ld (hc:=c1) ?_
        |refine ld (hc:=d1) ?_
        |refine ld (hc:=c6) ?_
        |refine ld (hc:=d6) ?_
        |refine rH (cs:=vt m.v) ?_ (hle:=by rw [aJ];decide) (hc:=cv)
        |refine rH (cs:=vt o.v) ?_ (hle:=by rw [aJ];decide) (hc:=dv)
        |refine rH (cs:=ti .i64 384 m.lev) ?_ (hle:=by rw [aJ];decide) (hc:=tZ m)
        |refine rH (cs:=ti .i64 384 o.lev) ?_ (hle:=by rw [aJ];decide) (hc:=tZ o)
        |refine PV v1 ?_
        |refine PV l1 ?_)
       |refine zz ?_|refine zx (fun _=>?_) (fun _=>?_)|fail)
      show aC _ _ _ _ _ _ _ _;refine kV [] ?_
      rfl
   · have hR1:R=false:=by
      cases R with
      | false=>rfl
      | true=>exact absurd (hval.1 rfl).2.1 hq
     subst hR1
     refine cO Tryz.func40 ?_
     repeat' (first
      |(refine qz ?_;first
       |refine ld (hc:=c0) ?_
       |refine ld (hc:=d0) ?_
       |refine ld (hc:=c1) ?_
       |refine ld (hc:=d1) ?_
       |refine ld (hc:=c6) ?_
       |refine ld (hc:=d6) ?_)
      |refine zz ?_|refine zx (fun _=>?_) (fun _=>?_)|fail)
     show aC _ _ _ _ _ _ _ _;refine kV [] ?_
     rfl
 · have hR1:R=false:=by
    cases R with
    | false=>rfl
    | true=>exact absurd (hval.1 rfl).1 hk
   subst hR1
   refine cO Tryz.func40 ?_
   repeat' (first
    |(refine qz ?_;first
     |refine ld (hc:=c0) ?_
     |refine ld (hc:=d0) ?_)
    |refine zz ?_|refine zx (fun _=>?_) (fun _=>?_)|fail)
   show aC _ _ _ _ _ _ _ _;refine kV [] ?_
   rfl
theorem zt {m o:Mb}(hm:jf m) (ho:jf o) {r:Bool}(hr:wo m o=r) {HS:aj}(hb:Nat.blt HS.length Mem.bound=true):aH.Sound Tryz.prog ⟨40,[.agg (mC m),.agg (mC o)],HS,.one (.bool r),HS,[]⟩:=by
 subst hr
 exact aA (Er hm ho) (by show((mC m).all XC.shut && ((mC o).all XC.shut && true))=true;rw [iS,iS];rfl) rfl hb
def Lz (L O:List Mb):Prop:=L.length=O.length∧∀ i,i<L.length→my (L.getD i default) (O.getD i default)
noncomputable def uu (L O:List Mb):Bool := @decide (Lz L O) (Classical.propDecidable _)
theorem uv {L O:List Mb}:uu L O=true↔Lz L O := @decide_eq_true_iff _ (Classical.propDecidable _)
theorem H4 {oL:ak} {L O:List Mb}(hL:sN oL mC L) (hl:∀ i,i<L.length→jf (L.getD i default)) (ho:∀ i,i<O.length→jf (O.getD i default)) (hn:L.length≤1000) (hn':O.length≤1000) (cap:r_):bn Tryz.prog 18 [.one (.slice 0 0 L.length cap),fS 1 O.length 391] [oL,b8 53 (fl mC O)] (.one (.bool (uu L O))) [oL,b8 53 (fl mC O)]:=by
 have hfo:=hL.flat
 obtain⟨R,hR⟩:∃ R,uu L O=R:=⟨_,rfl⟩
 have hval := @uv _ L O
 rw [hR]at hval ⊢
 by_cases hlen:L.length=O.length
 · refine cO Tryz.func18 ?_
   repeat' (first|refine zz ?_|refine zx (fun _=>?_) (fun _=>?_)|fail)
   refine WX.cS (σ:=Nat) (fun i=>[(0,.one (.slice 0 0 L.length cap)),(1,fS 1 O.length 391),(12,.one (.int .i64 (L.length:Nat))),(13,.one (.int .i64 (i:Nat)))]) (fun _=>[oL,b8 53 (fl mC O)]) (fun i=>i≤L.length∧∀ j,j<i→my (L.getD j default) (O.getD j default)) (fun i=>L.length-i) 0 ⟨Nat.zero_le _,fun j hj=>absurd hj (Nat.not_lt_zero _)⟩ (fun s _=>j5) (bh [0,1]) ?_
   intro i ⟨hi,hall⟩ ih
   by_cases hlt:i<L.length
   · have t1:=hl i hlt
     have t2:=ho i (by omega)
     obtain⟨r,hr⟩:∃ r,wo (L.getD i default) (O.getD i default)=r:=⟨_,rfl⟩
     have hri := @wq _ (L.getD i default) (O.getD i default)
     rw [hr]at hri
     cases r with
     | true=>
       repeat' (first
        |(refine qz ?_;first
         |refine n6 (enc:=mC) (j:=i) ?_
         |refine ME (enc:=mC) (j:=i) ?_
         |refine cl ?_ (hi:=by exact zt t1 t2 hr rfl))
        |refine zz ?_|refine zx (fun _=>?_) (fun _=>?_)|fail)
       refine ih (i+1) _ _ _ (bh [0,1]) ⟨by omega,fun j hj=>?_⟩ (by omega)
       by_cases hji:j=i
       · rw [hji];exact hri.1 rfl
       · exact hall j (by omega)
     | false=>
       have hR1:R=false:=by
        cases R with
        | false=>rfl
        | true=>have:=hri.2 ((hval.1 rfl).2 i hlt);cases this
       subst hR1
       repeat' (first
        |(refine qz ?_;first
         |refine n6 (enc:=mC) (j:=i) ?_
         |refine ME (enc:=mC) (j:=i) ?_
         |refine cl ?_ (hi:=by exact zt t1 t2 hr rfl))
        |refine zz ?_|refine zx (fun _=>?_) (fun _=>?_)|fail)
       show aC _ _ _ _ _ _ _ _;refine kV [0,1] ?_
       rfl
   · have hR1:R=true:=hval.2 ⟨hlen,fun j hj=>hall j (by omega)⟩
     subst hR1
     repeat' (first|refine zz ?_|refine zx (fun _=>?_) (fun _=>?_)|fail)
     show aC _ _ _ _ _ _ _ _;refine kV [0,1] ?_
     rfl
 · have hR1:R=false:=by
    cases R with
    | false=>rfl
    | true=>exact absurd (hval.1 rfl).1 hlen
   subst hR1
   refine cO Tryz.func18 ?_
   repeat' (first|refine zz ?_|refine zx (fun _=>?_) (fun _=>?_)|fail)
   show aC _ _ _ _ _ _ _ _;refine kV [0,1] ?_
   rfl
theorem KM {oL:ak} {L O:List Mb}(hL:sN oL mC L) (hl:∀ i,i<L.length→jf (L.getD i default)) (ho:∀ i,i<O.length→jf (O.getD i default)) (hn:L.length≤1000) (hn':O.length≤1000) {cap:r_} {r:Bool}(hr:uu L O=r) {n m:Nat}(h1:L.length=n) (h2:O.length=m) {HS:aj} {i k:Nat}(hi:HS[i]? = some oL) (hk:HS[k]? = some (b8 53 (fl mC O))) (hd:i≠k) (hb:Nat.blt HS.length Mem.bound=true) :
 aH.Sound Tryz.prog ⟨18,[.one (.slice i 0 n cap),.one (gQ k m 391)],HS,.one (.bool r),HS,[]⟩:=by
 subst hr h1 h2
 have hfo:=hL.flat
 exact sQ [i,k] (H4 hL hl ho hn hn' cap) (by simp [hd]) (.flat hi (.flat hk .nil)) (.flat (.flat .nil)) (.cons (by show 0<2;omega) (.cons (ff (Nat.le_of_ble_eq_true rfl)) .nil)) (.cons rfl (.cons (cY ..) .nil)) (by trivial) (bz.ay _) hb rfl
end Go.Proofs.YtagpkhindehcbaaGreat
namespace Go.Xm
variable [az]
variable {P:Program} {ops:Array Oper} {nt nI:Nat} {al:bm} {hs:aj} {o:Oper} {l:List Oper} {L:List aH} {K:List Ab→bm→aj→Prop} {d:Nat}
theorem Qc {z:XC} {t e:TypeId} {y y':Operand} {c c':XC} {n:Nat} {hs':aj}(hk:SK P ops nt L l ((d,.one (.slice n 0 2 (.exact 2)))::al) hs' fun bs=>K (⟨true,.none,[n]⟩::bs)) (ho:o.op = .buildSlice t 2 #[(0,y),(1,y')]:=by exact rfl) (hu:a_ P t (.slice e):=by infer_instance) (hz:bt P e [z]:=by infer_instance) (hse:aR P e 1:=by infer_instance) (hw:au ops (rg al) o=some true:=by exact rfl) (hd:o.dst=some d:=by exact rfl) (hlt:Nat.blt d nt=true:=by exact rfl) (hy:cA (ai (rg al) y)=some [c]:=by exact rfl) (hy':cA (ai (rg al) y')=some [c']:=by exact rfl) (hn:hs.length=n:=by exact nL) (hb:Nat.blt n Mem.bound=true:=by exact rfl) (hh:hs++[.cells [c,c'] e false false]=hs':=by exact nA):SK P ops nt L (o::l) al hs K:=by
 subst hn hh
 refine SK.lift hd hlt (fun _=>?_) hk
 intro m hm
 obtain⟨m',h1,h2,h3⟩:=hm.push (.cells [c,c'] e false false) (by simpa [Nat.blt_eq]using hb)
 refine⟨m',?_,h2,h3⟩
 unfold jV
 rw [hw]
 refine cQ (by rw [ho];rfl) (by rw [ho];rfl) (by rw [ho];rfl) ?_
 rw [ho]
 have hf:gK (fun i=>some (i*1,1)) (eP [z] (2*1)) [(0,ai (rg al) y),(1,ai (rg al) y')]=some [c,c']:=by
  have e:eP [z] (2*1) = [z,z]:=by simp [eP,List.range_succ,Nat.mod_one]
  rw [e]
  simp [gK,hy,hy']
 simp only [cx,eD,eE,hu.out,hse.out,hz.out,List.map_cons,List.map_nil,h1,hm.n,hf]
 simp
end Go.Xm
namespace Go.Proofs.YtagpkhindehcbaaGreat
open Go.Xm
variable [az]
theorem Ej {f:FuncId} {args0 args:List XV} {v v':XV} {news news':aj} {ob oc:ak} [cI ob] [cI oc] (n:Nat) (hn:news.length=n) (hc:bn Tryz.prog f args0 (fk++[ob,oc]) v (fk++ob::oc::news)) {HS:aj} {K i j:Nat}(hS:(HS.drop K).take 13=eZ K) (hi:HS[i]? = some ob) (hj:HS[j]? = some oc) (hd:(oM K [i,j]).Nodup) (ha:eV 15 args0) (e1:dF (nth (oM K [i,j])) args0 args) (hv:v.b7 (15+n)) (e2:v.ay (nth (oM K [i,j]++List.range' HS.length n))=v')
 (hnk:bl (15+n) news) (hr:da (nth (oM K [i,j]++List.range' HS.length n)) news news') (hro:dP [] news=true) {HS':aj}(hh:HS++news'=HS') (hbd:Nat.blt HS'.length Mem.bound=true):aH.Sound Tryz.prog ⟨f,args,HS,v',HS',oM K [i,j]⟩:=by
 have e0:∀ q,q<13→nth (oM K [i,j]) q=K+q:=t_ K [i,j]
 have e0':∀ q,q<13→nth (oM K [i,j]++List.range' HS.length n) q=K+q:=t_ K (i::j::List.range' HS.length n)
 have hln:(fk++ob::oc::news).length=15+n:=by rw [List.length_append];show 13+(news.length+1+1)=_;omega
 refine bV (os:=eZ K++ob::oc::news') (oM K [i,j]) (oM K [i,j]) n hc hd (xv hS e0 (.flat hi (.flat hj .nil))) (mH (l:=[ob,oc]) (by show 13≤15;omega) (.flat (.flat .nil))) (by rw [hln];exact mH (l:=ob::oc::news) (by omega) (.flat (.flat hnk))) (by rw [hln];rfl) ha e1 (by rw [hln];exact hv) e2 (sR e0' (.flat (.flat hr))) ?_ rfl ?_ hbd (.inl rfl)
 · refine sY _ _ _ rfl ?_
   simp only [dP,Bool.and_eq_true]
   exact⟨by cases ob.live <;> simp,by cases oc.live <;> simp,hro⟩
 · have g:∀ q,q<13→HS[K+q]? = (eZ K)[q]?:=fun q hq=>by rw [←hS,List.getElem?_take_of_lt hq,List.getElem?_drop]
   have g0:HS[K]? = some (bM (K+1) (K+5) (K+9)):=g 0 (by decide)
   simp only [bG,eZ,List.cons_append,List.nil_append]
   rw [aG g0,aG (g 1 (by decide)),aG (g 2 (by decide)),aG (g 3 (by decide)),aG (g 4 (by decide)),aG (g 5 (by decide)),aG (g 6 (by decide)),aG (g 7 (by decide)),aG (g 8 (by decide)),aG (g 9 (by decide)),aG (g 10 (by decide)),aG (g 11 (by decide)),aG (g 12 (by decide)),aG hi,aG hj]
   exact hh
theorem IA {h:Hd} {p:Ph} {a b qa:List Int} {Ba:List Bool} {first:Int} {n:Nat}(hT:qh h p a qa Ba first n) {x:TA}(hx:l7 Ba first n ⟨gR h p,(0,false),[]⟩=x) (he:rC Ba x.r=0) (hF:vA h p first x.out) (h9:x.out.length≤9) (hb:dZ b) (hbl:b.length≤30000) {q:List Int} {B:List Bool}(hesc:j0 b b.length [] 0 0=some q) (hsz:ef q=(B.length,true)) (hfit:B.length≤8*q.length) (hB:cK q B) {r:List Mb}(hR:z5 B first x.out (gR h p) = .inr r) {z:Int}(hz:z=(n:Nat)) {k m:Nat}(hk:a.length=k) (hm:b.length=m) {HS:aj} {K i j:Nat}(hS:(HS.drop K).take 13=eZ K) (hi:HS[i]? = some (b8 5 (il .u8 a))) (hj:HS[j]? = some (b8 5 (il .u8 b))) (hd:(oM K [i,j]).Nodup) {N:Nat}(hN:HS.length=N) {HS':aj}(hh:HS++[b8 53 (fl mC r)]=HS') (hbd:Nat.blt HS'.length Mem.bound=true) :
 aH.Sound Tryz.prog ⟨17,[.one (.ptr K 0),.agg (gO h),.agg (iJ p),.one (.int .i64 first),.one (.int .i64 z),.one (gQ i k 1),.one (gQ j m 1)],HS,.tup [.one (gQ N r.length 391),.one (.int .i64 0)],HS',oM K [i,j]⟩:=by
 subst hz hk hm hN
 refine Ej 1 rfl (Fa hT hx he hF h9 hb hbl hesc hsz hfit hB hR) hS hi hj hd (.cons (by show 0<15;omega) (.flat (.flat (.flat (.flat (.cons (ff (Nat.le_of_ble_eq_true rfl)) (.cons (ff (Nat.le_of_ble_eq_true rfl)) .nil))))))) (.cons rfl (.flat (.flat (.flat (.flat (.cons (cY ..) (.cons (cY ..) .nil))))))) (Et (bc (Nat.le_of_ble_eq_true rfl)) trivial) ?_ (.flat .nil) (.flat .nil) ?_ hh hbd
 · simp only [Iy,XV.ay,List.map_cons,List.map_nil,X1.ay,aw];rfl
 · show dP [] [b8 53 (fl mC r)]=true
   cases fl mC r <;> rfl
theorem Em {h:Hd} {p:Ph}(hp:nK p) {f:Int} {l:List Sm}(hl:∀ j,j<l.length→jy (l.getD j default)):tc (nB p).inter (nB p).qp (iT h p f l):=by
 obtain⟨ho,c1,c2,c3,c4⟩:=xt h
 have hcr:=jE ho.dims
 have hF:0≤dp h f∧dp h f<(four h).cols*(four h).rows:=by
  unfold dp
  exact⟨Int.emod_nonneg _ (by omega),Int.emod_lt_of_pos _ (by omega)⟩
 exact(zo hl (nB p).inter (xq hp).qp (room:=(four h).cols*(four h).rows-dp h f) (by omega)).1
abbrev Cp (o0:ak) (G:Hd) (P:Ph) (L:List Mb) (opn:Bool) (r:aj):aj:=o0 :: .dead :: .cells (fl mC L) 53 opn false :: .cells (gO G) 26 false false :: .cells (iJ P) 28 false false::bM 6 10 14::ax 7 8 9 cM::aU cM::aW cM::aV cM::ax 11 12 13 cZ::aU cZ::aW cZ::aV cZ::ax 15 16 17 cP::aU cP::aW cP::aV cP::r
theorem xE {h : Hd} {p:Ph}(hh:sa h) (hp:nK p) {f:Int}(hf:0≤f∧f≤255) {l:List Sm}(hl:∀ j,j<l.length→jy (l.getD j default)) {o0:ak}(ho:sN o0 qU l) {c:XC}(hc:eX c 0 0 l.length) (hn:l.length≤9223372036854775807) :
 bn Tryz.prog 6 [.agg (gl h p f c)] [o0] (.one (.bool true)) [o0]:=by
 have hfo:=ho.flat
 obtain⟨hT,h9⟩:=Bn (h:=h) hp hf hl
 have hM:=Em (h:=h) (f:=f) hp hl
 obtain⟨G,hG⟩:∃ G,four h=G:=⟨_,rfl⟩
 obtain⟨P,hP⟩:∃ P,nB p=P:=⟨_,rfl⟩
 obtain⟨F,hF⟩:∃ F,dp h f=F:=⟨_,rfl⟩
 obtain⟨L,hL⟩:∃ L,iT h p f l=L:=⟨_,rfl⟩
 obtain⟨cap,hcap⟩:∃ x,Gh l.length=x:=⟨_,rfl⟩
 obtain⟨opn,hopn⟩:∃ x,Eu l.length=x:=⟨_,rfl⟩
 rw [hG,hP,hF,hL]at hT
 rw [hP,hL]at hM
 rw [hL]at h9
 have hm:=hT.many
 have hro:sN (.cells (fl mC L) 53 opn false) mC L:=⟨fun _=>⟨_,_,_,rfl⟩,inferInstance⟩
 have h9L:=h9
 obtain⟨n,hln⟩:∃ n,L.length=n:=⟨_,rfl⟩
 rw [hln]at h9 hm
 cases hr:pW G P L F with
 | inl e =>
   obtain⟨rfl,ie,hie,hed⟩:=Gb hT hM h9L hr
   refine cO Tryz.func6 ?_
   repeat' (first
    |(refine qz ?_;first
     |refine cl ?_ (hi:=by exact yF rfl)
     |refine fW ?_ (hle:=by first|rw [oY]|rw [bE])
     |refine cl ?_ (hi:=by exact CQ hh hp hf hl ho hc hn hG hP hF hL hcap hopn hln rfl nL nA rfl)
     |refine qi (zs:=gO ⟨0,0,false,fun _=>0,fun _=>0⟩) (hz:=u9) ?_
     |refine qi (zs:=iJ ⟨0,false,false,0⟩) (hz:=yp) ?_
     |refine jb (cs:=gO G) ?_ (hs1:=by rw [bE]) (hs2:=by rw [bE])
     |refine jb (cs:=iJ P) ?_
     |refine cl ?_ (hi:=by exact Bs nL (by simp only [eZ,List.cons_append,List.nil_append];exact rfl) rfl)
     |refine cl ?_ (hi:=by exact Ky hT hro hr hln rfl rfl (by decide) rfl))
    |refine zz ?_|refine zx (fun _=>?_) (fun _=>?_)|fail)
   refine WX.cS (σ:=Nat) (fun i=>[(40,.one (.slice 2 0 n cap)),(41,.one (.int .i64 (n:Nat))),(42,.one (.int .i64 (i:Nat)))]) (fun _=>Cp o0 G P L opn []) (fun i=>i≤n∧∀ j,j<i→(L.getD j default).edge=false) (fun i=>n-i) 0 ⟨Nat.zero_le _,fun j hj=>absurd hj (Nat.not_lt_zero _)⟩ (fun s _=>j5) (bh [0,1,2,3,4,5,6,7,8,9,10,11,12,13,14,15,16,17]) ?_
   intro i ⟨hi,hall⟩ ih
   by_cases hlt:i<n
   · obtain⟨M,hM'⟩:∃ M,L.getD i default=M:=⟨_,rfl⟩
     obtain⟨e,he⟩:∃ e,M.edge=e:=⟨_,rfl⟩
     have d4:(mC (L.getD i default))[6]? = some (.bool e):=by rw [hM',←he];rfl
     cases e with
     | true=>
       repeat' (first
        |(refine qz ?_;first
         |refine n6 (enc:=mC) (j:=i) ?_
         |refine qi (zs:=mC kr) (hz:=ia) ?_
         |refine jb (cs:=mC (L.getD i default)) ?_
         |refine ld (hc:=d4) ?_)
        |refine zz ?_|refine zx (fun _=>?_) (fun _=>?_)|fail)
       show aC _ _ _ _ _ _ _ _;refine kV [0] ?_
       rfl
     | false=>
       repeat' (first
        |(refine qz ?_;first
         |refine n6 (enc:=mC) (j:=i) ?_
         |refine qi (zs:=mC kr) (hz:=ia) ?_
         |refine jb (cs:=mC (L.getD i default)) ?_
         |refine ld (hc:=d4) ?_)
        |refine zz ?_|refine zx (fun _=>?_) (fun _=>?_)|fail)
       refine ih (i+1) _ _ _ (bh [0,1,2,3,4,5,6,7,8,9,10,11,12,13,14,15,16,17]) ⟨by omega,fun j hj=>?_⟩ (by omega)
       by_cases hji:j=i
       · rw [hji,hM'];exact he
       · exact hall j (by omega)
   · have:=hall ie (by omega)
     rw [hed]at this
     cases this
 | inr ab =>
   obtain⟨a,b⟩:=ab
   have hB:=JA hT hr
   have hB2:=DP hT h9L hr
   obtain⟨q,B,t,y,hTk,ht,hy,hbk,hend⟩:=hB.out n hm (by omega)
   rw [hln,if_neg (Nat.lt_irrefl n)]at hend
   have hlo:t.out.length=n:=hbk.len
   have hX:eg L F (iC G P) L.length = .inr y:=by rw [hln];exact hy
   have hbk':rr L F (iC G P) L.length y t:=by rw [hln];exact hbk
   have hO:=vD hbk'
   obtain⟨q2,E,g1,g2,g3,g4,g5,out,g6,g7,g8⟩:=hB2.all t y hX hbk'
   have hFA:vA G P F t.out:=⟨hT.hd,hT.ph,hT.pos,by omega,by have:=hT.all;rw [hln]at this;rw [hlo];exact this,fun j hj q=>by
    obtain⟨h1,_⟩:=hO.at_ j (by omega)
    rw [h1.lev]
    have:=(mW hT (k:=j) (by omega)).lev q
    split <;> omega⟩
   have hR:z5 y.w F t.out (gR G P) = .inr out:=by
    unfold z5
    rw [g5]
    dsimp only
    have e0:rC y.w (y.w.length,false)=0:=by unfold rC;rw [if_neg Bool.false_ne_true,if_neg (Nat.lt_irrefl _)]
    rw [e0,if_neg (by simp),g6]
   have hol:out.length=n:=g7.trans hln
   have ht1:∀ i,i<L.length→jf (L.getD i default):=fun i hi k hk=>(mW hT hi).v k
   have ht2:∀ i,i<out.length→jf (out.getD i default):=fun i hi k hk=>by
    rw [(g8 i (by omega)).v k hk];exact(mW hT (k:=i) (by omega)).v k
   have hsame:uu L out=true:=uv.2 ⟨g7.symm,g8⟩
   have hz:(n:Int)=(n:Nat):=rfl
   have hna:=hB.na
   have hnb:=hB.nb
   have hla:=hB2.lea
   have hlb:=hB2.leb
   refine cO Tryz.func6 ?_
   repeat' (first
    |(refine qz ?_;first
     |refine cl ?_ (hi:=by exact yF rfl)
     |refine fW ?_ (hle:=by first|rw [oY]|rw [bE])
     |refine cl ?_ (hi:=by exact CQ hh hp hf hl ho hc hn hG hP hF hL hcap hopn hln rfl nL nA rfl)
     |refine qi (zs:=gO ⟨0,0,false,fun _=>0,fun _=>0⟩) (hz:=u9) ?_
     |refine qi (zs:=iJ ⟨0,false,false,0⟩) (hz:=yp) ?_
     |refine jb (cs:=gO G) ?_ (hs1:=by rw [bE]) (hs2:=by rw [bE])
     |refine jb (cs:=iJ P) ?_
     |refine cl ?_ (hi:=by exact Bs nL (by simp only [eZ,List.cons_append,List.nil_append];exact rfl) rfl)
     |refine cl ?_ (hi:=by exact CZ hT hro hr hln rfl rfl (by decide) nL (by simp only [eZ,List.cons_append,List.nil_append];exact rfl) rfl)
     |refine Qc ?_)
    |refine zz ?_|refine zx (fun _=>?_) (fun _=>?_)|fail)
   refine WX.cS (σ:=Nat) (fun j=>[(3,.one (.ptr 3 0)),(4,.one (.ptr 4 0)),(5,.one (.int .i64 F)),(6,.one (.slice 2 0 n cap)),(7,.one (.ptr 5 0)),(8,.one (gQ 18 a.length 1)),(9,.one (gQ 19 b.length 1)),(53,.one (.slice 20 0 2 (.exact 2))),(54,.one (.int .i64 (2:Nat))),(55,.one (.int .i64 (j:Nat)))]) (fun _=>Cp o0 G P L opn [b8 5 (il .u8 a),b8 5 (il .u8 b),.cells [gQ 18 a.length 1,gQ 19 b.length 1] 38 false false]) (fun j=>j≤2) (fun j=>2-j) 0 (Nat.zero_le _) (fun s _=>j5) (bh [0,1,2,3,4,5,6,7,8,9,10,11,12,13,14,15,16,17,18,19,20]) ?_
   intro j hj ih
   by_cases hlt:j<2
   · have hj2:j=0∨j=1:=by omega
     rcases hj2 with rfl|rfl
     · repeat' (first|refine zz ?_|refine zx (fun _=>?_) (fun _=>?_)|fail)
       refine WX.cS (σ:=Nat) (fun i=>[(3,.one (.ptr 3 0)),(4,.one (.ptr 4 0)),(5,.one (.int .i64 F)),(6,.one (.slice 2 0 n cap)),(7,.one (.ptr 5 0)),(8,.one (gQ 18 a.length 1)),(9,.one (gQ 19 b.length 1)),(14,.one (gQ 18 a.length 1)),(15,.one (.int .i64 (i:Nat))),(53,.one (.slice 20 0 2 (.exact 2))),(54,.one (.int .i64 (2:Nat))),(55,.one (.int .i64 (0:Nat)))]) (fun _=>Cp o0 G P L opn [b8 5 (il .u8 a),b8 5 (il .u8 b),.cells [gQ 18 a.length 1,gQ 19 b.length 1] 38 false false]) (fun i=>i≤a.length) (fun i=>a.length-i) 0 (Nat.zero_le _) (fun s _=>j5) (bh [0,1,2,3,4,5,6,7,8,9,10,11,12,13,14,15,16,17,18,19,20]) ?_
       intro i hi ih2
       by_cases hi2:i+2<a.length
       · have hno:=hB2.noa i hi2
         have e1:((i:Int)+1).toNat=i+1:=by omega
         have e2:((i:Int)+2).toNat=i+2:=by omega
         rw [←e1,←e2]at hno
         by_cases x0:a.getD i 0=0
         · by_cases x1:a.getD ((i:Int)+1).toNat 0=0
           · have x2:¬a.getD ((i:Int)+2).toNat 0<3:=fun h=>hno ⟨x0,x1,h⟩
             repeat' (first|refine zz ?_|refine zx (fun _=>?_) (fun _=>?_)|fail)
             refine ih2 (i+1) _ _ _ (bh [0,1,2,3,4,5,6,7,8,9,10,11,12,13,14,15,16,17,18,19,20]) (by omega) (by omega)
           · repeat' (first|refine zz ?_|refine zx (fun _=>?_) (fun _=>?_)|fail)
             refine ih2 (i+1) _ _ _ (bh [0,1,2,3,4,5,6,7,8,9,10,11,12,13,14,15,16,17,18,19,20]) (by omega) (by omega)
         · repeat' (first|refine zz ?_|refine zx (fun _=>?_) (fun _=>?_)|fail)
           refine ih2 (i+1) _ _ _ (bh [0,1,2,3,4,5,6,7,8,9,10,11,12,13,14,15,16,17,18,19,20]) (by omega) (by omega)
       · repeat' (first|refine zz ?_|refine zx (fun _=>?_) (fun _=>?_)|fail)
         refine ih 1 _ _ _ (bh [0,1,2,3,4,5,6,7,8,9,10,11,12,13,14,15,16,17,18,19,20]) (by omega) (by omega)
     · repeat' (first|refine zz ?_|refine zx (fun _=>?_) (fun _=>?_)|fail)
       refine WX.cS (σ:=Nat) (fun i=>[(3,.one (.ptr 3 0)),(4,.one (.ptr 4 0)),(5,.one (.int .i64 F)),(6,.one (.slice 2 0 n cap)),(7,.one (.ptr 5 0)),(8,.one (gQ 18 a.length 1)),(9,.one (gQ 19 b.length 1)),(14,.one (gQ 19 b.length 1)),(15,.one (.int .i64 (i:Nat))),(53,.one (.slice 20 0 2 (.exact 2))),(54,.one (.int .i64 (2:Nat))),(55,.one (.int .i64 (1:Nat)))]) (fun _=>Cp o0 G P L opn [b8 5 (il .u8 a),b8 5 (il .u8 b),.cells [gQ 18 a.length 1,gQ 19 b.length 1] 38 false false]) (fun i=>i≤b.length) (fun i=>b.length-i) 0 (Nat.zero_le _) (fun s _=>j5) (bh [0,1,2,3,4,5,6,7,8,9,10,11,12,13,14,15,16,17,18,19,20]) ?_
       intro i hi ih2
       by_cases hi2:i+2<b.length
       · have hno:=hB2.nob i hi2
         have e1:((i:Int)+1).toNat=i+1:=by omega
         have e2:((i:Int)+2).toNat=i+2:=by omega
         rw [←e1,←e2]at hno
         by_cases x0:b.getD i 0=0
         · by_cases x1:b.getD ((i:Int)+1).toNat 0=0
           · have x2:¬b.getD ((i:Int)+2).toNat 0<3:=fun h=>hno ⟨x0,x1,h⟩
             repeat' (first|refine zz ?_|refine zx (fun _=>?_) (fun _=>?_)|fail)
             refine ih2 (i+1) _ _ _ (bh [0,1,2,3,4,5,6,7,8,9,10,11,12,13,14,15,16,17,18,19,20]) (by omega) (by omega)
           · repeat' (first|refine zz ?_|refine zx (fun _=>?_) (fun _=>?_)|fail)
             refine ih2 (i+1) _ _ _ (bh [0,1,2,3,4,5,6,7,8,9,10,11,12,13,14,15,16,17,18,19,20]) (by omega) (by omega)
         · repeat' (first|refine zz ?_|refine zx (fun _=>?_) (fun _=>?_)|fail)
           refine ih2 (i+1) _ _ _ (bh [0,1,2,3,4,5,6,7,8,9,10,11,12,13,14,15,16,17,18,19,20]) (by omega) (by omega)
       · repeat' (first|refine zz ?_|refine zx (fun _=>?_) (fun _=>?_)|fail)
         refine ih 2 _ _ _ (bh [0,1,2,3,4,5,6,7,8,9,10,11,12,13,14,15,16,17,18,19,20]) (by omega) (by omega)
   · repeat' (first
      |(refine qz ?_;first
       |refine fW ?_ (hle:=by rw [bE])
       |refine cl ?_ (hi:=by exact IA hTk ht hend hFA (by omega) hB2.byb hlb g1 g2 g3 g4 hR hz rfl rfl rfl rfl rfl (by decide) nL nA rfl)
       |refine cl ?_ (hi:=by exact KM hro ht1 ht2 (by omega) (by omega) hsame hln rfl rfl rfl (by decide) rfl))
      |refine zz ?_|refine zx (fun _=>?_) (fun _=>?_)|fail)
     show aC _ _ _ _ _ _ _ _;refine kV [0] ?_
     rfl
end Go.Proofs.YtagpkhindehcbaaGreat
namespace Go.Xm
inductive d7 where
 | int (k:IntKind)
 | bool
def d7.has:d7→Value→Prop
 | .int k,v=>∃ z,v = .int k z∧(Lit.int k z).wf=true
 | .bool,v=>∃ b,v = .bool b
def lint:Value→Int
 | .int _ z=>z
 | _=>0
def tV:Value→Bool
 | .bool b=>b
 | _=>false
def d7.cell (l:d7) (v:Value):XC:=match l with
 | .int k => .int k (lint v)
 | .bool => .bool (tV v)
theorem d7.den [az] {l:d7} {v:Value}(h:l.has v) (β : Env):(l.cell v).den β = v:=by
 cases l with
 | int k=>obtain⟨z,rfl,_⟩:=h;rfl
 | bool=>obtain⟨b,rfl⟩:=h;rfl
def fC (P:Program) (t:TypeId) (ks:List d7):Prop:=
 P.cellsOf t=ks.length∧∀(H:Type) (enc:TypeId × Value→H) (w:World) (base:Nat) (spare:Nat→Bool) (held:Bool) (fuel:Nat) (cs:List Value) (x:DataW H × List MemPlace),
  DataW.trod enc P w base spare held fuel t cs=some x→cs.length=ks.length∧∀(j:Nat) (l:d7),ks[j]? = some l→∃ v,cs[j]? = some v∧l.has v
variable {P:Program} {t:TypeId}
theorem fC.int {k:IntKind}(ht:P.underlying t=some (.int k)) (hc:P.cellsOf t=1):fC P t [.int k]:=by
 refine⟨hc,fun H enc w base spare held fuel cs x h=>?_⟩
 obtain⟨n,rfl,_,hw⟩:=DataW.trod_int ht h
 refine⟨rfl,fun j l hj=>?_⟩
 match j,hj with
 | 0,hj=>cases hj;exact⟨_,rfl,n,rfl,hw⟩
 | j+1,hj=>simp at hj
theorem fC.bool (ht:P.underlying t=some .bool) (hc:P.cellsOf t=1):fC P t [.bool]:=by
 refine⟨hc,fun H enc w base spare held fuel cs x h=>?_⟩
 obtain⟨b,rfl,_⟩:=DataW.trod_bool ht h
 refine⟨rfl,fun j l hj=>?_⟩
 match j,hj with
 | 0,hj=>cases hj;exact⟨_,rfl,b,rfl⟩
 | j+1,hj=>simp at hj
def ja (ks:List d7):Nat→List d7
 | 0=>[]
 | n+1=>ks++ja ks n
theorem l0 (ks:List d7):∀ n,(ja ks n).length=n*ks.length
 | 0=>by simp [ja]
 | n+1=>by rw [ja,List.length_append,l0 ks n,Nat.add_mul,Nat.one_mul,Nat.add_comm]
theorem zL {ks:List d7} {l:d7}:∀(n j:Nat),(ja ks n)[j]? = some l→∃ i r,i<n∧j=i*ks.length+r∧ks[r]? = some l
 | 0,j,h=>by simp [ja]at h
 | n + 1,j,h=>by
   rw [ja]at h
   by_cases hj:j<ks.length
   · rw [List.getElem?_append_left hj]at h
     exact⟨0,j,Nat.succ_pos _,by simp,h⟩
   · rw [List.getElem?_append_right (by omega)]at h
     obtain⟨i,r,hi,hr,hl⟩:=zL n (j-ks.length) h
     exact⟨i+1,r,by omega,by rw [Nat.add_mul,Nat.one_mul];omega,hl⟩
theorem fC.array {n:Nat} {e:TypeId} {ks:List d7}(ht:P.underlying t=some (.array n e)) (he:fC P e ks) (hc:P.cellsOf t=n*ks.length):fC P t (ja ks n):=by
 refine⟨by rw [hc,l0],fun H enc w base spare held fuel cs x h=>?_⟩
 obtain⟨xs,m,_,_,hlen,hxl,hx⟩:=DataW.trod_array ht h
 refine⟨by rw [hlen,hc,l0],fun j l hj=>?_⟩
 obtain⟨i,r,hi,rfl,hr⟩:=zL n j hj
 have hxi:xs[i]? = some (xs[i]'(by omega)):=List.getElem?_eq_getElem (by omega)
 obtain⟨hl,hv⟩:=he.2 H enc w base spare held m _ _ ((hx i hi).trans hxi)
 obtain⟨v,hv1,hv2⟩:=hv r l hr
 refine⟨v,?_,hv2⟩
 have hrl:r<ks.length:=(List.getElem?_eq_some_iff.1 hr).1
 rw [he.1,List.getElem?_take_of_lt hrl,List.getElem?_drop]at hv1
 exact hv1
theorem Ee {kss:List (List d7)} {l:d7}:∀ {j:Nat},kss.flatten[j]? = some l→∃ i ks r,kss[i]? = some ks∧j=((kss.take i).flatten).length+r∧ks[r]? = some l:=by
 induction kss with
 | nil=>intro j h;simp at h
 | cons ks kss ih=>
   intro j h
   rw [List.flatten_cons]at h
   by_cases hj:j<ks.length
   · rw [List.getElem?_append_left hj]at h
     exact⟨0,ks,j,rfl,by simp,h⟩
   · rw [List.getElem?_append_right (by omega)]at h
     obtain⟨i,ks',r,h1,h2,h3⟩:=ih h
     refine⟨i+1,ks',r,h1,?_,h3⟩
     rw [List.take_succ_cons,List.flatten_cons,List.length_append]
     omega
theorem fC.struct {fs:Array Field}(kss:List (List d7)) (ht:P.underlying t=some (.struct fs)) (hn:kss.length=fs.size) (hf:∀(i:Nat) (f:Field) (ks:List d7),fs[i]? = some f→kss[i]? = some ks→fC P f.type ks∧f.offset=((kss.take i).flatten).length) (hc:P.cellsOf t=kss.flatten.length):fC P t kss.flatten:=by
 refine⟨hc,fun H enc w base spare held fuel cs x h=>?_⟩
 obtain⟨xs,m,_,_,hlen,hxl,hx⟩:=DataW.trod_struct ht h
 refine⟨by rw [hlen,hc],fun j l hj=>?_⟩
 obtain⟨i,ks,r,h1,rfl,h3⟩:=Ee hj
 have hi:i<fs.size:=by
  have:=(List.getElem?_eq_some_iff.1 h1).1
  omega
 have hfi:fs[i]? = some fs[i]:=Array.getElem?_eq_getElem hi
 obtain⟨hl,ho⟩:=hf i _ ks hfi h1
 have hxi:xs[i]? = some (xs[i]'(by omega)):=List.getElem?_eq_getElem (by omega)
 obtain⟨_,hv⟩:=hl.2 H enc w base spare held m _ _ ((hx i _ hfi).trans hxi)
 obtain⟨v,hv1,hv2⟩:=hv r l h3
 refine⟨v,?_,hv2⟩
 have hrl:r<ks.length:=(List.getElem?_eq_some_iff.1 h3).1
 rw [hl.1,List.getElem?_take_of_lt hrl,List.getElem?_drop,ho]at hv1
 exact hv1
def jd:List d7→(Nat→Value)→Nat→List XC
 | [],_,_=>[]
 | l::ks,g,j=>l.cell (g j)::jd ks g (j+1)
theorem rI:∀(ks:List d7) (g:Nat→Value) (o j:Nat),(jd ks g o)[j]? = (ks[j]?).map fun l=>l.cell (g (o+j))
 | [],g,o,j=>by simp [jd]
 | l::ks,g,o,0=>rfl
 | l::ks,g,o,j+1=>by
   rw [jd,List.getElem?_cons_succ,rI ks g (o+1) j,List.getElem?_cons_succ]
   rw [show o+1+j=o+(j+1) by omega]
theorem NT (ks:List d7) (g:Nat→Value):∀ o,(jd ks g o).length=ks.length:=by
 induction ks with
 | nil=>intro o;rfl
 | cons l ks ih=>intro o;rw [jd,List.length_cons,ih,List.length_cons]
def pT (ks:List d7) (g:Nat→Value) (o:Nat):Prop:=∀(j:Nat) (l:d7),ks[j]? = some l→l.has (g (o+j))
theorem vS [az] {ks:List d7} {cs:List Value}(hl:cs.length=ks.length) (h:∀(j:Nat) (l:d7),ks[j]? = some l→∃ v,cs[j]? = some v∧l.has v) (β : Env):cs=(jd ks (fun j=>cs.getD j .nilIface) 0).map (·.den β)∧pT ks (fun j=>cs.getD j .nilIface) 0:=by
 have hv:∀ j l,ks[j]? = some l→l.has (cs.getD j .nilIface)∧cs[j]? = some (cs.getD j .nilIface):=fun j l hj=>by
  obtain⟨v,h1,h2⟩:=h j l hj
  rw [List.getD_eq_getElem?_getD,h1]
  exact⟨h2,rfl⟩
 refine⟨List.ext_getElem? fun j=>?_,fun j l hj=>by rw [Nat.zero_add];exact(hv j l hj).1⟩
 rw [List.getElem?_map,rI,Nat.zero_add]
 by_cases hj:j<ks.length
 · have hk:ks[j]? = some ks[j]:=List.getElem?_eq_getElem hj
   obtain⟨h1,h2⟩:=hv j _ hk
   rw [hk]
   show cs[j]? = some ((ks[j].cell (cs.getD j .nilIface)).den β)
   rw [d7.den h1,h2]
 · rw [List.getElem?_eq_none (by omega),List.getElem?_eq_none (by omega)]
   rfl
end Go.Xm
namespace Go.Proofs.YtagpkhindehcbaaGreat
open Go.ChangeShapes Go.WideShapes Go.ChangeAt Go.RowKit Go.Deep Go.Xm
def G3:List d7:=[[d7.bool],ja [.int .u8] 64,ja [.int .u8] 64].flatten
def G0:List d7:=[[d7.int .i64],[.int .i64],G3].flatten
def MD:List d7:=[[d7.int .i64],[.bool],[.bool],[.int .i64]].flatten
def OB:List d7:=[ja [d7.int .i8] 4,ja [.int .i8] 4,[.bool]].flatten
def Bh:List d7:=[[d7.int .u8],[.int .u8],OB,[.bool],ja [.int .u64] 6,[.int .u32],[.bool]].flatten
theorem zk:fC Tryz.prog 5 [.int .u8] := .int Tryz.underlying5 (by kernel_rfl)
theorem OD:fC Tryz.prog 73 [.int .i8] := .int Tryz.underlying73 (by kernel_rfl)
theorem MH:fC Tryz.prog 77 [.int .u64] := .int Tryz.underlying77 (by kernel_rfl)
theorem MG:fC Tryz.prog 79 [.int .u32] := .int Tryz.underlying79 (by kernel_rfl)
theorem xy:fC Tryz.prog 3 [.int .i64] := .int Tryz.underlying3 (by kernel_rfl)
theorem oN:fC Tryz.prog 4 [.bool] := .bool Tryz.underlying4 (by kernel_rfl)
theorem Hc:fC Tryz.prog 22 (ja [.int .u8] 64) := .array Tryz.underlying22 zk (by kernel_rfl)
theorem LK:fC Tryz.prog 74 (ja [.int .i8] 4) := .array Tryz.underlying74 OD (by kernel_rfl)
theorem OC:fC Tryz.prog 78 (ja [.int .u64] 6) := .array Tryz.underlying78 MH (by kernel_rfl)
theorem MF:fC Tryz.prog 24 G3:=by
 refine .struct _ Tryz.underlying24 rfl (fun i f ks hi hk=>?_) (by kernel_rfl)
 match i,hi,hk with
 | 0,hi,hk=>cases hi;cases hk;exact⟨oN,rfl⟩
 | 1,hi,hk=>cases hi;cases hk;exact⟨Hc,rfl⟩
 | 2,hi,hk=>cases hi;cases hk;exact⟨Hc,rfl⟩
 | i+3,hi,hk=>simp at hk
theorem LL:fC Tryz.prog 26 G0:=by
 refine .struct _ Tryz.underlying26 rfl (fun i f ks hi hk=>?_) (by kernel_rfl)
 match i,hi,hk with
 | 0,hi,hk=>cases hi;cases hk;exact⟨xy,rfl⟩
 | 1,hi,hk=>cases hi;cases hk;exact⟨xy,rfl⟩
 | 2,hi,hk=>cases hi;cases hk;exact⟨MF,rfl⟩
 | i+3,hi,hk=>simp at hk
theorem LM:fC Tryz.prog 28 MD:=by
 refine .struct _ Tryz.underlying28 rfl (fun i f ks hi hk=>?_) (by kernel_rfl)
 match i,hi,hk with
 | 0,hi,hk=>cases hi;cases hk;exact⟨xy,rfl⟩
 | 1,hi,hk=>cases hi;cases hk;exact⟨oN,rfl⟩
 | 2,hi,hk=>cases hi;cases hk;exact⟨oN,rfl⟩
 | 3,hi,hk=>cases hi;cases hk;exact⟨xy,rfl⟩
 | i+4,hi,hk=>simp at hk
theorem OE:fC Tryz.prog 76 OB:=by
 refine .struct _ Tryz.underlying76 rfl (fun i f ks hi hk=>?_) (by kernel_rfl)
 match i,hi,hk with
 | 0,hi,hk=>cases hi;cases hk;exact⟨LK,rfl⟩
 | 1,hi,hk=>cases hi;cases hk;exact⟨LK,rfl⟩
 | 2,hi,hk=>cases hi;cases hk;exact⟨oN,rfl⟩
 | i+3,hi,hk=>simp at hk
theorem LN:fC Tryz.prog 81 Bh:=by
 refine .struct _ Tryz.underlying81 rfl (fun i f ks hi hk=>?_) (by kernel_rfl)
 match i,hi,hk with
 | 0,hi,hk=>cases hi;cases hk;exact⟨zk,rfl⟩
 | 1,hi,hk=>cases hi;cases hk;exact⟨zk,rfl⟩
 | 2,hi,hk=>cases hi;cases hk;exact⟨OE,rfl⟩
 | 3,hi,hk=>cases hi;cases hk;exact⟨oN,rfl⟩
 | 4,hi,hk=>cases hi;cases hk;exact⟨OC,rfl⟩
 | 5,hi,hk=>cases hi;cases hk;exact⟨MG,rfl⟩
 | 6,hi,hk=>cases hi;cases hk;exact⟨oN,rfl⟩
 | i+7,hi,hk=>simp at hk
theorem zg (a b:List d7) (g:Nat→Value):∀ o,jd (a++b) g o=jd a g o++jd b g (o+a.length):=by
 induction a with
 | nil=>intro o;rfl
 | cons l a ih=>
   intro o
   rw [List.cons_append,jd,ih,jd,List.cons_append,List.length_cons]
   rw [show o+1+a.length=o+(a.length+1) by omega]
theorem vT (k:IntKind) (g:Nat→Value):∀ n o,jd (ja [.int k] n) g o=ti k n fun i=>lint (g (o+i)):=by
 intro n
 induction n with
 | zero=>intro o;rfl
 | succ n ih=>
   intro o
   rw [ja,zg,ih]
   unfold ti
   rw [List.range_succ_eq_map,List.map_cons,List.map_map]
   show _::_=_::_
   congr 1
   refine List.map_congr_left fun i _=>?_
   show XC.int k (lint (g (o+1+i)))=XC.int k (lint (g (o+(i+1))))
   rw [show o+1+i=o+(i+1) by omega]
def GQ (g:Nat→Value):Hd:=⟨lint (g 0),lint (g 1),tV (g 2),fun i=>lint (g (3+i)),fun i=>lint (g (67+i))⟩
def Hx (g:Nat→Value):Ph:=⟨lint (g 0),tV (g 1),tV (g 2),lint (g 3)⟩
def K1 (g:Nat→Value):Sm:=⟨lint (g 0),lint (g 1),⟨fun i=>lint (g (2+i)),fun i=>lint (g (6+i)),tV (g 10)⟩,tV (g 11),fun i=>lint (g (12+i)),lint (g 18),tV (g 19)⟩
theorem xw:G0 = [d7.int .i64,.int .i64,.bool]++(ja [.int .u8] 64++ja [.int .u8] 64):=by
 simp only [G0,G3,List.flatten_cons,List.flatten_nil,List.append_nil,List.cons_append,List.nil_append]
theorem G4 (g:Nat→Value):jd G0 g 0=gO (GQ g):=by
 rw [xw]
 simp only [List.cons_append,List.nil_append,jd]
 rw [zg,vT,vT,l0]
 rfl
theorem G5 (g:Nat→Value):jd MD g 0=iJ (Hx g):=rfl
theorem G6 (g:Nat→Value):jd Bh g 0=qU (K1 g):=rfl
theorem G7 {k:IntKind} {v:Value}(h:(d7.int k).has v):(Lit.int k (lint v)).wf=true:=by
 obtain⟨z,rfl,hz⟩:=h
 exact hz
theorem uo (l:d7):∀ n,ja [l] n=List.replicate n l
 | 0=>rfl
 | n+1=>by rw [ja,uo l n,List.replicate_succ];rfl
theorem C6 (l:d7) {n i:Nat}(h:i<n) (r:List d7):(ja [l] n++r)[i]? = some l:=by
 rw [List.getElem?_append_left (by rw [uo,List.length_replicate];exact h),uo,List.getElem?_replicate,if_pos h]
theorem ok_int {ks:List d7} {g:Nat→Value}(h:pT ks g 0) {j:Nat} {k:IntKind}(hj:ks[j]? = some (.int k)):(Lit.int k (lint (g j))).wf=true:=by
 have:=G7 (h j _ hj)
 rwa [Nat.zero_add]at this
theorem Mw {g:Nat→Value}(h:pT G0 g 0):sa (GQ g):=by
 refine⟨bounds_i64 (ok_int h rfl),bounds_i64 (ok_int h rfl),fun i h64=>⟨bounds_u8 (ok_int h ?_),bounds_u8 (ok_int h ?_)⟩⟩
 · rw [Nat.add_comm]
   rw [xw]
   show(ja [d7.int .u8] 64++ja [.int .u8] 64)[i]? = _
   exact C6 _ h64 _
 · rw [show 67+i=(64+i)+3 by omega]
   rw [xw]
   show(ja [d7.int .u8] 64++ja [.int .u8] 64)[64+i]? = _
   rw [List.getElem?_append_right (by rw [l0];simp),l0]
   simp only [List.length_cons,List.length_nil,Nat.zero_add,Nat.mul_one,Nat.add_sub_cancel_left]
   rw [←List.append_nil (ja _ 64)]
   exact C6 _ h64 _
theorem MT {g:Nat→Value}(h:pT MD g 0):nK (Hx g):=⟨bounds_i64 (ok_int h rfl),bounds_i64 (ok_int h rfl)⟩
theorem Nm {g:Nat→Value}(h:pT Bh g 0):jy (K1 g):=by
 have i8:∀ {j},Bh[j]? = some (.int .i8) → -128≤lint (g j)∧lint (g j)<128:=fun {j} hj=>by
  have:=bounds_i8 (ok_int h hj)
  omega
 have u64:∀ {j},Bh[j]? = some (.int .u64)→0≤lint (g j)∧lint (g j)<18446744073709551616:=fun {j} hj=>by
  have:=bounds_u64 (ok_int h hj)
  omega
 refine⟨bounds_u8 (ok_int h rfl),bounds_u8 (ok_int h rfl),⟨fun k hk=>?_,fun k hk=>?_⟩,fun k hk=>?_,?_⟩
 · match k,hk with
   | 0,_=>exact i8 rfl
   | 1,_=>exact i8 rfl
   | 2,_=>exact i8 rfl
   | 3,_=>exact i8 rfl
 · match k,hk with
   | 0,_=>exact i8 rfl
   | 1,_=>exact i8 rfl
   | 2,_=>exact i8 rfl
   | 3,_=>exact i8 rfl
 · match k,hk with
   | 0,_=>exact u64 rfl
   | 1,_=>exact u64 rfl
   | 2,_=>exact u64 rfl
   | 3,_=>exact u64 rfl
   | 4,_=>exact u64 rfl
   | 5,_=>exact u64 rfl
 · have:=bounds_u32 (ok_int h (j:=18) rfl)
   show 0≤lint (g 18)∧lint (g 18)<4294967296
   omega
variable [az]
section
variable {H:Type} {enc:TypeId × Value→H} {w:World} {base:Nat} {spare:Nat→Bool} {held:Bool}
set_option maxRecDepth 100000 in
theorem Nn {v:Value} {b0:Nat} {r:Reach} {t:TypeId}(ht:Tryz.prog.underlying t=some (.slice 81)) (hcell:Cell.okWide Tryz.prog w r b0 t v) {fuel:Nat} {x:DataW H × List MemPlace}(hf:DataW.trod enc Tryz.prog w base spare held fuel t [v]=some x) :
 ∃ l:List Sm,(∀ j,j<l.length→jy (l.getD j default))∧l.length≤9223372036854775807∧qf w v (fl qU l) l.length:=by
 rcases open_slice ht hf with⟨hcs,_⟩|⟨a,len,cap,m,n,D,Pl,hcs,_,hlc,hcm,hm,_,hall⟩
 · simp only [List.cons.injEq,and_true]at hcs
   exact⟨[],fun j hj=>absurd hj (Nat.not_lt_zero _),Nat.zero_le _,.inl ⟨hcs,rfl,rfl⟩⟩
 · simp only [List.cons.injEq,and_true]at hcs
   subst hcs
   have hspot:=uA ht hcell
   have hlm:len≤m:=by rw [hm];split <;> omega
   have hC:Tryz.prog.cellsOf 81=20:=LN.1
   let g:Nat→Nat→Value:=fun i j=>(w.cell? ⟨a.block,a.off+(i*20+j),none⟩).getD .nilIface
   have hg:∀ i,i<len→pT Bh (g i) 0∧∀ j,j<20→w.cell? ⟨a.block,a.off+(i*20+j),none⟩=some (g i j):=fun i hi=>by
    obtain⟨cs',hc,ht'⟩:=hall i (by omega)
    rw [hC]at hc
    obtain⟨_,hcl,hat⟩:=World.cells?_some hc
    have hat':∀ j,j<20→w.cell? ⟨a.block,a.off+(i*20+j),none⟩=cs'[j]?:=fun j hj=>by
     rw [←hat j hj,Go.Deep.add_add,vC hspot]
    have hgj:∀ j,j<20→g i j=cs'.getD j .nilIface:=fun j hj=>by
     show(w.cell? _).getD _=_
     rw [hat' j hj,List.getD_eq_getElem?_getD]
    obtain⟨hl,hv⟩:=LN.2 H enc w base spare held n cs' _ ht'
    have hl20:cs'.length=20:=hl
    refine⟨fun j l hj=>?_,fun j hj=>?_⟩
    · have hj20:j<20:=(List.getElem?_eq_some_iff.1 hj).1
      obtain⟨v,h1,h2⟩:=hv j l hj
      rw [Nat.zero_add,hgj j hj20,List.getD_eq_getElem?_getD,h1]
      exact h2
    · rw [hat' j hj,hgj j hj,List.getD_eq_getElem?_getD,List.getElem?_eq_getElem (by omega)]
      rfl
   refine⟨(List.range len).map fun i=>K1 (g i),fun j hj=>?_,?_,.inr ⟨a.block,a.off,cap,by simpa using hlc,?_,fun j c hj β=>?_⟩⟩
   · rw [List.length_map,List.length_range]at hj
     rw [List.getD_eq_getElem?_getD,List.getElem?_map,List.getElem?_range hj]
     exact Nm (hg j hj).1
   · unfold maxLen at hcm
     rw [List.length_map,List.length_range]
     omega
   · rw [List.length_map,List.length_range]
     obtain⟨b,o,s⟩:=a
     simp only at hspot
     subst hspot
     rfl
   · have hj':=hj
     unfold fl at hj
     rw [y5 qU 20 (by decide) _ (fun _ _=>rfl)]at hj
     have hlt:j/20<len:=by
      rw [List.getElem?_map]at hj
      by_cases h:j/20<len
      · exact h
      · rw [List.getElem?_eq_none (by rw [List.length_range];omega)]at hj
        cases hj
     rw [List.getElem?_map,List.getElem?_range hlt]at hj
     have hj2:(qU (K1 (g (j/20))))[j%20]? = some c:=hj
     have hr:j%20<20:=Nat.mod_lt _ (by decide)
     rw [←G6,rI,Nat.zero_add]at hj2
     obtain⟨h1,h2⟩:=hg (j/20) hlt
     have h3:=h2 (j%20) hr
     rw [show j/20*20+j%20=j by omega]at h3
     rw [h3]
     cases hk:Bh[j%20]? with
     | none=>rw [hk]at hj2;cases hj2
     | some l=>
       rw [hk]at hj2
       cases hj2
       have:=h1 (j%20) l hk
       rw [Nat.zero_add]at this
       rw [d7.den this]
theorem tW {t:TypeId} {ks:List d7}(hl:fC Tryz.prog t ks) {fuel:Nat} {cs:List Value} {x:Option (DataW H × List MemPlace)} {y:DataW H × List MemPlace}(h:DataW.trod enc Tryz.prog w base spare held fuel t cs=x) (hx:x=some y):∃ g,pT ks g 0∧∀ β : Env,cs=(jd ks g 0).map (·.den β):=by
 obtain⟨h1,h2⟩:=hl.2 H enc w base spare held fuel cs y (h.trans hx)
 exact⟨_,(vS h1 h2 Env.zero).2,fun β=>(vS h1 h2 β).1⟩
set_option maxRecDepth 100000 in
theorem Io {v:Value} {b0:Nat} {r:Reach}(hval:Value.okWide Tryz.prog w r b0 31 v) {fuel:Nat} {x:DataW H × List MemPlace}(hf:DataW.trod enc Tryz.prog w base spare held fuel 31 v.cells.toList=some x) :
 ∃ (h:Hd) (p:Ph) (f:Int) (l:List Sm) (vm:Value),sa h∧nK p∧(0≤f∧f≤255)∧(∀ j,j<l.length→jy (l.getD j default))∧l.length≤9223372036854775807∧qf w vm (fl qU l) l.length ∧
   ∀(β : Env) (c:XC),c.den β = vm→v = .agg ((gl h p f c).map (·.den β)).toArray:=by
 unfold Value.okWide at hval
 rw [Tryz.underlying31]at hval
 obtain⟨cs,rfl,hsz,ts,hts,_,hcell⟩:=hval
 have hts2:(Tryz.prog.cellTypes Tryz.prog.depth 31).map (fun ts=>(ts.length,ts[136]?))=some (137,some 29):=by kernel_rfl
 rw [hts]at hts2
 simp only [Option.map_some,Option.some.injEq,Prod.mk.injEq]at hts2
 obtain⟨hl137,h136⟩:=hts2
 obtain⟨xs,n,_,_,hlen,hxl,hx⟩:=DataW.trod_struct Tryz.underlying31 hf
 have hC:Tryz.prog.cellsOf 31=137:=by kernel_rfl
 have hcl:cs.toList.length=137:=by
  have:cs.size=Tryz.prog.cellsOf 31:=hsz
  rw [hC]at this
  simpa using this
 have hx4:xs.length=4:=hxl
 have hget:∀ i,i<4→∃ y,xs[i]? = some y:=fun i hi=>⟨_,List.getElem?_eq_getElem (by omega)⟩
 obtain⟨y0,e0⟩:=hget 0 (by decide)
 obtain⟨y1,e1⟩:=hget 1 (by decide)
 obtain⟨y2,e2⟩:=hget 2 (by decide)
 obtain⟨y3,e3⟩:=hget 3 (by decide)
 have x0:=hx 0 _ rfl
 have x1:=hx 1 _ rfl
 have x2:=hx 2 _ rfl
 have x3:=hx 3 _ rfl
 obtain⟨g0,ok0,d0⟩:=tW LL x0 e0
 obtain⟨g1,ok1,d1⟩:=tW LM x1 e1
 obtain⟨g2,ok2,d2⟩:=tW zk x2 e2
 obtain⟨vm,hvm⟩:∃ vm,cs.toList[136]? = some vm:=⟨_,List.getElem?_eq_getElem (by omega)⟩
 have hlast:cs.toList.drop 136 = [vm]:=by
  have h136:136<cs.toList.length:=by omega
  rw [List.getElem?_eq_getElem h136]at hvm
  rw [List.drop_eq_getElem_cons h136,Option.some.inj hvm,List.drop_of_length_le (by omega)]
 have hcell3:Cell.okWide Tryz.prog w r b0 29 vm:=by
  obtain⟨u,hu,hok⟩:=hcell 136 vm (by rw [←Array.getElem?_toList];exact hvm)
  rw [hl137,show 136%137=136 from rfl,h136]at hu
  cases hu
  exact hok
 have x3':DataW.trod enc Tryz.prog w base spare held n 29 [vm]=some y3:=by
  rw [←e3,←x3]
  show _=DataW.trod enc Tryz.prog w base spare held n 29 ((cs.toList.drop 136).take (Tryz.prog.cellsOf 29))
  rw [hlast,show Tryz.prog.cellsOf 29=1 by kernel_rfl]
  rfl
 obtain⟨l,hl1,hl2,hl3⟩:=Nn Tryz.underlying29 hcell3 x3'
 refine⟨GQ g0,Hx g1,lint (g2 0),l,vm,Mw ok0,MT ok1,bounds_u8 (ok_int ok2 (j:=0) rfl),hl1,hl2,hl3,fun β c hc=>?_⟩
 have f0:cs.toList.take 131=(gO (GQ g0)).map (·.den β):=by
  rw [←G4,←d0 β]
  show _=(cs.toList.drop 0).take (Tryz.prog.cellsOf 26)
  rw [LL.1];rfl
 have f1:(cs.toList.drop 131).take 4=(iJ (Hx g1)).map (·.den β):=by
  rw [←G5,←d1 β]
  show _=(cs.toList.drop 131).take (Tryz.prog.cellsOf 28)
  rw [LM.1];rfl
 have f2:(cs.toList.drop 135).take 1 = [(XC.int .u8 (lint (g2 0))).den β]:=by
  have:=d2 β
  have e:(cs.toList.drop 135).take (Tryz.prog.cellsOf 5) = [(XC.int .u8 (lint (g2 0))).den β]:=this
  rw [zk.1]at e
  exact e
 have h1:cs.toList=cs.toList.take 131++((cs.toList.drop 131).take 4++((cs.toList.drop 135).take 1++cs.toList.drop 136)):=by
  have a1:=(List.take_append_drop 131 cs.toList).symm
  have a2:=(List.take_append_drop 4 (cs.toList.drop 131)).symm
  have a3:=(List.take_append_drop 1 (cs.toList.drop 135)).symm
  rw [List.drop_drop]at a2 a3
  rw [←a3,←a2,←a1]
 have h2:cs.toList=(gl (GQ g0) (Hx g1) (lint (g2 0)) c).map (·.den β):=by
  rw [h1,f0,f1,f2,hlast]
  unfold gl
  rw [List.map_append,List.map_append,←hc]
  rfl
 rw [←h2]
end
end Go.Proofs.YtagpkhindehcbaaGreat
namespace Go.Proofs.YtagpkhindehcbaaGreat.partBack
open Go.ChangeShapes Go.WideShapes Go.ChangeAt Go.RowKit Go.Xm
theorem own:ownKnob Tryz.prog.godebug=none:=by kernel_rfl
theorem laidOut:laidOutB Tryz.prog=true:=by kernel_rfl
theorem walk [az] {W:World} {v:Value} {h:Hd} {p:Ph} {f:Int} {l:List Sm} {vm:Value}(hh:sa h) (hp:nK p) (hf:0≤f∧f≤255) (hl:∀ j,j<l.length→jy (l.getD j default)) (hn:l.length≤9223372036854775807) (hm:qf W vm (fl qU l) l.length) (hv:∀(β : Env) (c:XC),c.den β = vm→v = .agg ((gl h p f c).map (·.den β)).toArray) :
 Calls Tryz.prog 6 #[v] W fun e w'=>e = .returned (.bool true)∧Below W.heap.size W w':=by
 obtain⟨c0,o0,b0,lo0,sz0,a1,a2,a3,a4,a5,a6,a7⟩:=MN (xr (enc:=qU) l) J2 0 hm
 have hc:=xE hh hp hf hl (sN.in a3 a4) a2 hn
 let β : Env:=⟨fun _=>b0,fun _=>lo0,fun _=>sz0⟩
 have r0:aQ β 1 (.one c0) vm:=a7 β 1 (by omega) rfl rfl
 refine Gn hc (β := β) (Nat.le_of_ble_eq_true rfl) (fun i o ho=>?_) (fun o ho=>?_) (vs:=[v]) ?_
 · match i,ho with
   | 0,ho=>cases ho;exact a6 _ _
   | i+1,ho=>simp at ho
 · simp only [List.mem_cons,List.not_mem_nil,or_false]at ho
   rcases ho with rfl
   exact a5
 · exact .cons ⟨zU h p f r0.1,hv β c0 r0.2.symm⟩ .nil
def PK:Value := .agg (#[.int .i64 0,.int .i64 0,.bool false]++Array.replicate 128 (.int .u8 0) ++ #[.int .i64 0,.bool false,.bool false,.int .i64 0,.int .u8 0,.slice none 0 0])
set_option maxRecDepth 100000 in
theorem lifted (os:Os) (started:os.Started) (H:Type) (enc:TypeId × Value→H) :
 ReturnsInHanded {} Tryz.checked os 6 .any (Rows.partBackSpec.pre6 enc Tryz.prog Tryz.f6 Rows.partBackRow.domain false) (Rows.partBackSpec.post enc Tryz.prog Tryz.f6 false true false false):=by
 letI:az:=⟨fun _ => .u8,fun _=>0⟩
 refine returnsInHanded_of_change (C:=Tryz.checked) own started (by kernel_rfl) Tryz.func6
  (ChangeSpec.witness6 (enc:=enc) (C:=Tryz.checked) false ⟨#[],#[PK],[]⟩ 8 (by kernel_rfl) (by kernel_rfl) (by kernel_rfl) (by kernel_rfl)) ?_
 intro W base args ds gs before hval0 hW hcnd _
 have hval:∀(j:Nat) t v,Tryz.f6.params[j]? = some t→args[j]? = some v→Value.okWide Tryz.prog W .any base t v:=hval0
 have hW':=hW
 obtain⟨p,q,hA0,hV,rfl,hfz,hnd⟩:=hW
 have hA:DataW.TrodAll enc Tryz.prog W 0 (fun _=>true) true Tryz.f6.params.toList args.toList ds p:=hA0
 rw [Tryz.params6]at hA hval
 obtain⟨v0,vs0,d0,ds0,p0,q0,hargs,rfl,rfl,h0,r0⟩:=trodAll_cons hA
 obtain⟨rfl,rfl,rfl⟩:=trodAll_nil r0
 obtain rfl:args = #[v0]:=by cases args;simp_all
 obtain⟨rfl,rfl⟩:=trodVars_none hV
 have k0:=h0
 have lt0:∀ x∈p0,x.block<W.heap.size:=by obtain⟨m,hm⟩:=k0;exact DataW.trod_lt m _ _ _ hm
 obtain⟨m0,t0'⟩:=h0
 obtain⟨h,p',f,l,vm,a1,a2,a3,a4,a5,a6,a7⟩:=Io (hval 0 _ v0 rfl rfl) t0'
 refine(walk a1 a2 a3 a4 a5 a6 a7).mono fun e W' ⟨he,bel⟩=>?_
 subst he
 exact⟨_,rfl,_,_,_,[],_,[],hW',trodAll_mk1 (shut_bool Tryz.underlying4 _),(trodAll_cons_mk (Below.trod laidOut (by kernel_rfl) (of_decide_eq_true (by kernel_rfl)) k0 bel lt0) trodAll_mk0),rfl,bel.frame _,fun h=>by cases h⟩
theorem PD:Rows.partBackRow.holds Tryz.pinned (OpenSpec.ofChange Rows.partBackSpec):=
 OpenClaim.holds_of_wide 6 Tryz.f6 rfl rfl rfl rfl rfl rfl rfl ⟨rfl,rfl,rfl,rfl,rfl⟩ rfl rfl rfl rfl rfl (by kernel_rfl) Tryz.func6 (by kernel_rfl)
  (of_decide_eq_true (by kernel_rfl)) (by unfold Func.isWrapper;first|(rw [if_pos (by decide +kernel)];kernel_rfl)|(rw [if_neg (by decide +kernel)];exact⟨rfl,rfl⟩))
  (fun os started H enc _=>lifted os started H enc)
theorem proved:Rows.PartBackSaid:=PD
end Go.Proofs.YtagpkhindehcbaaGreat.partBack
