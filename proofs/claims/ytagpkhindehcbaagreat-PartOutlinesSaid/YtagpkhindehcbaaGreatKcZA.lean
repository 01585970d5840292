/-
  A part of the proof: PartMain, EqA.
-/
import Derived.Test.YtagpkhindehcbaaGreatKcF
import Derived.Test.YtagpkhindehcbaaGreatKcZ
set_option maxRecDepth 10000
set_option maxHeartbeats 8000000
set_option linter.unusedVariables false
set_option linter.unusedSectionVars false
set_option linter.unusedSimpArgs false
namespace Go.Proofs.YtagpkhindehcbaaGreat
open Go.Xm
variable [az]
theorem JD {l:List Mb} {first:Int} {x0:PS}:∀ k e,fk l first x0 k = .inl e→e≠0:=by
 intro k
 induction k with
 | zero=>intro e h;cases h
 | succ k ih=>
   intro e h
   rw [fk]at h
   split at h
   · rename_i e' he
     cases h
     exact ih _ he
   · unfold lV at h
     split at h
     · rename_i hc
       cases h
       exact hc
     · split at h
       · cases h;decide
       · cases h
theorem JC {h:Hd} {p:Ph} {l:List Mb} {first e:Int}(hp:w7 h p l first = .inl e):e≠0:=by
 unfold w7 at hp
 split at hp
 · rename_i e' he
   cases hp
   exact JD _ _ he
 · split at hp
   · cases hp;decide
   · cases hp
structure K2 (h:Hd) (p:Ph) (l:List Mb) (ft:Int) (a b:List Int):Prop where
 na:a.length≠0
 nb:b.length≠0
 out:∀ n,1≤n→n≤l.length→∃ q B t y,wq h p a q B ft n∧n8 B ft n ⟨jJ h p,(0,false),[]⟩=t∧fk l ft (lW h p) n = .inr y∧z7 l ft (lW h p) n y t∧FB B t.r=if n<l.length then 13 else 0
theorem FG {l:List Int}(hl:eI l) (h:l.length≠0):(ie l l.length).1.length≠0:=fun e=>by
 have h1:=yn hl
 rw [List.length_eq_zero_iff.1 e]at h1
 have h2:some ([]:List Int)=some l:=h1
 cases h2
 exact h rfl
theorem tb:∀(l:List Int) (z:Int),(∀ b∈l,0≤b∧b<256)→∀ b∈pz z l,0≤b∧b<256
 | [],z,_=>fun b hb=>by cases hb
 | x :: t,z,h=>fun b hb=>by
   have hx:=h x (List.mem_cons_self ..)
   have ht:∀ b∈t,0≤b∧b<256:=fun b hb=>h b (List.mem_cons_of_mem _ hb)
   rw [pz]at hb
   split at hb
   · rcases List.mem_cons.1 hb with rfl|hb
     · omega
     · rcases List.mem_cons.1 hb with rfl|hb
       · exact hx
       · exact tb t _ ht b hb
   · rcases List.mem_cons.1 hb with rfl|hb
     · exact hx
     · exact tb t _ ht b hb
theorem FF (l:List Int) (hl:eI l):eI (ie l l.length).1:=fun i=>by
 rw [yl]
 refine jF (p:=fun z=>0≤z∧z<256) (tb l 0 fun b hb=>?_) (by decide) i
 obtain⟨j,hj,rfl⟩:=List.mem_iff_getElem.1 hb
 have:=hl j
 rw [List.getD_eq_getElem?_getD,List.getElem?_eq_getElem hj]at this
 exact this
theorem IJ {h:Hd} {p:Ph} {l:List Mb} {first:Int}(hT:fZ h p l first) {a b:List Int}(hp:w7 h p l first = .inr (a,b)):K2 h p l first a b:=by
 unfold w7 at hp
 split at hp
 · cases hp
 · rename_i x hx
   split at hp
   · cases hp
   · rename_i hl
     cases hp
     have hi:=tR hT l.length (Nat.le_refl _) x hx
     have h16:=hT.few
     have hB:=hi.len
     have hw1:(wr (x.B++[true])).length≠0:=by rw [fS,List.length_append,List.length_cons,List.length_nil];omega
     have hw2:(wr (x.w++[true])).length≠0:=by rw [fS,List.length_append,List.length_cons,List.length_nil];omega
     refine⟨FG (iY _) hw1,FG (iY _) hw2,fun n hn1 hn=>?_⟩
     obtain⟨t,y,h1,h2,h3,h4⟩:=Eg hT hx hn
     refine⟨wr (x.B++[true]),x.B,t,y,⟨hT.hd,hT.ph,FF _ (iY _),by omega,yn (iY _),JV _,by rw [fS,List.length_append];simp;omega,II _ (by omega),hT.pos,hn1,by have:=hT.all;omega⟩,h1,h2,h3,h4⟩
theorem AO {h:Hd} {p:Ph}(hp:o5 p) {f:Int}(hf:0≤f∧f≤255) {l:List Sm}(hl:∀ j,j<l.length→ka (l.getD j default)):fZ (four h) (pD p) (jo h p f l) (e_ h f)∧(jo h p f l).length≤9:=by
 obtain⟨ho,c1,c2,c3,c4⟩:=B5 h
 have hcr:=kh ho.dims
 have hpo:=BZ hp
 have hF:0≤e_ h f∧e_ h f<(four h).cols*(four h).rows:=by
  unfold e_
  exact⟨Int.emod_nonneg _ (by omega),Int.emod_lt_of_pos _ (by omega)⟩
 have hm:=Gq hl (pD p).inter hpo.qp (room:=(four h).cols*(four h).rows-e_ h f) (by omega)
 obtain⟨m1,m2,m3,m4⟩:=hm
 obtain⟨L,hL⟩:∃ L,jo h p f l=L:=⟨_,rfl⟩
 have hL2:nc l (pD p).inter (pD p).qp ((four h).cols*(four h).rows-e_ h f)=L:=hL
 rw [hL2]at m1 m2 m3 m4
 rw [hL]
 refine⟨⟨ho,hpo,fun m hmm=>?_,hF.1,m2,by omega,by omega⟩,m3⟩
 obtain⟨j,hj,rfl⟩:=List.mem_iff_getElem.1 hmm
 have:=m1.mok j hj
 rw [List.getD_eq_getElem?_getD,List.getElem?_eq_getElem hj,Option.getD_some]at this
 exact this
end Go.Proofs.YtagpkhindehcbaaGreat
namespace Go.Xm
variable [az]
variable {P:Program} {ops:Array Oper} {nt nI:Nat} {al:bn} {hs:ak} {o:Oper} {l:List Oper} {L:List aI} {K:List Ab→bn→ak→Prop} {d:Nat}
theorem Ie {t:TypeId} {xs ys:List XC}(h:P.eqGuardType P.depth t=false):rC P t (.agg xs) (.agg ys)=cB P 40 t (.agg xs) (.agg ys):=by
 show(if P.eqGuardType P.depth t then none else _)=_
 rw [h];rfl
theorem OU {t t':TypeId} {a b:Operand} {xs ys:List XC} {r:Bool}(hr:rC P t (.agg xs) (.agg ys)=some r) (hk:SK P ops nt L l ((d,.one (.bool (!r)))::al) hs fun bs=>K (quiet::bs)) (ho:o.op = .binOp .neq t a b t':=by exact rfl) (hw:aw ops (rg al) o=some true:=by exact rfl) (hd:o.dst=some d:=by exact rfl) (hlt:Nat.blt d nt=true:=by exact rfl) (ha:ai (rg al) a = .agg xs:=by exact rfl) (hb:ai (rg al) b = .agg ys:=by exact rfl):SK P ops nt L (o::l) al hs K:=
 SK.lift hd hlt (fun _=>aJ.pure hw (by rw [ho];simp only [bj,ha,hb,rz,hr,Option.map_some])) hk
theorem NK {e:TypeId} {n:Nat} {eq:TypeId→X1→X1→Option Bool} {xs ys:List XC} {R:Nat→Prop}:∀ k i,(∀ j,i≤j→j<i+k→∃ a b r,i4 P e xs (j*n)=some a∧i4 P e ys (j*n)=some b∧eq e a b=some r∧(r=true↔R j))→∃ r,iZ P eq e n xs ys i k=some r∧(r=true↔∀ j,i≤j→j<i+k→R j)
 | 0,i,_=>⟨true,rfl,fun _ j h1 h2=>absurd h2 (by omega),fun _=>rfl⟩
 | k + 1,i,h=>by
   obtain⟨a,b,r,h1,h2,h3,h4⟩:=h i (Nat.le_refl _) (by omega)
   rw [iZ,h1,h2]
   dsimp only
   rw [h3]
   cases r with
   | true=>
     obtain⟨r2,g1,g2⟩:=NK k (i+1) (fun j h5 h6=>h j (by omega) (by omega))
     refine⟨r2,g1,fun hr j h5 h6=>?_,fun hr=>g2.2 fun j h5 h6=>hr j (by omega) (by omega)⟩
     by_cases hji:j=i
     · subst hji;exact h4.1 rfl
     · exact g2.1 hr j (by omega) (by omega)
   | false=>exact⟨false,rfl,fun hr=>(by cases hr),fun hr=>absurd (h4.2 (hr i (Nat.le_refl _) (by omega))) (by decide)⟩
theorem wa {e:TypeId} {u:TypeDesc}(hu:P.underlying e=some u) (hn:i3 P e=some false) {cs:List XC} {i:Nat} {c:XC}(hc:cs[i]? = some c):i4 P e cs i=some (.one c):=by
 unfold i4
 rw [hn,hc]
end Go.Xm
namespace Go.Proofs.YtagpkhindehcbaaGreat
open Go.Xm
variable [az]
theorem Lj {v w:Nat→Int × Int}(hv:∀ k,bu (v k)) (hw:∀ k,bu (w k)):∃ r,rC Tryz.prog 49 (.agg (vt v)) (.agg (vt w))=some r∧(r=true↔∀ k,k<4→w k=v k):=by
 have hun:Tryz.prog.underlying 47=some (.complex .f64):=by kernel_rfl
 have hn:i3 Tryz.prog 47=some false:=by unfold i3;rw [hun]
 have hget:∀(v:Nat→Int × Int) (j:Nat),j<4→(vt v)[j*1]? = some (cn (v j)):=fun v j hj=>by
  match j,hj with
  | 0,_=>rfl
  | 1,_=>rfl
  | 2,_=>rfl
  | 3,_=>rfl
 obtain⟨r,h1,h2⟩:=NK (P:=Tryz.prog) (e:=47) (n:=1) (eq:=cB Tryz.prog 39) (xs:=vt v) (ys:=vt w) (R:=fun j=>w j=v j) 4 0 (fun j _ hj=>by
  refine⟨_,_,decide ((v j).1=(w j).1) && decide ((v j).2=(w j).2),wa hun hn (hget v j (by omega)),wa hun hn (hget w j (by omega)),?_,?_⟩
  · rw [cB,hun]
    have a1:=rO (hv j).1 (hw j).1
    have a2:=rO (hv j).2 (hw j).2
    simp only [cn,uW,if_true,Op.floatEq,a1,a2]
  · rw [Bool.and_eq_true,decide_eq_true_iff,decide_eq_true_iff]
    exact⟨fun h=>Prod.ext h.1.symm h.2.symm,fun h=>by rw [h];exact⟨rfl,rfl⟩⟩)
 refine⟨r,?_,h2.trans ⟨fun h k hk=>h k (Nat.zero_le _) (by omega),fun h k _ hk=>h k (by omega)⟩⟩
 rw [Ie (by kernel_rfl),cB,show Tryz.prog.underlying 49=some (.array 4 47)from Tryz.underlying49]
 dsimp only
 rw [show cy Tryz.prog 47=some 1 by kernel_rfl]
 exact h1
end Go.Proofs.YtagpkhindehcbaaGreat
