/-
  'Rows.PartOutlinesSaid': for all its arguments the law returns true, and each argument reads behind the call as it read before.
-/
import Derived.Test.YtagpkhindehcbaaGreatKcH
import Derived.Test.YtagpkhindehcbaaGreatKcZ
import Derived.Test.YtagpkhindehcbaaGreatKcZB
import Derived.OpenShut
import Derived.Test.YtagpkhindehcbaaGreatRows
set_option maxRecDepth 10000
set_option maxHeartbeats 8000000
set_option linter.unusedVariables false
set_option linter.unusedSectionVars false
set_option linter.unusedSimpArgs false
namespace Go.Xm
inductive dY where
 | int (k:IntKind)
 | bool
def dY.has:dY→Value→Prop
 | .int k,v=>∃ z,v = .int k z∧(Lit.int k z).wf=true
 | .bool,v=>∃ b,v = .bool b
def lint:Value→Int
 | .int _ z=>z
 | _=>0
def tt:Value→Bool
 | .bool b=>b
 | _=>false
def dY.cell (l:dY) (v:Value):XC:=match l with
 | .int k => .int k (lint v)
 | .bool => .bool (tt v)
theorem dY.den [az] {l:dY} {v:Value}(h:l.has v) (β : Env):(l.cell v).den β = v:=by
 cases l with
 | int k=>obtain⟨z,rfl,_⟩:=h;rfl
 | bool=>obtain⟨b,rfl⟩:=h;rfl
def fz (P:Program) (t:TypeId) (ks:List dY):Prop:=
 P.cellsOf t=ks.length∧∀(H:Type) (enc:TypeId × Value→H) (w:World) (base:Nat) (spare:Nat→Bool) (held:Bool) (fuel:Nat) (cs:List Value) (x:DataW H × List MemPlace),
  DataW.trod enc P w base spare held fuel t cs=some x→cs.length=ks.length∧∀(j:Nat) (l:dY),ks[j]? = some l→∃ v,cs[j]? = some v∧l.has v
variable {P:Program} {t:TypeId}
theorem fz.int {k:IntKind}(ht:P.underlying t=some (.int k)) (hc:P.cellsOf t=1):fz P t [.int k]:=by
 refine⟨hc,fun H enc w base spare held fuel cs x h=>?_⟩
 obtain⟨n,rfl,_,hw⟩:=DataW.trod_int ht h
 refine⟨rfl,fun j l hj=>?_⟩
 match j,hj with
 | 0,hj=>cases hj;exact⟨_,rfl,n,rfl,hw⟩
 | j+1,hj=>simp at hj
theorem fz.bool (ht:P.underlying t=some .bool) (hc:P.cellsOf t=1):fz P t [.bool]:=by
 refine⟨hc,fun H enc w base spare held fuel cs x h=>?_⟩
 obtain⟨b,rfl,_⟩:=DataW.trod_bool ht h
 refine⟨rfl,fun j l hj=>?_⟩
 match j,hj with
 | 0,hj=>cases hj;exact⟨_,rfl,b,rfl⟩
 | j+1,hj=>simp at hj
def i7 (ks:List dY):Nat→List dY
 | 0=>[]
 | n+1=>ks++i7 ks n
theorem lZ (ks:List dY):∀ n,(i7 ks n).length=n*ks.length
 | 0=>by simp [i7]
 | n+1=>by rw [i7,List.length_append,lZ ks n,Nat.add_mul,Nat.one_mul,Nat.add_comm]
theorem za {ks:List dY} {l:dY}:∀(n j:Nat),(i7 ks n)[j]? = some l→∃ i r,i<n∧j=i*ks.length+r∧ks[r]? = some l
 | 0,j,h=>by simp [i7]at h
 | n + 1,j,h=>by
   rw [i7]at h
   by_cases hj:j<ks.length
   · rw [List.getElem?_append_left hj]at h
     exact⟨0,j,Nat.succ_pos _,by simp,h⟩
   · rw [List.getElem?_append_right (by omega)]at h
     obtain⟨i,r,hi,hr,hl⟩:=za n (j-ks.length) h
     exact⟨i+1,r,by omega,by rw [Nat.add_mul,Nat.one_mul];omega,hl⟩
theorem fz.array {n:Nat} {e:TypeId} {ks:List dY}(ht:P.underlying t=some (.array n e)) (he:fz P e ks) (hc:P.cellsOf t=n*ks.length):fz P t (i7 ks n):=by
 refine⟨by rw [hc,lZ],fun H enc w base spare held fuel cs x h=>?_⟩
 obtain⟨xs,m,_,_,hlen,hxl,hx⟩:=DataW.trod_array ht h
 refine⟨by rw [hlen,hc,lZ],fun j l hj=>?_⟩
 obtain⟨i,r,hi,rfl,hr⟩:=za n j hj
 have hxi:xs[i]? = some (xs[i]'(by omega)):=List.getElem?_eq_getElem (by omega)
 obtain⟨hl,hv⟩:=he.2 H enc w base spare held m _ _ ((hx i hi).trans hxi)
 obtain⟨v,hv1,hv2⟩:=hv r l hr
 refine⟨v,?_,hv2⟩
 have hrl:r<ks.length:=(List.getElem?_eq_some_iff.1 hr).1
 rw [he.1,List.getElem?_take_of_lt hrl,List.getElem?_drop]at hv1
 exact hv1
theorem Ds {kss:List (List dY)} {l:dY}:∀ {j:Nat},kss.flatten[j]? = some l→∃ i ks r,kss[i]? = some ks∧j=((kss.take i).flatten).length+r∧ks[r]? = some l:=by
 induction kss with
 | nil=>intro j h;simp at h
 | cons ks kss ih=>
   intro j h
   rw [List.flatten_cons]at h
   by_cases hj:j<ks.length
   · rw [List.getElem?_append_left hj]at h
     exact⟨0,ks,j,rfl,by simp,h⟩
   · rw [List.getElem?_append_right (by omega)]at h
     obtain⟨i,ks',r,h1,h2,h3⟩:=ih h
     refine⟨i+1,ks',r,h1,?_,h3⟩
     rw [List.take_succ_cons,List.flatten_cons,List.length_append]
     omega
theorem fz.struct {fs:Array Field}(kss:List (List dY)) (ht:P.underlying t=some (.struct fs)) (hn:kss.length=fs.size) (hf:∀(i:Nat) (f:Field) (ks:List dY),fs[i]? = some f→kss[i]? = some ks→fz P f.type ks∧f.offset=((kss.take i).flatten).length) (hc:P.cellsOf t=kss.flatten.length):fz P t kss.flatten:=by
 refine⟨hc,fun H enc w base spare held fuel cs x h=>?_⟩
 obtain⟨xs,m,_,_,hlen,hxl,hx⟩:=DataW.trod_struct ht h
 refine⟨by rw [hlen,hc],fun j l hj=>?_⟩
 obtain⟨i,ks,r,h1,rfl,h3⟩:=Ds hj
 have hi:i<fs.size:=by
  have:=(List.getElem?_eq_some_iff.1 h1).1
  omega
 have hfi:fs[i]? = some fs[i]:=Array.getElem?_eq_getElem hi
 obtain⟨hl,ho⟩:=hf i _ ks hfi h1
 have hxi:xs[i]? = some (xs[i]'(by omega)):=List.getElem?_eq_getElem (by omega)
 obtain⟨_,hv⟩:=hl.2 H enc w base spare held m _ _ ((hx i _ hfi).trans hxi)
 obtain⟨v,hv1,hv2⟩:=hv r l h3
 refine⟨v,?_,hv2⟩
 have hrl:r<ks.length:=(List.getElem?_eq_some_iff.1 h3).1
 rw [hl.1,List.getElem?_take_of_lt hrl,List.getElem?_drop,ho]at hv1
 exact hv1
def ja:List dY→(Nat→Value)→Nat→List XC
 | [],_,_=>[]
 | l::ks,g,j=>l.cell (g j)::ja ks g (j+1)
theorem q8:∀(ks:List dY) (g:Nat→Value) (o j:Nat),(ja ks g o)[j]? = (ks[j]?).map fun l=>l.cell (g (o+j))
 | [],g,o,j=>by simp [ja]
 | l::ks,g,o,0=>rfl
 | l::ks,g,o,j+1=>by
   rw [ja,List.getElem?_cons_succ,q8 ks g (o+1) j,List.getElem?_cons_succ]
   rw [show o+1+j=o+(j+1) by omega]
theorem MJ (ks:List dY) (g:Nat→Value):∀ o,(ja ks g o).length=ks.length:=by
 induction ks with
 | nil=>intro o;rfl
 | cons l ks ih=>intro o;rw [ja,List.length_cons,ih,List.length_cons]
def pJ (ks:List dY) (g:Nat→Value) (o:Nat):Prop:=∀(j:Nat) (l:dY),ks[j]? = some l→l.has (g (o+j))
theorem vo [az] {ks:List dY} {cs:List Value}(hl:cs.length=ks.length) (h:∀(j:Nat) (l:dY),ks[j]? = some l→∃ v,cs[j]? = some v∧l.has v) (β : Env):cs=(ja ks (fun j=>cs.getD j .nilIface) 0).map (·.den β)∧pJ ks (fun j=>cs.getD j .nilIface) 0:=by
 have hv:∀ j l,ks[j]? = some l→l.has (cs.getD j .nilIface)∧cs[j]? = some (cs.getD j .nilIface):=fun j l hj=>by
  obtain⟨v,h1,h2⟩:=h j l hj
  rw [List.getD_eq_getElem?_getD,h1]
  exact⟨h2,rfl⟩
 refine⟨List.ext_getElem? fun j=>?_,fun j l hj=>by rw [Nat.zero_add];exact(hv j l hj).1⟩
 rw [List.getElem?_map,q8,Nat.zero_add]
 by_cases hj:j<ks.length
 · have hk:ks[j]? = some ks[j]:=List.getElem?_eq_getElem hj
   obtain⟨h1,h2⟩:=hv j _ hk
   rw [hk]
   show cs[j]? = some ((ks[j].cell (cs.getD j .nilIface)).den β)
   rw [dY.den h1,h2]
 · rw [List.getElem?_eq_none (by omega),List.getElem?_eq_none (by omega)]
   rfl
end Go.Xm
namespace Go.Proofs.YtagpkhindehcbaaGreat
open Go.ChangeShapes Go.WideShapes Go.ChangeAt Go.RowKit Go.Deep Go.Xm
def F7:List dY:=[[dY.bool],i7 [.int .u8] 64,i7 [.int .u8] 64].flatten
def F6:List dY:=[[dY.int .i64],[.int .i64],F7].flatten
def Lt:List dY:=[[dY.int .i64],[.bool],[.bool],[.int .i64]].flatten
def Nm:List dY:=[i7 [dY.int .i8] 4,i7 [.int .i8] 4,[.bool]].flatten
def AJ:List dY:=[[dY.int .u8],[.int .u8],Nm,[.bool],i7 [.int .u64] 6,[.int .u32],[.bool]].flatten
theorem yK:fz Tryz.prog 5 [.int .u8] := .int Tryz.underlying5 (by kernel_rfl)
theorem Np:fz Tryz.prog 73 [.int .i8] := .int Tryz.underlying73 (by kernel_rfl)
theorem Lw:fz Tryz.prog 77 [.int .u64] := .int Tryz.underlying77 (by kernel_rfl)
theorem Lv:fz Tryz.prog 79 [.int .u32] := .int Tryz.underlying79 (by kernel_rfl)
theorem wX:fz Tryz.prog 3 [.int .i64] := .int Tryz.underlying3 (by kernel_rfl)
theorem oB:fz Tryz.prog 4 [.bool] := .bool Tryz.underlying4 (by kernel_rfl)
theorem Gg:fz Tryz.prog 22 (i7 [.int .u8] 64) := .array Tryz.underlying22 yK (by kernel_rfl)
theorem KK:fz Tryz.prog 74 (i7 [.int .i8] 4) := .array Tryz.underlying74 Np (by kernel_rfl)
theorem No:fz Tryz.prog 78 (i7 [.int .u64] 6) := .array Tryz.underlying78 Lw (by kernel_rfl)
theorem Lu:fz Tryz.prog 24 F7:=by
 refine .struct _ Tryz.underlying24 rfl (fun i f ks hi hk=>?_) (by kernel_rfl)
 match i,hi,hk with
 | 0,hi,hk=>cases hi;cases hk;exact⟨oB,rfl⟩
 | 1,hi,hk=>cases hi;cases hk;exact⟨Gg,rfl⟩
 | 2,hi,hk=>cases hi;cases hk;exact⟨Gg,rfl⟩
 | i+3,hi,hk=>simp at hk
theorem KL:fz Tryz.prog 26 F6:=by
 refine .struct _ Tryz.underlying26 rfl (fun i f ks hi hk=>?_) (by kernel_rfl)
 match i,hi,hk with
 | 0,hi,hk=>cases hi;cases hk;exact⟨wX,rfl⟩
 | 1,hi,hk=>cases hi;cases hk;exact⟨wX,rfl⟩
 | 2,hi,hk=>cases hi;cases hk;exact⟨Lu,rfl⟩
 | i+3,hi,hk=>simp at hk
theorem KM:fz Tryz.prog 28 Lt:=by
 refine .struct _ Tryz.underlying28 rfl (fun i f ks hi hk=>?_) (by kernel_rfl)
 match i,hi,hk with
 | 0,hi,hk=>cases hi;cases hk;exact⟨wX,rfl⟩
 | 1,hi,hk=>cases hi;cases hk;exact⟨oB,rfl⟩
 | 2,hi,hk=>cases hi;cases hk;exact⟨oB,rfl⟩
 | 3,hi,hk=>cases hi;cases hk;exact⟨wX,rfl⟩
 | i+4,hi,hk=>simp at hk
theorem Nq:fz Tryz.prog 76 Nm:=by
 refine .struct _ Tryz.underlying76 rfl (fun i f ks hi hk=>?_) (by kernel_rfl)
 match i,hi,hk with
 | 0,hi,hk=>cases hi;cases hk;exact⟨KK,rfl⟩
 | 1,hi,hk=>cases hi;cases hk;exact⟨KK,rfl⟩
 | 2,hi,hk=>cases hi;cases hk;exact⟨oB,rfl⟩
 | i+3,hi,hk=>simp at hk
theorem KN:fz Tryz.prog 81 AJ:=by
 refine .struct _ Tryz.underlying81 rfl (fun i f ks hi hk=>?_) (by kernel_rfl)
 match i,hi,hk with
 | 0,hi,hk=>cases hi;cases hk;exact⟨yK,rfl⟩
 | 1,hi,hk=>cases hi;cases hk;exact⟨yK,rfl⟩
 | 2,hi,hk=>cases hi;cases hk;exact⟨Nq,rfl⟩
 | 3,hi,hk=>cases hi;cases hk;exact⟨oB,rfl⟩
 | 4,hi,hk=>cases hi;cases hk;exact⟨No,rfl⟩
 | 5,hi,hk=>cases hi;cases hk;exact⟨Lv,rfl⟩
 | 6,hi,hk=>cases hi;cases hk;exact⟨oB,rfl⟩
 | i+7,hi,hk=>simp at hk
theorem yG (a b:List dY) (g:Nat→Value):∀ o,ja (a++b) g o=ja a g o++ja b g (o+a.length):=by
 induction a with
 | nil=>intro o;rfl
 | cons l a ih=>
   intro o
   rw [List.cons_append,ja,ih,ja,List.cons_append,List.length_cons]
   rw [show o+1+a.length=o+(a.length+1) by omega]
theorem vp (k:IntKind) (g:Nat→Value):∀ n o,ja (i7 [.int k] n) g o=ti k n fun i=>lint (g (o+i)):=by
 intro n
 induction n with
 | zero=>intro o;rfl
 | succ n ih=>
   intro o
   rw [i7,yG,ih]
   unfold ti
   rw [List.range_succ_eq_map,List.map_cons,List.map_map]
   show _::_=_::_
   congr 1
   refine List.map_congr_left fun i _=>?_
   show XC.int k (lint (g (o+1+i)))=XC.int k (lint (g (o+(i+1))))
   rw [show o+1+i=o+(i+1) by omega]
def FX (g:Nat→Value):Hd:=⟨lint (g 0),lint (g 1),tt (g 2),fun i=>lint (g (3+i)),fun i=>lint (g (67+i))⟩
def GG (g:Nat→Value):Ph:=⟨lint (g 0),tt (g 1),tt (g 2),lint (g 3)⟩
def J7 (g:Nat→Value):Sm:=⟨lint (g 0),lint (g 1),⟨fun i=>lint (g (2+i)),fun i=>lint (g (6+i)),tt (g 10)⟩,tt (g 11),fun i=>lint (g (12+i)),lint (g 18),tt (g 19)⟩
theorem wV:F6 = [dY.int .i64,.int .i64,.bool]++(i7 [.int .u8] 64++i7 [.int .u8] 64):=by
 simp only [F6,F7,List.flatten_cons,List.flatten_nil,List.append_nil,List.cons_append,List.nil_append]
theorem F8 (g:Nat→Value):ja F6 g 0=iz (FX g):=by
 rw [wV]
 simp only [List.cons_append,List.nil_append,ja]
 rw [yG,vp,vp,lZ]
 rfl
theorem F9 (g:Nat→Value):ja Lt g 0=jh (GG g):=rfl
theorem F_ (g:Nat→Value):ja AJ g 0=qA (J7 g):=rfl
theorem Ga {k:IntKind} {v:Value}(h:(dY.int k).has v):(Lit.int k (lint v)).wf=true:=by
 obtain⟨z,rfl,hz⟩:=h
 exact hz
theorem tU (l:dY):∀ n,i7 [l] n=List.replicate n l
 | 0=>rfl
 | n+1=>by rw [i7,tU l n,List.replicate_succ];rfl
theorem Ct (l:dY) {n i:Nat}(h:i<n) (r:List dY):(i7 [l] n++r)[i]? = some l:=by
 rw [List.getElem?_append_left (by rw [tU,List.length_replicate];exact h),tU,List.getElem?_replicate,if_pos h]
theorem ok_int {ks:List dY} {g:Nat→Value}(h:pJ ks g 0) {j:Nat} {k:IntKind}(hj:ks[j]? = some (.int k)):(Lit.int k (lint (g j))).wf=true:=by
 have:=Ga (h j _ hj)
 rwa [Nat.zero_add]at this
theorem Ln {g:Nat→Value}(h:pJ F6 g 0):rK (FX g):=by
 refine⟨bounds_i64 (ok_int h rfl),bounds_i64 (ok_int h rfl),fun i h64=>⟨bounds_u8 (ok_int h ?_),bounds_u8 (ok_int h ?_)⟩⟩
 · rw [Nat.add_comm]
   rw [wV]
   show(i7 [dY.int .u8] 64++i7 [.int .u8] 64)[i]? = _
   exact Ct _ h64 _
 · rw [show 67+i=(64+i)+3 by omega]
   rw [wV]
   show(i7 [dY.int .u8] 64++i7 [.int .u8] 64)[64+i]? = _
   rw [List.getElem?_append_right (by rw [lZ];simp),lZ]
   simp only [List.length_cons,List.length_nil,Nat.zero_add,Nat.mul_one,Nat.add_sub_cancel_left]
   rw [←List.append_nil (i7 _ 64)]
   exact Ct _ h64 _
theorem LI {g:Nat→Value}(h:pJ Lt g 0):o5 (GG g):=⟨bounds_i64 (ok_int h rfl),bounds_i64 (ok_int h rfl)⟩
theorem Mc {g:Nat→Value}(h:pJ AJ g 0):ka (J7 g):=by
 have i8:∀ {j},AJ[j]? = some (.int .i8) → -128≤lint (g j)∧lint (g j)<128:=fun {j} hj=>by
  have:=bounds_i8 (ok_int h hj)
  omega
 have u64:∀ {j},AJ[j]? = some (.int .u64)→0≤lint (g j)∧lint (g j)<18446744073709551616:=fun {j} hj=>by
  have:=bounds_u64 (ok_int h hj)
  omega
 refine⟨bounds_u8 (ok_int h rfl),bounds_u8 (ok_int h rfl),⟨fun k hk=>?_,fun k hk=>?_⟩,fun k hk=>?_,?_⟩
 · match k,hk with
   | 0,_=>exact i8 rfl
   | 1,_=>exact i8 rfl
   | 2,_=>exact i8 rfl
   | 3,_=>exact i8 rfl
 · match k,hk with
   | 0,_=>exact i8 rfl
   | 1,_=>exact i8 rfl
   | 2,_=>exact i8 rfl
   | 3,_=>exact i8 rfl
 · match k,hk with
   | 0,_=>exact u64 rfl
   | 1,_=>exact u64 rfl
   | 2,_=>exact u64 rfl
   | 3,_=>exact u64 rfl
   | 4,_=>exact u64 rfl
   | 5,_=>exact u64 rfl
 · have:=bounds_u32 (ok_int h (j:=18) rfl)
   show 0≤lint (g 18)∧lint (g 18)<4294967296
   omega
variable [az]
section
variable {H:Type} {enc:TypeId × Value→H} {w:World} {base:Nat} {spare:Nat→Bool} {held:Bool}
set_option maxRecDepth 100000 in
theorem Md {v:Value} {b0:Nat} {r:Reach} {t:TypeId}(ht:Tryz.prog.underlying t=some (.slice 81)) (hcell:Cell.okWide Tryz.prog w r b0 t v) {fuel:Nat} {x:DataW H × List MemPlace}(hf:DataW.trod enc Tryz.prog w base spare held fuel t [v]=some x) :
 ∃ l:List Sm,(∀ j,j<l.length→ka (l.getD j default))∧l.length≤9223372036854775807∧p6 w v (fl qA l) l.length:=by
 rcases open_slice ht hf with⟨hcs,_⟩|⟨a,len,cap,m,n,D,Pl,hcs,_,hlc,hcm,hm,_,hall⟩
 · simp only [List.cons.injEq,and_true]at hcs
   exact⟨[],fun j hj=>absurd hj (Nat.not_lt_zero _),Nat.zero_le _,.inl ⟨hcs,rfl,rfl⟩⟩
 · simp only [List.cons.injEq,and_true]at hcs
   subst hcs
   have hspot:=t8 ht hcell
   have hlm:len≤m:=by rw [hm];split <;> omega
   have hC:Tryz.prog.cellsOf 81=20:=KN.1
   let g:Nat→Nat→Value:=fun i j=>(w.cell? ⟨a.block,a.off+(i*20+j),none⟩).getD .nilIface
   have hg:∀ i,i<len→pJ AJ (g i) 0∧∀ j,j<20→w.cell? ⟨a.block,a.off+(i*20+j),none⟩=some (g i j):=fun i hi=>by
    obtain⟨cs',hc,ht'⟩:=hall i (by omega)
    rw [hC]at hc
    obtain⟨_,hcl,hat⟩:=World.cells?_some hc
    have hat':∀ j,j<20→w.cell? ⟨a.block,a.off+(i*20+j),none⟩=cs'[j]?:=fun j hj=>by
     rw [←hat j hj,Go.Deep.add_add,u3 hspot]
    have hgj:∀ j,j<20→g i j=cs'.getD j .nilIface:=fun j hj=>by
     show(w.cell? _).getD _=_
     rw [hat' j hj,List.getD_eq_getElem?_getD]
    obtain⟨hl,hv⟩:=KN.2 H enc w base spare held n cs' _ ht'
    have hl20:cs'.length=20:=hl
    refine⟨fun j l hj=>?_,fun j hj=>?_⟩
    · have hj20:j<20:=(List.getElem?_eq_some_iff.1 hj).1
      obtain⟨v,h1,h2⟩:=hv j l hj
      rw [Nat.zero_add,hgj j hj20,List.getD_eq_getElem?_getD,h1]
      exact h2
    · rw [hat' j hj,hgj j hj,List.getD_eq_getElem?_getD,List.getElem?_eq_getElem (by omega)]
      rfl
   refine⟨(List.range len).map fun i=>J7 (g i),fun j hj=>?_,?_,.inr ⟨a.block,a.off,cap,by simpa using hlc,?_,fun j c hj β=>?_⟩⟩
   · rw [List.length_map,List.length_range]at hj
     rw [List.getD_eq_getElem?_getD,List.getElem?_map,List.getElem?_range hj]
     exact Mc (hg j hj).1
   · unfold maxLen at hcm
     rw [List.length_map,List.length_range]
     omega
   · rw [List.length_map,List.length_range]
     obtain⟨b,o,s⟩:=a
     simp only at hspot
     subst hspot
     rfl
   · have hj':=hj
     unfold fl at hj
     rw [yu qA 20 (by decide) _ (fun _ _=>rfl)]at hj
     have hlt:j/20<len:=by
      rw [List.getElem?_map]at hj
      by_cases h:j/20<len
      · exact h
      · rw [List.getElem?_eq_none (by rw [List.length_range];omega)]at hj
        cases hj
     rw [List.getElem?_map,List.getElem?_range hlt]at hj
     have hj2:(qA (J7 (g (j/20))))[j%20]? = some c:=hj
     have hr:j%20<20:=Nat.mod_lt _ (by decide)
     rw [←F_,q8,Nat.zero_add]at hj2
     obtain⟨h1,h2⟩:=hg (j/20) hlt
     have h3:=h2 (j%20) hr
     rw [show j/20*20+j%20=j by omega]at h3
     rw [h3]
     cases hk:AJ[j%20]? with
     | none=>rw [hk]at hj2;cases hj2
     | some l=>
       rw [hk]at hj2
       cases hj2
       have:=h1 (j%20) l hk
       rw [Nat.zero_add]at this
       rw [dY.den this]
theorem tu {t:TypeId} {ks:List dY}(hl:fz Tryz.prog t ks) {fuel:Nat} {cs:List Value} {x:Option (DataW H × List MemPlace)} {y:DataW H × List MemPlace}(h:DataW.trod enc Tryz.prog w base spare held fuel t cs=x) (hx:x=some y):∃ g,pJ ks g 0∧∀ β : Env,cs=(ja ks g 0).map (·.den β):=by
 obtain⟨h1,h2⟩:=hl.2 H enc w base spare held fuel cs y (h.trans hx)
 exact⟨_,(vo h1 h2 Env.zero).2,fun β=>(vo h1 h2 β).1⟩
set_option maxRecDepth 100000 in
theorem Ht {v:Value} {b0:Nat} {r:Reach}(hval:Value.okWide Tryz.prog w r b0 31 v) {fuel:Nat} {x:DataW H × List MemPlace}(hf:DataW.trod enc Tryz.prog w base spare held fuel 31 v.cells.toList=some x) :
 ∃ (h:Hd) (p:Ph) (f:Int) (l:List Sm) (vm:Value),rK h∧o5 p∧(0≤f∧f≤255)∧(∀ j,j<l.length→ka (l.getD j default))∧l.length≤9223372036854775807∧p6 w vm (fl qA l) l.length ∧
   ∀(β : Env) (c:XC),c.den β = vm→v = .agg ((gi h p f c).map (·.den β)).toArray:=by
 unfold Value.okWide at hval
 rw [Tryz.underlying31]at hval
 obtain⟨cs,rfl,hsz,ts,hts,_,hcell⟩:=hval
 have hts2:(Tryz.prog.cellTypes Tryz.prog.depth 31).map (fun ts=>(ts.length,ts[136]?))=some (137,some 29):=by kernel_rfl
 rw [hts]at hts2
 simp only [Option.map_some,Option.some.injEq,Prod.mk.injEq]at hts2
 obtain⟨hl137,h136⟩:=hts2
 obtain⟨xs,n,_,_,hlen,hxl,hx⟩:=DataW.trod_struct Tryz.underlying31 hf
 have hC:Tryz.prog.cellsOf 31=137:=by kernel_rfl
 have hcl:cs.toList.length=137:=by
  have:cs.size=Tryz.prog.cellsOf 31:=hsz
  rw [hC]at this
  simpa using this
 have hx4:xs.length=4:=hxl
 have hget:∀ i,i<4→∃ y,xs[i]? = some y:=fun i hi=>⟨_,List.getElem?_eq_getElem (by omega)⟩
 obtain⟨y0,e0⟩:=hget 0 (by decide)
 obtain⟨y1,e1⟩:=hget 1 (by decide)
 obtain⟨y2,e2⟩:=hget 2 (by decide)
 obtain⟨y3,e3⟩:=hget 3 (by decide)
 have x0:=hx 0 _ rfl
 have x1:=hx 1 _ rfl
 have x2:=hx 2 _ rfl
 have x3:=hx 3 _ rfl
 obtain⟨g0,ok0,d0⟩:=tu KL x0 e0
 obtain⟨g1,ok1,d1⟩:=tu KM x1 e1
 obtain⟨g2,ok2,d2⟩:=tu yK x2 e2
 obtain⟨vm,hvm⟩:∃ vm,cs.toList[136]? = some vm:=⟨_,List.getElem?_eq_getElem (by omega)⟩
 have hlast:cs.toList.drop 136 = [vm]:=by
  have h136:136<cs.toList.length:=by omega
  rw [List.getElem?_eq_getElem h136]at hvm
  rw [List.drop_eq_getElem_cons h136,Option.some.inj hvm,List.drop_of_length_le (by omega)]
 have hcell3:Cell.okWide Tryz.prog w r b0 29 vm:=by
  obtain⟨u,hu,hok⟩:=hcell 136 vm (by rw [←Array.getElem?_toList];exact hvm)
  rw [hl137,show 136%137=136 from rfl,h136]at hu
  cases hu
  exact hok
 have x3':DataW.trod enc Tryz.prog w base spare held n 29 [vm]=some y3:=by
  rw [←e3,←x3]
  show _=DataW.trod enc Tryz.prog w base spare held n 29 ((cs.toList.drop 136).take (Tryz.prog.cellsOf 29))
  rw [hlast,show Tryz.prog.cellsOf 29=1 by kernel_rfl]
  rfl
 obtain⟨l,hl1,hl2,hl3⟩:=Md Tryz.underlying29 hcell3 x3'
 refine⟨FX g0,GG g1,lint (g2 0),l,vm,Ln ok0,LI ok1,bounds_u8 (ok_int ok2 (j:=0) rfl),hl1,hl2,hl3,fun β c hc=>?_⟩
 have f0:cs.toList.take 131=(iz (FX g0)).map (·.den β):=by
  rw [←F8,←d0 β]
  show _=(cs.toList.drop 0).take (Tryz.prog.cellsOf 26)
  rw [KL.1];rfl
 have f1:(cs.toList.drop 131).take 4=(jh (GG g1)).map (·.den β):=by
  rw [←F9,←d1 β]
  show _=(cs.toList.drop 131).take (Tryz.prog.cellsOf 28)
  rw [KM.1];rfl
 have f2:(cs.toList.drop 135).take 1 = [(XC.int .u8 (lint (g2 0))).den β]:=by
  have:=d2 β
  have e:(cs.toList.drop 135).take (Tryz.prog.cellsOf 5) = [(XC.int .u8 (lint (g2 0))).den β]:=this
  rw [yK.1]at e
  exact e
 have h1:cs.toList=cs.toList.take 131++((cs.toList.drop 131).take 4++((cs.toList.drop 135).take 1++cs.toList.drop 136)):=by
  have a1:=(List.take_append_drop 131 cs.toList).symm
  have a2:=(List.take_append_drop 4 (cs.toList.drop 131)).symm
  have a3:=(List.take_append_drop 1 (cs.toList.drop 135)).symm
  rw [List.drop_drop]at a2 a3
  rw [←a3,←a2,←a1]
 have h2:cs.toList=(gi (FX g0) (GG g1) (lint (g2 0)) c).map (·.den β):=by
  rw [h1,f0,f1,f2,hlast]
  unfold gi
  rw [List.map_append,List.map_append,←hc]
  rfl
 rw [←h2]
end
end Go.Proofs.YtagpkhindehcbaaGreat
namespace Go.Proofs.YtagpkhindehcbaaGreat.partOutlines
open Go.ChangeShapes Go.WideShapes Go.ChangeAt Go.RowKit Go.Xm
theorem own:ownKnob Tryz.prog.godebug=none:=by kernel_rfl
theorem laidOut:laidOutB Tryz.prog=true:=by kernel_rfl
theorem walk [az] {W:World} {v:Value} {h:Hd} {p:Ph} {f:Int} {l:List Sm} {vm:Value}(hh:rK h) (hp:o5 p) (hf:0≤f∧f≤255) (hl:∀ j,j<l.length→ka (l.getD j default)) (hn:l.length≤9223372036854775807) (hm:p6 W vm (fl qA l) l.length) (hv:∀(β : Env) (c:XC),c.den β = vm→v = .agg ((gi h p f c).map (·.den β)).toArray) :
 Calls Tryz.prog 4 #[v] W fun e w'=>e = .returned (.bool true)∧Below W.heap.size W w':=by
 obtain⟨c0,o0,b0,lo0,sz0,a1,a2,a3,a4,a5,a6,a7⟩:=LB (wM (enc:=qA) l) Jb 0 hm
 have hc:=ra hh hp hf hl (wo.in a3 a4) a2 hn
 let β : Env:=⟨fun _=>b0,fun _=>lo0,fun _=>sz0⟩
 have r0:aS β 1 (.one c0) vm:=a7 β 1 (by omega) rfl rfl
 refine Ft hc (β := β) (Nat.le_of_ble_eq_true rfl) (fun i o ho=>?_) (fun o ho=>?_) (vs:=[v]) ?_
 · match i,ho with
   | 0,ho=>cases ho;exact a6 _ _
   | i+1,ho=>simp at ho
 · simp only [List.mem_cons,List.not_mem_nil,or_false]at ho
   rcases ho with rfl
   exact a5
 · exact .cons ⟨zi h p f r0.1,hv β c0 r0.2.symm⟩ .nil
def Oz:Value := .agg (#[.int .i64 0,.int .i64 0,.bool false]++Array.replicate 128 (.int .u8 0) ++ #[.int .i64 0,.bool false,.bool false,.int .i64 0,.int .u8 0,.slice none 0 0])
set_option maxRecDepth 100000 in
theorem lifted (os:Os) (started:os.Started) (H:Type) (enc:TypeId × Value→H) :
 ReturnsInHanded {} Tryz.checked os 4 .any (Rows.partOutlinesSpec.pre6 enc Tryz.prog Tryz.f4 Rows.partOutlinesRow.domain false) (Rows.partOutlinesSpec.post enc Tryz.prog Tryz.f4 false true false false):=by
 letI:az:=⟨fun _ => .u8,fun _=>0⟩
 refine returnsInHanded_of_change (C:=Tryz.checked) own started (by kernel_rfl) Tryz.func4
  (ChangeSpec.witness6 (enc:=enc) (C:=Tryz.checked) false ⟨#[],#[Oz],[]⟩ 8 (by kernel_rfl) (by kernel_rfl) (by kernel_rfl) (by kernel_rfl)) ?_
 intro W base args ds gs before hval0 hW hcnd _
 have hval:∀(j:Nat) t v,Tryz.f4.params[j]? = some t→args[j]? = some v→Value.okWide Tryz.prog W .any base t v:=hval0
 have hW':=hW
 obtain⟨p,q,hA0,hV,rfl,hfz,hnd⟩:=hW
 have hA:DataW.TrodAll enc Tryz.prog W 0 (fun _=>true) true Tryz.f4.params.toList args.toList ds p:=hA0
 rw [Tryz.params4]at hA hval
 obtain⟨v0,vs0,d0,ds0,p0,q0,hargs,rfl,rfl,h0,r0⟩:=trodAll_cons hA
 obtain⟨rfl,rfl,rfl⟩:=trodAll_nil r0
 obtain rfl:args = #[v0]:=by cases args;simp_all
 obtain⟨rfl,rfl⟩:=trodVars_none hV
 have k0:=h0
 have lt0:∀ x∈p0,x.block<W.heap.size:=by obtain⟨m,hm⟩:=k0;exact DataW.trod_lt m _ _ _ hm
 obtain⟨m0,t0'⟩:=h0
 obtain⟨h,p',f,l,vm,a1,a2,a3,a4,a5,a6,a7⟩:=Ht (hval 0 _ v0 rfl rfl) t0'
 refine(walk a1 a2 a3 a4 a5 a6 a7).mono fun e W' ⟨he,bel⟩=>?_
 subst he
 exact⟨_,rfl,_,_,_,[],_,[],hW',trodAll_mk1 (shut_bool Tryz.underlying4 _),(trodAll_cons_mk (Below.trod laidOut (by kernel_rfl) (of_decide_eq_true (by kernel_rfl)) k0 bel lt0) trodAll_mk0),rfl,bel.frame _,fun h=>by cases h⟩
theorem Oq:Rows.partOutlinesRow.holds Tryz.pinned (OpenSpec.ofChange Rows.partOutlinesSpec):=
 OpenClaim.holds_of_wide 4 Tryz.f4 rfl rfl rfl rfl rfl rfl rfl ⟨rfl,rfl,rfl,rfl,rfl⟩ rfl rfl rfl rfl rfl (by kernel_rfl) Tryz.func4 (by kernel_rfl)
  (of_decide_eq_true (by kernel_rfl)) (by unfold Func.isWrapper;first|(rw [if_pos (by decide +kernel)];kernel_rfl)|(rw [if_neg (by decide +kernel)];exact⟨rfl,rfl⟩))
  (fun os started H enc _=>lifted os started H enc)
theorem proved:Rows.PartOutlinesSaid:=Oq
end Go.Proofs.YtagpkhindehcbaaGreat.partOutlines
