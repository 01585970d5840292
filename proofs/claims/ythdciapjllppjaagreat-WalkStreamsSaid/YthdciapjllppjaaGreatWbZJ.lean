/-
  'Rows.WalkStreamsSaid': for all its arguments the law returns true, and each argument reads behind the call as it read before.
-/
import Derived.Test.YthdciapjllppjaaGreatWbF
import Derived.Test.YthdciapjllppjaaGreatWbZ
import Derived.Test.YthdciapjllppjaaGreatWbZI
import Derived.ChangeArms
import Derived.OpenShut
import Derived.Test.YthdciapjllppjaaGreatRows
set_option maxRecDepth 10000
set_option maxHeartbeats 8000000
set_option linter.unusedVariables false
set_option linter.unusedSectionVars false
set_option linter.unusedSimpArgs false
open Go.Proofs.Tryz (prog)
namespace Go.Xm
inductive dR where
 | int (k:IntKind)
 | bool
def dR.has:dR->Value->Prop
 | .int k,v=>∃z,v = .int k z/\(Lit.int k z).wf=true
 | .bool,v=>∃b,v = .bool b
def lint:Value->Int
 | .int _ z=>z
 | _=>0
def uC:Value->Bool
 | .bool b=>b
 | _=>false
def dR.cell(l:dR)(v:Value):XC:=match l with
 | .int k => .int k (lint v)
 | .bool => .bool (uC v)
theorem dR.den[aq]{l:dR}{v:Value}(h:l.has v)(β : Env):(l.cell v).den β = v:=by
 cases l with
 | int k=>obtain⟨z,rfl,_⟩:=h;rfl
 | bool=>obtain⟨b,rfl⟩:=h;rfl
def eY(P:Program)(t:TypeId)(ks:List dR):Prop:=
 P.cellsOf t=ks.length/\∀(H:Type) (enc:TypeId×Value->H) (w:World) (base:Nat) (spare:Nat->Bool) (held:Bool) (fuel:Nat) (cs:List Value) (x:DataW H×List MemPlace),
  DataW.trod enc P w base spare held fuel t cs=some x->cs.length=ks.length/\∀(j:Nat) (l:dR),ks[j]? = some l->∃v,cs[j]? = some v/\l.has v
variable {P:Program} {t:TypeId}
theorem eY.int{k:IntKind}(ht:P.underlying t=some (.int k))(hc:P.cellsOf t=1):eY P t [.int k]:=by
 refine⟨hc,fun H enc w base spare held fuel cs x h=>?_⟩;obtain⟨n,rfl,_,hw⟩:=DataW.trod_int ht h;refine⟨rfl,fun j l hj=>?_⟩
 match j,hj with
 | 0,hj=>cases hj;exact⟨_,rfl,n,rfl,hw⟩
 | j+1,hj=>simp at hj
theorem eY.bool(ht:P.underlying t=some .bool)(hc:P.cellsOf t=1):eY P t [.bool]:=by
 refine⟨hc,fun H enc w base spare held fuel cs x h=>?_⟩;obtain⟨b,rfl,_⟩:=DataW.trod_bool ht h;refine⟨rfl,fun j l hj=>?_⟩
 match j,hj with
 | 0,hj=>cases hj;exact⟨_,rfl,b,rfl⟩
 | j+1,hj=>simp at hj
def iR(ks:List dR):Nat->List dR
 | 0=>[]
 | n+1=>ks++iR ks n
theorem mc(ks:List dR):∀n,(iR ks n).length=n*ks.length
 | 0=>by simp[iR]
 | n+1=>by rw[iR,List.length_append,mc ks n,Nat.add_mul,Nat.one_mul,Nat.add_comm]
theorem AN{ks:List dR}{l:dR}:∀(n j:Nat),(iR ks n)[j]? = some l->∃i r,i<n/\j=i*ks.length+r/\ks[r]? = some l
 | 0,j,h=>by simp[iR]at h
 | n + 1,j,h=>by
   rw[iR]at h
   by_cases hj:j<ks.length
   ·rw[List.getElem?_append_left hj]at h;exact⟨0,j,Nat.succ_pos _,by simp,h⟩
   ·rw[List.getElem?_append_right (by omega)]at h;obtain⟨i,r,hi,hr,hl⟩:=AN n (j-ks.length) h;exact⟨i+1,r,by omega,by rw[Nat.add_mul,Nat.one_mul];omega,hl⟩
theorem eY.array{n:Nat}{e:TypeId}{ks:List dR}(ht:P.underlying t=some (.array n e))(he:eY P e ks)(hc:P.cellsOf t=n*ks.length):eY P t (iR ks n):=by
 refine⟨by rw[hc,mc],fun H enc w base spare held fuel cs x h=>?_⟩;obtain⟨xs,m,_,_,hlen,hxl,hx⟩:=DataW.trod_array ht h;refine⟨by rw[hlen,hc,mc],fun j l hj=>?_⟩;obtain⟨i,r,hi,rfl,hr⟩:=AN n j hj;have hxi:xs[i]? = some (xs[i]'(by omega)):=List.getElem?_eq_getElem (by omega);obtain⟨hl,hv⟩:=he.2 H enc w base spare held m _ _ ((hx i hi).trans hxi);obtain⟨v,hv1,hv2⟩:=hv r l hr;refine⟨v,?_,hv2⟩;have hrl:r<ks.length:=(List.getElem?_eq_some_iff.1 hr).1;rw[he.1,List.getElem?_take_of_lt hrl,List.getElem?_drop]at hv1;exact hv1
theorem Fq{kss:List (List dR)}{l:dR}:∀{j:Nat},kss.flatten[j]? = some l->∃i ks r,kss[i]? = some ks/\j=((kss.take i).flatten).length+r/\ks[r]? = some l:=by
 induction kss with
 | nil=>intro j h;simp at h
 | cons ks kss ih=>
   intro j h;rw[List.flatten_cons]at h
   by_cases hj:j<ks.length
   ·rw[List.getElem?_append_left hj]at h;exact⟨0,ks,j,rfl,by simp,h⟩
   ·rw[List.getElem?_append_right (by omega)]at h;obtain⟨i,ks',r,h1,h2,h3⟩:=ih h;refine⟨i+1,ks',r,h1,?_,h3⟩;rw[List.take_succ_cons,List.flatten_cons,List.length_append];omega
theorem eY.struct{fs:Array Field}(kss:List (List dR))(ht:P.underlying t=some (.struct fs))(hn:kss.length=fs.size)(hf:∀(i:Nat) (f:Field) (ks:List dR),fs[i]? = some f->kss[i]? = some ks->eY P f.type ks/\f.offset=((kss.take i).flatten).length)(hc:P.cellsOf t=kss.flatten.length):eY P t kss.flatten:=by
 refine⟨hc,fun H enc w base spare held fuel cs x h=>?_⟩;obtain⟨xs,m,_,_,hlen,hxl,hx⟩:=DataW.trod_struct ht h;refine⟨by rw[hlen,hc],fun j l hj=>?_⟩;obtain⟨i,ks,r,h1,rfl,h3⟩:=Fq hj
 have hi:i<fs.size:=by
  have:=(List.getElem?_eq_some_iff.1 h1).1;omega
 have hfi:fs[i]? = some fs[i]:=Array.getElem?_eq_getElem hi;obtain⟨hl,ho⟩:=hf i _ ks hfi h1;have hxi:xs[i]? = some (xs[i]'(by omega)):=List.getElem?_eq_getElem (by omega);obtain⟨_,hv⟩:=hl.2 H enc w base spare held m _ _ ((hx i _ hfi).trans hxi);obtain⟨v,hv1,hv2⟩:=hv r l h3;refine⟨v,?_,hv2⟩;have hrl:r<ks.length:=(List.getElem?_eq_some_iff.1 h3).1;rw[hl.1,List.getElem?_take_of_lt hrl,List.getElem?_drop,ho]at hv1;exact hv1
def jx:List dR->(Nat->Value)->Nat->List XC
 | [],_,_=>[]
 | l::ks,g,j=>l.cell (g j)::jx ks g (j+1)
theorem rO:∀(ks:List dR) (g:Nat->Value) (o j:Nat),(jx ks g o)[j]? = (ks[j]?).map fun l=>l.cell (g (o+j))
 | [],g,o,j=>by simp[jx]
 | l::ks,g,o,0=>rfl
 | l::ks,g,o,j+1=>by
   rw[jx,List.getElem?_cons_succ,rO ks g (o+1) j,List.getElem?_cons_succ];rw[show o+1+j=o+(j+1) by omega]
def n7(ks:List dR)(g:Nat->Value)(o:Nat):Prop:=∀(j:Nat) (l:dR),ks[j]? = some l->l.has (g (o+j))
theorem xh[aq]{ks:List dR}{cs:List Value}(hl:cs.length=ks.length)(h:∀(j:Nat) (l:dR),ks[j]? = some l->∃v,cs[j]? = some v/\l.has v)(β : Env):cs=(jx ks (fun j=>cs.getD j .nilIface) 0).map (·.den β)/\n7 ks (fun j=>cs.getD j .nilIface) 0:=by
 have hv:∀j l,ks[j]? = some l->l.has (cs.getD j .nilIface)/\cs[j]? = some (cs.getD j .nilIface):=fun j l hj=>by
  obtain⟨v,h1,h2⟩:=h j l hj;rw[List.getD_eq_getElem?_getD,h1];exact⟨h2,rfl⟩
 refine⟨List.ext_getElem? fun j=>?_,fun j l hj=>by rw[Nat.zero_add];exact(hv j l hj).1⟩;rw[List.getElem?_map,rO,Nat.zero_add]
 by_cases hj:j<ks.length
 ·have hk:ks[j]? = some ks[j]:=List.getElem?_eq_getElem hj;obtain⟨h1,h2⟩:=hv j _ hk;rw[hk];show cs[j]? = some ((ks[j].cell (cs.getD j .nilIface)).den β);rw[dR.den h1,h2]
 ·rw[List.getElem?_eq_none (by omega),List.getElem?_eq_none (by omega)];rfl
end Go.Xm
namespace Go.Proofs.YthdciapjllppjaaGreat
open Go.ChangeShapes Go.WideShapes Go.ChangeAt Go.RowKit Go.Deep Go.Xm
def Iv:List dR:=[[dR.bool],iR [.int .u8] 64,iR [.int .u8] 64].flatten
def Ir:List dR:=[[dR.int .i64],[.int .i64],Iv].flatten
def Rd:List dR:=[iR [dR.int .i8] 4,iR [.int .i8] 4,[.bool]].flatten
def Iu:List dR:=[[dR.int .u8],[.int .u8],Rd,[.bool],iR [.int .u64] 6,[.int .u32],[.bool]].flatten
theorem z9:eY prog 5 [.int .u8] := .int Tryz.underlying5 (by kernel_rfl)
theorem Rh:eY prog 91 [.int .i8] := .int Tryz.underlying91 (by kernel_rfl)
theorem OI:eY prog 95 [.int .u64] := .int Tryz.underlying95 (by kernel_rfl)
theorem OH:eY prog 97 [.int .u32] := .int Tryz.underlying97 (by kernel_rfl)
theorem IJ:eY prog 3 [.int .i64] := .int Tryz.underlying3 (by kernel_rfl)
theorem oT:eY prog 4 [.bool] := .bool Tryz.underlying4 (by kernel_rfl)
theorem II:eY prog 22 (iR [.int .u8] 64) := .array Tryz.underlying22 z9 (by kernel_rfl)
theorem Nx:eY prog 92 (iR [.int .i8] 4) := .array Tryz.underlying92 Rh (by kernel_rfl)
theorem Rg:eY prog 96 (iR [.int .u64] 6) := .array Tryz.underlying96 OI (by kernel_rfl)
theorem OG:eY prog 24 Iv:=by
 refine .struct _ Tryz.underlying24 rfl (fun i f ks hi hk=>?_) (by kernel_rfl)
 match i,hi,hk with
 | 0,hi,hk=>cases hi;cases hk;exact⟨oT,rfl⟩
 | 1,hi,hk=>cases hi;cases hk;exact⟨II,rfl⟩
 | 2,hi,hk=>cases hi;cases hk;exact⟨II,rfl⟩
 | i+3,hi,hk=>simp at hk
theorem Ny:eY prog 26 Ir:=by
 refine .struct _ Tryz.underlying26 rfl (fun i f ks hi hk=>?_) (by kernel_rfl)
 match i,hi,hk with
 | 0,hi,hk=>cases hi;cases hk;exact⟨IJ,rfl⟩
 | 1,hi,hk=>cases hi;cases hk;exact⟨IJ,rfl⟩
 | 2,hi,hk=>cases hi;cases hk;exact⟨OG,rfl⟩
 | i+3,hi,hk=>simp at hk
theorem Rj:eY prog 94 Rd:=by
 refine .struct _ Tryz.underlying94 rfl (fun i f ks hi hk=>?_) (by kernel_rfl)
 match i,hi,hk with
 | 0,hi,hk=>cases hi;cases hk;exact⟨Nx,rfl⟩
 | 1,hi,hk=>cases hi;cases hk;exact⟨Nx,rfl⟩
 | 2,hi,hk=>cases hi;cases hk;exact⟨oT,rfl⟩
 | i+3,hi,hk=>simp at hk
theorem Ri:eY prog 99 Iu:=by
 refine .struct _ Tryz.underlying99 rfl (fun i f ks hi hk=>?_) (by kernel_rfl)
 match i,hi,hk with
 | 0,hi,hk=>cases hi;cases hk;exact⟨z9,rfl⟩
 | 1,hi,hk=>cases hi;cases hk;exact⟨z9,rfl⟩
 | 2,hi,hk=>cases hi;cases hk;exact⟨Rj,rfl⟩
 | 3,hi,hk=>cases hi;cases hk;exact⟨oT,rfl⟩
 | 4,hi,hk=>cases hi;cases hk;exact⟨Rg,rfl⟩
 | 5,hi,hk=>cases hi;cases hk;exact⟨OH,rfl⟩
 | 6,hi,hk=>cases hi;cases hk;exact⟨oT,rfl⟩
 | i+7,hi,hk=>simp at hk
theorem z5(a b:List dR)(g:Nat->Value):∀o,jx (a++b) g o=jx a g o++jx b g (o+a.length):=by
 induction a with
 | nil=>intro o;rfl
 | cons l a ih=>
   intro o;rw[List.cons_append,jx,ih,jx,List.cons_append,List.length_cons];rw[show o+1+a.length=o+(a.length+1) by omega]
theorem xi(k:IntKind)(g:Nat->Value):∀n o,jx (iR [.int k] n) g o=ti k n fun i=>lint (g (o+i)):=by
 intro n
 induction n with
 | zero=>intro o;rfl
 | succ n ih=>
   intro o;rw[iR,z5,ih];unfold ti;rw[List.range_succ_eq_map,List.map_cons,List.map_map];show _::_=_::_
   congr 1
   refine List.map_congr_left fun i _=>?_
   show XC.int k (lint (g (o+1+i)))=XC.int k (lint (g (o+(i+1))));rw[show o+1+i=o+(i+1) by omega]
def Ib(g:Nat->Value):Hd:=⟨lint (g 0),lint (g 1),uC (g 2),fun i=>lint (g (3+i)),fun i=>lint (g (67+i))⟩
def RC(g:Nat->Value):Sm:=⟨lint (g 0),lint (g 1),⟨fun i=>lint (g (2+i)),fun i=>lint (g (6+i)),uC (g 10)⟩,uC (g 11),fun i=>lint (g (12+i)),lint (g 18),uC (g 19)⟩
theorem yu:Ir = [dR.int .i64,.int .i64,.bool]++(iR [.int .u8] 64++iR [.int .u8] 64):=by
 simp only[Ir,Iv,List.flatten_cons,List.flatten_nil,List.append_nil,List.cons_append,List.nil_append]
theorem Iy(g:Nat->Value):jx Ir g 0=b9 (Ib g):=by
 rw[yu];simp only[List.cons_append,List.nil_append,jx];rw[z5,xi,xi,mc];rfl
theorem Iz(g:Nat->Value):jx Iu g 0=tC (RC g):=rfl
theorem IA{k:IntKind}{v:Value}(h:(dR.int k).has v):(Lit.int k (lint v)).wf=true:=by
 obtain⟨z,rfl,hz⟩:=h;exact hz
theorem ve(l:dR):∀n,iR [l] n=List.replicate n l
 | 0=>rfl
 | n+1=>by rw[iR,ve l n,List.replicate_succ];rfl
theorem Ed(l:dR){n i:Nat}(h:i<n)(r:List dR):(iR [l] n++r)[i]? = some l:=by
 rw[List.getElem?_append_left (by rw[ve,List.length_replicate];exact h),ve,List.getElem?_replicate,if_pos h]
theorem ok_int{ks:List dR}{g:Nat->Value}(h:n7 ks g 0){j:Nat}{k:IntKind}(hj:ks[j]? = some (.int k)):(Lit.int k (lint (g j))).wf=true:=by
 have:=IA (h j _ hj);rwa [Nat.zero_add]at this
theorem Ow{g:Nat->Value}(h:n7 Ir g 0):pt (Ib g):=by
 refine⟨bounds_i64 (ok_int h rfl),bounds_i64 (ok_int h rfl),fun i h64=>⟨bounds_u8 (ok_int h ?_),bounds_u8 (ok_int h ?_)⟩⟩
 ·rw[Nat.add_comm];rw[yu];show(iR [dR.int .u8] 64++iR [.int .u8] 64)[i]? = _;exact Ed _ h64 _
 ·rw[show 67+i=(64+i)+3 by omega];rw[yu];show(iR [dR.int .u8] 64++iR [.int .u8] 64)[64+i]? = _;rw[List.getElem?_append_right (by rw[mc];simp),mc];simp only[List.length_cons,List.length_nil,Nat.zero_add,Nat.mul_one,Nat.add_sub_cancel_left];rw[<-List.append_nil (iR _ 64)];exact Ed _ h64 _
theorem Pw{g:Nat->Value}(h:n7 Iu g 0):iS (RC g):=by
 have i8:∀{j},Iu[j]? = some (.int .i8) -> -128<=lint (g j)/\lint (g j)<128:=fun {j} hj=>by
  have:=bounds_i8 (ok_int h hj);omega
 have u64:∀{j},Iu[j]? = some (.int .u64)->0<=lint (g j)/\lint (g j)<18446744073709551616:=fun {j} hj=>by
  have:=bounds_u64 (ok_int h hj);omega
 refine⟨bounds_u8 (ok_int h rfl),bounds_u8 (ok_int h rfl),⟨fun k hk=>?_,fun k hk=>?_⟩,fun k hk=>?_,?_⟩
 ·match k,hk with
  | 0,_=>exact i8 rfl
  | 1,_=>exact i8 rfl
  | 2,_=>exact i8 rfl
  | 3,_=>exact i8 rfl
 ·match k,hk with
  | 0,_=>exact i8 rfl
  | 1,_=>exact i8 rfl
  | 2,_=>exact i8 rfl
  | 3,_=>exact i8 rfl
 ·match k,hk with
  | 0,_=>exact u64 rfl
  | 1,_=>exact u64 rfl
  | 2,_=>exact u64 rfl
  | 3,_=>exact u64 rfl
  | 4,_=>exact u64 rfl
  | 5,_=>exact u64 rfl
 ·have:=bounds_u32 (ok_int h (j:=18) rfl);show 0<=lint (g 18)/\lint (g 18)<4294967296;omega
variable [aq]
section
variable {H:Type} {enc:TypeId×Value->H} {w:World} {base:Nat} {spare:Nat->Bool} {held:Bool}
theorem IB{t:TypeId}{ks:List dR}(hl:eY prog t ks){fuel:Nat}{cs:List Value}{x:Option (DataW H×List MemPlace)}{y:DataW H×List MemPlace}(h:DataW.trod enc prog w base spare held fuel t cs=x)(hx:x=some y):∃g,n7 ks g 0/\∀β : Env,cs=(jx ks g 0).map (·.den β):=by
 obtain⟨h1,h2⟩:=hl.2 H enc w base spare held fuel cs y (h.trans hx);exact⟨_,(xh h1 h2 Env.zero).2,fun β=>(xh h1 h2 β).1⟩
end
end Go.Proofs.YthdciapjllppjaaGreat
namespace Go.Proofs.YthdciapjllppjaaGreat
open Go.ChangeShapes Go.WideShapes Go.ChangeAt Go.RowKit Go.Deep Go.Xm
def Is:List dR:=[[dR.bool],[.bool],[.int .u8],[.int .u8]].flatten
theorem OF:eY prog 84 Is:=by
 refine .struct _ Tryz.underlying84 rfl (fun i f ks hi hk=>?_) (by kernel_rfl)
 match i,hi,hk with
 | 0,hi,hk=>cases hi;cases hk;exact⟨oT,rfl⟩
 | 1,hi,hk=>cases hi;cases hk;exact⟨oT,rfl⟩
 | 2,hi,hk=>cases hi;cases hk;exact⟨z9,rfl⟩
 | 3,hi,hk=>cases hi;cases hk;exact⟨z9,rfl⟩
 | i+4,hi,hk=>simp at hk
variable [aq]
def NG(g:Nat->Value):tb:=⟨uC (g 0),uC (g 1),lint (g 2),lint (g 3)⟩
theorem Fz(g:Nat->Value):jx Is g 0=eR (NG g):=rfl
theorem L_{g:Nat->Value}(h:n7 Is g 0):kj (NG g):=⟨bounds_u8 (ok_int h rfl),bounds_u8 (ok_int h rfl)⟩
section
variable {H:Type} {enc:TypeId×Value->H} {w:World} {base:Nat} {spare:Nat->Bool} {held:Bool}
set_option maxRecDepth 100000 in
theorem Ec{α : Type}[Inhabited α]{f : α->List XC}{s:Nat}[hE:nH f s]{ks:List dR}{te:TypeId}(hl:eY prog te ks)(hks:ks.length=s){of:(Nat->Value) -> α}(hof:∀g,jx ks g 0=f (of g)){raw : α->Prop}(hraw:∀g,n7 ks g 0->raw (of g)){v:Value}{b0:Nat}{r:Reach}{t:TypeId}(ht:prog.underlying t=some (.slice te))(hcell:Cell.okWide prog w r b0 t v){fuel:Nat}{x:DataW H×List MemPlace}(hf:DataW.trod enc prog w base spare held fuel t [v]=some x) :
 ∃l:List α,(∀j,j<l.length->raw (l.getD j default))/\l.length<=9223372036854775807/\gn w v (fl f l) l.length:=by
 rcases open_slice ht hf with⟨hcs,_⟩|⟨a,len,cap,m,n,D,Pl,hcs,_,hlc,hcm,hm,_,hall⟩
 ·simp only[List.cons.injEq,and_true]at hcs;exact⟨[],fun j hj=>absurd hj (Nat.not_lt_zero _),Nat.zero_le _,.inl ⟨hcs,rfl,rfl⟩⟩
 ·simp only [List.cons.injEq,and_true]at hcs;subst hcs;have hspot:=pW ht hcell;have hlm:len<=m:=by rw[hm];split<;>omega
  have hC:prog.cellsOf te=s:=hl.1.trans hks
  let g:Nat->Nat->Value:=fun i j=>(w.cell? ⟨a.block,a.off+(i*s+j),none⟩).getD .nilIface
  have hg:∀i,i<len->n7 ks (g i) 0/\∀j,j<s->w.cell? ⟨a.block,a.off+(i*s+j),none⟩=some (g i j):=fun i hi=>by
   obtain⟨cs',hc,ht'⟩:=hall i (by omega);rw[hC]at hc;obtain⟨_,hcl,hat⟩:=World.cells?_some hc
   have hat':∀j,j<s->w.cell? ⟨a.block,a.off+(i*s+j),none⟩=cs'[j]?:=fun j hj=>by
    rw[<-hat j hj,Go.Deep.add_add,rE hspot]
   have hgj:∀j,j<s->g i j=cs'.getD j .nilIface:=fun j hj=>by
    show(w.cell? _).getD _=_;rw[hat' j hj,List.getD_eq_getElem?_getD]
   obtain⟨hl1,hv⟩:=hl.2 H enc w base spare held n cs' _ ht';have hls:cs'.length=s:=hl1.trans hks;refine⟨fun j l hj=>?_,fun j hj=>?_⟩
   ·have hjs:j<s:=by rw[<-hks];exact(List.getElem?_eq_some_iff.1 hj).1
    obtain⟨v,h1,h2⟩:=hv j l hj;rw[Nat.zero_add,hgj j hjs,List.getD_eq_getElem?_getD,h1];exact h2
   ·rw[hat' j hj,hgj j hj,List.getD_eq_getElem?_getD,List.getElem?_eq_getElem (by omega)];rfl
  refine⟨(List.range len).map fun i=>of (g i),fun j hj=>?_,?_,.inr ⟨a.block,a.off,cap,by simpa using hlc,?_,fun j c hj β=>?_⟩⟩
  ·rw[List.length_map,List.length_range]at hj;rw[List.getD_eq_getElem?_getD,List.getElem?_map,List.getElem?_range hj];exact hraw _ (hg j hj).1
  ·unfold maxLen at hcm;rw[List.length_map,List.length_range];omega
  ·rw[List.length_map,List.length_range];obtain⟨b,o,sp⟩:=a;simp only at hspot;subst hspot;rfl
  ·have hj':=hj;unfold fl at hj;rw[zL f s hE.pos _ (fun a _=>hE.len a)]at hj
   have hlt:j/s<len:=by
    rw[List.getElem?_map]at hj
    by_cases h:j/s<len
    ·exact h
    ·rw[List.getElem?_eq_none (by rw[List.length_range];omega)]at hj;cases hj
   rw[List.getElem?_map,List.getElem?_range hlt]at hj;have hj2:(f (of (g (j/s))))[j%s]? = some c:=hj;have hr:j%s<s:=Nat.mod_lt _ hE.pos;rw[<-hof,rO,Nat.zero_add]at hj2;obtain⟨h1,h2⟩:=hg (j/s) hlt;have h3:=h2 (j%s) hr;have e5:j/s*s+j%s=j:=by rw[Nat.mul_comm];exact Nat.div_add_mod j s
   rw[e5]at h3;rw[h3]
   cases hk:ks[j%s]? with
   | none=>rw[hk]at hj2;cases hj2
   | some l=>
     rw[hk]at hj2;cases hj2;have:=h1 (j%s) l hk;rw[Nat.zero_add]at this;rw[dR.den this]
set_option maxRecDepth 100000 in
theorem Oc{v:Value}{b0:Nat}{r:Reach}(hval:Value.okWide prog w r b0 30 v){fuel:Nat}{x:DataW H×List MemPlace}(hf:DataW.trod enc prog w base spare held fuel 30 v.cells.toList=some x) :
 ∃ (h:Hd) (pics:List tb) (l:List Sm) (va vb:Value),pt h/\(∀j,j<pics.length->kj (pics.getD j default))/\(∀j,j<l.length->iS (l.getD j default))/\pics.length<=9223372036854775807/\l.length<=9223372036854775807/\gn w va (fl eR pics) pics.length/\gn w vb (fl tC l) l.length /\
   ∀(β : Env) (c0 c1:XC),c0.den β = va->c1.den β = vb->v = .agg ((rH h c0 c1).map (·.den β)).toArray:=by
 unfold Value.okWide at hval;rw[Tryz.underlying30]at hval;obtain⟨cs,rfl,hsz,ts,hts,_,hcell⟩:=hval;have hts2:(prog.cellTypes prog.depth 30).map (fun ts=>(ts.length,ts[131]?,ts[132]?))=some (133,some 27,some 28):=by kernel_rfl
 rw[hts]at hts2;simp only[Option.map_some,Option.some.injEq,Prod.mk.injEq]at hts2;obtain⟨hl133,h131,h132⟩:=hts2;obtain⟨xs,n,_,_,hlen,hxl,hx⟩:=DataW.trod_struct Tryz.underlying30 hf;have hC:prog.cellsOf 30=133:=by kernel_rfl
 have hcl:cs.toList.length=133:=by
  have:cs.size=prog.cellsOf 30:=hsz;rw[hC]at this;simpa using this
 have hx3:xs.length=3:=hxl
 have hget:∀i,i<3->∃y,xs[i]? = some y:=fun i hi=>⟨_,List.getElem?_eq_getElem (by omega)⟩
 obtain⟨y0,e0⟩:=hget 0 (by decide);obtain⟨y1,e1⟩:=hget 1 (by decide);obtain⟨y2,e2⟩:=hget 2 (by decide);have x0:=hx 0 _ rfl;have x1:=hx 1 _ rfl;have x2:=hx 2 _ rfl;obtain⟨g0,ok0,d0⟩:=IB Ny x0 e0
 obtain⟨va,hva⟩:∃vm,cs.toList[131]? = some vm:=⟨_,List.getElem?_eq_getElem (by omega)⟩
 obtain⟨vb,hvb⟩:∃vm,cs.toList[132]? = some vm:=⟨_,List.getElem?_eq_getElem (by omega)⟩
 have hlast:cs.toList.drop 132 = [vb]:=by
  have h:132<cs.toList.length:=by omega
  rw[List.getElem?_eq_getElem h]at hvb;rw[List.drop_eq_getElem_cons h,Option.some.inj hvb,List.drop_of_length_le (by omega)]
 have hlast2:cs.toList.drop 131 = [va,vb]:=by
  have h:131<cs.toList.length:=by omega
  rw[List.getElem?_eq_getElem h]at hva;rw[List.drop_eq_getElem_cons h,Option.some.inj hva,hlast]
 have hcell1:Cell.okWide prog w r b0 27 va:=by
  obtain⟨u,hu,hok⟩:=hcell 131 va (by rw[<-Array.getElem?_toList];exact hva);rw[hl133,show 131%133=131 from rfl,h131]at hu;cases hu;exact hok
 have hcell2:Cell.okWide prog w r b0 28 vb:=by
  obtain⟨u,hu,hok⟩:=hcell 132 vb (by rw[<-Array.getElem?_toList];exact hvb);rw[hl133,show 132%133=132 from rfl,h132]at hu;cases hu;exact hok
 have x1':DataW.trod enc prog w base spare held n 27 [va]=some y1:=by
  rw[<-e1,<-x1];show _=DataW.trod enc prog w base spare held n 27 ((cs.toList.drop 131).take (prog.cellsOf 27));rw[hlast2,show prog.cellsOf 27=1 by kernel_rfl];rfl
 have x2':DataW.trod enc prog w base spare held n 28 [vb]=some y2:=by
  rw[<-e2,<-x2];show _=DataW.trod enc prog w base spare held n 28 ((cs.toList.drop 132).take (prog.cellsOf 28));rw[hlast,show prog.cellsOf 28=1 by kernel_rfl];rfl
 obtain⟨pics,p1,p2,p3⟩:=Ec (f:=eR) OF rfl Fz (raw:=kj) (fun g h=>L_ h) Tryz.underlying27 hcell1 x1';obtain⟨l,l1',l2',l3'⟩:=Ec (f:=tC) Ri rfl Iz (raw:=iS) (fun g h=>Pw h) Tryz.underlying28 hcell2 x2';refine⟨Ib g0,pics,l,va,vb,Ow ok0,p1,l1',p2,l2',p3,l3',fun β c0 c1 h0 h1=>?_⟩
 have f0:cs.toList.take 131=(b9 (Ib g0)).map (·.den β):=by
  rw[<-Iy,<-d0 β];show _=(cs.toList.drop 0).take (prog.cellsOf 26);rw[Ny.1];rfl
 have h2:cs.toList=(rH (Ib g0) c0 c1).map (·.den β):=by
  rw[<-List.take_append_drop 131 cs.toList,f0,hlast2];unfold rH;rw[List.map_append,<-h0,<-h1];rfl
 rw[<-h2]
end
end Go.Proofs.YthdciapjllppjaaGreat
namespace Go.Proofs.YthdciapjllppjaaGreat.walkStreams
open Go.ChangeShapes Go.WideShapes Go.ChangeAt Go.RowKit Go.Deep Go.Xm
theorem own:ownKnob prog.godebug=none:=by kernel_rfl
theorem laidOut:laidOutB prog=true:=by kernel_rfl
def Hx:Option Value->Bool
 | some (.bool b)=>b
 | _=>false
theorem H5:∀l:List Bool,fl bC l=l.map .bool
 | []=>rfl
 | x::l=>by
   show [XC.bool x]++fl bC l=_;rw[H5 l];rfl
theorem BX[aq]{H:Type}{enc:TypeId×Value->H}{P:Program}{w:World}{r:Reach}{base b0:Nat}{spare:Nat->Bool}{held:Bool}{t e:TypeId}(ht:P.underlying t=some (.slice e))(he:P.underlying e=some .bool)(hC:P.cellsOf e=1){v:Value}(hcell:Cell.okWide P w r b0 t v){fuel:Nat}{x:DataW H×List MemPlace}(hf:DataW.trod enc P w base spare held fuel t [v]=some x) :
 ∃l:List Bool,gn w v (fl bC l) l.length:=by
 rcases open_slice1 ht hC hf with⟨hcs,_⟩|⟨a,len,cap,m,n,V,D,Pl,hcs,_,hlc,hcm,hm,_,hall⟩
 ·simp only[List.cons.injEq,and_true]at hcs;exact⟨[],.inl ⟨hcs,rfl,rfl⟩⟩
 ·simp only[List.cons.injEq,and_true]at hcs;subst hcs;have hspot:=pW ht hcell;have hlm:len<=m:=by rw[hm];split<;>omega
  have hV:∀i,i<len->w.cell? ⟨a.block,a.off+i,none⟩=some (.bool (Hx (some (V i)))):=fun i hi=>by
   obtain⟨h1,h2⟩:=hall i (by omega);rw[rE hspot]at h1;obtain⟨z,hz,_⟩:=DataW.trod_bool he h2;simp only[List.cons.injEq,and_true]at hz;rw[h1,hz];rfl
  refine⟨(List.range len).map fun i=>Hx (some (V i)),.inr ⟨a.block,a.off,cap,by simpa using hlc,?_,fun j c hj β=>?_⟩⟩
  ·simp only[List.length_map,List.length_range];obtain⟨b,o,s⟩:=a;simp only at hspot;subst hspot;rfl
  ·rw[H5]at hj
   have hjl:j<len:=by
    have:=(List.getElem?_eq_some_iff.1 hj).1;simpa using this
   simp only[List.map_map,List.getElem?_map,List.getElem?_range hjl,Option.map_some,Option.some.injEq]at hj;subst hj;exact hV j hjl
theorem wf_u8[aq]{l:List Int}(h:∀z∈l,(Lit.int .u8 z).wf=true):∀i,i<l.length->0<=l.getD i 0/\l.getD i 0<=255:=fun p _=>lY (p:=fun z=>0<=z/\z<=255) (fun z hz=>by have:=bounds_u8 (h z hz);omega) (by decide) p
set_option maxRecDepth 100000 in
theorem Ao{W:World}{r:Reach}{b0:Nat}{t e:TypeId}{v:Value}(hu:prog.underlying t=some (.slice e))(hv:Value.okWide prog W r b0 t v):Cell.okWide prog W r b0 t v/\v.cells.toList = [v]:=by
 unfold Value.okWide at hv;rw[hu]at hv;have hv:Cell.okWide prog W r b0 t v:=hv;refine⟨hv,?_⟩;have h:=hv;unfold Cell.okWide at h;rw[hu]at h;have hck:Cell.ok prog W r b0 t v:=h;unfold Cell.ok at hck;rw[hu]at hck
 split at hck<;>first
  | rfl
  | (cases hck)
set_option maxRecDepth 100000 in
theorem zD[aq]{H:Type}{enc:TypeId×Value->H}{W:World}{r:Reach}{base b0:Nat}{spare:Nat->Bool}{held:Bool}{v:Value}(hv:Value.okWide prog W r b0 32 v){fuel:Nat}{x:DataW H×List MemPlace}(hf:DataW.trod enc prog W base spare held fuel 32 v.cells.toList=some x):∃l:List Int,(∀i,i<l.length->0<=l.getD i 0/\l.getD i 0<=255)/\gn W v (il .u8 l) l.length:=by
 obtain⟨h1,h2⟩:=Ao Tryz.underlying32 hv;rw[h2]at hf;obtain⟨l,w,n,sl⟩:=Fv Tryz.underlying32 Tryz.underlying5 (by kernel_rfl) h1 hf;exact⟨l,wf_u8 w,sl⟩
set_option maxRecDepth 100000 in
theorem Hy[aq]{H:Type}{enc:TypeId×Value->H}{W:World}{r:Reach}{base b0:Nat}{spare:Nat->Bool}{held:Bool}{v:Value}(hv:Value.okWide prog W r b0 31 v){fuel:Nat}{x:DataW H×List MemPlace}(hf:DataW.trod enc prog W base spare held fuel 31 v.cells.toList=some x):∃l:List Bool,gn W v (fl bC l) l.length:=by
 obtain⟨h1,h2⟩:=Ao Tryz.underlying31 hv;rw[h2]at hf;exact BX Tryz.underlying31 Tryz.underlying4 (by kernel_rfl) h1 hf
theorem walk[aq]{W:World}{v vx vy vz:Value}{h:Hd}{pics:List tb}{l:List Sm}{va vb:Value}(hh:pt h)(hp:∀j,j<pics.length->kj (pics.getD j default))(hl:∀j,j<l.length->iS (l.getD j default))(ha:gn W va (fl eR pics) pics.length)(hb:gn W vb (fl tC l) l.length)(hv:∀(β : Env) (c0 c1:XC),c0.den β = va->c1.den β = vb->v = .agg ((rH h c0 c1).map (·.den β)).toArray){x:List Bool}(sx:gn W vx (fl bC x) x.length){y z:List Int}(hy:∀i,i<y.length->0<=y.getD i 0/\y.getD i 0<=255)(sy:gn W vy (il .u8 y) y.length)(hz:∀i,i<z.length->0<=z.getD i 0/\z.getD i 0<=255)(sz:gn W vz (il .u8 z) z.length) :
 Calls prog 3 #[v,vx,vy,vz] W fun e w'=>e = .returned (.bool true)/\Below W.heap.size W w':=by
 obtain⟨c0,o0,b0,lo0,sz0,a1,a2,a3,a4,a5,a6,a7⟩:=uP (qx (enc:=eR) pics) yi 0 ha;obtain⟨c1,o1,b1,lo1,sz1,d1,d2,d3,d4,d5,d6,d7⟩:=uP (qx (enc:=tC) l) yi 1 hb;obtain⟨c2,o2,b2,lo2,sz2,e1,e2,e3,e4,e5,e6,e7⟩:=uP (qx (enc:=bC) x) yi 2 sx;obtain⟨c3,o3,b3,lo3,sz3,g1,g2,g3,g4,g5,g6,g7⟩:=uP (yr _ _) DW 3 sy;obtain⟨c4,o4,b4,lo4,sz4,k1,k2,k3,k4,k5,k6,k7⟩:=uP (yr _ _) DW 4 sz;have hc:=A3 hh hp hl (BN.in a3 a4) (BN.in d3 d4) (BN.in e3 e4) (RO.in g3 g4) (RO.in k3 k4) hy hz a2 d2 e2 g2 k2
 let β : Env:=⟨fun i=>if i=0 then b0 else if i=1 then b1 else if i=2 then b2 else if i=3 then b3 else b4,fun i=>if i=0 then lo0 else if i=1 then lo1 else if i=2 then lo2 else if i=3 then lo3 else lo4,fun i=>if i=0 then sz0 else if i=1 then sz1 else if i=2 then sz2 else if i=3 then sz3 else sz4⟩
 have r0:aL β 5 (.one c0) va:=a7 β 5 (by omega) rfl rfl;have r1:aL β 5 (.one c1) vb:=d7 β 5 (by omega) rfl rfl;have r2:aL β 5 (.one c2) vx:=e7 β 5 (by omega) rfl rfl;have r3:aL β 5 (.one c3) vy:=g7 β 5 (by omega) rfl rfl;have r4:aL β 5 (.one c4) vz:=k7 β 5 (by omega) rfl rfl;refine HK hc (β := β) (Nat.le_of_ble_eq_true rfl) (fun i o ho=>?_) (fun o ho=>?_) (vs:=[v,vx,vy,vz]) ?_
 ·match i,ho with
  | 0,ho=>cases ho;exact a6 _ _
  | 1,ho=>cases ho;exact d6 _ _
  | 2,ho=>cases ho;exact e6 _ _
  | 3,ho=>cases ho;exact g6 _ _
  | 4,ho=>cases ho;exact k6 _ _
  | i+5,ho=>simp at ho
 ·simp only[List.mem_cons,List.not_mem_nil,or_false]at ho
  rcases ho with rfl|rfl|rfl|rfl|rfl
  ·exact a5
  ·exact d5
  ·exact e5
  ·exact g5
  ·exact k5
 ·exact .cons ⟨BY r0.1 r1.1,hv β c0 c1 r0.2.symm r1.2.symm⟩ (.cons r2 (.cons r3 (.cons r4 .nil)))
set_option maxRecDepth 100000 in
def SB:Value := .agg (#[.int .i64 0,.int .i64 0,.bool false]++Array.replicate 128 (.int .u8 0) ++ #[.slice none 0 0,.slice none 0 0])
set_option maxRecDepth 100000 in
theorem lifted(os:Os)(started:os.Started)(H:Type)(enc:TypeId×Value->H) :
 ReturnsInHanded {} Tryz.checked os 3 .any (Rows.walkStreamsSpec.pre6 enc prog Tryz.f3 Rows.walkStreamsRow.domain false) (Rows.walkStreamsSpec.post enc prog Tryz.f3 false true false false):=by
 letI:aq:=⟨fun _ => .int .u8 0,fun _=>⟨rfl,rfl⟩⟩
 refine returnsInHanded_of_change (C:=Tryz.checked) own started (by kernel_rfl) Tryz.func3
  (ChangeSpec.witness6 (enc:=enc) (C:=Tryz.checked) false ⟨#[],#[SB,.slice none 0 0,.slice none 0 0,.slice none 0 0],[]⟩ 8 (by kernel_rfl) (by kernel_rfl) (by kernel_rfl) (by kernel_rfl)) ?_
 intro W base args ds gs before hval0 hW hcnd _;have hval:∀(j:Nat) t v,Tryz.f3.params[j]? = some t->args[j]? = some v->Value.okWide prog W .any base t v:=hval0;have hW':=hW;obtain⟨p,q,hA0,hV,rfl,hfz,hnd⟩:=hW;have hA:DataW.TrodAll enc prog W 0 (fun _=>true) true Tryz.f3.params.toList args.toList ds p:=hA0;rw[Tryz.params3]at hA hval;obtain⟨v0,vs0,d0,ds0,p0,q0,hargs,rfl,rfl,h0,r0⟩:=trodAll_cons hA;obtain⟨v1,vs1,d1,ds1,p1,q1,rfl,rfl,rfl,h1,r1⟩:=trodAll_cons r0;obtain⟨v2,vs2,d2,ds2,p2,q2,rfl,rfl,rfl,h2,r2⟩:=trodAll_cons r1;obtain⟨v3,vs3,d3,ds3,p3,q3,rfl,rfl,rfl,h3,r3⟩:=trodAll_cons r2;obtain⟨rfl,rfl,rfl⟩:=trodAll_nil r3;obtain rfl:args = #[v0,v1,v2,v3]:=by cases args;simp_all
 obtain⟨rfl,rfl⟩:=trodVars_none hV;have k0:=h0;have k1:=h1;have k2:=h2;have k3:=h3;have lt0:∀x∈p0,x.block<W.heap.size:=by obtain⟨m,hm⟩:=k0;exact DataW.trod_lt m _ _ _ hm
 have lt1:∀x∈p1,x.block<W.heap.size:=by obtain⟨m,hm⟩:=k1;exact DataW.trod_lt m _ _ _ hm
 have lt2:∀x∈p2,x.block<W.heap.size:=by obtain⟨m,hm⟩:=k2;exact DataW.trod_lt m _ _ _ hm
 have lt3:∀x∈p3,x.block<W.heap.size:=by obtain⟨m,hm⟩:=k3;exact DataW.trod_lt m _ _ _ hm
 obtain⟨m0,t0'⟩:=h0;obtain⟨m1,t1'⟩:=h1;obtain⟨m2,t2'⟩:=h2;obtain⟨m3,t3'⟩:=h3;obtain⟨h,pics,l,va,vb,w1,w2,w3,w4,w5,w6,w7,w8⟩:=Oc (hval 0 _ v0 rfl rfl) t0';obtain⟨x,sx⟩:=Hy (hval 1 _ v1 rfl rfl) t1';obtain⟨y,hy,sy⟩:=zD (hval 2 _ v2 rfl rfl) t2';obtain⟨z,hz,sz⟩:=zD (hval 3 _ v3 rfl rfl) t3';refine(walk w1 w2 w3 w6 w7 w8 sx hy sy hz sz).mono fun e W' ⟨he,bel⟩=>?_
 subst he;exact⟨_,rfl,_,_,_,[],_,[],hW',trodAll_mk1 (shut_bool Tryz.underlying4 _),(trodAll_cons_mk (Below.trod laidOut (by kernel_rfl) (of_decide_eq_true (by kernel_rfl)) k0 bel lt0) (trodAll_cons_mk (Below.trod laidOut (by kernel_rfl) (of_decide_eq_true (by kernel_rfl)) k1 bel lt1) (trodAll_cons_mk (Below.trod laidOut (by kernel_rfl) (of_decide_eq_true (by kernel_rfl)) k2 bel lt2) (trodAll_cons_mk (Below.trod laidOut (by kernel_rfl) (of_decide_eq_true (by kernel_rfl)) k3 bel lt3) trodAll_mk0)))),rfl,bel.frame _,fun h=>by cases h⟩
theorem SX:Rows.walkStreamsRow.holds Tryz.pinned (OpenSpec.ofChange Rows.walkStreamsSpec):=
 OpenClaim.holds_of_wide 3 Tryz.f3 rfl rfl rfl rfl rfl rfl rfl ⟨rfl,rfl,rfl,rfl,rfl⟩ rfl rfl rfl rfl rfl (by kernel_rfl) Tryz.func3 (by kernel_rfl)
  (of_decide_eq_true (by kernel_rfl)) (by unfold Func.isWrapper;first|(rw[if_pos (by decide +kernel)];kernel_rfl)|(rw[if_neg (by decide +kernel)];exact⟨rfl,rfl⟩))
  (fun os started H enc _=>lifted os started H enc)
theorem proved:Rows.WalkStreamsSaid:=SX
end Go.Proofs.YthdciapjllppjaaGreat.walkStreams
