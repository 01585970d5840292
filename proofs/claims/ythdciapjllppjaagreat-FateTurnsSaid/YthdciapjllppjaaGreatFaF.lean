/-
  A part of the proof: XvLate, XvNest, BsN, StrM, Facts, Small, Flt.
-/
import Derived.Test.YthdciapjllppjaaGreatFaE
import Derived.KernelRfl
import Derived.Test.YthdciapjllppjaaGreatProg
set_option maxRecDepth 10000
set_option maxHeartbeats 8000000
set_option linter.unusedVariables false
set_option linter.unusedSectionVars false
set_option linter.unusedSimpArgs false
open Go.Proofs.Tryz (prog)
namespace Go.Xm
variable [av]
section
variable {P:Program} {ops:Array Oper} {nt nI:Nat} {al:aL} {hs:ah} {o:Oper} {l:List Oper} {L:List aA} {K:List Ab->aL->ah->Prop} {d:Nat}
theorem sP{t:TypeId}{a b:Operand}{elem:TypeId}{s:Nat}{kd:IntKind}{z:Int}{g k off len fl cut:Nat}{p:Nat}(hk:SK P ops nt L l ((d,.one (.lpt g k p))::al) hs fun bs=>K (quiet::bs))(ho:o.op = .indexAddr t a b:=by exact rfl)(wn:Wn ops nt al o d:=by exact⟨rfl,rfl,rfl⟩)(hb:ag (rg al) b = .one (.int kd z):=by exact rfl)(ha:ag (rg al) a = .one (.lsl g k off len fl cut):=by exact rfl)(hu:aG P t (.slice elem):=by infer_instance)(hs':aF P elem s:=by infer_instance)(hz:0<=z/\z<(len:Nat):=by first|omega|decide)(hp:off+z.toNat*s=p:=by exact n1):SK P ops nt L (o::l) al hs K:=by
 subst hp;exact SK.lift wn.e wn.l (fun _=>az.pure wn.w (by rw[ho];simp[aT,b9,ha,hb,hu.out,hs'.out,hz])) hk
theorem T4{s:TypeId}{a:Operand}{f:Nat}{g k off:Nat}{ft:TypeId}{fo z:Nat}{p:Nat}(hk:SK P ops nt L l ((d,.one (.lpt g k p))::al) hs fun bs=>K (quiet::bs))(ho:o.op = .fieldAddr s a f:=by exact rfl)(wn:Wn ops nt al o d:=by exact⟨rfl,rfl,rfl⟩)(ha:ag (rg al) a = .one (.lpt g k off):=by exact rfl)(hf:bH P s f ft fo:=by infer_instance)(hz:aF P ft (z+1):=by infer_instance)(hp:off+fo=p:=by exact n1):SK P ops nt L (o::l) al hs K:=by
 subst hp;refine SK.lift wn.e wn.l (fun _=>az.pure wn.w ?_) hk;obtain⟨fd,h1,h2,h3⟩:=hf.ex;rw[ho];simp only[aT,eD,h1,ha,h2,hz.out,h3]
theorem nN{a:Operand}{t elem:TypeId}{g k off len fl cut:Nat}(hk:SK P ops nt L l ((d,.one (.int .i64 (len:Nat)))::al) hs fun bs=>K (quiet::bs))(ho:o.op = .call ⟨.builtin .len,#[a],#[t]⟩:=by exact rfl)(wn:Wn ops nt al o d:=by exact⟨rfl,rfl,rfl⟩)(ha:ag (rg al) a = .one (.lsl g k off len fl cut):=by exact rfl)(hu:aG P t (.slice elem):=by infer_instance):SK P ops nt L (o::l) al hs K:=
 SK.lift wn.e wn.l (fun _=>az.pure wn.w (by rw[ho];simp[aT,dv,ha,tv,hu.out])) hk
theorem az.Oh{O:db}(hw:aw ops (rg al) o=some true){t:TypeId}{a:Operand}(ho:o.op = .load t a){g k off:Nat}(ha:ag (rg al) a = .one (.lpt g k off)){LL:List (List XC)}(hi:hs[g]? = some (.late LL)){cs:List XC}(hL:LL[k]? = some cs)(hne:cs≠[]){x:X1}(hl:dC P t (cs.map (·.self g)) off=some x) :
 az O P ops al hs o x.pj hs ⟨false,some g,[]⟩:=by
 intro m hm;refine⟨m,?_,hm,fun _ _=>rfl⟩;unfold iT;rw[hw]
 obtain⟨f,hf1,hf2⟩:∃f,eV P (ag (rg al)) o.op=some (g,f)/\∀(LL:List (List XC)) c cs,LL[k]? = some (c::cs)->f (.late LL)=(dC P t ((c::cs).map (·.self g)) off).map X1.pj:=by
  rw[ho];simp only[eV,ha];refine⟨_,rfl,fun LL c cs h=>?_⟩;simp only[h]
 refine mn (by rw[ho];rfl) (by rw[ho];rfl) hf1 ?_
 cases cs with
 | nil=>exact absurd rfl hne
 | cons c cs=>rw[hm.at hi,hf2 LL c cs hL,hl];rfl
theorem TO{t:TypeId}{a:Operand}{g k off:Nat}{LL:List (List XC)}{cs:List XC}{c:XC}(hk:SK P ops nt L l ((d,.one (c.self g))::al) hs fun bs=>K (⟨false,some g,[]⟩::bs))(hL:LL[k]? = some cs)(hc:cs[off]? = some c)(ho:o.op = .load t a:=by exact rfl)(ht:cE P t:=by infer_instance)(wn:Wn ops nt al o d:=by exact⟨rfl,rfl,rfl⟩)(ha:ag (rg al) a = .one (.lpt g k off):=by exact rfl)(hi:hs[g]? = some (.late LL):=by exact rfl):SK P ops nt L (o::l) al hs K:=
 SK.lift wn.e wn.l (fun _=>az.Oh wn.w ho ha hi hL (fun e=>by rw[e]at hc;cases hc) (AJ ht.out (by rw[List.getElem?_map,hc];rfl))) hk
theorem Gd{t:TypeId}{a:Operand}{g k off:Nat}{LL:List (List XC)}{kd:IntKind}{q:List Int}(hk:SK P ops nt L l ((d,.one (.int kd (q.getD off 0)))::al) hs fun bs=>K (⟨false,some g,[]⟩::bs))(hL:LL[k]? = some (il kd q))(hc:off<q.length)(ho:o.op = .load t a:=by exact rfl)(ht:cE P t:=by infer_instance)(wn:Wn ops nt al o d:=by exact⟨rfl,rfl,rfl⟩)(ha:ag (rg al) a = .one (.lpt g k off):=by exact rfl)(hi:hs[g]? = some (.late LL):=by exact rfl):SK P ops nt L (o::l) al hs K:=
 TO (c := .int kd (q.getD off 0)) hk hL (by unfold il;rw[List.getElem?_map,List.getD_eq_getElem?_getD,List.getElem?_eq_getElem hc];rfl) ho ht wn ha hi
theorem RN{t:TypeId}{a:Operand}{s:Nat}{g k off:Nat}{LL:List (List XC)}{vs cs cs':List XC}(hk:SK P ops nt L l ((d,.agg cs')::al) hs fun bs=>K (⟨false,some g,[]⟩::bs))(hL:LL[k]? = some vs)(hle:off+s<=vs.length/\0<s)(hc:(vs.drop off).take s=cs)(hc':cs.map (·.self g)=cs':=by exact rfl)(ho:o.op = .load t a:=by exact rfl)(ht:da P t:=by infer_instance)(hs':aF P t s:=by infer_instance)(wn:Wn ops nt al o d:=by exact⟨rfl,rfl,rfl⟩)(ha:ag (rg al) a = .one (.lpt g k off):=by exact rfl)(hi:hs[g]? = some (.late LL):=by exact rfl):SK P ops nt L (o::l) al hs K:=by
 subst hc hc';refine SK.lift wn.e wn.l (fun _=>az.Oh (x := .agg (((vs.drop off).take s).map (·.self g))) wn.w ho ha hi hL (fun e=>by rw[e]at hle;simp at hle;omega) ?_) hk;unfold dC;rw[ht.out,hs'.out];simp only[List.length_map];rw[if_pos hle.1,<-List.map_drop,<-List.map_take]
class zT {α : Type}(enc : α->List XC) (s:outParam Nat):Prop where
 len:∀a,(enc a).length=s
 pos:0<s
instance (priority:=low) {α : Type} {enc : α->List XC} {s:Nat} [h:nR enc s]:zT enc s:=⟨h.len,h.pos⟩
theorem pZ{α : Type}{enc : α->List XC}{s:Nat}[hE:zT enc s](q:List α):(fl enc q).length=q.length*s:=by
 induction q with
 | nil=>simp[fl]
 | cons a l ih=>simp only[fl,List.flatMap_cons,List.length_append,hE.len,List.length_cons]at ih ⊢;rw[ih,Nat.add_mul];omega
theorem JB{α : Type}{enc : α->List XC}{s:Nat}[hE:zT enc s](q:List α)(j:Nat)(hj:j<q.length)(dflt : α):j*s+s<=(fl enc q).length/\((fl enc q).drop (j*s)).take s=enc (q.getD j dflt):=
 yK enc s q (fun a _=>hE.len a) j _ (by simp[List.getD_eq_getElem?_getD,hj])
theorem kn{α : Type}{enc : α->List XC}{s:Nat}[hE:zT enc s][Inhabited α]{t:TypeId}{a:Operand}{g k off:Nat}{LL:List (List XC)}{q:List α}{j:Nat}{cs':List XC}(hk:SK P ops nt L l ((d,.agg cs')::al) hs fun bs=>K (⟨false,some g,[]⟩::bs))(hL:LL[k]? = some (fl enc q))(hc:j<q.length)(hc':(enc (q.getD j default)).map (·.self g)=cs':=by exact rfl)(ho:o.op = .load t a:=by exact rfl)(ht:da P t:=by infer_instance)(hs':aF P t s:=by infer_instance)(wn:Wn ops nt al o d:=by exact⟨rfl,rfl,rfl⟩)(ha:ag (rg al) a = .one (.lpt g k off):=by exact rfl)(hi:hs[g]? = some (.late LL):=by exact rfl)(hj:off=j*s:=by exact n1):SK P ops nt L (o::l) al hs K:=by
 subst hj;obtain⟨h1,h2⟩:=JB (enc:=enc) q j hc default;exact RN hk hL ⟨h1,hE.pos⟩ h2 hc' ho ht hs' wn ha hi
theorem Q1{t e:TypeId}{a:Operand}{lo hi:Option Operand}{s:Nat}{g k off n fl cut p q:Nat}{z w:Int}(hk:SK P ops nt L l ((d,.one (.lsl g k (off+p*s) (q-p) (fl-p) (cut+p)))::al) hs fun bs=>K (quiet::bs))(ho:o.op = .slice t a lo hi .none:=by exact rfl)(hu:aG P t (.slice e):=by infer_instance)(hs':aF P e s:=by infer_instance)(wn:Wn ops nt al o d:=by exact⟨rfl,rfl,rfl⟩)(ha:ag (rg al) a = .one (.lsl g k off n fl cut):=by exact rfl)(hl:tn (lo.map (ag (rg al))) 0=some z:=by exact rfl)(hh:tn (hi.map (ag (rg al))) (n:Nat)=some w:=by exact rfl)(hp:z=(p:Nat):=by first|exact rfl|omega)(hq:w=(q:Nat):=by first|exact rfl|omega)(hb:p<=q/\q<=fl/\(p=0\/p<fl):=by omega):SK P ops nt L (o::l) al hs K:=by
 subst hp hq;have e1:=rj (y:=q) hl (by omega);have e2:=ri (y:=fl) hh (by omega);exact SK.lift wn.e wn.l (fun _=>az.pure wn.w (by rw[ho];simp only[aT,nr,hu.out,ha,dU,Option.map_none,e1,e2,hs'.out];rw[if_pos hb.2.2])) hk
theorem Ns{t1 e1:TypeId}(hu:P.underlying t1=some (.slice e1)){b:Operand}{g k off n fl cut sz:Nat}(hb:ag (rg al) b = .one (.lsl g k off n fl cut))(hsz:0<sz){LL:List (List XC)}(hi:hs[g]? = some (.late LL)){cs:List XC}(hL:LL[k]? = some cs)(hn:off+n*sz<=cs.length){r:List XC}(hr:(((cs.map (·.self g)).drop off).take (n*sz))=r):∀M,aZ M hs->kQ P t1 sz (ag (rg al) b) M=some (n,r):=fun M hM=>by
 subst hr;rw[hb];unfold kQ;simp only[hu]
 by_cases h0:n=0
 ·rw[if_pos h0,h0,Nat.zero_mul];rfl
 ·rw[if_neg h0,hM.at hi];simp only[hL]
  cases cs with
  | nil=>
    have:=Nat.mul_pos (Nat.pos_of_ne_zero h0) hsz;simp at hn;omega
  | cons c cs=>simp only[];rw[if_pos hn]
end
def XC.iA(g m:Nat):XC->Prop
 | .ptr j _=>j≠g
 | .slice j _ _ _=>j≠g
 | .map j=>j≠g
 | .lsl g' k _ _ _ _=>g'=g->k≠m
 | .lpt g' k _=>g'=g->k≠m
 | .bind a b=>a.iA g m/\b.iA g m
 | _=>True
theorem XC.i5{g m:Nat}:∀{c:XC},c.ok 0->c.iA g m:=by
 intro c
 induction c with
 | ptr j off=>exact fun h=>absurd h (Nat.not_lt_zero _)
 | slice j off n cap=>exact fun h=>absurd h (Nat.not_lt_zero _)
 | map j=>exact fun h=>absurd h (Nat.not_lt_zero _)
 | lsl g' k off n fl cut=>exact fun h=>absurd h (Nat.not_lt_zero _)
 | lpt g' k off=>exact fun h=>absurd h (Nat.not_lt_zero _)
 | bind a b ih1 ih2=>exact fun h=>⟨ih1 h.1,ih2 h.2⟩
 | _=>intro _;trivial
inductive dF(g m:Nat)(A B:XC):XC->XC->Prop where
 | same {c:XC}:c.iA g m->dF g m A B c c
 | uC:dF g m A B A B
inductive cU(g m:Nat)(A B:XC):List XC->List XC->Prop where
 | same {l:List XC}:(∀c∈l,c.iA g m)->cU g m A B l l
 | cons {c c':XC} {l l':List XC}:dF g m A B c c'->cU g m A B l l'->cU g m A B (c::l) (c'::l')
theorem cU.app{g m:Nat}{A B:XC}{a a' b b':List XC}(h:cU g m A B a a')(k:cU g m A B b b'):cU g m A B (a++b) (a'++b'):=by
 induction h with
 | @same l hl=>
   induction l with
   | nil=>exact k
   | cons c l ih=>exact .cons (.same (hl c (List.mem_cons_self ..))) (ih fun x hx=>hl x (List.mem_cons_of_mem _ hx))
 | cons hc _ ih=>exact .cons hc ih
inductive aO(i g m:Nat)(A B:XC)(L:List (List XC))(vs:List XC):Nat->ah->ah->Prop where
 | nil {j:Nat}:aO i g m A B L vs j [] []
 | flat {j:Nat} {o:aj} {hs hs2:ah} [cf o]:Nat.beq j i=false->aO i g m A B L vs (j+1) hs hs2->aO i g m A B L vs j (o::hs) (o::hs2)
 | dead {j:Nat} {o:aj} {hs hs2:ah}:aO i g m A B L vs (j+1) hs hs2->aO i g m A B L vs j (o::hs) (.dead::hs2)
 | cells {j:Nat} {us us2:List XC} {e:TypeId} {a b:Bool} {hs hs2:ah}:Nat.beq j i=false->cU g m A B us us2->aO i g m A B L vs (j+1) hs hs2->aO i g m A B L vs j (.cells us e a b::hs) (.cells us2 e a b::hs2)
 | ghost {hs hs2:ah}:aO i g m A B L vs (g+1) hs hs2->aO i g m A B L vs g (.late L::hs) (.late (L++[vs])::hs2)
inductive bG(g m:Nat)(A B:XC)(al:aL):aL->Prop where
 | nil:bG g m A B al []
 | flat {t:Nat} {v:XV} {r:aL} [b_ v]:rg al t=v->bG g m A B al r->bG g m A B al ((t,v)::r)
 | one {t:Nat} {c c':XC} {r:aL}:rg al t = .one c->dF g m A B c c'->bG g m A B al r->bG g m A B al ((t,.one c')::r)
 | agg {t:Nat} {c c':List XC} {r:aL}:rg al t = .agg c->cU g m A B c c'->bG g m A B al r->bG g m A B al ((t,.agg c')::r)
theorem aO.len{i g m:Nat}{A B:XC}{L:List (List XC)}{vs:List XC}{j:Nat}{hs hs2:ah}(h:aO i g m A B L vs j hs hs2):hs2.length=hs.length:=by
 induction h with
 | nil=>rfl
 | flat _ _ ih=>simp[ih]
 | dead _ ih=>simp[ih]
 | cells _ _ _ ih=>simp[ih]
 | ghost _ ih=>simp[ih]
theorem aO.at{i g m:Nat}{A B:XC}{L:List (List XC)}{vs:List XC}{j:Nat}{hs hs2:ah}(h:aO i g m A B L vs j hs hs2):∀(p:Nat) (o2:aj),hs2[p]? = some o2 ->
 o2 = .dead\/(j+p=g/\o2 = .late (L++[vs]))\/(j+p≠i/\cf o2/\hs[p]? = some o2)\/∃us us2 e a b,j+p≠i/\o2 = .cells us2 e a b/\hs[p]? = some (.cells us e a b)/\cU g m A B us us2:=by
 induction h with
 | nil=>intro p o2 h;simp at h
 | @flat j o hs hs2 inst hj _ ih=>
   intro p o2 h
   cases p with
   | zero=>
     simp only[List.getElem?_cons_zero,Option.some.injEq]at h;subst h;exact .inr (.inr (.inl ⟨fun e=>(by rw[Nat.add_zero]at e;rw[e,Nat.beq_refl]at hj;cases hj),inst,rfl⟩))
   | succ p=>
     have:=ih p o2 (by simpa using h);rw[show j+1+p=j+(p+1) by omega]at this;simpa using this
 | @dead j o hs hs2 _ ih=>
   intro p o2 h
   cases p with
   | zero=>
     simp only[List.getElem?_cons_zero,Option.some.injEq]at h;exact .inl h.symm
   | succ p=>
     have:=ih p o2 (by simpa using h);rw[show j+1+p=j+(p+1) by omega]at this;simpa using this
 | @cells j us us2 e a b hs hs2 hj hl _ ih=>
   intro p o2 h
   cases p with
   | zero=>
     simp only[List.getElem?_cons_zero,Option.some.injEq]at h;subst h;exact .inr (.inr (.inr ⟨us,us2,e,a,b,fun e=>(by rw[Nat.add_zero]at e;rw[e,Nat.beq_refl]at hj;cases hj),rfl,rfl,hl⟩))
   | succ p=>
     have:=ih p o2 (by simpa using h);rw[show j+1+p=j+(p+1) by omega]at this;simpa using this
 | @ghost hs hs2 _ ih=>
   intro p o2 h
   cases p with
   | zero=>
     simp only[List.getElem?_cons_zero,Option.some.injEq]at h;exact .inr (.inl ⟨rfl,h.symm⟩)
   | succ p=>
     have:=ih p o2 (by simpa using h);rw[show g+1+p=g+(p+1) by omega]at this;simpa using this
instance Rx (L:List (List XC)):cf (.late L):=⟨fun _=>rfl,fun _=>trivial⟩
section
variable {i g m n:Nat} {cp:nQ} {A B:XC} {β β2:Env}
structure t9(g m:Nat)(A B:XC)(β β2:Env):Prop where
 ne:∀j,j≠g -> β2.bp j = β.bp j
 size:∀j,β2.size j = β.size j
 base:∀j,β2.base j = β.base j
 tab:∀k,k≠m->gV (β2.bp g) k=gV (β.bp g) k/\dX (β2.bp g) k=dX (β.bp g) k/\mc (β2.bp g) k=mc (β.bp g) k
 new:B.den β2=A.den β
theorem t9.same(h:t9 g m A B β β2):∀{c:XC},c.iA g m->c.den β2=c.den β:=by
 intro c
 induction c with
 | ptr j off=>intro hc;simp only[XC.den,h.ne j hc,h.base]
 | slice j off len cap=>intro hc;cases cap<;>simp only[XC.den,h.ne j hc,h.base,h.size]
 | map j=>intro hc;simp only[XC.den,h.ne j hc]
 | bind a b ih1 ih2=>intro hc;simp only[XC.den,ih1 hc.1,ih2 hc.2]
 | lsl g' k off len fl cut=>
   intro hc
   by_cases e:g'=g
   ·subst e;simp only[XC.den,(h.tab k (hc rfl)).1,(h.tab k (hc rfl)).2.1,(h.tab k (hc rfl)).2.2]
   ·simp only[XC.den,h.ne g' e]
 | lpt g' k off=>
   intro hc
   by_cases e:g'=g
   ·subst e;simp only[XC.den,(h.tab k (hc rfl)).1,(h.tab k (hc rfl)).2.1,(h.tab k (hc rfl)).2.2]
   ·simp only[XC.den,h.ne g' e]
 | _=>intro _;rfl
theorem t9.cell(h:t9 g m A B β β2){c c':XC}(hc:dF g m A B c c'):c'.den β2=c.den β:=by
 cases hc with
 | same hn=>exact h.same hn
 | uC=>exact h.new
theorem t9.cells(h:t9 g m A B β β2){l l':List XC}(hl:cU g m A B l l'):l'.map (·.den β2)=l.map (·.den β)/\l'.length=l.length:=by
 induction hl with
 | same hn=>exact⟨List.map_congr_left fun c hc=>h.same (hn c hc),rfl⟩
 | cons hc _ ih=>exact⟨by simp only[List.map_cons,h.cell hc,ih.1],by simp only[List.length_cons,ih.2]⟩
theorem t9.Ry(h:t9 g m A B β β2){o:aj}[ho:cf o]{N N2 lo sz:Nat}{ob:Option Obj}(hr:fw β N lo sz o ob):fw β2 N2 lo sz o ob:=by
 have h0:=ho.ok 0
 cases o with
 | dead=>trivial
 | late L=>trivial
 | cells vs e a b=>
   obtain⟨cs,fr,h1,h2,h3,h4,h5,h6⟩:=hr;exact⟨cs,fr,h1,h2,h3,h4,fun c hc=>XC.dA (Nat.zero_le _) (h0 c hc),by rw[h6];exact(List.map_congr_left fun c hc=>h.same (XC.i5 (h0 c hc))).symm⟩
 | map es=>
   obtain⟨en,clock,h1,h2,h3⟩:=hr
   have hx:∀x:X1,x.ok 0->x.den β2=x.den β:=fun x hx=>by
    cases x with
    | one c=>exact h.same (XC.i5 hx)
    | agg cs=>simp only[X1.den];rw[List.map_congr_left fun c hc=>h.same (XC.i5 (hx c hc))]
   refine⟨en,clock,h1,fun p hp=>⟨X1.dA (Nat.zero_le _) (h0 p hp).1,X1.dA (Nat.zero_le _) (h0 p hp).2⟩,h3.trans ?_⟩;exact List.map_congr_left fun p hp=>by rw[hx _ (h0 p hp).1,hx _ (h0 p hp).2]
theorem t9.RB(h:t9 g m A B β β2){v:XV}[hv:b_ v]{N N2:Nat}{u:Value}(hr:aM β N v u):aM β2 N2 v u:=by
 have h0:=hv.ok 0
 cases v with
 | undef=>trivial
 | one c=>exact⟨XC.dA (Nat.zero_le _) h0,hr.2.trans (h.same (XC.i5 h0)).symm⟩
 | agg cs=>exact⟨fun c hc=>XC.dA (Nat.zero_le _) (h0 c hc),hr.2.trans (by rw[List.map_congr_left fun c hc=>h.same (XC.i5 (h0 c hc))])⟩
 | tup xs=>
   refine⟨fun c hc=>X1.dA (Nat.zero_le _) (h0 c hc),hr.2.trans ?_⟩
   have:xs.map (·.den β2)=xs.map (·.den β):=List.map_congr_left fun x hx=>by
    have h1:=h0 x hx
    cases x with
    | one c=>exact h.same (XC.i5 h1)
    | agg cs=>simp only[X1.den];rw[List.map_congr_left fun c hc=>h.same (XC.i5 (h1 c hc))]
   rw[this]
theorem bG.at{al r:aL}(h:bG g m A B al r)(t:Nat):rg r t = .undef\/(b_ (rg r t)/\rg al t=rg r t)\/(∃c c',rg r t = .one c'/\rg al t = .one c/\dF g m A B c c')\/∃c c',rg r t = .agg c'/\rg al t = .agg c/\cU g m A B c c':=by
 induction h with
 | nil=>exact .inl rfl
 | @flat u v r inst hv _ ih=>
   rw[show rg ((u,v)::r) t=if t=u then v else rg r t from rfl];split
   ·rename_i e;subst e;exact .inr (.inl ⟨inst,hv⟩)
   ·exact ih
 | @one u c c' r hv hc _ ih=>
   rw[show rg ((u,XV.one c')::r) t=if t=u then XV.one c' else rg r t from rfl];split
   ·rename_i e;subst e;exact .inr (.inr (.inl ⟨c,c',rfl,hv,hc⟩))
   ·exact ih
 | @agg u c c' r hv hc _ ih=>
   rw[show rg ((u,XV.agg c')::r) t=if t=u then XV.agg c' else rg r t from rfl];split
   ·rename_i e;subst e;exact .inr (.inr (.inr ⟨c,c',rfl,hv,hc⟩))
   ·exact ih
theorem XC.vG{c:XC}{j:Nat}(h:c.f7 m=true):(c.self j).iA g m:=by
 cases c with
 | ptr i off=>cases h
 | slice i off len cap=>cases h
 | map i=>cases h
 | bind g c=>cases h
 | lsl g' k off len fl cut=>exact fun _ e=>by subst e;simp[XC.f7,Nat.blt_eq]at h
 | lpt g' k off=>exact fun _ e=>by subst e;simp[XC.f7,Nat.blt_eq]at h
 | _=>trivial
theorem XC.kp{c:XC}{a b:Nat}(hab:a<=b)(h:c.f7 a=true):c.f7 b=true:=by
 cases c with
 | ptr i off=>cases h
 | slice i off len cap=>cases h
 | map i=>cases h
 | bind g c=>cases h
 | lsl g' k off len fl cut=>simp only[XC.f7,Nat.blt_eq]at h ⊢;omega
 | lpt g' k off=>simp only[XC.f7,Nat.blt_eq]at h ⊢;omega
 | _=>rfl
theorem WX.O7{P:Program}{nt nI:Nat}{al:aL}{hs:ah}{K:ca}{c:rM}{L:List (List XC)}{vs:List XC}(hg:hs[g]? = some (.late L))(hgI:nI<=g)(hm:L.length=m)(hvl:∀c∈vs,c.f7 m=true)
 (hsrc:∀(β : Env) (mm:Mem) (w:World),aZ mm hs->Rel β mm w->∃bk base cap,(∀β2:Env,gV (β2.bp g) m=bk->dX (β2.bp g) m=base->mc (β2.bp g) m=cap->B.den β2=A.den β)/\(vs≠[]->(∃all e fr,w.heap[bk]? = some (.cells all e fr)/\(all.toList.drop base).take vs.length=(vs.map (·.self g)).map (·.den β))/\((i<mm.n/\(mm.get i).own=true /\ β.bp i=bk)\/∃p L' q cs',p<mm.n/\mm.get p = .late L'/\L'[q]? = some cs'/\cs'≠[]/\gV (β.bp p) q=bk)))
 {R:aL} {H:ah}(hH:aO i g m A B L vs 0 hs H) (hR:bG g m A B al R) (hok:qq nI R H)
 (h:WX P nt nI c R H K):WX P nt nI c al hs K:=by
 intro βI mI wI hnI mm hmm β w a Q hr hst hq;have rel:=hst.rel;have nn:=hmm.n;have hgn:g<mm.n:=by rw[nn];exact(List.getElem?_eq_some_iff.1 hg).1
 have gg:mm.get g = .late L:=hmm.at hg;obtain⟨bk,base,cap,hden,hnew⟩:=hsrc β mm w hmm rel;obtain⟨code,⟨t1,t3,t4⟩,t2⟩:=Nz bk base cap m (β.bp g)
 let β2:Env:=⟨fun j=>if j=g then code else β.bp j,β.base,β.size⟩
 have bg : β2.bp g=code:=if_pos rfl;have bne:∀j,j≠g -> β2.bp j = β.bp j:=fun j hj=>if_neg hj
 have E:t9 g m A B β β2:=⟨bne,fun _=>rfl,fun _=>rfl,fun k hk=>by rw[bg];exact t2 k hk,hden β2 (by rw[bg];exact t1) (by rw[bg];exact t3) (by rw[bg];exact t4)⟩
 have ok:=hok;have hm2:=eZ H (by simpa [Nat.blt_eq]using ok.bnd);have hlen:=hH.len;have n2:=hm2.n;generalize hM:iR H=m2 at hm2 n2
 have at2:∀p,p<m2.n->m2.get p = .dead\/(p=g/\m2.get p = .late (L++[vs]))\/(p≠i/\cf (m2.get p)/\mm.get p=m2.get p)\/∃us us2 e a b,p≠i/\m2.get p = .cells us2 e a b/\mm.get p = .cells us e a b/\cU g m A B us us2:=fun p hp=>by
  rcases hH.at p _ (hm2.get? hp)with k|⟨k1,k2⟩|⟨k1,k2,k3⟩|⟨us,us2,e,a,b,k1,k2,k3,k4⟩
  ·exact .inl k
  ·exact .inr (.inl ⟨by omega,k2⟩)
  ·exact .inr (.inr (.inl ⟨by omega,k2,hmm.at k3⟩))
  ·exact .inr (.inr (.inr ⟨us,us2,e,a,b,by omega,k2,hmm.at k3,k4⟩))
 have low:∀p,p<m2.n->(m2.get p).live=true->p≠g/\p≠i/\(mm.get p).live=true/\((m2.get p).own=true->(mm.get p).own=true):=fun p hp hl=>by
  rcases at2 p hp with k|⟨k1,k2⟩|⟨k1,k2,k3⟩|⟨us,us2,e,a,b,k1,k2,k3,k4⟩
  ·rw[k]at hl;cases hl
  ·rw[k2]at hl;cases hl
  ·refine⟨fun e=>?_,k1,by rw[k3];exact hl,fun ho=>by rw[k3];exact ho⟩;rw[<-k3,e,gg]at hl;cases hl
  ·refine⟨fun e=>?_,k1,by rw[k3];rfl,fun ho=>?_⟩
   ·rw[e,gg]at k3;cases k3
   ·rw[k2]at ho;rw[k3];exact ho
 have img2:∀k,kT β2 m2 k->∃p,p<mm.n/\p≠i/\(mm.get p).own=true /\ β.bp p=k:=fun k ⟨p,hp,ho,hb⟩=>by
  obtain⟨k1,k2,k3,k4⟩:=low p hp (aj.bQ ho);exact⟨p,by omega,k2,k4 ho,by rw[<-hb,bne p k1]⟩
 have himg:∀k,kT β2 m2 k->kT β mm k:=fun k hk=>by
  obtain⟨p,k1,k2,k3,k4⟩:=img2 k hk;exact⟨p,k1,k3,k4⟩
 have hni:vs≠[]->¬kT β2 m2 bk:=fun hne hk=>by
  rcases(hnew hne).2 with⟨hin,hio,hib⟩|⟨p,L',q,cs',h1,h2,h3,h4,h5⟩
  ·obtain⟨p,k1,k2,k3,k4⟩:=img2 _ hk;exact k2 (rel.inj p i k1 hin k3 (aj.bQ hio) (k4.trans hib.symm))
  ·rw[<-h5]at hk;exact((rel.late p h1 L' h2 q cs' h3).2 h4).1 (himg _ hk)
 have i6:∀k cs',L[k]? = some cs'->(∀c∈cs',c.f7 L.length=true)/\(cs'≠[]->¬kT β2 m2 (gV (β2.bp g) k) /\
  ∃all e fr,w.heap[(gV (β2.bp g) k)]? = some (.cells all e fr)/\(all.toList.drop (dX (β2.bp g) k)).take cs'.length=cs'.map fun c=>(c.self g).den β2):=fun k cs' hk=>by
  have hkl:=(List.getElem?_eq_some_iff.1 hk).1;obtain⟨q1,q2⟩:=rel.late g hgn L gg k cs' hk;refine⟨q1,fun hne=>?_⟩;obtain⟨q3,all,e,fr,q4,q5⟩:=q2 hne;rw[(E.tab k (by omega)).1,(E.tab k (by omega)).2.1];refine⟨fun hk=>q3 (himg _ hk),all,e,fr,q4,q5.trans (List.map_congr_left fun c hc=>?_)⟩;exact(E.same (XC.vG (by rw[<-hm];exact q1 c hc))).symm
 have hrel:Rel β2 m2 w:=by
  refine⟨hm2.bnd,hm2.fresh,fun p hp=>?_,fun a b ha hb la lb hab=>?_,fun p hp L2 hL2=>?_⟩
  ·rcases at2 p hp with k|⟨k1,k2⟩|⟨k1,k2,k3⟩|⟨us,us2,e,a,b,k1,k2,k3,k4⟩
   ·rw[k];trivial
   ·rw[k2];trivial
   ·by_cases hpg:p=g
    ·have:m2.get p = .late L:=by rw[<-k3,hpg];exact gg
     rw[this];trivial
    ·have:=rel.obj p (by omega);rw[k3]at this;rw[bne p hpg];exact E.Ry this
   ·have hpg:p≠g:=fun e=>by rw[e,gg]at k3;cases k3
    have:=rel.obj p (by omega);rw[k3]at this;obtain⟨cs,fr,j1,j2,j3,j4,j5,j6⟩:=this;obtain⟨d1,d2⟩:=E.cells k4;rw[bne p hpg,k2];refine⟨cs,fr,j1,j2,by rw[d2];exact j3,j4,?_,by rw[d1,d2];exact j6⟩;have hk:=ok.objs.at _ (List.mem_of_getElem? (hm2.get? hp));rw[k2]at hk;rw[n2];exact hk
  ·obtain⟨a1,a2,a3,a4⟩:=low a ha (aj.bQ la);obtain⟨b1,b2,b3,b4⟩:=low b hb lb;rw[bne a a1,bne b b1]at hab;exact rel.inj a b (by omega) (by omega) (a4 la) b3 hab
  ·rcases at2 p hp with k|⟨k1,k2⟩|⟨k1,k2,k3⟩|⟨us,us2,e,a,b,k1,k2,k3,k4⟩
   ·rw[k]at hL2;cases hL2
   ·rw[k2]at hL2;cases hL2;subst k1;intro k cs' hk
    by_cases hkm:k<L.length
    ·rw[List.getElem?_append_left hkm]at hk;obtain⟨q1,q2⟩:=i6 k cs' hk;exact⟨fun c hc=>XC.kp (by simp) (q1 c hc),q2⟩
    ·have hkl:=(List.getElem?_eq_some_iff.1 hk).1;simp only[List.length_append,List.length_singleton]at hkl;obtain rfl:k=L.length:=by omega
     rw[List.getElem?_append_right (Nat.le_refl _),Nat.sub_self]at hk;simp only[List.getElem?_cons_zero,Option.some.injEq]at hk;subst hk;refine⟨fun c hc=>XC.kp (by rw[<-hm];simp) (hvl c hc),fun hne=>?_⟩;rw[bg,hm,t1,t3];obtain⟨cs,e,fr,h1,h6⟩:=(hnew hne).1;refine⟨hni hne,cs,e,fr,h1,?_⟩;rw[h6,List.map_map];refine List.map_congr_left fun c hc=>?_
     exact(E.same (XC.vG (hvl c hc))).symm
   ·by_cases hpg:p=g
    ·rw[<-k3,hpg,gg]at hL2;cases hL2;rw[hpg];exact i6
    ·have hL:mm.get p = .late L2:=by rw[k3];exact hL2
     intro k cs' hk;obtain⟨q1,q2⟩:=rel.late p (by omega) L2 hL k cs' hk;refine⟨q1,fun hne=>?_⟩;obtain⟨q3,all,e,fr,q4,q5⟩:=q2 hne;rw[bne p hpg];refine⟨fun hk=>q3 (himg _ hk),all,e,fr,q4,q5.trans (List.map_congr_left fun c hc=>?_)⟩;exact(XC.ov (q1 c hc) (bne p hpg)).symm
   ·rw[k2]at hL2;cases hL2
 have hst2:Step βI mI wI β2 m2 w:=by
  have hle:=Nat.le_of_ble_eq_true ok.le;refine⟨by omega,fun j hj=>?_,hrel,hst.os,hst.tape,hst.output,hst.size,hst.frame,fun k hk hi=>hst.qe k hk (himg k hi),fun k hk ⟨p,hp,L2,q,cs',e1,e2,e3,e4⟩=>?_⟩
  ·have:=hst.ext j hj;rw[bne j (by omega)];exact this
  ·rcases at2 p hp with k1|⟨k1,k2⟩|⟨k1,k2,k3⟩|⟨us,us2,e,a,b,k1,k2,k3,k4⟩
   ·rw[k1]at e1;cases e1
   ·rw[k2]at e1;cases e1;subst k1
    by_cases hqm:q<L.length
    ·rw[List.getElem?_append_left hqm]at e2;rw[(E.tab q (by omega)).1]at e4;exact hst.wL k hk ⟨p,hgn,L,q,cs',gg,e2,e3,e4⟩
    ·have hql:=(List.getElem?_eq_some_iff.1 e2).1;simp only[List.length_append,List.length_singleton]at hql;obtain rfl:q=L.length:=by omega
     rw[bg,hm,t1]at e4;rw[List.getElem?_append_right (Nat.le_refl _),Nat.sub_self]at e2;simp only[List.getElem?_cons_zero,Option.some.injEq]at e2;subst e2
     rcases(hnew e3).2 with⟨hin,hio,hib⟩|⟨p,L',q,cs',h1,h2,h3,h4,h5⟩
     ·exact .inl (hst.qe k hk ⟨i,hin,hio,hib.trans e4⟩)
     ·exact hst.wL k hk ⟨p,h1,L',q,cs',h2,h3,h4,h5.trans e4⟩
   ·by_cases hpg:p=g
    ·rw[<-k3,hpg,gg]at e1;cases e1;have hql:=(List.getElem?_eq_some_iff.1 e2).1;rw[hpg,(E.tab q (by omega)).1]at e4;exact hst.wL k hk ⟨g,hgn,L,q,cs',gg,e2,e3,e4⟩
    ·rw[bne p hpg]at e4;exact hst.wL k hk ⟨p,by omega,L2,q,cs',by rw[k3];exact e1,e2,e3,e4⟩
   ·rw[k2]at e1;cases e1
 refine h βI mI wI hnI m2 (by rw[<-hM];exact eZ H (by simpa [Nat.blt_eq]using ok.bnd)) β2 w a Q ⟨hr.size,hr.small,fun t ht=>?_,fun t ht=>?_⟩ hst2 hq
 ·have hrt:=hr.rel t ht;have hokt:=ok.ie.at t;rw[<-n2]at hokt
  rcases hR.at t with k|⟨k1,k2⟩|⟨c,c',k1,k2,k3⟩|⟨c,c',k1,k2,k3⟩
  ·rw[k];trivial
  ·rw[k2]at hrt;exact E.RB hrt
  ·rw[k2]at hrt;rw[k1]at hokt ⊢;exact⟨hokt,hrt.2.trans (E.cell k3).symm⟩
  ·rw[k2]at hrt;rw[k1]at hokt ⊢;exact⟨hokt,hrt.2.trans (by rw[(E.cells k3).1])⟩
 ·have hot:=hr.out t ht
  rcases hR.at t with k|⟨k1,k2⟩|⟨c,c',k1,k2,k3⟩|⟨c,c',k1,k2,k3⟩
  ·exact k
  ·rw[<-k2];exact hot
  ·rw[k2]at hot;cases hot
  ·rw[k2]at hot;cases hot
theorem WX.uC{P:Program}{nt nI:Nat}{al:aL}{hs:ah}{K:ca}{c:rM}{L:List (List XC)}{vs us:List XC}{e:TypeId}{opn:Bool}(hg:hs[g]? = some (.late L))(hi:hs[i]? = some (.cells us e opn false))(hgI:nI<=g)(hm:L.length=m)(hv:vs.map (·.self g)=us)(hvl:∀c∈vs,c.f7 m=true)
 {R:aL} {H:ah}(hH:aO i g m (.slice i 0 n cp) (.lsl g m 0 n n 0) L vs 0 hs H) (hR:bG g m (.slice i 0 n cp) (.lsl g m 0 n n 0) al R) (hok:qq nI R H) (hn:(∃c,cp = .exact c/\n<=c)\/∃s,cp = .toEnd s/\0<s/\n*s<=us.length)
 (h:WX P nt nI c R H K):WX P nt nI c al hs K:=by
 refine WX.O7 hg hgI hm hvl (fun β mm w hmm rel=>?_) hH hR hok h;have nn:=hmm.n;have hin:i<mm.n:=by rw[nn];exact(List.getElem?_eq_some_iff.1 hi).1
 have gi:mm.get i = .cells us e opn false:=hmm.at hi;have ho:=rel.obj i hin;rw[gi]at ho;obtain⟨cs,fr,h1,h2,h3,h4,h5,h6⟩:=ho;have hbase : β.base i=0:=(h4 rfl).2;rw[hbase]at h6 h2
 obtain⟨cap,hcap,hden⟩:∃cap,n<=cap/\(XC.slice i 0 n cp).den β = .slice (some ⟨β.bp i,0,none⟩) n cap:=by
  rcases hn with⟨q,rfl,hq⟩|⟨s,rfl,hs0,hq⟩
  ·exact⟨q,hq,by simp only[XC.den,hbase]⟩
  ·refine⟨(β.size i-0)/s,?_,by simp only[XC.den,hbase]⟩;rw[Nat.le_div_iff_mul_le hs0];split at h3<;>omega
 refine⟨β.bp i,0,cap,fun β2 t1 t3 t4=>by simp only[XC.den,t1,t3,t4,hden,Nat.add_zero,Nat.sub_zero,Nat.max_eq_right hcap],fun _=>⟨⟨cs,e,fr,h1,?_⟩,.inl ⟨hin,by rw[gi];rfl,rfl⟩⟩⟩;have hl:us.length=vs.length:=by rw[<-hv,List.length_map]
 rw[hl]at h6;rw[h6,<-hv]
theorem XC.dM{c:XC}(h:c.f7 0=true)(g:Nat):c.self g=c:=by
 cases c with
 | ptr i off=>cases h
 | slice i off len cap=>cases h
 | map i=>cases h
 | bind g c=>cases h
 | lsl g' k off len fl cut=>cases h
 | lpt g' k off=>cases h
 | _=>rfl
theorem dM{vs:List XC}(h:∀c∈vs,c.f7 0=true)(g:Nat):vs.map (·.self g)=vs:=
 (List.map_congr_left fun c hc=>XC.dM (h c hc) g).trans (List.map_id' _)
theorem WX.Tm{P:Program}{nt nI:Nat}{al:aL}{hs:ah}{K:ca}{c:rM}{L L':List (List XC)}{vs:List XC}{h k off n fl cut:Nat}(hg:hs[g]? = some (.late L))(hh:hs[h]? = some (.late L'))(hk:L'[k]? = some vs)(hgI:nI<=g)(hm:L.length=m)(hvl:∀c∈vs,c.f7 0=true)
 {R:aL} {H:ah}(hH:aO hs.length g m (.lsl h k off n fl cut) (.lsl g m off n fl cut) L vs 0 hs H) (hR:bG g m (.lsl h k off n fl cut) (.lsl g m off n fl cut) al R) (hok:qq nI R H)
 (hx:WX P nt nI c R H K):WX P nt nI c al hs K:=by
 refine WX.O7 hg hgI hm (fun c hc=>XC.kp (Nat.zero_le _) (hvl c hc)) (fun β mm w hmm rel=>?_) hH hR hok hx;have nn:=hmm.n;have hin:h<mm.n:=by rw[nn];exact(List.getElem?_eq_some_iff.1 hh).1
 have gh:mm.get h = .late L':=hmm.at hh;refine⟨gV (β.bp h) k,dX (β.bp h) k,mc (β.bp h) k,fun β2 t1 t3 t4=>by simp only[XC.den,t1,t3,t4],fun hne=>?_⟩;obtain⟨q1,q2⟩:=rel.late h hin L' gh k vs hk;obtain⟨q3,all,e,fr,q4,q5⟩:=q2 hne;refine⟨⟨all,e,fr,q4,?_⟩,.inr ⟨h,L',k,vs,hin,gh,hk,hne,rfl⟩⟩;rw[q5,dM hvl];exact List.map_congr_left fun c hc=>by rw[XC.dM (hvl c hc)]
end
theorem XC.Kq{c:XC}{m:Nat}(h:c.f7 m=true)(g:Nat)(τ : Nat->Nat):(c.self g).aC τ = c.self (τ g):=by
 cases c with
 | ptr i off=>cases h
 | slice i off len cap=>cases h
 | map i=>cases h
 | bind g c=>cases h
 | _=>rfl
theorem oU{vs:List XC}{m:Nat}(h:∀c∈vs,c.f7 m=true)(g:Nat)(τ : Nat->Nat):(vs.map (·.self g)).map (·.aC τ)=vs.map (·.self (τ g)):=by
 rw[List.map_map];exact List.map_congr_left fun c hc=>XC.Kq (h c hc) g τ
theorem d8{vs:List XC}{m:Nat}(h:∀c∈vs,c.f7 m=true)(g j:Nat):∀c∈vs.map (·.self j),c.iA g m:=fun c hc=>by
 obtain⟨d,hd,rfl⟩:=List.mem_map.1 hc;exact XC.vG (h d hd)
theorem rl{vs:List XC}{m:Nat}(h:∀c∈vs,c.f7 m=true){g n:Nat}(hg:g<n){t:TypeId}{a b:Bool}:(aj.cells (vs.map (·.self g)) t a b).bt n:=fun c hc=>by
 obtain⟨d,hd,rfl⟩:=List.mem_map.1 hc;exact XC.zb (h d hd) hg
theorem GU{vs:List XC}(h:vs.all XC.shut=true)(g:Nat):vs.map (·.self g)=vs:=by
 rw[List.all_eq_true]at h;refine(List.map_congr_left (g:=id) fun c hc=>?_).trans (List.map_id _);have:=h c hc;cases c<;>first|rfl|cases this
theorem gT(k:IntKind)(q:List Int)(m:Nat):∀c∈il k q,c.f7 m=true:=fun c hc=>by
 obtain⟨z,_,rfl⟩:=List.mem_map.1 hc;rfl
theorem WX.pc{P:Program}{nt nI:Nat}{al:aL}{hs:ah}{K:ca}{c:rM}{L:List (List XC)}{vs us:List XC}{e:TypeId}{opn:Bool}(i g n:Nat)(cp:nQ)(R:aL)(H:ah){m:Nat}(hvl:∀c∈vs,c.f7 m=true)(hn:(∃c,cp = .exact c/\n<=c)\/∃s,cp = .toEnd s/\0<s/\n*s<=us.length)(hm:L.length=m)(hg:hs[g]? = some (.late L):=by exact rfl)(hi:hs[i]? = some (.cells us e opn false):=by exact rfl)(hgI:Nat.ble nI g=true:=by exact rfl)(hv:vs.map (·.self g)=us:=by exact rfl)
 (hH:aO i g m (.slice i 0 n cp) (.lsl g m 0 n n 0) L vs 0 hs H:=by repeat' (first|exact aO.nil|refine aO.ghost ?_|refine aO.flat rfl ?_|refine aO.cells rfl (cU.same (d8 (by assumption) _ _)) ?_|refine aO.dead ?_)) (hR:bG g m (.slice i 0 n cp) (.lsl g m 0 n n 0) al R:=by repeat' (first|exact bG.nil|refine bG.flat rfl ?_|refine bG.one rfl dF.uC ?_|refine bG.one rfl (dF.same (by first|trivial|decide|(intro h;first|exact absurd h (by decide)|omega))) ?_)) (hok:qq nI R H:=by exact mZ)
 (h:WX P nt nI c R H K):WX P nt nI c al hs K:=
 WX.uC hg hi (Nat.le_of_ble_eq_true hgI) hm hv hvl hH hR hok hn h
theorem WX.R1{P:Program}{nt nI:Nat}{al:aL}{hs:ah}{K:ca}{c:rM}{L L':List (List XC)}{vs:List XC}(h k off n fl cut g:Nat)(R:aL)(H:ah){m:Nat}(hvl:∀c∈vs,c.f7 0=true)(hm:L.length=m)(hk:L'[k]? = some vs)(hg:hs[g]? = some (.late L):=by exact rfl)(hh:hs[h]? = some (.late L'):=by exact rfl)(hgI:Nat.ble nI g=true:=by exact rfl)
 (hH:aO hs.length g m (.lsl h k off n fl cut) (.lsl g m off n fl cut) L vs 0 hs H:=by repeat' (first|exact aO.nil|refine aO.ghost ?_|refine aO.flat rfl ?_|refine aO.cells rfl (cU.same (d8 (by assumption) _ _)) ?_|refine aO.dead ?_)) (hR:bG g m (.lsl h k off n fl cut) (.lsl g m off n fl cut) al R:=by repeat' (first|exact bG.nil|refine bG.flat rfl ?_|refine bG.one rfl dF.uC ?_|refine bG.one rfl (dF.same (by first|trivial|decide|(intro h;first|exact absurd h (by decide)|omega))) ?_)) (hok:qq nI R H:=by exact mZ)
 (hx:WX P nt nI c R H K):WX P nt nI c al hs K:=
 WX.Tm hg hh hk (Nat.le_of_ble_eq_true hgI) hm hvl hH hR hok hx
def cy(L:List (List XC))(g:Nat)(c:XC)(vs:List XC)(n:Nat):Prop:=(n=0/\(c = .nils\/∃i,c = .lem i))\/∃k fl,n<=fl/\c = .lsl g k 0 n fl 0/\L[k]? = some vs
theorem cy.ok{L:List (List XC)}{g:Nat}{c:XC}{vs:List XC}{n m:Nat}(h:cy L g c vs n)(hg:g<m):c.ok m:=by
 rcases h with⟨_,rfl|⟨i,rfl⟩⟩|⟨k,fl,_,rfl,_⟩
 ·trivial
 ·trivial
 ·exact hg
theorem cy.aC{L:List (List XC)}{g:Nat}{c:XC}{vs:List XC}{n:Nat}(h:cy L g c vs n)(τ : Nat->Nat):cy L (τ g) (c.aC τ) vs n:=by
 rcases h with⟨h0,rfl|⟨i,rfl⟩⟩|⟨k,fl,h1,rfl,h2⟩
 ·exact .inl ⟨h0,.inl rfl⟩
 ·exact .inl ⟨h0,.inr ⟨i,rfl⟩⟩
 ·exact .inr ⟨k,fl,h1,rfl,h2⟩
theorem cy.id{L:List (List XC)}{g:Nat}{c:XC}{vs:List XC}{n:Nat}(h:cy L g c vs n){τ : Nat->Nat}(hg : τ g=g):c.aC τ = c:=by
 rcases h with⟨h0,rfl|⟨i,rfl⟩⟩|⟨k,fl,h1,rfl,h2⟩
 ·rfl
 ·rfl
 ·simp only[XC.aC,hg]
theorem ae.gO{τ : Nat->Nat}{al:aL}{t:Nat}{L:List (List XC)}{g:Nat}{c:XC}{vs:List XC}{n:Nat}{r:aL}(h:rg al t = .one c)(hs:cy L g c vs n)(hg : τ g=g)(hr:ae τ al r):ae τ al ((t,.one c)::r):=
 .cons (by rw[h];simp only[XV.aC,hs.id hg]) hr
section
variable {P:Program} {ops:Array Oper} {nt nI:Nat} {al:aL} {hs:ah} {o:Oper} {l:List Oper} {I:List aA} {K:List Ab->aL->ah->Prop} {d:Nat}
theorem ll{a:Operand}{t elem:TypeId}{L:List (List XC)}{g n:Nat}{c:XC}{vs:List XC}(hk:SK P ops nt I l ((d,.one (.int .i64 (n:Nat)))::al) hs fun bs=>K (quiet::bs))(ho:o.op = .call ⟨.builtin .len,#[a],#[t]⟩:=by exact rfl)(wn:Wn ops nt al o d:=by exact⟨rfl,rfl,rfl⟩)(ha:ag (rg al) a = .one c:=by exact rfl)(hc:cy L g c vs n:=by assumption)(hu:aG P t (.slice elem):=by infer_instance):SK P ops nt I (o::l) al hs K:=by
 refine SK.lift wn.e wn.l (fun _=>az.pure wn.w ?_) hk
 rcases hc with⟨h0,rfl|⟨i,rfl⟩⟩|⟨k,fl,h1,rfl,h2⟩
 ·subst h0;rw[ho];simp[aT,dv,ha,tv,hu.out]
 ·subst h0;rw[ho];simp[aT,dv,ha,tv,hu.out]
 ·rw[ho];simp[aT,dv,ha,tv,hu.out]
theorem sc{t:TypeId}{a b:Operand}{elem:TypeId}{s:Nat}{kd:IntKind}{z:Int}{L:List (List XC)}{g n:Nat}{c:XC}{vs:List XC}{p:Nat}(hk:∀k,L[k]? = some vs->SK P ops nt I l ((d,.one (.lpt g k p))::al) hs fun bs=>K (quiet::bs))(ho:o.op = .indexAddr t a b:=by exact rfl)(wn:Wn ops nt al o d:=by exact⟨rfl,rfl,rfl⟩)(hb:ag (rg al) b = .one (.int kd z):=by exact rfl)(ha:ag (rg al) a = .one c:=by exact rfl)(hc:cy L g c vs n:=by assumption)(hu:aG P t (.slice elem):=by infer_instance)(hs':aF P elem s:=by infer_instance)(hz:0<=z/\z<(n:Nat):=by first|omega|decide)(hp:z.toNat*s=p:=by exact n1):SK P ops nt I (o::l) al hs K:=by
 rcases hc with⟨h0,_⟩|⟨k,fl,h1,rfl,h2⟩
 ·omega
 ·exact sP (hk k h2) ho wn hb ha hu hs' hz (by rw[Nat.zero_add];exact hp)
theorem UG{t e:TypeId}{a:Operand}{lo hi:Option Operand}{s:Nat}{L:List (List XC)}{g n q:Nat}{c:XC}{vs:List XC}{z w:Int}(hk:∀c',cy L g c' vs q->SK P ops nt I l ((d,.one c')::al) hs fun bs=>K (quiet::bs))(ho:o.op = .slice t a lo hi .none:=by exact rfl)(hu:aG P t (.slice e):=by infer_instance)(hs':aF P e s:=by infer_instance)(wn:Wn ops nt al o d:=by exact⟨rfl,rfl,rfl⟩)(ha:ag (rg al) a = .one c:=by exact rfl)(hc:cy L g c vs n:=by assumption)(hl:tn (lo.map (ag (rg al))) 0=some z:=by exact rfl)(hh:tn (hi.map (ag (rg al))) (n:Nat)=some w:=by exact rfl)(hp:z=0:=by first|exact rfl|omega)(hq:w=(q:Nat):=by first|exact rfl|omega)(hb:q<=n:=by omega):SK P ops nt I (o::l) al hs K:=by
 subst hp hq
 rcases hc with⟨h0,h1⟩|⟨k,fl,h1,rfl,h2⟩
 ·obtain rfl:q=0:=by omega
  subst h0;have e1:=rj (y:=0) (p:=0) hl (by omega);have e2:=ri (y:=0) (q:=0) hh (by omega);refine SK.lift wn.e wn.l (fun _=>az.pure wn.w ?_) (hk c (.inl ⟨rfl,h1⟩))
  rcases h1 with rfl|⟨i,rfl⟩
  ·rw[ho];simp only[aT,nr,hu.out,ha,dU,Option.map_none,e1,e2,hs'.out]
  ·rw[ho];simp only[aT,nr,hu.out,ha,dU,Option.map_none,e1,e2,hs'.out]
 ·exact Q1 (p:=0) (q:=q) (hk _ (.inr ⟨k,fl,by omega,by simp,h2⟩)) ho hu hs' wn ha hl hh rfl rfl ⟨Nat.zero_le _,by omega,.inl rfl⟩
theorem Nt{t1 e1:TypeId}(hu:P.underlying t1=some (.slice e1)){b:Operand}{L:List (List XC)}{g n:Nat}{c:XC}{vs:List XC}{sz:Nat}(hb:ag (rg al) b = .one c)(hc:cy L g c vs n)(hsz:0<sz)(hi:hs[g]? = some (.late L))(hn:n*sz<=vs.length){r:List XC}(hr:((vs.map (·.self g)).take (n*sz))=r):∀M,aZ M hs->kQ P t1 sz (ag (rg al) b) M=some (n,r):=by
 rcases hc with⟨h0,h1⟩|⟨k,fl,h1,rfl,h2⟩
 ·subst h0;intro M hM;rw[Nat.zero_mul,List.take_zero]at hr;subst hr;rw[hb];unfold kQ
  rcases h1 with rfl|⟨i,rfl⟩<;>simp only[hu]
 ·exact Ns hu hb hsz hi h2 (by omega) (by rw[List.drop_zero];exact hr)
end
end Go.Xm
namespace Go.Xm
open Go.ChangeShapes Go.WideShapes Go.ChangeAt Go.RowKit Go.Deep
def Gk:Value->Nat×Nat×Nat
 | .slice (some a) _ cap=>(a.block,a.off,cap)
 | _=>(0,0,0)
def jK:Value->Nat
 | .slice _ n _=>n
 | _=>0
def Ex(w:World)(v:Value):List Int:=(List.range (jK v)).map fun i=>numOf (w.cell? ⟨(Gk v).1,(Gk v).2.1+i,none⟩)
theorem Ey(w:World)(v:Value):(Ex w v).length=jK v:=by simp[Ex]
theorem oL{a:Addr}(h:a.spot=none)(n:Nat):a.add n=⟨a.block,a.off+n,none⟩:=by
 obtain⟨b,o,s⟩:=a;simp only at h;subst h;unfold Addr.add
 by_cases h0:n=0
 ·rw[if_pos h0,h0,Nat.add_zero]
 ·rw[if_neg h0]
structure pO(w:World)(k:IntKind)(v:Value):Prop where
 sl:v = .slice none 0 0\/(∃a cap,v = .slice (some a) 0 cap)\/∃b off n cap,0<n/\n<=cap/\n<=9223372036854775807/\v = .slice (some ⟨b,off,none⟩) n cap
 num:∀i,i<jK v->∃z,w.cell? ⟨(Gk v).1,(Gk v).2.1+i,none⟩=some (.int k z)/\(Lit.int k z).wf=true
theorem Gl{H:Type}{enc:TypeId×Value->H}{P:Program}{w:World}{base:Nat}{spare:Nat->Bool}{held:Bool}{t e:TypeId}{k:IntKind}(ht:P.underlying t=some (.slice e))(he:P.underlying e=some (.int k))(hC:P.cellsOf e=1){v:Value}{fuel:Nat}{x:DataW H×List MemPlace}(hf:DataW.trod enc P w base spare held fuel t [v]=some x):pO w k v:=by
 rcases open_slice1 ht hC hf with⟨hcs,_⟩|⟨a,len,cap,m,n,V,D,Pl,hcs,_,hlc,hcm,hm,_,hall⟩
 ·simp only[List.cons.injEq,and_true]at hcs;subst hcs;exact⟨.inl rfl,fun i hi=>absurd hi (Nat.not_lt_zero i)⟩
 ·simp only [List.cons.injEq,and_true]at hcs;subst hcs;have hlm:len<=m:=by rw[hm];split<;>omega
  by_cases h0:len=0
  ·subst h0;exact⟨.inr (.inl ⟨a,cap,rfl⟩),fun i hi=>absurd hi (Nat.not_lt_zero i)⟩
  ·have hspot:a.spot=none:=by
    have h1:=(hall 0 (by omega)).1;rw[show a.add 0=a from rfl]at h1;unfold World.cell? at h1
    cases hs:a.spot with
    | none=>rfl
    | some s=>
      rw[hs]at h1;split at h1
      ·simp at h1
      ·cases h1
   refine⟨.inr (.inr ⟨a.block,a.off,len,cap,by omega,hlc,by unfold maxLen at hcm;omega,?_⟩),fun i hi=>?_⟩
   ·obtain⟨b,o,s⟩:=a;simp only at hspot;subst hspot;rfl
   ·have hi:i<len:=hi;obtain⟨h1,h2⟩:=hall i (by omega);rw[oL hspot]at h1;obtain⟨z,hz,_,hwf⟩:=DataW.trod_int he h2;simp only[List.cons.injEq,and_true]at hz;rw[hz]at h1;exact⟨z,h1,hwf⟩
theorem Ok{w:World}{kd:IntKind}{v:Value}(hv:pO w kd v):∀z∈Ex w v,(Lit.int kd z).wf=true:=fun z hz=>by
 obtain⟨i,hi,rfl⟩:=List.mem_map.1 hz;obtain⟨y,hy,hw⟩:=hv.num i (List.mem_range.1 hi);rw[hy];exact hw
theorem Nq(v:Value):Bh v = .slice .none 0 0\/∃a cap,Bh v = .slice (some a) 0 cap:=by
 unfold Bh;split
 ·exact .inr ⟨_,_,rfl⟩
 ·exact .inl rfl
variable [av]
def zQ(k n:Nat):XC:=if n=0 then .lem k else .lsl 0 k 0 n n 0
theorem Ec{k n m:Nat}(h:k<m):(zQ k n).f7 m=true:=by
 unfold zQ;split
 ·rfl
 ·simp only[XC.f7,Nat.blt_eq];exact h
theorem Cj{L:List (List XC)}{k n:Nat}{vs:List XC}(h:L[k]? = some vs):cy L 0 (zQ k n) vs n:=by
 unfold zQ;split
 ·rename_i h0;exact .inl ⟨h0,.inr ⟨k,rfl⟩⟩
 ·exact .inr ⟨k,n,Nat.le_refl _,rfl,h⟩
theorem cy.self{L:List (List XC)}{c:XC}{vs:List XC}{n:Nat}(h:cy L 0 c vs n)(g:Nat):cy L g (c.self g) vs n:=by
 rcases h with⟨h0,rfl|⟨i,rfl⟩⟩|⟨k,fl,h1,rfl,h2⟩
 ·exact .inl ⟨h0,.inl rfl⟩
 ·exact .inl ⟨h0,.inr ⟨i,rfl⟩⟩
 ·exact .inr ⟨k,fl,h1,rfl,h2⟩
theorem Eb{w:World}{kd:IntKind}{v:Value}(hv:pO w kd v){k g:Nat}(ha:av.val k=Bh v){β : Env}(h1:gV (β.bp g) k=(Gk v).1)(h2:dX (β.bp g) k=(Gk v).2.1)(h3:mc (β.bp g) k=(Gk v).2.2):((zQ k (jK v)).self g).den β = v:=by
 rcases hv.sl with rfl|⟨a,cap,rfl⟩|⟨b,off,n,cap,hn,hc,hm,rfl⟩
 ·show Bh (av.val k)=_;rw[ha];rfl
 ·show Bh (av.val k)=_;rw[ha];rfl
 ·have e:zQ k (jK (.slice (some ⟨b,off,none⟩) n cap)) = .lsl 0 k 0 n n 0:=if_neg (by show n≠0;omega);rw[e];show Value.slice (some ⟨gV (β.bp g) k,dX (β.bp g) k+0,none⟩) n (max n (mc (β.bp g) k-0))=_;rw[h1,h2,h3];show Value.slice (some ⟨b,off+0,none⟩) n (max n (cap-0))=_;rw[Nat.add_zero,Nat.sub_zero,Nat.max_eq_right hc]
theorem Ez{w:World}{kd:IntKind}{v:Value}(hv:pO w kd v){j:Nat}{c:XC}(hj:(il kd (Ex w v))[j]? = some c)(β : Env)(g:Nat):w.cell? ⟨(Gk v).1,(Gk v).2.1+j,none⟩=some ((c.self g).den β):=by
 have hjl:j<jK v:=by
  have:=(List.getElem?_eq_some_iff.1 hj).1;simpa [il,Ex]using this
 simp only[il,Ex,List.map_map,List.getElem?_map,List.getElem?_range hjl,Option.map_some,Option.some.injEq]at hj;subst hj;obtain⟨z,hz,_⟩:=hv.num j hjl;show _=some (Value.int kd (numOf (w.cell? _)));rw[hz];rfl
theorem Jm{β : Env}{w:World}{g:Nat}{L:List (List XC)}(hlok:∀(k:Nat) (cs:List XC),L[k]? = some cs->∀c∈cs,c.f7 L.length=true)(hcell:∀(k:Nat) (cs:List XC),L[k]? = some cs->∀(j:Nat) (c:XC),cs[j]? = some c->w.cell? ⟨gV (β.bp g) k,dX (β.bp g) k+j,none⟩=some ((c.self g).den β)):DN β w g L:=fun k cs hk=>by
 refine⟨hlok k cs hk,fun hne=>?_⟩
 have hlen:0<(cs.map (·.self g)).length:=by
  rw[List.length_map];exact List.length_pos_iff.2 hne
 obtain⟨e,sz,cs',fr,h1,h2,h3,h4,h5,h6⟩:=xS (β := β) (n:=g+1) (W:=w) (b:=gV (β.bp g) k) (lo:=dX (β.bp g) k) (vs:=cs.map (·.self g)) hlen (fun j c hj=>by
  rw[List.getElem?_map]at hj;obtain⟨d,hd,rfl⟩:=Option.map_eq_some_iff.1 hj
  exact hcell k cs hk j d hd) (fun c hc=>by
  obtain⟨d,hd,rfl⟩:=List.mem_map.1 hc
  exact XC.zb (hlok k cs hk d hd) (Nat.lt_succ_self g))
 refine⟨cs',e,fr,h1,?_⟩;rw[List.length_map,List.map_map]at h6;exact h6
end Go.Xm
namespace Go.Xm
variable [av]
variable {P:Program} {ops:Array Oper} {nt nI:Nat} {al:aL} {hs:ah} {o:Oper} {l:List Oper} {L:List aA} {K:List Ab->aL->ah->Prop} {d:Nat}
theorem sL{zs cs:List XC}{s k:Nat}{t e:TypeId}{parts:Array (Nat×Operand)}{n:Nat}{hs':ah}(hk:SK P ops nt L l ((d,.one (.slice n 0 k (.exact k)))::al) hs' fun bs=>K (⟨true,.none,[n]⟩::bs))(ho:o.op = .buildSlice t k parts:=by exact rfl)(hu:aG P t (.slice e):=by infer_instance)(hz:aK P e zs:=by infer_instance)(hse:aF P e s:=by infer_instance)(hsm:k*s<=16777216/\0<zs.length:=by exact⟨Nat.le_of_ble_eq_true rfl,Nat.le_of_ble_eq_true rfl⟩)(wn:Wn ops nt al o d:=by exact⟨rfl,rfl,rfl⟩)(hf:gI (fun i=>some (i*s,s)) (eE zs (k*s)) (parts.toList.map fun p=>(p.1,ag (rg al) p.2))=some cs:=by exact rfl)(hn:hs.length=n:=by exact n2)(hb:Nat.blt n Mem.bound=true:=by exact rfl)(hh:hs++[.cells cs e false false]=hs':=by exact n3):SK P ops nt L (o::l) al hs K:=by
 subst hn hh;refine SK.lift wn.e wn.l (fun _=>?_) hk;intro m hm;obtain⟨m',h1,h2,h3⟩:=hm.push (.cells cs e false false) (by simpa [Nat.blt_eq]using hb);refine⟨m',?_,h2,h3⟩;unfold iT;rw[wn.w];refine bW (by rw[ho];rfl) (by rw[ho];rfl) (by rw[ho];rfl) ?_;rw[ho];simp only[bX,eo,dk,hu.out,hse.out,hz.out,h1,hm.n,hf];rw[if_pos hsm]
theorem TG{t t1 e e1:TypeId}{sz len:Nat}{a b:Operand}{zs:List XC}(i n:Nat){j:Nat}{cap:nQ}(cs:List XC){vs:List XC}{et:TypeId}{opn ro:Bool}{N:Nat}{hs':ah}(hk:SK P ops nt L l ((d,.one (.slice N 0 (n+len) (.toEnd sz)))::al) hs' fun bs=>K (⟨true,.none,[i,N]⟩::bs))(ho:o.op = .call ⟨.builtin .append,#[a,b],#[t,t1]⟩:=by exact rfl)(hu:aG P t (.slice e):=by infer_instance)(hu1:aG P t1 (.slice e1):=by infer_instance)(hz:aK P e zs:=by infer_instance)(hI:TI P e sz:=by infer_instance)(wn:Wn ops nt al o d:=by exact⟨rfl,rfl,rfl⟩)(hsz:zs.length=sz/\0<sz:=by exact⟨rfl,Nat.le_of_ble_eq_true rfl⟩)(ha:ag (rg al) a=dV i n sz:=by exact rfl)(hi:hs[i]? = some (bu e cs):=by exact rfl)(hb:ag (rg al) b = .one (.slice j 0 len cap):=by exact rfl)(hj:hs[j]? = some (.cells vs et opn ro):=by exact rfl)(hl:vs.length=len*sz:=by exact rfl)(hn:cs.length=n*sz:=by exact rfl)(hm:0<len/\n+len<=2000000000:=by omega)(hN:hs.length=N:=by exact n2)(hbd:Nat.blt N Mem.bound=true:=by exact rfl)(hh:hs.set i .dead++[.cells (cs++vs) e true false]=hs':=by first|(simp only[List.set_cons_succ,List.set_cons_zero,List.cons_append,List.nil_append];exact rfl)|exact rfl):SK P ops nt L (o::l) al hs K:=
 SX (gd hb hj hl) hk ho hu hz hI wn hsz ha hi hn hm hN hbd hh
end Go.Xm
namespace Go.Xm
variable [av]
section
variable {P:Program} {ops:Array Oper} {nt nI:Nat} {al:aL} {hs:ah} {o:Oper} {l:List Oper} {L:List aA} {K:List Ab->aL->ah->Prop} {d:Nat}
theorem Ss{t t1 e:TypeId}{sz:Nat}{a b:Operand}{zs:List XC}{i n:Nat}{cs ds:List XC}(hsrc:∀M,aZ M hs->kQ P t1 sz (ag (rg al) b) M=some (0,ds))(hk:SK P ops nt L l ((d,dV i n sz)::al) hs fun bs=>K (⟨true,.none,[]⟩::bs))(ho:o.op = .call ⟨.builtin .append,#[a,b],#[t,t1]⟩:=by exact rfl)(hu:aG P t (.slice e):=by infer_instance)(hz:aK P e zs:=by infer_instance)(hI:TI P e sz:=by infer_instance)(wn:Wn ops nt al o d:=by exact⟨rfl,rfl,rfl⟩)(hsz:zs.length=sz/\0<sz:=by exact⟨rfl,Nat.le_of_ble_eq_true rfl⟩)(ha:ag (rg al) a=dV i n sz:=by exact rfl)(hi:hs[i]? = some (bu e cs):=by exact rfl)(hn:cs.length=n*sz)(hm:n<=2000000000):SK P ops nt L (o::l) al hs K:=by
 obtain⟨ti,hti,rfl,hby⟩:=hI.get;obtain⟨z1,z2⟩:=hsz;have hbytes:(n+0)*ti.bytes<=140737488355328:=Nat.le_trans (Nat.mul_le_mul_left _ hby) (by omega);refine SK.lift wn.e wn.l (fun _=>?_) hk;intro M hM;refine⟨M,?_,hM,fun _ _=>rfl⟩;have hx:=hsrc M hM;unfold iT;rw[wn.w];refine bW (by rw[ho];rfl) (by rw[ho];rfl) (by rw[ho];rfl) ?_;rw[ho]
 by_cases h0:n=0
 ·subst h0;have ha':ag (rg al) a = .one .nils:=ha;simp only[bX,gP,dk,hu.out,hti,hz.out,ha',hx,List.getElem?_toArray,List.getElem?_cons_zero,List.getElem?_cons_succ];rw[if_pos ⟨z1,z2⟩];rfl
 ·have ha':ag (rg al) a = .one (.slice i 0 n (.toEnd ti.size)):=ha.trans (c_ h0)
  have hne:cs≠[]:=fun e=>by
   subst e;have:=Nat.mul_pos (Nat.pos_of_ne_zero h0) z2;simp at hn;omega
  have hi':=hM.at hi;rw[bJ hne]at hi';simp only[bX,gP,dk,hu.out,hti,hz.out,ha',hx,List.getElem?_toArray,List.getElem?_cons_zero,List.getElem?_cons_succ,hi'];rw[if_pos ⟨z1,z2⟩,if_pos ⟨trivial,by omega,hbytes⟩,c_ h0];exact if_pos (show 0+n*ti.size<=cs.length by omega)
theorem SZ{t t1 e e1:TypeId}{sz len:Nat}{a b:Operand}{zs:List XC}(i n:Nat){j:Nat}{cp cap:nQ}{cs vs:List XC}{et:TypeId}{opn opn' ro:Bool}{N:Nat}{hs1 hs2:ah}(hcap:cp = .exact n\/(cp = .toEnd sz/\opn=true/\0<n))(h1:SK P ops nt L l ((d,.one (.slice N 0 (n+len) (.toEnd sz)))::al) hs1 fun bs=>K (⟨true,.none,[N]⟩::bs))(h2:SK P ops nt L l ((d,.one (.slice N 0 (n+len) (.toEnd sz)))::al) hs2 fun bs=>K (⟨true,.none,[i,N]⟩::bs))(ho:o.op = .call ⟨.builtin .append,#[a,b],#[t,t1]⟩:=by exact rfl)(hu:aG P t (.slice e):=by infer_instance)(hu1:aG P t1 (.slice e1):=by infer_instance)(hz:aK P e zs:=by infer_instance)(hI:TI P e sz:=by infer_instance)(wn:Wn ops nt al o d:=by exact⟨rfl,rfl,rfl⟩)(hsz:zs.length=sz/\0<sz:=by exact⟨rfl,Nat.le_of_ble_eq_true rfl⟩)(ha:ag (rg al) a = .one (.slice i 0 n cp):=by exact rfl)(hi:hs[i]? = some (.cells cs e opn false):=by exact rfl)(hb:ag (rg al) b = .one (.slice j 0 len cap):=by exact rfl)(hj:hs[j]? = some (.cells vs et opn' ro):=by exact rfl)(hl:vs.length=len*sz:=by exact rfl)(hn:cs.length=n*sz)(hm:0<len/\n+len<=2000000000:=by omega)(hN:hs.length=N:=by exact n2)(hbd:Nat.blt N Mem.bound=true:=by exact rfl)(hh1:hs++[.cells (cs++vs) e true false]=hs1:=by exact n3)(hh2:hs.set i .dead++[.cells (cs++vs) e true false]=hs2:=by first|(simp only[List.set_cons_succ,List.set_cons_zero,List.cons_append,List.nil_append];exact rfl)|exact rfl):SK P ops nt L (o::l) al hs K:=by
 have hsrc:∀M,aZ M hs->kQ P t1 sz (ag (rg al) b) M=some (len,vs):=gd (hu:=hu1) hb hj hl
 rcases hcap with rfl|⟨rfl,rfl,h0⟩
 ·subst hN hh1;obtain⟨ti,hti,rfl,hby⟩:=hI.get;obtain⟨z1,z2⟩:=hsz;have hbytes:(n+len)*ti.bytes<=140737488355328:=Nat.le_trans (Nat.mul_le_mul_left _ hby) (by omega);refine SK.lift wn.e wn.l (fun _=>?_) h1;intro M hM;obtain⟨m',p1,p2,p3⟩:=hM.push (.cells (cs++vs) e true false) (by simpa [Nat.blt_eq]using hbd);refine⟨m',?_,p2,p3⟩;unfold iT;rw[wn.w];refine bW (by rw[ho];rfl) (by rw[ho];rfl) (by rw[ho];rfl) ?_;rw[ho];have e2:0+n*ti.size<=cs.length:=by omega
  have e3:(cs.drop 0).take (n*ti.size)++vs=cs++vs:=by
   rw[List.drop_zero,List.take_of_length_le (by omega)]
  simp only[bX,gP,dk,hu.out,hti,hz.out,ha,hsrc M hM,List.getElem?_toArray,List.getElem?_cons_zero,List.getElem?_cons_succ,hM.at hi];rw[if_pos ⟨z1,z2⟩,if_neg (show¬n+len<=n by omega),if_pos ⟨by omega,hbytes⟩,if_pos e2,e3,p1,hM.n]
 ·have hpos:0<n*sz:=Nat.mul_pos h0 hsz.2;have hne:cs≠[]:=fun e=>by rw[e]at hn;simp at hn;omega
  exact SX (cs:=cs) hsrc h2 ho hu hz hI wn hsz (ha.trans (c_ (by omega)).symm) (hi.trans (congrArg some (bJ hne).symm)) hn hm hN hbd hh2
theorem se{t:TypeId}{a:Operand}{g k off:Nat}{LL:List (List XC)}{cs:List XC}{c x:XC}(hk:SK P ops nt L l ((d,.one x)::al) hs fun bs=>K (⟨false,some g,[]⟩::bs))(hL:LL[k]? = some cs)(hc:cs[off]? = some c)(hx:c.self g=x)(ho:o.op = .load t a:=by exact rfl)(ht:cE P t:=by infer_instance)(wn:Wn ops nt al o d:=by exact⟨rfl,rfl,rfl⟩)(ha:ag (rg al) a = .one (.lpt g k off):=by exact rfl)(hi:hs[g]? = some (.late LL):=by exact rfl):SK P ops nt L (o::l) al hs K:=by
 subst hx;exact TO hk hL hc ho ht wn ha hi
theorem tW{t1 e1:TypeId}[hu:aG P t1 (.slice e1)]{b:Operand}{LL:List (List XC)}{g:Nat}{c:XC}{kd:IntKind}{p:List Int}(hb:ag (rg al) b = .one c)(hc:cy LL g c (il kd p) p.length)(hi:hs[g]? = some (.late LL)):∀M,aZ M hs->kQ P t1 1 (ag (rg al) b) M=some (p.length,il kd p):=
 Nt hu.out hb hc (by decide) hi (by rw[br];omega) (by rw[dM (gT kd p 0),List.take_of_length_le (by rw[br];omega)])
end
theorem cy.back{L:List (List XC)}{i:Nat}{c:XC}{vs:List XC}{n:Nat}(h:cy L i c vs n)(j:Nat)(τ : Nat->Nat)(hj : τ j=i):∃c0,cy L j c0 vs n/\c0.aC τ = c:=by
 rcases h with⟨h0,rfl|⟨a,rfl⟩⟩|⟨k,fl,h1,rfl,h2⟩
 ·exact⟨.nils,.inl ⟨h0,.inl rfl⟩,rfl⟩
 ·exact⟨.lem a,.inl ⟨h0,.inr ⟨a,rfl⟩⟩,rfl⟩
 ·exact⟨.lsl j k 0 n fl 0,.inr ⟨k,fl,h1,rfl,h2⟩,by simp only[XC.aC,hj]⟩
theorem stM{nI:Nat}{al:aL}{hs:ah}(le:Nat.ble nI hs.length=true:=by exact rfl)(bnd:Nat.blt hs.length Mem.bound=true:=by exact rfl)(objs:ak hs.length hs:=by repeat' (first|exact ak.nil|refine ak.flat ?_|refine ak.cons (by first|(simp[aj.bt,XC.ok,aJ];done)|(simp[aj.bt,XC.ok,aJ, *];done)) ?_))(ie:jJ hs.length al:=by repeat' (first|exact jJ.nil|refine jJ.flat ?_|refine jJ.cons (by first|exact trivial|exact iF (Nat.le_of_ble_eq_true rfl)|exact cy.ok (by assumption) (Nat.le_of_ble_eq_true rfl)|exact cL.ok ‹_› (Nat.le_of_ble_eq_true rfl)|(simp[XV.bt,XC.ok,X1.ok];done)|(simp[XV.bt,XC.ok,X1.ok,aJ, *];done)) ?_)):qq nI al hs:=⟨le,bnd,objs,ie⟩
structure rS(p:Prop):Prop where
 out:p
section
variable {P:Program} {nt nI:Nat} {al:aL} {hs:ah}
theorem eY(id:Nat){ops:Array Oper}{dr:Bool}{b:Code}{K:ca}(h:rS (WX P nt nI (.code (.seq (.region id ops dr) b)) al hs K)):WX P nt nI (.code (.seq (.region id ops dr) b)) al hs K:=h.out
theorem lW(id:Nat){ops:Array Oper}{dr:Bool}{x b:Code}{K:ca}(h:rS (WX P nt nI (.code (.seq (.seq (.region id ops dr) x) b)) al hs K)):WX P nt nI (.code (.seq (.seq (.region id ops dr) x) b)) al hs K:=h.out
theorem qJ(id:Nat){ops:Array Oper}{dr:Bool}{K:ca}(h:rS (WX P nt nI (.code (.region id ops dr)) al hs K)):WX P nt nI (.code (.region id ops dr)) al hs K:=h.out
end
def lE(L:List (List XC))(cs:List XC)(ps:List (List Int)):Prop:=
 cs.length=ps.length/\∀i,i<ps.length->cy L 0 (cs.getD i .nils) (il .u8 (ps.getD i [])) (ps.getD i []).length
structure mA where
 lost:Bool
 c:XC
instance:Inhabited mA:=⟨⟨false,.nils⟩⟩
def cK(f:mA):List XC:=[.bool f.lost,f.c]
instance:zT cK 2:=⟨fun _=>rfl,by decide⟩
structure Fa where
 lost:Bool
 mask:List Int
instance:Inhabited Fa:=⟨⟨false,[]⟩⟩
def gm(L:List (List XC))(l:List mA)(fs:List Fa):Prop:=
 l.length=fs.length/\∀i,i<fs.length->(l.getD i default).lost=(fs.getD i default).lost/\cy L 0 (l.getD i default).c (il .u8 (fs.getD i default).mask) (fs.getD i default).mask.length
theorem D2{L:List (List XC)}{cs:List XC}{ps:List (List Int)}(h:lE L cs ps){i:Nat}(hi:i<ps.length)(g:Nat):∃c x,cs[i]? = some c/\c.self g=x/\cy L g x (il .u8 (ps.getD i [])) (ps.getD i []).length:=by
 have hi2:i<cs.length:=by rw[h.1];exact hi
 refine⟨cs.getD i .nils,_,?_,rfl,(h.2 i hi).self g⟩;rw[List.getD_eq_getElem?_getD,List.getElem?_eq_getElem hi2];rfl
theorem IQ{L:List (List XC)}{l:List mA}{fs:List Fa}(h:gm L l fs){i:Nat}(hi:i<fs.length)(g:Nat):∃x,i<l.length/\(cK (l.getD i default)).map (·.self g) = [.bool (fs.getD i default).lost,x]/\cy L g x (il .u8 (fs.getD i default).mask) (fs.getD i default).mask.length:=by
 have hi2:i<l.length:=by rw[h.1];exact hi
 obtain⟨h1,h2⟩:=h.2 i hi;refine⟨_,hi2,?_,h2.self g⟩;rw[<-h1];rfl
end Go.Xm
namespace Go.Proofs.YthdciapjllppjaaGreat
open Go.Xm
instance:aG prog 3 (.int .i64):=⟨Tryz.underlying3⟩
instance:aF prog 3 1:=⟨by kernel_rfl⟩
instance:TI prog 3 1:=⟨by kernel_rfl⟩
instance:cE prog 3:=⟨by kernel_rfl⟩
instance:aK prog 3 ([.int .i64 0]):=⟨by kernel_rfl⟩
instance:aG prog 4 (.bool):=⟨Tryz.underlying4⟩
instance:aF prog 4 1:=⟨by kernel_rfl⟩
instance:TI prog 4 1:=⟨by kernel_rfl⟩
instance:cE prog 4:=⟨by kernel_rfl⟩
instance:aK prog 4 ([.bool false]):=⟨by kernel_rfl⟩
instance:aG prog 5 (.int .u8):=⟨Tryz.underlying5⟩
instance:aF prog 5 1:=⟨by kernel_rfl⟩
instance:TI prog 5 1:=⟨by kernel_rfl⟩
instance:cE prog 5:=⟨by kernel_rfl⟩
instance:aK prog 5 ([.int .u8 0]):=⟨by kernel_rfl⟩
instance:aG prog 9 (.string):=⟨Tryz.underlying9⟩
instance:aG prog 22 (.array 64 5):=⟨Tryz.underlying22⟩
instance:aF prog 22 64:=⟨by kernel_rfl⟩
instance:da prog 22:=⟨by kernel_rfl⟩
instance:aK prog 22 ((ti .u8 64 fun _=>0)):=⟨by kernel_rfl⟩
instance:cH prog 24 [(0,1),(1,64),(65,64)]:=⟨_,Tryz.underlying24,by kernel_rfl⟩
instance:aF prog 24 129:=⟨by kernel_rfl⟩
instance:da prog 24:=⟨by kernel_rfl⟩
instance:aK prog 24 ([.bool false]++(ti .u8 64 fun _=>0)++(ti .u8 64 fun _=>0)):=⟨by kernel_rfl⟩
instance:bH prog 24 0 4 0:=⟨by kernel_rfl⟩
instance:bH prog 24 1 22 1:=⟨by kernel_rfl⟩
instance:bH prog 24 2 22 65:=⟨by kernel_rfl⟩
instance:cH prog 26 [(0,1),(1,1),(2,129)]:=⟨_,Tryz.underlying26,by kernel_rfl⟩
instance:aF prog 26 131:=⟨by kernel_rfl⟩
instance:da prog 26:=⟨by kernel_rfl⟩
instance:aK prog 26 ([.int .i64 0,.int .i64 0,.bool false]++(ti .u8 64 fun _=>0)++(ti .u8 64 fun _=>0)):=⟨by kernel_rfl⟩
instance:bH prog 26 0 3 0:=⟨by kernel_rfl⟩
instance:bH prog 26 1 3 1:=⟨by kernel_rfl⟩
instance:bH prog 26 2 24 2:=⟨by kernel_rfl⟩
instance:aG prog 27 (.slice 84):=⟨Tryz.underlying27⟩
instance:aF prog 27 1:=⟨by kernel_rfl⟩
instance:cE prog 27:=⟨by kernel_rfl⟩
instance:aG prog 28 (.slice 99):=⟨Tryz.underlying28⟩
instance:aF prog 28 1:=⟨by kernel_rfl⟩
instance:cE prog 28:=⟨by kernel_rfl⟩
instance:cH prog 30 [(0,131),(131,1),(132,1)]:=⟨_,Tryz.underlying30,by kernel_rfl⟩
instance:aF prog 30 133:=⟨by kernel_rfl⟩
instance:da prog 30:=⟨by kernel_rfl⟩
instance:aK prog 30 ([.int .i64 0,.int .i64 0,.bool false]++(ti .u8 64 fun _=>0)++(ti .u8 64 fun _=>0)++[.nils,.nils]):=⟨by kernel_rfl⟩
instance:bH prog 30 0 26 0:=⟨by kernel_rfl⟩
instance:bH prog 30 1 27 131:=⟨by kernel_rfl⟩
instance:bH prog 30 2 28 132:=⟨by kernel_rfl⟩
instance:aG prog 31 (.slice 4):=⟨Tryz.underlying31⟩
instance:aF prog 31 1:=⟨by kernel_rfl⟩
instance:cE prog 31:=⟨by kernel_rfl⟩
instance:aG prog 32 (.slice 5):=⟨Tryz.underlying32⟩
instance:aF prog 32 1:=⟨by kernel_rfl⟩
instance:TI prog 32 1:=⟨by kernel_rfl⟩
instance:cE prog 32:=⟨by kernel_rfl⟩
instance:aK prog 32 ([.nils]):=⟨by kernel_rfl⟩
instance:aG prog 34 (.slice 87):=⟨Tryz.underlying34⟩
instance:aF prog 34 1:=⟨by kernel_rfl⟩
instance:cE prog 34:=⟨by kernel_rfl⟩
instance:cH prog 36 [(0,131),(131,1)]:=⟨_,Tryz.underlying36,by kernel_rfl⟩
instance:aF prog 36 132:=⟨by kernel_rfl⟩
instance:da prog 36:=⟨by kernel_rfl⟩
instance:aK prog 36 ([.int .i64 0,.int .i64 0,.bool false]++(ti .u8 64 fun _=>0)++(ti .u8 64 fun _=>0)++[.nils]):=⟨by kernel_rfl⟩
instance:bH prog 36 0 26 0:=⟨by kernel_rfl⟩
instance:bH prog 36 1 34 131:=⟨by kernel_rfl⟩
instance:aG prog 38 (.slice 32):=⟨Tryz.underlying38⟩
instance:aG prog 42 (.slice 3):=⟨Tryz.underlying42⟩
instance:aF prog 42 1:=⟨by kernel_rfl⟩
instance:cE prog 42:=⟨by kernel_rfl⟩
instance:aF prog 48 4:=⟨by kernel_rfl⟩
instance:da prog 48:=⟨by kernel_rfl⟩
instance:bH prog 48 0 3 0:=⟨by kernel_rfl⟩
instance:bH prog 48 1 4 1:=⟨by kernel_rfl⟩
instance:bH prog 48 2 4 2:=⟨by kernel_rfl⟩
instance:bH prog 48 3 3 3:=⟨by kernel_rfl⟩
instance:cH prog 50 [(0,4),(4,1),(5,1),(6,1),(7,1)]:=⟨_,Tryz.underlying50,by kernel_rfl⟩
instance:aF prog 50 8:=⟨by kernel_rfl⟩
instance:da prog 50:=⟨by kernel_rfl⟩
instance:aK prog 50 ([.int .i64 0,.bool false,.bool false,.int .i64 0,.int .i64 0,.int .i64 0,.nils,.nils]):=⟨by kernel_rfl⟩
instance:bH prog 50 0 48 0:=⟨by kernel_rfl⟩
instance:bH prog 50 1 3 4:=⟨by kernel_rfl⟩
instance:bH prog 50 2 3 5:=⟨by kernel_rfl⟩
instance:bH prog 50 3 32 6:=⟨by kernel_rfl⟩
instance:bH prog 50 4 32 7:=⟨by kernel_rfl⟩
instance:aG prog 63 (.slice 125):=⟨Tryz.underlying63⟩
instance:aG prog 65 (.slice 69):=⟨Tryz.underlying65⟩
instance:cH prog 69 [(0,1),(1,1)]:=⟨_,Tryz.underlying69,by kernel_rfl⟩
instance:aF prog 69 2:=⟨by kernel_rfl⟩
instance:TI prog 69 2:=⟨by kernel_rfl⟩
instance:da prog 69:=⟨by kernel_rfl⟩
instance:aK prog 69 ([.bool false,.nils]):=⟨by kernel_rfl⟩
instance:bH prog 69 0 4 0:=⟨by kernel_rfl⟩
instance:bH prog 69 1 32 1:=⟨by kernel_rfl⟩
instance:aG prog 70 (.slice 75):=⟨Tryz.underlying70⟩
instance:cH prog 75 [(0,1),(1,1),(2,1)]:=⟨_,Tryz.underlying75,by kernel_rfl⟩
instance:aF prog 75 3:=⟨by kernel_rfl⟩
instance:TI prog 75 3:=⟨by kernel_rfl⟩
instance:da prog 75:=⟨by kernel_rfl⟩
instance:aK prog 75 ([.int .i64 0,.int .i64 0,.nils]):=⟨by kernel_rfl⟩
instance:bH prog 75 2 31 2:=⟨by kernel_rfl⟩
instance:aG prog 77 (.slice 79):=⟨Tryz.underlying77⟩
instance:aG prog 79 (.array 2 3):=⟨Tryz.underlying79⟩
instance:aF prog 79 2:=⟨by kernel_rfl⟩
instance:TI prog 79 2:=⟨by kernel_rfl⟩
instance:da prog 79:=⟨by kernel_rfl⟩
instance:aK prog 79 ([.int .i64 0,.int .i64 0]):=⟨by kernel_rfl⟩
instance:cH prog 84 [(0,1),(1,1),(2,1),(3,1)]:=⟨_,Tryz.underlying84,by kernel_rfl⟩
instance:aF prog 84 4:=⟨by kernel_rfl⟩
instance:da prog 84:=⟨by kernel_rfl⟩
instance:aK prog 84 ([.bool false,.bool false,.int .u8 0,.int .u8 0]):=⟨by kernel_rfl⟩
instance:bH prog 84 0 4 0:=⟨by kernel_rfl⟩
instance:bH prog 84 1 4 1:=⟨by kernel_rfl⟩
instance:bH prog 84 2 5 2:=⟨by kernel_rfl⟩
instance:bH prog 84 3 5 3:=⟨by kernel_rfl⟩
instance:aG prog 85 (.slice 90):=⟨Tryz.underlying85⟩
instance:aF prog 85 1:=⟨by kernel_rfl⟩
instance:cE prog 85:=⟨by kernel_rfl⟩
instance:aF prog 87 5:=⟨by kernel_rfl⟩
instance:TI prog 87 5:=⟨by kernel_rfl⟩
instance:da prog 87:=⟨by kernel_rfl⟩
instance:aK prog 87 ([.int .i64 0,.bool false,.bool false,.int .i64 0,.nils]):=⟨by kernel_rfl⟩
instance:bH prog 87 0 48 0:=⟨by kernel_rfl⟩
instance:bH prog 87 1 85 4:=⟨by kernel_rfl⟩
instance:aG prog 88 (.slice 107):=⟨Tryz.underlying88⟩
instance:aF prog 88 1:=⟨by kernel_rfl⟩
instance:cE prog 88:=⟨by kernel_rfl⟩
instance:cH prog 90 [(0,1),(1,1)]:=⟨_,Tryz.underlying90,by kernel_rfl⟩
instance:aF prog 90 2:=⟨by kernel_rfl⟩
instance:TI prog 90 2:=⟨by kernel_rfl⟩
instance:da prog 90:=⟨by kernel_rfl⟩
instance:aK prog 90 ([.int .i64 0,.nils]):=⟨by kernel_rfl⟩
instance:bH prog 90 0 3 0:=⟨by kernel_rfl⟩
instance:bH prog 90 1 88 1:=⟨by kernel_rfl⟩
instance:aG prog 91 (.int .i8):=⟨Tryz.underlying91⟩
instance:aF prog 91 1:=⟨by kernel_rfl⟩
instance:cE prog 91:=⟨by kernel_rfl⟩
instance:aG prog 92 (.array 4 91):=⟨Tryz.underlying92⟩
instance:aF prog 92 4:=⟨by kernel_rfl⟩
instance:aF prog 94 9:=⟨by kernel_rfl⟩
instance:da prog 94:=⟨by kernel_rfl⟩
instance:bH prog 94 0 92 0:=⟨by kernel_rfl⟩
instance:bH prog 94 1 92 4:=⟨by kernel_rfl⟩
instance:bH prog 94 2 4 8:=⟨by kernel_rfl⟩
instance:aG prog 95 (.int .u64):=⟨Tryz.underlying95⟩
instance:aF prog 95 1:=⟨by kernel_rfl⟩
instance:cE prog 95:=⟨by kernel_rfl⟩
instance:aG prog 96 (.array 6 95):=⟨Tryz.underlying96⟩
instance:aF prog 96 6:=⟨by kernel_rfl⟩
instance:aG prog 97 (.int .u32):=⟨Tryz.underlying97⟩
instance:aF prog 97 1:=⟨by kernel_rfl⟩
instance:cE prog 97:=⟨by kernel_rfl⟩
instance:cH prog 99 [(0,1),(1,1),(2,9),(11,1),(12,6),(18,1),(19,1)]:=⟨_,Tryz.underlying99,by kernel_rfl⟩
instance:aF prog 99 20:=⟨by kernel_rfl⟩
instance:da prog 99:=⟨by kernel_rfl⟩
instance:aK prog 99 ([.int .u8 0,.int .u8 0,.int .i8 0,.int .i8 0,.int .i8 0,.int .i8 0,.int .i8 0,.int .i8 0,.int .i8 0,.int .i8 0,.bool false,.bool false,.int .u64 0,.int .u64 0,.int .u64 0,.int .u64 0,.int .u64 0,.int .u64 0,.int .u32 0,.bool false]):=⟨by kernel_rfl⟩
instance:bH prog 99 0 5 0:=⟨by kernel_rfl⟩
instance:bH prog 99 1 5 1:=⟨by kernel_rfl⟩
instance:bH prog 99 2 94 2:=⟨by kernel_rfl⟩
instance:bH prog 99 3 4 11:=⟨by kernel_rfl⟩
instance:bH prog 99 4 96 12:=⟨by kernel_rfl⟩
instance:bH prog 99 5 97 18:=⟨by kernel_rfl⟩
instance:bH prog 99 6 4 19:=⟨by kernel_rfl⟩
instance:aG prog 100 (.int .u8):=⟨Tryz.underlying100⟩
instance:aF prog 100 1:=⟨by kernel_rfl⟩
instance:cE prog 100:=⟨by kernel_rfl⟩
instance:aF prog 101 1:=⟨by kernel_rfl⟩
instance:TI prog 101 1:=⟨by kernel_rfl⟩
instance:cE prog 101:=⟨by kernel_rfl⟩
instance:aK prog 101 ([.cplx .f64 0 0]):=⟨by kernel_rfl⟩
instance:aG prog 103 (.array 4 101):=⟨Tryz.underlying103⟩
instance:aF prog 103 4:=⟨by kernel_rfl⟩
instance:da prog 103:=⟨by kernel_rfl⟩
instance:aK prog 103 ([.cplx .f64 0 0,.cplx .f64 0 0,.cplx .f64 0 0,.cplx .f64 0 0]):=⟨by kernel_rfl⟩
instance:aG prog 104 (.array 64 3):=⟨Tryz.underlying104⟩
instance:aF prog 104 64:=⟨by kernel_rfl⟩
instance:da prog 104:=⟨by kernel_rfl⟩
instance:aK prog 104 ((ti .i64 64 fun _=>0)):=⟨by kernel_rfl⟩
instance:aG prog 105 (.array 6 104):=⟨Tryz.underlying105⟩
instance:aF prog 105 384:=⟨by kernel_rfl⟩
instance:da prog 105:=⟨by kernel_rfl⟩
instance:cH prog 107 [(0,1),(1,1),(2,4),(6,1),(7,384)]:=⟨_,Tryz.underlying107,by kernel_rfl⟩
instance:aF prog 107 391:=⟨by kernel_rfl⟩
instance:TI prog 107 391:=⟨by kernel_rfl⟩
instance:da prog 107:=⟨by kernel_rfl⟩
instance:aK prog 107 ([.int .u8 0,.int .i64 0,.cplx .f64 0 0,.cplx .f64 0 0,.cplx .f64 0 0,.cplx .f64 0 0,.bool false]++(ti .i64 384 fun _=>0)):=⟨by kernel_rfl⟩
instance:bH prog 107 0 100 0:=⟨by kernel_rfl⟩
instance:bH prog 107 1 3 1:=⟨by kernel_rfl⟩
instance:bH prog 107 2 103 2:=⟨by kernel_rfl⟩
instance:bH prog 107 3 4 6:=⟨by kernel_rfl⟩
instance:bH prog 107 4 105 7:=⟨by kernel_rfl⟩
instance:aG prog 110 (.pointer 150):=⟨Tryz.underlying110⟩
instance:aF prog 110 1:=⟨by kernel_rfl⟩
instance:cE prog 110:=⟨by kernel_rfl⟩
instance:aG prog 122 (.int .u16):=⟨Tryz.underlying122⟩
instance:aF prog 122 1:=⟨by kernel_rfl⟩
instance:TI prog 122 1:=⟨by kernel_rfl⟩
instance:cE prog 122:=⟨by kernel_rfl⟩
instance:aK prog 122 ([.int .u16 0]):=⟨by kernel_rfl⟩
instance:aG prog 123 (.slice 122):=⟨Tryz.underlying123⟩
instance:aF prog 123 1:=⟨by kernel_rfl⟩
instance:cE prog 123:=⟨by kernel_rfl⟩
instance:aF prog 125 5:=⟨by kernel_rfl⟩
instance:da prog 125:=⟨by kernel_rfl⟩
instance:aK prog 125 ([.int .u8 0,.int .u16 0,.int .u16 0,.nils,.nils]):=⟨by kernel_rfl⟩
instance:bH prog 125 0 5 0:=⟨by kernel_rfl⟩
instance:bH prog 125 1 122 1:=⟨by kernel_rfl⟩
instance:bH prog 125 2 122 2:=⟨by kernel_rfl⟩
instance:bH prog 125 3 123 3:=⟨by kernel_rfl⟩
instance:bH prog 125 4 32 4:=⟨by kernel_rfl⟩
instance:aG prog 132 (.pointer 134):=⟨Tryz.underlying132⟩
instance:cH prog 134 [(0,1),(1,1)]:=⟨_,Tryz.underlying134,by kernel_rfl⟩
instance:aF prog 134 2:=⟨by kernel_rfl⟩
instance:aK prog 134 ([.nils,.int .i64 0]):=⟨by kernel_rfl⟩
instance:bH prog 134 0 32 0:=⟨by kernel_rfl⟩
instance:bH prog 134 1 3 1:=⟨by kernel_rfl⟩
instance:aG prog 137 (.slice 22):=⟨Tryz.underlying137⟩
instance:aG prog 140 (.int .u64):=⟨Tryz.underlying140⟩
instance:aG prog 142 (.array 4 3):=⟨Tryz.underlying142⟩
instance:aF prog 142 4:=⟨by kernel_rfl⟩
instance:da prog 142:=⟨by kernel_rfl⟩
instance:aK prog 142 ([.int .i64 0,.int .i64 0,.int .i64 0,.int .i64 0]):=⟨by kernel_rfl⟩
instance:aG prog 147 (.pointer 212):=⟨Tryz.underlying147⟩
instance:aF prog 147 1:=⟨by kernel_rfl⟩
instance:cE prog 147:=⟨by kernel_rfl⟩
instance:bH prog 150 0 147 0:=⟨by kernel_rfl⟩
instance:bH prog 150 1 147 1:=⟨by kernel_rfl⟩
instance:bH prog 150 2 147 2:=⟨by kernel_rfl⟩
instance:aG prog 154 (.pointer 216):=⟨Tryz.underlying154⟩
instance:aF prog 154 1:=⟨by kernel_rfl⟩
instance:cE prog 154:=⟨by kernel_rfl⟩
instance:aG prog 155 (.pointer 220):=⟨Tryz.underlying155⟩
instance:aF prog 155 1:=⟨by kernel_rfl⟩
instance:cE prog 155:=⟨by kernel_rfl⟩
instance:cH prog 157 [(0,1),(1,4),(5,1),(6,1),(7,1)]:=⟨_,Tryz.underlying157,by kernel_rfl⟩
instance:aK prog 157 ([.nilp,.int .i64 0,.bool false,.bool false,.int .i64 0,.int .i64 0,.nilp,.nilp]):=⟨by kernel_rfl⟩
instance:bH prog 157 0 110 0:=⟨by kernel_rfl⟩
instance:bH prog 157 1 48 1:=⟨by kernel_rfl⟩
instance:bH prog 157 2 3 5:=⟨by kernel_rfl⟩
instance:bH prog 157 3 154 6:=⟨by kernel_rfl⟩
instance:bH prog 157 4 155 7:=⟨by kernel_rfl⟩
instance:aG prog 161 (.pointer 190):=⟨Tryz.underlying161⟩
instance:aG prog 170 (.map 3 4):=⟨Tryz.underlying170⟩
instance:cH prog 190 [(0,1),(1,1),(2,1),(3,1)]:=⟨_,Tryz.underlying190,by kernel_rfl⟩
instance:aK prog 190 ([.nils,.int .i64 0,.int .i64 0,.bool false]):=⟨by kernel_rfl⟩
instance:bH prog 190 0 32 0:=⟨by kernel_rfl⟩
instance:bH prog 190 1 3 1:=⟨by kernel_rfl⟩
instance:bH prog 190 2 3 2:=⟨by kernel_rfl⟩
instance:bH prog 190 3 4 3:=⟨by kernel_rfl⟩
instance:aG prog 209 (.slice 95):=⟨Tryz.underlying209⟩
instance:aF prog 209 1:=⟨by kernel_rfl⟩
instance:cE prog 209:=⟨by kernel_rfl⟩
instance:bH prog 212 0 42 0:=⟨by kernel_rfl⟩
instance:bH prog 212 1 209 1:=⟨by kernel_rfl⟩
instance:aG prog 214 (.map 3 101):=⟨Tryz.underlying214⟩
instance:aF prog 214 1:=⟨by kernel_rfl⟩
instance:cE prog 214:=⟨by kernel_rfl⟩
instance:cH prog 216 [(0,1),(1,1),(2,1)]:=⟨_,Tryz.underlying216,by kernel_rfl⟩
instance:aK prog 216 ([.int .i64 0,.int .i64 0,.nilm]):=⟨by kernel_rfl⟩
instance:bH prog 216 0 3 0:=⟨by kernel_rfl⟩
instance:bH prog 216 1 3 1:=⟨by kernel_rfl⟩
instance:bH prog 216 2 214 2:=⟨by kernel_rfl⟩
instance:aG prog 217 (.map 3 242):=⟨Tryz.underlying217⟩
instance:aF prog 217 1:=⟨by kernel_rfl⟩
instance:cE prog 217:=⟨by kernel_rfl⟩
instance:aG prog 218 (.array 3 217):=⟨Tryz.underlying218⟩
instance:aF prog 218 3:=⟨by kernel_rfl⟩
instance:aK prog 218 ([.nilm,.nilm,.nilm]):=⟨by kernel_rfl⟩
instance:cH prog 220 [(0,1),(1,1),(2,3)]:=⟨_,Tryz.underlying220,by kernel_rfl⟩
instance:aK prog 220 ([.int .i64 0,.int .i64 0,.nilm,.nilm,.nilm]):=⟨by kernel_rfl⟩
instance:bH prog 220 0 3 0:=⟨by kernel_rfl⟩
instance:bH prog 220 1 3 1:=⟨by kernel_rfl⟩
instance:bH prog 220 2 218 2:=⟨by kernel_rfl⟩
instance:aG prog 226 (.slice 101):=⟨Tryz.underlying226⟩
instance:aG prog 227 (.array 3 79):=⟨Tryz.underlying227⟩
instance:aK prog 227 ([.int .i64 0,.int .i64 0,.int .i64 0,.int .i64 0,.int .i64 0,.int .i64 0]):=⟨by kernel_rfl⟩
instance:aG prog 231 (.slice 265):=⟨Tryz.underlying231⟩
instance:aF prog 231 1:=⟨by kernel_rfl⟩
instance:cE prog 231:=⟨by kernel_rfl⟩
instance:aG prog 232 (.array 6 231):=⟨Tryz.underlying232⟩
instance:aF prog 232 6:=⟨by kernel_rfl⟩
instance:da prog 232:=⟨by kernel_rfl⟩
instance:aK prog 232 ([.nils,.nils,.nils,.nils,.nils,.nils]):=⟨by kernel_rfl⟩
instance:cH prog 242 [(0,64),(64,1)]:=⟨_,Tryz.underlying242,by kernel_rfl⟩
instance:aF prog 242 65:=⟨by kernel_rfl⟩
instance:da prog 242:=⟨by kernel_rfl⟩
instance:aK prog 242 ((ti .i64 64 fun _=>0)++[.int .i64 0]):=⟨by kernel_rfl⟩
instance:bH prog 242 0 104 0:=⟨by kernel_rfl⟩
instance:bH prog 242 1 3 64:=⟨by kernel_rfl⟩
instance:aG prog 251 (.float .f64):=⟨Tryz.underlying251⟩
instance:cH prog 265 [(0,1),(1,1),(2,1)]:=⟨_,Tryz.underlying265,by kernel_rfl⟩
instance:aF prog 265 3:=⟨by kernel_rfl⟩
instance:TI prog 265 3:=⟨by kernel_rfl⟩
instance:da prog 265:=⟨by kernel_rfl⟩
instance:aK prog 265 ([.int .i64 0,.int .i64 0,.bool false]):=⟨by kernel_rfl⟩
instance:bH prog 265 0 3 0:=⟨by kernel_rfl⟩
instance:bH prog 265 1 3 1:=⟨by kernel_rfl⟩
instance:bH prog 265 2 4 2:=⟨by kernel_rfl⟩
end Go.Proofs.YthdciapjllppjaaGreat
namespace Go.Proofs.YthdciapjllppjaaGreat
open Go.Xm
variable [av]
def b7(x:Int):Int:=if 0<x then 2*x-1 else -2*x
def x7(n:Int):Int:=if n%2=1 then(n+1)/2 else -(n/2)
theorem C8(x:Int)(hx : -1000000<=x/\x<=1000000):bm prog 114 [.one (.int .i64 x)] [] (.one (.int .i64 (b7 x))) []:=by
 refine cO Tryz.func114 ?_
 by_cases h:0<x
 ·repeat' (first|refine zz ?_|refine zx (fun _=>?_) (fun _=>?_)|fail)
  show aE _ _ _ _ _ _ _ _;refine kV [] ?_;rw[b7,if_pos h];rfl
 ·repeat' (first|refine zz ?_|refine zx (fun _=>?_) (fun _=>?_)|fail)
  show aE _ _ _ _ _ _ _ _;refine kV [] ?_;rw[b7,if_neg h];rfl
theorem sw{x:Int}(hx : -1000000<=x/\x<=1000000){HS:ah}(hb:Nat.blt HS.length Mem.bound=true):aA.Sound prog ⟨114,[.one (.int .i64 x)],HS,.one (.int .i64 (b7 x)),HS,[]⟩:=
 ay (C8 x hx) rfl rfl hb
end Go.Proofs.YthdciapjllppjaaGreat
namespace Go.Xm
variable [av]
variable {P:Program} {ops:Array Oper} {nt nI:Nat} {al:aL} {hs:ah} {o:Oper} {l:List Oper} {L:List aA} {K:List Ab->aL->ah->Prop} {d:Nat}
def fO(n:Int):Nat:=FloatKind.nearest .f64 n
def cQ(p:Int×Int):XC := .cplx .f64 (fO p.1) (fO p.2)
def fM(n:Int):Prop := -32<=n/\n<=32
def O8:List (Int×Nat):=(List.range 65).map fun(i:Nat)=>((i:Int)-32,fO ((i:Int)-32))
def Ta(l:List (Int×Nat)):Bool:=l.all fun p=>l.all fun q=>FloatKind.f64.format.order p.2 q.2==some (compare p.1 q.1)
set_option maxRecDepth 100000 in
theorem Mq:Ta O8=true:=by decide +kernel
theorem Bt{n:Int}(h:fM n):(n,fO n)∈O8:=by
 unfold O8;refine List.mem_map.2 ⟨(n+32).toNat,List.mem_range.2 (by have:=h.1;have:=h.2;omega),?_⟩;have e:(((n+32).toNat:Nat):Int)-32=n:=by have:=h.1;omega
 rw[e]
theorem IN{x y:Int}(hx:fM x)(hy:fM y):FloatKind.f64.format.order (fO x) (fO y)=some (compare x y):=by
 have h:=Mq;have h1:=List.all_eq_true.1 h _ (Bt hx);have h2:=List.all_eq_true.1 h1 _ (Bt hy);simpa using h2
theorem xp{x y:Int}(hx:fM x)(hy:fM y):(FloatKind.f64.format.order (fO x) (fO y)==some .eq)=decide (x=y):=by
 rw[IN hx hy]
 by_cases h:x=y
 ·subst h;have:compare x x = .eq:=by simp
  rw[this];simp
 ·have:compare x y ≠ .eq:=by simpa [Int.compare_eq_eq]using h
  simp only[h,decide_false];cases hc:compare x y<;>first|(exact absurd hc this)|rfl
theorem Mp:fO 0=0:=by decide +kernel
theorem iH:cQ (0,0) = .cplx .f64 0 0:=by unfold cQ;rw[Mp]
theorem UE{a:Operand}{ts:Array TypeId}{k:FloatKind}{p q:Nat}(hk:SK P ops nt L l ((d,.one (.flt k p))::al) hs fun bs=>K (quiet::bs))(ho:o.op = .call ⟨.builtin .real,#[a],ts⟩:=by exact rfl)(hw:aw ops (rg al) o=some true:=by exact rfl)(hd:o.dst=some d:=by exact rfl)(hlt:Nat.blt d nt=true:=by exact rfl)
 (ha:ag (rg al) a = .one (.cplx k p q):=by exact rfl):SK P ops nt L (o::l) al hs K:=lr hw hd hlt (by rw[ho];simp[aT,dv,ha]) hk
theorem T5{a:Operand}{ts:Array TypeId}{k:FloatKind}{p q:Nat}(hk:SK P ops nt L l ((d,.one (.flt k q))::al) hs fun bs=>K (quiet::bs))(ho:o.op = .call ⟨.builtin .imag,#[a],ts⟩:=by exact rfl)(hw:aw ops (rg al) o=some true:=by exact rfl)(hd:o.dst=some d:=by exact rfl)(hlt:Nat.blt d nt=true:=by exact rfl)
 (ha:ag (rg al) a = .one (.cplx k p q):=by exact rfl):SK P ops nt L (o::l) al hs K:=lr hw hd hlt (by rw[ho];simp[aT,dv,ha]) hk
theorem T2{a b:Operand}{ts:Array TypeId}{k:FloatKind}{p q:Nat}(hk:SK P ops nt L l ((d,.one (.cplx k p q))::al) hs fun bs=>K (quiet::bs))(ho:o.op = .call ⟨.builtin .complex,#[a,b],ts⟩:=by exact rfl)(hw:aw ops (rg al) o=some true:=by exact rfl)(hd:o.dst=some d:=by exact rfl)(hlt:Nat.blt d nt=true:=by exact rfl)
 (ha:ag (rg al) a = .one (.flt k p):=by exact rfl) (hb:ag (rg al) b = .one (.flt k q):=by exact rfl):SK P ops nt L (o::l) al hs K:=lr hw hd hlt (by rw[ho];simp[aT,dv,ha,hb]) hk
theorem T1{s t:TypeId}{y:Operand}{u:TypeDesc}{k:IntKind}{x:Int}(hk:SK P ops nt L l ((d,.one (.flt .f64 (fO x)))::al) hs fun bs=>K (quiet::bs))(ho:o.op = .convert s t y:=by exact rfl)(hw:aw ops (rg al) o=some true:=by exact rfl)(hd:o.dst=some d:=by exact rfl)(hlt:Nat.blt d nt=true:=by exact rfl)
 (hy:ag (rg al) y = .one (.int k x):=by exact rfl) (h1:aG P s u:=by infer_instance) (h2:aG P t (.float .f64):=by infer_instance):SK P ops nt L (o::l) al hs K:=lr hw hd hlt (by rw[ho];simp only[aT,jx,hy,h1.out,h2.out];rfl) hk
theorem S6{t t':TypeId}{a b:Operand}{x y:Int×Int}(h1:x=y->SK P ops nt L l ((d,.one (.bool true))::al) hs fun bs=>K (quiet::bs))(h2:x≠y->SK P ops nt L l ((d,.one (.bool false))::al) hs fun bs=>K (quiet::bs))(hx:fM x.1/\fM x.2)(hy:fM y.1/\fM y.2)(ho:o.op = .binOp .eql t a b t':=by exact rfl)(hw:aw ops (rg al) o=some true:=by exact rfl)(hd:o.dst=some d:=by exact rfl)(hlt:Nat.blt d nt=true:=by exact rfl)
 (ha:ag (rg al) a = .one (cQ x):=by exact rfl) (hb:ag (rg al) b = .one (cQ y):=by exact rfl):SK P ops nt L (o::l) al hs K:=by
 obtain⟨x1,x2⟩:=x;obtain⟨y1,y2⟩:=y
 have key:aT P (ag (rg al)) o.op=some (.one (.bool (decide (x1=y1)&&decide (x2=y2)))):=by
  rw[ho];simp only[aT,ha,hb,cQ,vY,BG,if_true,xp hx.1 hy.1,xp hx.2 hy.2,Option.map_some]
 refine lr hw hd hlt key ?_
 by_cases h:x1=y1/\x2=y2
 ·simp only[h.1,h.2,decide_true,Bool.and_self];exact h1 (by rw[h.1,h.2])
 ·have:(decide (x1=y1)&&decide (x2=y2))=false:=by
   simp only[Bool.and_eq_false_iff,decide_eq_false_iff_not]
   rcases Classical.em (x1=y1)with h3|h3
   ·exact .inr fun h4=>h ⟨h3,h4⟩
   ·exact .inl h3
  rw[this];exact h2 fun e=>h (by cases e;exact⟨rfl,rfl⟩)
theorem HM{t t':TypeId}{a b:Operand}{x y:Int×Int}(h1:x≠y->SK P ops nt L l ((d,.one (.bool true))::al) hs fun bs=>K (quiet::bs))(h2:x=y->SK P ops nt L l ((d,.one (.bool false))::al) hs fun bs=>K (quiet::bs))(hx:fM x.1/\fM x.2)(hy:fM y.1/\fM y.2){cb:XC}(hcb:cb=cQ y)(ho:o.op = .binOp .neq t a b t':=by exact rfl)(hw:aw ops (rg al) o=some true:=by exact rfl)(hd:o.dst=some d:=by exact rfl)(hlt:Nat.blt d nt=true:=by exact rfl)
 (ha:ag (rg al) a = .one (cQ x):=by exact rfl) (hb:ag (rg al) b = .one cb:=by exact rfl):SK P ops nt L (o::l) al hs K:=by
 obtain⟨x1,x2⟩:=x;obtain⟨y1,y2⟩:=y;subst hcb
 have key:aT P (ag (rg al)) o.op=some (.one (.bool (!(decide (x1=y1)&&decide (x2=y2))))):=by
  rw[ho];simp only[aT,ha,hb,cQ,vY,BG,if_true,xp hx.1 hy.1,xp hx.2 hy.2,Option.map_some]
 refine lr hw hd hlt key ?_
 by_cases h:x1=y1/\x2=y2
 ·simp only[h.1,h.2,decide_true,Bool.and_self,Bool.not_true];exact h2 (by rw[h.1,h.2])
 ·have:(decide (x1=y1)&&decide (x2=y2))=false:=by
   simp only[Bool.and_eq_false_iff,decide_eq_false_iff_not]
   rcases Classical.em (x1=y1)with h3|h3
   ·exact .inr fun h4=>h ⟨h3,h4⟩
   ·exact .inl h3
  rw[this,Bool.not_false];exact h1 fun e=>h (by cases e;exact⟨rfl,rfl⟩)
end Go.Xm
namespace Go.Proofs.YthdciapjllppjaaGreat
open Go.Xm
theorem mixed:prog.follows .mixedOrders=true:=by kernel_rfl
def ot(i:Nat):yr:=⟨132,[.one (.flt .f64 (fO ((i:Int)-32)))],.one (.int .i64 ((i:Int)-32))⟩
noncomputable def Iw:Bool:=(List.range 65).all fun i=>decide (((pL xH prog 1000 10).call (ot i).f (ot i).args Mem.empty).map (·.1)=some (ot i).v)
theorem Aa:Iw=true:=by kernel_rfl
variable [av]
theorem Hw(n:Int)(h:fM n):bm prog 132 [.one (.flt .f64 (fO n))] [] (.one (.int .i64 n)) []:=by
 have e:(((n+32).toNat:Nat):Int)-32=n:=by have:=h.1;omega
 have h1:=List.all_eq_true.1 Aa (n+32).toNat (List.mem_range.2 (by have:=h.1;have:=h.2;omega));have h2:=of_decide_eq_true h1;have:=mJ (mM (r:=ot (n+32).toNat) (SF (jn _) mixed h2 rfl));unfold ot at this;rw[e]at this;exact this
theorem BB{n:Int}(h:fM n){HS:ah}(hb:Nat.blt HS.length Mem.bound=true):aA.Sound prog ⟨132,[.one (.flt .f64 (fO n))],HS,.one (.int .i64 n),HS,[]⟩:=
 ay (Hw n h) rfl rfl hb
theorem qy{a b:Int}(ha:fM a)(hb:fM b){HS:ah}:Compat ⟨132,[.one (.flt .f64 (fO a))],HS,.one (.int .i64 a),HS,[]⟩ ⟨132,[.one (.flt .f64 (fO b))],HS,.one (.int .i64 b),HS,[]⟩:=fun _ h _=>by
 simp only[List.cons.injEq,XV.one.injEq,XC.flt.injEq,true_and,and_true]at h;have h1:=xp ha ha;have h2:=xp ha hb;rw[<-h,h1]at h2;have:a=b:=by simpa using h2
 subst this;exact⟨rfl,rfl,rfl⟩
theorem Gt(p:Int×Int)(h:fM p.1/\fM p.2):bm prog 100 [.one (cQ p)] [] (.tup [.one (.int .i64 p.1),.one (.int .i64 p.2)]) []:=by
 refine cO Tryz.func100 ?_
 repeat' (first
  |(refine qz ?_;first
   |refine UE ?_
   |refine T5 ?_
   |refine cl ?_ (hi:=by exact BB h.1 rfl)
   |refine cl ?_ (hi:=by exact BB h.2 rfl))
  |refine zz ?_|refine zx (fun _=>?_) (fun _=>?_)|refine bP (by first|exact ai.nil|exact ai.one _|exact ai.pC (by repeat' (first|exact True.intro|refine And.intro ?_ ?_|exact Compat.ne rfl|exact qy h.2 h.1))) ⟨by kernel_rfl,?_⟩|refine bP (by first|exact ai.nil|exact ai.one _|exact ai.pC (by repeat' (first|exact True.intro|refine And.intro ?_ ?_|exact Compat.ne rfl|exact qy h.2 h.1))) ?_|fail)
 show aE _ _ _ _ _ _ _ _;refine kV [] ?_;rfl
theorem jo{p:Int×Int}(h:fM p.1/\fM p.2){HS:ah}(hb:Nat.blt HS.length Mem.bound=true):aA.Sound prog ⟨100,[.one (cQ p)],HS,.tup [.one (.int .i64 p.1),.one (.int .i64 p.2)],HS,[]⟩:=
 ay (Gt p h) rfl rfl hb
theorem PC(x y:Int):bm prog 109 [.one (.int .i64 x),.one (.int .i64 y)] [] (.one (cQ (x,y))) []:=by
 refine cO Tryz.func109 ?_
 repeat' (first
  |(refine qz ?_;first
   |refine T1 ?_
   |refine T2 ?_)
  |refine zz ?_|refine zx (fun _=>?_) (fun _=>?_)|fail)
 show aE _ _ _ _ _ _ _ _;refine kV [] ?_;rfl
theorem AP{x y:Int}{HS:ah}(hb:Nat.blt HS.length Mem.bound=true):aA.Sound prog ⟨109,[.one (.int .i64 x),.one (.int .i64 y)],HS,.one (cQ (x,y)),HS,[]⟩:=
 ay (PC x y) rfl rfl hb
def iI(n:Int):Int:=(n+32)%64-32
theorem m_(n:Int) : -32<=iI n/\iI n<=31:=by unfold iI;omega
theorem Lk(n:Int)(h : -1000000<=n/\n<=1000000):bm prog 115 [.one (.int .i64 n)] [] (.one (.int .i64 (iI n))) []:=by
 refine cO Tryz.func115 ?_;have h1:=Int.emod_nonneg (n+32) (show(2:Int)^6≠0 by decide);have h2:(n+32)%(2:Int)^6<64:=Int.emod_lt_of_pos (n+32) (show(0:Int)<2^6 by decide);have h3:=Int.emod_nonneg ((n+32)%2^6+64) (show(2:Int)^6≠0 by decide);have h4:((n+32)%2^6+64)%(2:Int)^6<64:=Int.emod_lt_of_pos _ (show(0:Int)<2^6 by decide)
 repeat' (first
  |(refine qz ?_;first
   |refine an (n:=6) ?_)
  |refine zz ?_|refine zx (fun _=>?_) (fun _=>?_)|fail)
 show aE _ _ _ _ _ _ _ _;refine kV [] ?_
 have:((n+32)%2^6+64)%(2:Int)^6-32=iI n:=by
  unfold iI;show((n+32)%64+64)%64-32=_;omega
 rw[<-this];rfl
theorem NL{n:Int}(h : -1000000<=n/\n<=1000000){HS:ah}(hb:Nat.blt HS.length Mem.bound=true):aA.Sound prog ⟨115,[.one (.int .i64 n)],HS,.one (.int .i64 (iI n)),HS,[]⟩:=
 ay (Lk n h) rfl rfl hb
def fj(p:Int×Int):Bool:=decide (-31<=p.1/\p.1<=31 /\ -31<=p.2/\p.2<=31)
theorem GO(p:Int×Int)(h:fM p.1/\fM p.2):bm prog 111 [.one (cQ p)] [] (.one (.bool (fj p))) []:=by
 have hx1:=h.1.1;have hx2:=h.1.2;have hy1:=h.2.1;have hy2:=h.2.2;refine cO Tryz.func111 ?_
 by_cases ha : -31<=p.1/\p.1<=31
 ·by_cases hb : -31<=p.2/\p.2<=31
  ·have e:fj p=true:=decide_eq_true ⟨ha.1,ha.2,hb⟩;rw[e]
   repeat' (first
    |(refine qz ?_;first
     |refine cl ?_ (hi:=by exact jo h rfl)
     |refine cl ?_ (hi:=by exact AP rfl)
     |refine S6 (x:=(p.1,p.2)) (y:=p) (fun _=>?_) (fun hn=>absurd rfl hn) h h)
    |refine zz ?_|refine zx (fun _=>?_) (fun _=>?_)|fail)
   show aE _ _ _ _ _ _ _ _;refine kV [] ?_;rfl
  ·have e:fj p=false:=decide_eq_false fun hh=>hb hh.2.2
   rw[e]
   repeat' (first
    |(refine qz ?_;first
     |refine cl ?_ (hi:=by exact jo h rfl)
     |refine cl ?_ (hi:=by exact AP rfl)
     |refine S6 (x:=(p.1,p.2)) (y:=p) (fun _=>?_) (fun hn=>absurd rfl hn) h h)
    |refine zz ?_|refine zx (fun _=>?_) (fun _=>?_)|fail)
   show aE _ _ _ _ _ _ _ _;refine kV [] ?_;rfl
 ·have e:fj p=false:=decide_eq_false fun hh=>ha ⟨hh.1,hh.2.1⟩
  rw[e]
  repeat' (first
   |(refine qz ?_;first
    |refine cl ?_ (hi:=by exact jo h rfl)
    |refine cl ?_ (hi:=by exact AP rfl)
    |refine S6 (x:=(p.1,p.2)) (y:=p) (fun _=>?_) (fun hn=>absurd rfl hn) h h)
   |refine zz ?_|refine zx (fun _=>?_) (fun _=>?_)|fail)
  show aE _ _ _ _ _ _ _ _;refine kV [] ?_;rfl
theorem eR{p:Int×Int}(h:fM p.1/\fM p.2){HS:ah}(hb:Nat.blt HS.length Mem.bound=true):aA.Sound prog ⟨111,[.one (cQ p)],HS,.one (.bool (fj p)),HS,[]⟩:=
 ay (GO p h) rfl rfl hb
def AN(a b c:Int):Int:=max (min a b) (min (max a b) c)
theorem MN(a b c:Int):bm prog 137 [.one (.int .i64 a),.one (.int .i64 b),.one (.int .i64 c)] [] (.one (.int .i64 (AN a b c))) []:=by
 refine cO Tryz.func137 ?_
 repeat' (first
  |(refine qz ?_;first
   |refine SD ?_
   |refine TP ?_)
  |refine zz ?_|refine zx (fun _=>?_) (fun _=>?_)|fail)
 show aE _ _ _ _ _ _ _ _;refine kV [] ?_;rfl
theorem Pw{a b c:Int}{HS:ah}(hb:Nat.blt HS.length Mem.bound=true):aA.Sound prog ⟨137,[.one (.int .i64 a),.one (.int .i64 b),.one (.int .i64 c)],HS,.one (.int .i64 (AN a b c)),HS,[]⟩:=
 ay (MN a b c) rfl rfl hb
theorem uq{a b c a' b' c':Int}{HS:ah}:Compat ⟨137,[.one (.int .i64 a),.one (.int .i64 b),.one (.int .i64 c)],HS,.one (.int .i64 (AN a b c)),HS,[]⟩ ⟨137,[.one (.int .i64 a'),.one (.int .i64 b'),.one (.int .i64 c')],HS,.one (.int .i64 (AN a' b' c')),HS,[]⟩:=fun _ h _=>by
 simp only[List.cons.injEq,XV.one.injEq,XC.int.injEq,true_and,and_true]at h;obtain⟨rfl,rfl,rfl⟩:=h;exact⟨rfl,rfl,rfl⟩
def Pv(a b c:Int×Int):Int×Int:=(AN a.1 b.1 c.1,AN a.2 b.2 c.2)
def bM(p:Int×Int):Prop:=fM p.1/\fM p.2
theorem xD{a b c:Int}(ha:fM a)(hb:fM b)(hc:fM c):fM (AN a b c):=by
 unfold AN fM at *;omega
theorem CK(a b c:Int×Int)(ha:bM a)(hb:bM b)(hc:bM c):bm prog 118 [.one (cQ a),.one (cQ b),.one (cQ c)] [] (.one (cQ (Pv a b c))) []:=by
 refine cO Tryz.func118 ?_
 repeat' (first
  |(refine qz ?_;first
   |refine cl ?_ (hi:=by exact jo ha rfl)
   |refine cl ?_ (hi:=by exact jo hb rfl)
   |refine cl ?_ (hi:=by exact jo hc rfl)
   |refine cl ?_ (hi:=by exact Pw rfl)
   |refine cl ?_ (hi:=by exact AP rfl))
  |refine zz ?_|refine zx (fun _=>?_) (fun _=>?_)|refine bP (by first|exact ai.nil|exact ai.one _|exact ai.pC (by repeat' (first|exact True.intro|refine And.intro ?_ ?_|exact Compat.ne rfl|exact uq))) ⟨by kernel_rfl,?_⟩|refine bP (by first|exact ai.nil|exact ai.one _|exact ai.pC (by repeat' (first|exact True.intro|refine And.intro ?_ ?_|exact Compat.ne rfl|exact uq))) ?_|fail)
 show aE _ _ _ _ _ _ _ _;refine kV [] ?_;rfl
theorem hJ{a b c:Int×Int}(ha:bM a)(hb:bM b)(hc:bM c){HS:ah}(hbd:Nat.blt HS.length Mem.bound=true):aA.Sound prog ⟨118,[.one (cQ a),.one (cQ b),.one (cQ c)],HS,.one (cQ (Pv a b c)),HS,[]⟩:=
 ay (CK a b c ha hb hc) rfl rfl hbd
def vt(v:Nat->Int×Int):List XC:=[cQ (v 0),cQ (v 1),cQ (v 2),cQ (v 3)]
theorem Bk(x y:Int)(hx : -128<=x/\x<128)(hy : -128<=y/\y<128):bm prog 81 [.one (.int .i8 x),.one (.int .i8 y)] [] (.one (cQ (x.tmod 32,y.tmod 32))) []:=by
 have ex:bE .rem .i64 .i64 x 32=some (.int .i64 (x.tmod 32)):=DZ (by decide) rfl;have ey:bE .rem .i64 .i64 y 32=some (.int .i64 (y.tmod 32)):=DZ (by decide) rfl;refine cO Tryz.func81 ?_
 repeat' (first
  |(refine qz ?_;first
   |refine gz rfl rfl rfl rfl rfl rfl ex ?_
   |refine gz rfl rfl rfl rfl rfl rfl ey ?_
   |refine cl ?_ (hi:=by exact AP rfl))
  |refine zz ?_|refine zx (fun _=>?_) (fun _=>?_)|fail)
 show aE _ _ _ _ _ _ _ _;refine kV [] ?_;rfl
theorem Dd{x y:Int}(hx : -128<=x/\x<128)(hy : -128<=y/\y<128){HS:ah}(hb:Nat.blt HS.length Mem.bound=true):aA.Sound prog ⟨81,[.one (.int .i8 x),.one (.int .i8 y)],HS,.one (cQ (x.tmod 32,y.tmod 32)),HS,[]⟩:=
 ay (Bk x y hx hy) rfl rfl hb
theorem LW(p:Int×Int):bm prog 55 [.one (cQ p)] [] (.agg (vt fun _=>p)) []:=by
 refine cO Tryz.func55 ?_
 repeat' (first|refine zz ?_|refine zx (fun _=>?_) (fun _=>?_)|fail)
 show aE _ _ _ _ _ _ _ _;refine kV [] ?_;rfl
theorem ON{p:Int×Int}{HS:ah}(hb:Nat.blt HS.length Mem.bound=true):aA.Sound prog ⟨55,[.one (cQ p)],HS,.agg (vt fun _=>p),HS,[]⟩:=
 ay (LW p) rfl rfl hb
end Go.Proofs.YthdciapjllppjaaGreat
