/-
  'Rows.WalkTwiceSaid': for all its arguments the law returns true, and each argument reads behind the call as it read before.
-/
import Derived.Test.YthdciapjllppjaaGreatWaZH
import Derived.Test.YthdciapjllppjaaGreatRows
set_option maxRecDepth 10000
set_option maxHeartbeats 8000000
set_option linter.unusedVariables false
set_option linter.unusedSectionVars false
set_option linter.unusedSimpArgs false
open Go.Proofs.Tryz (prog)
namespace Go.Proofs.YthdciapjllppjaaGreat.walkTwice
open Go.ChangeShapes Go.WideShapes Go.ChangeAt Go.RowKit Go.Xm
theorem own:ownKnob prog.godebug=none:=by kernel_rfl
theorem laidOut:laidOutB prog=true:=by kernel_rfl
theorem walk[ak]{W:World}{v:Value}{h:Hd}{pics:List sW}{l:List Sm}{va vb:Value}(hh:o7 h)(hp:∀j,j<pics.length->kb (pics.getD j default))(hl:∀j,j<l.length->iQ (l.getD j default))(ha:oy W va (fl eL pics) pics.length)(hb:oy W vb (fl th l) l.length)(hv:∀(β : Env) (c0 c1:XC),c0.den β = va->c1.den β = vb->v = .agg ((rn h c0 c1).map (·.den β)).toArray) :
 Calls prog 5 #[v] W fun e w'=>e = .returned (.bool true)/\Below W.heap.size W w':=by
 obtain⟨c0,o0,b0,lo0,sz0,a1,a2,a3,a4,a5,a6,a7⟩:=IA (s4 (enc:=eL) pics) Ds 0 ha;obtain⟨c1,o1,b1,lo1,sz1,d1,d2,d3,d4,d5,d6,d7⟩:=IA (s4 (enc:=th) l) Ds 1 hb;have hc:=Gh hh hp hl (EA.in a3 a4) (EA.in d3 d4) a2 d2
 let β : Env:=⟨fun i=>if i=0 then b0 else b1,fun i=>if i=0 then lo0 else lo1,fun i=>if i=0 then sz0 else sz1⟩
 have r0:aK β 2 (.one c0) va:=a7 β 2 (by omega) rfl rfl;have r1:aK β 2 (.one c1) vb:=d7 β 2 (by omega) rfl rfl;refine Hn hc (β := β) (Nat.le_of_ble_eq_true rfl) (fun i o ho=>?_) (fun o ho=>?_) (vs:=[v]) ?_
 ·match i,ho with
  | 0,ho=>cases ho;exact a6 _ _
  | 1,ho=>cases ho;exact d6 _ _
  | i+2,ho=>simp at ho
 ·simp only[List.mem_cons,List.not_mem_nil,or_false]at ho
  rcases ho with rfl|rfl
  ·exact a5
  ·exact d5
 ·exact .cons ⟨BC r0.1 r1.1,hv β c0 c1 r0.2.symm r1.2.symm⟩ .nil
set_option maxRecDepth 100000 in
def Sc:Value := .agg (#[.int .i64 0,.int .i64 0,.bool false]++Array.replicate 128 (.int .u8 0) ++ #[.slice none 0 0,.slice none 0 0])
set_option maxRecDepth 100000 in
theorem lifted(os:Os)(started:os.Started)(H:Type)(enc:TypeId×Value->H) :
 ReturnsInHanded {} Tryz.checked os 5 .any (Rows.walkTwiceSpec.pre6 enc prog Tryz.f5 Rows.walkTwiceRow.domain false) (Rows.walkTwiceSpec.post enc prog Tryz.f5 false true false false):=by
 letI:ak:=⟨fun _ => .int .u8 0,fun _=>⟨rfl,rfl⟩⟩
 refine returnsInHanded_of_change (C:=Tryz.checked) own started (by kernel_rfl) Tryz.func5
  (ChangeSpec.witness6 (enc:=enc) (C:=Tryz.checked) false ⟨#[],#[Sc],[]⟩ 8 (by kernel_rfl) (by kernel_rfl) (by kernel_rfl) (by kernel_rfl)) ?_
 intro W base args ds gs before hval0 hW hcnd _;have hval:∀(j:Nat) t v,Tryz.f5.params[j]? = some t->args[j]? = some v->Value.okWide prog W .any base t v:=hval0;have hW':=hW;obtain⟨p,q,hA0,hV,rfl,hfz,hnd⟩:=hW;have hA:DataW.TrodAll enc prog W 0 (fun _=>true) true Tryz.f5.params.toList args.toList ds p:=hA0;rw[Tryz.params5]at hA hval;obtain⟨v0,vs0,d0,ds0,p0,q0,hargs,rfl,rfl,h0,r0⟩:=trodAll_cons hA;obtain⟨rfl,rfl,rfl⟩:=trodAll_nil r0;obtain rfl:args = #[v0]:=by cases args;simp_all
 obtain⟨rfl,rfl⟩:=trodVars_none hV;have k0:=h0;have lt0:∀x∈p0,x.block<W.heap.size:=by obtain⟨m,hm⟩:=k0;exact DataW.trod_lt m _ _ _ hm
 obtain⟨m0,t0'⟩:=h0;obtain⟨h,pics,l,va,vb,q1,q2,q3,q4',q5,q6,q7,q8⟩:=NL (hval 0 _ v0 rfl rfl) t0';refine(walk q1 q2 q3 q6 q7 q8).mono fun e W' ⟨he,bel⟩=>?_
 subst he;exact⟨_,rfl,_,_,_,[],_,[],hW',trodAll_mk1 (shut_bool Tryz.underlying4 _),(trodAll_cons_mk (Below.trod laidOut (by kernel_rfl) (of_decide_eq_true (by kernel_rfl)) k0 bel lt0) trodAll_mk0),rfl,bel.frame _,fun h=>by cases h⟩
theorem Sx:Rows.walkTwiceRow.holds Tryz.pinned (OpenSpec.ofChange Rows.walkTwiceSpec):=
 OpenClaim.holds_of_wide 5 Tryz.f5 rfl rfl rfl rfl rfl rfl rfl ⟨rfl,rfl,rfl,rfl,rfl⟩ rfl rfl rfl rfl rfl (by kernel_rfl) Tryz.func5 (by kernel_rfl)
  (of_decide_eq_true (by kernel_rfl)) (by unfold Func.isWrapper;first|(rw[if_pos (by decide +kernel)];kernel_rfl)|(rw[if_neg (by decide +kernel)];exact⟨rfl,rfl⟩))
  (fun os started H enc _=>lifted os started H enc)
theorem proved:Rows.WalkTwiceSaid:=Sx
end Go.Proofs.YthdciapjllppjaaGreat.walkTwice
