/-
  'Rows.EncErrorsSaid': for all its arguments the law returns true, and each argument reads behind the call as it read before.
-/
import Derived.Test.YtnkodcmkpfefhaaGreatEeY
import Derived.Test.YtnkodcmkpfefhaaGreatEeZF
import Derived.Test.YtnkodcmkpfefhaaGreatRows
set_option maxRecDepth 10000
set_option maxHeartbeats 8000000
set_option linter.unusedVariables false
set_option linter.unusedSectionVars false
set_option linter.unusedSimpArgs false
namespace Go.Proofs.YtnkodcmkpfefhaaGreat.encErrors
open Go.ChangeShapes Go.WideShapes Go.ChangeAt Go.RowKit Go.Xm
theorem own:ownKnob Tryz.prog.godebug=none:=by kernel_rfl
theorem laidOut:laidOutB Tryz.prog=true:=by kernel_rfl
theorem walk[aw]{W:World}{v vl:Value}{c:gg}{q:List S6}{many pic cols qp:Int}(hc:nv c)(hv:∀β : Env,v = .agg ((bX c).map (·.den β)).toArray)(hl:qw W vl (fl xR q) q.length)(hq:q.length<=9223372036854775807)(ha:∀i,i<q.length->AY (q.getD i default).ix (q.getD i default).n)(hm:0<=many/\many<=255)(h1 : -9223372036854775808<=pic/\pic<=9223372036854775807)(h2 : -9223372036854775808<=cols/\cols<=9223372036854775807) :
 Calls Tryz.prog 3 #[v,vl,.int .u8 many,.int .i64 pic,.int .i64 cols,.int .i64 qp] W fun e w'=>e = .returned (.bool true)/\Below W.heap.size W w':=by
 obtain⟨c0,o0,b0,lo0,sz0,a1,a2,a3,a4,a5,a6,a7⟩:=Jt (Aa (enc:=xR) q) G8 0 hl
 have hcon:=sR x7 hc (A1.in a3 a4) a2 hq ha (qp:=qp) hm h1 h2
 let β : Env:=⟨fun _=>b0,fun _=>lo0,fun _=>sz0⟩
 have r0:aN β 1 (.one c0) vl:=a7 β 1 (by omega) rfl rfl
 refine DP hcon (β := β) (Nat.le_of_ble_eq_true rfl) (fun i o ho=>?_) (fun o ho=>?_) (vs:=[v,vl,.int .u8 many,.int .i64 pic,.int .i64 cols,.int .i64 qp]) ?_
 ·match i,ho with
  | 0,ho=>cases ho;exact a6 _ _
  | i+1,ho=>simp at ho
 ·simp only[List.mem_cons,List.not_mem_nil,or_false]at ho
  rcases ho with rfl
  exact a5
 ·exact .cons ⟨XV.dS (x := .agg (bX c)) (dB c) 1,hv β⟩ (.cons r0 (.cons ⟨trivial,rfl⟩ (.cons ⟨trivial,rfl⟩ (.cons ⟨trivial,rfl⟩ (.cons ⟨trivial,rfl⟩ .nil)))))
def Mp:Value := .agg (#[.int .i64 0,.int .i64 0,.bool false]++Array.replicate 128 (.int .u8 0) ++ #[.int .i64 0,.int .i64 0,.int .i64 0,.bool false,.bool false,.bool false,.int .i64 0,.int .i64 0])
set_option maxRecDepth 100000 in
theorem IV[aw]{H:Type}{enc:TypeId×Value->H}{w:World}{base:Nat}{spare:Nat->Bool}{held:Bool}{v:Value}{b0:Nat}{r:Reach}(hval:Value.okWide Tryz.prog w r b0 28 v){fuel:Nat}{x:DataW H×List MemPlace}(hf:DataW.trod enc Tryz.prog w base spare held fuel 28 v.cells.toList=some x) :
 ∃g,l5 rC g 0/\∀β : Env,v = .agg ((bX (zZ g)).map (·.den β)).toArray:=by
 unfold Value.okWide at hval
 rw[Tryz.underlying28]at hval
 obtain⟨cs,rfl,hsz,ts,hts,_,hcell⟩:=hval
 obtain⟨g,h1,h2⟩:=Er Jm rfl hf
 refine⟨g,h1,fun β=>?_⟩
 have:=h2 β
 rw[BN]at this
 rw[<-this]
 rfl
set_option maxRecDepth 100000 in
theorem lifted(os:Os)(started:os.Started)(H:Type)(enc:TypeId×Value->H) :
 ReturnsInHanded {} Tryz.checked os 3 .any (Rows.encErrorsSpec.pre6 enc Tryz.prog Tryz.f3 Rows.encErrorsRow.domain false) (Rows.encErrorsSpec.post enc Tryz.prog Tryz.f3 false true false false):=by
 refine returnsInHanded_of_change (C:=Tryz.checked) own started (by kernel_rfl) Tryz.func3
  (ChangeSpec.witness6 (enc:=enc) (C:=Tryz.checked) false ⟨#[],#[Mp,.slice none 0 0,.int .u8 0,.int .i64 0,.int .i64 0,.int .i64 0],[]⟩ 8 (by kernel_rfl) (by kernel_rfl) (by kernel_rfl) (by kernel_rfl)) ?_
 intro W base args ds gs before hval0 hW hcnd _
 have hval:∀(j:Nat) t v,Tryz.f3.params[j]? = some t->args[j]? = some v->Value.okWide Tryz.prog W .any base t v:=hval0
 have hW':=hW
 obtain⟨p,q,hA0,hV,rfl,hfz,hnd⟩:=hW
 have hA:DataW.TrodAll enc Tryz.prog W 0 (fun _=>true) true Tryz.f3.params.toList args.toList ds p:=hA0
 rw[Tryz.params3]at hA hval
 obtain⟨v0,vs0,d0,ds0,p0,q0,hargs,rfl,rfl,h0,r0⟩:=trodAll_cons hA
 obtain⟨v1,vs1,d1,ds1,p1,q1,rfl,rfl,rfl,h1,r1⟩:=trodAll_cons r0
 obtain⟨v2,vs2,d2,ds2,p2,q2,rfl,rfl,rfl,h2,r2⟩:=trodAll_cons r1
 obtain⟨v3,vs3,d3,ds3,p3,q3,rfl,rfl,rfl,h3,r3⟩:=trodAll_cons r2
 obtain⟨v4,vs4,d4,ds4,p4,q4,rfl,rfl,rfl,h4,r4⟩:=trodAll_cons r3
 obtain⟨v5,vs5,d5,ds5,p5,q5,rfl,rfl,rfl,h5,r5⟩:=trodAll_cons r4
 obtain⟨rfl,rfl,rfl⟩:=trodAll_nil r5
 obtain rfl:args = #[v0,v1,v2,v3,v4,v5]:=by cases args;simp_all
 obtain⟨rfl,rfl⟩:=trodVars_none hV
 have k0:=h0
 have k1:=h1
 have lt0:∀x∈p0,x.block<W.heap.size:=by obtain⟨m,hm⟩:=k0;exact DataW.trod_lt m _ _ _ hm
 have lt1:∀x∈p1,x.block<W.heap.size:=by obtain⟨m,hm⟩:=k1;exact DataW.trod_lt m _ _ _ hm
 obtain⟨m0,t0'⟩:=h0
 obtain⟨m1,t1'⟩:=h1
 have at0:aw:=⟨fun _ => .int .u8 0,fun _=>⟨rfl,rfl⟩⟩
 obtain⟨g,a1,a2⟩ := @IV at0 _ _ _ _ _ _ _ _ _ (hval 0 _ v0 rfl rfl) _ _ t0'
 have hc1:Cell.okWide Tryz.prog W .any base 29 v1:=by
  have h:=hval 1 29 v1 rfl rfl
  unfold Value.okWide at h
  rw[Tryz.underlying29]at h
  exact h
 have hone:v1.cells.toList = [v1]:=by
  have h:=hc1
  unfold Cell.okWide at h
  rw[Tryz.underlying29]at h
  have hck:Cell.ok Tryz.prog W .any base 29 v1:=h
  unfold Cell.ok at hck
  rw[Tryz.underlying29]at hck
  split at hck<;>first
   | rfl
   | (cases hck)
 rw[hone]at t1'
 obtain⟨G,n,b1,b2,b3⟩ := @Lr _ _ _ _ _ _ at0 _ _ _ _ Tryz.underlying29 hc1 _ _ t1'
 obtain⟨many,rfl,rfl,rfl,w2⟩:=open_int Tryz.underlying5 (hval 2 5 v2 rfl rfl) h2
 obtain⟨pic,rfl,rfl,rfl,w3⟩:=open_int Tryz.underlying3 (hval 3 3 v3 rfl rfl) h3
 obtain⟨cols,rfl,rfl,rfl,w4⟩:=open_int Tryz.underlying3 (hval 4 3 v4 rfl rfl) h4
 obtain⟨qp,rfl,rfl,rfl,w5⟩:=open_int Tryz.underlying3 (hval 5 3 v5 rfl rfl) h5
 letI:aw:=n5 G
 have hv:∀β : Env,v0 = .agg ((bX (zZ g)).map (·.den β)).toArray:=fun β=>(a2 β).trans (by
  congr 2)
 refine(walk (GK a1) hv (Ls b2 b3) (by rw[List.length_map,List.length_range];exact b1) (Lq b2) (qp:=qp) (bounds_u8 w2) (bounds_i64 w3) (bounds_i64 w4)).mono fun e W' ⟨he,bel⟩=>?_
 subst he
 exact⟨_,rfl,_,_,_,[],_,[],hW',trodAll_mk1 (shut_bool Tryz.underlying4 _),(trodAll_cons_mk (Below.trod laidOut (by kernel_rfl) (of_decide_eq_true (by kernel_rfl)) k0 bel lt0) (trodAll_cons_mk (Below.trod laidOut (by kernel_rfl) (of_decide_eq_true (by kernel_rfl)) k1 bel lt1) (trodAll_cons_mk (shut_int Tryz.underlying5 w2) (trodAll_cons_mk (shut_int Tryz.underlying3 w3) (trodAll_cons_mk (shut_int Tryz.underlying3 w4) (trodAll_cons_mk (shut_int Tryz.underlying3 w5) trodAll_mk0)))))),rfl,bel.frame _,fun h=>by cases h⟩
theorem ML:Rows.encErrorsRow.holds Tryz.pinned (OpenSpec.ofChange Rows.encErrorsSpec):=
 OpenClaim.holds_of_wide 3 Tryz.f3 rfl rfl rfl rfl rfl rfl rfl ⟨rfl,rfl,rfl,rfl,rfl⟩ rfl rfl rfl rfl rfl (by kernel_rfl) Tryz.func3 (by kernel_rfl)
  (of_decide_eq_true (by kernel_rfl)) (by unfold Func.isWrapper;first|(rw[if_pos (by decide +kernel)];kernel_rfl)|(rw[if_neg (by decide +kernel)];exact⟨rfl,rfl⟩))
  (fun os started H enc _=>lifted os started H enc)
theorem proved:Rows.EncErrorsSaid:=ML
end Go.Proofs.YtnkodcmkpfefhaaGreat.encErrors
