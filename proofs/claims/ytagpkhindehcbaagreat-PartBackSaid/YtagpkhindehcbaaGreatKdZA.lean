/-
  A part of the proof: TakeK, Bytes, Awake.
-/
import Derived.Test.YtagpkhindehcbaaGreatKdE
import Derived.Test.YtagpkhindehcbaaGreatKdH
import Derived.Test.YtagpkhindehcbaaGreatKdY
import Derived.Test.YtagpkhindehcbaaGreatKdZ
set_option maxRecDepth 10000
set_option maxHeartbeats 8000000
set_option linter.unusedVariables false
set_option linter.unusedSectionVars false
set_option linter.unusedSimpArgs false
namespace Go.Xm
variable [az]
theorem WX.zM {P:Program} {nt nI:Nat} {al:bm} {c:va} {K:dj}:∀(n:Nat) {hs:aj}(hb:Nat.blt (hs.length+n) Mem.bound=true) (h:WX P nt nI c al (hs++List.replicate n .dead) K),WX P nt nI c al hs K
 | 0,hs,hb,h=>by rw [List.replicate_zero,List.append_nil]at h;exact h
 | n+1,hs,hb,h=>by
   rw [Nat.blt_eq]at hb
   refine WX.cW (by rw [Nat.blt_eq];omega) (WX.zM n (by rw [List.length_append,Nat.blt_eq];show hs.length+1+n<_;omega) ?_)
   rw [List.append_assoc]
   exact h
theorem xV {τ : Nat→Nat} {HS:aj} {g:Nat→Nat} {f:Nat→ak}(hf:∀ j,cI (f j)) {ls:List Nat} {l:aj}(h:ae τ HS ls l):∀(js:List Nat),(∀ j∈js,HS[g j]? = some (f j)∨(f j = .dead∧g j<HS.length))→ae τ HS (js.map g++ls) (js.map f++l)
 | [],_=>h
 | j :: js,hj=>by
   have ih:=xV hf h js fun i hi=>hj i (List.mem_cons_of_mem _ hi)
   rcases hj j (List.mem_cons_self ..)with h1|⟨h1,h2⟩
   · have:=hf j
     exact ae.flat h1 ih
   · show ae τ HS (g j::(js.map g++ls)) (f j::(js.map f++l))
     rw [h1]
     exact ae.dead (by rw [Nat.blt_eq];exact h2) ih
theorem C5 {τ : Nat→Nat} {f:Nat→ak}(hf:∀ j,cI (f j)) {l m:aj}(h:da τ l m):∀(js:List Nat),da τ (js.map f++l) (js.map f++m)
 | []=>h
 | j::js=>by have:=hf j;exact da.flat (C5 hf h js)
theorem Bt {n:Nat} {f:Nat→ak}(hf:∀ j,cI (f j)) {l:aj}(h:bl n l):∀(js:List Nat),bl n (js.map f++l)
 | []=>h
 | j::js=>by have:=hf j;exact bl.flat (Bt hf h js)
theorem wg:∀ h:aj,dP h h=true
 | []=>rfl
 | o::h=>by
   simp only [dP,Bool.and_eq_true]
   exact⟨by cases o.live <;> simp,wg h⟩
theorem Dc (e:TypeId) (cs:List XC) (τ : Nat→Nat):(b8 e cs).ay τ = b8 e (cs.map (·.ay τ)):=by cases cs <;> rfl
section
variable {P:Program} {ops:Array Oper} {nt nI:Nat} {al:bm} {hs:aj} {o:Oper} {l:List Oper} {L:List aH} {K:List Ab→bm→aj→Prop} {d:Nat}
theorem PY {t t1 e e1:TypeId} {a b:Operand} {i n j:Nat} {cap:r_} {cs:List XC} {c:XC} {et:TypeId} {opn ro:Bool} {N:Nat} {hs':aj}(hn:cs.length=n) (hk:SK P ops nt L l ((d,fS N (n+1) 1)::al) hs' fun bs=>K (⟨true,.none,[i,N]⟩::bs)) (ho:o.op = .call ⟨.builtin .append,#[a,b],#[t,t1]⟩:=by exact rfl) (hu:a_ P t (.slice e):=by infer_instance) (hu1:a_ P t1 (.slice e1):=by infer_instance) (hz:bt P e [.nils]:=by infer_instance) (hI:TI P e 1:=by infer_instance) (wn:Wn ops nt al o d:=by exact⟨rfl,rfl,rfl⟩) (ha:ai (rg al) a=fS i n 1:=by exact rfl) (hi:hs[i]? = some (b8 e cs):=by exact rfl) (hb:ai (rg al) b = .one (.slice j 0 1 cap):=by exact rfl) (hj:hs[j]? = some (.cells [c] et opn ro):=by exact rfl) (hm:n+1≤2000000000:=by omega) (hN:hs.length=N:=by exact nL) (hbd:Nat.blt N Mem.bound=true:=by exact rfl) (hh:hs.set i .dead++[.cells (cs++[c]) e true false]=hs':=by first|(simp only [List.set_cons_succ,List.set_cons_zero,List.cons_append,List.nil_append];exact rfl)|exact rfl):SK P ops nt L (o::l) al hs K:=by
 rw [lg (Nat.succ_ne_zero _)]at hk
 exact BI (zs:=[.nils]) (sz:=1) ho wn.w wn.e wn.l ⟨rfl,by decide⟩ ha hi (by rw [hn,Nat.mul_one]) (qV hb hj rfl) ⟨by decide,hm⟩ hN hbd hh hk
end
end Go.Xm
namespace Go.Proofs.YtagpkhindehcbaaGreat
open Go.Xm
variable [az]
def fE (E:List (List Ev)) (j:Nat):ak:=dc (E.getD j [])
instance GO (E:List (List Ev)) (j:Nat):cI (fE E j):=by unfold fE;infer_instance
def iV (b:Nat) (E:List (List Ev)):List XC:=(List.range E.length).map fun j=>gQ (b+j) (E.getD j []).length 3
abbrev lC (b:Nat) (E:List (List Ev)):ak:=b8 106 (iV b E)
theorem lX (b:Nat) (E:List (List Ev)):(iV b E).length=E.length:=by simp [iV]
theorem Hu (b:Nat) (E:List (List Ev)) {j:Nat}(hj:j<E.length):(iV b E)[j]? = some (gQ (b+j) (E.getD j []).length 3):=by
 unfold iV
 rw [List.getElem?_map,List.getElem?_range hj];rfl
theorem y9 {E:List (List Ev)} {l:List Ev} {j:Nat}(hj:j<E.length):(E++[l]).getD j []=E.getD j []:=by
 rw [List.getD_eq_getElem?_getD,List.getElem?_append_left hj,←List.getD_eq_getElem?_getD]
theorem y_ {E:List (List Ev)} {l:List Ev}:(E++[l]).getD E.length []=l:=by
 rw [List.getD_eq_getElem?_getD,List.getElem?_append_right (Nat.le_refl _),Nat.sub_self];rfl
theorem Bw (b:Nat) (E:List (List Ev)) (l:List Ev):iV b (E++[l])=iV b E++[gQ (b+E.length) l.length 3]:=by
 unfold iV
 rw [List.length_append,List.length_singleton,List.range_succ,List.map_append]
 congr 1
 · exact List.map_congr_left fun j hj=>by rw [y9 (List.mem_range.1 hj)]
 · rw [List.map_singleton,y_]
theorem v5 {b b':Nat} {E:List (List Ev)} {τ : Nat→Nat}(h:∀ j,j<E.length → τ (b+j)=b'+j):(iV b E).map (·.ay τ)=iV b' E:=by
 unfold iV
 rw [List.map_map]
 exact List.map_congr_left fun j hj=>by show(gQ _ _ _).ay τ = _;rw [aw,h j (List.mem_range.1 hj)]
theorem uf {b b':Nat} {E:List (List Ev)} {τ : Nat→Nat}(h:∀ j,j<E.length → τ (b+j)=b'+j):(lC b E).ay τ = lC b' E:=by
 rw [Dc,v5 h]
theorem sV {b n:Nat} {E:List (List Ev)}(h:b+E.length≤n):(lC b E).b7 n:=by
 have hm:∀ c∈iV b E,c.ok n:=fun c hc=>by
  unfold iV at hc
  obtain⟨j,hj,rfl⟩:=List.mem_map.1 hc
  have:=List.mem_range.1 hj
  exact bc (by omega)
 show(b8 _ (iV b E)).b7 n
 cases ho:iV b E with
 | nil=>trivial
 | cons c cs=>rw [ho]at hm;exact hm
theorem Ey {E:List (List Ev)} {l:List Ev} {τ : Nat→Nat} {b N:Nat}(h:∀ j,j<E.length → τ (b+j)=b+j) (hu : τ (b+E.length)=N):(lC b (E++[l])).ay τ = .cells (iV b E++[gQ N l.length 3]) 106 true false:=by
 rw [Dc,Bw,List.map_append,v5 h,List.map_singleton,aw,hu]
 exact fx (by simp)
theorem Mt (E:List (List Ev)) (j:Nat):sN (fE E j) lA (E.getD j []):=by
 refine⟨fun h=>?_,inferInstance⟩
 unfold fE
 exact⟨_,_,_,fx (CH (fun h0=>by rw [h0]at h;exact absurd h (Nat.lt_irrefl 0)))⟩
theorem Ms {E:List (List Ev)}(hE:∀ e∈E,lJ e) (h54:E.length≤54):Lx (lC 15 E) (fE E) E:=by
 have hin:∀ j,j<E.length→lJ (E.getD j []):=fun j hj=>hE _ (by rw [List.getD_eq_getElem?_getD,List.getElem?_eq_getElem hj];exact List.getElem_mem hj)
 refine⟨fun h0=>⟨iV 15 E,_,_,_,fx (fun h=>?_),fun j hj=>⟨_,Hu 15 E hj,.inr ⟨by omega,?_,Mt E j⟩⟩⟩,hin,fun j=>inferInstance,fun n hn=>sV (by omega),fun τl h=>uf fun j hj=>GN h _ (by omega)⟩
 · have:=lX 15 E
   rw [h]at this
   exact absurd this (by show¬0=_;omega)
 · by_cases hz:(E.getD j []).length=0
   · exact .inl ⟨hz,by rw [hz];rfl⟩
   · exact .inr ⟨.toEnd 3,if_neg hz⟩
theorem D8 {h:Hd} {p:Ph} {first:Int} {l:List Ol}(hT:vA h p first l) {E:List (List Ev)}(hE:∀ e∈E,lJ e) (h54:E.length≤54) :
 bn Tryz.prog 15 [.one (.ptr 0 0),.agg (gO h),.agg (iJ p),.one (.int .i64 first),fS 13 l.length 397,fS 14 E.length 1] (nu l (lC 15 E) (fE E) []) (CF (gI E first l (gR h p))) (nu l (lC 15 E) (fE E) [kn (gI E first l (gR h p))]):=by
 have hA:=Ms hE h54
 by_cases h0:E.length=0
 · have e:fS 14 E.length 1 = .one .nils:=by rw [h0];rfl
   rw [e]
   exact vN hT hA (.inl ⟨h0,.inl rfl⟩)
 · rw [lg h0]
   obtain⟨vs,et,opn,ro,ho,_⟩:=hA.out (by omega)
   have hvs:lC 15 E = .cells (iV 15 E) 106 true false:=fx (fun h=>by have:=lX 15 E;rw [h]at this;exact h0 this.symm)
   exact DX [.one (.ptr 0 0),.agg (gO h),.agg (iJ p),.one (.int .i64 first),fS 13 l.length 397] [] (i:=14) (off:=0) (n:=E.length) (s:=1) (by decide) (vs:=iV 15 E) (e:=106) (opn:=true) (ro:=false) (by rw [←hvs];rfl) (by rw [lX];omega) fun cap hcap=>vN hT hA (eX.mk hcap)
theorem yJ {B:List Bool}:∀(k:Nat) (r:Nat × Bool) (acc:List Ev),(∀ e∈acc,mw e∧e.2.2=false)→acc.length+k≤64→lJ (nP B k r acc).1
 | 0,r,acc,_,_=>⟨fun j hj=>absurd hj (Nat.not_lt_zero _),fun j hj=>absurd hj (Nat.not_lt_zero _),Nat.zero_le _⟩
 | k + 1, r,acc,ha,hl=>by
   rw [nP]
   obtain⟨e,he⟩:∃ e,FQ (bT B r).1 (bT B (bT B r).2).1=e:=⟨_,rfl⟩
   rw [he]
   split
   · exact⟨fun j hj=>absurd hj (Nat.not_lt_zero _),fun j hj=>absurd hj (Nat.not_lt_zero _),Nat.zero_le _⟩
   · rename_i hn
     have hok:mw e:=tI (by cases hr:iO e with|true=>rfl|false=>exact absurd (.inr hr) hn)
     have hlen:(acc++[e]).length=acc.length+1:=by rw [List.length_append];rfl
     split
     · rename_i hlast
       have hlo:∀ j,j<acc.length→(acc++[e]).getD j default=acc.getD j default∧acc.getD j default∈acc:=fun j hj=>by
        rw [List.getD_eq_getElem?_getD,List.getElem?_append_left hj,List.getD_eq_getElem?_getD,List.getElem?_eq_getElem hj]
        exact⟨rfl,List.getElem_mem hj⟩
       have hhi:(acc++[e]).getD acc.length default=e:=by rw [List.getD_eq_getElem?_getD,List.getElem?_append_right (Nat.le_refl _),Nat.sub_self];rfl
       refine⟨fun j hj=>?_,fun j hj=>?_,by dsimp only;omega⟩
       · have hj':j<acc.length+1:=by rw [←hlen];exact hj
         show mw ((acc++[e]).getD j default)
         by_cases h:j<acc.length
         · rw [(hlo j h).1];exact(ha _ (hlo j h).2).1
         · obtain rfl:j=acc.length:=by omega
           rw [hhi];exact hok
       · have hj':j<acc.length+1:=by rw [←hlen];exact hj
         show((acc++[e]).getD j default).2.2=decide (j+1=(acc++[e]).length)
         rw [hlen]
         by_cases h:j<acc.length
         · rw [(hlo j h).1,(ha _ (hlo j h).2).2,decide_eq_false (by omega)]
         · obtain rfl:j=acc.length:=by omega
           rw [hhi,hlast,decide_eq_true rfl]
     · rename_i hlast
       refine yJ k _ _ (fun x hx=>?_) (by omega)
       rcases List.mem_append.1 hx with hx|hx
       · exact ha x hx
       · rw [List.mem_singleton.1 hx]
         exact⟨hok,by cases h:e.2.2 with|true=>exact absurd h hlast|false=>rfl⟩
theorem Ge (B:List Bool) (r:Nat × Bool):lJ (jX B r).1:=yJ 64 r [] (fun e he=>by cases he) (by decide)
noncomputable def z5 (B:List Bool) (first:Int) (l:List Ol) (S0:bC):Int ⊕ List Mb:=
 let y:=nQ B (pr l) ([],(0,false))
 if rC B y.2≠0 then .inl (rC B y.2)else gI y.1 first l S0
def Iy (k:Nat):Int ⊕ List Mb→XV
 | .inl e => .tup [.one .nils,.one (.int .i64 e)]
 | .inr l => .tup [.one (gQ k l.length 391),.one (.int .i64 0)]
abbrev Jq (a b:List Int) (h:Hd) (p:Ph) (l:List Ol) (q:List Int) (B:List Bool) (E:List (List Ev)) (r:Nat × Bool) (x:aj):aj:=bM 1 5 9::ax 2 3 4 cM::aU cM::aW cM::aV cM::ax 6 7 8 cZ::aU cZ::aW cZ::aV cZ::ax 10 11 12 cP::aU cP::aW cP::aV cP::b8 5 (il .u8 a)::b8 5 (il .u8 b) :: .cells (gO h) 26 false false :: .cells (iJ p) 28 false false::b8 56 (fl iI l)::br 19 q B r.1 r.2::aM q::lC 21 E::fE E 0::fE E 1::fE E 2::fE E 3::fE E 4::fE E 5::fE E 6::fE E 7::fE E 8::fE E 9::fE E 10::fE E 11::fE E 12::fE E 13::fE E 14::fE E 15::fE E 16::fE E 17::fE E 18::fE E 19::fE E 20::fE E 21::fE E 22::fE E 23::fE E 24::fE E 25::fE E 26::fE E 27::fE E 28::fE E 29::fE E 30::fE E 31::fE E 32::fE E 33::fE E 34::fE E 35::fE E 36::fE E 37::fE E 38::fE E 39::fE E 40::fE E 41::fE E 42::fE E 43::fE E 44::fE E 45::fE E 46::fE E 47::fE E 48::fE E 49::fE E 50::fE E 51::fE E 52::fE E 53::x
theorem Nu {a b:List Int} {h:Hd} {p:Ph} {l:List Ol} {q:List Int} {B:List Bool} {E:List (List Ev)} {r:Nat × Bool} {x:aj} {u:Nat}(hu:u<54):(Jq a b h p l q B E r x)[21+u]? = some (fE E u):=by
 have e:Jq a b h p l q B E r x=(Jq a b h p l q B E r []).take 21++((List.range 54).map (fE E)++x):=rfl
 rw [e,List.getElem?_append_right (by show 21≤21+u;omega),show 21+u-((Jq a b h p l q B E r []).take 21).length=u by show 21+u-21=u;omega,List.getElem?_append_left (by rw [List.length_map,List.length_range];exact hu),List.getElem?_map,List.getElem?_range hu]
 rfl
abbrev vv:List Nat:=oM 0 (17::20::((List.range 54).map (21 + ·)++[]))
theorem z_ {r:List Nat} {j:Nat}(hj:j<54):nth (vv++r) (15+j)=21+j:=by
 have e:vv++r=oM 0 [17,20]++((List.range 54).map (21 + ·)++r):=rfl
 unfold nth
 rw [e,List.getD_eq_getElem?_getD,List.getElem?_append_right (by show 15≤15+j;omega),show 15+j-(oM 0 [17,20]).length=j by show 15+j-15=j;omega,List.getElem?_append_left (by rw [List.length_map,List.length_range];exact hj),List.getElem?_map,List.getElem?_range hj]
 rfl
theorem y4 {h:Hd} {p:Ph} {first:Int} {l:List Ol}(hT:vA h p first l) {E:List (List Ev)}(hE:∀ e∈E,lJ e) (h54:E.length≤54) {R:Int ⊕ List Mb}(hR:gI E first l (gR h p)=R) {v:XV}(hv:Iy 75 R=v) {o:ak}(ho:kn R=o) {n m:Nat}(hn:l.length=n) (hm:E.length=m) {a b q:List Int} {B:List Bool} {r:Nat × Bool} :
 aH.Sound Tryz.prog ⟨15,[.one (.ptr 0 0),.agg (gO h),.agg (iJ p),.one (.int .i64 first),.one (gQ 17 n 397),.one (gQ 20 m 1)],Jq a b h p l q B E r [],v,Jq a b h p l q B E r [o],vv⟩:=by
 subst hn hm hv ho hR
 have hF:=fun j=>GO E j
 have hc:=D8 hT hE h54
 generalize gI E first l (gR h p)=R at hc
 have hvia:ae (nth vv) (Jq a b h p l q B E r []) vv (fk++(b8 56 (fl iI l)::lC 15 E::((List.range 54).map (fE E)++[]))):=xv (K:=0) rfl (fun j hj=>t_ 0 _ j hj) (.flat rfl (.cons (by
  rw [uf (b':=21) fun j hj=>by have:=z_ (r:=[]) (j:=j) (by omega);rw [List.append_nil]at this;exact this];rfl) (xV hF .nil (List.range 54) fun j hj => .inl (Nu (List.mem_range.1 hj)))))
 have hren:da (nth (vv++[75])) (fk++(b8 56 (fl iI l)::lC 15 E::((List.range 54).map (fE E)++[kn R]))) (eZ 0++(b8 56 (fl iI l)::lC 21 E::((List.range 54).map (fE E)++[kn R]))):=sR (K:=0) (fun j hj=>t_ 0 _ j hj) (.flat (.cons (uf fun j hj=>z_ (by omega)) (C5 hF (.flat .nil) (List.range 54))))
 have hnd:vv.Nodup:=by decide +kernel
 have hok1:bl 69 (fk++(b8 56 (fl iI l)::lC 15 E::((List.range 54).map (fE E)++[]))):=mH (l:=b8 56 (fl iI l)::lC 15 E::((List.range 54).map (fE E)++[])) (by show 13≤69;omega) (.flat (.cons (sV (by show _≤69;omega)) (Bt hF .nil (List.range 54))))
 have hok2:bl 70 (fk++(b8 56 (fl iI l)::lC 15 E::((List.range 54).map (fE E)++[kn R]))):=mH (l:=b8 56 (fl iI l)::lC 15 E::((List.range 54).map (fE E)++[kn R])) (by show 13≤70;omega) (.flat (.cons (sV (by show _≤70;omega)) (Bt hF (.flat .nil) (List.range 54))))
 have hput:bG (Jq a b h p l q B E r []) vv (eZ 0++(b8 56 (fl iI l)::lC 21 E::((List.range 54).map (fE E)++[kn R])))=Jq a b h p l q B E r [kn R]:=by kernel_rfl
 have hro:dP (nu l (lC 15 E) (fE E) []) (nu l (lC 15 E) (fE E) [kn R])=true:=by
  refine sY (nu l (lC 15 E) (fE E) []) [] [kn R] (wg _) ?_
  cases R with
  | inl e=>rfl
  | inr l=>
    show dP [] [b8 53 (fl mC l)]=true
    cases fl mC l <;> rfl
 refine bV (os:=eZ 0++(b8 56 (fl iI l)::lC 21 E::((List.range 54).map (fE E)++[kn R]))) vv vv 1 hc hnd hvia hok1 hok2 rfl (.cons (by show 0<69;omega) (.flat (.flat (.flat (.cons (ff (Nat.le_of_ble_eq_true rfl)) (.cons (ff (Nat.le_of_ble_eq_true rfl)) .nil)))))) (.cons rfl (.flat (.flat (.flat (.cons (cY ..) (.cons (cY ..) .nil)))))) ?_ ?_ hren hro rfl hput rfl (.inl rfl)
 · cases R with
   | inl e=>exact XV.gX rfl _
   | inr l=>exact Et (bc (Nat.le_of_ble_eq_true rfl)) trivial
 · cases R with
   | inl e=>rfl
   | inr l=>simp only [CF,Iy,XV.ay,List.map_cons,List.map_nil,X1.ay,aw];rfl
structure NV (B:List Bool) (n:Nat) (X s:List (List Ev) × (Nat × Bool)):Prop where
 le:s.1.length≤n
 run:nQ B (n-s.1.length) s=X
 ins:∀ e∈s.1,lJ e
theorem Gu {HS:aj} {f:Nat→ak}(h:(HS.drop 21).take 54=(List.range 54).map f) {j:Nat}(hj:j<54):HS[21+j]? = some (f j):=by
 rw [←List.getElem?_drop,←List.getElem?_take_of_lt hj,h,List.getElem?_map,List.getElem?_range hj];rfl
abbrev BU (u:Nat):List Nat:=0::1::2::3::4::5::6::7::8::9::10::11::12::13::14::15::16::17::18::19::77::((List.range 54).map (fun j=>if j=u then 75 else 21+j)++[])
theorem IF:∀ u:Fin 54,(BU u.val).Nodup:=by decide +kernel
theorem La {u:Nat}(hu:u<54):(BU u).Nodup:=IF ⟨u,hu⟩
theorem Dl (u:Nat) {j:Nat}(hj:j<54):nth (BU u) (21+j)=if j=u then 75 else 21+j:=by
 have e:BU u=(BU u).take 21++((List.range 54).map (fun j=>if j=u then 75 else 21+j)++[]):=rfl
 unfold nth
 rw [e,List.getD_eq_getElem?_getD,List.getElem?_append_right (by show 21≤21+j;omega),show 21+j-((BU u).take 21).length=j by show 21+j-21=j;omega,List.getElem?_append_left (by rw [List.length_map,List.length_range];exact hj),List.getElem?_map,List.getElem?_range hj]
 rfl
theorem JT {E:List (List Ev)} {l:List Ev} {HS:aj}(hd:(HS.drop 21).take 54=(List.range 54).map (fE E)) (h75:HS[75]? = some (dc l)):∀ j∈List.range 54,HS[if j=E.length then 75 else 21+j]? = some (fE (E++[l]) j)∨(fE (E++[l]) j = .dead∧(if j=E.length then 75 else 21+j)<HS.length):=fun j hj=>by
 left
 unfold fE
 by_cases hu:j=E.length
 · subst hu
   rw [if_pos rfl,y_];exact h75
 · rw [if_neg hu,Gu hd (List.mem_range.1 hj)]
   unfold fE
   by_cases h:j<E.length
   · rw [y9 h]
   · rw [List.getD_eq_getElem?_getD,List.getElem?_eq_none (by omega),List.getD_eq_getElem?_getD,List.getElem?_eq_none (by rw [List.length_append,List.length_singleton];omega)]
theorem Fa {h:Hd} {p:Ph} {a b qa:List Int} {Ba:List Bool} {first:Int} {n:Nat}(hT:qh h p a qa Ba first n) {x:TA}(hx:l7 Ba first n ⟨gR h p,(0,false),[]⟩=x) (he:rC Ba x.r=0) (hF:vA h p first x.out) (h9:x.out.length≤9) (hb:dZ b) (hbl:b.length≤30000) {q:List Int} {B:List Bool}(hesc:j0 b b.length [] 0 0=some q) (hsz:ef q=(B.length,true)) (hfit:B.length≤8*q.length) (hB:cK q B) {R:Int ⊕ List Mb}(hR:z5 B first x.out (gR h p)=R) :
 bn Tryz.prog 17 [.one (.ptr 0 0),.agg (gO h),.agg (iJ p),.one (.int .i64 first),.one (.int .i64 (n:Nat)),fS 13 a.length 1,fS 14 b.length 1] (fk++[b8 5 (il .u8 a),b8 5 (il .u8 b)]) (Iy 15 R) (fk++[b8 5 (il .u8 a),b8 5 (il .u8 b),kn R]):=by
 obtain⟨N,hmf⟩:∃ N,pr x.out=N:=⟨_,rfl⟩
 have hN:N≤54:=by have:=t5 x.out x.out.length;rw [←hmf];unfold pr;omega
 unfold z5 at hR
 rw [hmf]at hR
 obtain⟨X,hX⟩:∃ X,nQ B N ([],(0,false))=X:=⟨_,rfl⟩
 rw [hX]at hR
 dsimp only at hR
 refine cO Tryz.func17 ?_
 repeat' (first
  |(refine qz ?_;first
   |refine fW ?_ (hle:=by rw [bE])
   |refine cl ?_ (hi:=by exact IB hT hx he rfl rfl rfl rfl (by decide) nL (by simp only [fk,List.cons_append,List.nil_append];exact rfl) rfl)
   |refine cl ?_ (hi:=by exact CW hb hbl hesc hsz hfit rfl rfl nL nA rfl)
   |refine cl ?_ (hi:=by exact Kj (by omega) rfl hmf rfl rfl))
  |refine zz ?_|refine zx (fun _=>?_) (fun _=>?_)|fail)
 refine WX.cW rfl ?_
 refine WX.zM 54 rfl ?_
 refine WX.cS (σ:=List (List Ev) × (Nat × Bool)) (fun s=>[(0,.one (.ptr 0 0)),(3,.one (.int .i64 first)),(8,.one (.ptr 15 0)),(9,.one (.ptr 16 0)),(16,.one (gQ 17 x.out.length 397)),(18,.one (.ptr 18 0)),(43,.one (.int .i64 (N:Nat))),(19,fS 20 s.1.length 1),(44,.one (.int .i64 (s.1.length:Nat)))]) (fun s=>Jq a b h p x.out q B s.1 s.2 []) (NV B N X) (fun s=>N-s.1.length) ([],(0,false)) ⟨Nat.zero_le _,hX,fun e he=>by cases he⟩ (fun s hs=>by have hle:=hs.le;exact(j5 (objs:=by repeat' (first|exact bl.nil|refine bl.cons (sV (by show 21+_≤75;omega)) ?_|refine bl.flat ?_|refine bl.cons (by first|(simp [ak.b7,XC.ok,bc];done)|simp [ak.b7,XC.ok,bc, *]) ?_)))) (bh (0::1::2::3::4::5::6::7::8::9::10::11::12::13::14::15::16::17::18::19::20::21::22::23::24::25::26::27::28::29::30::31::32::33::34::35::36::37::38::39::40::41::42::43::44::45::46::47::48::49::50::51::52::53::54::55::56::57::58::59::60::61::62::63::64::65::66::67::68::69::70::71::72::73::74::[])) ?_
 intro s hs ih
 have hle:=hs.le
 have hrun:=hs.run
 by_cases hlt:s.1.length<N
 · obtain⟨l,p',e',hq⟩:∃ l p' e',jX B (s.2.1,s.2.2)=(l,p',e'):=⟨_,_,_,rfl⟩
   obtain⟨k,hk⟩:∃ k,N-s.1.length=k+1:=⟨N-s.1.length-1,by omega⟩
   have hq':jX B s.2=(l,p',e'):=hq
   rw [hk,nQ,hq']at hrun
   dsimp only at hrun
   have hl1:(s.1++[l]).length=s.1.length+1:=by rw [List.length_append];rfl
   have hin:lJ l:=by have:=Ge B (s.2.1,s.2.2);rw [hq]at this;exact this
   cases e' with
   | true=>
     rw [if_pos rfl]at hrun
     rw [←hrun]at hR
     have e3:rC B (p',true)=3:=rfl
     rw [e3,if_pos (by decide)]at hR
     subst hR
     repeat' (first
      |(refine qz ?_;first
       |refine cl ?_ (hi:=by exact yM hB hq rfl rfl (by decide) nL nA rfl)
       |refine PY (lX _ _) ?_
       |refine cl ?_ (hi:=by exact oU rfl rfl rfl (by decide) rfl))
      |refine zz ?_|refine zx (fun _=>?_) (fun _=>?_)|fail)
     show aC _ _ _ _ _ _ _ _;refine kV [0,1,2,3,4,5,6,7,8,9,10,11,12,13,14,20] ?_
     rfl
   | false=>
     rw [if_neg Bool.false_ne_true]at hrun
     repeat' (first
      |(refine qz ?_;first
       |refine cl ?_ (hi:=by exact yM hB hq rfl rfl (by decide) nL nA rfl)
       |refine PY (lX _ _) ?_
       |refine cl ?_ (hi:=by exact oU rfl rfl rfl (by decide) rfl))
      |refine zz ?_|refine zx (fun _=>?_) (fun _=>?_)|fail)
     refine ih (s.1++[l],(p',false)) _ _ _ (bh (BU s.1.length) (nd := .inl (La (by omega))) (obj:=by
      iterate 20 (first|refine ae.flat rfl ?_|refine ae.cons rfl ?_)
      refine ae.cons ?_ (xV (fun j=>GO _ j) .nil (List.range 54) (JT rfl rfl))
      rw [Ey (N:=75) (fun j hj=>by rw [Dl _ (by omega),if_neg (by omega)]) (by rw [Dl _ (by omega),if_pos rfl])]
      rfl) (reg:=by
      repeat' (first|exact af.nil|refine af.flat (by rw [hl1];rfl) ?_|refine af.flat rfl ?_|refine af.cons (by rw [cY,hl1];rfl) ?_|refine af.cons rfl ?_|refine af.dY rfl rfl (by rfl) ?_)
      first|done|fail)) ⟨by dsimp only;omega,by dsimp only;rw [hl1,show N-(s.1.length+1)=k by omega];exact hrun,fun e he=>by
       rcases List.mem_append.1 he with he|he
       · exact hs.ins e he
       · rw [List.mem_singleton.1 he];exact hin⟩ (by dsimp only;omega)
 · have h0:N-s.1.length=0:=by omega
   rw [h0]at hrun
   have hrun:s=X:=hrun
   subst hrun
   obtain⟨z,hz⟩:∃ z,rC B s.2=z:=⟨_,rfl⟩
   rw [hz]at hR
   by_cases hz0:z=0
   · rw [if_neg (by omega)]at hR
     subst hz0
     cases R with
     | inl e=>
       repeat' (first
        |(refine qz ?_;first
         |refine fW ?_ (hle:=by rw [bE])
         |refine cl ?_ (hi:=by exact qP hz rfl rfl (by decide) rfl)
         |refine cl ?_ (hi:=by exact y4 hF hs.ins (by omega) hR rfl rfl rfl rfl))
        |refine zz ?_|refine zx (fun _=>?_) (fun _=>?_)|fail)
       show aC _ _ _ _ _ _ _ _;refine kV [0,1,2,3,4,5,6,7,8,9,10,11,12,13,14,75] ?_
       rfl
     | inr r=>
       repeat' (first
        |(refine qz ?_;first
         |refine fW ?_ (hle:=by rw [bE])
         |refine cl ?_ (hi:=by exact qP hz rfl rfl (by decide) rfl)
         |refine cl ?_ (hi:=by exact y4 hF hs.ins (by omega) hR rfl rfl rfl rfl))
        |refine zz ?_|refine zx (fun _=>?_) (fun _=>?_)|fail)
       show aC _ _ _ _ _ _ _ _;refine kV [0,1,2,3,4,5,6,7,8,9,10,11,12,13,14,75] ?_
       simp only [Iy,XV.ay,List.map_cons,List.map_nil,X1.ay,aw];rfl
   · rw [if_pos hz0]at hR
     subst hR
     repeat' (first
      |(refine qz ?_;first
       |refine cl ?_ (hi:=by exact qP hz rfl rfl (by decide) rfl))
      |refine zz ?_|refine zx (fun _=>?_) (fun _=>?_)|fail)
     show aC _ _ _ _ _ _ _ _;refine kV [0,1,2,3,4,5,6,7,8,9,10,11,12,13,14,20] ?_
     rfl
end Go.Proofs.YtagpkhindehcbaaGreat
namespace Go.Xm
variable [az]
variable {P:Program} {ops:Array Oper} {nt nI:Nat} {al:bm} {hs:aj} {o:Oper} {l:List Oper} {L:List aH} {K:List Ab→bm→aj→Prop} {d:Nat}
theorem aI.bytes {O:dt}(hw:au ops (rg al) o=some true) {s t:TypeId} {x:Operand}(ho:o.op = .convert s t x) {e:TypeId}(hs1:P.underlying s=some (.slice e)) (he:P.underlying e=some (.int .u8)) (hd:P.underlying t=some .string) {i off len:Nat} {cap:r_}(hx:ai (rg al) x = .one (.slice i off len cap)) {vs:List XC} {et:TypeId} {opn ro:Bool}(hi:hs[i]? = some (.cells vs et opn ro)) (hfit:off+len≤vs.length) {ns:List Int}(hb:oA ((vs.drop off).take len)=some ns) :
 aI O P ops al hs o (.one (.str (oD ns))) hs ⟨false,some i,[]⟩:=by
 intro m hm
 refine⟨m,?_,hm,fun _ _=>rfl⟩
 unfold jV
 rw [hw]
 obtain⟨f,hf1,hf2⟩:∃ f,fL P (ai (rg al)) o.op=some (i,f)∧∀ vs' e' o' r',f (.cells vs' e' o' r')=if off+len≤vs'.length then(oA ((vs'.drop off).take len)).map fun ns=>XV.one (.str (oD ns))else .none:=by
  rw [ho]
  simp only [fL,hs1,hd,hx,he]
  exact⟨_,rfl,fun _ _ _ _=>rfl⟩
 refine rY (by rw [ho];simp only [bj,kG,hs1,hd,hx]) (by rw [ho];simp only [pj,hx]) hf1 ?_
 rw [hm.at hi,hf2,if_pos hfit,hb]
 rfl
theorem wO:∀ a:List Int,oA (il .u8 a)=some a
 | []=>rfl
 | z::a=>by
   show(oA (il .u8 a)).map (z :: ·)=_
   rw [wO a];rfl
theorem P0 {s t e:TypeId} {x:Operand} {i:Nat} {a:List Int}(hne:a.length≠0) (hk:SK P ops nt L l ((d,.one (.str (oD a)))::al) hs fun bs=>K (⟨false,some i,[]⟩::bs)) (ho:o.op = .convert s t x:=by exact rfl) (hu:a_ P s (.slice e):=by infer_instance) (he:a_ P e (.int .u8):=by infer_instance) (ht:a_ P t .string:=by infer_instance) (hw:au ops (rg al) o=some true:=by exact rfl) (hd:o.dst=some d:=by exact rfl) (hlt:Nat.blt d nt=true:=by exact rfl)
 (hx:ai (rg al) x = .one (gQ i a.length 1):=by exact rfl) {et:TypeId}(hi:hs[i]? = some (b8 et (il .u8 a)):=by exact rfl):SK P ops nt L (o::l) al hs K:=by
 have hil:(il .u8 a).length=a.length:=eG _ _
 have h1:b8 et (il .u8 a) = .cells (il .u8 a) et true false:=fx (fun h=>hne (by rw [←hil,h];rfl))
 have h2:gQ i a.length 1 = .slice i 0 a.length (.toEnd 1):=if_neg hne
 refine SK.lift hd hlt (fun _=>aI.bytes hw ho hu.out he.out ht.out (by rw [hx,h2]) (hi.trans (congrArg some h1)) (by omega) (ns:=a) ?_) hk
 rw [List.drop_zero,←hil,List.take_length]
 exact wO a
end Go.Xm
namespace Go.Xm
variable [az]
variable {P:Program} {ops:Array Oper} {nt nI:Nat} {al:bm} {hs:aj} {o:Oper} {l:List Oper} {L:List aH} {K:List Ab→bm→aj→Prop} {d:Nat}
theorem Qh {t t':TypeId} {a b:Operand} {x:List UInt8}(hk:SK P ops nt L l ((d,.one (.bool true))::al) hs fun bs=>K (quiet::bs)) (ho:o.op = .binOp .eql t a b t':=by exact rfl) (hu:a_ P t .string:=by infer_instance) (hw:au ops (rg al) o=some true:=by exact rfl) (hd:o.dst=some d:=by exact rfl) (hlt:Nat.blt d nt=true:=by exact rfl) (ha:ai (rg al) a = .one (.str x):=by exact rfl) (hb:ai (rg al) b = .one (.str x):=by exact rfl):SK P ops nt L (o::l) al hs K:=
 SK.lift hd hlt (fun _=>aI.pure hw (by rw [ho];simp [bj,ha,hb,rh,Ln])) hk
end Go.Xm
namespace Go.Proofs.YtagpkhindehcbaaGreat
open Go.Xm
variable [az]
def hA:Hd:=⟨1,1,false,fun _=>0,fun _=>0⟩
def pA:Ph:=⟨0,true,false,1⟩
def mA:Mb:=mS Nl true 1
theorem K0:jy Nl:=⟨⟨by decide,by decide⟩,⟨by decide,by decide⟩,⟨fun _ _=>by show -128≤(0:Int)∧(0:Int)<128;decide,fun _ _=>by show -128≤(0:Int)∧(0:Int)<128;decide⟩,fun _ _=>by show(0:Int)≤0∧(0:Int)<18446744073709551616;decide,by decide,by decide⟩
theorem LO:i_ mA∧dk mA true 1=0∧1≤mA.qp∧mA.qp≤31:=Bm (inter:=true) (qp:=1) K0 ⟨by decide,by decide⟩
theorem Kx:eh hA pA [mA] 0:=⟨⟨⟨by decide,by decide,by decide,by decide⟩,fun h=>(by cases h),fun _ _ _=>⟨rfl,rfl⟩⟩,⟨by decide,by decide,fun h=>by cases h⟩,fun m hm=>by rw [List.mem_singleton.1 hm];exact LO.1,by decide,by decide,by decide,by decide⟩
theorem OH:pW hA pA [mA] 0 = .inr ([160],[128]):=by
 have h1:eg [mA] 0 (iC hA pA) 1 = .inr ⟨ba (gR hA pA) 0 mA.v,[true,false],[]⟩:=by
  show jM 0 0 mA (iC hA pA)=_
  unfold jM
  have hc:dk mA (iC hA pA).S.inter (iC hA pA).S.qp=0:=LO.2.1
  rw [hc,if_neg (by simp)]
  rfl
 unfold pW
 show(match eg [mA] 0 (iC hA pA) 1 with | .inl e=>_ | .inr x=>_)=_
 rw [h1]
 have e1:f3 (wr ([true,false]++[true])) (wr ([true,false]++[true])).length=([160],0):=by decide
 have e2:f3 (wr ([]++[true])) (wr ([]++[true])).length=([128],0):=by decide
 dsimp only
 rw [e1,e2]
 rfl
theorem DL:bn Tryz.prog 8 [] [] (.one (.bool true)) []:=by
 have hro:sN (.cells (fl mC [mA]) 53 false false) mC [mA]:=⟨fun _=>⟨_,_,_,rfl⟩,inferInstance⟩
 have hna:([160]:List Int).length≠0:=by decide
 have hnb:([128]:List Int).length≠0:=by decide
 refine cO Tryz.func8 ?_
 repeat' (first
  |(refine qz ?_;first
   |refine cl ?_ (hi:=by exact Bs nL (by simp only [eZ,List.cons_append,List.nil_append];exact rfl) rfl)
   |refine bF (out:=gO hA) ?_ (hz:=u9) (hc:=by kernel_rfl)
   |refine bF (out:=iJ pA) ?_ (hz:=yp) (hc:=by kernel_rfl)
   |refine bF (out:=mC mA) ?_ (hz:=ia) (hc:=by kernel_rfl)
   |refine pf (enc:=mC) (a:=mA) ?_
   |refine cl ?_ (hi:=by exact CZ Kx hro OH rfl rfl rfl (by decide) nL (by simp only [eZ,List.cons_append,List.nil_append];exact rfl) rfl)
   |refine P0 hna ?_
   |refine P0 hnb ?_
   |refine Qh ?_)
  |refine zz ?_|refine zx (fun _=>?_) (fun _=>?_)|fail)
 show aC _ _ _ _ _ _ _ _;refine kV [] ?_
 rfl
theorem yF {HS:aj}(hb:Nat.blt HS.length Mem.bound=true):aH.Sound Tryz.prog ⟨8,[],HS,.one (.bool true),HS,[]⟩:=
 aA DL rfl rfl hb
end Go.Proofs.YtagpkhindehcbaaGreat
