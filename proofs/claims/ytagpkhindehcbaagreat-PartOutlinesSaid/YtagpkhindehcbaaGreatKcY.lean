/-
  A part of the proof: OutsLaw, FillC, FillN, Fits, MacLaw.
-/
import Derived.Test.YtagpkhindehcbaaGreatKcP
import Derived.Test.YtagpkhindehcbaaGreatKcU
import Derived.Test.YtagpkhindehcbaaGreatKcX
set_option maxRecDepth 10000
set_option maxHeartbeats 8000000
set_option linter.unusedVariables false
set_option linter.unusedSectionVars false
set_option linter.unusedSimpArgs false
namespace Go.Proofs.YtagpkhindehcbaaGreat
open Go.Xm
theorem I5 {evs:List (List Ev)} {mb:Int} {has:Nat→Bool} {x y:FK} {k:Nat}(h:fK evs mb has x k = .inr y):y.2.2=x.2.2+if has k then 1 else 0:=by
 unfold fK at h
 split at h
 · rename_i hh
   split at h
   · cases h
   · split at h
     · cases h
     · unfold Dj at h
       split at h
       · cases h
       · cases h;dsimp only;rw [if_pos hh]
 · rename_i hh
   unfold Dj at h
   split at h
   · cases h
   · cases h;dsimp only;rw [if_neg hh];rfl
theorem vd {evs:List (List Ev)} {mb:Int} {has:Nat→Bool} {x0:FK}:∀ k y,iI evs mb has x0 k = .inr y→y.2.2=x0.2.2+fQ has k
 | 0,y,h=>by cases h;rfl
 | k + 1,y,h=>by
   rw [iI]at h
   cases hx:iI evs mb has x0 k with
   | inl e=>rw [hx]at h;cases h
   | inr x=>
     rw [hx]at h
     have h1:=I5 h
     have h2:=vd k x hx
     rw [h1,h2,fQ,Nat.add_assoc]
theorem vb {evs:List (List Ev)} {first:Int} {l:List Ol} {S0:bz}:∀ n x,nK evs first l S0 n = .inr x→x.u=manyN l n
 | 0,x,h=>by cases h;rfl
 | n + 1,x,h=>by
   rw [nK]at h
   cases hx:nK evs first l S0 n with
   | inl e=>rw [hx]at h;cases h
   | inr y=>
     rw [hx]at h
     dsimp only at h
     cases hb:iI evs (first+(n:Nat)) (l.getD n default).2 (y.S,(l.getD n default).1,y.u) 6 with
     | inl e=>rw [hb]at h;cases h
     | inr z=>
       rw [hb]at h
       cases h
       have h1:=vd 6 z hb
       have h2:=vb n y hx
       dsimp only
       rw [h1,manyN,←h2]
theorem M7 {evs:List (List Ev)} {mb:Int} {has:Nat→Bool} {x:FK} {k:Nat} {e:Int}(h:fK evs mb has x k = .inl e):e≠0:=by
 unfold fK at h
 split at h
 · split at h
   · cases h;decide
   · split at h
     · cases h;decide
     · unfold Dj at h
       split at h
       · cases h;decide
       · cases h
 · unfold Dj at h
   split at h
   · cases h;decide
   · cases h
theorem BY {evs:List (List Ev)} {mb:Int} {has:Nat→Bool} {x0:FK}:∀ k e,iI evs mb has x0 k = .inl e→e≠0
 | 0,e,h=>by cases h
 | k+1,e,h=>by
   rw [iI]at h
   cases hx:iI evs mb has x0 k with
   | inl e'=>rw [hx]at h;cases h;exact BY k _ hx
   | inr x=>rw [hx]at h;exact M7 h
theorem BX {evs:List (List Ev)} {first:Int} {l:List Ol} {S0:bz}:∀ n e,nK evs first l S0 n = .inl e→e≠0
 | 0,e,h=>by cases h
 | n + 1,e,h=>by
   rw [nK]at h
   cases hx:nK evs first l S0 n with
   | inl e'=>rw [hx]at h;cases h;exact BX n _ hx
   | inr y=>
     rw [hx]at h
     dsimp only at h
     cases hb:iI evs (first+(n:Nat)) (l.getD n default).2 (y.S,(l.getD n default).1,y.u) 6 with
     | inl e'=>rw [hb]at h;cases h;exact BY 6 _ hb
     | inr z=>rw [hb]at h;cases h
theorem FM {evs:List (List Ev)} {first:Int} {l:List Ol} {S0:bz} {e:Int}(h:fD evs first l S0 = .inl e):e≠0:=by
 unfold fD at h
 split at h
 · rename_i e' he
   cases h
   exact BX _ _ he
 · split at h
   · cases h;decide
   · cases h
theorem Dl {evs:List (List Ev)} {first:Int} {l:List Ol} {S0:bz}(h:tA l<evs.length):∃ e,fD evs first l S0 = .inl e∧e≠0:=by
 cases hf:fD evs first l S0 with
 | inl e=>exact⟨e,rfl,FM hf⟩
 | inr x=>
   exfalso
   unfold fD at hf
   split at hf
   · cases hf
   · rename_i y hy
     have:=vb _ y hy
     have hm:manyN l l.length<evs.length:=h
     rw [if_pos (by omega)]at hf
     cases hf
theorem Da {h:Nat→Bool}:∀ {k:Nat},fQ h k=0→∀ j,j<k→h j=false:=by
 intro k
 induction k with
 | zero=>intro _ j hj;exact absurd hj (Nat.not_lt_zero _)
 | succ k ih=>
   intro h0 j hj
   rw [fQ]at h0
   by_cases hjk:j=k
   · subst hjk
     cases hh:h j with
     | false=>rfl
     | true=>rw [hh,if_pos rfl]at h0;omega
   · exact ih (by omega) j (by omega)
theorem pC (f:Nat→Nat):∀ n,f 0=0→0<f n→∃ i,i<n∧f i=0∧0<f (i+1)
 | 0,h0,hn=>by omega
 | n + 1,h0,hn=>by
   by_cases h:f n=0
   · exact⟨n,Nat.lt_succ_self _,h,hn⟩
   · obtain⟨i,a,b,c⟩:=pC f n h0 (by omega)
     exact⟨i,by omega,b,c⟩
theorem tB {l:List Ol} {j k:Nat}(hjk:j≤k):manyN l j≤manyN l k:=by
 induction hjk with
 | refl=>exact Nat.le_refl _
 | step _ ih=>rw [manyN];omega
variable [az]
theorem pB {evs:List (List Ev)} {u:Nat} {has:Nat→Bool} {ev:Nat→List Ev} {k:Nat}(h:fQ has k=0):BF evs u has ev k:=fun j hj hh=>by
 rw [Da h j hj]at hh;cases hh
theorem AE {h:Hd} {p:Ph} {l:List Mb} {first:Int}(hT:fZ h p l first) {outs:List Ol}(hO:E1 l first (lW h p) outs) {X:PS}(hX:fk l first (lW h p) l.length = .inr X):(0<tA outs→fD [] first outs (jJ h p) = .inl 3)∧(tA outs=0→∃ r,fD [] first outs (jJ h p) = .inr r):=by
 constructor
 · intro hm
   obtain⟨i,hi,h0,h1⟩:=pC (manyN outs) outs.length rfl hm
   rw [manyN]at h1
   obtain⟨k,hk,k0,k1⟩:=pC (fQ (outs.getD i default).2) 6 rfl (by omega)
   have hil:i<l.length:=by rw [←hO.len];exact hi
   have hz:∀ i',i'<i→fQ (outs.getD i' default).2 6=0:=fun i' hi'=>by
    have a:=tB (l:=outs) (show i'+1≤i by omega)
    rw [manyN]at a;omega
   obtain⟨x,R,out,hx,hf,hR,_,_⟩:=yq (evs:=[]) hT hO hX i (by omega) (fun i' hi'=>pB (hz i' hi'))
   obtain⟨y,hy⟩:=ji hX (i+1) (by omega)
   obtain⟨o',R',hb,_⟩:=B4 (evs:=[]) (u:=manyN outs i) hT hO hil hx hy hR k (by omega) (pB k0)
   have hhk:(outs.getD i default).2 k=true:=by
    rw [fQ]at k1
    cases hh:(outs.getD i default).2 k with
    | true=>rfl
    | false=>rw [hh,if_neg (by decide)]at k1;omega
   have hb1:iI [] (first+(i:Nat)) (outs.getD i default).2 (R,(outs.getD i default).1,manyN outs i) (k+1) = .inl 3:=by
    rw [iI,hb]
    show fK _ _ _ _ _=_
    unfold fK
    rw [if_pos hhk]
    exact if_pos (Nat.zero_le _)
   unfold fD
   rw [nM (k:=i+1) (e:=3) (by rw [nK,hf];dsimp only;rw [nN hb1 6 (by omega)]) outs.length (by omega)]
 · intro hm
   have hz:∀ i',i'<l.length→fQ (outs.getD i' default).2 6=0:=fun i' hi'=>by
    have a:=tB (l:=outs) (show i'+1≤outs.length by rw [hO.len];omega)
    rw [manyN]at a
    have:manyN outs outs.length=0:=hm
    omega
   obtain⟨x,R,out,hx,hf,hR,_,_⟩:=yq (evs:=[]) hT hO hX l.length (Nat.le_refl _) (fun i' hi'=>pB (hz i' hi'))
   refine⟨out,?_⟩
   unfold fD
   rw [hO.len,hf]
   exact if_neg (Nat.not_lt_zero _)
theorem tX {f:Nat→Int}:∀(n i:Nat) (run:Int),(∀ j,i≤j→j<i+n→f j=0)→gG f n i run = []
 | 0,_,_,_=>rfl
 | n+1,i,run,h=>by
   rw [gG,if_pos (h i (Nat.le_refl _) (by omega))]
   exact tX n (i+1) _ (fun j h1 h2=>h j (by omega) (by omega))
theorem DT {f:Nat→Int} {st:Nat}(h:∀ j,st≤j→j<64→f j=0):eP f st = []:=by
 unfold eP
 rw [tX _ _ _ (fun j h1 h2=>h j h1 (by omega))]
 rfl
def iD (m:Mb) (k:Nat):Nat→Bool
 | 0=>false
 | j+1=>iD m k j || (decide (0<j∨alone m=false) && decide (aA m k j≠0))
theorem oN (m:Mb) (k:Nat):∀ n,iD m k n=true↔∃ j,j<n∧(0<j∨alone m=false)∧aA m k j≠0
 | 0=>⟨(fun h=>by cases h),fun⟨j,hj,_⟩=>absurd hj (Nat.not_lt_zero _)⟩
 | n + 1=>by
   rw [iD,Bool.or_eq_true,Bool.and_eq_true,decide_eq_true_iff,decide_eq_true_iff,oN m k n]
   constructor
   · rintro (⟨j,h1,h2⟩|h)
     · exact⟨j,by omega,h2⟩
     · exact⟨n,by omega,h⟩
   · rintro ⟨j,h1,h2⟩
     by_cases hj:j=n
     · subst hj;exact .inr h2
     · exact .inl ⟨j,by omega,h2⟩
theorem Fg {S : bz} {m:Mb} {mb:Int} {k:Nat} {r:Nat→Int}(hr:gF m S mb k=some r) (he:m.edge=false):decide (0<(nE m S mb k r).length)=iD m k 64:=by
 have hor:=ej m.edge (aL S mb k m.qp).1
 obtain⟨od,hod⟩:∃ od,dt m.edge (aL S mb k m.qp).1=od:=⟨_,rfl⟩
 have hp0:=yY (hod ▸ hor)
 rw [hod]at hor
 have hrv:∀ i,i<64→(0<i∨alone m=false)→r i=aA m k i:=by
  unfold gF at hr
  split at hr
  · rename_i ha
    rw [if_neg (by rw [he];decide)]at hr
    cases hr
    intro i _ hi
    have hi0:i≠0:=by
     rcases hi with hi|hi
     · omega
     · rw [ha]at hi;cases hi
    show cW (aA m k) 0 0 i=_
    unfold cW
    rw [if_neg hi0]
  · cases hr;intro i _ _;rfl
 have hst : ∀ st,(if alone m=true then 1 else 0)=st→(eP (gH od r) st = []↔iD m k 64=false):=by
  intro st hst
  constructor
  · intro hn
    cases hs:iD m k 64 with
    | false=>rfl
    | true =>
      exfalso
      obtain⟨i,hi,h1,h2⟩:=(oN m k 64).1 hs
      obtain⟨j,hj,hji⟩:=Cm hor hi
      have hsj:st≤j:=by
       rw [←hst]
       split
       · rename_i ha
         rcases h1 with h1|h1
         · have:j≠0:=fun h=>by subst h;rw [hp0]at hji;omega
           omega
         · rw [ha]at h1;cases h1
       · omega
      have:=zc (by rw [←hst];split <;> omega) hn j hsj hj
      unfold gH at this
      rw [hji,Int.toNat_natCast,hrv i hi h1]at this
      exact h2 this
  · intro hs
    refine DT fun j h1 h2=>?_
    have hr2:=oI hor h2
    have hcond:0<(mS od j).toNat∨alone m=false:=by
     cases ha:alone m with
     | false=>exact .inr rfl
     | true=>
       left
       rw [ha,if_pos rfl]at hst
       have:mS od j≠mS od 0:=fun h=>by have:=Cl hor h2 (by omega) h;omega
       rw [hp0]at this
       omega
    unfold gH
    rw [hrv _ (by omega) hcond]
    by_cases hz:aA m k (mS od j).toNat=0
    · exact hz
    · exfalso
      have:=(oN m k 64).2 ⟨_,by omega,hcond,hz⟩
      rw [hs]at this;cases this
 unfold nE
 rw [hod]
 obtain⟨st,hse⟩:∃ st,(if alone m=true then 1 else 0)=st:=⟨_,rfl⟩
 rw [hse]
 have h:=hst st hse
 cases hs:iD m k 64 with
 | false=>rw [h.2 hs];rfl
 | true=>
   refine decide_eq_true (Nat.pos_of_ne_zero fun h0=>?_)
   have:=h.1 (List.length_eq_zero_iff.1 h0)
   rw [hs]at this;cases this
theorem DH {h:Hd} {p:Ph} {l:List Mb} {first:Int}(hT:fZ h p l first) {outs:List Ol}(hO:E1 l first (lW h p) outs) {X:PS}(hX:fk l first (lW h p) l.length = .inr X) {i:Nat}(hi:i<l.length) (he:(l.getD i default).edge=false) {k:Nat}(hk:k<6):(outs.getD i default).2 k=iD (l.getD i default) k 64:=by
 obtain⟨_,hhas⟩:=hO.at_ i hi
 rw [hhas k hk]
 obtain⟨x,hx⟩:=ji hX i (by omega)
 obtain⟨y,hy⟩:=ji hX (i+1) hi
 obtain⟨x',hx',hs⟩:=ky hy
 rw [hx]at hx'
 cases hx'
 obtain⟨hc,z,hz,rfl⟩:=oJ hs
 have hf:=jd (pK hT hi) hc
 have hpe:Iz l first (lW h p) i k=qY x.S x.B (l.getD i default) (first+(i:Nat)) k:=by unfold Iz;rw [hx]
 rw [hpe]
 by_cases h0:(l.getD i default).kind=0
 · have e:qY x.S x.B (l.getD i default) (first+(i:Nat)) k = []:=by unfold qY;exact if_pos h0
   rw [e]
   cases hsn:iD (l.getD i default) k 64 with
   | false=>rfl
   | true=>
     exfalso
     obtain⟨j,hj,_,h2⟩:=(oN _ k 64).1 hsn
     exact h2 ((hf.lev (k*64+j) (by omega)).1 h0)
 · have hz':gg x.S x.B x.w (l.getD i default) (first+(i:Nat))=some z:=hz
   unfold gg at hz'
   rw [if_neg h0]at hz'
   obtain⟨x6,hx6,_⟩:=Option.map_eq_some_iff.1 hz'
   obtain⟨y',r,_,hr,hev⟩:=(wx 6 x6 hx6).1 k hk
   have e:qY x.S x.B (l.getD i default) (first+(i:Nat)) k=nE (l.getD i default) y'.S (first+(i:Nat)) k r:=by unfold qY;rw [if_neg h0,hx6];exact hev
   rw [e]
   exact Fg hr he
end Go.Proofs.YtagpkhindehcbaaGreat
namespace Go.Proofs.YtagpkhindehcbaaGreat
open Go.Xm
variable [az]
theorem xY.ya {c:XC} {i n:Nat}(h:xY c i n) (τ : Nat→Nat) (ht : τ 0=i):∃ c0,xY c0 0 n∧c0.au τ = c∧c0.ok 1:=by
 rcases h with⟨h0,rfl⟩|⟨cap,rfl⟩
 · exact⟨.nils,.inl ⟨h0,rfl⟩,rfl,trivial⟩
 · exact⟨.slice 0 0 n cap,.inr ⟨cap,rfl⟩,by simp only [XC.au,ht],by show 0<1;omega⟩
theorem BP {l:List Ev}(h:uZ l) {c:XC} {i:Nat}(hc:xY c i l.length) {o:aj}(ho:wo o pA l) {HS:ak}(hi:HS[i]? = some o) {st:Int}(hs:0≤st∧st≤1) {r:Option (Nat→Int)}(hr:jB l st=r) (hb:Nat.blt HS.length Mem.bound=true) :
 aI.Sound Tryz.prog ⟨36,[.one c,.one (.int .i64 st)],HS,BO r,HS,[]⟩:=by
 subst hr
 have hfo:=ho.flat
 obtain⟨c0,h0,hcr,hok⟩:=hc.ya (nth [i]) rfl
 exact wQ [i] (Fe h ho h0 hs) (by simp) (.flat hi .nil) (.flat .nil) (.cons hok (.flat .nil)) (.cons (congrArg XV.one hcr) (.flat .nil)) (XV.gX (sW _) _) (bB.au _) hb rfl
theorem Fc {l:List Ev}(h:uZ l) {c:XC} {i:Nat}(hc:xY c i l.length) {o:aj}(ho:wo o pA l) {HS:ak}(hi:HS[i]? = some o) {st:Int}(hs:0≤st∧st≤1) (hr:jB l st=none) (hb:Nat.blt HS.length Mem.bound=true) :
 aI.Sound Tryz.prog ⟨36,[.one c,.one (.int .i64 st)],HS,.tup [.agg (ti .i64 64 fun _=>0),.one (.int .i64 2)],HS,[]⟩:=BP h hc ho hi hs hr hb
theorem yc {l:List Ev}(h:uZ l) {c:XC} {i:Nat}(hc:xY c i l.length) {o:aj}(ho:wo o pA l) {HS:ak}(hi:HS[i]? = some o) {st:Int}(hs:0≤st∧st≤1) {f:Nat→Int}(hr:jB l st=some f) (hb:Nat.blt HS.length Mem.bound=true) :
 aI.Sound Tryz.prog ⟨36,[.one c,.one (.int .i64 st)],HS,.tup [.agg (ti .i64 64 f),.one (.int .i64 0)],HS,[]⟩:=BP h hc ho hi hs hr hb
structure BG (h:Hd) (p:Ph) (first:Int) (l:List Ol):Prop where
 hd:sM h
 ph:z9 p
 pos:0≤first
 many:1≤l.length
 all:first+(l.length:Nat)≤h.cols*h.rows
 lev:∀ j,j<l.length→∀ i,-1000000≤(l.getD j default).1.lev i∧(l.getD j default).1.lev i≤1000000
theorem Li (b:Kn) {s:Nat}(hs:s≤8):∀ n,n≤7→∀ i,64≤i→em b s n i=0:=by
 intro n
 induction n with
 | zero=>intro _ i _;simp [em]
 | succ n ih=>
   intro hn i hi
   rw [mB]
   unfold cW
   have h1:(n+1)*s≤7*8:=Nat.mul_le_mul (by omega) hs
   rw [if_neg (by omega)]
   exact ih (by omega) i hi
theorem Ek {S:bz} {mb k q:Int} {i:Nat}(hi:64≤i):cA S mb k q i=0:=by
 have ho:∀(o:Option Kn) (s:Nat),s≤8→eX o s q i=0:=fun o s hs=>by
  unfold eX
  cases o with
  | none=>rfl
  | some b=>
    dsimp only
    split
    · exact Li b hs 7 (by omega) i hi
    · rfl
 unfold cA s_
 repeat' split
 all_goals first
  | exact ho _ _ (by omega)
  | rfl
theorem DB {l e f:Nat→Int}(h:kr l e=some f) (hl:qR l) (he:∀ i,64≤i→e i=0):qR f:=fun i=>by
 by_cases hi:i<64
 · exact DC h i hi
 · unfold kr at h
   split at h
   · cases h
   · cases h
     have:=hl i
     dsimp only
     rw [he i (by omega)]
     omega
theorem AD {S:bz} {mb:Int} {k:Nat} {m:Mb} {rest:Nat→Int}(h:jN S mb k m rest) (hm:∀ i,-1000000≤m.lev i∧m.lev i≤1000000) {y:bz × Mb}(hF:km S mb k m rest=some y):y.1.cols=S.cols∧y.1.rows=S.rows∧sQ y.1∧∀ i,-1000000≤y.2.lev i∧y.2.lev i≤1000000:=by
 have hset:∀ l:Nat→Int,qR l→∀ i,-1000000≤(dR m k l).lev i∧(dR m k l).lev i≤1000000:=fun l hl i=>by
  unfold dR
  dsimp only
  split
  · have:=hl (i-k*64);omega
  · exact hm i
 have hup:∀ l:Nat→Int,qR l→∀ i,-1000000≤cW l 0 (m.lev (k*64)) i∧cW l 0 (m.lev (k*64)) i≤1000000:=fun l hl i=>by
  unfold cW
  split
  · exact hm _
  · have:=hl i;omega
 have hset2:∀ l:Nat→Int,qR l→∀ i,-1000000≤(dR m k (cW l 0 (m.lev (k*64)))).lev i∧(dR m k (cW l 0 (m.lev (k*64)))).lev i≤1000000:=fun l hl i=>by
  unfold dR
  dsimp only
  split
  · exact hup l hl _
  · exact hm i
 have hlev:∀ l:Nat→Int,qR l→sQ (aO S mb k ⟨cW l 0 (m.lev (k*64)),m.qp⟩):=fun l hl=>⟨lQ h.lev.1 (hup l hl),lQ h.lev.2.1 (hup l hl),lQ h.lev.2.2 (hup l hl)⟩
 unfold km at hF
 split at hF
 · have hs:=rm (o:=dt m.edge (aL S mb k m.qp).1) h.rest
   split at hF
   · cases hmo:kr (d8 (dt m.edge (aL S mb k m.qp).1) rest) (cA S mb k m.qp)with
     | none=>rw [hmo]at hF;cases hF
     | some l2=>
       rw [hmo]at hF
       cases hF
       have hr:=DB hmo hs (fun i hi=>Ek hi)
       exact⟨rfl,rfl,hlev l2 hr,hset2 l2 hr⟩
   · cases hF
     exact⟨rfl,rfl,hlev _ hs,hset2 _ hs⟩
 · cases hF
   exact⟨rfl,rfl,h.lev,hset _ (rm h.rest)⟩
end Go.Proofs.YtagpkhindehcbaaGreat
namespace Go.Proofs.YtagpkhindehcbaaGreat
open Go.Xm
variable [az]
structure xV (OUT:aj) (evs:List (List Ev)):Prop where
 out:0<evs.length→∃ vs e opn ro,OUT = .cells vs e opn ro∧∀ j,j<evs.length→∃ c,vs[j]? = some c∧c = .nils∧evs.getD j [] = []
 evs:∀ j,j<evs.length→uZ (evs.getD j [])
 ok:∀ n,15≤n→OUT.cc n
 au:∀ τl,(List.range 15).all (fun j=>nth τl j == j)=true→OUT.au (nth τl)=OUT
abbrev FN (l:List Ol) (OUT:aj) (r:ak):ak:=bR 1 5 9::ay 2 3 4 cM::aX cM::aZ cM::aY cM::ay 6 7 8 cZ::aX cZ::aZ cZ::aY cZ::ay 10 11 12 cP::aX cP::aZ cP::aY cP::cK 56 (fl gz l)::OUT::r
def FQ:Int ⊕ List Mb→XV
 | .inl e => .tup [.one .nils,.one (.int .i64 e)]
 | .inr l => .tup [.one (kC 15 l.length 391),.one (.int .i64 0)]
def FO:Int ⊕ List Mb→aj
 | .inl _ => .dead
 | .inr l=>cK 53 (fl mC l)
instance MH (r:Int ⊕ List Mb):dc (FO r):=by
 cases r <;> (unfold FO;infer_instance)
structure ML (evs:List (List Ev)) (first:Int) (l:List Ol) (S0:bz) (s:FA × XC):Prop where
 le:s.1.out.length≤l.length
 run:nK evs first l S0 s.1.out.length = .inr s.1
 cols:s.1.S.cols=S0.cols
 rows:s.1.S.rows=S0.rows
 lev:sQ s.1.S
 u:s.1.u≤evs.length
 c:ed s.2 14 s.1.u (evs.length-s.1.u)
structure EX (evs:List (List Ev)) (mb:Int) (has:Nat→Bool) (x0:FK) (s:Nat × FK × XC):Prop where
 le:s.1≤6
 run:iI evs mb has x0 s.1 = .inr s.2.1
 cols:s.2.1.1.cols=x0.1.cols
 rows:s.2.1.1.rows=x0.1.rows
 lev:sQ s.2.1.1
 mlev:∀ i,-1000000≤s.2.1.2.1.lev i∧s.2.1.2.1.lev i≤1000000
 u:s.2.1.2.2≤evs.length
 c:ed s.2.2 14 s.2.1.2.2 (evs.length-s.2.1.2.2)
theorem th {evs:List (List Ev)} {mb:Int} {has:Nat→Bool} {x0:FK} {x:Nat × FK × XC}(hx:EX evs mb has x0 x) (h6:x.1<6) {y:bz × Mb} {u:Nat}(hn:iI evs mb has x0 (x.1+1) = .inr (y.1,y.2,u)) {rest:Nat→Int}(hfo:jN x.2.1.1 mb x.1 x.2.1.2.1 rest) (hF:km x.2.1.1 mb x.1 x.2.1.2.1 rest=some y) (hu:u≤evs.length) {c:XC}(hc:ed c 14 u (evs.length-u)):EX evs mb has x0 (x.1+1,(y.1,y.2,u),c):=by
 obtain⟨h1,h2,h3,h4⟩:=AD hfo hx.mlev hF
 exact⟨h6,hn,h1.trans hx.cols,h2.trans hx.rows,h3,h4,hu,hc⟩
abbrev FI (l:List Ol) (OUT:aj) (S:bz) (out:List Mb) (r:ak):ak:=FN l OUT (G_ S 15::ch 17 S.cols S.rows :: .map (bg S.M)::Hy S 15 :: .map (ah S.A) :: .map (ah S.B) :: .map (ah S.C)::cK 53 (fl mC out) :: .dead::r)
theorem ve {h : Hd} {p:Ph} {first:Int} {l:List Ol}(hT:BG h p first l) {OUT:aj} {evs:List (List Ev)}(hE:xV OUT evs) {c:XC}(hc:ed c 14 0 evs.length) :
 bt Tryz.prog 15 [.one (.ptr 0 0),.agg (iz h),.agg (jh p),.one (.int .i64 first),iK 13 l.length 397,.one c] (FN l OUT []) (FQ (fD evs first l (jJ h p))) (FN l OUT [FO (fD evs first l (jJ h p))]):=by
 have hOK:=hE.ok
 have hV:=hE.au
 have h1:=hT.hd.dims.c0
 have h2:=hT.hd.dims.c1
 have h3:=hT.hd.dims.r0
 have h4:=hT.hd.dims.r1
 have hf:=hT.pos
 have hm:=hT.many
 have ha:=hT.all
 have hcr:1≤h.cols*h.rows∧h.cols*h.rows≤64:=kh hT.hd.dims
 refine cO Tryz.func15 ?_
 repeat' (first
  |(refine qz ?_;first
   |refine cl ?_ (hi:=by exact nF hT.hd rfl nL nA rfl))
  |refine zz ?_|refine zx (fun _=>?_) (fun _=>?_)|fail)
 refine WX.dv rfl ?_
 refine WX.dv rfl ?_
 refine WX.dp (σ:=FA × XC) (fun s=>[(3,.one (.int .i64 first)),(14,.one (.ptr 15 0)),(30,iK 13 l.length 397),(31,.one (.int .i64 (l.length:Nat))),(5,.one s.2),(15,iK 22 s.1.out.length 391),(32,.one (.int .i64 (s.1.out.length:Nat)))]) (fun s=>FI l OUT s.1.S s.1.out []) (ML evs first l (jJ h p)) (fun s=>l.length-s.1.out.length) (⟨jJ h p,[],0⟩,c) ⟨Nat.zero_le _,rfl,rfl,rfl,⟨lP,lP,lP⟩,Nat.zero_le _,hc⟩ (fun s hs=>by have hsc:=hs.c;exact(kS (objs:=by repeat' (first|exact bE.nil|refine bE.cons (hOK _ (Nat.le_of_ble_eq_true rfl)) ?_|refine bE.flat ?_|refine bE.cons (by first|(simp [aj.cc,XC.ok,bp];done)|simp [aj.cc,XC.ok,bp, *]) ?_)))) (bm [0,1,2,3,4,5,6,7,8,9,10,11,12,13,14,17,18,19,20,21,22,23,24,25] (obj:=by(repeat' (first|exact ae.nil|refine ae.cons (by rw [hV _ rfl];rfl) ?_|refine ae.flat rfl ?_|refine ae.cons rfl ?_|refine ae.dead rfl ?_|refine ae.cons (by simp only [aj.au,List.map_cons,List.map_nil,XC.au,aq];exact rfl) ?_));first|done|fail)) ?_
 intro s hs ih
 have hle:=hs.le
 have hsc:=hs.c
 by_cases hlt:s.1.out.length<l.length
 · obtain ⟨o, ho⟩:∃ o,l.getD s.1.out.length default=o:=⟨_,rfl⟩
   have hmb:0≤first+(s.1.out.length:Nat)∧first+(s.1.out.length:Nat)<h.cols*h.rows:=by omega
   have hmac:((gz (l.getD s.1.out.length default)).drop 0).take 391=mC o.1:=by rw [ho];exact sB o.1 o.2
   have htl:((gz (l.getD s.1.out.length default)).drop 391).take 6=q7 o.2:=by rw [ho];exact yT o.1 o.2
   have hol:=hT.lev s.1.out.length hlt
   rw [ho]at hol
   have hrun:nK evs first l (jJ h p) (s.1.out.length+1)=match iI evs (first+(s.1.out.length:Nat)) o.2 (s.1.S,o.1,s.1.u) 6 with
    | .inl e => .inl e
    | .inr y => .inr ⟨y.1,s.1.out++[y.2.1],y.2.2⟩:=by
    rw [nK,hs.run,←ho];rfl
   repeat' (first
    |(refine qz ?_;first
     |refine pI (enc:=gz) (j:=s.1.out.length) ?_
     |refine p7 (zs:=eO kQ o3) (hz:=uF) ?_
     |refine p7 (zs:=mC kQ) (hz:=jy) ?_
     |refine rS (cs:=mC o.1) ?_ (hle:=by show _≤(eO _ _).length;rw [b7];decide) (hc:=hmac)
     |refine rS (cs:=q7 o.2) ?_ (hle:=by show _≤(eO _ _).length;rw [b7];decide) (hc:=htl)
     |refine i9 (cs:=gz (l.getD s.1.out.length default)) ?_
     |refine i9 (cs:=mC o.1) ?_)
    |refine zz ?_|refine zx (fun _=>?_) (fun _=>?_)|fail)
   refine WX.dp (σ:=Nat × FK × XC) (fun x=>[(3,.one (.int .i64 first)),(14,.one (.ptr 15 0)),(15,iK 22 s.1.out.length 391),(16,.one (.int .i64 (s.1.out.length:Nat))),(18,.one (.ptr 24 0)),(30,iK 13 l.length 397),(31,.one (.int .i64 (l.length:Nat))),(32,.one (.int .i64 (s.1.out.length:Nat))),(40,.agg (q7 o.2)),(5,.one x.2.2),(41,.one (.int .i64 (x.1:Nat)))]) (fun x=>FI l OUT x.2.1.1 s.1.out [lF x.2.1.2.1]) (EX evs (first+(s.1.out.length:Nat)) o.2 (s.1.S,o.1,s.1.u)) (fun x=>6-x.1) (0,(s.1.S,o.1,s.1.u),s.2) ⟨Nat.zero_le _,rfl,rfl,rfl,hs.lev,hol,hs.u,hs.c⟩ (fun x hx=>by have hxc:=hx.c;exact(kS (objs:=by repeat' (first|exact bE.nil|refine bE.cons (hOK _ (Nat.le_of_ble_eq_true rfl)) ?_|refine bE.flat ?_|refine bE.cons (by first|(simp [aj.cc,XC.ok,bp];done)|simp [aj.cc,XC.ok,bp, *]) ?_)))) (bm [0,1,2,3,4,5,6,7,8,9,10,11,12,13,14,15,16,17,18,19,20,21,22,23,25] (obj:=by(repeat' (first|exact ae.nil|refine ae.cons (by rw [hV _ rfl];rfl) ?_|refine ae.flat rfl ?_|refine ae.cons rfl ?_|refine ae.dead rfl ?_|refine ae.cons (by simp only [aj.au,List.map_cons,List.map_nil,XC.au,aq];exact rfl) ?_));first|done|fail)) ?_
   intro x hx ih2
   have hxc:=hx.c
   have hxle:=hx.le
   have hxu:=hx.u
   by_cases hx6:x.1<6
   · have hnx : iI evs (first+(s.1.out.length:Nat)) o.2 (s.1.S,o.1,s.1.u) (x.1+1)=fK evs (first+(s.1.out.length:Nat)) o.2 x.2.1 x.1:=by
      rw [iI,hx.run]
     obtain⟨hb,hhb⟩:∃ b,o.2 x.1=b:=⟨_,rfl⟩
     have hht:=wP o.2 hx6 hhb
     cases hb with
     | false=>
       rw [fK,if_neg (by rw [hhb];decide)]at hnx
       have hfo:jN x.2.1.1 (first+(s.1.out.length:Nat)) x.1 x.2.1.2.1 (fun _=>0):=⟨by rw [hx.cols,hx.rows,hs.cols,hs.rows];exact hT.hd.dims,by rw [hx.cols,hx.rows,hs.cols,hs.rows];exact hmb,hx6,hx.lev,fun i=>by show -2047≤(0:Int)∧(0:Int)≤2047;omega⟩
       cases hF1:km x.2.1.1 (first+(s.1.out.length:Nat)) x.1 x.2.1.2.1 (fun _=>0)with
       | none=>
         have hnx2:iI evs (first+(s.1.out.length:Nat)) o.2 (s.1.S,o.1,s.1.u) (x.1+1) = .inl 2:=by
          rw [hnx];unfold Dj;rw [hF1]
         have e0:fD evs first l (jJ h p) = .inl 2:=by
          unfold fD
          rw [nM (k:=s.1.out.length+1) (e:=2) (by rw [hrun,nN hnx2 6 (by omega)]) l.length (by omega)]
         rw [e0]
         repeat' (first
          |(refine qz ?_;first
           |refine pH (hc:=hht) ?_
           |refine fy ?_ (hle:=by rw [aE])
           |refine cl ?_ (hi:=by exact yr hfo hF1 (i:=24) (d:=23) (N:=15) rfl rfl rfl rfl (by decide) nA rfl))
          |refine zz ?_|refine zx (fun _=>?_) (fun _=>?_)|fail)
         show aH _ _ _ _ _ _ _ _;refine kV [0,1,2,3,4,5,6,7,8,9,10,11,12,13,14,23] ?_ (ho:=by repeat' (first|exact ae.nil|refine ae.cons (by rw [hV _ rfl];rfl) ?_|refine ae.flat rfl ?_|refine ae.cons rfl ?_|refine ae.dead rfl ?_|refine ae.cons (by simp only [aj.au,List.map_cons,List.map_nil,XC.au,aq];exact rfl) ?_)) (hk:=by repeat' (first|exact bE.nil|refine bE.cons (hOK _ (Nat.le_of_ble_eq_true rfl)) ?_|refine bE.flat ?_|refine bE.cons (by first|(simp [aj.cc,XC.ok,bp];done)|simp [aj.cc,XC.ok,bp, *]) ?_))
         rfl
       | some y=>
         have hnx2:iI evs (first+(s.1.out.length:Nat)) o.2 (s.1.S,o.1,s.1.u) (x.1+1) = .inr (y.1,y.2,x.2.1.2.2):=by
          rw [hnx];unfold Dj;rw [hF1]
         repeat' (first
          |(refine qz ?_;first
           |refine pH (hc:=hht) ?_
           |refine fy ?_ (hle:=by rw [aE])
           |refine cl ?_ (hi:=by exact yt hfo hF1 (i:=24) (d:=23) (N:=15) rfl rfl rfl rfl (by decide) nA rfl))
          |refine zz ?_|refine zx (fun _=>?_) (fun _=>?_)|fail)
         refine ih2 (x.1+1,(y.1,y.2,x.2.1.2.2),x.2.2) _ _ _ (bm [0,1,2,3,4,5,6,7,8,9,10,11,12,13,14,15,16,17,18,19,20,21,22,23,24] (obj:=by(repeat' (first|exact ae.nil|refine ae.cons (by rw [hV _ rfl];rfl) ?_|refine ae.flat rfl ?_|refine ae.cons rfl ?_|refine ae.dead rfl ?_|refine ae.cons (by simp only [aj.au,List.map_cons,List.map_nil,XC.au,aq];exact rfl) ?_));first|done|fail)) (th hx hx6 hnx2 hfo hF1 hx.u hx.c) (by dsimp only;omega)
     | true =>
       rw [fK,if_pos hhb]at hnx
       by_cases hsh:evs.length≤x.2.1.2.2
       · rw [if_pos hsh]at hnx
         have e0:fD evs first l (jJ h p) = .inl 3:=by
          unfold fD
          rw [nM (k:=s.1.out.length+1) (e:=3) (by rw [hrun,nN hnx 6 (by omega)]) l.length (by omega)]
         rw [e0]
         have hz:evs.length-x.2.1.2.2=0:=by omega
         rw [hz]at hxc
         repeat' (first
          |(refine qz ?_;first
           |refine pH (hc:=hht) ?_)
          |refine zz ?_|refine zx (fun _=>?_) (fun _=>?_)|fail)
         show aH _ _ _ _ _ _ _ _;refine kV [0,1,2,3,4,5,6,7,8,9,10,11,12,13,14,23] ?_ (ho:=by repeat' (first|exact ae.nil|refine ae.cons (by rw [hV _ rfl];rfl) ?_|refine ae.flat rfl ?_|refine ae.cons rfl ?_|refine ae.dead rfl ?_|refine ae.cons (by simp only [aj.au,List.map_cons,List.map_nil,XC.au,aq];exact rfl) ?_)) (hk:=by repeat' (first|exact bE.nil|refine bE.cons (hOK _ (Nat.le_of_ble_eq_true rfl)) ?_|refine bE.flat ?_|refine bE.cons (by first|(simp [aj.cc,XC.ok,bp];done)|simp [aj.cc,XC.ok,bp, *]) ?_))
         rfl
       · rw [if_neg hsh]at hnx
         obtain⟨vs,et,opn,ro,hOUT,hcell⟩:=hE.out (by omega)
         obtain⟨c1,hc1,hc2⟩:=hcell x.2.1.2.2 (by omega)
         have hev:=hE.evs x.2.1.2.2 (by omega)
         have hst:0≤fq x.2.1.2.1∧fq x.2.1.2.1≤1:=by unfold fq;split <;> omega
         have hdis:∃ i ob,xY c1 i (evs.getD x.2.1.2.2 []).length∧wo ob pA (evs.getD x.2.1.2.2 [])∧∀ S out r,(FI l OUT S out r)[i]? = some ob:=by
          obtain⟨rfl,he⟩:=hc2
          exact⟨23,.dead,.inl ⟨by rw [he];rfl,rfl⟩,by rw [he];exact⟨fun h=>absurd h (Nat.lt_irrefl 0),inferInstance⟩,fun S out r=>rfl⟩
         obtain⟨ix,ob,hb1,hb2,hb3⟩:=hdis
         subst hOUT
         cases hbk:jB (evs.getD x.2.1.2.2 []) (fq x.2.1.2.1)with
         | none=>
           rw [hbk]at hnx
           have e0:fD evs first l (jJ h p) = .inl 2:=by
            unfold fD
            rw [nM (k:=s.1.out.length+1) (e:=2) (by rw [hrun,nN hnx 6 (by omega)]) l.length (by omega)]
           rw [e0]
           repeat' (first
            |(refine qz ?_;first
             |refine pH (hc:=hht) ?_
             |refine ld (hc:=hc1) ?_
             |refine fy ?_ (hle:=by rw [aE])
             |refine fy ?_ (hle:=by rw [aF])
             |refine i9 ?_ (hs1:=by rw [aE]) (hs2:=by rw [aE])
             |refine cl ?_ (hi:=by exact qE rfl)
             |refine cl ?_ (hi:=by exact Fc hev hb1 hb2 (hb3 _ _ _) hst hbk rfl))
            |refine H8 (id:=16) 9 ?_|refine zz ?_|refine zx (fun _=>?_) (fun _=>?_)|fail)
           show aH _ _ _ _ _ _ _ _;refine kV [0,1,2,3,4,5,6,7,8,9,10,11,12,13,14,23] ?_ (ho:=by repeat' (first|exact ae.nil|refine ae.cons (by rw [hV _ rfl];rfl) ?_|refine ae.flat rfl ?_|refine ae.cons rfl ?_|refine ae.dead rfl ?_|refine ae.cons (by simp only [aj.au,List.map_cons,List.map_nil,XC.au,aq];exact rfl) ?_)) (hk:=by repeat' (first|exact bE.nil|refine bE.cons (hOK _ (Nat.le_of_ble_eq_true rfl)) ?_|refine bE.flat ?_|refine bE.cons (by first|(simp [aj.cc,XC.ok,bp];done)|simp [aj.cc,XC.ok,bp, *]) ?_))
           rfl
         | some rest=>
           rw [hbk]at hnx
           have hlev:=C6 hev.ok hbk
           have hfo:jN x.2.1.1 (first+(s.1.out.length:Nat)) x.1 x.2.1.2.1 rest:=⟨by rw [hx.cols,hx.rows,hs.cols,hs.rows];exact hT.hd.dims,by rw [hx.cols,hx.rows,hs.cols,hs.rows];exact hmb,hx6,hx.lev,hlev⟩
           cases hF1:km x.2.1.1 (first+(s.1.out.length:Nat)) x.1 x.2.1.2.1 rest with
           | none=>
             have hnx2:iI evs (first+(s.1.out.length:Nat)) o.2 (s.1.S,o.1,s.1.u) (x.1+1) = .inl 2:=by
              rw [hnx];unfold Dj;dsimp only;rw [hF1]
             have e0:fD evs first l (jJ h p) = .inl 2:=by
              unfold fD
              rw [nM (k:=s.1.out.length+1) (e:=2) (by rw [hrun,nN hnx2 6 (by omega)]) l.length (by omega)]
             rw [e0]
             repeat' (first
              |(refine qz ?_;first
               |refine pH (hc:=hht) ?_
               |refine ld (hc:=hc1) ?_
               |refine fy ?_ (hle:=by rw [aE])
               |refine fy ?_ (hle:=by rw [aF])
               |refine i9 ?_ (hs1:=by rw [aE]) (hs2:=by rw [aE])
               |refine cl ?_ (hi:=by exact qE rfl)
               |refine cl ?_ (hi:=by exact yc hev hb1 hb2 (hb3 _ _ _) hst hbk rfl)
               |refine OS (p:=1) (q:=evs.length-x.2.1.2.2) (fun c' hc'=>?_)
               |refine cl ?_ (hi:=by exact yr hfo hF1 (i:=24) (d:=23) (N:=15) rfl rfl rfl rfl (by decide) nA rfl))
              |refine H8 (id:=16) 9 ?_|refine zz ?_|refine zx (fun _=>?_) (fun _=>?_)|fail)
             show aH _ _ _ _ _ _ _ _;refine kV [0,1,2,3,4,5,6,7,8,9,10,11,12,13,14,23] ?_ (ho:=by repeat' (first|exact ae.nil|refine ae.cons (by rw [hV _ rfl];rfl) ?_|refine ae.flat rfl ?_|refine ae.cons rfl ?_|refine ae.dead rfl ?_|refine ae.cons (by simp only [aj.au,List.map_cons,List.map_nil,XC.au,aq];exact rfl) ?_)) (hk:=by repeat' (first|exact bE.nil|refine bE.cons (hOK _ (Nat.le_of_ble_eq_true rfl)) ?_|refine bE.flat ?_|refine bE.cons (by first|(simp [aj.cc,XC.ok,bp];done)|simp [aj.cc,XC.ok,bp, *]) ?_))
             rfl
           | some y=>
             have hnx2:iI evs (first+(s.1.out.length:Nat)) o.2 (s.1.S,o.1,s.1.u) (x.1+1) = .inr (y.1,y.2,x.2.1.2.2+1):=by
              rw [hnx];unfold Dj;dsimp only;rw [hF1]
             repeat' (first
              |(refine qz ?_;first
               |refine pH (hc:=hht) ?_
               |refine ld (hc:=hc1) ?_
               |refine fy ?_ (hle:=by rw [aE])
               |refine fy ?_ (hle:=by rw [aF])
               |refine i9 ?_ (hs1:=by rw [aE]) (hs2:=by rw [aE])
               |refine cl ?_ (hi:=by exact qE rfl)
               |refine cl ?_ (hi:=by exact yc hev hb1 hb2 (hb3 _ _ _) hst hbk rfl)
               |refine OS (p:=1) (q:=evs.length-x.2.1.2.2) (fun c' hc'=>?_)
               |refine cl ?_ (hi:=by exact yt hfo hF1 (i:=24) (d:=23) (N:=15) rfl rfl rfl rfl (by decide) nA rfl))
              |refine H8 (id:=16) 9 ?_|refine zz ?_|refine zx (fun _=>?_) (fun _=>?_)|fail)
             have hc2:ed c' 14 (x.2.1.2.2+1) (evs.length-(x.2.1.2.2+1)):=by
              rw [show evs.length-(x.2.1.2.2+1)=evs.length-x.2.1.2.2-1 by omega];exact hc'
             refine ih2 (x.1+1,(y.1,y.2,x.2.1.2.2+1),c') _ _ _ (bm [0,1,2,3,4,5,6,7,8,9,10,11,12,13,14,15,16,17,18,19,20,21,22,23,24] (obj:=by(repeat' (first|exact ae.nil|refine ae.cons (by rw [hV _ rfl];rfl) ?_|refine ae.flat rfl ?_|refine ae.cons rfl ?_|refine ae.dead rfl ?_|refine ae.cons (by simp only [aj.au,List.map_cons,List.map_nil,XC.au,aq];exact rfl) ?_));first|done|fail)) (th hx hx6 hnx2 hfo hF1 (by omega) hc2) (by dsimp only;omega)
   · have hx6':x.1=6:=by omega
     have hr6:=hx.run
     rw [hx6']at hr6
     rw [hr6]at hrun
     repeat' (first
      |(refine qz ?_;first
       |refine fy ?_ (hle:=by rw [aF])
       |refine qU (enc:=mC) (a:=x.2.1.2.1) ?_
       |refine uL (enc:=mC) ?_)
      |refine zz ?_|refine zx (fun _=>?_) (fun _=>?_)|fail)
     have hl1:(s.1.out++[x.2.1.2.1]).length=s.1.out.length+1:=by rw [List.length_append];rfl
     refine ih (⟨x.2.1.1,s.1.out++[x.2.1.2.1],x.2.1.2.2⟩,x.2.2) _ _ _ (bm [0,1,2,3,4,5,6,7,8,9,10,11,12,13,14,15,16,17,18,19,20,21,26,23] (obj:=by(repeat' (first|exact ae.nil|refine ae.flat (by rw [List.length_append];rfl) ?_|refine ae.cons (by rw [hV _ rfl];rfl) ?_|refine ae.flat rfl ?_|refine ae.cons rfl ?_|refine ae.dead rfl ?_|refine ae.cons (by simp only [aj.au,List.map_cons,List.map_nil,XC.au,aq];exact rfl) ?_));first|done|fail) (reg:=by(repeat' (first|exact af.nil|refine af.flat (by rw [List.length_append];rfl) ?_|refine af.flat rfl ?_|refine af.cons rfl ?_|refine af.sl rfl (by assumption) rfl ?_|refine af.du rfl rfl (by first|rfl|omega|(simp;done)|(simp;omega)) ?_));first|done|fail)) ⟨by dsimp only;rw [hl1];exact hlt,by dsimp only;rw [hl1];exact hrun,hx.cols.trans hs.cols,hx.rows.trans hs.rows,hx.lev,hx.u,hx.c⟩ (by dsimp only;rw [hl1];omega)
 · have hend:s.1.out.length=l.length:=by omega
   have hrun:=hs.run
   rw [hend]at hrun
   by_cases hu:s.1.u<evs.length
   · have e0:fD evs first l (jJ h p) = .inl 13:=by
      unfold fD;rw [hrun];exact if_pos hu
     rw [e0]
     repeat' (first|refine zz ?_|refine zx (fun _=>?_) (fun _=>?_)|fail)
     show aH _ _ _ _ _ _ _ _;refine kV [0,1,2,3,4,5,6,7,8,9,10,11,12,13,14,23] ?_ (ho:=by repeat' (first|exact ae.nil|refine ae.cons (by rw [hV _ rfl];rfl) ?_|refine ae.flat rfl ?_|refine ae.cons rfl ?_|refine ae.dead rfl ?_|refine ae.cons (by simp only [aj.au,List.map_cons,List.map_nil,XC.au,aq];exact rfl) ?_)) (hk:=by repeat' (first|exact bE.nil|refine bE.cons (hOK _ (Nat.le_of_ble_eq_true rfl)) ?_|refine bE.flat ?_|refine bE.cons (by first|(simp [aj.cc,XC.ok,bp];done)|simp [aj.cc,XC.ok,bp, *]) ?_))
     rfl
   · have e0:fD evs first l (jJ h p) = .inr s.1.out:=by
      unfold fD;rw [hrun];exact if_neg hu
     rw [e0]
     have hz:evs.length-s.1.u=0:=by omega
     rw [hz]at hsc
     repeat' (first|refine zz ?_|refine zx (fun _=>?_) (fun _=>?_)|fail)
     show aH _ _ _ _ _ _ _ _;refine kV [0,1,2,3,4,5,6,7,8,9,10,11,12,13,14,22] ?_ (ho:=by repeat' (first|exact ae.nil|refine ae.cons (by rw [hV _ rfl];rfl) ?_|refine ae.flat rfl ?_|refine ae.cons rfl ?_|refine ae.dead rfl ?_|refine ae.cons (by simp only [aj.au,List.map_cons,List.map_nil,XC.au,aq];exact rfl) ?_)) (hk:=by repeat' (first|exact bE.nil|refine bE.cons (hOK _ (Nat.le_of_ble_eq_true rfl)) ?_|refine bE.flat ?_|refine bE.cons (by first|(simp [aj.cc,XC.ok,bp];done)|simp [aj.cc,XC.ok,bp, *]) ?_))
     simp only [FQ,XV.au,List.map_cons,List.map_nil,X1.au,aq];rfl
end Go.Proofs.YtagpkhindehcbaaGreat
namespace Go.Proofs.YtagpkhindehcbaaGreat
open Go.Xm
variable [az]
def pE (h:Hd):Hd:=if h.w=true then {h with a:=fun i=>max (h.a i) 8,b:=fun i=>max (h.b i) 8}else {h with w:=false,a:=fun _=>0,b:=fun _=>0}
abbrev xT (h:Hd) (j:Nat):Hd:={h with a:=pY (fun i=>max (h.a i) 8) h.a j,b:=pY (fun i=>max (h.b i) 8) h.b j}
theorem Ef {h g:Hd}(hw:h.w=g.w) (ha:∀ i,i<64→h.a i=g.a i) (hb:∀ i,i<64→h.b i=g.b i):eh h=eh g:=by
 unfold eh
 rw [hw,n_ ha,n_ hb]
theorem CD (k:IntKind) (f:Nat→Int) {n i:Nat}(hi:i<n) (z:Int):(ti k n f).set i (.int k z)=ti k n (cW f i z):=rq k n f i z
theorem HB (h:Hd) {i:Nat}(hi:i<64) (z:Int):(eh h).set (1+i) (.int .u8 z)=eh {h with a:=cW h.a i z}:=by
 unfold eh
 rw [Nat.add_comm,List.set_cons_succ,List.set_append_left _ _ (by rw [aE];exact hi),CD .u8 h.a hi z]
theorem HC (h:Hd) {i:Nat}(hi:i<64) (z:Int):(eh h).set (65+i) (.int .u8 z)=eh {h with b:=cW h.b i z}:=by
 unfold eh
 rw [show 65+i=(64+i)+1 by omega,List.set_cons_succ,List.set_append_right _ _ (by rw [aE];omega),aE,show 64+i-64=i by omega,CD .u8 h.b hi z]
theorem BC:bC Tryz.prog 24 (eh ⟨0,0,false,fun _=>0,fun _=>0⟩):=by
 show bC Tryz.prog 24 (.bool false::((ti .u8 64 fun _=>0)++(ti .u8 64 fun _=>0)))
 infer_instance
theorem FU (h:Hd) (hr:∀ i,i<64→(0≤h.a i∧h.a i≤255)∧(0≤h.b i∧h.b i≤255)):bt Tryz.prog 41 [.agg (eh h)] [] (.agg (eh (pE h))) []:=by
 obtain⟨w,hw⟩:∃ w,h.w=w:=⟨_,rfl⟩
 have h0:(eh h)[0]? = some (.bool w):=by rw [←hw];rfl
 cases w
 · have e:eh (pE h)=eh ⟨0,0,false,fun _=>0,fun _=>0⟩:=by unfold pE;rw [if_neg (by rw [hw];decide)];rfl
   rw [e]
   refine cO Tryz.func41 ?_
   repeat' (first
    |(refine qz ?_;first
     |refine p7 (zs:=eh ⟨0,0,false,fun _=>0,fun _=>0⟩) (hz:=BC) ?_
     |refine b0 (zs:=eh ⟨0,0,false,fun _=>0,fun _=>0⟩) (hz:=BC) ?_
     |refine i9 (cs:=eh ⟨0,0,false,fun _=>0,fun _=>0⟩) ?_ (hs1:=by rw [iX]) (hs2:=by rw [iX])
     |refine ld (hc:=h0) ?_)
    |refine zz ?_|refine zx (fun _=>?_) (fun _=>?_)|fail)
   show aH _ _ _ _ _ _ _ _;refine kV [] ?_
   rfl
 · have e:eh (pE h)=eh (xT h 64):=by
    unfold pE
    rw [if_pos hw]
    exact Ef rfl (fun i hi=>by simp [pY,hi]) (fun i hi=>by simp [pY,hi])
   rw [e]
   refine cO Tryz.func41 ?_
   repeat' (first
    |(refine qz ?_;first
     |refine p7 (zs:=eh ⟨0,0,false,fun _=>0,fun _=>0⟩) (hz:=BC) ?_
     |refine ld (hc:=h0) ?_)
    |refine zz ?_|refine zx (fun _=>?_) (fun _=>?_)|fail)
   refine WX.dp (σ:=Nat) (fun j=>[(8,.one (.int .i64 (j:Nat))),(1,.one (.ptr 0 0)),(2,.one (.ptr 1 0))]) (fun j=>[.cells (eh (xT h j)) 24 false false,.cells (eh ⟨0,0,false,fun _=>0,fun _=>0⟩) 24 false false]) (fun j=>j≤64) (fun j=>64-j) 0 (by omega) (fun s _=>kS) (bm [0,1] (obj:=by(repeat' (first|exact ae.nil|refine ae.flat (by rw [show xT h 0=h by unfold xT;rw [nW,nW]];rfl) ?_|refine ae.flat rfl ?_|refine ae.cons rfl ?_|refine ae.dead rfl ?_|refine ae.cons (by simp only [aj.au,List.map_cons,List.map_nil,XC.au,aq];exact rfl) ?_));first|done|fail)) ?_
   intro j hj ih
   by_cases hj64:j<64
   · have ga:=Hz (xT h j) hj64
     have gb:=HA (xT h j) hj64
     have ea:(xT h j).a j=h.a j:=by simp [pY]
     have eb:(xT h j).b j=h.b j:=by simp [pY]
     rw [ea]at ga
     rw [eb]at gb
     have hrj:=hr j hj64
     have e1:({xT h j with a:=cW (xT h j).a j (max (h.a j) 8),b:=cW (xT h j).b j (max (h.b j) 8)}:Hd)=xT h (j+1):=by
      show({h with a:=cW (pY (fun i=>max (h.a i) 8) h.a j) j (max (h.a j) 8),b:=cW (pY (fun i=>max (h.b i) 8) h.b j) j (max (h.b j) 8)}:Hd)=_
      rw [nV (fun i=>max (h.a i) 8),nV (fun i=>max (h.b i) 8)]
     repeat' (first
      |(refine qz ?_;first
       |refine ld (hc:=ga) ?_
       |refine ld (hc:=gb) ?_
       |refine st ?_ (hle:=by rw [iX];omega) (hv:=HB (xT h j) hj64 (max (h.a j) 8))
       |refine st ?_ (hle:=by rw [iX];omega) (hv:=HC {xT h j with a:=cW (xT h j).a j (max (h.a j) 8)} hj64 (max (h.b j) 8)))
      |refine zz ?_|refine zx (fun _=>?_) (fun _=>?_)|fail)
     refine ih (j+1) _ _ _ (bm [0,1] (obj:=by(repeat' (first|exact ae.nil|refine ae.flat (by rw [←e1];rfl) ?_|refine ae.flat rfl ?_|refine ae.cons rfl ?_|refine ae.dead rfl ?_|refine ae.cons (by simp only [aj.au,List.map_cons,List.map_nil,XC.au,aq];exact rfl) ?_));first|done|fail)) (by omega) (by omega)
   · obtain rfl:j=64:=by omega
     repeat' (first
      |(refine qz ?_;first
       |refine fy ?_ (hle:=by rw [iX])
       |refine i9 (cs:=eh (xT h 64)) ?_ (hs1:=by rw [iX]) (hs2:=by rw [iX]))
      |refine zz ?_|refine zx (fun _=>?_) (fun _=>?_)|fail)
     show aH _ _ _ _ _ _ _ _;refine kV [] ?_
     rfl
theorem Ja {h g:Hd}(hr:∀ i,i<64→(0≤h.a i∧h.a i≤255)∧(0≤h.b i∧h.b i≤255)) (hg:pE h=g) {HS:ak}(hb:Nat.blt HS.length Mem.bound=true):aI.Sound Tryz.prog ⟨41,[.agg (eh h)],HS,.agg (eh g),HS,[]⟩:=by
 subst hg
 exact aB (FU h hr) (by simp only [List.all_cons,List.all_nil,Bool.and_true];exact oQ h) (oQ _) hb
def qc (h:Hd):Hd:={pE h with cols:=1+h.cols%2^3,rows:=1+h.rows%2^3}
structure rK (h:Hd):Prop where
 cols : -9223372036854775808≤h.cols∧h.cols≤9223372036854775807
 rows : -9223372036854775808≤h.rows∧h.rows≤9223372036854775807
 tab:∀ i,i<64→(0≤h.a i∧h.a i≤255)∧(0≤h.b i∧h.b i≤255)
theorem xR:bC Tryz.prog 26 (iz ⟨0,0,false,fun _=>0,fun _=>0⟩):=by
 show bC Tryz.prog 26 (.int .i64 0 :: .int .i64 0 :: .bool false::((ti .u8 64 fun _=>0)++(ti .u8 64 fun _=>0)))
 infer_instance
theorem Dn (h:Hd) (hr:rK h):bt Tryz.prog 19 [.agg (iz h)] [] (.agg (iz (qc h))) []:=by
 have r1:=hr.cols
 have r2:=hr.rows
 refine cO Tryz.func19 ?_
 repeat' (first
  |(refine qz ?_;first
   |refine p7 (zs:=iz ⟨0,0,false,fun _=>0,fun _=>0⟩) (hz:=xR) ?_
   |refine rS (cs:=eh h) ?_ (hle:=by rw [bM];decide) (hc:=B6 h)
   |refine an 3 ?_
   |refine cl ?_ (hi:=by exact Ja hr.tab rfl rfl))
  |refine zz ?_|refine zx (fun _=>?_) (fun _=>?_)|fail)
 show aH _ _ _ _ _ _ _ _;refine kV [] ?_
 rfl
theorem FR {h g:Hd}(hr:rK h) (hg:qc h=g) {HS:ak}(hb:Nat.blt HS.length Mem.bound=true):aI.Sound Tryz.prog ⟨19,[.agg (iz h)],HS,.agg (iz g),HS,[]⟩:=by
 subst hg
 exact aB (Dn h hr) (by simp only [List.all_cons,List.all_nil,Bool.and_true];exact iP h) (iP _) hb
structure o5 (p:Ph):Prop where
 id : -9223372036854775808≤p.id∧p.id≤9223372036854775807
 qp : -9223372036854775808≤p.qp∧p.qp≤9223372036854775807
def pD (p:Ph):Ph:=⟨p.id%2^16,p.inter,p.inter && p.down,1+p.qp%2^5%31⟩
theorem Dp (p:Ph) (hr:o5 p):bt Tryz.prog 20 [.agg (jh p)] [] (.agg (jh (pD p))) []:=by
 have r1:=hr.id
 have r2:=hr.qp
 obtain⟨b,hi⟩:∃ b,p.inter=b:=⟨_,rfl⟩
 have hl:(jh p)[1]? = some (.bool b):=by rw [←hi];rfl
 have e:pD p=⟨p.id%2^16,b,b && p.down,1+p.qp%2^5%31⟩:=by unfold pD;rw [hi]
 rw [e]
 cases b
 · refine cO Tryz.func20 ?_
   repeat' (first
    |(refine qz ?_;first
     |refine ld (hc:=hl) ?_
     |refine an 16 ?_
     |refine an 5 ?_)
    |refine zz ?_|refine zx (fun _=>?_) (fun _=>?_)|fail)
   show aH _ _ _ _ _ _ _ _;refine kV [] ?_
   rfl
 · refine cO Tryz.func20 ?_
   repeat' (first
    |(refine qz ?_;first
     |refine ld (hc:=hl) ?_
     |refine an 16 ?_
     |refine an 5 ?_)
    |refine zz ?_|refine zx (fun _=>?_) (fun _=>?_)|fail)
   show aH _ _ _ _ _ _ _ _;refine kV [] ?_
   rfl
theorem FT {p g:Ph}(hr:o5 p) (hg:pD p=g) {HS:ak}(hb:Nat.blt HS.length Mem.bound=true):aI.Sound Tryz.prog ⟨20,[.agg (jh p)],HS,.agg (jh g),HS,[]⟩:=by
 subst hg
 exact aB (Dp p hr) rfl rfl hb
theorem BZ {p:Ph}(hr:o5 p):z9 (pD p):=by
 refine⟨?_,?_,?_⟩
 · show 0≤p.id%2^16∧p.id%2^16≤65535
   omega
 · show 1≤1+p.qp%2^5%31∧1+p.qp%2^5%31≤31
   omega
 · intro h
   have h':(p.inter && p.down)=true:=h
   exact(Bool.and_eq_true_iff.1 h').1
def four (h:Hd):Hd:={qc h with cols:=1+(qc h).cols%2^2,rows:=1+(qc h).rows%2^2}
theorem B5 (h:Hd):sM (four h)∧1≤(four h).cols∧(four h).cols≤4∧1≤(four h).rows∧(four h).rows≤4:=by
 have c:1≤(four h).cols∧(four h).cols≤4:=by show 1≤1+(qc h).cols%2^2∧1+(qc h).cols%2^2≤4;omega
 have r:1≤(four h).rows∧(four h).rows≤4:=by show 1≤1+(qc h).rows%2^2∧1+(qc h).rows%2^2≤4;omega
 refine⟨⟨⟨by omega,by omega,by omega,by omega⟩,?_,?_⟩,c.1,c.2,r.1,r.2⟩
 · intro hw i hi
   have hw':(pE h).w=true:=hw
   show 8≤(pE h).a i∧8≤(pE h).b i
   unfold pE at hw' ⊢
   split at hw'
   · rename_i g
     rw [if_pos g]
     exact⟨Int.le_max_right _ _,Int.le_max_right _ _⟩
   · cases hw'
 · intro hw i hi
   have hw':(pE h).w=false:=hw
   show(pE h).a i=0∧(pE h).b i=0
   unfold pE at hw' ⊢
   split at hw'
   · rename_i g
     have:h.w=false:=hw'
     rw [g]at this
     cases this
   · rename_i g
     rw [if_neg g]
     exact⟨rfl,rfl⟩
structure Wy where
 x:Nat→Int
 y:Nat→Int
 same:Bool
def NJ (w:Wy):List XC:=[.int .i8 (w.x 0),.int .i8 (w.x 1),.int .i8 (w.x 2),.int .i8 (w.x 3),.int .i8 (w.y 0),.int .i8 (w.y 1),.int .i8 (w.y 2),.int .i8 (w.y 3),.bool w.same]
def sm (w:Wy) (k:Nat):Int × Int:=if w.same=true then((w.x 0).tmod 32,(w.y 0).tmod 32)else((w.x k).tmod 32,(w.y k).tmod 32)
structure BL (w:Wy):Prop where
 x:∀ k,k<4 → -128≤w.x k∧w.x k<128
 y:∀ k,k<4 → -128≤w.y k∧w.y k<128
theorem zeroV:bC Tryz.prog 49 (vt fun _=>(0,0)):=by
 show bC Tryz.prog 49 [cn (0,0),cn (0,0),cn (0,0),cn (0,0)]
 rw [dM]
 infer_instance
theorem gj {x y:Int}(hx : -128≤x∧x<128) (hy : -128≤y∧y<128) {q:Int × Int}(hq:(x.tmod 32,y.tmod 32)=q) {HS:ak}(hb:Nat.blt HS.length Mem.bound=true):aI.Sound Tryz.prog ⟨77,[.one (.int .i8 x),.one (.int .i8 y)],HS,.one (cn q),HS,[]⟩:=by
 subst hq;exact A8 hx hy hb
theorem H9 (w:Wy) (hr:BL w):bt Tryz.prog 43 [.agg (NJ w)] [] (.agg (vt (sm w))) []:=by
 have x0:=hr.x 0 (by decide)
 have x1:=hr.x 1 (by decide)
 have x2:=hr.x 2 (by decide)
 have x3:=hr.x 3 (by decide)
 have y0:=hr.y 0 (by decide)
 have y1:=hr.y 1 (by decide)
 have y2:=hr.y 2 (by decide)
 have y3:=hr.y 3 (by decide)
 obtain⟨p0,h0⟩:∃ p,((w.x 0).tmod 32,(w.y 0).tmod 32)=p:=⟨_,rfl⟩
 obtain⟨p1,h1⟩:∃ p,((w.x 1).tmod 32,(w.y 1).tmod 32)=p:=⟨_,rfl⟩
 obtain⟨p2,h2⟩:∃ p,((w.x 2).tmod 32,(w.y 2).tmod 32)=p:=⟨_,rfl⟩
 obtain⟨p3,h3⟩:∃ p,((w.x 3).tmod 32,(w.y 3).tmod 32)=p:=⟨_,rfl⟩
 obtain⟨b,hb⟩:∃ b,w.same=b:=⟨_,rfl⟩
 have hl:(NJ w)[8]? = some (.bool b):=by rw [←hb];rfl
 cases b
 · have e:vt (sm w) = [cn p0,cn p1,cn p2,cn p3]:=by
    have g:∀ k,sm w k=((w.x k).tmod 32,(w.y k).tmod 32):=fun k=>if_neg (by rw [hb];decide)
    show [cn (sm w 0),cn (sm w 1),cn (sm w 2),cn (sm w 3)]=_
    rw [g,g,g,g,h0,h1,h2,h3]
   rw [e]
   refine cO Tryz.func43 ?_
   repeat' (first
    |(refine qz ?_;first
     |refine p7 (zs:=vt fun _=>(0,0)) (hz:=zeroV) ?_
     |refine ld (hc:=hl) ?_
     |refine cl ?_ (hi:=by exact gj x0 y0 h0 rfl)
     |refine cl ?_ (hi:=by exact gj x1 y1 h1 rfl)
     |refine cl ?_ (hi:=by exact gj x2 y2 h2 rfl)
     |refine cl ?_ (hi:=by exact gj x3 y3 h3 rfl))
    |refine WX.loop ?_|refine WX.round ?_|refine zz ?_|refine zx (fun _=>?_) (fun _=>?_)|fail)
   show aH _ _ _ _ _ _ _ _;refine kV [] ?_
   rfl
 · have e:vt (sm w) = [cn p0,cn p0,cn p0,cn p0]:=by
    have g:∀ k,sm w k=((w.x 0).tmod 32,(w.y 0).tmod 32):=fun k=>if_pos hb
    show [cn (sm w 0),cn (sm w 1),cn (sm w 2),cn (sm w 3)]=_
    rw [g,g,g,g,h0]
   rw [e]
   refine cO Tryz.func43 ?_
   repeat' (first
    |(refine qz ?_;first
     |refine p7 (zs:=vt fun _=>(0,0)) (hz:=zeroV) ?_
     |refine ld (hc:=hl) ?_
     |refine cl ?_ (hi:=by exact gj x0 y0 h0 rfl)
     |refine cl ?_ (hi:=by exact gj x1 y1 h1 rfl)
     |refine cl ?_ (hi:=by exact gj x2 y2 h2 rfl)
     |refine cl ?_ (hi:=by exact gj x3 y3 h3 rfl))
    |refine WX.loop ?_|refine WX.round ?_|refine zz ?_|refine zx (fun _=>?_) (fun _=>?_)|fail)
   show aH _ _ _ _ _ _ _ _;refine kV [] ?_
   rfl
theorem CL {w:Wy}(hr:BL w) {q:Nat→Int × Int}(hq:sm w=q) {HS:ak}(hb:Nat.blt HS.length Mem.bound=true):aI.Sound Tryz.prog ⟨43,[.agg (NJ w)],HS,.agg (vt q),HS,[]⟩:=by
 subst hq
 exact aB (H9 w hr) rfl rfl hb
theorem Ml:∀ n:Fin 256,-31≤((n.val:Int)-128).tmod 32∧((n.val:Int)-128).tmod 32≤31:=by decide +kernel
theorem sG {x:Int}(h : -128≤x∧x<128) : -31≤x.tmod 32∧x.tmod 32≤31:=by
 have:=Ml ⟨(x+128).toNat,by omega⟩
 have e:(((x+128).toNat:Nat):Int)-128=x:=by omega
 simp only [e]at this
 exact this
theorem EF {w:Wy}(hr:BL w):∀ k,k<4→d7 (sm w k)=true:=fun k hk=>by
 have a:=sG (hr.x k hk)
 have b:=sG (hr.y k hk)
 have c:=sG (hr.x 0 (by decide))
 have d:=sG (hr.y 0 (by decide))
 unfold sm d7
 split <;> exact decide_eq_true (by omega)
end Go.Proofs.YtagpkhindehcbaaGreat
namespace Go.Proofs.YtagpkhindehcbaaGreat
open Go.Xm
variable [az]
structure Sm where
 kind:Int
 step:Int
 wy:Wy
 edge:Bool
 keep:Nat→Int
 seed:Int
 great:Bool
def qA (s:Sm):List XC:=[.int .u8 s.kind,.int .u8 s.step,.int .i8 (s.wy.x 0),.int .i8 (s.wy.x 1),.int .i8 (s.wy.x 2),.int .i8 (s.wy.x 3),.int .i8 (s.wy.y 0),.int .i8 (s.wy.y 1),.int .i8 (s.wy.y 2),.int .i8 (s.wy.y 3),.bool s.wy.same,.bool s.edge,.int .u64 (s.keep 0),.int .u64 (s.keep 1),.int .u64 (s.keep 2),.int .u64 (s.keep 3),.int .u64 (s.keep 4),.int .u64 (s.keep 5),.int .u32 s.seed,.bool s.great]
instance:qQ qA 20:=⟨fun _=>rfl,fun _=>rfl,by decide⟩
instance NU (s:Sm) (e:TypeId) (a b:Bool):dc (.cells (qA s) e a b):=gW rfl
structure ka (s:Sm):Prop where
 kind:0≤s.kind∧s.kind≤255
 step:0≤s.step∧s.step≤255
 wy:BL s.wy
 keep:∀ k,k<6→0≤s.keep k∧s.keep k<18446744073709551616
 seed:0≤s.seed∧s.seed<4294967296
def uQ (n:Int):Int:=IntKind.u32.wrap (IntKind.u32.wrap (n*1664525)+1013904223)
theorem wrap32 (x:Int):0≤IntKind.u32.wrap x∧IntKind.u32.wrap x<4294967296:=by
 unfold IntKind.wrap
 simp [IntKind.bits,IntKind.signed]
 omega
def lR (s:Sm) (inter:Bool):Int:=if inter=true then s.kind%5 else 3+s.kind%2
def fW (s:Sm) (inter:Bool) (qp:Int):Int × Int:=
 if lR s inter=4 then(if 1≤qp+pd (s.step%4)∧qp+pd (s.step%4)≤31 then(4,qp+pd (s.step%4))else(3,qp))else(lR s inter,qp)
def Pe (s:Sm) (k i:Nat) (x:Int × (Nat→Int)):Int × (Nat→Int):=
 (uQ x.1,if s.keep k/2^i%2=1 then(if s.great=true then cW (cW x.2 (k*64+i) (uQ x.1/2^16%7-3)) (k*64+i) (uQ x.1/2^16%1001-500)else cW x.2 (k*64+i) (uQ x.1/2^16%7-3))else x.2)
def o8 (s:Sm) (k:Nat) (x:Int × (Nat→Int)):Nat→Int × (Nat→Int)
 | 0=>x
 | i+1=>Pe s k i (o8 s k x i)
def kp (s:Sm) (al:Bool):Nat→Int × (Nat→Int)
 | 0=>(s.seed,fun _=>0)
 | k+1=>((o8 s k (kp s al k) 64).1,if al=true then cW (o8 s k (kp s al k) 64).2 (k*64) ((o8 s k (kp s al k) 64).1/2^20%128)else(o8 s k (kp s al k) 64).2)
def oZ (K:Int) (w:Wy):Nat→Int × Int:=if K=1 then fun _=>sm w 0 else if K=2 then fun k=>if k<4 then sm w k else(0,0)else fun _=>(0,0)
def xS (K:Int):Bool:=decide (K=3∨K=4)
def nj (s:Sm) (inter:Bool) (qp:Int):Mb:=
 ⟨(fW s inter qp).1,(fW s inter qp).2,oZ (fW s inter qp).1 s.wy,if xS (fW s inter qp).1=true then s.edge else false,if(fW s inter qp).1=0 then fun _=>0 else(kp s (xS (fW s inter qp).1) 6).2⟩
theorem Gk (s:Sm) (k:Nat) (x:Int × (Nat→Int)) (j:Nat) (hj:j<k*64):∀ i,(o8 s k x i).2 j=x.2 j:=by
 intro i
 induction i with
 | zero=>rfl
 | succ i ih=>
   show(if s.keep k/2^i%2=1 then(if s.great=true then cW (cW (o8 s k x i).2 (k*64+i) _) (k*64+i) _ else cW (o8 s k x i).2 (k*64+i) _)else(o8 s k x i).2) j=_
   split
   · split
     · unfold cW
       rw [if_neg (by omega),if_neg (by omega)];exact ih
     · unfold cW
       rw [if_neg (by omega)];exact ih
   · exact ih
theorem sH {f:Nat→Int} {lo hi:Int}(h:∀ j,lo≤f j∧f j≤hi) {i:Nat} {z:Int}(hz:lo≤z∧z≤hi):∀ j,lo≤cW f i z j∧cW f i z j≤hi:=fun j=>by
 unfold cW
 by_cases g:j=i
 · rw [if_pos g];exact hz
 · rw [if_neg g];exact h j
theorem Jq (s:Sm) (k:Nat) (x:Int × (Nat→Int)) (h:∀ j,-500≤x.2 j∧x.2 j≤500):∀ i j,-500≤(o8 s k x i).2 j∧(o8 s k x i).2 j≤500:=by
 intro i
 induction i with
 | zero=>exact h
 | succ i ih=>
   show ∀ j,-500≤(if s.keep k/2^i%2=1 then(if s.great=true then cW (cW (o8 s k x i).2 (k*64+i) (uQ (o8 s k x i).1/2^16%7-3)) (k*64+i) (uQ (o8 s k x i).1/2^16%1001-500)else cW (o8 s k x i).2 (k*64+i) (uQ (o8 s k x i).1/2^16%7-3))else(o8 s k x i).2) j∧(if s.keep k/2^i%2=1 then(if s.great=true then cW (cW (o8 s k x i).2 (k*64+i) (uQ (o8 s k x i).1/2^16%7-3)) (k*64+i) (uQ (o8 s k x i).1/2^16%1001-500)else cW (o8 s k x i).2 (k*64+i) (uQ (o8 s k x i).1/2^16%7-3))else(o8 s k x i).2) j≤500
   obtain⟨z,hz⟩:∃ z,uQ (o8 s k x i).1/2^16=z:=⟨_,rfl⟩
   rw [hz]
   by_cases g1:s.keep k/2^i%2=1
   · rw [if_pos g1]
     by_cases g2:s.great=true
     · rw [if_pos g2]
       exact sH (sH ih (by omega)) (by omega)
     · rw [if_neg g2]
       exact sH ih (by omega)
   · rw [if_neg g1]
     exact ih
theorem yN (s:Sm) (al:Bool):∀ k,(∀ j,-500≤(kp s al k).2 j∧(kp s al k).2 j≤500)∧(al=true→∀ j,j<k→0≤(kp s al k).2 (j*64)∧(kp s al k).2 (j*64)≤127):=by
 intro k
 induction k with
 | zero=>exact⟨fun j=>by show -500≤(0:Int)∧(0:Int)≤500;omega,fun _ j hj=>absurd hj (Nat.not_lt_zero _)⟩
 | succ k ih=>
   have hi:=Jq s k (kp s al k) ih.1 64
   obtain⟨y,hy⟩:∃ y,o8 s k (kp s al k) 64=y:=⟨_,rfl⟩
   have hkp:=fun j hj=>Gk s k (kp s al k) j hj 64
   have e:(kp s al (k+1)).2=if al=true then cW y.2 (k*64) (y.1/2^20%128)else y.2:=by
    show(if al=true then cW (o8 s k (kp s al k) 64).2 (k*64) ((o8 s k (kp s al k) 64).1/2^20%128)else(o8 s k (kp s al k) 64).2)=_
    rw [hy]
   rw [hy]at hi hkp
   obtain⟨z,hz⟩:∃ z,y.1/2^20=z:=⟨_,rfl⟩
   rw [e,hz]
   refine⟨fun j=>?_,fun ha j hj=>?_⟩
   · split
     · exact sH hi (by omega) j
     · exact hi j
   · rw [if_pos ha]
     unfold cW
     by_cases hjk:j=k
     · rw [if_pos (by rw [hjk])];omega
     · rw [if_neg (by omega),hkp (j*64) (by omega)]
       exact ih.2 ha j (by omega)
theorem Hx {q n:Int}(hn:0≤n∧n<4) (h:1≤q+pd n∧q+pd n≤31):(dV q (q+pd n)).2=true:=by
 have h4:n=0∨n=1∨n=2∨n=3:=by omega
 have e0:pd 0 = -2:=rfl
 have e1:pd 1 = -1:=rfl
 have e2:pd 2=1:=rfl
 have e3:pd 3=2:=rfl
 unfold dV
 rcases h4 with rfl|rfl|rfl|rfl
 · rw [e0]at h ⊢
   rw [if_neg (by omega),if_pos (by omega)]
 · rw [e1]at h ⊢
   rw [if_neg (by omega),if_neg (by omega),if_pos (by omega)]
 · rw [e2]at h ⊢
   rw [if_neg (by omega),if_neg (by omega),if_neg (by omega),if_pos (by omega)]
 · rw [e3]at h ⊢
   rw [if_neg (by omega),if_neg (by omega),if_neg (by omega),if_neg (by omega),if_pos (by omega)]
theorem yM (s:Sm) (inter:Bool) (qp:Int) (hs:ka s) (hq:1≤qp∧qp≤31):0≤(fW s inter qp).1∧(fW s inter qp).1≤4∧1≤(fW s inter qp).2∧(fW s inter qp).2≤31∧(inter=false→3≤(fW s inter qp).1)∧((fW s inter qp).1=4→(dV qp (fW s inter qp).2).2=true)∧((fW s inter qp).1≠4→(fW s inter qp).2=qp):=by
 have hk:=hs.kind
 have hst:=hs.step
 have hkk:0≤lR s inter∧lR s inter≤4∧(inter=false→3≤lR s inter):=by
  unfold lR
  cases inter
  · rw [if_neg (by decide)];exact⟨by omega,by omega,fun _=>by omega⟩
  · rw [if_pos rfl];exact⟨by omega,by omega,fun h=>by cases h⟩
 unfold fW
 by_cases h4:lR s inter=4
 · rw [if_pos h4]
   by_cases hr:1≤qp+pd (s.step%4)∧qp+pd (s.step%4)≤31
   · rw [if_pos hr]
     exact⟨by show(0:Int)≤4;decide,by show(4:Int)≤4;decide,hr.1,hr.2,fun _=>by show(3:Int)≤4;decide,fun _=>Hx (by omega) hr,fun g=>absurd rfl g⟩
   · rw [if_neg hr]
     exact⟨by show(0:Int)≤3;decide,by show(3:Int)≤4;decide,hq.1,hq.2,fun _=>by show(3:Int)≤3;decide,fun g=>absurd (show(3:Int)=4 from g) (by decide),fun _=>rfl⟩
 · rw [if_neg h4]
   exact⟨hkk.1,hkk.2.1,hq.1,hq.2,hkk.2.2,fun g=>absurd g h4,fun _=>rfl⟩
theorem Gp {s:Sm} {inter:Bool} {qp:Int}(hs:ka s) (hq:1≤qp∧qp≤31):jc (nj s inter qp)∧dQ (nj s inter qp) inter qp=0∧1≤(nj s inter qp).qp∧(nj s inter qp).qp≤31:=by
 obtain⟨k0,k4,q1,q31,hal,hst,hne⟩:=yM s inter qp hs hq
 obtain⟨H,hH⟩:∃ H,fW s inter qp=H:=⟨_,rfl⟩
 have hm:nj s inter qp=⟨H.1,H.2,oZ H.1 s.wy,if xS H.1=true then s.edge else false,if H.1=0 then fun _=>0 else(kp s (xS H.1) 6).2⟩:=by unfold nj;rw [hH]
 rw [hH]at k0 k4 q1 q31 hal hst hne
 rw [hm]
 obtain⟨m,hmm⟩:∃ m:Mb,(⟨H.1,H.2,oZ H.1 s.wy,if xS H.1=true then s.edge else false,if H.1=0 then fun _=>0 else(kp s (xS H.1) 6).2⟩:Mb)=m:=⟨_,rfl⟩
 have mk:m.kind=H.1:=by rw [←hmm]
 have mq:m.qp=H.2:=by rw [←hmm]
 have mv:m.v=oZ H.1 s.wy:=by rw [←hmm]
 have me:m.edge=if xS H.1=true then s.edge else false:=by rw [←hmm]
 have ml:m.lev=if H.1=0 then fun _=>0 else(kp s (xS H.1) 6).2:=by rw [←hmm]
 have ma:alone m=xS H.1:=by unfold alone xS;rw [mk]
 rw [hmm]
 have hlr:∀ i,-500≤m.lev i∧m.lev i≤500:=fun i=>by
  rw [ml]
  split
  · show -500≤(0:Int)∧(0:Int)≤500;omega
  · exact(yN s _ 6).1 i
 have hwt:∀ k,k<4→d7 (sm s.wy k)=true:=EF hs.wy
 have hrz:d7 (0,0)=true:=by decide
 have hvr:∀ k,k<4→d7 (m.v k)=true:=fun k hk=>by
  rw [mv];unfold oZ
  split
  · exact hwt 0 (by decide)
  · split
    · show d7 (if k<4 then sm s.wy k else(0,0))=true
      rw [if_pos hk]
      exact hwt k hk
    · exact hrz
 have hvg:∀ k,k<4→pf m k:=fun k hk=>by
  refine⟨hvr k hk,fun g=>?_,fun g1 g2=>?_⟩
  · rw [mv];unfold oZ
    rw [mk]at g
    rw [if_neg g]
    split
    · rfl
    · rfl
  · rw [mv];unfold oZ
    rw [mk]at g1 g2
    rw [if_neg g1,if_neg g2]
 have hq':1≤m.qp∧m.qp≤31:=by rw [mq];exact⟨q1,q31⟩
 refine⟨⟨by rw [mk];omega,by omega,fun k=>?_,fun i=>by have:=hlr i;omega⟩,?_,hq'.1,hq'.2⟩
 · rw [mv];unfold oZ
   have tw:∀ k,k<4→bu (sm s.wy k):=fun k hk=>by
    have:=hwt k hk
    unfold d7 at this
    have h:=of_decide_eq_true this
    exact⟨by unfold fA;omega,by unfold fA;omega⟩
   split
   · exact tw 0 (by decide)
   · split
     · show bu (if k<4 then sm s.wy k else(0,0))
       split
       · rename_i h;exact tw k h
       · exact HI
     · exact HI
 · unfold dQ
   rw [if_neg (fun g=>by
    rcases g with g|⟨g1,g2⟩
    · rw [mk]at g;omega
    · have:=hal g1
      rw [ma]at g2
      unfold xS at g2
      have:=of_decide_eq_false g2
      omega)]
   rw [if_neg (fun g=>by rw [me,←ma,g.2,if_neg (by decide)]at g;exact absurd g.1 (by decide))]
   rw [if_neg (fun g=>by
    have h4:H.1=4:=mk ▸ g.1
    have:=hst h4
    rw [mq,this]at g
    exact absurd g.2 (by decide))]
   rw [if_neg (fun g=>g.2 (by rw [mq];exact hne (by rw [←mk];exact g.1)))]
   have hv0:gI m=0:=if_pos ⟨hvg 0 (by decide),hvg 1 (by decide),hvg 2 (by decide),hvg 3 (by decide)⟩
   rw [if_neg (fun g=>g hv0)]
   exact if_pos fun i hi=>⟨fun g=>by rw [ml,if_pos (by rw [←mk];exact g)],by have:=hlr i;omega,fun h64 ha=>by
    rw [ma]at ha
    have h0:H.1≠0:=fun e=>by rw [e]at ha;revert ha;decide
    rw [ml,if_neg h0]
    have:=(yN s (xS H.1) 6).2 ha (i/64) (by omega)
    rw [show i/64*64=i by omega]at this
    exact this⟩
end Go.Proofs.YtagpkhindehcbaaGreat
