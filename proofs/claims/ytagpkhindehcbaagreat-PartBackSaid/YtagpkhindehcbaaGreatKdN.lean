/-
  A part of the proof: Escape, EscapeT, PartOpen, OpenLaw, RvlcLaw, VecIO.
-/
import Derived.Test.YtagpkhindehcbaaGreatKdM
set_option maxRecDepth 10000
set_option maxHeartbeats 8000000
set_option linter.unusedVariables false
set_option linter.unusedSectionVars false
set_option linter.unusedSimpArgs false
namespace Go.Proofs.YtagpkhindehcbaaGreat
open Go.Xm
variable [az]
def Gx (st:List Int × Int) (b:Int):List Int × Int:=
 if 2≤st.2∧b≤3 then(st.1++[3]++[b],if b=0 then 0+1 else 0)else(st.1++[b],if b=0 then st.2+1 else 0)
def f3 (l:List Int):Nat→List Int × Int
 | 0=>([],0)
 | j+1=>Gx (f3 l j) (l.getD j 0)
theorem tC (l:List Int):∀ j,(f3 l j).1.length≤2*j∧0≤(f3 l j).2∧(f3 l j).2≤j
 | 0=>⟨Nat.le_refl _,by show(0:Int)≤0;omega,by show(0:Int)≤0;omega⟩
 | j + 1=>by
   obtain⟨h1,h2,h3⟩:=tC l j
   unfold f3 Gx
   split
   · refine⟨by simp;omega,?_⟩
     simp only []
     split <;> omega
   · refine⟨by simp;omega,?_⟩
     simp only []
     split <;> omega
theorem A7 {l:List Int}(hl:dZ l) (hn:l.length≤100000) :
 bn Tryz.prog 30 [fS 0 l.length 1] [b8 5 (il .u8 l)] (fS 1 (f3 l l.length).1.length 1) [b8 5 (il .u8 l),b8 5 (il .u8 (f3 l l.length).1)]:=by
 refine cO Tryz.func30 ?_
 repeat' (first|refine zz ?_|refine zx (fun _=>?_) (fun _=>?_)|fail)
 refine WX.cW rfl ?_
 refine WX.cS (σ:=Nat) (fun j=>[(7,fS 0 l.length 1),(8,.one (.int .i64 (l.length:Nat))),(9,.one (.int .i64 (j:Nat))),(3,fS 1 (f3 l j).1.length 1),(4,.one (.int .i64 (f3 l j).2))]) (fun j=>[b8 5 (il .u8 l),b8 5 (il .u8 (f3 l j).1)]) (fun j=>j≤l.length) (fun j=>l.length-j) 0 (Nat.zero_le _) (fun s _=>j5) (bh [0,1]) ?_
 intro j hj ih
 have hr:=tC l j
 by_cases hlt:j<l.length
 · have hb:=hl j
   have e0:f3 l (j+1)=Gx (f3 l j) (l.getD j 0):=rfl
   unfold Gx at e0
   repeat' (first
    |(refine qz ?_;first
     |refine PX ?_ (hn:=by simp))
    |refine zz ?_|refine zx (fun _=>?_) (fun _=>?_)|fail)
   · rename_i g1 g2 g3
     rw [if_pos ⟨g1,g2⟩,if_pos g3]at e0
     refine ih (j+1) _ _ _ (bh [0,5] (obj:=by(repeat' (first|exact ae.nil|refine ae.flat (by rw [e0];rfl) ?_|refine ae.flat rfl ?_|refine ae.cons rfl ?_|refine ae.dead rfl ?_|refine ae.cons (by simp only [ak.ay,List.map_cons,List.map_nil,XC.ay,aw];exact rfl) ?_));first|done|fail) (reg:=by(repeat' (first|exact af.nil|refine af.dY rfl rfl (by rw [e0];simp) ?_|refine af.flat (by rw [e0];rfl) ?_|refine af.flat rfl ?_|refine af.cons rfl ?_|refine af.sl rfl (by assumption) rfl ?_|refine af.dY rfl rfl (by first|rfl|omega|(simp;done)|(simp;omega)) ?_));first|done|fail)) (by show j+1≤_;omega) (by show _-(j+1)<_-j;omega)
   · rename_i g1 g2 g3
     rw [if_pos ⟨g1,g2⟩,if_neg g3]at e0
     refine ih (j+1) _ _ _ (bh [0,5] (obj:=by(repeat' (first|exact ae.nil|refine ae.flat (by rw [e0];rfl) ?_|refine ae.flat rfl ?_|refine ae.cons rfl ?_|refine ae.dead rfl ?_|refine ae.cons (by simp only [ak.ay,List.map_cons,List.map_nil,XC.ay,aw];exact rfl) ?_));first|done|fail) (reg:=by(repeat' (first|exact af.nil|refine af.dY rfl rfl (by rw [e0];simp) ?_|refine af.flat (by rw [e0];rfl) ?_|refine af.flat rfl ?_|refine af.cons rfl ?_|refine af.sl rfl (by assumption) rfl ?_|refine af.dY rfl rfl (by first|rfl|omega|(simp;done)|(simp;omega)) ?_));first|done|fail)) (by show j+1≤_;omega) (by show _-(j+1)<_-j;omega)
   · rename_i g1 g2
     rw [if_neg (fun h=>g2 h.2),if_neg (by omega)]at e0
     refine ih (j+1) _ _ _ (bh [0,3] (obj:=by(repeat' (first|exact ae.nil|refine ae.flat (by rw [e0];rfl) ?_|refine ae.flat rfl ?_|refine ae.cons rfl ?_|refine ae.dead rfl ?_|refine ae.cons (by simp only [ak.ay,List.map_cons,List.map_nil,XC.ay,aw];exact rfl) ?_));first|done|fail) (reg:=by(repeat' (first|exact af.nil|refine af.dY rfl rfl (by rw [e0];simp) ?_|refine af.flat (by rw [e0];rfl) ?_|refine af.flat rfl ?_|refine af.cons rfl ?_|refine af.sl rfl (by assumption) rfl ?_|refine af.dY rfl rfl (by first|rfl|omega|(simp;done)|(simp;omega)) ?_));first|done|fail)) (by show j+1≤_;omega) (by show _-(j+1)<_-j;omega)
   · rename_i g1 g2
     rw [if_neg (fun h=>g1 h.1),if_pos g2]at e0
     refine ih (j+1) _ _ _ (bh [0,3] (obj:=by(repeat' (first|exact ae.nil|refine ae.flat (by rw [e0];rfl) ?_|refine ae.flat rfl ?_|refine ae.cons rfl ?_|refine ae.dead rfl ?_|refine ae.cons (by simp only [ak.ay,List.map_cons,List.map_nil,XC.ay,aw];exact rfl) ?_));first|done|fail) (reg:=by(repeat' (first|exact af.nil|refine af.dY rfl rfl (by rw [e0];simp) ?_|refine af.flat (by rw [e0];rfl) ?_|refine af.flat rfl ?_|refine af.cons rfl ?_|refine af.sl rfl (by assumption) rfl ?_|refine af.dY rfl rfl (by first|rfl|omega|(simp;done)|(simp;omega)) ?_));first|done|fail)) (by show j+1≤_;omega) (by show _-(j+1)<_-j;omega)
   · rename_i g1 g2
     rw [if_neg (fun h=>g1 h.1),if_neg g2]at e0
     refine ih (j+1) _ _ _ (bh [0,3] (obj:=by(repeat' (first|exact ae.nil|refine ae.flat (by rw [e0];rfl) ?_|refine ae.flat rfl ?_|refine ae.cons rfl ?_|refine ae.dead rfl ?_|refine ae.cons (by simp only [ak.ay,List.map_cons,List.map_nil,XC.ay,aw];exact rfl) ?_));first|done|fail) (reg:=by(repeat' (first|exact af.nil|refine af.dY rfl rfl (by rw [e0];simp) ?_|refine af.flat (by rw [e0];rfl) ?_|refine af.flat rfl ?_|refine af.cons rfl ?_|refine af.sl rfl (by assumption) rfl ?_|refine af.dY rfl rfl (by first|rfl|omega|(simp;done)|(simp;omega)) ?_));first|done|fail)) (by show j+1≤_;omega) (by show _-(j+1)<_-j;omega)
 · obtain rfl:j=l.length:=by omega
   repeat' (first|refine zz ?_|refine zx (fun _=>?_) (fun _=>?_)|fail)
   show aC _ _ _ _ _ _ _ _;refine kV [0,1] ?_
   rw [cY];rfl
end Go.Proofs.YtagpkhindehcbaaGreat
namespace Go.Proofs.YtagpkhindehcbaaGreat
open Go.Xm
variable [az]
def j0 (l:List Int):Nat→List Int→Int→Nat→Option (List Int)
 | 0,out,_,_=>some out
 | k+1,out,z,i=>
   if z=2∧l.getD i 0<3 then none
   else if z=2∧l.getD i 0=3 then(if i+1=l.length∨3<l.getD (i+1) 0 then none else j0 l k out 0 (i+1))
   else j0 l k (out++[l.getD i 0]) (if l.getD i 0=0 then z+1 else 0) (i+1)
theorem yW {l:List Int}(hl:dZ l) (hn:l.length≤100000) (res:Option (List Int)) (hres:j0 l l.length [] 0 0=res) :
 bn Tryz.prog 60 [fS 0 l.length 1] [b8 5 (il .u8 l)] (.tup [.one (gQ 1 (res.getD []).length 1),.one (.int .i64 (if res.isSome then 0 else 15))]) [b8 5 (il .u8 l),b8 5 (il .u8 (res.getD []))]:=by
 refine cO Tryz.func60 ?_
 repeat' (first|refine zz ?_|refine zx (fun _=>?_) (fun _=>?_)|fail)
 refine WX.scope ?_
 refine WX.jump ?_
 repeat' (first|refine zz ?_|refine zx (fun _=>?_) (fun _=>?_)|fail)
 refine WX.label ?_
 show WX _ _ _ _ _ _ _
 refine WX.cW rfl ?_
 refine WX.L9 (σ:=Nat × List Int × Int × Nat) (fun s=>[(0,fS 0 l.length 1),(4,fS 1 s.2.1.length 1),(5,.one (.int .i64 s.2.2.1)),(6,.one (.int .i64 (s.2.2.2:Nat)))]) (fun s=>[b8 5 (il .u8 l),b8 5 (il .u8 s.2.1)]) (fun s=>s.1+s.2.2.2=l.length∧0≤s.2.2.1∧s.2.2.1≤2∧s.2.1.length≤s.2.2.2∧j0 l s.1 s.2.1 s.2.2.1 s.2.2.2=res) (fun s=>s.1) (l.length,[],0,0) ⟨rfl,by show(0:Int)≤0;omega,by show(0:Int)≤2;omega,Nat.le_refl _,hres⟩ (fun s _=>j5) (bh [0,1]) ?_
 intro s ⟨h1,h2,h3,h4,h5⟩ ih
 cases hs:s.1 with
 | zero=>
   rw [hs]at h5 h1
   subst h5
   have hi:s.2.2.2=l.length:=by omega
   repeat' (first|refine zz ?_|refine zx (fun _=>?_) (fun _=>?_)|fail)
   show aC _ _ _ _ _ _ _ _;refine kV [0,1] ?_
   simp only [XV.ay,List.map_cons,List.map_nil,X1.ay,aw];rfl
 | succ k=>
   rw [hs,j0]at h5
   rw [hs]at h1
   have hb:=hl s.2.2.2
   have hb1:=hl (s.2.2.2+1)
   repeat' (first|refine zz ?_|refine zx (fun _=>?_) (fun _=>?_)|fail)
   · rename_i g1 g2
     rw [if_pos ⟨g1,g2⟩]at h5
     subst h5
     show aC _ _ _ _ _ _ _ _;refine kV [0,1] ?_
     rfl
   · rename_i g1 g2 g3 g4
     rw [if_neg (fun h=>g2 h.2),if_pos ⟨g1,g3⟩,if_pos (.inl (by omega))]at h5
     subst h5
     show aC _ _ _ _ _ _ _ _;refine kV [0,1] ?_
     rfl
   · rename_i g1 g2 g3 g4 g5
     rw [if_neg (fun h=>g2 h.2),if_pos ⟨g1,g3⟩,if_pos (.inr g5)]at h5
     subst h5
     show aC _ _ _ _ _ _ _ _;refine kV [0,1] ?_
     rfl
   · rename_i g1 g2 g3 g4 g5
     rw [if_neg (fun h=>g2 h.2),if_pos ⟨g1,g3⟩,if_neg (fun h=>h.elim (by omega) g5)]at h5
     show WX _ _ _ _ _ _ _
     refine WX.goto ?_
     show WX _ _ _ _ _ _ _
     refine WX.jump ?_
     refine WX.seq ?_
     refine WX.skip ?_
     show WX _ _ _ _ _ _ _
     have e3:((s.2.2.2+1:Nat):Int)=(s.2.2.2:Int)+1:=by omega
     refine ih (k,s.2.1,0,s.2.2.2+1) _ _ _ (bh [0,1] (reg:=by(repeat' (first|exact af.nil|refine af.dY rfl rfl (by simp) ?_|refine af.flat (by rw [e3];rfl) ?_|refine af.flat rfl ?_|refine af.cons rfl ?_|refine af.sl rfl (by assumption) rfl ?_|refine af.dY rfl rfl (by first|rfl|omega|(simp;done)|(simp;omega)) ?_));first|done|fail)) ⟨by show k+(s.2.2.2+1)=_;omega,by show(0:Int)≤0;omega,by show(0:Int)≤2;omega,by show s.2.1.length≤s.2.2.2+1;omega,h5⟩ (by show k<s.1;omega)
   · rename_i g1 g2 g3
     rw [if_neg (fun h=>g2 h.2),if_neg (fun h=>g3 h.2),if_neg (by omega)]at h5
     show WX _ _ _ _ _ _ _
     refine WX.goto ?_
     show WX _ _ _ _ _ _ _
     refine WX.jump ?_
     refine WX.seq ?_
     refine WX.skip ?_
     show WX _ _ _ _ _ _ _
     have e3:((s.2.2.2+1:Nat):Int)=(s.2.2.2:Int)+1:=by omega
     refine ih (k,s.2.1++[l.getD s.2.2.2 0],0,s.2.2.2+1) _ _ _ (bh [0,3] (reg:=by(repeat' (first|exact af.nil|refine af.dY rfl rfl (by simp) ?_|refine af.flat (by rw [e3];rfl) ?_|refine af.flat rfl ?_|refine af.cons rfl ?_|refine af.sl rfl (by assumption) rfl ?_|refine af.dY rfl rfl (by first|rfl|omega|(simp;done)|(simp;omega)) ?_));first|done|fail)) ⟨by show k+(s.2.2.2+1)=_;omega,by show 0≤(0:Int);omega,by show(0:Int)≤2;omega,by show(s.2.1++[_]).length≤s.2.2.2+1;simp;omega,h5⟩ (by show k<s.1;omega)
   · rename_i g1 g2
     rw [if_neg (fun h=>g1 h.1),if_neg (fun h=>g1 h.1),if_pos g2]at h5
     show WX _ _ _ _ _ _ _
     refine WX.goto ?_
     show WX _ _ _ _ _ _ _
     refine WX.jump ?_
     refine WX.seq ?_
     refine WX.skip ?_
     show WX _ _ _ _ _ _ _
     have e3:((s.2.2.2+1:Nat):Int)=(s.2.2.2:Int)+1:=by omega
     refine ih (k,s.2.1++[l.getD s.2.2.2 0],s.2.2.1+1,s.2.2.2+1) _ _ _ (bh [0,3] (reg:=by(repeat' (first|exact af.nil|refine af.dY rfl rfl (by simp) ?_|refine af.flat (by rw [e3];rfl) ?_|refine af.flat rfl ?_|refine af.cons rfl ?_|refine af.sl rfl (by assumption) rfl ?_|refine af.dY rfl rfl (by first|rfl|omega|(simp;done)|(simp;omega)) ?_));first|done|fail)) ⟨by show k+(s.2.2.2+1)=_;omega,by show 0≤s.2.2.1+1;omega,by show s.2.2.1+1≤2;omega,by show(s.2.1++[_]).length≤s.2.2.2+1;simp;omega,h5⟩ (by show k<s.1;omega)
   · rename_i g1 g2
     rw [if_neg (fun h=>g1 h.1),if_neg (fun h=>g1 h.1),if_neg g2]at h5
     show WX _ _ _ _ _ _ _
     refine WX.goto ?_
     show WX _ _ _ _ _ _ _
     refine WX.jump ?_
     refine WX.seq ?_
     refine WX.skip ?_
     show WX _ _ _ _ _ _ _
     have e3:((s.2.2.2+1:Nat):Int)=(s.2.2.2:Int)+1:=by omega
     refine ih (k,s.2.1++[l.getD s.2.2.2 0],0,s.2.2.2+1) _ _ _ (bh [0,3] (reg:=by(repeat' (first|exact af.nil|refine af.dY rfl rfl (by simp) ?_|refine af.flat (by rw [e3];rfl) ?_|refine af.flat rfl ?_|refine af.cons rfl ?_|refine af.sl rfl (by assumption) rfl ?_|refine af.dY rfl rfl (by first|rfl|omega|(simp;done)|(simp;omega)) ?_));first|done|fail)) ⟨by show k+(s.2.2.2+1)=_;omega,by show 0≤(0:Int);omega,by show(0:Int)≤2;omega,by show(s.2.1++[_]).length≤s.2.2.2+1;simp;omega,h5⟩ (by show k<s.1;omega)
end Go.Proofs.YtagpkhindehcbaaGreat
namespace Go.Proofs.YtagpkhindehcbaaGreat
open Go.Xm
variable [az]
theorem HX (e e' e2:TypeId) (cs ds fs:List XC):dP [b8 e cs] [b8 e' ds,b8 e2 fs]=true:=by
 cases cs <;> cases ds <;> cases fs <;> simp [dP,ak.live,ak.own,b8]
theorem D2 {l:List Int}(hl:dZ l) (hn:l.length≤100000) {n:Nat}(hln:l.length=n) {HS:aj} {i:Nat}(hi:HS[i]? = some (b8 5 (il .u8 l))) {N:Nat}(hN:HS.length=N) {HS':aj}(hh:HS++[b8 5 (il .u8 (f3 l l.length).1)]=HS') (hb:Nat.blt HS'.length Mem.bound=true) :
 aH.Sound Tryz.prog ⟨30,[fS i n 1],HS,fS N (f3 l l.length).1.length 1,HS',[i]⟩:=by
 subst hln hN
 exact bV [i] [i] 1 (A7 hl hn) (by simp) (.flat hi .nil) (.flat .nil) (.flat (.flat .nil)) rfl (.cons (ff (Nat.le_of_ble_eq_true rfl)) .nil) (.cons (cY ..) .nil) (ff (Nat.le_of_ble_eq_true rfl)) (cY ..) (.flat (.flat .nil)) (HX ..) rfl (by simp only [bG];rw [aG hi];exact hh) hb (.inl rfl)
theorem A8 {l:List Int}(hl:dZ l) (hn:l.length≤100000) {res:Option (List Int)}(hres:j0 l l.length [] 0 0=res) {c:Int}(hc:(if res.isSome then 0 else 15)=c) {n:Nat}(hln:l.length=n) {HS:aj} {i:Nat}(hi:HS[i]? = some (b8 5 (il .u8 l))) {N:Nat}(hN:HS.length=N) {HS':aj}(hh:HS++[b8 5 (il .u8 (res.getD []))]=HS') (hb:Nat.blt HS'.length Mem.bound=true) :
 aH.Sound Tryz.prog ⟨60,[fS i n 1],HS,.tup [.one (gQ N (res.getD []).length 1),.one (.int .i64 c)],HS',[i]⟩:=by
 subst hln hN hc
 exact bV [i] [i] 1 (yW hl hn res hres) (by simp) (.flat hi .nil) (.flat .nil) (.flat (.flat .nil)) rfl (.cons (ff (Nat.le_of_ble_eq_true rfl)) .nil) (.cons (cY ..) .nil) (Et (bc (Nat.le_of_ble_eq_true rfl)) trivial) (by simp only [XV.ay,List.map_cons,List.map_nil,X1.ay,aw];rfl) (.flat (.flat .nil)) (HX ..) rfl (by simp only [bG];rw [aG hi];exact hh) hb (.inl rfl)
theorem rE {l:List Int}(hl:dZ l):∀(k:Nat) (out:List Int) (z:Int) (i:Nat) (q:List Int),dZ out→j0 l k out z i=some q→dZ q
 | 0,out,z,i,q,ho,h=>by
   simp only [j0,Option.some.injEq]at h
   subst h;exact ho
 | k + 1,out,z,i,q,ho,h=>by
   unfold j0 at h
   split at h
   · cases h
   · split at h
     · split at h
       · cases h
       · exact rE hl k _ _ _ q ho h
     · refine rE hl k _ _ _ q ?_ h
       intro p
       rw [List.getD_eq_getElem?_getD]
       by_cases hp:p<out.length
       · rw [List.getElem?_append_left hp,←List.getD_eq_getElem?_getD];exact ho p
       · rw [List.getElem?_append_right (by omega)]
         cases hq:p-out.length with
         | zero=>simpa using hl i
         | succ m=>simp
theorem tF {l:List Int}:∀(k:Nat) (out:List Int) (z:Int) (i:Nat) (q:List Int),j0 l k out z i=some q→q.length≤out.length+k
 | 0,out,z,i,q,h=>by
   simp only [j0,Option.some.injEq]at h
   subst h;omega
 | k + 1,out,z,i,q,h=>by
   unfold j0 at h
   split at h
   · cases h
   · split at h
     · split at h
       · cases h
       · have:=tF k _ _ _ q h;omega
     · have:=tF k _ _ _ q h
       simp at this;omega
theorem H8 {L:List Int}(hL:dZ L) (hn:L.length≤100000) {z:Nat} {b:Bool}(hs:ef L=(z,b)) {n:Nat}(hln:L.length=n) {HS:aj} {i:Nat}(hi:HS[i]? = some (b8 5 (il .u8 L))) (hb:Nat.blt HS.length Mem.bound=true) :
 aH.Sound Tryz.prog ⟨61,[fS i n 1],HS,.tup [.one (.int .i64 (z:Nat)),.one (.bool b)],HS,[i]⟩:=by
 have:=KO hL hn hln hi hb
 rw [hs]at this
 exact this
theorem Kr {l:List Int}(hl:dZ l) (hn:l.length≤30000) {q:List Int}(h2:j0 l l.length [] 0 0=some q) {B:List Bool}(h3:ef q=(B.length,true)) (hB:B.length≤8*q.length) :
 bn Tryz.prog 32 [fS 0 l.length 1] [b8 5 (il .u8 l)] (.tup [.one (.ptr 1 0),.one (.int .i64 0)]) [b8 5 (il .u8 l),br 2 q B 0 false,aM q]:=by
 refine cO Tryz.func32 ?_
 have hq:=rE hl _ _ _ _ q (fun p=>by simp) h2
 have hq2:=tF _ _ _ _ q h2
 simp only [List.length_nil,Nat.zero_add]at hq2
 repeat' (first
  |(refine qz ?_;first
   |refine cl ?_ (hi:=by exact A8 hl (by omega) h2 (c:=0) rfl rfl rfl nL nA rfl)
   |refine cl ?_ (hi:=by exact H8 (L:=q) hq (by omega) h3 rfl rfl rfl)
   |refine cl ?_ (hi:=by exact KD (L:=q) (B:=B) hB (by omega) rfl rfl rfl nL nA rfl))
  |refine zz ?_|refine zx (fun _=>?_) (fun _=>?_)|fail)
 show aC _ _ _ _ _ _ _ _;refine kV [0,2,3] ?_
 rfl
end Go.Proofs.YtagpkhindehcbaaGreat
namespace Go.Proofs.YtagpkhindehcbaaGreat
open Go.Xm
variable [az]
theorem Nw:∀(x:Fin 256) (r:Fin 8),(x.val:Int)/2^(7-r.val)%2=1→(∀ j:Fin 8,r<j→¬(x.val:Int)/2^(7-j.val)%2=1)→tz 8 (x.val:Int)=7-r.val∧x.val≠0:=by
 decide +kernel
theorem C9 (bs:List Bool):ef (wr (bs++[true]))=(bs.length,true):=by
 have hlen:=eO (bs++[true])
 simp only [List.length_append,List.length_cons,List.length_nil]at hlen
 have hi:(wr (bs++[true])).length-1=bs.length/8:=by omega
 have hb:=gF (bs++[true]) (bs.length/8)
 obtain⟨x,hx⟩:∃ x:Fin 256,(wr (bs++[true])).getD (bs.length/8) 0=(x.val:Int):=⟨⟨((wr (bs++[true])).getD (bs.length/8) 0).toNat,by omega⟩,by simp only [];omega⟩
 have bit:∀ j:Fin 8,decide ((x.val:Int)/2^(7-j.val)%2=1)=(bs++[true]).getD (8*(bs.length/8)+j.val) false:=by
  intro j
  have:=I7 (bs++[true]) (8*(bs.length/8)+j.val)
  unfold kQ at this
  rw [show(8*(bs.length/8)+j.val)/8=bs.length/8 by omega,show(8*(bs.length/8)+j.val)%8=j.val by omega,hx]at this
  exact this
 have h1:=Nw x ⟨bs.length%8,Nat.mod_lt _ (by omega)⟩ (by
  have:=bit ⟨bs.length%8,Nat.mod_lt _ (by omega)⟩
  simp only at this
  rw [show 8*(bs.length/8)+bs.length%8=bs.length by omega]at this
  simpa using this) (fun j hj=>by
  have:=bit j
  have hj':bs.length%8<j.val:=hj
  rw [List.getD_eq_getElem?_getD,List.getElem?_eq_none (by simp;omega)]at this
  simpa using this)
 unfold ef
 rw [hi,hx,if_neg (by have:=h1.2;omega),h1.1]
 simp only [Prod.mk.injEq,and_true]
 rw [hlen]
 omega
theorem Cv (bs:List Bool) (hb:bs.length≤1000000):cK (wr (bs++[true])) bs:=by
 have hlen:=eO (bs++[true])
 simp only [List.length_append,List.length_cons,List.length_nil]at hlen
 refine⟨by omega,gF _,fun j hj=>?_,by omega⟩
 rw [I7,List.getD_eq_getElem?_getD,List.getElem?_append_left hj,←List.getD_eq_getElem?_getD]
def mN:Int→List Int→List Int
 | _,[]=>[]
 | z,b::t=>if 2≤z∧b≤3 then 3::b::mN (if b=0 then 0+1 else 0) t else b::mN (if b=0 then z+1 else 0) t
theorem Gy (l:List Int):∀ j,j≤l.length→(f3 l j).1++mN (f3 l j).2 (l.drop j)=mN 0 l
 | 0,_=>rfl
 | j + 1,h=>by
   rw [←Gy l j (by omega)]
   have hd:l.drop j=l.getD j 0::l.drop (j+1):=by
    rw [List.drop_eq_getElem_cons (by omega),List.getD_eq_getElem?_getD,List.getElem?_eq_getElem (by omega)];rfl
   rw [hd,f3,Gx]
   conv=>rhs;rw [mN]
   split
   · simp
   · simp
theorem qo (l:List Int):(f3 l l.length).1=mN 0 l:=by
 have:=Gy l l.length (Nat.le_refl _)
 rw [List.drop_length]at this
 simpa [mN]using this
theorem A6 (e:List Int):∀(l:List Int) (k:Nat) (out:List Int) (z:Int) (i:Nat),(∀ b∈l,0≤b)→0≤z→z≤2→e.drop i=mN z l→k=(mN z l).length→j0 e k out z i=some (out++l)
 | [],k,out,z,i,hb,h0,h2,hd,hk=>by
   simp [mN]at hk
   subst hk
   simp [j0]
 | b :: t,k,out,z,i,hb,h0,h2,hd,hk=>by
   have hb0:=hb b (List.mem_cons_self ..)
   have hbt:∀ b∈t,0≤b:=fun x hx=>hb x (List.mem_cons_of_mem _ hx)
   have get:∀(i:Nat) (x:Int) (q:List Int),e.drop i=x::q→e.getD i 0=x∧e.drop (i+1)=q∧i<e.length:=fun i x q h=>by
    have hlt:i<e.length:=by
     refine Classical.byContradiction fun hn=>?_
     rw [List.drop_of_length_le (by omega)]at h
     cases h
    rw [List.drop_eq_getElem_cons hlt]at h
    simp only [List.cons.injEq]at h
    refine⟨?_,h.2,hlt⟩
    rw [List.getD_eq_getElem?_getD,List.getElem?_eq_getElem hlt]
    exact h.1
   unfold mN at hd hk
   by_cases hc:2≤z∧b≤3
   · rw [if_pos hc]at hd hk
     obtain⟨g1,g2,g3⟩:=get _ _ _ hd
     obtain⟨g4,g5,g6⟩:=get _ _ _ g2
     obtain rfl:z=2:=by omega
     simp only [List.length_cons]at hk
     obtain⟨k,rfl⟩:∃ k',k=k'+2:=⟨k-2,by omega⟩
     rw [j0,g1,if_neg (by omega),if_pos ⟨rfl,rfl⟩,if_neg (by rw [g4];omega),j0,g4,if_neg (by omega),if_neg (by omega)]
     rw [A6 e t k _ _ _ hbt (by split <;> omega) (by split <;> omega) g5 (by omega)]
     simp
   · rw [if_neg hc]at hd hk
     obtain⟨g1,g2,g3⟩:=get _ _ _ hd
     simp only [List.length_cons]at hk
     obtain⟨k,rfl⟩:∃ k',k=k'+1:=⟨k-1,by omega⟩
     rw [j0,g1,if_neg (by omega),if_neg (by omega)]
     rw [A6 e t k _ _ _ hbt (by split <;> omega) (by split <;> omega) g2 (by omega)]
     simp
theorem tG {l:List Int}(hl:dZ l):j0 (f3 l l.length).1 (f3 l l.length).1.length [] 0 0=some l:=by
 rw [qo]
 have:=A6 (mN 0 l) l (mN 0 l).length [] 0 0 (fun b hb=>by
  obtain⟨j,hj,rfl⟩:=List.mem_iff_getElem.1 hb
  have:=(hl j).1
  rw [List.getD_eq_getElem?_getD,List.getElem?_eq_getElem hj]at this
  exact this) (by omega) (by omega) rfl rfl
 simpa using this
end Go.Proofs.YtagpkhindehcbaaGreat
namespace Go.Proofs.YtagpkhindehcbaaGreat
open Go.Xm
variable [az]
theorem p5 (pre:List Bool) (b:Bool) (t:List Bool):dH (pre++b::t) (pre.length,false)=b∧bY (pre++b::t) (pre.length,false)=(pre.length+1,false):=by
 constructor
 · unfold dH
   rw [List.getD_eq_getElem?_getD,List.getElem?_append_right (Nat.le_refl _)]
   simp
 · unfold bY
   rw [if_neg (by simp),if_pos (by simp)]
theorem Ma (x:Int) (h:x=0∨x=1):b2 (decide (x=1))=x:=by
 rcases h with rfl|rfl <;> rfl
theorem wk (n:Int) (hn:1≤n∧n≤8191):∀(k fuel:Nat) (x:Int) (pre rest:List Bool),0<k→k≤fuel→x=n/2^k →
 ny (pre++(l5 n k++rest)) fuel x (pre.length,false)=(n-1,(pre.length+2*k,false))
 | 0,fuel,x,pre,rest,h0,hf,hx=>absurd h0 (Nat.lt_irrefl _)
 | k+1,0,x,pre,rest,h0,hf,hx=>absurd hf (by omega)
 | k + 1,fuel+1,x,pre,rest,h0,hf,hx=>by
   have hpos:(0:Int)<2^k:=Int.pow_pos (by decide)
   have hx':2*x+n/2^k%2=n/2^k:=by
    rw [hx,Int.pow_succ,←Int.ediv_ediv_of_nonneg (Int.le_of_lt hpos)]
    omega
   have hle:n/2^k≤n:=Int.ediv_le_self _ (by omega)
   obtain⟨a1,a2⟩:=p5 pre (decide (n/2^k%2=1)) (decide (0<k)::(l5 n k++rest))
   obtain⟨c1,c2⟩:=p5 (pre++[decide (n/2^k%2=1)]) (decide (0<k)) (l5 n k++rest)
   rw [List.append_assoc,List.length_append]at c1 c2
   simp only [List.cons_append,List.nil_append,List.length_cons,List.length_nil,Nat.zero_add]at c1 c2
   have hb:b2 (decide (n/2^k%2=1))=n/2^k%2:=Ma _ (by omega)
   simp only [l5,List.cons_append]
   rw [ny,a1,a2,c1,c2,hb,hx',if_neg (by simp;omega)]
   by_cases hk:0<k
   · rw [if_pos (by simpa using hk)]
     have:=wk n hn k fuel (n/2^k) (pre++[decide (n/2^k%2=1),decide (0<k)]) rest hk (by omega) rfl
     rw [List.append_assoc,List.length_append]at this
     simp only [List.cons_append,List.nil_append,List.length_cons,List.length_nil]at this
     rw [this]
     simp only [Prod.mk.injEq,and_true,true_and]
     omega
   · rw [if_neg (by simpa using hk)]
     obtain rfl:k=0:=by omega
     simp
theorem Lc (m:Nat) (h:2≤m):(1:Int)=(m:Int)/2^(bitLen m-1):=by
 have hlog:bitLen m=Nat.log2 m+1:=by unfold bitLen;rw [if_neg (by omega)]
 rw [hlog,Nat.add_sub_cancel]
 have e1:=Nat.log2_self_le (n:=m) (by omega)
 have e2:=Nat.lt_log2_self (n:=m)
 rw [Nat.pow_succ]at e2
 have e3:m/2^Nat.log2 m=1:=by
  apply Nat.div_eq_of_lt_le <;> omega
 have e5:((m/2^Nat.log2 m:Nat):Int)=(m:Int)/2^Nat.log2 m:=by
  rw [Int.natCast_ediv,Int.natCast_pow];rfl
 rw [←e5,e3];rfl
theorem oX (v:Int) (hv:0≤v∧v≤8190) (pre rest:List Bool):bT (pre++(bN v++rest)) (pre.length,false)=(v,(pre.length+(bN v).length,false)):=by
 unfold bT bN
 by_cases h0:v=0
 · subst h0
   obtain⟨a1,a2⟩:=p5 pre true rest
   simp only [if_true,List.cons_append,List.nil_append]
   rw [a1,a2]
   simp
 · rw [if_neg h0]
   obtain⟨a1,a2⟩:=p5 pre false (l5 (v+1) (bitLen (v+1).toNat-1)++rest)
   simp only [List.cons_append]
   rw [a1,a2,if_neg (by decide)]
   have hl1:bitLen (v+1).toNat≤13:=lN (by show _<8192;omega)
   have h2:2≤(v+1).toNat:=by omega
   have hlog:bitLen (v+1).toNat=Nat.log2 (v+1).toNat+1:=by unfold bitLen;rw [if_neg (by omega)]
   have hlp:0<Nat.log2 (v+1).toNat:=by
    have:=(Nat.le_log2 (n:=(v+1).toNat) (k:=1) (by omega)).2 (by omega)
    omega
   have hx:=Lc (v+1).toNat h2
   rw [show((v+1).toNat:Int)=v+1 by omega]at hx
   have:=wk (v+1) (by omega) (bitLen (v+1).toNat-1) 13 1 (pre++[false]) rest (by omega) (by omega) hx
   rw [List.append_assoc,List.length_append]at this
   simp only [List.cons_append,List.nil_append,List.length_cons,List.length_nil]at this
   rw [this]
   simp only [List.length_cons,oW,Prod.mk.injEq,and_true]
   omega
end Go.Proofs.YtagpkhindehcbaaGreat
namespace Go.Proofs.YtagpkhindehcbaaGreat
open Go.Xm
variable [az]
theorem eF {f f':FuncId} {a a':List XV} {HS HS' K K':aj} {v v':XV} {w w':List Nat}(h:Nat.beq HS.length HS'.length=false):Compat ⟨f,a,HS,v,K,w⟩ ⟨f',a',HS',v',K',w'⟩:=fun _ _ e=>by
 have e':HS.length=HS'.length:=congrArg List.length e
 rw [e']at h
 simp at h
theorem EK {p:Int × Int}(h:bu p) (hr:d9 p=true) {HS:aj}(hb:Nat.blt HS.length Mem.bound=true):aH.Sound Tryz.prog ⟨79,[.one (cq p)],HS,.one (.bool true),HS,[]⟩:=by
 have:=eC h hb
 rw [hr]at this
 exact this
theorem gk {x:Int}(h : -32≤x∧x≤32):0≤aY x∧aY x≤64:=by unfold aY;split <;> omega
def cJ (v e:Int × Int):List Bool:=bN (aY (cu (v.1-e.1)))++bN (aY (cu (v.2-e.2)))
theorem jm (v:Int) (h:0≤v∧v≤8190):(bN v).length≤27:=by
 unfold bN
 split
 · decide
 · simp only [List.length_cons,oW]
   have:=lN (n:=(v+1).toNat) (k:=13) (by omega)
   omega
theorem I1 (bs:List Bool) (v e:Int × Int) (hv:bu v) (he:bu e) (hr:d9 v=true) (hb:bs.length≤800000) :
 bn Tryz.prog 54 [.one (.ptr 0 0),.one (cq v),.one (cq e)] (WH bs) (.one (.bool true)) (LA (bs++cJ v e)):=by
 have hx:=gv (v.1-e.1)
 have hy:=gv (v.2-e.2)
 have a1:=hv.1.1
 have a2:=hv.1.2
 have a3:=hv.2.1
 have a4:=hv.2.2
 have b1:=he.1.1
 have b2:=he.1.2
 have b3:=he.2.1
 have b4:=he.2.2
 have hl:=jm (aY (cu (v.1-e.1))) (by have:=gk ⟨hx.1,by omega⟩;omega)
 have e0:bs++cJ v e=(bs++bN (aY (cu (v.1-e.1))))++bN (aY (cu (v.2-e.2))):=by rw [cJ,List.append_assoc]
 rw [e0]
 refine cO Tryz.func54 ?_
 repeat' (first
  |(refine qz ?_;first
   |refine cl ?_ (hi:=by exact EK hv hr rfl)
   |refine cl ?_ (hi:=by exact iX hv rfl)
   |refine cl ?_ (hi:=by exact iX he rfl)
   |refine cl ?_ (hi:=by exact Dw (by omega) rfl)
   |refine cl ?_ (hi:=by exact rU (by omega) rfl)
   |refine cl ?_ (hi:=by exact jn (v:=aY (cu (v.1-e.1))) (bs:=bs) (by have:=gk ⟨hx.1,by omega⟩;omega) (by omega) rfl rfl (by decide) nL nA rfl)
   |refine cl ?_ (hi:=by exact jn (v:=aY (cu (v.2-e.2))) (bs:=bs++bN (aY (cu (v.1-e.1)))) (by have:=gk ⟨hy.1,by omega⟩;omega) (by rw [List.length_append];omega) rfl rfl (by decide) nL nA rfl))
  |refine zz ?_|refine zx (fun _=>?_) (fun _=>?_)|refine bq (by first|exact ag.nil|exact ag.one _|exact ag.lI (by repeat' (first|exact True.intro|refine And.intro ?_ ?_|exact Compat.ne rfl|exact eF rfl))) ⟨by kernel_rfl,?_⟩|refine bq (by first|exact ag.nil|exact ag.one _|exact ag.lI (by repeat' (first|exact True.intro|refine And.intro ?_ ?_|exact Compat.ne rfl|exact eF rfl))) ?_|fail)
 show aC _ _ _ _ _ _ _ _;refine kV [0,1,3] ?_
 rfl
theorem jv {bs:List Bool} {v e:Int × Int}(hv:bu v) (he:bu e) (hr:d9 v=true) (hb:bs.length≤800000) {HS:aj} {i k:Nat}(hi:HS[i]? = some (aP k bs)) (hk:HS[k]? = some (aq bs)) (hd:i≠k) {N:Nat}(hN:HS.length=N) {HS':aj}(hh:bG HS [i,k] [aP N (bs++cJ v e),.dead,aq (bs++cJ v e)]=HS') (hbd:Nat.blt HS'.length Mem.bound=true) :
 aH.Sound Tryz.prog ⟨54,[.one (.ptr i 0),.one (cq v),.one (cq e)],HS,.one (.bool true),HS',[i,k]⟩:=
 Li (fun τ => .flat (.flat .nil)) (.flat (.flat .nil)) (I1 bs v e hv he hr hb) hi hk hd hN hh hbd
theorem wm (B:List Bool):∀(k:Nat) (x:Int) (r:Nat × Bool),1≤x→0≤(ny B k x r).1∧(ny B k x r).1≤8190
 | 0,x,r,h=>by simp [ny]
 | k + 1,x,r,h=>by
   have hb:=yG (dH B r)
   unfold ny
   split
   · simp
   · rename_i h1
     split
     · exact wm B k _ _ (by omega)
     · simp only []
       have:¬(8190<2*x+b2 (dH B r)-1):=fun g=>h1 (.inr g)
       omega
theorem m8 (B:List Bool) (r:Nat × Bool):0≤(bT B r).1∧(bT B r).1≤8190:=by
 unfold bT
 split
 · simp
 · exact wm B 13 1 _ (by decide)
theorem pC {n:Int}(h:0≤n∧n≤8190) : -4100≤cm n∧cm n≤4100:=by unfold cm;split <;> omega
theorem nq {a b:Int} {HS HS':aj}:Compat ⟨94,[.one (.int .i64 a)],HS,.one (.int .i64 (cm a)),HS,[]⟩ ⟨94,[.one (.int .i64 b)],HS',.one (.int .i64 (cm b)),HS',[]⟩:=fun _ h h2=>by
 simp only [List.cons.injEq,XV.one.injEq,XC.int.injEq,true_and,and_true]at h
 subst h
 have h2':HS=HS':=h2
 subst h2'
 exact⟨rfl,rfl,rfl⟩
theorem sf {a b:Int} {HS:aj}:Compat ⟨84,[.one (.int .i64 a)],HS,.one (.int .i64 (cu a)),HS,[]⟩ ⟨84,[.one (.int .i64 b)],HS,.one (.int .i64 (cu b)),HS,[]⟩:=fun _ h _=>by
 simp only [List.cons.injEq,XV.one.injEq,XC.int.injEq,true_and,and_true]at h
 subst h
 exact⟨rfl,rfl,rfl⟩
theorem vH {f:FuncId} {a:List XV} {L:List Int} {B:List Bool}(g:Nat × Bool→XV × (Nat × Bool)) {r r':Nat × Bool} {i k:Nat} {HS HS' K K':aj}(hi:HS[i]? = some (br k L B r.1 r.2)) (hi':HS'[i]? = some (br k L B r'.1 r'.2)) (hK:HS.set i (br k L B (g r).2.1 (g r).2.2)=K) (hK':HS'.set i (br k L B (g r').2.1 (g r').2.2)=K'):Compat ⟨f,a,HS,(g r).1,K,[i]⟩ ⟨f,a,HS',(g r').1,K',[i]⟩:=fun _ _ h=>by
 have h':HS=HS':=h
 subst h'
 rw [hi]at hi'
 simp only [Option.some.injEq,ak.cells.injEq,List.cons.injEq,XC.int.injEq,XC.bool.injEq,true_and,and_true,Int.ofNat_inj]at hi'
 have:r=r':=Prod.ext hi'.1 hi'.2
 subst this
 exact⟨rfl,hK.symm.trans hK',rfl⟩
def xY (B:List Bool) (r:Nat × Bool):Int:=cm (bT B r).1
def xZ (B:List Bool) (r:Nat × Bool):Int:=cm (bT B (bT B r).2).1
def Fw (B:List Bool) (e:Int × Int) (r:Nat × Bool):Int × Int:=(cu (e.1+xY B r),cu (e.2+xZ B r))
def xX (B:List Bool) (r:Nat × Bool):Nat × Bool:=(bT B (bT B r).2).2
def jT (B:List Bool) (e:Int × Int) (r:Nat × Bool):Prop:=(xX B r).2=true∨xY B r < -32∨31<xY B r∨xZ B r < -32∨31<xZ B r∨d9 (Fw B e r)=false
instance (B:List Bool) (e:Int × Int) (r:Nat × Bool):Decidable (jT B e r):=by unfold jT;infer_instance
def pE (B:List Bool) (e:Int × Int) (r:Nat × Bool):(Int × Int) × (Nat × Bool):=if jT B e r then((0,0),((xX B r).1,true))else(Fw B e r,xX B r)
theorem wL (B:List Bool) (e:Int × Int) (r:Nat × Bool):bu (Fw B e r):=by
 have h1:=gv (e.1+xY B r)
 have h2:=gv (e.2+xZ B r)
 exact⟨⟨h1.1,by show cu _≤32;omega⟩,⟨h2.1,by show cu _≤32;omega⟩⟩
theorem Fv {L:List Int} {B:List Bool}(h:cK L B) (r:Nat × Bool) (e:Int × Int) (he:bu e) :
 bn Tryz.prog 67 [.one (.ptr 0 0),.one (cq e)] (RH L B r.1 r.2) (.one (cq (pE B e r).1)) (RH L B (pE B e r).2.1 (pE B e r).2.2):=by
 have b1:=he.1.1
 have b2:=he.1.2
 have b3:=he.2.1
 have b4:=he.2.2
 have r1:=m8 B r
 have r2:=m8 B (bT B r).2
 have u1 : -4100≤xY B r∧xY B r≤4100:=pC r1
 have u2 : -4100≤xZ B r∧xZ B r≤4100:=pC r2
 have hV:=wL B e r
 unfold pE
 refine cO Tryz.func67 ?_
 repeat' (first
  |(refine qz ?_;first
   |refine cl ?_ (hi:=by exact oo h r rfl rfl (by decide) nL rfl)
   |refine cl (v := .one (.int .i64 (xY B r))) ?_ (hi:=by exact ll (n:=(bT B r).1) (by omega) rfl)
   |refine cl ?_ (hi:=by exact oo h (bT B r).2 rfl rfl (by decide) nL rfl)
   |refine cl (v := .one (.int .i64 (xZ B r))) ?_ (hi:=by exact ll (n:=(bT B (bT B r).2).1) (by omega) rfl)
   |refine cl ?_ (hi:=by exact iX he rfl)
   |refine cl ?_ (hi:=by exact Dw (by omega) rfl)
   |refine cl (v := .one (cq (Fw B e r))) ?_ (hi:=by exact vZ rfl)
   |refine tn (fun ge=>?_) (fun ge=>?_) (hi:=by exact gB (p:=(xX B r).1) (e:=(xX B r).2) rfl rfl (by decide) rfl)
   |refine tn (fun gr=>?_) (fun gr=>?_) (hi:=by exact eC hV rfl)
   |refine cl ?_ (hi:=by exact gj (p:=(xX B r).1) (e:=(xX B r).2) rfl rfl (by decide) nL rfl))
  |refine zz ?_|refine zx (fun _=>?_) (fun _=>?_)|refine bq (by first|exact ag.nil|exact ag.one _|exact ag.lI (by repeat' (first|exact True.intro|refine And.intro ?_ ?_|exact Compat.ne rfl|exact nq|exact sf|exact vH (fun r=>(.one (.int .i64 (bT B r).1),(bT B r).2)) (r:=(bT B r).2) (r':=r) rfl rfl rfl rfl))) ⟨by kernel_rfl,?_⟩|refine bq (by first|exact ag.nil|exact ag.one _|exact ag.lI (by repeat' (first|exact True.intro|refine And.intro ?_ ?_|exact Compat.ne rfl|exact nq|exact sf|exact vH (fun r=>(.one (.int .i64 (bT B r).1),(bT B r).2)) (r:=(bT B r).2) (r':=r) rfl rfl rfl rfl))) ?_|fail)
 · rw [if_pos (show jT B e r from .inl ge)]
   show aC _ _ _ _ _ _ _ _;refine kV [0,1] ?_
   exact congrArg XV.one dM.symm
 · rename_i g1
   rw [if_pos (show jT B e r from .inr (.inl g1))]
   show aC _ _ _ _ _ _ _ _;refine kV [0,1] ?_
   exact congrArg XV.one dM.symm
 · rename_i g1
   rw [if_pos (show jT B e r from .inr (.inr (.inl g1)))]
   show aC _ _ _ _ _ _ _ _;refine kV [0,1] ?_
   exact congrArg XV.one dM.symm
 · rename_i g1
   rw [if_pos (show jT B e r from .inr (.inr (.inr (.inl g1))))]
   show aC _ _ _ _ _ _ _ _;refine kV [0,1] ?_
   exact congrArg XV.one dM.symm
 · rename_i g1
   rw [if_pos (show jT B e r from .inr (.inr (.inr (.inr (.inl g1)))))]
   show aC _ _ _ _ _ _ _ _;refine kV [0,1] ?_
   exact congrArg XV.one dM.symm
 · have hn:¬jT B e r:=by
    rintro (g|g|g|g|g|g)
    · rw [ge]at g;cases g
    · omega
    · omega
    · omega
    · omega
    · rw [gr]at g;cases g
   rw [if_neg hn]
   show aC _ _ _ _ _ _ _ _;refine kV [0,1] ?_
   rfl
 · rw [if_pos (show jT B e r from .inr (.inr (.inr (.inr (.inr gr)))))]
   show aC _ _ _ _ _ _ _ _;refine kV [0,1] ?_
   exact congrArg XV.one dM.symm
theorem mf (B:List Bool) (e:Int × Int) (r:Nat × Bool):bu (pE B e r).1:=by
 unfold pE
 split
 · show bu (0,0)
   exact⟨⟨by decide,by decide⟩,⟨by decide,by decide⟩⟩
 · exact wL B e r
theorem I3 {L:List Int} {B:List Bool}(h:cK L B) (r:Nat × Bool) {e:Int × Int}(he:bu e) {HS:aj} {i k:Nat}(hi:HS[i]? = some (br k L B r.1 r.2)) (hk:HS[k]? = some (aM L)) (hd:i≠k) {HS':aj}(hh:HS.set i (br k L B (pE B e r).2.1 (pE B e r).2.2)=HS') (hbd:Nat.blt HS'.length Mem.bound=true) :
 aH.Sound Tryz.prog ⟨67,[.one (.ptr i 0),.one (cq e)],HS,.one (cq (pE B e r).1),HS',[i]⟩:=
 zI (fun _ => .flat .nil) (.flat .nil) (Fv h r e he) hi hk hd hh hbd
theorem uJ {p x:Int}(hp:fD p) (hx : -31≤x∧x≤31):cu (p+cu (x-p))=x:=by
 unfold fD at hp
 unfold cu
 omega
theorem gu (v e:Int × Int):(cJ v e).length≤54:=by
 unfold cJ
 have hx:=gv (v.1-e.1)
 have hy:=gv (v.2-e.2)
 have h1:=jm (aY (cu (v.1-e.1))) (by have:=gk ⟨hx.1,by omega⟩;omega)
 have h2:=jm (aY (cu (v.2-e.2))) (by have:=gk ⟨hy.1,by omega⟩;omega)
 rw [List.length_append];omega
theorem IM (v e:Int × Int) (he:bu e) (hr:d9 v=true) (pre rest:List Bool):pE (pre++(cJ v e++rest)) e (pre.length,false)=(v,(pre.length+(cJ v e).length,false)):=by
 have hr' : -31≤v.1∧v.1≤31 ∧ -31≤v.2∧v.2≤31:=of_decide_eq_true hr
 have hx:=gv (v.1-e.1)
 have hy:=gv (v.2-e.2)
 have s1:=gk (x:=cu (v.1-e.1)) ⟨hx.1,by omega⟩
 have s2:=gk (x:=cu (v.2-e.2)) ⟨hy.1,by omega⟩
 have e1:=oX (aY (cu (v.1-e.1))) (by omega) pre (bN (aY (cu (v.2-e.2)))++rest)
 have e2:=oX (aY (cu (v.2-e.2))) (by omega) (pre++bN (aY (cu (v.1-e.1)))) rest
 rw [List.append_assoc]at e2
 rw [List.length_append]at e2
 have eB:pre++(cJ v e++rest)=pre++(bN (aY (cu (v.1-e.1)))++(bN (aY (cu (v.2-e.2)))++rest)):=by rw [cJ,List.append_assoc]
 rw [eB]
 have kX:xY (pre++(bN (aY (cu (v.1-e.1)))++(bN (aY (cu (v.2-e.2)))++rest))) (pre.length,false)=cu (v.1-e.1):=by rw [xY,e1,ot]
 have kY:xZ (pre++(bN (aY (cu (v.1-e.1)))++(bN (aY (cu (v.2-e.2)))++rest))) (pre.length,false)=cu (v.2-e.2):=by rw [xZ,e1,e2,ot]
 have kR:xX (pre++(bN (aY (cu (v.1-e.1)))++(bN (aY (cu (v.2-e.2)))++rest))) (pre.length,false)=(pre.length+(cJ v e).length,false):=by
  rw [xX,e1,e2,cJ,List.length_append,Nat.add_assoc]
 have kV:Fw (pre++(bN (aY (cu (v.1-e.1)))++(bN (aY (cu (v.2-e.2)))++rest))) e (pre.length,false)=v:=by
  rw [Fw,kX,kY,uJ he.1 ⟨hr'.1,hr'.2.1⟩,uJ he.2 hr'.2.2]
 unfold pE
 have hn:¬jT (pre++(bN (aY (cu (v.1-e.1)))++(bN (aY (cu (v.2-e.2)))++rest))) e (pre.length,false):=by
  unfold jT
  rw [kX,kY,kR,kV,hr]
  rintro (g|g|g|g|g|g)
  · cases g
  · omega
  · omega
  · omega
  · omega
  · cases g
 rw [if_neg hn,kV,kR]
end Go.Proofs.YtagpkhindehcbaaGreat
