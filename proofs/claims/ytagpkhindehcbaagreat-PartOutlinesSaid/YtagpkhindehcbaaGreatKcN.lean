/-
  A part of the proof: EscapeT, PartOpen, OpenLaw, RvlcLaw, VecIO.
-/
import Derived.Test.YtagpkhindehcbaaGreatKcM
set_option maxRecDepth 10000
set_option maxHeartbeats 8000000
set_option linter.unusedVariables false
set_option linter.unusedSectionVars false
set_option linter.unusedSimpArgs false
namespace Go.Proofs.YtagpkhindehcbaaGreat
open Go.Xm
variable [az]
def lE (l:List Int):Nat→List Int→Int→Nat→Option (List Int)
 | 0,out,_,_=>some out
 | k+1,out,z,i=>
   if z=2∧l.getD i 0<3 then none
   else if z=2∧l.getD i 0=3 then(if i+1=l.length∨3<l.getD (i+1) 0 then none else lE l k out 0 (i+1))
   else lE l k (out++[l.getD i 0]) (if l.getD i 0=0 then z+1 else 0) (i+1)
theorem yp {l:List Int}(hl:eI l) (hn:l.length≤100000) (res:Option (List Int)) (hres:lE l l.length [] 0 0=res) :
 bt Tryz.prog 60 [iK 0 l.length 1] [cK 5 (il .u8 l)] (.tup [.one (kC 1 (res.getD []).length 1),.one (.int .i64 (if res.isSome then 0 else 15))]) [cK 5 (il .u8 l),cK 5 (il .u8 (res.getD []))]:=by
 refine cO Tryz.func60 ?_
 repeat' (first|refine zz ?_|refine zx (fun _=>?_) (fun _=>?_)|fail)
 refine WX.scope ?_
 refine WX.jump ?_
 repeat' (first|refine zz ?_|refine zx (fun _=>?_) (fun _=>?_)|fail)
 refine WX.label ?_
 show WX _ _ _ _ _ _ _
 refine WX.dv rfl ?_
 refine WX.K4 (σ:=Nat × List Int × Int × Nat) (fun s=>[(0,iK 0 l.length 1),(4,iK 1 s.2.1.length 1),(5,.one (.int .i64 s.2.2.1)),(6,.one (.int .i64 (s.2.2.2:Nat)))]) (fun s=>[cK 5 (il .u8 l),cK 5 (il .u8 s.2.1)]) (fun s=>s.1+s.2.2.2=l.length∧0≤s.2.2.1∧s.2.2.1≤2∧s.2.1.length≤s.2.2.2∧lE l s.1 s.2.1 s.2.2.1 s.2.2.2=res) (fun s=>s.1) (l.length,[],0,0) ⟨rfl,by show(0:Int)≤0;omega,by show(0:Int)≤2;omega,Nat.le_refl _,hres⟩ (fun s _=>kS) (bm [0,1]) ?_
 intro s ⟨h1,h2,h3,h4,h5⟩ ih
 cases hs:s.1 with
 | zero=>
   rw [hs]at h5 h1
   subst h5
   have hi:s.2.2.2=l.length:=by omega
   repeat' (first|refine zz ?_|refine zx (fun _=>?_) (fun _=>?_)|fail)
   show aH _ _ _ _ _ _ _ _;refine kV [0,1] ?_
   simp only [XV.au,List.map_cons,List.map_nil,X1.au,aq];rfl
 | succ k=>
   rw [hs,lE]at h5
   rw [hs]at h1
   have hb:=hl s.2.2.2
   have hb1:=hl (s.2.2.2+1)
   repeat' (first|refine zz ?_|refine zx (fun _=>?_) (fun _=>?_)|fail)
   · rename_i g1 g2
     rw [if_pos ⟨g1,g2⟩]at h5
     subst h5
     show aH _ _ _ _ _ _ _ _;refine kV [0,1] ?_
     rfl
   · rename_i g1 g2 g3 g4
     rw [if_neg (fun h=>g2 h.2),if_pos ⟨g1,g3⟩,if_pos (.inl (by omega))]at h5
     subst h5
     show aH _ _ _ _ _ _ _ _;refine kV [0,1] ?_
     rfl
   · rename_i g1 g2 g3 g4 g5
     rw [if_neg (fun h=>g2 h.2),if_pos ⟨g1,g3⟩,if_pos (.inr g5)]at h5
     subst h5
     show aH _ _ _ _ _ _ _ _;refine kV [0,1] ?_
     rfl
   · rename_i g1 g2 g3 g4 g5
     rw [if_neg (fun h=>g2 h.2),if_pos ⟨g1,g3⟩,if_neg (fun h=>h.elim (by omega) g5)]at h5
     show WX _ _ _ _ _ _ _
     refine WX.goto ?_
     show WX _ _ _ _ _ _ _
     refine WX.jump ?_
     refine WX.seq ?_
     refine WX.skip ?_
     show WX _ _ _ _ _ _ _
     have e3:((s.2.2.2+1:Nat):Int)=(s.2.2.2:Int)+1:=by omega
     refine ih (k,s.2.1,0,s.2.2.2+1) _ _ _ (bm [0,1] (reg:=by(repeat' (first|exact af.nil|refine af.du rfl rfl (by simp) ?_|refine af.flat (by rw [e3];rfl) ?_|refine af.flat rfl ?_|refine af.cons rfl ?_|refine af.sl rfl (by assumption) rfl ?_|refine af.du rfl rfl (by first|rfl|omega|(simp;done)|(simp;omega)) ?_));first|done|fail)) ⟨by show k+(s.2.2.2+1)=_;omega,by show(0:Int)≤0;omega,by show(0:Int)≤2;omega,by show s.2.1.length≤s.2.2.2+1;omega,h5⟩ (by show k<s.1;omega)
   · rename_i g1 g2 g3
     rw [if_neg (fun h=>g2 h.2),if_neg (fun h=>g3 h.2),if_neg (by omega)]at h5
     show WX _ _ _ _ _ _ _
     refine WX.goto ?_
     show WX _ _ _ _ _ _ _
     refine WX.jump ?_
     refine WX.seq ?_
     refine WX.skip ?_
     show WX _ _ _ _ _ _ _
     have e3:((s.2.2.2+1:Nat):Int)=(s.2.2.2:Int)+1:=by omega
     refine ih (k,s.2.1++[l.getD s.2.2.2 0],0,s.2.2.2+1) _ _ _ (bm [0,3] (reg:=by(repeat' (first|exact af.nil|refine af.du rfl rfl (by simp) ?_|refine af.flat (by rw [e3];rfl) ?_|refine af.flat rfl ?_|refine af.cons rfl ?_|refine af.sl rfl (by assumption) rfl ?_|refine af.du rfl rfl (by first|rfl|omega|(simp;done)|(simp;omega)) ?_));first|done|fail)) ⟨by show k+(s.2.2.2+1)=_;omega,by show 0≤(0:Int);omega,by show(0:Int)≤2;omega,by show(s.2.1++[_]).length≤s.2.2.2+1;simp;omega,h5⟩ (by show k<s.1;omega)
   · rename_i g1 g2
     rw [if_neg (fun h=>g1 h.1),if_neg (fun h=>g1 h.1),if_pos g2]at h5
     show WX _ _ _ _ _ _ _
     refine WX.goto ?_
     show WX _ _ _ _ _ _ _
     refine WX.jump ?_
     refine WX.seq ?_
     refine WX.skip ?_
     show WX _ _ _ _ _ _ _
     have e3:((s.2.2.2+1:Nat):Int)=(s.2.2.2:Int)+1:=by omega
     refine ih (k,s.2.1++[l.getD s.2.2.2 0],s.2.2.1+1,s.2.2.2+1) _ _ _ (bm [0,3] (reg:=by(repeat' (first|exact af.nil|refine af.du rfl rfl (by simp) ?_|refine af.flat (by rw [e3];rfl) ?_|refine af.flat rfl ?_|refine af.cons rfl ?_|refine af.sl rfl (by assumption) rfl ?_|refine af.du rfl rfl (by first|rfl|omega|(simp;done)|(simp;omega)) ?_));first|done|fail)) ⟨by show k+(s.2.2.2+1)=_;omega,by show 0≤s.2.2.1+1;omega,by show s.2.2.1+1≤2;omega,by show(s.2.1++[_]).length≤s.2.2.2+1;simp;omega,h5⟩ (by show k<s.1;omega)
   · rename_i g1 g2
     rw [if_neg (fun h=>g1 h.1),if_neg (fun h=>g1 h.1),if_neg g2]at h5
     show WX _ _ _ _ _ _ _
     refine WX.goto ?_
     show WX _ _ _ _ _ _ _
     refine WX.jump ?_
     refine WX.seq ?_
     refine WX.skip ?_
     show WX _ _ _ _ _ _ _
     have e3:((s.2.2.2+1:Nat):Int)=(s.2.2.2:Int)+1:=by omega
     refine ih (k,s.2.1++[l.getD s.2.2.2 0],0,s.2.2.2+1) _ _ _ (bm [0,3] (reg:=by(repeat' (first|exact af.nil|refine af.du rfl rfl (by simp) ?_|refine af.flat (by rw [e3];rfl) ?_|refine af.flat rfl ?_|refine af.cons rfl ?_|refine af.sl rfl (by assumption) rfl ?_|refine af.du rfl rfl (by first|rfl|omega|(simp;done)|(simp;omega)) ?_));first|done|fail)) ⟨by show k+(s.2.2.2+1)=_;omega,by show 0≤(0:Int);omega,by show(0:Int)≤2;omega,by show(s.2.1++[_]).length≤s.2.2.2+1;simp;omega,h5⟩ (by show k<s.1;omega)
end Go.Proofs.YtagpkhindehcbaaGreat
namespace Go.Proofs.YtagpkhindehcbaaGreat
open Go.Xm
variable [az]
theorem G6 (e e' e2:TypeId) (cs ds fs:List XC):eg [cK e cs] [cK e' ds,cK e2 fs]=true:=by
 cases cs <;> cases ds <;> cases fs <;> simp [eg,aj.live,aj.own,cK]
theorem Dg {l:List Int}(hl:eI l) (hn:l.length≤100000) {n:Nat}(hln:l.length=n) {HS:ak} {i:Nat}(hi:HS[i]? = some (cK 5 (il .u8 l))) {N:Nat}(hN:HS.length=N) {HS':ak}(hh:HS++[cK 5 (il .u8 (ie l l.length).1)]=HS') (hb:Nat.blt HS'.length Mem.bound=true) :
 aI.Sound Tryz.prog ⟨30,[iK i n 1],HS,iK N (ie l l.length).1.length 1,HS',[i]⟩:=by
 subst hln hN
 exact b8 [i] [i] 1 (Ay hl hn) (by simp) (.flat hi .nil) (.flat .nil) (.flat (.flat .nil)) rfl (.cons (gO (Nat.le_of_ble_eq_true rfl)) .nil) (.cons (d_ ..) .nil) (gO (Nat.le_of_ble_eq_true rfl)) (d_ ..) (.flat (.flat .nil)) (G6 ..) rfl (by simp only [bN];rw [aG hi];exact hh) hb (.inl rfl)
theorem Az {l:List Int}(hl:eI l) (hn:l.length≤100000) {res:Option (List Int)}(hres:lE l l.length [] 0 0=res) {c:Int}(hc:(if res.isSome then 0 else 15)=c) {n:Nat}(hln:l.length=n) {HS:ak} {i:Nat}(hi:HS[i]? = some (cK 5 (il .u8 l))) {N:Nat}(hN:HS.length=N) {HS':ak}(hh:HS++[cK 5 (il .u8 (res.getD []))]=HS') (hb:Nat.blt HS'.length Mem.bound=true) :
 aI.Sound Tryz.prog ⟨60,[iK i n 1],HS,.tup [.one (kC N (res.getD []).length 1),.one (.int .i64 c)],HS',[i]⟩:=by
 subst hln hN hc
 exact b8 [i] [i] 1 (yp hl hn res hres) (by simp) (.flat hi .nil) (.flat .nil) (.flat (.flat .nil)) rfl (.cons (gO (Nat.le_of_ble_eq_true rfl)) .nil) (.cons (d_ ..) .nil) (Gx (bp (Nat.le_of_ble_eq_true rfl)) trivial) (by simp only [XV.au,List.map_cons,List.map_nil,X1.au,aq];rfl) (.flat (.flat .nil)) (G6 ..) rfl (by simp only [bN];rw [aG hi];exact hh) hb (.inl rfl)
theorem qX {l:List Int}(hl:eI l):∀(k:Nat) (out:List Int) (z:Int) (i:Nat) (q:List Int),eI out→lE l k out z i=some q→eI q
 | 0,out,z,i,q,ho,h=>by
   simp only [lE,Option.some.injEq]at h
   subst h;exact ho
 | k + 1,out,z,i,q,ho,h=>by
   unfold lE at h
   split at h
   · cases h
   · split at h
     · split at h
       · cases h
       · exact qX hl k _ _ _ q ho h
     · refine qX hl k _ _ _ q ?_ h
       intro p
       rw [List.getD_eq_getElem?_getD]
       by_cases hp:p<out.length
       · rw [List.getElem?_append_left hp,←List.getD_eq_getElem?_getD];exact ho p
       · rw [List.getElem?_append_right (by omega)]
         cases hq:p-out.length with
         | zero=>simpa using hl i
         | succ m=>simp
theorem tc {l:List Int}:∀(k:Nat) (out:List Int) (z:Int) (i:Nat) (q:List Int),lE l k out z i=some q→q.length≤out.length+k
 | 0,out,z,i,q,h=>by
   simp only [lE,Option.some.injEq]at h
   subst h;omega
 | k + 1,out,z,i,q,h=>by
   unfold lE at h
   split at h
   · cases h
   · split at h
     · split at h
       · cases h
       · have:=tc k _ _ _ q h;omega
     · have:=tc k _ _ _ q h
       simp at this;omega
theorem Hf {L:List Int}(hL:eI L) (hn:L.length≤100000) {z:Nat} {b:Bool}(hs:fm L=(z,b)) {n:Nat}(hln:L.length=n) {HS:ak} {i:Nat}(hi:HS[i]? = some (cK 5 (il .u8 L))) (hb:Nat.blt HS.length Mem.bound=true) :
 aI.Sound Tryz.prog ⟨61,[iK i n 1],HS,.tup [.one (.int .i64 (z:Nat)),.one (.bool b)],HS,[i]⟩:=by
 have:=JU hL hn hln hi hb
 rw [hs]at this
 exact this
theorem JA {l:List Int}(hl:eI l) (hn:l.length≤30000) {q:List Int}(h2:lE l l.length [] 0 0=some q) {B:List Bool}(h3:fm q=(B.length,true)) (hB:B.length≤8*q.length) :
 bt Tryz.prog 32 [iK 0 l.length 1] [cK 5 (il .u8 l)] (.tup [.one (.ptr 1 0),.one (.int .i64 0)]) [cK 5 (il .u8 l),bI 2 q B 0 false,aR q]:=by
 refine cO Tryz.func32 ?_
 have hq:=qX hl _ _ _ _ q (fun p=>by simp) h2
 have hq2:=tc _ _ _ _ q h2
 simp only [List.length_nil,Nat.zero_add]at hq2
 repeat' (first
  |(refine qz ?_;first
   |refine cl ?_ (hi:=by exact Az hl (by omega) h2 (c:=0) rfl rfl rfl nL nA rfl)
   |refine cl ?_ (hi:=by exact Hf (L:=q) hq (by omega) h3 rfl rfl rfl)
   |refine cl ?_ (hi:=by exact JK (L:=q) (B:=B) hB (by omega) rfl rfl rfl nL nA rfl))
  |refine zz ?_|refine zx (fun _=>?_) (fun _=>?_)|fail)
 show aH _ _ _ _ _ _ _ _;refine kV [0,2,3] ?_
 rfl
end Go.Proofs.YtagpkhindehcbaaGreat
namespace Go.Proofs.YtagpkhindehcbaaGreat
open Go.Xm
variable [az]
theorem Mm:∀(x:Fin 256) (r:Fin 8),(x.val:Int)/2^(7-r.val)%2=1→(∀ j:Fin 8,r<j→¬(x.val:Int)/2^(7-j.val)%2=1)→tz 8 (x.val:Int)=7-r.val∧x.val≠0:=by
 decide +kernel
theorem JV (bs:List Bool):fm (wr (bs++[true]))=(bs.length,true):=by
 have hlen:=fS (bs++[true])
 simp only [List.length_append,List.length_cons,List.length_nil]at hlen
 have hi:(wr (bs++[true])).length-1=bs.length/8:=by omega
 have hb:=iY (bs++[true]) (bs.length/8)
 obtain⟨x,hx⟩:∃ x:Fin 256,(wr (bs++[true])).getD (bs.length/8) 0=(x.val:Int):=⟨⟨((wr (bs++[true])).getD (bs.length/8) 0).toNat,by omega⟩,by simp only [];omega⟩
 have bit:∀ j:Fin 8,decide ((x.val:Int)/2^(7-j.val)%2=1)=(bs++[true]).getD (8*(bs.length/8)+j.val) false:=by
  intro j
  have:=Ib (bs++[true]) (8*(bs.length/8)+j.val)
  unfold kW at this
  rw [show(8*(bs.length/8)+j.val)/8=bs.length/8 by omega,show(8*(bs.length/8)+j.val)%8=j.val by omega,hx]at this
  exact this
 have h1:=Mm x ⟨bs.length%8,Nat.mod_lt _ (by omega)⟩ (by
  have:=bit ⟨bs.length%8,Nat.mod_lt _ (by omega)⟩
  simp only at this
  rw [show 8*(bs.length/8)+bs.length%8=bs.length by omega]at this
  simpa using this) (fun j hj=>by
  have:=bit j
  have hj':bs.length%8<j.val:=hj
  rw [List.getD_eq_getElem?_getD,List.getElem?_eq_none (by simp;omega)]at this
  simpa using this)
 unfold fm
 rw [hi,hx,if_neg (by have:=h1.2;omega),h1.1]
 simp only [Prod.mk.injEq,and_true]
 rw [hlen]
 omega
theorem II (bs:List Bool) (hb:bs.length≤1000000):dG (wr (bs++[true])) bs:=by
 have hlen:=fS (bs++[true])
 simp only [List.length_append,List.length_cons,List.length_nil]at hlen
 refine⟨by omega,iY _,fun j hj=>?_,by omega⟩
 rw [Ib,List.getD_eq_getElem?_getD,List.getElem?_append_left hj,←List.getD_eq_getElem?_getD]
def pz:Int→List Int→List Int
 | _,[]=>[]
 | z,b::t=>if 2≤z∧b≤3 then 3::b::pz (if b=0 then 0+1 else 0) t else b::pz (if b=0 then z+1 else 0) t
theorem FE (l:List Int):∀ j,j≤l.length→(ie l j).1++pz (ie l j).2 (l.drop j)=pz 0 l
 | 0,_=>rfl
 | j + 1,h=>by
   rw [←FE l j (by omega)]
   have hd:l.drop j=l.getD j 0::l.drop (j+1):=by
    rw [List.drop_eq_getElem_cons (by omega),List.getD_eq_getElem?_getD,List.getElem?_eq_getElem (by omega)];rfl
   rw [hd,ie,FD]
   conv=>rhs;rw [pz]
   split
   · simp
   · simp
theorem yl (l:List Int):(ie l l.length).1=pz 0 l:=by
 have:=FE l l.length (Nat.le_refl _)
 rw [List.drop_length]at this
 simpa [pz]using this
theorem Ax (e:List Int):∀(l:List Int) (k:Nat) (out:List Int) (z:Int) (i:Nat),(∀ b∈l,0≤b)→0≤z→z≤2→e.drop i=pz z l→k=(pz z l).length→lE e k out z i=some (out++l)
 | [],k,out,z,i,hb,h0,h2,hd,hk=>by
   simp [pz]at hk
   subst hk
   simp [lE]
 | b :: t,k,out,z,i,hb,h0,h2,hd,hk=>by
   have hb0:=hb b (List.mem_cons_self ..)
   have hbt:∀ b∈t,0≤b:=fun x hx=>hb x (List.mem_cons_of_mem _ hx)
   have get:∀(i:Nat) (x:Int) (q:List Int),e.drop i=x::q→e.getD i 0=x∧e.drop (i+1)=q∧i<e.length:=fun i x q h=>by
    have hlt:i<e.length:=by
     refine Classical.byContradiction fun hn=>?_
     rw [List.drop_of_length_le (by omega)]at h
     cases h
    rw [List.drop_eq_getElem_cons hlt]at h
    simp only [List.cons.injEq]at h
    refine⟨?_,h.2,hlt⟩
    rw [List.getD_eq_getElem?_getD,List.getElem?_eq_getElem hlt]
    exact h.1
   unfold pz at hd hk
   by_cases hc:2≤z∧b≤3
   · rw [if_pos hc]at hd hk
     obtain⟨g1,g2,g3⟩:=get _ _ _ hd
     obtain⟨g4,g5,g6⟩:=get _ _ _ g2
     obtain rfl:z=2:=by omega
     simp only [List.length_cons]at hk
     obtain⟨k,rfl⟩:∃ k',k=k'+2:=⟨k-2,by omega⟩
     rw [lE,g1,if_neg (by omega),if_pos ⟨rfl,rfl⟩,if_neg (by rw [g4];omega),lE,g4,if_neg (by omega),if_neg (by omega)]
     rw [Ax e t k _ _ _ hbt (by split <;> omega) (by split <;> omega) g5 (by omega)]
     simp
   · rw [if_neg hc]at hd hk
     obtain⟨g1,g2,g3⟩:=get _ _ _ hd
     simp only [List.length_cons]at hk
     obtain⟨k,rfl⟩:∃ k',k=k'+1:=⟨k-1,by omega⟩
     rw [lE,g1,if_neg (by omega),if_neg (by omega)]
     rw [Ax e t k _ _ _ hbt (by split <;> omega) (by split <;> omega) g2 (by omega)]
     simp
theorem yn {l:List Int}(hl:eI l):lE (ie l l.length).1 (ie l l.length).1.length [] 0 0=some l:=by
 rw [yl]
 have:=Ax (pz 0 l) l (pz 0 l).length [] 0 0 (fun b hb=>by
  obtain⟨j,hj,rfl⟩:=List.mem_iff_getElem.1 hb
  have:=(hl j).1
  rw [List.getD_eq_getElem?_getD,List.getElem?_eq_getElem hj]at this
  exact this) (by omega) (by omega) rfl rfl
 simpa using this
end Go.Proofs.YtagpkhindehcbaaGreat
namespace Go.Proofs.YtagpkhindehcbaaGreat
open Go.Xm
variable [az]
theorem pP (pre:List Bool) (b:Bool) (t:List Bool):dH (pre++b::t) (pre.length,false)=b∧bY (pre++b::t) (pre.length,false)=(pre.length+1,false):=by
 constructor
 · unfold dH
   rw [List.getD_eq_getElem?_getD,List.getElem?_append_right (Nat.le_refl _)]
   simp
 · unfold bY
   rw [if_neg (by simp),if_pos (by simp)]
theorem K6 (x:Int) (h:x=0∨x=1):b2 (decide (x=1))=x:=by
 rcases h with rfl|rfl <;> rfl
theorem vN (n:Int) (hn:1≤n∧n≤8191):∀(k fuel:Nat) (x:Int) (pre rest:List Bool),0<k→k≤fuel→x=n/2^k →
 nh (pre++(l4 n k++rest)) fuel x (pre.length,false)=(n-1,(pre.length+2*k,false))
 | 0,fuel,x,pre,rest,h0,hf,hx=>absurd h0 (Nat.lt_irrefl _)
 | k+1,0,x,pre,rest,h0,hf,hx=>absurd hf (by omega)
 | k + 1,fuel+1,x,pre,rest,h0,hf,hx=>by
   have hpos:(0:Int)<2^k:=Int.pow_pos (by decide)
   have hx':2*x+n/2^k%2=n/2^k:=by
    rw [hx,Int.pow_succ,←Int.ediv_ediv_of_nonneg (Int.le_of_lt hpos)]
    omega
   have hle:n/2^k≤n:=Int.ediv_le_self _ (by omega)
   obtain⟨a1,a2⟩:=pP pre (decide (n/2^k%2=1)) (decide (0<k)::(l4 n k++rest))
   obtain⟨c1,c2⟩:=pP (pre++[decide (n/2^k%2=1)]) (decide (0<k)) (l4 n k++rest)
   rw [List.append_assoc,List.length_append]at c1 c2
   simp only [List.cons_append,List.nil_append,List.length_cons,List.length_nil,Nat.zero_add]at c1 c2
   have hb:b2 (decide (n/2^k%2=1))=n/2^k%2:=K6 _ (by omega)
   simp only [l4,List.cons_append]
   rw [nh,a1,a2,c1,c2,hb,hx',if_neg (by simp;omega)]
   by_cases hk:0<k
   · rw [if_pos (by simpa using hk)]
     have:=vN n hn k fuel (n/2^k) (pre++[decide (n/2^k%2=1),decide (0<k)]) rest hk (by omega) rfl
     rw [List.append_assoc,List.length_append]at this
     simp only [List.cons_append,List.nil_append,List.length_cons,List.length_nil]at this
     rw [this]
     simp only [Prod.mk.injEq,and_true,true_and]
     omega
   · rw [if_neg (by simpa using hk)]
     obtain rfl:k=0:=by omega
     simp
theorem Kh (m:Nat) (h:2≤m):(1:Int)=(m:Int)/2^(bitLen m-1):=by
 have hlog:bitLen m=Nat.log2 m+1:=by unfold bitLen;rw [if_neg (by omega)]
 rw [hlog,Nat.add_sub_cancel]
 have e1:=Nat.log2_self_le (n:=m) (by omega)
 have e2:=Nat.lt_log2_self (n:=m)
 rw [Nat.pow_succ]at e2
 have e3:m/2^Nat.log2 m=1:=by
  apply Nat.div_eq_of_lt_le <;> omega
 have e5:((m/2^Nat.log2 m:Nat):Int)=(m:Int)/2^Nat.log2 m:=by
  rw [Int.natCast_ediv,Int.natCast_pow];rfl
 rw [←e5,e3];rfl
theorem vP (v:Int) (hv:0≤v∧v≤8190) (pre rest:List Bool):da (pre++(cD v++rest)) (pre.length,false)=(v,(pre.length+(cD v).length,false)):=by
 unfold da cD
 by_cases h0:v=0
 · subst h0
   obtain⟨a1,a2⟩:=pP pre true rest
   simp only [if_true,List.cons_append,List.nil_append]
   rw [a1,a2]
   simp
 · rw [if_neg h0]
   obtain⟨a1,a2⟩:=pP pre false (l4 (v+1) (bitLen (v+1).toNat-1)++rest)
   simp only [List.cons_append]
   rw [a1,a2,if_neg (by decide)]
   have hl1:bitLen (v+1).toNat≤13:=ov (by show _<8192;omega)
   have h2:2≤(v+1).toNat:=by omega
   have hlog:bitLen (v+1).toNat=Nat.log2 (v+1).toNat+1:=by unfold bitLen;rw [if_neg (by omega)]
   have hlp:0<Nat.log2 (v+1).toNat:=by
    have:=(Nat.le_log2 (n:=(v+1).toNat) (k:=1) (by omega)).2 (by omega)
    omega
   have hx:=Kh (v+1).toNat h2
   rw [show((v+1).toNat:Int)=v+1 by omega]at hx
   have:=vN (v+1) (by omega) (bitLen (v+1).toNat-1) 13 1 (pre++[false]) rest (by omega) (by omega) hx
   rw [List.append_assoc,List.length_append]at this
   simp only [List.cons_append,List.nil_append,List.length_cons,List.length_nil]at this
   rw [this]
   simp only [List.length_cons,rl,Prod.mk.injEq,and_true]
   omega
end Go.Proofs.YtagpkhindehcbaaGreat
namespace Go.Proofs.YtagpkhindehcbaaGreat
open Go.Xm
variable [az]
theorem eD {f f':FuncId} {a a':List XV} {HS HS' K K':ak} {v v':XV} {w w':List Nat}(h:Nat.beq HS.length HS'.length=false):Compat ⟨f,a,HS,v,K,w⟩ ⟨f',a',HS',v',K',w'⟩:=fun _ _ e=>by
 have e':HS.length=HS'.length:=congrArg List.length e
 rw [e']at h
 simp at h
theorem DS {p:Int × Int}(h:bu p) (hr:d7 p=true) {HS:ak}(hb:Nat.blt HS.length Mem.bound=true):aI.Sound Tryz.prog ⟨79,[.one (cn p)],HS,.one (.bool true),HS,[]⟩:=by
 have:=eA h hb
 rw [hr]at this
 exact this
theorem gh {x:Int}(h : -32≤x∧x≤32):0≤bd x∧bd x≤64:=by unfold bd;split <;> omega
def cJ (v e:Int × Int):List Bool:=cD (bd (cq (v.1-e.1)))++cD (bd (cq (v.2-e.2)))
theorem jk (v:Int) (h:0≤v∧v≤8190):(cD v).length≤27:=by
 unfold cD
 split
 · decide
 · simp only [List.length_cons,rl]
   have:=ov (n:=(v+1).toNat) (k:=13) (by omega)
   omega
theorem H4 (bs:List Bool) (v e:Int × Int) (hv:bu v) (he:bu e) (hr:d7 v=true) (hb:bs.length≤800000) :
 bt Tryz.prog 54 [.one (.ptr 0 0),.one (cn v),.one (cn e)] (WH bs) (.one (.bool true)) (KB (bs++cJ v e)):=by
 have hx:=gp (v.1-e.1)
 have hy:=gp (v.2-e.2)
 have a1:=hv.1.1
 have a2:=hv.1.2
 have a3:=hv.2.1
 have a4:=hv.2.2
 have b1:=he.1.1
 have b2:=he.1.2
 have b3:=he.2.1
 have b4:=he.2.2
 have hl:=jk (bd (cq (v.1-e.1))) (by have:=gh ⟨hx.1,by omega⟩;omega)
 have e0:bs++cJ v e=(bs++cD (bd (cq (v.1-e.1))))++cD (bd (cq (v.2-e.2))):=by rw [cJ,List.append_assoc]
 rw [e0]
 refine cO Tryz.func54 ?_
 repeat' (first
  |(refine qz ?_;first
   |refine cl ?_ (hi:=by exact DS hv hr rfl)
   |refine cl ?_ (hi:=by exact iT hv rfl)
   |refine cl ?_ (hi:=by exact iT he rfl)
   |refine cl ?_ (hi:=by exact CO (by omega) rfl)
   |refine cl ?_ (hi:=by exact rp (by omega) rfl)
   |refine cl ?_ (hi:=by exact jl (v:=bd (cq (v.1-e.1))) (bs:=bs) (by have:=gh ⟨hx.1,by omega⟩;omega) (by omega) rfl rfl (by decide) nL nA rfl)
   |refine cl ?_ (hi:=by exact jl (v:=bd (cq (v.2-e.2))) (bs:=bs++cD (bd (cq (v.1-e.1)))) (by have:=gh ⟨hy.1,by omega⟩;omega) (by rw [List.length_append];omega) rfl rfl (by decide) nL nA rfl))
  |refine zz ?_|refine zx (fun _=>?_) (fun _=>?_)|refine br (by first|exact ag.nil|exact ag.one _|exact ag.lK (by repeat' (first|exact True.intro|refine And.intro ?_ ?_|exact Compat.ne rfl|exact eD rfl))) ⟨by kernel_rfl,?_⟩|refine br (by first|exact ag.nil|exact ag.one _|exact ag.lK (by repeat' (first|exact True.intro|refine And.intro ?_ ?_|exact Compat.ne rfl|exact eD rfl))) ?_|fail)
 show aH _ _ _ _ _ _ _ _;refine kV [0,1,3] ?_
 rfl
theorem jt {bs:List Bool} {v e:Int × Int}(hv:bu v) (he:bu e) (hr:d7 v=true) (hb:bs.length≤800000) {HS:ak} {i k:Nat}(hi:HS[i]? = some (aQ k bs)) (hk:HS[k]? = some (av bs)) (hd:i≠k) {N:Nat}(hN:HS.length=N) {HS':ak}(hh:bN HS [i,k] [aQ N (bs++cJ v e),.dead,av (bs++cJ v e)]=HS') (hbd:Nat.blt HS'.length Mem.bound=true) :
 aI.Sound Tryz.prog ⟨54,[.one (.ptr i 0),.one (cn v),.one (cn e)],HS,.one (.bool true),HS',[i,k]⟩:=
 Km (fun τ => .flat (.flat .nil)) (.flat (.flat .nil)) (H4 bs v e hv he hr hb) hi hk hd hN hh hbd
theorem vO (B:List Bool):∀(k:Nat) (x:Int) (r:Nat × Bool),1≤x→0≤(nh B k x r).1∧(nh B k x r).1≤8190
 | 0,x,r,h=>by simp [nh]
 | k + 1,x,r,h=>by
   have hb:=x_ (dH B r)
   unfold nh
   split
   · simp
   · rename_i h1
     split
     · exact vO B k _ _ (by omega)
     · simp only []
       have:¬(8190<2*x+b2 (dH B r)-1):=fun g=>h1 (.inr g)
       omega
theorem tY (B:List Bool) (r:Nat × Bool):0≤(da B r).1∧(da B r).1≤8190:=by
 unfold da
 split
 · simp
 · exact vO B 13 1 _ (by decide)
theorem pe {n:Int}(h:0≤n∧n≤8190) : -4100≤dX n∧dX n≤4100:=by unfold dX;split <;> omega
theorem m9 {a b:Int} {HS HS':ak}:Compat ⟨94,[.one (.int .i64 a)],HS,.one (.int .i64 (dX a)),HS,[]⟩ ⟨94,[.one (.int .i64 b)],HS',.one (.int .i64 (dX b)),HS',[]⟩:=fun _ h h2=>by
 simp only [List.cons.injEq,XV.one.injEq,XC.int.injEq,true_and,and_true]at h
 subst h
 have h2':HS=HS':=h2
 subst h2'
 exact⟨rfl,rfl,rfl⟩
theorem rN {a b:Int} {HS:ak}:Compat ⟨84,[.one (.int .i64 a)],HS,.one (.int .i64 (cq a)),HS,[]⟩ ⟨84,[.one (.int .i64 b)],HS,.one (.int .i64 (cq b)),HS,[]⟩:=fun _ h _=>by
 simp only [List.cons.injEq,XV.one.injEq,XC.int.injEq,true_and,and_true]at h
 subst h
 exact⟨rfl,rfl,rfl⟩
theorem u7 {f:FuncId} {a:List XV} {L:List Int} {B:List Bool}(g:Nat × Bool→XV × (Nat × Bool)) {r r':Nat × Bool} {i k:Nat} {HS HS' K K':ak}(hi:HS[i]? = some (bI k L B r.1 r.2)) (hi':HS'[i]? = some (bI k L B r'.1 r'.2)) (hK:HS.set i (bI k L B (g r).2.1 (g r).2.2)=K) (hK':HS'.set i (bI k L B (g r').2.1 (g r').2.2)=K'):Compat ⟨f,a,HS,(g r).1,K,[i]⟩ ⟨f,a,HS',(g r').1,K',[i]⟩:=fun _ _ h=>by
 have h':HS=HS':=h
 subst h'
 rw [hi]at hi'
 simp only [Option.some.injEq,aj.cells.injEq,List.cons.injEq,XC.int.injEq,XC.bool.injEq,true_and,and_true,Int.ofNat_inj]at hi'
 have:r=r':=Prod.ext hi'.1 hi'.2
 subst this
 exact⟨rfl,hK.symm.trans hK',rfl⟩
def xv (B:List Bool) (r:Nat × Bool):Int:=dX (da B r).1
def xw (B:List Bool) (r:Nat × Bool):Int:=dX (da B (da B r).2).1
def EA (B:List Bool) (e:Int × Int) (r:Nat × Bool):Int × Int:=(cq (e.1+xv B r),cq (e.2+xw B r))
def xu (B:List Bool) (r:Nat × Bool):Nat × Bool:=(da B (da B r).2).2
def jQ (B:List Bool) (e:Int × Int) (r:Nat × Bool):Prop:=(xu B r).2=true∨xv B r < -32∨31<xv B r∨xw B r < -32∨31<xw B r∨d7 (EA B e r)=false
instance (B:List Bool) (e:Int × Int) (r:Nat × Bool):Decidable (jQ B e r):=by unfold jQ;infer_instance
def pg (B:List Bool) (e:Int × Int) (r:Nat × Bool):(Int × Int) × (Nat × Bool):=if jQ B e r then((0,0),((xu B r).1,true))else(EA B e r,xu B r)
theorem vZ (B:List Bool) (e:Int × Int) (r:Nat × Bool):bu (EA B e r):=by
 have h1:=gp (e.1+xv B r)
 have h2:=gp (e.2+xw B r)
 exact⟨⟨h1.1,by show cq _≤32;omega⟩,⟨h2.1,by show cq _≤32;omega⟩⟩
theorem Ez {L:List Int} {B:List Bool}(h:dG L B) (r:Nat × Bool) (e:Int × Int) (he:bu e) :
 bt Tryz.prog 67 [.one (.ptr 0 0),.one (cn e)] (RH L B r.1 r.2) (.one (cn (pg B e r).1)) (RH L B (pg B e r).2.1 (pg B e r).2.2):=by
 have b1:=he.1.1
 have b2:=he.1.2
 have b3:=he.2.1
 have b4:=he.2.2
 have r1:=tY B r
 have r2:=tY B (da B r).2
 have u1 : -4100≤xv B r∧xv B r≤4100:=pe r1
 have u2 : -4100≤xw B r∧xw B r≤4100:=pe r2
 have hV:=vZ B e r
 unfold pg
 refine cO Tryz.func67 ?_
 repeat' (first
  |(refine qz ?_;first
   |refine cl ?_ (hi:=by exact r5 h r rfl rfl (by decide) nL rfl)
   |refine cl (v := .one (.int .i64 (xv B r))) ?_ (hi:=by exact r8 (n:=(da B r).1) (by omega) rfl)
   |refine cl ?_ (hi:=by exact r5 h (da B r).2 rfl rfl (by decide) nL rfl)
   |refine cl (v := .one (.int .i64 (xw B r))) ?_ (hi:=by exact r8 (n:=(da B (da B r).2).1) (by omega) rfl)
   |refine cl ?_ (hi:=by exact iT he rfl)
   |refine cl ?_ (hi:=by exact CO (by omega) rfl)
   |refine cl (v := .one (cn (EA B e r))) ?_ (hi:=by exact vz rfl)
   |refine sZ (fun ge=>?_) (fun ge=>?_) (hi:=by exact lY (p:=(xu B r).1) (e:=(xu B r).2) rfl rfl (by decide) rfl)
   |refine sZ (fun gr=>?_) (fun gr=>?_) (hi:=by exact eA hV rfl)
   |refine cl ?_ (hi:=by exact l0 (p:=(xu B r).1) (e:=(xu B r).2) rfl rfl (by decide) nL rfl))
  |refine zz ?_|refine zx (fun _=>?_) (fun _=>?_)|refine br (by first|exact ag.nil|exact ag.one _|exact ag.lK (by repeat' (first|exact True.intro|refine And.intro ?_ ?_|exact Compat.ne rfl|exact m9|exact rN|exact u7 (fun r=>(.one (.int .i64 (da B r).1),(da B r).2)) (r:=(da B r).2) (r':=r) rfl rfl rfl rfl))) ⟨by kernel_rfl,?_⟩|refine br (by first|exact ag.nil|exact ag.one _|exact ag.lK (by repeat' (first|exact True.intro|refine And.intro ?_ ?_|exact Compat.ne rfl|exact m9|exact rN|exact u7 (fun r=>(.one (.int .i64 (da B r).1),(da B r).2)) (r:=(da B r).2) (r':=r) rfl rfl rfl rfl))) ?_|fail)
 · rw [if_pos (show jQ B e r from .inl ge)]
   show aH _ _ _ _ _ _ _ _;refine kV [0,1] ?_
   exact congrArg XV.one dM.symm
 · rename_i g1
   rw [if_pos (show jQ B e r from .inr (.inl g1))]
   show aH _ _ _ _ _ _ _ _;refine kV [0,1] ?_
   exact congrArg XV.one dM.symm
 · rename_i g1
   rw [if_pos (show jQ B e r from .inr (.inr (.inl g1)))]
   show aH _ _ _ _ _ _ _ _;refine kV [0,1] ?_
   exact congrArg XV.one dM.symm
 · rename_i g1
   rw [if_pos (show jQ B e r from .inr (.inr (.inr (.inl g1))))]
   show aH _ _ _ _ _ _ _ _;refine kV [0,1] ?_
   exact congrArg XV.one dM.symm
 · rename_i g1
   rw [if_pos (show jQ B e r from .inr (.inr (.inr (.inr (.inl g1)))))]
   show aH _ _ _ _ _ _ _ _;refine kV [0,1] ?_
   exact congrArg XV.one dM.symm
 · have hn:¬jQ B e r:=by
    rintro (g|g|g|g|g|g)
    · rw [ge]at g;cases g
    · omega
    · omega
    · omega
    · omega
    · rw [gr]at g;cases g
   rw [if_neg hn]
   show aH _ _ _ _ _ _ _ _;refine kV [0,1] ?_
   rfl
 · rw [if_pos (show jQ B e r from .inr (.inr (.inr (.inr (.inr gr)))))]
   show aH _ _ _ _ _ _ _ _;refine kV [0,1] ?_
   exact congrArg XV.one dM.symm
theorem l_ (B:List Bool) (e:Int × Int) (r:Nat × Bool):bu (pg B e r).1:=by
 unfold pg
 split
 · show bu (0,0)
   exact⟨⟨by decide,by decide⟩,⟨by decide,by decide⟩⟩
 · exact vZ B e r
theorem H7 {L:List Int} {B:List Bool}(h:dG L B) (r:Nat × Bool) {e:Int × Int}(he:bu e) {HS:ak} {i k:Nat}(hi:HS[i]? = some (bI k L B r.1 r.2)) (hk:HS[k]? = some (aR L)) (hd:i≠k) {HS':ak}(hh:HS.set i (bI k L B (pg B e r).2.1 (pg B e r).2.2)=HS') (hbd:Nat.blt HS'.length Mem.bound=true) :
 aI.Sound Tryz.prog ⟨67,[.one (.ptr i 0),.one (cn e)],HS,.one (cn (pg B e r).1),HS',[i]⟩:=
 y8 (fun _ => .flat .nil) (.flat .nil) (Ez h r e he) hi hk hd hh hbd
theorem ug {p x:Int}(hp:fA p) (hx : -31≤x∧x≤31):cq (p+cq (x-p))=x:=by
 unfold fA at hp
 unfold cq
 omega
theorem gm (v e:Int × Int):(cJ v e).length≤54:=by
 unfold cJ
 have hx:=gp (v.1-e.1)
 have hy:=gp (v.2-e.2)
 have h1:=jk (bd (cq (v.1-e.1))) (by have:=gh ⟨hx.1,by omega⟩;omega)
 have h2:=jk (bd (cq (v.2-e.2))) (by have:=gh ⟨hy.1,by omega⟩;omega)
 rw [List.length_append];omega
theorem HP (v e:Int × Int) (he:bu e) (hr:d7 v=true) (pre rest:List Bool):pg (pre++(cJ v e++rest)) e (pre.length,false)=(v,(pre.length+(cJ v e).length,false)):=by
 have hr' : -31≤v.1∧v.1≤31 ∧ -31≤v.2∧v.2≤31:=of_decide_eq_true hr
 have hx:=gp (v.1-e.1)
 have hy:=gp (v.2-e.2)
 have s1:=gh (x:=cq (v.1-e.1)) ⟨hx.1,by omega⟩
 have s2:=gh (x:=cq (v.2-e.2)) ⟨hy.1,by omega⟩
 have e1:=vP (bd (cq (v.1-e.1))) (by omega) pre (cD (bd (cq (v.2-e.2)))++rest)
 have e2:=vP (bd (cq (v.2-e.2))) (by omega) (pre++cD (bd (cq (v.1-e.1)))) rest
 rw [List.append_assoc]at e2
 rw [List.length_append]at e2
 have eB:pre++(cJ v e++rest)=pre++(cD (bd (cq (v.1-e.1)))++(cD (bd (cq (v.2-e.2)))++rest)):=by rw [cJ,List.append_assoc]
 rw [eB]
 have kX:xv (pre++(cD (bd (cq (v.1-e.1)))++(cD (bd (cq (v.2-e.2)))++rest))) (pre.length,false)=cq (v.1-e.1):=by rw [xv,e1,r7]
 have kY:xw (pre++(cD (bd (cq (v.1-e.1)))++(cD (bd (cq (v.2-e.2)))++rest))) (pre.length,false)=cq (v.2-e.2):=by rw [xw,e1,e2,r7]
 have kR:xu (pre++(cD (bd (cq (v.1-e.1)))++(cD (bd (cq (v.2-e.2)))++rest))) (pre.length,false)=(pre.length+(cJ v e).length,false):=by
  rw [xu,e1,e2,cJ,List.length_append,Nat.add_assoc]
 have kV:EA (pre++(cD (bd (cq (v.1-e.1)))++(cD (bd (cq (v.2-e.2)))++rest))) e (pre.length,false)=v:=by
  rw [EA,kX,kY,ug he.1 ⟨hr'.1,hr'.2.1⟩,ug he.2 hr'.2.2]
 unfold pg
 have hn:¬jQ (pre++(cD (bd (cq (v.1-e.1)))++(cD (bd (cq (v.2-e.2)))++rest))) e (pre.length,false):=by
  unfold jQ
  rw [kX,kY,kR,kV,hr]
  rintro (g|g|g|g|g|g)
  · cases g
  · omega
  · omega
  · omega
  · omega
  · cases g
 rw [if_neg hn,kV,kR]
end Go.Proofs.YtagpkhindehcbaaGreat
