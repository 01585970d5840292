/-
  A part of the proof: EscapeT, PartOpen, OpenLaw, RvlcLaw, VecIO.
-/
import Derived.Test.YtagpkhindehcbaaGreatKbN
set_option linter.unusedVariables false
set_option linter.unusedSectionVars false
set_option linter.unusedSimpArgs false
namespace Go.Proofs.YtagpkhindehcbaaGreat
open Go.Xm
variable [aC]
def kK (l:List Int):Nat→List Int→Int→Nat→Option (List Int)
 | 0,out,_,_=>some out
 | k+1,out,z,i=>
   if z=2∧l.getD i 0<3 then none
   else if z=2∧l.getD i 0=3 then(if i+1=l.length∨3<l.getD (i+1) 0 then none else kK l k out 0 (i+1))
   else kK l k (out++[l.getD i 0]) (if l.getD i 0=0 then z+1 else 0) (i+1)
set_option maxRecDepth 10000 in
theorem wz {l:List Int}(hl:ej l) (hn:l.length≤100000) (res:Option (List Int)) (hres:kK l l.length [] 0 0=res) :
 bq Tryz.prog 60 [iT 0 l.length 1] [c8 5 (il .u8 l)] (.tup [.one (mc 1 (res.getD []).length 1),.one (.int .i64 (if res.isSome then 0 else 15))]) [c8 5 (il .u8 l),c8 5 (il .u8 (res.getD []))]:=by
 refine cO Tryz.func60 ?_
 repeat' (first|refine zG ?_|refine zA ?_|refine cX (fun _=>?_) (fun _=>?_)|refine aS (fun _=>?_) (fun _=>?_)|refine zL ?_|refine zF ?_|fail)
 refine WX.scope ?_
 refine WX.jump ?_
 repeat' (first|refine zG ?_|refine zA ?_|refine cX (fun _=>?_) (fun _=>?_)|refine aS (fun _=>?_) (fun _=>?_)|refine zL ?_|refine zF ?_|fail)
 refine WX.label ?_
 show WX _ _ _ _ _ _ _
 refine WX.dt rfl ?_
 refine WX.IA (σ:=Nat × List Int × Int × Nat) (fun s=>[(0,iT 0 l.length 1),(4,iT 1 s.2.1.length 1),(5,.one (.int .i64 s.2.2.1)),(6,.one (.int .i64 (s.2.2.2:Nat)))]) (fun s=>[c8 5 (il .u8 l),c8 5 (il .u8 s.2.1)]) (fun s=>s.1+s.2.2.2=l.length∧0≤s.2.2.1∧s.2.2.1≤2∧s.2.1.length≤s.2.2.2∧kK l s.1 s.2.1 s.2.2.1 s.2.2.2=res) (fun s=>s.1) (l.length,[],0,0) ⟨rfl,by show(0:Int)≤0;omega,by show(0:Int)≤2;omega,Nat.le_refl _,hres⟩ (fun s _=>mO) (br [0,1]) ?_
 intro s ⟨h1,h2,h3,h4,h5⟩ ih
 cases hs:s.1 with
 | zero=>
   rw [hs]at h5 h1
   subst h5
   have hi:s.2.2.2=l.length:=by omega
   repeat' (first|refine zG ?_|refine zA ?_|refine cX (fun _=>?_) (fun _=>?_)|refine aS (fun _=>?_) (fun _=>?_)|refine zL ?_|refine zF ?_|fail)
   show aF _ _ _ _ _ _ _ _;refine kV [0,1] ?_
   simp only [XV.aw,List.map_cons,List.map_nil,X1.aw,au];rfl
 | succ k=>
   rw [hs,kK]at h5
   rw [hs]at h1
   have hb:=hl s.2.2.2
   have hb1:=hl (s.2.2.2+1)
   repeat' (first|refine zG ?_|refine zA ?_|refine cX (fun _=>?_) (fun _=>?_)|refine aS (fun _=>?_) (fun _=>?_)|refine zL ?_|refine zF ?_|fail)
   · rename_i g1 g2
     rw [if_pos ⟨g1,g2⟩]at h5
     subst h5
     show aF _ _ _ _ _ _ _ _;refine kV [0,1] ?_
     rfl
   · rename_i g1 g2 g3 g4
     rw [if_neg (fun h=>g2 h.2),if_pos ⟨g1,g3⟩,if_pos (.inl (by omega))]at h5
     subst h5
     show aF _ _ _ _ _ _ _ _;refine kV [0,1] ?_
     rfl
   · rename_i g1 g2 g3 g4 g5
     rw [if_neg (fun h=>g2 h.2),if_pos ⟨g1,g3⟩,if_pos (.inr g5)]at h5
     subst h5
     show aF _ _ _ _ _ _ _ _;refine kV [0,1] ?_
     rfl
   · rename_i g1 g2 g3 g4 g5
     rw [if_neg (fun h=>g2 h.2),if_pos ⟨g1,g3⟩,if_neg (fun h=>h.elim (by omega) g5)]at h5
     show WX _ _ _ _ _ _ _
     refine WX.goto ?_
     show WX _ _ _ _ _ _ _
     refine WX.jump ?_
     refine WX.seq ?_
     refine WX.skip ?_
     show WX _ _ _ _ _ _ _
     have e3:((s.2.2.2+1:Nat):Int)=(s.2.2.2:Int)+1:=by omega
     refine ih (k,s.2.1,0,s.2.2.2+1) _ _ _ (br [0,1] (reg:=by(repeat' (first|exact af.nil|refine af.dX rfl rfl (by simp) ?_|refine af.flat (by rw [e3];rfl) ?_|refine af.flat rfl ?_|refine af.cons rfl ?_|refine af.sl rfl (by assumption) rfl ?_|refine af.dX rfl rfl (by first|rfl|omega|(simp;done)|(simp;omega)) ?_));first|done|fail)) ⟨by show k+(s.2.2.2+1)=_;omega,by show(0:Int)≤0;omega,by show(0:Int)≤2;omega,by show s.2.1.length≤s.2.2.2+1;omega,h5⟩ (by show k<s.1;omega)
   · rename_i g1 g2 g3
     rw [if_neg (fun h=>g2 h.2),if_neg (fun h=>g3 h.2),if_neg (by omega)]at h5
     show WX _ _ _ _ _ _ _
     refine WX.goto ?_
     show WX _ _ _ _ _ _ _
     refine WX.jump ?_
     refine WX.seq ?_
     refine WX.skip ?_
     show WX _ _ _ _ _ _ _
     have e3:((s.2.2.2+1:Nat):Int)=(s.2.2.2:Int)+1:=by omega
     refine ih (k,s.2.1++[l.getD s.2.2.2 0],0,s.2.2.2+1) _ _ _ (br [0,3] (reg:=by(repeat' (first|exact af.nil|refine af.dX rfl rfl (by simp) ?_|refine af.flat (by rw [e3];rfl) ?_|refine af.flat rfl ?_|refine af.cons rfl ?_|refine af.sl rfl (by assumption) rfl ?_|refine af.dX rfl rfl (by first|rfl|omega|(simp;done)|(simp;omega)) ?_));first|done|fail)) ⟨by show k+(s.2.2.2+1)=_;omega,by show 0≤(0:Int);omega,by show(0:Int)≤2;omega,by show(s.2.1++[_]).length≤s.2.2.2+1;simp;omega,h5⟩ (by show k<s.1;omega)
   · rename_i g1 g2
     rw [if_neg (fun h=>g1 h.1),if_neg (fun h=>g1 h.1),if_pos g2]at h5
     show WX _ _ _ _ _ _ _
     refine WX.goto ?_
     show WX _ _ _ _ _ _ _
     refine WX.jump ?_
     refine WX.seq ?_
     refine WX.skip ?_
     show WX _ _ _ _ _ _ _
     have e3:((s.2.2.2+1:Nat):Int)=(s.2.2.2:Int)+1:=by omega
     refine ih (k,s.2.1++[l.getD s.2.2.2 0],s.2.2.1+1,s.2.2.2+1) _ _ _ (br [0,3] (reg:=by(repeat' (first|exact af.nil|refine af.dX rfl rfl (by simp) ?_|refine af.flat (by rw [e3];rfl) ?_|refine af.flat rfl ?_|refine af.cons rfl ?_|refine af.sl rfl (by assumption) rfl ?_|refine af.dX rfl rfl (by first|rfl|omega|(simp;done)|(simp;omega)) ?_));first|done|fail)) ⟨by show k+(s.2.2.2+1)=_;omega,by show 0≤s.2.2.1+1;omega,by show s.2.2.1+1≤2;omega,by show(s.2.1++[_]).length≤s.2.2.2+1;simp;omega,h5⟩ (by show k<s.1;omega)
   · rename_i g1 g2
     rw [if_neg (fun h=>g1 h.1),if_neg (fun h=>g1 h.1),if_neg g2]at h5
     show WX _ _ _ _ _ _ _
     refine WX.goto ?_
     show WX _ _ _ _ _ _ _
     refine WX.jump ?_
     refine WX.seq ?_
     refine WX.skip ?_
     show WX _ _ _ _ _ _ _
     have e3:((s.2.2.2+1:Nat):Int)=(s.2.2.2:Int)+1:=by omega
     refine ih (k,s.2.1++[l.getD s.2.2.2 0],0,s.2.2.2+1) _ _ _ (br [0,3] (reg:=by(repeat' (first|exact af.nil|refine af.dX rfl rfl (by simp) ?_|refine af.flat (by rw [e3];rfl) ?_|refine af.flat rfl ?_|refine af.cons rfl ?_|refine af.sl rfl (by assumption) rfl ?_|refine af.dX rfl rfl (by first|rfl|omega|(simp;done)|(simp;omega)) ?_));first|done|fail)) ⟨by show k+(s.2.2.2+1)=_;omega,by show 0≤(0:Int);omega,by show(0:Int)≤2;omega,by show(s.2.1++[_]).length≤s.2.2.2+1;simp;omega,h5⟩ (by show k<s.1;omega)
end Go.Proofs.YtagpkhindehcbaaGreat
namespace Go.Proofs.YtagpkhindehcbaaGreat
open Go.Xm
variable [aC]
theorem Ey (e e' e2:TypeId) (cs ds fs:List XC):eI [c8 e cs] [c8 e' ds,c8 e2 fs]=true:=by
 cases cs <;> cases ds <;> cases fs <;> simp [eI,ak.live,ak.own,c8]
theorem Bo {l:List Int}(hl:ej l) (hn:l.length≤100000) {n:Nat}(hln:l.length=n) {HS:aq}{i:Nat}(hi:HS[i]? = some (c8 5 (il .u8 l))) {N:Nat}(hN:HS.length=N) {HS':aq}(hh:HS++[c8 5 (il .u8 (gJ l l.length).1)]=HS') (hb:Nat.blt HS'.length Mem.bound=true) :
 aG.Sound Tryz.prog ⟨30,[iT i n 1],HS,iT N (gJ l l.length).1.length 1,HS',[i]⟩:=by
 subst hln hN
 exact cj [i] [i] 1 (yE hl hn) (by simp) (.flat hi .nil) (.flat .nil) (.flat (.flat .nil)) rfl (.cons (iv (Nat.le_of_ble_eq_true rfl)) .nil) (.cons (eA ..) .nil) (iv (Nat.le_of_ble_eq_true rfl)) (eA ..) (.flat (.flat .nil)) (Ey ..) rfl (by simp only [bM];rw [aK hi];exact hh) hb (.inl rfl)
theorem yF {l:List Int}(hl:ej l) (hn:l.length≤100000) {res:Option (List Int)}(hres:kK l l.length [] 0 0=res) {c:Int}(hc:(if res.isSome then 0 else 15)=c) {n:Nat}(hln:l.length=n) {HS:aq}{i:Nat}(hi:HS[i]? = some (c8 5 (il .u8 l))) {N:Nat}(hN:HS.length=N) {HS':aq}(hh:HS++[c8 5 (il .u8 (res.getD []))]=HS') (hb:Nat.blt HS'.length Mem.bound=true) :
 aG.Sound Tryz.prog ⟨60,[iT i n 1],HS,.tup [.one (mc N (res.getD []).length 1),.one (.int .i64 c)],HS',[i]⟩:=by
 subst hln hN hc
 exact cj [i] [i] 1 (wz hl hn res hres) (by simp) (.flat hi .nil) (.flat .nil) (.flat (.flat .nil)) rfl (.cons (iv (Nat.le_of_ble_eq_true rfl)) .nil) (.cons (eA ..) .nil) (GZ (ca (Nat.le_of_ble_eq_true rfl)) trivial) (by simp only [XV.aw,List.map_cons,List.map_nil,X1.aw,au];rfl) (.flat (.flat .nil)) (Ey ..) rfl (by simp only [bM];rw [aK hi];exact hh) hb (.inl rfl)
theorem p5 {l:List Int}(hl:ej l):∀(k:Nat) (out:List Int) (z:Int) (i:Nat) (q:List Int),ej out→kK l k out z i=some q→ej q
 | 0,out,z,i,q,ho,h=>by
   simp only [kK,Option.some.injEq]at h
   subst h;exact ho
 | k + 1,out,z,i,q,ho,h=>by
   unfold kK at h
   split at h
   · cases h
   · split at h
     · split at h
       · cases h
       · exact p5 hl k _ _ _ q ho h
     · refine p5 hl k _ _ _ q ?_ h
       intro p
       rw [List.getD_eq_getElem?_getD]
       by_cases hp:p<out.length
       · rw [List.getElem?_append_left hp,←List.getD_eq_getElem?_getD];exact ho p
       · rw [List.getElem?_append_right (by omega)]
         cases hq:p-out.length with
         | zero=>simpa using hl i
         | succ m=>simp
theorem rY {l:List Int}:∀(k:Nat) (out:List Int) (z:Int) (i:Nat) (q:List Int),kK l k out z i=some q→q.length≤out.length+k
 | 0,out,z,i,q,h=>by
   simp only [kK,Option.some.injEq]at h
   subst h;omega
 | k + 1,out,z,i,q,h=>by
   unfold kK at h
   split at h
   · cases h
   · split at h
     · split at h
       · cases h
       · have:=rY k _ _ _ q h;omega
     · have:=rY k _ _ _ q h
       simp at this;omega
theorem EG {L:List Int}(hL:ej L) (hn:L.length≤100000) {z:Nat}{b:Bool}(hs:eX L=(z,b)) {n:Nat}(hln:L.length=n) {HS:aq}{i:Nat}(hi:HS[i]? = some (c8 5 (il .u8 L))) (hb:Nat.blt HS.length Mem.bound=true) :
 aG.Sound Tryz.prog ⟨61,[iT i n 1],HS,.tup [.one (.int .i64 (z:Nat)),.one (.bool b)],HS,[i]⟩:=by
 have:=Hm hL hn hln hi hb
 rw [hs]at this
 exact this
set_option maxRecDepth 10000 in
theorem G3 {l:List Int}(hl:ej l) (hn:l.length≤30000) {q:List Int}(h2:kK l l.length [] 0 0=some q) {B:List Bool}(h3:eX q=(B.length,true)) (hB:B.length≤8*q.length) :
 bq Tryz.prog 32 [iT 0 l.length 1] [c8 5 (il .u8 l)] (.tup [.one (.ptr 1 0),.one (.int .i64 0)]) [c8 5 (il .u8 l),bD 2 q B 0 false,aO q]:=by
 refine cO Tryz.func32 ?_
 have hq:=p5 hl _ _ _ _ q (fun p=>by simp) h2
 have hq2:=rY _ _ _ _ q h2
 simp only [List.length_nil,Nat.zero_add]at hq2
 repeat' (first
  |(refine qz ?_;first
   |refine cl ?_ (hi:=by exact yF hl (by omega) h2 (c:=0) rfl rfl rfl nL nA rfl)
   |refine cl ?_ (hi:=by exact EG (L:=q) hq (by omega) h3 rfl rfl rfl)
   |refine cl ?_ (hi:=by exact Ha (L:=q) (B:=B) hB (by omega) rfl rfl rfl nL nA rfl))
  |refine zG ?_|refine zA ?_|refine cX (fun _=>?_) (fun _=>?_)|refine aS (fun _=>?_) (fun _=>?_)|refine zL ?_|refine zF ?_|fail)
 show aF _ _ _ _ _ _ _ _;refine kV [0,2,3] ?_
 rfl
end Go.Proofs.YtagpkhindehcbaaGreat
namespace Go.Proofs.YtagpkhindehcbaaGreat
open Go.Xm
variable [aC]
theorem JM:∀(x:Fin 256) (r:Fin 8),(x.val:Int)/2^(7-r.val)%2=1→(∀ j:Fin 8,r<j→¬(x.val:Int)/2^(7-j.val)%2=1)→tz 8 (x.val:Int)=7-r.val∧x.val≠0:=by
 decide +kernel
theorem Hn (bs:List Bool):eX (wr (bs++[true]))=(bs.length,true):=by
 have hlen:=fC (bs++[true])
 simp only [List.length_append,List.length_cons,List.length_nil]at hlen
 have hi:(wr (bs++[true])).length-1=bs.length/8:=by omega
 have hb:=iz (bs++[true]) (bs.length/8)
 obtain⟨x,hx⟩:∃ x:Fin 256,(wr (bs++[true])).getD (bs.length/8) 0=(x.val:Int):=⟨⟨((wr (bs++[true])).getD (bs.length/8) 0).toNat,by omega⟩,by simp only [];omega⟩
 have bit:∀ j:Fin 8,decide ((x.val:Int)/2^(7-j.val)%2=1)=(bs++[true]).getD (8*(bs.length/8)+j.val) false:=by
  intro j
  have:=FG (bs++[true]) (8*(bs.length/8)+j.val)
  unfold kh at this
  rw [show(8*(bs.length/8)+j.val)/8=bs.length/8 by omega,show(8*(bs.length/8)+j.val)%8=j.val by omega,hx]at this
  exact this
 have h1:=JM x ⟨bs.length%8,Nat.mod_lt _ (by omega)⟩ (by
  have:=bit ⟨bs.length%8,Nat.mod_lt _ (by omega)⟩
  simp only at this
  rw [show 8*(bs.length/8)+bs.length%8=bs.length by omega]at this
  simpa using this) (fun j hj=>by
  have:=bit j
  have hj':bs.length%8<j.val:=hj
  rw [List.getD_eq_getElem?_getD,List.getElem?_eq_none (by simp;omega)]at this
  simpa using this)
 unfold eX
 rw [hi,hx,if_neg (by have:=h1.2;omega),h1.1]
 simp only [Prod.mk.injEq,and_true]
 rw [hlen]
 omega
theorem F_ (bs:List Bool) (hb:bs.length≤1000000):du (wr (bs++[true])) bs:=by
 have hlen:=fC (bs++[true])
 simp only [List.length_append,List.length_cons,List.length_nil]at hlen
 refine⟨by omega,iz _,fun j hj=>?_,by omega⟩
 rw [FG,List.getD_eq_getElem?_getD,List.getElem?_append_left hj,←List.getD_eq_getElem?_getD]
def oL:Int→List Int→List Int
 | _,[]=>[]
 | z,b::t=>if 2≤z∧b≤3 then 3::b::oL (if b=0 then 0+1 else 0) t else b::oL (if b=0 then z+1 else 0) t
theorem Dp (l:List Int):∀ j,j≤l.length→(gJ l j).1++oL (gJ l j).2 (l.drop j)=oL 0 l
 | 0,_=>rfl
 | j + 1,h=>by
   rw [←Dp l j (by omega)]
   have hd:l.drop j=l.getD j 0::l.drop (j+1):=by
    rw [List.drop_eq_getElem_cons (by omega),List.getD_eq_getElem?_getD,List.getElem?_eq_getElem (by omega)];rfl
   rw [hd,gJ,Dn]
   conv=>rhs;rw [oL]
   split
   · simp
   · simp
theorem wu (l:List Int):(gJ l l.length).1=oL 0 l:=by
 have:=Dp l l.length (Nat.le_refl _)
 rw [List.drop_length]at this
 simpa [oL]using this
theorem yD (e:List Int):∀(l:List Int) (k:Nat) (out:List Int) (z:Int) (i:Nat),(∀ b∈l,0≤b)→0≤z→z≤2→e.drop i=oL z l→k=(oL z l).length→kK e k out z i=some (out++l)
 | [],k,out,z,i,hb,h0,h2,hd,hk=>by
   simp [oL]at hk
   subst hk
   simp [kK]
 | b :: t,k,out,z,i,hb,h0,h2,hd,hk=>by
   have hb0:=hb b (List.mem_cons_self ..)
   have hbt:∀ b∈t,0≤b:=fun x hx=>hb x (List.mem_cons_of_mem _ hx)
   have get:∀(i:Nat) (x:Int) (q:List Int),e.drop i=x::q→e.getD i 0=x∧e.drop (i+1)=q∧i<e.length:=fun i x q h=>by
    have hlt:i<e.length:=by
     refine Classical.byContradiction fun hn=>?_
     rw [List.drop_of_length_le (by omega)]at h
     cases h
    rw [List.drop_eq_getElem_cons hlt]at h
    simp only [List.cons.injEq]at h
    refine⟨?_,h.2,hlt⟩
    rw [List.getD_eq_getElem?_getD,List.getElem?_eq_getElem hlt]
    exact h.1
   unfold oL at hd hk
   by_cases hc:2≤z∧b≤3
   · rw [if_pos hc]at hd hk
     obtain⟨g1,g2,g3⟩:=get _ _ _ hd
     obtain⟨g4,g5,g6⟩:=get _ _ _ g2
     obtain rfl:z=2:=by omega
     simp only [List.length_cons]at hk
     obtain⟨k,rfl⟩:∃ k',k=k'+2:=⟨k-2,by omega⟩
     rw [kK,g1,if_neg (by omega),if_pos ⟨rfl,rfl⟩,if_neg (by rw [g4];omega),kK,g4,if_neg (by omega),if_neg (by omega)]
     rw [yD e t k _ _ _ hbt (by split <;> omega) (by split <;> omega) g5 (by omega)]
     simp
   · rw [if_neg hc]at hd hk
     obtain⟨g1,g2,g3⟩:=get _ _ _ hd
     simp only [List.length_cons]at hk
     obtain⟨k,rfl⟩:∃ k',k=k'+1:=⟨k-1,by omega⟩
     rw [kK,g1,if_neg (by omega),if_neg (by omega)]
     rw [yD e t k _ _ _ hbt (by split <;> omega) (by split <;> omega) g2 (by omega)]
     simp
theorem wx {l:List Int}(hl:ej l):kK (gJ l l.length).1 (gJ l l.length).1.length [] 0 0=some l:=by
 rw [wu]
 have:=yD (oL 0 l) l (oL 0 l).length [] 0 0 (fun b hb=>by
  obtain⟨j,hj,rfl⟩:=List.mem_iff_getElem.1 hb
  have:=(hl j).1
  rw [List.getD_eq_getElem?_getD,List.getElem?_eq_getElem hj]at this
  exact this) (by omega) (by omega) rfl rfl
 simpa using this
end Go.Proofs.YtagpkhindehcbaaGreat
namespace Go.Proofs.YtagpkhindehcbaaGreat
open Go.Xm
variable [aC]
theorem oU (pre:List Bool) (b:Bool) (t:List Bool):dv (pre++b::t) (pre.length,false)=b∧bT (pre++b::t) (pre.length,false)=(pre.length+1,false):=by
 constructor
 · unfold dv
   rw [List.getD_eq_getElem?_getD,List.getElem?_append_right (Nat.le_refl _)]
   simp
 · unfold bT
   rw [if_neg (by simp),if_pos (by simp)]
theorem IC (x:Int) (h:x=0∨x=1):b2 (decide (x=1))=x:=by
 rcases h with rfl|rfl <;> rfl
theorem uu (n:Int) (hn:1≤n∧n≤8191):∀(k fuel:Nat) (x:Int) (pre rest:List Bool),0<k→k≤fuel→x=n/2^k →
 mG (pre++(lu n k++rest)) fuel x (pre.length,false)=(n-1,(pre.length+2*k,false))
 | 0,fuel,x,pre,rest,h0,hf,hx=>absurd h0 (Nat.lt_irrefl _)
 | k+1,0,x,pre,rest,h0,hf,hx=>absurd hf (by omega)
 | k + 1,fuel+1,x,pre,rest,h0,hf,hx=>by
   have hpos:(0:Int)<2^k:=Int.pow_pos (by decide)
   have hx':2*x+n/2^k%2=n/2^k:=by
    rw [hx,Int.pow_succ,←Int.ediv_ediv_of_nonneg (Int.le_of_lt hpos)]
    omega
   have hle:n/2^k≤n:=Int.ediv_le_self _ (by omega)
   obtain⟨a1,a2⟩:=oU pre (decide (n/2^k%2=1)) (decide (0<k)::(lu n k++rest))
   obtain⟨c1,c2⟩:=oU (pre++[decide (n/2^k%2=1)]) (decide (0<k)) (lu n k++rest)
   rw [List.append_assoc,List.length_append]at c1 c2
   simp only [List.cons_append,List.nil_append,List.length_cons,List.length_nil,Nat.zero_add]at c1 c2
   have hb:b2 (decide (n/2^k%2=1))=n/2^k%2:=IC _ (by omega)
   simp only [lu,List.cons_append]
   rw [mG,a1,a2,c1,c2,hb,hx',if_neg (by simp;omega)]
   by_cases hk:0<k
   · rw [if_pos (by simpa using hk)]
     have:=uu n hn k fuel (n/2^k) (pre++[decide (n/2^k%2=1),decide (0<k)]) rest hk (by omega) rfl
     rw [List.append_assoc,List.length_append]at this
     simp only [List.cons_append,List.nil_append,List.length_cons,List.length_nil]at this
     rw [this]
     simp only [Prod.mk.injEq,and_true,true_and]
     omega
   · rw [if_neg (by simpa using hk)]
     obtain rfl:k=0:=by omega
     simp
theorem HK (m:Nat) (h:2≤m):(1:Int)=(m:Int)/2^(bitLen m-1):=by
 have hlog:bitLen m=Nat.log2 m+1:=by unfold bitLen;rw [if_neg (by omega)]
 rw [hlog,Nat.add_sub_cancel]
 have e1:=Nat.log2_self_le (n:=m) (by omega)
 have e2:=Nat.lt_log2_self (n:=m)
 rw [Nat.pow_succ]at e2
 have e3:m/2^Nat.log2 m=1:=by
  apply Nat.div_eq_of_lt_le <;> omega
 have e5:((m/2^Nat.log2 m:Nat):Int)=(m:Int)/2^Nat.log2 m:=by
  rw [Int.natCast_ediv,Int.natCast_pow];rfl
 rw [←e5,e3];rfl
theorem uw (v:Int) (hv:0≤v∧v≤8190) (pre rest:List Bool):cV (pre++(cy v++rest)) (pre.length,false)=(v,(pre.length+(cy v).length,false)):=by
 unfold cV cy
 by_cases h0:v=0
 · subst h0
   obtain⟨a1,a2⟩:=oU pre true rest
   simp only [if_true,List.cons_append,List.nil_append]
   rw [a1,a2]
   simp
 · rw [if_neg h0]
   obtain⟨a1,a2⟩:=oU pre false (lu (v+1) (bitLen (v+1).toNat-1)++rest)
   simp only [List.cons_append]
   rw [a1,a2,if_neg (by decide)]
   have hl1:bitLen (v+1).toNat≤13:=nE (by show _<8192;omega)
   have h2:2≤(v+1).toNat:=by omega
   have hlog:bitLen (v+1).toNat=Nat.log2 (v+1).toNat+1:=by unfold bitLen;rw [if_neg (by omega)]
   have hlp:0<Nat.log2 (v+1).toNat:=by
    have:=(Nat.le_log2 (n:=(v+1).toNat) (k:=1) (by omega)).2 (by omega)
    omega
   have hx:=HK (v+1).toNat h2
   rw [show((v+1).toNat:Int)=v+1 by omega]at hx
   have:=uu (v+1) (by omega) (bitLen (v+1).toNat-1) 13 1 (pre++[false]) rest (by omega) (by omega) hx
   rw [List.append_assoc,List.length_append]at this
   simp only [List.cons_append,List.nil_append,List.length_cons,List.length_nil]at this
   rw [this]
   simp only [List.length_cons,qf,Prod.mk.injEq,and_true]
   omega
end Go.Proofs.YtagpkhindehcbaaGreat
namespace Go.Proofs.YtagpkhindehcbaaGreat
open Go.Xm
variable [aC]
theorem d_ {f f':FuncId}{a a':List XV}{HS HS' K K':aq}{v v':XV}{w w':List Nat}(h:Nat.beq HS.length HS'.length=false):Compat ⟨f,a,HS,v,K,w⟩ ⟨f',a',HS',v',K',w'⟩:=fun _ _ e=>by
 have e':HS.length=HS'.length:=congrArg List.length e
 rw [e']at h
 simp at h
theorem BQ {p:Int × Int}(h:bB p) (hr:dO p=true) {HS:aq}(hb:Nat.blt HS.length Mem.bound=true):aG.Sound Tryz.prog ⟨79,[.one (cq p)],HS,.one (.bool true),HS,[]⟩:=by
 have:=d9 h hb
 rw [hr]at this
 exact this
theorem fT {x:Int}(h : -32≤x∧x≤32):0≤bd x∧bd x≤64:=by unfold bd;split <;> omega
def cG (v e:Int × Int):List Bool:=cy (bd (cm (v.1-e.1)))++cy (bd (cm (v.2-e.2)))
theorem iR (v:Int) (h:0≤v∧v≤8190):(cy v).length≤27:=by
 unfold cy
 split
 · decide
 · simp only [List.length_cons,qf]
   have:=nE (n:=(v+1).toNat) (k:=13) (by omega)
   omega
set_option maxRecDepth 10000 in
theorem FA (bs:List Bool) (v e:Int × Int) (hv:bB v) (he:bB e) (hr:dO v=true) (hb:bs.length≤800000) :
 bq Tryz.prog 54 [.one (.ptr 0 0),.one (cq v),.one (cq e)] (WH bs) (.one (.bool true)) (H7 (bs++cG v e)):=by
 have hx:=fX (v.1-e.1)
 have hy:=fX (v.2-e.2)
 have a1:=hv.1.1
 have a2:=hv.1.2
 have a3:=hv.2.1
 have a4:=hv.2.2
 have b1:=he.1.1
 have b2:=he.1.2
 have b3:=he.2.1
 have b4:=he.2.2
 have hl:=iR (bd (cm (v.1-e.1))) (by have:=fT ⟨hx.1,by omega⟩;omega)
 have e0:bs++cG v e=(bs++cy (bd (cm (v.1-e.1))))++cy (bd (cm (v.2-e.2))):=by rw [cG,List.append_assoc]
 rw [e0]
 refine cO Tryz.func54 ?_
 repeat' (first
  |(refine qz ?_;first
   |refine cl ?_ (hi:=by exact BQ hv hr rfl)
   |refine cl ?_ (hi:=by exact ik hv rfl)
   |refine cl ?_ (hi:=by exact ik he rfl)
   |refine cl ?_ (hi:=by exact AT (by omega) rfl)
   |refine cl ?_ (hi:=by exact qh (by omega) rfl)
   |refine cl ?_ (hi:=by exact iS (v:=bd (cm (v.1-e.1))) (bs:=bs) (by have:=fT ⟨hx.1,by omega⟩;omega) (by omega) rfl rfl (by decide) nL nA rfl)
   |refine cl ?_ (hi:=by exact iS (v:=bd (cm (v.2-e.2))) (bs:=bs++cy (bd (cm (v.1-e.1)))) (by have:=fT ⟨hy.1,by omega⟩;omega) (by rw [List.length_append];omega) rfl rfl (by decide) nL nA rfl))
  |refine zG ?_|refine zA ?_|refine cX (fun _=>?_) (fun _=>?_)|refine aS (fun _=>?_) (fun _=>?_)|refine bL (by first|exact ai.nil|exact ai.one _|exact ai.nN (by repeat' (first|exact True.intro|refine And.intro ?_ ?_|exact Compat.ne rfl|exact d_ rfl))) ⟨by kernel_rfl,?_⟩|refine bL (by first|exact ai.nil|exact ai.one _|exact ai.nN (by repeat' (first|exact True.intro|refine And.intro ?_ ?_|exact Compat.ne rfl|exact d_ rfl))) ?_|refine zF ?_|fail)
 show aF _ _ _ _ _ _ _ _;refine kV [0,1,3] ?_
 rfl
theorem iZ {bs:List Bool}{v e:Int × Int}(hv:bB v) (he:bB e) (hr:dO v=true) (hb:bs.length≤800000) {HS:aq}{i k:Nat}(hi:HS[i]? = some (aN k bs)) (hk:HS[k]? = some (av bs)) (hd:i≠k) {N:Nat}(hN:HS.length=N) {HS':aq}(hh:bM HS [i,k] [aN N (bs++cG v e),.dead,av (bs++cG v e)]=HS') (hbd:Nat.blt HS'.length Mem.bound=true) :
 aG.Sound Tryz.prog ⟨54,[.one (.ptr i 0),.one (cq v),.one (cq e)],HS,.one (.bool true),HS',[i,k]⟩:=
 HP (fun τ => .flat (.flat .nil)) (.flat (.flat .nil)) (FA bs v e hv he hr hb) hi hk hd hN hh hbd
theorem uv (B:List Bool):∀(k:Nat) (x:Int) (r:Nat × Bool),1≤x→0≤(mG B k x r).1∧(mG B k x r).1≤8190
 | 0,x,r,h=>by simp [mG]
 | k + 1,x,r,h=>by
   have hb:=wi (dv B r)
   unfold mG
   split
   · simp
   · rename_i h1
     split
     · exact uv B k _ _ (by omega)
     · simp only []
       have:¬(8190<2*x+b2 (dv B r)-1):=fun g=>h1 (.inr g)
       omega
theorem sK (B:List Bool) (r:Nat × Bool):0≤(cV B r).1∧(cV B r).1≤8190:=by
 unfold cV
 split
 · simp
 · exact uv B 13 1 _ (by decide)
theorem oA {n:Int}(h:0≤n∧n≤8190) : -4100≤dK n∧dK n≤4100:=by unfold dK;split <;> omega
theorem mB {a b:Int}{HS HS':aq}:Compat ⟨94,[.one (.int .i64 a)],HS,.one (.int .i64 (dK a)),HS,[]⟩ ⟨94,[.one (.int .i64 b)],HS',.one (.int .i64 (dK b)),HS',[]⟩:=fun _ h h2=>by
 simp only [List.cons.injEq,XV.one.injEq,XC.int.injEq,true_and,and_true]at h
 subst h
 have h2':HS=HS':=h2
 subst h2'
 exact⟨rfl,rfl,rfl⟩
theorem qB {a b:Int}{HS:aq}:Compat ⟨84,[.one (.int .i64 a)],HS,.one (.int .i64 (cm a)),HS,[]⟩ ⟨84,[.one (.int .i64 b)],HS,.one (.int .i64 (cm b)),HS,[]⟩:=fun _ h _=>by
 simp only [List.cons.injEq,XV.one.injEq,XC.int.injEq,true_and,and_true]at h
 subst h
 exact⟨rfl,rfl,rfl⟩
theorem tX {f:FuncId}{a:List XV}{L:List Int}{B:List Bool}(g:Nat × Bool→XV × (Nat × Bool)) {r r':Nat × Bool}{i k:Nat}{HS HS' K K':aq}(hi:HS[i]? = some (bD k L B r.1 r.2)) (hi':HS'[i]? = some (bD k L B r'.1 r'.2)) (hK:HS.set i (bD k L B (g r).2.1 (g r).2.2)=K) (hK':HS'.set i (bD k L B (g r').2.1 (g r').2.2)=K'):Compat ⟨f,a,HS,(g r).1,K,[i]⟩ ⟨f,a,HS',(g r').1,K',[i]⟩:=fun _ _ h=>by
 have h':HS=HS':=h
 subst h'
 rw [hi]at hi'
 simp only [Option.some.injEq,ak.cells.injEq,List.cons.injEq,XC.int.injEq,XC.bool.injEq,true_and,and_true,Int.ofNat_inj]at hi'
 have:r=r':=Prod.ext hi'.1 hi'.2
 subst this
 exact⟨rfl,hK.symm.trans hK',rfl⟩
def vz (B:List Bool) (r:Nat × Bool):Int:=dK (cV B r).1
def vA (B:List Bool) (r:Nat × Bool):Int:=dK (cV B (cV B r).2).1
def Cw (B:List Bool) (e:Int × Int) (r:Nat × Bool):Int × Int:=(cm (e.1+vz B r),cm (e.2+vA B r))
def vy (B:List Bool) (r:Nat × Bool):Nat × Bool:=(cV B (cV B r).2).2
def jl (B:List Bool) (e:Int × Int) (r:Nat × Bool):Prop:=(vy B r).2=true∨vz B r < -32∨31<vz B r∨vA B r < -32∨31<vA B r∨dO (Cw B e r)=false
instance (B:List Bool) (e:Int × Int) (r:Nat × Bool):Decidable (jl B e r):=by unfold jl;infer_instance
def oC (B:List Bool) (e:Int × Int) (r:Nat × Bool):(Int × Int) × (Nat × Bool):=if jl B e r then((0,0),((vy B r).1,true))else(Cw B e r,vy B r)
theorem uE (B:List Bool) (e:Int × Int) (r:Nat × Bool):bB (Cw B e r):=by
 have h1:=fX (e.1+vz B r)
 have h2:=fX (e.2+vA B r)
 exact⟨⟨h1.1,by show cm _≤32;omega⟩,⟨h2.1,by show cm _≤32;omega⟩⟩
set_option maxRecDepth 10000 in
set_option maxHeartbeats 1000000 in
theorem Cv {L:List Int}{B:List Bool}(h:du L B) (r:Nat × Bool) (e:Int × Int) (he:bB e) :
 bq Tryz.prog 67 [.one (.ptr 0 0),.one (cq e)] (RH L B r.1 r.2) (.one (cq (oC B e r).1)) (RH L B (oC B e r).2.1 (oC B e r).2.2):=by
 have b1:=he.1.1
 have b2:=he.1.2
 have b3:=he.2.1
 have b4:=he.2.2
 have r1:=sK B r
 have r2:=sK B (cV B r).2
 have u1 : -4100≤vz B r∧vz B r≤4100:=oA r1
 have u2 : -4100≤vA B r∧vA B r≤4100:=oA r2
 have hV:=uE B e r
 unfold oC
 refine cO Tryz.func67 ?_
 repeat' (first
  |(refine qz ?_;first
   |refine cl ?_ (hi:=by exact qM h r rfl rfl (by decide) nL rfl)
   |refine cl (v := .one (.int .i64 (vz B r))) ?_ (hi:=by exact qP (n:=(cV B r).1) (by omega) rfl)
   |refine cl ?_ (hi:=by exact qM h (cV B r).2 rfl rfl (by decide) nL rfl)
   |refine cl (v := .one (.int .i64 (vA B r))) ?_ (hi:=by exact qP (n:=(cV B (cV B r).2).1) (by omega) rfl)
   |refine cl ?_ (hi:=by exact ik he rfl)
   |refine cl ?_ (hi:=by exact AT (by omega) rfl)
   |refine cl (v := .one (cq (Cw B e r))) ?_ (hi:=by exact uf rfl)
   |refine rP (fun ge=>?_) (fun ge=>?_) (hi:=by exact lp (p:=(vy B r).1) (e:=(vy B r).2) rfl rfl (by decide) rfl)
   |refine rP (fun gr=>?_) (fun gr=>?_) (hi:=by exact d9 hV rfl)
   |refine cl ?_ (hi:=by exact lr (p:=(vy B r).1) (e:=(vy B r).2) rfl rfl (by decide) nL rfl))
  |refine zG ?_|refine zA ?_|refine cX (fun _=>?_) (fun _=>?_)|refine aS (fun _=>?_) (fun _=>?_)|refine bL (by first|exact ai.nil|exact ai.one _|exact ai.nN (by repeat' (first|exact True.intro|refine And.intro ?_ ?_|exact Compat.ne rfl|exact mB|exact qB|exact tX (fun r=>(.one (.int .i64 (cV B r).1),(cV B r).2)) (r:=(cV B r).2) (r':=r) rfl rfl rfl rfl))) ⟨by kernel_rfl,?_⟩|refine bL (by first|exact ai.nil|exact ai.one _|exact ai.nN (by repeat' (first|exact True.intro|refine And.intro ?_ ?_|exact Compat.ne rfl|exact mB|exact qB|exact tX (fun r=>(.one (.int .i64 (cV B r).1),(cV B r).2)) (r:=(cV B r).2) (r':=r) rfl rfl rfl rfl))) ?_|refine zF ?_|fail)
 · rw [if_pos (show jl B e r from .inl ge)]
   show aF _ _ _ _ _ _ _ _;refine kV [0,1] ?_
   exact congrArg XV.one dC.symm
 · rename_i g1
   rw [if_pos (show jl B e r from .inr (.inl g1))]
   show aF _ _ _ _ _ _ _ _;refine kV [0,1] ?_
   exact congrArg XV.one dC.symm
 · rename_i g1
   rw [if_pos (show jl B e r from .inr (.inr (.inl g1)))]
   show aF _ _ _ _ _ _ _ _;refine kV [0,1] ?_
   exact congrArg XV.one dC.symm
 · rename_i g1
   rw [if_pos (show jl B e r from .inr (.inr (.inr (.inl g1))))]
   show aF _ _ _ _ _ _ _ _;refine kV [0,1] ?_
   exact congrArg XV.one dC.symm
 · rename_i g1
   rw [if_pos (show jl B e r from .inr (.inr (.inr (.inr (.inl g1)))))]
   show aF _ _ _ _ _ _ _ _;refine kV [0,1] ?_
   exact congrArg XV.one dC.symm
 · have hn:¬jl B e r:=by
    rintro (g|g|g|g|g|g)
    · rw [ge]at g;cases g
    · omega
    · omega
    · omega
    · omega
    · rw [gr]at g;cases g
   rw [if_neg hn]
   show aF _ _ _ _ _ _ _ _;refine kV [0,1] ?_
   rfl
 · rw [if_pos (show jl B e r from .inr (.inr (.inr (.inr (.inr gr)))))]
   show aF _ _ _ _ _ _ _ _;refine kV [0,1] ?_
   exact congrArg XV.one dC.symm
theorem lE (B:List Bool) (e:Int × Int) (r:Nat × Bool):bB (oC B e r).1:=by
 unfold oC
 split
 · show bB (0,0)
   exact⟨⟨by decide,by decide⟩,⟨by decide,by decide⟩⟩
 · exact uE B e r
theorem FC {L:List Int}{B:List Bool}(h:du L B) (r:Nat × Bool) {e:Int × Int}(he:bB e) {HS:aq}{i k:Nat}(hi:HS[i]? = some (bD k L B r.1 r.2)) (hk:HS[k]? = some (aO L)) (hd:i≠k) {HS':aq}(hh:HS.set i (bD k L B (oC B e r).2.1 (oC B e r).2.2)=HS') (hbd:Nat.blt HS'.length Mem.bound=true) :
 aG.Sound Tryz.prog ⟨67,[.one (.ptr i 0),.one (cq e)],HS,.one (cq (oC B e r).1),HS',[i]⟩:=
 xj (fun _ => .flat .nil) (.flat .nil) (Cv h r e he) hi hk hd hh hbd
theorem sZ {p x:Int}(hp:fc p) (hx : -31≤x∧x≤31):cm (p+cm (x-p))=x:=by
 unfold fc at hp
 unfold cm
 omega
theorem fW (v e:Int × Int):(cG v e).length≤54:=by
 unfold cG
 have hx:=fX (v.1-e.1)
 have hy:=fX (v.2-e.2)
 have h1:=iR (bd (cm (v.1-e.1))) (by have:=fT ⟨hx.1,by omega⟩;omega)
 have h2:=iR (bd (cm (v.2-e.2))) (by have:=fT ⟨hy.1,by omega⟩;omega)
 rw [List.length_append];omega
theorem Fl (v e:Int × Int) (he:bB e) (hr:dO v=true) (pre rest:List Bool):oC (pre++(cG v e++rest)) e (pre.length,false)=(v,(pre.length+(cG v e).length,false)):=by
 have hr' : -31≤v.1∧v.1≤31 ∧ -31≤v.2∧v.2≤31:=of_decide_eq_true hr
 have hx:=fX (v.1-e.1)
 have hy:=fX (v.2-e.2)
 have s1:=fT (x:=cm (v.1-e.1)) ⟨hx.1,by omega⟩
 have s2:=fT (x:=cm (v.2-e.2)) ⟨hy.1,by omega⟩
 have e1:=uw (bd (cm (v.1-e.1))) (by omega) pre (cy (bd (cm (v.2-e.2)))++rest)
 have e2:=uw (bd (cm (v.2-e.2))) (by omega) (pre++cy (bd (cm (v.1-e.1)))) rest
 rw [List.append_assoc]at e2
 rw [List.length_append]at e2
 have eB:pre++(cG v e++rest)=pre++(cy (bd (cm (v.1-e.1)))++(cy (bd (cm (v.2-e.2)))++rest)):=by rw [cG,List.append_assoc]
 rw [eB]
 have kX:vz (pre++(cy (bd (cm (v.1-e.1)))++(cy (bd (cm (v.2-e.2)))++rest))) (pre.length,false)=cm (v.1-e.1):=by rw [vz,e1,qO]
 have kY:vA (pre++(cy (bd (cm (v.1-e.1)))++(cy (bd (cm (v.2-e.2)))++rest))) (pre.length,false)=cm (v.2-e.2):=by rw [vA,e1,e2,qO]
 have kR:vy (pre++(cy (bd (cm (v.1-e.1)))++(cy (bd (cm (v.2-e.2)))++rest))) (pre.length,false)=(pre.length+(cG v e).length,false):=by
  rw [vy,e1,e2,cG,List.length_append,Nat.add_assoc]
 have kV:Cw (pre++(cy (bd (cm (v.1-e.1)))++(cy (bd (cm (v.2-e.2)))++rest))) e (pre.length,false)=v:=by
  rw [Cw,kX,kY,sZ he.1 ⟨hr'.1,hr'.2.1⟩,sZ he.2 hr'.2.2]
 unfold oC
 have hn:¬jl (pre++(cy (bd (cm (v.1-e.1)))++(cy (bd (cm (v.2-e.2)))++rest))) e (pre.length,false):=by
  unfold jl
  rw [kX,kY,kR,kV,hr]
  rintro (g|g|g|g|g|g)
  · cases g
  · omega
  · omega
  · omega
  · omega
  · cases g
 rw [if_neg hn,kV,kR]
end Go.Proofs.YtagpkhindehcbaaGreat
