/-
  A part of the proof: Escape, EscapeT, PartOpen, OpenLaw, VecIO.
-/
import Derived.Test.YtnkodcmkpfefhaaGreatEeM
set_option maxRecDepth 10000
set_option maxHeartbeats 8000000
set_option linter.unusedVariables false
set_option linter.unusedSectionVars false
set_option linter.unusedSimpArgs false
namespace Go.Proofs.YtnkodcmkpfefhaaGreat
open Go.Xm
variable [aw]
def D2(st:List Int×Int)(b:Int):List Int×Int:=
 if 2<=st.2/\b<=3 then(st.1++[3]++[b],if b=0 then 0+1 else 0)else(st.1++[b],if b=0 then st.2+1 else 0)
def gr(l:List Int):Nat->List Int×Int
 | 0=>([],0)
 | j+1=>D2 (gr l j) (l.getD j 0)
theorem rk(l:List Int):∀j,(gr l j).1.length<=2*j/\0<=(gr l j).2/\(gr l j).2<=j
 | 0=>⟨Nat.le_refl _,by show(0:Int)<=0;omega,by show(0:Int)<=0;omega⟩
 | j + 1=>by
   obtain⟨h1,h2,h3⟩:=rk l j
   unfold gr D2
   split
   ·refine⟨by simp;omega,?_⟩
    simp only[]
    split<;>omega
   ·refine⟨by simp;omega,?_⟩
    simp only[]
    split<;>omega
theorem yu{l:List Int}(hl:jz l)(hn:l.length<=100000) :
 aW Tryz.prog 84 [kA 0 l.length 1] [dG 5 (il .u8 l)] (kA 1 (gr l l.length).1.length 1) [dG 5 (il .u8 l),dG 5 (il .u8 (gr l l.length).1)]:=by
 refine cO Tryz.func84 ?_
 repeat' (first|refine zz ?_|refine zx (fun _=>?_) (fun _=>?_)|fail)
 refine WX.c6 rfl ?_
 refine WX.bZ (σ:=Nat) (fun j=>[(7,kA 0 l.length 1),(8,.one (.int .i64 (l.length:Nat))),(9,.one (.int .i64 (j:Nat))),(3,kA 1 (gr l j).1.length 1),(4,.one (.int .i64 (gr l j).2))]) (fun j=>[dG 5 (il .u8 l),dG 5 (il .u8 (gr l j).1)]) (fun j=>j<=l.length) (fun j=>l.length-j) 0 (Nat.zero_le _) (fun s _=>hX) (b_ [0,1]) ?_
 intro j hj ih
 have hr:=rk l j
 by_cases hlt:j<l.length
 ·have hb:=hl j
  have e0:gr l (j+1)=D2 (gr l j) (l.getD j 0):=rfl
  unfold D2 at e0
  repeat' (first
   |(refine qz ?_;first
    |refine M8 ?_ (hn:=by simp))
   |refine zz ?_|refine zx (fun _=>?_) (fun _=>?_)|fail)
  ·rename_i g1 g2 g3
   rw[if_pos ⟨g1,g2⟩,if_pos g3]at e0
   refine ih (j+1) _ _ _ (b_ [0,5] (obj:=by(repeat' (first|exact ae.nil|refine ae.flat (by rw[e0];rfl) ?_|refine ae.flat rfl ?_|refine ae.cons rfl ?_|refine ae.dead rfl ?_|refine ae.cons (by simp only[ah.ax,List.map_cons,List.map_nil,XC.ax,aB];exact rfl) ?_));first|done|fail) (reg:=by(repeat' (first|exact ak.nil|refine ak.gL rfl rfl (by rw[e0];simp) ?_|refine ak.flat (by rw[e0];rfl) ?_|refine ak.flat rfl ?_|refine ak.cons rfl ?_|refine ak.sl rfl (by assumption) rfl ?_|refine ak.gL rfl rfl (by first|rfl|omega|(simp;done)|(simp;omega)) ?_));first|done|fail)) (by show j+1<=_;omega) (by show _-(j+1)<_-j;omega)
  ·rename_i g1 g2 g3
   rw[if_pos ⟨g1,g2⟩,if_neg g3]at e0
   refine ih (j+1) _ _ _ (b_ [0,5] (obj:=by(repeat' (first|exact ae.nil|refine ae.flat (by rw[e0];rfl) ?_|refine ae.flat rfl ?_|refine ae.cons rfl ?_|refine ae.dead rfl ?_|refine ae.cons (by simp only[ah.ax,List.map_cons,List.map_nil,XC.ax,aB];exact rfl) ?_));first|done|fail) (reg:=by(repeat' (first|exact ak.nil|refine ak.gL rfl rfl (by rw[e0];simp) ?_|refine ak.flat (by rw[e0];rfl) ?_|refine ak.flat rfl ?_|refine ak.cons rfl ?_|refine ak.sl rfl (by assumption) rfl ?_|refine ak.gL rfl rfl (by first|rfl|omega|(simp;done)|(simp;omega)) ?_));first|done|fail)) (by show j+1<=_;omega) (by show _-(j+1)<_-j;omega)
  ·rename_i g1 g2
   rw[if_neg (fun h=>g2 h.2),if_neg (by omega)]at e0
   refine ih (j+1) _ _ _ (b_ [0,3] (obj:=by(repeat' (first|exact ae.nil|refine ae.flat (by rw[e0];rfl) ?_|refine ae.flat rfl ?_|refine ae.cons rfl ?_|refine ae.dead rfl ?_|refine ae.cons (by simp only[ah.ax,List.map_cons,List.map_nil,XC.ax,aB];exact rfl) ?_));first|done|fail) (reg:=by(repeat' (first|exact ak.nil|refine ak.gL rfl rfl (by rw[e0];simp) ?_|refine ak.flat (by rw[e0];rfl) ?_|refine ak.flat rfl ?_|refine ak.cons rfl ?_|refine ak.sl rfl (by assumption) rfl ?_|refine ak.gL rfl rfl (by first|rfl|omega|(simp;done)|(simp;omega)) ?_));first|done|fail)) (by show j+1<=_;omega) (by show _-(j+1)<_-j;omega)
  ·rename_i g1 g2
   rw[if_neg (fun h=>g1 h.1),if_pos g2]at e0
   refine ih (j+1) _ _ _ (b_ [0,3] (obj:=by(repeat' (first|exact ae.nil|refine ae.flat (by rw[e0];rfl) ?_|refine ae.flat rfl ?_|refine ae.cons rfl ?_|refine ae.dead rfl ?_|refine ae.cons (by simp only[ah.ax,List.map_cons,List.map_nil,XC.ax,aB];exact rfl) ?_));first|done|fail) (reg:=by(repeat' (first|exact ak.nil|refine ak.gL rfl rfl (by rw[e0];simp) ?_|refine ak.flat (by rw[e0];rfl) ?_|refine ak.flat rfl ?_|refine ak.cons rfl ?_|refine ak.sl rfl (by assumption) rfl ?_|refine ak.gL rfl rfl (by first|rfl|omega|(simp;done)|(simp;omega)) ?_));first|done|fail)) (by show j+1<=_;omega) (by show _-(j+1)<_-j;omega)
  ·rename_i g1 g2
   rw[if_neg (fun h=>g1 h.1),if_neg g2]at e0
   refine ih (j+1) _ _ _ (b_ [0,3] (obj:=by(repeat' (first|exact ae.nil|refine ae.flat (by rw[e0];rfl) ?_|refine ae.flat rfl ?_|refine ae.cons rfl ?_|refine ae.dead rfl ?_|refine ae.cons (by simp only[ah.ax,List.map_cons,List.map_nil,XC.ax,aB];exact rfl) ?_));first|done|fail) (reg:=by(repeat' (first|exact ak.nil|refine ak.gL rfl rfl (by rw[e0];simp) ?_|refine ak.flat (by rw[e0];rfl) ?_|refine ak.flat rfl ?_|refine ak.cons rfl ?_|refine ak.sl rfl (by assumption) rfl ?_|refine ak.gL rfl rfl (by first|rfl|omega|(simp;done)|(simp;omega)) ?_));first|done|fail)) (by show j+1<=_;omega) (by show _-(j+1)<_-j;omega)
 ·obtain rfl:j=l.length:=by omega
  repeat' (first|refine zz ?_|refine zx (fun _=>?_) (fun _=>?_)|fail)
  show aD _ _ _ _ _ _ _ _;refine kV [0,1] ?_
  rw[ic];rfl
def I4(l:List Int):Nat->List Int->Int->Nat->Option (List Int)
 | 0,out,_,_=>some out
 | k+1,out,z,i=>
   if z=2/\l.getD i 0<3 then none
   else if z=2/\l.getD i 0=3 then(if i+1=l.length\/3<l.getD (i+1) 0 then none else I4 l k out 0 (i+1))
   else I4 l k (out++[l.getD i 0]) (if l.getD i 0=0 then z+1 else 0) (i+1)
theorem JC(e e' e2:TypeId)(cs ds fs:List XC):eV [dG e cs] [dG e' ds,dG e2 fs]=true:=by
 cases cs<;>cases ds<;>cases fs<;>simp[eV,ah.live,ah.own,dG]
theorem Bv{l:List Int}(hl:jz l)(hn:l.length<=100000){n:Nat}(hln:l.length=n){HS:ai}{i:Nat}(hi:HS[i]? = some (dG 5 (il .u8 l))){N:Nat}(hN:HS.length=N){HS':ai}(hh:HS++[dG 5 (il .u8 (gr l l.length).1)]=HS')(hb:Nat.blt HS'.length Mem.bound=true) :
 aC.Sound Tryz.prog ⟨84,[kA i n 1],HS,kA N (gr l l.length).1.length 1,HS',[i]⟩:=by
 subst hln hN
 exact ca [i] [i] 1 (yu hl hn) (by simp) (.flat hi .nil) (.flat .nil) (.flat (.flat .nil)) rfl (.cons (ma (Nat.le_of_ble_eq_true rfl)) .nil) (.cons (ic ..) .nil) (ma (Nat.le_of_ble_eq_true rfl)) (ic ..) (.flat (.flat .nil)) (JC ..) rfl (by simp only[bQ];rw[aV hi];exact hh) hb (.inl rfl)
theorem J9:∀(x:Fin 256) (r:Fin 8),(x.val:Int)/2^(7-r.val)%2=1->(∀j:Fin 8,r<j->¬(x.val:Int)/2^(7-j.val)%2=1)->tz 8 (x.val:Int)=7-r.val/\x.val≠0:=by
 decide +kernel
theorem L7(bs:List Bool):uS (wr (bs++[true]))=(bs.length,true):=by
 have hlen:=fz (bs++[true])
 simp only[List.length_append,List.length_cons,List.length_nil]at hlen
 have hi:(wr (bs++[true])).length-1=bs.length/8:=by omega
 have hb:=mM (bs++[true]) (bs.length/8)
 obtain⟨x,hx⟩:∃x:Fin 256,(wr (bs++[true])).getD (bs.length/8) 0=(x.val:Int):=⟨⟨((wr (bs++[true])).getD (bs.length/8) 0).toNat,by omega⟩,by simp only[];omega⟩
 have bit:∀j:Fin 8,decide ((x.val:Int)/2^(7-j.val)%2=1)=(bs++[true]).getD (8*(bs.length/8)+j.val) false:=by
  intro j
  have:=Ke (bs++[true]) (8*(bs.length/8)+j.val)
  unfold ka at this
  rw[show(8*(bs.length/8)+j.val)/8=bs.length/8 by omega,show(8*(bs.length/8)+j.val)%8=j.val by omega,hx]at this
  exact this
 have h1:=J9 x ⟨bs.length%8,Nat.mod_lt _ (by omega)⟩ (by
  have:=bit ⟨bs.length%8,Nat.mod_lt _ (by omega)⟩
  simp only at this
  rw[show 8*(bs.length/8)+bs.length%8=bs.length by omega]at this
  simpa using this) (fun j hj=>by
  have:=bit j
  have hj':bs.length%8<j.val:=hj
  rw[List.getD_eq_getElem?_getD,List.getElem?_eq_none (by simp;omega)]at this
  simpa using this)
 unfold uS
 rw[hi,hx,if_neg (by have:=h1.2;omega),h1.1]
 simp only[Prod.mk.injEq,and_true]
 rw[hlen]
 omega
def ur:Int->List Int->List Int
 | _,[]=>[]
 | z,b::t=>if 2<=z/\b<=3 then 3::b::ur (if b=0 then 0+1 else 0) t else b::ur (if b=0 then z+1 else 0) t
theorem D3(l:List Int):∀j,j<=l.length->(gr l j).1++ur (gr l j).2 (l.drop j)=ur 0 l
 | 0,_=>rfl
 | j + 1,h=>by
   rw[<-D3 l j (by omega)]
   have hd:l.drop j=l.getD j 0::l.drop (j+1):=by
    rw[List.drop_eq_getElem_cons (by omega),List.getD_eq_getElem?_getD,List.getElem?_eq_getElem (by omega)];rfl
   rw[hd,gr,D2]
   conv=>rhs;rw[ur]
   split
   ·simp
   ·simp
theorem D4(l:List Int):(gr l l.length).1=ur 0 l:=by
 have:=D3 l l.length (Nat.le_refl _)
 rw[List.drop_length]at this
 simpa [ur]using this
theorem dI{f f':FuncId}{a a':List XV}{HS HS' K K':ai}{v v':XV}{w w':List Nat}(h:Nat.beq HS.length HS'.length=false):Compat ⟨f,a,HS,v,K,w⟩ ⟨f',a',HS',v',K',w'⟩:=fun _ _ e=>by
 have e':HS.length=HS'.length:=congrArg List.length e
 rw[e']at h
 simp at h
theorem Cq{p:Int×Int}(h:bH p)(hr:iL p=true){HS:ai}(hb:Nat.blt HS.length Mem.bound=true):aC.Sound Tryz.prog ⟨118,[.one (cI p)],HS,.one (.bool true),HS,[]⟩:=by
 have:=dT h hb
 rw[hr]at this
 exact this
theorem iC{x:Int}(h : -32<=x/\x<=32):0<=bT x/\bT x<=64:=by unfold bT;split<;>omega
def dt(v e:Int×Int):List Bool:=dU (bT (gI (v.1-e.1)))++dU (bT (gI (v.2-e.2)))
theorem hJ(v:Int)(h:0<=v/\v<=8190):(dU v).length<=27:=by
 unfold dU
 split
 ·decide
 ·simp only[List.length_cons,tI]
  have:=o5 (n:=(v+1).toNat) (k:=13) (by omega)
  omega
theorem F2(bs:List Bool)(v e:Int×Int)(hv:bH v)(he:bH e)(hr:iL v=true)(hb:bs.length<=800000) :
 aW Tryz.prog 111 [.one (.ptr 0 0),.one (cI v),.one (cI e)] (WH bs) (.one (.bool true)) (Ip (bs++dt v e)):=by
 have hx:=lA (v.1-e.1)
 have hy:=lA (v.2-e.2)
 have a1:=hv.1.1
 have a2:=hv.1.2
 have a3:=hv.2.1
 have a4:=hv.2.2
 have b1:=he.1.1
 have b2:=he.1.2
 have b3:=he.2.1
 have b4:=he.2.2
 have hl:=hJ (bT (gI (v.1-e.1))) (by have:=iC ⟨hx.1,by omega⟩;omega)
 have e0:bs++dt v e=(bs++dU (bT (gI (v.1-e.1))))++dU (bT (gI (v.2-e.2))):=by rw[dt,List.append_assoc]
 rw[e0]
 refine cO Tryz.func111 ?_
 repeat' (first
  |(refine qz ?_;first
   |refine cl ?_ (hi:=by exact Cq hv hr rfl)
   |refine cl ?_ (hi:=by exact fJ hv rfl)
   |refine cl ?_ (hi:=by exact fJ he rfl)
   |refine cl ?_ (hi:=by exact H9 (by omega) rfl)
   |refine cl ?_ (hi:=by exact pt (by omega) rfl)
   |refine cl ?_ (hi:=by exact hU (v:=bT (gI (v.1-e.1))) (bs:=bs) (by have:=iC ⟨hx.1,by omega⟩;omega) (by omega) rfl rfl (by decide) nL nA rfl)
   |refine cl ?_ (hi:=by exact hU (v:=bT (gI (v.2-e.2))) (bs:=bs++dU (bT (gI (v.1-e.1)))) (by have:=iC ⟨hy.1,by omega⟩;omega) (by rw[List.length_append];omega) rfl rfl (by decide) nL nA rfl))
  |refine zz ?_|refine zx (fun _=>?_) (fun _=>?_)|refine aS (by first|exact af.nil|exact af.one _|exact af.i3 (by repeat' (first|exact True.intro|refine And.intro ?_ ?_|exact Compat.ne rfl|exact dI rfl))) ⟨by kernel_rfl,?_⟩|refine aS (by first|exact af.nil|exact af.one _|exact af.i3 (by repeat' (first|exact True.intro|refine And.intro ?_ ?_|exact Compat.ne rfl|exact dI rfl))) ?_|fail)
 show aD _ _ _ _ _ _ _ _;refine kV [0,1,3] ?_
 rfl
theorem ig{bs:List Bool}{v e:Int×Int}(hv:bH v)(he:bH e)(hr:iL v=true)(hb:bs.length<=800000){HS:ai}{i k:Nat}(hi:HS[i]? = some (aK k bs))(hk:HS[k]? = some (aq bs))(hd:i≠k){N:Nat}(hN:HS.length=N){HS':ai}(hh:bQ HS [i,k] [aK N (bs++dt v e),.dead,aq (bs++dt v e)]=HS')(hbd:Nat.blt HS'.length Mem.bound=true) :
 aC.Sound Tryz.prog ⟨111,[.one (.ptr i 0),.one (cI v),.one (cI e)],HS,.one (.bool true),HS',[i,k]⟩:=
 H7 (fun τ => .flat (.flat .nil)) (.flat (.flat .nil)) (F2 bs v e hv he hr hb) hi hk hd hN hh hbd
def Kc(B:List Bool)(r:Nat×Bool):Int:=tP (r7 B r).1
def Kd(B:List Bool)(r:Nat×Bool):Int:=tP (r7 B (r7 B r).2).1
def LL(B:List Bool)(e:Int×Int)(r:Nat×Bool):Int×Int:=(gI (e.1+Kc B r),gI (e.2+Kd B r))
def Kb(B:List Bool)(r:Nat×Bool):Nat×Bool:=(r7 B (r7 B r).2).2
def zk(B:List Bool)(e:Int×Int)(r:Nat×Bool):Prop:=(Kb B r).2=true\/Kc B r < -32\/31<Kc B r\/Kd B r < -32\/31<Kd B r\/iL (LL B e r)=false
instance (B:List Bool) (e:Int×Int) (r:Nat×Bool):Decidable (zk B e r):=by unfold zk;infer_instance
def LK(B:List Bool)(e:Int×Int)(r:Nat×Bool):(Int×Int)×(Nat×Bool):=if zk B e r then((0,0),((Kb B r).1,true))else(LL B e r,Kb B r)
theorem e9(v e:Int×Int):(dt v e).length<=54:=by
 unfold dt
 have hx:=lA (v.1-e.1)
 have hy:=lA (v.2-e.2)
 have h1:=hJ (bT (gI (v.1-e.1))) (by have:=iC ⟨hx.1,by omega⟩;omega)
 have h2:=hJ (bT (gI (v.2-e.2))) (by have:=iC ⟨hy.1,by omega⟩;omega)
 rw[List.length_append];omega
end Go.Proofs.YtnkodcmkpfefhaaGreat
