/-
  A part of the proof: Escape, EscapeT, PartOpen, OpenLaw, RvlcLaw, VecIO.
-/
import Derived.Test.YthdciapjllppjaaGreatWbF
import Derived.Test.YthdciapjllppjaaGreatWbM
set_option maxRecDepth 10000
set_option maxHeartbeats 8000000
set_option linter.unusedVariables false
set_option linter.unusedSectionVars false
set_option linter.unusedSimpArgs false
open Go.Proofs.Tryz (prog)
namespace Go.Proofs.YthdciapjllppjaaGreat
open Go.Xm
variable [aq]
def HV(st:List Int×Int)(b:Int):List Int×Int:=
 if 2<=st.2/\b<=3 then(st.1++[3]++[b],if b=0 then 0+1 else 0)else(st.1++[b],if b=0 then st.2+1 else 0)
def fy(l:List Int):Nat->List Int×Int
 | 0=>([],0)
 | j+1=>HV (fy l j) (l.getD j 0)
theorem ub(l:List Int):∀j,(fy l j).1.length<=2*j/\0<=(fy l j).2/\(fy l j).2<=j
 | 0=>⟨Nat.le_refl _,by show(0:Int)<=0;omega,by show(0:Int)<=0;omega⟩
 | j + 1=>by
   obtain⟨h1,h2,h3⟩:=ub l j;unfold fy HV;split
   ·refine⟨by simp;omega,?_⟩;simp only[];split<;>omega
   ·refine⟨by simp;omega,?_⟩;simp only[];split<;>omega
theorem B9{l:List Int}(hl:bj l)(hn:l.length<=100000) :
 bt prog 51 [gJ 0 l.length 1] [bU 5 (il .u8 l)] (gJ 1 (fy l l.length).1.length 1) [bU 5 (il .u8 l),bU 5 (il .u8 (fy l l.length).1)]:=by
 refine cO Tryz.func51 ?_
 repeat' (first|refine zz ?_|refine zx (fun _=>?_) (fun _=>?_)|fail)
 refine WX.cc rfl ?_;refine WX.cw (σ:=Nat) (fun j=>[(7,gJ 0 l.length 1),(8,.one (.int .i64 (l.length:Nat))),(9,.one (.int .i64 (j:Nat))),(3,gJ 1 (fy l j).1.length 1),(4,.one (.int .i64 (fy l j).2))]) (fun j=>[bU 5 (il .u8 l),bU 5 (il .u8 (fy l j).1)]) (fun j=>j<=l.length) (fun j=>l.length-j) 0 (Nat.zero_le _) (fun s _=>ny) (bW [0,1]) ?_;intro j hj ih;have hr:=ub l j
 by_cases hlt:j<l.length
 ·have hb:=hl j;have e0:fy l (j+1)=HV (fy l j) (l.getD j 0):=rfl;unfold HV at e0
  repeat' (first
   |(refine qz ?_;first
    |refine Qe ?_ (hn:=by simp))
   |refine zz ?_|refine zx (fun _=>?_) (fun _=>?_)|fail)
  ·rename_i g1 g2 g3;rw[if_pos ⟨g1,g2⟩,if_pos g3]at e0;refine ih (j+1) _ _ _ (bW [0,5] (obj:=by(repeat' (first|exact ae.nil|refine ae.flat (by rw[e0];rfl) ?_|refine oz ?_));first|done|fail) (reg:=by(repeat' (first|exact ai.nil|refine ai.lO rfl rfl (by rw[e0];simp) ?_|refine ai.flat (by rw[e0];rfl) ?_|refine rz ?_|refine ai.sl rfl (by assumption) rfl ?_));first|done|fail)) (by show j+1<=_;omega) (by show _-(j+1)<_-j;omega)
  ·rename_i g1 g2 g3;rw[if_pos ⟨g1,g2⟩,if_neg g3]at e0;refine ih (j+1) _ _ _ (bW [0,5] (obj:=by(repeat' (first|exact ae.nil|refine ae.flat (by rw[e0];rfl) ?_|refine oz ?_));first|done|fail) (reg:=by(repeat' (first|exact ai.nil|refine ai.lO rfl rfl (by rw[e0];simp) ?_|refine ai.flat (by rw[e0];rfl) ?_|refine rz ?_|refine ai.sl rfl (by assumption) rfl ?_));first|done|fail)) (by show j+1<=_;omega) (by show _-(j+1)<_-j;omega)
  ·rename_i g1 g2;rw[if_neg (fun h=>g2 h.2),if_neg (by omega)]at e0;refine ih (j+1) _ _ _ (bW [0,3] (obj:=by(repeat' (first|exact ae.nil|refine ae.flat (by rw[e0];rfl) ?_|refine oz ?_));first|done|fail) (reg:=by(repeat' (first|exact ai.nil|refine ai.lO rfl rfl (by rw[e0];simp) ?_|refine ai.flat (by rw[e0];rfl) ?_|refine rz ?_|refine ai.sl rfl (by assumption) rfl ?_));first|done|fail)) (by show j+1<=_;omega) (by show _-(j+1)<_-j;omega)
  ·rename_i g1 g2;rw[if_neg (fun h=>g1 h.1),if_pos g2]at e0;refine ih (j+1) _ _ _ (bW [0,3] (obj:=by(repeat' (first|exact ae.nil|refine ae.flat (by rw[e0];rfl) ?_|refine oz ?_));first|done|fail) (reg:=by(repeat' (first|exact ai.nil|refine ai.lO rfl rfl (by rw[e0];simp) ?_|refine ai.flat (by rw[e0];rfl) ?_|refine rz ?_|refine ai.sl rfl (by assumption) rfl ?_));first|done|fail)) (by show j+1<=_;omega) (by show _-(j+1)<_-j;omega)
  ·rename_i g1 g2;rw[if_neg (fun h=>g1 h.1),if_neg g2]at e0;refine ih (j+1) _ _ _ (bW [0,3] (obj:=by(repeat' (first|exact ae.nil|refine ae.flat (by rw[e0];rfl) ?_|refine oz ?_));first|done|fail) (reg:=by(repeat' (first|exact ai.nil|refine ai.lO rfl rfl (by rw[e0];simp) ?_|refine ai.flat (by rw[e0];rfl) ?_|refine rz ?_|refine ai.sl rfl (by assumption) rfl ?_));first|done|fail)) (by show j+1<=_;omega) (by show _-(j+1)<_-j;omega)
 ·obtain rfl:j=l.length:=by omega
  repeat' (first|refine zz ?_|refine zx (fun _=>?_) (fun _=>?_)|fail)
  show aE _ _ _ _ _ _ _ _;refine kV [0,1] ?_;rw[fV];rfl
def nU(l:List Int):Nat->List Int->Int->Nat->Option (List Int)
 | 0,out,_,_=>some out
 | k+1,out,z,i=>
   if z=2/\l.getD i 0<3 then none
   else if z=2/\l.getD i 0=3 then(if i+1=l.length\/3<l.getD (i+1) 0 then none else nU l k out 0 (i+1))
   else nU l k (out++[l.getD i 0]) (if l.getD i 0=0 then z+1 else 0) (i+1)
theorem O4(e e' e2:TypeId)(cs ds fs:List XC):gN [bU e cs] [bU e' ds,bU e2 fs]=true:=by
 cases cs<;>cases ds<;>cases fs<;>simp[gN,ak.live,ak.own,bU]
theorem Fi{l:List Int}(hl:bj l)(hn:l.length<=100000){n:Nat}(hln:l.length=n){HS:aj}{i:Nat}(hi:HS[i]? = some (bU 5 (il .u8 l))){N:Nat}(hN:HS.length=N){HS':aj}(hh:HS++[bU 5 (il .u8 (fy l l.length).1)]=HS')(hb:Nat.blt HS'.length Mem.bound=true) :
 aA.Sound prog ⟨51,[gJ i n 1],HS,gJ N (fy l l.length).1.length 1,HS',[i]⟩:=by
 subst hln hN;exact bI [i] [i] 1 (B9 hl hn) (by simp) (.flat hi .nil) (.flat .nil) (.flat (.flat .nil)) rfl (.cons (jL (Nat.le_of_ble_eq_true rfl)) .nil) (.cons (fV ..) .nil) (jL (Nat.le_of_ble_eq_true rfl)) (fV ..) (.flat (.flat .nil)) (O4 ..) rfl (by simp only[bJ];rw[aG hi];exact hh) hb (.inl rfl)
theorem ud{l:List Int}:∀(k:Nat) (out:List Int) (z:Int) (i:Nat) (q:List Int),nU l k out z i=some q->q.length<=out.length+k
 | 0,out,z,i,q,h=>by
   simp only[nU,Option.some.injEq]at h;subst h;omega
 | k + 1,out,z,i,q,h=>by
   unfold nU at h;split at h
   ·cases h
   ·split at h
    ·split at h
     ·cases h
     ·have:=ud k _ _ _ q h;omega
    ·have:=ud k _ _ _ q h;simp at this;omega
theorem PI:∀(x:Fin 256) (r:Fin 8),(x.val:Int)/2^(7-r.val)%2=1->(∀j:Fin 8,r<j->¬(x.val:Int)/2^(7-j.val)%2=1)->tz 8 (x.val:Int)=7-r.val/\x.val≠0:=by
 decide +kernel
theorem Mw(bs:List Bool):fk (wr (bs++[true]))=(bs.length,true):=by
 have hlen:=cN (bs++[true]);simp only[List.length_append,List.length_cons,List.length_nil]at hlen;have hi:(wr (bs++[true])).length-1=bs.length/8:=by omega
 have hb:=iL (bs++[true]) (bs.length/8)
 obtain⟨x,hx⟩:∃x:Fin 256,(wr (bs++[true])).getD (bs.length/8) 0=(x.val:Int):=⟨⟨((wr (bs++[true])).getD (bs.length/8) 0).toNat,by omega⟩,by simp only[];omega⟩
 have bit:∀j:Fin 8,decide ((x.val:Int)/2^(7-j.val)%2=1)=(bs++[true]).getD (8*(bs.length/8)+j.val) false:=by
  intro j;have:=C7 (bs++[true]) (8*(bs.length/8)+j.val);unfold ll at this;rw[show(8*(bs.length/8)+j.val)/8=bs.length/8 by omega,show(8*(bs.length/8)+j.val)%8=j.val by omega,hx]at this;exact this
 have h1:=PI x ⟨bs.length%8,Nat.mod_lt _ (by omega)⟩ (by
  have:=bit ⟨bs.length%8,Nat.mod_lt _ (by omega)⟩;simp only at this;rw[show 8*(bs.length/8)+bs.length%8=bs.length by omega]at this
  simpa using this) (fun j hj=>by
  have:=bit j;have hj':bs.length%8<j.val:=hj;rw[List.getD_eq_getElem?_getD,List.getElem?_eq_none (by simp;omega)]at this
  simpa using this)
 unfold fk;rw[hi,hx,if_neg (by have:=h1.2;omega),h1.1];simp only[Prod.mk.injEq,and_true];rw[hlen];omega
theorem Lc(bs:List Bool)(hb:bs.length<=1000000):e_ (wr (bs++[true])) bs:=by
 have hlen:=cN (bs++[true]);simp only[List.length_append,List.length_cons,List.length_nil]at hlen;refine⟨by omega,iL _,fun j hj=>?_,by omega⟩;rw[C7,List.getD_eq_getElem?_getD,List.getElem?_append_left hj,<-List.getD_eq_getElem?_getD]
def lK:Int->List Int->List Int
 | _,[]=>[]
 | z,b::t=>if 2<=z/\b<=3 then 3::b::lK (if b=0 then 0+1 else 0) t else b::lK (if b=0 then z+1 else 0) t
theorem HW(l:List Int):∀j,j<=l.length->(fy l j).1++lK (fy l j).2 (l.drop j)=lK 0 l
 | 0,_=>rfl
 | j + 1,h=>by
   rw[<-HW l j (by omega)]
   have hd:l.drop j=l.getD j 0::l.drop (j+1):=by
    rw[List.drop_eq_getElem_cons (by omega),List.getD_eq_getElem?_getD,List.getElem?_eq_getElem (by omega)];rfl
   rw[hd,fy,HV]
   conv=>rhs;rw[lK]
   split
   ·simp
   ·simp
theorem nT(l:List Int):(fy l l.length).1=lK 0 l:=by
 have:=HW l l.length (Nat.le_refl _);rw[List.drop_length]at this;simpa [lK]using this
theorem B8(e:List Int):∀(l:List Int) (k:Nat) (out:List Int) (z:Int) (i:Nat),(∀b∈l,0<=b)->0<=z->z<=2->e.drop i=lK z l->k=(lK z l).length->nU e k out z i=some (out++l)
 | [],k,out,z,i,hb,h0,h2,hd,hk=>by
   simp[lK]at hk;subst hk;simp[nU]
 | b :: t,k,out,z,i,hb,h0,h2,hd,hk=>by
   have hb0:=hb b (List.mem_cons_self ..);have hbt:∀b∈t,0<=b:=fun x hx=>hb x (List.mem_cons_of_mem _ hx)
   have get:∀(i:Nat) (x:Int) (q:List Int),e.drop i=x::q->e.getD i 0=x/\e.drop (i+1)=q/\i<e.length:=fun i x q h=>by
    have hlt:i<e.length:=by
     refine Classical.byContradiction fun hn=>?_
     rw[List.drop_of_length_le (by omega)]at h;cases h
    rw[List.drop_eq_getElem_cons hlt]at h;simp only[List.cons.injEq]at h;refine⟨?_,h.2,hlt⟩;rw[List.getD_eq_getElem?_getD,List.getElem?_eq_getElem hlt];exact h.1
   unfold lK at hd hk
   by_cases hc:2<=z/\b<=3
   ·rw[if_pos hc]at hd hk;obtain⟨g1,g2,g3⟩:=get _ _ _ hd;obtain⟨g4,g5,g6⟩:=get _ _ _ g2;obtain rfl:z=2:=by omega
    simp only[List.length_cons]at hk
    obtain⟨k,rfl⟩:∃k',k=k'+2:=⟨k-2,by omega⟩
    rw[nU,g1,if_neg (by omega),if_pos ⟨rfl,rfl⟩,if_neg (by rw[g4];omega),nU,g4,if_neg (by omega),if_neg (by omega)];rw[B8 e t k _ _ _ hbt (by split<;>omega) (by split<;>omega) g5 (by omega)];simp
   ·rw[if_neg hc]at hd hk;obtain⟨g1,g2,g3⟩:=get _ _ _ hd;simp only[List.length_cons]at hk
    obtain⟨k,rfl⟩:∃k',k=k'+1:=⟨k-1,by omega⟩
    rw[nU,g1,if_neg (by omega),if_neg (by omega)];rw[B8 e t k _ _ _ hbt (by split<;>omega) (by split<;>omega) g2 (by omega)];simp
theorem HX{l:List Int}(hl:bj l):nU (fy l l.length).1 (fy l l.length).1.length [] 0 0=some l:=by
 rw[nT]
 have:=B8 (lK 0 l) l (lK 0 l).length [] 0 0 (fun b hb=>by
  obtain⟨j,hj,rfl⟩:=List.mem_iff_getElem.1 hb;have:=(hl j).1;rw[List.getD_eq_getElem?_getD,List.getElem?_eq_getElem hj]at this
  exact this) (by omega) (by omega) rfl rfl
 simpa using this
theorem O0(pre:List Bool)(b:Bool)(t:List Bool):fI (pre++b::t) (pre.length,false)=b/\ch (pre++b::t) (pre.length,false)=(pre.length+1,false):=by
 constructor
 ·unfold fI;rw[List.getD_eq_getElem?_getD,List.getElem?_append_right (Nat.le_refl _)];simp
 ·unfold ch;rw[if_neg (by simp),if_pos (by simp)]
theorem dE{f f':FuncId}{a a':List XV}{HS HS' K K':aj}{v v':XV}{w w':List Nat}(h:Nat.beq HS.length HS'.length=false):Compat ⟨f,a,HS,v,K,w⟩ ⟨f',a',HS',v',K',w'⟩:=fun _ _ e=>by
 have e':HS.length=HS'.length:=congrArg List.length e;rw[e']at h;simp at h
theorem Ga{p:Int×Int}(h:bM p)(hr:fj p=true){HS:aj}(hb:Nat.blt HS.length Mem.bound=true):aA.Sound prog ⟨111,[.one (c7 p)],HS,.one (.bool true),HS,[]⟩:=by
 have:=eS h hb;rw[hr]at this;exact this
theorem jA{x:Int}(h : -32<=x/\x<=32):0<=b7 x/\b7 x<=64:=by unfold b7;split<;>omega
def ia(v e:Int×Int):List Bool:=eT (b7 (iM (v.1-e.1)))++eT (b7 (iM (v.2-e.2)))
theorem i9(v:Int)(h:0<=v/\v<=8190):(eT v).length<=27:=by
 unfold eT;split
 ·decide
 ·simp only[List.length_cons,xA];have:=rG (n:=(v+1).toNat) (k:=13) (by omega);omega
theorem Ko(bs:List Bool)(v e:Int×Int)(hv:bM v)(he:bM e)(hr:fj v=true)(hb:bs.length<=800000) :
 bt prog 90 [.one (.ptr 0 0),.one (c7 v),.one (c7 e)] (WH bs) (.one (.bool true)) (K6 (bs++ia v e)):=by
 have hx:=m_ (v.1-e.1);have hy:=m_ (v.2-e.2);have a1:=hv.1.1;have a2:=hv.1.2;have a3:=hv.2.1;have a4:=hv.2.2;have b1:=he.1.1;have b2:=he.1.2;have b3:=he.2.1;have b4:=he.2.2;have hl:=i9 (b7 (iM (v.1-e.1))) (by have:=jA ⟨hx.1,by omega⟩;omega);have e0:bs++ia v e=(bs++eT (b7 (iM (v.1-e.1))))++eT (b7 (iM (v.2-e.2))):=by rw[ia,List.append_assoc]
 rw[e0];refine cO Tryz.func90 ?_
 repeat' (first
  |(refine qz ?_;first
   |refine cl ?_ (hi:=by exact Ga hv hr rfl)
   |refine cl ?_ (hi:=by exact jz hv rfl)
   |refine cl ?_ (hi:=by exact jz he rfl)
   |refine cl ?_ (hi:=by exact M1 (by omega) rfl)
   |refine cl ?_ (hi:=by exact r5 (by omega) rfl)
   |refine cl ?_ (hi:=by exact i_ (v:=b7 (iM (v.1-e.1))) (bs:=bs) (by have:=jA ⟨hx.1,by omega⟩;omega) (by omega) rfl rfl (by decide) nL nA rfl)
   |refine cl ?_ (hi:=by exact i_ (v:=b7 (iM (v.2-e.2))) (bs:=bs++eT (b7 (iM (v.1-e.1)))) (by have:=jA ⟨hy.1,by omega⟩;omega) (by rw[List.length_append];omega) rfl rfl (by decide) nL nA rfl))
  |refine zz ?_|refine zx (fun _=>?_) (fun _=>?_)|refine bp (by first|exact ag.nil|exact ag.one _|exact ag.my (by repeat' (first|exact True.intro|refine And.intro ?_ ?_|exact Compat.ne rfl|exact dE rfl))) ⟨by kernel_rfl,?_⟩|refine bp (by first|exact ag.nil|exact ag.one _|exact ag.my (by repeat' (first|exact True.intro|refine And.intro ?_ ?_|exact Compat.ne rfl|exact dE rfl))) ?_|fail)
 show aE _ _ _ _ _ _ _ _;refine kV [0,1,3] ?_;rfl
theorem rf{bs:List Bool}{v e:Int×Int}(hv:bM v)(he:bM e)(hr:fj v=true)(hb:bs.length<=800000){HS:aj}{i k:Nat}(hi:HS[i]? = some (aP k bs))(hk:HS[k]? = some (av bs))(hd:i≠k){N:Nat}(hN:HS.length=N){HS':aj}(hh:bJ HS [i,k] [aP N (bs++ia v e),.dead,av (bs++ia v e)]=HS')(hbd:Nat.blt HS'.length Mem.bound=true) :
 aA.Sound prog ⟨90,[.one (.ptr i 0),.one (c7 v),.one (c7 e)],HS,.one (.bool true),HS',[i,k]⟩:=
 MX (fun τ => .flat (.flat .nil)) (.flat (.flat .nil)) (Ko bs v e hv he hr hb) hi hk hd hN hh hbd
def PO(B:List Bool)(r:Nat×Bool):Int:=r_ (pU B r).1
def PQ(B:List Bool)(r:Nat×Bool):Int:=r_ (pU B (pU B r).2).1
def RR(B:List Bool)(e:Int×Int)(r:Nat×Bool):Int×Int:=(iM (e.1+PO B r),iM (e.2+PQ B r))
def PN(B:List Bool)(r:Nat×Bool):Nat×Bool:=(pU B (pU B r).2).2
def C3(B:List Bool)(e:Int×Int)(r:Nat×Bool):Prop:=(PN B r).2=true\/PO B r < -32\/31<PO B r\/PQ B r < -32\/31<PQ B r\/fj (RR B e r)=false
instance (B:List Bool) (e:Int×Int) (r:Nat×Bool):Decidable (C3 B e r):=by unfold C3;infer_instance
def RQ(B:List Bool)(e:Int×Int)(r:Nat×Bool):(Int×Int)×(Nat×Bool):=if C3 B e r then((0,0),((PN B r).1,true))else(RR B e r,PN B r)
theorem mg(v e:Int×Int):(ia v e).length<=54:=by
 unfold ia;have hx:=m_ (v.1-e.1);have hy:=m_ (v.2-e.2);have h1:=i9 (b7 (iM (v.1-e.1))) (by have:=jA ⟨hx.1,by omega⟩;omega);have h2:=i9 (b7 (iM (v.2-e.2))) (by have:=jA ⟨hy.1,by omega⟩;omega);rw[List.length_append];omega
end Go.Proofs.YthdciapjllppjaaGreat
