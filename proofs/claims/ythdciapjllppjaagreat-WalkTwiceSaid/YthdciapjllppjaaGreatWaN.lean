/-
  A part of the proof: Escape, EscapeT, PartOpen, OpenLaw, RvlcLaw, VecIO.
-/
import Derived.Test.YthdciapjllppjaaGreatWaF
import Derived.Test.YthdciapjllppjaaGreatWaM
set_option maxRecDepth 10000
set_option maxHeartbeats 8000000
set_option linter.unusedVariables false
set_option linter.unusedSectionVars false
set_option linter.unusedSimpArgs false
open Go.Proofs.Tryz (prog)
namespace Go.Proofs.YthdciapjllppjaaGreat
open Go.Xm
variable [ak]
def Hx(st:List Int×Int)(b:Int):List Int×Int:=
 if 2<=st.2/\b<=3 then(st.1++[3]++[b],if b=0 then 0+1 else 0)else(st.1++[b],if b=0 then st.2+1 else 0)
def fv(l:List Int):Nat->List Int×Int
 | 0=>([],0)
 | j+1=>Hx (fv l j) (l.getD j 0)
theorem tT(l:List Int):∀j,(fv l j).1.length<=2*j/\0<=(fv l j).2/\(fv l j).2<=j
 | 0=>⟨Nat.le_refl _,by show(0:Int)<=0;omega,by show(0:Int)<=0;omega⟩
 | j + 1=>by
   obtain⟨h1,h2,h3⟩:=tT l j;unfold fv Hx;split
   ·refine⟨by simp;omega,?_⟩;simp only[];split<;>omega
   ·refine⟨by simp;omega,?_⟩;simp only[];split<;>omega
theorem BM{l:List Int}(hl:bc l)(hn:l.length<=100000) :
 bq prog 51 [iq 0 l.length 1] [bR 5 (il .u8 l)] (iq 1 (fv l l.length).1.length 1) [bR 5 (il .u8 l),bR 5 (il .u8 (fv l l.length).1)]:=by
 refine cO Tryz.func51 ?_
 repeat' (first|refine zz ?_|refine zx (fun _=>?_) (fun _=>?_)|fail)
 refine WX.cq rfl ?_;refine WX.cj (σ:=Nat) (fun j=>[(7,iq 0 l.length 1),(8,.one (.int .i64 (l.length:Nat))),(9,.one (.int .i64 (j:Nat))),(3,iq 1 (fv l j).1.length 1),(4,.one (.int .i64 (fv l j).2))]) (fun j=>[bR 5 (il .u8 l),bR 5 (il .u8 (fv l j).1)]) (fun j=>j<=l.length) (fun j=>l.length-j) 0 (Nat.zero_le _) (fun s _=>nf) (bV [0,1]) ?_;intro j hj ih;have hr:=tT l j
 by_cases hlt:j<l.length
 ·have hb:=hl j;have e0:fv l (j+1)=Hx (fv l j) (l.getD j 0):=rfl;unfold Hx at e0
  repeat' (first
   |(refine qz ?_;first
    |refine PU ?_ (hn:=by simp))
   |refine zz ?_|refine zx (fun _=>?_) (fun _=>?_)|fail)
  ·rename_i g1 g2 g3;rw[if_pos ⟨g1,g2⟩,if_pos g3]at e0;refine ih (j+1) _ _ _ (bV [0,5] (obj:=by(repeat' (first|exact af.nil|refine af.flat (by rw[e0];rfl) ?_|refine oz ?_));first|done|fail) (reg:=by(repeat' (first|exact ai.nil|refine ai.rU rfl rfl (by rw[e0];simp) ?_|refine ai.flat (by rw[e0];rfl) ?_|refine rz ?_|refine ai.sl rfl (by assumption) rfl ?_));first|done|fail)) (by show j+1<=_;omega) (by show _-(j+1)<_-j;omega)
  ·rename_i g1 g2 g3;rw[if_pos ⟨g1,g2⟩,if_neg g3]at e0;refine ih (j+1) _ _ _ (bV [0,5] (obj:=by(repeat' (first|exact af.nil|refine af.flat (by rw[e0];rfl) ?_|refine oz ?_));first|done|fail) (reg:=by(repeat' (first|exact ai.nil|refine ai.rU rfl rfl (by rw[e0];simp) ?_|refine ai.flat (by rw[e0];rfl) ?_|refine rz ?_|refine ai.sl rfl (by assumption) rfl ?_));first|done|fail)) (by show j+1<=_;omega) (by show _-(j+1)<_-j;omega)
  ·rename_i g1 g2;rw[if_neg (fun h=>g2 h.2),if_neg (by omega)]at e0;refine ih (j+1) _ _ _ (bV [0,3] (obj:=by(repeat' (first|exact af.nil|refine af.flat (by rw[e0];rfl) ?_|refine oz ?_));first|done|fail) (reg:=by(repeat' (first|exact ai.nil|refine ai.rU rfl rfl (by rw[e0];simp) ?_|refine ai.flat (by rw[e0];rfl) ?_|refine rz ?_|refine ai.sl rfl (by assumption) rfl ?_));first|done|fail)) (by show j+1<=_;omega) (by show _-(j+1)<_-j;omega)
  ·rename_i g1 g2;rw[if_neg (fun h=>g1 h.1),if_pos g2]at e0;refine ih (j+1) _ _ _ (bV [0,3] (obj:=by(repeat' (first|exact af.nil|refine af.flat (by rw[e0];rfl) ?_|refine oz ?_));first|done|fail) (reg:=by(repeat' (first|exact ai.nil|refine ai.rU rfl rfl (by rw[e0];simp) ?_|refine ai.flat (by rw[e0];rfl) ?_|refine rz ?_|refine ai.sl rfl (by assumption) rfl ?_));first|done|fail)) (by show j+1<=_;omega) (by show _-(j+1)<_-j;omega)
  ·rename_i g1 g2;rw[if_neg (fun h=>g1 h.1),if_neg g2]at e0;refine ih (j+1) _ _ _ (bV [0,3] (obj:=by(repeat' (first|exact af.nil|refine af.flat (by rw[e0];rfl) ?_|refine oz ?_));first|done|fail) (reg:=by(repeat' (first|exact ai.nil|refine ai.rU rfl rfl (by rw[e0];simp) ?_|refine ai.flat (by rw[e0];rfl) ?_|refine rz ?_|refine ai.sl rfl (by assumption) rfl ?_));first|done|fail)) (by show j+1<=_;omega) (by show _-(j+1)<_-j;omega)
 ·obtain rfl:j=l.length:=by omega
  repeat' (first|refine zz ?_|refine zx (fun _=>?_) (fun _=>?_)|fail)
  show aE _ _ _ _ _ _ _ _;refine kV [0,1] ?_;rw[fR];rfl
def nH(l:List Int):Nat->List Int->Int->Nat->Option (List Int)
 | 0,out,_,_=>some out
 | k+1,out,z,i=>
   if z=2/\l.getD i 0<3 then none
   else if z=2/\l.getD i 0=3 then(if i+1=l.length\/3<l.getD (i+1) 0 then none else nH l k out 0 (i+1))
   else nH l k (out++[l.getD i 0]) (if l.getD i 0=0 then z+1 else 0) (i+1)
theorem OG(e e' e2:TypeId)(cs ds fs:List XC):gK [bR e cs] [bR e' ds,bR e2 fs]=true:=by
 cases cs<;>cases ds<;>cases fs<;>simp[gK,aj.live,aj.own,bR]
theorem EU{l:List Int}(hl:bc l)(hn:l.length<=100000){n:Nat}(hln:l.length=n){HS:ah}{i:Nat}(hi:HS[i]? = some (bR 5 (il .u8 l))){N:Nat}(hN:HS.length=N){HS':ah}(hh:HS++[bR 5 (il .u8 (fv l l.length).1)]=HS')(hb:Nat.blt HS'.length Mem.bound=true) :
 az.Sound prog ⟨51,[iq i n 1],HS,iq N (fv l l.length).1.length 1,HS',[i]⟩:=by
 subst hln hN;exact bz [i] [i] 1 (BM hl hn) (by simp) (.flat hi .nil) (.flat .nil) (.flat (.flat .nil)) rfl (.cons (jJ (Nat.le_of_ble_eq_true rfl)) .nil) (.cons (fR ..) .nil) (jJ (Nat.le_of_ble_eq_true rfl)) (fR ..) (.flat (.flat .nil)) (OG ..) rfl (by simp only[bE];rw[aF hi];exact hh) hb (.inl rfl)
theorem tV{l:List Int}:∀(k:Nat) (out:List Int) (z:Int) (i:Nat) (q:List Int),nH l k out z i=some q->q.length<=out.length+k
 | 0,out,z,i,q,h=>by
   simp only[nH,Option.some.injEq]at h;subst h;omega
 | k + 1,out,z,i,q,h=>by
   unfold nH at h;split at h
   ·cases h
   ·split at h
    ·split at h
     ·cases h
     ·have:=tV k _ _ _ q h;omega
    ·have:=tV k _ _ _ q h;simp at this;omega
theorem Pj:∀(x:Fin 256) (r:Fin 8),(x.val:Int)/2^(7-r.val)%2=1->(∀j:Fin 8,r<j->¬(x.val:Int)/2^(7-j.val)%2=1)->tz 8 (x.val:Int)=7-r.val/\x.val≠0:=by
 decide +kernel
theorem L9(bs:List Bool):fh (wr (bs++[true]))=(bs.length,true):=by
 have hlen:=cI (bs++[true]);simp only[List.length_append,List.length_cons,List.length_nil]at hlen;have hi:(wr (bs++[true])).length-1=bs.length/8:=by omega
 have hb:=iJ (bs++[true]) (bs.length/8)
 obtain⟨x,hx⟩:∃x:Fin 256,(wr (bs++[true])).getD (bs.length/8) 0=(x.val:Int):=⟨⟨((wr (bs++[true])).getD (bs.length/8) 0).toNat,by omega⟩,by simp only[];omega⟩
 have bit:∀j:Fin 8,decide ((x.val:Int)/2^(7-j.val)%2=1)=(bs++[true]).getD (8*(bs.length/8)+j.val) false:=by
  intro j;have:=CK (bs++[true]) (8*(bs.length/8)+j.val);unfold lf at this;rw[show(8*(bs.length/8)+j.val)/8=bs.length/8 by omega,show(8*(bs.length/8)+j.val)%8=j.val by omega,hx]at this;exact this
 have h1:=Pj x ⟨bs.length%8,Nat.mod_lt _ (by omega)⟩ (by
  have:=bit ⟨bs.length%8,Nat.mod_lt _ (by omega)⟩;simp only at this;rw[show 8*(bs.length/8)+bs.length%8=bs.length by omega]at this
  simpa using this) (fun j hj=>by
  have:=bit j;have hj':bs.length%8<j.val:=hj;rw[List.getD_eq_getElem?_getD,List.getElem?_eq_none (by simp;omega)]at this
  simpa using this)
 unfold fh;rw[hi,hx,if_neg (by have:=h1.2;omega),h1.1];simp only[Prod.mk.injEq,and_true];rw[hlen];omega
theorem KR(bs:List Bool)(hb:bs.length<=1000000):eX (wr (bs++[true])) bs:=by
 have hlen:=cI (bs++[true]);simp only[List.length_append,List.length_cons,List.length_nil]at hlen;refine⟨by omega,iJ _,fun j hj=>?_,by omega⟩;rw[CK,List.getD_eq_getElem?_getD,List.getElem?_append_left hj,<-List.getD_eq_getElem?_getD]
def lG:Int->List Int->List Int
 | _,[]=>[]
 | z,b::t=>if 2<=z/\b<=3 then 3::b::lG (if b=0 then 0+1 else 0) t else b::lG (if b=0 then z+1 else 0) t
theorem Hy(l:List Int):∀j,j<=l.length->(fv l j).1++lG (fv l j).2 (l.drop j)=lG 0 l
 | 0,_=>rfl
 | j + 1,h=>by
   rw[<-Hy l j (by omega)]
   have hd:l.drop j=l.getD j 0::l.drop (j+1):=by
    rw[List.drop_eq_getElem_cons (by omega),List.getD_eq_getElem?_getD,List.getElem?_eq_getElem (by omega)];rfl
   rw[hd,fv,Hx]
   conv=>rhs;rw[lG]
   split
   ·simp
   ·simp
theorem nG(l:List Int):(fv l l.length).1=lG 0 l:=by
 have:=Hy l l.length (Nat.le_refl _);rw[List.drop_length]at this;simpa [lG]using this
theorem BL(e:List Int):∀(l:List Int) (k:Nat) (out:List Int) (z:Int) (i:Nat),(∀b∈l,0<=b)->0<=z->z<=2->e.drop i=lG z l->k=(lG z l).length->nH e k out z i=some (out++l)
 | [],k,out,z,i,hb,h0,h2,hd,hk=>by
   simp[lG]at hk;subst hk;simp[nH]
 | b :: t,k,out,z,i,hb,h0,h2,hd,hk=>by
   have hb0:=hb b (List.mem_cons_self ..);have hbt:∀b∈t,0<=b:=fun x hx=>hb x (List.mem_cons_of_mem _ hx)
   have get:∀(i:Nat) (x:Int) (q:List Int),e.drop i=x::q->e.getD i 0=x/\e.drop (i+1)=q/\i<e.length:=fun i x q h=>by
    have hlt:i<e.length:=by
     refine Classical.byContradiction fun hn=>?_
     rw[List.drop_of_length_le (by omega)]at h;cases h
    rw[List.drop_eq_getElem_cons hlt]at h;simp only[List.cons.injEq]at h;refine⟨?_,h.2,hlt⟩;rw[List.getD_eq_getElem?_getD,List.getElem?_eq_getElem hlt];exact h.1
   unfold lG at hd hk
   by_cases hc:2<=z/\b<=3
   ·rw[if_pos hc]at hd hk;obtain⟨g1,g2,g3⟩:=get _ _ _ hd;obtain⟨g4,g5,g6⟩:=get _ _ _ g2;obtain rfl:z=2:=by omega
    simp only[List.length_cons]at hk
    obtain⟨k,rfl⟩:∃k',k=k'+2:=⟨k-2,by omega⟩
    rw[nH,g1,if_neg (by omega),if_pos ⟨rfl,rfl⟩,if_neg (by rw[g4];omega),nH,g4,if_neg (by omega),if_neg (by omega)];rw[BL e t k _ _ _ hbt (by split<;>omega) (by split<;>omega) g5 (by omega)];simp
   ·rw[if_neg hc]at hd hk;obtain⟨g1,g2,g3⟩:=get _ _ _ hd;simp only[List.length_cons]at hk
    obtain⟨k,rfl⟩:∃k',k=k'+1:=⟨k-1,by omega⟩
    rw[nH,g1,if_neg (by omega),if_neg (by omega)];rw[BL e t k _ _ _ hbt (by split<;>omega) (by split<;>omega) g2 (by omega)];simp
theorem Hz{l:List Int}(hl:bc l):nH (fv l l.length).1 (fv l l.length).1.length [] 0 0=some l:=by
 rw[nG]
 have:=BL (lG 0 l) l (lG 0 l).length [] 0 0 (fun b hb=>by
  obtain⟨j,hj,rfl⟩:=List.mem_iff_getElem.1 hb;have:=(hl j).1;rw[List.getD_eq_getElem?_getD,List.getElem?_eq_getElem hj]at this
  exact this) (by omega) (by omega) rfl rfl
 simpa using this
theorem OC(pre:List Bool)(b:Bool)(t:List Bool):fF (pre++b::t) (pre.length,false)=b/\ca (pre++b::t) (pre.length,false)=(pre.length+1,false):=by
 constructor
 ·unfold fF;rw[List.getD_eq_getElem?_getD,List.getElem?_append_right (Nat.le_refl _)];simp
 ·unfold ca;rw[if_neg (by simp),if_pos (by simp)]
theorem dz{f f':FuncId}{a a':List XV}{HS HS' K K':ah}{v v':XV}{w w':List Nat}(h:Nat.beq HS.length HS'.length=false):Compat ⟨f,a,HS,v,K,w⟩ ⟨f',a',HS',v',K',w'⟩:=fun _ _ e=>by
 have e':HS.length=HS'.length:=congrArg List.length e;rw[e']at h;simp at h
theorem FO{p:Int×Int}(h:bJ p)(hr:fg p=true){HS:ah}(hb:Nat.blt HS.length Mem.bound=true):az.Sound prog ⟨111,[.one (cS p)],HS,.one (.bool true),HS,[]⟩:=by
 have:=eO h hb;rw[hr]at this;exact this
theorem jy{x:Int}(h : -32<=x/\x<=32):0<=bY x/\bY x<=64:=by unfold bY;split<;>omega
def hJ(v e:Int×Int):List Bool:=eP (bY (iK (v.1-e.1)))++eP (bY (iK (v.2-e.2)))
theorem i6(v:Int)(h:0<=v/\v<=8190):(eP v).length<=27:=by
 unfold eP;split
 ·decide
 ·simp only[List.length_cons,xe];have:=rm (n:=(v+1).toNat) (k:=13) (by omega);omega
theorem J4(bs:List Bool)(v e:Int×Int)(hv:bJ v)(he:bJ e)(hr:fg v=true)(hb:bs.length<=800000) :
 bq prog 90 [.one (.ptr 0 0),.one (cS v),.one (cS e)] (WH bs) (.one (.bool true)) (KJ (bs++hJ v e)):=by
 have hx:=mW (v.1-e.1);have hy:=mW (v.2-e.2);have a1:=hv.1.1;have a2:=hv.1.2;have a3:=hv.2.1;have a4:=hv.2.2;have b1:=he.1.1;have b2:=he.1.2;have b3:=he.2.1;have b4:=he.2.2;have hl:=i6 (bY (iK (v.1-e.1))) (by have:=jy ⟨hx.1,by omega⟩;omega);have e0:bs++hJ v e=(bs++eP (bY (iK (v.1-e.1))))++eP (bY (iK (v.2-e.2))):=by rw[hJ,List.append_assoc]
 rw[e0];refine cO Tryz.func90 ?_
 repeat' (first
  |(refine qz ?_;first
   |refine cl ?_ (hi:=by exact FO hv hr rfl)
   |refine cl ?_ (hi:=by exact jx hv rfl)
   |refine cl ?_ (hi:=by exact jx he rfl)
   |refine cl ?_ (hi:=by exact MG (by omega) rfl)
   |refine cl ?_ (hi:=by exact rT (by omega) rfl)
   |refine cl ?_ (hi:=by exact i7 (v:=bY (iK (v.1-e.1))) (bs:=bs) (by have:=jy ⟨hx.1,by omega⟩;omega) (by omega) rfl rfl (by decide) nL nA rfl)
   |refine cl ?_ (hi:=by exact i7 (v:=bY (iK (v.2-e.2))) (bs:=bs++eP (bY (iK (v.1-e.1)))) (by have:=jy ⟨hy.1,by omega⟩;omega) (by rw[List.length_append];omega) rfl rfl (by decide) nL nA rfl))
  |refine zz ?_|refine zx (fun _=>?_) (fun _=>?_)|refine bm (by first|exact ag.nil|exact ag.one _|exact ag.mh (by repeat' (first|exact True.intro|refine And.intro ?_ ?_|exact Compat.ne rfl|exact dz rfl))) ⟨by kernel_rfl,?_⟩|refine bm (by first|exact ag.nil|exact ag.one _|exact ag.mh (by repeat' (first|exact True.intro|refine And.intro ?_ ?_|exact Compat.ne rfl|exact dz rfl))) ?_|fail)
 show aE _ _ _ _ _ _ _ _;refine kV [0,1,3] ?_;rfl
theorem qS{bs:List Bool}{v e:Int×Int}(hv:bJ v)(he:bJ e)(hr:fg v=true)(hb:bs.length<=800000){HS:ah}{i k:Nat}(hi:HS[i]? = some (aO k bs))(hk:HS[k]? = some (au bs))(hd:i≠k){N:Nat}(hN:HS.length=N){HS':ah}(hh:bE HS [i,k] [aO N (bs++hJ v e),.dead,au (bs++hJ v e)]=HS')(hbd:Nat.blt HS'.length Mem.bound=true) :
 az.Sound prog ⟨90,[.one (.ptr i 0),.one (cS v),.one (cS e)],HS,.one (.bool true),HS',[i,k]⟩:=
 MB (fun τ => .flat (.flat .nil)) (.flat (.flat .nil)) (J4 bs v e hv he hr hb) hi hk hd hN hh hbd
def Pq(B:List Bool)(r:Nat×Bool):Int:=rY (pK B r).1
def Pr(B:List Bool)(r:Nat×Bool):Int:=rY (pK B (pK B r).2).1
def Rv(B:List Bool)(e:Int×Int)(r:Nat×Bool):Int×Int:=(iK (e.1+Pq B r),iK (e.2+Pr B r))
def Pp(B:List Bool)(r:Nat×Bool):Nat×Bool:=(pK B (pK B r).2).2
def CH(B:List Bool)(e:Int×Int)(r:Nat×Bool):Prop:=(Pp B r).2=true\/Pq B r < -32\/31<Pq B r\/Pr B r < -32\/31<Pr B r\/fg (Rv B e r)=false
instance (B:List Bool) (e:Int×Int) (r:Nat×Bool):Decidable (CH B e r):=by unfold CH;infer_instance
def Ru(B:List Bool)(e:Int×Int)(r:Nat×Bool):(Int×Int)×(Nat×Bool):=if CH B e r then((0,0),((Pp B r).1,true))else(Rv B e r,Pp B r)
theorem l5(v e:Int×Int):(hJ v e).length<=54:=by
 unfold hJ;have hx:=mW (v.1-e.1);have hy:=mW (v.2-e.2);have h1:=i6 (bY (iK (v.1-e.1))) (by have:=jy ⟨hx.1,by omega⟩;omega);have h2:=i6 (bY (iK (v.2-e.2))) (by have:=jy ⟨hy.1,by omega⟩;omega);rw[List.length_append];omega
end Go.Proofs.YthdciapjllppjaaGreat
