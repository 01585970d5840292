/-
  A part of the proof: BitsW, BitsX, BitsR, RvlcR, XvOpen, FloatS, PartIO, BsN, StrC, StrD, Small.
-/
import Derived.Test.YthdciapjllppjaaGreatWbE
import Derived.Below
import Derived.ChangeOld
import Derived.ChangeSame
import Derived.Deep.Fields
import Derived.Deep.Slices
import Derived.OpenShut
import Derived.ProofKit
import Derived.ShutString
import Derived.WalkKit
set_option maxRecDepth 10000
set_option maxHeartbeats 8000000
set_option linter.unusedVariables false
set_option linter.unusedSectionVars false
set_option linter.unusedSimpArgs false
open Go.Proofs.Tryz (prog)
namespace Go.Proofs.YthdciapjllppjaaGreat
open Go.Xm
def ll(l:List Int)(i:Nat):Bool:=decide (l.getD (i/8) 0/2^(7-i%8)%2=1)
abbrev bj(l:List Int):Prop:=∀p,0<=l.getD p 0/\l.getD p 0<256
section
variable [aq]
def je(L:List Int)(many:Nat)(b:Bool):List Int:=
 if b then(if many%8=0 then L++[0]else L).set (many/8) (sB .u8 ((if many%8=0 then L++[0]else L).getD (many/8) 0) (128/2^(many%8)))else(if many%8=0 then L++[0]else L)
def Sf(st:List Int×Nat)(b:Bool):List Int×Nat:=(je st.1 st.2 b,st.2+1)
def wr(bs:List Bool):List Int:=(bs.foldl Sf ([],0)).1
theorem EF:∀(bs:List Bool) (st:List Int×Nat),(bs.foldl Sf st).2=st.2+bs.length
 | [],st=>rfl
 | b::bs,st=>by
   simp only[List.foldl_cons,EF bs,Sf,List.length_cons];omega
theorem vH(bs:List Bool)(b:Bool):wr (bs++[b])=je (wr bs) bs.length b:=by
 unfold wr;rw[List.foldl_append];have:=EF bs ([],0);simp only[List.foldl_cons,List.foldl_nil,Sf,this,Nat.zero_add]
theorem Jk(L:List Int)(many:Nat)(b:Bool):(je L many b).length=L.length+(if many%8=0 then 1 else 0):=by
 unfold je;split<;>split<;>simp
theorem rP{p:List Bool->Prop}(h0:p [])(h1:∀bs b,p bs->p (bs++[b]))(bs:List Bool):p bs:=by
 have:∀n (bs:List Bool),bs.length=n->p bs:=by
  intro n
  induction n with
  | zero=>intro bs h;rw[List.length_eq_zero_iff.1 h];exact h0
  | succ n ih=>
    intro bs h;have hne:bs≠[]:=fun e=>by rw[e]at h;simp at h
    rw[<-List.dropLast_concat_getLast hne];exact h1 _ _ (ih _ (by simp[h]))
 exact this _ bs rfl
theorem cN(bs:List Bool):(wr bs).length=(bs.length+7)/8:=by
 refine rP (p:=fun bs=>(wr bs).length=(bs.length+7)/8) rfl (fun bs b ih=>?_) bs;rw[vH,Jk,ih,List.length_append,List.length_cons,List.length_nil];split<;>omega
theorem OV:∀(x:Fin 256) (k j:Fin 8),decide (sB .u8 (x.val:Int) (128/2^k.val)/2^(7-j.val)%2=1)=(decide ((x.val:Int)/2^(7-j.val)%2=1)||decide (j=k)):=by
 decide +kernel
theorem OW:∀(x:Fin 256) (k:Fin 8),0<=sB .u8 (x.val:Int) (128/2^k.val)/\sB .u8 (x.val:Int) (128/2^k.val)<256:=by
 decide +kernel
theorem zC{L:List Int}(h:bj L):bj (L++[0]):=fun p=>by
 rw[List.getD_eq_getElem?_getD]
 by_cases hp:p<L.length
 ·rw[List.getElem?_append_left hp,<-List.getD_eq_getElem?_getD];exact h p
 ·rw[List.getElem?_append_right (by omega)]
  cases hq:p-L.length with
  | zero=>simp
  | succ q=>simp
theorem F1{L:List Int}(h:bj L)(many:Nat)(b:Bool):bj (je L many b):=by
 have h1:bj (if many%8=0 then L++[0]else L):=by
  split
  ·exact zC h
  ·exact h
 unfold je;generalize (if many%8=0 then L++[0]else L)=L1 at h1 ⊢;split
 ·intro p;rw[List.getD_eq_getElem?_getD,List.getElem?_set];split
  ·split
   ·have hb:=h1 (many/8)
    obtain⟨x,hx⟩:∃x:Fin 256,L1.getD (many/8) 0=(x.val:Int):=⟨⟨(L1.getD (many/8) 0).toNat,by omega⟩,by simp only[];omega⟩
    rw[hx];exact OW x ⟨many%8,Nat.mod_lt _ (by omega)⟩
   ·simp
  ·rw[<-List.getD_eq_getElem?_getD];exact h1 p
 ·exact h1
theorem iL(bs:List Bool):bj (wr bs):=by
 refine rP (p:=fun bs=>bj (wr bs)) (fun p=>by simp[wr]) (fun bs b ih=>?_) bs;rw[vH];exact F1 ih _ _
theorem Hw(L:List Int)(j:Nat):ll (L++[0]) j=ll L j:=by
 unfold ll
 have:(L++[0]).getD (j/8) 0=L.getD (j/8) 0:=by
  rw[List.getD_eq_getElem?_getD,List.getD_eq_getElem?_getD]
  by_cases hp:j/8<L.length
  ·rw[List.getElem?_append_left hp]
  ·rw[List.getElem?_append_right (by omega),List.getElem?_eq_none (l:=L) (by omega)];cases j/8-L.length<;>simp
 rw[this]
theorem Jj{L:List Int}(h:bj L)(many:Nat)(hlen:L.length=(many+7)/8)(b:Bool)(j:Nat):ll (je L many b) j=(ll L j||(b&&decide (j=many))):=by
 have h1:bj (if many%8=0 then L++[0]else L):=by
  split
  ·exact zC h
  ·exact h
 have h2:∀j,ll (if many%8=0 then L++[0]else L) j=ll L j:=fun j=>by
  split
  ·exact Hw L j
  ·rfl
 have h3:many/8<(if many%8=0 then L++[0]else L).length:=by
  split
  ·simp;omega
  ·omega
 unfold je;generalize (if many%8=0 then L++[0]else L)=L1 at h1 h2 h3 ⊢;rw[<-h2]
 cases b with
 | false=>simp
 | true=>
   simp only[if_true,Bool.true_and];unfold ll;rw[List.getD_eq_getElem?_getD,List.getElem?_set]
   by_cases hj:many/8=j/8
   ·rw[if_pos hj,if_pos h3,<-hj];have hb:=h1 (many/8)
    obtain⟨x,hx⟩:∃x:Fin 256,L1.getD (many/8) 0=(x.val:Int):=⟨⟨(L1.getD (many/8) 0).toNat,by omega⟩,by simp only[];omega⟩
    rw[hx];have:=OV x ⟨many%8,Nat.mod_lt _ (by omega)⟩ ⟨j%8,Nat.mod_lt _ (by omega)⟩;simp only[Fin.mk.injEq]at this;show decide (sB .u8 (x.val:Int) (128/2^(many%8))/2^(7-j%8)%2=1)=_;rw[this]
    congr 1
    exact decide_eq_decide.2 (by omega)
   ·rw[if_neg hj,<-List.getD_eq_getElem?_getD,decide_eq_false (show¬j=many by intro e;rw[e]at hj;exact hj rfl),Bool.or_false]
theorem C7(bs:List Bool)(j:Nat):ll (wr bs) j=bs.getD j false:=by
 refine rP (p:=fun bs=>ll (wr bs) j=bs.getD j false) (by simp[wr,ll]) (fun bs b ih=>?_) bs;rw[vH,Jj (iL bs) _ (cN bs),ih,List.getD_eq_getElem?_getD,List.getD_eq_getElem?_getD]
 by_cases h:j<bs.length
 ·rw[List.getElem?_append_left h,decide_eq_false (by omega)];simp
 ·rw[List.getElem?_append_right (by omega),List.getElem?_eq_none (l:=bs) (by omega)]
  by_cases h2:j=bs.length
  ·subst h2;simp
  ·have:j-bs.length≠0:=by omega
   obtain⟨q,hq⟩:∃q,j-bs.length=q+1:=⟨j-bs.length-1,by omega⟩
   rw[hq,decide_eq_false h2];simp
def aJ(n:Int):Nat->List Bool
 | 0=>[]
 | k+1=>decide (n/2^k%2=1)::aJ n k
theorem aR(n:Int):∀k,(aJ n k).length=k
 | 0=>rfl
 | k+1=>by simp[aJ,aR n k]
end
abbrev WH(bs:List Bool):aj:=[.cells [eE 1 ((bs.length+7)/8) 1,.int .i64 (bs.length:Nat)] 134 false false,bU 5 (il .u8 (wr bs))]
abbrev K6(bs:List Bool):aj:=[.cells [eE 2 ((bs.length+7)/8) 1,.int .i64 (bs.length:Nat)] 134 false false,.dead,bU 5 (il .u8 (wr bs))]
variable [aq]
theorem F2(n:Int)(bs:List Bool)(k:Nat):bs++aJ n (k+1)=(bs++[decide (n/2^k%2=1)])++aJ n k:=by
 simp[aJ]
theorem EG{bs:List Bool}{L:List Int}(h:L=if bs.length%8=0 then wr bs++[0]else wr bs):wr (bs++[true])=L.set ((bs.length:Int)/8).toNat (sB .u8 (L.getD ((bs.length:Int)/8).toNat 0) (128/2^((bs.length:Int)%8).toNat)):=by
 rw[vH,je,if_pos rfl,<-h,show((bs.length:Int)/8).toNat=bs.length/8 by omega,show((bs.length:Int)%8).toNat=bs.length%8 by omega]
theorem Bh{bs:List Bool}{L:List Int}(h:L=if bs.length%8=0 then wr bs++[0]else wr bs):wr (bs++[false])=L:=by
 rw[vH,je,if_neg (by decide),<-h]
theorem Ky(bs:List Bool)(n:Int)(size:Nat)(hn:0<=n/\n<18446744073709551616)(hs:size<=64)(hb:bs.length<=1000000) :
 bt prog 46 [.one (.ptr 0 0),.one (.int .u64 n),.one (.int .i64 (size:Nat))] (WH bs) (.tup []) (K6 (bs++aJ n size)):=by
 refine cO Tryz.func46 ?_
 repeat' (first|refine zz ?_|refine zx (fun _=>?_) (fun _=>?_)|fail)
 refine WX.cw (σ:=Nat×List Bool) (fun s=>[(6,.one (.int .i64 ((s.1:Int)-1))),(0,.one (.ptr 0 0)),(1,.one (.int .u64 n))]) (fun s=>K6 s.2) (fun s=>s.1<=64/\s.2.length+s.1<=1000064/\s.2++aJ n s.1=bs++aJ n size) (fun s=>s.1) (size,bs) ⟨hs,by simp only[];omega,rfl⟩ (fun s _=>ny) (bW [0,1,1]) ?_;intro s ⟨h1,h2,h3⟩ ih;have hwl:=cN s.2
 by_cases hk:s.1=0
 ·have e:bs++aJ n size=s.2:=by rw[<-h3,hk];simp[aJ]
  rw[e]
  repeat' (first|refine zz ?_|refine zx (fun _=>?_) (fun _=>?_)|fail)
  show aE _ _ _ _ _ _ _ _;refine kV [0,1,2] ?_;rfl
 ·have hsh:(n/2^(((s.1:Int)-1).toNat)%2=0\/n/2^(((s.1:Int)-1).toNat)%2=1)/\0<=n/2^(((s.1:Int)-1).toNat):=⟨by omega,Int.ediv_nonneg hn.1 (Int.le_of_lt (Int.pow_pos (by decide)))⟩
  have e3:((s.1-1:Nat):Int)=(s.1:Int)-1:=by omega
  have e4:((s.1:Int)-1).toNat=s.1-1:=by omega
  have hput:s.2++aJ n s.1=(s.2++[decide (n/2^(s.1-1)%2=1)])++aJ n (s.1-1):=by
   rw[<-F2,show s.1-1+1=s.1 by omega]
  repeat' (first|refine zz ?_|refine zx (fun _=>?_) (fun _=>?_)|fail)
  ·rename_i g1 g2;have e1:=EG (bs:=s.2) (L:=wr s.2++[0]) (if_pos (by omega)).symm;have e2:((s.2++[true]).length:Int)=(s.2.length:Int)+1:=by simp
   rw[decide_eq_true (by rw[<-e4];exact g2)]at hput;refine ih (s.1-1,s.2++[true]) _ _ _ (bW [0,1,4] (obj:=by(repeat' (first|exact ae.nil|refine ae.flat (by rw[e1];rfl) ?_|refine ae.iu (by rw[e2];rfl) rfl (by simp;omega) rfl ?_|refine oz ?_));first|done|fail) (reg:=by(repeat' (first|exact ai.nil|refine ai.flat (by rw[e3];rfl) ?_|refine rz ?_|refine ai.sl rfl (by assumption) rfl ?_));first|done|fail)) ⟨by show s.1-1<=_;omega,by simp;omega,by show _++_=_;rw[<-hput];exact h3⟩ (by show s.1-1<s.1;omega)
  ·rename_i g1 g2;have e1:=Bh (bs:=s.2) (L:=wr s.2++[0]) (if_pos (by omega)).symm;have e2:((s.2++[false]).length:Int)=(s.2.length:Int)+1:=by simp
   rw[decide_eq_false (by rw[<-e4];exact g2)]at hput;refine ih (s.1-1,s.2++[false]) _ _ _ (bW [0,1,4] (obj:=by(repeat' (first|exact ae.nil|refine ae.flat (by rw[e1];rfl) ?_|refine ae.iu (by rw[e2];rfl) rfl (by simp;omega) rfl ?_|refine oz ?_));first|done|fail) (reg:=by(repeat' (first|exact ai.nil|refine ai.flat (by rw[e3];rfl) ?_|refine rz ?_|refine ai.sl rfl (by assumption) rfl ?_));first|done|fail)) ⟨by show s.1-1<=_;omega,by simp;omega,by show _++_=_;rw[<-hput];exact h3⟩ (by show s.1-1<s.1;omega)
  ·rename_i g1 g2;have e1:=EG (bs:=s.2) (L:=wr s.2) (if_neg (by omega)).symm;have e2:((s.2++[true]).length:Int)=(s.2.length:Int)+1:=by simp
   rw[decide_eq_true (by rw[<-e4];exact g2)]at hput;refine ih (s.1-1,s.2++[true]) _ _ _ (bW [0,1,2] (obj:=by(repeat' (first|exact ae.nil|refine ae.flat (by rw[e1];rfl) ?_|refine ae.iu (by rw[e2];rfl) rfl (by simp;omega) rfl ?_|refine oz ?_));first|done|fail) (reg:=by(repeat' (first|exact ai.nil|refine ai.flat (by rw[e3];rfl) ?_|refine rz ?_|refine ai.sl rfl (by assumption) rfl ?_));first|done|fail)) ⟨by show s.1-1<=_;omega,by simp;omega,by show _++_=_;rw[<-hput];exact h3⟩ (by show s.1-1<s.1;omega)
  ·rename_i g1 g2;have e1:=Bh (bs:=s.2) (L:=wr s.2) (if_neg (by omega)).symm;have e2:((s.2++[false]).length:Int)=(s.2.length:Int)+1:=by simp
   rw[decide_eq_false (by rw[<-e4];exact g2)]at hput;refine ih (s.1-1,s.2++[false]) _ _ _ (bW [0,1,2] (obj:=by(repeat' (first|exact ae.nil|refine ae.flat (by rw[e1];rfl) ?_|refine ae.iu (by rw[e2];rfl) rfl (by simp;omega) rfl ?_|refine oz ?_));first|done|fail) (reg:=by(repeat' (first|exact ai.nil|refine ai.flat (by rw[e3];rfl) ?_|refine rz ?_|refine ai.sl rfl (by assumption) rfl ?_));first|done|fail)) ⟨by show s.1-1<=_;omega,by simp;omega,by show _++_=_;rw[<-hput];exact h3⟩ (by show s.1-1<s.1;omega)
end Go.Proofs.YthdciapjllppjaaGreat
namespace Go.Proofs.YthdciapjllppjaaGreat
open Go.Xm
variable [aq]
instance Q3:b8 (.tup []):=eL rfl
theorem Jy(a b:List XC)(e e' e2:TypeId)(cs ds:List XC):gN [.cells a e false false,bU e' cs] [.cells b e false false,.dead,bU e2 ds]=true:=by
 cases cs<;>cases ds<;>simp[gN,ak.live,ak.own,bU]
abbrev aP(k:Nat)(bs:List Bool):ak := .cells [eE k ((bs.length+7)/8) 1,.int .i64 (bs.length:Nat)] 134 false false
abbrev av(bs:List Bool):ak:=bU 5 (il .u8 (wr bs))
theorem MX{f:FuncId}{more:List XV}(hm:∀τ,e9 τ more more)(hmo:gW 2 more){v:XV}[b8 v]{bs bs':List Bool}(hc:bt prog f (.one (.ptr 0 0)::more) (WH bs) v (K6 bs')){HS:aj}{i k:Nat}(hi:HS[i]? = some (aP k bs))(hk:HS[k]? = some (av bs))(hd:i≠k){N:Nat}(hN:HS.length=N){HS':aj}(hh:bJ HS [i,k] [aP N bs',.dead,av bs']=HS')(hbd:Nat.blt HS'.length Mem.bound=true) :
 aA.Sound prog ⟨f,.one (.ptr i 0)::more,HS,v,HS',[i,k]⟩:=by
 subst hN;refine bI [i,k] [i,k] 1 hc (by simp[hd]) ?_ ?_ ?_ rfl (.cons (by simp[XV.bK,XC.ok]) hmo) (.cons rfl (hm _)) (b8.ok _) (b8.aC _) ?_ (Jy ..) rfl hh hbd (.inl rfl)
 ·exact ae.iu hi rfl rfl rfl (.flat hk .nil)
 ·exact .cons (by simp[ak.bK,XC.ok,aK]) (.flat .nil)
 ·exact .cons (by simp[ak.bK,XC.ok,aK]) (.flat (.flat .nil))
 ·exact .cons (by simp only[ak.aC,List.map_cons,List.map_nil,XC.aC,aV];rfl) (.flat (.flat .nil))
theorem fq{n:Int}{size:Nat}{z:Int}(hz:z=(size:Nat)){bs:List Bool}(hn:0<=n/\n<18446744073709551616)(hs:size<=64)(hb:bs.length<=1000000){HS:aj}{i k:Nat}(hi:HS[i]? = some (aP k bs))(hk:HS[k]? = some (av bs))(hd:i≠k){N:Nat}(hN:HS.length=N){HS':aj}(hh:bJ HS [i,k] [aP N (bs++aJ n size),.dead,av (bs++aJ n size)]=HS')(hbd:Nat.blt HS'.length Mem.bound=true) :
 aA.Sound prog ⟨46,[.one (.ptr i 0),.one (.int .u64 n),.one (.int .i64 z)],HS,.tup [],HS',[i,k]⟩:=by
 subst hz;exact MX (fun τ => .flat (.flat .nil)) (.flat (.flat .nil)) (Ky bs n size hn hs hb) hi hk hd hN hh hbd
theorem GM(bs:List Bool)(b:Bool)(hb:bs.length<=1000000) :
 bt prog 47 [.one (.ptr 0 0),.one (.bool b)] (WH bs) (.tup []) (K6 (bs++[b])):=by
 refine cO Tryz.func47 ?_
 cases b with
 | true=>
   have e:bs++aJ 1 1=bs++[true]:=rfl
   repeat' (first
    |(refine qz ?_;first
     |refine cl ?_ (hi:=by exact fq (size:=1) rfl (bs:=bs) (by decide) (by decide) hb rfl rfl (by decide) nL nA rfl))
    |refine zz ?_|refine zx (fun _=>?_) (fun _=>?_)|fail)
   show aE _ _ _ _ _ _ _ _;refine kV [0,1,2] ?_;rfl
 | false=>
   have e:bs++aJ 0 1=bs++[false]:=rfl
   repeat' (first
    |(refine qz ?_;first
     |refine cl ?_ (hi:=by exact fq (size:=1) rfl (bs:=bs) (by decide) (by decide) hb rfl rfl (by decide) nL nA rfl))
    |refine zz ?_|refine zx (fun _=>?_) (fun _=>?_)|fail)
   show aE _ _ _ _ _ _ _ _;refine kV [0,1,2] ?_;rfl
theorem jD{b:Bool}{bs:List Bool}(hb:bs.length<=1000000){HS:aj}{i k:Nat}(hi:HS[i]? = some (aP k bs))(hk:HS[k]? = some (av bs))(hd:i≠k){N:Nat}(hN:HS.length=N){HS':aj}(hh:bJ HS [i,k] [aP N (bs++[b]),.dead,av (bs++[b])]=HS')(hbd:Nat.blt HS'.length Mem.bound=true) :
 aA.Sound prog ⟨47,[.one (.ptr i 0),.one (.bool b)],HS,.tup [],HS',[i,k]⟩:=
 MX (fun τ => .flat .nil) (.flat .nil) (GM bs b hb) hi hk hd hN hh hbd
def bitLen(n:Nat):Nat:=if n=0 then 0 else Nat.log2 n+1
def qK(n:Nat):Int:=(bitLen n:Nat)
theorem z6:∀i:Fin 256,0<=qK i.val/\qK i.val<=8:=by decide +kernel
theorem BW{n k:Nat}(h:2^k<=n):bitLen n=bitLen (n/2^k)+k:=by
 have hp:0<2^k:=Nat.two_pow_pos k;have h0:0<n/2^k:=Nat.div_pos h hp;unfold bitLen
 have e:Nat.log2 n=Nat.log2 (n/2^k)+k:=by
  rw[Nat.log2_eq_iff (by omega)];have h1:=Nat.log2_self_le (n:=n/2^k) (by omega);have h2:=Nat.lt_log2_self (n:=n/2^k);constructor
  ·rw[Nat.pow_add];exact(Nat.le_div_iff_mul_le hp).1 h1
  ·rw[show Nat.log2 (n/2^k)+k+1=Nat.log2 (n/2^k)+1+k by omega,Nat.pow_add];exact(Nat.div_lt_iff_lt_mul hp).1 h2
 rw[if_neg (by omega),if_neg (by omega),e];omega
theorem FB(n:Int)(hn:0<=n/\n<65536) :
 bt prog 156 [.one (.int .u64 n)] [] (.one (.int .i64 (qK n.toNat))) []:=by
 refine cO Tryz.func156 ?_
 by_cases h:n<256
 ·have hr:=z6 ⟨n.toNat,by omega⟩;simp only[]at hr
  repeat' (first
   |(refine qz ?_;first
    |refine Tt qK ?_)
   |refine zz ?_|refine zx (fun _=>?_) (fun _=>?_)|fail)
  show aE _ _ _ _ _ _ _ _;refine kV [] ?_;rw[Int.zero_add];rfl
 ·have hq:0<=n/2^(8:Int).toNat/\n/2^(8:Int).toNat<256/\(n/2^(8:Int).toNat).toNat=n.toNat/2^8:=by
   show 0<=n/2^8/\n/2^8<256/\(n/2^8).toNat=n.toNat/2^8;omega
  have hr:=z6 ⟨(n/2^(8:Int).toNat).toNat,by omega⟩;simp only[]at hr
  have hl:qK n.toNat=0+8+qK (n/2^(8:Int).toNat).toNat:=by
   unfold qK;rw[BW (n:=n.toNat) (k:=8) (by omega),hq.2.2];omega
  rw[hl]
  repeat' (first
   |(refine qz ?_;first
    |refine Tt qK ?_)
   |refine zz ?_|refine zx (fun _=>?_) (fun _=>?_)|fail)
  show aE _ _ _ _ _ _ _ _;refine kV [] ?_;rfl
theorem IC{HS:aj}{n:Int}(hn:0<=n/\n<65536)(hb:Nat.blt HS.length Mem.bound=true):aA.Sound prog ⟨156,[.one (.int .u64 n)],HS,.one (.int .i64 (qK n.toNat)),HS,[]⟩:=
 az (FB n hn) rfl rfl hb
theorem LP(n:Int)(hn:0<=n/\n<65536) :
 bt prog 135 [.one (.int .u64 n)] [] (.one (.int .i64 (qK n.toNat))) []:=by
 refine cO Tryz.func135 ?_
 repeat' (first
  |(refine qz ?_;first
   |refine cl ?_ (hi:=by exact IC (by omega) rfl))
  |refine zz ?_|refine zx (fun _=>?_) (fun _=>?_)|fail)
 show aE _ _ _ _ _ _ _ _;refine kV [] ?_;rfl
theorem Cl{HS:aj}{n:Int}(hn:0<=n/\n<65536)(hb:Nat.blt HS.length Mem.bound=true):aA.Sound prog ⟨135,[.one (.int .u64 n)],HS,.one (.int .i64 (qK n.toNat)),HS,[]⟩:=
 az (LP n hn) rfl rfl hb
def sJ(n:Int):Nat->List Bool
 | 0=>[]
 | k+1=>decide (n/2^k%2=1)::decide (0<k)::sJ n k
def eT(v:Int):List Bool:=if v=0 then [true]else false::sJ (v+1) (bitLen (v+1).toNat-1)
theorem xA(n:Int):∀k,(sJ n k).length=2*k
 | 0=>rfl
 | k+1=>by simp[sJ,xA n k];omega
theorem rG{n k:Nat}(h:n<2^k):bitLen n<=k:=by
 unfold bitLen;split
 ·omega
 ·have:=(Nat.log2_lt (by omega)).2 h;omega
theorem BV{n:Nat}(h:0<n):0<bitLen n:=by
 unfold bitLen;rw[if_neg (by omega)];omega
theorem AO(bs:List Bool)(v:Int)(hv:0<=v/\v<=8190)(hb:bs.length<=900000) :
 bt prog 113 [.one (.ptr 0 0),.one (.int .i64 v)] (WH bs) (.one (.bool true)) (K6 (bs++eT v)):=by
 refine cO Tryz.func113 ?_
 by_cases h0:v=0
 ·subst h0;have e:bs++aJ 1 1=bs++eT 0:=rfl
  repeat' (first
   |(refine qz ?_;first
    |refine cl ?_ (hi:=by exact fq (size:=1) rfl (bs:=bs) (by decide) (by decide) (by omega) rfl rfl (by decide) nL nA rfl))
   |refine zz ?_|refine zx (fun _=>?_) (fun _=>?_)|fail)
  show aE _ _ _ _ _ _ _ _;refine kV [0,1,2] ?_;rfl
 ·have hl1:bitLen (v+1).toNat<=13:=rG (by show _<8192;omega);have hl2:=BV (n:=(v+1).toNat) (by omega);have hl3:qK (v+1).toNat=(bitLen (v+1).toNat:Nat):=rfl
  repeat' (first
   |(refine qz ?_;first
    |refine cl ?_ (hi:=by exact fq (size:=1) rfl (bs:=bs) (by decide) (by decide) (by omega) rfl rfl (by decide) nL nA rfl)
    |refine cl ?_ (hi:=by exact Cl (by omega) rfl))
   |refine zz ?_|refine zx (fun _=>?_) (fun _=>?_)|fail)
  have e5:((bitLen (v+1).toNat-1:Nat):Int)=qK (v+1).toNat-1:=by omega
  refine WX.cw (σ:=Nat×List Bool) (fun s=>[(6,.one (.int .i64 ((s.1:Int)-1))),(0,.one (.ptr 0 0)),(1,.one (.int .i64 v))]) (fun s=>K6 s.2) (fun s=>s.1<=13/\s.2.length+2*s.1<=900100/\s.2++sJ (v+1) s.1=bs++eT v) (fun s=>s.1) (bitLen (v+1).toNat-1,bs++aJ 0 1) ⟨by show _-1<=_;omega,by simp[aR];omega,by rw[eT,if_neg h0];simp[aJ]⟩ (fun s _=>ny) (bW [0,1,2] (obj:=by(repeat' (first|exact ae.nil|refine ae.iu rfl rfl rfl rfl ?_|refine oz ?_));first|done|fail) (reg:=by(repeat' (first|exact ai.nil|refine ai.flat (by rw[e5];rfl) ?_|refine rz ?_|refine ai.sl rfl (by assumption) rfl ?_));first|done|fail)) ?_;intro s ⟨h1,h2,h3⟩ ih
  by_cases hk:s.1=0
  ·have e:bs++eT v=s.2:=by rw[<-h3,hk];simp[sJ]
   rw[e]
   repeat' (first|refine zz ?_|refine zx (fun _=>?_) (fun _=>?_)|fail)
   show aE _ _ _ _ _ _ _ _;refine kV [0,1,2] ?_;rfl
  ·have hsh:0<=(v+1)/2^(((s.1:Int)-1).toNat)/\(v+1)/2^(((s.1:Int)-1).toNat)<=v+1:=⟨Int.ediv_nonneg (by omega) (Int.le_of_lt (Int.pow_pos (by decide))),Int.ediv_le_self _ (by omega)⟩
   have e3:((s.1-1:Nat):Int)=(s.1:Int)-1:=by omega
   have e4:((s.1:Int)-1).toNat=s.1-1:=by omega
   have hpl:∀x:Int,(s.2++aJ x 1).length<=1000000:=fun x=>by simp[aR];omega
   have hin:∀b:Bool,b=decide (0<s.1-1)->(s.2++aJ ((v+1)/2^(((s.1:Int)-1).toNat)%2^1) 1++[b])++sJ (v+1) (s.1-1)=bs++eT v:=by
    intro b hb';rw[<-h3]
    obtain⟨k,hk'⟩:∃k,s.1=k+1:=⟨s.1-1,by omega⟩
    rw[hb',e4,hk'];simp only[aJ,sJ,Nat.add_sub_cancel,Nat.pow_zero,Int.pow_zero,Int.ediv_one,show(2:Int)^1=2 from rfl,List.append_assoc,List.cons_append,List.nil_append];rw[Int.emod_emod_of_dvd _ (by decide)]
   repeat' (first
    |(refine qz ?_;first
     |refine cl ?_ (hi:=by exact fq (size:=1) rfl (bs:=s.2) (by omega) (by decide) (by omega) rfl rfl (by decide) nL nA rfl)
     |refine cl ?_ (hi:=by exact jD (bs:=s.2++aJ _ 1) (hpl _) rfl rfl (by decide) nL nA rfl))
    |refine zz ?_|refine zx (fun _=>?_) (fun _=>?_)|fail)
   ·rename_i g;refine ih (s.1-1,s.2++aJ _ 1++[true]) _ _ _ (bW [0,1,4] (obj:=by(repeat' (first|exact ae.nil|refine ae.iu rfl rfl rfl rfl ?_|refine oz ?_));first|done|fail) (reg:=by(repeat' (first|exact ai.nil|refine ai.flat (by rw[e3];rfl) ?_|refine rz ?_|refine ai.sl rfl (by assumption) rfl ?_));first|done|fail)) ⟨by show s.1-1<=_;omega,by simp[aR];omega,hin true (decide_eq_true (by omega)).symm⟩ (by show s.1-1<s.1;omega)
   ·rename_i g;refine ih (s.1-1,s.2++aJ _ 1++[false]) _ _ _ (bW [0,1,4] (obj:=by(repeat' (first|exact ae.nil|refine ae.iu rfl rfl rfl rfl ?_|refine oz ?_));first|done|fail) (reg:=by(repeat' (first|exact ai.nil|refine ai.flat (by rw[e3];rfl) ?_|refine rz ?_|refine ai.sl rfl (by assumption) rfl ?_));first|done|fail)) ⟨by show s.1-1<=_;omega,by simp[aR];omega,hin false (decide_eq_false (by omega)).symm⟩ (by show s.1-1<s.1;omega)
theorem i_{v:Int}{bs:List Bool}(hv:0<=v/\v<=8190)(hb:bs.length<=900000){HS:aj}{i k:Nat}(hi:HS[i]? = some (aP k bs))(hk:HS[k]? = some (av bs))(hd:i≠k){N:Nat}(hN:HS.length=N){HS':aj}(hh:bJ HS [i,k] [aP N (bs++eT v),.dead,av (bs++eT v)]=HS')(hbd:Nat.blt HS'.length Mem.bound=true) :
 aA.Sound prog ⟨113,[.one (.ptr i 0),.one (.int .i64 v)],HS,.one (.bool true),HS',[i,k]⟩:=
 MX (fun τ => .flat .nil) (.flat .nil) (AO bs v hv hb) hi hk hd hN hh hbd
structure e_(L:List Int)(B:List Bool):Prop where
 le:B.length<=8*L.length
 byte:bj L
 bit:∀j,j<B.length->ll L j=B.getD j false
 small:L.length<=1000000
def fI(B:List Bool)(r:Nat×Bool):Bool := !r.2&&B.getD r.1 false
def ch(B:List Bool)(r:Nat×Bool):Nat×Bool:=if r.2=true then r else if r.1<B.length then(r.1+1,false)else(r.1,true)
def b2(b:Bool):Int:=if b then 1 else 0
abbrev gF(k:Nat)(L:List Int)(B:List Bool)(p:Nat)(e:Bool):ak := .cells [.slice k 0 L.length (.exact L.length),.int .i64 (p:Nat),.int .i64 (B.length:Nat),.bool e] 190 false false
abbrev dT(L:List Int):ak := .cells (il .u8 L) 5 false false
abbrev RH(L:List Int)(B:List Bool)(p:Nat)(e:Bool):aj:=[gF 1 L B p e,dT L]
theorem Jq{L:List Int}{B:List Bool}(p:Nat) :
 bt prog 72 [.one (.ptr 0 0)] (RH L B p true) (.one (.int .u64 0)) (RH L B p true):=by
 refine cO Tryz.func72 ?_
 repeat' (first|refine zz ?_|refine zx (fun _=>?_) (fun _=>?_)|fail)
 show aE _ _ _ _ _ _ _ _;refine kV [0,1] ?_;rfl
theorem Jr{L:List Int}{B:List Bool}(p:Nat)(hp:¬p<B.length) :
 bt prog 72 [.one (.ptr 0 0)] (RH L B p false) (.one (.int .u64 0)) (RH L B p true):=by
 refine cO Tryz.func72 ?_
 repeat' (first|refine zz ?_|refine zx (fun _=>?_) (fun _=>?_)|fail)
 show aE _ _ _ _ _ _ _ _;refine kV [0,1] ?_;rfl
theorem Mn{L:List Int}{B:List Bool}(h:e_ L B)(p:Nat)(hp:p<B.length) :
 bt prog 72 [.one (.ptr 0 0)] (RH L B p false) (.one (.int .u64 (b2 (B.getD p false)))) (RH L B (p+1) false):=by
 refine cO Tryz.func72 ?_;have h1:=h.le;have h2:=h.small
 have e2:b2 (B.getD p false)=L.getD ((p:Int)/8).toNat 0/2^(7-(p:Int)%8).toNat%2^1:=by
  have:=h.bit p hp;have hb:=h.byte (p/8);unfold b2;rw[<-this];unfold ll;rw[show((p:Int)/8).toNat=p/8 by omega,show(7-(p:Int)%8).toNat=7-p%8 by omega];simp only[decide_eq_true_eq];split
  ·rename_i g;rw[show(2:Int)^1=2 from rfl,g]
  ·rename_i g;rw[show(2:Int)^1=2 from rfl];omega
 have hby:=h.byte ((p:Int)/8).toNat
 have hsh:0<=L.getD ((p:Int)/8).toNat 0/2^(7-(p:Int)%8).toNat/\L.getD ((p:Int)/8).toNat 0/2^(7-(p:Int)%8).toNat<256:=⟨Int.ediv_nonneg hby.1 (Int.le_of_lt (Int.pow_pos (by decide))),Int.lt_of_le_of_lt (Int.ediv_le_self _ hby.1) hby.2⟩
 have e3:((p+1:Nat):Int)=(p:Int)+1:=by omega
 rw[e2]
 repeat' (first|refine zz ?_|refine zx (fun _=>?_) (fun _=>?_)|fail)
 show aE _ _ _ _ _ _ _ _;refine kV [0,1] ?_;rfl
theorem Jp{L:List Int}{B:List Bool}(h:e_ L B)(r:Nat×Bool) :
 bt prog 72 [.one (.ptr 0 0)] (RH L B r.1 r.2) (.one (.int .u64 (b2 (fI B r)))) (RH L B (ch B r).1 (ch B r).2):=by
 obtain⟨p,e⟩:=r
 cases e with
 | true=>exact Jq p
 | false=>
   by_cases hp:p<B.length
   ·have e1:ch B (p,false)=(p+1,false):=by simp[ch,hp]
    rw[e1];exact Mn h p hp
   ·have e1:ch B (p,false)=(p,true):=by simp[ch,hp]
    have e2:b2 (fI B (p,false))=0:=by
     unfold b2 fI;rw[List.getD_eq_getElem?_getD,List.getElem?_eq_none (by simp only[];omega)];rfl
    rw[e1,e2];exact Jr p hp
theorem aG{α : Type}{l:List α}{i:Nat}{a : α}(h:l[i]? = some a):l.set i a=l:=by
 apply List.ext_getElem?;intro j;rw[List.getElem?_set];split
 ·rename_i e;subst e;rw[h];simp[(List.getElem?_eq_some_iff.1 h).1]
 ·rfl
theorem F4{f:FuncId}{more:List XV}(hm:∀τ,e9 τ more more)(hmo:gW 2 more){v:XV}[b8 v]{L:List Int}{B:List Bool}{p p':Nat}{e e':Bool}(hc:bt prog f (.one (.ptr 0 0)::more) (RH L B p e) v (RH L B p' e')){HS:aj}{i k:Nat}(hi:HS[i]? = some (gF k L B p e))(hk:HS[k]? = some (dT L))(hd:i≠k){HS':aj}(hh:HS.set i (gF k L B p' e')=HS')(hbd:Nat.blt HS'.length Mem.bound=true) :
 aA.Sound prog ⟨f,.one (.ptr i 0)::more,HS,v,HS',[i]⟩:=by
 have hh':bJ HS [i,k] [gF k L B p' e',dT L]=HS':=by
  subst hh;simp only[bJ,List.append_nil];apply List.ext_getElem?;intro j;rw[List.getElem?_set];split
  ·rename_i h;subst h;rw[List.getElem?_set,if_neg hd,hk];simp[(List.getElem?_eq_some_iff.1 hk).1]
  ·rfl
 refine bI [i,k] [i] 0 hc (by simp[hd]) ?_ ?_ ?_ rfl (.cons (by simp[XV.bK,XC.ok]) hmo) (.cons rfl (hm _)) (b8.ok _) (b8.aC _) ?_ rfl rfl hh' hbd (.inr fun j _ hj=>?_)
 ·exact .cons hi (.flat hk .nil)
 ·exact .cons (by simp[ak.bK,XC.ok]) (.flat .nil)
 ·exact .cons (by simp[ak.bK,XC.ok]) (.flat .nil)
 ·exact .cons rfl (.flat .nil)
 ·subst hh;rw[List.getElem?_set,if_neg (fun h=>hj (by rw[h];exact List.mem_singleton.2 rfl))]
theorem tx{L:List Int}{B:List Bool}(h:e_ L B)(r:Nat×Bool){z:Int}(hz:b2 (fI B r)=z){HS:aj}{i k:Nat}(hi:HS[i]? = some (gF k L B r.1 r.2))(hk:HS[k]? = some (dT L))(hd:i≠k){HS':aj}(hh:HS.set i (gF k L B (ch B r).1 (ch B r).2)=HS')(hbd:Nat.blt HS'.length Mem.bound=true) :
 aA.Sound prog ⟨72,[.one (.ptr i 0)],HS,.one (.int .u64 z),HS',[i]⟩:=by
 subst hz;exact F4 (fun _ => .nil) .nil (Jp h r) hi hk hd hh hbd
theorem F9{L:List Int}{B:List Bool}(h:e_ L B)(r:Nat×Bool) :
 bt prog 96 [.one (.ptr 0 0)] (RH L B r.1 r.2) (.one (.bool (fI B r))) (RH L B (ch B r).1 (ch B r).2):=by
 refine cO Tryz.func96 ?_
 cases hb:fI B r with
 | true=>
   repeat' (first
    |(refine qz ?_;first
     |refine cl ?_ (hi:=by exact tx h r (z:=1) (by rw[hb];rfl) rfl rfl (by decide) nL rfl))
    |refine zz ?_|refine zx (fun _=>?_) (fun _=>?_)|fail)
   show aE _ _ _ _ _ _ _ _;refine kV [0,1] ?_;rfl
 | false=>
   repeat' (first
    |(refine qz ?_;first
     |refine cl ?_ (hi:=by exact tx h r (z:=0) (by rw[hb];rfl) rfl rfl (by decide) nL rfl))
    |refine zz ?_|refine zx (fun _=>?_) (fun _=>?_)|fail)
   show aE _ _ _ _ _ _ _ _;refine kV [0,1] ?_;rfl
theorem Jw{L:List Int}{B:List Bool}(h:e_ L B)(r:Nat×Bool){HS:aj}{i k:Nat}(hi:HS[i]? = some (gF k L B r.1 r.2))(hk:HS[k]? = some (dT L))(hd:i≠k){HS':aj}(hh:HS.set i (gF k L B (ch B r).1 (ch B r).2)=HS')(hbd:Nat.blt HS'.length Mem.bound=true) :
 aA.Sound prog ⟨96,[.one (.ptr i 0)],HS,.one (.bool (fI B r)),HS',[i]⟩:=
 F4 (fun _ => .nil) .nil (F9 h r) hi hk hd hh hbd
theorem CF{L:List Int}{B:List Bool}(p:Nat)(e:Bool) :
 bt prog 94 [.one (.ptr 0 0)] (RH L B p e) (.one (.bool e)) (RH L B p e):=by
 refine cO Tryz.func94 ?_
 repeat' (first|refine zz ?_|refine zx (fun _=>?_) (fun _=>?_)|fail)
 show aE _ _ _ _ _ _ _ _;refine kV [0,1] ?_;rfl
theorem xz{L:List Int}{B:List Bool}{p:Nat}{e:Bool}{HS:aj}{i k:Nat}(hi:HS[i]? = some (gF k L B p e))(hk:HS[k]? = some (dT L))(hd:i≠k)(hbd:Nat.blt HS.length Mem.bound=true) :
 aA.Sound prog ⟨94,[.one (.ptr i 0)],HS,.one (.bool e),HS,[i]⟩:=
 F4 (fun _ => .nil) .nil (CF p e) hi hk hd (aG hi) hbd
theorem Jv{L:List Int}{B:List Bool}(p:Nat)(e:Bool) :
 bt prog 97 [.one (.ptr 0 0)] (RH L B p e) (.one (.int .i64 (if e then 3 else if p<B.length then 13 else 0))) (RH L B p e):=by
 refine cO Tryz.func97 ?_
 cases e with
 | true=>
   repeat' (first|refine zz ?_|refine zx (fun _=>?_) (fun _=>?_)|fail)
   show aE _ _ _ _ _ _ _ _;refine kV [0,1] ?_;rfl
 | false=>
   by_cases hp:p<B.length
   ·repeat' (first|refine zz ?_|refine zx (fun _=>?_) (fun _=>?_)|fail)
    show aE _ _ _ _ _ _ _ _;refine kV [0,1] ?_;rw[if_pos hp];rfl
   ·repeat' (first|refine zz ?_|refine zx (fun _=>?_) (fun _=>?_)|fail)
    show aE _ _ _ _ _ _ _ _;refine kV [0,1] ?_;rw[if_neg hp];rfl
theorem Mo{L:List Int}{B:List Bool}{p:Nat}{e:Bool}{HS:aj}{i k:Nat}(hi:HS[i]? = some (gF k L B p e))(hk:HS[k]? = some (dT L))(hd:i≠k)(hbd:Nat.blt HS.length Mem.bound=true) :
 aA.Sound prog ⟨97,[.one (.ptr i 0)],HS,.one (.int .i64 (if e then 3 else if p<B.length then 13 else 0)),HS,[i]⟩:=
 F4 (fun _ => .nil) .nil (Jv p e) hi hk hd (aG hi) hbd
theorem Ik(k:IntKind)(h:k.bits=64){x b:Int}(hx:0<=x)(hx2:x<2^62)(hb:b=0\/b=1)(hw:∀y:Int,0<=y->y<2^63->k.wrap y=y):sB k (x*2^1) b=2*x+b:=by
 unfold sB;rw[BitVec.toNat_or,BitVec.toNat_ofInt,BitVec.toNat_ofInt,h];obtain⟨n,rfl⟩:=Int.eq_ofNat_of_zero_le hx;have e1:(((n:Int)*2^1)%((2^64:Nat):Int)).toNat=2^1*n:=by omega
 have e2:(b%((2^64:Nat):Int)).toNat=b.toNat:=by rcases hb with rfl|rfl<;>rfl
 rw[e1,e2,<-Nat.two_pow_add_eq_or_of_lt (by rcases hb with rfl|rfl<;>decide),hw _ (by omega) (by omega)];omega
theorem QL(b:Bool):b2 b=0\/b2 b=1:=by cases b<;>simp[b2]
def NL(B:List Bool):Nat->Int->Nat×Bool->Int×(Nat×Bool)
 | 0,_,r=>(0,(r.1,true))
 | k+1,x,r=>
   if(ch B (ch B r)).2=true\/8190<2*x+b2 (fI B r)-1 then(0,((ch B (ch B r)).1,true))
   else if fI B (ch B r)=true then NL B k (2*x+b2 (fI B r)) (ch B (ch B r))
   else(2*x+b2 (fI B r)-1,ch B (ch B r))
def pU(B:List Bool)(r:Nat×Bool):Int×(Nat×Bool):=if fI B r=true then(0,ch B r)else NL B 13 1 (ch B r)
end Go.Proofs.YthdciapjllppjaaGreat
namespace Go.Xm
open Go.ChangeShapes Go.WideShapes Go.ChangeAt Go.RowKit Go.Deep
variable [aq]
def gn(w:World)(v:Value)(vs:List XC)(n:Nat):Prop:=
 (v = .slice none 0 0/\n=0/\vs = [])\/∃b off cap:Nat,n<=cap/\v = .slice (some ⟨b,off,none⟩) n cap/\∀(j:Nat) (c:XC),vs[j]? = some c->∀β : Env,w.cell? ⟨b,off+j,none⟩=some (c.den β)
theorem pW{P:Program}{w:World}{r:Reach}{b0:Nat}{t e:TypeId}{a:Addr}{len cap:Nat}(ht:P.underlying t=some (.slice e))(h:Cell.okWide P w r b0 t (.slice (some a) len cap)):a.spot=none:=by
 unfold Cell.okWide at h;rw[ht]at h;have hck:Cell.ok P w r b0 t (.slice (some a) len cap):=h;unfold Cell.ok at hck;rw[ht]at hck;exact hck.2.2.2.1
theorem rE{a:Addr}(h:a.spot=none)(n:Nat):a.add n=⟨a.block,a.off+n,none⟩:=by
 obtain⟨b,o,s⟩:=a;simp only at h;subst h;exact Addr.ec b o n
def numOf:Option Value->Int
 | some (.int _ z)=>z
 | _=>0
theorem Fv{H:Type}{enc:TypeId×Value->H}{P:Program}{w:World}{r:Reach}{base b0:Nat}{spare:Nat->Bool}{held:Bool}{t e:TypeId}{k:IntKind}(ht:P.underlying t=some (.slice e))(he:P.underlying e=some (.int k))(hC:P.cellsOf e=1){v:Value}(hcell:Cell.okWide P w r b0 t v){fuel:Nat}{x:DataW H×List MemPlace}(hf:DataW.trod enc P w base spare held fuel t [v]=some x) :
 ∃l:List Int,(∀z∈l,(Lit.int k z).wf=true)/\l.length<=9223372036854775807/\gn w v (il k l) l.length:=by
 rcases open_slice1 ht hC hf with⟨hcs,_⟩|⟨a,len,cap,m,n,V,D,Pl,hcs,_,hlc,hcm,hm,_,hall⟩
 ·simp only[List.cons.injEq,and_true]at hcs;exact⟨[],by simp,by simp,.inl ⟨hcs,rfl,rfl⟩⟩
 ·simp only[List.cons.injEq,and_true]at hcs;subst hcs;have hspot:=pW ht hcell;have hlm:len<=m:=by rw[hm];split<;>omega
  have hV:∀i,i<len->w.cell? ⟨a.block,a.off+i,none⟩=some (.int k (numOf (some (V i))))/\(Lit.int k (numOf (some (V i)))).wf=true:=fun i hi=>by
   obtain⟨h1,h2⟩:=hall i (by omega);rw[rE hspot]at h1;obtain⟨z,hz,_,hwf⟩:=DataW.trod_int he h2;simp only[List.cons.injEq,and_true]at hz;rw[h1,hz];exact⟨rfl,hwf⟩
  refine⟨(List.range len).map fun i=>numOf (some (V i)),fun z hz=>?_,?_,.inr ⟨a.block,a.off,cap,by simpa using hlc,?_,fun j c hj β=>?_⟩⟩
  ·obtain⟨i,hi,rfl⟩:=List.mem_map.1 hz;exact(hV i (List.mem_range.1 hi)).2
  ·unfold maxLen at hcm;simp only[List.length_map,List.length_range];omega
  ·simp only[List.length_map,List.length_range];obtain⟨b,o,s⟩:=a;simp only at hspot;subst hspot;rfl
  ·have hjl:j<len:=by
    have:=(List.getElem?_eq_some_iff.1 hj).1;simpa [il]using this
   simp only[il,List.map_map,List.getElem?_map,List.getElem?_range hjl,Option.map_some,Option.some.injEq]at hj;subst hj;exact(hV j hjl).1
theorem uP{W:World}{v:Value}{vs:List XC}{n:Nat}(hs:vs.all XC.shut=true)(h0:n=0->vs = [])(i:Nat)(h:gn W v vs n) :
 ∃(c:XC) (o:ak) (b lo sz:Nat),NX c i n/\cS c i 0 n/\(0<vs.length->∃e,o = .cells vs e true true)/\cA o/\o.Hr=true/\(∀β m,fb β m lo sz o W.heap[b]?)/\∀(β : Env) m,i<m -> β.bG i=b -> β.base i=lo->aL β m (.one c) v:=by
 have hok:∀m,∀c∈vs,c.ok m:=fun m c hc=>XC.aY (List.all_eq_true.1 hs c hc) m
 rcases h with⟨rfl,rfl,rfl⟩|⟨b,off,cap,hle,rfl,hc⟩
 ·exact⟨.nils,.dead,0,0,0,.inl ⟨rfl,rfl⟩,.nil,fun h=>absurd h (by simp),inferInstance,rfl,fun _ _=>trivial,fun β n _ _ _=>⟨trivial,rfl⟩⟩
 ·by_cases hl:0<vs.length
  ·obtain⟨e,sz,hr⟩:=F6 (β:=Env.zero) (n:=0) (W:=W) (b:=b) (lo:=off) (vs:=vs) hl (fun j c hj=>hc j c hj _) (hok 0);refine⟨.slice i 0 n (.exact cap),.cells vs e true true,b,off,sz,.inr ⟨cap,rfl⟩,.mk hle,fun _=>⟨e,rfl⟩,iA hs,rfl,fun β m=>?_,fun β m hi hb hlo=>⟨hi,?_⟩⟩
   ·obtain⟨cs,fr,g1,g2,g3,g4,g5,g6⟩:=hr;exact⟨cs,fr,g1,g2,g3,g4,hok m,g6.trans (List.map_congr_left fun c hm=>XC.jo (List.all_eq_true.1 hs c hm) _ _)⟩
   ·simp only[XC.den,hb,hlo,Nat.add_zero]
  ·refine⟨.slice i 0 n (.exact cap),.dead,b,off,0,.inr ⟨cap,rfl⟩,.mk hle,fun h=>absurd h hl,inferInstance,rfl,fun _ _=>trivial,fun β m hi hb hlo=>⟨hi,?_⟩⟩;simp only[XC.den,hb,hlo,Nat.add_zero]
theorem RO.in{o:ak}{k:IntKind}{l:List Int}(h:0<(il k l).length->∃e,o = .cells (il k l) e true true)(hf:cA o):RO o k l:=
 ⟨fun hl=>by obtain⟨e,he⟩:=h (by rw[bz];exact hl);exact⟨e,true,true,he⟩,hf⟩
theorem DW{k:IntKind}{l:List Int}:l.length=0->il k l = []:=fun h=>by rw[List.length_eq_zero_iff.1 h];rfl
theorem lY{l:List Int}{p:Int->Prop}(h0:p 0)(h:∀z∈l,p z)(i:Nat):p (l.getD i 0):=by
 rw[List.getD_eq_getElem?_getD]
 cases hi:l[i]? with
 | none=>exact h0
 | some z=>exact h z (List.mem_of_getElem? hi)
section
variable {H:Type} {enc:TypeId×Value->H} {P:Program} {w:World} {base:Nat} {spare:Nat->Bool} {held:Bool}
end
theorem zL{α : Type}(f : α->List XC)(s:Nat)(hs:0<s):∀(l:List α),(∀a∈l,(f a).length=s)->∀j,(l.flatMap f)[j]? = (l[j/s]?).bind fun a=>(f a)[j%s]?
 | [],_,j=>by simp
 | x :: l,hl,j=>by
   have hx:=hl x (List.mem_cons_self ..);rw[List.flatMap_cons]
   by_cases hj:j<s
   ·rw[List.getElem?_append_left (by omega),Nat.div_eq_of_lt hj,Nat.mod_eq_of_lt hj];rfl
   ·rw[List.getElem?_append_right (by omega),zL f s hs l (fun b hb=>hl b (List.mem_cons_of_mem _ hb)),hx]
    obtain⟨q,rfl⟩:∃q,j=q+s:=⟨j-s,by omega⟩
    rw[Nat.add_sub_cancel,Nat.add_div_right _ hs,Nat.add_mod_right];rfl
theorem BN.in{α : Type}{enc : α->List XC}{s:Nat}[hE:nH enc s]{o:ak}{l:List α}(h:0<(fl enc l).length->∃e,o = .cells (fl enc l) e true true)(hf:cA o):BN o enc l:=
 ⟨fun hl=>by
  have hp:=hE.pos;obtain⟨e,he⟩:=h (by rw[uj];exact Nat.mul_pos hl hp)
  exact⟨e,true,true,he⟩,hf⟩
theorem yi{α : Type}{enc : α->List XC}{l:List α}:l.length=0->fl enc l = []:=fun h=>by rw[List.length_eq_zero_iff.1 h];rfl
end Go.Xm
namespace Go.Xm
variable [aq]
theorem Rel.QA{β : Env}{m m':Mem}{w:World}(h:Rel β m w){o:ak}(hp:m.push o=some m'){b sz:Nat}(ho:∀β',Ext m.n β β'->fb β' m'.n 0 sz o w.heap[b]?)(hn:∀j,j<m.n->(m.get j).live=true -> β.bG j≠b)(hlb:¬Dp β m b)(hnl:∀L,o ≠ .late L:=by intro L hL;cases hL) :
 ∃β',Ext m.n β β'/\Rel β' m' w /\ β'.bG m.n=b /\ β'.base m.n=0/\m'.n=m.n+1/\m'.get m.n=o/\∀j,j<m.n->m'.get j=m.get j:=by
 obtain⟨h1,h2,h3,h4⟩:=Mem.bu hp
 let β':Env:=⟨fun j=>if j=m.n then b else β.bG j,fun j=>if j=m.n then 0 else β.base j,fun j=>if j=m.n then sz else β.size j⟩
 have hext:Ext m.n β β':=fun j hj=>⟨by simp only[β'];rw[if_neg (by omega)],by simp only[β'];rw[if_neg (by omega)],by simp only[β'];rw[if_neg (by omega)]⟩
 have hgn:m'.get m.n=o:=by unfold Mem.get;rw[h3]
 have hgo:∀j,j<m.n->m'.get j=m.get j:=fun j hj=>by unfold Mem.get;rw[h4 j (by omega)]
 have e1 : β'.bG m.n=b:=by simp[β']
 have e2 : β'.base m.n=0:=by simp[β']
 have e3 : β'.size m.n=sz:=by simp[β']
 refine⟨β',hext,⟨by omega,cg.push h.fresh hp,fun i hi=>?_,fun i j hi hj li lj hbb=>?_,fun i hi L hL=>?_⟩,e1,e2,h2,hgn,hgo⟩
 ·by_cases hin:i=m.n
  ·subst hin;rw[hgn,e1,e2,e3];exact ho β' hext
  ·have hil:i<m.n:=by omega
   rw[hgo i hil,(hext i hil).1,(hext i hil).2.1,(hext i hil).2.2];exact(h.obj i hil).ext hext (by omega)
 ·by_cases hin:i=m.n
  ·by_cases hjn:j=m.n
   ·omega
   ·have hjl:j<m.n:=by omega
    rw[hgo j hjl]at lj;rw[hin,e1,(hext j hjl).1]at hbb;exact absurd hbb.symm (hn j hjl lj)
  ·have hil:i<m.n:=by omega
   rw[hgo i hil]at li
   by_cases hjn:j=m.n
   ·rw[hjn,e1,(hext i hil).1]at hbb;exact absurd hbb (hn i hil (ak.bO li))
   ·have hjl:j<m.n:=by omega
    rw[hgo j hjl]at lj;rw[(hext i hil).1,(hext j hjl).1]at hbb;exact h.inj i j hil hjl li lj hbb
 ·by_cases hin:i=m.n
  ·rw[hin,hgn]at hL;exact absurd hL (hnl L)
  ·have hil:i<m.n:=by omega
   rw[hgo i hil]at hL;intro k cs hk;obtain⟨g1,g2⟩:=h.late i hil L hL k cs hk;refine⟨g1,fun hne=>?_⟩;obtain⟨g3,all,e,fr,g4,g5⟩:=g2 hne;rw[(hext i hil).1];refine⟨fun⟨j,hj,lj,hbb⟩=>?_,all,e,fr,g4,g5.trans (List.map_congr_left fun c hc=>(XC.oq (g1 c hc) (hext i hil).1).symm)⟩
   by_cases hjn:j=m.n
   ·rw[hjn,e1]at hbb;exact hlb ⟨i,hil,L,k,cs,hL,hk,hne,hbb.symm⟩
   ·have hjl:j<m.n:=by omega
    rw[hgo j hjl]at lj;rw[(hext j hjl).1]at hbb;exact g3 ⟨j,hjl,lj,hbb⟩
theorem Rel.OD{β : Env}{m:Mem}{w:World}(h:Rel β m w){k:Nat}(hl:Dp β m k):k<w.heap.size:=by
 obtain⟨i,hi,L,q,cs,e1,e2,e3,rfl⟩:=hl;obtain⟨_,all,e,fr,h4,_⟩:=(h.late i hi L e1 q cs e2).2 e3;exact(Array.getElem?_eq_some_iff.1 h4).1
abbrev Qq:=TypeId×List XC×Option Nat
def LZ(k:Option Nat)(n:Nat):XC:=match k with
 | .none => .ptr n 0
 | .some k => .slice n 0 k (.exact k)
def Ro(k:Option Nat)(b:Nat):Value:=match k with
 | .none => .pointer (some ⟨b,0,none⟩)
 | .some k => .slice (some ⟨b,0,none⟩) k k
theorem OP{k:Option Nat}{β : Env}{n b:Nat}(h1 : β.bG n=b)(h2 : β.base n=0):(LZ k n).den β = Ro k b:=by
 cases k<;>simp only[LZ,Ro,XC.den,h1,h2,Nat.add_zero]
theorem Rp{k:Option Nat}{n m:Nat}(h:n<m):(LZ k n).ok m:=by
 cases k<;>exact h
def LI:Op->Bool
 | .alloc _=>true
 | .buildSlice _ _ _=>true
 | _=>false
structure Qr(P:Program)(g:Nat->XV)(o:Oper)(t:Qq):Prop where
 run:∀(β : Env) (n:Nat) (w:World) (ev:Operand->Value),(∀x,aL β n (af g x) (ev x))->∃vs:Array Value,(execOp ev o).run P w = .ok (.value (Ro t.2.2 w.heap.size)) (w.alloc (.cells vs t.1))/\vs.toList=t.2.1.map (·.den β)/\∀c∈t.2.1,c.ok n
theorem KC{P : Program}{O:dm}{ops:Array Oper}{g:Nat->XV}{o:Oper}{m:Mem}{dd:Out}(hop:LI o.op=true)(hg:o.guard = .none)(h:ji O P ops g o m=some dd):∃t:Qq,(m.push (.cells t.2.1 t.1 false false)=some dd.m/\dd.x = .one (LZ t.2.2 m.n))/\dd.eff=true/\dd.fp = .none/\Qr P g o t:=by
 have hw:aw ops g o=some true:=by unfold aw;rw[hg]
 unfold ji at h;rw[hw]at h;simp only at h
 have go:∀(x:Option (XV×Mem)),dJ O P (af g) o.op = .none->eX P (af g) o.op = .none->cf P (af g) o.op m=x->c6 O P (af g) o.op m = .none->∃v m',x=some (v,m')/\dd.m=m'/\dd.x=v/\dd.eff=true/\dd.fp = .none:=fun x n1 n2 n3 n4=>by
  simp only[dG,n1,n2,n3]at h
  cases x with
  | none=>simp only[n4]at h;cases h
  | some p=>
    obtain⟨v,m'⟩:=p;simp only at h;cases h;exact⟨v,m',rfl,rfl,rfl,rfl,rfl⟩
 have hcase:(∃t,o.op = .alloc t)\/∃t len parts,o.op = .buildSlice t len parts:=by
  unfold LI at hop;split at hop
  ·rename_i t hq;exact .inl ⟨t,hq⟩
  ·rename_i t len parts hq;exact .inr ⟨t,len,parts,hq⟩
  ·cases hop
 rcases hcase with⟨t,hop⟩|⟨t,len,parts,hop⟩
 ·obtain⟨v,m',e1,e2,e3,e4,e5⟩:=go (oD P t m) (by unfold dJ;rw[hop];rfl) (by rw[hop];rfl) (by rw[hop];rfl) (by rw[hop];rfl);unfold oD y8 at e1;split at e1
  ·rename_i zs hz;split at e1
   ·rename_i m1 hp;cases e1;refine⟨(t,zs,.none),⟨by rw[e2];exact hp,e3⟩,e4,e5,⟨fun β n w ev _=>?_⟩⟩;obtain⟨ti,v,z1,z2,z3,z4⟩:=ij hz β n;exact⟨v.cells,by simp only[execOp,hop,Instr.alloc,Sem.run_bind,cV z1 z2,Result.andThen_ok,pS,Sem.run_pure];rfl,by rw[z3],z4⟩
   ·cases e1
  ·cases e1
 ·obtain ⟨v, m',e1,e2,e3,e4,e5⟩:=go (dz P t len (parts.toList.map fun p=>(p.1,af g p.2)) m) (by unfold dJ;rw[hop];rfl) (by rw[hop];rfl) (by rw[hop];rfl) (by rw[hop];rfl);unfold dz at e1;split at e1
  ·rename_i e he;split at e1
   ·rename_i sz zs hs hz;split at e1
    ·rename_i hc;split at e1
     ·rename_i cs hf;split at e1
      ·rename_i m1 hp;cases e1;refine⟨(e,cs,.some len),⟨by rw[e2];exact hp,e3⟩,e4,e5,⟨fun β n w ev hev=>?_⟩⟩;obtain⟨ti,v,h1,h2,h3,h4⟩:=ij hz β n;obtain⟨g1,g2⟩:=qh h4 (len*sz) _ h3 (.inl hc.2)
       obtain⟨h5,h6⟩:=jF (β := β) (n:=n) (vs:=(parts.map fun(p:Nat×Operand)=>(p.1,ev p.2)).toList) hf g2 (by
        rw[Array.toList_map]
        exact dj.n9 _ _ _ fun p _=>⟨rfl,hev p.2⟩)
       refine⟨(cs.map (·.den β)).toArray,?_,rfl,h6⟩;have hu:=jG he;have hz00:len*sz=0->((Array.range (len*sz)).map fun j=>(#[]:Array Value)[j%(#[]:Array Value).size]!)=((eC zs (len*sz)).map (·.den β)).toArray:=fun hz0=>by rw[hz0];simp[eC]
       simp only[execOp,hop,Sem.run_bind,Instr.buildSlice,run_underlying hu,Result.andThen_ok,br hs];rw[if_neg (by omega)]
       by_cases hz0:len*sz=0
       ·rw[if_pos hz0];simp only[Sem.run_bind,Sem.run_pure,Result.andThen_ok];rw[hz00 hz0];simp only[h5];rfl
       ·rw[if_neg hz0];simp only[Sem.run_bind,cV h1 h2,Result.andThen_ok,Sem.run_pure,g1,h5];rfl
      ·cases e1
     ·cases e1
    ·cases e1
   ·cases e1
  ·cases e1
theorem Li{m m':Mem}(h:rC m m'):m.cg->∀j,m.n<=j->j<m'.n->0<(m'.f4 j).ver:=by
 induction h with
 | same m=>intro _ j h1 h2;omega
 | put m i o=>intro _ j h1 h2;rw[Mem.dZ]at h2;omega
 | @push m m' o hp=>
   intro _ j h1 h2;obtain⟨_,k2,k3,_⟩:=Mem.bu hp;obtain rfl:j=m.n:=by omega
   rw[k3];exact Nat.one_pos
 | @trans a b c hab hbc ih1 ih2=>
   intro hf j h1 h2;obtain⟨m1,f1⟩:=hab.mono hf;obtain⟨m2,_⟩:=hbc.mono f1
   by_cases hj:j<b.n
   ·exact Nat.lt_of_lt_of_le (ih1 hf j h1 hj) (m2.2 j).1
   ·exact ih2 f1 j (by omega) h2
theorem LN{m m':Mem}(h:rC m m')(hf:m.cg)(ws:List Nat)(hv:∀j,j∉ws->(m'.f4 j).ver=(m.f4 j).ver)(ho:∀j,j∈ws->(m'.get j).own=true)(hbd:m'.n<=Mem.bound):iw m m':=fun hb=>by
 obtain⟨h1,h2⟩:=h.mono hf;refine⟨hbd,h1.1,fun j hj hl=>?_⟩
 by_cases hw:j∈ws
 ·exact .inl (ho j hw)
 ·have hlt:j<m.n:=by
   rcases Nat.lt_or_ge j m.n with g|g
   ·exact g
   ·have:=Li h hf j g hj;rw[hv j hw,hf j g]at this;omega
  refine .inr ⟨hlt,?_⟩;show(m.f4 j).obj=(m'.f4 j).obj;rw[(h1.2 j).2 (hv j hw)]
def lh(hs:aj):List Oper->List Ab->Bool
 | o::l,b::k=>(yx o||b.ws.all fun j=>(hs.getD j .dead).own&&k.all fun c => !(c.ws.contains j))&&lh hs l k
 | _,_=>true
theorem tU{hs:aj}:∀(l:List Oper) (k:List Ab),lh hs l k=true->∀(i:Nat) (o:Oper) (b:Ab),l[i]? = some o->k[i]? = some b->yx o=true\/∀j,j∈b.ws->(hs.getD j .dead).own=true/\∀e c,i<e->k[e]? = some c->j∉c.ws
 | o :: l,b::k,h,0,o',b',ho,hb=>by
   simp only[List.getElem?_cons_zero,Option.some.injEq]at ho hb;subst ho hb;simp only[lh,Bool.and_eq_true,Bool.or_eq_true,List.all_eq_true]at h
   rcases h.1 with h1|h1
   ·exact .inl h1
   ·refine .inr fun j hj=>⟨(h1 j hj).1,fun e c he hc hin=>?_⟩
    obtain⟨e,rfl⟩:∃e',e=e'+1:=⟨e-1,by omega⟩
    have hc:k[e]? = some c:=by simpa using hc
    have h2:=(h1 j hj).2 c (List.mem_of_getElem? hc);rw[List.contains_iff_mem.2 hin]at h2;cases h2
 | o :: l,b::k,h,i+1,o',b',ho,hb=>by
   simp only[lh,Bool.and_eq_true]at h
   rcases tU l k h.2 i o' b' (by simpa using ho) (by simpa using hb)with h1|h1
   ·exact .inl h1
   ·refine .inr fun j hj=>⟨(h1 j hj).1,fun e c he hc=>?_⟩
    obtain⟨e,rfl⟩:∃e',e=e'+1:=⟨e-1,by omega⟩
    exact(h1 j hj).2 e c (by omega) (by simpa using hc)
 | [],_,_,i,_,_,ho,_=>by simp at ho
 | _::_,[],_,i,_,_,_,hb=>by simp at hb
section
variable {O:dm} {P:Program} {ops:Array Oper} {nt:Nat} {tr:List (Mem×Out)} {rs:Nat->T XV} {ms:Nat->Mem} {ds:Nat->Out}
structure ta(P:Program)(ops:Array Oper)(ms:Nat->Mem)(ds:Nat->Out)(w0:World)(f d:Nat)(t:Qq)(b:Nat)(β : Env)(q:Nat)(g:Nat->XV)(listed:Array Bool)(a:Act)(w:World):Prop where
 le:q<=f
 l:listed.getD f false=true
 un:g d = .undef
 ge:w0.heap.size<=b
 lt:b<w.heap.size
 bG:∃vs:Array Value,w.heap[b]? = some (.cells vs t.1 (0,0))/\vs.toList=t.2.1.map (·.den β)
 zok:∀c∈t.2.1,c.ok (ms q).n
 qj:¬kY β (ms q) b
 wa:¬Dp β (ms q) b
 tmp:a.tmps.getD d undef=Ro t.2.2 b
structure Qc(ops:Array Oper)(ms:Nat->Mem)(ds:Nat->Out)(f d:Nat)(t:Qq):Prop where
 look:∀(i:Nat) (oi:Oper),ops[i]? = some oi->i≠f->d∈oi.looksAt ops->∀e,e<f->(ds e).eff=true->lg ops i e
 rd:∀(i:Nat),i<ops.size->i≠f->(ds i).fp=some (ms f).n->∀e,e<f->(ds e).eff=true->lg ops i e
 ro:∀j,j<(ms f).n->((ms f).get j).live=true->((ms f).get j).own=true\/(j<(ms 0).n/\((ms 0).get j).live=true)
 lt:f<ops.size
 op:∃o,ops[f]? = some o/\LI o.op=true/\o.guard = .none/\o.dst=some d
 cn:(ms f).push (.cells t.2.1 t.1 false false)=some (ds f).m/\(ds f).x = .one (LZ t.2.2 (ms f).n)/\(ds f).eff=true
structure KZ(ops:Array Oper)(ms:Nat->Mem)(ds:Nat->Out)(F:Nat->Prop):Prop where
 ord:∀i e,i<ops.size->e<ops.size->(ds i).eff=true->(ds e).eff=true->e<i->¬F i->lg ops i e
 ver:∀i e fp,i<ops.size->e<ops.size->(ds i).fp=some fp->(ds e).eff=true->i≠e->¬lg ops i e->¬lg ops e i->((ds e).m.f4 fp).ver=((ms e).f4 fp).ver
 flt:∀f,F f->∃d t,Qc ops ms ds f d t
structure BM(O:dm)(P:Program)(ops:Array Oper)(nt:Nat)(rs:Nat->T XV)(ms:Nat->Mem)(ds:Nat->Out)(F:Nat->Prop)(β0:Env)(w0:World)(dfs:List Deferred)(er:Nat->Option Nat)(listed:Array Bool)(a:Act)(w:World)(β : Env)(q:Nat)(g:Nat->XV):Prop where
 size:listed.size=ops.size
 cl:∀i j,lg ops i j->listed.getD i false=true->listed.getD j false=true
 qle:q<=ops.size
 eff:∀e,e<ops.size->(ds e).eff=true->er e = .none->(listed.getD e false=true↔e<q)
 rel:Rel β (ms q) w
 ir:gB β (ms q).n nt g a.tmps
 g1:∀(i:Nat) (o:Oper) (t:Nat),listed.getD i false=true->er i = .none->ops[i]? = some o->o.dst=some t->g t=(ds i).x
 g2:∀t:Nat,(∀(i:Nat) (o:Oper),listed.getD i false=true->ops[i]? = some o->o.dst≠some t)->g t=(rs 0).get .undef t
 st:Step β0 (ms 0) w0 β (ms q) w
 ea:∀f b,er f=some b->F f/\∃d t,Qc ops ms ds f d t/\ta P ops ms ds w0 f d t b β q g listed a w
 dist:∀f f' b,er f=some b->er f'=some b->f=f'
 dfs:a.defers=dfs
def Norm(ds:Nat->Out)(er:Nat->Option Nat)(listed:Array Bool):Prop:=∀f b,er f=some b->∃e,e<f/\(ds e).eff=true/\listed.getD e false=false
def tN(O:dm)(P:Program)(ops:Array Oper)(nt:Nat)(rs:Nat->T XV)(ms:Nat->Mem)(ds:Nat->Out)(F:Nat->Prop)(β0:Env)(w0:World)(dfs:List Deferred)(er:Nat->Option Nat)(listed:Array Bool)(a:Act)(w:World):Prop:=
 ∃β q g,BM O P ops nt rs ms ds F β0 w0 dfs er listed a w β q g/\Norm ds er listed
theorem BM.N6(hs:d_ ops nt)(hT:Trace O P ops nt ops.toList tr rs ms ds){F:Nat->Prop}{β0:Env}{w0:World}(hR0:Rel β0 (ms 0) w0){dfs:List Deferred}{er:Nat->Option Nat}{listed:Array Bool}{a:Act}{w:World}{β : Env}{q:Nat}{g:Nat->XV}
 (h:BM O P ops nt rs ms ds F β0 w0 dfs er listed a w β q g) {f b:Nat}(hb:er f=some b) (hmin:∀f' b',er f'=some b'->f'≠f->f<f') (hall:∀e,e<f->(ds e).eff=true->listed.getD e false=true) :
 ∃β' g',BM O P ops nt rs ms ds F β0 w0 dfs (fun j=>if j=f then .none else er j) listed a w β' (f+1) g':=by
 obtain⟨hF,d,t,hd,he⟩:=h.ea f b hb;obtain⟨o,ho,hop,hgd,hdst⟩:=hd.op;obtain⟨o',ho',_,hdo,hrs,hms⟩:=cz hT hd.lt;rw[ho]at ho';cases ho';obtain⟨hp,hx,hef⟩:=hd.cn;rw[<-hms]at hp;have hlt:=hd.lt;have hqf:=he.le
 have noer:∀e,e<f->er e = .none:=fun e hlt=>by
  cases hx:er e with
  | none=>rfl
  | some b'=>exact absurd (hmin e b' hx (by omega)) (by omega)
 have hmq:ms f=ms q:=by
  have:=oU hT q (f-q) (by omega) (fun e he1 he2=>by
   cases hxe:(ds e).eff
   ·rfl
   ·have h1:=hall e (by omega) hxe;have:=(h.eff e (by omega) hxe (noer e (by omega))).1 h1
    omega)
  rw[show q+(f-q)=f by omega]at this;exact this
 have hm:=h.rel;have hr:=h.ir;have hst:=h.st;rw[<-hmq]at hm hr hst;have himg:=he.qj;rw[<-hmq]at himg;have hlat:=he.wa;rw[<-hmq]at hlat;obtain⟨vs,v3,vd⟩:=he.bG;have zok:=he.zok;rw[<-hmq]at zok
 have hnl:∀j,j<(ms f).n->((ms f).get j).live=true -> β.bG j≠b:=fun j hj hl hb=>by
  rcases hd.ro j hj hl with h1|⟨h1,h2⟩
  ·exact himg ⟨j,hj,h1,hb⟩
  ·have h3:=hR0.lt h1 h2;have h4:=(hst.ext j h1).1;have:=he.ge;omega
 have vlen:vs.size=t.2.1.length:=by
  have:=congrArg List.length vd;simpa using this
 obtain⟨β',k1,k2,k3,k4,k5,k6,k7⟩:=hm.QA hp (b:=b) (sz:=t.2.1.length) (fun β' hext=>by
  have hn':=(Mem.bu hp).2.1;refine⟨vs,(0,0),v3,by omega,by simp,fun _=>⟨rfl,rfl⟩,fun c hc=>XC.dg (by omega) (zok c hc),?_⟩
  rw[List.drop_zero,<-vlen,<-Array.length_toList,List.take_length,vd,dL hext zok]) hnl hlat
 have hsame:∀j,j<(ms (f+1)).n->∀L,(ms (f+1)).get j = .late L->j<(ms f).n/\(ms f).get j = .late L:=fun j hj L hL=>by
  by_cases hjn:j=(ms f).n
  ·rw[hjn,k6]at hL;cases hL
  ·have hjl:j<(ms f).n:=by omega
   rw[k7 j hjl]at hL;exact⟨hjl,hL⟩
 have hdlt:d<nt:=hs.dst f o d ho hdst;refine⟨β',fun t'=>if t'=d then .one (LZ t.2.2 (ms f).n)else g t',h.size,h.cl,by omega,fun e he1 he2 he3=>?_,k2,⟨hr.size,hr.small,fun t' ht'=>?_,fun t' ht'=>?_⟩,fun i oi t' hl hei hoi hdi=>?_,fun t' ht'=>?_,?_,fun f' b' hf'=>?_,fun f1 f2 b' h1 h2=>?_,h.dfs⟩
 ·by_cases hef:e=f
  ·subst hef;exact⟨fun _=>by omega,fun _=>he.l⟩
  ·rw[if_neg hef]at he3;have:=h.eff e he1 he2 he3;constructor
   ·intro h;have:=this.1 h;omega
   ·intro h;exact hall e (by omega) he2
 ·by_cases htd:t'=d
  ·subst htd;simp only[if_true];rw[he.tmp];exact⟨Rp (by omega),(OP k3 k4).symm⟩
  ·simp only[htd,if_false];exact(hr.rel t' ht').ext k1 (by omega)
 ·have htd:t'≠d:=by omega
  simp only[htd,if_false];exact hr.out t' ht'
 ·by_cases hif:i=f
  ·subst hif;rw[ho]at hoi;cases hoi;rw[hdst]at hdi;cases hdi;simp only[if_true];exact hx.symm
  ·have htd:t'≠d:=fun e=>hif (hs.uniq i f oi o t' hoi ho hdi (by rw[hdst,e]))
   simp only[htd,if_false];rw[if_neg hif]at hei;exact h.g1 i oi t' hl hei hoi hdi
 ·have htd:t'≠d:=fun e=>ht' f o he.l ho (by rw[hdst,e])
  simp only[htd,if_false];exact h.g2 t' ht'
 ·refine⟨by have:=hst.le;omega,fun j hj=>?_,k2,hst.os,hst.tape,hst.output,hst.size,hst.frame,fun k hk hi=>?_,fun k hk hl=>hst.wa k hk (hl.yB k1 hsame)⟩
  ·have h1:=hst.ext j hj;have h2:=k1 j (by have:=hst.le;omega);exact⟨h2.1.trans h1.1,h2.2.1.trans h1.2.1,h2.2.2.trans h1.2.2⟩
  ·obtain⟨j,hj,hl,hb⟩:=hi
   by_cases hjn:j=(ms f).n
   ·rw[hjn,k3]at hb;have:=he.ge;omega
   ·have hjl:j<(ms f).n:=by omega
    rw[k7 j hjl]at hl;rw[(k1 j hjl).1]at hb;exact hst.qj k hk ⟨j,hjl,hl,hb⟩
 ·by_cases hff:f'=f
  ·rw[if_pos hff]at hf';cases hf'
  ·rw [if_neg hff]at hf';obtain⟨hF',d',t',hd',he'⟩:=h.ea f' b' hf';obtain⟨o2,ho2,_,_,hdst2⟩:=hd'.op;have hdd:d'≠d:=fun e=>hff (hs.uniq f' f o2 o d' ho2 ho hdst2 (by rw[hdst,e]))
   refine⟨hF',d',t',hd',⟨hmin f' b' hf' hff,he'.l,?_,he'.ge,he'.lt,?_,fun c hc=>XC.dg (by have:=(Mem.bu hp).2.1;rw[<-hmq];omega) (he'.zok c hc),fun hi=>?_,fun hl=>he'.wa (hmq▸hl.yB k1 hsame),he'.tmp⟩⟩
   ·simp only[hdd,if_false];exact he'.un
   ·obtain⟨vs2,w1,w2⟩:=he'.bG;exact⟨vs2,w1,by rw[w2,dL k1 (fun c hc=>hmq▸he'.zok c hc)]⟩
   ·obtain⟨j,hj,hl,hbb⟩:=hi
    by_cases hjn:j=(ms f).n
    ·rw[hjn,k3]at hbb;exact hff (h.dist f' f b' hf' (by rw[hb,hbb]))
    ·have hjl:j<(ms f).n:=by omega
     rw[k7 j hjl]at hl;rw[(k1 j hjl).1]at hbb;exact he'.qj (hmq▸⟨j,hjl,hl,hbb⟩)
 ·by_cases h1f:f1=f
  ·rw[if_pos h1f]at h1;cases h1
  ·by_cases h2f:f2=f
   ·rw[if_pos h2f]at h2;cases h2
   ·rw[if_neg h1f]at h1;rw[if_neg h2f]at h2;exact h.dist f1 f2 b' h1 h2
theorem least{p:Nat->Prop}:∀n,p n->∃m,p m/\∀k,p k->m<=k:=by
 intro n
 induction n using Nat.strongRecOn with
 | _ n ih=>
   intro hp
   by_cases h:∃k,k<n/\p k
   ·obtain⟨k,hk,hpk⟩:=h;exact ih k hk hpk
   ·exact⟨n,hp,fun k hk=>Nat.le_of_not_lt fun hlt=>h ⟨k,hlt,hk⟩⟩
theorem BM.norm(hs:d_ ops nt)(hT:Trace O P ops nt ops.toList tr rs ms ds){F:Nat->Prop}{β0:Env}{w0:World}(hR0:Rel β0 (ms 0) w0){dfs:List Deferred}{listed:Array Bool}{a:Act}{w:World} :
 ∀(n:Nat) (er:Nat->Option Nat) (β : Env) (q:Nat) (g:Nat->XV),BM O P ops nt rs ms ds F β0 w0 dfs er listed a w β q g->(List.range ops.size).countP (fun j=>(er j).isSome)<=n->∃er',tN O P ops nt rs ms ds F β0 w0 dfs er' listed a w:=by
 intro n
 induction n with
 | zero=>
   intro er β q g h hc;refine⟨er,β,q,g,h,fun f b hf=>?_⟩;obtain⟨_,d,t,hd,_⟩:=h.ea f b hf;have:0<(List.range ops.size).countP (fun j=>(er j).isSome):=List.countP_pos_iff.2 ⟨f,List.mem_range.2 hd.lt,by simp[hf]⟩;omega
 | succ n ih=>
   intro er β q g h hc
   by_cases hN:Norm ds er listed
   ·exact⟨er,β,q,g,h,hN⟩
   ·obtain⟨f,hf⟩:=Classical.not_forall.1 hN;obtain⟨b,hb⟩:=Classical.not_forall.1 hf;have hb1:er f=some b:=Classical.byContradiction fun h'=>hb fun h2=>absurd h2 h'
    have hb2:¬∃e,e<f/\(ds e).eff=true/\listed.getD e false=false:=fun h'=>hb fun _=>h'
    obtain⟨f0,hf0,hmin⟩:=least (p:=fun j=>∃b,er j=some b) f ⟨b,hb1⟩;obtain⟨b0,hb0⟩:=hf0;have hle:=hmin f ⟨b,hb1⟩;obtain⟨_,d,t,hd,_⟩:=h.ea f0 b0 hb0
    obtain⟨β',g',h'⟩:=h.N6 hs hT hR0 hb0 (fun f' b' hf' hne=>by have:=hmin f' ⟨b',hf'⟩;omega) (fun e e1 e2=>by
     cases hx:listed.getD e false with
     | true=>rfl
     | false=>exact absurd ⟨e,by omega,e2,hx⟩ hb2)
    refine ih _ β' _ g' h' ?_
    have hcnt:=kp (p:=fun j=>(if j=f0 then Option.none else er j).isSome) (q:=fun j=>(er j).isSome) (i:=f0) (fun j hj=>by
     by_cases hjf:j=f0
     ·simp[hjf]at hj
     ·simpa [hjf]using hj) (by simp[hb0]) (by simp) (List.range ops.size) (List.mem_range.2 hd.lt)
    omega
theorem tN.step(hO:aS P O)(hs:d_ ops nt)(hnt:nt<1000000)(hT:Trace O P ops nt ops.toList tr rs ms ds){F:Nat->Prop}(hd:KZ ops ms ds F)(h0:(ms 0).cg){β0:Env}{w0:World}(hR0:Rel β0 (ms 0) w0){dfs:List Deferred}{er:Nat->Option Nat}{listed:Array Bool}{a:Act}{w:World}
 (h:tN O P ops nt rs ms ds F β0 w0 dfs er listed a w) {i:Nat}(hi:i∈Region.ready .any ops listed) (hif:F i->∀e,e<i->(ds e).eff=true->listed.getD e false=true) {K:Act->World->Prop} {Q:Exit->Act->World->Prop}
 (hK:∀a' w' er',tN O P ops nt rs ms ds F β0 w0 dfs er' (listed.setIfInBounds i true) a' w'->K a' w'):wpOp P ops Q i K a w:=by
 obtain⟨hun,oi,hoi,hedges⟩:=mem_ready.1 hi;obtain⟨β,q,g,h,hN⟩:=h;have hilt:i<ops.size:=(Array.getElem?_eq_some_iff.1 hoi).1;have hil:i<listed.size:=by rw[h.size];exact hilt
 have hun':listed.getD i false=false:=by rw[<-dQ hil];exact hun
 have hq:=h.qle;have heff:=h.eff;have hm:=h.rel;have hr:=h.ir;have hg1:=h.g1;have hg2:=h.g2;have hst:=h.st
 have hanc:∀i' j,lg ops i' j->i'=i->listed.getD j false=true:=by
  intro i' j ha
  induction ha with
  | edge ho he hb=>
    intro e;subst e;rw[hoi]at ho;cases ho;exact hedges _ he hb
  | trans h1 h2 ih1 _=>intro e;exact h.cl _ _ h2 (ih1 e)
 have hanc':∀j,lg ops i j->listed.getD j false=true:=fun j ha=>hanc i j ha rfl
 have hno:∀j,lg ops j i->listed.getD j false=false:=fun j ha=>by
  cases hx:listed.getD j false
  ·rfl
  ·have:=h.cl j i ha hx;rw[hun']at this;cases this
 have early:∀f b,er f=some b->∃d t,Qc ops ms ds f d t/\ta P ops ms ds w0 f d t b β q g listed a w/\i≠f/\d∉oi.looksAt ops/\∃e,e<f/\(ds e).eff=true/\listed.getD e false=false:=fun f b hb=>by
  obtain⟨hF,d,t,hfl,h1⟩:=h.ea f b hb;obtain⟨e,e1,e2,e3⟩:=hN f b hb;have hne:i≠f:=fun e'=>by rw[e',h1.l]at hun';cases hun'
  refine⟨d,t,hfl,h1,hne,fun hlk=>?_,e,e1,e2,e3⟩;have:=hanc' e (hfl.look i oi hoi hne hlk e e1 e2);rw[e3]at this;cases this
 have eri:er i = .none:=by
  cases hx:er i with
  | none=>rfl
  | some b=>obtain⟨_,_,_,_,hne,_⟩:=early i b hx;exact absurd rfl hne
 obtain⟨o',ho',_,hdo,hrs,hms⟩:=cz hT hilt;rw[hoi]at ho';cases ho';obtain⟨hr1,hr2⟩:=oX hs hnt hT i (by omega)
 have hlook:∀t∈oi.looksAt ops,g t=(rs i).get .undef t:=by
  intro t ht
  by_cases hw:∃(j:Nat) (oj:Oper),ops[j]? = some oj/\oj.dst=some t
  ·obtain⟨j,oj,hj,hdj⟩:=hw
   have hjf:er j = .none:=by
    cases hx:er j with
    | none=>rfl
    | some b=>
      obtain⟨d,t',hfl,_,_,hdl,_⟩:=early j b hx;obtain⟨o2,ho2,_,_,hd2⟩:=hfl.op;rw[hj]at ho2;cases ho2;rw[hdj]at hd2;cases hd2;exact absurd ht hdl
   have nolisted:listed.getD j false=false->g t=(rs 0).get .undef t:=fun hlj=>hg2 t (fun k ok hk hok e=>by
    have:=hs.uniq k j ok oj t hok hj e hdj;subst this
    rw[hlj]at hk;cases hk)
   have nobefore:¬j<i->(rs i).get .undef t=(rs 0).get .undef t:=fun hji=>hr2 t (fun k ok hk hok e=>by
    have:=hs.uniq k j ok oj t hok hj e hdj
    omega)
   rcases Nat.lt_trichotomy j i with hji|hji|hji
   ·have:=(hs.look i j oi oj t hoi hj hdj ht (by omega)).1 hji;rw[hg1 j oj t (hanc' j this) hjf hj hdj,hr1 j oj t hji hj hdj]
   ·subst hji;rw[nolisted hun',nobefore (by omega)]
   ·have:=(hs.look i j oi oj t hoi hj hdj ht (by omega)).2 hji;rw[nolisted (hno j this),nobefore (by omega)]
  ·have hnone:∀(k:Nat) (ok:Oper),ops[k]? = some ok->ok.dst≠some t:=fun k ok hok e=>hw ⟨k,ok,hok,e⟩
   rw[hg2 t (fun k ok _ hok=>hnone k ok hok),hr2 t (fun k ok _ hok=>hnone k ok hok)]
 have hdstlt:∀t,oi.dst=some t->t<nt:=fun t ht=>hs.dst i oi t hoi ht
 have hcl:∀k j,lg ops k j->(listed.setIfInBounds i true).getD k false=true->(listed.setIfInBounds i true).getD j false=true:=by
  intro k j ha hk;rw[aW hil]at hk ⊢
  by_cases hij:i=j
  ·simp[hij]
  ·simp only[hij,if_false]
   by_cases hik:i=k
   ·subst hik;exact hanc' j ha
   ·simp only[hik,if_false]at hk;exact h.cl k j ha hk
 have hgs1:∀{x:XV},x=(ds i).x->∀(k:Nat) (ok:Oper) (t:Nat),(listed.setIfInBounds i true).getD k false=true->er k = .none->ops[k]? = some ok->ok.dst=some t->(if oi.dst=some t then x else g t)=(ds k).x:=by
  intro x hx k ok t hk hkf hok ht;rw[aW hil]at hk
  by_cases hik:i=k
  ·subst hik;rw[hoi]at hok;cases hok;rw[if_pos ht,hx]
  ·simp only[hik,if_false]at hk;have:oi.dst≠some t:=fun e=>hik (hs.uniq i k oi ok t hoi hok e ht)
   rw[if_neg this];exact hg1 k ok t hk hkf hok ht
 have hgs2:∀{x:XV}(t:Nat),(∀(k:Nat) (ok:Oper),(listed.setIfInBounds i true).getD k false=true->ops[k]? = some ok->ok.dst≠some t)->(if oi.dst=some t then x else g t)=(rs 0).get .undef t:=by
  intro x t ht;have hi':(listed.setIfInBounds i true).getD i false=true:=by rw[aW hil];simp
  rw[if_neg (ht i oi hi' hoi)];refine hg2 t (fun k ok hk hok=>ht k ok ?_ hok);rw[aW hil];split
  ·rfl
  ·exact hk
 have iq:∀{β':Env} {m':Mem} {w':World} {u:Value} {q':Nat} {x:XV},Step β (ms q) w β' m' w'->m'=ms q'->(∀f b,er f=some b->q'<=f)->∀f b,er f=some b->F f/\∃d t,Qc ops ms ds f d t/\ta P ops ms ds w0 f d t b β' q' (fun t=>if oi.dst=some t then x else g t) (listed.setIfInBounds i true) (a.put oi.dst u) w':=by
  intro β' m' w' u q' x hs' hq' hle f b hb;obtain⟨d,t0,hfl,h1,hne,_,_⟩:=early f b hb;obtain⟨of,hof,_,_,hofd⟩:=hfl.op;have hnd:oi.dst≠some d:=fun e=>hne (hs.uniq i f oi of d hoi hof e hofd)
  subst hq';refine⟨(h.ea f b hb).1,d,t0,hfl,hle f b hb,?_,?_,h1.ge,Nat.lt_of_lt_of_le h1.lt hs'.size,?_,fun c hc=>XC.dg hs'.le (h1.zok c hc),fun hi=>h1.qj (hs'.qj b h1.lt hi),fun hl=>(hs'.wa b h1.lt hl).elim h1.qj h1.wa,?_⟩
  ·rw[aW hil];simp[h1.l]
  ·simp only[hnd,if_false];exact h1.un
  ·obtain⟨vs,v3,vd⟩:=h1.bG;exact⟨vs,by rw[hs'.frame b h1.lt h1.qj];exact v3,by rw[vd,dL hs'.ext h1.zok]⟩
  ·rw[<-h1.tmp]
   cases hod:oi.dst with
   | none=>rfl
   | some d'=>
     have:d'≠d:=fun e=>hnd (by rw[hod,e])
     simp[Act.put,Array.getD_eq_getD_getElem?,Array.getElem?_setIfInBounds_ne this]
 have qle:∀f b,er f=some b->q<=f:=fun f b hb=>by
  obtain⟨_,_,_,h1,_⟩:=early f b hb;exact h1.le
 have hsz:(listed.setIfInBounds i true).size=ops.size:=by simp[h.size]
 cases he:(ds i).eff with
 | false =>
   have hobj : ∀fp,(ds i).fp=some fp->(ms q).get fp=(ms i).get fp:=by
    intro fp hfp
    have verF:∀f b,er f=some b->((ds f).m.f4 fp).ver=((ms f).f4 fp).ver:=fun f b hb=>by
     obtain⟨d,t,hfl,_,hne,_,e,e1,e2,e3⟩:=early f b hb;obtain⟨of,hof,hofop,hofg,hofd⟩:=hfl.op;obtain⟨o',ho',_,hdo',_,_⟩:=cz hT hfl.lt;rw[hof]at ho';cases ho';obtain⟨hp,_⟩:=hfl.cn;obtain⟨_,_,_,h4⟩:=Mem.bu hp
     rw[h4 fp (fun e'=>by
      have:=hanc' e (hfl.rd i hilt hne (by rw[hfp,e']) e e1 e2)
      rw[e3]at this;cases this)]
    rcases Nat.le_total q i with hqi|hqi
    ·have := nS hO hT h0 fp q (i-q) (by omega) (fun e he1 he2 he3=>by
      cases hef:er e with
      | some b=>exact verF e b hef
      | none=>
        have hne:i≠e:=by omega
        refine hd.ver i e fp hilt (by omega) hfp he3 hne (fun ha=>?_) (fun ha=>?_)
        ·have:=(heff e (by omega) he3 hef).1 (hanc' e ha);omega
        ·have:=lg.lt hs ha
         omega)
     rw[show q+(i-q)=i by omega]at this;exact this.symm
    ·have := nS hO hT h0 fp i (q-i) (by omega) (fun e he1 he2 he3=>by
      have hne:i≠e:=fun e'=>by subst e';rw[he]at he3;cases he3
      refine hd.ver i e fp hilt (by omega) hfp he3 hne (fun ha=>?_) (fun ha=>?_)
      ·have:=lg.lt hs ha;omega
      ·have h1:=hno e ha
       have h3:er e = .none:=by
        cases hx:er e with
        | none=>rfl
        | some b=>have:=qle e b hx;omega
       have h2:=(heff e (by omega) he3 h3).2 (by omega)
       rw[h1]at h2;cases h2)
     rw[show i+(q-i)=q by omega]at this;exact this
   have hago:=xL hdo (g':=g) hlook he (m':=ms q) hobj;refine vL hO hoi hago hm hr fun u β' w' hu hs'=>hK _ _ er ?_
   refine⟨β',q,fun t=>if oi.dst=some t then(ds i).x else g t,⟨hsz,hcl,hq,?_,hs'.rel,gB.put (hr.ext hs'.ext hs'.le) oi.dst hu hdstlt,hgs1 rfl,hgs2,hst.trans hs',iq hs' rfl qle,h.dist,?_⟩,fun f b hb=>?_⟩
   ·intro e hel hee hef;rw[aW hil];have hie:i≠e:=fun x=>by subst x;rw[he]at hee;cases hee
    simp only[hie,if_false];exact heff e hel hee hef
   ·rw[dM,h.dfs]
   ·obtain⟨e,e1,e2,e3⟩:=hN f b hb;refine⟨e,e1,e2,?_⟩;rw[aW hil];have hie:i≠e:=fun x=>by subst x;rw[he]at e2;cases e2
    simp only[hie,if_false];exact e3
 | true =>
   have hbefore:∀e,e<i->(ds e).eff=true->listed.getD e false=true:=fun e hlt hee=>by
    by_cases hii:F i
    ·exact hif hii e hlt hee
    ·exact hanc' e (hd.ord i e hilt (by omega) he hee hlt hii)
   have hilf:∀f b,er f=some b->i<f:=fun f b hb=>by
    obtain⟨_,_,_,_,hne,_,e,e1,e2,e3⟩:=early f b hb
    rcases Nat.lt_or_ge i f with h1|h1
    ·exact h1
    ·have:=hbefore e (by omega) e2;rw[e3]at this;cases this
   have hqi:q<=i:=by
    rcases Nat.lt_or_ge i q with hlt|hge
    ·have:=(heff i hilt he eri).2 hlt;rw[hun']at this;cases this
    ·exact hge
   have hmq:ms i=ms q:=by
    have := oU hT q (i-q) (by omega) (fun e he1 he2=>by
     cases hx:(ds e).eff
     ·rfl
     ·have h3:er e = .none:=by
       cases hx:er e with
       | none=>rfl
       | some b=>have:=hilf e b hx;omega
      have h2:=(heff e (by omega) hx h3).1 (hbefore e (by omega) hx)
      omega)
    rw[show q+(i-q)=i by omega]at this;exact this
   have hago:=jj hdo (g':=g) hlook;rw[hmq]at hago
   have heff':∀e,e<ops.size->(ds e).eff=true->er e = .none->((listed.setIfInBounds i true).getD e false=true↔e<i+1):=by
    intro e hel hee hef;rw[aW hil]
    by_cases hie:i=e
    ·subst hie;simp
    ·simp only[hie,if_false];constructor
     ·intro hle;have:=(heff e hel hee hef).1 hle;omega
     ·intro hlt;exact hbefore e (by omega) hee
   refine vL hO hoi hago hm hr fun u β' w' hu hs'=>?_
   rw[<-hms]at hu hs';have hput:(a.put oi.dst u).defers=dfs:=by rw[dM,h.dfs]
   have hr':=gB.put (hr.ext hs'.ext hs'.le) oi.dst hu hdstlt;obtain⟨er',h'⟩:=BM.norm hs hT hR0 _ er β' (i+1) (fun t=>if oi.dst=some t then(ds i).x else g t) ⟨hsz,hcl,by omega,heff',hs'.rel,hr',hgs1 rfl,hgs2,hst.trans hs',iq hs' rfl hilf,h.dist,hput⟩ (Nat.le_refl _);exact hK _ _ er' h'
theorem tN.early(hs:d_ ops nt)(hnt:nt<1000000)(hT:Trace O P ops nt ops.toList tr rs ms ds){F:Nat->Prop}{β0:Env}{w0:World}{dfs:List Deferred}{er:Nat->Option Nat}{listed:Array Bool}{a:Act}{w:World}
 (h:tN O P ops nt rs ms ds F β0 w0 dfs er listed a w) {f d:Nat} {t0:Qq}(hF:F f) (hd:Qc ops ms ds f d t0) (hi:f∈Region.ready .any ops listed) (hmore:∃e,e<f/\(ds e).eff=true/\listed.getD e false=false) {K:Act->World->Prop} {Q:Exit->Act->World->Prop}
 (hK:∀a' w' er',tN O P ops nt rs ms ds F β0 w0 dfs er' (listed.setIfInBounds f true) a' w'->K a' w'):wpOp P ops Q f K a w:=by
 obtain⟨hun,oi,hoi,hedges⟩:=mem_ready.1 hi;obtain⟨β,q,g,h,hN⟩:=h;have hflt:=hd.lt;have hil:f<listed.size:=by rw[h.size];exact hflt
 have hun':listed.getD f false=false:=by rw[<-dQ hil];exact hun
 have hm:=h.rel;have hr:=h.ir;have hst:=h.st;obtain⟨of,hof,hofop,hofg,hofd⟩:=hd.op;obtain rfl:oi=of:=by rw[hof]at hoi;exact(Option.some.inj hoi).symm
 obtain⟨o',ho',_,hdo,_,_⟩:=cz hT hflt;obtain rfl:oi=o':=by rw[hof]at ho';exact Option.some.inj ho'
 obtain⟨hp,hx,hfe⟩:=hd.cn
 have erf:er f = .none:=by
  cases hx:er f with
  | none=>rfl
  | some b=>
    obtain⟨_,_,_,_,h1⟩:=h.ea f b hx;rw[h1.l]at hun';cases hun'
 have hanc':∀j,lg ops f j->listed.getD j false=true:=fun j ha=>by
  have key:∀i' j,lg ops i' j->i'=f->listed.getD j false=true:=by
   intro i' j ha
   induction ha with
   | edge ho he hb=>
     intro e;subst e;rw[hof]at ho;cases ho;exact hedges _ he hb
   | trans h1 h2 ih1 _=>intro e;exact h.cl _ _ h2 (ih1 e)
  exact key f j ha rfl
 have hqf:q<=f:=by
  rcases Nat.lt_or_ge f q with hlt|hge
  ·have:=(h.eff f hflt hfe erf).2 hlt;rw[hun']at this;cases this
  ·exact hge
 have hdlt:d<nt:=hs.dst f oi d hof hofd
 have hno:∀j,lg ops j f->listed.getD j false=false:=fun j ha=>by
  cases hx:listed.getD j false
  ·rfl
  ·have:=h.cl j f ha hx;rw[hun']at this;cases this
 have early:∀f' b,er f'=some b->∃d t,Qc ops ms ds f' d t/\ta P ops ms ds w0 f' d t b β q g listed a w/\f≠f'/\d∉oi.looksAt ops/\∃e,e<f'/\(ds e).eff=true/\listed.getD e false=false:=fun f' b hb=>by
  obtain⟨hF,d,t,hfl,h1⟩:=h.ea f' b hb;obtain⟨e,e1,e2,e3⟩:=hN f' b hb;have hne:f≠f':=fun e'=>by rw[e',h1.l]at hun';cases hun'
  refine⟨d,t,hfl,h1,hne,fun hlk=>?_,e,e1,e2,e3⟩;have:=hanc' e (hfl.look f oi hof hne hlk e e1 e2);rw[e3]at this;cases this
 obtain⟨hr1,hr2⟩:=oX hs hnt hT f (by omega)
 have hlook:∀t∈oi.looksAt ops,g t=(rs f).get .undef t:=by
  intro t ht
  by_cases hw:∃(j:Nat) (oj:Oper),ops[j]? = some oj/\oj.dst=some t
  ·obtain⟨j,oj,hj,hdj⟩:=hw
   have hjf:er j = .none:=by
    cases hx:er j with
    | none=>rfl
    | some b=>
      obtain⟨d,t',hfl,_,_,hdl,_⟩:=early j b hx;obtain⟨o2,ho2,_,_,hd2⟩:=hfl.op;rw[hj]at ho2;cases ho2;rw[hdj]at hd2;cases hd2;exact absurd ht hdl
   have nolisted:listed.getD j false=false->g t=(rs 0).get .undef t:=fun hlj=>h.g2 t (fun k ok hk hok e=>by
    have:=hs.uniq k j ok oj t hok hj e hdj;subst this
    rw[hlj]at hk;cases hk)
   have nobefore:¬j<f->(rs f).get .undef t=(rs 0).get .undef t:=fun hji=>hr2 t (fun k ok hk hok e=>by
    have:=hs.uniq k j ok oj t hok hj e hdj
    omega)
   rcases Nat.lt_trichotomy j f with hji|hji|hji
   ·have:=(hs.look f j oi oj t hof hj hdj ht (by omega)).1 hji;rw[h.g1 j oj t (hanc' j this) hjf hj hdj,hr1 j oj t hji hj hdj]
   ·subst hji;rw[nolisted hun',nobefore (by omega)]
   ·have:=(hs.look f j oi oj t hof hj hdj ht (by omega)).2 hji;rw[nolisted (hno j this),nobefore (by omega)]
  ·have hnone:∀(k:Nat) (ok:Oper),ops[k]? = some ok->ok.dst≠some t:=fun k ok hok e=>hw ⟨k,ok,hok,e⟩
   rw[h.g2 t (fun k ok _ hok=>hnone k ok hok),hr2 t (fun k ok _ hok=>hnone k ok hok)]
 have hago:=jj hdo (g':=g) hlook;obtain⟨t1,⟨y1,y2⟩,_,_,ymk⟩:=KC hofop hofg hago
 obtain rfl:t1=t0:=by
  obtain⟨a1,a2,a3⟩:=t1;obtain⟨b1,b2,b3⟩:=t0;have e1:=(Mem.bu y1).2.2.1;have e2:=(Mem.bu hp).2.2.1;rw[e1]at e2
  have e2:ak.cells a2 a1 false false=ak.cells b2 b1 false false:=by
   injection e2
  have y2:(ds f).x = .one (LZ a3 (ms f).n):=y2;have hx:(ds f).x = .one (LZ b3 (ms f).n):=hx;rw[y2]at hx
  injection e2 with e3 e4
  subst e3 e4;cases a3<;>cases b3<;>simp[LZ]at hx<;>first|rfl|(subst hx;rfl)
 obtain⟨vs,hrun0,vd,zok⟩:=ymk.run β (ms q).n w a.eval (fun x=>hr.eval x);have hheap:(w.alloc (.cells vs t1.1)).heap=w.heap.push (.cells vs t1.1 (0,0)):=rfl
 have hb0:∀k,k<w.heap.size->(w.alloc (.cells vs t1.1)).heap[k]? = w.heap[k]?:=fun k hk=>by
  rw[hheap,Array.getElem?_push,if_neg (Nat.ne_of_lt hk)]
 have hrel:Rel β (ms q) (w.alloc (.cells vs t1.1)):=by
  refine⟨hm.bnd,hm.fresh,fun j hj=>?_,hm.inj,fun j hj L hL=>(hm.late j hj L hL).iq hj (Nat.le_refl _) (Ext.refl _ _) (fun k hk _=>hb0 k hk) fun _ _ h=>h⟩;have:=hm.obj j hj
  cases hg:(ms q).get j with
  | dead=>trivial
  | late L=>trivial
  | cells c1 c2 c3 c4=>
    rw[hb0 _ (hm.lt hj (by rw[hg];rfl)),<-hg];exact this
  | map es=>
    rw[hb0 _ (hm.lt hj (by rw[hg];rfl)),<-hg];exact this
 have hstep:Step β (ms q) w β (ms q) (w.alloc (.cells vs t1.1)):=
  ⟨Nat.le_refl _,Ext.refl _ _,hrel,rfl,rfl,rfl,by rw[hheap];simp,fun k hk _=>hb0 k hk,fun _ _ h=>h,fun _ _ h => .inr h⟩
 have hst':=hst.trans hstep;have hsz':(w.alloc (.cells vs t1.1)).heap.size=w.heap.size+1:=by rw[hheap];simp
 unfold wpOp;rw[hof];simp only[];have hwant:Region.wanted oi (yielded ops a.tmps)=true:=by unfold Region.wanted;rw[hofg]
 rw[if_pos hwant];refine .inl ?_;unfold Oper.wp;rw[hrun0];refine hK _ _ (fun j=>if j=f then some w.heap.size else er j) ⟨β,q,fun t=>if t=d then .undef else g t,⟨by simp[h.size],fun k j ha hk=>?_,h.qle,fun e hel hee hef=>?_,hrel,⟨?_,hr.small,fun t ht=>?_,fun t ht=>?_⟩,fun k ok t hk hkf hok ht=>?_,fun t ht=>?_,hst',fun f' b hb=>?_,fun f1 f2 b h1 h2=>?_,?_⟩,fun f' b hb=>?_⟩
 ·rw [aW hil]at hk ⊢
  by_cases hij:f=j
  ·simp[hij]
  ·simp only[hij,if_false]
   by_cases hik:f=k
   ·subst hik;exact hanc' j ha
   ·simp only[hik,if_false]at hk;exact h.cl k j ha hk
 ·rw[aW hil]
  by_cases hfe:e=f
  ·rw[if_pos hfe]at hef;cases hef
  ·rw[if_neg hfe]at hef;have:f≠e:=fun e'=>hfe e'.symm
   simp only[this,if_false];exact h.eff e hel hee hef
 ·rw[hofd];simpa [Act.put]using hr.size
 ·by_cases htd:t=d
  ·simp only[htd,if_true];trivial
  ·simp only[htd,if_false]
   have:(a.put oi.dst (Ro t1.2.2 w.heap.size)).tmps.getD t undef=a.tmps.getD t undef:=by
    rw[hofd];simp[Act.put,Array.getD_eq_getD_getElem?,Array.getElem?_setIfInBounds_ne (Ne.symm htd)]
   rw[this];exact hr.rel t ht
 ·by_cases htd:t=d
  ·simp[htd]
  ·simp only[htd,if_false];exact hr.out t ht
 ·by_cases hkf':k=f
  ·rw[if_pos hkf']at hkf;cases hkf
  ·rw[if_neg hkf']at hkf;rw[aW hil]at hk;simp only[Ne.symm hkf',if_false]at hk;have htd:t≠d:=fun e=>hkf' (hs.uniq k f ok oi t hok hof ht (by rw[hofd,e]))
   simp only[htd,if_false];exact h.g1 k ok t hk hkf hok ht
 ·have htd':t≠d:=fun e=>ht f oi (by rw[aW hil];simp) hof (by rw[hofd,e])
  simp only[htd',if_false];refine h.g2 t (fun k ok hk hok=>ht k ok ?_ hok);rw[aW hil];split
  ·rfl
  ·exact hk
 ·by_cases hff:f'=f
  ·subst hff;rw[if_pos rfl]at hb;cases hb;refine⟨hF,d,t1,hd,⟨hqf,by rw[aW hil];simp,by simp,by have:=hst.size;omega,by omega,⟨vs,?_,vd⟩,zok,fun hi=>?_,fun hl=>(by have:=hm.OD hl;omega),?_⟩⟩
   ·rw[hheap];simp
   ·obtain⟨j,hj,hl,hb⟩:=hi;have:=hm.lt hj (ak.bO hl);omega
   ·rw[hofd];simp[Act.put,Array.getD_eq_getD_getElem?,hr.size,hdlt]
  ·rw[if_neg hff]at hb;obtain⟨hF',d',t',hd',he'⟩:=h.ea f' b hb;obtain⟨o2,ho2,_,_,hdst2⟩:=hd'.op;have hdd:d'≠d:=fun e=>hff (hs.uniq f' f o2 oi d' ho2 hof hdst2 (by rw[hofd,e]))
   refine⟨hF',d',t',hd',⟨he'.le,?_,?_,he'.ge,by have:=he'.lt;omega,?_,he'.zok,he'.qj,he'.wa,?_⟩⟩
   ·rw[aW hil];split
    ·rfl
    ·exact he'.l
   ·simp only[hdd,if_false];exact he'.un
   ·obtain⟨vs2,v3,vd2⟩:=he'.bG;exact⟨vs2,by rw[hb0 _ he'.lt];exact v3,vd2⟩
   ·rw[<-he'.tmp,hofd];simp[Act.put,Array.getD_eq_getD_getElem?,Array.getElem?_setIfInBounds_ne (Ne.symm hdd)]
 ·by_cases h1f:f1=f
  ·by_cases h2f:f2=f
   ·rw[h1f,h2f]
   ·rw[if_pos h1f]at h1;rw[if_neg h2f]at h2;cases h1;obtain⟨_,_,_,_,he'⟩:=h.ea f2 _ h2;have:=he'.lt;omega
  ·by_cases h2f:f2=f
   ·rw[if_neg h1f]at h1;rw[if_pos h2f]at h2;cases h2;obtain⟨_,_,_,_,he'⟩:=h.ea f1 _ h1;have:=he'.lt;omega
   ·rw[if_neg h1f]at h1;rw[if_neg h2f]at h2;exact h.dist f1 f2 b h1 h2
 ·rw[dM,h.dfs]
 ·by_cases hff:f'=f
  ·obtain⟨e,e1,e2,e3⟩:=hmore;refine⟨e,by omega,e2,?_⟩;rw[aW hil];have:f≠e:=by omega
   simp only[this,if_false];exact e3
  ·replace hb:er f'=some b:=(if_neg hff).symm.trans hb
   obtain⟨e,e1,e2,e3⟩:=hN f' b hb
   by_cases hef:e=f
   ·obtain⟨e',e1',e2',e3'⟩:=hmore;refine⟨e',by omega,e2',?_⟩;rw[aW hil];have:f≠e':=by omega
    simp only[this,if_false];exact e3'
   ·refine⟨e,e1,e2,?_⟩;rw[aW hil];have:f≠e:=fun h=>hef h.symm
    simp only[this,if_false];exact e3
theorem tN.any(hO:aS P O)(hs:d_ ops nt)(hnt:nt<1000000)(hT:Trace O P ops nt ops.toList tr rs ms ds){F:Nat->Prop}(hd:KZ ops ms ds F)(h0:(ms 0).cg){β0:Env}{w0:World}(hR0:Rel β0 (ms 0) w0){dfs:List Deferred}{Q:Exit->Act->World->Prop}
 (hQ:zr β0 (ms 0) w0 nt dfs (rs ops.size) (ms ops.size) (Q .normal)):∀(fuel:Nat) (er:Nat->Option Nat) (listed:Array Bool) (a:Act) (w:World),tN O P ops nt rs ms ds F β0 w0 dfs er listed a w ->
 (List.range ops.size).countP (fun i=>listed.getD i false==false)<=fuel->wpAny P .any ops Q fuel listed a w:=by
 have fin:∀(er:Nat->Option Nat) (listed:Array Bool) (a:Act) (w:World),tN O P ops nt rs ms ds F β0 w0 dfs er listed a w->(∀i,i<ops.size->listed.getD i false=true)->Q .normal a w:=by
  intro er listed a w h hall;obtain⟨β,q,g,h,hN⟩:=h
  have nn:∀f,er f = .none:=fun f=>by
   cases hx:er f with
   | none=>rfl
   | some b=>
     obtain⟨_,d,t,hfl,_⟩:=h.ea f b hx;obtain⟨e,e1,e2,e3⟩:=hN f b hx;have:=hall e (by have:=hfl.lt;omega);rw[e3]at this;cases this
  have hq:=h.qle;have hr:=h.ir;have hst:=h.st
  have hmq:ms ops.size=ms q:=by
   have:=oU hT q (ops.size-q) (by omega) (fun e he1 he2=>by
    cases hx:(ds e).eff
    ·rfl
    ·have:=(h.eff e (by omega) hx (nn e)).1 (hall e (by omega))
     omega)
   rw[show q+(ops.size-q)=ops.size by omega]at this;exact this
  obtain⟨hr1,hr2⟩:=oX hs hnt hT ops.size (Nat.le_refl _)
  have hge:g=(rs ops.size).get .undef:=by
   funext t
   by_cases hw:∃(j:Nat) (oj:Oper),ops[j]? = some oj/\oj.dst=some t
   ·obtain⟨j,oj,hj,hdj⟩:=hw;have hjl:j<ops.size:=(Array.getElem?_eq_some_iff.1 hj).1;rw[h.g1 j oj t (hall j hjl) (nn j) hj hdj,hr1 j oj t hjl hj hdj]
   ·have hnone:∀(k:Nat) (ok:Oper),ops[k]? = some ok->ok.dst≠some t:=fun k ok hok e=>hw ⟨k,ok,hok,e⟩
    rw[h.g2 t (fun k ok _ hok=>hnone k ok hok),hr2 t (fun k ok _ hok=>hnone k ok hok)]
  subst hge;rw[<-hmq]at hr hst;exact hQ a β w hr h.dfs hst
 intro fuel
 induction fuel with
 | zero=>
   intro er listed a w h hc
   have hall:∀i,i<ops.size->listed.getD i false=true:=fun i hi=>by
    cases hx:listed.getD i false
    ·have:0<(List.range ops.size).countP (fun i=>listed.getD i false==false):=List.countP_pos_iff.2 ⟨i,List.mem_range.2 hi,by simp[hx]⟩;omega
    ·rfl
   refine⟨?_,fin er listed a w h hall⟩;apply List.eq_nil_iff_forall_not_mem.2;intro i hi;obtain⟨hun,oi,hoi,_⟩:=mem_ready.1 hi;obtain⟨_,_,_,h,_⟩:=h;have hilt:i<ops.size:=(Array.getElem?_eq_some_iff.1 hoi).1;rw[dQ (by rw[h.size];exact hilt),hall i hilt]at hun;cases hun
 | succ fuel ih=>
   intro er listed a w h hc;have hsize:listed.size=ops.size:=by obtain⟨_,_,_,h,_⟩:=h;exact h.size
   refine⟨fun hnil=>fin er listed a w h (fun i hi=>?_),fun i hi=>?_⟩
   ·induction i using Nat.strongRecOn with
    | _ i ihi=>
      cases hx:listed.getD i false
      ·exfalso;have ho:ops[i]? = some ops[i]:=by simp[hi]
       have:i∈Region.ready .any ops listed:=mem_ready.2 ⟨by rw[dQ (by rw[hsize];exact hi)];exact hx,ops[i],ho,fun e he hb=>by
        have hlt:=hs.back i ops[i] ho e he hb
        exact ihi e.on hlt (by omega)⟩
       rw[hnil]at this;cases this
      ·rfl
   ·obtain⟨hun,oi,hoi,_⟩:=mem_ready.1 hi;have hilt:i<ops.size:=(Array.getElem?_eq_some_iff.1 hoi).1;have hil:i<listed.size:=by rw[hsize];exact hilt
    have hcnt:=kp (p:=fun j=>(listed.setIfInBounds i true).getD j false==false) (q:=fun j=>listed.getD j false==false) (i:=i) (fun j hj=>by
     rw[aW hil]at hj;split at hj
     ·simp at hj
     ·exact hj) (by rw[<-dQ hil,hun];rfl) (by rw[aW hil];simp) (List.range ops.size) (List.mem_range.2 hilt)
    by_cases hF:F i
    ·by_cases hmore:∃e,e<i/\(ds e).eff=true/\listed.getD e false=false
     ·obtain⟨d,t,hfl⟩:=hd.flt i hF;exact h.early hs hnt hT hF hfl hi hmore fun a' w' er' h'=>ih er' _ a' w' h' (by omega)
     ·refine h.step hO hs hnt hT hd h0 hR0 hi (fun _ e e1 e2=>?_) fun a' w' er' h'=>ih er' _ a' w' h' (by omega)
      cases hx:listed.getD e false with
      | true=>rfl
      | false=>exact absurd ⟨e,e1,e2,hx⟩ hmore
    ·exact h.step hO hs hnt hT hd h0 hR0 hi (fun e=>absurd e hF) fun a' w' er' h'=>ih er' _ a' w' h' (by omega)
theorem CE(hO:aS P O)(hP:P.follows .mixedOrders=true)(hs:d_ ops nt){id:Nat}(hT:Trace O P ops nt ops.toList tr rs ms ds){F:Nat->Prop}(hd:KZ ops ms ds F){r:T XV}{m:Mem}(h1:rs 0=r)(h2:ms 0=m){β : Env}{w:World}{a:Act}(hr:lV β m.n nt r a.tmps)(hm:Rel β m w)
 {Q:Exit->Act->World->Prop}(hq:zr β m w nt a.defers (rs ops.size) (ms ops.size) (Q .normal)):(Code.region id ops true).wp P Q a w:=by
 subst h1;subst h2;have hdr:=Step.drew hm;refine wp_region_any hP ?_;refine tN.any hO hs hr.small hT hd hm.fresh hm (β0 := β) (w0:=w) (dfs:=a.defers) (Q:=Q) hq _ (fun _ => .none) _ a _ ?_ ?_
 ·refine⟨β,0,(rs 0).get .undef,⟨by simp,fun i j ha hi=>?_,by omega,fun e he _ _=>?_,hdr.rel,hr,fun i o t hi=>?_,fun t _=>rfl,hdr,fun f b hb=>(by cases hb),fun f f' b hb=>(by cases hb),rfl⟩,fun f b hb=>(by cases hb)⟩
  ·exfalso
   by_cases hlt:i<ops.size<;>simp[Array.getD_eq_getD_getElem?,hlt]at hi
  ·simp[Array.getD_eq_getD_getElem?,he]
  ·exfalso
   by_cases hlt:i<ops.size<;>simp[Array.getD_eq_getD_getElem?,hlt]at hi
 ·exact Nat.le_trans List.countP_le_length (by simp)
def tq(bs:List Nat)(fs:List Nat)(i:Nat)(di:Ab)(e:Nat)(de:Ab):Bool:=
 !de.eff||i==e||((!(di.eff&&decide (e<i)&&!fs.contains i)||bit bs i e)&&
  (match di.fp with
    | .none=>true
    | some fp=>bit bs i e||bit bs e i||!(de.ws.contains fp)))
def Nu(ops:Array Oper)(bs:List Nat)(tr:List Ab)(f:Nat):Bool:=
 match ops[f]?,tr[f]? with
 | some o,some bf=>match LI o.op,o.guard,o.dst with
   | true,.none,some d=>(List.range ops.size).all (fun i=>i==f||(match ops[i]? with
      | .none=>true
      | some oi => !((oi.looksAt ops).contains d||(match tr[i]? with | .none=>false|some di=>(match di.fp with | .none=>false|some p=>bf.ws.contains p)))||(List.range f).all fun e=>match tr[e]? with
        | .none=>true
        | some de => !de.eff||bit bs i e))
   | _,_,_=>false
 | _,_=>false
def t_(ops:Array Oper)(bs:List Nat)(tr:List Ab)(fs:List Nat):Bool:=
 fs.all (Nu ops bs tr)&&(List.range tr.length).all fun i=>match tr[i]? with
  | .none=>true
  | some di=>(!di.eff&&di.fp.isNone)||(List.range tr.length).all fun e=>match tr[e]? with
    | .none=>true
    | some de=>tq bs fs i di e de
theorem B5(hO : aS P O)(hT:Trace O P ops nt ops.toList tr rs ms ds)(h0f:(ms 0).cg)(hb:(ms 0).n<=Mem.bound){ab:List Ab}{hz:aj}(hno:lh hz ops.toList ab=true)(hfin:a_ (ms ops.size) hz)(ht:N3 tr ab){fs:List Nat}(h:t_ ops (iQ ops.toList) ab fs=true):KZ ops ms ds (·∈fs):=by
 have fre:∀i,i<=ops.size->(ms i).cg:=by
  intro i
  induction i with
  | zero=>exact fun _=>h0f
  | succ i ih=>
    intro hi;obtain⟨o,ho,_,hx,_,hm⟩:=cz hT (show i<ops.size by omega);rw[hm];exact((lD hO hx).mono (ih (by omega))).2
 have grow:∀q i,i+q<=ops.size->(ms i).n<=(ms (i+q)).n:=by
  intro q
  induction q with
  | zero=>exact fun i _=>Nat.le_refl _
  | succ q ih=>
    intro i hi;obtain⟨o,ho,_,hx,_,hm⟩:=cz hT (show i+q<ops.size by omega);rw[show i+(q+1)=(i+q)+1 by omega,hm];exact Nat.le_trans (ih i (by omega)) ((lD hO hx).mono (fre _ (by omega))).1.1
 have key : ∀i,i<=ops.size->iw (ms 0) (ms i)/\(ms i).cg:=by
  intro i
  induction i with
  | zero=>exact fun _=>⟨.same _,h0f⟩
  | succ i ih=>
    intro hi;obtain⟨h1,h2⟩:=ih (by omega);obtain⟨o,ho,_,hx,_,hm⟩:=cz hT (show i<ops.size by omega);have hfr:=fre (i+1) hi;obtain⟨_,_,hti,_⟩:=cz hT (show i<ops.size by omega);obtain⟨b,hbi,_,_,k3⟩:=dj.get? ht i _ hti;have hbn:(ms (i+1)).n<=Mem.bound:=Nat.le_trans (by have:=grow (ops.size-(i+1)) (i+1) (by omega);rw[show i+1+(ops.size-(i+1))=ops.size by omega]at this;exact this) hfin.bnd;refine⟨h1.trans ?_,hfr⟩
    rcases tU ops.toList ab hno i o b (by simpa using ho) hbi with hn|hn
    ·rw[hm];exact PV hn hx
    ·rw [hm]at hbn ⊢;refine LN (lD hO hx) h2 b.ws k3 (fun j hj=>?_) hbn;obtain⟨o1,o2⟩:=hn j hj
     have same:∀q,i+1+q<=ops.size->((ms (i+1+q)).f4 j).obj=((ms (i+1)).f4 j).obj:=by
      intro q
      induction q with
      | zero=>exact fun _=>rfl
      | succ q ihq=>
        intro hq;obtain⟨o',ho',hte,hx',_,hm'⟩:=cz hT (show i+1+q<ops.size by omega);obtain⟨b',hbe,_,_,k3'⟩:=dj.get? ht (i+1+q) _ hte;have hv:=k3' j (o2 (i+1+q) b' (by omega) hbe);rw[show i+1+(q+1)=(i+1+q)+1 by omega,hm',<-ihq (by omega)];have:=(((lD hO hx').mono (fre _ (by omega))).1.2 j).2 hv;rw[this]
     have h5:=same (ops.size-(i+1)) (by omega);rw[show i+1+(ops.size-(i+1))=ops.size by omega]at h5;rw[<-hm];show(((ms (i+1)).f4 j).obj).own=true;rw[<-h5];show((ms ops.size).get j).own=true
     by_cases hjl:j<(ms ops.size).n
     ·have h6:=hfin.get? hjl;rw[List.getD_eq_getElem?_getD,h6]at o1;exact o1
     ·rw[List.getD_eq_getElem?_getD,List.getElem?_eq_none (by have:=hfin.n;omega)]at o1;cases o1
 unfold t_ at h;simp only[Bool.and_eq_true]at h;obtain⟨hfl,hdy⟩:=h;have hl:tr.length=ab.length:=dj.length ht
 have at_:∀i,i<ops.size->∃b,ab[i]? = some b/\(ds i).eff=b.eff/\(ds i).fp=b.fp/\∀j,j∉b.ws->((ds i).m.f4 j).ver=((ms i).f4 j).ver:=fun i hi=>by
  obtain⟨_,_,hti,_⟩:=cz hT hi;obtain⟨b,hbi,k1,k2,k3⟩:=dj.get? ht i _ hti;exact⟨b,hbi,k1,k2,k3⟩
 have pair:∀i e bi be,ab[i]? = some bi->ab[e]? = some be->((!bi.eff&&bi.fp.isNone)||tq (iQ ops.toList) fs i bi e be)=true:=fun i e bi be hi he=>by
  have hil:i<ab.length:=(List.getElem?_eq_some_iff.1 hi).1;have hel:e<ab.length:=(List.getElem?_eq_some_iff.1 he).1;have h3:=List.all_eq_true.1 hdy i (List.mem_range.2 hil);rw[hi]at h3;simp only[Bool.or_eq_true]at h3 ⊢
  rcases h3 with h3|h3
  ·exact .inl h3
  ·have h4:=List.all_eq_true.1 h3 e (List.mem_range.2 hel);rw[he]at h4;exact .inr h4
 refine⟨fun i e hi he h1 h2 hlt hF=>?_,fun i e fp hi he h1 h2 hne ha hb=>?_,fun f hf=>?_⟩
 ·obtain⟨bi,hbi,k1,k2,k3⟩:=at_ i hi;obtain⟨be,hbe,j1,j2,j3⟩:=at_ e he;have hp:=pair i e bi be hbi hbe;rw[k1]at h1;rw[j1]at h2;have hq:(i==e)=false:=by simp;omega
  have hc:fs.contains i=false:=by simpa using hF
  simp[tq,h1,h2,hq,hlt,hc]at hp;exact fx ops i e (hp.1.resolve_left hF)
 ·obtain⟨bi,hbi,k1,k2,k3⟩:=at_ i hi;obtain⟨be,hbe,j1,j2,j3⟩:=at_ e he;have hp:=pair i e bi be hbi hbe;rw[k2]at h1;rw[j1]at h2;have hq:(i==e)=false:=by simpa using hne
  have n1:bit (iQ ops.toList) i e=false:=by
   cases hx:bit (iQ ops.toList) i e
   ·rfl
   ·exact absurd (fx ops i e hx) ha
  have n2:bit (iQ ops.toList) e i=false:=by
   cases hx:bit (iQ ops.toList) e i
   ·rfl
   ·exact absurd (fx ops e i hx) hb
  unfold tq at hp;rw[h1,h2,hq,n1,n2]at hp;simp only[Bool.not_true,Bool.false_or,Option.isNone_some,Bool.and_false,Bool.and_eq_true,Bool.or_false,Bool.not_eq_true']at hp;exact j3 fp (by have:=hp.2;simpa using this)
 ·have hf1 := List.all_eq_true.1 hfl f hf;unfold Nu at hf1;split at hf1
  ·rename_i o bf hof hbf;split at hf1
   ·rename_i d hop hg hd;have hflt:f<ops.size:=(Array.getElem?_eq_some_iff.1 hof).1;obtain⟨o',ho',htf,hxf,_,_⟩:=cz hT hflt;obtain rfl:o=o':=by rw[hof]at ho';exact Option.some.inj ho'
    obtain⟨hkr,hfr⟩:=key f (by omega);obtain⟨bf',hbf',k1,k2,k3⟩:=at_ f hflt;obtain rfl:bf=bf':=by rw[hbf]at hbf';exact Option.some.inj hbf'
    obtain⟨t,⟨hp,hpx⟩,hpe,_⟩:=KC hop hg hxf
    have hn:(ms f).n∈bf.ws:=by
     refine Classical.byContradiction fun hn=>?_
     have e1:=k3 _ hn;obtain⟨_,_,e2,_⟩:=Mem.bu hp;rw[e2,hfr _ (Nat.le_refl _)]at e1;cases e1
    have look:∀i oi,ops[i]? = some oi->i≠f->(d∈oi.looksAt ops\/(ds i).fp=some (ms f).n)->∀e,e<f->(ds e).eff=true->lg ops i e:=fun i oi hoi hif hor e hef heff=>by
     have hi:i<ops.size:=(Array.getElem?_eq_some_iff.1 hoi).1;obtain⟨bi,hbi,q1,q2,q3⟩:=at_ i hi;obtain⟨be,hbe,r1,r2,r3⟩:=at_ e (by omega);have h1:=List.all_eq_true.1 hf1 i (List.mem_range.2 hi);have hq:(i==f)=false:=by simpa using hif
     rw[hoi,hbi,hq]at h1;simp only[Bool.false_or,Bool.or_eq_true,Bool.not_eq_true']at h1
     have h2:((List.range f).all fun e=>match ab[e]? with | .none=>true|some de => !de.eff||bit (iQ ops.toList) i e)=true:=by
      rcases h1 with h1|h1
      ·exfalso;simp only[Bool.or_eq_false_iff]at h1
       rcases hor with hor|hor
       ·have:(oi.looksAt ops).contains d=true:=by simpa using hor
        rw[this]at h1;cases h1.1
       ·rw[q2]at hor;have:=h1.2;rw[hor]at this;simp only at this;rw[List.contains_iff_mem.2 hn]at this;cases this
      ·exact h1
     have h3:=List.all_eq_true.1 h2 e (List.mem_range.2 hef);rw[hbe]at h3;rw[r1]at heff;simp only[heff,Bool.not_true,Bool.false_or]at h3;exact fx ops i e h3
    refine⟨d,t,fun i oi hoi hif hd=>look i oi hoi hif (.inl hd),fun i hi hif hfp=>look i ops[i] (by simp[hi]) hif (.inr hfp),fun j hj hlv=>?_,hflt,⟨o,hof,hop,hg,hd⟩,hp,hpx,hpe⟩;obtain⟨_,_,k⟩:=hkr hb
    rcases k j hj hlv with k|⟨k,ke⟩
    ·exact .inl k
    ·exact .inr ⟨k,by first|(rw[ke];exact hlv)|(rw[<-ke];exact hlv)|simp[k,ke,hlv]⟩
   ·cases hf1
  ·cases hf1
theorem WX.Oe(hO:aS P O)(hP:P.follows .mixedOrders=true){nI id:Nat}{fs:List Nat}{al al':aO}{hs hs':aj}{bs:List Ab}{K:cu}(hst:da ops nt (iQ ops.toList)=true)(h:mB O P ops nt ops.toList al hs bs al' hs')(hdy:t_ ops (iQ ops.toList) bs fs=true)(hno:lh hs' ops.toList bs=true)
 (hk:K .normal al' hs'):WX P nt nI (.code (.region id ops true)) al hs K:=by
 intro βI mI wI hn m hm β w a Q hr hw hq;obtain⟨r,hrr⟩:=sw (rg al) nt hr.small hr.out;obtain⟨tr,r',m',h1,h2,h3,h4⟩:=qX hr.small h hm hrr;obtain⟨rs,ms,ds,hT,t1,t2,t3,t4⟩:=oK h1;have hsz:ops.toList.length=ops.size:=by simp
 have hfin:a_ (ms ops.size) hs':=by rw[<-hsz,t4];exact h3
 have hd:=B5 hO hT (by rw[t2];exact hm.fresh) (by rw[t2];exact hm.bnd) hno hfin h4 hdy;have e:(r.get .undef)=rg al:=funext hrr;have e':(r'.get .undef)=rg al':=funext h2;rw[hsz]at t3 t4;refine CE hO hP (ku hst) hT hd t1 t2 (by unfold lV;rw[e];exact hr) hw.rel ?_;rw[t3,t4];intro a' β' w' k1 k2 k3;unfold lV at k1;rw[e']at k1;exact hq .normal al' hs' m' hk h3 a' β' w' k1 k2 (hw.trans k3)
theorem WX.Og(fs:List Nat){K:cu}{al:aO}{hs:aj}{nI id:Nat}(hP:P.follows .mixedOrders=true)(hst:da ops nt (iQ ops.toList)=true)(h:SK P ops nt [] ops.toList al hs fun bs al' hs'=>(t_ ops (iQ ops.toList) bs fs&&lh hs' ops.toList bs)=true/\K .normal al' hs'):WX P nt nI (.code (.region id ops true)) al hs K:=by
 obtain⟨Lf,h1,h2,h3,bs,al',hs',h4,h5,h6⟩:=h;exact WX.Oe (p5 fun e he=>(h2 e he).resolve_left (by simp)) hP hst h4 (by simp only[Bool.and_eq_true]at h5;exact h5.1) (by simp only[Bool.and_eq_true]at h5;exact h5.2) h6
theorem RS{nI id:Nat}(fs:List Nat){al:aO}{hs:aj}{K:cu}(h:SK P ops nt [] ops.toList al hs fun bs al' hs'=>(t_ ops (iQ ops.toList) bs fs&&lh hs' ops.toList bs)=true/\K .normal al' hs')(hP:P.follows .mixedOrders=true:=by kernel_rfl)(hst:da ops nt (iQ ops.toList)=true:=by kernel_rfl):WX P nt nI (.code (.region id ops true)) al hs K:=
 WX.Og fs hP hst h
end
end Go.Xm
namespace Go.Proofs.YthdciapjllppjaaGreat
open Go.Xm
variable [aq]
theorem GO:bt prog 46 [.one (.ptr 0 0),.one (.int .u64 1),.one (.int .i64 1)] [.cells [.slice 1 0 0 (.exact 0),.int .i64 0] 134 false false,.cells (il .u8 []) 5 false false] (.tup []) (K6 [true]):=by
 refine cO Tryz.func46 ?_
 repeat' (first|refine zz ?_|refine zx (fun _=>?_) (fun _=>?_)|fail)
 refine WX.loop ?_;refine WX.round ?_
 repeat' (first
  |(refine qz ?_;first
   |refine N9 (n:=1) (r:=[0]) rfl (jZ rfl rfl rfl) (fun h=>absurd h (by decide)) (fun _=>?_))
  |refine zz ?_|refine zx (fun _=>?_) (fun _=>?_)|fail)
 refine WX.round ?_
 repeat' (first|refine zz ?_|refine zx (fun _=>?_) (fun _=>?_)|fail)
 show aE _ _ _ _ _ _ _ _;refine kV [0,1,3] ?_;rfl
theorem Kx{HS:aj}{i k:Nat}{opn:Bool}(hi:HS[i]? = some (.cells [.slice k 0 0 (.exact 0),.int .i64 0] 134 false false))(hk:HS[k]? = some (.cells (il .u8 []) 5 false false))(hd:i≠k){N:Nat}(hN:HS.length=N){HS':aj}(hh:bJ HS [i,k] [aP N [true],.dead,av [true]]=HS')(hbd:Nat.blt HS'.length Mem.bound=true) :
 aA.Sound prog ⟨46,[.one (.ptr i 0),.one (.int .u64 1),.one (.int .i64 1)],HS,.tup [],HS',[i,k]⟩:=by
 subst hN;refine bI [i,k] [i,k] 1 GO (by simp[hd]) ?_ ?_ ?_ rfl (.cons (by simp[XV.bK,XC.ok]) (.flat (.flat .nil))) (.cons rfl (.flat (.flat .nil))) (b8.ok _) (b8.aC _) ?_ rfl rfl hh hbd (.inl rfl)
 ·exact .cons hi (.flat hk .nil)
 ·exact .cons (by simp[ak.bK,XC.ok]) (.flat .nil)
 ·exact .cons (by simp[ak.bK,XC.ok,aK]) (.flat (.flat .nil))
 ·exact .cons (by simp only[ak.aC,List.map_cons,List.map_nil,XC.aC,aV];rfl) (.flat (.flat .nil))
theorem GL(bs:List Bool)(hb:bs.length<=1000000) :
 bt prog 48 [.one (.ptr 0 0)] (WH bs) (gJ 2 (((bs++[true]).length+7)/8) 1) [aP 1 bs,av bs,av (bs++[true])]:=by
 refine cO Tryz.func48 ?_;have hwl:=cN bs
 repeat' (first
  |(refine qz ?_;first
   |refine N9 (n:=(bs.length+7)/8) (r:=wr bs) (cN bs) (yM rfl rfl (cN bs)) (fun h=>?_) (fun h=>?_))
  |refine RS (id:=3) [11] ?_|refine zz ?_|refine zx (fun _=>?_) (fun _=>?_)|fail)
 ·obtain rfl:bs = []:=List.length_eq_zero_iff.1 (by omega)
  repeat' (first
   |(refine qz ?_;first
    |refine cl ?_ (hi:=by exact Kx (k:=2) (opn:=false) rfl rfl (by decide) nL nA rfl))
   |refine zz ?_|refine zx (fun _=>?_) (fun _=>?_)|fail)
  show aE _ _ _ _ _ _ _ _;refine kV [0,1,4] ?_;rw[fV];rfl
 ·have hw:aP 3 bs = .cells [.slice 3 0 (0+(bs.length+7)/8) (.toEnd 1),.int .i64 (bs.length:Nat)] 134 false false:=by
   unfold aP eE;rw[if_neg (by omega),Nat.zero_add]
  have hy:av bs = .cells (il .u8 ([]++wr bs)) 5 true false:=by
   refine cK fun hn=>?_
   have h2:(il .u8 (wr bs)).length=0:=by rw[hn];rfl
   rw[bz,hwl]at h2;omega
  repeat' (first
   |(refine qz ?_;first
    |refine cl ?_ (hi:=by exact fq (i:=4) (k:=3) (size:=1) rfl (bs:=bs) (by decide) (by decide) hb (by rw[hw];rfl) (by rw[hy];rfl) (by decide) nL nA rfl))
   |refine zz ?_|refine zx (fun _=>?_) (fun _=>?_)|fail)
  show aE _ _ _ _ _ _ _ _;refine kV [0,1,5] ?_;rw[fV];rfl
theorem Eg(a b:List XC)(e e' e1 e2 e3:TypeId)(cs ds fs:List XC):gN [.cells a e false false,bU e1 cs] [.cells b e' false false,bU e2 ds,bU e3 fs]=true:=by
 cases cs<;>cases ds<;>cases fs<;>simp[gN,ak.live,ak.own,bU]
theorem vG{bs:List Bool}(hb:bs.length<=1000000){HS:aj}{i k:Nat}(hi:HS[i]? = some (aP k bs))(hk:HS[k]? = some (av bs))(hd:i≠k){N:Nat}(hN:HS.length=N){HS':aj}(hh:HS++[av (bs++[true])]=HS')(hbd:Nat.blt HS'.length Mem.bound=true) :
 aA.Sound prog ⟨48,[.one (.ptr i 0)],HS,gJ N (((bs++[true]).length+7)/8) 1,HS',[i,k]⟩:=by
 subst hN
 have hh':bJ HS [i,k] [aP k bs,av bs,av (bs++[true])]=HS':=by
  simp only[bJ];rw[aG hi,aG hk];exact hh
 refine bI [i,k] [i,k] 1 (GL bs hb) (by simp[hd]) ?_ ?_ ?_ rfl (.cons (by simp[XV.bK,XC.ok]) .nil) (.cons rfl .nil) (jL (Nat.le_of_ble_eq_true rfl)) (fV ..) ?_ ?_ rfl hh' hbd (.inl rfl)
 ·exact ae.iu hi rfl rfl rfl (.flat hk .nil)
 ·exact .cons (by simp[ak.bK,XC.ok,aK]) (.flat .nil)
 ·exact .cons (by simp[ak.bK,XC.ok,aK]) (.flat (.flat .nil))
 ·exact .cons (by simp only[ak.aC,List.map_cons,List.map_nil,XC.aC,aV];rfl) (.flat (.flat .nil))
 ·exact Eg ..
def tz:Nat->Int->Nat
 | 0,_=>0
 | f+1,x=>if x%2=0 then tz f (x/2)+1 else 0
theorem NQ:∀(f:Nat) (x:Int),0<x->x<2^f->tz f x<f
 | 0,x,h,h2=>by simp at h2;omega
 | f + 1,x,h,h2=>by
   unfold tz;split
   ·have:=NQ f (x/2) (by omega) (by rw[Int.pow_succ]at h2;omega);omega
   ·omega
def fk(L:List Int):Nat×Bool:=if L.getD (L.length-1) 0=0 then(0,false)else(8*L.length-1-tz 8 (L.getD (L.length-1) 0),true)
theorem JF{L:List Int}(hL:bj L)(hn:L.length<=100000) :
 bt prog 95 [gJ 0 L.length 1] [bU 5 (il .u8 L)] (.tup [.one (.int .i64 ((fk L).1:Nat)),.one (.bool (fk L).2)]) [bU 5 (il .u8 L)]:=by
 refine cO Tryz.func95 ?_
 by_cases h0:L.length=0
 ·have e:fk L=(0,false):=by
   rw[List.length_eq_zero_iff.1 h0];rfl
  rw[e]
  repeat' (first|refine zz ?_|refine zx (fun _=>?_) (fun _=>?_)|fail)
  show aE _ _ _ _ _ _ _ _;refine kV [0] ?_;rfl
 ·have hl:=hL ((L.length:Int)-1).toNat;have ei:((L.length:Int)-1).toNat=L.length-1:=by omega
  by_cases hz:L.getD ((L.length:Int)-1).toNat 0=0
  ·have e:fk L=(0,false):=by
    unfold fk;rw[<-ei,if_pos hz]
   rw[e]
   repeat' (first|refine zz ?_|refine zx (fun _=>?_) (fun _=>?_)|fail)
   show aE _ _ _ _ _ _ _ _;refine kV [0] ?_;rfl
  ·have hlt:=NQ 8 (L.getD ((L.length:Int)-1).toNat 0) (by omega) (by show _<(256:Int);omega)
   have e:fk L=(8*L.length-1-tz 8 (L.getD ((L.length:Int)-1).toNat 0),true):=by
    unfold fk;rw[<-ei,if_neg hz]
   rw[e]
   repeat' (first|refine zz ?_|refine zx (fun _=>?_) (fun _=>?_)|fail)
   refine WX.cw (σ:=Nat×Int×Int) (fun s=>[(5,.one (.int .u8 s.2.1)),(4,.one (.int .i64 s.2.2))]) (fun s=>[bU 5 (il .u8 L)]) (fun s=>s.1<=8/\0<s.2.1/\s.2.1<256/\s.2.1<2^s.1/\(s.1:Int)-8<=s.2.2/\s.2.2<=1000000/\s.2.2-(tz s.1 s.2.1:Nat)=8*(L.length:Int)-1-(tz 8 (L.getD ((L.length:Int)-1).toNat 0):Nat)) (fun s=>s.1) (8,L.getD ((L.length:Int)-1).toNat 0,(L.length:Int)*8-1) ⟨by show 8<=8;omega,by show 0<L.getD _ 0;omega,hl.2,hl.2,by show((8:Nat):Int)-8<=(L.length:Int)*8-1;omega,by show(L.length:Int)*8-1<=1000000;omega,by show(L.length:Int)*8-1-(tz 8 (L.getD ((L.length:Int)-1).toNat 0):Nat)=_;omega⟩ (fun s _=>ny) (bW [0]) ?_;intro s ⟨h1,h2,h3,h4,h5,h6,h7⟩ ih
   obtain⟨f,hf⟩:∃f,s.1=f+1:=by
    cases hs:s.1 with
    | zero=>rw[hs]at h4;simp at h4;omega
    | succ f=>exact⟨f,rfl⟩
   rw[hf,tz]at h7
   by_cases hodd:s.2.1%2=0
   ·rw[if_pos hodd]at h7;have hq:s.2.1%2^1=0:=hodd;have hd:0<=s.2.1/2^(1:Int).toNat/\s.2.1/2^(1:Int).toNat<256:=by show 0<=s.2.1/2/\s.2.1/2<256;omega
    repeat' (first|refine zz ?_|refine zx (fun _=>?_) (fun _=>?_)|fail)
    refine ih (f,s.2.1/2^(1:Int).toNat,s.2.2-1) _ _ _ (bW [0]) ⟨by show f<=8;omega,by show 0<s.2.1/2;omega,hd.2,?_,by show(f:Int)-8<=s.2.2-1;omega,by show s.2.2-1<=_;omega,?_⟩ (by show f<s.1;omega)
    ·show s.2.1/2<2^f;rw[hf,Int.pow_succ]at h4;omega
    ·show s.2.2-1-(tz f (s.2.1/2):Nat)=_;omega
   ·rw[if_neg hodd]at h7;have hq:s.2.1%2^1=1:=by show s.2.1%2=1;omega
    have he:s.2.2=((8*L.length-1-tz 8 (L.getD ((L.length:Int)-1).toNat 0):Nat):Int):=by omega
    repeat' (first|refine zz ?_|refine zx (fun _=>?_) (fun _=>?_)|fail)
    show aE _ _ _ _ _ _ _ _;refine kV [0] ?_;rw[he];rfl
theorem Mv{L:List Int}(hL:bj L)(hn:L.length<=100000){n:Nat}(hln:L.length=n){HS:aj}{i:Nat}(hi:HS[i]? = some (bU 5 (il .u8 L)))(hb:Nat.blt HS.length Mem.bound=true) :
 aA.Sound prog ⟨95,[gJ i n 1],HS,.tup [.one (.int .i64 ((fk L).1:Nat)),.one (.bool (fk L).2)],HS,[i]⟩:=by
 subst hln;refine bI [i] [i] 0 (JF hL hn) (by simp) (.flat hi .nil) (.flat .nil) (.flat .nil) rfl (.cons (jL (Nat.le_of_ble_eq_true rfl)) .nil) (.cons (fV ..) .nil) ((eL rfl).ok _) ((eL rfl).aC _) (.flat .nil) ?_ rfl (by simp only[bJ,List.append_nil];exact aG hi) hb (.inl rfl);cases il .u8 L<;>simp[gN,ak.live,ak.own,bU]
theorem Jt{L:List Int}{B:List Bool}(hB:B.length<=8*L.length)(hn:L.length<=100000) :
 bt prog 67 [gJ 0 L.length 1,.one (.int .i64 (B.length:Nat))] [bU 5 (il .u8 L)] (.one (.ptr 1 0)) [bU 5 (il .u8 L),gF 2 L B 0 false,dT L]:=by
 refine cO Tryz.func67 ?_
 repeat' (first
  |(refine qz ?_;first
   |refine TL (r:=L) (yM rfl rfl rfl) ?_)
  |refine zz ?_|refine zx (fun _=>?_) (fun _=>?_)|fail)
 show aE _ _ _ _ _ _ _ _;refine kV [0,2,1] ?_;rfl
theorem tA{L:List Int}{B:List Bool}(hB:B.length<=8*L.length)(hn:L.length<=100000){n:Nat}(hln:L.length=n){z:Int}(hz:z=(B.length:Nat)){HS:aj}{i:Nat}(hi:HS[i]? = some (bU 5 (il .u8 L))){N:Nat}(hN:HS.length=N){HS':aj}(hh:HS++[gF (N+1) L B 0 false,dT L]=HS')(hb:Nat.blt HS'.length Mem.bound=true) :
 aA.Sound prog ⟨67,[gJ i n 1,.one (.int .i64 z)],HS,.one (.ptr N 0),HS',[i]⟩:=by
 subst hln hz hN;refine bI [i] [i] 2 (Jt hB hn) (by simp) (.flat hi .nil) (.flat .nil) (.flat (.cons (by simp[ak.bK,XC.ok]) (.flat .nil))) rfl (.cons (jL (Nat.le_of_ble_eq_true rfl)) (.flat .nil)) (.cons (fV ..) (.flat .nil)) (by simp[XV.bK,XC.ok]) rfl (.flat (.cons rfl (.flat .nil))) ?_ rfl (by simp only[bJ];rw[aG hi];exact hh) hb (.inl rfl);cases il .u8 L<;>simp[gN,ak.live,ak.own,bU]
end Go.Proofs.YthdciapjllppjaaGreat
namespace Go.Xm
variable [aq]
variable {P:Program} {ops:Array Oper} {nt nI:Nat} {al:aO} {hs:aj} {o:Oper} {l:List Oper} {L:List aA} {K:List Ab->aO->aj->Prop} {d:Nat}
theorem t5{zs cs:List XC}{s k:Nat}{t e:TypeId}{parts:Array (Nat×Operand)}{n:Nat}{hs':aj}(hk:SK P ops nt L l ((d,.one (.slice n 0 k (.exact k)))::al) hs' fun bs=>K (⟨true,.none,[n]⟩::bs))(ho:o.op = .buildSlice t k parts:=by exact rfl)(hu:aQ P t (.slice e):=by infer_instance)(hz:aM P e zs:=by infer_instance)(hse:aH P e s:=by infer_instance)(hsm:k*s<=16777216/\0<zs.length:=by exact⟨Nat.le_of_ble_eq_true rfl,Nat.le_of_ble_eq_true rfl⟩)(wn:Wn ops nt al o d:=by exact⟨rfl,rfl,rfl⟩)(hf:gQ (fun i=>some (i*s,s)) (eC zs (k*s)) (parts.toList.map fun p=>(p.1,af (rg al) p.2))=some cs:=by exact rfl)(hn:hs.length=n:=by exact n2)(hb:Nat.blt n Mem.bound=true:=by exact rfl)(hh:hs++[.cells cs e false false]=hs':=by exact n3):SK P ops nt L (o::l) al hs K:=by
 subst hn hh;refine SK.lift wn.e wn.l (fun _=>?_) hk;intro m hm;obtain⟨m',h1,h2,h3⟩:=hm.push (.cells cs e false false) (by simpa [Nat.blt_eq]using hb);refine⟨m',?_,h2,h3⟩;unfold ji;rw[wn.w];refine ct (by rw[ho];rfl) (by rw[ho];rfl) (by rw[ho];rfl) ?_;rw[ho];simp only[cf,dz,dX,hu.out,hse.out,hz.out,h1,hm.n,hf];rw[if_pos hsm]
theorem Tl{t t1 e e1:TypeId}{sz len:Nat}{a b:Operand}{zs:List XC}(i n:Nat){j:Nat}{cap:pr}(cs:List XC){vs:List XC}{et:TypeId}{opn ro:Bool}{N:Nat}{hs':aj}(hk:SK P ops nt L l ((d,.one (.slice N 0 (n+len) (.toEnd sz)))::al) hs' fun bs=>K (⟨true,.none,[i,N]⟩::bs))(ho:o.op = .call ⟨.builtin .append,#[a,b],#[t,t1]⟩:=by exact rfl)(hu:aQ P t (.slice e):=by infer_instance)(hu1:aQ P t1 (.slice e1):=by infer_instance)(hz:aM P e zs:=by infer_instance)(hI:TI P e sz:=by infer_instance)(wn:Wn ops nt al o d:=by exact⟨rfl,rfl,rfl⟩)(hsz:zs.length=sz/\0<sz:=by exact⟨rfl,Nat.le_of_ble_eq_true rfl⟩)(ha:af (rg al) a=gJ i n sz:=by exact rfl)(hi:hs[i]? = some (bU e cs):=by exact rfl)(hb:af (rg al) b = .one (.slice j 0 len cap):=by exact rfl)(hj:hs[j]? = some (.cells vs et opn ro):=by exact rfl)(hl:vs.length=len*sz:=by exact rfl)(hn:cs.length=n*sz:=by exact rfl)(hm:0<len/\n+len<=2000000000:=by omega)(hN:hs.length=N:=by exact n2)(hbd:Nat.blt N Mem.bound=true:=by exact rfl)(hh:hs.set i .dead++[.cells (cs++vs) e true false]=hs':=by first|(simp only[List.set_cons_succ,List.set_cons_zero,List.cons_append,List.nil_append];exact rfl)|exact rfl):SK P ops nt L (o::l) al hs K:=
 Sw (jZ hb hj hl) hk ho hu hz hI wn hsz ha hi hn hm hN hbd hh
end Go.Xm
namespace Go.Xm
variable [aq]
variable {P:Program} {ops:Array Oper} {nt nI:Nat} {al:aO} {hs:aj} {o:Oper} {l:List Oper} {L:List aA} {K:List Ab->aO->aj->Prop} {d:Nat}
theorem Sb{t t':TypeId}{a b:Operand}{k k':IntKind}{x y:Int}(n:Nat)(hk:SK P ops nt L l ((d,.one (.int k (k.wrap (x*2^n))))::al) hs fun bs=>K (quiet::bs))(ho:o.op = .binOp .shl t a b t':=by exact rfl)(wn:Wn ops nt al o d:=by exact⟨rfl,rfl,rfl⟩)(ha:af (rg al) a = .one (.int k x):=by exact rfl)(hb:af (rg al) b = .one (.int k' y):=by exact rfl)(hn:y=(n:Nat):=by exact rfl)(h:n<=k.bits:=by decide):SK P ops nt L (o::l) al hs K:=by
 refine gG ho wn.w wn.e wn.l ha hb ?_ hk;subst hn;have h0:¬((n:Nat):Int)<0:=by omega
 simp only[bE,h0,if_false,uZ,Int.toNat_natCast,Nat.min_eq_left h,cj]
end Go.Xm
namespace Go.Proofs.YthdciapjllppjaaGreat
open Go.Xm
variable [aq]
theorem Kz(x:Int):0<=IntKind.u16.wrap x/\IntKind.u16.wrap x<65536:=by
 simp[IntKind.wrap,IntKind.bits,IntKind.signed];omega
theorem mQ(x y:Int):0<=uy .u16 x y/\uy .u16 x y<65536:=Kz _
def fP(s:Int):Int:=if Ch .u16 s 32768≠0 then uy .u16 (IntKind.u16.wrap (s*2^1)) 4129 else IntKind.u16.wrap (s*2^1)
theorem E_(s:Int):0<=fP s/\fP s<65536:=by
 unfold fP;split
 ·exact mQ _ _
 ·exact Kz _
def c8(s:Int):Nat->Int
 | 0=>s
 | k+1=>fP (c8 s k)
def wg(s:Int)(l:List Int):Nat->Int
 | 0=>s
 | i+1=>c8 (uy .u16 (wg s l i) (l.getD i 0*2^8)) 8
def c9(l:List Int):Int:=wg 65535 l l.length
theorem BZ{s:Int}(h:0<=s/\s<65536):∀k,0<=c8 s k/\c8 s k<65536
 | 0=>h
 | k+1=>E_ _
theorem tR{s:Int}(h:0<=s/\s<65536)(l:List Int):∀k,0<=wg s l k/\wg s l k<65536
 | 0=>h
 | k+1=>BZ (mQ _ _) 8
theorem gf(l:List Int):0<=c9 l/\c9 l<65536:=tR (by decide) l _
theorem K_(s:Int)(hs:0<=s/\s<65536){l:List Int}(hl:bj l)(hn:l.length<=100000){ob:ak}(hr:RO ob .u8 l)(cp:pr) :
 bt prog 80 [.one (.int .u16 s),.one (.slice 0 0 l.length cp)] [ob] (.one (.int .u16 (wg s l l.length))) [ob]:=by
 have hfo:=hr.flat;refine cO Tryz.func80 ?_
 repeat' (first|refine zz ?_|refine zx (fun _=>?_) (fun _=>?_)|fail)
 refine WX.cw (σ:=Nat×Int) (fun t=>[(0,.one (.int .u16 t.2)),(7,.one (.slice 0 0 l.length cp)),(8,.one (.int .i64 (l.length:Nat))),(9,.one (.int .i64 (t.1:Nat)))]) (fun t=>[ob]) (fun t=>t.1<=l.length/\t.2=wg s l t.1) (fun t=>l.length-t.1) (0,s) ⟨Nat.zero_le _,rfl⟩ (fun s _=>ny) (bW [0]) ?_;intro t ⟨hle,hte⟩ ih;have hb:=hl t.1;have htr:=tR hs l t.1;rw[<-hte]at htr
 by_cases hlt:t.1<l.length
 ·repeat' (first|refine zz ?_|refine zx (fun _=>?_) (fun _=>?_)|fail)
  refine WX.cw (σ:=Nat×Int) (fun u=>[(0,.one (.int .u16 u.2)),(7,.one (.slice 0 0 l.length cp)),(8,.one (.int .i64 (l.length:Nat))),(9,.one (.int .i64 (t.1:Nat))),(18,.one (.int .i64 (u.1:Nat)))]) (fun t=>[ob]) (fun u=>u.1<=8/\u.2=c8 (uy .u16 t.2 (l.getD t.1 0*2^8)) u.1) (fun u=>8-u.1) (0,uy .u16 t.2 (l.getD t.1 0*2^8)) ⟨Nat.zero_le _,rfl⟩ (fun s _=>ny) (bW [0]) ?_;intro u ⟨hu8,hue⟩ ih2;have hur:=BZ (mQ t.2 (l.getD t.1 0*2^8)) u.1;rw[<-hue]at hur
  by_cases hlu:u.1<8
  ·repeat' (first
    |(refine qz ?_;first
     |refine Sb 1 ?_)
    |refine zz ?_|refine zx (fun _=>?_) (fun _=>?_)|fail)
   ·rename_i hc1;exact ih2 (u.1+1,fP u.2) _ _ _ (bW [0] (reg:=by(repeat' (first|exact ai.nil|refine ai.flat (by show _=XV.one (XC.int .u16 (fP u.2));unfold fP;rw[if_pos hc1];rfl) ?_|refine rz ?_|refine ai.sl rfl (by assumption) rfl ?_));first|done|fail)) ⟨by show u.1+1<=8;omega,by show fP u.2=fP _;rw[<-hue]⟩ (by show 8-(u.1+1)<8-u.1;omega)
   ·rename_i hc1;exact ih2 (u.1+1,fP u.2) _ _ _ (bW [0] (reg:=by(repeat' (first|exact ai.nil|refine ai.flat (by show _=XV.one (XC.int .u16 (fP u.2));unfold fP;rw[if_neg hc1];rfl) ?_|refine rz ?_|refine ai.sl rfl (by assumption) rfl ?_));first|done|fail)) ⟨by show u.1+1<=8;omega,by show fP u.2=fP _;rw[<-hue]⟩ (by show 8-(u.1+1)<8-u.1;omega)
  ·have e8:u.1=8:=by omega
   clear ih2
   repeat' (first|refine zz ?_|refine zx (fun _=>?_) (fun _=>?_)|fail)
   exact ih (t.1+1,u.2) _ _ _ (bW [0]) ⟨by show t.1+1<=_;omega,by show u.2=c8 _ 8;rw[hue,e8,<-hte]⟩ (by show _-(t.1+1)<_;omega)
 ·have e0:t.1=l.length:=by omega
  repeat' (first|refine zz ?_|refine zx (fun _=>?_) (fun _=>?_)|fail)
  show aE _ _ _ _ _ _ _ _;refine kV [0] ?_;show XV.one (.int .u16 t.2)=_;rw[hte,e0];rfl
theorem N7{s:Int}(hs:0<=s/\s<65536){l:List Int}(hl:bj l)(hn:l.length<=100000){ob:ak}(hr:RO ob .u8 l){cp:pr}{n:Nat}(hln:l.length=n){HS:aj}{i:Nat}(hi:HS[i]? = some ob)(hb:Nat.blt HS.length Mem.bound=true) :
 aA.Sound prog ⟨80,[.one (.int .u16 s),.one (.slice i 0 n cp)],HS,.one (.int .u16 (wg s l l.length)),HS,[]⟩:=by
 subst hln;have hfo:=hr.flat;exact fR [i] (K_ s hs hl hn hr cp) (by simp) (.flat hi .nil) (.flat .nil) (.flat (.cons (by show 0<1;omega) .nil)) (.flat (.cons rfl .nil)) trivial rfl hb rfl
theorem MO{l:List Int}(hl:bj l)(hn:l.length<=100000){ob:ak}(hr:RO ob .u8 l)(cp:pr) :
 bt prog 49 [.one (.slice 1 0 1 (.exact 1))] [ob,.cells [.slice 0 0 l.length cp] 32 false false] (.one (.int .u16 (c9 l))) [ob,.cells [.slice 0 0 l.length cp] 32 false false]:=by
 have hfo:=hr.flat;refine cO Tryz.func49 ?_
 repeat' (first
  |(refine qz ?_;first
   |refine cl ?_ (hi:=by exact N7 (by decide) hl hn hr (i:=0) rfl rfl rfl))
  |refine WX.loop ?_|refine WX.round (c := .seq (.region 3 _ _) _) ?_|refine zz ?_|refine zx (fun _=>?_) (fun _=>?_)|fail)
 show aE _ _ _ _ _ _ _ _;refine kV [0,1] ?_;rfl
theorem ou{l:List Int}(hl:bj l)(hn:l.length<=100000){ob:ak}(hr:RO ob .u8 l){cp:pr}{z:Int}(hz:c9 l=z){n:Nat}(hln:l.length=n){HS:aj}{i j:Nat}(hi:HS[i]? = some ob)(hj:HS[j]? = some (.cells [.slice i 0 n cp] 32 false false))(hd:i≠j)(hb:Nat.blt HS.length Mem.bound=true) :
 aA.Sound prog ⟨49,[.one (.slice j 0 1 (.exact 1))],HS,.one (.int .u16 z),HS,[]⟩:=by
 subst hln hz;have hfo:=hr.flat;exact fR [i,j] (MO hl hn hr cp) (by simp[hd]) (.flat hi (.cons hj .nil)) (.flat (.cons (by simp[ak.bK,XC.ok]) .nil)) (.cons (by show 1<2;omega) .nil) (.cons rfl .nil) trivial rfl hb rfl
theorem C4(bs:List Bool)(h0:1<=bs.length)(hb:bs.length<=1000000) :
 bt prog 66 [.one (.ptr 0 0)] (WH bs) (gJ 2 ((bs.length+7)/8) 1) [aP 1 bs,av bs,av bs]:=by
 refine cO Tryz.func66 ?_;have hwl:=cN bs
 repeat' (first
  |(refine qz ?_;first
   |refine N9 (n:=(bs.length+7)/8) (r:=wr bs) (cN bs) (yM rfl rfl (cN bs)) (fun h=>?_) (fun h=>?_))
  |refine zz ?_|refine zx (fun _=>?_) (fun _=>?_)|fail)
 ·omega
 ·have hw:gJ 3 ((bs.length+7)/8) 1 = .one (.slice 3 0 (0+(bs.length+7)/8) (.toEnd 1)):=by
   rw[fm (by omega),Nat.zero_add]
  have hy:av bs = .cells (il .u8 ([]++wr bs)) 5 true false:=by
   refine cK fun hn=>?_
   have h2:(il .u8 (wr bs)).length=0:=by rw[hn];rfl
   rw[bz,hwl]at h2;omega
  show aE _ _ _ _ _ _ _ _;refine kV [0,1,3] ?_ (ho:=by repeat' (first|exact ae.nil|refine ae.flat (by rw[hy];rfl) ?_|refine oz ?_));rw[fV,Nat.zero_add,fm (by omega)];rfl
theorem o6{bs:List Bool}(h0:1<=bs.length)(hb:bs.length<=1000000){HS:aj}{i k:Nat}(hi:HS[i]? = some (aP k bs))(hk:HS[k]? = some (av bs))(hd:i≠k){n:Nat}(hn:(bs.length+7)/8=n){N:Nat}(hN:HS.length=N){HS':aj}(hh:HS++[av bs]=HS')(hbd:Nat.blt HS'.length Mem.bound=true) :
 aA.Sound prog ⟨66,[.one (.ptr i 0)],HS,gJ N n 1,HS',[i,k]⟩:=by
 subst hN hn
 have hh':bJ HS [i,k] [aP k bs,av bs,av bs]=HS':=by
  simp only[bJ];rw[aG hi,aG hk];exact hh
 refine bI [i,k] [i,k] 1 (C4 bs h0 hb) (by simp[hd]) ?_ ?_ ?_ rfl (.cons (by simp[XV.bK,XC.ok]) .nil) (.cons rfl .nil) (jL (Nat.le_of_ble_eq_true rfl)) (fV ..) ?_ ?_ rfl hh' hbd (.inl rfl)
 ·exact ae.iu hi rfl rfl rfl (.flat hk .nil)
 ·exact .cons (by simp[ak.bK,XC.ok,aK]) (.flat .nil)
 ·exact .cons (by simp[ak.bK,XC.ok,aK]) (.flat (.flat .nil))
 ·exact .cons (by simp only[ak.aC,List.map_cons,List.map_nil,XC.aC,aV];rfl) (.flat (.flat .nil))
 ·exact Eg ..
theorem Ku(bs:List Bool):bt prog 68 [.one (.ptr 0 0)] (WH bs) (.one (.int .i64 (bs.length:Nat))) (WH bs):=by
 refine cO Tryz.func68 ?_
 repeat' (first|refine zz ?_|refine zx (fun _=>?_) (fun _=>?_)|fail)
 show aE _ _ _ _ _ _ _ _;refine kV [0,1] ?_;rfl
theorem ED{bs:List Bool}{HS:aj}{i k:Nat}(hi:HS[i]? = some (aP k bs))(hk:HS[k]? = some (av bs))(hd:i≠k){z:Int}(hz:(bs.length:Nat)=z)(hbd:Nat.blt HS.length Mem.bound=true) :
 aA.Sound prog ⟨68,[.one (.ptr i 0)],HS,.one (.int .i64 z),HS,[i,k]⟩:=by
 subst hz
 have hh':bJ HS [i,k] [aP k bs,av bs]=HS:=by
  simp only[bJ];rw[aG hi,aG hk];exact List.append_nil HS
 refine bI [i,k] [i,k] 0 (Ku bs) (by simp[hd]) ?_ ?_ ?_ rfl (.cons (by simp[XV.bK,XC.ok]) .nil) (.cons rfl .nil) trivial rfl ?_ ?_ rfl hh' hbd (.inl rfl)
 ·exact ae.iu hi rfl rfl rfl (.flat hk .nil)
 ·exact .cons (by simp[ak.bK,XC.ok,aK]) (.flat .nil)
 ·exact .cons (by simp[ak.bK,XC.ok,aK]) (.flat .nil)
 ·exact .cons (by simp only[ak.aC,List.map_cons,List.map_nil,XC.aC,aV];rfl) (.flat .nil)
 ·cases il .u8 (wr bs)<;>simp[gN,ak.live,ak.own,bU]
theorem Co:bt prog 50 [] [] (.one (.slice 0 0 3 (.exact 3))) [.cells (il .u8 [0,0,1]) 5 false false]:=by
 refine cO Tryz.func50 ?_
 repeat' (first
  |(refine qz ?_;first
   |refine t5 (zs:=[.int .u8 0]) ?_)
  |refine zz ?_|refine zx (fun _=>?_) (fun _=>?_)|fail)
 show aE _ _ _ _ _ _ _ _;refine kV [0] ?_;rfl
def b7(x:Int):Int:=if 0<x then 2*x-1 else -2*x
def r_(n:Int):Int:=if n%2=1 then(n+1)/2 else -(n/2)
theorem CL(x:Int)(hx : -1000000<=x/\x<=1000000):bt prog 114 [.one (.int .i64 x)] [] (.one (.int .i64 (b7 x))) []:=by
 refine cO Tryz.func114 ?_
 by_cases h:0<x
 ·repeat' (first|refine zz ?_|refine zx (fun _=>?_) (fun _=>?_)|fail)
  show aE _ _ _ _ _ _ _ _;refine kV [] ?_;rw[b7,if_pos h];rfl
 ·repeat' (first|refine zz ?_|refine zx (fun _=>?_) (fun _=>?_)|fail)
  show aE _ _ _ _ _ _ _ _;refine kV [] ?_;rw[b7,if_neg h];rfl
theorem r5{x:Int}(hx : -1000000<=x/\x<=1000000){HS:aj}(hb:Nat.blt HS.length Mem.bound=true):aA.Sound prog ⟨114,[.one (.int .i64 x)],HS,.one (.int .i64 (b7 x)),HS,[]⟩:=
 az (CL x hx) rfl rfl hb
end Go.Proofs.YthdciapjllppjaaGreat
