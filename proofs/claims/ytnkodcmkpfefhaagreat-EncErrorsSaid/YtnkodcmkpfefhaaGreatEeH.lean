/-
  A part of the proof: BitsW, BitsX, BitsR, RvlcR, Codes, PartNew, PrSmall, PrTab.
-/
import Derived.Test.YtnkodcmkpfefhaaGreatEeE
import Derived.Test.YtnkodcmkpfefhaaGreatEeF
set_option maxRecDepth 10000
set_option maxHeartbeats 8000000
set_option linter.unusedVariables false
set_option linter.unusedSectionVars false
set_option linter.unusedSimpArgs false
namespace Go.Proofs.YtnkodcmkpfefhaaGreat
open Go.Xm
def ka(l:List Int)(i:Nat):Bool:=decide (l.getD (i/8) 0/2^(7-i%8)%2=1)
abbrev jz(l:List Int):Prop:=∀p,0<=l.getD p 0/\l.getD p 0<256
section
variable [aw]
def ib(L:List Int)(many:Nat)(b:Bool):List Int:=
 if b then(if many%8=0 then L++[0]else L).set (many/8) (Gp .u8 ((if many%8=0 then L++[0]else L).getD (many/8) 0) (128/2^(many%8)))else(if many%8=0 then L++[0]else L)
def L9(st:List Int×Nat)(b:Bool):List Int×Nat:=(ib st.1 st.2 b,st.2+1)
def wr(bs:List Bool):List Int:=(bs.foldl L9 ([],0)).1
theorem AO:∀(bs:List Bool) (st:List Int×Nat),(bs.foldl L9 st).2=st.2+bs.length
 | [],st=>rfl
 | b::bs,st=>by
   simp only[List.foldl_cons,AO bs,L9,List.length_cons];omega
theorem sj(bs:List Bool)(b:Bool):wr (bs++[b])=ib (wr bs) bs.length b:=by
 unfold wr
 rw[List.foldl_append]
 have:=AO bs ([],0)
 simp only[List.foldl_cons,List.foldl_nil,L9,this,Nat.zero_add]
theorem E5(L:List Int)(many:Nat)(b:Bool):(ib L many b).length=L.length+(if many%8=0 then 1 else 0):=by
 unfold ib
 split<;>split<;>simp
theorem pd{p:List Bool->Prop}(h0:p [])(h1:∀bs b,p bs->p (bs++[b]))(bs:List Bool):p bs:=by
 have:∀n (bs:List Bool),bs.length=n->p bs:=by
  intro n
  induction n with
  | zero=>intro bs h;rw[List.length_eq_zero_iff.1 h];exact h0
  | succ n ih=>
    intro bs h
    have hne:bs≠[]:=fun e=>by rw[e]at h;simp at h
    rw[<-List.dropLast_concat_getLast hne]
    exact h1 _ _ (ih _ (by simp[h]))
 exact this _ bs rfl
theorem fz(bs:List Bool):(wr bs).length=(bs.length+7)/8:=by
 refine pd (p:=fun bs=>(wr bs).length=(bs.length+7)/8) rfl (fun bs b ih=>?_) bs
 rw[sj,E5,ih,List.length_append,List.length_cons,List.length_nil]
 split<;>omega
theorem Jv:∀(x:Fin 256) (k j:Fin 8),decide (Gp .u8 (x.val:Int) (128/2^k.val)/2^(7-j.val)%2=1)=(decide ((x.val:Int)/2^(7-j.val)%2=1)||decide (j=k)):=by
 decide +kernel
theorem Jw:∀(x:Fin 256) (k:Fin 8),0<=Gp .u8 (x.val:Int) (128/2^k.val)/\Gp .u8 (x.val:Int) (128/2^k.val)<256:=by
 decide +kernel
theorem vK{L:List Int}(h:jz L):jz (L++[0]):=fun p=>by
 rw[List.getD_eq_getElem?_getD]
 by_cases hp:p<L.length
 ·rw[List.getElem?_append_left hp,<-List.getD_eq_getElem?_getD];exact h p
 ·rw[List.getElem?_append_right (by omega)]
  cases hq:p-L.length with
  | zero=>simp
  | succ q=>simp
theorem Cc{L:List Int}(h:jz L)(many:Nat)(b:Bool):jz (ib L many b):=by
 have h1:jz (if many%8=0 then L++[0]else L):=by
  split
  ·exact vK h
  ·exact h
 unfold ib
 generalize (if many%8=0 then L++[0]else L)=L1 at h1 ⊢
 split
 ·intro p
  rw[List.getD_eq_getElem?_getD,List.getElem?_set]
  split
  ·split
   ·have hb:=h1 (many/8)
    obtain⟨x,hx⟩:∃x:Fin 256,L1.getD (many/8) 0=(x.val:Int):=⟨⟨(L1.getD (many/8) 0).toNat,by omega⟩,by simp only[];omega⟩
    rw[hx]
    exact Jw x ⟨many%8,Nat.mod_lt _ (by omega)⟩
   ·simp
  ·rw[<-List.getD_eq_getElem?_getD];exact h1 p
 ·exact h1
theorem mM(bs:List Bool):jz (wr bs):=by
 refine pd (p:=fun bs=>jz (wr bs)) (fun p=>by simp[wr]) (fun bs b ih=>?_) bs
 rw[sj]
 exact Cc ih _ _
theorem DB(L:List Int)(j:Nat):ka (L++[0]) j=ka L j:=by
 unfold ka
 have:(L++[0]).getD (j/8) 0=L.getD (j/8) 0:=by
  rw[List.getD_eq_getElem?_getD,List.getD_eq_getElem?_getD]
  by_cases hp:j/8<L.length
  ·rw[List.getElem?_append_left hp]
  ·rw[List.getElem?_append_right (by omega),List.getElem?_eq_none (l:=L) (by omega)]
   cases j/8-L.length<;>simp
 rw[this]
theorem E4{L:List Int}(h:jz L)(many:Nat)(hlen:L.length=(many+7)/8)(b:Bool)(j:Nat):ka (ib L many b) j=(ka L j||(b&&decide (j=many))):=by
 have h1:jz (if many%8=0 then L++[0]else L):=by
  split
  ·exact vK h
  ·exact h
 have h2:∀j,ka (if many%8=0 then L++[0]else L) j=ka L j:=fun j=>by
  split
  ·exact DB L j
  ·rfl
 have h3:many/8<(if many%8=0 then L++[0]else L).length:=by
  split
  ·simp;omega
  ·omega
 unfold ib
 generalize (if many%8=0 then L++[0]else L)=L1 at h1 h2 h3 ⊢
 rw[<-h2]
 cases b with
 | false=>simp
 | true=>
   simp only[if_true,Bool.true_and]
   unfold ka
   rw[List.getD_eq_getElem?_getD,List.getElem?_set]
   by_cases hj:many/8=j/8
   ·rw[if_pos hj,if_pos h3,<-hj]
    have hb:=h1 (many/8)
    obtain⟨x,hx⟩:∃x:Fin 256,L1.getD (many/8) 0=(x.val:Int):=⟨⟨(L1.getD (many/8) 0).toNat,by omega⟩,by simp only[];omega⟩
    rw[hx]
    have:=Jv x ⟨many%8,Nat.mod_lt _ (by omega)⟩ ⟨j%8,Nat.mod_lt _ (by omega)⟩
    simp only[Fin.mk.injEq]at this
    show decide (Gp .u8 (x.val:Int) (128/2^(many%8))/2^(7-j%8)%2=1)=_
    rw[this]
    congr 1
    exact decide_eq_decide.2 (by omega)
   ·rw[if_neg hj,<-List.getD_eq_getElem?_getD,decide_eq_false (show¬j=many by intro e;rw[e]at hj;exact hj rfl),Bool.or_false]
theorem Ke(bs:List Bool)(j:Nat):ka (wr bs) j=bs.getD j false:=by
 refine pd (p:=fun bs=>ka (wr bs) j=bs.getD j false) (by simp[wr,ka]) (fun bs b ih=>?_) bs
 rw[sj,E4 (mM bs) _ (fz bs),ih,List.getD_eq_getElem?_getD,List.getD_eq_getElem?_getD]
 by_cases h:j<bs.length
 ·rw[List.getElem?_append_left h,decide_eq_false (by omega)];simp
 ·rw[List.getElem?_append_right (by omega),List.getElem?_eq_none (l:=bs) (by omega)]
  by_cases h2:j=bs.length
  ·subst h2;simp
  ·have:j-bs.length≠0:=by omega
   obtain⟨q,hq⟩:∃q,j-bs.length=q+1:=⟨j-bs.length-1,by omega⟩
   rw[hq,decide_eq_false h2];simp
def fq(n:Int):Nat->List Bool
 | 0=>[]
 | k+1=>decide (n/2^k%2=1)::fq n k
theorem gB(n:Int):∀k,(fq n k).length=k
 | 0=>rfl
 | k+1=>by simp[fq,gB n k]
end
abbrev WH(bs:List Bool):ai:=[.cells [jx 1 ((bs.length+7)/8) 1,.int .i64 (bs.length:Nat)] 156 false false,dG 5 (il .u8 (wr bs))]
abbrev Ip(bs:List Bool):ai:=[.cells [jx 2 ((bs.length+7)/8) 1,.int .i64 (bs.length:Nat)] 156 false false,.dead,dG 5 (il .u8 (wr bs))]
variable [aw]
theorem Ce(n:Int)(bs:List Bool)(k:Nat):bs++fq n (k+1)=(bs++[decide (n/2^k%2=1)])++fq n k:=by
 simp[fq]
theorem AP{bs:List Bool}{L:List Int}(h:L=if bs.length%8=0 then wr bs++[0]else wr bs):wr (bs++[true])=L.set ((bs.length:Int)/8).toNat (Gp .u8 (L.getD ((bs.length:Int)/8).toNat 0) (128/2^((bs.length:Int)%8).toNat)):=by
 rw[sj,ib,if_pos rfl,<-h,show((bs.length:Int)/8).toNat=bs.length/8 by omega,show((bs.length:Int)%8).toNat=bs.length%8 by omega]
theorem xp{bs:List Bool}{L:List Int}(h:L=if bs.length%8=0 then wr bs++[0]else wr bs):wr (bs++[false])=L:=by
 rw[sj,ib,if_neg (by decide),<-h]
theorem F6(bs:List Bool)(n:Int)(size:Nat)(hn:0<=n/\n<18446744073709551616)(hs:size<=64)(hb:bs.length<=1000000) :
 aW Tryz.prog 116 [.one (.ptr 0 0),.one (.int .u64 n),.one (.int .i64 (size:Nat))] (WH bs) (.tup []) (Ip (bs++fq n size)):=by
 refine cO Tryz.func116 ?_
 repeat' (first|refine zz ?_|refine zx (fun _=>?_) (fun _=>?_)|fail)
 refine WX.bZ (σ:=Nat×List Bool) (fun s=>[(6,.one (.int .i64 ((s.1:Int)-1))),(0,.one (.ptr 0 0)),(1,.one (.int .u64 n))]) (fun s=>Ip s.2) (fun s=>s.1<=64/\s.2.length+s.1<=1000064/\s.2++fq n s.1=bs++fq n size) (fun s=>s.1) (size,bs) ⟨hs,by simp only[];omega,rfl⟩ (fun s _=>hX) (b_ [0,1,1]) ?_
 intro s ⟨h1,h2,h3⟩ ih
 have hwl:=fz s.2
 by_cases hk:s.1=0
 ·have e:bs++fq n size=s.2:=by rw[<-h3,hk];simp[fq]
  rw[e]
  repeat' (first|refine zz ?_|refine zx (fun _=>?_) (fun _=>?_)|fail)
  show aD _ _ _ _ _ _ _ _;refine kV [0,1,2] ?_
  rfl
 ·have hsh:(n/2^(((s.1:Int)-1).toNat)%2=0\/n/2^(((s.1:Int)-1).toNat)%2=1)/\0<=n/2^(((s.1:Int)-1).toNat):=⟨by omega,Int.ediv_nonneg hn.1 (Int.le_of_lt (Int.pow_pos (by decide)))⟩
  have e3:((s.1-1:Nat):Int)=(s.1:Int)-1:=by omega
  have e4:((s.1:Int)-1).toNat=s.1-1:=by omega
  have hput:s.2++fq n s.1=(s.2++[decide (n/2^(s.1-1)%2=1)])++fq n (s.1-1):=by
   rw[<-Ce,show s.1-1+1=s.1 by omega]
  repeat' (first|refine zz ?_|refine zx (fun _=>?_) (fun _=>?_)|fail)
  ·rename_i g1 g2
   have e1:=AP (bs:=s.2) (L:=wr s.2++[0]) (if_pos (by omega)).symm
   have e2:((s.2++[true]).length:Int)=(s.2.length:Int)+1:=by simp
   rw[decide_eq_true (by rw[<-e4];exact g2)]at hput
   refine ih (s.1-1,s.2++[true]) _ _ _ (b_ [0,1,4] (obj:=by(repeat' (first|exact ae.nil|refine ae.flat (by rw[e1];rfl) ?_|refine ae.fu (by rw[e2];rfl) rfl (by simp;omega) rfl ?_|refine ae.flat rfl ?_|refine ae.cons rfl ?_|refine ae.dead rfl ?_|refine ae.cons (by simp only[ah.ax,List.map_cons,List.map_nil,XC.ax,aB];exact rfl) ?_));first|done|fail) (reg:=by(repeat' (first|exact ak.nil|refine ak.flat (by rw[e3];rfl) ?_|refine ak.flat rfl ?_|refine ak.cons rfl ?_|refine ak.sl rfl (by assumption) rfl ?_|refine ak.gL rfl rfl (by first|rfl|omega|(simp;done)|(simp;omega)) ?_));first|done|fail)) ⟨by show s.1-1<=_;omega,by simp;omega,by show _++_=_;rw[<-hput];exact h3⟩ (by show s.1-1<s.1;omega)
  ·rename_i g1 g2
   have e1:=xp (bs:=s.2) (L:=wr s.2++[0]) (if_pos (by omega)).symm
   have e2:((s.2++[false]).length:Int)=(s.2.length:Int)+1:=by simp
   rw[decide_eq_false (by rw[<-e4];exact g2)]at hput
   refine ih (s.1-1,s.2++[false]) _ _ _ (b_ [0,1,4] (obj:=by(repeat' (first|exact ae.nil|refine ae.flat (by rw[e1];rfl) ?_|refine ae.fu (by rw[e2];rfl) rfl (by simp;omega) rfl ?_|refine ae.flat rfl ?_|refine ae.cons rfl ?_|refine ae.dead rfl ?_|refine ae.cons (by simp only[ah.ax,List.map_cons,List.map_nil,XC.ax,aB];exact rfl) ?_));first|done|fail) (reg:=by(repeat' (first|exact ak.nil|refine ak.flat (by rw[e3];rfl) ?_|refine ak.flat rfl ?_|refine ak.cons rfl ?_|refine ak.sl rfl (by assumption) rfl ?_|refine ak.gL rfl rfl (by first|rfl|omega|(simp;done)|(simp;omega)) ?_));first|done|fail)) ⟨by show s.1-1<=_;omega,by simp;omega,by show _++_=_;rw[<-hput];exact h3⟩ (by show s.1-1<s.1;omega)
  ·rename_i g1 g2
   have e1:=AP (bs:=s.2) (L:=wr s.2) (if_neg (by omega)).symm
   have e2:((s.2++[true]).length:Int)=(s.2.length:Int)+1:=by simp
   rw[decide_eq_true (by rw[<-e4];exact g2)]at hput
   refine ih (s.1-1,s.2++[true]) _ _ _ (b_ [0,1,2] (obj:=by(repeat' (first|exact ae.nil|refine ae.flat (by rw[e1];rfl) ?_|refine ae.fu (by rw[e2];rfl) rfl (by simp;omega) rfl ?_|refine ae.flat rfl ?_|refine ae.cons rfl ?_|refine ae.dead rfl ?_|refine ae.cons (by simp only[ah.ax,List.map_cons,List.map_nil,XC.ax,aB];exact rfl) ?_));first|done|fail) (reg:=by(repeat' (first|exact ak.nil|refine ak.flat (by rw[e3];rfl) ?_|refine ak.flat rfl ?_|refine ak.cons rfl ?_|refine ak.sl rfl (by assumption) rfl ?_|refine ak.gL rfl rfl (by first|rfl|omega|(simp;done)|(simp;omega)) ?_));first|done|fail)) ⟨by show s.1-1<=_;omega,by simp;omega,by show _++_=_;rw[<-hput];exact h3⟩ (by show s.1-1<s.1;omega)
  ·rename_i g1 g2
   have e1:=xp (bs:=s.2) (L:=wr s.2) (if_neg (by omega)).symm
   have e2:((s.2++[false]).length:Int)=(s.2.length:Int)+1:=by simp
   rw[decide_eq_false (by rw[<-e4];exact g2)]at hput
   refine ih (s.1-1,s.2++[false]) _ _ _ (b_ [0,1,2] (obj:=by(repeat' (first|exact ae.nil|refine ae.flat (by rw[e1];rfl) ?_|refine ae.fu (by rw[e2];rfl) rfl (by simp;omega) rfl ?_|refine ae.flat rfl ?_|refine ae.cons rfl ?_|refine ae.dead rfl ?_|refine ae.cons (by simp only[ah.ax,List.map_cons,List.map_nil,XC.ax,aB];exact rfl) ?_));first|done|fail) (reg:=by(repeat' (first|exact ak.nil|refine ak.flat (by rw[e3];rfl) ?_|refine ak.flat rfl ?_|refine ak.cons rfl ?_|refine ak.sl rfl (by assumption) rfl ?_|refine ak.gL rfl rfl (by first|rfl|omega|(simp;done)|(simp;omega)) ?_));first|done|fail)) ⟨by show s.1-1<=_;omega,by simp;omega,by show _++_=_;rw[<-hput];exact h3⟩ (by show s.1-1<s.1;omega)
end Go.Proofs.YtnkodcmkpfefhaaGreat
namespace Go.Proofs.YtnkodcmkpfefhaaGreat
open Go.Xm
variable [aw]
instance La:bh (.tup []):=ef rfl
theorem JD(a b:List XC)(e e' e2:TypeId)(cs ds:List XC):eV [.cells a e false false,dG e' cs] [.cells b e false false,.dead,dG e2 ds]=true:=by
 cases cs<;>cases ds<;>simp[eV,ah.live,ah.own,dG]
abbrev aK(k:Nat)(bs:List Bool):ah := .cells [jx k ((bs.length+7)/8) 1,.int .i64 (bs.length:Nat)] 156 false false
abbrev aq(bs:List Bool):ah:=dG 5 (il .u8 (wr bs))
theorem H7{f:FuncId}{more:List XV}(hm:∀τ,eD τ more more)(hmo:gj 2 more){v:XV}[bh v]{bs bs':List Bool}(hc:aW Tryz.prog f (.one (.ptr 0 0)::more) (WH bs) v (Ip bs')){HS:ai}{i k:Nat}(hi:HS[i]? = some (aK k bs))(hk:HS[k]? = some (aq bs))(hd:i≠k){N:Nat}(hN:HS.length=N){HS':ai}(hh:bQ HS [i,k] [aK N bs',.dead,aq bs']=HS')(hbd:Nat.blt HS'.length Mem.bound=true) :
 aC.Sound Tryz.prog ⟨f,.one (.ptr i 0)::more,HS,v,HS',[i,k]⟩:=by
 subst hN
 refine ca [i,k] [i,k] 1 hc (by simp[hd]) ?_ ?_ ?_ rfl (.cons (by simp[XV.bl,XC.ok]) hmo) (.cons rfl (hm _)) (bh.ok _) (bh.ax _) ?_ (JD ..) rfl hh hbd (.inl rfl)
 ·exact ae.fu hi rfl rfl rfl (.flat hk .nil)
 ·exact .cons (by simp[ah.bl,XC.ok,aE]) (.flat .nil)
 ·exact .cons (by simp[ah.bl,XC.ok,aE]) (.flat (.flat .nil))
 ·exact .cons (by simp only[ah.ax,List.map_cons,List.map_nil,XC.ax,aB];rfl) (.flat (.flat .nil))
theorem fR{n:Int}{size:Nat}{z:Int}(hz:z=(size:Nat)){bs:List Bool}(hn:0<=n/\n<18446744073709551616)(hs:size<=64)(hb:bs.length<=1000000){HS:ai}{i k:Nat}(hi:HS[i]? = some (aK k bs))(hk:HS[k]? = some (aq bs))(hd:i≠k){N:Nat}(hN:HS.length=N){HS':ai}(hh:bQ HS [i,k] [aK N (bs++fq n size),.dead,aq (bs++fq n size)]=HS')(hbd:Nat.blt HS'.length Mem.bound=true) :
 aC.Sound Tryz.prog ⟨116,[.one (.ptr i 0),.one (.int .u64 n),.one (.int .i64 z)],HS,.tup [],HS',[i,k]⟩:=by
 subst hz
 exact H7 (fun τ => .flat (.flat .nil)) (.flat (.flat .nil)) (F6 bs n size hn hs hb) hi hk hd hN hh hbd
theorem CX(bs:List Bool)(b:Bool)(hb:bs.length<=1000000) :
 aW Tryz.prog 114 [.one (.ptr 0 0),.one (.bool b)] (WH bs) (.tup []) (Ip (bs++[b])):=by
 refine cO Tryz.func114 ?_
 cases b with
 | true=>
   have e:bs++fq 1 1=bs++[true]:=rfl
   repeat' (first
    |(refine qz ?_;first
     |refine cl ?_ (hi:=by exact fR (size:=1) rfl (bs:=bs) (by decide) (by decide) hb rfl rfl (by decide) nL nA rfl))
    |refine zz ?_|refine zx (fun _=>?_) (fun _=>?_)|fail)
   show aD _ _ _ _ _ _ _ _;refine kV [0,1,2] ?_
   rfl
 | false=>
   have e:bs++fq 0 1=bs++[false]:=rfl
   repeat' (first
    |(refine qz ?_;first
     |refine cl ?_ (hi:=by exact fR (size:=1) rfl (bs:=bs) (by decide) (by decide) hb rfl rfl (by decide) nL nA rfl))
    |refine zz ?_|refine zx (fun _=>?_) (fun _=>?_)|fail)
   show aD _ _ _ _ _ _ _ _;refine kV [0,1,2] ?_
   rfl
theorem jl{b:Bool}{bs:List Bool}(hb:bs.length<=1000000){HS:ai}{i k:Nat}(hi:HS[i]? = some (aK k bs))(hk:HS[k]? = some (aq bs))(hd:i≠k){N:Nat}(hN:HS.length=N){HS':ai}(hh:bQ HS [i,k] [aK N (bs++[b]),.dead,aq (bs++[b])]=HS')(hbd:Nat.blt HS'.length Mem.bound=true) :
 aC.Sound Tryz.prog ⟨114,[.one (.ptr i 0),.one (.bool b)],HS,.tup [],HS',[i,k]⟩:=
 H7 (fun τ => .flat .nil) (.flat .nil) (CX bs b hb) hi hk hd hN hh hbd
def bitLen(n:Nat):Nat:=if n=0 then 0 else Nat.log2 n+1
def ot(n:Nat):Int:=(bitLen n:Nat)
theorem wv:∀i:Fin 256,0<=ot i.val/\ot i.val<=8:=by decide +kernel
theorem yb{n k:Nat}(h:2^k<=n):bitLen n=bitLen (n/2^k)+k:=by
 have hp:0<2^k:=Nat.two_pow_pos k
 have h0:0<n/2^k:=Nat.div_pos h hp
 unfold bitLen
 have e:Nat.log2 n=Nat.log2 (n/2^k)+k:=by
  rw[Nat.log2_eq_iff (by omega)]
  have h1:=Nat.log2_self_le (n:=n/2^k) (by omega)
  have h2:=Nat.lt_log2_self (n:=n/2^k)
  constructor
  ·rw[Nat.pow_add]
   exact(Nat.le_div_iff_mul_le hp).1 h1
  ·rw[show Nat.log2 (n/2^k)+k+1=Nat.log2 (n/2^k)+1+k by omega,Nat.pow_add]
   exact(Nat.div_lt_iff_lt_mul hp).1 h2
 rw[if_neg (by omega),if_neg (by omega),e]
 omega
theorem BO(n:Int)(hn:0<=n/\n<65536) :
 aW Tryz.prog 165 [.one (.int .u64 n)] [] (.one (.int .i64 (ot n.toNat))) []:=by
 refine cO Tryz.func165 ?_
 by_cases h:n<256
 ·have hr:=wv ⟨n.toNat,by omega⟩
  simp only[]at hr
  repeat' (first
   |(refine qz ?_;first
    |refine Ng ot ?_)
   |refine zz ?_|refine zx (fun _=>?_) (fun _=>?_)|fail)
  show aD _ _ _ _ _ _ _ _;refine kV [] ?_
  rw[Int.zero_add]
  rfl
 ·have hq:0<=n/2^(8:Int).toNat/\n/2^(8:Int).toNat<256/\(n/2^(8:Int).toNat).toNat=n.toNat/2^8:=by
   show 0<=n/2^8/\n/2^8<256/\(n/2^8).toNat=n.toNat/2^8
   omega
  have hr:=wv ⟨(n/2^(8:Int).toNat).toNat,by omega⟩
  simp only[]at hr
  have hl:ot n.toNat=0+8+ot (n/2^(8:Int).toNat).toNat:=by
   unfold ot
   rw[yb (n:=n.toNat) (k:=8) (by omega),hq.2.2]
   omega
  rw[hl]
  repeat' (first
   |(refine qz ?_;first
    |refine Ng ot ?_)
   |refine zz ?_|refine zx (fun _=>?_) (fun _=>?_)|fail)
  show aD _ _ _ _ _ _ _ _;refine kV [] ?_
  rfl
theorem Es{HS:ai}{n:Int}(hn:0<=n/\n<65536)(hb:Nat.blt HS.length Mem.bound=true):aC.Sound Tryz.prog ⟨165,[.one (.int .u64 n)],HS,.one (.int .i64 (ot n.toNat)),HS,[]⟩:=
 au (BO n hn) rfl rfl hb
theorem Hj(n:Int)(hn:0<=n/\n<65536) :
 aW Tryz.prog 159 [.one (.int .u64 n)] [] (.one (.int .i64 (ot n.toNat))) []:=by
 refine cO Tryz.func159 ?_
 repeat' (first
  |(refine qz ?_;first
   |refine cl ?_ (hi:=by exact Es (by omega) rfl))
  |refine zz ?_|refine zx (fun _=>?_) (fun _=>?_)|fail)
 show aD _ _ _ _ _ _ _ _;refine kV [] ?_
 rfl
theorem yD{HS:ai}{n:Int}(hn:0<=n/\n<65536)(hb:Nat.blt HS.length Mem.bound=true):aC.Sound Tryz.prog ⟨159,[.one (.int .u64 n)],HS,.one (.int .i64 (ot n.toNat)),HS,[]⟩:=
 au (Hj n hn) rfl rfl hb
def pU(n:Int):Nat->List Bool
 | 0=>[]
 | k+1=>decide (n/2^k%2=1)::decide (0<k)::pU n k
def dU(v:Int):List Bool:=if v=0 then [true]else false::pU (v+1) (bitLen (v+1).toNat-1)
theorem tI(n:Int):∀k,(pU n k).length=2*k
 | 0=>rfl
 | k+1=>by simp[pU,tI n k];omega
theorem o5{n k:Nat}(h:n<2^k):bitLen n<=k:=by
 unfold bitLen
 split
 ·omega
 ·have:=(Nat.log2_lt (by omega)).2 h
  omega
theorem ya{n:Nat}(h:0<n):0<bitLen n:=by
 unfold bitLen
 rw[if_neg (by omega)];omega
theorem w8(bs:List Bool)(v:Int)(hv:0<=v/\v<=8190)(hb:bs.length<=900000) :
 aW Tryz.prog 139 [.one (.ptr 0 0),.one (.int .i64 v)] (WH bs) (.one (.bool true)) (Ip (bs++dU v)):=by
 refine cO Tryz.func139 ?_
 by_cases h0:v=0
 ·subst h0
  have e:bs++fq 1 1=bs++dU 0:=rfl
  repeat' (first
   |(refine qz ?_;first
    |refine cl ?_ (hi:=by exact fR (size:=1) rfl (bs:=bs) (by decide) (by decide) (by omega) rfl rfl (by decide) nL nA rfl))
   |refine zz ?_|refine zx (fun _=>?_) (fun _=>?_)|fail)
  show aD _ _ _ _ _ _ _ _;refine kV [0,1,2] ?_
  rfl
 ·have hl1:bitLen (v+1).toNat<=13:=o5 (by show _<8192;omega)
  have hl2:=ya (n:=(v+1).toNat) (by omega)
  have hl3:ot (v+1).toNat=(bitLen (v+1).toNat:Nat):=rfl
  repeat' (first
   |(refine qz ?_;first
    |refine cl ?_ (hi:=by exact fR (size:=1) rfl (bs:=bs) (by decide) (by decide) (by omega) rfl rfl (by decide) nL nA rfl)
    |refine cl ?_ (hi:=by exact yD (by omega) rfl))
   |refine zz ?_|refine zx (fun _=>?_) (fun _=>?_)|fail)
  have e5:((bitLen (v+1).toNat-1:Nat):Int)=ot (v+1).toNat-1:=by omega
  refine WX.bZ (σ:=Nat×List Bool) (fun s=>[(6,.one (.int .i64 ((s.1:Int)-1))),(0,.one (.ptr 0 0)),(1,.one (.int .i64 v))]) (fun s=>Ip s.2) (fun s=>s.1<=13/\s.2.length+2*s.1<=900100/\s.2++pU (v+1) s.1=bs++dU v) (fun s=>s.1) (bitLen (v+1).toNat-1,bs++fq 0 1) ⟨by show _-1<=_;omega,by simp[gB];omega,by rw[dU,if_neg h0];simp[fq]⟩ (fun s _=>hX) (b_ [0,1,2] (obj:=by(repeat' (first|exact ae.nil|refine ae.fu rfl rfl rfl rfl ?_|refine ae.flat rfl ?_|refine ae.cons rfl ?_|refine ae.dead rfl ?_|refine ae.cons (by simp only[ah.ax,List.map_cons,List.map_nil,XC.ax,aB];exact rfl) ?_));first|done|fail) (reg:=by(repeat' (first|exact ak.nil|refine ak.flat (by rw[e5];rfl) ?_|refine ak.flat rfl ?_|refine ak.cons rfl ?_|refine ak.sl rfl (by assumption) rfl ?_|refine ak.gL rfl rfl (by first|rfl|omega|(simp;done)|(simp;omega)) ?_));first|done|fail)) ?_
  intro s ⟨h1,h2,h3⟩ ih
  by_cases hk:s.1=0
  ·have e:bs++dU v=s.2:=by rw[<-h3,hk];simp[pU]
   rw[e]
   repeat' (first|refine zz ?_|refine zx (fun _=>?_) (fun _=>?_)|fail)
   show aD _ _ _ _ _ _ _ _;refine kV [0,1,2] ?_
   rfl
  ·have hsh:0<=(v+1)/2^(((s.1:Int)-1).toNat)/\(v+1)/2^(((s.1:Int)-1).toNat)<=v+1:=⟨Int.ediv_nonneg (by omega) (Int.le_of_lt (Int.pow_pos (by decide))),Int.ediv_le_self _ (by omega)⟩
   have e3:((s.1-1:Nat):Int)=(s.1:Int)-1:=by omega
   have e4:((s.1:Int)-1).toNat=s.1-1:=by omega
   have hpl:∀x:Int,(s.2++fq x 1).length<=1000000:=fun x=>by simp[gB];omega
   have hin:∀b:Bool,b=decide (0<s.1-1)->(s.2++fq ((v+1)/2^(((s.1:Int)-1).toNat)%2^1) 1++[b])++pU (v+1) (s.1-1)=bs++dU v:=by
    intro b hb'
    rw[<-h3]
    obtain⟨k,hk'⟩:∃k,s.1=k+1:=⟨s.1-1,by omega⟩
    rw[hb',e4,hk']
    simp only[fq,pU,Nat.add_sub_cancel,Nat.pow_zero,Int.pow_zero,Int.ediv_one,show(2:Int)^1=2 from rfl,List.append_assoc,List.cons_append,List.nil_append]
    rw[Int.emod_emod_of_dvd _ (by decide)]
   repeat' (first
    |(refine qz ?_;first
     |refine cl ?_ (hi:=by exact fR (size:=1) rfl (bs:=s.2) (by omega) (by decide) (by omega) rfl rfl (by decide) nL nA rfl)
     |refine cl ?_ (hi:=by exact jl (bs:=s.2++fq _ 1) (hpl _) rfl rfl (by decide) nL nA rfl))
    |refine zz ?_|refine zx (fun _=>?_) (fun _=>?_)|fail)
   ·rename_i g
    refine ih (s.1-1,s.2++fq _ 1++[true]) _ _ _ (b_ [0,1,4] (obj:=by(repeat' (first|exact ae.nil|refine ae.fu rfl rfl rfl rfl ?_|refine ae.flat rfl ?_|refine ae.cons rfl ?_|refine ae.dead rfl ?_|refine ae.cons (by simp only[ah.ax,List.map_cons,List.map_nil,XC.ax,aB];exact rfl) ?_));first|done|fail) (reg:=by(repeat' (first|exact ak.nil|refine ak.flat (by rw[e3];rfl) ?_|refine ak.flat rfl ?_|refine ak.cons rfl ?_|refine ak.sl rfl (by assumption) rfl ?_|refine ak.gL rfl rfl (by first|rfl|omega|(simp;done)|(simp;omega)) ?_));first|done|fail)) ⟨by show s.1-1<=_;omega,by simp[gB];omega,hin true (decide_eq_true (by omega)).symm⟩ (by show s.1-1<s.1;omega)
   ·rename_i g
    refine ih (s.1-1,s.2++fq _ 1++[false]) _ _ _ (b_ [0,1,4] (obj:=by(repeat' (first|exact ae.nil|refine ae.fu rfl rfl rfl rfl ?_|refine ae.flat rfl ?_|refine ae.cons rfl ?_|refine ae.dead rfl ?_|refine ae.cons (by simp only[ah.ax,List.map_cons,List.map_nil,XC.ax,aB];exact rfl) ?_));first|done|fail) (reg:=by(repeat' (first|exact ak.nil|refine ak.flat (by rw[e3];rfl) ?_|refine ak.flat rfl ?_|refine ak.cons rfl ?_|refine ak.sl rfl (by assumption) rfl ?_|refine ak.gL rfl rfl (by first|rfl|omega|(simp;done)|(simp;omega)) ?_));first|done|fail)) ⟨by show s.1-1<=_;omega,by simp[gB];omega,hin false (decide_eq_false (by omega)).symm⟩ (by show s.1-1<s.1;omega)
theorem hU{v:Int}{bs:List Bool}(hv:0<=v/\v<=8190)(hb:bs.length<=900000){HS:ai}{i k:Nat}(hi:HS[i]? = some (aK k bs))(hk:HS[k]? = some (aq bs))(hd:i≠k){N:Nat}(hN:HS.length=N){HS':ai}(hh:bQ HS [i,k] [aK N (bs++dU v),.dead,aq (bs++dU v)]=HS')(hbd:Nat.blt HS'.length Mem.bound=true) :
 aC.Sound Tryz.prog ⟨139,[.one (.ptr i 0),.one (.int .i64 v)],HS,.one (.bool true),HS',[i,k]⟩:=
 H7 (fun τ => .flat .nil) (.flat .nil) (w8 bs v hv hb) hi hk hd hN hh hbd
structure IL(L:List Int)(B:List Bool):Prop where
 le:B.length<=8*L.length
 byte:jz L
 bit:∀j,j<B.length->ka L j=B.getD j false
 small:L.length<=1000000
def qj(B:List Bool)(r:Nat×Bool):Bool := !r.2&&B.getD r.1 false
def gP(B:List Bool)(r:Nat×Bool):Nat×Bool:=if r.2=true then r else if r.1<B.length then(r.1+1,false)else(r.1,true)
def b2(b:Bool):Int:=if b then 1 else 0
theorem aV{α : Type}{l:List α}{i:Nat}{a : α}(h:l[i]? = some a):l.set i a=l:=by
 apply List.ext_getElem?
 intro j
 rw[List.getElem?_set]
 split
 ·rename_i e
  subst e
  rw[h];simp[(List.getElem?_eq_some_iff.1 h).1]
 ·rfl
def IB(B:List Bool):Nat->Int->Nat×Bool->Int×(Nat×Bool)
 | 0,_,r=>(0,(r.1,true))
 | k+1,x,r=>
   if(gP B (gP B r)).2=true\/8190<2*x+b2 (qj B r)-1 then(0,((gP B (gP B r)).1,true))
   else if qj B (gP B r)=true then IB B k (2*x+b2 (qj B r)) (gP B (gP B r))
   else(2*x+b2 (qj B r)-1,gP B (gP B r))
def r7(B:List Bool)(r:Nat×Bool):Int×(Nat×Bool):=if qj B r=true then(0,gP B r)else IB B 13 1 (gP B r)
end Go.Proofs.YtnkodcmkpfefhaaGreat
namespace Go.Proofs.YtnkodcmkpfefhaaGreat
open Go.Xm
structure Cd where
 S:List Int
 W:List Int
 T:List Int
def Is(C:Cd):Bool:=decide (C.W.length=C.S.length)&&decide (C.S.length<=64)&&decide (C.T.length=2*(C.T.length/2))&&decide (0<C.T.length/\C.T.length<=1000)&&C.S.all (fun s=>decide (0<=s/\s<=64))&&C.W.all (fun w=>decide (0<=w/\w<18446744073709551616))&&
 (List.range C.T.length).all (fun j=>decide (-1000<=C.T.getD j 0/\(C.T.getD j 0<=0\/((j/2:Nat):Int)<C.T.getD j 0/\2*C.T.getD j 0+1<C.T.length)))
structure xT(C:Cd):Prop where
 lenW:C.W.length=C.S.length
 lenS:C.S.length<=64
 even:C.T.length=2*(C.T.length/2)
 pos:0<C.T.length/\C.T.length<=1000
 sz:∀i,0<=C.S.getD i 0/\C.S.getD i 0<=64
 wd:∀i,0<=C.W.getD i 0/\C.W.getD i 0<18446744073709551616
 tr:∀j,j<C.T.length -> -1000<=C.T.getD j 0/\(C.T.getD j 0<=0\/((j/2:Nat):Int)<C.T.getD j 0/\2*C.T.getD j 0+1<C.T.length)
theorem rr{l:List Int}{p:Int->Prop}(h:∀x∈l,p x)(h0:p 0)(i:Nat):p (l.getD i 0):=by
 rw[List.getD_eq_getElem?_getD]
 cases hi:l[i]? with
 | none=>exact h0
 | some x=>exact h x (List.mem_of_getElem? hi)
theorem uh{C:Cd}(h:Is C=true):xT C:=by
 unfold Is at h
 simp only[Bool.and_eq_true,decide_eq_true_eq,List.all_eq_true,List.mem_range]at h
 obtain⟨⟨⟨⟨⟨⟨h1,h2⟩,h3⟩,h4⟩,h5⟩,h6⟩,h7⟩:=h
 exact⟨h1,h2,h3,h4,rr h5 (by decide),rr h6 (by decide),h7⟩
variable [aw]
abbrev aI(a b t:Nat)(C:Cd):ah := .cells [.slice a 0 C.S.length (.toEnd 1),.slice b 0 C.S.length (.exact C.S.length),.slice t 0 (C.T.length/2) (.toEnd 2)] 172 false false
abbrev bz(C:Cd):ah := .cells (il .i64 C.S) 3 true false
abbrev bC(C:Cd):ah := .cells (il .u64 C.W) 173 false false
abbrev bB(C:Cd):ah := .cells (il .i64 C.T) 202 true false
def ir(C:Cd)(n:Nat):List Bool:=fq (C.W.getD n 0) (C.S.getD n 0).toNat
theorem DR{C:Cd}(hC:xT C)(bs:List Bool)(n:Nat)(hn:n<C.S.length)(hb:bs.length<=1000000) :
 aW Tryz.prog 138 [.one (.ptr 2 0),.one (.ptr 0 0),.one (.int .i64 (n:Nat))] [aK 1 bs,aq bs,aI 3 4 5 C,bz C,bC C,bB C] (.one (.int .i64 0)) [aK 6 (bs++ir C n),.dead,aI 3 4 5 C,bz C,bC C,bB C,aq (bs++ir C n)]:=by
 have h1:=hC.lenW
 have h2:=hC.lenS
 have h3:=hC.sz n
 have h4:=hC.wd n
 have e3:(C.S.getD ((n:Int)).toNat 0)=C.S.getD n 0:=rfl
 have e5:((C.S.getD n 0).toNat:Int)=C.S.getD n 0:=by omega
 refine cO Tryz.func138 ?_
 repeat' (first
  |(refine qz ?_;first
   |refine cl ?_ (hi:=by exact fR (n:=C.W.getD n 0) (z:=C.S.getD n 0) (size:=(C.S.getD n 0).toNat) (by omega) (bs:=bs) h4 (by omega) hb rfl rfl (by decide) nL nA rfl))
  |refine zz ?_|refine zx (fun _=>?_) (fun _=>?_)|fail)
 show aD _ _ _ _ _ _ _ _;refine kV [0,1,2,3,4,5,6] ?_
 rfl
def K0(C:Cd)(B:List Bool):Nat->Int->Nat×Bool->Int×(Nat×Bool)
 | 0,_,r=>(0,(r.1,true))
 | k+1,x,r=>
   if(gP B r).2=true\/C.T.getD (x.toNat*2+(b2 (qj B r)%2^1).toNat) 0=0 then(0,((gP B r).1,true))
   else if C.T.getD (x.toNat*2+(b2 (qj B r)%2^1).toNat) 0<0 then(-1-C.T.getD (x.toNat*2+(b2 (qj B r)%2^1).toNat) 0,gP B r)
   else K0 C B k (C.T.getD (x.toNat*2+(b2 (qj B r)%2^1).toNat) 0) (gP B r)
def Kz(C:Cd)(B:List Bool)(r:Nat×Bool):Int×(Nat×Bool):=K0 C B (C.T.length/2) 0 r
theorem JB(a b:List XC)(e e' e2:TypeId)(cs ds c1 c2 c3 c4:List XC)(e4 e5 e6 e7:TypeId):eV [.cells a e false false,dG e' cs,.cells c1 e4 false false,.cells c2 e5 true false,.cells c3 e6 false false,.cells c4 e7 true false] [.cells b e false false,.dead,.cells c1 e4 false false,.cells c2 e5 true false,.cells c3 e6 false false,.cells c4 e7 true false,dG e2 ds]=true:=by
 cases cs<;>cases ds<;>simp[eV,ah.live,ah.own,dG]
theorem n9{C:Cd}(hC:xT C){bs:List Bool}{n:Nat}{z:Int}(hz:z=(n:Nat))(hn:n<C.S.length)(hbl:bs.length<=1000000){HS:ai}{i k c a b t:Nat}(hi:HS[i]? = some (aK k bs))(hk:HS[k]? = some (aq bs))(hc:HS[c]? = some (aI a b t C))(ha:HS[a]? = some (bz C))(hb:HS[b]? = some (bC C))(ht:HS[t]? = some (bB C))(hd : [i,k,c,a,b,t].Nodup){N:Nat}(hN:HS.length=N){HS':ai}(hh:bQ HS [i,k] [aK N (bs++ir C n),.dead,aq (bs++ir C n)]=HS')(hbd:Nat.blt HS'.length Mem.bound=true) :
 aC.Sound Tryz.prog ⟨138,[.one (.ptr c 0),.one (.ptr i 0),.one (.int .i64 z)],HS,.one (.int .i64 0),HS',[i,k]⟩:=by
 subst hN
 subst hz
 have hh':bQ HS [i,k,c,a,b,t] [aK HS.length (bs++ir C n),.dead,aI a b t C,bz C,bC C,bB C,aq (bs++ir C n)]=HS':=by
  subst hh
  simp only[List.nodup_cons,List.mem_cons,List.not_mem_nil,or_false,not_or]at hd
  simp only[bQ]
  rw[aV (i:=c) (by rw[List.getElem?_set_ne hd.2.1.1,List.getElem?_set_ne hd.1.2.1];exact hc),aV (i:=a) (by rw[List.getElem?_set_ne hd.2.1.2.1,List.getElem?_set_ne hd.1.2.2.1];exact ha),aV (i:=b) (by rw[List.getElem?_set_ne hd.2.1.2.2.1,List.getElem?_set_ne hd.1.2.2.2.1];exact hb),aV (i:=t) (by rw[List.getElem?_set_ne hd.2.1.2.2.2,List.getElem?_set_ne hd.1.2.2.2.2];exact ht)]
 refine ca [i,k,c,a,b,t] [i,k] 1 (DR hC bs n hn hbl) hd ?_ ?_ ?_ rfl (.cons (by simp[XV.bl,XC.ok]) (.cons (by simp[XV.bl,XC.ok]) (.flat .nil))) (.cons rfl (.cons rfl (.flat .nil))) (bh.ok _) (bh.ax _) ?_ (JB ..) rfl hh' hbd (.inr fun j hjl hj=>?_)
 ·exact ae.fu hi rfl rfl rfl (.flat hk (.cons hc (.flat ha (.flat hb (.flat ht .nil)))))
 ·exact .cons (by simp[ah.bl,XC.ok,aE]) (.flat (.cons (by simp[ah.bl,XC.ok]) (.flat (.flat (.flat .nil)))))
 ·exact .cons (by simp[ah.bl,XC.ok,aE]) (.flat (.cons (by simp[ah.bl,XC.ok]) (.flat (.flat (.flat (.flat .nil))))))
 ·exact .cons (by simp only[ah.ax,List.map_cons,List.map_nil,XC.ax,aB];rfl) (.flat (.cons rfl (.flat (.flat (.flat (.flat .nil))))))
 ·subst hh
  exact ky _ _ _ _ hjl (by simpa using hj)
end Go.Proofs.YtnkodcmkpfefhaaGreat
namespace Go.Xm
variable [aw]
theorem yi{P:Program}{f:FuncId}{args:List XV}{v1 v:XV}{hs1 hs2:ai}(hc:aW P f args [] v1 hs1)(τl:List Nat)(hv:v1=v.ax (nth τl))(hok:v.bl hs2.length)(nd:Nd τl hs2)(ho:ae (nth τl) hs1 τl hs2)(hk:ay hs2.length hs2)(hb:Nat.blt hs2.length Mem.bound=true):aW P f args [] v hs2:=by
 intro m hm β w vs hall hw
 refine(hc m hm β w vs hall hw).mono fun e w' ⟨u,β',m1,he,hm1,hu,hst⟩=>?_
 have hbd:hs2.length<Mem.bound:=by simpa [Nat.blt_eq]using hb
 have hm2:=f7 hs2 hbd
 have nm:=hm.n
 have n2:=hm2.n
 simp only[List.length_nil]at nm
 let β2:Env:=⟨fun i => β'.cx (nth τl i),fun i => β'.base (nth τl i),fun i => β'.size (nth τl i)⟩
 have hvia:xX β2 β' (nth τl) hs2.length:=fun i _=>⟨rfl,rfl,rfl⟩
 have hview:=ho.view nd hk
 subst hv
 refine⟨u,β2,kr hs2,he,hm2,by rw[n2];exact hu.tO hvia hok,⟨by omega,fun i hi=>by omega,hst.rel.view hm1 hm2 hview hvia,hst.os,hst.tape,hst.output,hst.size,hst.frame,fun k hk hi=>hst.sU k hk (Rel.u1 hm1 hm2 hview hvia hi)⟩⟩
end Go.Xm
namespace Go.Proofs.YtnkodcmkpfefhaaGreat
open Go.Xm
def cM:Cd:=⟨[2,1,3,4,4],[2,0,6,14,15],[-2,1,-1,2,-3,3,-4,-5]⟩
def cZ:Cd:=⟨[3,2,2,3,3,4,5,6,7,8,9,10,10],[4,0,1,5,6,14,30,62,126,254,510,1022,1023],[1,2,-2,-3,3,4,-1,-4,-5,5,-6,6,-7,7,-8,8,-9,9,-10,10,-11,11,-12,-13]⟩
def cP:Cd:=⟨[3,4,4,4,4,4,5,4,4,5,4,4,4,5,5,3],[0,4,5,6,7,8,28,9,10,29,11,12,13,30,31,1],[1,6,2,3,-1,-16,4,5,-2,-3,-4,-5,7,10,8,9,-6,-8,-9,-11,11,12,-12,-13,13,14,-7,-10,-14,-15]⟩
theorem zV:xT cM:=uh (by decide)
theorem zW:xT cZ:=uh (by decide)
theorem DH:xT cP:=uh (by decide)
abbrev cK(a b c:Nat):ah := .cells [.ptr a 0,.ptr b 0,.ptr c 0] 112 false false
abbrev DM:ai:=[cK 1 5 9,aI 2 3 4 cM,bz cM,bC cM,bB cM,aI 6 7 8 cZ,bz cZ,bC cZ,bB cZ,aI 10 11 12 cP,bz cP,bC cP,bB cP]
noncomputable def EK:Option (XV×Mem):=(nr tD Tryz.prog 100000 60).call 32 [] Mem.empty
abbrev ui:List Nat:=[74,5,2,3,11,17,14,15,39,45,42,43,73]
theorem BX:EK.map (fun p=>(p.1,p.2.n,ui.map p.2.get))=some (.one (.ptr 74 0),75,DM.map (·.ax (nth ui))):=by kernel_rfl
variable [aw]
theorem Hq:aW Tryz.prog 32 [] [] (.one (.ptr 0 0)) DM:=by
 obtain⟨⟨v,m⟩,h1,h2⟩:=Option.map_eq_some_iff.1 BX
 simp only[Prod.mk.injEq]at h2
 obtain⟨rfl,h3,h4⟩:=h2
 have hc:=yh (iA Tryz.prog) mixed (v := .one (.ptr 74 0)) (hs':=nG m) (f:=32) (args:=[]) (F:=100000) (k:=60) (by
  show EK.map _=_
  rw[h1];rfl)
 have hg:∀i,i<75->(nG m)[i]? = some (m.get i):=fun i hi=>by
  unfold nG
  rw[h3]
  simp[hi]
 simp only[List.map_cons,List.map_nil,List.cons.injEq]at h4
 obtain⟨g0,g1,g2,g3,g4,g5,g6,g7,g8,g9,g10,g11,g12,_⟩:=h4
 refine yi hc ui rfl (by simp[XV.bl,XC.ok]) (Or.inl (by decide)) ?_ ?_ rfl
 ·refine .cons (by rw[hg _ (by decide),g0]) (.cons (by rw[hg _ (by decide),g1]) (.cons (by rw[hg _ (by decide),g2]) (.cons (by rw[hg _ (by decide),g3]) (.cons (by rw[hg _ (by decide),g4]) (.cons (by rw[hg _ (by decide),g5]) (.cons (by rw[hg _ (by decide),g6]) (.cons (by rw[hg _ (by decide),g7]) (.cons (by rw[hg _ (by decide),g8]) (.cons (by rw[hg _ (by decide),g9]) (.cons (by rw[hg _ (by decide),g10]) (.cons (by rw[hg _ (by decide),g11]) (.cons (by rw[hg _ (by decide),g12]) .nil))))))))))))
 ·refine .cons (by simp[ah.bl,XC.ok]) (.cons (by simp[ah.bl,XC.ok]) (.flat (.flat (.flat (.cons (by simp[ah.bl,XC.ok]) (.flat (.flat (.flat (.cons (by simp[ah.bl,XC.ok]) (.flat (.flat (.flat .nil))))))))))))
end Go.Proofs.YtnkodcmkpfefhaaGreat
namespace Go.Proofs.YtnkodcmkpfefhaaGreat
open Go.Xm
variable [aw]
def stepOf(q:Int):Int:=64*max 2 (min (max q 1) 31/2)
theorem lx(q:Int):128<=stepOf q/\stepOf q<=960:=by unfold stepOf;omega
theorem rX(q:Int):aW Tryz.prog 36 [.one (.int .i64 q)] [] (.one (.int .i64 (stepOf q))) []:=by
 refine cO Tryz.func36 ?_
 repeat' (first|refine zz ?_|refine zx (fun _=>?_) (fun _=>?_)|fail)
 refine kj (.inr rfl) (fun m hm=>rfl) ?_ rfl
 rfl
def cG(n q:Int):Int:=min ((max n 0+stepOf q/2)/stepOf q) 127
theorem cS(n q:Int)(hn : -100000000<=n/\n<=100000000):aW Tryz.prog 125 [.one (.int .i64 n),.one (.int .i64 q)] [] (.one (.int .i64 (cG n q))) []:=by
 have hs:=lx q
 refine cO Tryz.func125 ?_
 repeat' (first
  |(refine qz ?_;first
   |refine aA (au (rX _) rfl rfl rfl) rfl rfl rfl rfl rfl rfl (by kernel_rfl) rfl ?_)
  |refine zz ?_|refine zx (fun _=>?_) (fun _=>?_)|fail)
 refine kj (.inr rfl) (fun m hm=>rfl) ?_ rfl
 rfl
def fg(n q:Int):Int:=min (max n 0) 127*stepOf q
theorem mZ(n q:Int):0<=fg n q/\fg n q<=121920:=by
 have h1:=lx q
 have h2:0<=min (max n 0) 127/\min (max n 0) 127<=127:=by omega
 unfold fg
 exact⟨Int.mul_nonneg h2.1 (by omega),by
  have:=Int.mul_le_mul h2.2 h1.2 (by omega) (by omega:(0:Int)<=127)
  omega⟩
theorem sT(n q:Int):aW Tryz.prog 137 [.one (.int .i64 n),.one (.int .i64 q)] [] (.one (.int .i64 (fg n q))) []:=by
 have hs:=lx q
 have hb:=mZ n q
 unfold fg at hb
 refine cO Tryz.func137 ?_
 repeat' (first
  |(refine qz ?_;first
   |refine aA (au (rX _) rfl rfl rfl) rfl rfl rfl rfl rfl rfl (by kernel_rfl) rfl ?_)
  |refine zz ?_|refine zx (fun _=>?_) (fun _=>?_)|fail)
 refine kj (.inr rfl) (fun m hm=>rfl) ?_ rfl
 rfl
theorem ik(a b:Int)(ha : -1000000<=a/\a<=1000000)(hb : -1000000<=b/\b<=1000000):aW Tryz.prog 153 [.one (.int .i64 a),.one (.int .i64 b)] [] (.one (.int .i64 (max (a-b) (b-a)))) []:=by
 refine cO Tryz.func153 ?_
 repeat' (first|refine zz ?_|refine zx (fun _=>?_) (fun _=>?_)|fail)
 refine kj (.inr rfl) (fun m hm=>rfl) ?_ rfl
 rfl
structure Kn where
 lv:Nat->Int
 qp:Int
def cU(b:Kn):List XC:=ti .i64 64 b.lv++[.int .i64 b.qp]
theorem rB(b:Kn):(cU b)[64]? = some (.int .i64 b.qp):=by
 unfold cU
 rw[List.getElem?_append_right (by rw[aL];omega),aL];rfl
theorem wm(b:Kn)(j:Nat)(h:j<64):(cU b)[j]? = some (.int .i64 (b.lv j)):=by
 unfold cU
 rw[List.getElem?_append_left (by rw[aL];exact h),eY h]
theorem aY(b:Kn):(cU b).all XC.shut=true:=by
 simp[cU,ti,XC.shut]
theorem eU(b:Kn):aW Tryz.prog 152 [.agg (cU b)] [] (.one (.int .i64 (fg (b.lv 0) b.qp))) []:=by
 refine cO Tryz.func152 ?_
 repeat' (first
  |(refine qz ?_;first
   |refine aA (au (sT _ _) rfl rfl rfl) rfl rfl rfl rfl rfl rfl (by kernel_rfl) rfl ?_
   |refine fh rfl rfl rfl rfl rfl rfl (rB _) ?_
   |refine fh rfl rfl rfl rfl rfl rfl (wm _ _ (by omega)) ?_)
  |refine zz ?_|refine zx (fun _=>?_) (fun _=>?_)|fail)
 refine kj (.inr rfl) (fun m hm=>rfl) ?_ rfl
 rfl
def placeOf(cols mb k:Int):Int×Int×Int:=if k<4 then(0,2*(mb%cols)+k%2,2*(mb/cols)+k/2)else(k-3,mb%cols,mb/cols)
theorem wQ{cols rows mb k:Int}(hc:1<=cols/\cols<=8)(hm:0<=mb/\mb<1000000)(hk:0<=k/\k<1000):0<=mb/cols/\mb/cols<=mb/\0<=mb%cols/\mb%cols<cols:=
 ⟨Int.ediv_nonneg hm.1 (by omega),Int.ediv_le_self _ hm.1,Int.emod_nonneg _ (by omega),Int.emod_lt_of_pos _ (by omega)⟩
abbrev mS:=List (Int×Kn)
def Jd(z:Int):X1 := .one (.int .i64 z)
def yC(b:Kn):X1 := .agg (cU b)
theorem qC:qT Tryz.prog 3 Jd:=Jk
def Js:Kn:=⟨fun _=>0,0⟩
theorem Kv:mq Tryz.prog 181=some (yC Js):=by kernel_rfl
abbrev aj(M:mS):List (X1×X1):=jw Jd yC M
theorem gq(M:mS)(τ : Nat->Nat):(aj M).map (fun p=>(p.1.ax τ,p.2.ax τ))=aj M:=by
 unfold aj jw
 rw[List.map_map]
 refine List.map_congr_left fun p _=>?_
 simp only[Function.comp,X1.cV (x:=yC p.2) (aY p.2) τ]
 rfl
theorem uo(M:mS)(n:Nat):∀p∈aj M,p.1.ok n/\p.2.ok n:=by
 intro p hp
 obtain⟨q,_,rfl⟩:=List.mem_map.1 hp
 exact⟨trivial,X1.bm (x:=yC q.2) (aY q.2) n⟩
abbrev xe(cols rows:Int):List XC:=[.int .i64 cols,.int .i64 rows,.map 1,.map 2,.map 3]
abbrev bt(cols rows:Int)(A B C:mS):ai:=[.cells (xe cols rows) 142 false false,.map (aj A),.map (aj B),.map (aj C)]
theorem cL(cols rows:Int)(A B C:mS):∀o∈bt cols rows A B C,o.bl 4:=by
 intro o ho
 simp only[bt,List.mem_cons,List.not_mem_nil,or_false]at ho
 rcases ho with rfl|rfl|rfl|rfl
 ·simp[ah.bl,XC.ok,xe]
 ·exact uo A 4
 ·exact uo B 4
 ·exact uo C 4
theorem CL(cols rows:Int)(A B C:mS):∀o∈bt cols rows A B C,o.live=true:=by
 intro o ho
 simp only[bt,List.mem_cons,List.not_mem_nil,or_false]at ho
 rcases ho with rfl|rfl|rfl|rfl<;>rfl
theorem tM{HS:ai}{cols rows:Int}{A B C:mS}(a b c d:Nat)(hd : [a,b,c,d].Nodup)(ha:HS[a]? = some (.cells [.int .i64 cols,.int .i64 rows,.map b,.map c,.map d] 142 false false))(hb:HS[b]? = some (.map (aj A)))(hc:HS[c]? = some (.map (aj B)))(hdd:HS[d]? = some (.map (aj C))) :
 View (nth [a,b,c,d]) HS (bt cols rows A B C):=by
 refine IH [a,b,c,d] rfl hd (cL _ _ _ _ _) fun j o hj=>?_
 match j,hj with
 | 0,hj=>cases hj;exact ha
 | 1,hj=>cases hj;simp only[ah.ax,gq];exact hb
 | 2,hj=>cases hj;simp only[ah.ax,gq];exact hc
 | 3,hj=>cases hj;simp only[ah.ax,gq];exact hdd
 | j+4,hj=>simp[bt]at hj
def bE(A B C:mS)(p:Int):mS:=if p=0 then A else if p=1 then B else C
def pg(cols mb k:Int):XV := .tup [.one (.int .i64 (placeOf cols mb k).1),.one (.int .i64 (if k<4 then 2*cols else cols)),.one (.int .i64 (placeOf cols mb k).2.1),.one (.int .i64 (placeOf cols mb k).2.2)]
theorem tF(cols mb k:Int)(n:Nat):(pg cols mb k).bl n:=by
 simp[pg,XV.bl,X1.ok,XC.ok]
theorem B6(cols rows mb k:Int)(A B C:mS)(hc:1<=cols/\cols<=8)(hm:0<=mb/\mb<1000000)(hk:0<=k/\k<1000) :
 aW Tryz.prog 128 [.one (.ptr 0 0),.one (.int .i64 mb),.one (.int .i64 k)] (bt cols rows A B C) (pg cols mb k) (bt cols rows A B C):=by
 have hb:=wQ (rows:=0) hc hm hk
 refine cO Tryz.func128 ?_
 repeat' (first|refine zz ?_|refine zx (fun _=>?_) (fun _=>?_)|fail)
 ·show aD _ _ _ _ _ _ _ _;refine bD (junk:=[]) (.inr rfl) (fun m hm=>rfl) ?_ (tF _ _ _ _) rfl (cL _ _ _ _ _)
  simp only[pg,placeOf,if_pos (show k<4 from ‹_›)]
 ·show aD _ _ _ _ _ _ _ _;refine bD (junk:=[]) (.inr rfl) (fun m hm=>rfl) ?_ (tF _ _ _ _) rfl (cL _ _ _ _ _)
  simp only[pg,placeOf,if_neg (show¬k<4 from ‹_›)]
def fQ(cols rows mb k:Int):Bool:=decide (0<=mb/\mb<cols*rows/\0<=k/\k<6)
theorem d8(cols rows mb k:Int)(A B C:mS)(hcr:0<=cols*rows/\cols*rows<=64) :
 aW Tryz.prog 130 [.one (.ptr 0 0),.one (.int .i64 mb),.one (.int .i64 k)] (bt cols rows A B C) (.one (.bool (fQ cols rows mb k))) (bt cols rows A B C):=by
 refine cO Tryz.func130 ?_
 repeat' (first|refine zz ?_|refine zx (fun _=>?_) (fun _=>?_)|fail)
 all_goals
  show aD _ _ _ _ _ _ _ _;refine kM ?_ (cL _ _ _ _ _)
  unfold fQ
  first
   | rw[decide_eq_true (by omega)];rfl
   | rw[decide_eq_false (by omega)];rfl
end Go.Proofs.YtnkodcmkpfefhaaGreat
