/-
  A part of the proof: BitsW, BitsX, BitsR, RvlcR, Codes, PartNew, PrSmall.
-/
import Derived.Test.YthdciapjllppjaaGreatFaE
import Derived.Test.YthdciapjllppjaaGreatFaF
set_option maxRecDepth 10000
set_option maxHeartbeats 8000000
set_option linter.unusedVariables false
set_option linter.unusedSectionVars false
set_option linter.unusedSimpArgs false
open Go.Proofs.Tryz (prog)
namespace Go.Proofs.YthdciapjllppjaaGreat
open Go.Xm
def kZ(l:List Int)(i:Nat):Bool:=decide (l.getD (i/8) 0/2^(7-i%8)%2=1)
abbrev aR(l:List Int):Prop:=∀p,0<=l.getD p 0/\l.getD p 0<256
section
variable [av]
def i9(L:List Int)(many:Nat)(b:Bool):List Int:=
 if b then(if many%8=0 then L++[0]else L).set (many/8) (CB .u8 ((if many%8=0 then L++[0]else L).getD (many/8) 0) (128/2^(many%8)))else(if many%8=0 then L++[0]else L)
def SL(st:List Int×Nat)(b:Bool):List Int×Nat:=(i9 st.1 st.2 b,st.2+1)
def wr(bs:List Bool):List Int:=(bs.foldl SL ([],0)).1
theorem Fc:∀(bs:List Bool) (st:List Int×Nat),(bs.foldl SL st).2=st.2+bs.length
 | [],st=>rfl
 | b::bs,st=>by
   simp only[List.foldl_cons,Fc bs,SL,List.length_cons];omega
theorem vX(bs:List Bool)(b:Bool):wr (bs++[b])=i9 (wr bs) bs.length b:=by
 unfold wr;rw[List.foldl_append];have:=Fc bs ([],0);simp only[List.foldl_cons,List.foldl_nil,SL,this,Nat.zero_add]
theorem Ka(L:List Int)(many:Nat)(b:Bool):(i9 L many b).length=L.length+(if many%8=0 then 1 else 0):=by
 unfold i9;split<;>split<;>simp
theorem sg{p:List Bool->Prop}(h0:p [])(h1:∀bs b,p bs->p (bs++[b]))(bs:List Bool):p bs:=by
 have:∀n (bs:List Bool),bs.length=n->p bs:=by
  intro n
  induction n with
  | zero=>intro bs h;rw[List.length_eq_zero_iff.1 h];exact h0
  | succ n ih=>
    intro bs h;have hne:bs≠[]:=fun e=>by rw[e]at h;simp at h
    rw[<-List.dropLast_concat_getLast hne];exact h1 _ _ (ih _ (by simp[h]))
 exact this _ bs rfl
theorem dH(bs:List Bool):(wr bs).length=(bs.length+7)/8:=by
 refine sg (p:=fun bs=>(wr bs).length=(bs.length+7)/8) rfl (fun bs b ih=>?_) bs;rw[vX,Ka,ih,List.length_append,List.length_cons,List.length_nil];split<;>omega
theorem PF:∀(x:Fin 256) (k j:Fin 8),decide (CB .u8 (x.val:Int) (128/2^k.val)/2^(7-j.val)%2=1)=(decide ((x.val:Int)/2^(7-j.val)%2=1)||decide (j=k)):=by
 decide +kernel
theorem PG:∀(x:Fin 256) (k:Fin 8),0<=CB .u8 (x.val:Int) (128/2^k.val)/\CB .u8 (x.val:Int) (128/2^k.val)<256:=by
 decide +kernel
theorem z9{L:List Int}(h:aR L):aR (L++[0]):=fun p=>by
 rw[List.getD_eq_getElem?_getD]
 by_cases hp:p<L.length
 ·rw[List.getElem?_append_left hp,<-List.getD_eq_getElem?_getD];exact h p
 ·rw[List.getElem?_append_right (by omega)]
  cases hq:p-L.length with
  | zero=>simp
  | succ q=>simp
theorem GF{L:List Int}(h:aR L)(many:Nat)(b:Bool):aR (i9 L many b):=by
 have h1:aR (if many%8=0 then L++[0]else L):=by
  split
  ·exact z9 h
  ·exact h
 unfold i9;generalize (if many%8=0 then L++[0]else L)=L1 at h1 ⊢;split
 ·intro p;rw[List.getD_eq_getElem?_getD,List.getElem?_set];split
  ·split
   ·have hb:=h1 (many/8)
    obtain⟨x,hx⟩:∃x:Fin 256,L1.getD (many/8) 0=(x.val:Int):=⟨⟨(L1.getD (many/8) 0).toNat,by omega⟩,by simp only[];omega⟩
    rw[hx];exact PG x ⟨many%8,Nat.mod_lt _ (by omega)⟩
   ·simp
  ·rw[<-List.getD_eq_getElem?_getD];exact h1 p
 ·exact h1
theorem jS(bs:List Bool):aR (wr bs):=by
 refine sg (p:=fun bs=>aR (wr bs)) (fun p=>by simp[wr]) (fun bs b ih=>?_) bs;rw[vX];exact GF ih _ _
theorem Ii(L:List Int)(j:Nat):kZ (L++[0]) j=kZ L j:=by
 unfold kZ
 have:(L++[0]).getD (j/8) 0=L.getD (j/8) 0:=by
  rw[List.getD_eq_getElem?_getD,List.getD_eq_getElem?_getD]
  by_cases hp:j/8<L.length
  ·rw[List.getElem?_append_left hp]
  ·rw[List.getElem?_append_right (by omega),List.getElem?_eq_none (l:=L) (by omega)];cases j/8-L.length<;>simp
 rw[this]
theorem J_{L:List Int}(h:aR L)(many:Nat)(hlen:L.length=(many+7)/8)(b:Bool)(j:Nat):kZ (i9 L many b) j=(kZ L j||(b&&decide (j=many))):=by
 have h1:aR (if many%8=0 then L++[0]else L):=by
  split
  ·exact z9 h
  ·exact h
 have h2:∀j,kZ (if many%8=0 then L++[0]else L) j=kZ L j:=fun j=>by
  split
  ·exact Ii L j
  ·rfl
 have h3:many/8<(if many%8=0 then L++[0]else L).length:=by
  split
  ·simp;omega
  ·omega
 unfold i9;generalize (if many%8=0 then L++[0]else L)=L1 at h1 h2 h3 ⊢;rw[<-h2]
 cases b with
 | false=>simp
 | true=>
   simp only[if_true,Bool.true_and];unfold kZ;rw[List.getD_eq_getElem?_getD,List.getElem?_set]
   by_cases hj:many/8=j/8
   ·rw[if_pos hj,if_pos h3,<-hj];have hb:=h1 (many/8)
    obtain⟨x,hx⟩:∃x:Fin 256,L1.getD (many/8) 0=(x.val:Int):=⟨⟨(L1.getD (many/8) 0).toNat,by omega⟩,by simp only[];omega⟩
    rw[hx];have:=PF x ⟨many%8,Nat.mod_lt _ (by omega)⟩ ⟨j%8,Nat.mod_lt _ (by omega)⟩;simp only[Fin.mk.injEq]at this;show decide (CB .u8 (x.val:Int) (128/2^(many%8))/2^(7-j%8)%2=1)=_;rw[this]
    congr 1
    exact decide_eq_decide.2 (by omega)
   ·rw[if_neg hj,<-List.getD_eq_getElem?_getD,decide_eq_false (show¬j=many by intro e;rw[e]at hj;exact hj rfl),Bool.or_false]
theorem Li(bs:List Bool)(j:Nat):kZ (wr bs) j=bs.getD j false:=by
 refine sg (p:=fun bs=>kZ (wr bs) j=bs.getD j false) (by simp[wr,kZ]) (fun bs b ih=>?_) bs;rw[vX,J_ (jS bs) _ (dH bs),ih,List.getD_eq_getElem?_getD,List.getD_eq_getElem?_getD]
 by_cases h:j<bs.length
 ·rw[List.getElem?_append_left h,decide_eq_false (by omega)];simp
 ·rw[List.getElem?_append_right (by omega),List.getElem?_eq_none (l:=bs) (by omega)]
  by_cases h2:j=bs.length
  ·subst h2;simp
  ·have:j-bs.length≠0:=by omega
   obtain⟨q,hq⟩:∃q,j-bs.length=q+1:=⟨j-bs.length-1,by omega⟩
   rw[hq,decide_eq_false h2];simp
def bd(n:Int):Nat->List Bool
 | 0=>[]
 | k+1=>decide (n/2^k%2=1)::bd n k
theorem bB(n:Int):∀k,(bd n k).length=k
 | 0=>rfl
 | k+1=>by simp[bd,bB n k]
end
abbrev WH(bs:List Bool):ah:=[.cells [fk 1 ((bs.length+7)/8) 1,.int .i64 (bs.length:Nat)] 134 false false,bu 5 (il .u8 (wr bs))]
abbrev LR(bs:List Bool):ah:=[.cells [fk 2 ((bs.length+7)/8) 1,.int .i64 (bs.length:Nat)] 134 false false,.dead,bu 5 (il .u8 (wr bs))]
variable [av]
theorem GG(n:Int)(bs:List Bool)(k:Nat):bs++bd n (k+1)=(bs++[decide (n/2^k%2=1)])++bd n k:=by
 simp[bd]
theorem Fe{bs:List Bool}{L:List Int}(h:L=if bs.length%8=0 then wr bs++[0]else wr bs):wr (bs++[true])=L.set ((bs.length:Int)/8).toNat (CB .u8 (L.getD ((bs.length:Int)/8).toNat 0) (128/2^((bs.length:Int)%8).toNat)):=by
 rw[vX,i9,if_pos rfl,<-h,show((bs.length:Int)/8).toNat=bs.length/8 by omega,show((bs.length:Int)%8).toNat=bs.length%8 by omega]
theorem BC{bs:List Bool}{L:List Int}(h:L=if bs.length%8=0 then wr bs++[0]else wr bs):wr (bs++[false])=L:=by
 rw[vX,i9,if_neg (by decide),<-h]
theorem Lh(bs:List Bool)(n:Int)(size:Nat)(hn:0<=n/\n<18446744073709551616)(hs:size<=64)(hb:bs.length<=1000000) :
 bm prog 46 [.one (.ptr 0 0),.one (.int .u64 n),.one (.int .i64 (size:Nat))] (WH bs) (.tup []) (LR (bs++bd n size)):=by
 refine cO Tryz.func46 ?_
 repeat' (first|refine zz ?_|refine zx (fun _=>?_) (fun _=>?_)|fail)
 refine WX.bN (σ:=Nat×List Bool) (fun s=>[(6,.one (.int .i64 ((s.1:Int)-1))),(0,.one (.ptr 0 0)),(1,.one (.int .u64 n))]) (fun s=>LR s.2) (fun s=>s.1<=64/\s.2.length+s.1<=1000064/\s.2++bd n s.1=bs++bd n size) (fun s=>s.1) (size,bs) ⟨hs,by simp only[];omega,rfl⟩ (fun s _=>mZ) (bq [0,1,1]) ?_;intro s ⟨h1,h2,h3⟩ ih;have hwl:=dH s.2
 by_cases hk:s.1=0
 ·have e:bs++bd n size=s.2:=by rw[<-h3,hk];simp[bd]
  rw[e]
  repeat' (first|refine zz ?_|refine zx (fun _=>?_) (fun _=>?_)|fail)
  show aE _ _ _ _ _ _ _ _;refine kV [0,1,2] ?_;rfl
 ·have hsh:(n/2^(((s.1:Int)-1).toNat)%2=0\/n/2^(((s.1:Int)-1).toNat)%2=1)/\0<=n/2^(((s.1:Int)-1).toNat):=⟨by omega,Int.ediv_nonneg hn.1 (Int.le_of_lt (Int.pow_pos (by decide)))⟩
  have e3:((s.1-1:Nat):Int)=(s.1:Int)-1:=by omega
  have e4:((s.1:Int)-1).toNat=s.1-1:=by omega
  have hput:s.2++bd n s.1=(s.2++[decide (n/2^(s.1-1)%2=1)])++bd n (s.1-1):=by
   rw[<-GG,show s.1-1+1=s.1 by omega]
  repeat' (first|refine zz ?_|refine zx (fun _=>?_) (fun _=>?_)|fail)
  ·rename_i g1 g2;have e1:=Fe (bs:=s.2) (L:=wr s.2++[0]) (if_pos (by omega)).symm;have e2:((s.2++[true]).length:Int)=(s.2.length:Int)+1:=by simp
   rw[decide_eq_true (by rw[<-e4];exact g2)]at hput;refine ih (s.1-1,s.2++[true]) _ _ _ (bq [0,1,4] (obj:=by(repeat' (first|exact af.nil|refine af.flat (by rw[e1];rfl) ?_|refine af.ig (by rw[e2];rfl) rfl (by simp;omega) rfl ?_|refine oz ?_));first|done|fail) (reg:=by(repeat' (first|exact ae.nil|refine ae.flat (by rw[e3];rfl) ?_|refine rz ?_|refine ae.sl rfl (by assumption) rfl ?_));first|done|fail)) ⟨by show s.1-1<=_;omega,by simp;omega,by show _++_=_;rw[<-hput];exact h3⟩ (by show s.1-1<s.1;omega)
  ·rename_i g1 g2;have e1:=BC (bs:=s.2) (L:=wr s.2++[0]) (if_pos (by omega)).symm;have e2:((s.2++[false]).length:Int)=(s.2.length:Int)+1:=by simp
   rw[decide_eq_false (by rw[<-e4];exact g2)]at hput;refine ih (s.1-1,s.2++[false]) _ _ _ (bq [0,1,4] (obj:=by(repeat' (first|exact af.nil|refine af.flat (by rw[e1];rfl) ?_|refine af.ig (by rw[e2];rfl) rfl (by simp;omega) rfl ?_|refine oz ?_));first|done|fail) (reg:=by(repeat' (first|exact ae.nil|refine ae.flat (by rw[e3];rfl) ?_|refine rz ?_|refine ae.sl rfl (by assumption) rfl ?_));first|done|fail)) ⟨by show s.1-1<=_;omega,by simp;omega,by show _++_=_;rw[<-hput];exact h3⟩ (by show s.1-1<s.1;omega)
  ·rename_i g1 g2;have e1:=Fe (bs:=s.2) (L:=wr s.2) (if_neg (by omega)).symm;have e2:((s.2++[true]).length:Int)=(s.2.length:Int)+1:=by simp
   rw[decide_eq_true (by rw[<-e4];exact g2)]at hput;refine ih (s.1-1,s.2++[true]) _ _ _ (bq [0,1,2] (obj:=by(repeat' (first|exact af.nil|refine af.flat (by rw[e1];rfl) ?_|refine af.ig (by rw[e2];rfl) rfl (by simp;omega) rfl ?_|refine oz ?_));first|done|fail) (reg:=by(repeat' (first|exact ae.nil|refine ae.flat (by rw[e3];rfl) ?_|refine rz ?_|refine ae.sl rfl (by assumption) rfl ?_));first|done|fail)) ⟨by show s.1-1<=_;omega,by simp;omega,by show _++_=_;rw[<-hput];exact h3⟩ (by show s.1-1<s.1;omega)
  ·rename_i g1 g2;have e1:=BC (bs:=s.2) (L:=wr s.2) (if_neg (by omega)).symm;have e2:((s.2++[false]).length:Int)=(s.2.length:Int)+1:=by simp
   rw[decide_eq_false (by rw[<-e4];exact g2)]at hput;refine ih (s.1-1,s.2++[false]) _ _ _ (bq [0,1,2] (obj:=by(repeat' (first|exact af.nil|refine af.flat (by rw[e1];rfl) ?_|refine af.ig (by rw[e2];rfl) rfl (by simp;omega) rfl ?_|refine oz ?_));first|done|fail) (reg:=by(repeat' (first|exact ae.nil|refine ae.flat (by rw[e3];rfl) ?_|refine rz ?_|refine ae.sl rfl (by assumption) rfl ?_));first|done|fail)) ⟨by show s.1-1<=_;omega,by simp;omega,by show _++_=_;rw[<-hput];exact h3⟩ (by show s.1-1<s.1;omega)
end Go.Proofs.YthdciapjllppjaaGreat
namespace Go.Proofs.YthdciapjllppjaaGreat
open Go.Xm
variable [av]
instance RA:b_ (.tup []):=jj rfl
theorem Kk(a b:List XC)(e e' e2:TypeId)(cs ds:List XC):fX [.cells a e false false,bu e' cs] [.cells b e false false,.dead,bu e2 ds]=true:=by
 cases cs<;>cases ds<;>simp[fX,aj.live,aj.own,bu]
abbrev aP(k:Nat)(bs:List Bool):aj := .cells [fk k ((bs.length+7)/8) 1,.int .i64 (bs.length:Nat)] 134 false false
abbrev au(bs:List Bool):aj:=bu 5 (il .u8 (wr bs))
theorem NH{f:FuncId}{more:List XV}(hm:∀τ,e9 τ more more)(hmo:gQ 2 more){v:XV}[b_ v]{bs bs':List Bool}(hc:bm prog f (.one (.ptr 0 0)::more) (WH bs) v (LR bs')){HS:ah}{i k:Nat}(hi:HS[i]? = some (aP k bs))(hk:HS[k]? = some (au bs))(hd:i≠k){N:Nat}(hN:HS.length=N){HS':ah}(hh:bD HS [i,k] [aP N bs',.dead,au bs']=HS')(hbd:Nat.blt HS'.length Mem.bound=true) :
 aA.Sound prog ⟨f,.one (.ptr i 0)::more,HS,v,HS',[i,k]⟩:=by
 subst hN;refine bh [i,k] [i,k] 1 hc (by simp[hd]) ?_ ?_ ?_ rfl (.cons (by simp[XV.bt,XC.ok]) hmo) (.cons rfl (hm _)) (b_.ok _) (b_.aC _) ?_ (Kk ..) rfl hh hbd (.inl rfl)
 ·exact af.ig hi rfl rfl rfl (.flat hk .nil)
 ·exact .cons (by simp[aj.bt,XC.ok,aJ]) (.flat .nil)
 ·exact .cons (by simp[aj.bt,XC.ok,aJ]) (.flat (.flat .nil))
 ·exact .cons (by simp only[aj.aC,List.map_cons,List.map_nil,XC.aC,aX];rfl) (.flat (.flat .nil))
theorem fu{n:Int}{size:Nat}{z:Int}(hz:z=(size:Nat)){bs:List Bool}(hn:0<=n/\n<18446744073709551616)(hs:size<=64)(hb:bs.length<=1000000){HS:ah}{i k:Nat}(hi:HS[i]? = some (aP k bs))(hk:HS[k]? = some (au bs))(hd:i≠k){N:Nat}(hN:HS.length=N){HS':ah}(hh:bD HS [i,k] [aP N (bs++bd n size),.dead,au (bs++bd n size)]=HS')(hbd:Nat.blt HS'.length Mem.bound=true) :
 aA.Sound prog ⟨46,[.one (.ptr i 0),.one (.int .u64 n),.one (.int .i64 z)],HS,.tup [],HS',[i,k]⟩:=by
 subst hz;exact NH (fun τ => .flat (.flat .nil)) (.flat (.flat .nil)) (Lh bs n size hn hs hb) hi hk hd hN hh hbd
theorem Hv(bs:List Bool)(b:Bool)(hb:bs.length<=1000000) :
 bm prog 47 [.one (.ptr 0 0),.one (.bool b)] (WH bs) (.tup []) (LR (bs++[b])):=by
 refine cO Tryz.func47 ?_
 cases b with
 | true=>
   have e:bs++bd 1 1=bs++[true]:=rfl
   repeat' (first
    |(refine qz ?_;first
     |refine cl ?_ (hi:=by exact fu (size:=1) rfl (bs:=bs) (by decide) (by decide) hb rfl rfl (by decide) nL nA rfl))
    |refine zz ?_|refine zx (fun _=>?_) (fun _=>?_)|fail)
   show aE _ _ _ _ _ _ _ _;refine kV [0,1,2] ?_;rfl
 | false=>
   have e:bs++bd 0 1=bs++[false]:=rfl
   repeat' (first
    |(refine qz ?_;first
     |refine cl ?_ (hi:=by exact fu (size:=1) rfl (bs:=bs) (by decide) (by decide) hb rfl rfl (by decide) nL nA rfl))
    |refine zz ?_|refine zx (fun _=>?_) (fun _=>?_)|fail)
   show aE _ _ _ _ _ _ _ _;refine kV [0,1,2] ?_;rfl
theorem jv{b:Bool}{bs:List Bool}(hb:bs.length<=1000000){HS:ah}{i k:Nat}(hi:HS[i]? = some (aP k bs))(hk:HS[k]? = some (au bs))(hd:i≠k){N:Nat}(hN:HS.length=N){HS':ah}(hh:bD HS [i,k] [aP N (bs++[b]),.dead,au (bs++[b])]=HS')(hbd:Nat.blt HS'.length Mem.bound=true) :
 aA.Sound prog ⟨47,[.one (.ptr i 0),.one (.bool b)],HS,.tup [],HS',[i,k]⟩:=
 NH (fun τ => .flat .nil) (.flat .nil) (Hv bs b hb) hi hk hd hN hh hbd
def bitLen(n:Nat):Nat:=if n=0 then 0 else Nat.log2 n+1
def qQ(n:Nat):Int:=(bitLen n:Nat)
theorem AB:∀i:Fin 256,0<=qQ i.val/\qQ i.val<=8:=by decide +kernel
theorem Cg{n k:Nat}(h:2^k<=n):bitLen n=bitLen (n/2^k)+k:=by
 have hp:0<2^k:=Nat.two_pow_pos k;have h0:0<n/2^k:=Nat.div_pos h hp;unfold bitLen
 have e:Nat.log2 n=Nat.log2 (n/2^k)+k:=by
  rw[Nat.log2_eq_iff (by omega)];have h1:=Nat.log2_self_le (n:=n/2^k) (by omega);have h2:=Nat.lt_log2_self (n:=n/2^k);constructor
  ·rw[Nat.pow_add];exact(Nat.le_div_iff_mul_le hp).1 h1
  ·rw[show Nat.log2 (n/2^k)+k+1=Nat.log2 (n/2^k)+1+k by omega,Nat.pow_add];exact(Nat.div_lt_iff_lt_mul hp).1 h2
 rw[if_neg (by omega),if_neg (by omega),e];omega
theorem Gg(n:Int)(hn:0<=n/\n<65536) :
 bm prog 156 [.one (.int .u64 n)] [] (.one (.int .i64 (qQ n.toNat))) []:=by
 refine cO Tryz.func156 ?_
 by_cases h:n<256
 ·have hr:=AB ⟨n.toNat,by omega⟩;simp only[]at hr
  repeat' (first
   |(refine qz ?_;first
    |refine TN qQ ?_)
   |refine zz ?_|refine zx (fun _=>?_) (fun _=>?_)|fail)
  show aE _ _ _ _ _ _ _ _;refine kV [] ?_;rw[Int.zero_add];rfl
 ·have hq:0<=n/2^(8:Int).toNat/\n/2^(8:Int).toNat<256/\(n/2^(8:Int).toNat).toNat=n.toNat/2^8:=by
   show 0<=n/2^8/\n/2^8<256/\(n/2^8).toNat=n.toNat/2^8;omega
  have hr:=AB ⟨(n/2^(8:Int).toNat).toNat,by omega⟩;simp only[]at hr
  have hl:qQ n.toNat=0+8+qQ (n/2^(8:Int).toNat).toNat:=by
   unfold qQ;rw[Cg (n:=n.toNat) (k:=8) (by omega),hq.2.2];omega
  rw[hl]
  repeat' (first
   |(refine qz ?_;first
    |refine TN qQ ?_)
   |refine zz ?_|refine zx (fun _=>?_) (fun _=>?_)|fail)
  show aE _ _ _ _ _ _ _ _;refine kV [] ?_;rfl
theorem Jt{HS:ah}{n:Int}(hn:0<=n/\n<65536)(hb:Nat.blt HS.length Mem.bound=true):aA.Sound prog ⟨156,[.one (.int .u64 n)],HS,.one (.int .i64 (qQ n.toNat)),HS,[]⟩:=
 ay (Gg n hn) rfl rfl hb
theorem MD(n:Int)(hn:0<=n/\n<65536) :
 bm prog 135 [.one (.int .u64 n)] [] (.one (.int .i64 (qQ n.toNat))) []:=by
 refine cO Tryz.func135 ?_
 repeat' (first
  |(refine qz ?_;first
   |refine cl ?_ (hi:=by exact Jt (by omega) rfl))
  |refine zz ?_|refine zx (fun _=>?_) (fun _=>?_)|fail)
 show aE _ _ _ _ _ _ _ _;refine kV [] ?_;rfl
theorem CD{HS:ah}{n:Int}(hn:0<=n/\n<65536)(hb:Nat.blt HS.length Mem.bound=true):aA.Sound prog ⟨135,[.one (.int .u64 n)],HS,.one (.int .i64 (qQ n.toNat)),HS,[]⟩:=
 ay (MD n hn) rfl rfl hb
def sY(n:Int):Nat->List Bool
 | 0=>[]
 | k+1=>decide (n/2^k%2=1)::decide (0<k)::sY n k
def eS(v:Int):List Bool:=if v=0 then [true]else false::sY (v+1) (bitLen (v+1).toNat-1)
theorem xU(n:Int):∀k,(sY n k).length=2*k
 | 0=>rfl
 | k+1=>by simp[sY,xU n k];omega
theorem rW{n k:Nat}(h:n<2^k):bitLen n<=k:=by
 unfold bitLen;split
 ·omega
 ·have:=(Nat.log2_lt (by omega)).2 h;omega
theorem Cf{n:Nat}(h:0<n):0<bitLen n:=by
 unfold bitLen;rw[if_neg (by omega)];omega
theorem Bg(bs:List Bool)(v:Int)(hv:0<=v/\v<=8190)(hb:bs.length<=900000) :
 bm prog 113 [.one (.ptr 0 0),.one (.int .i64 v)] (WH bs) (.one (.bool true)) (LR (bs++eS v)):=by
 refine cO Tryz.func113 ?_
 by_cases h0:v=0
 ·subst h0;have e:bs++bd 1 1=bs++eS 0:=rfl
  repeat' (first
   |(refine qz ?_;first
    |refine cl ?_ (hi:=by exact fu (size:=1) rfl (bs:=bs) (by decide) (by decide) (by omega) rfl rfl (by decide) nL nA rfl))
   |refine zz ?_|refine zx (fun _=>?_) (fun _=>?_)|fail)
  show aE _ _ _ _ _ _ _ _;refine kV [0,1,2] ?_;rfl
 ·have hl1:bitLen (v+1).toNat<=13:=rW (by show _<8192;omega);have hl2:=Cf (n:=(v+1).toNat) (by omega);have hl3:qQ (v+1).toNat=(bitLen (v+1).toNat:Nat):=rfl
  repeat' (first
   |(refine qz ?_;first
    |refine cl ?_ (hi:=by exact fu (size:=1) rfl (bs:=bs) (by decide) (by decide) (by omega) rfl rfl (by decide) nL nA rfl)
    |refine cl ?_ (hi:=by exact CD (by omega) rfl))
   |refine zz ?_|refine zx (fun _=>?_) (fun _=>?_)|fail)
  have e5:((bitLen (v+1).toNat-1:Nat):Int)=qQ (v+1).toNat-1:=by omega
  refine WX.bN (σ:=Nat×List Bool) (fun s=>[(6,.one (.int .i64 ((s.1:Int)-1))),(0,.one (.ptr 0 0)),(1,.one (.int .i64 v))]) (fun s=>LR s.2) (fun s=>s.1<=13/\s.2.length+2*s.1<=900100/\s.2++sY (v+1) s.1=bs++eS v) (fun s=>s.1) (bitLen (v+1).toNat-1,bs++bd 0 1) ⟨by show _-1<=_;omega,by simp[bB];omega,by rw[eS,if_neg h0];simp[bd]⟩ (fun s _=>mZ) (bq [0,1,2] (obj:=by(repeat' (first|exact af.nil|refine af.ig rfl rfl rfl rfl ?_|refine oz ?_));first|done|fail) (reg:=by(repeat' (first|exact ae.nil|refine ae.flat (by rw[e5];rfl) ?_|refine rz ?_|refine ae.sl rfl (by assumption) rfl ?_));first|done|fail)) ?_;intro s ⟨h1,h2,h3⟩ ih
  by_cases hk:s.1=0
  ·have e:bs++eS v=s.2:=by rw[<-h3,hk];simp[sY]
   rw[e]
   repeat' (first|refine zz ?_|refine zx (fun _=>?_) (fun _=>?_)|fail)
   show aE _ _ _ _ _ _ _ _;refine kV [0,1,2] ?_;rfl
  ·have hsh:0<=(v+1)/2^(((s.1:Int)-1).toNat)/\(v+1)/2^(((s.1:Int)-1).toNat)<=v+1:=⟨Int.ediv_nonneg (by omega) (Int.le_of_lt (Int.pow_pos (by decide))),Int.ediv_le_self _ (by omega)⟩
   have e3:((s.1-1:Nat):Int)=(s.1:Int)-1:=by omega
   have e4:((s.1:Int)-1).toNat=s.1-1:=by omega
   have hpl:∀x:Int,(s.2++bd x 1).length<=1000000:=fun x=>by simp[bB];omega
   have hin:∀b:Bool,b=decide (0<s.1-1)->(s.2++bd ((v+1)/2^(((s.1:Int)-1).toNat)%2^1) 1++[b])++sY (v+1) (s.1-1)=bs++eS v:=by
    intro b hb';rw[<-h3]
    obtain⟨k,hk'⟩:∃k,s.1=k+1:=⟨s.1-1,by omega⟩
    rw[hb',e4,hk'];simp only[bd,sY,Nat.add_sub_cancel,Nat.pow_zero,Int.pow_zero,Int.ediv_one,show(2:Int)^1=2 from rfl,List.append_assoc,List.cons_append,List.nil_append];rw[Int.emod_emod_of_dvd _ (by decide)]
   repeat' (first
    |(refine qz ?_;first
     |refine cl ?_ (hi:=by exact fu (size:=1) rfl (bs:=s.2) (by omega) (by decide) (by omega) rfl rfl (by decide) nL nA rfl)
     |refine cl ?_ (hi:=by exact jv (bs:=s.2++bd _ 1) (hpl _) rfl rfl (by decide) nL nA rfl))
    |refine zz ?_|refine zx (fun _=>?_) (fun _=>?_)|fail)
   ·rename_i g;refine ih (s.1-1,s.2++bd _ 1++[true]) _ _ _ (bq [0,1,4] (obj:=by(repeat' (first|exact af.nil|refine af.ig rfl rfl rfl rfl ?_|refine oz ?_));first|done|fail) (reg:=by(repeat' (first|exact ae.nil|refine ae.flat (by rw[e3];rfl) ?_|refine rz ?_|refine ae.sl rfl (by assumption) rfl ?_));first|done|fail)) ⟨by show s.1-1<=_;omega,by simp[bB];omega,hin true (decide_eq_true (by omega)).symm⟩ (by show s.1-1<s.1;omega)
   ·rename_i g;refine ih (s.1-1,s.2++bd _ 1++[false]) _ _ _ (bq [0,1,4] (obj:=by(repeat' (first|exact af.nil|refine af.ig rfl rfl rfl rfl ?_|refine oz ?_));first|done|fail) (reg:=by(repeat' (first|exact ae.nil|refine ae.flat (by rw[e3];rfl) ?_|refine rz ?_|refine ae.sl rfl (by assumption) rfl ?_));first|done|fail)) ⟨by show s.1-1<=_;omega,by simp[bB];omega,hin false (decide_eq_false (by omega)).symm⟩ (by show s.1-1<s.1;omega)
theorem iZ{v:Int}{bs:List Bool}(hv:0<=v/\v<=8190)(hb:bs.length<=900000){HS:ah}{i k:Nat}(hi:HS[i]? = some (aP k bs))(hk:HS[k]? = some (au bs))(hd:i≠k){N:Nat}(hN:HS.length=N){HS':ah}(hh:bD HS [i,k] [aP N (bs++eS v),.dead,au (bs++eS v)]=HS')(hbd:Nat.blt HS'.length Mem.bound=true) :
 aA.Sound prog ⟨113,[.one (.ptr i 0),.one (.int .i64 v)],HS,.one (.bool true),HS',[i,k]⟩:=
 NH (fun τ => .flat .nil) (.flat .nil) (Bg bs v hv hb) hi hk hd hN hh hbd
structure nP(L:List Int)(B:List Bool):Prop where
 le:B.length<=8*L.length
 byte:aR L
 bit:∀j,j<B.length->kZ L j=B.getD j false
 small:L.length<=1000000
def jD(B:List Bool)(r:Nat×Bool):Bool := !r.2&&B.getD r.1 false
def dW(B:List Bool)(r:Nat×Bool):Nat×Bool:=if r.2=true then r else if r.1<B.length then(r.1+1,false)else(r.1,true)
def b2(b:Bool):Int:=if b then 1 else 0
abbrev rf(k:Nat)(L:List Int)(B:List Bool)(p:Nat)(e:Bool):aj := .cells [.slice k 0 L.length (.exact L.length),.int .i64 (p:Nat),.int .i64 (B.length:Nat),.bool e] 190 false false
abbrev lL(L:List Int):aj := .cells (il .u8 L) 5 false false
abbrev RH(L:List Int)(B:List Bool)(p:Nat)(e:Bool):ah:=[rf 1 L B p e,lL L]
theorem Ke{L:List Int}{B:List Bool}(p:Nat) :
 bm prog 72 [.one (.ptr 0 0)] (RH L B p true) (.one (.int .u64 0)) (RH L B p true):=by
 refine cO Tryz.func72 ?_
 repeat' (first|refine zz ?_|refine zx (fun _=>?_) (fun _=>?_)|fail)
 show aE _ _ _ _ _ _ _ _;refine kV [0,1] ?_;rfl
theorem Kf{L:List Int}{B:List Bool}(p:Nat)(hp:¬p<B.length) :
 bm prog 72 [.one (.ptr 0 0)] (RH L B p false) (.one (.int .u64 0)) (RH L B p true):=by
 refine cO Tryz.func72 ?_
 repeat' (first|refine zz ?_|refine zx (fun _=>?_) (fun _=>?_)|fail)
 show aE _ _ _ _ _ _ _ _;refine kV [0,1] ?_;rfl
theorem M7{L:List Int}{B:List Bool}(h:nP L B)(p:Nat)(hp:p<B.length) :
 bm prog 72 [.one (.ptr 0 0)] (RH L B p false) (.one (.int .u64 (b2 (B.getD p false)))) (RH L B (p+1) false):=by
 refine cO Tryz.func72 ?_;have h1:=h.le;have h2:=h.small
 have e2:b2 (B.getD p false)=L.getD ((p:Int)/8).toNat 0/2^(7-(p:Int)%8).toNat%2^1:=by
  have:=h.bit p hp;have hb:=h.byte (p/8);unfold b2;rw[<-this];unfold kZ;rw[show((p:Int)/8).toNat=p/8 by omega,show(7-(p:Int)%8).toNat=7-p%8 by omega];simp only[decide_eq_true_eq];split
  ·rename_i g;rw[show(2:Int)^1=2 from rfl,g]
  ·rename_i g;rw[show(2:Int)^1=2 from rfl];omega
 have hby:=h.byte ((p:Int)/8).toNat
 have hsh:0<=L.getD ((p:Int)/8).toNat 0/2^(7-(p:Int)%8).toNat/\L.getD ((p:Int)/8).toNat 0/2^(7-(p:Int)%8).toNat<256:=⟨Int.ediv_nonneg hby.1 (Int.le_of_lt (Int.pow_pos (by decide))),Int.lt_of_le_of_lt (Int.ediv_le_self _ hby.1) hby.2⟩
 have e3:((p+1:Nat):Int)=(p:Int)+1:=by omega
 rw[e2]
 repeat' (first|refine zz ?_|refine zx (fun _=>?_) (fun _=>?_)|fail)
 show aE _ _ _ _ _ _ _ _;refine kV [0,1] ?_;rfl
theorem Kd{L:List Int}{B:List Bool}(h:nP L B)(r:Nat×Bool) :
 bm prog 72 [.one (.ptr 0 0)] (RH L B r.1 r.2) (.one (.int .u64 (b2 (jD B r)))) (RH L B (dW B r).1 (dW B r).2):=by
 obtain⟨p,e⟩:=r
 cases e with
 | true=>exact Ke p
 | false=>
   by_cases hp:p<B.length
   ·have e1:dW B (p,false)=(p+1,false):=by simp[dW,hp]
    rw[e1];exact M7 h p hp
   ·have e1:dW B (p,false)=(p,true):=by simp[dW,hp]
    have e2:b2 (jD B (p,false))=0:=by
     unfold b2 jD;rw[List.getD_eq_getElem?_getD,List.getElem?_eq_none (by simp only[];omega)];rfl
    rw[e1,e2];exact Kf p hp
theorem aB{α : Type}{l:List α}{i:Nat}{a : α}(h:l[i]? = some a):l.set i a=l:=by
 apply List.ext_getElem?;intro j;rw[List.getElem?_set];split
 ·rename_i e;subst e;rw[h];simp[(List.getElem?_eq_some_iff.1 h).1]
 ·rfl
theorem PK{f:FuncId}{more:List XV}(hm:∀τ,e9 τ more more)(hmo:gQ 2 more){v:XV}[b_ v]{L:List Int}{B:List Bool}{p p':Nat}{e e':Bool}(hc:bm prog f (.one (.ptr 0 0)::more) (RH L B p e) v (RH L B p' e')){HS:ah}{i k:Nat}(hi:HS[i]? = some (rf k L B p e))(hk:HS[k]? = some (lL L))(hd:i≠k){HS':ah}(hh:HS.set i (rf k L B p' e')=HS')(hbd:Nat.blt HS'.length Mem.bound=true) :
 aA.Sound prog ⟨f,.one (.ptr i 0)::more,HS,v,HS',[i]⟩:=by
 have hh':bD HS [i,k] [rf k L B p' e',lL L]=HS':=by
  subst hh;simp only[bD,List.append_nil];apply List.ext_getElem?;intro j;rw[List.getElem?_set];split
  ·rename_i h;subst h;rw[List.getElem?_set,if_neg hd,hk];simp[(List.getElem?_eq_some_iff.1 hk).1]
  ·rfl
 refine bh [i,k] [i] 0 hc (by simp[hd]) ?_ ?_ ?_ rfl (.cons (by simp[XV.bt,XC.ok]) hmo) (.cons rfl (hm _)) (b_.ok _) (b_.aC _) ?_ rfl rfl hh' hbd (.inr fun j _ hj=>?_)
 ·exact .cons hi (.flat hk .nil)
 ·exact .cons (by simp[aj.bt,XC.ok]) (.flat .nil)
 ·exact .cons (by simp[aj.bt,XC.ok]) (.flat .nil)
 ·exact .cons rfl (.flat .nil)
 ·subst hh;rw[List.getElem?_set,if_neg (fun h=>hj (by rw[h];exact List.mem_singleton.2 rfl))]
theorem M6{L:List Int}{B:List Bool}(h:nP L B)(r:Nat×Bool){z:Int}(hz:b2 (jD B r)=z){HS:ah}{i k:Nat}(hi:HS[i]? = some (rf k L B r.1 r.2))(hk:HS[k]? = some (lL L))(hd:i≠k){HS':ah}(hh:HS.set i (rf k L B (dW B r).1 (dW B r).2)=HS')(hbd:Nat.blt HS'.length Mem.bound=true) :
 aA.Sound prog ⟨72,[.one (.ptr i 0)],HS,.one (.int .u64 z),HS',[i]⟩:=by
 subst hz;exact PK (fun _ => .nil) .nil (Kd h r) hi hk hd hh hbd
theorem C4{L:List Int}{B:List Bool}(p:Nat)(e:Bool) :
 bm prog 94 [.one (.ptr 0 0)] (RH L B p e) (.one (.bool e)) (RH L B p e):=by
 refine cO Tryz.func94 ?_
 repeat' (first|refine zz ?_|refine zx (fun _=>?_) (fun _=>?_)|fail)
 show aE _ _ _ _ _ _ _ _;refine kV [0,1] ?_;rfl
theorem GN{L:List Int}{B:List Bool}{p:Nat}{e:Bool}{HS:ah}{i k:Nat}(hi:HS[i]? = some (rf k L B p e))(hk:HS[k]? = some (lL L))(hd:i≠k)(hbd:Nat.blt HS.length Mem.bound=true) :
 aA.Sound prog ⟨94,[.one (.ptr i 0)],HS,.one (.bool e),HS,[i]⟩:=
 PK (fun _ => .nil) .nil (C4 p e) hi hk hd (aB hi) hbd
theorem Ja(k:IntKind)(h:k.bits=64){x b:Int}(hx:0<=x)(hx2:x<2^62)(hb:b=0\/b=1)(hw:∀y:Int,0<=y->y<2^63->k.wrap y=y):CB k (x*2^1) b=2*x+b:=by
 unfold CB;rw[BitVec.toNat_or,BitVec.toNat_ofInt,BitVec.toNat_ofInt,h];obtain⟨n,rfl⟩:=Int.eq_ofNat_of_zero_le hx;have e1:(((n:Int)*2^1)%((2^64:Nat):Int)).toNat=2^1*n:=by omega
 have e2:(b%((2^64:Nat):Int)).toNat=b.toNat:=by rcases hb with rfl|rfl<;>rfl
 rw[e1,e2,<-Nat.two_pow_add_eq_or_of_lt (by rcases hb with rfl|rfl<;>decide),hw _ (by omega) (by omega)];omega
theorem Rm(b:Bool):b2 b=0\/b2 b=1:=by cases b<;>simp[b2]
def Ov(B:List Bool):Nat->Int->Nat×Bool->Int×(Nat×Bool)
 | 0,_,r=>(0,(r.1,true))
 | k+1,x,r=>
   if(dW B (dW B r)).2=true\/8190<2*x+b2 (jD B r)-1 then(0,((dW B (dW B r)).1,true))
   else if jD B (dW B r)=true then Ov B k (2*x+b2 (jD B r)) (dW B (dW B r))
   else(2*x+b2 (jD B r)-1,dW B (dW B r))
def vE(B:List Bool)(r:Nat×Bool):Int×(Nat×Bool):=if jD B r=true then(0,dW B r)else Ov B 13 1 (dW B r)
end Go.Proofs.YthdciapjllppjaaGreat
namespace Go.Proofs.YthdciapjllppjaaGreat
open Go.Xm
structure Cd where
 S:List Int
 W:List Int
 T:List Int
def N_(C:Cd):Bool:=decide (C.W.length=C.S.length)&&decide (C.S.length<=64)&&decide (C.T.length=2*(C.T.length/2))&&decide (0<C.T.length/\C.T.length<=1000)&&C.S.all (fun s=>decide (0<=s/\s<=64))&&C.W.all (fun w=>decide (0<=w/\w<18446744073709551616))&&
 (List.range C.T.length).all (fun j=>decide (-1000<=C.T.getD j 0/\(C.T.getD j 0<=0\/((j/2:Nat):Int)<C.T.getD j 0/\2*C.T.getD j 0+1<C.T.length)))
structure B1(C:Cd):Prop where
 lenW:C.W.length=C.S.length
 lenS:C.S.length<=64
 even:C.T.length=2*(C.T.length/2)
 pos:0<C.T.length/\C.T.length<=1000
 sz:∀i,0<=C.S.getD i 0/\C.S.getD i 0<=64
 wd:∀i,0<=C.W.getD i 0/\C.W.getD i 0<18446744073709551616
 tr:∀j,j<C.T.length -> -1000<=C.T.getD j 0/\(C.T.getD j 0<=0\/((j/2:Nat):Int)<C.T.getD j 0/\2*C.T.getD j 0+1<C.T.length)
theorem n7{l:List Int}{p:Int->Prop}(h:∀x∈l,p x)(h0:p 0)(i:Nat):p (l.getD i 0):=by
 rw[List.getD_eq_getElem?_getD]
 cases hi:l[i]? with
 | none=>exact h0
 | some x=>exact h x (List.mem_of_getElem? hi)
theorem yA{C:Cd}(h:N_ C=true):B1 C:=by
 unfold N_ at h;simp only[Bool.and_eq_true,decide_eq_true_eq,List.all_eq_true,List.mem_range]at h;obtain⟨⟨⟨⟨⟨⟨h1,h2⟩,h3⟩,h4⟩,h5⟩,h6⟩,h7⟩:=h;exact⟨h1,h2,h3,h4,n7 h5 (by decide),n7 h6 (by decide),h7⟩
variable [av]
abbrev aW(a b t:Nat)(C:Cd):aj := .cells [.slice a 0 C.S.length (.toEnd 1),.slice b 0 C.S.length (.exact C.S.length),.slice t 0 (C.T.length/2) (.toEnd 2)] 212 false false
abbrev cV(C:Cd):aj := .cells (il .i64 C.S) 3 true false
abbrev cY(C:Cd):aj := .cells (il .u64 C.W) 95 false false
abbrev cW(C:Cd):aj := .cells (il .i64 C.T) 256 true false
def jf(C:Cd)(n:Nat):List Bool:=bd (C.W.getD n 0) (C.S.getD n 0).toNat
theorem IB{C:Cd}(hC:B1 C)(bs:List Bool)(n:Nat)(hn:n<C.S.length)(hb:bs.length<=1000000) :
 bm prog 112 [.one (.ptr 2 0),.one (.ptr 0 0),.one (.int .i64 (n:Nat))] [aP 1 bs,au bs,aW 3 4 5 C,cV C,cY C,cW C] (.one (.int .i64 0)) [aP 6 (bs++jf C n),.dead,aW 3 4 5 C,cV C,cY C,cW C,au (bs++jf C n)]:=by
 have h1:=hC.lenW;have h2:=hC.lenS;have h3:=hC.sz n;have h4:=hC.wd n;have e3:(C.S.getD ((n:Int)).toNat 0)=C.S.getD n 0:=rfl;have e5:((C.S.getD n 0).toNat:Int)=C.S.getD n 0:=by omega
 refine cO Tryz.func112 ?_
 repeat' (first
  |(refine qz ?_;first
   |refine cl ?_ (hi:=by exact fu (n:=C.W.getD n 0) (z:=C.S.getD n 0) (size:=(C.S.getD n 0).toNat) (by omega) (bs:=bs) h4 (by omega) hb rfl rfl (by decide) nL nA rfl))
  |refine zz ?_|refine zx (fun _=>?_) (fun _=>?_)|fail)
 show aE _ _ _ _ _ _ _ _;refine kV [0,1,2,3,4,5,6] ?_;rfl
def Rr(C:Cd)(B:List Bool):Nat->Int->Nat×Bool->Int×(Nat×Bool)
 | 0,_,r=>(0,(r.1,true))
 | k+1,x,r=>
   if(dW B r).2=true\/C.T.getD (x.toNat*2+(b2 (jD B r)%2^1).toNat) 0=0 then(0,((dW B r).1,true))
   else if C.T.getD (x.toNat*2+(b2 (jD B r)%2^1).toNat) 0<0 then(-1-C.T.getD (x.toNat*2+(b2 (jD B r)%2^1).toNat) 0,dW B r)
   else Rr C B k (C.T.getD (x.toNat*2+(b2 (jD B r)%2^1).toNat) 0) (dW B r)
def QY(C:Cd)(B:List Bool)(r:Nat×Bool):Int×(Nat×Bool):=Rr C B (C.T.length/2) 0 r
theorem PQ(a b:List XC)(e e' e2:TypeId)(cs ds c1 c2 c3 c4:List XC)(e4 e5 e6 e7:TypeId):fX [.cells a e false false,bu e' cs,.cells c1 e4 false false,.cells c2 e5 true false,.cells c3 e6 false false,.cells c4 e7 true false] [.cells b e false false,.dead,.cells c1 e4 false false,.cells c2 e5 true false,.cells c3 e6 false false,.cells c4 e7 true false,bu e2 ds]=true:=by
 cases cs<;>cases ds<;>simp[fX,aj.live,aj.own,bu]
theorem qA{C:Cd}(hC:B1 C){bs:List Bool}{n:Nat}{z:Int}(hz:z=(n:Nat))(hn:n<C.S.length)(hbl:bs.length<=1000000){HS:ah}{i k c a b t:Nat}(hi:HS[i]? = some (aP k bs))(hk:HS[k]? = some (au bs))(hc:HS[c]? = some (aW a b t C))(ha:HS[a]? = some (cV C))(hb:HS[b]? = some (cY C))(ht:HS[t]? = some (cW C))(hd : [i,k,c,a,b,t].Nodup){N:Nat}(hN:HS.length=N){HS':ah}(hh:bD HS [i,k] [aP N (bs++jf C n),.dead,au (bs++jf C n)]=HS')(hbd:Nat.blt HS'.length Mem.bound=true) :
 aA.Sound prog ⟨112,[.one (.ptr c 0),.one (.ptr i 0),.one (.int .i64 z)],HS,.one (.int .i64 0),HS',[i,k]⟩:=by
 subst hN;subst hz
 have hh':bD HS [i,k,c,a,b,t] [aP HS.length (bs++jf C n),.dead,aW a b t C,cV C,cY C,cW C,au (bs++jf C n)]=HS':=by
  subst hh;simp only[List.nodup_cons,List.mem_cons,List.not_mem_nil,or_false,not_or]at hd;simp only[bD];rw[aB (i:=c) (by rw[List.getElem?_set_ne hd.2.1.1,List.getElem?_set_ne hd.1.2.1];exact hc),aB (i:=a) (by rw[List.getElem?_set_ne hd.2.1.2.1,List.getElem?_set_ne hd.1.2.2.1];exact ha),aB (i:=b) (by rw[List.getElem?_set_ne hd.2.1.2.2.1,List.getElem?_set_ne hd.1.2.2.2.1];exact hb),aB (i:=t) (by rw[List.getElem?_set_ne hd.2.1.2.2.2,List.getElem?_set_ne hd.1.2.2.2.2];exact ht)]
 refine bh [i,k,c,a,b,t] [i,k] 1 (IB hC bs n hn hbl) hd ?_ ?_ ?_ rfl (.cons (by simp[XV.bt,XC.ok]) (.cons (by simp[XV.bt,XC.ok]) (.flat .nil))) (.cons rfl (.cons rfl (.flat .nil))) (b_.ok _) (b_.aC _) ?_ (PQ ..) rfl hh' hbd (.inr fun j hjl hj=>?_)
 ·exact af.ig hi rfl rfl rfl (.flat hk (.cons hc (.flat ha (.flat hb (.flat ht .nil)))))
 ·exact .cons (by simp[aj.bt,XC.ok,aJ]) (.flat (.cons (by simp[aj.bt,XC.ok]) (.flat (.flat (.flat .nil)))))
 ·exact .cons (by simp[aj.bt,XC.ok,aJ]) (.flat (.cons (by simp[aj.bt,XC.ok]) (.flat (.flat (.flat (.flat .nil))))))
 ·exact .cons (by simp only[aj.aC,List.map_cons,List.map_nil,XC.aC,aX];rfl) (.flat (.cons rfl (.flat (.flat (.flat (.flat .nil))))))
 ·subst hh;exact l9 _ _ _ _ hjl (by simpa using hj)
end Go.Proofs.YthdciapjllppjaaGreat
namespace Go.Xm
variable [av]
theorem Cn{P:Program}{f:FuncId}{args:List XV}{v1 v:XV}{hs1 hs2:ah}(hc:bm P f args [] v1 hs1)(τl:List Nat)(hv:v1=v.aC (nth τl))(hok:v.bt hs2.length)(nd:Nd τl hs2)(ho:af (nth τl) hs1 τl hs2)(hk:ak hs2.length hs2)(hb:Nat.blt hs2.length Mem.bound=true):bm P f args [] v hs2:=by
 intro m hm β w vs hall hw;refine(hc m hm β w vs hall hw).mono fun e w' ⟨u,β',m1,he,hm1,hu,hst⟩=>?_
 have hbd:hs2.length<Mem.bound:=by simpa [Nat.blt_eq]using hb
 have hm2:=eZ hs2 hbd;have nm:=hm.n;have n2:=hm2.n;simp only[List.length_nil]at nm
 let β2:Env:=⟨fun i => β'.bp (nth τl i),fun i => β'.base (nth τl i),fun i => β'.size (nth τl i)⟩
 have hvia:BY β2 β' (nth τl) hs2.length:=fun i _=>⟨rfl,rfl,rfl⟩
 have hview:=ho.view nd hk;subst hv;refine⟨u,β2,iR hs2,he,hm2,by rw[n2];exact hu.x6 hvia hok,⟨by omega,fun i hi=>by omega,hst.rel.view hm1 hm2 hview hvia,hst.os,hst.tape,hst.output,hst.size,hst.frame,fun k hk hi=>hst.qe k hk (Rel.tZ hm1 hm2 hview hvia hi),fun k hk hl=>hst.wL k hk (Rel.t5 hm1 hm2 hview hvia hl)⟩⟩
end Go.Xm
namespace Go.Proofs.YthdciapjllppjaaGreat
open Go.Xm
def cM:Cd:=⟨[2,1,3,4,4],[2,0,6,14,15],[-2,1,-1,2,-3,3,-4,-5]⟩
def cZ:Cd:=⟨[3,2,2,3,3,4,5,6,7,8,9,10,10],[4,0,1,5,6,14,30,62,126,254,510,1022,1023],[1,2,-2,-3,3,4,-1,-4,-5,5,-6,6,-7,7,-8,8,-9,9,-10,10,-11,11,-12,-13]⟩
def cP:Cd:=⟨[3,4,4,4,4,4,5,4,4,5,4,4,4,5,5,3],[0,4,5,6,7,8,28,9,10,29,11,12,13,30,31,1],[1,6,2,3,-1,-16,4,5,-2,-3,-4,-5,7,10,8,9,-6,-8,-9,-11,11,12,-12,-13,13,14,-7,-10,-14,-15]⟩
theorem D9:B1 cM:=yA (by decide)
theorem D_:B1 cZ:=yA (by decide)
theorem It:B1 cP:=yA (by decide)
abbrev fc(a b c:Nat):aj := .cells [.ptr a 0,.ptr b 0,.ptr c 0] 150 false false
abbrev Ix:ah:=[fc 1 5 9,aW 2 3 4 cM,cV cM,cY cM,cW cM,aW 6 7 8 cZ,cV cZ,cY cZ,cW cZ,aW 10 11 12 cP,cV cP,cY cP,cW cP]
noncomputable def JM:Option (XV×Mem):=(pL xH prog 100000 60).call 31 [] Mem.empty
abbrev yD:List Nat:=[74,5,2,3,11,17,14,15,39,45,42,43,73]
theorem Gm:JM.map (fun p=>(p.1,p.2.n,yD.map p.2.get))=some (.one (.ptr 74 0),75,Ix.map (·.aC (nth yD))):=by kernel_rfl
variable [av]
theorem MQ:bm prog 31 [] [] (.one (.ptr 0 0)) Ix:=by
 obtain⟨⟨v,m⟩,h1,h2⟩:=Option.map_eq_some_iff.1 Gm;simp only[Prod.mk.injEq]at h2;obtain⟨rfl,h3,h4⟩:=h2
 have hc:=Cm (jn prog) mixed (v := .one (.ptr 74 0)) (hs':=pW m) (f:=31) (args:=[]) (F:=100000) (k:=60) (by
  show JM.map _=_
  rw[h1];rfl)
 have hg:∀i,i<75->(pW m)[i]? = some (m.get i):=fun i hi=>by
  unfold pW;rw[h3];simp[hi]
 simp only[List.map_cons,List.map_nil,List.cons.injEq]at h4;obtain⟨g0,g1,g2,g3,g4,g5,g6,g7,g8,g9,g10,g11,g12,_⟩:=h4;refine Cn hc yD rfl (by simp[XV.bt,XC.ok]) (Or.inl (by decide)) ?_ ?_ rfl
 ·refine .cons (by rw[hg _ (by decide),g0]) (.cons (by rw[hg _ (by decide),g1]) (.cons (by rw[hg _ (by decide),g2]) (.cons (by rw[hg _ (by decide),g3]) (.cons (by rw[hg _ (by decide),g4]) (.cons (by rw[hg _ (by decide),g5]) (.cons (by rw[hg _ (by decide),g6]) (.cons (by rw[hg _ (by decide),g7]) (.cons (by rw[hg _ (by decide),g8]) (.cons (by rw[hg _ (by decide),g9]) (.cons (by rw[hg _ (by decide),g10]) (.cons (by rw[hg _ (by decide),g11]) (.cons (by rw[hg _ (by decide),g12]) .nil))))))))))))
 ·refine .cons (by simp[aj.bt,XC.ok]) (.cons (by simp[aj.bt,XC.ok]) (.flat (.flat (.flat (.cons (by simp[aj.bt,XC.ok]) (.flat (.flat (.flat (.cons (by simp[aj.bt,XC.ok]) (.flat (.flat (.flat .nil))))))))))))
end Go.Proofs.YthdciapjllppjaaGreat
namespace Go.Proofs.YthdciapjllppjaaGreat
open Go.Xm
variable [av]
def stepOf(q:Int):Int:=64*max 2 (min (max q 1) 31/2)
theorem m8(q:Int):128<=stepOf q/\stepOf q<=960:=by unfold stepOf;omega
theorem vz(q:Int):bm prog 158 [.one (.int .i64 q)] [] (.one (.int .i64 (stepOf q))) []:=by
 refine cO Tryz.func158 ?_
 repeat' (first|refine zz ?_|refine zx (fun _=>?_) (fun _=>?_)|fail)
 refine lX (.inr rfl) (fun m hm=>rfl) ?_ rfl;rfl
def dc(n q:Int):Int:=min ((max n 0+stepOf q/2)/stepOf q) 127
theorem dq(n q:Int)(hn : -100000000<=n/\n<=100000000):bm prog 139 [.one (.int .i64 n),.one (.int .i64 q)] [] (.one (.int .i64 (dc n q))) []:=by
 have hs:=m8 q;refine cO Tryz.func139 ?_
 repeat' (first
  |(refine qz ?_;first
   |refine ax (ay (vz _) rfl rfl rfl) rfl rfl rfl rfl rfl rfl (by kernel_rfl) rfl ?_)
  |refine zz ?_|refine zx (fun _=>?_) (fun _=>?_)|fail)
 refine lX (.inr rfl) (fun m hm=>rfl) ?_ rfl;rfl
def f9(n q:Int):Int:=min (max n 0) 127*stepOf q
theorem pv(n q:Int):0<=f9 n q/\f9 n q<=121920:=by
 have h1:=m8 q;have h2:0<=min (max n 0) 127/\min (max n 0) 127<=127:=by omega
 unfold f9
 exact⟨Int.mul_nonneg h2.1 (by omega),by
  have:=Int.mul_le_mul h2.2 h1.2 (by omega) (by omega:(0:Int)<=127)
  omega⟩
theorem wV(n q:Int):bm prog 159 [.one (.int .i64 n),.one (.int .i64 q)] [] (.one (.int .i64 (f9 n q))) []:=by
 have hs:=m8 q;have hb:=pv n q;unfold f9 at hb;refine cO Tryz.func159 ?_
 repeat' (first
  |(refine qz ?_;first
   |refine ax (ay (vz _) rfl rfl rfl) rfl rfl rfl rfl rfl rfl (by kernel_rfl) rfl ?_)
  |refine zz ?_|refine zx (fun _=>?_) (fun _=>?_)|fail)
 refine lX (.inr rfl) (fun m hm=>rfl) ?_ rfl;rfl
theorem jd(a b:Int)(ha : -1000000<=a/\a<=1000000)(hb : -1000000<=b/\b<=1000000):bm prog 143 [.one (.int .i64 a),.one (.int .i64 b)] [] (.one (.int .i64 (max (a-b) (b-a)))) []:=by
 refine cO Tryz.func143 ?_
 repeat' (first|refine zz ?_|refine zx (fun _=>?_) (fun _=>?_)|fail)
 refine lX (.inr rfl) (fun m hm=>rfl) ?_ rfl;rfl
structure Kn where
 lv:Nat->Int
 qp:Int
def dt(b:Kn):List XC:=ti .i64 64 b.lv++[.int .i64 b.qp]
theorem uI(b:Kn):(dt b)[64]? = some (.int .i64 b.qp):=by
 unfold dt;rw[List.getElem?_append_right (by rw[aU];omega),aU];rfl
theorem Aw(b:Kn)(j:Nat)(h:j<64):(dt b)[j]? = some (.int .i64 (b.lv j)):=by
 unfold dt;rw[List.getElem?_append_left (by rw[aU];exact h),lO h]
theorem a_(b:Kn):(dt b).all XC.shut=true:=by
 simp[dt,ti,XC.shut]
theorem fW(b:Kn):bm prog 142 [.agg (dt b)] [] (.one (.int .i64 (f9 (b.lv 0) b.qp))) []:=by
 refine cO Tryz.func142 ?_
 repeat' (first
  |(refine qz ?_;first
   |refine ax (ay (wV _ _) rfl rfl rfl) rfl rfl rfl rfl rfl rfl (by kernel_rfl) rfl ?_
   |refine fJ rfl rfl rfl rfl rfl rfl (uI _) ?_
   |refine fJ rfl rfl rfl rfl rfl rfl (Aw _ _ (by omega)) ?_)
  |refine zz ?_|refine zx (fun _=>?_) (fun _=>?_)|fail)
 refine lX (.inr rfl) (fun m hm=>rfl) ?_ rfl;rfl
def placeOf(cols mb k:Int):Int×Int×Int:=if k<4 then(0,2*(mb%cols)+k%2,2*(mb/cols)+k/2)else(k-3,mb%cols,mb/cols)
theorem A7{cols rows mb k:Int}(hc:1<=cols/\cols<=8)(hm:0<=mb/\mb<1000000)(hk:0<=k/\k<1000):0<=mb/cols/\mb/cols<=mb/\0<=mb%cols/\mb%cols<cols:=
 ⟨Int.ediv_nonneg hm.1 (by omega),Int.ediv_le_self _ hm.1,Int.emod_nonneg _ (by omega),Int.emod_lt_of_pos _ (by omega)⟩
end Go.Proofs.YthdciapjllppjaaGreat
