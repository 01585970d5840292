/-
  A part of the proof: BitsW, BitsX, BitsR, RvlcR, Codes, XvOpen, PartNew, PrSmall.
-/
import Derived.Test.YtagpkhindehcbaaGreatKdE
import Derived.Test.YtagpkhindehcbaaGreatKdF
import Derived.Below
import Derived.ChangeOld
import Derived.ChangeSame
import Derived.Deep.Fields
import Derived.Deep.Slices
import Derived.OpenShut
import Derived.ProofKit
import Derived.ShutString
import Derived.WalkKit
set_option maxRecDepth 10000
set_option maxHeartbeats 8000000
set_option linter.unusedVariables false
set_option linter.unusedSectionVars false
set_option linter.unusedSimpArgs false
namespace Go.Proofs.YtagpkhindehcbaaGreat
open Go.Xm
def kQ (l:List Int) (i:Nat):Bool:=decide (l.getD (i/8) 0/2^(7-i%8)%2=1)
abbrev dZ (l:List Int):Prop:=∀ p,0≤l.getD p 0∧l.getD p 0<256
section
variable [az]
def ju (L:List Int) (many:Nat) (b:Bool):List Int:=
 if b then(if many%8=0 then L++[0]else L).set (many/8) (CM .u8 ((if many%8=0 then L++[0]else L).getD (many/8) 0) (128/2^(many%8)))else(if many%8=0 then L++[0]else L)
def Pb (st:List Int × Nat) (b:Bool):List Int × Nat:=(ju st.1 st.2 b,st.2+1)
def wr (bs:List Bool):List Int:=(bs.foldl Pb ([],0)).1
theorem Du:∀(bs:List Bool) (st:List Int × Nat),(bs.foldl Pb st).2=st.2+bs.length
 | [],st=>rfl
 | b::bs,st=>by
   simp only [List.foldl_cons,Du bs,Pb,List.length_cons];omega
theorem uI (bs:List Bool) (b:Bool):wr (bs++[b])=ju (wr bs) bs.length b:=by
 unfold wr
 rw [List.foldl_append]
 have:=Du bs ([],0)
 simp only [List.foldl_cons,List.foldl_nil,Pb,this,Nat.zero_add]
theorem HK (L:List Int) (many:Nat) (b:Bool):(ju L many b).length=L.length+(if many%8=0 then 1 else 0):=by
 unfold ju
 split <;> split <;> simp
theorem rJ {p:List Bool→Prop}(h0:p []) (h1:∀ bs b,p bs→p (bs++[b])) (bs:List Bool):p bs:=by
 have:∀ n (bs:List Bool),bs.length=n→p bs:=by
  intro n
  induction n with
  | zero=>intro bs h;rw [List.length_eq_zero_iff.1 h];exact h0
  | succ n ih=>
    intro bs h
    have hne:bs≠[]:=fun e=>by rw [e]at h;simp at h
    rw [←List.dropLast_concat_getLast hne]
    exact h1 _ _ (ih _ (by simp [h]))
 exact this _ bs rfl
theorem eO (bs:List Bool):(wr bs).length=(bs.length+7)/8:=by
 refine rJ (p:=fun bs=>(wr bs).length=(bs.length+7)/8) rfl (fun bs b ih=>?_) bs
 rw [uI,HK,ih,List.length_append,List.length_cons,List.length_nil]
 split <;> omega
theorem MR:∀(x:Fin 256) (k j:Fin 8),decide (CM .u8 (x.val:Int) (128/2^k.val)/2^(7-j.val)%2=1)=(decide ((x.val:Int)/2^(7-j.val)%2=1) || decide (j=k)):=by
 decide +kernel
theorem MS:∀(x:Fin 256) (k:Fin 8),0≤CM .u8 (x.val:Int) (128/2^k.val)∧CM .u8 (x.val:Int) (128/2^k.val)<256:=by
 decide +kernel
theorem yN {L:List Int}(h:dZ L):dZ (L++[0]):=fun p=>by
 rw [List.getD_eq_getElem?_getD]
 by_cases hp:p<L.length
 · rw [List.getElem?_append_left hp,←List.getD_eq_getElem?_getD];exact h p
 · rw [List.getElem?_append_right (by omega)]
   cases hq:p-L.length with
   | zero=>simp
   | succ q=>simp
theorem EC {L:List Int}(h:dZ L) (many:Nat) (b:Bool):dZ (ju L many b):=by
 have h1:dZ (if many%8=0 then L++[0]else L):=by
  split
  · exact yN h
  · exact h
 unfold ju
 generalize (if many%8=0 then L++[0]else L)=L1 at h1 ⊢
 split
 · intro p
   rw [List.getD_eq_getElem?_getD,List.getElem?_set]
   split
   · split
     · have hb:=h1 (many/8)
       obtain⟨x,hx⟩:∃ x:Fin 256,L1.getD (many/8) 0=(x.val:Int):=⟨⟨(L1.getD (many/8) 0).toNat,by omega⟩,by simp only [];omega⟩
       rw [hx]
       exact MS x ⟨many%8,Nat.mod_lt _ (by omega)⟩
     · simp
   · rw [←List.getD_eq_getElem?_getD];exact h1 p
 · exact h1
theorem gF (bs:List Bool):dZ (wr bs):=by
 refine rJ (p:=fun bs=>dZ (wr bs)) (fun p=>by simp [wr]) (fun bs b ih=>?_) bs
 rw [uI]
 exact EC ih _ _
theorem Gd (L:List Int) (j:Nat):kQ (L++[0]) j=kQ L j:=by
 unfold kQ
 have:(L++[0]).getD (j/8) 0=L.getD (j/8) 0:=by
  rw [List.getD_eq_getElem?_getD,List.getD_eq_getElem?_getD]
  by_cases hp:j/8<L.length
  · rw [List.getElem?_append_left hp]
  · rw [List.getElem?_append_right (by omega),List.getElem?_eq_none (l:=L) (by omega)]
    cases j/8-L.length <;> simp
 rw [this]
theorem HJ {L:List Int}(h:dZ L) (many:Nat) (hlen:L.length=(many+7)/8) (b:Bool) (j:Nat):kQ (ju L many b) j=(kQ L j || (b && decide (j=many))):=by
 have h1:dZ (if many%8=0 then L++[0]else L):=by
  split
  · exact yN h
  · exact h
 have h2:∀ j,kQ (if many%8=0 then L++[0]else L) j=kQ L j:=fun j=>by
  split
  · exact Gd L j
  · rfl
 have h3:many/8<(if many%8=0 then L++[0]else L).length:=by
  split
  · simp;omega
  · omega
 unfold ju
 generalize (if many%8=0 then L++[0]else L)=L1 at h1 h2 h3 ⊢
 rw [←h2]
 cases b with
 | false=>simp
 | true=>
   simp only [if_true,Bool.true_and]
   unfold kQ
   rw [List.getD_eq_getElem?_getD,List.getElem?_set]
   by_cases hj:many/8=j/8
   · rw [if_pos hj,if_pos h3,←hj]
     have hb:=h1 (many/8)
     obtain⟨x,hx⟩:∃ x:Fin 256,L1.getD (many/8) 0=(x.val:Int):=⟨⟨(L1.getD (many/8) 0).toNat,by omega⟩,by simp only [];omega⟩
     rw [hx]
     have:=MR x ⟨many%8,Nat.mod_lt _ (by omega)⟩ ⟨j%8,Nat.mod_lt _ (by omega)⟩
     simp only [Fin.mk.injEq]at this
     show decide (CM .u8 (x.val:Int) (128/2^(many%8))/2^(7-j%8)%2=1)=_
     rw [this]
     congr 1
     exact decide_eq_decide.2 (by omega)
   · rw [if_neg hj,←List.getD_eq_getElem?_getD,decide_eq_false (show¬j=many by intro e;rw [e]at hj;exact hj rfl),Bool.or_false]
theorem I7 (bs:List Bool) (j:Nat):kQ (wr bs) j=bs.getD j false:=by
 refine rJ (p:=fun bs=>kQ (wr bs) j=bs.getD j false) (by simp [wr,kQ]) (fun bs b ih=>?_) bs
 rw [uI,HJ (gF bs) _ (eO bs),ih,List.getD_eq_getElem?_getD,List.getD_eq_getElem?_getD]
 by_cases h:j<bs.length
 · rw [List.getElem?_append_left h,decide_eq_false (by omega)];simp
 · rw [List.getElem?_append_right (by omega),List.getElem?_eq_none (l:=bs) (by omega)]
   by_cases h2:j=bs.length
   · subst h2;simp
   · have:j-bs.length≠0:=by omega
     obtain⟨q,hq⟩:∃ q,j-bs.length=q+1:=⟨j-bs.length-1,by omega⟩
     rw [hq,decide_eq_false h2];simp
def ej (n:Int):Nat→List Bool
 | 0=>[]
 | k+1=>decide (n/2^k%2=1)::ej n k
theorem gi (n:Int):∀ k,(ej n k).length=k
 | 0=>rfl
 | k+1=>by simp [ej,gi n k]
end
abbrev WH (bs:List Bool):aj:=[.cells [gQ 1 ((bs.length+7)/8) 1,.int .i64 (bs.length:Nat)] 92 false false,b8 5 (il .u8 (wr bs))]
abbrev LA (bs:List Bool):aj:=[.cells [gQ 2 ((bs.length+7)/8) 1,.int .i64 (bs.length:Nat)] 92 false false,.dead,b8 5 (il .u8 (wr bs))]
variable [az]
theorem ED (n:Int) (bs:List Bool) (k:Nat):bs++ej n (k+1)=(bs++[decide (n/2^k%2=1)])++ej n k:=by
 simp [ej]
theorem Dv {bs:List Bool} {L:List Int}(h:L=if bs.length%8=0 then wr bs++[0]else wr bs):wr (bs++[true])=L.set ((bs.length:Int)/8).toNat (CM .u8 (L.getD ((bs.length:Int)/8).toNat 0) (128/2^((bs.length:Int)%8).toNat)):=by
 rw [uI,ju,if_pos rfl,←h,show((bs.length:Int)/8).toNat=bs.length/8 by omega,show((bs.length:Int)%8).toNat=bs.length%8 by omega]
theorem Af {bs:List Bool} {L:List Int}(h:L=if bs.length%8=0 then wr bs++[0]else wr bs):wr (bs++[false])=L:=by
 rw [uI,ju,if_neg (by decide),←h]
theorem I6 (bs:List Bool) (n:Int) (size:Nat) (hn:0≤n∧n<18446744073709551616) (hs:size≤64) (hb:bs.length≤1000000) :
 bn Tryz.prog 59 [.one (.ptr 0 0),.one (.int .u64 n),.one (.int .i64 (size:Nat))] (WH bs) (.tup []) (LA (bs++ej n size)):=by
 refine cO Tryz.func59 ?_
 repeat' (first|refine zz ?_|refine zx (fun _=>?_) (fun _=>?_)|fail)
 refine WX.cS (σ:=Nat × List Bool) (fun s=>[(6,.one (.int .i64 ((s.1:Int)-1))),(0,.one (.ptr 0 0)),(1,.one (.int .u64 n))]) (fun s=>LA s.2) (fun s=>s.1≤64∧s.2.length+s.1≤1000064∧s.2++ej n s.1=bs++ej n size) (fun s=>s.1) (size,bs) ⟨hs,by simp only [];omega,rfl⟩ (fun s _=>j5) (bh [0,1,1]) ?_
 intro s ⟨h1,h2,h3⟩ ih
 have hwl:=eO s.2
 by_cases hk:s.1=0
 · have e:bs++ej n size=s.2:=by rw [←h3,hk];simp [ej]
   rw [e]
   repeat' (first|refine zz ?_|refine zx (fun _=>?_) (fun _=>?_)|fail)
   show aC _ _ _ _ _ _ _ _;refine kV [0,1,2] ?_
   rfl
 · have hsh:(n/2^(((s.1:Int)-1).toNat)%2=0∨n/2^(((s.1:Int)-1).toNat)%2=1)∧0≤n/2^(((s.1:Int)-1).toNat):=⟨by omega,Int.ediv_nonneg hn.1 (Int.le_of_lt (Int.pow_pos (by decide)))⟩
   have e3:((s.1-1:Nat):Int)=(s.1:Int)-1:=by omega
   have e4:((s.1:Int)-1).toNat=s.1-1:=by omega
   have hput:s.2++ej n s.1=(s.2++[decide (n/2^(s.1-1)%2=1)])++ej n (s.1-1):=by
    rw [←ED,show s.1-1+1=s.1 by omega]
   repeat' (first|refine zz ?_|refine zx (fun _=>?_) (fun _=>?_)|fail)
   · rename_i g1 g2
     have e1:=Dv (bs:=s.2) (L:=wr s.2++[0]) (if_pos (by omega)).symm
     have e2:((s.2++[true]).length:Int)=(s.2.length:Int)+1:=by simp
     rw [decide_eq_true (by rw [←e4];exact g2)]at hput
     refine ih (s.1-1,s.2++[true]) _ _ _ (bh [0,1,4] (obj:=by(repeat' (first|exact ae.nil|refine ae.flat (by rw [e1];rfl) ?_|refine ae.ed (by rw [e2];rfl) rfl (by simp;omega) rfl ?_|refine ae.flat rfl ?_|refine ae.cons rfl ?_|refine ae.dead rfl ?_|refine ae.cons (by simp only [ak.ay,List.map_cons,List.map_nil,XC.ay,aw];exact rfl) ?_));first|done|fail) (reg:=by(repeat' (first|exact af.nil|refine af.flat (by rw [e3];rfl) ?_|refine af.flat rfl ?_|refine af.cons rfl ?_|refine af.sl rfl (by assumption) rfl ?_|refine af.dY rfl rfl (by first|rfl|omega|(simp;done)|(simp;omega)) ?_));first|done|fail)) ⟨by show s.1-1≤_;omega,by simp;omega,by show _++_=_;rw [←hput];exact h3⟩ (by show s.1-1<s.1;omega)
   · rename_i g1 g2
     have e1:=Af (bs:=s.2) (L:=wr s.2++[0]) (if_pos (by omega)).symm
     have e2:((s.2++[false]).length:Int)=(s.2.length:Int)+1:=by simp
     rw [decide_eq_false (by rw [←e4];exact g2)]at hput
     refine ih (s.1-1,s.2++[false]) _ _ _ (bh [0,1,4] (obj:=by(repeat' (first|exact ae.nil|refine ae.flat (by rw [e1];rfl) ?_|refine ae.ed (by rw [e2];rfl) rfl (by simp;omega) rfl ?_|refine ae.flat rfl ?_|refine ae.cons rfl ?_|refine ae.dead rfl ?_|refine ae.cons (by simp only [ak.ay,List.map_cons,List.map_nil,XC.ay,aw];exact rfl) ?_));first|done|fail) (reg:=by(repeat' (first|exact af.nil|refine af.flat (by rw [e3];rfl) ?_|refine af.flat rfl ?_|refine af.cons rfl ?_|refine af.sl rfl (by assumption) rfl ?_|refine af.dY rfl rfl (by first|rfl|omega|(simp;done)|(simp;omega)) ?_));first|done|fail)) ⟨by show s.1-1≤_;omega,by simp;omega,by show _++_=_;rw [←hput];exact h3⟩ (by show s.1-1<s.1;omega)
   · rename_i g1 g2
     have e1:=Dv (bs:=s.2) (L:=wr s.2) (if_neg (by omega)).symm
     have e2:((s.2++[true]).length:Int)=(s.2.length:Int)+1:=by simp
     rw [decide_eq_true (by rw [←e4];exact g2)]at hput
     refine ih (s.1-1,s.2++[true]) _ _ _ (bh [0,1,2] (obj:=by(repeat' (first|exact ae.nil|refine ae.flat (by rw [e1];rfl) ?_|refine ae.ed (by rw [e2];rfl) rfl (by simp;omega) rfl ?_|refine ae.flat rfl ?_|refine ae.cons rfl ?_|refine ae.dead rfl ?_|refine ae.cons (by simp only [ak.ay,List.map_cons,List.map_nil,XC.ay,aw];exact rfl) ?_));first|done|fail) (reg:=by(repeat' (first|exact af.nil|refine af.flat (by rw [e3];rfl) ?_|refine af.flat rfl ?_|refine af.cons rfl ?_|refine af.sl rfl (by assumption) rfl ?_|refine af.dY rfl rfl (by first|rfl|omega|(simp;done)|(simp;omega)) ?_));first|done|fail)) ⟨by show s.1-1≤_;omega,by simp;omega,by show _++_=_;rw [←hput];exact h3⟩ (by show s.1-1<s.1;omega)
   · rename_i g1 g2
     have e1:=Af (bs:=s.2) (L:=wr s.2) (if_neg (by omega)).symm
     have e2:((s.2++[false]).length:Int)=(s.2.length:Int)+1:=by simp
     rw [decide_eq_false (by rw [←e4];exact g2)]at hput
     refine ih (s.1-1,s.2++[false]) _ _ _ (bh [0,1,2] (obj:=by(repeat' (first|exact ae.nil|refine ae.flat (by rw [e1];rfl) ?_|refine ae.ed (by rw [e2];rfl) rfl (by simp;omega) rfl ?_|refine ae.flat rfl ?_|refine ae.cons rfl ?_|refine ae.dead rfl ?_|refine ae.cons (by simp only [ak.ay,List.map_cons,List.map_nil,XC.ay,aw];exact rfl) ?_));first|done|fail) (reg:=by(repeat' (first|exact af.nil|refine af.flat (by rw [e3];rfl) ?_|refine af.flat rfl ?_|refine af.cons rfl ?_|refine af.sl rfl (by assumption) rfl ?_|refine af.dY rfl rfl (by first|rfl|omega|(simp;done)|(simp;omega)) ?_));first|done|fail)) ⟨by show s.1-1≤_;omega,by simp;omega,by show _++_=_;rw [←hput];exact h3⟩ (by show s.1-1<s.1;omega)
end Go.Proofs.YtagpkhindehcbaaGreat
namespace Go.Proofs.YtagpkhindehcbaaGreat
open Go.Xm
variable [az]
instance Ou:bz (.tup []):=e_ rfl
theorem MZ (a b:List XC) (e e' e2:TypeId) (cs ds:List XC):dP [.cells a e false false,b8 e' cs] [.cells b e false false,.dead,b8 e2 ds]=true:=by
 cases cs <;> cases ds <;> simp [dP,ak.live,ak.own,b8]
abbrev aP (k:Nat) (bs:List Bool):ak := .cells [gQ k ((bs.length+7)/8) 1,.int .i64 (bs.length:Nat)] 92 false false
abbrev aq (bs:List Bool):ak:=b8 5 (il .u8 (wr bs))
theorem Li {f:FuncId} {more:List XV}(hm:∀ τ,dF τ more more) (hmo:eV 2 more) {v:XV} [bz v] {bs bs':List Bool}(hc:bn Tryz.prog f (.one (.ptr 0 0)::more) (WH bs) v (LA bs')) {HS:aj} {i k:Nat}(hi:HS[i]? = some (aP k bs)) (hk:HS[k]? = some (aq bs)) (hd:i≠k) {N:Nat}(hN:HS.length=N) {HS':aj}(hh:bG HS [i,k] [aP N bs',.dead,aq bs']=HS') (hbd:Nat.blt HS'.length Mem.bound=true) :
 aH.Sound Tryz.prog ⟨f,.one (.ptr i 0)::more,HS,v,HS',[i,k]⟩:=by
 subst hN
 refine bV [i,k] [i,k] 1 hc (by simp [hd]) ?_ ?_ ?_ rfl (.cons (by simp [XV.b7,XC.ok]) hmo) (.cons rfl (hm _)) (bz.ok _) (bz.ay _) ?_ (MZ ..) rfl hh hbd (.inl rfl)
 · exact ae.ed hi rfl rfl rfl (.flat hk .nil)
 · exact .cons (by simp [ak.b7,XC.ok,bc]) (.flat .nil)
 · exact .cons (by simp [ak.b7,XC.ok,bc]) (.flat (.flat .nil))
 · exact .cons (by simp only [ak.ay,List.map_cons,List.map_nil,XC.ay,aw];rfl) (.flat (.flat .nil))
theorem h_ {n:Int} {size:Nat} {z:Int}(hz:z=(size:Nat)) {bs:List Bool}(hn:0≤n∧n<18446744073709551616) (hs:size≤64) (hb:bs.length≤1000000) {HS:aj} {i k:Nat}(hi:HS[i]? = some (aP k bs)) (hk:HS[k]? = some (aq bs)) (hd:i≠k) {N:Nat}(hN:HS.length=N) {HS':aj}(hh:bG HS [i,k] [aP N (bs++ej n size),.dead,aq (bs++ej n size)]=HS') (hbd:Nat.blt HS'.length Mem.bound=true) :
 aH.Sound Tryz.prog ⟨59,[.one (.ptr i 0),.one (.int .u64 n),.one (.int .i64 z)],HS,.tup [],HS',[i,k]⟩:=by
 subst hz
 exact Li (fun τ => .flat (.flat .nil)) (.flat (.flat .nil)) (I6 bs n size hn hs hb) hi hk hd hN hh hbd
theorem Fz (bs:List Bool) (b:Bool) (hb:bs.length≤1000000) :
 bn Tryz.prog 57 [.one (.ptr 0 0),.one (.bool b)] (WH bs) (.tup []) (LA (bs++[b])):=by
 refine cO Tryz.func57 ?_
 cases b with
 | true=>
   have e:bs++ej 1 1=bs++[true]:=rfl
   repeat' (first
    |(refine qz ?_;first
     |refine cl ?_ (hi:=by exact h_ (size:=1) rfl (bs:=bs) (by decide) (by decide) hb rfl rfl (by decide) nL nA rfl))
    |refine zz ?_|refine zx (fun _=>?_) (fun _=>?_)|fail)
   show aC _ _ _ _ _ _ _ _;refine kV [0,1,2] ?_
   rfl
 | false=>
   have e:bs++ej 0 1=bs++[false]:=rfl
   repeat' (first
    |(refine qz ?_;first
     |refine cl ?_ (hi:=by exact h_ (size:=1) rfl (bs:=bs) (by decide) (by decide) hb rfl rfl (by decide) nL nA rfl))
    |refine zz ?_|refine zx (fun _=>?_) (fun _=>?_)|fail)
   show aC _ _ _ _ _ _ _ _;refine kV [0,1,2] ?_
   rfl
theorem kE {b:Bool} {bs:List Bool}(hb:bs.length≤1000000) {HS:aj} {i k:Nat}(hi:HS[i]? = some (aP k bs)) (hk:HS[k]? = some (aq bs)) (hd:i≠k) {N:Nat}(hN:HS.length=N) {HS':aj}(hh:bG HS [i,k] [aP N (bs++[b]),.dead,aq (bs++[b])]=HS') (hbd:Nat.blt HS'.length Mem.bound=true) :
 aH.Sound Tryz.prog ⟨57,[.one (.ptr i 0),.one (.bool b)],HS,.tup [],HS',[i,k]⟩:=
 Li (fun τ => .flat .nil) (.flat .nil) (Fz bs b hb) hi hk hd hN hh hbd
def bitLen (n:Nat):Nat:=if n=0 then 0 else Nat.log2 n+1
def qD (n:Nat):Int:=(bitLen n:Nat)
theorem zh:∀ i:Fin 256,0≤qD i.val∧qD i.val≤8:=by decide +kernel
theorem AU {n k:Nat}(h:2^k≤n):bitLen n=bitLen (n/2^k)+k:=by
 have hp:0<2^k:=Nat.two_pow_pos k
 have h0:0<n/2^k:=Nat.div_pos h hp
 unfold bitLen
 have e:Nat.log2 n=Nat.log2 (n/2^k)+k:=by
  rw [Nat.log2_eq_iff (by omega)]
  have h1:=Nat.log2_self_le (n:=n/2^k) (by omega)
  have h2:=Nat.lt_log2_self (n:=n/2^k)
  constructor
  · rw [Nat.pow_add]
    exact(Nat.le_div_iff_mul_le hp).1 h1
  · rw [show Nat.log2 (n/2^k)+k+1=Nat.log2 (n/2^k)+1+k by omega,Nat.pow_add]
    exact(Nat.div_lt_iff_lt_mul hp).1 h2
 rw [if_neg (by omega),if_neg (by omega),e]
 omega
theorem Ek (n:Int) (hn:0≤n∧n<65536) :
 bn Tryz.prog 114 [.one (.int .u64 n)] [] (.one (.int .i64 (qD n.toNat))) []:=by
 refine cO Tryz.func114 ?_
 by_cases h:n<256
 · have hr:=zh ⟨n.toNat,by omega⟩
   simp only []at hr
   repeat' (first
    |(refine qz ?_;first
     |refine P3 qD ?_)
    |refine zz ?_|refine zx (fun _=>?_) (fun _=>?_)|fail)
   show aC _ _ _ _ _ _ _ _;refine kV [] ?_
   rw [Int.zero_add]
   rfl
 · have hq:0≤n/2^(8:Int).toNat∧n/2^(8:Int).toNat<256∧(n/2^(8:Int).toNat).toNat=n.toNat/2^8:=by
    show 0≤n/2^8∧n/2^8<256∧(n/2^8).toNat=n.toNat/2^8
    omega
   have hr:=zh ⟨(n/2^(8:Int).toNat).toNat,by omega⟩
   simp only []at hr
   have hl:qD n.toNat=0+8+qD (n/2^(8:Int).toNat).toNat:=by
    unfold qD
    rw [AU (n:=n.toNat) (k:=8) (by omega),hq.2.2]
    omega
   rw [hl]
   repeat' (first
    |(refine qz ?_;first
     |refine P3 qD ?_)
    |refine zz ?_|refine zx (fun _=>?_) (fun _=>?_)|fail)
   show aC _ _ _ _ _ _ _ _;refine kV [] ?_
   rfl
theorem G8 {HS:aj} {n:Int}(hn:0≤n∧n<65536) (hb:Nat.blt HS.length Mem.bound=true):aH.Sound Tryz.prog ⟨114,[.one (.int .u64 n)],HS,.one (.int .i64 (qD n.toNat)),HS,[]⟩:=
 aA (Ek n hn) rfl rfl hb
theorem Kb (n:Int) (hn:0≤n∧n<65536) :
 bn Tryz.prog 106 [.one (.int .u64 n)] [] (.one (.int .i64 (qD n.toNat))) []:=by
 refine cO Tryz.func106 ?_
 repeat' (first
  |(refine qz ?_;first
   |refine cl ?_ (hi:=by exact G8 (by omega) rfl))
  |refine zz ?_|refine zx (fun _=>?_) (fun _=>?_)|fail)
 show aC _ _ _ _ _ _ _ _;refine kV [] ?_
 rfl
theorem Bj {HS:aj} {n:Int}(hn:0≤n∧n<65536) (hb:Nat.blt HS.length Mem.bound=true):aH.Sound Tryz.prog ⟨106,[.one (.int .u64 n)],HS,.one (.int .i64 (qD n.toNat)),HS,[]⟩:=
 aA (Kb n hn) rfl rfl hb
def l5 (n:Int):Nat→List Bool
 | 0=>[]
 | k+1=>decide (n/2^k%2=1)::decide (0<k)::l5 n k
def bN (v:Int):List Bool:=if v=0 then [true]else false::l5 (v+1) (bitLen (v+1).toNat-1)
theorem oW (n:Int):∀ k,(l5 n k).length=2*k
 | 0=>rfl
 | k+1=>by simp [l5,oW n k];omega
theorem lN {n k:Nat}(h:n<2^k):bitLen n≤k:=by
 unfold bitLen
 split
 · omega
 · have:=(Nat.log2_lt (by omega)).2 h
   omega
theorem AT {n:Nat}(h:0<n):0<bitLen n:=by
 unfold bitLen
 rw [if_neg (by omega)];omega
theorem zQ (bs:List Bool) (v:Int) (hv:0≤v∧v≤8190) (hb:bs.length≤900000) :
 bn Tryz.prog 82 [.one (.ptr 0 0),.one (.int .i64 v)] (WH bs) (.one (.bool true)) (LA (bs++bN v)):=by
 refine cO Tryz.func82 ?_
 by_cases h0:v=0
 · subst h0
   have e:bs++ej 1 1=bs++bN 0:=rfl
   repeat' (first
    |(refine qz ?_;first
     |refine cl ?_ (hi:=by exact h_ (size:=1) rfl (bs:=bs) (by decide) (by decide) (by omega) rfl rfl (by decide) nL nA rfl))
    |refine zz ?_|refine zx (fun _=>?_) (fun _=>?_)|fail)
   show aC _ _ _ _ _ _ _ _;refine kV [0,1,2] ?_
   rfl
 · have hl1:bitLen (v+1).toNat≤13:=lN (by show _<8192;omega)
   have hl2:=AT (n:=(v+1).toNat) (by omega)
   have hl3:qD (v+1).toNat=(bitLen (v+1).toNat:Nat):=rfl
   repeat' (first
    |(refine qz ?_;first
     |refine cl ?_ (hi:=by exact h_ (size:=1) rfl (bs:=bs) (by decide) (by decide) (by omega) rfl rfl (by decide) nL nA rfl)
     |refine cl ?_ (hi:=by exact Bj (by omega) rfl))
    |refine zz ?_|refine zx (fun _=>?_) (fun _=>?_)|fail)
   have e5:((bitLen (v+1).toNat-1:Nat):Int)=qD (v+1).toNat-1:=by omega
   refine WX.cS (σ:=Nat × List Bool) (fun s=>[(6,.one (.int .i64 ((s.1:Int)-1))),(0,.one (.ptr 0 0)),(1,.one (.int .i64 v))]) (fun s=>LA s.2) (fun s=>s.1≤13∧s.2.length+2*s.1≤900100∧s.2++l5 (v+1) s.1=bs++bN v) (fun s=>s.1) (bitLen (v+1).toNat-1,bs++ej 0 1) ⟨by show _-1≤_;omega,by simp [gi];omega,by rw [bN,if_neg h0];simp [ej]⟩ (fun s _=>j5) (bh [0,1,2] (obj:=by(repeat' (first|exact ae.nil|refine ae.ed rfl rfl rfl rfl ?_|refine ae.flat rfl ?_|refine ae.cons rfl ?_|refine ae.dead rfl ?_|refine ae.cons (by simp only [ak.ay,List.map_cons,List.map_nil,XC.ay,aw];exact rfl) ?_));first|done|fail) (reg:=by(repeat' (first|exact af.nil|refine af.flat (by rw [e5];rfl) ?_|refine af.flat rfl ?_|refine af.cons rfl ?_|refine af.sl rfl (by assumption) rfl ?_|refine af.dY rfl rfl (by first|rfl|omega|(simp;done)|(simp;omega)) ?_));first|done|fail)) ?_
   intro s ⟨h1,h2,h3⟩ ih
   by_cases hk:s.1=0
   · have e:bs++bN v=s.2:=by rw [←h3,hk];simp [l5]
     rw [e]
     repeat' (first|refine zz ?_|refine zx (fun _=>?_) (fun _=>?_)|fail)
     show aC _ _ _ _ _ _ _ _;refine kV [0,1,2] ?_
     rfl
   · have hsh:0≤(v+1)/2^(((s.1:Int)-1).toNat)∧(v+1)/2^(((s.1:Int)-1).toNat)≤v+1:=⟨Int.ediv_nonneg (by omega) (Int.le_of_lt (Int.pow_pos (by decide))),Int.ediv_le_self _ (by omega)⟩
     have e3:((s.1-1:Nat):Int)=(s.1:Int)-1:=by omega
     have e4:((s.1:Int)-1).toNat=s.1-1:=by omega
     have hpl:∀ x:Int,(s.2++ej x 1).length≤1000000:=fun x=>by simp [gi];omega
     have hin:∀ b:Bool,b=decide (0<s.1-1)→(s.2++ej ((v+1)/2^(((s.1:Int)-1).toNat)%2^1) 1++[b])++l5 (v+1) (s.1-1)=bs++bN v:=by
      intro b hb'
      rw [←h3]
      obtain⟨k,hk'⟩:∃ k,s.1=k+1:=⟨s.1-1,by omega⟩
      rw [hb',e4,hk']
      simp only [ej,l5,Nat.add_sub_cancel,Nat.pow_zero,Int.pow_zero,Int.ediv_one,show(2:Int)^1=2 from rfl,List.append_assoc,List.cons_append,List.nil_append]
      rw [Int.emod_emod_of_dvd _ (by decide)]
     repeat' (first
      |(refine qz ?_;first
       |refine cl ?_ (hi:=by exact h_ (size:=1) rfl (bs:=s.2) (by omega) (by decide) (by omega) rfl rfl (by decide) nL nA rfl)
       |refine cl ?_ (hi:=by exact kE (bs:=s.2++ej _ 1) (hpl _) rfl rfl (by decide) nL nA rfl))
      |refine zz ?_|refine zx (fun _=>?_) (fun _=>?_)|fail)
     · rename_i g
       refine ih (s.1-1,s.2++ej _ 1++[true]) _ _ _ (bh [0,1,4] (obj:=by(repeat' (first|exact ae.nil|refine ae.ed rfl rfl rfl rfl ?_|refine ae.flat rfl ?_|refine ae.cons rfl ?_|refine ae.dead rfl ?_|refine ae.cons (by simp only [ak.ay,List.map_cons,List.map_nil,XC.ay,aw];exact rfl) ?_));first|done|fail) (reg:=by(repeat' (first|exact af.nil|refine af.flat (by rw [e3];rfl) ?_|refine af.flat rfl ?_|refine af.cons rfl ?_|refine af.sl rfl (by assumption) rfl ?_|refine af.dY rfl rfl (by first|rfl|omega|(simp;done)|(simp;omega)) ?_));first|done|fail)) ⟨by show s.1-1≤_;omega,by simp [gi];omega,hin true (decide_eq_true (by omega)).symm⟩ (by show s.1-1<s.1;omega)
     · rename_i g
       refine ih (s.1-1,s.2++ej _ 1++[false]) _ _ _ (bh [0,1,4] (obj:=by(repeat' (first|exact ae.nil|refine ae.ed rfl rfl rfl rfl ?_|refine ae.flat rfl ?_|refine ae.cons rfl ?_|refine ae.dead rfl ?_|refine ae.cons (by simp only [ak.ay,List.map_cons,List.map_nil,XC.ay,aw];exact rfl) ?_));first|done|fail) (reg:=by(repeat' (first|exact af.nil|refine af.flat (by rw [e3];rfl) ?_|refine af.flat rfl ?_|refine af.cons rfl ?_|refine af.sl rfl (by assumption) rfl ?_|refine af.dY rfl rfl (by first|rfl|omega|(simp;done)|(simp;omega)) ?_));first|done|fail)) ⟨by show s.1-1≤_;omega,by simp [gi];omega,hin false (decide_eq_false (by omega)).symm⟩ (by show s.1-1<s.1;omega)
theorem jn {v:Int} {bs:List Bool}(hv:0≤v∧v≤8190) (hb:bs.length≤900000) {HS:aj} {i k:Nat}(hi:HS[i]? = some (aP k bs)) (hk:HS[k]? = some (aq bs)) (hd:i≠k) {N:Nat}(hN:HS.length=N) {HS':aj}(hh:bG HS [i,k] [aP N (bs++bN v),.dead,aq (bs++bN v)]=HS') (hbd:Nat.blt HS'.length Mem.bound=true) :
 aH.Sound Tryz.prog ⟨82,[.one (.ptr i 0),.one (.int .i64 v)],HS,.one (.bool true),HS',[i,k]⟩:=
 Li (fun τ => .flat .nil) (.flat .nil) (zQ bs v hv hb) hi hk hd hN hh hbd
end Go.Proofs.YtagpkhindehcbaaGreat
namespace Go.Proofs.YtagpkhindehcbaaGreat
open Go.Xm
variable [az]
structure cK (L:List Int) (B:List Bool):Prop where
 le:B.length≤8*L.length
 byte:dZ L
 bit:∀ j,j<B.length→kQ L j=B.getD j false
 small:L.length≤1000000
def dH (B:List Bool) (r:Nat × Bool):Bool := !r.2 && B.getD r.1 false
def bY (B:List Bool) (r:Nat × Bool):Nat × Bool:=if r.2=true then r else if r.1<B.length then(r.1+1,false)else(r.1,true)
def b2 (b:Bool):Int:=if b then 1 else 0
abbrev br (k:Nat) (L:List Int) (B:List Bool) (p:Nat) (e:Bool):ak := .cells [.slice k 0 L.length (.exact L.length),.int .i64 (p:Nat),.int .i64 (B.length:Nat),.bool e] 137 false false
abbrev aM (L:List Int):ak := .cells (il .u8 L) 5 false false
abbrev RH (L:List Int) (B:List Bool) (p:Nat) (e:Bool):aj:=[br 1 L B p e,aM L]
theorem HO {L:List Int} {B:List Bool}(p:Nat) :
 bn Tryz.prog 93 [.one (.ptr 0 0)] (RH L B p true) (.one (.int .u64 0)) (RH L B p true):=by
 refine cO Tryz.func93 ?_
 repeat' (first|refine zz ?_|refine zx (fun _=>?_) (fun _=>?_)|fail)
 show aC _ _ _ _ _ _ _ _;refine kV [0,1] ?_
 rfl
theorem HP {L:List Int} {B:List Bool}(p:Nat) (hp:¬p<B.length) :
 bn Tryz.prog 93 [.one (.ptr 0 0)] (RH L B p false) (.one (.int .u64 0)) (RH L B p true):=by
 refine cO Tryz.func93 ?_
 repeat' (first|refine zz ?_|refine zx (fun _=>?_) (fun _=>?_)|fail)
 show aC _ _ _ _ _ _ _ _;refine kV [0,1] ?_
 rfl
theorem KA {L:List Int} {B:List Bool}(h:cK L B) (p:Nat) (hp:p<B.length) :
 bn Tryz.prog 93 [.one (.ptr 0 0)] (RH L B p false) (.one (.int .u64 (b2 (B.getD p false)))) (RH L B (p+1) false):=by
 refine cO Tryz.func93 ?_
 have h1:=h.le
 have h2:=h.small
 have e2:b2 (B.getD p false)=L.getD ((p:Int)/8).toNat 0/2^(7-(p:Int)%8).toNat%2^1:=by
  have:=h.bit p hp
  have hb:=h.byte (p/8)
  unfold b2
  rw [←this]
  unfold kQ
  rw [show((p:Int)/8).toNat=p/8 by omega,show(7-(p:Int)%8).toNat=7-p%8 by omega]
  simp only [decide_eq_true_eq]
  split
  · rename_i g;rw [show(2:Int)^1=2 from rfl,g]
  · rename_i g;rw [show(2:Int)^1=2 from rfl];omega
 have hby:=h.byte ((p:Int)/8).toNat
 have hsh:0≤L.getD ((p:Int)/8).toNat 0/2^(7-(p:Int)%8).toNat∧L.getD ((p:Int)/8).toNat 0/2^(7-(p:Int)%8).toNat<256:=⟨Int.ediv_nonneg hby.1 (Int.le_of_lt (Int.pow_pos (by decide))),Int.lt_of_le_of_lt (Int.ediv_le_self _ hby.1) hby.2⟩
 have e3:((p+1:Nat):Int)=(p:Int)+1:=by omega
 rw [e2]
 repeat' (first|refine zz ?_|refine zx (fun _=>?_) (fun _=>?_)|fail)
 show aC _ _ _ _ _ _ _ _;refine kV [0,1] ?_
 rfl
theorem HN {L:List Int} {B:List Bool}(h:cK L B) (r:Nat × Bool) :
 bn Tryz.prog 93 [.one (.ptr 0 0)] (RH L B r.1 r.2) (.one (.int .u64 (b2 (dH B r)))) (RH L B (bY B r).1 (bY B r).2):=by
 obtain⟨p,e⟩:=r
 cases e with
 | true=>exact HO p
 | false=>
   by_cases hp:p<B.length
   · have e1:bY B (p,false)=(p+1,false):=by simp [bY,hp]
     rw [e1]
     exact KA h p hp
   · have e1:bY B (p,false)=(p,true):=by simp [bY,hp]
     have e2:b2 (dH B (p,false))=0:=by
      unfold b2 dH
      rw [List.getD_eq_getElem?_getD,List.getElem?_eq_none (by simp only [];omega)]
      rfl
     rw [e1,e2]
     exact HP p hp
theorem aG {α : Type} {l:List α} {i:Nat} {a : α}(h:l[i]? = some a):l.set i a=l:=by
 apply List.ext_getElem?
 intro j
 rw [List.getElem?_set]
 split
 · rename_i e
   subst e
   rw [h];simp [(List.getElem?_eq_some_iff.1 h).1]
 · rfl
theorem zI {f:FuncId} {more:List XV}(hm:∀ τ,dF τ more more) (hmo:eV 2 more) {v:XV} [bz v] {L:List Int} {B:List Bool} {p p':Nat} {e e':Bool}(hc:bn Tryz.prog f (.one (.ptr 0 0)::more) (RH L B p e) v (RH L B p' e')) {HS:aj} {i k:Nat}(hi:HS[i]? = some (br k L B p e)) (hk:HS[k]? = some (aM L)) (hd:i≠k) {HS':aj}(hh:HS.set i (br k L B p' e')=HS') (hbd:Nat.blt HS'.length Mem.bound=true) :
 aH.Sound Tryz.prog ⟨f,.one (.ptr i 0)::more,HS,v,HS',[i]⟩:=by
 have hh':bG HS [i,k] [br k L B p' e',aM L]=HS':=by
  subst hh
  simp only [bG,List.append_nil]
  apply List.ext_getElem?
  intro j
  rw [List.getElem?_set]
  split
  · rename_i h
    subst h
    rw [List.getElem?_set,if_neg hd,hk]
    simp [(List.getElem?_eq_some_iff.1 hk).1]
  · rfl
 refine bV [i,k] [i] 0 hc (by simp [hd]) ?_ ?_ ?_ rfl (.cons (by simp [XV.b7,XC.ok]) hmo) (.cons rfl (hm _)) (bz.ok _) (bz.ay _) ?_ rfl rfl hh' hbd (.inr fun j _ hj=>?_)
 · exact .cons hi (.flat hk .nil)
 · exact .cons (by simp [ak.b7,XC.ok]) (.flat .nil)
 · exact .cons (by simp [ak.b7,XC.ok]) (.flat .nil)
 · exact .cons rfl (.flat .nil)
 · subst hh
   rw [List.getElem?_set,if_neg (fun h=>hj (by rw [h];exact List.mem_singleton.2 rfl))]
theorem qN {L:List Int} {B:List Bool}(h:cK L B) (r:Nat × Bool) {z:Int}(hz:b2 (dH B r)=z) {HS:aj} {i k:Nat}(hi:HS[i]? = some (br k L B r.1 r.2)) (hk:HS[k]? = some (aM L)) (hd:i≠k) {HS':aj}(hh:HS.set i (br k L B (bY B r).1 (bY B r).2)=HS') (hbd:Nat.blt HS'.length Mem.bound=true) :
 aH.Sound Tryz.prog ⟨93,[.one (.ptr i 0)],HS,.one (.int .u64 z),HS',[i]⟩:=by
 subst hz
 exact zI (fun _ => .nil) .nil (HN h r) hi hk hd hh hbd
theorem EI {L:List Int} {B:List Bool}(h:cK L B) (r:Nat × Bool) :
 bn Tryz.prog 64 [.one (.ptr 0 0)] (RH L B r.1 r.2) (.one (.bool (dH B r))) (RH L B (bY B r).1 (bY B r).2):=by
 refine cO Tryz.func64 ?_
 cases hb:dH B r with
 | true=>
   repeat' (first
    |(refine qz ?_;first
     |refine cl ?_ (hi:=by exact qN h r (z:=1) (by rw [hb];rfl) rfl rfl (by decide) nL rfl))
    |refine zz ?_|refine zx (fun _=>?_) (fun _=>?_)|fail)
   show aC _ _ _ _ _ _ _ _;refine kV [0,1] ?_
   rfl
 | false=>
   repeat' (first
    |(refine qz ?_;first
     |refine cl ?_ (hi:=by exact qN h r (z:=0) (by rw [hb];rfl) rfl rfl (by decide) nL rfl))
    |refine zz ?_|refine zx (fun _=>?_) (fun _=>?_)|fail)
   show aC _ _ _ _ _ _ _ _;refine kV [0,1] ?_
   rfl
theorem qQ {L:List Int} {B:List Bool}(h:cK L B) (r:Nat × Bool) {HS:aj} {i k:Nat}(hi:HS[i]? = some (br k L B r.1 r.2)) (hk:HS[k]? = some (aM L)) (hd:i≠k) {HS':aj}(hh:HS.set i (br k L B (bY B r).1 (bY B r).2)=HS') (hbd:Nat.blt HS'.length Mem.bound=true) :
 aH.Sound Tryz.prog ⟨64,[.one (.ptr i 0)],HS,.one (.bool (dH B r)),HS',[i]⟩:=
 zI (fun _ => .nil) .nil (EI h r) hi hk hd hh hbd
theorem BE {L:List Int} {B:List Bool}(p:Nat) (e:Bool) :
 bn Tryz.prog 33 [.one (.ptr 0 0)] (RH L B p e) (.one (.bool e)) (RH L B p e):=by
 refine cO Tryz.func33 ?_
 repeat' (first|refine zz ?_|refine zx (fun _=>?_) (fun _=>?_)|fail)
 show aC _ _ _ _ _ _ _ _;refine kV [0,1] ?_
 rfl
theorem gB {L:List Int} {B:List Bool} {p:Nat} {e:Bool} {HS:aj} {i k:Nat}(hi:HS[i]? = some (br k L B p e)) (hk:HS[k]? = some (aM L)) (hd:i≠k) (hbd:Nat.blt HS.length Mem.bound=true) :
 aH.Sound Tryz.prog ⟨33,[.one (.ptr i 0)],HS,.one (.bool e),HS,[i]⟩:=
 zI (fun _ => .nil) .nil (BE p e) hi hk hd (aG hi) hbd
theorem EH {L:List Int} {B:List Bool}(p:Nat) (e:Bool) :
 bn Tryz.prog 66 [.one (.ptr 0 0)] (RH L B p e) (.tup []) (RH L B p true):=by
 refine cO Tryz.func66 ?_
 repeat' (first|refine zz ?_|refine zx (fun _=>?_) (fun _=>?_)|fail)
 show aC _ _ _ _ _ _ _ _;refine kV [0,1] ?_
 rfl
theorem gj {L:List Int} {B:List Bool} {p:Nat} {e:Bool} {HS:aj} {i k:Nat}(hi:HS[i]? = some (br k L B p e)) (hk:HS[k]? = some (aM L)) (hd:i≠k) {HS':aj}(hh:HS.set i (br k L B p true)=HS') (hbd:Nat.blt HS'.length Mem.bound=true) :
 aH.Sound Tryz.prog ⟨66,[.one (.ptr i 0)],HS,.tup [],HS',[i]⟩:=
 zI (fun _ => .nil) .nil (EH p e) hi hk hd hh hbd
theorem HW {L:List Int} {B:List Bool}(p:Nat) (e:Bool) :
 bn Tryz.prog 35 [.one (.ptr 0 0)] (RH L B p e) (.one (.int .i64 (if e then 3 else if p<B.length then 13 else 0))) (RH L B p e):=by
 refine cO Tryz.func35 ?_
 cases e with
 | true=>
   repeat' (first|refine zz ?_|refine zx (fun _=>?_) (fun _=>?_)|fail)
   show aC _ _ _ _ _ _ _ _;refine kV [0,1] ?_
   rfl
 | false=>
   by_cases hp:p<B.length
   · repeat' (first|refine zz ?_|refine zx (fun _=>?_) (fun _=>?_)|fail)
     show aC _ _ _ _ _ _ _ _;refine kV [0,1] ?_
     rw [if_pos hp];rfl
   · repeat' (first|refine zz ?_|refine zx (fun _=>?_) (fun _=>?_)|fail)
     show aC _ _ _ _ _ _ _ _;refine kV [0,1] ?_
     rw [if_neg hp];rfl
theorem KF {L:List Int} {B:List Bool} {p:Nat} {e:Bool} {HS:aj} {i k:Nat}(hi:HS[i]? = some (br k L B p e)) (hk:HS[k]? = some (aM L)) (hd:i≠k) (hbd:Nat.blt HS.length Mem.bound=true) :
 aH.Sound Tryz.prog ⟨35,[.one (.ptr i 0)],HS,.one (.int .i64 (if e then 3 else if p<B.length then 13 else 0)),HS,[i]⟩:=
 zI (fun _ => .nil) .nil (HW p e) hi hk hd (aG hi) hbd
theorem zb (k:IntKind) (h:k.bits=64) {x b:Int}(hx:0≤x) (hx2:x<2^62) (hb:b=0∨b=1) (hw:∀ y:Int,0≤y→y<2^63→k.wrap y=y):CM k (x*2^1) b=2*x+b:=by
 unfold CM
 rw [BitVec.toNat_or,BitVec.toNat_ofInt,BitVec.toNat_ofInt,h]
 obtain⟨n,rfl⟩:=Int.eq_ofNat_of_zero_le hx
 have e1:(((n:Int)*2^1)%((2^64:Nat):Int)).toNat=2^1*n:=by omega
 have e2:(b%((2^64:Nat):Int)).toNat=b.toNat:=by rcases hb with rfl|rfl <;> rfl
 rw [e1,e2,←Nat.two_pow_add_eq_or_of_lt (by rcases hb with rfl|rfl <;> decide),hw _ (by omega) (by omega)]
 omega
end Go.Proofs.YtagpkhindehcbaaGreat
namespace Go.Proofs.YtagpkhindehcbaaGreat
open Go.Xm
variable [az]
theorem yG (b:Bool):b2 b=0∨b2 b=1:=by cases b <;> simp [b2]
def ny (B:List Bool):Nat→Int→Nat × Bool→Int × (Nat × Bool)
 | 0,_,r=>(0,(r.1,true))
 | k+1,x,r=>
   if(bY B (bY B r)).2=true∨8190<2*x+b2 (dH B r)-1 then(0,((bY B (bY B r)).1,true))
   else if dH B (bY B r)=true then ny B k (2*x+b2 (dH B r)) (bY B (bY B r))
   else(2*x+b2 (dH B r)-1,bY B (bY B r))
def bT (B:List Bool) (r:Nat × Bool):Int × (Nat × Bool):=if dH B r=true then(0,bY B r)else ny B 13 1 (bY B r)
theorem xI {L:List Int} {B:List Bool}(h:cK L B) (r:Nat × Bool) :
 bn Tryz.prog 75 [.one (.ptr 0 0)] (RH L B r.1 r.2) (.one (.int .i64 (bT B r).1)) (RH L B (bT B r).2.1 (bT B r).2.2):=by
 refine cO Tryz.func75 ?_
 have e1:dH B r=true→bT B r=(0,bY B r):=fun h=>if_pos h
 have e2:dH B r=false→bT B r=ny B 13 1 (bY B r):=fun h=>if_neg (by rw [h];decide)
 generalize bT B r=q at e1 e2 ⊢
 repeat' (first
  |(refine qz ?_;first
   |refine tn (fun hf=>?_) (fun hf=>?_) (hi:=by exact qQ h r rfl rfl (by decide) nL rfl))
  |refine zz ?_|refine zx (fun _=>?_) (fun _=>?_)|fail)
 · rw [e1 hf]
   show aC _ _ _ _ _ _ _ _;refine kV [0,1] ?_
   rfl
 · refine WX.cS (σ:=Nat × Int × (Nat × Bool)) (fun s=>[(3,.one (.int .i64 s.2.1)),(0,.one (.ptr 0 0))]) (fun s=>RH L B s.2.2.1 s.2.2.2) (fun s=>ny B s.1 s.2.1 s.2.2=q∧1≤s.2.1∧s.2.1≤8191∧8192≤s.2.1*2^s.1) (fun s=>s.1) (13,1,bY B r) ⟨(e2 hf).symm,by show(1:Int)≤1;decide,by show(1:Int)≤8191;decide,by show(8192:Int)≤1*2^13;decide⟩ (fun s _=>j5) (bh [0,1]) ?_
   intro s ⟨h1,h2,h3,h4⟩ ih
   obtain⟨k,hk⟩:∃ k,s.1=k+1:=by
    cases hs:s.1 with
    | zero=>rw [hs]at h4;omega
    | succ k=>exact⟨k,rfl⟩
   have hq:q=ny B (k+1) s.2.1 s.2.2:=by rw [←h1,hk]
   rw [ny]at hq
   have hb:=yG (dH B s.2.2)
   have hio:CM .i64 (s.2.1*2^1) (b2 (dH B s.2.2))=2*s.2.1+b2 (dH B s.2.2):=zb .i64 rfl (by omega) (by omega) hb (fun y g0 g1=>f_ (k := .i64) ⟨by omega,by omega⟩)
   repeat' (first
    |(refine qz ?_;first
     |refine cl ?_ (hi:=by exact qN h s.2.2 rfl rfl rfl (by decide) nL rfl)
     |refine tn (fun gf=>?_) (fun gf=>?_) (hi:=by exact qQ h (bY B s.2.2) rfl rfl (by decide) nL rfl)
     |refine tn (fun ge=>?_) (fun ge=>?_) (hi:=by exact gB rfl rfl (by decide) rfl)
     |refine cl ?_ (hi:=by exact gj rfl rfl (by decide) nL rfl))
    |refine zz ?_|refine zx (fun _=>?_) (fun _=>?_)|fail)
   · rw [hq,if_pos (Or.inl ge)]
     show aC _ _ _ _ _ _ _ _;refine kV [0,1] ?_
     rfl
   · rename_i gx
     rw [hq,if_pos (Or.inr (by omega))]
     show aC _ _ _ _ _ _ _ _;refine kV [0,1] ?_
     rfl
   · rename_i gx
     have hn:¬((bY B (bY B s.2.2)).2=true∨8190<2*s.2.1+b2 (dH B s.2.2)-1):=by rw [ge];simp;omega
     rw [if_neg hn,if_pos gf]at hq
     refine ih (k,2*s.2.1+b2 (dH B s.2.2),bY B (bY B s.2.2)) _ _ _ (bh [0,1] (reg:=by(repeat' (first|exact af.nil|refine af.flat (by rw [←hio];rfl) ?_|refine af.flat rfl ?_|refine af.cons rfl ?_|refine af.sl rfl (by assumption) rfl ?_|refine af.dY rfl rfl (by first|rfl|omega|(simp;done)|(simp;omega)) ?_));first|done|fail)) ⟨hq.symm,by show 1≤2*s.2.1+b2 (dH B s.2.2);omega,by show 2*s.2.1+b2 (dH B s.2.2)≤8191;omega,?_⟩ (by show k<s.1;omega)
     show 8192≤(2*s.2.1+b2 (dH B s.2.2))*2^k
     rw [hk,Int.pow_succ]at h4
     refine Int.le_trans h4 ?_
     rw [Int.mul_comm (2^k) 2,←Int.mul_assoc]
     exact Int.mul_le_mul_of_nonneg_right (by omega) (Int.le_of_lt (Int.pow_pos (by decide)))
   · rw [hq,if_pos (Or.inl ge)]
     show aC _ _ _ _ _ _ _ _;refine kV [0,1] ?_
     rfl
   · rename_i gx
     rw [hq,if_pos (Or.inr (by omega))]
     show aC _ _ _ _ _ _ _ _;refine kV [0,1] ?_
     rfl
   · rename_i gx
     have hn:¬((bY B (bY B s.2.2)).2=true∨8190<2*s.2.1+b2 (dH B s.2.2)-1):=by rw [ge];simp;omega
     rw [hq,if_neg hn,if_neg (by rw [gf];decide),←hio]
     show aC _ _ _ _ _ _ _ _;refine kV [0,1] ?_
     rfl
theorem oo {L:List Int} {B:List Bool}(h:cK L B) (r:Nat × Bool) {HS:aj} {i k:Nat}(hi:HS[i]? = some (br k L B r.1 r.2)) (hk:HS[k]? = some (aM L)) (hd:i≠k) {HS':aj}(hh:HS.set i (br k L B (bT B r).2.1 (bT B r).2.2)=HS') (hbd:Nat.blt HS'.length Mem.bound=true) :
 aH.Sound Tryz.prog ⟨75,[.one (.ptr i 0)],HS,.one (.int .i64 (bT B r).1),HS',[i]⟩:=
 zI (fun _ => .nil) .nil (xI h r) hi hk hd hh hbd
end Go.Proofs.YtagpkhindehcbaaGreat
namespace Go.Proofs.YtagpkhindehcbaaGreat
open Go.Xm
structure Cd where
 S:List Int
 W:List Int
 T:List Int
def LD (C:Cd):Bool:=decide (C.W.length=C.S.length) && decide (C.S.length≤64) && decide (C.T.length=2*(C.T.length/2)) && decide (0<C.T.length∧C.T.length≤1000) && C.S.all (fun s=>decide (0≤s∧s≤64)) && C.W.all (fun w=>decide (0≤w∧w<18446744073709551616)) &&
 (List.range C.T.length).all (fun j=>decide (-1000≤C.T.getD j 0∧(C.T.getD j 0≤0∨((j/2:Nat):Int)<C.T.getD j 0∧2*C.T.getD j 0+1<C.T.length)))
structure u_ (C:Cd):Prop where
 lenW:C.W.length=C.S.length
 lenS:C.S.length≤64
 even:C.T.length=2*(C.T.length/2)
 pos:0<C.T.length∧C.T.length≤1000
 sz:∀ i,0≤C.S.getD i 0∧C.S.getD i 0≤64
 wd:∀ i,0≤C.W.getD i 0∧C.W.getD i 0<18446744073709551616
 tr:∀ j,j<C.T.length → -1000≤C.T.getD j 0∧(C.T.getD j 0≤0∨((j/2:Nat):Int)<C.T.getD j 0∧2*C.T.getD j 0+1<C.T.length)
theorem jH {l:List Int} {p:Int→Prop}(h:∀ x∈l,p x) (h0:p 0) (i:Nat):p (l.getD i 0):=by
 rw [List.getD_eq_getElem?_getD]
 cases hi:l[i]? with
 | none=>exact h0
 | some x=>exact h x (List.mem_of_getElem? hi)
theorem xf {C:Cd}(h:LD C=true):u_ C:=by
 unfold LD at h
 simp only [Bool.and_eq_true,decide_eq_true_eq,List.all_eq_true,List.mem_range]at h
 obtain⟨⟨⟨⟨⟨⟨h1,h2⟩,h3⟩,h4⟩,h5⟩,h6⟩,h7⟩:=h
 exact⟨h1,h2,h3,h4,jH h5 (by decide),jH h6 (by decide),h7⟩
variable [az]
abbrev ax (a b t:Nat) (C:Cd):ak := .cells [.slice a 0 C.S.length (.toEnd 1),.slice b 0 C.S.length (.exact C.S.length),.slice t 0 (C.T.length/2) (.toEnd 2)] 163 false false
abbrev aU (C:Cd):ak := .cells (il .i64 C.S) 3 true false
abbrev aW (C:Cd):ak := .cells (il .u64 C.W) 77 false false
abbrev aV (C:Cd):ak := .cells (il .i64 C.T) 190 true false
def db (C:Cd) (n:Nat):List Bool:=ej (C.W.getD n 0) (C.S.getD n 0).toNat
theorem Gq {C:Cd}(hC:u_ C) (bs:List Bool) (n:Nat) (hn:n<C.S.length) (hb:bs.length≤1000000) :
 bn Tryz.prog 80 [.one (.ptr 2 0),.one (.ptr 0 0),.one (.int .i64 (n:Nat))] [aP 1 bs,aq bs,ax 3 4 5 C,aU C,aW C,aV C] (.one (.int .i64 0)) [aP 6 (bs++db C n),.dead,ax 3 4 5 C,aU C,aW C,aV C,aq (bs++db C n)]:=by
 have h1:=hC.lenW
 have h2:=hC.lenS
 have h3:=hC.sz n
 have h4:=hC.wd n
 have e3:(C.S.getD ((n:Int)).toNat 0)=C.S.getD n 0:=rfl
 have e5:((C.S.getD n 0).toNat:Int)=C.S.getD n 0:=by omega
 refine cO Tryz.func80 ?_
 repeat' (first
  |(refine qz ?_;first
   |refine cl ?_ (hi:=by exact h_ (n:=C.W.getD n 0) (z:=C.S.getD n 0) (size:=(C.S.getD n 0).toNat) (by omega) (bs:=bs) h4 (by omega) hb rfl rfl (by decide) nL nA rfl))
  |refine zz ?_|refine zx (fun _=>?_) (fun _=>?_)|fail)
 show aC _ _ _ _ _ _ _ _;refine kV [0,1,2,3,4,5,6] ?_
 rfl
def tu (C:Cd) (B:List Bool):Nat→Int→Nat × Bool→Int × (Nat × Bool)
 | 0,_,r=>(0,(r.1,true))
 | k+1,x,r=>
   if(bY B r).2=true∨C.T.getD (x.toNat*2+(b2 (dH B r)%2^1).toNat) 0=0 then(0,((bY B r).1,true))
   else if C.T.getD (x.toNat*2+(b2 (dH B r)%2^1).toNat) 0<0 then(-1-C.T.getD (x.toNat*2+(b2 (dH B r)%2^1).toNat) 0,bY B r)
   else tu C B k (C.T.getD (x.toNat*2+(b2 (dH B r)%2^1).toNat) 0) (bY B r)
def kS (C:Cd) (B:List Bool) (r:Nat × Bool):Int × (Nat × Bool):=tu C B (C.T.length/2) 0 r
theorem DY {C:Cd}(hC:u_ C) {L:List Int} {B:List Bool}(h:cK L B) (r:Nat × Bool) :
 bn Tryz.prog 63 [.one (.ptr 2 0),.one (.ptr 0 0)] [br 1 L B r.1 r.2,aM L,ax 3 4 5 C,aU C,aW C,aV C] (.one (.int .i64 (kS C B r).1)) [br 1 L B (kS C B r).2.1 (kS C B r).2.2,aM L,ax 3 4 5 C,aU C,aW C,aV C]:=by
 have hp:=hC.pos
 have hev:=hC.even
 refine cO Tryz.func63 ?_
 have e0:tu C B (C.T.length/2) 0 r=kS C B r:=rfl
 generalize kS C B r=q at e0 ⊢
 repeat' (first|refine zz ?_|refine zx (fun _=>?_) (fun _=>?_)|fail)
 refine WX.cS (σ:=Nat × Int × (Nat × Bool)) (fun s=>[(5,.one (.int .i64 s.2.1)),(1,.one (.ptr 0 0)),(0,.one (.ptr 2 0))]) (fun s=>[br 1 L B s.2.2.1 s.2.2.2,aM L,ax 3 4 5 C,aU C,aW C,aV C]) (fun s=>tu C B s.1 s.2.1 s.2.2=q∧0≤s.2.1∧s.2.1+s.1≥C.T.length/2∧2*s.2.1+1<C.T.length) (fun s=>s.1) (C.T.length/2,0,r) ⟨e0,Int.le_refl _,by show(0:Int)+_≥_;omega,by show 2*(0:Int)+1<_;omega⟩ (fun s _=>j5) (bh [0,1,2,3,4,5]) ?_
 intro s ⟨h1,h2,h3,h4⟩ ih
 obtain⟨k,hk⟩:∃ k,s.1=k+1:=by
  cases hs:s.1 with
  | zero=>rw [hs]at h3;omega
  | succ k=>exact⟨k,rfl⟩
 have hq:q=tu C B (k+1) s.2.1 s.2.2:=by rw [←h1,hk]
 rw [tu]at hq
 have hb:=yG (dH B s.2.2)
 have ht:=hC.tr (s.2.1.toNat*2+(b2 (dH B s.2.2)%2^1).toNat) (by omega)
 repeat' (first
  |(refine qz ?_;first
   |refine cl ?_ (hi:=by exact qN h s.2.2 rfl rfl rfl (by decide) nL rfl)
   |refine an (n:=1) ?_
   |refine cl ?_ (hi:=by exact gj rfl rfl (by decide) nL rfl)
   |refine tn (fun ge=>?_) (fun ge=>?_) (hi:=by exact gB rfl rfl (by decide) rfl))
  |refine zz ?_|refine zx (fun _=>?_) (fun _=>?_)|fail)
 · rw [hq,if_pos (Or.inl ge)]
   show aC _ _ _ _ _ _ _ _;refine kV [0,1,2,3,4,5] ?_
   rfl
 · rename_i gx
   rw [hq,if_pos (Or.inr gx)]
   show aC _ _ _ _ _ _ _ _;refine kV [0,1,2,3,4,5] ?_
   rfl
 · rename_i gx gn
   rw [hq,if_neg (by rw [ge];simp;exact gx),if_pos gn]
   show aC _ _ _ _ _ _ _ _;refine kV [0,1,2,3,4,5] ?_
   rfl
 · rename_i gx gn
   rw [if_neg (by rw [ge];simp;exact gx),if_neg gn]at hq
   refine ih (k,C.T.getD (s.2.1.toNat*2+(b2 (dH B s.2.2)%2^1).toNat) 0,bY B s.2.2) _ _ _ (bh [0,1,2,3,4,5]) ⟨hq.symm,by show 0≤C.T.getD _ 0;omega,?_,by show 2*C.T.getD _ 0+1<_;omega⟩ (by show k<s.1;omega)
   show C.T.getD _ 0+(k:Int)≥_
   omega
theorem tt {C:Cd}(hC:u_ C) {L:List Int} {B:List Bool}(h:cK L B) (r:Nat × Bool) {HS:aj} {i k c a b t:Nat}(hi:HS[i]? = some (br k L B r.1 r.2)) (hk:HS[k]? = some (aM L)) (hc:HS[c]? = some (ax a b t C)) (ha:HS[a]? = some (aU C)) (hb:HS[b]? = some (aW C)) (ht:HS[t]? = some (aV C)) (hd : [i,k,c,a,b,t].Nodup) {HS':aj}(hh:HS.set i (br k L B (kS C B r).2.1 (kS C B r).2.2)=HS') (hbd:Nat.blt HS'.length Mem.bound=true) :
 aH.Sound Tryz.prog ⟨63,[.one (.ptr c 0),.one (.ptr i 0)],HS,.one (.int .i64 (kS C B r).1),HS',[i]⟩:=by
 have hh':bG HS [i,k,c,a,b,t] [br k L B (kS C B r).2.1 (kS C B r).2.2,aM L,ax a b t C,aU C,aW C,aV C]=HS':=by
  subst hh
  simp only [List.nodup_cons,List.mem_cons,List.not_mem_nil,or_false,not_or]at hd
  simp only [bG,List.append_nil]
  rw [aG (i:=k) (by rw [List.getElem?_set_ne hd.1.1];exact hk),aG (i:=c) (by rw [List.getElem?_set_ne hd.1.2.1];exact hc),aG (i:=a) (by rw [List.getElem?_set_ne hd.1.2.2.1];exact ha),aG (i:=b) (by rw [List.getElem?_set_ne hd.1.2.2.2.1];exact hb),aG (i:=t) (by rw [List.getElem?_set_ne hd.1.2.2.2.2];exact ht)]
 refine bV [i,k,c,a,b,t] [i] 0 (DY hC h r) hd ?_ ?_ ?_ rfl (.cons (by simp [XV.b7,XC.ok]) (.cons (by simp [XV.b7,XC.ok]) .nil)) (.cons rfl (.cons rfl .nil)) (bz.ok _) (bz.ay _) ?_ rfl rfl hh' hbd (.inr fun j _ hj=>?_)
 · exact .cons hi (.flat hk (.cons hc (.flat ha (.flat hb (.flat ht .nil)))))
 · exact .cons (by simp [ak.b7,XC.ok]) (.flat (.cons (by simp [ak.b7,XC.ok]) (.flat (.flat (.flat .nil)))))
 · exact .cons (by simp [ak.b7,XC.ok]) (.flat (.cons (by simp [ak.b7,XC.ok]) (.flat (.flat (.flat .nil)))))
 · exact .cons rfl (.flat (.cons rfl (.flat (.flat (.flat .nil)))))
 · subst hh
   rw [List.getElem?_set,if_neg (fun h=>hj (by rw [h];exact List.mem_singleton.2 rfl))]
theorem MW (a b:List XC) (e e' e2:TypeId) (cs ds c1 c2 c3 c4:List XC) (e4 e5 e6 e7:TypeId):dP [.cells a e false false,b8 e' cs,.cells c1 e4 false false,.cells c2 e5 true false,.cells c3 e6 false false,.cells c4 e7 true false] [.cells b e false false,.dead,.cells c1 e4 false false,.cells c2 e5 true false,.cells c3 e6 false false,.cells c4 e7 true false,b8 e2 ds]=true:=by
 cases cs <;> cases ds <;> simp [dP,ak.live,ak.own,b8]
theorem qn {C:Cd}(hC:u_ C) {bs:List Bool} {n:Nat} {z:Int}(hz:z=(n:Nat)) (hn:n<C.S.length) (hbl:bs.length≤1000000) {HS:aj} {i k c a b t:Nat}(hi:HS[i]? = some (aP k bs)) (hk:HS[k]? = some (aq bs)) (hc:HS[c]? = some (ax a b t C)) (ha:HS[a]? = some (aU C)) (hb:HS[b]? = some (aW C)) (ht:HS[t]? = some (aV C)) (hd : [i,k,c,a,b,t].Nodup) {N:Nat}(hN:HS.length=N) {HS':aj}(hh:bG HS [i,k] [aP N (bs++db C n),.dead,aq (bs++db C n)]=HS') (hbd:Nat.blt HS'.length Mem.bound=true) :
 aH.Sound Tryz.prog ⟨80,[.one (.ptr c 0),.one (.ptr i 0),.one (.int .i64 z)],HS,.one (.int .i64 0),HS',[i,k]⟩:=by
 subst hN
 subst hz
 have hh':bG HS [i,k,c,a,b,t] [aP HS.length (bs++db C n),.dead,ax a b t C,aU C,aW C,aV C,aq (bs++db C n)]=HS':=by
  subst hh
  simp only [List.nodup_cons,List.mem_cons,List.not_mem_nil,or_false,not_or]at hd
  simp only [bG]
  rw [aG (i:=c) (by rw [List.getElem?_set_ne hd.2.1.1,List.getElem?_set_ne hd.1.2.1];exact hc),aG (i:=a) (by rw [List.getElem?_set_ne hd.2.1.2.1,List.getElem?_set_ne hd.1.2.2.1];exact ha),aG (i:=b) (by rw [List.getElem?_set_ne hd.2.1.2.2.1,List.getElem?_set_ne hd.1.2.2.2.1];exact hb),aG (i:=t) (by rw [List.getElem?_set_ne hd.2.1.2.2.2,List.getElem?_set_ne hd.1.2.2.2.2];exact ht)]
 refine bV [i,k,c,a,b,t] [i,k] 1 (Gq hC bs n hn hbl) hd ?_ ?_ ?_ rfl (.cons (by simp [XV.b7,XC.ok]) (.cons (by simp [XV.b7,XC.ok]) (.flat .nil))) (.cons rfl (.cons rfl (.flat .nil))) (bz.ok _) (bz.ay _) ?_ (MW ..) rfl hh' hbd (.inr fun j hjl hj=>?_)
 · exact ae.ed hi rfl rfl rfl (.flat hk (.cons hc (.flat ha (.flat hb (.flat ht .nil)))))
 · exact .cons (by simp [ak.b7,XC.ok,bc]) (.flat (.cons (by simp [ak.b7,XC.ok]) (.flat (.flat (.flat .nil)))))
 · exact .cons (by simp [ak.b7,XC.ok,bc]) (.flat (.cons (by simp [ak.b7,XC.ok]) (.flat (.flat (.flat (.flat .nil))))))
 · exact .cons (by simp only [ak.ay,List.map_cons,List.map_nil,XC.ay,aw];rfl) (.flat (.cons rfl (.flat (.flat (.flat (.flat .nil))))))
 · subst hh
   exact lZ _ _ _ _ hjl (by simpa using hj)
end Go.Proofs.YtagpkhindehcbaaGreat
namespace Go.Xm
open Go.ChangeShapes Go.WideShapes Go.ChangeAt Go.RowKit Go.Deep
variable [az]
def qf (w:World) (v:Value) (vs:List XC) (n:Nat):Prop:=
 (v = .slice none 0 0∧n=0∧vs = [])∨∃ b off cap:Nat,n≤cap∧v = .slice (some ⟨b,off,none⟩) n cap∧∀(j:Nat) (c:XC),vs[j]? = some c→∀ β : Env,w.cell? ⟨b,off+j,none⟩=some (c.den β)
theorem uA {P:Program} {w:World} {r:Reach} {b0:Nat} {t e:TypeId} {a:Addr} {len cap:Nat}(ht:P.underlying t=some (.slice e)) (h:Cell.okWide P w r b0 t (.slice (some a) len cap)):a.spot=none:=by
 unfold Cell.okWide at h
 rw [ht]at h
 have hck:Cell.ok P w r b0 t (.slice (some a) len cap):=h
 unfold Cell.ok at hck
 rw [ht]at hck
 exact hck.2.2.2.1
theorem vC {a:Addr}(h:a.spot=none) (n:Nat):a.add n=⟨a.block,a.off+n,none⟩:=by
 obtain⟨b,o,s⟩:=a
 simp only at h
 subst h
 exact Addr.gT b o n
def numOf:Option Value→Int
 | some (.int _ z)=>z
 | _=>0
theorem NS {H:Type} {enc:TypeId × Value→H} {P:Program} {w:World} {r:Reach} {base b0:Nat} {spare:Nat→Bool} {held:Bool} {t e:TypeId} {k:IntKind}(ht:P.underlying t=some (.slice e)) (he:P.underlying e=some (.int k)) (hC:P.cellsOf e=1) {v:Value}(hcell:Cell.okWide P w r b0 t v) {fuel:Nat} {x:DataW H × List MemPlace}(hf:DataW.trod enc P w base spare held fuel t [v]=some x) :
 ∃ l:List Int,(∀ z∈l,(Lit.int k z).wf=true)∧l.length≤9223372036854775807∧qf w v (il k l) l.length:=by
 rcases open_slice1 ht hC hf with⟨hcs,_⟩|⟨a,len,cap,m,n,V,D,Pl,hcs,_,hlc,hcm,hm,_,hall⟩
 · simp only [List.cons.injEq,and_true]at hcs
   exact⟨[],by simp,by simp,.inl ⟨hcs,rfl,rfl⟩⟩
 · simp only [List.cons.injEq,and_true]at hcs
   subst hcs
   have hspot:=uA ht hcell
   have hlm:len≤m:=by rw [hm];split <;> omega
   have hV:∀ i,i<len→w.cell? ⟨a.block,a.off+i,none⟩=some (.int k (numOf (some (V i))))∧(Lit.int k (numOf (some (V i)))).wf=true:=fun i hi=>by
    obtain⟨h1,h2⟩:=hall i (by omega)
    rw [vC hspot]at h1
    obtain⟨z,hz,_,hwf⟩:=DataW.trod_int he h2
    simp only [List.cons.injEq,and_true]at hz
    rw [h1,hz]
    exact⟨rfl,hwf⟩
   refine⟨(List.range len).map fun i=>numOf (some (V i)),fun z hz=>?_,?_,.inr ⟨a.block,a.off,cap,by simpa using hlc,?_,fun j c hj β=>?_⟩⟩
   · obtain⟨i,hi,rfl⟩:=List.mem_map.1 hz
     exact(hV i (List.mem_range.1 hi)).2
   · unfold maxLen at hcm
     simp only [List.length_map,List.length_range]
     omega
   · simp only [List.length_map,List.length_range]
     obtain⟨b,o,s⟩:=a
     simp only at hspot
     subst hspot
     rfl
   · have hjl:j<len:=by
      have:=(List.getElem?_eq_some_iff.1 hj).1
      simpa [il]using this
     simp only [il,List.map_map,List.getElem?_map,List.getElem?_range hjl,Option.map_some,Option.some.injEq]at hj
     subst hj
     exact(hV j hjl).1
theorem MN {W:World} {v:Value} {vs:List XC} {n:Nat}(hs:vs.all XC.shut=true) (h0:n=0→vs = []) (i:Nat) (h:qf W v vs n) :
 ∃(c:XC) (o:ak) (b lo sz:Nat),Jw c i n∧eX c i 0 n∧(0<vs.length→∃ e,o = .cells vs e true true)∧cI o∧o.own=false∧(∀ β m,f4 β m lo sz o W.heap[b]?)∧∀(β : Env) m,i<m → β.c9 i=b → β.base i=lo→aQ β m (.one c) v:=by
 have hok:∀ m,∀ c∈vs,c.ok m:=fun m c hc=>XC.bQ (List.all_eq_true.1 hs c hc) m
 rcases h with⟨rfl,rfl,rfl⟩|⟨b,off,cap,hle,rfl,hc⟩
 · exact⟨.nils,.dead,0,0,0,.inl ⟨rfl,rfl⟩,.nil,fun h=>absurd h (by simp),inferInstance,rfl,fun _ _=>trivial,fun β n _ _ _=>⟨trivial,rfl⟩⟩
 · by_cases hl:0<vs.length
   · obtain⟨e,sz,hr⟩:=EF (β:=Env.zero) (n:=0) (W:=W) (b:=b) (lo:=off) (vs:=vs) hl (fun j c hj=>hc j c hj _) (hok 0)
     refine⟨.slice i 0 n (.exact cap),.cells vs e true true,b,off,sz,.inr ⟨cap,rfl⟩,.mk hle,fun _=>⟨e,rfl⟩,iP hs,rfl,fun β m=>?_,fun β m hi hb hlo=>⟨hi,?_⟩⟩
     · obtain⟨cs,fr,g1,g2,g3,g4,g5,g6⟩:=hr
       exact⟨cs,fr,g1,g2,g3,g4,hok m,g6.trans (List.map_congr_left fun c hm=>XC.jD (List.all_eq_true.1 hs c hm) _ _)⟩
     · simp only [XC.den,hb,hlo,Nat.add_zero]
   · refine⟨.slice i 0 n (.exact cap),.dead,b,off,0,.inr ⟨cap,rfl⟩,.mk hle,fun h=>absurd h hl,inferInstance,rfl,fun _ _=>trivial,fun β m hi hb hlo=>⟨hi,?_⟩⟩
     simp only [XC.den,hb,hlo,Nat.add_zero]
theorem RO.in {o:ak} {k:IntKind} {l:List Int}(h:0<(il k l).length→∃ e,o = .cells (il k l) e true true) (hf:cI o):RO o k l:=
 ⟨fun hl=>by obtain⟨e,he⟩:=h (by rw [eG];exact hl);exact⟨e,true,true,he⟩,hf⟩
theorem jH {l:List Int} {p:Int→Prop}(h0:p 0) (h:∀ z∈l,p z) (i:Nat):p (l.getD i 0):=by
 rw [List.getD_eq_getElem?_getD]
 cases hi:l[i]? with
 | none=>exact h0
 | some z=>exact h z (List.mem_of_getElem? hi)
section
variable {H:Type} {enc:TypeId × Value→H} {P:Program} {w:World} {base:Nat} {spare:Nat→Bool} {held:Bool}
end
theorem y5 {α : Type}(f : α→List XC) (s:Nat) (hs:0<s):∀(l:List α),(∀ a∈l,(f a).length=s)→∀ j,(l.flatMap f)[j]? = (l[j/s]?).bind fun a=>(f a)[j%s]?
 | [],_,j=>by simp
 | x :: l,hl,j=>by
   have hx:=hl x (List.mem_cons_self ..)
   rw [List.flatMap_cons]
   by_cases hj:j<s
   · rw [List.getElem?_append_left (by omega),Nat.div_eq_of_lt hj,Nat.mod_eq_of_lt hj]
     rfl
   · rw [List.getElem?_append_right (by omega),y5 f s hs l (fun b hb=>hl b (List.mem_cons_of_mem _ hb)),hx]
     obtain⟨q,rfl⟩:∃ q,j=q+s:=⟨j-s,by omega⟩
     rw [Nat.add_sub_cancel,Nat.add_div_right _ hs,Nat.add_mod_right]
     rfl
theorem sN.in {α : Type} {enc : α→List XC} {s:Nat} [hE:ry enc s] {o:ak} {l:List α}(h:0<(fl enc l).length→∃ e,o = .cells (fl enc l) e true true) (hf:cI o):sN o enc l:=
 ⟨fun hl=>by
  have hp:=hE.pos
  obtain⟨e,he⟩:=h (by rw [tO];exact Nat.mul_pos hl hp)
  exact⟨e,true,true,he⟩,hf⟩
theorem J2 {α : Type} {enc : α→List XC} {l:List α}:l.length=0→fl enc l = []:=fun h=>by rw [List.length_eq_zero_iff.1 h];rfl
end Go.Xm
namespace Go.Xm
variable [az]
theorem A1 {P:Program} {f:FuncId} {args:List XV} {v1 v:XV} {hs1 hs2:aj}(hc:bn P f args [] v1 hs1) (τl:List Nat) (hv:v1=v.ay (nth τl)) (hok:v.b7 hs2.length) (nd:Nd τl hs2) (ho:ae (nth τl) hs1 τl hs2) (hk:bl hs2.length hs2) (hb:Nat.blt hs2.length Mem.bound=true):bn P f args [] v hs2:=by
 intro m hm β w vs hall hw
 refine(hc m hm β w vs hall hw).mono fun e w' ⟨u,β',m1,he,hm1,hu,hst⟩=>?_
 have hbd:hs2.length<Mem.bound:=by simpa [Nat.blt_eq]using hb
 have hm2:=iA hs2 hbd
 have nm:=hm.n
 have n2:=hm2.n
 simp only [List.length_nil]at nm
 let β2:Env:=⟨fun i => β'.c9 (nth τl i),fun i => β'.base (nth τl i),fun i => β'.size (nth τl i)⟩
 have hvia:AM β2 β' (nth τl) hs2.length:=fun i _=>⟨rfl,rfl,rfl⟩
 have hview:=ho.view nd hk
 subst hv
 refine⟨u,β2,lV hs2,he,hm2,by rw [n2];exact hu.wC hvia hok,⟨by omega,fun i hi=>by omega,hst.rel.view hm1 hm2 hview hvia,hst.os,hst.tape,hst.output,hst.size,hst.frame,fun k hk hi=>hst.vn k hk (Rel.xW hm1 hm2 hview hvia hi)⟩⟩
end Go.Xm
namespace Go.Proofs.YtagpkhindehcbaaGreat
open Go.Xm
def cM:Cd:=⟨[2,1,3,4,4],[2,0,6,14,15],[-2,1,-1,2,-3,3,-4,-5]⟩
def cZ:Cd:=⟨[3,2,2,3,3,4,5,6,7,8,9,10,10],[4,0,1,5,6,14,30,62,126,254,510,1022,1023],[1,2,-2,-3,3,4,-1,-4,-5,5,-6,6,-7,7,-8,8,-9,9,-10,10,-11,11,-12,-13]⟩
def cP:Cd:=⟨[3,4,4,4,4,4,5,4,4,5,4,4,4,5,5,3],[0,4,5,6,7,8,28,9,10,29,11,12,13,30,31,1],[1,6,2,3,-1,-16,4,5,-2,-3,-4,-5,7,10,8,9,-6,-8,-9,-11,11,12,-12,-13,13,14,-7,-10,-14,-15]⟩
theorem yO:u_ cM:=xf (by decide)
theorem yP:u_ cZ:=xf (by decide)
theorem Cz:u_ cP:=xf (by decide)
abbrev bM (a b c:Nat):ak := .cells [.ptr a 0,.ptr b 0,.ptr c 0] 86 false false
abbrev Gl:aj:=[bM 1 5 9,ax 2 3 4 cM,aU cM,aW cM,aV cM,ax 6 7 8 cZ,aU cZ,aW cZ,aV cZ,ax 10 11 12 cP,aU cP,aW cP,aV cP]
noncomputable def Ho:Option (XV × Mem):=(pI vY Tryz.prog 100000 60).call 10 [] Mem.empty
abbrev xh:List Nat:=[74,5,2,3,11,17,14,15,39,45,42,43,73]
theorem Es:Ho.map (fun p=>(p.1,p.2.n,xh.map p.2.get))=some (.one (.ptr 74 0),75,Gl.map (·.ay (nth xh))):=by kernel_rfl
variable [az]
theorem Km:bn Tryz.prog 10 [] [] (.one (.ptr 0 0)) Gl:=by
 obtain⟨⟨v,m⟩,h1,h2⟩:=Option.map_eq_some_iff.1 Es
 simp only [Prod.mk.injEq]at h2
 obtain⟨rfl,h3,h4⟩:=h2
 have hc:=A0 (jK Tryz.prog) mixed (v := .one (.ptr 74 0)) (hs':=pR m) (f:=10) (args:=[]) (F:=100000) (k:=60) (by
  show Ho.map _=_
  rw [h1];rfl)
 have hg:∀ i,i<75→(pR m)[i]? = some (m.get i):=fun i hi=>by
  unfold pR
  rw [h3]
  simp [hi]
 simp only [List.map_cons,List.map_nil,List.cons.injEq]at h4
 obtain⟨g0,g1,g2,g3,g4,g5,g6,g7,g8,g9,g10,g11,g12,_⟩:=h4
 refine A1 hc xh rfl (by simp [XV.b7,XC.ok]) (Or.inl (by decide)) ?_ ?_ rfl
 · refine .cons (by rw [hg _ (by decide),g0]) (.cons (by rw [hg _ (by decide),g1]) (.cons (by rw [hg _ (by decide),g2]) (.cons (by rw [hg _ (by decide),g3]) (.cons (by rw [hg _ (by decide),g4]) (.cons (by rw [hg _ (by decide),g5]) (.cons (by rw [hg _ (by decide),g6]) (.cons (by rw [hg _ (by decide),g7]) (.cons (by rw [hg _ (by decide),g8]) (.cons (by rw [hg _ (by decide),g9]) (.cons (by rw [hg _ (by decide),g10]) (.cons (by rw [hg _ (by decide),g11]) (.cons (by rw [hg _ (by decide),g12]) .nil))))))))))))
 · refine .cons (by simp [ak.b7,XC.ok]) (.cons (by simp [ak.b7,XC.ok]) (.flat (.flat (.flat (.cons (by simp [ak.b7,XC.ok]) (.flat (.flat (.flat (.cons (by simp [ak.b7,XC.ok]) (.flat (.flat (.flat .nil))))))))))))
end Go.Proofs.YtagpkhindehcbaaGreat
namespace Go.Proofs.YtagpkhindehcbaaGreat
open Go.Xm
variable [az]
def stepOf (q:Int):Int:=64*max 2 (min (max q 1) 31/2)
theorem m9 (q:Int):128≤stepOf q∧stepOf q≤960:=by unfold stepOf;omega
theorem um (q:Int):bn Tryz.prog 111 [.one (.int .i64 q)] [] (.one (.int .i64 (stepOf q))) []:=by
 refine cO Tryz.func111 ?_
 repeat' (first|refine zz ?_|refine zx (fun _=>?_) (fun _=>?_)|fail)
 refine lQ (.inr rfl) (fun m hm=>rfl) ?_ rfl
 rfl
def dm (n q:Int):Int:=min ((max n 0+stepOf q/2)/stepOf q) 127
theorem dA (n q:Int) (hn : -100000000≤n∧n≤100000000):bn Tryz.prog 99 [.one (.int .i64 n),.one (.int .i64 q)] [] (.one (.int .i64 (dm n q))) []:=by
 have hs:=m9 q
 refine cO Tryz.func99 ?_
 repeat' (first
  |(refine qz ?_;first
   |refine aD (aA (um _) rfl rfl rfl) rfl rfl rfl rfl rfl rfl (by kernel_rfl) rfl ?_)
  |refine zz ?_|refine zx (fun _=>?_) (fun _=>?_)|fail)
 refine lQ (.inr rfl) (fun m hm=>rfl) ?_ rfl
 rfl
def gA (n q:Int):Int:=min (max n 0) 127*stepOf q
theorem pn (n q:Int):0≤gA n q∧gA n q≤121920:=by
 have h1:=m9 q
 have h2:0≤min (max n 0) 127∧min (max n 0) 127≤127:=by omega
 unfold gA
 exact⟨Int.mul_nonneg h2.1 (by omega),by
  have:=Int.mul_le_mul h2.2 h1.2 (by omega) (by omega:(0:Int)≤127)
  omega⟩
theorem vj (n q:Int):bn Tryz.prog 112 [.one (.int .i64 n),.one (.int .i64 q)] [] (.one (.int .i64 (gA n q))) []:=by
 have hs:=m9 q
 have hb:=pn n q
 unfold gA at hb
 refine cO Tryz.func112 ?_
 repeat' (first
  |(refine qz ?_;first
   |refine aD (aA (um _) rfl rfl rfl) rfl rfl rfl rfl rfl rfl (by kernel_rfl) rfl ?_)
  |refine zz ?_|refine zx (fun _=>?_) (fun _=>?_)|fail)
 refine lQ (.inr rfl) (fun m hm=>rfl) ?_ rfl
 rfl
theorem jA (a b:Int) (ha : -1000000≤a∧a≤1000000) (hb : -1000000≤b∧b≤1000000):bn Tryz.prog 103 [.one (.int .i64 a),.one (.int .i64 b)] [] (.one (.int .i64 (max (a-b) (b-a)))) []:=by
 refine cO Tryz.func103 ?_
 repeat' (first|refine zz ?_|refine zx (fun _=>?_) (fun _=>?_)|fail)
 refine lQ (.inr rfl) (fun m hm=>rfl) ?_ rfl
 rfl
structure Kn where
 lv:Nat→Int
 qp:Int
def dB (b:Kn):List XC:=ti .i64 64 b.lv++[.int .i64 b.qp]
theorem tR (b:Kn):(dB b)[64]? = some (.int .i64 b.qp):=by
 unfold dB
 rw [List.getElem?_append_right (by rw [aF];omega),aF];rfl
theorem zd (b:Kn) (j:Nat) (h:j<64):(dB b)[j]? = some (.int .i64 (b.lv j)):=by
 unfold dB
 rw [List.getElem?_append_left (by rw [aF];exact h),fg h]
theorem bp (b:Kn):(dB b).all XC.shut=true:=by
 simp [dB,ti,XC.shut]
theorem gh (b:Kn):bn Tryz.prog 102 [.agg (dB b)] [] (.one (.int .i64 (gA (b.lv 0) b.qp))) []:=by
 refine cO Tryz.func102 ?_
 repeat' (first
  |(refine qz ?_;first
   |refine aD (aA (vj _ _) rfl rfl rfl) rfl rfl rfl rfl rfl rfl (by kernel_rfl) rfl ?_
   |refine gC rfl rfl rfl rfl rfl rfl (tR _) ?_
   |refine gC rfl rfl rfl rfl rfl rfl (zd _ _ (by omega)) ?_)
  |refine zz ?_|refine zx (fun _=>?_) (fun _=>?_)|fail)
 refine lQ (.inr rfl) (fun m hm=>rfl) ?_ rfl
 rfl
def placeOf (cols mb k:Int):Int × Int × Int:=if k<4 then(0,2*(mb%cols)+k%2,2*(mb/cols)+k/2)else(k-3,mb%cols,mb/cols)
theorem zD {cols rows mb k:Int}(hc:1≤cols∧cols≤8) (hm:0≤mb∧mb<1000000) (hk:0≤k∧k<1000):0≤mb/cols∧mb/cols≤mb∧0≤mb%cols∧mb%cols<cols:=
 ⟨Int.ediv_nonneg hm.1 (by omega),Int.ediv_le_self _ hm.1,Int.emod_nonneg _ (by omega),Int.emod_lt_of_pos _ (by omega)⟩
end Go.Proofs.YtagpkhindehcbaaGreat
