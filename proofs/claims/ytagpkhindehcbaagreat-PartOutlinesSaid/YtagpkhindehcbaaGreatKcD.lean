/-
  A part of the proof: XmFast2, XmFast3, XmFast4, XmFast5, XmBridge, XwBase, XwStep, XwOps, XwCall, XwK, XvBase, XvCall.
-/
import Derived.Test.YtagpkhindehcbaaGreatKcC
import Derived.Below
import Derived.RowKit
set_option maxRecDepth 10000
set_option maxHeartbeats 8000000
set_option linter.unusedVariables false
set_option linter.unusedSectionVars false
set_option linter.unusedSimpArgs false
namespace Go.Xm
variable [az]
noncomputable section
variable {α : Type}
def KE (c:XC) (f:Bool → α) (d : α) : α := @XC.rec (fun _ => α) f (fun _ _=>d) (fun _ _=>d) (fun _ _ _=>d) (fun _=>d) d (fun _ _=>d) d (fun _ _ _ _=>d) d (fun _=>d) (fun _=>d) (fun _ _ _ _=>d) d d (fun _=>d) c
def N_ (c:XC) (f:IntKind→Int → α) (d : α) : α := @XC.rec (fun _ => α) (fun _=>d) f (fun _ _=>d) (fun _ _ _=>d) (fun _=>d) d (fun _ _=>d) d (fun _ _ _ _=>d) d (fun _=>d) (fun _=>d) (fun _ _ _ _=>d) d d (fun _=>d) c
def M3 (c:XC) (f:Nat→Nat → α) (d : α) : α := @XC.rec (fun _ => α) (fun _=>d) (fun _ _=>d) (fun _ _=>d) (fun _ _ _=>d) (fun _=>d) d f d (fun _ _ _ _=>d) d (fun _=>d) (fun _=>d) (fun _ _ _ _=>d) d d (fun _=>d) c
def OY (c:XC) (f:Nat→Nat→Nat→sL → α) (d : α) : α := @XC.rec (fun _ => α) (fun _=>d) (fun _ _=>d) (fun _ _=>d) (fun _ _ _=>d) (fun _=>d) d (fun _ _=>d) d f d (fun _=>d) (fun _=>d) (fun _ _ _ _=>d) d d (fun _=>d) c
def Ew (v:XV) (f:XC → α) (d : α) : α := @XV.rec (fun _ => α) d f (fun _=>d) (fun _=>d) v
def zv (v:XV) (f:Bool → α) (d : α) : α:=Ew v (fun c=>KE c f d) d
def Eu (v:XV) (f:IntKind→Int → α) (d : α) : α:=Ew v (fun c=>N_ c f d) d
def Ex (v:XV) (f:Nat→Nat → α) (d : α) : α:=Ew v (fun c=>M3 c f d) d
theorem ud (v:XV) (f:Bool → α) (d : α):(∃ b,v = .one (.bool b)∧zv v f d=f b)∨((∀ b,v ≠ .one (.bool b))∧zv v f d=d):=by
 cases v with
 | one c=>cases c <;> first
   | exact .inl ⟨_,rfl,rfl⟩
   | exact .inr ⟨by simp,rfl⟩
 | _=>exact .inr ⟨by simp,rfl⟩
theorem vW (v:XV) (f:IntKind→Int → α) (d : α):(∃ k n,v = .one (.int k n)∧Eu v f d=f k n)∨((∀ k n,v ≠ .one (.int k n))∧Eu v f d=d):=by
 cases v with
 | one c=>cases c <;> first
   | exact .inl ⟨_,_,rfl,rfl⟩
   | exact .inr ⟨by simp,rfl⟩
 | _=>exact .inr ⟨by simp,rfl⟩
theorem oR (v:XV) (f:Nat→Nat → α) (d : α):(∃ i o,v = .one (.ptr i o)∧Ex v f d=f i o)∨((∀ i o,v ≠ .one (.ptr i o))∧Ex v f d=d):=by
 cases v with
 | one c=>cases c <;> first
   | exact .inl ⟨_,_,rfl,rfl⟩
   | exact .inr ⟨by simp,rfl⟩
 | _=>exact .inr ⟨by simp,rfl⟩
def w6 (o:aj) (f:List XC→TypeId→Bool→Bool → α) (d : α) : α := @aj.rec (fun _ => α) d f (fun _=>d) o
def cG {γ : Type}(x:Option γ) (f : γ→Option α):Option α := @Option.rec γ (fun _=>Option α) .none f x
theorem cU {γ : Type}(x:Option γ) (f : γ→Option α):cG x f=x.bind f:=by cases x <;> rfl
def Mv (m:Mem) (i:Nat):EW:=sg EW.none m.t i
theorem CS (m:Mem) (i:Nat):Mv m i=m.fV i:=mn _ _ _
def EO (m:Mem) (i:Nat):aj:=(Mv m i).obj
theorem CW (m:Mem) (i:Nat):EO m i=m.get i:=by unfold EO Mem.get;rw [CS]
def Ku (m:Mem) (i:Nat) (o:aj):Mem:=iL (Nat.blt i m.n) (iL (Nat.blt i Mem.bound) ⟨m.n,po EW.none 31 m.t i ⟨Nat.add (Mv m i).ver 1,o⟩⟩ m) m
theorem Kv (m:Mem) (i:Nat) (o:aj):Ku m i o=m.put i o:=by
 unfold Ku Mem.put
 rw [eH,eH,mo,CS]
 cases Nat.blt i m.n <;> cases Nat.blt i Mem.bound <;> rfl
def Oj (k:IntKind):Nat := @IntKind.rec (fun _=>Nat) 0 1 2 3 4 5 6 7 k
def tk (k k':IntKind):Bool:=Nat.beq (Oj k) (Oj k')
theorem Jg (k k':IntKind):(tk k k'=true)=(k=k'):=by cases k <;> cases k' <;> simp [tk,Oj]
def OF (n:Int):Int := @Int.rec (fun _=>Int) (fun m=>iL (Nat.blt m 9223372036854775808) (Int.ofNat m) (IntKind.wrap .i64 (Int.ofNat m))) (fun m=>iL (Nat.blt m 9223372036854775808) (Int.negSucc m) (IntKind.wrap .i64 (Int.negSucc m))) n
def PJ (n:Int):Int := @Int.rec (fun _=>Int) (fun m=>Int.ofNat (Nat.mod m 256)) (fun m=>IntKind.wrap .u8 (Int.negSucc m)) n
def PK (n:Int):Int := @Int.rec (fun _=>Int) (fun m=>Int.ofNat (Nat.mod m 18446744073709551616)) (fun m=>IntKind.wrap .u64 (Int.negSucc m)) n
def Is (k:IntKind):Int→Int := @IntKind.rec (fun _=>Int→Int) (IntKind.wrap .i8) (IntKind.wrap .i16) (IntKind.wrap .i32) OF PJ (jb .u16) (jb .u32) PK k
theorem It (k:IntKind) (n:Int):Is k n=jb k n:=by
 cases k
 · exact(cI .i8 n).symm
 · exact(cI .i16 n).symm
 · exact(cI .i32 n).symm
 · cases n with
   | ofNat m=>show iL _ _ _=_;rw [eH];rfl
   | negSucc m=>show iL _ _ _=_;rw [eH];rfl
 · cases n <;> rfl
 · rfl
 · rfl
 · cases n <;> rfl
abbrev Ar:Type:=IntKind→IntKind→Int→Int→Option XC
def mu (op:BinOp):Ar:=fun k k' a b=>bO op k k' a b
def MS:Ar:=fun k k' a b=>iL (tk k k') (some (.int k (Is k (Mr a b)))) .none
def MZ:Ar:=fun k k' a b=>iL (tk k k') (some (.int k (Is k (MB a b)))) .none
def MX:Ar:=fun k k' a b=>iL (tk k k') (some (.bool (NO a b))) .none
def MV:Ar:=fun k k' a b=>iL (tk k k') (some (.bool (NO b a))) .none
def MW:Ar:=fun k k' a b=>iL (tk k k') (some (.bool (Bool.not (NO b a)))) .none
def MU:Ar:=fun k k' a b=>iL (tk k k') (some (.bool (Bool.not (NO a b)))) .none
def MT:Ar:=fun k k' a b=>iL (tk k k') (some (.bool (Mx a b))) .none
def MY:Ar:=fun k k' a b=>iL (tk k k') (some (.bool (Bool.not (Mx a b)))) .none
def ar (op:BinOp):Ar := @BinOp.rec (fun _=>Ar) MS MZ (mu .mul) (mu .quo) (mu .rem) (mu .and) (mu .or) (mu .xor) (mu .shl) (mu .shr) (mu .andNot) MT MY MX MW MV MU op
theorem M0 (op:BinOp) (k k':IntKind) (a b:Int):ar op k k' a b=bO op k k' a b:=by
 have h:∀ x:XC,iL (tk k k') (some x) .none=dN k k' (some x):=fun x=>by
  rw [eH,dN]
  simp only [Jg]
 cases op <;> first
  | rfl
  | (show iL _ _ _=_
     rw [h]
     simp only [bO,It,CQ,Kw,My,Kt])
 all_goals first
  | rfl
  | (congr 3;rw [←decide_not];congr 1;simp)
abbrev nu:Type:=df→Program→T XV→Mem→Option Out
def dS (op:Op):nu:=fun O P r m=>dT O P (ai (r.get .undef)) op m
def BN (x:Operand):nu:=fun _ _ r m=>some ⟨mr x r,m,false,.none⟩
def E9 (c a b:Operand):nu:=fun O P r m=>zv (mr c r) (fun t=>some ⟨@Bool.rec (fun _=>XV) (mr b r) (mr a r) t,m,false,.none⟩) (dS (.pick c a b) O P r m)
def K3 (op:BinOp) (t:TypeId) (x y:Operand) (t':TypeId):nu:=fun O P r m=>
 Eu (mr x r) (fun k a=>Eu (mr y r) (fun k' b => @Option.rec XC (fun _=>Option Out) (dS (.binOp op t x y t') O P r m) (fun c=>some ⟨.one c,m,false,.none⟩) (ar op k k' a b)) (dS (.binOp op t x y t') O P r m)) (dS (.binOp op t x y t') O P r m)
theorem iE {O:df} {P:Program} {ρ : Operand→XV} {op:Op} {m:Mem} {x:XV}(h:bj P ρ op=some x):dT O P ρ op m=some ⟨x,m,false,.none⟩:=by
 unfold dT dU;rw [h]
theorem E8 (x:Operand) (O:df) (P:Program) (r:T XV) (m:Mem):BN x O P r m=dT O P (ai (r.get .undef)) (.move x) m:=by
 rw [iE (x:=ai (r.get .undef) x) rfl]
 show some _=some _
 rw [fT]
theorem Ae (x:Operand) (O:df) (P:Program) (r:T XV) (m:Mem):BN x O P r m=dT O P (ai (r.get .undef)) (.assign x) m:=by
 rw [iE (x:=ai (r.get .undef) x) rfl]
 show some _=some _
 rw [fT]
theorem E_ (c a b:Operand) (O:df) (P:Program) (r:T XV) (m:Mem):E9 c a b O P r m=dT O P (ai (r.get .undef)) (.pick c a b) m:=by
 unfold E9
 rcases ud (mr c r) (fun t=>some (⟨@Bool.rec (fun _=>XV) (mr b r) (mr a r) t,m,false,.none⟩:Out)) (dS (.pick c a b) O P r m)with⟨t,h1,h2⟩|⟨h1,h2⟩
 · rw [h2]
   rw [fT]at h1
   rw [iE (x:=if t then ai (r.get .undef) a else ai (r.get .undef) b) (by simp only [bj,h1])]
   rw [fT,fT]
   cases t <;> rfl
 · rw [h2];rfl
theorem IF (op:BinOp) (t:TypeId) (x y:Operand) (t':TypeId) (O:df) (P:Program) (r:T XV) (m:Mem):K3 op t x y t' O P r m=dT O P (ai (r.get .undef)) (.binOp op t x y t') m:=by
 unfold K3
 rcases vW (mr x r) (fun k a=>Eu (mr y r) (fun k' b => @Option.rec XC (fun _=>Option Out) (dS (.binOp op t x y t') O P r m) (fun c=>some (⟨.one c,m,false,.none⟩:Out)) (ar op k k' a b)) (dS (.binOp op t x y t') O P r m)) (dS (.binOp op t x y t') O P r m)with⟨k,a,h1,h2⟩|⟨h1,h2⟩
 · rw [h2]
   rcases vW (mr y r) (fun k' b => @Option.rec XC (fun _=>Option Out) (dS (.binOp op t x y t') O P r m) (fun c=>some (⟨.one c,m,false,.none⟩:Out)) (ar op k k' a b)) (dS (.binOp op t x y t') O P r m)with⟨k',b,h3,h4⟩|⟨h3,h4⟩
   · rw [h4,M0]
     rw [fT]at h1 h3
     cases hb:bO op k k' a b with
     | some c=>rw [iE (x := .one c) (by simp only [bj,rz,h1,h3,hb,Option.map_some])]
     | none=>rfl
   · rw [h4];rfl
 · rw [h2];rfl
end
end Go.Xm
namespace Go.Xm
variable [az]
noncomputable section
def sJ (P:Program) (t:TypeId) (vs:List XC) (off:Nat):Option X1:=
 cG (i3 P t) fun b => @Bool.rec (fun _=>Option X1)
  (cG (zR vs off) fun c=>some (.one c))
  (cG (cy P t) fun s=>iL (Nat.ble (Nat.add off s) (ss vs)) (some (.agg (zW s (zQ off vs)))) .none) b
theorem By (P:Program) (t:TypeId) (vs:List XC) (off:Nat):sJ P t vs off=eR P t vs off:=by
 unfold sJ eR
 cases h:i3 P t with
 | none=>rfl
 | some b=>
   cases b
   · show cG (zR vs off) _=_
     rw [qP,cU]
     cases vs[off]? <;> rfl
   · show cG (cy P t) _=_
     cases cy P t with
     | none=>rfl
     | some s=>
       show iL _ _ _=_
       rw [eH,oX,uC,uy]
       simp only [Nat.ble_eq]
       rfl
def Kg (x:X1):XV := @X1.rec (fun _=>XV) .one .agg x
theorem CK (x:X1):Kg x=x.rr:=by cases x <;> rfl
def E6 (t:TypeId) (a:Operand):nu:=fun _ P r m=>
 Ex (mr a r) (fun i off=>w6 (EO m i) (fun vs _ _ _=>cG (sJ P t vs off) fun x=>some ⟨Kg x,m,false,some i⟩) .none) .none
theorem E7 (t:TypeId) (a:Operand) (O:df) (P:Program) (r:T XV) (m:Mem):E6 t a O P r m=dT O P (ai (r.get .undef)) (.load t a) m:=by
 unfold E6
 rcases oR (mr a r) (fun i off=>w6 (EO m i) (fun vs _ _ _=>cG (sJ P t vs off) fun x=>some (⟨Kg x,m,false,some i⟩:Out)) .none) .none with⟨i,off,h1,h2⟩|⟨h1,h2⟩
 · rw [h2]
   rw [fT]at h1
   simp only [dT,dU,o4,bj,fG,h1]
   rw [CW]
   cases hg:m.get i with
   | dead=>rfl
   | map es=>rfl
   | cells vs e opn ro=>
     show cG _ _=_
     rw [By,cU]
     cases hq:eR P t vs off with
     | none=>simp only [hq,Option.map_none,Option.bind_none]
     | some x=>simp only [hq,Option.map_some,Option.bind_some,CK]
 · rw [h2]
   rw [fT]at h1
   have hn:fG P (ai (r.get .undef)) (.load t a) = .none:=by
    simp only [fG]
   simp only [dT,dU,o4,bj,hn,cw,c_]
def Bf (v:XV) (f:List XC→Option Out):Option Out := @XV.rec (fun _=>Option Out) .none (fun c=>f [c]) f (fun _ => .none) v
theorem Et (v:XV) (f:List XC→Option Out):Bf v f=cG (db v) f:=by cases v <;> rfl
def xP (vs:List XC) (off:Nat) (cs:List XC):List XC:=
 @List.rec XC (fun _=>List XC) vs (fun c t _ => @List.rec XC (fun _=>List XC) (CU vs off c) (fun _ _ _=>EL (zW off vs) (EL cs (zQ (Nat.add off (ss cs)) vs))) t) cs
theorem BB (vs:List XC) (off:Nat) (cs:List XC) (h:off+cs.length≤vs.length):xP vs off cs=vs.take off++cs++vs.drop (off+cs.length):=by
 cases cs with
 | nil=>show vs=_;simp
 | cons c t=>
   cases t with
   | nil=>
     show CU vs off c=_
     rw [zT]
     simp only [List.length_cons,List.length_nil]at h ⊢
     rw [List.set_eq_take_append_cons_drop,if_pos (by omega)]
     simp
   | cons c' t=>
     show EL (zW off vs) (EL (c::c'::t) (zQ (Nat.add off (ss (c::c'::t))) vs))=_
     rw [xL,xL,uC,uy,oX,List.append_assoc]
     rfl
def Ag (t:TypeId) (a x:Operand):nu:=fun _ P r m=>
 Ex (mr a r) (fun i off=>Bf (mr x r) fun cs=>cG (cy P t) fun s=>iL (Nat.beq (ss cs) s)
  (w6 (EO m i) (fun vs e opn ro => @Bool.rec (fun _=>Option Out)
    (iL (Nat.ble (Nat.add off (ss cs)) (ss vs)) (some ⟨.tup [],Ku m i (.cells (xP vs off cs) e opn false),true,.none⟩) .none) .none ro) .none) .none) .none
theorem C0 (t : TypeId) (a x:Operand) (O:df) (P:Program) (r:T XV) (m:Mem):Ag t a x O P r m=dT O P (ai (r.get .undef)) (.store t a x) m:=by
 have hx:dT O P (ai (r.get .undef)) (.store t a x) m=(kO P t (ai (r.get .undef) a) (ai (r.get .undef) x) m).bind fun p=>some ⟨p.1,p.2,true,.none⟩:=by
  simp only [dT,dU,o4,bj,fG,cw,c_]
  cases kO P t (ai (r.get .undef) a) (ai (r.get .undef) x) m with
  | none=>rfl
  | some p=>rfl
 rw [hx]
 unfold Ag
 rw [←fT a,←fT x]
 rcases oR (mr a r) (fun i off=>Bf (mr x r) fun cs=>cG (cy P t) fun s=>iL (Nat.beq (ss cs) s)
  (w6 (EO m i) (fun vs e opn ro => @Bool.rec (fun _=>Option Out)
    (iL (Nat.ble (Nat.add off (ss cs)) (ss vs)) (some ⟨.tup [],Ku m i (.cells (xP vs off cs) e opn false),true,.none⟩) .none) .none ro) .none) .none) .none with⟨i,off,h1,h2⟩|⟨h1,h2⟩
 · rw [h2, h1, Et,cU]
   unfold kO
   cases hc:db (mr x r)with
   | none=>rfl
   | some cs =>
     show cG (cy P t) _=_
     cases hs:cy P t with
     | none=>rfl
     | some s =>
       show iL _ _ _=_
       rw [eH,oX]
       simp only [Nat.beq_eq]
       by_cases hl:cs.length=s
       · rw [if_pos hl,if_pos hl,CW]
         cases hg:m.get i with
         | dead=>rfl
         | map es=>rfl
         | cells vs e opn ro=>
           cases ro
           · show iL _ _ _=_
             rw [eH,oX]
             simp only [Nat.ble_eq]
             by_cases hf:off+cs.length≤vs.length
             · rw [if_pos hf,if_pos (show Nat.add off cs.length≤vs.length from hf)]
               rw [BB vs off cs hf,Kv]
               rfl
             · rw [if_neg hf,if_neg (show¬Nat.add off cs.length≤vs.length from hf)]
               rfl
           · rfl
       · rw [if_neg hl,if_neg hl];rfl
 · rw [h2]
   have:kO P t (mr a r) (mr x r) m = .none:=by
    unfold kO
    split
    · rename_i i off cs s h _ _;exact absurd h (h1 i off)
    · rfl
   rw [this];rfl
def Mi (P:Program) (t:TypeId):Option (Nat × Nat):=match P.underlying t with
 | some (.array len e)=>match cy P e with
   | some s=>some (len,s)
   | .none => .none
 | _ => .none
def OD (P:Program) (t:TypeId):Option Nat:=match P.underlying t with
 | some (.slice e)=>cy P e
 | _ => .none
def A_ (P:Program) (s:TypeId) (f:Nat):Option Nat:=match jM P s f with
 | some fd=>match cy P fd.type with
   | some (_+1)=>some fd.offset
   | _ => .none
 | .none => .none
def Om (j:Int) (n:Nat) (f:Nat→Option Out):Option Out := @Int.rec (fun _=>Option Out) (fun k=>iL (Nat.blt k n) (f k) .none) (fun _ => .none) j
theorem F1 (j:Int) (n:Nat) (f:Nat→Option Out):Om j n f=if 0≤j∧j<n then f j.toNat else .none:=by
 cases j with
 | ofNat k=>
   show iL (Nat.blt k n) (f k) .none=_
   rw [eH]
   simp only [Nat.blt_eq]
   by_cases h:k<n
   · rw [if_pos h,if_pos ⟨Int.natCast_nonneg k,by exact Int.ofNat_lt.2 h⟩];rfl
   · rw [if_neg h,if_neg (fun h'=>h (Int.ofNat_lt.1 h'.2))]
 | negSucc k=>
   show Option.none=_
   rw [if_neg (by omega)]
def pw (t:TypeId) (x ix:Operand):nu:=fun _ P r m=>
 Eu (mr ix r) (fun _ j=>Ew (mr x r) (fun c=>
  M3 c (fun i o=>cG (Mi P t) fun p=>Om j p.1 fun k=>some ⟨.one (.ptr i (Nat.add o (Nat.mul k p.2))),m,false,.none⟩)
   (OY c (fun i o len _=>cG (OD P t) fun s=>Om j len fun k=>some ⟨.one (.ptr i (Nat.add o (Nat.mul k s))),m,false,.none⟩) .none)) .none) .none
theorem EG {O:df} {P:Program} {ρ : Operand→XV} {t:TypeId} {x i:Operand} {m:Mem}(h:cC P t (ρ x) (ρ i) = .none):dT O P ρ (.indexAddr t x i) m = .none:=by
 simp only [dT,dU,o4,bj,h,fG,cw,c_]
theorem uK (t : TypeId) (x ix:Operand) (O:df) (P:Program) (r:T XV) (m:Mem):pw t x ix O P r m=dT O P (ai (r.get .undef)) (.indexAddr t x ix) m:=by
 have hx:dT O P (ai (r.get .undef)) (.indexAddr t x ix) m=(cC P t (ai (r.get .undef) x) (ai (r.get .undef) ix)).bind fun v=>some ⟨v,m,false,.none⟩:=by
  cases h:cC P t (ai (r.get .undef) x) (ai (r.get .undef) ix)with
  | none=>exact EG h
  | some v=>exact iE h
 rw [hx]
 unfold pw
 rw [←fT x,←fT ix]
 generalize mr x r=vx
 generalize mr ix r=vi
 cases vi with
 | one ci =>
   cases ci with
   | int k j =>
     show Ew vx _ _=_
     cases vx with
     | one c =>
       cases c with
       | ptr i o =>
         show cG (Mi P t) _=_
         rw [cU]
         unfold Mi cC
         cases hu:P.underlying t with
         | none=>rfl
         | some d =>
           cases d <;> first
            | rfl
            | (rename_i len e
               cases hs:cy P e with
               | none=>
                 simp only [hs]
                 split <;> rfl
               | some s=>
                 simp only [hs,Option.bind_some,F1]
                 split <;> rfl)
       | slice i o len cap=>
         show cG (OD P t) _=_
         rw [cU]
         unfold OD cC
         cases hu:P.underlying t with
         | none=>rfl
         | some d =>
           cases d <;> first
            | rfl
            | (rename_i e
               cases hs:cy P e with
               | none=>
                 simp only [hs]
                 split <;> rfl
               | some s=>
                 simp only [hs,Option.bind_some,F1]
                 split <;> rfl)
       | _=>
         show Option.none=_
         unfold cC
         cases hu:P.underlying t with
         | none=>rfl
         | some d=>cases d <;> rfl
     | _=>
       show Option.none=_
       unfold cC
       cases hu:P.underlying t with
       | none=>rfl
       | some d=>cases d <;> rfl
   | _=>
     show Option.none=_
     unfold cC
     cases hu:P.underlying t with
     | none=>rfl
     | some d=>cases d <;> (cases vx <;> first|rfl|(rename_i c;cases c <;> rfl))
 | _=>
   show Option.none=_
   unfold cC
   cases hu:P.underlying t with
   | none=>rfl
   | some d=>cases d <;> (cases vx <;> first|rfl|(rename_i c;cases c <;> rfl))
def pv (s:TypeId) (x:Operand) (f:Nat):nu:=fun _ P r m=>
 Ex (mr x r) (fun i o=>cG (A_ P s f) fun k=>some ⟨.one (.ptr i (Nat.add o k)),m,false,.none⟩) .none
theorem uJ (s:TypeId) (x:Operand) (f:Nat) (O:df) (P:Program) (r:T XV) (m:Mem):pv s x f O P r m=dT O P (ai (r.get .undef)) (.fieldAddr s x f) m:=by
 have hx:dT O P (ai (r.get .undef)) (.fieldAddr s x f) m=(fw P s (ai (r.get .undef) x) f).bind fun v=>some ⟨v,m,false,.none⟩:=by
  cases h:fw P s (ai (r.get .undef) x) f with
  | none=>simp only [dT,dU,o4,bj,h,fG,cw,c_];rfl
  | some v=>exact iE h
 rw [hx]
 unfold pv
 rw [←fT x]
 rcases oR (mr x r) (fun i o=>cG (A_ P s f) fun k=>some (⟨.one (.ptr i (Nat.add o k)),m,false,.none⟩:Out)) .none with⟨i,o,h1,h2⟩|⟨h1,h2⟩
 · rw [h2,h1,cU]
   unfold A_ fw
   cases jM P s f with
   | none=>rfl
   | some fd=>
     simp only []
     split
     · rename_i k hk
       rw [hk];rfl
     · rename_i hk
       split
       · rename_i k hk';exact(hk _ hk').elim
       · rfl
 · rw [h2]
   have:fw P s (mr x r) f = .none:=by
    unfold fw
    split
    · rename_i fd i o h hh;exact absurd hh (h1 i o)
    · rfl
   rw [this];rfl
def sT (x:Operand) (i:Nat):nu:=fun _ _ r m=>
 @XV.rec (fun _=>Option Out) .none (fun _ => .none) (fun _ => .none) (fun vs=>cG (zR vs i) fun y=>some ⟨Kg y,m,false,.none⟩) (mr x r)
theorem x7 (x:Operand) (i:Nat) (O:df) (P:Program) (r:T XV) (m:Mem):sT x i O P r m=dT O P (ai (r.get .undef)) (.extract x i) m:=by
 have hx:dT O P (ai (r.get .undef)) (.extract x i) m=(jL (ai (r.get .undef) x) i).bind fun v=>some ⟨v,m,false,.none⟩:=by
  cases h:jL (ai (r.get .undef) x) i with
  | none=>simp only [dT,dU,o4,bj,h,fG,cw,c_];rfl
  | some v=>exact iE h
 rw [hx]
 unfold sT
 rw [←fT x]
 cases mr x r with
 | tup vs=>
   show cG (zR vs i) _=_
   rw [cU,qP]
   unfold jL
   cases hq:vs[i]? with
   | none=>simp only [hq,Option.map_none,Option.bind_none]
   | some y=>simp only [hq,Option.map_some,Option.bind_some,CK]
 | _=>rfl
def Bz (l:List Operand) (r:T XV) (tl:List XV):List XV := @List.rec Operand (fun _=>List XV) tl (fun x _ ih=>mr x r::ih) l
theorem wh (r:T XV) (tl:List XV):∀ l:List Operand,Bz l r tl=l.map (ai (r.get .undef))++tl
 | []=>rfl
 | x::l=>by show mr x r::Bz l r tl=_;rw [wh r tl l,fT];rfl
def E4 (g:Operand) (args:Array Operand) (_:Array TypeId):nu:=fun O P r m=>
 Ew (mr g r) (fun c=>cG (xU c) fun p=>iL (fe P p.1) (cG (O.call p.1 (Bz args.toList r (p.2.map .one)) m) fun q=>some ⟨q.1,q.2,true,.none⟩) .none) .none
theorem E5 (g:Operand) (args:Array Operand) (ts:Array TypeId) (O:df) (P:Program) (r:T XV) (m:Mem):E4 g args ts O P r m=dT O P (ai (r.get .undef)) (.call ⟨.value g,args,ts⟩) m:=by
 have hx:dT O P (ai (r.get .undef)) (.call ⟨.value g,args,ts⟩) m=(c_ O P (ai (r.get .undef)) (.call ⟨.value g,args,ts⟩) m).bind fun p=>some ⟨p.1,p.2,true,.none⟩:=by
  simp only [dT,dU,o4,bj,fG,cw]
  cases c_ O P (ai (r.get .undef)) (.call ⟨.value g,args,ts⟩) m <;> rfl
 rw [hx]
 unfold E4
 simp only [c_]
 rw [←fT g]
 cases mr g r with
 | one c=>
   show cG (xU c) _=_
   rw [cU]
   simp only []
   cases xU c with
   | none=>rfl
   | some p=>
     obtain⟨f,caps⟩:=p
     show iL _ _ _=_
     rw [eH,cU,wh]
     simp only []
     by_cases hc:fe P f=true
     · rw [if_pos hc,if_pos hc]
     · rw [if_neg hc,if_neg hc];rfl
 | _=>rfl
end
end Go.Xm
namespace Go.Xm
variable [az]
noncomputable section
def qS (x:Operand):nu:=fun O P r m=>Ex (mr x r) (fun i o=>some ⟨.one (.ptr i o),m,false,.none⟩) (dS (.nilCheck x) O P r m)
theorem wt (x:Operand) (O:df) (P:Program) (r:T XV) (m:Mem):qS x O P r m=dT O P (ai (r.get .undef)) (.nilCheck x) m:=by
 unfold qS
 rcases oR (mr x r) (fun i o=>some (⟨.one (.ptr i o),m,false,.none⟩:Out)) (dS (.nilCheck x) O P r m)with⟨i,o,h1,h2⟩|⟨h1,h2⟩
 · rw [h2]
   rw [fT]at h1
   rw [iE (x := .one (.ptr i o)) (by simp only [bj,mj,h1])]
 · rw [h2];rfl
def IG (c:Callee):Array Operand→Array TypeId→nu:=
 @Callee.rec (fun _=>Array Operand→Array TypeId→nu) E4 (fun rv nm args ts=>dS (.call ⟨.invoke rv nm,args,ts⟩)) (fun b args ts=>dS (.call ⟨.builtin b,args,ts⟩)) c
def BM (c:Call):nu := @Call.rec (fun _=>nu) IG c
theorem Af (c:Call) (O:df) (P:Program) (r:T XV) (m:Mem):BM c O P r m=dT O P (ai (r.get .undef)) (.call c) m:=by
 obtain⟨f,args,ts⟩:=c
 cases f with
 | value g=>exact E5 g args ts O P r m
 | invoke rv nm=>rfl
 | builtin b=>rfl
def Mq (op:Op):nu:=
 @Op.rec (fun _=>nu) BN BN E9 (fun a=>dS (.alloc a)) (fun a b=>dS (.box a b)) (fun a b=>dS (.build a b)) (fun a b c=>dS (.buildSlice a b c)) (fun a b c d=>dS (.insert a b c d)) E6 Ag
  (fun a=>dS (.ready a)) (fun a=>dS (.waits a)) qS K3 (fun a b c=>dS (.unOp a b c)) (fun a b c=>dS (.convert a b c)) (fun a b=>dS (.sliceToArrayPointer a b)) (fun a b=>dS (.makeInterface a b))
  (fun a b c=>dS (.makeFunc a b c)) (fun a b=>dS (.makeMap a b)) (fun a b=>dS (.makeChan a b)) (fun a b c=>dS (.makeSlice a b c)) (fun a b c d e=>dS (.slice a b c d e)) pv (fun a b c=>dS (.field a b c)) pw
  (fun a b c=>dS (.index a b c)) (fun a b c d=>dS (.lookup a b c d)) (fun a b c d=>dS (.mapUpdate a b c d)) (fun a b c=>dS (.mapEntry a b c)) (fun a b c d=>dS (.entryStore a b c d)) (fun a b=>dS (.range a b)) (fun a b=>dS (.next a b))
  (fun a=>dS (.entry a)) (fun a b c d=>dS (.typeAssert a b c d)) sT BM (fun a=>dS (.go a)) (fun a=>dS (.defer a)) (fun a=>dS (.panic a)) (fun a b=>dS (.send a b)) (fun a b c=>dS (.recv a b c)) (fun a b=>dS (.select a b)) op
theorem Kr (op:Op) (O:df) (P:Program) (r:T XV) (m:Mem):Mq op O P r m=dT O P (ai (r.get .undef)) op m:=by
 cases op with
 | move x=>exact E8 x O P r m
 | assign x=>exact Ae x O P r m
 | pick c a b=>exact E_ c a b O P r m
 | load t a=>exact E7 t a O P r m
 | store t a x=>exact C0 t a x O P r m
 | nilCheck x=>exact wt x O P r m
 | binOp op t x y t'=>exact IF op t x y t' O P r m
 | fieldAddr s x f=>exact uJ s x f O P r m
 | indexAddr t x i=>exact uK t x i O P r m
 | extract x i=>exact x7 x i O P r m
 | call c=>exact Af c O P r m
 | _=>rfl
def wi (ops:List Oper) (g:Nat × Bool) (r:T XV):Option Bool:=
 cG (zR ops g.1) fun o => @Option.rec Nat (fun _=>Option Bool) (some false) (fun t => @XV.rec (fun _=>Option Bool) .none (fun c=>KE c (fun b=>some (b == g.2)) .none) (fun _=>some false) (fun _=>some false) (sg .undef r t)) o.dst
def sK (ops:List Oper) (r:T XV) (o:Oper):Option Bool := @Option.rec (Nat × Bool) (fun _=>Option Bool) (some true) (fun g=>wi ops g r) o.guard
theorem zX {ops:Array Oper} {r:T XV} {o:Oper} {b:Bool}(h:sK ops.toList r o=some b):aw ops (r.get .undef) o=some b:=by
 unfold sK at h
 unfold aw
 cases hg:o.guard with
 | none=>rw [hg]at h;exact h
 | some g =>
   obtain⟨j,want⟩:=g
   rw [hg]at h
   simp only [wi,qP,cU,Array.getElem?_toList]at h
   simp only []
   cases ho:ops[j]? with
   | none=>rw [ho]at h;cases h
   | some oj=>
     rw [ho]at h
     simp only [Option.bind_some]at h ⊢
     cases hd:oj.dst with
     | none=>rw [hd]at h;exact h
     | some t=>
       rw [hd]at h
       simp only [mn]at h ⊢
       cases hx:r.get .undef t with
       | undef=>rw [hx]at h;cases h
       | agg cs=>rw [hx]at h;exact h
       | tup vs=>rw [hx]at h;exact h
       | one c=>
         rw [hx]at h
         cases c <;> first
          | (cases h;done)
          | exact h
def Ik (O:df) (P:Program) (ops:List Oper) (r:T XV) (o:Oper) (m:Mem):Option Out:=
 cG (sK ops r o) fun b => @Bool.rec (fun _=>Option Out) (some ⟨.tup [],m,false,.none⟩) (Mq o.op O P r m) b
structure nw (O O':df):Prop where
 call:∀ f args m x,O.call f args m=some x→O'.call f args m=some x
 op:O.op=O'.op
theorem Kp {O O':df}(h:nw O O') {P:Program} {ρ : Operand→XV} {op:Op} {m:Mem} {d:Out}(hx:dT O P ρ op m=some d):dT O' P ρ op m=some d:=by
 have hpo:dU O P ρ op=dU O' P ρ op:=by
  unfold dU o4
  rw [h.op]
 unfold dT at hx ⊢
 rw [hpo]at hx
 split at hx
 · exact hx
 · split at hx
   · exact hx
   · split at hx
     · exact hx
     · have hc:∀ x m',c_ O P ρ op m=some (x,m')→c_ O' P ρ op m=some (x,m'):=by
        intro x m' hh
        unfold c_ at hh ⊢
        (repeat' split at hh) <;> first
          | (cases hh;done)
          | (simp only [*]at *;first|exact h.call _ _ _ _ hh|(simp_all [h.call _ _ _ _ hh];done))
       split at hx
       · rename_i x m' hh
         rw [hc x m' hh]
         exact hx
       · cases hx
theorem xM {O O':df}(hO:nw O O') {P:Program} {ops:Array Oper} {r:T XV} {o:Oper} {m:Mem} {d:Out}(h:Ik O P ops.toList r o m=some d):jS O' P ops (r.get .undef) o m=some d:=by
 unfold Ik at h
 unfold jS
 rw [cU]at h
 cases hw:sK ops.toList r o with
 | none=>rw [hw]at h;cases h
 | some b=>
   rw [hw]at h
   rw [zX hw]
   cases b
   · exact h
   · simp only [Option.bind_some]at h
     have h':Mq o.op O P r m=some d:=h
     rw [Kr]at h'
     exact Kp hO h'
def DG (d:Out):Mem := @Out.rec (fun _=>Mem) (fun _ m _ _=>m) d
def yW (d:Out):XV := @Out.rec (fun _=>XV) (fun x _ _ _=>x) d
def CT (O:df) (P:Program) (ops:List Oper) (nt:Nat) (l:List Oper):T XV→Mem→(T XV→Mem→Option XR)→Option XR:=
 @List.rec Oper (fun _=>T XV→Mem→(T XV→Mem→Option XR)→Option XR) (fun r m k=>k r m) (fun o _ ih r m k=>cG (Ik O P ops r o m) fun d=>ih (BA o.dst nt r (yW d)) (DG d) k) l
theorem wg {O O':df}(hO:nw O O') {P:Program} {ops:Array Oper} {nt:Nat} {k:T XV→Mem→Option XR} {x:XR}:∀ {l:List Oper} {r:T XV} {m:Mem},CT O P ops.toList nt l r m k=some x→∃ r' m',pj O' P ops nt l r m=some (r',m')∧k r' m'=some x
 | [],r,m,h=>⟨r,m,rfl,h⟩
 | o :: l,r,m,h=>by
   have h':cG (Ik O P ops.toList r o m) (fun d=>CT O P ops.toList nt l (BA o.dst nt r (yW d)) (DG d) k)=some x:=h
   rw [cU]at h'
   cases hd:Ik O P ops.toList r o m with
   | none=>rw [hd]at h';cases h'
   | some d=>
     rw [hd]at h'
     simp only [Option.bind_some,xO]at h'
     obtain⟨r',m',h1,h2⟩:=wg hO h'
     refine⟨r',m',?_,h2⟩
     unfold pj
     rw [xM hO hd]
     exact h1
def uD (O:df) (P:Program) (ops:List Oper) (nt:Nat) (l:List Oper):T XV→Mem→Option (List (Mem × Out) × T XV × Mem):=
 @List.rec Oper (fun _=>T XV→Mem→Option (List (Mem × Out) × T XV × Mem)) (fun r m=>some ([],r,m)) (fun o _ ih r m=>cG (Ik O P ops r o m) fun d=>cG (ih (BA o.dst nt r (yW d)) (DG d)) fun q=>some ((m,d)::q.1,q.2)) l
theorem uE {O O':df}(hO:nw O O') {P:Program} {ops:Array Oper} {nt:Nat}:∀ {l:List Oper} {r:T XV} {m:Mem} {q:List (Mem × Out) × T XV × Mem},uD O P ops.toList nt l r m=some q→gv O' P ops nt l r m=some q
 | [],r,m,q,h=>h
 | o :: l,r,m,q,h=>by
   have h':cG (Ik O P ops.toList r o m) (fun d=>cG (uD O P ops.toList nt l (BA o.dst nt r (yW d)) (DG d)) fun q=>some ((m,d)::q.1,q.2))=some q:=h
   rw [cU]at h'
   cases hd:Ik O P ops.toList r o m with
   | none=>rw [hd]at h';cases h'
   | some d=>
     rw [hd]at h'
     simp only [Option.bind_some,xO,cU]at h'
     cases ht:uD O P ops.toList nt l (np nt r o.dst (yW d)) (DG d)with
     | none=>rw [ht]at h';cases h'
     | some q'=>
       rw [ht]at h'
       obtain⟨a,b,c⟩:=q'
       simp only [Option.bind_some,Option.some.injEq]at h'
       subst h'
       unfold gv
       rw [xM hO hd]
       have e:yW d=d.x:=rfl
       have e2:DG d=d.m:=rfl
       rw [e,e2]at ht
       simp only [uE hO ht]
def uz (tr:List (Mem × Out)):Nat→List (Nat × Mem × Out):=
 @List.rec (Mem × Out) (fun _=>Nat→List (Nat × Mem × Out)) (fun _=>[]) (fun p _ ih i=>iL p.2.eff ((i,p)::ih (Nat.add i 1)) (ih (Nat.add i 1))) tr
theorem we:∀(tr:List (Mem × Out)) (k e:Nat) (p:Mem × Out),tr[e]? = some p→p.2.eff=true→(k+e,p)∈uz tr k
 | [],k,e,p,h,_=>by simp at h
 | q::tr,k,0,p,h,hp=>by
   simp only [List.getElem?_cons_zero,Option.some.injEq]at h
   subst h
   show(k+0,q)∈iL q.2.eff ((k,q)::uz tr (Nat.add k 1)) (uz tr (Nat.add k 1))
   rw [hp]
   exact List.mem_cons_self ..
 | q::tr,k,e+1,p,h,hp=>by
   simp only [List.getElem?_cons_succ]at h
   have:=we tr (k+1) e p h hp
   rw [show k+1+e=k+(e+1) by omega]at this
   show(k+(e+1),p)∈iL q.2.eff ((k,q)::uz tr (Nat.add k 1)) (uz tr (Nat.add k 1))
   cases q.2.eff
   · exact this
   · exact List.mem_cons_of_mem _ this
def xK {γ : Type}(l:List γ) (f : γ→Bool):Bool := @List.rec γ (fun _=>Bool) true (fun a _ ih=>iL (f a) ih false) l
theorem zP {γ : Type}:∀(l:List γ) (f : γ→Bool),xK l f=true→∀ a∈l,f a=true
 | [],f,_,a,ha=>by cases ha
 | b :: l,f,h,a,ha=>by
   have h':iL (f b) (xK l f) false=true:=h
   rw [eH]at h'
   split at h'
   · rename_i hb
     rcases List.mem_cons.1 ha with rfl|ha
     · exact hb
     · exact zP l f h' a ha
   · cases h'
def Mu (bs:List Nat) (tr:List (Mem × Out)):Bool:=
 @List.rec (Nat × Mem × Out) (fun _=>Bool) true (fun e0 es _=>
  @List.rec (Mem × Out) (fun _=>Nat→Bool) (fun _=>true) (fun p _ ih i=>iL (iL p.2.eff true (@Option.rec Nat (fun _=>Bool) false (fun _=>true) p.2.fp)) (iL (xK (e0::es) fun e=>iS bs i p.2 e.1 e.2.1 e.2.2) (ih (Nat.add i 1)) false) (ih (Nat.add i 1))) tr 0) (uz tr 0)
theorem Il {bs : List Nat} {tr:List (Mem × Out)}(h:Mu bs tr=true):gU bs tr=true:=by
 have main : ∀ i di e me de,tr[i]? = some di→tr[e]? = some (me,de)→de.eff=true→(di.2.eff=true∨di.2.fp.isSome=true)→iS bs i di.2 e me de=true:=by
  intro i di e me de hi he hee hd
  have hmem:=we tr 0 e (me,de) he hee
  rw [Nat.zero_add]at hmem
  unfold Mu at h
  cases hes:uz tr 0 with
  | nil=>rw [hes]at hmem;cases hmem
  | cons e0 es =>
    rw [hes]at h hmem
    have key : ∀(l:List (Mem × Out)) (k i:Nat) (p:Mem × Out),(@List.rec (Mem × Out) (fun _=>Nat→Bool) (fun _=>true) (fun p _ ih i=>iL (iL p.2.eff true (@Option.rec Nat (fun _=>Bool) false (fun _=>true) p.2.fp)) (iL (xK (e0::es) fun e=>iS bs i p.2 e.1 e.2.1 e.2.2) (ih (Nat.add i 1)) false) (ih (Nat.add i 1))) l k)=true →
     l[i]? = some p→(p.2.eff=true∨p.2.fp.isSome=true)→(xK (e0::es) fun e=>iS bs (k+i) p.2 e.1 e.2.1 e.2.2)=true:=by
     intro l
     induction l with
     | nil=>intro k i p _ hi;simp at hi
     | cons q l ih=>
       intro k i p hh hi hp
       have hh':iL (iL q.2.eff true (@Option.rec Nat (fun _=>Bool) false (fun _=>true) q.2.fp)) (iL (xK (e0::es) fun e=>iS bs k q.2 e.1 e.2.1 e.2.2) (@List.rec (Mem × Out) (fun _=>Nat→Bool) (fun _=>true) (fun p _ ih i=>iL (iL p.2.eff true (@Option.rec Nat (fun _=>Bool) false (fun _=>true) p.2.fp)) (iL (xK (e0::es) fun e=>iS bs i p.2 e.1 e.2.1 e.2.2) (ih (Nat.add i 1)) false) (ih (Nat.add i 1))) l (Nat.add k 1)) false) (@List.rec (Mem × Out) (fun _=>Nat→Bool) (fun _=>true) (fun p _ ih i=>iL (iL p.2.eff true (@Option.rec Nat (fun _=>Bool) false (fun _=>true) p.2.fp)) (iL (xK (e0::es) fun e=>iS bs i p.2 e.1 e.2.1 e.2.2) (ih (Nat.add i 1)) false) (ih (Nat.add i 1))) l (Nat.add k 1))=true:=hh
       cases i with
       | zero =>
         simp only [List.getElem?_cons_zero,Option.some.injEq]at hi
         subst hi
         have hc:iL q.2.eff true (@Option.rec Nat (fun _=>Bool) false (fun _=>true) q.2.fp)=true:=by
          rw [eH]
          rcases hp with hp|hp
          · simp [hp]
          · split
            · rfl
            · cases hf:q.2.fp with
              | none=>rw [hf]at hp;cases hp
              | some fp=>rfl
         rw [hc]at hh'
         have hh2:iL (xK (e0::es) fun e=>iS bs k q.2 e.1 e.2.1 e.2.2) _ false=true:=hh'
         rw [eH]at hh2
         split at hh2
         · rename_i ha;exact ha
         · cases hh2
       | succ i=>
         simp only [List.getElem?_cons_succ]at hi
         have:=ih (k+1) i p (by
          rw [eH]at hh'
          split at hh'
          · rw [eH]at hh'
            split at hh'
            · exact hh'
            · cases hh'
          · exact hh') hi hp
         rw [show k+1+i=k+(i+1) by omega]at this
         exact this
    have:=zP _ _ (key tr 0 i di h hi hd) _ hmem
    rw [Nat.zero_add]at this
    exact this
 unfold gU
 rw [List.all_eq_true]
 intro i hi
 split
 · rfl
 · rename_i mi di hdi
   by_cases hq:((!di.eff && di.fp.isNone)=true)
   · rw [hq];rfl
   · simp only [Bool.or_eq_true]
     refine .inr (List.all_eq_true.2 fun e he=>?_)
     split
     · rfl
     · rename_i me de hde
       cases hee:de.eff
       · simp [iS,hee]
       · refine main i (mi,di) e me de hdi hde hee ?_
         simp only [Bool.and_eq_true,Bool.not_eq_true',Option.isNone_iff_eq_none,not_and]at hq
         cases h1:di.eff
         · right
           cases h2:di.fp with
           | none=>exact absurd h2 (hq h1)
           | some fp=>rfl
         · exact .inl rfl
end
end Go.Xm
namespace Go.Xm
variable [az]
noncomputable section
def xQ (O:df) (P:Program) (ops:List Oper) (nt:Nat) (bs:List Nat) (n0:Nat) (l:List Oper):Nat→List (Nat × Nat)→T XV→Mem→(T XV→Mem→Option XR)→Option XR:=
 @List.rec Oper (fun _=>Nat→List (Nat × Nat)→T XV→Mem→(T XV→Mem→Option XR)→Option XR) (fun _ _ r m k=>k r m) (fun o _ ih e made r m k=>cG (Ik O P ops r o (eE bs made e m)) fun d=>cG (rJ bs n0 e m (eE bs made e m) made d) fun q=>ih (Nat.add e 1) q.2 (BA o.dst nt r (yW d)) q.1 k) l
theorem sh {O O':df}(hO:nw O O') {P:Program} {ops:Array Oper} {nt:Nat} {bs:List Nat} {n0:Nat} {k:T XV→Mem→Option XR} {x:XR}:∀ {l:List Oper} {e:Nat} {made:List (Nat × Nat)} {r:T XV} {m:Mem},xQ O P ops.toList nt bs n0 l e made r m k=some x→∃ r' m',jx O' P ops nt bs n0 l e made r m=some (r',m')∧k r' m'=some x
 | [],e,made,r,m,h=>⟨r,m,rfl,h⟩
 | o :: l,e,made,r,m,h=>by
   have h':cG (Ik O P ops.toList r o (eE bs made e m)) (fun d=>cG (rJ bs n0 e m (eE bs made e m) made d) fun q=>xQ O P ops.toList nt bs n0 l (Nat.add e 1) q.2 (BA o.dst nt r (yW d)) q.1 k)=some x:=h
   rw [cU]at h'
   cases hd:Ik O P ops.toList r o (eE bs made e m)with
   | none=>rw [hd]at h';cases h'
   | some d=>
     rw [hd]at h'
     simp only [Option.bind_some,xO,cU]at h'
     cases hs:rJ bs n0 e m (eE bs made e m) made d with
     | none=>rw [hs]at h';cases h'
     | some q=>
       rw [hs]at h'
       obtain⟨m1,made1⟩:=q
       simp only [Option.bind_some]at h'
       obtain⟨r',m',h1,h2⟩:=sh hO h'
       refine⟨r',m',?_,h2⟩
       unfold jx
       rw [xM hO hd]
       simp only []
       rw [hs]
       exact h1
def xN (O:df) (P:Program) (ops:Array Oper) (nt:Nat) (r:T XV) (m:Mem) (k:T XV→Mem→Option XR):Option XR:=
 iL (bK ops nt (fx ops.toList)) (cG (uD O P ops.toList nt ops.toList r m) fun q=>iL (Mu (fx ops.toList) q.1) (k q.2.1 q.2.2) (iL ((List.range ops.size).any (lh ops (fx ops.toList) q.1)) (k q.2.1 q.2.2) (iL (gU (fx ops.toList) q.1) .none (xQ O P ops.toList nt (fx ops.toList) m.n ops.toList 0 [] r m k)))) .none
theorem Bx {O O':df}(hO:nw O O') {P:Program} {ops:Array Oper} {nt:Nat} {r:T XV} {m:Mem} {k:T XV→Mem→Option XR} {x:XR}(h:xN O P ops nt r m k=some x):∃ r' m',jn O' P ops nt r m=some (r',m')∧k r' m'=some x:=by
 unfold xN at h
 rw [eH]at h
 split at h
 · rename_i hs
   rw [cU]at h
   cases ht:uD O P ops.toList nt ops.toList r m with
   | none=>rw [ht]at h;cases h
   | some q =>
     rw [ht]at h
     obtain⟨tr,r',m'⟩:=q
     simp only [Option.bind_some,eH]at h
     have hx:gv O' P ops nt ops.toList r m=some (tr,r',m'):=uE hO ht
     by_cases h1:gU (fx ops.toList) tr=true
     · have h2:h_ O' P ops nt r m=some (r',m'):=by
        unfold h_
        rw [if_pos hs,hx]
        simp only []
        rw [if_pos h1]
       have h3:jn O' P ops nt r m=some (r',m'):=kJ (by unfold gE;rw [h2])
       split at h
       · exact⟨r',m',h3,h⟩
       · split at h
         · exact⟨r',m',h3,h⟩
         · cases h
     · have h2:h_ O' P ops nt r m = .none:=by
        unfold h_
        rw [if_pos hs,hx]
        simp only []
        rw [if_neg h1]
       split at h
       · rename_i hd
         exact absurd (Il hd) h1
       · split at h
         · rename_i hd
           refine⟨r',m',kJ ?_,h⟩
           unfold gE
           rw [h2]
           simp only [lu]
           rw [if_pos hs,hx]
           simp only []
           rw [if_pos hd]
         · rename_i hd
           obtain⟨r1,m1,h3,h4⟩:=sh hO h
           refine⟨r1,m1,?_,h4⟩
           have h5:gE O' P ops nt r m = .none:=by
            unfold gE
            rw [h2]
            simp only [lu]
            rw [if_pos hs,hx]
            simp only []
            rw [if_neg hd]
           unfold jn
           rw [h5]
           simp only [qL]
           rw [if_pos hs]
           exact h3
 · cases h
abbrev ME:Type:=uY→T XV→Mem→Option XR
abbrev St:Type:=df→Program→Nat→ME→T XV→Mem→Option XR
def rZ (r:T XV) (m:Mem):Option XR:=some (.norm r m)
def Co (id:Nat) (r:T XV) (m:Mem):Option XR:=some (.exit id r m)
def Cp (l:Nat) (r:T XV) (m:Mem):Option XR:=some (.goto l r m)
def JG (r:T XV) (m:Mem):Option XR:=some (.ret r m)
def tK (x:Option XR) (f:T XV→Mem→Option XR):Option XR:=cG x fun y => @XR.rec (fun _=>Option XR) f Co Cp JG y
def AT (x:Option XR) (f:Nat→T XV→Mem→Option XR):Option XR:=cG x fun y => @XR.rec (fun _=>Option XR) rZ f Cp JG y
def AU (x:Option XR) (f:Nat→T XV→Mem→Option XR):Option XR:=cG x fun y => @XR.rec (fun _=>Option XR) rZ Co f JG y
def KR:St:=fun _ _ _ _ r m=>rZ r m
def JS (_:Nat) (ops:Array Oper) (draw:Bool):St:=fun O P nt _ r m => @Bool.rec (fun _=>Option XR) (CT O P ops.toList nt ops.toList r m rZ) (xN O P ops nt r m rZ) draw
def Ov (a b:Code):St:=fun _ _ _ self r m=>tK (self (.code a) r m) (self (.code b))
def Nw (c:Operand) (a b:Code):St:=fun _ _ _ self r m=>zv (mr c r) (fun t => @Bool.rec (fun _=>Option XR) (self (.code b) r m) (self (.code a) r m) t) .none
def LU (id:Nat) (c:Code):St:=fun _ _ _ self r m=>AT (self (.code c) r m) fun id' r m=>iL (Nat.beq id' id) (rZ r m) (Co id' r m)
def NA (c:Code):St:=fun _ _ _ self r m=>self (.round c) r m
def KQ:St:=fun _ _ _ _ _ _ => .none
def Nx (id:Nat):St:=fun _ _ _ _ r m=>Co id r m
def LW (c:Code):St:=fun _ _ _ self r m=>self (.jump c c) r m
def Ny (l:Nat):St:=fun _ _ _ _ r m=>Cp l r m
def Ou:St:=fun _ _ _ _ r m=>JG r m
def LV (c:Code):St:=fun _ _ _ self r m=>tK (self (.code c) r m) (self (.round c))
def Nz (c rest:Code):St:=fun _ _ _ self r m=>AU (self (.code rest) r m) fun l r m => @Option.rec Code (fun _=>Option XR) (Cp l r m) (fun rest'=>self (.jump c rest') r m) (findLabel c l)
def NN (c:Code):St:=
 @Code.rec (fun _=>St) KR JS (fun a b _ _=>Ov a b) (fun c a b _ _=>Nw c a b) (fun id c _=>LU id c) (fun c _=>NA c) (fun _ _ _ _ _ _=>KQ) Nx (fun c _=>LW c) (fun _=>KR) Ny Ou (fun _=>KQ) c
def NM (c:uY):St := @uY.rec (fun _=>St) NN Nz LV c
def MA (O:df) (P:Program) (nt:Nat) (n:Nat):ME := @Nat.rec (fun _=>ME) (fun _ _ _ => .none) (fun _ ih c r m=>NM c O P nt ih r m) n
def KA (s s':ME):Prop:=∀ c r m x,s c r m=some x→s' c r m=some x
theorem rV {x:Option XR} {f:T XV→Mem→Option XR} {y:XR}(h:tK x f=some y):(∃ r m,x=some (.norm r m)∧f r m=some y)∨(x=some y∧∀ r m,y ≠ .norm r m):=by
 cases x with
 | none=>cases h
 | some z=>
   cases z with
   | norm r m=>exact .inl ⟨r,m,rfl,h⟩
   | exit id r m=>cases h;exact .inr ⟨rfl,by simp⟩
   | goto l r m=>cases h;exact .inr ⟨rfl,by simp⟩
   | ret r m=>cases h;exact .inr ⟨rfl,by simp⟩
theorem yU {x:Option XR} {f:Nat→T XV→Mem→Option XR} {y:XR}(h:AT x f=some y):(∃ l r m,x=some (.exit l r m)∧f l r m=some y)∨(x=some y∧∀ l r m,y ≠ .exit l r m):=by
 cases x with
 | none=>cases h
 | some z=>
   cases z with
   | norm r m=>cases h;exact .inr ⟨rfl,by simp⟩
   | exit id r m=>exact .inl ⟨id,r,m,rfl,h⟩
   | goto l r m=>cases h;exact .inr ⟨rfl,by simp⟩
   | ret r m=>cases h;exact .inr ⟨rfl,by simp⟩
theorem yV {x:Option XR} {f:Nat→T XV→Mem→Option XR} {y:XR}(h:AU x f=some y):(∃ l r m,x=some (.goto l r m)∧f l r m=some y)∨(x=some y∧∀ l r m,y ≠ .goto l r m):=by
 cases x with
 | none=>cases h
 | some z=>
   cases z with
   | norm r m=>cases h;exact .inr ⟨rfl,by simp⟩
   | exit id r m=>cases h;exact .inr ⟨rfl,by simp⟩
   | goto l r m=>exact .inl ⟨l,r,m,rfl,h⟩
   | ret r m=>cases h;exact .inr ⟨rfl,by simp⟩
theorem Ij {O O':df}(hO:nw O O') {P:Program} {nt:Nat} {s s':ME}(hs:KA s s') (c:uY) (r:T XV) (m:Mem) (x:XR) (h:NM c O P nt s r m=some x):jU O' P nt s' c r m=some x:=by
 cases c with
 | jump c rest=>
   rcases yV (show AU (s (.code rest) r m) _=some x from h)with⟨l,r1,m1,h1,h2⟩|⟨h1,h2⟩
   · simp only [jU,hs _ _ _ _ h1]
     cases hf:findLabel c l with
     | none=>rw [hf]at h2;exact h2
     | some rest'=>rw [hf]at h2;exact hs _ _ _ _ h2
   · simp only [jU,hs _ _ _ _ h1]
     cases x with
     | goto l r m=>exact absurd rfl (h2 l r m)
     | _=>rfl
 | round c=>
   rcases rV (show tK (s (.code c) r m) _=some x from h)with⟨r1,m1,h1,h2⟩|⟨h1,h2⟩
   · simp only [jU,hs _ _ _ _ h1]
     exact hs _ _ _ _ h2
   · simp only [jU,hs _ _ _ _ h1]
     cases x with
     | norm r m=>exact absurd rfl (h2 r m)
     | _=>rfl
 | code c=>
   cases c with
   | skip=>exact h
   | label l=>exact h
   | region id ops draw=>
     cases draw
     · obtain⟨r',m',h1,h2⟩:=wg hO (show CT O P ops.toList nt ops.toList r m rZ=some x from h)
       simp only [jU,h1]
       exact h2
     · obtain⟨r',m',h1,h2⟩:=Bx hO (show xN O P ops nt r m rZ=some x from h)
       simp only [jU,h1]
       exact h2
   | seq a b=>
     rcases rV (show tK (s (.code a) r m) _=some x from h)with⟨r1,m1,h1,h2⟩|⟨h1,h2⟩
     · simp only [jU,hs _ _ _ _ h1]
       exact hs _ _ _ _ h2
     · simp only [jU,hs _ _ _ _ h1]
       cases x with
       | norm r m=>exact absurd rfl (h2 r m)
       | _=>rfl
   | cond cd a b=>
     have h':zv (mr cd r) (fun t => @Bool.rec (fun _=>Option XR) (s (.code b) r m) (s (.code a) r m) t) .none=some x:=h
     rcases ud (mr cd r) (fun t => @Bool.rec (fun _=>Option XR) (s (.code b) r m) (s (.code a) r m) t) .none with⟨t,h1,h2⟩|⟨h1,h2⟩
     · rw [h2]at h'
       rw [fT]at h1
       cases t
       · simp only [jU,h1];exact hs _ _ _ _ h'
       · simp only [jU,h1];exact hs _ _ _ _ h'
     · rw [h2]at h';cases h'
   | block id c=>
     rcases yU (show AT (s (.code c) r m) _=some x from h)with⟨l,r1,m1,h1,h2⟩|⟨h1,h2⟩
     · simp only [jU,hs _ _ _ _ h1]
       rw [eH]at h2
       by_cases hl:l=id
       · subst hl
         rw [if_pos rfl]
         rw [if_pos (Nat.beq_refl l)]at h2
         exact h2
       · rw [if_neg hl]
         rw [if_neg (fun h=>hl (Nat.eq_of_beq_eq_true h))]at h2
         exact h2
     · simp only [jU,hs _ _ _ _ h1]
       cases x with
       | exit l r m=>exact absurd rfl (h2 l r m)
       | _=>rfl
   | loop c=>exact hs _ _ _ _ h
   | rangeFunc f ps a b=>cases h
   | exit id=>exact h
   | scope c=>exact hs _ _ _ _ h
   | goto l=>exact h
   | ret=>exact h
   | refuse w=>cases h
theorem zV {O O':df}(hO:nw O O') {P:Program} {nt:Nat}:∀ n,KA (MA O P nt n) (Ig O' P nt n)
 | 0=>fun c r m x h=>by cases h
 | n+1=>fun c r m x h=>Ij hO (zV hO n) c r m x h
def v1 {α : Type}(x:XV) (f:XV→Option α):Option α := @XV.rec (fun _=>Option α) .none (fun c=>f (.one c)) (fun cs=>f (.agg cs)) (fun _ => .none) x
def K0 (v:ResultVar) (P:Program) (fn:Func) (r:T XV) (m:Mem):Option (XV × Mem):=
 @ResultVar.rec (fun _=>Option (XV × Mem)) (fun t=>v1 (sg .undef r t) fun x=>some (x,m)) (fun _ _=>(dD P fn (r.get .undef) m).map fun x=>(x,m)) v
def uA (P:Program) (fn:Func) (r:T XV) (m:Mem):Option (XV × Mem):=(dD P fn (r.get .undef) m).map fun x=>(x,m)
def EP (P:Program) (fn:Func) (r:T XV) (m:Mem):Option (XV × Mem):=
 @List.rec ResultVar (fun _=>Option (XV × Mem)) (some (.tup [],m)) (fun v l _ => @List.rec ResultVar (fun _=>Option (XV × Mem)) (K0 v P fn r m) (fun _ _ _=>uA P fn r m) l) fn.results.toList
theorem zU {P:Program} {fn:Func} {r:T XV} {m:Mem} {y:XV × Mem}(h:EP P fn r m=some y):dD P fn (r.get .undef) m=some y.1∧m=y.2:=by
 have dS:uA P fn r m=some y→dD P fn (r.get .undef) m=some y.1∧m=y.2:=fun h=>by
  unfold uA at h
  cases hx:dD P fn (r.get .undef) m with
  | none=>rw [hx]at h;cases h
  | some x=>rw [hx]at h;cases h;exact⟨rfl,rfl⟩
 unfold EP at h
 cases hl:fn.results.toList with
 | nil=>
   rw [hl]at h
   cases h
   refine⟨?_,rfl⟩
   unfold dD
   rw [hl]
   rfl
 | cons v l=>
   rw [hl]at h
   cases l with
   | cons v' l=>exact dS h
   | nil=>
     have h':K0 v P fn r m=some y:=h
     cases v with
     | cell a t=>exact dS h'
     | tmp t=>
       have h2:v1 (sg .undef r t) (fun x=>some (x,m))=some y:=h'
       rw [mn]at h2
       unfold dD
       rw [hl]
       simp only [gu,uv]
       cases hx:r.get .undef t with
       | undef=>rw [hx]at h2;cases h2
       | one c=>rw [hx]at h2;cases h2;exact⟨rfl,rfl⟩
       | agg cs=>rw [hx]at h2;cases h2;exact⟨rfl,rfl⟩
       | tup cs=>rw [hx]at h2;cases h2
def Io (l:List XV):Nat→T XV→T XV := @List.rec XV (fun _=>Nat→T XV→T XV) (fun _ t=>t) (fun x _ ih i t=>ih (Nat.add i 1) (po .undef 31 t i x)) l
theorem zS:∀(l:List XV) (i:Nat) (t:T XV),Io l i t=f8 l i t
 | [],i,t=>rfl
 | x::l,i,t=>by
   show Io l (i+1) (po .undef 31 t i x)=f8 l (i+1) (t.set .undef 31 i x)
   rw [zS,mo]
def Ii (run:ME) (P:Program) (fn:Func) (c:Code) (args:List XV) (m:Mem):Option (XV × Mem):=
 cG (run (.code c) (Io args 0 .leaf) m) fun y => @XR.rec (fun _=>Option (XV × Mem)) (EP P fn) (fun _ _ _ => .none) (fun _ _ _ => .none) (EP P fn) y
def CR (O:df) (P:Program) (F:Nat) (f:FuncId) (args:List XV) (m:Mem):Option (XV × Mem):=
 cG (zR P.funcs.toList f) fun fn=>cG fn.body fun c=>
  iL (Nat.blt fn.ntmps 1000000) (iL (Nat.ble (ss args) fn.ntmps) (Ii (MA O P fn.ntmps F) P fn c args m) .none) .none
theorem EM {O O':df}(hO:nw O O') {P:Program} {F:Nat}:∀ f args m x,CR O P F f args m=some x→v7 O' P F f args m=some x:=by
 intro f args m y h
 unfold CR at h
 unfold v7
 rw [qP,Array.getElem?_toList,cU]at h
 cases hf:P.funcs[f]? with
 | none=>rw [hf]at h;cases h
 | some fn =>
   rw [hf]at h
   simp only [Option.bind_some,cU]at h
   cases hb:fn.body with
   | none=>rw [hb]at h;cases h
   | some c =>
     rw [hb]at h
     simp only [Option.bind_some,eH]at h
     simp only [hb]
     split at h
     · rename_i h1
       split at h
       · rename_i h2
         rw [Nat.blt_eq]at h1
         rw [Nat.ble_eq,oX]at h2
         rw [if_pos ⟨h1,h2⟩]
         unfold Ii at h
         rw [zS,cU]at h
         cases hr:MA O P fn.ntmps F (.code c) (f8 args 0 .leaf) m with
         | none=>rw [hr]at h;cases h
         | some x=>
           rw [hr]at h
           rw [zV hO F _ _ _ _ hr]
           cases x with
           | norm r m'=>
             have h3:EP P fn r m'=some y:=h
             obtain⟨h4,h5⟩:=zU h3
             simp only [h4]
             subst h5;rfl
           | ret r m'=>
             have h3:EP P fn r m'=some y:=h
             obtain⟨h4,h5⟩:=zU h3
             simp only [h4]
             subst h5;rfl
           | exit id r m'=>cases h
           | goto l r m'=>cases h
       · cases h
     · cases h
def Ms (O ih:df) (P:Program) (F:Nat):df:=⟨fun f args m => @Option.rec (XV × Mem) (fun _=>Option (XV × Mem)) (CR ih P F f args m) some (O.call f args m),O.op⟩
def ot (O:df) (P:Program) (F:Nat) (k:Nat):df := @Nat.rec (fun _=>df) O (fun _ ih=>Ms O ih P F) k
theorem wb {O:df} {P:Program} {F:Nat}:∀ k,nw (ot O P F k) (v8 O P F k)
 | 0=>⟨fun _ _ _ _ h=>h,rfl⟩
 | k + 1=>⟨fun f args m x h=>by
   have h' : @Option.rec (XV × Mem) (fun _=>Option (XV × Mem)) (CR (ot O P F k) P F f args m) some (O.call f args m)=some x:=h
   unfold v8
   simp only []
   cases ho:O.call f args m with
   | none=>
     rw [ho]at h'
     exact EM (wb k) f args m x h'
   | some y=>
     rw [ho]at h'
     exact h',rfl⟩
theorem aN.le {P:Program} {O O':df}(h:aN P O') (hO:nw O O'):aN P O:=
 ⟨fun f args m v m' hh=>h.call f args m v m' (hO.call _ _ _ _ hh),fun f args m v m' hh=>h.Iw f args m v m' (hO.call _ _ _ _ hh),fun o l x hh=>h.op o l x (by rw [←hO.op];exact hh)⟩
theorem sf {O:df} {P:Program}(hO:aN P O) (hP:P.follows .mixedOrders=true) (F k:Nat):aN P (ot O P F k):=
 (r_ hO hP F k).le (wb k)
end
end Go.Xm
namespace Go.Xm
open Go.RowKit (Below)
variable [az]
theorem rQ:Mem.empty.b_:=fun _ _=>rfl
theorem DO (β : Env) (w:World):Rel β Mem.empty w:=
 ⟨Nat.zero_le _,rQ,fun i hi=>absurd hi (Nat.not_lt_zero i),fun i _ hi=>absurd hi (Nat.not_lt_zero i)⟩
def XC.shut:XC→Bool
 | .ptr _ _=>false
 | .slice _ _ _ _=>false
 | .map _=>false
 | .bind g c=>g.shut && c.shut
 | _=>true
def X1.shut:X1→Bool
 | .one c=>c.shut
 | .agg cs=>cs.all XC.shut
def XV.shut:XV→Bool
 | .undef=>true
 | .one c=>c.shut
 | .agg cs=>cs.all XC.shut
 | .tup xs=>xs.all X1.shut
theorem XC.bV {c:XC}(h:c.shut=true) (n:Nat):c.ok n:=by
 induction c with
 | bind g c ih1 ih2=>
   simp only [XC.shut,Bool.and_eq_true]at h
   exact⟨ih1 h.1,ih2 h.2⟩
 | ptr i off=>cases h
 | slice i off len cap=>cases h
 | map i=>cases h
 | _=>trivial
theorem XC.jD {c:XC}(h:c.shut=true) (β β':Env):c.den β = c.den β':=
 XC.jV (n:=0) (fun i hi=>absurd hi (Nat.not_lt_zero i)) (XC.bV h 0)
theorem X1.bV {x:X1}(h:x.shut=true) (n:Nat):x.ok n:=by
 cases x with
 | one c=>exact XC.bV h n
 | agg cs=>exact fun c hc=>XC.bV (List.all_eq_true.1 h c hc) n
theorem X1.jD {x:X1}(h:x.shut=true) (β β':Env):x.den β = x.den β':=
 X1.jV (n:=0) (fun i hi=>absurd hi (Nat.not_lt_zero i)) (X1.bV h 0)
theorem aS.Cg {x:XV}(h:x.shut=true) {β β':Env} {n n':Nat} {v:Value}(hr:aS β n x v):aS β' n' x v:=by
 cases x with
 | undef=>trivial
 | one c=>exact⟨XC.bV h n',hr.2.trans (XC.jD h _ _)⟩
 | agg cs=>
   have h':=List.all_eq_true.1 h
   refine⟨fun c hc=>XC.bV (h' c hc) n',hr.2.trans ?_⟩
   rw [List.map_congr_left fun c hc=>XC.jD (h' c hc) β β']
 | tup xs=>
   have h':=List.all_eq_true.1 h
   refine⟨fun c hc=>X1.bV (h' c hc) n',hr.2.trans ?_⟩
   rw [List.map_congr_left fun c hc=>X1.jD (h' c hc) β β']
theorem wu {l:List XV}(h:∀ x∈l,x.shut=true) {β β':Env} {n n':Nat}:∀ {vs:List Value},cz (aS β n) l vs→cz (aS β' n') l vs:=by
 induction l with
 | nil=>intro vs hr;cases hr;exact .nil
 | cons x l ih=>
   intro vs hr
   cases hr with
   | cons h1 h2=>exact .cons (h1.Cg (h x (List.mem_cons_self ..))) (ih (fun y hy=>h y (List.mem_cons_of_mem _ hy)) h2)
def Env.zero:Env:=⟨fun _=>0,fun _=>0,fun _=>0⟩
theorem vL {P:Program} {f:FuncId} {args:List XV} {v:XV} {m':Mem}(h:dW P f args Mem.empty v m') {vs:List Value}(ha:cz (aS Env.zero 0) args vs) (w:World) :
 Calls P f vs.toArray w fun e w'=>(∃ u β',e = .returned u∧aS β' m'.n v u)∧Below w.heap.size w w':=by
 refine(h Env.zero w vs ha (DO _ w)).mono fun e w' ⟨u,β',he,hu,hs⟩=>?_
 exact⟨⟨u,β',he,hu⟩,hs.os,hs.tape,hs.output,hs.size,fun k hk=>hs.frame k hk fun⟨i,hi,_⟩=>absurd hi (Nat.not_lt_zero i)⟩
theorem Nv {P:Program} {f:FuncId} {args:List XV} {m':Mem}(h:dW P f args Mem.empty (.one (.bool true)) m') {vs:List Value}(ha:cz (aS Env.zero 0) args vs) (w:World) :
 Calls P f vs.toArray w fun e w'=>e = .returned (.bool true)∧Below w.heap.size w w':=by
 refine(vL h ha w).mono fun e w' ⟨⟨u,β',he,hu⟩,hb⟩=>⟨?_,hb⟩
 rw [he,hu.2]
 rfl
theorem forget {P:Program} {f:FuncId} {args:List XV} {v:XV} {m':Mem}(h:dW P f args Mem.empty v m') (ha:∀ x∈args,x.shut=true) (hv:v.shut=true) (m:Mem):dW P f args m v m:=by
 intro β w vs hr hm
 refine(vL h (wu ha hr) w).mono fun e w' ⟨⟨u,β',he,hu⟩,hb⟩=>?_
 refine⟨u,β,he,hu.Cg hv,Nat.le_refl _,Ext.refl _ _,⟨hm.bnd,hm.fresh,fun i hi=>?_,hm.inj⟩,hb.os,hb.tape,hb.output,hb.size,fun k hk _=>hb.block k hk,fun k _ hk=>hk⟩
 have ho:=hm.obj i hi
 cases hg:m.get i with
 | dead=>trivial
 | cells a b c d=>
   have hl:=hm.lt hi (by rw [hg];rfl)
   rw [hb.block _ hl,←hg]
   exact ho
 | map es=>
   have hl:=hm.lt hi (by rw [hg];rfl)
   rw [hb.block _ hl,←hg]
   exact ho
structure uI where
 f:FuncId
 args:List XV
 v:XV
def uI.He (r:uI):Bool:=r.args.all XV.shut && r.v.shut
def uI.OH (P:Program) (r:uI):Prop:=r.He=true∧∃ m',dW P r.f r.args Mem.empty r.v m'
theorem LA {P:Program}:∀ o l x,(fun(_:Op) (_:List XV)=>(.none:Option XV)) o l=some x→BH P o l x:=fun _ _ _ h=>by cases h
theorem Nt {P:Program} {O:df}(hO:aN P O) (hP:P.follows .mixedOrders=true) {F k:Nat} {r:uI}(h:((ot O P F k).call r.f r.args Mem.empty).map (·.1)=some r.v) (hs:r.He=true):r.OH P:=by
 obtain⟨⟨v,m'⟩,h1,h2⟩:=Option.map_eq_some_iff.1 h
 refine⟨hs,m',?_⟩
 have:=(sf hO hP F k).call _ _ _ _ _ h1
 rw [←h2]
 exact this
end Go.Xm
namespace Go.Xm
variable [az]
abbrev bn:Type:=List (Nat × XV)
def rg:bn→Nat→XV
 | [],_ => .undef
 | (d,v)::al,t=>if t=d then v else rg al t
abbrev ak:Type:=List aj
structure bG (m:Mem) (hs:ak):Prop where
 n:m.n=hs.length
 bnd:m.n≤Mem.bound
 fresh:m.b_
 get:∀ i,i<m.n→m.get i=hs.getD i .dead
def CZ (m m':Mem):Prop:=m.n=m'.n∧m'.b_∧∀ i,i<m.n→m.get i=m'.get i
theorem bG.same {m m':Mem} {hs:ak}(h:bG m hs) (h':bG m' hs):CZ m m':=
 ⟨by rw [h.n,h'.n],h'.fresh,fun i hi=>by rw [h.get i hi,h'.get i (by rw [h'.n,←h.n];exact hi)]⟩
theorem CZ.rel {m m':Mem}(h:CZ m m') {β : Env} {w:World}(hr:Rel β m w):Rel β m' w:=by
 obtain⟨h1,h2,h3⟩:=h
 refine⟨by rw [←h1];exact hr.bnd,h2,fun i hi=>?_,fun i j hi hj=>?_⟩
 · rw [←h1]at hi
   rw [←h1,←h3 i hi];exact hr.obj i hi
 · rw [←h1]at hi hj
   rw [←h3 i hi,←h3 j hj];exact hr.inj i j hi hj
theorem CZ.rR {m m':Mem}(h:CZ m m') {β : Env} {k:Nat}:Iu β m k↔Iu β m' k:=by
 obtain⟨h1,_,h3⟩:=h
 constructor
 · rintro ⟨i,hi,hl,hk⟩
   exact⟨i,h1 ▸ hi,by rw [←h3 i hi];exact hl,hk⟩
 · rintro ⟨i,hi,hl,hk⟩
   rw [←h1]at hi
   exact⟨i,hi,by rw [h3 i hi];exact hl,hk⟩
theorem Step.same {m m' m'':Mem} {β β':Env} {w w':World}(h:Step β m w β' m' w') (hs:CZ m' m''):Step β m w β' m'' w':=
 ⟨by rw [←hs.1];exact h.le,h.ext,hs.rel h.rel,h.os,h.tape,h.output,h.size,h.frame,fun k hk hi=>h.rR k hk (hs.rR.2 hi)⟩
inductive XE where
 | normal
 | exit (id:Nat)
 | goto (l:Nat)
 | ret
def XE.ex:XE→Exit
 | .normal => .normal
 | .exit id => .exit id
 | .goto l => .goto l
 | .ret => .ret
abbrev cR:Type:=XE→bn→ak→Prop
def WX (P:Program) (nt nI:Nat) (c:uY) (al:bn) (hs:ak) (K:cR):Prop:=
 ∀ (βI:Env) (mI:Mem) (wI:World),mI.n=nI→∀ m,bG m hs→∀(β : Env) (w:World) (a:Act) (Q:Exit→Act→World→Prop),fP β m.n nt (rg al) a.tmps→Step βI mI wI β m w →
   (∀ e al' hs' m',K e al' hs'→bG m' hs'→∀ a' β' w',fP β' m'.n nt (rg al') a'.tmps→a'.defers=a.defers→Step βI mI wI β' m' w'→Q e.ex a' w')→u0 P c Q a w
section
variable {P:Program} {nt nI:Nat} {al:bn} {hs:ak} {K:cR}
theorem WX.mono {c:uY} {K':cR}(h:WX P nt nI c al hs K) (hk:∀ e al' hs',K e al' hs'→K' e al' hs'):WX P nt nI c al hs K':=
 fun βI mI wI hn m hm β w a Q hr hw hq=>h βI mI wI hn m hm β w a Q hr hw fun e al' hs' m' k=>hq e al' hs' m' (hk _ _ _ k)
def uH (al' al:bn):Prop:=∀ t,rg al' t = .undef∨rg al' t=rg al t
theorem uH.rel {al' al:bn}(h:uH al' al) {β : Env} {n:Nat} {a:Array Value}(hr:fP β n nt (rg al) a):fP β n nt (rg al') a:=by
 refine⟨hr.size,hr.small,fun t ht=>?_,fun t ht=>?_⟩
 · rcases h t with h|h
   · rw [h];trivial
   · rw [h];exact hr.rel t ht
 · rcases h t with h|h
   · exact h
   · rw [h];exact hr.out t ht
theorem WX.less {c:uY} {al':bn}(hl:uH al' al) (h:WX P nt nI c al' hs K):WX P nt nI c al hs K:=
 fun βI mI wI hn m hm β w a Q hr hw hq=>h βI mI wI hn m hm β w a Q (hl.rel hr) hw hq
theorem qh (al:bn):uH [] al:=fun _ => .inl rfl
theorem cm {al' al:bn} {t:Nat} {v:XV}(h:rg al t=v) (hl:uH al' al):uH ((t,v)::al') al:=by
 intro s
 by_cases hs:s=t
 · subst hs
   exact .inr (by rw [h];simp [rg])
 · have:rg ((t,v)::al') s=rg al' s:=by simp [rg,hs]
   rw [this]
   exact hl s
theorem WX.skip (h:K .normal al hs):WX P nt nI (.code .skip) al hs K:=
 fun βI mI wI hn m hm β w a _ hr hw hq=>wp_skip (hq _ _ _ m h hm a β w hr rfl hw)
theorem WX.label {l:Nat}(h:K .normal al hs):WX P nt nI (.code (.label l)) al hs K:=
 fun βI mI wI hn m hm β w a _ hr hw hq=>wp_label (hq _ _ _ m h hm a β w hr rfl hw)
theorem WX.exit {id:Nat}(h:K (.exit id) al hs):WX P nt nI (.code (.exit id)) al hs K:=
 fun βI mI wI hn m hm β w a _ hr hw hq=>wp_exit (hq _ _ _ m h hm a β w hr rfl hw)
theorem WX.goto {l:Nat}(h:K (.goto l) al hs):WX P nt nI (.code (.goto l)) al hs K:=
 fun βI mI wI hn m hm β w a _ hr hw hq=>wp_goto (hq _ _ _ m h hm a β w hr rfl hw)
theorem WX.ret (h:K .ret al hs):WX P nt nI (.code .ret) al hs K:=
 fun βI mI wI hn m hm β w a _ hr hw hq=>wp_ret (hq _ _ _ m h hm a β w hr rfl hw)
def MO (P:Program) (nt nI:Nat) (b:Code) (K:cR):cR
 | .normal,al,hs=>WX P nt nI (.code b) al hs K
 | e,al,hs=>K e al hs
theorem WX.seq {a b:Code}(h:WX P nt nI (.code a) al hs (MO P nt nI b K)):WX P nt nI (.code (.seq a b)) al hs K:=by
 intro βI mI wI hn m hm β w act Q hr hw hq
 refine wp_seq ?_
 refine h βI mI wI hn m hm β w act _ hr hw fun e al' hs' m' k hm' a' β' w' h1 h2 h3=>?_
 cases e with
 | normal=>
   refine k βI mI wI hn m' hm' β' w' a' Q h1 h3 fun e al'' hs'' m'' k' hm'' a'' β'' w'' k1 k2 k3=>?_
   exact hq e al'' hs'' m'' k' hm'' a'' β'' w'' k1 (k2.trans h2) k3
 | exit id=>exact hq _ al' hs' m' k hm' a' β' w' h1 h2 h3
 | goto l=>exact hq _ al' hs' m' k hm' a' β' w' h1 h2 h3
 | ret=>exact hq _ al' hs' m' k hm' a' β' w' h1 h2 h3
theorem WX.cond {c:Operand} {x y:Code} {b:Bool}(hc:ai (rg al) c = .one (.bool b)) (h1:b=true→WX P nt nI (.code x) al hs K) (h2:b=false→WX P nt nI (.code y) al hs K):WX P nt nI (.code (.cond c x y)) al hs K:=by
 intro βI mI wI hn m hm β w a Q hr hw hq
 have he:=hr.eval c
 rw [hc]at he
 cases b with
 | true=>exact wp_cond_true he.2 (h1 rfl βI mI wI hn m hm β w a Q hr hw hq)
 | false=>exact wp_cond_false he.2 (h2 rfl βI mI wI hn m hm β w a Q hr hw hq)
def wm (id:Nat) (K:cR):cR
 | .exit id',al,hs=>if id'=id then K .normal al hs else K (.exit id') al hs
 | e,al,hs=>K e al hs
theorem WX.block {id:Nat} {c:Code}(h:WX P nt nI (.code c) al hs (wm id K)):WX P nt nI (.code (.block id c)) al hs K:=by
 intro βI mI wI hn m hm β w a Q hr hw hq
 refine wp_block ?_
 refine h βI mI wI hn m hm β w a _ hr hw fun e al' hs' m' k hm' a' β' w' h1 h2 h3=>?_
 cases e with
 | exit id'=>
   show(if id'=id then Q .normal a' w' else Q (.exit id') a' w')
   by_cases hid:id'=id
   · simp only [wm,hid,if_true]at k
     rw [if_pos hid]
     exact hq _ al' hs' m' k hm' a' β' w' h1 h2 h3
   · simp only [wm,hid,if_false]at k
     rw [if_neg hid]
     exact hq _ al' hs' m' k hm' a' β' w' h1 h2 h3
 | normal=>exact hq _ al' hs' m' k hm' a' β' w' h1 h2 h3
 | goto l=>exact hq _ al' hs' m' k hm' a' β' w' h1 h2 h3
 | ret=>exact hq _ al' hs' m' k hm' a' β' w' h1 h2 h3
theorem WX.loop {c:Code}(h:WX P nt nI (.round c) al hs K):WX P nt nI (.code (.loop c)) al hs K:=by
 intro βI mI wI hn m hm β w a Q hr hw hq
 intro b k cs
 obtain⟨e,a₁,w₁,hq1,harr⟩:=h βI mI wI hn m hm β w a Q hr hw hq b k cs
 exact⟨e,a₁,w₁,hq1,.of_steps (.one step_loop) harr⟩
def EZ (P:Program) (nt nI:Nat) (c:Code) (K:cR):cR
 | .normal,al,hs=>WX P nt nI (.round c) al hs K
 | e,al,hs=>K e al hs
theorem WX.round {c:Code}(h:WX P nt nI (.code c) al hs (EZ P nt nI c K)):WX P nt nI (.round c) al hs K:=by
 intro βI mI wI hn m hm β w a Q hr hw hq
 intro b k cs
 have:=h βI mI wI hn m hm β w a (fun e a' w'=>(e = .normal∧u0 P (.round c) Q a' w')∨(e ≠ .normal∧Q e a' w')) hr hw (fun e al' hs' m' kk hm' a' β' w' h1 h2 h3=>by
  cases e with
  | normal=>
    refine .inl ⟨rfl,kk βI mI wI hn m' hm' β' w' a' Q h1 h3 fun e al'' hs'' m'' k' hm'' a'' β'' w'' k1 k2 k3=>?_⟩
    exact hq e al'' hs'' m'' k' hm'' a'' β'' w'' k1 (k2.trans h2) k3
  | exit id=>exact .inr ⟨by simp [XE.ex],hq _ al' hs' m' kk hm' a' β' w' h1 h2 h3⟩
  | goto l=>exact .inr ⟨by simp [XE.ex],hq _ al' hs' m' kk hm' a' β' w' h1 h2 h3⟩
  | ret=>exact .inr ⟨by simp [XE.ex],hq _ al' hs' m' kk hm' a' β' w' h1 h2 h3⟩)
 obtain⟨e,a₁,w₁,hcase,harr⟩:=this b (.inLoop c::k) cs
 rcases hcase with⟨rfl,hlp⟩|⟨hne,hq1⟩
 · obtain⟨e₂,a₂,w₂,hq₂,harr₂⟩:=hlp b k cs
   exact⟨e₂,a₂,w₂,hq₂,.of_steps (Steps.trans harr (.one step_inLoop)) harr₂⟩
 · exact⟨e,a₁,w₁,hq1,.pass (x := .inLoop c) rfl (fun _ _ => .inl hne) harr⟩
def EY (P:Program) (nt nI:Nat) (c:Code) (K:cR):cR
 | .goto l,al,hs=>match findLabel c l with
   | some rest=>WX P nt nI (.jump c rest) al hs K
   | .none=>K (.goto l) al hs
 | e,al,hs=>K e al hs
theorem WX.scope {c:Code}(h:WX P nt nI (.jump c c) al hs K):WX P nt nI (.code (.scope c)) al hs K:=by
 intro βI mI wI hn m hm β w a Q hr hw hq
 intro b k cs
 obtain⟨e,a₁,w₁,hq1,harr⟩:=h βI mI wI hn m hm β w a Q hr hw hq b k cs
 exact⟨e,a₁,w₁,hq1,.of_steps (.one step_scope) harr⟩
theorem WX.jump {c rest:Code}(h:WX P nt nI (.code rest) al hs (EY P nt nI c K)):WX P nt nI (.jump c rest) al hs K:=by
 intro βI mI wI hn m hm β w a Q hr hw hq
 intro b k cs
 have := h βI mI wI hn m hm β w a (fun e a' w'=>(∃ l rest',e = .goto l∧findLabel c l=some rest'∧u0 P (.jump c rest') Q a' w')∨(∃ x:XE,e=x.ex∧(∀ l,x = .goto l→findLabel c l = .none)∧Q e a' w')) hr hw (fun e al' hs' m' kk hm' a' β' w' h1 h2 h3=>by
  cases e with
  | goto l=>
    cases hf:findLabel c l with
    | some rest'=>
      simp only [EY,hf]at kk
      refine .inl ⟨l,rest',rfl,hf,kk βI mI wI hn m' hm' β' w' a' Q h1 h3 fun e al'' hs'' m'' k' hm'' a'' β'' w'' k1 k2 k3=>?_⟩
      exact hq e al'' hs'' m'' k' hm'' a'' β'' w'' k1 (k2.trans h2) k3
    | none=>
      simp only [EY,hf]at kk
      exact .inr ⟨.goto l,rfl,fun l' hl'=>(by cases hl';exact hf),hq _ al' hs' m' kk hm' a' β' w' h1 h2 h3⟩
  | normal=>exact .inr ⟨.normal,rfl,fun l' hl'=>(by cases hl'),hq _ al' hs' m' kk hm' a' β' w' h1 h2 h3⟩
  | exit id=>exact .inr ⟨.exit id,rfl,fun l' hl'=>(by cases hl'),hq _ al' hs' m' kk hm' a' β' w' h1 h2 h3⟩
  | ret=>exact .inr ⟨.ret,rfl,fun l' hl'=>(by cases hl'),hq _ al' hs' m' kk hm' a' β' w' h1 h2 h3⟩)
 obtain⟨e,a₁,w₁,hcase,harr⟩:=this b (.inScope c::k) cs
 rcases hcase with⟨l,rest',rfl,hf,hmn⟩|⟨x,rfl,hng,hq1⟩
 · obtain⟨e₂,a₂,w₂,hq₂,harr₂⟩:=hmn b k cs
   have hg:gotoIn l (.inScope c::k)=some (.code rest' :: .inScope c::k):=by simp [gotoIn,hf]
   exact⟨e₂,a₂,w₂,hq₂,.of_steps (harr _ hg) harr₂⟩
 · cases x with
   | normal=>exact⟨.normal,a₁,w₁,hq1,Steps.trans harr (.one step_inScope)⟩
   | exit id=>exact⟨.exit id,a₁,w₁,hq1,fun k' hk=>harr k' (by simp [exitTo,hk])⟩
   | goto l=>exact⟨.goto l,a₁,w₁,hq1,fun k' hk=>harr k' (by simp [gotoIn,hng l rfl,hk])⟩
   | ret=>exact⟨.ret,a₁,w₁,hq1,harr⟩
end
end Go.Xm
namespace Go.Xm
variable [az]
structure Ab where
 eff:Bool
 fp:Option Nat
 ws:List Nat
def uS (d:Option Nat) (x:XV) (al:bn):bn:=
 match d with
 | some d=>(d,x)::al
 | .none=>al
theorem fP.uS {β : Env} {n nt:Nat} {al:bn} {a:Act}(h:fP β n nt (rg al) a.tmps) (d:Option Nat) {x:XV} {v:Value}(hv:aS β n x v) (hd:∀ t,d=some t→t<nt):fP β n nt (rg (Xm.uS d x al)) (a.put d v).tmps:=by
 have:=h.put d hv hd
 cases d with
 | none=>exact this
 | some d=>
   have e:(fun t=>if some d=some t then x else rg al t)=rg (Xm.uS (some d) x al):=by
    funext t
    simp only [Xm.uS,rg,Option.some.injEq,eq_comm (a:=d)]
   rw [e]at this
   exact this
def aJ (O:df) (P:Program) (ops:Array Oper) (al:bn) (hs:ak) (o:Oper) (x:XV) (hs':ak) (b:Ab):Prop:=
 ∀ m,bG m hs→∃ m',jS O P ops (rg al) o m=some ⟨x,m',b.eff,b.fp⟩∧bG m' hs'∧∀ j,j∉b.ws→(m'.fV j).ver=(m.fV j).ver
inductive kb (O:df) (P:Program) (ops:Array Oper) (nt:Nat):List Oper→bn→ak→List Ab→bn→ak→Prop where
 | nil {al:bn} {hs:ak}:kb O P ops nt [] al hs [] al hs
 | cons {o:Oper} {l:List Oper} {al al':bn} {hs hs1 hs':ak} {x:XV} {b:Ab} {bs:List Ab}:aJ O P ops al hs o x hs1 b→(∀ d,o.dst=some d→d<nt)→kb O P ops nt l (uS o.dst x al) hs1 bs al' hs'→kb O P ops nt (o::l) al hs (b::bs) al' hs'
section
variable {O:df} {P:Program} {ops:Array Oper} {nt nI:Nat}
theorem D8 (hO:aN P O) {Q:Exit→Act→World→Prop} {l:List Oper} {al al':bn} {hs hs':ak} {bs:List Ab}(h:kb O P ops nt l al hs bs al' hs'):∀ {m:Mem} {β : Env} {w:World} {a:Act},bG m hs→fP β m.n nt (rg al) a.tmps→Rel β m w →
 (∀ m' a' β' w',bG m' hs'→fP β' m'.n nt (rg al') a'.tmps→a'.defers=a.defers→Step β m w β' m' w'→Q .normal a' w')→wpList P ops Q l a w:=by
 induction h with
 | nil=>
   intro m β w a hm hr hw hq
   exact hq m a β w hm hr rfl (Step.refl hw)
 | cons ho hd _ ih=>
   rename_i o l al al' hs hs1 hs' x b bs _
   intro m β w a hm hr hw hq
   obtain⟨m1,h1,h2,_⟩:=ho m hm
   unfold jS at h1
   unfold wpList
   split at h1
   · rename_i hwt
     rw [if_pos (fM hwt hr)]
     refine .inl (ru hO h1 hw (fun x=>hr.eval x) a _ Q rfl fun u β' w' hu hst=>?_)
     refine ih h2 ((hr.ext hst.ext hst.le).uS o.dst hu hd) hst.rel fun m' a'' β'' w'' k1 k2 k3 k4=>?_
     exact hq m' a'' β'' w'' k1 k2 (by rw [k3,cV]) (hst.trans k4)
   · rename_i hwt
     simp only [Option.some.injEq,Out.mk.injEq]at h1
     obtain⟨rfl,rfl,_,_⟩:=h1
     have:=fM hwt hr
     rw [if_neg (by simp [this])]
     refine ih h2 (hr.uS o.dst aS.skip hd) hw fun m' a'' β'' w'' k1 k2 k3 k4=>?_
     exact hq m' a'' β'' w'' k1 k2 (by rw [k3,cV]) k4
   · cases h1
theorem WX.plain (hO:aN P O) {id:Nat} {al al':bn} {hs hs':ak} {bs:List Ab} {K:cR}(h:kb O P ops nt ops.toList al hs bs al' hs') (hk:K .normal al' hs'):WX P nt nI (.code (.region id ops false)) al hs K:=
 fun _ _ _ _ _ hm _ _ _ _ hr hw hq=>wp_region_list (D8 hO h hm hr hw.rel fun m' a' β' w' k1 k2 k3 k4=>hq .normal al' hs' m' hk k1 a' β' w' k2 k3 (hw.trans k4))
theorem k_ (g:Nat→XV) (nt:Nat) (hn:nt<1000000) (ho:∀ t,nt≤t→g t = .undef):∃ r:T XV,∀ t,r.get .undef t=g t:=by
 have : ∀ k,k≤nt→∃ r:T XV,∀ t,r.get .undef t=if t<k then g t else .undef:=by
  intro k
  induction k with
  | zero=>intro _;exact⟨.leaf,fun t=>by simp [T.eZ]⟩
  | succ k ih=>
    intro hk
    obtain⟨r,hr⟩:=ih (by omega)
    refine⟨r.set .undef 31 k (g k),fun t=>?_⟩
    by_cases ht:t=k
    · subst ht
      rw [T.f6 _ _ _ _ _ (by omega)]
      simp
    · rw [T.fh _ _ _ _ _ _ ht,hr t]
      by_cases h1:t<k
      · rw [if_pos h1,if_pos (by omega)]
      · rw [if_neg h1,if_neg (by omega)]
 obtain⟨r,hr⟩:=this nt (Nat.le_refl _)
 refine⟨r,fun t=>?_⟩
 rw [hr t]
 split
 · rfl
 · exact(ho t (by omega)).symm
def GD (bs:List Nat) (i:Nat) (di:Ab) (e:Nat) (de:Ab):Bool:=
 !de.eff || i == e || ((!(di.eff && decide (e<i)) || bit bs i e) &&
  (match di.fp with
    | .none=>true
    | some fp=>bit bs i e || bit bs e i || !(de.ws.contains fp)))
def u_ (bs:List Nat) (tr:List Ab):Bool:=
 (List.range tr.length).all fun i=>match tr[i]? with
   | .none=>true
   | some di=>(!di.eff && di.fp.isNone) || (List.range tr.length).all fun e=>match tr[e]? with
     | .none=>true
     | some de=>GD bs i di e de
def E3:List (Mem × Out)→List Ab→Prop:=cz fun p b=>p.2.eff=b.eff∧p.2.fp=b.fp∧∀ j,j∉b.ws→(p.2.m.fV j).ver=(p.1.fV j).ver
theorem cz.get? {α γ : Type} {R : α → γ→Prop}:∀ {l:List α} {k:List γ},cz R l k→∀(i:Nat) (a : α),l[i]? = some a→∃ b,k[i]? = some b∧R a b
 | _,_,.nil,i,a,h=>by simp at h
 | _,_,.cons h t,0,a,h1=>by simp at h1;subst h1;exact⟨_,rfl,h⟩
 | _,_,.cons h t,i+1,a,h1=>by simp at h1;exact t.get? i a h1
theorem Df {bs:List Nat} {tr:List (Mem × Out)} {ab:List Ab}(ht:E3 tr ab) (h:u_ bs ab=true):gU bs tr=true:=by
 have hl:tr.length=ab.length:=cz.length ht
 unfold u_ at h
 unfold gU
 rw [List.all_eq_true]at h ⊢
 intro i hi
 have hi':=h i (by rw [←hl];exact hi)
 split
 · rfl
 · rename_i mi di hdi
   obtain⟨bi,hb,h1,h2,_⟩:=cz.get? ht i _ hdi
   simp only at h1 h2
   rw [hb]at hi'
   simp only [Bool.or_eq_true]at hi' ⊢
   rw [h1,h2]
   rcases hi' with hi'|hi'
   · exact .inl hi'
   · refine .inr (List.all_eq_true.2 fun e he=>?_)
     have he':=List.all_eq_true.1 hi' e (by rw [←hl];exact he)
     split
     · rfl
     · rename_i me de hde
       obtain⟨be,hbe,k1,k2,k3⟩:=cz.get? ht e _ hde
       simp only at k1 k2 k3
       rw [hbe]at he'
       unfold iS
       unfold GD at he'
       rw [h1,h2,k1]
       simp only [Bool.or_eq_true,Bool.and_eq_true]at he' ⊢
       rcases he' with he'|⟨ha,hb'⟩
       · exact .inl he'
       · refine .inr ⟨ha,?_⟩
         cases hf:bi.fp with
         | none=>rfl
         | some fp=>
           rw [hf]at hb'
           simp only [Bool.or_eq_true]at hb' ⊢
           rcases hb' with hb'|hb'
           · exact .inl hb'
           · refine .inr ?_
             have:fp∉be.ws:=by simpa using hb'
             rw [k3 fp this]
             simp
theorem Kq {r:T XV} {al:bn}(hr:∀ t,r.get .undef t=rg al t) (hn:nt<1000000) (d:Option Nat) (x:XV) (hd:∀ t,d=some t→t<nt):∀ t,(np nt r d x).get .undef t=rg (uS d x al) t:=by
 intro t
 cases d with
 | none=>exact hr t
 | some d=>
   have:=hd d rfl
   simp only [np,this,if_true,uS,rg]
   by_cases ht:t=d
   · subst ht
     rw [T.f6 _ _ _ _ _ (by omega),if_pos rfl]
   · rw [T.fh _ _ _ _ _ _ ht,if_neg ht]
     exact hr t
theorem jZ (hn:nt<1000000) {l:List Oper} {al al':bn} {hs hs':ak} {bs:List Ab}(h:kb O P ops nt l al hs bs al' hs'):∀ {m:Mem} {r:T XV},bG m hs→(∀ t,r.get .undef t=rg al t) →
 ∃ tr r' m',gv O P ops nt l r m=some (tr,r',m')∧(∀ t,r'.get .undef t=rg al' t)∧bG m' hs'∧E3 tr bs:=by
 induction h with
 | nil=>
   intro m r hm hr
   exact⟨[],r,m,rfl,hr,hm,.nil⟩
 | cons ho hd _ ih=>
   rename_i o l al al' hs hs1 hs' x b bs _
   intro m r hm hr
   obtain⟨m1,h1,h2,h3⟩:=ho m hm
   have e:(fun t=>r.get .undef t)=rg al:=funext hr
   obtain⟨tr,r',m',k1,k2,k3,k4⟩:=ih h2 (Kq hr hn o.dst x hd)
   refine⟨(m,⟨x,m1,b.eff,b.fp⟩)::tr,r',m',?_,k2,k3,.cons ⟨rfl,rfl,h3⟩ k4⟩
   unfold gv
   have h1':jS O P ops (r.get .undef) o m=some ⟨x,m1,b.eff,b.fp⟩:=by rw [show(r.get .undef)=rg al from e];exact h1
   rw [h1']
   simp only [k1]
theorem WX.drawn (hO:aN P O) (hP:P.follows .mixedOrders=true) {id:Nat} {al al':bn} {hs hs':ak} {bs:List Ab} {K:cR}(hst:bK ops nt (fx ops.toList)=true) (h:kb O P ops nt ops.toList al hs bs al' hs') (hdy:u_ (fx ops.toList) bs=true)
 (hk:K .normal al' hs'):WX P nt nI (.code (.region id ops true)) al hs K:=by
 intro βI mI wI hn m hm β w a Q hr hw hq
 obtain⟨r,hrr⟩:=k_ (rg al) nt hr.small hr.out
 obtain⟨tr,r',m',h1,h2,h3,h4⟩:=jZ hr.small h hm hrr
 have hx:jn O P ops nt r m=some (r',m'):=by
  refine kJ ?_
  unfold gE h_
  rw [if_pos hst,h1]
  simp only []
  rw [if_pos (Df h4 hdy)]
 have e:(r.get .undef)=rg al:=funext hrr
 have e':(r'.get .undef)=rg al':=funext h2
 refine oU hO hP hx (by unfold jz;rw [e];exact hr) hw.rel fun a' β' w' k1 k2 k3=>?_
 unfold jz at k1
 rw [e']at k1
 exact hq .normal al' hs' m' hk h3 a' β' w' k1 k2 (hw.trans k3)
end
end Go.Xm
namespace Go.Xm
variable [az]
theorem bG.at {m:Mem} {hs:ak}(h:bG m hs) {i:Nat} {o:aj}(ho:hs[i]? = some o):m.get i=o:=by
 have hi:i<m.n:=by
  have:=(List.getElem?_eq_some_iff.1 ho).1
  rw [h.n];exact this
 rw [h.get i hi,List.getD_eq_getElem?_getD,ho];rfl
theorem bG.lt {m:Mem} {hs:ak}(h:bG m hs) {i:Nat} {o:aj}(ho:hs[i]? = some o):i<m.n∧i<Mem.bound:=by
 have:=(List.getElem?_eq_some_iff.1 ho).1
 have h1:=h.n
 have h2:=h.bnd
 omega
theorem bG.put {m:Mem} {hs:ak}(h:bG m hs) {i:Nat} {o:aj}(ho:hs[i]? = some o) (o':aj):bG (m.put i o') (hs.set i o'):=by
 obtain⟨h1,h2⟩:=h.lt ho
 refine⟨by rw [Mem.fE,List.length_set];exact h.n,by rw [Mem.fE];exact h.bnd,b_.put h.fresh o',fun j hj=>?_⟩
 rw [Mem.fE]at hj
 by_cases hji:j=i
 · subst hji
   rw [Mem.ig m o' h1 h2]
   have:j<hs.length:=by rw [←h.n];exact hj
   simp [List.getD_eq_getElem?_getD,this]
 · rw [Mem.f5 m o' hji,h.get j hj]
   simp [List.getD_eq_getElem?_getD,List.getElem?_set_ne (Ne.symm hji)]
theorem sD {m:Mem} {i:Nat} {o:aj}:∀ j,j∉[i]→((m.put i o).fV j).ver=(m.fV j).ver:=by
 intro j hj
 rw [Mem.ic m o (by simpa using hj)]
theorem bG.push {m:Mem} {hs:ak}(h:bG m hs) (o:aj) (hb:hs.length<Mem.bound):∃ m',m.push o=some m'∧bG m' (hs++[o])∧∀ j,j∉[hs.length]→(m'.fV j).ver=(m.fV j).ver:=by
 have hn:=h.n
 obtain⟨m',hp⟩:∃ m',m.push o=some m':=by
  unfold Mem.push
  rw [if_pos (by omega)]
  exact⟨_,rfl⟩
 obtain⟨_,h2,h3,h4⟩:=Mem.bD hp
 refine⟨m',hp,⟨by rw [h2,hn];simp,by omega,b_.push h.fresh hp,fun j hj=>?_⟩,fun j hj=>?_⟩
 · by_cases hjn:j=m.n
   · subst hjn
     unfold Mem.get
     rw [h3,hn]
     simp [List.getD_eq_getElem?_getD]
   · have:m'.get j=m.get j:=by unfold Mem.get;rw [h4 j hjn]
     rw [this,h.get j (by omega),List.getD_eq_getElem?_getD,List.getD_eq_getElem?_getD,List.getElem?_append_left (by omega)]
 · rw [h4 j (by rw [hn];simpa using hj)]
section
variable {O:df} {P:Program} {ops:Array Oper} {al:bn} {hs:ak} {o:Oper}
abbrev quiet:Ab:=⟨false,.none,[]⟩
theorem aJ.skip (hw:aw ops (rg al) o=some false):aJ O P ops al hs o (.tup []) hs quiet:=
 fun m hm=>⟨m,by unfold jS;rw [hw],hm,fun _ _=>rfl⟩
theorem aJ.pure (hw:aw ops (rg al) o=some true) {x:XV}(h:bj P (ai (rg al)) o.op=some x):aJ O P ops al hs o x hs quiet:=
 fun m hm=>⟨m,by unfold jS;rw [hw];simp only [dT,dU,h],hm,fun _ _=>rfl⟩
theorem ry (hop:bj P (ai (rg al)) o.op = .none) (hx:o4 O (ai (rg al)) o.op = .none) {i:Nat} {f:aj→Option XV}(hr:fG P (ai (rg al)) o.op=some (i,f)) {x:XV} {m:Mem}(hf:f (m.get i)=some x) :
 dT O P (ai (rg al)) o.op m=some ⟨x,m,false,some i⟩:=by
 simp only [dT,dU,hop,hx,hr,hf]
theorem aJ.load (hw:aw ops (rg al) o=some true) {t:TypeId} {a:Operand}(ho:o.op = .load t a) {i off:Nat}(ha:ai (rg al) a = .one (.ptr i off)) {vs:List XC} {e:TypeId} {opn ro:Bool}(hi:hs[i]? = some (.cells vs e opn ro)) {x:X1}(hl:eR P t vs off=some x) :
 aJ O P ops al hs o x.rr hs ⟨false,some i,[]⟩:=by
 intro m hm
 refine⟨m,?_,hm,fun _ _=>rfl⟩
 unfold jS
 rw [hw]
 obtain⟨f,hf1,hf2⟩:∃ f,fG P (ai (rg al)) o.op=some (i,f)∧∀ vs' e' o' r',f (.cells vs' e' o' r')=(eR P t vs' off).map X1.rr:=by
  rw [ho]
  simp only [fG,ha]
  exact⟨_,rfl,fun _ _ _ _=>rfl⟩
 refine ry (by rw [ho];rfl) (by rw [ho];rfl) hf1 ?_
 rw [hm.at hi,hf2,hl]
 rfl
theorem Gi {t:TypeId} {vs:List XC} {off:Nat} {c:XC}(h:i3 P t=some false) (hc:vs[off]? = some c):eR P t vs off=some (.one c):=by
 unfold eR;rw [h,hc]
theorem yL {t:TypeId} {vs:List XC}(h:i3 P t=some true) (hs:cy P t=some vs.length):eR P t vs 0=some (.agg vs):=by
 unfold eR;rw [h,hs];simp
theorem cQ (hop:bj P (ai (rg al)) o.op = .none) (hx:o4 O (ai (rg al)) o.op = .none) (hr:fG P (ai (rg al)) o.op = .none) {x:XV} {m m':Mem}(hf:cw P (ai (rg al)) o.op m=some (x,m')) :
 dT O P (ai (rg al)) o.op m=some ⟨x,m',true,.none⟩:=by
 simp only [dT,dU,hop,hx,hr,hf]
theorem aJ.store (hw:aw ops (rg al) o=some true) {t:TypeId} {a y:Operand}(ho:o.op = .store t a y) {i off:Nat}(ha:ai (rg al) a = .one (.ptr i off)) {cs:List XC}(hy:db (ai (rg al) y)=some cs) (hsz:cy P t=some cs.length)
 {vs:List XC} {e:TypeId} {opn:Bool}(hi:hs[i]? = some (.cells vs e opn false)) (hle:off+cs.length≤vs.length) {vs':List XC}(hv:vs.take off++cs++vs.drop (off+cs.length)=vs') :
 aJ O P ops al hs o (.tup []) (hs.set i (.cells vs' e opn false)) ⟨true,.none,[i]⟩:=by
 intro m hm
 refine⟨m.put i (.cells vs' e opn false),?_,hm.put hi _,sD⟩
 unfold jS
 rw [hw]
 refine cQ (by rw [ho];rfl) (by rw [ho];rfl) (by rw [ho];rfl) ?_
 rw [ho]
 simp only [cw,kO,ha,hy,hsz,if_true,hm.at hi,if_pos hle,hv]
theorem Ea {vs:List XC} {off:Nat} {c:XC}(h:off<vs.length):vs.take off++[c]++vs.drop (off + [c].length)=vs.set off c:=by
 rw [List.set_eq_take_append_cons_drop,if_pos h];simp
theorem D_ {vs cs:List XC}(h:cs.length=vs.length):vs.take 0++cs++vs.drop (0+cs.length)=cs:=by simp [h]
theorem aJ.alloc (hw:aw ops (rg al) o=some true) {t:TypeId}(ho:o.op = .alloc t) {zs:List XC}(hz:pn P t=some zs) (hb:Nat.blt hs.length Mem.bound=true) :
 aJ O P ops al hs o (.one (.ptr hs.length 0)) (hs++[.cells zs t false false]) ⟨true,.none,[hs.length]⟩:=by
 intro m hm
 obtain⟨m',h1,h2,h3⟩:=hm.push (.cells zs t false false) (by simpa [Nat.blt_eq]using hb)
 refine⟨m',?_,h2,h3⟩
 unfold jS
 rw [hw]
 refine cQ (by rw [ho];rfl) (by rw [ho];rfl) (by rw [ho];rfl) ?_
 rw [ho]
 simp only [cw,mY,hz,xD,h1,hm.n]
theorem aJ.box (hw:aw ops (rg al) o=some true) {t:TypeId} {y:Operand}(ho:o.op = .box t y) {cs:List XC}(hy:db (ai (rg al) y)=some cs) (hb:Nat.blt hs.length Mem.bound=true) :
 aJ O P ops al hs o (.one (.ptr hs.length 0)) (hs++[.cells cs t false false]) ⟨true,.none,[hs.length]⟩:=by
 intro m hm
 obtain⟨m',h1,h2,h3⟩:=hm.push (.cells cs t false false) (by simpa [Nat.blt_eq]using hb)
 refine⟨m',?_,h2,h3⟩
 unfold jS
 rw [hw]
 refine cQ (by rw [ho];rfl) (by rw [ho];rfl) (by rw [ho];rfl) ?_
 rw [ho]
 simp only [cw,EH,hy,xD,h1,hm.n]
theorem aJ.bin (hw:aw ops (rg al) o=some true) {op:BinOp} {t t':TypeId} {a b:Operand}(ho:o.op = .binOp op t a b t') {k k':IntKind} {x y:Int}(ha:ai (rg al) a = .one (.int k x)) (hb:ai (rg al) b = .one (.int k' y)) {c:XC}(hc:bO op k k' x y=some c) :
 aJ O P ops al hs o (.one c) hs quiet:=
 aJ.pure hw (by rw [ho];simp only [bj,rz,ha,hb,hc,Option.map_some])
theorem BS {k:IntKind} {x y z:Int}(hy:y≠0) (h:x.tmod y=z):bO .rem k k x y=some (.int k z):=by simp only [bO,dN,if_true,hy,if_false,h]
theorem aJ.index (hw:aw ops (rg al) o=some true) {t:TypeId} {a b:Operand}(ho:o.op = .indexAddr t a b) {i off s len j:Nat} {elem:TypeId}(ha:ai (rg al) a = .one (.ptr i off)) {k:IntKind}(hb:ai (rg al) b = .one (.int k (j:Nat)))
 (ht:P.underlying t=some (.array len elem)) (hsz:cy P elem=some s) (hj:j<len) {p:Nat}(hp:off+j*s=p):aJ O P ops al hs o (.one (.ptr i p)) hs quiet:=
 aJ.pure hw (by
  rw [ho]
  have h1:(0:Int)≤(j:Int)∧(j:Int)<(len:Int):=by omega
  simp only [bj,cC,ha,hb,ht,hsz,if_pos h1,Option.map_some,Int.toNat_natCast,hp])
theorem aJ.elem (hw:aw ops (rg al) o=some true) {t:TypeId} {a b:Operand}(ho:o.op = .index t a b) {len j:Nat} {elem:TypeId} {cs:List XC}(ha:ai (rg al) a = .agg cs) {k:IntKind}(hb:ai (rg al) b = .one (.int k (j:Nat)))
 (ht:P.underlying t=some (.array len elem)) (hsz:cy P elem=some 1) (hg:i3 P elem=some false) (hj:j<len) {c:XC}(hc:cs[j]? = some c):aJ O P ops al hs o (.one c) hs quiet:=
 aJ.pure hw (by
  rw [ho]
  have h1:(0:Int)≤(j:Int)∧(j:Int)<(len:Int):=by omega
  simp only [bj,pW,ha,hb,ht,hsz,if_pos h1,Int.toNat_natCast,Nat.mul_one,i4,hg,hc,Option.map_some,X1.rr])
theorem aJ.call (hw:aw ops (rg al) o=some true) {g:Operand} {args:Array Operand} {ts:Array TypeId}(ho:o.op = .call ⟨.value g,args,ts⟩) {f:FuncId}(hg:ai (rg al) g = .one (.fn f)) (hcb:fe P f=true) {vs:List XV}(ha:args.toList.map (ai (rg al))=vs)
 {x:XV} {hs':ak} {ws:List Nat}(hc:∀ m,bG m hs→∃ m',O.call f vs m=some (x,m')∧bG m' hs'∧∀ j,j∉ws→(m'.fV j).ver=(m.fV j).ver):aJ O P ops al hs o x hs' ⟨true,.none,ws⟩:=by
 intro m hm
 obtain⟨m',h1,h2,h3⟩:=hc m hm
 refine⟨m',?_,h2,h3⟩
 unfold jS
 rw [hw]
 have e:c_ O P (ai (rg al)) o.op m=some (x,m'):=by
  rw [ho]
  simp only [c_,hg,xU,hcb,if_true,List.map_nil,List.append_nil,ha,h1]
 have n1:bj P (ai (rg al)) o.op = .none:=by rw [ho];rfl
 have n2:o4 O (ai (rg al)) o.op = .none:=by rw [ho];rfl
 have n3:fG P (ai (rg al)) o.op = .none:=by rw [ho];rfl
 have n4:cw P (ai (rg al)) o.op m = .none:=by rw [ho];rfl
 simp only [dT,dU,n1,n2,n3,n4,e]
end
end Go.Xm
namespace Go.Xm
variable [az]
def mw:List XV→Nat→bn
 | [],_=>[]
 | x::l,i=>(i,x)::mw l (i+1)
theorem tV:∀(l:List XV) (i j:Nat),rg (mw l i) j=if i≤j∧j<i+l.length then l.getD (j-i) .undef else .undef
 | [],i,j=>by simp [mw,rg]
 | x :: l,i,j=>by
   simp only [mw,rg,List.length_cons]
   by_cases h:j=i
   · subst h
     rw [if_pos rfl,if_pos (by omega)]
     simp
   · rw [if_neg h,tV l (i+1) j]
     by_cases h1:i+1≤j∧j<i+1+l.length
     · rw [if_pos h1,if_pos (by omega)]
       obtain⟨k,hk⟩:∃ k,j-i=k+1:=⟨j-i-1,by omega⟩
       rw [hk,show j-(i+1)=k by omega]
       rfl
     · rw [if_neg h1,if_neg (by omega)]
def si (P:Program) (fn:Func) (al:bn) (hs:ak) (v:XV):Prop:=∀ m,bG m hs→dD P fn (rg al) m=some v
theorem yA:bG Mem.empty []:=⟨rfl,Nat.zero_le _,rQ,fun i hi=>absurd hi (Nat.not_lt_zero i)⟩
def lT:ak→Mem
 | hs=>hs.foldl (fun m o=>(m.push o).getD m) Mem.empty
theorem iA (hs:ak) (hb:hs.length<Mem.bound):bG (lT hs) hs:=by
 have:∀(l k:ak) (m:Mem),bG m k→k.length+l.length<Mem.bound→bG (l.foldl (fun m o=>(m.push o).getD m) m) (k++l):=by
  intro l
  induction l with
  | nil=>intro k m hm _;simpa using hm
  | cons o l ih=>
    intro k m hm hlen
    simp only [List.length_cons]at hlen
    obtain⟨m',h1,h2,_⟩:=hm.push o (by omega)
    simp only [List.foldl_cons,h1,Option.getD_some]
    have:=ih (k++[o]) m' h2 (by simp;omega)
    simpa using this
 have h:=this hs [] Mem.empty yA (by simpa using hb)
 simpa [lT]using h
def OG (P:Program) (f:FuncId) (args:List XV) (v:XV):Prop:=∀ m,dW P f args m v m
theorem kn {P:Program} {r:uI}(h:r.OH P):OG P r.f r.args r.v:=by
 obtain⟨h1,m',h2⟩:=h
 simp only [uI.He,Bool.and_eq_true,List.all_eq_true]at h1
 exact fun m=>forget h2 h1.1 h1.2 m
end Go.Xm
namespace Go.Xm
variable [az]
def ny (O:df) (P:Program) (ops:Array Oper) (nt:Nat) (l:List Oper) (al:bn) (hs:ak) (K:List Ab→bn→ak→Prop):Prop:=
 ∃ bs al' hs',kb O P ops nt l al hs bs al' hs'∧K bs al' hs'
section
variable {O:df} {P:Program} {ops:Array Oper} {nt nI:Nat} {al:bn} {hs:ak} {o:Oper}
theorem ny.nil {K:List Ab→bn→ak→Prop}(h:K [] al hs):ny O P ops nt [] al hs K:=⟨[],al,hs,.nil,h⟩
theorem ny.cons {o:Oper} {l:List Oper} {x:XV} {hs1:ak} {b:Ab} {K:List Ab→bn→ak→Prop}(h:aJ O P ops al hs o x hs1 b) (hd:(match o.dst with | .none=>true|some d=>decide (d<nt))=true)
 (hk:ny O P ops nt l (uS o.dst x al) hs1 fun bs=>K (b::bs)):ny O P ops nt (o::l) al hs K:=by
 obtain⟨bs,al',hs',h1,h2⟩:=hk
 exact⟨b::bs,al',hs',.cons h (fun d hd'=>by rw [hd']at hd;exact of_decide_eq_true hd) h1,h2⟩
theorem WX.N3 (hO:aN P O) {id:Nat} {K:cR}(h:ny O P ops nt ops.toList al hs fun _ al' hs'=>K .normal al' hs'):WX P nt nI (.code (.region id ops false)) al hs K:=by
 obtain⟨bs,al',hs',h1,h2⟩:=h
 exact WX.plain hO h1 h2
theorem WX.M6 (hO:aN P O) (hP:P.follows .mixedOrders=true) {id:Nat} {K:cR}(hst:bK ops nt (fx ops.toList)=true) (h:ny O P ops nt ops.toList al hs fun bs al' hs'=>u_ (fx ops.toList) bs=true∧K .normal al' hs'):WX P nt nI (.code (.region id ops true)) al hs K:=by
 obtain⟨bs,al',hs',h1,h2,h3⟩:=h
 exact WX.drawn hO hP hst h1 h2 h3
theorem WX.at {c:uY} {al':bn} {hs':ak} {K:cR}(hl:uH al' al) (hh:hs=hs') (h:WX P nt nI c al' hs' K):WX P nt nI c al hs K:=by
 subst hh
 exact WX.less hl h
theorem WX.count {c:Code} {K:cR}(R:Nat→bn) (H:Nat→ak) (I:Nat→Prop) (N:Nat) (h0:I 0)
 (step:∀ i,i≤N→I i→(i<N→I (i+1)→WX P nt nI (.round c) (R (i+1)) (H (i+1)) K)→WX P nt nI (.round c) (R i) (H i) K):WX P nt nI (.round c) (R 0) (H 0) K:=by
 have:∀ d i,i+d=N→I i→WX P nt nI (.round c) (R i) (H i) K:=by
  intro d
  induction d with
  | zero=>intro i hi h;exact step i (by omega) h fun hlt=>absurd hlt (by omega)
  | succ d ih=>intro i hi h;exact step i (by omega) h fun hlt h'=>ih (i+1) (by omega) h'
 exact this N 0 (by omega) h0
theorem WX.On {c:Code} {K:cR}(al':bn) (hs':ak) (h1:WX P nt nI (.code c) al hs fun e al1 hs1=>e = .normal∧uH al' al1∧hs1=hs') (h2:∀ al1,uH al' al1→K .normal al1 hs'):WX P nt nI (.code c) al hs K:=
 h1.mono fun e al1 hs1 ⟨he,hl,hh⟩=>by
  subst he;subst hh
  exact h2 al1 hl
theorem aJ.conv (hw:aw ops (rg al) o=some true) {s d:TypeId} {y:Operand}(ho:o.op = .convert s d y) {k k':IntKind} {x z:Int}(hy:ai (rg al) y = .one (.int k x)) (hc:kH P s d (.one (.int k x))=some (.one (.int k' (jb k' x)))) (hz:k'.wrap x=z) :
 aJ O P ops al hs o (.one (.int k' z)) hs quiet:=
 aJ.pure hw (by rw [ho];simp only [bj,hy,hc,cI,hz])
theorem si.tmp {fn:Func} {a:Nat} {y:X1}(hr:fn.results.toList = [.tmp a]) (ha:pS (rg al a)=some y):si P fn al hs y.rr:=by
 intro m hm
 unfold dD
 rw [hr]
 simp only [gu,uv,ha]
end
end Go.Xm
namespace Go.Xm
class aU (P:Program) (t:TypeId) (s:outParam Nat):Prop where out:cy P t=some s
class dJ (P:Program) (t:TypeId):Prop where out:i3 P t=some false
class eJ (P:Program) (t:TypeId):Prop where out:i3 P t=some true
class bC (P:Program) (t:TypeId) (zs:outParam (List XC)):Prop where out:pn P t=some zs
class bh (P:Program) (t:TypeId) (d:outParam TypeDesc):Prop where out:P.underlying t=some d
class dP (P:Program) (t:TypeId) (l:outParam (List (Nat × Nat))):Prop where out:∃ fs,P.underlying t=some (.struct fs)∧oW P fs.toList=some l
class cE (P:Program) (s:TypeId) (f:Nat) (ft:outParam TypeId) (off:outParam Nat):Prop where out:(jM P s f).map (fun fd=>(fd.type,fd.offset))=some (ft,off)
theorem cE.ex {P:Program} {s:TypeId} {f:Nat} {ft:TypeId} {off:Nat} [h:cE P s f ft off]:∃ fd,jM P s f=some fd∧fd.type=ft∧fd.offset=off:=by
 obtain⟨fd,h1,h2⟩:=Option.map_eq_some_iff.1 h.out
 cases h2
 exact⟨fd,h1,rfl,rfl⟩
def ti (k:IntKind) (n:Nat) (f:Nat→Int):List XC:=(List.range n).map fun i => .int k (f i)
def cW (f:Nat→Int) (j:Nat) (x:Int) (i:Nat):Int:=if i=j then x else f i
theorem aE (k:IntKind) (n:Nat) (f:Nat→Int):(ti k n f).length=n:=by simp [ti]
theorem gP {k:IntKind} {n:Nat} {f:Nat→Int} {j:Nat}(h:j<n):(ti k n f)[j]? = some (.int k (f j)):=by simp [ti,h]
theorem rq (k:IntKind) (n:Nat) (f:Nat→Int) (j:Nat) (x:Int):(ti k n f).set j (.int k x)=ti k n (cW f j x):=by
 apply List.ext_getElem?
 intro i
 rw [List.getElem?_set]
 by_cases hj:j=i
 · subst hj
   by_cases hn:j<n
   · rw [if_pos rfl,if_pos (by rw [aE];exact hn),gP hn];simp [cW]
   · rw [if_pos rfl,if_neg (by rw [aE];exact hn),List.getElem?_eq_none (by rw [aE];omega)]
 · rw [if_neg hj]
   by_cases hn:i<n
   · rw [gP hn,gP hn];simp [cW,Ne.symm hj]
   · rw [List.getElem?_eq_none (by rw [aE];omega),List.getElem?_eq_none (by rw [aE];omega)]
theorem n_ {k:IntKind} {n:Nat} {f g:Nat→Int}(h:∀ i,i<n→f i=g i):ti k n f=ti k n g:=by
 unfold ti
 exact List.map_congr_left fun i hi=>by rw [h i (List.mem_range.1 hi)]
end Go.Xm
namespace Go.Xm
def XC.au (τ : Nat→Nat):XC→XC
 | .ptr i off => .ptr (τ i) off
 | .slice i off len cap => .slice (τ i) off len cap
 | .map i => .map (τ i)
 | .bind g c => .bind (g.au τ) (c.au τ)
 | c=>c
def X1.au (τ : Nat→Nat):X1→X1
 | .one c => .one (c.au τ)
 | .agg cs => .agg (cs.map (·.au τ))
def XV.au (τ : Nat→Nat):XV→XV
 | .undef => .undef
 | .one c => .one (c.au τ)
 | .agg cs => .agg (cs.map (·.au τ))
 | .tup xs => .tup (xs.map (·.au τ))
def aj.au (τ : Nat→Nat):aj→aj
 | .dead => .dead
 | .cells vs e opn ro => .cells (vs.map (·.au τ)) e opn ro
 | .map es => .map (es.map fun p=>(p.1.au τ,p.2.au τ))
def XV.cc (n:Nat):XV→Prop
 | .undef=>True
 | .one c=>c.ok n
 | .agg cs=>∀ c∈cs,c.ok n
 | .tup xs=>∀ x∈xs,x.ok n
def aj.cc (n:Nat):aj→Prop
 | .dead=>True
 | .cells vs _ _ _=>∀ c∈vs,c.ok n
 | .map es=>∀ p∈es,p.1.ok n∧p.2.ok n
theorem XC.mQ {τ : Nat→Nat} {n N:Nat}(h:∀ i,i<n → τ i<N):∀ {c:XC},c.ok n→(c.au τ).ok N:=by
 intro c
 induction c with
 | ptr i off=>exact fun h'=>h i h'
 | slice i off len cap=>exact fun h'=>h i h'
 | map i=>exact fun h'=>h i h'
 | bind g c ih1 ih2=>exact fun h'=>⟨ih1 h'.1,ih2 h'.2⟩
 | _=>intro _;trivial
theorem X1.mQ {τ : Nat→Nat} {n N:Nat}(h:∀ i,i<n → τ i<N):∀ {x:X1},x.ok n→(x.au τ).ok N
 | .one _,h'=>XC.mQ h h'
 | .agg cs,h'=>fun c hc=>by
   obtain⟨d,hd,rfl⟩:=List.mem_map.1 hc
   exact XC.mQ h (h' d hd)
variable [az]
def Ad (β β':Env) (τ : Nat→Nat) (n:Nat):Prop:=∀ i,i<n → β'.c6 (τ i) = β.c6 i ∧ β'.size (τ i) = β.size i ∧ β'.base (τ i) = β.base i
theorem XC.iM {β β':Env} {τ : Nat→Nat} {n:Nat}(h:Ad β β' τ n):∀ {c:XC},c.ok n→(c.au τ).den β'=c.den β:=by
 intro c
 induction c with
 | ptr i off=>intro h';simp only [XC.au,XC.den,(h i h').1,(h i h').2.2]
 | slice i off len cap=>intro h';cases cap <;> simp only [XC.au,XC.den,(h i h').1,(h i h').2.1,(h i h').2.2]
 | map i=>intro h';simp only [XC.au,XC.den,(h i h').1]
 | bind g c ih1 ih2=>intro h';simp only [XC.au,XC.den,ih1 h'.1,ih2 h'.2]
 | _=>intro _;rfl
theorem gT {β β':Env} {τ : Nat→Nat} {n:Nat}(h:Ad β β' τ n) {cs:List XC}(hc:∀ c∈cs,c.ok n):(cs.map (·.au τ)).map (·.den β')=cs.map (·.den β):=by
 rw [List.map_map]
 exact List.map_congr_left fun c hm=>XC.iM h (hc c hm)
theorem X1.iM {β β':Env} {τ : Nat→Nat} {n:Nat}(h:Ad β β' τ n):∀ {x:X1},x.ok n→(x.au τ).den β'=x.den β
 | .one _,h'=>XC.iM h h'
 | .agg cs,h'=>by simp only [X1.au,X1.den,gT h h']
theorem aS.au {β β':Env} {τ : Nat→Nat} {n N:Nat}(h:Ad β β' τ n) (hb:∀ i,i<n → τ i<N) {x:XV} {v:Value}(hr:aS β n x v):aS β' N (x.au τ) v:=by
 cases x with
 | undef=>trivial
 | one c=>exact⟨XC.mQ hb hr.1,hr.2.trans (XC.iM h hr.1).symm⟩
 | agg cs=>
   refine⟨fun c hc=>?_,hr.2.trans (by rw [gT h hr.1])⟩
   obtain⟨d,hd,rfl⟩:=List.mem_map.1 hc
   exact XC.mQ hb (hr.1 d hd)
 | tup xs=>
   refine⟨fun c hc=>?_,hr.2.trans ?_⟩
   · obtain⟨d,hd,rfl⟩:=List.mem_map.1 hc
     exact X1.mQ hb (hr.1 d hd)
   · rw [List.map_map]
     exact congrArg (fun l=>Value.tuple (List.toArray l)) (List.map_congr_left fun c hm=>(X1.iM h (hr.1 c hm)).symm)
theorem aS.vV {β β':Env} {τ : Nat→Nat} {n N:Nat}(h:Ad β β' τ n) {x:XV}(hx:x.cc n) {v:Value}(hr:aS β' N (x.au τ) v):aS β n x v:=by
 cases x with
 | undef=>trivial
 | one c=>exact⟨hx,hr.2.trans (XC.iM h hx)⟩
 | agg cs=>exact⟨hx,hr.2.trans (by rw [gT h hx])⟩
 | tup xs=>
   refine⟨hx,hr.2.trans ?_⟩
   rw [List.map_map]
   exact congrArg (fun l=>Value.tuple (List.toArray l)) (List.map_congr_left fun c hm=>X1.iM h (hx c hm))
theorem f3.au {β β':Env} {τ : Nat→Nat} {n N lo sz:Nat}(h:Ad β β' τ n) (hb:∀ i,i<n → τ i<N) {x:aj} {o:Option Obj}(hr:f3 β n lo sz x o):f3 β' N lo sz (x.au τ) o:=by
 cases x with
 | dead=>trivial
 | cells vs e opn ro=>
   obtain⟨cs,fr,h1,h2,h3,h4,h5,h6⟩:=hr
   refine⟨cs,fr,h1,h2,by rw [List.length_map];exact h3,h4,fun c hc=>?_,?_⟩
   · obtain⟨d,hd,rfl⟩:=List.mem_map.1 hc
     exact XC.mQ hb (h5 d hd)
   · rw [List.length_map,h6,gT h h5]
 | map es=>
   obtain⟨en,clock,h1,h2,h3⟩:=hr
   refine⟨en,clock,h1,fun p hp=>?_,h3.trans ?_⟩
   · obtain⟨d,hd,rfl⟩:=List.mem_map.1 hp
     exact⟨X1.mQ hb (h2 d hd).1,X1.mQ hb (h2 d hd).2⟩
   · rw [List.map_map]
     exact List.map_congr_left fun p hp=>by simp only [Function.comp,X1.iM h (h2 p hp).1,X1.iM h (h2 p hp).2]
theorem f3.vV {β β':Env} {τ : Nat→Nat} {n N lo sz:Nat}(h:Ad β β' τ n) {x:aj}(hx:x.cc n) {o:Option Obj}(hr:f3 β' N lo sz (x.au τ) o):f3 β n lo sz x o:=by
 cases x with
 | dead=>trivial
 | cells vs e opn ro=>
   obtain⟨cs,fr,h1,h2,h3,h4,h5,h6⟩:=hr
   rw [List.length_map]at h3 h6
   exact⟨cs,fr,h1,h2,h3,h4,hx,by rw [h6,gT h hx]⟩
 | map es=>
   obtain⟨en,clock,h1,h2,h3⟩:=hr
   refine⟨en,clock,h1,hx,h3.trans ?_⟩
   rw [List.map_map]
   exact List.map_congr_left fun p hp=>by simp only [Function.comp,X1.iM h (hx p hp).1,X1.iM h (hx p hp).2]
theorem qi {τ : Nat→Nat} {x:aj}:(x.au τ).live=x.live:=by cases x <;> rfl
theorem oE {τ : Nat→Nat} {x:aj}:(x.au τ).own=x.own:=by cases x <;> rfl
structure View (τ : Nat→Nat) (hs1 hs2:ak):Prop where
 lt:∀ j,j<hs2.length → τ j<hs1.length
 inj:∀(i j:Nat) (a b:aj),hs2[i]? = some a→hs2[j]? = some b→a ≠ .dead→b ≠ .dead → τ i = τ j→i=j
 ok:∀(j:Nat) (o:aj),hs2[j]? = some o→o.cc hs2.length
 obj:∀(j:Nat) (o:aj),hs2[j]? = some o→o = .dead∨hs1[τ j]? = some (o.au τ)
theorem bG.get? {m:Mem} {hs:ak}(h:bG m hs) {i:Nat}(hi:i<m.n):hs[i]? = some (m.get i):=by
 have:=h.n
 rw [h.get i hi,List.getD_eq_getElem?_getD,List.getElem?_eq_getElem (by omega)]
 rfl
theorem Rel.view {β : Env} {m m2:Mem} {w:World} {hs1 hs2:ak} {τ : Nat→Nat}(h:Rel β m w) (h1:bG m hs1) (h2:bG m2 hs2) (v:View τ hs1 hs2) {β2:Env}(hv:Ad β2 β τ hs2.length):Rel β2 m2 w:=by
 have n1:=h1.n
 have n2:=h2.n
 have key:∀ i,i<m2.n→m2.get i = .dead∨(m2.get i).cc hs2.length ∧ τ i<m.n∧m.get (τ i)=(m2.get i).au τ:=fun i hi=>by
  have g:=h2.get? hi
  have lt:=v.lt i (by omega)
  rcases v.obj i _ g with e|e
  · exact .inl e
  · refine .inr ⟨v.ok i _ g,by omega,?_⟩
    exact h1.at e
 refine⟨h2.bnd,h2.fresh,fun i hi=>?_,fun i j hi hj li lj hb=>?_⟩
 · rcases key i hi with e|⟨e1,e2,e3⟩
   · rw [e];trivial
   · have:=h.obj (τ i) e2
     rw [e3,(hv i (by omega)).1,(hv i (by omega)).2.1,(hv i (by omega)).2.2]at this
     rw [n2]
     exact this.vV hv e1
 · rcases key i hi with e|⟨_,e2,e3⟩
   · rw [e]at li;cases li
   rcases key j hj with e|⟨_,e2',e3'⟩
   · rw [e]at lj;cases lj
   refine v.inj i j _ _ (h2.get? hi) (h2.get? hj) (fun e=>by rw [e]at li;cases li) (fun e=>by rw [e]at lj;cases lj) (h.inj (τ i) (τ j) e2 e2' (by rw [e3,oE];exact li) (by rw [e3',qi];exact lj) ?_)
   rw [(hv i (by omega)).1,(hv j (by omega)).1]
   exact hb
theorem Rel.xt {β : Env} {m m2:Mem} {hs1 hs2:ak} {τ : Nat→Nat}(h1:bG m hs1) (h2:bG m2 hs2) (v:View τ hs1 hs2) {β2:Env}(hv:Ad β2 β τ hs2.length) {k:Nat}(hi:Iu β2 m2 k):Iu β m k:=by
 obtain⟨i,hi,hl,rfl⟩:=hi
 have n1:=h1.n
 have n2:=h2.n
 have g:=h2.get? hi
 have lt:=v.lt i (by omega)
 rcases v.obj i _ g with e|e
 · rw [e]at hl;cases hl
 · refine⟨τ i,by omega,?_,(hv i (by omega)).1⟩
   rw [h1.at e,oE]
   exact hl
def bt (P:Program) (f:FuncId) (args:List XV) (hs:ak) (v:XV) (hs':ak):Prop:=
 ∀ (m:Mem),bG m hs→∀(β : Env) (w:World) (vs:List Value),cz (aS β m.n) args vs→Rel β m w →
   Calls P f vs.toArray w fun e w'=>∃ u β' m',e = .returned u∧bG m' hs'∧aS β' m'.n v u∧Step β m w β' m' w'
def aH (P:Program) (fn:Func) (n:Nat) (v:XV) (hs':ak):cR:=fun e al hs1=>(e = .normal∨e = .ret)∧∃(v1:XV) (τ : Nat→Nat),si P fn al hs1 v1∧v1=v.au τ∧v.cc hs'.length∧View τ hs1 hs'∧∀ j,j<n → τ j=j
theorem WX.view {P:Program} {nt nI:Nat} {c:uY} {al al2:bn} {hs hs2:ak} {K:cR}(τ : Nat→Nat) (hv:View τ hs hs2) (hid:∀ j,j<nI → τ j=j) (hle:nI≤hs2.length) (hb:Nat.blt hs2.length Mem.bound=true) (hok:∀ t,(rg al2 t).cc hs2.length) (hr:∀ t,rg al2 t = .undef∨rg al t=(rg al2 t).au τ)
 (h:WX P nt nI c al2 hs2 K):WX P nt nI c al hs K:=by
 intro βI mI wI hn m hm β w a Q hrel hst hq
 have hm2:=iA hs2 (by simpa [Nat.blt_eq]using hb)
 have n1:=hm.n
 have n2:=hm2.n
 let β2:Env:=⟨fun i => β.c6 (τ i),fun i => β.base (τ i),fun i => β.size (τ i)⟩
 have hvia:Ad β2 β τ hs2.length:=fun i _=>⟨rfl,rfl,rfl⟩
 have hst2:Step βI mI wI β2 (lT hs2) w:=by
  refine⟨by omega,fun i hi=>?_,hst.rel.view hm hm2 hv hvia,hst.os,hst.tape,hst.output,hst.size,hst.frame,fun k hk hi=>hst.rR k hk (Rel.xt hm hm2 hv hvia hi)⟩
  have:=hst.ext i hi
  show β.c6 (τ i) = βI.c6 i ∧ β.size (τ i) = βI.size i ∧ β.base (τ i) = βI.base i
  rw [hid i (by omega)]
  exact this
 refine h βI mI wI hn (lT hs2) hm2 β2 w a Q ⟨hrel.size,hrel.small,fun t ht=>?_,fun t ht=>?_⟩ hst2 hq
 · rcases hr t with e|e
   · rw [e];trivial
   · have:=hrel.rel t ht
     rw [e]at this
     rw [n2]
     exact this.vV hvia (hok t)
 · rcases hr t with e|e
   · exact e
   · have:=hrel.out t ht
     rw [e]at this
     cases hx:rg al2 t <;> rw [hx]at this <;> first|rfl|cases this
theorem Db {P:Program} {f:FuncId} {fn:Func} {c:Code} {args:List XV} {hs hs':ak} {v:XV}(hf:P.funcs[f]? = some fn) (hb:fn.body=some c) (hn:fn.ntmps<1000000) (hl:args.length≤fn.ntmps) (hle:hs.length≤hs'.length) (hbd:hs'.length<Mem.bound)
 (h:WX P fn.ntmps hs.length (.code c) (mw args 0) hs (aH P fn hs.length v hs')):bt P f args hs v hs':=by
 intro m hm β w vs hall hw
 refine calls_of_wp hf hb ?_
 have hr0:=qe hall hn hl
 have e:(f8 args 0 .leaf).get .undef=rg (mw args 0):=by
  funext j
  rw [mG args 0 .leaf (by omega) j,tV,T.eZ]
 unfold jz at hr0
 rw [e]at hr0
 have nm:=hm.n
 refine h β m w nm m hm β w _ _ hr0 (Step.refl hw) fun x al' hs1 m1 hk hm1 a' β' w' h1 h2 h3=>?_
 obtain⟨hx,v1,τ,hres,rfl,hok,hview,hid⟩:=hk
 obtain⟨u,hu1,hu2⟩:=oo (hres m1 hm1) h3.rel h1
 have hm2:=iA hs' hbd
 have n2:=hm2.n
 let β2:Env:=⟨fun i => β'.c6 (τ i),fun i => β'.base (τ i),fun i => β'.size (τ i)⟩
 have hv:Ad β2 β' τ hs'.length:=fun i _=>⟨rfl,rfl,rfl⟩
 have hst:Step β m w β2 (lT hs') w':=by
  refine⟨by omega,fun i hi=>?_,h3.rel.view hm1 hm2 hview hv,h3.os,h3.tape,h3.output,h3.size,h3.frame,fun k hk hi=>h3.rR k hk (Rel.xt hm1 hm2 hview hv hi)⟩
  have:=h3.ext i hi
  show β'.c6 (τ i) = β.c6 i ∧ β'.size (τ i) = β.size i ∧ β'.base (τ i) = β.base i
  rw [hid i (by omega)]
  exact this
 have hu3:aS β2 (lT hs').n v u:=by rw [n2];exact hu2.vV hv hok
 rcases hx with rfl|rfl <;> exact⟨h2,u,hu1,u,β2,lT hs',rfl,hm2,hu3,hst⟩
def beyond (ρ : Nat→Nat) (n N:Nat) (j:Nat):Nat:=if j<n then ρ j else N+(j-n)
structure Ky (ρ : Nat→Nat) (n:Nat) (HS:ak) (hs':ak) (HS':ak):Prop where
 len:HS'.length=HS.length+(hs'.length-n)
 obj:∀(j:Nat) (o:aj),hs'[j]? = some o→HS'[beyond ρ n HS.length j]? = some (o.au (beyond ρ n HS.length))
 old:∀ i,i<HS.length→(∀ j,j<n → ρ j≠i)→HS'[i]? = HS[i]?
theorem sU {β0 β : Env} {ρ : Nat→Nat} {n N:Nat}(hvia:Ad β0 β ρ n):∀ {args:List XV} {vs:List Value},(∀ x∈args,x.cc n)→cz (aS β N) (args.map (·.au ρ)) vs→cz (aS β0 n) args vs
 | [],_,_,h=>by cases h;exact .nil
 | x::l,_,ha,h=>by
   cases h with
   | cons h1 h2=>exact .cons (h1.vV hvia (ha x (List.mem_cons_self ..))) (sU hvia (fun y hy=>ha y (List.mem_cons_of_mem _ hy)) h2)
theorem Aq {P:Program} {f:FuncId} {args:List XV} {hs hs' HS HS':ak} {v:XV}(hc:bt P f args hs v hs') (hle:hs.length≤hs'.length) (hbd:hs.length<Mem.bound) {ρ : Nat→Nat}(hv:View ρ HS hs) (ha:∀ x∈args,x.cc hs.length) (haf:Ky ρ hs.length HS hs' HS') (hro:∀(j:Nat) (o:aj),hs'[j]? = some o→o.live=true→o.own=false→∃ o0,hs[j]? = some o0∧o0.live=true)
 {M M':Mem}(hM:bG M HS) (hM':bG M' HS'):dW P f (args.map (·.au ρ)) M (v.au (beyond ρ hs.length HS.length)) M':=by
 intro β w vs hall hw
 have hm0:=iA hs hbd
 have n0:=hm0.n
 have N0:=hM.n
 have N1:=hM'.n
 have hlen:=haf.len
 let β0:Env:=⟨fun i => β.c6 (ρ i),fun i => β.base (ρ i),fun i => β.size (ρ i)⟩
 have hvia:Ad β0 β ρ hs.length:=fun i _=>⟨rfl,rfl,rfl⟩
 have hrel0:Rel β0 (lT hs) w:=hw.view hM hm0 hv hvia
 have hargs:cz (aS β0 (lT hs).n) args vs:=by
  rw [n0]
  exact sU hvia ha hall
 refine(hc _ hm0 β0 w vs hargs hrel0).mono fun e w' ⟨u,β1,m1,he,hm1,hu,hst⟩=>?_
 have n1:=hm1.n
 have hsle:=hst.le
 let ρ':=beyond ρ hs.length HS.length
 let β':Env:=⟨fun i=>if i<HS.length then β.c6 i else β1.c6 (i-HS.length+hs.length),fun i=>if i<HS.length then β.base i else β1.base (i-HS.length+hs.length),fun i=>if i<HS.length then β.size i else β1.size (i-HS.length+hs.length)⟩
 have hvia':Ad β1 β' ρ' hs'.length:=by
  intro j hj
  show(if ρ' j<HS.length then β.c6 (ρ' j)else β1.c6 (ρ' j-HS.length+hs.length)) = β1.c6 j∧(if ρ' j<HS.length then β.size (ρ' j)else β1.size (ρ' j-HS.length+hs.length)) = β1.size j∧(if ρ' j<HS.length then β.base (ρ' j)else β1.base (ρ' j-HS.length+hs.length)) = β1.base j
  by_cases h:j<hs.length
  · have e1 : ρ' j = ρ j:=if_pos h
    have e2:=hv.lt j h
    rw [e1,if_pos e2,if_pos e2,if_pos e2]
    have:=hst.ext j (by omega)
    exact⟨this.1.symm,this.2.1.symm,this.2.2.symm⟩
  · have e1 : ρ' j=HS.length+(j-hs.length):=if_neg h
    rw [e1,if_neg (by omega),if_neg (by omega),if_neg (by omega),show HS.length+(j-hs.length)-HS.length+hs.length=j by omega]
    exact⟨rfl,rfl,rfl⟩
 have hlt':∀ j,j<hs'.length → ρ' j<HS'.length:=by
  intro j hj
  by_cases h:j<hs.length
  · have e1 : ρ' j = ρ j:=if_pos h
    have e2:=hv.lt j h
    omega
  · have e1 : ρ' j=HS.length+(j-hs.length):=if_neg h
    omega
 refine⟨u,β',he,by rw [N1];rw [n1]at hu;exact hu.au hvia' hlt',?_⟩
 have kinds:∀ i,i<M'.n→(∃ j,j<m1.n ∧ ρ' j=i∧M'.get i=(m1.get j).au ρ')∨(i<HS.length∧(∀ j,j<hs.length → ρ j≠i)∧M'.get i=M.get i∧i<M.n):=by
  intro i hi
  by_cases h:i<HS.length
  · by_cases h2:∃ j,j<hs.length ∧ ρ j=i
    · obtain⟨j,hj,rfl⟩:=h2
      refine .inl ⟨j,by omega,if_pos hj,?_⟩
      have g:=hm1.get? (i:=j) (by omega)
      have:=haf.obj j _ g
      have e1:beyond ρ hs.length HS.length j = ρ j:=if_pos hj
      rw [e1]at this
      exact hM'.at this
    · have h3:∀ j,j<hs.length → ρ j≠i:=fun j hj e=>h2 ⟨j,hj,e⟩
      refine .inr ⟨h,h3,?_,by omega⟩
      have e1:=haf.old i h h3
      rw [hM'.get? hi,hM.get? (i:=i) (by omega)]at e1
      exact Option.some.inj e1
  · refine .inl ⟨i-HS.length+hs.length,by omega,?_,?_⟩
    · show beyond ρ hs.length HS.length _=i
      unfold beyond
      rw [if_neg (by omega)];omega
    · have g:=hm1.get? (i:=i-HS.length+hs.length) (by omega)
      have:=haf.obj _ _ g
      have e1:beyond ρ hs.length HS.length (i-HS.length+hs.length)=i:=by unfold beyond;rw [if_neg (by omega)];omega
      rw [e1]at this
      exact hM'.at this
 have imgs:∀ j,j<m1.n→(m1.get j).own=true → β1.c6 j<w.heap.size→∃ j2,j2<hs.length∧((lT hs).get j2).own=true ∧ β.c6 (ρ j2) = β1.c6 j:=by
  intro j hj hl hlt
  obtain⟨j2,h1,h2,h3⟩:=hst.rR _ hlt ⟨j,hj,hl,rfl⟩
  exact⟨j2,by omega,h2,h3⟩
 have liveρ : ∀ j2,j2<hs.length→((lT hs).get j2).own=true → ρ j2<M.n∧(M.get (ρ j2)).own=true:=by
  intro j2 h1 h2
  have g:=hm0.get? (i:=j2) (by omega)
  have lt:=hv.lt j2 h1
  refine⟨by omega,?_⟩
  rcases hv.obj j2 _ g with e|e
  · rw [e]at h2;cases h2
  · rw [hM.at e,oE];exact h2
 have bold:∀ i,i<HS.length → β'.c6 i = β.c6 i ∧ β'.size i = β.size i ∧ β'.base i = β.base i:=fun i h=>⟨if_pos h,if_pos h,if_pos h⟩
 refine⟨by omega,fun i hi=>bold i (by omega),⟨hM'.bnd,hM'.fresh,fun i hi=>?_,fun i i2 hi hi2 hl hl2 hbb=>?_⟩,hst.os,hst.tape,hst.output,hst.size,fun k hk hn=>?_,fun k hk hi=>?_⟩
 · rcases kinds i hi with⟨j,hj,rfl,hg⟩|⟨h1,h2,hg,h3⟩
   · rw [hg,N1,(hvia' j (by omega)).1,(hvia' j (by omega)).2.1,(hvia' j (by omega)).2.2]
     have:=hst.rel.obj j hj
     rw [n1]at this
     exact this.au hvia' hlt'
   · rw [hg,(bold i h1).1,(bold i h1).2.1,(bold i h1).2.2]
     cases hgm:M.get i with
     | dead=>trivial
     | cells a b c d=>
       have hli:(M.get i).live=true:=by rw [hgm];rfl
       have hlt:=hw.lt h3 hli
       have hfr:w'.heap[β.c6 i]? = w.heap[β.c6 i]?:=by
        refine hst.frame _ hlt fun⟨j2,q1,q2,q3⟩=>?_
        have q4:=liveρ j2 (by omega) q2
        exact h2 j2 (by omega) (hw.inj (ρ j2) i q4.1 h3 q4.2 hli q3)
       rw [hfr,←hgm]
       exact(hw.obj i h3).ext (fun i hi=>bold i (by omega)) (by omega)
     | map es=>
       have hli:(M.get i).live=true:=by rw [hgm];rfl
       have hlt:=hw.lt h3 hli
       have hfr:w'.heap[β.c6 i]? = w.heap[β.c6 i]?:=by
        refine hst.frame _ hlt fun⟨j2,q1,q2,q3⟩=>?_
        have q4:=liveρ j2 (by omega) q2
        exact h2 j2 (by omega) (hw.inj (ρ j2) i q4.1 h3 q4.2 hli q3)
       rw [hfr,←hgm]
       exact(hw.obj i h3).ext (fun i hi=>bold i (by omega)) (by omega)
 · rcases kinds i hi with⟨j,hj,rfl,hg⟩|⟨h1,h2,hg,h3⟩
   · rcases kinds i2 hi2 with⟨j',hj',rfl,hg'⟩|⟨h1',h2',hg',h3'⟩
     · rw [(hvia' j (by omega)).1,(hvia' j' (by omega)).1]at hbb
       rw [hg,oE]at hl
       rw [hg',qi]at hl2
       rw [hst.rel.inj j j' hj hj' hl hl2 hbb]
     · rw [(hvia' j (by omega)).1,(bold i2 h1').1]at hbb
       rw [hg,oE]at hl
       rw [hg']at hl2
       have hlt:=hw.lt h3' hl2
       obtain⟨j2,q1,q2,q3⟩:=imgs j hj hl (by rw [hbb];exact hlt)
       have q4:=liveρ j2 q1 q2
       exact absurd (hw.inj (ρ j2) i2 q4.1 h3' q4.2 hl2 (q3.trans hbb)) (h2' j2 q1)
   · rcases kinds i2 hi2 with⟨j',hj',rfl,hg'⟩|⟨h1',h2',hg',h3'⟩
     · rw [(hvia' j' (by omega)).1,(bold i h1).1]at hbb
       rw [hg',qi]at hl2
       rw [hg]at hl
       have hlt:=hw.lt h3 (aj.cS hl)
       cases hown:(m1.get j').own with
       | true=>
         obtain⟨j2,q1,q2,q3⟩:=imgs j' hj' hown (by rw [←hbb];exact hlt)
         have q4:=liveρ j2 q1 q2
         exact absurd (hw.inj (ρ j2) i q4.1 h3 q4.2 (aj.cS hl) (q3.trans hbb.symm)) (h2 j2 q1)
       | false=>
         obtain⟨o0,q1,q2⟩:=hro j' _ (hm1.get? hj') hl2 hown
         have q3:j'<hs.length:=(List.getElem?_eq_some_iff.1 q1).1
         have q4:=hv.lt j' q3
         have q5:(M.get (ρ j')).live=true:=by
          rcases hv.obj j' o0 q1 with e|e
          · rw [e]at q2;cases q2
          · rw [hM.at e,qi];exact q2
         have q6 : β1.c6 j' = β.c6 (ρ j'):=(hst.ext j' (by omega)).1
         exact absurd (hw.inj i (ρ j') h3 (by omega) hl q5 (hbb.trans q6)).symm (h2 j' q3)
     · rw [(bold i h1).1,(bold i2 h1').1]at hbb
       rw [hg]at hl
       rw [hg']at hl2
       exact hw.inj i i2 h3 h3' hl hl2 hbb
 · refine hst.frame k hk fun⟨j2,q1,q2,q3⟩=>hn ?_
   have q4:=liveρ j2 (by omega) q2
   exact⟨ρ j2,q4.1,q4.2,q3⟩
 · obtain⟨i,hi,hl,rfl⟩:=hi
   rcases kinds i hi with⟨j,hj,rfl,hg⟩|⟨h1,h2,hg,h3⟩
   · rw [hg,oE]at hl
     rw [(hvia' j (by omega)).1]at hk ⊢
     obtain⟨j2,q1,q2,q3⟩:=imgs j hj hl hk
     have q4:=liveρ j2 q1 q2
     exact⟨ρ j2,q4.1,q4.2,q3⟩
   · rw [hg]at hl
     rw [(bold i h1).1]
     exact⟨i,h3,hl,rfl⟩
end Go.Xm
