/-
  A part of the proof: XmFast2, XmFast3, XmFast4, XmFast5, XmBridge, XwBase, XwStep, XwOps, XwCall, XwK, XvBase, XvCall.
-/
import Derived.Test.YtagpkhindehcbaaGreatKbC
import Derived.Below
import Derived.RowKit
set_option linter.unusedVariables false
set_option linter.unusedSectionVars false
set_option linter.unusedSimpArgs false
namespace Go.Xm
variable [aC]
noncomputable section
variable {α : Type}
def H_ (c:XC) (f:Bool → α) (d : α) : α := @XC.rec (fun _ => α) f (fun _ _=>d) (fun _ _=>d) (fun _ _ _=>d) (fun _=>d) d (fun _ _=>d) d (fun _ _ _ _=>d) d (fun _=>d) (fun _=>d) (fun _ _ _ _=>d) d d (fun _=>d) c
def Lq (c:XC) (f:IntKind→Int → α) (d : α) : α := @XC.rec (fun _ => α) (fun _=>d) f (fun _ _=>d) (fun _ _ _=>d) (fun _=>d) d (fun _ _=>d) d (fun _ _ _ _=>d) d (fun _=>d) (fun _=>d) (fun _ _ _ _=>d) d d (fun _=>d) c
def Kp (c:XC) (f:Nat→Nat → α) (d : α) : α := @XC.rec (fun _ => α) (fun _=>d) (fun _ _=>d) (fun _ _=>d) (fun _ _ _=>d) (fun _=>d) d f d (fun _ _ _ _=>d) d (fun _=>d) (fun _=>d) (fun _ _ _ _=>d) d d (fun _=>d) c
def Ml (c:XC) (f:Nat→Nat→Nat→rE → α) (d : α) : α := @XC.rec (fun _ => α) (fun _=>d) (fun _ _=>d) (fun _ _=>d) (fun _ _ _=>d) (fun _=>d) d (fun _ _=>d) d f d (fun _=>d) (fun _=>d) (fun _ _ _ _=>d) d d (fun _=>d) c
def Cs (v:XV) (f:XC → α) (d : α) : α := @XV.rec (fun _ => α) d f (fun _=>d) (fun _=>d) v
def xH (v:XV) (f:Bool → α) (d : α) : α:=Cs v (fun c=>H_ c f d) d
def Cr (v:XV) (f:IntKind→Int → α) (d : α) : α:=Cs v (fun c=>Lq c f d) d
def Ct (v:XV) (f:Nat→Nat → α) (d : α) : α:=Cs v (fun c=>Kp c f d) d
theorem sW (v:XV) (f:Bool → α) (d : α):(∃ b,v = .one (.bool b)∧xH v f d=f b)∨((∀ b,v ≠ .one (.bool b))∧xH v f d=d):=by
 cases v with
 | one c=>cases c <;> first
   | exact .inl ⟨_,rfl,rfl⟩
   | exact .inr ⟨by simp,rfl⟩
 | _=>exact .inr ⟨by simp,rfl⟩
theorem uB (v:XV) (f:IntKind→Int → α) (d : α):(∃ k n,v = .one (.int k n)∧Cr v f d=f k n)∨((∀ k n,v ≠ .one (.int k n))∧Cr v f d=d):=by
 cases v with
 | one c=>cases c <;> first
   | exact .inl ⟨_,_,rfl,rfl⟩
   | exact .inr ⟨by simp,rfl⟩
 | _=>exact .inr ⟨by simp,rfl⟩
theorem nZ (v:XV) (f:Nat→Nat → α) (d : α):(∃ i o,v = .one (.ptr i o)∧Ct v f d=f i o)∨((∀ i o,v ≠ .one (.ptr i o))∧Ct v f d=d):=by
 cases v with
 | one c=>cases c <;> first
   | exact .inl ⟨_,_,rfl,rfl⟩
   | exact .inr ⟨by simp,rfl⟩
 | _=>exact .inr ⟨by simp,rfl⟩
def u_ (o:ak) (f:List XC→TypeId→Bool→Bool → α) (d : α) : α := @ak.rec (fun _ => α) d f (fun _=>d) o
def cD {γ : Type}(x:Option γ) (f : γ→Option α):Option α := @Option.rec γ (fun _=>Option α) .none f x
theorem cL {γ : Type}(x:Option γ) (f : γ→Option α):cD x f=x.bind f:=by cases x <;> rfl
def JU (m:Mem) (i:Nat):CP:=qX CP.none m.t i
theorem AX (m:Mem) (i:Nat):JU m i=m.fF i:=lI _ _ _
def CK (m:Mem) (i:Nat):ak:=(JU m i).obj
theorem A1 (m:Mem) (i:Nat):CK m i=m.get i:=by unfold CK Mem.get;rw [AX]
def HY (m:Mem) (i:Nat) (o:ak):Mem:=g_ (Nat.blt i m.n) (g_ (Nat.blt i Mem.bound) ⟨m.n,oG CP.none 31 m.t i ⟨Nat.add (JU m i).ver 1,o⟩⟩ m) m
theorem HZ (m:Mem) (i:Nat) (o:ak):HY m i o=m.put i o:=by
 unfold HY Mem.put
 rw [eh,eh,lJ,AX]
 cases Nat.blt i m.n <;> cases Nat.blt i Mem.bound <;> rfl
def LA (k:IntKind):Nat := @IntKind.rec (fun _=>Nat) 0 1 2 3 4 5 6 7 k
def r7 (k k':IntKind):Bool:=Nat.beq (LA k) (LA k')
theorem GG (k k':IntKind):(r7 k k'=true)=(k=k'):=by cases k <;> cases k' <;> simp [r7,LA]
def L0 (n:Int):Int := @Int.rec (fun _=>Int) (fun m=>g_ (Nat.blt m 9223372036854775808) (Int.ofNat m) (IntKind.wrap .i64 (Int.ofNat m))) (fun m=>g_ (Nat.blt m 9223372036854775808) (Int.negSucc m) (IntKind.wrap .i64 (Int.negSucc m))) n
def M5 (n:Int):Int := @Int.rec (fun _=>Int) (fun m=>Int.ofNat (Nat.mod m 256)) (fun m=>IntKind.wrap .u8 (Int.negSucc m)) n
def M6 (n:Int):Int := @Int.rec (fun _=>Int) (fun m=>Int.ofNat (Nat.mod m 18446744073709551616)) (fun m=>IntKind.wrap .u64 (Int.negSucc m)) n
def FU (k:IntKind):Int→Int := @IntKind.rec (fun _=>Int→Int) (IntKind.wrap .i8) (IntKind.wrap .i16) (IntKind.wrap .i32) L0 M5 (iH .u16) (iH .u32) M6 k
theorem FV (k:IntKind) (n:Int):FU k n=iH k n:=by
 cases k
 · exact(bY .i8 n).symm
 · exact(bY .i16 n).symm
 · exact(bY .i32 n).symm
 · cases n with
   | ofNat m=>show g_ _ _ _=_;rw [eh];rfl
   | negSucc m=>show g_ _ _ _=_;rw [eh];rfl
 · cases n <;> rfl
 · rfl
 · rfl
 · cases n <;> rfl
abbrev Ar:Type:=IntKind→IntKind→Int→Int→Option XC
def lM (op:BinOp):Ar:=fun k k' a b=>a_ op k k' a b
def Kd:Ar:=fun k k' a b=>g_ (r7 k k') (some (.int k (FU k (JQ a b)))) .none
def Kk:Ar:=fun k k' a b=>g_ (r7 k k') (some (.int k (FU k (J0 a b)))) .none
def Ki:Ar:=fun k k' a b=>g_ (r7 k k') (some (.bool (K5 a b))) .none
def Kg:Ar:=fun k k' a b=>g_ (r7 k k') (some (.bool (K5 b a))) .none
def Kh:Ar:=fun k k' a b=>g_ (r7 k k') (some (.bool (Bool.not (K5 b a)))) .none
def Kf:Ar:=fun k k' a b=>g_ (r7 k k') (some (.bool (Bool.not (K5 a b)))) .none
def Ke:Ar:=fun k k' a b=>g_ (r7 k k') (some (.bool (JW a b))) .none
def Kj:Ar:=fun k k' a b=>g_ (r7 k k') (some (.bool (Bool.not (JW a b)))) .none
def ar (op:BinOp):Ar := @BinOp.rec (fun _=>Ar) Kd Kk (lM .mul) (lM .quo) (lM .rem) (lM .and) (lM .or) (lM .xor) (lM .shl) (lM .shr) (lM .andNot) Ke Kj Ki Kh Kg Kf op
theorem Kl (op:BinOp) (k k':IntKind) (a b:Int):ar op k k' a b=a_ op k k' a b:=by
 have h:∀ x:XC,g_ (r7 k k') (some x) .none=da k k' (some x):=fun x=>by
  rw [eh,da]
  simp only [GG]
 cases op <;> first
  | rfl
  | (show g_ _ _ _=_
     rw [h]
     simp only [a_,FV,AV,H0,JX,HX])
 all_goals first
  | rfl
  | (congr 3;rw [←decide_not];congr 1;simp)
abbrev mP:Type:=cY→Program→T XV→Mem→Option Out
def dF (op:Op):mP:=fun O P r m=>dG O P (ag (r.get .undef)) op m
def zU (x:Operand):mP:=fun _ _ r m=>some ⟨lL x r,m,false,.none⟩
def C3 (c a b:Operand):mP:=fun O P r m=>xH (lL c r) (fun t=>some ⟨@Bool.rec (fun _=>XV) (lL b r) (lL a r) t,m,false,.none⟩) (dF (.pick c a b) O P r m)
def Iz (op:BinOp) (t:TypeId) (x y:Operand) (t':TypeId):mP:=fun O P r m=>
 Cr (lL x r) (fun k a=>Cr (lL y r) (fun k' b => @Option.rec XC (fun _=>Option Out) (dF (.binOp op t x y t') O P r m) (fun c=>some ⟨.one c,m,false,.none⟩) (ar op k k' a b)) (dF (.binOp op t x y t') O P r m)) (dF (.binOp op t x y t') O P r m)
theorem gU {O:cY}{P:Program}{ρ : Operand→XV}{op:Op}{m:Mem}{x:XV}(h:bk P ρ op=some x):dG O P ρ op m=some ⟨x,m,false,.none⟩:=by
 unfold dG dH;rw [h]
theorem C1 (x:Operand) (O:cY) (P:Program) (r:T XV) (m:Mem):zU x O P r m=dG O P (ag (r.get .undef)) (.move x) m:=by
 rw [gU (x:=ag (r.get .undef) x) rfl]
 show some _=some _
 rw [fE]
theorem yi (x:Operand) (O:cY) (P:Program) (r:T XV) (m:Mem):zU x O P r m=dG O P (ag (r.get .undef)) (.assign x) m:=by
 rw [gU (x:=ag (r.get .undef) x) rfl]
 show some _=some _
 rw [fE]
theorem C4 (c a b:Operand) (O:cY) (P:Program) (r:T XV) (m:Mem):C3 c a b O P r m=dG O P (ag (r.get .undef)) (.pick c a b) m:=by
 unfold C3
 rcases sW (lL c r) (fun t=>some (⟨@Bool.rec (fun _=>XV) (lL b r) (lL a r) t,m,false,.none⟩:Out)) (dF (.pick c a b) O P r m)with⟨t,h1,h2⟩|⟨h1,h2⟩
 · rw [h2]
   rw [fE]at h1
   rw [gU (x:=if t then ag (r.get .undef) a else ag (r.get .undef) b) (by simp only [bk,h1])]
   rw [fE,fE]
   cases t <;> rfl
 · rw [h2];rfl
theorem F7 (op:BinOp) (t:TypeId) (x y:Operand) (t':TypeId) (O:cY) (P:Program) (r:T XV) (m:Mem):Iz op t x y t' O P r m=dG O P (ag (r.get .undef)) (.binOp op t x y t') m:=by
 unfold Iz
 rcases uB (lL x r) (fun k a=>Cr (lL y r) (fun k' b => @Option.rec XC (fun _=>Option Out) (dF (.binOp op t x y t') O P r m) (fun c=>some (⟨.one c,m,false,.none⟩:Out)) (ar op k k' a b)) (dF (.binOp op t x y t') O P r m)) (dF (.binOp op t x y t') O P r m)with⟨k,a,h1,h2⟩|⟨h1,h2⟩
 · rw [h2]
   rcases uB (lL y r) (fun k' b => @Option.rec XC (fun _=>Option Out) (dF (.binOp op t x y t') O P r m) (fun c=>some (⟨.one c,m,false,.none⟩:Out)) (ar op k k' a b)) (dF (.binOp op t x y t') O P r m)with⟨k',b,h3,h4⟩|⟨h3,h4⟩
   · rw [h4,Kl]
     rw [fE]at h1 h3
     cases hb:a_ op k k' a b with
     | some c=>rw [gU (x := .one c) (by simp only [bk,qm,h1,h3,hb,Option.map_some])]
     | none=>rfl
   · rw [h4];rfl
 · rw [h2];rfl
end
end Go.Xm
namespace Go.Xm
variable [aC]
noncomputable section
def rC (P:Program) (t:TypeId) (vs:List XC) (off:Nat):Option X1:=
 cD (j7 P t) fun b => @Bool.rec (fun _=>Option X1)
  (cD (xY vs off) fun c=>some (.one c))
  (cD (cz P t) fun s=>g_ (Nat.ble (Nat.add off s) (rb vs)) (some (.agg (x7 s (xX off vs)))) .none) b
theorem zJ (P:Program) (t:TypeId) (vs:List XC) (off:Nat):rC P t vs off=eC P t vs off:=by
 unfold rC eC
 cases h:j7 P t with
 | none=>rfl
 | some b=>
   cases b
   · show cD (xY vs off) _=_
     rw [pT,cL]
     cases vs[off]? <;> rfl
   · show cD (cz P t) _=_
     cases cz P t with
     | none=>rfl
     | some s=>
       show g_ _ _ _=_
       rw [eh,n_,tk,tf]
       simp only [Nat.ble_eq]
       rfl
def HJ (x:X1):XV := @X1.rec (fun _=>XV) .one .agg x
theorem AP (x:X1):HJ x=x.pK:=by cases x <;> rfl
def CZ (t:TypeId) (a:Operand):mP:=fun _ P r m=>
 Ct (lL a r) (fun i off=>u_ (CK m i) (fun vs _ _ _=>cD (rC P t vs off) fun x=>some ⟨HJ x,m,false,some i⟩) .none) .none
theorem C0 (t:TypeId) (a:Operand) (O:cY) (P:Program) (r:T XV) (m:Mem):CZ t a O P r m=dG O P (ag (r.get .undef)) (.load t a) m:=by
 unfold CZ
 rcases nZ (lL a r) (fun i off=>u_ (CK m i) (fun vs _ _ _=>cD (rC P t vs off) fun x=>some (⟨HJ x,m,false,some i⟩:Out)) .none) .none with⟨i,off,h1,h2⟩|⟨h1,h2⟩
 · rw [h2]
   rw [fE]at h1
   simp only [dG,dH,og,bk,fm,h1]
   rw [A1]
   cases hg:m.get i with
   | dead=>rfl
   | map es=>rfl
   | cells vs e opn ro=>
     show cD _ _=_
     rw [zJ,cL]
     cases hq:eC P t vs off with
     | none=>simp only [hq,Option.map_none,Option.bind_none]
     | some x=>simp only [hq,Option.map_some,Option.bind_some,AP]
 · rw [h2]
   rw [fE]at h1
   have hn:fm P (ag (r.get .undef)) (.load t a) = .none:=by
    simp only [fm]
   simp only [dG,dH,og,bk,hn,cx,cS]
def zl (v:XV) (f:List XC→Option Out):Option Out := @XV.rec (fun _=>Option Out) .none (fun c=>f [c]) f (fun _ => .none) v
theorem Cq (v:XV) (f:List XC→Option Out):zl v f=cD (cW v) f:=by cases v <;> rfl
def vX (vs:List XC) (off:Nat) (cs:List XC):List XC:=
 @List.rec XC (fun _=>List XC) vs (fun c t _ => @List.rec XC (fun _=>List XC) (AZ vs off c) (fun _ _ _=>CH (x7 off vs) (CH cs (xX (Nat.add off (rb cs)) vs))) t) cs
theorem zN (vs:List XC) (off:Nat) (cs:List XC) (h:off+cs.length≤vs.length):vX vs off cs=vs.take off++cs++vs.drop (off+cs.length):=by
 cases cs with
 | nil=>show vs=_;simp
 | cons c t=>
   cases t with
   | nil=>
     show AZ vs off c=_
     rw [x4]
     simp only [List.length_cons,List.length_nil]at h ⊢
     rw [List.set_eq_take_append_cons_drop,if_pos (by omega)]
     simp
   | cons c' t=>
     show CH (x7 off vs) (CH (c::c'::t) (xX (Nat.add off (rb (c::c'::t))) vs))=_
     rw [vT,vT,tk,tf,n_,List.append_assoc]
     rfl
def yk (t:TypeId) (a x:Operand):mP:=fun _ P r m=>
 Ct (lL a r) (fun i off=>zl (lL x r) fun cs=>cD (cz P t) fun s=>g_ (Nat.beq (rb cs) s)
  (u_ (CK m i) (fun vs e opn ro => @Bool.rec (fun _=>Option Out)
    (g_ (Nat.ble (Nat.add off (rb cs)) (rb vs)) (some ⟨.tup [],HY m i (.cells (vX vs off cs) e opn false),true,.none⟩) .none) .none ro) .none) .none) .none
theorem A7 (t : TypeId) (a x:Operand) (O:cY) (P:Program) (r:T XV) (m:Mem):yk t a x O P r m=dG O P (ag (r.get .undef)) (.store t a x) m:=by
 have hx:dG O P (ag (r.get .undef)) (.store t a x) m=(ka P t (ag (r.get .undef) a) (ag (r.get .undef) x) m).bind fun p=>some ⟨p.1,p.2,true,.none⟩:=by
  simp only [dG,dH,og,bk,fm,cx,cS]
  cases ka P t (ag (r.get .undef) a) (ag (r.get .undef) x) m with
  | none=>rfl
  | some p=>rfl
 rw [hx]
 unfold yk
 rw [←fE a,←fE x]
 rcases nZ (lL a r) (fun i off=>zl (lL x r) fun cs=>cD (cz P t) fun s=>g_ (Nat.beq (rb cs) s)
  (u_ (CK m i) (fun vs e opn ro => @Bool.rec (fun _=>Option Out)
    (g_ (Nat.ble (Nat.add off (rb cs)) (rb vs)) (some ⟨.tup [],HY m i (.cells (vX vs off cs) e opn false),true,.none⟩) .none) .none ro) .none) .none) .none with⟨i,off,h1,h2⟩|⟨h1,h2⟩
 · rw [h2, h1, Cq,cL]
   unfold ka
   cases hc:cW (lL x r)with
   | none=>rfl
   | some cs =>
     show cD (cz P t) _=_
     cases hs:cz P t with
     | none=>rfl
     | some s =>
       show g_ _ _ _=_
       rw [eh,n_]
       simp only [Nat.beq_eq]
       by_cases hl:cs.length=s
       · rw [if_pos hl,if_pos hl,A1]
         cases hg:m.get i with
         | dead=>rfl
         | map es=>rfl
         | cells vs e opn ro=>
           cases ro
           · show g_ _ _ _=_
             rw [eh,n_]
             simp only [Nat.ble_eq]
             by_cases hf:off+cs.length≤vs.length
             · rw [if_pos hf,if_pos (show Nat.add off cs.length≤vs.length from hf)]
               rw [zN vs off cs hf,HZ]
               rfl
             · rw [if_neg hf,if_neg (show¬Nat.add off cs.length≤vs.length from hf)]
               rfl
           · rfl
       · rw [if_neg hl,if_neg hl];rfl
 · rw [h2]
   have:ka P t (lL a r) (lL x r) m = .none:=by
    unfold ka
    split
    · rename_i i off cs s h _ _;exact absurd h (h1 i off)
    · rfl
   rw [this];rfl
def JJ (P:Program) (t:TypeId):Option (Nat × Nat):=match P.underlying t with
 | some (.array len e)=>match cz P e with
   | some s=>some (len,s)
   | .none => .none
 | _ => .none
def LX (P:Program) (t:TypeId):Option Nat:=match P.underlying t with
 | some (.slice e)=>cz P e
 | _ => .none
def zi (P:Program) (s:TypeId) (f:Nat):Option Nat:=match ji P s f with
 | some fd=>match cz P fd.type with
   | some (_+1)=>some fd.offset
   | _ => .none
 | .none => .none
def LC (j:Int) (n:Nat) (f:Nat→Option Out):Option Out := @Int.rec (fun _=>Option Out) (fun k=>g_ (Nat.blt k n) (f k) .none) (fun _ => .none) j
theorem DE (j:Int) (n:Nat) (f:Nat→Option Out):LC j n f=if 0≤j∧j<n then f j.toNat else .none:=by
 cases j with
 | ofNat k=>
   show g_ (Nat.blt k n) (f k) .none=_
   rw [eh]
   simp only [Nat.blt_eq]
   by_cases h:k<n
   · rw [if_pos h,if_pos ⟨Int.natCast_nonneg k,by exact Int.ofNat_lt.2 h⟩];rfl
   · rw [if_neg h,if_neg (fun h'=>h (Int.ofNat_lt.1 h'.2))]
 | negSucc k=>
   show Option.none=_
   rw [if_neg (by omega)]
def oJ (t:TypeId) (x ix:Operand):mP:=fun _ P r m=>
 Cr (lL ix r) (fun _ j=>Cs (lL x r) (fun c=>
  Kp c (fun i o=>cD (JJ P t) fun p=>LC j p.1 fun k=>some ⟨.one (.ptr i (Nat.add o (Nat.mul k p.2))),m,false,.none⟩)
   (Ml c (fun i o len _=>cD (LX P t) fun s=>LC j len fun k=>some ⟨.one (.ptr i (Nat.add o (Nat.mul k s))),m,false,.none⟩) .none)) .none) .none
theorem CC {O:cY}{P:Program}{ρ : Operand→XV}{t:TypeId}{x i:Operand}{m:Mem}(h:cw P t (ρ x) (ρ i) = .none):dG O P ρ (.indexAddr t x i) m = .none:=by
 simp only [dG,dH,og,bk,h,fm,cx,cS]
theorem tC (t : TypeId) (x ix:Operand) (O:cY) (P:Program) (r:T XV) (m:Mem):oJ t x ix O P r m=dG O P (ag (r.get .undef)) (.indexAddr t x ix) m:=by
 have hx:dG O P (ag (r.get .undef)) (.indexAddr t x ix) m=(cw P t (ag (r.get .undef) x) (ag (r.get .undef) ix)).bind fun v=>some ⟨v,m,false,.none⟩:=by
  cases h:cw P t (ag (r.get .undef) x) (ag (r.get .undef) ix)with
  | none=>exact CC h
  | some v=>exact gU h
 rw [hx]
 unfold oJ
 rw [←fE x,←fE ix]
 generalize lL x r=vx
 generalize lL ix r=vi
 cases vi with
 | one ci =>
   cases ci with
   | int k j =>
     show Cs vx _ _=_
     cases vx with
     | one c =>
       cases c with
       | ptr i o =>
         show cD (JJ P t) _=_
         rw [cL]
         unfold JJ cw
         cases hu:P.underlying t with
         | none=>rfl
         | some d =>
           cases d <;> first
            | rfl
            | (rename_i len e
               cases hs:cz P e with
               | none=>
                 simp only [hs]
                 split <;> rfl
               | some s=>
                 simp only [hs,Option.bind_some,DE]
                 split <;> rfl)
       | slice i o len cap=>
         show cD (LX P t) _=_
         rw [cL]
         unfold LX cw
         cases hu:P.underlying t with
         | none=>rfl
         | some d =>
           cases d <;> first
            | rfl
            | (rename_i e
               cases hs:cz P e with
               | none=>
                 simp only [hs]
                 split <;> rfl
               | some s=>
                 simp only [hs,Option.bind_some,DE]
                 split <;> rfl)
       | _=>
         show Option.none=_
         unfold cw
         cases hu:P.underlying t with
         | none=>rfl
         | some d=>cases d <;> rfl
     | _=>
       show Option.none=_
       unfold cw
       cases hu:P.underlying t with
       | none=>rfl
       | some d=>cases d <;> rfl
   | _=>
     show Option.none=_
     unfold cw
     cases hu:P.underlying t with
     | none=>rfl
     | some d=>cases d <;> (cases vx <;> first|rfl|(rename_i c;cases c <;> rfl))
 | _=>
   show Option.none=_
   unfold cw
   cases hu:P.underlying t with
   | none=>rfl
   | some d=>cases d <;> (cases vx <;> first|rfl|(rename_i c;cases c <;> rfl))
def oI (s:TypeId) (x:Operand) (f:Nat):mP:=fun _ P r m=>
 Ct (lL x r) (fun i o=>cD (zi P s f) fun k=>some ⟨.one (.ptr i (Nat.add o k)),m,false,.none⟩) .none
theorem tB (s:TypeId) (x:Operand) (f:Nat) (O:cY) (P:Program) (r:T XV) (m:Mem):oI s x f O P r m=dG O P (ag (r.get .undef)) (.fieldAddr s x f) m:=by
 have hx:dG O P (ag (r.get .undef)) (.fieldAddr s x f) m=(e9 P s (ag (r.get .undef) x) f).bind fun v=>some ⟨v,m,false,.none⟩:=by
  cases h:e9 P s (ag (r.get .undef) x) f with
  | none=>simp only [dG,dH,og,bk,h,fm,cx,cS];rfl
  | some v=>exact gU h
 rw [hx]
 unfold oI
 rw [←fE x]
 rcases nZ (lL x r) (fun i o=>cD (zi P s f) fun k=>some (⟨.one (.ptr i (Nat.add o k)),m,false,.none⟩:Out)) .none with⟨i,o,h1,h2⟩|⟨h1,h2⟩
 · rw [h2,h1,cL]
   unfold zi e9
   cases ji P s f with
   | none=>rfl
   | some fd=>
     simp only []
     split
     · rename_i k hk
       rw [hk];rfl
     · rename_i hk
       split
       · rename_i k hk';exact(hk _ hk').elim
       · rfl
 · rw [h2]
   have:e9 P s (lL x r) f = .none:=by
    unfold e9
    split
    · rename_i fd i o h hh;exact absurd hh (h1 i o)
    · rfl
   rw [this];rfl
def rJ (x:Operand) (i:Nat):mP:=fun _ _ r m=>
 @XV.rec (fun _=>Option Out) .none (fun _ => .none) (fun _ => .none) (fun vs=>cD (xY vs i) fun y=>some ⟨HJ y,m,false,.none⟩) (lL x r)
theorem wg (x:Operand) (i:Nat) (O:cY) (P:Program) (r:T XV) (m:Mem):rJ x i O P r m=dG O P (ag (r.get .undef)) (.extract x i) m:=by
 have hx:dG O P (ag (r.get .undef)) (.extract x i) m=(jh (ag (r.get .undef) x) i).bind fun v=>some ⟨v,m,false,.none⟩:=by
  cases h:jh (ag (r.get .undef) x) i with
  | none=>simp only [dG,dH,og,bk,h,fm,cx,cS];rfl
  | some v=>exact gU h
 rw [hx]
 unfold rJ
 rw [←fE x]
 cases lL x r with
 | tup vs=>
   show cD (xY vs i) _=_
   rw [cL,pT]
   unfold jh
   cases hq:vs[i]? with
   | none=>simp only [hq,Option.map_none,Option.bind_none]
   | some y=>simp only [hq,Option.map_some,Option.bind_some,AP]
 | _=>rfl
def zK (l:List Operand) (r:T XV) (tl:List XV):List XV := @List.rec Operand (fun _=>List XV) tl (fun x _ ih=>lL x r::ih) l
theorem uO (r:T XV) (tl:List XV):∀ l:List Operand,zK l r tl=l.map (ag (r.get .undef))++tl
 | []=>rfl
 | x::l=>by show lL x r::zK l r tl=_;rw [uO r tl l,fE];rfl
def CX (g:Operand) (args:Array Operand) (_:Array TypeId):mP:=fun O P r m=>
 Cs (lL g r) (fun c=>cD (v7 c) fun p=>g_ (eP P p.1) (cD (O.call p.1 (zK args.toList r (p.2.map .one)) m) fun q=>some ⟨q.1,q.2,true,.none⟩) .none) .none
theorem CY (g:Operand) (args:Array Operand) (ts:Array TypeId) (O:cY) (P:Program) (r:T XV) (m:Mem):CX g args ts O P r m=dG O P (ag (r.get .undef)) (.call ⟨.value g,args,ts⟩) m:=by
 have hx:dG O P (ag (r.get .undef)) (.call ⟨.value g,args,ts⟩) m=(cS O P (ag (r.get .undef)) (.call ⟨.value g,args,ts⟩) m).bind fun p=>some ⟨p.1,p.2,true,.none⟩:=by
  simp only [dG,dH,og,bk,fm,cx]
  cases cS O P (ag (r.get .undef)) (.call ⟨.value g,args,ts⟩) m <;> rfl
 rw [hx]
 unfold CX
 simp only [cS]
 rw [←fE g]
 cases lL g r with
 | one c=>
   show cD (v7 c) _=_
   rw [cL]
   simp only []
   cases v7 c with
   | none=>rfl
   | some p=>
     obtain⟨f,caps⟩:=p
     show g_ _ _ _=_
     rw [eh,cL,uO]
     simp only []
     by_cases hc:eP P f=true
     · rw [if_pos hc,if_pos hc]
     · rw [if_neg hc,if_neg hc];rfl
 | _=>rfl
end
end Go.Xm
namespace Go.Xm
variable [aC]
noncomputable section
def pV (x:Operand):mP:=fun O P r m=>Ct (lL x r) (fun i o=>some ⟨.one (.ptr i o),m,false,.none⟩) (dF (.nilCheck x) O P r m)
theorem uS (x:Operand) (O:cY) (P:Program) (r:T XV) (m:Mem):pV x O P r m=dG O P (ag (r.get .undef)) (.nilCheck x) m:=by
 unfold pV
 rcases nZ (lL x r) (fun i o=>some (⟨.one (.ptr i o),m,false,.none⟩:Out)) (dF (.nilCheck x) O P r m)with⟨i,o,h1,h2⟩|⟨h1,h2⟩
 · rw [h2]
   rw [fE]at h1
   rw [gU (x := .one (.ptr i o)) (by simp only [bk,lH,h1])]
 · rw [h2];rfl
def F8 (c:Callee):Array Operand→Array TypeId→mP:=
 @Callee.rec (fun _=>Array Operand→Array TypeId→mP) CX (fun rv nm args ts=>dF (.call ⟨.invoke rv nm,args,ts⟩)) (fun b args ts=>dF (.call ⟨.builtin b,args,ts⟩)) c
def zT (c:Call):mP := @Call.rec (fun _=>mP) F8 c
theorem yj (c:Call) (O:cY) (P:Program) (r:T XV) (m:Mem):zT c O P r m=dG O P (ag (r.get .undef)) (.call c) m:=by
 obtain⟨f,args,ts⟩:=c
 cases f with
 | value g=>exact CY g args ts O P r m
 | invoke rv nm=>rfl
 | builtin b=>rfl
def JP (op:Op):mP:=
 @Op.rec (fun _=>mP) zU zU C3 (fun a=>dF (.alloc a)) (fun a b=>dF (.box a b)) (fun a b=>dF (.build a b)) (fun a b c=>dF (.buildSlice a b c)) (fun a b c d=>dF (.insert a b c d)) CZ yk
  (fun a=>dF (.ready a)) (fun a=>dF (.waits a)) pV Iz (fun a b c=>dF (.unOp a b c)) (fun a b c=>dF (.convert a b c)) (fun a b=>dF (.sliceToArrayPointer a b)) (fun a b=>dF (.makeInterface a b))
  (fun a b c=>dF (.makeFunc a b c)) (fun a b=>dF (.makeMap a b)) (fun a b=>dF (.makeChan a b)) (fun a b c=>dF (.makeSlice a b c)) (fun a b c d e=>dF (.slice a b c d e)) oI (fun a b c=>dF (.field a b c)) oJ
  (fun a b c=>dF (.index a b c)) (fun a b c d=>dF (.lookup a b c d)) (fun a b c d=>dF (.mapUpdate a b c d)) (fun a b c=>dF (.mapEntry a b c)) (fun a b c d=>dF (.entryStore a b c d)) (fun a b=>dF (.range a b)) (fun a b=>dF (.next a b))
  (fun a=>dF (.entry a)) (fun a b c d=>dF (.typeAssert a b c d)) rJ zT (fun a=>dF (.go a)) (fun a=>dF (.defer a)) (fun a=>dF (.panic a)) (fun a b=>dF (.send a b)) (fun a b c=>dF (.recv a b c)) (fun a b=>dF (.select a b)) op
theorem HV (op:Op) (O:cY) (P:Program) (r:T XV) (m:Mem):JP op O P r m=dG O P (ag (r.get .undef)) op m:=by
 cases op with
 | move x=>exact C1 x O P r m
 | assign x=>exact yi x O P r m
 | pick c a b=>exact C4 c a b O P r m
 | load t a=>exact C0 t a O P r m
 | store t a x=>exact A7 t a x O P r m
 | nilCheck x=>exact uS x O P r m
 | binOp op t x y t'=>exact F7 op t x y t' O P r m
 | fieldAddr s x f=>exact tB s x f O P r m
 | indexAddr t x i=>exact tC t x i O P r m
 | extract x i=>exact wg x i O P r m
 | call c=>exact yj c O P r m
 | _=>rfl
def uP (ops:List Oper) (g:Nat × Bool) (r:T XV):Option Bool:=
 cD (xY ops g.1) fun o => @Option.rec Nat (fun _=>Option Bool) (some false) (fun t => @XV.rec (fun _=>Option Bool) .none (fun c=>H_ c (fun b=>some (b == g.2)) .none) (fun _=>some false) (fun _=>some false) (qX .undef r t)) o.dst
def rD (ops:List Oper) (r:T XV) (o:Oper):Option Bool := @Option.rec (Nat × Bool) (fun _=>Option Bool) (some true) (fun g=>uP ops g r) o.guard
theorem x8 {ops:Array Oper}{r:T XV}{o:Oper}{b:Bool}(h:rD ops.toList r o=some b):aj ops (r.get .undef) o=some b:=by
 unfold rD at h
 unfold aj
 cases hg:o.guard with
 | none=>rw [hg]at h;exact h
 | some g =>
   obtain⟨j,want⟩:=g
   rw [hg]at h
   simp only [uP,pT,cL,Array.getElem?_toList]at h
   simp only []
   cases ho:ops[j]? with
   | none=>rw [ho]at h;cases h
   | some oj=>
     rw [ho]at h
     simp only [Option.bind_some]at h ⊢
     cases hd:oj.dst with
     | none=>rw [hd]at h;exact h
     | some t=>
       rw [hd]at h
       simp only [lI]at h ⊢
       cases hx:r.get .undef t with
       | undef=>rw [hx]at h;cases h
       | agg cs=>rw [hx]at h;exact h
       | tup vs=>rw [hx]at h;exact h
       | one c=>
         rw [hx]at h
         cases c <;> first
          | (cases h;done)
          | exact h
def FM (O:cY) (P:Program) (ops:List Oper) (r:T XV) (o:Oper) (m:Mem):Option Out:=
 cD (rD ops r o) fun b => @Bool.rec (fun _=>Option Out) (some ⟨.tup [],m,false,.none⟩) (JP o.op O P r m) b
structure mQ (O O':cY):Prop where
 call:∀ f args m x,O.call f args m=some x→O'.call f args m=some x
 op:O.op=O'.op
theorem HR {O O':cY}(h:mQ O O') {P:Program}{ρ : Operand→XV}{op:Op}{m:Mem}{d:Out}(hx:dG O P ρ op m=some d):dG O' P ρ op m=some d:=by
 have hpo:dH O P ρ op=dH O' P ρ op:=by
  unfold dH og
  rw [h.op]
 unfold dG at hx ⊢
 rw [hpo]at hx
 split at hx
 · exact hx
 · split at hx
   · exact hx
   · split at hx
     · exact hx
     · have hc:∀ x m',cS O P ρ op m=some (x,m')→cS O' P ρ op m=some (x,m'):=by
        intro x m' hh
        unfold cS at hh ⊢
        (repeat' split at hh) <;> first
          | (cases hh;done)
          | (simp only [*]at *;first|exact h.call _ _ _ _ hh|(simp_all [h.call _ _ _ _ hh];done))
       split at hx
       · rename_i x m' hh
         rw [hc x m' hh]
         exact hx
       · cases hx
theorem vU {O O':cY}(hO:mQ O O') {P:Program}{ops:Array Oper}{r:T XV}{o:Oper}{m:Mem}{d:Out}(h:FM O P ops.toList r o m=some d):jr O' P ops (r.get .undef) o m=some d:=by
 unfold FM at h
 unfold jr
 rw [cL]at h
 cases hw:rD ops.toList r o with
 | none=>rw [hw]at h;cases h
 | some b=>
   rw [hw]at h
   rw [x8 hw]
   cases b
   · exact h
   · simp only [Option.bind_some]at h
     have h':JP o.op O P r m=some d:=h
     rw [HV]at h'
     exact HR hO h'
def BE (d:Out):Mem := @Out.rec (fun _=>Mem) (fun _ m _ _=>m) d
def xc (d:Out):XV := @Out.rec (fun _=>XV) (fun x _ _ _=>x) d
def AY (O:cY) (P:Program) (ops:List Oper) (nt:Nat) (l:List Oper):T XV→Mem→(T XV→Mem→Option XR)→Option XR:=
 @List.rec Oper (fun _=>T XV→Mem→(T XV→Mem→Option XR)→Option XR) (fun r m k=>k r m) (fun o _ ih r m k=>cD (FM O P ops r o m) fun d=>ih (zM o.dst nt r (xc d)) (BE d) k) l
theorem uN {O O':cY}(hO:mQ O O') {P:Program}{ops:Array Oper}{nt:Nat}{k:T XV→Mem→Option XR}{x:XR}:∀ {l:List Oper}{r:T XV}{m:Mem},AY O P ops.toList nt l r m k=some x→∃ r' m',oD O' P ops nt l r m=some (r',m')∧k r' m'=some x
 | [],r,m,h=>⟨r,m,rfl,h⟩
 | o :: l,r,m,h=>by
   have h':cD (FM O P ops.toList r o m) (fun d=>AY O P ops.toList nt l (zM o.dst nt r (xc d)) (BE d) k)=some x:=h
   rw [cL]at h'
   cases hd:FM O P ops.toList r o m with
   | none=>rw [hd]at h';cases h'
   | some d=>
     rw [hd]at h'
     simp only [Option.bind_some,vW]at h'
     obtain⟨r',m',h1,h2⟩:=uN hO h'
     refine⟨r',m',?_,h2⟩
     unfold oD
     rw [vU hO hd]
     exact h1
def tm (O:cY) (P:Program) (ops:List Oper) (nt:Nat) (l:List Oper):T XV→Mem→Option (List (Mem × Out) × T XV × Mem):=
 @List.rec Oper (fun _=>T XV→Mem→Option (List (Mem × Out) × T XV × Mem)) (fun r m=>some ([],r,m)) (fun o _ ih r m=>cD (FM O P ops r o m) fun d=>cD (ih (zM o.dst nt r (xc d)) (BE d)) fun q=>some ((m,d)::q.1,q.2)) l
theorem tn {O O':cY}(hO:mQ O O') {P:Program}{ops:Array Oper}{nt:Nat}:∀ {l:List Oper}{r:T XV}{m:Mem}{q:List (Mem × Out) × T XV × Mem},tm O P ops.toList nt l r m=some q→f4 O' P ops nt l r m=some q
 | [],r,m,q,h=>h
 | o :: l,r,m,q,h=>by
   have h':cD (FM O P ops.toList r o m) (fun d=>cD (tm O P ops.toList nt l (zM o.dst nt r (xc d)) (BE d)) fun q=>some ((m,d)::q.1,q.2))=some q:=h
   rw [cL]at h'
   cases hd:FM O P ops.toList r o m with
   | none=>rw [hd]at h';cases h'
   | some d=>
     rw [hd]at h'
     simp only [Option.bind_some,vW,cL]at h'
     cases ht:tm O P ops.toList nt l (mM nt r o.dst (xc d)) (BE d)with
     | none=>rw [ht]at h';cases h'
     | some q'=>
       rw [ht]at h'
       obtain⟨a,b,c⟩:=q'
       simp only [Option.bind_some,Option.some.injEq]at h'
       subst h'
       unfold f4
       rw [vU hO hd]
       have e:xc d=d.x:=rfl
       have e2:BE d=d.m:=rfl
       rw [e,e2]at ht
       simp only [tn hO ht]
def tg (tr:List (Mem × Out)):Nat→List (Nat × Mem × Out):=
 @List.rec (Mem × Out) (fun _=>Nat→List (Nat × Mem × Out)) (fun _=>[]) (fun p _ ih i=>g_ p.2.eff ((i,p)::ih (Nat.add i 1)) (ih (Nat.add i 1))) tr
theorem uM:∀(tr:List (Mem × Out)) (k e:Nat) (p:Mem × Out),tr[e]? = some p→p.2.eff=true→(k+e,p)∈tg tr k
 | [],k,e,p,h,_=>by simp at h
 | q::tr,k,0,p,h,hp=>by
   simp only [List.getElem?_cons_zero,Option.some.injEq]at h
   subst h
   show(k+0,q)∈g_ q.2.eff ((k,q)::tg tr (Nat.add k 1)) (tg tr (Nat.add k 1))
   rw [hp]
   exact List.mem_cons_self ..
 | q::tr,k,e+1,p,h,hp=>by
   simp only [List.getElem?_cons_succ]at h
   have:=uM tr (k+1) e p h hp
   rw [show k+1+e=k+(e+1) by omega]at this
   show(k+(e+1),p)∈g_ q.2.eff ((k,q)::tg tr (Nat.add k 1)) (tg tr (Nat.add k 1))
   cases q.2.eff
   · exact this
   · exact List.mem_cons_of_mem _ this
def vS {γ : Type}(l:List γ) (f : γ→Bool):Bool := @List.rec γ (fun _=>Bool) true (fun a _ ih=>g_ (f a) ih false) l
theorem xW {γ : Type}:∀(l:List γ) (f : γ→Bool),vS l f=true→∀ a∈l,f a=true
 | [],f,_,a,ha=>by cases ha
 | b :: l,f,h,a,ha=>by
   have h':g_ (f b) (vS l f) false=true:=h
   rw [eh]at h'
   split at h'
   · rename_i hb
     rcases List.mem_cons.1 ha with rfl|ha
     · exact hb
     · exact xW l f h' a ha
   · cases h'
def JT (bs:List Nat) (tr:List (Mem × Out)):Bool:=
 @List.rec (Nat × Mem × Out) (fun _=>Bool) true (fun e0 es _=>
  @List.rec (Mem × Out) (fun _=>Nat→Bool) (fun _=>true) (fun p _ ih i=>g_ (g_ p.2.eff true (@Option.rec Nat (fun _=>Bool) false (fun _=>true) p.2.fp)) (g_ (vS (e0::es) fun e=>ij bs i p.2 e.1 e.2.1 e.2.2) (ih (Nat.add i 1)) false) (ih (Nat.add i 1))) tr 0) (tg tr 0)
theorem FN {bs : List Nat}{tr:List (Mem × Out)}(h:JT bs tr=true):gu bs tr=true:=by
 have main : ∀ i di e me de,tr[i]? = some di→tr[e]? = some (me,de)→de.eff=true→(di.2.eff=true∨di.2.fp.isSome=true)→ij bs i di.2 e me de=true:=by
  intro i di e me de hi he hee hd
  have hmem:=uM tr 0 e (me,de) he hee
  rw [Nat.zero_add]at hmem
  unfold JT at h
  cases hes:tg tr 0 with
  | nil=>rw [hes]at hmem;cases hmem
  | cons e0 es =>
    rw [hes]at h hmem
    have key : ∀(l:List (Mem × Out)) (k i:Nat) (p:Mem × Out),(@List.rec (Mem × Out) (fun _=>Nat→Bool) (fun _=>true) (fun p _ ih i=>g_ (g_ p.2.eff true (@Option.rec Nat (fun _=>Bool) false (fun _=>true) p.2.fp)) (g_ (vS (e0::es) fun e=>ij bs i p.2 e.1 e.2.1 e.2.2) (ih (Nat.add i 1)) false) (ih (Nat.add i 1))) l k)=true →
     l[i]? = some p→(p.2.eff=true∨p.2.fp.isSome=true)→(vS (e0::es) fun e=>ij bs (k+i) p.2 e.1 e.2.1 e.2.2)=true:=by
     intro l
     induction l with
     | nil=>intro k i p _ hi;simp at hi
     | cons q l ih=>
       intro k i p hh hi hp
       have hh':g_ (g_ q.2.eff true (@Option.rec Nat (fun _=>Bool) false (fun _=>true) q.2.fp)) (g_ (vS (e0::es) fun e=>ij bs k q.2 e.1 e.2.1 e.2.2) (@List.rec (Mem × Out) (fun _=>Nat→Bool) (fun _=>true) (fun p _ ih i=>g_ (g_ p.2.eff true (@Option.rec Nat (fun _=>Bool) false (fun _=>true) p.2.fp)) (g_ (vS (e0::es) fun e=>ij bs i p.2 e.1 e.2.1 e.2.2) (ih (Nat.add i 1)) false) (ih (Nat.add i 1))) l (Nat.add k 1)) false) (@List.rec (Mem × Out) (fun _=>Nat→Bool) (fun _=>true) (fun p _ ih i=>g_ (g_ p.2.eff true (@Option.rec Nat (fun _=>Bool) false (fun _=>true) p.2.fp)) (g_ (vS (e0::es) fun e=>ij bs i p.2 e.1 e.2.1 e.2.2) (ih (Nat.add i 1)) false) (ih (Nat.add i 1))) l (Nat.add k 1))=true:=hh
       cases i with
       | zero =>
         simp only [List.getElem?_cons_zero,Option.some.injEq]at hi
         subst hi
         have hc:g_ q.2.eff true (@Option.rec Nat (fun _=>Bool) false (fun _=>true) q.2.fp)=true:=by
          rw [eh]
          rcases hp with hp|hp
          · simp [hp]
          · split
            · rfl
            · cases hf:q.2.fp with
              | none=>rw [hf]at hp;cases hp
              | some fp=>rfl
         rw [hc]at hh'
         have hh2:g_ (vS (e0::es) fun e=>ij bs k q.2 e.1 e.2.1 e.2.2) _ false=true:=hh'
         rw [eh]at hh2
         split at hh2
         · rename_i ha;exact ha
         · cases hh2
       | succ i=>
         simp only [List.getElem?_cons_succ]at hi
         have:=ih (k+1) i p (by
          rw [eh]at hh'
          split at hh'
          · rw [eh]at hh'
            split at hh'
            · exact hh'
            · cases hh'
          · exact hh') hi hp
         rw [show k+1+i=k+(i+1) by omega]at this
         exact this
    have:=xW _ _ (key tr 0 i di h hi hd) _ hmem
    rw [Nat.zero_add]at this
    exact this
 unfold gu
 rw [List.all_eq_true]
 intro i hi
 split
 · rfl
 · rename_i mi di hdi
   by_cases hq:((!di.eff && di.fp.isNone)=true)
   · rw [hq];rfl
   · simp only [Bool.or_eq_true]
     refine .inr (List.all_eq_true.2 fun e he=>?_)
     split
     · rfl
     · rename_i me de hde
       cases hee:de.eff
       · simp [ij,hee]
       · refine main i (mi,di) e me de hdi hde hee ?_
         simp only [Bool.and_eq_true,Bool.not_eq_true',Option.isNone_iff_eq_none,not_and]at hq
         cases h1:di.eff
         · right
           cases h2:di.fp with
           | none=>exact absurd h2 (hq h1)
           | some fp=>rfl
         · exact .inl rfl
end
end Go.Xm
namespace Go.Xm
variable [aC]
noncomputable section
def vY (O:cY) (P:Program) (ops:List Oper) (nt:Nat) (bs:List Nat) (n0:Nat) (l:List Oper):Nat→List (Nat × Nat)→T XV→Mem→(T XV→Mem→Option XR)→Option XR:=
 @List.rec Oper (fun _=>Nat→List (Nat × Nat)→T XV→Mem→(T XV→Mem→Option XR)→Option XR) (fun _ _ r m k=>k r m) (fun o _ ih e made r m k=>cD (FM O P ops r o (ee bs made e m)) fun d=>cD (qx bs n0 e m (ee bs made e m) made d) fun q=>ih (Nat.add e 1) q.2 (zM o.dst nt r (xc d)) q.1 k) l
theorem qY {O O':cY}(hO:mQ O O') {P:Program}{ops:Array Oper}{nt:Nat}{bs:List Nat}{n0:Nat}{k:T XV→Mem→Option XR}{x:XR}:∀ {l:List Oper}{e:Nat}{made:List (Nat × Nat)}{r:T XV}{m:Mem},vY O P ops.toList nt bs n0 l e made r m k=some x→∃ r' m',i5 O' P ops nt bs n0 l e made r m=some (r',m')∧k r' m'=some x
 | [],e,made,r,m,h=>⟨r,m,rfl,h⟩
 | o :: l,e,made,r,m,h=>by
   have h':cD (FM O P ops.toList r o (ee bs made e m)) (fun d=>cD (qx bs n0 e m (ee bs made e m) made d) fun q=>vY O P ops.toList nt bs n0 l (Nat.add e 1) q.2 (zM o.dst nt r (xc d)) q.1 k)=some x:=h
   rw [cL]at h'
   cases hd:FM O P ops.toList r o (ee bs made e m)with
   | none=>rw [hd]at h';cases h'
   | some d=>
     rw [hd]at h'
     simp only [Option.bind_some,vW,cL]at h'
     cases hs:qx bs n0 e m (ee bs made e m) made d with
     | none=>rw [hs]at h';cases h'
     | some q=>
       rw [hs]at h'
       obtain⟨m1,made1⟩:=q
       simp only [Option.bind_some]at h'
       obtain⟨r',m',h1,h2⟩:=qY hO h'
       refine⟨r',m',?_,h2⟩
       unfold i5
       rw [vU hO hd]
       simp only []
       rw [hs]
       exact h1
def vV (O:cY) (P:Program) (ops:Array Oper) (nt:Nat) (r:T XV) (m:Mem) (k:T XV→Mem→Option XR):Option XR:=
 g_ (bH ops nt (e_ ops.toList)) (cD (tm O P ops.toList nt ops.toList r m) fun q=>g_ (JT (e_ ops.toList) q.1) (k q.2.1 q.2.2) (g_ ((List.range ops.size).any (kr ops (e_ ops.toList) q.1)) (k q.2.1 q.2.2) (g_ (gu (e_ ops.toList) q.1) .none (vY O P ops.toList nt (e_ ops.toList) m.n ops.toList 0 [] r m k)))) .none
theorem zI {O O':cY}(hO:mQ O O') {P:Program}{ops:Array Oper}{nt:Nat}{r:T XV}{m:Mem}{k:T XV→Mem→Option XR}{x:XR}(h:vV O P ops nt r m k=some x):∃ r' m',iV O' P ops nt r m=some (r',m')∧k r' m'=some x:=by
 unfold vV at h
 rw [eh]at h
 split at h
 · rename_i hs
   rw [cL]at h
   cases ht:tm O P ops.toList nt ops.toList r m with
   | none=>rw [ht]at h;cases h
   | some q =>
     rw [ht]at h
     obtain⟨tr,r',m'⟩:=q
     simp only [Option.bind_some,eh]at h
     have hx:f4 O' P ops nt ops.toList r m=some (tr,r',m'):=tn hO ht
     by_cases h1:gu (e_ ops.toList) tr=true
     · have h2:gF O' P ops nt r m=some (r',m'):=by
        unfold gF
        rw [if_pos hs,hx]
        simp only []
        rw [if_pos h1]
       have h3:iV O' P ops nt r m=some (r',m'):=j4 (by unfold f9;rw [h2])
       split at h
       · exact⟨r',m',h3,h⟩
       · split at h
         · exact⟨r',m',h3,h⟩
         · cases h
     · have h2:gF O' P ops nt r m = .none:=by
        unfold gF
        rw [if_pos hs,hx]
        simp only []
        rw [if_neg h1]
       split at h
       · rename_i hd
         exact absurd (FN hd) h1
       · split at h
         · rename_i hd
           refine⟨r',m',j4 ?_,h⟩
           unfold f9
           rw [h2]
           simp only [kA]
           rw [if_pos hs,hx]
           simp only []
           rw [if_pos hd]
         · rename_i hd
           obtain⟨r1,m1,h3,h4⟩:=qY hO h
           refine⟨r1,m1,?_,h4⟩
           have h5:f9 O' P ops nt r m = .none:=by
            unfold f9
            rw [h2]
            simp only [kA]
            rw [if_pos hs,hx]
            simp only []
            rw [if_neg hd]
           unfold iV
           rw [h5]
           simp only [pP]
           rw [if_pos hs]
           exact h3
 · cases h
abbrev J3:Type:=tR→T XV→Mem→Option XR
abbrev St:Type:=cY→Program→Nat→J3→T XV→Mem→Option XR
def qK (r:T XV) (m:Mem):Option XR:=some (.norm r m)
def At (id:Nat) (r:T XV) (m:Mem):Option XR:=some (.exit id r m)
def Au (l:Nat) (r:T XV) (m:Mem):Option XR:=some (.goto l r m)
def G7 (r:T XV) (m:Mem):Option XR:=some (.ret r m)
def su (x:Option XR) (f:T XV→Mem→Option XR):Option XR:=cD x fun y => @XR.rec (fun _=>Option XR) f At Au G7 y
def yW (x:Option XR) (f:Nat→T XV→Mem→Option XR):Option XR:=cD x fun y => @XR.rec (fun _=>Option XR) qK f Au G7 y
def yX (x:Option XR) (f:Nat→T XV→Mem→Option XR):Option XR:=cD x fun y => @XR.rec (fun _=>Option XR) qK At f G7 y
def Io:St:=fun _ _ _ _ r m=>qK r m
def Hk (_:Nat) (ops:Array Oper) (draw:Bool):St:=fun O P nt _ r m => @Bool.rec (fun _=>Option XR) (AY O P ops.toList nt ops.toList r m qK) (vV O P ops nt r m qK) draw
def LJ (a b:Code):St:=fun _ _ _ self r m=>su (self (.code a) r m) (self (.code b))
def KN (c:Operand) (a b:Code):St:=fun _ _ _ self r m=>xH (lL c r) (fun t => @Bool.rec (fun _=>Option XR) (self (.code b) r m) (self (.code a) r m) t) .none
def Jl (id:Nat) (c:Code):St:=fun _ _ _ self r m=>yW (self (.code c) r m) fun id' r m=>g_ (Nat.beq id' id) (qK r m) (At id' r m)
def KR (c:Code):St:=fun _ _ _ self r m=>self (.round c) r m
def Im:St:=fun _ _ _ _ _ _ => .none
def KO (id:Nat):St:=fun _ _ _ _ r m=>At id r m
def Jn (c:Code):St:=fun _ _ _ self r m=>self (.jump c c) r m
def KP (l:Nat):St:=fun _ _ _ _ r m=>Au l r m
def LI:St:=fun _ _ _ _ r m=>G7 r m
def Jm (c:Code):St:=fun _ _ _ self r m=>su (self (.code c) r m) (self (.round c))
def KQ (c rest:Code):St:=fun _ _ _ self r m=>yX (self (.code rest) r m) fun l r m => @Option.rec Code (fun _=>Option XR) (Au l r m) (fun rest'=>self (.jump c rest') r m) (findLabel c l)
def K4 (c:Code):St:=
 @Code.rec (fun _=>St) Io Hk (fun a b _ _=>LJ a b) (fun c a b _ _=>KN c a b) (fun id c _=>Jl id c) (fun c _=>KR c) (fun _ _ _ _ _ _=>Im) KO (fun c _=>Jn c) (fun _=>Io) KP LI (fun _=>Im) c
def K3 (c:tR):St := @tR.rec (fun _=>St) K4 KQ Jm c
def JZ (O:cY) (P:Program) (nt:Nat) (n:Nat):J3 := @Nat.rec (fun _=>J3) (fun _ _ _ => .none) (fun _ ih c r m=>K3 c O P nt ih r m) n
def H6 (s s':J3):Prop:=∀ c r m x,s c r m=some x→s' c r m=some x
theorem qG {x:Option XR}{f:T XV→Mem→Option XR}{y:XR}(h:su x f=some y):(∃ r m,x=some (.norm r m)∧f r m=some y)∨(x=some y∧∀ r m,y ≠ .norm r m):=by
 cases x with
 | none=>cases h
 | some z=>
   cases z with
   | norm r m=>exact .inl ⟨r,m,rfl,h⟩
   | exit id r m=>cases h;exact .inr ⟨rfl,by simp⟩
   | goto l r m=>cases h;exact .inr ⟨rfl,by simp⟩
   | ret r m=>cases h;exact .inr ⟨rfl,by simp⟩
theorem xa {x:Option XR}{f:Nat→T XV→Mem→Option XR}{y:XR}(h:yW x f=some y):(∃ l r m,x=some (.exit l r m)∧f l r m=some y)∨(x=some y∧∀ l r m,y ≠ .exit l r m):=by
 cases x with
 | none=>cases h
 | some z=>
   cases z with
   | norm r m=>cases h;exact .inr ⟨rfl,by simp⟩
   | exit id r m=>exact .inl ⟨id,r,m,rfl,h⟩
   | goto l r m=>cases h;exact .inr ⟨rfl,by simp⟩
   | ret r m=>cases h;exact .inr ⟨rfl,by simp⟩
theorem xb {x:Option XR}{f:Nat→T XV→Mem→Option XR}{y:XR}(h:yX x f=some y):(∃ l r m,x=some (.goto l r m)∧f l r m=some y)∨(x=some y∧∀ l r m,y ≠ .goto l r m):=by
 cases x with
 | none=>cases h
 | some z=>
   cases z with
   | norm r m=>cases h;exact .inr ⟨rfl,by simp⟩
   | exit id r m=>cases h;exact .inr ⟨rfl,by simp⟩
   | goto l r m=>exact .inl ⟨l,r,m,rfl,h⟩
   | ret r m=>cases h;exact .inr ⟨rfl,by simp⟩
theorem FL {O O':cY}(hO:mQ O O') {P:Program}{nt:Nat}{s s':J3}(hs:H6 s s') (c:tR) (r:T XV) (m:Mem) (x:XR) (h:K3 c O P nt s r m=some x):js O' P nt s' c r m=some x:=by
 cases c with
 | jump c rest=>
   rcases xb (show yX (s (.code rest) r m) _=some x from h)with⟨l,r1,m1,h1,h2⟩|⟨h1,h2⟩
   · simp only [js,hs _ _ _ _ h1]
     cases hf:findLabel c l with
     | none=>rw [hf]at h2;exact h2
     | some rest'=>rw [hf]at h2;exact hs _ _ _ _ h2
   · simp only [js,hs _ _ _ _ h1]
     cases x with
     | goto l r m=>exact absurd rfl (h2 l r m)
     | _=>rfl
 | round c=>
   rcases qG (show su (s (.code c) r m) _=some x from h)with⟨r1,m1,h1,h2⟩|⟨h1,h2⟩
   · simp only [js,hs _ _ _ _ h1]
     exact hs _ _ _ _ h2
   · simp only [js,hs _ _ _ _ h1]
     cases x with
     | norm r m=>exact absurd rfl (h2 r m)
     | _=>rfl
 | code c=>
   cases c with
   | skip=>exact h
   | label l=>exact h
   | region id ops draw=>
     cases draw
     · obtain⟨r',m',h1,h2⟩:=uN hO (show AY O P ops.toList nt ops.toList r m qK=some x from h)
       simp only [js,h1]
       exact h2
     · obtain⟨r',m',h1,h2⟩:=zI hO (show vV O P ops nt r m qK=some x from h)
       simp only [js,h1]
       exact h2
   | seq a b=>
     rcases qG (show su (s (.code a) r m) _=some x from h)with⟨r1,m1,h1,h2⟩|⟨h1,h2⟩
     · simp only [js,hs _ _ _ _ h1]
       exact hs _ _ _ _ h2
     · simp only [js,hs _ _ _ _ h1]
       cases x with
       | norm r m=>exact absurd rfl (h2 r m)
       | _=>rfl
   | cond cd a b=>
     have h':xH (lL cd r) (fun t => @Bool.rec (fun _=>Option XR) (s (.code b) r m) (s (.code a) r m) t) .none=some x:=h
     rcases sW (lL cd r) (fun t => @Bool.rec (fun _=>Option XR) (s (.code b) r m) (s (.code a) r m) t) .none with⟨t,h1,h2⟩|⟨h1,h2⟩
     · rw [h2]at h'
       rw [fE]at h1
       cases t
       · simp only [js,h1];exact hs _ _ _ _ h'
       · simp only [js,h1];exact hs _ _ _ _ h'
     · rw [h2]at h';cases h'
   | block id c=>
     rcases xa (show yW (s (.code c) r m) _=some x from h)with⟨l,r1,m1,h1,h2⟩|⟨h1,h2⟩
     · simp only [js,hs _ _ _ _ h1]
       rw [eh]at h2
       by_cases hl:l=id
       · subst hl
         rw [if_pos rfl]
         rw [if_pos (Nat.beq_refl l)]at h2
         exact h2
       · rw [if_neg hl]
         rw [if_neg (fun h=>hl (Nat.eq_of_beq_eq_true h))]at h2
         exact h2
     · simp only [js,hs _ _ _ _ h1]
       cases x with
       | exit l r m=>exact absurd rfl (h2 l r m)
       | _=>rfl
   | loop c=>exact hs _ _ _ _ h
   | rangeFunc f ps a b=>cases h
   | exit id=>exact h
   | scope c=>exact hs _ _ _ _ h
   | goto l=>exact h
   | ret=>exact h
   | refuse w=>cases h
theorem x6 {O O':cY}(hO:mQ O O') {P:Program}{nt:Nat}:∀ n,H6 (JZ O P nt n) (FI O' P nt n)
 | 0=>fun c r m x h=>by cases h
 | n+1=>fun c r m x h=>FL hO (x6 hO n) c r m x h
def v1 {α : Type}(x:XV) (f:XV→Option α):Option α := @XV.rec (fun _=>Option α) .none (fun c=>f (.one c)) (fun cs=>f (.agg cs)) (fun _ => .none) x
def Iw (v:ResultVar) (P:Program) (fn:Func) (r:T XV) (m:Mem):Option (XV × Mem):=
 @ResultVar.rec (fun _=>Option (XV × Mem)) (fun t=>v1 (qX .undef r t) fun x=>some (x,m)) (fun _ _=>(dq P fn (r.get .undef) m).map fun x=>(x,m)) v
def th (P:Program) (fn:Func) (r:T XV) (m:Mem):Option (XV × Mem):=(dq P fn (r.get .undef) m).map fun x=>(x,m)
def CL (P:Program) (fn:Func) (r:T XV) (m:Mem):Option (XV × Mem):=
 @List.rec ResultVar (fun _=>Option (XV × Mem)) (some (.tup [],m)) (fun v l _ => @List.rec ResultVar (fun _=>Option (XV × Mem)) (Iw v P fn r m) (fun _ _ _=>th P fn r m) l) fn.results.toList
theorem x5 {P:Program}{fn:Func}{r:T XV}{m:Mem}{y:XV × Mem}(h:CL P fn r m=some y):dq P fn (r.get .undef) m=some y.1∧m=y.2:=by
 have dF:th P fn r m=some y→dq P fn (r.get .undef) m=some y.1∧m=y.2:=fun h=>by
  unfold th at h
  cases hx:dq P fn (r.get .undef) m with
  | none=>rw [hx]at h;cases h
  | some x=>rw [hx]at h;cases h;exact⟨rfl,rfl⟩
 unfold CL at h
 cases hl:fn.results.toList with
 | nil=>
   rw [hl]at h
   cases h
   refine⟨?_,rfl⟩
   unfold dq
   rw [hl]
   rfl
 | cons v l=>
   rw [hl]at h
   cases l with
   | cons v' l=>exact dF h
   | nil=>
     have h':Iw v P fn r m=some y:=h
     cases v with
     | cell a t=>exact dF h'
     | tmp t=>
       have h2:v1 (qX .undef r t) (fun x=>some (x,m))=some y:=h'
       rw [lI]at h2
       unfold dq
       rw [hl]
       simp only [fZ,tc]
       cases hx:r.get .undef t with
       | undef=>rw [hx]at h2;cases h2
       | one c=>rw [hx]at h2;cases h2;exact⟨rfl,rfl⟩
       | agg cs=>rw [hx]at h2;cases h2;exact⟨rfl,rfl⟩
       | tup cs=>rw [hx]at h2;cases h2
def FP (l:List XV):Nat→T XV→T XV := @List.rec XV (fun _=>Nat→T XV→T XV) (fun _ t=>t) (fun x _ ih i t=>ih (Nat.add i 1) (oG .undef 31 t i x)) l
theorem xZ:∀(l:List XV) (i:Nat) (t:T XV),FP l i t=fP l i t
 | [],i,t=>rfl
 | x::l,i,t=>by
   show FP l (i+1) (oG .undef 31 t i x)=fP l (i+1) (t.set .undef 31 i x)
   rw [xZ,lJ]
def FK (run:J3) (P:Program) (fn:Func) (c:Code) (args:List XV) (m:Mem):Option (XV × Mem):=
 cD (run (.code c) (FP args 0 .leaf) m) fun y => @XR.rec (fun _=>Option (XV × Mem)) (CL P fn) (fun _ _ _ => .none) (fun _ _ _ => .none) (CL P fn) y
def AW (O:cY) (P:Program) (F:Nat) (f:FuncId) (args:List XV) (m:Mem):Option (XV × Mem):=
 cD (xY P.funcs.toList f) fun fn=>cD fn.body fun c=>
  g_ (Nat.blt fn.ntmps 1000000) (g_ (Nat.ble (rb args) fn.ntmps) (FK (JZ O P fn.ntmps F) P fn c args m) .none) .none
theorem CI {O O':cY}(hO:mQ O O') {P:Program}{F:Nat}:∀ f args m x,AW O P F f args m=some x→uG O' P F f args m=some x:=by
 intro f args m y h
 unfold AW at h
 unfold uG
 rw [pT,Array.getElem?_toList,cL]at h
 cases hf:P.funcs[f]? with
 | none=>rw [hf]at h;cases h
 | some fn =>
   rw [hf]at h
   simp only [Option.bind_some,cL]at h
   cases hb:fn.body with
   | none=>rw [hb]at h;cases h
   | some c =>
     rw [hb]at h
     simp only [Option.bind_some,eh]at h
     simp only [hb]
     split at h
     · rename_i h1
       split at h
       · rename_i h2
         rw [Nat.blt_eq]at h1
         rw [Nat.ble_eq,n_]at h2
         rw [if_pos ⟨h1,h2⟩]
         unfold FK at h
         rw [xZ,cL]at h
         cases hr:JZ O P fn.ntmps F (.code c) (fP args 0 .leaf) m with
         | none=>rw [hr]at h;cases h
         | some x=>
           rw [hr]at h
           rw [x6 hO F _ _ _ _ hr]
           cases x with
           | norm r m'=>
             have h3:CL P fn r m'=some y:=h
             obtain⟨h4,h5⟩:=x5 h3
             simp only [h4]
             subst h5;rfl
           | ret r m'=>
             have h3:CL P fn r m'=some y:=h
             obtain⟨h4,h5⟩:=x5 h3
             simp only [h4]
             subst h5;rfl
           | exit id r m'=>cases h
           | goto l r m'=>cases h
       · cases h
     · cases h
def JR (O ih:cY) (P:Program) (F:Nat):cY:=⟨fun f args m => @Option.rec (XV × Mem) (fun _=>Option (XV × Mem)) (AW ih P F f args m) some (O.call f args m),O.op⟩
def ny (O:cY) (P:Program) (F:Nat) (k:Nat):cY := @Nat.rec (fun _=>cY) O (fun _ ih=>JR O ih P F) k
theorem uL {O:cY}{P:Program}{F:Nat}:∀ k,mQ (ny O P F k) (uI O P F k)
 | 0=>⟨fun _ _ _ _ h=>h,rfl⟩
 | k + 1=>⟨fun f args m x h=>by
   have h' : @Option.rec (XV × Mem) (fun _=>Option (XV × Mem)) (AW (ny O P F k) P F f args m) some (O.call f args m)=some x:=h
   unfold uI
   simp only []
   cases ho:O.call f args m with
   | none=>
     rw [ho]at h'
     exact CI (uL k) f args m x h'
   | some y=>
     rw [ho]at h'
     exact h',rfl⟩
theorem aJ.le {P:Program}{O O':cY}(h:aJ P O') (hO:mQ O O'):aJ P O:=
 ⟨fun f args m v m' hh=>h.call f args m v m' (hO.call _ _ _ _ hh),fun f args m v m' hh=>h.FZ f args m v m' (hO.call _ _ _ _ hh),fun o l x hh=>h.op o l x (by rw [←hO.op];exact hh)⟩
theorem qW {O:cY}{P:Program}(hO:aJ P O) (hP:P.follows .mixedOrders=true) (F k:Nat):aJ P (ny O P F k):=
 (qR hO hP F k).le (uL k)
end
end Go.Xm
namespace Go.Xm
open Go.RowKit (Below)
variable [aC]
theorem qD:Mem.empty.b8:=fun _ _=>rfl
theorem BM (β : Env) (w:World):Rel β Mem.empty w:=
 ⟨Nat.zero_le _,qD,fun i hi=>absurd hi (Nat.not_lt_zero i),fun i _ hi=>absurd hi (Nat.not_lt_zero i)⟩
def XC.shut:XC→Bool
 | .ptr _ _=>false
 | .slice _ _ _ _=>false
 | .map _=>false
 | .bind g c=>g.shut && c.shut
 | _=>true
def X1.shut:X1→Bool
 | .one c=>c.shut
 | .agg cs=>cs.all XC.shut
def XV.shut:XV→Bool
 | .undef=>true
 | .one c=>c.shut
 | .agg cs=>cs.all XC.shut
 | .tup xs=>xs.all X1.shut
theorem XC.bO {c:XC}(h:c.shut=true) (n:Nat):c.ok n:=by
 induction c with
 | bind g c ih1 ih2=>
   simp only [XC.shut,Bool.and_eq_true]at h
   exact⟨ih1 h.1,ih2 h.2⟩
 | ptr i off=>cases h
 | slice i off len cap=>cases h
 | map i=>cases h
 | _=>trivial
theorem XC.ja {c:XC}(h:c.shut=true) (β β':Env):c.den β = c.den β':=
 XC.jt (n:=0) (fun i hi=>absurd hi (Nat.not_lt_zero i)) (XC.bO h 0)
theorem X1.bO {x:X1}(h:x.shut=true) (n:Nat):x.ok n:=by
 cases x with
 | one c=>exact XC.bO h n
 | agg cs=>exact fun c hc=>XC.bO (List.all_eq_true.1 h c hc) n
theorem X1.ja {x:X1}(h:x.shut=true) (β β':Env):x.den β = x.den β':=
 X1.jt (n:=0) (fun i hi=>absurd hi (Nat.not_lt_zero i)) (X1.bO h 0)
theorem aP.Ak {x:XV}(h:x.shut=true) {β β':Env}{n n':Nat}{v:Value}(hr:aP β n x v):aP β' n' x v:=by
 cases x with
 | undef=>trivial
 | one c=>exact⟨XC.bO h n',hr.2.trans (XC.ja h _ _)⟩
 | agg cs=>
   have h':=List.all_eq_true.1 h
   refine⟨fun c hc=>XC.bO (h' c hc) n',hr.2.trans ?_⟩
   rw [List.map_congr_left fun c hc=>XC.ja (h' c hc) β β']
 | tup xs=>
   have h':=List.all_eq_true.1 h
   refine⟨fun c hc=>X1.bO (h' c hc) n',hr.2.trans ?_⟩
   rw [List.map_congr_left fun c hc=>X1.ja (h' c hc) β β']
theorem uT {l:List XV}(h:∀ x∈l,x.shut=true) {β β':Env}{n n':Nat}:∀ {vs:List Value},ct (aP β n) l vs→ct (aP β' n') l vs:=by
 induction l with
 | nil=>intro vs hr;cases hr;exact .nil
 | cons x l ih=>
   intro vs hr
   cases hr with
   | cons h1 h2=>exact .cons (h1.Ak (h x (List.mem_cons_self ..))) (ih (fun y hy=>h y (List.mem_cons_of_mem _ hy)) h2)
def Env.zero:Env:=⟨fun _=>0,fun _=>0,fun _=>0⟩
theorem ur {P:Program}{f:FuncId}{args:List XV}{v:XV}{m':Mem}(h:dJ P f args Mem.empty v m') {vs:List Value}(ha:ct (aP Env.zero 0) args vs) (w:World) :
 Calls P f vs.toArray w fun e w'=>(∃ u β',e = .returned u∧aP β' m'.n v u)∧Below w.heap.size w w':=by
 refine(h Env.zero w vs ha (BM _ w)).mono fun e w' ⟨u,β',he,hu,hs⟩=>?_
 exact⟨⟨u,β',he,hu⟩,hs.os,hs.tape,hs.output,hs.size,fun k hk=>hs.frame k hk fun⟨i,hi,_⟩=>absurd hi (Nat.not_lt_zero i)⟩
theorem KM {P:Program}{f:FuncId}{args:List XV}{m':Mem}(h:dJ P f args Mem.empty (.one (.bool true)) m') {vs:List Value}(ha:ct (aP Env.zero 0) args vs) (w:World) :
 Calls P f vs.toArray w fun e w'=>e = .returned (.bool true)∧Below w.heap.size w w':=by
 refine(ur h ha w).mono fun e w' ⟨⟨u,β',he,hu⟩,hb⟩=>⟨?_,hb⟩
 rw [he,hu.2]
 rfl
theorem forget {P:Program}{f:FuncId}{args:List XV}{v:XV}{m':Mem}(h:dJ P f args Mem.empty v m') (ha:∀ x∈args,x.shut=true) (hv:v.shut=true) (m:Mem):dJ P f args m v m:=by
 intro β w vs hr hm
 refine(ur h (uT ha hr) w).mono fun e w' ⟨⟨u,β',he,hu⟩,hb⟩=>?_
 refine⟨u,β,he,hu.Ak hv,Nat.le_refl _,Ext.refl _ _,⟨hm.bnd,hm.fresh,fun i hi=>?_,hm.inj⟩,hb.os,hb.tape,hb.output,hb.size,fun k hk _=>hb.block k hk,fun k _ hk=>hk⟩
 have ho:=hm.obj i hi
 cases hg:m.get i with
 | dead=>trivial
 | cells a b c d=>
   have hl:=hm.lt hi (by rw [hg];rfl)
   rw [hb.block _ hl,←hg]
   exact ho
 | map es=>
   have hl:=hm.lt hi (by rw [hg];rfl)
   rw [hb.block _ hl,←hg]
   exact ho
structure tA where
 f:FuncId
 args:List XV
 v:XV
def tA.EF (r:tA):Bool:=r.args.all XV.shut && r.v.shut
def tA.L3 (P:Program) (r:tA):Prop:=r.EF=true∧∃ m',dJ P r.f r.args Mem.empty r.v m'
theorem I5 {P:Program}:∀ o l x,(fun(_:Op) (_:List XV)=>(.none:Option XV)) o l=some x→zQ P o l x:=fun _ _ _ h=>by cases h
theorem KK {P:Program}{O:cY}(hO:aJ P O) (hP:P.follows .mixedOrders=true) {F k:Nat}{r:tA}(h:((ny O P F k).call r.f r.args Mem.empty).map (·.1)=some r.v) (hs:r.EF=true):r.L3 P:=by
 obtain⟨⟨v,m'⟩,h1,h2⟩:=Option.map_eq_some_iff.1 h
 refine⟨hs,m',?_⟩
 have:=(qW hO hP F k).call _ _ _ _ _ h1
 rw [←h2]
 exact this
end Go.Xm
namespace Go.Xm
variable [aC]
abbrev bm:Type:=List (Nat × XV)
def rg:bm→Nat→XV
 | [],_ => .undef
 | (d,v)::al,t=>if t=d then v else rg al t
abbrev aq:Type:=List ak
structure bu (m:Mem) (hs:aq):Prop where
 n:m.n=hs.length
 bnd:m.n≤Mem.bound
 fresh:m.b8
 get:∀ i,i<m.n→m.get i=hs.getD i .dead
def A6 (m m':Mem):Prop:=m.n=m'.n∧m'.b8∧∀ i,i<m.n→m.get i=m'.get i
theorem bu.same {m m':Mem}{hs:aq}(h:bu m hs) (h':bu m' hs):A6 m m':=
 ⟨by rw [h.n,h'.n],h'.fresh,fun i hi=>by rw [h.get i hi,h'.get i (by rw [h'.n,←h.n];exact hi)]⟩
theorem A6.rel {m m':Mem}(h:A6 m m') {β : Env}{w:World}(hr:Rel β m w):Rel β m' w:=by
 obtain⟨h1,h2,h3⟩:=h
 refine⟨by rw [←h1];exact hr.bnd,h2,fun i hi=>?_,fun i j hi hj=>?_⟩
 · rw [←h1]at hi
   rw [←h1,←h3 i hi];exact hr.obj i hi
 · rw [←h1]at hi hj
   rw [←h3 i hi,←h3 j hj];exact hr.inj i j hi hj
theorem A6.qE {m m':Mem}(h:A6 m m') {β : Env}{k:Nat}:FX β m k↔FX β m' k:=by
 obtain⟨h1,_,h3⟩:=h
 constructor
 · rintro ⟨i,hi,hl,hk⟩
   exact⟨i,h1 ▸ hi,by rw [←h3 i hi];exact hl,hk⟩
 · rintro ⟨i,hi,hl,hk⟩
   rw [←h1]at hi
   exact⟨i,hi,by rw [h3 i hi];exact hl,hk⟩
theorem Step.same {m m' m'':Mem}{β β':Env}{w w':World}(h:Step β m w β' m' w') (hs:A6 m' m''):Step β m w β' m'' w':=
 ⟨by rw [←hs.1];exact h.le,h.ext,hs.rel h.rel,h.os,h.tape,h.output,h.size,h.frame,fun k hk hi=>h.qE k hk (hs.qE.2 hi)⟩
inductive XE where
 | normal
 | exit (id:Nat)
 | goto (l:Nat)
 | ret
def XE.ex:XE→Exit
 | .normal => .normal
 | .exit id => .exit id
 | .goto l => .goto l
 | .ret => .ret
abbrev cJ:Type:=XE→bm→aq→Prop
def WX (P:Program) (nt nI:Nat) (c:tR) (al:bm) (hs:aq) (K:cJ):Prop:=
 ∀ (βI:Env) (mI:Mem) (wI:World),mI.n=nI→∀ m,bu m hs→∀(β : Env) (w:World) (a:Act) (Q:Exit→Act→World→Prop),fA β m.n nt (rg al) a.tmps→Step βI mI wI β m w →
   (∀ e al' hs' m',K e al' hs'→bu m' hs'→∀ a' β' w',fA β' m'.n nt (rg al') a'.tmps→a'.defers=a.defers→Step βI mI wI β' m' w'→Q e.ex a' w')→tS P c Q a w
section
variable {P:Program}{nt nI:Nat}{al:bm}{hs:aq}{K:cJ}
theorem WX.mono {c:tR}{K':cJ}(h:WX P nt nI c al hs K) (hk:∀ e al' hs',K e al' hs'→K' e al' hs'):WX P nt nI c al hs K':=
 fun βI mI wI hn m hm β w a Q hr hw hq=>h βI mI wI hn m hm β w a Q hr hw fun e al' hs' m' k=>hq e al' hs' m' (hk _ _ _ k)
def tx (al' al:bm):Prop:=∀ t,rg al' t = .undef∨rg al' t=rg al t
theorem tx.rel {al' al:bm}(h:tx al' al) {β : Env}{n:Nat}{a:Array Value}(hr:fA β n nt (rg al) a):fA β n nt (rg al') a:=by
 refine⟨hr.size,hr.small,fun t ht=>?_,fun t ht=>?_⟩
 · rcases h t with h|h
   · rw [h];trivial
   · rw [h];exact hr.rel t ht
 · rcases h t with h|h
   · exact h
   · rw [h];exact hr.out t ht
theorem WX.less {c:tR}{al':bm}(hl:tx al' al) (h:WX P nt nI c al' hs K):WX P nt nI c al hs K:=
 fun βI mI wI hn m hm β w a Q hr hw hq=>h βI mI wI hn m hm β w a Q (hl.rel hr) hw hq
theorem pn (al:bm):tx [] al:=fun _ => .inl rfl
theorem ch {al' al:bm}{t:Nat}{v:XV}(h:rg al t=v) (hl:tx al' al):tx ((t,v)::al') al:=by
 intro s
 by_cases hs:s=t
 · subst hs
   exact .inr (by rw [h];simp [rg])
 · have:rg ((t,v)::al') s=rg al' s:=by simp [rg,hs]
   rw [this]
   exact hl s
theorem WX.skip (h:K .normal al hs):WX P nt nI (.code .skip) al hs K:=
 fun βI mI wI hn m hm β w a _ hr hw hq=>wp_skip (hq _ _ _ m h hm a β w hr rfl hw)
theorem WX.label {l:Nat}(h:K .normal al hs):WX P nt nI (.code (.label l)) al hs K:=
 fun βI mI wI hn m hm β w a _ hr hw hq=>wp_label (hq _ _ _ m h hm a β w hr rfl hw)
theorem WX.exit {id:Nat}(h:K (.exit id) al hs):WX P nt nI (.code (.exit id)) al hs K:=
 fun βI mI wI hn m hm β w a _ hr hw hq=>wp_exit (hq _ _ _ m h hm a β w hr rfl hw)
theorem WX.goto {l:Nat}(h:K (.goto l) al hs):WX P nt nI (.code (.goto l)) al hs K:=
 fun βI mI wI hn m hm β w a _ hr hw hq=>wp_goto (hq _ _ _ m h hm a β w hr rfl hw)
theorem WX.ret (h:K .ret al hs):WX P nt nI (.code .ret) al hs K:=
 fun βI mI wI hn m hm β w a _ hr hw hq=>wp_ret (hq _ _ _ m h hm a β w hr rfl hw)
def J_ (P:Program) (nt nI:Nat) (b:Code) (K:cJ):cJ
 | .normal,al,hs=>WX P nt nI (.code b) al hs K
 | e,al,hs=>K e al hs
theorem WX.seq {a b:Code}(h:WX P nt nI (.code a) al hs (J_ P nt nI b K)):WX P nt nI (.code (.seq a b)) al hs K:=by
 intro βI mI wI hn m hm β w act Q hr hw hq
 refine wp_seq ?_
 refine h βI mI wI hn m hm β w act _ hr hw fun e al' hs' m' k hm' a' β' w' h1 h2 h3=>?_
 cases e with
 | normal=>
   refine k βI mI wI hn m' hm' β' w' a' Q h1 h3 fun e al'' hs'' m'' k' hm'' a'' β'' w'' k1 k2 k3=>?_
   exact hq e al'' hs'' m'' k' hm'' a'' β'' w'' k1 (k2.trans h2) k3
 | exit id=>exact hq _ al' hs' m' k hm' a' β' w' h1 h2 h3
 | goto l=>exact hq _ al' hs' m' k hm' a' β' w' h1 h2 h3
 | ret=>exact hq _ al' hs' m' k hm' a' β' w' h1 h2 h3
theorem WX.cond {c:Operand}{x y:Code}{b:Bool}(hc:ag (rg al) c = .one (.bool b)) (h1:b=true→WX P nt nI (.code x) al hs K) (h2:b=false→WX P nt nI (.code y) al hs K):WX P nt nI (.code (.cond c x y)) al hs K:=by
 intro βI mI wI hn m hm β w a Q hr hw hq
 have he:=hr.eval c
 rw [hc]at he
 cases b with
 | true=>exact wp_cond_true he.2 (h1 rfl βI mI wI hn m hm β w a Q hr hw hq)
 | false=>exact wp_cond_false he.2 (h2 rfl βI mI wI hn m hm β w a Q hr hw hq)
def uR (id:Nat) (K:cJ):cJ
 | .exit id',al,hs=>if id'=id then K .normal al hs else K (.exit id') al hs
 | e,al,hs=>K e al hs
theorem WX.block {id:Nat}{c:Code}(h:WX P nt nI (.code c) al hs (uR id K)):WX P nt nI (.code (.block id c)) al hs K:=by
 intro βI mI wI hn m hm β w a Q hr hw hq
 refine wp_block ?_
 refine h βI mI wI hn m hm β w a _ hr hw fun e al' hs' m' k hm' a' β' w' h1 h2 h3=>?_
 cases e with
 | exit id'=>
   show(if id'=id then Q .normal a' w' else Q (.exit id') a' w')
   by_cases hid:id'=id
   · simp only [uR,hid,if_true]at k
     rw [if_pos hid]
     exact hq _ al' hs' m' k hm' a' β' w' h1 h2 h3
   · simp only [uR,hid,if_false]at k
     rw [if_neg hid]
     exact hq _ al' hs' m' k hm' a' β' w' h1 h2 h3
 | normal=>exact hq _ al' hs' m' k hm' a' β' w' h1 h2 h3
 | goto l=>exact hq _ al' hs' m' k hm' a' β' w' h1 h2 h3
 | ret=>exact hq _ al' hs' m' k hm' a' β' w' h1 h2 h3
theorem WX.loop {c:Code}(h:WX P nt nI (.round c) al hs K):WX P nt nI (.code (.loop c)) al hs K:=by
 intro βI mI wI hn m hm β w a Q hr hw hq
 intro b k cs
 obtain⟨e,a₁,w₁,hq1,harr⟩:=h βI mI wI hn m hm β w a Q hr hw hq b k cs
 exact⟨e,a₁,w₁,hq1,.of_steps (.one step_loop) harr⟩
def CS (P:Program) (nt nI:Nat) (c:Code) (K:cJ):cJ
 | .normal,al,hs=>WX P nt nI (.round c) al hs K
 | e,al,hs=>K e al hs
theorem WX.round {c:Code}(h:WX P nt nI (.code c) al hs (CS P nt nI c K)):WX P nt nI (.round c) al hs K:=by
 intro βI mI wI hn m hm β w a Q hr hw hq
 intro b k cs
 have:=h βI mI wI hn m hm β w a (fun e a' w'=>(e = .normal∧tS P (.round c) Q a' w')∨(e ≠ .normal∧Q e a' w')) hr hw (fun e al' hs' m' kk hm' a' β' w' h1 h2 h3=>by
  cases e with
  | normal=>
    refine .inl ⟨rfl,kk βI mI wI hn m' hm' β' w' a' Q h1 h3 fun e al'' hs'' m'' k' hm'' a'' β'' w'' k1 k2 k3=>?_⟩
    exact hq e al'' hs'' m'' k' hm'' a'' β'' w'' k1 (k2.trans h2) k3
  | exit id=>exact .inr ⟨by simp [XE.ex],hq _ al' hs' m' kk hm' a' β' w' h1 h2 h3⟩
  | goto l=>exact .inr ⟨by simp [XE.ex],hq _ al' hs' m' kk hm' a' β' w' h1 h2 h3⟩
  | ret=>exact .inr ⟨by simp [XE.ex],hq _ al' hs' m' kk hm' a' β' w' h1 h2 h3⟩)
 obtain⟨e,a₁,w₁,hcase,harr⟩:=this b (.inLoop c::k) cs
 rcases hcase with⟨rfl,hlp⟩|⟨hne,hq1⟩
 · obtain⟨e₂,a₂,w₂,hq₂,harr₂⟩:=hlp b k cs
   exact⟨e₂,a₂,w₂,hq₂,.of_steps (Steps.trans harr (.one step_inLoop)) harr₂⟩
 · exact⟨e,a₁,w₁,hq1,.pass (x := .inLoop c) rfl (fun _ _ => .inl hne) harr⟩
def CR (P:Program) (nt nI:Nat) (c:Code) (K:cJ):cJ
 | .goto l,al,hs=>match findLabel c l with
   | some rest=>WX P nt nI (.jump c rest) al hs K
   | .none=>K (.goto l) al hs
 | e,al,hs=>K e al hs
theorem WX.scope {c:Code}(h:WX P nt nI (.jump c c) al hs K):WX P nt nI (.code (.scope c)) al hs K:=by
 intro βI mI wI hn m hm β w a Q hr hw hq
 intro b k cs
 obtain⟨e,a₁,w₁,hq1,harr⟩:=h βI mI wI hn m hm β w a Q hr hw hq b k cs
 exact⟨e,a₁,w₁,hq1,.of_steps (.one step_scope) harr⟩
theorem WX.jump {c rest:Code}(h:WX P nt nI (.code rest) al hs (CR P nt nI c K)):WX P nt nI (.jump c rest) al hs K:=by
 intro βI mI wI hn m hm β w a Q hr hw hq
 intro b k cs
 have := h βI mI wI hn m hm β w a (fun e a' w'=>(∃ l rest',e = .goto l∧findLabel c l=some rest'∧tS P (.jump c rest') Q a' w')∨(∃ x:XE,e=x.ex∧(∀ l,x = .goto l→findLabel c l = .none)∧Q e a' w')) hr hw (fun e al' hs' m' kk hm' a' β' w' h1 h2 h3=>by
  cases e with
  | goto l=>
    cases hf:findLabel c l with
    | some rest'=>
      simp only [CR,hf]at kk
      refine .inl ⟨l,rest',rfl,hf,kk βI mI wI hn m' hm' β' w' a' Q h1 h3 fun e al'' hs'' m'' k' hm'' a'' β'' w'' k1 k2 k3=>?_⟩
      exact hq e al'' hs'' m'' k' hm'' a'' β'' w'' k1 (k2.trans h2) k3
    | none=>
      simp only [CR,hf]at kk
      exact .inr ⟨.goto l,rfl,fun l' hl'=>(by cases hl';exact hf),hq _ al' hs' m' kk hm' a' β' w' h1 h2 h3⟩
  | normal=>exact .inr ⟨.normal,rfl,fun l' hl'=>(by cases hl'),hq _ al' hs' m' kk hm' a' β' w' h1 h2 h3⟩
  | exit id=>exact .inr ⟨.exit id,rfl,fun l' hl'=>(by cases hl'),hq _ al' hs' m' kk hm' a' β' w' h1 h2 h3⟩
  | ret=>exact .inr ⟨.ret,rfl,fun l' hl'=>(by cases hl'),hq _ al' hs' m' kk hm' a' β' w' h1 h2 h3⟩)
 obtain⟨e,a₁,w₁,hcase,harr⟩:=this b (.inScope c::k) cs
 rcases hcase with⟨l,rest',rfl,hf,hmn⟩|⟨x,rfl,hng,hq1⟩
 · obtain⟨e₂,a₂,w₂,hq₂,harr₂⟩:=hmn b k cs
   have hg:gotoIn l (.inScope c::k)=some (.code rest' :: .inScope c::k):=by simp [gotoIn,hf]
   exact⟨e₂,a₂,w₂,hq₂,.of_steps (harr _ hg) harr₂⟩
 · cases x with
   | normal=>exact⟨.normal,a₁,w₁,hq1,Steps.trans harr (.one step_inScope)⟩
   | exit id=>exact⟨.exit id,a₁,w₁,hq1,fun k' hk=>harr k' (by simp [exitTo,hk])⟩
   | goto l=>exact⟨.goto l,a₁,w₁,hq1,fun k' hk=>harr k' (by simp [gotoIn,hng l rfl,hk])⟩
   | ret=>exact⟨.ret,a₁,w₁,hq1,harr⟩
end
end Go.Xm
namespace Go.Xm
variable [aC]
structure Ab where
 eff:Bool
 fp:Option Nat
 ws:List Nat
def tM (d:Option Nat) (x:XV) (al:bm):bm:=
 match d with
 | some d=>(d,x)::al
 | .none=>al
theorem fA.tM {β : Env}{n nt:Nat}{al:bm}{a:Act}(h:fA β n nt (rg al) a.tmps) (d:Option Nat) {x:XV}{v:Value}(hv:aP β n x v) (hd:∀ t,d=some t→t<nt):fA β n nt (rg (Xm.tM d x al)) (a.put d v).tmps:=by
 have:=h.put d hv hd
 cases d with
 | none=>exact this
 | some d=>
   have e:(fun t=>if some d=some t then x else rg al t)=rg (Xm.tM (some d) x al):=by
    funext t
    simp only [Xm.tM,rg,Option.some.injEq,eq_comm (a:=d)]
   rw [e]at this
   exact this
def aE (O:cY) (P:Program) (ops:Array Oper) (al:bm) (hs:aq) (o:Oper) (x:XV) (hs':aq) (b:Ab):Prop:=
 ∀ m,bu m hs→∃ m',jr O P ops (rg al) o m=some ⟨x,m',b.eff,b.fp⟩∧bu m' hs'∧∀ j,j∉b.ws→(m'.fF j).ver=(m.fF j).ver
inductive jI (O:cY) (P:Program) (ops:Array Oper) (nt:Nat):List Oper→bm→aq→List Ab→bm→aq→Prop where
 | nil {al:bm}{hs:aq}:jI O P ops nt [] al hs [] al hs
 | cons {o:Oper}{l:List Oper}{al al':bm}{hs hs1 hs':aq}{x:XV}{b:Ab}{bs:List Ab}:aE O P ops al hs o x hs1 b→(∀ d,o.dst=some d→d<nt)→jI O P ops nt l (tM o.dst x al) hs1 bs al' hs'→jI O P ops nt (o::l) al hs (b::bs) al' hs'
section
variable {O:cY}{P:Program}{ops:Array Oper}{nt nI:Nat}
theorem B6 (hO:aJ P O) {Q:Exit→Act→World→Prop}{l:List Oper}{al al':bm}{hs hs':aq}{bs:List Ab}(h:jI O P ops nt l al hs bs al' hs'):∀ {m:Mem}{β : Env}{w:World}{a:Act},bu m hs→fA β m.n nt (rg al) a.tmps→Rel β m w →
 (∀ m' a' β' w',bu m' hs'→fA β' m'.n nt (rg al') a'.tmps→a'.defers=a.defers→Step β m w β' m' w'→Q .normal a' w')→wpList P ops Q l a w:=by
 induction h with
 | nil=>
   intro m β w a hm hr hw hq
   exact hq m a β w hm hr rfl (Step.refl hw)
 | cons ho hd _ ih=>
   rename_i o l al al' hs hs1 hs' x b bs _
   intro m β w a hm hr hw hq
   obtain⟨m1,h1,h2,_⟩:=ho m hm
   unfold jr at h1
   unfold wpList
   split at h1
   · rename_i hwt
     rw [if_pos (fx hwt hr)]
     refine .inl (qk hO h1 hw (fun x=>hr.eval x) a _ Q rfl fun u β' w' hu hst=>?_)
     refine ih h2 ((hr.ext hst.ext hst.le).tM o.dst hu hd) hst.rel fun m' a'' β'' w'' k1 k2 k3 k4=>?_
     exact hq m' a'' β'' w'' k1 k2 (by rw [k3,cQ]) (hst.trans k4)
   · rename_i hwt
     simp only [Option.some.injEq,Out.mk.injEq]at h1
     obtain⟨rfl,rfl,_,_⟩:=h1
     have:=fx hwt hr
     rw [if_neg (by simp [this])]
     refine ih h2 (hr.tM o.dst aP.skip hd) hw fun m' a'' β'' w'' k1 k2 k3 k4=>?_
     exact hq m' a'' β'' w'' k1 k2 (by rw [k3,cQ]) k4
   · cases h1
theorem WX.plain (hO:aJ P O) {id:Nat}{al al':bm}{hs hs':aq}{bs:List Ab}{K:cJ}(h:jI O P ops nt ops.toList al hs bs al' hs') (hk:K .normal al' hs'):WX P nt nI (.code (.region id ops false)) al hs K:=
 fun _ _ _ _ _ hm _ _ _ _ hr hw hq=>wp_region_list (B6 hO h hm hr hw.rel fun m' a' β' w' k1 k2 k3 k4=>hq .normal al' hs' m' hk k1 a' β' w' k2 k3 (hw.trans k4))
theorem km (g:Nat→XV) (nt:Nat) (hn:nt<1000000) (ho:∀ t,nt≤t→g t = .undef):∃ r:T XV,∀ t,r.get .undef t=g t:=by
 have : ∀ k,k≤nt→∃ r:T XV,∀ t,r.get .undef t=if t<k then g t else .undef:=by
  intro k
  induction k with
  | zero=>intro _;exact⟨.leaf,fun t=>by simp [T.eH]⟩
  | succ k ih=>
    intro hk
    obtain⟨r,hr⟩:=ih (by omega)
    refine⟨r.set .undef 31 k (g k),fun t=>?_⟩
    by_cases ht:t=k
    · subst ht
      rw [T.fM _ _ _ _ _ (by omega)]
      simp
    · rw [T.eT _ _ _ _ _ _ ht,hr t]
      by_cases h1:t<k
      · rw [if_pos h1,if_pos (by omega)]
      · rw [if_neg h1,if_neg (by omega)]
 obtain⟨r,hr⟩:=this nt (Nat.le_refl _)
 refine⟨r,fun t=>?_⟩
 rw [hr t]
 split
 · rfl
 · exact(ho t (by omega)).symm
def Ed (bs:List Nat) (i:Nat) (di:Ab) (e:Nat) (de:Ab):Bool:=
 !de.eff || i == e || ((!(di.eff && decide (e<i)) || bit bs i e) &&
  (match di.fp with
    | .none=>true
    | some fp=>bit bs i e || bit bs e i || !(de.ws.contains fp)))
def tZ (bs:List Nat) (tr:List Ab):Bool:=
 (List.range tr.length).all fun i=>match tr[i]? with
   | .none=>true
   | some di=>(!di.eff && di.fp.isNone) || (List.range tr.length).all fun e=>match tr[e]? with
     | .none=>true
     | some de=>Ed bs i di e de
def CW:List (Mem × Out)→List Ab→Prop:=ct fun p b=>p.2.eff=b.eff∧p.2.fp=b.fp∧∀ j,j∉b.ws→(p.2.m.fF j).ver=(p.1.fF j).ver
theorem ct.get? {α γ : Type}{R : α → γ→Prop}:∀ {l:List α}{k:List γ},ct R l k→∀(i:Nat) (a : α),l[i]? = some a→∃ b,k[i]? = some b∧R a b
 | _,_,.nil,i,a,h=>by simp at h
 | _,_,.cons h t,0,a,h1=>by simp at h1;subst h1;exact⟨_,rfl,h⟩
 | _,_,.cons h t,i+1,a,h1=>by simp at h1;exact t.get? i a h1
theorem Bn {bs:List Nat}{tr:List (Mem × Out)}{ab:List Ab}(ht:CW tr ab) (h:tZ bs ab=true):gu bs tr=true:=by
 have hl:tr.length=ab.length:=ct.length ht
 unfold tZ at h
 unfold gu
 rw [List.all_eq_true]at h ⊢
 intro i hi
 have hi':=h i (by rw [←hl];exact hi)
 split
 · rfl
 · rename_i mi di hdi
   obtain⟨bi,hb,h1,h2,_⟩:=ct.get? ht i _ hdi
   simp only at h1 h2
   rw [hb]at hi'
   simp only [Bool.or_eq_true]at hi' ⊢
   rw [h1,h2]
   rcases hi' with hi'|hi'
   · exact .inl hi'
   · refine .inr (List.all_eq_true.2 fun e he=>?_)
     have he':=List.all_eq_true.1 hi' e (by rw [←hl];exact he)
     split
     · rfl
     · rename_i me de hde
       obtain⟨be,hbe,k1,k2,k3⟩:=ct.get? ht e _ hde
       simp only at k1 k2 k3
       rw [hbe]at he'
       unfold ij
       unfold Ed at he'
       rw [h1,h2,k1]
       simp only [Bool.or_eq_true,Bool.and_eq_true]at he' ⊢
       rcases he' with he'|⟨ha,hb'⟩
       · exact .inl he'
       · refine .inr ⟨ha,?_⟩
         cases hf:bi.fp with
         | none=>rfl
         | some fp=>
           rw [hf]at hb'
           simp only [Bool.or_eq_true]at hb' ⊢
           rcases hb' with hb'|hb'
           · exact .inl hb'
           · refine .inr ?_
             have:fp∉be.ws:=by simpa using hb'
             rw [k3 fp this]
             simp
theorem HT {r:T XV}{al:bm}(hr:∀ t,r.get .undef t=rg al t) (hn:nt<1000000) (d:Option Nat) (x:XV) (hd:∀ t,d=some t→t<nt):∀ t,(mM nt r d x).get .undef t=rg (tM d x al) t:=by
 intro t
 cases d with
 | none=>exact hr t
 | some d=>
   have:=hd d rfl
   simp only [mM,this,if_true,tM,rg]
   by_cases ht:t=d
   · subst ht
     rw [T.fM _ _ _ _ _ (by omega),if_pos rfl]
   · rw [T.eT _ _ _ _ _ _ ht,if_neg ht]
     exact hr t
theorem jx (hn:nt<1000000) {l:List Oper}{al al':bm}{hs hs':aq}{bs:List Ab}(h:jI O P ops nt l al hs bs al' hs'):∀ {m:Mem}{r:T XV},bu m hs→(∀ t,r.get .undef t=rg al t) →
 ∃ tr r' m',f4 O P ops nt l r m=some (tr,r',m')∧(∀ t,r'.get .undef t=rg al' t)∧bu m' hs'∧CW tr bs:=by
 induction h with
 | nil=>
   intro m r hm hr
   exact⟨[],r,m,rfl,hr,hm,.nil⟩
 | cons ho hd _ ih=>
   rename_i o l al al' hs hs1 hs' x b bs _
   intro m r hm hr
   obtain⟨m1,h1,h2,h3⟩:=ho m hm
   have e:(fun t=>r.get .undef t)=rg al:=funext hr
   obtain⟨tr,r',m',k1,k2,k3,k4⟩:=ih h2 (HT hr hn o.dst x hd)
   refine⟨(m,⟨x,m1,b.eff,b.fp⟩)::tr,r',m',?_,k2,k3,.cons ⟨rfl,rfl,h3⟩ k4⟩
   unfold f4
   have h1':jr O P ops (r.get .undef) o m=some ⟨x,m1,b.eff,b.fp⟩:=by rw [show(r.get .undef)=rg al from e];exact h1
   rw [h1']
   simp only [k1]
theorem WX.drawn (hO:aJ P O) (hP:P.follows .mixedOrders=true) {id:Nat}{al al':bm}{hs hs':aq}{bs:List Ab}{K:cJ}(hst:bH ops nt (e_ ops.toList)=true) (h:jI O P ops nt ops.toList al hs bs al' hs') (hdy:tZ (e_ ops.toList) bs=true)
 (hk:K .normal al' hs'):WX P nt nI (.code (.region id ops true)) al hs K:=by
 intro βI mI wI hn m hm β w a Q hr hw hq
 obtain⟨r,hrr⟩:=km (rg al) nt hr.small hr.out
 obtain⟨tr,r',m',h1,h2,h3,h4⟩:=jx hr.small h hm hrr
 have hx:iV O P ops nt r m=some (r',m'):=by
  refine j4 ?_
  unfold f9 gF
  rw [if_pos hst,h1]
  simp only []
  rw [if_pos (Bn h4 hdy)]
 have e:(r.get .undef)=rg al:=funext hrr
 have e':(r'.get .undef)=rg al':=funext h2
 refine n7 hO hP hx (by unfold i6;rw [e];exact hr) hw.rel fun a' β' w' k1 k2 k3=>?_
 unfold i6 at k1
 rw [e']at k1
 exact hq .normal al' hs' m' hk h3 a' β' w' k1 k2 (hw.trans k3)
end
end Go.Xm
namespace Go.Xm
variable [aC]
theorem bu.at {m:Mem}{hs:aq}(h:bu m hs) {i:Nat}{o:ak}(ho:hs[i]? = some o):m.get i=o:=by
 have hi:i<m.n:=by
  have:=(List.getElem?_eq_some_iff.1 ho).1
  rw [h.n];exact this
 rw [h.get i hi,List.getD_eq_getElem?_getD,ho];rfl
theorem bu.lt {m:Mem}{hs:aq}(h:bu m hs) {i:Nat}{o:ak}(ho:hs[i]? = some o):i<m.n∧i<Mem.bound:=by
 have:=(List.getElem?_eq_some_iff.1 ho).1
 have h1:=h.n
 have h2:=h.bnd
 omega
theorem bu.put {m:Mem}{hs:aq}(h:bu m hs) {i:Nat}{o:ak}(ho:hs[i]? = some o) (o':ak):bu (m.put i o') (hs.set i o'):=by
 obtain⟨h1,h2⟩:=h.lt ho
 refine⟨by rw [Mem.fi,List.length_set];exact h.n,by rw [Mem.fi];exact h.bnd,b8.put h.fresh o',fun j hj=>?_⟩
 rw [Mem.fi]at hj
 by_cases hji:j=i
 · subst hji
   rw [Mem.gK m o' h1 h2]
   have:j<hs.length:=by rw [←h.n];exact hj
   simp [List.getD_eq_getElem?_getD,this]
 · rw [Mem.fL m o' hji,h.get j hj]
   simp [List.getD_eq_getElem?_getD,List.getElem?_set_ne (Ne.symm hji)]
theorem rq {m:Mem}{i:Nat}{o:ak}:∀ j,j∉[i]→((m.put i o).fF j).ver=(m.fF j).ver:=by
 intro j hj
 rw [Mem.gI m o (by simpa using hj)]
theorem bu.push {m:Mem}{hs:aq}(h:bu m hs) (o:ak) (hb:hs.length<Mem.bound):∃ m',m.push o=some m'∧bu m' (hs++[o])∧∀ j,j∉[hs.length]→(m'.fF j).ver=(m.fF j).ver:=by
 have hn:=h.n
 obtain⟨m',hp⟩:∃ m',m.push o=some m':=by
  unfold Mem.push
  rw [if_pos (by omega)]
  exact⟨_,rfl⟩
 obtain⟨_,h2,h3,h4⟩:=Mem.bt hp
 refine⟨m',hp,⟨by rw [h2,hn];simp,by omega,b8.push h.fresh hp,fun j hj=>?_⟩,fun j hj=>?_⟩
 · by_cases hjn:j=m.n
   · subst hjn
     unfold Mem.get
     rw [h3,hn]
     simp [List.getD_eq_getElem?_getD]
   · have:m'.get j=m.get j:=by unfold Mem.get;rw [h4 j hjn]
     rw [this,h.get j (by omega),List.getD_eq_getElem?_getD,List.getD_eq_getElem?_getD,List.getElem?_append_left (by omega)]
 · rw [h4 j (by rw [hn];simpa using hj)]
section
variable {O:cY}{P:Program}{ops:Array Oper}{al:bm}{hs:aq}{o:Oper}
abbrev quiet:Ab:=⟨false,.none,[]⟩
theorem aE.skip (hw:aj ops (rg al) o=some false):aE O P ops al hs o (.tup []) hs quiet:=
 fun m hm=>⟨m,by unfold jr;rw [hw],hm,fun _ _=>rfl⟩
theorem aE.pure (hw:aj ops (rg al) o=some true) {x:XV}(h:bk P (ag (rg al)) o.op=some x):aE O P ops al hs o x hs quiet:=
 fun m hm=>⟨m,by unfold jr;rw [hw];simp only [dG,dH,h],hm,fun _ _=>rfl⟩
theorem ql (hop:bk P (ag (rg al)) o.op = .none) (hx:og O (ag (rg al)) o.op = .none) {i:Nat}{f:ak→Option XV}(hr:fm P (ag (rg al)) o.op=some (i,f)) {x:XV}{m:Mem}(hf:f (m.get i)=some x) :
 dG O P (ag (rg al)) o.op m=some ⟨x,m,false,some i⟩:=by
 simp only [dG,dH,hop,hx,hr,hf]
theorem aE.load (hw:aj ops (rg al) o=some true) {t:TypeId}{a:Operand}(ho:o.op = .load t a) {i off:Nat}(ha:ag (rg al) a = .one (.ptr i off)) {vs:List XC}{e:TypeId}{opn ro:Bool}(hi:hs[i]? = some (.cells vs e opn ro)) {x:X1}(hl:eC P t vs off=some x) :
 aE O P ops al hs o x.pK hs ⟨false,some i,[]⟩:=by
 intro m hm
 refine⟨m,?_,hm,fun _ _=>rfl⟩
 unfold jr
 rw [hw]
 obtain⟨f,hf1,hf2⟩:∃ f,fm P (ag (rg al)) o.op=some (i,f)∧∀ vs' e' o' r',f (.cells vs' e' o' r')=(eC P t vs' off).map X1.pK:=by
  rw [ho]
  simp only [fm,ha]
  exact⟨_,rfl,fun _ _ _ _=>rfl⟩
 refine ql (by rw [ho];rfl) (by rw [ho];rfl) hf1 ?_
 rw [hm.at hi,hf2,hl]
 rfl
theorem DX {t:TypeId}{vs:List XC}{off:Nat}{c:XC}(h:j7 P t=some false) (hc:vs[off]? = some c):eC P t vs off=some (.one c):=by
 unfold eC;rw [h,hc]
theorem w4 {t:TypeId}{vs:List XC}(h:j7 P t=some true) (hs:cz P t=some vs.length):eC P t vs 0=some (.agg vs):=by
 unfold eC;rw [h,hs];simp
theorem c9 (hop:bk P (ag (rg al)) o.op = .none) (hx:og O (ag (rg al)) o.op = .none) (hr:fm P (ag (rg al)) o.op = .none) {x:XV}{m m':Mem}(hf:cx P (ag (rg al)) o.op m=some (x,m')) :
 dG O P (ag (rg al)) o.op m=some ⟨x,m',true,.none⟩:=by
 simp only [dG,dH,hop,hx,hr,hf]
theorem aE.store (hw:aj ops (rg al) o=some true) {t:TypeId}{a y:Operand}(ho:o.op = .store t a y) {i off:Nat}(ha:ag (rg al) a = .one (.ptr i off)) {cs:List XC}(hy:cW (ag (rg al) y)=some cs) (hsz:cz P t=some cs.length)
 {vs:List XC}{e:TypeId}{opn:Bool}(hi:hs[i]? = some (.cells vs e opn false)) (hle:off+cs.length≤vs.length) {vs':List XC}(hv:vs.take off++cs++vs.drop (off+cs.length)=vs') :
 aE O P ops al hs o (.tup []) (hs.set i (.cells vs' e opn false)) ⟨true,.none,[i]⟩:=by
 intro m hm
 refine⟨m.put i (.cells vs' e opn false),?_,hm.put hi _,rq⟩
 unfold jr
 rw [hw]
 refine c9 (by rw [ho];rfl) (by rw [ho];rfl) (by rw [ho];rfl) ?_
 rw [ho]
 simp only [cx,ka,ha,hy,hsz,if_true,hm.at hi,if_pos hle,hv]
theorem B9 {vs:List XC}{off:Nat}{c:XC}(h:off<vs.length):vs.take off++[c]++vs.drop (off + [c].length)=vs.set off c:=by
 rw [List.set_eq_take_append_cons_drop,if_pos h];simp
theorem B8 {vs cs:List XC}(h:cs.length=vs.length):vs.take 0++cs++vs.drop (0+cs.length)=cs:=by simp [h]
theorem aE.alloc (hw:aj ops (rg al) o=some true) {t:TypeId}(ho:o.op = .alloc t) {zs:List XC}(hz:oF P t=some zs) (hb:Nat.blt hs.length Mem.bound=true) :
 aE O P ops al hs o (.one (.ptr hs.length 0)) (hs++[.cells zs t false false]) ⟨true,.none,[hs.length]⟩:=by
 intro m hm
 obtain⟨m',h1,h2,h3⟩:=hm.push (.cells zs t false false) (by simpa [Nat.blt_eq]using hb)
 refine⟨m',?_,h2,h3⟩
 unfold jr
 rw [hw]
 refine c9 (by rw [ho];rfl) (by rw [ho];rfl) (by rw [ho];rfl) ?_
 rw [ho]
 simp only [cx,mn,hz,vL,h1,hm.n]
theorem aE.box (hw:aj ops (rg al) o=some true) {t:TypeId}{y:Operand}(ho:o.op = .box t y) {cs:List XC}(hy:cW (ag (rg al) y)=some cs) (hb:Nat.blt hs.length Mem.bound=true) :
 aE O P ops al hs o (.one (.ptr hs.length 0)) (hs++[.cells cs t false false]) ⟨true,.none,[hs.length]⟩:=by
 intro m hm
 obtain⟨m',h1,h2,h3⟩:=hm.push (.cells cs t false false) (by simpa [Nat.blt_eq]using hb)
 refine⟨m',?_,h2,h3⟩
 unfold jr
 rw [hw]
 refine c9 (by rw [ho];rfl) (by rw [ho];rfl) (by rw [ho];rfl) ?_
 rw [ho]
 simp only [cx,CD,hy,vL,h1,hm.n]
theorem aE.bin (hw:aj ops (rg al) o=some true) {op:BinOp}{t t':TypeId}{a b:Operand}(ho:o.op = .binOp op t a b t') {k k':IntKind}{x y:Int}(ha:ag (rg al) a = .one (.int k x)) (hb:ag (rg al) b = .one (.int k' y)) {c:XC}(hc:a_ op k k' x y=some c) :
 aE O P ops al hs o (.one c) hs quiet:=
 aE.pure hw (by rw [ho];simp only [bk,qm,ha,hb,hc,Option.map_some])
theorem Bc {x y z:Int}(h:x+y=z) (hz : -9223372036854775808≤z∧z<9223372036854775808):a_ .add .i64 .i64 x y=some (.int .i64 z):=by
 simp only [a_,da,if_true,bY,h]
 rw [IntWalk.i64_in z ⟨hz.1,by omega⟩]
theorem Be {x y z:Int}(h:x-y=z) (hz : -9223372036854775808≤z∧z<9223372036854775808):a_ .sub .i64 .i64 x y=some (.int .i64 z):=by
 simp only [a_,da,if_true,bY,h]
 rw [IntWalk.i64_in z ⟨hz.1,by omega⟩]
theorem Bd {x y z:Int}(h:x*y=z) (hz : -9223372036854775808≤z∧z<9223372036854775808):a_ .mul .i64 .i64 x y=some (.int .i64 z):=by
 simp only [a_,da,if_true,bY,h]
 rw [IntWalk.i64_in z ⟨hz.1,by omega⟩]
theorem zX {k:IntKind}{x y:Int}{b:Bool}(h:(x != y)=b):a_ .neq k k x y=some (.bool b):=by simp only [a_,da,if_true,h]
theorem zY {k:IntKind}{x y z:Int}(hy:y≠0) (h:x.tmod y=z):a_ .rem k k x y=some (.int k z):=by simp only [a_,da,if_true,hy,if_false,h]
theorem aE.index (hw:aj ops (rg al) o=some true) {t:TypeId}{a b:Operand}(ho:o.op = .indexAddr t a b) {i off s len j:Nat}{elem:TypeId}(ha:ag (rg al) a = .one (.ptr i off)) {k:IntKind}(hb:ag (rg al) b = .one (.int k (j:Nat)))
 (ht:P.underlying t=some (.array len elem)) (hsz:cz P elem=some s) (hj:j<len) {p:Nat}(hp:off+j*s=p):aE O P ops al hs o (.one (.ptr i p)) hs quiet:=
 aE.pure hw (by
  rw [ho]
  have h1:(0:Int)≤(j:Int)∧(j:Int)<(len:Int):=by omega
  simp only [bk,cw,ha,hb,ht,hsz,if_pos h1,Option.map_some,Int.toNat_natCast,hp])
theorem aE.elem (hw:aj ops (rg al) o=some true) {t:TypeId}{a b:Operand}(ho:o.op = .index t a b) {len j:Nat}{elem:TypeId}{cs:List XC}(ha:ag (rg al) a = .agg cs) {k:IntKind}(hb:ag (rg al) b = .one (.int k (j:Nat)))
 (ht:P.underlying t=some (.array len elem)) (hsz:cz P elem=some 1) (hg:j7 P elem=some false) (hj:j<len) {c:XC}(hc:cs[j]? = some c):aE O P ops al hs o (.one c) hs quiet:=
 aE.pure hw (by
  rw [ho]
  have h1:(0:Int)≤(j:Int)∧(j:Int)<(len:Int):=by omega
  simp only [bk,oZ,ha,hb,ht,hsz,if_pos h1,Int.toNat_natCast,Nat.mul_one,j_,hg,hc,Option.map_some,X1.pK])
theorem aE.call (hw:aj ops (rg al) o=some true) {g:Operand}{args:Array Operand}{ts:Array TypeId}(ho:o.op = .call ⟨.value g,args,ts⟩) {f:FuncId}(hg:ag (rg al) g = .one (.fn f)) (hcb:eP P f=true) {vs:List XV}(ha:args.toList.map (ag (rg al))=vs)
 {x:XV}{hs':aq}{ws:List Nat}(hc:∀ m,bu m hs→∃ m',O.call f vs m=some (x,m')∧bu m' hs'∧∀ j,j∉ws→(m'.fF j).ver=(m.fF j).ver):aE O P ops al hs o x hs' ⟨true,.none,ws⟩:=by
 intro m hm
 obtain⟨m',h1,h2,h3⟩:=hc m hm
 refine⟨m',?_,h2,h3⟩
 unfold jr
 rw [hw]
 have e:cS O P (ag (rg al)) o.op m=some (x,m'):=by
  rw [ho]
  simp only [cS,hg,v7,hcb,if_true,List.map_nil,List.append_nil,ha,h1]
 have n1:bk P (ag (rg al)) o.op = .none:=by rw [ho];rfl
 have n2:og O (ag (rg al)) o.op = .none:=by rw [ho];rfl
 have n3:fm P (ag (rg al)) o.op = .none:=by rw [ho];rfl
 have n4:cx P (ag (rg al)) o.op m = .none:=by rw [ho];rfl
 simp only [dG,dH,n1,n2,n3,n4,e]
end
end Go.Xm
namespace Go.Xm
variable [aC]
def lN:List XV→Nat→bm
 | [],_=>[]
 | x::l,i=>(i,x)::lN l (i+1)
theorem sI:∀(l:List XV) (i j:Nat),rg (lN l i) j=if i≤j∧j<i+l.length then l.getD (j-i) .undef else .undef
 | [],i,j=>by simp [lN,rg]
 | x :: l,i,j=>by
   simp only [lN,rg,List.length_cons]
   by_cases h:j=i
   · subst h
     rw [if_pos rfl,if_pos (by omega)]
     simp
   · rw [if_neg h,sI l (i+1) j]
     by_cases h1:i+1≤j∧j<i+1+l.length
     · rw [if_pos h1,if_pos (by omega)]
       obtain⟨k,hk⟩:∃ k,j-i=k+1:=⟨j-i-1,by omega⟩
       rw [hk,show j-(i+1)=k by omega]
       rfl
     · rw [if_neg h1,if_neg (by omega)]
def qZ (P:Program) (fn:Func) (al:bm) (hs:aq) (v:XV):Prop:=∀ m,bu m hs→dq P fn (rg al) m=some v
theorem wM:bu Mem.empty []:=⟨rfl,Nat.zero_le _,qD,fun i hi=>absurd hi (Nat.not_lt_zero i)⟩
def lf:aq→Mem
 | hs=>hs.foldl (fun m o=>(m.push o).getD m) Mem.empty
theorem gQ (hs:aq) (hb:hs.length<Mem.bound):bu (lf hs) hs:=by
 have:∀(l k:aq) (m:Mem),bu m k→k.length+l.length<Mem.bound→bu (l.foldl (fun m o=>(m.push o).getD m) m) (k++l):=by
  intro l
  induction l with
  | nil=>intro k m hm _;simpa using hm
  | cons o l ih=>
    intro k m hm hlen
    simp only [List.length_cons]at hlen
    obtain⟨m',h1,h2,_⟩:=hm.push o (by omega)
    simp only [List.foldl_cons,h1,Option.getD_some]
    have:=ih (k++[o]) m' h2 (by simp;omega)
    simpa using this
 have h:=this hs [] Mem.empty wM (by simpa using hb)
 simpa [lf]using h
def L2 (P:Program) (f:FuncId) (args:List XV) (v:XV):Prop:=∀ m,dJ P f args m v m
theorem jN {P:Program}{r:tA}(h:r.L3 P):L2 P r.f r.args r.v:=by
 obtain⟨h1,m',h2⟩:=h
 simp only [tA.EF,Bool.and_eq_true,List.all_eq_true]at h1
 exact fun m=>forget h2 h1.1 h1.2 m
end Go.Xm
namespace Go.Xm
variable [aC]
def mR (O:cY) (P:Program) (ops:Array Oper) (nt:Nat) (l:List Oper) (al:bm) (hs:aq) (K:List Ab→bm→aq→Prop):Prop:=
 ∃ bs al' hs',jI O P ops nt l al hs bs al' hs'∧K bs al' hs'
section
variable {O:cY}{P:Program}{ops:Array Oper}{nt nI:Nat}{al:bm}{hs:aq}{o:Oper}
theorem mR.nil {K:List Ab→bm→aq→Prop}(h:K [] al hs):mR O P ops nt [] al hs K:=⟨[],al,hs,.nil,h⟩
theorem mR.cons {o:Oper}{l:List Oper}{x:XV}{hs1:aq}{b:Ab}{K:List Ab→bm→aq→Prop}(h:aE O P ops al hs o x hs1 b) (hd:(match o.dst with | .none=>true|some d=>decide (d<nt))=true)
 (hk:mR O P ops nt l (tM o.dst x al) hs1 fun bs=>K (b::bs)):mR O P ops nt (o::l) al hs K:=by
 obtain⟨bs,al',hs',h1,h2⟩:=hk
 exact⟨b::bs,al',hs',.cons h (fun d hd'=>by rw [hd']at hd;exact of_decide_eq_true hd) h1,h2⟩
theorem WX.Lk (hO:aJ P O) {id:Nat}{K:cJ}(h:mR O P ops nt ops.toList al hs fun _ al' hs'=>K .normal al' hs'):WX P nt nI (.code (.region id ops false)) al hs K:=by
 obtain⟨bs,al',hs',h1,h2⟩:=h
 exact WX.plain hO h1 h2
theorem WX.Ks (hO:aJ P O) (hP:P.follows .mixedOrders=true) {id:Nat}{K:cJ}(hst:bH ops nt (e_ ops.toList)=true) (h:mR O P ops nt ops.toList al hs fun bs al' hs'=>tZ (e_ ops.toList) bs=true∧K .normal al' hs'):WX P nt nI (.code (.region id ops true)) al hs K:=by
 obtain⟨bs,al',hs',h1,h2,h3⟩:=h
 exact WX.drawn hO hP hst h1 h2 h3
theorem WX.at {c:tR}{al':bm}{hs':aq}{K:cJ}(hl:tx al' al) (hh:hs=hs') (h:WX P nt nI c al' hs' K):WX P nt nI c al hs K:=by
 subst hh
 exact WX.less hl h
theorem WX.count {c:Code}{K:cJ}(R:Nat→bm) (H:Nat→aq) (I:Nat→Prop) (N:Nat) (h0:I 0)
 (step:∀ i,i≤N→I i→(i<N→I (i+1)→WX P nt nI (.round c) (R (i+1)) (H (i+1)) K)→WX P nt nI (.round c) (R i) (H i) K):WX P nt nI (.round c) (R 0) (H 0) K:=by
 have:∀ d i,i+d=N→I i→WX P nt nI (.round c) (R i) (H i) K:=by
  intro d
  induction d with
  | zero=>intro i hi h;exact step i (by omega) h fun hlt=>absurd hlt (by omega)
  | succ d ih=>intro i hi h;exact step i (by omega) h fun hlt h'=>ih (i+1) (by omega) h'
 exact this N 0 (by omega) h0
theorem WX.LD {c:Code}{K:cJ}(al':bm) (hs':aq) (h1:WX P nt nI (.code c) al hs fun e al1 hs1=>e = .normal∧tx al' al1∧hs1=hs') (h2:∀ al1,tx al' al1→K .normal al1 hs'):WX P nt nI (.code c) al hs K:=
 h1.mono fun e al1 hs1 ⟨he,hl,hh⟩=>by
  subst he;subst hh
  exact h2 al1 hl
theorem aE.conv (hw:aj ops (rg al) o=some true) {s d:TypeId}{y:Operand}(ho:o.op = .convert s d y) {k k':IntKind}{x z:Int}(hy:ag (rg al) y = .one (.int k x)) (hc:j0 P s d (.one (.int k x))=some (.one (.int k' (iH k' x)))) (hz:k'.wrap x=z) :
 aE O P ops al hs o (.one (.int k' z)) hs quiet:=
 aE.pure hw (by rw [ho];simp only [bk,hy,hc,bY,hz])
theorem qZ.tmp {fn:Func}{a:Nat}{y:X1}(hr:fn.results.toList = [.tmp a]) (ha:mL (rg al a)=some y):qZ P fn al hs y.pK:=by
 intro m hm
 unfold dq
 rw [hr]
 simp only [fZ,tc,ha]
end
end Go.Xm
namespace Go.Xm
class aT (P:Program) (t:TypeId) (s:outParam Nat):Prop where out:cz P t=some s
class dw (P:Program) (t:TypeId):Prop where out:j7 P t=some false
class eE (P:Program) (t:TypeId):Prop where out:j7 P t=some true
class bz (P:Program) (t:TypeId) (zs:outParam (List XC)):Prop where out:oF P t=some zs
class aY (P:Program) (t:TypeId) (d:outParam TypeDesc):Prop where out:P.underlying t=some d
class dD (P:Program) (t:TypeId) (l:outParam (List (Nat × Nat))):Prop where out:∃ fs,P.underlying t=some (.struct fs)∧n9 P fs.toList=some l
class cA (P:Program) (s:TypeId) (f:Nat) (ft:outParam TypeId) (off:outParam Nat):Prop where out:(ji P s f).map (fun fd=>(fd.type,fd.offset))=some (ft,off)
theorem cA.ex {P:Program}{s:TypeId}{f:Nat}{ft:TypeId}{off:Nat} [h:cA P s f ft off]:∃ fd,ji P s f=some fd∧fd.type=ft∧fd.offset=off:=by
 obtain⟨fd,h1,h2⟩:=Option.map_eq_some_iff.1 h.out
 cases h2
 exact⟨fd,h1,rfl,rfl⟩
def ti (k:IntKind) (n:Nat) (f:Nat→Int):List XC:=(List.range n).map fun i => .int k (f i)
def fw (f:Nat→Int) (j:Nat) (x:Int) (i:Nat):Int:=if i=j then x else f i
theorem bc (k:IntKind) (n:Nat) (f:Nat→Int):(ti k n f).length=n:=by simp [ti]
theorem jW {k:IntKind}{n:Nat}{f:Nat→Int}{j:Nat}(h:j<n):(ti k n f)[j]? = some (.int k (f j)):=by simp [ti,h]
theorem qi (k:IntKind) (n:Nat) (f:Nat→Int) (j:Nat) (x:Int):(ti k n f).set j (.int k x)=ti k n (fw f j x):=by
 apply List.ext_getElem?
 intro i
 rw [List.getElem?_set]
 by_cases hj:j=i
 · subst hj
   by_cases hn:j<n
   · rw [if_pos rfl,if_pos (by rw [bc];exact hn),jW hn];simp [fw]
   · rw [if_pos rfl,if_neg (by rw [bc];exact hn),List.getElem?_eq_none (by rw [bc];omega)]
 · rw [if_neg hj]
   by_cases hn:i<n
   · rw [jW hn,jW hn];simp [fw,Ne.symm hj]
   · rw [List.getElem?_eq_none (by rw [bc];omega),List.getElem?_eq_none (by rw [bc];omega)]
theorem pI {k:IntKind}{n:Nat}{f g:Nat→Int}(h:∀ i,i<n→f i=g i):ti k n f=ti k n g:=by
 unfold ti
 exact List.map_congr_left fun i hi=>by rw [h i (List.mem_range.1 hi)]
end Go.Xm
namespace Go.Xm
def XC.aw (τ : Nat→Nat):XC→XC
 | .ptr i off => .ptr (τ i) off
 | .slice i off len cap => .slice (τ i) off len cap
 | .map i => .map (τ i)
 | .bind g c => .bind (g.aw τ) (c.aw τ)
 | c=>c
def X1.aw (τ : Nat→Nat):X1→X1
 | .one c => .one (c.aw τ)
 | .agg cs => .agg (cs.map (·.aw τ))
def XV.aw (τ : Nat→Nat):XV→XV
 | .undef => .undef
 | .one c => .one (c.aw τ)
 | .agg cs => .agg (cs.map (·.aw τ))
 | .tup xs => .tup (xs.map (·.aw τ))
def ak.aw (τ : Nat→Nat):ak→ak
 | .dead => .dead
 | .cells vs e opn ro => .cells (vs.map (·.aw τ)) e opn ro
 | .map es => .map (es.map fun p=>(p.1.aw τ,p.2.aw τ))
def XV.cB (n:Nat):XV→Prop
 | .undef=>True
 | .one c=>c.ok n
 | .agg cs=>∀ c∈cs,c.ok n
 | .tup xs=>∀ x∈xs,x.ok n
def ak.cB (n:Nat):ak→Prop
 | .dead=>True
 | .cells vs _ _ _=>∀ c∈vs,c.ok n
 | .map es=>∀ p∈es,p.1.ok n∧p.2.ok n
theorem XC.l6 {τ : Nat→Nat}{n N:Nat}(h:∀ i,i<n → τ i<N):∀ {c:XC},c.ok n→(c.aw τ).ok N:=by
 intro c
 induction c with
 | ptr i off=>exact fun h'=>h i h'
 | slice i off len cap=>exact fun h'=>h i h'
 | map i=>exact fun h'=>h i h'
 | bind g c ih1 ih2=>exact fun h'=>⟨ih1 h'.1,ih2 h'.2⟩
 | _=>intro _;trivial
theorem X1.l6 {τ : Nat→Nat}{n N:Nat}(h:∀ i,i<n → τ i<N):∀ {x:X1},x.ok n→(x.aw τ).ok N
 | .one _,h'=>XC.l6 h h'
 | .agg cs,h'=>fun c hc=>by
   obtain⟨d,hd,rfl⟩:=List.mem_map.1 hc
   exact XC.l6 h (h' d hd)
variable [aC]
def yh (β β':Env) (τ : Nat→Nat) (n:Nat):Prop:=∀ i,i<n → β'.cU (τ i) = β.cU i ∧ β'.size (τ i) = β.size i ∧ β'.base (τ i) = β.base i
theorem XC.hJ {β β':Env}{τ : Nat→Nat}{n:Nat}(h:yh β β' τ n):∀ {c:XC},c.ok n→(c.aw τ).den β'=c.den β:=by
 intro c
 induction c with
 | ptr i off=>intro h';simp only [XC.aw,XC.den,(h i h').1,(h i h').2.2]
 | slice i off len cap=>intro h';cases cap <;> simp only [XC.aw,XC.den,(h i h').1,(h i h').2.1,(h i h').2.2]
 | map i=>intro h';simp only [XC.aw,XC.den,(h i h').1]
 | bind g c ih1 ih2=>intro h';simp only [XC.aw,XC.den,ih1 h'.1,ih2 h'.2]
 | _=>intro _;rfl
theorem gq {β β':Env}{τ : Nat→Nat}{n:Nat}(h:yh β β' τ n) {cs:List XC}(hc:∀ c∈cs,c.ok n):(cs.map (·.aw τ)).map (·.den β')=cs.map (·.den β):=by
 rw [List.map_map]
 exact List.map_congr_left fun c hm=>XC.hJ h (hc c hm)
theorem X1.hJ {β β':Env}{τ : Nat→Nat}{n:Nat}(h:yh β β' τ n):∀ {x:X1},x.ok n→(x.aw τ).den β'=x.den β
 | .one _,h'=>XC.hJ h h'
 | .agg cs,h'=>by simp only [X1.aw,X1.den,gq h h']
theorem aP.aw {β β':Env}{τ : Nat→Nat}{n N:Nat}(h:yh β β' τ n) (hb:∀ i,i<n → τ i<N) {x:XV}{v:Value}(hr:aP β n x v):aP β' N (x.aw τ) v:=by
 cases x with
 | undef=>trivial
 | one c=>exact⟨XC.l6 hb hr.1,hr.2.trans (XC.hJ h hr.1).symm⟩
 | agg cs=>
   refine⟨fun c hc=>?_,hr.2.trans (by rw [gq h hr.1])⟩
   obtain⟨d,hd,rfl⟩:=List.mem_map.1 hc
   exact XC.l6 hb (hr.1 d hd)
 | tup xs=>
   refine⟨fun c hc=>?_,hr.2.trans ?_⟩
   · obtain⟨d,hd,rfl⟩:=List.mem_map.1 hc
     exact X1.l6 hb (hr.1 d hd)
   · rw [List.map_map]
     exact congrArg (fun l=>Value.tuple (List.toArray l)) (List.map_congr_left fun c hm=>(X1.hJ h (hr.1 c hm)).symm)
theorem aP.uA {β β':Env}{τ : Nat→Nat}{n N:Nat}(h:yh β β' τ n) {x:XV}(hx:x.cB n) {v:Value}(hr:aP β' N (x.aw τ) v):aP β n x v:=by
 cases x with
 | undef=>trivial
 | one c=>exact⟨hx,hr.2.trans (XC.hJ h hx)⟩
 | agg cs=>exact⟨hx,hr.2.trans (by rw [gq h hx])⟩
 | tup xs=>
   refine⟨hx,hr.2.trans ?_⟩
   rw [List.map_map]
   exact congrArg (fun l=>Value.tuple (List.toArray l)) (List.map_congr_left fun c hm=>X1.hJ h (hx c hm))
theorem fJ.aw {β β':Env}{τ : Nat→Nat}{n N lo sz:Nat}(h:yh β β' τ n) (hb:∀ i,i<n → τ i<N) {x:ak}{o:Option Obj}(hr:fJ β n lo sz x o):fJ β' N lo sz (x.aw τ) o:=by
 cases x with
 | dead=>trivial
 | cells vs e opn ro=>
   obtain⟨cs,fr,h1,h2,h3,h4,h5,h6⟩:=hr
   refine⟨cs,fr,h1,h2,by rw [List.length_map];exact h3,h4,fun c hc=>?_,?_⟩
   · obtain⟨d,hd,rfl⟩:=List.mem_map.1 hc
     exact XC.l6 hb (h5 d hd)
   · rw [List.length_map,h6,gq h h5]
 | map es=>
   obtain⟨en,clock,h1,h2,h3⟩:=hr
   refine⟨en,clock,h1,fun p hp=>?_,h3.trans ?_⟩
   · obtain⟨d,hd,rfl⟩:=List.mem_map.1 hp
     exact⟨X1.l6 hb (h2 d hd).1,X1.l6 hb (h2 d hd).2⟩
   · rw [List.map_map]
     exact List.map_congr_left fun p hp=>by simp only [Function.comp,X1.hJ h (h2 p hp).1,X1.hJ h (h2 p hp).2]
theorem fJ.uA {β β':Env}{τ : Nat→Nat}{n N lo sz:Nat}(h:yh β β' τ n) {x:ak}(hx:x.cB n) {o:Option Obj}(hr:fJ β' N lo sz (x.aw τ) o):fJ β n lo sz x o:=by
 cases x with
 | dead=>trivial
 | cells vs e opn ro=>
   obtain⟨cs,fr,h1,h2,h3,h4,h5,h6⟩:=hr
   rw [List.length_map]at h3 h6
   exact⟨cs,fr,h1,h2,h3,h4,hx,by rw [h6,gq h hx]⟩
 | map es=>
   obtain⟨en,clock,h1,h2,h3⟩:=hr
   refine⟨en,clock,h1,hx,h3.trans ?_⟩
   rw [List.map_map]
   exact List.map_congr_left fun p hp=>by simp only [Function.comp,X1.hJ h (hx p hp).1,X1.hJ h (hx p hp).2]
theorem po {τ : Nat→Nat}{x:ak}:(x.aw τ).live=x.live:=by cases x <;> rfl
theorem nP {τ : Nat→Nat}{x:ak}:(x.aw τ).own=x.own:=by cases x <;> rfl
structure View (τ : Nat→Nat) (hs1 hs2:aq):Prop where
 lt:∀ j,j<hs2.length → τ j<hs1.length
 inj:∀(i j:Nat) (a b:ak),hs2[i]? = some a→hs2[j]? = some b→a ≠ .dead→b ≠ .dead → τ i = τ j→i=j
 ok:∀(j:Nat) (o:ak),hs2[j]? = some o→o.cB hs2.length
 obj:∀(j:Nat) (o:ak),hs2[j]? = some o→o = .dead∨hs1[τ j]? = some (o.aw τ)
theorem bu.get? {m:Mem}{hs:aq}(h:bu m hs) {i:Nat}(hi:i<m.n):hs[i]? = some (m.get i):=by
 have:=h.n
 rw [h.get i hi,List.getD_eq_getElem?_getD,List.getElem?_eq_getElem (by omega)]
 rfl
theorem Rel.view {β : Env}{m m2:Mem}{w:World}{hs1 hs2:aq}{τ : Nat→Nat}(h:Rel β m w) (h1:bu m hs1) (h2:bu m2 hs2) (v:View τ hs1 hs2) {β2:Env}(hv:yh β2 β τ hs2.length):Rel β2 m2 w:=by
 have n1:=h1.n
 have n2:=h2.n
 have key:∀ i,i<m2.n→m2.get i = .dead∨(m2.get i).cB hs2.length ∧ τ i<m.n∧m.get (τ i)=(m2.get i).aw τ:=fun i hi=>by
  have g:=h2.get? hi
  have lt:=v.lt i (by omega)
  rcases v.obj i _ g with e|e
  · exact .inl e
  · refine .inr ⟨v.ok i _ g,by omega,?_⟩
    exact h1.at e
 refine⟨h2.bnd,h2.fresh,fun i hi=>?_,fun i j hi hj li lj hb=>?_⟩
 · rcases key i hi with e|⟨e1,e2,e3⟩
   · rw [e];trivial
   · have:=h.obj (τ i) e2
     rw [e3,(hv i (by omega)).1,(hv i (by omega)).2.1,(hv i (by omega)).2.2]at this
     rw [n2]
     exact this.uA hv e1
 · rcases key i hi with e|⟨_,e2,e3⟩
   · rw [e]at li;cases li
   rcases key j hj with e|⟨_,e2',e3'⟩
   · rw [e]at lj;cases lj
   refine v.inj i j _ _ (h2.get? hi) (h2.get? hj) (fun e=>by rw [e]at li;cases li) (fun e=>by rw [e]at lj;cases lj) (h.inj (τ i) (τ j) e2 e2' (by rw [e3,nP];exact li) (by rw [e3',po];exact lj) ?_)
   rw [(hv i (by omega)).1,(hv j (by omega)).1]
   exact hb
theorem Rel.vw {β : Env}{m m2:Mem}{hs1 hs2:aq}{τ : Nat→Nat}(h1:bu m hs1) (h2:bu m2 hs2) (v:View τ hs1 hs2) {β2:Env}(hv:yh β2 β τ hs2.length) {k:Nat}(hi:FX β2 m2 k):FX β m k:=by
 obtain⟨i,hi,hl,rfl⟩:=hi
 have n1:=h1.n
 have n2:=h2.n
 have g:=h2.get? hi
 have lt:=v.lt i (by omega)
 rcases v.obj i _ g with e|e
 · rw [e]at hl;cases hl
 · refine⟨τ i,by omega,?_,(hv i (by omega)).1⟩
   rw [h1.at e,nP]
   exact hl
def bq (P:Program) (f:FuncId) (args:List XV) (hs:aq) (v:XV) (hs':aq):Prop:=
 ∀ (m:Mem),bu m hs→∀(β : Env) (w:World) (vs:List Value),ct (aP β m.n) args vs→Rel β m w →
   Calls P f vs.toArray w fun e w'=>∃ u β' m',e = .returned u∧bu m' hs'∧aP β' m'.n v u∧Step β m w β' m' w'
def aF (P:Program) (fn:Func) (n:Nat) (v:XV) (hs':aq):cJ:=fun e al hs1=>(e = .normal∨e = .ret)∧∃(v1:XV) (τ : Nat→Nat),qZ P fn al hs1 v1∧v1=v.aw τ∧v.cB hs'.length∧View τ hs1 hs'∧∀ j,j<n → τ j=j
theorem WX.view {P:Program}{nt nI:Nat}{c:tR}{al al2:bm}{hs hs2:aq}{K:cJ}(τ : Nat→Nat) (hv:View τ hs hs2) (hid:∀ j,j<nI → τ j=j) (hle:nI≤hs2.length) (hb:Nat.blt hs2.length Mem.bound=true) (hok:∀ t,(rg al2 t).cB hs2.length) (hr:∀ t,rg al2 t = .undef∨rg al t=(rg al2 t).aw τ)
 (h:WX P nt nI c al2 hs2 K):WX P nt nI c al hs K:=by
 intro βI mI wI hn m hm β w a Q hrel hst hq
 have hm2:=gQ hs2 (by simpa [Nat.blt_eq]using hb)
 have n1:=hm.n
 have n2:=hm2.n
 let β2:Env:=⟨fun i => β.cU (τ i),fun i => β.base (τ i),fun i => β.size (τ i)⟩
 have hvia:yh β2 β τ hs2.length:=fun i _=>⟨rfl,rfl,rfl⟩
 have hst2:Step βI mI wI β2 (lf hs2) w:=by
  refine⟨by omega,fun i hi=>?_,hst.rel.view hm hm2 hv hvia,hst.os,hst.tape,hst.output,hst.size,hst.frame,fun k hk hi=>hst.qE k hk (Rel.vw hm hm2 hv hvia hi)⟩
  have:=hst.ext i hi
  show β.cU (τ i) = βI.cU i ∧ β.size (τ i) = βI.size i ∧ β.base (τ i) = βI.base i
  rw [hid i (by omega)]
  exact this
 refine h βI mI wI hn (lf hs2) hm2 β2 w a Q ⟨hrel.size,hrel.small,fun t ht=>?_,fun t ht=>?_⟩ hst2 hq
 · rcases hr t with e|e
   · rw [e];trivial
   · have:=hrel.rel t ht
     rw [e]at this
     rw [n2]
     exact this.uA hvia (hok t)
 · rcases hr t with e|e
   · exact e
   · have:=hrel.out t ht
     rw [e]at this
     cases hx:rg al2 t <;> rw [hx]at this <;> first|rfl|cases this
theorem Bj {P:Program}{f:FuncId}{fn:Func}{c:Code}{args:List XV}{hs hs':aq}{v:XV}(hf:P.funcs[f]? = some fn) (hb:fn.body=some c) (hn:fn.ntmps<1000000) (hl:args.length≤fn.ntmps) (hle:hs.length≤hs'.length) (hbd:hs'.length<Mem.bound)
 (h:WX P fn.ntmps hs.length (.code c) (lN args 0) hs (aF P fn hs.length v hs')):bq P f args hs v hs':=by
 intro m hm β w vs hall hw
 refine calls_of_wp hf hb ?_
 have hr0:=pf hall hn hl
 have e:(fP args 0 .leaf).get .undef=rg (lN args 0):=by
  funext j
  rw [lU args 0 .leaf (by omega) j,sI,T.eH]
 unfold i6 at hr0
 rw [e]at hr0
 have nm:=hm.n
 refine h β m w nm m hm β w _ _ hr0 (Step.refl hw) fun x al' hs1 m1 hk hm1 a' β' w' h1 h2 h3=>?_
 obtain⟨hx,v1,τ,hres,rfl,hok,hview,hid⟩:=hk
 obtain⟨u,hu1,hu2⟩:=nv (hres m1 hm1) h3.rel h1
 have hm2:=gQ hs' hbd
 have n2:=hm2.n
 let β2:Env:=⟨fun i => β'.cU (τ i),fun i => β'.base (τ i),fun i => β'.size (τ i)⟩
 have hv:yh β2 β' τ hs'.length:=fun i _=>⟨rfl,rfl,rfl⟩
 have hst:Step β m w β2 (lf hs') w':=by
  refine⟨by omega,fun i hi=>?_,h3.rel.view hm1 hm2 hview hv,h3.os,h3.tape,h3.output,h3.size,h3.frame,fun k hk hi=>h3.qE k hk (Rel.vw hm1 hm2 hview hv hi)⟩
  have:=h3.ext i hi
  show β'.cU (τ i) = β.cU i ∧ β'.size (τ i) = β.size i ∧ β'.base (τ i) = β.base i
  rw [hid i (by omega)]
  exact this
 have hu3:aP β2 (lf hs').n v u:=by rw [n2];exact hu2.uA hv hok
 rcases hx with rfl|rfl <;> exact⟨h2,u,hu1,u,β2,lf hs',rfl,hm2,hu3,hst⟩
def beyond (ρ : Nat→Nat) (n N:Nat) (j:Nat):Nat:=if j<n then ρ j else N+(j-n)
structure H3 (ρ : Nat→Nat) (n:Nat) (HS:aq) (hs':aq) (HS':aq):Prop where
 len:HS'.length=HS.length+(hs'.length-n)
 obj:∀(j:Nat) (o:ak),hs'[j]? = some o→HS'[beyond ρ n HS.length j]? = some (o.aw (beyond ρ n HS.length))
 old:∀ i,i<HS.length→(∀ j,j<n → ρ j≠i)→HS'[i]? = HS[i]?
theorem rK {β0 β : Env}{ρ : Nat→Nat}{n N:Nat}(hvia:yh β0 β ρ n):∀ {args:List XV}{vs:List Value},(∀ x∈args,x.cB n)→ct (aP β N) (args.map (·.aw ρ)) vs→ct (aP β0 n) args vs
 | [],_,_,h=>by cases h;exact .nil
 | x::l,_,ha,h=>by
   cases h with
   | cons h1 h2=>exact .cons (h1.uA hvia (ha x (List.mem_cons_self ..))) (rK hvia (fun y hy=>ha y (List.mem_cons_of_mem _ hy)) h2)
theorem yv {P:Program}{f:FuncId}{args:List XV}{hs hs' HS HS':aq}{v:XV}(hc:bq P f args hs v hs') (hle:hs.length≤hs'.length) (hbd:hs.length<Mem.bound) {ρ : Nat→Nat}(hv:View ρ HS hs) (ha:∀ x∈args,x.cB hs.length) (haf:H3 ρ hs.length HS hs' HS') (hro:∀(j:Nat) (o:ak),hs'[j]? = some o→o.live=true→o.own=false→∃ o0,hs[j]? = some o0∧o0.live=true)
 {M M':Mem}(hM:bu M HS) (hM':bu M' HS'):dJ P f (args.map (·.aw ρ)) M (v.aw (beyond ρ hs.length HS.length)) M':=by
 intro β w vs hall hw
 have hm0:=gQ hs hbd
 have n0:=hm0.n
 have N0:=hM.n
 have N1:=hM'.n
 have hlen:=haf.len
 let β0:Env:=⟨fun i => β.cU (ρ i),fun i => β.base (ρ i),fun i => β.size (ρ i)⟩
 have hvia:yh β0 β ρ hs.length:=fun i _=>⟨rfl,rfl,rfl⟩
 have hrel0:Rel β0 (lf hs) w:=hw.view hM hm0 hv hvia
 have hargs:ct (aP β0 (lf hs).n) args vs:=by
  rw [n0]
  exact rK hvia ha hall
 refine(hc _ hm0 β0 w vs hargs hrel0).mono fun e w' ⟨u,β1,m1,he,hm1,hu,hst⟩=>?_
 have n1:=hm1.n
 have hsle:=hst.le
 let ρ':=beyond ρ hs.length HS.length
 let β':Env:=⟨fun i=>if i<HS.length then β.cU i else β1.cU (i-HS.length+hs.length),fun i=>if i<HS.length then β.base i else β1.base (i-HS.length+hs.length),fun i=>if i<HS.length then β.size i else β1.size (i-HS.length+hs.length)⟩
 have hvia':yh β1 β' ρ' hs'.length:=by
  intro j hj
  show(if ρ' j<HS.length then β.cU (ρ' j)else β1.cU (ρ' j-HS.length+hs.length)) = β1.cU j∧(if ρ' j<HS.length then β.size (ρ' j)else β1.size (ρ' j-HS.length+hs.length)) = β1.size j∧(if ρ' j<HS.length then β.base (ρ' j)else β1.base (ρ' j-HS.length+hs.length)) = β1.base j
  by_cases h:j<hs.length
  · have e1 : ρ' j = ρ j:=if_pos h
    have e2:=hv.lt j h
    rw [e1,if_pos e2,if_pos e2,if_pos e2]
    have:=hst.ext j (by omega)
    exact⟨this.1.symm,this.2.1.symm,this.2.2.symm⟩
  · have e1 : ρ' j=HS.length+(j-hs.length):=if_neg h
    rw [e1,if_neg (by omega),if_neg (by omega),if_neg (by omega),show HS.length+(j-hs.length)-HS.length+hs.length=j by omega]
    exact⟨rfl,rfl,rfl⟩
 have hlt':∀ j,j<hs'.length → ρ' j<HS'.length:=by
  intro j hj
  by_cases h:j<hs.length
  · have e1 : ρ' j = ρ j:=if_pos h
    have e2:=hv.lt j h
    omega
  · have e1 : ρ' j=HS.length+(j-hs.length):=if_neg h
    omega
 refine⟨u,β',he,by rw [N1];rw [n1]at hu;exact hu.aw hvia' hlt',?_⟩
 have kinds:∀ i,i<M'.n→(∃ j,j<m1.n ∧ ρ' j=i∧M'.get i=(m1.get j).aw ρ')∨(i<HS.length∧(∀ j,j<hs.length → ρ j≠i)∧M'.get i=M.get i∧i<M.n):=by
  intro i hi
  by_cases h:i<HS.length
  · by_cases h2:∃ j,j<hs.length ∧ ρ j=i
    · obtain⟨j,hj,rfl⟩:=h2
      refine .inl ⟨j,by omega,if_pos hj,?_⟩
      have g:=hm1.get? (i:=j) (by omega)
      have:=haf.obj j _ g
      have e1:beyond ρ hs.length HS.length j = ρ j:=if_pos hj
      rw [e1]at this
      exact hM'.at this
    · have h3:∀ j,j<hs.length → ρ j≠i:=fun j hj e=>h2 ⟨j,hj,e⟩
      refine .inr ⟨h,h3,?_,by omega⟩
      have e1:=haf.old i h h3
      rw [hM'.get? hi,hM.get? (i:=i) (by omega)]at e1
      exact Option.some.inj e1
  · refine .inl ⟨i-HS.length+hs.length,by omega,?_,?_⟩
    · show beyond ρ hs.length HS.length _=i
      unfold beyond
      rw [if_neg (by omega)];omega
    · have g:=hm1.get? (i:=i-HS.length+hs.length) (by omega)
      have:=haf.obj _ _ g
      have e1:beyond ρ hs.length HS.length (i-HS.length+hs.length)=i:=by unfold beyond;rw [if_neg (by omega)];omega
      rw [e1]at this
      exact hM'.at this
 have imgs:∀ j,j<m1.n→(m1.get j).own=true → β1.cU j<w.heap.size→∃ j2,j2<hs.length∧((lf hs).get j2).own=true ∧ β.cU (ρ j2) = β1.cU j:=by
  intro j hj hl hlt
  obtain⟨j2,h1,h2,h3⟩:=hst.qE _ hlt ⟨j,hj,hl,rfl⟩
  exact⟨j2,by omega,h2,h3⟩
 have liveρ : ∀ j2,j2<hs.length→((lf hs).get j2).own=true → ρ j2<M.n∧(M.get (ρ j2)).own=true:=by
  intro j2 h1 h2
  have g:=hm0.get? (i:=j2) (by omega)
  have lt:=hv.lt j2 h1
  refine⟨by omega,?_⟩
  rcases hv.obj j2 _ g with e|e
  · rw [e]at h2;cases h2
  · rw [hM.at e,nP];exact h2
 have bold:∀ i,i<HS.length → β'.cU i = β.cU i ∧ β'.size i = β.size i ∧ β'.base i = β.base i:=fun i h=>⟨if_pos h,if_pos h,if_pos h⟩
 refine⟨by omega,fun i hi=>bold i (by omega),⟨hM'.bnd,hM'.fresh,fun i hi=>?_,fun i i2 hi hi2 hl hl2 hbb=>?_⟩,hst.os,hst.tape,hst.output,hst.size,fun k hk hn=>?_,fun k hk hi=>?_⟩
 · rcases kinds i hi with⟨j,hj,rfl,hg⟩|⟨h1,h2,hg,h3⟩
   · rw [hg,N1,(hvia' j (by omega)).1,(hvia' j (by omega)).2.1,(hvia' j (by omega)).2.2]
     have:=hst.rel.obj j hj
     rw [n1]at this
     exact this.aw hvia' hlt'
   · rw [hg,(bold i h1).1,(bold i h1).2.1,(bold i h1).2.2]
     cases hgm:M.get i with
     | dead=>trivial
     | cells a b c d=>
       have hli:(M.get i).live=true:=by rw [hgm];rfl
       have hlt:=hw.lt h3 hli
       have hfr:w'.heap[β.cU i]? = w.heap[β.cU i]?:=by
        refine hst.frame _ hlt fun⟨j2,q1,q2,q3⟩=>?_
        have q4:=liveρ j2 (by omega) q2
        exact h2 j2 (by omega) (hw.inj (ρ j2) i q4.1 h3 q4.2 hli q3)
       rw [hfr,←hgm]
       exact(hw.obj i h3).ext (fun i hi=>bold i (by omega)) (by omega)
     | map es=>
       have hli:(M.get i).live=true:=by rw [hgm];rfl
       have hlt:=hw.lt h3 hli
       have hfr:w'.heap[β.cU i]? = w.heap[β.cU i]?:=by
        refine hst.frame _ hlt fun⟨j2,q1,q2,q3⟩=>?_
        have q4:=liveρ j2 (by omega) q2
        exact h2 j2 (by omega) (hw.inj (ρ j2) i q4.1 h3 q4.2 hli q3)
       rw [hfr,←hgm]
       exact(hw.obj i h3).ext (fun i hi=>bold i (by omega)) (by omega)
 · rcases kinds i hi with⟨j,hj,rfl,hg⟩|⟨h1,h2,hg,h3⟩
   · rcases kinds i2 hi2 with⟨j',hj',rfl,hg'⟩|⟨h1',h2',hg',h3'⟩
     · rw [(hvia' j (by omega)).1,(hvia' j' (by omega)).1]at hbb
       rw [hg,nP]at hl
       rw [hg',po]at hl2
       rw [hst.rel.inj j j' hj hj' hl hl2 hbb]
     · rw [(hvia' j (by omega)).1,(bold i2 h1').1]at hbb
       rw [hg,nP]at hl
       rw [hg']at hl2
       have hlt:=hw.lt h3' hl2
       obtain⟨j2,q1,q2,q3⟩:=imgs j hj hl (by rw [hbb];exact hlt)
       have q4:=liveρ j2 q1 q2
       exact absurd (hw.inj (ρ j2) i2 q4.1 h3' q4.2 hl2 (q3.trans hbb)) (h2' j2 q1)
   · rcases kinds i2 hi2 with⟨j',hj',rfl,hg'⟩|⟨h1',h2',hg',h3'⟩
     · rw [(hvia' j' (by omega)).1,(bold i h1).1]at hbb
       rw [hg',po]at hl2
       rw [hg]at hl
       have hlt:=hw.lt h3 (ak.cK hl)
       cases hown:(m1.get j').own with
       | true=>
         obtain⟨j2,q1,q2,q3⟩:=imgs j' hj' hown (by rw [←hbb];exact hlt)
         have q4:=liveρ j2 q1 q2
         exact absurd (hw.inj (ρ j2) i q4.1 h3 q4.2 (ak.cK hl) (q3.trans hbb.symm)) (h2 j2 q1)
       | false=>
         obtain⟨o0,q1,q2⟩:=hro j' _ (hm1.get? hj') hl2 hown
         have q3:j'<hs.length:=(List.getElem?_eq_some_iff.1 q1).1
         have q4:=hv.lt j' q3
         have q5:(M.get (ρ j')).live=true:=by
          rcases hv.obj j' o0 q1 with e|e
          · rw [e]at q2;cases q2
          · rw [hM.at e,po];exact q2
         have q6 : β1.cU j' = β.cU (ρ j'):=(hst.ext j' (by omega)).1
         exact absurd (hw.inj i (ρ j') h3 (by omega) hl q5 (hbb.trans q6)).symm (h2 j' q3)
     · rw [(bold i h1).1,(bold i2 h1').1]at hbb
       rw [hg]at hl
       rw [hg']at hl2
       exact hw.inj i i2 h3 h3' hl hl2 hbb
 · refine hst.frame k hk fun⟨j2,q1,q2,q3⟩=>hn ?_
   have q4:=liveρ j2 (by omega) q2
   exact⟨ρ j2,q4.1,q4.2,q3⟩
 · obtain⟨i,hi,hl,rfl⟩:=hi
   rcases kinds i hi with⟨j,hj,rfl,hg⟩|⟨h1,h2,hg,h3⟩
   · rw [hg,nP]at hl
     rw [(hvia' j (by omega)).1]at hk ⊢
     obtain⟨j2,q1,q2,q3⟩:=imgs j hj hl hk
     have q4:=liveρ j2 q1 q2
     exact⟨ρ j2,q4.1,q4.2,q3⟩
   · rw [hg]at hl
     rw [(bold i h1).1]
     exact⟨i,h3,hl,rfl⟩
end Go.Xm
