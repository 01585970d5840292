/-
  A part of the proof: XvOps, XvPut, XvAuto, XvTac, Facts.
-/
import Derived.Test.YthdciapjllppjaaGreatWbD
import Derived.KernelRfl
import Derived.Test.YthdciapjllppjaaGreatProg
set_option maxRecDepth 10000
set_option maxHeartbeats 8000000
set_option linter.unusedVariables false
set_option linter.unusedSectionVars false
set_option linter.unusedSimpArgs false
open Go.Proofs.Tryz (prog)
namespace Go.Xm
variable [aq]
variable {P:Program} {ops:Array Oper} {nt nI:Nat} {al:aO} {hs:aj} {o:Oper} {l:List Oper} {L:List aA} {K:List Ab->aO->aj->Prop} {d:Nat}
class TI (P:Program) (t:TypeId) (s:outParam Nat):Prop where out:(P.info? t).elim false (fun i=>Nat.beq i.size s&&Nat.ble i.bytes 65536)=true
theorem TI.get{P:Program}{t:TypeId}{s:Nat}[h:TI P t s]:∃ti,P.info? t=some ti/\ti.size=s/\ti.bytes<=65536:=by
 have h:=h.out
 cases hi:P.info? t with
 | none=>rw[hi]at h;cases h
 | some ti=>
   rw[hi]at h;simp only[Option.elim,Bool.and_eq_true]at h;exact⟨ti,rfl,Nat.eq_of_beq_eq_true h.1,Nat.le_of_ble_eq_true h.2⟩
def xe(k:IntKind)(z:Int):Prop:=match k with
 | .i8 => -128<=z/\z<128
 | .i16 => -32768<=z/\z<32768
 | .i32 => -2147483648<=z/\z<2147483648
 | .i64 => -9223372036854775808<=z/\z<9223372036854775808
 | .u8=>0<=z/\z<256
 | .u16=>0<=z/\z<65536
 | .u32=>0<=z/\z<4294967296
 | .u64=>0<=z/\z<18446744073709551616
theorem f6{k:IntKind}{z:Int}(h:xe k z):k.wrap z=z:=by
 cases k<;>simp only[xe]at h<;>simp only[IntKind.wrap,IntKind.bits,IntKind.signed]<;>simp<;>omega
theorem Oz{k:IntKind}{z:Int}(h:xe k z):z<2^k.bits:=by
 cases k<;>simp only[xe]at h<;>simp only[IntKind.bits]<;>omega
theorem LH{k:IntKind}{z w:Int}(h:xe k z)(h0:0<=w)(h1:w<=z):xe k w:=by
 cases k<;>simp only[xe]at h ⊢<;>omega
theorem Ft{k:IntKind}{z:Int}(h0:0<=z)(h1:z<2^(k.bits-1)):xe k z:=by
 cases k<;>simp only[xe,IntKind.bits]at h1 ⊢<;>omega
theorem SY{k:IntKind}{x y:Int}(hk:xe k x)(hx:0<=x)(hy:0<y):bE .quo k k x y=some (.int k (x/y)):=by
 have h0:y≠0:=by omega
 have h1:x.tdiv y=x/y:=Int.tdiv_eq_ediv_of_nonneg hx;have h2:0<=x/y:=Int.ediv_nonneg hx (by omega);have h3:x/y<=x:=Int.ediv_le_self _ hx;simp only[bE,dW,if_true,h0,if_false,cj,h1,f6 (LH hk h2 h3)]
theorem S4{k k':IntKind}{x y:Int}(hk:xe k x)(hx:0<=x)(hy:0<=y):bE .shr k k' x y=some (.int k (x/2^y.toNat)):=by
 have h0:¬y<0:=by omega
 simp only[bE,h0,if_false,uZ];have hp:∀n:Nat,(0:Int)<2^n:=fun n=>Int.pow_pos (by omega)
 rw[Int.fdiv_eq_ediv_of_nonneg _ (Int.le_of_lt (hp _))]
 by_cases h:y.toNat<=k.bits
 ·rw[Nat.min_eq_left h]
 ·have h':k.bits<=y.toNat:=by omega
  rw[Nat.min_eq_right h'];have hlt:=Oz hk;have e1:x/2^k.bits=0:=Int.ediv_eq_zero_of_lt hx hlt
  have e2:x/2^y.toNat=0:=by
   refine Int.ediv_eq_zero_of_lt hx (Int.lt_of_lt_of_le hlt ?_)
   exact_mod_cast Nat.pow_le_pow_right (by omega) h'
  rw[e1,e2]
theorem S3{k k':IntKind}{x y:Int}{n:Nat}(hn:y=(n:Nat))(hb:n<=k.bits)(h:xe k (x*2^n)):bE .shl k k' x y=some (.int k (x*2^n)):=by
 subst hn;have h0:¬((n:Nat):Int)<0:=by omega
 simp only[bE,h0,if_false,uZ,Int.toNat_natCast,Nat.min_eq_left hb,cj,f6 h]
theorem Sv{k:IntKind}{x y:Int}(n:Nat)(hy:y=2^n-1)(hn:n<k.bits):bE .and k k x y=some (.int k (x%2^n)):=by
 have hp:(0:Int)<2^n:=Int.pow_pos (by omega);have hle:(2:Int)^n<=2^k.bits:=by exact_mod_cast Nat.pow_le_pow_right (by omega) (by omega)
 have hle1:(2:Int)^n<=2^(k.bits-1):=by exact_mod_cast Nat.pow_le_pow_right (by omega) (by omega)
 have hm0:=Int.emod_nonneg x (show(2:Int)^n≠0 by omega);have hm1:=Int.emod_lt_of_pos x hp
 have key:(((BitVec.ofInt k.bits x &&& BitVec.ofInt k.bits y).toNat:Nat):Int)=x%2^n:=by
  rw[BitVec.toNat_and,BitVec.toNat_ofInt,BitVec.toNat_ofInt]
  have e1:(y%((2^k.bits:Nat):Int)).toNat=2^n-1:=by
   have e:y%((2^k.bits:Nat):Int)=y:=Int.emod_eq_of_lt (by omega) (by push_cast;omega);rw[e,hy];have:((2^n:Nat):Int)=2^n:=by push_cast;rfl
   omega
  rw[e1,Nat.and_two_pow_sub_one_eq_mod]
  push_cast
  rw[Int.toNat_of_nonneg (Int.emod_nonneg _ (by have:(0:Int)<2^k.bits:=Int.pow_pos (by omega);omega))];exact Int.emod_emod_of_dvd x ⟨2^(k.bits-n),by rw[<-Int.pow_add];congr 1;omega⟩
 simp only[bE,dW,if_true,cj];rw[key,f6 (Ft hm0 (by omega))]
def uy(k:IntKind)(x y:Int):Int:=k.wrap ((BitVec.ofInt k.bits x ^^^ BitVec.ofInt k.bits y).toNat)
def sB(k:IntKind)(x y:Int):Int:=k.wrap ((BitVec.ofInt k.bits x ||| BitVec.ofInt k.bits y).toNat)
def Ch(k:IntKind)(x y:Int):Int:=k.wrap ((BitVec.ofInt k.bits x &&& BitVec.ofInt k.bits y).toNat)
def Fc(op:BinOp)(x y:Int):Option Prop:=match op with
 | .eql=>some (x=y)
 | .neq=>some (x≠y)
 | .lss=>some (x<y)
 | .leq=>some (x<=y)
 | .gtr=>some (y<x)
 | .geq=>some (y<=x)
 | _ => .none
theorem DM{op:BinOp}{k:IntKind}{x y:Int}{p:Prop}(hp:Fc op x y=some p):(p->bE op k k x y=some (.bool true))/\(¬p->bE op k k x y=some (.bool false)):=by
 cases op<;>simp only[Fc]at hp<;>first|(cases hp;done)|(cases hp;constructor<;>intro h<;>simp_all [bE,dW])
theorem CO{t t':TypeId}{a b:Operand}{op:BinOp}{k:IntKind}{x y:Int}{p:Prop}(ho:o.op = .binOp op t a b t')(hw:aw ops (rg al) o=some true)(hd:o.dst=some d)(hlt:Nat.blt d nt=true)(ha:af (rg al) a = .one (.int k x))(hb:af (rg al) b = .one (.int k y))(hp:Fc op x y=some p)
 (h1:p->SK P ops nt L l ((d,.one (.bool true))::al) hs fun bs=>K (quiet::bs)) (h2:¬p->SK P ops nt L l ((d,.one (.bool false))::al) hs fun bs=>K (quiet::bs)):SK P ops nt L (o::l) al hs K:=by
 by_cases h:p
 ·exact SK.lift hd hlt (fun _=>aB.bin hw ho ha hb ((DM hp).1 h)) (h1 h)
 ·exact SK.lift hd hlt (fun _=>aB.bin hw ho ha hb ((DM hp).2 h)) (h2 h)
def cS(c:XC)(i off n:Nat):Prop:=(n=0/\(c = .nils\/∃o cap,c = .slice i o 0 (.exact cap)))\/∃cap,n<=cap/\c = .slice i off n (.exact cap)
theorem cS.nil{i off:Nat}:cS .nils i off 0 := .inl ⟨rfl,.inl rfl⟩
theorem cS.mk{i off n cap:Nat}(h:n<=cap):cS (.slice i off n (.exact cap)) i off n := .inr ⟨cap,h,rfl⟩
theorem cS.same{c:XC}{i off n i' off' n':Nat}(h:cS c i off n)(h':cS c i' off' n'):n=n'/\(n=0\/(off=off'/\i=i')):=by
 rcases h with⟨rfl,rfl|⟨o,cap,rfl⟩⟩|⟨cap,h1,rfl⟩
 ·rcases h' with⟨rfl,_⟩|⟨cap,h1,e⟩
  ·exact⟨rfl,.inl rfl⟩
  ·cases e
 ·rcases h' with⟨rfl,_⟩|⟨cap',h1,e⟩
  ·exact⟨rfl,.inl rfl⟩
  ·cases e;exact⟨rfl,.inl rfl⟩
 ·rcases h' with⟨rfl,e|⟨o,cap,e⟩⟩|⟨cap',h1,e⟩
  ·cases e
  ·cases e;exact⟨rfl,.inl rfl⟩
  ·cases e;exact⟨rfl,.inr ⟨rfl,rfl⟩⟩
theorem cS.ok{c:XC}{i off n m:Nat}(h:cS c i off n)(hi:i<m):c.ok m:=by
 rcases h with⟨_,rfl|⟨o,cap,rfl⟩⟩|⟨cap,_,rfl⟩
 ·trivial
 ·exact hi
 ·exact hi
theorem cS.aC{c:XC}{i off n:Nat}(h:cS c i off n)(τ : Nat->Nat):cS (c.aC τ) (τ i) off n:=by
 rcases h with⟨rfl,rfl|⟨o,cap,rfl⟩⟩|⟨cap,h1,rfl⟩
 ·exact .inl ⟨rfl,.inl rfl⟩
 ·exact .inl ⟨rfl,.inr ⟨o,cap,rfl⟩⟩
 ·exact .inr ⟨cap,h1,rfl⟩
theorem cS.id{c:XC}{i off n:Nat}(h:cS c i off n){τ : Nat->Nat}(hi : τ i=i):c.aC τ = c:=by
 rcases h with⟨rfl,rfl|⟨o,cap,rfl⟩⟩|⟨cap,h1,rfl⟩
 ·rfl
 ·simp only[XC.aC,hi]
 ·simp only[XC.aC,hi]
theorem ai.sl{τ : Nat->Nat}{al:aO}{t:Nat}{c:XC}{r:aO}{i off n:Nat}(h:rg al t = .one c)(hs:cS c i off n)(hi : τ i=i)(hr:ai τ al r):ai τ al ((t,.one c)::r):=
 .cons (by simp only[XV.aC,hs.id hi];exact h) hr
theorem ai.lO{τ : Nat->Nat}{al:aO}{t k k' n n' sz:Nat}{r:aO}(h:rg al t=gJ k' n' sz)(hk : τ k=k')(hn:n'=n)(hr:ai τ al r):ai τ al ((t,gJ k n sz)::r):=
 .cons (by rw[fV,hk,<-hn];exact h) hr
theorem MD{a:Operand}{t elem:TypeId}(ho:o.op = .call ⟨.builtin .len,#[a],#[t]⟩)(hw:aw ops (rg al) o=some true)(hd:o.dst=some d)(hlt:Nat.blt d nt=true){c:XC}(ha:af (rg al) a = .one c)[hu:aQ P t (.slice elem)]{i off n:Nat}(hc:cS c i off n)
 (hk:SK P ops nt L l ((d,.one (.int .i64 (n:Nat)))::al) hs fun bs=>K (quiet::bs)):SK P ops nt L (o::l) al hs K:=by
 rcases hc with⟨rfl,rfl|⟨o,cap,rfl⟩⟩|⟨cap,_,rfl⟩
 all_goals exact SK.lift hd hlt (fun _=>aB.pure hw (by rw[ho];simp[aZ,ej,ha,y7,hu.out])) hk
theorem ME{a:Operand}{t elem:TypeId}(ho:o.op = .call ⟨.builtin .len,#[a],#[t]⟩)(hw:aw ops (rg al) o=some true)(hd:o.dst=some d)(hlt:Nat.blt d nt=true){i n sz:Nat}(ha:af (rg al) a=gJ i n sz)[hu:aQ P t (.slice elem)]
 (hk:SK P ops nt L l ((d,.one (.int .i64 (n:Nat)))::al) hs fun bs=>K (quiet::bs)):SK P ops nt L (o::l) al hs K:=by
 unfold gJ eE at ha;split at ha
 ·rename_i h;subst h;exact SK.lift hd hlt (fun _=>aB.pure hw (by rw[ho];simp[aZ,ej,ha,y7,hu.out])) hk
 ·exact SK.lift hd hlt (fun _=>aB.pure hw (by rw[ho];simp[aZ,ej,ha,y7,hu.out])) hk
theorem MB{t:TypeId}{a b:Operand}{elem:TypeId}{s:Nat}(ho:o.op = .indexAddr t a b)(hw:aw ops (rg al) o=some true)(hd:o.dst=some d)(hlt:Nat.blt d nt=true){c:XC}(ha:af (rg al) a = .one c){k:IntKind}{z:Int}(hb:af (rg al) b = .one (.int k z))[hu:aQ P t (.slice elem)][hs':aH P elem s]{i off n:Nat}(hc:cS c i off n)(hz:0<=z/\z<n)
 {p:Nat}(hp:off+z.toNat*s=p) (hk:SK P ops nt L l ((d,.one (.ptr i p))::al) hs fun bs=>K (quiet::bs)):SK P ops nt L (o::l) al hs K:=by
 rcases hc with⟨rfl,_⟩|⟨cap,_,rfl⟩
 ·omega
 ·exact SK.lift hd hlt (fun _=>aB.pure hw (by rw[ho];simp only[aZ,b_,ha,hb,hu.out,hs'.out,if_pos hz,Option.map_some,hp])) hk
def qS(x:Option XV)(dflt:Int):Option Int:=match x with
 | .none=>some dflt
 | some (.one (.int _ z))=>some z
 | _ => .none
theorem qU{x:Option XV}{y p:Nat}(h:qS x 0=some (p:Int))(hle:p<=y):jN x 0 y=some p:=by
 unfold qS at h;unfold jN;split at h
 ·injection h with h
  have:p=0:=by omega
  rw[this]
 ·rename_i k z;cases h;simp only[];rw[if_pos ⟨by omega,by omega⟩];simp
 ·cases h
theorem qT{x:Option XV}{n y q:Nat}(h:qS x (n:Nat)=some (q:Int))(hle:q<=y):jN x n y=some q:=by
 unfold qS at h;unfold jN;split at h
 ·injection h with h
  have:q=n:=by omega
  rw[this]
 ·rename_i k z;cases h;simp only[];rw[if_pos ⟨by omega,by omega⟩];simp
 ·cases h
theorem Pv{t e:TypeId}{a:Operand}{lo hi:Option Operand}{s:Nat}(ho:o.op = .slice t a lo hi .none)[hu:aQ P t (.slice e)][hs':aH P e s](hw:aw ops (rg al) o=some true)(hd:o.dst=some d)(hlt:Nat.blt d nt=true){i off n p q:Nat}{c:XC}(ha:af (rg al) a = .one c)(hc:cS c i off n)
 {z w:Int}(hl:qS (lo.map (af (rg al))) 0=some z) (hh:qS (hi.map (af (rg al))) (n:Nat)=some w) (hp:z=(p:Nat)) (hq:w=(q:Nat)) (hb:p<=q/\q<=n) (hk:∀c',cS c' i (off+p*s) (q-p)->SK P ops nt L l ((d,.one c')::al) hs fun bs=>K (quiet::bs)):SK P ops nt L (o::l) al hs K:=by
 subst hp hq
 rcases hc with⟨rfl,rfl|⟨o',cap,rfl⟩⟩|⟨cap,hcap,rfl⟩
 ·obtain⟨rfl,rfl⟩:p=0/\q=0:=by omega
  have e1:=qU (y:=0) hl (by omega);have e2:=qT (y:=0) hh (by omega);exact SK.lift hd hlt (x := .one .nils) (fun _=>aB.pure hw (by rw[ho];simp only[aZ,oJ,hu.out,ha,eI,Option.map_none,e1,e2,hs'.out])) (hk _ (.inl ⟨rfl,.inl rfl⟩))
 ·obtain⟨rfl,rfl⟩:p=0/\q=0:=by omega
  have e1:=qU (y:=0) hl (by omega);have e2:=qT (y:=cap) hh (by omega);refine SK.lift hd hlt (x := .one (.slice i (if cap=0 then o' else o'+0*s) (0-0) (.exact (cap-0)))) (fun _=>aB.pure hw (by rw[ho];simp only[aZ,oJ,hu.out,ha,eI,Option.map_none,e1,e2,hs'.out])) (hk _ (.inl ⟨rfl,.inr ⟨_,_,rfl⟩⟩))
 ·have e1:=qU (y:=q) hl (by omega);have e2:=qT (y:=cap) hh (by omega);refine SK.lift hd hlt (x := .one (.slice i (if cap=p then off else off+p*s) (q-p) (.exact (cap-p)))) (fun _=>aB.pure hw (by rw[ho];simp only[aZ,oJ,hu.out,ha,eI,Option.map_none,e1,e2,hs'.out])) (hk _ ?_)
  by_cases hm:cap=p
  ·have hz:q-p=0:=by omega
   rw[hz];exact .inl ⟨rfl,.inr ⟨_,_,rfl⟩⟩
  ·rw[if_neg hm];exact .inr ⟨cap-p,by omega,rfl⟩
theorem Pm{zs:List XC}{t e:TypeId}{y:Operand}(ho:o.op = .buildSlice t 1 #[(0,y)])[hu:aQ P t (.slice e)][hz:aM P e zs][hse:aH P e 1](hzl:zs.length=1)(hw:aw ops (rg al) o=some true)(hd:o.dst=some d)(hlt:Nat.blt d nt=true){c:XC}(hy:cQ (af (rg al) y)=some [c]){n:Nat}(hn:hs.length=n)(hb:Nat.blt n Mem.bound=true){hs':aj}(hh:hs++[.cells [c] e false false]=hs')
 (hk:SK P ops nt L l ((d,.one (.slice n 0 1 (.exact 1)))::al) hs' fun bs=>K (⟨true,.none,[n]⟩::bs)):SK P ops nt L (o::l) al hs K:=by
 subst hn hh;refine SK.lift hd hlt (fun _=>?_) hk;intro m hm;obtain⟨m',h1,h2,h3⟩:=hm.push (.cells [c] e false false) (by simpa [Nat.blt_eq]using hb);refine⟨m',?_,h2,h3⟩;unfold ji;rw[hw];refine ct (by rw[ho];rfl) (by rw[ho];rfl) (by rw[ho];rfl) ?_;rw[ho]
 have hf:gQ (fun i=>some (i*1,1)) (eC zs (1*1)) [(0,af (rg al) y)]=some [c]:=by
  simp[gQ,hy,eC]
 simp only[cf,dz,dX,hu.out,hse.out,hz.out,List.map_cons,List.map_nil,hzl,h1,hm.n,hf];simp
theorem Gi{t:TypeId}{parts:Array (Nat×Operand)}(ho:o.op = .build t parts){zs:List XC}[hz:aM P t zs]{pl:List (Nat×Nat)}[hp:cC P t pl](hw:aw ops (rg al) o=some true)(hd:o.dst=some d)(hlt:Nat.blt d nt=true)
 {out:List XC}(hc:gQ (fun i=>pl[i]?) zs (parts.toList.map fun p=>(p.1,af (rg al) p.2))=some out)
 (hk:SK P ops nt L l ((d,.agg out)::al) hs fun bs=>K (quiet::bs)):SK P ops nt L (o::l) al hs K:=by
 obtain⟨fs,h1,h2⟩:=hp.out;exact SK.lift hd hlt (fun _=>aB.pure hw (by rw[ho];simp only[aZ,oF,hz.out,h1,h2,hc,Option.map_some])) hk
theorem CM{t t1 e:TypeId}{sz m:Nat}{a b:Operand}(ho:o.op = .call ⟨.builtin .append,#[a,b],#[t,t1]⟩){zs:List XC}[hu:aQ P t (.slice e)][hz:aM P e zs][hI:TI P e sz](hw:aw ops (rg al) o=some true)(hd:o.dst=some d)(hlt:Nat.blt d nt=true)
 (hsz:zs.length=sz/\0<sz) {i n:Nat} {cs ds:List XC}(ha:af (rg al) a=gJ i n sz) (hi:hs[i]? = some (bU e cs)) (hn:cs.length=n*sz) (hsrc:∀M,a_ M hs->j8 P t1 sz (af (rg al) b) M=some (m,ds)) (hm:0<m/\n+m<=2000000000)
 {N:Nat}(hN:hs.length=N) (hb:Nat.blt N Mem.bound=true) {hs':aj}(hh:hs.set i .dead++[.cells (cs++ds) e true false]=hs')
 (hk:SK P ops nt L l ((d,.one (.slice N 0 (n+m) (.toEnd sz)))::al) hs' fun bs=>K (⟨true,.none,[i,N]⟩::bs)):SK P ops nt L (o::l) al hs K:=by
 subst hN hh;obtain⟨ti,hti,rfl,hby⟩:=hI.get;obtain⟨z1,z2⟩:=hsz;have hbytes:(n+m)*ti.bytes<=140737488355328:=Nat.le_trans (Nat.mul_le_mul_left _ hby) (by omega);have hsmall:hs.length<Mem.bound:=by simpa [Nat.blt_eq]using hb
 refine SK.lift hd hlt (fun _=>?_) hk;intro M hM;have hx:=hsrc M hM
 by_cases h0:n=0
 ·subst h0;have hcs:cs = []:=List.length_eq_zero_iff.1 (by simpa using hn);subst hcs
  have hdead:hs.set i .dead=hs:=by
   apply List.ext_getElem?;intro j
   by_cases hj:i=j
   ·subst hj;rw[hi,List.getElem?_set_self (List.getElem?_eq_some_iff.1 hi).1];rfl
   ·rw[List.getElem?_set_ne hj]
  rw[hdead];obtain⟨m',h1,h2,h3⟩:=hM.push (.cells ds e true false) hsmall;refine⟨m',?_,by simpa using h2,fun j hj=>h3 j (by simp at hj ⊢;exact hj.2)⟩;unfold ji;rw[hw];refine ct (by rw[ho];rfl) (by rw[ho];rfl) (by rw[ho];rfl) ?_;rw[ho];have hm0:¬m=0:=by omega
  have hb1:m<=9223372036854775807/\m*ti.bytes<=140737488355328:=⟨by omega,by simpa using hbytes⟩
  have ha':af (rg al) a = .one .nils:=ha;simp only[cf,jh,dX,hu.out,hti,hz.out,ha',hx,hm0,if_false,List.getElem?_toArray,List.getElem?_cons_zero,List.getElem?_cons_succ];rw[if_pos ⟨z1,z2⟩];simp only[hb1,and_self,if_true,h1,hM.n,Nat.zero_add]
 ·have hcs:cs≠[]:=fun h=>by
   subst h;have:n*ti.size=0:=by simpa using hn.symm
   rcases Nat.mul_eq_zero.1 this with h|h<;>omega
  rw[cK hcs]at hi;rw[fm h0]at ha;have hput:=hM.put hi .dead;obtain⟨m',h1,h2,h3⟩:=hput.push (.cells (cs++ds) e true false) (by rw[List.length_set];exact hsmall);refine⟨m',?_,h2,fun j hj=>?_⟩
  ·unfold ji;rw[hw];refine ct (by rw[ho];rfl) (by rw[ho];rfl) (by rw[ho];rfl) ?_;rw[ho];have hm0:¬m=0:=by omega
   have hb1:True/\n+m<=9223372036854775807/\(n+m)*ti.bytes<=140737488355328:=⟨trivial,by omega,hbytes⟩
   simp only[cf,jh,dX,hu.out,hti,hz.out,ha,hx,hm0,if_false,List.getElem?_toArray,List.getElem?_cons_zero,List.getElem?_cons_succ];rw[if_pos ⟨z1,z2⟩];simp only[hM.at hi];rw[if_pos hb1,if_pos ⟨trivial,hn,trivial,trivial⟩];simp only[h1,hM.n]
  ·simp only[List.mem_cons,List.not_mem_nil,or_false,not_or]at hj;rw[h3 j (by rw[List.length_set];simpa using hj.2),tv j (by simpa using hj.1)]
end Go.Xm
namespace Go.Xm
variable [aq]
variable {P:Program}
theorem ae.view{ls:List Nat}{HS hs:aj}(nd:Nd ls hs)(ho:ae (nth ls) HS ls hs)(hk:ax hs.length hs):View (nth ls) HS hs:=by
 obtain⟨hlen,hobj⟩:=ho.at
 refine⟨fun j hj=>?_,fun i j a b hi hj ha hb hij=>nd.inj hlen i j a b hi hj ha hb hij,fun j o hj=>hk.at o (List.mem_of_getElem? hj),fun j o hj=>(hobj j o hj).2⟩;exact(hobj j _ (List.getElem?_eq_getElem hj)).1
inductive gW(n:Nat):List XV->Prop where
 | nil:gW n []
 | flat {v:XV} {l:List XV} [b8 v]:gW n l->gW n (v::l)
 | cons {v:XV} {l:List XV}:v.bK n->gW n l->gW n (v::l)
theorem gW.at{n:Nat}{l:List XV}(h:gW n l):∀x∈l,x.bK n:=by
 induction h with
 | nil=>intro o h;cases h
 | @flat o hs inst _ ih=>
   intro x hx
   rcases List.mem_cons.1 hx with rfl|hx
   ·exact inst.ok n
   ·exact ih x hx
 | cons h1 _ ih=>
   intro x hx
   rcases List.mem_cons.1 hx with rfl|hx
   ·exact h1
   ·exact ih x hx
inductive e9(τ : Nat->Nat):List XV->List XV->Prop where
 | nil:e9 τ [] []
 | flat {v:XV} {l m:List XV} [b8 v]:e9 τ l m->e9 τ (v::l) (v::m)
 | cons {v w:XV} {l m:List XV}:v.aC τ = w->e9 τ l m->e9 τ (v::l) (w::m)
theorem e9.eq{τ : Nat->Nat}{l m:List XV}(h:e9 τ l m):l.map (·.aC τ)=m:=by
 induction h with
 | nil=>rfl
 | @flat v l m inst _ ih=>simp only[List.map_cons,ih,inst.aC]
 | cons h _ ih=>simp only[List.map_cons,ih,h]
inductive lF(τ : Nat->Nat)(HS:aj):List Nat->aj->Prop where
 | nil:lF τ HS [] []
 | flat {i:Nat} {o:ak} {l:List Nat} {hs:aj} [cA o]:HS[i]? = some o->lF τ HS l hs->lF τ HS (i::l) (o::hs)
 | cons {i:Nat} {o:ak} {l:List Nat} {hs:aj}:HS[i]? = some (o.aC τ)->lF τ HS l hs->lF τ HS (i::l) (o::hs)
theorem lF.via{τ : Nat->Nat}{HS:aj}{l:List Nat}{hs:aj}(h:lF τ HS l hs):ae τ HS l hs:=by
 induction h with
 | nil=>exact .nil
 | flat h1 _ ih=>exact .flat h1 ih
 | cons h1 _ ih=>exact .cons h1 ih
theorem lF.at{τ : Nat->Nat}{HS:aj}{l:List Nat}{hs:aj}(h:lF τ HS l hs):∀(j:Nat) (o:ak),hs[j]? = some o->HS[nth l j]? = some (o.aC τ):=by
 induction h with
 | nil=>intro j o h;simp at h
 | @flat i o l hs inst h1 _ ih=>
   intro j o' hj
   cases j with
   | zero=>simp at hj;subst hj;rw[inst.aC];exact h1
   | succ j=>exact ih j o' (by simpa using hj)
 | cons h1 _ ih=>
   intro j o' hj
   cases j with
   | zero=>simp at hj;subst hj;exact h1
   | succ j=>exact ih j o' (by simpa using hj)
theorem fR{f:FuncId}{args0 args:List XV}{hs0 HS:aj}{v v':XV}(ls:List Nat)(hc:bt P f args0 hs0 v hs0)(nd:ls.Nodup)(ho:lF (nth ls) HS ls hs0)(hk:ax hs0.length hs0)(ha:gW hs0.length args0)(e1:e9 (nth ls) args0 args)(hv:v.bK hs0.length)(e2:v.aC (nth ls)=v')(hb:Nat.blt HS.length Mem.bound=true)(hb0:Nat.blt hs0.length Mem.bound=true) :
 aA.Sound P ⟨f,args,HS,v',HS,[]⟩:=by
 obtain⟨hlen,_⟩:=ho.via.at
 have hat:=ho.at
 have kc:∀c:XC,c.ok hs0.length->c.aC (beyond (nth ls) hs0.length HS.length)=c.aC (nth ls):=by
  intro c
  induction c with
  | ptr i off=>exact fun h=>by simp only[XC.aC,beyond];rw[if_pos (show i<hs0.length from h)]
  | slice i off len cap=>exact fun h=>by simp only[XC.aC,beyond];rw[if_pos (show i<hs0.length from h)]
  | map i=>exact fun h=>by simp only[XC.aC,beyond];rw[if_pos (show i<hs0.length from h)]
  | lsl g k off len fl cut=>exact fun h=>by simp only[XC.aC,beyond];rw[if_pos (show g<hs0.length from h)]
  | lpt g k off=>exact fun h=>by simp only[XC.aC,beyond];rw[if_pos (show g<hs0.length from h)]
  | bind g c ih1 ih2=>exact fun h=>by simp only[XC.aC,ih1 h.1,ih2 h.2]
  | _=>intro _;rfl
 have kcs:∀cs:List XC,(∀c∈cs,c.ok hs0.length)->cs.map (·.aC (beyond (nth ls) hs0.length HS.length))=cs.map (·.aC (nth ls)):=fun cs h=>List.map_congr_left fun c hc=>kc c (h c hc)
 have k1:∀x:X1,x.ok hs0.length->x.aC (beyond (nth ls) hs0.length HS.length)=x.aC (nth ls):=fun x h=>by
  cases x with
  | one c=>simp only[X1.aC,kc c h]
  | agg cs=>simp only[X1.aC,kcs cs h]
 have kv:∀x:XV,x.bK hs0.length->x.aC (beyond (nth ls) hs0.length HS.length)=x.aC (nth ls):=fun x h=>by
  cases x with
  | undef=>rfl
  | one c=>simp only[XV.aC,kc c h]
  | agg cs=>simp only[XV.aC,kcs cs h]
  | tup xs=>simp only[XV.aC];rw[List.map_congr_left fun c hc=>k1 c (h c hc)]
 have ko:∀x:ak,x.bK hs0.length->x.aC (beyond (nth ls) hs0.length HS.length)=x.aC (nth ls):=fun x h=>by
  cases x with
  | dead=>rfl
  | late L=>rfl
  | cells vs e a b=>simp only[ak.aC,kcs vs h]
  | map es=>simp only[ak.aC];rw[List.map_congr_left fun p hp=>by rw[k1 _ (h p hp).1,k1 _ (h p hp).2]]
 refine tk hc (Nat.le_refl _) (ho.via.view (.inl nd) hk) ha.at e1.eq ((kv v hv).trans e2) ⟨by simp,fun j o h=>?_,fun i hi _=>rfl⟩ (fun j o h hl _=>⟨o,h,hl⟩) (fun i hi _=>rfl) hb hb0;have hj:j<hs0.length:=(List.getElem?_eq_some_iff.1 h).1;rw[ko o (hk.at o (List.mem_of_getElem? h)),show beyond (nth ls) hs0.length HS.length j=nth ls j from if_pos hj];exact hat j o h
structure RO(o:ak)(k:IntKind)(l:List Int):Prop where
 get:0<l.length->∃e opn ro,o = .cells (il k l) e opn ro
 flat:cA o
theorem RO.of(k:IntKind)(l:List Int)(e:TypeId)(opn ro:Bool):RO (.cells (il k l) e opn ro) k l:=⟨fun _=>⟨e,opn,ro,rfl⟩,inferInstance⟩
def bJ(HS:aj):List Nat->aj->aj
 | i::ls,o::os=>bJ (HS.set i o) ls os
 | [],os=>HS++os
 | _::_,[]=>HS
theorem u6:∀(ls:List Nat) (HS os:aj),ls.length<=os.length->(bJ HS ls os).length=HS.length+(os.length-ls.length)
 | [],HS,os,_=>by simp[bJ]
 | i::ls,HS,o::os,h=>by
   simp only[bJ,List.length_cons]at h ⊢;rw[u6 ls _ os (by omega),List.length_set];omega
 | _::_,_,[],h=>by simp at h
theorem l_:∀(ls:List Nat) (HS os:aj) (i:Nat),i<HS.length->i∉ls->(bJ HS ls os)[i]? = HS[i]?
 | [],HS,os,i,hi,_=>by simp only[bJ];exact List.getElem?_append_left hi
 | k::ls,HS,o::os,i,hi,h=>by
   simp only[List.mem_cons,not_or]at h;simp only[bJ];rw[l_ ls _ os i (by rw[List.length_set];exact hi) h.2,List.getElem?_set_ne (Ne.symm h.1)]
 | _::_,_,[],i,hi,_=>rfl
theorem AK:∀(ls:List Nat) (HS os:aj) (j:Nat),ls.length<=j->j<os.length->(bJ HS ls os)[HS.length+(j-ls.length)]? = os[j]?
 | [],HS,os,j,_,hj=>by
   simp only[bJ,List.length_nil,Nat.sub_zero];rw[List.getElem?_append_right (by omega)];congr 1;omega
 | k :: ls,HS,o::os,j,h,hj=>by
   cases j with
   | zero=>simp at h
   | succ j=>
     simp only[List.length_cons]at h hj;have:=AK ls (HS.set k o) os j (by omega) (by omega);rw[List.length_set]at this;simp only[bJ,List.length_cons,List.getElem?_cons_succ];rw[<-this];congr 1;omega
 | _::_,_,[],j,_,hj=>by simp at hj
theorem D_:∀(ls:List Nat) (HS os:aj),ls.Nodup->(∀i∈ls,i<HS.length)->∀(j:Nat),j<ls.length->j<os.length->(bJ HS ls os)[nth ls j]? = os[j]?
 | [],_,_,_,_,j,hj,_=>by simp at hj
 | k :: ls,HS,o::os,nd,hi,j,hj,ho=>by
   have hk:k∉ls:=(List.nodup_cons.1 nd).1;have nd':=(List.nodup_cons.1 nd).2;have hi':∀i∈ls,i<(HS.set k o).length:=fun i h=>by rw[List.length_set];exact hi i (List.mem_cons_of_mem _ h)
   simp only[bJ]
   cases j with
   | zero=>
     show(bJ (HS.set k o) ls os)[k]? = some o;rw[l_ ls _ os k (by rw[List.length_set];exact hi k (List.mem_cons_self ..)) hk,List.getElem?_set_self (hi k (List.mem_cons_self ..))]
   | succ j=>
     simp only[List.length_cons]at hj ho;exact D_ ls _ os nd' hi' j (by omega) (by omega)
 | _::_,_,[],_,_,j,_,ho=>by simp at ho
inductive d9(τ : Nat->Nat):aj->aj->Prop where
 | nil:d9 τ [] []
 | flat {o:ak} {l m:aj} [cA o]:d9 τ l m->d9 τ (o::l) (o::m)
 | cons {o w:ak} {l m:aj}:o.aC τ = w->d9 τ l m->d9 τ (o::l) (w::m)
theorem d9.eq{τ : Nat->Nat}{l m:aj}(h:d9 τ l m):l.map (·.aC τ)=m:=by
 induction h with
 | nil=>rfl
 | @flat v l m inst _ ih=>simp only[List.map_cons,ih,inst.aC]
 | cons h _ ih=>simp only[List.map_cons,ih,h]
def gN:aj->aj->Bool
 | _,[]=>true
 | o0::hs0,o::hs=>(o0.live||!o.live||o.own)&&gN hs0 hs
 | [],o::hs=>(!o.live||o.own)&&gN [] hs
theorem yG:∀{hs0 hs:aj},gN hs0 hs=true->∀(j:Nat) (o:ak),hs[j]? = some o->o.live=true->o.own=false->∃o0,hs0[j]? = some o0/\o0.live=true
 | _,[],_,j,o,h,_,_=>by simp at h
 | o0::hs0,o::hs,hr,j,x,h,hl,ho=>by
   simp only[gN,Bool.and_eq_true]at hr
   cases j with
   | zero=>
     simp only[List.getElem?_cons_zero,Option.some.injEq]at h;subst h;refine⟨o0,rfl,?_⟩;rw[hl,ho]at hr;simpa using hr.1
   | succ j=>exact yG hr.2 j x (by simpa using h) hl ho
 | [],o::hs,hr,j,x,h,hl,ho=>by
   simp only[gN,Bool.and_eq_true]at hr
   cases j with
   | zero=>
     simp only[List.getElem?_cons_zero,Option.some.injEq]at h;subst h;rw[hl,ho]at hr;simp at hr
   | succ j=>
     obtain⟨o0,h1,_⟩:=yG hr.2 j x (by simpa using h) hl ho;simp at h1
theorem BU{ls:List Nat}{N k:Nat}(j:Nat)(hj:j<ls.length+k):beyond (nth ls) ls.length N j=nth (ls++List.range' N k) j:=by
 unfold beyond nth
 by_cases h:j<ls.length
 ·rw[if_pos h,List.getD_eq_getElem?_getD,List.getD_eq_getElem?_getD,List.getElem?_append_left h]
 ·rw[if_neg h,List.getD_eq_getElem?_getD,List.getElem?_append_right (by omega),List.getElem?_range' (by omega)];simp
theorem bI{f:FuncId}{args0 args:List XV}{hs0 hs0' HS HS' os:aj}{v v':XV}(ls ws:List Nat)(k:Nat)(hc:bt P f args0 hs0 v hs0')(nd:ls.Nodup)(ho:ae (nth ls) HS ls hs0)(hk:ax hs0.length hs0)(hk':ax hs0'.length hs0')(hn:ls.length+k=hs0'.length)(ha:gW hs0.length args0)(e1:e9 (nth ls) args0 args)(hv:v.bK hs0'.length)
 (e2:v.aC (nth (ls++List.range' HS.length k))=v') (hr:d9 (nth (ls++List.range' HS.length k)) hs0' os) (hro:gN hs0 hs0'=true) (hb0:Nat.blt hs0.length Mem.bound=true) (hh:bJ HS ls os=HS') (hb:Nat.blt HS'.length Mem.bound=true) (hws:ws=ls\/∀i,i<HS.length->i∉ws->HS'[i]? = HS[i]?) :
 aA.Sound P ⟨f,args,HS,v',HS',ws⟩:=by
 subst hh
 obtain⟨hlen,hobj⟩:=ho.at
 have eos:=hr.eq;have los:os.length=hs0'.length:=by rw[<-eos];simp
 have hin:∀i∈ls,i<HS.length:=by
  intro i hi;obtain⟨j,hj,rfl⟩:=List.mem_iff_getElem.1 hi;have:=(hobj j _ (List.getElem?_eq_getElem (by omega:j<hs0.length))).1;unfold nth at this;rwa [List.getD_eq_getElem?_getD,List.getElem?_eq_getElem hj]at this
 have kc:∀n (c:XC),c.ok n->n<=hs0'.length->c.aC (beyond (nth ls) hs0.length HS.length)=c.aC (nth (ls++List.range' HS.length k)):=by
  intro n c
  have e:∀i,i<n->n<=hs0'.length->beyond (nth ls) hs0.length HS.length i=nth (ls++List.range' HS.length k) i:=fun i hi hl=>by
   rw[hlen];exact BU i (by omega)
  induction c with
  | ptr i off=>exact fun h hl=>by simp only[XC.aC,e i h hl]
  | slice i off len cap=>exact fun h hl=>by simp only[XC.aC,e i h hl]
  | map i=>exact fun h hl=>by simp only[XC.aC,e i h hl]
  | lsl g k off len fl cut=>exact fun h hl=>by simp only[XC.aC,e g h hl]
  | lpt g k off=>exact fun h hl=>by simp only[XC.aC,e g h hl]
  | bind g c ih1 ih2=>exact fun h hl=>by simp only[XC.aC,ih1 h.1 hl,ih2 h.2 hl]
  | _=>intro _ _;rfl
 have kcs:∀cs:List XC,(∀c∈cs,c.ok hs0'.length)->cs.map (·.aC (beyond (nth ls) hs0.length HS.length))=cs.map (·.aC (nth (ls++List.range' HS.length k))):=fun cs h=>List.map_congr_left fun c hc=>kc _ c (h c hc) (Nat.le_refl _)
 have k1:∀x:X1,x.ok hs0'.length->x.aC (beyond (nth ls) hs0.length HS.length)=x.aC (nth (ls++List.range' HS.length k)):=fun x h=>by
  cases x with
  | one c=>simp only[X1.aC,kc _ c h (Nat.le_refl _)]
  | agg cs=>simp only[X1.aC,kcs cs h]
 have kv:∀x:XV,x.bK hs0'.length->x.aC (beyond (nth ls) hs0.length HS.length)=x.aC (nth (ls++List.range' HS.length k)):=fun x h=>by
  cases x with
  | undef=>rfl
  | one c=>simp only[XV.aC,kc _ c h (Nat.le_refl _)]
  | agg cs=>simp only[XV.aC,kcs cs h]
  | tup xs=>simp only[XV.aC];rw[List.map_congr_left fun c hc=>k1 c (h c hc)]
 have ko:∀x:ak,x.bK hs0'.length->x.aC (beyond (nth ls) hs0.length HS.length)=x.aC (nth (ls++List.range' HS.length k)):=fun x h=>by
  cases x with
  | dead=>rfl
  | late L=>rfl
  | cells vs e a b=>simp only[ak.aC,kcs vs h]
  | map es=>simp only[ak.aC];rw[List.map_congr_left fun p hp=>by rw[k1 _ (h p hp).1,k1 _ (h p hp).2]]
 refine tk hc (by omega) (ho.view (.inl nd) hk) ha.at e1.eq ((kv v hv).trans e2) ⟨?_,fun j o hj=>?_,fun i hi hne=>?_⟩ (yG hro) (fun i hi hne=>?_) hb hb0
 ·rw[u6 ls HS os (by omega)];omega
 ·have hjl:j<hs0'.length:=(List.getElem?_eq_some_iff.1 hj).1;have hoj:os[j]? = some (o.aC (nth (ls++List.range' HS.length k))):=by rw[<-eos,List.getElem?_map,hj];rfl
  rw[ko o (hk'.at o (List.mem_of_getElem? hj)),hlen];unfold beyond
  by_cases h:j<ls.length
  ·rw[if_pos h,D_ ls HS os nd hin j h (by omega)];exact hoj
  ·rw[if_neg h,AK ls HS os j (by omega) (by omega)];exact hoj
 ·refine l_ ls HS os i hi fun hm=>?_
  obtain⟨j,hj,e⟩:=List.mem_iff_getElem.1 hm;refine hne j (by omega) ?_;unfold nth;rw[List.getD_eq_getElem?_getD,List.getElem?_eq_getElem hj];exact e
 ·rcases hws with e|h
  ·subst e;exact l_ ws HS os i hi hne
  ·exact h i hi hne
theorem NX.of{c:XC}{i n:Nat}(h:NX c i n)(hn:∀cap,c = .slice i 0 n (.exact cap)->n<=cap):cS c i 0 n:=by
 rcases h with⟨rfl,rfl⟩|⟨cap,rfl⟩
 ·exact .nil
 ·exact .mk (hn cap rfl)
theorem cS.back{c:XC}{i off n:Nat}(h:cS c i off n):∃c0,cS c0 0 off n/\c0.aC (fun _=>i)=c:=by
 rcases h with⟨rfl,rfl|⟨o,cap,rfl⟩⟩|⟨cap,h1,rfl⟩
 ·exact⟨.nils,.nil,rfl⟩
 ·exact⟨.slice 0 o 0 (.exact cap),.inl ⟨rfl,.inr ⟨_,_,rfl⟩⟩,rfl⟩
 ·exact⟨.slice 0 off n (.exact cap),.inr ⟨_,h1,rfl⟩,rfl⟩
theorem cS.Dx{c:XC}{i off n:Nat}(h:cS c i off n)(j:Nat)(τ : Nat->Nat)(ht : τ j=i):∃c0,cS c0 j off n/\c0.aC τ = c:=by
 subst ht
 rcases h with⟨rfl,rfl|⟨o,cap,rfl⟩⟩|⟨cap,h1,rfl⟩
 ·exact⟨.nils,.nil,rfl⟩
 ·exact⟨.slice j o 0 (.exact cap),.inl ⟨rfl,.inr ⟨_,_,rfl⟩⟩,rfl⟩
 ·exact⟨.slice j off n (.exact cap),.inr ⟨_,h1,rfl⟩,rfl⟩
theorem Im{fn:Func}{n:Nat}{e:XE}{al:aO}{hs hs':aj}{v1 v:XV}(τl:List Nat)(he:e = .normal\/e = .ret)(hr:sU P fn al hs v1)(hv:v1=v.aC (nth τl))(hok:v.bK hs'.length)(nd:Nd τl hs')(hid:(List.range n).all (fun j=>nth τl j==j)=true)(ho:ae (nth τl) hs τl hs')(hk:ax hs'.length hs'):aE P fn n v hs' e al hs:=
 DX (nth τl) he hr hv hok (ho.view nd hk) fun j hj=>by
  have:=List.all_eq_true.1 hid j (List.mem_range.2 hj);simpa using this
variable {ops:Array Oper} {nt nI:Nat} {al:aO} {hs:aj} {o:Oper} {l:List Oper} {L:List aA} {K:List Ab->aO->aj->Prop} {d:Nat}
theorem GW(k:IntKind)(n:Nat):eC [.int k 0] n=il k (List.replicate n 0):=by
 unfold eC il;apply List.ext_getElem?;intro i
 by_cases h:i<n
 ·simp[h,Nat.mod_one]
 ·simp[h]
theorem Pr{t e:TypeId}{a b:Operand}{k:IntKind}(ho:o.op = .makeSlice t a b)[hu:aQ P t (.slice e)][hz:aM P e [.int k 0]][hI:TI P e 1](hw:aw ops (rg al) o=some true)(hd:o.dst=some d)(hlt:Nat.blt d nt=true){kl kc:IntKind}{x y:Int}(ha:af (rg al) a = .one (.int kl x))(hb:af (rg al) b = .one (.int kc y)){n:Nat}(hx:x=(n:Nat))(hy:y=(n:Nat))(hn:n<=2000000000)
 {N:Nat}(hN:hs.length=N) (hbd:Nat.blt N Mem.bound=true) {hs':aj}(hh:hs++[.cells (il k (List.replicate n 0)) e false false]=hs') (hk:SK P ops nt L l ((d,.one (.slice N 0 n (.exact n)))::al) hs' fun bs=>K (⟨true,.none,[N]⟩::bs)):SK P ops nt L (o::l) al hs K:=by
 subst hN hh hx hy;refine SK.lift hd hlt (fun _=>?_) hk;intro m hm;obtain⟨m',h1,h2,h3⟩:=hm.push (.cells (il k (List.replicate n 0)) e false false) (by simpa [Nat.blt_eq]using hbd);refine⟨m',?_,h2,h3⟩;unfold ji;rw[hw];refine ct (by rw[ho];rfl) (by rw[ho];rfl) (by rw[ho];rfl) ?_;rw[ho];obtain⟨ti,hti,hs1,hby⟩:=hI.get
 have hbb:(ti.bytes:Int)*(n:Nat)<=281474976710656:=by
  have:(ti.bytes:Int)*(n:Nat)<=65536*(n:Nat):=Int.mul_le_mul_of_nonneg_right (by omega) (by omega);omega
 simp only[cf,jb,dX,hu.out,ha,hb,hti,hz.out,hs1,Int.toNat_natCast,Nat.mul_one,GW,h1,hm.n];rw[if_pos ⟨by omega,by omega,by omega,hbb,by simp⟩]
theorem Mz{t e:TypeId}{y:Operand}{k:IntKind}(ho:o.op = .buildSlice t 1 #[(0,y)])[hu:aQ P t (.slice e)][hz:aM P e [.int k 0]][hse:aH P e 1](hw:aw ops (rg al) o=some true)(hd:o.dst=some d)(hlt:Nat.blt d nt=true){z:Int}(hy:cQ (af (rg al) y)=some [.int k z]){n:Nat}(hn:hs.length=n)(hb:Nat.blt n Mem.bound=true){hs':aj}(hh:hs++[.cells (il k [z]) e false false]=hs')
 (hk:SK P ops nt L l ((d,.one (.slice n 0 1 (.exact 1)))::al) hs' fun bs=>K (⟨true,.none,[n]⟩::bs)):SK P ops nt L (o::l) al hs K:=
 Pm ho rfl hw hd hlt hy hn hb hh hk
theorem Mx{t e:TypeId}{k:IntKind}(ho:o.op = .buildSlice t 0 #[])[hu:aQ P t (.slice e)][hz:aM P e [.int k 0]][hse:aH P e 1](hw:aw ops (rg al) o=some true)(hd:o.dst=some d)(hlt:Nat.blt d nt=true){n:Nat}(hn:hs.length=n)(hb:Nat.blt n Mem.bound=true){hs':aj}(hh:hs++[.cells (il k []) e false false]=hs')
 (hk:SK P ops nt L l ((d,.one (.slice n 0 0 (.exact 0)))::al) hs' fun bs=>K (⟨true,.none,[n]⟩::bs)):SK P ops nt L (o::l) al hs K:=by
 subst hn hh;refine SK.lift hd hlt (fun _=>?_) hk;intro m hm;obtain⟨m',h1,h2,h3⟩:=hm.push (.cells (il k []) e false false) (by simpa [Nat.blt_eq]using hb);refine⟨m',?_,h2,h3⟩;unfold ji;rw[hw];refine ct (by rw[ho];rfl) (by rw[ho];rfl) (by rw[ho];rfl) ?_;rw[ho]
 have hf:gQ (fun i=>some (i*1,1)) (eC [.int k 0] (0*1)) []=some (il k []):=by
  simp[gQ,eC,il]
 simp only[cf,dz,dX,hu.out,hse.out,hz.out,List.map_nil,h1,hm.n,hf];simp
theorem jZ{t1 e:TypeId}[hu:aQ P t1 (.slice e)]{x:XV}{j len sz:Nat}{cap:pr}{vs:List XC}{et:TypeId}{opn ro:Bool}(hx:x = .one (.slice j 0 len cap))(hj:hs[j]? = some (.cells vs et opn ro))(hl:vs.length=len*sz):∀M,a_ M hs->j8 P t1 sz x M=some (len,vs):=by
 intro M hM;subst hx;have:=hM.at hj
 by_cases h0:len=0
 ·subst h0;have:vs = []:=List.length_eq_zero_iff.1 (by simpa using hl);subst this;cases cap<;>simp only[j8,hu.out,if_true]
 ·cases cap<;>simp only[j8,hu.out,this,Nat.zero_add,List.drop_zero,h0,if_false]<;>rw[if_pos (by omega),List.take_of_length_le (by omega)]
theorem Pf{t t1 e e1:TypeId}{a b:Operand}{k:IntKind}(ho:o.op = .call ⟨.builtin .append,#[a,b],#[t,t1]⟩)[hu:aQ P t (.slice e)][hu1:aQ P t1 (.slice e1)][hz:aM P e [.int k 0]][hI:TI P e 1](hw:aw ops (rg al) o=some true)(hd:o.dst=some d)(hlt:Nat.blt d nt=true)
 {i n j len:Nat} {cap:pr} {q r:List Int} {et:TypeId} {opn ro:Bool}(ha:af (rg al) a=gJ i n 1) (hi:hs[i]? = some (bU e (il k q))) (hb:af (rg al) b = .one (.slice j 0 len cap)) (hj:hs[j]? = some (.cells (il k r) et opn ro)) (hn:q.length=n) (hr:r.length=len) (hm:0<len/\n+len<=2000000000)
 {N:Nat}(hN:hs.length=N) (hbd:Nat.blt N Mem.bound=true) {hs':aj}(hh:hs.set i .dead++[bU e (il k (q++r))]=hs')
 (hk:SK P ops nt L l ((d,gJ N (n+len) 1)::al) hs' fun bs=>K (⟨true,.none,[i,N]⟩::bs)):SK P ops nt L (o::l) al hs K:=by
 have hne:il k (q++r)≠[]:=by
  intro h;have:(il k (q++r)).length=0:=by rw[h];rfl
  rw[bz,List.length_append]at this;omega
 rw[fm (by omega)]at hk;exact CM ho hw hd hlt (sz:=1) ⟨rfl,by omega⟩ ha hi (by rw[bz];omega) (jZ hb hj (by rw[bz];omega)) ⟨hm.1,by omega⟩ hN hbd (by rw[oS,<-cK hne];exact hh) hk
theorem yM{t1 e1:TypeId}[hu1:aQ P t1 (.slice e1)]{x:XV}{i n:Nat}{k:IntKind}{r:List Int}{e:TypeId}(hx:x=gJ i n 1)(hi:hs[i]? = some (bU e (il k r)))(hr:r.length=n):∀M,a_ M hs->j8 P t1 1 x M=some (n,il k r):=by
 cases r with
 | nil=>
   intro M _;subst hr;rw[hx];show j8 P t1 1 (.one .nils) M=_;simp only[j8,hu1.out];rfl
 | cons a r=>exact jZ (hx.trans (fm (by rw[<-hr];exact Nat.succ_ne_zero _))) hi (by rw[bz];omega)
theorem Pn{t t1 e e1:TypeId}{a b:Operand}{k:IntKind}(ho:o.op = .call ⟨.builtin .copy,#[a,b],#[t,t1]⟩)[hu:aQ P t (.slice e)][hu1:aQ P t1 (.slice e1)][hse:aH P e 1](hw:aw ops (rg al) o=some true)(hd:o.dst=some d)(hlt:Nat.blt d nt=true)
 {j len:Nat} {cap:pr} {q r:List Int} {et:TypeId} {opn:Bool}(ha:af (rg al) a = .one (.slice j 0 len cap)) (hj:hs[j]? = some (.cells (il k q) et opn false)) (hq:q.length=len) (hr:r.length=len) (hsrc:∀M,a_ M hs->j8 P t1 1 (af (rg al) b) M=some (len,il k r))
 {hs':aj}(hh:hs.set j (.cells (il k r) et opn false)=hs') (hk:SK P ops nt L l ((d,.one (.int .i64 (len:Nat)))::al) hs' fun bs=>K (⟨true,.none,[j]⟩::bs)):SK P ops nt L (o::l) al hs K:=by
 subst hh;refine SK.lift hd hlt (fun _=>?_) hk;intro m hm;refine⟨m.put j (.cells (il k r) et opn false),?_,hm.put hj _,tv⟩;unfold ji;rw[hw];refine ct (by rw[ho];rfl) (by rw[ho];rfl) (by rw[ho];rfl) ?_;rw[ho];have ht:(il k r).take (len*1)=il k r:=List.take_of_length_le (by rw[bz];omega);have hdr:(il k q).drop (0+(il k r).length) = []:=List.drop_of_length_le (by rw[bz,bz];omega);have he:dX P t=some e:=by simp only[dX,hu.out]
 show vK P t t1 (af (rg al) a) (af (rg al) b) m=_;unfold vK;rw[he,ha];simp only[hse.out,hsrc m hm,hm.at hj,show Nat.min len len=len from Nat.min_self len,ht,hdr];rw[if_pos (by rw[bz];omega)];simp
theorem Ae{α γ : Type}{kc : α->X1}{vc : γ->X1}(hk:∀a,(kc a).shut=true)(hv:∀c,(vc c).shut=true)(M:List (α×γ)):cA (.map (k_ kc vc M)):=by
 refine⟨fun τ=>?_,fun n p hp=>?_⟩
 ·simp only[ak.aC,k_,List.map_map]
  congr 1
  refine List.map_congr_left fun p _=>?_
  simp only[Function.comp,X1.dU (hk p.1),X1.dU (hv p.2)]
 ·obtain⟨q,_,rfl⟩:=List.mem_map.1 hp;exact⟨X1.aY (hk q.1) n,X1.aY (hv q.2) n⟩
theorem Pq(T:Nat->Int){t:TypeId}{x ix:Operand}(ho:o.op = .index t x ix)[hu:aQ P t .string](hw:aw ops (rg al) o=some true)(hd:o.dst=some d)(hlt:Nat.blt d nt=true){s:List UInt8}(ha:af (rg al) x = .one (.str s)){k:IntKind}{z:Int}(hb:af (rg al) ix = .one (.int k z))(hz:0<=z/\z<256)(hT:∀i:Fin 256,s[i.val]?.map (fun b=>(b.toNat:Int))=some (T i.val))
 (hk:SK P ops nt L l ((d,.one (.int .u8 (T z.toNat)))::al) hs fun bs=>K (quiet::bs)):SK P ops nt L (o::l) al hs K:=by
 refine SK.lift hd hlt (fun _=>aB.pure hw ?_) hk;have h:=hT ⟨z.toNat,by omega⟩;obtain⟨b,h1,h2⟩:=Option.map_eq_some_iff.1 h;rw[ho];simp only[aZ,qe,hu.out,ha,hb,hz.1,if_true];simp only[]at h1;rw[h1,Option.map_some,h2]
theorem Gl{t:TypeId}{a y:Operand}(ho:o.op = .store t a y)[ht:aH P t 1](hw:aw ops (rg al) o=some true)(hd:o.dst = .none){i off:Nat}(ha:af (rg al) a = .one (.ptr i off)){k:IntKind}{z:Int}(hy:cQ (af (rg al) y)=some [.int k z]){q:List Int}{e:TypeId}(hi:hs[i]? = some (bU e (il k q)))(hle:off<q.length)
 {hs':aj}(hh:hs.set i (bU e (il k (q.set off z)))=hs') (hk:SK P ops nt L l al hs' fun bs=>K (⟨true,.none,[i]⟩::bs)):SK P ops nt L (o::l) al hs K:=by
 cases q with
 | nil=>exact absurd hle (Nat.not_lt_zero _)
 | cons b r=>
   have h:bU e (il k ((b::r).set off z)) = .cells (il k ((b::r).set off z)) e true false:=by cases off<;>rfl
   rw[h]at hh;exact kH ho hw hd ha hy (vs:=il k (b::r)) hi (by rw[bz];exact hle) (Ig ..) hh hk
theorem Pe{t t1 e e1:TypeId}{a b:Operand}{k:IntKind}(ho:o.op = .call ⟨.builtin .append,#[a,b],#[t,t1]⟩)[hu:aQ P t (.slice e)][hu1:aQ P t1 (.slice e1)][hz:aM P e [.int k 0]][hI:TI P e 1](hw:aw ops (rg al) o=some true)(hd:o.dst=some d)(hlt:Nat.blt d nt=true)
 {i len n:Nat} {q r:List Int} {et:TypeId} {opn ro:Bool}(ha:af (rg al) a = .one (.slice i 0 len (.exact len))) (hi:hs[i]? = some (.cells (il k q) et opn ro)) (hq:q.length=len) (hr:r.length=n) (hsrc:∀M,a_ M hs->j8 P t1 1 (af (rg al) b) M=some (n,il k r)) (hm:len+n<=2000000000)
 {N:Nat}(hN:hs.length=N) (hbd:Nat.blt N Mem.bound=true) {hs':aj}(hh:hs++[.cells (il k (q++r)) e true false]=hs')
 (h1:n=0->SK P ops nt L l ((d,.one (.slice i 0 len (.exact len)))::al) hs fun bs=>K (⟨true,.none,[]⟩::bs)) (h2:0<n->SK P ops nt L l ((d,.one (.slice N 0 (len+n) (.toEnd 1)))::al) hs' fun bs=>K (⟨true,.none,[N]⟩::bs)):SK P ops nt L (o::l) al hs K:=by
 subst hN hh;obtain⟨ti,hti,hs1,hby⟩:=hI.get;have hbytes:(len+n)*ti.bytes<=140737488355328:=Nat.le_trans (Nat.mul_le_mul_left _ hby) (by omega)
 by_cases h0:n=0
 ·refine SK.lift hd hlt (fun _=>?_) (h1 h0);subst h0;intro M hM;refine⟨M,?_,hM,fun _ _=>rfl⟩;unfold ji;rw[hw];refine ct (by rw[ho];rfl) (by rw[ho];rfl) (by rw[ho];rfl) ?_;rw[ho];simp only[cf,jh,dX,hu.out,hti,hz.out,ha,hs1,hsrc M hM,List.getElem?_toArray,List.getElem?_cons_zero,List.getElem?_cons_succ];simp
 ·refine SK.lift hd hlt (fun _=>?_) (h2 (by omega));intro M hM;obtain⟨m',p1,p2,p3⟩:=hM.push (.cells (il k (q++r)) e true false) (by simpa [Nat.blt_eq]using hbd);refine⟨m',?_,p2,p3⟩;unfold ji;rw[hw];refine ct (by rw[ho];rfl) (by rw[ho];rfl) (by rw[ho];rfl) ?_;rw[ho];have e1:¬len+n<=len:=by omega
  have e2:0+len*1<=(il k q).length:=by rw[bz];omega
  have e3:((il k q).drop 0).take (len*1)++il k r=il k (q++r):=by
   rw[List.drop_zero,List.take_of_length_le (by rw[bz];omega),oS]
  simp only[cf,jh,dX,hu.out,hti,hz.out,ha,hs1,hsrc M hM,List.getElem?_toArray,List.getElem?_cons_zero,List.getElem?_cons_succ,e1,if_false,hM.at hi,e2,if_true,e3,p1,hM.n];rw[if_pos ⟨rfl,by omega⟩,if_pos ⟨by omega,hbytes⟩]
theorem JK{t:TypeId}{a:Operand}(ho:o.op = .load t a)[ht:cR P t](hw:aw ops (rg al) o=some true)(hd:o.dst=some d)(hlt:Nat.blt d nt=true){i off:Nat}(ha:af (rg al) a = .one (.ptr i off)){ob:ak}(hi:hs[i]? = some ob){k:IntKind}{q:List Int}(hro:RO ob k q)(hc:off<q.length)
 (hk:SK P ops nt L l ((d,.one (.int k (q.getD off 0)))::al) hs fun bs=>K (⟨false,some i,[]⟩::bs)):SK P ops nt L (o::l) al hs K:=by
 obtain⟨e,opn,ro,rfl⟩:=hro.get (by omega);exact fU ho hw hd hlt ha hi (Ci hc) hk
class nH {α : Type}(enc : α->List XC) (s:outParam Nat):Prop where
 len:∀a,(enc a).length=s
 shut:∀a,(enc a).all XC.shut=true
 pos:0<s
def fl{α : Type}(enc : α->List XC)(l:List α):List XC:=l.flatMap enc
section
variable {α : Type} {enc : α->List XC} {s:Nat} [hE:nH enc s]
theorem uj(l:List α):(fl enc l).length=l.length*s:=by
 induction l with
 | nil=>simp[fl]
 | cons a l ih=>simp only[fl,List.flatMap_cons,List.length_append,hE.len,List.length_cons]at ih ⊢;rw[ih,Nat.add_mul];omega
theorem Fp(l m:List α):fl enc (l++m)=fl enc l++fl enc m:=by simp[fl]
theorem Oq(a : α):fl enc [a]=enc a:=by simp[fl]
theorem qx{α : Type}{enc : α->List XC}{s:Nat}[hE:nH enc s](l:List α):(fl enc l).all XC.shut=true:=by
 rw[List.all_eq_true];intro c hc;obtain⟨a,_,ha⟩:=List.mem_flatMap.1 hc;exact List.all_eq_true.1 (hE.shut a) c ha
theorem Nt(l:List α)(j:Nat)(hj:j<l.length)(dflt : α):j*s+s<=(fl enc l).length/\((fl enc l).drop (j*s)).take s=enc (l.getD j dflt):=
 yj enc s l (fun a _=>hE.len a) j _ (by simp[List.getD_eq_getElem?_getD,hj])
theorem H4{α : Type}{enc : α->List XC}{s:Nat}[hE:nH enc s]{l:List α}(h:l≠[]):fl enc l≠[]:=fun e=>by
 have:=uj (enc:=enc) l;rw[e]at this;have hp:=hE.pos
 cases l with
 | nil=>exact h rfl
 | cons a l=>simp only[List.length_cons,List.length_nil,Nat.add_mul]at this;omega
instance {e:TypeId} {a b:Bool} {l:List α}:cA (.cells (fl enc l) e a b):=iA (qx l)
instance {e:TypeId} {l:List α}:cA (bU e (fl enc l)):=AT (qx l)
instance {a : α} {e:TypeId} {x y:Bool}:cA (.cells (enc a) e x y):=iA (hE.shut a)
structure BN(o:ak)(enc : α->List XC)(l:List α):Prop where
 get:0<l.length->∃e opn ro,o = .cells (fl enc l) e opn ro
 flat:cA o
theorem JJ[Inhabited α]{t:TypeId}{a:Operand}(ho:o.op = .load t a)[ht:dk P t][hs':aH P t s](hw:aw ops (rg al) o=some true)(hd:o.dst=some d)(hlt:Nat.blt d nt=true){i off:Nat}(ha:af (rg al) a = .one (.ptr i off)){e:TypeId}{q:List α}(hi:hs[i]? = some (bU e (fl enc q))){j:Nat}(hj:off=j*s)(hc:j<q.length)
 (hk:SK P ops nt L l ((d,.agg (enc (q.getD j default)))::al) hs fun bs=>K (⟨false,some i,[]⟩::bs)):SK P ops nt L (o::l) al hs K:=by
 obtain⟨h1,h2⟩:=Nt (enc:=enc) q j hc default;subst hj;exact vp ho hw hd hlt ha (hi.trans (congrArg some (cK (H4 (fun e=>by rw[e]at hc;exact absurd hc (Nat.not_lt_zero _)))))) h1 h2 hk
theorem Gk[Inhabited α]{t:TypeId}{a:Operand}(ho:o.op = .load t a)[ht:dk P t][hs':aH P t s](hw:aw ops (rg al) o=some true)(hd:o.dst=some d)(hlt:Nat.blt d nt=true){i off:Nat}(ha:af (rg al) a = .one (.ptr i off)){ob:ak}{q:List α}(hi:hs[i]? = some ob)(hro:BN ob enc q){j:Nat}(hj:off=j*s)(hc:j<q.length)
 (hk:SK P ops nt L l ((d,.agg (enc (q.getD j default)))::al) hs fun bs=>K (⟨false,some i,[]⟩::bs)):SK P ops nt L (o::l) al hs K:=by
 obtain⟨h1,h2⟩:=Nt (enc:=enc) q j hc default;obtain⟨e,opn,ro,rfl⟩:=hro.get (by omega);subst hj;exact vp ho hw hd hlt ha hi h1 h2 hk
theorem My{t e:TypeId}{y:Operand}{zs:List XC}(ho:o.op = .buildSlice t 1 #[(0,y)])[hu:aQ P t (.slice e)][hz:aM P e zs][hse:aH P e s](hzl:zs.length=s)(hsm:s<=16777216)(hw:aw ops (rg al) o=some true)(hd:o.dst=some d)(hlt:Nat.blt d nt=true){a : α}(hy:cQ (af (rg al) y)=some (enc a)){n:Nat}(hn:hs.length=n)(hb:Nat.blt n Mem.bound=true){hs':aj}(hh:hs++[.cells (fl enc [a]) e false false]=hs')
 (hk:SK P ops nt L l ((d,.one (.slice n 0 1 (.exact 1)))::al) hs' fun bs=>K (⟨true,.none,[n]⟩::bs)):SK P ops nt L (o::l) al hs K:=by
 subst hn hh;refine SK.lift hd hlt (fun _=>?_) hk;intro m hm;obtain⟨m',h1,h2,h3⟩:=hm.push (.cells (fl enc [a]) e false false) (by simpa [Nat.blt_eq]using hb);refine⟨m',?_,h2,h3⟩;unfold ji;rw[hw];refine ct (by rw[ho];rfl) (by rw[ho];rfl) (by rw[ho];rfl) ?_;rw[ho];have hp:=hE.pos;have hlen:=hE.len a;have hzz:(eC zs (1*s)).length=s:=by simp[eC]
 have hf:gQ (fun i=>some (i*s,s)) (eC zs (1*s)) [(0,af (rg al) y)]=some (fl enc [a]):=by
  simp only[gQ,hy,hlen,Nat.zero_mul];rw[if_pos ⟨trivial,by rw[hzz];omega⟩,Oq];simp only[List.take_zero,List.nil_append,Nat.zero_add];rw[List.drop_of_length_le (by rw[hzz];omega),List.append_nil]
 simp only[cf,dz,dX,hu.out,hse.out,hz.out,List.map_cons,List.map_nil,h1,hm.n,hf];rw[if_pos ⟨by omega,by omega⟩]
theorem Pg{t t1 e e1:TypeId}{a b:Operand}{zs:List XC}(ho:o.op = .call ⟨.builtin .append,#[a,b],#[t,t1]⟩)[hu:aQ P t (.slice e)][hu1:aQ P t1 (.slice e1)][hz:aM P e zs][hI:TI P e s](hzl:zs.length=s)(hw:aw ops (rg al) o=some true)(hd:o.dst=some d)(hlt:Nat.blt d nt=true)
 {i n j len:Nat} {cap:pr} {q r:List α} {et:TypeId} {opn ro:Bool}(ha:af (rg al) a=gJ i n s) (hi:hs[i]? = some (bU e (fl enc q))) (hb:af (rg al) b = .one (.slice j 0 len cap)) (hj:hs[j]? = some (.cells (fl enc r) et opn ro)) (hn:q.length=n) (hr:r.length=len) (hm:0<len/\n+len<=2000000000)
 {N:Nat}(hN:hs.length=N) (hbd:Nat.blt N Mem.bound=true) {hs':aj}(hh:hs.set i .dead++[bU e (fl enc (q++r))]=hs')
 (hk:SK P ops nt L l ((d,gJ N (n+len) s)::al) hs' fun bs=>K (⟨true,.none,[i,N]⟩::bs)):SK P ops nt L (o::l) al hs K:=by
 have hne:fl enc (q++r)≠[]:=H4 (fun h=>by
  have:(q++r).length=0:=by rw[h];rfl
  rw[List.length_append]at this
  omega)
 rw[fm (by omega)]at hk;exact CM ho hw hd hlt (sz:=s) ⟨hzl,hE.pos⟩ ha hi (by rw[uj,hn]) (jZ hb hj (by rw[uj,hr])) ⟨hm.1,by omega⟩ hN hbd (by rw[<-Fp,<-cK hne];exact hh) hk
end
end Go.Xm
namespace Go.Xm
variable [aq]
variable {P:Program} {ops:Array Oper} {nt nI:Nat} {al:aO} {hs:aj} {o:Oper} {l:List Oper} {L:List aA} {K:List Ab->aO->aj->Prop} {d:Nat}
structure Wn(ops:Array Oper)(nt:Nat)(al:aO)(o:Oper)(d:Nat):Prop where
 w:aw ops (rg al) o=some true
 e:o.dst=some d
 l:Nat.blt d nt=true
theorem n1{α : Type}{a b : α}(h:a=b:=by first|(simp only[Nat.zero_add,Nat.mul_one,Nat.reduceAdd,Nat.reduceMul,Int.reduceSub,Int.reduceAdd,Int.reduceMul,Int.reduceDiv,Int.reduceMod,Int.reduceToNat,Nat.add_zero,Int.toNat_natCast];exact rfl)|exact rfl|fail):a=b:=h
theorem n2{α : Type}{a b : α}(h:a=b:=by first|(simp only[List.length_cons,List.length_nil,List.length_append,Nat.reduceAdd,Nat.zero_add,List.length_set];exact rfl)|exact rfl|fail):a=b:=h
theorem n3{α : Type}{a b : α}(h:a=b:=by first|(simp only[List.cons_append,List.nil_append];exact rfl)|exact rfl|fail):a=b:=h
theorem n4{α : Type}{a b : α}(h:a=b:=by first|(simp only[List.set_cons_succ,List.set_cons_zero];exact rfl)|exact rfl|fail):a=b:=h
def uS(o:Oper):Nat:=match o.op with
 | .move _=>0 | .assign _=>0 | .load _ _=>1 | .store _ _ _=>2 | .indexAddr _ _ _=>3 | .fieldAddr _ _ _=>4
 | .binOp op _ _ _ _=>match op with
   | .add=>5 | .sub=>6 | .mul=>7 | .quo=>8 | .rem=>9 | .and=>10 | .or=>11 | .xor=>12 | .shl=>13 | .shr=>14 | .andNot=>15
   | .eql=>16 | .neq=>17 | .lss=>18 | .leq=>19 | .gtr=>20 | .geq=>21
 | .pick _ _ _=>22 | .unOp _ _ _=>23 | .convert _ _ _=>24 | .extract _ _=>25 | .nilCheck _=>26 | .field _ _ _=>27 | .index _ _ _=>28
 | .call ⟨.value _,_,_⟩=>29 | .call ⟨.builtin .len,_,_⟩=>30 | .call ⟨.builtin .append,_,_⟩=>31 | .call ⟨.builtin _,_,_⟩=>32 | .call _=>33
 | .build _ _=>34 | .buildSlice _ _ _=>35 | .alloc _=>36 | .box _ _=>37 | .makeSlice _ _ _=>38 | .makeMap _ _=>39 | .slice _ _ _ _ _=>40 | .lookup _ _ _ _=>41 | .mapUpdate _ _ _ _=>42 | .makeFunc _ _ _=>43
 | _=>44
theorem q4(hk:SK P ops nt L (o::l) al hs K)(h:Nat.ble (uS o) 4=true:=by exact rfl):SK P ops nt L (o::l) al hs K:=hk
theorem Uh(hk:SK P ops nt L (o::l) al hs K)(h:Nat.ble (uS o) 15=true:=by exact rfl):SK P ops nt L (o::l) al hs K:=hk
theorem Ui(hk:SK P ops nt L (o::l) al hs K)(h:Nat.ble (uS o) 21=true:=by exact rfl):SK P ops nt L (o::l) al hs K:=hk
theorem Uj(hk:SK P ops nt L (o::l) al hs K)(h:Nat.ble (uS o) 28=true:=by exact rfl):SK P ops nt L (o::l) al hs K:=hk
theorem Uk(hk:SK P ops nt L (o::l) al hs K)(h:Nat.ble (uS o) 33=true:=by exact rfl):SK P ops nt L (o::l) al hs K:=hk
theorem qz(hk:SK P ops nt L (o::l) al hs K):SK P ops nt L (o::l) al hs K:=hk
theorem qg(hk:SK P ops nt L (o::l) al hs K)(h:o.guard.isSome=true:=by exact rfl):SK P ops nt L (o::l) al hs K:=hk
theorem t0(hk:SK P ops nt L (o::l) al hs K)(h:uS o=0:=by exact rfl):SK P ops nt L (o::l) al hs K:=hk
theorem t1(hk:SK P ops nt L (o::l) al hs K)(h:uS o=1:=by exact rfl):SK P ops nt L (o::l) al hs K:=hk
theorem t2(hk:SK P ops nt L (o::l) al hs K)(h:uS o=2:=by exact rfl):SK P ops nt L (o::l) al hs K:=hk
theorem t3(hk:SK P ops nt L (o::l) al hs K)(h:uS o=3:=by exact rfl):SK P ops nt L (o::l) al hs K:=hk
theorem t4(hk:SK P ops nt L (o::l) al hs K)(h:uS o=4:=by exact rfl):SK P ops nt L (o::l) al hs K:=hk
theorem Ur(hk:SK P ops nt L (o::l) al hs K)(h:uS o=30:=by exact rfl):SK P ops nt L (o::l) al hs K:=hk
theorem T6{a:Operand}{c:XC}(hk:SK P ops nt L l ((d,.one c)::al) hs fun bs=>K (quiet::bs))(ho:o.op = .move a:=by exact rfl)(wn:Wn ops nt al o d:=by exact⟨rfl,rfl,rfl⟩)(ha:af (rg al) a = .one c:=by exact rfl):SK P ops nt L (o::l) al hs K:=
 En ho wn.w wn.e wn.l ha hk
theorem TH{a:Operand}{c:XC}(hk:SK P ops nt L l ((d,.one c)::al) hs fun bs=>K (quiet::bs))(ho:o.op = .assign a:=by exact rfl)(wn:Wn ops nt al o d:=by exact⟨rfl,rfl,rfl⟩)(ha:af (rg al) a = .one c:=by exact rfl):SK P ops nt L (o::l) al hs K:=
 Gf ho wn.w wn.e wn.l ha hk
theorem T7{a:Operand}{c:List X1}(hk:SK P ops nt L l ((d,.tup c)::al) hs fun bs=>K (quiet::bs))(ho:o.op = .move a:=by exact rfl)(wn:Wn ops nt al o d:=by exact⟨rfl,rfl,rfl⟩)(ha:af (rg al) a = .tup c:=by exact rfl):SK P ops nt L (o::l) al hs K:=
 En ho wn.w wn.e wn.l ha hk
theorem Um(hk:SK P ops nt L l ((d,.tup [])::al) hs fun bs=>K (quiet::bs))(hw:aw ops (rg al) o=some false:=by exact rfl)(hd:o.dst=some d:=by exact rfl)(hlt:Nat.blt d nt=true:=by exact rfl):SK P ops nt L (o::l) al hs K:=
 MG hw hd hlt hk
theorem Uf{a b c:Operand}{x:Bool}(hk:SK P ops nt L l ((d,.one (.bool x))::al) hs fun bs=>K (quiet::bs))(ho:o.op = .pick c a b:=by exact rfl)(wn:Wn ops nt al o d:=by exact⟨rfl,rfl,rfl⟩)(hc:af (rg al) c = .one (.bool true):=by exact rfl)(ha:af (rg al) a = .one (.bool x):=by exact rfl):SK P ops nt L (o::l) al hs K:=
 JN ho wn.w wn.e wn.l hc ha hk
theorem Ue{a b c:Operand}{x:Bool}(hk:SK P ops nt L l ((d,.one (.bool x))::al) hs fun bs=>K (quiet::bs))(ho:o.op = .pick c a b:=by exact rfl)(wn:Wn ops nt al o d:=by exact⟨rfl,rfl,rfl⟩)(hc:af (rg al) c = .one (.bool false):=by exact rfl)(ha:af (rg al) b = .one (.bool x):=by exact rfl):SK P ops nt L (o::l) al hs K:=
 JM ho wn.w wn.e wn.l hc ha hk
theorem ng{a:Operand}{t:TypeId}{k:IntKind}{x:Int}(hk:SK P ops nt L l ((d,.one (.int k (0-x)))::al) hs fun bs=>K (quiet::bs))(ho:o.op = .unOp .neg t a:=by exact rfl)(wn:Wn ops nt al o d:=by exact⟨rfl,rfl,rfl⟩)(ha:af (rg al) a = .one (.int k x):=by exact rfl)(h:xe k (0-x):=by(show _/\_;omega)):SK P ops nt L (o::l) al hs K:=
 SK.lift wn.e wn.l (fun _=>aB.pure wn.w (by rw[ho];simp only[aZ,ha,RV,cj,f6 h])) hk
theorem Ub{a:Operand}{t:TypeId}{x:Bool}(hk:SK P ops nt L l ((d,.one (.bool (!x)))::al) hs fun bs=>K (quiet::bs))(ho:o.op = .unOp .not t a:=by exact rfl)(wn:Wn ops nt al o d:=by exact⟨rfl,rfl,rfl⟩)(ha:af (rg al) a = .one (.bool x):=by exact rfl):SK P ops nt L (o::l) al hs K:=
 Pt ho wn.w wn.e wn.l ha rfl hk
theorem ad{t t':TypeId}{a b:Operand}{k:IntKind}{x y:Int}(hk:SK P ops nt L l ((d,.one (.int k (x+y)))::al) hs fun bs=>K (quiet::bs))(ho:o.op = .binOp .add t a b t':=by exact rfl)(wn:Wn ops nt al o d:=by exact⟨rfl,rfl,rfl⟩)(ha:af (rg al) a = .one (.int k x):=by exact rfl)(hb:af (rg al) b = .one (.int k y):=by exact rfl)(h:xe k (x+y):=by(show _/\_;omega)):SK P ops nt L (o::l) al hs K:=
 gG ho wn.w wn.e wn.l ha hb (by simp only[bE,dW,if_true,cj,f6 h]) hk
theorem Su{t t':TypeId}{a b:Operand}{k:IntKind}{x y:Int}(hk:SK P ops nt L l ((d,.one (.int k (k.wrap (x+y))))::al) hs fun bs=>K (quiet::bs))(ho:o.op = .binOp .add t a b t':=by exact rfl)(wn:Wn ops nt al o d:=by exact⟨rfl,rfl,rfl⟩)(ha:af (rg al) a = .one (.int k x):=by exact rfl)(hb:af (rg al) b = .one (.int k y):=by exact rfl):SK P ops nt L (o::l) al hs K:=
 gG ho wn.w wn.e wn.l ha hb (by simp only[bE,dW,if_true,cj]) hk
theorem sb{t t':TypeId}{a b:Operand}{k:IntKind}{x y:Int}(hk:SK P ops nt L l ((d,.one (.int k (x-y)))::al) hs fun bs=>K (quiet::bs))(ho:o.op = .binOp .sub t a b t':=by exact rfl)(wn:Wn ops nt al o d:=by exact⟨rfl,rfl,rfl⟩)(ha:af (rg al) a = .one (.int k x):=by exact rfl)(hb:af (rg al) b = .one (.int k y):=by exact rfl)(h:xe k (x-y):=by(show _/\_;omega)):SK P ops nt L (o::l) al hs K:=
 gG ho wn.w wn.e wn.l ha hb (by simp only[bE,dW,if_true,cj,f6 h]) hk
theorem ml{t t':TypeId}{a b:Operand}{k:IntKind}{x y:Int}(hk:SK P ops nt L l ((d,.one (.int k (x*y)))::al) hs fun bs=>K (quiet::bs))(ho:o.op = .binOp .mul t a b t':=by exact rfl)(wn:Wn ops nt al o d:=by exact⟨rfl,rfl,rfl⟩)(ha:af (rg al) a = .one (.int k x):=by exact rfl)(hb:af (rg al) b = .one (.int k y):=by exact rfl)(h:xe k (x*y):=by(show _/\_;omega)):SK P ops nt L (o::l) al hs K:=
 gG ho wn.w wn.e wn.l ha hb (by simp only[bE,dW,if_true,cj,f6 h]) hk
theorem SV{t t':TypeId}{a b:Operand}{k:IntKind}{x y:Int}(hk:SK P ops nt L l ((d,.one (.int k (k.wrap (x*y))))::al) hs fun bs=>K (quiet::bs))(ho:o.op = .binOp .mul t a b t':=by exact rfl)(wn:Wn ops nt al o d:=by exact⟨rfl,rfl,rfl⟩)(ha:af (rg al) a = .one (.int k x):=by exact rfl)(hb:af (rg al) b = .one (.int k y):=by exact rfl):SK P ops nt L (o::l) al hs K:=
 gG ho wn.w wn.e wn.l ha hb (by simp only[bE,dW,if_true,cj]) hk
theorem qu{t t':TypeId}{a b:Operand}{k:IntKind}{x y:Int}(hk:SK P ops nt L l ((d,.one (.int k (x/y)))::al) hs fun bs=>K (quiet::bs))(ho:o.op = .binOp .quo t a b t':=by exact rfl)(wn:Wn ops nt al o d:=by exact⟨rfl,rfl,rfl⟩)(ha:af (rg al) a = .one (.int k x):=by exact rfl)(hb:af (rg al) b = .one (.int k y):=by exact rfl)(h:xe k x/\0<=x/\0<y:=by exact⟨by show _/\_;omega,by omega⟩):SK P ops nt L (o::l) al hs K:=
 gG ho wn.w wn.e wn.l ha hb (SY h.1 h.2.1 h.2.2) hk
theorem re{t t':TypeId}{a b:Operand}{k:IntKind}{x y:Int}(hk:SK P ops nt L l ((d,.one (.int k (x%y)))::al) hs fun bs=>K (quiet::bs))(ho:o.op = .binOp .rem t a b t':=by exact rfl)(wn:Wn ops nt al o d:=by exact⟨rfl,rfl,rfl⟩)(ha:af (rg al) a = .one (.int k x):=by exact rfl)(hb:af (rg al) b = .one (.int k y):=by exact rfl)(h:0<=x/\y≠0:=by omega):SK P ops nt L (o::l) al hs K:=
 Pu ho wn.w wn.e wn.l ha hb h.1 h.2 hk
theorem sr{t t':TypeId}{a b:Operand}{k k':IntKind}{x y:Int}(hk:SK P ops nt L l ((d,.one (.int k (x/2^y.toNat)))::al) hs fun bs=>K (quiet::bs))(ho:o.op = .binOp .shr t a b t':=by exact rfl)(wn:Wn ops nt al o d:=by exact⟨rfl,rfl,rfl⟩)(ha:af (rg al) a = .one (.int k x):=by exact rfl)(hb:af (rg al) b = .one (.int k' y):=by exact rfl)(h:xe k x/\0<=x/\0<=y:=by exact⟨by show _/\_;omega,by omega⟩):SK P ops nt L (o::l) al hs K:=
 gG ho wn.w wn.e wn.l ha hb (S4 h.1 h.2.1 h.2.2) hk
theorem JO{t t':TypeId}{a b:Operand}{k k':IntKind}{x y:Int}{n:Nat}(hk:SK P ops nt L l ((d,.one (.int k (x*2^n)))::al) hs fun bs=>K (quiet::bs))(ho:o.op = .binOp .shl t a b t':=by exact rfl)(wn:Wn ops nt al o d:=by exact⟨rfl,rfl,rfl⟩)(ha:af (rg al) a = .one (.int k x):=by exact rfl)(hb:af (rg al) b = .one (.int k' y):=by exact rfl)(hn:y=(n:Nat):=by exact rfl)(h:n<=k.bits/\xe k (x*2^n):=by exact⟨by decide,by show _/\_;omega⟩):SK P ops nt L (o::l) al hs K:=
 gG ho wn.w wn.e wn.l ha hb (S3 hn h.1 h.2) hk
theorem an{t t':TypeId}{a b:Operand}{k:IntKind}{x y:Int}(n:Nat)(hk:SK P ops nt L l ((d,.one (.int k (x%2^n)))::al) hs fun bs=>K (quiet::bs))(ho:o.op = .binOp .and t a b t':=by exact rfl)(wn:Wn ops nt al o d:=by exact⟨rfl,rfl,rfl⟩)(ha:af (rg al) a = .one (.int k x):=by exact rfl)(hb:af (rg al) b = .one (.int k y):=by exact rfl)(h:y=2^n-1/\n<k.bits:=by(refine⟨by decide,by decide⟩)):SK P ops nt L (o::l) al hs K:=
 gG ho wn.w wn.e wn.l ha hb (Sv n h.1 h.2) hk
theorem xr{t t':TypeId}{a b:Operand}{k:IntKind}{x y:Int}(hk:SK P ops nt L l ((d,.one (.int k (uy k x y)))::al) hs fun bs=>K (quiet::bs))(ho:o.op = .binOp .xor t a b t':=by exact rfl)(wn:Wn ops nt al o d:=by exact⟨rfl,rfl,rfl⟩)(ha:af (rg al) a = .one (.int k x):=by exact rfl)(hb:af (rg al) b = .one (.int k y):=by exact rfl):SK P ops nt L (o::l) al hs K:=
 gG ho wn.w wn.e wn.l ha hb (by simp only[bE,dW,if_true,cj,uy]) hk
theorem Ud{t t':TypeId}{a b:Operand}{k:IntKind}{x y:Int}(hk:SK P ops nt L l ((d,.one (.int k (sB k x y)))::al) hs fun bs=>K (quiet::bs))(ho:o.op = .binOp .or t a b t':=by exact rfl)(wn:Wn ops nt al o d:=by exact⟨rfl,rfl,rfl⟩)(ha:af (rg al) a = .one (.int k x):=by exact rfl)(hb:af (rg al) b = .one (.int k y):=by exact rfl):SK P ops nt L (o::l) al hs K:=
 gG ho wn.w wn.e wn.l ha hb (by simp only[bE,dW,if_true,cj,sB]) hk
theorem TG{t t':TypeId}{a b:Operand}{k:IntKind}{x y:Int}(hk:SK P ops nt L l ((d,.one (.int k (Ch k x y)))::al) hs fun bs=>K (quiet::bs))(ho:o.op = .binOp .and t a b t':=by exact rfl)(wn:Wn ops nt al o d:=by exact⟨rfl,rfl,rfl⟩)(ha:af (rg al) a = .one (.int k x):=by exact rfl)(hb:af (rg al) b = .one (.int k y):=by exact rfl):SK P ops nt L (o::l) al hs K:=
 gG ho wn.w wn.e wn.l ha hb (by simp only[bE,dW,if_true,cj,Ch]) hk
theorem cT{t t':TypeId}{a b:Operand}{op:BinOp}{k:IntKind}{x y:Int}{p:Prop}(hk:SK P ops nt L l ((d,.one (.bool true))::al) hs fun bs=>K (quiet::bs))(ho:o.op = .binOp op t a b t':=by exact rfl)(wn:Wn ops nt al o d:=by exact⟨rfl,rfl,rfl⟩)(ha:af (rg al) a = .one (.int k x):=by exact rfl)(hb:af (rg al) b = .one (.int k y):=by exact rfl)(hp:Fc op x y=some p:=by exact rfl)(h:p:=by(show(_:Prop);first|omega|exact of_decide_eq_true rfl)):SK P ops nt L (o::l) al hs K:=
 CO ho wn.w wn.e wn.l ha hb hp (fun _=>hk) (fun n=>absurd h n)
theorem cF{t t':TypeId}{a b:Operand}{op:BinOp}{k:IntKind}{x y:Int}{p:Prop}(hk:SK P ops nt L l ((d,.one (.bool false))::al) hs fun bs=>K (quiet::bs))(ho:o.op = .binOp op t a b t':=by exact rfl)(wn:Wn ops nt al o d:=by exact⟨rfl,rfl,rfl⟩)(ha:af (rg al) a = .one (.int k x):=by exact rfl)(hb:af (rg al) b = .one (.int k y):=by exact rfl)(hp:Fc op x y=some p:=by exact rfl)(h:¬p:=by(show¬(_:Prop);first|omega|exact of_decide_eq_false rfl)):SK P ops nt L (o::l) al hs K:=
 CO ho wn.w wn.e wn.l ha hb hp (fun n=>absurd n h) (fun _=>hk)
theorem cX{t t':TypeId}{a b:Operand}{op:BinOp}{k:IntKind}{x y:Int}{p:Prop}(h1:p->SK P ops nt L l ((d,.one (.bool true))::al) hs fun bs=>K (quiet::bs))(h2:¬p->SK P ops nt L l ((d,.one (.bool false))::al) hs fun bs=>K (quiet::bs))(ho:o.op = .binOp op t a b t':=by exact rfl)(wn:Wn ops nt al o d:=by exact⟨rfl,rfl,rfl⟩)(ha:af (rg al) a = .one (.int k x):=by exact rfl)(hb:af (rg al) b = .one (.int k y):=by exact rfl)(hp:Fc op x y=some p:=by exact rfl):SK P ops nt L (o::l) al hs K:=
 CO ho wn.w wn.e wn.l ha hb hp h1 h2
theorem Sy{t t':TypeId}{a b:Operand}{x y:Bool}(hk:SK P ops nt L l ((d,.one (.bool (!(x==y))))::al) hs fun bs=>K (quiet::bs))(ho:o.op = .binOp .neq t a b t':=by exact rfl)(wn:Wn ops nt al o d:=by exact⟨rfl,rfl,rfl⟩)(hu:aQ P t .bool:=by infer_instance)(hg:P.eqGuardType P.depth t=false:=by kernel_rfl)(ha:af (rg al) a = .one (.bool x):=by exact rfl)(hb:af (rg al) b = .one (.bool y):=by exact rfl):SK P ops nt L (o::l) al hs K:=
 SK.lift wn.e wn.l (fun _=>aB.pure wn.w (by rw[ho];simp only[aZ,ha,hb,s5,s6,hg,Bool.false_eq_true,if_false,bY,hu.out,wJ,Option.map_some])) hk
theorem TO{t t' e:TypeId}{a b:Operand}{i off:Nat}(hk:SK P ops nt L l ((d,.one (.bool false))::al) hs fun bs=>K (quiet::bs))(ho:o.op = .binOp .eql t a b t':=by exact rfl)(wn:Wn ops nt al o d:=by exact⟨rfl,rfl,rfl⟩)(hu:aQ P t (.pointer e):=by infer_instance)(ha:af (rg al) a = .one (.ptr i off):=by exact rfl)(hb:af (rg al) b = .one .nilp:=by exact rfl):SK P ops nt L (o::l) al hs K:=
 SK.lift wn.e wn.l (fun _=>aB.pure wn.w (by rw[ho];simp only[aZ,ha,hb,s5,s6,bY,hu.out,wJ,Option.map_some])) hk
theorem T9{t t' e:TypeId}{a b:Operand}{i off:Nat}(hk:SK P ops nt L l ((d,.one (.bool true))::al) hs fun bs=>K (quiet::bs))(ho:o.op = .binOp .neq t a b t':=by exact rfl)(wn:Wn ops nt al o d:=by exact⟨rfl,rfl,rfl⟩)(hu:aQ P t (.pointer e):=by infer_instance)(ha:af (rg al) a = .one (.ptr i off):=by exact rfl)(hb:af (rg al) b = .one .nilp:=by exact rfl):SK P ops nt L (o::l) al hs K:=
 SK.lift wn.e wn.l (fun _=>aB.pure wn.w (by rw[ho];simp only[aZ,ha,hb,s5,s6,bY,hu.out,wJ,Option.map_some,Bool.not_false])) hk
theorem T8{a b:Operand}{ts:Array TypeId}{k k':IntKind}{x y:Int}(hk:SK P ops nt L l ((d,.one (.int k x))::al) hs fun bs=>K (quiet::bs))(ho:o.op = .call ⟨.builtin .max,#[a,b],ts⟩:=by exact rfl)(wn:Wn ops nt al o d:=by exact⟨rfl,rfl,rfl⟩)(ha:af (rg al) a = .one (.int k x):=by exact rfl)(hb:af (rg al) b = .one (.int k' y):=by exact rfl)(h:max x y=x:=by first|exact Int.max_eq_left (by omega)):SK P ops nt L (o::l) al hs K:=
 JL ho wn.w wn.e wn.l ha hb h hk
theorem R8{a b:Operand}{ts:Array TypeId}{k k':IntKind}{x y:Int}(hk:SK P ops nt L l ((d,.one (.int k (max x y)))::al) hs fun bs=>K (quiet::bs))(ho:o.op = .call ⟨.builtin .max,#[a,b],ts⟩:=by exact rfl)(wn:Wn ops nt al o d:=by exact⟨rfl,rfl,rfl⟩)(ha:af (rg al) a = .one (.int k x):=by exact rfl)(hb:af (rg al) b = .one (.int k' y):=by exact rfl):SK P ops nt L (o::l) al hs K:=
 JL ho wn.w wn.e wn.l ha hb rfl hk
theorem T3{a b:Operand}{ts:Array TypeId}{k k':IntKind}{x y:Int}(hk:SK P ops nt L l ((d,.one (.int k x))::al) hs fun bs=>K (quiet::bs))(ho:o.op = .call ⟨.builtin .min,#[a,b],ts⟩:=by exact rfl)(wn:Wn ops nt al o d:=by exact⟨rfl,rfl,rfl⟩)(ha:af (rg al) a = .one (.int k x):=by exact rfl)(hb:af (rg al) b = .one (.int k' y):=by exact rfl)(h:min x y=x:=by first|exact Int.min_eq_left (by omega)):SK P ops nt L (o::l) al hs K:=
 CR ho wn.w wn.e wn.l ha hb h hk
theorem T4{a b:Operand}{ts:Array TypeId}{k k':IntKind}{x y:Int}(hk:SK P ops nt L l ((d,.one (.int k y))::al) hs fun bs=>K (quiet::bs))(ho:o.op = .call ⟨.builtin .min,#[a,b],ts⟩:=by exact rfl)(wn:Wn ops nt al o d:=by exact⟨rfl,rfl,rfl⟩)(ha:af (rg al) a = .one (.int k x):=by exact rfl)(hb:af (rg al) b = .one (.int k' y):=by exact rfl)(h:min x y=y:=by first|exact Int.min_eq_right (by omega)):SK P ops nt L (o::l) al hs K:=
 CR ho wn.w wn.e wn.l ha hb h hk
theorem Tv{a b:Operand}{ts:Array TypeId}{k k':IntKind}{x y:Int}(hk:SK P ops nt L l ((d,.one (.int k (min x y)))::al) hs fun bs=>K (quiet::bs))(ho:o.op = .call ⟨.builtin .min,#[a,b],ts⟩:=by exact rfl)(wn:Wn ops nt al o d:=by exact⟨rfl,rfl,rfl⟩)(ha:af (rg al) a = .one (.int k x):=by exact rfl)(hb:af (rg al) b = .one (.int k' y):=by exact rfl):SK P ops nt L (o::l) al hs K:=
 CR ho wn.w wn.e wn.l ha hb rfl hk
theorem cv{s t:TypeId}{y:Operand}{u:TypeDesc}{k k':IntKind}{x:Int}(hk:SK P ops nt L l ((d,.one (.int k' x))::al) hs fun bs=>K (quiet::bs))(ho:o.op = .convert s t y:=by exact rfl)(wn:Wn ops nt al o d:=by exact⟨rfl,rfl,rfl⟩)(hy:af (rg al) y = .one (.int k x):=by exact rfl)(h1:aQ P s u:=by infer_instance)(h2:aQ P t (.int k'):=by infer_instance)(h:xe k' x:=by(show _/\_;omega)):SK P ops nt L (o::l) al hs K:=
 Ek ho wn.w wn.e wn.l hy (f6 h) hk
theorem To{s t:TypeId}{y:Operand}{u:TypeDesc}{k k':IntKind}{x:Int}(hk:SK P ops nt L l ((d,.one (.int k' (k'.wrap x)))::al) hs fun bs=>K (quiet::bs))(ho:o.op = .convert s t y:=by exact rfl)(wn:Wn ops nt al o d:=by exact⟨rfl,rfl,rfl⟩)(hy:af (rg al) y = .one (.int k x):=by exact rfl)(h1:aQ P s u:=by infer_instance)(h2:aQ P t (.int k'):=by infer_instance):SK P ops nt L (o::l) al hs K:=
 Ek ho wn.w wn.e wn.l hy rfl hk
theorem nl{a:Operand}{i off:Nat}(hk:SK P ops nt L l ((d,.one (.ptr i off))::al) hs fun bs=>K (quiet::bs))(ho:o.op = .nilCheck a:=by exact rfl)(wn:Wn ops nt al o d:=by exact⟨rfl,rfl,rfl⟩)(ha:af (rg al) a = .one (.ptr i off):=by exact rfl):SK P ops nt L (o::l) al hs K:=
 Ps ho wn.w wn.e wn.l ha hk
theorem fa{s:TypeId}{a:Operand}{f:Nat}{i off:Nat}{ft:TypeId}{fo z:Nat}{p:Nat}(hk:SK P ops nt L l ((d,.one (.ptr i p))::al) hs fun bs=>K (quiet::bs))(ho:o.op = .fieldAddr s a f:=by exact rfl)(wn:Wn ops nt al o d:=by exact⟨rfl,rfl,rfl⟩)(ha:af (rg al) a = .one (.ptr i off):=by exact rfl)(hf:bD P s f ft fo:=by infer_instance)(hz:aH P ft (z+1):=by infer_instance)(hp:off+fo=p:=by exact n1):SK P ops nt L (o::l) al hs K:=
 Pp ho wn.w wn.e wn.l ha hp hk
theorem TS{t:TypeId}{a b:Operand}{elem:TypeId}{s:Nat}{k:IntKind}{z:Int}{i off len:Nat}{p:Nat}(hk:SK P ops nt L l ((d,.one (.ptr i p))::al) hs fun bs=>K (quiet::bs))(ho:o.op = .indexAddr t a b:=by exact rfl)(wn:Wn ops nt al o d:=by exact⟨rfl,rfl,rfl⟩)(hb:af (rg al) b = .one (.int k z):=by exact rfl)(ha:af (rg al) a = .one (.ptr i off):=by exact rfl)(hu:aQ P t (.array len elem):=by infer_instance)(hs':aH P elem s:=by infer_instance)(hz:0<=z/\z<(len:Nat):=by first|omega|decide)(hp:off+z.toNat*s=p:=by exact n1):SK P ops nt L (o::l) al hs K:=
 MC ho wn.w wn.e wn.l ha hb hz hp hk
theorem TT{t:TypeId}{a b:Operand}{elem:TypeId}{s:Nat}{k:IntKind}{z:Int}{i off len:Nat}{cap:pr}{p:Nat}(hk:SK P ops nt L l ((d,.one (.ptr i p))::al) hs fun bs=>K (quiet::bs))(ho:o.op = .indexAddr t a b:=by exact rfl)(wn:Wn ops nt al o d:=by exact⟨rfl,rfl,rfl⟩)(hb:af (rg al) b = .one (.int k z):=by exact rfl)(ha:af (rg al) a = .one (.slice i off len cap):=by exact rfl)(hu:aQ P t (.slice elem):=by infer_instance)(hs':aH P elem s:=by infer_instance)(hz:0<=z/\z<(len:Nat):=by first|omega|decide)(hp:off+z.toNat*s=p:=by exact n1):SK P ops nt L (o::l) al hs K:=
 El ho wn.w wn.e wn.l ha hb hz hp hk
theorem TQ{t:TypeId}{a b:Operand}{elem:TypeId}{s:Nat}{k:IntKind}{z:Int}{i off len:Nat}{c:XC}{p:Nat}(hk:SK P ops nt L l ((d,.one (.ptr i p))::al) hs fun bs=>K (quiet::bs))(ho:o.op = .indexAddr t a b:=by exact rfl)(wn:Wn ops nt al o d:=by exact⟨rfl,rfl,rfl⟩)(hb:af (rg al) b = .one (.int k z):=by exact rfl)(ha:af (rg al) a = .one c:=by exact rfl)(hc:cS c i off len:=by assumption)(hu:aQ P t (.slice elem):=by infer_instance)(hs':aH P elem s:=by infer_instance)(hz:0<=z/\z<(len:Nat):=by first|omega|decide)(hp:off+z.toNat*s=p:=by exact n1):SK P ops nt L (o::l) al hs K:=
 MB ho wn.w wn.e wn.l ha hb hc hz hp hk
theorem TR{t:TypeId}{a b:Operand}{elem:TypeId}{s:Nat}{k:IntKind}{z:Int}{i n sz:Nat}{p:Nat}(hk:SK P ops nt L l ((d,.one (.ptr i p))::al) hs fun bs=>K (quiet::bs))(ho:o.op = .indexAddr t a b:=by exact rfl)(wn:Wn ops nt al o d:=by exact⟨rfl,rfl,rfl⟩)(hb:af (rg al) b = .one (.int k z):=by exact rfl)(ha:af (rg al) a=gJ i n sz:=by exact rfl)(hu:aQ P t (.slice elem):=by infer_instance)(hs':aH P elem s:=by infer_instance)(hz:0<=z/\z<(n:Nat):=by omega)(hp:0+z.toNat*s=p:=by exact n1):SK P ops nt L (o::l) al hs K:=
 El ho wn.w wn.e wn.l (ha.trans (fm (by omega))) hb hz hp hk
theorem T1{a:Operand}{t elem:TypeId}{i off len:Nat}{cap:pr}(hk:SK P ops nt L l ((d,.one (.int .i64 (len:Nat)))::al) hs fun bs=>K (quiet::bs))(ho:o.op = .call ⟨.builtin .len,#[a],#[t]⟩:=by exact rfl)(wn:Wn ops nt al o d:=by exact⟨rfl,rfl,rfl⟩)(ha:af (rg al) a = .one (.slice i off len cap):=by exact rfl)(hu:aQ P t (.slice elem):=by infer_instance):SK P ops nt L (o::l) al hs K:=
 MF ho wn.w wn.e wn.l ha hk
theorem T0{a:Operand}{t elem:TypeId}(hk:SK P ops nt L l ((d,.one (.int .i64 0))::al) hs fun bs=>K (quiet::bs))(ho:o.op = .call ⟨.builtin .len,#[a],#[t]⟩:=by exact rfl)(wn:Wn ops nt al o d:=by exact⟨rfl,rfl,rfl⟩)(ha:af (rg al) a = .one .nils:=by exact rfl)(hu:aQ P t (.slice elem):=by infer_instance):SK P ops nt L (o::l) al hs K:=
 SK.lift wn.e wn.l (fun _=>aB.pure wn.w (by rw[ho];simp[aZ,ej,ha,y7,hu.out])) hk
theorem TY{a:Operand}{t elem:TypeId}{i off len:Nat}{c:XC}(hk:SK P ops nt L l ((d,.one (.int .i64 (len:Nat)))::al) hs fun bs=>K (quiet::bs))(ho:o.op = .call ⟨.builtin .len,#[a],#[t]⟩:=by exact rfl)(wn:Wn ops nt al o d:=by exact⟨rfl,rfl,rfl⟩)(ha:af (rg al) a = .one c:=by exact rfl)(hc:cS c i off len:=by assumption)(hu:aQ P t (.slice elem):=by infer_instance):SK P ops nt L (o::l) al hs K:=
 MD ho wn.w wn.e wn.l ha hc hk
theorem TZ{a:Operand}{t elem:TypeId}{i n sz:Nat}(hk:SK P ops nt L l ((d,.one (.int .i64 (n:Nat)))::al) hs fun bs=>K (quiet::bs))(ho:o.op = .call ⟨.builtin .len,#[a],#[t]⟩:=by exact rfl)(wn:Wn ops nt al o d:=by exact⟨rfl,rfl,rfl⟩)(ha:af (rg al) a=gJ i n sz:=by exact rfl)(hu:aQ P t (.slice elem):=by infer_instance):SK P ops nt L (o::l) al hs K:=
 ME ho wn.w wn.e wn.l ha hk
theorem fd{s:TypeId}{a:Operand}{f:Nat}{cs:List XC}{ft:TypeId}{fo:Nat}{c:XC}(hk:SK P ops nt L l ((d,.one c)::al) hs fun bs=>K (quiet::bs))(ho:o.op = .field s a f:=by exact rfl)(wn:Wn ops nt al o d:=by exact⟨rfl,rfl,rfl⟩)(ha:af (rg al) a = .agg cs:=by exact rfl)(hf:bD P s f ft fo:=by infer_instance)(hz:cR P ft:=by infer_instance)(hc:cs[fo]? = some c:=by exact rfl):SK P ops nt L (o::l) al hs K:=
 JI ho wn.w wn.e wn.l ha hc hk
theorem Ut{a:Operand}{i:Nat}{vs:List X1}{c:XC}(hk:SK P ops nt L l ((d,.one c)::al) hs fun bs=>K (quiet::bs))(ho:o.op = .extract a i:=by exact rfl)(wn:Wn ops nt al o d:=by exact⟨rfl,rfl,rfl⟩)(ha:af (rg al) a = .tup vs:=by exact rfl)(hc:vs[i]? = some (.one c):=by exact rfl):SK P ops nt L (o::l) al hs K:=
 Po ho wn.w wn.e wn.l ha hc hk
theorem Uu{a:Operand}{i:Nat}{vs:List X1}{c:List XC}(hk:SK P ops nt L l ((d,.agg c)::al) hs fun bs=>K (quiet::bs))(ho:o.op = .extract a i:=by exact rfl)(wn:Wn ops nt al o d:=by exact⟨rfl,rfl,rfl⟩)(ha:af (rg al) a = .tup vs:=by exact rfl)(hc:vs[i]? = some (.agg c):=by exact rfl):SK P ops nt L (o::l) al hs K:=
 MA ho wn.w wn.e wn.l ha hc hk
theorem Tt(T:Nat->Int){t:TypeId}{x ix:Operand}{s:List UInt8}{k:IntKind}{z:Int}(hk:SK P ops nt L l ((d,.one (.int .u8 (T z.toNat)))::al) hs fun bs=>K (quiet::bs))(ho:o.op = .index t x ix:=by exact rfl)(wn:Wn ops nt al o d:=by exact⟨rfl,rfl,rfl⟩)(hu:aQ P t .string:=by infer_instance)(ha:af (rg al) x = .one (.str s):=by exact rfl)(hb:af (rg al) ix = .one (.int k z):=by exact rfl)(hz:0<=z/\z<256:=by omega)(hT:∀i:Fin 256,s[i.val]?.map (fun b=>(b.toNat:Int))=some (T i.val):=by decide +kernel):SK P ops nt L (o::l) al hs K:=
 Pq T ho wn.w wn.e wn.l ha hb hz hT hk
theorem ld{t:TypeId}{a:Operand}{i off:Nat}{vs:List XC}{e:TypeId}{opn ro:Bool}{c:XC}(hk:SK P ops nt L l ((d,.one c)::al) hs fun bs=>K (⟨false,some i,[]⟩::bs))(ho:o.op = .load t a:=by exact rfl)(ht:cR P t:=by infer_instance)(wn:Wn ops nt al o d:=by exact⟨rfl,rfl,rfl⟩)(ha:af (rg al) a = .one (.ptr i off):=by exact rfl)(hi:hs[i]? = some (.cells vs e opn ro):=by exact rfl)(hc:vs[off]? = some c:=by exact rfl):SK P ops nt L (o::l) al hs K:=
 fU ho wn.w wn.e wn.l ha hi hc hk
theorem TU{t:TypeId}{a:Operand}{i off:Nat}{k:IntKind}{q:List Int}{e:TypeId}{opn ro:Bool}(hk:SK P ops nt L l ((d,.one (.int k (q.getD off 0)))::al) hs fun bs=>K (⟨false,some i,[]⟩::bs))(ho:o.op = .load t a:=by exact rfl)(ht:cR P t:=by infer_instance)(wn:Wn ops nt al o d:=by exact⟨rfl,rfl,rfl⟩)(ha:af (rg al) a = .one (.ptr i off):=by exact rfl)(hi:hs[i]? = some (.cells (il k q) e opn ro):=by exact rfl)(hc:off<q.length:=by first|omega|decide|(simp only[bz,aU,List.length_cons,List.length_nil,List.length_set,List.length_append,List.length_replicate];first|omega|decide)):SK P ops nt L (o::l) al hs K:=
 fU ho wn.w wn.e wn.l ha hi (Ci hc) hk
theorem TX{t:TypeId}{a:Operand}{i off:Nat}{k:IntKind}{q:List Int}{e:TypeId}(hk:SK P ops nt L l ((d,.one (.int k (q.getD off 0)))::al) hs fun bs=>K (⟨false,some i,[]⟩::bs))(ho:o.op = .load t a:=by exact rfl)(ht:cR P t:=by infer_instance)(wn:Wn ops nt al o d:=by exact⟨rfl,rfl,rfl⟩)(ha:af (rg al) a = .one (.ptr i off):=by exact rfl)(hi:hs[i]? = some (bU e (il k q)):=by exact rfl)(hc:off<q.length:=by first|omega|decide|(simp only[bz,aU,List.length_cons,List.length_nil,List.length_set,List.length_append,List.length_replicate];first|omega|decide)):SK P ops nt L (o::l) al hs K:=
 fU ho wn.w wn.e wn.l ha (hi.trans (congrArg some (cK (fun hn=>by rw[show q = [] by simpa [il]using hn]at hc;exact absurd hc (Nat.not_lt_zero _))))) (Ci hc) hk
theorem TV{t:TypeId}{a:Operand}{i off:Nat}{ob:ak}{k:IntKind}{q:List Int}(hk:SK P ops nt L l ((d,.one (.int k (q.getD off 0)))::al) hs fun bs=>K (⟨false,some i,[]⟩::bs))(ho:o.op = .load t a:=by exact rfl)(ht:cR P t:=by infer_instance)(wn:Wn ops nt al o d:=by exact⟨rfl,rfl,rfl⟩)(ha:af (rg al) a = .one (.ptr i off):=by exact rfl)(hi:hs[i]? = some ob:=by exact rfl)(hro:RO ob k q:=by assumption)(hc:off<q.length:=by first|omega|decide|(simp only[bz,aU,List.length_cons,List.length_nil,List.length_set,List.length_append,List.length_replicate];first|omega|decide)):SK P ops nt L (o::l) al hs K:=
 JK ho wn.w wn.e wn.l ha hi hro hc hk
theorem TW{t:TypeId}{a:Operand}{i off:Nat}{k:IntKind}{n:Nat}{q:Nat->Int}{e:TypeId}{opn ro:Bool}(hk:SK P ops nt L l ((d,.one (.int k (q off)))::al) hs fun bs=>K (⟨false,some i,[]⟩::bs))(ho:o.op = .load t a:=by exact rfl)(ht:cR P t:=by infer_instance)(wn:Wn ops nt al o d:=by exact⟨rfl,rfl,rfl⟩)(ha:af (rg al) a = .one (.ptr i off):=by exact rfl)(hi:hs[i]? = some (.cells (ti k n q) e opn ro):=by exact rfl)(hc:off<n:=by omega):SK P ops nt L (o::l) al hs K:=
 fU ho wn.w wn.e wn.l ha hi (jM hc) hk
theorem jI{t:TypeId}{a:Operand}{s:Nat}{i:Nat}{vs:List XC}{e:TypeId}{opn ro:Bool}(hk:SK P ops nt L l ((d,.agg vs)::al) hs fun bs=>K (⟨false,some i,[]⟩::bs))(ho:o.op = .load t a:=by exact rfl)(ht:dk P t:=by infer_instance)(hs':aH P t s:=by infer_instance)(wn:Wn ops nt al o d:=by exact⟨rfl,rfl,rfl⟩)(ha:af (rg al) a = .one (.ptr i 0):=by exact rfl)(hi:hs[i]? = some (.cells vs e opn ro):=by exact rfl)(hle:s=vs.length:=by exact rfl):SK P ops nt L (o::l) al hs K:=
 CP ho wn.w wn.e wn.l ha hi hle hk
theorem qI{t:TypeId}{a:Operand}{s:Nat}{i off:Nat}{vs:List XC}{e:TypeId}{opn ro:Bool}{cs:List XC}(hk:SK P ops nt L l ((d,.agg cs)::al) hs fun bs=>K (⟨false,some i,[]⟩::bs))(ho:o.op = .load t a:=by exact rfl)(ht:dk P t:=by infer_instance)(hs':aH P t s:=by infer_instance)(wn:Wn ops nt al o d:=by exact⟨rfl,rfl,rfl⟩)(ha:af (rg al) a = .one (.ptr i off):=by exact rfl)(hi:hs[i]? = some (.cells vs e opn ro):=by exact rfl)(hle:off+s<=vs.length:=by first|exact Nat.le_of_ble_eq_true rfl|decide)(hc:(vs.drop off).take s=cs:=by exact rfl):SK P ops nt L (o::l) al hs K:=
 vp ho wn.w wn.e wn.l ha hi hle hc hk
theorem jU{t:TypeId}{zs:List XC}{n:Nat}{hs':aj}(hk:SK P ops nt L l ((d,.one (.ptr n 0))::al) hs' fun bs=>K (⟨true,.none,[n]⟩::bs))(ho:o.op = .alloc t:=by exact rfl)(hz:aM P t zs:=by infer_instance)(wn:Wn ops nt al o d:=by exact⟨rfl,rfl,rfl⟩)(hn:hs.length=n:=by exact n2)(hb:Nat.blt n Mem.bound=true:=by exact rfl)(hh:hs++[.cells zs t false false]=hs':=by exact n3):SK P ops nt L (o::l) al hs K:=
 JG ho wn.w wn.e wn.l hn hb hh hk
theorem bx{t:TypeId}{y:Operand}{cs:List XC}{n:Nat}{hs':aj}(hk:SK P ops nt L l ((d,.one (.ptr n 0))::al) hs' fun bs=>K (⟨true,.none,[n]⟩::bs))(ho:o.op = .box t y:=by exact rfl)(wn:Wn ops nt al o d:=by exact⟨rfl,rfl,rfl⟩)(hy:cQ (af (rg al) y)=some cs:=by exact rfl)(hn:hs.length=n:=by exact n2)(hb:Nat.blt n Mem.bound=true:=by exact rfl)(hh:hs++[.cells cs t false false]=hs':=by exact n3):SK P ops nt L (o::l) al hs K:=
 Pj ho wn.w wn.e wn.l hy hn hb hh hk
theorem mm{t:TypeId}{n:Nat}{hs':aj}(hk:SK P ops nt L l ((d,.one (.map n))::al) hs' fun bs=>K (⟨true,.none,[n]⟩::bs))(ho:o.op = .makeMap t .none:=by exact rfl)(wn:Wn ops nt al o d:=by exact⟨rfl,rfl,rfl⟩)(hn:hs.length=n:=by exact n2)(hb:Nat.blt n Mem.bound=true:=by exact rfl)(hh:hs++[.map []]=hs':=by exact n3):SK P ops nt L (o::l) al hs K:=
 CQ ho wn.w wn.e wn.l hn hb hh hk
theorem st{t:TypeId}{a y:Operand}{i off:Nat}{c:XC}{vs:List XC}{e:TypeId}{opn:Bool}{vs':List XC}{hs':aj}(hk:SK P ops nt L l al hs' fun bs=>K (⟨true,.none,[i]⟩::bs))(ho:o.op = .store t a y:=by exact rfl)(ht:aH P t 1:=by infer_instance)(hw:aw ops (rg al) o=some true:=by exact rfl)(hd:o.dst = .none:=by exact rfl)(ha:af (rg al) a = .one (.ptr i off):=by exact rfl)(hy:cQ (af (rg al) y)=some [c]:=by exact rfl)(hi:hs[i]? = some (.cells vs e opn false):=by exact rfl)(hle:off<vs.length:=by first|exact Nat.le_of_ble_eq_true rfl|decide)(hv:vs.set off c=vs':=by exact n4)(hh:hs.set i (.cells vs' e opn false)=hs':=by exact n4):SK P ops nt L (o::l) al hs K:=
 kH ho hw hd ha hy hi hle hv hh hk
theorem Uo{t:TypeId}{a y:Operand}{i off:Nat}{k:IntKind}{z:Int}{q:List Int}{e:TypeId}{opn:Bool}{hs':aj}(hk:SK P ops nt L l al hs' fun bs=>K (⟨true,.none,[i]⟩::bs))(ho:o.op = .store t a y:=by exact rfl)(ht:aH P t 1:=by infer_instance)(hw:aw ops (rg al) o=some true:=by exact rfl)(hd:o.dst = .none:=by exact rfl)(ha:af (rg al) a = .one (.ptr i off):=by exact rfl)(hy:cQ (af (rg al) y)=some [.int k z]:=by exact rfl)(hi:hs[i]? = some (.cells (il k q) e opn false):=by exact rfl)(hle:off<q.length:=by first|omega|decide|(simp only[bz,aU,List.length_cons,List.length_nil,List.length_set,List.length_append,List.length_replicate];first|omega|decide))(hh:hs.set i (.cells (il k (q.set off z)) e opn false)=hs':=by exact n4):SK P ops nt L (o::l) al hs K:=
 kH ho hw hd ha hy hi (by rw[bz];exact hle) (Ig ..) hh hk
theorem Uq{t:TypeId}{a y:Operand}{i off:Nat}{k:IntKind}{z:Int}{q:List Int}{e:TypeId}{hs':aj}(hk:SK P ops nt L l al hs' fun bs=>K (⟨true,.none,[i]⟩::bs))(ho:o.op = .store t a y:=by exact rfl)(ht:aH P t 1:=by infer_instance)(hw:aw ops (rg al) o=some true:=by exact rfl)(hd:o.dst = .none:=by exact rfl)(ha:af (rg al) a = .one (.ptr i off):=by exact rfl)(hy:cQ (af (rg al) y)=some [.int k z]:=by exact rfl)(hi:hs[i]? = some (bU e (il k q)):=by exact rfl)(hle:off<q.length:=by first|omega|decide|(simp only[bz,aU,List.length_cons,List.length_nil,List.length_set,List.length_append,List.length_replicate];first|omega|decide))(hh:hs.set i (bU e (il k (q.set off z)))=hs':=by exact n4):SK P ops nt L (o::l) al hs K:=
 Gl ho hw hd ha hy hi hle hh hk
theorem Up{t:TypeId}{a y:Operand}{i off:Nat}{k:IntKind}{z:Int}{n:Nat}{q:Nat->Int}{e:TypeId}{opn:Bool}{hs':aj}(hk:SK P ops nt L l al hs' fun bs=>K (⟨true,.none,[i]⟩::bs))(ho:o.op = .store t a y:=by exact rfl)(ht:aH P t 1:=by infer_instance)(hw:aw ops (rg al) o=some true:=by exact rfl)(hd:o.dst = .none:=by exact rfl)(ha:af (rg al) a = .one (.ptr i off):=by exact rfl)(hy:cQ (af (rg al) y)=some [.int k z]:=by exact rfl)(hi:hs[i]? = some (.cells (ti k n q) e opn false):=by exact rfl)(hle:off<n:=by omega)(hh:hs.set i (.cells (ti k n (fY q off z)) e opn false)=hs':=by exact n4):SK P ops nt L (o::l) al hs K:=
 kH ho hw hd ha hy hi (by rw[aU];exact hle) (r9 ..) hh hk
theorem nD{t:TypeId}{a y:Operand}{s:Nat}{i:Nat}{cs:List XC}{vs:List XC}{e:TypeId}{opn:Bool}{hs':aj}(hk:SK P ops nt L l al hs' fun bs=>K (⟨true,.none,[i]⟩::bs))(ho:o.op = .store t a y:=by exact rfl)(ht:aH P t s:=by infer_instance)(hw:aw ops (rg al) o=some true:=by exact rfl)(hd:o.dst = .none:=by exact rfl)(ha:af (rg al) a = .one (.ptr i 0):=by exact rfl)(hy:cQ (af (rg al) y)=some cs:=by exact rfl)(hi:hs[i]? = some (.cells vs e opn false):=by exact rfl)(hs1:s=cs.length:=by exact rfl)(hs2:s=vs.length:=by exact rfl)(hh:hs.set i (.cells cs e opn false)=hs':=by exact n4):SK P ops nt L (o::l) al hs K:=
 Gm ho hw hd ha hy hi hs1 hs2 hh hk
theorem Rf{α : Type}{enc : α->List XC}{s:Nat}[hE:nH enc s][Inhabited α]{t:TypeId}{a:Operand}{i off:Nat}{e:TypeId}{q:List α}{j:Nat}(hk:SK P ops nt L l ((d,.agg (enc (q.getD j default)))::al) hs fun bs=>K (⟨false,some i,[]⟩::bs))(ho:o.op = .load t a:=by exact rfl)(ht:dk P t:=by infer_instance)(hs':aH P t s:=by infer_instance)(wn:Wn ops nt al o d:=by exact⟨rfl,rfl,rfl⟩)(ha:af (rg al) a = .one (.ptr i off):=by exact rfl)(hi:hs[i]? = some (bU e (fl enc q)):=by exact rfl)(hj:off=j*s:=by exact rfl)(hc:j<q.length:=by omega):SK P ops nt L (o::l) al hs K:=
 JJ ho wn.w wn.e wn.l ha hi hj hc hk
theorem OE{α : Type}{enc : α->List XC}{s:Nat}[hE:nH enc s][Inhabited α]{t:TypeId}{a:Operand}{i off:Nat}{ob:ak}{q:List α}{j:Nat}(hk:SK P ops nt L l ((d,.agg (enc (q.getD j default)))::al) hs fun bs=>K (⟨false,some i,[]⟩::bs))(ho:o.op = .load t a:=by exact rfl)(ht:dk P t:=by infer_instance)(hs':aH P t s:=by infer_instance)(wn:Wn ops nt al o d:=by exact⟨rfl,rfl,rfl⟩)(ha:af (rg al) a = .one (.ptr i off):=by exact rfl)(hi:hs[i]? = some ob:=by exact rfl)(hro:BN ob enc q:=by assumption)(hj:off=j*s:=by exact rfl)(hc:j<q.length:=by omega):SK P ops nt L (o::l) al hs K:=
 Gk ho wn.w wn.e wn.l ha hi hro hj hc hk
theorem b0{t:TypeId}{zs:List XC}{pl:List (Nat×Nat)}(hk:SK P ops nt L l ((d,.agg zs)::al) hs fun bs=>K (quiet::bs))(ho:o.op = .build t #[]:=by exact rfl)(hz:aM P t zs:=by infer_instance)(hp:cC P t pl:=by infer_instance)(wn:Wn ops nt al o d:=by exact⟨rfl,rfl,rfl⟩):SK P ops nt L (o::l) al hs K:=
 Gg ho wn.w wn.e wn.l hk
theorem TJ{t:TypeId}{zs:List XC}{n:Nat}{e:TypeId}{s:Nat}(hk:SK P ops nt L l ((d,.agg zs)::al) hs fun bs=>K (quiet::bs))(ho:o.op = .build t #[]:=by exact rfl)(hz:aM P t zs:=by infer_instance)(hu:aQ P t (.array n e):=by infer_instance)(hs':aH P e s:=by infer_instance)(wn:Wn ops nt al o d:=by exact⟨rfl,rfl,rfl⟩):SK P ops nt L (o::l) al hs K:=
 CN ho wn.w wn.e wn.l hk
theorem bA{t:TypeId}{parts:Array (Nat×Operand)}{zs:List XC}{n:Nat}{e:TypeId}{s:Nat}{out:List XC}{out':List XC}(hk:SK P ops nt L l ((d,.agg out')::al) hs fun bs=>K (quiet::bs))(ho:o.op = .build t parts:=by exact rfl)(hz:aM P t zs:=by infer_instance)(hu:aQ P t (.array n e):=by infer_instance)(hs':aH P e s:=by infer_instance)(wn:Wn ops nt al o d:=by exact⟨rfl,rfl,rfl⟩)(hr:n5 (fun i=>some (i*s,s)) zs.length 0 (parts.toList.map fun p=>(p.1,af (rg al) p.2))=true:=by exact rfl)(hc:jm (parts.toList.map fun p=>(p.1,af (rg al) p.2))=some out:=by exact rfl)(hn:out=out':=by first|(simp only[List.cons_append,List.nil_append,List.append_nil];exact rfl)|exact rfl):SK P ops nt L (o::l) al hs K:=
 Gh ho wn.w wn.e wn.l hr hc hn hk
theorem bS{t:TypeId}{parts:Array (Nat×Operand)}{zs:List XC}{pl:List (Nat×Nat)}{out:List XC}{out':List XC}(hk:SK P ops nt L l ((d,.agg out')::al) hs fun bs=>K (quiet::bs))(ho:o.op = .build t parts:=by exact rfl)(hz:aM P t zs:=by infer_instance)(hp:cC P t pl:=by infer_instance)(wn:Wn ops nt al o d:=by exact⟨rfl,rfl,rfl⟩)(hr:n5 (fun i=>pl[i]?) zs.length 0 (parts.toList.map fun p=>(p.1,af (rg al) p.2))=true:=by exact rfl)(hc:jm (parts.toList.map fun p=>(p.1,af (rg al) p.2))=some out:=by exact rfl)(hn:out=out':=by first|(simp only[List.cons_append,List.nil_append,List.append_nil];exact rfl)|exact rfl):SK P ops nt L (o::l) al hs K:=
 Gj ho wn.w wn.e wn.l hr hc hn hk
theorem bF{t:TypeId}{parts:Array (Nat×Operand)}{zs:List XC}{pl:List (Nat×Nat)}{out:List XC}(hk:SK P ops nt L l ((d,.agg out)::al) hs fun bs=>K (quiet::bs))(ho:o.op = .build t parts:=by exact rfl)(hz:aM P t zs:=by infer_instance)(hp:cC P t pl:=by infer_instance)(wn:Wn ops nt al o d:=by exact⟨rfl,rfl,rfl⟩)(hc:gQ (fun i=>pl[i]?) zs (parts.toList.map fun p=>(p.1,af (rg al) p.2))=some out:=by exact rfl):SK P ops nt L (o::l) al hs K:=
 Gi ho wn.w wn.e wn.l hc hk
theorem Sw{t t1 e:TypeId}{sz m:Nat}{a b:Operand}{zs:List XC}{i n:Nat}{cs ds:List XC}{N:Nat}{hs':aj}(hsrc:∀M,a_ M hs->j8 P t1 sz (af (rg al) b) M=some (m,ds))(hk:SK P ops nt L l ((d,.one (.slice N 0 (n+m) (.toEnd sz)))::al) hs' fun bs=>K (⟨true,.none,[i,N]⟩::bs))(ho:o.op = .call ⟨.builtin .append,#[a,b],#[t,t1]⟩:=by exact rfl)(hu:aQ P t (.slice e):=by infer_instance)(hz:aM P e zs:=by infer_instance)(hI:TI P e sz:=by infer_instance)(wn:Wn ops nt al o d:=by exact⟨rfl,rfl,rfl⟩)(hsz:zs.length=sz/\0<sz:=by exact⟨rfl,Nat.le_of_ble_eq_true rfl⟩)(ha:af (rg al) a=gJ i n sz:=by exact rfl)(hi:hs[i]? = some (bU e cs):=by exact rfl)(hn:cs.length=n*sz:=by first|(simp only[bz,Nat.mul_one];done)|(simp only[bz,Nat.mul_one];omega)|omega|decide|(simp only[bz,aU,List.length_cons,List.length_nil,List.length_set,List.length_append,List.length_replicate];first|(simp only[bz,Nat.mul_one];done)|(simp only[bz,Nat.mul_one];omega)|omega|decide))(hm:0<m/\n+m<=2000000000:=by omega)(hN:hs.length=N:=by exact n2)(hb:Nat.blt N Mem.bound=true:=by exact rfl)(hh:hs.set i .dead++[.cells (cs++ds) e true false]=hs':=by first|(simp only[List.set_cons_succ,List.set_cons_zero,List.cons_append,List.nil_append];exact rfl)|exact rfl):SK P ops nt L (o::l) al hs K:=
 CM ho wn.w wn.e wn.l hsz ha hi hn hsrc hm hN hb hh hk
theorem Qe{t t1 e e1:TypeId}{a b:Operand}{k:IntKind}{i n j len:Nat}{cap:pr}{q r:List Int}{et:TypeId}{opn ro:Bool}{N:Nat}{hs':aj}(hk:SK P ops nt L l ((d,gJ N (n+len) 1)::al) hs' fun bs=>K (⟨true,.none,[i,N]⟩::bs))(ho:o.op = .call ⟨.builtin .append,#[a,b],#[t,t1]⟩:=by exact rfl)(hu:aQ P t (.slice e):=by infer_instance)(hu1:aQ P t1 (.slice e1):=by infer_instance)(hz:aM P e [.int k 0]:=by infer_instance)(hI:TI P e 1:=by infer_instance)(wn:Wn ops nt al o d:=by exact⟨rfl,rfl,rfl⟩)(ha:af (rg al) a=gJ i n 1:=by exact rfl)(hi:hs[i]? = some (bU e (il k q)):=by exact rfl)(hb:af (rg al) b = .one (.slice j 0 len cap):=by exact rfl)(hj:hs[j]? = some (.cells (il k r) et opn ro):=by exact rfl)(hn:q.length=n:=by first|assumption|exact rfl|(simp only[List.length_append,List.length_cons,List.length_nil];done)|(simp only[List.length_append,List.length_cons,List.length_nil];omega))(hr:r.length=len:=by first|assumption|exact rfl|(simp only[List.length_append,List.length_cons,List.length_nil];done)|(simp only[List.length_append,List.length_cons,List.length_nil];omega))(hm:0<len/\n+len<=2000000000:=by omega)(hN:hs.length=N:=by exact n2)(hbd:Nat.blt N Mem.bound=true:=by exact rfl)(hh:hs.set i .dead++[bU e (il k (q++r))]=hs':=by first|(simp only[List.set_cons_succ,List.set_cons_zero,List.cons_append,List.nil_append];exact rfl)|exact rfl):SK P ops nt L (o::l) al hs K:=
 Pf ho wn.w wn.e wn.l ha hi hb hj hn hr hm hN hbd hh hk
theorem N9{t t1 e e1:TypeId}{a b:Operand}{k:IntKind}{i len n:Nat}{q r:List Int}{et:TypeId}{opn ro:Bool}{N:Nat}{hs':aj}(hr:r.length=n)(hsrc:∀M,a_ M hs->j8 P t1 1 (af (rg al) b) M=some (n,il k r))(h1:n=0->SK P ops nt L l ((d,.one (.slice i 0 len (.exact len)))::al) hs fun bs=>K (⟨true,.none,[]⟩::bs))(h2:0<n->SK P ops nt L l ((d,.one (.slice N 0 (len+n) (.toEnd 1)))::al) hs' fun bs=>K (⟨true,.none,[N]⟩::bs))(ho:o.op = .call ⟨.builtin .append,#[a,b],#[t,t1]⟩:=by exact rfl)(hu:aQ P t (.slice e):=by infer_instance)(hu1:aQ P t1 (.slice e1):=by infer_instance)(hz:aM P e [.int k 0]:=by infer_instance)(hI:TI P e 1:=by infer_instance)(wn:Wn ops nt al o d:=by exact⟨rfl,rfl,rfl⟩)(ha:af (rg al) a = .one (.slice i 0 len (.exact len)):=by exact rfl)(hi:hs[i]? = some (.cells (il k q) et opn ro):=by exact rfl)(hq:q.length=len:=by first|assumption|exact rfl)(hm:len+n<=2000000000:=by omega)(hN:hs.length=N:=by exact n2)(hbd:Nat.blt N Mem.bound=true:=by exact rfl)(hh:hs++[.cells (il k (q++r)) e true false]=hs':=by exact n3):SK P ops nt L (o::l) al hs K:=
 Pe ho wn.w wn.e wn.l ha hi hq hr hsrc hm hN hbd hh h1 h2
theorem TL{t t1 e e1:TypeId}{a b:Operand}{k:IntKind}{j len:Nat}{cap:pr}{q r:List Int}{et:TypeId}{opn:Bool}{hs':aj}(hsrc:∀M,a_ M hs->j8 P t1 1 (af (rg al) b) M=some (len,il k r))(hk:SK P ops nt L l ((d,.one (.int .i64 (len:Nat)))::al) hs' fun bs=>K (⟨true,.none,[j]⟩::bs))(ho:o.op = .call ⟨.builtin .copy,#[a,b],#[t,t1]⟩:=by exact rfl)(hu:aQ P t (.slice e):=by infer_instance)(hu1:aQ P t1 (.slice e1):=by infer_instance)(hse:aH P e 1:=by infer_instance)(wn:Wn ops nt al o d:=by exact⟨rfl,rfl,rfl⟩)(ha:af (rg al) a = .one (.slice j 0 len cap):=by exact rfl)(hj:hs[j]? = some (.cells (il k q) et opn false):=by exact rfl)(hq:q.length=len:=by first|exact List.length_replicate|assumption|exact rfl)(hr:r.length=len:=by first|assumption|exact rfl)(hh:hs.set j (.cells (il k r) et opn false)=hs':=by exact n4):SK P ops nt L (o::l) al hs K:=
 Pn ho wn.w wn.e wn.l ha hj hq hr hsrc hh hk
theorem T5{t e:TypeId}{a b:Operand}{k:IntKind}{kl kc:IntKind}{x y:Int}{n:Nat}{N:Nat}{hs':aj}(hk:SK P ops nt L l ((d,.one (.slice N 0 n (.exact n)))::al) hs' fun bs=>K (⟨true,.none,[N]⟩::bs))(ho:o.op = .makeSlice t a b:=by exact rfl)(hu:aQ P t (.slice e):=by infer_instance)(hz:aM P e [.int k 0]:=by infer_instance)(hI:TI P e 1:=by infer_instance)(wn:Wn ops nt al o d:=by exact⟨rfl,rfl,rfl⟩)(ha:af (rg al) a = .one (.int kl x):=by exact rfl)(hb:af (rg al) b = .one (.int kc y):=by exact rfl)(hx:x=(n:Nat):=by exact rfl)(hy:y=(n:Nat):=by exact rfl)(hn:n<=2000000000:=by first|omega|exact Nat.le_of_ble_eq_true rfl)(hN:hs.length=N:=by exact n2)(hbd:Nat.blt N Mem.bound=true:=by exact rfl)(hh:hs++[.cells (il k (List.replicate n 0)) e false false]=hs':=by exact n3):SK P ops nt L (o::l) al hs K:=
 Pr ho wn.w wn.e wn.l ha hb hx hy hn hN hbd hh hk
theorem Sz{t e:TypeId}{k:IntKind}{n:Nat}{hs':aj}(hk:SK P ops nt L l ((d,.one (.slice n 0 0 (.exact 0)))::al) hs' fun bs=>K (⟨true,.none,[n]⟩::bs))(ho:o.op = .buildSlice t 0 #[]:=by exact rfl)(hu:aQ P t (.slice e):=by infer_instance)(hz:aM P e [.int k 0]:=by infer_instance)(hse:aH P e 1:=by infer_instance)(wn:Wn ops nt al o d:=by exact⟨rfl,rfl,rfl⟩)(hn:hs.length=n:=by exact n2)(hb:Nat.blt n Mem.bound=true:=by exact rfl)(hh:hs++[.cells (il k []) e false false]=hs':=by exact n3):SK P ops nt L (o::l) al hs K:=
 Mx ho wn.w wn.e wn.l hn hb hh hk
theorem SA{t e:TypeId}{y:Operand}{k:IntKind}{z:Int}{n:Nat}{hs':aj}(hk:SK P ops nt L l ((d,.one (.slice n 0 1 (.exact 1)))::al) hs' fun bs=>K (⟨true,.none,[n]⟩::bs))(ho:o.op = .buildSlice t 1 #[(0,y)]:=by exact rfl)(hu:aQ P t (.slice e):=by infer_instance)(hz:aM P e [.int k 0]:=by infer_instance)(hse:aH P e 1:=by infer_instance)(wn:Wn ops nt al o d:=by exact⟨rfl,rfl,rfl⟩)(hy:cQ (af (rg al) y)=some [.int k z]:=by exact rfl)(hn:hs.length=n:=by exact n2)(hb:Nat.blt n Mem.bound=true:=by exact rfl)(hh:hs++[.cells (il k [z]) e false false]=hs':=by exact n3):SK P ops nt L (o::l) al hs K:=
 Mz ho wn.w wn.e wn.l hy hn hb hh hk
theorem wm{α : Type}{enc : α->List XC}{s:Nat}[hE:nH enc s]{t e:TypeId}{y:Operand}{zs:List XC}{a : α}{n:Nat}{hs':aj}(hk:SK P ops nt L l ((d,.one (.slice n 0 1 (.exact 1)))::al) hs' fun bs=>K (⟨true,.none,[n]⟩::bs))(ho:o.op = .buildSlice t 1 #[(0,y)]:=by exact rfl)(hu:aQ P t (.slice e):=by infer_instance)(hz:aM P e zs:=by infer_instance)(hse:aH P e s:=by infer_instance)(hzl:zs.length=s:=by exact rfl)(hsm:s<=16777216:=by exact Nat.le_of_ble_eq_true rfl)(wn:Wn ops nt al o d:=by exact⟨rfl,rfl,rfl⟩)(hy:cQ (af (rg al) y)=some (enc a):=by exact rfl)(hn:hs.length=n:=by exact n2)(hb:Nat.blt n Mem.bound=true:=by exact rfl)(hh:hs++[.cells (fl enc [a]) e false false]=hs':=by exact n3):SK P ops nt L (o::l) al hs K:=
 My ho hzl hsm wn.w wn.e wn.l hy hn hb hh hk
theorem x7{α : Type}{enc : α->List XC}{s:Nat}[hE:nH enc s]{t t1 e e1:TypeId}{a b:Operand}{zs:List XC}{i n j len:Nat}{cap:pr}{q r:List α}{et:TypeId}{opn ro:Bool}{N:Nat}{hs':aj}(hk:SK P ops nt L l ((d,gJ N (n+len) s)::al) hs' fun bs=>K (⟨true,.none,[i,N]⟩::bs))(ho:o.op = .call ⟨.builtin .append,#[a,b],#[t,t1]⟩:=by exact rfl)(hu:aQ P t (.slice e):=by infer_instance)(hu1:aQ P t1 (.slice e1):=by infer_instance)(hz:aM P e zs:=by infer_instance)(hI:TI P e s:=by infer_instance)(hzl:zs.length=s:=by exact rfl)(wn:Wn ops nt al o d:=by exact⟨rfl,rfl,rfl⟩)(ha:af (rg al) a=gJ i n s:=by exact rfl)(hi:hs[i]? = some (bU e (fl enc q)):=by exact rfl)(hb:af (rg al) b = .one (.slice j 0 len cap):=by exact rfl)(hj:hs[j]? = some (.cells (fl enc r) et opn ro):=by exact rfl)(hn:q.length=n:=by first|assumption|exact rfl|(simp only[List.length_append,List.length_cons,List.length_nil];done)|(simp only[List.length_append,List.length_cons,List.length_nil];omega))(hr:r.length=len:=by first|assumption|exact rfl)(hm:0<len/\n+len<=2000000000:=by omega)(hN:hs.length=N:=by exact n2)(hbd:Nat.blt N Mem.bound=true:=by exact rfl)(hh:hs.set i .dead++[bU e (fl enc (q++r))]=hs':=by first|(simp only[List.set_cons_succ,List.set_cons_zero,List.cons_append,List.nil_append];exact rfl)|exact rfl):SK P ops nt L (o::l) al hs K:=
 Pg ho hzl wn.w wn.e wn.l ha hi hb hj hn hr hm hN hbd hh hk
theorem cl{f:FuncId}{vs:List XV}{v:XV}{hs':aj}{ws:List Nat}{g:Operand}{args:Array Operand}{ts:Array TypeId}{c:XC}{caps:List XC}(hk:SK P ops nt (⟨f,vs,hs,v,hs',ws⟩::L) l ((d,v)::al) hs' fun bs=>K (⟨true,.none,ws++mV hs.length hs'.length⟩::bs))(ho:o.op = .call ⟨.value g,args,ts⟩:=by exact rfl)(wn:Wn ops nt al o d:=by exact⟨rfl,rfl,rfl⟩)(hg:af (rg al) g = .one c:=by exact rfl)(hx:zo c=some (f,caps):=by exact rfl)(hcb:eV P f=true:=by kernel_rfl)(ha:args.toList.map (af (rg al))++caps.map .one=vs:=by exact rfl)(hi:aA.Sound P ⟨f,vs,hs,v,hs',ws⟩):SK P ops nt L (o::l) al hs K:=
 ay hi ho wn.w wn.e wn.l hg hx hcb ha hk
theorem Tm{f:FuncId}{vs:List XV}{v:XV}{hs':aj}{ws:List Nat}{g:Operand}{args:Array Operand}{ts:Array TypeId}{c:XC}{caps:List XC}(hk:SK P ops nt (⟨f,vs,hs,v,hs',ws⟩::L) l al hs' fun bs=>K (⟨true,.none,ws++mV hs.length hs'.length⟩::bs))(ho:o.op = .call ⟨.value g,args,ts⟩:=by exact rfl)(hw:aw ops (rg al) o=some true:=by exact rfl)(hd:o.dst = .none:=by exact rfl)(hg:af (rg al) g = .one c:=by exact rfl)(hx:zo c=some (f,caps):=by exact rfl)(hcb:eV P f=true:=by kernel_rfl)(ha:args.toList.map (af (rg al))++caps.map .one=vs:=by exact rfl)(hi:aA.Sound P ⟨f,vs,hs,v,hs',ws⟩):SK P ops nt L (o::l) al hs K:=
 JH hi ho hw hd hg hx hcb ha hk
theorem B0{f:FuncId}{vs:List XV}{b:Bool}{hs':aj}{ws:List Nat}{g:Operand}{args:Array Operand}{ts:Array TypeId}{c:XC}{caps:List XC}(h1:b=true->SK P ops nt (⟨f,vs,hs,.one (.bool b),hs',ws⟩::L) l ((d,.one (.bool true))::al) hs' fun bs=>K (⟨true,.none,ws++mV hs.length hs'.length⟩::bs))(h2:b=false->SK P ops nt (⟨f,vs,hs,.one (.bool b),hs',ws⟩::L) l ((d,.one (.bool false))::al) hs' fun bs=>K (⟨true,.none,ws++mV hs.length hs'.length⟩::bs))(ho:o.op = .call ⟨.value g,args,ts⟩:=by exact rfl)(wn:Wn ops nt al o d:=by exact⟨rfl,rfl,rfl⟩)(hg:af (rg al) g = .one c:=by exact rfl)(hx:zo c=some (f,caps):=by exact rfl)(hcb:eV P f=true:=by kernel_rfl)(ha:args.toList.map (af (rg al))++caps.map .one=vs:=by exact rfl)(hi:aA.Sound P ⟨f,vs,hs,.one (.bool b),hs',ws⟩):SK P ops nt L (o::l) al hs K:=by
 refine ay hi ho wn.w wn.e wn.l hg hx hcb ha ?_
 cases hb:b with
 | true=>rw[hb]at h1;exact h1 rfl
 | false=>rw[hb]at h2;exact h2 rfl
theorem Un{t e:TypeId}{a:Operand}{lo hi:Option Operand}{s:Nat}{i off n p q:Nat}{c:XC}{z w:Int}(hk:∀c',cS c' i (off+p*s) (q-p)->SK P ops nt L l ((d,.one c')::al) hs fun bs=>K (quiet::bs))(ho:o.op = .slice t a lo hi .none:=by exact rfl)(hu:aQ P t (.slice e):=by infer_instance)(hs':aH P e s:=by infer_instance)(wn:Wn ops nt al o d:=by exact⟨rfl,rfl,rfl⟩)(ha:af (rg al) a = .one c:=by exact rfl)(hc:cS c i off n:=by assumption)(hl:qS (lo.map (af (rg al))) 0=some z:=by exact rfl)(hh:qS (hi.map (af (rg al))) (n:Nat)=some w:=by exact rfl)(hp:z=(p:Nat):=by first|exact rfl|omega)(hq:w=(q:Nat):=by first|exact rfl|omega)(hb:p<=q/\q<=n:=by omega):SK P ops nt L (o::l) al hs K:=
 Pv ho wn.w wn.e wn.l ha hc hl hh hp hq hb hk
section
variable {K:cu}
theorem wS{a b:Code}(h:WX P nt nI (.code a) al hs (Qo P nt nI b K)):WX P nt nI (.code (.seq a b)) al hs K:=
 WX.seq h
theorem wA{id:Nat}(h:SK P ops nt [] ops.toList al hs fun _ al' hs'=>K .normal al' hs'):WX P nt nI (.code (.region id ops false)) al hs K:=
 WX.Qz h
theorem wD{id:Nat}(h:SK P ops nt [] ops.toList al hs fun bs al' hs'=>wY (iQ ops.toList) bs=true/\K .normal al' hs')(hP:P.follows .mixedOrders=true:=by kernel_rfl)(hst:da ops nt (iQ ops.toList)=true:=by kernel_rfl):WX P nt nI (.code (.region id ops true)) al hs K:=
 WX.Of hP hst h
theorem wT{c:Operand}{x y:Code}(h:WX P nt nI (.code x) al hs K)(hc:af (rg al) c = .one (.bool true):=by exact rfl):WX P nt nI (.code (.cond c x y)) al hs K:=
 WX.QQ hc h
theorem wF{c:Operand}{x y:Code}(h:WX P nt nI (.code y) al hs K)(hc:af (rg al) c = .one (.bool false):=by exact rfl):WX P nt nI (.code (.cond c x y)) al hs K:=
 WX.QP hc h
theorem wK(h:K .normal al hs):WX P nt nI (.code .skip) al hs K:=
 WX.skip h
theorem wB{id:Nat}{c:Code}(h:WX P nt nI (.code c) al hs (xY id K)):WX P nt nI (.code (.block id c)) al hs K:=
 WX.block h
theorem wE{id:Nat}(h:K (.exit id) al hs):WX P nt nI (.code (.exit id)) al hs K:=
 WX.exit h
theorem wR(h:K .ret al hs):WX P nt nI (.code .ret) al hs K:=
 WX.ret h
end
end Go.Xm
namespace Go.Xm
variable [aq]
theorem nL{α : Type}{a b : α}(h:a=b:=by first|(simp only[List.length_cons,List.length_nil,List.length_append,List.length_set,Nat.reduceAdd,Nat.zero_add];exact rfl)|exact rfl|fail):a=b:=h
theorem nA{α : Type}{a b : α}(h:a=b:=by first|(simp only[bJ,List.set_cons_succ,List.set_cons_zero,List.cons_append,List.nil_append];exact rfl)|exact rfl|fail):a=b:=h
theorem hS{α : Type}{a b : α}(h:a=b:=by first|(simp only[List.set_cons_succ,List.set_cons_zero];exact rfl)|exact rfl|fail):a=b:=h
theorem zG{G G':Prop}(k:G')(h:G'->G:=by intro k;refine qz (qg ?_);first|exact Um k|fail):G:=h k
theorem zA{G G':Prop}(k:G')(h:G'->G:=by intro k;refine qz ?_;first
 |(refine q4 ?_;first|(refine t0 ?_;first|exact T6 k|exact TH k|exact T7 k|fail)|(refine t1 ?_;first|exact TU k|exact TW k|exact TX k|exact ld k|exact Rf k|exact OE k|exact jI k|exact qI k|exact TV k|fail)|(refine t2 ?_;first|exact Uo k|exact Up k|exact Uq k|exact st k|exact nD k|fail)|(refine t3 ?_;first|exact TT k|exact TS k|exact TQ k|exact TR k|fail)|exact fa k|fail)
 |(refine Uh ?_;first|exact ad k|exact sb k|exact ml k|exact qu k|exact re k|exact sr k|exact JO (n:=1) k|exact JO (n:=2) k|exact JO (n:=3) k|exact JO (n:=4) k|exact JO (n:=5) k|exact JO (n:=6) k|exact JO (n:=7) k|exact JO (n:=8) k|exact JO k|exact an 1 k|exact an 2 k|exact an 3 k|exact an 4 k|exact an 5 k|exact an 6 k|exact an 8 k|exact an 7 k|exact xr k|exact Ud k|exact TG k|fail)
 |(refine Ui ?_;first|exact cT k|exact cF k|exact Sy k|exact TO k|exact T9 k|fail)
 |(refine Uj ?_;first|exact Uf k|exact Ue k|exact Ub k|exact ng k|exact cv k|exact Ut k|exact Uu k|exact nl k|fail)
 |(refine Uk ?_;first|(refine Ur ?_;first|exact T1 k|exact TY k|exact TZ k|exact T0 k|fail)|exact T8 k|exact R8 k|exact T3 k|exact T4 k|exact Tv k|exact Qe k|exact x7 k|fail)
 |exact b0 k|exact TJ k|exact bS k|exact bA k|exact bF k|exact Sz k|exact SA k|exact jU k|exact bx k|exact mm k|exact T5 k|fail):G:=h k
theorem Tn{L:List aA}(h:ag L:=by first|exact ag.nil|exact ag.one _|(refine ag.my ?_;(repeat' (first|exact True.intro|refine And.intro ?_ ?_|exact Compat.ne rfl));done)|fail):ag L:=h
theorem zz{G G':Prop}(k:G')(h:G'->G:=by intro k;first|exact zG k|exact zA k|exact bp Tn ⟨by kernel_rfl,k⟩|exact bp Tn k|exact wS k|exact wA k|exact wD k|exact wT k|exact wF k|exact wK k|exact wB k|exact wE k|exact wR k|fail):G:=h k
theorem zx{G:Prop}{A B:Prop}{G1:A->Prop}{G2:B->Prop}(k1:∀a,G1 a)(k2:∀b,G2 b)(h:(∀a,G1 a)->(∀b,G2 b)->G:=by intro k1 k2;first|exact cX k1 k2|fail):G:=h k1 k2
theorem bW{nI:Nat}{al al2:aO}{hs hs2:aj}(τl:List Nat)(nd:Nd τl hs2:=by exact(by first|exact Or.inl (by decide)|exact Or.inr ⟨_,(by repeat' (first|exact gA.nil|apply gA.dead|apply gA.cons)),(by decide)⟩))(hid:(List.range nI).all (fun j=>nth τl j==j)=true:=by exact rfl)(obj:ae (nth τl) hs τl hs2:=by(repeat' (first|exact ae.nil|refine ae.flat rfl ?_|refine ae.cons rfl ?_|refine ae.dead rfl ?_|refine ae.iu rfl rfl rfl rfl ?_|refine ae.cons (by simp only[ak.aC,List.map_cons,List.map_nil,XC.aC,aV];exact rfl) ?_));first|done|fail)(reg:ai (nth τl) al al2:=by(repeat' (first|exact ai.nil|refine ai.flat rfl ?_|refine ai.cons rfl ?_|refine ai.sl rfl (by assumption) rfl ?_|refine ai.lO rfl rfl (by first|rfl|omega|(simp;done)|(simp;omega)) ?_|refine ai.cons (by simp only[XV.aC,List.map_cons,List.map_nil,aV];rfl) ?_));first|done|fail):GoTo nI al hs al2 hs2 τl:=⟨nd,hid,obj,reg⟩
theorem ny{nI:Nat}{al:aO}{hs:aj}(le:Nat.ble nI hs.length=true:=by exact rfl)(bnd:Nat.blt hs.length Mem.bound=true:=by exact rfl)(objs:ax hs.length hs:=by repeat' (first|exact ax.nil|refine ax.flat ?_|refine ax.cons (by first|(simp[ak.bK,XC.ok,aK];done)|simp[ak.bK,XC.ok,aK, *]) ?_))(ir:jQ hs.length al:=by repeat' (first|exact jQ.nil|refine jQ.flat ?_|refine jQ.cons (by first|exact trivial|exact jL (Nat.le_of_ble_eq_true rfl)|exact cS.ok ‹_› (Nat.le_of_ble_eq_true rfl)|(simp[XV.bK,XC.ok,X1.ok];done)|simp[XV.bK,XC.ok,X1.ok,aK]) ?_)):sV nI al hs:=⟨le,bnd,objs,ir⟩
variable {P:Program} {fn:Func} {n:Nat} {e:XE} {al:aO} {hs hs':aj} {v1 v:XV}
theorem kV(τl:List Nat)(hv:v1=v.aC (nth τl))(he:e = .normal\/e = .ret:=by first|exact .inr rfl|exact .inl rfl|fail)(hr:sU P fn al hs v1:=by first|exact fun m hm=>rfl|exact fH.one rfl (.cell rfl rfl (bR rfl) .nil)|exact fH.two rfl (.cell rfl rfl (bR rfl) (.tmp rfl .nil))|exact fH.zero rfl .nil|exact fH.two rfl (by repeat' (first|exact fH.nil|refine fH.tmp rfl ?_|refine fH.cell rfl rfl (bR (by first|rfl|assumption)) ?_))|fail)(hok:v.bK hs'.length:=by first|exact trivial|exact jL (Nat.le_of_ble_eq_true rfl)|exact L5 (aK (Nat.le_of_ble_eq_true rfl)) trivial|exact XV.kE rfl _|(simp[XV.bK,X1.ok,XC.ok];done)|(simp[XV.bK,X1.ok,XC.ok,aK];done)|fail)(nd:Nd τl hs':=by exact(by first|exact Or.inl (by decide)|exact Or.inr ⟨_,(by repeat' (first|exact gA.nil|apply gA.dead|apply gA.cons)),(by decide)⟩))(hid:(List.range n).all (fun j=>nth τl j==j)=true:=by exact rfl)(ho:ae (nth τl) hs τl hs':=by repeat' (first|exact ae.nil|refine ae.flat rfl ?_|refine ae.cons rfl ?_|refine ae.dead rfl ?_|refine ae.cons (by simp only[ak.aC,List.map_cons,List.map_nil,XC.aC,aV];exact rfl) ?_))(hk:ax hs'.length hs':=by repeat' (first|exact ax.nil|refine ax.flat ?_|refine ax.cons (by first|(simp[ak.bK,XC.ok,aK];done)|simp[ak.bK,XC.ok,aK, *]) ?_)):aE P fn n v hs' e al hs:=Im τl he hr hv hok nd hid ho hk
theorem kM{junk:aj}(hv:v1=v)(hk:∀o∈hs',o.bK hs'.length)(he:e = .normal\/e = .ret:=by first|exact .inr rfl|exact .inl rfl|fail)(hr:sU P fn al hs v1:=by first|exact fun m hm=>rfl|exact fH.one rfl (.cell rfl rfl (bR rfl) .nil)|exact fH.two rfl (.cell rfl rfl (bR rfl) (.tmp rfl .nil))|fail)(hok:v.bK hs'.length:=by first|exact trivial|exact jL (Nat.le_of_ble_eq_true rfl)|(simp[XV.bK,X1.ok,XC.ok];done)|fail)(hh:hs=hs'++junk:=by exact rfl):aE P fn n v hs' e al hs:=bQ (junk:=junk) he hr hv hok hh hk
theorem cO{P:Program}{f:FuncId}{fn:Func}{c:Code}{args:List XV}{hs hs':aj}{v:XV}(hf:P.funcs[f]? = some fn)(h:WX P fn.ntmps hs.length (.code c) (mE args 0) hs (aE P fn hs.length v hs'))(hb:fn.body=some c:=by exact rfl)(hn:Nat.ble (fn.ntmps+1) 1000000=true:=by exact rfl)(hl:Nat.ble args.length fn.ntmps=true:=by exact rfl)(hle:Nat.ble hs.length hs'.length=true:=by exact rfl)(hbd:Nat.ble (hs'.length+1) Mem.bound=true:=by exact rfl):bt P f args hs v hs':=
 Fe hf hb (Nat.le_of_ble_eq_true hn) (Nat.le_of_ble_eq_true hl) (Nat.le_of_ble_eq_true hle) (Nat.le_of_ble_eq_true hbd) h
theorem oz{G G':Prop}(k:G')(h:G'->G:=by intro k;first|exact ae.flat rfl k|exact ae.cons rfl k|exact ae.dead rfl k|(refine ae.cons ?_ k;simp only[ak.aC,List.map_cons,List.map_nil,XC.aC,aV];exact rfl)|fail):G:=h k
theorem rz{G G':Prop}(k:G')(h:G'->G:=by intro k;first|exact ai.flat rfl k|exact ai.cons rfl k|(refine ai.lO rfl rfl ?_ k;first|rfl|omega|(simp;done)|(simp;omega))|fail):G:=h k
theorem kz{G G':Prop}(k:G')(h:G'->G:=by intro k;first|exact ax.flat k|(refine ax.cons ?_ k;first|(simp[ak.bK,XC.ok,aK];done)|simp[ak.bK,XC.ok,aK, *])|fail):G:=h k
theorem IU{p:Prop}(h:p):XE.normal=XE.normal/\p:=⟨rfl,h⟩
end Go.Xm
namespace Go.Proofs.YthdciapjllppjaaGreat
open Go.Xm
instance:aQ prog 3 (.int .i64):=⟨Tryz.underlying3⟩
instance:aH prog 3 1:=⟨by kernel_rfl⟩
instance:TI prog 3 1:=⟨by kernel_rfl⟩
instance:cR prog 3:=⟨by kernel_rfl⟩
instance:aM prog 3 ([.int .i64 0]):=⟨by kernel_rfl⟩
instance:aQ prog 4 (.bool):=⟨Tryz.underlying4⟩
instance:aH prog 4 1:=⟨by kernel_rfl⟩
instance:cR prog 4:=⟨by kernel_rfl⟩
instance:aQ prog 5 (.int .u8):=⟨Tryz.underlying5⟩
instance:aH prog 5 1:=⟨by kernel_rfl⟩
instance:TI prog 5 1:=⟨by kernel_rfl⟩
instance:cR prog 5:=⟨by kernel_rfl⟩
instance:aM prog 5 ([.int .u8 0]):=⟨by kernel_rfl⟩
instance:aQ prog 9 (.string):=⟨Tryz.underlying9⟩
instance:aQ prog 22 (.array 64 5):=⟨Tryz.underlying22⟩
instance:aH prog 22 64:=⟨by kernel_rfl⟩
instance:dk prog 22:=⟨by kernel_rfl⟩
instance:aM prog 22 ((ti .u8 64 fun _=>0)):=⟨by kernel_rfl⟩
instance:cC prog 24 [(0,1),(1,64),(65,64)]:=⟨_,Tryz.underlying24,by kernel_rfl⟩
instance:aH prog 24 129:=⟨by kernel_rfl⟩
instance:dk prog 24:=⟨by kernel_rfl⟩
instance:aM prog 24 ([.bool false]++(ti .u8 64 fun _=>0)++(ti .u8 64 fun _=>0)):=⟨by kernel_rfl⟩
instance:bD prog 24 0 4 0:=⟨by kernel_rfl⟩
instance:bD prog 24 1 22 1:=⟨by kernel_rfl⟩
instance:bD prog 24 2 22 65:=⟨by kernel_rfl⟩
instance:cC prog 26 [(0,1),(1,1),(2,129)]:=⟨_,Tryz.underlying26,by kernel_rfl⟩
instance:aH prog 26 131:=⟨by kernel_rfl⟩
instance:dk prog 26:=⟨by kernel_rfl⟩
instance:aM prog 26 ([.int .i64 0,.int .i64 0,.bool false]++(ti .u8 64 fun _=>0)++(ti .u8 64 fun _=>0)):=⟨by kernel_rfl⟩
instance:bD prog 26 0 3 0:=⟨by kernel_rfl⟩
instance:bD prog 26 1 3 1:=⟨by kernel_rfl⟩
instance:bD prog 26 2 24 2:=⟨by kernel_rfl⟩
instance:aQ prog 27 (.slice 84):=⟨Tryz.underlying27⟩
instance:aH prog 27 1:=⟨by kernel_rfl⟩
instance:cR prog 27:=⟨by kernel_rfl⟩
instance:aQ prog 28 (.slice 99):=⟨Tryz.underlying28⟩
instance:aH prog 28 1:=⟨by kernel_rfl⟩
instance:cR prog 28:=⟨by kernel_rfl⟩
instance:cC prog 30 [(0,131),(131,1),(132,1)]:=⟨_,Tryz.underlying30,by kernel_rfl⟩
instance:aH prog 30 133:=⟨by kernel_rfl⟩
instance:dk prog 30:=⟨by kernel_rfl⟩
instance:aM prog 30 ([.int .i64 0,.int .i64 0,.bool false]++(ti .u8 64 fun _=>0)++(ti .u8 64 fun _=>0)++[.nils,.nils]):=⟨by kernel_rfl⟩
instance:bD prog 30 0 26 0:=⟨by kernel_rfl⟩
instance:bD prog 30 1 27 131:=⟨by kernel_rfl⟩
instance:bD prog 30 2 28 132:=⟨by kernel_rfl⟩
instance:aQ prog 31 (.slice 4):=⟨Tryz.underlying31⟩
instance:aQ prog 32 (.slice 5):=⟨Tryz.underlying32⟩
instance:aH prog 32 1:=⟨by kernel_rfl⟩
instance:TI prog 32 1:=⟨by kernel_rfl⟩
instance:cR prog 32:=⟨by kernel_rfl⟩
instance:aM prog 32 ([.nils]):=⟨by kernel_rfl⟩
instance:aQ prog 34 (.slice 87):=⟨Tryz.underlying34⟩
instance:aH prog 34 1:=⟨by kernel_rfl⟩
instance:cR prog 34:=⟨by kernel_rfl⟩
instance:cC prog 36 [(0,131),(131,1)]:=⟨_,Tryz.underlying36,by kernel_rfl⟩
instance:aH prog 36 132:=⟨by kernel_rfl⟩
instance:dk prog 36:=⟨by kernel_rfl⟩
instance:aM prog 36 ([.int .i64 0,.int .i64 0,.bool false]++(ti .u8 64 fun _=>0)++(ti .u8 64 fun _=>0)++[.nils]):=⟨by kernel_rfl⟩
instance:bD prog 36 0 26 0:=⟨by kernel_rfl⟩
instance:bD prog 36 1 34 131:=⟨by kernel_rfl⟩
instance:aQ prog 38 (.slice 32):=⟨Tryz.underlying38⟩
instance:aQ prog 42 (.slice 3):=⟨Tryz.underlying42⟩
instance:aH prog 42 1:=⟨by kernel_rfl⟩
instance:cR prog 42:=⟨by kernel_rfl⟩
instance:aQ prog 43 (.slice 54):=⟨Tryz.underlying43⟩
instance:aH prog 43 1:=⟨by kernel_rfl⟩
instance:cR prog 43:=⟨by kernel_rfl⟩
instance:aH prog 45 135:=⟨by kernel_rfl⟩
instance:dk prog 45:=⟨by kernel_rfl⟩
instance:aM prog 45 ([.int .i64 0,.int .i64 0,.bool false]++(ti .u8 64 fun _=>0)++(ti .u8 64 fun _=>0)++[.bool false,.nils,.int .i64 0,.int .i64 0]):=⟨by kernel_rfl⟩
instance:bD prog 45 0 26 0:=⟨by kernel_rfl⟩
instance:bD prog 45 1 4 131:=⟨by kernel_rfl⟩
instance:bD prog 45 2 43 132:=⟨by kernel_rfl⟩
instance:bD prog 45 3 3 133:=⟨by kernel_rfl⟩
instance:bD prog 45 4 3 134:=⟨by kernel_rfl⟩
instance:cC prog 48 [(0,1),(1,1),(2,1),(3,1)]:=⟨_,Tryz.underlying48,by kernel_rfl⟩
instance:aH prog 48 4:=⟨by kernel_rfl⟩
instance:dk prog 48:=⟨by kernel_rfl⟩
instance:aM prog 48 ([.int .i64 0,.bool false,.bool false,.int .i64 0]):=⟨by kernel_rfl⟩
instance:bD prog 48 0 3 0:=⟨by kernel_rfl⟩
instance:bD prog 48 1 4 1:=⟨by kernel_rfl⟩
instance:bD prog 48 2 4 2:=⟨by kernel_rfl⟩
instance:bD prog 48 3 3 3:=⟨by kernel_rfl⟩
instance:cC prog 50 [(0,4),(4,1),(5,1),(6,1),(7,1)]:=⟨_,Tryz.underlying50,by kernel_rfl⟩
instance:aH prog 50 8:=⟨by kernel_rfl⟩
instance:dk prog 50:=⟨by kernel_rfl⟩
instance:aM prog 50 ([.int .i64 0,.bool false,.bool false,.int .i64 0,.int .i64 0,.int .i64 0,.nils,.nils]):=⟨by kernel_rfl⟩
instance:bD prog 50 0 48 0:=⟨by kernel_rfl⟩
instance:bD prog 50 1 3 4:=⟨by kernel_rfl⟩
instance:bD prog 50 2 3 5:=⟨by kernel_rfl⟩
instance:bD prog 50 3 32 6:=⟨by kernel_rfl⟩
instance:bD prog 50 4 32 7:=⟨by kernel_rfl⟩
instance:cC prog 52 [(0,8),(8,1),(9,1),(10,1)]:=⟨_,Tryz.underlying52,by kernel_rfl⟩
instance:aH prog 52 11:=⟨by kernel_rfl⟩
instance:dk prog 52:=⟨by kernel_rfl⟩
instance:aM prog 52 ([.int .i64 0,.bool false,.bool false,.int .i64 0,.int .i64 0,.int .i64 0,.nils,.nils,.int .i64 0,.bool false,.bool false]):=⟨by kernel_rfl⟩
instance:bD prog 52 0 50 0:=⟨by kernel_rfl⟩
instance:bD prog 52 1 3 8:=⟨by kernel_rfl⟩
instance:bD prog 52 2 4 9:=⟨by kernel_rfl⟩
instance:bD prog 52 3 4 10:=⟨by kernel_rfl⟩
instance:cC prog 54 [(0,11),(11,1)]:=⟨_,Tryz.underlying54,by kernel_rfl⟩
instance:aH prog 54 12:=⟨by kernel_rfl⟩
instance:TI prog 54 12:=⟨by kernel_rfl⟩
instance:dk prog 54:=⟨by kernel_rfl⟩
instance:aM prog 54 ([.int .i64 0,.bool false,.bool false,.int .i64 0,.int .i64 0,.int .i64 0,.nils,.nils,.int .i64 0,.bool false,.bool false,.int .i64 0]):=⟨by kernel_rfl⟩
instance:bD prog 54 0 52 0:=⟨by kernel_rfl⟩
instance:bD prog 54 1 3 11:=⟨by kernel_rfl⟩
instance:aQ prog 79 (.array 2 3):=⟨Tryz.underlying79⟩
instance:aH prog 79 2:=⟨by kernel_rfl⟩
instance:dk prog 79:=⟨by kernel_rfl⟩
instance:aM prog 79 ([.int .i64 0,.int .i64 0]):=⟨by kernel_rfl⟩
instance:cC prog 84 [(0,1),(1,1),(2,1),(3,1)]:=⟨_,Tryz.underlying84,by kernel_rfl⟩
instance:aH prog 84 4:=⟨by kernel_rfl⟩
instance:dk prog 84:=⟨by kernel_rfl⟩
instance:aM prog 84 ([.bool false,.bool false,.int .u8 0,.int .u8 0]):=⟨by kernel_rfl⟩
instance:bD prog 84 0 4 0:=⟨by kernel_rfl⟩
instance:bD prog 84 1 4 1:=⟨by kernel_rfl⟩
instance:bD prog 84 2 5 2:=⟨by kernel_rfl⟩
instance:bD prog 84 3 5 3:=⟨by kernel_rfl⟩
instance:aQ prog 85 (.slice 90):=⟨Tryz.underlying85⟩
instance:aH prog 85 1:=⟨by kernel_rfl⟩
instance:cR prog 85:=⟨by kernel_rfl⟩
instance:aH prog 87 5:=⟨by kernel_rfl⟩
instance:TI prog 87 5:=⟨by kernel_rfl⟩
instance:dk prog 87:=⟨by kernel_rfl⟩
instance:aM prog 87 ([.int .i64 0,.bool false,.bool false,.int .i64 0,.nils]):=⟨by kernel_rfl⟩
instance:bD prog 87 0 48 0:=⟨by kernel_rfl⟩
instance:bD prog 87 1 85 4:=⟨by kernel_rfl⟩
instance:aQ prog 88 (.slice 107):=⟨Tryz.underlying88⟩
instance:aH prog 88 1:=⟨by kernel_rfl⟩
instance:cR prog 88:=⟨by kernel_rfl⟩
instance:cC prog 90 [(0,1),(1,1)]:=⟨_,Tryz.underlying90,by kernel_rfl⟩
instance:aH prog 90 2:=⟨by kernel_rfl⟩
instance:TI prog 90 2:=⟨by kernel_rfl⟩
instance:dk prog 90:=⟨by kernel_rfl⟩
instance:aM prog 90 ([.int .i64 0,.nils]):=⟨by kernel_rfl⟩
instance:bD prog 90 0 3 0:=⟨by kernel_rfl⟩
instance:bD prog 90 1 88 1:=⟨by kernel_rfl⟩
instance:aQ prog 91 (.int .i8):=⟨Tryz.underlying91⟩
instance:aH prog 91 1:=⟨by kernel_rfl⟩
instance:cR prog 91:=⟨by kernel_rfl⟩
instance:aQ prog 92 (.array 4 91):=⟨Tryz.underlying92⟩
instance:aH prog 92 4:=⟨by kernel_rfl⟩
instance:aH prog 94 9:=⟨by kernel_rfl⟩
instance:dk prog 94:=⟨by kernel_rfl⟩
instance:bD prog 94 0 92 0:=⟨by kernel_rfl⟩
instance:bD prog 94 1 92 4:=⟨by kernel_rfl⟩
instance:bD prog 94 2 4 8:=⟨by kernel_rfl⟩
instance:aQ prog 95 (.int .u64):=⟨Tryz.underlying95⟩
instance:aH prog 95 1:=⟨by kernel_rfl⟩
instance:cR prog 95:=⟨by kernel_rfl⟩
instance:aQ prog 96 (.array 6 95):=⟨Tryz.underlying96⟩
instance:aH prog 96 6:=⟨by kernel_rfl⟩
instance:aQ prog 97 (.int .u32):=⟨Tryz.underlying97⟩
instance:aH prog 97 1:=⟨by kernel_rfl⟩
instance:cR prog 97:=⟨by kernel_rfl⟩
instance:cC prog 99 [(0,1),(1,1),(2,9),(11,1),(12,6),(18,1),(19,1)]:=⟨_,Tryz.underlying99,by kernel_rfl⟩
instance:aH prog 99 20:=⟨by kernel_rfl⟩
instance:dk prog 99:=⟨by kernel_rfl⟩
instance:aM prog 99 ([.int .u8 0,.int .u8 0,.int .i8 0,.int .i8 0,.int .i8 0,.int .i8 0,.int .i8 0,.int .i8 0,.int .i8 0,.int .i8 0,.bool false,.bool false,.int .u64 0,.int .u64 0,.int .u64 0,.int .u64 0,.int .u64 0,.int .u64 0,.int .u32 0,.bool false]):=⟨by kernel_rfl⟩
instance:bD prog 99 0 5 0:=⟨by kernel_rfl⟩
instance:bD prog 99 1 5 1:=⟨by kernel_rfl⟩
instance:bD prog 99 2 94 2:=⟨by kernel_rfl⟩
instance:bD prog 99 3 4 11:=⟨by kernel_rfl⟩
instance:bD prog 99 4 96 12:=⟨by kernel_rfl⟩
instance:bD prog 99 5 97 18:=⟨by kernel_rfl⟩
instance:bD prog 99 6 4 19:=⟨by kernel_rfl⟩
instance:aQ prog 100 (.int .u8):=⟨Tryz.underlying100⟩
instance:aH prog 100 1:=⟨by kernel_rfl⟩
instance:cR prog 100:=⟨by kernel_rfl⟩
instance:aH prog 101 1:=⟨by kernel_rfl⟩
instance:TI prog 101 1:=⟨by kernel_rfl⟩
instance:cR prog 101:=⟨by kernel_rfl⟩
instance:aM prog 101 ([.cplx .f64 0 0]):=⟨by kernel_rfl⟩
instance:aQ prog 103 (.array 4 101):=⟨Tryz.underlying103⟩
instance:aH prog 103 4:=⟨by kernel_rfl⟩
instance:dk prog 103:=⟨by kernel_rfl⟩
instance:aM prog 103 ([.cplx .f64 0 0,.cplx .f64 0 0,.cplx .f64 0 0,.cplx .f64 0 0]):=⟨by kernel_rfl⟩
instance:aQ prog 104 (.array 64 3):=⟨Tryz.underlying104⟩
instance:aH prog 104 64:=⟨by kernel_rfl⟩
instance:dk prog 104:=⟨by kernel_rfl⟩
instance:aM prog 104 ((ti .i64 64 fun _=>0)):=⟨by kernel_rfl⟩
instance:aQ prog 105 (.array 6 104):=⟨Tryz.underlying105⟩
instance:aH prog 105 384:=⟨by kernel_rfl⟩
instance:dk prog 105:=⟨by kernel_rfl⟩
instance:cC prog 107 [(0,1),(1,1),(2,4),(6,1),(7,384)]:=⟨_,Tryz.underlying107,by kernel_rfl⟩
instance:aH prog 107 391:=⟨by kernel_rfl⟩
instance:TI prog 107 391:=⟨by kernel_rfl⟩
instance:dk prog 107:=⟨by kernel_rfl⟩
instance:aM prog 107 ([.int .u8 0,.int .i64 0,.cplx .f64 0 0,.cplx .f64 0 0,.cplx .f64 0 0,.cplx .f64 0 0,.bool false]++(ti .i64 384 fun _=>0)):=⟨by kernel_rfl⟩
instance:bD prog 107 0 100 0:=⟨by kernel_rfl⟩
instance:bD prog 107 1 3 1:=⟨by kernel_rfl⟩
instance:bD prog 107 2 103 2:=⟨by kernel_rfl⟩
instance:bD prog 107 3 4 6:=⟨by kernel_rfl⟩
instance:bD prog 107 4 105 7:=⟨by kernel_rfl⟩
instance:aQ prog 110 (.pointer 150):=⟨Tryz.underlying110⟩
instance:aH prog 110 1:=⟨by kernel_rfl⟩
instance:cR prog 110:=⟨by kernel_rfl⟩
instance:aQ prog 122 (.int .u16):=⟨Tryz.underlying122⟩
instance:aQ prog 132 (.pointer 134):=⟨Tryz.underlying132⟩
instance:cC prog 134 [(0,1),(1,1)]:=⟨_,Tryz.underlying134,by kernel_rfl⟩
instance:aH prog 134 2:=⟨by kernel_rfl⟩
instance:aM prog 134 ([.nils,.int .i64 0]):=⟨by kernel_rfl⟩
instance:bD prog 134 0 32 0:=⟨by kernel_rfl⟩
instance:bD prog 134 1 3 1:=⟨by kernel_rfl⟩
instance:aQ prog 137 (.slice 22):=⟨Tryz.underlying137⟩
instance:aQ prog 140 (.int .u64):=⟨Tryz.underlying140⟩
instance:aQ prog 142 (.array 4 3):=⟨Tryz.underlying142⟩
instance:aH prog 142 4:=⟨by kernel_rfl⟩
instance:dk prog 142:=⟨by kernel_rfl⟩
instance:aM prog 142 ([.int .i64 0,.int .i64 0,.int .i64 0,.int .i64 0]):=⟨by kernel_rfl⟩
instance:aQ prog 147 (.pointer 212):=⟨Tryz.underlying147⟩
instance:aH prog 147 1:=⟨by kernel_rfl⟩
instance:cR prog 147:=⟨by kernel_rfl⟩
instance:bD prog 150 0 147 0:=⟨by kernel_rfl⟩
instance:bD prog 150 1 147 1:=⟨by kernel_rfl⟩
instance:bD prog 150 2 147 2:=⟨by kernel_rfl⟩
instance:aQ prog 154 (.pointer 216):=⟨Tryz.underlying154⟩
instance:aH prog 154 1:=⟨by kernel_rfl⟩
instance:cR prog 154:=⟨by kernel_rfl⟩
instance:aQ prog 155 (.pointer 220):=⟨Tryz.underlying155⟩
instance:aH prog 155 1:=⟨by kernel_rfl⟩
instance:cR prog 155:=⟨by kernel_rfl⟩
instance:cC prog 157 [(0,1),(1,4),(5,1),(6,1),(7,1)]:=⟨_,Tryz.underlying157,by kernel_rfl⟩
instance:aM prog 157 ([.nilp,.int .i64 0,.bool false,.bool false,.int .i64 0,.int .i64 0,.nilp,.nilp]):=⟨by kernel_rfl⟩
instance:bD prog 157 0 110 0:=⟨by kernel_rfl⟩
instance:bD prog 157 1 48 1:=⟨by kernel_rfl⟩
instance:bD prog 157 2 3 5:=⟨by kernel_rfl⟩
instance:bD prog 157 3 154 6:=⟨by kernel_rfl⟩
instance:bD prog 157 4 155 7:=⟨by kernel_rfl⟩
instance:aQ prog 161 (.pointer 190):=⟨Tryz.underlying161⟩
instance:cC prog 190 [(0,1),(1,1),(2,1),(3,1)]:=⟨_,Tryz.underlying190,by kernel_rfl⟩
instance:aM prog 190 ([.nils,.int .i64 0,.int .i64 0,.bool false]):=⟨by kernel_rfl⟩
instance:bD prog 190 0 32 0:=⟨by kernel_rfl⟩
instance:bD prog 190 1 3 1:=⟨by kernel_rfl⟩
instance:bD prog 190 2 3 2:=⟨by kernel_rfl⟩
instance:bD prog 190 3 4 3:=⟨by kernel_rfl⟩
instance:aH prog 192 1:=⟨by kernel_rfl⟩
instance:cR prog 192:=⟨by kernel_rfl⟩
instance:aM prog 192 ([.nilp]):=⟨by kernel_rfl⟩
instance:aQ prog 193 (.slice 192):=⟨Tryz.underlying193⟩
instance:aQ prog 209 (.slice 95):=⟨Tryz.underlying209⟩
instance:aH prog 209 1:=⟨by kernel_rfl⟩
instance:cR prog 209:=⟨by kernel_rfl⟩
instance:bD prog 212 0 42 0:=⟨by kernel_rfl⟩
instance:bD prog 212 1 209 1:=⟨by kernel_rfl⟩
instance:aQ prog 214 (.map 3 101):=⟨Tryz.underlying214⟩
instance:aH prog 214 1:=⟨by kernel_rfl⟩
instance:cR prog 214:=⟨by kernel_rfl⟩
instance:cC prog 216 [(0,1),(1,1),(2,1)]:=⟨_,Tryz.underlying216,by kernel_rfl⟩
instance:aM prog 216 ([.int .i64 0,.int .i64 0,.nilm]):=⟨by kernel_rfl⟩
instance:bD prog 216 0 3 0:=⟨by kernel_rfl⟩
instance:bD prog 216 1 3 1:=⟨by kernel_rfl⟩
instance:bD prog 216 2 214 2:=⟨by kernel_rfl⟩
instance:aQ prog 217 (.map 3 242):=⟨Tryz.underlying217⟩
instance:aH prog 217 1:=⟨by kernel_rfl⟩
instance:cR prog 217:=⟨by kernel_rfl⟩
instance:aQ prog 218 (.array 3 217):=⟨Tryz.underlying218⟩
instance:aH prog 218 3:=⟨by kernel_rfl⟩
instance:aM prog 218 ([.nilm,.nilm,.nilm]):=⟨by kernel_rfl⟩
instance:cC prog 220 [(0,1),(1,1),(2,3)]:=⟨_,Tryz.underlying220,by kernel_rfl⟩
instance:aM prog 220 ([.int .i64 0,.int .i64 0,.nilm,.nilm,.nilm]):=⟨by kernel_rfl⟩
instance:bD prog 220 0 3 0:=⟨by kernel_rfl⟩
instance:bD prog 220 1 3 1:=⟨by kernel_rfl⟩
instance:bD prog 220 2 218 2:=⟨by kernel_rfl⟩
instance:aQ prog 226 (.slice 101):=⟨Tryz.underlying226⟩
instance:aQ prog 227 (.array 3 79):=⟨Tryz.underlying227⟩
instance:aM prog 227 ([.int .i64 0,.int .i64 0,.int .i64 0,.int .i64 0,.int .i64 0,.int .i64 0]):=⟨by kernel_rfl⟩
instance:aQ prog 231 (.slice 265):=⟨Tryz.underlying231⟩
instance:aH prog 231 1:=⟨by kernel_rfl⟩
instance:cR prog 231:=⟨by kernel_rfl⟩
instance:aQ prog 232 (.array 6 231):=⟨Tryz.underlying232⟩
instance:aH prog 232 6:=⟨by kernel_rfl⟩
instance:dk prog 232:=⟨by kernel_rfl⟩
instance:aM prog 232 ([.nils,.nils,.nils,.nils,.nils,.nils]):=⟨by kernel_rfl⟩
instance:cC prog 242 [(0,64),(64,1)]:=⟨_,Tryz.underlying242,by kernel_rfl⟩
instance:aH prog 242 65:=⟨by kernel_rfl⟩
instance:dk prog 242:=⟨by kernel_rfl⟩
instance:aM prog 242 ((ti .i64 64 fun _=>0)++[.int .i64 0]):=⟨by kernel_rfl⟩
instance:bD prog 242 0 104 0:=⟨by kernel_rfl⟩
instance:bD prog 242 1 3 64:=⟨by kernel_rfl⟩
instance:aQ prog 251 (.float .f64):=⟨Tryz.underlying251⟩
instance:cC prog 265 [(0,1),(1,1),(2,1)]:=⟨_,Tryz.underlying265,by kernel_rfl⟩
instance:aH prog 265 3:=⟨by kernel_rfl⟩
instance:TI prog 265 3:=⟨by kernel_rfl⟩
instance:dk prog 265:=⟨by kernel_rfl⟩
instance:aM prog 265 ([.int .i64 0,.int .i64 0,.bool false]):=⟨by kernel_rfl⟩
instance:bD prog 265 0 3 0:=⟨by kernel_rfl⟩
instance:bD prog 265 1 3 1:=⟨by kernel_rfl⟩
instance:bD prog 265 2 4 2:=⟨by kernel_rfl⟩
end Go.Proofs.YthdciapjllppjaaGreat
