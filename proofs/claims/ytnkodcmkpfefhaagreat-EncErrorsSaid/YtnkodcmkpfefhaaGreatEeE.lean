/-
  A part of the proof: XvOps, XvPut, XvAuto, XvTac, XvOpen, OpenT.
-/
import Derived.Test.YtnkodcmkpfefhaaGreatEeD
import Derived.Below
import Derived.ChangeOld
import Derived.ChangeSame
import Derived.Deep.Fields
import Derived.Deep.Slices
import Derived.KernelRfl
import Derived.OpenShut
import Derived.ProofKit
import Derived.ShutString
import Derived.WalkKit
set_option maxRecDepth 10000
set_option maxHeartbeats 8000000
set_option linter.unusedVariables false
set_option linter.unusedSectionVars false
set_option linter.unusedSimpArgs false
namespace Go.Xm
variable [aw]
variable {P:Program} {ops:Array Oper} {nt nI:Nat} {al:bc} {hs:ai} {o:Oper} {l:List Oper} {L:List aC} {K:List Ab->bc->ai->Prop} {d:Nat}
class TI (P:Program) (t:TypeId) (s:outParam Nat):Prop where out:(P.info? t).elim false (fun i=>Nat.beq i.size s&&Nat.ble i.bytes 65536)=true
theorem TI.get{P:Program}{t:TypeId}{s:Nat}[h:TI P t s]:∃ti,P.info? t=some ti/\ti.size=s/\ti.bytes<=65536:=by
 have h:=h.out
 cases hi:P.info? t with
 | none=>rw[hi]at h;cases h
 | some ti=>
   rw[hi]at h
   simp only[Option.elim,Bool.and_eq_true]at h
   exact⟨ti,rfl,Nat.eq_of_beq_eq_true h.1,Nat.le_of_ble_eq_true h.2⟩
def sV(k:IntKind)(z:Int):Prop:=match k with
 | .i8 => -128<=z/\z<128
 | .i16 => -32768<=z/\z<32768
 | .i32 => -2147483648<=z/\z<2147483648
 | .i64 => -9223372036854775808<=z/\z<9223372036854775808
 | .u8=>0<=z/\z<256
 | .u16=>0<=z/\z<65536
 | .u32=>0<=z/\z<4294967296
 | .u64=>0<=z/\z<18446744073709551616
theorem gv{k:IntKind}{z:Int}(h:sV k z):k.wrap z=z:=by
 cases k<;>simp only[sV]at h<;>simp only[IntKind.wrap,IntKind.bits,IntKind.signed]<;>simp<;>omega
theorem Jf{k:IntKind}{z:Int}(h:sV k z):z<2^k.bits:=by
 cases k<;>simp only[sV]at h<;>simp only[IntKind.bits]<;>omega
theorem He{k:IntKind}{z w:Int}(h:sV k z)(h0:0<=w)(h1:w<=z):sV k w:=by
 cases k<;>simp only[sV]at h ⊢<;>omega
theorem BJ{k:IntKind}{z:Int}(h0:0<=z)(h1:z<2^(k.bits-1)):sV k z:=by
 cases k<;>simp only[sV,IntKind.bits]at h1 ⊢<;>omega
theorem MM{k:IntKind}{x y:Int}(hk:sV k x)(hx:0<=x)(hy:0<y):bU .quo k k x y=some (.int k (x/y)):=by
 have h0:y≠0:=by omega
 have h1:x.tdiv y=x/y:=Int.tdiv_eq_ediv_of_nonneg hx
 have h2:0<=x/y:=Int.ediv_nonneg hx (by omega)
 have h3:x/y<=x:=Int.ediv_le_self _ hx
 simp only[bU,dL,if_true,h0,if_false,cz,h1,gv (He hk h2 h3)]
theorem MR{k k':IntKind}{x y:Int}(hk:sV k x)(hx:0<=x)(hy:0<=y):bU .shr k k' x y=some (.int k (x/2^y.toNat)):=by
 have h0:¬y<0:=by omega
 simp only[bU,h0,if_false,rS]
 have hp:∀n:Nat,(0:Int)<2^n:=fun n=>Int.pow_pos (by omega)
 rw[Int.fdiv_eq_ediv_of_nonneg _ (Int.le_of_lt (hp _))]
 by_cases h:y.toNat<=k.bits
 ·rw[Nat.min_eq_left h]
 ·have h':k.bits<=y.toNat:=by omega
  rw[Nat.min_eq_right h']
  have hlt:=Jf hk
  have e1:x/2^k.bits=0:=Int.ediv_eq_zero_of_lt hx hlt
  have e2:x/2^y.toNat=0:=by
   refine Int.ediv_eq_zero_of_lt hx (Int.lt_of_lt_of_le hlt ?_)
   exact_mod_cast Nat.pow_le_pow_right (by omega) h'
  rw[e1,e2]
theorem MQ{k k':IntKind}{x y:Int}{n:Nat}(hn:y=(n:Nat))(hb:n<=k.bits)(h:sV k (x*2^n)):bU .shl k k' x y=some (.int k (x*2^n)):=by
 subst hn
 have h0:¬((n:Nat):Int)<0:=by omega
 simp only[bU,h0,if_false,rS,Int.toNat_natCast,Nat.min_eq_left hb,cz,gv h]
theorem Mf{k:IntKind}{x y:Int}(n:Nat)(hy:y=2^n-1)(hn:n<k.bits):bU .and k k x y=some (.int k (x%2^n)):=by
 have hp:(0:Int)<2^n:=Int.pow_pos (by omega)
 have hle:(2:Int)^n<=2^k.bits:=by exact_mod_cast Nat.pow_le_pow_right (by omega) (by omega)
 have hle1:(2:Int)^n<=2^(k.bits-1):=by exact_mod_cast Nat.pow_le_pow_right (by omega) (by omega)
 have hm0:=Int.emod_nonneg x (show(2:Int)^n≠0 by omega)
 have hm1:=Int.emod_lt_of_pos x hp
 have key:(((BitVec.ofInt k.bits x &&& BitVec.ofInt k.bits y).toNat:Nat):Int)=x%2^n:=by
  rw[BitVec.toNat_and,BitVec.toNat_ofInt,BitVec.toNat_ofInt]
  have e1:(y%((2^k.bits:Nat):Int)).toNat=2^n-1:=by
   have e:y%((2^k.bits:Nat):Int)=y:=Int.emod_eq_of_lt (by omega) (by push_cast;omega)
   rw[e,hy]
   have:((2^n:Nat):Int)=2^n:=by push_cast;rfl
   omega
  rw[e1,Nat.and_two_pow_sub_one_eq_mod]
  push_cast
  rw[Int.toNat_of_nonneg (Int.emod_nonneg _ (by have:(0:Int)<2^k.bits:=Int.pow_pos (by omega);omega))]
  exact Int.emod_emod_of_dvd x ⟨2^(k.bits-n),by rw[<-Int.pow_add];congr 1;omega⟩
 simp only[bU,dL,if_true,cz]
 rw[key,gv (BJ hm0 (by omega))]
def Gp(k:IntKind)(x y:Int):Int:=k.wrap ((BitVec.ofInt k.bits x ||| BitVec.ofInt k.bits y).toNat)
def G_(k:IntKind)(x y:Int):Int:=k.wrap ((BitVec.ofInt k.bits x &&& BitVec.ofInt k.bits y).toNat)
def Bl(op:BinOp)(x y:Int):Option Prop:=match op with
 | .eql=>some (x=y)
 | .neq=>some (x≠y)
 | .lss=>some (x<y)
 | .leq=>some (x<=y)
 | .gtr=>some (y<x)
 | .geq=>some (y<=x)
 | _ => .none
theorem z6{op:BinOp}{k:IntKind}{x y:Int}{p:Prop}(hp:Bl op x y=some p):(p->bU op k k x y=some (.bool true))/\(¬p->bU op k k x y=some (.bool false)):=by
 cases op<;>simp only[Bl]at hp<;>first|(cases hp;done)|(cases hp;constructor<;>intro h<;>simp_all [bU,dL])
theorem y7{t t':TypeId}{a b:Operand}{op:BinOp}{k:IntKind}{x y:Int}{p:Prop}(ho:o.op = .binOp op t a b t')(hw:av ops (rg al) o=some true)(hd:o.dst=some d)(hlt:Nat.blt d nt=true)(ha:ag (rg al) a = .one (.int k x))(hb:ag (rg al) b = .one (.int k y))(hp:Bl op x y=some p)
 (h1:p->SK P ops nt L l ((d,.one (.bool true))::al) hs fun bs=>K (quiet::bs)) (h2:¬p->SK P ops nt L l ((d,.one (.bool false))::al) hs fun bs=>K (quiet::bs)):SK P ops nt L (o::l) al hs K:=by
 by_cases h:p
 ·exact SK.lift hd hlt (fun _=>aH.bin hw ho ha hb ((z6 hp).1 h)) (h1 h)
 ·exact SK.lift hd hlt (fun _=>aH.bin hw ho ha hb ((z6 hp).2 h)) (h2 h)
def gS(c:XC)(i off n:Nat):Prop:=(n=0/\(c = .nils\/∃o cap,c = .slice i o 0 (.exact cap)))\/∃cap,n<=cap/\c = .slice i off n (.exact cap)
theorem gS.nil{i off:Nat}:gS .nils i off 0 := .inl ⟨rfl,.inl rfl⟩
theorem gS.mk{i off n cap:Nat}(h:n<=cap):gS (.slice i off n (.exact cap)) i off n := .inr ⟨cap,h,rfl⟩
theorem gS.same{c:XC}{i off n i' off' n':Nat}(h:gS c i off n)(h':gS c i' off' n'):n=n'/\(n=0\/(off=off'/\i=i')):=by
 rcases h with⟨rfl,rfl|⟨o,cap,rfl⟩⟩|⟨cap,h1,rfl⟩
 ·rcases h' with⟨rfl,_⟩|⟨cap,h1,e⟩
  ·exact⟨rfl,.inl rfl⟩
  ·cases e
 ·rcases h' with⟨rfl,_⟩|⟨cap',h1,e⟩
  ·exact⟨rfl,.inl rfl⟩
  ·cases e;exact⟨rfl,.inl rfl⟩
 ·rcases h' with⟨rfl,e|⟨o,cap,e⟩⟩|⟨cap',h1,e⟩
  ·cases e
  ·cases e;exact⟨rfl,.inl rfl⟩
  ·cases e;exact⟨rfl,.inr ⟨rfl,rfl⟩⟩
theorem gS.ok{c:XC}{i off n m:Nat}(h:gS c i off n)(hi:i<m):c.ok m:=by
 rcases h with⟨_,rfl|⟨o,cap,rfl⟩⟩|⟨cap,_,rfl⟩
 ·trivial
 ·exact hi
 ·exact hi
theorem gS.ax{c:XC}{i off n:Nat}(h:gS c i off n)(τ : Nat->Nat):gS (c.ax τ) (τ i) off n:=by
 rcases h with⟨rfl,rfl|⟨o,cap,rfl⟩⟩|⟨cap,h1,rfl⟩
 ·exact .inl ⟨rfl,.inl rfl⟩
 ·exact .inl ⟨rfl,.inr ⟨o,cap,rfl⟩⟩
 ·exact .inr ⟨cap,h1,rfl⟩
theorem gS.id{c:XC}{i off n:Nat}(h:gS c i off n){τ : Nat->Nat}(hi : τ i=i):c.ax τ = c:=by
 rcases h with⟨rfl,rfl|⟨o,cap,rfl⟩⟩|⟨cap,h1,rfl⟩
 ·rfl
 ·simp only[XC.ax,hi]
 ·simp only[XC.ax,hi]
theorem ak.sl{τ : Nat->Nat}{al:bc}{t:Nat}{c:XC}{r:bc}{i off n:Nat}(h:rg al t = .one c)(hs:gS c i off n)(hi : τ i=i)(hr:ak τ al r):ak τ al ((t,.one c)::r):=
 .cons (by simp only[XV.ax,hs.id hi];exact h) hr
theorem ak.gL{τ : Nat->Nat}{al:bc}{t k k' n n' sz:Nat}{r:bc}(h:rg al t=kA k' n' sz)(hk : τ k=k')(hn:n'=n)(hr:ak τ al r):ak τ al ((t,kA k n sz)::r):=
 .cons (by rw[ic,hk,<-hn];exact h) hr
theorem HQ{a:Operand}{t elem:TypeId}(ho:o.op = .call ⟨.builtin .len,#[a],#[t]⟩)(hw:av ops (rg al) o=some true)(hd:o.dst=some d)(hlt:Nat.blt d nt=true){c:XC}(ha:ag (rg al) a = .one c)[hu:aZ P t (.slice elem)]{i off n:Nat}(hc:gS c i off n)
 (hk:SK P ops nt L l ((d,.one (.int .i64 (n:Nat)))::al) hs fun bs=>K (quiet::bs)):SK P ops nt L (o::l) al hs K:=by
 rcases hc with⟨rfl,rfl|⟨o,cap,rfl⟩⟩|⟨cap,_,rfl⟩
 all_goals exact SK.lift hd hlt (fun _=>aH.pure hw (by rw[ho];simp[ba,dW,ha,xy,hu.out])) hk
theorem HR{a:Operand}{t elem:TypeId}(ho:o.op = .call ⟨.builtin .len,#[a],#[t]⟩)(hw:av ops (rg al) o=some true)(hd:o.dst=some d)(hlt:Nat.blt d nt=true){i n sz:Nat}(ha:ag (rg al) a=kA i n sz)[hu:aZ P t (.slice elem)]
 (hk:SK P ops nt L l ((d,.one (.int .i64 (n:Nat)))::al) hs fun bs=>K (quiet::bs)):SK P ops nt L (o::l) al hs K:=by
 unfold kA jx at ha
 split at ha
 ·rename_i h
  subst h
  exact SK.lift hd hlt (fun _=>aH.pure hw (by rw[ho];simp[ba,dW,ha,xy,hu.out])) hk
 ·exact SK.lift hd hlt (fun _=>aH.pure hw (by rw[ho];simp[ba,dW,ha,xy,hu.out])) hk
theorem HO{t:TypeId}{a b:Operand}{elem:TypeId}{s:Nat}(ho:o.op = .indexAddr t a b)(hw:av ops (rg al) o=some true)(hd:o.dst=some d)(hlt:Nat.blt d nt=true){c:XC}(ha:ag (rg al) a = .one c){k:IntKind}{z:Int}(hb:ag (rg al) b = .one (.int k z))[hu:aZ P t (.slice elem)][hs':aO P elem s]{i off n:Nat}(hc:gS c i off n)(hz:0<=z/\z<n)
 {p:Nat}(hp:off+z.toNat*s=p) (hk:SK P ops nt L l ((d,.one (.ptr i p))::al) hs fun bs=>K (quiet::bs)):SK P ops nt L (o::l) al hs K:=by
 rcases hc with⟨rfl,_⟩|⟨cap,_,rfl⟩
 ·omega
 ·exact SK.lift hd hlt (fun _=>aH.pure hw (by rw[ho];simp only[ba,bY,ha,hb,hu.out,hs'.out,if_pos hz,Option.map_some,hp])) hk
theorem JP{zs:List XC}{t e:TypeId}{y:Operand}(ho:o.op = .buildSlice t 1 #[(0,y)])[hu:aZ P t (.slice e)][hz:aX P e zs][hse:aO P e 1](hzl:zs.length=1)(hw:av ops (rg al) o=some true)(hd:o.dst=some d)(hlt:Nat.blt d nt=true){c:XC}(hy:cu (ag (rg al) y)=some [c]){n:Nat}(hn:hs.length=n)(hb:Nat.blt n Mem.bound=true){hs':ai}(hh:hs++[.cells [c] e false false]=hs')
 (hk:SK P ops nt L l ((d,.one (.slice n 0 1 (.exact 1)))::al) hs' fun bs=>K (⟨true,.none,[n]⟩::bs)):SK P ops nt L (o::l) al hs K:=by
 subst hn hh
 refine SK.lift hd hlt (fun _=>?_) hk
 intro m hm
 obtain⟨m',h1,h2,h3⟩:=hm.push (.cells [c] e false false) (by simpa [Nat.blt_eq]using hb)
 refine⟨m',?_,h2,h3⟩
 unfold iP
 rw[hw]
 refine cj (by rw[ho];rfl) (by rw[ho];rfl) (by rw[ho];rfl) ?_
 rw[ho]
 have hf:fL (fun i=>some (i*1,1)) (dv zs (1*1)) [(0,ag (rg al) y)]=some [c]:=by
  simp[fL,hy,dv]
 simp only[bV,dH,dO,hu.out,hse.out,hz.out,List.map_cons,List.map_nil,hzl,h1,hm.n,hf]
 simp
theorem Cy{t:TypeId}{parts:Array (Nat×Operand)}(ho:o.op = .build t parts){zs:List XC}[hz:aX P t zs]{pl:List (Nat×Nat)}[hp:cn P t pl](hw:av ops (rg al) o=some true)(hd:o.dst=some d)(hlt:Nat.blt d nt=true)
 {out:List XC}(hc:fL (fun i=>pl[i]?) zs (parts.toList.map fun p=>(p.1,ag (rg al) p.2))=some out)
 (hk:SK P ops nt L l ((d,.agg out)::al) hs fun bs=>K (quiet::bs)):SK P ops nt L (o::l) al hs K:=by
 obtain⟨fs,h1,h2⟩:=hp.out
 exact SK.lift hd hlt (fun _=>aH.pure hw (by rw[ho];simp only[ba,mg,hz.out,h1,h2,hc,Option.map_some])) hk
theorem y5{t t1 e:TypeId}{sz m:Nat}{a b:Operand}(ho:o.op = .call ⟨.builtin .append,#[a,b],#[t,t1]⟩){zs:List XC}[hu:aZ P t (.slice e)][hz:aX P e zs][hI:TI P e sz](hw:av ops (rg al) o=some true)(hd:o.dst=some d)(hlt:Nat.blt d nt=true)
 (hsz:zs.length=sz/\0<sz) {i n:Nat} {cs ds:List XC}(ha:ag (rg al) a=kA i n sz) (hi:hs[i]? = some (dG e cs)) (hn:cs.length=n*sz) (hsrc:∀M,bj M hs->oQ P t1 sz (ag (rg al) b) M=some (m,ds)) (hm:0<m/\n+m<=2000000000)
 {N:Nat}(hN:hs.length=N) (hb:Nat.blt N Mem.bound=true) {hs':ai}(hh:hs.set i .dead++[.cells (cs++ds) e true false]=hs')
 (hk:SK P ops nt L l ((d,.one (.slice N 0 (n+m) (.toEnd sz)))::al) hs' fun bs=>K (⟨true,.none,[i,N]⟩::bs)):SK P ops nt L (o::l) al hs K:=by
 subst hN hh
 obtain⟨ti,hti,rfl,hby⟩:=hI.get
 obtain⟨z1,z2⟩:=hsz
 have hbytes:(n+m)*ti.bytes<=140737488355328:=Nat.le_trans (Nat.mul_le_mul_left _ hby) (by omega)
 have hsmall:hs.length<Mem.bound:=by simpa [Nat.blt_eq]using hb
 refine SK.lift hd hlt (fun _=>?_) hk
 intro M hM
 have hx:=hsrc M hM
 by_cases h0:n=0
 ·subst h0
  have hcs:cs = []:=List.length_eq_zero_iff.1 (by simpa using hn)
  subst hcs
  have hdead:hs.set i .dead=hs:=by
   apply List.ext_getElem?
   intro j
   by_cases hj:i=j
   ·subst hj
    rw[hi,List.getElem?_set_self (List.getElem?_eq_some_iff.1 hi).1]
    rfl
   ·rw[List.getElem?_set_ne hj]
  rw[hdead]
  obtain⟨m',h1,h2,h3⟩:=hM.push (.cells ds e true false) hsmall
  refine⟨m',?_,by simpa using h2,fun j hj=>h3 j (by simp at hj ⊢;exact hj.2)⟩
  unfold iP
  rw[hw]
  refine cj (by rw[ho];rfl) (by rw[ho];rfl) (by rw[ho];rfl) ?_
  rw[ho]
  have hm0:¬m=0:=by omega
  have hb1:m<=9223372036854775807/\m*ti.bytes<=140737488355328:=⟨by omega,by simpa using hbytes⟩
  have ha':ag (rg al) a = .one .nils:=ha
  simp only[bV,iY,dO,hu.out,hti,hz.out,ha',hx,hm0,if_false,List.getElem?_toArray,List.getElem?_cons_zero,List.getElem?_cons_succ]
  rw[if_pos ⟨z1,z2⟩]
  simp only[hb1,and_self,if_true,h1,hM.n,Nat.zero_add]
 ·have hcs:cs≠[]:=fun h=>by
   subst h
   have:n*ti.size=0:=by simpa using hn.symm
   rcases Nat.mul_eq_zero.1 this with h|h<;>omega
  rw[iW hcs]at hi
  rw[oC h0]at ha
  have hput:=hM.put hi .dead
  obtain⟨m',h1,h2,h3⟩:=hput.push (.cells (cs++ds) e true false) (by rw[List.length_set];exact hsmall)
  refine⟨m',?_,h2,fun j hj=>?_⟩
  ·unfold iP
   rw[hw]
   refine cj (by rw[ho];rfl) (by rw[ho];rfl) (by rw[ho];rfl) ?_
   rw[ho]
   have hm0:¬m=0:=by omega
   have hb1:True/\n+m<=9223372036854775807/\(n+m)*ti.bytes<=140737488355328:=⟨trivial,by omega,hbytes⟩
   simp only[bV,iY,dO,hu.out,hti,hz.out,ha,hx,hm0,if_false,List.getElem?_toArray,List.getElem?_cons_zero,List.getElem?_cons_succ]
   rw[if_pos ⟨z1,z2⟩]
   simp only[hM.at hi]
   rw[if_pos hb1,if_pos ⟨trivial,hn,trivial,trivial⟩]
   simp only[h1,hM.n]
  ·simp only[List.mem_cons,List.not_mem_nil,or_false,not_or]at hj
   rw[h3 j (by rw[List.length_set];simpa using hj.2),uN j (by simpa using hj.1)]
end Go.Xm
namespace Go.Xm
variable [aw]
variable {P:Program}
theorem ae.view{ls:List Nat}{HS hs:ai}(nd:Nd ls hs)(ho:ae (nth ls) HS ls hs)(hk:ay hs.length hs):View (nth ls) HS hs:=by
 obtain⟨hlen,hobj⟩:=ho.at
 refine⟨fun j hj=>?_,fun i j a b hi hj ha hb hij=>nd.inj hlen i j a b hi hj ha hb hij,fun j o hj=>hk.at o (List.mem_of_getElem? hj),fun j o hj=>(hobj j o hj).2⟩
 exact(hobj j _ (List.getElem?_eq_getElem hj)).1
inductive gj(n:Nat):List XV->Prop where
 | nil:gj n []
 | flat {v:XV} {l:List XV} [bh v]:gj n l->gj n (v::l)
 | cons {v:XV} {l:List XV}:v.bl n->gj n l->gj n (v::l)
theorem gj.at{n:Nat}{l:List XV}(h:gj n l):∀x∈l,x.bl n:=by
 induction h with
 | nil=>intro o h;cases h
 | @flat o hs inst _ ih=>
   intro x hx
   rcases List.mem_cons.1 hx with rfl|hx
   ·exact inst.ok n
   ·exact ih x hx
 | cons h1 _ ih=>
   intro x hx
   rcases List.mem_cons.1 hx with rfl|hx
   ·exact h1
   ·exact ih x hx
inductive eD(τ : Nat->Nat):List XV->List XV->Prop where
 | nil:eD τ [] []
 | flat {v:XV} {l m:List XV} [bh v]:eD τ l m->eD τ (v::l) (v::m)
 | cons {v w:XV} {l m:List XV}:v.ax τ = w->eD τ l m->eD τ (v::l) (w::m)
theorem eD.eq{τ : Nat->Nat}{l m:List XV}(h:eD τ l m):l.map (·.ax τ)=m:=by
 induction h with
 | nil=>rfl
 | @flat v l m inst _ ih=>simp only[List.map_cons,ih,inst.ax]
 | cons h _ ih=>simp only[List.map_cons,ih,h]
inductive jS(τ : Nat->Nat)(HS:ai):List Nat->ai->Prop where
 | nil:jS τ HS [] []
 | flat {i:Nat} {o:ah} {l:List Nat} {hs:ai} [aR o]:HS[i]? = some o->jS τ HS l hs->jS τ HS (i::l) (o::hs)
 | cons {i:Nat} {o:ah} {l:List Nat} {hs:ai}:HS[i]? = some (o.ax τ)->jS τ HS l hs->jS τ HS (i::l) (o::hs)
theorem jS.via{τ : Nat->Nat}{HS:ai}{l:List Nat}{hs:ai}(h:jS τ HS l hs):ae τ HS l hs:=by
 induction h with
 | nil=>exact .nil
 | flat h1 _ ih=>exact .flat h1 ih
 | cons h1 _ ih=>exact .cons h1 ih
theorem jS.at{τ : Nat->Nat}{HS:ai}{l:List Nat}{hs:ai}(h:jS τ HS l hs):∀(j:Nat) (o:ah),hs[j]? = some o->HS[nth l j]? = some (o.ax τ):=by
 induction h with
 | nil=>intro j o h;simp at h
 | @flat i o l hs inst h1 _ ih=>
   intro j o' hj
   cases j with
   | zero=>simp at hj;subst hj;rw[inst.ax];exact h1
   | succ j=>exact ih j o' (by simpa using hj)
 | cons h1 _ ih=>
   intro j o' hj
   cases j with
   | zero=>simp at hj;subst hj;exact h1
   | succ j=>exact ih j o' (by simpa using hj)
theorem eE{f:FuncId}{args0 args:List XV}{hs0 HS:ai}{v v':XV}(ls:List Nat)(hc:aW P f args0 hs0 v hs0)(nd:ls.Nodup)(ho:jS (nth ls) HS ls hs0)(hk:ay hs0.length hs0)(ha:gj hs0.length args0)(e1:eD (nth ls) args0 args)(hv:v.bl hs0.length)(e2:v.ax (nth ls)=v')(hb:Nat.blt HS.length Mem.bound=true)(hb0:Nat.blt hs0.length Mem.bound=true) :
 aC.Sound P ⟨f,args,HS,v',HS,[]⟩:=by
 obtain⟨hlen,_⟩:=ho.via.at
 have hat:=ho.at
 have kc:∀c:XC,c.ok hs0.length->c.ax (beyond (nth ls) hs0.length HS.length)=c.ax (nth ls):=by
  intro c
  induction c with
  | ptr i off=>exact fun h=>by simp only[XC.ax,beyond];rw[if_pos (show i<hs0.length from h)]
  | slice i off len cap=>exact fun h=>by simp only[XC.ax,beyond];rw[if_pos (show i<hs0.length from h)]
  | map i=>exact fun h=>by simp only[XC.ax,beyond];rw[if_pos (show i<hs0.length from h)]
  | bind g c ih1 ih2=>exact fun h=>by simp only[XC.ax,ih1 h.1,ih2 h.2]
  | _=>intro _;rfl
 have kcs:∀cs:List XC,(∀c∈cs,c.ok hs0.length)->cs.map (·.ax (beyond (nth ls) hs0.length HS.length))=cs.map (·.ax (nth ls)):=fun cs h=>List.map_congr_left fun c hc=>kc c (h c hc)
 have k1:∀x:X1,x.ok hs0.length->x.ax (beyond (nth ls) hs0.length HS.length)=x.ax (nth ls):=fun x h=>by
  cases x with
  | one c=>simp only[X1.ax,kc c h]
  | agg cs=>simp only[X1.ax,kcs cs h]
 have kv:∀x:XV,x.bl hs0.length->x.ax (beyond (nth ls) hs0.length HS.length)=x.ax (nth ls):=fun x h=>by
  cases x with
  | undef=>rfl
  | one c=>simp only[XV.ax,kc c h]
  | agg cs=>simp only[XV.ax,kcs cs h]
  | tup xs=>simp only[XV.ax];rw[List.map_congr_left fun c hc=>k1 c (h c hc)]
 have ko:∀x:ah,x.bl hs0.length->x.ax (beyond (nth ls) hs0.length HS.length)=x.ax (nth ls):=fun x h=>by
  cases x with
  | dead=>rfl
  | cells vs e a b=>simp only[ah.ax,kcs vs h]
  | map es=>simp only[ah.ax];rw[List.map_congr_left fun p hp=>by rw[k1 _ (h p hp).1,k1 _ (h p hp).2]]
 refine oo hc (Nat.le_refl _) (ho.via.view (.inl nd) hk) ha.at e1.eq ((kv v hv).trans e2) ⟨by simp,fun j o h=>?_,fun i hi _=>rfl⟩ (fun j o h hl _=>⟨o,h,hl⟩) (fun i hi _=>rfl) hb hb0
 have hj:j<hs0.length:=(List.getElem?_eq_some_iff.1 h).1
 rw[ko o (hk.at o (List.mem_of_getElem? h)),show beyond (nth ls) hs0.length HS.length j=nth ls j from if_pos hj]
 exact hat j o h
structure RO(o:ah)(k:IntKind)(l:List Int):Prop where
 get:0<l.length->∃e opn ro,o = .cells (il k l) e opn ro
 flat:aR o
theorem RO.of(k:IntKind)(l:List Int)(e:TypeId)(opn ro:Bool):RO (.cells (il k l) e opn ro) k l:=⟨fun _=>⟨e,opn,ro,rfl⟩,inferInstance⟩
def bQ(HS:ai):List Nat->ai->ai
 | i::ls,o::os=>bQ (HS.set i o) ls os
 | [],os=>HS++os
 | _::_,[]=>HS
theorem oz:∀(ls:List Nat) (HS os:ai),ls.length<=os.length->(bQ HS ls os).length=HS.length+(os.length-ls.length)
 | [],HS,os,_=>by simp[bQ]
 | i::ls,HS,o::os,h=>by
   simp only[bQ,List.length_cons]at h ⊢
   rw[oz ls _ os (by omega),List.length_set];omega
 | _::_,_,[],h=>by simp at h
theorem ky:∀(ls:List Nat) (HS os:ai) (i:Nat),i<HS.length->i∉ls->(bQ HS ls os)[i]? = HS[i]?
 | [],HS,os,i,hi,_=>by simp only[bQ];exact List.getElem?_append_left hi
 | k::ls,HS,o::os,i,hi,h=>by
   simp only[List.mem_cons,not_or]at h
   simp only[bQ]
   rw[ky ls _ os i (by rw[List.length_set];exact hi) h.2,List.getElem?_set_ne (Ne.symm h.1)]
 | _::_,_,[],i,hi,_=>rfl
theorem wX:∀(ls:List Nat) (HS os:ai) (j:Nat),ls.length<=j->j<os.length->(bQ HS ls os)[HS.length+(j-ls.length)]? = os[j]?
 | [],HS,os,j,_,hj=>by
   simp only[bQ,List.length_nil,Nat.sub_zero]
   rw[List.getElem?_append_right (by omega)];congr 1;omega
 | k :: ls,HS,o::os,j,h,hj=>by
   cases j with
   | zero=>simp at h
   | succ j=>
     simp only[List.length_cons]at h hj
     have:=wX ls (HS.set k o) os j (by omega) (by omega)
     rw[List.length_set]at this
     simp only[bQ,List.length_cons,List.getElem?_cons_succ]
     rw[<-this];congr 1;omega
 | _::_,_,[],j,_,hj=>by simp at hj
theorem As:∀(ls:List Nat) (HS os:ai),ls.Nodup->(∀i∈ls,i<HS.length)->∀(j:Nat),j<ls.length->j<os.length->(bQ HS ls os)[nth ls j]? = os[j]?
 | [],_,_,_,_,j,hj,_=>by simp at hj
 | k :: ls,HS,o::os,nd,hi,j,hj,ho=>by
   have hk:k∉ls:=(List.nodup_cons.1 nd).1
   have nd':=(List.nodup_cons.1 nd).2
   have hi':∀i∈ls,i<(HS.set k o).length:=fun i h=>by rw[List.length_set];exact hi i (List.mem_cons_of_mem _ h)
   simp only[bQ]
   cases j with
   | zero=>
     show(bQ (HS.set k o) ls os)[k]? = some o
     rw[ky ls _ os k (by rw[List.length_set];exact hi k (List.mem_cons_self ..)) hk,List.getElem?_set_self (hi k (List.mem_cons_self ..))]
   | succ j=>
     simp only[List.length_cons]at hj ho
     exact As ls _ os nd' hi' j (by omega) (by omega)
 | _::_,_,[],_,_,j,_,ho=>by simp at ho
inductive dC(τ : Nat->Nat):ai->ai->Prop where
 | nil:dC τ [] []
 | flat {o:ah} {l m:ai} [aR o]:dC τ l m->dC τ (o::l) (o::m)
 | cons {o w:ah} {l m:ai}:o.ax τ = w->dC τ l m->dC τ (o::l) (w::m)
theorem dC.eq{τ : Nat->Nat}{l m:ai}(h:dC τ l m):l.map (·.ax τ)=m:=by
 induction h with
 | nil=>rfl
 | @flat v l m inst _ ih=>simp only[List.map_cons,ih,inst.ax]
 | cons h _ ih=>simp only[List.map_cons,ih,h]
def eV:ai->ai->Bool
 | _,[]=>true
 | o0::hs0,o::hs=>(o0.live||!o.live||o.own)&&eV hs0 hs
 | [],o::hs=>(!o.live||o.own)&&eV [] hs
theorem qK:∀{hs0 hs:ai},eV hs0 hs=true->∀(j:Nat) (o:ah),hs[j]? = some o->o.live=true->o.own=false->∃o0,hs0[j]? = some o0/\o0.live=true
 | _,[],_,j,o,h,_,_=>by simp at h
 | o0::hs0,o::hs,hr,j,x,h,hl,ho=>by
   simp only[eV,Bool.and_eq_true]at hr
   cases j with
   | zero=>
     simp only[List.getElem?_cons_zero,Option.some.injEq]at h
     subst h
     refine⟨o0,rfl,?_⟩
     rw[hl,ho]at hr
     simpa using hr.1
   | succ j=>exact qK hr.2 j x (by simpa using h) hl ho
 | [],o::hs,hr,j,x,h,hl,ho=>by
   simp only[eV,Bool.and_eq_true]at hr
   cases j with
   | zero=>
     simp only[List.getElem?_cons_zero,Option.some.injEq]at h
     subst h
     rw[hl,ho]at hr
     simp at hr
   | succ j=>
     obtain⟨o0,h1,_⟩:=qK hr.2 j x (by simpa using h) hl ho
     simp at h1
theorem x_{ls:List Nat}{N k:Nat}(j:Nat)(hj:j<ls.length+k):beyond (nth ls) ls.length N j=nth (ls++List.range' N k) j:=by
 unfold beyond nth
 by_cases h:j<ls.length
 ·rw[if_pos h,List.getD_eq_getElem?_getD,List.getD_eq_getElem?_getD,List.getElem?_append_left h]
 ·rw[if_neg h,List.getD_eq_getElem?_getD,List.getElem?_append_right (by omega),List.getElem?_range' (by omega)]
  simp
theorem ca{f:FuncId}{args0 args:List XV}{hs0 hs0' HS HS' os:ai}{v v':XV}(ls ws:List Nat)(k:Nat)(hc:aW P f args0 hs0 v hs0')(nd:ls.Nodup)(ho:ae (nth ls) HS ls hs0)(hk:ay hs0.length hs0)(hk':ay hs0'.length hs0')(hn:ls.length+k=hs0'.length)(ha:gj hs0.length args0)(e1:eD (nth ls) args0 args)(hv:v.bl hs0'.length)
 (e2:v.ax (nth (ls++List.range' HS.length k))=v') (hr:dC (nth (ls++List.range' HS.length k)) hs0' os) (hro:eV hs0 hs0'=true) (hb0:Nat.blt hs0.length Mem.bound=true) (hh:bQ HS ls os=HS') (hb:Nat.blt HS'.length Mem.bound=true) (hws:ws=ls\/∀i,i<HS.length->i∉ws->HS'[i]? = HS[i]?) :
 aC.Sound P ⟨f,args,HS,v',HS',ws⟩:=by
 subst hh
 obtain⟨hlen,hobj⟩:=ho.at
 have eos:=hr.eq
 have los:os.length=hs0'.length:=by rw[<-eos];simp
 have hin:∀i∈ls,i<HS.length:=by
  intro i hi
  obtain⟨j,hj,rfl⟩:=List.mem_iff_getElem.1 hi
  have:=(hobj j _ (List.getElem?_eq_getElem (by omega:j<hs0.length))).1
  unfold nth at this
  rwa [List.getD_eq_getElem?_getD,List.getElem?_eq_getElem hj]at this
 have kc:∀n (c:XC),c.ok n->n<=hs0'.length->c.ax (beyond (nth ls) hs0.length HS.length)=c.ax (nth (ls++List.range' HS.length k)):=by
  intro n c
  have e:∀i,i<n->n<=hs0'.length->beyond (nth ls) hs0.length HS.length i=nth (ls++List.range' HS.length k) i:=fun i hi hl=>by
   rw[hlen];exact x_ i (by omega)
  induction c with
  | ptr i off=>exact fun h hl=>by simp only[XC.ax,e i h hl]
  | slice i off len cap=>exact fun h hl=>by simp only[XC.ax,e i h hl]
  | map i=>exact fun h hl=>by simp only[XC.ax,e i h hl]
  | bind g c ih1 ih2=>exact fun h hl=>by simp only[XC.ax,ih1 h.1 hl,ih2 h.2 hl]
  | _=>intro _ _;rfl
 have kcs:∀cs:List XC,(∀c∈cs,c.ok hs0'.length)->cs.map (·.ax (beyond (nth ls) hs0.length HS.length))=cs.map (·.ax (nth (ls++List.range' HS.length k))):=fun cs h=>List.map_congr_left fun c hc=>kc _ c (h c hc) (Nat.le_refl _)
 have k1:∀x:X1,x.ok hs0'.length->x.ax (beyond (nth ls) hs0.length HS.length)=x.ax (nth (ls++List.range' HS.length k)):=fun x h=>by
  cases x with
  | one c=>simp only[X1.ax,kc _ c h (Nat.le_refl _)]
  | agg cs=>simp only[X1.ax,kcs cs h]
 have kv:∀x:XV,x.bl hs0'.length->x.ax (beyond (nth ls) hs0.length HS.length)=x.ax (nth (ls++List.range' HS.length k)):=fun x h=>by
  cases x with
  | undef=>rfl
  | one c=>simp only[XV.ax,kc _ c h (Nat.le_refl _)]
  | agg cs=>simp only[XV.ax,kcs cs h]
  | tup xs=>simp only[XV.ax];rw[List.map_congr_left fun c hc=>k1 c (h c hc)]
 have ko:∀x:ah,x.bl hs0'.length->x.ax (beyond (nth ls) hs0.length HS.length)=x.ax (nth (ls++List.range' HS.length k)):=fun x h=>by
  cases x with
  | dead=>rfl
  | cells vs e a b=>simp only[ah.ax,kcs vs h]
  | map es=>simp only[ah.ax];rw[List.map_congr_left fun p hp=>by rw[k1 _ (h p hp).1,k1 _ (h p hp).2]]
 refine oo hc (by omega) (ho.view (.inl nd) hk) ha.at e1.eq ((kv v hv).trans e2) ⟨?_,fun j o hj=>?_,fun i hi hne=>?_⟩ (qK hro) (fun i hi hne=>?_) hb hb0
 ·rw[oz ls HS os (by omega)];omega
 ·have hjl:j<hs0'.length:=(List.getElem?_eq_some_iff.1 hj).1
  have hoj:os[j]? = some (o.ax (nth (ls++List.range' HS.length k))):=by rw[<-eos,List.getElem?_map,hj];rfl
  rw[ko o (hk'.at o (List.mem_of_getElem? hj)),hlen]
  unfold beyond
  by_cases h:j<ls.length
  ·rw[if_pos h,As ls HS os nd hin j h (by omega)];exact hoj
  ·rw[if_neg h,wX ls HS os j (by omega) (by omega)];exact hoj
 ·refine ky ls HS os i hi fun hm=>?_
  obtain⟨j,hj,e⟩:=List.mem_iff_getElem.1 hm
  refine hne j (by omega) ?_
  unfold nth
  rw[List.getD_eq_getElem?_getD,List.getElem?_eq_getElem hj]
  exact e
 ·rcases hws with e|h
  ·subst e;exact ky ws HS os i hi hne
  ·exact h i hi hne
theorem IN.of{c:XC}{i n:Nat}(h:IN c i n)(hn:∀cap,c = .slice i 0 n (.exact cap)->n<=cap):gS c i 0 n:=by
 rcases h with⟨rfl,rfl⟩|⟨cap,rfl⟩
 ·exact .nil
 ·exact .mk (hn cap rfl)
theorem gS.back{c:XC}{i off n:Nat}(h:gS c i off n):∃c0,gS c0 0 off n/\c0.ax (fun _=>i)=c:=by
 rcases h with⟨rfl,rfl|⟨o,cap,rfl⟩⟩|⟨cap,h1,rfl⟩
 ·exact⟨.nils,.nil,rfl⟩
 ·exact⟨.slice 0 o 0 (.exact cap),.inl ⟨rfl,.inr ⟨_,_,rfl⟩⟩,rfl⟩
 ·exact⟨.slice 0 off n (.exact cap),.inr ⟨_,h1,rfl⟩,rfl⟩
theorem Em{fn:Func}{n:Nat}{e:XE}{al:bc}{hs hs':ai}{v1 v:XV}(τl:List Nat)(he:e = .normal\/e = .ret)(hr:qc P fn al hs v1)(hv:v1=v.ax (nth τl))(hok:v.bl hs'.length)(nd:Nd τl hs')(hid:(List.range n).all (fun j=>nth τl j==j)=true)(ho:ae (nth τl) hs τl hs')(hk:ay hs'.length hs'):aD P fn n v hs' e al hs:=
 Af (nth τl) he hr hv hok (ho.view nd hk) fun j hj=>by
  have:=List.all_eq_true.1 hid j (List.mem_range.2 hj)
  simpa using this
variable {ops:Array Oper} {nt nI:Nat} {al:bc} {hs:ai} {o:Oper} {l:List Oper} {L:List aC} {K:List Ab->bc->ai->Prop} {d:Nat}
theorem C5(k:IntKind)(n:Nat):dv [.int k 0] n=il k (List.replicate n 0):=by
 unfold dv il
 apply List.ext_getElem?
 intro i
 by_cases h:i<n
 ·simp[h,Nat.mod_one]
 ·simp[h]
theorem JT{t e:TypeId}{a b:Operand}{k:IntKind}(ho:o.op = .makeSlice t a b)[hu:aZ P t (.slice e)][hz:aX P e [.int k 0]][hI:TI P e 1](hw:av ops (rg al) o=some true)(hd:o.dst=some d)(hlt:Nat.blt d nt=true){kl kc:IntKind}{x y:Int}(ha:ag (rg al) a = .one (.int kl x))(hb:ag (rg al) b = .one (.int kc y)){n:Nat}(hx:x=(n:Nat))(hy:y=(n:Nat))(hn:n<=2000000000)
 {N:Nat}(hN:hs.length=N) (hbd:Nat.blt N Mem.bound=true) {hs':ai}(hh:hs++[.cells (il k (List.replicate n 0)) e false false]=hs') (hk:SK P ops nt L l ((d,.one (.slice N 0 n (.exact n)))::al) hs' fun bs=>K (⟨true,.none,[N]⟩::bs)):SK P ops nt L (o::l) al hs K:=by
 subst hN hh hx hy
 refine SK.lift hd hlt (fun _=>?_) hk
 intro m hm
 obtain⟨m',h1,h2,h3⟩:=hm.push (.cells (il k (List.replicate n 0)) e false false) (by simpa [Nat.blt_eq]using hbd)
 refine⟨m',?_,h2,h3⟩
 unfold iP
 rw[hw]
 refine cj (by rw[ho];rfl) (by rw[ho];rfl) (by rw[ho];rfl) ?_
 rw[ho]
 obtain⟨ti,hti,hs1,hby⟩:=hI.get
 have hbb:(ti.bytes:Int)*(n:Nat)<=281474976710656:=by
  have:(ti.bytes:Int)*(n:Nat)<=65536*(n:Nat):=Int.mul_le_mul_of_nonneg_right (by omega) (by omega)
  omega
 simp only[bV,fX,dO,hu.out,ha,hb,hti,hz.out,hs1,Int.toNat_natCast,Nat.mul_one,C5,h1,hm.n]
 rw[if_pos ⟨by omega,by omega,by omega,hbb,by simp⟩]
theorem HL{t e:TypeId}{y:Operand}{k:IntKind}(ho:o.op = .buildSlice t 1 #[(0,y)])[hu:aZ P t (.slice e)][hz:aX P e [.int k 0]][hse:aO P e 1](hw:av ops (rg al) o=some true)(hd:o.dst=some d)(hlt:Nat.blt d nt=true){z:Int}(hy:cu (ag (rg al) y)=some [.int k z]){n:Nat}(hn:hs.length=n)(hb:Nat.blt n Mem.bound=true){hs':ai}(hh:hs++[.cells (il k [z]) e false false]=hs')
 (hk:SK P ops nt L l ((d,.one (.slice n 0 1 (.exact 1)))::al) hs' fun bs=>K (⟨true,.none,[n]⟩::bs)):SK P ops nt L (o::l) al hs K:=
 JP ho rfl hw hd hlt hy hn hb hh hk
theorem HJ{t e:TypeId}{k:IntKind}(ho:o.op = .buildSlice t 0 #[])[hu:aZ P t (.slice e)][hz:aX P e [.int k 0]][hse:aO P e 1](hw:av ops (rg al) o=some true)(hd:o.dst=some d)(hlt:Nat.blt d nt=true){n:Nat}(hn:hs.length=n)(hb:Nat.blt n Mem.bound=true){hs':ai}(hh:hs++[.cells (il k []) e false false]=hs')
 (hk:SK P ops nt L l ((d,.one (.slice n 0 0 (.exact 0)))::al) hs' fun bs=>K (⟨true,.none,[n]⟩::bs)):SK P ops nt L (o::l) al hs K:=by
 subst hn hh
 refine SK.lift hd hlt (fun _=>?_) hk
 intro m hm
 obtain⟨m',h1,h2,h3⟩:=hm.push (.cells (il k []) e false false) (by simpa [Nat.blt_eq]using hb)
 refine⟨m',?_,h2,h3⟩
 unfold iP
 rw[hw]
 refine cj (by rw[ho];rfl) (by rw[ho];rfl) (by rw[ho];rfl) ?_
 rw[ho]
 have hf:fL (fun i=>some (i*1,1)) (dv [.int k 0] (0*1)) []=some (il k []):=by
  simp[fL,dv,il]
 simp only[bV,dH,dO,hu.out,hse.out,hz.out,List.map_nil,h1,hm.n,hf]
 simp
theorem oD{t1 e:TypeId}[hu:aZ P t1 (.slice e)]{x:XV}{j len sz:Nat}{cap:vy}{vs:List XC}{et:TypeId}{opn ro:Bool}(hx:x = .one (.slice j 0 len cap))(hj:hs[j]? = some (.cells vs et opn ro))(hl:vs.length=len*sz):∀M,bj M hs->oQ P t1 sz x M=some (len,vs):=by
 intro M hM
 subst hx
 have:=hM.at hj
 by_cases h0:len=0
 ·subst h0
  have:vs = []:=List.length_eq_zero_iff.1 (by simpa using hl)
  subst this
  cases cap<;>simp only[oQ,hu.out,if_true]
 ·cases cap<;>simp only[oQ,hu.out,this,Nat.zero_add,List.drop_zero,h0,if_false]<;>rw[if_pos (by omega),List.take_of_length_le (by omega)]
theorem JM{t t1 e e1:TypeId}{a b:Operand}{k:IntKind}(ho:o.op = .call ⟨.builtin .append,#[a,b],#[t,t1]⟩)[hu:aZ P t (.slice e)][hu1:aZ P t1 (.slice e1)][hz:aX P e [.int k 0]][hI:TI P e 1](hw:av ops (rg al) o=some true)(hd:o.dst=some d)(hlt:Nat.blt d nt=true)
 {i n j len:Nat} {cap:vy} {q r:List Int} {et:TypeId} {opn ro:Bool}(ha:ag (rg al) a=kA i n 1) (hi:hs[i]? = some (dG e (il k q))) (hb:ag (rg al) b = .one (.slice j 0 len cap)) (hj:hs[j]? = some (.cells (il k r) et opn ro)) (hn:q.length=n) (hr:r.length=len) (hm:0<len/\n+len<=2000000000)
 {N:Nat}(hN:hs.length=N) (hbd:Nat.blt N Mem.bound=true) {hs':ai}(hh:hs.set i .dead++[dG e (il k (q++r))]=hs')
 (hk:SK P ops nt L l ((d,kA N (n+len) 1)::al) hs' fun bs=>K (⟨true,.none,[i,N]⟩::bs)):SK P ops nt L (o::l) al hs K:=by
 have hne:il k (q++r)≠[]:=by
  intro h
  have:(il k (q++r)).length=0:=by rw[h];rfl
  rw[d7,List.length_append]at this
  omega
 rw[oC (by omega)]at hk
 exact y5 ho hw hd hlt (sz:=1) ⟨rfl,by omega⟩ ha hi (by rw[d7];omega) (oD hb hj (by rw[d7];omega)) ⟨hm.1,by omega⟩ hN hbd (by rw[tt,<-iW hne];exact hh) hk
theorem HW{t1 e1:TypeId}[hu1:aZ P t1 (.slice e1)]{x:XV}{i n:Nat}{k:IntKind}{r:List Int}{e:TypeId}(hx:x=kA i n 1)(hi:hs[i]? = some (dG e (il k r)))(hr:r.length=n):∀M,bj M hs->oQ P t1 1 x M=some (n,il k r):=by
 cases r with
 | nil=>
   intro M _
   subst hr
   rw[hx]
   show oQ P t1 1 (.one .nils) M=_
   simp only[oQ,hu1.out];rfl
 | cons a r=>exact oD (hx.trans (oC (by rw[<-hr];exact Nat.succ_ne_zero _))) hi (by rw[d7];omega)
theorem wC{α γ : Type}{kc : α->X1}{vc : γ->X1}(hk:∀a,(kc a).shut=true)(hv:∀c,(vc c).shut=true)(M:List (α×γ)):aR (.map (jw kc vc M)):=by
 refine⟨fun τ=>?_,fun n p hp=>?_⟩
 ·simp only[ah.ax,jw,List.map_map]
  congr 1
  refine List.map_congr_left fun p _=>?_
  simp only[Function.comp,X1.cV (hk p.1),X1.cV (hv p.2)]
 ·obtain⟨q,_,rfl⟩:=List.mem_map.1 hp
  exact⟨X1.bm (hk q.1) n,X1.bm (hv q.2) n⟩
theorem JS(T:Nat->Int){t:TypeId}{x ix:Operand}(ho:o.op = .index t x ix)[hu:aZ P t .string](hw:av ops (rg al) o=some true)(hd:o.dst=some d)(hlt:Nat.blt d nt=true){s:List UInt8}(ha:ag (rg al) x = .one (.str s)){k:IntKind}{z:Int}(hb:ag (rg al) ix = .one (.int k z))(hz:0<=z/\z<256)(hT:∀i:Fin 256,s[i.val]?.map (fun b=>(b.toNat:Int))=some (T i.val))
 (hk:SK P ops nt L l ((d,.one (.int .u8 (T z.toNat)))::al) hs fun bs=>K (quiet::bs)):SK P ops nt L (o::l) al hs K:=by
 refine SK.lift hd hlt (fun _=>aH.pure hw ?_) hk
 have h:=hT ⟨z.toNat,by omega⟩
 obtain⟨b,h1,h2⟩:=Option.map_eq_some_iff.1 h
 rw[ho]
 simp only[ba,nS,hu.out,ha,hb,hz.1,if_true]
 simp only[]at h1
 rw[h1,Option.map_some,h2]
theorem CB{t:TypeId}{a y:Operand}(ho:o.op = .store t a y)[ht:aO P t 1](hw:av ops (rg al) o=some true)(hd:o.dst = .none){i off:Nat}(ha:ag (rg al) a = .one (.ptr i off)){k:IntKind}{z:Int}(hy:cu (ag (rg al) y)=some [.int k z]){q:List Int}{e:TypeId}(hi:hs[i]? = some (dG e (il k q)))(hle:off<q.length)
 {hs':ai}(hh:hs.set i (dG e (il k (q.set off z)))=hs') (hk:SK P ops nt L l al hs' fun bs=>K (⟨true,.none,[i]⟩::bs)):SK P ops nt L (o::l) al hs K:=by
 cases q with
 | nil=>exact absurd hle (Nat.not_lt_zero _)
 | cons b r=>
   have h:dG e (il k ((b::r).set off z)) = .cells (il k ((b::r).set off z)) e true false:=by cases off<;>rfl
   rw[h]at hh
   exact jk ho hw hd ha hy (vs:=il k (b::r)) hi (by rw[d7];exact hle) (Ei ..) hh hk
theorem JL{t t1 e e1:TypeId}{a b:Operand}{k:IntKind}(ho:o.op = .call ⟨.builtin .append,#[a,b],#[t,t1]⟩)[hu:aZ P t (.slice e)][hu1:aZ P t1 (.slice e1)][hz:aX P e [.int k 0]][hI:TI P e 1](hw:av ops (rg al) o=some true)(hd:o.dst=some d)(hlt:Nat.blt d nt=true)
 {i len n:Nat} {q r:List Int} {et:TypeId} {opn ro:Bool}(ha:ag (rg al) a = .one (.slice i 0 len (.exact len))) (hi:hs[i]? = some (.cells (il k q) et opn ro)) (hq:q.length=len) (hr:r.length=n) (hsrc:∀M,bj M hs->oQ P t1 1 (ag (rg al) b) M=some (n,il k r)) (hm:len+n<=2000000000)
 {N:Nat}(hN:hs.length=N) (hbd:Nat.blt N Mem.bound=true) {hs':ai}(hh:hs++[.cells (il k (q++r)) e true false]=hs')
 (h1:n=0->SK P ops nt L l ((d,.one (.slice i 0 len (.exact len)))::al) hs fun bs=>K (⟨true,.none,[]⟩::bs)) (h2:0<n->SK P ops nt L l ((d,.one (.slice N 0 (len+n) (.toEnd 1)))::al) hs' fun bs=>K (⟨true,.none,[N]⟩::bs)):SK P ops nt L (o::l) al hs K:=by
 subst hN hh
 obtain⟨ti,hti,hs1,hby⟩:=hI.get
 have hbytes:(len+n)*ti.bytes<=140737488355328:=Nat.le_trans (Nat.mul_le_mul_left _ hby) (by omega)
 by_cases h0:n=0
 ·refine SK.lift hd hlt (fun _=>?_) (h1 h0)
  subst h0
  intro M hM
  refine⟨M,?_,hM,fun _ _=>rfl⟩
  unfold iP
  rw[hw]
  refine cj (by rw[ho];rfl) (by rw[ho];rfl) (by rw[ho];rfl) ?_
  rw[ho]
  simp only[bV,iY,dO,hu.out,hti,hz.out,ha,hs1,hsrc M hM,List.getElem?_toArray,List.getElem?_cons_zero,List.getElem?_cons_succ]
  simp
 ·refine SK.lift hd hlt (fun _=>?_) (h2 (by omega))
  intro M hM
  obtain⟨m',p1,p2,p3⟩:=hM.push (.cells (il k (q++r)) e true false) (by simpa [Nat.blt_eq]using hbd)
  refine⟨m',?_,p2,p3⟩
  unfold iP
  rw[hw]
  refine cj (by rw[ho];rfl) (by rw[ho];rfl) (by rw[ho];rfl) ?_
  rw[ho]
  have e1:¬len+n<=len:=by omega
  have e2:0+len*1<=(il k q).length:=by rw[d7];omega
  have e3:((il k q).drop 0).take (len*1)++il k r=il k (q++r):=by
   rw[List.drop_zero,List.take_of_length_le (by rw[d7];omega),tt]
  simp only[bV,iY,dO,hu.out,hti,hz.out,ha,hs1,hsrc M hM,List.getElem?_toArray,List.getElem?_cons_zero,List.getElem?_cons_succ,e1,if_false,hM.at hi,e2,if_true,e3,p1,hM.n]
  rw[if_pos ⟨rfl,by omega⟩,if_pos ⟨by omega,hbytes⟩]
class qb {α : Type}(enc : α->List XC) (s:outParam Nat):Prop where
 len:∀a,(enc a).length=s
 shut:∀a,(enc a).all XC.shut=true
 pos:0<s
def fl{α : Type}(enc : α->List XC)(l:List α):List XC:=l.flatMap enc
section
variable {α : Type} {enc : α->List XC} {s:Nat} [hE:qb enc s]
theorem rp(l:List α):(fl enc l).length=l.length*s:=by
 induction l with
 | nil=>simp[fl]
 | cons a l ih=>simp only[fl,List.flatMap_cons,List.length_append,hE.len,List.length_cons]at ih ⊢;rw[ih,Nat.add_mul];omega
theorem BF(l m:List α):fl enc (l++m)=fl enc l++fl enc m:=by simp[fl]
theorem I8(a : α):fl enc [a]=enc a:=by simp[fl]
theorem Aa{α : Type}{enc : α->List XC}{s:Nat}[hE:qb enc s](l:List α):(fl enc l).all XC.shut=true:=by
 rw[List.all_eq_true]
 intro c hc
 obtain⟨a,_,ha⟩:=List.mem_flatMap.1 hc
 exact List.all_eq_true.1 (hE.shut a) c ha
theorem It(l:List α)(j:Nat)(hj:j<l.length)(dflt : α):j*s+s<=(fl enc l).length/\((fl enc l).drop (j*s)).take s=enc (l.getD j dflt):=
 Ad enc s l (fun a _=>hE.len a) j _ (by simp[List.getD_eq_getElem?_getD,hj])
theorem Iu{α : Type}{enc : α->List XC}{s:Nat}[hE:qb enc s]{l:List α}(h:l≠[]):fl enc l≠[]:=fun e=>by
 have:=rp (enc:=enc) l
 rw[e]at this
 have hp:=hE.pos
 cases l with
 | nil=>exact h rfl
 | cons a l=>simp only[List.length_cons,List.length_nil,Nat.add_mul]at this;omega
instance {e:TypeId} {l:List α}:aR (dG e (fl enc l)):=xa (Aa l)
instance {a : α} {e:TypeId} {x y:Bool}:aR (.cells (enc a) e x y):=fF (hE.shut a)
structure A1(o:ah)(enc : α->List XC)(l:List α):Prop where
 get:0<l.length->∃e opn ro,o = .cells (fl enc l) e opn ro
 flat:aR o
theorem Fp[Inhabited α]{t:TypeId}{a:Operand}(ho:o.op = .load t a)[ht:c9 P t][hs':aO P t s](hw:av ops (rg al) o=some true)(hd:o.dst=some d)(hlt:Nat.blt d nt=true){i off:Nat}(ha:ag (rg al) a = .one (.ptr i off)){e:TypeId}{q:List α}(hi:hs[i]? = some (dG e (fl enc q))){j:Nat}(hj:off=j*s)(hc:j<q.length)
 (hk:SK P ops nt L l ((d,.agg (enc (q.getD j default)))::al) hs fun bs=>K (⟨false,some i,[]⟩::bs)):SK P ops nt L (o::l) al hs K:=by
 obtain⟨h1,h2⟩:=It (enc:=enc) q j hc default
 subst hj
 exact sa ho hw hd hlt ha (hi.trans (congrArg some (iW (Iu (fun e=>by rw[e]at hc;exact absurd hc (Nat.not_lt_zero _)))))) h1 h2 hk
theorem CA[Inhabited α]{t:TypeId}{a:Operand}(ho:o.op = .load t a)[ht:c9 P t][hs':aO P t s](hw:av ops (rg al) o=some true)(hd:o.dst=some d)(hlt:Nat.blt d nt=true){i off:Nat}(ha:ag (rg al) a = .one (.ptr i off)){ob:ah}{q:List α}(hi:hs[i]? = some ob)(hro:A1 ob enc q){j:Nat}(hj:off=j*s)(hc:j<q.length)
 (hk:SK P ops nt L l ((d,.agg (enc (q.getD j default)))::al) hs fun bs=>K (⟨false,some i,[]⟩::bs)):SK P ops nt L (o::l) al hs K:=by
 obtain⟨h1,h2⟩:=It (enc:=enc) q j hc default
 obtain⟨e,opn,ro,rfl⟩:=hro.get (by omega)
 subst hj
 exact sa ho hw hd hlt ha hi h1 h2 hk
theorem HK{t e:TypeId}{y:Operand}{zs:List XC}(ho:o.op = .buildSlice t 1 #[(0,y)])[hu:aZ P t (.slice e)][hz:aX P e zs][hse:aO P e s](hzl:zs.length=s)(hsm:s<=16777216)(hw:av ops (rg al) o=some true)(hd:o.dst=some d)(hlt:Nat.blt d nt=true){a : α}(hy:cu (ag (rg al) y)=some (enc a)){n:Nat}(hn:hs.length=n)(hb:Nat.blt n Mem.bound=true){hs':ai}(hh:hs++[.cells (fl enc [a]) e false false]=hs')
 (hk:SK P ops nt L l ((d,.one (.slice n 0 1 (.exact 1)))::al) hs' fun bs=>K (⟨true,.none,[n]⟩::bs)):SK P ops nt L (o::l) al hs K:=by
 subst hn hh
 refine SK.lift hd hlt (fun _=>?_) hk
 intro m hm
 obtain⟨m',h1,h2,h3⟩:=hm.push (.cells (fl enc [a]) e false false) (by simpa [Nat.blt_eq]using hb)
 refine⟨m',?_,h2,h3⟩
 unfold iP
 rw[hw]
 refine cj (by rw[ho];rfl) (by rw[ho];rfl) (by rw[ho];rfl) ?_
 rw[ho]
 have hp:=hE.pos
 have hlen:=hE.len a
 have hzz:(dv zs (1*s)).length=s:=by simp[dv]
 have hf:fL (fun i=>some (i*s,s)) (dv zs (1*s)) [(0,ag (rg al) y)]=some (fl enc [a]):=by
  simp only[fL,hy,hlen,Nat.zero_mul]
  rw[if_pos ⟨trivial,by rw[hzz];omega⟩,I8]
  simp only[List.take_zero,List.nil_append,Nat.zero_add]
  rw[List.drop_of_length_le (by rw[hzz];omega),List.append_nil]
 simp only[bV,dH,dO,hu.out,hse.out,hz.out,List.map_cons,List.map_nil,h1,hm.n,hf]
 rw[if_pos ⟨by omega,by omega⟩]
theorem JN{t t1 e e1:TypeId}{a b:Operand}{zs:List XC}(ho:o.op = .call ⟨.builtin .append,#[a,b],#[t,t1]⟩)[hu:aZ P t (.slice e)][hu1:aZ P t1 (.slice e1)][hz:aX P e zs][hI:TI P e s](hzl:zs.length=s)(hw:av ops (rg al) o=some true)(hd:o.dst=some d)(hlt:Nat.blt d nt=true)
 {i n j len:Nat} {cap:vy} {q r:List α} {et:TypeId} {opn ro:Bool}(ha:ag (rg al) a=kA i n s) (hi:hs[i]? = some (dG e (fl enc q))) (hb:ag (rg al) b = .one (.slice j 0 len cap)) (hj:hs[j]? = some (.cells (fl enc r) et opn ro)) (hn:q.length=n) (hr:r.length=len) (hm:0<len/\n+len<=2000000000)
 {N:Nat}(hN:hs.length=N) (hbd:Nat.blt N Mem.bound=true) {hs':ai}(hh:hs.set i .dead++[dG e (fl enc (q++r))]=hs')
 (hk:SK P ops nt L l ((d,kA N (n+len) s)::al) hs' fun bs=>K (⟨true,.none,[i,N]⟩::bs)):SK P ops nt L (o::l) al hs K:=by
 have hne:fl enc (q++r)≠[]:=Iu (fun h=>by
  have:(q++r).length=0:=by rw[h];rfl
  rw[List.length_append]at this
  omega)
 rw[oC (by omega)]at hk
 exact y5 ho hw hd hlt (sz:=s) ⟨hzl,hE.pos⟩ ha hi (by rw[rp,hn]) (oD hb hj (by rw[rp,hr])) ⟨hm.1,by omega⟩ hN hbd (by rw[<-BF,<-iW hne];exact hh) hk
end
end Go.Xm
namespace Go.Xm
variable [aw]
variable {P:Program} {ops:Array Oper} {nt nI:Nat} {al:bc} {hs:ai} {o:Oper} {l:List Oper} {L:List aC} {K:List Ab->bc->ai->Prop} {d:Nat}
structure Wn(ops:Array Oper)(nt:Nat)(al:bc)(o:Oper)(d:Nat):Prop where
 w:av ops (rg al) o=some true
 e:o.dst=some d
 l:Nat.blt d nt=true
theorem n1{α : Type}{a b : α}(h:a=b:=by first|(simp only[Nat.zero_add,Nat.mul_one,Nat.reduceAdd,Nat.reduceMul,Int.reduceSub,Int.reduceAdd,Int.reduceMul,Int.reduceDiv,Int.reduceMod,Int.reduceToNat,Nat.add_zero,Int.toNat_natCast];exact rfl)|exact rfl|fail):a=b:=h
theorem n2{α : Type}{a b : α}(h:a=b:=by first|(simp only[List.length_cons,List.length_nil,List.length_append,Nat.reduceAdd,Nat.zero_add,List.length_set];exact rfl)|exact rfl|fail):a=b:=h
theorem n3{α : Type}{a b : α}(h:a=b:=by first|(simp only[List.cons_append,List.nil_append];exact rfl)|exact rfl|fail):a=b:=h
theorem n4{α : Type}{a b : α}(h:a=b:=by first|(simp only[List.set_cons_succ,List.set_cons_zero];exact rfl)|exact rfl|fail):a=b:=h
def rO(o:Oper):Nat:=match o.op with
 | .move _=>0 | .assign _=>0 | .load _ _=>1 | .store _ _ _=>2 | .indexAddr _ _ _=>3 | .fieldAddr _ _ _=>4
 | .binOp op _ _ _ _=>match op with
   | .add=>5 | .sub=>6 | .mul=>7 | .quo=>8 | .rem=>9 | .and=>10 | .or=>11 | .xor=>12 | .shl=>13 | .shr=>14 | .andNot=>15
   | .eql=>16 | .neq=>17 | .lss=>18 | .leq=>19 | .gtr=>20 | .geq=>21
 | .pick _ _ _=>22 | .unOp _ _ _=>23 | .convert _ _ _=>24 | .extract _ _=>25 | .nilCheck _=>26 | .field _ _ _=>27 | .index _ _ _=>28
 | .call ⟨.value _,_,_⟩=>29 | .call ⟨.builtin .len,_,_⟩=>30 | .call ⟨.builtin .append,_,_⟩=>31 | .call ⟨.builtin _,_,_⟩=>32 | .call _=>33
 | .build _ _=>34 | .buildSlice _ _ _=>35 | .alloc _=>36 | .box _ _=>37 | .makeSlice _ _ _=>38 | .makeMap _ _=>39 | .slice _ _ _ _ _=>40 | .lookup _ _ _ _=>41 | .mapUpdate _ _ _ _=>42 | .makeFunc _ _ _=>43
 | _=>44
theorem q4(hk:SK P ops nt L (o::l) al hs K)(h:Nat.ble (rO o) 4=true:=by exact rfl):SK P ops nt L (o::l) al hs K:=hk
theorem NS(hk:SK P ops nt L (o::l) al hs K)(h:Nat.ble (rO o) 15=true:=by exact rfl):SK P ops nt L (o::l) al hs K:=hk
theorem NT(hk:SK P ops nt L (o::l) al hs K)(h:Nat.ble (rO o) 21=true:=by exact rfl):SK P ops nt L (o::l) al hs K:=hk
theorem NU(hk:SK P ops nt L (o::l) al hs K)(h:Nat.ble (rO o) 28=true:=by exact rfl):SK P ops nt L (o::l) al hs K:=hk
theorem NV(hk:SK P ops nt L (o::l) al hs K)(h:Nat.ble (rO o) 33=true:=by exact rfl):SK P ops nt L (o::l) al hs K:=hk
theorem qz(hk:SK P ops nt L (o::l) al hs K):SK P ops nt L (o::l) al hs K:=hk
theorem qg(hk:SK P ops nt L (o::l) al hs K)(h:o.guard.isSome=true:=by exact rfl):SK P ops nt L (o::l) al hs K:=hk
theorem t0(hk:SK P ops nt L (o::l) al hs K)(h:rO o=0:=by exact rfl):SK P ops nt L (o::l) al hs K:=hk
theorem t1(hk:SK P ops nt L (o::l) al hs K)(h:rO o=1:=by exact rfl):SK P ops nt L (o::l) al hs K:=hk
theorem t2(hk:SK P ops nt L (o::l) al hs K)(h:rO o=2:=by exact rfl):SK P ops nt L (o::l) al hs K:=hk
theorem t3(hk:SK P ops nt L (o::l) al hs K)(h:rO o=3:=by exact rfl):SK P ops nt L (o::l) al hs K:=hk
theorem t4(hk:SK P ops nt L (o::l) al hs K)(h:rO o=4:=by exact rfl):SK P ops nt L (o::l) al hs K:=hk
theorem N3(hk:SK P ops nt L (o::l) al hs K)(h:rO o=30:=by exact rfl):SK P ops nt L (o::l) al hs K:=hk
theorem NH{a:Operand}{c:XC}(hk:SK P ops nt L l ((d,.one c)::al) hs fun bs=>K (quiet::bs))(ho:o.op = .move a:=by exact rfl)(wn:Wn ops nt al o d:=by exact⟨rfl,rfl,rfl⟩)(ha:ag (rg al) a = .one c:=by exact rfl):SK P ops nt L (o::l) al hs K:=
 AF ho wn.w wn.e wn.l ha hk
theorem No{a:Operand}{c:XC}(hk:SK P ops nt L l ((d,.one c)::al) hs fun bs=>K (quiet::bs))(ho:o.op = .assign a:=by exact rfl)(wn:Wn ops nt al o d:=by exact⟨rfl,rfl,rfl⟩)(ha:ag (rg al) a = .one c:=by exact rfl):SK P ops nt L (o::l) al hs K:=
 Cv ho wn.w wn.e wn.l ha hk
theorem NI{a:Operand}{c:List X1}(hk:SK P ops nt L l ((d,.tup c)::al) hs fun bs=>K (quiet::bs))(ho:o.op = .move a:=by exact rfl)(wn:Wn ops nt al o d:=by exact⟨rfl,rfl,rfl⟩)(ha:ag (rg al) a = .tup c:=by exact rfl):SK P ops nt L (o::l) al hs K:=
 AF ho wn.w wn.e wn.l ha hk
theorem NX(hk:SK P ops nt L l ((d,.tup [])::al) hs fun bs=>K (quiet::bs))(hw:av ops (rg al) o=some false:=by exact rfl)(hd:o.dst=some d:=by exact rfl)(hlt:Nat.blt d nt=true:=by exact rfl):SK P ops nt L (o::l) al hs K:=
 HU hw hd hlt hk
theorem NQ{a b c:Operand}{x:Bool}(hk:SK P ops nt L l ((d,.one (.bool x))::al) hs fun bs=>K (quiet::bs))(ho:o.op = .pick c a b:=by exact rfl)(wn:Wn ops nt al o d:=by exact⟨rfl,rfl,rfl⟩)(hc:ag (rg al) c = .one (.bool true):=by exact rfl)(ha:ag (rg al) a = .one (.bool x):=by exact rfl):SK P ops nt L (o::l) al hs K:=
 Ft ho wn.w wn.e wn.l hc ha hk
theorem NP{a b c:Operand}{x:Bool}(hk:SK P ops nt L l ((d,.one (.bool x))::al) hs fun bs=>K (quiet::bs))(ho:o.op = .pick c a b:=by exact rfl)(wn:Wn ops nt al o d:=by exact⟨rfl,rfl,rfl⟩)(hc:ag (rg al) c = .one (.bool false):=by exact rfl)(ha:ag (rg al) b = .one (.bool x):=by exact rfl):SK P ops nt L (o::l) al hs K:=
 Fs ho wn.w wn.e wn.l hc ha hk
theorem ng{a:Operand}{t:TypeId}{k:IntKind}{x:Int}(hk:SK P ops nt L l ((d,.one (.int k (0-x)))::al) hs fun bs=>K (quiet::bs))(ho:o.op = .unOp .neg t a:=by exact rfl)(wn:Wn ops nt al o d:=by exact⟨rfl,rfl,rfl⟩)(ha:ag (rg al) a = .one (.int k x):=by exact rfl)(h:sV k (0-x):=by(show _/\_;omega)):SK P ops nt L (o::l) al hs K:=
 SK.lift wn.e wn.l (fun _=>aH.pure wn.w (by rw[ho];simp only[ba,ha,LM,cz,gv h])) hk
theorem NM{a:Operand}{t:TypeId}{x:Bool}(hk:SK P ops nt L l ((d,.one (.bool (!x)))::al) hs fun bs=>K (quiet::bs))(ho:o.op = .unOp .not t a:=by exact rfl)(wn:Wn ops nt al o d:=by exact⟨rfl,rfl,rfl⟩)(ha:ag (rg al) a = .one (.bool x):=by exact rfl):SK P ops nt L (o::l) al hs K:=
 JV ho wn.w wn.e wn.l ha rfl hk
theorem ad{t t':TypeId}{a b:Operand}{k:IntKind}{x y:Int}(hk:SK P ops nt L l ((d,.one (.int k (x+y)))::al) hs fun bs=>K (quiet::bs))(ho:o.op = .binOp .add t a b t':=by exact rfl)(wn:Wn ops nt al o d:=by exact⟨rfl,rfl,rfl⟩)(ha:ag (rg al) a = .one (.int k x):=by exact rfl)(hb:ag (rg al) b = .one (.int k y):=by exact rfl)(h:sV k (x+y):=by(show _/\_;omega)):SK P ops nt L (o::l) al hs K:=
 iM ho wn.w wn.e wn.l ha hb (by simp only[bU,dL,if_true,cz,gv h]) hk
theorem sb{t t':TypeId}{a b:Operand}{k:IntKind}{x y:Int}(hk:SK P ops nt L l ((d,.one (.int k (x-y)))::al) hs fun bs=>K (quiet::bs))(ho:o.op = .binOp .sub t a b t':=by exact rfl)(wn:Wn ops nt al o d:=by exact⟨rfl,rfl,rfl⟩)(ha:ag (rg al) a = .one (.int k x):=by exact rfl)(hb:ag (rg al) b = .one (.int k y):=by exact rfl)(h:sV k (x-y):=by(show _/\_;omega)):SK P ops nt L (o::l) al hs K:=
 iM ho wn.w wn.e wn.l ha hb (by simp only[bU,dL,if_true,cz,gv h]) hk
theorem ml{t t':TypeId}{a b:Operand}{k:IntKind}{x y:Int}(hk:SK P ops nt L l ((d,.one (.int k (x*y)))::al) hs fun bs=>K (quiet::bs))(ho:o.op = .binOp .mul t a b t':=by exact rfl)(wn:Wn ops nt al o d:=by exact⟨rfl,rfl,rfl⟩)(ha:ag (rg al) a = .one (.int k x):=by exact rfl)(hb:ag (rg al) b = .one (.int k y):=by exact rfl)(h:sV k (x*y):=by(show _/\_;omega)):SK P ops nt L (o::l) al hs K:=
 iM ho wn.w wn.e wn.l ha hb (by simp only[bU,dL,if_true,cz,gv h]) hk
theorem qu{t t':TypeId}{a b:Operand}{k:IntKind}{x y:Int}(hk:SK P ops nt L l ((d,.one (.int k (x/y)))::al) hs fun bs=>K (quiet::bs))(ho:o.op = .binOp .quo t a b t':=by exact rfl)(wn:Wn ops nt al o d:=by exact⟨rfl,rfl,rfl⟩)(ha:ag (rg al) a = .one (.int k x):=by exact rfl)(hb:ag (rg al) b = .one (.int k y):=by exact rfl)(h:sV k x/\0<=x/\0<y:=by exact⟨by show _/\_;omega,by omega⟩):SK P ops nt L (o::l) al hs K:=
 iM ho wn.w wn.e wn.l ha hb (MM h.1 h.2.1 h.2.2) hk
theorem qt{t t':TypeId}{a b:Operand}{k:IntKind}{x y:Int}(hk:SK P ops nt L l ((d,.one (.int k (x.tdiv y)))::al) hs fun bs=>K (quiet::bs))(ho:o.op = .binOp .quo t a b t':=by exact rfl)(wn:Wn ops nt al o d:=by exact⟨rfl,rfl,rfl⟩)(ha:ag (rg al) a = .one (.int k x):=by exact rfl)(hb:ag (rg al) b = .one (.int k y):=by exact rfl)(h:y≠0/\sV k (x.tdiv y):=by exact⟨by omega,by show _/\_;omega⟩):SK P ops nt L (o::l) al hs K:=
 iM ho wn.w wn.e wn.l ha hb (by simp only[bU,dL,if_true,if_neg h.1,cz,gv h.2]) hk
theorem re{t t':TypeId}{a b:Operand}{k:IntKind}{x y:Int}(hk:SK P ops nt L l ((d,.one (.int k (x%y)))::al) hs fun bs=>K (quiet::bs))(ho:o.op = .binOp .rem t a b t':=by exact rfl)(wn:Wn ops nt al o d:=by exact⟨rfl,rfl,rfl⟩)(ha:ag (rg al) a = .one (.int k x):=by exact rfl)(hb:ag (rg al) b = .one (.int k y):=by exact rfl)(h:0<=x/\y≠0:=by omega):SK P ops nt L (o::l) al hs K:=
 JW ho wn.w wn.e wn.l ha hb h.1 h.2 hk
theorem sr{t t':TypeId}{a b:Operand}{k k':IntKind}{x y:Int}(hk:SK P ops nt L l ((d,.one (.int k (x/2^y.toNat)))::al) hs fun bs=>K (quiet::bs))(ho:o.op = .binOp .shr t a b t':=by exact rfl)(wn:Wn ops nt al o d:=by exact⟨rfl,rfl,rfl⟩)(ha:ag (rg al) a = .one (.int k x):=by exact rfl)(hb:ag (rg al) b = .one (.int k' y):=by exact rfl)(h:sV k x/\0<=x/\0<=y:=by exact⟨by show _/\_;omega,by omega⟩):SK P ops nt L (o::l) al hs K:=
 iM ho wn.w wn.e wn.l ha hb (MR h.1 h.2.1 h.2.2) hk
theorem Gq{t t':TypeId}{a b:Operand}{k k':IntKind}{x y:Int}{n:Nat}(hk:SK P ops nt L l ((d,.one (.int k (x*2^n)))::al) hs fun bs=>K (quiet::bs))(ho:o.op = .binOp .shl t a b t':=by exact rfl)(wn:Wn ops nt al o d:=by exact⟨rfl,rfl,rfl⟩)(ha:ag (rg al) a = .one (.int k x):=by exact rfl)(hb:ag (rg al) b = .one (.int k' y):=by exact rfl)(hn:y=(n:Nat):=by exact rfl)(h:n<=k.bits/\sV k (x*2^n):=by exact⟨by decide,by show _/\_;omega⟩):SK P ops nt L (o::l) al hs K:=
 iM ho wn.w wn.e wn.l ha hb (MQ hn h.1 h.2) hk
theorem an{t t':TypeId}{a b:Operand}{k:IntKind}{x y:Int}(n:Nat)(hk:SK P ops nt L l ((d,.one (.int k (x%2^n)))::al) hs fun bs=>K (quiet::bs))(ho:o.op = .binOp .and t a b t':=by exact rfl)(wn:Wn ops nt al o d:=by exact⟨rfl,rfl,rfl⟩)(ha:ag (rg al) a = .one (.int k x):=by exact rfl)(hb:ag (rg al) b = .one (.int k y):=by exact rfl)(h:y=2^n-1/\n<k.bits:=by(refine⟨by decide,by decide⟩)):SK P ops nt L (o::l) al hs K:=
 iM ho wn.w wn.e wn.l ha hb (Mf n h.1 h.2) hk
theorem NN{t t':TypeId}{a b:Operand}{k:IntKind}{x y:Int}(hk:SK P ops nt L l ((d,.one (.int k (Gp k x y)))::al) hs fun bs=>K (quiet::bs))(ho:o.op = .binOp .or t a b t':=by exact rfl)(wn:Wn ops nt al o d:=by exact⟨rfl,rfl,rfl⟩)(ha:ag (rg al) a = .one (.int k x):=by exact rfl)(hb:ag (rg al) b = .one (.int k y):=by exact rfl):SK P ops nt L (o::l) al hs K:=
 iM ho wn.w wn.e wn.l ha hb (by simp only[bU,dL,if_true,cz,Gp]) hk
theorem Nm{t t':TypeId}{a b:Operand}{k:IntKind}{x y:Int}(hk:SK P ops nt L l ((d,.one (.int k (G_ k x y)))::al) hs fun bs=>K (quiet::bs))(ho:o.op = .binOp .and t a b t':=by exact rfl)(wn:Wn ops nt al o d:=by exact⟨rfl,rfl,rfl⟩)(ha:ag (rg al) a = .one (.int k x):=by exact rfl)(hb:ag (rg al) b = .one (.int k y):=by exact rfl):SK P ops nt L (o::l) al hs K:=
 iM ho wn.w wn.e wn.l ha hb (by simp only[bU,dL,if_true,cz,G_]) hk
theorem cT{t t':TypeId}{a b:Operand}{op:BinOp}{k:IntKind}{x y:Int}{p:Prop}(hk:SK P ops nt L l ((d,.one (.bool true))::al) hs fun bs=>K (quiet::bs))(ho:o.op = .binOp op t a b t':=by exact rfl)(wn:Wn ops nt al o d:=by exact⟨rfl,rfl,rfl⟩)(ha:ag (rg al) a = .one (.int k x):=by exact rfl)(hb:ag (rg al) b = .one (.int k y):=by exact rfl)(hp:Bl op x y=some p:=by exact rfl)(h:p:=by(show(_:Prop);first|omega|exact of_decide_eq_true rfl)):SK P ops nt L (o::l) al hs K:=
 y7 ho wn.w wn.e wn.l ha hb hp (fun _=>hk) (fun n=>absurd h n)
theorem cF{t t':TypeId}{a b:Operand}{op:BinOp}{k:IntKind}{x y:Int}{p:Prop}(hk:SK P ops nt L l ((d,.one (.bool false))::al) hs fun bs=>K (quiet::bs))(ho:o.op = .binOp op t a b t':=by exact rfl)(wn:Wn ops nt al o d:=by exact⟨rfl,rfl,rfl⟩)(ha:ag (rg al) a = .one (.int k x):=by exact rfl)(hb:ag (rg al) b = .one (.int k y):=by exact rfl)(hp:Bl op x y=some p:=by exact rfl)(h:¬p:=by(show¬(_:Prop);first|omega|exact of_decide_eq_false rfl)):SK P ops nt L (o::l) al hs K:=
 y7 ho wn.w wn.e wn.l ha hb hp (fun n=>absurd n h) (fun _=>hk)
theorem cX{t t':TypeId}{a b:Operand}{op:BinOp}{k:IntKind}{x y:Int}{p:Prop}(h1:p->SK P ops nt L l ((d,.one (.bool true))::al) hs fun bs=>K (quiet::bs))(h2:¬p->SK P ops nt L l ((d,.one (.bool false))::al) hs fun bs=>K (quiet::bs))(ho:o.op = .binOp op t a b t':=by exact rfl)(wn:Wn ops nt al o d:=by exact⟨rfl,rfl,rfl⟩)(ha:ag (rg al) a = .one (.int k x):=by exact rfl)(hb:ag (rg al) b = .one (.int k y):=by exact rfl)(hp:Bl op x y=some p:=by exact rfl):SK P ops nt L (o::l) al hs K:=
 y7 ho wn.w wn.e wn.l ha hb hp h1 h2
theorem Mj{t t':TypeId}{a b:Operand}{x y:Bool}(hk:SK P ops nt L l ((d,.one (.bool (!(x==y))))::al) hs fun bs=>K (quiet::bs))(ho:o.op = .binOp .neq t a b t':=by exact rfl)(wn:Wn ops nt al o d:=by exact⟨rfl,rfl,rfl⟩)(hu:aZ P t .bool:=by infer_instance)(hg:P.eqGuardType P.depth t=false:=by kernel_rfl)(ha:ag (rg al) a = .one (.bool x):=by exact rfl)(hb:ag (rg al) b = .one (.bool y):=by exact rfl):SK P ops nt L (o::l) al hs K:=
 SK.lift wn.e wn.l (fun _=>aH.pure wn.w (by rw[ho];simp only[ba,ha,hb,qn,zt,hg,Bool.false_eq_true,if_false,du,hu.out,zq,Option.map_some])) hk
theorem Nr{t t' e:TypeId}{a b:Operand}{i off:Nat}(hk:SK P ops nt L l ((d,.one (.bool false))::al) hs fun bs=>K (quiet::bs))(ho:o.op = .binOp .eql t a b t':=by exact rfl)(wn:Wn ops nt al o d:=by exact⟨rfl,rfl,rfl⟩)(hu:aZ P t (.pointer e):=by infer_instance)(ha:ag (rg al) a = .one (.ptr i off):=by exact rfl)(hb:ag (rg al) b = .one .nilp:=by exact rfl):SK P ops nt L (o::l) al hs K:=
 SK.lift wn.e wn.l (fun _=>aH.pure wn.w (by rw[ho];simp only[ba,ha,hb,qn,zt,du,hu.out,zq,Option.map_some])) hk
theorem NK{t t' e:TypeId}{a b:Operand}{i off:Nat}(hk:SK P ops nt L l ((d,.one (.bool true))::al) hs fun bs=>K (quiet::bs))(ho:o.op = .binOp .neq t a b t':=by exact rfl)(wn:Wn ops nt al o d:=by exact⟨rfl,rfl,rfl⟩)(hu:aZ P t (.pointer e):=by infer_instance)(ha:ag (rg al) a = .one (.ptr i off):=by exact rfl)(hb:ag (rg al) b = .one .nilp:=by exact rfl):SK P ops nt L (o::l) al hs K:=
 SK.lift wn.e wn.l (fun _=>aH.pure wn.w (by rw[ho];simp only[ba,ha,hb,qn,zt,du,hu.out,zq,Option.map_some,Bool.not_false])) hk
theorem NJ{a b:Operand}{ts:Array TypeId}{k k':IntKind}{x y:Int}(hk:SK P ops nt L l ((d,.one (.int k x))::al) hs fun bs=>K (quiet::bs))(ho:o.op = .call ⟨.builtin .max,#[a,b],ts⟩:=by exact rfl)(wn:Wn ops nt al o d:=by exact⟨rfl,rfl,rfl⟩)(ha:ag (rg al) a = .one (.int k x):=by exact rfl)(hb:ag (rg al) b = .one (.int k' y):=by exact rfl)(h:max x y=x:=by first|exact Int.max_eq_left (by omega)):SK P ops nt L (o::l) al hs K:=
 Fq ho wn.w wn.e wn.l ha hb h hk
theorem L3{a b:Operand}{ts:Array TypeId}{k k':IntKind}{x y:Int}(hk:SK P ops nt L l ((d,.one (.int k (max x y)))::al) hs fun bs=>K (quiet::bs))(ho:o.op = .call ⟨.builtin .max,#[a,b],ts⟩:=by exact rfl)(wn:Wn ops nt al o d:=by exact⟨rfl,rfl,rfl⟩)(ha:ag (rg al) a = .one (.int k x):=by exact rfl)(hb:ag (rg al) b = .one (.int k' y):=by exact rfl):SK P ops nt L (o::l) al hs K:=
 Fq ho wn.w wn.e wn.l ha hb rfl hk
theorem ND{a b:Operand}{ts:Array TypeId}{k k':IntKind}{x y:Int}(hk:SK P ops nt L l ((d,.one (.int k x))::al) hs fun bs=>K (quiet::bs))(ho:o.op = .call ⟨.builtin .min,#[a,b],ts⟩:=by exact rfl)(wn:Wn ops nt al o d:=by exact⟨rfl,rfl,rfl⟩)(ha:ag (rg al) a = .one (.int k x):=by exact rfl)(hb:ag (rg al) b = .one (.int k' y):=by exact rfl)(h:min x y=x:=by first|exact Int.min_eq_left (by omega)):SK P ops nt L (o::l) al hs K:=
 y_ ho wn.w wn.e wn.l ha hb h hk
theorem NF{a b:Operand}{ts:Array TypeId}{k k':IntKind}{x y:Int}(hk:SK P ops nt L l ((d,.one (.int k y))::al) hs fun bs=>K (quiet::bs))(ho:o.op = .call ⟨.builtin .min,#[a,b],ts⟩:=by exact rfl)(wn:Wn ops nt al o d:=by exact⟨rfl,rfl,rfl⟩)(ha:ag (rg al) a = .one (.int k x):=by exact rfl)(hb:ag (rg al) b = .one (.int k' y):=by exact rfl)(h:min x y=y:=by first|exact Int.min_eq_right (by omega)):SK P ops nt L (o::l) al hs K:=
 y_ ho wn.w wn.e wn.l ha hb h hk
theorem Nh{a b:Operand}{ts:Array TypeId}{k k':IntKind}{x y:Int}(hk:SK P ops nt L l ((d,.one (.int k (min x y)))::al) hs fun bs=>K (quiet::bs))(ho:o.op = .call ⟨.builtin .min,#[a,b],ts⟩:=by exact rfl)(wn:Wn ops nt al o d:=by exact⟨rfl,rfl,rfl⟩)(ha:ag (rg al) a = .one (.int k x):=by exact rfl)(hb:ag (rg al) b = .one (.int k' y):=by exact rfl):SK P ops nt L (o::l) al hs K:=
 y_ ho wn.w wn.e wn.l ha hb rfl hk
theorem cv{s t:TypeId}{y:Operand}{u:TypeDesc}{k k':IntKind}{x:Int}(hk:SK P ops nt L l ((d,.one (.int k' x))::al) hs fun bs=>K (quiet::bs))(ho:o.op = .convert s t y:=by exact rfl)(wn:Wn ops nt al o d:=by exact⟨rfl,rfl,rfl⟩)(hy:ag (rg al) y = .one (.int k x):=by exact rfl)(h1:aZ P s u:=by infer_instance)(h2:aZ P t (.int k'):=by infer_instance)(h:sV k' x:=by(show _/\_;omega)):SK P ops nt L (o::l) al hs K:=
 HM ho wn.w wn.e wn.l hy (gv h) hk
theorem nl{a:Operand}{i off:Nat}(hk:SK P ops nt L l ((d,.one (.ptr i off))::al) hs fun bs=>K (quiet::bs))(ho:o.op = .nilCheck a:=by exact rfl)(wn:Wn ops nt al o d:=by exact⟨rfl,rfl,rfl⟩)(ha:ag (rg al) a = .one (.ptr i off):=by exact rfl):SK P ops nt L (o::l) al hs K:=
 JU ho wn.w wn.e wn.l ha hk
theorem fa{s:TypeId}{a:Operand}{f:Nat}{i off:Nat}{ft:TypeId}{fo z:Nat}{p:Nat}(hk:SK P ops nt L l ((d,.one (.ptr i p))::al) hs fun bs=>K (quiet::bs))(ho:o.op = .fieldAddr s a f:=by exact rfl)(wn:Wn ops nt al o d:=by exact⟨rfl,rfl,rfl⟩)(ha:ag (rg al) a = .one (.ptr i off):=by exact rfl)(hf:bP P s f ft fo:=by infer_instance)(hz:aO P ft (z+1):=by infer_instance)(hp:off+fo=p:=by exact n1):SK P ops nt L (o::l) al hs K:=
 JR ho wn.w wn.e wn.l ha hp hk
theorem Nu{t:TypeId}{a b:Operand}{elem:TypeId}{s:Nat}{k:IntKind}{z:Int}{i off len:Nat}{p:Nat}(hk:SK P ops nt L l ((d,.one (.ptr i p))::al) hs fun bs=>K (quiet::bs))(ho:o.op = .indexAddr t a b:=by exact rfl)(wn:Wn ops nt al o d:=by exact⟨rfl,rfl,rfl⟩)(hb:ag (rg al) b = .one (.int k z):=by exact rfl)(ha:ag (rg al) a = .one (.ptr i off):=by exact rfl)(hu:aZ P t (.array len elem):=by infer_instance)(hs':aO P elem s:=by infer_instance)(hz:0<=z/\z<(len:Nat):=by first|omega|decide)(hp:off+z.toNat*s=p:=by exact n1):SK P ops nt L (o::l) al hs K:=
 HP ho wn.w wn.e wn.l ha hb hz hp hk
theorem Nv{t:TypeId}{a b:Operand}{elem:TypeId}{s:Nat}{k:IntKind}{z:Int}{i off len:Nat}{cap:vy}{p:Nat}(hk:SK P ops nt L l ((d,.one (.ptr i p))::al) hs fun bs=>K (quiet::bs))(ho:o.op = .indexAddr t a b:=by exact rfl)(wn:Wn ops nt al o d:=by exact⟨rfl,rfl,rfl⟩)(hb:ag (rg al) b = .one (.int k z):=by exact rfl)(ha:ag (rg al) a = .one (.slice i off len cap):=by exact rfl)(hu:aZ P t (.slice elem):=by infer_instance)(hs':aO P elem s:=by infer_instance)(hz:0<=z/\z<(len:Nat):=by first|omega|decide)(hp:off+z.toNat*s=p:=by exact n1):SK P ops nt L (o::l) al hs K:=
 AD ho wn.w wn.e wn.l ha hb hz hp hk
theorem Ns{t:TypeId}{a b:Operand}{elem:TypeId}{s:Nat}{k:IntKind}{z:Int}{i off len:Nat}{c:XC}{p:Nat}(hk:SK P ops nt L l ((d,.one (.ptr i p))::al) hs fun bs=>K (quiet::bs))(ho:o.op = .indexAddr t a b:=by exact rfl)(wn:Wn ops nt al o d:=by exact⟨rfl,rfl,rfl⟩)(hb:ag (rg al) b = .one (.int k z):=by exact rfl)(ha:ag (rg al) a = .one c:=by exact rfl)(hc:gS c i off len:=by assumption)(hu:aZ P t (.slice elem):=by infer_instance)(hs':aO P elem s:=by infer_instance)(hz:0<=z/\z<(len:Nat):=by first|omega|decide)(hp:off+z.toNat*s=p:=by exact n1):SK P ops nt L (o::l) al hs K:=
 HO ho wn.w wn.e wn.l ha hb hc hz hp hk
theorem Nt{t:TypeId}{a b:Operand}{elem:TypeId}{s:Nat}{k:IntKind}{z:Int}{i n sz:Nat}{p:Nat}(hk:SK P ops nt L l ((d,.one (.ptr i p))::al) hs fun bs=>K (quiet::bs))(ho:o.op = .indexAddr t a b:=by exact rfl)(wn:Wn ops nt al o d:=by exact⟨rfl,rfl,rfl⟩)(hb:ag (rg al) b = .one (.int k z):=by exact rfl)(ha:ag (rg al) a=kA i n sz:=by exact rfl)(hu:aZ P t (.slice elem):=by infer_instance)(hs':aO P elem s:=by infer_instance)(hz:0<=z/\z<(n:Nat):=by omega)(hp:0+z.toNat*s=p:=by exact n1):SK P ops nt L (o::l) al hs K:=
 AD ho wn.w wn.e wn.l (ha.trans (oC (by omega))) hb hz hp hk
theorem NC{a:Operand}{t elem:TypeId}{i off len:Nat}{cap:vy}(hk:SK P ops nt L l ((d,.one (.int .i64 (len:Nat)))::al) hs fun bs=>K (quiet::bs))(ho:o.op = .call ⟨.builtin .len,#[a],#[t]⟩:=by exact rfl)(wn:Wn ops nt al o d:=by exact⟨rfl,rfl,rfl⟩)(ha:ag (rg al) a = .one (.slice i off len cap):=by exact rfl)(hu:aZ P t (.slice elem):=by infer_instance):SK P ops nt L (o::l) al hs K:=
 HT ho wn.w wn.e wn.l ha hk
theorem NB{a:Operand}{t elem:TypeId}(hk:SK P ops nt L l ((d,.one (.int .i64 0))::al) hs fun bs=>K (quiet::bs))(ho:o.op = .call ⟨.builtin .len,#[a],#[t]⟩:=by exact rfl)(wn:Wn ops nt al o d:=by exact⟨rfl,rfl,rfl⟩)(ha:ag (rg al) a = .one .nils:=by exact rfl)(hu:aZ P t (.slice elem):=by infer_instance):SK P ops nt L (o::l) al hs K:=
 SK.lift wn.e wn.l (fun _=>aH.pure wn.w (by rw[ho];simp[ba,dW,ha,xy,hu.out])) hk
theorem Nz{a:Operand}{t elem:TypeId}{i off len:Nat}{c:XC}(hk:SK P ops nt L l ((d,.one (.int .i64 (len:Nat)))::al) hs fun bs=>K (quiet::bs))(ho:o.op = .call ⟨.builtin .len,#[a],#[t]⟩:=by exact rfl)(wn:Wn ops nt al o d:=by exact⟨rfl,rfl,rfl⟩)(ha:ag (rg al) a = .one c:=by exact rfl)(hc:gS c i off len:=by assumption)(hu:aZ P t (.slice elem):=by infer_instance):SK P ops nt L (o::l) al hs K:=
 HQ ho wn.w wn.e wn.l ha hc hk
theorem NA{a:Operand}{t elem:TypeId}{i n sz:Nat}(hk:SK P ops nt L l ((d,.one (.int .i64 (n:Nat)))::al) hs fun bs=>K (quiet::bs))(ho:o.op = .call ⟨.builtin .len,#[a],#[t]⟩:=by exact rfl)(wn:Wn ops nt al o d:=by exact⟨rfl,rfl,rfl⟩)(ha:ag (rg al) a=kA i n sz:=by exact rfl)(hu:aZ P t (.slice elem):=by infer_instance):SK P ops nt L (o::l) al hs K:=
 HR ho wn.w wn.e wn.l ha hk
theorem fd{s:TypeId}{a:Operand}{f:Nat}{cs:List XC}{ft:TypeId}{fo:Nat}{c:XC}(hk:SK P ops nt L l ((d,.one c)::al) hs fun bs=>K (quiet::bs))(ho:o.op = .field s a f:=by exact rfl)(wn:Wn ops nt al o d:=by exact⟨rfl,rfl,rfl⟩)(ha:ag (rg al) a = .agg cs:=by exact rfl)(hf:bP P s f ft fo:=by infer_instance)(hz:dE P ft:=by infer_instance)(hc:cs[fo]? = some c:=by exact rfl):SK P ops nt L (o::l) al hs K:=
 Fo ho wn.w wn.e wn.l ha hc hk
theorem N5{a:Operand}{i:Nat}{vs:List X1}{c:XC}(hk:SK P ops nt L l ((d,.one c)::al) hs fun bs=>K (quiet::bs))(ho:o.op = .extract a i:=by exact rfl)(wn:Wn ops nt al o d:=by exact⟨rfl,rfl,rfl⟩)(ha:ag (rg al) a = .tup vs:=by exact rfl)(hc:vs[i]? = some (.one c):=by exact rfl):SK P ops nt L (o::l) al hs K:=
 JQ ho wn.w wn.e wn.l ha hc hk
theorem N6{a:Operand}{i:Nat}{vs:List X1}{c:List XC}(hk:SK P ops nt L l ((d,.agg c)::al) hs fun bs=>K (quiet::bs))(ho:o.op = .extract a i:=by exact rfl)(wn:Wn ops nt al o d:=by exact⟨rfl,rfl,rfl⟩)(ha:ag (rg al) a = .tup vs:=by exact rfl)(hc:vs[i]? = some (.agg c):=by exact rfl):SK P ops nt L (o::l) al hs K:=
 HN ho wn.w wn.e wn.l ha hc hk
theorem Ng(T:Nat->Int){t:TypeId}{x ix:Operand}{s:List UInt8}{k:IntKind}{z:Int}(hk:SK P ops nt L l ((d,.one (.int .u8 (T z.toNat)))::al) hs fun bs=>K (quiet::bs))(ho:o.op = .index t x ix:=by exact rfl)(wn:Wn ops nt al o d:=by exact⟨rfl,rfl,rfl⟩)(hu:aZ P t .string:=by infer_instance)(ha:ag (rg al) x = .one (.str s):=by exact rfl)(hb:ag (rg al) ix = .one (.int k z):=by exact rfl)(hz:0<=z/\z<256:=by omega)(hT:∀i:Fin 256,s[i.val]?.map (fun b=>(b.toNat:Int))=some (T i.val):=by decide +kernel):SK P ops nt L (o::l) al hs K:=
 JS T ho wn.w wn.e wn.l ha hb hz hT hk
theorem ld{t:TypeId}{a:Operand}{i off:Nat}{vs:List XC}{e:TypeId}{opn ro:Bool}{c:XC}(hk:SK P ops nt L l ((d,.one c)::al) hs fun bs=>K (⟨false,some i,[]⟩::bs))(ho:o.op = .load t a:=by exact rfl)(ht:dE P t:=by infer_instance)(wn:Wn ops nt al o d:=by exact⟨rfl,rfl,rfl⟩)(ha:ag (rg al) a = .one (.ptr i off):=by exact rfl)(hi:hs[i]? = some (.cells vs e opn ro):=by exact rfl)(hc:vs[off]? = some c:=by exact rfl):SK P ops nt L (o::l) al hs K:=
 fh ho wn.w wn.e wn.l ha hi hc hk
theorem Nw{t:TypeId}{a:Operand}{i off:Nat}{k:IntKind}{q:List Int}{e:TypeId}{opn ro:Bool}(hk:SK P ops nt L l ((d,.one (.int k (q.getD off 0)))::al) hs fun bs=>K (⟨false,some i,[]⟩::bs))(ho:o.op = .load t a:=by exact rfl)(ht:dE P t:=by infer_instance)(wn:Wn ops nt al o d:=by exact⟨rfl,rfl,rfl⟩)(ha:ag (rg al) a = .one (.ptr i off):=by exact rfl)(hi:hs[i]? = some (.cells (il k q) e opn ro):=by exact rfl)(hc:off<q.length:=by first|omega|decide|(simp only[d7,aL,List.length_cons,List.length_nil,List.length_set,List.length_append,List.length_replicate];first|omega|decide)):SK P ops nt L (o::l) al hs K:=
 fh ho wn.w wn.e wn.l ha hi (Eh hc) hk
theorem Ny{t:TypeId}{a:Operand}{i off:Nat}{k:IntKind}{q:List Int}{e:TypeId}(hk:SK P ops nt L l ((d,.one (.int k (q.getD off 0)))::al) hs fun bs=>K (⟨false,some i,[]⟩::bs))(ho:o.op = .load t a:=by exact rfl)(ht:dE P t:=by infer_instance)(wn:Wn ops nt al o d:=by exact⟨rfl,rfl,rfl⟩)(ha:ag (rg al) a = .one (.ptr i off):=by exact rfl)(hi:hs[i]? = some (dG e (il k q)):=by exact rfl)(hc:off<q.length:=by first|omega|decide|(simp only[d7,aL,List.length_cons,List.length_nil,List.length_set,List.length_append,List.length_replicate];first|omega|decide)):SK P ops nt L (o::l) al hs K:=
 fh ho wn.w wn.e wn.l ha (hi.trans (congrArg some (iW (fun hn=>by rw[show q = [] by simpa [il]using hn]at hc;exact absurd hc (Nat.not_lt_zero _))))) (Eh hc) hk
theorem Nx{t:TypeId}{a:Operand}{i off:Nat}{k:IntKind}{n:Nat}{q:Nat->Int}{e:TypeId}{opn ro:Bool}(hk:SK P ops nt L l ((d,.one (.int k (q off)))::al) hs fun bs=>K (⟨false,some i,[]⟩::bs))(ho:o.op = .load t a:=by exact rfl)(ht:dE P t:=by infer_instance)(wn:Wn ops nt al o d:=by exact⟨rfl,rfl,rfl⟩)(ha:ag (rg al) a = .one (.ptr i off):=by exact rfl)(hi:hs[i]? = some (.cells (ti k n q) e opn ro):=by exact rfl)(hc:off<n:=by omega):SK P ops nt L (o::l) al hs K:=
 fh ho wn.w wn.e wn.l ha hi (eY hc) hk
theorem fV{t:TypeId}{a:Operand}{s:Nat}{i:Nat}{vs:List XC}{e:TypeId}{opn ro:Bool}(hk:SK P ops nt L l ((d,.agg vs)::al) hs fun bs=>K (⟨false,some i,[]⟩::bs))(ho:o.op = .load t a:=by exact rfl)(ht:c9 P t:=by infer_instance)(hs':aO P t s:=by infer_instance)(wn:Wn ops nt al o d:=by exact⟨rfl,rfl,rfl⟩)(ha:ag (rg al) a = .one (.ptr i 0):=by exact rfl)(hi:hs[i]? = some (.cells vs e opn ro):=by exact rfl)(hle:s=vs.length:=by exact rfl):SK P ops nt L (o::l) al hs K:=
 y8 ho wn.w wn.e wn.l ha hi hle hk
theorem mU{t:TypeId}{a:Operand}{s:Nat}{i off:Nat}{vs:List XC}{e:TypeId}{opn ro:Bool}{cs:List XC}(hk:SK P ops nt L l ((d,.agg cs)::al) hs fun bs=>K (⟨false,some i,[]⟩::bs))(ho:o.op = .load t a:=by exact rfl)(ht:c9 P t:=by infer_instance)(hs':aO P t s:=by infer_instance)(wn:Wn ops nt al o d:=by exact⟨rfl,rfl,rfl⟩)(ha:ag (rg al) a = .one (.ptr i off):=by exact rfl)(hi:hs[i]? = some (.cells vs e opn ro):=by exact rfl)(hle:off+s<=vs.length:=by first|exact Nat.le_of_ble_eq_true rfl|decide)(hc:(vs.drop off).take s=cs:=by exact rfl):SK P ops nt L (o::l) al hs K:=
 sa ho wn.w wn.e wn.l ha hi hle hc hk
theorem qd{t:TypeId}{zs:List XC}{n:Nat}{hs':ai}(hk:SK P ops nt L l ((d,.one (.ptr n 0))::al) hs' fun bs=>K (⟨true,.none,[n]⟩::bs))(ho:o.op = .alloc t:=by exact rfl)(hz:aX P t zs:=by infer_instance)(wn:Wn ops nt al o d:=by exact⟨rfl,rfl,rfl⟩)(hn:hs.length=n:=by exact n2)(hb:Nat.blt n Mem.bound=true:=by exact rfl)(hh:hs++[.cells zs t false false]=hs':=by exact n3):SK P ops nt L (o::l) al hs K:=
 Fl ho wn.w wn.e wn.l hn hb hh hk
theorem bx{t:TypeId}{y:Operand}{cs:List XC}{n:Nat}{hs':ai}(hk:SK P ops nt L l ((d,.one (.ptr n 0))::al) hs' fun bs=>K (⟨true,.none,[n]⟩::bs))(ho:o.op = .box t y:=by exact rfl)(wn:Wn ops nt al o d:=by exact⟨rfl,rfl,rfl⟩)(hy:cu (ag (rg al) y)=some cs:=by exact rfl)(hn:hs.length=n:=by exact n2)(hb:Nat.blt n Mem.bound=true:=by exact rfl)(hh:hs++[.cells cs t false false]=hs':=by exact n3):SK P ops nt L (o::l) al hs K:=
 JO ho wn.w wn.e wn.l hy hn hb hh hk
theorem mm{t:TypeId}{n:Nat}{hs':ai}(hk:SK P ops nt L l ((d,.one (.map n))::al) hs' fun bs=>K (⟨true,.none,[n]⟩::bs))(ho:o.op = .makeMap t .none:=by exact rfl)(wn:Wn ops nt al o d:=by exact⟨rfl,rfl,rfl⟩)(hn:hs.length=n:=by exact n2)(hb:Nat.blt n Mem.bound=true:=by exact rfl)(hh:hs++[.map []]=hs':=by exact n3):SK P ops nt L (o::l) al hs K:=
 y9 ho wn.w wn.e wn.l hn hb hh hk
theorem st{t:TypeId}{a y:Operand}{i off:Nat}{c:XC}{vs:List XC}{e:TypeId}{opn:Bool}{vs':List XC}{hs':ai}(hk:SK P ops nt L l al hs' fun bs=>K (⟨true,.none,[i]⟩::bs))(ho:o.op = .store t a y:=by exact rfl)(ht:aO P t 1:=by infer_instance)(hw:av ops (rg al) o=some true:=by exact rfl)(hd:o.dst = .none:=by exact rfl)(ha:ag (rg al) a = .one (.ptr i off):=by exact rfl)(hy:cu (ag (rg al) y)=some [c]:=by exact rfl)(hi:hs[i]? = some (.cells vs e opn false):=by exact rfl)(hle:off<vs.length:=by first|exact Nat.le_of_ble_eq_true rfl|decide)(hv:vs.set off c=vs':=by exact n4)(hh:hs.set i (.cells vs' e opn false)=hs':=by exact n4):SK P ops nt L (o::l) al hs K:=
 jk ho hw hd ha hy hi hle hv hh hk
theorem NY{t:TypeId}{a y:Operand}{i off:Nat}{k:IntKind}{z:Int}{q:List Int}{e:TypeId}{opn:Bool}{hs':ai}(hk:SK P ops nt L l al hs' fun bs=>K (⟨true,.none,[i]⟩::bs))(ho:o.op = .store t a y:=by exact rfl)(ht:aO P t 1:=by infer_instance)(hw:av ops (rg al) o=some true:=by exact rfl)(hd:o.dst = .none:=by exact rfl)(ha:ag (rg al) a = .one (.ptr i off):=by exact rfl)(hy:cu (ag (rg al) y)=some [.int k z]:=by exact rfl)(hi:hs[i]? = some (.cells (il k q) e opn false):=by exact rfl)(hle:off<q.length:=by first|omega|decide|(simp only[d7,aL,List.length_cons,List.length_nil,List.length_set,List.length_append,List.length_replicate];first|omega|decide))(hh:hs.set i (.cells (il k (q.set off z)) e opn false)=hs':=by exact n4):SK P ops nt L (o::l) al hs K:=
 jk ho hw hd ha hy hi (by rw[d7];exact hle) (Ei ..) hh hk
theorem N2{t:TypeId}{a y:Operand}{i off:Nat}{k:IntKind}{z:Int}{q:List Int}{e:TypeId}{hs':ai}(hk:SK P ops nt L l al hs' fun bs=>K (⟨true,.none,[i]⟩::bs))(ho:o.op = .store t a y:=by exact rfl)(ht:aO P t 1:=by infer_instance)(hw:av ops (rg al) o=some true:=by exact rfl)(hd:o.dst = .none:=by exact rfl)(ha:ag (rg al) a = .one (.ptr i off):=by exact rfl)(hy:cu (ag (rg al) y)=some [.int k z]:=by exact rfl)(hi:hs[i]? = some (dG e (il k q)):=by exact rfl)(hle:off<q.length:=by first|omega|decide|(simp only[d7,aL,List.length_cons,List.length_nil,List.length_set,List.length_append,List.length_replicate];first|omega|decide))(hh:hs.set i (dG e (il k (q.set off z)))=hs':=by exact n4):SK P ops nt L (o::l) al hs K:=
 CB ho hw hd ha hy hi hle hh hk
theorem NZ{t:TypeId}{a y:Operand}{i off:Nat}{k:IntKind}{z:Int}{n:Nat}{q:Nat->Int}{e:TypeId}{opn:Bool}{hs':ai}(hk:SK P ops nt L l al hs' fun bs=>K (⟨true,.none,[i]⟩::bs))(ho:o.op = .store t a y:=by exact rfl)(ht:aO P t 1:=by infer_instance)(hw:av ops (rg al) o=some true:=by exact rfl)(hd:o.dst = .none:=by exact rfl)(ha:ag (rg al) a = .one (.ptr i off):=by exact rfl)(hy:cu (ag (rg al) y)=some [.int k z]:=by exact rfl)(hi:hs[i]? = some (.cells (ti k n q) e opn false):=by exact rfl)(hle:off<n:=by omega)(hh:hs.set i (.cells (ti k n (gM q off z)) e opn false)=hs':=by exact n4):SK P ops nt L (o::l) al hs K:=
 jk ho hw hd ha hy hi (by rw[aL];exact hle) (uX ..) hh hk
theorem lO{t:TypeId}{a y:Operand}{s:Nat}{i:Nat}{cs:List XC}{vs:List XC}{e:TypeId}{opn:Bool}{hs':ai}(hk:SK P ops nt L l al hs' fun bs=>K (⟨true,.none,[i]⟩::bs))(ho:o.op = .store t a y:=by exact rfl)(ht:aO P t s:=by infer_instance)(hw:av ops (rg al) o=some true:=by exact rfl)(hd:o.dst = .none:=by exact rfl)(ha:ag (rg al) a = .one (.ptr i 0):=by exact rfl)(hy:cu (ag (rg al) y)=some cs:=by exact rfl)(hi:hs[i]? = some (.cells vs e opn false):=by exact rfl)(hs1:s=cs.length:=by exact rfl)(hs2:s=vs.length:=by exact rfl)(hh:hs.set i (.cells cs e opn false)=hs':=by exact n4):SK P ops nt L (o::l) al hs K:=
 CC ho hw hd ha hy hi hs1 hs2 hh hk
theorem Lh{α : Type}{enc : α->List XC}{s:Nat}[hE:qb enc s][Inhabited α]{t:TypeId}{a:Operand}{i off:Nat}{e:TypeId}{q:List α}{j:Nat}(hk:SK P ops nt L l ((d,.agg (enc (q.getD j default)))::al) hs fun bs=>K (⟨false,some i,[]⟩::bs))(ho:o.op = .load t a:=by exact rfl)(ht:c9 P t:=by infer_instance)(hs':aO P t s:=by infer_instance)(wn:Wn ops nt al o d:=by exact⟨rfl,rfl,rfl⟩)(ha:ag (rg al) a = .one (.ptr i off):=by exact rfl)(hi:hs[i]? = some (dG e (fl enc q)):=by exact rfl)(hj:off=j*s:=by exact rfl)(hc:j<q.length:=by omega):SK P ops nt L (o::l) al hs K:=
 Fp ho wn.w wn.e wn.l ha hi hj hc hk
theorem uC{α : Type}{enc : α->List XC}{s:Nat}[hE:qb enc s][Inhabited α]{t:TypeId}{a:Operand}{i off:Nat}{ob:ah}{q:List α}{j:Nat}(hk:SK P ops nt L l ((d,.agg (enc (q.getD j default)))::al) hs fun bs=>K (⟨false,some i,[]⟩::bs))(ho:o.op = .load t a:=by exact rfl)(ht:c9 P t:=by infer_instance)(hs':aO P t s:=by infer_instance)(wn:Wn ops nt al o d:=by exact⟨rfl,rfl,rfl⟩)(ha:ag (rg al) a = .one (.ptr i off):=by exact rfl)(hi:hs[i]? = some ob:=by exact rfl)(hro:A1 ob enc q:=by assumption)(hj:off=j*s:=by exact rfl)(hc:j<q.length:=by omega):SK P ops nt L (o::l) al hs K:=
 CA ho wn.w wn.e wn.l ha hi hro hj hc hk
theorem b0{t:TypeId}{zs:List XC}{pl:List (Nat×Nat)}(hk:SK P ops nt L l ((d,.agg zs)::al) hs fun bs=>K (quiet::bs))(ho:o.op = .build t #[]:=by exact rfl)(hz:aX P t zs:=by infer_instance)(hp:cn P t pl:=by infer_instance)(wn:Wn ops nt al o d:=by exact⟨rfl,rfl,rfl⟩):SK P ops nt L (o::l) al hs K:=
 Cw ho wn.w wn.e wn.l hk
theorem Np{t:TypeId}{zs:List XC}{n:Nat}{e:TypeId}{s:Nat}(hk:SK P ops nt L l ((d,.agg zs)::al) hs fun bs=>K (quiet::bs))(ho:o.op = .build t #[]:=by exact rfl)(hz:aX P t zs:=by infer_instance)(hu:aZ P t (.array n e):=by infer_instance)(hs':aO P e s:=by infer_instance)(wn:Wn ops nt al o d:=by exact⟨rfl,rfl,rfl⟩):SK P ops nt L (o::l) al hs K:=
 y6 ho wn.w wn.e wn.l hk
theorem bA{t:TypeId}{parts:Array (Nat×Operand)}{zs:List XC}{n:Nat}{e:TypeId}{s:Nat}{out:List XC}{out':List XC}(hk:SK P ops nt L l ((d,.agg out')::al) hs fun bs=>K (quiet::bs))(ho:o.op = .build t parts:=by exact rfl)(hz:aX P t zs:=by infer_instance)(hu:aZ P t (.array n e):=by infer_instance)(hs':aO P e s:=by infer_instance)(wn:Wn ops nt al o d:=by exact⟨rfl,rfl,rfl⟩)(hr:l0 (fun i=>some (i*s,s)) zs.length 0 (parts.toList.map fun p=>(p.1,ag (rg al) p.2))=true:=by exact rfl)(hc:iq (parts.toList.map fun p=>(p.1,ag (rg al) p.2))=some out:=by exact rfl)(hn:out=out':=by first|(simp only[List.cons_append,List.nil_append,List.append_nil];exact rfl)|exact rfl):SK P ops nt L (o::l) al hs K:=
 Cx ho wn.w wn.e wn.l hr hc hn hk
theorem bS{t:TypeId}{parts:Array (Nat×Operand)}{zs:List XC}{pl:List (Nat×Nat)}{out:List XC}{out':List XC}(hk:SK P ops nt L l ((d,.agg out')::al) hs fun bs=>K (quiet::bs))(ho:o.op = .build t parts:=by exact rfl)(hz:aX P t zs:=by infer_instance)(hp:cn P t pl:=by infer_instance)(wn:Wn ops nt al o d:=by exact⟨rfl,rfl,rfl⟩)(hr:l0 (fun i=>pl[i]?) zs.length 0 (parts.toList.map fun p=>(p.1,ag (rg al) p.2))=true:=by exact rfl)(hc:iq (parts.toList.map fun p=>(p.1,ag (rg al) p.2))=some out:=by exact rfl)(hn:out=out':=by first|(simp only[List.cons_append,List.nil_append,List.append_nil];exact rfl)|exact rfl):SK P ops nt L (o::l) al hs K:=
 Cz ho wn.w wn.e wn.l hr hc hn hk
theorem bF{t:TypeId}{parts:Array (Nat×Operand)}{zs:List XC}{pl:List (Nat×Nat)}{out:List XC}(hk:SK P ops nt L l ((d,.agg out)::al) hs fun bs=>K (quiet::bs))(ho:o.op = .build t parts:=by exact rfl)(hz:aX P t zs:=by infer_instance)(hp:cn P t pl:=by infer_instance)(wn:Wn ops nt al o d:=by exact⟨rfl,rfl,rfl⟩)(hc:fL (fun i=>pl[i]?) zs (parts.toList.map fun p=>(p.1,ag (rg al) p.2))=some out:=by exact rfl):SK P ops nt L (o::l) al hs K:=
 Cy ho wn.w wn.e wn.l hc hk
theorem Nn{t t1 e:TypeId}{sz m:Nat}{a b:Operand}{zs:List XC}{i n:Nat}{cs ds:List XC}{N:Nat}{hs':ai}(hsrc:∀M,bj M hs->oQ P t1 sz (ag (rg al) b) M=some (m,ds))(hk:SK P ops nt L l ((d,.one (.slice N 0 (n+m) (.toEnd sz)))::al) hs' fun bs=>K (⟨true,.none,[i,N]⟩::bs))(ho:o.op = .call ⟨.builtin .append,#[a,b],#[t,t1]⟩:=by exact rfl)(hu:aZ P t (.slice e):=by infer_instance)(hz:aX P e zs:=by infer_instance)(hI:TI P e sz:=by infer_instance)(wn:Wn ops nt al o d:=by exact⟨rfl,rfl,rfl⟩)(hsz:zs.length=sz/\0<sz:=by exact⟨rfl,Nat.le_of_ble_eq_true rfl⟩)(ha:ag (rg al) a=kA i n sz:=by exact rfl)(hi:hs[i]? = some (dG e cs):=by exact rfl)(hn:cs.length=n*sz:=by first|(simp only[d7,Nat.mul_one];done)|(simp only[d7,Nat.mul_one];omega)|omega|decide|(simp only[d7,aL,List.length_cons,List.length_nil,List.length_set,List.length_append,List.length_replicate];first|(simp only[d7,Nat.mul_one];done)|(simp only[d7,Nat.mul_one];omega)|omega|decide))(hm:0<m/\n+m<=2000000000:=by omega)(hN:hs.length=N:=by exact n2)(hb:Nat.blt N Mem.bound=true:=by exact rfl)(hh:hs.set i .dead++[.cells (cs++ds) e true false]=hs':=by first|(simp only[List.set_cons_succ,List.set_cons_zero,List.cons_append,List.nil_append];exact rfl)|exact rfl):SK P ops nt L (o::l) al hs K:=
 y5 ho wn.w wn.e wn.l hsz ha hi hn hsrc hm hN hb hh hk
theorem M8{t t1 e e1:TypeId}{a b:Operand}{k:IntKind}{i n j len:Nat}{cap:vy}{q r:List Int}{et:TypeId}{opn ro:Bool}{N:Nat}{hs':ai}(hk:SK P ops nt L l ((d,kA N (n+len) 1)::al) hs' fun bs=>K (⟨true,.none,[i,N]⟩::bs))(ho:o.op = .call ⟨.builtin .append,#[a,b],#[t,t1]⟩:=by exact rfl)(hu:aZ P t (.slice e):=by infer_instance)(hu1:aZ P t1 (.slice e1):=by infer_instance)(hz:aX P e [.int k 0]:=by infer_instance)(hI:TI P e 1:=by infer_instance)(wn:Wn ops nt al o d:=by exact⟨rfl,rfl,rfl⟩)(ha:ag (rg al) a=kA i n 1:=by exact rfl)(hi:hs[i]? = some (dG e (il k q)):=by exact rfl)(hb:ag (rg al) b = .one (.slice j 0 len cap):=by exact rfl)(hj:hs[j]? = some (.cells (il k r) et opn ro):=by exact rfl)(hn:q.length=n:=by first|assumption|exact rfl|(simp only[List.length_append,List.length_cons,List.length_nil];done)|(simp only[List.length_append,List.length_cons,List.length_nil];omega))(hr:r.length=len:=by first|assumption|exact rfl|(simp only[List.length_append,List.length_cons,List.length_nil];done)|(simp only[List.length_append,List.length_cons,List.length_nil];omega))(hm:0<len/\n+len<=2000000000:=by omega)(hN:hs.length=N:=by exact n2)(hbd:Nat.blt N Mem.bound=true:=by exact rfl)(hh:hs.set i .dead++[dG e (il k (q++r))]=hs':=by first|(simp only[List.set_cons_succ,List.set_cons_zero,List.cons_append,List.nil_append];exact rfl)|exact rfl):SK P ops nt L (o::l) al hs K:=
 JM ho wn.w wn.e wn.l ha hi hb hj hn hr hm hN hbd hh hk
theorem M7{t t1 e e1:TypeId}{a b:Operand}{k:IntKind}{i len n:Nat}{q r:List Int}{et:TypeId}{opn ro:Bool}{N:Nat}{hs':ai}(hr:r.length=n)(hsrc:∀M,bj M hs->oQ P t1 1 (ag (rg al) b) M=some (n,il k r))(h1:n=0->SK P ops nt L l ((d,.one (.slice i 0 len (.exact len)))::al) hs fun bs=>K (⟨true,.none,[]⟩::bs))(h2:0<n->SK P ops nt L l ((d,.one (.slice N 0 (len+n) (.toEnd 1)))::al) hs' fun bs=>K (⟨true,.none,[N]⟩::bs))(ho:o.op = .call ⟨.builtin .append,#[a,b],#[t,t1]⟩:=by exact rfl)(hu:aZ P t (.slice e):=by infer_instance)(hu1:aZ P t1 (.slice e1):=by infer_instance)(hz:aX P e [.int k 0]:=by infer_instance)(hI:TI P e 1:=by infer_instance)(wn:Wn ops nt al o d:=by exact⟨rfl,rfl,rfl⟩)(ha:ag (rg al) a = .one (.slice i 0 len (.exact len)):=by exact rfl)(hi:hs[i]? = some (.cells (il k q) et opn ro):=by exact rfl)(hq:q.length=len:=by first|assumption|exact rfl)(hm:len+n<=2000000000:=by omega)(hN:hs.length=N:=by exact n2)(hbd:Nat.blt N Mem.bound=true:=by exact rfl)(hh:hs++[.cells (il k (q++r)) e true false]=hs':=by exact n3):SK P ops nt L (o::l) al hs K:=
 JL ho wn.w wn.e wn.l ha hi hq hr hsrc hm hN hbd hh h1 h2
theorem Ni{t e:TypeId}{a b:Operand}{k:IntKind}{kl kc:IntKind}{x y:Int}{n:Nat}{N:Nat}{hs':ai}(hk:SK P ops nt L l ((d,.one (.slice N 0 n (.exact n)))::al) hs' fun bs=>K (⟨true,.none,[N]⟩::bs))(ho:o.op = .makeSlice t a b:=by exact rfl)(hu:aZ P t (.slice e):=by infer_instance)(hz:aX P e [.int k 0]:=by infer_instance)(hI:TI P e 1:=by infer_instance)(wn:Wn ops nt al o d:=by exact⟨rfl,rfl,rfl⟩)(ha:ag (rg al) a = .one (.int kl x):=by exact rfl)(hb:ag (rg al) b = .one (.int kc y):=by exact rfl)(hx:x=(n:Nat):=by exact rfl)(hy:y=(n:Nat):=by exact rfl)(hn:n<=2000000000:=by first|omega|exact Nat.le_of_ble_eq_true rfl)(hN:hs.length=N:=by exact n2)(hbd:Nat.blt N Mem.bound=true:=by exact rfl)(hh:hs++[.cells (il k (List.replicate n 0)) e false false]=hs':=by exact n3):SK P ops nt L (o::l) al hs K:=
 JT ho wn.w wn.e wn.l ha hb hx hy hn hN hbd hh hk
theorem Ml{t e:TypeId}{k:IntKind}{n:Nat}{hs':ai}(hk:SK P ops nt L l ((d,.one (.slice n 0 0 (.exact 0)))::al) hs' fun bs=>K (⟨true,.none,[n]⟩::bs))(ho:o.op = .buildSlice t 0 #[]:=by exact rfl)(hu:aZ P t (.slice e):=by infer_instance)(hz:aX P e [.int k 0]:=by infer_instance)(hse:aO P e 1:=by infer_instance)(wn:Wn ops nt al o d:=by exact⟨rfl,rfl,rfl⟩)(hn:hs.length=n:=by exact n2)(hb:Nat.blt n Mem.bound=true:=by exact rfl)(hh:hs++[.cells (il k []) e false false]=hs':=by exact n3):SK P ops nt L (o::l) al hs K:=
 HJ ho wn.w wn.e wn.l hn hb hh hk
theorem Mm{t e:TypeId}{y:Operand}{k:IntKind}{z:Int}{n:Nat}{hs':ai}(hk:SK P ops nt L l ((d,.one (.slice n 0 1 (.exact 1)))::al) hs' fun bs=>K (⟨true,.none,[n]⟩::bs))(ho:o.op = .buildSlice t 1 #[(0,y)]:=by exact rfl)(hu:aZ P t (.slice e):=by infer_instance)(hz:aX P e [.int k 0]:=by infer_instance)(hse:aO P e 1:=by infer_instance)(wn:Wn ops nt al o d:=by exact⟨rfl,rfl,rfl⟩)(hy:cu (ag (rg al) y)=some [.int k z]:=by exact rfl)(hn:hs.length=n:=by exact n2)(hb:Nat.blt n Mem.bound=true:=by exact rfl)(hh:hs++[.cells (il k [z]) e false false]=hs':=by exact n3):SK P ops nt L (o::l) al hs K:=
 HL ho wn.w wn.e wn.l hy hn hb hh hk
theorem sQ{α : Type}{enc : α->List XC}{s:Nat}[hE:qb enc s]{t e:TypeId}{y:Operand}{zs:List XC}{a : α}{n:Nat}{hs':ai}(hk:SK P ops nt L l ((d,.one (.slice n 0 1 (.exact 1)))::al) hs' fun bs=>K (⟨true,.none,[n]⟩::bs))(ho:o.op = .buildSlice t 1 #[(0,y)]:=by exact rfl)(hu:aZ P t (.slice e):=by infer_instance)(hz:aX P e zs:=by infer_instance)(hse:aO P e s:=by infer_instance)(hzl:zs.length=s:=by exact rfl)(hsm:s<=16777216:=by exact Nat.le_of_ble_eq_true rfl)(wn:Wn ops nt al o d:=by exact⟨rfl,rfl,rfl⟩)(hy:cu (ag (rg al) y)=some (enc a):=by exact rfl)(hn:hs.length=n:=by exact n2)(hb:Nat.blt n Mem.bound=true:=by exact rfl)(hh:hs++[.cells (fl enc [a]) e false false]=hs':=by exact n3):SK P ops nt L (o::l) al hs K:=
 HK ho hzl hsm wn.w wn.e wn.l hy hn hb hh hk
theorem uf{α : Type}{enc : α->List XC}{s:Nat}[hE:qb enc s]{t t1 e e1:TypeId}{a b:Operand}{zs:List XC}{i n j len:Nat}{cap:vy}{q r:List α}{et:TypeId}{opn ro:Bool}{N:Nat}{hs':ai}(hk:SK P ops nt L l ((d,kA N (n+len) s)::al) hs' fun bs=>K (⟨true,.none,[i,N]⟩::bs))(ho:o.op = .call ⟨.builtin .append,#[a,b],#[t,t1]⟩:=by exact rfl)(hu:aZ P t (.slice e):=by infer_instance)(hu1:aZ P t1 (.slice e1):=by infer_instance)(hz:aX P e zs:=by infer_instance)(hI:TI P e s:=by infer_instance)(hzl:zs.length=s:=by exact rfl)(wn:Wn ops nt al o d:=by exact⟨rfl,rfl,rfl⟩)(ha:ag (rg al) a=kA i n s:=by exact rfl)(hi:hs[i]? = some (dG e (fl enc q)):=by exact rfl)(hb:ag (rg al) b = .one (.slice j 0 len cap):=by exact rfl)(hj:hs[j]? = some (.cells (fl enc r) et opn ro):=by exact rfl)(hn:q.length=n:=by first|assumption|exact rfl|(simp only[List.length_append,List.length_cons,List.length_nil];done)|(simp only[List.length_append,List.length_cons,List.length_nil];omega))(hr:r.length=len:=by first|assumption|exact rfl)(hm:0<len/\n+len<=2000000000:=by omega)(hN:hs.length=N:=by exact n2)(hbd:Nat.blt N Mem.bound=true:=by exact rfl)(hh:hs.set i .dead++[dG e (fl enc (q++r))]=hs':=by first|(simp only[List.set_cons_succ,List.set_cons_zero,List.cons_append,List.nil_append];exact rfl)|exact rfl):SK P ops nt L (o::l) al hs K:=
 JN ho hzl wn.w wn.e wn.l ha hi hb hj hn hr hm hN hbd hh hk
theorem cl{f:FuncId}{vs:List XV}{v:XV}{hs':ai}{ws:List Nat}{g:Operand}{args:Array Operand}{ts:Array TypeId}{c:XC}{caps:List XC}(hk:SK P ops nt (⟨f,vs,hs,v,hs',ws⟩::L) l ((d,v)::al) hs' fun bs=>K (⟨true,.none,ws++ll hs.length hs'.length⟩::bs))(ho:o.op = .call ⟨.value g,args,ts⟩:=by exact rfl)(wn:Wn ops nt al o d:=by exact⟨rfl,rfl,rfl⟩)(hg:ag (rg al) g = .one c:=by exact rfl)(hx:vw c=some (f,caps):=by exact rfl)(hcb:dX P f=true:=by kernel_rfl)(ha:args.toList.map (ag (rg al))++caps.map .one=vs:=by exact rfl)(hi:aC.Sound P ⟨f,vs,hs,v,hs',ws⟩):SK P ops nt L (o::l) al hs K:=
 aA hi ho wn.w wn.e wn.l hg hx hcb ha hk
theorem LR{f:FuncId}{vs:List XV}{v:XV}{hs':ai}{ws:List Nat}{g:Operand}{args:Array Operand}{ts:Array TypeId}{c:XC}{caps:List XC}(hk:SK P ops nt (⟨f,vs,hs,v,hs',ws⟩::L) l al hs' fun bs=>K (⟨true,.none,ws++ll hs.length hs'.length⟩::bs))(ho:o.op = .call ⟨.value g,args,ts⟩:=by exact rfl)(hw:av ops (rg al) o=some true:=by exact rfl)(hd:o.dst = .none:=by exact rfl)(hg:ag (rg al) g = .one c:=by exact rfl)(hx:vw c=some (f,caps):=by exact rfl)(hcb:dX P f=true:=by kernel_rfl)(ha:args.toList.map (ag (rg al))++caps.map .one=vs:=by exact rfl)(hi:aC.Sound P ⟨f,vs,hs,v,hs',ws⟩):SK P ops nt L (o::l) al hs K:=
 Fm hi ho hw hd hg hx hcb ha hk
theorem z5{f:FuncId}{vs:List XV}{b:Bool}{hs':ai}{ws:List Nat}{g:Operand}{args:Array Operand}{ts:Array TypeId}{c:XC}{caps:List XC}(h1:b=true->SK P ops nt (⟨f,vs,hs,.one (.bool b),hs',ws⟩::L) l ((d,.one (.bool true))::al) hs' fun bs=>K (⟨true,.none,ws++ll hs.length hs'.length⟩::bs))(h2:b=false->SK P ops nt (⟨f,vs,hs,.one (.bool b),hs',ws⟩::L) l ((d,.one (.bool false))::al) hs' fun bs=>K (⟨true,.none,ws++ll hs.length hs'.length⟩::bs))(ho:o.op = .call ⟨.value g,args,ts⟩:=by exact rfl)(wn:Wn ops nt al o d:=by exact⟨rfl,rfl,rfl⟩)(hg:ag (rg al) g = .one c:=by exact rfl)(hx:vw c=some (f,caps):=by exact rfl)(hcb:dX P f=true:=by kernel_rfl)(ha:args.toList.map (ag (rg al))++caps.map .one=vs:=by exact rfl)(hi:aC.Sound P ⟨f,vs,hs,.one (.bool b),hs',ws⟩):SK P ops nt L (o::l) al hs K:=by
 refine aA hi ho wn.w wn.e wn.l hg hx hcb ha ?_
 cases hb:b with
 | true=>rw[hb]at h1;exact h1 rfl
 | false=>rw[hb]at h2;exact h2 rfl
section
variable {K:cR}
theorem wS{a b:Code}(h:WX P nt nI (.code a) al hs (KG P nt nI b K)):WX P nt nI (.code (.seq a b)) al hs K:=
 WX.seq h
theorem wA{id:Nat}(h:SK P ops nt [] ops.toList al hs fun _ al' hs'=>K .normal al' hs'):WX P nt nI (.code (.region id ops false)) al hs K:=
 WX.KL h
theorem wD{id:Nat}(h:SK P ops nt [] ops.toList al hs fun bs al' hs'=>tm (gT ops.toList) bs=true/\K .normal al' hs')(hP:P.follows .mixedOrders=true:=by kernel_rfl)(hst:cA ops nt (gT ops.toList)=true:=by kernel_rfl):WX P nt nI (.code (.region id ops true)) al hs K:=
 WX.IY hP hst h
theorem wT{c:Operand}{x y:Code}(h:WX P nt nI (.code x) al hs K)(hc:ag (rg al) c = .one (.bool true):=by exact rfl):WX P nt nI (.code (.cond c x y)) al hs K:=
 WX.KZ hc h
theorem wF{c:Operand}{x y:Code}(h:WX P nt nI (.code y) al hs K)(hc:ag (rg al) c = .one (.bool false):=by exact rfl):WX P nt nI (.code (.cond c x y)) al hs K:=
 WX.KY hc h
theorem wK(h:K .normal al hs):WX P nt nI (.code .skip) al hs K:=
 WX.skip h
theorem wB{id:Nat}{c:Code}(h:WX P nt nI (.code c) al hs (ub id K)):WX P nt nI (.code (.block id c)) al hs K:=
 WX.block h
theorem wE{id:Nat}(h:K (.exit id) al hs):WX P nt nI (.code (.exit id)) al hs K:=
 WX.exit h
theorem wR(h:K .ret al hs):WX P nt nI (.code .ret) al hs K:=
 WX.ret h
end
end Go.Xm
namespace Go.Xm
variable [aw]
theorem nL{α : Type}{a b : α}(h:a=b:=by first|(simp only[List.length_cons,List.length_nil,List.length_append,List.length_set,Nat.reduceAdd,Nat.zero_add];exact rfl)|exact rfl|fail):a=b:=h
theorem nA{α : Type}{a b : α}(h:a=b:=by first|(simp only[bQ,List.set_cons_succ,List.set_cons_zero,List.cons_append,List.nil_append];exact rfl)|exact rfl|fail):a=b:=h
theorem hS{α : Type}{a b : α}(h:a=b:=by first|(simp only[List.set_cons_succ,List.set_cons_zero];exact rfl)|exact rfl|fail):a=b:=h
theorem zG{G G':Prop}(k:G')(h:G'->G:=by intro k;refine qz (qg ?_);first|exact NX k|fail):G:=h k
theorem zA{G G':Prop}(k:G')(h:G'->G:=by intro k;refine qz ?_;first
 |(refine q4 ?_;first|(refine t0 ?_;first|exact NH k|exact No k|exact NI k|fail)|(refine t1 ?_;first|exact Nw k|exact Nx k|exact Ny k|exact ld k|exact Lh k|exact uC k|exact fV k|exact mU k|fail)|(refine t2 ?_;first|exact NY k|exact NZ k|exact N2 k|exact st k|exact lO k|fail)|(refine t3 ?_;first|exact Nv k|exact Nu k|exact Ns k|exact Nt k|fail)|exact fa k|fail)
 |(refine NS ?_;first|exact ad k|exact sb k|exact ml k|exact qu k|exact re k|exact sr k|exact qt k|exact Gq (n:=1) k|exact Gq (n:=2) k|exact Gq (n:=3) k|exact Gq (n:=4) k|exact Gq (n:=5) k|exact Gq (n:=6) k|exact Gq (n:=7) k|exact Gq (n:=8) k|exact Gq k|exact an 1 k|exact an 2 k|exact an 3 k|exact an 4 k|exact an 5 k|exact an 6 k|exact an 8 k|exact an 7 k|exact NN k|exact Nm k|fail)
 |(refine NT ?_;first|exact cT k|exact cF k|exact Mj k|exact Nr k|exact NK k|fail)
 |(refine NU ?_;first|exact NQ k|exact NP k|exact NM k|exact ng k|exact cv k|exact N5 k|exact N6 k|exact nl k|fail)
 |(refine NV ?_;first|(refine N3 ?_;first|exact NC k|exact Nz k|exact NA k|exact NB k|fail)|exact NJ k|exact L3 k|exact ND k|exact NF k|exact Nh k|exact M8 k|exact uf k|fail)
 |exact b0 k|exact Np k|exact bS k|exact bA k|exact bF k|exact Ml k|exact Mm k|exact qd k|exact bx k|exact mm k|exact Ni k|fail):G:=h k
theorem Na{L:List aC}(h:af L:=by first|exact af.nil|exact af.one _|(refine af.i3 ?_;(repeat' (first|exact True.intro|refine And.intro ?_ ?_|exact Compat.ne rfl));done)|fail):af L:=h
theorem zz{G G':Prop}(k:G')(h:G'->G:=by intro k;first|exact zG k|exact zA k|exact aS Na ⟨by kernel_rfl,k⟩|exact aS Na k|exact wS k|exact wA k|exact wD k|exact wT k|exact wF k|exact wK k|exact wB k|exact wE k|exact wR k|fail):G:=h k
theorem zx{G:Prop}{A B:Prop}{G1:A->Prop}{G2:B->Prop}(k1:∀a,G1 a)(k2:∀b,G2 b)(h:(∀a,G1 a)->(∀b,G2 b)->G:=by intro k1 k2;first|exact cX k1 k2|fail):G:=h k1 k2
theorem b_{nI:Nat}{al al2:bc}{hs hs2:ai}(τl:List Nat)(nd:Nd τl hs2:=by exact(by first|exact Or.inl (by decide)|exact Or.inr ⟨_,(by repeat' (first|exact fj.nil|apply fj.dead|apply fj.cons)),(by decide)⟩))(hid:(List.range nI).all (fun j=>nth τl j==j)=true:=by exact rfl)(obj:ae (nth τl) hs τl hs2:=by(repeat' (first|exact ae.nil|refine ae.flat rfl ?_|refine ae.cons rfl ?_|refine ae.dead rfl ?_|refine ae.fu rfl rfl rfl rfl ?_|refine ae.cons (by simp only[ah.ax,List.map_cons,List.map_nil,XC.ax,aB];exact rfl) ?_));first|done|fail)(reg:ak (nth τl) al al2:=by(repeat' (first|exact ak.nil|refine ak.flat rfl ?_|refine ak.cons rfl ?_|refine ak.sl rfl (by assumption) rfl ?_|refine ak.gL rfl rfl (by first|rfl|omega|(simp;done)|(simp;omega)) ?_|refine ak.cons (by simp only[XV.ax,List.map_cons,List.map_nil,aB];rfl) ?_));first|done|fail):GoTo nI al hs al2 hs2 τl:=⟨nd,hid,obj,reg⟩
theorem hX{nI:Nat}{al:bc}{hs:ai}(le:Nat.ble nI hs.length=true:=by exact rfl)(bnd:Nat.blt hs.length Mem.bound=true:=by exact rfl)(objs:ay hs.length hs:=by repeat' (first|exact ay.nil|refine ay.flat ?_|refine ay.cons (by first|(simp[ah.bl,XC.ok,aE];done)|simp[ah.bl,XC.ok,aE, *]) ?_))(g_:lF hs.length al:=by repeat' (first|exact lF.nil|refine lF.flat ?_|refine lF.cons (by first|exact trivial|exact ma (Nat.le_of_ble_eq_true rfl)|exact gS.ok ‹_› (Nat.le_of_ble_eq_true rfl)|(simp[XV.bl,XC.ok,X1.ok];done)|simp[XV.bl,XC.ok,X1.ok,aE]) ?_)):vE nI al hs:=⟨le,bnd,objs,g_⟩
variable {P:Program} {fn:Func} {n:Nat} {e:XE} {al:bc} {hs hs':ai} {v1 v:XV}
theorem kV(τl:List Nat)(hv:v1=v.ax (nth τl))(he:e = .normal\/e = .ret:=by first|exact .inr rfl|exact .inl rfl|fail)(hr:qc P fn al hs v1:=by first|exact fun m hm=>rfl|exact ez.one rfl (.cell rfl rfl (bq rfl) .nil)|exact ez.two rfl (.cell rfl rfl (bq rfl) (.tmp rfl .nil))|exact ez.zero rfl .nil|exact ez.two rfl (by repeat' (first|exact ez.nil|refine ez.tmp rfl ?_|refine ez.cell rfl rfl (bq (by first|rfl|assumption)) ?_))|fail)(hok:v.bl hs'.length:=by first|exact trivial|exact ma (Nat.le_of_ble_eq_true rfl)|exact MK (aE (Nat.le_of_ble_eq_true rfl)) trivial|exact XV.dS rfl _|(simp[XV.bl,X1.ok,XC.ok];done)|(simp[XV.bl,X1.ok,XC.ok,aE];done)|fail)(nd:Nd τl hs':=by exact(by first|exact Or.inl (by decide)|exact Or.inr ⟨_,(by repeat' (first|exact fj.nil|apply fj.dead|apply fj.cons)),(by decide)⟩))(hid:(List.range n).all (fun j=>nth τl j==j)=true:=by exact rfl)(ho:ae (nth τl) hs τl hs':=by repeat' (first|exact ae.nil|refine ae.flat rfl ?_|refine ae.cons rfl ?_|refine ae.dead rfl ?_|refine ae.cons (by simp only[ah.ax,List.map_cons,List.map_nil,XC.ax,aB];exact rfl) ?_))(hk:ay hs'.length hs':=by repeat' (first|exact ay.nil|refine ay.flat ?_|refine ay.cons (by first|(simp[ah.bl,XC.ok,aE];done)|simp[ah.bl,XC.ok,aE, *]) ?_)):aD P fn n v hs' e al hs:=Em τl he hr hv hok nd hid ho hk
theorem kM{junk:ai}(hv:v1=v)(hk:∀o∈hs',o.bl hs'.length)(he:e = .normal\/e = .ret:=by first|exact .inr rfl|exact .inl rfl|fail)(hr:qc P fn al hs v1:=by first|exact fun m hm=>rfl|exact ez.one rfl (.cell rfl rfl (bq rfl) .nil)|exact ez.two rfl (.cell rfl rfl (bq rfl) (.tmp rfl .nil))|fail)(hok:v.bl hs'.length:=by first|exact trivial|exact ma (Nat.le_of_ble_eq_true rfl)|(simp[XV.bl,X1.ok,XC.ok];done)|fail)(hh:hs=hs'++junk:=by exact rfl):aD P fn n v hs' e al hs:=bD (junk:=junk) he hr hv hok hh hk
theorem cO{P:Program}{f:FuncId}{fn:Func}{c:Code}{args:List XV}{hs hs':ai}{v:XV}(hf:P.funcs[f]? = some fn)(h:WX P fn.ntmps hs.length (.code c) (kP args 0) hs (aD P fn hs.length v hs'))(hb:fn.body=some c:=by exact rfl)(hn:Nat.ble (fn.ntmps+1) 1000000=true:=by exact rfl)(hl:Nat.ble args.length fn.ntmps=true:=by exact rfl)(hle:Nat.ble hs.length hs'.length=true:=by exact rfl)(hbd:Nat.ble (hs'.length+1) Mem.bound=true:=by exact rfl):aW P f args hs v hs':=
 Bo hf hb (Nat.le_of_ble_eq_true hn) (Nat.le_of_ble_eq_true hl) (Nat.le_of_ble_eq_true hle) (Nat.le_of_ble_eq_true hbd) h
end Go.Xm
namespace Go.Xm
open Go.ChangeShapes Go.WideShapes Go.ChangeAt Go.RowKit Go.Deep
variable [aw]
def qw(w:World)(v:Value)(vs:List XC)(n:Nat):Prop:=
 (v = .slice none 0 0/\n=0/\vs = [])\/∃b off cap:Nat,n<=cap/\v = .slice (some ⟨b,off,none⟩) n cap/\∀(j:Nat) (c:XC),vs[j]? = some c->∀β : Env,w.cell? ⟨b,off+j,none⟩=some (c.den β)
theorem za{P:Program}{w:World}{r:Reach}{b0:Nat}{t e:TypeId}{a:Addr}{len cap:Nat}(ht:P.underlying t=some (.slice e))(h:Cell.okWide P w r b0 t (.slice (some a) len cap)):a.spot=none:=by
 unfold Cell.okWide at h
 rw[ht]at h
 have hck:Cell.ok P w r b0 t (.slice (some a) len cap):=h
 unfold Cell.ok at hck
 rw[ht]at hck
 exact hck.2.2.2.1
theorem oY{a:Addr}(h:a.spot=none)(n:Nat):a.add n=⟨a.block,a.off+n,none⟩:=by
 obtain⟨b,o,s⟩:=a
 simp only at h
 subst h
 exact Addr.fA b o n
theorem Jt{W:World}{v:Value}{vs:List XC}{n:Nat}(hs:vs.all XC.shut=true)(h0:n=0->vs = [])(i:Nat)(h:qw W v vs n) :
 ∃(c:XC) (o:ah) (b lo sz:Nat),IN c i n/\gS c i 0 n/\(0<vs.length->∃e,o = .cells vs e true true)/\aR o/\o.own=false/\(∀β m,eI β m lo sz o W.heap[b]?)/\∀(β : Env) m,i<m -> β.cx i=b -> β.base i=lo->aN β m (.one c) v:=by
 have hok:∀m,∀c∈vs,c.ok m:=fun m c hc=>XC.bm (List.all_eq_true.1 hs c hc) m
 rcases h with⟨rfl,rfl,rfl⟩|⟨b,off,cap,hle,rfl,hc⟩
 ·exact⟨.nils,.dead,0,0,0,.inl ⟨rfl,rfl⟩,.nil,fun h=>absurd h (by simp),inferInstance,rfl,fun _ _=>trivial,fun β n _ _ _=>⟨trivial,rfl⟩⟩
 ·by_cases hl:0<vs.length
  ·obtain⟨e,sz,hr⟩:=Cn (β:=Env.zero) (n:=0) (W:=W) (b:=b) (lo:=off) (vs:=vs) hl (fun j c hj=>hc j c hj _) (hok 0)
   refine⟨.slice i 0 n (.exact cap),.cells vs e true true,b,off,sz,.inr ⟨cap,rfl⟩,.mk hle,fun _=>⟨e,rfl⟩,fF hs,rfl,fun β m=>?_,fun β m hi hb hlo=>⟨hi,?_⟩⟩
   ·obtain⟨cs,fr,g1,g2,g3,g4,g5,g6⟩:=hr
    exact⟨cs,fr,g1,g2,g3,g4,hok m,g6.trans (List.map_congr_left fun c hm=>XC.iv (List.all_eq_true.1 hs c hm) _ _)⟩
   ·simp only[XC.den,hb,hlo,Nat.add_zero]
  ·refine⟨.slice i 0 n (.exact cap),.dead,b,off,0,.inr ⟨cap,rfl⟩,.mk hle,fun h=>absurd h hl,inferInstance,rfl,fun _ _=>trivial,fun β m hi hb hlo=>⟨hi,?_⟩⟩
   simp only[XC.den,hb,hlo,Nat.add_zero]
theorem RO.in{o:ah}{k:IntKind}{l:List Int}(h:0<(il k l).length->∃e,o = .cells (il k l) e true true)(hf:aR o):RO o k l:=
 ⟨fun hl=>by obtain⟨e,he⟩:=h (by rw[d7];exact hl);exact⟨e,true,true,he⟩,hf⟩
theorem rr{l:List Int}{p:Int->Prop}(h0:p 0)(h:∀z∈l,p z)(i:Nat):p (l.getD i 0):=by
 rw[List.getD_eq_getElem?_getD]
 cases hi:l[i]? with
 | none=>exact h0
 | some z=>exact h z (List.mem_of_getElem? hi)
section
variable {H:Type} {enc:TypeId×Value->H} {P:Program} {w:World} {base:Nat} {spare:Nat->Bool} {held:Bool}
theorem oy{t e:TypeId}{fs:Array Field}{fuel:Nat}{cs:List Value}{x:DataW H×List MemPlace}(ht:P.underlying t=some (.slice e))(he:P.underlying e=some (.struct fs))
 (hone:oneCellFields P fs=true) (hC:P.cellsOf e=fs.size) (h:DataW.trod enc P w base spare held fuel t cs=some x) :
 (cs = [.slice none 0 0]/\x=(.nil,[])) \/
 ∃ (a:Addr) (len cap m:Nat) (D:Nat->DataW H) (Pl:Nat->List MemPlace),cs = [.slice (some a) len cap]/\base<=a.block/\len<=cap/\cap<=maxLen/\m=(if spare a.block then cap else len) /\
   x=(.slice ((List.range len).map D) ((List.range (m-len)).map fun j=>D (len+j)),MemPlace.row a (m*fs.size)++(List.range m).flatMap Pl) /\
   ∀ i,i<m->∃(ys:List (DataW H×List MemPlace)) (n:Nat),D i = .agg (ys.map (·.1))/\Pl i=ys.flatMap (·.2)/\ys.length=fs.size /\
     ∀(j:Nat) (f:Field),fs[j]? = some f->∃(v:Value) (y:DataW H×List MemPlace),w.cell? (a.add (i*fs.size+j))=some v/\ys[j]? = some y/\DataW.trod enc P w base spare held n f.type [v]=some y:=by
 rcases open_slice ht h with h0|⟨a,len,cap,m,n,D,Pl,hcs,hb,hl,hm,hmm,hx,hi⟩
 ·exact .inl h0
 ·refine .inr ⟨a,len,cap,m,D,Pl,hcs,hb,hl,hm,hmm,by rw[hC]at hx;exact hx,fun i him=>?_⟩
  obtain⟨cs',hc,ht'⟩:=hi i him
  rw[hC]at hc
  obtain⟨ys,n',hn',hy,hlen,hyl,hf⟩:=DataW.trod_struct he ht'
  obtain⟨_,hcl,hat⟩:=World.cells?_some hc
  simp only[Prod.mk.injEq]at hy
  refine⟨ys,n',hy.1,hy.2,hyl,fun j f hj=>?_⟩
  obtain⟨ho,hk⟩:=hone_of hone j f hj
  have hjl:j<fs.size:=(Array.getElem?_eq_some_iff.1 hj).1
  have hcell:=hat j hjl
  have hv:cs'[j]? = some (cs'[j]'(by omega)):=List.getElem?_eq_getElem (by omega)
  have h1:=hf j f hj
  rw[ho,hk]at h1
  have hone':(cs'.drop j).take 1 = [cs'[j]'(by omega)]:=by
   rw[List.drop_eq_getElem_cons (by omega)]
   rfl
  rw[hone']at h1
  have hys:ys[j]? = some (ys[j]'(by omega)):=List.getElem?_eq_getElem (by omega)
  refine⟨_,_,?_,hys,h1.trans hys⟩
  rw[<-Go.Deep.add_add,hcell,hv]
end
theorem wa{α : Type}(f : α->List XC)(s:Nat)(hs:0<s):∀(l:List α),(∀a∈l,(f a).length=s)->∀j,(l.flatMap f)[j]? = (l[j/s]?).bind fun a=>(f a)[j%s]?
 | [],_,j=>by simp
 | x :: l,hl,j=>by
   have hx:=hl x (List.mem_cons_self ..)
   rw[List.flatMap_cons]
   by_cases hj:j<s
   ·rw[List.getElem?_append_left (by omega),Nat.div_eq_of_lt hj,Nat.mod_eq_of_lt hj]
    rfl
   ·rw[List.getElem?_append_right (by omega),wa f s hs l (fun b hb=>hl b (List.mem_cons_of_mem _ hb)),hx]
    obtain⟨q,rfl⟩:∃q,j=q+s:=⟨j-s,by omega⟩
    rw[Nat.add_sub_cancel,Nat.add_div_right _ hs,Nat.add_mod_right]
    rfl
theorem A1.in{α : Type}{enc : α->List XC}{s:Nat}[hE:qb enc s]{o:ah}{l:List α}(h:0<(fl enc l).length->∃e,o = .cells (fl enc l) e true true)(hf:aR o):A1 o enc l:=
 ⟨fun hl=>by
  have hp:=hE.pos
  obtain⟨e,he⟩:=h (by rw[rp];exact Nat.mul_pos hl hp)
  exact⟨e,true,true,he⟩,hf⟩
theorem G8{α : Type}{enc : α->List XC}{l:List α}:l.length=0->fl enc l = []:=fun h=>by rw[List.length_eq_zero_iff.1 h];rfl
end Go.Xm
namespace Go.Xm
inductive c8 where
 | int (k:IntKind)
 | bool
def c8.has:c8->Value->Prop
 | .int k,v=>∃z,v = .int k z/\(Lit.int k z).wf=true
 | .bool,v=>∃b,v = .bool b
def lint:Value->Int
 | .int _ z=>z
 | _=>0
def wu:Value->Bool
 | .bool b=>b
 | _=>false
def c8.cell(l:c8)(v:Value):XC:=match l with
 | .int k => .int k (lint v)
 | .bool => .bool (wu v)
theorem c8.den[aw]{l:c8}{v:Value}(h:l.has v)(β : Env):(l.cell v).den β = v:=by
 cases l with
 | int k=>obtain⟨z,rfl,_⟩:=h;rfl
 | bool=>obtain⟨b,rfl⟩:=h;rfl
def gN(P:Program)(t:TypeId)(ks:List c8):Prop:=
 P.cellsOf t=ks.length/\∀(H:Type) (enc:TypeId×Value->H) (w:World) (base:Nat) (spare:Nat->Bool) (held:Bool) (fuel:Nat) (cs:List Value) (x:DataW H×List MemPlace),
  DataW.trod enc P w base spare held fuel t cs=some x->cs.length=ks.length/\∀(j:Nat) (l:c8),ks[j]? = some l->∃v,cs[j]? = some v/\l.has v
variable {P:Program} {t:TypeId}
theorem gN.int{k:IntKind}(ht:P.underlying t=some (.int k))(hc:P.cellsOf t=1):gN P t [.int k]:=by
 refine⟨hc,fun H enc w base spare held fuel cs x h=>?_⟩
 obtain⟨n,rfl,_,hw⟩:=DataW.trod_int ht h
 refine⟨rfl,fun j l hj=>?_⟩
 match j,hj with
 | 0,hj=>cases hj;exact⟨_,rfl,n,rfl,hw⟩
 | j+1,hj=>simp at hj
theorem gN.bool(ht:P.underlying t=some .bool)(hc:P.cellsOf t=1):gN P t [.bool]:=by
 refine⟨hc,fun H enc w base spare held fuel cs x h=>?_⟩
 obtain⟨b,rfl,_⟩:=DataW.trod_bool ht h
 refine⟨rfl,fun j l hj=>?_⟩
 match j,hj with
 | 0,hj=>cases hj;exact⟨_,rfl,b,rfl⟩
 | j+1,hj=>simp at hj
def ji(ks:List c8):Nat->List c8
 | 0=>[]
 | n+1=>ks++ji ks n
theorem jj(ks:List c8):∀n,(ji ks n).length=n*ks.length
 | 0=>by simp[ji]
 | n+1=>by rw[ji,List.length_append,jj ks n,Nat.add_mul,Nat.one_mul,Nat.add_comm]
theorem wZ{ks:List c8}{l:c8}:∀(n j:Nat),(ji ks n)[j]? = some l->∃i r,i<n/\j=i*ks.length+r/\ks[r]? = some l
 | 0,j,h=>by simp[ji]at h
 | n + 1,j,h=>by
   rw[ji]at h
   by_cases hj:j<ks.length
   ·rw[List.getElem?_append_left hj]at h
    exact⟨0,j,Nat.succ_pos _,by simp,h⟩
   ·rw[List.getElem?_append_right (by omega)]at h
    obtain⟨i,r,hi,hr,hl⟩:=wZ n (j-ks.length) h
    exact⟨i+1,r,by omega,by rw[Nat.add_mul,Nat.one_mul];omega,hl⟩
theorem gN.array{n:Nat}{e:TypeId}{ks:List c8}(ht:P.underlying t=some (.array n e))(he:gN P e ks)(hc:P.cellsOf t=n*ks.length):gN P t (ji ks n):=by
 refine⟨by rw[hc,jj],fun H enc w base spare held fuel cs x h=>?_⟩
 obtain⟨xs,m,_,_,hlen,hxl,hx⟩:=DataW.trod_array ht h
 refine⟨by rw[hlen,hc,jj],fun j l hj=>?_⟩
 obtain⟨i,r,hi,rfl,hr⟩:=wZ n j hj
 have hxi:xs[i]? = some (xs[i]'(by omega)):=List.getElem?_eq_getElem (by omega)
 obtain⟨hl,hv⟩:=he.2 H enc w base spare held m _ _ ((hx i hi).trans hxi)
 obtain⟨v,hv1,hv2⟩:=hv r l hr
 refine⟨v,?_,hv2⟩
 have hrl:r<ks.length:=(List.getElem?_eq_some_iff.1 hr).1
 rw[he.1,List.getElem?_take_of_lt hrl,List.getElem?_drop]at hv1
 exact hv1
theorem BG{kss:List (List c8)}{l:c8}:∀{j:Nat},kss.flatten[j]? = some l->∃i ks r,kss[i]? = some ks/\j=((kss.take i).flatten).length+r/\ks[r]? = some l:=by
 induction kss with
 | nil=>intro j h;simp at h
 | cons ks kss ih=>
   intro j h
   rw[List.flatten_cons]at h
   by_cases hj:j<ks.length
   ·rw[List.getElem?_append_left hj]at h
    exact⟨0,ks,j,rfl,by simp,h⟩
   ·rw[List.getElem?_append_right (by omega)]at h
    obtain⟨i,ks',r,h1,h2,h3⟩:=ih h
    refine⟨i+1,ks',r,h1,?_,h3⟩
    rw[List.take_succ_cons,List.flatten_cons,List.length_append]
    omega
theorem gN.struct{fs:Array Field}(kss:List (List c8))(ht:P.underlying t=some (.struct fs))(hn:kss.length=fs.size)(hf:∀(i:Nat) (f:Field) (ks:List c8),fs[i]? = some f->kss[i]? = some ks->gN P f.type ks/\f.offset=((kss.take i).flatten).length)(hc:P.cellsOf t=kss.flatten.length):gN P t kss.flatten:=by
 refine⟨hc,fun H enc w base spare held fuel cs x h=>?_⟩
 obtain⟨xs,m,_,_,hlen,hxl,hx⟩:=DataW.trod_struct ht h
 refine⟨by rw[hlen,hc],fun j l hj=>?_⟩
 obtain⟨i,ks,r,h1,rfl,h3⟩:=BG hj
 have hi:i<fs.size:=by
  have:=(List.getElem?_eq_some_iff.1 h1).1
  omega
 have hfi:fs[i]? = some fs[i]:=Array.getElem?_eq_getElem hi
 obtain⟨hl,ho⟩:=hf i _ ks hfi h1
 have hxi:xs[i]? = some (xs[i]'(by omega)):=List.getElem?_eq_getElem (by omega)
 obtain⟨_,hv⟩:=hl.2 H enc w base spare held m _ _ ((hx i _ hfi).trans hxi)
 obtain⟨v,hv1,hv2⟩:=hv r l h3
 refine⟨v,?_,hv2⟩
 have hrl:r<ks.length:=(List.getElem?_eq_some_iff.1 h3).1
 rw[hl.1,List.getElem?_take_of_lt hrl,List.getElem?_drop,ho]at hv1
 exact hv1
def jd:List c8->(Nat->Value)->Nat->List XC
 | [],_,_=>[]
 | l::ks,g,j=>l.cell (g j)::jd ks g (j+1)
theorem tv:∀(ks:List c8) (g:Nat->Value) (o j:Nat),(jd ks g o)[j]? = (ks[j]?).map fun l=>l.cell (g (o+j))
 | [],g,o,j=>by simp[jd]
 | l::ks,g,o,0=>rfl
 | l::ks,g,o,j+1=>by
   rw[jd,List.getElem?_cons_succ,tv ks g (o+1) j,List.getElem?_cons_succ]
   rw[show o+1+j=o+(j+1) by omega]
def l5(ks:List c8)(g:Nat->Value)(o:Nat):Prop:=∀(j:Nat) (l:c8),ks[j]? = some l->l.has (g (o+j))
theorem tu[aw]{ks:List c8}{cs:List Value}(hl:cs.length=ks.length)(h:∀(j:Nat) (l:c8),ks[j]? = some l->∃v,cs[j]? = some v/\l.has v)(β : Env):cs=(jd ks (fun j=>cs.getD j .nilIface) 0).map (·.den β)/\l5 ks (fun j=>cs.getD j .nilIface) 0:=by
 have hv:∀j l,ks[j]? = some l->l.has (cs.getD j .nilIface)/\cs[j]? = some (cs.getD j .nilIface):=fun j l hj=>by
  obtain⟨v,h1,h2⟩:=h j l hj
  rw[List.getD_eq_getElem?_getD,h1]
  exact⟨h2,rfl⟩
 refine⟨List.ext_getElem? fun j=>?_,fun j l hj=>by rw[Nat.zero_add];exact(hv j l hj).1⟩
 rw[List.getElem?_map,tv,Nat.zero_add]
 by_cases hj:j<ks.length
 ·have hk:ks[j]? = some ks[j]:=List.getElem?_eq_getElem hj
  obtain⟨h1,h2⟩:=hv j _ hk
  rw[hk]
  show cs[j]? = some ((ks[j].cell (cs.getD j .nilIface)).den β)
  rw[c8.den h1,h2]
 ·rw[List.getElem?_eq_none (by omega),List.getElem?_eq_none (by omega)]
  rfl
end Go.Xm
