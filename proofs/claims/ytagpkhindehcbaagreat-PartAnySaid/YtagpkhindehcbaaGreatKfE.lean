/-
  A part of the proof: XvOps, XvPut, XvAuto, XvTac, Facts.
-/
import Derived.Test.YtagpkhindehcbaaGreatKfD
import Derived.KernelRfl
import Derived.Test.YtagpkhindehcbaaGreatProg
set_option maxRecDepth 10000
set_option maxHeartbeats 8000000
set_option linter.unusedVariables false
set_option linter.unusedSectionVars false
set_option linter.unusedSimpArgs false
namespace Go.Xm
variable [ax]
variable {P:Program} {ops:Array Oper} {nt nI:Nat} {al:bl} {hs:aj} {o:Oper} {l:List Oper} {L:List aG} {K:List Ab->bl->aj->Prop} {d:Nat}
class TI (P:Program) (t:TypeId) (s:outParam Nat):Prop where out:(P.info? t).elim false (fun i=>Nat.beq i.size s&&Nat.ble i.bytes 65536)=true
theorem TI.get{P:Program}{t:TypeId}{s:Nat}[h:TI P t s]:∃ti,P.info? t=some ti/\ti.size=s/\ti.bytes<=65536:=by
 have h:=h.out
 cases hi:P.info? t with
 | none=>rw[hi]at h;cases h
 | some ti=>
   rw[hi]at h
   simp only[Option.elim,Bool.and_eq_true]at h
   exact⟨ti,rfl,Nat.eq_of_beq_eq_true h.1,Nat.le_of_ble_eq_true h.2⟩
def xb(k:IntKind)(z:Int):Prop:=match k with
 | .i8 => -128<=z/\z<128
 | .i16 => -32768<=z/\z<32768
 | .i32 => -2147483648<=z/\z<2147483648
 | .i64 => -9223372036854775808<=z/\z<9223372036854775808
 | .u8=>0<=z/\z<256
 | .u16=>0<=z/\z<65536
 | .u32=>0<=z/\z<4294967296
 | .u64=>0<=z/\z<18446744073709551616
theorem gB{k:IntKind}{z:Int}(h:xb k z):k.wrap z=z:=by
 cases k<;>simp only[xb]at h<;>simp only[IntKind.wrap,IntKind.bits,IntKind.signed]<;>simp<;>omega
theorem OA{k:IntKind}{z:Int}(h:xb k z):z<2^k.bits:=by
 cases k<;>simp only[xb]at h<;>simp only[IntKind.bits]<;>omega
theorem L7{k:IntKind}{z w:Int}(h:xb k z)(h0:0<=w)(h1:w<=z):xb k w:=by
 cases k<;>simp only[xb]at h ⊢<;>omega
theorem FV{k:IntKind}{z:Int}(h0:0<=z)(h1:z<2^(k.bits-1)):xb k z:=by
 cases k<;>simp only[xb,IntKind.bits]at h1 ⊢<;>omega
theorem Ry{k:IntKind}{x y:Int}(hk:xb k x)(hx:0<=x)(hy:0<y):bP .quo k k x y=some (.int k (x/y)):=by
 have h0:y≠0:=by omega
 have h1:x.tdiv y=x/y:=Int.tdiv_eq_ediv_of_nonneg hx
 have h2:0<=x/y:=Int.ediv_nonneg hx (by omega)
 have h3:x/y<=x:=Int.ediv_le_self _ hx
 simp only[bP,ej,if_true,h0,if_false,cR,h1,gB (L7 hk h2 h3)]
theorem RD{k k':IntKind}{x y:Int}(hk:xb k x)(hx:0<=x)(hy:0<=y):bP .shr k k' x y=some (.int k (x/2^y.toNat)):=by
 have h0:¬y<0:=by omega
 simp only[bP,h0,if_false,Bu]
 have hp:∀n:Nat,(0:Int)<2^n:=fun n=>Int.pow_pos (by omega)
 rw[Int.fdiv_eq_ediv_of_nonneg _ (Int.le_of_lt (hp _))]
 by_cases h:y.toNat<=k.bits
 ·rw[Nat.min_eq_left h]
 ·have h':k.bits<=y.toNat:=by omega
  rw[Nat.min_eq_right h']
  have hlt:=OA hk
  have e1:x/2^k.bits=0:=Int.ediv_eq_zero_of_lt hx hlt
  have e2:x/2^y.toNat=0:=by
   refine Int.ediv_eq_zero_of_lt hx (Int.lt_of_lt_of_le hlt ?_)
   exact_mod_cast Nat.pow_le_pow_right (by omega) h'
  rw[e1,e2]
theorem RC{k k':IntKind}{x y:Int}{n:Nat}(hn:y=(n:Nat))(hb:n<=k.bits)(h:xb k (x*2^n)):bP .shl k k' x y=some (.int k (x*2^n)):=by
 subst hn
 have h0:¬((n:Nat):Int)<0:=by omega
 simp only[bP,h0,if_false,Bu,Int.toNat_natCast,Nat.min_eq_left hb,cR,gB h]
theorem Re{k:IntKind}{x y:Int}(n:Nat)(hy:y=2^n-1)(hn:n<k.bits):bP .and k k x y=some (.int k (x%2^n)):=by
 have hp:(0:Int)<2^n:=Int.pow_pos (by omega)
 have hle:(2:Int)^n<=2^k.bits:=by exact_mod_cast Nat.pow_le_pow_right (by omega) (by omega)
 have hle1:(2:Int)^n<=2^(k.bits-1):=by exact_mod_cast Nat.pow_le_pow_right (by omega) (by omega)
 have hm0:=Int.emod_nonneg x (show(2:Int)^n≠0 by omega)
 have hm1:=Int.emod_lt_of_pos x hp
 have key:(((BitVec.ofInt k.bits x &&& BitVec.ofInt k.bits y).toNat:Nat):Int)=x%2^n:=by
  rw[BitVec.toNat_and,BitVec.toNat_ofInt,BitVec.toNat_ofInt]
  have e1:(y%((2^k.bits:Nat):Int)).toNat=2^n-1:=by
   have e:y%((2^k.bits:Nat):Int)=y:=Int.emod_eq_of_lt (by omega) (by push_cast;omega)
   rw[e,hy]
   have:((2^n:Nat):Int)=2^n:=by push_cast;rfl
   omega
  rw[e1,Nat.and_two_pow_sub_one_eq_mod]
  push_cast
  rw[Int.toNat_of_nonneg (Int.emod_nonneg _ (by have:(0:Int)<2^k.bits:=Int.pow_pos (by omega);omega))]
  exact Int.emod_emod_of_dvd x ⟨2^(k.bits-n),by rw[<-Int.pow_add];congr 1;omega⟩
 simp only[bP,ej,if_true,cR]
 rw[key,gB (FV hm0 (by omega))]
def FY(k:IntKind)(x y:Int):Int:=k.wrap ((BitVec.ofInt k.bits x ^^^ BitVec.ofInt k.bits y).toNat)
def Es(k:IntKind)(x y:Int):Int:=k.wrap ((BitVec.ofInt k.bits x ||| BitVec.ofInt k.bits y).toNat)
def w_(k:IntKind)(x y:Int):Int:=k.wrap ((BitVec.ofInt k.bits x &&& BitVec.ofInt k.bits y).toNat)
def CI(op:BinOp)(x y:Int):Option Prop:=match op with
 | .eql=>some (x=y)
 | .neq=>some (x≠y)
 | .lss=>some (x<y)
 | .leq=>some (x<=y)
 | .gtr=>some (y<x)
 | .geq=>some (y<=x)
 | _ => .none
theorem Eg{op:BinOp}{k:IntKind}{x y:Int}{p:Prop}(hp:CI op x y=some p):(p->bP op k k x y=some (.bool true))/\(¬p->bP op k k x y=some (.bool false)):=by
 cases op<;>simp only[CI]at hp<;>first|(cases hp;done)|(cases hp;constructor<;>intro h<;>simp_all [bP,ej])
theorem zB{t t':TypeId}{a b:Operand}{op:BinOp}{k:IntKind}{x y:Int}{p:Prop}(ho:o.op = .binOp op t a b t')(hw:av ops (rg al) o=some true)(hd:o.dst=some d)(hlt:Nat.blt d nt=true)(ha:ai (rg al) a = .one (.int k x))(hb:ai (rg al) b = .one (.int k y))(hp:CI op x y=some p)
 (h1:p->SK P ops nt L l ((d,.one (.bool true))::al) hs fun bs=>K (quiet::bs)) (h2:¬p->SK P ops nt L l ((d,.one (.bool false))::al) hs fun bs=>K (quiet::bs)):SK P ops nt L (o::l) al hs K:=by
 by_cases h:p
 ·exact SK.lift hd hlt (fun _=>aH.bin hw ho ha hb ((Eg hp).1 h)) (h1 h)
 ·exact SK.lift hd hlt (fun _=>aH.bin hw ho ha hb ((Eg hp).2 h)) (h2 h)
def cY(c:XC)(i off n:Nat):Prop:=(n=0/\(c = .nils\/∃o cap,c = .slice i o 0 (.exact cap)))\/∃cap,n<=cap/\c = .slice i off n (.exact cap)
theorem cY.nil{i off:Nat}:cY .nils i off 0 := .inl ⟨rfl,.inl rfl⟩
theorem cY.mk{i off n cap:Nat}(h:n<=cap):cY (.slice i off n (.exact cap)) i off n := .inr ⟨cap,h,rfl⟩
theorem cY.same{c:XC}{i off n i' off' n':Nat}(h:cY c i off n)(h':cY c i' off' n'):n=n'/\(n=0\/(off=off'/\i=i')):=by
 rcases h with⟨rfl,rfl|⟨o,cap,rfl⟩⟩|⟨cap,h1,rfl⟩
 ·rcases h' with⟨rfl,_⟩|⟨cap,h1,e⟩
  ·exact⟨rfl,.inl rfl⟩
  ·cases e
 ·rcases h' with⟨rfl,_⟩|⟨cap',h1,e⟩
  ·exact⟨rfl,.inl rfl⟩
  ·cases e;exact⟨rfl,.inl rfl⟩
 ·rcases h' with⟨rfl,e|⟨o,cap,e⟩⟩|⟨cap',h1,e⟩
  ·cases e
  ·cases e;exact⟨rfl,.inl rfl⟩
  ·cases e;exact⟨rfl,.inr ⟨rfl,rfl⟩⟩
theorem cY.ok{c:XC}{i off n m:Nat}(h:cY c i off n)(hi:i<m):c.ok m:=by
 rcases h with⟨_,rfl|⟨o,cap,rfl⟩⟩|⟨cap,_,rfl⟩
 ·trivial
 ·exact hi
 ·exact hi
theorem cY.ay{c:XC}{i off n:Nat}(h:cY c i off n)(τ : Nat->Nat):cY (c.ay τ) (τ i) off n:=by
 rcases h with⟨rfl,rfl|⟨o,cap,rfl⟩⟩|⟨cap,h1,rfl⟩
 ·exact .inl ⟨rfl,.inl rfl⟩
 ·exact .inl ⟨rfl,.inr ⟨o,cap,rfl⟩⟩
 ·exact .inr ⟨cap,h1,rfl⟩
theorem cY.id{c:XC}{i off n:Nat}(h:cY c i off n){τ : Nat->Nat}(hi : τ i=i):c.ay τ = c:=by
 rcases h with⟨rfl,rfl|⟨o,cap,rfl⟩⟩|⟨cap,h1,rfl⟩
 ·rfl
 ·simp only[XC.ay,hi]
 ·simp only[XC.ay,hi]
theorem ah.sl{τ : Nat->Nat}{al:bl}{t:Nat}{c:XC}{r:bl}{i off n:Nat}(h:rg al t = .one c)(hs:cY c i off n)(hi : τ i=i)(hr:ah τ al r):ah τ al ((t,.one c)::r):=
 .cons (by simp only[XV.ay,hs.id hi];exact h) hr
theorem ah.fN{τ : Nat->Nat}{al:bl}{t k k' n n' sz:Nat}{r:bl}(h:rg al t=hZ k' n' sz)(hk : τ k=k')(hn:n'=n)(hr:ah τ al r):ah τ al ((t,hZ k n sz)::r):=
 .cons (by rw[dT,hk,<-hn];exact h) hr
theorem MT{a:Operand}{t elem:TypeId}(ho:o.op = .call ⟨.builtin .len,#[a],#[t]⟩)(hw:av ops (rg al) o=some true)(hd:o.dst=some d)(hlt:Nat.blt d nt=true){c:XC}(ha:ai (rg al) a = .one c)[hu:aW P t (.slice elem)]{i off n:Nat}(hc:cY c i off n)
 (hk:SK P ops nt L l ((d,.one (.int .i64 (n:Nat)))::al) hs fun bs=>K (quiet::bs)):SK P ops nt L (o::l) al hs K:=by
 rcases hc with⟨rfl,rfl|⟨o,cap,rfl⟩⟩|⟨cap,_,rfl⟩
 all_goals exact SK.lift hd hlt (fun _=>aH.pure hw (by rw[ho];simp[bj,fB,ha,B9,hu.out])) hk
theorem MU{a:Operand}{t elem:TypeId}(ho:o.op = .call ⟨.builtin .len,#[a],#[t]⟩)(hw:av ops (rg al) o=some true)(hd:o.dst=some d)(hlt:Nat.blt d nt=true){i n sz:Nat}(ha:ai (rg al) a=hZ i n sz)[hu:aW P t (.slice elem)]
 (hk:SK P ops nt L l ((d,.one (.int .i64 (n:Nat)))::al) hs fun bs=>K (quiet::bs)):SK P ops nt L (o::l) al hs K:=by
 unfold hZ fD at ha
 split at ha
 ·rename_i h
  subst h
  exact SK.lift hd hlt (fun _=>aH.pure hw (by rw[ho];simp[bj,fB,ha,B9,hu.out])) hk
 ·exact SK.lift hd hlt (fun _=>aH.pure hw (by rw[ho];simp[bj,fB,ha,B9,hu.out])) hk
theorem MR{t:TypeId}{a b:Operand}{elem:TypeId}{s:Nat}(ho:o.op = .indexAddr t a b)(hw:av ops (rg al) o=some true)(hd:o.dst=some d)(hlt:Nat.blt d nt=true){c:XC}(ha:ai (rg al) a = .one c){k:IntKind}{z:Int}(hb:ai (rg al) b = .one (.int k z))[hu:aW P t (.slice elem)][hs':aP P elem s]{i off n:Nat}(hc:cY c i off n)(hz:0<=z/\z<n)
 {p:Nat}(hp:off+z.toNat*s=p) (hk:SK P ops nt L l ((d,.one (.ptr i p))::al) hs fun bs=>K (quiet::bs)):SK P ops nt L (o::l) al hs K:=by
 rcases hc with⟨rfl,_⟩|⟨cap,_,rfl⟩
 ·omega
 ·exact SK.lift hd hlt (fun _=>aH.pure hw (by rw[ho];simp only[bj,cS,ha,hb,hu.out,hs'.out,if_pos hz,Option.map_some,hp])) hk
def BG(x:Option XV)(dflt:Int):Option Int:=match x with
 | .none=>some dflt
 | some (.one (.int _ z))=>some z
 | _ => .none
theorem zy{x:Option XV}{y p:Nat}(h:BG x 0=some (p:Int))(hle:p<=y):m7 x 0 y=some p:=by
 unfold BG at h
 unfold m7
 split at h
 ·injection h with h
  have:p=0:=by omega
  rw[this]
 ·rename_i k z
  cases h
  simp only[]
  rw[if_pos ⟨by omega,by omega⟩]
  simp
 ·cases h
theorem zw{x:Option XV}{n y q:Nat}(h:BG x (n:Nat)=some (q:Int))(hle:q<=y):m7 x n y=some q:=by
 unfold BG at h
 unfold m7
 split at h
 ·injection h with h
  have:q=n:=by omega
  rw[this]
 ·rename_i k z
  cases h
  simp only[]
  rw[if_pos ⟨by omega,by omega⟩]
  simp
 ·cases h
theorem Pj{t e:TypeId}{a:Operand}{lo hi:Option Operand}{s:Nat}(ho:o.op = .slice t a lo hi .none)[hu:aW P t (.slice e)][hs':aP P e s](hw:av ops (rg al) o=some true)(hd:o.dst=some d)(hlt:Nat.blt d nt=true){i off n p q:Nat}{c:XC}(ha:ai (rg al) a = .one c)(hc:cY c i off n)
 {z w:Int}(hl:BG (lo.map (ai (rg al))) 0=some z) (hh:BG (hi.map (ai (rg al))) (n:Nat)=some w) (hp:z=(p:Nat)) (hq:w=(q:Nat)) (hb:p<=q/\q<=n) (hk:∀c',cY c' i (off+p*s) (q-p)->SK P ops nt L l ((d,.one c')::al) hs fun bs=>K (quiet::bs)):SK P ops nt L (o::l) al hs K:=by
 subst hp hq
 rcases hc with⟨rfl,rfl|⟨o',cap,rfl⟩⟩|⟨cap,hcap,rfl⟩
 ·obtain⟨rfl,rfl⟩:p=0/\q=0:=by omega
  have e1:=zy (y:=0) hl (by omega)
  have e2:=zw (y:=0) hh (by omega)
  exact SK.lift hd hlt (x := .one .nils) (fun _=>aH.pure hw (by rw[ho];simp only[bj,tf,hu.out,ha,jT,Option.map_none,e1,e2,hs'.out])) (hk _ (.inl ⟨rfl,.inl rfl⟩))
 ·obtain⟨rfl,rfl⟩:p=0/\q=0:=by omega
  have e1:=zy (y:=0) hl (by omega)
  have e2:=zw (y:=cap) hh (by omega)
  refine SK.lift hd hlt (x := .one (.slice i (if cap=0 then o' else o'+0*s) (0-0) (.exact (cap-0)))) (fun _=>aH.pure hw (by rw[ho];simp only[bj,tf,hu.out,ha,jT,Option.map_none,e1,e2,hs'.out])) (hk _ (.inl ⟨rfl,.inr ⟨_,_,rfl⟩⟩))
 ·have e1:=zy (y:=q) hl (by omega)
  have e2:=zw (y:=cap) hh (by omega)
  refine SK.lift hd hlt (x := .one (.slice i (if cap=p then off else off+p*s) (q-p) (.exact (cap-p)))) (fun _=>aH.pure hw (by rw[ho];simp only[bj,tf,hu.out,ha,jT,Option.map_none,e1,e2,hs'.out])) (hk _ ?_)
  by_cases hm:cap=p
  ·have hz:q-p=0:=by omega
   rw[hz]
   exact .inl ⟨rfl,.inr ⟨_,_,rfl⟩⟩
  ·rw[if_neg hm]
   exact .inr ⟨cap-p,by omega,rfl⟩
theorem JV{zs:List XC}{t e:TypeId}{y:Operand}(ho:o.op = .buildSlice t 1 #[(0,y)])[hu:aW P t (.slice e)][hz:bz P e zs][hse:aP P e 1](hzl:zs.length=1)(hw:av ops (rg al) o=some true)(hd:o.dst=some d)(hlt:Nat.blt d nt=true){c:XC}(hy:dh (ai (rg al) y)=some [c]){n:Nat}(hn:hs.length=n)(hb:Nat.blt n Mem.bound=true){hs':aj}(hh:hs++[.cells [c] e false false]=hs')
 (hk:SK P ops nt L l ((d,.one (.slice n 0 1 (.exact 1)))::al) hs' fun bs=>K (⟨true,.none,[n]⟩::bs)):SK P ops nt L (o::l) al hs K:=by
 subst hn hh
 refine SK.lift hd hlt (fun _=>?_) hk
 intro m hm
 obtain⟨m',h1,h2,h3⟩:=hm.push (.cells [c] e false false) (by simpa [Nat.blt_eq]using hb)
 refine⟨m',?_,h2,h3⟩
 unfold kC
 rw[hw]
 refine dg (by rw[ho];rfl) (by rw[ho];rfl) (by rw[ho];rfl) ?_
 rw[ho]
 have hf:iD (fun i=>some (i*1,1)) (fT zs (1*1)) [(0,ai (rg al) y)]=some [c]:=by
  simp[iD,hy,fT]
 simp only[cK,fc,fe,hu.out,hse.out,hz.out,List.map_cons,List.map_nil,hzl,h1,hm.n,hf]
 simp
theorem Gt{t:TypeId}{parts:Array (Nat×Operand)}(ho:o.op = .build t parts){zs:List XC}[hz:bz P t zs]{pl:List (Nat×Nat)}[hp:dY P t pl](hw:av ops (rg al) o=some true)(hd:o.dst=some d)(hlt:Nat.blt d nt=true)
 {out:List XC}(hc:iD (fun i=>pl[i]?) zs (parts.toList.map fun p=>(p.1,ai (rg al) p.2))=some out)
 (hk:SK P ops nt L l ((d,.agg out)::al) hs fun bs=>K (quiet::bs)):SK P ops nt L (o::l) al hs K:=by
 obtain⟨fs,h1,h2⟩:=hp.out
 exact SK.lift hd hlt (fun _=>aH.pure hw (by rw[ho];simp only[bj,px,hz.out,h1,h2,hc,Option.map_some])) hk
theorem Dr{t t1 e:TypeId}{sz m:Nat}{a b:Operand}(ho:o.op = .call ⟨.builtin .append,#[a,b],#[t,t1]⟩){zs:List XC}[hu:aW P t (.slice e)][hz:bz P e zs][hI:TI P e sz](hw:av ops (rg al) o=some true)(hd:o.dst=some d)(hlt:Nat.blt d nt=true)
 (hsz:zs.length=sz/\0<sz) {i n:Nat} {cs ds:List XC}(ha:ai (rg al) a=hZ i n sz) (hi:hs[i]? = some (cE e cs)) (hn:cs.length=n*sz) (hsrc:∀M,bH M hs->rf P t1 sz (ai (rg al) b) M=some (m,ds)) (hm:0<m/\n+m<=2000000000)
 {N:Nat}(hN:hs.length=N) (hb:Nat.blt N Mem.bound=true) {hs':aj}(hh:hs.set i .dead++[.cells (cs++ds) e true false]=hs')
 (hk:SK P ops nt L l ((d,.one (.slice N 0 (n+m) (.toEnd sz)))::al) hs' fun bs=>K (⟨true,.none,[i,N]⟩::bs)):SK P ops nt L (o::l) al hs K:=by
 subst hN hh
 obtain⟨ti,hti,rfl,hby⟩:=hI.get
 obtain⟨z1,z2⟩:=hsz
 have hbytes:(n+m)*ti.bytes<=140737488355328:=Nat.le_trans (Nat.mul_le_mul_left _ hby) (by omega)
 have hsmall:hs.length<Mem.bound:=by simpa [Nat.blt_eq]using hb
 refine SK.lift hd hlt (fun _=>?_) hk
 intro M hM
 have hx:=hsrc M hM
 by_cases h0:n=0
 ·subst h0
  have hcs:cs = []:=List.length_eq_zero_iff.1 (by simpa using hn)
  subst hcs
  have hdead:hs.set i .dead=hs:=by
   apply List.ext_getElem?
   intro j
   by_cases hj:i=j
   ·subst hj
    rw[hi,List.getElem?_set_self (List.getElem?_eq_some_iff.1 hi).1]
    rfl
   ·rw[List.getElem?_set_ne hj]
  rw[hdead]
  obtain⟨m',h1,h2,h3⟩:=hM.push (.cells ds e true false) hsmall
  refine⟨m',?_,by simpa using h2,fun j hj=>h3 j (by simp at hj ⊢;exact hj.2)⟩
  unfold kC
  rw[hw]
  refine dg (by rw[ho];rfl) (by rw[ho];rfl) (by rw[ho];rfl) ?_
  rw[ho]
  have hm0:¬m=0:=by omega
  have hb1:m<=9223372036854775807/\m*ti.bytes<=140737488355328:=⟨by omega,by simpa using hbytes⟩
  have ha':ai (rg al) a = .one .nils:=ha
  simp only[cK,kQ,fe,hu.out,hti,hz.out,ha',hx,hm0,if_false,List.getElem?_toArray,List.getElem?_cons_zero,List.getElem?_cons_succ]
  rw[if_pos ⟨z1,z2⟩]
  simp only[hb1,and_self,if_true,h1,hM.n,Nat.zero_add]
 ·have hcs:cs≠[]:=fun h=>by
   subst h
   have:n*ti.size=0:=by simpa using hn.symm
   rcases Nat.mul_eq_zero.1 this with h|h<;>omega
  rw[fb hcs]at hi
  rw[l6 h0]at ha
  have hput:=hM.put hi .dead
  obtain⟨m',h1,h2,h3⟩:=hput.push (.cells (cs++ds) e true false) (by rw[List.length_set];exact hsmall)
  refine⟨m',?_,h2,fun j hj=>?_⟩
  ·unfold kC
   rw[hw]
   refine dg (by rw[ho];rfl) (by rw[ho];rfl) (by rw[ho];rfl) ?_
   rw[ho]
   have hm0:¬m=0:=by omega
   have hb1:True/\n+m<=9223372036854775807/\(n+m)*ti.bytes<=140737488355328:=⟨trivial,by omega,hbytes⟩
   simp only[cK,kQ,fe,hu.out,hti,hz.out,ha,hx,hm0,if_false,List.getElem?_toArray,List.getElem?_cons_zero,List.getElem?_cons_succ]
   rw[if_pos ⟨z1,z2⟩]
   simp only[hM.at hi]
   rw[if_pos hb1,if_pos ⟨trivial,hn,trivial,trivial⟩]
   simp only[h1,hM.n]
  ·simp only[List.mem_cons,List.not_mem_nil,or_false,not_or]at hj
   rw[h3 j (by rw[List.length_set];simpa using hj.2),uf j (by simpa using hj.1)]
end Go.Xm
namespace Go.Xm
variable [ax]
variable {P:Program}
theorem ae.view{ls:List Nat}{HS hs:aj}(nd:Nd ls hs)(ho:ae (nth ls) HS ls hs)(hk:bc hs.length hs):View (nth ls) HS hs:=by
 obtain⟨hlen,hobj⟩:=ho.at
 refine⟨fun j hj=>?_,fun i j a b hi hj ha hb hij=>nd.inj hlen i j a b hi hj ha hb hij,fun j o hj=>hk.at o (List.mem_of_getElem? hj),fun j o hj=>(hobj j o hj).2⟩
 exact(hobj j _ (List.getElem?_eq_getElem hj)).1
inductive fq(n:Nat):List XV->Prop where
 | nil:fq n []
 | flat {v:XV} {l:List XV} [bE v]:fq n l->fq n (v::l)
 | cons {v:XV} {l:List XV}:v.b7 n->fq n l->fq n (v::l)
theorem fq.at{n:Nat}{l:List XV}(h:fq n l):∀x∈l,x.b7 n:=by
 induction h with
 | nil=>intro o h;cases h
 | @flat o hs inst _ ih=>
   intro x hx
   rcases List.mem_cons.1 hx with rfl|hx
   ·exact inst.ok n
   ·exact ih x hx
 | cons h1 _ ih=>
   intro x hx
   rcases List.mem_cons.1 hx with rfl|hx
   ·exact h1
   ·exact ih x hx
inductive dR(τ : Nat->Nat):List XV->List XV->Prop where
 | nil:dR τ [] []
 | flat {v:XV} {l m:List XV} [bE v]:dR τ l m->dR τ (v::l) (v::m)
 | cons {v w:XV} {l m:List XV}:v.ay τ = w->dR τ l m->dR τ (v::l) (w::m)
theorem dR.eq{τ : Nat->Nat}{l m:List XV}(h:dR τ l m):l.map (·.ay τ)=m:=by
 induction h with
 | nil=>rfl
 | @flat v l m inst _ ih=>simp only[List.map_cons,ih,inst.ay]
 | cons h _ ih=>simp only[List.map_cons,ih,h]
inductive mh(τ : Nat->Nat)(HS:aj):List Nat->aj->Prop where
 | nil:mh τ HS [] []
 | flat {i:Nat} {o:ak} {l:List Nat} {hs:aj} [c8 o]:HS[i]? = some o->mh τ HS l hs->mh τ HS (i::l) (o::hs)
 | cons {i:Nat} {o:ak} {l:List Nat} {hs:aj}:HS[i]? = some (o.ay τ)->mh τ HS l hs->mh τ HS (i::l) (o::hs)
theorem mh.via{τ : Nat->Nat}{HS:aj}{l:List Nat}{hs:aj}(h:mh τ HS l hs):ae τ HS l hs:=by
 induction h with
 | nil=>exact .nil
 | flat h1 _ ih=>exact .flat h1 ih
 | cons h1 _ ih=>exact .cons h1 ih
theorem mh.at{τ : Nat->Nat}{HS:aj}{l:List Nat}{hs:aj}(h:mh τ HS l hs):∀(j:Nat) (o:ak),hs[j]? = some o->HS[nth l j]? = some (o.ay τ):=by
 induction h with
 | nil=>intro j o h;simp at h
 | @flat i o l hs inst h1 _ ih=>
   intro j o' hj
   cases j with
   | zero=>simp at hj;subst hj;rw[inst.ay];exact h1
   | succ j=>exact ih j o' (by simpa using hj)
 | cons h1 _ ih=>
   intro j o' hj
   cases j with
   | zero=>simp at hj;subst hj;exact h1
   | succ j=>exact ih j o' (by simpa using hj)
theorem zb{f:FuncId}{args0 args:List XV}{hs0 HS:aj}{v v':XV}(ls:List Nat)(hc:bh P f args0 hs0 v hs0)(nd:ls.Nodup)(ho:mh (nth ls) HS ls hs0)(hk:bc hs0.length hs0)(ha:fq hs0.length args0)(e1:dR (nth ls) args0 args)(hv:v.b7 hs0.length)(e2:v.ay (nth ls)=v')(hb:Nat.blt HS.length Mem.bound=true)(hb0:Nat.blt hs0.length Mem.bound=true) :
 aG.Sound P ⟨f,args,HS,v',HS,[]⟩:=by
 obtain⟨hlen,_⟩:=ho.via.at
 have hat:=ho.at
 have kc:∀c:XC,c.ok hs0.length->c.ay (beyond (nth ls) hs0.length HS.length)=c.ay (nth ls):=by
  intro c
  induction c with
  | ptr i off=>exact fun h=>by simp only[XC.ay,beyond];rw[if_pos (show i<hs0.length from h)]
  | slice i off len cap=>exact fun h=>by simp only[XC.ay,beyond];rw[if_pos (show i<hs0.length from h)]
  | map i=>exact fun h=>by simp only[XC.ay,beyond];rw[if_pos (show i<hs0.length from h)]
  | bind g c ih1 ih2=>exact fun h=>by simp only[XC.ay,ih1 h.1,ih2 h.2]
  | _=>intro _;rfl
 have kcs:∀cs:List XC,(∀c∈cs,c.ok hs0.length)->cs.map (·.ay (beyond (nth ls) hs0.length HS.length))=cs.map (·.ay (nth ls)):=fun cs h=>List.map_congr_left fun c hc=>kc c (h c hc)
 have k1:∀x:X1,x.ok hs0.length->x.ay (beyond (nth ls) hs0.length HS.length)=x.ay (nth ls):=fun x h=>by
  cases x with
  | one c=>simp only[X1.ay,kc c h]
  | agg cs=>simp only[X1.ay,kcs cs h]
 have kv:∀x:XV,x.b7 hs0.length->x.ay (beyond (nth ls) hs0.length HS.length)=x.ay (nth ls):=fun x h=>by
  cases x with
  | undef=>rfl
  | one c=>simp only[XV.ay,kc c h]
  | agg cs=>simp only[XV.ay,kcs cs h]
  | tup xs=>simp only[XV.ay];rw[List.map_congr_left fun c hc=>k1 c (h c hc)]
 have ko:∀x:ak,x.b7 hs0.length->x.ay (beyond (nth ls) hs0.length HS.length)=x.ay (nth ls):=fun x h=>by
  cases x with
  | dead=>rfl
  | cells vs e a b=>simp only[ak.ay,kcs vs h]
  | map es=>simp only[ak.ay];rw[List.map_congr_left fun p hp=>by rw[k1 _ (h p hp).1,k1 _ (h p hp).2]]
 refine t8 hc (Nat.le_refl _) (ho.via.view (.inl nd) hk) ha.at e1.eq ((kv v hv).trans e2) ⟨by simp,fun j o h=>?_,fun i hi _=>rfl⟩ (fun j o h hl _=>⟨o,h,hl⟩) (fun i hi _=>rfl) hb hb0
 have hj:j<hs0.length:=(List.getElem?_eq_some_iff.1 h).1
 rw[ko o (hk.at o (List.mem_of_getElem? h)),show beyond (nth ls) hs0.length HS.length j=nth ls j from if_pos hj]
 exact hat j o h
structure RO(o:ak)(k:IntKind)(l:List Int):Prop where
 get:0<l.length->∃e opn ro,o = .cells (il k l) e opn ro
 flat:c8 o
theorem RO.of(k:IntKind)(l:List Int)(e:TypeId)(opn ro:Bool):RO (.cells (il k l) e opn ro) k l:=⟨fun _=>⟨e,opn,ro,rfl⟩,inferInstance⟩
def bK(HS:aj):List Nat->aj->aj
 | i::ls,o::os=>bK (HS.set i o) ls os
 | [],os=>HS++os
 | _::_,[]=>HS
theorem rR:∀(ls:List Nat) (HS os:aj),ls.length<=os.length->(bK HS ls os).length=HS.length+(os.length-ls.length)
 | [],HS,os,_=>by simp[bK]
 | i::ls,HS,o::os,h=>by
   simp only[bK,List.length_cons]at h ⊢
   rw[rR ls _ os (by omega),List.length_set];omega
 | _::_,_,[],h=>by simp at h
theorem mV:∀(ls:List Nat) (HS os:aj) (i:Nat),i<HS.length->i∉ls->(bK HS ls os)[i]? = HS[i]?
 | [],HS,os,i,hi,_=>by simp only[bK];exact List.getElem?_append_left hi
 | k::ls,HS,o::os,i,hi,h=>by
   simp only[List.mem_cons,not_or]at h
   simp only[bK]
   rw[mV ls _ os i (by rw[List.length_set];exact hi) h.2,List.getElem?_set_ne (Ne.symm h.1)]
 | _::_,_,[],i,hi,_=>rfl
theorem Bw:∀(ls:List Nat) (HS os:aj) (j:Nat),ls.length<=j->j<os.length->(bK HS ls os)[HS.length+(j-ls.length)]? = os[j]?
 | [],HS,os,j,_,hj=>by
   simp only[bK,List.length_nil,Nat.sub_zero]
   rw[List.getElem?_append_right (by omega)];congr 1;omega
 | k :: ls,HS,o::os,j,h,hj=>by
   cases j with
   | zero=>simp at h
   | succ j=>
     simp only[List.length_cons]at h hj
     have:=Bw ls (HS.set k o) os j (by omega) (by omega)
     rw[List.length_set]at this
     simp only[bK,List.length_cons,List.getElem?_cons_succ]
     rw[<-this];congr 1;omega
 | _::_,_,[],j,_,hj=>by simp at hj
theorem EF:∀(ls:List Nat) (HS os:aj),ls.Nodup->(∀i∈ls,i<HS.length)->∀(j:Nat),j<ls.length->j<os.length->(bK HS ls os)[nth ls j]? = os[j]?
 | [],_,_,_,_,j,hj,_=>by simp at hj
 | k :: ls,HS,o::os,nd,hi,j,hj,ho=>by
   have hk:k∉ls:=(List.nodup_cons.1 nd).1
   have nd':=(List.nodup_cons.1 nd).2
   have hi':∀i∈ls,i<(HS.set k o).length:=fun i h=>by rw[List.length_set];exact hi i (List.mem_cons_of_mem _ h)
   simp only[bK]
   cases j with
   | zero=>
     show(bK (HS.set k o) ls os)[k]? = some o
     rw[mV ls _ os k (by rw[List.length_set];exact hi k (List.mem_cons_self ..)) hk,List.getElem?_set_self (hi k (List.mem_cons_self ..))]
   | succ j=>
     simp only[List.length_cons]at hj ho
     exact EF ls _ os nd' hi' j (by omega) (by omega)
 | _::_,_,[],_,_,j,_,ho=>by simp at ho
inductive dv(τ : Nat->Nat):aj->aj->Prop where
 | nil:dv τ [] []
 | flat {o:ak} {l m:aj} [c8 o]:dv τ l m->dv τ (o::l) (o::m)
 | cons {o w:ak} {l m:aj}:o.ay τ = w->dv τ l m->dv τ (o::l) (w::m)
theorem dv.eq{τ : Nat->Nat}{l m:aj}(h:dv τ l m):l.map (·.ay τ)=m:=by
 induction h with
 | nil=>rfl
 | @flat v l m inst _ ih=>simp only[List.map_cons,ih,inst.ay]
 | cons h _ ih=>simp only[List.map_cons,ih,h]
def d9:aj->aj->Bool
 | _,[]=>true
 | o0::hs0,o::hs=>(o0.live||!o.live||o.own)&&d9 hs0 hs
 | [],o::hs=>(!o.live||o.own)&&d9 [] hs
theorem zr:∀{hs0 hs:aj},d9 hs0 hs=true->∀(j:Nat) (o:ak),hs[j]? = some o->o.live=true->o.own=false->∃o0,hs0[j]? = some o0/\o0.live=true
 | _,[],_,j,o,h,_,_=>by simp at h
 | o0::hs0,o::hs,hr,j,x,h,hl,ho=>by
   simp only[d9,Bool.and_eq_true]at hr
   cases j with
   | zero=>
     simp only[List.getElem?_cons_zero,Option.some.injEq]at h
     subst h
     refine⟨o0,rfl,?_⟩
     rw[hl,ho]at hr
     simpa using hr.1
   | succ j=>exact zr hr.2 j x (by simpa using h) hl ho
 | [],o::hs,hr,j,x,h,hl,ho=>by
   simp only[d9,Bool.and_eq_true]at hr
   cases j with
   | zero=>
     simp only[List.getElem?_cons_zero,Option.some.injEq]at h
     subst h
     rw[hl,ho]at hr
     simp at hr
   | succ j=>
     obtain⟨o0,h1,_⟩:=zr hr.2 j x (by simpa using h) hl ho
     simp at h1
theorem CE{ls:List Nat}{N k:Nat}(j:Nat)(hj:j<ls.length+k):beyond (nth ls) ls.length N j=nth (ls++List.range' N k) j:=by
 unfold beyond nth
 by_cases h:j<ls.length
 ·rw[if_pos h,List.getD_eq_getElem?_getD,List.getD_eq_getElem?_getD,List.getElem?_append_left h]
 ·rw[if_neg h,List.getD_eq_getElem?_getD,List.getElem?_append_right (by omega),List.getElem?_range' (by omega)]
  simp
theorem bO{f:FuncId}{args0 args:List XV}{hs0 hs0' HS HS' os:aj}{v v':XV}(ls ws:List Nat)(k:Nat)(hc:bh P f args0 hs0 v hs0')(nd:ls.Nodup)(ho:ae (nth ls) HS ls hs0)(hk:bc hs0.length hs0)(hk':bc hs0'.length hs0')(hn:ls.length+k=hs0'.length)(ha:fq hs0.length args0)(e1:dR (nth ls) args0 args)(hv:v.b7 hs0'.length)
 (e2:v.ay (nth (ls++List.range' HS.length k))=v') (hr:dv (nth (ls++List.range' HS.length k)) hs0' os) (hro:d9 hs0 hs0'=true) (hb0:Nat.blt hs0.length Mem.bound=true) (hh:bK HS ls os=HS') (hb:Nat.blt HS'.length Mem.bound=true) (hws:ws=ls\/∀i,i<HS.length->i∉ws->HS'[i]? = HS[i]?) :
 aG.Sound P ⟨f,args,HS,v',HS',ws⟩:=by
 subst hh
 obtain⟨hlen,hobj⟩:=ho.at
 have eos:=hr.eq
 have los:os.length=hs0'.length:=by rw[<-eos];simp
 have hin:∀i∈ls,i<HS.length:=by
  intro i hi
  obtain⟨j,hj,rfl⟩:=List.mem_iff_getElem.1 hi
  have:=(hobj j _ (List.getElem?_eq_getElem (by omega:j<hs0.length))).1
  unfold nth at this
  rwa [List.getD_eq_getElem?_getD,List.getElem?_eq_getElem hj]at this
 have kc:∀n (c:XC),c.ok n->n<=hs0'.length->c.ay (beyond (nth ls) hs0.length HS.length)=c.ay (nth (ls++List.range' HS.length k)):=by
  intro n c
  have e:∀i,i<n->n<=hs0'.length->beyond (nth ls) hs0.length HS.length i=nth (ls++List.range' HS.length k) i:=fun i hi hl=>by
   rw[hlen];exact CE i (by omega)
  induction c with
  | ptr i off=>exact fun h hl=>by simp only[XC.ay,e i h hl]
  | slice i off len cap=>exact fun h hl=>by simp only[XC.ay,e i h hl]
  | map i=>exact fun h hl=>by simp only[XC.ay,e i h hl]
  | bind g c ih1 ih2=>exact fun h hl=>by simp only[XC.ay,ih1 h.1 hl,ih2 h.2 hl]
  | _=>intro _ _;rfl
 have kcs:∀cs:List XC,(∀c∈cs,c.ok hs0'.length)->cs.map (·.ay (beyond (nth ls) hs0.length HS.length))=cs.map (·.ay (nth (ls++List.range' HS.length k))):=fun cs h=>List.map_congr_left fun c hc=>kc _ c (h c hc) (Nat.le_refl _)
 have k1:∀x:X1,x.ok hs0'.length->x.ay (beyond (nth ls) hs0.length HS.length)=x.ay (nth (ls++List.range' HS.length k)):=fun x h=>by
  cases x with
  | one c=>simp only[X1.ay,kc _ c h (Nat.le_refl _)]
  | agg cs=>simp only[X1.ay,kcs cs h]
 have kv:∀x:XV,x.b7 hs0'.length->x.ay (beyond (nth ls) hs0.length HS.length)=x.ay (nth (ls++List.range' HS.length k)):=fun x h=>by
  cases x with
  | undef=>rfl
  | one c=>simp only[XV.ay,kc _ c h (Nat.le_refl _)]
  | agg cs=>simp only[XV.ay,kcs cs h]
  | tup xs=>simp only[XV.ay];rw[List.map_congr_left fun c hc=>k1 c (h c hc)]
 have ko:∀x:ak,x.b7 hs0'.length->x.ay (beyond (nth ls) hs0.length HS.length)=x.ay (nth (ls++List.range' HS.length k)):=fun x h=>by
  cases x with
  | dead=>rfl
  | cells vs e a b=>simp only[ak.ay,kcs vs h]
  | map es=>simp only[ak.ay];rw[List.map_congr_left fun p hp=>by rw[k1 _ (h p hp).1,k1 _ (h p hp).2]]
 refine t8 hc (by omega) (ho.view (.inl nd) hk) ha.at e1.eq ((kv v hv).trans e2) ⟨?_,fun j o hj=>?_,fun i hi hne=>?_⟩ (zr hro) (fun i hi hne=>?_) hb hb0
 ·rw[rR ls HS os (by omega)];omega
 ·have hjl:j<hs0'.length:=(List.getElem?_eq_some_iff.1 hj).1
  have hoj:os[j]? = some (o.ay (nth (ls++List.range' HS.length k))):=by rw[<-eos,List.getElem?_map,hj];rfl
  rw[ko o (hk'.at o (List.mem_of_getElem? hj)),hlen]
  unfold beyond
  by_cases h:j<ls.length
  ·rw[if_pos h,EF ls HS os nd hin j h (by omega)];exact hoj
  ·rw[if_neg h,Bw ls HS os j (by omega) (by omega)];exact hoj
 ·refine mV ls HS os i hi fun hm=>?_
  obtain⟨j,hj,e⟩:=List.mem_iff_getElem.1 hm
  refine hne j (by omega) ?_
  unfold nth
  rw[List.getD_eq_getElem?_getD,List.getElem?_eq_getElem hj]
  exact e
 ·rcases hws with e|h
  ·subst e;exact mV ws HS os i hi hne
  ·exact h i hi hne
theorem N7.of{c:XC}{i n:Nat}(h:N7 c i n)(hn:∀cap,c = .slice i 0 n (.exact cap)->n<=cap):cY c i 0 n:=by
 rcases h with⟨rfl,rfl⟩|⟨cap,rfl⟩
 ·exact .nil
 ·exact .mk (hn cap rfl)
theorem cY.back{c:XC}{i off n:Nat}(h:cY c i off n):∃c0,cY c0 0 off n/\c0.ay (fun _=>i)=c:=by
 rcases h with⟨rfl,rfl|⟨o,cap,rfl⟩⟩|⟨cap,h1,rfl⟩
 ·exact⟨.nils,.nil,rfl⟩
 ·exact⟨.slice 0 o 0 (.exact cap),.inl ⟨rfl,.inr ⟨_,_,rfl⟩⟩,rfl⟩
 ·exact⟨.slice 0 off n (.exact cap),.inr ⟨_,h1,rfl⟩,rfl⟩
theorem cY.oP{c:XC}{i off n:Nat}(h:cY c i off n)(j:Nat)(τ : Nat->Nat)(ht : τ j=i):∃c0,cY c0 j off n/\c0.ay τ = c:=by
 subst ht
 rcases h with⟨rfl,rfl|⟨o,cap,rfl⟩⟩|⟨cap,h1,rfl⟩
 ·exact⟨.nils,.nil,rfl⟩
 ·exact⟨.slice j o 0 (.exact cap),.inl ⟨rfl,.inr ⟨_,_,rfl⟩⟩,rfl⟩
 ·exact⟨.slice j off n (.exact cap),.inr ⟨_,h1,rfl⟩,rfl⟩
theorem IK{fn:Func}{n:Nat}{e:XE}{al:bl}{hs hs':aj}{v1 v:XV}(τl:List Nat)(he:e = .normal\/e = .ret)(hr:tQ P fn al hs v1)(hv:v1=v.ay (nth τl))(hok:v.b7 hs'.length)(nd:Nd τl hs')(hid:(List.range n).all (fun j=>nth τl j==j)=true)(ho:ae (nth τl) hs τl hs')(hk:bc hs'.length hs'):aC P fn n v hs' e al hs:=
 Et (nth τl) he hr hv hok (ho.view nd hk) fun j hj=>by
  have:=List.all_eq_true.1 hid j (List.mem_range.2 hj)
  simpa using this
variable {ops:Array Oper} {nt nI:Nat} {al:bl} {hs:aj} {o:Oper} {l:List Oper} {L:List aG} {K:List Ab->bl->aj->Prop} {d:Nat}
theorem Hq(k:IntKind)(n:Nat):fT [.int k 0] n=il k (List.replicate n 0):=by
 unfold fT il
 apply List.ext_getElem?
 intro i
 by_cases h:i<n
 ·simp[h,Nat.mod_one]
 ·simp[h]
theorem Pd{t e:TypeId}{a b:Operand}{k:IntKind}(ho:o.op = .makeSlice t a b)[hu:aW P t (.slice e)][hz:bz P e [.int k 0]][hI:TI P e 1](hw:av ops (rg al) o=some true)(hd:o.dst=some d)(hlt:Nat.blt d nt=true){kl kc:IntKind}{x y:Int}(ha:ai (rg al) a = .one (.int kl x))(hb:ai (rg al) b = .one (.int kc y)){n:Nat}(hx:x=(n:Nat))(hy:y=(n:Nat))(hn:n<=2000000000)
 {N:Nat}(hN:hs.length=N) (hbd:Nat.blt N Mem.bound=true) {hs':aj}(hh:hs++[.cells (il k (List.replicate n 0)) e false false]=hs') (hk:SK P ops nt L l ((d,.one (.slice N 0 n (.exact n)))::al) hs' fun bs=>K (⟨true,.none,[N]⟩::bs)):SK P ops nt L (o::l) al hs K:=by
 subst hN hh hx hy
 refine SK.lift hd hlt (fun _=>?_) hk
 intro m hm
 obtain⟨m',h1,h2,h3⟩:=hm.push (.cells (il k (List.replicate n 0)) e false false) (by simpa [Nat.blt_eq]using hbd)
 refine⟨m',?_,h2,h3⟩
 unfold kC
 rw[hw]
 refine dg (by rw[ho];rfl) (by rw[ho];rfl) (by rw[ho];rfl) ?_
 rw[ho]
 obtain⟨ti,hti,hs1,hby⟩:=hI.get
 have hbb:(ti.bytes:Int)*(n:Nat)<=281474976710656:=by
  have:(ti.bytes:Int)*(n:Nat)<=65536*(n:Nat):=Int.mul_le_mul_of_nonneg_right (by omega) (by omega)
  omega
 simp only[cK,jN,fe,hu.out,ha,hb,hti,hz.out,hs1,Int.toNat_natCast,Nat.mul_one,Hq,h1,hm.n]
 rw[if_pos ⟨by omega,by omega,by omega,hbb,by simp⟩]
theorem MO{t e:TypeId}{y:Operand}{k:IntKind}(ho:o.op = .buildSlice t 1 #[(0,y)])[hu:aW P t (.slice e)][hz:bz P e [.int k 0]][hse:aP P e 1](hw:av ops (rg al) o=some true)(hd:o.dst=some d)(hlt:Nat.blt d nt=true){z:Int}(hy:dh (ai (rg al) y)=some [.int k z]){n:Nat}(hn:hs.length=n)(hb:Nat.blt n Mem.bound=true){hs':aj}(hh:hs++[.cells (il k [z]) e false false]=hs')
 (hk:SK P ops nt L l ((d,.one (.slice n 0 1 (.exact 1)))::al) hs' fun bs=>K (⟨true,.none,[n]⟩::bs)):SK P ops nt L (o::l) al hs K:=
 JV ho rfl hw hd hlt hy hn hb hh hk
theorem MM{t e:TypeId}{k:IntKind}(ho:o.op = .buildSlice t 0 #[])[hu:aW P t (.slice e)][hz:bz P e [.int k 0]][hse:aP P e 1](hw:av ops (rg al) o=some true)(hd:o.dst=some d)(hlt:Nat.blt d nt=true){n:Nat}(hn:hs.length=n)(hb:Nat.blt n Mem.bound=true){hs':aj}(hh:hs++[.cells (il k []) e false false]=hs')
 (hk:SK P ops nt L l ((d,.one (.slice n 0 0 (.exact 0)))::al) hs' fun bs=>K (⟨true,.none,[n]⟩::bs)):SK P ops nt L (o::l) al hs K:=by
 subst hn hh
 refine SK.lift hd hlt (fun _=>?_) hk
 intro m hm
 obtain⟨m',h1,h2,h3⟩:=hm.push (.cells (il k []) e false false) (by simpa [Nat.blt_eq]using hb)
 refine⟨m',?_,h2,h3⟩
 unfold kC
 rw[hw]
 refine dg (by rw[ho];rfl) (by rw[ho];rfl) (by rw[ho];rfl) ?_
 rw[ho]
 have hf:iD (fun i=>some (i*1,1)) (fT [.int k 0] (0*1)) []=some (il k []):=by
  simp[iD,fT,il]
 simp only[cK,fc,fe,hu.out,hse.out,hz.out,List.map_nil,h1,hm.n,hf]
 simp
theorem r7{t1 e:TypeId}[hu:aW P t1 (.slice e)]{x:XV}{j len sz:Nat}{cap:tO}{vs:List XC}{et:TypeId}{opn ro:Bool}(hx:x = .one (.slice j 0 len cap))(hj:hs[j]? = some (.cells vs et opn ro))(hl:vs.length=len*sz):∀M,bH M hs->rf P t1 sz x M=some (len,vs):=by
 intro M hM
 subst hx
 have:=hM.at hj
 by_cases h0:len=0
 ·subst h0
  have:vs = []:=List.length_eq_zero_iff.1 (by simpa using hl)
  subst this
  cases cap<;>simp only[rf,hu.out,if_true]
 ·cases cap<;>simp only[rf,hu.out,this,Nat.zero_add,List.drop_zero,h0,if_false]<;>rw[if_pos (by omega),List.take_of_length_le (by omega)]
theorem O7{t t1 e e1:TypeId}{a b:Operand}{k:IntKind}(ho:o.op = .call ⟨.builtin .append,#[a,b],#[t,t1]⟩)[hu:aW P t (.slice e)][hu1:aW P t1 (.slice e1)][hz:bz P e [.int k 0]][hI:TI P e 1](hw:av ops (rg al) o=some true)(hd:o.dst=some d)(hlt:Nat.blt d nt=true)
 {i n j len:Nat} {cap:tO} {q r:List Int} {et:TypeId} {opn ro:Bool}(ha:ai (rg al) a=hZ i n 1) (hi:hs[i]? = some (cE e (il k q))) (hb:ai (rg al) b = .one (.slice j 0 len cap)) (hj:hs[j]? = some (.cells (il k r) et opn ro)) (hn:q.length=n) (hr:r.length=len) (hm:0<len/\n+len<=2000000000)
 {N:Nat}(hN:hs.length=N) (hbd:Nat.blt N Mem.bound=true) {hs':aj}(hh:hs.set i .dead++[cE e (il k (q++r))]=hs')
 (hk:SK P ops nt L l ((d,hZ N (n+len) 1)::al) hs' fun bs=>K (⟨true,.none,[i,N]⟩::bs)):SK P ops nt L (o::l) al hs K:=by
 have hne:il k (q++r)≠[]:=by
  intro h
  have:(il k (q++r)).length=0:=by rw[h];rfl
  rw[dZ,List.length_append]at this
  omega
 rw[l6 (by omega)]at hk
 exact Dr ho hw hd hlt (sz:=1) ⟨rfl,by omega⟩ ha hi (by rw[dZ];omega) (r7 hb hj (by rw[dZ];omega)) ⟨hm.1,by omega⟩ hN hbd (by rw[xJ,<-fb hne];exact hh) hk
theorem ug{t1 e1:TypeId}[hu1:aW P t1 (.slice e1)]{x:XV}{i n:Nat}{k:IntKind}{r:List Int}{e:TypeId}(hx:x=hZ i n 1)(hi:hs[i]? = some (cE e (il k r)))(hr:r.length=n):∀M,bH M hs->rf P t1 1 x M=some (n,il k r):=by
 cases r with
 | nil=>
   intro M _
   subst hr
   rw[hx]
   show rf P t1 1 (.one .nils) M=_
   simp only[rf,hu1.out];rfl
 | cons a r=>exact r7 (hx.trans (l6 (by rw[<-hr];exact Nat.succ_ne_zero _))) hi (by rw[dZ];omega)
theorem O_{t t1 e e1:TypeId}{a b:Operand}{k:IntKind}(ho:o.op = .call ⟨.builtin .copy,#[a,b],#[t,t1]⟩)[hu:aW P t (.slice e)][hu1:aW P t1 (.slice e1)][hse:aP P e 1](hw:av ops (rg al) o=some true)(hd:o.dst=some d)(hlt:Nat.blt d nt=true)
 {j len:Nat} {cap:tO} {q r:List Int} {et:TypeId} {opn:Bool}(ha:ai (rg al) a = .one (.slice j 0 len cap)) (hj:hs[j]? = some (.cells (il k q) et opn false)) (hq:q.length=len) (hr:r.length=len) (hsrc:∀M,bH M hs->rf P t1 1 (ai (rg al) b) M=some (len,il k r))
 {hs':aj}(hh:hs.set j (.cells (il k r) et opn false)=hs') (hk:SK P ops nt L l ((d,.one (.int .i64 (len:Nat)))::al) hs' fun bs=>K (⟨true,.none,[j]⟩::bs)):SK P ops nt L (o::l) al hs K:=by
 subst hh
 refine SK.lift hd hlt (fun _=>?_) hk
 intro m hm
 refine⟨m.put j (.cells (il k r) et opn false),?_,hm.put hj _,uf⟩
 unfold kC
 rw[hw]
 refine dg (by rw[ho];rfl) (by rw[ho];rfl) (by rw[ho];rfl) ?_
 rw[ho]
 have ht:(il k r).take (len*1)=il k r:=List.take_of_length_le (by rw[dZ];omega)
 have hdr:(il k q).drop (0+(il k r).length) = []:=List.drop_of_length_le (by rw[dZ,dZ];omega)
 have he:fe P t=some e:=by simp only[fe,hu.out]
 show wu P t t1 (ai (rg al) a) (ai (rg al) b) m=_
 unfold wu
 rw[he,ha]
 simp only[hse.out,hsrc m hm,hm.at hj,show Nat.min len len=len from Nat.min_self len,ht,hdr]
 rw[if_pos (by rw[dZ];omega)]
 simp
theorem Bg{α γ : Type}{kc : α->X1}{vc : γ->X1}(hk:∀a,(kc a).shut=true)(hv:∀c,(vc c).shut=true)(M:List (α×γ)):c8 (.map (lQ kc vc M)):=by
 refine⟨fun τ=>?_,fun n p hp=>?_⟩
 ·simp only[ak.ay,lQ,List.map_map]
  congr 1
  refine List.map_congr_left fun p _=>?_
  simp only[Function.comp,X1.eC (hk p.1),X1.eC (hv p.2)]
 ·obtain⟨q,_,rfl⟩:=List.mem_map.1 hp
  exact⟨X1.bV (hk q.1) n,X1.bV (hv q.2) n⟩
theorem Pc(T:Nat->Int){t:TypeId}{x ix:Operand}(ho:o.op = .index t x ix)[hu:aW P t .string](hw:av ops (rg al) o=some true)(hd:o.dst=some d)(hlt:Nat.blt d nt=true){s:List UInt8}(ha:ai (rg al) x = .one (.str s)){k:IntKind}{z:Int}(hb:ai (rg al) ix = .one (.int k z))(hz:0<=z/\z<256)(hT:∀i:Fin 256,s[i.val]?.map (fun b=>(b.toNat:Int))=some (T i.val))
 (hk:SK P ops nt L l ((d,.one (.int .u8 (T z.toNat)))::al) hs fun bs=>K (quiet::bs)):SK P ops nt L (o::l) al hs K:=by
 refine SK.lift hd hlt (fun _=>aH.pure hw ?_) hk
 have h:=hT ⟨z.toNat,by omega⟩
 obtain⟨b,h1,h2⟩:=Option.map_eq_some_iff.1 h
 rw[ho]
 simp only[bj,rb,hu.out,ha,hb,hz.1,if_true]
 simp only[]at h1
 rw[h1,Option.map_some,h2]
theorem Gw{t:TypeId}{a y:Operand}(ho:o.op = .store t a y)[ht:aP P t 1](hw:av ops (rg al) o=some true)(hd:o.dst = .none){i off:Nat}(ha:ai (rg al) a = .one (.ptr i off)){k:IntKind}{z:Int}(hy:dh (ai (rg al) y)=some [.int k z]){q:List Int}{e:TypeId}(hi:hs[i]? = some (cE e (il k q)))(hle:off<q.length)
 {hs':aj}(hh:hs.set i (cE e (il k (q.set off z)))=hs') (hk:SK P ops nt L l al hs' fun bs=>K (⟨true,.none,[i]⟩::bs)):SK P ops nt L (o::l) al hs K:=by
 cases q with
 | nil=>exact absurd hle (Nat.not_lt_zero _)
 | cons b r=>
   have h:cE e (il k ((b::r).set off z)) = .cells (il k ((b::r).set off z)) e true false:=by cases off<;>rfl
   rw[h]at hh
   exact lC ho hw hd ha hy (vs:=il k (b::r)) hi (by rw[dZ];exact hle) (IG ..) hh hk
theorem O6{t t1 e e1:TypeId}{a b:Operand}{k:IntKind}(ho:o.op = .call ⟨.builtin .append,#[a,b],#[t,t1]⟩)[hu:aW P t (.slice e)][hu1:aW P t1 (.slice e1)][hz:bz P e [.int k 0]][hI:TI P e 1](hw:av ops (rg al) o=some true)(hd:o.dst=some d)(hlt:Nat.blt d nt=true)
 {i len n:Nat} {q r:List Int} {et:TypeId} {opn ro:Bool}(ha:ai (rg al) a = .one (.slice i 0 len (.exact len))) (hi:hs[i]? = some (.cells (il k q) et opn ro)) (hq:q.length=len) (hr:r.length=n) (hsrc:∀M,bH M hs->rf P t1 1 (ai (rg al) b) M=some (n,il k r)) (hm:len+n<=2000000000)
 {N:Nat}(hN:hs.length=N) (hbd:Nat.blt N Mem.bound=true) {hs':aj}(hh:hs++[.cells (il k (q++r)) e true false]=hs')
 (h1:n=0->SK P ops nt L l ((d,.one (.slice i 0 len (.exact len)))::al) hs fun bs=>K (⟨true,.none,[]⟩::bs)) (h2:0<n->SK P ops nt L l ((d,.one (.slice N 0 (len+n) (.toEnd 1)))::al) hs' fun bs=>K (⟨true,.none,[N]⟩::bs)):SK P ops nt L (o::l) al hs K:=by
 subst hN hh
 obtain⟨ti,hti,hs1,hby⟩:=hI.get
 have hbytes:(len+n)*ti.bytes<=140737488355328:=Nat.le_trans (Nat.mul_le_mul_left _ hby) (by omega)
 by_cases h0:n=0
 ·refine SK.lift hd hlt (fun _=>?_) (h1 h0)
  subst h0
  intro M hM
  refine⟨M,?_,hM,fun _ _=>rfl⟩
  unfold kC
  rw[hw]
  refine dg (by rw[ho];rfl) (by rw[ho];rfl) (by rw[ho];rfl) ?_
  rw[ho]
  simp only[cK,kQ,fe,hu.out,hti,hz.out,ha,hs1,hsrc M hM,List.getElem?_toArray,List.getElem?_cons_zero,List.getElem?_cons_succ]
  simp
 ·refine SK.lift hd hlt (fun _=>?_) (h2 (by omega))
  intro M hM
  obtain⟨m',p1,p2,p3⟩:=hM.push (.cells (il k (q++r)) e true false) (by simpa [Nat.blt_eq]using hbd)
  refine⟨m',?_,p2,p3⟩
  unfold kC
  rw[hw]
  refine dg (by rw[ho];rfl) (by rw[ho];rfl) (by rw[ho];rfl) ?_
  rw[ho]
  have e1:¬len+n<=len:=by omega
  have e2:0+len*1<=(il k q).length:=by rw[dZ];omega
  have e3:((il k q).drop 0).take (len*1)++il k r=il k (q++r):=by
   rw[List.drop_zero,List.take_of_length_le (by rw[dZ];omega),xJ]
  simp only[cK,kQ,fe,hu.out,hti,hz.out,ha,hs1,hsrc M hM,List.getElem?_toArray,List.getElem?_cons_zero,List.getElem?_cons_succ,e1,if_false,hM.at hi,e2,if_true,e3,p1,hM.n]
  rw[if_pos ⟨rfl,by omega⟩,if_pos ⟨by omega,hbytes⟩]
theorem JZ{t:TypeId}{a:Operand}(ho:o.op = .load t a)[ht:ef P t](hw:av ops (rg al) o=some true)(hd:o.dst=some d)(hlt:Nat.blt d nt=true){i off:Nat}(ha:ai (rg al) a = .one (.ptr i off)){ob:ak}(hi:hs[i]? = some ob){k:IntKind}{q:List Int}(hro:RO ob k q)(hc:off<q.length)
 (hk:SK P ops nt L l ((d,.one (.int k (q.getD off 0)))::al) hs fun bs=>K (⟨false,some i,[]⟩::bs)):SK P ops nt L (o::l) al hs K:=by
 obtain⟨e,opn,ro,rfl⟩:=hro.get (by omega)
 exact gk ho hw hd hlt ha hi (CY hc) hk
class sw {α : Type}(enc : α->List XC) (s:outParam Nat):Prop where
 len:∀a,(enc a).length=s
 shut:∀a,(enc a).all XC.shut=true
 pos:0<s
def fl{α : Type}(enc : α->List XC)(l:List α):List XC:=l.flatMap enc
section
variable {α : Type} {enc : α->List XC} {s:Nat} [hE:sw enc s]
theorem u3(l:List α):(fl enc l).length=l.length*s:=by
 induction l with
 | nil=>simp[fl]
 | cons a l ih=>simp only[fl,List.flatMap_cons,List.length_append,hE.len,List.length_cons]at ih ⊢;rw[ih,Nat.add_mul];omega
theorem FR(l m:List α):fl enc (l++m)=fl enc l++fl enc m:=by simp[fl]
theorem Ov(a : α):fl enc [a]=enc a:=by simp[fl]
theorem y8{α : Type}{enc : α->List XC}{s:Nat}[hE:sw enc s](l:List α):(fl enc l).all XC.shut=true:=by
 rw[List.all_eq_true]
 intro c hc
 obtain⟨a,_,ha⟩:=List.mem_flatMap.1 hc
 exact List.all_eq_true.1 (hE.shut a) c ha
theorem NG(l:List α)(j:Nat)(hj:j<l.length)(dflt : α):j*s+s<=(fl enc l).length/\((fl enc l).drop (j*s)).take s=enc (l.getD j dflt):=
 y9 enc s l (fun a _=>hE.len a) j _ (by simp[List.getD_eq_getElem?_getD,hj])
theorem AS{α : Type}{enc : α->List XC}{s:Nat}[hE:sw enc s]{l:List α}(h:l≠[]):fl enc l≠[]:=fun e=>by
 have:=u3 (enc:=enc) l
 rw[e]at this
 have hp:=hE.pos
 cases l with
 | nil=>exact h rfl
 | cons a l=>simp only[List.length_cons,List.length_nil,Nat.add_mul]at this;omega
instance {e:TypeId} {a b:Bool} {l:List α}:c8 (.cells (fl enc l) e a b):=jj (y8 l)
instance {e:TypeId} {l:List α}:c8 (cE e (fl enc l)):=BJ (y8 l)
instance {a : α} {e:TypeId} {x y:Bool}:c8 (.cells (enc a) e x y):=jj (hE.shut a)
structure uy(o:ak)(enc : α->List XC)(l:List α):Prop where
 get:0<l.length->∃e opn ro,o = .cells (fl enc l) e opn ro
 flat:c8 o
theorem JY[Inhabited α]{t:TypeId}{a:Operand}(ho:o.op = .load t a)[ht:eV P t][hs':aP P t s](hw:av ops (rg al) o=some true)(hd:o.dst=some d)(hlt:Nat.blt d nt=true){i off:Nat}(ha:ai (rg al) a = .one (.ptr i off)){e:TypeId}{q:List α}(hi:hs[i]? = some (cE e (fl enc q))){j:Nat}(hj:off=j*s)(hc:j<q.length)
 (hk:SK P ops nt L l ((d,.agg (enc (q.getD j default)))::al) hs fun bs=>K (⟨false,some i,[]⟩::bs)):SK P ops nt L (o::l) al hs K:=by
 obtain⟨h1,h2⟩:=NG (enc:=enc) q j hc default
 subst hj
 exact vS ho hw hd hlt ha (hi.trans (congrArg some (fb (AS (fun e=>by rw[e]at hc;exact absurd hc (Nat.not_lt_zero _)))))) h1 h2 hk
theorem Gv[Inhabited α]{t:TypeId}{a:Operand}(ho:o.op = .load t a)[ht:eV P t][hs':aP P t s](hw:av ops (rg al) o=some true)(hd:o.dst=some d)(hlt:Nat.blt d nt=true){i off:Nat}(ha:ai (rg al) a = .one (.ptr i off)){ob:ak}{q:List α}(hi:hs[i]? = some ob)(hro:uy ob enc q){j:Nat}(hj:off=j*s)(hc:j<q.length)
 (hk:SK P ops nt L l ((d,.agg (enc (q.getD j default)))::al) hs fun bs=>K (⟨false,some i,[]⟩::bs)):SK P ops nt L (o::l) al hs K:=by
 obtain⟨h1,h2⟩:=NG (enc:=enc) q j hc default
 obtain⟨e,opn,ro,rfl⟩:=hro.get (by omega)
 subst hj
 exact vS ho hw hd hlt ha hi h1 h2 hk
theorem MN{t e:TypeId}{y:Operand}{zs:List XC}(ho:o.op = .buildSlice t 1 #[(0,y)])[hu:aW P t (.slice e)][hz:bz P e zs][hse:aP P e s](hzl:zs.length=s)(hsm:s<=16777216)(hw:av ops (rg al) o=some true)(hd:o.dst=some d)(hlt:Nat.blt d nt=true){a : α}(hy:dh (ai (rg al) y)=some (enc a)){n:Nat}(hn:hs.length=n)(hb:Nat.blt n Mem.bound=true){hs':aj}(hh:hs++[.cells (fl enc [a]) e false false]=hs')
 (hk:SK P ops nt L l ((d,.one (.slice n 0 1 (.exact 1)))::al) hs' fun bs=>K (⟨true,.none,[n]⟩::bs)):SK P ops nt L (o::l) al hs K:=by
 subst hn hh
 refine SK.lift hd hlt (fun _=>?_) hk
 intro m hm
 obtain⟨m',h1,h2,h3⟩:=hm.push (.cells (fl enc [a]) e false false) (by simpa [Nat.blt_eq]using hb)
 refine⟨m',?_,h2,h3⟩
 unfold kC
 rw[hw]
 refine dg (by rw[ho];rfl) (by rw[ho];rfl) (by rw[ho];rfl) ?_
 rw[ho]
 have hp:=hE.pos
 have hlen:=hE.len a
 have hzz:(fT zs (1*s)).length=s:=by simp[fT]
 have hf:iD (fun i=>some (i*s,s)) (fT zs (1*s)) [(0,ai (rg al) y)]=some (fl enc [a]):=by
  simp only[iD,hy,hlen,Nat.zero_mul]
  rw[if_pos ⟨trivial,by rw[hzz];omega⟩,Ov]
  simp only[List.take_zero,List.nil_append,Nat.zero_add]
  rw[List.drop_of_length_le (by rw[hzz];omega),List.append_nil]
 simp only[cK,fc,fe,hu.out,hse.out,hz.out,List.map_cons,List.map_nil,h1,hm.n,hf]
 rw[if_pos ⟨by omega,by omega⟩]
theorem O8{t t1 e e1:TypeId}{a b:Operand}{zs:List XC}(ho:o.op = .call ⟨.builtin .append,#[a,b],#[t,t1]⟩)[hu:aW P t (.slice e)][hu1:aW P t1 (.slice e1)][hz:bz P e zs][hI:TI P e s](hzl:zs.length=s)(hw:av ops (rg al) o=some true)(hd:o.dst=some d)(hlt:Nat.blt d nt=true)
 {i n j len:Nat} {cap:tO} {q r:List α} {et:TypeId} {opn ro:Bool}(ha:ai (rg al) a=hZ i n s) (hi:hs[i]? = some (cE e (fl enc q))) (hb:ai (rg al) b = .one (.slice j 0 len cap)) (hj:hs[j]? = some (.cells (fl enc r) et opn ro)) (hn:q.length=n) (hr:r.length=len) (hm:0<len/\n+len<=2000000000)
 {N:Nat}(hN:hs.length=N) (hbd:Nat.blt N Mem.bound=true) {hs':aj}(hh:hs.set i .dead++[cE e (fl enc (q++r))]=hs')
 (hk:SK P ops nt L l ((d,hZ N (n+len) s)::al) hs' fun bs=>K (⟨true,.none,[i,N]⟩::bs)):SK P ops nt L (o::l) al hs K:=by
 have hne:fl enc (q++r)≠[]:=AS (fun h=>by
  have:(q++r).length=0:=by rw[h];rfl
  rw[List.length_append]at this
  omega)
 rw[l6 (by omega)]at hk
 exact Dr ho hw hd hlt (sz:=s) ⟨hzl,hE.pos⟩ ha hi (by rw[u3,hn]) (r7 hb hj (by rw[u3,hr])) ⟨hm.1,by omega⟩ hN hbd (by rw[<-FR,<-fb hne];exact hh) hk
end
end Go.Xm
namespace Go.Xm
variable [ax]
variable {P:Program} {ops:Array Oper} {nt nI:Nat} {al:bl} {hs:aj} {o:Oper} {l:List Oper} {L:List aG} {K:List Ab->bl->aj->Prop} {d:Nat}
structure Wn(ops:Array Oper)(nt:Nat)(al:bl)(o:Oper)(d:Nat):Prop where
 w:av ops (rg al) o=some true
 e:o.dst=some d
 l:Nat.blt d nt=true
theorem n1{α : Type}{a b : α}(h:a=b:=by first|(simp only[Nat.zero_add,Nat.mul_one,Nat.reduceAdd,Nat.reduceMul,Int.reduceSub,Int.reduceAdd,Int.reduceMul,Int.reduceDiv,Int.reduceMod,Int.reduceToNat,Nat.add_zero,Int.toNat_natCast];exact rfl)|exact rfl|fail):a=b:=h
theorem n2{α : Type}{a b : α}(h:a=b:=by first|(simp only[List.length_cons,List.length_nil,List.length_append,Nat.reduceAdd,Nat.zero_add,List.length_set];exact rfl)|exact rfl|fail):a=b:=h
theorem n3{α : Type}{a b : α}(h:a=b:=by first|(simp only[List.cons_append,List.nil_append];exact rfl)|exact rfl|fail):a=b:=h
theorem n4{α : Type}{a b : α}(h:a=b:=by first|(simp only[List.set_cons_succ,List.set_cons_zero];exact rfl)|exact rfl|fail):a=b:=h
def vA(o:Oper):Nat:=match o.op with
 | .move _=>0 | .assign _=>0 | .load _ _=>1 | .store _ _ _=>2 | .indexAddr _ _ _=>3 | .fieldAddr _ _ _=>4
 | .binOp op _ _ _ _=>match op with
   | .add=>5 | .sub=>6 | .mul=>7 | .quo=>8 | .rem=>9 | .and=>10 | .or=>11 | .xor=>12 | .shl=>13 | .shr=>14 | .andNot=>15
   | .eql=>16 | .neq=>17 | .lss=>18 | .leq=>19 | .gtr=>20 | .geq=>21
 | .pick _ _ _=>22 | .unOp _ _ _=>23 | .convert _ _ _=>24 | .extract _ _=>25 | .nilCheck _=>26 | .field _ _ _=>27 | .index _ _ _=>28
 | .call ⟨.value _,_,_⟩=>29 | .call ⟨.builtin .len,_,_⟩=>30 | .call ⟨.builtin .append,_,_⟩=>31 | .call ⟨.builtin _,_,_⟩=>32 | .call _=>33
 | .build _ _=>34 | .buildSlice _ _ _=>35 | .alloc _=>36 | .box _ _=>37 | .makeSlice _ _ _=>38 | .makeMap _ _=>39 | .slice _ _ _ _ _=>40 | .lookup _ _ _ _=>41 | .mapUpdate _ _ _ _=>42 | .makeFunc _ _ _=>43
 | _=>44
theorem q4(hk:SK P ops nt L (o::l) al hs K)(h:Nat.ble (vA o) 4=true:=by exact rfl):SK P ops nt L (o::l) al hs K:=hk
theorem SE(hk:SK P ops nt L (o::l) al hs K)(h:Nat.ble (vA o) 15=true:=by exact rfl):SK P ops nt L (o::l) al hs K:=hk
theorem SF(hk:SK P ops nt L (o::l) al hs K)(h:Nat.ble (vA o) 21=true:=by exact rfl):SK P ops nt L (o::l) al hs K:=hk
theorem SG(hk:SK P ops nt L (o::l) al hs K)(h:Nat.ble (vA o) 28=true:=by exact rfl):SK P ops nt L (o::l) al hs K:=hk
theorem SH(hk:SK P ops nt L (o::l) al hs K)(h:Nat.ble (vA o) 33=true:=by exact rfl):SK P ops nt L (o::l) al hs K:=hk
theorem qz(hk:SK P ops nt L (o::l) al hs K):SK P ops nt L (o::l) al hs K:=hk
theorem qg(hk:SK P ops nt L (o::l) al hs K)(h:o.guard.isSome=true:=by exact rfl):SK P ops nt L (o::l) al hs K:=hk
theorem t0(hk:SK P ops nt L (o::l) al hs K)(h:vA o=0:=by exact rfl):SK P ops nt L (o::l) al hs K:=hk
theorem t1(hk:SK P ops nt L (o::l) al hs K)(h:vA o=1:=by exact rfl):SK P ops nt L (o::l) al hs K:=hk
theorem t2(hk:SK P ops nt L (o::l) al hs K)(h:vA o=2:=by exact rfl):SK P ops nt L (o::l) al hs K:=hk
theorem t3(hk:SK P ops nt L (o::l) al hs K)(h:vA o=3:=by exact rfl):SK P ops nt L (o::l) al hs K:=hk
theorem t4(hk:SK P ops nt L (o::l) al hs K)(h:vA o=4:=by exact rfl):SK P ops nt L (o::l) al hs K:=hk
theorem SO(hk:SK P ops nt L (o::l) al hs K)(h:vA o=30:=by exact rfl):SK P ops nt L (o::l) al hs K:=hk
theorem Ss{a:Operand}{c:XC}(hk:SK P ops nt L l ((d,.one c)::al) hs fun bs=>K (quiet::bs))(ho:o.op = .move a:=by exact rfl)(wn:Wn ops nt al o d:=by exact⟨rfl,rfl,rfl⟩)(ha:ai (rg al) a = .one c:=by exact rfl):SK P ops nt L (o::l) al hs K:=
 ES ho wn.w wn.e wn.l ha hk
theorem R3{a:Operand}{c:XC}(hk:SK P ops nt L l ((d,.one c)::al) hs fun bs=>K (quiet::bs))(ho:o.op = .assign a:=by exact rfl)(wn:Wn ops nt al o d:=by exact⟨rfl,rfl,rfl⟩)(ha:ai (rg al) a = .one c:=by exact rfl):SK P ops nt L (o::l) al hs K:=
 Gq ho wn.w wn.e wn.l ha hk
theorem Su{a:Operand}{c:List X1}(hk:SK P ops nt L l ((d,.tup c)::al) hs fun bs=>K (quiet::bs))(ho:o.op = .move a:=by exact rfl)(wn:Wn ops nt al o d:=by exact⟨rfl,rfl,rfl⟩)(ha:ai (rg al) a = .tup c:=by exact rfl):SK P ops nt L (o::l) al hs K:=
 ES ho wn.w wn.e wn.l ha hk
theorem SJ(hk:SK P ops nt L l ((d,.tup [])::al) hs fun bs=>K (quiet::bs))(hw:av ops (rg al) o=some false:=by exact rfl)(hd:o.dst=some d:=by exact rfl)(hlt:Nat.blt d nt=true:=by exact rfl):SK P ops nt L (o::l) al hs K:=
 MW hw hd hlt hk
theorem SC{a b c:Operand}{x:Bool}(hk:SK P ops nt L l ((d,.one (.bool x))::al) hs fun bs=>K (quiet::bs))(ho:o.op = .pick c a b:=by exact rfl)(wn:Wn ops nt al o d:=by exact⟨rfl,rfl,rfl⟩)(hc:ai (rg al) c = .one (.bool true):=by exact rfl)(ha:ai (rg al) a = .one (.bool x):=by exact rfl):SK P ops nt L (o::l) al hs K:=
 J3 ho wn.w wn.e wn.l hc ha hk
theorem SB{a b c:Operand}{x:Bool}(hk:SK P ops nt L l ((d,.one (.bool x))::al) hs fun bs=>K (quiet::bs))(ho:o.op = .pick c a b:=by exact rfl)(wn:Wn ops nt al o d:=by exact⟨rfl,rfl,rfl⟩)(hc:ai (rg al) c = .one (.bool false):=by exact rfl)(ha:ai (rg al) b = .one (.bool x):=by exact rfl):SK P ops nt L (o::l) al hs K:=
 J2 ho wn.w wn.e wn.l hc ha hk
theorem ng{a:Operand}{t:TypeId}{k:IntKind}{x:Int}(hk:SK P ops nt L l ((d,.one (.int k (0-x)))::al) hs fun bs=>K (quiet::bs))(ho:o.op = .unOp .neg t a:=by exact rfl)(wn:Wn ops nt al o d:=by exact⟨rfl,rfl,rfl⟩)(ha:ai (rg al) a = .one (.int k x):=by exact rfl)(h:xb k (0-x):=by(show _/\_;omega)):SK P ops nt L (o::l) al hs K:=
 SK.lift wn.e wn.l (fun _=>aH.pure wn.w (by rw[ho];simp only[bj,ha,QS,cR,gB h])) hk
theorem Sy{a:Operand}{t:TypeId}{x:Bool}(hk:SK P ops nt L l ((d,.one (.bool (!x)))::al) hs fun bs=>K (quiet::bs))(ho:o.op = .unOp .not t a:=by exact rfl)(wn:Wn ops nt al o d:=by exact⟨rfl,rfl,rfl⟩)(ha:ai (rg al) a = .one (.bool x):=by exact rfl):SK P ops nt L (o::l) al hs K:=
 Pf ho wn.w wn.e wn.l ha rfl hk
theorem ad{t t':TypeId}{a b:Operand}{k:IntKind}{x y:Int}(hk:SK P ops nt L l ((d,.one (.int k (x+y)))::al) hs fun bs=>K (quiet::bs))(ho:o.op = .binOp .add t a b t':=by exact rfl)(wn:Wn ops nt al o d:=by exact⟨rfl,rfl,rfl⟩)(ha:ai (rg al) a = .one (.int k x):=by exact rfl)(hb:ai (rg al) b = .one (.int k y):=by exact rfl)(h:xb k (x+y):=by(show _/\_;omega)):SK P ops nt L (o::l) al hs K:=
 ig ho wn.w wn.e wn.l ha hb (by simp only[bP,ej,if_true,cR,gB h]) hk
theorem Rd{t t':TypeId}{a b:Operand}{k:IntKind}{x y:Int}(hk:SK P ops nt L l ((d,.one (.int k (k.wrap (x+y))))::al) hs fun bs=>K (quiet::bs))(ho:o.op = .binOp .add t a b t':=by exact rfl)(wn:Wn ops nt al o d:=by exact⟨rfl,rfl,rfl⟩)(ha:ai (rg al) a = .one (.int k x):=by exact rfl)(hb:ai (rg al) b = .one (.int k y):=by exact rfl):SK P ops nt L (o::l) al hs K:=
 ig ho wn.w wn.e wn.l ha hb (by simp only[bP,ej,if_true,cR]) hk
theorem sb{t t':TypeId}{a b:Operand}{k:IntKind}{x y:Int}(hk:SK P ops nt L l ((d,.one (.int k (x-y)))::al) hs fun bs=>K (quiet::bs))(ho:o.op = .binOp .sub t a b t':=by exact rfl)(wn:Wn ops nt al o d:=by exact⟨rfl,rfl,rfl⟩)(ha:ai (rg al) a = .one (.int k x):=by exact rfl)(hb:ai (rg al) b = .one (.int k y):=by exact rfl)(h:xb k (x-y):=by(show _/\_;omega)):SK P ops nt L (o::l) al hs K:=
 ig ho wn.w wn.e wn.l ha hb (by simp only[bP,ej,if_true,cR,gB h]) hk
theorem ml{t t':TypeId}{a b:Operand}{k:IntKind}{x y:Int}(hk:SK P ops nt L l ((d,.one (.int k (x*y)))::al) hs fun bs=>K (quiet::bs))(ho:o.op = .binOp .mul t a b t':=by exact rfl)(wn:Wn ops nt al o d:=by exact⟨rfl,rfl,rfl⟩)(ha:ai (rg al) a = .one (.int k x):=by exact rfl)(hb:ai (rg al) b = .one (.int k y):=by exact rfl)(h:xb k (x*y):=by(show _/\_;omega)):SK P ops nt L (o::l) al hs K:=
 ig ho wn.w wn.e wn.l ha hb (by simp only[bP,ej,if_true,cR,gB h]) hk
theorem Rv{t t':TypeId}{a b:Operand}{k:IntKind}{x y:Int}(hk:SK P ops nt L l ((d,.one (.int k (k.wrap (x*y))))::al) hs fun bs=>K (quiet::bs))(ho:o.op = .binOp .mul t a b t':=by exact rfl)(wn:Wn ops nt al o d:=by exact⟨rfl,rfl,rfl⟩)(ha:ai (rg al) a = .one (.int k x):=by exact rfl)(hb:ai (rg al) b = .one (.int k y):=by exact rfl):SK P ops nt L (o::l) al hs K:=
 ig ho wn.w wn.e wn.l ha hb (by simp only[bP,ej,if_true,cR]) hk
theorem qu{t t':TypeId}{a b:Operand}{k:IntKind}{x y:Int}(hk:SK P ops nt L l ((d,.one (.int k (x/y)))::al) hs fun bs=>K (quiet::bs))(ho:o.op = .binOp .quo t a b t':=by exact rfl)(wn:Wn ops nt al o d:=by exact⟨rfl,rfl,rfl⟩)(ha:ai (rg al) a = .one (.int k x):=by exact rfl)(hb:ai (rg al) b = .one (.int k y):=by exact rfl)(h:xb k x/\0<=x/\0<y:=by exact⟨by show _/\_;omega,by omega⟩):SK P ops nt L (o::l) al hs K:=
 ig ho wn.w wn.e wn.l ha hb (Ry h.1 h.2.1 h.2.2) hk
theorem qt{t t':TypeId}{a b:Operand}{k:IntKind}{x y:Int}(hk:SK P ops nt L l ((d,.one (.int k (x.tdiv y)))::al) hs fun bs=>K (quiet::bs))(ho:o.op = .binOp .quo t a b t':=by exact rfl)(wn:Wn ops nt al o d:=by exact⟨rfl,rfl,rfl⟩)(ha:ai (rg al) a = .one (.int k x):=by exact rfl)(hb:ai (rg al) b = .one (.int k y):=by exact rfl)(h:y≠0/\xb k (x.tdiv y):=by exact⟨by omega,by show _/\_;omega⟩):SK P ops nt L (o::l) al hs K:=
 ig ho wn.w wn.e wn.l ha hb (by simp only[bP,ej,if_true,if_neg h.1,cR,gB h.2]) hk
theorem re{t t':TypeId}{a b:Operand}{k:IntKind}{x y:Int}(hk:SK P ops nt L l ((d,.one (.int k (x%y)))::al) hs fun bs=>K (quiet::bs))(ho:o.op = .binOp .rem t a b t':=by exact rfl)(wn:Wn ops nt al o d:=by exact⟨rfl,rfl,rfl⟩)(ha:ai (rg al) a = .one (.int k x):=by exact rfl)(hb:ai (rg al) b = .one (.int k y):=by exact rfl)(h:0<=x/\y≠0:=by omega):SK P ops nt L (o::l) al hs K:=
 Pg ho wn.w wn.e wn.l ha hb h.1 h.2 hk
theorem sr{t t':TypeId}{a b:Operand}{k k':IntKind}{x y:Int}(hk:SK P ops nt L l ((d,.one (.int k (x/2^y.toNat)))::al) hs fun bs=>K (quiet::bs))(ho:o.op = .binOp .shr t a b t':=by exact rfl)(wn:Wn ops nt al o d:=by exact⟨rfl,rfl,rfl⟩)(ha:ai (rg al) a = .one (.int k x):=by exact rfl)(hb:ai (rg al) b = .one (.int k' y):=by exact rfl)(h:xb k x/\0<=x/\0<=y:=by exact⟨by show _/\_;omega,by omega⟩):SK P ops nt L (o::l) al hs K:=
 ig ho wn.w wn.e wn.l ha hb (RD h.1 h.2.1 h.2.2) hk
theorem Cp{t t':TypeId}{a b:Operand}{k k':IntKind}{x y:Int}{n:Nat}(hk:SK P ops nt L l ((d,.one (.int k (x*2^n)))::al) hs fun bs=>K (quiet::bs))(ho:o.op = .binOp .shl t a b t':=by exact rfl)(wn:Wn ops nt al o d:=by exact⟨rfl,rfl,rfl⟩)(ha:ai (rg al) a = .one (.int k x):=by exact rfl)(hb:ai (rg al) b = .one (.int k' y):=by exact rfl)(hn:y=(n:Nat):=by exact rfl)(h:n<=k.bits/\xb k (x*2^n):=by exact⟨by decide,by show _/\_;omega⟩):SK P ops nt L (o::l) al hs K:=
 ig ho wn.w wn.e wn.l ha hb (RC hn h.1 h.2) hk
theorem an{t t':TypeId}{a b:Operand}{k:IntKind}{x y:Int}(n:Nat)(hk:SK P ops nt L l ((d,.one (.int k (x%2^n)))::al) hs fun bs=>K (quiet::bs))(ho:o.op = .binOp .and t a b t':=by exact rfl)(wn:Wn ops nt al o d:=by exact⟨rfl,rfl,rfl⟩)(ha:ai (rg al) a = .one (.int k x):=by exact rfl)(hb:ai (rg al) b = .one (.int k y):=by exact rfl)(h:y=2^n-1/\n<k.bits:=by(refine⟨by decide,by decide⟩)):SK P ops nt L (o::l) al hs K:=
 ig ho wn.w wn.e wn.l ha hb (Re n h.1 h.2) hk
theorem xr{t t':TypeId}{a b:Operand}{k:IntKind}{x y:Int}(hk:SK P ops nt L l ((d,.one (.int k (FY k x y)))::al) hs fun bs=>K (quiet::bs))(ho:o.op = .binOp .xor t a b t':=by exact rfl)(wn:Wn ops nt al o d:=by exact⟨rfl,rfl,rfl⟩)(ha:ai (rg al) a = .one (.int k x):=by exact rfl)(hb:ai (rg al) b = .one (.int k y):=by exact rfl):SK P ops nt L (o::l) al hs K:=
 ig ho wn.w wn.e wn.l ha hb (by simp only[bP,ej,if_true,cR,FY]) hk
theorem SA{t t':TypeId}{a b:Operand}{k:IntKind}{x y:Int}(hk:SK P ops nt L l ((d,.one (.int k (Es k x y)))::al) hs fun bs=>K (quiet::bs))(ho:o.op = .binOp .or t a b t':=by exact rfl)(wn:Wn ops nt al o d:=by exact⟨rfl,rfl,rfl⟩)(ha:ai (rg al) a = .one (.int k x):=by exact rfl)(hb:ai (rg al) b = .one (.int k y):=by exact rfl):SK P ops nt L (o::l) al hs K:=
 ig ho wn.w wn.e wn.l ha hb (by simp only[bP,ej,if_true,cR,Es]) hk
theorem R1{t t':TypeId}{a b:Operand}{k:IntKind}{x y:Int}(hk:SK P ops nt L l ((d,.one (.int k (w_ k x y)))::al) hs fun bs=>K (quiet::bs))(ho:o.op = .binOp .and t a b t':=by exact rfl)(wn:Wn ops nt al o d:=by exact⟨rfl,rfl,rfl⟩)(ha:ai (rg al) a = .one (.int k x):=by exact rfl)(hb:ai (rg al) b = .one (.int k y):=by exact rfl):SK P ops nt L (o::l) al hs K:=
 ig ho wn.w wn.e wn.l ha hb (by simp only[bP,ej,if_true,cR,w_]) hk
theorem cT{t t':TypeId}{a b:Operand}{op:BinOp}{k:IntKind}{x y:Int}{p:Prop}(hk:SK P ops nt L l ((d,.one (.bool true))::al) hs fun bs=>K (quiet::bs))(ho:o.op = .binOp op t a b t':=by exact rfl)(wn:Wn ops nt al o d:=by exact⟨rfl,rfl,rfl⟩)(ha:ai (rg al) a = .one (.int k x):=by exact rfl)(hb:ai (rg al) b = .one (.int k y):=by exact rfl)(hp:CI op x y=some p:=by exact rfl)(h:p:=by(show(_:Prop);first|omega|exact of_decide_eq_true rfl)):SK P ops nt L (o::l) al hs K:=
 zB ho wn.w wn.e wn.l ha hb hp (fun _=>hk) (fun n=>absurd h n)
theorem cF{t t':TypeId}{a b:Operand}{op:BinOp}{k:IntKind}{x y:Int}{p:Prop}(hk:SK P ops nt L l ((d,.one (.bool false))::al) hs fun bs=>K (quiet::bs))(ho:o.op = .binOp op t a b t':=by exact rfl)(wn:Wn ops nt al o d:=by exact⟨rfl,rfl,rfl⟩)(ha:ai (rg al) a = .one (.int k x):=by exact rfl)(hb:ai (rg al) b = .one (.int k y):=by exact rfl)(hp:CI op x y=some p:=by exact rfl)(h:¬p:=by(show¬(_:Prop);first|omega|exact of_decide_eq_false rfl)):SK P ops nt L (o::l) al hs K:=
 zB ho wn.w wn.e wn.l ha hb hp (fun n=>absurd n h) (fun _=>hk)
theorem cX{t t':TypeId}{a b:Operand}{op:BinOp}{k:IntKind}{x y:Int}{p:Prop}(h1:p->SK P ops nt L l ((d,.one (.bool true))::al) hs fun bs=>K (quiet::bs))(h2:¬p->SK P ops nt L l ((d,.one (.bool false))::al) hs fun bs=>K (quiet::bs))(ho:o.op = .binOp op t a b t':=by exact rfl)(wn:Wn ops nt al o d:=by exact⟨rfl,rfl,rfl⟩)(ha:ai (rg al) a = .one (.int k x):=by exact rfl)(hb:ai (rg al) b = .one (.int k y):=by exact rfl)(hp:CI op x y=some p:=by exact rfl):SK P ops nt L (o::l) al hs K:=
 zB ho wn.w wn.e wn.l ha hb hp h1 h2
theorem Rf{t t':TypeId}{a b:Operand}{x y:Bool}(hk:SK P ops nt L l ((d,.one (.bool (!(x==y))))::al) hs fun bs=>K (quiet::bs))(ho:o.op = .binOp .neq t a b t':=by exact rfl)(wn:Wn ops nt al o d:=by exact⟨rfl,rfl,rfl⟩)(hu:aW P t .bool:=by infer_instance)(hg:P.eqGuardType P.depth t=false:=by kernel_rfl)(ha:ai (rg al) a = .one (.bool x):=by exact rfl)(hb:ai (rg al) b = .one (.bool y):=by exact rfl):SK P ops nt L (o::l) al hs K:=
 SK.lift wn.e wn.l (fun _=>aH.pure wn.w (by rw[ho];simp only[bj,ha,hb,tV,DO,hg,Bool.false_eq_true,if_false,eE,hu.out,DM,Option.map_some])) hk
theorem Sa{t t' e:TypeId}{a b:Operand}{i off:Nat}(hk:SK P ops nt L l ((d,.one (.bool false))::al) hs fun bs=>K (quiet::bs))(ho:o.op = .binOp .eql t a b t':=by exact rfl)(wn:Wn ops nt al o d:=by exact⟨rfl,rfl,rfl⟩)(hu:aW P t (.pointer e):=by infer_instance)(ha:ai (rg al) a = .one (.ptr i off):=by exact rfl)(hb:ai (rg al) b = .one .nilp:=by exact rfl):SK P ops nt L (o::l) al hs K:=
 SK.lift wn.e wn.l (fun _=>aH.pure wn.w (by rw[ho];simp only[bj,ha,hb,tV,DO,eE,hu.out,DM,Option.map_some])) hk
theorem Sx{t t' e:TypeId}{a b:Operand}{i off:Nat}(hk:SK P ops nt L l ((d,.one (.bool true))::al) hs fun bs=>K (quiet::bs))(ho:o.op = .binOp .neq t a b t':=by exact rfl)(wn:Wn ops nt al o d:=by exact⟨rfl,rfl,rfl⟩)(hu:aW P t (.pointer e):=by infer_instance)(ha:ai (rg al) a = .one (.ptr i off):=by exact rfl)(hb:ai (rg al) b = .one .nilp:=by exact rfl):SK P ops nt L (o::l) al hs K:=
 SK.lift wn.e wn.l (fun _=>aH.pure wn.w (by rw[ho];simp only[bj,ha,hb,tV,DO,eE,hu.out,DM,Option.map_some,Bool.not_false])) hk
theorem Sv{a b:Operand}{ts:Array TypeId}{k k':IntKind}{x y:Int}(hk:SK P ops nt L l ((d,.one (.int k x))::al) hs fun bs=>K (quiet::bs))(ho:o.op = .call ⟨.builtin .max,#[a,b],ts⟩:=by exact rfl)(wn:Wn ops nt al o d:=by exact⟨rfl,rfl,rfl⟩)(ha:ai (rg al) a = .one (.int k x):=by exact rfl)(hb:ai (rg al) b = .one (.int k' y):=by exact rfl)(h:max x y=x:=by first|exact Int.max_eq_left (by omega)):SK P ops nt L (o::l) al hs K:=
 J0 ho wn.w wn.e wn.l ha hb h hk
theorem Q6{a b:Operand}{ts:Array TypeId}{k k':IntKind}{x y:Int}(hk:SK P ops nt L l ((d,.one (.int k (max x y)))::al) hs fun bs=>K (quiet::bs))(ho:o.op = .call ⟨.builtin .max,#[a,b],ts⟩:=by exact rfl)(wn:Wn ops nt al o d:=by exact⟨rfl,rfl,rfl⟩)(ha:ai (rg al) a = .one (.int k x):=by exact rfl)(hb:ai (rg al) b = .one (.int k' y):=by exact rfl):SK P ops nt L (o::l) al hs K:=
 J0 ho wn.w wn.e wn.l ha hb rfl hk
theorem Sq{a b:Operand}{ts:Array TypeId}{k k':IntKind}{x y:Int}(hk:SK P ops nt L l ((d,.one (.int k x))::al) hs fun bs=>K (quiet::bs))(ho:o.op = .call ⟨.builtin .min,#[a,b],ts⟩:=by exact rfl)(wn:Wn ops nt al o d:=by exact⟨rfl,rfl,rfl⟩)(ha:ai (rg al) a = .one (.int k x):=by exact rfl)(hb:ai (rg al) b = .one (.int k' y):=by exact rfl)(h:min x y=x:=by first|exact Int.min_eq_left (by omega)):SK P ops nt L (o::l) al hs K:=
 J1 ho wn.w wn.e wn.l ha hb h hk
theorem RW{a b:Operand}{ts:Array TypeId}{k k':IntKind}{x y:Int}(hk:SK P ops nt L l ((d,.one (.int k (min x y)))::al) hs fun bs=>K (quiet::bs))(ho:o.op = .call ⟨.builtin .min,#[a,b],ts⟩:=by exact rfl)(wn:Wn ops nt al o d:=by exact⟨rfl,rfl,rfl⟩)(ha:ai (rg al) a = .one (.int k x):=by exact rfl)(hb:ai (rg al) b = .one (.int k' y):=by exact rfl):SK P ops nt L (o::l) al hs K:=
 J1 ho wn.w wn.e wn.l ha hb rfl hk
theorem cv{s t:TypeId}{y:Operand}{u:TypeDesc}{k k':IntKind}{x:Int}(hk:SK P ops nt L l ((d,.one (.int k' x))::al) hs fun bs=>K (quiet::bs))(ho:o.op = .convert s t y:=by exact rfl)(wn:Wn ops nt al o d:=by exact⟨rfl,rfl,rfl⟩)(hy:ai (rg al) y = .one (.int k x):=by exact rfl)(h1:aW P s u:=by infer_instance)(h2:aW P t (.int k'):=by infer_instance)(h:xb k' x:=by(show _/\_;omega)):SK P ops nt L (o::l) al hs K:=
 MP ho wn.w wn.e wn.l hy (gB h) hk
theorem nl{a:Operand}{i off:Nat}(hk:SK P ops nt L l ((d,.one (.ptr i off))::al) hs fun bs=>K (quiet::bs))(ho:o.op = .nilCheck a:=by exact rfl)(wn:Wn ops nt al o d:=by exact⟨rfl,rfl,rfl⟩)(ha:ai (rg al) a = .one (.ptr i off):=by exact rfl):SK P ops nt L (o::l) al hs K:=
 Pe ho wn.w wn.e wn.l ha hk
theorem fa{s:TypeId}{a:Operand}{f:Nat}{i off:Nat}{ft:TypeId}{fo z:Nat}{p:Nat}(hk:SK P ops nt L l ((d,.one (.ptr i p))::al) hs fun bs=>K (quiet::bs))(ho:o.op = .fieldAddr s a f:=by exact rfl)(wn:Wn ops nt al o d:=by exact⟨rfl,rfl,rfl⟩)(ha:ai (rg al) a = .one (.ptr i off):=by exact rfl)(hf:c6 P s f ft fo:=by infer_instance)(hz:aP P ft (z+1):=by infer_instance)(hp:off+fo=p:=by exact n1):SK P ops nt L (o::l) al hs K:=
 Pb ho wn.w wn.e wn.l ha hp hk
theorem Se{t:TypeId}{a b:Operand}{elem:TypeId}{s:Nat}{k:IntKind}{z:Int}{i off len:Nat}{p:Nat}(hk:SK P ops nt L l ((d,.one (.ptr i p))::al) hs fun bs=>K (quiet::bs))(ho:o.op = .indexAddr t a b:=by exact rfl)(wn:Wn ops nt al o d:=by exact⟨rfl,rfl,rfl⟩)(hb:ai (rg al) b = .one (.int k z):=by exact rfl)(ha:ai (rg al) a = .one (.ptr i off):=by exact rfl)(hu:aW P t (.array len elem):=by infer_instance)(hs':aP P elem s:=by infer_instance)(hz:0<=z/\z<(len:Nat):=by first|omega|decide)(hp:off+z.toNat*s=p:=by exact n1):SK P ops nt L (o::l) al hs K:=
 MS ho wn.w wn.e wn.l ha hb hz hp hk
theorem Sf{t:TypeId}{a b:Operand}{elem:TypeId}{s:Nat}{k:IntKind}{z:Int}{i off len:Nat}{cap:tO}{p:Nat}(hk:SK P ops nt L l ((d,.one (.ptr i p))::al) hs fun bs=>K (quiet::bs))(ho:o.op = .indexAddr t a b:=by exact rfl)(wn:Wn ops nt al o d:=by exact⟨rfl,rfl,rfl⟩)(hb:ai (rg al) b = .one (.int k z):=by exact rfl)(ha:ai (rg al) a = .one (.slice i off len cap):=by exact rfl)(hu:aW P t (.slice elem):=by infer_instance)(hs':aP P elem s:=by infer_instance)(hz:0<=z/\z<(len:Nat):=by first|omega|decide)(hp:off+z.toNat*s=p:=by exact n1):SK P ops nt L (o::l) al hs K:=
 EP ho wn.w wn.e wn.l ha hb hz hp hk
theorem Sc{t:TypeId}{a b:Operand}{elem:TypeId}{s:Nat}{k:IntKind}{z:Int}{i off len:Nat}{c:XC}{p:Nat}(hk:SK P ops nt L l ((d,.one (.ptr i p))::al) hs fun bs=>K (quiet::bs))(ho:o.op = .indexAddr t a b:=by exact rfl)(wn:Wn ops nt al o d:=by exact⟨rfl,rfl,rfl⟩)(hb:ai (rg al) b = .one (.int k z):=by exact rfl)(ha:ai (rg al) a = .one c:=by exact rfl)(hc:cY c i off len:=by assumption)(hu:aW P t (.slice elem):=by infer_instance)(hs':aP P elem s:=by infer_instance)(hz:0<=z/\z<(len:Nat):=by first|omega|decide)(hp:off+z.toNat*s=p:=by exact n1):SK P ops nt L (o::l) al hs K:=
 MR ho wn.w wn.e wn.l ha hb hc hz hp hk
theorem Sd{t:TypeId}{a b:Operand}{elem:TypeId}{s:Nat}{k:IntKind}{z:Int}{i n sz:Nat}{p:Nat}(hk:SK P ops nt L l ((d,.one (.ptr i p))::al) hs fun bs=>K (quiet::bs))(ho:o.op = .indexAddr t a b:=by exact rfl)(wn:Wn ops nt al o d:=by exact⟨rfl,rfl,rfl⟩)(hb:ai (rg al) b = .one (.int k z):=by exact rfl)(ha:ai (rg al) a=hZ i n sz:=by exact rfl)(hu:aW P t (.slice elem):=by infer_instance)(hs':aP P elem s:=by infer_instance)(hz:0<=z/\z<(n:Nat):=by omega)(hp:0+z.toNat*s=p:=by exact n1):SK P ops nt L (o::l) al hs K:=
 EP ho wn.w wn.e wn.l (ha.trans (l6 (by omega))) hb hz hp hk
theorem So{a:Operand}{t elem:TypeId}{i off len:Nat}{cap:tO}(hk:SK P ops nt L l ((d,.one (.int .i64 (len:Nat)))::al) hs fun bs=>K (quiet::bs))(ho:o.op = .call ⟨.builtin .len,#[a],#[t]⟩:=by exact rfl)(wn:Wn ops nt al o d:=by exact⟨rfl,rfl,rfl⟩)(ha:ai (rg al) a = .one (.slice i off len cap):=by exact rfl)(hu:aW P t (.slice elem):=by infer_instance):SK P ops nt L (o::l) al hs K:=
 MV ho wn.w wn.e wn.l ha hk
theorem Sn{a:Operand}{t elem:TypeId}(hk:SK P ops nt L l ((d,.one (.int .i64 0))::al) hs fun bs=>K (quiet::bs))(ho:o.op = .call ⟨.builtin .len,#[a],#[t]⟩:=by exact rfl)(wn:Wn ops nt al o d:=by exact⟨rfl,rfl,rfl⟩)(ha:ai (rg al) a = .one .nils:=by exact rfl)(hu:aW P t (.slice elem):=by infer_instance):SK P ops nt L (o::l) al hs K:=
 SK.lift wn.e wn.l (fun _=>aH.pure wn.w (by rw[ho];simp[bj,fB,ha,B9,hu.out])) hk
theorem Sk{a:Operand}{t elem:TypeId}{i off len:Nat}{c:XC}(hk:SK P ops nt L l ((d,.one (.int .i64 (len:Nat)))::al) hs fun bs=>K (quiet::bs))(ho:o.op = .call ⟨.builtin .len,#[a],#[t]⟩:=by exact rfl)(wn:Wn ops nt al o d:=by exact⟨rfl,rfl,rfl⟩)(ha:ai (rg al) a = .one c:=by exact rfl)(hc:cY c i off len:=by assumption)(hu:aW P t (.slice elem):=by infer_instance):SK P ops nt L (o::l) al hs K:=
 MT ho wn.w wn.e wn.l ha hc hk
theorem Sl{a:Operand}{t elem:TypeId}{i n sz:Nat}(hk:SK P ops nt L l ((d,.one (.int .i64 (n:Nat)))::al) hs fun bs=>K (quiet::bs))(ho:o.op = .call ⟨.builtin .len,#[a],#[t]⟩:=by exact rfl)(wn:Wn ops nt al o d:=by exact⟨rfl,rfl,rfl⟩)(ha:ai (rg al) a=hZ i n sz:=by exact rfl)(hu:aW P t (.slice elem):=by infer_instance):SK P ops nt L (o::l) al hs K:=
 MU ho wn.w wn.e wn.l ha hk
theorem fd{s:TypeId}{a:Operand}{f:Nat}{cs:List XC}{ft:TypeId}{fo:Nat}{c:XC}(hk:SK P ops nt L l ((d,.one c)::al) hs fun bs=>K (quiet::bs))(ho:o.op = .field s a f:=by exact rfl)(wn:Wn ops nt al o d:=by exact⟨rfl,rfl,rfl⟩)(ha:ai (rg al) a = .agg cs:=by exact rfl)(hf:c6 P s f ft fo:=by infer_instance)(hz:ef P ft:=by infer_instance)(hc:cs[fo]? = some c:=by exact rfl):SK P ops nt L (o::l) al hs K:=
 JX ho wn.w wn.e wn.l ha hc hk
theorem SP{a:Operand}{i:Nat}{vs:List X1}{c:XC}(hk:SK P ops nt L l ((d,.one c)::al) hs fun bs=>K (quiet::bs))(ho:o.op = .extract a i:=by exact rfl)(wn:Wn ops nt al o d:=by exact⟨rfl,rfl,rfl⟩)(ha:ai (rg al) a = .tup vs:=by exact rfl)(hc:vs[i]? = some (.one c):=by exact rfl):SK P ops nt L (o::l) al hs K:=
 Pa ho wn.w wn.e wn.l ha hc hk
theorem SQ{a:Operand}{i:Nat}{vs:List X1}{c:List XC}(hk:SK P ops nt L l ((d,.agg c)::al) hs fun bs=>K (quiet::bs))(ho:o.op = .extract a i:=by exact rfl)(wn:Wn ops nt al o d:=by exact⟨rfl,rfl,rfl⟩)(ha:ai (rg al) a = .tup vs:=by exact rfl)(hc:vs[i]? = some (.agg c):=by exact rfl):SK P ops nt L (o::l) al hs K:=
 MQ ho wn.w wn.e wn.l ha hc hk
theorem RV(T:Nat->Int){t:TypeId}{x ix:Operand}{s:List UInt8}{k:IntKind}{z:Int}(hk:SK P ops nt L l ((d,.one (.int .u8 (T z.toNat)))::al) hs fun bs=>K (quiet::bs))(ho:o.op = .index t x ix:=by exact rfl)(wn:Wn ops nt al o d:=by exact⟨rfl,rfl,rfl⟩)(hu:aW P t .string:=by infer_instance)(ha:ai (rg al) x = .one (.str s):=by exact rfl)(hb:ai (rg al) ix = .one (.int k z):=by exact rfl)(hz:0<=z/\z<256:=by omega)(hT:∀i:Fin 256,s[i.val]?.map (fun b=>(b.toNat:Int))=some (T i.val):=by decide +kernel):SK P ops nt L (o::l) al hs K:=
 Pc T ho wn.w wn.e wn.l ha hb hz hT hk
theorem ld{t:TypeId}{a:Operand}{i off:Nat}{vs:List XC}{e:TypeId}{opn ro:Bool}{c:XC}(hk:SK P ops nt L l ((d,.one c)::al) hs fun bs=>K (⟨false,some i,[]⟩::bs))(ho:o.op = .load t a:=by exact rfl)(ht:ef P t:=by infer_instance)(wn:Wn ops nt al o d:=by exact⟨rfl,rfl,rfl⟩)(ha:ai (rg al) a = .one (.ptr i off):=by exact rfl)(hi:hs[i]? = some (.cells vs e opn ro):=by exact rfl)(hc:vs[off]? = some c:=by exact rfl):SK P ops nt L (o::l) al hs K:=
 gk ho wn.w wn.e wn.l ha hi hc hk
theorem Sg{t:TypeId}{a:Operand}{i off:Nat}{k:IntKind}{q:List Int}{e:TypeId}{opn ro:Bool}(hk:SK P ops nt L l ((d,.one (.int k (q.getD off 0)))::al) hs fun bs=>K (⟨false,some i,[]⟩::bs))(ho:o.op = .load t a:=by exact rfl)(ht:ef P t:=by infer_instance)(wn:Wn ops nt al o d:=by exact⟨rfl,rfl,rfl⟩)(ha:ai (rg al) a = .one (.ptr i off):=by exact rfl)(hi:hs[i]? = some (.cells (il k q) e opn ro):=by exact rfl)(hc:off<q.length:=by first|omega|decide|(simp only[dZ,aE,List.length_cons,List.length_nil,List.length_set,List.length_append,List.length_replicate];first|omega|decide)):SK P ops nt L (o::l) al hs K:=
 gk ho wn.w wn.e wn.l ha hi (CY hc) hk
theorem Sj{t:TypeId}{a:Operand}{i off:Nat}{k:IntKind}{q:List Int}{e:TypeId}(hk:SK P ops nt L l ((d,.one (.int k (q.getD off 0)))::al) hs fun bs=>K (⟨false,some i,[]⟩::bs))(ho:o.op = .load t a:=by exact rfl)(ht:ef P t:=by infer_instance)(wn:Wn ops nt al o d:=by exact⟨rfl,rfl,rfl⟩)(ha:ai (rg al) a = .one (.ptr i off):=by exact rfl)(hi:hs[i]? = some (cE e (il k q)):=by exact rfl)(hc:off<q.length:=by first|omega|decide|(simp only[dZ,aE,List.length_cons,List.length_nil,List.length_set,List.length_append,List.length_replicate];first|omega|decide)):SK P ops nt L (o::l) al hs K:=
 gk ho wn.w wn.e wn.l ha (hi.trans (congrArg some (fb (fun hn=>by rw[show q = [] by simpa [il]using hn]at hc;exact absurd hc (Nat.not_lt_zero _))))) (CY hc) hk
theorem Sh{t:TypeId}{a:Operand}{i off:Nat}{ob:ak}{k:IntKind}{q:List Int}(hk:SK P ops nt L l ((d,.one (.int k (q.getD off 0)))::al) hs fun bs=>K (⟨false,some i,[]⟩::bs))(ho:o.op = .load t a:=by exact rfl)(ht:ef P t:=by infer_instance)(wn:Wn ops nt al o d:=by exact⟨rfl,rfl,rfl⟩)(ha:ai (rg al) a = .one (.ptr i off):=by exact rfl)(hi:hs[i]? = some ob:=by exact rfl)(hro:RO ob k q:=by assumption)(hc:off<q.length:=by first|omega|decide|(simp only[dZ,aE,List.length_cons,List.length_nil,List.length_set,List.length_append,List.length_replicate];first|omega|decide)):SK P ops nt L (o::l) al hs K:=
 JZ ho wn.w wn.e wn.l ha hi hro hc hk
theorem Si{t:TypeId}{a:Operand}{i off:Nat}{k:IntKind}{n:Nat}{q:Nat->Int}{e:TypeId}{opn ro:Bool}(hk:SK P ops nt L l ((d,.one (.int k (q off)))::al) hs fun bs=>K (⟨false,some i,[]⟩::bs))(ho:o.op = .load t a:=by exact rfl)(ht:ef P t:=by infer_instance)(wn:Wn ops nt al o d:=by exact⟨rfl,rfl,rfl⟩)(ha:ai (rg al) a = .one (.ptr i off):=by exact rfl)(hi:hs[i]? = some (.cells (ti k n q) e opn ro):=by exact rfl)(hc:off<n:=by omega):SK P ops nt L (o::l) al hs K:=
 gk ho wn.w wn.e wn.l ha hi (iV hc) hk
theorem fG{t:TypeId}{a:Operand}{s:Nat}{i:Nat}{vs:List XC}{e:TypeId}{opn ro:Bool}(hk:SK P ops nt L l ((d,.agg vs)::al) hs fun bs=>K (⟨false,some i,[]⟩::bs))(ho:o.op = .load t a:=by exact rfl)(ht:eV P t:=by infer_instance)(hs':aP P t s:=by infer_instance)(wn:Wn ops nt al o d:=by exact⟨rfl,rfl,rfl⟩)(ha:ai (rg al) a = .one (.ptr i 0):=by exact rfl)(hi:hs[i]? = some (.cells vs e opn ro):=by exact rfl)(hle:s=vs.length:=by exact rfl):SK P ops nt L (o::l) al hs K:=
 Dt ho wn.w wn.e wn.l ha hi hle hk
theorem t_{t:TypeId}{a:Operand}{s:Nat}{i off:Nat}{vs:List XC}{e:TypeId}{opn ro:Bool}{cs:List XC}(hk:SK P ops nt L l ((d,.agg cs)::al) hs fun bs=>K (⟨false,some i,[]⟩::bs))(ho:o.op = .load t a:=by exact rfl)(ht:eV P t:=by infer_instance)(hs':aP P t s:=by infer_instance)(wn:Wn ops nt al o d:=by exact⟨rfl,rfl,rfl⟩)(ha:ai (rg al) a = .one (.ptr i off):=by exact rfl)(hi:hs[i]? = some (.cells vs e opn ro):=by exact rfl)(hle:off+s<=vs.length:=by first|exact Nat.le_of_ble_eq_true rfl|decide)(hc:(vs.drop off).take s=cs:=by exact rfl):SK P ops nt L (o::l) al hs K:=
 vS ho wn.w wn.e wn.l ha hi hle hc hk
theorem tR{t:TypeId}{zs:List XC}{n:Nat}{hs':aj}(hk:SK P ops nt L l ((d,.one (.ptr n 0))::al) hs' fun bs=>K (⟨true,.none,[n]⟩::bs))(ho:o.op = .alloc t:=by exact rfl)(hz:bz P t zs:=by infer_instance)(wn:Wn ops nt al o d:=by exact⟨rfl,rfl,rfl⟩)(hn:hs.length=n:=by exact n2)(hb:Nat.blt n Mem.bound=true:=by exact rfl)(hh:hs++[.cells zs t false false]=hs':=by exact n3):SK P ops nt L (o::l) al hs K:=
 JU ho wn.w wn.e wn.l hn hb hh hk
theorem bx{t:TypeId}{y:Operand}{cs:List XC}{n:Nat}{hs':aj}(hk:SK P ops nt L l ((d,.one (.ptr n 0))::al) hs' fun bs=>K (⟨true,.none,[n]⟩::bs))(ho:o.op = .box t y:=by exact rfl)(wn:Wn ops nt al o d:=by exact⟨rfl,rfl,rfl⟩)(hy:dh (ai (rg al) y)=some cs:=by exact rfl)(hn:hs.length=n:=by exact n2)(hb:Nat.blt n Mem.bound=true:=by exact rfl)(hh:hs++[.cells cs t false false]=hs':=by exact n3):SK P ops nt L (o::l) al hs K:=
 O9 ho wn.w wn.e wn.l hy hn hb hh hk
theorem mm{t:TypeId}{n:Nat}{hs':aj}(hk:SK P ops nt L l ((d,.one (.map n))::al) hs' fun bs=>K (⟨true,.none,[n]⟩::bs))(ho:o.op = .makeMap t .none:=by exact rfl)(wn:Wn ops nt al o d:=by exact⟨rfl,rfl,rfl⟩)(hn:hs.length=n:=by exact n2)(hb:Nat.blt n Mem.bound=true:=by exact rfl)(hh:hs++[.map []]=hs':=by exact n3):SK P ops nt L (o::l) al hs K:=
 Du ho wn.w wn.e wn.l hn hb hh hk
theorem st{t:TypeId}{a y:Operand}{i off:Nat}{c:XC}{vs:List XC}{e:TypeId}{opn:Bool}{vs':List XC}{hs':aj}(hk:SK P ops nt L l al hs' fun bs=>K (⟨true,.none,[i]⟩::bs))(ho:o.op = .store t a y:=by exact rfl)(ht:aP P t 1:=by infer_instance)(hw:av ops (rg al) o=some true:=by exact rfl)(hd:o.dst = .none:=by exact rfl)(ha:ai (rg al) a = .one (.ptr i off):=by exact rfl)(hy:dh (ai (rg al) y)=some [c]:=by exact rfl)(hi:hs[i]? = some (.cells vs e opn false):=by exact rfl)(hle:off<vs.length:=by first|exact Nat.le_of_ble_eq_true rfl|decide)(hv:vs.set off c=vs':=by exact n4)(hh:hs.set i (.cells vs' e opn false)=hs':=by exact n4):SK P ops nt L (o::l) al hs K:=
 lC ho hw hd ha hy hi hle hv hh hk
theorem SL{t:TypeId}{a y:Operand}{i off:Nat}{k:IntKind}{z:Int}{q:List Int}{e:TypeId}{opn:Bool}{hs':aj}(hk:SK P ops nt L l al hs' fun bs=>K (⟨true,.none,[i]⟩::bs))(ho:o.op = .store t a y:=by exact rfl)(ht:aP P t 1:=by infer_instance)(hw:av ops (rg al) o=some true:=by exact rfl)(hd:o.dst = .none:=by exact rfl)(ha:ai (rg al) a = .one (.ptr i off):=by exact rfl)(hy:dh (ai (rg al) y)=some [.int k z]:=by exact rfl)(hi:hs[i]? = some (.cells (il k q) e opn false):=by exact rfl)(hle:off<q.length:=by first|omega|decide|(simp only[dZ,aE,List.length_cons,List.length_nil,List.length_set,List.length_append,List.length_replicate];first|omega|decide))(hh:hs.set i (.cells (il k (q.set off z)) e opn false)=hs':=by exact n4):SK P ops nt L (o::l) al hs K:=
 lC ho hw hd ha hy hi (by rw[dZ];exact hle) (IG ..) hh hk
theorem SN{t:TypeId}{a y:Operand}{i off:Nat}{k:IntKind}{z:Int}{q:List Int}{e:TypeId}{hs':aj}(hk:SK P ops nt L l al hs' fun bs=>K (⟨true,.none,[i]⟩::bs))(ho:o.op = .store t a y:=by exact rfl)(ht:aP P t 1:=by infer_instance)(hw:av ops (rg al) o=some true:=by exact rfl)(hd:o.dst = .none:=by exact rfl)(ha:ai (rg al) a = .one (.ptr i off):=by exact rfl)(hy:dh (ai (rg al) y)=some [.int k z]:=by exact rfl)(hi:hs[i]? = some (cE e (il k q)):=by exact rfl)(hle:off<q.length:=by first|omega|decide|(simp only[dZ,aE,List.length_cons,List.length_nil,List.length_set,List.length_append,List.length_replicate];first|omega|decide))(hh:hs.set i (cE e (il k (q.set off z)))=hs':=by exact n4):SK P ops nt L (o::l) al hs K:=
 Gw ho hw hd ha hy hi hle hh hk
theorem SM{t:TypeId}{a y:Operand}{i off:Nat}{k:IntKind}{z:Int}{n:Nat}{q:Nat->Int}{e:TypeId}{opn:Bool}{hs':aj}(hk:SK P ops nt L l al hs' fun bs=>K (⟨true,.none,[i]⟩::bs))(ho:o.op = .store t a y:=by exact rfl)(ht:aP P t 1:=by infer_instance)(hw:av ops (rg al) o=some true:=by exact rfl)(hd:o.dst = .none:=by exact rfl)(ha:ai (rg al) a = .one (.ptr i off):=by exact rfl)(hy:dh (ai (rg al) y)=some [.int k z]:=by exact rfl)(hi:hs[i]? = some (.cells (ti k n q) e opn false):=by exact rfl)(hle:off<n:=by omega)(hh:hs.set i (.cells (ti k n (cw q off z)) e opn false)=hs':=by exact n4):SK P ops nt L (o::l) al hs K:=
 lC ho hw hd ha hy hi (by rw[aE];exact hle) (s4 ..) hh hk
theorem kj{t:TypeId}{a y:Operand}{s:Nat}{i:Nat}{cs:List XC}{vs:List XC}{e:TypeId}{opn:Bool}{hs':aj}(hk:SK P ops nt L l al hs' fun bs=>K (⟨true,.none,[i]⟩::bs))(ho:o.op = .store t a y:=by exact rfl)(ht:aP P t s:=by infer_instance)(hw:av ops (rg al) o=some true:=by exact rfl)(hd:o.dst = .none:=by exact rfl)(ha:ai (rg al) a = .one (.ptr i 0):=by exact rfl)(hy:dh (ai (rg al) y)=some cs:=by exact rfl)(hi:hs[i]? = some (.cells vs e opn false):=by exact rfl)(hs1:s=cs.length:=by exact rfl)(hs2:s=vs.length:=by exact rfl)(hh:hs.set i (.cells cs e opn false)=hs':=by exact n4):SK P ops nt L (o::l) al hs K:=
 Gx ho hw hd ha hy hi hs1 hs2 hh hk
theorem Qw{α : Type}{enc : α->List XC}{s:Nat}[hE:sw enc s][Inhabited α]{t:TypeId}{a:Operand}{i off:Nat}{e:TypeId}{q:List α}{j:Nat}(hk:SK P ops nt L l ((d,.agg (enc (q.getD j default)))::al) hs fun bs=>K (⟨false,some i,[]⟩::bs))(ho:o.op = .load t a:=by exact rfl)(ht:eV P t:=by infer_instance)(hs':aP P t s:=by infer_instance)(wn:Wn ops nt al o d:=by exact⟨rfl,rfl,rfl⟩)(ha:ai (rg al) a = .one (.ptr i off):=by exact rfl)(hi:hs[i]? = some (cE e (fl enc q)):=by exact rfl)(hj:off=j*s:=by exact rfl)(hc:j<q.length:=by omega):SK P ops nt L (o::l) al hs K:=
 JY ho wn.w wn.e wn.l ha hi hj hc hk
theorem sL{α : Type}{enc : α->List XC}{s:Nat}[hE:sw enc s][Inhabited α]{t:TypeId}{a:Operand}{i off:Nat}{ob:ak}{q:List α}{j:Nat}(hk:SK P ops nt L l ((d,.agg (enc (q.getD j default)))::al) hs fun bs=>K (⟨false,some i,[]⟩::bs))(ho:o.op = .load t a:=by exact rfl)(ht:eV P t:=by infer_instance)(hs':aP P t s:=by infer_instance)(wn:Wn ops nt al o d:=by exact⟨rfl,rfl,rfl⟩)(ha:ai (rg al) a = .one (.ptr i off):=by exact rfl)(hi:hs[i]? = some ob:=by exact rfl)(hro:uy ob enc q:=by assumption)(hj:off=j*s:=by exact rfl)(hc:j<q.length:=by omega):SK P ops nt L (o::l) al hs K:=
 Gv ho wn.w wn.e wn.l ha hi hro hj hc hk
theorem b0{t:TypeId}{zs:List XC}{pl:List (Nat×Nat)}(hk:SK P ops nt L l ((d,.agg zs)::al) hs fun bs=>K (quiet::bs))(ho:o.op = .build t #[]:=by exact rfl)(hz:bz P t zs:=by infer_instance)(hp:dY P t pl:=by infer_instance)(wn:Wn ops nt al o d:=by exact⟨rfl,rfl,rfl⟩):SK P ops nt L (o::l) al hs K:=
 Gr ho wn.w wn.e wn.l hk
theorem R4{t:TypeId}{zs:List XC}{n:Nat}{e:TypeId}{s:Nat}(hk:SK P ops nt L l ((d,.agg zs)::al) hs fun bs=>K (quiet::bs))(ho:o.op = .build t #[]:=by exact rfl)(hz:bz P t zs:=by infer_instance)(hu:aW P t (.array n e):=by infer_instance)(hs':aP P e s:=by infer_instance)(wn:Wn ops nt al o d:=by exact⟨rfl,rfl,rfl⟩):SK P ops nt L (o::l) al hs K:=
 Ds ho wn.w wn.e wn.l hk
theorem bA{t:TypeId}{parts:Array (Nat×Operand)}{zs:List XC}{n:Nat}{e:TypeId}{s:Nat}{out:List XC}{out':List XC}(hk:SK P ops nt L l ((d,.agg out')::al) hs fun bs=>K (quiet::bs))(ho:o.op = .build t parts:=by exact rfl)(hz:bz P t zs:=by infer_instance)(hu:aW P t (.array n e):=by infer_instance)(hs':aP P e s:=by infer_instance)(wn:Wn ops nt al o d:=by exact⟨rfl,rfl,rfl⟩)(hr:o8 (fun i=>some (i*s,s)) zs.length 0 (parts.toList.map fun p=>(p.1,ai (rg al) p.2))=true:=by exact rfl)(hc:jZ (parts.toList.map fun p=>(p.1,ai (rg al) p.2))=some out:=by exact rfl)(hn:out=out':=by first|(simp only[List.cons_append,List.nil_append,List.append_nil];exact rfl)|exact rfl):SK P ops nt L (o::l) al hs K:=
 Gs ho wn.w wn.e wn.l hr hc hn hk
theorem bS{t:TypeId}{parts:Array (Nat×Operand)}{zs:List XC}{pl:List (Nat×Nat)}{out:List XC}{out':List XC}(hk:SK P ops nt L l ((d,.agg out')::al) hs fun bs=>K (quiet::bs))(ho:o.op = .build t parts:=by exact rfl)(hz:bz P t zs:=by infer_instance)(hp:dY P t pl:=by infer_instance)(wn:Wn ops nt al o d:=by exact⟨rfl,rfl,rfl⟩)(hr:o8 (fun i=>pl[i]?) zs.length 0 (parts.toList.map fun p=>(p.1,ai (rg al) p.2))=true:=by exact rfl)(hc:jZ (parts.toList.map fun p=>(p.1,ai (rg al) p.2))=some out:=by exact rfl)(hn:out=out':=by first|(simp only[List.cons_append,List.nil_append,List.append_nil];exact rfl)|exact rfl):SK P ops nt L (o::l) al hs K:=
 Gu ho wn.w wn.e wn.l hr hc hn hk
theorem bF{t:TypeId}{parts:Array (Nat×Operand)}{zs:List XC}{pl:List (Nat×Nat)}{out:List XC}(hk:SK P ops nt L l ((d,.agg out)::al) hs fun bs=>K (quiet::bs))(ho:o.op = .build t parts:=by exact rfl)(hz:bz P t zs:=by infer_instance)(hp:dY P t pl:=by infer_instance)(wn:Wn ops nt al o d:=by exact⟨rfl,rfl,rfl⟩)(hc:iD (fun i=>pl[i]?) zs (parts.toList.map fun p=>(p.1,ai (rg al) p.2))=some out:=by exact rfl):SK P ops nt L (o::l) al hs K:=
 Gt ho wn.w wn.e wn.l hc hk
theorem R5{zs:List XC}{t e:TypeId}{y:Operand}{c:XC}{n:Nat}{hs':aj}(hk:SK P ops nt L l ((d,.one (.slice n 0 1 (.exact 1)))::al) hs' fun bs=>K (⟨true,.none,[n]⟩::bs))(ho:o.op = .buildSlice t 1 #[(0,y)]:=by exact rfl)(hu:aW P t (.slice e):=by infer_instance)(hz:bz P e zs:=by infer_instance)(hse:aP P e 1:=by infer_instance)(hzl:zs.length=1:=by exact rfl)(wn:Wn ops nt al o d:=by exact⟨rfl,rfl,rfl⟩)(hy:dh (ai (rg al) y)=some [c]:=by exact rfl)(hn:hs.length=n:=by exact n2)(hb:Nat.blt n Mem.bound=true:=by exact rfl)(hh:hs++[.cells [c] e false false]=hs':=by exact n3):SK P ops nt L (o::l) al hs K:=
 JV ho hzl wn.w wn.e wn.l hy hn hb hh hk
theorem RN{t t1 e e1:TypeId}{a b:Operand}{k:IntKind}{i n j len:Nat}{cap:tO}{q r:List Int}{et:TypeId}{opn ro:Bool}{N:Nat}{hs':aj}(hk:SK P ops nt L l ((d,hZ N (n+len) 1)::al) hs' fun bs=>K (⟨true,.none,[i,N]⟩::bs))(ho:o.op = .call ⟨.builtin .append,#[a,b],#[t,t1]⟩:=by exact rfl)(hu:aW P t (.slice e):=by infer_instance)(hu1:aW P t1 (.slice e1):=by infer_instance)(hz:bz P e [.int k 0]:=by infer_instance)(hI:TI P e 1:=by infer_instance)(wn:Wn ops nt al o d:=by exact⟨rfl,rfl,rfl⟩)(ha:ai (rg al) a=hZ i n 1:=by exact rfl)(hi:hs[i]? = some (cE e (il k q)):=by exact rfl)(hb:ai (rg al) b = .one (.slice j 0 len cap):=by exact rfl)(hj:hs[j]? = some (.cells (il k r) et opn ro):=by exact rfl)(hn:q.length=n:=by first|assumption|exact rfl|(simp only[List.length_append,List.length_cons,List.length_nil];done)|(simp only[List.length_append,List.length_cons,List.length_nil];omega))(hr:r.length=len:=by first|assumption|exact rfl|(simp only[List.length_append,List.length_cons,List.length_nil];done)|(simp only[List.length_append,List.length_cons,List.length_nil];omega))(hm:0<len/\n+len<=2000000000:=by omega)(hN:hs.length=N:=by exact n2)(hbd:Nat.blt N Mem.bound=true:=by exact rfl)(hh:hs.set i .dead++[cE e (il k (q++r))]=hs':=by first|(simp only[List.set_cons_succ,List.set_cons_zero,List.cons_append,List.nil_append];exact rfl)|exact rfl):SK P ops nt L (o::l) al hs K:=
 O7 ho wn.w wn.e wn.l ha hi hb hj hn hr hm hN hbd hh hk
theorem QW{t t1 e e1:TypeId}{a b:Operand}{k:IntKind}{i len n:Nat}{q r:List Int}{et:TypeId}{opn ro:Bool}{N:Nat}{hs':aj}(hr:r.length=n)(hsrc:∀M,bH M hs->rf P t1 1 (ai (rg al) b) M=some (n,il k r))(h1:n=0->SK P ops nt L l ((d,.one (.slice i 0 len (.exact len)))::al) hs fun bs=>K (⟨true,.none,[]⟩::bs))(h2:0<n->SK P ops nt L l ((d,.one (.slice N 0 (len+n) (.toEnd 1)))::al) hs' fun bs=>K (⟨true,.none,[N]⟩::bs))(ho:o.op = .call ⟨.builtin .append,#[a,b],#[t,t1]⟩:=by exact rfl)(hu:aW P t (.slice e):=by infer_instance)(hu1:aW P t1 (.slice e1):=by infer_instance)(hz:bz P e [.int k 0]:=by infer_instance)(hI:TI P e 1:=by infer_instance)(wn:Wn ops nt al o d:=by exact⟨rfl,rfl,rfl⟩)(ha:ai (rg al) a = .one (.slice i 0 len (.exact len)):=by exact rfl)(hi:hs[i]? = some (.cells (il k q) et opn ro):=by exact rfl)(hq:q.length=len:=by first|assumption|exact rfl)(hm:len+n<=2000000000:=by omega)(hN:hs.length=N:=by exact n2)(hbd:Nat.blt N Mem.bound=true:=by exact rfl)(hh:hs++[.cells (il k (q++r)) e true false]=hs':=by exact n3):SK P ops nt L (o::l) al hs K:=
 O6 ho wn.w wn.e wn.l ha hi hq hr hsrc hm hN hbd hh h1 h2
theorem R7{t t1 e e1:TypeId}{a b:Operand}{k:IntKind}{j len:Nat}{cap:tO}{q r:List Int}{et:TypeId}{opn:Bool}{hs':aj}(hsrc:∀M,bH M hs->rf P t1 1 (ai (rg al) b) M=some (len,il k r))(hk:SK P ops nt L l ((d,.one (.int .i64 (len:Nat)))::al) hs' fun bs=>K (⟨true,.none,[j]⟩::bs))(ho:o.op = .call ⟨.builtin .copy,#[a,b],#[t,t1]⟩:=by exact rfl)(hu:aW P t (.slice e):=by infer_instance)(hu1:aW P t1 (.slice e1):=by infer_instance)(hse:aP P e 1:=by infer_instance)(wn:Wn ops nt al o d:=by exact⟨rfl,rfl,rfl⟩)(ha:ai (rg al) a = .one (.slice j 0 len cap):=by exact rfl)(hj:hs[j]? = some (.cells (il k q) et opn false):=by exact rfl)(hq:q.length=len:=by first|exact List.length_replicate|assumption|exact rfl)(hr:r.length=len:=by first|assumption|exact rfl)(hh:hs.set j (.cells (il k r) et opn false)=hs':=by exact n4):SK P ops nt L (o::l) al hs K:=
 O_ ho wn.w wn.e wn.l ha hj hq hr hsrc hh hk
theorem Sr{t e:TypeId}{a b:Operand}{k:IntKind}{kl kc:IntKind}{x y:Int}{n:Nat}{N:Nat}{hs':aj}(hk:SK P ops nt L l ((d,.one (.slice N 0 n (.exact n)))::al) hs' fun bs=>K (⟨true,.none,[N]⟩::bs))(ho:o.op = .makeSlice t a b:=by exact rfl)(hu:aW P t (.slice e):=by infer_instance)(hz:bz P e [.int k 0]:=by infer_instance)(hI:TI P e 1:=by infer_instance)(wn:Wn ops nt al o d:=by exact⟨rfl,rfl,rfl⟩)(ha:ai (rg al) a = .one (.int kl x):=by exact rfl)(hb:ai (rg al) b = .one (.int kc y):=by exact rfl)(hx:x=(n:Nat):=by exact rfl)(hy:y=(n:Nat):=by exact rfl)(hn:n<=2000000000:=by first|omega|exact Nat.le_of_ble_eq_true rfl)(hN:hs.length=N:=by exact n2)(hbd:Nat.blt N Mem.bound=true:=by exact rfl)(hh:hs++[.cells (il k (List.replicate n 0)) e false false]=hs':=by exact n3):SK P ops nt L (o::l) al hs K:=
 Pd ho wn.w wn.e wn.l ha hb hx hy hn hN hbd hh hk
theorem Rg{t e:TypeId}{k:IntKind}{n:Nat}{hs':aj}(hk:SK P ops nt L l ((d,.one (.slice n 0 0 (.exact 0)))::al) hs' fun bs=>K (⟨true,.none,[n]⟩::bs))(ho:o.op = .buildSlice t 0 #[]:=by exact rfl)(hu:aW P t (.slice e):=by infer_instance)(hz:bz P e [.int k 0]:=by infer_instance)(hse:aP P e 1:=by infer_instance)(wn:Wn ops nt al o d:=by exact⟨rfl,rfl,rfl⟩)(hn:hs.length=n:=by exact n2)(hb:Nat.blt n Mem.bound=true:=by exact rfl)(hh:hs++[.cells (il k []) e false false]=hs':=by exact n3):SK P ops nt L (o::l) al hs K:=
 MM ho wn.w wn.e wn.l hn hb hh hk
theorem Rh{t e:TypeId}{y:Operand}{k:IntKind}{z:Int}{n:Nat}{hs':aj}(hk:SK P ops nt L l ((d,.one (.slice n 0 1 (.exact 1)))::al) hs' fun bs=>K (⟨true,.none,[n]⟩::bs))(ho:o.op = .buildSlice t 1 #[(0,y)]:=by exact rfl)(hu:aW P t (.slice e):=by infer_instance)(hz:bz P e [.int k 0]:=by infer_instance)(hse:aP P e 1:=by infer_instance)(wn:Wn ops nt al o d:=by exact⟨rfl,rfl,rfl⟩)(hy:dh (ai (rg al) y)=some [.int k z]:=by exact rfl)(hn:hs.length=n:=by exact n2)(hb:Nat.blt n Mem.bound=true:=by exact rfl)(hh:hs++[.cells (il k [z]) e false false]=hs':=by exact n3):SK P ops nt L (o::l) al hs K:=
 MO ho wn.w wn.e wn.l hy hn hb hh hk
theorem oR{α : Type}{enc : α->List XC}{s:Nat}[hE:sw enc s]{t e:TypeId}{y:Operand}{zs:List XC}{a : α}{n:Nat}{hs':aj}(hk:SK P ops nt L l ((d,.one (.slice n 0 1 (.exact 1)))::al) hs' fun bs=>K (⟨true,.none,[n]⟩::bs))(ho:o.op = .buildSlice t 1 #[(0,y)]:=by exact rfl)(hu:aW P t (.slice e):=by infer_instance)(hz:bz P e zs:=by infer_instance)(hse:aP P e s:=by infer_instance)(hzl:zs.length=s:=by exact rfl)(hsm:s<=16777216:=by exact Nat.le_of_ble_eq_true rfl)(wn:Wn ops nt al o d:=by exact⟨rfl,rfl,rfl⟩)(hy:dh (ai (rg al) y)=some (enc a):=by exact rfl)(hn:hs.length=n:=by exact n2)(hb:Nat.blt n Mem.bound=true:=by exact rfl)(hh:hs++[.cells (fl enc [a]) e false false]=hs':=by exact n3):SK P ops nt L (o::l) al hs K:=
 MN ho hzl hsm wn.w wn.e wn.l hy hn hb hh hk
theorem t5{α : Type}{enc : α->List XC}{s:Nat}[hE:sw enc s]{t t1 e e1:TypeId}{a b:Operand}{zs:List XC}{i n j len:Nat}{cap:tO}{q r:List α}{et:TypeId}{opn ro:Bool}{N:Nat}{hs':aj}(hk:SK P ops nt L l ((d,hZ N (n+len) s)::al) hs' fun bs=>K (⟨true,.none,[i,N]⟩::bs))(ho:o.op = .call ⟨.builtin .append,#[a,b],#[t,t1]⟩:=by exact rfl)(hu:aW P t (.slice e):=by infer_instance)(hu1:aW P t1 (.slice e1):=by infer_instance)(hz:bz P e zs:=by infer_instance)(hI:TI P e s:=by infer_instance)(hzl:zs.length=s:=by exact rfl)(wn:Wn ops nt al o d:=by exact⟨rfl,rfl,rfl⟩)(ha:ai (rg al) a=hZ i n s:=by exact rfl)(hi:hs[i]? = some (cE e (fl enc q)):=by exact rfl)(hb:ai (rg al) b = .one (.slice j 0 len cap):=by exact rfl)(hj:hs[j]? = some (.cells (fl enc r) et opn ro):=by exact rfl)(hn:q.length=n:=by first|assumption|exact rfl|(simp only[List.length_append,List.length_cons,List.length_nil];done)|(simp only[List.length_append,List.length_cons,List.length_nil];omega))(hr:r.length=len:=by first|assumption|exact rfl)(hm:0<len/\n+len<=2000000000:=by omega)(hN:hs.length=N:=by exact n2)(hbd:Nat.blt N Mem.bound=true:=by exact rfl)(hh:hs.set i .dead++[cE e (fl enc (q++r))]=hs':=by first|(simp only[List.set_cons_succ,List.set_cons_zero,List.cons_append,List.nil_append];exact rfl)|exact rfl):SK P ops nt L (o::l) al hs K:=
 O8 ho hzl wn.w wn.e wn.l ha hi hb hj hn hr hm hN hbd hh hk
theorem cl{f:FuncId}{vs:List XV}{v:XV}{hs':aj}{ws:List Nat}{g:Operand}{args:Array Operand}{ts:Array TypeId}{c:XC}{caps:List XC}(hk:SK P ops nt (⟨f,vs,hs,v,hs',ws⟩::L) l ((d,v)::al) hs' fun bs=>K (⟨true,.none,ws++nR hs.length hs'.length⟩::bs))(ho:o.op = .call ⟨.value g,args,ts⟩:=by exact rfl)(wn:Wn ops nt al o d:=by exact⟨rfl,rfl,rfl⟩)(hg:ai (rg al) g = .one c:=by exact rfl)(hx:Aj c=some (f,caps):=by exact rfl)(hcb:fC P f=true:=by kernel_rfl)(ha:args.toList.map (ai (rg al))++caps.map .one=vs:=by exact rfl)(hi:aG.Sound P ⟨f,vs,hs,v,hs',ws⟩):SK P ops nt L (o::l) al hs K:=
 aD hi ho wn.w wn.e wn.l hg hx hcb ha hk
theorem QX{f:FuncId}{vs:List XV}{v:XV}{hs':aj}{ws:List Nat}{g:Operand}{args:Array Operand}{ts:Array TypeId}{c:XC}{caps:List XC}(hk:SK P ops nt (⟨f,vs,hs,v,hs',ws⟩::L) l al hs' fun bs=>K (⟨true,.none,ws++nR hs.length hs'.length⟩::bs))(ho:o.op = .call ⟨.value g,args,ts⟩:=by exact rfl)(hw:av ops (rg al) o=some true:=by exact rfl)(hd:o.dst = .none:=by exact rfl)(hg:ai (rg al) g = .one c:=by exact rfl)(hx:Aj c=some (f,caps):=by exact rfl)(hcb:fC P f=true:=by kernel_rfl)(ha:args.toList.map (ai (rg al))++caps.map .one=vs:=by exact rfl)(hi:aG.Sound P ⟨f,vs,hs,v,hs',ws⟩):SK P ops nt L (o::l) al hs K:=
 JW hi ho hw hd hg hx hcb ha hk
theorem uK{f:FuncId}{vs:List XV}{b:Bool}{hs':aj}{ws:List Nat}{g:Operand}{args:Array Operand}{ts:Array TypeId}{c:XC}{caps:List XC}(h1:b=true->SK P ops nt (⟨f,vs,hs,.one (.bool b),hs',ws⟩::L) l ((d,.one (.bool true))::al) hs' fun bs=>K (⟨true,.none,ws++nR hs.length hs'.length⟩::bs))(h2:b=false->SK P ops nt (⟨f,vs,hs,.one (.bool b),hs',ws⟩::L) l ((d,.one (.bool false))::al) hs' fun bs=>K (⟨true,.none,ws++nR hs.length hs'.length⟩::bs))(ho:o.op = .call ⟨.value g,args,ts⟩:=by exact rfl)(wn:Wn ops nt al o d:=by exact⟨rfl,rfl,rfl⟩)(hg:ai (rg al) g = .one c:=by exact rfl)(hx:Aj c=some (f,caps):=by exact rfl)(hcb:fC P f=true:=by kernel_rfl)(ha:args.toList.map (ai (rg al))++caps.map .one=vs:=by exact rfl)(hi:aG.Sound P ⟨f,vs,hs,.one (.bool b),hs',ws⟩):SK P ops nt L (o::l) al hs K:=by
 refine aD hi ho wn.w wn.e wn.l hg hx hcb ha ?_
 cases hb:b with
 | true=>rw[hb]at h1;exact h1 rfl
 | false=>rw[hb]at h2;exact h2 rfl
theorem RY{t e:TypeId}{a:Operand}{lo hi:Option Operand}{s:Nat}{i off n p q:Nat}{c:XC}{z w:Int}(hk:∀c',cY c' i (off+p*s) (q-p)->SK P ops nt L l ((d,.one c')::al) hs fun bs=>K (quiet::bs))(ho:o.op = .slice t a lo hi .none:=by exact rfl)(hu:aW P t (.slice e):=by infer_instance)(hs':aP P e s:=by infer_instance)(wn:Wn ops nt al o d:=by exact⟨rfl,rfl,rfl⟩)(ha:ai (rg al) a = .one c:=by exact rfl)(hc:cY c i off n:=by assumption)(hl:BG (lo.map (ai (rg al))) 0=some z:=by exact rfl)(hh:BG (hi.map (ai (rg al))) (n:Nat)=some w:=by exact rfl)(hp:z=(p:Nat):=by first|exact rfl|omega)(hq:w=(q:Nat):=by first|exact rfl|omega)(hb:p<=q/\q<=n:=by omega):SK P ops nt L (o::l) al hs K:=
 Pj ho wn.w wn.e wn.l ha hc hl hh hp hq hb hk
section
variable {K:dM}
theorem wS{a b:Code}(h:WX P nt nI (.code a) al hs (PZ P nt nI b K)):WX P nt nI (.code (.seq a b)) al hs K:=
 WX.seq h
theorem wA{id:Nat}(h:SK P ops nt [] ops.toList al hs fun _ al' hs'=>K .normal al' hs'):WX P nt nI (.code (.region id ops false)) al hs K:=
 WX.P2 h
theorem wD{id:Nat}(h:SK P ops nt [] ops.toList al hs fun bs al' hs'=>xC (jF ops.toList) bs=true/\K .normal al' hs')(hP:P.follows .mixedOrders=true:=by kernel_rfl)(hst:dA ops nt (jF ops.toList)=true:=by kernel_rfl):WX P nt nI (.code (.region id ops true)) al hs K:=
 WX.Oh hP hst h
theorem wT{c:Operand}{x y:Code}(h:WX P nt nI (.code x) al hs K)(hc:ai (rg al) c = .one (.bool true):=by exact rfl):WX P nt nI (.code (.cond c x y)) al hs K:=
 WX.Qf hc h
theorem wF{c:Operand}{x y:Code}(h:WX P nt nI (.code y) al hs K)(hc:ai (rg al) c = .one (.bool false):=by exact rfl):WX P nt nI (.code (.cond c x y)) al hs K:=
 WX.Qe hc h
theorem wK(h:K .normal al hs):WX P nt nI (.code .skip) al hs K:=
 WX.skip h
theorem wB{id:Nat}{c:Code}(h:WX P nt nI (.code c) al hs (yM id K)):WX P nt nI (.code (.block id c)) al hs K:=
 WX.block h
theorem wE{id:Nat}(h:K (.exit id) al hs):WX P nt nI (.code (.exit id)) al hs K:=
 WX.exit h
theorem wR(h:K .ret al hs):WX P nt nI (.code .ret) al hs K:=
 WX.ret h
end
end Go.Xm
namespace Go.Xm
variable [ax]
theorem nL{α : Type}{a b : α}(h:a=b:=by first|(simp only[List.length_cons,List.length_nil,List.length_append,List.length_set,Nat.reduceAdd,Nat.zero_add];exact rfl)|exact rfl|fail):a=b:=h
theorem nA{α : Type}{a b : α}(h:a=b:=by first|(simp only[bK,List.set_cons_succ,List.set_cons_zero,List.cons_append,List.nil_append];exact rfl)|exact rfl|fail):a=b:=h
theorem hS{α : Type}{a b : α}(h:a=b:=by first|(simp only[List.set_cons_succ,List.set_cons_zero];exact rfl)|exact rfl|fail):a=b:=h
theorem zG{G G':Prop}(k:G')(h:G'->G:=by intro k;refine qz (qg ?_);first|exact SJ k|fail):G:=h k
theorem zA{G G':Prop}(k:G')(h:G'->G:=by intro k;refine qz ?_;first
 |(refine q4 ?_;first|(refine t0 ?_;first|exact Ss k|exact R3 k|exact Su k|fail)|(refine t1 ?_;first|exact Sg k|exact Si k|exact Sj k|exact ld k|exact Qw k|exact sL k|exact fG k|exact t_ k|exact Sh k|fail)|(refine t2 ?_;first|exact SL k|exact SM k|exact SN k|exact st k|exact kj k|fail)|(refine t3 ?_;first|exact Sf k|exact Se k|exact Sc k|exact Sd k|fail)|exact fa k|fail)
 |(refine SE ?_;first|exact ad k|exact sb k|exact ml k|exact qu k|exact re k|exact sr k|exact qt k|exact Cp (n:=1) k|exact Cp (n:=2) k|exact Cp (n:=3) k|exact Cp (n:=4) k|exact Cp (n:=5) k|exact Cp (n:=6) k|exact Cp (n:=7) k|exact Cp (n:=8) k|exact Cp k|exact an 1 k|exact an 2 k|exact an 3 k|exact an 4 k|exact an 5 k|exact an 6 k|exact an 8 k|exact an 7 k|exact xr k|exact SA k|exact R1 k|fail)
 |(refine SF ?_;first|exact cT k|exact cF k|exact Rf k|exact Sa k|exact Sx k|fail)
 |(refine SG ?_;first|exact SC k|exact SB k|exact Sy k|exact ng k|exact cv k|exact SP k|exact SQ k|exact nl k|fail)
 |(refine SH ?_;first|(refine SO ?_;first|exact So k|exact Sk k|exact Sl k|exact Sn k|fail)|exact Sv k|exact Q6 k|exact Sq k|exact RW k|exact RN k|exact t5 k|fail)
 |exact b0 k|exact R4 k|exact bS k|exact bA k|exact bF k|exact Rg k|exact Rh k|exact R5 k|exact tR k|exact bx k|exact mm k|exact Sr k|fail):G:=h k
theorem RR{L:List aG}(h:af L:=by first|exact af.nil|exact af.one _|(refine af.mD ?_;(repeat' (first|exact True.intro|refine And.intro ?_ ?_|exact Compat.ne rfl));done)|fail):af L:=h
theorem zz{G G':Prop}(k:G')(h:G'->G:=by intro k;first|exact zG k|exact zA k|exact bp RR ⟨by kernel_rfl,k⟩|exact bp RR k|exact wS k|exact wA k|exact wD k|exact wT k|exact wF k|exact wK k|exact wB k|exact wE k|exact wR k|fail):G:=h k
theorem zx{G:Prop}{A B:Prop}{G1:A->Prop}{G2:B->Prop}(k1:∀a,G1 a)(k2:∀b,G2 b)(h:(∀a,G1 a)->(∀b,G2 b)->G:=by intro k1 k2;first|exact cX k1 k2|fail):G:=h k1 k2
theorem cG{nI:Nat}{al al2:bl}{hs hs2:aj}(τl:List Nat)(nd:Nd τl hs2:=by exact(by first|exact Or.inl (by decide)|exact Or.inr ⟨_,(by repeat' (first|exact h_.nil|apply h_.dead|apply h_.cons)),(by decide)⟩))(hid:(List.range nI).all (fun j=>nth τl j==j)=true:=by exact rfl)(obj:ae (nth τl) hs τl hs2:=by(repeat' (first|exact ae.nil|refine ae.flat rfl ?_|refine ae.cons rfl ?_|refine ae.dead rfl ?_|refine ae.ij rfl rfl rfl rfl ?_|refine ae.cons (by simp only[ak.ay,List.map_cons,List.map_nil,XC.ay,aB];exact rfl) ?_));first|done|fail)(reg:ah (nth τl) al al2:=by(repeat' (first|exact ah.nil|refine ah.flat rfl ?_|refine ah.cons rfl ?_|refine ah.sl rfl (by assumption) rfl ?_|refine ah.fN rfl rfl (by first|rfl|omega|(simp;done)|(simp;omega)) ?_|refine ah.cons (by simp only[XV.ay,List.map_cons,List.map_nil,aB];rfl) ?_));first|done|fail):GoTo nI al hs al2 hs2 τl:=⟨nd,hid,obj,reg⟩
theorem lD{nI:Nat}{al:bl}{hs:aj}(le:Nat.ble nI hs.length=true:=by exact rfl)(bnd:Nat.blt hs.length Mem.bound=true:=by exact rfl)(objs:bc hs.length hs:=by repeat' (first|exact bc.nil|refine bc.flat ?_|refine bc.cons (by first|(simp[ak.b7,XC.ok,aZ];done)|simp[ak.b7,XC.ok,aZ, *]) ?_))(jH:oe hs.length al:=by repeat' (first|exact oe.nil|refine oe.flat ?_|refine oe.cons (by first|exact trivial|exact iT (Nat.le_of_ble_eq_true rfl)|exact cY.ok ‹_› (Nat.le_of_ble_eq_true rfl)|(simp[XV.b7,XC.ok,X1.ok];done)|simp[XV.b7,XC.ok,X1.ok,aZ]) ?_)):Cw nI al hs:=⟨le,bnd,objs,jH⟩
variable {P:Program} {fn:Func} {n:Nat} {e:XE} {al:bl} {hs hs':aj} {v1 v:XV}
theorem kV(τl:List Nat)(hv:v1=v.ay (nth τl))(he:e = .normal\/e = .ret:=by first|exact .inr rfl|exact .inl rfl|fail)(hr:tQ P fn al hs v1:=by first|exact fun m hm=>rfl|exact ib.one rfl (.cell rfl rfl (cg rfl) .nil)|exact ib.two rfl (.cell rfl rfl (cg rfl) (.tmp rfl .nil))|exact ib.zero rfl .nil|exact ib.two rfl (by repeat' (first|exact ib.nil|refine ib.tmp rfl ?_|refine ib.cell rfl rfl (cg (by first|rfl|assumption)) ?_))|fail)(hok:v.b7 hs'.length:=by first|exact trivial|exact iT (Nat.le_of_ble_eq_true rfl)|exact F6 (aZ (Nat.le_of_ble_eq_true rfl)) trivial|exact XV.e9 rfl _|(simp[XV.b7,X1.ok,XC.ok];done)|(simp[XV.b7,X1.ok,XC.ok,aZ];done)|fail)(nd:Nd τl hs':=by exact(by first|exact Or.inl (by decide)|exact Or.inr ⟨_,(by repeat' (first|exact h_.nil|apply h_.dead|apply h_.cons)),(by decide)⟩))(hid:(List.range n).all (fun j=>nth τl j==j)=true:=by exact rfl)(ho:ae (nth τl) hs τl hs':=by repeat' (first|exact ae.nil|refine ae.flat rfl ?_|refine ae.cons rfl ?_|refine ae.dead rfl ?_|refine ae.cons (by simp only[ak.ay,List.map_cons,List.map_nil,XC.ay,aB];exact rfl) ?_))(hk:bc hs'.length hs':=by repeat' (first|exact bc.nil|refine bc.flat ?_|refine bc.cons (by first|(simp[ak.b7,XC.ok,aZ];done)|simp[ak.b7,XC.ok,aZ, *]) ?_)):aC P fn n v hs' e al hs:=IK τl he hr hv hok nd hid ho hk
theorem kM{junk:aj}(hv:v1=v)(hk:∀o∈hs',o.b7 hs'.length)(he:e = .normal\/e = .ret:=by first|exact .inr rfl|exact .inl rfl|fail)(hr:tQ P fn al hs v1:=by first|exact fun m hm=>rfl|exact ib.one rfl (.cell rfl rfl (cg rfl) .nil)|exact ib.two rfl (.cell rfl rfl (cg rfl) (.tmp rfl .nil))|fail)(hok:v.b7 hs'.length:=by first|exact trivial|exact iT (Nat.le_of_ble_eq_true rfl)|(simp[XV.b7,X1.ok,XC.ok];done)|fail)(hh:hs=hs'++junk:=by exact rfl):aC P fn n v hs' e al hs:=b8 (junk:=junk) he hr hv hok hh hk
theorem cO{P:Program}{f:FuncId}{fn:Func}{c:Code}{args:List XV}{hs hs':aj}{v:XV}(hf:P.funcs[f]? = some fn)(h:WX P fn.ntmps hs.length (.code c) (nq args 0) hs (aC P fn hs.length v hs'))(hb:fn.body=some c:=by exact rfl)(hn:Nat.ble (fn.ntmps+1) 1000000=true:=by exact rfl)(hl:Nat.ble args.length fn.ntmps=true:=by exact rfl)(hle:Nat.ble hs.length hs'.length=true:=by exact rfl)(hbd:Nat.ble (hs'.length+1) Mem.bound=true:=by exact rfl):bh P f args hs v hs':=
 Fy hf hb (Nat.le_of_ble_eq_true hn) (Nat.le_of_ble_eq_true hl) (Nat.le_of_ble_eq_true hle) (Nat.le_of_ble_eq_true hbd) h
end Go.Xm
namespace Go.Proofs.YtagpkhindehcbaaGreat
open Go.Xm
instance:aW Tryz.prog 3 (.int .i64):=⟨Tryz.underlying3⟩
instance:aP Tryz.prog 3 1:=⟨by kernel_rfl⟩
instance:ef Tryz.prog 3:=⟨by kernel_rfl⟩
instance:aW Tryz.prog 4 (.bool):=⟨Tryz.underlying4⟩
instance:aP Tryz.prog 4 1:=⟨by kernel_rfl⟩
instance:ef Tryz.prog 4:=⟨by kernel_rfl⟩
instance:aW Tryz.prog 5 (.int .u8):=⟨Tryz.underlying5⟩
instance:aP Tryz.prog 5 1:=⟨by kernel_rfl⟩
instance:TI Tryz.prog 5 1:=⟨by kernel_rfl⟩
instance:ef Tryz.prog 5:=⟨by kernel_rfl⟩
instance:bz Tryz.prog 5 ([.int .u8 0]):=⟨by kernel_rfl⟩
instance:aW Tryz.prog 9 (.string):=⟨Tryz.underlying9⟩
instance:aW Tryz.prog 22 (.array 64 5):=⟨Tryz.underlying22⟩
instance:aP Tryz.prog 22 64:=⟨by kernel_rfl⟩
instance:dY Tryz.prog 24 [(0,1),(1,64),(65,64)]:=⟨_,Tryz.underlying24,by kernel_rfl⟩
instance:aP Tryz.prog 24 129:=⟨by kernel_rfl⟩
instance:eV Tryz.prog 24:=⟨by kernel_rfl⟩
instance:bz Tryz.prog 24 ([.bool false]++(ti .u8 64 fun _=>0)++(ti .u8 64 fun _=>0)):=⟨by kernel_rfl⟩
instance:c6 Tryz.prog 24 0 4 0:=⟨by kernel_rfl⟩
instance:c6 Tryz.prog 24 1 22 1:=⟨by kernel_rfl⟩
instance:c6 Tryz.prog 24 2 22 65:=⟨by kernel_rfl⟩
instance:dY Tryz.prog 26 [(0,1),(1,1),(2,129)]:=⟨_,Tryz.underlying26,by kernel_rfl⟩
instance:aP Tryz.prog 26 131:=⟨by kernel_rfl⟩
instance:eV Tryz.prog 26:=⟨by kernel_rfl⟩
instance:bz Tryz.prog 26 ([.int .i64 0,.int .i64 0,.bool false]++(ti .u8 64 fun _=>0)++(ti .u8 64 fun _=>0)):=⟨by kernel_rfl⟩
instance:c6 Tryz.prog 26 0 3 0:=⟨by kernel_rfl⟩
instance:c6 Tryz.prog 26 1 3 1:=⟨by kernel_rfl⟩
instance:c6 Tryz.prog 26 2 24 2:=⟨by kernel_rfl⟩
instance:dY Tryz.prog 28 [(0,1),(1,1),(2,1),(3,1)]:=⟨_,Tryz.underlying28,by kernel_rfl⟩
instance:aP Tryz.prog 28 4:=⟨by kernel_rfl⟩
instance:eV Tryz.prog 28:=⟨by kernel_rfl⟩
instance:bz Tryz.prog 28 ([.int .i64 0,.bool false,.bool false,.int .i64 0]):=⟨by kernel_rfl⟩
instance:c6 Tryz.prog 28 0 3 0:=⟨by kernel_rfl⟩
instance:c6 Tryz.prog 28 1 4 1:=⟨by kernel_rfl⟩
instance:c6 Tryz.prog 28 2 4 2:=⟨by kernel_rfl⟩
instance:c6 Tryz.prog 28 3 3 3:=⟨by kernel_rfl⟩
instance:aW Tryz.prog 29 (.slice 81):=⟨Tryz.underlying29⟩
instance:aP Tryz.prog 29 1:=⟨by kernel_rfl⟩
instance:ef Tryz.prog 29:=⟨by kernel_rfl⟩
instance:aP Tryz.prog 31 137:=⟨by kernel_rfl⟩
instance:eV Tryz.prog 31:=⟨by kernel_rfl⟩
instance:c6 Tryz.prog 31 0 26 0:=⟨by kernel_rfl⟩
instance:c6 Tryz.prog 31 1 28 131:=⟨by kernel_rfl⟩
instance:c6 Tryz.prog 31 2 5 135:=⟨by kernel_rfl⟩
instance:c6 Tryz.prog 31 3 29 136:=⟨by kernel_rfl⟩
instance:aW Tryz.prog 33 (.slice 53):=⟨Tryz.underlying33⟩
instance:aW Tryz.prog 36 (.pointer 86):=⟨Tryz.underlying36⟩
instance:aP Tryz.prog 36 1:=⟨by kernel_rfl⟩
instance:ef Tryz.prog 36:=⟨by kernel_rfl⟩
instance:aW Tryz.prog 38 (.slice 5):=⟨Tryz.underlying38⟩
instance:aP Tryz.prog 38 1:=⟨by kernel_rfl⟩
instance:ef Tryz.prog 38:=⟨by kernel_rfl⟩
instance:aW Tryz.prog 42 (.slice 56):=⟨Tryz.underlying42⟩
instance:aW Tryz.prog 46 (.int .u8):=⟨Tryz.underlying46⟩
instance:aP Tryz.prog 46 1:=⟨by kernel_rfl⟩
instance:ef Tryz.prog 46:=⟨by kernel_rfl⟩
instance:aP Tryz.prog 47 1:=⟨by kernel_rfl⟩
instance:TI Tryz.prog 47 1:=⟨by kernel_rfl⟩
instance:ef Tryz.prog 47:=⟨by kernel_rfl⟩
instance:bz Tryz.prog 47 ([.cplx .f64 0 0]):=⟨by kernel_rfl⟩
instance:aW Tryz.prog 48 (.array 4 47):=⟨Tryz.underlying48⟩
instance:bz Tryz.prog 48 ([.cplx .f64 0 0,.cplx .f64 0 0,.cplx .f64 0 0,.cplx .f64 0 0]):=⟨by kernel_rfl⟩
instance:aW Tryz.prog 49 (.array 4 47):=⟨Tryz.underlying49⟩
instance:aP Tryz.prog 49 4:=⟨by kernel_rfl⟩
instance:eV Tryz.prog 49:=⟨by kernel_rfl⟩
instance:bz Tryz.prog 49 ([.cplx .f64 0 0,.cplx .f64 0 0,.cplx .f64 0 0,.cplx .f64 0 0]):=⟨by kernel_rfl⟩
instance:aW Tryz.prog 50 (.array 64 3):=⟨Tryz.underlying50⟩
instance:aP Tryz.prog 50 64:=⟨by kernel_rfl⟩
instance:eV Tryz.prog 50:=⟨by kernel_rfl⟩
instance:bz Tryz.prog 50 ((ti .i64 64 fun _=>0)):=⟨by kernel_rfl⟩
instance:aW Tryz.prog 51 (.array 6 50):=⟨Tryz.underlying51⟩
instance:aP Tryz.prog 51 384:=⟨by kernel_rfl⟩
instance:eV Tryz.prog 51:=⟨by kernel_rfl⟩
instance:dY Tryz.prog 53 [(0,1),(1,1),(2,4),(6,1),(7,384)]:=⟨_,Tryz.underlying53,by kernel_rfl⟩
instance:aP Tryz.prog 53 391:=⟨by kernel_rfl⟩
instance:TI Tryz.prog 53 391:=⟨by kernel_rfl⟩
instance:eV Tryz.prog 53:=⟨by kernel_rfl⟩
instance:bz Tryz.prog 53 ([.int .u8 0,.int .i64 0,.cplx .f64 0 0,.cplx .f64 0 0,.cplx .f64 0 0,.cplx .f64 0 0,.bool false]++(ti .i64 384 fun _=>0)):=⟨by kernel_rfl⟩
instance:c6 Tryz.prog 53 0 46 0:=⟨by kernel_rfl⟩
instance:c6 Tryz.prog 53 1 3 1:=⟨by kernel_rfl⟩
instance:c6 Tryz.prog 53 2 49 2:=⟨by kernel_rfl⟩
instance:c6 Tryz.prog 53 3 4 6:=⟨by kernel_rfl⟩
instance:c6 Tryz.prog 53 4 51 7:=⟨by kernel_rfl⟩
instance:aW Tryz.prog 54 (.array 6 4):=⟨Tryz.underlying54⟩
instance:aP Tryz.prog 54 6:=⟨by kernel_rfl⟩
instance:eV Tryz.prog 54:=⟨by kernel_rfl⟩
instance:dY Tryz.prog 56 [(0,391),(391,6)]:=⟨_,Tryz.underlying56,by kernel_rfl⟩
instance:aP Tryz.prog 56 397:=⟨by kernel_rfl⟩
instance:TI Tryz.prog 56 397:=⟨by kernel_rfl⟩
instance:eV Tryz.prog 56:=⟨by kernel_rfl⟩
instance:bz Tryz.prog 56 ([.int .u8 0,.int .i64 0,.cplx .f64 0 0,.cplx .f64 0 0,.cplx .f64 0 0,.cplx .f64 0 0,.bool false]++(ti .i64 384 fun _=>0)++[.bool false,.bool false,.bool false,.bool false,.bool false,.bool false]):=⟨by kernel_rfl⟩
instance:c6 Tryz.prog 56 0 53 0:=⟨by kernel_rfl⟩
instance:c6 Tryz.prog 56 1 54 391:=⟨by kernel_rfl⟩
instance:aW Tryz.prog 60 (.slice 106):=⟨Tryz.underlying60⟩
instance:aW Tryz.prog 62 (.int .u16):=⟨Tryz.underlying62⟩
instance:aW Tryz.prog 63 (.array 2 38):=⟨Tryz.underlying63⟩
instance:aP Tryz.prog 63 2:=⟨by kernel_rfl⟩
instance:eV Tryz.prog 63:=⟨by kernel_rfl⟩
instance:bz Tryz.prog 63 ([.nils,.nils]):=⟨by kernel_rfl⟩
instance:aW Tryz.prog 65 (.slice 63):=⟨Tryz.underlying65⟩
instance:aW Tryz.prog 73 (.int .i8):=⟨Tryz.underlying73⟩
instance:aP Tryz.prog 73 1:=⟨by kernel_rfl⟩
instance:ef Tryz.prog 73:=⟨by kernel_rfl⟩
instance:aW Tryz.prog 74 (.array 4 73):=⟨Tryz.underlying74⟩
instance:aP Tryz.prog 74 4:=⟨by kernel_rfl⟩
instance:aP Tryz.prog 76 9:=⟨by kernel_rfl⟩
instance:eV Tryz.prog 76:=⟨by kernel_rfl⟩
instance:c6 Tryz.prog 76 0 74 0:=⟨by kernel_rfl⟩
instance:c6 Tryz.prog 76 1 74 4:=⟨by kernel_rfl⟩
instance:c6 Tryz.prog 76 2 4 8:=⟨by kernel_rfl⟩
instance:aW Tryz.prog 77 (.int .u64):=⟨Tryz.underlying77⟩
instance:aP Tryz.prog 77 1:=⟨by kernel_rfl⟩
instance:ef Tryz.prog 77:=⟨by kernel_rfl⟩
instance:aW Tryz.prog 78 (.array 6 77):=⟨Tryz.underlying78⟩
instance:aP Tryz.prog 78 6:=⟨by kernel_rfl⟩
instance:aW Tryz.prog 79 (.int .u32):=⟨Tryz.underlying79⟩
instance:aP Tryz.prog 79 1:=⟨by kernel_rfl⟩
instance:ef Tryz.prog 79:=⟨by kernel_rfl⟩
instance:dY Tryz.prog 81 [(0,1),(1,1),(2,9),(11,1),(12,6),(18,1),(19,1)]:=⟨_,Tryz.underlying81,by kernel_rfl⟩
instance:aP Tryz.prog 81 20:=⟨by kernel_rfl⟩
instance:eV Tryz.prog 81:=⟨by kernel_rfl⟩
instance:bz Tryz.prog 81 ([.int .u8 0,.int .u8 0,.int .i8 0,.int .i8 0,.int .i8 0,.int .i8 0,.int .i8 0,.int .i8 0,.int .i8 0,.int .i8 0,.bool false,.bool false,.int .u64 0,.int .u64 0,.int .u64 0,.int .u64 0,.int .u64 0,.int .u64 0,.int .u32 0,.bool false]):=⟨by kernel_rfl⟩
instance:c6 Tryz.prog 81 0 5 0:=⟨by kernel_rfl⟩
instance:c6 Tryz.prog 81 1 5 1:=⟨by kernel_rfl⟩
instance:c6 Tryz.prog 81 2 76 2:=⟨by kernel_rfl⟩
instance:c6 Tryz.prog 81 3 4 11:=⟨by kernel_rfl⟩
instance:c6 Tryz.prog 81 4 78 12:=⟨by kernel_rfl⟩
instance:c6 Tryz.prog 81 5 79 18:=⟨by kernel_rfl⟩
instance:c6 Tryz.prog 81 6 4 19:=⟨by kernel_rfl⟩
instance:aW Tryz.prog 83 (.pointer 163):=⟨Tryz.underlying83⟩
instance:aP Tryz.prog 83 1:=⟨by kernel_rfl⟩
instance:ef Tryz.prog 83:=⟨by kernel_rfl⟩
instance:c6 Tryz.prog 86 0 83 0:=⟨by kernel_rfl⟩
instance:c6 Tryz.prog 86 1 83 1:=⟨by kernel_rfl⟩
instance:c6 Tryz.prog 86 2 83 2:=⟨by kernel_rfl⟩
instance:aW Tryz.prog 90 (.pointer 92):=⟨Tryz.underlying90⟩
instance:dY Tryz.prog 92 [(0,1),(1,1)]:=⟨_,Tryz.underlying92,by kernel_rfl⟩
instance:aP Tryz.prog 92 2:=⟨by kernel_rfl⟩
instance:bz Tryz.prog 92 ([.nils,.int .i64 0]):=⟨by kernel_rfl⟩
instance:c6 Tryz.prog 92 0 38 0:=⟨by kernel_rfl⟩
instance:c6 Tryz.prog 92 1 3 1:=⟨by kernel_rfl⟩
instance:aW Tryz.prog 94 (.pointer 167):=⟨Tryz.underlying94⟩
instance:aP Tryz.prog 94 1:=⟨by kernel_rfl⟩
instance:ef Tryz.prog 94:=⟨by kernel_rfl⟩
instance:aW Tryz.prog 95 (.pointer 171):=⟨Tryz.underlying95⟩
instance:aP Tryz.prog 95 1:=⟨by kernel_rfl⟩
instance:ef Tryz.prog 95:=⟨by kernel_rfl⟩
instance:dY Tryz.prog 97 [(0,1),(1,4),(5,1),(6,1),(7,1)]:=⟨_,Tryz.underlying97,by kernel_rfl⟩
instance:bz Tryz.prog 97 ([.nilp,.int .i64 0,.bool false,.bool false,.int .i64 0,.int .i64 0,.nilp,.nilp]):=⟨by kernel_rfl⟩
instance:c6 Tryz.prog 97 0 36 0:=⟨by kernel_rfl⟩
instance:c6 Tryz.prog 97 1 28 1:=⟨by kernel_rfl⟩
instance:c6 Tryz.prog 97 2 3 5:=⟨by kernel_rfl⟩
instance:c6 Tryz.prog 97 3 94 6:=⟨by kernel_rfl⟩
instance:c6 Tryz.prog 97 4 95 7:=⟨by kernel_rfl⟩
instance:aW Tryz.prog 100 (.pointer 137):=⟨Tryz.underlying100⟩
instance:aW Tryz.prog 106 (.slice 144):=⟨Tryz.underlying106⟩
instance:aP Tryz.prog 106 1:=⟨by kernel_rfl⟩
instance:TI Tryz.prog 106 1:=⟨by kernel_rfl⟩
instance:ef Tryz.prog 106:=⟨by kernel_rfl⟩
instance:bz Tryz.prog 106 ([.nils]):=⟨by kernel_rfl⟩
instance:aW Tryz.prog 113 (.array 4 3):=⟨Tryz.underlying113⟩
instance:aP Tryz.prog 113 4:=⟨by kernel_rfl⟩
instance:eV Tryz.prog 113:=⟨by kernel_rfl⟩
instance:bz Tryz.prog 113 ([.int .i64 0,.int .i64 0,.int .i64 0,.int .i64 0]):=⟨by kernel_rfl⟩
instance:aW Tryz.prog 117 (.int .u64):=⟨Tryz.underlying117⟩
instance:aW Tryz.prog 120 (.slice 3):=⟨Tryz.underlying120⟩
instance:aP Tryz.prog 120 1:=⟨by kernel_rfl⟩
instance:ef Tryz.prog 120:=⟨by kernel_rfl⟩
instance:dY Tryz.prog 137 [(0,1),(1,1),(2,1),(3,1)]:=⟨_,Tryz.underlying137,by kernel_rfl⟩
instance:bz Tryz.prog 137 ([.nils,.int .i64 0,.int .i64 0,.bool false]):=⟨by kernel_rfl⟩
instance:c6 Tryz.prog 137 0 38 0:=⟨by kernel_rfl⟩
instance:c6 Tryz.prog 137 1 3 1:=⟨by kernel_rfl⟩
instance:c6 Tryz.prog 137 2 3 2:=⟨by kernel_rfl⟩
instance:c6 Tryz.prog 137 3 4 3:=⟨by kernel_rfl⟩
instance:dY Tryz.prog 144 [(0,1),(1,1),(2,1)]:=⟨_,Tryz.underlying144,by kernel_rfl⟩
instance:aP Tryz.prog 144 3:=⟨by kernel_rfl⟩
instance:TI Tryz.prog 144 3:=⟨by kernel_rfl⟩
instance:eV Tryz.prog 144:=⟨by kernel_rfl⟩
instance:bz Tryz.prog 144 ([.int .i64 0,.int .i64 0,.bool false]):=⟨by kernel_rfl⟩
instance:c6 Tryz.prog 144 0 3 0:=⟨by kernel_rfl⟩
instance:c6 Tryz.prog 144 1 3 1:=⟨by kernel_rfl⟩
instance:c6 Tryz.prog 144 2 4 2:=⟨by kernel_rfl⟩
instance:dY Tryz.prog 156 [(0,64),(64,1)]:=⟨_,Tryz.underlying156,by kernel_rfl⟩
instance:aP Tryz.prog 156 65:=⟨by kernel_rfl⟩
instance:eV Tryz.prog 156:=⟨by kernel_rfl⟩
instance:bz Tryz.prog 156 ((ti .i64 64 fun _=>0)++[.int .i64 0]):=⟨by kernel_rfl⟩
instance:c6 Tryz.prog 156 0 50 0:=⟨by kernel_rfl⟩
instance:c6 Tryz.prog 156 1 3 64:=⟨by kernel_rfl⟩
instance:aW Tryz.prog 160 (.slice 77):=⟨Tryz.underlying160⟩
instance:aP Tryz.prog 160 1:=⟨by kernel_rfl⟩
instance:ef Tryz.prog 160:=⟨by kernel_rfl⟩
instance:aW Tryz.prog 161 (.slice 190):=⟨Tryz.underlying161⟩
instance:aP Tryz.prog 161 1:=⟨by kernel_rfl⟩
instance:ef Tryz.prog 161:=⟨by kernel_rfl⟩
instance:c6 Tryz.prog 163 0 120 0:=⟨by kernel_rfl⟩
instance:c6 Tryz.prog 163 1 160 1:=⟨by kernel_rfl⟩
instance:c6 Tryz.prog 163 2 161 2:=⟨by kernel_rfl⟩
instance:aW Tryz.prog 165 (.map 3 47):=⟨Tryz.underlying165⟩
instance:aP Tryz.prog 165 1:=⟨by kernel_rfl⟩
instance:ef Tryz.prog 165:=⟨by kernel_rfl⟩
instance:dY Tryz.prog 167 [(0,1),(1,1),(2,1)]:=⟨_,Tryz.underlying167,by kernel_rfl⟩
instance:bz Tryz.prog 167 ([.int .i64 0,.int .i64 0,.nilm]):=⟨by kernel_rfl⟩
instance:c6 Tryz.prog 167 0 3 0:=⟨by kernel_rfl⟩
instance:c6 Tryz.prog 167 1 3 1:=⟨by kernel_rfl⟩
instance:c6 Tryz.prog 167 2 165 2:=⟨by kernel_rfl⟩
instance:aW Tryz.prog 168 (.map 3 156):=⟨Tryz.underlying168⟩
instance:aP Tryz.prog 168 1:=⟨by kernel_rfl⟩
instance:ef Tryz.prog 168:=⟨by kernel_rfl⟩
instance:aW Tryz.prog 169 (.array 3 168):=⟨Tryz.underlying169⟩
instance:aP Tryz.prog 169 3:=⟨by kernel_rfl⟩
instance:bz Tryz.prog 169 ([.nilm,.nilm,.nilm]):=⟨by kernel_rfl⟩
instance:dY Tryz.prog 171 [(0,1),(1,1),(2,3)]:=⟨_,Tryz.underlying171,by kernel_rfl⟩
instance:bz Tryz.prog 171 ([.int .i64 0,.int .i64 0,.nilm,.nilm,.nilm]):=⟨by kernel_rfl⟩
instance:c6 Tryz.prog 171 0 3 0:=⟨by kernel_rfl⟩
instance:c6 Tryz.prog 171 1 3 1:=⟨by kernel_rfl⟩
instance:c6 Tryz.prog 171 2 169 2:=⟨by kernel_rfl⟩
instance:aW Tryz.prog 179 (.slice 47):=⟨Tryz.underlying179⟩
instance:aW Tryz.prog 180 (.array 2 3):=⟨Tryz.underlying180⟩
instance:aP Tryz.prog 180 2:=⟨by kernel_rfl⟩
instance:eV Tryz.prog 180:=⟨by kernel_rfl⟩
instance:bz Tryz.prog 180 ([.int .i64 0,.int .i64 0]):=⟨by kernel_rfl⟩
instance:aW Tryz.prog 181 (.array 3 180):=⟨Tryz.underlying181⟩
instance:bz Tryz.prog 181 ([.int .i64 0,.int .i64 0,.int .i64 0,.int .i64 0,.int .i64 0,.int .i64 0]):=⟨by kernel_rfl⟩
instance:aW Tryz.prog 185 (.array 6 106):=⟨Tryz.underlying185⟩
instance:aP Tryz.prog 185 6:=⟨by kernel_rfl⟩
instance:eV Tryz.prog 185:=⟨by kernel_rfl⟩
instance:bz Tryz.prog 185 ([.nils,.nils,.nils,.nils,.nils,.nils]):=⟨by kernel_rfl⟩
instance:aP Tryz.prog 190 2:=⟨by kernel_rfl⟩
instance:c6 Tryz.prog 190 0 180 0:=⟨by kernel_rfl⟩
instance:aW Tryz.prog 202 (.float .f64):=⟨Tryz.underlying202⟩
end Go.Proofs.YtagpkhindehcbaaGreat
