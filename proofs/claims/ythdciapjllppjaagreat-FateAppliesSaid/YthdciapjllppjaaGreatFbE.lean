/-
  A part of the proof: XvOps, XvPut, XvAuto, XvTac.
-/
import Derived.Test.YthdciapjllppjaaGreatFbD
import Derived.KernelRfl
set_option maxRecDepth 10000
set_option maxHeartbeats 8000000
set_option linter.unusedVariables false
set_option linter.unusedSectionVars false
set_option linter.unusedSimpArgs false
namespace Go.Xm
variable [av]
variable {P:Program} {ops:Array Oper} {nt nI:Nat} {al:aL} {hs:ah} {o:Oper} {l:List Oper} {L:List aA} {K:List Ab->aL->ah->Prop} {d:Nat}
class TI (P:Program) (t:TypeId) (s:outParam Nat):Prop where out:(P.info? t).elim false (fun i=>Nat.beq i.size s&&Nat.ble i.bytes 65536)=true
theorem TI.get{P:Program}{t:TypeId}{s:Nat}[h:TI P t s]:∃ti,P.info? t=some ti/\ti.size=s/\ti.bytes<=65536:=by
 have h:=h.out
 cases hi:P.info? t with
 | none=>rw[hi]at h;cases h
 | some ti=>
   rw[hi]at h;simp only[Option.elim,Bool.and_eq_true]at h;exact⟨ti,rfl,Nat.eq_of_beq_eq_true h.1,Nat.le_of_ble_eq_true h.2⟩
def wM(k:IntKind)(z:Int):Prop:=match k with
 | .i8 => -128<=z/\z<128
 | .i16 => -32768<=z/\z<32768
 | .i32 => -2147483648<=z/\z<2147483648
 | .i64 => -9223372036854775808<=z/\z<9223372036854775808
 | .u8=>0<=z/\z<256
 | .u16=>0<=z/\z<65536
 | .u32=>0<=z/\z<4294967296
 | .u64=>0<=z/\z<18446744073709551616
theorem hJ{k:IntKind}{z:Int}(h:wM k z):k.wrap z=z:=by
 cases k<;>simp only[wM]at h<;>simp only[IntKind.wrap,IntKind.bits,IntKind.signed]<;>simp<;>omega
theorem N9{k:IntKind}{z:Int}(h:wM k z):z<2^k.bits:=by
 cases k<;>simp only[wM]at h<;>simp only[IntKind.bits]<;>omega
theorem Lr{k:IntKind}{z w:Int}(h:wM k z)(h0:0<=w)(h1:w<=z):wM k w:=by
 cases k<;>simp only[wM]at h ⊢<;>omega
theorem Fc{k:IntKind}{z:Int}(h0:0<=z)(h1:z<2^(k.bits-1)):wM k z:=by
 cases k<;>simp only[wM,IntKind.bits]at h1 ⊢<;>omega
theorem R_{k:IntKind}{x y:Int}(hk:wM k x)(hx:0<=x)(hy:0<y):bB .quo k k x y=some (.int k (x/y)):=by
 have h0:y≠0:=by omega
 have h1:x.tdiv y=x/y:=Int.tdiv_eq_ediv_of_nonneg hx;have h2:0<=x/y:=Int.ediv_nonneg hx (by omega);have h3:x/y<=x:=Int.ediv_le_self _ hx;simp only[bB,dL,if_true,h0,if_false,ca,h1,hJ (Lr hk h2 h3)]
theorem Sd{k k':IntKind}{x y:Int}(hk:wM k x)(hx:0<=x)(hy:0<=y):bB .shr k k' x y=some (.int k (x/2^y.toNat)):=by
 have h0:¬y<0:=by omega
 simp only[bB,h0,if_false,uH];have hp:∀n:Nat,(0:Int)<2^n:=fun n=>Int.pow_pos (by omega)
 rw[Int.fdiv_eq_ediv_of_nonneg _ (Int.le_of_lt (hp _))]
 by_cases h:y.toNat<=k.bits
 ·rw[Nat.min_eq_left h]
 ·have h':k.bits<=y.toNat:=by omega
  rw[Nat.min_eq_right h'];have hlt:=N9 hk;have e1:x/2^k.bits=0:=Int.ediv_eq_zero_of_lt hx hlt
  have e2:x/2^y.toNat=0:=by
   refine Int.ediv_eq_zero_of_lt hx (Int.lt_of_lt_of_le hlt ?_)
   exact_mod_cast Nat.pow_le_pow_right (by omega) h'
  rw[e1,e2]
theorem Sc{k k':IntKind}{x y:Int}{n:Nat}(hn:y=(n:Nat))(hb:n<=k.bits)(h:wM k (x*2^n)):bB .shl k k' x y=some (.int k (x*2^n)):=by
 subst hn;have h0:¬((n:Nat):Int)<0:=by omega
 simp only[bB,h0,if_false,uH,Int.toNat_natCast,Nat.min_eq_left hb,ca,hJ h]
theorem RJ{k:IntKind}{x y:Int}(n:Nat)(hy:y=2^n-1)(hn:n<k.bits):bB .and k k x y=some (.int k (x%2^n)):=by
 have hp:(0:Int)<2^n:=Int.pow_pos (by omega);have hle:(2:Int)^n<=2^k.bits:=by exact_mod_cast Nat.pow_le_pow_right (by omega) (by omega)
 have hle1:(2:Int)^n<=2^(k.bits-1):=by exact_mod_cast Nat.pow_le_pow_right (by omega) (by omega)
 have hm0:=Int.emod_nonneg x (show(2:Int)^n≠0 by omega);have hm1:=Int.emod_lt_of_pos x hp
 have key:(((BitVec.ofInt k.bits x &&& BitVec.ofInt k.bits y).toNat:Nat):Int)=x%2^n:=by
  rw[BitVec.toNat_and,BitVec.toNat_ofInt,BitVec.toNat_ofInt]
  have e1:(y%((2^k.bits:Nat):Int)).toNat=2^n-1:=by
   have e:y%((2^k.bits:Nat):Int)=y:=Int.emod_eq_of_lt (by omega) (by push_cast;omega);rw[e,hy];have:((2^n:Nat):Int)=2^n:=by push_cast;rfl
   omega
  rw[e1,Nat.and_two_pow_sub_one_eq_mod]
  push_cast
  rw[Int.toNat_of_nonneg (Int.emod_nonneg _ (by have:(0:Int)<2^k.bits:=Int.pow_pos (by omega);omega))];exact Int.emod_emod_of_dvd x ⟨2^(k.bits-n),by rw[<-Int.pow_add];congr 1;omega⟩
 simp only[bB,dL,if_true,ca];rw[key,hJ (Fc hm0 (by omega))]
def m9(k:IntKind)(x y:Int):Int:=k.wrap ((BitVec.ofInt k.bits x ^^^ BitVec.ofInt k.bits y).toNat)
def BW(k:IntKind)(x y:Int):Int:=k.wrap ((BitVec.ofInt k.bits x ||| BitVec.ofInt k.bits y).toNat)
def H8(k:IntKind)(x y:Int):Int:=k.wrap ((BitVec.ofInt k.bits x &&& BitVec.ofInt k.bits y).toNat)
def EM(op:BinOp)(x y:Int):Option Prop:=match op with
 | .eql=>some (x=y)
 | .neq=>some (x≠y)
 | .lss=>some (x<y)
 | .leq=>some (x<=y)
 | .gtr=>some (y<x)
 | .geq=>some (y<=x)
 | _ => .none
theorem Dq{op:BinOp}{k:IntKind}{x y:Int}{p:Prop}(hp:EM op x y=some p):(p->bB op k k x y=some (.bool true))/\(¬p->bB op k k x y=some (.bool false)):=by
 cases op<;>simp only[EM]at hp<;>first|(cases hp;done)|(cases hp;constructor<;>intro h<;>simp_all [bB,dL])
theorem Cp{t t':TypeId}{a b:Operand}{op:BinOp}{k:IntKind}{x y:Int}{p:Prop}(ho:o.op = .binOp op t a b t')(hw:aw ops (rg al) o=some true)(hd:o.dst=some d)(hlt:Nat.blt d nt=true)(ha:ag (rg al) a = .one (.int k x))(hb:ag (rg al) b = .one (.int k y))(hp:EM op x y=some p)
 (h1:p->SK P ops nt L l ((d,.one (.bool true))::al) hs fun bs=>K (quiet::bs)) (h2:¬p->SK P ops nt L l ((d,.one (.bool false))::al) hs fun bs=>K (quiet::bs)):SK P ops nt L (o::l) al hs K:=by
 by_cases h:p
 ·exact SK.lift hd hlt (fun _=>az.bin hw ho ha hb ((Dq hp).1 h)) (h1 h)
 ·exact SK.lift hd hlt (fun _=>az.bin hw ho ha hb ((Dq hp).2 h)) (h2 h)
def cG(c:XC)(i off n:Nat):Prop:=(n=0/\(c = .nils\/∃o cap,c = .slice i o 0 (.exact cap)))\/∃cap,n<=cap/\c = .slice i off n (.exact cap)
theorem cG.nil{i off:Nat}:cG .nils i off 0 := .inl ⟨rfl,.inl rfl⟩
theorem cG.mk{i off n cap:Nat}(h:n<=cap):cG (.slice i off n (.exact cap)) i off n := .inr ⟨cap,h,rfl⟩
theorem cG.same{c:XC}{i off n i' off' n':Nat}(h:cG c i off n)(h':cG c i' off' n'):n=n'/\(n=0\/(off=off'/\i=i')):=by
 rcases h with⟨rfl,rfl|⟨o,cap,rfl⟩⟩|⟨cap,h1,rfl⟩
 ·rcases h' with⟨rfl,_⟩|⟨cap,h1,e⟩
  ·exact⟨rfl,.inl rfl⟩
  ·cases e
 ·rcases h' with⟨rfl,_⟩|⟨cap',h1,e⟩
  ·exact⟨rfl,.inl rfl⟩
  ·cases e;exact⟨rfl,.inl rfl⟩
 ·rcases h' with⟨rfl,e|⟨o,cap,e⟩⟩|⟨cap',h1,e⟩
  ·cases e
  ·cases e;exact⟨rfl,.inl rfl⟩
  ·cases e;exact⟨rfl,.inr ⟨rfl,rfl⟩⟩
theorem cG.ok{c:XC}{i off n m:Nat}(h:cG c i off n)(hi:i<m):c.ok m:=by
 rcases h with⟨_,rfl|⟨o,cap,rfl⟩⟩|⟨cap,_,rfl⟩
 ·trivial
 ·exact hi
 ·exact hi
theorem cG.aB{c:XC}{i off n:Nat}(h:cG c i off n)(τ : Nat->Nat):cG (c.aB τ) (τ i) off n:=by
 rcases h with⟨rfl,rfl|⟨o,cap,rfl⟩⟩|⟨cap,h1,rfl⟩
 ·exact .inl ⟨rfl,.inl rfl⟩
 ·exact .inl ⟨rfl,.inr ⟨o,cap,rfl⟩⟩
 ·exact .inr ⟨cap,h1,rfl⟩
theorem cG.id{c:XC}{i off n:Nat}(h:cG c i off n){τ : Nat->Nat}(hi : τ i=i):c.aB τ = c:=by
 rcases h with⟨rfl,rfl|⟨o,cap,rfl⟩⟩|⟨cap,h1,rfl⟩
 ·rfl
 ·simp only[XC.aB,hi]
 ·simp only[XC.aB,hi]
theorem ae.sl{τ : Nat->Nat}{al:aL}{t:Nat}{c:XC}{r:aL}{i off n:Nat}(h:rg al t = .one c)(hs:cG c i off n)(hi : τ i=i)(hr:ae τ al r):ae τ al ((t,.one c)::r):=
 .cons (by simp only[XV.aB,hs.id hi];exact h) hr
theorem ae.jD{τ : Nat->Nat}{al:aL}{t k k' n n' sz:Nat}{r:aL}(h:rg al t=ee k' n' sz)(hk : τ k=k')(hn:n'=n)(hr:ae τ al r):ae τ al ((t,ee k n sz)::r):=
 .cons (by rw[dz,hk,<-hn];exact h) hr
theorem Mj{a:Operand}{t elem:TypeId}(ho:o.op = .call ⟨.builtin .len,#[a],#[t]⟩)(hw:aw ops (rg al) o=some true)(hd:o.dst=some d)(hlt:Nat.blt d nt=true){c:XC}(ha:ag (rg al) a = .one c)[hu:aG P t (.slice elem)]{i off n:Nat}(hc:cG c i off n)
 (hk:SK P ops nt L l ((d,.one (.int .i64 (n:Nat)))::al) hs fun bs=>K (quiet::bs)):SK P ops nt L (o::l) al hs K:=by
 rcases hc with⟨rfl,rfl|⟨o,cap,rfl⟩⟩|⟨cap,_,rfl⟩
 all_goals exact SK.lift hd hlt (fun _=>az.pure hw (by rw[ho];simp[aR,dh,ha,sN,hu.out])) hk
theorem Ml{a:Operand}{t elem:TypeId}(ho:o.op = .call ⟨.builtin .len,#[a],#[t]⟩)(hw:aw ops (rg al) o=some true)(hd:o.dst=some d)(hlt:Nat.blt d nt=true){i n sz:Nat}(ha:ag (rg al) a=ee i n sz)[hu:aG P t (.slice elem)]
 (hk:SK P ops nt L l ((d,.one (.int .i64 (n:Nat)))::al) hs fun bs=>K (quiet::bs)):SK P ops nt L (o::l) al hs K:=by
 unfold ee eY at ha;split at ha
 ·rename_i h;subst h;exact SK.lift hd hlt (fun _=>az.pure hw (by rw[ho];simp[aR,dh,ha,sN,hu.out])) hk
 ·exact SK.lift hd hlt (fun _=>az.pure hw (by rw[ho];simp[aR,dh,ha,sN,hu.out])) hk
theorem Mh{t:TypeId}{a b:Operand}{elem:TypeId}{s:Nat}(ho:o.op = .indexAddr t a b)(hw:aw ops (rg al) o=some true)(hd:o.dst=some d)(hlt:Nat.blt d nt=true){c:XC}(ha:ag (rg al) a = .one c){k:IntKind}{z:Int}(hb:ag (rg al) b = .one (.int k z))[hu:aG P t (.slice elem)][hs':aF P elem s]{i off n:Nat}(hc:cG c i off n)(hz:0<=z/\z<n)
 {p:Nat}(hp:off+z.toNat*s=p) (hk:SK P ops nt L l ((d,.one (.ptr i p))::al) hs fun bs=>K (quiet::bs)):SK P ops nt L (o::l) al hs K:=by
 rcases hc with⟨rfl,_⟩|⟨cap,_,rfl⟩
 ·omega
 ·exact SK.lift hd hlt (fun _=>az.pure hw (by rw[ho];simp only[aR,b6,ha,hb,hu.out,hs'.out,if_pos hz,Option.map_some,hp])) hk
def sJ(x:Option XV)(dflt:Int):Option Int:=match x with
 | .none=>some dflt
 | some (.one (.int _ z))=>some z
 | _ => .none
theorem qH{x:Option XV}{y p:Nat}(h:sJ x 0=some (p:Int))(hle:p<=y):jr x 0 y=some p:=by
 unfold sJ at h;unfold jr;split at h
 ·injection h with h
  have:p=0:=by omega
  rw[this]
 ·rename_i k z;cases h;simp only[];rw[if_pos ⟨by omega,by omega⟩];simp
 ·cases h
theorem qG{x:Option XV}{n y q:Nat}(h:sJ x (n:Nat)=some (q:Int))(hle:q<=y):jr x n y=some q:=by
 unfold sJ at h;unfold jr;split at h
 ·injection h with h
  have:q=n:=by omega
  rw[this]
 ·rename_i k z;cases h;simp only[];rw[if_pos ⟨by omega,by omega⟩];simp
 ·cases h
theorem O5{t e:TypeId}{a:Operand}{lo hi:Option Operand}{s:Nat}(ho:o.op = .slice t a lo hi .none)[hu:aG P t (.slice e)][hs':aF P e s](hw:aw ops (rg al) o=some true)(hd:o.dst=some d)(hlt:Nat.blt d nt=true){i off n p q:Nat}{c:XC}(ha:ag (rg al) a = .one c)(hc:cG c i off n)
 {z w:Int}(hl:sJ (lo.map (ag (rg al))) 0=some z) (hh:sJ (hi.map (ag (rg al))) (n:Nat)=some w) (hp:z=(p:Nat)) (hq:w=(q:Nat)) (hb:p<=q/\q<=n) (hk:∀c',cG c' i (off+p*s) (q-p)->SK P ops nt L l ((d,.one c')::al) hs fun bs=>K (quiet::bs)):SK P ops nt L (o::l) al hs K:=by
 subst hp hq
 rcases hc with⟨rfl,rfl|⟨o',cap,rfl⟩⟩|⟨cap,hcap,rfl⟩
 ·obtain⟨rfl,rfl⟩:p=0/\q=0:=by omega
  have e1:=qH (y:=0) hl (by omega);have e2:=qG (y:=0) hh (by omega);exact SK.lift hd hlt (x := .one .nils) (fun _=>az.pure hw (by rw[ho];simp only[aR,mN,hu.out,ha,dN,Option.map_none,e1,e2,hs'.out])) (hk _ (.inl ⟨rfl,.inl rfl⟩))
 ·obtain⟨rfl,rfl⟩:p=0/\q=0:=by omega
  have e1:=qH (y:=0) hl (by omega);have e2:=qG (y:=cap) hh (by omega);refine SK.lift hd hlt (x := .one (.slice i (if cap=0 then o' else o'+0*s) (0-0) (.exact (cap-0)))) (fun _=>az.pure hw (by rw[ho];simp only[aR,mN,hu.out,ha,dN,Option.map_none,e1,e2,hs'.out])) (hk _ (.inl ⟨rfl,.inr ⟨_,_,rfl⟩⟩))
 ·have e1:=qH (y:=q) hl (by omega);have e2:=qG (y:=cap) hh (by omega);refine SK.lift hd hlt (x := .one (.slice i (if cap=p then off else off+p*s) (q-p) (.exact (cap-p)))) (fun _=>az.pure hw (by rw[ho];simp only[aR,mN,hu.out,ha,dN,Option.map_none,e1,e2,hs'.out])) (hk _ ?_)
  by_cases hm:cap=p
  ·have hz:q-p=0:=by omega
   rw[hz];exact .inl ⟨rfl,.inr ⟨_,_,rfl⟩⟩
  ·rw[if_neg hm];exact .inr ⟨cap-p,by omega,rfl⟩
theorem OW{zs:List XC}{t e:TypeId}{y:Operand}(ho:o.op = .buildSlice t 1 #[(0,y)])[hu:aG P t (.slice e)][hz:aI P e zs][hse:aF P e 1](hzl:zs.length=1)(hw:aw ops (rg al) o=some true)(hd:o.dst=some d)(hlt:Nat.blt d nt=true){c:XC}(hy:cE (ag (rg al) y)=some [c]){n:Nat}(hn:hs.length=n)(hb:Nat.blt n Mem.bound=true){hs':ah}(hh:hs++[.cells [c] e false false]=hs')
 (hk:SK P ops nt L l ((d,.one (.slice n 0 1 (.exact 1)))::al) hs' fun bs=>K (⟨true,.none,[n]⟩::bs)):SK P ops nt L (o::l) al hs K:=by
 subst hn hh;refine SK.lift hd hlt (fun _=>?_) hk;intro m hm;obtain⟨m',h1,h2,h3⟩:=hm.push (.cells [c] e false false) (by simpa [Nat.blt_eq]using hb);refine⟨m',?_,h2,h3⟩;unfold iL;rw[hw];refine bT (by rw[ho];rfl) (by rw[ho];rfl) (by rw[ho];rfl) ?_;rw[ho]
 have hf:gv (fun i=>some (i*1,1)) (eg zs (1*1)) [(0,ag (rg al) y)]=some [c]:=by
  simp[gv,hy,eg]
 simp only[bU,d8,c9,hu.out,hse.out,hz.out,List.map_cons,List.map_nil,hzl,h1,hm.n,hf];simp
theorem F5{t:TypeId}{parts:Array (Nat×Operand)}(ho:o.op = .build t parts){zs:List XC}[hz:aI P t zs]{pl:List (Nat×Nat)}[hp:cC P t pl](hw:aw ops (rg al) o=some true)(hd:o.dst=some d)(hlt:Nat.blt d nt=true)
 {out:List XC}(hc:gv (fun i=>pl[i]?) zs (parts.toList.map fun p=>(p.1,ag (rg al) p.2))=some out)
 (hk:SK P ops nt L l ((d,.agg out)::al) hs fun bs=>K (quiet::bs)):SK P ops nt L (o::l) al hs K:=by
 obtain⟨fs,h1,h2⟩:=hp.out;exact SK.lift hd hlt (fun _=>az.pure hw (by rw[ho];simp only[aR,oe,hz.out,h1,h2,hc,Option.map_some])) hk
theorem Cn{t t1 e:TypeId}{sz m:Nat}{a b:Operand}(ho:o.op = .call ⟨.builtin .append,#[a,b],#[t,t1]⟩){zs:List XC}[hu:aG P t (.slice e)][hz:aI P e zs][hI:TI P e sz](hw:aw ops (rg al) o=some true)(hd:o.dst=some d)(hlt:Nat.blt d nt=true)
 (hsz:zs.length=sz/\0<sz) {i n:Nat} {cs ds:List XC}(ha:ag (rg al) a=ee i n sz) (hi:hs[i]? = some (bz e cs)) (hn:cs.length=n*sz) (hsrc:∀M,aV M hs->jv P t1 sz (ag (rg al) b) M=some (m,ds)) (hm:0<m/\n+m<=2000000000)
 {N:Nat}(hN:hs.length=N) (hb:Nat.blt N Mem.bound=true) {hs':ah}(hh:hs.set i .dead++[.cells (cs++ds) e true false]=hs')
 (hk:SK P ops nt L l ((d,.one (.slice N 0 (n+m) (.toEnd sz)))::al) hs' fun bs=>K (⟨true,.none,[i,N]⟩::bs)):SK P ops nt L (o::l) al hs K:=by
 subst hN hh;obtain⟨ti,hti,rfl,hby⟩:=hI.get;obtain⟨z1,z2⟩:=hsz;have hbytes:(n+m)*ti.bytes<=140737488355328:=Nat.le_trans (Nat.mul_le_mul_left _ hby) (by omega);have hsmall:hs.length<Mem.bound:=by simpa [Nat.blt_eq]using hb
 refine SK.lift hd hlt (fun _=>?_) hk;intro M hM;have hx:=hsrc M hM
 by_cases h0:n=0
 ·subst h0;have hcs:cs = []:=List.length_eq_zero_iff.1 (by simpa using hn);subst hcs
  have hdead:hs.set i .dead=hs:=by
   apply List.ext_getElem?;intro j
   by_cases hj:i=j
   ·subst hj;rw[hi,List.getElem?_set_self (List.getElem?_eq_some_iff.1 hi).1];rfl
   ·rw[List.getElem?_set_ne hj]
  rw[hdead];obtain⟨m',h1,h2,h3⟩:=hM.push (.cells ds e true false) hsmall;refine⟨m',?_,by simpa using h2,fun j hj=>h3 j (by simp at hj ⊢;exact hj.2)⟩;unfold iL;rw[hw];refine bT (by rw[ho];rfl) (by rw[ho];rfl) (by rw[ho];rfl) ?_;rw[ho];have hm0:¬m=0:=by omega
  have hb1:m<=9223372036854775807/\m*ti.bytes<=140737488355328:=⟨by omega,by simpa using hbytes⟩
  have ha':ag (rg al) a = .one .nils:=ha;simp only[bU,gA,c9,hu.out,hti,hz.out,ha',hx,hm0,if_false,List.getElem?_toArray,List.getElem?_cons_zero,List.getElem?_cons_succ];rw[if_pos ⟨z1,z2⟩];simp only[hb1,and_self,if_true,h1,hM.n,Nat.zero_add]
 ·have hcs:cs≠[]:=fun h=>by
   subst h;have:n*ti.size=0:=by simpa using hn.symm
   rcases Nat.mul_eq_zero.1 this with h|h<;>omega
  rw[bG hcs]at hi;rw[dp h0]at ha;have hput:=hM.put hi .dead;obtain⟨m',h1,h2,h3⟩:=hput.push (.cells (cs++ds) e true false) (by rw[List.length_set];exact hsmall);refine⟨m',?_,h2,fun j hj=>?_⟩
  ·unfold iL;rw[hw];refine bT (by rw[ho];rfl) (by rw[ho];rfl) (by rw[ho];rfl) ?_;rw[ho];have hm0:¬m=0:=by omega
   have hb1:True/\n+m<=9223372036854775807/\(n+m)*ti.bytes<=140737488355328:=⟨trivial,by omega,hbytes⟩
   simp only[bU,gA,c9,hu.out,hti,hz.out,ha,hx,hm0,if_false,List.getElem?_toArray,List.getElem?_cons_zero,List.getElem?_cons_succ];rw[if_pos ⟨z1,z2⟩];simp only[hM.at hi];rw[if_pos hb1,if_pos ⟨trivial,hn,trivial,trivial⟩];simp only[h1,hM.n]
  ·simp only[List.mem_cons,List.not_mem_nil,or_false,not_or]at hj;rw[h3 j (by rw[List.length_set];simpa using hj.2),tf j (by simpa using hj.1)]
end Go.Xm
namespace Go.Xm
variable [av]
variable {P:Program}
theorem af.view{ls:List Nat}{HS hs:ah}(nd:Nd ls hs)(ho:af (nth ls) HS ls hs)(hk:aq hs.length hs):View (nth ls) HS hs:=by
 obtain⟨hlen,hobj⟩:=ho.at
 refine⟨fun j hj=>?_,fun i j a b hi hj ha hb hij=>nd.inj hlen i j a b hi hj ha hb hij,fun j o hj=>hk.at o (List.mem_of_getElem? hj),fun j o hj=>(hobj j o hj).2⟩;exact(hobj j _ (List.getElem?_eq_getElem hj)).1
inductive gB(n:Nat):List XV->Prop where
 | nil:gB n []
 | flat {v:XV} {l:List XV} [b7 v]:gB n l->gB n (v::l)
 | cons {v:XV} {l:List XV}:v.br n->gB n l->gB n (v::l)
theorem gB.at{n:Nat}{l:List XV}(h:gB n l):∀x∈l,x.br n:=by
 induction h with
 | nil=>intro o h;cases h
 | @flat o hs inst _ ih=>
   intro x hx
   rcases List.mem_cons.1 hx with rfl|hx
   ·exact inst.ok n
   ·exact ih x hx
 | cons h1 _ ih=>
   intro x hx
   rcases List.mem_cons.1 hx with rfl|hx
   ·exact h1
   ·exact ih x hx
inductive eL(τ : Nat->Nat):List XV->List XV->Prop where
 | nil:eL τ [] []
 | flat {v:XV} {l m:List XV} [b7 v]:eL τ l m->eL τ (v::l) (v::m)
 | cons {v w:XV} {l m:List XV}:v.aB τ = w->eL τ l m->eL τ (v::l) (w::m)
theorem eL.eq{τ : Nat->Nat}{l m:List XV}(h:eL τ l m):l.map (·.aB τ)=m:=by
 induction h with
 | nil=>rfl
 | @flat v l m inst _ ih=>simp only[List.map_cons,ih,inst.aB]
 | cons h _ ih=>simp only[List.map_cons,ih,h]
inductive k9(τ : Nat->Nat)(HS:ah):List Nat->ah->Prop where
 | nil:k9 τ HS [] []
 | flat {i:Nat} {o:aj} {l:List Nat} {hs:ah} [b9 o]:HS[i]? = some o->k9 τ HS l hs->k9 τ HS (i::l) (o::hs)
 | cons {i:Nat} {o:aj} {l:List Nat} {hs:ah}:HS[i]? = some (o.aB τ)->k9 τ HS l hs->k9 τ HS (i::l) (o::hs)
theorem k9.via{τ : Nat->Nat}{HS:ah}{l:List Nat}{hs:ah}(h:k9 τ HS l hs):af τ HS l hs:=by
 induction h with
 | nil=>exact .nil
 | flat h1 _ ih=>exact .flat h1 ih
 | cons h1 _ ih=>exact .cons h1 ih
theorem k9.at{τ : Nat->Nat}{HS:ah}{l:List Nat}{hs:ah}(h:k9 τ HS l hs):∀(j:Nat) (o:aj),hs[j]? = some o->HS[nth l j]? = some (o.aB τ):=by
 induction h with
 | nil=>intro j o h;simp at h
 | @flat i o l hs inst h1 _ ih=>
   intro j o' hj
   cases j with
   | zero=>simp at hj;subst hj;rw[inst.aB];exact h1
   | succ j=>exact ih j o' (by simpa using hj)
 | cons h1 _ ih=>
   intro j o' hj
   cases j with
   | zero=>simp at hj;subst hj;exact h1
   | succ j=>exact ih j o' (by simpa using hj)
theorem fV{f:FuncId}{args0 args:List XV}{hs0 HS:ah}{v v':XV}(ls:List Nat)(hc:bm P f args0 hs0 v hs0)(nd:ls.Nodup)(ho:k9 (nth ls) HS ls hs0)(hk:aq hs0.length hs0)(ha:gB hs0.length args0)(e1:eL (nth ls) args0 args)(hv:v.br hs0.length)(e2:v.aB (nth ls)=v')(hb:Nat.blt HS.length Mem.bound=true)(hb0:Nat.blt hs0.length Mem.bound=true) :
 aA.Sound P ⟨f,args,HS,v',HS,[]⟩:=by
 obtain⟨hlen,_⟩:=ho.via.at
 have hat:=ho.at
 have kc:∀c:XC,c.ok hs0.length->c.aB (beyond (nth ls) hs0.length HS.length)=c.aB (nth ls):=by
  intro c
  induction c with
  | ptr i off=>exact fun h=>by simp only[XC.aB,beyond];rw[if_pos (show i<hs0.length from h)]
  | slice i off len cap=>exact fun h=>by simp only[XC.aB,beyond];rw[if_pos (show i<hs0.length from h)]
  | map i=>exact fun h=>by simp only[XC.aB,beyond];rw[if_pos (show i<hs0.length from h)]
  | lsl g k off len fl cut=>exact fun h=>by simp only[XC.aB,beyond];rw[if_pos (show g<hs0.length from h)]
  | lpt g k off=>exact fun h=>by simp only[XC.aB,beyond];rw[if_pos (show g<hs0.length from h)]
  | bind g c ih1 ih2=>exact fun h=>by simp only[XC.aB,ih1 h.1,ih2 h.2]
  | _=>intro _;rfl
 have kcs:∀cs:List XC,(∀c∈cs,c.ok hs0.length)->cs.map (·.aB (beyond (nth ls) hs0.length HS.length))=cs.map (·.aB (nth ls)):=fun cs h=>List.map_congr_left fun c hc=>kc c (h c hc)
 have k1:∀x:X1,x.ok hs0.length->x.aB (beyond (nth ls) hs0.length HS.length)=x.aB (nth ls):=fun x h=>by
  cases x with
  | one c=>simp only[X1.aB,kc c h]
  | agg cs=>simp only[X1.aB,kcs cs h]
 have kv:∀x:XV,x.br hs0.length->x.aB (beyond (nth ls) hs0.length HS.length)=x.aB (nth ls):=fun x h=>by
  cases x with
  | undef=>rfl
  | one c=>simp only[XV.aB,kc c h]
  | agg cs=>simp only[XV.aB,kcs cs h]
  | tup xs=>simp only[XV.aB];rw[List.map_congr_left fun c hc=>k1 c (h c hc)]
 have ko:∀x:aj,x.br hs0.length->x.aB (beyond (nth ls) hs0.length HS.length)=x.aB (nth ls):=fun x h=>by
  cases x with
  | dead=>rfl
  | late L=>rfl
  | cells vs e a b=>simp only[aj.aB,kcs vs h]
  | map es=>simp only[aj.aB];rw[List.map_congr_left fun p hp=>by rw[k1 _ (h p hp).1,k1 _ (h p hp).2]]
 refine sY hc (Nat.le_refl _) (ho.via.view (.inl nd) hk) ha.at e1.eq ((kv v hv).trans e2) ⟨by simp,fun j o h=>?_,fun i hi _=>rfl⟩ (fun j o h hl _=>⟨o,h,hl⟩) (fun i hi _=>rfl) hb hb0;have hj:j<hs0.length:=(List.getElem?_eq_some_iff.1 h).1;rw[ko o (hk.at o (List.mem_of_getElem? h)),show beyond (nth ls) hs0.length HS.length j=nth ls j from if_pos hj];exact hat j o h
structure RO(o:aj)(k:IntKind)(l:List Int):Prop where
 get:0<l.length->∃e opn ro,o = .cells (il k l) e opn ro
 flat:b9 o
theorem RO.of(k:IntKind)(l:List Int)(e:TypeId)(opn ro:Bool):RO (.cells (il k l) e opn ro) k l:=⟨fun _=>⟨e,opn,ro,rfl⟩,inferInstance⟩
def bC(HS:ah):List Nat->ah->ah
 | i::ls,o::os=>bC (HS.set i o) ls os
 | [],os=>HS++os
 | _::_,[]=>HS
theorem uN:∀(ls:List Nat) (HS os:ah),ls.length<=os.length->(bC HS ls os).length=HS.length+(os.length-ls.length)
 | [],HS,os,_=>by simp[bC]
 | i::ls,HS,o::os,h=>by
   simp only[bC,List.length_cons]at h ⊢;rw[uN ls _ os (by omega),List.length_set];omega
 | _::_,_,[],h=>by simp at h
theorem lM:∀(ls:List Nat) (HS os:ah) (i:Nat),i<HS.length->i∉ls->(bC HS ls os)[i]? = HS[i]?
 | [],HS,os,i,hi,_=>by simp only[bC];exact List.getElem?_append_left hi
 | k::ls,HS,o::os,i,hi,h=>by
   simp only[List.mem_cons,not_or]at h;simp only[bC];rw[lM ls _ os i (by rw[List.length_set];exact hi) h.2,List.getElem?_set_ne (Ne.symm h.1)]
 | _::_,_,[],i,hi,_=>rfl
theorem Ay:∀(ls:List Nat) (HS os:ah) (j:Nat),ls.length<=j->j<os.length->(bC HS ls os)[HS.length+(j-ls.length)]? = os[j]?
 | [],HS,os,j,_,hj=>by
   simp only[bC,List.length_nil,Nat.sub_zero];rw[List.getElem?_append_right (by omega)];congr 1;omega
 | k :: ls,HS,o::os,j,h,hj=>by
   cases j with
   | zero=>simp at h
   | succ j=>
     simp only[List.length_cons]at h hj;have:=Ay ls (HS.set k o) os j (by omega) (by omega);rw[List.length_set]at this;simp only[bC,List.length_cons,List.getElem?_cons_succ];rw[<-this];congr 1;omega
 | _::_,_,[],j,_,hj=>by simp at hj
theorem DR:∀(ls:List Nat) (HS os:ah),ls.Nodup->(∀i∈ls,i<HS.length)->∀(j:Nat),j<ls.length->j<os.length->(bC HS ls os)[nth ls j]? = os[j]?
 | [],_,_,_,_,j,hj,_=>by simp at hj
 | k :: ls,HS,o::os,nd,hi,j,hj,ho=>by
   have hk:k∉ls:=(List.nodup_cons.1 nd).1;have nd':=(List.nodup_cons.1 nd).2;have hi':∀i∈ls,i<(HS.set k o).length:=fun i h=>by rw[List.length_set];exact hi i (List.mem_cons_of_mem _ h)
   simp only[bC]
   cases j with
   | zero=>
     show(bC (HS.set k o) ls os)[k]? = some o;rw[lM ls _ os k (by rw[List.length_set];exact hi k (List.mem_cons_self ..)) hk,List.getElem?_set_self (hi k (List.mem_cons_self ..))]
   | succ j=>
     simp only[List.length_cons]at hj ho;exact DR ls _ os nd' hi' j (by omega) (by omega)
 | _::_,_,[],_,_,j,_,ho=>by simp at ho
inductive dS(τ : Nat->Nat):ah->ah->Prop where
 | nil:dS τ [] []
 | flat {o:aj} {l m:ah} [b9 o]:dS τ l m->dS τ (o::l) (o::m)
 | cons {o w:aj} {l m:ah}:o.aB τ = w->dS τ l m->dS τ (o::l) (w::m)
theorem dS.eq{τ : Nat->Nat}{l m:ah}(h:dS τ l m):l.map (·.aB τ)=m:=by
 induction h with
 | nil=>rfl
 | @flat v l m inst _ ih=>simp only[List.map_cons,ih,inst.aB]
 | cons h _ ih=>simp only[List.map_cons,ih,h]
def fM:ah->ah->Bool
 | _,[]=>true
 | o0::hs0,o::hs=>(o0.live||!o.live||o.own)&&fM hs0 hs
 | [],o::hs=>(!o.live||o.own)&&fM [] hs
theorem yp:∀{hs0 hs:ah},fM hs0 hs=true->∀(j:Nat) (o:aj),hs[j]? = some o->o.live=true->o.own=false->∃o0,hs0[j]? = some o0/\o0.live=true
 | _,[],_,j,o,h,_,_=>by simp at h
 | o0::hs0,o::hs,hr,j,x,h,hl,ho=>by
   simp only[fM,Bool.and_eq_true]at hr
   cases j with
   | zero=>
     simp only[List.getElem?_cons_zero,Option.some.injEq]at h;subst h;refine⟨o0,rfl,?_⟩;rw[hl,ho]at hr;simpa using hr.1
   | succ j=>exact yp hr.2 j x (by simpa using h) hl ho
 | [],o::hs,hr,j,x,h,hl,ho=>by
   simp only[fM,Bool.and_eq_true]at hr
   cases j with
   | zero=>
     simp only[List.getElem?_cons_zero,Option.some.injEq]at h;subst h;rw[hl,ho]at hr;simp at hr
   | succ j=>
     obtain⟨o0,h1,_⟩:=yp hr.2 j x (by simpa using h) hl ho;simp at h1
theorem Bz{ls:List Nat}{N k:Nat}(j:Nat)(hj:j<ls.length+k):beyond (nth ls) ls.length N j=nth (ls++List.range' N k) j:=by
 unfold beyond nth
 by_cases h:j<ls.length
 ·rw[if_pos h,List.getD_eq_getElem?_getD,List.getD_eq_getElem?_getD,List.getElem?_append_left h]
 ·rw[if_neg h,List.getD_eq_getElem?_getD,List.getElem?_append_right (by omega),List.getElem?_range' (by omega)];simp
theorem bp{f:FuncId}{args0 args:List XV}{hs0 hs0' HS HS' os:ah}{v v':XV}(ls ws:List Nat)(k:Nat)(hc:bm P f args0 hs0 v hs0')(nd:ls.Nodup)(ho:af (nth ls) HS ls hs0)(hk:aq hs0.length hs0)(hk':aq hs0'.length hs0')(hn:ls.length+k=hs0'.length)(ha:gB hs0.length args0)(e1:eL (nth ls) args0 args)(hv:v.br hs0'.length)
 (e2:v.aB (nth (ls++List.range' HS.length k))=v') (hr:dS (nth (ls++List.range' HS.length k)) hs0' os) (hro:fM hs0 hs0'=true) (hb0:Nat.blt hs0.length Mem.bound=true) (hh:bC HS ls os=HS') (hb:Nat.blt HS'.length Mem.bound=true) (hws:ws=ls\/∀i,i<HS.length->i∉ws->HS'[i]? = HS[i]?) :
 aA.Sound P ⟨f,args,HS,v',HS',ws⟩:=by
 subst hh
 obtain⟨hlen,hobj⟩:=ho.at
 have eos:=hr.eq;have los:os.length=hs0'.length:=by rw[<-eos];simp
 have hin:∀i∈ls,i<HS.length:=by
  intro i hi;obtain⟨j,hj,rfl⟩:=List.mem_iff_getElem.1 hi;have:=(hobj j _ (List.getElem?_eq_getElem (by omega:j<hs0.length))).1;unfold nth at this;rwa [List.getD_eq_getElem?_getD,List.getElem?_eq_getElem hj]at this
 have kc:∀n (c:XC),c.ok n->n<=hs0'.length->c.aB (beyond (nth ls) hs0.length HS.length)=c.aB (nth (ls++List.range' HS.length k)):=by
  intro n c
  have e:∀i,i<n->n<=hs0'.length->beyond (nth ls) hs0.length HS.length i=nth (ls++List.range' HS.length k) i:=fun i hi hl=>by
   rw[hlen];exact Bz i (by omega)
  induction c with
  | ptr i off=>exact fun h hl=>by simp only[XC.aB,e i h hl]
  | slice i off len cap=>exact fun h hl=>by simp only[XC.aB,e i h hl]
  | map i=>exact fun h hl=>by simp only[XC.aB,e i h hl]
  | lsl g k off len fl cut=>exact fun h hl=>by simp only[XC.aB,e g h hl]
  | lpt g k off=>exact fun h hl=>by simp only[XC.aB,e g h hl]
  | bind g c ih1 ih2=>exact fun h hl=>by simp only[XC.aB,ih1 h.1 hl,ih2 h.2 hl]
  | _=>intro _ _;rfl
 have kcs:∀cs:List XC,(∀c∈cs,c.ok hs0'.length)->cs.map (·.aB (beyond (nth ls) hs0.length HS.length))=cs.map (·.aB (nth (ls++List.range' HS.length k))):=fun cs h=>List.map_congr_left fun c hc=>kc _ c (h c hc) (Nat.le_refl _)
 have k1:∀x:X1,x.ok hs0'.length->x.aB (beyond (nth ls) hs0.length HS.length)=x.aB (nth (ls++List.range' HS.length k)):=fun x h=>by
  cases x with
  | one c=>simp only[X1.aB,kc _ c h (Nat.le_refl _)]
  | agg cs=>simp only[X1.aB,kcs cs h]
 have kv:∀x:XV,x.br hs0'.length->x.aB (beyond (nth ls) hs0.length HS.length)=x.aB (nth (ls++List.range' HS.length k)):=fun x h=>by
  cases x with
  | undef=>rfl
  | one c=>simp only[XV.aB,kc _ c h (Nat.le_refl _)]
  | agg cs=>simp only[XV.aB,kcs cs h]
  | tup xs=>simp only[XV.aB];rw[List.map_congr_left fun c hc=>k1 c (h c hc)]
 have ko:∀x:aj,x.br hs0'.length->x.aB (beyond (nth ls) hs0.length HS.length)=x.aB (nth (ls++List.range' HS.length k)):=fun x h=>by
  cases x with
  | dead=>rfl
  | late L=>rfl
  | cells vs e a b=>simp only[aj.aB,kcs vs h]
  | map es=>simp only[aj.aB];rw[List.map_congr_left fun p hp=>by rw[k1 _ (h p hp).1,k1 _ (h p hp).2]]
 refine sY hc (by omega) (ho.view (.inl nd) hk) ha.at e1.eq ((kv v hv).trans e2) ⟨?_,fun j o hj=>?_,fun i hi hne=>?_⟩ (yp hro) (fun i hi hne=>?_) hb hb0
 ·rw[uN ls HS os (by omega)];omega
 ·have hjl:j<hs0'.length:=(List.getElem?_eq_some_iff.1 hj).1;have hoj:os[j]? = some (o.aB (nth (ls++List.range' HS.length k))):=by rw[<-eos,List.getElem?_map,hj];rfl
  rw[ko o (hk'.at o (List.mem_of_getElem? hj)),hlen];unfold beyond
  by_cases h:j<ls.length
  ·rw[if_pos h,DR ls HS os nd hin j h (by omega)];exact hoj
  ·rw[if_neg h,Ay ls HS os j (by omega) (by omega)];exact hoj
 ·refine lM ls HS os i hi fun hm=>?_
  obtain⟨j,hj,e⟩:=List.mem_iff_getElem.1 hm;refine hne j (by omega) ?_;unfold nth;rw[List.getD_eq_getElem?_getD,List.getElem?_eq_getElem hj];exact e
 ·rcases hws with e|h
  ·subst e;exact lM ws HS os i hi hne
  ·exact h i hi hne
theorem NA.of{c:XC}{i n:Nat}(h:NA c i n)(hn:∀cap,c = .slice i 0 n (.exact cap)->n<=cap):cG c i 0 n:=by
 rcases h with⟨rfl,rfl⟩|⟨cap,rfl⟩
 ·exact .nil
 ·exact .mk (hn cap rfl)
theorem cG.back{c:XC}{i off n:Nat}(h:cG c i off n):∃c0,cG c0 0 off n/\c0.aB (fun _=>i)=c:=by
 rcases h with⟨rfl,rfl|⟨o,cap,rfl⟩⟩|⟨cap,h1,rfl⟩
 ·exact⟨.nils,.nil,rfl⟩
 ·exact⟨.slice 0 o 0 (.exact cap),.inl ⟨rfl,.inr ⟨_,_,rfl⟩⟩,rfl⟩
 ·exact⟨.slice 0 off n (.exact cap),.inr ⟨_,h1,rfl⟩,rfl⟩
theorem cG.C_{c:XC}{i off n:Nat}(h:cG c i off n)(j:Nat)(τ : Nat->Nat)(ht : τ j=i):∃c0,cG c0 j off n/\c0.aB τ = c:=by
 subst ht
 rcases h with⟨rfl,rfl|⟨o,cap,rfl⟩⟩|⟨cap,h1,rfl⟩
 ·exact⟨.nils,.nil,rfl⟩
 ·exact⟨.slice j o 0 (.exact cap),.inl ⟨rfl,.inr ⟨_,_,rfl⟩⟩,rfl⟩
 ·exact⟨.slice j off n (.exact cap),.inr ⟨_,h1,rfl⟩,rfl⟩
theorem Ie{fn:Func}{n:Nat}{e:XE}{al:aL}{hs hs':ah}{v1 v:XV}(τl:List Nat)(he:e = .normal\/e = .ret)(hr:sE P fn al hs v1)(hv:v1=v.aB (nth τl))(hok:v.br hs'.length)(nd:Nd τl hs')(hid:(List.range n).all (fun j=>nth τl j==j)=true)(ho:af (nth τl) hs τl hs')(hk:aq hs'.length hs'):aE P fn n v hs' e al hs:=
 DD (nth τl) he hr hv hok (ho.view nd hk) fun j hj=>by
  have:=List.all_eq_true.1 hid j (List.mem_range.2 hj);simpa using this
variable {ops:Array Oper} {nt nI:Nat} {al:aL} {hs:ah} {o:Oper} {l:List Oper} {L:List aA} {K:List Ab->aL->ah->Prop} {d:Nat}
theorem GH(k:IntKind)(n:Nat):eg [.int k 0] n=il k (List.replicate n 0):=by
 unfold eg il;apply List.ext_getElem?;intro i
 by_cases h:i<n
 ·simp[h,Nat.mod_one]
 ·simp[h]
theorem O1{t e:TypeId}{a b:Operand}{k:IntKind}(ho:o.op = .makeSlice t a b)[hu:aG P t (.slice e)][hz:aI P e [.int k 0]][hI:TI P e 1](hw:aw ops (rg al) o=some true)(hd:o.dst=some d)(hlt:Nat.blt d nt=true){kl kc:IntKind}{x y:Int}(ha:ag (rg al) a = .one (.int kl x))(hb:ag (rg al) b = .one (.int kc y)){n:Nat}(hx:x=(n:Nat))(hy:y=(n:Nat))(hn:n<=2000000000)
 {N:Nat}(hN:hs.length=N) (hbd:Nat.blt N Mem.bound=true) {hs':ah}(hh:hs++[.cells (il k (List.replicate n 0)) e false false]=hs') (hk:SK P ops nt L l ((d,.one (.slice N 0 n (.exact n)))::al) hs' fun bs=>K (⟨true,.none,[N]⟩::bs)):SK P ops nt L (o::l) al hs K:=by
 subst hN hh hx hy;refine SK.lift hd hlt (fun _=>?_) hk;intro m hm;obtain⟨m',h1,h2,h3⟩:=hm.push (.cells (il k (List.replicate n 0)) e false false) (by simpa [Nat.blt_eq]using hbd);refine⟨m',?_,h2,h3⟩;unfold iL;rw[hw];refine bT (by rw[ho];rfl) (by rw[ho];rfl) (by rw[ho];rfl) ?_;rw[ho];obtain⟨ti,hti,hs1,hby⟩:=hI.get
 have hbb:(ti.bytes:Int)*(n:Nat)<=281474976710656:=by
  have:(ti.bytes:Int)*(n:Nat)<=65536*(n:Nat):=Int.mul_le_mul_of_nonneg_right (by omega) (by omega);omega
 simp only[bU,gH,c9,hu.out,ha,hb,hti,hz.out,hs1,Int.toNat_natCast,Nat.mul_one,GH,h1,hm.n];rw[if_pos ⟨by omega,by omega,by omega,hbb,by simp⟩]
theorem Mf{t e:TypeId}{y:Operand}{k:IntKind}(ho:o.op = .buildSlice t 1 #[(0,y)])[hu:aG P t (.slice e)][hz:aI P e [.int k 0]][hse:aF P e 1](hw:aw ops (rg al) o=some true)(hd:o.dst=some d)(hlt:Nat.blt d nt=true){z:Int}(hy:cE (ag (rg al) y)=some [.int k z]){n:Nat}(hn:hs.length=n)(hb:Nat.blt n Mem.bound=true){hs':ah}(hh:hs++[.cells (il k [z]) e false false]=hs')
 (hk:SK P ops nt L l ((d,.one (.slice n 0 1 (.exact 1)))::al) hs' fun bs=>K (⟨true,.none,[n]⟩::bs)):SK P ops nt L (o::l) al hs K:=
 OW ho rfl hw hd hlt hy hn hb hh hk
theorem Md{t e:TypeId}{k:IntKind}(ho:o.op = .buildSlice t 0 #[])[hu:aG P t (.slice e)][hz:aI P e [.int k 0]][hse:aF P e 1](hw:aw ops (rg al) o=some true)(hd:o.dst=some d)(hlt:Nat.blt d nt=true){n:Nat}(hn:hs.length=n)(hb:Nat.blt n Mem.bound=true){hs':ah}(hh:hs++[.cells (il k []) e false false]=hs')
 (hk:SK P ops nt L l ((d,.one (.slice n 0 0 (.exact 0)))::al) hs' fun bs=>K (⟨true,.none,[n]⟩::bs)):SK P ops nt L (o::l) al hs K:=by
 subst hn hh;refine SK.lift hd hlt (fun _=>?_) hk;intro m hm;obtain⟨m',h1,h2,h3⟩:=hm.push (.cells (il k []) e false false) (by simpa [Nat.blt_eq]using hb);refine⟨m',?_,h2,h3⟩;unfold iL;rw[hw];refine bT (by rw[ho];rfl) (by rw[ho];rfl) (by rw[ho];rfl) ?_;rw[ho]
 have hf:gv (fun i=>some (i*1,1)) (eg [.int k 0] (0*1)) []=some (il k []):=by
  simp[gv,eg,il]
 simp only[bU,d8,c9,hu.out,hse.out,hz.out,List.map_nil,h1,hm.n,hf];simp
theorem ic{t1 e:TypeId}[hu:aG P t1 (.slice e)]{x:XV}{j len sz:Nat}{cap:oV}{vs:List XC}{et:TypeId}{opn ro:Bool}(hx:x = .one (.slice j 0 len cap))(hj:hs[j]? = some (.cells vs et opn ro))(hl:vs.length=len*sz):∀M,aV M hs->jv P t1 sz x M=some (len,vs):=by
 intro M hM;subst hx;have:=hM.at hj
 by_cases h0:len=0
 ·subst h0;have:vs = []:=List.length_eq_zero_iff.1 (by simpa using hl);subst this;cases cap<;>simp only[jv,hu.out,if_true]
 ·cases cap<;>simp only[jv,hu.out,this,Nat.zero_add,List.drop_zero,h0,if_false]<;>rw[if_pos (by omega),List.take_of_length_le (by omega)]
theorem OT{t t1 e e1:TypeId}{a b:Operand}{k:IntKind}(ho:o.op = .call ⟨.builtin .append,#[a,b],#[t,t1]⟩)[hu:aG P t (.slice e)][hu1:aG P t1 (.slice e1)][hz:aI P e [.int k 0]][hI:TI P e 1](hw:aw ops (rg al) o=some true)(hd:o.dst=some d)(hlt:Nat.blt d nt=true)
 {i n j len:Nat} {cap:oV} {q r:List Int} {et:TypeId} {opn ro:Bool}(ha:ag (rg al) a=ee i n 1) (hi:hs[i]? = some (bz e (il k q))) (hb:ag (rg al) b = .one (.slice j 0 len cap)) (hj:hs[j]? = some (.cells (il k r) et opn ro)) (hn:q.length=n) (hr:r.length=len) (hm:0<len/\n+len<=2000000000)
 {N:Nat}(hN:hs.length=N) (hbd:Nat.blt N Mem.bound=true) {hs':ah}(hh:hs.set i .dead++[bz e (il k (q++r))]=hs')
 (hk:SK P ops nt L l ((d,ee N (n+len) 1)::al) hs' fun bs=>K (⟨true,.none,[i,N]⟩::bs)):SK P ops nt L (o::l) al hs K:=by
 have hne:il k (q++r)≠[]:=by
  intro h;have:(il k (q++r)).length=0:=by rw[h];rfl
  rw[bH,List.length_append]at this;omega
 rw[dp (by omega)]at hk;exact Cn ho hw hd hlt (sz:=1) ⟨rfl,by omega⟩ ha hi (by rw[bH];omega) (ic hb hj (by rw[bH];omega)) ⟨hm.1,by omega⟩ hN hbd (by rw[wL,<-bG hne];exact hh) hk
theorem yA{t1 e1:TypeId}[hu1:aG P t1 (.slice e1)]{x:XV}{i n:Nat}{k:IntKind}{r:List Int}{e:TypeId}(hx:x=ee i n 1)(hi:hs[i]? = some (bz e (il k r)))(hr:r.length=n):∀M,aV M hs->jv P t1 1 x M=some (n,il k r):=by
 cases r with
 | nil=>
   intro M _;subst hr;rw[hx];show jv P t1 1 (.one .nils) M=_;simp only[jv,hu1.out];rfl
 | cons a r=>exact ic (hx.trans (dp (by rw[<-hr];exact Nat.succ_ne_zero _))) hi (by rw[bH];omega)
theorem OX{t t1 e e1:TypeId}{a b:Operand}{k:IntKind}(ho:o.op = .call ⟨.builtin .copy,#[a,b],#[t,t1]⟩)[hu:aG P t (.slice e)][hu1:aG P t1 (.slice e1)][hse:aF P e 1](hw:aw ops (rg al) o=some true)(hd:o.dst=some d)(hlt:Nat.blt d nt=true)
 {j len:Nat} {cap:oV} {q r:List Int} {et:TypeId} {opn:Bool}(ha:ag (rg al) a = .one (.slice j 0 len cap)) (hj:hs[j]? = some (.cells (il k q) et opn false)) (hq:q.length=len) (hr:r.length=len) (hsrc:∀M,aV M hs->jv P t1 1 (ag (rg al) b) M=some (len,il k r))
 {hs':ah}(hh:hs.set j (.cells (il k r) et opn false)=hs') (hk:SK P ops nt L l ((d,.one (.int .i64 (len:Nat)))::al) hs' fun bs=>K (⟨true,.none,[j]⟩::bs)):SK P ops nt L (o::l) al hs K:=by
 subst hh;refine SK.lift hd hlt (fun _=>?_) hk;intro m hm;refine⟨m.put j (.cells (il k r) et opn false),?_,hm.put hj _,tf⟩;unfold iL;rw[hw];refine bT (by rw[ho];rfl) (by rw[ho];rfl) (by rw[ho];rfl) ?_;rw[ho];have ht:(il k r).take (len*1)=il k r:=List.take_of_length_le (by rw[bH];omega);have hdr:(il k q).drop (0+(il k r).length) = []:=List.drop_of_length_le (by rw[bH,bH];omega);have he:c9 P t=some e:=by simp only[c9,hu.out]
 show vp P t t1 (ag (rg al) a) (ag (rg al) b) m=_;unfold vp;rw[he,ha];simp only[hse.out,hsrc m hm,hm.at hj,show Nat.min len len=len from Nat.min_self len,ht,hdr];rw[if_pos (by rw[bH];omega)];simp
def kI(k:IntKind)(z:Int):X1 := .one (.int k z)
def vB(b:Bool):X1 := .one (.bool b)
theorem M9{kt:TypeId}{k:IntKind}[hu:aG P kt (.int k)]:pX P kt (kI k):=Ii
theorem uo{α γ : Type}{kc : α->X1}{vc : γ->X1}(hk:∀a,(kc a).shut=true)(hv:∀c,(vc c).shut=true)(M:List (α×γ)):b9 (.map (gD kc vc M)):=by
 refine⟨fun τ=>?_,fun n p hp=>?_⟩
 ·simp only[aj.aB,gD,List.map_map]
  congr 1
  refine List.map_congr_left fun p _=>?_
  simp only[Function.comp,X1.dG (hk p.1),X1.dG (hv p.2)]
 ·obtain⟨q,_,rfl⟩:=List.mem_map.1 hp;exact⟨X1.bh (hk q.1) n,X1.bh (hv q.2) n⟩
instance {k:IntKind} {M:List (Int×Bool)}:b9 (.map (gD (kI k) vB M)):=uo (fun _=>rfl) (fun _=>rfl) M
theorem O0(T:Nat->Int){t:TypeId}{x ix:Operand}(ho:o.op = .index t x ix)[hu:aG P t .string](hw:aw ops (rg al) o=some true)(hd:o.dst=some d)(hlt:Nat.blt d nt=true){s:List UInt8}(ha:ag (rg al) x = .one (.str s)){k:IntKind}{z:Int}(hb:ag (rg al) ix = .one (.int k z))(hz:0<=z/\z<256)(hT:∀i:Fin 256,s[i.val]?.map (fun b=>(b.toNat:Int))=some (T i.val))
 (hk:SK P ops nt L l ((d,.one (.int .u8 (T z.toNat)))::al) hs fun bs=>K (quiet::bs)):SK P ops nt L (o::l) al hs K:=by
 refine SK.lift hd hlt (fun _=>az.pure hw ?_) hk;have h:=hT ⟨z.toNat,by omega⟩;obtain⟨b,h1,h2⟩:=Option.map_eq_some_iff.1 h;rw[ho];simp only[aR,pS,hu.out,ha,hb,hz.1,if_true];simp only[]at h1;rw[h1,Option.map_some,h2]
theorem F8{t:TypeId}{a y:Operand}(ho:o.op = .store t a y)[ht:aF P t 1](hw:aw ops (rg al) o=some true)(hd:o.dst = .none){i off:Nat}(ha:ag (rg al) a = .one (.ptr i off)){k:IntKind}{z:Int}(hy:cE (ag (rg al) y)=some [.int k z]){q:List Int}{e:TypeId}(hi:hs[i]? = some (bz e (il k q)))(hle:off<q.length)
 {hs':ah}(hh:hs.set i (bz e (il k (q.set off z)))=hs') (hk:SK P ops nt L l al hs' fun bs=>K (⟨true,.none,[i]⟩::bs)):SK P ops nt L (o::l) al hs K:=by
 cases q with
 | nil=>exact absurd hle (Nat.not_lt_zero _)
 | cons b r=>
   have h:bz e (il k ((b::r).set off z)) = .cells (il k ((b::r).set off z)) e true false:=by cases off<;>rfl
   rw[h]at hh;exact ka ho hw hd ha hy (vs:=il k (b::r)) hi (by rw[bH];exact hle) (H9 ..) hh hk
theorem OS{t t1 e e1:TypeId}{a b:Operand}{k:IntKind}(ho:o.op = .call ⟨.builtin .append,#[a,b],#[t,t1]⟩)[hu:aG P t (.slice e)][hu1:aG P t1 (.slice e1)][hz:aI P e [.int k 0]][hI:TI P e 1](hw:aw ops (rg al) o=some true)(hd:o.dst=some d)(hlt:Nat.blt d nt=true)
 {i len n:Nat} {q r:List Int} {et:TypeId} {opn ro:Bool}(ha:ag (rg al) a = .one (.slice i 0 len (.exact len))) (hi:hs[i]? = some (.cells (il k q) et opn ro)) (hq:q.length=len) (hr:r.length=n) (hsrc:∀M,aV M hs->jv P t1 1 (ag (rg al) b) M=some (n,il k r)) (hm:len+n<=2000000000)
 {N:Nat}(hN:hs.length=N) (hbd:Nat.blt N Mem.bound=true) {hs':ah}(hh:hs++[.cells (il k (q++r)) e true false]=hs')
 (h1:n=0->SK P ops nt L l ((d,.one (.slice i 0 len (.exact len)))::al) hs fun bs=>K (⟨true,.none,[]⟩::bs)) (h2:0<n->SK P ops nt L l ((d,.one (.slice N 0 (len+n) (.toEnd 1)))::al) hs' fun bs=>K (⟨true,.none,[N]⟩::bs)):SK P ops nt L (o::l) al hs K:=by
 subst hN hh;obtain⟨ti,hti,hs1,hby⟩:=hI.get;have hbytes:(len+n)*ti.bytes<=140737488355328:=Nat.le_trans (Nat.mul_le_mul_left _ hby) (by omega)
 by_cases h0:n=0
 ·refine SK.lift hd hlt (fun _=>?_) (h1 h0);subst h0;intro M hM;refine⟨M,?_,hM,fun _ _=>rfl⟩;unfold iL;rw[hw];refine bT (by rw[ho];rfl) (by rw[ho];rfl) (by rw[ho];rfl) ?_;rw[ho];simp only[bU,gA,c9,hu.out,hti,hz.out,ha,hs1,hsrc M hM,List.getElem?_toArray,List.getElem?_cons_zero,List.getElem?_cons_succ];simp
 ·refine SK.lift hd hlt (fun _=>?_) (h2 (by omega));intro M hM;obtain⟨m',p1,p2,p3⟩:=hM.push (.cells (il k (q++r)) e true false) (by simpa [Nat.blt_eq]using hbd);refine⟨m',?_,p2,p3⟩;unfold iL;rw[hw];refine bT (by rw[ho];rfl) (by rw[ho];rfl) (by rw[ho];rfl) ?_;rw[ho];have e1:¬len+n<=len:=by omega
  have e2:0+len*1<=(il k q).length:=by rw[bH];omega
  have e3:((il k q).drop 0).take (len*1)++il k r=il k (q++r):=by
   rw[List.drop_zero,List.take_of_length_le (by rw[bH];omega),wL]
  simp only[bU,gA,c9,hu.out,hti,hz.out,ha,hs1,hsrc M hM,List.getElem?_toArray,List.getElem?_cons_zero,List.getElem?_cons_succ,e1,if_false,hM.at hi,e2,if_true,e3,p1,hM.n];rw[if_pos ⟨rfl,by omega⟩,if_pos ⟨by omega,hbytes⟩]
theorem Jy{t:TypeId}{a:Operand}(ho:o.op = .load t a)[ht:cA P t](hw:aw ops (rg al) o=some true)(hd:o.dst=some d)(hlt:Nat.blt d nt=true){i off:Nat}(ha:ag (rg al) a = .one (.ptr i off)){ob:aj}(hi:hs[i]? = some ob){k:IntKind}{q:List Int}(hro:RO ob k q)(hc:off<q.length)
 (hk:SK P ops nt L l ((d,.one (.int k (q.getD off 0)))::al) hs fun bs=>K (⟨false,some i,[]⟩::bs)):SK P ops nt L (o::l) al hs K:=by
 obtain⟨e,opn,ro,rfl⟩:=hro.get (by omega);exact fz ho hw hd hlt ha hi (BV hc) hk
class nk {α : Type}(enc : α->List XC) (s:outParam Nat):Prop where
 len:∀a,(enc a).length=s
 shut:∀a,(enc a).all XC.shut=true
 pos:0<s
def fl{α : Type}(enc : α->List XC)(l:List α):List XC:=l.flatMap enc
section
variable {α : Type} {enc : α->List XC} {s:Nat} [hE:nk enc s]
theorem rB(l:List α):(fl enc l).length=l.length*s:=by
 induction l with
 | nil=>simp[fl]
 | cons a l ih=>simp only[fl,List.flatMap_cons,List.length_append,hE.len,List.length_cons]at ih ⊢;rw[ih,Nat.add_mul];omega
theorem E5(l m:List α):fl enc (l++m)=fl enc l++fl enc m:=by simp[fl]
theorem NZ(a : α):fl enc [a]=enc a:=by simp[fl]
theorem sW{α : Type}{enc : α->List XC}{s:Nat}[hE:nk enc s](l:List α):(fl enc l).all XC.shut=true:=by
 rw[List.all_eq_true];intro c hc;obtain⟨a,_,ha⟩:=List.mem_flatMap.1 hc;exact List.all_eq_true.1 (hE.shut a) c ha
theorem HZ(l:List α)(j:Nat)(hj:j<l.length)(dflt : α):j*s+s<=(fl enc l).length/\((fl enc l).drop (j*s)).take s=enc (l.getD j dflt):=
 xZ enc s l (fun a _=>hE.len a) j _ (by simp[List.getD_eq_getElem?_getD,hj])
theorem H0{α : Type}{enc : α->List XC}{s:Nat}[hE:nk enc s]{l:List α}(h:l≠[]):fl enc l≠[]:=fun e=>by
 have:=rB (enc:=enc) l;rw[e]at this;have hp:=hE.pos
 cases l with
 | nil=>exact h rfl
 | cons a l=>simp only[List.length_cons,List.length_nil,Nat.add_mul]at this;omega
instance {e:TypeId} {a b:Bool} {l:List α}:b9 (.cells (fl enc l) e a b):=gq (sW l)
instance {e:TypeId} {l:List α}:b9 (bz e (fl enc l)):=AF (sW l)
instance {a : α} {e:TypeId} {x y:Bool}:b9 (.cells (enc a) e x y):=gq (hE.shut a)
structure Br(o:aj)(enc : α->List XC)(l:List α):Prop where
 get:0<l.length->∃e opn ro,o = .cells (fl enc l) e opn ro
 flat:b9 o
theorem Jx[Inhabited α]{t:TypeId}{a:Operand}(ho:o.op = .load t a)[ht:cU P t][hs':aF P t s](hw:aw ops (rg al) o=some true)(hd:o.dst=some d)(hlt:Nat.blt d nt=true){i off:Nat}(ha:ag (rg al) a = .one (.ptr i off)){e:TypeId}{q:List α}(hi:hs[i]? = some (bz e (fl enc q))){j:Nat}(hj:off=j*s)(hc:j<q.length)
 (hk:SK P ops nt L l ((d,.agg (enc (q.getD j default)))::al) hs fun bs=>K (⟨false,some i,[]⟩::bs)):SK P ops nt L (o::l) al hs K:=by
 obtain⟨h1,h2⟩:=HZ (enc:=enc) q j hc default;subst hj;exact uZ ho hw hd hlt ha (hi.trans (congrArg some (bG (H0 (fun e=>by rw[e]at hc;exact absurd hc (Nat.not_lt_zero _)))))) h1 h2 hk
theorem F7[Inhabited α]{t:TypeId}{a:Operand}(ho:o.op = .load t a)[ht:cU P t][hs':aF P t s](hw:aw ops (rg al) o=some true)(hd:o.dst=some d)(hlt:Nat.blt d nt=true){i off:Nat}(ha:ag (rg al) a = .one (.ptr i off)){ob:aj}{q:List α}(hi:hs[i]? = some ob)(hro:Br ob enc q){j:Nat}(hj:off=j*s)(hc:j<q.length)
 (hk:SK P ops nt L l ((d,.agg (enc (q.getD j default)))::al) hs fun bs=>K (⟨false,some i,[]⟩::bs)):SK P ops nt L (o::l) al hs K:=by
 obtain⟨h1,h2⟩:=HZ (enc:=enc) q j hc default;obtain⟨e,opn,ro,rfl⟩:=hro.get (by omega);subst hj;exact uZ ho hw hd hlt ha hi h1 h2 hk
theorem Me{t e:TypeId}{y:Operand}{zs:List XC}(ho:o.op = .buildSlice t 1 #[(0,y)])[hu:aG P t (.slice e)][hz:aI P e zs][hse:aF P e s](hzl:zs.length=s)(hsm:s<=16777216)(hw:aw ops (rg al) o=some true)(hd:o.dst=some d)(hlt:Nat.blt d nt=true){a : α}(hy:cE (ag (rg al) y)=some (enc a)){n:Nat}(hn:hs.length=n)(hb:Nat.blt n Mem.bound=true){hs':ah}(hh:hs++[.cells (fl enc [a]) e false false]=hs')
 (hk:SK P ops nt L l ((d,.one (.slice n 0 1 (.exact 1)))::al) hs' fun bs=>K (⟨true,.none,[n]⟩::bs)):SK P ops nt L (o::l) al hs K:=by
 subst hn hh;refine SK.lift hd hlt (fun _=>?_) hk;intro m hm;obtain⟨m',h1,h2,h3⟩:=hm.push (.cells (fl enc [a]) e false false) (by simpa [Nat.blt_eq]using hb);refine⟨m',?_,h2,h3⟩;unfold iL;rw[hw];refine bT (by rw[ho];rfl) (by rw[ho];rfl) (by rw[ho];rfl) ?_;rw[ho];have hp:=hE.pos;have hlen:=hE.len a;have hzz:(eg zs (1*s)).length=s:=by simp[eg]
 have hf:gv (fun i=>some (i*s,s)) (eg zs (1*s)) [(0,ag (rg al) y)]=some (fl enc [a]):=by
  simp only[gv,hy,hlen,Nat.zero_mul];rw[if_pos ⟨trivial,by rw[hzz];omega⟩,NZ];simp only[List.take_zero,List.nil_append,Nat.zero_add];rw[List.drop_of_length_le (by rw[hzz];omega),List.append_nil]
 simp only[bU,d8,c9,hu.out,hse.out,hz.out,List.map_cons,List.map_nil,h1,hm.n,hf];rw[if_pos ⟨by omega,by omega⟩]
theorem OU{t t1 e e1:TypeId}{a b:Operand}{zs:List XC}(ho:o.op = .call ⟨.builtin .append,#[a,b],#[t,t1]⟩)[hu:aG P t (.slice e)][hu1:aG P t1 (.slice e1)][hz:aI P e zs][hI:TI P e s](hzl:zs.length=s)(hw:aw ops (rg al) o=some true)(hd:o.dst=some d)(hlt:Nat.blt d nt=true)
 {i n j len:Nat} {cap:oV} {q r:List α} {et:TypeId} {opn ro:Bool}(ha:ag (rg al) a=ee i n s) (hi:hs[i]? = some (bz e (fl enc q))) (hb:ag (rg al) b = .one (.slice j 0 len cap)) (hj:hs[j]? = some (.cells (fl enc r) et opn ro)) (hn:q.length=n) (hr:r.length=len) (hm:0<len/\n+len<=2000000000)
 {N:Nat}(hN:hs.length=N) (hbd:Nat.blt N Mem.bound=true) {hs':ah}(hh:hs.set i .dead++[bz e (fl enc (q++r))]=hs')
 (hk:SK P ops nt L l ((d,ee N (n+len) s)::al) hs' fun bs=>K (⟨true,.none,[i,N]⟩::bs)):SK P ops nt L (o::l) al hs K:=by
 have hne:fl enc (q++r)≠[]:=H0 (fun h=>by
  have:(q++r).length=0:=by rw[h];rfl
  rw[List.length_append]at this
  omega)
 rw[dp (by omega)]at hk;exact Cn ho hw hd hlt (sz:=s) ⟨hzl,hE.pos⟩ ha hi (by rw[rB,hn]) (ic hb hj (by rw[rB,hr])) ⟨hm.1,by omega⟩ hN hbd (by rw[<-E5,<-bG hne];exact hh) hk
end
theorem Jz{α γ : Type}[DecidableEq α]{t:TypeId}{x ix:Operand}(ho:o.op = .lookup t x ix false){kt et:TypeId}[hu:aG P t (.map kt et)](hw:aw ops (rg al) o=some true)(hd:o.dst=some d)(hlt:Nat.blt d nt=true){kc : α->X1}(hko:pX P kt kc){vc : γ->X1}{z : γ}(hz:ky P et=some (vc z)){i:Nat}(hx:ag (rg al) x = .one (.map i)){k : α}(hk:lO (ag (rg al) ix)=some (kc k))
 {M:List (α×γ)}(hi:hs[i]? = some (.map (gD kc vc M))) (hn:SK P ops nt L l ((d,(vc ((dk M k).getD z)).oU)::al) hs fun bs=>K (⟨false,some i,[]⟩::bs)):SK P ops nt L (o::l) al hs K:=by
 refine SK.lift hd hlt (fun _=>az.lookup hw ho hu.out hx hk hi (v:=(vc ((dk M k).getD z)).oU) ?_) hn;obtain⟨ds,hu⟩:=hko.und;unfold kW;rw[if_pos (hko.check k),hu,mL hko];unfold dk
 cases h:f9 k M with
 | none=>simp[hz]
 | some q=>simp
theorem JA{kk:IntKind}{t:TypeId}{x ix:Operand}(ho:o.op = .lookup t x ix false){kt et:TypeId}[hu:aG P t (.map kt et)][hku:aG P kt (.int kk)](hz:ky P et=some (.one (.bool false)))(hw:aw ops (rg al) o=some true)(hd:o.dst=some d)(hlt:Nat.blt d nt=true){i:Nat}(hx:ag (rg al) x = .one (.map i)){z:Int}(hk:lO (ag (rg al) ix)=some (.one (.int kk z)))
 {M:List (Int×Bool)}(hi:hs[i]? = some (.map (gD (kI kk) vB M))) (h1:(dk M z).getD false=true->SK P ops nt L l ((d,.one (.bool true))::al) hs fun bs=>K (⟨false,some i,[]⟩::bs)) (h2:(dk M z).getD false=false->SK P ops nt L l ((d,.one (.bool false))::al) hs fun bs=>K (⟨false,some i,[]⟩::bs)):SK P ops nt L (o::l) al hs K:=by
 refine Jz ho hw hd hlt (kc:=kI kk) (vc:=vB) (z:=false) M9 hz hx hk hi ?_
 ·cases h:(dk M z).getD false with
  | true=>exact h1 h
  | false=>exact h2 h
end Go.Xm
namespace Go.Xm
variable [av]
variable {P:Program} {ops:Array Oper} {nt nI:Nat} {al:aL} {hs:ah} {o:Oper} {l:List Oper} {L:List aA} {K:List Ab->aL->ah->Prop} {d:Nat}
structure Wn(ops:Array Oper)(nt:Nat)(al:aL)(o:Oper)(d:Nat):Prop where
 w:aw ops (rg al) o=some true
 e:o.dst=some d
 l:Nat.blt d nt=true
theorem n1{α : Type}{a b : α}(h:a=b:=by first|(simp only[Nat.zero_add,Nat.mul_one,Nat.reduceAdd,Nat.reduceMul,Int.reduceSub,Int.reduceAdd,Int.reduceMul,Int.reduceDiv,Int.reduceMod,Int.reduceToNat,Nat.add_zero,Int.toNat_natCast];exact rfl)|exact rfl|fail):a=b:=h
theorem n2{α : Type}{a b : α}(h:a=b:=by first|(simp only[List.length_cons,List.length_nil,List.length_append,Nat.reduceAdd,Nat.zero_add,List.length_set];exact rfl)|exact rfl|fail):a=b:=h
theorem n3{α : Type}{a b : α}(h:a=b:=by first|(simp only[List.cons_append,List.nil_append];exact rfl)|exact rfl|fail):a=b:=h
theorem n4{α : Type}{a b : α}(h:a=b:=by first|(simp only[List.set_cons_succ,List.set_cons_zero];exact rfl)|exact rfl|fail):a=b:=h
def uA(o:Oper):Nat:=match o.op with
 | .move _=>0 | .assign _=>0 | .load _ _=>1 | .store _ _ _=>2 | .indexAddr _ _ _=>3 | .fieldAddr _ _ _=>4
 | .binOp op _ _ _ _=>match op with
   | .add=>5 | .sub=>6 | .mul=>7 | .quo=>8 | .rem=>9 | .and=>10 | .or=>11 | .xor=>12 | .shl=>13 | .shr=>14 | .andNot=>15
   | .eql=>16 | .neq=>17 | .lss=>18 | .leq=>19 | .gtr=>20 | .geq=>21
 | .pick _ _ _=>22 | .unOp _ _ _=>23 | .convert _ _ _=>24 | .extract _ _=>25 | .nilCheck _=>26 | .field _ _ _=>27 | .index _ _ _=>28
 | .call ⟨.value _,_,_⟩=>29 | .call ⟨.builtin .len,_,_⟩=>30 | .call ⟨.builtin .append,_,_⟩=>31 | .call ⟨.builtin _,_,_⟩=>32 | .call _=>33
 | .build _ _=>34 | .buildSlice _ _ _=>35 | .alloc _=>36 | .box _ _=>37 | .makeSlice _ _ _=>38 | .makeMap _ _=>39 | .slice _ _ _ _ _=>40 | .lookup _ _ _ _=>41 | .mapUpdate _ _ _ _=>42 | .makeFunc _ _ _=>43
 | _=>44
theorem q4(hk:SK P ops nt L (o::l) al hs K)(h:Nat.ble (uA o) 4=true:=by exact rfl):SK P ops nt L (o::l) al hs K:=hk
theorem Tr(hk:SK P ops nt L (o::l) al hs K)(h:Nat.ble (uA o) 15=true:=by exact rfl):SK P ops nt L (o::l) al hs K:=hk
theorem Ts(hk:SK P ops nt L (o::l) al hs K)(h:Nat.ble (uA o) 21=true:=by exact rfl):SK P ops nt L (o::l) al hs K:=hk
theorem Tt(hk:SK P ops nt L (o::l) al hs K)(h:Nat.ble (uA o) 28=true:=by exact rfl):SK P ops nt L (o::l) al hs K:=hk
theorem Tu(hk:SK P ops nt L (o::l) al hs K)(h:Nat.ble (uA o) 33=true:=by exact rfl):SK P ops nt L (o::l) al hs K:=hk
theorem qz(hk:SK P ops nt L (o::l) al hs K):SK P ops nt L (o::l) al hs K:=hk
theorem qg(hk:SK P ops nt L (o::l) al hs K)(h:o.guard.isSome=true:=by exact rfl):SK P ops nt L (o::l) al hs K:=hk
theorem t0(hk:SK P ops nt L (o::l) al hs K)(h:uA o=0:=by exact rfl):SK P ops nt L (o::l) al hs K:=hk
theorem t1(hk:SK P ops nt L (o::l) al hs K)(h:uA o=1:=by exact rfl):SK P ops nt L (o::l) al hs K:=hk
theorem t2(hk:SK P ops nt L (o::l) al hs K)(h:uA o=2:=by exact rfl):SK P ops nt L (o::l) al hs K:=hk
theorem t3(hk:SK P ops nt L (o::l) al hs K)(h:uA o=3:=by exact rfl):SK P ops nt L (o::l) al hs K:=hk
theorem t4(hk:SK P ops nt L (o::l) al hs K)(h:uA o=4:=by exact rfl):SK P ops nt L (o::l) al hs K:=hk
theorem TE(hk:SK P ops nt L (o::l) al hs K)(h:uA o=30:=by exact rfl):SK P ops nt L (o::l) al hs K:=hk
theorem Te{a:Operand}{c:XC}(hk:SK P ops nt L l ((d,.one c)::al) hs fun bs=>K (quiet::bs))(ho:o.op = .move a:=by exact rfl)(wn:Wn ops nt al o d:=by exact⟨rfl,rfl,rfl⟩)(ha:ag (rg al) a = .one c:=by exact rfl):SK P ops nt L (o::l) al hs K:=
 D6 ho wn.w wn.e wn.l ha hk
theorem SM{a:Operand}{c:XC}(hk:SK P ops nt L l ((d,.one c)::al) hs fun bs=>K (quiet::bs))(ho:o.op = .assign a:=by exact rfl)(wn:Wn ops nt al o d:=by exact⟨rfl,rfl,rfl⟩)(ha:ag (rg al) a = .one c:=by exact rfl):SK P ops nt L (o::l) al hs K:=
 F2 ho wn.w wn.e wn.l ha hk
theorem Tf{a:Operand}{c:List X1}(hk:SK P ops nt L l ((d,.tup c)::al) hs fun bs=>K (quiet::bs))(ho:o.op = .move a:=by exact rfl)(wn:Wn ops nt al o d:=by exact⟨rfl,rfl,rfl⟩)(ha:ag (rg al) a = .tup c:=by exact rfl):SK P ops nt L (o::l) al hs K:=
 D6 ho wn.w wn.e wn.l ha hk
theorem Tw(hk:SK P ops nt L l ((d,.tup [])::al) hs fun bs=>K (quiet::bs))(hw:aw ops (rg al) o=some false:=by exact rfl)(hd:o.dst=some d:=by exact rfl)(hlt:Nat.blt d nt=true:=by exact rfl):SK P ops nt L (o::l) al hs K:=
 Mn hw hd hlt hk
theorem Tp{a b c:Operand}{x:Bool}(hk:SK P ops nt L l ((d,.one (.bool x))::al) hs fun bs=>K (quiet::bs))(ho:o.op = .pick c a b:=by exact rfl)(wn:Wn ops nt al o d:=by exact⟨rfl,rfl,rfl⟩)(hc:ag (rg al) c = .one (.bool true):=by exact rfl)(ha:ag (rg al) a = .one (.bool x):=by exact rfl):SK P ops nt L (o::l) al hs K:=
 JE ho wn.w wn.e wn.l hc ha hk
theorem To{a b c:Operand}{x:Bool}(hk:SK P ops nt L l ((d,.one (.bool x))::al) hs fun bs=>K (quiet::bs))(ho:o.op = .pick c a b:=by exact rfl)(wn:Wn ops nt al o d:=by exact⟨rfl,rfl,rfl⟩)(hc:ag (rg al) c = .one (.bool false):=by exact rfl)(ha:ag (rg al) b = .one (.bool x):=by exact rfl):SK P ops nt L (o::l) al hs K:=
 JD ho wn.w wn.e wn.l hc ha hk
theorem ng{a:Operand}{t:TypeId}{k:IntKind}{x:Int}(hk:SK P ops nt L l ((d,.one (.int k (0-x)))::al) hs fun bs=>K (quiet::bs))(ho:o.op = .unOp .neg t a:=by exact rfl)(wn:Wn ops nt al o d:=by exact⟨rfl,rfl,rfl⟩)(ha:ag (rg al) a = .one (.int k x):=by exact rfl)(h:wM k (0-x):=by(show _/\_;omega)):SK P ops nt L (o::l) al hs K:=
 SK.lift wn.e wn.l (fun _=>az.pure wn.w (by rw[ho];simp only[aR,ha,Rc,ca,hJ h])) hk
theorem Tk{a:Operand}{t:TypeId}{x:Bool}(hk:SK P ops nt L l ((d,.one (.bool (!x)))::al) hs fun bs=>K (quiet::bs))(ho:o.op = .unOp .not t a:=by exact rfl)(wn:Wn ops nt al o d:=by exact⟨rfl,rfl,rfl⟩)(ha:ag (rg al) a = .one (.bool x):=by exact rfl):SK P ops nt L (o::l) al hs K:=
 O3 ho wn.w wn.e wn.l ha rfl hk
theorem ad{t t':TypeId}{a b:Operand}{k:IntKind}{x y:Int}(hk:SK P ops nt L l ((d,.one (.int k (x+y)))::al) hs fun bs=>K (quiet::bs))(ho:o.op = .binOp .add t a b t':=by exact rfl)(wn:Wn ops nt al o d:=by exact⟨rfl,rfl,rfl⟩)(ha:ag (rg al) a = .one (.int k x):=by exact rfl)(hb:ag (rg al) b = .one (.int k y):=by exact rfl)(h:wM k (x+y):=by(show _/\_;omega)):SK P ops nt L (o::l) al hs K:=
 gf ho wn.w wn.e wn.l ha hb (by simp only[bB,dL,if_true,ca,hJ h]) hk
theorem RI{t t':TypeId}{a b:Operand}{k:IntKind}{x y:Int}(hk:SK P ops nt L l ((d,.one (.int k (k.wrap (x+y))))::al) hs fun bs=>K (quiet::bs))(ho:o.op = .binOp .add t a b t':=by exact rfl)(wn:Wn ops nt al o d:=by exact⟨rfl,rfl,rfl⟩)(ha:ag (rg al) a = .one (.int k x):=by exact rfl)(hb:ag (rg al) b = .one (.int k y):=by exact rfl):SK P ops nt L (o::l) al hs K:=
 gf ho wn.w wn.e wn.l ha hb (by simp only[bB,dL,if_true,ca]) hk
theorem sb{t t':TypeId}{a b:Operand}{k:IntKind}{x y:Int}(hk:SK P ops nt L l ((d,.one (.int k (x-y)))::al) hs fun bs=>K (quiet::bs))(ho:o.op = .binOp .sub t a b t':=by exact rfl)(wn:Wn ops nt al o d:=by exact⟨rfl,rfl,rfl⟩)(ha:ag (rg al) a = .one (.int k x):=by exact rfl)(hb:ag (rg al) b = .one (.int k y):=by exact rfl)(h:wM k (x-y):=by(show _/\_;omega)):SK P ops nt L (o::l) al hs K:=
 gf ho wn.w wn.e wn.l ha hb (by simp only[bB,dL,if_true,ca,hJ h]) hk
theorem ml{t t':TypeId}{a b:Operand}{k:IntKind}{x y:Int}(hk:SK P ops nt L l ((d,.one (.int k (x*y)))::al) hs fun bs=>K (quiet::bs))(ho:o.op = .binOp .mul t a b t':=by exact rfl)(wn:Wn ops nt al o d:=by exact⟨rfl,rfl,rfl⟩)(ha:ag (rg al) a = .one (.int k x):=by exact rfl)(hb:ag (rg al) b = .one (.int k y):=by exact rfl)(h:wM k (x*y):=by(show _/\_;omega)):SK P ops nt L (o::l) al hs K:=
 gf ho wn.w wn.e wn.l ha hb (by simp only[bB,dL,if_true,ca,hJ h]) hk
theorem R6{t t':TypeId}{a b:Operand}{k:IntKind}{x y:Int}(hk:SK P ops nt L l ((d,.one (.int k (k.wrap (x*y))))::al) hs fun bs=>K (quiet::bs))(ho:o.op = .binOp .mul t a b t':=by exact rfl)(wn:Wn ops nt al o d:=by exact⟨rfl,rfl,rfl⟩)(ha:ag (rg al) a = .one (.int k x):=by exact rfl)(hb:ag (rg al) b = .one (.int k y):=by exact rfl):SK P ops nt L (o::l) al hs K:=
 gf ho wn.w wn.e wn.l ha hb (by simp only[bB,dL,if_true,ca]) hk
theorem qu{t t':TypeId}{a b:Operand}{k:IntKind}{x y:Int}(hk:SK P ops nt L l ((d,.one (.int k (x/y)))::al) hs fun bs=>K (quiet::bs))(ho:o.op = .binOp .quo t a b t':=by exact rfl)(wn:Wn ops nt al o d:=by exact⟨rfl,rfl,rfl⟩)(ha:ag (rg al) a = .one (.int k x):=by exact rfl)(hb:ag (rg al) b = .one (.int k y):=by exact rfl)(h:wM k x/\0<=x/\0<y:=by exact⟨by show _/\_;omega,by omega⟩):SK P ops nt L (o::l) al hs K:=
 gf ho wn.w wn.e wn.l ha hb (R_ h.1 h.2.1 h.2.2) hk
theorem re{t t':TypeId}{a b:Operand}{k:IntKind}{x y:Int}(hk:SK P ops nt L l ((d,.one (.int k (x%y)))::al) hs fun bs=>K (quiet::bs))(ho:o.op = .binOp .rem t a b t':=by exact rfl)(wn:Wn ops nt al o d:=by exact⟨rfl,rfl,rfl⟩)(ha:ag (rg al) a = .one (.int k x):=by exact rfl)(hb:ag (rg al) b = .one (.int k y):=by exact rfl)(h:0<=x/\y≠0:=by omega):SK P ops nt L (o::l) al hs K:=
 O4 ho wn.w wn.e wn.l ha hb h.1 h.2 hk
theorem sr{t t':TypeId}{a b:Operand}{k k':IntKind}{x y:Int}(hk:SK P ops nt L l ((d,.one (.int k (x/2^y.toNat)))::al) hs fun bs=>K (quiet::bs))(ho:o.op = .binOp .shr t a b t':=by exact rfl)(wn:Wn ops nt al o d:=by exact⟨rfl,rfl,rfl⟩)(ha:ag (rg al) a = .one (.int k x):=by exact rfl)(hb:ag (rg al) b = .one (.int k' y):=by exact rfl)(h:wM k x/\0<=x/\0<=y:=by exact⟨by show _/\_;omega,by omega⟩):SK P ops nt L (o::l) al hs K:=
 gf ho wn.w wn.e wn.l ha hb (Sd h.1 h.2.1 h.2.2) hk
theorem JF{t t':TypeId}{a b:Operand}{k k':IntKind}{x y:Int}{n:Nat}(hk:SK P ops nt L l ((d,.one (.int k (x*2^n)))::al) hs fun bs=>K (quiet::bs))(ho:o.op = .binOp .shl t a b t':=by exact rfl)(wn:Wn ops nt al o d:=by exact⟨rfl,rfl,rfl⟩)(ha:ag (rg al) a = .one (.int k x):=by exact rfl)(hb:ag (rg al) b = .one (.int k' y):=by exact rfl)(hn:y=(n:Nat):=by exact rfl)(h:n<=k.bits/\wM k (x*2^n):=by exact⟨by decide,by show _/\_;omega⟩):SK P ops nt L (o::l) al hs K:=
 gf ho wn.w wn.e wn.l ha hb (Sc hn h.1 h.2) hk
theorem an{t t':TypeId}{a b:Operand}{k:IntKind}{x y:Int}(n:Nat)(hk:SK P ops nt L l ((d,.one (.int k (x%2^n)))::al) hs fun bs=>K (quiet::bs))(ho:o.op = .binOp .and t a b t':=by exact rfl)(wn:Wn ops nt al o d:=by exact⟨rfl,rfl,rfl⟩)(ha:ag (rg al) a = .one (.int k x):=by exact rfl)(hb:ag (rg al) b = .one (.int k y):=by exact rfl)(h:y=2^n-1/\n<k.bits:=by(refine⟨by decide,by decide⟩)):SK P ops nt L (o::l) al hs K:=
 gf ho wn.w wn.e wn.l ha hb (RJ n h.1 h.2) hk
theorem xr{t t':TypeId}{a b:Operand}{k:IntKind}{x y:Int}(hk:SK P ops nt L l ((d,.one (.int k (m9 k x y)))::al) hs fun bs=>K (quiet::bs))(ho:o.op = .binOp .xor t a b t':=by exact rfl)(wn:Wn ops nt al o d:=by exact⟨rfl,rfl,rfl⟩)(ha:ag (rg al) a = .one (.int k x):=by exact rfl)(hb:ag (rg al) b = .one (.int k y):=by exact rfl):SK P ops nt L (o::l) al hs K:=
 gf ho wn.w wn.e wn.l ha hb (by simp only[bB,dL,if_true,ca,m9]) hk
theorem Tm{t t':TypeId}{a b:Operand}{k:IntKind}{x y:Int}(hk:SK P ops nt L l ((d,.one (.int k (BW k x y)))::al) hs fun bs=>K (quiet::bs))(ho:o.op = .binOp .or t a b t':=by exact rfl)(wn:Wn ops nt al o d:=by exact⟨rfl,rfl,rfl⟩)(ha:ag (rg al) a = .one (.int k x):=by exact rfl)(hb:ag (rg al) b = .one (.int k y):=by exact rfl):SK P ops nt L (o::l) al hs K:=
 gf ho wn.w wn.e wn.l ha hb (by simp only[bB,dL,if_true,ca,BW]) hk
theorem SJ{t t':TypeId}{a b:Operand}{k:IntKind}{x y:Int}(hk:SK P ops nt L l ((d,.one (.int k (H8 k x y)))::al) hs fun bs=>K (quiet::bs))(ho:o.op = .binOp .and t a b t':=by exact rfl)(wn:Wn ops nt al o d:=by exact⟨rfl,rfl,rfl⟩)(ha:ag (rg al) a = .one (.int k x):=by exact rfl)(hb:ag (rg al) b = .one (.int k y):=by exact rfl):SK P ops nt L (o::l) al hs K:=
 gf ho wn.w wn.e wn.l ha hb (by simp only[bB,dL,if_true,ca,H8]) hk
theorem cT{t t':TypeId}{a b:Operand}{op:BinOp}{k:IntKind}{x y:Int}{p:Prop}(hk:SK P ops nt L l ((d,.one (.bool true))::al) hs fun bs=>K (quiet::bs))(ho:o.op = .binOp op t a b t':=by exact rfl)(wn:Wn ops nt al o d:=by exact⟨rfl,rfl,rfl⟩)(ha:ag (rg al) a = .one (.int k x):=by exact rfl)(hb:ag (rg al) b = .one (.int k y):=by exact rfl)(hp:EM op x y=some p:=by exact rfl)(h:p:=by(show(_:Prop);first|omega|exact of_decide_eq_true rfl)):SK P ops nt L (o::l) al hs K:=
 Cp ho wn.w wn.e wn.l ha hb hp (fun _=>hk) (fun n=>absurd h n)
theorem cF{t t':TypeId}{a b:Operand}{op:BinOp}{k:IntKind}{x y:Int}{p:Prop}(hk:SK P ops nt L l ((d,.one (.bool false))::al) hs fun bs=>K (quiet::bs))(ho:o.op = .binOp op t a b t':=by exact rfl)(wn:Wn ops nt al o d:=by exact⟨rfl,rfl,rfl⟩)(ha:ag (rg al) a = .one (.int k x):=by exact rfl)(hb:ag (rg al) b = .one (.int k y):=by exact rfl)(hp:EM op x y=some p:=by exact rfl)(h:¬p:=by(show¬(_:Prop);first|omega|exact of_decide_eq_false rfl)):SK P ops nt L (o::l) al hs K:=
 Cp ho wn.w wn.e wn.l ha hb hp (fun n=>absurd n h) (fun _=>hk)
theorem cX{t t':TypeId}{a b:Operand}{op:BinOp}{k:IntKind}{x y:Int}{p:Prop}(h1:p->SK P ops nt L l ((d,.one (.bool true))::al) hs fun bs=>K (quiet::bs))(h2:¬p->SK P ops nt L l ((d,.one (.bool false))::al) hs fun bs=>K (quiet::bs))(ho:o.op = .binOp op t a b t':=by exact rfl)(wn:Wn ops nt al o d:=by exact⟨rfl,rfl,rfl⟩)(ha:ag (rg al) a = .one (.int k x):=by exact rfl)(hb:ag (rg al) b = .one (.int k y):=by exact rfl)(hp:EM op x y=some p:=by exact rfl):SK P ops nt L (o::l) al hs K:=
 Cp ho wn.w wn.e wn.l ha hb hp h1 h2
theorem RL{t t':TypeId}{a b:Operand}{x y:Bool}(hk:SK P ops nt L l ((d,.one (.bool (!(x==y))))::al) hs fun bs=>K (quiet::bs))(ho:o.op = .binOp .neq t a b t':=by exact rfl)(wn:Wn ops nt al o d:=by exact⟨rfl,rfl,rfl⟩)(hu:aG P t .bool:=by infer_instance)(hg:P.eqGuardType P.depth t=false:=by kernel_rfl)(ha:ag (rg al) a = .one (.bool x):=by exact rfl)(hb:ag (rg al) b = .one (.bool y):=by exact rfl):SK P ops nt L (o::l) al hs K:=
 SK.lift wn.e wn.l (fun _=>az.pure wn.w (by rw[ho];simp only[aR,ha,hb,vk,CM,hg,Bool.false_eq_true,if_false,dJ,hu.out,CK,Option.map_some])) hk
theorem SU{t t' e:TypeId}{a b:Operand}{i off:Nat}(hk:SK P ops nt L l ((d,.one (.bool false))::al) hs fun bs=>K (quiet::bs))(ho:o.op = .binOp .eql t a b t':=by exact rfl)(wn:Wn ops nt al o d:=by exact⟨rfl,rfl,rfl⟩)(hu:aG P t (.pointer e):=by infer_instance)(ha:ag (rg al) a = .one (.ptr i off):=by exact rfl)(hb:ag (rg al) b = .one .nilp:=by exact rfl):SK P ops nt L (o::l) al hs K:=
 SK.lift wn.e wn.l (fun _=>az.pure wn.w (by rw[ho];simp only[aR,ha,hb,vk,CM,dJ,hu.out,CK,Option.map_some])) hk
theorem Th{t t' e:TypeId}{a b:Operand}{i off:Nat}(hk:SK P ops nt L l ((d,.one (.bool true))::al) hs fun bs=>K (quiet::bs))(ho:o.op = .binOp .neq t a b t':=by exact rfl)(wn:Wn ops nt al o d:=by exact⟨rfl,rfl,rfl⟩)(hu:aG P t (.pointer e):=by infer_instance)(ha:ag (rg al) a = .one (.ptr i off):=by exact rfl)(hb:ag (rg al) b = .one .nilp:=by exact rfl):SK P ops nt L (o::l) al hs K:=
 SK.lift wn.e wn.l (fun _=>az.pure wn.w (by rw[ho];simp only[aR,ha,hb,vk,CM,dJ,hu.out,CK,Option.map_some,Bool.not_false])) hk
theorem Tg{a b:Operand}{ts:Array TypeId}{k k':IntKind}{x y:Int}(hk:SK P ops nt L l ((d,.one (.int k x))::al) hs fun bs=>K (quiet::bs))(ho:o.op = .call ⟨.builtin .max,#[a,b],ts⟩:=by exact rfl)(wn:Wn ops nt al o d:=by exact⟨rfl,rfl,rfl⟩)(ha:ag (rg al) a = .one (.int k x):=by exact rfl)(hb:ag (rg al) b = .one (.int k' y):=by exact rfl)(h:max x y=x:=by first|exact Int.max_eq_left (by omega)):SK P ops nt L (o::l) al hs K:=
 JB ho wn.w wn.e wn.l ha hb h hk
theorem Rq{a b:Operand}{ts:Array TypeId}{k k':IntKind}{x y:Int}(hk:SK P ops nt L l ((d,.one (.int k (max x y)))::al) hs fun bs=>K (quiet::bs))(ho:o.op = .call ⟨.builtin .max,#[a,b],ts⟩:=by exact rfl)(wn:Wn ops nt al o d:=by exact⟨rfl,rfl,rfl⟩)(ha:ag (rg al) a = .one (.int k x):=by exact rfl)(hb:ag (rg al) b = .one (.int k' y):=by exact rfl):SK P ops nt L (o::l) al hs K:=
 JB ho wn.w wn.e wn.l ha hb rfl hk
theorem Ta{a b:Operand}{ts:Array TypeId}{k k':IntKind}{x y:Int}(hk:SK P ops nt L l ((d,.one (.int k x))::al) hs fun bs=>K (quiet::bs))(ho:o.op = .call ⟨.builtin .min,#[a,b],ts⟩:=by exact rfl)(wn:Wn ops nt al o d:=by exact⟨rfl,rfl,rfl⟩)(ha:ag (rg al) a = .one (.int k x):=by exact rfl)(hb:ag (rg al) b = .one (.int k' y):=by exact rfl)(h:min x y=x:=by first|exact Int.min_eq_left (by omega)):SK P ops nt L (o::l) al hs K:=
 JC ho wn.w wn.e wn.l ha hb h hk
theorem SE{a b:Operand}{ts:Array TypeId}{k k':IntKind}{x y:Int}(hk:SK P ops nt L l ((d,.one (.int k (min x y)))::al) hs fun bs=>K (quiet::bs))(ho:o.op = .call ⟨.builtin .min,#[a,b],ts⟩:=by exact rfl)(wn:Wn ops nt al o d:=by exact⟨rfl,rfl,rfl⟩)(ha:ag (rg al) a = .one (.int k x):=by exact rfl)(hb:ag (rg al) b = .one (.int k' y):=by exact rfl):SK P ops nt L (o::l) al hs K:=
 JC ho wn.w wn.e wn.l ha hb rfl hk
theorem cv{s t:TypeId}{y:Operand}{u:TypeDesc}{k k':IntKind}{x:Int}(hk:SK P ops nt L l ((d,.one (.int k' x))::al) hs fun bs=>K (quiet::bs))(ho:o.op = .convert s t y:=by exact rfl)(wn:Wn ops nt al o d:=by exact⟨rfl,rfl,rfl⟩)(hy:ag (rg al) y = .one (.int k x):=by exact rfl)(h1:aG P s u:=by infer_instance)(h2:aG P t (.int k'):=by infer_instance)(h:wM k' x:=by(show _/\_;omega)):SK P ops nt L (o::l) al hs K:=
 D3 ho wn.w wn.e wn.l hy (hJ h) hk
theorem Sz{s t:TypeId}{y:Operand}{u:TypeDesc}{k k':IntKind}{x:Int}(hk:SK P ops nt L l ((d,.one (.int k' (k'.wrap x)))::al) hs fun bs=>K (quiet::bs))(ho:o.op = .convert s t y:=by exact rfl)(wn:Wn ops nt al o d:=by exact⟨rfl,rfl,rfl⟩)(hy:ag (rg al) y = .one (.int k x):=by exact rfl)(h1:aG P s u:=by infer_instance)(h2:aG P t (.int k'):=by infer_instance):SK P ops nt L (o::l) al hs K:=
 D3 ho wn.w wn.e wn.l hy rfl hk
theorem nl{a:Operand}{i off:Nat}(hk:SK P ops nt L l ((d,.one (.ptr i off))::al) hs fun bs=>K (quiet::bs))(ho:o.op = .nilCheck a:=by exact rfl)(wn:Wn ops nt al o d:=by exact⟨rfl,rfl,rfl⟩)(ha:ag (rg al) a = .one (.ptr i off):=by exact rfl):SK P ops nt L (o::l) al hs K:=
 O2 ho wn.w wn.e wn.l ha hk
theorem fa{s:TypeId}{a:Operand}{f:Nat}{i off:Nat}{ft:TypeId}{fo z:Nat}{p:Nat}(hk:SK P ops nt L l ((d,.one (.ptr i p))::al) hs fun bs=>K (quiet::bs))(ho:o.op = .fieldAddr s a f:=by exact rfl)(wn:Wn ops nt al o d:=by exact⟨rfl,rfl,rfl⟩)(ha:ag (rg al) a = .one (.ptr i off):=by exact rfl)(hf:bD P s f ft fo:=by infer_instance)(hz:aF P ft (z+1):=by infer_instance)(hp:off+fo=p:=by exact n1):SK P ops nt L (o::l) al hs K:=
 OZ ho wn.w wn.e wn.l ha hp hk
theorem SY{t:TypeId}{a b:Operand}{elem:TypeId}{s:Nat}{k:IntKind}{z:Int}{i off len:Nat}{p:Nat}(hk:SK P ops nt L l ((d,.one (.ptr i p))::al) hs fun bs=>K (quiet::bs))(ho:o.op = .indexAddr t a b:=by exact rfl)(wn:Wn ops nt al o d:=by exact⟨rfl,rfl,rfl⟩)(hb:ag (rg al) b = .one (.int k z):=by exact rfl)(ha:ag (rg al) a = .one (.ptr i off):=by exact rfl)(hu:aG P t (.array len elem):=by infer_instance)(hs':aF P elem s:=by infer_instance)(hz:0<=z/\z<(len:Nat):=by first|omega|decide)(hp:off+z.toNat*s=p:=by exact n1):SK P ops nt L (o::l) al hs K:=
 Mi ho wn.w wn.e wn.l ha hb hz hp hk
theorem SZ{t:TypeId}{a b:Operand}{elem:TypeId}{s:Nat}{k:IntKind}{z:Int}{i off len:Nat}{cap:oV}{p:Nat}(hk:SK P ops nt L l ((d,.one (.ptr i p))::al) hs fun bs=>K (quiet::bs))(ho:o.op = .indexAddr t a b:=by exact rfl)(wn:Wn ops nt al o d:=by exact⟨rfl,rfl,rfl⟩)(hb:ag (rg al) b = .one (.int k z):=by exact rfl)(ha:ag (rg al) a = .one (.slice i off len cap):=by exact rfl)(hu:aG P t (.slice elem):=by infer_instance)(hs':aF P elem s:=by infer_instance)(hz:0<=z/\z<(len:Nat):=by first|omega|decide)(hp:off+z.toNat*s=p:=by exact n1):SK P ops nt L (o::l) al hs K:=
 D4 ho wn.w wn.e wn.l ha hb hz hp hk
theorem SW{t:TypeId}{a b:Operand}{elem:TypeId}{s:Nat}{k:IntKind}{z:Int}{i off len:Nat}{c:XC}{p:Nat}(hk:SK P ops nt L l ((d,.one (.ptr i p))::al) hs fun bs=>K (quiet::bs))(ho:o.op = .indexAddr t a b:=by exact rfl)(wn:Wn ops nt al o d:=by exact⟨rfl,rfl,rfl⟩)(hb:ag (rg al) b = .one (.int k z):=by exact rfl)(ha:ag (rg al) a = .one c:=by exact rfl)(hc:cG c i off len:=by assumption)(hu:aG P t (.slice elem):=by infer_instance)(hs':aF P elem s:=by infer_instance)(hz:0<=z/\z<(len:Nat):=by first|omega|decide)(hp:off+z.toNat*s=p:=by exact n1):SK P ops nt L (o::l) al hs K:=
 Mh ho wn.w wn.e wn.l ha hb hc hz hp hk
theorem SX{t:TypeId}{a b:Operand}{elem:TypeId}{s:Nat}{k:IntKind}{z:Int}{i n sz:Nat}{p:Nat}(hk:SK P ops nt L l ((d,.one (.ptr i p))::al) hs fun bs=>K (quiet::bs))(ho:o.op = .indexAddr t a b:=by exact rfl)(wn:Wn ops nt al o d:=by exact⟨rfl,rfl,rfl⟩)(hb:ag (rg al) b = .one (.int k z):=by exact rfl)(ha:ag (rg al) a=ee i n sz:=by exact rfl)(hu:aG P t (.slice elem):=by infer_instance)(hs':aF P elem s:=by infer_instance)(hz:0<=z/\z<(n:Nat):=by omega)(hp:0+z.toNat*s=p:=by exact n1):SK P ops nt L (o::l) al hs K:=
 D4 ho wn.w wn.e wn.l (ha.trans (dp (by omega))) hb hz hp hk
theorem S9{a:Operand}{t elem:TypeId}{i off len:Nat}{cap:oV}(hk:SK P ops nt L l ((d,.one (.int .i64 (len:Nat)))::al) hs fun bs=>K (quiet::bs))(ho:o.op = .call ⟨.builtin .len,#[a],#[t]⟩:=by exact rfl)(wn:Wn ops nt al o d:=by exact⟨rfl,rfl,rfl⟩)(ha:ag (rg al) a = .one (.slice i off len cap):=by exact rfl)(hu:aG P t (.slice elem):=by infer_instance):SK P ops nt L (o::l) al hs K:=
 Mm ho wn.w wn.e wn.l ha hk
theorem S8{a:Operand}{t elem:TypeId}(hk:SK P ops nt L l ((d,.one (.int .i64 0))::al) hs fun bs=>K (quiet::bs))(ho:o.op = .call ⟨.builtin .len,#[a],#[t]⟩:=by exact rfl)(wn:Wn ops nt al o d:=by exact⟨rfl,rfl,rfl⟩)(ha:ag (rg al) a = .one .nils:=by exact rfl)(hu:aG P t (.slice elem):=by infer_instance):SK P ops nt L (o::l) al hs K:=
 SK.lift wn.e wn.l (fun _=>az.pure wn.w (by rw[ho];simp[aR,dh,ha,sN,hu.out])) hk
theorem S6{a:Operand}{t elem:TypeId}{i off len:Nat}{c:XC}(hk:SK P ops nt L l ((d,.one (.int .i64 (len:Nat)))::al) hs fun bs=>K (quiet::bs))(ho:o.op = .call ⟨.builtin .len,#[a],#[t]⟩:=by exact rfl)(wn:Wn ops nt al o d:=by exact⟨rfl,rfl,rfl⟩)(ha:ag (rg al) a = .one c:=by exact rfl)(hc:cG c i off len:=by assumption)(hu:aG P t (.slice elem):=by infer_instance):SK P ops nt L (o::l) al hs K:=
 Mj ho wn.w wn.e wn.l ha hc hk
theorem S7{a:Operand}{t elem:TypeId}{i n sz:Nat}(hk:SK P ops nt L l ((d,.one (.int .i64 (n:Nat)))::al) hs fun bs=>K (quiet::bs))(ho:o.op = .call ⟨.builtin .len,#[a],#[t]⟩:=by exact rfl)(wn:Wn ops nt al o d:=by exact⟨rfl,rfl,rfl⟩)(ha:ag (rg al) a=ee i n sz:=by exact rfl)(hu:aG P t (.slice elem):=by infer_instance):SK P ops nt L (o::l) al hs K:=
 Ml ho wn.w wn.e wn.l ha hk
theorem fd{s:TypeId}{a:Operand}{f:Nat}{cs:List XC}{ft:TypeId}{fo:Nat}{c:XC}(hk:SK P ops nt L l ((d,.one c)::al) hs fun bs=>K (quiet::bs))(ho:o.op = .field s a f:=by exact rfl)(wn:Wn ops nt al o d:=by exact⟨rfl,rfl,rfl⟩)(ha:ag (rg al) a = .agg cs:=by exact rfl)(hf:bD P s f ft fo:=by infer_instance)(hz:cA P ft:=by infer_instance)(hc:cs[fo]? = some c:=by exact rfl):SK P ops nt L (o::l) al hs K:=
 Jw ho wn.w wn.e wn.l ha hc hk
theorem TG{a:Operand}{i:Nat}{vs:List X1}{c:XC}(hk:SK P ops nt L l ((d,.one c)::al) hs fun bs=>K (quiet::bs))(ho:o.op = .extract a i:=by exact rfl)(wn:Wn ops nt al o d:=by exact⟨rfl,rfl,rfl⟩)(ha:ag (rg al) a = .tup vs:=by exact rfl)(hc:vs[i]? = some (.one c):=by exact rfl):SK P ops nt L (o::l) al hs K:=
 OY ho wn.w wn.e wn.l ha hc hk
theorem TH{a:Operand}{i:Nat}{vs:List X1}{c:List XC}(hk:SK P ops nt L l ((d,.agg c)::al) hs fun bs=>K (quiet::bs))(ho:o.op = .extract a i:=by exact rfl)(wn:Wn ops nt al o d:=by exact⟨rfl,rfl,rfl⟩)(ha:ag (rg al) a = .tup vs:=by exact rfl)(hc:vs[i]? = some (.agg c):=by exact rfl):SK P ops nt L (o::l) al hs K:=
 Mg ho wn.w wn.e wn.l ha hc hk
theorem SC(T:Nat->Int){t:TypeId}{x ix:Operand}{s:List UInt8}{k:IntKind}{z:Int}(hk:SK P ops nt L l ((d,.one (.int .u8 (T z.toNat)))::al) hs fun bs=>K (quiet::bs))(ho:o.op = .index t x ix:=by exact rfl)(wn:Wn ops nt al o d:=by exact⟨rfl,rfl,rfl⟩)(hu:aG P t .string:=by infer_instance)(ha:ag (rg al) x = .one (.str s):=by exact rfl)(hb:ag (rg al) ix = .one (.int k z):=by exact rfl)(hz:0<=z/\z<256:=by omega)(hT:∀i:Fin 256,s[i.val]?.map (fun b=>(b.toNat:Int))=some (T i.val):=by decide +kernel):SK P ops nt L (o::l) al hs K:=
 O0 T ho wn.w wn.e wn.l ha hb hz hT hk
theorem ld{t:TypeId}{a:Operand}{i off:Nat}{vs:List XC}{e:TypeId}{opn ro:Bool}{c:XC}(hk:SK P ops nt L l ((d,.one c)::al) hs fun bs=>K (⟨false,some i,[]⟩::bs))(ho:o.op = .load t a:=by exact rfl)(ht:cA P t:=by infer_instance)(wn:Wn ops nt al o d:=by exact⟨rfl,rfl,rfl⟩)(ha:ag (rg al) a = .one (.ptr i off):=by exact rfl)(hi:hs[i]? = some (.cells vs e opn ro):=by exact rfl)(hc:vs[off]? = some c:=by exact rfl):SK P ops nt L (o::l) al hs K:=
 fz ho wn.w wn.e wn.l ha hi hc hk
theorem S0{t:TypeId}{a:Operand}{i off:Nat}{k:IntKind}{q:List Int}{e:TypeId}{opn ro:Bool}(hk:SK P ops nt L l ((d,.one (.int k (q.getD off 0)))::al) hs fun bs=>K (⟨false,some i,[]⟩::bs))(ho:o.op = .load t a:=by exact rfl)(ht:cA P t:=by infer_instance)(wn:Wn ops nt al o d:=by exact⟨rfl,rfl,rfl⟩)(ha:ag (rg al) a = .one (.ptr i off):=by exact rfl)(hi:hs[i]? = some (.cells (il k q) e opn ro):=by exact rfl)(hc:off<q.length:=by first|omega|decide|(simp only[bH,aS,List.length_cons,List.length_nil,List.length_set,List.length_append,List.length_replicate];first|omega|decide)):SK P ops nt L (o::l) al hs K:=
 fz ho wn.w wn.e wn.l ha hi (BV hc) hk
theorem S4{t:TypeId}{a:Operand}{i off:Nat}{k:IntKind}{q:List Int}{e:TypeId}(hk:SK P ops nt L l ((d,.one (.int k (q.getD off 0)))::al) hs fun bs=>K (⟨false,some i,[]⟩::bs))(ho:o.op = .load t a:=by exact rfl)(ht:cA P t:=by infer_instance)(wn:Wn ops nt al o d:=by exact⟨rfl,rfl,rfl⟩)(ha:ag (rg al) a = .one (.ptr i off):=by exact rfl)(hi:hs[i]? = some (bz e (il k q)):=by exact rfl)(hc:off<q.length:=by first|omega|decide|(simp only[bH,aS,List.length_cons,List.length_nil,List.length_set,List.length_append,List.length_replicate];first|omega|decide)):SK P ops nt L (o::l) al hs K:=
 fz ho wn.w wn.e wn.l ha (hi.trans (congrArg some (bG (fun hn=>by rw[show q = [] by simpa [il]using hn]at hc;exact absurd hc (Nat.not_lt_zero _))))) (BV hc) hk
theorem S2{t:TypeId}{a:Operand}{i off:Nat}{ob:aj}{k:IntKind}{q:List Int}(hk:SK P ops nt L l ((d,.one (.int k (q.getD off 0)))::al) hs fun bs=>K (⟨false,some i,[]⟩::bs))(ho:o.op = .load t a:=by exact rfl)(ht:cA P t:=by infer_instance)(wn:Wn ops nt al o d:=by exact⟨rfl,rfl,rfl⟩)(ha:ag (rg al) a = .one (.ptr i off):=by exact rfl)(hi:hs[i]? = some ob:=by exact rfl)(hro:RO ob k q:=by assumption)(hc:off<q.length:=by first|omega|decide|(simp only[bH,aS,List.length_cons,List.length_nil,List.length_set,List.length_append,List.length_replicate];first|omega|decide)):SK P ops nt L (o::l) al hs K:=
 Jy ho wn.w wn.e wn.l ha hi hro hc hk
theorem S3{t:TypeId}{a:Operand}{i off:Nat}{k:IntKind}{n:Nat}{q:Nat->Int}{e:TypeId}{opn ro:Bool}(hk:SK P ops nt L l ((d,.one (.int k (q off)))::al) hs fun bs=>K (⟨false,some i,[]⟩::bs))(ho:o.op = .load t a:=by exact rfl)(ht:cA P t:=by infer_instance)(wn:Wn ops nt al o d:=by exact⟨rfl,rfl,rfl⟩)(ha:ag (rg al) a = .one (.ptr i off):=by exact rfl)(hi:hs[i]? = some (.cells (ti k n q) e opn ro):=by exact rfl)(hc:off<n:=by omega):SK P ops nt L (o::l) al hs K:=
 fz ho wn.w wn.e wn.l ha hi (lu hc) hk
theorem lI{t:TypeId}{a:Operand}{s:Nat}{i:Nat}{vs:List XC}{e:TypeId}{opn ro:Bool}(hk:SK P ops nt L l ((d,.agg vs)::al) hs fun bs=>K (⟨false,some i,[]⟩::bs))(ho:o.op = .load t a:=by exact rfl)(ht:cU P t:=by infer_instance)(hs':aF P t s:=by infer_instance)(wn:Wn ops nt al o d:=by exact⟨rfl,rfl,rfl⟩)(ha:ag (rg al) a = .one (.ptr i 0):=by exact rfl)(hi:hs[i]? = some (.cells vs e opn ro):=by exact rfl)(hle:s=vs.length:=by exact rfl):SK P ops nt L (o::l) al hs K:=
 Cq ho wn.w wn.e wn.l ha hi hle hk
theorem t_{t:TypeId}{a:Operand}{s:Nat}{i off:Nat}{vs:List XC}{e:TypeId}{opn ro:Bool}{cs:List XC}(hk:SK P ops nt L l ((d,.agg cs)::al) hs fun bs=>K (⟨false,some i,[]⟩::bs))(ho:o.op = .load t a:=by exact rfl)(ht:cU P t:=by infer_instance)(hs':aF P t s:=by infer_instance)(wn:Wn ops nt al o d:=by exact⟨rfl,rfl,rfl⟩)(ha:ag (rg al) a = .one (.ptr i off):=by exact rfl)(hi:hs[i]? = some (.cells vs e opn ro):=by exact rfl)(hle:off+s<=vs.length:=by first|exact Nat.le_of_ble_eq_true rfl|decide)(hc:(vs.drop off).take s=cs:=by exact rfl):SK P ops nt L (o::l) al hs K:=
 uZ ho wn.w wn.e wn.l ha hi hle hc hk
theorem nC{t:TypeId}{zs:List XC}{n:Nat}{hs':ah}(hk:SK P ops nt L l ((d,.one (.ptr n 0))::al) hs' fun bs=>K (⟨true,.none,[n]⟩::bs))(ho:o.op = .alloc t:=by exact rfl)(hz:aI P t zs:=by infer_instance)(wn:Wn ops nt al o d:=by exact⟨rfl,rfl,rfl⟩)(hn:hs.length=n:=by exact n2)(hb:Nat.blt n Mem.bound=true:=by exact rfl)(hh:hs++[.cells zs t false false]=hs':=by exact n3):SK P ops nt L (o::l) al hs K:=
 Ju ho wn.w wn.e wn.l hn hb hh hk
theorem bx{t:TypeId}{y:Operand}{cs:List XC}{n:Nat}{hs':ah}(hk:SK P ops nt L l ((d,.one (.ptr n 0))::al) hs' fun bs=>K (⟨true,.none,[n]⟩::bs))(ho:o.op = .box t y:=by exact rfl)(wn:Wn ops nt al o d:=by exact⟨rfl,rfl,rfl⟩)(hy:cE (ag (rg al) y)=some cs:=by exact rfl)(hn:hs.length=n:=by exact n2)(hb:Nat.blt n Mem.bound=true:=by exact rfl)(hh:hs++[.cells cs t false false]=hs':=by exact n3):SK P ops nt L (o::l) al hs K:=
 OV ho wn.w wn.e wn.l hy hn hb hh hk
theorem mm{t:TypeId}{n:Nat}{hs':ah}(hk:SK P ops nt L l ((d,.one (.map n))::al) hs' fun bs=>K (⟨true,.none,[n]⟩::bs))(ho:o.op = .makeMap t .none:=by exact rfl)(wn:Wn ops nt al o d:=by exact⟨rfl,rfl,rfl⟩)(hn:hs.length=n:=by exact n2)(hb:Nat.blt n Mem.bound=true:=by exact rfl)(hh:hs++[.map []]=hs':=by exact n3):SK P ops nt L (o::l) al hs K:=
 Cr ho wn.w wn.e wn.l hn hb hh hk
theorem st{t:TypeId}{a y:Operand}{i off:Nat}{c:XC}{vs:List XC}{e:TypeId}{opn:Bool}{vs':List XC}{hs':ah}(hk:SK P ops nt L l al hs' fun bs=>K (⟨true,.none,[i]⟩::bs))(ho:o.op = .store t a y:=by exact rfl)(ht:aF P t 1:=by infer_instance)(hw:aw ops (rg al) o=some true:=by exact rfl)(hd:o.dst = .none:=by exact rfl)(ha:ag (rg al) a = .one (.ptr i off):=by exact rfl)(hy:cE (ag (rg al) y)=some [c]:=by exact rfl)(hi:hs[i]? = some (.cells vs e opn false):=by exact rfl)(hle:off<vs.length:=by first|exact Nat.le_of_ble_eq_true rfl|decide)(hv:vs.set off c=vs':=by exact n4)(hh:hs.set i (.cells vs' e opn false)=hs':=by exact n4):SK P ops nt L (o::l) al hs K:=
 ka ho hw hd ha hy hi hle hv hh hk
theorem TB{t:TypeId}{a y:Operand}{i off:Nat}{k:IntKind}{z:Int}{q:List Int}{e:TypeId}{opn:Bool}{hs':ah}(hk:SK P ops nt L l al hs' fun bs=>K (⟨true,.none,[i]⟩::bs))(ho:o.op = .store t a y:=by exact rfl)(ht:aF P t 1:=by infer_instance)(hw:aw ops (rg al) o=some true:=by exact rfl)(hd:o.dst = .none:=by exact rfl)(ha:ag (rg al) a = .one (.ptr i off):=by exact rfl)(hy:cE (ag (rg al) y)=some [.int k z]:=by exact rfl)(hi:hs[i]? = some (.cells (il k q) e opn false):=by exact rfl)(hle:off<q.length:=by first|omega|decide|(simp only[bH,aS,List.length_cons,List.length_nil,List.length_set,List.length_append,List.length_replicate];first|omega|decide))(hh:hs.set i (.cells (il k (q.set off z)) e opn false)=hs':=by exact n4):SK P ops nt L (o::l) al hs K:=
 ka ho hw hd ha hy hi (by rw[bH];exact hle) (H9 ..) hh hk
theorem TD{t:TypeId}{a y:Operand}{i off:Nat}{k:IntKind}{z:Int}{q:List Int}{e:TypeId}{hs':ah}(hk:SK P ops nt L l al hs' fun bs=>K (⟨true,.none,[i]⟩::bs))(ho:o.op = .store t a y:=by exact rfl)(ht:aF P t 1:=by infer_instance)(hw:aw ops (rg al) o=some true:=by exact rfl)(hd:o.dst = .none:=by exact rfl)(ha:ag (rg al) a = .one (.ptr i off):=by exact rfl)(hy:cE (ag (rg al) y)=some [.int k z]:=by exact rfl)(hi:hs[i]? = some (bz e (il k q)):=by exact rfl)(hle:off<q.length:=by first|omega|decide|(simp only[bH,aS,List.length_cons,List.length_nil,List.length_set,List.length_append,List.length_replicate];first|omega|decide))(hh:hs.set i (bz e (il k (q.set off z)))=hs':=by exact n4):SK P ops nt L (o::l) al hs K:=
 F8 ho hw hd ha hy hi hle hh hk
theorem TC{t:TypeId}{a y:Operand}{i off:Nat}{k:IntKind}{z:Int}{n:Nat}{q:Nat->Int}{e:TypeId}{opn:Bool}{hs':ah}(hk:SK P ops nt L l al hs' fun bs=>K (⟨true,.none,[i]⟩::bs))(ho:o.op = .store t a y:=by exact rfl)(ht:aF P t 1:=by infer_instance)(hw:aw ops (rg al) o=some true:=by exact rfl)(hd:o.dst = .none:=by exact rfl)(ha:ag (rg al) a = .one (.ptr i off):=by exact rfl)(hy:cE (ag (rg al) y)=some [.int k z]:=by exact rfl)(hi:hs[i]? = some (.cells (ti k n q) e opn false):=by exact rfl)(hle:off<n:=by omega)(hh:hs.set i (.cells (ti k n (gG q off z)) e opn false)=hs':=by exact n4):SK P ops nt L (o::l) al hs K:=
 ka ho hw hd ha hy hi (by rw[aS];exact hle) (u9 ..) hh hk
theorem tk{t:TypeId}{a y:Operand}{s:Nat}{i:Nat}{cs:List XC}{vs:List XC}{e:TypeId}{opn:Bool}{hs':ah}(hk:SK P ops nt L l al hs' fun bs=>K (⟨true,.none,[i]⟩::bs))(ho:o.op = .store t a y:=by exact rfl)(ht:aF P t s:=by infer_instance)(hw:aw ops (rg al) o=some true:=by exact rfl)(hd:o.dst = .none:=by exact rfl)(ha:ag (rg al) a = .one (.ptr i 0):=by exact rfl)(hy:cE (ag (rg al) y)=some cs:=by exact rfl)(hi:hs[i]? = some (.cells vs e opn false):=by exact rfl)(hs1:s=cs.length:=by exact rfl)(hs2:s=vs.length:=by exact rfl)(hh:hs.set i (.cells cs e opn false)=hs':=by exact n4):SK P ops nt L (o::l) al hs K:=
 F9 ho hw hd ha hy hi hs1 hs2 hh hk
theorem QH{α : Type}{enc : α->List XC}{s:Nat}[hE:nk enc s][Inhabited α]{t:TypeId}{a:Operand}{i off:Nat}{e:TypeId}{q:List α}{j:Nat}(hk:SK P ops nt L l ((d,.agg (enc (q.getD j default)))::al) hs fun bs=>K (⟨false,some i,[]⟩::bs))(ho:o.op = .load t a:=by exact rfl)(ht:cU P t:=by infer_instance)(hs':aF P t s:=by infer_instance)(wn:Wn ops nt al o d:=by exact⟨rfl,rfl,rfl⟩)(ha:ag (rg al) a = .one (.ptr i off):=by exact rfl)(hi:hs[i]? = some (bz e (fl enc q)):=by exact rfl)(hj:off=j*s:=by exact rfl)(hc:j<q.length:=by omega):SK P ops nt L (o::l) al hs K:=
 Jx ho wn.w wn.e wn.l ha hi hj hc hk
theorem Oc{α : Type}{enc : α->List XC}{s:Nat}[hE:nk enc s][Inhabited α]{t:TypeId}{a:Operand}{i off:Nat}{ob:aj}{q:List α}{j:Nat}(hk:SK P ops nt L l ((d,.agg (enc (q.getD j default)))::al) hs fun bs=>K (⟨false,some i,[]⟩::bs))(ho:o.op = .load t a:=by exact rfl)(ht:cU P t:=by infer_instance)(hs':aF P t s:=by infer_instance)(wn:Wn ops nt al o d:=by exact⟨rfl,rfl,rfl⟩)(ha:ag (rg al) a = .one (.ptr i off):=by exact rfl)(hi:hs[i]? = some ob:=by exact rfl)(hro:Br ob enc q:=by assumption)(hj:off=j*s:=by exact rfl)(hc:j<q.length:=by omega):SK P ops nt L (o::l) al hs K:=
 F7 ho wn.w wn.e wn.l ha hi hro hj hc hk
theorem b0{t:TypeId}{zs:List XC}{pl:List (Nat×Nat)}(hk:SK P ops nt L l ((d,.agg zs)::al) hs fun bs=>K (quiet::bs))(ho:o.op = .build t #[]:=by exact rfl)(hz:aI P t zs:=by infer_instance)(hp:cC P t pl:=by infer_instance)(wn:Wn ops nt al o d:=by exact⟨rfl,rfl,rfl⟩):SK P ops nt L (o::l) al hs K:=
 F3 ho wn.w wn.e wn.l hk
theorem SN{t:TypeId}{zs:List XC}{n:Nat}{e:TypeId}{s:Nat}(hk:SK P ops nt L l ((d,.agg zs)::al) hs fun bs=>K (quiet::bs))(ho:o.op = .build t #[]:=by exact rfl)(hz:aI P t zs:=by infer_instance)(hu:aG P t (.array n e):=by infer_instance)(hs':aF P e s:=by infer_instance)(wn:Wn ops nt al o d:=by exact⟨rfl,rfl,rfl⟩):SK P ops nt L (o::l) al hs K:=
 Co ho wn.w wn.e wn.l hk
theorem bA{t:TypeId}{parts:Array (Nat×Operand)}{zs:List XC}{n:Nat}{e:TypeId}{s:Nat}{out:List XC}{out':List XC}(hk:SK P ops nt L l ((d,.agg out')::al) hs fun bs=>K (quiet::bs))(ho:o.op = .build t parts:=by exact rfl)(hz:aI P t zs:=by infer_instance)(hu:aG P t (.array n e):=by infer_instance)(hs':aF P e s:=by infer_instance)(wn:Wn ops nt al o d:=by exact⟨rfl,rfl,rfl⟩)(hr:nN (fun i=>some (i*s,s)) zs.length 0 (parts.toList.map fun p=>(p.1,ag (rg al) p.2))=true:=by exact rfl)(hc:iW (parts.toList.map fun p=>(p.1,ag (rg al) p.2))=some out:=by exact rfl)(hn:out=out':=by first|(simp only[List.cons_append,List.nil_append,List.append_nil];exact rfl)|exact rfl):SK P ops nt L (o::l) al hs K:=
 F4 ho wn.w wn.e wn.l hr hc hn hk
theorem bS{t:TypeId}{parts:Array (Nat×Operand)}{zs:List XC}{pl:List (Nat×Nat)}{out:List XC}{out':List XC}(hk:SK P ops nt L l ((d,.agg out')::al) hs fun bs=>K (quiet::bs))(ho:o.op = .build t parts:=by exact rfl)(hz:aI P t zs:=by infer_instance)(hp:cC P t pl:=by infer_instance)(wn:Wn ops nt al o d:=by exact⟨rfl,rfl,rfl⟩)(hr:nN (fun i=>pl[i]?) zs.length 0 (parts.toList.map fun p=>(p.1,ag (rg al) p.2))=true:=by exact rfl)(hc:iW (parts.toList.map fun p=>(p.1,ag (rg al) p.2))=some out:=by exact rfl)(hn:out=out':=by first|(simp only[List.cons_append,List.nil_append,List.append_nil];exact rfl)|exact rfl):SK P ops nt L (o::l) al hs K:=
 F6 ho wn.w wn.e wn.l hr hc hn hk
theorem bF{t:TypeId}{parts:Array (Nat×Operand)}{zs:List XC}{pl:List (Nat×Nat)}{out:List XC}(hk:SK P ops nt L l ((d,.agg out)::al) hs fun bs=>K (quiet::bs))(ho:o.op = .build t parts:=by exact rfl)(hz:aI P t zs:=by infer_instance)(hp:cC P t pl:=by infer_instance)(wn:Wn ops nt al o d:=by exact⟨rfl,rfl,rfl⟩)(hc:gv (fun i=>pl[i]?) zs (parts.toList.map fun p=>(p.1,ag (rg al) p.2))=some out:=by exact rfl):SK P ops nt L (o::l) al hs K:=
 F5 ho wn.w wn.e wn.l hc hk
theorem Ss{t t1 e:TypeId}{sz m:Nat}{a b:Operand}{zs:List XC}{i n:Nat}{cs ds:List XC}{N:Nat}{hs':ah}(hsrc:∀M,aV M hs->jv P t1 sz (ag (rg al) b) M=some (m,ds))(hk:SK P ops nt L l ((d,.one (.slice N 0 (n+m) (.toEnd sz)))::al) hs' fun bs=>K (⟨true,.none,[i,N]⟩::bs))(ho:o.op = .call ⟨.builtin .append,#[a,b],#[t,t1]⟩:=by exact rfl)(hu:aG P t (.slice e):=by infer_instance)(hz:aI P e zs:=by infer_instance)(hI:TI P e sz:=by infer_instance)(wn:Wn ops nt al o d:=by exact⟨rfl,rfl,rfl⟩)(hsz:zs.length=sz/\0<sz:=by exact⟨rfl,Nat.le_of_ble_eq_true rfl⟩)(ha:ag (rg al) a=ee i n sz:=by exact rfl)(hi:hs[i]? = some (bz e cs):=by exact rfl)(hn:cs.length=n*sz:=by first|(simp only[bH,Nat.mul_one];done)|(simp only[bH,Nat.mul_one];omega)|omega|decide|(simp only[bH,aS,List.length_cons,List.length_nil,List.length_set,List.length_append,List.length_replicate];first|(simp only[bH,Nat.mul_one];done)|(simp only[bH,Nat.mul_one];omega)|omega|decide))(hm:0<m/\n+m<=2000000000:=by omega)(hN:hs.length=N:=by exact n2)(hb:Nat.blt N Mem.bound=true:=by exact rfl)(hh:hs.set i .dead++[.cells (cs++ds) e true false]=hs':=by first|(simp only[List.set_cons_succ,List.set_cons_zero,List.cons_append,List.nil_append];exact rfl)|exact rfl):SK P ops nt L (o::l) al hs K:=
 Cn ho wn.w wn.e wn.l hsz ha hi hn hsrc hm hN hb hh hk
theorem PR{t t1 e e1:TypeId}{a b:Operand}{k:IntKind}{i n j len:Nat}{cap:oV}{q r:List Int}{et:TypeId}{opn ro:Bool}{N:Nat}{hs':ah}(hk:SK P ops nt L l ((d,ee N (n+len) 1)::al) hs' fun bs=>K (⟨true,.none,[i,N]⟩::bs))(ho:o.op = .call ⟨.builtin .append,#[a,b],#[t,t1]⟩:=by exact rfl)(hu:aG P t (.slice e):=by infer_instance)(hu1:aG P t1 (.slice e1):=by infer_instance)(hz:aI P e [.int k 0]:=by infer_instance)(hI:TI P e 1:=by infer_instance)(wn:Wn ops nt al o d:=by exact⟨rfl,rfl,rfl⟩)(ha:ag (rg al) a=ee i n 1:=by exact rfl)(hi:hs[i]? = some (bz e (il k q)):=by exact rfl)(hb:ag (rg al) b = .one (.slice j 0 len cap):=by exact rfl)(hj:hs[j]? = some (.cells (il k r) et opn ro):=by exact rfl)(hn:q.length=n:=by first|assumption|exact rfl|(simp only[List.length_append,List.length_cons,List.length_nil];done)|(simp only[List.length_append,List.length_cons,List.length_nil];omega))(hr:r.length=len:=by first|assumption|exact rfl|(simp only[List.length_append,List.length_cons,List.length_nil];done)|(simp only[List.length_append,List.length_cons,List.length_nil];omega))(hm:0<len/\n+len<=2000000000:=by omega)(hN:hs.length=N:=by exact n2)(hbd:Nat.blt N Mem.bound=true:=by exact rfl)(hh:hs.set i .dead++[bz e (il k (q++r))]=hs':=by first|(simp only[List.set_cons_succ,List.set_cons_zero,List.cons_append,List.nil_append];exact rfl)|exact rfl):SK P ops nt L (o::l) al hs K:=
 OT ho wn.w wn.e wn.l ha hi hb hj hn hr hm hN hbd hh hk
theorem KT{t t1 e e1:TypeId}{a b:Operand}{k:IntKind}{i len n:Nat}{q r:List Int}{et:TypeId}{opn ro:Bool}{N:Nat}{hs':ah}(hr:r.length=n)(hsrc:∀M,aV M hs->jv P t1 1 (ag (rg al) b) M=some (n,il k r))(h1:n=0->SK P ops nt L l ((d,.one (.slice i 0 len (.exact len)))::al) hs fun bs=>K (⟨true,.none,[]⟩::bs))(h2:0<n->SK P ops nt L l ((d,.one (.slice N 0 (len+n) (.toEnd 1)))::al) hs' fun bs=>K (⟨true,.none,[N]⟩::bs))(ho:o.op = .call ⟨.builtin .append,#[a,b],#[t,t1]⟩:=by exact rfl)(hu:aG P t (.slice e):=by infer_instance)(hu1:aG P t1 (.slice e1):=by infer_instance)(hz:aI P e [.int k 0]:=by infer_instance)(hI:TI P e 1:=by infer_instance)(wn:Wn ops nt al o d:=by exact⟨rfl,rfl,rfl⟩)(ha:ag (rg al) a = .one (.slice i 0 len (.exact len)):=by exact rfl)(hi:hs[i]? = some (.cells (il k q) et opn ro):=by exact rfl)(hq:q.length=len:=by first|assumption|exact rfl)(hm:len+n<=2000000000:=by omega)(hN:hs.length=N:=by exact n2)(hbd:Nat.blt N Mem.bound=true:=by exact rfl)(hh:hs++[.cells (il k (q++r)) e true false]=hs':=by exact n3):SK P ops nt L (o::l) al hs K:=
 OS ho wn.w wn.e wn.l ha hi hq hr hsrc hm hN hbd hh h1 h2
theorem SP{t t1 e e1:TypeId}{a b:Operand}{k:IntKind}{j len:Nat}{cap:oV}{q r:List Int}{et:TypeId}{opn:Bool}{hs':ah}(hsrc:∀M,aV M hs->jv P t1 1 (ag (rg al) b) M=some (len,il k r))(hk:SK P ops nt L l ((d,.one (.int .i64 (len:Nat)))::al) hs' fun bs=>K (⟨true,.none,[j]⟩::bs))(ho:o.op = .call ⟨.builtin .copy,#[a,b],#[t,t1]⟩:=by exact rfl)(hu:aG P t (.slice e):=by infer_instance)(hu1:aG P t1 (.slice e1):=by infer_instance)(hse:aF P e 1:=by infer_instance)(wn:Wn ops nt al o d:=by exact⟨rfl,rfl,rfl⟩)(ha:ag (rg al) a = .one (.slice j 0 len cap):=by exact rfl)(hj:hs[j]? = some (.cells (il k q) et opn false):=by exact rfl)(hq:q.length=len:=by first|exact List.length_replicate|assumption|exact rfl)(hr:r.length=len:=by first|assumption|exact rfl)(hh:hs.set j (.cells (il k r) et opn false)=hs':=by exact n4):SK P ops nt L (o::l) al hs K:=
 OX ho wn.w wn.e wn.l ha hj hq hr hsrc hh hk
theorem Tc{t e:TypeId}{a b:Operand}{k:IntKind}{kl kc:IntKind}{x y:Int}{n:Nat}{N:Nat}{hs':ah}(hk:SK P ops nt L l ((d,.one (.slice N 0 n (.exact n)))::al) hs' fun bs=>K (⟨true,.none,[N]⟩::bs))(ho:o.op = .makeSlice t a b:=by exact rfl)(hu:aG P t (.slice e):=by infer_instance)(hz:aI P e [.int k 0]:=by infer_instance)(hI:TI P e 1:=by infer_instance)(wn:Wn ops nt al o d:=by exact⟨rfl,rfl,rfl⟩)(ha:ag (rg al) a = .one (.int kl x):=by exact rfl)(hb:ag (rg al) b = .one (.int kc y):=by exact rfl)(hx:x=(n:Nat):=by exact rfl)(hy:y=(n:Nat):=by exact rfl)(hn:n<=2000000000:=by first|omega|exact Nat.le_of_ble_eq_true rfl)(hN:hs.length=N:=by exact n2)(hbd:Nat.blt N Mem.bound=true:=by exact rfl)(hh:hs++[.cells (il k (List.replicate n 0)) e false false]=hs':=by exact n3):SK P ops nt L (o::l) al hs K:=
 O1 ho wn.w wn.e wn.l ha hb hx hy hn hN hbd hh hk
theorem RM{t e:TypeId}{k:IntKind}{n:Nat}{hs':ah}(hk:SK P ops nt L l ((d,.one (.slice n 0 0 (.exact 0)))::al) hs' fun bs=>K (⟨true,.none,[n]⟩::bs))(ho:o.op = .buildSlice t 0 #[]:=by exact rfl)(hu:aG P t (.slice e):=by infer_instance)(hz:aI P e [.int k 0]:=by infer_instance)(hse:aF P e 1:=by infer_instance)(wn:Wn ops nt al o d:=by exact⟨rfl,rfl,rfl⟩)(hn:hs.length=n:=by exact n2)(hb:Nat.blt n Mem.bound=true:=by exact rfl)(hh:hs++[.cells (il k []) e false false]=hs':=by exact n3):SK P ops nt L (o::l) al hs K:=
 Md ho wn.w wn.e wn.l hn hb hh hk
theorem RN{t e:TypeId}{y:Operand}{k:IntKind}{z:Int}{n:Nat}{hs':ah}(hk:SK P ops nt L l ((d,.one (.slice n 0 1 (.exact 1)))::al) hs' fun bs=>K (⟨true,.none,[n]⟩::bs))(ho:o.op = .buildSlice t 1 #[(0,y)]:=by exact rfl)(hu:aG P t (.slice e):=by infer_instance)(hz:aI P e [.int k 0]:=by infer_instance)(hse:aF P e 1:=by infer_instance)(wn:Wn ops nt al o d:=by exact⟨rfl,rfl,rfl⟩)(hy:cE (ag (rg al) y)=some [.int k z]:=by exact rfl)(hn:hs.length=n:=by exact n2)(hb:Nat.blt n Mem.bound=true:=by exact rfl)(hh:hs++[.cells (il k [z]) e false false]=hs':=by exact n3):SK P ops nt L (o::l) al hs K:=
 Mf ho wn.w wn.e wn.l hy hn hb hh hk
theorem tH{α : Type}{enc : α->List XC}{s:Nat}[hE:nk enc s]{t e:TypeId}{y:Operand}{zs:List XC}{a : α}{n:Nat}{hs':ah}(hk:SK P ops nt L l ((d,.one (.slice n 0 1 (.exact 1)))::al) hs' fun bs=>K (⟨true,.none,[n]⟩::bs))(ho:o.op = .buildSlice t 1 #[(0,y)]:=by exact rfl)(hu:aG P t (.slice e):=by infer_instance)(hz:aI P e zs:=by infer_instance)(hse:aF P e s:=by infer_instance)(hzl:zs.length=s:=by exact rfl)(hsm:s<=16777216:=by exact Nat.le_of_ble_eq_true rfl)(wn:Wn ops nt al o d:=by exact⟨rfl,rfl,rfl⟩)(hy:cE (ag (rg al) y)=some (enc a):=by exact rfl)(hn:hs.length=n:=by exact n2)(hb:Nat.blt n Mem.bound=true:=by exact rfl)(hh:hs++[.cells (fl enc [a]) e false false]=hs':=by exact n3):SK P ops nt L (o::l) al hs K:=
 Me ho hzl hsm wn.w wn.e wn.l hy hn hb hh hk
theorem wi{α : Type}{enc : α->List XC}{s:Nat}[hE:nk enc s]{t t1 e e1:TypeId}{a b:Operand}{zs:List XC}{i n j len:Nat}{cap:oV}{q r:List α}{et:TypeId}{opn ro:Bool}{N:Nat}{hs':ah}(hk:SK P ops nt L l ((d,ee N (n+len) s)::al) hs' fun bs=>K (⟨true,.none,[i,N]⟩::bs))(ho:o.op = .call ⟨.builtin .append,#[a,b],#[t,t1]⟩:=by exact rfl)(hu:aG P t (.slice e):=by infer_instance)(hu1:aG P t1 (.slice e1):=by infer_instance)(hz:aI P e zs:=by infer_instance)(hI:TI P e s:=by infer_instance)(hzl:zs.length=s:=by exact rfl)(wn:Wn ops nt al o d:=by exact⟨rfl,rfl,rfl⟩)(ha:ag (rg al) a=ee i n s:=by exact rfl)(hi:hs[i]? = some (bz e (fl enc q)):=by exact rfl)(hb:ag (rg al) b = .one (.slice j 0 len cap):=by exact rfl)(hj:hs[j]? = some (.cells (fl enc r) et opn ro):=by exact rfl)(hn:q.length=n:=by first|assumption|exact rfl|(simp only[List.length_append,List.length_cons,List.length_nil];done)|(simp only[List.length_append,List.length_cons,List.length_nil];omega))(hr:r.length=len:=by first|assumption|exact rfl)(hm:0<len/\n+len<=2000000000:=by omega)(hN:hs.length=N:=by exact n2)(hbd:Nat.blt N Mem.bound=true:=by exact rfl)(hh:hs.set i .dead++[bz e (fl enc (q++r))]=hs':=by first|(simp only[List.set_cons_succ,List.set_cons_zero,List.cons_append,List.nil_append];exact rfl)|exact rfl):SK P ops nt L (o::l) al hs K:=
 OU ho hzl wn.w wn.e wn.l ha hi hb hj hn hr hm hN hbd hh hk
theorem cl{f:FuncId}{vs:List XV}{v:XV}{hs':ah}{ws:List Nat}{g:Operand}{args:Array Operand}{ts:Array TypeId}{c:XC}{caps:List XC}(hk:SK P ops nt (⟨f,vs,hs,v,hs',ws⟩::L) l ((d,v)::al) hs' fun bs=>K (⟨true,.none,ws++mu hs.length hs'.length⟩::bs))(ho:o.op = .call ⟨.value g,args,ts⟩:=by exact rfl)(wn:Wn ops nt al o d:=by exact⟨rfl,rfl,rfl⟩)(hg:ag (rg al) g = .one c:=by exact rfl)(hx:za c=some (f,caps):=by exact rfl)(hcb:eI P f=true:=by kernel_rfl)(ha:args.toList.map (ag (rg al))++caps.map .one=vs:=by exact rfl)(hi:aA.Sound P ⟨f,vs,hs,v,hs',ws⟩):SK P ops nt L (o::l) al hs K:=
 ax hi ho wn.w wn.e wn.l hg hx hcb ha hk
theorem Sx{f:FuncId}{vs:List XV}{v:XV}{hs':ah}{ws:List Nat}{g:Operand}{args:Array Operand}{ts:Array TypeId}{c:XC}{caps:List XC}(hk:SK P ops nt (⟨f,vs,hs,v,hs',ws⟩::L) l al hs' fun bs=>K (⟨true,.none,ws++mu hs.length hs'.length⟩::bs))(ho:o.op = .call ⟨.value g,args,ts⟩:=by exact rfl)(hw:aw ops (rg al) o=some true:=by exact rfl)(hd:o.dst = .none:=by exact rfl)(hg:ag (rg al) g = .one c:=by exact rfl)(hx:za c=some (f,caps):=by exact rfl)(hcb:eI P f=true:=by kernel_rfl)(ha:args.toList.map (ag (rg al))++caps.map .one=vs:=by exact rfl)(hi:aA.Sound P ⟨f,vs,hs,v,hs',ws⟩):SK P ops nt L (o::l) al hs K:=
 Jv hi ho hw hd hg hx hcb ha hk
theorem BD{f:FuncId}{vs:List XV}{b:Bool}{hs':ah}{ws:List Nat}{g:Operand}{args:Array Operand}{ts:Array TypeId}{c:XC}{caps:List XC}(h1:b=true->SK P ops nt (⟨f,vs,hs,.one (.bool b),hs',ws⟩::L) l ((d,.one (.bool true))::al) hs' fun bs=>K (⟨true,.none,ws++mu hs.length hs'.length⟩::bs))(h2:b=false->SK P ops nt (⟨f,vs,hs,.one (.bool b),hs',ws⟩::L) l ((d,.one (.bool false))::al) hs' fun bs=>K (⟨true,.none,ws++mu hs.length hs'.length⟩::bs))(ho:o.op = .call ⟨.value g,args,ts⟩:=by exact rfl)(wn:Wn ops nt al o d:=by exact⟨rfl,rfl,rfl⟩)(hg:ag (rg al) g = .one c:=by exact rfl)(hx:za c=some (f,caps):=by exact rfl)(hcb:eI P f=true:=by kernel_rfl)(ha:args.toList.map (ag (rg al))++caps.map .one=vs:=by exact rfl)(hi:aA.Sound P ⟨f,vs,hs,.one (.bool b),hs',ws⟩):SK P ops nt L (o::l) al hs K:=by
 refine ax hi ho wn.w wn.e wn.l hg hx hcb ha ?_
 cases hb:b with
 | true=>rw[hb]at h1;exact h1 rfl
 | false=>rw[hb]at h2;exact h2 rfl
theorem RS{f:FuncId}{a b:Operand}{c c2:XC}(hk:SK P ops nt L l ((d,.one (.bind (.bind (.fn f) c) c2))::al) hs fun bs=>K (quiet::bs))(ho:o.op = .makeFunc (.func f) #[] #[a,b]:=by exact rfl)(wn:Wn ops nt al o d:=by exact⟨rfl,rfl,rfl⟩)(ha:ag (rg al) a = .one c:=by exact rfl)(hb:ag (rg al) b = .one c2:=by exact rfl):SK P ops nt L (o::l) al hs K:=
 SK.lift wn.e wn.l (fun _=>az.pure wn.w (by rw[ho];simp[aR,ha,hb,jk])) hk
theorem Ty{t e:TypeId}{a:Operand}{lo hi:Option Operand}{s:Nat}{i off n p q:Nat}{c:XC}{z w:Int}(hk:∀c',cG c' i (off+p*s) (q-p)->SK P ops nt L l ((d,.one c')::al) hs fun bs=>K (quiet::bs))(ho:o.op = .slice t a lo hi .none:=by exact rfl)(hu:aG P t (.slice e):=by infer_instance)(hs':aF P e s:=by infer_instance)(wn:Wn ops nt al o d:=by exact⟨rfl,rfl,rfl⟩)(ha:ag (rg al) a = .one c:=by exact rfl)(hc:cG c i off n:=by assumption)(hl:sJ (lo.map (ag (rg al))) 0=some z:=by exact rfl)(hh:sJ (hi.map (ag (rg al))) (n:Nat)=some w:=by exact rfl)(hp:z=(p:Nat):=by first|exact rfl|omega)(hq:w=(q:Nat):=by first|exact rfl|omega)(hb:p<=q/\q<=n:=by omega):SK P ops nt L (o::l) al hs K:=
 O5 ho wn.w wn.e wn.l ha hc hl hh hp hq hb hk
theorem S5{kk:IntKind}{t:TypeId}{x ix:Operand}{kt et:TypeId}{i:Nat}{z:Int}{M:List (Int×Bool)}(h1:(dk M z).getD false=true->SK P ops nt L l ((d,.one (.bool true))::al) hs fun bs=>K (⟨false,some i,[]⟩::bs))(h2:(dk M z).getD false=false->SK P ops nt L l ((d,.one (.bool false))::al) hs fun bs=>K (⟨false,some i,[]⟩::bs))(ho:o.op = .lookup t x ix false:=by exact rfl)(hu:aG P t (.map kt et):=by infer_instance)(hku:aG P kt (.int kk):=by infer_instance)(hz:ky P et=some (.one (.bool false)):=by kernel_rfl)(wn:Wn ops nt al o d:=by exact⟨rfl,rfl,rfl⟩)(hx:ag (rg al) x = .one (.map i):=by exact rfl)(hk:lO (ag (rg al) ix)=some (.one (.int kk z)):=by exact rfl)(hi:hs[i]? = some (.map (gD (kI kk) vB M)):=by exact rfl):SK P ops nt L (o::l) al hs K:=
 JA ho hz wn.w wn.e wn.l hx hk hi h1 h2
theorem Tb{kk:IntKind}{t:TypeId}{x ix y:Operand}{kt et:TypeId}{i:Nat}{k:Int}{v:Bool}{M:List (Int×Bool)}{hs':ah}(hk:SK P ops nt L l al hs' fun bs=>K (⟨true,.none,[i]⟩::bs))(ho:o.op = .mapUpdate t x ix y:=by exact rfl)(hu:aG P t (.map kt et):=by infer_instance)(hku:aG P kt (.int kk):=by infer_instance)(hw:aw ops (rg al) o=some true:=by exact rfl)(hd:o.dst = .none:=by exact rfl)(hx:ag (rg al) x = .one (.map i):=by exact rfl)(hk':lO (ag (rg al) ix)=some (.one (.int kk k)):=by exact rfl)(hv:lO (ag (rg al) y)=some (.one (.bool v)):=by exact rfl)(hi:hs[i]? = some (.map (gD (kI kk) vB M)):=by exact rfl)(hh:hs.set i (.map (gD (kI kk) vB (rL M k v)))=hs':=by exact n4):SK P ops nt L (o::l) al hs K:=
 u0 ho hw hd (kc:=kI kk) (vc:=vB) M9 hx hk' hv hi hh hk
section
variable {K:ch}
theorem wS{a b:Code}(h:WX P nt nI (.code a) al hs (PY P nt nI b K)):WX P nt nI (.code (.seq a b)) al hs K:=
 WX.seq h
theorem wA{id:Nat}(h:SK P ops nt [] ops.toList al hs fun _ al' hs'=>K .normal al' hs'):WX P nt nI (.code (.region id ops false)) al hs K:=
 WX.P5 h
theorem wD{id:Nat}(h:SK P ops nt [] ops.toList al hs fun bs al' hs'=>wt (iu ops.toList) bs=true/\K .normal al' hs')(hP:P.follows .mixedOrders=true:=by kernel_rfl)(hst:cK ops nt (iu ops.toList)=true:=by kernel_rfl):WX P nt nI (.code (.region id ops true)) al hs K:=
 WX.NP hP hst h
theorem wT{c:Operand}{x y:Code}(h:WX P nt nI (.code x) al hs K)(hc:ag (rg al) c = .one (.bool true):=by exact rfl):WX P nt nI (.code (.cond c x y)) al hs K:=
 WX.Qk hc h
theorem wF{c:Operand}{x y:Code}(h:WX P nt nI (.code y) al hs K)(hc:ag (rg al) c = .one (.bool false):=by exact rfl):WX P nt nI (.code (.cond c x y)) al hs K:=
 WX.Qj hc h
theorem wK(h:K .normal al hs):WX P nt nI (.code .skip) al hs K:=
 WX.skip h
theorem wB{id:Nat}{c:Code}(h:WX P nt nI (.code c) al hs (xF id K)):WX P nt nI (.code (.block id c)) al hs K:=
 WX.block h
theorem wE{id:Nat}(h:K (.exit id) al hs):WX P nt nI (.code (.exit id)) al hs K:=
 WX.exit h
theorem wR(h:K .ret al hs):WX P nt nI (.code .ret) al hs K:=
 WX.ret h
end
end Go.Xm
namespace Go.Xm
variable [av]
theorem nL{α : Type}{a b : α}(h:a=b:=by first|(simp only[List.length_cons,List.length_nil,List.length_append,List.length_set,Nat.reduceAdd,Nat.zero_add];exact rfl)|exact rfl|fail):a=b:=h
theorem nA{α : Type}{a b : α}(h:a=b:=by first|(simp only[bC,List.set_cons_succ,List.set_cons_zero,List.cons_append,List.nil_append];exact rfl)|exact rfl|fail):a=b:=h
theorem hS{α : Type}{a b : α}(h:a=b:=by first|(simp only[List.set_cons_succ,List.set_cons_zero];exact rfl)|exact rfl|fail):a=b:=h
theorem zG{G G':Prop}(k:G')(h:G'->G:=by intro k;refine qz (qg ?_);first|exact Tw k|fail):G:=h k
theorem zA{G G':Prop}(k:G')(h:G'->G:=by intro k;refine qz ?_;first
 |(refine q4 ?_;first|(refine t0 ?_;first|exact Te k|exact SM k|exact Tf k|fail)|(refine t1 ?_;first|exact S0 k|exact S3 k|exact S4 k|exact ld k|exact QH k|exact Oc k|exact lI k|exact t_ k|exact S2 k|fail)|(refine t2 ?_;first|exact TB k|exact TC k|exact TD k|exact st k|exact tk k|fail)|(refine t3 ?_;first|exact SZ k|exact SY k|exact SW k|exact SX k|fail)|exact fa k|fail)
 |(refine Tr ?_;first|exact ad k|exact sb k|exact ml k|exact qu k|exact re k|exact sr k|exact JF (n:=1) k|exact JF (n:=2) k|exact JF (n:=3) k|exact JF (n:=4) k|exact JF (n:=5) k|exact JF (n:=6) k|exact JF (n:=7) k|exact JF (n:=8) k|exact JF k|exact an 1 k|exact an 2 k|exact an 3 k|exact an 4 k|exact an 5 k|exact an 6 k|exact an 8 k|exact an 7 k|exact xr k|exact Tm k|exact SJ k|fail)
 |(refine Ts ?_;first|exact cT k|exact cF k|exact RL k|exact SU k|exact Th k|fail)
 |(refine Tt ?_;first|exact Tp k|exact To k|exact Tk k|exact ng k|exact cv k|exact TG k|exact TH k|exact nl k|fail)
 |(refine Tu ?_;first|(refine TE ?_;first|exact S9 k|exact S6 k|exact S7 k|exact S8 k|fail)|exact Tg k|exact Rq k|exact Ta k|exact SE k|exact PR k|exact wi k|fail)
 |exact b0 k|exact SN k|exact bS k|exact bA k|exact bF k|exact RM k|exact RN k|exact nC k|exact bx k|exact mm k|exact Tc k|exact RS k|exact Tb k|fail):G:=h k
theorem Sy{L:List aA}(h:ai L:=by first|exact ai.nil|exact ai.one _|(refine ai.pf ?_;(repeat' (first|exact True.intro|refine And.intro ?_ ?_|exact Compat.ne rfl));done)|fail):ai L:=h
theorem zz{G G':Prop}(k:G')(h:G'->G:=by intro k;first|exact zG k|exact zA k|exact bM Sy ⟨by kernel_rfl,k⟩|exact bM Sy k|exact wS k|exact wA k|exact wD k|exact wT k|exact wF k|exact wK k|exact wB k|exact wE k|exact wR k|fail):G:=h k
theorem zx{G:Prop}{A B:Prop}{G1:A->Prop}{G2:B->Prop}(k1:∀a,G1 a)(k2:∀b,G2 b)(h:(∀a,G1 a)->(∀b,G2 b)->G:=by intro k1 k2;first|exact cX k1 k2|exact S5 k1 k2|fail):G:=h k1 k2
theorem bq{nI:Nat}{al al2:aL}{hs hs2:ah}(τl:List Nat)(nd:Nd τl hs2:=by exact(by first|exact Or.inl (by decide)|exact Or.inr ⟨_,(by repeat' (first|exact fZ.nil|apply fZ.dead|apply fZ.cons)),(by decide)⟩))(hid:(List.range nI).all (fun j=>nth τl j==j)=true:=by exact rfl)(obj:af (nth τl) hs τl hs2:=by(repeat' (first|exact af.nil|refine af.flat rfl ?_|refine af.cons rfl ?_|refine af.dead rfl ?_|refine af.gT rfl rfl rfl rfl ?_|refine af.cons (by simp only[aj.aB,List.map_cons,List.map_nil,XC.aB,aX];exact rfl) ?_));first|done|fail)(reg:ae (nth τl) al al2:=by(repeat' (first|exact ae.nil|refine ae.flat rfl ?_|refine ae.cons rfl ?_|refine ae.sl rfl (by assumption) rfl ?_|refine ae.jD rfl rfl (by first|rfl|omega|(simp;done)|(simp;omega)) ?_|refine ae.cons (by simp only[XV.aB,List.map_cons,List.map_nil,aX];rfl) ?_));first|done|fail):GoTo nI al hs al2 hs2 τl:=⟨nd,hid,obj,reg⟩
theorem mE{nI:Nat}{al:aL}{hs:ah}(le:Nat.ble nI hs.length=true:=by exact rfl)(bnd:Nat.blt hs.length Mem.bound=true:=by exact rfl)(objs:aq hs.length hs:=by repeat' (first|exact aq.nil|refine aq.flat ?_|refine aq.cons (by first|(simp[aj.br,XC.ok,aJ];done)|simp[aj.br,XC.ok,aJ, *]) ?_))(gS:jw hs.length al:=by repeat' (first|exact jw.nil|refine jw.flat ?_|refine jw.cons (by first|exact trivial|exact ib (Nat.le_of_ble_eq_true rfl)|exact cG.ok ‹_› (Nat.le_of_ble_eq_true rfl)|(simp[XV.br,XC.ok,X1.ok];done)|simp[XV.br,XC.ok,X1.ok,aJ]) ?_)):q_ nI al hs:=⟨le,bnd,objs,gS⟩
variable {P:Program} {fn:Func} {n:Nat} {e:XE} {al:aL} {hs hs':ah} {v1 v:XV}
theorem kV(τl:List Nat)(hv:v1=v.aB (nth τl))(he:e = .normal\/e = .ret:=by first|exact .inr rfl|exact .inl rfl|fail)(hr:sE P fn al hs v1:=by first|exact fun m hm=>rfl|exact f4.one rfl (.cell rfl rfl (cy rfl) .nil)|exact f4.two rfl (.cell rfl rfl (cy rfl) (.tmp rfl .nil))|exact f4.zero rfl .nil|exact f4.two rfl (by repeat' (first|exact f4.nil|refine f4.tmp rfl ?_|refine f4.cell rfl rfl (cy (by first|rfl|assumption)) ?_))|fail)(hok:v.br hs'.length:=by first|exact trivial|exact ib (Nat.le_of_ble_eq_true rfl)|exact LM (aJ (Nat.le_of_ble_eq_true rfl)) trivial|exact XV.jZ rfl _|(simp[XV.br,X1.ok,XC.ok];done)|(simp[XV.br,X1.ok,XC.ok,aJ];done)|fail)(nd:Nd τl hs':=by exact(by first|exact Or.inl (by decide)|exact Or.inr ⟨_,(by repeat' (first|exact fZ.nil|apply fZ.dead|apply fZ.cons)),(by decide)⟩))(hid:(List.range n).all (fun j=>nth τl j==j)=true:=by exact rfl)(ho:af (nth τl) hs τl hs':=by repeat' (first|exact af.nil|refine af.flat rfl ?_|refine af.cons rfl ?_|refine af.dead rfl ?_|refine af.cons (by simp only[aj.aB,List.map_cons,List.map_nil,XC.aB,aX];exact rfl) ?_))(hk:aq hs'.length hs':=by repeat' (first|exact aq.nil|refine aq.flat ?_|refine aq.cons (by first|(simp[aj.br,XC.ok,aJ];done)|simp[aj.br,XC.ok,aJ, *]) ?_)):aE P fn n v hs' e al hs:=Ie τl he hr hv hok nd hid ho hk
theorem kM{junk:ah}(hv:v1=v)(hk:∀o∈hs',o.br hs'.length)(he:e = .normal\/e = .ret:=by first|exact .inr rfl|exact .inl rfl|fail)(hr:sE P fn al hs v1:=by first|exact fun m hm=>rfl|exact f4.one rfl (.cell rfl rfl (cy rfl) .nil)|exact f4.two rfl (.cell rfl rfl (cy rfl) (.tmp rfl .nil))|fail)(hok:v.br hs'.length:=by first|exact trivial|exact ib (Nat.le_of_ble_eq_true rfl)|(simp[XV.br,X1.ok,XC.ok];done)|fail)(hh:hs=hs'++junk:=by exact rfl):aE P fn n v hs' e al hs:=bP (junk:=junk) he hr hv hok hh hk
theorem cO{P:Program}{f:FuncId}{fn:Func}{c:Code}{args:List XV}{hs hs':ah}{v:XV}(hf:P.funcs[f]? = some fn)(h:WX P fn.ntmps hs.length (.code c) (l9 args 0) hs (aE P fn hs.length v hs'))(hb:fn.body=some c:=by exact rfl)(hn:Nat.ble (fn.ntmps+1) 1000000=true:=by exact rfl)(hl:Nat.ble args.length fn.ntmps=true:=by exact rfl)(hle:Nat.ble hs.length hs'.length=true:=by exact rfl)(hbd:Nat.ble (hs'.length+1) Mem.bound=true:=by exact rfl):bm P f args hs v hs':=
 EN hf hb (Nat.le_of_ble_eq_true hn) (Nat.le_of_ble_eq_true hl) (Nat.le_of_ble_eq_true hle) (Nat.le_of_ble_eq_true hbd) h
theorem oz{G G':Prop}(k:G')(h:G'->G:=by intro k;first|exact af.flat rfl k|exact af.cons rfl k|exact af.dead rfl k|(refine af.cons ?_ k;simp only[aj.aB,List.map_cons,List.map_nil,XC.aB,aX];exact rfl)|fail):G:=h k
theorem rz{G G':Prop}(k:G')(h:G'->G:=by intro k;first|exact ae.flat rfl k|exact ae.cons rfl k|(refine ae.jD rfl rfl ?_ k;first|rfl|omega|(simp;done)|(simp;omega))|fail):G:=h k
theorem kz{G G':Prop}(k:G')(h:G'->G:=by intro k;first|exact aq.flat k|(refine aq.cons ?_ k;first|(simp[aj.br,XC.ok,aJ];done)|simp[aj.br,XC.ok,aJ, *])|fail):G:=h k
theorem sH{p:Prop}(h:p):XE.normal=XE.normal/\p:=⟨rfl,h⟩
end Go.Xm
