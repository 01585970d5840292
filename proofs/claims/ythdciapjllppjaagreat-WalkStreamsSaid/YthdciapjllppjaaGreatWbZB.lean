/-
  A part of the proof: FtD, FtE, FtF, PutK, StrT.
-/
import Derived.Test.YthdciapjllppjaaGreatWbF
import Derived.Test.YthdciapjllppjaaGreatWbQ
import Derived.Test.YthdciapjllppjaaGreatWbR
import Derived.Test.YthdciapjllppjaaGreatWbZ
import Derived.Test.YthdciapjllppjaaGreatWbZA
set_option maxRecDepth 10000
set_option maxHeartbeats 8000000
set_option linter.unusedVariables false
set_option linter.unusedSectionVars false
set_option linter.unusedSimpArgs false
open Go.Proofs.Tryz (prog)
namespace Go.Proofs.YthdciapjllppjaaGreat
open Go.Xm
variable [aq]
def m5(n fr size:Nat)(at1 burst:Int):Nat->List Int
 | 0=>List.replicate n 0
 | k+1=>if burst/2^k%2=1/\at1+(k:Nat)<size*8 then RN (m5 n fr size at1 burst k) fr (at1+(k:Nat)).toNat else m5 n fr size at1 burst k
def Qj(ps:List (List Int))(i:Nat):Nat×Nat:=((rS (ps.getD (i+1) [])).1.toNat,(rS (ps.getD (i+1) [])).2.toNat)
theorem qi.mono{L:List (List XC)}{g:Nat}{c:XC}{vs:List XC}{n:Nat}(h:qi L g c vs n)(r:List (List XC)):qi (L++r) g c vs n:=by
 rcases h with h|⟨k,fl,h1,h2,h3⟩
 ·exact .inl h
 ·exact .inr ⟨k,fl,h1,h2,by rw[List.getElem?_append_left (List.getElem?_eq_some_iff.1 h3).1];exact h3⟩
structure Ta(LA:List (List XC))(g:Nat)(s:Sp)(co cm:XC)(a b:Nat):Prop where
 co:qi LA g co (il .u16 s.odd) s.odd.length
 cm:qi LA g cm (il .u8 s.mask) s.mask.length
 ok:Qx s
 few:s.odd.length<=30
 a:1<=a/\a<=30000
 b:1<=b/\b<=30000
end Go.Proofs.YthdciapjllppjaaGreat
namespace Go.Xm
variable [aq]
section
variable {P:Program} {ops:Array Oper} {nt nI:Nat} {al:aO} {hs:aj} {o:Oper} {l:List Oper} {L:List aA} {K:List Ab->aO->aj->Prop} {d:Nat}
theorem Sx{t t1 e e1:TypeId}{sz len:Nat}{a b:Operand}{zs:List XC}(i n:Nat){j:Nat}{cap:pr}(cs:List XC){vs:List XC}{et:TypeId}{opn ro:Bool}{N:Nat}{hs':aj}(hk:SK P ops nt L l ((d,gJ N (n+len) sz)::al) hs' fun bs=>K (⟨true,.none,[i,N]⟩::bs))(ho:o.op = .call ⟨.builtin .append,#[a,b],#[t,t1]⟩:=by exact rfl)(hu:aQ P t (.slice e):=by infer_instance)(hu1:aQ P t1 (.slice e1):=by infer_instance)(hz:aM P e zs:=by infer_instance)(hI:TI P e sz:=by infer_instance)(wn:Wn ops nt al o d:=by exact⟨rfl,rfl,rfl⟩)(hsz:zs.length=sz/\0<sz:=by exact⟨rfl,Nat.le_of_ble_eq_true rfl⟩)(ha:af (rg al) a=gJ i n sz:=by exact rfl)(hi:hs[i]? = some (bU e cs):=by exact rfl)(hb:af (rg al) b = .one (.slice j 0 len cap):=by exact rfl)(hj:hs[j]? = some (.cells vs et opn ro):=by exact rfl)(hl:vs.length=len*sz:=by exact rfl)(hn:cs.length=n*sz:=by exact rfl)(hm:0<len/\n+len<=2000000000:=by omega)(hN:hs.length=N:=by exact n2)(hbd:Nat.blt N Mem.bound=true:=by exact rfl)(hh:hs.set i .dead++[bU e (cs++vs)]=hs':=by first|(simp only[List.set_cons_succ,List.set_cons_zero,List.cons_append,List.nil_append];exact rfl)|exact rfl):SK P ops nt L (o::l) al hs K:=by
 have hpos:0<len*sz:=Nat.mul_pos hm.1 hsz.2
 have hne:cs++vs≠[]:=fun e=>by
  have h2:(cs++vs).length=0:=by rw[e];rfl
  rw[List.length_append]at h2;omega
 refine Tl i n cs ?_ ho hu hu1 hz hI wn hsz ha hi hb hj hl hn hm hN hbd (hs':=hs') ?_
 ·rw[fm (by omega)]at hk;exact hk
 ·rw[<-hh,cK hne]
end
theorem qi.mw{L:List (List XC)}{g g' m:Nat}{c:XC}{vs:List XC}{n:Nat}(h:qi L g' c vs n)(hne:g'≠g):c.mw g m:=by
 rcases h with⟨_,rfl|⟨i,rfl⟩⟩|⟨k,fl,_,rfl,_⟩
 ·trivial
 ·trivial
 ·exact fun e=>absurd e hne
theorem bd.MH{i g m:Nat}{A B:XC}{L:List (List XC)}{vs cs:List XC}{e:TypeId}{j:Nat}{hs hs2:aj}(hj:Nat.beq j i=false)(hn:∀c∈cs,c.mw g m)(h:bd i g m A B L vs (j+1) hs hs2):bd i g m A B L vs j (Xm.bU e cs::hs) (Xm.bU e cs::hs2):=by
 cases cs with
 | nil=>exact .dead h
 | cons c r=>exact .cells hj (.same hn) h
theorem vu{cs:List XC}{e:TypeId}{n:Nat}(h:∀c∈cs,c.ok n):(bU e cs).bK n:=by
 cases cs with
 | nil=>trivial
 | cons c r=>exact h
theorem pV{vs:List XC}{m:Nat}(h:∀c∈vs,c.lL m=true){g n:Nat}(hg:g<n):∀c∈vs.map (·.self g),c.ok n:=vn (t:=0) (a:=false) (b:=false) h hg
end Go.Xm
namespace Go.Proofs.YthdciapjllppjaaGreat
open Go.Xm
variable [aq]
theorem vq{k n z g m:Nat}(h:k≠g):(eE k n z).mw g m:=by
 unfold eE;split
 ·trivial
 ·exact h
structure Sl(ps:List (List Int)):Prop where
 len:ps.length<=1000
 body:∀i,0<i->i<ps.length->21<=(ps.getD i []).length/\(ps.getD i []).length<=100000000
 byte:∀i,bj (ps.getD i [])
 prt:∀i,i+1<ps.length->rS (ps.getD (i+1) [])=((((Qj ps i).1:Nat):Int),(((Qj ps i).2:Nat):Int))/\(1<=(Qj ps i).1/\(Qj ps i).1<=30000)/\(1<=(Qj ps i).2/\(Qj ps i).2<=30000)
theorem HL{h:Hd}{p:Ph}{l:List Mb}{first:Int}(hT:mA h p l first){L:List (List XC)}{k0:Nat}(ho:L[k0]? = some (fl mC l)){x:PS}(hx:mY l first (G6 h p) l.length = .inr x){a b:List Int}(hqa:(fy (wr (x.B++[true])) (wr (x.B++[true])).length).1=a)(hqb:(fy (wr (x.w++[true])) (wr (x.w++[true])).length).1=b)(hla:a.length<=30000)(hlb:b.length<=30000) :
 bt prog 32 [.one (.ptr 0 0),.agg (b9 h),.agg (tu p),.one (.int .i64 first),.one (.lsl 13 k0 0 l.length l.length 0)] [fc 1 5 9,aX 2 3 4 cM,db cM,df cM,dc cM,aX 6 7 8 cZ,db cZ,df cZ,dc cZ,aX 10 11 12 cP,db cP,df cP,dc cP,.late L] (.tup [.one (eE 14 a.length 1),.one (eE 15 b.length 1),.one (.int .i64 0)]) [fc 1 5 9,aX 2 3 4 cM,db cM,df cM,dc cM,aX 6 7 8 cZ,db cZ,df cZ,dc cZ,aX 10 11 12 cP,db cP,df cP,dc cP,.late L,bU 5 (il .u8 a),bU 5 (il .u8 b)]:=by
 have h1:=hT.hd.dims.c0;have h2:=hT.hd.dims.c1;have h3:=hT.hd.dims.r0;have h4:=hT.hd.dims.r1;have hf:=hT.pos;have hm:=hT.many;have hm16:=hT.few;have ha:=hT.all;have hcr:1<=h.cols*h.rows/\h.cols*h.rows<=64:=HO hT.hd.dims;refine cO Tryz.func32 ?_
 repeat' (first
  |(refine qz ?_;first
   |refine kD ?_
   |refine l5 ?_
   |refine jI ?_ (hle:=by rw[aF])
   |refine cl ?_ (hi:=by exact j_ hT.hd rfl)
   |refine cl ?_ (hi:=by exact kb hT.ph rfl)
   |refine cl ?_ (hi:=by exact Hv hT.hd rfl nL nA rfl))
  |refine zz ?_|refine zx (fun _=>?_) (fun _=>?_)|fail)
 refine WX.cc rfl ?_;refine WX.cc rfl ?_;refine WX.cw (σ:=Nat×PS) (fun s=>[(3,.one (.int .i64 first)),(7,.one (.ptr 14 0)),(15,.one (.ptr 15 0)),(16,.one (.ptr 22 0)),(17,.one (.ptr 24 0)),(71,.one (.lsl 13 k0 0 l.length l.length 0)),(72,.one (.int .i64 (l.length:Nat))),(73,.one (.int .i64 (s.1:Nat)))]) (fun s=>[fc 1 5 9,aX 2 3 4 cM,db cM,df cM,dc cM,aX 6 7 8 cZ,db cZ,df cZ,dc cZ,aX 10 11 12 cP,db cP,df cP,dc cP,.late L,.cells (tu p) 48 false false,Sa s.2.S 15,fD 17 s.2.S.cols s.2.S.rows,.map (cE s.2.S.M),Sd s.2.S 15,.map (au s.2.S.A),.map (au s.2.S.B),.map (au s.2.S.C),aP 23 s.2.B,av s.2.B,aP 25 s.2.w,av s.2.w]) (fun s=>s.1<=l.length/\mY l first (G6 h p) s.1 = .inr s.2/\EZ p.inter h.cols h.rows s.1 s.2) (fun s=>l.length-s.1) (0,G6 h p) ⟨Nat.zero_le _,rfl,NH hT.hd hT.ph⟩ (fun s _=>ny) (bW [0,1,2,3,4,5,6,7,8,9,10,11,12,13,15,16,17,18,19,20,21,22,23,25,24,26] (obj:=by(repeat' (first|exact ae.nil|refine ae.iu rfl rfl rfl rfl ?_|refine oz ?_));first|done|fail)) ?_;intro s ⟨hle,hrun,hs⟩ ih
 by_cases hlt:s.1<l.length
 ·have hmk:jT (l.getD s.1 default):=by
   rw[List.getD_eq_getElem?_getD,List.getElem?_eq_getElem hlt,Option.getD_some];exact hT.mok _ (List.getElem_mem hlt)
  have hnx:=xu hrun
  obtain⟨m,hme⟩:∃m,l.getD s.1 default=m:=⟨_,rfl⟩
  have hme':l.getD (s.1:Int).toNat default=m:=hme;rw[hme]at hmk hnx;have hqq:=hs.qp;have hmb:0<=first+(s.1:Nat)/\first+(s.1:Nat)<h.cols*h.rows:=by omega
  obtain⟨c,hc⟩:∃c,dH m p.inter s.2.S.qp=c:=⟨_,rfl⟩
  have hcS:dH m s.2.S.inter s.2.S.qp=c:=by rw[hs.inter];exact hc
  by_cases hc0:c=0
  ·subst hc0;have hP:=Jh hs (by omega) hmk hmb hcS
   cases hz:nv s.2.S s.2.B s.2.w m (first+(s.1:Nat))with
   | none=>
     have eN:=(hx.symm.trans (AI (hnx.trans (FY hcS hz)) l.length (by omega)))
     cases eN
   | some z=>
     have hnx2:=hnx.trans (u2 hcS hz)
     repeat' (first
      |(refine qz ?_;first
       |refine kD ?_
       |refine l5 ?_
       |refine jU (zs:=mC Ag) (hz:=ry) ?_
       |refine Ck (enc:=mC) ?_ ho (by omega)
       |refine nD (cs:=mC m) ?_ (hy:=by rw[<-hme'];rfl) (hs1:=by rw[bn]) (hs2:=by rw[bn])
       |refine jI ?_ (hle:=by rw[bn])
       |refine cl ?_ (hi:=by exact zE hmk hqq hc rfl)
       |refine cl ?_ (hi:=by exact OZ hP hz (i:=22) (k:=23) (N:=15) (j:=24) (g:=25) rfl rfl rfl rfl rfl rfl (by decide) nL nA rfl))
      |refine zz ?_|refine zx (fun _=>?_) (fun _=>?_)|fail)
     exact ih (s.1+1,⟨z.1,z.2.1,z.2.2⟩) _ _ _ (bW [0,1,2,3,4,5,6,7,8,9,10,11,12,13,14,15,16,17,18,19,20,21,22,27,24,28]) ⟨by show s.1+1<=l.length;omega,hnx2,xq hs hmk (hnx2▸hnx.symm)⟩ (by show l.length-(s.1+1)<l.length-s.1;omega)
  ·have eB:=(hx.symm.trans (AI (hnx.trans (FW hcS hc0)) l.length (by omega)))
   cases eB
 ·have e0:s.1=l.length:=by omega
  have hlB:=hs.len;have hlw:=hs.lenw;rw[e0,hx]at hrun;obtain rfl:x=s.2:=Sum.inr.inj hrun;have hB1:s.2.B.length<=1000000:=by omega
  have hB2:s.2.w.length<=1000000:=by omega
  have hL1:(wr (s.2.B++[true])).length<=100000:=by rw[cN,List.length_append,List.length_cons,List.length_nil];omega
  have hL2:(wr (s.2.w++[true])).length<=100000:=by rw[cN,List.length_append,List.length_cons,List.length_nil];omega
  have hY1:=iL (s.2.B++[true]);have hY2:=iL (s.2.w++[true])
  repeat' (first
   |(refine qz ?_;first
    |refine kD ?_
    |refine l5 ?_
    |refine cl ?_ (hi:=by exact vG (bs:=s.2.B) hB1 (i:=22) (k:=23) rfl rfl (by decide) nL nA rfl)
    |refine cl ?_ (hi:=by exact rL (l:=wr (s.2.B++[true])) hY1 hL1 hqa (n:=((s.2.B++[true]).length+7)/8) (by rw[cN]) (i:=26) rfl nL nA rfl)
    |refine cl ?_ (hi:=by exact vG (bs:=s.2.w) hB2 (i:=24) (k:=25) rfl rfl (by decide) nL nA rfl)
    |refine cl ?_ (hi:=by exact rL (l:=wr (s.2.w++[true])) hY2 hL2 hqb (n:=((s.2.w++[true]).length+7)/8) (by rw[cN]) (i:=28) rfl nL nA rfl))
   |refine zz ?_|refine zx (fun _=>?_) (fun _=>?_)|refine bp (by first|exact ag.nil|exact ag.one _|exact ag.my (by repeat' (first|exact True.intro|refine And.intro ?_ ?_|exact Compat.ne rfl|exact dE rfl))) ⟨by kernel_rfl,?_⟩|refine bp (by first|exact ag.nil|exact ag.one _|exact ag.my (by repeat' (first|exact True.intro|refine And.intro ?_ ?_|exact Compat.ne rfl|exact dE rfl))) ?_|fail)
  show aE _ _ _ _ _ _ _ _;refine kV [0,1,2,3,4,5,6,7,8,9,10,11,12,13,27,29] ?_;simp only[XV.aC,List.map_cons,List.map_nil,X1.aC,aV];rfl
theorem Mj{h:Hd}{p:Ph}{l:List Mb}{first:Int}(hT:mA h p l first){L:List (List XC)}{k0:Nat}(ho:L[k0]? = some (fl mC l)){a b:List Int}(hp:yE h p l first = .inr (a,b)){n:Nat}(hln:l.length=n){HS:aj}{K i:Nat}(hS:(HS.drop K).take 13=nr K)(hi:HS[i]? = some (.late L))(hd:(BH K [i]).Nodup){N:Nat}(hN:HS.length=N){HS':aj}(hh:HS++[bU 5 (il .u8 a),bU 5 (il .u8 b)]=HS')(hbd:Nat.blt HS'.length Mem.bound=true) :
 aA.Sound prog ⟨32,[.one (.ptr K 0),.agg (b9 h),.agg (tu p),.one (.int .i64 first),.one (.lsl i k0 0 n n 0)],HS,.tup [.one (eE N a.length 1),.one (eE (N+1) b.length 1),.one (.int .i64 0)],HS',BH K [i]⟩:=by
 subst hln hN
 have hc:bt prog 32 [.one (.ptr 0 0),.agg (b9 h),.agg (tu p),.one (.int .i64 first),.one (.lsl 13 k0 0 l.length l.length 0)] (k9++[.late L]) (.tup [.one (eE 14 a.length 1),.one (eE 15 b.length 1),.one (.int .i64 0)]) (k9 ++ .late L::[bU 5 (il .u8 a),bU 5 (il .u8 b)]):=by
  unfold yE at hp;split at hp
  ·cases hp
  ·rename_i x hx;split at hp
   ·cases hp
   ·rename_i hl;cases hp;exact HL hT ho hx rfl rfl (by omega) (by omega)
 refine Io 2 rfl hc hS hi hd (.cons (by show 0<14;omega) (.flat (.flat (.flat (.cons (by show 13<14;omega) .nil))))) (.cons rfl (.flat (.flat (.flat (.cons rfl .nil))))) ?_ ?_ (.flat (.flat .nil)) (.flat (.flat .nil)) ?_ hh hbd
 ·intro x hx;simp only[List.mem_cons,List.not_mem_nil,or_false]at hx
  rcases hx with rfl|rfl|rfl
  ·exact aK (by omega)
  ·exact aK (by omega)
  ·trivial
 ·simp only[XV.aC,List.map_cons,List.map_nil,X1.aC,aV];rfl
 ·cases il .u8 a<;>cases il .u8 b<;>rfl
theorem Cx{p:Ph}{first count all:Int}{a b:List Int}(hk:xZ p first count a.length b.length all)(ha:bj a)(hb:bj b){B:List Bool}(hB:kB p first count (a.length:Nat) (b.length:Nat) (c9 a) (c9 b) (c9 (wr (fT p first count (a.length:Nat) (b.length:Nat) (c9 a) (c9 b))))=B){q:List Int}(hq:eh B a b=q){n:Nat}(hn:q.length=n){HS:aj}{i j:Nat}(hi:HS[i]? = some (bU 5 (il .u8 a)))(hj:HS[j]? = some (bU 5 (il .u8 b)))(hd:i≠j){N:Nat}(hN:HS.length=N){HS':aj}(hh:HS++[.cells (il .u8 q) 5 true false]=HS')(hbd:Nat.blt HS'.length Mem.bound=true) :
 aA.Sound prog ⟨33,[.agg (Rt p first count (eE i a.length 1) (eE j b.length 1)),.one (.int .i64 all)],HS,.tup [.one (.slice N 0 n (.toEnd 1)),.one (.int .i64 0)],HS',[i,j]⟩:=by
 subst hn hq hN;have h1:=hk.a;have h2:=hk.b;rw[vr h1.1]at hi;rw[vr h2.1]at hj;rw[show eE i a.length 1 = .slice i 0 a.length (.toEnd 1)from if_neg (by omega),show eE j b.length 1 = .slice j 0 b.length (.toEnd 1)from if_neg (by omega)];refine bI [i,j] [i,j] 1 (Aw hk ha hb hB) (by simp[hd]) (.flat hi (.flat hj .nil)) (.flat (.flat .nil)) (.flat (.flat (.flat .nil))) rfl (.cons ?_ (.flat .nil)) (.cons rfl (.flat .nil)) (L5 (show 2<3 by omega) trivial) rfl (.flat (.flat (.flat .nil))) rfl rfl (by simp only[bJ];rw[aG hi,aG hj];exact hh) hbd (.inl rfl);intro c hc;simp only[List.mem_cons,List.not_mem_nil,or_false]at hc
 rcases hc with rfl|rfl|rfl|rfl|rfl|rfl|rfl|rfl<;>first|trivial|(show(_:Nat)<2;omega)
def ik(b:Nat):List (List Int)->List XC
 | []=>[]
 | p::l => .lsl 0 b 0 p.length p.length 0::ik (b+1) l
theorem nP:∀(l:List (List Int)) (b:Nat),(ik b l).length=l.length
 | [],b=>rfl
 | p::l,b=>by rw[ik,List.length_cons,nP l,List.length_cons]
theorem wV:∀(l:List (List Int)) (b:Nat) (p:List Int),ik b (l++[p])=ik b l++[.lsl 0 (b+l.length) 0 p.length p.length 0]
 | [],b,p=>rfl
 | x::l,b,p=>by
   rw[List.cons_append,ik,wV l,ik,List.cons_append,List.length_cons,show b+1+l.length=b+(l.length+1) by omega]
theorem nQ:∀(l:List (List Int)) (b n:Nat),b+l.length<=n->∀c∈ik b l,c.lL n=true
 | [],b,n,h=>fun c hc=>by cases hc
 | p::l,b,n,h=>fun c hc=>by
   rw[ik]at hc;rw[List.length_cons]at h
   rcases List.mem_cons.1 hc with rfl|hc
   ·simp only[XC.lL,Nat.blt_eq];omega
   ·exact nQ l (b+1) n (by omega) c hc
theorem x8:∀(l:List (List Int)) (b i:Nat),i<l.length->(ik b l).getD i .nils = .lsl 0 (b+i) 0 (l.getD i []).length (l.getD i []).length 0
 | [],b,i,h=>absurd h (Nat.not_lt_zero i)
 | p::l,b,0,h=>rfl
 | p::l,b,i+1,h=>by
   rw[ik,List.getD_cons_succ,x8 l (b+1) i (by simpa using h),List.getD_cons_succ,show b+1+i=b+(i+1) by omega]
def wq(ps:List (List Int)):List (List XC):=ps.map (il .u8)++[ik 0 ps]
theorem LO{ps:List (List Int)}:G_ (wq ps) (ik 0 ps) ps:=by
 refine⟨nP ps 0,fun i hi => .inr ⟨i,_,Nat.le_refl _,?_,?_⟩⟩
 ·rw[x8 ps 0 i hi,Nat.zero_add]
 ·unfold wq;rw[List.getElem?_append_left (by simpa using hi),List.getElem?_map,List.getElem?_eq_getElem hi,List.getD_eq_getElem?_getD,List.getElem?_eq_getElem hi];rfl
theorem Fw(ps:List (List Int)):(wq ps)[ps.length]? = some (ik 0 ps):=by
 unfold wq;rw[List.getElem?_append_right (by simp),List.length_map,Nat.sub_self];rfl
theorem j0{h:Hd}{c:XC}{g m:Nat}(hc:c.mw g m):∀x∈fJ h c,x.mw g m:=fun x hx=>by
 rcases List.mem_append.1 (show x∈b9 h++[c]from hx)with hx|hx
 ·exact XC.gv (XC.aY (List.all_eq_true.1 (cW h) x hx) 0)
 ·rw[List.mem_singleton.1 hx];exact hc
end Go.Proofs.YthdciapjllppjaaGreat
