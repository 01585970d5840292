/-
  A part of the proof: WkG, WkH, StrK, StrA, FtE, FtF.
-/
import Derived.Test.YthdciapjllppjaaGreatWaE
import Derived.Test.YthdciapjllppjaaGreatWaR
import Derived.Test.YthdciapjllppjaaGreatWaZA
set_option maxRecDepth 10000
set_option maxHeartbeats 8000000
set_option linter.unusedVariables false
set_option linter.unusedSectionVars false
set_option linter.unusedSimpArgs false
open Go.Proofs.Tryz (prog)
namespace Go.Xm
variable [ak]
variable {P:Program} {ops:Array Oper} {nt nI:Nat} {al:aN} {hs:ah} {o:Oper} {l:List Oper} {L:List az} {K:List Ab->aN->ah->Prop} {d:Nat}
theorem Tb{t e et:TypeId}{a:Operand}{lo hi:Option Operand}{s:Nat}{i off n p q o' m:Nat}{z w:Int}{vs:List XC}{opn ro:Bool}(hk:SK P ops nt L l ((d,.one (.slice i o' m (.toEnd s)))::al) hs fun bs=>K (⟨false,some i,[]⟩::bs))(ho:o.op = .slice t a lo hi .none:=by exact rfl)(hu:aP P t (.slice e):=by infer_instance)(hs':aG P e s:=by infer_instance)(wn:Wn ops nt al o d:=by exact⟨rfl,rfl,rfl⟩)(ha:ae (rg al) a = .one (.slice i off n (.toEnd s)):=by exact rfl)(hl:qE (lo.map (ae (rg al))) 0=some z:=by exact rfl)(hh:qE (hi.map (ae (rg al))) (n:Nat)=some w:=by exact rfl)(hi2:hs[i]? = some (.cells vs et opn ro):=by exact rfl)(hp:z=(p:Nat):=by first|exact rfl|omega)(hq:w=(q:Nat):=by first|exact rfl|omega)(hb:0<s/\p<q/\off+q*s<=vs.length)(e1:off+p*s=o':=by omega)(e2:q-p=m:=by omega):SK P ops nt L (o::l) al hs K:=by
 subst e1 e2 hp hq;obtain⟨b1',b2',b3'⟩:=hb;have hy:q<=(vs.length-off)/s:=(Nat.le_div_iff_mul_le b1').2 (by omega);refine SK.lift wn.e wn.l (fun _=>?_) hk;intro M hM;refine⟨M,?_,hM,fun _ _=>rfl⟩;unfold jg;rw[wn.w]
 obtain⟨f,hf1,hf2⟩:∃f,eS P (ae (rg al)) o.op=some (i,f)/\f (.cells vs et opn ro)=some (.one (.slice i (off+p*s) (q-p) (.toEnd s))):=by
  rw[ho];simp only[eS,ha];refine⟨_,rfl,?_⟩;simp only[oV,hu.out,hs'.out,qF hh hy,qG hl (Nat.le_of_lt b2')];rw[if_pos ⟨trivial,b1',b2',b3'⟩]
 refine l6 (by rw[ho];simp only[aY,ou,ha,hu.out]) (by rw[ho];rfl) hf1 ?_;rw[hM.at hi2,hf2]
theorem WX.forget{c:sd}{R:ch}(i:Nat){xs ys:List XC}{e:TypeId}{hs':ah}(hi:hs[i]? = some (.cells (xs++ys) e true false))(hh:hs.set i (.cells xs e true false)=hs')(h:WX P nt nI c al hs' R):WX P nt nI c al hs R:=by
 subst hh;intro βI mI wI hn m hm β w a Q hr hw hq;obtain⟨h1,h2⟩:=hm.lt hi;have hg:=hm.at hi;have hin:i<m.n:=by rw[hm.n];exact(List.getElem?_eq_some_iff.1 hi).1
 have hst:Step β m w β (m.put i (.cells xs e true false)) w:=by
  refine Step.put hw.rel hin (by rw[hg];rfl) rfl rfl rfl rfl (fun _ _=>rfl) ?_;have ho:=hw.rel.obj i hin;rw[hg]at ho;obtain⟨cs,fr,k1,k2,k3,k4,k5,k6⟩:=ho;refine⟨cs,fr,k1,k2,?_,k4,fun c hc=>k5 c (List.mem_append_left _ hc),?_⟩
  ·simp only[if_true]at k3 ⊢;rw[List.length_append]at k3;omega
  ·have:=congrArg (List.take xs.length) k6;rw[List.take_take,List.length_append,Nat.min_eq_left (Nat.le_add_right _ _),List.map_append,List.take_left' (List.length_map ..)]at this;exact this
 have hm':=hm.put hi (.cells xs e true false);have hn':(m.put i (.cells xs e true false)).n=m.n:=Mem.dV ..;exact h βI mI wI hn _ hm' β w a Q (by rw[hn'];exact hr) (hw.trans hst) hq
end Go.Xm
namespace Go.Proofs.YthdciapjllppjaaGreat
open Go.Xm
variable [ak]
theorem QT{a b:Nat}(ha:a<256)(hb:b<256):ya .u16 ((a:Int)*2^8) (b:Int)=((a*256+b:Nat):Int):=by
 have e1:(a:Int)*2^8=((a*256:Nat):Int):=by
  have:(2:Int)^8=256:=by decide
  rw[this];omega
 have e2:((BitVec.ofInt 16 ((a*256:Nat):Int) ||| BitVec.ofInt 16 (b:Int)).toNat)=a*256+b:=by
  rw[BitVec.ofInt_natCast,BitVec.ofInt_natCast,BitVec.toNat_or,BitVec.toNat_ofNat,BitVec.toNat_ofNat,Nat.mod_eq_of_lt (by omega),Nat.mod_eq_of_lt (by omega)];have h:=Nat.shiftLeft_add_eq_or_of_lt (i:=8) (b:=b) hb a;rw[Nat.shiftLeft_eq]at h;exact h.symm
 rw[e1];show IntKind.u16.wrap (((BitVec.ofInt 16 ((a*256:Nat):Int) ||| BitVec.ofInt 16 (b:Int)).toNat:Nat):Int)=_;rw[e2];exact fZ (k := .u16) ⟨by show 0<=((a*256+b:Nat):Int);omega,by show((a*256+b:Nat):Int)<65536;omega⟩
theorem N8{s:Int}(h:0<=s/\s<65536):ya .u16 (s/256*2^8) (s%256)=s:=by
 have:=QT (a:=(s/256).toNat) (b:=(s%256).toNat) (by omega) (by omega);rw[show(((s/256).toNat:Nat):Int)=s/256 by omega,show(((s%256).toNat:Nat):Int)=s%256 by omega]at this;rw[this];omega
theorem IF{h:Hd}(ho:lB h)(hr:∀i,i<64->(0<=h.a i/\h.a i<=255)/\(0<=h.b i/\h.b i<=255)){n:Nat}(hn:(o_ h).length=n)(hw0:h.w=false->∀i,i<64->h.a i=0/\h.b i=0){HS:ah}{i:Nat}(hi:HS[i]? = some (.cells (il .u8 (o_ h)) 5 true false))(hbd:Nat.blt HS.length Mem.bound=true) :
 az.Sound prog ⟨71,[.one (.slice i 0 n (.toEnd 1))],HS,.tup [.agg (b7 h),.one (.int .i64 0)],HS,[i]⟩:=by
 have hvf:∀x∈([.agg (b7 h),.one (.int .i64 0)]:List Go.Xm.X1),x.shut=true:=fun x hx=>by
  simp only[List.mem_cons,List.not_mem_nil,or_false]at hx
  rcases hx with rfl|rfl
  ·exact cN h
  ·rfl
 exact bz [i] [i] 0 (Fk ho hr hn hw0) (by simp) (.flat hi .nil) (.flat .nil) (.flat .nil) rfl (.cons (show 0<1 by omega) .nil) (.cons rfl .nil) ((eI (by show List.all _ _=true;exact List.all_eq_true.2 hvf)).ok _) ((eI (by show List.all _ _=true;exact List.all_eq_true.2 hvf)).aB _) (.flat .nil) rfl rfl (by simp only[bE,List.append_nil];exact aF hi) hbd (.inl rfl)
theorem zw(h:Hd)(a b:Int):bZ (.tup [.agg (b7 h),.one (.int .i64 a),.one (.int .i64 b)]):=eI (by
 show List.all _ _=true;refine List.all_eq_true.2 fun x hx=>?_
 simp only[List.mem_cons,List.not_mem_nil,or_false]at hx
 rcases hx with rfl|rfl|rfl
 ·exact cN h
 ·rfl
 ·rfl)
theorem ud{h:Hd}{a b:Int}{n:Nat}:(XV.tup [.agg (b7 h),.one (.int .i64 a),.one (.int .i64 b)]).bH n:=(zw h a b).ok n
theorem ql{h:Hd}{a b:Int}{τ : Nat->Nat}:(XV.tup [.agg (b7 h),.one (.int .i64 a),.one (.int .i64 b)]).aB τ = .tup [.agg (b7 h),.one (.int .i64 a),.one (.int .i64 b)]:=(zw h a b).aB τ
theorem Co{W:List (List XC)}{kk off n fL cut:Nat}{b:List Int}(hL:W[kk]? = some (il .u8 b))(hbl:off+n<=b.length)(hn:n<=1000000000)(hfl:n<=fL){h:Hd}(ho:lB h)(hr:∀i,i<64->(0<=h.a i/\h.a i<=255)/\(0<=h.b i/\h.b i<=255))(hw0:h.w=false->∀i,i<64->h.a i=0/\h.b i=0){y:Nat}(hy:(ie h).length=y)(hyn:y<=n)(his:∀i,i<y->b.getD (off+i) 0=(ie h).getD i 0)(hend:(findF (du b off) n 3=none/\n=y)\/findF (du b off) n 3=some y) :
 bq prog 35 [.one (.lsl 0 kk off n fL cut)] [.late W] (.tup [.agg (b7 h),.one (.int .i64 (y:Nat)),.one (.int .i64 0)]) [.late W]:=by
 have hSb:=uf h;have hSl:=x_ h;have hRb:=qm h;have hRl:=s5 h
 have hR1:1<=(o_ h).length:=by
  unfold o_;rw[cI,List.length_append,List.length_singleton];omega
 have hback:=Hz hSb;have hEb:=oD _ hSb;have hEl:=(nJ (y8 h)).1;have hS3:y8 h=o_ h++[cU (o_ h)/256,cU (o_ h)%256,128]:=rfl;have hY:ie h = [0,0,1,176]++(fv (y8 h) (y8 h).length).1:=rfl;have hpc:=fun {HS:ah} {i:Nat} {m:Nat}(hm:(o_ h).length=m)=>IF ho hr hm hw0 (HS:=HS) (i:=i)
 have hsu:=f_ (o_ h)
 obtain⟨E,hE⟩:∃E,(fv (y8 h) (y8 h).length).1=E:=⟨_,rfl⟩
 rw[hE]at hback hEb hEl hY
 obtain⟨Q,hQ⟩:∃Q,o_ h=Q:=⟨_,rfl⟩
 rw[hQ]at hRb hRl hR1 hS3 hpc hsu
 obtain⟨su,hsd⟩:∃s,cU Q=s:=⟨_,rfl⟩
 rw[hsd]at hS3 hsu
 obtain⟨V,hV⟩:∃V,y8 h=V:=⟨_,rfl⟩
 rw[hV]at hSb hSl hback hEl hS3
 obtain⟨r,hrl⟩:∃r,Q.length=r:=⟨_,rfl⟩
 have hVl:V.length=r+3:=by rw[hS3,List.length_append,hrl];rfl
 have hyE:y=4+E.length:=by rw[<-hy,hY,List.length_append];rfl
 have w0:du b off 0=0/\du b off 1=0/\du b off 2=1:=⟨(his 0 (by omega)).trans (by rw[hY];rfl),(his 1 (by omega)).trans (by rw[hY];rfl),(his 2 (by omega)).trans (by rw[hY];rfl)⟩
 have hE1:r+3<=E.length:=by
  have:=tV _ _ _ _ _ hback;simp only[List.length_nil]at this;omega
 have hf0:nW (findF (du b off) n 0)=0/\(findF (du b off) n 0).isSome=true:=by
  rw[kr (by omega) w0];exact⟨rfl,rfl⟩
 have hc3:(il .u8 b)[off+3]? = some (.int .u8 176):=mF (by omega) ((his 3 (by omega)).trans (by rw[hY];rfl))
 have hwE:∀i,i<E.length->b.getD (off+4+i) 0=E.getD i 0:=fun i hi=>by
  rw[show off+4+i=off+(4+i) by omega,his (4+i) (by omega),hY,List.getD_eq_getElem?_getD,List.getElem?_append_right (by show 4<=4+i;omega),List.getD_eq_getElem?_getD,show 4+i-([0,0,1,176]:List Int).length=i by show 4+i-4=i;omega]
 have v0:V.getD r 0=su/256:=by
  rw[hS3,List.getD_eq_getElem?_getD,List.getElem?_append_right (by omega),hrl,Nat.sub_self];rfl
 have v1':V.getD (r+1) 0=su%256:=by
  rw[hS3,List.getD_eq_getElem?_getD,List.getElem?_append_right (by omega),hrl,Nat.add_sub_cancel_left];rfl
 have v2':V.getD (r+2) 0=128:=by
  rw[hS3,List.getD_eq_getElem?_getD,List.getElem?_append_right (by omega),hrl,Nat.add_sub_cancel_left];rfl
 have hVQ:∀i,i<Q.length->V.getD i 0=Q.getD i 0:=fun i hi=>by
  rw[hS3,List.getD_eq_getElem?_getD,List.getElem?_append_left hi,<-List.getD_eq_getElem?_getD]
 have hVc:il .u8 V=il .u8 Q++il .u8 [su/256,su%256,128]:=by
  rw[hS3];unfold il;rw[List.map_append]
 have i2:((((r+3:Nat):Int)-1)).toNat=r+2:=by omega
 have i1:((((r+3:Nat):Int)-2)).toNat=r+1:=by omega
 have i0:((((r+3:Nat):Int)-3)).toNat=r:=by omega
 have hor:ya .u16 (IntKind.u16.wrap (su/256*2^8)) (su%256)=su:=by
  have e:(2:Int)^8=256:=by decide
  rw[fZ (k := .u16) ⟨by rw[e];show(0:Int)<=su/256*256;omega,by rw[e];show su/256*256<65536;omega⟩];exact N8 hsu
 have g2:V.getD (((r+3:Nat):Int)-1).toNat 0=128:=by rw[i2];exact v2'
 have g0:V.getD (((r+3:Nat):Int)-3).toNat 0=su/256:=by rw[i0];exact v0
 have g1:V.getD (((r+3:Nat):Int)-2).toNat 0=su%256:=by rw[i1];exact v1'
 have hor2:ya .u16 (IntKind.u16.wrap (V.getD (((r+3:Nat):Int)-3).toNat 0*2^8)) (V.getD (((r+3:Nat):Int)-2).toNat 0)=su:=by rw[g0,g1];exact hor
 have k2:(il .u8 V)[r+2]? = some (.int .u8 128):=mF (by omega) v2';have k1:(il .u8 V)[r+1]? = some (.int .u8 (su%256)):=mF (by omega) v1';have k0:(il .u8 V)[r]? = some (.int .u8 (su/256)):=mF (by omega) v0
 rcases hend with⟨e3,hny⟩|e3
 ·have hf3:nW (findF (du b off) n 3)=0/\(findF (du b off) n 3).isSome=false:=by rw[e3];exact⟨rfl,rfl⟩
  obtain rfl:n=y:=hny;refine cO Tryz.func35 ?_
  repeat' (first
   |(refine qz ?_;first
    |refine jG (zs:=b7 ⟨0,0,false,fun _=>0,fun _=>0⟩) (hz:=gY) ?_
    |refine cl ?_ (hi:=by exact dO hL hbl hn (frm:=0) rfl (by decide) hf0 (g:=0) rfl rfl)
    |refine cl ?_ (hi:=by exact dO hL hbl hn (frm:=3) rfl (by decide) hf3 (g:=0) rfl rfl)
    |refine kY ?_
    |refine mf ?_
    |refine v9 ?_ hL hc3 rfl
    |refine KA (p:=4) (q:=n) (o':=off+4) (m:=E.length) ?_
    |refine cl ?_ (hi:=by exact sg hL (l:=E) rfl (by omega) hwE hEb (by omega) hback hVl (by omega) (g:=0) rfl nL nA rfl)
    |refine Tb (p:=0) (q:=r) (o':=0) (m:=r) ?_ (hb:=⟨by decide,by omega,by rw[bu];omega⟩)
    |refine RT 8 ?_
    |refine sY (zs:=[.nils]) ?_
    |refine cl ?_ (hi:=by exact D5 (l:=Q) (w:=V) hRb (by omega) (by omega) hVQ (RO.of ..) hsd hrl (i:=2) (j:=3) rfl rfl (by decide) rfl))
   |refine ll 17 ?_|refine zz ?_|refine zx (fun _=>?_) (fun _=>?_)|fail)
  refine⟨?_⟩;refine WX.forget 2 (xs:=il .u8 Q) (ys:=il .u8 [su/256,su%256,128]) (by rw[hVc];rfl) hS ?_
  repeat' (first
   |(refine qz ?_;first
    |refine jG (zs:=b7 ⟨0,0,false,fun _=>0,fun _=>0⟩) (hz:=gY) ?_
    |refine cl ?_ (hi:=by exact hpc hrl rfl rfl)
    |refine nr (cs:=b7 h) ?_ (hs1:=by rw[aD,aD]) (hs2:=by rw[aD,aD])
    |refine jV ?_ (hle:=by rw[aD]))
   |refine zz ?_|refine zx (fun _=>?_) (fun _=>?_)|fail)
  show aE _ _ _ _ _ _ _ _;refine kV [0] ?_ (hr:=fE.two rfl (.cell rfl rfl (bO rfl) (.tmp rfl (.tmp rfl .nil)))) (hok:=ud);exact ql.symm
 ·have hf3:nW (findF (du b off) n 3)=(y:Int)/\(findF (du b off) n 3).isSome=true:=by rw[e3];exact⟨rfl,rfl⟩
  refine cO Tryz.func35 ?_
  repeat' (first
   |(refine qz ?_;first
    |refine jG (zs:=b7 ⟨0,0,false,fun _=>0,fun _=>0⟩) (hz:=gY) ?_
    |refine cl ?_ (hi:=by exact dO hL hbl hn (frm:=0) rfl (by decide) hf0 (g:=0) rfl rfl)
    |refine cl ?_ (hi:=by exact dO hL hbl hn (frm:=3) rfl (by decide) hf3 (g:=0) rfl rfl)
    |refine kY ?_
    |refine mf ?_
    |refine v9 ?_ hL hc3 rfl
    |refine KA (p:=4) (q:=y) (o':=off+4) (m:=E.length) ?_
    |refine cl ?_ (hi:=by exact sg hL (l:=E) rfl (by omega) hwE hEb (by omega) hback hVl (by omega) (g:=0) rfl nL nA rfl)
    |refine Tb (p:=0) (q:=r) (o':=0) (m:=r) ?_ (hb:=⟨by decide,by omega,by rw[bu];omega⟩)
    |refine RT 8 ?_
    |refine sY (zs:=[.nils]) ?_
    |refine cl ?_ (hi:=by exact D5 (l:=Q) (w:=V) hRb (by omega) (by omega) hVQ (RO.of ..) hsd hrl (i:=2) (j:=3) rfl rfl (by decide) rfl))
   |refine ll 17 ?_|refine zz ?_|refine zx (fun _=>?_) (fun _=>?_)|fail)
  refine⟨?_⟩;refine WX.forget 2 (xs:=il .u8 Q) (ys:=il .u8 [su/256,su%256,128]) (by rw[hVc];rfl) hS ?_
  repeat' (first
   |(refine qz ?_;first
    |refine jG (zs:=b7 ⟨0,0,false,fun _=>0,fun _=>0⟩) (hz:=gY) ?_
    |refine cl ?_ (hi:=by exact hpc hrl rfl rfl)
    |refine nr (cs:=b7 h) ?_ (hs1:=by rw[aD,aD]) (hs2:=by rw[aD,aD])
    |refine jV ?_ (hle:=by rw[aD]))
   |refine zz ?_|refine zx (fun _=>?_) (fun _=>?_)|fail)
  show aE _ _ _ _ _ _ _ _;refine kV [0] ?_ (hr:=fE.two rfl (.cell rfl rfl (bO rfl) (.tmp rfl (.tmp rfl .nil)))) (hok:=ud);exact ql.symm
theorem IX{W:List (List XC)}{g k off n fL cut:Nat}{b:List Int}(hL:W[k]? = some (il .u8 b))(hbl:off+n<=b.length)(hn:n<=1000000000)(hfl:n<=fL){p:Ph}{first count all:Int}{A Bb:List Int}{B:List Bool}(hp:KG b off n p first count all A Bb B){la lb:Nat}(hla:A.length=la)(hlb:Bb.length=lb){z:Int}(hz:((21+A.length+Bb.length:Nat):Int)=z){HS:ah}(hi:HS[g]? = some (.late W)){N M:Nat}(hN:HS.length=N)(hM:N+1=M){HS':ah}(hh:HS++[.cells (il .u8 A) 5 true false,.cells (il .u8 Bb) 5 true false]=HS')(hbd:Nat.blt HS'.length Mem.bound=true) :
 az.Sound prog ⟨36,[.one (.lsl g k off n fL cut),.one (.int .i64 all)],HS,.tup [.agg (CD p first count (.slice N 0 la (.toEnd 1)) (.slice M 0 lb (.toEnd 1)) z),.one (.int .i64 0)],HS',[g]⟩:=by
 subst hN hM hla hlb hz;exact bz [g] [g] 2 (FC hL hbl hn hfl hp) (by simp) (.flat hi .nil) (.flat .nil) (.flat (.flat (.flat .nil))) rfl (.cons (show 0<1 by omega) (.flat .nil)) (.cons rfl (.flat .nil)) (by simp[XV.bH,X1.ok,XC.ok]) rfl (.flat (.flat (.flat .nil))) rfl rfl (by simp only[bE];rw[aF hi];exact hh) hbd (.inl rfl)
abbrev qM:List XC:=[.int .i64 0,.bool false,.bool false,.int .i64 0,.int .i64 0,.int .i64 0,.nils,.nils,.int .i64 0,.bool false,.bool false]
theorem Cg{W:List (List XC)}{k off n fL cut:Nat}{b:List Int}(hL:W[k]? = some (il .u8 b))(hbl:off+n<=b.length)(hn:n<=1000000000)(all:Int)(h4:4<=n)(w0:du b off 0=0/\du b off 1=0/\du b off 2=1){c:Int}(hc:b.getD (off+3) 0=c)(hne:c≠182) :
 bq prog 36 [.one (.lsl 0 k off n fL cut),.one (.int .i64 all)] [.late W] (.tup [.agg qM,.one (.int .i64 5)]) [.late W]:=by
 have hf0:nW (findF (du b off) n 0)=0/\(findF (du b off) n 0).isSome=true:=by
  rw[kr (by omega) w0];exact⟨rfl,rfl⟩
 have hc3:(il .u8 b)[off+3]? = some (.int .u8 c):=mF (by omega) hc;refine cO Tryz.func36 ?_
 repeat' (first
  |(refine qz ?_;first
   |refine cl ?_ (hi:=by exact dO hL hbl hn (frm:=0) rfl (by decide) hf0 (g:=0) rfl rfl)
   |refine kY ?_
   |refine mf ?_
   |refine v9 ?_ hL hc3 rfl)
  |refine zz ?_|refine zx (fun _=>?_) (fun _=>?_)|fail)
 show aE _ _ _ _ _ _ _ _;refine kV [0] ?_;rfl
theorem FB{W:List (List XC)}{g k off n fL cut:Nat}{b:List Int}(hL:W[k]? = some (il .u8 b))(hbl:off+n<=b.length)(hn:n<=1000000000){all:Int}(h4:4<=n)(w0:du b off 0=0/\du b off 1=0/\du b off 2=1){c:Int}(hc:b.getD (off+3) 0=c)(hne:c≠182){HS:ah}(hi:HS[g]? = some (.late W))(hbd:Nat.blt HS.length Mem.bound=true) :
 az.Sound prog ⟨36,[.one (.lsl g k off n fL cut),.one (.int .i64 all)],HS,.tup [.agg qM,.one (.int .i64 5)],HS,[]⟩:=
 fM [g] (Cg (fL:=fL) (cut:=cut) hL hbl hn all h4 w0 hc hne) (by simp) (.flat hi .nil) (.flat .nil) (.cons (show 0<1 by omega) (.flat .nil)) (.cons rfl (.flat .nil)) (by simp[XV.bH,X1.ok,XC.ok]) rfl hbd rfl
theorem xh{W:List (List XC)}{g kk off n fL cut:Nat}{b:List Int}(hL:W[kk]? = some (il .u8 b))(hbl:off+n<=b.length)(hn:n<=1000000000)(hfl:n<=fL){h:Hd}(ho:lB h)(hr:∀i,i<64->(0<=h.a i/\h.a i<=255)/\(0<=h.b i/\h.b i<=255))(hw0:h.w=false->∀i,i<64->h.a i=0/\h.b i=0){y:Nat}(hy:(ie h).length=y)(hyn:y<=n)(his:∀i,i<y->b.getD (off+i) 0=(ie h).getD i 0)(hend:(findF (du b off) n 3=none/\n=y)\/findF (du b off) n 3=some y){HS:ah}(hi:HS[g]? = some (.late W))(hbd:Nat.blt HS.length Mem.bound=true) :
 az.Sound prog ⟨35,[.one (.lsl g kk off n fL cut)],HS,.tup [.agg (b7 h),.one (.int .i64 (y:Nat)),.one (.int .i64 0)],HS,[]⟩:=
 fM [g] (Co (cut:=cut) hL hbl hn hfl ho hr hw0 hy hyn his hend) (by simp) (.flat hi .nil) (.flat .nil) (.cons (show 0<1 by omega) .nil) (.cons rfl .nil) ud ql hbd rfl
theorem Aw{W:List (List XC)}{kk off n fL cut:Nat}{b:List Int}(hL:W[kk]? = some (il .u8 b))(hbl:off+n<=b.length)(h3:n=3)(w0:du b off 0=0/\du b off 1=0/\du b off 2=1) :
 bq prog 35 [.one (.lsl 0 kk off n fL cut)] [.late W] (.tup [.agg (b7 ⟨0,0,false,fun _=>0,fun _=>0⟩),.one (.int .i64 0),.one (.int .i64 16)]) [.late W]:=by
 have hf0:nW (findF (du b off) n 0)=0/\(findF (du b off) n 0).isSome=true:=by
  rw[kr (by omega) w0];exact⟨rfl,rfl⟩
 refine cO Tryz.func35 ?_
 repeat' (first
  |(refine qz ?_;first
   |refine jG (zs:=b7 ⟨0,0,false,fun _=>0,fun _=>0⟩) (hz:=gY) ?_
   |refine b0 (zs:=b7 ⟨0,0,false,fun _=>0,fun _=>0⟩) (hz:=gY) ?_
   |refine nr (cs:=b7 ⟨0,0,false,fun _=>0,fun _=>0⟩) ?_ (hs1:=by rw[aD]) (hs2:=by rw[aD])
   |refine cl ?_ (hi:=by exact dO hL hbl (by omega) (frm:=0) rfl (by decide) hf0 (g:=0) rfl rfl)
   |refine kY ?_)
  |refine zz ?_|refine zx (fun _=>?_) (fun _=>?_)|fail)
 show aE _ _ _ _ _ _ _ _;refine kV [0] ?_ (hr:=fE.two rfl (.cell rfl rfl (bO rfl) (.tmp rfl (.tmp rfl .nil)))) (hok:=ud);exact ql.symm
theorem Cn{W:List (List XC)}{g kk off n fL cut:Nat}{b:List Int}(hL:W[kk]? = some (il .u8 b))(hbl:off+n<=b.length)(h3:n=3)(w0:du b off 0=0/\du b off 1=0/\du b off 2=1){HS:ah}(hi:HS[g]? = some (.late W))(hbd:Nat.blt HS.length Mem.bound=true) :
 az.Sound prog ⟨35,[.one (.lsl g kk off n fL cut)],HS,.tup [.agg (b7 ⟨0,0,false,fun _=>0,fun _=>0⟩),.one (.int .i64 0),.one (.int .i64 16)],HS,[]⟩:=
 fM [g] (Aw (fL:=fL) (cut:=cut) hL hbl h3 w0) (by simp) (.flat hi .nil) (.flat .nil) (.cons (show 0<1 by omega) .nil) (.cons rfl .nil) ud ql hbd rfl
theorem y6:aL prog 90 (Dv 0 .nils):=by
 show aL prog 90 [.int .i64 0,.nils]
 infer_instance
theorem vR:aL prog 87 (tb ⟨0,false,false,0⟩ .nils):=by
 show aL prog 87 [.int .i64 0,.bool false,.bool false,.int .i64 0,.nils]
 infer_instance
theorem Lg{inter:Bool}{qp:Int}{l:List Gr}{j:Nat}{b e:Int}(h:o3 inter qp b (l.drop j) e)(hj:j<l.length):(l.getD j default).first=b/\1<=(l.getD j default).ms.length/\(l.getD j default).ms.length<=5/\nv inter qp (l.getD j default).ms/\o3 inter qp (b+((l.getD j default).ms.length:Nat)) (l.drop (j+1)) e:=by
 rw[List.drop_eq_getElem_cons hj]at h;rw[List.getD_eq_getElem?_getD,List.getElem?_eq_getElem hj,Option.getD_some];exact h
theorem x8{inter:Bool}{qp:Int}:∀{l:List Gr} {b e:Int},o3 inter qp b l e->b<=e
 | [],b,e,h=>by have h:b=e:=h;omega
 | x::l,b,e,h=>by have:=x8 h.2.2.2.2;omega
def Ch(qp:Int)(l:List Mb)(k:Nat):Int:=if k=0 then qp else(l.getD (k-1) default).qp
theorem BO{hd:Hd}{p:Ph}{L:List (List XC)}{k q m n:Nat}{gs:List Gr}(hg:wo L k gs)(hn:gs.length=n)(hp:pA p)(hok:o3 p.inter p.qp 0 gs (hd.cols*hd.rows))(hcr:1<=hd.cols*hd.rows/\hd.cols*hd.rows<=64)(hgn:gs.length<=64) :
 bq prog 57 [.agg (f9 hd (.lsl 0 q 0 m m 0)),.agg (tb p (.lsl 0 k 0 n n 0))] [.late L] (.one (.int .i64 0)) [.late L]:=by
 subst hn;obtain⟨l,hl,hln,hall⟩:=hg;have hqp:=hp.qp;have hc:=hd.cols;refine cO Tryz.func57 ?_
 repeat' (first
  |(refine qz ?_;first
   |refine kY ?_
   |refine mf ?_)
  |refine zz ?_|refine zx (fun _=>?_) (fun _=>?_)|fail)
 refine WX.cj (σ:=Nat×Int) (fun s=>[(2,.one (.ptr 1 0)),(3,.one (.ptr 2 0)),(13,.one (.lsl 0 k 0 gs.length gs.length 0)),(14,.one (.int .i64 (gs.length:Nat))),(5,.one (.int .i64 s.2)),(15,.one (.int .i64 (s.1:Nat)))]) (fun s=>[.late L,.cells (f9 hd (.lsl 0 q 0 m m 0)) 36 false false,.cells (tb p (.lsl 0 k 0 gs.length gs.length 0)) 87 false false]) (fun s=>s.1<=gs.length/\0<=s.2/\o3 p.inter p.qp s.2 (gs.drop s.1) (hd.cols*hd.rows)) (fun s=>gs.length-s.1) (0,0) ⟨Nat.zero_le _,Int.le_refl _,hok⟩ (fun s _=>(nf (objs:=by repeat' (first|exact aw.nil|refine aw.cons (cQ (show 0<_ from Nat.le_of_ble_eq_true rfl)) ?_|refine kz ?_)))) (bV [0,1,2] (obj:=by(repeat' (first|exact af.nil|refine a_ rfl rfl ?_|refine oz ?_));first|done|fail)) ?_;intro s ⟨hle,h0,hgs⟩ ih;have hsle:=x8 hgs
 by_cases hlt:s.1<gs.length
 ·obtain⟨a1,a2,a3⟩:=hall s.1 hlt;obtain⟨b1,b2,b3,b4,b5⟩:=Lg hgs hlt;have hnx:=x8 b5
  obtain⟨g,hge⟩:∃g,gs.getD s.1 default=g:=⟨_,rfl⟩
  obtain⟨a,hae⟩:∃a,l.getD s.1 default=a:=⟨_,rfl⟩
  have hae':l.getD (s.1:Int).toNat default=a:=hae;rw[hge]at a1 a2 a3 b1 b2 b3 b4 b5 hnx;rw[hae]at a1 a2 a3;rw[b1]at a1
  have ea:(pE (l.getD (s.1:Int).toNat default)).map (·.self 0)=Dv s.2 (.lsl 0 a.k 0 g.ms.length g.ms.length 0):=by
   rw[hae',<-a1,<-a2];rfl
  have hlt2:s.1<l.length:=by omega
  repeat' (first
   |(refine qz ?_;first
    |refine kY ?_
    |refine mf ?_
    |refine jG (zs:=Dv 0 .nils) (hz:=y6) ?_
    |refine BW (enc:=pE) ?_ hl (by omega) (hc':=ea))
   |refine zz ?_|refine zx (fun _=>?_) (fun _=>?_)|fail)
  refine WX.cj (σ:=Nat) (fun t=>[(2,.one (.ptr 1 0)),(3,.one (.ptr 2 0)),(7,.one (.ptr 3 0)),(13,.one (.lsl 0 k 0 gs.length gs.length 0)),(14,.one (.int .i64 (gs.length:Nat))),(5,.one (.int .i64 s.2)),(15,.one (.int .i64 (s.1:Nat))),(33,.one (.lsl 0 a.k 0 g.ms.length g.ms.length 0)),(34,.one (.int .i64 (g.ms.length:Nat))),(8,.one (.int .i64 (Ch p.qp g.ms t))),(35,.one (.int .i64 (t:Nat)))]) (fun t=>[.late L,.cells (f9 hd (.lsl 0 q 0 m m 0)) 36 false false,.cells (tb p (.lsl 0 k 0 gs.length gs.length 0)) 87 false false,.cells (Dv s.2 (.lsl 0 a.k 0 g.ms.length g.ms.length 0)) 90 false false]) (fun t=>t<=g.ms.length) (fun t=>g.ms.length-t) 0 (Nat.zero_le _) (fun s _=>(nf (objs:=by repeat' (first|exact aw.nil|refine aw.cons (cQ (show 0<_ from Nat.le_of_ble_eq_true rfl)) ?_|refine kz ?_)))) (bV [0,1,2,3] (obj:=by(repeat' (first|exact af.nil|refine a_ rfl rfl ?_|refine oz ?_));first|done|fail)) ?_;intro t ht ih2
  by_cases hlt3:t<g.ms.length
  ·have hmk:=b4.mok t hlt3;have hck:=b4.chk t hlt3;have hck:dD (g.ms.getD t default) p.inter (Ch p.qp g.ms t)=0:=hck
   have hqr : -1000000<=Ch p.qp g.ms t/\Ch p.qp g.ms t<=1000000:=by
    unfold Ch;split
    ·omega
    ·have:=(b4.mok (t-1) (by omega)).qp;omega
   obtain⟨x,hxe⟩:∃x,g.ms.getD t default=x:=⟨_,rfl⟩
   have hxe':g.ms.getD (t:Int).toNat default=x:=hxe;rw[hxe]at hmk hck
   repeat' (first
    |(refine qz ?_;first
     |refine kY ?_
     |refine mf ?_
     |refine jG (zs:=mC zV) (hz:=rf) ?_
     |refine BW (enc:=mC) ?_ a3 (by omega)
     |refine nr (cs:=mC x) ?_ (hy:=by rw[<-hxe'];rfl) (hs1:=by rw[bl]) (hs2:=by rw[bl])
     |refine jV ?_ (hle:=by rw[bl])
     |refine cl ?_ (hi:=by exact zj hmk hqr hck rfl))
    |refine zz ?_|refine zx (fun _=>?_) (fun _=>?_)|fail)
   have eq1:Ch p.qp g.ms (t+1)=x.qp:=by unfold Ch;rw[if_neg (by omega),Nat.add_sub_cancel,hxe]
   exact ih2 (t+1) _ _ _ (bV [0,1,2,3] (obj:=by(repeat' (first|exact af.nil|refine a_ rfl rfl ?_|refine oz ?_));first|done|fail) (reg:=by(repeat' (first|exact ai.nil|refine ai.flat (by rw[eq1];rfl) ?_|refine rz ?_|refine ai.sl rfl (by assumption) rfl ?_));first|done|fail)) (by omega) (by omega)
  ·repeat' (first
    |(refine qz ?_;first
     |refine kY ?_
     |refine mf ?_)
    |refine zz ?_|refine zx (fun _=>?_) (fun _=>?_)|fail)
   exact ih (s.1+1,s.2+(g.ms.length:Nat)) _ _ _ (bV [0,1,2] (obj:=by(repeat' (first|exact af.nil|refine a_ rfl rfl ?_|refine oz ?_));first|done|fail)) ⟨by show s.1+1<=_;omega,by show 0<=s.2+_;omega,b5⟩ (by show _-(s.1+1)<_;omega)
 ·have e0:s.1=gs.length:=by omega
  rw[e0,List.drop_length]at hgs;have hgs:s.2=hd.cols*hd.rows:=hgs
  repeat' (first
   |(refine qz ?_;first
    |refine kY ?_
    |refine mf ?_
    |refine ld (c := .int .i64 hd.cols) ?_
    |refine ld (c := .int .i64 hd.rows) ?_)
   |refine zz ?_|refine zx (fun _=>?_) (fun _=>?_)|fail)
  show aE _ _ _ _ _ _ _ _;refine kV [0] ?_;rfl
theorem wN{hd:Hd}{p:Ph}{L:List (List XC)}{k q m n i:Nat}{gs:List Gr}(hg:wo L k gs)(hn:gs.length=n)(hp:pA p)(hok:o3 p.inter p.qp 0 gs (hd.cols*hd.rows))(hcr:1<=hd.cols*hd.rows/\hd.cols*hd.rows<=64)(hgn:gs.length<=64){HS:ah}(hi:HS[i]? = some (.late L))(hbd:Nat.blt HS.length Mem.bound=true) :
 az.Sound prog ⟨57,[.agg (f9 hd (.lsl i q 0 m m 0)),.agg (tb p (.lsl i k 0 n n 0))],HS,.one (.int .i64 0),HS,[]⟩:=by
 refine fM [i] (BO (q:=q) (m:=m) hg hn hp hok hcr hgn) (by simp) (.flat hi .nil) (.flat .nil) (.cons (rV (show 0<_ from Nat.le_of_ble_eq_true rfl)) (.cons ?_ .nil)) (.cons (qJ rfl) (.cons rfl .nil)) trivial rfl hbd rfl;intro x hx;simp only[List.mem_cons,List.not_mem_nil,or_false]at hx
 rcases hx with rfl|rfl|rfl|rfl|rfl<;>first|trivial|exact Nat.zero_lt_one
theorem Ag{ps:List Pc}{l:List P9}{i:Nat}{p:Pc}(h1:(l.getD i default).ph=p.ph)(h2:(l.getD i default).n=p.gs.length)(g:Nat):(nX (l.getD i default)).map (·.self g)=tb p.ph (.lsl g (l.getD i default).k 0 p.gs.length p.gs.length 0):=by
 rw[<-h1,<-h2];rfl
theorem Cl{s:o4}(hs:C6 s){L:List (List XC)}{k n:Nat}(hp:wq L k s.ps)(hn:s.ps.length=n) :
 bq prog 30 [.agg (f9 s.hd (.lsl 0 k 0 n n 0))] [.late L] (.one (.int .i64 0)) [.late L]:=by
 subst hn;obtain⟨l,hl,hln,hall⟩:=hp;have hmany:=hs.many;have hcr:=oL hs;refine cO Tryz.func30 ?_
 repeat' (first
  |(refine qz ?_;first
   |refine rG (cs:=b7 s.hd) ?_ (hle:=by rw[dt];decide) (hc:=yv _ _)
   |refine ld (c := .lsl 0 k 0 s.ps.length s.ps.length 0) ?_ (hc:=Cy _ _)
   |refine cl ?_ (hi:=by exact j7 hs.hd rfl)
   |refine kY ?_
   |refine mf ?_)
  |refine zz ?_|refine zx (fun _=>?_) (fun _=>?_)|fail)
 refine WX.cj (σ:=Nat) (fun j=>[(1,.one (.ptr 1 0)),(25,.one (.lsl 0 k 0 s.ps.length s.ps.length 0)),(26,.one (.int .i64 (s.ps.length:Nat))),(27,.one (.int .i64 (j:Nat)))]) (fun j=>[.late L,.cells (f9 s.hd (.lsl 0 k 0 s.ps.length s.ps.length 0)) 36 false false]) (fun j=>j<=s.ps.length) (fun j=>s.ps.length-j) 0 (Nat.zero_le _) (fun j _=>(nf (objs:=by repeat' (first|exact aw.nil|refine aw.cons (cQ (show 0<_ from Nat.le_of_ble_eq_true rfl)) ?_|refine kz ?_)))) (bV [0,1] (obj:=by(repeat' (first|exact af.nil|refine a_ rfl rfl ?_|refine oz ?_));first|done|fail)) ?_;intro j hj ih
 by_cases hlt:j<s.ps.length
 ·obtain⟨a1,a2,a3⟩:=hall j hlt;have hok:=hs.pics j hlt;have hsf:=Ag (ps:=s.ps) a1 a2 0
  obtain⟨p,hpe⟩:∃p,s.ps.getD j default=p:=⟨_,rfl⟩
  obtain⟨a,hae⟩:∃a,l.getD j default=a:=⟨_,rfl⟩
  have hae':l.getD (j:Int).toNat default=a:=hae;rw[hpe]at a3 hok hsf;rw[hae]at a3 hsf;have hgs:=hok.gs;rw[show(((s.hd.cols*s.hd.rows).toNat:Nat):Int)=s.hd.cols*s.hd.rows by omega]at hgs;have hid:=hok.id;have hfw:=hok.few;have hfi:=hok.first
  obtain⟨P,hP⟩:∃P,p.ph=P:=⟨_,rfl⟩
  have hph:=hok.ph;rw[hP]at hgs hid hfi hph hsf;have hsf:(nX (l.getD (j:Int).toNat default)).map (·.self 0)=tb P (.lsl 0 a.k 0 p.gs.length p.gs.length 0):=by rw[hae'];exact hsf
  have hlt2:j<l.length:=by omega
  by_cases h0:j=0
  ·have hfi:=hfi h0;obtain⟨pid,pin,pdn,pqp⟩:=P;obtain rfl:pin=false:=hfi
   repeat' (first
    |(refine qz ?_;first
     |refine kY ?_
     |refine mf ?_
     |refine jG (zs:=tb ⟨0,false,false,0⟩ .nils) (hz:=vR) ?_
     |refine BW (enc:=nX) ?_ hl hlt2 (hc':=hsf)
     |refine rG (cs:=sn P) ?_ (hle:=by decide) (hc:=by exact rfl)
     |refine cl ?_ (hi:=by exact j9 hph rfl)
     |refine jV ?_ (hle:=by rw[dt])
     |refine cl ?_ (hi:=by exact wN (i:=0) a3 rfl hph hgs (by omega) (by omega) rfl rfl))
    |refine zz ?_|refine zx (fun _=>?_) (fun _=>?_)|fail)
   exact ih (j+1) _ _ _ (bV [0,1] (obj:=by(repeat' (first|exact af.nil|refine a_ rfl rfl ?_|refine oz ?_));first|done|fail)) (by omega) (by omega)
  ·repeat' (first
    |(refine qz ?_;first
     |refine kY ?_
     |refine mf ?_
     |refine jG (zs:=tb ⟨0,false,false,0⟩ .nils) (hz:=vR) ?_
     |refine BW (enc:=nX) ?_ hl hlt2 (hc':=hsf)
     |refine rG (cs:=sn P) ?_ (hle:=by decide) (hc:=by exact rfl)
     |refine cl ?_ (hi:=by exact j9 hph rfl)
     |refine jV ?_ (hle:=by rw[dt])
     |refine cl ?_ (hi:=by exact wN (i:=0) a3 rfl hph hgs (by omega) (by omega) rfl rfl))
    |refine zz ?_|refine zx (fun _=>?_) (fun _=>?_)|fail)
   exact ih (j+1) _ _ _ (bV [0,1] (obj:=by(repeat' (first|exact af.nil|refine a_ rfl rfl ?_|refine oz ?_));first|done|fail)) (by omega) (by omega)
 ·repeat' (first
   |(refine qz ?_;first
    |refine kY ?_)
   |refine zz ?_|refine zx (fun _=>?_) (fun _=>?_)|fail)
  show aE _ _ _ _ _ _ _ _;refine kV [0] ?_;rfl
theorem FR{s:o4}(hs:C6 s){L:List (List XC)}{k n i:Nat}(hp:wq L k s.ps)(hn:s.ps.length=n){HS:ah}(hi:HS[i]? = some (.late L))(hbd:Nat.blt HS.length Mem.bound=true) :
 az.Sound prog ⟨30,[.agg (f9 s.hd (.lsl i k 0 n n 0))],HS,.one (.int .i64 0),HS,[]⟩:=
 fM [i] (Cl hs hp hn) (by simp) (.flat hi .nil) (.flat .nil) (.cons (rV (show 0<_ from Nat.le_of_ble_eq_true rfl)) .nil) (.cons (qJ rfl) .nil) trivial rfl hbd rfl
end Go.Proofs.YthdciapjllppjaaGreat
namespace Go.Proofs.YthdciapjllppjaaGreat
open Go.ChangeShapes Go.WideShapes Go.ChangeAt Go.RowKit Go.Deep Go.Xm
structure SR where
 kind:Int
 at_:Int
 burst:Int
 odd:List Int
 mask:List Int
structure Qc(s:SR):Prop where
 kind:0<=s.kind/\s.kind<256
 at_:0<=s.at_/\s.at_<65536
 burst:0<=s.burst/\s.burst<65536
 odd:∀z∈s.odd,0<=z/\z<65536
 mask:∀z∈s.mask,0<=z/\z<256
structure Tf where
 kind:Int
 at_:Int
 burst:Int
 co:XC
 cm:XC
section
variable {H:Type} {enc:TypeId×Value->H} {w:World} {base:Nat} {spare:Nat->Bool} {held:Bool}
structure SS(w:World)(G:Nat->Nat->Value)(i:Nat):Prop where
 n0:∃z,G i 0 = .int .u8 z/\(Lit.int .u8 z).wf=true
 n1:∃z,G i 1 = .int .u16 z/\(Lit.int .u16 z).wf=true
 n2:∃z,G i 2 = .int .u16 z/\(Lit.int .u16 z).wf=true
 odd:GQ w .u16 (G i 3)
 mask:GQ w .u8 (G i 4)
end
end Go.Proofs.YthdciapjllppjaaGreat
namespace Go.Proofs.YthdciapjllppjaaGreat
open Go.Xm
variable [ak]
def P0(ps:List (List Int))(i:Nat):Nat×Nat:=((rL (ps.getD (i+1) [])).1.toNat,(rL (ps.getD (i+1) [])).2.toNat)
theorem p9.mono{L:List (List XC)}{g:Nat}{c:XC}{vs:List XC}{n:Nat}(h:p9 L g c vs n)(r:List (List XC)):p9 (L++r) g c vs n:=by
 rcases h with h|⟨k,fl,h1,h2,h3⟩
 ·exact .inl h
 ·exact .inr ⟨k,fl,h1,h2,by rw[List.getElem?_append_left (List.getElem?_eq_some_iff.1 h3).1];exact h3⟩
structure SL(LA:List (List XC))(g:Nat)(s:SR)(co cm:XC)(a b:Nat):Prop where
 co:p9 LA g co (il .u16 s.odd) s.odd.length
 cm:p9 LA g cm (il .u8 s.mask) s.mask.length
 ok:Qc s
 few:s.odd.length<=30
 a:1<=a/\a<=30000
 b:1<=b/\b<=30000
end Go.Proofs.YthdciapjllppjaaGreat
namespace Go.Xm
variable [ak]
section
variable {P:Program} {ops:Array Oper} {nt nI:Nat} {al:aN} {hs:ah} {o:Oper} {l:List Oper} {L:List az} {K:List Ab->aN->ah->Prop} {d:Nat}
theorem KP{t t1 e e1:TypeId}{sz len:Nat}{a b:Operand}{zs:List XC}(i n:Nat){j:Nat}{cap:py}(cs:List XC){vs:List XC}{et:TypeId}{opn ro:Bool}{N:Nat}{hs':ah}(hk:SK P ops nt L l ((d,iq N (n+len) sz)::al) hs' fun bs=>K (⟨true,.none,[i,N]⟩::bs))(ho:o.op = .call ⟨.builtin .append,#[a,b],#[t,t1]⟩:=by exact rfl)(hu:aP P t (.slice e):=by infer_instance)(hu1:aP P t1 (.slice e1):=by infer_instance)(hz:aL P e zs:=by infer_instance)(hI:TI P e sz:=by infer_instance)(wn:Wn ops nt al o d:=by exact⟨rfl,rfl,rfl⟩)(hsz:zs.length=sz/\0<sz:=by exact⟨rfl,Nat.le_of_ble_eq_true rfl⟩)(ha:ae (rg al) a=iq i n sz:=by exact rfl)(hi:hs[i]? = some (bR e cs):=by exact rfl)(hb:ae (rg al) b = .one (.slice j 0 len cap):=by exact rfl)(hj:hs[j]? = some (.cells vs et opn ro):=by exact rfl)(hl:vs.length=len*sz:=by exact rfl)(hn:cs.length=n*sz:=by exact rfl)(hm:0<len/\n+len<=2000000000:=by omega)(hN:hs.length=N:=by exact n2)(hbd:Nat.blt N Mem.bound=true:=by exact rfl)(hh:hs.set i .dead++[bR e (cs++vs)]=hs':=by first|(simp only[List.set_cons_succ,List.set_cons_zero,List.cons_append,List.nil_append];exact rfl)|exact rfl):SK P ops nt L (o::l) al hs K:=by
 have hpos:0<len*sz:=Nat.mul_pos hm.1 hsz.2
 have hne:cs++vs≠[]:=fun e=>by
  have h2:(cs++vs).length=0:=by rw[e];rfl
  rw[List.length_append]at h2;omega
 refine SX i n cs ?_ ho hu hu1 hz hI wn hsz ha hi hb hj hl hn hm hN hbd (hs':=hs') ?_
 ·rw[fi (by omega)]at hk;exact hk
 ·rw[<-hh,cz hne]
end
theorem p9.mg{L:List (List XC)}{g g' m:Nat}{c:XC}{vs:List XC}{n:Nat}(h:p9 L g' c vs n)(hne:g'≠g):c.mg g m:=by
 rcases h with⟨_,rfl|⟨i,rfl⟩⟩|⟨k,fl,_,rfl,_⟩
 ·trivial
 ·trivial
 ·exact fun e=>absurd e hne
theorem bh.Ml{i g m:Nat}{A B:XC}{L:List (List XC)}{vs cs:List XC}{e:TypeId}{j:Nat}{hs hs2:ah}(hj:Nat.beq j i=false)(hn:∀c∈cs,c.mg g m)(h:bh i g m A B L vs (j+1) hs hs2):bh i g m A B L vs j (Xm.bR e cs::hs) (Xm.bR e cs::hs2):=by
 cases cs with
 | nil=>exact .dead h
 | cons c r=>exact .cells hj (.same hn) h
theorem qI{cs:List XC}{e:TypeId}{n:Nat}(h:∀c∈cs,c.ok n):(bR e cs).bH n:=by
 cases cs with
 | nil=>trivial
 | cons c r=>exact h
theorem mT{vs:List XC}{m:Nat}(h:∀c∈vs,c.lI m=true){g n:Nat}(hg:g<n):∀c∈vs.map (·.self g),c.ok n:=u6 (t:=0) (a:=false) (b:=false) h hg
end Go.Xm
namespace Go.Proofs.YthdciapjllppjaaGreat
open Go.Xm
variable [ak]
theorem Az{k n z g m:Nat}(h:k≠g):(eg k n z).mg g m:=by
 unfold eg;split
 ·trivial
 ·exact h
structure R2(ps:List (List Int)):Prop where
 len:ps.length<=1000
 body:∀i,0<i->i<ps.length->21<=(ps.getD i []).length/\(ps.getD i []).length<=100000000
 byte:∀i,bc (ps.getD i [])
 prt:∀i,i+1<ps.length->rL (ps.getD (i+1) [])=((((P0 ps i).1:Nat):Int),(((P0 ps i).2:Nat):Int))/\(1<=(P0 ps i).1/\(P0 ps i).1<=30000)/\(1<=(P0 ps i).2/\(P0 ps i).2<=30000)
end Go.Proofs.YthdciapjllppjaaGreat
