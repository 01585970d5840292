/-
  A part of the proof: WkG, WkH, StrK, StrA, FtT.
-/
import Derived.Test.YthdciapjllppjaaGreatWbE
import Derived.Test.YthdciapjllppjaaGreatWbF
import Derived.Test.YthdciapjllppjaaGreatWbR
import Derived.Test.YthdciapjllppjaaGreatWbZ
set_option maxRecDepth 10000
set_option maxHeartbeats 8000000
set_option linter.unusedVariables false
set_option linter.unusedSectionVars false
set_option linter.unusedSimpArgs false
open Go.Proofs.Tryz (prog)
namespace Go.Xm
variable [aq]
variable {P:Program} {ops:Array Oper} {nt nI:Nat} {al:aO} {hs:aj} {o:Oper} {l:List Oper} {L:List aA} {K:List Ab->aO->aj->Prop} {d:Nat}
theorem Tz{t e et:TypeId}{a:Operand}{lo hi:Option Operand}{s:Nat}{i off n p q o' m:Nat}{z w:Int}{vs:List XC}{opn ro:Bool}(hk:SK P ops nt L l ((d,.one (.slice i o' m (.toEnd s)))::al) hs fun bs=>K (⟨false,some i,[]⟩::bs))(ho:o.op = .slice t a lo hi .none:=by exact rfl)(hu:aQ P t (.slice e):=by infer_instance)(hs':aH P e s:=by infer_instance)(wn:Wn ops nt al o d:=by exact⟨rfl,rfl,rfl⟩)(ha:af (rg al) a = .one (.slice i off n (.toEnd s)):=by exact rfl)(hl:qS (lo.map (af (rg al))) 0=some z:=by exact rfl)(hh:qS (hi.map (af (rg al))) (n:Nat)=some w:=by exact rfl)(hi2:hs[i]? = some (.cells vs et opn ro):=by exact rfl)(hp:z=(p:Nat):=by first|exact rfl|omega)(hq:w=(q:Nat):=by first|exact rfl|omega)(hb:0<s/\p<q/\off+q*s<=vs.length)(e1:off+p*s=o':=by omega)(e2:q-p=m:=by omega):SK P ops nt L (o::l) al hs K:=by
 subst e1 e2 hp hq;obtain⟨b1',b2',b3'⟩:=hb;have hy:q<=(vs.length-off)/s:=(Nat.le_div_iff_mul_le b1').2 (by omega);refine SK.lift wn.e wn.l (fun _=>?_) hk;intro M hM;refine⟨M,?_,hM,fun _ _=>rfl⟩;unfold ji;rw[wn.w]
 obtain⟨f,hf1,hf2⟩:∃f,eX P (af (rg al)) o.op=some (i,f)/\f (.cells vs et opn ro)=some (.one (.slice i (off+p*s) (q-p) (.toEnd s))):=by
  rw[ho];simp only[eX,ha];refine⟨_,rfl,?_⟩;simp only[pe,hu.out,hs'.out,qT hh hy,qU hl (Nat.le_of_lt b2')];rw[if_pos ⟨trivial,b1',b2',b3'⟩]
 refine mh (by rw[ho];simp only[aZ,oJ,ha,hu.out]) (by rw[ho];rfl) hf1 ?_;rw[hM.at hi2,hf2]
theorem WX.forget{c:sn}{R:cu}(i:Nat){xs ys:List XC}{e:TypeId}{hs':aj}(hi:hs[i]? = some (.cells (xs++ys) e true false))(hh:hs.set i (.cells xs e true false)=hs')(h:WX P nt nI c al hs' R):WX P nt nI c al hs R:=by
 subst hh;intro βI mI wI hn m hm β w a Q hr hw hq;obtain⟨h1,h2⟩:=hm.lt hi;have hg:=hm.at hi;have hin:i<m.n:=by rw[hm.n];exact(List.getElem?_eq_some_iff.1 hi).1
 have hst:Step β m w β (m.put i (.cells xs e true false)) w:=by
  refine Step.put hw.rel hin (by rw[hg];rfl) rfl rfl rfl rfl (fun _ _=>rfl) ?_;have ho:=hw.rel.obj i hin;rw[hg]at ho;obtain⟨cs,fr,k1,k2,k3,k4,k5,k6⟩:=ho;refine⟨cs,fr,k1,k2,?_,k4,fun c hc=>k5 c (List.mem_append_left _ hc),?_⟩
  ·simp only[if_true]at k3 ⊢;rw[List.length_append]at k3;omega
  ·have:=congrArg (List.take xs.length) k6;rw[List.take_take,List.length_append,Nat.min_eq_left (Nat.le_add_right _ _),List.map_append,List.take_left' (List.length_map ..)]at this;exact this
 have hm':=hm.put hi (.cells xs e true false);have hn':(m.put i (.cells xs e true false)).n=m.n:=Mem.dZ ..;exact h βI mI wI hn _ hm' β w a Q (by rw[hn'];exact hr) (hw.trans hst) hq
end Go.Xm
namespace Go.Proofs.YthdciapjllppjaaGreat
open Go.Xm
variable [aq]
theorem Ra{a b:Nat}(ha:a<256)(hb:b<256):sB .u16 ((a:Int)*2^8) (b:Int)=((a*256+b:Nat):Int):=by
 have e1:(a:Int)*2^8=((a*256:Nat):Int):=by
  have:(2:Int)^8=256:=by decide
  rw[this];omega
 have e2:((BitVec.ofInt 16 ((a*256:Nat):Int) ||| BitVec.ofInt 16 (b:Int)).toNat)=a*256+b:=by
  rw[BitVec.ofInt_natCast,BitVec.ofInt_natCast,BitVec.toNat_or,BitVec.toNat_ofNat,BitVec.toNat_ofNat,Nat.mod_eq_of_lt (by omega),Nat.mod_eq_of_lt (by omega)];have h:=Nat.shiftLeft_add_eq_or_of_lt (i:=8) (b:=b) hb a;rw[Nat.shiftLeft_eq]at h;exact h.symm
 rw[e1];show IntKind.u16.wrap (((BitVec.ofInt 16 ((a*256:Nat):Int) ||| BitVec.ofInt 16 (b:Int)).toNat:Nat):Int)=_;rw[e2];exact f6 (k := .u16) ⟨by show 0<=((a*256+b:Nat):Int);omega,by show((a*256+b:Nat):Int)<65536;omega⟩
theorem OA{s:Int}(h:0<=s/\s<65536):sB .u16 (s/256*2^8) (s%256)=s:=by
 have:=Ra (a:=(s/256).toNat) (b:=(s%256).toNat) (by omega) (by omega);rw[show(((s/256).toNat:Nat):Int)=s/256 by omega,show(((s%256).toNat:Nat):Int)=s%256 by omega]at this;rw[this];omega
theorem I5{h:Hd}(ho:lE h)(hr:∀i,i<64->(0<=h.a i/\h.a i<=255)/\(0<=h.b i/\h.b i<=255)){n:Nat}(hn:(py h).length=n)(hw0:h.w=false->∀i,i<64->h.a i=0/\h.b i=0){HS:aj}{i:Nat}(hi:HS[i]? = some (.cells (il .u8 (py h)) 5 true false))(hbd:Nat.blt HS.length Mem.bound=true) :
 aA.Sound prog ⟨71,[.one (.slice i 0 n (.toEnd 1))],HS,.tup [.agg (b9 h),.one (.int .i64 0)],HS,[i]⟩:=by
 have hvf:∀x∈([.agg (b9 h),.one (.int .i64 0)]:List Go.Xm.X1),x.shut=true:=fun x hx=>by
  simp only[List.mem_cons,List.not_mem_nil,or_false]at hx
  rcases hx with rfl|rfl
  ·exact cW h
  ·rfl
 exact bI [i] [i] 0 (FL ho hr hn hw0) (by simp) (.flat hi .nil) (.flat .nil) (.flat .nil) rfl (.cons (show 0<1 by omega) .nil) (.cons rfl .nil) ((eL (by show List.all _ _=true;exact List.all_eq_true.2 hvf)).ok _) ((eL (by show List.all _ _=true;exact List.all_eq_true.2 hvf)).aC _) (.flat .nil) rfl rfl (by simp only[bJ,List.append_nil];exact aG hi) hbd (.inl rfl)
theorem zS(h:Hd)(a b:Int):b8 (.tup [.agg (b9 h),.one (.int .i64 a),.one (.int .i64 b)]):=eL (by
 show List.all _ _=true;refine List.all_eq_true.2 fun x hx=>?_
 simp only[List.mem_cons,List.not_mem_nil,or_false]at hx
 rcases hx with rfl|rfl|rfl
 ·exact cW h
 ·rfl
 ·rfl)
theorem uq{h:Hd}{a b:Int}{n:Nat}:(XV.tup [.agg (b9 h),.one (.int .i64 a),.one (.int .i64 b)]).bK n:=(zS h a b).ok n
theorem qB{h:Hd}{a b:Int}{τ : Nat->Nat}:(XV.tup [.agg (b9 h),.one (.int .i64 a),.one (.int .i64 b)]).aC τ = .tup [.agg (b9 h),.one (.int .i64 a),.one (.int .i64 b)]:=(zS h a b).aC τ
theorem CK{W:List (List XC)}{kk off n fL cut:Nat}{b:List Int}(hL:W[kk]? = some (il .u8 b))(hbl:off+n<=b.length)(hn:n<=1000000000)(hfl:n<=fL){h:Hd}(ho:lE h)(hr:∀i,i<64->(0<=h.a i/\h.a i<=255)/\(0<=h.b i/\h.b i<=255))(hw0:h.w=false->∀i,i<64->h.a i=0/\h.b i=0){y:Nat}(hy:(hZ h).length=y)(hyn:y<=n)(his:∀i,i<y->b.getD (off+i) 0=(hZ h).getD i 0)(hend:(findF (dB b off) n 3=none/\n=y)\/findF (dB b off) n 3=some y) :
 bt prog 35 [.one (.lsl 0 kk off n fL cut)] [.late W] (.tup [.agg (b9 h),.one (.int .i64 (y:Nat)),.one (.int .i64 0)]) [.late W]:=by
 have hSb:=uu h;have hSl:=yq h;have hRb:=qC h;have hRl:=th h
 have hR1:1<=(py h).length:=by
  unfold py;rw[cN,List.length_append,List.length_singleton];omega
 have hback:=HX hSb;have hEb:=oP _ hSb;have hEl:=(nV (zn h)).1;have hS3:zn h=py h++[c9 (py h)/256,c9 (py h)%256,128]:=rfl;have hY:hZ h = [0,0,1,176]++(fy (zn h) (zn h).length).1:=rfl;have hpc:=fun {HS:aj} {i:Nat} {m:Nat}(hm:(py h).length=m)=>I5 ho hr hm hw0 (HS:=HS) (i:=i)
 have hsu:=gf (py h)
 obtain⟨E,hE⟩:∃E,(fy (zn h) (zn h).length).1=E:=⟨_,rfl⟩
 rw[hE]at hback hEb hEl hY
 obtain⟨Q,hQ⟩:∃Q,py h=Q:=⟨_,rfl⟩
 rw[hQ]at hRb hRl hR1 hS3 hpc hsu
 obtain⟨su,hsd⟩:∃s,c9 Q=s:=⟨_,rfl⟩
 rw[hsd]at hS3 hsu
 obtain⟨V,hV⟩:∃V,zn h=V:=⟨_,rfl⟩
 rw[hV]at hSb hSl hback hEl hS3
 obtain⟨r,hrl⟩:∃r,Q.length=r:=⟨_,rfl⟩
 have hVl:V.length=r+3:=by rw[hS3,List.length_append,hrl];rfl
 have hyE:y=4+E.length:=by rw[<-hy,hY,List.length_append];rfl
 have w0:dB b off 0=0/\dB b off 1=0/\dB b off 2=1:=⟨(his 0 (by omega)).trans (by rw[hY];rfl),(his 1 (by omega)).trans (by rw[hY];rfl),(his 2 (by omega)).trans (by rw[hY];rfl)⟩
 have hE1:r+3<=E.length:=by
  have:=ud _ _ _ _ _ hback;simp only[List.length_nil]at this;omega
 have hf0:od (findF (dB b off) n 0)=0/\(findF (dB b off) n 0).isSome=true:=by
  rw[kA (by omega) w0];exact⟨rfl,rfl⟩
 have hc3:(il .u8 b)[off+3]? = some (.int .u8 176):=mO (by omega) ((his 3 (by omega)).trans (by rw[hY];rfl))
 have hwE:∀i,i<E.length->b.getD (off+4+i) 0=E.getD i 0:=fun i hi=>by
  rw[show off+4+i=off+(4+i) by omega,his (4+i) (by omega),hY,List.getD_eq_getElem?_getD,List.getElem?_append_right (by show 4<=4+i;omega),List.getD_eq_getElem?_getD,show 4+i-([0,0,1,176]:List Int).length=i by show 4+i-4=i;omega]
 have v0:V.getD r 0=su/256:=by
  rw[hS3,List.getD_eq_getElem?_getD,List.getElem?_append_right (by omega),hrl,Nat.sub_self];rfl
 have v1':V.getD (r+1) 0=su%256:=by
  rw[hS3,List.getD_eq_getElem?_getD,List.getElem?_append_right (by omega),hrl,Nat.add_sub_cancel_left];rfl
 have v2':V.getD (r+2) 0=128:=by
  rw[hS3,List.getD_eq_getElem?_getD,List.getElem?_append_right (by omega),hrl,Nat.add_sub_cancel_left];rfl
 have hVQ:∀i,i<Q.length->V.getD i 0=Q.getD i 0:=fun i hi=>by
  rw[hS3,List.getD_eq_getElem?_getD,List.getElem?_append_left hi,<-List.getD_eq_getElem?_getD]
 have hVc:il .u8 V=il .u8 Q++il .u8 [su/256,su%256,128]:=by
  rw[hS3];unfold il;rw[List.map_append]
 have i2:((((r+3:Nat):Int)-1)).toNat=r+2:=by omega
 have i1:((((r+3:Nat):Int)-2)).toNat=r+1:=by omega
 have i0:((((r+3:Nat):Int)-3)).toNat=r:=by omega
 have hor:sB .u16 (IntKind.u16.wrap (su/256*2^8)) (su%256)=su:=by
  have e:(2:Int)^8=256:=by decide
  rw[f6 (k := .u16) ⟨by rw[e];show(0:Int)<=su/256*256;omega,by rw[e];show su/256*256<65536;omega⟩];exact OA hsu
 have g2:V.getD (((r+3:Nat):Int)-1).toNat 0=128:=by rw[i2];exact v2'
 have g0:V.getD (((r+3:Nat):Int)-3).toNat 0=su/256:=by rw[i0];exact v0
 have g1:V.getD (((r+3:Nat):Int)-2).toNat 0=su%256:=by rw[i1];exact v1'
 have hor2:sB .u16 (IntKind.u16.wrap (V.getD (((r+3:Nat):Int)-3).toNat 0*2^8)) (V.getD (((r+3:Nat):Int)-2).toNat 0)=su:=by rw[g0,g1];exact hor
 have k2:(il .u8 V)[r+2]? = some (.int .u8 128):=mO (by omega) v2';have k1:(il .u8 V)[r+1]? = some (.int .u8 (su%256)):=mO (by omega) v1';have k0:(il .u8 V)[r]? = some (.int .u8 (su/256)):=mO (by omega) v0
 rcases hend with⟨e3,hny⟩|e3
 ·have hf3:od (findF (dB b off) n 3)=0/\(findF (dB b off) n 3).isSome=false:=by rw[e3];exact⟨rfl,rfl⟩
  obtain rfl:n=y:=hny;refine cO Tryz.func35 ?_
  repeat' (first
   |(refine qz ?_;first
    |refine jU (zs:=b9 ⟨0,0,false,fun _=>0,fun _=>0⟩) (hz:=hU) ?_
    |refine cl ?_ (hi:=by exact dS hL hbl hn (frm:=0) rfl (by decide) hf0 (g:=0) rfl rfl)
    |refine cl ?_ (hi:=by exact dS hL hbl hn (frm:=3) rfl (by decide) hf3 (g:=0) rfl rfl)
    |refine kD ?_
    |refine l5 ?_
    |refine qJ ?_ hL hc3 rfl
    |refine KX (p:=4) (q:=n) (o':=off+4) (m:=E.length) ?_
    |refine cl ?_ (hi:=by exact sv hL (l:=E) rfl (by omega) hwE hEb (by omega) hback hVl (by omega) (g:=0) rfl nL nA rfl)
    |refine Tz (p:=0) (q:=r) (o':=0) (m:=r) ?_ (hb:=⟨by decide,by omega,by rw[bz];omega⟩)
    |refine Sb 8 ?_
    |refine t5 (zs:=[.nils]) ?_
    |refine cl ?_ (hi:=by exact Er (l:=Q) (w:=V) hRb (by omega) (by omega) hVQ (RO.of ..) hsd hrl (i:=2) (j:=3) rfl rfl (by decide) rfl))
   |refine lq 17 ?_|refine zz ?_|refine zx (fun _=>?_) (fun _=>?_)|fail)
  refine⟨?_⟩;refine WX.forget 2 (xs:=il .u8 Q) (ys:=il .u8 [su/256,su%256,128]) (by rw[hVc];rfl) hS ?_
  repeat' (first
   |(refine qz ?_;first
    |refine jU (zs:=b9 ⟨0,0,false,fun _=>0,fun _=>0⟩) (hz:=hU) ?_
    |refine cl ?_ (hi:=by exact hpc hrl rfl rfl)
    |refine nD (cs:=b9 h) ?_ (hs1:=by rw[aF,aF]) (hs2:=by rw[aF,aF])
    |refine jI ?_ (hle:=by rw[aF]))
   |refine zz ?_|refine zx (fun _=>?_) (fun _=>?_)|fail)
  show aE _ _ _ _ _ _ _ _;refine kV [0] ?_ (hr:=fH.two rfl (.cell rfl rfl (bR rfl) (.tmp rfl (.tmp rfl .nil)))) (hok:=uq);exact qB.symm
 ·have hf3:od (findF (dB b off) n 3)=(y:Int)/\(findF (dB b off) n 3).isSome=true:=by rw[e3];exact⟨rfl,rfl⟩
  refine cO Tryz.func35 ?_
  repeat' (first
   |(refine qz ?_;first
    |refine jU (zs:=b9 ⟨0,0,false,fun _=>0,fun _=>0⟩) (hz:=hU) ?_
    |refine cl ?_ (hi:=by exact dS hL hbl hn (frm:=0) rfl (by decide) hf0 (g:=0) rfl rfl)
    |refine cl ?_ (hi:=by exact dS hL hbl hn (frm:=3) rfl (by decide) hf3 (g:=0) rfl rfl)
    |refine kD ?_
    |refine l5 ?_
    |refine qJ ?_ hL hc3 rfl
    |refine KX (p:=4) (q:=y) (o':=off+4) (m:=E.length) ?_
    |refine cl ?_ (hi:=by exact sv hL (l:=E) rfl (by omega) hwE hEb (by omega) hback hVl (by omega) (g:=0) rfl nL nA rfl)
    |refine Tz (p:=0) (q:=r) (o':=0) (m:=r) ?_ (hb:=⟨by decide,by omega,by rw[bz];omega⟩)
    |refine Sb 8 ?_
    |refine t5 (zs:=[.nils]) ?_
    |refine cl ?_ (hi:=by exact Er (l:=Q) (w:=V) hRb (by omega) (by omega) hVQ (RO.of ..) hsd hrl (i:=2) (j:=3) rfl rfl (by decide) rfl))
   |refine lq 17 ?_|refine zz ?_|refine zx (fun _=>?_) (fun _=>?_)|fail)
  refine⟨?_⟩;refine WX.forget 2 (xs:=il .u8 Q) (ys:=il .u8 [su/256,su%256,128]) (by rw[hVc];rfl) hS ?_
  repeat' (first
   |(refine qz ?_;first
    |refine jU (zs:=b9 ⟨0,0,false,fun _=>0,fun _=>0⟩) (hz:=hU) ?_
    |refine cl ?_ (hi:=by exact hpc hrl rfl rfl)
    |refine nD (cs:=b9 h) ?_ (hs1:=by rw[aF,aF]) (hs2:=by rw[aF,aF])
    |refine jI ?_ (hle:=by rw[aF]))
   |refine zz ?_|refine zx (fun _=>?_) (fun _=>?_)|fail)
  show aE _ _ _ _ _ _ _ _;refine kV [0] ?_ (hr:=fH.two rfl (.cell rfl rfl (bR rfl) (.tmp rfl (.tmp rfl .nil)))) (hok:=uq);exact qB.symm
theorem Ji{W:List (List XC)}{g k off n fL cut:Nat}{b:List Int}(hL:W[k]? = some (il .u8 b))(hbl:off+n<=b.length)(hn:n<=1000000000)(hfl:n<=fL){p:Ph}{first count all:Int}{A Bb:List Int}{B:List Bool}(hp:K3 b off n p first count all A Bb B){la lb:Nat}(hla:A.length=la)(hlb:Bb.length=lb){z:Int}(hz:((21+A.length+Bb.length:Nat):Int)=z){HS:aj}(hi:HS[g]? = some (.late W)){N M:Nat}(hN:HS.length=N)(hM:N+1=M){HS':aj}(hh:HS++[.cells (il .u8 A) 5 true false,.cells (il .u8 Bb) 5 true false]=HS')(hbd:Nat.blt HS'.length Mem.bound=true) :
 aA.Sound prog ⟨36,[.one (.lsl g k off n fL cut),.one (.int .i64 all)],HS,.tup [.agg (CY p first count (.slice N 0 la (.toEnd 1)) (.slice M 0 lb (.toEnd 1)) z),.one (.int .i64 0)],HS',[g]⟩:=by
 subst hN hM hla hlb hz;exact bI [g] [g] 2 (F0 hL hbl hn hfl hp) (by simp) (.flat hi .nil) (.flat .nil) (.flat (.flat (.flat .nil))) rfl (.cons (show 0<1 by omega) (.flat .nil)) (.cons rfl (.flat .nil)) (by simp[XV.bK,X1.ok,XC.ok]) rfl (.flat (.flat (.flat .nil))) rfl rfl (by simp only[bJ];rw[aG hi];exact hh) hbd (.inl rfl)
abbrev A8:List XC:=[.int .i64 0,.bool false,.bool false,.int .i64 0,.int .i64 0,.int .i64 0,.nils,.nils,.int .i64 0,.bool false,.bool false]
theorem CC{W:List (List XC)}{k off n fL cut:Nat}{b:List Int}(hL:W[k]? = some (il .u8 b))(hbl:off+n<=b.length)(hn:n<=1000000000)(all:Int)(h4:4<=n)(w0:dB b off 0=0/\dB b off 1=0/\dB b off 2=1){c:Int}(hc:b.getD (off+3) 0=c)(hne:c≠182) :
 bt prog 36 [.one (.lsl 0 k off n fL cut),.one (.int .i64 all)] [.late W] (.tup [.agg A8,.one (.int .i64 5)]) [.late W]:=by
 have hf0:od (findF (dB b off) n 0)=0/\(findF (dB b off) n 0).isSome=true:=by
  rw[kA (by omega) w0];exact⟨rfl,rfl⟩
 have hc3:(il .u8 b)[off+3]? = some (.int .u8 c):=mO (by omega) hc;refine cO Tryz.func36 ?_
 repeat' (first
  |(refine qz ?_;first
   |refine cl ?_ (hi:=by exact dS hL hbl hn (frm:=0) rfl (by decide) hf0 (g:=0) rfl rfl)
   |refine kD ?_
   |refine l5 ?_
   |refine qJ ?_ hL hc3 rfl)
  |refine zz ?_|refine zx (fun _=>?_) (fun _=>?_)|fail)
 show aE _ _ _ _ _ _ _ _;refine kV [0] ?_;rfl
theorem FZ{W:List (List XC)}{g k off n fL cut:Nat}{b:List Int}(hL:W[k]? = some (il .u8 b))(hbl:off+n<=b.length)(hn:n<=1000000000){all:Int}(h4:4<=n)(w0:dB b off 0=0/\dB b off 1=0/\dB b off 2=1){c:Int}(hc:b.getD (off+3) 0=c)(hne:c≠182){HS:aj}(hi:HS[g]? = some (.late W))(hbd:Nat.blt HS.length Mem.bound=true) :
 aA.Sound prog ⟨36,[.one (.lsl g k off n fL cut),.one (.int .i64 all)],HS,.tup [.agg A8,.one (.int .i64 5)],HS,[]⟩:=
 fR [g] (CC (fL:=fL) (cut:=cut) hL hbl hn all h4 w0 hc hne) (by simp) (.flat hi .nil) (.flat .nil) (.cons (show 0<1 by omega) (.flat .nil)) (.cons rfl (.flat .nil)) (by simp[XV.bK,X1.ok,XC.ok]) rfl hbd rfl
theorem xD{W:List (List XC)}{g kk off n fL cut:Nat}{b:List Int}(hL:W[kk]? = some (il .u8 b))(hbl:off+n<=b.length)(hn:n<=1000000000)(hfl:n<=fL){h:Hd}(ho:lE h)(hr:∀i,i<64->(0<=h.a i/\h.a i<=255)/\(0<=h.b i/\h.b i<=255))(hw0:h.w=false->∀i,i<64->h.a i=0/\h.b i=0){y:Nat}(hy:(hZ h).length=y)(hyn:y<=n)(his:∀i,i<y->b.getD (off+i) 0=(hZ h).getD i 0)(hend:(findF (dB b off) n 3=none/\n=y)\/findF (dB b off) n 3=some y){HS:aj}(hi:HS[g]? = some (.late W))(hbd:Nat.blt HS.length Mem.bound=true) :
 aA.Sound prog ⟨35,[.one (.lsl g kk off n fL cut)],HS,.tup [.agg (b9 h),.one (.int .i64 (y:Nat)),.one (.int .i64 0)],HS,[]⟩:=
 fR [g] (CK (cut:=cut) hL hbl hn hfl ho hr hw0 hy hyn his hend) (by simp) (.flat hi .nil) (.flat .nil) (.cons (show 0<1 by omega) .nil) (.cons rfl .nil) uq qB hbd rfl
theorem AP{W:List (List XC)}{kk off n fL cut:Nat}{b:List Int}(hL:W[kk]? = some (il .u8 b))(hbl:off+n<=b.length)(h3:n=3)(w0:dB b off 0=0/\dB b off 1=0/\dB b off 2=1) :
 bt prog 35 [.one (.lsl 0 kk off n fL cut)] [.late W] (.tup [.agg (b9 ⟨0,0,false,fun _=>0,fun _=>0⟩),.one (.int .i64 0),.one (.int .i64 16)]) [.late W]:=by
 have hf0:od (findF (dB b off) n 0)=0/\(findF (dB b off) n 0).isSome=true:=by
  rw[kA (by omega) w0];exact⟨rfl,rfl⟩
 refine cO Tryz.func35 ?_
 repeat' (first
  |(refine qz ?_;first
   |refine jU (zs:=b9 ⟨0,0,false,fun _=>0,fun _=>0⟩) (hz:=hU) ?_
   |refine b0 (zs:=b9 ⟨0,0,false,fun _=>0,fun _=>0⟩) (hz:=hU) ?_
   |refine nD (cs:=b9 ⟨0,0,false,fun _=>0,fun _=>0⟩) ?_ (hs1:=by rw[aF]) (hs2:=by rw[aF])
   |refine cl ?_ (hi:=by exact dS hL hbl (by omega) (frm:=0) rfl (by decide) hf0 (g:=0) rfl rfl)
   |refine kD ?_)
  |refine zz ?_|refine zx (fun _=>?_) (fun _=>?_)|fail)
 show aE _ _ _ _ _ _ _ _;refine kV [0] ?_ (hr:=fH.two rfl (.cell rfl rfl (bR rfl) (.tmp rfl (.tmp rfl .nil)))) (hok:=uq);exact qB.symm
theorem CJ{W:List (List XC)}{g kk off n fL cut:Nat}{b:List Int}(hL:W[kk]? = some (il .u8 b))(hbl:off+n<=b.length)(h3:n=3)(w0:dB b off 0=0/\dB b off 1=0/\dB b off 2=1){HS:aj}(hi:HS[g]? = some (.late W))(hbd:Nat.blt HS.length Mem.bound=true) :
 aA.Sound prog ⟨35,[.one (.lsl g kk off n fL cut)],HS,.tup [.agg (b9 ⟨0,0,false,fun _=>0,fun _=>0⟩),.one (.int .i64 0),.one (.int .i64 16)],HS,[]⟩:=
 fR [g] (AP (fL:=fL) (cut:=cut) hL hbl h3 w0) (by simp) (.flat hi .nil) (.flat .nil) (.cons (show 0<1 by omega) .nil) (.cons rfl .nil) uq qB hbd rfl
theorem zl:aM prog 90 (DQ 0 .nils):=by
 show aM prog 90 [.int .i64 0,.nils]
 infer_instance
theorem v8:aM prog 87 (tt ⟨0,false,false,0⟩ .nils):=by
 show aM prog 87 [.int .i64 0,.bool false,.bool false,.int .i64 0,.nils]
 infer_instance
theorem LD{inter:Bool}{qp:Int}{l:List Gr}{j:Nat}{b e:Int}(h:qm inter qp b (l.drop j) e)(hj:j<l.length):(l.getD j default).first=b/\1<=(l.getD j default).ms.length/\(l.getD j default).ms.length<=5/\nK inter qp (l.getD j default).ms/\qm inter qp (b+((l.getD j default).ms.length:Nat)) (l.drop (j+1)) e:=by
 rw[List.drop_eq_getElem_cons hj]at h;rw[List.getD_eq_getElem?_getD,List.getElem?_eq_getElem hj,Option.getD_some];exact h
theorem yn{inter:Bool}{qp:Int}:∀{l:List Gr} {b e:Int},qm inter qp b l e->b<=e
 | [],b,e,h=>by have h:b=e:=h;omega
 | x::l,b,e,h=>by have:=yn h.2.2.2.2;omega
def CD(qp:Int)(l:List Mb)(k:Nat):Int:=if k=0 then qp else(l.getD (k-1) default).qp
theorem Cb{hd:Hd}{p:Ph}{L:List (List XC)}{k q m n:Nat}{gs:List Gr}(hg:wM L k gs)(hn:gs.length=n)(hp:pK p)(hok:qm p.inter p.qp 0 gs (hd.cols*hd.rows))(hcr:1<=hd.cols*hd.rows/\hd.cols*hd.rows<=64)(hgn:gs.length<=64) :
 bt prog 57 [.agg (fJ hd (.lsl 0 q 0 m m 0)),.agg (tt p (.lsl 0 k 0 n n 0))] [.late L] (.one (.int .i64 0)) [.late L]:=by
 subst hn;obtain⟨l,hl,hln,hall⟩:=hg;have hqp:=hp.qp;have hc:=hd.cols;refine cO Tryz.func57 ?_
 repeat' (first
  |(refine qz ?_;first
   |refine kD ?_
   |refine l5 ?_)
  |refine zz ?_|refine zx (fun _=>?_) (fun _=>?_)|fail)
 refine WX.cw (σ:=Nat×Int) (fun s=>[(2,.one (.ptr 1 0)),(3,.one (.ptr 2 0)),(13,.one (.lsl 0 k 0 gs.length gs.length 0)),(14,.one (.int .i64 (gs.length:Nat))),(5,.one (.int .i64 s.2)),(15,.one (.int .i64 (s.1:Nat)))]) (fun s=>[.late L,.cells (fJ hd (.lsl 0 q 0 m m 0)) 36 false false,.cells (tt p (.lsl 0 k 0 gs.length gs.length 0)) 87 false false]) (fun s=>s.1<=gs.length/\0<=s.2/\qm p.inter p.qp s.2 (gs.drop s.1) (hd.cols*hd.rows)) (fun s=>gs.length-s.1) (0,0) ⟨Nat.zero_le _,Int.le_refl _,hok⟩ (fun s _=>(ny (objs:=by repeat' (first|exact ax.nil|refine ax.cons (cY (show 0<_ from Nat.le_of_ble_eq_true rfl)) ?_|refine kz ?_)))) (bW [0,1,2] (obj:=by(repeat' (first|exact ae.nil|refine bh rfl rfl ?_|refine oz ?_));first|done|fail)) ?_;intro s ⟨hle,h0,hgs⟩ ih;have hsle:=yn hgs
 by_cases hlt:s.1<gs.length
 ·obtain⟨a1,a2,a3⟩:=hall s.1 hlt;obtain⟨b1,b2,b3,b4,b5⟩:=LD hgs hlt;have hnx:=yn b5
  obtain⟨g,hge⟩:∃g,gs.getD s.1 default=g:=⟨_,rfl⟩
  obtain⟨a,hae⟩:∃a,l.getD s.1 default=a:=⟨_,rfl⟩
  have hae':l.getD (s.1:Int).toNat default=a:=hae;rw[hge]at a1 a2 a3 b1 b2 b3 b4 b5 hnx;rw[hae]at a1 a2 a3;rw[b1]at a1
  have ea:(pO (l.getD (s.1:Int).toNat default)).map (·.self 0)=DQ s.2 (.lsl 0 a.k 0 g.ms.length g.ms.length 0):=by
   rw[hae',<-a1,<-a2];rfl
  have hlt2:s.1<l.length:=by omega
  repeat' (first
   |(refine qz ?_;first
    |refine kD ?_
    |refine l5 ?_
    |refine jU (zs:=DQ 0 .nils) (hz:=zl) ?_
    |refine Ck (enc:=pO) ?_ hl (by omega) (hc':=ea))
   |refine zz ?_|refine zx (fun _=>?_) (fun _=>?_)|fail)
  refine WX.cw (σ:=Nat) (fun t=>[(2,.one (.ptr 1 0)),(3,.one (.ptr 2 0)),(7,.one (.ptr 3 0)),(13,.one (.lsl 0 k 0 gs.length gs.length 0)),(14,.one (.int .i64 (gs.length:Nat))),(5,.one (.int .i64 s.2)),(15,.one (.int .i64 (s.1:Nat))),(33,.one (.lsl 0 a.k 0 g.ms.length g.ms.length 0)),(34,.one (.int .i64 (g.ms.length:Nat))),(8,.one (.int .i64 (CD p.qp g.ms t))),(35,.one (.int .i64 (t:Nat)))]) (fun t=>[.late L,.cells (fJ hd (.lsl 0 q 0 m m 0)) 36 false false,.cells (tt p (.lsl 0 k 0 gs.length gs.length 0)) 87 false false,.cells (DQ s.2 (.lsl 0 a.k 0 g.ms.length g.ms.length 0)) 90 false false]) (fun t=>t<=g.ms.length) (fun t=>g.ms.length-t) 0 (Nat.zero_le _) (fun s _=>(ny (objs:=by repeat' (first|exact ax.nil|refine ax.cons (cY (show 0<_ from Nat.le_of_ble_eq_true rfl)) ?_|refine kz ?_)))) (bW [0,1,2,3] (obj:=by(repeat' (first|exact ae.nil|refine bh rfl rfl ?_|refine oz ?_));first|done|fail)) ?_;intro t ht ih2
  by_cases hlt3:t<g.ms.length
  ·have hmk:=b4.mok t hlt3;have hck:=b4.chk t hlt3;have hck:dH (g.ms.getD t default) p.inter (CD p.qp g.ms t)=0:=hck
   have hqr : -1000000<=CD p.qp g.ms t/\CD p.qp g.ms t<=1000000:=by
    unfold CD;split
    ·omega
    ·have:=(b4.mok (t-1) (by omega)).qp;omega
   obtain⟨x,hxe⟩:∃x,g.ms.getD t default=x:=⟨_,rfl⟩
   have hxe':g.ms.getD (t:Int).toNat default=x:=hxe;rw[hxe]at hmk hck
   repeat' (first
    |(refine qz ?_;first
     |refine kD ?_
     |refine l5 ?_
     |refine jU (zs:=mC Ag) (hz:=ry) ?_
     |refine Ck (enc:=mC) ?_ a3 (by omega)
     |refine nD (cs:=mC x) ?_ (hy:=by rw[<-hxe'];rfl) (hs1:=by rw[bn]) (hs2:=by rw[bn])
     |refine jI ?_ (hle:=by rw[bn])
     |refine cl ?_ (hi:=by exact zE hmk hqr hck rfl))
    |refine zz ?_|refine zx (fun _=>?_) (fun _=>?_)|fail)
   have eq1:CD p.qp g.ms (t+1)=x.qp:=by unfold CD;rw[if_neg (by omega),Nat.add_sub_cancel,hxe]
   exact ih2 (t+1) _ _ _ (bW [0,1,2,3] (obj:=by(repeat' (first|exact ae.nil|refine bh rfl rfl ?_|refine oz ?_));first|done|fail) (reg:=by(repeat' (first|exact ai.nil|refine ai.flat (by rw[eq1];rfl) ?_|refine rz ?_|refine ai.sl rfl (by assumption) rfl ?_));first|done|fail)) (by omega) (by omega)
  ·repeat' (first
    |(refine qz ?_;first
     |refine kD ?_
     |refine l5 ?_)
    |refine zz ?_|refine zx (fun _=>?_) (fun _=>?_)|fail)
   exact ih (s.1+1,s.2+(g.ms.length:Nat)) _ _ _ (bW [0,1,2] (obj:=by(repeat' (first|exact ae.nil|refine bh rfl rfl ?_|refine oz ?_));first|done|fail)) ⟨by show s.1+1<=_;omega,by show 0<=s.2+_;omega,b5⟩ (by show _-(s.1+1)<_;omega)
 ·have e0:s.1=gs.length:=by omega
  rw[e0,List.drop_length]at hgs;have hgs:s.2=hd.cols*hd.rows:=hgs
  repeat' (first
   |(refine qz ?_;first
    |refine kD ?_
    |refine l5 ?_
    |refine ld (c := .int .i64 hd.cols) ?_
    |refine ld (c := .int .i64 hd.rows) ?_)
   |refine zz ?_|refine zx (fun _=>?_) (fun _=>?_)|fail)
  show aE _ _ _ _ _ _ _ _;refine kV [0] ?_;rfl
theorem xb{hd:Hd}{p:Ph}{L:List (List XC)}{k q m n i:Nat}{gs:List Gr}(hg:wM L k gs)(hn:gs.length=n)(hp:pK p)(hok:qm p.inter p.qp 0 gs (hd.cols*hd.rows))(hcr:1<=hd.cols*hd.rows/\hd.cols*hd.rows<=64)(hgn:gs.length<=64){HS:aj}(hi:HS[i]? = some (.late L))(hbd:Nat.blt HS.length Mem.bound=true) :
 aA.Sound prog ⟨57,[.agg (fJ hd (.lsl i q 0 m m 0)),.agg (tt p (.lsl i k 0 n n 0))],HS,.one (.int .i64 0),HS,[]⟩:=by
 refine fR [i] (Cb (q:=q) (m:=m) hg hn hp hok hcr hgn) (by simp) (.flat hi .nil) (.flat .nil) (.cons (lP (show 0<_ from Nat.le_of_ble_eq_true rfl)) (.cons ?_ .nil)) (.cons (qW rfl) (.cons rfl .nil)) trivial rfl hbd rfl;intro x hx;simp only[List.mem_cons,List.not_mem_nil,or_false]at hx
 rcases hx with rfl|rfl|rfl|rfl|rfl<;>first|trivial|exact Nat.zero_lt_one
theorem AA{ps:List Pc}{l:List Qt}{i:Nat}{p:Pc}(h1:(l.getD i default).ph=p.ph)(h2:(l.getD i default).n=p.gs.length)(g:Nat):(oe (l.getD i default)).map (·.self g)=tt p.ph (.lsl g (l.getD i default).k 0 p.gs.length p.gs.length 0):=by
 rw[<-h1,<-h2];rfl
theorem CH{s:tP}(hs:Ds s){L:List (List XC)}{k n:Nat}(hp:wN L k s.ps)(hn:s.ps.length=n) :
 bt prog 30 [.agg (fJ s.hd (.lsl 0 k 0 n n 0))] [.late L] (.one (.int .i64 0)) [.late L]:=by
 subst hn;obtain⟨l,hl,hln,hall⟩:=hp;have hmany:=hs.many;have hcr:=oY hs;refine cO Tryz.func30 ?_
 repeat' (first
  |(refine qz ?_;first
   |refine qI (cs:=b9 s.hd) ?_ (hle:=by rw[dh];decide) (hc:=r6 _ _)
   |refine ld (c := .lsl 0 k 0 s.ps.length s.ps.length 0) ?_ (hc:=CT _ _)
   |refine cl ?_ (hi:=by exact j_ hs.hd rfl)
   |refine kD ?_
   |refine l5 ?_)
  |refine zz ?_|refine zx (fun _=>?_) (fun _=>?_)|fail)
 refine WX.cw (σ:=Nat) (fun j=>[(1,.one (.ptr 1 0)),(25,.one (.lsl 0 k 0 s.ps.length s.ps.length 0)),(26,.one (.int .i64 (s.ps.length:Nat))),(27,.one (.int .i64 (j:Nat)))]) (fun j=>[.late L,.cells (fJ s.hd (.lsl 0 k 0 s.ps.length s.ps.length 0)) 36 false false]) (fun j=>j<=s.ps.length) (fun j=>s.ps.length-j) 0 (Nat.zero_le _) (fun j _=>(ny (objs:=by repeat' (first|exact ax.nil|refine ax.cons (cY (show 0<_ from Nat.le_of_ble_eq_true rfl)) ?_|refine kz ?_)))) (bW [0,1] (obj:=by(repeat' (first|exact ae.nil|refine bh rfl rfl ?_|refine oz ?_));first|done|fail)) ?_;intro j hj ih
 by_cases hlt:j<s.ps.length
 ·obtain⟨a1,a2,a3⟩:=hall j hlt;have hok:=hs.pics j hlt;have hsf:=AA (ps:=s.ps) a1 a2 0
  obtain⟨p,hpe⟩:∃p,s.ps.getD j default=p:=⟨_,rfl⟩
  obtain⟨a,hae⟩:∃a,l.getD j default=a:=⟨_,rfl⟩
  have hae':l.getD (j:Int).toNat default=a:=hae;rw[hpe]at a3 hok hsf;rw[hae]at a3 hsf;have hgs:=hok.gs;rw[show(((s.hd.cols*s.hd.rows).toNat:Nat):Int)=s.hd.cols*s.hd.rows by omega]at hgs;have hid:=hok.id;have hfw:=hok.few;have hfi:=hok.first
  obtain⟨P,hP⟩:∃P,p.ph=P:=⟨_,rfl⟩
  have hph:=hok.ph;rw[hP]at hgs hid hfi hph hsf;have hsf:(oe (l.getD (j:Int).toNat default)).map (·.self 0)=tt P (.lsl 0 a.k 0 p.gs.length p.gs.length 0):=by rw[hae'];exact hsf
  have hlt2:j<l.length:=by omega
  by_cases h0:j=0
  ·have hfi:=hfi h0;obtain⟨pid,pin,pdn,pqp⟩:=P;obtain rfl:pin=false:=hfi
   repeat' (first
    |(refine qz ?_;first
     |refine kD ?_
     |refine l5 ?_
     |refine jU (zs:=tt ⟨0,false,false,0⟩ .nils) (hz:=v8) ?_
     |refine Ck (enc:=oe) ?_ hl hlt2 (hc':=hsf)
     |refine qI (cs:=tu P) ?_ (hle:=by decide) (hc:=by exact rfl)
     |refine cl ?_ (hi:=by exact kb hph rfl)
     |refine jI ?_ (hle:=by rw[dh])
     |refine cl ?_ (hi:=by exact xb (i:=0) a3 rfl hph hgs (by omega) (by omega) rfl rfl))
    |refine zz ?_|refine zx (fun _=>?_) (fun _=>?_)|fail)
   exact ih (j+1) _ _ _ (bW [0,1] (obj:=by(repeat' (first|exact ae.nil|refine bh rfl rfl ?_|refine oz ?_));first|done|fail)) (by omega) (by omega)
  ·repeat' (first
    |(refine qz ?_;first
     |refine kD ?_
     |refine l5 ?_
     |refine jU (zs:=tt ⟨0,false,false,0⟩ .nils) (hz:=v8) ?_
     |refine Ck (enc:=oe) ?_ hl hlt2 (hc':=hsf)
     |refine qI (cs:=tu P) ?_ (hle:=by decide) (hc:=by exact rfl)
     |refine cl ?_ (hi:=by exact kb hph rfl)
     |refine jI ?_ (hle:=by rw[dh])
     |refine cl ?_ (hi:=by exact xb (i:=0) a3 rfl hph hgs (by omega) (by omega) rfl rfl))
    |refine zz ?_|refine zx (fun _=>?_) (fun _=>?_)|fail)
   exact ih (j+1) _ _ _ (bW [0,1] (obj:=by(repeat' (first|exact ae.nil|refine bh rfl rfl ?_|refine oz ?_));first|done|fail)) (by omega) (by omega)
 ·repeat' (first
   |(refine qz ?_;first
    |refine kD ?_)
   |refine zz ?_|refine zx (fun _=>?_) (fun _=>?_)|fail)
  show aE _ _ _ _ _ _ _ _;refine kV [0] ?_;rfl
theorem Gd{s:tP}(hs:Ds s){L:List (List XC)}{k n i:Nat}(hp:wN L k s.ps)(hn:s.ps.length=n){HS:aj}(hi:HS[i]? = some (.late L))(hbd:Nat.blt HS.length Mem.bound=true) :
 aA.Sound prog ⟨30,[.agg (fJ s.hd (.lsl i k 0 n n 0))],HS,.one (.int .i64 0),HS,[]⟩:=
 fR [i] (CH hs hp hn) (by simp) (.flat hi .nil) (.flat .nil) (.cons (lP (show 0<_ from Nat.le_of_ble_eq_true rfl)) .nil) (.cons (qW rfl) .nil) trivial rfl hbd rfl
end Go.Proofs.YthdciapjllppjaaGreat
namespace Go.Proofs.YthdciapjllppjaaGreat
open Go.ChangeShapes Go.WideShapes Go.ChangeAt Go.RowKit Go.Deep Go.Xm
structure Sp where
 kind:Int
 at_:Int
 burst:Int
 odd:List Int
 mask:List Int
instance:Inhabited Sp:=⟨⟨0,0,0,[],[]⟩⟩
structure Qx(s:Sp):Prop where
 kind:0<=s.kind/\s.kind<256
 at_:0<=s.at_/\s.at_<65536
 burst:0<=s.burst/\s.burst<65536
 odd:∀z∈s.odd,0<=z/\z<65536
 mask:∀z∈s.mask,0<=z/\z<256
structure Sq where
 kind:Int
 at_:Int
 burst:Int
 co:XC
 cm:XC
instance:Inhabited Sq:=⟨⟨0,0,0,.nils,.nils⟩⟩
section
variable {H:Type} {enc:TypeId×Value->H} {w:World} {base:Nat} {spare:Nat->Bool} {held:Bool}
structure Tg(w:World)(G:Nat->Nat->Value)(i:Nat):Prop where
 n0:∃z,G i 0 = .int .u8 z/\(Lit.int .u8 z).wf=true
 n1:∃z,G i 1 = .int .u16 z/\(Lit.int .u16 z).wf=true
 n2:∃z,G i 2 = .int .u16 z/\(Lit.int .u16 z).wf=true
 odd:Hf w .u16 (G i 3)
 mask:Hf w .u8 (G i 4)
end
end Go.Proofs.YthdciapjllppjaaGreat
namespace Go.Proofs.YthdciapjllppjaaGreat
open Go.Xm
variable [aq]
def RN(m:List Int)(fr i:Nat):List Int:=m.set (fr+i/8) (uy .u8 (m.getD (fr+i/8) 0) (128/2^(i%8)))
end Go.Proofs.YthdciapjllppjaaGreat
