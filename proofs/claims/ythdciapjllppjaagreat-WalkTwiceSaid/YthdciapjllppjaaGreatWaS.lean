/-
  A part of the proof: WkB, WkC, WkD, WkE, Sta2.
-/
import Derived.Test.YthdciapjllppjaaGreatWaF
import Derived.Test.YthdciapjllppjaaGreatWaN
import Derived.Test.YthdciapjllppjaaGreatWaQ
import Derived.Test.YthdciapjllppjaaGreatWaR
set_option maxRecDepth 10000
set_option maxHeartbeats 8000000
set_option linter.unusedVariables false
set_option linter.unusedSectionVars false
set_option linter.unusedSimpArgs false
open Go.Proofs.Tryz (prog)
namespace Go.Proofs.YthdciapjllppjaaGreat
open Go.Xm
variable [ak]
theorem iD{S:List Bool}(pre:List Bool){n:Int}{k:Nat}(rest:List Bool)(hS:S=pre++(aI n k++rest))(hn:0<=n/\n<2^k){q q':Nat}(hq:pre.length=q)(hq':q+k=q'):bT S k (q,false)=(n,(q',false)):=by
 subst hS hq hq';exact EI hn pre rest
theorem Ck{S:List Bool}(pre:List Bool){b:Bool}(rest:List Bool)(hS:S=pre++(b::rest)){q:Nat}(hq:pre.length=q):fF S (q,false)=b/\ca S (q,false)=(q+1,false):=by
 subst hS hq;refine⟨?_,?_⟩
 ·show(!false&&_)=b;rw[Bool.not_false,Bool.true_and,List.getD_eq_getElem?_getD,List.getElem?_append_right (Nat.le_refl _),Nat.sub_self];rfl
 ·unfold ca;rw[if_neg Bool.noConfusion,if_pos (by rw[List.length_append,List.length_cons];omega)]
theorem oJ{L:List Int}{B:List Bool}(h:eX L B){q q':Nat}{b:Bool}(hv:fF B (q,false)=b/\ca B (q,false)=(q',false)){HS:ah}{i k:Nat}(hi:HS[i]? = some (gD k L B q false))(hk:HS[k]? = some (dP L))(hd:i≠k){HS':ah}(hh:HS.set i (gD k L B q' false)=HS')(hbd:Nat.blt HS'.length Mem.bound=true) :
 az.Sound prog ⟨96,[.one (.ptr i 0)],HS,.one (.bool b),HS',[i]⟩:=by
 have:=Ja h (q,false) hi hk hd (HS':=HS') (by rw[hv.2];exact hh) hbd;rw[hv.1]at this;exact this
theorem I3{L:List Int}{B:List Bool}(h:eX L B){q q':Nat}{b:Bool}(hv:fF B (q,false)=b/\ca B (q,false)=(q',false)){HS:ah}{i k:Nat}(hi:HS[i]? = some (gD k L B q false))(hk:HS[k]? = some (dP L))(hd:i≠k){HS':ah}(hh:HS.set i (gD k L B q' false)=HS')(hbd:Nat.blt HS'.length Mem.bound=true) :
 az.Sound prog ⟨72,[.one (.ptr i 0)],HS,.one (.int .u64 (b2 b)),HS',[i]⟩:=by
 have:=td h (q,false) rfl hi hk hd (HS':=HS') (by rw[hv.2];exact hh) hbd;rw[hv.1]at this;exact this
structure wu(S:List Bool)(p:Ph)(first count la lb sa sb:Int):Prop where
 id:bT S 16 (0,false)=(p.id,(16,false))
 inter:fF S (16,false)=p.inter/\ca S (16,false)=(17,false)
 down:fF S (17,false)=p.down/\ca S (17,false)=(18,false)
 qp:bT S 5 (18,false)=(p.qp,(23,false))
 first:bT S 7 (23,false)=(first,(30,false))
 count:bT S 7 (30,false)=(count,(37,false))
 la:bT S 16 (37,false)=(la,(53,false))
 lb:bT S 16 (53,false)=(lb,(69,false))
 sa:bT S 16 (69,false)=(sa,(85,false))
 sb:bT S 16 (85,false)=(sb,(101,false))
theorem PZ{n:Int}(h:0<=n/\n<65536):0<=n/\n<2^16:=h
theorem p7{n:Int}(h:0<=n/\n<128):0<=n/\n<2^7:=h
theorem OP{p:Ph}{first count la lb sa sb:Int}(hp:pA p)(hf:0<=first/\first<128)(hc:0<=count/\count<128)(ha:0<=la/\la<65536)(hb:0<=lb/\lb<65536)(hsa:0<=sa/\sa<65536)(hsb:0<=sb/\sb<65536):wu (fP p first count la lb sa sb) p first count la lb sa sb:=by
 have h1:=hp.id;have h2:=hp.qp;refine⟨?_,?_,?_,?_,?_,?_,?_,?_,?_,?_⟩
 ·exact iD [] _ (by simp only[fP,List.append_assoc,List.nil_append];rfl) (PZ ⟨h1.1,by omega⟩) rfl rfl
 ·exact Ck (aI p.id 16) _ (by simp only[fP,List.append_assoc,List.nil_append,List.cons_append];rfl) (aQ ..)
 ·exact Ck (aI p.id 16++[p.inter]) _ (by simp only[fP,List.append_assoc,List.nil_append,List.cons_append];rfl) (by rw[List.length_append,aQ];rfl)
 ·exact iD (aI p.id 16++[p.inter]++[p.down]) _ (by simp only[fP,List.append_assoc,List.nil_append,List.cons_append];rfl) (show 0<=p.qp/\p.qp<32 by omega) (by simp only[List.length_append,aQ,List.length_cons,List.length_nil]) rfl
 ·exact iD (aI p.id 16++[p.inter]++[p.down]++aI p.qp 5) _ (by simp only[fP,List.append_assoc,List.nil_append,List.cons_append];rfl) (p7 hf) (by simp only[List.length_append,aQ,List.length_cons,List.length_nil]) rfl
 ·exact iD (aI p.id 16++[p.inter]++[p.down]++aI p.qp 5++aI first 7) _ (by simp only[fP,List.append_assoc,List.nil_append,List.cons_append];rfl) (p7 hc) (by simp only[List.length_append,aQ,List.length_cons,List.length_nil]) rfl
 ·exact iD (aI p.id 16++[p.inter]++[p.down]++aI p.qp 5++aI first 7++aI count 7) _ (by simp only[fP,List.append_assoc,List.nil_append,List.cons_append];rfl) (PZ ha) (by simp only[List.length_append,aQ,List.length_cons,List.length_nil]) rfl
 ·exact iD (aI p.id 16++[p.inter]++[p.down]++aI p.qp 5++aI first 7++aI count 7++aI la 16) _ (by simp only[fP,List.append_assoc,List.nil_append,List.cons_append];rfl) (PZ hb) (by simp only[List.length_append,aQ,List.length_cons,List.length_nil]) rfl
 ·exact iD (aI p.id 16++[p.inter]++[p.down]++aI p.qp 5++aI first 7++aI count 7++aI la 16++aI lb 16) (aI sb 16) (by simp only[fP,List.append_assoc,List.nil_append,List.cons_append]) (PZ hsa) (by simp only[List.length_append,aQ,List.length_cons,List.length_nil]) rfl
 ·exact iD (aI p.id 16++[p.inter]++[p.down]++aI p.qp 5++aI first 7++aI count 7++aI la 16++aI lb 16++aI sa 16) [] (by simp only[fP,List.append_assoc,List.nil_append,List.cons_append,List.append_nil]) (PZ hsb) (by simp only[List.length_append,aQ,List.length_cons,List.length_nil]) rfl
theorem fB(i:Nat){f f':FuncId}{a a':List XV}{HS H1 HS' H1':ah}{v v':XV}{w w':List Nat}{k k' q q':Nat}{L L':List Int}{B B':List Bool}{e e':Bool}(hi:HS[i]? = some (gD k L B q e))(hi':HS'[i]? = some (gD k' L' B' q' e'))(hn:Nat.beq q q'=false):Compat ⟨f,a,HS,v,H1,w⟩ ⟨f',a',HS',v',H1',w'⟩:=fun _ _ h=>by
 have h:HS=HS':=h;rw[h,hi']at hi
 injection hi with hi
 injection hi with hi
 injection hi with _ hi
 injection hi with hi _
 injection hi with _ hi
 have:q'=q:=by omega
 subst this;rw[Nat.beq_refl]at hn;cases hn
theorem Cc{L:List Int}{S:List Bool}(hB:eX L S){p:Ph}{first count la lb sa sb:Int}(hp:pA p)(hr:wu S p first count la lb sa sb) :
 bq prog 98 [.one (.ptr 0 0)] (RH L S 0 false) (.agg (sn p)) (RH L S 23 false):=by
 have h1:=hp.id;have h2:=hp.qp;refine cO Tryz.func98 ?_
 repeat' (first
  |(refine qz ?_;first
   |refine cl ?_ (hi:=by exact cG hB hr.id rfl (by decide) (i:=0) (k:=1) rfl rfl (by decide) hS rfl)
   |refine cl ?_ (hi:=by exact oJ hB hr.inter (i:=0) (k:=1) rfl rfl (by decide) hS rfl)
   |refine cl ?_ (hi:=by exact oJ hB hr.down (i:=0) (k:=1) rfl rfl (by decide) hS rfl)
   |refine cl ?_ (hi:=by exact cG hB hr.qp rfl (by decide) (i:=0) (k:=1) rfl rfl (by decide) hS rfl)
   |refine cl ?_ (hi:=by exact xd (i:=0) (k:=1) rfl rfl (by decide) rfl)
   |refine cl ?_ (hi:=by exact j9 hp rfl))
  |refine zz ?_|refine zx (fun _=>?_) (fun _=>?_)|refine bm (by first|exact ag.nil|exact ag.one _|exact ag.mh (by repeat' (first|exact True.intro|refine And.intro ?_ ?_|exact Compat.ne rfl|exact fB 0 rfl rfl rfl))) ⟨by kernel_rfl,?_⟩|refine bm (by first|exact ag.nil|exact ag.one _|exact ag.mh (by repeat' (first|exact True.intro|refine And.intro ?_ ?_|exact Compat.ne rfl|exact fB 0 rfl rfl rfl))) ?_|fail)
 show aE _ _ _ _ _ _ _ _;refine kV [0,1] ?_;rfl
theorem Fq{L:List Int}{S:List Bool}(hB:eX L S){p:Ph}{first count la lb sa sb:Int}(hp:pA p)(hr:wu S p first count la lb sa sb){HS:ah}{i k:Nat}(hi:HS[i]? = some (gD k L S 0 false))(hk:HS[k]? = some (dP L))(hd:i≠k){HS':ah}(hh:HS.set i (gD k L S 23 false)=HS')(hbd:Nat.blt HS'.length Mem.bound=true) :
 az.Sound prog ⟨98,[.one (.ptr i 0)],HS,.agg (sn p),HS',[i]⟩:=
 FG (fun _ => .nil) .nil (Cc hB hp hr) hi hk hd hh hbd
abbrev CD(p:Ph)(first count:Int)(c d:XC)(len:Int):List XC:=[.int .i64 p.id,.bool p.inter,.bool p.down,.int .i64 p.qp,.int .i64 first,.int .i64 count,c,d,.int .i64 len,.bool true,.bool true]
theorem u0{L:List Int}{B:List Bool}{p:Nat}(hp:B.length<=p){HS:ah}{i k:Nat}(hi:HS[i]? = some (gD k L B p false))(hk:HS[k]? = some (dP L))(hd:i≠k)(hbd:Nat.blt HS.length Mem.bound=true) :
 az.Sound prog ⟨97,[.one (.ptr i 0)],HS,.one (.int .i64 0),HS,[i]⟩:=by
 have:=LY hi hk hd hbd;rw[if_neg Bool.noConfusion,if_neg (by omega)]at this;exact this
theorem Cf{W:List (List XC)}{k off n fL cut:Nat}{b:List Int}(hL:W[k]? = some (il .u8 b))(hbl:off+n<=b.length)(hn:n<=1000000000)(hfl:n<=fL){L:List Int}{S:List Bool}(hB:eX L S)(hSl:S.length=101){p:Ph}{first count all:Int}{A Bb:List Int}(hk:xI p first count A.length Bb.length all)(hA:bc A)(hBb:bc Bb)(hr:wu S p first count (A.length:Nat) (Bb.length:Nat) (cU A) (cU Bb))(hfit:21+A.length+Bb.length<=n)(ewA:(b.drop (off+21)).take A.length=A)(ewB:(b.drop (off+(21+A.length))).take Bb.length=Bb) :
 bq prog 73 [.one (.lsl 0 k off n fL cut),.one (.int .i64 all),.one (.ptr 1 0)] [.late W,gD 2 L S 0 false,dP L] (.tup [.agg (CD p first count (.slice 3 0 A.length (.toEnd 1)) (.slice 4 0 Bb.length (.toEnd 1)) ((21+A.length+Bb.length:Nat):Int)),.one (.int .i64 0)]) [.late W,.dead,.dead,.cells (il .u8 A) 5 true false,.cells (il .u8 Bb) 5 true false]:=by
 have h1:=hk.fst;have h2:=hk.cnt;have h3:=hk.fit;have h4:=hk.most;have h5:=hk.a;have h6:=hk.b;have hph:=hk.ph
 obtain⟨sa,hsa⟩:∃s,cU A=s:=⟨_,rfl⟩
 obtain⟨sb,hsb⟩:∃s,cU Bb=s:=⟨_,rfl⟩
 have ra:=f_ A;have rb:=f_ Bb;rw[hsa]at ra hr;rw[hsb]at rb hr;refine cO Tryz.func73 ?_
 repeat' (first
  |(refine qz ?_;first
   |refine cl ?_ (hi:=by exact Fq hB hph hr (i:=1) (k:=2) rfl rfl (by decide) hS rfl)
   |refine cl ?_ (hi:=by exact cG hB hr.first rfl (by decide) (i:=1) (k:=2) rfl rfl (by decide) hS rfl)
   |refine cl ?_ (hi:=by exact cG hB hr.count rfl (by decide) (i:=1) (k:=2) rfl rfl (by decide) hS rfl)
   |refine cl ?_ (hi:=by exact cG hB hr.la rfl (by decide) (i:=1) (k:=2) rfl rfl (by decide) hS rfl)
   |refine cl ?_ (hi:=by exact cG hB hr.lb rfl (by decide) (i:=1) (k:=2) rfl rfl (by decide) hS rfl)
   |refine cl ?_ (hi:=by exact cG hB hr.sa rfl (by decide) (i:=1) (k:=2) rfl rfl (by decide) hS rfl)
   |refine cl ?_ (hi:=by exact cG hB hr.sb rfl (by decide) (i:=1) (k:=2) rfl rfl (by decide) hS rfl)
   |refine cl ?_ (hi:=by exact u0 (by omega) (i:=1) (k:=2) rfl rfl (by decide) rfl)
   |refine kY ?_
   |refine sY (zs:=[.int .u8 0]) ?_
   |refine KA (p:=21) (q:=21+A.length) (o':=off+21) (m:=A.length) ?_
   |refine KA (p:=21+A.length) (q:=21+A.length+Bb.length) (o':=off+(21+A.length)) (m:=Bb.length) ?_
   |refine SW (r:=A) rfl (by omega) (D4 hL ewA (by omega) rfl rfl) ?_
   |refine SW (r:=Bb) rfl (by omega) (D4 hL ewB (by omega) rfl rfl) ?_
   |refine cl ?_ (hi:=by exact uM hk (i:=6) (j:=8) rfl rfl (by decide) rfl)
   |refine sY (zs:=[.nils]) ?_
   |refine cl ?_ (hi:=by exact n9 (l:=A) hA (by omega) (RO.of ..) hsa rfl (i:=6) (j:=9) rfl rfl (by decide) rfl)
   |refine cl ?_ (hi:=by exact n9 (l:=Bb) hBb (by omega) (RO.of ..) hsb rfl (i:=8) (j:=10) rfl rfl (by decide) rfl))
  |refine Rw (id:=14) [14] ?_|refine zz ?_|refine zx (fun _=>?_) (fun _=>?_)|refine bm (by first|exact ag.nil|exact ag.one _|exact ag.mh (by repeat' (first|exact True.intro|refine And.intro ?_ ?_|exact Compat.ne rfl|exact fB 1 rfl rfl rfl|exact dz rfl))) ⟨by kernel_rfl,?_⟩|refine bm (by first|exact ag.nil|exact ag.one _|exact ag.mh (by repeat' (first|exact True.intro|refine And.intro ?_ ?_|exact Compat.ne rfl|exact fB 1 rfl rfl rfl|exact dz rfl))) ?_|fail)
 show aE _ _ _ _ _ _ _ _;refine kV [0,1,2,6,8] ?_ (ho:=by repeat' (first|exact af.nil|refine oz ?_));rfl
theorem dO{L:List (List XC)}{g k off n fL cut:Nat}{b:List Int}(hL:L[k]? = some (il .u8 b))(hb:off+n<=b.length)(hn:n<=1000000000){frm:Nat}{z:Int}(hz:z=(frm:Nat))(hfr:frm<=1000000000){x:Int}{s:Bool}(hr:nW (findF (du b off) n frm)=x/\(findF (du b off) n frm).isSome=s){HS:ah}(hi:HS[g]? = some (.late L))(hbd:Nat.blt HS.length Mem.bound=true) :
 az.Sound prog ⟨34,[.one (.lsl g k off n fL cut),.one (.int .i64 z)],HS,.tup [.one (.int .i64 x),.one (.bool s)],HS,[]⟩:=by
 obtain⟨rfl,rfl⟩:=hr;exact La hL hb hn hz hfr rfl hi hbd
theorem Fw{W:List (List XC)}{g k off n fL cut:Nat}{b:List Int}(hL:W[k]? = some (il .u8 b))(hbl:off+n<=b.length)(hn:n<=1000000000)(hfl:n<=fL){L:List Int}{S:List Bool}(hB:eX L S)(hSl:S.length=101){p:Ph}{first count all:Int}{A Bb:List Int}(hk:xI p first count A.length Bb.length all)(hA:bc A)(hBb:bc Bb)(hr:wu S p first count (A.length:Nat) (Bb.length:Nat) (cU A) (cU Bb))(hfit:21+A.length+Bb.length<=n)(ewA:(b.drop (off+21)).take A.length=A)(ewB:(b.drop (off+(21+A.length))).take Bb.length=Bb){HS:ah}{i j:Nat}(h0:HS[g]? = some (.late W))(h1:HS[i]? = some (gD j L S 0 false))(h2:HS[j]? = some (dP L))(hnd : [g,i,j].Nodup){N M:Nat}(hN:HS.length=N)(hM:N+1=M){HS':ah}(hh:bE HS [g,i,j] [.late W,.dead,.dead,.cells (il .u8 A) 5 true false,.cells (il .u8 Bb) 5 true false]=HS')(hbd:Nat.blt HS'.length Mem.bound=true) :
 az.Sound prog ⟨73,[.one (.lsl g k off n fL cut),.one (.int .i64 all),.one (.ptr i 0)],HS,.tup [.agg (CD p first count (.slice N 0 A.length (.toEnd 1)) (.slice M 0 Bb.length (.toEnd 1)) ((21+A.length+Bb.length:Nat):Int)),.one (.int .i64 0)],HS',[g,i,j]⟩:=by
 subst hN hM;refine bz [g,i,j] [g,i,j] 2 (Cf hL hbl hn hfl hB hSl hk hA hBb hr hfit ewA ewB) hnd (.flat h0 (.cons (by rw[h1];rfl) (.flat h2 .nil))) (.flat (.cons (by simp[aj.bH,XC.ok]) (.flat .nil))) (.flat (.flat (.flat (.flat (.flat .nil))))) rfl (.cons (show 0<3 by omega) (.flat (.cons (show 1<3 by omega) .nil))) (.cons rfl (.flat (.cons rfl .nil))) (by simp[XV.bH,X1.ok,XC.ok]) rfl (.flat (.flat (.flat (.flat (.flat .nil))))) rfl rfl hh hbd (.inl rfl)
theorem I1{B:List Bool}{r:Nat}(h:r+7<=B.length):aI (128+kZ B r 7 0) 7=(B.drop r).take 7:=by
 refine List.ext_getElem (by rw[aQ,List.length_take,List.length_drop];omega) fun i h1 h2=>?_
 have hi:i<7:=by rwa [aQ]at h1
 have e:=uV (128+kZ B r 7 0) 7 i hi;rw[List.getD_eq_getElem?_getD,List.getElem?_eq_getElem h1,Option.getD_some]at e;rw[e,List.getElem_take,List.getElem_drop];have h3:=vo B 7 r 0 i hi;obtain⟨q,hq⟩:=Rb ⟨6-i,by omega⟩;have hq:(128:Int)=2^(6-i)*(2*q):=hq;have hp:(0:Int)<2^(6-i):=Int.pow_pos (by decide)
 have e2:(128+kZ B r 7 0)/2^(6-i)%2=kZ B r 7 0/2^(6-i)%2:=by
  rw[hq,Int.add_comm,Int.add_mul_ediv_left _ _ (by omega)];omega
 rw[show 7-1-i=6-i by omega]at h3 ⊢;rw[e2,h3,List.getD_eq_getElem?_getD,List.getElem?_eq_getElem (show r+i<B.length by omega),Option.getD_some];cases B[r+i]<;>rfl
theorem JG{B:List Bool}{k:Nat}(h:7*k+7<=B.length):B.take (7*k)++aI (128+kZ B (7*k) 7 0) 7=B.take (7*(k+1)):=by
 rw[I1 h,show 7*(k+1)=7*k+7 by omega,List.take_add]
theorem take_one{B:List Bool}{k:Nat}(h:k<B.length):B.take k++aI (b2 (B.getD k false)) 1=B.take (k+1):=by
 rw[List.take_add,List.getD_eq_getElem?_getD,List.getElem?_eq_getElem h,Option.getD_some,List.drop_eq_getElem_cons h];cases B[k]<;>rfl
theorem J_{b l:List Int}{off:Nat}(h:∀i,i<l.length->b.getD (off+i) 0=l.getD i 0)(hlen:off+l.length<=b.length):(b.drop off).take l.length=l:=by
 refine List.ext_getElem (by rw[List.length_take,List.length_drop];omega) fun i h1 h2=>?_
 have:=h i h2;rw[List.getD_eq_getElem?_getD,List.getD_eq_getElem?_getD,List.getElem?_eq_getElem (show off+i<b.length by omega),List.getElem?_eq_getElem h2]at this;rw[List.getElem_take,List.getElem_drop];exact this
theorem Lh:∀v:Fin 128,BT .u8 (128+(v.val:Int)) 128=128:=by decide +kernel
theorem HN{v:Int}(h:0<=v/\v<128):BT .u8 (128+v) 128=128:=by
 have:=Lh ⟨v.toNat,by omega⟩;rw[show((⟨v.toNat,by omega⟩:Fin 128).val:Int)=v by show(v.toNat:Int)=v;omega]at this;exact this
theorem mF{b:List Int}{i:Nat}{c:Int}(hi:i<b.length)(hc:b.getD i 0=c):(il .u8 b)[i]? = some (.int .u8 c):=by
 unfold il;rw[List.getElem?_map,List.getElem?_eq_getElem hi];rw[List.getD_eq_getElem?_getD,List.getElem?_eq_getElem hi,Option.getD_some]at hc;rw[hc];rfl
structure KG(b:List Int)(off n:Nat)(p:Ph)(first count all:Int)(A Bb:List Int)(B:List Bool):Prop where
 ok:xI p first count A.length Bb.length all
 ba:bc A
 bb:bc Bb
 hd:ku p first count (A.length:Nat) (Bb.length:Nat) (cU A) (cU Bb) (cU (wr (fP p first count (A.length:Nat) (Bb.length:Nat) (cU A) (cU Bb))))=B
 fit:21+A.length+Bb.length<=n
 is:∀i,i<21+A.length+Bb.length->b.getD (off+i) 0=(eo B A Bb).getD i 0
theorem FC{W:List (List XC)}{k off n fL cut:Nat}{b:List Int}(hL:W[k]? = some (il .u8 b))(hbl:off+n<=b.length)(hn:n<=1000000000)(hfl:n<=fL){p:Ph}{first count all:Int}{A Bb:List Int}{B:List Bool}(hp:KG b off n p first count all A Bb B) :
 bq prog 36 [.one (.lsl 0 k off n fL cut),.one (.int .i64 all)] [.late W] (.tup [.agg (CD p first count (.slice 1 0 A.length (.toEnd 1)) (.slice 2 0 Bb.length (.toEnd 1)) ((21+A.length+Bb.length:Nat):Int)),.one (.int .i64 0)]) [.late W,.cells (il .u8 A) 5 true false,.cells (il .u8 Bb) 5 true false]:=by
 obtain⟨hk,hA,hBb,hB,hfit,his⟩:=hp;have h1:=hk.fst;have h2:=hk.cnt;have h3:=hk.fit;have h4:=hk.most;have h5:=hk.a;have h6:=hk.b;have hph:=hk.ph;have hBl:B.length=119:=by rw[<-hB];exact rE ..
 obtain⟨S,hSs⟩:∃S,fP p first count (A.length:Nat) (Bb.length:Nat) (cU A) (cU Bb)=S:=⟨_,rfl⟩
 have hSl:S.length=101:=by rw[<-hSs];exact rQ ..
 have hsr:wu S p first count (A.length:Nat) (Bb.length:Nat) (cU A) (cU Bb):=by
  rw[<-hSs];exact OP hph ⟨h1,by omega⟩ ⟨by omega,by omega⟩ ⟨by omega,by omega⟩ ⟨by omega,by omega⟩ (f_ _) (f_ _)
 rw[hSs]at hB
 obtain⟨su,hsu⟩:∃s,cU (wr S)=s:=⟨_,rfl⟩
 have ru:=f_ (wr S);rw[hsu]at ru hB;have hB2:(S++aI su 16)++aI 0 2=B:=by rw[<-hB];unfold ku;rw[hSs]
 have hBS:B.take 101=S:=by
  rw[<-hB2,List.append_assoc,List.take_left' hSl]
 have hb16:bT B 16 (101,false)=(su,(117,false)):=iD S (aI 0 2) (by rw[<-hB2,List.append_assoc]) (PZ ru) hSl rfl;have hb2:bT B 2 (117,false)=(0,(119,false)):=iD (S++aI su 16) [] (by rw[<-hB2,List.append_nil]) (by decide) (by rw[List.length_append,aQ,hSl]) rfl;have hwS:(wr S).length=13:=by rw[cI,hSl]
 have hwB:(wr B).length=15:=by rw[cI,hBl]
 have hBin:=tL B (by omega);have hSin:=tL S (by omega)
 have w0:du b off 0=0/\du b off 1=0/\du b off 2=1:=⟨his 0 (by omega),his 1 (by omega),his 2 (by omega)⟩
 have hf0:nW (findF (du b off) n 0)=0/\(findF (du b off) n 0).isSome=true:=by
  rw[kr (by omega) w0];exact⟨rfl,rfl⟩
 have hc3:(il .u8 b)[off+3]? = some (.int .u8 182):=mF (by omega) (his 3 (by omega))
 have ewA:(b.drop (off+21)).take A.length=A:=J_ (fun i hi=>by
  rw[show off+21+i=off+(21+i) by omega,his (21+i) (by omega)];unfold eo
  rw[List.getD_eq_getElem?_getD,List.getElem?_append_left (by rw[List.length_append,List.length_append,fz];show 21+i<4+17+A.length;omega),List.getElem?_append_right (by rw[List.length_append,fz];show 4+17<=21+i;omega),List.length_append,fz,List.getD_eq_getElem?_getD,show 21+i-(([0,0,1,182]:List Int).length+17)=i by show 21+i-(4+17)=i;omega]) (by omega)
 have ewB:(b.drop (off+(21+A.length))).take Bb.length=Bb:=J_ (fun i hi=>by
  rw[show off+(21+A.length)+i=off+(21+A.length+i) by omega,his (21+A.length+i) (by omega)];unfold eo
  rw[List.getD_eq_getElem?_getD,List.getElem?_append_right (by rw[List.length_append,List.length_append,fz];show 4+17+A.length<=21+A.length+i;omega),List.length_append,List.length_append,fz,List.getD_eq_getElem?_getD,show 21+A.length+i-(([0,0,1,182]:List Int).length+17+A.length)=i by show 21+A.length+i-(4+17+A.length)=i;omega]) (by omega)
 have hsev:∀i,i<17->b.getD (off+(4+i)) 0=128+kZ B (7*i) 7 0:=fun i hi=>by
  rw[his (4+i) (by omega),z_ B A Bb hi];unfold Cm;rw[mw (by omega)]
 have hw0:aO 1 (B.take (7*0)) = .cells [.nils,.int .i64 0] 134 false false:=by rw[Nat.mul_zero,List.take_zero];rfl
 have hw1:aO 2 (B.take 0) = .cells [.nils,.int .i64 0] 134 false false:=by rw[List.take_zero];rfl
 refine cO Tryz.func36 ?_;refine WX.cq rfl ?_;refine WX.cq rfl ?_
 repeat' (first
  |(refine qz ?_;first
   |refine cl ?_ (hi:=by exact dO hL hbl hn (frm:=0) rfl (by decide) hf0 (g:=0) rfl rfl)
   |refine kY ?_
   |refine mf ?_
   |refine v9 ?_ hL hc3 rfl
   |refine KA (p:=4) (q:=21) (o':=off+4) (m:=17) ?_)
  |refine zz ?_|refine zx (fun _=>?_) (fun _=>?_)|fail)
 refine WX.cj (σ:=Nat) (fun t=>[(0,.one (.lsl 0 k off n fL cut)),(1,.one (.int .i64 all)),(4,.one (.ptr 3 0)),(8,.one (.ptr 4 0)),(44,.one (.lsl 0 k (off+4) 17 (fL-4) (cut+4))),(45,.one (.int .i64 17)),(46,.one (.int .i64 (t:Nat)))]) (fun t=>[.late W,au (B.take (7*t)),.dead,.cells [.int .i64 0,.bool false,.bool false,.int .i64 0,.int .i64 0,.int .i64 0,.nils,.nils,.int .i64 0,.bool false,.bool false] 52 false false,aO 1 (B.take (7*t))]) (fun t=>t<=17) (fun t=>17-t) 0 (Nat.zero_le _) (fun t _=>nf) (bV [0,1,2,3,4] (obj:=by(repeat' (first|exact af.nil|refine af.cons (by rw[hw0];rfl) ?_|refine oz ?_));first|done|fail)) ?_;intro t ht ih;have htl:(B.take (7*t)).length=7*t:=by rw[List.length_take];omega
 by_cases hlt:t<17
 ·have hv:=hsev t hlt;have hvr:=JR B (7*t);have hts:=JG (B:=B) (k:=t) (by omega);have ha:=HN hvr
  obtain⟨c,hc⟩:∃c,128+kZ B (7*t) 7 0=c:=⟨_,rfl⟩
  have hcr:128<=c/\c<256:=by omega
  rw[hc]at hv hts ha;have hat:=mF (show off+(4+t)<b.length by omega) hv;have e4:off+4+(t:Int).toNat*1=off+(4+t):=by omega
  repeat' (first
   |(refine qz ?_;first
    |refine mf ?_ (hp:=e4)
    |refine v9 ?_ hL hat rfl
    |refine cl ?_ (hi:=by exact fk (size:=7) rfl (bs:=B.take (7*t)) (by omega) (by decide) (by omega) (i:=4) (k:=1) rfl rfl (by decide) hts nL nA rfl))
   |refine zz ?_|refine zx (fun _=>?_) (fun _=>?_)|fail)
  exact ih (t+1) _ _ _ (bV [0,5,2,3,4]) (by omega) (by omega)
 ·obtain rfl:t=17:=by omega
  clear ih;have hB17:B.take (7*17)=B:=List.take_of_length_le (by omega);rw[hB17]
  repeat' (first
   |(refine qz ?_;first
    |refine cl ?_ (hi:=by exact oQ (bs:=B) (by omega) (by omega) (i:=4) (k:=1) rfl rfl (by decide) (n:=15) (by rw[hBl]) nL nA rfl)
    |refine cl ?_ (hi:=by exact Ef (bs:=B) (i:=4) (k:=1) rfl rfl (by decide) (z:=119) (by rw[hBl];rfl) rfl)
    |refine cl ?_ (hi:=by exact tf (L:=wr B) (B:=B) (by omega) (by omega) hwB (by rw[hBl];rfl) (i:=5) rfl nL nA rfl))
   |refine zz ?_|refine zx (fun _=>?_) (fun _=>?_)|fail)
  refine WX.cj (σ:=Nat) (fun t=>[(0,.one (.lsl 0 k off n fL cut)),(1,.one (.int .i64 all)),(4,.one (.ptr 3 0)),(11,.one (.ptr 4 0)),(12,.one (.ptr 6 0)),(66,.one (.int .i64 (t:Nat)))]) (fun t=>[.late W,.dead,au (B.take t),.cells [.int .i64 0,.bool false,.bool false,.int .i64 0,.int .i64 0,.int .i64 0,.nils,.nils,.int .i64 0,.bool false,.bool false] 52 false false,gD 5 (wr B) B t false,dP (wr B),aO 2 (B.take t)]) (fun t=>t<=101) (fun t=>101-t) 0 (Nat.zero_le _) (fun t _=>nf) (bV [0,1,2,3,6,7,8] (obj:=by(repeat' (first|exact af.nil|refine af.cons (by rw[hw1];rfl) ?_|refine oz ?_));first|done|fail)) ?_;intro t ht ih;have htl:(B.take t).length=t:=by rw[List.length_take];omega
  by_cases hlt:t<101
  ·have hts:=take_one (B:=B) (k:=t) (by omega)
   have hv:fF B (t,false)=B.getD t false/\ca B (t,false)=(t+1,false):=⟨by show(!false&&B.getD t false)=_;rw[Bool.not_false,Bool.true_and],by unfold ca;rw[if_neg Bool.noConfusion,if_pos (by show t<B.length;omega)]⟩
   obtain⟨x,hx⟩:∃x,B.getD t false=x:=⟨_,rfl⟩
   rw[hx]at hts hv;have hxr:=Bx x
   repeat' (first
    |(refine qz ?_;first
     |refine cl ?_ (hi:=by exact I3 hBin hv (i:=4) (k:=5) rfl rfl (by decide) hS rfl)
     |refine cl ?_ (hi:=by exact fk (size:=1) rfl (bs:=B.take t) (by omega) (by decide) (by omega) (i:=6) (k:=2) rfl rfl (by decide) hts nL nA rfl))
    |refine zz ?_|refine zx (fun _=>?_) (fun _=>?_)|fail)
   exact ih (t+1) _ _ _ (bV [0,1,7,3,4,5,6]) (by omega) (by omega)
  ·obtain rfl:t=101:=by omega
   clear ih;rw[hBS]
   repeat' (first
    |(refine qz ?_;first
     |refine cl ?_ (hi:=by exact oQ (bs:=S) (by omega) (by omega) (i:=6) (k:=2) rfl rfl (by decide) (n:=13) (by rw[hSl]) nL nA rfl)
     |refine sY (zs:=[.nils]) ?_
     |refine cl ?_ (hi:=by exact n9 (l:=wr S) (iJ S) (by omega) (Nm S) hsu hwS (i:=7) (j:=8) rfl rfl (by decide) rfl)
     |refine cl ?_ (hi:=by exact cG hBin hb16 rfl (by decide) (i:=4) (k:=5) rfl rfl (by decide) hS rfl)
     |refine cl ?_ (hi:=by exact cG hBin hb2 rfl (by decide) (i:=4) (k:=5) rfl rfl (by decide) hS rfl)
     |refine cl ?_ (hi:=by exact tf (L:=wr S) (B:=S) (by omega) (by omega) hwS (by rw[hSl];rfl) (i:=9) rfl nL nA rfl)
     |refine cl ?_ (hi:=by exact Fw hL hbl hn hfl hSin hSl hk hA hBb hsr hfit ewA ewB (g:=0) (i:=10) (j:=11) rfl rfl rfl (by decide) (N:=12) (M:=13) rfl rfl nA rfl))
    |refine zz ?_|refine zx (fun _=>?_) (fun _=>?_)|refine bm (by first|exact ag.nil|exact ag.one _|exact ag.mh (by repeat' (first|exact True.intro|refine And.intro ?_ ?_|exact Compat.ne rfl|exact fB 4 rfl rfl rfl|exact dz rfl))) ⟨by kernel_rfl,?_⟩|refine bm (by first|exact ag.nil|exact ag.one _|exact ag.mh (by repeat' (first|exact True.intro|refine And.intro ?_ ?_|exact Compat.ne rfl|exact fB 4 rfl rfl rfl|exact dz rfl))) ?_|fail)
   show aE _ _ _ _ _ _ _ _;refine kV [0,12,13] ?_;rfl
theorem xX{W:List (List XC)}{kk off fL cut:Nat}{b:List Int}(hL:W[kk]? = some (il .u8 b)){l:List Int}(hbl:off+l.length<=b.length)(hw:∀i,i<l.length->b.getD (off+i) 0=l.getD i 0)(hl:bc l)(hn:l.length<=100000)(res:Option (List Int))(hres:nH l l.length [] 0 0=res) :
 bq prog 70 [.one (.lsl 0 kk off l.length fL cut)] [.late W] (.tup [.one (eg 1 (res.getD []).length 1),.one (.int .i64 (if res.isSome then 0 else 15))]) [.late W,bR 5 (il .u8 (res.getD []))]:=by
 refine cO Tryz.func70 ?_
 repeat' (first|refine zz ?_|refine zx (fun _=>?_) (fun _=>?_)|fail)
 refine WX.scope ?_;refine WX.jump ?_
 repeat' (first|refine zz ?_|refine zx (fun _=>?_) (fun _=>?_)|fail)
 refine WX.label ?_;show WX _ _ _ _ _ _ _;refine WX.cq rfl ?_;refine WX.G4 (σ:=Nat×List Int×Int×Nat) (fun s=>[(0,.one (.lsl 0 kk off l.length fL cut)),(4,iq 1 s.2.1.length 1),(5,.one (.int .i64 s.2.2.1)),(6,.one (.int .i64 (s.2.2.2:Nat)))]) (fun s=>[.late W,bR 5 (il .u8 s.2.1)]) (fun s=>s.1+s.2.2.2=l.length/\0<=s.2.2.1/\s.2.2.1<=2/\s.2.1.length<=s.2.2.2/\nH l s.1 s.2.1 s.2.2.1 s.2.2.2=res) (fun s=>s.1) (l.length,[],0,0) ⟨rfl,by show(0:Int)<=0;omega,by show(0:Int)<=2;omega,Nat.le_refl _,hres⟩ (fun s _=>nf) (bV [0,1]) ?_;intro s ⟨h1,h2,h3,h4,h5⟩ ih
 cases hs:s.1 with
 | zero=>
   rw[hs]at h5 h1;subst h5;have hi:s.2.2.2=l.length:=by omega
   repeat' (first
    |(refine qz ?_;first
     |refine kY ?_)
    |refine zz ?_|refine zx (fun _=>?_) (fun _=>?_)|fail)
   show aE _ _ _ _ _ _ _ _;refine kV [0,1] ?_;simp only[XV.aB,List.map_cons,List.map_nil,X1.aB,aU];rfl
 | succ k=>
   rw[hs,nH]at h5;rw[hs]at h1;have hb:=hl s.2.2.2;have hb1:=hl (s.2.2.2+1);have e0:off+(s.2.2.2:Int).toNat*1=off+s.2.2.2:=by omega
   have e1:off+((s.2.2.2:Int)+1).toNat*1=off+(s.2.2.2+1):=by omega
   have hat0:=mF (show off+s.2.2.2<b.length by omega) (hw s.2.2.2 (by omega));have hat1:s.2.2.2+1<l.length->(il .u8 b)[off+(s.2.2.2+1)]? = some (.int .u8 (l.getD (s.2.2.2+1) 0)):=fun h=>mF (by omega) (hw _ h)
   repeat' (first
    |(refine qz ?_;first
     |refine kY ?_
     |refine mf ?_ (hp:=e0)
     |refine mf ?_ (hp:=e1)
     |refine v9 ?_ hL hat0 rfl
     |refine v9 ?_ hL (hat1 (by omega)) rfl)
    |refine zz ?_|refine zx (fun _=>?_) (fun _=>?_)|fail)
   ·rename_i g1 g2;rw[if_pos ⟨g1,g2⟩]at h5;subst h5;show aE _ _ _ _ _ _ _ _;refine kV [0,1] ?_;rfl
   ·rename_i g1 g2 g3 g4;rw[if_neg (fun h=>g2 h.2),if_pos ⟨g1,g3⟩,if_pos (.inl (by omega))]at h5;subst h5;show aE _ _ _ _ _ _ _ _;refine kV [0,1] ?_;rfl
   ·rename_i g1 g2 g3 g4 g5;rw[if_neg (fun h=>g2 h.2),if_pos ⟨g1,g3⟩,if_pos (.inr g5)]at h5;subst h5;show aE _ _ _ _ _ _ _ _;refine kV [0,1] ?_;rfl
   ·rename_i g1 g2 g3 g4 g5;rw[if_neg (fun h=>g2 h.2),if_pos ⟨g1,g3⟩,if_neg (fun h=>h.elim (by omega) g5)]at h5;show WX _ _ _ _ _ _ _;refine WX.goto ?_;show WX _ _ _ _ _ _ _;refine WX.jump ?_;refine WX.seq ?_;refine WX.skip ?_;show WX _ _ _ _ _ _ _;have e3:((s.2.2.2+1:Nat):Int)=(s.2.2.2:Int)+1:=by omega
    refine ih (k,s.2.1,0,s.2.2.2+1) _ _ _ (bV [0,1] (reg:=by(repeat' (first|exact ai.nil|refine ai.rU rfl rfl (by simp) ?_|refine ai.flat (by rw[e3];rfl) ?_|refine rz ?_|refine ai.sl rfl (by assumption) rfl ?_));first|done|fail)) ⟨by show k+(s.2.2.2+1)=_;omega,by show(0:Int)<=0;omega,by show(0:Int)<=2;omega,by show s.2.1.length<=s.2.2.2+1;omega,h5⟩ (by show k<s.1;omega)
   ·rename_i g1 g2 g3;rw[if_neg (fun h=>g2 h.2),if_neg (fun h=>g3 h.2),if_neg (by omega)]at h5;show WX _ _ _ _ _ _ _;refine WX.goto ?_;show WX _ _ _ _ _ _ _;refine WX.jump ?_;refine WX.seq ?_;refine WX.skip ?_;show WX _ _ _ _ _ _ _;have e3:((s.2.2.2+1:Nat):Int)=(s.2.2.2:Int)+1:=by omega
    refine ih (k,s.2.1++[l.getD s.2.2.2 0],0,s.2.2.2+1) _ _ _ (bV [0,3] (reg:=by(repeat' (first|exact ai.nil|refine ai.rU rfl rfl (by simp) ?_|refine ai.flat (by rw[e3];rfl) ?_|refine rz ?_|refine ai.sl rfl (by assumption) rfl ?_));first|done|fail)) ⟨by show k+(s.2.2.2+1)=_;omega,by show 0<=(0:Int);omega,by show(0:Int)<=2;omega,by show(s.2.1++[_]).length<=s.2.2.2+1;simp;omega,h5⟩ (by show k<s.1;omega)
   ·rename_i g1 g2;rw[if_neg (fun h=>g1 h.1),if_neg (fun h=>g1 h.1),if_pos g2]at h5;show WX _ _ _ _ _ _ _;refine WX.goto ?_;show WX _ _ _ _ _ _ _;refine WX.jump ?_;refine WX.seq ?_;refine WX.skip ?_;show WX _ _ _ _ _ _ _;have e3:((s.2.2.2+1:Nat):Int)=(s.2.2.2:Int)+1:=by omega
    refine ih (k,s.2.1++[l.getD s.2.2.2 0],s.2.2.1+1,s.2.2.2+1) _ _ _ (bV [0,3] (reg:=by(repeat' (first|exact ai.nil|refine ai.rU rfl rfl (by simp) ?_|refine ai.flat (by rw[e3];rfl) ?_|refine rz ?_|refine ai.sl rfl (by assumption) rfl ?_));first|done|fail)) ⟨by show k+(s.2.2.2+1)=_;omega,by show 0<=s.2.2.1+1;omega,by show s.2.2.1+1<=2;omega,by show(s.2.1++[_]).length<=s.2.2.2+1;simp;omega,h5⟩ (by show k<s.1;omega)
   ·rename_i g1 g2;rw[if_neg (fun h=>g1 h.1),if_neg (fun h=>g1 h.1),if_neg g2]at h5;show WX _ _ _ _ _ _ _;refine WX.goto ?_;show WX _ _ _ _ _ _ _;refine WX.jump ?_;refine WX.seq ?_;refine WX.skip ?_;show WX _ _ _ _ _ _ _;have e3:((s.2.2.2+1:Nat):Int)=(s.2.2.2:Int)+1:=by omega
    refine ih (k,s.2.1++[l.getD s.2.2.2 0],0,s.2.2.2+1) _ _ _ (bV [0,3] (reg:=by(repeat' (first|exact ai.nil|refine ai.rU rfl rfl (by simp) ?_|refine ai.flat (by rw[e3];rfl) ?_|refine rz ?_|refine ai.sl rfl (by assumption) rfl ?_));first|done|fail)) ⟨by show k+(s.2.2.2+1)=_;omega,by show 0<=(0:Int);omega,by show(0:Int)<=2;omega,by show(s.2.1++[_]).length<=s.2.2.2+1;simp;omega,h5⟩ (by show k<s.1;omega)
theorem sg{W:List (List XC)}{g kk off fL cut n:Nat}{b:List Int}(hL:W[kk]? = some (il .u8 b)){l:List Int}(hln:l.length=n)(hbl:off+l.length<=b.length)(hw:∀i,i<l.length->b.getD (off+i) 0=l.getD i 0)(hl:bc l)(hn:l.length<=100000){q:List Int}(hres:nH l l.length [] 0 0=some q){m:Nat}(hm:q.length=m)(h0:m≠0){HS:ah}(hi:HS[g]? = some (.late W)){N:Nat}(hN:HS.length=N){HS':ah}(hh:HS++[.cells (il .u8 q) 5 true false]=HS')(hbd:Nat.blt HS'.length Mem.bound=true) :
 az.Sound prog ⟨70,[.one (.lsl g kk off n fL cut)],HS,.tup [.one (.slice N 0 m (.toEnd 1)),.one (.int .i64 0)],HS',[g]⟩:=by
 subst hln hm hN
 have e1:bR 5 (il .u8 q) = .cells (il .u8 q) 5 true false:=cz fun e=>by
  have h2:(il .u8 q).length=0:=by rw[e];rfl
  rw[bu]at h2;omega
 have hc:=xX (W:=W) (kk:=kk) (off:=off) (fL:=fL) (cut:=cut) hL hbl hw hl hn (some q) hres;rw[show(some q).getD []=q from rfl,e1,show eg 1 q.length 1 = .slice 1 0 q.length (.toEnd 1)from if_neg h0]at hc;exact bz [g] [g] 1 hc (by simp) (.flat hi .nil) (.flat .nil) (.flat (.flat .nil)) rfl (.cons (show 0<1 by omega) .nil) (.cons rfl .nil) (by simp[XV.bH,X1.ok,XC.ok]) rfl (.flat (.flat .nil)) rfl rfl (by simp only[bE];rw[aF hi];exact hh) hbd (.inl rfl)
theorem G3(s:Int)(hs:0<=s/\s<65536){l w:List Int}(hl:bc l)(hn:l.length<=100000)(hwl:l.length<=w.length)(hw:∀i,i<l.length->w.getD i 0=l.getD i 0){ob:aj}(hr:RO ob .u8 w)(cp:py) :
 bq prog 80 [.one (.int .u16 s),.one (.slice 0 0 l.length cp)] [ob] (.one (.int .u16 (vX s l l.length))) [ob]:=by
 have hfo:=hr.flat;refine cO Tryz.func80 ?_
 repeat' (first|refine zz ?_|refine zx (fun _=>?_) (fun _=>?_)|fail)
 refine WX.cj (σ:=Nat×Int) (fun t=>[(0,.one (.int .u16 t.2)),(7,.one (.slice 0 0 l.length cp)),(8,.one (.int .i64 (l.length:Nat))),(9,.one (.int .i64 (t.1:Nat)))]) (fun t=>[ob]) (fun t=>t.1<=l.length/\t.2=vX s l t.1) (fun t=>l.length-t.1) (0,s) ⟨Nat.zero_le _,rfl⟩ (fun s _=>nf) (bV [0]) ?_;intro t ⟨hle,hte⟩ ih;have hb:=hl t.1;have htr:=tD hs l t.1;rw[<-hte]at htr
 by_cases hlt:t.1<l.length
 ·have hwe:=hw t.1 hlt;rw[<-hwe]at hb
  repeat' (first|refine zz ?_|refine zx (fun _=>?_) (fun _=>?_)|fail)
  refine WX.cj (σ:=Nat×Int) (fun u=>[(0,.one (.int .u16 u.2)),(7,.one (.slice 0 0 l.length cp)),(8,.one (.int .i64 (l.length:Nat))),(9,.one (.int .i64 (t.1:Nat))),(18,.one (.int .i64 (u.1:Nat)))]) (fun t=>[ob]) (fun u=>u.1<=8/\u.2=c8 (uj .u16 t.2 (w.getD t.1 0*2^8)) u.1) (fun u=>8-u.1) (0,uj .u16 t.2 (w.getD t.1 0*2^8)) ⟨Nat.zero_le _,rfl⟩ (fun s _=>nf) (bV [0]) ?_;intro u ⟨hu8,hue⟩ ih2;have hur:=BD (mH t.2 (w.getD t.1 0*2^8)) u.1;rw[<-hue]at hur
  by_cases hlu:u.1<8
  ·repeat' (first
    |(refine qz ?_;first
     |refine RT 1 ?_)
    |refine zz ?_|refine zx (fun _=>?_) (fun _=>?_)|fail)
   ·rename_i hc1;exact ih2 (u.1+1,fI u.2) _ _ _ (bV [0] (reg:=by(repeat' (first|exact ai.nil|refine ai.flat (by show _=XV.one (XC.int .u16 (fI u.2));unfold fI;rw[if_pos hc1];rfl) ?_|refine rz ?_|refine ai.sl rfl (by assumption) rfl ?_));first|done|fail)) ⟨by show u.1+1<=8;omega,by show fI u.2=fI _;rw[<-hue]⟩ (by show 8-(u.1+1)<8-u.1;omega)
   ·rename_i hc1;exact ih2 (u.1+1,fI u.2) _ _ _ (bV [0] (reg:=by(repeat' (first|exact ai.nil|refine ai.flat (by show _=XV.one (XC.int .u16 (fI u.2));unfold fI;rw[if_neg hc1];rfl) ?_|refine rz ?_|refine ai.sl rfl (by assumption) rfl ?_));first|done|fail)) ⟨by show u.1+1<=8;omega,by show fI u.2=fI _;rw[<-hue]⟩ (by show 8-(u.1+1)<8-u.1;omega)
  ·have e8:u.1=8:=by omega
   clear ih2
   repeat' (first|refine zz ?_|refine zx (fun _=>?_) (fun _=>?_)|fail)
   exact ih (t.1+1,u.2) _ _ _ (bV [0]) ⟨by show t.1+1<=_;omega,by show u.2=c8 _ 8;rw[hue,e8,<-hte,hwe]⟩ (by show _-(t.1+1)<_;omega)
 ·have e0:t.1=l.length:=by omega
  repeat' (first|refine zz ?_|refine zx (fun _=>?_) (fun _=>?_)|fail)
  show aE _ _ _ _ _ _ _ _;refine kV [0] ?_;show XV.one (.int .u16 t.2)=_;rw[hte,e0];rfl
theorem KM{s:Int}(hs:0<=s/\s<65536){l w:List Int}(hl:bc l)(hn:l.length<=100000)(hwl:l.length<=w.length)(hw:∀i,i<l.length->w.getD i 0=l.getD i 0){ob:aj}(hr:RO ob .u8 w){cp:py}{n:Nat}(hln:l.length=n){HS:ah}{i:Nat}(hi:HS[i]? = some ob)(hb:Nat.blt HS.length Mem.bound=true) :
 az.Sound prog ⟨80,[.one (.int .u16 s),.one (.slice i 0 n cp)],HS,.one (.int .u16 (vX s l l.length)),HS,[]⟩:=by
 subst hln;have hfo:=hr.flat;exact fM [i] (G3 s hs hl hn hwl hw hr cp) (by simp) (.flat hi .nil) (.flat .nil) (.flat (.cons (by show 0<1;omega) .nil)) (.flat (.cons rfl .nil)) trivial rfl hb rfl
theorem JA{l w:List Int}(hl:bc l)(hn:l.length<=100000)(hwl:l.length<=w.length)(hw:∀i,i<l.length->w.getD i 0=l.getD i 0){ob:aj}(hr:RO ob .u8 w)(cp:py) :
 bq prog 49 [.one (.slice 1 0 1 (.exact 1))] [ob,.cells [.slice 0 0 l.length cp] 32 false false] (.one (.int .u16 (cU l))) [ob,.cells [.slice 0 0 l.length cp] 32 false false]:=by
 have hfo:=hr.flat;refine cO Tryz.func49 ?_
 repeat' (first
  |(refine qz ?_;first
   |refine cl ?_ (hi:=by exact KM (by decide) hl hn hwl hw hr (i:=0) rfl rfl rfl))
  |refine WX.loop ?_|refine WX.round (c := .seq (.region 3 _ _) _) ?_|refine zz ?_|refine zx (fun _=>?_) (fun _=>?_)|fail)
 show aE _ _ _ _ _ _ _ _;refine kV [0,1] ?_;rfl
theorem D5{l w:List Int}(hl:bc l)(hn:l.length<=100000)(hwl:l.length<=w.length)(hw:∀i,i<l.length->w.getD i 0=l.getD i 0){ob:aj}(hr:RO ob .u8 w){cp:py}{z:Int}(hz:cU l=z){n:Nat}(hln:l.length=n){HS:ah}{i j:Nat}(hi:HS[i]? = some ob)(hj:HS[j]? = some (.cells [.slice i 0 n cp] 32 false false))(hd:i≠j)(hb:Nat.blt HS.length Mem.bound=true) :
 az.Sound prog ⟨49,[.one (.slice j 0 1 (.exact 1))],HS,.one (.int .u16 z),HS,[]⟩:=by
 subst hln hz;have hfo:=hr.flat;exact fM [i,j] (JA hl hn hwl hw hr cp) (by simp[hd]) (.flat hi (.cons hj .nil)) (.flat (.cons (by simp[aj.bH,XC.ok]) .nil)) (.cons (by show 1<2;omega) .nil) (.cons rfl .nil) trivial rfl hb rfl
abbrev OL(S:cD):List XC:=[.ptr 3 0,.int .i64 S.id,.bool S.inter,.bool S.down,.int .i64 S.hqp,.int .i64 S.qp,.ptr 16 0,.ptr 18 0]
theorem yp{S:cD}{b:Bool}(h:S.inter=b):(OL S)[2]? = some (.bool b):=by rw[<-h];rfl
def bj(S:cD)(m:Mb):List Bool:=(if S.inter=true then jl cM m.kind.toNat else [decide (m.kind=4)])++(if m.kind=4 then aI (ep S.qp m.qp).1 2 else [])
def fx(S:cD)(m:Mb):cD:=if m.kind=4 then {S with qp:=m.qp}else S
theorem F4(a b:Int):0<=(ep a b).1/\(ep a b).1<=3:=by
 unfold ep
 repeat' split
 all_goals simp
theorem nQ(bs:List Bool)(S:cD)(m:Mb)(hm:jR m)(hk:m.kind<=4)(hq : -1000000<=S.qp/\S.qp<=1000000)(hb:bs.length<=800000) :
 bq prog 88 [.one (.ptr 2 0),.one (.ptr 0 0),.agg (mC m)] [aO 1 bs,au bs,jz (S),eZ 4 8 12,aW 5 6 7 cM,c6 cM,c9 cM,c7 cM,aW 9 10 11 cZ,c6 cZ,c9 cZ,c7 cZ,aW 13 14 15 cP,c6 cP,c9 cP,c7 cP,fA 17 (S).cols (S).rows,.map (cB (S).M),.cells [.int .i64 (S).cols,.int .i64 (S).rows,.map 19,.map 20,.map 21] 220 false false,.map (aq (S).A),.map (aq (S).B),.map (aq (S).C)] (.tup []) [aO 22 (bs++bj S m),.dead,jz (fx S m),eZ 4 8 12,aW 5 6 7 cM,c6 cM,c9 cM,c7 cM,aW 9 10 11 cZ,c6 cZ,c9 cZ,c7 cZ,aW 13 14 15 cP,c6 cP,c9 cP,c7 cP,fA 17 (fx S m).cols (fx S m).rows,.map (cB (fx S m).M),.cells [.int .i64 (fx S m).cols,.int .i64 (fx S m).rows,.map 19,.map 20,.map 21] 220 false false,.map (aq (fx S m).A),.map (aq (fx S m).B),.map (aq (fx S m).C),au (bs++bj S m)]:=by
 have hkind:=hm.kind;have hqp:=hm.qp;have hsr:=F4 S.qp m.qp;have hcb:=j0 Dn m.kind.toNat;have hkn:m.kind=(m.kind.toNat:Nat):=by omega
 unfold bj
 obtain⟨b,hin⟩:∃b,S.inter=b:=⟨_,rfl⟩
 have hl2:=yp hin
 by_cases h4:m.kind=4
 ·have e4:fx S m = {S with qp:=m.qp}:=if_pos h4;rw[e4,if_pos h4];cases b
  ·rw[if_neg (by rw[hin];decide),decide_eq_true h4,<-List.append_assoc];refine cO Tryz.func88 ?_
   repeat' (first
    |(refine qz ?_;first
     |refine ld (hc:=hl2) ?_
     |refine cl ?_ (hi:=by exact jB (b:=true) (bs:=bs) (by omega) rfl rfl (by decide) nL nA rfl)
     |refine cl ?_ (hi:=by exact yB hq hqp rfl)
     |refine cl ?_ (hi:=by exact fj (n:=(ep S.qp m.qp).1) (size:=2) rfl (bs:=bs++[true]) (by omega) (by decide) (by rw[List.length_append];simp;omega) rfl rfl (by decide) nL nA rfl))
    |refine zz ?_|refine zx (fun _=>?_) (fun _=>?_)|fail)
   show aE _ _ _ _ _ _ _ _;refine kV [0,1,2,3,4,5,6,7,8,9,10,11,12,13,14,15,16,17,18,19,20,21,24] ?_;rfl
  ·rw[if_pos hin,<-List.append_assoc];refine cO Tryz.func88 ?_
   repeat' (first
    |(refine qz ?_;first
     |refine ld (hc:=hl2) ?_
     |refine cl ?_ (hi:=by exact qd (C:=cM) Dn (n:=m.kind.toNat) hkn (by show m.kind.toNat<5;omega) (bs:=bs) (by omega) rfl rfl rfl rfl rfl rfl (by decide) nL nA rfl)
     |refine cl ?_ (hi:=by exact yB hq hqp rfl)
     |refine cl ?_ (hi:=by exact fj (n:=(ep S.qp m.qp).1) (size:=2) rfl (bs:=bs++jl cM m.kind.toNat) (by omega) (by decide) (by rw[List.length_append];omega) rfl rfl (by decide) nL nA rfl))
    |refine zz ?_|refine zx (fun _=>?_) (fun _=>?_)|fail)
   show aE _ _ _ _ _ _ _ _;refine kV [0,1,2,3,4,5,6,7,8,9,10,11,12,13,14,15,16,17,18,19,20,21,24] ?_;rfl
 ·have e4:fx S m=S:=if_neg h4;rw[e4,if_neg h4,List.append_nil];cases b
  ·rw[if_neg (by rw[hin];decide),decide_eq_false h4];refine cO Tryz.func88 ?_
   repeat' (first
    |(refine qz ?_;first
     |refine ld (hc:=hl2) ?_
     |refine cl ?_ (hi:=by exact jB (b:=false) (bs:=bs) (by omega) rfl rfl (by decide) nL nA rfl))
    |refine zz ?_|refine zx (fun _=>?_) (fun _=>?_)|fail)
   show aE _ _ _ _ _ _ _ _;refine kV [0,1,2,3,4,5,6,7,8,9,10,11,12,13,14,15,16,17,18,19,20,21,23] ?_;rfl
  ·rw[if_pos hin];refine cO Tryz.func88 ?_
   repeat' (first
    |(refine qz ?_;first
     |refine ld (hc:=hl2) ?_
     |refine cl ?_ (hi:=by exact qd (C:=cM) Dn (n:=m.kind.toNat) hkn (by show m.kind.toNat<5;omega) (bs:=bs) (by omega) rfl rfl rfl rfl rfl rfl (by decide) nL nA rfl))
    |refine zz ?_|refine zx (fun _=>?_) (fun _=>?_)|fail)
   show aE _ _ _ _ _ _ _ _;refine kV [0,1,2,3,4,5,6,7,8,9,10,11,12,13,14,15,16,17,18,19,20,21,23] ?_;rfl
theorem j8(S:cD)(m:Mb):(bj S m).length<=66:=by
 unfold bj;have:=j0 Dn m.kind.toNat;rw[List.length_append];split<;>split<;>simp only[List.length_cons,List.length_nil,aQ]<;>omega
def Ea(M:jF)(cols mb:Int)(v:Nat->Int×Int):jF:=cH (cH (cH (cH M cols mb 0 (v 0)) cols mb 1 (v 1)) cols mb 2 (v 2)) cols mb 3 (v 3)
end Go.Proofs.YthdciapjllppjaaGreat
