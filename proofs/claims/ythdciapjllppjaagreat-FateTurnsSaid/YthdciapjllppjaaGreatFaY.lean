/-
  A part of the proof: StrQ, FtA, StrA, FtT, FtD.
-/
import Derived.Test.YthdciapjllppjaaGreatFaF
import Derived.Test.YthdciapjllppjaaGreatFaH
set_option maxRecDepth 10000
set_option maxHeartbeats 8000000
set_option linter.unusedVariables false
set_option linter.unusedSectionVars false
set_option linter.unusedSimpArgs false
open Go.Proofs.Tryz (prog)
namespace Go.Proofs.YthdciapjllppjaaGreat
open Go.Xm
variable [av]
theorem QD(b:BitVec 8):IntKind.u8.wrap (b.toNat:Int)=(b.toNat:Int):=by
 have:=b.isLt;simp[IntKind.wrap,IntKind.bits,IntKind.signed];omega
theorem Jb(x y:Int):lK .u8 x y=((BitVec.ofInt 8 x ^^^ BitVec.ofInt 8 y).toNat:Int):=QD _
theorem Gb(x y:Int):0<=lK .u8 x y/\lK .u8 x y<256:=by
 rw[Jb];have:=(BitVec.ofInt 8 x ^^^ BitVec.ofInt 8 y).isLt;omega
theorem ofInt8(b:BitVec 8):BitVec.ofInt 8 (b.toNat:Int)=b:=by simp
theorem Qt{x:Int}(h:0<=x/\x<256):((BitVec.ofInt 8 x).toNat:Int)=x:=by
 rw[BitVec.toNat_ofInt];have e:((2^8:Nat):Int)=256:=by decide
 rw[e];omega
theorem Av{x:Int}(h:0<=x/\x<256)(y:Int):lK .u8 (lK .u8 x y) y=x:=by
 rw[Jb (lK .u8 x y),Jb x y,ofInt8,BitVec.xor_assoc,BitVec.xor_self,BitVec.xor_zero];exact Qt h
def qf(b m:List Int):Nat->List Int
 | 0=>b
 | k+1=>if 21+k<b.length then(qf b m k).set (21+k) (lK .u8 ((qf b m k).getD (21+k) 0) (m.getD k 0))else qf b m k
def og(b m:List Int):List Int:=qf b m m.length
theorem iz(b m:List Int):∀k,(qf b m k).length=b.length
 | 0=>rfl
 | k+1=>by
   rw[qf];split
   ·rw[List.length_set,iz b m k]
   ·exact iz b m k
theorem oR(b m:List Int):∀k i,(qf b m k).getD i 0=if 21<=i/\i<21+k/\i<b.length then lK .u8 (b.getD i 0) (m.getD (i-21) 0)else b.getD i 0
 | 0,i=>by rw[if_neg (by omega)];rfl
 | k + 1,i=>by
   rw[qf]
   by_cases hk:21+k<b.length
   ·rw[if_pos hk]
    by_cases hi:i=21+k
    ·subst hi;rw[if_pos (by omega),List.getD_eq_getElem?_getD,List.getElem?_set_self (by rw[iz];exact hk),Option.getD_some,oR b m k (21+k),if_neg (by omega),Nat.add_sub_cancel_left]
    ·rw[List.getD_eq_getElem?_getD,List.getElem?_set_ne (fun e=>hi e.symm),<-List.getD_eq_getElem?_getD,oR b m k i]
     by_cases h:21<=i/\i<21+k/\i<b.length
     ·rw[if_pos h,if_pos (by omega)]
     ·rw[if_neg h,if_neg (by omega)]
   ·rw[if_neg hk,oR b m k i]
    by_cases h:21<=i/\i<21+k/\i<b.length
    ·rw[if_pos h,if_pos (by omega)]
    ·rw[if_neg h,if_neg (by omega)]
theorem u6{b:List Int}(hb:aR b)(m:List Int)(k:Nat):aR (qf b m k):=fun i=>by
 rw[oR];split
 ·exact Gb _ _
 ·exact hb i
theorem L6{b:List Int}(hb:aR b)(i:Nat):0<=b.getD i 0/\b.getD i 0<256:=hb i
theorem CM{b:List Int}(hb:aR b)(m:List Int):og (og b m) m=b:=by
 unfold og;refine List.ext_getElem (by rw[iz,iz]) fun i h1 h2=>?_
 have h:=oR (qf b m m.length) m m.length i;rw[oR b m m.length i,iz]at h
 have e:(qf (qf b m m.length) m m.length).getD i 0=b.getD i 0:=by
  rw[h];split
  ·exact Av (L6 hb i) _
  ·rfl
 rw[List.getD_eq_getElem?_getD,List.getD_eq_getElem?_getD,List.getElem?_eq_getElem h1,List.getElem?_eq_getElem h2]at e;exact e
def wG(fs:List Fa)(i:Nat)(p:List Int):List Int:=
 if 0<i/\i-1<fs.length then(if(fs.getD (i-1) default).lost=true then []else og p (fs.getD (i-1) default).mask)else p
def wH(ps:List (List Int))(fs:List Fa):Nat->List Int
 | 0=>[]
 | i+1=>wH ps fs i++wG fs i (ps.getD i [])
def ue(ps:List (List Int))(fs:List Fa):List Int:=wH ps fs ps.length
def g_(ps:List (List Int)):Nat->List Int
 | 0=>[]
 | i+1=>g_ ps i++ps.getD i []
theorem DU(ps:List (List Int)):∀n,wH ps [] n=g_ ps n
 | 0=>rfl
 | n+1=>by rw[wH,g_,DU ps n,show wG [] n (ps.getD n [])=ps.getD n []from if_neg fun h=>Nat.not_lt_zero _ h.2]
theorem z5{ps:List (List Int)}{fs:List Fa}(h:∀i,i<fs.length->(fs.getD i default).lost=true):∀n,n<=fs.length->wH ps fs (n+1)=ps.getD 0 []
 | 0,_=>rfl
 | n+1,hn=>by
   rw[wH,z5 h n (by omega)];unfold wG;rw[if_pos (by omega),if_pos (by rw[Nat.add_sub_cancel];exact h n (by omega)),List.append_nil]
theorem LY(p:List Int)(fs:List Fa):ue [[],p] fs=wG fs 1 p:=by
 show(([]++wG fs 0 [])++wG fs 1 p)=_;unfold wG;rw[if_neg (by omega)];rfl
theorem xf{ps qs:List (List Int)}{ms:List Fa}(hb:∀i,aR (ps.getD i []))(hm:∀i,i<ms.length->(ms.getD i default).lost=false)(h0:qs.getD 0 []=ps.getD 0 [])(hq:∀i,i+1<ps.length->qs.getD (i+1) []=if i<ms.length then og (ps.getD (i+1) []) (ms.getD i default).mask else ps.getD (i+1) []):∀n,n<=ps.length->wH qs ms n=g_ ps n
 | 0,_=>rfl
 | n + 1,hn=>by
   rw[wH,g_,xf hb hm h0 hq n (by omega)]
   congr 1
   unfold wG
   cases n with
   | zero=>rw[if_neg (by omega),h0]
   | succ n=>
     rw[hq n (by omega),Nat.add_sub_cancel]
     by_cases h:n<ms.length
     ·rw[if_pos (by omega),if_pos h,if_neg (by rw[hm n h];decide)];exact CM (hb _) _
     ·rw[if_neg (by omega),if_neg h]
theorem jI:aK prog 69 [.bool false,.nils]:=inferInstance
def wP(m:List Int):Nat->Bool
 | 0=>false
 | k+1=>wP m k||decide (m.getD k 0≠0)
def gW(f:Fa)(size:Int):Bool:=f.lost||wP f.mask (min f.mask.length size.toNat)
theorem DT{m:List Int}:∀{a b:Nat},a<=b->wP m a=true->wP m b=true
 | a,0,h,ha=>by obtain rfl:a=0:=by omega
                exact ha
 | a,b+1,h,ha=>by
   rw[wP]
   by_cases e:a=b+1
   ·subst e;rw[wP]at ha;exact ha
   ·rw[DT (show a<=b by omega) ha];rfl
theorem Bu{L:List (List XC)}{f:Fa}{c:XC}(hc:cy L 0 c (il .u8 f.mask) f.mask.length)(size:Int)(hm:f.mask.length<=1000000000) :
 bm prog 25 [.agg [.bool f.lost,c],.one (.int .i64 size)] [.late L] (.one (.bool (gW f size))) [.late L]:=by
 obtain⟨r,hr⟩:∃r,gW f size=r:=⟨_,rfl⟩
 rw[hr];unfold gW at hr
 obtain⟨b,hb⟩:∃b,f.lost=b:=⟨_,rfl⟩
 rw[hb]at hr ⊢
 have hq:∃q:Nat,q=min f.mask.length size.toNat:=⟨_,rfl⟩
 obtain⟨q,hq⟩:=hq;rw[<-hq]at hr;refine cO Tryz.func25 ?_
 cases b with
 | true=>
   repeat' (first|refine zz ?_|refine zx (fun _=>?_) (fun _=>?_)|fail)
   show aE _ _ _ _ _ _ _ _;refine kV [0] ?_;rw[<-hr];rfl
 | false=>
   rw[Bool.false_or]at hr;subst hr
   repeat' (first
    |(refine qz ?_;first
     |refine ll ?_
     |refine UG (q:=q) (fun c' hc'=>?_))
    |refine zz ?_|refine zx (fun _=>?_) (fun _=>?_)|fail)
   have hok:=hc'.ok (show 0<1 by decide);refine WX.bN (σ:=Nat) (fun k=>[(17,.one c'),(18,.one (.int .i64 (q:Nat))),(19,.one (.int .i64 (k:Nat)))]) (fun k=>[.late L]) (fun k=>k<=q/\wP f.mask k=false) (fun k=>q-k) 0 ⟨Nat.zero_le _,rfl⟩ (fun k _=>stM) (bq [0] (reg:=by(repeat' (first|exact ae.nil|refine ae.gO rfl (by assumption) rfl ?_|refine rz ?_|refine ae.sl rfl (by assumption) rfl ?_));first|done|fail)) ?_;intro k ⟨hk,ha⟩ ih
   by_cases hlt:k<q
   ·have hlt2:k<f.mask.length:=by omega
    repeat' (first
     |(refine qz ?_;first
      |refine sc (fun kk hkk=>?_)
      |refine Gd ?_ (by assumption) hlt2)
     |refine zz ?_|refine zx (fun _=>?_) (fun _=>?_)|fail)
    ·rename_i h1;have e:wP f.mask (k+1)=true:=by rw[wP,decide_eq_true h1,Bool.or_true]
     rw[DT (show k+1<=q by omega) e];show aE _ _ _ _ _ _ _ _;refine kV [0] ?_;rfl
    ·rename_i h1;exact ih (k+1) _ _ _ (bq [0] (reg:=by(repeat' (first|exact ae.nil|refine ae.gO rfl (by assumption) rfl ?_|refine rz ?_|refine ae.sl rfl (by assumption) rfl ?_));first|done|fail)) ⟨by omega,by rw[wP,ha,decide_eq_false h1];rfl⟩ (by omega)
   ·obtain rfl:k=q:=by omega
    rw[ha]
    repeat' (first|refine zz ?_|refine zx (fun _=>?_) (fun _=>?_)|fail)
    show aE _ _ _ _ _ _ _ _;refine kV [0] ?_;rfl
theorem kH{L:List (List XC)}{f:Fa}{HS:ah}{i:Nat}{c:XC}(hc:cy L i c (il .u8 f.mask) f.mask.length){size:Int}(hm:f.mask.length<=1000000000){b r:Bool}(hb:f.lost=b)(hr:gW f size=r)(hi:HS[i]? = some (.late L))(hbd:Nat.blt HS.length Mem.bound=true) :
 aA.Sound prog ⟨25,[.agg [.bool b,c],.one (.int .i64 size)],HS,.one (.bool r),HS,[]⟩:=by
 subst hb hr;obtain⟨c0,h0,rfl⟩:=hc.back 0 (nth [i]) rfl;refine f_ [i] (Bu h0 size hm) (by simp) (.flat hi .nil) (.flat .nil) (.cons ?_ (.flat .nil)) (.cons rfl (.flat .nil)) trivial rfl hbd rfl;intro x hx;simp only[List.mem_cons,List.not_mem_nil,or_false]at hx
 rcases hx with rfl|rfl
 ·trivial
 ·exact h0.ok (Nat.lt_succ_self 0)
def rn(ps:List (List Int)):Nat->List Int
 | 0=>[]
 | k+1=>if k=0 then []else rn ps k++[max ((((ps.getD k []).length:Nat):Int)-21) 0]
theorem rq(ps:List (List Int)):∀k,(rn ps k).length=k-1
 | 0=>rfl
 | k+1=>by
   rw[rn];split
   ·subst_vars;rfl
   ·rw[List.length_append,rq ps k,List.length_singleton];omega
theorem GX{L:List (List XC)}{cs:List XC}{ps:List (List Int)}(hb:lE L cs ps){c:XC}(hc:cy L 0 c cs ps.length)(hn:ps.length<=1000000)(hpl:∀i,(ps.getD i []).length<=1000000000) :
 bm prog 20 [.one c] [.late L] (dV 1 (ps.length-1) 1) [.late L,bu 3 (il .i64 (rn ps ps.length))]:=by
 have hok:c.ok 2:=hc.ok (by decide);have hok1:c.ok 1:=hc.ok (by decide);refine cO Tryz.func20 ?_
 repeat' (first
  |(refine qz ?_;first
   |refine ll ?_)
  |refine zz ?_|refine zx (fun _=>?_) (fun _=>?_)|fail)
 refine WX.bU rfl ?_;refine WX.bN (σ:=Nat) (fun k=>[(6,.one c),(7,.one (.int .i64 (ps.length:Nat))),(3,dV 1 (k-1) 1),(8,.one (.int .i64 (k:Nat)))]) (fun k=>[.late L,bu 3 (il .i64 (rn ps k))]) (fun k=>k<=ps.length) (fun k=>ps.length-k) 0 (Nat.zero_le _) (fun k _=>stM) (bq [0,1] (reg:=by(repeat' (first|exact ae.nil|refine ae.gO rfl (by assumption) rfl ?_|refine rz ?_|refine ae.sl rfl (by assumption) rfl ?_));first|done|fail)) ?_;intro k hk ih;have hsl:=rq ps k
 by_cases hlt:k<ps.length
 ·obtain⟨y,x,h1,h2,h3⟩:=D2 hb hlt 0;have hpk:=hpl k
  obtain⟨p,hp⟩:∃p,ps.getD k []=p:=⟨_,rfl⟩
  rw[hp]at h3 hpk;have hs1:rn ps (k+1)=if k=0 then []else rn ps k++[max (((p.length:Nat):Int)-21) 0]:=by rw[rn,hp]
  by_cases hk0:k=0
  ·rw[if_pos hk0]at hs1;subst hk0
   repeat' (first
    |(refine qz ?_;first
     |refine ll ?_
     |refine sc (fun kk hkk=>?_)
     |refine se ?_ (by assumption) h1 h2)
    |refine zz ?_|refine zx (fun _=>?_) (fun _=>?_)|fail)
   exact ih (0+1) _ _ _ (bq [0,1] (obj:=by(repeat' (first|exact af.nil|refine af.flat (by rw[hs1];rfl) ?_|refine oz ?_));first|done|fail) (reg:=by(repeat' (first|exact ae.nil|refine ae.gO rfl (by assumption) rfl ?_|refine rz ?_|refine ae.sl rfl (by assumption) rfl ?_));first|done|fail)) (by omega) (by omega)
  ·rw[if_neg hk0]at hs1
   repeat' (first
    |(refine qz ?_;first
     |refine ll ?_
     |refine sc (fun kk hkk=>?_)
     |refine se ?_ (by assumption) h1 h2)
    |refine zz ?_|refine zx (fun _=>?_) (fun _=>?_)|fail)
   exact ih (k+1) _ _ _ (bq [0,3] (obj:=by(repeat' (first|exact af.nil|refine af.flat (by rw[hs1];rfl) ?_|refine oz ?_));first|done|fail) (reg:=by(repeat' (first|exact ae.nil|refine ae.gO rfl (by assumption) rfl ?_|refine ae.flat (by rw[show k+1-1=k-1+1 by omega];rfl) ?_|refine rz ?_|refine ae.sl rfl (by assumption) rfl ?_));first|done|fail)) (by omega) (by omega)
 ·obtain rfl:k=ps.length:=by omega
  repeat' (first
   |(refine qz ?_;first
    |refine ll ?_)
   |refine zz ?_|refine zx (fun _=>?_) (fun _=>?_)|fail)
  show aE _ _ _ _ _ _ _ _;refine kV [0,1] ?_;rw[dB];rfl
theorem Kt{L:List (List XC)}{cs:List XC}{ps:List (List Int)}(hb:lE L cs ps){c:XC}{i n:Nat}(hc:cy L i c cs n)(hpn:ps.length=n)(hn:ps.length<=1000000)(hpl:∀i,(ps.getD i []).length<=1000000000){HS:ah}(hi:HS[i]? = some (.late L)){N:Nat}(hN:HS.length=N){HS':ah}(hh:HS++[bu 3 (il .i64 (rn ps ps.length))]=HS')(hbd:Nat.blt HS'.length Mem.bound=true) :
 aA.Sound prog ⟨20,[.one c],HS,dV N (n-1) 1,HS',[i]⟩:=by
 subst hpn hN;obtain⟨c0,h0,rfl⟩:=hc.back 0 (nth [i]) rfl;refine bh [i] [i] 1 (GX hb h0 hn hpl) (by simp) (.flat hi .nil) (.flat .nil) (.flat (.flat .nil)) rfl (.cons (h0.ok (Nat.lt_succ_self 0)) .nil) (.cons rfl .nil) (iF (Nat.le_of_ble_eq_true rfl)) (dB ..) (.flat (.flat .nil)) ?_ rfl (by simp only[bD];rw[aB hi];exact hh) hbd (.inl rfl);cases il .i64 (rn ps ps.length)<;>simp[fX,aj.live,aj.own,bu]
end Go.Proofs.YthdciapjllppjaaGreat
namespace Go.Proofs.YthdciapjllppjaaGreat
open Go.ChangeShapes Go.WideShapes Go.ChangeAt Go.RowKit Go.Deep Go.Xm
structure qn where
 kind:Int
 at_:Int
 burst:Int
 odd:List Int
 mask:List Int
instance:Inhabited qn:=⟨⟨0,0,0,[],[]⟩⟩
structure qo(s:qn):Prop where
 kind:0<=s.kind/\s.kind<256
 at_:0<=s.at_/\s.at_<65536
 burst:0<=s.burst/\s.burst<65536
 odd:∀z∈s.odd,0<=z/\z<65536
 mask:∀z∈s.mask,0<=z/\z<256
structure o_ where
 kind:Int
 at_:Int
 burst:Int
 co:XC
 cm:XC
instance:Inhabited o_:=⟨⟨0,0,0,.nils,.nils⟩⟩
def kX(s:o_):List XC:=[.int .u8 s.kind,.int .u16 s.at_,.int .u16 s.burst,s.co,s.cm]
instance:zT kX 5:=⟨fun _=>rfl,by decide⟩
def pr(L:List (List XC))(l:List o_)(q:List qn):Prop:=
 l.length=q.length/\∀i,i<q.length->(l.getD i default).kind=(q.getD i default).kind/\(l.getD i default).at_=(q.getD i default).at_/\(l.getD i default).burst=(q.getD i default).burst/\cy L 0 (l.getD i default).co (il .u16 (q.getD i default).odd) (q.getD i default).odd.length/\cy L 0 (l.getD i default).cm (il .u8 (q.getD i default).mask) (q.getD i default).mask.length
def nJ:Value->Int
 | .int _ z=>z
 | _=>0
section
variable {H:Type} {enc:TypeId×Value->H} {w:World} {base:Nat} {spare:Nat->Bool} {held:Bool}
structure HX(w:World)(G:Nat->Nat->Value)(i:Nat):Prop where
 n0:∃z,G i 0 = .int .u8 z/\(Lit.int .u8 z).wf=true
 n1:∃z,G i 1 = .int .u16 z/\(Lit.int .u16 z).wf=true
 n2:∃z,G i 2 = .int .u16 z/\(Lit.int .u16 z).wf=true
 odd:pO w .u16 (G i 3)
 mask:pO w .u8 (G i 4)
set_option maxRecDepth 100000 in
theorem PW[av]{v:Value}{b0:Nat}{r:Reach}{t:TypeId}(ht:prog.underlying t=some (.slice 125))(hcell:Cell.okWide prog w r b0 t v){fuel:Nat}{x:DataW H×List MemPlace}(hf:DataW.trod enc prog w base spare held fuel t [v]=some x) :
 ∃(G:Nat->Nat->Value) (n:Nat),n<=9223372036854775807/\(∀i,i<n->HX w G i)/\((v = .slice none 0 0/\n=0)\/∃b off cap:Nat,n<=cap/\v = .slice (some ⟨b,off,none⟩) n cap/\∀i j,i<n->j<5->w.cell? ⟨b,off+(i*5+j),none⟩=some (G i j)):=by
 rcases qY ht Tryz.underlying125 (by kernel_rfl) (by kernel_rfl) hf with⟨hcs,_⟩|⟨a,len,cap,m,D,Pl,hcs,_,hlc,hcm,hm,_,hall⟩
 ·simp only[List.cons.injEq,and_true]at hcs;exact⟨fun _ _ => .nilIface,0,Nat.zero_le _,fun i hi=>absurd hi (Nat.not_lt_zero i),.inl ⟨hcs,rfl⟩⟩
 ·simp only[List.cons.injEq,and_true]at hcs;subst hcs;have hspot:=vK ht hcell;have hlm:len<=m:=by rw[hm];split<;>omega
  refine⟨fun i j=>(w.cell? ⟨a.block,a.off+(i*5+j),none⟩).getD .nilIface,len,by unfold maxLen at hcm;omega,fun i hi=>?_,.inr ⟨a.block,a.off,cap,hlc,?_,fun i j hi hj=>?_⟩⟩
  ·obtain⟨ys,n,_,_,_,hff⟩:=hall i (by omega)
   have key:∀(j:Nat) (f:Field) (k:IntKind),prog.underlying f.type=some (.int k)->(∃(v:Value) (y:DataW H×List MemPlace),w.cell? (a.add (i*5+j))=some v/\ys[j]? = some y/\DataW.trod enc prog w base spare held n f.type [v]=some y)->∃z,(w.cell? ⟨a.block,a.off+(i*5+j),none⟩).getD .nilIface = .int k z/\(Lit.int k z).wf=true:=fun j f k hk ⟨u,y,hc,_,hu⟩=>by
    obtain⟨z,hz,_,hwf⟩:=DataW.trod_int hk hu;simp only[List.cons.injEq,and_true]at hz;rw[oL hspot]at hc;rw[hc,hz];exact⟨z,rfl,hwf⟩
   have keyS:∀(j:Nat) (f:Field) (e:TypeId) (k:IntKind),prog.underlying f.type=some (.slice e)->prog.underlying e=some (.int k)->prog.cellsOf e=1->(∃(v:Value) (y:DataW H×List MemPlace),w.cell? (a.add (i*5+j))=some v/\ys[j]? = some y/\DataW.trod enc prog w base spare held n f.type [v]=some y)->pO w k ((w.cell? ⟨a.block,a.off+(i*5+j),none⟩).getD .nilIface):=fun j f e k ht he hC ⟨u,y,hc,_,hu⟩=>by
    rw[oL hspot]at hc;rw[hc];exact Gl ht he hC hu
   exact⟨key 0 _ .u8 Tryz.underlying5 (hff 0 _ rfl),key 1 _ .u16 Tryz.underlying122 (hff 1 _ rfl),key 2 _ .u16 Tryz.underlying122 (hff 2 _ rfl),keyS 3 _ _ .u16 Tryz.underlying123 Tryz.underlying122 (by kernel_rfl) (hff 3 _ rfl),keyS 4 _ _ .u8 Tryz.underlying32 Tryz.underlying5 (by kernel_rfl) (hff 4 _ rfl)⟩
  ·obtain⟨b,o,s⟩:=a;simp only at hspot;subst hspot;rfl
  ·obtain⟨ys,n,_,_,_,hff⟩:=hall i (by omega)
   have key:∀(f:Field),(∃(v:Value) (y:DataW H×List MemPlace),w.cell? (a.add (i*5+j))=some v/\ys[j]? = some y/\DataW.trod enc prog w base spare held n f.type [v]=some y)->w.cell? ⟨a.block,a.off+(i*5+j),none⟩=some ((w.cell? ⟨a.block,a.off+(i*5+j),none⟩).getD .nilIface):=fun f ⟨u,y,hc,_,_⟩=>by
    rw[oL hspot]at hc;rw[hc];rfl
   have hj:j=0\/j=1\/j=2\/j=3\/j=4:=by omega
   rcases hj with rfl|rfl|rfl|rfl|rfl
   ·exact key _ (hff 0 _ rfl)
   ·exact key _ (hff 1 _ rfl)
   ·exact key _ (hff 2 _ rfl)
   ·exact key _ (hff 3 _ rfl)
   ·exact key _ (hff 4 _ rfl)
end
def Km(w:World)(G:Nat->Nat->Value)(i:Nat):qn:=⟨nJ (G i 0),nJ (G i 1),nJ (G i 2),Ex w (G i 3),Ex w (G i 4)⟩
def PI(w:World)(G:Nat->Nat->Value)(n:Nat):List qn:=(List.range n).map (Km w G)
theorem y5(w:World)(G:Nat->Nat->Value)(n:Nat):(PI w G n).length=n:=by simp[PI]
theorem Kc(w:World)(G:Nat->Nat->Value){n i:Nat}(hi:i<n):(PI w G n).getD i default=Km w G i:=by
 unfold PI;rw[List.getD_eq_getElem?_getD,List.getElem?_map,List.getElem?_range hi];rfl
theorem PX{w:World}{G:Nat->Nat->Value}{i:Nat}(h:HX w G i):qo (Km w G i):=by
 have b8:∀z,(Lit.int .u8 z).wf=true->0<=z/\z<256:=fun z h=>by
  have:=bounds_u8 h;omega
 have b16:∀z,(Lit.int .u16 z).wf=true->0<=z/\z<65536:=fun z h=>by
  have:=bounds_u16 h;omega
 obtain⟨⟨z0,e0,w0⟩,⟨z1,e1,w1⟩,⟨z2,e2,w2⟩,h3,h4⟩:=h;exact⟨by show 0<=nJ (G i 0)/\nJ (G i 0)<256;rw[e0];exact b8 _ w0,by show 0<=nJ (G i 1)/\nJ (G i 1)<65536;rw[e1];exact b16 _ w1,by show 0<=nJ (G i 2)/\nJ (G i 2)<65536;rw[e2];exact b16 _ w2,fun z hz=>b16 z (Ok h3 z hz),fun z hz=>b8 z (Ok h4 z hz)⟩
def DL(G:Nat->Nat->Value)(v:Value)(n k:Nat):Value:=if k<2*n then G (k/2) (3+k%2)else v
abbrev qw(G:Nat->Nat->Value)(v:Value)(n:Nat):av:=⟨fun k=>Bh (DL G v n k),fun k=>by
 rcases Nq (DL G v n k)with e|⟨a,cap,e⟩<;>rw[e]<;>exact⟨rfl,rfl⟩⟩
def HN(w:World)(G:Nat->Nat->Value)(n:Nat):List o_:=(List.range n).map fun i=>⟨nJ (G i 0),nJ (G i 1),nJ (G i 2),zQ (2*i) (jK (G i 3)),zQ (2*i+1) (jK (G i 4))⟩
def QZ(w:World)(G:Nat->Nat->Value)(k:Nat):List XC:=if k%2=0 then il .u16 (Ex w (G (k/2) 3))else il .u8 (Ex w (G (k/2) 4))
def HL(w:World)(G:Nat->Nat->Value)(n:Nat):List (List XC):=(List.range (2*n)).map (QZ w G)++[fl kX (HN w G n)]
theorem yp(w:World)(G:Nat->Nat->Value)(n:Nat):(HL w G n).length=2*n+1:=by simp[HL]
theorem yn(w:World)(G:Nat->Nat->Value){n k:Nat}(hk:k<2*n):(HL w G n)[k]? = some (QZ w G k):=by
 unfold HL;rw[List.getElem?_append_left (by simpa using hk),List.getElem?_map,List.getElem?_range hk];rfl
theorem ua(w:World)(G:Nat->Nat->Value)(n:Nat):(HL w G n)[2*n]? = some (fl kX (HN w G n)):=by
 unfold HL;rw[List.getElem?_append_right (by simp),List.length_map,List.length_range,Nat.sub_self];rfl
theorem yR(w:World)(G:Nat->Nat->Value)(n:Nat):(HN w G n).length=n:=by simp[HN]
theorem Jl(w:World)(G:Nat->Nat->Value){n i:Nat}(hi:i<n):(HN w G n).getD i default=⟨nJ (G i 0),nJ (G i 1),nJ (G i 2),zQ (2*i) (jK (G i 3)),zQ (2*i+1) (jK (G i 4))⟩:=by
 unfold HN;rw[List.getD_eq_getElem?_getD,List.getElem?_map,List.getElem?_range hi];rfl
theorem Tj[av](w:World)(G:Nat->Nat->Value)(n:Nat):pr (HL w G n) (HN w G n) (PI w G n):=by
 refine⟨by rw[yR,y5],fun i hi=>?_⟩;rw[y5]at hi;rw[Jl w G hi,Kc w G hi];refine⟨rfl,rfl,rfl,?_,?_⟩
 ·have h:=yn w G (n:=n) (k:=2*i) (by omega);unfold QZ at h;rw[if_pos (by omega),show 2*i/2=i by omega]at h;have:=Cj (n:=jK (G i 3)) h;show cy (HL w G n) 0 (zQ (2*i) (jK (G i 3))) (il .u16 (Ex w (G i 3))) (Ex w (G i 3)).length;rw[Ey];exact this
 ·have h:=yn w G (n:=n) (k:=2*i+1) (by omega);unfold QZ at h;rw[if_neg (by omega),show(2*i+1)/2=i by omega]at h;have:=Cj (n:=jK (G i 4)) h;show cy (HL w G n) 0 (zQ (2*i+1) (jK (G i 4))) (il .u8 (Ex w (G i 4))) (Ex w (G i 4)).length;rw[Ey];exact this
end Go.Proofs.YthdciapjllppjaaGreat
namespace Go.Proofs.YthdciapjllppjaaGreat
open Go.Xm
variable [av]
def oB(m:List Int)(fr i:Nat):List Int:=m.set (fr+i/8) (lK .u8 (m.getD (fr+i/8) 0) (128/2^(i%8)))
abbrev OB(lost:Bool)(n fr:Nat)(m:List Int):ah:=[.cells [.bool lost,.slice 2 0 n (.exact n)] 69 false false,.cells [.int .i64 (fr:Nat)] 3 false false,.cells (il .u8 m) 5 false false]
theorem KY(lost:Bool)(n fr i:Nat)(m:List Int)(hm:m.length=n)(hl:aR m)(hi:fr+i/8<n)(hs:n<=70000) :
 bm prog 74 [.one (.int .i64 (i:Nat)),.one (.ptr 0 0),.one (.ptr 1 0)] (OB lost n fr m) (.tup []) (OB lost n fr (oB m fr i)):=by
 have hlp:=hl ((fr:Int)+(i:Int)/8).toNat;have e1:((fr:Int)+(i:Int)/8).toNat=fr+i/8:=by omega
 have e2:((i:Int)%8).toNat=i%8:=by omega
 refine cO Tryz.func74 ?_
 repeat' (first|refine zz ?_|refine zx (fun _=>?_) (fun _=>?_)|fail)
 show aE _ _ _ _ _ _ _ _;refine kV [0,1,2] ?_;rfl
theorem x5(m:List Int)(fr i:Nat):(oB m fr i).length=m.length:=by simp[oB]
theorem E8{HS:ah}(a b c:Nat)(hd : [a,b,c].Nodup){lost:Bool}{n fr:Nat}(i:Int){m:List Int}(ha:HS[a]? = some (.cells [.bool lost,.slice c 0 n (.exact n)] 69 false false))(hb:HS[b]? = some (.cells [.int .i64 (fr:Nat)] 3 false false))(hc:HS[c]? = some (.cells (il .u8 m) 5 false false))(hm:m.length=n)(hl:aR m)(hi0:0<=i)(hi:fr+i.toNat/8<n)(hs:n<=70000)
 {HS':ah}(hh:bD HS [a,b,c] [.cells [.bool lost,.slice c 0 n (.exact n)] 69 false false,.cells [.int .i64 (fr:Nat)] 3 false false,.cells (il .u8 (oB m fr i.toNat)) 5 false false]=HS') (hbd:Nat.blt HS'.length Mem.bound=true) :
 aA.Sound prog ⟨74,[.one (.int .i64 i),.one (.ptr a 0),.one (.ptr b 0)],HS,.tup [],HS',[a,b,c]⟩:=by
 obtain⟨j,rfl⟩:∃j:Nat,i=j:=⟨i.toNat,by omega⟩
 refine bh [a,b,c] [a,b,c] 0 (KY lost n fr j m hm hl hi hs) hd (.cons ha (.cons hb (.flat hc .nil))) (.cons (by simp[aj.bt,XC.ok]) (.cons (by simp[aj.bt,XC.ok]) (.flat .nil))) (.cons (by simp[aj.bt,XC.ok]) (.cons (by simp[aj.bt,XC.ok]) (.flat .nil))) rfl (.flat (.cons (by simp[XV.bt,XC.ok]) (.cons (by simp[XV.bt,XC.ok]) .nil))) (.flat (.cons rfl (.cons rfl .nil))) (by simp[XV.bt]) rfl (.cons rfl (.cons rfl (.flat .nil))) rfl rfl hh hbd (.inl rfl)
theorem NN:∀(x:Fin 256) (k:Fin 8),0<=lK .u8 (x.val:Int) (128/2^k.val)/\lK .u8 (x.val:Int) (128/2^k.val)<256:=by
 decide +kernel
theorem vS{m:List Int}(hl:aR m)(fr i:Nat):aR (oB m fr i):=by
 intro p;unfold oB;rw[List.getD_eq_getElem?_getD,List.getElem?_set];split
 ·split
  ·have h:=hl (fr+i/8)
   obtain⟨x,hx⟩:∃x:Fin 256,m.getD (fr+i/8) 0=(x.val:Int):=⟨⟨(m.getD (fr+i/8) 0).toNat,by omega⟩,by simp only[];omega⟩
   rw[hx];exact NN x ⟨i%8,Nat.mod_lt _ (by omega)⟩
  ·simp
 ·rw[<-List.getD_eq_getElem?_getD];exact hl p
def eI(kind at_ burst:Int)(co cm:XC):List XC:=[.int .u8 kind,.int .u16 at_,.int .u16 burst,co,cm]
def px(kind at_ burst:Int)(co cm:XC):aj := .cells (eI kind at_ burst co cm) 125 false false
theorem cu{τ : Nat->Nat}{HS:ah}{i:Nat}{l:List Nat}{hs:ah}{kind at_ burst:Int}{co cm:XC}{L:List (List XC)}{us vs:List XC}{n n':Nat}(hco:cy L 0 co us n)(hcm:cy L 0 cm vs n')(h:HS[i]? = some (px kind at_ burst co cm))(h0 : τ 0=0)(r:af τ HS l hs):af τ HS (i::l) (px kind at_ burst co cm::hs):=by
 refine af.cons ?_ r;rw[h];simp only[px,eI,aj.aC,List.map_cons,List.map_nil,hco.id h0,hcm.id h0];rfl
theorem lV{kind at_ burst:Int}{co cm:XC}{L:List (List XC)}{us vs:List XC}{n n' m:Nat}(hco:cy L 0 co us n)(hcm:cy L 0 cm vs n')(h:Nat.ble 1 m=true):(px kind at_ burst co cm).bt m:=by
 have h:=Nat.le_of_ble_eq_true h;intro c hc;simp only[eI,List.mem_cons,List.not_mem_nil,or_false]at hc
 rcases hc with rfl|rfl|rfl|rfl|rfl
 ·trivial
 ·trivial
 ·trivial
 ·exact hco.ok (by omega)
 ·exact hcm.ok (by omega)
theorem Ct(kind at_ burst:Int)(co cm:XC){L:List (List XC)}{od mk:List Int}(hco:cy L 0 co (il .u16 od) od.length)(hcm:cy L 0 cm (il .u8 mk) mk.length)(hk:0<=kind/\kind<256)(hk5:kind%8<5)(a b:Nat)(ha:1<=a/\a<=30000)(hb:1<=b/\b<=30000) :
 bm prog 38 [.agg (eI kind at_ burst co cm),.one (.int .i64 (a:Nat)),.one (.int .i64 (b:Nat))] [.late L] (.agg [.bool (decide (kind%8=4)),.nils]) [.late L]:=by
 have hco2:=hco.ok (Nat.lt_succ_self 0);have hcm2:=hcm.ok (Nat.lt_succ_self 0);refine cO Tryz.func38 ?_
 repeat' (first|refine zz ?_|refine zx (fun _=>?_) (fun _=>?_)|fail)
 ·rename_i h;rw[decide_eq_true h];show aE _ _ _ _ _ _ _ _;refine kV [0] ?_;rfl
 ·rename_i h;rw[decide_eq_false h];show aE _ _ _ _ _ _ _ _;refine kV [0] ?_;rfl
def wW(at_:Int)(a:Nat):Nat:=if at_%2=1 then a else 0
def p_(at_:Int)(a b:Nat):Nat:=if at_%2=1 then b else a
def m5(n fr size:Nat)(at1 burst:Int):Nat->List Int
 | 0=>List.replicate n 0
 | k+1=>if burst/2^k%2=1/\at1+(k:Nat)<size*8 then oB (m5 n fr size at1 burst k) fr (at1+(k:Nat)).toNat else m5 n fr size at1 burst k
theorem uV(n fr size:Nat)(at1 burst:Int):∀k,(m5 n fr size at1 burst k).length=n
 | 0=>by simp[m5]
 | k+1=>by
   unfold m5;split
   ·rw[x5,uV]
   ·exact uV ..
theorem Be(n:Nat):aR (List.replicate n 0):=fun p=>by
 rw[List.getD_eq_getElem?_getD,List.getElem?_replicate];split<;>simp
theorem tL(n fr size:Nat)(at1 burst:Int):∀k,aR (m5 n fr size at1 burst k)
 | 0=>Be n
 | k+1=>by
   unfold m5;split
   ·exact vS (tL _ _ _ _ _ _) _ _
   ·exact tL _ _ _ _ _ _
abbrev Su(at_:Int)(a b:Nat):Int:=at_/2%((p_ at_ a b:Nat)*8)
theorem FR(kind at_ burst:Int)(co cm:XC){L:List (List XC)}{od mk:List Int}(hco:cy L 0 co (il .u16 od) od.length)(hcm:cy L 0 cm (il .u8 mk) mk.length)(hk:0<=kind/\kind<256)(hk5:kind%8=5)(hat:0<=at_/\at_<65536)(hbu:0<=burst/\burst<65536)(a b:Nat)(ha:1<=a/\a<=30000)(hb:1<=b/\b<=30000) :
 bm prog 38 [.agg (eI kind at_ burst co cm),.one (.int .i64 (a:Nat)),.one (.int .i64 (b:Nat))] [.late L] (.agg [.bool false,.slice 1 0 (a+b) (.exact (a+b))]) [.late L,.cells (il .u8 (m5 (a+b) (wW at_ a) (p_ at_ a b) (Su at_ a b) burst 16)) 5 false false]:=by
 have hco2:=hco.ok (Nat.lt_succ_self 0);have hcm2:=hcm.ok (Nat.lt_succ_self 0);refine cO Tryz.func38 ?_;have hfz:wW at_ a+p_ at_ a b<=a+b/\1<=p_ at_ a b/\p_ at_ a b<=30000:=by unfold wW p_;split<;>omega
 generalize hfr:wW at_ a=fr at hfz ⊢;generalize hsz:p_ at_ a b=sz at hfz ⊢;have hm0:=Int.emod_nonneg (at_/2) (show(sz:Int)*8≠0 by omega);have hm1:=Int.emod_lt_of_pos (at_/2) (show(0:Int)<(sz:Int)*8 by omega)
 repeat' (first|refine WX.xF 10 (σ:=Unit) (fun _=>[(3,.one (.ptr 1 0)),(6,.one (.ptr 2 0)),(7,.one (.ptr 3 0)),(9,.one (.ptr 5 0)),(10,.one (.int .i64 (sz:Nat)))]) (fun _=>[.late L,px kind at_ burst co cm,.cells [.bool false,.nils] 69 false false,.cells [.bool false,.slice 4 0 (a+b) (.exact (a+b))] 69 false false,.cells (il .u8 (List.replicate (a+b) 0)) 5 false false,.cells [.int .i64 (fr:Nat)] 3 false false]) (fun _=>True) (fun _ _=>(mZ (objs:=by repeat' (first|exact ak.nil|refine ak.cons (lV hco hcm rfl) ?_|refine kz ?_)))) ?_ (fun _ _=>?_)|refine zz ?_|refine zx (fun _=>?_) (fun _=>?_)|fail)
 ·rename_i h;have f1:fr=a:=hfr.symm.trans (if_pos h);have f2:sz=b:=hsz.symm.trans (if_pos h);subst f1 f2
  (first|refine tm ?_|skip)
  exact⟨(),_,trivial,(bq [0,1,2,3,4,5] (obj:=by(repeat' (first|exact af.nil|refine cu hco hcm rfl rfl ?_|refine oz ?_));first|done|fail))⟩
 ·rename_i h;have f1:fr=0:=hfr.symm.trans (if_neg h);have f2:sz=a:=hsz.symm.trans (if_neg h);subst f1 f2
  (first|refine tm ?_|skip)
  exact⟨(),_,trivial,(bq [0,1,2,3,4,5] (obj:=by(repeat' (first|exact af.nil|refine cu hco hcm rfl rfl ?_|refine oz ?_));first|done|fail))⟩
 ·refine WX.bN (σ:=Nat) (fun k=>[(3,.one (.ptr 1 0)),(6,.one (.ptr 2 0)),(7,.one (.ptr 3 0)),(10,.one (.int .i64 (sz:Nat))),(11,.one (.bind (.bind (.fn 74) (.ptr 3 0)) (.ptr 5 0))),(12,.one (.int .i64 (at_/2%((sz:Int)*8)))),(67,.one (.int .i64 (k:Nat)))]) (fun k=>[.late L,px kind at_ burst co cm,.cells [.bool false,.nils] 69 false false,.cells [.bool false,.slice 4 0 (a+b) (.exact (a+b))] 69 false false,.cells (il .u8 (m5 (a+b) fr sz (at_/2%((sz:Int)*8)) burst k)) 5 false false,.cells [.int .i64 (fr:Nat)] 3 false false]) (fun k=>k<=16) (fun k=>16-k) 0 (Nat.zero_le _) (fun k _=>(mZ (objs:=by repeat' (first|exact ak.nil|refine ak.cons (lV hco hcm rfl) ?_|refine kz ?_)))) (bq [0,1,2,3,4,5] (obj:=by(repeat' (first|exact af.nil|refine cu hco hcm rfl rfl ?_|refine oz ?_));first|done|fail)) ?_;intro k hk16 ih;have hml:=uV (a+b) fr sz (at_/2%((sz:Int)*8)) burst k;have hmb:=tL (a+b) fr sz (at_/2%((sz:Int)*8)) burst k
  repeat' (first
   |(refine qz ?_;first
    |refine cl ?_ (hi:=by exact E8 3 5 4 (by decide) _ rfl rfl rfl hml hmb (by omega) (by omega) (by omega) nA rfl))
   |refine zz ?_|refine zx (fun _=>?_) (fun _=>?_)|fail)
  ·rename_i h1 h2 h3;have e1:m5 (a+b) fr sz (at_/2%((sz:Int)*8)) burst (k+1)=oB (m5 (a+b) fr sz (at_/2%((sz:Int)*8)) burst k) fr (at_/2%((sz:Int)*8)+(k:Nat)).toNat:=if_pos ⟨h2,h3⟩;exact ih (k+1) _ _ _ (bq [0,1,2,3,4,5] (obj:=by(repeat' (first|exact af.nil|refine af.flat (by rw[e1];rfl) ?_|refine cu hco hcm rfl rfl ?_|refine oz ?_));first|done|fail)) (by omega) (by omega)
  ·rename_i h1 h2 h3;have e1:m5 (a+b) fr sz (at_/2%((sz:Int)*8)) burst (k+1)=m5 (a+b) fr sz (at_/2%((sz:Int)*8)) burst k:=if_neg (fun h=>h3 h.2);exact ih (k+1) _ _ _ (bq [0,1,2,3,4,5] (obj:=by(repeat' (first|exact af.nil|refine af.flat (by rw[e1];rfl) ?_|refine cu hco hcm rfl rfl ?_|refine oz ?_));first|done|fail)) (by omega) (by omega)
  ·rename_i h1 h2;have e1:m5 (a+b) fr sz (at_/2%((sz:Int)*8)) burst (k+1)=m5 (a+b) fr sz (at_/2%((sz:Int)*8)) burst k:=if_neg (fun h=>h2 h.1);exact ih (k+1) _ _ _ (bq [0,1,2,3,4,5] (obj:=by(repeat' (first|exact af.nil|refine af.flat (by rw[e1];rfl) ?_|refine cu hco hcm rfl rfl ?_|refine oz ?_));first|done|fail)) (by omega) (by omega)
  ·obtain rfl:k=16:=by omega
   rw[show Su at_ a b=at_/2%((sz:Int)*8) by unfold Su;rw[hsz]];show aE _ _ _ _ _ _ _ _;refine kV [0,4] ?_;rfl
abbrev C5(M:List (Int×Bool))(z:Int):Bool:=(dz M z).getD false
def kB(q:List Int)(w:Int):Nat->List (Int×Bool)×Int
 | 0=>([],0)
 | i+1=>if C5 (kB q w i).1 (q.getD i 0%w)then kB q w i else(sq (kB q w i).1 (q.getD i 0%w) true,(kB q w i).2+1)
theorem xW(q:List Int)(w:Int):∀i,0<=(kB q w i).2/\(kB q w i).2<=i
 | 0=>by simp[kB]
 | i+1=>by
   have ih:=xW q w i;unfold kB;split
   ·omega
   ·simp only[];omega
def rB(M:List (Int×Bool))(many at0:Int)(i:Nat):Bool:=C5 M i&&(decide (many%2=1)||decide ((i:Int)≠at0))
def m6(n fr:Nat)(M:List (Int×Bool))(many at0:Int):Nat->List Int
 | 0=>List.replicate n 0
 | i+1=>if rB M many at0 i then oB (m6 n fr M many at0 i) fr i else m6 n fr M many at0 i
theorem uW(n fr:Nat)(M:List (Int×Bool))(many at0:Int):∀k,(m6 n fr M many at0 k).length=n
 | 0=>by simp[m6]
 | k+1=>by
   unfold m6;split
   ·rw[x5,uW]
   ·exact uW ..
theorem tM(n fr:Nat)(M:List (Int×Bool))(many at0:Int):∀k,aR (m6 n fr M many at0 k)
 | 0=>Be n
 | k+1=>by
   unfold m6;split
   ·exact vS (tM _ _ _ _ _ _) _ _
   ·exact tM _ _ _ _ _ _
def f6(at_:Int)(od:List Int)(n fr sz:Nat):List Int:=
 m6 n fr (kB (at_::od) ((sz:Int)*8) (1+od.length)).1 (kB (at_::od) ((sz:Int)*8) (1+od.length)).2 (at_%((sz:Int)*8)) (sz*8)
theorem FT(kind at_ burst:Int)(co cm:XC){L:List (List XC)}{od mk:List Int}(hco:cy L 0 co (il .u16 od) od.length)(hcm:cy L 0 cm (il .u8 mk) mk.length)(hk:0<=kind/\kind<256)(hk6:kind%8=6)(hat:0<=at_/\at_<65536)(hod:∀p,0<=od.getD p 0/\od.getD p 0<65536)(hol:od.length<=30)(a b:Nat)(ha:1<=a/\a<=30000)(hb:1<=b/\b<=30000) :
 bm prog 38 [.agg (eI kind at_ burst co cm),.one (.int .i64 (a:Nat)),.one (.int .i64 (b:Nat))] [.late L] (.agg [.bool false,.slice 1 0 (a+b) (.exact (a+b))]) [.late L,.cells (il .u8 (f6 at_ od (a+b) (wW at_ a) (p_ at_ a b))) 5 false false]:=by
 have hco2:=hco.ok (Nat.lt_succ_self 0);have hcm2:=hcm.ok (Nat.lt_succ_self 0);refine cO Tryz.func38 ?_;have hfz:wW at_ a+p_ at_ a b<=a+b/\1<=p_ at_ a b/\p_ at_ a b<=30000:=by unfold wW p_;split<;>omega
 generalize hfr:wW at_ a=fr at hfz ⊢;generalize hsz:p_ at_ a b=sz at hfz ⊢
 have hqb:∀p,0<=(at_::od).getD p 0/\(at_::od).getD p 0<65536:=fun p=>by
  cases p with
  | zero=>exact hat
  | succ p=>exact hod p
 repeat' (first
  |(refine qz ?_;first
   |refine LX rfl (tW rfl hco rfl) (fun _=>?_) (fun _=>?_))
  |refine WX.xF 10 (σ:=Unit) (fun _=>[(3,.one (.ptr 1 0)),(6,.one (.ptr 2 0)),(7,.one (.ptr 3 0)),(9,.one (.ptr 5 0)),(10,.one (.int .i64 (sz:Nat)))]) (fun _=>[.late L,px kind at_ burst co cm,.cells [.bool false,.nils] 69 false false,.cells [.bool false,.slice 4 0 (a+b) (.exact (a+b))] 69 false false,.cells (il .u8 (List.replicate (a+b) 0)) 5 false false,.cells [.int .i64 (fr:Nat)] 3 false false]) (fun _=>True) (fun _ _=>(mZ (objs:=by repeat' (first|exact ak.nil|refine ak.cons (lV hco hcm rfl) ?_|refine kz ?_)))) ?_ (fun _ _=>?_)|refine WX.xE 24 (σ:=nQ×Bool) (fun s=>[(3,.one (.ptr 1 0)),(6,.one (.ptr 2 0)),(7,.one (.ptr 3 0)),(10,.one (.int .i64 (sz:Nat))),(11,.one (.bind (.bind (.fn 74) (.ptr 3 0)) (.ptr 5 0))),(14,.one (.map 6)),(15,.one (.int .i64 0)),(97,.one (.slice 7 0 (1+od.length) s.1)),(98,.one (.int .i64 ((1+od.length:Nat)))),(99,.one (.int .i64 0))]) (fun s=>[.late L,px kind at_ burst co cm,.cells [.bool false,.nils] 69 false false,.cells [.bool false,.slice 4 0 (a+b) (.exact (a+b))] 69 false false,.cells (il .u8 (List.replicate (a+b) 0)) 5 false false,.cells [.int .i64 (fr:Nat)] 3 false false,.map (gS (kI .i64) vB []),.cells (il .u16 (at_::od)) 122 s.2 false]) (fun _=>True) (fun _ _=>(mZ (objs:=by repeat' (first|exact ak.nil|refine ak.cons (lV hco hcm rfl) ?_|refine kz ?_)))) ?_ (fun _ _=>?_)|refine zz ?_|refine zx (fun _=>?_) (fun _=>?_)|fail)
 ·rename_i h;have f1:fr=a:=hfr.symm.trans (if_pos h);have f2:sz=b:=hsz.symm.trans (if_pos h);subst f1 f2
  (first|refine tm ?_|skip)
  exact⟨(),_,trivial,(bq [0,1,2,3,4,5] (obj:=by(repeat' (first|exact af.nil|refine cu hco hcm rfl rfl ?_|refine oz ?_));first|done|fail))⟩
 ·rename_i h;have f1:fr=0:=hfr.symm.trans (if_neg h);have f2:sz=a:=hsz.symm.trans (if_neg h);subst f1 f2
  (first|refine tm ?_|skip)
  exact⟨(),_,trivial,(bq [0,1,2,3,4,5] (obj:=by(repeat' (first|exact af.nil|refine cu hco hcm rfl rfl ?_|refine oz ?_));first|done|fail))⟩
 ·rename_i h;have f1:od = []:=List.length_eq_zero_iff.1 h;subst f1
  (first|refine tm ?_|skip)
  exact⟨(.exact 1,false),_,trivial,(bq [0,1,2,3,4,5,6,7] (obj:=by(repeat' (first|exact af.nil|refine cu hco hcm rfl rfl ?_|refine oz ?_));first|done|fail))⟩
 ·rename_i h
  (first|refine tm ?_|skip)
  exact⟨(.toEnd 1,true),_,trivial,(bq [0,1,2,3,4,5,6,8] (obj:=by(repeat' (first|exact af.nil|refine cu hco hcm rfl rfl ?_|refine oz ?_));first|done|fail))⟩
 ·rename_i _ _ s _;obtain⟨cap,opn⟩:=s;refine WX.bN (σ:=Nat×List (Int×Bool)×Int) (fun s=>[(3,.one (.ptr 1 0)),(6,.one (.ptr 2 0)),(7,.one (.ptr 3 0)),(10,.one (.int .i64 (sz:Nat))),(11,.one (.bind (.bind (.fn 74) (.ptr 3 0)) (.ptr 5 0))),(14,.one (.map 6)),(97,.one (.slice 7 0 (1+od.length) cap)),(98,.one (.int .i64 ((1+od.length:Nat)))),(15,.one (.int .i64 s.2.2)),(99,.one (.int .i64 (s.1:Nat)))]) (fun s=>[.late L,px kind at_ burst co cm,.cells [.bool false,.nils] 69 false false,.cells [.bool false,.slice 4 0 (a+b) (.exact (a+b))] 69 false false,.cells (il .u8 (List.replicate (a+b) 0)) 5 false false,.cells [.int .i64 (fr:Nat)] 3 false false,.map (gS (kI .i64) vB s.2.1),.cells (il .u16 (at_::od)) 122 opn false]) (fun s=>s.1<=1+od.length/\s.2=kB (at_::od) ((sz:Int)*8) s.1) (fun s=>1+od.length-s.1) (0,[],0) ⟨Nat.zero_le _,rfl⟩ (fun s _=>(mZ (objs:=by repeat' (first|exact ak.nil|refine ak.cons (lV hco hcm rfl) ?_|refine kz ?_)))) (bq [0,1,2,3,4,5,6,7] (obj:=by(repeat' (first|exact af.nil|refine cu hco hcm rfl rfl ?_|refine oz ?_));first|done|fail)) ?_;intro s ⟨hj,hsn⟩ ih;have hsb:=xW (at_::od) ((sz:Int)*8) s.1;rw[<-hsn]at hsb;have hqj:=hqb s.1;have hqm:=Int.emod_nonneg ((at_::od).getD s.1 0) (show(sz:Int)*8≠0 by omega);have hqm1:=Int.emod_lt_of_pos ((at_::od).getD s.1 0) (show(0:Int)<(sz:Int)*8 by omega);have hlc:(at_::od).length=1+od.length:=by simp;omega
  repeat' (first|refine zz ?_|refine zx (fun _=>?_) (fun _=>?_)|fail)
  ·rename_i h1 h2;refine ih (s.1+1,s.2) _ _ _ (bq [0,1,2,3,4,5,6,7] (obj:=by(repeat' (first|exact af.nil|refine cu hco hcm rfl rfl ?_|refine oz ?_));first|done|fail)) ⟨by show s.1+1<=_;omega,?_⟩ (by show _-(s.1+1)<_;omega);show s.2=kB _ _ (s.1+1);unfold kB;rw[<-hsn];exact(if_pos h2).symm
  ·rename_i h1 h2;refine ih (s.1+1,sq s.2.1 ((at_::od).getD s.1 0%((sz:Int)*8)) true,s.2.2+1) _ _ _ (bq [0,1,2,3,4,5,6,7] (obj:=by(repeat' (first|exact af.nil|refine cu hco hcm rfl rfl ?_|refine oz ?_));first|done|fail)) ⟨by show s.1+1<=_;omega,?_⟩ (by show _-(s.1+1)<_;omega);show _=kB _ _ (s.1+1);unfold kB;rw[<-hsn];exact(if_neg (by unfold C5;rw[h2];decide)).symm
  ·have hse:s.1=1+od.length:=by omega
   rw[hse]at hsn;have hm0:=Int.emod_nonneg at_ (show(sz:Int)*8≠0 by omega);have hm1:=Int.emod_lt_of_pos at_ (show(0:Int)<(sz:Int)*8 by omega);refine WX.bN (σ:=Nat) (fun i=>[(3,.one (.ptr 1 0)),(6,.one (.ptr 2 0)),(7,.one (.ptr 3 0)),(10,.one (.int .i64 (sz:Nat))),(11,.one (.bind (.bind (.fn 74) (.ptr 3 0)) (.ptr 5 0))),(14,.one (.map 6)),(15,.one (.int .i64 s.2.2)),(118,.one (.int .i64 ((sz:Int)*8))),(119,.one (.int .i64 (i:Nat)))]) (fun i=>[.late L,px kind at_ burst co cm,.cells [.bool false,.nils] 69 false false,.cells [.bool false,.slice 4 0 (a+b) (.exact (a+b))] 69 false false,.cells (il .u8 (m6 (a+b) fr s.2.1 s.2.2 (at_%((sz:Int)*8)) i)) 5 false false,.cells [.int .i64 (fr:Nat)] 3 false false,.map (gS (kI .i64) vB s.2.1)]) (fun i=>i<=sz*8) (fun i=>sz*8-i) 0 (Nat.zero_le _) (fun i _=>(mZ (objs:=by repeat' (first|exact ak.nil|refine ak.cons (lV hco hcm rfl) ?_|refine kz ?_)))) (bq [0,1,2,3,4,5,6] (obj:=by(repeat' (first|exact af.nil|refine cu hco hcm rfl rfl ?_|refine oz ?_));first|done|fail)) ?_;intro i hi ih2;clear ih;have hml:=uW (a+b) fr s.2.1 s.2.2 (at_%((sz:Int)*8)) i;have hmb:=tM (a+b) fr s.2.1 s.2.2 (at_%((sz:Int)*8)) i
   repeat' (first
    |(refine qz ?_;first
     |refine cl ?_ (hi:=by exact E8 3 5 4 (by decide) _ rfl rfl rfl hml hmb (by omega) (by omega) (by omega) nA rfl))
    |refine zz ?_|refine zx (fun _=>?_) (fun _=>?_)|fail)
   ·rename_i h1 h2 h3;have e0:rB s.2.1 s.2.2 (at_%((sz:Int)*8)) i=true:=by simp only[rB,C5,h2,decide_eq_true h3,Bool.true_or,Bool.and_self]
    have e1:m6 (a+b) fr s.2.1 s.2.2 (at_%((sz:Int)*8)) (i+1)=oB (m6 (a+b) fr s.2.1 s.2.2 (at_%((sz:Int)*8)) i) fr i:=if_pos e0;exact ih2 (i+1) _ _ _ (bq [0,1,2,3,4,5,6] (obj:=by(repeat' (first|exact af.nil|refine af.flat (by rw[e1];rfl) ?_|refine cu hco hcm rfl rfl ?_|refine oz ?_));first|done|fail)) (by omega) (by omega)
   ·rename_i h1 h2 h3 h4;have e0:rB s.2.1 s.2.2 (at_%((sz:Int)*8)) i=true:=by simp only[rB,C5,h2,decide_eq_true h4,Bool.or_true,Bool.and_self]
    have e1:m6 (a+b) fr s.2.1 s.2.2 (at_%((sz:Int)*8)) (i+1)=oB (m6 (a+b) fr s.2.1 s.2.2 (at_%((sz:Int)*8)) i) fr i:=if_pos e0;exact ih2 (i+1) _ _ _ (bq [0,1,2,3,4,5,6] (obj:=by(repeat' (first|exact af.nil|refine af.flat (by rw[e1];rfl) ?_|refine cu hco hcm rfl rfl ?_|refine oz ?_));first|done|fail)) (by omega) (by omega)
   ·rename_i h1 h2 h3 h4;have e0:¬rB s.2.1 s.2.2 (at_%((sz:Int)*8)) i=true:=by simp only[rB,C5,h2,decide_eq_false h3,decide_eq_false h4];decide
    have e1:m6 (a+b) fr s.2.1 s.2.2 (at_%((sz:Int)*8)) (i+1)=m6 (a+b) fr s.2.1 s.2.2 (at_%((sz:Int)*8)) i:=if_neg e0;exact ih2 (i+1) _ _ _ (bq [0,1,2,3,4,5,6] (obj:=by(repeat' (first|exact af.nil|refine af.flat (by rw[e1];rfl) ?_|refine cu hco hcm rfl rfl ?_|refine oz ?_));first|done|fail)) (by omega) (by omega)
   ·rename_i h1 h2;have e0:¬rB s.2.1 s.2.2 (at_%((sz:Int)*8)) i=true:=by simp only[rB,C5,h2,Bool.false_and];decide
    have e1:m6 (a+b) fr s.2.1 s.2.2 (at_%((sz:Int)*8)) (i+1)=m6 (a+b) fr s.2.1 s.2.2 (at_%((sz:Int)*8)) i:=if_neg e0;exact ih2 (i+1) _ _ _ (bq [0,1,2,3,4,5,6] (obj:=by(repeat' (first|exact af.nil|refine af.flat (by rw[e1];rfl) ?_|refine cu hco hcm rfl rfl ?_|refine oz ?_));first|done|fail)) (by omega) (by omega)
   ·obtain rfl:i=sz*8:=by omega
    unfold f6;rw[<-hsn];show aE _ _ _ _ _ _ _ _;refine kV [0,4] ?_;rfl
end Go.Proofs.YthdciapjllppjaaGreat
