/-
  A part of the proof: WkJ, Back0, Back1.
-/
import Derived.Test.YthdciapjllppjaaGreatWbN
import Derived.Test.YthdciapjllppjaaGreatWbQ
import Derived.Test.YthdciapjllppjaaGreatWbZC
import Derived.Test.YthdciapjllppjaaGreatWbZD
set_option maxRecDepth 10000
set_option maxHeartbeats 8000000
set_option linter.unusedVariables false
set_option linter.unusedSectionVars false
set_option linter.unusedSimpArgs false
open Go.Proofs.Tryz (prog)
namespace Go.Proofs.YthdciapjllppjaaGreat
open Go.Xm
variable [aq]
structure EW(b:List Int)(n i:Nat)(h:Hd)(y:Nat):Prop where
 ok:lE h
 tab:∀j,j<64->(0<=h.a j/\h.a j<=255)/\(0<=h.b j/\h.b j<=255)
 no:h.w=false->∀j,j<64->h.a j=0/\h.b j=0
 len:(hZ h).length=y
 fit:y<=n-i
 is:∀j,j<y->b.getD (i+j) 0=(hZ h).getD j 0
 fin:(findF (dB b i) (n-i) 3=none/\n-i=y)\/findF (dB b i) (n-i) 3=some y
theorem EB(h h':Hd)(s:Bool)(c:XC)(p w:Int):(gV h s c p w).take 0++b9 h'++(gV h s c p w).drop (0+131)=gV h' s c p w:=by
 unfold gV;rw[List.take_zero,List.nil_append,Nat.zero_add,List.drop_left' (aF h)]
theorem o7{τ : Nat->Nat}{HS:aj}{i:Nat}{ls:List Nat}{hs:aj}{h:Hd}{s:Bool}{c c':XC}{p w p' w':Int}{e:TypeId}{x z:Bool}(hc:c'.aC τ = c)(hi:HS[i]? = some (.cells (gV h s c p w) e x z))(hp:p=p')(hw:w=w')(r:ae τ HS ls hs):ae τ HS (i::ls) (.cells (gV h s c' p' w') e x z::hs):=by
 subst hp hw;refine ae.cons ?_ r;rw[hi];simp only[gV,ak.aC,List.map_append,mM,List.map_cons,List.map_nil,hc];rfl
theorem Kt{τ : Nat->Nat}{HS:aj}{i:Nat}{ls:List Nat}{hs:aj}{h:Hd}{s:Bool}{k z:Nat}{p w p' w':Int}{e:TypeId}{x y:Bool}(hi:HS[i]? = some (.cells (gV h s .nils p w) e x y))(hp:p=p')(hw:w=w')(r:ae τ HS ls hs):ae τ HS (i::ls) (.cells (gV h s (eE k 0 z) p' w') e x y::hs):=o7 rfl hi hp hw r
theorem sc{h:Hd}{s:Bool}{c:XC}{p w:Int}{e:TypeId}{x z:Bool}{n:Nat}(hc:c.ok n):(ak.cells (gV h s c p w) e x z).bK n:=fun y hy=>by
 rcases List.mem_append.1 hy with hy|hy
 ·exact XC.aY (List.all_eq_true.1 (cW h) y hy) n
 ·simp only[List.mem_cons,List.not_mem_nil,or_false]at hy
  rcases hy with rfl|rfl|rfl|rfl
  ·trivial
  ·exact hc
  ·trivial
  ·trivial
theorem MZ{g m:Nat}{A B:XC}(h:Hd)(s:Bool)(p w:Int):dP g m A B (gV h s A p w) (gV h s B p w):=
 dP.app (.same fun c hc=>XC.gv (XC.aY (List.all_eq_true.1 (cW h) c hc) 0)) (.cons (.same trivial) (.cons .Ca (.cons (.same trivial) (.cons (.same trivial) (.same fun _ h=>nomatch h)))))
theorem tI{h:Hd}{s:Bool}{c:XC}{p w:Int}{g m:Nat}(hc:c.mw g m):∀x∈gV h s c p w,x.mw g m:=fun y hy=>by
 rcases List.mem_append.1 hy with hy|hy
 ·exact XC.gv (XC.aY (List.all_eq_true.1 (cW h) y hy) 0)
 ·simp only[List.mem_cons,List.not_mem_nil,or_false]at hy
  rcases hy with rfl|rfl|rfl|rfl
  ·trivial
  ·exact hc
  ·trivial
  ·trivial
theorem sd{h:Hd}{s:Bool}{c:XC}{p w:Int}{n:Nat}(hc:c.ok n):(XV.agg (gV h s c p w)).bK n:=sc (e:=0) (x:=false) (z:=false) hc
theorem o8{h:Hd}{s:Bool}{c c':XC}{p w:Int}{τ : Nat->Nat}(hc:c.aC τ = c'):(XV.agg (gV h s c p w)).aC τ = .agg (gV h s c' p w):=by
 subst hc;show XV.agg _=_;simp only[gV,List.map_append,mM,List.map_cons,List.map_nil];rfl
theorem yp(h:Hd){g m:Nat}:∀x∈b9 h,x.mw g m:=fun y hy=>XC.gv (XC.aY (List.all_eq_true.1 (cW h) y hy) 0)
theorem AS{τ : Nat->Nat}{HS:aj}{i:Nat}{ls:List Nat}{hs:aj}{vs:List XC}{e:TypeId}{g m:Nat}(hl:∀c∈vs,c.lL m=true)(hi:HS[i]? = some (bU e (vs.map (·.self g))))(hg : τ g=g)(r:ae τ HS ls hs):ae τ HS (i::ls) (bU e (vs.map (·.self g))::hs):=by
 refine ae.cons ?_ r;rw[hi]
 cases hv:vs.map (·.self g)with
 | nil=>rfl
 | cons c r=>
   have:=rY hl g τ;rw[hg,hv]at this;show some (ak.cells (c::r) e true false)=some (.cells ((c::r).map (·.aC τ)) e true false);rw[this]
theorem ug{g:Nat->Int}:∀(k i r:Nat),uf g k i=some r->i<=r/\r<i+k/\g r=0/\g (r+1)=0/\g (r+2)=1
 | 0,_,_,h=>by cases h
 | k + 1,i,r,h=>by
   rw[uf]at h
   by_cases hg:g i=0/\g (i+1)=0/\g (i+2)=1
   ·rw[if_pos hg]at h;cases h;exact⟨Nat.le_refl _,by omega,hg⟩
   ·rw[if_neg hg]at h;have:=ug k (i+1) r h;exact⟨by omega,by omega,this.2.2⟩
theorem Ly{b:List Int}{n a i:Nat}(h:findF (dB b 0) n a=some i):dB b (0+i) 0=0/\dB b (0+i) 1=0/\dB b (0+i) 2=1:=by
 have:=(ug _ _ _ h).2.2;simp only[dB,Nat.zero_add,Nat.add_zero]at this ⊢;exact this
theorem A9{g m:Nat}{A B X:XC}{p:Ph}{f c z:Int}(hX:X.mw g m):dP g m A B (CY p f c A X z) (CY p f c B X z):=by
 exact .cons (.same trivial) (.cons (.same trivial) (.cons (.same trivial) (.cons (.same trivial) (.cons (.same trivial) (.cons (.same trivial) (.cons .Ca (.cons (.same hX) (.cons (.same trivial) (.cons (.same trivial) (.cons (.same trivial) (.same fun _ h=>nomatch h)))))))))))
theorem A_{g m:Nat}{A B X:XC}{p:Ph}{f c z:Int}(hX:X.mw g m):dP g m A B (CY p f c X A z) (CY p f c X B z):=by
 exact .cons (.same trivial) (.cons (.same trivial) (.cons (.same trivial) (.cons (.same trivial) (.cons (.same trivial) (.cons (.same trivial) (.cons (.same hX) (.cons .Ca (.cons (.same trivial) (.cons (.same trivial) (.cons (.same trivial) (.same fun _ h=>nomatch h)))))))))))
theorem J5{p:Ph}{f c z:Int}{A B:XC}{e:TypeId}{x y:Bool}{n:Nat}(hA:A.ok n)(hB:B.ok n):(ak.cells (CY p f c A B z) e x y).bK n:=fun c hc=>by
 simp only[CY,List.cons_append,List.nil_append,List.mem_cons,List.not_mem_nil,or_false]at hc
 rcases hc with rfl|rfl|rfl|rfl|rfl|rfl|rfl|rfl|rfl|rfl|rfl<;>first|trivial|assumption
theorem KR:aM prog 54 (A8++[.int .i64 0]):=by
 show aM prog 54 [.int .i64 0,.bool false,.bool false,.int .i64 0,.int .i64 0,.int .i64 0,.nils,.nils,.int .i64 0,.bool false,.bool false,.int .i64 0]
 infer_instance
theorem KS:aM prog 52 A8:=by infer_instance
theorem M0{W:List (List XC)}{kk n:Nat}{b:List Int}(hL:W[kk]? = some (il .u8 b))(hbl:b.length=n)(hn:n<=100000000)(hbB:bj b){h:Hd}{y i0:Nat}(hi0:findF (dB b 0) n 0=some i0)(hi1:i0+2<n)(hh:EW b n i0 h y){evs:List Ni}(hst:Steps b n (h.cols*h.rows) (i0+y) evs){F:W9}(hF:evs.foldl w9 ⟨i0+y,(i0:Nat),(i0:Nat)+1+(y:Nat),[]⟩=F){m:Nat}(hm:F.acc.length=m)(hm0:m≠0) :
 bt prog 13 [.one (.lsl 0 kk 0 n n 0)] [.late W] (.agg (gV h true (.lsl 1 (2*m) 0 m m 0) (F.passed+((n:Int)-(F.at_:Nat))) (F.work+((n:Int)-(F.at_:Nat))))) [.late W,.late (BF F.acc++[pj 0 0 F.acc])]:=by
 obtain⟨ho,htab,hno,hy,hyn,hyis,hyf⟩:=hh;have hd:=ho.dims;have hc0:=hd.c0;have hc1:=hd.c1;have hr0:=hd.r0;have hr1:=hd.r1;have hf0:od (findF (dB b 0) n 0)=(i0:Int)/\(findF (dB b 0) n 0).isSome=true:=by rw[hi0];exact⟨rfl,rfl⟩
 refine cO Tryz.func13 ?_;refine WX.ghost rfl ?_;refine WX.cc rfl ?_
 repeat' (first
  |(refine qz ?_;first
   |refine jU (zs:=gV lr false .nils 0 0) (hz:=lS) ?_)
  |refine zz ?_|refine zx (fun _=>?_) (fun _=>?_)|fail)
 refine WX.scope ?_;refine WX.jump ?_
 repeat' (first
  |(refine qz ?_;first
   |refine jU (zs:=gV lr false .nils 0 0) (hz:=lS) ?_)
  |refine zz ?_|refine zx (fun _=>?_) (fun _=>?_)|fail)
 refine WX.label ?_;show WX _ _ _ _ _ _ _
 repeat' (first
  |(refine qz ?_;first
   |refine cl ?_ (hi:=by exact dS hL (by omega) (by omega) (frm:=0) rfl (by decide) hf0 (g:=0) rfl rfl)
   |refine kD ?_
   |refine ld ?_ (hc:=oA ..)
   |refine ld ?_ (hc:=oy ..)
   |refine st ?_ (hle:=by rw[bc];decide) (hv:=m9 ..)
   |refine st ?_ (hle:=by rw[bc];decide) (hv:=oB ..)
   |refine st ?_ (hle:=by rw[bc];decide) (hv:=C6 ..)
   |refine KX (p:=i0) (q:=n) (o':=i0) (m:=n-i0) ?_
   |refine cl ?_ (hi:=by exact xD hL (by omega) (by omega) (Nat.le_refl _) ho htab hno hy hyn hyis hyf (g:=0) rfl rfl)
   |refine jU (zs:=b9 ⟨0,0,false,fun _=>0,fun _=>0⟩) (hz:=hU) ?_
   |refine nD (cs:=b9 h) ?_ (hs1:=by rw[aF,aF]) (hs2:=by rw[aF,aF])
   |refine jI ?_ (hle:=by rw[aF])
   |refine Sc (off:=0) (s:=131) ?_ (hs2:=by rw[bc];decide) (hv:=EB lr h false .nils (0+((i0:Nat)-(0:Int))) (0+((i0:Nat)-(0:Int)+1))) (hs1:=by rw[aF]))
  |refine zz ?_|refine zx (fun _=>?_) (fun _=>?_)|fail)
 refine WX.label ?_;show WX _ _ _ _ _ _ _;refine WX.Hp (σ:=W9×List Ni) (fun s=>[(0,.one (.lsl 0 kk 0 n n 0)),(2,.one (.ptr 3 0)),(3,.one (.ptr 4 0)),(7,.one (.ptr 5 0)),(4,.one (.int .i64 (s.1.at_:Nat)))]) (fun s=>[.late W,.late (BF s.1.acc),bU 54 ((pj 0 0 s.1.acc).map (·.self 1)),.cells (gV lr false .nils 0 0) 45 false false,.cells (gV h true (eE 2 s.1.acc.length 12) s.1.passed s.1.work) 45 false false,.cells (b9 h) 26 false false]) (fun s=>Steps b n (h.cols*h.rows) s.1.at_ s.2/\s.2.foldl w9 s.1=F/\s.1.at_<=n/\0<=s.1.passed/\s.1.passed<=(s.1.at_:Nat)/\0<=s.1.work/\s.1.work<=2*(s.1.at_:Nat)+2/\s.1.acc.length<=s.1.at_) (fun s=>s.2.length) (⟨i0+y,(i0:Nat),(i0:Nat)+1+(y:Nat),[]⟩,evs) ⟨hst,hF,by show i0+y<=n;omega,by show(0:Int)<=(i0:Nat);omega,by show((i0:Nat):Int)<=((i0+y:Nat):Int);omega,by show(0:Int)<=(i0:Nat)+1+(y:Nat);omega,by show((i0:Nat):Int)+1+(y:Nat)<=2*((i0+y:Nat):Int)+2;omega,by show 0<=i0+y;omega⟩ (fun s hs=>(stM (objs:=by repeat' (first|exact ax.nil|refine ax.flat ?_|refine ax.cons (sc (by first|trivial|exact aK (Nat.le_of_ble_eq_true rfl))) ?_|refine ax.cons (vu (pV (iB _ _ _ (Nat.le_refl _)) (Nat.le_of_ble_eq_true rfl))) ?_|refine ax.cons trivial ?_)))) (bW [0,1,2,3,4,5] (obj:=by(repeat' (first|exact ae.nil|refine o7 rfl rfl rfl rfl ?_|refine Kt rfl (by dsimp only;omega) (by dsimp only;omega) ?_|refine oz ?_));first|done|fail)) ?_;intro s ⟨hst1,hF1,ha1,hp0,hp1,hk0,hk1,hal1⟩ ih;obtain⟨⟨a,pas,wrk,acc⟩,ev⟩:=s;dsimp only at hst1 hF1 ha1 hp0 hp1 hk0 hk1 hal1;show WX _ _ _ _ _ _ _
 cases hst1 with
 | nil _ hf=>
   have hF2:(⟨a,pas,wrk,acc⟩:W9)=F:=hF1;subst hF2;have hal:acc.length=m:=hm;have hrl:(pj 0 0 acc).length=m*12:=by rw[tg,hal]
   have hsl:bU 54 ((pj 0 0 acc).map (·.self 1)) = .cells ((pj 0 0 acc).map (·.self 1)) 54 true false:=cK fun e=>by
    have h2:((pj 0 0 acc).map (·.self 1)).length=0:=by rw[e];rfl
    rw[List.length_map,hrl]at h2;omega
   have hsc:eE 2 acc.length 12 = .slice 2 0 m (.toEnd 12):=by rw[hal];exact if_neg hm0
   have hf0:od (findF (dB b 0) n a)=0/\(findF (dB b 0) n a).isSome=false:=by rw[hf];exact⟨rfl,rfl⟩
   dsimp only;rw[hsl,hsc];refine WX.sW (L:=BF acc) (vs:=pj 0 0 acc) (us:=(pj 0 0 acc).map (·.self 1)) 2 1 m (.toEnd 12) [(0,.one (.lsl 0 kk 0 n n 0)),(2,.one (.ptr 3 0)),(3,.one (.ptr 4 0)),(7,.one (.ptr 5 0)),(4,.one (.int .i64 (a:Nat)))] [.late W,.late (BF acc++[pj 0 0 acc]),.dead,.cells (gV lr false .nils 0 0) 45 false false,.cells (gV h true (.lsl 1 (2*m) 0 m m 0) pas wrk) 45 false false,.cells (b9 h) 26 false false] (m:=2*m) (iB _ _ _ (by omega)) (.inr ⟨12,rfl,by decide,by rw[List.length_map,hrl];exact Nat.le_refl _⟩) (by rw[oQ,hal]) (hH:=by repeat' (first|exact bd.nil|refine bd.ghost ?_|refine bd.dead ?_|refine bd.flat rfl ?_|refine bd.cells rfl (dP.same (tI trivial)) ?_|refine bd.cells rfl (MZ _ _ _ _) ?_|refine bd.cells rfl (dP.same (yp _)) ?_)) (hok:=(stM (objs:=by repeat' (first|exact ax.nil|refine ax.flat ?_|refine ax.cons (sc (by first|trivial|exact(show 1<_ from Nat.le_of_ble_eq_true rfl))) ?_|refine ax.cons trivial ?_)))) (h:=?_)
   repeat' (first
    |(refine qz ?_;first
     |refine cl ?_ (hi:=by exact dS hL (by omega) (by omega) (frm:=a) rfl (by omega) hf0 (g:=0) rfl rfl)
     |refine kD ?_
     |refine ld ?_ (hc:=oA ..)
     |refine ld ?_ (hc:=oy ..)
     |refine st ?_ (hle:=by rw[bc];decide) (hv:=m9 ..)
     |refine st ?_ (hle:=by rw[bc];decide) (hv:=oB ..)
     |refine jI ?_ (hle:=by rw[bc])
     |refine nD (cs:=gV h true (.lsl 1 (2*m) 0 m m 0) (pas+((n:Nat)-(a:Nat))) (wrk+((n:Nat)-(a:Nat)))) ?_ (hs1:=by rw[bc,bc]) (hs2:=by rw[bc,bc]))
    |refine zz ?_|refine zx (fun _=>?_) (fun _=>?_)|fail)
   show aE _ _ _ _ _ _ _ _;refine kV [0,1] ?_ (hr:=fH.one rfl (.cell rfl rfl (bR (by rw[bc])) .nil)) (hok:=sd (Nat.le_of_ble_eq_true rfl));exact(o8 (c := .lsl 1 (2*m) 0 m m 0) (c' := .lsl 1 (2*m) 0 m m 0) rfl).symm
 | no hai hin hf hne hst2=>
   rename_i i l;have hf0:od (findF (dB b 0) n a)=(i:Nat)/\(findF (dB b 0) n a).isSome=true:=by rw[hf];exact⟨rfl,rfl⟩
   have hcr:0<=h.cols*h.rows/\h.cols*h.rows<=64:=⟨Int.mul_nonneg (by omega) (by omega),Int.le_trans (Int.mul_le_mul hc1 hr1 (by omega) (by omega)) (by decide)⟩
   have w0:dB b (0+i) 0=0/\dB b (0+i) 1=0/\dB b (0+i) 2=1:=Ly hf;have hcv:b.getD (0+i+3) 0=b.getD (i+3) 0:=by rw[Nat.zero_add]
   dsimp only
   repeat' (first
    |(refine qz ?_;first
     |refine jU (zs:=A8) (hz:=KS) ?_
     |refine cl ?_ (hi:=by exact dS hL (by omega) (by omega) (frm:=a) rfl (by omega) hf0 (g:=0) rfl rfl)
     |refine kD ?_
     |refine ld ?_ (hc:=oA ..)
     |refine ld ?_ (hc:=oy ..)
     |refine st ?_ (hle:=by rw[bc];decide) (hv:=m9 ..)
     |refine st ?_ (hle:=by rw[bc];decide) (hv:=oB ..)
     |refine KX (p:=i) (q:=n) (o':=0+i) (m:=n-i) ?_
     |refine cl ?_ (hi:=by exact FZ hL (by omega) (by omega) (by omega) w0 hcv hne (g:=0) rfl rfl))
    |refine RS (id:=25) [12] ?_|refine zz ?_|refine zx (fun _=>?_) (fun _=>?_)|fail)
   show WX _ _ _ _ _ _ _;refine WX.goto ?_;show WX _ _ _ _ _ _ _;refine WX.jump ?_;refine WX.seq ?_;refine WX.skip ?_;show WX _ _ _ _ _ _ _;have e3:((i+3:Nat):Int)=(i:Int)+3:=by omega
   refine ih (⟨i+3,pas+((i:Int)-(a:Nat))+3,wrk+((i:Int)-(a:Nat)+1),acc⟩,l) _ _ _ (bW [0,1,2,3,4,5] (obj:=by(repeat' (first|exact ae.nil|refine AS (iB _ _ _ (Nat.le_refl _)) rfl rfl ?_|refine o7 rfl rfl rfl rfl ?_|refine o7 (aV ..) rfl rfl rfl ?_|refine oz ?_));first|done|fail) (reg:=by(repeat' (first|exact ai.nil|refine ai.flat (by rw[e3];rfl) ?_|refine rz ?_|refine ai.sl rfl (by assumption) rfl ?_));first|done|fail)) ⟨hst2,hF1,by show i+3<=n;omega,by show(0:Int)<=pas+((i:Int)-(a:Nat))+3;omega,by show pas+((i:Int)-(a:Nat))+3<=((i+3:Nat):Int);omega,by show(0:Int)<=wrk+((i:Int)-(a:Nat)+1);omega,by show wrk+((i:Int)-(a:Nat)+1)<=2*((i+3:Nat):Int)+2;omega,by show acc.length<=i+3;omega⟩ (by show l.length<l.length+1;omega)
 | pk hai hin hf hpk hst2=>
   rename_i i k l;have hf0:od (findF (dB b 0) n a)=(i:Nat)/\(findF (dB b 0) n a).isSome=true:=by rw[hf];exact⟨rfl,rfl⟩
   have hcr:0<=h.cols*h.rows/\h.cols*h.rows<=64:=⟨Int.mul_nonneg (by omega) (by omega),Int.le_trans (Int.mul_le_mul hc1 hr1 (by omega) (by omega)) (by decide)⟩
   have hkl:i+cx k<=n:=by have:=hpk.fit;unfold cx;omega
   have hpk2:K3 b (0+i) (n-i) k.ph k.first k.count (h.cols*h.rows) k.A k.Bb k.B:=by rw[Nat.zero_add];exact hpk
   dsimp only
   repeat' (first
    |(refine qz ?_;first
     |refine jU (zs:=A8) (hz:=KS) ?_
     |refine cl ?_ (hi:=by exact dS hL (by omega) (by omega) (frm:=a) rfl (by omega) hf0 (g:=0) rfl rfl)
     |refine kD ?_
     |refine ld ?_ (hc:=oA ..)
     |refine ld ?_ (hc:=oy ..)
     |refine st ?_ (hle:=by rw[bc];decide) (hv:=m9 ..)
     |refine st ?_ (hle:=by rw[bc];decide) (hv:=oB ..)
     |refine KX (p:=i) (q:=n) (o':=0+i) (m:=n-i) ?_
     |refine cl ?_ (hi:=by exact(Ji (la:=k.A.length) (lb:=k.Bb.length) (z:=(cx k:Nat)) hL (by omega) (by omega) (by omega) hpk2 rfl rfl rfl (g:=0) rfl (N:=6) (M:=7) rfl rfl rfl rfl).Ua rfl))
    |refine lq 29 ?_|refine RS (id:=25) [12] ?_|refine zz ?_|refine zx (fun _=>?_) (fun _=>?_)|fail)
   refine⟨?_⟩;refine WX.sW (L:=BF acc) (vs:=il .u8 k.A) (us:=il .u8 k.A) 6 1 k.A.length (.toEnd 1) [(0,.one (.lsl 0 kk 0 n n 0)),(2,.one (.ptr 3 0)),(3,.one (.ptr 4 0)),(7,.one (.ptr 5 0)),(4,.one (.int .i64 (i:Nat))),(10,.one (.ptr 8 0))] [.late W,.late (BF acc++[il .u8 k.A]),bU 54 ((pj 0 0 acc).map (·.self 1)),.cells (gV lr false .nils 0 0) 45 false false,.cells (gV h true (eE 2 acc.length 12) (pas+((i:Int)-(a:Nat))) (wrk+((i:Int)-(a:Nat)+1))) 45 false false,.cells (b9 h) 26 false false,.dead,.cells (il .u8 k.Bb) 5 true false,.cells (CY k.ph k.first k.count (.lsl 1 (2*acc.length) 0 k.A.length k.A.length 0) (.slice 7 0 k.Bb.length (.toEnd 1)) (cx k:Nat)) 52 false false] (m:=2*acc.length) (gD .u8 _ _) (.inr ⟨1,rfl,Nat.one_pos,by rw[bz];omega⟩) (oQ _) (hv:=eU (gD .u8 _ 0) 1) (hH:=by repeat' (first|exact bd.nil|refine bd.ghost ?_|refine bd.dead ?_|refine bd.flat rfl ?_|refine bd.MH rfl (gw (iB (2*acc.length) _ _ (by omega)) _ _) ?_|refine bd.MH rfl (gw (iB (2*acc.length+1) _ _ (by omega)) _ _) ?_|refine bd.cells rfl (dP.same (tI (by first|trivial|exact vq (by decide)))) ?_|refine bd.cells rfl (dP.same (yp _)) ?_|refine bd.cells rfl (A9 (by simp[XC.mw])) ?_|refine bd.cells rfl (A_ (by simp[XC.mw])) ?_)) (hok:=(stM (objs:=by repeat' (first|exact ax.nil|refine ax.flat ?_|refine ax.cons (sc (by first|trivial|exact aK (Nat.le_of_ble_eq_true rfl))) ?_|refine ax.cons (vu (pV (iB _ _ _ (Nat.le_refl _)) (Nat.le_of_ble_eq_true rfl))) ?_|refine ax.cons (J5 (by simp[XC.ok]) (by simp[XC.ok])) ?_|refine ax.cons trivial ?_)))) (h:=?_);refine WX.sW (L:=BF acc++[il .u8 k.A]) (vs:=il .u8 k.Bb) (us:=il .u8 k.Bb) 7 1 k.Bb.length (.toEnd 1) [(0,.one (.lsl 0 kk 0 n n 0)),(2,.one (.ptr 3 0)),(3,.one (.ptr 4 0)),(7,.one (.ptr 5 0)),(4,.one (.int .i64 (i:Nat))),(10,.one (.ptr 8 0))] [.late W,.late (BF acc++[il .u8 k.A]++[il .u8 k.Bb]),bU 54 ((pj 0 0 acc).map (·.self 1)),.cells (gV lr false .nils 0 0) 45 false false,.cells (gV h true (eE 2 acc.length 12) (pas+((i:Int)-(a:Nat))) (wrk+((i:Int)-(a:Nat)+1))) 45 false false,.cells (b9 h) 26 false false,.dead,.dead,.cells (CY k.ph k.first k.count (.lsl 1 (2*acc.length) 0 k.A.length k.A.length 0) (.lsl 1 (2*acc.length+1) 0 k.Bb.length k.Bb.length 0) (cx k:Nat)) 52 false false] (m:=2*acc.length+1) (gD .u8 _ _) (.inr ⟨1,rfl,Nat.one_pos,by rw[bz];omega⟩) (by rw[List.length_append,oQ];rfl) (hv:=eU (gD .u8 _ 0) 1) (hH:=by repeat' (first|exact bd.nil|refine bd.ghost ?_|refine bd.dead ?_|refine bd.flat rfl ?_|refine bd.MH rfl (gw (iB (2*acc.length) _ _ (by omega)) _ _) ?_|refine bd.MH rfl (gw (iB (2*acc.length+1) _ _ (by omega)) _ _) ?_|refine bd.cells rfl (dP.same (tI (by first|trivial|exact vq (by decide)))) ?_|refine bd.cells rfl (dP.same (yp _)) ?_|refine bd.cells rfl (A9 (by simp[XC.mw])) ?_|refine bd.cells rfl (A_ (by simp[XC.mw])) ?_)) (hok:=(stM (objs:=by repeat' (first|exact ax.nil|refine ax.flat ?_|refine ax.cons (sc (by first|trivial|exact aK (Nat.le_of_ble_eq_true rfl))) ?_|refine ax.cons (vu (pV (iB _ _ _ (Nat.le_refl _)) (Nat.le_of_ble_eq_true rfl))) ?_|refine ax.cons (J5 (by simp[XC.ok]) (by simp[XC.ok])) ?_|refine ax.cons trivial ?_)))) (h:=?_);have hcl:((pj 0 0 acc).map (·.self 1)).length=acc.length*12:=by rw[List.length_map,tg]
   repeat' (first
    |(refine qz ?_;first
     |refine ld ?_ (hc:=Ks ..)
     |refine jI ?_ (hle:=rfl)
     |refine t5 (zs:=A8++[.int .i64 0]) (hz:=KR) ?_
     |refine Sx 2 acc.length ((pj 0 0 acc).map (·.self 1)) ?_ (hn:=hcl)
     |refine st ?_ (hle:=by rw[bc];decide) (hv:=PR ..)
     |refine ld ?_ (hc:=oA ..)
     |refine st ?_ (hle:=by rw[bc];decide) (hv:=m9 ..))
    |refine zz ?_|refine zx (fun _=>?_) (fun _=>?_)|fail)
   show WX _ _ _ _ _ _ _;refine WX.goto ?_;show WX _ _ _ _ _ _ _;refine WX.jump ?_;refine WX.seq ?_;refine WX.skip ?_;show WX _ _ _ _ _ _ _;have hk21:21<=cx k:=by unfold cx;omega
   have e3:((i+cx k:Nat):Int)=(i:Int)+(cx k:Nat):=by omega
   have e4:(pj 0 0 (acc++[⟨k,i⟩])).map (·.self 1)=(pj 0 0 acc).map (·.self 1)++(CY k.ph k.first k.count (.lsl 1 (2*acc.length) 0 k.A.length k.A.length 0) (.lsl 1 (2*acc.length+1) 0 k.Bb.length k.Bb.length 0) (cx k:Nat)++[.int .i64 (i:Nat)]):=by rw[zN,List.map_append,Nat.zero_add];rfl
   refine ih (⟨i+cx k,pas+((i:Int)-(a:Nat)),wrk+((i:Int)-(a:Nat)+1)+(cx k:Nat),acc++[(⟨k,i⟩:Fo)]⟩,l) _ _ _ (bW [0,1,10,3,4,5] (obj:=by(repeat' (first|exact ae.nil|refine ae.flat (by rw[zM];rfl) ?_|refine AS (iB (2*(acc.length+1)) _ _ (by rw[List.length_append];exact Nat.le_of_eq (by simp))) (by rw[e4];rfl) rfl ?_|refine o7 rfl rfl rfl rfl ?_|refine o7 (by rw[aV,List.length_append];rfl) rfl rfl rfl ?_|refine oz ?_));first|done|fail) (reg:=by(repeat' (first|exact ai.nil|refine ai.flat (by rw[e3];rfl) ?_|refine rz ?_|refine ai.sl rfl (by assumption) rfl ?_));first|done|fail)) ⟨hst2,hF1,by show i+cx k<=n;omega,by show(0:Int)<=pas+((i:Int)-(a:Nat));omega,by show pas+((i:Int)-(a:Nat))<=((i+cx k:Nat):Int);omega,by show(0:Int)<=wrk+((i:Int)-(a:Nat)+1)+(cx k:Nat);omega,by show wrk+((i:Int)-(a:Nat)+1)+(cx k:Nat)<=2*((i+cx k:Nat):Int)+2;omega,by show(acc++[(⟨k,i⟩:Fo)]).length<=i+cx k;rw[List.length_append];show acc.length+1<=_;omega⟩ (by show l.length<l.length+1;omega)
def RM(o:Int)(f:Nat->Int):Nat->(Nat->Int)
 | 0=>fun _=>0
 | i+1=>fY (RM o f i) (BJ o i).toNat (f i)
def xB(o:Int)(f:Nat->Int):Nat->Int:=RM o f 64
def L3(l e:Nat->Int)(i:Nat):Prop:=l i+e i < -2047\/2047<l i+e i
open Classical in
noncomputable def Rq(l e:Nat->Int):Option (Nat->Int):=if ∃i,i<64/\L3 l e i then none else some fun i=>l i+e i
def Dy(l:List Ev)(st:Int):Nat->Option (Int×(Nat->Int))
 | 0=>some (st,fun _=>0)
 | j+1=>(Dy l st j).bind fun x=>if 63<x.1+(l.getD j default).1 then none else some (x.1+(l.getD j default).1+1,fY x.2 (x.1+(l.getD j default).1).toNat (l.getD j default).2.1)
def QM(l:List Ev)(st:Int):Option (Nat->Int):=(Dy l st l.length).map (·.2)
structure S_(l:List Ev):Prop where
 ok:∀j,j<l.length->ET (l.getD j default)
 last:∀j,j<l.length->(l.getD j default).2.2=decide (j+1=l.length)
 len:l.length<=64
def Ll(e:Ev):Bool:=decide (0<=e.1/\e.1<=63/\e.2.1≠0 /\ -2047<=e.2.1/\e.2.1<=2047)
def RZ(n m:Int):Ev:=(n/2,r_ (m+1),decide (n%2=1))
def Nn(B:List Bool):Nat->Nat×Bool->List Ev->List Ev×(Nat×Bool)
 | 0,r,acc=>([],(r.1,true))
 | k+1,r,acc=>
   let n:=pU B r
   let m:=pU B n.2
   if m.2.2=true\/Ll (RZ n.1 m.1)=false then([],(m.2.1,true))
   else if(RZ n.1 m.1).2.2=true then(acc++[RZ n.1 m.1],m.2)else Nn B k m.2 (acc++[RZ n.1 m.1])
def zy(B:List Bool)(r:Nat×Bool):List Ev×(Nat×Bool):=Nn B 64 r []
end Go.Proofs.YthdciapjllppjaaGreat
