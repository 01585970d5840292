/-
  A part of the proof: WkJ, Back0, Back1.
-/
import Derived.Test.YthdciapjllppjaaGreatWaN
import Derived.Test.YthdciapjllppjaaGreatWaQ
import Derived.Test.YthdciapjllppjaaGreatWaZC
import Derived.Test.YthdciapjllppjaaGreatWaZD
set_option maxRecDepth 10000
set_option maxHeartbeats 8000000
set_option linter.unusedVariables false
set_option linter.unusedSectionVars false
set_option linter.unusedSimpArgs false
open Go.Proofs.Tryz (prog)
namespace Go.Proofs.YthdciapjllppjaaGreat
open Go.Xm
variable [ak]
structure Bq(b:List Int)(n i:Nat)(h:Hd)(y:Nat):Prop where
 ok:lB h
 tab:∀j,j<64->(0<=h.a j/\h.a j<=255)/\(0<=h.b j/\h.b j<=255)
 no:h.w=false->∀j,j<64->h.a j=0/\h.b j=0
 len:(ie h).length=y
 fit:y<=n-i
 is:∀j,j<y->b.getD (i+j) 0=(ie h).getD j 0
 fin:(findF (du b i) (n-i) 3=none/\n-i=y)\/findF (du b i) (n-i) 3=some y
theorem Ed(h h':Hd)(s:Bool)(c:XC)(p w:Int):(gW h s c p w).take 0++b7 h'++(gW h s c p w).drop (0+131)=gW h' s c p w:=by
 unfold gW;rw[List.take_zero,List.nil_append,Nat.zero_add,List.drop_left' (aD h)]
theorem ly{τ : Nat->Nat}{HS:ah}{i:Nat}{ls:List Nat}{hs:ah}{h:Hd}{s:Bool}{c c':XC}{p w p' w':Int}{e:TypeId}{x z:Bool}(hc:c'.aB τ = c)(hi:HS[i]? = some (.cells (gW h s c p w) e x z))(hp:p=p')(hw:w=w')(r:af τ HS ls hs):af τ HS (i::ls) (.cells (gW h s c' p' w') e x z::hs):=by
 subst hp hw;refine af.cons ?_ r;rw[hi];simp only[gW,aj.aB,List.map_append,mD,List.map_cons,List.map_nil,hc];rfl
theorem J8{τ : Nat->Nat}{HS:ah}{i:Nat}{ls:List Nat}{hs:ah}{h:Hd}{s:Bool}{k z:Nat}{p w p' w':Int}{e:TypeId}{x y:Bool}(hi:HS[i]? = some (.cells (gW h s .nils p w) e x y))(hp:p=p')(hw:w=w')(r:af τ HS ls hs):af τ HS (i::ls) (.cells (gW h s (eg k 0 z) p' w') e x y::hs):=ly rfl hi hp hw r
theorem pR{h:Hd}{s:Bool}{c:XC}{p w:Int}{e:TypeId}{x z:Bool}{n:Nat}(hc:c.ok n):(aj.cells (gW h s c p w) e x z).bH n:=fun y hy=>by
 rcases List.mem_append.1 hy with hy|hy
 ·exact XC.aX (List.all_eq_true.1 (cN h) y hy) n
 ·simp only[List.mem_cons,List.not_mem_nil,or_false]at hy
  rcases hy with rfl|rfl|rfl|rfl
  ·trivial
  ·exact hc
  ·trivial
  ·trivial
theorem MD{g m:Nat}{A B:XC}(h:Hd)(s:Bool)(p w:Int):dM g m A B (gW h s A p w) (gW h s B p w):=
 dM.app (.same fun c hc=>XC.gp (XC.aX (List.all_eq_true.1 (cN h) c hc) 0)) (.cons (.same trivial) (.cons .BN (.cons (.same trivial) (.cons (.same trivial) (.same fun _ h=>nomatch h)))))
theorem tq{h:Hd}{s:Bool}{c:XC}{p w:Int}{g m:Nat}(hc:c.mg g m):∀x∈gW h s c p w,x.mg g m:=fun y hy=>by
 rcases List.mem_append.1 hy with hy|hy
 ·exact XC.gp (XC.aX (List.all_eq_true.1 (cN h) y hy) 0)
 ·simp only[List.mem_cons,List.not_mem_nil,or_false]at hy
  rcases hy with rfl|rfl|rfl|rfl
  ·trivial
  ·exact hc
  ·trivial
  ·trivial
theorem r4{h:Hd}{s:Bool}{c:XC}{p w:Int}{n:Nat}(hc:c.ok n):(XV.agg (gW h s c p w)).bH n:=pR (e:=0) (x:=false) (z:=false) hc
theorem oR{h:Hd}{s:Bool}{c c':XC}{p w:Int}{τ : Nat->Nat}(hc:c.aB τ = c'):(XV.agg (gW h s c p w)).aB τ = .agg (gW h s c' p w):=by
 subst hc;show XV.agg _=_;simp only[gW,List.map_append,mD,List.map_cons,List.map_nil];rfl
theorem x9(h:Hd){g m:Nat}:∀x∈b7 h,x.mg g m:=fun y hy=>XC.gp (XC.aX (List.all_eq_true.1 (cN h) y hy) 0)
theorem n7{τ : Nat->Nat}{HS:ah}{i:Nat}{ls:List Nat}{hs:ah}{vs:List XC}{e:TypeId}{g m:Nat}(hl:∀c∈vs,c.lI m=true)(hi:HS[i]? = some (bR e (vs.map (·.self g))))(hg : τ g=g)(r:af τ HS ls hs):af τ HS (i::ls) (bR e (vs.map (·.self g))::hs):=by
 refine af.cons ?_ r;rw[hi]
 cases hv:vs.map (·.self g)with
 | nil=>rfl
 | cons c r=>
   have:=rR hl g τ;rw[hg,hv]at this;show some (aj.cells (c::r) e true false)=some (.cells ((c::r).map (·.aB τ)) e true false);rw[this]
theorem tY{g:Nat->Int}:∀(k i r:Nat),tX g k i=some r->i<=r/\r<i+k/\g r=0/\g (r+1)=0/\g (r+2)=1
 | 0,_,_,h=>by cases h
 | k + 1,i,r,h=>by
   rw[tX]at h
   by_cases hg:g i=0/\g (i+1)=0/\g (i+2)=1
   ·rw[if_pos hg]at h;cases h;exact⟨Nat.le_refl _,by omega,hg⟩
   ·rw[if_neg hg]at h;have:=tY k (i+1) r h;exact⟨by omega,by omega,this.2.2⟩
theorem Lb{b:List Int}{n a i:Nat}(h:findF (du b 0) n a=some i):du b (0+i) 0=0/\du b (0+i) 1=0/\du b (0+i) 2=1:=by
 have:=(tY _ _ _ h).2.2;simp only[du,Nat.zero_add,Nat.add_zero]at this ⊢;exact this
theorem AO{g m:Nat}{A B X:XC}{p:Ph}{f c z:Int}(hX:X.mg g m):dM g m A B (CD p f c A X z) (CD p f c B X z):=by
 exact .cons (.same trivial) (.cons (.same trivial) (.cons (.same trivial) (.cons (.same trivial) (.cons (.same trivial) (.cons (.same trivial) (.cons .BN (.cons (.same hX) (.cons (.same trivial) (.cons (.same trivial) (.cons (.same trivial) (.same fun _ h=>nomatch h)))))))))))
theorem AP{g m:Nat}{A B X:XC}{p:Ph}{f c z:Int}(hX:X.mg g m):dM g m A B (CD p f c X A z) (CD p f c X B z):=by
 exact .cons (.same trivial) (.cons (.same trivial) (.cons (.same trivial) (.cons (.same trivial) (.cons (.same trivial) (.cons (.same trivial) (.cons (.same hX) (.cons .BN (.cons (.same trivial) (.cons (.same trivial) (.cons (.same trivial) (.same fun _ h=>nomatch h)))))))))))
theorem JK{p:Ph}{f c z:Int}{A B:XC}{e:TypeId}{x y:Bool}{n:Nat}(hA:A.ok n)(hB:B.ok n):(aj.cells (CD p f c A B z) e x y).bH n:=fun c hc=>by
 simp only[CD,List.cons_append,List.nil_append,List.mem_cons,List.not_mem_nil,or_false]at hc
 rcases hc with rfl|rfl|rfl|rfl|rfl|rfl|rfl|rfl|rfl|rfl|rfl<;>first|trivial|assumption
theorem ox:aL prog 54 (qM++[.int .i64 0]):=by
 show aL prog 54 [.int .i64 0,.bool false,.bool false,.int .i64 0,.int .i64 0,.int .i64 0,.nils,.nils,.int .i64 0,.bool false,.bool false,.int .i64 0]
 infer_instance
theorem Kv:aL prog 52 qM:=by infer_instance
theorem MF{W:List (List XC)}{kk n:Nat}{b:List Int}(hL:W[kk]? = some (il .u8 b))(hbl:b.length=n)(hn:n<=100000000)(hbB:bc b){h:Hd}{y i0:Nat}(hi0:findF (du b 0) n 0=some i0)(hi1:i0+2<n)(hh:Bq b n i0 h y){evs:List MT}(hst:Steps b n (h.cols*h.rows) (i0+y) evs){F:W9}(hF:evs.foldl w9 ⟨i0+y,(i0:Nat),(i0:Nat)+1+(y:Nat),[]⟩=F){m:Nat}(hm:F.acc.length=m)(hm0:m≠0) :
 bq prog 13 [.one (.lsl 0 kk 0 n n 0)] [.late W] (.agg (gW h true (.lsl 1 (2*m) 0 m m 0) (F.passed+((n:Int)-(F.at_:Nat))) (F.work+((n:Int)-(F.at_:Nat))))) [.late W,.late (Bl F.acc++[jq 0 0 F.acc])]:=by
 obtain⟨ho,htab,hno,hy,hyn,hyis,hyf⟩:=hh;have hd:=ho.dims;have hc0:=hd.c0;have hc1:=hd.c1;have hr0:=hd.r0;have hr1:=hd.r1;have hf0:nW (findF (du b 0) n 0)=(i0:Int)/\(findF (du b 0) n 0).isSome=true:=by rw[hi0];exact⟨rfl,rfl⟩
 refine cO Tryz.func13 ?_;refine WX.ghost rfl ?_;refine WX.cq rfl ?_
 repeat' (first
  |(refine qz ?_;first
   |refine jG (zs:=gW lH false .nils 0 0) (hz:=m5) ?_)
  |refine zz ?_|refine zx (fun _=>?_) (fun _=>?_)|fail)
 refine WX.scope ?_;refine WX.jump ?_
 repeat' (first
  |(refine qz ?_;first
   |refine jG (zs:=gW lH false .nils 0 0) (hz:=m5) ?_)
  |refine zz ?_|refine zx (fun _=>?_) (fun _=>?_)|fail)
 refine WX.label ?_;show WX _ _ _ _ _ _ _
 repeat' (first
  |(refine qz ?_;first
   |refine cl ?_ (hi:=by exact dO hL (by omega) (by omega) (frm:=0) rfl (by decide) hf0 (g:=0) rfl rfl)
   |refine kY ?_
   |refine ld ?_ (hc:=qT ..)
   |refine ld ?_ (hc:=pr ..)
   |refine st ?_ (hle:=by rw[bn];decide) (hv:=mV ..)
   |refine st ?_ (hle:=by rw[bn];decide) (hv:=oe ..)
   |refine st ?_ (hle:=by rw[bn];decide) (hv:=CJ ..)
   |refine KA (p:=i0) (q:=n) (o':=i0) (m:=n-i0) ?_
   |refine cl ?_ (hi:=by exact xh hL (by omega) (by omega) (Nat.le_refl _) ho htab hno hy hyn hyis hyf (g:=0) rfl rfl)
   |refine jG (zs:=b7 ⟨0,0,false,fun _=>0,fun _=>0⟩) (hz:=gY) ?_
   |refine nr (cs:=b7 h) ?_ (hs1:=by rw[aD,aD]) (hs2:=by rw[aD,aD])
   |refine jV ?_ (hle:=by rw[aD])
   |refine RU (off:=0) (s:=131) ?_ (hs2:=by rw[bn];decide) (hv:=Ed lH h false .nils (0+((i0:Nat)-(0:Int))) (0+((i0:Nat)-(0:Int)+1))) (hs1:=by rw[aD]))
  |refine zz ?_|refine zx (fun _=>?_) (fun _=>?_)|fail)
 refine WX.label ?_;show WX _ _ _ _ _ _ _;refine WX.G4 (σ:=W9×List MT) (fun s=>[(0,.one (.lsl 0 kk 0 n n 0)),(2,.one (.ptr 3 0)),(3,.one (.ptr 4 0)),(7,.one (.ptr 5 0)),(4,.one (.int .i64 (s.1.at_:Nat)))]) (fun s=>[.late W,.late (Bl s.1.acc),bR 54 ((jq 0 0 s.1.acc).map (·.self 1)),.cells (gW lH false .nils 0 0) 45 false false,.cells (gW h true (eg 2 s.1.acc.length 12) s.1.passed s.1.work) 45 false false,.cells (b7 h) 26 false false]) (fun s=>Steps b n (h.cols*h.rows) s.1.at_ s.2/\s.2.foldl w9 s.1=F/\s.1.at_<=n/\0<=s.1.passed/\s.1.passed<=(s.1.at_:Nat)/\0<=s.1.work/\s.1.work<=2*(s.1.at_:Nat)+2/\s.1.acc.length<=s.1.at_) (fun s=>s.2.length) (⟨i0+y,(i0:Nat),(i0:Nat)+1+(y:Nat),[]⟩,evs) ⟨hst,hF,by show i0+y<=n;omega,by show(0:Int)<=(i0:Nat);omega,by show((i0:Nat):Int)<=((i0+y:Nat):Int);omega,by show(0:Int)<=(i0:Nat)+1+(y:Nat);omega,by show((i0:Nat):Int)+1+(y:Nat)<=2*((i0+y:Nat):Int)+2;omega,by show 0<=i0+y;omega⟩ (fun s hs=>(stM (objs:=by repeat' (first|exact aw.nil|refine aw.flat ?_|refine aw.cons (pR (by first|trivial|exact aJ (Nat.le_of_ble_eq_true rfl))) ?_|refine aw.cons (qI (mT (e_ _ _ _ (Nat.le_refl _)) (Nat.le_of_ble_eq_true rfl))) ?_|refine aw.cons trivial ?_)))) (bV [0,1,2,3,4,5] (obj:=by(repeat' (first|exact af.nil|refine ly rfl rfl rfl rfl ?_|refine J8 rfl (by dsimp only;omega) (by dsimp only;omega) ?_|refine oz ?_));first|done|fail)) ?_;intro s ⟨hst1,hF1,ha1,hp0,hp1,hk0,hk1,hal1⟩ ih;obtain⟨⟨a,pas,wrk,acc⟩,ev⟩:=s;dsimp only at hst1 hF1 ha1 hp0 hp1 hk0 hk1 hal1;show WX _ _ _ _ _ _ _
 cases hst1 with
 | nil _ hf=>
   have hF2:(⟨a,pas,wrk,acc⟩:W9)=F:=hF1;subst hF2;have hal:acc.length=m:=hm;have hrl:(jq 0 0 acc).length=m*12:=by rw[oF,hal]
   have hsl:bR 54 ((jq 0 0 acc).map (·.self 1)) = .cells ((jq 0 0 acc).map (·.self 1)) 54 true false:=cz fun e=>by
    have h2:((jq 0 0 acc).map (·.self 1)).length=0:=by rw[e];rfl
    rw[List.length_map,hrl]at h2;omega
   have hsc:eg 2 acc.length 12 = .slice 2 0 m (.toEnd 12):=by rw[hal];exact if_neg hm0
   have hf0:nW (findF (du b 0) n a)=0/\(findF (du b 0) n a).isSome=false:=by rw[hf];exact⟨rfl,rfl⟩
   dsimp only;rw[hsl,hsc];refine WX.sK (L:=Bl acc) (vs:=jq 0 0 acc) (us:=(jq 0 0 acc).map (·.self 1)) 2 1 m (.toEnd 12) [(0,.one (.lsl 0 kk 0 n n 0)),(2,.one (.ptr 3 0)),(3,.one (.ptr 4 0)),(7,.one (.ptr 5 0)),(4,.one (.int .i64 (a:Nat)))] [.late W,.late (Bl acc++[jq 0 0 acc]),.dead,.cells (gW lH false .nils 0 0) 45 false false,.cells (gW h true (.lsl 1 (2*m) 0 m m 0) pas wrk) 45 false false,.cells (b7 h) 26 false false] (m:=2*m) (e_ _ _ _ (by omega)) (.inr ⟨12,rfl,by decide,by rw[List.length_map,hrl];exact Nat.le_refl _⟩) (by rw[oE,hal]) (hH:=by repeat' (first|exact bh.nil|refine bh.ghost ?_|refine bh.dead ?_|refine bh.flat rfl ?_|refine bh.cells rfl (dM.same (tq trivial)) ?_|refine bh.cells rfl (MD _ _ _ _) ?_|refine bh.cells rfl (dM.same (x9 _)) ?_)) (hok:=(stM (objs:=by repeat' (first|exact aw.nil|refine aw.flat ?_|refine aw.cons (pR (by first|trivial|exact(show 1<_ from Nat.le_of_ble_eq_true rfl))) ?_|refine aw.cons trivial ?_)))) (h:=?_)
   repeat' (first
    |(refine qz ?_;first
     |refine cl ?_ (hi:=by exact dO hL (by omega) (by omega) (frm:=a) rfl (by omega) hf0 (g:=0) rfl rfl)
     |refine kY ?_
     |refine ld ?_ (hc:=qT ..)
     |refine ld ?_ (hc:=pr ..)
     |refine st ?_ (hle:=by rw[bn];decide) (hv:=mV ..)
     |refine st ?_ (hle:=by rw[bn];decide) (hv:=oe ..)
     |refine jV ?_ (hle:=by rw[bn])
     |refine nr (cs:=gW h true (.lsl 1 (2*m) 0 m m 0) (pas+((n:Nat)-(a:Nat))) (wrk+((n:Nat)-(a:Nat)))) ?_ (hs1:=by rw[bn,bn]) (hs2:=by rw[bn,bn]))
    |refine zz ?_|refine zx (fun _=>?_) (fun _=>?_)|fail)
   show aE _ _ _ _ _ _ _ _;refine kV [0,1] ?_ (hr:=fE.one rfl (.cell rfl rfl (bO (by rw[bn])) .nil)) (hok:=r4 (Nat.le_of_ble_eq_true rfl));exact(oR (c := .lsl 1 (2*m) 0 m m 0) (c' := .lsl 1 (2*m) 0 m m 0) rfl).symm
 | no hai hin hf hne hst2=>
   rename_i i l;have hf0:nW (findF (du b 0) n a)=(i:Nat)/\(findF (du b 0) n a).isSome=true:=by rw[hf];exact⟨rfl,rfl⟩
   have hcr:0<=h.cols*h.rows/\h.cols*h.rows<=64:=⟨Int.mul_nonneg (by omega) (by omega),Int.le_trans (Int.mul_le_mul hc1 hr1 (by omega) (by omega)) (by decide)⟩
   have w0:du b (0+i) 0=0/\du b (0+i) 1=0/\du b (0+i) 2=1:=Lb hf;have hcv:b.getD (0+i+3) 0=b.getD (i+3) 0:=by rw[Nat.zero_add]
   dsimp only
   repeat' (first
    |(refine qz ?_;first
     |refine jG (zs:=qM) (hz:=Kv) ?_
     |refine cl ?_ (hi:=by exact dO hL (by omega) (by omega) (frm:=a) rfl (by omega) hf0 (g:=0) rfl rfl)
     |refine kY ?_
     |refine ld ?_ (hc:=qT ..)
     |refine ld ?_ (hc:=pr ..)
     |refine st ?_ (hle:=by rw[bn];decide) (hv:=mV ..)
     |refine st ?_ (hle:=by rw[bn];decide) (hv:=oe ..)
     |refine KA (p:=i) (q:=n) (o':=0+i) (m:=n-i) ?_
     |refine cl ?_ (hi:=by exact FB hL (by omega) (by omega) (by omega) w0 hcv hne (g:=0) rfl rfl))
    |refine Rw (id:=25) [12] ?_|refine zz ?_|refine zx (fun _=>?_) (fun _=>?_)|fail)
   show WX _ _ _ _ _ _ _;refine WX.goto ?_;show WX _ _ _ _ _ _ _;refine WX.jump ?_;refine WX.seq ?_;refine WX.skip ?_;show WX _ _ _ _ _ _ _;have e3:((i+3:Nat):Int)=(i:Int)+3:=by omega
   refine ih (⟨i+3,pas+((i:Int)-(a:Nat))+3,wrk+((i:Int)-(a:Nat)+1),acc⟩,l) _ _ _ (bV [0,1,2,3,4,5] (obj:=by(repeat' (first|exact af.nil|refine n7 (e_ _ _ _ (Nat.le_refl _)) rfl rfl ?_|refine ly rfl rfl rfl rfl ?_|refine ly (aU ..) rfl rfl rfl ?_|refine oz ?_));first|done|fail) (reg:=by(repeat' (first|exact ai.nil|refine ai.flat (by rw[e3];rfl) ?_|refine rz ?_|refine ai.sl rfl (by assumption) rfl ?_));first|done|fail)) ⟨hst2,hF1,by show i+3<=n;omega,by show(0:Int)<=pas+((i:Int)-(a:Nat))+3;omega,by show pas+((i:Int)-(a:Nat))+3<=((i+3:Nat):Int);omega,by show(0:Int)<=wrk+((i:Int)-(a:Nat)+1);omega,by show wrk+((i:Int)-(a:Nat)+1)<=2*((i+3:Nat):Int)+2;omega,by show acc.length<=i+3;omega⟩ (by show l.length<l.length+1;omega)
 | pk hai hin hf hpk hst2=>
   rename_i i k l;have hf0:nW (findF (du b 0) n a)=(i:Nat)/\(findF (du b 0) n a).isSome=true:=by rw[hf];exact⟨rfl,rfl⟩
   have hcr:0<=h.cols*h.rows/\h.cols*h.rows<=64:=⟨Int.mul_nonneg (by omega) (by omega),Int.le_trans (Int.mul_le_mul hc1 hr1 (by omega) (by omega)) (by decide)⟩
   have hkl:i+cA k<=n:=by have:=hpk.fit;unfold cA;omega
   have hpk2:KG b (0+i) (n-i) k.ph k.first k.count (h.cols*h.rows) k.A k.Bb k.B:=by rw[Nat.zero_add];exact hpk
   dsimp only
   repeat' (first
    |(refine qz ?_;first
     |refine jG (zs:=qM) (hz:=Kv) ?_
     |refine cl ?_ (hi:=by exact dO hL (by omega) (by omega) (frm:=a) rfl (by omega) hf0 (g:=0) rfl rfl)
     |refine kY ?_
     |refine ld ?_ (hc:=qT ..)
     |refine ld ?_ (hc:=pr ..)
     |refine st ?_ (hle:=by rw[bn];decide) (hv:=mV ..)
     |refine st ?_ (hle:=by rw[bn];decide) (hv:=oe ..)
     |refine KA (p:=i) (q:=n) (o':=0+i) (m:=n-i) ?_
     |refine cl ?_ (hi:=by exact(IX (la:=k.A.length) (lb:=k.Bb.length) (z:=(cA k:Nat)) hL (by omega) (by omega) (by omega) hpk2 rfl rfl rfl (g:=0) rfl (N:=6) (M:=7) rfl rfl rfl rfl).TO rfl))
    |refine ll 29 ?_|refine Rw (id:=25) [12] ?_|refine zz ?_|refine zx (fun _=>?_) (fun _=>?_)|fail)
   refine⟨?_⟩;refine WX.sK (L:=Bl acc) (vs:=il .u8 k.A) (us:=il .u8 k.A) 6 1 k.A.length (.toEnd 1) [(0,.one (.lsl 0 kk 0 n n 0)),(2,.one (.ptr 3 0)),(3,.one (.ptr 4 0)),(7,.one (.ptr 5 0)),(4,.one (.int .i64 (i:Nat))),(10,.one (.ptr 8 0))] [.late W,.late (Bl acc++[il .u8 k.A]),bR 54 ((jq 0 0 acc).map (·.self 1)),.cells (gW lH false .nils 0 0) 45 false false,.cells (gW h true (eg 2 acc.length 12) (pas+((i:Int)-(a:Nat))) (wrk+((i:Int)-(a:Nat)+1))) 45 false false,.cells (b7 h) 26 false false,.dead,.cells (il .u8 k.Bb) 5 true false,.cells (CD k.ph k.first k.count (.lsl 1 (2*acc.length) 0 k.A.length k.A.length 0) (.slice 7 0 k.Bb.length (.toEnd 1)) (cA k:Nat)) 52 false false] (m:=2*acc.length) (gB .u8 _ _) (.inr ⟨1,rfl,Nat.one_pos,by rw[bu];omega⟩) (oE _) (hv:=eQ (gB .u8 _ 0) 1) (hH:=by repeat' (first|exact bh.nil|refine bh.ghost ?_|refine bh.dead ?_|refine bh.flat rfl ?_|refine bh.Ml rfl (gu (e_ (2*acc.length) _ _ (by omega)) _ _) ?_|refine bh.Ml rfl (gu (e_ (2*acc.length+1) _ _ (by omega)) _ _) ?_|refine bh.cells rfl (dM.same (tq (by first|trivial|exact Az (by decide)))) ?_|refine bh.cells rfl (dM.same (x9 _)) ?_|refine bh.cells rfl (AO (by simp[XC.mg])) ?_|refine bh.cells rfl (AP (by simp[XC.mg])) ?_)) (hok:=(stM (objs:=by repeat' (first|exact aw.nil|refine aw.flat ?_|refine aw.cons (pR (by first|trivial|exact aJ (Nat.le_of_ble_eq_true rfl))) ?_|refine aw.cons (qI (mT (e_ _ _ _ (Nat.le_refl _)) (Nat.le_of_ble_eq_true rfl))) ?_|refine aw.cons (JK (by simp[XC.ok]) (by simp[XC.ok])) ?_|refine aw.cons trivial ?_)))) (h:=?_);refine WX.sK (L:=Bl acc++[il .u8 k.A]) (vs:=il .u8 k.Bb) (us:=il .u8 k.Bb) 7 1 k.Bb.length (.toEnd 1) [(0,.one (.lsl 0 kk 0 n n 0)),(2,.one (.ptr 3 0)),(3,.one (.ptr 4 0)),(7,.one (.ptr 5 0)),(4,.one (.int .i64 (i:Nat))),(10,.one (.ptr 8 0))] [.late W,.late (Bl acc++[il .u8 k.A]++[il .u8 k.Bb]),bR 54 ((jq 0 0 acc).map (·.self 1)),.cells (gW lH false .nils 0 0) 45 false false,.cells (gW h true (eg 2 acc.length 12) (pas+((i:Int)-(a:Nat))) (wrk+((i:Int)-(a:Nat)+1))) 45 false false,.cells (b7 h) 26 false false,.dead,.dead,.cells (CD k.ph k.first k.count (.lsl 1 (2*acc.length) 0 k.A.length k.A.length 0) (.lsl 1 (2*acc.length+1) 0 k.Bb.length k.Bb.length 0) (cA k:Nat)) 52 false false] (m:=2*acc.length+1) (gB .u8 _ _) (.inr ⟨1,rfl,Nat.one_pos,by rw[bu];omega⟩) (by rw[List.length_append,oE];rfl) (hv:=eQ (gB .u8 _ 0) 1) (hH:=by repeat' (first|exact bh.nil|refine bh.ghost ?_|refine bh.dead ?_|refine bh.flat rfl ?_|refine bh.Ml rfl (gu (e_ (2*acc.length) _ _ (by omega)) _ _) ?_|refine bh.Ml rfl (gu (e_ (2*acc.length+1) _ _ (by omega)) _ _) ?_|refine bh.cells rfl (dM.same (tq (by first|trivial|exact Az (by decide)))) ?_|refine bh.cells rfl (dM.same (x9 _)) ?_|refine bh.cells rfl (AO (by simp[XC.mg])) ?_|refine bh.cells rfl (AP (by simp[XC.mg])) ?_)) (hok:=(stM (objs:=by repeat' (first|exact aw.nil|refine aw.flat ?_|refine aw.cons (pR (by first|trivial|exact aJ (Nat.le_of_ble_eq_true rfl))) ?_|refine aw.cons (qI (mT (e_ _ _ _ (Nat.le_refl _)) (Nat.le_of_ble_eq_true rfl))) ?_|refine aw.cons (JK (by simp[XC.ok]) (by simp[XC.ok])) ?_|refine aw.cons trivial ?_)))) (h:=?_);have hcl:((jq 0 0 acc).map (·.self 1)).length=acc.length*12:=by rw[List.length_map,oF]
   repeat' (first
    |(refine qz ?_;first
     |refine ld ?_ (hc:=J7 ..)
     |refine jV ?_ (hle:=rfl)
     |refine sY (zs:=qM++[.int .i64 0]) (hz:=ox) ?_
     |refine KP 2 acc.length ((jq 0 0 acc).map (·.self 1)) ?_ (hn:=hcl)
     |refine st ?_ (hle:=by rw[bn];decide) (hv:=Pt ..)
     |refine ld ?_ (hc:=qT ..)
     |refine st ?_ (hle:=by rw[bn];decide) (hv:=mV ..))
    |refine zz ?_|refine zx (fun _=>?_) (fun _=>?_)|fail)
   show WX _ _ _ _ _ _ _;refine WX.goto ?_;show WX _ _ _ _ _ _ _;refine WX.jump ?_;refine WX.seq ?_;refine WX.skip ?_;show WX _ _ _ _ _ _ _;have hk21:21<=cA k:=by unfold cA;omega
   have e3:((i+cA k:Nat):Int)=(i:Int)+(cA k:Nat):=by omega
   have e4:(jq 0 0 (acc++[⟨k,i⟩])).map (·.self 1)=(jq 0 0 acc).map (·.self 1)++(CD k.ph k.first k.count (.lsl 1 (2*acc.length) 0 k.A.length k.A.length 0) (.lsl 1 (2*acc.length+1) 0 k.Bb.length k.Bb.length 0) (cA k:Nat)++[.int .i64 (i:Nat)]):=by rw[t_,List.map_append,Nat.zero_add];rfl
   refine ih (⟨i+cA k,pas+((i:Int)-(a:Nat)),wrk+((i:Int)-(a:Nat)+1)+(cA k:Nat),acc++[(⟨k,i⟩:Fo)]⟩,l) _ _ _ (bV [0,1,10,3,4,5] (obj:=by(repeat' (first|exact af.nil|refine af.flat (by rw[zq];rfl) ?_|refine n7 (e_ (2*(acc.length+1)) _ _ (by rw[List.length_append];exact Nat.le_of_eq (by simp))) (by rw[e4];rfl) rfl ?_|refine ly rfl rfl rfl rfl ?_|refine ly (by rw[aU,List.length_append];rfl) rfl rfl rfl ?_|refine oz ?_));first|done|fail) (reg:=by(repeat' (first|exact ai.nil|refine ai.flat (by rw[e3];rfl) ?_|refine rz ?_|refine ai.sl rfl (by assumption) rfl ?_));first|done|fail)) ⟨hst2,hF1,by show i+cA k<=n;omega,by show(0:Int)<=pas+((i:Int)-(a:Nat));omega,by show pas+((i:Int)-(a:Nat))<=((i+cA k:Nat):Int);omega,by show(0:Int)<=wrk+((i:Int)-(a:Nat)+1)+(cA k:Nat);omega,by show wrk+((i:Int)-(a:Nat)+1)+(cA k:Nat)<=2*((i+cA k:Nat):Int)+2;omega,by show(acc++[(⟨k,i⟩:Fo)]).length<=i+cA k;rw[List.length_append];show acc.length+1<=_;omega⟩ (by show l.length<l.length+1;omega)
def Rq(o:Int)(f:Nat->Int):Nat->(Nat->Int)
 | 0=>fun _=>0
 | i+1=>fV (Rq o f i) (Bo o i).toNat (f i)
def xf(o:Int)(f:Nat->Int):Nat->Int:=Rq o f 64
def LD(l e:Nat->Int)(i:Nat):Prop:=l i+e i < -2047\/2047<l i+e i
open Classical in
noncomputable def Q7(l e:Nat->Int):Option (Nat->Int):=if ∃i,i<64/\LD l e i then none else some fun i=>l i+e i
def Db(l:List Ev)(st:Int):Nat->Option (Int×(Nat->Int))
 | 0=>some (st,fun _=>0)
 | j+1=>(Db l st j).bind fun x=>if 63<x.1+(l.getD j default).1 then none else some (x.1+(l.getD j default).1+1,fV x.2 (x.1+(l.getD j default).1).toNat (l.getD j default).2.1)
def Qr(l:List Ev)(st:Int):Option (Nat->Int):=(Db l st l.length).map (·.2)
structure SI(l:List Ev):Prop where
 ok:∀j,j<l.length->Et (l.getD j default)
 last:∀j,j<l.length->(l.getD j default).2.2=decide (j+1=l.length)
 len:l.length<=64
def KZ(e:Ev):Bool:=decide (0<=e.1/\e.1<=63/\e.2.1≠0 /\ -2047<=e.2.1/\e.2.1<=2047)
def RE(n m:Int):Ev:=(n/2,rY (m+1),decide (n%2=1))
def MY(B:List Bool):Nat->Nat×Bool->List Ev->List Ev×(Nat×Bool)
 | 0,r,acc=>([],(r.1,true))
 | k+1,r,acc=>
   let n:=pK B r
   let m:=pK B n.2
   if m.2.2=true\/KZ (RE n.1 m.1)=false then([],(m.2.1,true))
   else if(RE n.1 m.1).2.2=true then(acc++[RE n.1 m.1],m.2)else MY B k m.2 (acc++[RE n.1 m.1])
def zg(B:List Bool)(r:Nat×Bool):List Ev×(Nat×Bool):=MY B 64 r []
end Go.Proofs.YthdciapjllppjaaGreat
