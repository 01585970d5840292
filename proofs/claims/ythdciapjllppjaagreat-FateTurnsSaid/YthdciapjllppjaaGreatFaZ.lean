/-
  A part of the proof: FtC, FtE, FtF, StrD, StrE, StrH.
-/
import Derived.Test.YthdciapjllppjaaGreatFaX
import Derived.Test.YthdciapjllppjaaGreatFaY
set_option maxRecDepth 10000
set_option maxHeartbeats 8000000
set_option linter.unusedVariables false
set_option linter.unusedSectionVars false
set_option linter.unusedSimpArgs false
open Go.Proofs.Tryz (prog)
namespace Go.Proofs.YthdciapjllppjaaGreat
open Go.Xm
variable [av]
def GI(n:Int)(r:Nat):List Int:=(List.range 7).map fun i=>if i<r then 0 else n/2^(6-i)%2
def q7(n:Int):List Int:=GI n 0
theorem y6(n:Int)(r:Nat):(GI n r).length=7:=by simp[GI]
theorem R3(n:Int)(r:Nat){i:Nat}(hi:i<7):(GI n r).getD i 0=if i<r then 0 else n/2^(6-i)%2:=by
 unfold GI;rw[List.getD_eq_getElem?_getD,List.getElem?_map,List.getElem?_range hi];rfl
theorem PJ(n:Int)(r:Nat)(hr:r<7):(GI n (r+1)).set r (n/2^(6-r)%2)=GI n r:=by
 refine List.ext_getElem? fun i=>?_
 rw[List.getElem?_set];unfold GI
 by_cases hi:i<7
 ·rw[List.length_map,List.length_range,List.getElem?_map,List.getElem?_map,List.getElem?_range hi]
  by_cases h:r=i
  ·subst h;rw[if_pos rfl,if_pos hr];show some _=some (if r<r then 0 else n/2^(6-r)%2);rw[if_neg (Nat.lt_irrefl r)]
  ·rw[if_neg h];show some (if i<r+1 then _ else _)=some (if i<r then _ else _)
   by_cases h2:i<r
   ·rw[if_pos h2,if_pos (by omega)]
   ·rw[if_neg h2,if_neg (by omega)]
 ·rw[List.length_map,List.length_range,if_neg (by omega)];rw[List.getElem?_eq_none (by simp;omega),List.getElem?_eq_none (by simp;omega)]
theorem M4(n:Int):GI n 7=List.replicate 7 0:=by
 refine List.ext_getElem? fun i=>?_
 by_cases hi:i<7
 ·unfold GI;rw[List.getElem?_map,List.getElem?_range hi,List.getElem?_replicate,if_pos hi];show some (if i<7 then _ else _)=_;rw[if_pos hi]
 ·rw[List.getElem?_eq_none (by rw[y6];omega),List.getElem?_eq_none (by simp;omega)]
theorem A8(k:Nat):(0:Int)<2^k:=Int.pow_pos (by decide)
theorem Mc(n:Int){r:Nat}(h1:1<=r)(h7:r<=7):n/2^(7-r)/2=n/2^(7-(r-1)):=by
 rw[show 7-(r-1)=(7-r)+1 by omega,Int.pow_succ,Int.ediv_ediv_of_nonneg (Int.le_of_lt (A8 _))]
theorem FC(n:Int)(hn:0<=n/\n<256) :
 bm prog 44 [.one (.int .u64 n),.one (.int .i64 7)] [] (.one (.slice 0 0 7 (.exact 7))) [.cells (il .u8 (q7 n)) 5 false false]:=by
 refine cO Tryz.func44 ?_
 repeat' (first|refine zz ?_|refine zx (fun _=>?_) (fun _=>?_)|fail)
 refine WX.bN (σ:=Nat) (fun r=>[(5,.one (.slice 0 0 7 (.exact 7))),(0,.one (.int .u64 (n/2^(7-r)))),(6,.one (.int .i64 ((r:Int)-1)))]) (fun r=>[.cells (il .u8 (GI n r)) 5 false false]) (fun r=>r<=7) (fun r=>r) 7 (Nat.le_refl _) (fun r _=>stM) (bq [0] (obj:=by(repeat' (first|exact af.nil|refine af.flat (by rw[M4];rfl) ?_|refine oz ?_));first|done|fail) (reg:=by(repeat' (first|exact ae.nil|refine ae.flat (by simp;rfl) ?_|refine rz ?_|refine ae.sl rfl (by assumption) rfl ?_));first|done|fail)) ?_;intro r hr ih;have hlen:=y6 n r;have hpp:=A8 (7-r)
 obtain⟨v,hv⟩:∃v,n/2^(7-r)=v:=⟨_,rfl⟩
 have hv0:0<=v/\v<256:=by
  rw[<-hv];have h1:=Int.ediv_nonneg hn.1 (Int.le_of_lt hpp);have h2:=Int.ediv_le_self (2^(7-r)) hn.1;omega
 by_cases h0:r=0
 ·subst h0;rw[hv]
  repeat' (first|refine zz ?_|refine zx (fun _=>?_) (fun _=>?_)|fail)
  show aE _ _ _ _ _ _ _ _;refine kV [0] ?_;rfl
 ·have e1:((r:Int)-1).toNat=r-1:=by omega
  have e2:=Mc n (show 1<=r by omega) hr
  have e3:(GI n r).set (r-1) (v%2)=GI n (r-1):=by
   have:=PJ n (r-1) (by omega);rw[show r-1+1=r by omega,show 6-(r-1)=7-r by omega,hv]at this;exact this
  rw[hv]at e2 ⊢
  repeat' (first|refine zz ?_|refine zx (fun _=>?_) (fun _=>?_)|fail)
  exact ih (r-1) _ _ _ (bq [0] (obj:=by(repeat' (first|exact af.nil|refine af.flat (by rw[<-e3,<-e1];rfl) ?_|refine oz ?_));first|done|fail) (reg:=by(repeat' (first|exact ae.nil|refine ae.flat (by rw[<-e2];rfl) ?_|refine ae.flat (by rw[show(((r-1:Nat):Int)-1)=(r:Int)-1-1 by omega];rfl) ?_|refine rz ?_|refine ae.sl rfl (by assumption) rfl ?_));first|done|fail)) (by omega) (by omega)
theorem Ij{n:Int}(hn:0<=n/\n<256){HS:ah}{N:Nat}(hN:HS.length=N){HS':ah}(hh:HS++[.cells (il .u8 (q7 n)) 5 false false]=HS')(hbd:Nat.blt HS'.length Mem.bound=true) :
 aA.Sound prog ⟨44,[.one (.int .u64 n),.one (.int .i64 7)],HS,.one (.slice N 0 7 (.exact 7)),HS',[]⟩:=by
 subst hN;exact bh [] [] 1 (FC n hn) (by simp) .nil .nil (.flat .nil) rfl (.flat (.flat .nil)) (.flat (.flat .nil)) (by show 0<1;omega) rfl (.flat .nil) rfl rfl hh hbd (.inl rfl)
def l7(p:List Int):Nat->List Int
 | 0=>[]
 | k+1=>l7 p k++q7 (p.getD (4+k) 0)
theorem uJ(p:List Int):∀k,(l7 p k).length=7*k
 | 0=>rfl
 | k+1=>by rw[l7,List.length_append,uJ p k,q7,y6];omega
theorem Od(p:List Int):∀k j,j<7*k->(l7 p k).getD j 0=A1 p j
 | 0,j,h=>by omega
 | k + 1,j,h=>by
   rw[l7,List.getD_eq_getElem?_getD]
   by_cases hj:j<7*k
   ·rw[List.getElem?_append_left (by rw[uJ];exact hj),<-List.getD_eq_getElem?_getD];exact Od p k j hj
   ·rw[List.getElem?_append_right (by rw[uJ];omega),uJ,<-List.getD_eq_getElem?_getD];unfold q7;rw[R3 _ _ (by omega),if_neg (Nat.not_lt_zero _)];unfold A1;rw[show j/7=k by omega,show j-7*k=j%7 by omega]
theorem vy(p:List Int)(o:Nat):∀k,0<=mY p o k/\mY p o k<2^k
 | 0=>by unfold mY;decide
 | k+1=>by
   have h1:=vy p o k;have h2:=ve p (o+k);rw[mY,Int.pow_succ];omega
def GA(p:Int×Int):List XC:=[.int .i64 p.1,.int .i64 p.2]
instance:nR GA 2:=⟨fun _=>rfl,fun _=>rfl,by decide⟩
def q9(ps:List (List Int)):Nat->List (Int×Int)
 | 0=>[]
 | k+1=>if k=0 then []else q9 ps k++[kA (ps.getD k [])]
theorem l8(ps:List (List Int)):∀k,(q9 ps k).length=k-1
 | 0=>rfl
 | k+1=>by
   rw[q9];split
   ·subst_vars;rfl
   ·rw[List.length_append,l8 ps k,List.length_singleton];omega
theorem E3{L:List (List XC)}{g:Nat}{c:XC}{vs:List XC}{n:Nat}(h:cy L g c vs n)(hn:n≠0):∃k fl,n<=fl/\c = .lsl g k 0 n fl 0/\L[k]? = some vs:=by
 rcases h with⟨h0,_⟩|h
 ·exact absurd h0 hn
 ·exact h
theorem J8{k:Nat}(h:k<=16):(2:Int)^k<=65536:=by
 have:∀k:Fin 17,(2:Int)^k.val<=65536:=by decide
 exact this ⟨k,by omega⟩
theorem AZ{L:List (List XC)}{cs:List XC}{ps:List (List Int)}(hb:lE L cs ps){c:XC}(hc:cy L 0 c cs ps.length)(hn:ps.length<=1000000)(hp:∀i,0<i->i<ps.length->21<=(ps.getD i []).length/\(ps.getD i []).length<=100000000)(hpB:∀i,aR (ps.getD i [])) :
 bm prog 24 [.one c] [.late L] (dV 1 (ps.length-1) 2) [.late L,bu 79 (fl GA (q9 ps ps.length))]:=by
 have hok:c.ok 2:=hc.ok (Nat.le_of_ble_eq_true rfl);have hok3:c.ok 3:=hc.ok (Nat.le_of_ble_eq_true rfl);refine cO Tryz.func24 ?_
 repeat' (first
  |(refine qz ?_;first
   |refine ll ?_)
  |refine zz ?_|refine zx (fun _=>?_) (fun _=>?_)|fail)
 refine WX.bU rfl ?_;refine WX.bN (σ:=Nat) (fun k=>[(12,.one c),(13,.one (.int .i64 (ps.length:Nat))),(3,dV 1 (k-1) 2),(14,.one (.int .i64 (k:Nat)))]) (fun k=>[.late L,bu 79 (fl GA (q9 ps k))]) (fun k=>k<=ps.length) (fun k=>ps.length-k) 0 (Nat.zero_le _) (fun k _=>stM) (bq [0,1] (reg:=by(repeat' (first|exact ae.nil|refine ae.gO rfl (by assumption) rfl ?_|refine rz ?_|refine ae.sl rfl (by assumption) rfl ?_));first|done|fail)) ?_;intro k hk ih;have hsl:=l8 ps k
 by_cases hlt:k<ps.length
 ·obtain ⟨y,x,h1,h2,h3⟩:=D2 hb hlt 0;have hpb:=hpB k;have hpl:=hp k
  obtain⟨p,hpe⟩:∃p,ps.getD k []=p:=⟨_,rfl⟩
  rw[hpe]at h3 hpb hpl;have hs1:q9 ps (k+1)=if k=0 then []else q9 ps k++[kA p]:=by rw[q9,hpe]
  by_cases hk0:k=0
  ·rw[if_pos hk0]at hs1;subst hk0
   repeat' (first
    |(refine qz ?_;first
     |refine ll ?_
     |refine sc (fun kk hkk=>?_)
     |refine se ?_ (by assumption) h1 h2)
    |refine zz ?_|refine zx (fun _=>?_) (fun _=>?_)|fail)
   exact ih (0+1) _ _ _ (bq [0,1] (obj:=by(repeat' (first|exact af.nil|refine af.flat (by rw[hs1];rfl) ?_|refine oz ?_));first|done|fail) (reg:=by(repeat' (first|exact ae.nil|refine ae.gO rfl (by assumption) rfl ?_|refine rz ?_|refine ae.sl rfl (by assumption) rfl ?_));first|done|fail)) (by omega) (by omega)
  ·rw [if_neg hk0]at hs1;obtain⟨pl,pu⟩:=hpl (by omega) hlt;obtain⟨kx,fx,hfx,rfl,hL⟩:=E3 h3 (by omega)
   obtain⟨acc,hacc⟩:∃acc,q9 ps k=acc:=⟨_,rfl⟩
   rw[hacc]at hs1 hsl ⊢
   repeat' (first
    |(refine qz ?_;first
     |refine ll ?_
     |refine sc (fun kk hkk=>?_)
     |refine se ?_ (by assumption) h1 h2
     |refine Q1 (p:=4) (q:=21) ?_
     |refine nN ?_
     |refine sP ?_)
    |refine zz ?_|refine zx (fun _=>?_) (fun _=>?_)|fail)
   refine WX.bU rfl ?_;refine WX.bN (σ:=Nat) (fun t=>[(12,.one c),(13,.one (.int .i64 (ps.length:Nat))),(3,dV 1 (k-1) 2),(14,.one (.int .i64 (k:Nat))),(22,.one (.lsl 0 kx 4 17 (fx-4) 4)),(23,.one (.int .i64 17)),(6,dV 2 (7*t) 1),(24,.one (.int .i64 (t:Nat)))]) (fun t=>[.late L,bu 79 (fl GA acc),bu 5 (il .u8 (l7 p t))]) (fun t=>t<=17) (fun t=>17-t) 0 (Nat.zero_le _) (fun k _=>stM) (bq [0,1,2] (reg:=by(repeat' (first|exact ae.nil|refine ae.gO rfl (by assumption) rfl ?_|refine rz ?_|refine ae.sl rfl (by assumption) rfl ?_));first|done|fail)) ?_;intro t ht ih2;have hl7:=uJ p t
   by_cases hlt2:t<17
   ·have hbt:=hpb (4+t);have hi2:4+t<p.length:=by omega
    have e4:4+(t:Int).toNat*1=4+t:=by omega
    have hq7:(q7 (p.getD (4+t) 0)).length=7:=y6 _ 0
    repeat' (first
     |(refine qz ?_;first
      |refine sP ?_ (hp:=e4)
      |refine Gd ?_ hL hi2
      |refine cl ?_ (hi:=by exact Ij hbt nL nA rfl))
     |refine zz ?_|refine zx (fun _=>?_) (fun _=>?_)|fail)
    exact ih2 (t+1) _ _ _ (bq [0,1,4] (reg:=by(repeat' (first|exact ae.nil|refine ae.gO rfl (by assumption) rfl ?_|refine ae.iO rfl rfl (by omega) ?_|refine rz ?_|refine ae.sl rfl (by assumption) rfl ?_));first|done|fail)) (by omega) (by omega)
   ·obtain rfl:t=17:=by omega
    clear ih2
    obtain⟨B,hB⟩:∃B,l7 p 17=B:=⟨_,rfl⟩
    have hBa:=Od p 17;rw[hB]at hBa hl7 ⊢
    repeat' (first|refine zz ?_|refine zx (fun _=>?_) (fun _=>?_)|fail)
    refine WX.bN (σ:=Nat) (fun t=>[(12,.one c),(13,.one (.int .i64 (ps.length:Nat))),(3,dV 1 (k-1) 2),(14,.one (.int .i64 (k:Nat))),(6,dV 2 (7*17) 1),(9,.one (.int .i64 (mY p 37 t))),(10,.one (.int .i64 (mY p 53 t))),(34,.one (.int .i64 (t:Nat)))]) (fun t=>[.late L,bu 79 (fl GA acc),bu 5 (il .u8 B)]) (fun t=>t<=16) (fun t=>16-t) 0 (Nat.zero_le _) (fun k _=>stM) (bq [0,1,2] (reg:=by(repeat' (first|exact ae.nil|refine ae.gO rfl (by assumption) rfl ?_|refine rz ?_|refine ae.sl rfl (by assumption) rfl ?_));first|done|fail)) ?_;intro t ht ih2;have ra:=vy p 37 t;have rb:=vy p 53 t;have rp:=J8 ht
    have hsB:bu 5 (il .u8 B) = .cells (il .u8 B) 5 true false:=bJ fun e=>by
     have h2:(il .u8 B).length=0:=by rw[e];rfl
     rw[br]at h2;omega
    have hsv:dV 2 (7*17) 1 = .one (.slice 2 0 (7*17) (.toEnd 1)):=rfl;rw[hsB]
    by_cases hlt3:t<16
    ·have e5:(37+(t:Int)).toNat=37+t:=by omega
     have e6:(53+(t:Int)).toNat=53+t:=by omega
     have b1':=hBa (37+t) (by omega);have b2':=hBa (53+t) (by omega);have p1:=ve p (37+t);have p2:=ve p (53+t);have v1':0<=B.getD (37+(t:Int)).toNat 0/\B.getD (37+(t:Int)).toNat 0<=1:=by rw[e5,b1'];exact p1
     have v2':0<=B.getD (53+(t:Int)).toNat 0/\B.getD (53+(t:Int)).toNat 0<=1:=by rw[e6,b2'];exact p2
     have hn1:mY p 37 (t+1)=2*mY p 37 t+B.getD (37+(t:Int)).toNat 0:=by rw[mY,e5,b1']
     have hn2:mY p 53 (t+1)=2*mY p 53 t+B.getD (53+(t:Int)).toNat 0:=by rw[mY,e6,b2']
     repeat' (first|refine zz ?_|refine zx (fun _=>?_) (fun _=>?_)|fail)
     exact ih2 (t+1) _ _ _ (bq [0,1,2] (obj:=by(repeat' (first|exact af.nil|refine af.flat (by rw[hsB];rfl) ?_|refine oz ?_));first|done|fail) (reg:=by(repeat' (first|exact ae.nil|refine ae.gO rfl (by assumption) rfl ?_|refine ae.flat (by rw[hn1];rfl) ?_|refine ae.flat (by rw[hn2];rfl) ?_|refine rz ?_|refine ae.sl rfl (by assumption) rfl ?_));first|done|fail)) (by omega) (by omega)
    ·obtain rfl:t=16:=by omega
     clear ih2;have hpf:GA (kA p) = [.int .i64 (mY p 37 16),.int .i64 (mY p 53 16)]:=rfl
     repeat' (first
      |(refine qz ?_;first
       |refine uh (enc:=GA) (a:=kA p) ?_
       |refine xe (enc:=GA) ?_)
      |refine zz ?_|refine zx (fun _=>?_) (fun _=>?_)|fail)
     exact ih (k+1) _ _ _ (bq [0,4] (obj:=by(repeat' (first|exact af.nil|refine af.flat (by rw[hs1];rfl) ?_|refine oz ?_));first|done|fail) (reg:=by(repeat' (first|exact ae.nil|refine ae.gO rfl (by assumption) rfl ?_|refine ae.iO rfl rfl (by omega) ?_|refine rz ?_|refine ae.sl rfl (by assumption) rfl ?_));first|done|fail)) (by omega) (by omega)
 ·obtain rfl:k=ps.length:=by omega
  repeat' (first
   |(refine qz ?_;first
    |refine ll ?_)
   |refine zz ?_|refine zx (fun _=>?_) (fun _=>?_)|fail)
  show aE _ _ _ _ _ _ _ _;refine kV [0,1] ?_;rw[dB];rfl
theorem CU{L:List (List XC)}{cs:List XC}{ps:List (List Int)}(hb:lE L cs ps){c:XC}{i n:Nat}(hc:cy L i c cs n)(hpn:ps.length=n)(hn:ps.length<=1000000)(hp:∀i,0<i->i<ps.length->21<=(ps.getD i []).length/\(ps.getD i []).length<=100000000)(hpB:∀i,aR (ps.getD i [])){q:List (Int×Int)}(hq:q9 ps ps.length=q){HS:ah}(hi:HS[i]? = some (.late L)){N:Nat}(hN:HS.length=N){HS':ah}(hh:HS++[bu 79 (fl GA q)]=HS')(hbd:Nat.blt HS'.length Mem.bound=true) :
 aA.Sound prog ⟨24,[.one c],HS,dV N (n-1) 2,HS',[i]⟩:=by
 subst hpn hN hq;obtain⟨c0,h0,rfl⟩:=hc.back 0 (nth [i]) rfl;refine bh [i] [i] 1 (AZ hb h0 hn hp hpB) (by simp) (.flat hi .nil) (.flat .nil) (.flat (.flat .nil)) rfl (.cons (h0.ok (Nat.lt_succ_self 0)) .nil) (.cons rfl .nil) (iF (Nat.le_of_ble_eq_true rfl)) (dB ..) (.flat (.flat .nil)) ?_ rfl (by simp only[bD];rw[aB hi];exact hh) hbd (.inl rfl);cases fl GA (q9 ps ps.length)<;>simp[fX,aj.live,aj.own,bu]
theorem Gn{b:Bool}{c:XC}{n:Nat}(h:c.ok n):(XV.agg [.bool b,c]).bt n:=fun x hx=>by
 simp only[List.mem_cons,List.not_mem_nil,or_false]at hx
 rcases hx with rfl|rfl
 ·trivial
 ·exact h
theorem FU(kind at_ burst:Int)(co cm:XC){L:List (List XC)}{od mk:List Int}(hco:cy L 0 co (il .u16 od) od.length)(hcm:cy L 0 cm (il .u8 mk) mk.length)(hk:0<=kind/\kind<256)(hk7:kind%8=7)(a b:Nat)(ha:1<=a/\a<=30000)(hb:1<=b/\b<=30000) :
 bm prog 38 [.agg (eI kind at_ burst co cm),.one (.int .i64 (a:Nat)),.one (.int .i64 (b:Nat))] [.late L] (.agg [.bool false,cm]) [.late L]:=by
 have hco2:=hco.ok (Nat.lt_succ_self 0);have hcm2:=hcm.ok (Nat.lt_succ_self 0);refine cO Tryz.func38 ?_
 repeat' (first|refine zz ?_|refine zx (fun _=>?_) (fun _=>?_)|fail)
 show aE _ _ _ _ _ _ _ _;refine kV [0] ?_ (hr:=gq.one rfl (.cell rfl rfl (cC rfl) .nil)) (hok:=Gn hcm2);simp only[XV.aC,List.map_cons,List.map_nil,hcm.id (τ:=nth [0]) rfl];rfl
def fQ(s:qn)(a b:Nat):Fa:=
 if s.kind%8<5 then⟨decide (s.kind%8=4),[]⟩
 else if s.kind%8=7 then⟨false,s.mask⟩
 else if s.kind%8=5 then⟨false,m5 (a+b) (wW s.at_ a) (p_ s.at_ a b) (Su s.at_ a b) s.burst 16⟩
 else⟨false,f6 s.at_ s.odd (a+b) (wW s.at_ a) (p_ s.at_ a b)⟩
theorem RU(l:List Int)(hl:∀z∈l,0<=z/\z<256):aR l:=fun i=>by
 rw[List.getD_eq_getElem?_getD]
 cases h:l[i]? with
 | none=>show(0:Int)<=0/\(0:Int)<256;omega
 | some z=>exact hl z (List.mem_of_getElem? h)
theorem IS{s:qn}(hs:qo s)(hm:s.mask.length<=500){a b:Nat}(ha:a<=30000)(hb:b<=30000):aR (fQ s a b).mask/\(fQ s a b).mask.length<=60000:=by
 unfold fQ;split
 ·exact⟨fun i=>by show(0:Int)<=0/\(0:Int)<256;omega,Nat.zero_le _⟩
 ·split
  ·exact⟨RU _ hs.mask,by show s.mask.length<=_;omega⟩
  ·split
   ·exact⟨tL _ _ _ _ _ _,by show(m5 _ _ _ _ _ _).length<=_;rw[uV];omega⟩
   ·exact⟨tM _ _ _ _ _ _,by show(f6 _ _ _ _ _).length<=_;unfold f6;rw[uW];omega⟩
def lJ(LA:List (List XC))(x:List (List XC)×List mA)(c:o_)(s:qn)(a b:Nat):List (List XC)×List mA:=
 if s.kind%8<5 then(x.1,x.2++[⟨decide (s.kind%8=4),.nils⟩])
 else if s.kind%8=7 then match c.cm with
  | .lsl _ k _ n fl _=>(x.1++[LA.getD k []],x.2++[⟨false,.lsl 0 x.1.length 0 n fl 0⟩])
  | cc=>(x.1,x.2++[⟨false,cc⟩])
 else(x.1++[il .u8 (fQ s a b).mask],x.2++[⟨false,.lsl 0 x.1.length 0 (fQ s a b).mask.length (fQ s a b).mask.length 0⟩])
def AW(ps:List (List Int))(i:Nat):Nat×Nat:=((kA (ps.getD (i+1) [])).1.toNat,(kA (ps.getD (i+1) [])).2.toNat)
def pw(LA:List (List XC))(l:List o_)(q:List qn)(ps:List (List Int)):Nat->List (List XC)×List mA
 | 0=>([],[])
 | i+1=>if i<q.length then lJ LA (pw LA l q ps i) (l.getD i default) (q.getD i default) (AW ps i).1 (AW ps i).2 else pw LA l q ps i
def ki(q:List qn)(ps:List (List Int)):Nat->List Fa
 | 0=>[]
 | i+1=>if i<q.length then ki q ps i++[fQ (q.getD i default) (AW ps i).1 (AW ps i).2]else ki q ps i
theorem oO(q:List qn)(ps:List (List Int)):∀i,(ki q ps i).length=min i q.length
 | 0=>by simp[ki]
 | i+1=>by
   rw[ki];split
   ·rw[List.length_append,oO q ps i,List.length_singleton];omega
   ·rw[oO q ps i];omega
theorem cy.mono{L:List (List XC)}{g:Nat}{c:XC}{vs:List XC}{n:Nat}(h:cy L g c vs n)(r:List (List XC)):cy (L++r) g c vs n:=by
 rcases h with h|⟨k,fl,h1,h2,h3⟩
 ·exact .inl h
 ·exact .inr ⟨k,fl,h1,h2,by rw[List.getElem?_append_left (List.getElem?_eq_some_iff.1 h3).1];exact h3⟩
theorem jW{L:List (List XC)}{l:List mA}{fs:List Fa}(h:gm L l fs){r:List (List XC)}{x:mA}{f:Fa}(h1:x.lost=f.lost)(h2:cy (L++r) 0 x.c (il .u8 f.mask) f.mask.length):gm (L++r) (l++[x]) (fs++[f]):=by
 refine⟨by rw[List.length_append,List.length_append,h.1];rfl,fun i hi=>?_⟩;rw[List.length_append,List.length_singleton]at hi
 by_cases hlt:i<fs.length
 ·have e1:(l++[x]).getD i default=l.getD i default:=by
   rw[List.getD_eq_getElem?_getD,List.getElem?_append_left (by rw[h.1];exact hlt),List.getD_eq_getElem?_getD]
  have e2:(fs++[f]).getD i default=fs.getD i default:=by
   rw[List.getD_eq_getElem?_getD,List.getElem?_append_left hlt,List.getD_eq_getElem?_getD]
  rw[e1,e2];exact⟨(h.2 i hlt).1,cy.mono (h.2 i hlt).2 r⟩
 ·obtain rfl:i=fs.length:=by omega
  have e1:(l++[x]).getD fs.length default=x:=by
   rw[List.getD_eq_getElem?_getD,List.getElem?_append_right (by rw[h.1];exact Nat.le_refl _),h.1,Nat.sub_self];rfl
  have e2:(fs++[f]).getD fs.length default=f:=by
   rw[List.getD_eq_getElem?_getD,List.getElem?_append_right (Nat.le_refl _),Nat.sub_self];rfl
  rw[e1,e2];exact⟨h1,h2⟩
theorem F5{LA:List (List XC)}{x:List (List XC)×List mA}{fs:List Fa}(h:gm x.1 x.2 fs){c:o_}{s:qn}(hcm:cy LA 0 c.cm (il .u8 s.mask) s.mask.length)(a b:Nat):gm (lJ LA x c s a b).1 (lJ LA x c s a b).2 (fs++[fQ s a b]):=by
 unfold lJ fQ;split
 ·have:=jW (r:=[]) h (x:=⟨decide (s.kind%8=4),.nils⟩) (f:=⟨decide (s.kind%8=4),[]⟩) rfl (.inl ⟨rfl,.inl rfl⟩);rwa [List.append_nil]at this
 ·split
  ·rcases hcm with⟨h0,e|⟨k,e⟩⟩|⟨k,fl,h1,e,h3⟩
   ·rw[e];have:=jW (r:=[]) h (x:=⟨false,.nils⟩) (f:=⟨false,s.mask⟩) rfl (.inl ⟨h0,.inl rfl⟩);rwa [List.append_nil]at this
   ·rw[e];have:=jW (r:=[]) h (x:=⟨false,.lem k⟩) (f:=⟨false,s.mask⟩) rfl (.inl ⟨h0,.inr ⟨k,rfl⟩⟩);rwa [List.append_nil]at this
   ·rw[e];refine jW h rfl (.inr ⟨x.1.length,fl,h1,rfl,?_⟩);rw[List.getElem?_append_right (Nat.le_refl _),Nat.sub_self,List.getD_eq_getElem?_getD,h3];rfl
  ·split
   ·refine jW h rfl (.inr ⟨x.1.length,_,Nat.le_refl _,rfl,?_⟩);rw[List.getElem?_append_right (Nat.le_refl _),Nat.sub_self];rfl
   ·refine jW h rfl (.inr ⟨x.1.length,_,Nat.le_refl _,rfl,?_⟩);rw[List.getElem?_append_right (Nat.le_refl _),Nat.sub_self];rfl
theorem n6{LA:List (List XC)}{l:List o_}{q:List qn}(hq:pr LA l q)(ps:List (List Int)):∀i,gm (pw LA l q ps i).1 (pw LA l q ps i).2 (ki q ps i)
 | 0=>⟨rfl,fun i hi=>absurd hi (Nat.not_lt_zero _)⟩
 | i + 1=>by
   rw[pw,ki];split
   ·rename_i h;exact F5 (n6 hq ps i) (hq.2 i h).2.2.2.2 _ _
   ·exact n6 hq ps i
theorem yJ{l:List mA}{n:Nat}(h:∀f∈l,f.c.f7 n=true):∀c∈fl cK l,c.f7 n=true:=fun c hc=>by
 obtain⟨f,hf,hc⟩:=List.mem_flatMap.1 hc;simp only[cK,List.mem_cons,List.not_mem_nil,or_false]at hc
 rcases hc with rfl|rfl
 ·rfl
 ·exact h f hf
theorem iy{L:List (List XC)}{l:List mA}{fs:List Fa}(h:gm L l fs):∀c∈fl cK l,c.f7 L.length=true:=yJ fun f hf=>by
 obtain⟨i,hi,rfl⟩:=List.mem_iff_getElem.1 hf;have:=(h.2 i (by rw[<-h.1];exact hi)).2;rw[List.getD_eq_getElem?_getD,List.getElem?_eq_getElem hi,Option.getD_some]at this
 rcases this with⟨_,e|⟨k,e⟩⟩|⟨k,fl,_,e,h3⟩
 ·rw[e];rfl
 ·rw[e];rfl
 ·rw[e];have:=(List.getElem?_eq_some_iff.1 h3).1;simp only[XC.f7,Nat.blt_eq];exact this
theorem EX{kind at_ burst:Int}{co cm:XC}{n:Nat}(h1:co.ok n)(h2:cm.ok n):(XV.agg (eI kind at_ burst co cm)).bt n:=fun x hx=>by
 simp only[eI,List.mem_cons,List.not_mem_nil,or_false]at hx
 rcases hx with rfl|rfl|rfl|rfl|rfl
 ·trivial
 ·trivial
 ·trivial
 ·exact h1
 ·exact h2
structure HR(LA:List (List XC))(g:Nat)(s:qn)(co cm:XC)(a b:Nat):Prop where
 co:cy LA g co (il .u16 s.odd) s.odd.length
 cm:cy LA g cm (il .u8 s.mask) s.mask.length
 ok:qo s
 few:s.odd.length<=30
 a:1<=a/\a<=30000
 b:1<=b/\b<=30000
theorem qF{LA:List (List XC)}{g:Nat}{s:qn}{co cm:XC}{a b:Nat}(h:HR LA g s co cm a b)(hk:s.kind%8<5\/s.kind%8=7){f:Fa}(hf:fQ s a b=f){x:XC}(hx:(if s.kind%8<5 then .nils else cm)=x){HS:ah}(hg:HS[g]? = some (.late LA))(hbd:Nat.blt HS.length Mem.bound=true) :
 aA.Sound prog ⟨38,[.agg (eI s.kind s.at_ s.burst co cm),.one (.int .i64 (a:Nat)),.one (.int .i64 (b:Nat))],HS,.agg [.bool f.lost,x],HS,[]⟩:=by
 subst hf hx;obtain⟨c0,h0,rfl⟩:=h.co.back 0 (nth [g]) rfl;obtain⟨d0,k0,rfl⟩:=h.cm.back 0 (nth [g]) rfl
 have hod:∀p,0<=s.odd.getD p 0/\s.odd.getD p 0<65536:=fun p=>by
  rw[List.getD_eq_getElem?_getD]
  cases e:s.odd[p]? with
  | none=>show(0:Int)<=0/\(0:Int)<65536;omega
  | some z=>exact h.ok.odd z (List.mem_of_getElem? e)
 unfold fQ
 rcases hk with hk|hk
 ·rw[if_pos hk,if_pos hk];exact f_ [g] (Ct s.kind s.at_ s.burst c0 d0 h0 k0 h.ok.kind hk a b h.a h.b) (by simp) (.flat hg .nil) (.flat .nil) (.cons (EX (h0.ok (Nat.lt_succ_self 0)) (k0.ok (Nat.lt_succ_self 0))) (.flat (.flat .nil))) (.cons rfl (.flat (.flat .nil))) (Gn trivial) rfl hbd rfl
 ·have hk5:¬s.kind%8<5:=by omega
  rw[if_neg hk5,if_pos hk,if_neg hk5];exact f_ [g] (FU s.kind s.at_ s.burst c0 d0 h0 k0 h.ok.kind hk a b h.a h.b) (by simp) (.flat hg .nil) (.flat .nil) (.cons (EX (h0.ok (Nat.lt_succ_self 0)) (k0.ok (Nat.lt_succ_self 0))) (.flat (.flat .nil))) (.cons rfl (.flat (.flat .nil))) (Gn (k0.ok (Nat.lt_succ_self 0))) rfl hbd rfl
theorem IT{LA:List (List XC)}{g:Nat}{s:qn}{co cm:XC}{a b:Nat}(h:HR LA g s co cm a b)(hk:s.kind%8=5\/s.kind%8=6){m:List Int}(hm:(fQ s a b).mask=m){n:Nat}(hn:a+b=n){HS:ah}(hg:HS[g]? = some (.late LA)){N:Nat}(hN:HS.length=N){HS':ah}(hh:HS++[.cells (il .u8 m) 5 false false]=HS')(hbd:Nat.blt HS'.length Mem.bound=true) :
 aA.Sound prog ⟨38,[.agg (eI s.kind s.at_ s.burst co cm),.one (.int .i64 (a:Nat)),.one (.int .i64 (b:Nat))],HS,.agg [.bool false,.slice N 0 n (.exact n)],HS',[g]⟩:=by
 subst hm hN hn;obtain⟨c0,h0,rfl⟩:=h.co.back 0 (nth [g]) rfl;obtain⟨d0,k0,rfl⟩:=h.cm.back 0 (nth [g]) rfl
 have hod:∀p,0<=s.odd.getD p 0/\s.odd.getD p 0<65536:=fun p=>by
  rw[List.getD_eq_getElem?_getD]
  cases e:s.odd[p]? with
  | none=>show(0:Int)<=0/\(0:Int)<65536;omega
  | some z=>exact h.ok.odd z (List.mem_of_getElem? e)
 have hk5:¬s.kind%8<5:=by omega
 have hk7:¬s.kind%8=7:=by omega
 have e:bD HS [g] [.late LA,.cells (il .u8 (fQ s a b).mask) 5 false false]=HS':=by simp only[bD];rw[aB hg];exact hh
 unfold fQ at e;rw[if_neg hk5,if_neg hk7]at e
 by_cases h5:s.kind%8=5
 ·rw[if_pos h5]at e;exact bh [g] [g] 1 (FR s.kind s.at_ s.burst c0 d0 h0 k0 h.ok.kind h5 h.ok.at_ h.ok.burst a b h.a h.b) (by simp) (.flat hg .nil) (.flat .nil) (.flat (.flat .nil)) rfl (.cons (EX (h0.ok (Nat.lt_succ_self 0)) (k0.ok (Nat.lt_succ_self 0))) (.flat (.flat .nil))) (.cons rfl (.flat (.flat .nil))) (Gn (show 1<2 by omega)) rfl (.flat (.flat .nil)) rfl rfl e hbd (.inl rfl)
 ·rw[if_neg h5]at e;exact bh [g] [g] 1 (FT s.kind s.at_ s.burst c0 d0 h0 k0 h.ok.kind (by omega) h.ok.at_ hod h.few a b h.a h.b) (by simp) (.flat hg .nil) (.flat .nil) (.flat (.flat .nil)) rfl (.cons (EX (h0.ok (Nat.lt_succ_self 0)) (k0.ok (Nat.lt_succ_self 0))) (.flat (.flat .nil))) (.cons rfl (.flat (.flat .nil))) (Gn (show 1<2 by omega)) rfl (.flat (.flat .nil)) rfl rfl e hbd (.inl rfl)
end Go.Proofs.YthdciapjllppjaaGreat
namespace Go.Xm
variable [av]
section
variable {P:Program} {ops:Array Oper} {nt nI:Nat} {al:aL} {hs:ah} {o:Oper} {l:List Oper} {L:List aA} {K:List Ab->aL->ah->Prop} {d:Nat}
theorem yw{t t1 e e1:TypeId}{sz len:Nat}{a b:Operand}{zs:List XC}(i n:Nat){j:Nat}{cap:nQ}(cs:List XC){vs:List XC}{et:TypeId}{opn ro:Bool}{N:Nat}{hs':ah}(hk:SK P ops nt L l ((d,dV N (n+len) sz)::al) hs' fun bs=>K (⟨true,.none,[i,N]⟩::bs))(ho:o.op = .call ⟨.builtin .append,#[a,b],#[t,t1]⟩:=by exact rfl)(hu:aG P t (.slice e):=by infer_instance)(hu1:aG P t1 (.slice e1):=by infer_instance)(hz:aK P e zs:=by infer_instance)(hI:TI P e sz:=by infer_instance)(wn:Wn ops nt al o d:=by exact⟨rfl,rfl,rfl⟩)(hsz:zs.length=sz/\0<sz:=by exact⟨rfl,Nat.le_of_ble_eq_true rfl⟩)(ha:ag (rg al) a=dV i n sz:=by exact rfl)(hi:hs[i]? = some (bu e cs):=by exact rfl)(hb:ag (rg al) b = .one (.slice j 0 len cap):=by exact rfl)(hj:hs[j]? = some (.cells vs et opn ro):=by exact rfl)(hl:vs.length=len*sz:=by exact rfl)(hn:cs.length=n*sz:=by exact rfl)(hm:0<len/\n+len<=2000000000:=by omega)(hN:hs.length=N:=by exact n2)(hbd:Nat.blt N Mem.bound=true:=by exact rfl)(hh:hs.set i .dead++[bu e (cs++vs)]=hs':=by first|(simp only[List.set_cons_succ,List.set_cons_zero,List.cons_append,List.nil_append];exact rfl)|exact rfl):SK P ops nt L (o::l) al hs K:=by
 have hpos:0<len*sz:=Nat.mul_pos hm.1 hsz.2
 have hne:cs++vs≠[]:=fun e=>by
  have h2:(cs++vs).length=0:=by rw[e];rfl
  rw[List.length_append]at h2;omega
 refine TG i n cs ?_ ho hu hu1 hz hI wn hsz ha hi hb hj hl hn hm hN hbd (hs':=hs') ?_
 ·rw[c_ (by omega)]at hk;exact hk
 ·rw[<-hh,bJ hne]
end
theorem cy.iA{L:List (List XC)}{g g' m:Nat}{c:XC}{vs:List XC}{n:Nat}(h:cy L g' c vs n)(hne:g'≠g):c.iA g m:=by
 rcases h with⟨_,rfl|⟨i,rfl⟩⟩|⟨k,fl,_,rfl,_⟩
 ·trivial
 ·trivial
 ·exact fun e=>absurd e hne
theorem aO.Qg{i g m:Nat}{A B:XC}{L:List (List XC)}{vs cs:List XC}{e:TypeId}{j:Nat}{hs hs2:ah}(hj:Nat.beq j i=false)(hn:∀c∈cs,c.iA g m)(h:aO i g m A B L vs (j+1) hs hs2):aO i g m A B L vs j (Xm.bu e cs::hs) (Xm.bu e cs::hs2):=by
 cases cs with
 | nil=>exact .dead h
 | cons c r=>exact .cells hj (.same hn) h
theorem ek{cs:List XC}{e:TypeId}{n:Nat}(h:∀c∈cs,c.ok n):(bu e cs).bt n:=by
 cases cs with
 | nil=>trivial
 | cons c r=>exact h
theorem cq{vs:List XC}{m:Nat}(h:∀c∈vs,c.f7 m=true){g n:Nat}(hg:g<n):∀c∈vs.map (·.self g),c.ok n:=rl (t:=0) (a:=false) (b:=false) h hg
theorem c9{τ : Nat->Nat}{HS:ah}{i:Nat}{ls:List Nat}{hs:ah}{vs:List XC}{e:TypeId}{g m:Nat}(hl:∀c∈vs,c.f7 m=true)(hi:HS[i]? = some (bu e (vs.map (·.self g))))(hg : τ g=g)(r:af τ HS ls hs):af τ HS (i::ls) (bu e (vs.map (·.self g))::hs):=by
 refine af.cons ?_ r;rw[hi]
 cases hv:vs.map (·.self g)with
 | nil=>rfl
 | cons c r=>
   have:=oU hl g τ;rw[hg,hv]at this;show some (aj.cells (c::r) e true false)=some (.cells ((c::r).map (·.aC τ)) e true false);rw[this]
end Go.Xm
namespace Go.Proofs.YthdciapjllppjaaGreat
open Go.Xm
variable [av]
theorem zO:aK prog 125 (eI 0 0 0 .nils .nils):=by
 show aK prog 125 [.int .u8 0,.int .u16 0,.int .u16 0,.nils,.nils]
 infer_instance
theorem Ko{L:List (List XC)}{l:List o_}{q:List qn}(h:pr L l q){i:Nat}(hi:i<q.length)(g:Nat):∃co cm,i<l.length/\(kX (l.getD i default)).map (·.self g)=eI (q.getD i default).kind (q.getD i default).at_ (q.getD i default).burst co cm/\cy L g co (il .u16 (q.getD i default).odd) (q.getD i default).odd.length/\cy L g cm (il .u8 (q.getD i default).mask) (q.getD i default).mask.length/\cm=(l.getD i default).cm.self g/\cy L 0 (l.getD i default).cm (il .u8 (q.getD i default).mask) (q.getD i default).mask.length:=by
 obtain⟨h1,h2,h3,h4,h5⟩:=h.2 i hi;refine⟨_,_,by rw[h.1];exact hi,?_,h4.self g,h5.self g,rfl,h5⟩;rw[<-h1,<-h2,<-h3];rfl
def LD(x:List (List XC)×List mA):List (List XC):=if x.2.length=0 then x.1 else x.1++[fl cK x.2]
def LF(x:List (List XC)×List mA)(g:Nat):XC:=if x.2.length=0 then .nils else .lsl g x.1.length 0 x.2.length x.2.length 0
theorem IP{x:List (List XC)×List mA}(g:Nat):cy (LD x) g (LF x g) (fl cK x.2) x.2.length:=by
 unfold LD LF;split
 ·rename_i h;exact .inl ⟨h,.inl rfl⟩
 ·refine .inr ⟨_,_,Nat.le_refl _,rfl,?_⟩;rw[List.getElem?_append_right (Nat.le_refl _),Nat.sub_self];rfl
theorem Ga{L:List (List XC)}{l:List mA}{fs:List Fa}(h:gm L l fs)(r:List (List XC)):gm (L++r) l fs:=
 ⟨h.1,fun i hi=>⟨(h.2 i hi).1,cy.mono (h.2 i hi).2 r⟩⟩
theorem O3{x:List (List XC)×List mA}{fs:List Fa}(h:gm x.1 x.2 fs):gm (LD x) x.2 fs:=by
 unfold LD;split
 ·exact h
 ·exact Ga h _
theorem rr{k n z g m:Nat}(h:k≠g):(fk k n z).iA g m:=by
 unfold fk;split
 ·trivial
 ·exact h
theorem RC{i g m:Nat}{A B:XC}{L:List (List XC)}{ws:List XC}{e:TypeId}{j:Nat}{hs hs2:ah}{vs:List XC}(hso:bu e (vs.map (·.self g)++[.bool false,A]) = .cells (vs.map (·.self g)++[.bool false,A]) e true false)(hl:∀c∈vs,c.f7 m=true)(hj:Nat.beq j i=false)(h:aO i g m A B L ws (j+1) hs hs2):aO i g m A B L ws j (bu e (vs.map (·.self g)++[.bool false,A])::hs) (.cells (vs.map (·.self g)++[.bool false,B]) e true false::hs2):=by
 rw[hso];exact .cells hj (cU.app (cU.same (d8 hl _ _)) (cU.cons (.same trivial) (.cons .uC (.same (fun _ h=>nomatch h))))) h
theorem ED{vs:List XC}{m g n k p fL:Nat}{e:TypeId}{a b c:Bool}(hl:∀c∈vs,c.f7 m=true)(hg:g<n):(aj.cells (vs.map (·.self g)++[.bool c,.lsl g k 0 p fL 0]) e a b).bt n:=fun x hx=>by
 rcases List.mem_append.1 hx with hx|hx
 ·exact cq hl hg x hx
 ·simp only[List.mem_cons,List.not_mem_nil,or_false]at hx
  rcases hx with rfl|rfl
  ·trivial
  ·exact hg
structure yq(ps:List (List Int)):Prop where
 len:ps.length<=1000
 body:∀i,0<i->i<ps.length->21<=(ps.getD i []).length/\(ps.getD i []).length<=100000000
 byte:∀i,aR (ps.getD i [])
 prt:∀i,i+1<ps.length->kA (ps.getD (i+1) [])=((((AW ps i).1:Nat):Int),(((AW ps i).2:Nat):Int))/\(1<=(AW ps i).1/\(AW ps i).1<=30000)/\(1<=(AW ps i).2/\(AW ps i).2<=30000)
theorem EJ(ps:List (List Int)):∀n i,i+1<n->(q9 ps n).getD i default=kA (ps.getD (i+1) [])
 | 0,i,h=>by omega
 | n + 1,i,h=>by
   rw[q9,if_neg (by omega),List.getD_eq_getElem?_getD]
   by_cases hi:i+1<n
   ·rw[List.getElem?_append_left (by rw[l8];omega),<-List.getD_eq_getElem?_getD];exact EJ ps n i hi
   ·obtain rfl:n=i+1:=by omega
    rw[List.getElem?_append_right (by rw[l8];omega),l8,show i-(i+1-1)=0 by omega];rfl
theorem F4{LA:List (List XC)}{l:List o_}{q:List qn}(hq:pr LA l q)(ps:List (List Int))(i:Nat):(pw LA l q ps i).2.length=min i q.length:=by
 rw[(n6 hq ps i).1,oO]
theorem FV{LP LA:List (List XC)}{cs:List XC}{ps:List (List Int)}(hb:lE LP cs ps){l:List o_}{q:List qn}(hq:pr LA l q){c d:XC}(hc:cy LP 0 c cs ps.length)(hd:cy LA 1 d (fl kX l) q.length)(hqk:∀i,i<q.length->qo (q.getD i default)/\(q.getD i default).odd.length<=30)(hps:yq ps)(hql:q.length<=1000){x:List (List XC)×List mA}(hx:pw LA l q ps (ps.length-1)=x) :
 bm prog 19 [.one c,.one d] [.late LP,.late LA] (.one (LF x 2)) [.late LP,.late LA,.late (LD x)]:=by
 have hcok:∀n,c.ok (n+2):=fun n=>hc.ok (by omega)
 have hdok:∀n,d.ok (n+2):=fun n=>hd.ok (by omega)
 have hpl:=hps.len
 obtain⟨np,hnp⟩:∃n,ps.length-1=n:=⟨_,rfl⟩
 obtain⟨prt,hprt⟩:∃p,q9 ps ps.length=p:=⟨_,rfl⟩
 have hprl:prt.length=np:=by rw[<-hprt,l8,hnp]
 have hpra:=fun i (hi:i+1<ps.length)=>EJ ps ps.length i hi
 rw[hprt]at hpra;have hpp:=hps.prt;have hbody:=hps.body;have hbyte:=hps.byte;rw[hnp]at hx
 obtain⟨fr,hfr⟩:∃f,pw LA l q ps=f:=⟨_,rfl⟩
 have hfrl:∀i,(fr i).2.length=min i q.length:=fun i=>by rw[<-hfr];exact F4 hq ps i
 have hfri:∀i,gm (fr i).1 (fr i).2 (ki q ps i):=fun i=>by rw[<-hfr];exact n6 hq ps i
 have hfr0:fr 0=([],[]):=by rw[<-hfr];rfl
 have hfrs:∀i,fr (i+1)=if i<q.length then lJ LA (fr i) (l.getD i default) (q.getD i default) (AW ps i).1 (AW ps i).2 else fr i:=fun i=>by rw[<-hfr];rfl
 rw[hfr]at hx;refine cO Tryz.func19 ?_;refine WX.ghost rfl ?_;refine WX.bU rfl ?_
 repeat' (first
  |(refine qz ?_;first
   |refine cl ?_ (hi:=by exact CU hb (i:=0) hc rfl (by omega) hbody hbyte hprt rfl nL nA rfl))
  |refine zz ?_|refine zx (fun _=>?_) (fun _=>?_)|fail)
 rw[hnp];refine WX.bN (σ:=Nat) (fun i=>[(1,.one d),(9,dV 4 np 2),(10,.one (.int .i64 (np:Nat))),(5,dV 3 (fr i).2.length 2),(11,.one (.int .i64 (i:Nat)))]) (fun i=>[.late LP,.late LA,.late (fr i).1,bu 69 ((fl cK (fr i).2).map (·.self 2)),bu 79 (fl GA prt)]) (fun i=>i<=np) (fun i=>np-i) 0 (Nat.zero_le _) (fun i _=>by have hz:=iy (hfri i);exact stM (objs:=by repeat' (first|exact ak.nil|refine ak.flat ?_|refine ak.cons (ek (cq (by assumption) (Nat.le_of_ble_eq_true rfl))) ?_))) (bq [0,1,2,3,4] (obj:=by(repeat' (first|exact af.nil|refine af.flat (by rw[hfr0];rfl) ?_|refine af.cons (by rw[hfr0];rfl) ?_|refine oz ?_));first|done|fail) (reg:=by(repeat' (first|exact ae.nil|refine ae.gO rfl (by assumption) rfl ?_|refine ae.cons (by rw[hfr0];rfl) ?_|refine rz ?_|refine ae.sl rfl (by assumption) rfl ?_));first|done|fail)) ?_;intro i hi ih;have hlok:=iy (hfri i);have hln:=hfrl i;have hcl:((fl cK (fr i).2).map (·.self 2)).length=(fr i).2.length*2:=by rw[List.length_map,pZ]
 by_cases hlt:i<np
 ·have hpi : i+1<ps.length:=by omega
  obtain⟨p1,p2,p3⟩:=hpp i hpi;have hpe:prt.getD i default=((((AW ps i).1:Nat):Int),(((AW ps i).2:Nat):Int)):=(hpra i hpi).trans p1
  obtain⟨a,ha⟩:∃a,(AW ps i).1=a:=⟨_,rfl⟩
  obtain⟨b,hbb⟩:∃b,(AW ps i).2=b:=⟨_,rfl⟩
  have hfs:=hfrs i;rw[ha,hbb]at hpe hfs;rw[ha]at p2;rw[hbb]at p3
  by_cases hlq:i<q.length
  ·rw [if_pos hlq]at hfs;obtain⟨sok,sodd⟩:=hqk i hlq;obtain⟨co,cm,s1,s2,s3,s4,s5,s6⟩:=Ko hq hlq 1
   obtain⟨s,hse⟩:∃s,q.getD i default=s:=⟨_,rfl⟩
   rw[hse]at sok sodd s2 s3 s4 s6 hfs
   have hA:HR LA 1 s co cm a b:=⟨s3,s4,sok,sodd,p2,p3⟩
   have hkk:=sok.kind
   obtain⟨f,hf⟩:∃f,fQ s a b=f:=⟨_,rfl⟩
   have hrm:∀{G':Prop},G'->G':=fun h=>h
   repeat' (first
    |(refine qz ?_;first
     |refine ll ?_)
    |refine qJ 6 ?_|refine eY 6 ?_|refine zz ?_|refine zx (fun _=>?_) (fun _=>?_)|fail)
   refine⟨?_⟩;rw[hpe]
   by_cases hk5:s.kind%8<5
   ·have hX:fr (i+1)=((fr i).1,(fr i).2++[⟨decide (s.kind%8=4),.nils⟩]):=by rw[hfs];unfold lJ;rw[if_pos hk5]
    have hX1:(fr (i+1)).1=(fr i).1:=by rw[hX]
    have hX2:(fr (i+1)).2=(fr i).2++[⟨decide (s.kind%8=4),.nils⟩]:=by rw[hX]
    have hlo:f.lost=decide (s.kind%8=4):=by rw[<-hf];unfold fQ;rw[if_pos hk5]
    have hcsx:(fl cK ((fr i).2++[⟨decide (s.kind%8=4),.nils⟩])).map (·.self 2)=(fl cK (fr i).2).map (·.self 2)++[.bool (decide (s.kind%8=4)),.nils]:=by
     unfold fl;rw[List.flatMap_append,List.map_append];rfl
    repeat' (first
     |(refine qz ?_;first
      |refine sc (fun kk hkk=>?_)
      |refine kn (enc:=kX) ?_ (by assumption) s1 (hc':=s2)
      |refine cl ?_ (hi:=by exact qF hA (.inl hk5) hf (if_pos hk5) rfl rfl)
      |refine sL (zs:=[.bool false,.nils]) (hz:=jI) ?_
      |refine yw 3 (fr i).2.length ((fl cK (fr i).2).map (·.self 2)) ?_ (hn:=hcl))
     |refine zz ?_|refine zx (fun _=>?_) (fun _=>?_)|fail)
    rw[hlo];exact ih (i+1) _ _ _ (bq [0,1,2,7,4] (obj:=by(repeat' (first|exact af.nil|refine c9 (iy (hfri (i+1))) (by rw[hX2,hcsx];rfl) rfl ?_|refine af.flat (by rw[hX1];rfl) ?_|refine oz ?_));first|done|fail) (reg:=by(repeat' (first|exact ae.nil|refine ae.gO rfl (by assumption) rfl ?_|refine ae.iO rfl rfl (by rw[hX2,List.length_append];rfl) ?_|refine rz ?_|refine ae.sl rfl (by assumption) rfl ?_));first|done|fail)) (by omega) (by omega)
   ·by_cases hk7:s.kind%8=7
    ·have hlo:f.lost=false:=by rw[<-hf];unfold fQ;rw[if_neg hk5,if_pos hk7]
     obtain⟨fl0,fm0⟩:=f;obtain rfl:fl0=false:=hlo
     rcases s6 with⟨z0,e|⟨k,e⟩⟩|⟨k,fL,z1,e,z3⟩
     ·rw[e]at s5;obtain rfl:cm = .nils:=s5;have hX:fr (i+1)=((fr i).1,(fr i).2++[⟨false,.nils⟩]):=by rw[hfs];unfold lJ;rw[if_neg hk5,if_pos hk7,e]
      have hX1:(fr (i+1)).1=(fr i).1:=by rw[hX]
      have hX2:(fr (i+1)).2=(fr i).2++[⟨false,.nils⟩]:=by rw[hX]
      have hcsx:(fl cK ((fr i).2++[⟨false,.nils⟩])).map (·.self 2)=(fl cK (fr i).2).map (·.self 2)++[.bool false,.nils]:=by
       unfold fl;rw[List.flatMap_append,List.map_append];rfl
      repeat' (first
       |(refine qz ?_;first
        |refine sc (fun kk hkk=>?_)
        |refine kn (enc:=kX) ?_ (by assumption) s1 (hc':=s2)
        |refine cl ?_ (hi:=by exact qF hA (.inr hk7) hf (if_neg hk5) rfl rfl)
        |refine sL (zs:=[.bool false,.nils]) (hz:=jI) ?_
        |refine yw 3 (fr i).2.length ((fl cK (fr i).2).map (·.self 2)) ?_ (hn:=hcl))
       |refine zz ?_|refine zx (fun _=>?_) (fun _=>?_)|fail)
      exact ih (i+1) _ _ _ (bq [0,1,2,7,4] (obj:=by(repeat' (first|exact af.nil|refine c9 (iy (hfri (i+1))) (by rw[hX2,hcsx];rfl) rfl ?_|refine af.flat (by rw[hX1];rfl) ?_|refine oz ?_));first|done|fail) (reg:=by(repeat' (first|exact ae.nil|refine ae.gO rfl (by assumption) rfl ?_|refine ae.iO rfl rfl (by rw[hX2,List.length_append];rfl) ?_|refine rz ?_|refine ae.sl rfl (by assumption) rfl ?_));first|done|fail)) (by omega) (by omega)
     ·rw[e]at s5;obtain rfl:cm = .lem k:=s5;have hX:fr (i+1)=((fr i).1,(fr i).2++[⟨false,.lem k⟩]):=by rw[hfs];unfold lJ;rw[if_neg hk5,if_pos hk7,e]
      have hX1:(fr (i+1)).1=(fr i).1:=by rw[hX]
      have hX2:(fr (i+1)).2=(fr i).2++[⟨false,.lem k⟩]:=by rw[hX]
      have hcsx:(fl cK ((fr i).2++[⟨false,.lem k⟩])).map (·.self 2)=(fl cK (fr i).2).map (·.self 2)++[.bool false,.lem k]:=by
       unfold fl;rw[List.flatMap_append,List.map_append];rfl
      repeat' (first
       |(refine qz ?_;first
        |refine sc (fun kk hkk=>?_)
        |refine kn (enc:=kX) ?_ (by assumption) s1 (hc':=s2)
        |refine cl ?_ (hi:=by exact qF hA (.inr hk7) hf (if_neg hk5) rfl rfl)
        |refine sL (zs:=[.bool false,.nils]) (hz:=jI) ?_
        |refine yw 3 (fr i).2.length ((fl cK (fr i).2).map (·.self 2)) ?_ (hn:=hcl))
       |refine zz ?_|refine zx (fun _=>?_) (fun _=>?_)|fail)
      exact ih (i+1) _ _ _ (bq [0,1,2,7,4] (obj:=by(repeat' (first|exact af.nil|refine c9 (iy (hfri (i+1))) (by rw[hX2,hcsx];rfl) rfl ?_|refine af.flat (by rw[hX1];rfl) ?_|refine oz ?_));first|done|fail) (reg:=by(repeat' (first|exact ae.nil|refine ae.gO rfl (by assumption) rfl ?_|refine ae.iO rfl rfl (by rw[hX2,List.length_append];rfl) ?_|refine rz ?_|refine ae.sl rfl (by assumption) rfl ?_));first|done|fail)) (by omega) (by omega)
     ·rw[e]at s5;obtain rfl:cm = .lsl 1 k 0 s.mask.length fL 0:=s5;have hgd:LA.getD k []=il .u8 s.mask:=by rw[List.getD_eq_getElem?_getD,z3];rfl
      have hX:fr (i+1)=((fr i).1++[il .u8 s.mask],(fr i).2++[⟨false,.lsl 0 (fr i).1.length 0 s.mask.length fL 0⟩]):=by rw[hfs,<-hgd];unfold lJ;rw[if_neg hk5,if_pos hk7,e]
      have hX1:(fr (i+1)).1=(fr i).1++[il .u8 s.mask]:=by rw[hX]
      have hX2:(fr (i+1)).2=(fr i).2++[⟨false,.lsl 0 (fr i).1.length 0 s.mask.length fL 0⟩]:=by rw[hX]
      have hcsx:(fl cK ((fr i).2++[⟨false,.lsl 0 (fr i).1.length 0 s.mask.length fL 0⟩])).map (·.self 2)=(fl cK (fr i).2).map (·.self 2)++[.bool false,.lsl 2 (fr i).1.length 0 s.mask.length fL 0]:=by
       unfold fl;rw[List.flatMap_append,List.map_append];rfl
      repeat' (first
       |(refine qz ?_;first
        |refine sc (fun kk hkk=>?_)
        |refine kn (enc:=kX) ?_ (by assumption) s1 (hc':=s2)
        |refine cl ?_ (hi:=by exact qF hA (.inr hk7) hf (if_neg hk5) rfl rfl)
        |refine sL (zs:=[.bool false,.nils]) (hz:=jI) ?_
        |refine yw 3 (fr i).2.length ((fl cK (fr i).2).map (·.self 2)) ?_ (hn:=hcl))
       |refine qJ 7 ?_|refine eY 7 ?_|refine zz ?_|refine zx (fun _=>?_) (fun _=>?_)|fail)
      refine⟨?_⟩;have hso:bu 69 ((fl cK (fr i).2).map (·.self 2)++[.bool false,.lsl 1 k 0 s.mask.length fL 0]) = .cells ((fl cK (fr i).2).map (·.self 2)++[.bool false,.lsl 1 k 0 s.mask.length fL 0]) 69 true false:=bJ (by simp);have hso2:bu 69 ((fl cK (fr i).2).map (·.self 2)++[.bool false,.lsl 2 (fr i).1.length 0 s.mask.length fL 0]) = .cells ((fl cK (fr i).2).map (·.self 2)++[.bool false,.lsl 2 (fr i).1.length 0 s.mask.length fL 0]) 69 true false:=bJ (by simp)
      refine WX.R1 (L:=(fr i).1) (L':=LA) (vs:=il .u8 s.mask) 1 k 0 s.mask.length fL 0 2 [(1,.one d),(9,dV 4 np 2),(10,.one (.int .i64 (np:Nat))),(11,.one (.int .i64 (i:Nat))),(5,dV 7 ((fr i).2.length+1) 2)] [.late LP,.late LA,.late ((fr i).1++[il .u8 s.mask]),.dead,bu 79 (fl GA prt),.dead,.dead,.cells ((fl cK (fr i).2).map (·.self 2)++[.bool false,.lsl 2 (fr i).1.length 0 s.mask.length fL 0]) 69 true false] (gT .u8 s.mask 0) rfl z3 (hH:=by
       repeat' (first|exact aO.nil|refine aO.ghost ?_|refine aO.flat rfl ?_|refine RC hso hlok rfl ?_|refine aO.dead ?_)) (hR:=by repeat' (first|exact bG.nil|refine bG.flat rfl ?_|refine bG.one rfl dF.uC ?_|refine bG.one rfl (dF.same (cy.iA (by assumption) (by decide))) ?_|refine bG.one rfl (dF.same (by first|trivial|(simp[XC.iA];done)|exact rr (by decide))) ?_)) (hok:=stM (objs:=by repeat' (first|exact ak.nil|refine ak.flat ?_|refine ak.cons (ED hlok (Nat.le_of_ble_eq_true rfl)) ?_|refine ak.cons trivial ?_))) (hx:=?_)
      rw[<-hso2]
      repeat' (first|refine zz ?_|refine zx (fun _=>?_) (fun _=>?_)|fail)
      exact ih (i+1) _ _ _ (bq [0,1,2,7,4] (obj:=by(repeat' (first|exact af.nil|refine c9 (iy (hfri (i+1))) (by rw[hX2,hcsx];rfl) rfl ?_|refine af.flat (by rw[hX1];rfl) ?_|refine oz ?_));first|done|fail) (reg:=by(repeat' (first|exact ae.nil|refine ae.gO rfl (by assumption) rfl ?_|refine ae.iO rfl rfl (by rw[hX2,List.length_append];rfl) ?_|refine rz ?_|refine ae.sl rfl (by assumption) rfl ?_));first|done|fail)) (by omega) (by omega)
    ·have hk56:s.kind%8=5\/s.kind%8=6:=by omega
     have hml:(fQ s a b).mask.length=a+b:=by
      unfold fQ;rw[if_neg hk5,if_neg hk7];split
      ·exact uV ..
      ·show(f6 _ _ _ _ _).length=_;unfold f6;exact uW ..
     have hX:fr (i+1)=((fr i).1++[il .u8 (fQ s a b).mask],(fr i).2++[⟨false,.lsl 0 (fr i).1.length 0 (fQ s a b).mask.length (fQ s a b).mask.length 0⟩]):=by rw[hfs];unfold lJ;rw[if_neg hk5,if_neg hk7]
     obtain⟨m,hm⟩:∃m,(fQ s a b).mask=m:=⟨_,rfl⟩
     obtain⟨n,hn⟩:∃n,a+b=n:=⟨_,rfl⟩
     rw[hm,hn]at hml;rw[hm,hml]at hX;have hX1:(fr (i+1)).1=(fr i).1++[il .u8 m]:=by rw[hX]
     have hX2:(fr (i+1)).2=(fr i).2++[⟨false,.lsl 0 (fr i).1.length 0 n n 0⟩]:=by rw[hX]
     have hcsx:(fl cK ((fr i).2++[⟨false,.lsl 0 (fr i).1.length 0 n n 0⟩])).map (·.self 2)=(fl cK (fr i).2).map (·.self 2)++[.bool false,.lsl 2 (fr i).1.length 0 n n 0]:=by
      unfold fl;rw[List.flatMap_append,List.map_append];rfl
     repeat' (first
      |(refine qz ?_;first
       |refine sc (fun kk hkk=>?_)
       |refine kn (enc:=kX) ?_ (by assumption) s1 (hc':=s2)
       |refine cl ?_ (hi:=by exact IT hA hk56 hm hn rfl nL nA rfl)
       |refine sL (zs:=[.bool false,.nils]) (hz:=jI) ?_
       |refine yw 3 (fr i).2.length ((fl cK (fr i).2).map (·.self 2)) ?_ (hn:=hcl))
      |refine qJ 7 ?_|refine eY 7 ?_|refine zz ?_|refine zx (fun _=>?_) (fun _=>?_)|fail)
     refine⟨?_⟩;have hso:bu 69 ((fl cK (fr i).2).map (·.self 2)++[.bool false,.slice 6 0 n (.exact n)]) = .cells ((fl cK (fr i).2).map (·.self 2)++[.bool false,.slice 6 0 n (.exact n)]) 69 true false:=bJ (by simp);have hso2:bu 69 ((fl cK (fr i).2).map (·.self 2)++[.bool false,.lsl 2 (fr i).1.length 0 n n 0]) = .cells ((fl cK (fr i).2).map (·.self 2)++[.bool false,.lsl 2 (fr i).1.length 0 n n 0]) 69 true false:=bJ (by simp)
     refine WX.pc (L:=(fr i).1) (vs:=il .u8 m) (us:=il .u8 m) 6 2 n (.exact n) [(1,.one d),(9,dV 4 np 2),(10,.one (.int .i64 (np:Nat))),(11,.one (.int .i64 (i:Nat))),(5,dV 8 ((fr i).2.length+1) 2)] [.late LP,.late LA,.late ((fr i).1++[il .u8 m]),.dead,bu 79 (fl GA prt),.dead,.dead,.dead,.cells ((fl cK (fr i).2).map (·.self 2)++[.bool false,.lsl 2 (fr i).1.length 0 n n 0]) 69 true false] (gT .u8 m _) (.inl ⟨n,rfl,Nat.le_refl _⟩) rfl (hv:=dM (gT .u8 m 0) 2) (hH:=by
      repeat' (first|exact aO.nil|refine aO.ghost ?_|refine aO.flat rfl ?_|refine RC hso hlok rfl ?_|refine aO.dead ?_)) (hR:=by repeat' (first|exact bG.nil|refine bG.flat rfl ?_|refine bG.one rfl dF.uC ?_|refine bG.one rfl (dF.same (cy.iA (by assumption) (by decide))) ?_|refine bG.one rfl (dF.same (by first|trivial|(simp[XC.iA];done)|exact rr (by decide))) ?_)) (hok:=stM (objs:=by repeat' (first|exact ak.nil|refine ak.flat ?_|refine ak.cons (ED hlok (Nat.le_of_ble_eq_true rfl)) ?_|refine ak.cons trivial ?_))) (h:=?_)
     rw[<-hso2]
     repeat' (first|refine zz ?_|refine zx (fun _=>?_) (fun _=>?_)|fail)
     exact ih (i+1) _ _ _ (bq [0,1,2,8,4] (obj:=by(repeat' (first|exact af.nil|refine c9 (iy (hfri (i+1))) (by rw[hX2,hcsx];rfl) rfl ?_|refine af.flat (by rw[hX1];rfl) ?_|refine oz ?_));first|done|fail) (reg:=by(repeat' (first|exact ae.nil|refine ae.gO rfl (by assumption) rfl ?_|refine ae.iO rfl rfl (by rw[hX2,List.length_append];rfl) ?_|refine rz ?_|refine ae.sl rfl (by assumption) rfl ?_));first|done|fail)) (by omega) (by omega)
  ·rw[if_neg hlq]at hfs
   repeat' (first
    |(refine qz ?_;first
     |refine ll ?_)
    |refine zz ?_|refine zx (fun _=>?_) (fun _=>?_)|fail)
   exact ih (i+1) _ _ _ (bq [0,1,2,3,4] (obj:=by(repeat' (first|exact af.nil|refine c9 (iy (hfri (i+1))) (by rw[hfs];rfl) rfl ?_|refine af.flat (by rw[hfs];rfl) ?_|refine oz ?_));first|done|fail) (reg:=by(repeat' (first|exact ae.nil|refine ae.gO rfl (by assumption) rfl ?_|refine ae.iO rfl rfl (by rw[hfs]) ?_|refine rz ?_|refine ae.sl rfl (by assumption) rfl ?_));first|done|fail)) (by omega) (by omega)
 ·obtain rfl:i=np:=by omega
  clear ih;rw[hx]at hlok hln hcl ⊢
  by_cases h0:x.2.length=0
  ·have e1:LF x 2 = .nils:=if_pos h0;have e2:LD x=x.1:=if_pos h0;rw[e1,e2,h0]
   repeat' (first|refine zz ?_|refine zx (fun _=>?_) (fun _=>?_)|fail)
   show aE _ _ _ _ _ _ _ _;refine kV [0,1,2] ?_;rfl
  ·have e1:LF x 2 = .lsl 2 x.1.length 0 x.2.length x.2.length 0:=if_neg h0;have e2:LD x=x.1++[fl cK x.2]:=if_neg h0
   have hsl:bu 69 ((fl cK x.2).map (·.self 2)) = .cells ((fl cK x.2).map (·.self 2)) 69 true false:=bJ fun e=>by
    have h2:((fl cK x.2).map (·.self 2)).length=0:=by rw[e];rfl
    rw[hcl]at h2;omega
   rw[e1,e2,hsl,c_ h0]
   repeat' (first|refine eY 8 ?_|refine lW 8 ?_|refine qJ 8 ?_|refine zz ?_|refine zx (fun _=>?_) (fun _=>?_)|fail)
   refine⟨?_⟩;refine WX.pc (L:=x.1) (vs:=fl cK x.2) (us:=(fl cK x.2).map (·.self 2)) 3 2 x.2.length (.toEnd 2) [(5,.one (.lsl 2 x.1.length 0 x.2.length x.2.length 0))] [.late LP,.late LA,.late (x.1++[fl cK x.2]),.dead,.dead] hlok (.inr ⟨2,rfl,by decide,by rw[hcl];exact Nat.le_refl _⟩) rfl (h:=?_)
   repeat' (first|refine zz ?_|refine zx (fun _=>?_) (fun _=>?_)|fail)
   show aE _ _ _ _ _ _ _ _;refine kV [0,1,2] ?_;rfl
theorem IU{LP LA:List (List XC)}{cs:List XC}{ps:List (List Int)}(hb:lE LP cs ps){l:List o_}{q:List qn}(hq:pr LA l q){c d:XC}{i j np nq:Nat}(hc:cy LP i c cs np)(hnp:ps.length=np)(hd:cy LA j d (fl kX l) nq)(hnq:q.length=nq)(hqk:∀i,i<q.length->qo (q.getD i default)/\(q.getD i default).odd.length<=30)(hps:yq ps)(hql:q.length<=1000){x:List (List XC)×List mA}(hx:pw LA l q ps (ps.length-1)=x){X:List (List XC)}(hX:LD x=X){HS:ah}(hi:HS[i]? = some (.late LP))(hj:HS[j]? = some (.late LA))(hij:i≠j){N:Nat}(hN:HS.length=N){r:XC}(hr:LF x N=r){HS':ah}(hh:HS++[.late X]=HS')(hbd:Nat.blt HS'.length Mem.bound=true) :
 aA.Sound prog ⟨19,[.one c,.one d],HS,.one r,HS',[i,j]⟩:=by
 subst hnp hnq hN hX hr;obtain⟨c0,h0,rfl⟩:=hc.back 0 (nth [i,j]) rfl;obtain⟨d0,k0,rfl⟩:=hd.back 1 (nth [i,j]) rfl;refine bh [i,j] [i,j] 1 (FV hb hq h0 k0 hqk hps hql hx) (by simp[hij]) (.flat hi (.flat hj .nil)) (.flat (.flat .nil)) (.flat (.flat (.flat .nil))) rfl (.cons (h0.ok (Nat.le_of_ble_eq_true rfl)) (.cons (k0.ok (Nat.le_of_ble_eq_true rfl)) .nil)) (.cons rfl (.cons rfl .nil)) ((IP 2).ok (Nat.le_of_ble_eq_true rfl)) ?_ (.flat (.flat (.flat .nil))) rfl rfl (by simp only[bD];rw[aB hi,aB hj];exact hh) hbd (.inl rfl);show XV.one ((LF x 2).aC _)=_;unfold LF;split
 ·rfl
 ·rfl
theorem Dq(bs:List Bool)(h0:1<=bs.length)(hb:bs.length<=1000000) :
 bm prog 66 [.one (.ptr 0 0)] (WH bs) (dV 2 ((bs.length+7)/8) 1) [aP 1 bs,au bs,au bs]:=by
 refine cO Tryz.func66 ?_;have hwl:=dH bs
 repeat' (first
  |(refine qz ?_;first
   |refine LX (n:=(bs.length+7)/8) (r:=wr bs) (dH bs) (zf rfl rfl (dH bs)) (fun h=>?_) (fun h=>?_))
  |refine zz ?_|refine zx (fun _=>?_) (fun _=>?_)|fail)
 ·omega
 ·have hw:dV 3 ((bs.length+7)/8) 1 = .one (.slice 3 0 (0+(bs.length+7)/8) (.toEnd 1)):=by
   rw[c_ (by omega),Nat.zero_add]
  have hy:au bs = .cells (il .u8 ([]++wr bs)) 5 true false:=by
   refine bJ fun hn=>?_
   have h2:(il .u8 (wr bs)).length=0:=by rw[hn];rfl
   rw[br,hwl]at h2;omega
  show aE _ _ _ _ _ _ _ _;refine kV [0,1,3] ?_ (ho:=by repeat' (first|exact af.nil|refine af.flat (by rw[hy];rfl) ?_|refine oz ?_));rw[dB,Nat.zero_add,c_ (by omega)];rfl
theorem x9{bs:List Bool}(h0:1<=bs.length)(hb:bs.length<=1000000){HS:ah}{i k:Nat}(hi:HS[i]? = some (aP k bs))(hk:HS[k]? = some (au bs))(hd:i≠k){n:Nat}(hn:(bs.length+7)/8=n){N:Nat}(hN:HS.length=N){HS':ah}(hh:HS++[au bs]=HS')(hbd:Nat.blt HS'.length Mem.bound=true) :
 aA.Sound prog ⟨66,[.one (.ptr i 0)],HS,dV N n 1,HS',[i,k]⟩:=by
 subst hN hn
 have hh':bD HS [i,k] [aP k bs,au bs,au bs]=HS':=by
  simp only[bD];rw[aB hi,aB hk];exact hh
 refine bh [i,k] [i,k] 1 (Dq bs h0 hb) (by simp[hd]) ?_ ?_ ?_ rfl (.cons (by simp[XV.bt,XC.ok]) .nil) (.cons rfl .nil) (iF (Nat.le_of_ble_eq_true rfl)) (dB ..) ?_ ?_ rfl hh' hbd (.inl rfl)
 ·exact af.ig hi rfl rfl rfl (.flat hk .nil)
 ·exact .cons (by simp[aj.bt,XC.ok,aJ]) (.flat .nil)
 ·exact .cons (by simp[aj.bt,XC.ok,aJ]) (.flat (.flat .nil))
 ·exact .cons (by simp only[aj.aC,List.map_cons,List.map_nil,XC.aC,aX];rfl) (.flat (.flat .nil))
 ·exact EU ..
theorem Le(bs:List Bool):bm prog 68 [.one (.ptr 0 0)] (WH bs) (.one (.int .i64 (bs.length:Nat))) (WH bs):=by
 refine cO Tryz.func68 ?_
 repeat' (first|refine zz ?_|refine zx (fun _=>?_) (fun _=>?_)|fail)
 show aE _ _ _ _ _ _ _ _;refine kV [0,1] ?_;rfl
theorem NK{bs:List Bool}{HS:ah}{i k:Nat}(hi:HS[i]? = some (aP k bs))(hk:HS[k]? = some (au bs))(hd:i≠k){z:Int}(hz:(bs.length:Nat)=z)(hbd:Nat.blt HS.length Mem.bound=true) :
 aA.Sound prog ⟨68,[.one (.ptr i 0)],HS,.one (.int .i64 z),HS,[i,k]⟩:=by
 subst hz
 have hh':bD HS [i,k] [aP k bs,au bs]=HS:=by
  simp only[bD];rw[aB hi,aB hk];exact List.append_nil HS
 refine bh [i,k] [i,k] 0 (Le bs) (by simp[hd]) ?_ ?_ ?_ rfl (.cons (by simp[XV.bt,XC.ok]) .nil) (.cons rfl .nil) trivial rfl ?_ ?_ rfl hh' hbd (.inl rfl)
 ·exact af.ig hi rfl rfl rfl (.flat hk .nil)
 ·exact .cons (by simp[aj.bt,XC.ok,aJ]) (.flat .nil)
 ·exact .cons (by simp[aj.bt,XC.ok,aJ]) (.flat .nil)
 ·exact .cons (by simp only[aj.aC,List.map_cons,List.map_nil,XC.aC,aX];rfl) (.flat .nil)
 ·cases il .u8 (wr bs)<;>simp[fX,aj.live,aj.own,bu]
theorem CI:bm prog 50 [] [] (.one (.slice 0 0 3 (.exact 3))) [.cells (il .u8 [0,0,1]) 5 false false]:=by
 refine cO Tryz.func50 ?_
 repeat' (first
  |(refine qz ?_;first
   |refine sL (zs:=[.int .u8 0]) ?_)
  |refine zz ?_|refine zx (fun _=>?_) (fun _=>?_)|fail)
 show aE _ _ _ _ _ _ _ _;refine kV [0] ?_;rfl
theorem sh{HS:ah}{N:Nat}(hN:HS.length=N){HS':ah}(hh:HS++[.cells (il .u8 [0,0,1]) 5 false false]=HS')(hbd:Nat.blt HS'.length Mem.bound=true) :
 aA.Sound prog ⟨50,[],HS,.one (.slice N 0 3 (.exact 3)),HS',[]⟩:=by
 subst hN;exact bh [] [] 1 CI (by simp) .nil .nil (.flat .nil) rfl .nil .nil (by show 0<1;omega) rfl (.flat .nil) rfl rfl hh hbd (.inl rfl)
def Om(bs:List Bool)(p:Ph):List Bool:=(((bs++bd p.id 16)++[p.inter])++[p.down])++bd p.qp 5
theorem Gv(p:Ph)(hp:tg p)(bs:List Bool)(hb:bs.length<=100000) :
 bm prog 65 [.agg (xK p),.one (.ptr 0 0)] (WH bs) (.one (.int .i64 0)) (LR (Om bs p)):=by
 have hid:=hp.id;have hqp:=hp.qp;have e1:(bs++bd p.id 16).length=bs.length+16:=by rw[List.length_append,bB]
 have e2:((bs++bd p.id 16)++[p.inter]).length=bs.length+17:=by rw[List.length_append,e1];rfl
 have e3:(((bs++bd p.id 16)++[p.inter])++[p.down]).length=bs.length+18:=by rw[List.length_append,e2];rfl
 refine cO Tryz.func65 ?_
 repeat' (first
  |(refine qz ?_;first
   |refine cl ?_ (hi:=by exact l6 hp rfl)
   |refine cl ?_ (hi:=by exact fu (size:=16) rfl (bs:=bs) (by omega) (by decide) (by omega) (i:=0) (k:=1) rfl rfl (by decide) nL nA rfl)
   |refine cl ?_ (hi:=by exact jv (bs:=bs++bd p.id 16) (by omega) (i:=0) (k:=3) rfl rfl (by decide) nL nA rfl)
   |refine cl ?_ (hi:=by exact jv (bs:=(bs++bd p.id 16)++[p.inter]) (by omega) (i:=0) (k:=4) rfl rfl (by decide) nL nA rfl)
   |refine cl ?_ (hi:=by exact fu (size:=5) rfl (bs:=((bs++bd p.id 16)++[p.inter])++[p.down]) (by omega) (by decide) (by omega) (i:=0) (k:=5) rfl rfl (by decide) nL nA rfl))
  |refine zz ?_|refine zx (fun _=>?_) (fun _=>?_)|fail)
 show aE _ _ _ _ _ _ _ _;refine kV [0,1,6] ?_;rfl
theorem JZ{p:Ph}(hp:tg p){bs:List Bool}(hb:bs.length<=100000){HS:ah}{i k:Nat}(hi:HS[i]? = some (aP k bs))(hk:HS[k]? = some (au bs))(hd:i≠k){N:Nat}(hN:HS.length=N){HS':ah}(hh:bD HS [i,k] [aP N (Om bs p),.dead,au (Om bs p)]=HS')(hbd:Nat.blt HS'.length Mem.bound=true) :
 aA.Sound prog ⟨65,[.agg (xK p),.one (.ptr i 0)],HS,.one (.int .i64 0),HS',[i,k]⟩:=by
 subst hN;refine bh [i,k] [i,k] 1 (Gv p hp bs hb) (by simp[hd]) ?_ ?_ ?_ rfl (.flat (.cons (by simp[XV.bt,XC.ok]) .nil)) (.flat (.cons rfl .nil)) trivial rfl ?_ (Kk ..) rfl hh hbd (.inl rfl)
 ·exact af.ig hi rfl rfl rfl (.flat hk .nil)
 ·exact .cons (by simp[aj.bt,XC.ok,aJ]) (.flat .nil)
 ·exact .cons (by simp[aj.bt,XC.ok,aJ]) (.flat (.flat .nil))
 ·exact .cons (by simp only[aj.aC,List.map_cons,List.map_nil,XC.aC,aX];rfl) (.flat (.flat .nil))
abbrev R2(p:Ph)(first count:Int)(c d:XC):List XC:=[.int .i64 p.id,.bool p.inter,.bool p.down,.int .i64 p.qp,.int .i64 first,.int .i64 count,c,d]
structure HW(p:Ph)(first count:Int)(la lb:Nat)(all:Int):Prop where
 ph:tg p
 fst:0<=first
 cnt:1<=count
 fit:first+count<=all
 most:all<=64
 a:1<=la/\la<=30000
 b:1<=lb/\lb<=30000
theorem A6{p:Ph}{first count all:Int}{la lb:Nat}(hk:HW p first count la lb all)(oa ob:aj)[cf oa][cf ob] :
 bm prog 64 [.agg (R2 p first count (.slice 0 0 la (.toEnd 1)) (.slice 1 0 lb (.toEnd 1))),.one (.int .i64 all)] [oa,ob] (.one (.int .i64 0)) [oa,ob]:=by
 obtain⟨hph,hf,hc,hfit,hall,ha,hb⟩:=hk;refine cO Tryz.func64 ?_
 repeat' (first
  |(refine qz ?_;first
   |refine uN (cs:=xK p) ?_ (hle:=by decide) (hc:=by exact rfl)
   |refine cl ?_ (hi:=by exact l6 hph rfl))
  |refine zz ?_|refine zx (fun _=>?_) (fun _=>?_)|fail)
 show aE _ _ _ _ _ _ _ _;refine kV [0,1] ?_;rfl
theorem CX{p:Ph}{first count all:Int}{la lb:Nat}(hk:HW p first count la lb all){oa ob:aj}[cf oa][cf ob]{HS:ah}{i j:Nat}(hi:HS[i]? = some oa)(hj:HS[j]? = some ob)(hd:i≠j)(hb:Nat.blt HS.length Mem.bound=true) :
 aA.Sound prog ⟨64,[.agg (R2 p first count (.slice i 0 la (.toEnd 1)) (.slice j 0 lb (.toEnd 1))),.one (.int .i64 all)],HS,.one (.int .i64 0),HS,[]⟩:=by
 refine f_ [i,j] (A6 hk oa ob) (by simp[hd]) (.flat hi (.flat hj .nil)) (.flat (.flat .nil)) (.cons ?_ (.flat .nil)) (.cons rfl (.flat .nil)) trivial rfl hb rfl;intro c hc;simp only[List.mem_cons,List.not_mem_nil,or_false]at hc
 rcases hc with rfl|rfl|rfl|rfl|rfl|rfl|rfl|rfl<;>first|trivial|(show(_:Nat)<2;omega)
theorem R0:∀v:Fin 128,CB .u8 128 (v.val:Int)=128+(v.val:Int):=by decide +kernel
theorem PE{v:Int}(h:0<=v/\v<128):CB .u8 128 v=128+v:=by
 have:=R0 ⟨v.toNat,by omega⟩;rw[show((⟨v.toNat,by omega⟩:Fin 128).val:Int)=v by show(v.toNat:Int)=v;omega]at this;exact this
theorem Ik(bs:List Bool)(hb:bs.length<=1000000):nP (wr bs) bs:=
 ⟨by rw[dH];omega,jS bs,fun j _=>Li bs j,by rw[dH];omega⟩
theorem R4(bs:List Bool):RO (au bs) .u8 (wr bs):=⟨fun h=>⟨_,true,false,bJ (fun e=>by
 have:(il .u8 (wr bs)).length=0:=by rw[e];rfl
 rw[br]at this;omega)⟩,inferInstance⟩
theorem J0{p:Ph}(hp:tg p){bs:List Bool}(hb:bs.length<=100000){HS:ah}{i k:Nat}(hi:HS[i]? = some (aP k bs))(hk:HS[k]? = some (au bs))(hd:i≠k){q:List Bool}(hq:Om bs p=q){N:Nat}(hN:HS.length=N){HS':ah}(hh:bD HS [i,k] [aP N q,.dead,au q]=HS')(hbd:Nat.blt HS'.length Mem.bound=true) :
 aA.Sound prog ⟨65,[.agg (xK p),.one (.ptr i 0)],HS,.one (.int .i64 0),HS',[i,k]⟩:=by
 subst hq;exact JZ hp hb hi hk hd hN hh hbd
theorem gj{n:Int}{size:Nat}{z:Int}(hz:z=(size:Nat)){bs:List Bool}(hn:0<=n/\n<18446744073709551616)(hs:size<=64)(hb:bs.length<=1000000){HS:ah}{i k:Nat}(hi:HS[i]? = some (aP k bs))(hk:HS[k]? = some (au bs))(hd:i≠k){q:List Bool}(hq:bs++bd n size=q){N:Nat}(hN:HS.length=N){HS':ah}(hh:bD HS [i,k] [aP N q,.dead,au q]=HS')(hbd:Nat.blt HS'.length Mem.bound=true) :
 aA.Sound prog ⟨46,[.one (.ptr i 0),.one (.int .u64 n),.one (.int .i64 z)],HS,.tup [],HS',[i,k]⟩:=by
 subst hq;exact fu hz hn hs hb hi hk hd hN hh hbd
theorem GJ{L:List Int}{B:List Bool}(h:nP L B){q q':Nat}{x:Int}{n:Nat}(hv:e_ B n (q,false)=(x,(q',false))){z:Int}(hz:z=(n:Nat))(hn:n<=32){HS:ah}{i k:Nat}(hi:HS[i]? = some (rf k L B q false))(hk:HS[k]? = some (lL L))(hd:i≠k){HS':ah}(hh:HS.set i (rf k L B q' false)=HS')(hbd:Nat.blt HS'.length Mem.bound=true) :
 aA.Sound prog ⟨69,[.one (.ptr i 0),.one (.int .i64 z)],HS,.one (.int .u64 x),HS',[i]⟩:=by
 have:=Kg h (q,false) hz hn hi hk hd (HS':=HS') (by rw[hv];exact hh) hbd;rw[hv]at this;exact this
theorem AY{p:Ph}{first count all:Int}{a b:List Int}(hk:HW p first count a.length b.length all)(ha:aR a)(hb:aR b){B:List Bool}(hB:nB p first count (a.length:Nat) (b.length:Nat) (gH a) (gH b) (gH (wr (pG p first count (a.length:Nat) (b.length:Nat) (gH a) (gH b))))=B) :
 bm prog 33 [.agg (R2 p first count (.slice 0 0 a.length (.toEnd 1)) (.slice 1 0 b.length (.toEnd 1))),.one (.int .i64 all)] [.cells (il .u8 a) 5 true false,.cells (il .u8 b) 5 true false] (.tup [.one (.slice 2 0 (ln B a b).length (.toEnd 1)),.one (.int .i64 0)]) [.cells (il .u8 a) 5 true false,.cells (il .u8 b) 5 true false,.cells (il .u8 (ln B a b)) 5 true false]:=by
 have hph:=hk.ph;have h1:=hk.fst;have h2:=hk.cnt;have h3:=hk.fit;have h4:=hk.most;have h5:=hk.a;have h6:=hk.b
 obtain⟨sa,hsa⟩:∃s,gH a=s:=⟨_,rfl⟩
 obtain⟨sb,hsb⟩:∃s,gH b=s:=⟨_,rfl⟩
 have ra:=ox a;have rb:=ox b;rw[hsa]at ra hB;rw[hsb]at rb hB
 obtain⟨S,hSd⟩:∃S,pG p first count (a.length:Nat) (b.length:Nat) sa sb=S:=⟨_,rfl⟩
 have hSl:S.length=101:=by rw[<-hSd];exact xV ..
 unfold nB at hB;rw[hSd]at hB
 obtain⟨su,hsu⟩:∃s,gH (wr S)=s:=⟨_,rfl⟩
 have ru:=ox (wr S);rw[hsu]at ru hB;have hS2:((((((Om [] p++bd first 7)++bd count 7)++bd (a.length:Nat) 16)++bd (b.length:Nat) 16)++bd sa 16)++bd sb 16)=S:=hSd;have e0:(Om [] p).length=23:=by simp only[Om,List.length_append,bB,List.length_cons,List.length_nil]
 obtain⟨b0,hb0⟩:∃x,Om [] p=x:=⟨_,rfl⟩
 obtain⟨b1,hb1⟩:∃x,b0++bd first 7=x:=⟨_,rfl⟩
 obtain⟨b2',hb2⟩:∃x,b1++bd count 7=x:=⟨_,rfl⟩
 obtain⟨b3,hb3⟩:∃x,b2'++bd (a.length:Nat) 16=x:=⟨_,rfl⟩
 obtain⟨b4,hb4⟩:∃x,b3++bd (b.length:Nat) 16=x:=⟨_,rfl⟩
 obtain⟨b5,hb5⟩:∃x,b4++bd sa 16=x:=⟨_,rfl⟩
 rw[hb0]at e0;rw[hb0,hb1,hb2,hb3,hb4,hb5]at hS2;have e1:b1.length=30:=by rw[<-hb1,List.length_append,bB,e0]
 have e2:b2'.length=37:=by rw[<-hb2,List.length_append,bB,e1]
 have e3:b3.length=53:=by rw[<-hb3,List.length_append,bB,e2]
 have e4:b4.length=69:=by rw[<-hb4,List.length_append,bB,e3]
 have e5:b5.length=85:=by rw[<-hb5,List.length_append,bB,e4]
 obtain⟨S1,hS1⟩:∃x,S++bd su 16=x:=⟨_,rfl⟩
 have eS1:S1.length=117:=by rw[<-hS1,List.length_append,bB,hSl]
 rw[hS1]at hB;have hwS:(wr S).length=13:=by rw[dH,hSl]
 have hBl:B.length=119:=by rw[<-hB,List.length_append,bB,eS1]
 have hwB:(wr B).length=15:=by rw[dH,hBl]
 refine cO Tryz.func33 ?_;refine WX.bU rfl ?_
 repeat' (first
  |(refine qz ?_;first
   |refine cl ?_ (hi:=by exact CX hk (i:=0) (j:=1) rfl rfl (by decide) rfl)
   |refine uN (cs:=xK p) ?_ (hle:=by decide) (hc:=by exact rfl)
   |refine cl ?_ (hi:=by exact J0 hph (bs:=[]) (by decide) (i:=4) (k:=2) rfl rfl (by decide) hb0 nL nA rfl)
   |refine cl ?_ (hi:=by exact gj (size:=7) rfl (bs:=b0) (by omega) (by decide) (by omega) (i:=4) (k:=5) rfl rfl (by decide) hb1 nL nA rfl)
   |refine cl ?_ (hi:=by exact gj (size:=7) rfl (bs:=b1) (by omega) (by decide) (by omega) (i:=4) (k:=6) rfl rfl (by decide) hb2 nL nA rfl)
   |refine cl ?_ (hi:=by exact gj (size:=16) rfl (bs:=b2') (by omega) (by decide) (by omega) (i:=4) (k:=7) rfl rfl (by decide) hb3 nL nA rfl)
   |refine cl ?_ (hi:=by exact gj (size:=16) rfl (bs:=b3) (by omega) (by decide) (by omega) (i:=4) (k:=8) rfl rfl (by decide) hb4 nL nA rfl)
   |refine sL (zs:=[.nils]) ?_
   |refine cl ?_ (hi:=by exact vO (l:=a) ha (by omega) (RO.of ..) hsa rfl (i:=0) (j:=10) rfl rfl (by decide) rfl)
   |refine cl ?_ (hi:=by exact gj (size:=16) rfl (bs:=b4) (by omega) (by decide) (by omega) (i:=4) (k:=9) rfl rfl (by decide) hb5 nL nA rfl)
   |refine cl ?_ (hi:=by exact vO (l:=b) hb (by omega) (RO.of ..) hsb rfl (i:=1) (j:=12) rfl rfl (by decide) rfl)
   |refine cl ?_ (hi:=by exact gj (size:=16) rfl (bs:=b5) (by omega) (by decide) (by omega) (i:=4) (k:=11) rfl rfl (by decide) hS2 nL nA rfl)
   |refine cl ?_ (hi:=by exact x9 (bs:=S) (by omega) (by omega) (i:=4) (k:=13) rfl rfl (by decide) (n:=13) (by rw[hSl]) nL nA rfl)
   |refine cl ?_ (hi:=by exact vO (l:=wr S) (jS S) (by omega) (R4 S) hsu hwS (i:=14) (j:=15) rfl rfl (by decide) rfl)
   |refine cl ?_ (hi:=by exact gj (size:=16) rfl (bs:=S) (by omega) (by decide) (by omega) (i:=4) (k:=13) rfl rfl (by decide) hS1 nL nA rfl)
   |refine cl ?_ (hi:=by exact gj (size:=2) rfl (bs:=S1) (by omega) (by decide) (by omega) (i:=4) (k:=16) rfl rfl (by decide) hB nL nA rfl)
   |refine cl ?_ (hi:=by exact sh nL nA rfl)
   |refine sL (zs:=[.int .u8 0]) ?_
   |refine LX (n:=1) (r:=[182]) rfl (gd rfl rfl rfl) (fun h=>absurd h (by decide)) (fun _=>?_)
   |refine cl ?_ (hi:=by exact x9 (bs:=B) (by omega) (by omega) (i:=4) (k:=17) rfl rfl (by decide) (n:=15) (by rw[hBl]) nL nA rfl)
   |refine cl ?_ (hi:=by exact NK (bs:=B) (i:=4) (k:=17) rfl rfl (by decide) (z:=119) (by rw[hBl];rfl) rfl)
   |refine cl ?_ (hi:=by exact M8 (L:=wr B) (B:=B) (by omega) (by omega) hwB (by rw[hBl];rfl) (i:=21) rfl nL nA rfl))
  |refine zz ?_|refine zx (fun _=>?_) (fun _=>?_)|fail)
 refine WX.bN (σ:=Nat) (fun k=>[(2,.one (.ptr 2 0)),(9,.one (.ptr 3 0)),(8,dV 5 (4+k) 1),(75,.one (.int .i64 (k:Nat)))]) (fun k=>[.cells (il .u8 a) 5 true false,.cells (il .u8 b) 5 true false,.cells (R2 p first count (.slice 0 0 a.length (.toEnd 1)) (.slice 1 0 b.length (.toEnd 1))) 50 false false,rf 4 (wr B) B (7*k) false,lL (wr B),bu 5 (il .u8 ([0,0,1,182]++p7 B k))]) (fun k=>k<=17) (fun k=>17-k) 0 (Nat.zero_le _) (fun s _=>mZ) (bq [0,1,3,22,23,20]) ?_;intro k hk17 ih;have hsl:=kC B k;have hql:([0,0,1,182]++p7 B k).length=4+k:=by rw[List.length_append,hsl];rfl
 by_cases hlt:k<17
 ·have hv:=pS (B:=B) (n:=7) (r:=7*k) (by omega);have hvr:=OC B (7*k);have hsv:p7 B (k+1)=p7 B k++[128+qb B (7*k) 7 0]:=by rw[p7];unfold GV;rw[hv]
  obtain⟨v,hve⟩:∃v,qb B (7*k) 7 0=v:=⟨_,rfl⟩
  rw[hve]at hv hvr hsv
  repeat' (first
   |(refine qz ?_;first
    |refine cl ?_ (hi:=by exact GJ (Ik B (by omega)) hv rfl (by decide) (i:=3) (k:=4) rfl rfl (by decide) hS rfl))
   |refine zz ?_|refine zx (fun _=>?_) (fun _=>?_)|fail)
  exact ih (k+1) _ _ _ (bq [0,1,2,3,4,7] (obj:=by(repeat' (first|exact af.nil|refine af.flat (by rw[hsv,<-List.append_assoc,<-PE hvr];rfl) ?_|refine oz ?_));first|done|fail)) (by omega) (by omega)
 ·have hpf:ln B a b=(([0,0,1,182]++p7 B k)++a)++b:=by rw[show k=17 by omega];rfl
  obtain⟨W,hW⟩:∃W,[0,0,1,182]++p7 B k=W:=⟨_,rfl⟩
  rw[hW]at hpf hql;rw[hpf,hW];clear ih
  have hy:bu 5 (il .u8 ((W++a)++b)) = .cells (il .u8 ((W++a)++b)) 5 true false:=bJ fun e=>by
   have h2:(il .u8 ((W++a)++b)).length=0:=by rw[e];rfl
   rw[br,List.length_append,List.length_append,hql]at h2;omega
  repeat' (first|refine zz ?_|refine zx (fun _=>?_) (fun _=>?_)|fail)
  have hz:fk 7 (4+k+a.length+b.length) 1 = .slice 7 0 (4+k+a.length+b.length) (.toEnd 1):=if_neg (by omega);have hlen:((W++a)++b).length=4+k+a.length+b.length:=by rw[List.length_append,List.length_append,hql]
  rw[hy,hz,hlen];show aE _ _ _ _ _ _ _ _;refine kV [0,1,7] ?_;rfl
end Go.Proofs.YthdciapjllppjaaGreat
