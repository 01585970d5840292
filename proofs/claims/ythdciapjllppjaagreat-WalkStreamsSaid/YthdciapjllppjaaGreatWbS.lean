/-
  A part of the proof: WkD, WkE, Sta2, Sta3, TabS, EvLaw, Blocks0.
-/
import Derived.Test.YthdciapjllppjaaGreatWbQ
import Derived.Test.YthdciapjllppjaaGreatWbR
set_option maxRecDepth 10000
set_option maxHeartbeats 8000000
set_option linter.unusedVariables false
set_option linter.unusedSectionVars false
set_option linter.unusedSimpArgs false
open Go.Proofs.Tryz (prog)
namespace Go.Proofs.YthdciapjllppjaaGreat
open Go.Xm
variable [aq]
theorem yg{W:List (List XC)}{kk off fL cut:Nat}{b:List Int}(hL:W[kk]? = some (il .u8 b)){l:List Int}(hbl:off+l.length<=b.length)(hw:∀i,i<l.length->b.getD (off+i) 0=l.getD i 0)(hl:bj l)(hn:l.length<=100000)(res:Option (List Int))(hres:nU l l.length [] 0 0=res) :
 bt prog 70 [.one (.lsl 0 kk off l.length fL cut)] [.late W] (.tup [.one (eE 1 (res.getD []).length 1),.one (.int .i64 (if res.isSome then 0 else 15))]) [.late W,bU 5 (il .u8 (res.getD []))]:=by
 refine cO Tryz.func70 ?_
 repeat' (first|refine zz ?_|refine zx (fun _=>?_) (fun _=>?_)|fail)
 refine WX.scope ?_;refine WX.jump ?_
 repeat' (first|refine zz ?_|refine zx (fun _=>?_) (fun _=>?_)|fail)
 refine WX.label ?_;show WX _ _ _ _ _ _ _;refine WX.cc rfl ?_;refine WX.Hp (σ:=Nat×List Int×Int×Nat) (fun s=>[(0,.one (.lsl 0 kk off l.length fL cut)),(4,gJ 1 s.2.1.length 1),(5,.one (.int .i64 s.2.2.1)),(6,.one (.int .i64 (s.2.2.2:Nat)))]) (fun s=>[.late W,bU 5 (il .u8 s.2.1)]) (fun s=>s.1+s.2.2.2=l.length/\0<=s.2.2.1/\s.2.2.1<=2/\s.2.1.length<=s.2.2.2/\nU l s.1 s.2.1 s.2.2.1 s.2.2.2=res) (fun s=>s.1) (l.length,[],0,0) ⟨rfl,by show(0:Int)<=0;omega,by show(0:Int)<=2;omega,Nat.le_refl _,hres⟩ (fun s _=>ny) (bW [0,1]) ?_;intro s ⟨h1,h2,h3,h4,h5⟩ ih
 cases hs:s.1 with
 | zero=>
   rw[hs]at h5 h1;subst h5;have hi:s.2.2.2=l.length:=by omega
   repeat' (first
    |(refine qz ?_;first
     |refine kD ?_)
    |refine zz ?_|refine zx (fun _=>?_) (fun _=>?_)|fail)
   show aE _ _ _ _ _ _ _ _;refine kV [0,1] ?_;simp only[XV.aC,List.map_cons,List.map_nil,X1.aC,aV];rfl
 | succ k=>
   rw[hs,nU]at h5;rw[hs]at h1;have hb:=hl s.2.2.2;have hb1:=hl (s.2.2.2+1);have e0:off+(s.2.2.2:Int).toNat*1=off+s.2.2.2:=by omega
   have e1:off+((s.2.2.2:Int)+1).toNat*1=off+(s.2.2.2+1):=by omega
   have hat0:=mO (show off+s.2.2.2<b.length by omega) (hw s.2.2.2 (by omega));have hat1:s.2.2.2+1<l.length->(il .u8 b)[off+(s.2.2.2+1)]? = some (.int .u8 (l.getD (s.2.2.2+1) 0)):=fun h=>mO (by omega) (hw _ h)
   repeat' (first
    |(refine qz ?_;first
     |refine kD ?_
     |refine l5 ?_ (hp:=e0)
     |refine l5 ?_ (hp:=e1)
     |refine qJ ?_ hL hat0 rfl
     |refine qJ ?_ hL (hat1 (by omega)) rfl)
    |refine zz ?_|refine zx (fun _=>?_) (fun _=>?_)|fail)
   ·rename_i g1 g2;rw[if_pos ⟨g1,g2⟩]at h5;subst h5;show aE _ _ _ _ _ _ _ _;refine kV [0,1] ?_;rfl
   ·rename_i g1 g2 g3 g4;rw[if_neg (fun h=>g2 h.2),if_pos ⟨g1,g3⟩,if_pos (.inl (by omega))]at h5;subst h5;show aE _ _ _ _ _ _ _ _;refine kV [0,1] ?_;rfl
   ·rename_i g1 g2 g3 g4 g5;rw[if_neg (fun h=>g2 h.2),if_pos ⟨g1,g3⟩,if_pos (.inr g5)]at h5;subst h5;show aE _ _ _ _ _ _ _ _;refine kV [0,1] ?_;rfl
   ·rename_i g1 g2 g3 g4 g5;rw[if_neg (fun h=>g2 h.2),if_pos ⟨g1,g3⟩,if_neg (fun h=>h.elim (by omega) g5)]at h5;show WX _ _ _ _ _ _ _;refine WX.goto ?_;show WX _ _ _ _ _ _ _;refine WX.jump ?_;refine WX.seq ?_;refine WX.skip ?_;show WX _ _ _ _ _ _ _;have e3:((s.2.2.2+1:Nat):Int)=(s.2.2.2:Int)+1:=by omega
    refine ih (k,s.2.1,0,s.2.2.2+1) _ _ _ (bW [0,1] (reg:=by(repeat' (first|exact ai.nil|refine ai.lO rfl rfl (by simp) ?_|refine ai.flat (by rw[e3];rfl) ?_|refine rz ?_|refine ai.sl rfl (by assumption) rfl ?_));first|done|fail)) ⟨by show k+(s.2.2.2+1)=_;omega,by show(0:Int)<=0;omega,by show(0:Int)<=2;omega,by show s.2.1.length<=s.2.2.2+1;omega,h5⟩ (by show k<s.1;omega)
   ·rename_i g1 g2 g3;rw[if_neg (fun h=>g2 h.2),if_neg (fun h=>g3 h.2),if_neg (by omega)]at h5;show WX _ _ _ _ _ _ _;refine WX.goto ?_;show WX _ _ _ _ _ _ _;refine WX.jump ?_;refine WX.seq ?_;refine WX.skip ?_;show WX _ _ _ _ _ _ _;have e3:((s.2.2.2+1:Nat):Int)=(s.2.2.2:Int)+1:=by omega
    refine ih (k,s.2.1++[l.getD s.2.2.2 0],0,s.2.2.2+1) _ _ _ (bW [0,3] (reg:=by(repeat' (first|exact ai.nil|refine ai.lO rfl rfl (by simp) ?_|refine ai.flat (by rw[e3];rfl) ?_|refine rz ?_|refine ai.sl rfl (by assumption) rfl ?_));first|done|fail)) ⟨by show k+(s.2.2.2+1)=_;omega,by show 0<=(0:Int);omega,by show(0:Int)<=2;omega,by show(s.2.1++[_]).length<=s.2.2.2+1;simp;omega,h5⟩ (by show k<s.1;omega)
   ·rename_i g1 g2;rw[if_neg (fun h=>g1 h.1),if_neg (fun h=>g1 h.1),if_pos g2]at h5;show WX _ _ _ _ _ _ _;refine WX.goto ?_;show WX _ _ _ _ _ _ _;refine WX.jump ?_;refine WX.seq ?_;refine WX.skip ?_;show WX _ _ _ _ _ _ _;have e3:((s.2.2.2+1:Nat):Int)=(s.2.2.2:Int)+1:=by omega
    refine ih (k,s.2.1++[l.getD s.2.2.2 0],s.2.2.1+1,s.2.2.2+1) _ _ _ (bW [0,3] (reg:=by(repeat' (first|exact ai.nil|refine ai.lO rfl rfl (by simp) ?_|refine ai.flat (by rw[e3];rfl) ?_|refine rz ?_|refine ai.sl rfl (by assumption) rfl ?_));first|done|fail)) ⟨by show k+(s.2.2.2+1)=_;omega,by show 0<=s.2.2.1+1;omega,by show s.2.2.1+1<=2;omega,by show(s.2.1++[_]).length<=s.2.2.2+1;simp;omega,h5⟩ (by show k<s.1;omega)
   ·rename_i g1 g2;rw[if_neg (fun h=>g1 h.1),if_neg (fun h=>g1 h.1),if_neg g2]at h5;show WX _ _ _ _ _ _ _;refine WX.goto ?_;show WX _ _ _ _ _ _ _;refine WX.jump ?_;refine WX.seq ?_;refine WX.skip ?_;show WX _ _ _ _ _ _ _;have e3:((s.2.2.2+1:Nat):Int)=(s.2.2.2:Int)+1:=by omega
    refine ih (k,s.2.1++[l.getD s.2.2.2 0],0,s.2.2.2+1) _ _ _ (bW [0,3] (reg:=by(repeat' (first|exact ai.nil|refine ai.lO rfl rfl (by simp) ?_|refine ai.flat (by rw[e3];rfl) ?_|refine rz ?_|refine ai.sl rfl (by assumption) rfl ?_));first|done|fail)) ⟨by show k+(s.2.2.2+1)=_;omega,by show 0<=(0:Int);omega,by show(0:Int)<=2;omega,by show(s.2.1++[_]).length<=s.2.2.2+1;simp;omega,h5⟩ (by show k<s.1;omega)
theorem sv{W:List (List XC)}{g kk off fL cut n:Nat}{b:List Int}(hL:W[kk]? = some (il .u8 b)){l:List Int}(hln:l.length=n)(hbl:off+l.length<=b.length)(hw:∀i,i<l.length->b.getD (off+i) 0=l.getD i 0)(hl:bj l)(hn:l.length<=100000){q:List Int}(hres:nU l l.length [] 0 0=some q){m:Nat}(hm:q.length=m)(h0:m≠0){HS:aj}(hi:HS[g]? = some (.late W)){N:Nat}(hN:HS.length=N){HS':aj}(hh:HS++[.cells (il .u8 q) 5 true false]=HS')(hbd:Nat.blt HS'.length Mem.bound=true) :
 aA.Sound prog ⟨70,[.one (.lsl g kk off n fL cut)],HS,.tup [.one (.slice N 0 m (.toEnd 1)),.one (.int .i64 0)],HS',[g]⟩:=by
 subst hln hm hN
 have e1:bU 5 (il .u8 q) = .cells (il .u8 q) 5 true false:=cK fun e=>by
  have h2:(il .u8 q).length=0:=by rw[e];rfl
  rw[bz]at h2;omega
 have hc:=yg (W:=W) (kk:=kk) (off:=off) (fL:=fL) (cut:=cut) hL hbl hw hl hn (some q) hres;rw[show(some q).getD []=q from rfl,e1,show eE 1 q.length 1 = .slice 1 0 q.length (.toEnd 1)from if_neg h0]at hc;exact bI [g] [g] 1 hc (by simp) (.flat hi .nil) (.flat .nil) (.flat (.flat .nil)) rfl (.cons (show 0<1 by omega) .nil) (.cons rfl .nil) (by simp[XV.bK,X1.ok,XC.ok]) rfl (.flat (.flat .nil)) rfl rfl (by simp only[bJ];rw[aG hi];exact hh) hbd (.inl rfl)
theorem Ho(s:Int)(hs:0<=s/\s<65536){l w:List Int}(hl:bj l)(hn:l.length<=100000)(hwl:l.length<=w.length)(hw:∀i,i<l.length->w.getD i 0=l.getD i 0){ob:ak}(hr:RO ob .u8 w)(cp:pr) :
 bt prog 80 [.one (.int .u16 s),.one (.slice 0 0 l.length cp)] [ob] (.one (.int .u16 (wg s l l.length))) [ob]:=by
 have hfo:=hr.flat;refine cO Tryz.func80 ?_
 repeat' (first|refine zz ?_|refine zx (fun _=>?_) (fun _=>?_)|fail)
 refine WX.cw (σ:=Nat×Int) (fun t=>[(0,.one (.int .u16 t.2)),(7,.one (.slice 0 0 l.length cp)),(8,.one (.int .i64 (l.length:Nat))),(9,.one (.int .i64 (t.1:Nat)))]) (fun t=>[ob]) (fun t=>t.1<=l.length/\t.2=wg s l t.1) (fun t=>l.length-t.1) (0,s) ⟨Nat.zero_le _,rfl⟩ (fun s _=>ny) (bW [0]) ?_;intro t ⟨hle,hte⟩ ih;have hb:=hl t.1;have htr:=tR hs l t.1;rw[<-hte]at htr
 by_cases hlt:t.1<l.length
 ·have hwe:=hw t.1 hlt;rw[<-hwe]at hb
  repeat' (first|refine zz ?_|refine zx (fun _=>?_) (fun _=>?_)|fail)
  refine WX.cw (σ:=Nat×Int) (fun u=>[(0,.one (.int .u16 u.2)),(7,.one (.slice 0 0 l.length cp)),(8,.one (.int .i64 (l.length:Nat))),(9,.one (.int .i64 (t.1:Nat))),(18,.one (.int .i64 (u.1:Nat)))]) (fun t=>[ob]) (fun u=>u.1<=8/\u.2=c8 (uy .u16 t.2 (w.getD t.1 0*2^8)) u.1) (fun u=>8-u.1) (0,uy .u16 t.2 (w.getD t.1 0*2^8)) ⟨Nat.zero_le _,rfl⟩ (fun s _=>ny) (bW [0]) ?_;intro u ⟨hu8,hue⟩ ih2;have hur:=BZ (mQ t.2 (w.getD t.1 0*2^8)) u.1;rw[<-hue]at hur
  by_cases hlu:u.1<8
  ·repeat' (first
    |(refine qz ?_;first
     |refine Sb 1 ?_)
    |refine zz ?_|refine zx (fun _=>?_) (fun _=>?_)|fail)
   ·rename_i hc1;exact ih2 (u.1+1,fP u.2) _ _ _ (bW [0] (reg:=by(repeat' (first|exact ai.nil|refine ai.flat (by show _=XV.one (XC.int .u16 (fP u.2));unfold fP;rw[if_pos hc1];rfl) ?_|refine rz ?_|refine ai.sl rfl (by assumption) rfl ?_));first|done|fail)) ⟨by show u.1+1<=8;omega,by show fP u.2=fP _;rw[<-hue]⟩ (by show 8-(u.1+1)<8-u.1;omega)
   ·rename_i hc1;exact ih2 (u.1+1,fP u.2) _ _ _ (bW [0] (reg:=by(repeat' (first|exact ai.nil|refine ai.flat (by show _=XV.one (XC.int .u16 (fP u.2));unfold fP;rw[if_neg hc1];rfl) ?_|refine rz ?_|refine ai.sl rfl (by assumption) rfl ?_));first|done|fail)) ⟨by show u.1+1<=8;omega,by show fP u.2=fP _;rw[<-hue]⟩ (by show 8-(u.1+1)<8-u.1;omega)
  ·have e8:u.1=8:=by omega
   clear ih2
   repeat' (first|refine zz ?_|refine zx (fun _=>?_) (fun _=>?_)|fail)
   exact ih (t.1+1,u.2) _ _ _ (bW [0]) ⟨by show t.1+1<=_;omega,by show u.2=c8 _ 8;rw[hue,e8,<-hte,hwe]⟩ (by show _-(t.1+1)<_;omega)
 ·have e0:t.1=l.length:=by omega
  repeat' (first|refine zz ?_|refine zx (fun _=>?_) (fun _=>?_)|fail)
  show aE _ _ _ _ _ _ _ _;refine kV [0] ?_;show XV.one (.int .u16 t.2)=_;rw[hte,e0];rfl
theorem K9{s:Int}(hs:0<=s/\s<65536){l w:List Int}(hl:bj l)(hn:l.length<=100000)(hwl:l.length<=w.length)(hw:∀i,i<l.length->w.getD i 0=l.getD i 0){ob:ak}(hr:RO ob .u8 w){cp:pr}{n:Nat}(hln:l.length=n){HS:aj}{i:Nat}(hi:HS[i]? = some ob)(hb:Nat.blt HS.length Mem.bound=true) :
 aA.Sound prog ⟨80,[.one (.int .u16 s),.one (.slice i 0 n cp)],HS,.one (.int .u16 (wg s l l.length)),HS,[]⟩:=by
 subst hln;have hfo:=hr.flat;exact fR [i] (Ho s hs hl hn hwl hw hr cp) (by simp) (.flat hi .nil) (.flat .nil) (.flat (.cons (by show 0<1;omega) .nil)) (.flat (.cons rfl .nil)) trivial rfl hb rfl
theorem JV{l w:List Int}(hl:bj l)(hn:l.length<=100000)(hwl:l.length<=w.length)(hw:∀i,i<l.length->w.getD i 0=l.getD i 0){ob:ak}(hr:RO ob .u8 w)(cp:pr) :
 bt prog 49 [.one (.slice 1 0 1 (.exact 1))] [ob,.cells [.slice 0 0 l.length cp] 32 false false] (.one (.int .u16 (c9 l))) [ob,.cells [.slice 0 0 l.length cp] 32 false false]:=by
 have hfo:=hr.flat;refine cO Tryz.func49 ?_
 repeat' (first
  |(refine qz ?_;first
   |refine cl ?_ (hi:=by exact K9 (by decide) hl hn hwl hw hr (i:=0) rfl rfl rfl))
  |refine WX.loop ?_|refine WX.round (c := .seq (.region 3 _ _) _) ?_|refine zz ?_|refine zx (fun _=>?_) (fun _=>?_)|fail)
 show aE _ _ _ _ _ _ _ _;refine kV [0,1] ?_;rfl
theorem Er{l w:List Int}(hl:bj l)(hn:l.length<=100000)(hwl:l.length<=w.length)(hw:∀i,i<l.length->w.getD i 0=l.getD i 0){ob:ak}(hr:RO ob .u8 w){cp:pr}{z:Int}(hz:c9 l=z){n:Nat}(hln:l.length=n){HS:aj}{i j:Nat}(hi:HS[i]? = some ob)(hj:HS[j]? = some (.cells [.slice i 0 n cp] 32 false false))(hd:i≠j)(hb:Nat.blt HS.length Mem.bound=true) :
 aA.Sound prog ⟨49,[.one (.slice j 0 1 (.exact 1))],HS,.one (.int .u16 z),HS,[]⟩:=by
 subst hln hz;have hfo:=hr.flat;exact fR [i,j] (JV hl hn hwl hw hr cp) (by simp[hd]) (.flat hi (.cons hj .nil)) (.flat (.cons (by simp[ak.bK,XC.ok]) .nil)) (.cons (by show 1<2;omega) .nil) (.cons rfl .nil) trivial rfl hb rfl
abbrev O9(S:cH):List XC:=[.ptr 3 0,.int .i64 S.id,.bool S.inter,.bool S.down,.int .i64 S.hqp,.int .i64 S.qp,.ptr 16 0,.ptr 18 0]
theorem yI{S:cH}{b:Bool}(h:S.inter=b):(O9 S)[2]? = some (.bool b):=by rw[<-h];rfl
def bm(S:cH)(m:Mb):List Bool:=(if S.inter=true then jn cM m.kind.toNat else [decide (m.kind=4)])++(if m.kind=4 then aJ (eF S.qp m.qp).1 2 else [])
def fA(S:cH)(m:Mb):cH:=if m.kind=4 then {S with qp:=m.qp}else S
theorem Gq(a b:Int):0<=(eF a b).1/\(eF a b).1<=3:=by
 unfold eF
 repeat' split
 all_goals simp
theorem n6(bs:List Bool)(S:cH)(m:Mb)(hm:jT m)(hk:m.kind<=4)(hq : -1000000<=S.qp/\S.qp<=1000000)(hb:bs.length<=800000) :
 bt prog 88 [.one (.ptr 2 0),.one (.ptr 0 0),.agg (mC m)] [aP 1 bs,av bs,jB (S),fc 4 8 12,aX 5 6 7 cM,db cM,df cM,dc cM,aX 9 10 11 cZ,db cZ,df cZ,dc cZ,aX 13 14 15 cP,db cP,df cP,dc cP,fD 17 (S).cols (S).rows,.map (cE (S).M),.cells [.int .i64 (S).cols,.int .i64 (S).rows,.map 19,.map 20,.map 21] 220 false false,.map (au (S).A),.map (au (S).B),.map (au (S).C)] (.tup []) [aP 22 (bs++bm S m),.dead,jB (fA S m),fc 4 8 12,aX 5 6 7 cM,db cM,df cM,dc cM,aX 9 10 11 cZ,db cZ,df cZ,dc cZ,aX 13 14 15 cP,db cP,df cP,dc cP,fD 17 (fA S m).cols (fA S m).rows,.map (cE (fA S m).M),.cells [.int .i64 (fA S m).cols,.int .i64 (fA S m).rows,.map 19,.map 20,.map 21] 220 false false,.map (au (fA S m).A),.map (au (fA S m).B),.map (au (fA S m).C),av (bs++bm S m)]:=by
 have hkind:=hm.kind;have hqp:=hm.qp;have hsr:=Gq S.qp m.qp;have hcb:=j9 DK m.kind.toNat;have hkn:m.kind=(m.kind.toNat:Nat):=by omega
 unfold bm
 obtain⟨b,hin⟩:∃b,S.inter=b:=⟨_,rfl⟩
 have hl2:=yI hin
 by_cases h4:m.kind=4
 ·have e4:fA S m = {S with qp:=m.qp}:=if_pos h4;rw[e4,if_pos h4];cases b
  ·rw[if_neg (by rw[hin];decide),decide_eq_true h4,<-List.append_assoc];refine cO Tryz.func88 ?_
   repeat' (first
    |(refine qz ?_;first
     |refine ld (hc:=hl2) ?_
     |refine cl ?_ (hi:=by exact jD (b:=true) (bs:=bs) (by omega) rfl rfl (by decide) nL nA rfl)
     |refine cl ?_ (hi:=by exact yR hq hqp rfl)
     |refine cl ?_ (hi:=by exact fq (n:=(eF S.qp m.qp).1) (size:=2) rfl (bs:=bs++[true]) (by omega) (by decide) (by rw[List.length_append];simp;omega) rfl rfl (by decide) nL nA rfl))
    |refine zz ?_|refine zx (fun _=>?_) (fun _=>?_)|fail)
   show aE _ _ _ _ _ _ _ _;refine kV [0,1,2,3,4,5,6,7,8,9,10,11,12,13,14,15,16,17,18,19,20,21,24] ?_;rfl
  ·rw[if_pos hin,<-List.append_assoc];refine cO Tryz.func88 ?_
   repeat' (first
    |(refine qz ?_;first
     |refine ld (hc:=hl2) ?_
     |refine cl ?_ (hi:=by exact qs (C:=cM) DK (n:=m.kind.toNat) hkn (by show m.kind.toNat<5;omega) (bs:=bs) (by omega) rfl rfl rfl rfl rfl rfl (by decide) nL nA rfl)
     |refine cl ?_ (hi:=by exact yR hq hqp rfl)
     |refine cl ?_ (hi:=by exact fq (n:=(eF S.qp m.qp).1) (size:=2) rfl (bs:=bs++jn cM m.kind.toNat) (by omega) (by decide) (by rw[List.length_append];omega) rfl rfl (by decide) nL nA rfl))
    |refine zz ?_|refine zx (fun _=>?_) (fun _=>?_)|fail)
   show aE _ _ _ _ _ _ _ _;refine kV [0,1,2,3,4,5,6,7,8,9,10,11,12,13,14,15,16,17,18,19,20,21,24] ?_;rfl
 ·have e4:fA S m=S:=if_neg h4;rw[e4,if_neg h4,List.append_nil];cases b
  ·rw[if_neg (by rw[hin];decide),decide_eq_false h4];refine cO Tryz.func88 ?_
   repeat' (first
    |(refine qz ?_;first
     |refine ld (hc:=hl2) ?_
     |refine cl ?_ (hi:=by exact jD (b:=false) (bs:=bs) (by omega) rfl rfl (by decide) nL nA rfl))
    |refine zz ?_|refine zx (fun _=>?_) (fun _=>?_)|fail)
   show aE _ _ _ _ _ _ _ _;refine kV [0,1,2,3,4,5,6,7,8,9,10,11,12,13,14,15,16,17,18,19,20,21,23] ?_;rfl
  ·rw[if_pos hin];refine cO Tryz.func88 ?_
   repeat' (first
    |(refine qz ?_;first
     |refine ld (hc:=hl2) ?_
     |refine cl ?_ (hi:=by exact qs (C:=cM) DK (n:=m.kind.toNat) hkn (by show m.kind.toNat<5;omega) (bs:=bs) (by omega) rfl rfl rfl rfl rfl rfl (by decide) nL nA rfl))
    |refine zz ?_|refine zx (fun _=>?_) (fun _=>?_)|fail)
   show aE _ _ _ _ _ _ _ _;refine kV [0,1,2,3,4,5,6,7,8,9,10,11,12,13,14,15,16,17,18,19,20,21,23] ?_;rfl
theorem ka(S:cH)(m:Mb):(bm S m).length<=66:=by
 unfold bm;have:=j9 DK m.kind.toNat;rw[List.length_append];split<;>split<;>simp only[List.length_cons,List.length_nil,aR]<;>omega
def Ey(M:jH)(cols mb:Int)(v:Nat->Int×Int):jH:=cL (cL (cL (cL M cols mb 0 (v 0)) cols mb 1 (v 1)) cols mb 2 (v 2)) cols mb 3 (v 3)
def b6(S:cH)(mb:Int)(v:Nat->Int×Int):cH:={S with M:=Ey S.M S.cols mb v}
theorem Gw(bs:List Bool)(S:cH)(hD:lU S.cols S.rows)(mb:Int)(hmb:0<=mb/\mb<S.cols*S.rows)(m:Mb) :
 bt prog 89 [.one (.ptr 2 0),.one (.int .i64 mb),.agg (mC m)] [aP 1 bs,av bs,jB (S),fc 4 8 12,aX 5 6 7 cM,db cM,df cM,dc cM,aX 9 10 11 cZ,db cZ,df cZ,dc cZ,aX 13 14 15 cP,db cP,df cP,dc cP,fD 17 (S).cols (S).rows,.map (cE (S).M),.cells [.int .i64 (S).cols,.int .i64 (S).rows,.map 19,.map 20,.map 21] 220 false false,.map (au (S).A),.map (au (S).B),.map (au (S).C)] (.tup []) [aP 1 bs,av bs,jB (b6 S mb m.v),fc 4 8 12,aX 5 6 7 cM,db cM,df cM,dc cM,aX 9 10 11 cZ,db cZ,df cZ,dc cZ,aX 13 14 15 cP,db cP,df cP,dc cP,fD 17 (b6 S mb m.v).cols (b6 S mb m.v).rows,.map (cE (b6 S mb m.v).M),.cells [.int .i64 (b6 S mb m.v).cols,.int .i64 (b6 S mb m.v).rows,.map 19,.map 20,.map 21] 220 false false,.map (au (b6 S mb m.v).A),.map (au (b6 S mb m.v).B),.map (au (b6 S mb m.v).C)]:=by
 refine cO Tryz.func89 ?_
 repeat' (first
  |(refine qz ?_;first
   |refine qI (cs:=vt m.v) ?_ (hle:=by rw[bn];decide)
   |refine KV ?_
   |refine cl ?_ (hi:=by exact j7 (M:=S.M) (cols:=S.cols) (rows:=S.rows) (i:=16) (j:=17) (k:=0) (v:=m.v 0) hD hmb (by decide) rfl rfl (by decide) nA rfl)
   |refine cl ?_ (hi:=by exact j7 (M:=cL S.M S.cols mb 0 (m.v 0)) (cols:=S.cols) (rows:=S.rows) (i:=16) (j:=17) (k:=1) (v:=m.v 1) hD hmb (by decide) rfl rfl (by decide) nA rfl)
   |refine cl ?_ (hi:=by exact j7 (M:=cL (cL S.M S.cols mb 0 (m.v 0)) S.cols mb 1 (m.v 1)) (cols:=S.cols) (rows:=S.rows) (i:=16) (j:=17) (k:=2) (v:=m.v 2) hD hmb (by decide) rfl rfl (by decide) nA rfl)
   |refine cl ?_ (hi:=by exact j7 (M:=cL (cL (cL S.M S.cols mb 0 (m.v 0)) S.cols mb 1 (m.v 1)) S.cols mb 2 (m.v 2)) (cols:=S.cols) (rows:=S.rows) (i:=16) (j:=17) (k:=3) (v:=m.v 3) hD hmb (by decide) rfl rfl (by decide) nA rfl))
  |refine WX.loop ?_|refine WX.round ?_|refine zz ?_|refine zx (fun _=>?_) (fun _=>?_)|fail)
 show aE _ _ _ _ _ _ _ _;refine kV [0,1,2,3,4,5,6,7,8,9,10,11,12,13,14,15,16,17,18,19,20,21] ?_;rfl
def Cs(S:cH)(mb k dx dy:Int):Option Kn:=bG S.A S.B S.C S.cols (placeOf S.cols mb k).1 ((placeOf S.cols mb k).2.1-dx) ((placeOf S.cols mb k).2.2-dy)
def dF(S:cH)(mb k q:Int):Int×Int:=kx (Cs S mb k 1 0) (Cs S mb k 0 1) (Cs S mb k 1 1) q
def iJ(S:cH)(mb k q:Int):Nat->Int:=zI (Cs S mb k 1 0) (Cs S mb k 0 1) (Cs S mb k 1 1) q
def PG(S:cH)(mb k:Int):Int:=(placeOf S.cols mb k).2.2*cG S.cols (placeOf S.cols mb k).1+(placeOf S.cols mb k).2.1
def eG(S:cH)(mb k:Int)(b:Kn):cH:={S with A:=rZ (placeOf S.cols mb k).1 0 S.A (PG S mb k) b,B:=rZ (placeOf S.cols mb k).1 1 S.B (PG S mb k) b,C:=rZ (placeOf S.cols mb k).1 2 S.C (PG S mb k) b}
theorem bB(n q:Int):0<=dp n q/\dp n q<=127:=by
 have h:=m8 q;have:0<=(max n 0+stepOf q/2)/stepOf q:=Int.ediv_nonneg (by omega) (by omega);unfold dp;omega
theorem HY(la lb lc:Option Kn)(q:Int):0<=(kx la lb lc q).2/\(kx la lb lc q).2<=127/\0<=(kx la lb lc q).1/\(kx la lb lc q).1<=2:=by
 unfold kx;cases la<;>cases lb<;>simp only[]
 ·exact⟨(bB _ _).1,(bB _ _).2,by simp,by simp⟩
 ·exact⟨(bB _ _).1,(bB _ _).2,by simp,by simp⟩
 ·exact⟨(bB _ _).1,(bB _ _).2,by simp,by simp⟩
 ·cases lc<;>simp only[]<;>split
  ·exact⟨(bB _ _).1,(bB _ _).2,by simp,by simp⟩
  ·exact⟨(bB _ _).1,(bB _ _).2,by simp,by simp⟩
  ·exact⟨(bB _ _).1,(bB _ _).2,by simp,by simp⟩
  ·exact⟨(bB _ _).1,(bB _ _).2,by simp,by simp⟩
theorem r8(S:cH)(mb k q:Int):0<=(dF S mb k q).2/\(dF S mb k q).2<=127/\0<=(dF S mb k q).1/\(dF S mb k q).1<=2:=HY _ _ _ _
section
variable {S:cH} {mb k q:Int}(hD:lU S.cols S.rows) (hmb:0<=mb/\mb<S.cols*S.rows) (hk:0<=k/\k<6)
include hD hmb hk
theorem SR:gU S.cols S.rows mb k=true:=jv.2 ⟨hmb.1,hmb.2,hk⟩
theorem J3:bt prog 119 [.one (.ptr 0 0),.one (.int .i64 mb),.one (.int .i64 k),.one (.int .i64 q)] (bL S.cols S.rows S.A S.B S.C) (jW (dF S mb k q)) (bL S.cols S.rows S.A S.B S.C):=
 qw ⟨hD.c0,hD.c1⟩ ⟨by have:=hD.r0;omega,hD.r1⟩ (SR hD hmb hk) (p:=(placeOf S.cols mb k).1) (x:=(placeOf S.cols mb k).2.1) (y:=(placeOf S.cols mb k).2.2) rfl (by unfold Cs;rw[Int.sub_zero]) (by unfold Cs;rw[Int.sub_zero]) rfl
theorem GC:bt prog 121 [.one (.ptr 0 0),.one (.int .i64 mb),.one (.int .i64 k),.one (.int .i64 q)] (bL S.cols S.rows S.A S.B S.C) (.agg (ti .i64 64 (iJ S mb k q))) (bL S.cols S.rows S.A S.B S.C):=
 HP ⟨hD.c0,hD.c1⟩ ⟨by have:=hD.r0;omega,hD.r1⟩ (SR hD hmb hk) (p:=(placeOf S.cols mb k).1) (x:=(placeOf S.cols mb k).2.1) (y:=(placeOf S.cols mb k).2.2) rfl (by unfold Cs;rw[Int.sub_zero]) (by unfold Cs;rw[Int.sub_zero]) rfl
theorem J8(b:Kn):bt prog 123 [.one (.ptr 0 0),.one (.int .i64 mb),.one (.int .i64 k),.agg (dv b)] (bL S.cols S.rows S.A S.B S.C) (.tup []) (bL S.cols S.rows (eG S mb k b).A (eG S mb k b).B (eG S mb k b).C):=
 Mu ⟨hD.c0,hD.c1⟩ ⟨by have:=hD.r0;omega,hD.r1⟩ (SR hD hmb hk) (p:=(placeOf S.cols mb k).1) (x:=(placeOf S.cols mb k).2.1) (y:=(placeOf S.cols mb k).2.2) rfl b
theorem yT{HS:aj}(ha:HS[18]? = some (.cells [.int .i64 S.cols,.int .i64 S.rows,.map 19,.map 20,.map 21] 220 false false))(hb:HS[19]? = some (.map (au S.A)))(hc:HS[20]? = some (.map (au S.B)))(hd:HS[21]? = some (.map (au S.C)))(hbd:Nat.blt HS.length Mem.bound=true) :
 aA.Sound prog ⟨119,[.one (.ptr 18 0),.one (.int .i64 mb),.one (.int .i64 k),.one (.int .i64 q)],HS,jW (dF S mb k q),HS,[]⟩:=
 aD (J3 hD hmb hk) 18 19 20 21 (by decide) ha hb hc hd rfl rfl hbd
theorem J2{HS:aj}(ha:HS[18]? = some (.cells [.int .i64 S.cols,.int .i64 S.rows,.map 19,.map 20,.map 21] 220 false false))(hb:HS[19]? = some (.map (au S.A)))(hc:HS[20]? = some (.map (au S.B)))(hd:HS[21]? = some (.map (au S.C)))(hbd:Nat.blt HS.length Mem.bound=true) :
 aA.Sound prog ⟨121,[.one (.ptr 18 0),.one (.int .i64 mb),.one (.int .i64 k),.one (.int .i64 q)],HS,.agg (ti .i64 64 (iJ S mb k q)),HS,[]⟩:=
 aD (GC hD hmb hk) 18 19 20 21 (by decide) ha hb hc hd rfl (jg _ _ _) hbd
theorem Ex{b:Kn}{HS HS':aj}(ha:HS[18]? = some (.cells [.int .i64 S.cols,.int .i64 S.rows,.map 19,.map 20,.map 21] 220 false false))(hb:HS[19]? = some (.map (au S.A)))(hc:HS[20]? = some (.map (au S.B)))(hd:HS[21]? = some (.map (au S.C)))(hh:((HS.set 19 (.map (au (eG S mb k b).A))).set 20 (.map (au (eG S mb k b).B))).set 21 (.map (au (eG S mb k b).C))=HS')(hbd:Nat.blt HS'.length Mem.bound=true) :
 aA.Sound prog ⟨123,[.one (.ptr 18 0),.one (.int .i64 mb),.one (.int .i64 k),.agg (dv b)],HS,.tup [],HS',[19,20,21]⟩:=
 Ij (J8 hD hmb hk b) 18 19 20 21 (by decide) ha hb hc hd hh hbd
end
theorem vA{S:cH}{mb k q:Int}(h:∀dx dy b,Cs S mb k dx dy=some b->∀i,-1000000<=b.lv i/\b.lv i<=1000000)(i:Nat) : -1000000<=iJ S mb k q i/\iJ S mb k q i<=1000000:=by
 have hem:∀(b:Kn) (s:Nat),(∀i,-1000000<=b.lv i/\b.lv i<=1000000)->∀n i,-1000000<=em b s n i/\em b s n i<=1000000:=by
  intro b s hb n
  induction n with
  | zero=>intro i;simp[em]
  | succ n ih=>
    intro i;rw[yd];unfold fY;split
    ·exact hb _
    ·exact ih i
 have ho:∀(o:Option Kn) (s:Nat),(∀b,o=some b->∀i,-1000000<=b.lv i/\b.lv i<=1000000) -> -1000000<=jr o s q i/\jr o s q i<=1000000:=by
  intro o s hb
  cases o with
  | none=>simp[jr,i6]
  | some b=>
    unfold jr;simp only[];split
    ·exact hem b s (hb b rfl) _ i
    ·simp[i6]
 unfold iJ zI;split
 ·exact ho _ _ (h 1 0)
 ·split
  ·exact ho _ _ (h 0 1)
  ·simp[i6]
end Go.Proofs.YthdciapjllppjaaGreat
namespace Go.Proofs.YthdciapjllppjaaGreat
open Go.Xm
variable [aq]
theorem vg{f:Nat->Int}(h:∀i,i<64 -> -2047<=f i/\f i<=2047):∀(n i:Nat) (run:Int),i+n=64->0<=run->run<=i->∀e∈ly f n i run,ET e/\e.2.2=false
 | 0,i,run,_,_,_,e,he=>by cases he
 | n + 1,i,run,h1,h2,h3,e,he=>by
   unfold ly at he
   by_cases hz:f i=0
   ·rw[if_pos hz]at he;exact vg h n (i+1) (run+1) (by omega) (by omega) (by omega) e he
   ·rw[if_neg hz]at he
    rcases List.mem_cons.1 he with rfl|he
    ·exact⟨⟨⟨h2,by show run<=63;omega⟩,hz,h i (by omega)⟩,rfl⟩
    ·exact vg h n (i+1) 0 (by omega) (by omega) (by omega) e he
theorem uA:∀(l:List Ev) (j:Nat),(∀e∈l,e.2.2=false)->j<l.length->(kC l).getD j default=((l.getD j default).1,(l.getD j default).2.1,decide (j+1=l.length))
 | [],j,_,hj=>by simp at hj
 | [e],j,_,hj=>by
   have:j=0:=by simpa using hj
   subst this;rfl
 | e::e2::l,0,hf,_=>by
   have:e.2.2=false:=hf e (List.mem_cons_self ..);show e=(e.1,e.2.1,decide (0+1=(e::e2::l).length));rw[decide_eq_false (by simp),<-this]
 | e :: e2::l,j+1,hf,hj=>by
   have ih:=uA (e2::l) j (fun x hx=>hf x (List.mem_cons_of_mem _ hx)) (by simpa using hj);show(kC (e2::l)).getD j default=_;rw[ih];show _=(((e2::l).getD j default).1,((e2::l).getD j default).2.1,decide (j+1+1=(e::e2::l).length))
   have:decide (j+1=(e2::l).length)=decide (j+1+1=(e::e2::l).length):=by
    simp only[List.length_cons]
    rcases Classical.em (j+1=l.length+1)with g|g
    ·rw[decide_eq_true g,decide_eq_true (by omega)]
    ·rw[decide_eq_false g,decide_eq_false (by omega)]
   rw[this]
theorem Ms{f:Nat->Int}{st:Nat}(hst:st<=64)(h:∀i,i<64 -> -2047<=f i/\f i<=2047):jR f st = []\/ql (jR f st):=by
 have hg:=vg h (64-st) st 0 (by omega) (Int.le_refl _) (by omega);have hlen:=rW f (64-st) st 0;unfold jR;generalize ly f (64-st) st 0=l at hg hlen ⊢
 cases hl:l with
 | nil=>exact .inl rfl
 | cons a t=>
   right;rw[<-hl];have hpos:0<l.length:=by rw[hl];simp
   have hget:∀j,j<l.length->(kC l).getD j default=((l.getD j default).1,(l.getD j default).2.1,decide (j+1=l.length)):=fun j hj=>uA l j (fun e he=>(hg e he).2) hj
   have hmem:∀j,j<l.length->l.getD j default∈l:=fun j hj=>by
    rw[List.getD_eq_getElem?_getD,List.getElem?_eq_getElem hj];exact List.getElem_mem hj
   refine⟨by rw[iZ];omega,fun j hj=>?_,fun j hj=>?_⟩
   ·rw[iZ]at hj;have:=(hg _ (hmem j hj)).1;rw[hget j hj];exact⟨this.run,this.nz,this.lev⟩
   ·rw[iZ]at hj;rw[hget j hj,iZ]
theorem JA{o:Int}(ho:o=0\/o=1\/o=2){f:Nat->Int}(h:∀i,i<64 -> -2047<=f i/\f i<=2047):∀i,i<64 -> -2047<=qV o f i/\qV o f i<=2047:=fun i hi=>by
 have:=D9 ho hi;exact h _ (by omega)
structure rB where
 S:cH
 B:List Bool
 pat:Int
 col:Int
 ev:Nat->List Ev
def cD(m:Mb)(k:Nat)(i:Nat):Int:=m.lev (k*64+i)
noncomputable def nk(m:Mb)(S:cH)(mb:Int)(k:Nat):Option (Nat->Int):=
 if alone m=true then(if m.edge=true then pz (cD m k) (iJ S mb k m.qp)else some (cD m k)).map fun r=>fY r 0 0 else some (cD m k)
noncomputable def E2(m:Mb)(S:cH)(mb:Int)(k:Nat)(r:Nat->Int):List Ev:=jR (qV (i7 m.edge (dF S mb k m.qp).1) r) (if alone m=true then 1 else 0)
def rT(pat k:Int):Int:=sB .i64 pat (8/2^k.toNat)
def rJ(col k:Int):Int:=sB .u64 col (2/2^(k-4).toNat)
noncomputable def gy(m:Mb)(mb:Int)(k:Nat)(x:rB)(ev:List Ev):rB:=
 ⟨if alone m=true then eG x.S mb k ⟨cD m k,m.qp⟩else x.S,if alone m=true then x.B++fQ (cD m k 0-(dF x.S mb k m.qp).2)else x.B,if 0<ev.length/\k<4 then rT x.pat k else x.pat,if 0<ev.length/\¬k<4 then rJ x.col k else x.col,fun j=>if j=k then ev else x.ev j⟩
noncomputable def kn(m:Mb)(mb:Int)(x0:rB):Nat->Option rB
 | 0=>some x0
 | k+1=>(kn m mb x0 k).bind fun x=>(nk m x.S mb k).map fun r=>gy m mb k x (E2 m x.S mb k r)
theorem E4{m:Mb}{mb:Int}{x0:rB}{k:Nat}(h:kn m mb x0 k=none):∀j,k<=j->kn m mb x0 j=none:=by
 intro j hj
 induction hj with
 | refl=>exact h
 | step _ ih=>rw[kn,ih];rfl
def zq(T:nF):Prop:=∀key b,eP T key=some b->∀i,-1000000<=b.lv i/\b.lv i<=1000000
def Hc(S:cH):Prop:=zq S.A/\zq S.B/\zq S.C
theorem IG{T:nF}(h:zq T){key:Int}{b:Kn}(hb:∀i,-1000000<=b.lv i/\b.lv i<=1000000):zq (wu T key b):=fun key' b' h'=>by
 rw[rR]at h';split at h'
 ·cases h';exact hb
 ·exact h key' b' h'
theorem uE{p q:Int}{T:nF}(h:zq T){key:Int}{b:Kn}(hb:∀i,-1000000<=b.lv i/\b.lv i<=1000000):zq (rZ p q T key b):=by
 unfold rZ;split
 ·exact IG h hb
 ·exact h
theorem uD:zq []:=fun key b h=>by cases h
structure km(S:cH):Prop where
 dims:lU S.cols S.rows
 lev:Hc S
 tiny:fN S.M
theorem IV{S:cH}(h:Hc S){mb k dx dy:Int}{b:Kn}(hb:Cs S mb k dx dy=some b):∀i,-1000000<=b.lv i/\b.lv i<=1000000:=by
 unfold Cs bG cq at hb;split at hb
 ·cases hb
 ·unfold bN at hb;split at hb
  ·exact h.1 _ _ hb
  ·split at hb
   ·exact h.2.1 _ _ hb
   ·exact h.2.2 _ _ hb
structure nM(m:Mb):Prop where
 ok:jT m
 kind:m.kind<=4
 lev:∀i,i<384 -> -2047<=m.lev i/\m.lev i<=2047
 first:alone m=true->∀k,k<6->0<=m.lev (k*64)/\m.lev (k*64)<=127
structure ER(m:Mb)(mb:Int)(x0:rB)(s:Nat×rB):Prop where
 le:s.1<=6
 run:kn m mb x0 s.1=some s.2
 st:km s.2.S
 cr:s.2.S.cols=x0.S.cols/\s.2.S.rows=x0.S.rows
 len:s.2.B.length<=x0.B.length+76*s.1
 nil:∀j,s.1<=j->s.2.ev j = []
 evs:∀j,s.2.ev j = []\/ql (s.2.ev j)
 pat:0<=s.2.pat/\s.2.pat<16
 col:0<=s.2.col/\s.2.col<4
theorem I6:∀(a:Fin 16) (k:Fin 4),0<=rT (a.val:Int) (k.val:Int)/\rT (a.val:Int) (k.val:Int)<16:=by decide +kernel
theorem HI:∀(a:Fin 4) (k:Fin 2),0<=rJ (a.val:Int) ((k.val+4:Nat):Int)/\rJ (a.val:Int) ((k.val+4:Nat):Int)<4:=by decide +kernel
theorem I7{a:Int}{k:Nat}(h:0<=a/\a<16)(hk:k<4):0<=rT a k/\rT a k<16:=by
 have:=I6 ⟨a.toNat,by omega⟩ ⟨k,hk⟩;simp only[Int.toNat_of_nonneg h.1]at this;exact this
theorem HJ{a:Int}{k:Nat}(h:0<=a/\a<4)(hk:¬k<4)(hk6:k<6):0<=rJ a k/\rJ a k<4:=by
 have:=HI ⟨a.toNat,by omega⟩ ⟨k-4,by omega⟩;simp only[Int.toNat_of_nonneg h.1,show k-4+4=k by omega]at this;exact this
theorem t9{m:Mb}(hg:nM m){S:cH}{mb:Int}{k:Nat}(ha:alone m=true)(hk:k<6) : -4000<=cD m k 0-(dF S mb k m.qp).2/\cD m k 0-(dF S mb k m.qp).2<=4000:=by
 have h1:=hg.first ha k hk
 have h2:=r8 S mb k m.qp;have e:cD m k 0=m.lev (k*64):=by unfold cD;rw[Nat.add_zero]
 rw[e];omega
theorem IF{m:Mb}(hg:nM m){k:Nat}(hk:k<6):∀i,i<64 -> -2047<=cD m k i/\cD m k i<=2047:=fun i hi=>hg.lev _ (by omega)
theorem FC{l e r:Nat->Int}(h:pz l e=some r):∀i,i<64 -> -2047<=r i/\r i<=2047:=by
 unfold pz at h;split at h
 ·cases h
 ·rename_i hn;cases h;intro i hi;have:¬lu l e i:=fun hb=>hn ⟨i,hi,hb⟩
  unfold lu at this;show -2047<=l i-e i/\l i-e i<=2047;omega
theorem E3{m:Mb}(hg:nM m){S:cH}{mb:Int}{k:Nat}(hk:k<6){r:Nat->Int}(h:nk m S mb k=some r):∀i,i<64 -> -2047<=r i/\r i<=2047:=by
 have hl:=IF hg hk
 have hu:∀q:Nat->Int,(∀i,i<64 -> -2047<=q i/\q i<=2047)->∀i,i<64 -> -2047<=fY q 0 0 i/\fY q 0 0 i<=2047:=fun q hq i hi=>by
  unfold fY;split
  ·omega
  ·exact hq i hi
 unfold nk at h;split at h
 ·obtain⟨q,hq,rfl⟩:=Option.map_eq_some_iff.1 h;split at hq
  ·exact hu q (FC hq)
  ·cases hq;exact hu _ hl
 ·cases h;exact hl
theorem wU{m:Mb}(hg:nM m){mb:Int}{x0:rB}{s:Nat×rB}(h:ER m mb x0 s)(h6:s.1<6){r:Nat->Int}(hr:nk m s.2.S mb s.1=some r):ER m mb x0 (s.1+1,gy m mb s.1 s.2 (E2 m s.2.S mb s.1 r)):=by
 have hrr:=E3 hg h6 hr
 have hev:E2 m s.2.S mb s.1 r = []\/ql (E2 m s.2.S mb s.1 r):=by
  unfold E2;exact Ms (by split<;>omega) (JA (oV _ _) hrr)
 refine⟨by show s.1+1<=6;omega,?_,?_,?_,?_,?_,?_,?_,?_⟩
 ·show kn m mb x0 (s.1+1)=_;rw[kn,h.run];simp only[Option.bind_some,hr,Option.map_some]
 ·show km (if alone m=true then eG s.2.S mb s.1 ⟨cD m s.1,m.qp⟩else s.2.S);split
  ·have hb:∀i,-1000000<=(Kn.mk (cD m s.1) m.qp).lv i/\(Kn.mk (cD m s.1) m.qp).lv i<=1000000:=fun i=>hg.ok.lev _
   exact⟨h.st.dims,⟨uE h.st.lev.1 hb,uE h.st.lev.2.1 hb,uE h.st.lev.2.2 hb⟩,h.st.tiny⟩
  ·exact h.st
 ·show(if alone m=true then eG s.2.S mb s.1 ⟨cD m s.1,m.qp⟩else s.2.S).cols=_/\(if alone m=true then eG s.2.S mb s.1 ⟨cD m s.1,m.qp⟩else s.2.S).rows=_;split<;>exact h.cr
 ·show(if alone m=true then s.2.B++fQ (cD m s.1 0-(dF s.2.S mb s.1 m.qp).2)else s.2.B).length<=x0.B.length+76*(s.1+1);have:=h.len;split
  ·rename_i ha;have:=Fg (t9 hg (S:=s.2.S) (mb:=mb) ha h6);rw[List.length_append];omega
  ·omega
 ·intro j hj;show(if j=s.1 then _ else s.2.ev j) = [];have hj':s.1+1<=j:=hj;rw[if_neg (by omega)];exact h.nil j (by omega)
 ·intro j;show(if j=s.1 then _ else s.2.ev j) = []\/ql (if j=s.1 then _ else s.2.ev j);split
  ·exact hev
  ·exact h.evs j
 ·show 0<=(if _ then rT s.2.pat s.1 else s.2.pat)/\(if _ then rT s.2.pat s.1 else s.2.pat)<16;split
  ·rename_i hc;exact I7 h.pat hc.2
  ·exact h.pat
 ·show 0<=(if _ then rJ s.2.col s.1 else s.2.col)/\(if _ then rJ s.2.col s.1 else s.2.col)<4;split
  ·rename_i hc;exact HJ h.col hc.2 h6
  ·exact h.col
def eJ(x:rB):List Bool:=(x.B++jn cP x.pat.toNat)++aJ x.col 2
def c_(bw:List Bool)(x:rB):Nat->List Bool
 | 0=>bw
 | k+1=>c_ bw x k++gM (x.ev k)
theorem rF{bw:List Bool}{x:rB}(h:∀j,x.ev j = []\/ql (x.ev j)):∀k,(c_ bw x k).length<=bw.length+3456*k
 | 0=>Nat.le_refl _
 | k + 1=>by
   rw[c_,List.length_append];have ih:=rF (bw:=bw) h k
   have:(gM (x.ev k)).length<=3456:=by
    rcases h k with e|e
    ·rw[e];simp[gM]
    ·have h1:=ue e _ (Nat.le_refl _);rw[List.take_length]at h1;have:=e.len;omega
   omega
theorem vv{m:Mb}{a:Bool}(ha:alone m=a){HS:aj}(hb:Nat.blt HS.length Mem.bound=true):aA.Sound prog ⟨127,[.agg (mC m)],HS,.one (.int .i64 (if a=true then 1 else 0)),HS,[]⟩:=by
 subst ha;exact JS hb
abbrev N_(ev:Nat->List Ev):ak := .cells [eE 27 (ev 0).length 3,eE 28 (ev 1).length 3,eE 29 (ev 2).length 3,eE 30 (ev 3).length 3,eE 31 (ev 4).length 3,eE 32 (ev 5).length 3] 232 false false
end Go.Proofs.YthdciapjllppjaaGreat
