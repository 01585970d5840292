/-
  A part of the proof: Back0, Sta, Undiff, CodeLaw, Sta2, Sta3, Sta4, Undiff2, StaR, TabS, EvLaw, Blocks0.
-/
import Derived.Test.YtagpkhindehcbaaGreatKcH
import Derived.Test.YtagpkhindehcbaaGreatKcN
import Derived.Test.YtagpkhindehcbaaGreatKcP
set_option maxRecDepth 10000
set_option maxHeartbeats 8000000
set_option linter.unusedVariables false
set_option linter.unusedSectionVars false
set_option linter.unusedSimpArgs false
namespace Go.Proofs.YtagpkhindehcbaaGreat
open Go.Xm
variable [az]
def ES (o:Int) (f:Nat→Int):Nat→(Nat→Int)
 | 0=>fun _=>0
 | i+1=>cW (ES o f i) (mS o i).toNat (f i)
def d8 (o:Int) (f:Nat→Int):Nat→Int:=ES o f 64
theorem D5 {o:Int}(h:o=0∨o=1∨o=2) (f:Nat→Int):bt Tryz.prog 69 [.one (.int .u8 o),.agg (ti .i64 64 f)] [] (.agg (ti .i64 64 (d8 o f))) []:=by
 refine cO Tryz.func69 ?_
 repeat' (first
  |(refine qz ?_;first
   |refine cl ?_ (hi:=by exact vC h rfl))
  |refine zz ?_|refine zx (fun _=>?_) (fun _=>?_)|fail)
 refine WX.dp (σ:=Nat) (fun j=>[(10,.one (.int .i64 (j:Nat))),(3,.one (.ptr 0 0)),(4,.one (.ptr 1 0)),(5,.one (.ptr 2 0)),(9,.agg (ti .i64 64 (mS o)))]) (fun j=>[.cells (ti .i64 64 f) 50 false false,.cells (ti .i64 64 fun _=>0) 50 false false,.cells (ti .i64 64 (ES o f j)) 50 false false]) (fun j=>j≤64) (fun j=>64-j) 0 (by omega) (fun s _=>kS) (bm [0,1,2]) ?_
 intro j hj ih
 by_cases hj64:j<64
 · have hr:=oI h hj64
   have hr':0≤mS o (j:Int).toNat∧mS o (j:Int).toNat<64:=hr
   repeat' (first
    |(refine qz ?_;first
     |refine Dx (n:=64) ?_)
    |refine zz ?_|refine zx (fun _=>?_) (fun _=>?_)|fail)
   refine ih (j+1) _ _ _ (bm [0,1,2]) (by omega) (by omega)
 · obtain rfl:j=64:=by omega
   repeat' (first
    |(refine qz ?_;first
     |refine fy ?_ (hle:=by rw [aE])
     |refine i9 ?_ (hs1:=by rw [aE]) (hs2:=by rw [aE]))
    |refine zz ?_|refine zx (fun _=>?_) (fun _=>?_)|fail)
   show aH _ _ _ _ _ _ _ _;refine kV [] ?_
   rfl
theorem qD {o:Int}(h:o=0∨o=1∨o=2) {f:Nat→Int} {HS:ak}(hb:Nat.blt HS.length Mem.bound=true):aI.Sound Tryz.prog ⟨69,[.one (.int .u8 o),.agg (ti .i64 64 f)],HS,.agg (ti .i64 64 (d8 o f)),HS,[]⟩:=
 aB (D5 h f) (by show(true && ((ti .i64 64 f).all XC.shut && true))=true;rw [gB];rfl) (gB _ _ _) hb
def ll (l e:Nat→Int) (i:Nat):Prop:=l i+e i < -2047∨2047<l i+e i
open Classical in
noncomputable def kr (l e:Nat→Int):Option (Nat→Int):=if ∃ i,i<64∧ll l e i then none else some fun i=>l i+e i
theorem Gu (l e:Nat→Int) (hl:∀ i,-1000000≤l i∧l i≤1000000) (he:∀ i,-1000000≤e i∧e i≤1000000):bt Tryz.prog 72 [.agg (ti .i64 64 l),.agg (ti .i64 64 e)] [] (yJ (kr l e)) []:=by
 refine cO Tryz.func72 ?_
 repeat' (first
  |(refine qz ?_;first
   |refine fy ?_ (hle:=by rw [aE]))
  |refine zz ?_|refine zx (fun _=>?_) (fun _=>?_)|fail)
 refine WX.dp (σ:=Nat) (fun j=>[(9,.one (.int .i64 (j:Nat))),(2,.one (.ptr 0 0)),(4,.one (.ptr 1 0)),(8,.agg (ti .i64 64 e))]) (fun j=>[.cells (ti .i64 64 (pY (fun i=>l i+e i) l j)) 50 false false,.cells (ti .i64 64 fun _=>0) 50 false false]) (fun j=>j≤64∧∀ i,i<j→¬ll l e i) (fun j=>64-j) 0 ⟨by omega,fun i hi=>by omega⟩ (fun s _=>kS) (bm [0,2] (obj:=by(repeat' (first|exact ae.nil|refine ae.flat (by rw [nW];rfl) ?_|refine ae.flat rfl ?_|refine ae.cons rfl ?_|refine ae.dead rfl ?_|refine ae.cons (by simp only [aj.au,List.map_cons,List.map_nil,XC.au,aq];exact rfl) ?_));first|done|fail)) ?_
 intro j ⟨hj,hall⟩ ih
 by_cases hj64:j<64
 · have a1:=hl j
   have a2:=he j
   have a2':=he (j:Int).toNat
   have e1:e (j:Int).toNat=e j:=rfl
   have em:pY (fun i=>l i+e i) l j j=l j:=by simp [pY]
   have eu:cW (pY (fun i=>l i+e i) l j) j (pY (fun i=>l i+e i) l j j+e (j:Int).toNat) j=pY (fun i=>l i+e i) l j j+e (j:Int).toNat:=by simp [cW]
   by_cases hb:ll l e j
   · have hb':=hb
     unfold ll at hb'
     have e0:kr l e=none:=if_pos ⟨j,hj64,hb⟩
     rw [e0]
     repeat' (first
      |(refine qz ?_;first
       |refine Dx (n:=64) ?_
       |refine i9 ?_ (hs1:=by rw [aE]) (hs2:=by rw [aE]))
      |refine zz ?_|refine zx (fun _=>?_) (fun _=>?_)|fail)
     all_goals
      first
       | (exfalso;omega)
       | (show aH _ _ _ _ _ _ _ _;refine kV [] ?_;rfl)
   · have hb':=hb
     unfold ll at hb'
     have e2:pY (fun i=>l i+e i) l j j+e (j:Int).toNat=l j+e j:=by rw [em,e1]
     repeat' (first
      |(refine qz ?_;first
       |refine Dx (n:=64) ?_)
      |refine zz ?_|refine zx (fun _=>?_) (fun _=>?_)|fail)
     refine ih (j+1) _ _ _ (bm [0,1] (obj:=by(repeat' (first|exact ae.nil|refine ae.flat (by rw [←nV,e2];rfl) ?_|refine ae.flat rfl ?_|refine ae.cons rfl ?_|refine ae.dead rfl ?_|refine ae.cons (by simp only [aj.au,List.map_cons,List.map_nil,XC.au,aq];exact rfl) ?_));first|done|fail)) ⟨by omega,fun i hi=>?_⟩ (by omega)
     by_cases hij:i=j
     · subst hij;exact hb
     · exact hall i (by omega)
 · obtain rfl:j=64:=by omega
   have e0:kr l e=some fun i=>l i+e i:=if_neg fun⟨i,hi,hb⟩=>hall i hi hb
   rw [e0]
   repeat' (first
    |(refine qz ?_;first
     |refine fy ?_ (hle:=by rw [aE])
     |refine i9 ?_ (hs1:=by rw [aE]) (hs2:=by rw [aE]))
    |refine zz ?_|refine zx (fun _=>?_) (fun _=>?_)|fail)
   show aH _ _ _ _ _ _ _ _;refine kV [] ?_
   rw [AQ];rfl
theorem Ce {l e:Nat→Int}(hl:∀ i,-1000000≤l i∧l i≤1000000) (he:∀ i,-1000000≤e i∧e i≤1000000) {o:Option (Nat→Int)}(ho:kr l e=o) {HS:ak}(hb:Nat.blt HS.length Mem.bound=true):aI.Sound Tryz.prog ⟨72,[.agg (ti .i64 64 l),.agg (ti .i64 64 e)],HS,yJ o,HS,[]⟩:=by
 subst ho
 exact aB (Gu l e hl he) (by show((ti .i64 64 l).all XC.shut && ((ti .i64 64 e).all XC.shut && true))=true;rw [gB,gB];rfl) (tv _) hb
def dF (l:List Ev) (st:Int):Nat→Option (Int × (Nat→Int))
 | 0=>some (st,fun _=>0)
 | j+1=>(dF l st j).bind fun x=>if 63<x.1+(l.getD j default).1 then none else some (x.1+(l.getD j default).1+1,cW x.2 (x.1+(l.getD j default).1).toNat (l.getD j default).2.1)
def jB (l:List Ev) (st:Int):Option (Nat→Int):=(dF l st l.length).map (·.2)
def BO (o:Option (Nat→Int)):XV := .tup [.agg (ti .i64 64 (o.getD fun _=>0)),.one (.int .i64 (if o.isSome then 0 else 2))]
theorem sW (o:Option (Nat→Int)):(BO o).shut=true:=by
 show((ti .i64 64 (o.getD fun _=>0)).all XC.shut && (true && true))=true
 rw [gB];rfl
instance MG (o:Option (Nat→Int)):bB (BO o):=eY (sW o)
theorem wv {l:List Ev} {st:Int} {j:Nat}(h:dF l st j=none):∀ k,j≤k→dF l st k=none:=by
 intro k hk
 induction k with
 | zero=>rw [Nat.le_zero.1 hk]at h;exact h
 | succ k ih=>
   by_cases hjk:j=k+1
   · subst hjk;exact h
   · show(dF l st k).bind _=none
     rw [ih (by omega)];rfl
theorem yb {l:List Ev}(hl:∀ j,j<l.length→wk (l.getD j default)) {st:Int}(hs:0≤st∧st≤64):∀ j,j≤l.length→∀ x,dF l st j=some x→0≤x.1∧x.1≤64
 | 0,_,x,h=>by cases h;exact hs
 | j + 1,hj,x,h=>by
   have h2:(dF l st j).bind _=some x:=h
   cases hr:dF l st j with
   | none=>rw [hr]at h2;cases h2
   | some y=>
     rw [hr]at h2
     have h3:(if 63<y.1+(l.getD j default).1 then none else some _)=some x:=h2
     have:=yb hl hs j (by omega) y hr
     have:=(hl j (by omega)).run
     split at h3
     · cases h3
     · cases h3
       dsimp only
       omega
structure uZ (l:List Ev):Prop where
 ok:∀ j,j<l.length→wk (l.getD j default)
 last:∀ j,j<l.length→(l.getD j default).2.2=decide (j+1=l.length)
 len:l.length≤64
def xY (c:XC) (i n:Nat):Prop:=(n=0∧c = .nils)∨∃ cap,c = .slice i 0 n cap
theorem Fe {l:List Ev}(h:uZ l) {o:aj}(ho:wo o pA l) {c:XC}(hc:xY c 0 l.length) {st:Int}(hs:0≤st∧st≤1):bt Tryz.prog 36 [.one c,.one (.int .i64 st)] [o] (BO (jB l st)) [o]:=by
 have hfo:=ho.flat
 have hlen:=h.len
 rcases hc with⟨h0,rfl⟩|⟨cap,rfl⟩
 · obtain rfl:=List.length_eq_zero_iff.1 h0
   refine cO Tryz.func36 ?_
   repeat' (first
    |(refine qz ?_;first
     |refine fy ?_ (hle:=by rw [aE])
     |refine i9 ?_ (hs1:=by rw [aE]) (hs2:=by rw [aE]))
    |refine WX.loop ?_|refine WX.round ?_|refine zz ?_|refine zx (fun _=>?_) (fun _=>?_)|fail)
   show aH _ _ _ _ _ _ _ _;refine kV [0] ?_
   rfl
 refine cO Tryz.func36 ?_
 repeat' (first|refine zz ?_|refine zx (fun _=>?_) (fun _=>?_)|fail)
 refine WX.dp (σ:=Nat × Int × (Nat→Int)) (fun s=>[(15,.one (.int .i64 (s.1:Nat))),(7,.one (.int .i64 s.2.1)),(0,.one (.slice 0 0 l.length cap)),(4,.one (.ptr 1 0)),(6,.one (.ptr 2 0)),(13,.one (.slice 0 0 l.length cap)),(14,.one (.int .i64 (l.length:Nat)))]) (fun s=>[o,.cells (ti .i64 64 fun _=>0) 50 false false,.cells (ti .i64 64 s.2.2) 50 false false]) (fun s=>s.1≤l.length∧dF l st s.1=some s.2∧0≤s.2.1∧s.2.1≤64) (fun s=>l.length-s.1) (0,st,fun _=>0) ⟨Nat.zero_le _,rfl,by dsimp only;omega,by dsimp only;omega⟩ (fun s _=>kS) (bm [0,1,2]) ?_
 intro s ⟨hj,hrun,hp⟩ ih
 by_cases hjl:s.1<l.length
 · have hok:=h.ok s.1 hjl
   have r1:=hok.run
   have r2:=hok.nz
   have r3:=hok.lev
   have hlast:=h.last s.1 hjl
   obtain⟨b,hb⟩:∃ b,(l.getD s.1 default).2.2=b:=⟨_,rfl⟩
   have hb2:(pA (l.getD s.1 default))[2]? = some (.bool b):=by rw [←hb];rfl
   rw [hb]at hlast
   by_cases hbig:63<s.2.1+(l.getD s.1 default).1
   · have e0:jB l st=none:=by
      unfold jB
      rw [wv (j:=s.1+1) (by show(dF l st s.1).bind _=none;rw [hrun];exact if_pos hbig) l.length (by omega)]
      rfl
     rw [e0]
     repeat' (first
      |(refine qz ?_;first
       |refine pI (enc:=pA) ?_
       |refine i9 ?_ (hs1:=by rw [aE]) (hs2:=by rw [aE]))
      |refine zz ?_|refine zx (fun _=>?_) (fun _=>?_)|fail)
     show aH _ _ _ _ _ _ _ _;refine kV [0] ?_
     rfl
   · have e1:dF l st (s.1+1)=some (s.2.1+(l.getD s.1 default).1+1,cW s.2.2 (s.2.1+(l.getD s.1 default).1).toNat (l.getD s.1 default).2.1):=by
      show(dF l st s.1).bind _=_
      rw [hrun];exact if_neg hbig
     by_cases hl:s.1+1=l.length
     · obtain rfl:b=true:=by rw [hlast];exact decide_eq_true hl
       repeat' (first
        |(refine qz ?_;first
         |refine pI (enc:=pA) ?_
         |refine ld (hc:=hb2) ?_)
        |refine zz ?_|refine zx (fun _=>?_) (fun _=>?_)|fail)
       refine ih (s.1+1,s.2.1+(l.getD s.1 default).1+1,cW s.2.2 (s.2.1+(l.getD s.1 default).1).toNat (l.getD s.1 default).2.1) _ _ _ (bm [0,1,2]) ⟨by dsimp only;omega,e1,by dsimp only;omega,by dsimp only;omega⟩ (by dsimp only;omega)
     · obtain rfl:b=false:=by rw [hlast];exact decide_eq_false hl
       repeat' (first
        |(refine qz ?_;first
         |refine pI (enc:=pA) ?_
         |refine ld (hc:=hb2) ?_)
        |refine zz ?_|refine zx (fun _=>?_) (fun _=>?_)|fail)
       refine ih (s.1+1,s.2.1+(l.getD s.1 default).1+1,cW s.2.2 (s.2.1+(l.getD s.1 default).1).toNat (l.getD s.1 default).2.1) _ _ _ (bm [0,1,2]) ⟨by dsimp only;omega,e1,by dsimp only;omega,by dsimp only;omega⟩ (by dsimp only;omega)
 · have hje:s.1=l.length:=by omega
   have e0:jB l st=some s.2.2:=by unfold jB;rw [←hje,hrun];rfl
   rw [e0]
   repeat' (first
    |(refine qz ?_;first
     |refine fy ?_ (hle:=by rw [aE])
     |refine i9 ?_ (hs1:=by rw [aE]) (hs2:=by rw [aE]))
    |refine zz ?_|refine zx (fun _=>?_) (fun _=>?_)|fail)
   show aH _ _ _ _ _ _ _ _;refine kV [0] ?_
   rfl
end Go.Proofs.YtagpkhindehcbaaGreat
namespace Go.Proofs.YtagpkhindehcbaaGreat
open Go.Xm
variable [az]
structure bz where
 id:Int
 inter:Bool
 down:Bool
 hqp:Int
 qp:Int
 cols:Int
 rows:Int
 M:fX
 A:nr
 B:nr
 C:nr
abbrev dw (S:bz):aj := .cells [.ptr 3 0,.int .i64 S.id,.bool S.inter,.bool S.down,.int .i64 S.hqp,.int .i64 S.qp,.ptr 16 0,.ptr 18 0] 97 false false
abbrev dI (S:bz):ak:=[dw S,bR 4 8 12,ay 5 6 7 cM,aX cM,aZ cM,aY cM,ay 9 10 11 cZ,aX cZ,aZ cZ,aY cZ,ay 13 14 15 cP,aX cP,aZ cP,aY cP,
 ch 17 S.cols S.rows,.map (bg S.M),.cells [.int .i64 S.cols,.int .i64 S.rows,.map 19,.map 20,.map 21] 171 false false,.map (ah S.A),.map (ah S.B),.map (ah S.C)]
instance Kc (M:nr):dc (.map (ah M)):=tC (fun _=>rfl) (fun b=>show X1.shut (.agg (dB b))=true from bq b) M
abbrev bQ:List Nat:=[2,3,4,5,6,7,8,9,10,11,12,13,14,15,16,17,18,19,20,21]
theorem gk (S:bz) (n:Nat) (h:22≤n) {l:ak}(hl:bE n l):bE n (dI S++l):=by
 have k:∀ j,j<22→j<n:=fun j hj=>by omega
 refine .cons ?_ (.cons ?_ (.cons ?_ (.flat (.flat (.flat (.cons ?_ (.flat (.flat (.flat (.cons ?_ (.flat (.flat (.flat (.cons ?_ (.flat (.cons ?_ (.flat (.flat (.flat hl)))))))))))))))))))
 all_goals simp [aj.cc,XC.ok];omega
theorem qB (S:bz) {τ : Nat→Nat}(h:∀ j,2≤j→j<22 → τ j=j) {l l':ak}(hl:dO τ l l'):dO τ (dI S++l) (dI S++l'):=by
 have h3:=h 3 (by omega) (by omega)
 have h4:=h 4 (by omega) (by omega)
 have h5:=h 5 (by omega) (by omega)
 have h6:=h 6 (by omega) (by omega)
 have h7:=h 7 (by omega) (by omega)
 have h8:=h 8 (by omega) (by omega)
 have h9:=h 9 (by omega) (by omega)
 have h10:=h 10 (by omega) (by omega)
 have h11:=h 11 (by omega) (by omega)
 have h12:=h 12 (by omega) (by omega)
 have h13:=h 13 (by omega) (by omega)
 have h14:=h 14 (by omega) (by omega)
 have h15:=h 15 (by omega) (by omega)
 have h16:=h 16 (by omega) (by omega)
 have h17:=h 17 (by omega) (by omega)
 have h18:=h 18 (by omega) (by omega)
 have h19:=h 19 (by omega) (by omega)
 have h20:=h 20 (by omega) (by omega)
 have h21:=h 21 (by omega) (by omega)
 refine .cons ?_ (.cons ?_ (.cons ?_ (.flat (.flat (.flat (.cons ?_ (.flat (.flat (.flat (.cons ?_ (.flat (.flat (.flat (.cons ?_ (.flat (.cons ?_ (.flat (.flat (.flat hl)))))))))))))))))))
 all_goals simp only [aj.au,List.map_cons,List.map_nil,XC.au, *]
theorem oP (S:bz) {τ : Nat→Nat} {HS:ak}(h:∀ j,2≤j→j<22 → τ j=j) (hS:(HS.drop 2).take 20=dI S) {ls:List Nat} {l:ak}(hl:ae τ HS ls l):ae τ HS (bQ++ls) (dI S++l):=by
 have g:∀ j,j<20→HS[j+2]? = (dI S)[j]?:=fun j hj=>by
  rw [←hS,List.getElem?_take,if_pos hj,List.getElem?_drop]
  congr 1
  omega
 have h3:=h 3 (by omega) (by omega)
 have h4:=h 4 (by omega) (by omega)
 have h5:=h 5 (by omega) (by omega)
 have h6:=h 6 (by omega) (by omega)
 have h7:=h 7 (by omega) (by omega)
 have h8:=h 8 (by omega) (by omega)
 have h9:=h 9 (by omega) (by omega)
 have h10:=h 10 (by omega) (by omega)
 have h11:=h 11 (by omega) (by omega)
 have h12:=h 12 (by omega) (by omega)
 have h13:=h 13 (by omega) (by omega)
 have h14:=h 14 (by omega) (by omega)
 have h15:=h 15 (by omega) (by omega)
 have h16:=h 16 (by omega) (by omega)
 have h17:=h 17 (by omega) (by omega)
 have h18:=h 18 (by omega) (by omega)
 have h19:=h 19 (by omega) (by omega)
 have h20:=h 20 (by omega) (by omega)
 have h21:=h 21 (by omega) (by omega)
 refine .cons ?_ (.cons ?_ (.cons ?_ (.flat (g 3 (by omega)) (.flat (g 4 (by omega)) (.flat (g 5 (by omega)) (.cons ?_ (.flat (g 7 (by omega)) (.flat (g 8 (by omega)) (.flat (g 9 (by omega)) (.cons ?_ (.flat (g 11 (by omega)) (.flat (g 12 (by omega)) (.flat (g 13 (by omega)) (.cons ?_ (.flat (g 15 (by omega)) (.cons ?_ (.flat (g 17 (by omega)) (.flat (g 18 (by omega)) (.flat (g 19 (by omega)) hl)))))))))))))))))))
 · rw [g 0 (by omega)];simp only [aj.au,List.map_cons,List.map_nil,XC.au, *];rfl
 · rw [g 1 (by omega)];simp only [aj.au,List.map_cons,List.map_nil,XC.au, *];rfl
 · rw [g 2 (by omega)];simp only [aj.au,List.map_cons,List.map_nil,XC.au, *];rfl
 · rw [g 6 (by omega)];simp only [aj.au,List.map_cons,List.map_nil,XC.au, *];rfl
 · rw [g 10 (by omega)];simp only [aj.au,List.map_cons,List.map_nil,XC.au, *];rfl
 · rw [g 14 (by omega)];simp only [aj.au,List.map_cons,List.map_nil,XC.au, *];rfl
 · rw [g 16 (by omega)];simp only [aj.au,List.map_cons,List.map_nil,XC.au, *];rfl
theorem JO (a b:List XC) (e e' e2:TypeId) (cs ds:List XC) (S S':bz):eg (.cells a e false false::cK e' cs::dI S) (.cells b e false false :: .dead::(dI S'++[cK e2 ds]))=true:=by
 cases cs <;> cases ds <;> simp [eg,aj.live,aj.own,cK]
theorem KS {f:FuncId} {more:List XV}(hm:∀ τ,dE τ more more) (hmo:eT 22 more) {v:XV} [bB v] {bs bs':List Bool} {S S':bz}(hc:bt Tryz.prog f (.one (.ptr 2 0) :: .one (.ptr 0 0)::more) (aQ 1 bs::av bs::dI S) v (aQ 22 bs' :: .dead::(dI S'++[av bs'])))
 {HS:ak} {k:Nat}(hi:HS[0]? = some (aQ k bs)) (hk:HS[k]? = some (av bs)) (hS:(HS.drop 2).take 20=dI S) (hd:(k == 1 || Nat.ble 22 k)=true) {N:Nat}(hN:HS.length=N) {HS':ak}(hh:bN HS (0::k::bQ) (aQ N bs' :: .dead::(dI S'++[av bs']))=HS') (hbd:Nat.blt HS'.length Mem.bound=true) :
 aI.Sound Tryz.prog ⟨f,.one (.ptr 2 0) :: .one (.ptr 0 0)::more,HS,v,HS',0::k::bQ⟩:=by
 subst hN
 have hkk:k=1∨22≤k:=by simpa [Nat.ble_eq]using hd
 have h0:0∉bQ:=by decide
 have hk':k∉bQ:=by
  intro h
  simp only [bQ,List.mem_cons,List.not_mem_nil,or_false]at h
  omega
 have nd:(0::k::bQ).Nodup:=List.nodup_cons.2 ⟨fun h=>(List.mem_cons.1 h).elim (fun e=>by omega) h0,List.nodup_cons.2 ⟨hk',by decide⟩⟩
 have hq:∀ q:Fin 20,bQ[q.val]? = some (q.val+2):=by decide
 have ht:∀ j,2≤j→j<22→nth (0::k::bQ) j=j:=fun j h1 h2=>by
  obtain⟨q,rfl⟩:∃ q,j=q+2:=⟨j-2,by omega⟩
  have:=hq ⟨q,by omega⟩
  unfold nth
  rw [List.getD_eq_getElem?_getD]
  simp only [List.getElem?_cons_succ]
  rw [this];rfl
 have ht':∀ j,2≤j→j<22→nth ((0::k::bQ)++List.range' HS.length 1) j=j:=fun j h1 h2=>by
  obtain⟨q,rfl⟩:∃ q,j=q+2:=⟨j-2,by omega⟩
  have:=hq ⟨q,by omega⟩
  unfold nth
  rw [List.getD_eq_getElem?_getD]
  show((bQ++List.range' HS.length 1)[q]?).getD 0=q+2
  rw [List.getElem?_append_left (show q<bQ.length by show q<20;omega),this];rfl
 have hv:=oP S ht hS (ls:=[]) .nil
 rw [List.append_nil,List.append_nil]at hv
 have ho:=gk S 22 (Nat.le_refl _) (l:=[]) .nil
 rw [List.append_nil]at ho
 refine b8 (0::k::bQ) (0::k::bQ) 1 hc nd (ae.a_ hi rfl rfl rfl (.flat hk hv)) (.cons (by simp [aj.cc,XC.ok,bp]) (.flat ho)) (.cons (by simp [aj.cc,XC.ok,bp]) (.flat (gk S' 23 (by omega) (.flat .nil)))) rfl (.cons (by show 2<22;omega) (.cons (by show 0<22;omega) hmo)) (.cons rfl (.cons rfl (hm _))) (bB.ok _) (bB.au _) ?_ (JO ..) rfl hh hbd (.inl rfl)
 exact .cons (by simp only [aj.au,List.map_cons,List.map_nil,XC.au,aq];rfl) (.flat (qB S' ht' (.flat .nil)))
def bP (n:Int):Nat:=bitLen (max n (-n)).toNat
def aW (n:Int):List Bool:=dh cZ (bP n)++ef (if n<0 then n+(1*2^bP n-1)else n) (bP n)
theorem vr (n:Nat):n<2^bitLen n:=by
 unfold bitLen
 split
 · rename_i h;rw [h];decide
 · exact Nat.lt_log2_self
theorem j4 {C:Cd}(hC:uG C) (n:Nat):(dh C n).length≤64:=by
 unfold dh
 have:=hC.sz n
 have h:∀(x:Int) (k:Nat),(ef x k).length=k:=fun x k=>gd x k
 rw [h];omega
theorem s8 {n:Int}(h : -4000≤n∧n≤4000):bP n≤12:=ov (by omega)
theorem Fy (bs:List Bool) (S:bz) (n:Int) (hn : -4000≤n∧n≤4000) (hb:bs.length≤800000) :
 bt Tryz.prog 89 [.one (.ptr 2 0),.one (.ptr 0 0),.one (.int .i64 n)] [aQ 1 bs,av bs,dw (S),bR 4 8 12,ay 5 6 7 cM,aX cM,aZ cM,aY cM,ay 9 10 11 cZ,aX cZ,aZ cZ,aY cZ,ay 13 14 15 cP,aX cP,aZ cP,aY cP,ch 17 (S).cols (S).rows,.map (bg (S).M),.cells [.int .i64 (S).cols,.int .i64 (S).rows,.map 19,.map 20,.map 21] 171 false false,.map (ah (S).A),.map (ah (S).B),.map (ah (S).C)] (.tup []) [aQ 22 (bs++aW n),.dead,dw (S),bR 4 8 12,ay 5 6 7 cM,aX cM,aZ cM,aY cM,ay 9 10 11 cZ,aX cZ,aZ cZ,aY cZ,ay 13 14 15 cP,aX cP,aZ cP,aY cP,ch 17 (S).cols (S).rows,.map (bg (S).M),.cells [.int .i64 (S).cols,.int .i64 (S).rows,.map 19,.map 20,.map 21] 171 false false,.map (ah (S).A),.map (ah (S).B),.map (ah (S).C),av (bs++aW n)]:=by
 have hm:max n (0-n)=max n (-n):=by rw [Int.zero_sub]
 have hl:=s8 hn
 have hlt:=vr (max n (-n)).toNat
 have hl2:qf (max n (0-n)).toNat=(bP n:Nat):=by rw [hm];rfl
 have hc:=j4 yf (bP n)
 have hpow:(2:Int)^bP n≤4096:=by
  have:=Nat.pow_le_pow_right (show 0<2 by decide) hl
  have h2:((2^bP n:Nat):Int)≤((2^12:Nat):Int):=Int.ofNat_le.2 this
  rw [Int.natCast_pow]at h2
  exact h2
 have hpl : -n<(2:Int)^bP n∧n<(2:Int)^bP n:=by
  have h2:(((max n (-n)).toNat:Nat):Int)<((2^bP n:Nat):Int):=Int.ofNat_lt.2 hlt
  rw [Int.natCast_pow]at h2
  have h3:((2:Nat):Int)^bP n=(2:Int)^bP n:=rfl
  rw [h3]at h2
  omega
 have h1:(1:Int)*2^bP n=2^bP n:=Int.one_mul _
 have e0:bs++aW n=(bs++dh cZ (bP n))++ef (if n<0 then n+(1*2^bP n-1)else n) (bP n):=by rw [aW,List.append_assoc]
 rw [e0]
 refine cO Tryz.func89 ?_
 by_cases h0:n<0
 · rw [if_pos h0]
   repeat' (first
    |(refine qz ?_;first
     |refine NW ?_
     |refine cl (v := .one (.int .i64 (bP n:Nat))) ?_ (hi:=by rw [←hl2];exact AL (by omega) rfl)
     |refine cl ?_ (hi:=by exact qa (C:=cZ) yf (n:=bP n) rfl (by show bP n<13;omega) (bs:=bs) (by omega) rfl rfl rfl rfl rfl rfl (by decide) nL nA rfl)
     |refine z5 (n:=bP n) ?_ (h:=⟨by show bP n≤64;omega,by show _∧_;omega⟩)
     |refine cl ?_ (hi:=by exact hZ (n:=n+(1*2^bP n-1)) (size:=bP n) rfl (bs:=bs++dh cZ (bP n)) (by omega) (by omega) (by rw [List.length_append];omega) rfl rfl (by decide) nL nA rfl))
    |refine zz ?_|refine zx (fun _=>?_) (fun _=>?_)|fail)
   show aH _ _ _ _ _ _ _ _;refine kV [0,1,2,3,4,5,6,7,8,9,10,11,12,13,14,15,16,17,18,19,20,21,23] ?_
   rfl
 · rw [if_neg h0]
   repeat' (first
    |(refine qz ?_;first
     |refine NW ?_
     |refine cl (v := .one (.int .i64 (bP n:Nat))) ?_ (hi:=by rw [←hl2];exact AL (by omega) rfl)
     |refine cl ?_ (hi:=by exact qa (C:=cZ) yf (n:=bP n) rfl (by show bP n<13;omega) (bs:=bs) (by omega) rfl rfl rfl rfl rfl rfl (by decide) nL nA rfl)
     |refine cl ?_ (hi:=by exact hZ (n:=n) (size:=bP n) rfl (bs:=bs++dh cZ (bP n)) (by omega) (by omega) (by rw [List.length_append];omega) rfl rfl (by decide) nL nA rfl))
    |refine zz ?_|refine zx (fun _=>?_) (fun _=>?_)|fail)
   show aH _ _ _ _ _ _ _ _;refine kV [0,1,2,3,4,5,6,7,8,9,10,11,12,13,14,15,16,17,18,19,20,21,23] ?_
   rfl
theorem Dd {n:Int}(h : -4000≤n∧n≤4000):(aW n).length≤76:=by
 unfold aW
 have:=j4 yf (bP n)
 have:=s8 h
 rw [List.length_append,gd];omega
theorem IS {bs:List Bool} {S:bz} {n:Int}(hn : -4000≤n∧n≤4000) (hb:bs.length≤800000) {HS:ak} {k:Nat}(hi:HS[0]? = some (aQ k bs)) (hk:HS[k]? = some (av bs)) (hS:(HS.drop 2).take 20=dI S) (hd:(k == 1 || Nat.ble 22 k)=true) {N:Nat}(hN:HS.length=N) {HS':ak}(hh:bN HS (0::k::bQ) (aQ N (bs++aW n) :: .dead::(dI S++[av (bs++aW n)]))=HS') (hbd:Nat.blt HS'.length Mem.bound=true) :
 aI.Sound Tryz.prog ⟨89,[.one (.ptr 2 0),.one (.ptr 0 0),.one (.int .i64 n)],HS,.tup [],HS',0::k::bQ⟩:=
 KS (fun _ => .flat .nil) (.flat .nil) (Fy bs S n hn hb) hi hk hS hd hN hh hbd
end Go.Proofs.YtagpkhindehcbaaGreat
namespace Go.Proofs.YtagpkhindehcbaaGreat
open Go.Xm
variable [az]
def kz (B:List Bool):Nat→Int→Nat × Bool→Int × (Nat × Bool)
 | 0,x,r=>(x,r)
 | n+1,x,r=>kz B n (2*x+b2 (dH B r)) (bY B r)
def bZ (B:List Bool) (n:Nat) (r:Nat × Bool):Int × (Nat × Bool):=(if(kz B n 0 r).2.2=true then 0 else(kz B n 0 r).1,(kz B n 0 r).2)
theorem tQ {j:Nat}(h:j≤32):(2:Int)^j≤4294967296:=by
 have h1:=Nat.pow_le_pow_right (show 0<2 by decide) h
 have h2:((2^j:Nat):Int)≤((2^32:Nat):Int):=Int.ofNat_le.2 h1
 rw [Int.natCast_pow]at h2
 exact h2
theorem DM {L:List Int} {B:List Bool}(h:dG L B) (r:Nat × Bool) (n:Nat) (hn:n≤32) :
 bt Tryz.prog 65 [.one (.ptr 0 0),.one (.int .i64 (n:Nat))] (RH L B r.1 r.2) (.one (.int .u64 (bZ B n r).1)) (RH L B (bZ B n r).2.1 (bZ B n r).2.2):=by
 obtain⟨q,hq⟩:∃ q,kz B n 0 r=q:=⟨_,rfl⟩
 unfold bZ
 rw [hq]
 refine cO Tryz.func65 ?_
 repeat' (first|refine zz ?_|refine zx (fun _=>?_) (fun _=>?_)|fail)
 refine WX.dp (σ:=Nat × Int × (Nat × Bool)) (fun s=>[(8,.one (.int .i64 (s.1:Nat))),(5,.one (.int .u64 s.2.1)),(0,.one (.ptr 0 0)),(7,.one (.int .i64 (n:Nat)))]) (fun s=>RH L B s.2.2.1 s.2.2.2) (fun s=>s.1≤n∧0≤s.2.1∧s.2.1<2^s.1∧kz B (n-s.1) s.2.1 s.2.2=q) (fun s=>n-s.1) (0,0,r) ⟨by show 0≤n;omega,by show(0:Int)≤0;omega,by show(0:Int)<2^0;decide,by show kz B (n-0) 0 r=q;rw [Nat.sub_zero];exact hq⟩ (fun s _=>kS) (bm [0,1]) ?_
 intro s ⟨h1,h2,h3,h4⟩ ih
 have hp:=tQ (j:=s.1) (by omega)
 by_cases hlt:s.1<n
 · have hb:=x_ (dH B s.2.2)
   have hio:B7 .u64 (s.2.1*2^1) (b2 (dH B s.2.2))=2*s.2.1+b2 (dH B s.2.2):=yB .u64 rfl h2 (by omega) hb (fun y g0 g1=>f7 (k := .u64) ⟨by show 0≤y;omega,by show y<18446744073709551616;omega⟩)
   obtain⟨k,hk⟩:∃ k,n-s.1=k+1:=⟨n-s.1-1,by omega⟩
   rw [hk,kz]at h4
   repeat' (first
    |(refine qz ?_;first
     |refine z5 (n:=1) ?_
     |refine cl ?_ (hi:=by exact qs h s.2.2 rfl rfl rfl (by decide) nL rfl))
    |refine zz ?_|refine zx (fun _=>?_) (fun _=>?_)|fail)
   refine ih (s.1+1,2*s.2.1+b2 (dH B s.2.2),bY B s.2.2) _ _ _ (bm [0,1] (reg:=by(repeat' (first|exact af.nil|refine af.flat (by rw [←hio];rfl) ?_|refine af.flat rfl ?_|refine af.cons rfl ?_|refine af.sl rfl (by assumption) rfl ?_|refine af.du rfl rfl (by first|rfl|omega|(simp;done)|(simp;omega)) ?_));first|done|fail)) ⟨by show s.1+1≤n;omega,by show 0≤2*s.2.1+b2 (dH B s.2.2);omega,?_,?_⟩ (by show n-(s.1+1)<n-s.1;omega)
   · show 2*s.2.1+b2 (dH B s.2.2)<2^(s.1+1)
     rw [Int.pow_succ];omega
   · show kz B (n-(s.1+1)) (2*s.2.1+b2 (dH B s.2.2)) (bY B s.2.2)=q
     rw [show n-(s.1+1)=k by omega];exact h4
 · have e0:n-s.1=0:=by omega
   rw [e0,kz]at h4
   subst h4
   repeat' (first
    |(refine qz ?_;first
     |refine sZ (fun ge=>?_) (fun ge=>?_) (hi:=by exact lY rfl rfl (by decide) rfl))
    |refine zz ?_|refine zx (fun _=>?_) (fun _=>?_)|fail)
   · rw [if_pos ge]
     show aH _ _ _ _ _ _ _ _;refine kV [0,1] ?_
     rfl
   · rw [if_neg (by rw [ge];decide)]
     show aH _ _ _ _ _ _ _ _;refine kV [0,1] ?_
     rfl
theorem qv {L:List Int} {B:List Bool}(h:dG L B) (r:Nat × Bool) {n:Nat} {z:Int}(hz:z=(n:Nat)) (hn:n≤32) {HS:ak} {i k:Nat}(hi:HS[i]? = some (bI k L B r.1 r.2)) (hk:HS[k]? = some (aR L)) (hd:i≠k) {HS':ak}(hh:HS.set i (bI k L B (bZ B n r).2.1 (bZ B n r).2.2)=HS') (hbd:Nat.blt HS'.length Mem.bound=true) :
 aI.Sound Tryz.prog ⟨65,[.one (.ptr i 0),.one (.int .i64 z)],HS,.one (.int .u64 (bZ B n r).1),HS',[i]⟩:=by
 subst hz
 exact y8 (fun _ => .flat .nil) (.flat .nil) (DM h r n hn) hi hk hd hh hbd
end Go.Proofs.YtagpkhindehcbaaGreat
namespace Go.Proofs.YtagpkhindehcbaaGreat
open Go.Xm
variable [az]
theorem vG (n:Int):∀(k:Nat) (x:Int) (pre rest:List Bool),kz (pre++(ef n k++rest)) k x (pre.length,false)=(x*2^k+n%2^k,(pre.length+k,false))
 | 0,x,pre,rest=>by simp [kz]
 | k + 1,x,pre,rest=>by
   rw [kz,ef]
   obtain⟨a1,a2⟩:=pP pre (decide (n/2^k%2=1)) (ef n k++rest)
   rw [List.cons_append,a1,a2]
   have e1:pre++(decide (n/2^k%2=1)::(ef n k++rest))=(pre++[decide (n/2^k%2=1)])++(ef n k++rest):=by simp
   have e2:(pre.length+1,false)=((pre++[decide (n/2^k%2=1)]).length,false):=by simp
   rw [e1,e2,vG n k]
   have h2:(0:Int)<2^k:=Int.pow_pos (by decide)
   have hm:n%2^(k+1)=(n/2^k%2)*2^k+n%2^k:=by
    rw [Int.pow_succ]
    have h3:=Int.emod_add_mul_ediv n (2^k)
    have h4:=Int.emod_add_mul_ediv (n/2^k) 2
    have h5:=Int.emod_nonneg n (show(2:Int)^k≠0 by omega)
    have h6:=Int.emod_lt_of_pos n h2
    have h7:0≤n/2^k%2∧n/2^k%2≤1:=by omega
    have h8:n=(2^k*2)*(n/2^k/2)+((n/2^k%2)*2^k+n%2^k):=by
     have:2^k*(n/2^k)=2^k*(n/2^k%2)+2^k*(2*(n/2^k/2)):=by rw [←Int.mul_add,h4]
     have e:2^k*(2*(n/2^k/2))=(2^k*2)*(n/2^k/2):=by rw [Int.mul_assoc]
     have e':2^k*(n/2^k%2)=(n/2^k%2)*2^k:=Int.mul_comm _ _
     omega
    have h9:0≤(n/2^k%2)*2^k+n%2^k∧(n/2^k%2)*2^k+n%2^k<2^k*2:=by
     rcases(show n/2^k%2=0∨n/2^k%2=1 by omega)with e|e <;> rw [e] <;> omega
    have h10:=Int.emod_eq_of_lt h9.1 h9.2
    rw [←h10]
    conv=>lhs;rw [h8,Int.add_comm,Int.add_mul_emod_self_left]
   have hb:b2 (decide (n/2^k%2=1))=n/2^k%2:=by
    unfold b2
    by_cases h:n/2^k%2=1
    · rw [decide_eq_true h,h];rfl
    · rw [decide_eq_false h]
      have:n/2^k%2=0:=by omega
      rw [this];rfl
   rw [hb,hm]
   refine Prod.ext ?_ ?_
   · show(2*x+n/2^k%2)*2^k+n%2^k=x*2^(k+1)+(n/2^k%2*2^k+n%2^k)
     rw [Int.pow_succ,Int.add_mul]
     have:2*x*2^k=x*(2^k*2):=by rw [Int.mul_comm 2 x,Int.mul_assoc,Int.mul_comm 2 (2^k)]
     omega
   · show((pre++[_]).length+k,false)=(pre.length+(k+1),false)
     simp;omega
theorem u5 {n:Int} {k:Nat}(hn:0≤n∧n<2^k) (pre rest:List Bool):bZ (pre++(ef n k++rest)) k (pre.length,false)=(n,(pre.length+k,false)):=by
 unfold bZ
 rw [vG]
 simp only [Bool.false_eq_true,if_false,Int.zero_mul,Int.zero_add,Int.emod_eq_of_lt hn.1 hn.2]
def v5 (C:Cd):List Bool→Int→Option Int
 | [],_=>none
 | b::w,x=>
   if C.T.getD (x.toNat*2+(b2 b%2^1).toNat) 0=0 then none
   else if C.T.getD (x.toNat*2+(b2 b%2^1).toNat) 0<0 then(if w = []then some (-1-C.T.getD (x.toNat*2+(b2 b%2^1).toNat) 0)else none)
   else v5 C w (C.T.getD (x.toNat*2+(b2 b%2^1).toNat) 0)
theorem oT (C:Cd):∀(w:List Bool) (x n:Int) (f:Nat) (pre rest:List Bool),v5 C w x=some n→w.length≤f→s7 C (pre++(w++rest)) f x (pre.length,false)=(n,(pre.length+w.length,false))
 | [],x,n,f,pre,rest,h,_=>by cases h
 | b::w,x,n,0,pre,rest,h,hf=>by simp at hf
 | b :: w,x,n,f+1,pre,rest,h,hf=>by
   rw [s7,List.cons_append]
   obtain⟨a1,a2⟩:=pP pre b (w++rest)
   rw [a1,a2]
   unfold v5 at h
   by_cases h0:C.T.getD (x.toNat*2+(b2 b%2^1).toNat) 0=0
   · rw [if_pos h0]at h;cases h
   · rw [if_neg h0]at h
     rw [if_neg (by simp;exact h0)]
     by_cases h1:C.T.getD (x.toNat*2+(b2 b%2^1).toNat) 0<0
     · rw [if_pos h1]at h ⊢
       by_cases hw:w = []
       · rw [if_pos hw]at h
         cases h
         subst hw
         rfl
       · rw [if_neg hw]at h;cases h
     · rw [if_neg h1]at h ⊢
       have e1:pre++(b::(w++rest))=(pre++[b])++(w++rest):=by simp
       have e2:(pre.length+1,false)=((pre++[b]).length,false):=by simp
       rw [e1,e2,oT C w _ n f (pre++[b]) rest h (by simpa using hf)]
       simp;omega
theorem KW:∀ n:Fin 5,v5 cM (dh cM n.val) 0=some (n.val:Int)∧(dh cM n.val).length≤cM.T.length/2:=by decide +kernel
theorem KY:∀ n:Fin 13,v5 cZ (dh cZ n.val) 0=some (n.val:Int)∧(dh cZ n.val).length≤cZ.T.length/2:=by decide +kernel
theorem KX:∀ n:Fin 16,v5 cP (dh cP n.val) 0=some (n.val:Int)∧(dh cP n.val).length≤cP.T.length/2:=by decide +kernel
theorem AR {n:Nat}(h:n<5) (pre rest:List Bool):kZ cM (pre++(dh cM n++rest)) (pre.length,false)=((n:Int),(pre.length+(dh cM n).length,false)):=
 oT cM _ 0 _ _ pre rest (KW ⟨n,h⟩).1 (KW ⟨n,h⟩).2
theorem A4 {n:Nat}(h:n<13) (pre rest:List Bool):kZ cZ (pre++(dh cZ n++rest)) (pre.length,false)=((n:Int),(pre.length+(dh cZ n).length,false)):=
 oT cZ _ 0 _ _ pre rest (KY ⟨n,h⟩).1 (KY ⟨n,h⟩).2
theorem uR {n:Nat}(h:n<16) (pre rest:List Bool):kZ cP (pre++(dh cP n++rest)) (pre.length,false)=((n:Int),(pre.length+(dh cP n).length,false)):=
 oT cP _ 0 _ _ pre rest (KX ⟨n,h⟩).1 (KX ⟨n,h⟩).2
end Go.Proofs.YtagpkhindehcbaaGreat
namespace Go.Proofs.YtagpkhindehcbaaGreat
open Go.Xm
variable [az]
abbrev Ha (S:bz):List XC:=[.ptr 3 0,.int .i64 S.id,.bool S.inter,.bool S.down,.int .i64 S.hqp,.int .i64 S.qp,.ptr 16 0,.ptr 18 0]
theorem qy {S:bz} {b:Bool}(h:S.inter=b):(Ha S)[2]? = some (.bool b):=by rw [←h];rfl
def aC (S:bz) (m:Mb):List Bool:=(if S.inter=true then dh cM m.kind.toNat else [decide (m.kind=4)])++(if m.kind=4 then ef (dV S.qp m.qp).1 2 else [])
def e9 (S:bz) (m:Mb):bz:=if m.kind=4 then {S with qp:=m.qp}else S
theorem vQ (a b:Int):0≤(dV a b).1∧(dV a b).1≤3:=by
 unfold dV
 repeat' split
 all_goals simp
theorem iQ (bs:List Bool) (S:bz) (m:Mb) (hm:jc m) (hk:m.kind≤4) (hq : -1000000≤S.qp∧S.qp≤1000000) (hb:bs.length≤800000) :
 bt Tryz.prog 52 [.one (.ptr 2 0),.one (.ptr 0 0),.agg (mC m)] [aQ 1 bs,av bs,dw (S),bR 4 8 12,ay 5 6 7 cM,aX cM,aZ cM,aY cM,ay 9 10 11 cZ,aX cZ,aZ cZ,aY cZ,ay 13 14 15 cP,aX cP,aZ cP,aY cP,ch 17 (S).cols (S).rows,.map (bg (S).M),.cells [.int .i64 (S).cols,.int .i64 (S).rows,.map 19,.map 20,.map 21] 171 false false,.map (ah (S).A),.map (ah (S).B),.map (ah (S).C)] (.tup []) [aQ 22 (bs++aC S m),.dead,dw (e9 S m),bR 4 8 12,ay 5 6 7 cM,aX cM,aZ cM,aY cM,ay 9 10 11 cZ,aX cZ,aZ cZ,aY cZ,ay 13 14 15 cP,aX cP,aZ cP,aY cP,ch 17 (e9 S m).cols (e9 S m).rows,.map (bg (e9 S m).M),.cells [.int .i64 (e9 S m).cols,.int .i64 (e9 S m).rows,.map 19,.map 20,.map 21] 171 false false,.map (ah (e9 S m).A),.map (ah (e9 S m).B),.map (ah (e9 S m).C),av (bs++aC S m)]:=by
 have hkind:=hm.kind
 have hqp:=hm.qp
 have hsr:=vQ S.qp m.qp
 have hcb:=j4 ye m.kind.toNat
 have hkn:m.kind=(m.kind.toNat:Nat):=by omega
 unfold aC
 obtain⟨b,hin⟩:∃ b,S.inter=b:=⟨_,rfl⟩
 have hl2:=qy hin
 by_cases h4:m.kind=4
 · have e4:e9 S m = {S with qp:=m.qp}:=if_pos h4
   rw [e4,if_pos h4]
   cases b
   · rw [if_neg (by rw [hin];decide),decide_eq_true h4,←List.append_assoc]
     refine cO Tryz.func52 ?_
     repeat' (first
      |(refine qz ?_;first
       |refine ld (hc:=hl2) ?_
       |refine cl ?_ (hi:=by exact kF (b:=true) (bs:=bs) (by omega) rfl rfl (by decide) nL nA rfl)
       |refine cl ?_ (hi:=by exact xl hq hqp rfl)
       |refine cl ?_ (hi:=by exact hZ (n:=(dV S.qp m.qp).1) (size:=2) rfl (bs:=bs++[true]) (by omega) (by decide) (by rw [List.length_append];simp;omega) rfl rfl (by decide) nL nA rfl))
      |refine zz ?_|refine zx (fun _=>?_) (fun _=>?_)|fail)
     show aH _ _ _ _ _ _ _ _;refine kV [0,1,2,3,4,5,6,7,8,9,10,11,12,13,14,15,16,17,18,19,20,21,24] ?_
     rfl
   · rw [if_pos hin,←List.append_assoc]
     refine cO Tryz.func52 ?_
     repeat' (first
      |(refine qz ?_;first
       |refine ld (hc:=hl2) ?_
       |refine cl ?_ (hi:=by exact qa (C:=cM) ye (n:=m.kind.toNat) hkn (by show m.kind.toNat<5;omega) (bs:=bs) (by omega) rfl rfl rfl rfl rfl rfl (by decide) nL nA rfl)
       |refine cl ?_ (hi:=by exact xl hq hqp rfl)
       |refine cl ?_ (hi:=by exact hZ (n:=(dV S.qp m.qp).1) (size:=2) rfl (bs:=bs++dh cM m.kind.toNat) (by omega) (by decide) (by rw [List.length_append];omega) rfl rfl (by decide) nL nA rfl))
      |refine zz ?_|refine zx (fun _=>?_) (fun _=>?_)|fail)
     show aH _ _ _ _ _ _ _ _;refine kV [0,1,2,3,4,5,6,7,8,9,10,11,12,13,14,15,16,17,18,19,20,21,24] ?_
     rfl
 · have e4:e9 S m=S:=if_neg h4
   rw [e4,if_neg h4,List.append_nil]
   cases b
   · rw [if_neg (by rw [hin];decide),decide_eq_false h4]
     refine cO Tryz.func52 ?_
     repeat' (first
      |(refine qz ?_;first
       |refine ld (hc:=hl2) ?_
       |refine cl ?_ (hi:=by exact kF (b:=false) (bs:=bs) (by omega) rfl rfl (by decide) nL nA rfl))
      |refine zz ?_|refine zx (fun _=>?_) (fun _=>?_)|fail)
     show aH _ _ _ _ _ _ _ _;refine kV [0,1,2,3,4,5,6,7,8,9,10,11,12,13,14,15,16,17,18,19,20,21,23] ?_
     rfl
   · rw [if_pos hin]
     refine cO Tryz.func52 ?_
     repeat' (first
      |(refine qz ?_;first
       |refine ld (hc:=hl2) ?_
       |refine cl ?_ (hi:=by exact qa (C:=cM) ye (n:=m.kind.toNat) hkn (by show m.kind.toNat<5;omega) (bs:=bs) (by omega) rfl rfl rfl rfl rfl rfl (by decide) nL nA rfl))
      |refine zz ?_|refine zx (fun _=>?_) (fun _=>?_)|fail)
     show aH _ _ _ _ _ _ _ _;refine kV [0,1,2,3,4,5,6,7,8,9,10,11,12,13,14,15,16,17,18,19,20,21,23] ?_
     rfl
theorem fI (S:bz) (m:Mb):(aC S m).length≤66:=by
 unfold aC
 have:=j4 ye m.kind.toNat
 rw [List.length_append]
 split <;> split <;> simp only [List.length_cons,List.length_nil,gd] <;> omega
def qI (M:fX) (cols mb:Int) (v:Nat→Int × Int):fX:=ba (ba (ba (ba M cols mb 0 (v 0)) cols mb 1 (v 1)) cols mb 2 (v 2)) cols mb 3 (v 3)
end Go.Proofs.YtagpkhindehcbaaGreat
namespace Go.Proofs.YtagpkhindehcbaaGreat
open Go.Xm
variable [az]
def bc (S:bz) (mb:Int) (v:Nat→Int × Int):bz:={S with M:=qI S.M S.cols mb v}
theorem Eb (bs:List Bool) (S:bz) (hD:gw S.cols S.rows) (mb:Int) (hmb:0≤mb∧mb<S.cols*S.rows) (m:Mb) :
 bt Tryz.prog 53 [.one (.ptr 2 0),.one (.int .i64 mb),.agg (mC m)] [aQ 1 bs,av bs,dw (S),bR 4 8 12,ay 5 6 7 cM,aX cM,aZ cM,aY cM,ay 9 10 11 cZ,aX cZ,aZ cZ,aY cZ,ay 13 14 15 cP,aX cP,aZ cP,aY cP,ch 17 (S).cols (S).rows,.map (bg (S).M),.cells [.int .i64 (S).cols,.int .i64 (S).rows,.map 19,.map 20,.map 21] 171 false false,.map (ah (S).A),.map (ah (S).B),.map (ah (S).C)] (.tup []) [aQ 1 bs,av bs,dw (bc S mb m.v),bR 4 8 12,ay 5 6 7 cM,aX cM,aZ cM,aY cM,ay 9 10 11 cZ,aX cZ,aZ cZ,aY cZ,ay 13 14 15 cP,aX cP,aZ cP,aY cP,ch 17 (bc S mb m.v).cols (bc S mb m.v).rows,.map (bg (bc S mb m.v).M),.cells [.int .i64 (bc S mb m.v).cols,.int .i64 (bc S mb m.v).rows,.map 19,.map 20,.map 21] 171 false false,.map (ah (bc S mb m.v).A),.map (ah (bc S mb m.v).B),.map (ah (bc S mb m.v).C)]:=by
 refine cO Tryz.func53 ?_
 repeat' (first
  |(refine qz ?_;first
   |refine rS (cs:=vt m.v) ?_ (hle:=by rw [aF];decide)
   |refine pH ?_
   |refine cl ?_ (hi:=by exact dk (M:=S.M) (cols:=S.cols) (rows:=S.rows) (i:=16) (j:=17) (k:=0) (v:=m.v 0) hD hmb (by decide) rfl rfl (by decide) nA rfl)
   |refine cl ?_ (hi:=by exact dk (M:=ba S.M S.cols mb 0 (m.v 0)) (cols:=S.cols) (rows:=S.rows) (i:=16) (j:=17) (k:=1) (v:=m.v 1) hD hmb (by decide) rfl rfl (by decide) nA rfl)
   |refine cl ?_ (hi:=by exact dk (M:=ba (ba S.M S.cols mb 0 (m.v 0)) S.cols mb 1 (m.v 1)) (cols:=S.cols) (rows:=S.rows) (i:=16) (j:=17) (k:=2) (v:=m.v 2) hD hmb (by decide) rfl rfl (by decide) nA rfl)
   |refine cl ?_ (hi:=by exact dk (M:=ba (ba (ba S.M S.cols mb 0 (m.v 0)) S.cols mb 1 (m.v 1)) S.cols mb 2 (m.v 2)) (cols:=S.cols) (rows:=S.rows) (i:=16) (j:=17) (k:=3) (v:=m.v 3) hD hmb (by decide) rfl rfl (by decide) nA rfl))
  |refine WX.loop ?_|refine WX.round ?_|refine zz ?_|refine zx (fun _=>?_) (fun _=>?_)|fail)
 show aH _ _ _ _ _ _ _ _;refine kV [0,1,2,3,4,5,6,7,8,9,10,11,12,13,14,15,16,17,18,19,20,21] ?_
 rfl
end Go.Proofs.YtagpkhindehcbaaGreat
namespace Go.Proofs.YtagpkhindehcbaaGreat
open Go.Xm
variable [az]
theorem rj:∀(ls:List Nat) (os HS:ak) (ls2:List Nat) (os2:ak),os.length=ls.length→(∀(j i:Nat),ls[j]? = some i→∃ o,HS[i]? = some o∧os[j]? = some o)→bN HS (ls++ls2) (os++os2)=bN HS ls2 os2
 | [],[],HS,ls2,os2,_,_=>by simp
 | [],_::_,_,_,_,h,_=>by simp at h
 | _::_,[],_,_,_,h,_=>by simp at h
 | i::ls,o::os,HS,ls2,os2,h,hg=>by
   obtain⟨o',h1,h2⟩:=hg 0 i rfl
   have:o'=o:=by simpa using h2.symm
   subst this
   show bN (HS.set i o') (ls++ls2) (os++os2)=_
   rw [aG h1]
   exact rj ls os HS ls2 os2 (by simpa using h) fun j i' hj=>hg (j+1) i' hj
theorem sF {j i:Nat}(h:bQ[j]? = some i):j<20∧i=j+2:=by
 have hjl:j<20:=(List.getElem?_eq_some_iff.1 h).1
 have hq:∀ q:Fin 20,bQ[q.val]? = some (q.val+2):=by decide
 have:=hq ⟨j,hjl⟩
 rw [h]at this
 exact⟨hjl,by simpa using this⟩
theorem xj {S:bz} {HS:ak}(hS:(HS.drop 2).take 20=dI S) {j:Nat}(hj:j<20):HS[j+2]? = (dI S)[j]?:=by
 rw [←hS,List.getElem?_take,if_pos hj,List.getElem?_drop]
 congr 1
 omega
theorem pO (ls:List Nat) (os HS l:ak) (h:os.length=ls.length) (hg:∀(j i:Nat),ls[j]? = some i→∃ o,HS[i]? = some o∧os[j]? = some o):bN HS ls (os++l)=HS++l:=by
 have:=rj ls os HS [] l h hg
 rw [List.append_nil]at this
 rw [this,bN]
theorem qF {f:FuncId} {more:List XV}(hm:∀ τ,dE τ more more) (hmo:eT 22 more) {v:XV} [bB v] {bs bs':List Bool} {S S':bz}(hT:(dI S').tail=(dI S).tail) (hc:bt Tryz.prog f (.one (.ptr 2 0) :: .one (.ptr 0 0)::more) (aQ 1 bs::av bs::dI S) v (aQ 22 bs' :: .dead::(dI S'++[av bs'])))
 {HS:ak} {k:Nat}(hi:HS[0]? = some (aQ k bs)) (hk:HS[k]? = some (av bs)) (hS:(HS.drop 2).take 20=dI S) (hd:(k == 1 || Nat.ble 22 k)=true) {N:Nat}(hN:HS.length=N) {HS':ak}(hh:bN HS [0,k,2] [aQ N bs',.dead,dw S',av bs']=HS') (hbd:Nat.blt HS'.length Mem.bound=true) :
 aI.Sound Tryz.prog ⟨f,.one (.ptr 2 0) :: .one (.ptr 0 0)::more,HS,v,HS',0::k::bQ⟩:=by
 refine KS hm hmo hc hi hk hS hd hN ?_ hbd
 rw [←hh]
 have hkk:k=1∨22≤k:=by simpa [Nat.ble_eq]using hd
 have e1:dI S'++[av bs']=dw S'::((dI S).tail++[av bs']):=by rw [←hT];rfl
 have e2:bQ=2::bQ.tail:=rfl
 rw [e1,e2,bN,bN,bN,bN,bN,bN,bN]
 refine pO bQ.tail (dI S).tail _ _ rfl fun j i hj=>?_
 have hj':bQ[j+1]? = some i:=hj
 obtain⟨h1,rfl⟩:=sF hj'
 have hl:j+1<(dI S).length:=h1
 refine⟨(dI S)[j+1],?_,?_⟩
 · rw [List.getElem?_set_ne (by omega),List.getElem?_set_ne (by omega),List.getElem?_set_ne (by omega),xj hS h1,List.getElem?_eq_getElem hl]
 · rw [List.getElem?_tail,List.getElem?_eq_getElem hl]
theorem mP (k:Nat) (r:List Nat):∀ j,2≤j→j<22→nth ((0::k::bQ)++r) j=j:=fun j h1 h2=>by
 have hq:∀ q:Fin 20,bQ[q.val]? = some (q.val+2):=by decide
 obtain⟨q,rfl⟩:∃ q,j=q+2:=⟨j-2,by omega⟩
 have:=hq ⟨q,by omega⟩
 unfold nth
 rw [List.getD_eq_getElem?_getD]
 show((bQ++r)[q]?).getD 0=q+2
 rw [List.getElem?_append_left (show q<bQ.length by show q<20;omega),this];rfl
theorem qC {k:Nat}(hkk:k=1∨22≤k):(0::k::bQ).Nodup:=by
 have h0:0∉bQ:=by decide
 have hk':k∉bQ:=by
  intro h
  simp only [bQ,List.mem_cons,List.not_mem_nil,or_false]at h
  omega
 exact List.nodup_cons.2 ⟨fun h=>(List.mem_cons.1 h).elim (fun e=>by omega) h0,List.nodup_cons.2 ⟨hk',by decide⟩⟩
theorem G7 (a:List XC) (e e':TypeId) (cs:List XC) (S S':bz):eg (.cells a e false false::cK e' cs::dI S) (.cells a e false false::cK e' cs::dI S')=true:=by
 cases cs <;> simp [eg,aj.live,aj.own,cK]
theorem iW {bs:List Bool} {S:bz}(hD:gw S.cols S.rows) {mb:Int}(hmb:0≤mb∧mb<S.cols*S.rows) {m:Mb} {HS:ak} {k:Nat}(hi:HS[0]? = some (aQ k bs)) (hk:HS[k]? = some (av bs)) (hS:(HS.drop 2).take 20=dI S) (hd:(k == 1 || Nat.ble 22 k)=true) {HS':ak}(hh:HS.set 17 (.map (bg (qI S.M S.cols mb m.v)))=HS') (hbd:Nat.blt HS'.length Mem.bound=true) :
 aI.Sound Tryz.prog ⟨53,[.one (.ptr 2 0),.one (.int .i64 mb),.agg (mC m)],HS,.tup [],HS',[17]⟩:=by
 have hkk:k=1∨22≤k:=by simpa [Nat.ble_eq]using hd
 have nd:=qC hkk
 have ht:∀ j,2≤j→j<22→nth (0::k::bQ) j=j:=fun j h1 h2=>by
  have:=mP k [] j h1 h2
  rwa [List.append_nil]at this
 have ht':∀ j,2≤j→j<22→nth ((0::k::bQ)++List.range' HS.length 0) j=j:=mP k _
 have hv:=oP S ht hS (ls:=[]) .nil
 rw [List.append_nil,List.append_nil]at hv
 have ho:=gk S 22 (Nat.le_refl _) (l:=[]) .nil
 rw [List.append_nil]at ho
 have ho':=gk (bc S mb m.v) 22 (Nat.le_refl _) (l:=[]) .nil
 rw [List.append_nil]at ho'
 have hr:=qB (bc S mb m.v) ht' (l:=[]) (l':=[]) .nil
 rw [List.append_nil]at hr
 have hh' : bN HS (0::k::bQ) (aQ k bs::av bs::dI (bc S mb m.v))=HS':=by
  rw [←hh]
  have e1:(aQ k bs::av bs::dI (bc S mb m.v))=(aQ k bs::av bs::(dI S).take 15)++(.map (bg (qI S.M S.cols mb m.v))::((dI S).drop 16++[])):=rfl
  have e2:(0::k::bQ)=(0::k::bQ.take 15)++(17::bQ.drop 16):=rfl
  rw [e1,e2,rj _ _ _ _ _ rfl]
  · rw [bN]
    rw [pO (bQ.drop 16) ((dI S).drop 16) _ [] rfl,List.append_nil]
    intro j i hj
    rw [List.getElem?_drop]at hj
    obtain⟨h1,rfl⟩:=sF hj
    have hl:16+j<(dI S).length:=h1
    refine⟨(dI S)[16+j],?_,?_⟩
    · rw [List.getElem?_set_ne (by omega),xj hS h1,List.getElem?_eq_getElem hl]
    · rw [List.getElem?_drop,List.getElem?_eq_getElem hl]
  · intro j i hj
    match j,hj with
    | 0,hj=>cases hj;exact⟨_,hi,rfl⟩
    | 1,hj=>cases hj;exact⟨_,hk,rfl⟩
    | j + 2,hj=>
      have hj2:(bQ.take 15)[j]? = some i:=hj
      rw [List.getElem?_take]at hj2
      split at hj2
      · rename_i h15
        obtain⟨h1,rfl⟩:=sF hj2
        have hl:j<(dI S).length:=h1
        refine⟨(dI S)[j],?_,?_⟩
        · rw [xj hS h1,List.getElem?_eq_getElem hl]
        · show((dI S).take 15)[j]? = _
          rw [List.getElem?_take,if_pos h15,List.getElem?_eq_getElem hl]
      · cases hj2
 refine b8 (0::k::bQ) [17] 0 (Eb bs S hD mb hmb m) nd (ae.a_ hi rfl rfl rfl (.flat hk hv)) (.cons (by simp [aj.cc,XC.ok,bp]) (.flat ho)) (.cons (by simp [aj.cc,XC.ok,bp]) (.flat ho')) rfl (.cons (by show 2<22;omega) (.flat (.flat .nil))) (.cons rfl (.flat (.flat .nil))) (bB.ok _) (bB.au _) ?_ (G7 ..) rfl hh' hbd (.inr fun j hjl hj=>?_)
 · exact .cons (by simp only [aj.au,List.map_cons,List.map_nil,XC.au,aq];rfl) (.flat hr)
 · subst hh
   exact List.getElem?_set_ne (fun h=>hj (by rw [←h];exact List.mem_singleton.2 rfl))
end Go.Proofs.YtagpkhindehcbaaGreat
namespace Go.Proofs.YtagpkhindehcbaaGreat
open Go.Xm
variable [az]
theorem nJ {C:Cd} {K:Int}(hK:0≤K) (h:∀ j,-(K+1)≤C.T.getD j 0) (B:List Bool):∀(k:Nat) (x:Int) (r:Nat × Bool),0≤(s7 C B k x r).1∧(s7 C B k x r).1≤K
 | 0,x,r=>⟨Int.le_refl _,hK⟩
 | k + 1,x,r=>by
   unfold s7
   split
   · exact⟨Int.le_refl _,hK⟩
   · split
     · rename_i h1
       have:=h (x.toNat*2+(b2 (dH B r)%2^1).toNat)
       show 0 ≤ -1-C.T.getD _ 0 ∧ -1-C.T.getD _ 0≤K
       omega
     · exact nJ hK h B k _ _
theorem Fk (j:Nat) : -(12+1)≤cZ.T.getD j 0:=jF (p:=fun x => -(12+1)≤x) (by decide) (by decide) j
theorem K7 (j:Nat) : -(4+1)≤cM.T.getD j 0:=jF (p:=fun x => -(4+1)≤x) (by decide) (by decide) j
theorem K8 (j:Nat) : -(15+1)≤cP.T.getD j 0:=jF (p:=fun x => -(15+1)≤x) (by decide) (by decide) j
theorem vH (B:List Bool):∀(n:Nat) (x:Int) (r:Nat × Bool),0≤x→0≤(kz B n x r).1∧(kz B n x r).1<(x+1)*2^n
 | 0,x,r,h=>⟨h,by show x<(x+1)*2^0;omega⟩
 | n+1,x,r,h=>by
   have hb:=x_ (dH B r)
   have ih:=vH B n (2*x+b2 (dH B r)) (bY B r) (by omega)
   refine⟨ih.1,Int.lt_of_lt_of_le ih.2 ?_⟩
   rw [Int.pow_succ,Int.mul_comm (2^n) 2,←Int.mul_assoc]
   exact Int.mul_le_mul_of_nonneg_right (by omega) (Int.le_of_lt (Int.pow_pos (by decide)))
theorem mz (B:List Bool) (n:Nat) (r:Nat × Bool):0≤(bZ B n r).1∧(bZ B n r).1<2^n:=by
 have h:=vH B n 0 r (Int.le_refl _)
 have hp:(0:Int)<2^n:=Int.pow_pos (by decide)
 unfold bZ
 simp only []
 split
 · omega
 · rw [Int.zero_add,Int.one_mul]at h;exact h
def cH (B:List Bool) (r:Nat × Bool):Nat:=(kZ cZ B r).1.toNat
def l6 (B:List Bool) (r:Nat × Bool):Int × (Nat × Bool):=bZ B (cH B r) (kZ cZ B r).2
def fF (B:List Bool) (r:Nat × Bool):Int × (Nat × Bool):=
 if 0<cH B r∧(l6 B r).1<1*2^(cH B r-1)then
  ((l6 B r).1-(1*2^cH B r-1),if(l6 B r).1-(1*2^cH B r-1)=0 then((l6 B r).2.1,true)else(l6 B r).2)
 else l6 B r
theorem Ki {L:List Int} {B:List Bool}(h:dG L B) (r:Nat × Bool) (S:bz) :
 bt Tryz.prog 96 [.one (.ptr 2 0),.one (.ptr 0 0)] [bI 1 L B r.1 r.2,aR L,dw (S),bR 4 8 12,ay 5 6 7 cM,aX cM,aZ cM,aY cM,ay 9 10 11 cZ,aX cZ,aZ cZ,aY cZ,ay 13 14 15 cP,aX cP,aZ cP,aY cP,ch 17 (S).cols (S).rows,.map (bg (S).M),.cells [.int .i64 (S).cols,.int .i64 (S).rows,.map 19,.map 20,.map 21] 171 false false,.map (ah (S).A),.map (ah (S).B),.map (ah (S).C)] (.one (.int .i64 (fF B r).1)) [bI 1 L B (fF B r).2.1 (fF B r).2.2,aR L,dw (S),bR 4 8 12,ay 5 6 7 cM,aX cM,aZ cM,aY cM,ay 9 10 11 cZ,aX cZ,aZ cZ,aY cZ,ay 13 14 15 cP,aX cP,aZ cP,aY cP,ch 17 (S).cols (S).rows,.map (bg (S).M),.cells [.int .i64 (S).cols,.int .i64 (S).rows,.map 19,.map 20,.map 21] 171 false false,.map (ah (S).A),.map (ah (S).B),.map (ah (S).C)]:=by
 have hr:=nJ (K:=12) (by decide) Fk B (cZ.T.length/2) 0 r
 have hz:(kZ cZ B r).1=(cH B r:Nat):=by unfold cH;have:0≤(kZ cZ B r).1:=hr.1;omega
 have hs:cH B r≤12:=by have:(kZ cZ B r).1≤12:=hr.2;omega
 have hn:=mz B (cH B r) (kZ cZ B r).2
 have hn':0≤(l6 B r).1∧(l6 B r).1<2^cH B r:=hn
 have hp:=tQ (j:=cH B r) (by omega)
 have hp1:=tQ (j:=cH B r-1) (by omega)
 have hq:(0:Int)<2^cH B r:=Int.pow_pos (by decide)
 have hq1:(0:Int)<2^(cH B r-1):=Int.pow_pos (by decide)
 have key:∀ {HS HS':ak},HS[0]? = some (bI 1 L B (kZ cZ B r).2.1 (kZ cZ B r).2.2)→HS[1]? = some (aR L)→HS.set 0 (bI 1 L B (l6 B r).2.1 (l6 B r).2.2)=HS'→Nat.blt HS'.length Mem.bound=true→aI.Sound Tryz.prog ⟨65,[.one (.ptr 0 0),.one (.int .i64 (cH B r:Nat))],HS,.one (.int .u64 (l6 B r).1),HS',[0]⟩:=fun a b c d=>qv h (kZ cZ B r).2 rfl (by omega) a b (by decide) c d
 have key0:∀ {HS HS':ak},HS[0]? = some (bI 1 L B r.1 r.2)→HS[1]? = some (aR L)→HS[8]? = some (ay 9 10 11 cZ)→HS[9]? = some (aX cZ)→HS[10]? = some (aZ cZ)→HS[11]? = some (aY cZ)→HS.set 0 (bI 1 L B (kZ cZ B r).2.1 (kZ cZ B r).2.2)=HS'→Nat.blt HS'.length Mem.bound=true→aI.Sound Tryz.prog ⟨63,[.one (.ptr 8 0),.one (.ptr 0 0)],HS,.one (.int .i64 (cH B r:Nat)),HS',[0]⟩:=fun a b c d e f g i=>by
  have:=s6 yf h r a b c d e f (by decide) g i
  rw [hz]at this
  exact this
 unfold fF
 by_cases hc:0<cH B r∧(l6 B r).1<1*2^(cH B r-1)
 · rw [if_pos hc]
   have hc1:=hc.1
   have hc2:=hc.2
   have e1:((cH B r:Nat):Int)-1=((cH B r-1:Nat):Int):=by omega
   by_cases h0:(l6 B r).1-(1*2^cH B r-1)=0
   · rw [if_pos h0]
     refine cO Tryz.func96 ?_
     repeat' (first
      |(refine qz ?_;first
       |refine cl ?_ (hi:=by exact key0 rfl rfl rfl rfl rfl rfl nL rfl)
       |refine cl ?_ (hi:=by exact key rfl rfl nL rfl)
       |refine z5 (n:=cH B r-1) ?_ (hn:=e1) (h:=⟨by show cH B r-1≤64;omega,by show _∧_;omega⟩)
       |refine z5 (n:=cH B r) ?_ (h:=⟨by show cH B r≤64;omega,by show _∧_;omega⟩)
       |refine cl ?_ (hi:=by exact l0 (p:=(l6 B r).2.1) (e:=(l6 B r).2.2) rfl rfl (by decide) nL rfl))
      |refine zz ?_|refine zx (fun _=>?_) (fun _=>?_)|fail)
     show aH _ _ _ _ _ _ _ _;refine kV [0,1,2,3,4,5,6,7,8,9,10,11,12,13,14,15,16,17,18,19,20,21] ?_
     rfl
   · rw [if_neg h0]
     refine cO Tryz.func96 ?_
     repeat' (first
      |(refine qz ?_;first
       |refine cl ?_ (hi:=by exact key0 rfl rfl rfl rfl rfl rfl nL rfl)
       |refine cl ?_ (hi:=by exact key rfl rfl nL rfl)
       |refine z5 (n:=cH B r-1) ?_ (hn:=e1) (h:=⟨by show cH B r-1≤64;omega,by show _∧_;omega⟩)
       |refine z5 (n:=cH B r) ?_ (h:=⟨by show cH B r≤64;omega,by show _∧_;omega⟩))
      |refine zz ?_|refine zx (fun _=>?_) (fun _=>?_)|fail)
     show aH _ _ _ _ _ _ _ _;refine kV [0,1,2,3,4,5,6,7,8,9,10,11,12,13,14,15,16,17,18,19,20,21] ?_
     rfl
 · rw [if_neg hc]
   by_cases h0:0<cH B r
   · have hc2:¬(l6 B r).1<1*2^(cH B r-1):=fun g=>hc ⟨h0,g⟩
     have e1:((cH B r:Nat):Int)-1=((cH B r-1:Nat):Int):=by omega
     refine cO Tryz.func96 ?_
     repeat' (first
      |(refine qz ?_;first
       |refine cl ?_ (hi:=by exact key0 rfl rfl rfl rfl rfl rfl nL rfl)
       |refine cl ?_ (hi:=by exact key rfl rfl nL rfl)
       |refine z5 (n:=cH B r-1) ?_ (hn:=e1) (h:=⟨by show cH B r-1≤64;omega,by show _∧_;omega⟩))
      |refine zz ?_|refine zx (fun _=>?_) (fun _=>?_)|fail)
     show aH _ _ _ _ _ _ _ _;refine kV [0,1,2,3,4,5,6,7,8,9,10,11,12,13,14,15,16,17,18,19,20,21] ?_
     rfl
   · refine cO Tryz.func96 ?_
     repeat' (first
      |(refine qz ?_;first
       |refine cl ?_ (hi:=by exact key0 rfl rfl rfl rfl rfl rfl nL rfl)
       |refine cl ?_ (hi:=by exact key rfl rfl nL rfl))
      |refine zz ?_|refine zx (fun _=>?_) (fun _=>?_)|fail)
     show aH _ _ _ _ _ _ _ _;refine kV [0,1,2,3,4,5,6,7,8,9,10,11,12,13,14,15,16,17,18,19,20,21] ?_
     rfl
theorem Ak {n:Nat}(h:0<n):0<bitLen n∧2^(bitLen n-1)≤n:=by
 unfold bitLen
 rw [if_neg (by omega)]
 exact⟨by omega,by rw [Nat.add_sub_cancel];exact Nat.log2_self_le (by omega)⟩
theorem Nl {k:Nat}:((2^k:Nat):Int)=(2:Int)^k:=Int.natCast_pow 2 k
theorem De {n:Int}(hn : -4000≤n∧n≤4000) (pre rest:List Bool):fF (pre++(aW n++rest)) (pre.length,false)=(n,(pre.length+(aW n).length,false)):=by
 have hl:=s8 hn
 have hlt:=vr (max n (-n)).toNat
 have hlt':(((max n (-n)).toNat:Nat):Int)<(2:Int)^bP n:=by rw [←Nl];exact Int.ofNat_lt.2 hlt
 have hm0:(((max n (-n)).toNat:Nat):Int)=max n (-n):=by omega
 have e1:pre++(aW n++rest)=pre++(dh cZ (bP n)++(ef (if n<0 then n+(1*2^bP n-1)else n) (bP n)++rest)):=by unfold aW;simp only [List.append_assoc]
 have e2:pre++(aW n++rest)=(pre++dh cZ (bP n))++(ef (if n<0 then n+(1*2^bP n-1)else n) (bP n)++rest):=by rw [e1];simp only [List.append_assoc]
 have k1:kZ cZ (pre++(aW n++rest)) (pre.length,false)=((bP n:Int),(pre.length+(dh cZ (bP n)).length,false)):=by rw [e1];exact A4 (by omega) pre _
 have hsz:cH (pre++(aW n++rest)) (pre.length,false)=bP n:=by unfold cH;rw [k1];rfl
 have hr:0≤(if n<0 then n+(1*2^bP n-1)else n)∧(if n<0 then n+(1*2^bP n-1)else n)<2^bP n:=by split <;> omega
 have k2:l6 (pre++(aW n++rest)) (pre.length,false)=((if n<0 then n+(1*2^bP n-1)else n),(pre.length+(aW n).length,false)):=by
  unfold l6
  rw [hsz,k1]
  have:=u5 (n:=if n<0 then n+(1*2^bP n-1)else n) (k:=bP n) hr (pre++dh cZ (bP n)) rest
  rw [←e2,List.length_append]at this
  rw [this]
  unfold aW
  rw [List.length_append,gd,Nat.add_assoc]
 unfold fF
 rw [hsz,k2]
 by_cases h0:n=0
 · subst h0
   have e:bP 0=0:=by decide
   rw [if_neg (by rw [e];simp)]
   rfl
 · have hlow:=Ak (n:=(max n (-n)).toNat) (by omega)
   have hlow1:0<bP n:=hlow.1
   have hlow2:(2:Int)^(bP n-1)≤(((max n (-n)).toNat:Nat):Int):=by rw [←Nl];exact Int.ofNat_le.2 hlow.2
   have hp:(2:Int)^bP n=2^(bP n-1)*2:=by
    obtain⟨q,hq⟩:∃ q,bP n=q+1:=⟨bP n-1,by omega⟩
    rw [hq,Nat.add_sub_cancel,Int.pow_succ]
   by_cases hneg:n<0
   · simp only [if_pos hneg]
     rw [if_pos ⟨hlow1,by omega⟩]
     have en:n+(1*2^bP n-1)-(1*2^bP n-1)=n:=by omega
     rw [en,if_neg h0]
   · simp only [if_neg hneg]
     rw [if_neg (fun g=>by have:=g.2;omega)]
end Go.Proofs.YtagpkhindehcbaaGreat
namespace Go.Proofs.YtagpkhindehcbaaGreat
open Go.Xm
variable [az]
theorem LO (a b c:List XC) (e e':TypeId) (S S':bz):eg (.cells a e false false :: .cells b e' false false::dI S) (.cells c e false false :: .cells b e' false false::dI S')=true:=by
 simp [eg,aj.live,aj.own]
theorem NI {f:FuncId} {more:List XV}(hm:∀ τ,dE τ more more) (hmo:eT 22 more) {v:XV} [bB v] {L:List Int} {B:List Bool} {p p':Nat} {e e':Bool} {S:bz}(hc:bt Tryz.prog f (.one (.ptr 2 0) :: .one (.ptr 0 0)::more) (bI 1 L B p e::aR L::dI S) v (bI 1 L B p' e'::aR L::dI S))
 {HS:ak}(hi:HS[0]? = some (bI 1 L B p e)) (hk:HS[1]? = some (aR L)) (hS:(HS.drop 2).take 20=dI S) {HS':ak}(hh:HS.set 0 (bI 1 L B p' e')=HS') (hbd:Nat.blt HS'.length Mem.bound=true) :
 aI.Sound Tryz.prog ⟨f,.one (.ptr 2 0) :: .one (.ptr 0 0)::more,HS,v,HS',[0]⟩:=by
 have nd:=qC (k:=1) (.inl rfl)
 have ht:∀ j,2≤j→j<22→nth (0::1::bQ) j=j:=fun j h1 h2=>by
  have:=mP 1 [] j h1 h2
  rwa [List.append_nil]at this
 have ht':∀ j,2≤j→j<22→nth ((0::1::bQ)++List.range' HS.length 0) j=j:=mP 1 _
 have hv:=oP S ht hS (ls:=[]) .nil
 rw [List.append_nil,List.append_nil]at hv
 have ho:=gk S 22 (Nat.le_refl _) (l:=[]) .nil
 rw [List.append_nil]at ho
 have hr:=qB S ht' (l:=[]) (l':=[]) .nil
 rw [List.append_nil]at hr
 have hh':bN HS (0::1::bQ) (bI 1 L B p' e'::aR L::dI S)=HS':=by
  rw [←hh,bN,bN,aG (i:=1) (by rw [List.getElem?_set_ne (by decide)];exact hk)]
  have:=pO bQ (dI S) (HS.set 0 (bI 1 L B p' e')) [] rfl fun j i hj=>by
   obtain⟨h1,rfl⟩:=sF hj
   have hl:j<(dI S).length:=h1
   exact⟨(dI S)[j],by rw [List.getElem?_set_ne (by omega),xj hS h1,List.getElem?_eq_getElem hl],List.getElem?_eq_getElem hl⟩
  rw [List.append_nil,List.append_nil]at this
  exact this
 refine b8 (0::1::bQ) [0] 0 hc nd (.cons hi (.flat hk hv)) (.cons (by simp [aj.cc,XC.ok]) (.flat ho)) (.cons (by simp [aj.cc,XC.ok]) (.flat ho)) rfl (.cons (by show 2<22;omega) (.cons (by show 0<22;omega) hmo)) (.cons rfl (.cons rfl (hm _))) (bB.ok _) (bB.au _) ?_ (LO ..) rfl hh' hbd (.inr fun j hjl hj=>?_)
 · exact .cons rfl (.flat hr)
 · subst hh
   exact List.getElem?_set_ne (fun h=>hj (by rw [←h];exact List.mem_singleton.2 rfl))
theorem HO {L:List Int} {B:List Bool}(h:dG L B) (r:Nat × Bool) {S:bz} {HS:ak}(hi:HS[0]? = some (bI 1 L B r.1 r.2)) (hk:HS[1]? = some (aR L)) (hS:(HS.drop 2).take 20=dI S) {HS':ak}(hh:HS.set 0 (bI 1 L B (fF B r).2.1 (fF B r).2.2)=HS') (hbd:Nat.blt HS'.length Mem.bound=true) :
 aI.Sound Tryz.prog ⟨96,[.one (.ptr 2 0),.one (.ptr 0 0)],HS,.one (.int .i64 (fF B r).1),HS',[0]⟩:=
 NI (fun _ => .nil) .nil (Ki h r S) hi hk hS hh hbd
end Go.Proofs.YtagpkhindehcbaaGreat
namespace Go.Proofs.YtagpkhindehcbaaGreat
open Go.Xm
variable [az]
def w4 (S:bz) (mb k dx dy:Int):Option Kn:=c6 S.A S.B S.C S.cols (placeOf S.cols mb k).1 ((placeOf S.cols mb k).2.1-dx) ((placeOf S.cols mb k).2.2-dy)
def aL (S:bz) (mb k q:Int):Int × Int:=jE (w4 S mb k 1 0) (w4 S mb k 0 1) (w4 S mb k 1 1) q
def cA (S:bz) (mb k q:Int):Nat→Int:=s_ (w4 S mb k 1 0) (w4 S mb k 0 1) (w4 S mb k 1 1) q
def lI (S:bz) (mb k:Int):Int:=(placeOf S.cols mb k).2.2*cL S.cols (placeOf S.cols mb k).1+(placeOf S.cols mb k).2.1
def aO (S:bz) (mb k:Int) (b:Kn):bz:={S with A:=iV (placeOf S.cols mb k).1 0 S.A (lI S mb k) b,B:=iV (placeOf S.cols mb k).1 1 S.B (lI S mb k) b,C:=iV (placeOf S.cols mb k).1 2 S.C (lI S mb k) b}
theorem bL (n q:Int):0≤dq n q∧dq n q≤127:=by
 have h:=mW q
 have:0≤(max n 0+stepOf q/2)/stepOf q:=Int.ediv_nonneg (by omega) (by omega)
 unfold dq
 omega
theorem FH (la lb lc:Option Kn) (q:Int):0≤(jE la lb lc q).2∧(jE la lb lc q).2≤127∧0≤(jE la lb lc q).1∧(jE la lb lc q).1≤2:=by
 unfold jE
 cases la <;> cases lb <;> simp only []
 · exact⟨(bL _ _).1,(bL _ _).2,by simp,by simp⟩
 · exact⟨(bL _ _).1,(bL _ _).2,by simp,by simp⟩
 · exact⟨(bL _ _).1,(bL _ _).2,by simp,by simp⟩
 · cases lc <;> simp only [] <;> split
   · exact⟨(bL _ _).1,(bL _ _).2,by simp,by simp⟩
   · exact⟨(bL _ _).1,(bL _ _).2,by simp,by simp⟩
   · exact⟨(bL _ _).1,(bL _ _).2,by simp,by simp⟩
   · exact⟨(bL _ _).1,(bL _ _).2,by simp,by simp⟩
theorem j6 (S:bz) (mb k q:Int):0≤(aL S mb k q).2∧(aL S mb k q).2≤127∧0≤(aL S mb k q).1∧(aL S mb k q).1≤2:=FH _ _ _ _
section
variable {S:bz} {mb k q:Int}(hD:gw S.cols S.rows) (hmb:0≤mb∧mb<S.cols*S.rows) (hk:0≤k∧k<6)
include hD hmb hk
theorem Ok:hU S.cols S.rows mb k=true:=jG.2 ⟨hmb.1,hmb.2,hk⟩
theorem HF:bt Tryz.prog 70 [.one (.ptr 0 0),.one (.int .i64 mb),.one (.int .i64 k),.one (.int .i64 q)] (bW S.cols S.rows S.A S.B S.C) (jW (aL S mb k q)) (bW S.cols S.rows S.A S.B S.C):=
 qb ⟨hD.c0,hD.c1⟩ ⟨by have:=hD.r0;omega,hD.r1⟩ (Ok hD hmb hk) (p:=(placeOf S.cols mb k).1) (x:=(placeOf S.cols mb k).2.1) (y:=(placeOf S.cols mb k).2.2) rfl (by unfold w4;rw [Int.sub_zero]) (by unfold w4;rw [Int.sub_zero]) rfl
theorem Ej:bt Tryz.prog 73 [.one (.ptr 0 0),.one (.int .i64 mb),.one (.int .i64 k),.one (.int .i64 q)] (bW S.cols S.rows S.A S.B S.C) (.agg (ti .i64 64 (cA S mb k q))) (bW S.cols S.rows S.A S.B S.C):=
 Fz ⟨hD.c0,hD.c1⟩ ⟨by have:=hD.r0;omega,hD.r1⟩ (Ok hD hmb hk) (p:=(placeOf S.cols mb k).1) (x:=(placeOf S.cols mb k).2.1) (y:=(placeOf S.cols mb k).2.2) rfl (by unfold w4;rw [Int.sub_zero]) (by unfold w4;rw [Int.sub_zero]) rfl
theorem HM (b:Kn):bt Tryz.prog 74 [.one (.ptr 0 0),.one (.int .i64 mb),.one (.int .i64 k),.agg (dB b)] (bW S.cols S.rows S.A S.B S.C) (.tup []) (bW S.cols S.rows (aO S mb k b).A (aO S mb k b).B (aO S mb k b).C):=
 JT ⟨hD.c0,hD.c1⟩ ⟨by have:=hD.r0;omega,hD.r1⟩ (Ok hD hmb hk) (p:=(placeOf S.cols mb k).1) (x:=(placeOf S.cols mb k).2.1) (y:=(placeOf S.cols mb k).2.2) rfl b
theorem hY {HS:ak}(ha:HS[18]? = some (.cells [.int .i64 S.cols,.int .i64 S.rows,.map 19,.map 20,.map 21] 171 false false)) (hb:HS[19]? = some (.map (ah S.A))) (hc:HS[20]? = some (.map (ah S.B))) (hd:HS[21]? = some (.map (ah S.C))) (hbd:Nat.blt HS.length Mem.bound=true) :
 aI.Sound Tryz.prog ⟨70,[.one (.ptr 18 0),.one (.int .i64 mb),.one (.int .i64 k),.one (.int .i64 q)],HS,jW (aL S mb k q),HS,[]⟩:=
 aK (HF hD hmb hk) 18 19 20 21 (by decide) ha hb hc hd rfl rfl hbd
theorem n9 {HS:ak}(ha:HS[18]? = some (.cells [.int .i64 S.cols,.int .i64 S.rows,.map 19,.map 20,.map 21] 171 false false)) (hb:HS[19]? = some (.map (ah S.A))) (hc:HS[20]? = some (.map (ah S.B))) (hd:HS[21]? = some (.map (ah S.C))) (hbd:Nat.blt HS.length Mem.bound=true) :
 aI.Sound Tryz.prog ⟨73,[.one (.ptr 18 0),.one (.int .i64 mb),.one (.int .i64 k),.one (.int .i64 q)],HS,.agg (ti .i64 64 (cA S mb k q)),HS,[]⟩:=
 aK (Ej hD hmb hk) 18 19 20 21 (by decide) ha hb hc hd rfl (gB _ _ _) hbd
theorem lq {b:Kn} {HS HS':ak}(ha:HS[18]? = some (.cells [.int .i64 S.cols,.int .i64 S.rows,.map 19,.map 20,.map 21] 171 false false)) (hb:HS[19]? = some (.map (ah S.A))) (hc:HS[20]? = some (.map (ah S.B))) (hd:HS[21]? = some (.map (ah S.C))) (hh:((HS.set 19 (.map (ah (aO S mb k b).A))).set 20 (.map (ah (aO S mb k b).B))).set 21 (.map (ah (aO S mb k b).C))=HS') (hbd:Nat.blt HS'.length Mem.bound=true) :
 aI.Sound Tryz.prog ⟨74,[.one (.ptr 18 0),.one (.int .i64 mb),.one (.int .i64 k),.agg (dB b)],HS,.tup [],HS',[19,20,21]⟩:=
 F3 (HM hD hmb hk b) 18 19 20 21 (by decide) ha hb hc hd hh hbd
end
theorem mX {S:bz} {mb k q:Int}(h:∀ dx dy b,w4 S mb k dx dy=some b→∀ i,-1000000≤b.lv i∧b.lv i≤1000000) (i:Nat) : -1000000≤cA S mb k q i∧cA S mb k q i≤1000000:=by
 have hem:∀(b:Kn) (s:Nat),(∀ i,-1000000≤b.lv i∧b.lv i≤1000000)→∀ n i,-1000000≤em b s n i∧em b s n i≤1000000:=by
  intro b s hb n
  induction n with
  | zero=>intro i;simp [em]
  | succ n ih=>
    intro i
    rw [mB]
    unfold cW
    split
    · exact hb _
    · exact ih i
 have ho:∀(o:Option Kn) (s:Nat),(∀ b,o=some b→∀ i,-1000000≤b.lv i∧b.lv i≤1000000) → -1000000≤eX o s q i∧eX o s q i≤1000000:=by
  intro o s hb
  cases o with
  | none=>simp [eX,jg]
  | some b=>
    unfold eX
    simp only []
    split
    · exact hem b s (hb b rfl) _ i
    · simp [jg]
 unfold cA s_
 split
 · exact ho _ _ (h 1 0)
 · split
   · exact ho _ _ (h 0 1)
   · simp [jg]
end Go.Proofs.YtagpkhindehcbaaGreat
namespace Go.Proofs.YtagpkhindehcbaaGreat
open Go.Xm
variable [az]
theorem tW {f:Nat→Int}(h:∀ i,i<64 → -2047≤f i∧f i≤2047):∀(n i:Nat) (run:Int),i+n=64→0≤run→run≤i→∀ e∈gG f n i run,wk e∧e.2.2=false
 | 0,i,run,_,_,_,e,he=>by cases he
 | n + 1,i,run,h1,h2,h3,e,he=>by
   unfold gG at he
   by_cases hz:f i=0
   · rw [if_pos hz]at he
     exact tW h n (i+1) (run+1) (by omega) (by omega) (by omega) e he
   · rw [if_neg hz]at he
     rcases List.mem_cons.1 he with rfl|he
     · exact⟨⟨⟨h2,by show run≤63;omega⟩,hz,h i (by omega)⟩,rfl⟩
     · exact tW h n (i+1) 0 (by omega) (by omega) (by omega) e he
theorem tp:∀(l:List Ev) (j:Nat),(∀ e∈l,e.2.2=false)→j<l.length→(jf l).getD j default=((l.getD j default).1,(l.getD j default).2.1,decide (j+1=l.length))
 | [],j,_,hj=>by simp at hj
 | [e],j,_,hj=>by
   have:j=0:=by simpa using hj
   subst this
   rfl
 | e::e2::l,0,hf,_=>by
   have:e.2.2=false:=hf e (List.mem_cons_self ..)
   show e=(e.1,e.2.1,decide (0+1=(e::e2::l).length))
   rw [decide_eq_false (by simp),←this]
 | e :: e2::l,j+1,hf,hj=>by
   have ih:=tp (e2::l) j (fun x hx=>hf x (List.mem_cons_of_mem _ hx)) (by simpa using hj)
   show(jf (e2::l)).getD j default=_
   rw [ih]
   show _=(((e2::l).getD j default).1,((e2::l).getD j default).2.1,decide (j+1+1=(e::e2::l).length))
   have:decide (j+1=(e2::l).length)=decide (j+1+1=(e::e2::l).length):=by
    simp only [List.length_cons]
    rcases Classical.em (j+1=l.length+1)with g|g
    · rw [decide_eq_true g,decide_eq_true (by omega)]
    · rw [decide_eq_false g,decide_eq_false (by omega)]
   rw [this]
theorem JR {f:Nat→Int} {st:Nat}(hst:st≤64) (h:∀ i,i<64 → -2047≤f i∧f i≤2047):eP f st = []∨kT (eP f st):=by
 have hg:=tW h (64-st) st 0 (by omega) (Int.le_refl _) (by omega)
 have hlen:=rk f (64-st) st 0
 unfold eP
 generalize gG f (64-st) st 0=l at hg hlen ⊢
 cases hl:l with
 | nil=>exact .inl rfl
 | cons a t=>
   right
   rw [←hl]
   have hpos:0<l.length:=by rw [hl];simp
   have hget:∀ j,j<l.length→(jf l).getD j default=((l.getD j default).1,(l.getD j default).2.1,decide (j+1=l.length)):=fun j hj=>tp l j (fun e he=>(hg e he).2) hj
   have hmem:∀ j,j<l.length→l.getD j default∈l:=fun j hj=>by
    rw [List.getD_eq_getElem?_getD,List.getElem?_eq_getElem hj]
    exact List.getElem_mem hj
   refine⟨by rw [ij];omega,fun j hj=>?_,fun j hj=>?_⟩
   · rw [ij]at hj
     have:=(hg _ (hmem j hj)).1
     rw [hget j hj]
     exact⟨this.run,this.nz,this.lev⟩
   · rw [ij]at hj
     rw [hget j hj,ij]
theorem Hb {o:Int}(ho:o=0∨o=1∨o=2) {f:Nat→Int}(h:∀ i,i<64 → -2047≤f i∧f i≤2047):∀ i,i<64 → -2047≤gH o f i∧gH o f i≤2047:=fun i hi=>by
 have:=oI ho hi
 exact h _ (by omega)
end Go.Proofs.YtagpkhindehcbaaGreat
namespace Go.Proofs.YtagpkhindehcbaaGreat
open Go.Xm
variable [az]
structure pq where
 S:bz
 B:List Bool
 pat:Int
 col:Int
 ev:Nat→List Ev
def aA (m:Mb) (k:Nat) (i:Nat):Int:=m.lev (k*64+i)
noncomputable def gF (m:Mb) (S:bz) (mb:Int) (k:Nat):Option (Nat→Int):=
 if alone m=true then(if m.edge=true then nU (aA m k) (cA S mb k m.qp)else some (aA m k)).map fun r=>cW r 0 0 else some (aA m k)
noncomputable def nE (m:Mb) (S:bz) (mb:Int) (k:Nat) (r:Nat→Int):List Ev:=eP (gH (dt m.edge (aL S mb k m.qp).1) r) (if alone m=true then 1 else 0)
def eF (pat k:Int):Int:=B7 .i64 pat (8/2^k.toNat)
def ib (col k:Int):Int:=B7 .u64 col (2/2^(k-4).toNat)
noncomputable def cx (m:Mb) (mb:Int) (k:Nat) (x:pq) (ev:List Ev):pq:=
 ⟨if alone m=true then aO x.S mb k ⟨aA m k,m.qp⟩else x.S,if alone m=true then x.B++aW (aA m k 0-(aL x.S mb k m.qp).2)else x.B,if 0<ev.length∧k<4 then eF x.pat k else x.pat,if 0<ev.length∧¬k<4 then ib x.col k else x.col,fun j=>if j=k then ev else x.ev j⟩
noncomputable def fY (m:Mb) (mb:Int) (x0:pq):Nat→Option pq
 | 0=>some x0
 | k+1=>(fY m mb x0 k).bind fun x=>(gF m x.S mb k).map fun r=>cx m mb k x (nE m x.S mb k r)
theorem C5 {m:Mb} {mb:Int} {x0:pq} {k:Nat}(h:fY m mb x0 k=none):∀ j,k≤j→fY m mb x0 j=none:=by
 intro j hj
 induction hj with
 | refl=>exact h
 | step _ ih=>rw [fY,ih];rfl
def xW (T:nr):Prop:=∀ key b,cp T key=some b→∀ i,-1000000≤b.lv i∧b.lv i≤1000000
def sQ (S:bz):Prop:=xW S.A∧xW S.B∧xW S.C
theorem Ge {T:nr}(h:xW T) {key:Int} {b:Kn}(hb:∀ i,-1000000≤b.lv i∧b.lv i≤1000000):xW (nk T key b):=fun key' b' h'=>by
 rw [fL]at h'
 split at h'
 · cases h';exact hb
 · exact h key' b' h'
theorem lQ {p q:Int} {T:nr}(h:xW T) {key:Int} {b:Kn}(hb:∀ i,-1000000≤b.lv i∧b.lv i≤1000000):xW (iV p q T key b):=by
 unfold iV
 split
 · exact Ge h hb
 · exact h
theorem lP:xW []:=fun key b h=>by cases h
structure iy (S:bz):Prop where
 dims:gw S.cols S.rows
 lev:sQ S
 tiny:cj S.M
theorem w5 {S:bz}(h:sQ S) {mb k dx dy:Int} {b:Kn}(hb:w4 S mb k dx dy=some b):∀ i,-1000000≤b.lv i∧b.lv i≤1000000:=by
 unfold w4 c6 cu at hb
 split at hb
 · cases hb
 · unfold bU at hb
   split at hb
   · exact h.1 _ _ hb
   · split at hb
     · exact h.2.1 _ _ hb
     · exact h.2.2 _ _ hb
structure j9 (m:Mb):Prop where
 ok:jc m
 kind:m.kind≤4
 lev:∀ i,i<384 → -2047≤m.lev i∧m.lev i≤2047
 first:alone m=true→∀ k,k<6→0≤m.lev (k*64)∧m.lev (k*64)≤127
structure z6 (m:Mb) (mb:Int) (x0:pq) (s:Nat × pq):Prop where
 le:s.1≤6
 run:fY m mb x0 s.1=some s.2
 st:iy s.2.S
 cr:s.2.S.cols=x0.S.cols∧s.2.S.rows=x0.S.rows
 len:s.2.B.length≤x0.B.length+76*s.1
 nil:∀ j,s.1≤j→s.2.ev j = []
 evs:∀ j,s.2.ev j = []∨kT (s.2.ev j)
 pat:0≤s.2.pat∧s.2.pat<16
 col:0≤s.2.col∧s.2.col<4
theorem GF:∀(a:Fin 16) (k:Fin 4),0≤eF (a.val:Int) (k.val:Int)∧eF (a.val:Int) (k.val:Int)<16:=by decide +kernel
theorem Fs:∀(a:Fin 4) (k:Fin 2),0≤ib (a.val:Int) ((k.val+4:Nat):Int)∧ib (a.val:Int) ((k.val+4:Nat):Int)<4:=by decide +kernel
theorem yX {a:Int} {k:Nat}(h:0≤a∧a<16) (hk:k<4):0≤eF a k∧eF a k<16:=by
 have:=GF ⟨a.toNat,by omega⟩ ⟨k,hk⟩
 simp only [Int.toNat_of_nonneg h.1]at this
 exact this
theorem yh {a:Int} {k:Nat}(h:0≤a∧a<4) (hk:¬k<4) (hk6:k<6):0≤ib a k∧ib a k<4:=by
 have:=Fs ⟨a.toNat,by omega⟩ ⟨k-4,by omega⟩
 simp only [Int.toNat_of_nonneg h.1,show k-4+4=k by omega]at this
 exact this
theorem lN {m:Mb}(hg:j9 m) {S:bz} {mb:Int} {k:Nat}(ha:alone m=true) (hk:k<6) : -4000≤aA m k 0-(aL S mb k m.qp).2∧aA m k 0-(aL S mb k m.qp).2≤4000:=by
 have h1:=hg.first ha k hk
 have h2:=j6 S mb k m.qp
 have e:aA m k 0=m.lev (k*64):=by unfold aA;rw [Nat.add_zero]
 rw [e]
 omega
theorem Gd {m:Mb}(hg:j9 m) {k:Nat}(hk:k<6):∀ i,i<64 → -2047≤aA m k i∧aA m k i≤2047:=fun i hi=>hg.lev _ (by omega)
theorem Dz {l e r:Nat→Int}(h:nU l e=some r):∀ i,i<64 → -2047≤r i∧r i≤2047:=by
 unfold nU at h
 split at h
 · cases h
 · rename_i hn
   cases h
   intro i hi
   have:¬mH l e i:=fun hb=>hn ⟨i,hi,hb⟩
   unfold mH at this
   show -2047≤l i-e i∧l i-e i≤2047
   omega
theorem C4 {m:Mb}(hg:j9 m) {S:bz} {mb:Int} {k:Nat}(hk:k<6) {r:Nat→Int}(h:gF m S mb k=some r):∀ i,i<64 → -2047≤r i∧r i≤2047:=by
 have hl:=Gd hg hk
 have hu:∀ q:Nat→Int,(∀ i,i<64 → -2047≤q i∧q i≤2047)→∀ i,i<64 → -2047≤cW q 0 0 i∧cW q 0 0 i≤2047:=fun q hq i hi=>by
  unfold cW
  split
  · omega
  · exact hq i hi
 unfold gF at h
 split at h
 · obtain⟨q,hq,rfl⟩:=Option.map_eq_some_iff.1 h
   split at hq
   · exact hu q (Dz hq)
   · cases hq;exact hu _ hl
 · cases h;exact hl
theorem lM {m:Mb}(hg:j9 m) {mb:Int} {x0:pq} {s:Nat × pq}(h:z6 m mb x0 s) (h6:s.1<6) {r:Nat→Int}(hr:gF m s.2.S mb s.1=some r):z6 m mb x0 (s.1+1,cx m mb s.1 s.2 (nE m s.2.S mb s.1 r)):=by
 have hrr:=C4 hg h6 hr
 have hev:nE m s.2.S mb s.1 r = []∨kT (nE m s.2.S mb s.1 r):=by
  unfold nE
  exact JR (by split <;> omega) (Hb (ej _ _) hrr)
 refine⟨by show s.1+1≤6;omega,?_,?_,?_,?_,?_,?_,?_,?_⟩
 · show fY m mb x0 (s.1+1)=_
   rw [fY,h.run]
   simp only [Option.bind_some,hr,Option.map_some]
 · show iy (if alone m=true then aO s.2.S mb s.1 ⟨aA m s.1,m.qp⟩else s.2.S)
   split
   · have hb:∀ i,-1000000≤(Kn.mk (aA m s.1) m.qp).lv i∧(Kn.mk (aA m s.1) m.qp).lv i≤1000000:=fun i=>hg.ok.lev _
     exact⟨h.st.dims,⟨lQ h.st.lev.1 hb,lQ h.st.lev.2.1 hb,lQ h.st.lev.2.2 hb⟩,h.st.tiny⟩
   · exact h.st
 · show(if alone m=true then aO s.2.S mb s.1 ⟨aA m s.1,m.qp⟩else s.2.S).cols=_∧(if alone m=true then aO s.2.S mb s.1 ⟨aA m s.1,m.qp⟩else s.2.S).rows=_
   split <;> exact h.cr
 · show(if alone m=true then s.2.B++aW (aA m s.1 0-(aL s.2.S mb s.1 m.qp).2)else s.2.B).length≤x0.B.length+76*(s.1+1)
   have:=h.len
   split
   · rename_i ha
     have:=Dd (lN hg (S:=s.2.S) (mb:=mb) ha h6)
     rw [List.length_append];omega
   · omega
 · intro j hj
   show(if j=s.1 then _ else s.2.ev j) = []
   have hj':s.1+1≤j:=hj
   rw [if_neg (by omega)]
   exact h.nil j (by omega)
 · intro j
   show(if j=s.1 then _ else s.2.ev j) = []∨kT (if j=s.1 then _ else s.2.ev j)
   split
   · exact hev
   · exact h.evs j
 · show 0≤(if _ then eF s.2.pat s.1 else s.2.pat)∧(if _ then eF s.2.pat s.1 else s.2.pat)<16
   split
   · rename_i hc
     exact yX h.pat hc.2
   · exact h.pat
 · show 0≤(if _ then ib s.2.col s.1 else s.2.col)∧(if _ then ib s.2.col s.1 else s.2.col)<4
   split
   · rename_i hc
     exact yh h.col hc.2 h6
   · exact h.col
def eU (x:pq):List Bool:=(x.B++dh cP x.pat.toNat)++ef x.col 2
def bH (bw:List Bool) (x:pq):Nat→List Bool
 | 0=>bw
 | k+1=>bH bw x k++fR (x.ev k)
theorem qT {bw:List Bool} {x:pq}(h:∀ j,x.ev j = []∨kT (x.ev j)):∀ k,(bH bw x k).length≤bw.length+3456*k
 | 0=>Nat.le_refl _
 | k + 1=>by
   rw [bH,List.length_append]
   have ih:=qT (bw:=bw) h k
   have:(fR (x.ev k)).length≤3456:=by
    rcases h k with e|e
    · rw [e];simp [fR]
    · have h1:=td e _ (Nat.le_refl _)
      rw [List.take_length]at h1
      have:=e.len
      omega
   omega
theorem l5 {m:Mb} {a:Bool}(ha:alone m=a) {HS:ak}(hb:Nat.blt HS.length Mem.bound=true):aI.Sound Tryz.prog ⟨37,[.agg (mC m)],HS,.one (.int .i64 (if a=true then 1 else 0)),HS,[]⟩:=by
 subst ha
 exact qE hb
abbrev M1 (ev:Nat→List Ev):aj := .cells [kC 27 (ev 0).length 3,kC 28 (ev 1).length 3,kC 29 (ev 2).length 3,kC 30 (ev 3).length 3,kC 31 (ev 4).length 3,kC 32 (ev 5).length 3] 185 false false
end Go.Proofs.YtagpkhindehcbaaGreat
