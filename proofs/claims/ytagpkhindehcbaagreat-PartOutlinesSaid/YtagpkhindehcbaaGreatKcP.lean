/-
  A part of the proof: Modes2, Scan, RunsOf, BlockPut.
-/
import Derived.Test.YtagpkhindehcbaaGreatKcG
import Derived.Test.YtagpkhindehcbaaGreatKcO
set_option maxRecDepth 10000
set_option maxHeartbeats 8000000
set_option linter.unusedVariables false
set_option linter.unusedSectionVars false
set_option linter.unusedSimpArgs false
namespace Go.Proofs.YtagpkhindehcbaaGreat
open Go.Xm
variable [az]
def yF (m:Mb) (i:Nat):Prop:=(m.kind=0→m.lev i=0)∧(-2047≤m.lev i∧m.lev i≤2047)∧(i%64=0→alone m=true→0≤m.lev i∧m.lev i≤127)
open Classical in
noncomputable def vq (m:Mb):Int:=if ∀ i,i<384→yF m i then 0 else 2
theorem Gf (m : Mb) (hm:jc m):bt Tryz.prog 51 [.agg (mC m)] [] (.one (.int .i64 (vq m))) []:=by
 have hkind:=hm.kind
 refine cO Tryz.func51 ?_
 repeat' (first
  |(refine qz ?_;first
   |refine rS (cs:=ti .i64 384 m.lev) ?_ (hle:=by rw [aF];decide) (hc:=AM m))
  |refine zz ?_|refine zx (fun _=>?_) (fun _=>?_)|fail)
 refine WX.dp (σ:=Nat) (fun k=>[(9,.one (.int .i64 (k:Nat))),(1,.one (.ptr 0 0)),(8,.agg (ti .i64 384 m.lev))]) (fun _=>[lF m]) (fun k=>k≤6∧∀ i,i<k*64→yF m i) (fun k=>6-k) 0 ⟨by omega,fun i hi=>by omega⟩ (fun s _=>kS) (bm [0]) ?_
 intro k ⟨hk,hall⟩ ih
 by_cases hk6:k<6
 · repeat' (first
    |(refine qz ?_;first
     |refine yC (n:=384) ?_
     |refine i9 ?_ (hs1:=by rw [aE]) (hs2:=by rw [aE])
     |refine fy ?_ (hle:=by rw [aE]))
    |refine zz ?_|refine zx (fun _=>?_) (fun _=>?_)|fail)
   refine WX.dp (σ:=Nat) (fun j=>[(13,.one (.int .i64 (j:Nat))),(1,.one (.ptr 0 0)),(8,.agg (ti .i64 384 m.lev)),(9,.one (.int .i64 (k:Nat))),(12,.agg (ti .i64 64 fun i=>m.lev (k*64+i)))]) (fun _=>[lF m]) (fun j=>j≤64∧∀ i,i<k*64+j→yF m i) (fun j=>64-j) 0 ⟨by omega,hall⟩ (fun s _=>kS) (bm [0]) ?_
   intro j ⟨hj,hall2⟩ ih2
   by_cases hj64:j<64
   · have hd : m.lev (k*64+j)=m.lev (k*64+(j:Int).toNat):=rfl
     have hl:=hm.lev (k*64+j)
     repeat' (first
      |(refine qz ?_;first
       |refine Dx (n:=64) (q:=fun i=>m.lev (k*64+i)) ?_
       |refine fy ?_ (hle:=by rw [aF])
       |refine sZ (fun ga=>?_) (fun ga=>?_) (hi:=by exact nC rfl))
      |refine zz ?_|refine zx (fun _=>?_) (fun _=>?_)|fail)
     all_goals
      first
       | (refine ih2 (j+1) _ _ _ (bm [0]) ⟨by omega,fun i hi=>?_⟩ (by omega)
          by_cases hij:i=k*64+j
          · subst hij
            unfold yF
            simp only [Int.toNat_natCast]at *
            refine⟨fun _=>by omega,by omega,fun h64 hal=>?_⟩
            first
             | omega
             | (rw [hal]at ga;cases ga)
          · exact hall2 i (by omega))
       | (show aH _ _ _ _ _ _ _ _;refine kV [] ?_
          rw [show vq m=2 from if_neg (fun hall=>by
           obtain⟨p1,p2,p3⟩:=hall (k*64+j) (by omega)
           simp only [Int.toNat_natCast]at *
           first
            | omega
            | (have:=p3 (by omega) ga;omega))]
          rfl)
   · repeat' (first|refine zz ?_|refine zx (fun _=>?_) (fun _=>?_)|fail)
     refine ih (k+1) _ _ _ (bm [0]) ⟨by omega,fun i hi=>hall2 i (by omega)⟩ (by omega)
 · repeat' (first|refine zz ?_|refine zx (fun _=>?_) (fun _=>?_)|fail)
   show aH _ _ _ _ _ _ _ _;refine kV [] ?_
   rw [show vq m=0 from if_pos (fun i hi=>hall i (by omega))]
   rfl
theorem Jl {m:Mb}(hm:jc m) {HS:ak}(hb:Nat.blt HS.length Mem.bound=true):aI.Sound Tryz.prog ⟨51,[.agg (mC m)],HS,.one (.int .i64 (vq m)),HS,[]⟩:=
 aB (Gf m hm) (by simp only [List.all_cons,List.all_nil,Bool.and_true];exact jX m) rfl hb
theorem gS {m:Mb} {b:Bool}(h:alone m=b) {HS:ak}(hb:Nat.blt HS.length Mem.bound=true):aI.Sound Tryz.prog ⟨13,[.agg (mC m)],HS,.one (.bool b),HS,[]⟩:=by
 subst h;exact nC hb
noncomputable def dQ (m:Mb) (inter:Bool) (was:Int):Int:=
 if 5≤m.kind∨(inter=false∧alone m=false)then 5
 else if m.edge=true∧alone m=false then 4
 else if m.kind=4∧(dV was m.qp).2=false then 6
 else if m.kind≠4∧m.qp≠was then 6
 else if gI m≠0 then gI m else vq m
theorem HQ (m:Mb):gI m=0∨gI m=14:=by
 unfold gI
 split
 · exact .inl rfl
 · exact .inr rfl
theorem C_ (m:Mb) (hm:jc m) (inter:Bool) (was:Int) (hw : -1000000≤was∧was≤1000000):bt Tryz.prog 28 [.agg (mC m),.one (.bool inter),.one (.int .i64 was)] [] (.one (.int .i64 (dQ m inter was))) []:=by
 have hkind:=hm.kind
 have hqp:=hm.qp
 have hvv:=HQ m
 obtain⟨a,ha⟩:∃ a,alone m=a:=⟨_,rfl⟩
 obtain⟨e,he⟩:∃ e,m.edge=e:=⟨_,rfl⟩
 obtain⟨st,hst⟩:∃ st,dV was m.qp=st:=⟨_,rfl⟩
 have hC:mC m = .int .u8 m.kind :: .int .i64 m.qp::cn (m.v 0)::cn (m.v 1)::cn (m.v 2)::cn (m.v 3) :: .bool e::ti .i64 384 m.lev:=by rw [←he];rfl
 have al:∀ {HS:ak},Nat.blt HS.length Mem.bound=true→aI.Sound Tryz.prog ⟨13,[.agg (mC m)],HS,.one (.bool a),HS,[]⟩:=fun hb=>gS ha hb
 have sl:∀ {HS:ak},Nat.blt HS.length Mem.bound=true→aI.Sound Tryz.prog ⟨49,[.one (.int .i64 was),.one (.int .i64 m.qp)],HS,.tup [.one (.int .i64 st.1),.one (.bool st.2)],HS,[]⟩:=fun hb=>by
  have:=xl hw hqp hb
  rw [hst]at this
  exact this
 have hl6:(mC m)[6]? = some (.bool e):=by rw [hC];rfl
 obtain⟨s1,s2⟩:=st
 cases inter <;> cases a <;> cases e <;> cases s2
 all_goals
  refine cO Tryz.func28 ?_
  repeat' (first
   |(refine qz ?_;first
    |refine ld (hc:=hl6) ?_
    |refine fy ?_ (hle:=by rw [aF])
    |refine cl ?_ (hi:=by exact al rfl)
    |refine cl ?_ (hi:=by exact sl rfl)
    |refine cl ?_ (hi:=by exact Kj hm rfl)
    |refine cl ?_ (hi:=by exact Jl hm rfl))
   |refine zz ?_|refine zx (fun _=>?_) (fun _=>?_)|fail)
  all_goals
   show aH _ _ _ _ _ _ _ _;refine kV [] ?_
   unfold dQ
   rw [ha,he,hst]
   simp only [Bool.false_eq_true,Bool.true_eq_false,and_true,and_false,true_and,false_and,or_false,or_true,if_true,if_false,true_or,not_true,not_false_eq_true]
   repeat' split
   all_goals first
    | rfl
    | (exfalso;omega)
theorem Fo {m:Mb}(hm:jc m) {inter:Bool} {was:Int}(hw : -1000000≤was∧was≤1000000) {HS:ak}(hb:Nat.blt HS.length Mem.bound=true):aI.Sound Tryz.prog ⟨28,[.agg (mC m),.one (.bool inter),.one (.int .i64 was)],HS,.one (.int .i64 (dQ m inter was)),HS,[]⟩:=
 aB (C_ m hm inter was hw) (by show((mC m).all XC.shut && (true && (true && true)))=true;rw [jX];rfl) rfl hb
end Go.Proofs.YtagpkhindehcbaaGreat
namespace Go.Proofs.YtagpkhindehcbaaGreat
open Go.Xm
variable [az]
def gH (o:Int) (f:Nat→Int) (i:Nat):Int:=f (mS o i).toNat
def pY (g z:Nat→Int) (i j:Nat):Int:=if j<i then g j else z j
theorem nV (g z:Nat→Int) (i:Nat):cW (pY g z i) i (g i)=pY g z (i+1):=by
 funext j
 unfold cW pY
 by_cases h:j=i
 · subst h;simp
 · by_cases h1:j<i
   · rw [if_neg h,if_pos h1,if_pos (by omega)]
   · rw [if_neg h,if_neg h1,if_neg (by omega)]
theorem nW (g z:Nat→Int):pY g z 0=z:=by funext j;simp [pY]
theorem AQ (k:IntKind) (g z:Nat→Int) (n:Nat):ti k n (pY g z n)=ti k n g:=n_ fun i hi=>by simp [pY,hi]
theorem Hv {o:Int}(h:o=0∨o=1∨o=2) (f:Nat→Int):bt Tryz.prog 91 [.one (.int .u8 o),.agg (ti .i64 64 f)] [] (.agg (ti .i64 64 (gH o f))) []:=by
 refine cO Tryz.func91 ?_
 repeat' (first
  |(refine qz ?_;first
   |refine cl ?_ (hi:=by exact vC h rfl))
  |refine zz ?_|refine zx (fun _=>?_) (fun _=>?_)|fail)
 refine WX.dp (σ:=Nat) (fun j=>[(10,.one (.int .i64 (j:Nat))),(3,.one (.ptr 0 0)),(4,.one (.ptr 1 0)),(5,.one (.ptr 2 0)),(9,.agg (ti .i64 64 (mS o)))]) (fun j=>[.cells (ti .i64 64 f) 50 false false,.cells (ti .i64 64 fun _=>0) 50 false false,.cells (ti .i64 64 (pY (gH o f) (fun _=>0) j)) 50 false false]) (fun j=>j≤64) (fun j=>64-j) 0 (by omega) (fun s _=>kS) (bm [0,1,2] (obj:=by(repeat' (first|exact ae.nil|refine ae.flat (by rw [nW];rfl) ?_|refine ae.flat rfl ?_|refine ae.cons rfl ?_|refine ae.dead rfl ?_|refine ae.cons (by simp only [aj.au,List.map_cons,List.map_nil,XC.au,aq];exact rfl) ?_));first|done|fail)) ?_
 intro j hj ih
 by_cases hj64:j<64
 · have hr:=oI h hj64
   have hr':0≤mS o (j:Int).toNat∧mS o (j:Int).toNat<64:=hr
   repeat' (first
    |(refine qz ?_;first
     |refine Dx (n:=64) ?_)
    |refine zz ?_|refine zx (fun _=>?_) (fun _=>?_)|fail)
   refine ih (j+1) _ _ _ (bm [0,1,2] (obj:=by(repeat' (first|exact ae.nil|refine ae.flat (by rw [←nV];rfl) ?_|refine ae.flat rfl ?_|refine ae.cons rfl ?_|refine ae.dead rfl ?_|refine ae.cons (by simp only [aj.au,List.map_cons,List.map_nil,XC.au,aq];exact rfl) ?_));first|done|fail)) (by omega) (by omega)
 · obtain rfl:j=64:=by omega
   repeat' (first
    |(refine qz ?_;first
     |refine fy ?_ (hle:=by rw [aE])
     |refine i9 ?_ (hs1:=by rw [aE]) (hs2:=by rw [aE]))
    |refine zz ?_|refine zx (fun _=>?_) (fun _=>?_)|fail)
   show aH _ _ _ _ _ _ _ _;refine kV [] ?_
   rw [AQ];rfl
theorem oO {o:Int}(h:o=0∨o=1∨o=2) {f:Nat→Int} {HS:ak}(hb:Nat.blt HS.length Mem.bound=true):aI.Sound Tryz.prog ⟨91,[.one (.int .u8 o),.agg (ti .i64 64 f)],HS,.agg (ti .i64 64 (gH o f)),HS,[]⟩:=
 aB (Hv h f) (by show(true && ((ti .i64 64 f).all XC.shut && true))=true;rw [gB];rfl) (gB _ _ _) hb
def dt (edge:Bool) (frm:Int):Int:=if edge=true∧frm=1 then 2 else if edge=true∧frm=2 then 1 else 0
theorem ej (edge:Bool) (frm:Int):dt edge frm=0∨dt edge frm=1∨dt edge frm=2:=by
 unfold dt
 split
 · exact .inr (.inr rfl)
 · split
   · exact .inr (.inl rfl)
   · exact .inl rfl
theorem DF (edge:Bool) (frm:Int):bt Tryz.prog 71 [.one (.bool edge),.one (.int .u8 frm)] [] (.one (.int .u8 (dt edge frm))) []:=by
 cases edge
 all_goals
  refine cO Tryz.func71 ?_
  repeat' (first|refine zz ?_|refine zx (fun _=>?_) (fun _=>?_)|fail)
  all_goals
   show aH _ _ _ _ _ _ _ _;refine kV [] ?_
   unfold dt
   simp only [Bool.false_eq_true,true_and,false_and,if_false]
   repeat' split
   all_goals first
    | rfl
    | (exfalso;omega)
theorem jI {edge:Bool} {frm:Int} {HS:ak}(hb:Nat.blt HS.length Mem.bound=true):aI.Sound Tryz.prog ⟨71,[.one (.bool edge),.one (.int .u8 frm)],HS,.one (.int .u8 (dt edge frm)),HS,[]⟩:=
 aB (DF edge frm) rfl rfl hb
def fq (m:Mb):Int:=if alone m=true then 1 else 0
theorem D6 (m:Mb):bt Tryz.prog 37 [.agg (mC m)] [] (.one (.int .i64 (fq m))) []:=by
 unfold fq
 refine cO Tryz.func37 ?_
 repeat' (first
  |(refine qz ?_;first
   |refine fy ?_ (hle:=by rw [aF])
   |refine sZ (fun ga=>?_) (fun ga=>?_) (hi:=by exact nC rfl))
  |refine zz ?_|refine zx (fun _=>?_) (fun _=>?_)|fail)
 · show aH _ _ _ _ _ _ _ _;refine kV [] ?_
   rw [if_pos ga];rfl
 · show aH _ _ _ _ _ _ _ _;refine kV [] ?_
   rw [if_neg (by rw [ga];decide)];rfl
theorem qE {m:Mb} {HS:ak}(hb:Nat.blt HS.length Mem.bound=true):aI.Sound Tryz.prog ⟨37,[.agg (mC m)],HS,.one (.int .i64 (fq m)),HS,[]⟩:=
 aB (D6 m) (by simp only [List.all_cons,List.all_nil,Bool.and_true];exact jX m) rfl hb
end Go.Proofs.YtagpkhindehcbaaGreat
namespace Go.Xm
variable [az]
variable {P:Program} {ops:Array Oper} {nt nI:Nat} {al:bn} {hs:ak} {o:Oper} {l:List Oper} {L:List aI} {K:List Ab→bn→ak→Prop} {d:Nat}
theorem OC {t:TypeId} {a y:Operand} {i off:Nat} {c:XC} {cs cs':List XC} {e:TypeId} {hs':ak}(hk:SK P ops nt L l al hs' fun bs=>K (⟨true,.none,[i]⟩::bs)) (hle:off<cs.length) (hv:cs.set off c=cs') (ho:o.op = .store t a y:=by exact rfl) (ht:aU P t 1:=by infer_instance) (hw:aw ops (rg al) o=some true:=by exact rfl) (hd:o.dst = .none:=by exact rfl)
 (ha:ai (rg al) a = .one (.ptr i off):=by exact rfl) (hy:db (ai (rg al) y)=some [c]:=by exact rfl) (hi:hs[i]? = some (cK e cs):=by exact rfl) (hh:hs.set i (cK e cs')=hs':=by first|(simp only [List.set_cons_succ,List.set_cons_zero];exact rfl)|exact rfl):SK P ops nt L (o::l) al hs K:=by
 have h1:cK e cs = .cells cs e true false:=js (fun hn=>by rw [hn]at hle;simp at hle)
 have h2:cK e cs' = .cells cs' e true false:=js (fun hn=>by
  have:=congrArg List.length hv
  rw [List.length_set,hn]at this
  simp at this
  rw [this]at hle
  simp at hle)
 exact kB ho hw hd ha hy (hi.trans (congrArg some h1)) hle hv (by rw [←h2];exact hh) hk
end Go.Xm
namespace Go.Proofs.YtagpkhindehcbaaGreat
open Go.Xm
variable [az]
abbrev Ev:=Int × Int × Bool
def pA (e:Ev):List XC:=[.int .i64 e.1,.int .i64 e.2.1,.bool e.2.2]
instance:qQ pA 3:=⟨fun _=>rfl,fun _=>rfl,by decide⟩
abbrev ee (l:List Ev):aj:=cK 144 (fl pA l)
def gG (f:Nat→Int):Nat→Nat→Int→List Ev
 | 0,_,_=>[]
 | k+1,i,run=>if f i=0 then gG f k (i+1) (run+1)else(run,f i,false)::gG f k (i+1) 0
def jf:List Ev→List Ev
 | []=>[]
 | [e]=>[(e.1,e.2.1,true)]
 | e::e2::l=>e::jf (e2::l)
theorem ij:∀ l:List Ev,(jf l).length=l.length
 | []=>rfl
 | [e]=>rfl
 | e::e2::l=>by simp only [jf,List.length_cons,ij (e2::l)]
theorem B0 (e:Ev) (l:List Ev):fl pA (e::l) = .int .i64 e.1 :: .int .i64 e.2.1 :: .bool e.2.2::fl pA l:=rfl
theorem tq:∀ l:List Ev,l≠[]→(fl pA l).set ((l.length-1)*3+2) (.bool true)=fl pA (jf l)
 | [],h=>absurd rfl h
 | [e],_=>rfl
 | e::e2::l,_=>by
   have ih:=tq (e2::l) (by simp)
   rw [B0 e,jf,B0 e,←ih]
   have:((e::e2::l).length-1)*3+2=((e2::l).length-1)*3+2+3:=by simp only [List.length_cons];omega
   rw [this]
   rfl
def eP (f:Nat→Int) (st:Nat):List Ev:=jf (gG f (64-st) st 0)
theorem rk (f:Nat→Int):∀(k i:Nat) (run:Int),(gG f k i run).length≤k
 | 0,_,_=>Nat.le_refl _
 | k+1,i,run=>by
   unfold gG
   split
   · have:=rk f k (i+1) (run+1);omega
   · have:=rk f k (i+1) 0;simp only [List.length_cons];omega
theorem G9 (f:Nat→Int) (st:Nat) (hst:st≤64):bt Tryz.prog 90 [.agg (ti .i64 64 f),.one (.int .i64 (st:Nat))] [] (iK 0 (eP f st).length 3) [ee (eP f st)]:=by
 refine cO Tryz.func90 ?_
 repeat' (first|refine zz ?_|refine zx (fun _=>?_) (fun _=>?_)|fail)
 refine WX.dv rfl ?_
 refine WX.dp (σ:=Nat × Int × List Ev) (fun s=>[(7,.one (.int .i64 (s.1:Nat))),(6,.one (.int .i64 s.2.1)),(5,iK 1 s.2.2.length 3),(2,.one (.ptr 0 0))]) (fun s=>[.cells (ti .i64 64 f) 50 false false,ee s.2.2]) (fun s=>s.1≤64∧0≤s.2.1∧s.2.1≤s.1∧s.2.2.length≤s.1∧s.2.2++gG f (64-s.1) s.1 s.2.1=gG f (64-st) st 0) (fun s=>64-s.1) (st,0,[]) ⟨hst,Int.le_refl _,by show(0:Int)≤(st:Nat);omega,by show 0≤st;omega,rfl⟩ (fun s _=>kS) (bm [0,1]) ?_
 intro s ⟨h1,h2,h3,h4,h5⟩ ih
 by_cases h64:s.1<64
 · obtain⟨k,hk⟩:∃ k,64-s.1=k+1:=⟨63-s.1,by omega⟩
   have hk':64-(s.1+1)=k:=by omega
   rw [hk,gG]at h5
   by_cases hz:f s.1=0
   · have hz':f (s.1:Int).toNat=0:=hz
     rw [if_pos hz]at h5
     repeat' (first|refine zz ?_|refine zx (fun _=>?_) (fun _=>?_)|fail)
     refine ih (s.1+1,s.2.1+1,s.2.2) _ _ _ (bm [0,1]) ⟨by show s.1+1≤64;omega,by show 0≤s.2.1+1;omega,by show s.2.1+1≤((s.1+1:Nat):Int);omega,by show s.2.2.length≤s.1+1;omega,by show s.2.2++gG f (64-(s.1+1)) (s.1+1) (s.2.1+1)=_;rw [hk'];exact h5⟩ (by show 64-(s.1+1)<64-s.1;omega)
   · have hz':¬f (s.1:Int).toNat=0:=hz
     rw [if_neg hz]at h5
     repeat' (first
      |(refine qz ?_;first
       |refine qU (enc:=pA) (a:=(s.2.1,f s.1,false)) ?_
       |refine uL (enc:=pA) ?_)
      |refine zz ?_|refine zx (fun _=>?_) (fun _=>?_)|fail)
     refine ih (s.1+1,0,s.2.2++[(s.2.1,f s.1,false)]) _ _ _ (bm [0,3] (obj:=by(repeat' (first|exact ae.nil|refine ae.flat (by rw [List.length_append];rfl) ?_|refine ae.flat rfl ?_|refine ae.cons rfl ?_|refine ae.dead rfl ?_|refine ae.cons (by simp only [aj.au,List.map_cons,List.map_nil,XC.au,aq];exact rfl) ?_));first|done|fail)) ⟨by show s.1+1≤64;omega,by show(0:Int)≤0;omega,by show(0:Int)≤((s.1+1:Nat):Int);omega,by show(s.2.2++[_]).length≤s.1+1;simp;omega,by show(s.2.2++[(s.2.1,f s.1,false)])++gG f (64-(s.1+1)) (s.1+1) 0=_;rw [hk',List.append_assoc];exact h5⟩ (by show 64-(s.1+1)<64-s.1;omega)
 · have e0:64-s.1=0:=by omega
   rw [e0,gG,List.append_nil]at h5
   have e:eP f st=jf s.2.2:=by rw [eP,←h5]
   rw [e]
   by_cases hn:s.2.2.length=0
   · have hs0:s.2.2 = []:=List.length_eq_zero_iff.1 hn
     rw [hs0]
     repeat' (first|refine zz ?_|refine zx (fun _=>?_) (fun _=>?_)|fail)
     show aH _ _ _ _ _ _ _ _;refine kV [1] ?_
     rfl
   · have hset:(fl pA s.2.2).set ((((s.2.2.length:Nat):Int)-1).toNat*3+2) (.bool true)=fl pA (jf s.2.2):=by
      rw [show(((s.2.2.length:Nat):Int)-1).toNat=s.2.2.length-1 by omega]
      exact tq _ (fun h=>hn (by rw [h];rfl))
     have hle:(((s.2.2.length:Nat):Int)-1).toNat*3+2<(fl pA s.2.2).length:=by
      rw [tj];omega
     repeat' (first
      |(refine qz ?_;first
       |refine OC ?_ hle hset)
      |refine zz ?_|refine zx (fun _=>?_) (fun _=>?_)|fail)
     show aH _ _ _ _ _ _ _ _;refine kV [1] ?_
     rw [d_,ij]
     rfl
theorem JQ {f:Nat→Int} {st:Nat} {z:Int}(hz:z=(st:Nat)) (hst:st≤64) {HS:ak} {N:Nat}(hN:HS.length=N) {HS':ak}(hh:HS++[ee (eP f st)]=HS') (hbd:Nat.blt HS'.length Mem.bound=true) :
 aI.Sound Tryz.prog ⟨90,[.agg (ti .i64 64 f),.one (.int .i64 z)],HS,iK N (eP f st).length 3,HS',[]⟩:=by
 subst hN
 subst hz
 refine b8 (os:=[ee (eP f st)]) [] [] 1 (G9 f st hst) (by simp) .nil .nil ?_ rfl (.flat (.flat .nil)) (.flat (.flat .nil)) (gO (Nat.le_of_ble_eq_true rfl)) (d_ ..) ?_ ?_ rfl hh hbd (.inl rfl)
 · exact .flat .nil
 · exact .flat .nil
 · unfold ee
   cases fl pA (eP f st) <;> rfl
def mH (l e:Nat→Int) (i:Nat):Prop:=l i-e i < -2047∨2047<l i-e i
open Classical in
noncomputable def nU (l e:Nat→Int):Option (Nat→Int):=if ∃ i,i<64∧mH l e i then none else some fun i=>l i-e i
noncomputable def yJ (o:Option (Nat→Int)):XV := .tup [.agg (ti .i64 64 (o.getD fun _=>0)),.one (.bool o.isSome)]
theorem tv (o:Option (Nat→Int)):(yJ o).shut=true:=by
 show((ti .i64 64 (o.getD fun _=>0)).all XC.shut && (true && true))=true
 rw [gB];rfl
theorem Gc (l e:Nat→Int) (hl:∀ i,-1000000≤l i∧l i≤1000000) (he:∀ i,-1000000≤e i∧e i≤1000000):bt Tryz.prog 88 [.agg (ti .i64 64 l),.agg (ti .i64 64 e)] [] (yJ (nU l e)) []:=by
 refine cO Tryz.func88 ?_
 repeat' (first
  |(refine qz ?_;first
   |refine fy ?_ (hle:=by rw [aE]))
  |refine zz ?_|refine zx (fun _=>?_) (fun _=>?_)|fail)
 refine WX.dp (σ:=Nat) (fun j=>[(9,.one (.int .i64 (j:Nat))),(2,.one (.ptr 0 0)),(4,.one (.ptr 1 0)),(8,.agg (ti .i64 64 e))]) (fun j=>[.cells (ti .i64 64 (pY (fun i=>l i-e i) l j)) 50 false false,.cells (ti .i64 64 fun _=>0) 50 false false]) (fun j=>j≤64∧∀ i,i<j→¬mH l e i) (fun j=>64-j) 0 ⟨by omega,fun i hi=>by omega⟩ (fun s _=>kS) (bm [0,2] (obj:=by(repeat' (first|exact ae.nil|refine ae.flat (by rw [nW];rfl) ?_|refine ae.flat rfl ?_|refine ae.cons rfl ?_|refine ae.dead rfl ?_|refine ae.cons (by simp only [aj.au,List.map_cons,List.map_nil,XC.au,aq];exact rfl) ?_));first|done|fail)) ?_
 intro j ⟨hj,hall⟩ ih
 by_cases hj64:j<64
 · have a1:=hl j
   have a2:=he j
   have a2':=he (j:Int).toNat
   have e1:e (j:Int).toNat=e j:=rfl
   have em:pY (fun i=>l i-e i) l j j=l j:=by simp [pY]
   have eu:cW (pY (fun i=>l i-e i) l j) j (pY (fun i=>l i-e i) l j j-e (j:Int).toNat) j=pY (fun i=>l i-e i) l j j-e (j:Int).toNat:=by simp [cW]
   by_cases hb:mH l e j
   · have hb':=hb
     unfold mH at hb'
     have e0:nU l e=none:=if_pos ⟨j,hj64,hb⟩
     rw [e0]
     repeat' (first
      |(refine qz ?_;first
       |refine Dx (n:=64) ?_
       |refine i9 ?_ (hs1:=by rw [aE]) (hs2:=by rw [aE]))
      |refine zz ?_|refine zx (fun _=>?_) (fun _=>?_)|fail)
     all_goals
      first
       | (exfalso;omega)
       | (show aH _ _ _ _ _ _ _ _;refine kV [] ?_;rfl)
   · have hb':=hb
     unfold mH at hb'
     have e2:pY (fun i=>l i-e i) l j j-e (j:Int).toNat=l j-e j:=by rw [em,e1]
     repeat' (first
      |(refine qz ?_;first
       |refine Dx (n:=64) ?_)
      |refine zz ?_|refine zx (fun _=>?_) (fun _=>?_)|fail)
     refine ih (j+1) _ _ _ (bm [0,1] (obj:=by(repeat' (first|exact ae.nil|refine ae.flat (by rw [←nV,e2];rfl) ?_|refine ae.flat rfl ?_|refine ae.cons rfl ?_|refine ae.dead rfl ?_|refine ae.cons (by simp only [aj.au,List.map_cons,List.map_nil,XC.au,aq];exact rfl) ?_));first|done|fail)) ⟨by omega,fun i hi=>?_⟩ (by omega)
     by_cases hij:i=j
     · subst hij;exact hb
     · exact hall i (by omega)
 · obtain rfl:j=64:=by omega
   have e0:nU l e=some fun i=>l i-e i:=if_neg fun⟨i,hi,hb⟩=>hall i hi hb
   rw [e0]
   repeat' (first
    |(refine qz ?_;first
     |refine fy ?_ (hle:=by rw [aE])
     |refine i9 ?_ (hs1:=by rw [aE]) (hs2:=by rw [aE]))
    |refine zz ?_|refine zx (fun _=>?_) (fun _=>?_)|fail)
   show aH _ _ _ _ _ _ _ _;refine kV [] ?_
   rw [AQ];rfl
theorem wW {l e:Nat→Int}(hl:∀ i,-1000000≤l i∧l i≤1000000) (he:∀ i,-1000000≤e i∧e i≤1000000) {o:Option (Nat→Int)}(ho:nU l e=o) {HS:ak}(hb:Nat.blt HS.length Mem.bound=true):aI.Sound Tryz.prog ⟨88,[.agg (ti .i64 64 l),.agg (ti .i64 64 e)],HS,yJ o,HS,[]⟩:=by
 subst ho
 exact aB (Gc l e hl he) (by show((ti .i64 64 l).all XC.shut && ((ti .i64 64 e).all XC.shut && true))=true;rw [gB,gB];rfl) (tv _) hb
end Go.Proofs.YtagpkhindehcbaaGreat
namespace Go.Proofs.YtagpkhindehcbaaGreat
open Go.Xm
variable [az]
structure wk (e:Ev):Prop where
 run:0≤e.1∧e.1≤63
 nz:e.2.1≠0
 lev : -2047≤e.2.1∧e.2.1≤2047
theorem xa (e:Ev) (h:wk e):bt Tryz.prog 104 [.agg (pA e)] [] (.one (.bool true)) []:=by
 have h1:=h.run
 have h2:=h.nz
 have h3:=h.lev
 refine cO Tryz.func104 ?_
 repeat' (first|refine zz ?_|refine zx (fun _=>?_) (fun _=>?_)|fail)
 show aH _ _ _ _ _ _ _ _;refine kV [] ?_
 rfl
theorem r4 {e:Ev}(h:wk e) {HS:ak}(hb:Nat.blt HS.length Mem.bound=true):aI.Sound Tryz.prog ⟨104,[.agg (pA e)],HS,.one (.bool true),HS,[]⟩:=
 aB (xa e h) rfl rfl hb
structure kT (l:List Ev):Prop where
 len:0<l.length∧l.length≤64
 ok:∀ j,j<l.length→wk (l.getD j default)
 last:∀ j,j<l.length→(l.getD j default).2.2=decide (j+1=l.length)
def MF (e:Ev):List Bool:=cD (2*e.1+(if e.2.2 then 1 else 0))++cD (bd e.2.1-1)
def fR (l:List Ev):List Bool:=l.flatMap MF
theorem r6 {x:Int}(h : -2047≤x∧x≤2047) (h0:x≠0):1≤bd x∧bd x≤4094:=by unfold bd;split <;> omega
theorem IW {e:Ev}(h:wk e):(MF e).length≤54:=by
 unfold MF
 have h1:=h.run
 have h2:=r6 h.lev h.nz
 have h3:=jk (2*e.1+(if e.2.2 then 1 else 0)) (by split <;> omega)
 have h4:=jk (bd e.2.1-1) (by omega)
 rw [List.length_append];omega
theorem qZ {l:List Ev} {j:Nat}(hj:j<l.length):fR (l.take (j+1))=fR (l.take j)++MF (l.getD j default):=by
 unfold fR
 rw [List.take_add_one,List.flatMap_append,List.getD_eq_getElem?_getD,List.getElem?_eq_getElem hj]
 simp
theorem td {l:List Ev}(h:kT l):∀ j,j≤l.length→(fR (l.take j)).length≤54*j
 | 0,_=>by simp [fR]
 | j+1,hj=>by
   rw [qZ (by omega),List.length_append]
   have:=td h j (by omega)
   have:=IW (h.ok j (by omega))
   omega
theorem Fi (bs:List Bool) (l:List Ev) (h:kT l) (hb:bs.length≤800000) :
 bt Tryz.prog 92 [.one (.ptr 0 0),iK 2 l.length 3] [aQ 1 bs,av bs,ee l] (.one (.int .i64 0)) [aQ 3 (bs++fR l),.dead,ee l,av (bs++fR l)]:=by
 have hlen:=h.len
 refine cO Tryz.func92 ?_
 repeat' (first|refine zz ?_|refine zx (fun _=>?_) (fun _=>?_)|fail)
 refine WX.dp (σ:=Nat) (fun j=>[(22,.one (.int .i64 (j:Nat))),(0,.one (.ptr 0 0)),(1,iK 2 l.length 3),(20,iK 2 l.length 3),(21,.one (.int .i64 (l.length:Nat)))]) (fun _=>[aQ 1 bs,av bs,ee l]) (fun j=>j≤l.length) (fun j=>l.length-j) 0 (by omega) (fun s _=>kS) (bm [0,1,2]) ?_
 intro j hj ih
 by_cases hjl:j<l.length
 · have hok:=h.ok j hjl
   have hlast:=h.last j hjl
   by_cases hl:j+1=l.length
   · have hb2:(pA (l.getD j default))[2]? = some (.bool true):=by
      show some (XC.bool (l.getD j default).2.2)=_
      rw [hlast,decide_eq_true hl]
     repeat' (first
      |(refine qz ?_;first
       |refine Nn (enc:=pA) (j:=j) ?_
       |refine ld (hc:=hb2) ?_
       |refine cl ?_ (hi:=by exact r4 hok rfl))
      |refine zz ?_|refine zx (fun _=>?_) (fun _=>?_)|fail)
     refine ih (j+1) _ _ _ (bm [0,1,2]) (by omega) (by omega)
   · have hb2:(pA (l.getD j default))[2]? = some (.bool false):=by
      show some (XC.bool (l.getD j default).2.2)=_
      rw [hlast,decide_eq_false hl]
     repeat' (first
      |(refine qz ?_;first
       |refine Nn (enc:=pA) (j:=j) ?_
       |refine ld (hc:=hb2) ?_
       |refine cl ?_ (hi:=by exact r4 hok rfl))
      |refine zz ?_|refine zx (fun _=>?_) (fun _=>?_)|fail)
     refine ih (j+1) _ _ _ (bm [0,1,2]) (by omega) (by omega)
 · repeat' (first|refine zz ?_|refine zx (fun _=>?_) (fun _=>?_)|fail)
   refine WX.dp (σ:=Nat) (fun j=>[(43,.one (.int .i64 (j:Nat))),(0,.one (.ptr 0 0)),(41,iK 2 l.length 3),(42,.one (.int .i64 (l.length:Nat)))]) (fun j=>[aQ 3 (bs++fR (l.take j)),.dead,ee l,av (bs++fR (l.take j))]) (fun j=>j≤l.length) (fun j=>l.length-j) 0 (by omega) (fun s _=>kS) (bm [0,1,2,1] (obj:=by(repeat' (first|exact ae.nil|refine ae.flat (by rw [show fR (l.take 0) = []from rfl,List.append_nil];rfl) ?_|refine ae.a_ (by rw [show fR (l.take 0) = []from rfl,List.append_nil];rfl) rfl rfl rfl ?_|refine ae.flat rfl ?_|refine ae.cons rfl ?_|refine ae.dead rfl ?_|refine ae.cons (by simp only [aj.au,List.map_cons,List.map_nil,XC.au,aq];exact rfl) ?_));first|done|fail)) ?_
   intro j2 hj2 ih2
   by_cases hjl2:j2<l.length
   · have hok:=h.ok j2 hjl2
     have hlast:=h.last j2 hjl2
     have e1:=hok.run
     have e2:=hok.lev
     have e3:=r6 e2 hok.nz
     have hB:=td h j2 hj2
     have hlB:(bs++fR (l.take j2)).length≤810000:=by rw [List.length_append];omega
     by_cases hl:j2+1=l.length
     · have hb2:(pA (l.getD j2 default))[2]? = some (.bool true):=by
        show some (XC.bool (l.getD j2 default).2.2)=_
        rw [hlast,decide_eq_true hl]
       have hr:=jk (2*(l.getD j2 default).1+1) (by omega)
       have eB:fR (l.take (j2+1))=fR (l.take j2)++(cD (2*(l.getD j2 default).1+1)++cD (bd (l.getD j2 default).2.1-1)):=by
        rw [qZ hjl2,MF,hlast,decide_eq_true hl];rfl
       repeat' (first
        |(refine qz ?_;first
         |refine Nn (enc:=pA) (j:=j2) ?_
         |refine ld (hc:=hb2) ?_
         |refine cl ?_ (hi:=by exact rp (by omega) rfl)
         |refine cl ?_ (hi:=by exact jl (v:=2*(l.getD j2 default).1+1) (bs:=bs++fR (l.take j2)) (by omega) (by omega) rfl rfl (by decide) nL nA rfl)
         |refine cl ?_ (hi:=by exact jl (v:=bd (l.getD j2 default).2.1-1) (bs:=(bs++fR (l.take j2))++cD (2*(l.getD j2 default).1+1)) (by omega) (by rw [List.length_append];omega) rfl rfl (by decide) nL nA rfl))
        |refine zz ?_|refine zx (fun _=>?_) (fun _=>?_)|refine br (by first|exact ag.nil|exact ag.one _|exact ag.lK (by repeat' (first|exact True.intro|refine And.intro ?_ ?_|exact Compat.ne rfl|exact eD rfl))) ⟨by kernel_rfl,?_⟩|refine br (by first|exact ag.nil|exact ag.one _|exact ag.lK (by repeat' (first|exact True.intro|refine And.intro ?_ ?_|exact Compat.ne rfl|exact eD rfl))) ?_|fail)
       have hE:bs++fR (l.take (j2+1))=bs++fR (l.take j2)++cD (2*(l.getD j2 default).1+1)++cD (bd (l.getD j2 default).2.1-1):=by rw [eB];simp only [List.append_assoc]
       refine ih2 (j2+1) _ _ _ (bm [0,1,2,6] (obj:=by(repeat' (first|exact ae.nil|refine ae.flat (by rw [hE];rfl) ?_|refine ae.a_ (by rw [hE];rfl) rfl rfl rfl ?_|refine ae.flat rfl ?_|refine ae.cons rfl ?_|refine ae.dead rfl ?_|refine ae.cons (by simp only [aj.au,List.map_cons,List.map_nil,XC.au,aq];exact rfl) ?_));first|done|fail)) (by omega) (by omega)
     · have hb2:(pA (l.getD j2 default))[2]? = some (.bool false):=by
        show some (XC.bool (l.getD j2 default).2.2)=_
        rw [hlast,decide_eq_false hl]
       have hr:=jk (2*(l.getD j2 default).1) (by omega)
       have eB:fR (l.take (j2+1))=fR (l.take j2)++(cD (2*(l.getD j2 default).1)++cD (bd (l.getD j2 default).2.1-1)):=by
        rw [qZ hjl2,MF,hlast,decide_eq_false hl,if_neg (by decide),Int.add_zero]
       repeat' (first
        |(refine qz ?_;first
         |refine Nn (enc:=pA) (j:=j2) ?_
         |refine ld (hc:=hb2) ?_
         |refine cl ?_ (hi:=by exact rp (by omega) rfl)
         |refine cl ?_ (hi:=by exact jl (v:=2*(l.getD j2 default).1) (bs:=bs++fR (l.take j2)) (by omega) (by omega) rfl rfl (by decide) nL nA rfl)
         |refine cl ?_ (hi:=by exact jl (v:=bd (l.getD j2 default).2.1-1) (bs:=(bs++fR (l.take j2))++cD (2*(l.getD j2 default).1)) (by omega) (by rw [List.length_append];omega) rfl rfl (by decide) nL nA rfl))
        |refine zz ?_|refine zx (fun _=>?_) (fun _=>?_)|refine br (by first|exact ag.nil|exact ag.one _|exact ag.lK (by repeat' (first|exact True.intro|refine And.intro ?_ ?_|exact Compat.ne rfl|exact eD rfl))) ⟨by kernel_rfl,?_⟩|refine br (by first|exact ag.nil|exact ag.one _|exact ag.lK (by repeat' (first|exact True.intro|refine And.intro ?_ ?_|exact Compat.ne rfl|exact eD rfl))) ?_|fail)
       have hE:bs++fR (l.take (j2+1))=bs++fR (l.take j2)++cD (2*(l.getD j2 default).1)++cD (bd (l.getD j2 default).2.1-1):=by rw [eB];simp only [List.append_assoc]
       refine ih2 (j2+1) _ _ _ (bm [0,1,2,6] (obj:=by(repeat' (first|exact ae.nil|refine ae.flat (by rw [hE];rfl) ?_|refine ae.a_ (by rw [hE];rfl) rfl rfl rfl ?_|refine ae.flat rfl ?_|refine ae.cons rfl ?_|refine ae.dead rfl ?_|refine ae.cons (by simp only [aj.au,List.map_cons,List.map_nil,XC.au,aq];exact rfl) ?_));first|done|fail)) (by omega) (by omega)
   · have hT:l.take j2=l:=List.take_of_length_le (by omega)
     rw [hT]
     repeat' (first|refine zz ?_|refine zx (fun _=>?_) (fun _=>?_)|fail)
     show aH _ _ _ _ _ _ _ _;refine kV [0,1,2,3] ?_
     rfl
theorem LL (a b:List XC) (e e' e2 e3:TypeId) (cs ds fs:List XC):eg [.cells a e false false,cK e' cs,cK e3 fs] [.cells b e false false,.dead,cK e3 fs,cK e2 ds]=true:=by
 cases cs <;> cases ds <;> cases fs <;> simp [eg,aj.live,aj.own,cK]
theorem oy {bs:List Bool} {l:List Ev}(h:kT l) (hb:bs.length≤800000) {HS:ak} {i k q:Nat}(hi:HS[i]? = some (aQ k bs)) (hk:HS[k]? = some (av bs)) (hq:HS[q]? = some (ee l)) (hd : [i,k,q].Nodup) {N:Nat}(hN:HS.length=N) {HS':ak}(hh:bN HS [i,k] [aQ N (bs++fR l),.dead,av (bs++fR l)]=HS') (hbd:Nat.blt HS'.length Mem.bound=true) :
 aI.Sound Tryz.prog ⟨92,[.one (.ptr i 0),iK q l.length 3],HS,.one (.int .i64 0),HS',[i,k]⟩:=by
 subst hN
 have hh':bN HS [i,k,q] [aQ HS.length (bs++fR l),.dead,ee l,av (bs++fR l)]=HS':=by
  subst hh
  simp only [List.nodup_cons,List.mem_cons,List.not_mem_nil,or_false,not_or]at hd
  simp only [bN]
  rw [aG (i:=q) (by rw [List.getElem?_set_ne hd.2.1,List.getElem?_set_ne hd.1.2];exact hq)]
 refine b8 [i,k,q] [i,k] 1 (Fi bs l h hb) hd ?_ ?_ ?_ rfl (.cons (by simp [XV.cc,XC.ok]) (.cons (gO (Nat.le_of_ble_eq_true rfl)) .nil)) (.cons rfl (.cons (d_ ..) .nil)) (bB.ok _) (bB.au _) ?_ (LL ..) rfl hh' hbd (.inr fun j hjl hj=>?_)
 · exact ae.a_ hi rfl rfl rfl (.flat hk (.flat hq .nil))
 · exact .cons (by simp [aj.cc,XC.ok,bp]) (.flat (.flat .nil))
 · exact .cons (by simp [aj.cc,XC.ok,bp]) (.flat (.flat (.flat .nil)))
 · exact .cons (by simp only [aj.au,List.map_cons,List.map_nil,XC.au,aq];rfl) (.flat (.flat (.flat .nil)))
 · subst hh
   exact lX _ _ _ _ hjl (by simpa using hj)
end Go.Proofs.YtagpkhindehcbaaGreat
