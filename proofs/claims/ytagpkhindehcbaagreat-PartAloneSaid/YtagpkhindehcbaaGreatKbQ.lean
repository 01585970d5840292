/-
  A part of the proof: Modes2, Scan, RunsOf, BlockPut, Sta.
-/
import Derived.Test.YtagpkhindehcbaaGreatKbH
import Derived.Test.YtagpkhindehcbaaGreatKbP
set_option linter.unusedVariables false
set_option linter.unusedSectionVars false
set_option linter.unusedSimpArgs false
namespace Go.Proofs.YtagpkhindehcbaaGreat
open Go.Xm
variable [aC]
def wU (m:Mb) (i:Nat):Prop:=(m.kind=0→m.lev i=0)∧(-2047≤m.lev i∧m.lev i≤2047)∧(i%64=0→alone m=true→0≤m.lev i∧m.lev i≤127)
open Classical in
noncomputable def ub (m:Mb):Int:=if ∀ i,i<384→wU m i then 0 else 2
set_option maxRecDepth 10000 in
set_option maxHeartbeats 2000000 in
theorem DV (m : Mb) (hm:iI m):bq Tryz.prog 51 [.agg (mC m)] [] (.one (.int .i64 (ub m))) []:=by
 have hkind:=hm.kind
 refine cO Tryz.func51 ?_
 repeat' (first
  |(refine qz ?_;first
   |refine t9 (cs:=ti .i64 384 m.lev) ?_ (hle:=by rw [aL];decide) (hc:=yP m))
  |refine zG ?_|refine zA ?_|refine cX (fun _=>?_) (fun _=>?_)|refine aS (fun _=>?_) (fun _=>?_)|refine zL ?_|refine zF ?_|fail)
 refine WX.ek (σ:=Nat) (fun k=>[(9,.one (.int .i64 (k:Nat))),(1,.one (.ptr 0 0)),(8,.agg (ti .i64 384 m.lev))]) (fun _=>[GX m]) (fun k=>k≤6∧∀ i,i<k*64→wU m i) (fun k=>6-k) 0 ⟨by omega,fun i hi=>by omega⟩ (fun s _=>mO) (br [0]) ?_
 intro k ⟨hk,hall⟩ ih
 by_cases hk6:k<6
 · repeat' (first
    |(refine qz ?_;first
     |refine wO (n:=384) ?_
     |refine jC ?_ (hs1:=by rw [bc]) (hs2:=by rw [bc])
     |refine jq ?_ (hle:=by rw [bc]))
    |refine zG ?_|refine zA ?_|refine cX (fun _=>?_) (fun _=>?_)|refine aS (fun _=>?_) (fun _=>?_)|refine zL ?_|refine zF ?_|fail)
   refine WX.ek (σ:=Nat) (fun j=>[(13,.one (.int .i64 (j:Nat))),(1,.one (.ptr 0 0)),(8,.agg (ti .i64 384 m.lev)),(9,.one (.int .i64 (k:Nat))),(12,.agg (ti .i64 64 fun i=>m.lev (k*64+i)))]) (fun _=>[GX m]) (fun j=>j≤64∧∀ i,i<k*64+j→wU m i) (fun j=>64-j) 0 ⟨by omega,hall⟩ (fun s _=>mO) (br [0]) ?_
   intro j ⟨hj,hall2⟩ ih2
   by_cases hj64:j<64
   · have hd : m.lev (k*64+j)=m.lev (k*64+(j:Int).toNat):=rfl
     have hl:=hm.lev (k*64+j)
     repeat' (first
      |(refine qz ?_;first
       |refine Ld (n:=64) (q:=fun i=>m.lev (k*64+i)) ?_
       |refine jq ?_ (hle:=by rw [aL])
       |refine rP (fun ga=>?_) (fun ga=>?_) (hi:=by exact o_ rfl))
      |refine zG ?_|refine zA ?_|refine cX (fun _=>?_) (fun _=>?_)|refine aS (fun _=>?_) (fun _=>?_)|refine zL ?_|refine zF ?_|fail)
     all_goals
      first
       | (refine ih2 (j+1) _ _ _ (br [0]) ⟨by omega,fun i hi=>?_⟩ (by omega)
          by_cases hij:i=k*64+j
          · subst hij
            unfold wU
            simp only [Int.toNat_natCast]at *
            refine⟨fun _=>by omega,by omega,fun h64 hal=>?_⟩
            first
             | omega
             | (rw [hal]at ga;cases ga)
          · exact hall2 i (by omega))
       | (show aF _ _ _ _ _ _ _ _;refine kV [] ?_
          rw [show ub m=2 from if_neg (fun hall=>by
           obtain⟨p1,p2,p3⟩:=hall (k*64+j) (by omega)
           simp only [Int.toNat_natCast]at *
           first
            | omega
            | (have:=p3 (by omega) ga;omega))]
          rfl)
   · repeat' (first|refine zG ?_|refine zA ?_|refine cX (fun _=>?_) (fun _=>?_)|refine aS (fun _=>?_) (fun _=>?_)|refine zL ?_|refine zF ?_|fail)
     refine ih (k+1) _ _ _ (br [0]) ⟨by omega,fun i hi=>hall2 i (by omega)⟩ (by omega)
 · repeat' (first|refine zG ?_|refine zA ?_|refine cX (fun _=>?_) (fun _=>?_)|refine aS (fun _=>?_) (fun _=>?_)|refine zL ?_|refine zF ?_|fail)
   show aF _ _ _ _ _ _ _ _;refine kV [] ?_
   rw [show ub m=0 from if_pos (fun i hi=>hall i (by omega))]
   rfl
theorem GN {m:Mb}(hm:iI m) {HS:aq}(hb:Nat.blt HS.length Mem.bound=true):aG.Sound Tryz.prog ⟨51,[.agg (mC m)],HS,.one (.int .i64 (ub m)),HS,[]⟩:=
 az (DV m hm) (by simp only [List.all_cons,List.all_nil,Bool.and_true];exact jv m) rfl hb
theorem gp {m:Mb}{b:Bool}(h:alone m=b) {HS:aq}(hb:Nat.blt HS.length Mem.bound=true):aG.Sound Tryz.prog ⟨13,[.agg (mC m)],HS,.one (.bool b),HS,[]⟩:=by
 subst h;exact o_ hb
noncomputable def dE (m:Mb) (inter:Bool) (was:Int):Int:=
 if 5≤m.kind∨(inter=false∧alone m=false)then 5
 else if m.edge=true∧alone m=false then 4
 else if m.kind=4∧(dI was m.qp).2=false then 6
 else if m.kind≠4∧m.qp≠was then 6
 else if f_ m≠0 then f_ m else ub m
theorem Fm (m:Mb):f_ m=0∨f_ m=14:=by
 unfold f_
 split
 · exact .inl rfl
 · exact .inr rfl
set_option maxRecDepth 10000 in
set_option maxHeartbeats 4000000 in
theorem Bi (m:Mb) (hm:iI m) (inter:Bool) (was:Int) (hw : -1000000≤was∧was≤1000000):bq Tryz.prog 28 [.agg (mC m),.one (.bool inter),.one (.int .i64 was)] [] (.one (.int .i64 (dE m inter was))) []:=by
 have hkind:=hm.kind
 have hqp:=hm.qp
 have hvv:=Fm m
 obtain⟨a,ha⟩:∃ a,alone m=a:=⟨_,rfl⟩
 obtain⟨e,he⟩:∃ e,m.edge=e:=⟨_,rfl⟩
 obtain⟨st,hst⟩:∃ st,dI was m.qp=st:=⟨_,rfl⟩
 have hC:mC m = .int .u8 m.kind :: .int .i64 m.qp::cq (m.v 0)::cq (m.v 1)::cq (m.v 2)::cq (m.v 3) :: .bool e::ti .i64 384 m.lev:=by rw [←he];rfl
 have al:∀ {HS:aq},Nat.blt HS.length Mem.bound=true→aG.Sound Tryz.prog ⟨13,[.agg (mC m)],HS,.one (.bool a),HS,[]⟩:=fun hb=>gp ha hb
 have sl:∀ {HS:aq},Nat.blt HS.length Mem.bound=true→aG.Sound Tryz.prog ⟨49,[.one (.int .i64 was),.one (.int .i64 m.qp)],HS,.tup [.one (.int .i64 st.1),.one (.bool st.2)],HS,[]⟩:=fun hb=>by
  have:=vp hw hqp hb
  rw [hst]at this
  exact this
 have hl6:(mC m)[6]? = some (.bool e):=by rw [hC];rfl
 obtain⟨s1,s2⟩:=st
 cases inter <;> cases a <;> cases e <;> cases s2
 all_goals
  refine cO Tryz.func28 ?_
  repeat' (first
   |(refine qz ?_;first
    |refine ld (hc:=hl6) ?_
    |refine jq ?_ (hle:=by rw [aL])
    |refine cl ?_ (hi:=by exact al rfl)
    |refine cl ?_ (hi:=by exact sl rfl)
    |refine cl ?_ (hi:=by exact HM hm rfl)
    |refine cl ?_ (hi:=by exact GN hm rfl))
   |refine zG ?_|refine zA ?_|refine cX (fun _=>?_) (fun _=>?_)|refine aS (fun _=>?_) (fun _=>?_)|refine zL ?_|refine zF ?_|fail)
  all_goals
   show aF _ _ _ _ _ _ _ _;refine kV [] ?_
   unfold dE
   rw [ha,he,hst]
   simp only [Bool.false_eq_true,Bool.true_eq_false,and_true,and_false,true_and,false_and,or_false,or_true,if_true,if_false,true_or,not_true,not_false_eq_true]
   repeat' split
   all_goals first
    | rfl
    | (exfalso;omega)
theorem Db {m:Mb}(hm:iI m) {inter:Bool}{was:Int}(hw : -1000000≤was∧was≤1000000) {HS:aq}(hb:Nat.blt HS.length Mem.bound=true):aG.Sound Tryz.prog ⟨28,[.agg (mC m),.one (.bool inter),.one (.int .i64 was)],HS,.one (.int .i64 (dE m inter was)),HS,[]⟩:=
 az (Bi m hm inter was hw) (by show((mC m).all XC.shut && (true && (true && true)))=true;rw [jv];rfl) rfl hb
end Go.Proofs.YtagpkhindehcbaaGreat
namespace Go.Proofs.YtagpkhindehcbaaGreat
open Go.Xm
variable [aC]
def mH (o:Int) (f:Nat→Int) (i:Nat):Int:=f (y4 o i).toNat
def sm (g z:Nat→Int) (i j:Nat):Int:=if j<i then g j else z j
theorem pv (g z:Nat→Int) (i:Nat):fw (sm g z i) i (g i)=sm g z (i+1):=by
 funext j
 unfold fw sm
 by_cases h:j=i
 · subst h;simp
 · by_cases h1:j<i
   · rw [if_neg h,if_pos h1,if_pos (by omega)]
   · rw [if_neg h,if_neg h1,if_neg (by omega)]
theorem pw (g z:Nat→Int):sm g z 0=z:=by funext j;simp [sm]
theorem D6 (k:IntKind) (g z:Nat→Int) (n:Nat):ti k n (sm g z n)=ti k n g:=pI fun i hi=>by simp [sm,hi]
set_option maxRecDepth 10000 in
theorem EZ {o:Int}(h:o=0∨o=1∨o=2) (f:Nat→Int):bq Tryz.prog 91 [.one (.int .u8 o),.agg (ti .i64 64 f)] [] (.agg (ti .i64 64 (mH o f))) []:=by
 refine cO Tryz.func91 ?_
 repeat' (first
  |(refine qz ?_;first
   |refine cl ?_ (hi:=by exact BH h rfl))
  |refine zG ?_|refine zA ?_|refine cX (fun _=>?_) (fun _=>?_)|refine aS (fun _=>?_) (fun _=>?_)|refine zL ?_|refine zF ?_|fail)
 refine WX.ek (σ:=Nat) (fun j=>[(10,.one (.int .i64 (j:Nat))),(3,.one (.ptr 0 0)),(4,.one (.ptr 1 0)),(5,.one (.ptr 2 0)),(9,.agg (ti .i64 64 (y4 o)))]) (fun j=>[.cells (ti .i64 64 f) 50 false false,.cells (ti .i64 64 fun _=>0) 50 false false,.cells (ti .i64 64 (sm (mH o f) (fun _=>0) j)) 50 false false]) (fun j=>j≤64) (fun j=>64-j) 0 (by omega) (fun s _=>mO) (br [0,1,2] (obj:=by(repeat' (first|exact ae.nil|refine ae.flat (by rw [pw];rfl) ?_|refine ae.flat rfl ?_|refine ae.cons rfl ?_|refine ae.dead rfl ?_|refine ae.cons (by simp only [ak.aw,List.map_cons,List.map_nil,XC.aw,au];exact rfl) ?_));first|done|fail)) ?_
 intro j hj ih
 by_cases hj64:j<64
 · have hr:=Aq h hj64
   have hr':0≤y4 o (j:Int).toNat∧y4 o (j:Int).toNat<64:=hr
   repeat' (first
    |(refine qz ?_;first
     |refine Ld (n:=64) ?_)
    |refine zG ?_|refine zA ?_|refine cX (fun _=>?_) (fun _=>?_)|refine aS (fun _=>?_) (fun _=>?_)|refine zL ?_|refine zF ?_|fail)
   refine ih (j+1) _ _ _ (br [0,1,2] (obj:=by(repeat' (first|exact ae.nil|refine ae.flat (by rw [←pv];rfl) ?_|refine ae.flat rfl ?_|refine ae.cons rfl ?_|refine ae.dead rfl ?_|refine ae.cons (by simp only [ak.aw,List.map_cons,List.map_nil,XC.aw,au];exact rfl) ?_));first|done|fail)) (by omega) (by omega)
 · obtain rfl:j=64:=by omega
   repeat' (first
    |(refine qz ?_;first
     |refine jq ?_ (hle:=by rw [bc])
     |refine jC ?_ (hs1:=by rw [bc]) (hs2:=by rw [bc]))
    |refine zG ?_|refine zA ?_|refine cX (fun _=>?_) (fun _=>?_)|refine aS (fun _=>?_) (fun _=>?_)|refine zL ?_|refine zF ?_|fail)
   show aF _ _ _ _ _ _ _ _;refine kV [] ?_
   rw [D6];rfl
theorem nV {o:Int}(h:o=0∨o=1∨o=2) {f:Nat→Int}{HS:aq}(hb:Nat.blt HS.length Mem.bound=true):aG.Sound Tryz.prog ⟨91,[.one (.int .u8 o),.agg (ti .i64 64 f)],HS,.agg (ti .i64 64 (mH o f)),HS,[]⟩:=
 az (EZ h f) (by show(true && ((ti .i64 64 f).all XC.shut && true))=true;rw [ky];rfl) (ky _ _ _) hb
def ig (edge:Bool) (frm:Int):Int:=if edge=true∧frm=1 then 2 else if edge=true∧frm=2 then 1 else 0
theorem iP (edge:Bool) (frm:Int):ig edge frm=0∨ig edge frm=1∨ig edge frm=2:=by
 unfold ig
 split
 · exact .inr (.inr rfl)
 · split
   · exact .inr (.inl rfl)
   · exact .inl rfl
theorem BD (edge:Bool) (frm:Int):bq Tryz.prog 71 [.one (.bool edge),.one (.int .u8 frm)] [] (.one (.int .u8 (ig edge frm))) []:=by
 cases edge
 all_goals
  refine cO Tryz.func71 ?_
  repeat' (first|refine zG ?_|refine zA ?_|refine cX (fun _=>?_) (fun _=>?_)|refine aS (fun _=>?_) (fun _=>?_)|refine zL ?_|refine zF ?_|fail)
  all_goals
   show aF _ _ _ _ _ _ _ _;refine kV [] ?_
   unfold ig
   simp only [Bool.false_eq_true,true_and,false_and,if_false]
   repeat' split
   all_goals first
    | rfl
    | (exfalso;omega)
theorem jR {edge:Bool}{frm:Int}{HS:aq}(hb:Nat.blt HS.length Mem.bound=true):aG.Sound Tryz.prog ⟨71,[.one (.bool edge),.one (.int .u8 frm)],HS,.one (.int .u8 (ig edge frm)),HS,[]⟩:=
 az (BD edge frm) rfl rfl hb
def zh (m:Mb):Int:=if alone m=true then 1 else 0
theorem B4 (m:Mb):bq Tryz.prog 37 [.agg (mC m)] [] (.one (.int .i64 (zh m))) []:=by
 unfold zh
 refine cO Tryz.func37 ?_
 repeat' (first
  |(refine qz ?_;first
   |refine jq ?_ (hle:=by rw [aL])
   |refine rP (fun ga=>?_) (fun ga=>?_) (hi:=by exact o_ rfl))
  |refine zG ?_|refine zA ?_|refine cX (fun _=>?_) (fun _=>?_)|refine aS (fun _=>?_) (fun _=>?_)|refine zL ?_|refine zF ?_|fail)
 · show aF _ _ _ _ _ _ _ _;refine kV [] ?_
   rw [if_pos ga];rfl
 · show aF _ _ _ _ _ _ _ _;refine kV [] ?_
   rw [if_neg (by rw [ga];decide)];rfl
theorem E1 {m:Mb}{HS:aq}(hb:Nat.blt HS.length Mem.bound=true):aG.Sound Tryz.prog ⟨37,[.agg (mC m)],HS,.one (.int .i64 (zh m)),HS,[]⟩:=
 az (B4 m) (by simp only [List.all_cons,List.all_nil,Bool.and_true];exact jv m) rfl hb
end Go.Proofs.YtagpkhindehcbaaGreat
namespace Go.Xm
variable [aC]
variable {P:Program}{ops:Array Oper}{nt nI:Nat}{al:bm}{hs:aq}{o:Oper}{l:List Oper}{L:List aG}{K:List Ab→bm→aq→Prop}{d:Nat}
theorem LW {t:TypeId}{a y:Operand}{i off:Nat}{c:XC}{cs cs':List XC}{e:TypeId}{hs':aq}(hk:SK P ops nt L l al hs' fun bs=>K (⟨true,.none,[i]⟩::bs)) (hle:off<cs.length) (hv:cs.set off c=cs') (ho:o.op = .store t a y:=by exact rfl) (ht:aT P t 1:=by infer_instance) (hw:aj ops (rg al) o=some true:=by exact rfl) (hd:o.dst = .none:=by exact rfl)
 (ha:ag (rg al) a = .one (.ptr i off):=by exact rfl) (hy:cW (ag (rg al) y)=some [c]:=by exact rfl) (hi:hs[i]? = some (c8 e cs):=by exact rfl) (hh:hs.set i (c8 e cs')=hs':=by first|(simp only [List.set_cons_succ,List.set_cons_zero];exact rfl)|exact rfl):SK P ops nt L (o::l) al hs K:=by
 have h1:c8 e cs = .cells cs e true false:=iu (fun hn=>by rw [hn]at hle;simp at hle)
 have h2:c8 e cs' = .cells cs' e true false:=iu (fun hn=>by
  have:=congrArg List.length hv
  rw [List.length_set,hn]at this
  simp at this
  rw [this]at hle
  simp at hle)
 exact jU ho hw hd ha hy (hi.trans (congrArg some h1)) hle hv (by rw [←h2];exact hh) hk
end Go.Xm
namespace Go.Proofs.YtagpkhindehcbaaGreat
open Go.Xm
variable [aC]
abbrev Ev:=Int × Int × Bool
def tq (e:Ev):List XC:=[.int .i64 e.1,.int .i64 e.2.1,.bool e.2.2]
instance:pU tq 3:=⟨fun _=>rfl,fun _=>rfl,by decide⟩
abbrev dU (l:List Ev):ak:=c8 144 (fl tq l)
def ku (f:Nat→Int):Nat→Nat→Int→List Ev
 | 0,_,_=>[]
 | k+1,i,run=>if f i=0 then ku f k (i+1) (run+1)else(run,f i,false)::ku f k (i+1) 0
def jO:List Ev→List Ev
 | []=>[]
 | [e]=>[(e.1,e.2.1,true)]
 | e::e2::l=>e::jO (e2::l)
theorem iN:∀ l:List Ev,(jO l).length=l.length
 | []=>rfl
 | [e]=>rfl
 | e::e2::l=>by simp only [jO,List.length_cons,iN (e2::l)]
theorem z8 (e:Ev) (l:List Ev):fl tq (e::l) = .int .i64 e.1 :: .int .i64 e.2.1 :: .bool e.2.2::fl tq l:=rfl
theorem sa:∀ l:List Ev,l≠[]→(fl tq l).set ((l.length-1)*3+2) (.bool true)=fl tq (jO l)
 | [],h=>absurd rfl h
 | [e],_=>rfl
 | e::e2::l,_=>by
   have ih:=sa (e2::l) (by simp)
   rw [z8 e,jO,z8 e,←ih]
   have:((e::e2::l).length-1)*3+2=((e2::l).length-1)*3+2+3:=by simp only [List.length_cons];omega
   rw [this]
   rfl
def ir (f:Nat→Int) (st:Nat):List Ev:=jO (ku f (64-st) st 0)
theorem qe (f:Nat→Int):∀(k i:Nat) (run:Int),(ku f k i run).length≤k
 | 0,_,_=>Nat.le_refl _
 | k+1,i,run=>by
   unfold ku
   split
   · have:=qe f k (i+1) (run+1);omega
   · have:=qe f k (i+1) 0;simp only [List.length_cons];omega
set_option maxRecDepth 10000 in
set_option maxHeartbeats 1000000 in
theorem EB (f:Nat→Int) (st:Nat) (hst:st≤64):bq Tryz.prog 90 [.agg (ti .i64 64 f),.one (.int .i64 (st:Nat))] [] (iT 0 (ir f st).length 3) [dU (ir f st)]:=by
 refine cO Tryz.func90 ?_
 repeat' (first|refine zG ?_|refine zA ?_|refine cX (fun _=>?_) (fun _=>?_)|refine aS (fun _=>?_) (fun _=>?_)|refine zL ?_|refine zF ?_|fail)
 refine WX.dt rfl ?_
 refine WX.ek (σ:=Nat × Int × List Ev) (fun s=>[(7,.one (.int .i64 (s.1:Nat))),(6,.one (.int .i64 s.2.1)),(5,iT 1 s.2.2.length 3),(2,.one (.ptr 0 0))]) (fun s=>[.cells (ti .i64 64 f) 50 false false,dU s.2.2]) (fun s=>s.1≤64∧0≤s.2.1∧s.2.1≤s.1∧s.2.2.length≤s.1∧s.2.2++ku f (64-s.1) s.1 s.2.1=ku f (64-st) st 0) (fun s=>64-s.1) (st,0,[]) ⟨hst,Int.le_refl _,by show(0:Int)≤(st:Nat);omega,by show 0≤st;omega,rfl⟩ (fun s _=>mO) (br [0,1]) ?_
 intro s ⟨h1,h2,h3,h4,h5⟩ ih
 by_cases h64:s.1<64
 · obtain⟨k,hk⟩:∃ k,64-s.1=k+1:=⟨63-s.1,by omega⟩
   have hk':64-(s.1+1)=k:=by omega
   rw [hk,ku]at h5
   by_cases hz:f s.1=0
   · have hz':f (s.1:Int).toNat=0:=hz
     rw [if_pos hz]at h5
     repeat' (first|refine zG ?_|refine zA ?_|refine cX (fun _=>?_) (fun _=>?_)|refine aS (fun _=>?_) (fun _=>?_)|refine zL ?_|refine zF ?_|fail)
     refine ih (s.1+1,s.2.1+1,s.2.2) _ _ _ (br [0,1]) ⟨by show s.1+1≤64;omega,by show 0≤s.2.1+1;omega,by show s.2.1+1≤((s.1+1:Nat):Int);omega,by show s.2.2.length≤s.1+1;omega,by show s.2.2++ku f (64-(s.1+1)) (s.1+1) (s.2.1+1)=_;rw [hk'];exact h5⟩ (by show 64-(s.1+1)<64-s.1;omega)
   · have hz':¬f (s.1:Int).toNat=0:=hz
     rw [if_neg hz]at h5
     repeat' (first
      |(refine qz ?_;first
       |refine pX (enc:=tq) (a:=(s.2.1,f s.1,false)) ?_
       |refine tD (enc:=tq) ?_)
      |refine zG ?_|refine zA ?_|refine cX (fun _=>?_) (fun _=>?_)|refine aS (fun _=>?_) (fun _=>?_)|refine zL ?_|refine zF ?_|fail)
     refine ih (s.1+1,0,s.2.2++[(s.2.1,f s.1,false)]) _ _ _ (br [0,3] (obj:=by(repeat' (first|exact ae.nil|refine ae.flat (by rw [List.length_append];rfl) ?_|refine ae.flat rfl ?_|refine ae.cons rfl ?_|refine ae.dead rfl ?_|refine ae.cons (by simp only [ak.aw,List.map_cons,List.map_nil,XC.aw,au];exact rfl) ?_));first|done|fail)) ⟨by show s.1+1≤64;omega,by show(0:Int)≤0;omega,by show(0:Int)≤((s.1+1:Nat):Int);omega,by show(s.2.2++[_]).length≤s.1+1;simp;omega,by show(s.2.2++[(s.2.1,f s.1,false)])++ku f (64-(s.1+1)) (s.1+1) 0=_;rw [hk',List.append_assoc];exact h5⟩ (by show 64-(s.1+1)<64-s.1;omega)
 · have e0:64-s.1=0:=by omega
   rw [e0,ku,List.append_nil]at h5
   have e:ir f st=jO s.2.2:=by rw [ir,←h5]
   rw [e]
   by_cases hn:s.2.2.length=0
   · have hs0:s.2.2 = []:=List.length_eq_zero_iff.1 hn
     rw [hs0]
     repeat' (first|refine zG ?_|refine zA ?_|refine cX (fun _=>?_) (fun _=>?_)|refine aS (fun _=>?_) (fun _=>?_)|refine zL ?_|refine zF ?_|fail)
     show aF _ _ _ _ _ _ _ _;refine kV [1] ?_
     rfl
   · have hset:(fl tq s.2.2).set ((((s.2.2.length:Nat):Int)-1).toNat*3+2) (.bool true)=fl tq (jO s.2.2):=by
      rw [show(((s.2.2.length:Nat):Int)-1).toNat=s.2.2.length-1 by omega]
      exact sa _ (fun h=>hn (by rw [h];rfl))
     have hle:(((s.2.2.length:Nat):Int)-1).toNat*3+2<(fl tq s.2.2).length:=by
      rw [r6];omega
     repeat' (first
      |(refine qz ?_;first
       |refine LW ?_ hle hset)
      |refine zG ?_|refine zA ?_|refine cX (fun _=>?_) (fun _=>?_)|refine aS (fun _=>?_) (fun _=>?_)|refine zL ?_|refine zF ?_|fail)
     show aF _ _ _ _ _ _ _ _;refine kV [1] ?_
     rw [eA,iN]
     rfl
theorem Hh {f:Nat→Int}{st:Nat}{z:Int}(hz:z=(st:Nat)) (hst:st≤64) {HS:aq}{N:Nat}(hN:HS.length=N) {HS':aq}(hh:HS++[dU (ir f st)]=HS') (hbd:Nat.blt HS'.length Mem.bound=true) :
 aG.Sound Tryz.prog ⟨90,[.agg (ti .i64 64 f),.one (.int .i64 z)],HS,iT N (ir f st).length 3,HS',[]⟩:=by
 subst hN
 subst hz
 refine cj (os:=[dU (ir f st)]) [] [] 1 (EB f st hst) (by simp) .nil .nil ?_ rfl (.flat (.flat .nil)) (.flat (.flat .nil)) (iv (Nat.le_of_ble_eq_true rfl)) (eA ..) ?_ ?_ rfl hh hbd (.inl rfl)
 · exact .flat .nil
 · exact .flat .nil
 · unfold dU
   cases fl tq (ir f st) <;> rfl
def lV (l e:Nat→Int) (i:Nat):Prop:=l i-e i < -2047∨2047<l i-e i
open Classical in
noncomputable def pk (l e:Nat→Int):Option (Nat→Int):=if ∃ i,i<64∧lV l e i then none else some fun i=>l i-e i
noncomputable def DR (o:Option (Nat→Int)):XV := .tup [.agg (ti .i64 64 (o.getD fun _=>0)),.one (.bool o.isSome)]
theorem yO (o:Option (Nat→Int)):(DR o).shut=true:=by
 show((ti .i64 64 (o.getD fun _=>0)).all XC.shut && (true && true))=true
 rw [ky];rfl
set_option maxRecDepth 10000 in
set_option maxHeartbeats 1000000 in
theorem DS (l e:Nat→Int) (hl:∀ i,-1000000≤l i∧l i≤1000000) (he:∀ i,-1000000≤e i∧e i≤1000000):bq Tryz.prog 88 [.agg (ti .i64 64 l),.agg (ti .i64 64 e)] [] (DR (pk l e)) []:=by
 refine cO Tryz.func88 ?_
 repeat' (first
  |(refine qz ?_;first
   |refine jq ?_ (hle:=by rw [bc]))
  |refine zG ?_|refine zA ?_|refine cX (fun _=>?_) (fun _=>?_)|refine aS (fun _=>?_) (fun _=>?_)|refine zL ?_|refine zF ?_|fail)
 refine WX.ek (σ:=Nat) (fun j=>[(9,.one (.int .i64 (j:Nat))),(2,.one (.ptr 0 0)),(4,.one (.ptr 1 0)),(8,.agg (ti .i64 64 e))]) (fun j=>[.cells (ti .i64 64 (sm (fun i=>l i-e i) l j)) 50 false false,.cells (ti .i64 64 fun _=>0) 50 false false]) (fun j=>j≤64∧∀ i,i<j→¬lV l e i) (fun j=>64-j) 0 ⟨by omega,fun i hi=>by omega⟩ (fun s _=>mO) (br [0,2] (obj:=by(repeat' (first|exact ae.nil|refine ae.flat (by rw [pw];rfl) ?_|refine ae.flat rfl ?_|refine ae.cons rfl ?_|refine ae.dead rfl ?_|refine ae.cons (by simp only [ak.aw,List.map_cons,List.map_nil,XC.aw,au];exact rfl) ?_));first|done|fail)) ?_
 intro j ⟨hj,hall⟩ ih
 by_cases hj64:j<64
 · have a1:=hl j
   have a2:=he j
   have a2':=he (j:Int).toNat
   have e1:e (j:Int).toNat=e j:=rfl
   have em:sm (fun i=>l i-e i) l j j=l j:=by simp [sm]
   have eu:fw (sm (fun i=>l i-e i) l j) j (sm (fun i=>l i-e i) l j j-e (j:Int).toNat) j=sm (fun i=>l i-e i) l j j-e (j:Int).toNat:=by simp [fw]
   by_cases hb:lV l e j
   · have hb':=hb
     unfold lV at hb'
     have e0:pk l e=none:=if_pos ⟨j,hj64,hb⟩
     rw [e0]
     repeat' (first
      |(refine qz ?_;first
       |refine Ld (n:=64) ?_
       |refine jC ?_ (hs1:=by rw [bc]) (hs2:=by rw [bc]))
      |refine zG ?_|refine zA ?_|refine cX (fun _=>?_) (fun _=>?_)|refine aS (fun _=>?_) (fun _=>?_)|refine zL ?_|refine zF ?_|fail)
     all_goals
      first
       | (exfalso;omega)
       | (show aF _ _ _ _ _ _ _ _;refine kV [] ?_;rfl)
   · have hb':=hb
     unfold lV at hb'
     have e2:sm (fun i=>l i-e i) l j j-e (j:Int).toNat=l j-e j:=by rw [em,e1]
     repeat' (first
      |(refine qz ?_;first
       |refine Ld (n:=64) ?_)
      |refine zG ?_|refine zA ?_|refine cX (fun _=>?_) (fun _=>?_)|refine aS (fun _=>?_) (fun _=>?_)|refine zL ?_|refine zF ?_|fail)
     refine ih (j+1) _ _ _ (br [0,1] (obj:=by(repeat' (first|exact ae.nil|refine ae.flat (by rw [←pv,e2];rfl) ?_|refine ae.flat rfl ?_|refine ae.cons rfl ?_|refine ae.dead rfl ?_|refine ae.cons (by simp only [ak.aw,List.map_cons,List.map_nil,XC.aw,au];exact rfl) ?_));first|done|fail)) ⟨by omega,fun i hi=>?_⟩ (by omega)
     by_cases hij:i=j
     · subst hij;exact hb
     · exact hall i (by omega)
 · obtain rfl:j=64:=by omega
   have e0:pk l e=some fun i=>l i-e i:=if_neg fun⟨i,hi,hb⟩=>hall i hi hb
   rw [e0]
   repeat' (first
    |(refine qz ?_;first
     |refine jq ?_ (hle:=by rw [bc])
     |refine jC ?_ (hs1:=by rw [bc]) (hs2:=by rw [bc]))
    |refine zG ?_|refine zA ?_|refine cX (fun _=>?_) (fun _=>?_)|refine aS (fun _=>?_) (fun _=>?_)|refine zL ?_|refine zF ?_|fail)
   show aF _ _ _ _ _ _ _ _;refine kV [] ?_
   rw [D6];rfl
theorem u5 {l e:Nat→Int}(hl:∀ i,-1000000≤l i∧l i≤1000000) (he:∀ i,-1000000≤e i∧e i≤1000000) {o:Option (Nat→Int)}(ho:pk l e=o) {HS:aq}(hb:Nat.blt HS.length Mem.bound=true):aG.Sound Tryz.prog ⟨88,[.agg (ti .i64 64 l),.agg (ti .i64 64 e)],HS,DR o,HS,[]⟩:=by
 subst ho
 exact az (DS l e hl he) (by show((ti .i64 64 l).all XC.shut && ((ti .i64 64 e).all XC.shut && true))=true;rw [ky,ky];rfl) (yO _) hb
end Go.Proofs.YtagpkhindehcbaaGreat
namespace Go.Proofs.YtagpkhindehcbaaGreat
open Go.Xm
variable [aC]
structure CQ (e:Ev):Prop where
 run:0≤e.1∧e.1≤63
 nz:e.2.1≠0
 lev : -2047≤e.2.1∧e.2.1≤2047
theorem vf (e:Ev) (h:CQ e):bq Tryz.prog 104 [.agg (tq e)] [] (.one (.bool true)) []:=by
 have h1:=h.run
 have h2:=h.nz
 have h3:=h.lev
 refine cO Tryz.func104 ?_
 repeat' (first|refine zG ?_|refine zA ?_|refine cX (fun _=>?_) (fun _=>?_)|refine aS (fun _=>?_) (fun _=>?_)|refine zL ?_|refine zF ?_|fail)
 show aF _ _ _ _ _ _ _ _;refine kV [] ?_
 rfl
theorem qL {e:Ev}(h:CQ e) {HS:aq}(hb:Nat.blt HS.length Mem.bound=true):aG.Sound Tryz.prog ⟨104,[.agg (tq e)],HS,.one (.bool true),HS,[]⟩:=
 az (vf e h) rfl rfl hb
structure kf (l:List Ev):Prop where
 len:0<l.length∧l.length≤64
 ok:∀ j,j<l.length→CQ (l.getD j default)
 last:∀ j,j<l.length→(l.getD j default).2.2=decide (j+1=l.length)
def J4 (e:Ev):List Bool:=cy (2*e.1+(if e.2.2 then 1 else 0))++cy (bd e.2.1-1)
def fB (l:List Ev):List Bool:=l.flatMap J4
theorem qN {x:Int}(h : -2047≤x∧x≤2047) (h0:x≠0):1≤bd x∧bd x≤4094:=by unfold bd;split <;> omega
theorem Gl {e:Ev}(h:CQ e):(J4 e).length≤54:=by
 unfold J4
 have h1:=h.run
 have h2:=qN h.lev h.nz
 have h3:=iR (2*e.1+(if e.2.2 then 1 else 0)) (by split <;> omega)
 have h4:=iR (bd e.2.1-1) (by omega)
 rw [List.length_append];omega
theorem p6 {l:List Ev}{j:Nat}(hj:j<l.length):fB (l.take (j+1))=fB (l.take j)++J4 (l.getD j default):=by
 unfold fB
 rw [List.take_add_one,List.flatMap_append,List.getD_eq_getElem?_getD,List.getElem?_eq_getElem hj]
 simp
theorem rZ {l:List Ev}(h:kf l):∀ j,j≤l.length→(fB (l.take j)).length≤54*j
 | 0,_=>by simp [fB]
 | j+1,hj=>by
   rw [p6 (by omega),List.length_append]
   have:=rZ h j (by omega)
   have:=Gl (h.ok j (by omega))
   omega
set_option maxRecDepth 10000 in
set_option maxHeartbeats 2000000 in
theorem C8 (bs:List Bool) (l:List Ev) (h:kf l) (hb:bs.length≤800000) :
 bq Tryz.prog 92 [.one (.ptr 0 0),iT 2 l.length 3] [aN 1 bs,av bs,dU l] (.one (.int .i64 0)) [aN 3 (bs++fB l),.dead,dU l,av (bs++fB l)]:=by
 have hlen:=h.len
 refine cO Tryz.func92 ?_
 repeat' (first|refine zG ?_|refine zA ?_|refine cX (fun _=>?_) (fun _=>?_)|refine aS (fun _=>?_) (fun _=>?_)|refine zL ?_|refine zF ?_|fail)
 refine WX.ek (σ:=Nat) (fun j=>[(22,.one (.int .i64 (j:Nat))),(0,.one (.ptr 0 0)),(1,iT 2 l.length 3),(20,iT 2 l.length 3),(21,.one (.int .i64 (l.length:Nat)))]) (fun _=>[aN 1 bs,av bs,dU l]) (fun j=>j≤l.length) (fun j=>l.length-j) 0 (by omega) (fun s _=>mO) (br [0,1,2]) ?_
 intro j hj ih
 by_cases hjl:j<l.length
 · have hok:=h.ok j hjl
   have hlast:=h.last j hjl
   by_cases hl:j+1=l.length
   · have hb2:(tq (l.getD j default))[2]? = some (.bool true):=by
      show some (XC.bool (l.getD j default).2.2)=_
      rw [hlast,decide_eq_true hl]
     repeat' (first
      |(refine qz ?_;first
       |refine KD (enc:=tq) (j:=j) ?_
       |refine ld (hc:=hb2) ?_
       |refine cl ?_ (hi:=by exact qL hok rfl))
      |refine zG ?_|refine zA ?_|refine cX (fun _=>?_) (fun _=>?_)|refine aS (fun _=>?_) (fun _=>?_)|refine zL ?_|refine zF ?_|fail)
     refine ih (j+1) _ _ _ (br [0,1,2]) (by omega) (by omega)
   · have hb2:(tq (l.getD j default))[2]? = some (.bool false):=by
      show some (XC.bool (l.getD j default).2.2)=_
      rw [hlast,decide_eq_false hl]
     repeat' (first
      |(refine qz ?_;first
       |refine KD (enc:=tq) (j:=j) ?_
       |refine ld (hc:=hb2) ?_
       |refine cl ?_ (hi:=by exact qL hok rfl))
      |refine zG ?_|refine zA ?_|refine cX (fun _=>?_) (fun _=>?_)|refine aS (fun _=>?_) (fun _=>?_)|refine zL ?_|refine zF ?_|fail)
     refine ih (j+1) _ _ _ (br [0,1,2]) (by omega) (by omega)
 · repeat' (first|refine zG ?_|refine zA ?_|refine cX (fun _=>?_) (fun _=>?_)|refine aS (fun _=>?_) (fun _=>?_)|refine zL ?_|refine zF ?_|fail)
   refine WX.ek (σ:=Nat) (fun j=>[(43,.one (.int .i64 (j:Nat))),(0,.one (.ptr 0 0)),(41,iT 2 l.length 3),(42,.one (.int .i64 (l.length:Nat)))]) (fun j=>[aN 3 (bs++fB (l.take j)),.dead,dU l,av (bs++fB (l.take j))]) (fun j=>j≤l.length) (fun j=>l.length-j) 0 (by omega) (fun s _=>mO) (br [0,1,2,1] (obj:=by(repeat' (first|exact ae.nil|refine ae.flat (by rw [show fB (l.take 0) = []from rfl,List.append_nil];rfl) ?_|refine ae.aW (by rw [show fB (l.take 0) = []from rfl,List.append_nil];rfl) rfl rfl rfl ?_|refine ae.flat rfl ?_|refine ae.cons rfl ?_|refine ae.dead rfl ?_|refine ae.cons (by simp only [ak.aw,List.map_cons,List.map_nil,XC.aw,au];exact rfl) ?_));first|done|fail)) ?_
   intro j2 hj2 ih2
   by_cases hjl2:j2<l.length
   · have hok:=h.ok j2 hjl2
     have hlast:=h.last j2 hjl2
     have e1:=hok.run
     have e2:=hok.lev
     have e3:=qN e2 hok.nz
     have hB:=rZ h j2 hj2
     have hlB:(bs++fB (l.take j2)).length≤810000:=by rw [List.length_append];omega
     by_cases hl:j2+1=l.length
     · have hb2:(tq (l.getD j2 default))[2]? = some (.bool true):=by
        show some (XC.bool (l.getD j2 default).2.2)=_
        rw [hlast,decide_eq_true hl]
       have hr:=iR (2*(l.getD j2 default).1+1) (by omega)
       have eB:fB (l.take (j2+1))=fB (l.take j2)++(cy (2*(l.getD j2 default).1+1)++cy (bd (l.getD j2 default).2.1-1)):=by
        rw [p6 hjl2,J4,hlast,decide_eq_true hl];rfl
       repeat' (first
        |(refine qz ?_;first
         |refine KD (enc:=tq) (j:=j2) ?_
         |refine ld (hc:=hb2) ?_
         |refine cl ?_ (hi:=by exact qh (by omega) rfl)
         |refine cl ?_ (hi:=by exact iS (v:=2*(l.getD j2 default).1+1) (bs:=bs++fB (l.take j2)) (by omega) (by omega) rfl rfl (by decide) nL nA rfl)
         |refine cl ?_ (hi:=by exact iS (v:=bd (l.getD j2 default).2.1-1) (bs:=(bs++fB (l.take j2))++cy (2*(l.getD j2 default).1+1)) (by omega) (by rw [List.length_append];omega) rfl rfl (by decide) nL nA rfl))
        |refine zG ?_|refine zA ?_|refine cX (fun _=>?_) (fun _=>?_)|refine aS (fun _=>?_) (fun _=>?_)|refine bL (by first|exact ai.nil|exact ai.one _|exact ai.nN (by repeat' (first|exact True.intro|refine And.intro ?_ ?_|exact Compat.ne rfl|exact d_ rfl))) ⟨by kernel_rfl,?_⟩|refine bL (by first|exact ai.nil|exact ai.one _|exact ai.nN (by repeat' (first|exact True.intro|refine And.intro ?_ ?_|exact Compat.ne rfl|exact d_ rfl))) ?_|refine zF ?_|fail)
       have hE:bs++fB (l.take (j2+1))=bs++fB (l.take j2)++cy (2*(l.getD j2 default).1+1)++cy (bd (l.getD j2 default).2.1-1):=by rw [eB];simp only [List.append_assoc]
       refine ih2 (j2+1) _ _ _ (br [0,1,2,6] (obj:=by(repeat' (first|exact ae.nil|refine ae.flat (by rw [hE];rfl) ?_|refine ae.aW (by rw [hE];rfl) rfl rfl rfl ?_|refine ae.flat rfl ?_|refine ae.cons rfl ?_|refine ae.dead rfl ?_|refine ae.cons (by simp only [ak.aw,List.map_cons,List.map_nil,XC.aw,au];exact rfl) ?_));first|done|fail)) (by omega) (by omega)
     · have hb2:(tq (l.getD j2 default))[2]? = some (.bool false):=by
        show some (XC.bool (l.getD j2 default).2.2)=_
        rw [hlast,decide_eq_false hl]
       have hr:=iR (2*(l.getD j2 default).1) (by omega)
       have eB:fB (l.take (j2+1))=fB (l.take j2)++(cy (2*(l.getD j2 default).1)++cy (bd (l.getD j2 default).2.1-1)):=by
        rw [p6 hjl2,J4,hlast,decide_eq_false hl,if_neg (by decide),Int.add_zero]
       repeat' (first
        |(refine qz ?_;first
         |refine KD (enc:=tq) (j:=j2) ?_
         |refine ld (hc:=hb2) ?_
         |refine cl ?_ (hi:=by exact qh (by omega) rfl)
         |refine cl ?_ (hi:=by exact iS (v:=2*(l.getD j2 default).1) (bs:=bs++fB (l.take j2)) (by omega) (by omega) rfl rfl (by decide) nL nA rfl)
         |refine cl ?_ (hi:=by exact iS (v:=bd (l.getD j2 default).2.1-1) (bs:=(bs++fB (l.take j2))++cy (2*(l.getD j2 default).1)) (by omega) (by rw [List.length_append];omega) rfl rfl (by decide) nL nA rfl))
        |refine zG ?_|refine zA ?_|refine cX (fun _=>?_) (fun _=>?_)|refine aS (fun _=>?_) (fun _=>?_)|refine bL (by first|exact ai.nil|exact ai.one _|exact ai.nN (by repeat' (first|exact True.intro|refine And.intro ?_ ?_|exact Compat.ne rfl|exact d_ rfl))) ⟨by kernel_rfl,?_⟩|refine bL (by first|exact ai.nil|exact ai.one _|exact ai.nN (by repeat' (first|exact True.intro|refine And.intro ?_ ?_|exact Compat.ne rfl|exact d_ rfl))) ?_|refine zF ?_|fail)
       have hE:bs++fB (l.take (j2+1))=bs++fB (l.take j2)++cy (2*(l.getD j2 default).1)++cy (bd (l.getD j2 default).2.1-1):=by rw [eB];simp only [List.append_assoc]
       refine ih2 (j2+1) _ _ _ (br [0,1,2,6] (obj:=by(repeat' (first|exact ae.nil|refine ae.flat (by rw [hE];rfl) ?_|refine ae.aW (by rw [hE];rfl) rfl rfl rfl ?_|refine ae.flat rfl ?_|refine ae.cons rfl ?_|refine ae.dead rfl ?_|refine ae.cons (by simp only [ak.aw,List.map_cons,List.map_nil,XC.aw,au];exact rfl) ?_));first|done|fail)) (by omega) (by omega)
   · have hT:l.take j2=l:=List.take_of_length_le (by omega)
     rw [hT]
     repeat' (first|refine zG ?_|refine zA ?_|refine cX (fun _=>?_) (fun _=>?_)|refine aS (fun _=>?_) (fun _=>?_)|refine zL ?_|refine zF ?_|fail)
     show aF _ _ _ _ _ _ _ _;refine kV [0,1,2,3] ?_
     rfl
theorem Jd (a b:List XC) (e e' e2 e3:TypeId) (cs ds fs:List XC):eI [.cells a e false false,c8 e' cs,c8 e3 fs] [.cells b e false false,.dead,c8 e3 fs,c8 e2 ds]=true:=by
 cases cs <;> cases ds <;> cases fs <;> simp [eI,ak.live,ak.own,c8]
theorem nH {bs:List Bool}{l:List Ev}(h:kf l) (hb:bs.length≤800000) {HS:aq}{i k q:Nat}(hi:HS[i]? = some (aN k bs)) (hk:HS[k]? = some (av bs)) (hq:HS[q]? = some (dU l)) (hd : [i,k,q].Nodup) {N:Nat}(hN:HS.length=N) {HS':aq}(hh:bM HS [i,k] [aN N (bs++fB l),.dead,av (bs++fB l)]=HS') (hbd:Nat.blt HS'.length Mem.bound=true) :
 aG.Sound Tryz.prog ⟨92,[.one (.ptr i 0),iT q l.length 3],HS,.one (.int .i64 0),HS',[i,k]⟩:=by
 subst hN
 have hh':bM HS [i,k,q] [aN HS.length (bs++fB l),.dead,dU l,av (bs++fB l)]=HS':=by
  subst hh
  simp only [List.nodup_cons,List.mem_cons,List.not_mem_nil,or_false,not_or]at hd
  simp only [bM]
  rw [aK (i:=q) (by rw [List.getElem?_set_ne hd.2.1,List.getElem?_set_ne hd.1.2];exact hq)]
 refine cj [i,k,q] [i,k] 1 (C8 bs l h hb) hd ?_ ?_ ?_ rfl (.cons (by simp [XV.cB,XC.ok]) (.cons (iv (Nat.le_of_ble_eq_true rfl)) .nil)) (.cons rfl (.cons (eA ..) .nil)) (bG.ok _) (bG.aw _) ?_ (Jd ..) rfl hh' hbd (.inr fun j hjl hj=>?_)
 · exact ae.aW hi rfl rfl rfl (.flat hk (.flat hq .nil))
 · exact .cons (by simp [ak.cB,XC.ok,ca]) (.flat (.flat .nil))
 · exact .cons (by simp [ak.cB,XC.ok,ca]) (.flat (.flat (.flat .nil)))
 · exact .cons (by simp only [ak.aw,List.map_cons,List.map_nil,XC.aw,au];rfl) (.flat (.flat (.flat .nil)))
 · subst hh
   exact ln _ _ _ _ hjl (by simpa using hj)
end Go.Proofs.YtagpkhindehcbaaGreat
namespace Go.Proofs.YtagpkhindehcbaaGreat
open Go.Xm
variable [aC]
structure bX where
 id:Int
 inter:Bool
 down:Bool
 hqp:Int
 qp:Int
 cols:Int
 rows:Int
 M:fH
 A:nD
 B:nD
 C:nD
abbrev dS (S:bX):ak := .cells [.ptr 3 0,.int .i64 S.id,.bool S.inter,.bool S.down,.int .i64 S.hqp,.int .i64 S.qp,.ptr 16 0,.ptr 18 0] 97 false false
abbrev dV (S:bX):aq:=[dS S,cc 4 8 12,ay 5 6 7 cM,bg cM,bj cM,bh cM,ay 9 10 11 cZ,bg cZ,bj cZ,bh cZ,ay 13 14 15 cP,bg cP,bj cP,bh cP,
 cH 17 S.cols S.rows,.map (bp S.M),.cells [.int .i64 S.cols,.int .i64 S.rows,.map 19,.map 20,.map 21] 171 false false,.map (ah S.A),.map (ah S.B),.map (ah S.C)]
instance HG (M:nD):dT (.map (ah M)):=si (fun _=>rfl) (fun b=>show X1.shut (.agg (dm b))=true from bl b) M
abbrev bK:List Nat:=[2,3,4,5,6,7,8,9,10,11,12,13,14,15,16,17,18,19,20,21]
theorem gM (S:bX) (n:Nat) (h:22≤n) {l:aq}(hl:dL n l):dL n (dV S++l):=by
 have k:∀ j,j<22→j<n:=fun j hj=>by omega
 refine .cons ?_ (.cons ?_ (.cons ?_ (.flat (.flat (.flat (.cons ?_ (.flat (.flat (.flat (.cons ?_ (.flat (.flat (.flat (.cons ?_ (.flat (.cons ?_ (.flat (.flat (.flat hl)))))))))))))))))))
 all_goals simp [ak.cB,XC.ok];omega
theorem pF (S:bX) {τ : Nat→Nat}(h:∀ j,2≤j→j<22 → τ j=j) {l l':aq}(hl:dR τ l l'):dR τ (dV S++l) (dV S++l'):=by
 have h3:=h 3 (by omega) (by omega)
 have h4:=h 4 (by omega) (by omega)
 have h5:=h 5 (by omega) (by omega)
 have h6:=h 6 (by omega) (by omega)
 have h7:=h 7 (by omega) (by omega)
 have h8:=h 8 (by omega) (by omega)
 have h9:=h 9 (by omega) (by omega)
 have h10:=h 10 (by omega) (by omega)
 have h11:=h 11 (by omega) (by omega)
 have h12:=h 12 (by omega) (by omega)
 have h13:=h 13 (by omega) (by omega)
 have h14:=h 14 (by omega) (by omega)
 have h15:=h 15 (by omega) (by omega)
 have h16:=h 16 (by omega) (by omega)
 have h17:=h 17 (by omega) (by omega)
 have h18:=h 18 (by omega) (by omega)
 have h19:=h 19 (by omega) (by omega)
 have h20:=h 20 (by omega) (by omega)
 have h21:=h 21 (by omega) (by omega)
 refine .cons ?_ (.cons ?_ (.cons ?_ (.flat (.flat (.flat (.cons ?_ (.flat (.flat (.flat (.cons ?_ (.flat (.flat (.flat (.cons ?_ (.flat (.cons ?_ (.flat (.flat (.flat hl)))))))))))))))))))
 all_goals simp only [ak.aw,List.map_cons,List.map_nil,XC.aw, *]
theorem nW (S:bX) {τ : Nat→Nat}{HS:aq}(h:∀ j,2≤j→j<22 → τ j=j) (hS:(HS.drop 2).take 20=dV S) {ls:List Nat}{l:aq}(hl:ae τ HS ls l):ae τ HS (bK++ls) (dV S++l):=by
 have g:∀ j,j<20→HS[j+2]? = (dV S)[j]?:=fun j hj=>by
  rw [←hS,List.getElem?_take,if_pos hj,List.getElem?_drop]
  congr 1
  omega
 have h3:=h 3 (by omega) (by omega)
 have h4:=h 4 (by omega) (by omega)
 have h5:=h 5 (by omega) (by omega)
 have h6:=h 6 (by omega) (by omega)
 have h7:=h 7 (by omega) (by omega)
 have h8:=h 8 (by omega) (by omega)
 have h9:=h 9 (by omega) (by omega)
 have h10:=h 10 (by omega) (by omega)
 have h11:=h 11 (by omega) (by omega)
 have h12:=h 12 (by omega) (by omega)
 have h13:=h 13 (by omega) (by omega)
 have h14:=h 14 (by omega) (by omega)
 have h15:=h 15 (by omega) (by omega)
 have h16:=h 16 (by omega) (by omega)
 have h17:=h 17 (by omega) (by omega)
 have h18:=h 18 (by omega) (by omega)
 have h19:=h 19 (by omega) (by omega)
 have h20:=h 20 (by omega) (by omega)
 have h21:=h 21 (by omega) (by omega)
 refine .cons ?_ (.cons ?_ (.cons ?_ (.flat (g 3 (by omega)) (.flat (g 4 (by omega)) (.flat (g 5 (by omega)) (.cons ?_ (.flat (g 7 (by omega)) (.flat (g 8 (by omega)) (.flat (g 9 (by omega)) (.cons ?_ (.flat (g 11 (by omega)) (.flat (g 12 (by omega)) (.flat (g 13 (by omega)) (.cons ?_ (.flat (g 15 (by omega)) (.cons ?_ (.flat (g 17 (by omega)) (.flat (g 18 (by omega)) (.flat (g 19 (by omega)) hl)))))))))))))))))))
 · rw [g 0 (by omega)];simp only [ak.aw,List.map_cons,List.map_nil,XC.aw, *];rfl
 · rw [g 1 (by omega)];simp only [ak.aw,List.map_cons,List.map_nil,XC.aw, *];rfl
 · rw [g 2 (by omega)];simp only [ak.aw,List.map_cons,List.map_nil,XC.aw, *];rfl
 · rw [g 6 (by omega)];simp only [ak.aw,List.map_cons,List.map_nil,XC.aw, *];rfl
 · rw [g 10 (by omega)];simp only [ak.aw,List.map_cons,List.map_nil,XC.aw, *];rfl
 · rw [g 14 (by omega)];simp only [ak.aw,List.map_cons,List.map_nil,XC.aw, *];rfl
 · rw [g 16 (by omega)];simp only [ak.aw,List.map_cons,List.map_nil,XC.aw, *];rfl
theorem Hf (a b:List XC) (e e' e2:TypeId) (cs ds:List XC) (S S':bX):eI (.cells a e false false::c8 e' cs::dV S) (.cells b e false false :: .dead::(dV S'++[c8 e2 ds]))=true:=by
 cases cs <;> cases ds <;> simp [eI,ak.live,ak.own,c8]
theorem Ip {f:FuncId}{more:List XV}(hm:∀ τ,dQ τ more more) (hmo:fz 22 more) {v:XV} [bG v] {bs bs':List Bool}{S S':bX}(hc:bq Tryz.prog f (.one (.ptr 2 0) :: .one (.ptr 0 0)::more) (aN 1 bs::av bs::dV S) v (aN 22 bs' :: .dead::(dV S'++[av bs'])))
 {HS:aq}{k:Nat}(hi:HS[0]? = some (aN k bs)) (hk:HS[k]? = some (av bs)) (hS:(HS.drop 2).take 20=dV S) (hd:(k == 1 || Nat.ble 22 k)=true) {N:Nat}(hN:HS.length=N) {HS':aq}(hh:bM HS (0::k::bK) (aN N bs' :: .dead::(dV S'++[av bs']))=HS') (hbd:Nat.blt HS'.length Mem.bound=true) :
 aG.Sound Tryz.prog ⟨f,.one (.ptr 2 0) :: .one (.ptr 0 0)::more,HS,v,HS',0::k::bK⟩:=by
 subst hN
 have hkk:k=1∨22≤k:=by simpa [Nat.ble_eq]using hd
 have h0:0∉bK:=by decide
 have hk':k∉bK:=by
  intro h
  simp only [bK,List.mem_cons,List.not_mem_nil,or_false]at h
  omega
 have nd:(0::k::bK).Nodup:=List.nodup_cons.2 ⟨fun h=>(List.mem_cons.1 h).elim (fun e=>by omega) h0,List.nodup_cons.2 ⟨hk',by decide⟩⟩
 have hq:∀ q:Fin 20,bK[q.val]? = some (q.val+2):=by decide
 have ht:∀ j,2≤j→j<22→nth (0::k::bK) j=j:=fun j h1 h2=>by
  obtain⟨q,rfl⟩:∃ q,j=q+2:=⟨j-2,by omega⟩
  have:=hq ⟨q,by omega⟩
  unfold nth
  rw [List.getD_eq_getElem?_getD]
  simp only [List.getElem?_cons_succ]
  rw [this];rfl
 have ht':∀ j,2≤j→j<22→nth ((0::k::bK)++List.range' HS.length 1) j=j:=fun j h1 h2=>by
  obtain⟨q,rfl⟩:∃ q,j=q+2:=⟨j-2,by omega⟩
  have:=hq ⟨q,by omega⟩
  unfold nth
  rw [List.getD_eq_getElem?_getD]
  show((bK++List.range' HS.length 1)[q]?).getD 0=q+2
  rw [List.getElem?_append_left (show q<bK.length by show q<20;omega),this];rfl
 have hv:=nW S ht hS (ls:=[]) .nil
 rw [List.append_nil,List.append_nil]at hv
 have ho:=gM S 22 (Nat.le_refl _) (l:=[]) .nil
 rw [List.append_nil]at ho
 refine cj (0::k::bK) (0::k::bK) 1 hc nd (ae.aW hi rfl rfl rfl (.flat hk hv)) (.cons (by simp [ak.cB,XC.ok,ca]) (.flat ho)) (.cons (by simp [ak.cB,XC.ok,ca]) (.flat (gM S' 23 (by omega) (.flat .nil)))) rfl (.cons (by show 2<22;omega) (.cons (by show 0<22;omega) hmo)) (.cons rfl (.cons rfl (hm _))) (bG.ok _) (bG.aw _) ?_ (Hf ..) rfl hh hbd (.inl rfl)
 exact .cons (by simp only [ak.aw,List.map_cons,List.map_nil,XC.aw,au];rfl) (.flat (pF S' ht' (.flat .nil)))
def bJ (n:Int):Nat:=bitLen (max n (-n)).toNat
def aV (n:Int):List Bool:=c7 cZ (bJ n)++dW (if n<0 then n+(1*2^bJ n-1)else n) (bJ n)
theorem uc (n:Nat):n<2^bitLen n:=by
 unfold bitLen
 split
 · rename_i h;rw [h];decide
 · exact Nat.lt_log2_self
theorem jA {C:Cd}(hC:tu C) (n:Nat):(c7 C n).length≤64:=by
 unfold c7
 have:=hC.sz n
 have h:∀(x:Int) (k:Nat),(dW x k).length=k:=fun x k=>fS x k
 rw [h];omega
theorem rU {n:Int}(h : -4000≤n∧n≤4000):bJ n≤12:=nE (by omega)
set_option maxRecDepth 10000 in
set_option maxHeartbeats 1000000 in
theorem Dk (bs:List Bool) (S:bX) (n:Int) (hn : -4000≤n∧n≤4000) (hb:bs.length≤800000) :
 bq Tryz.prog 89 [.one (.ptr 2 0),.one (.ptr 0 0),.one (.int .i64 n)] [aN 1 bs,av bs,dS (S),cc 4 8 12,ay 5 6 7 cM,bg cM,bj cM,bh cM,ay 9 10 11 cZ,bg cZ,bj cZ,bh cZ,ay 13 14 15 cP,bg cP,bj cP,bh cP,cH 17 (S).cols (S).rows,.map (bp (S).M),.cells [.int .i64 (S).cols,.int .i64 (S).rows,.map 19,.map 20,.map 21] 171 false false,.map (ah (S).A),.map (ah (S).B),.map (ah (S).C)] (.tup []) [aN 22 (bs++aV n),.dead,dS (S),cc 4 8 12,ay 5 6 7 cM,bg cM,bj cM,bh cM,ay 9 10 11 cZ,bg cZ,bj cZ,bh cZ,ay 13 14 15 cP,bg cP,bj cP,bh cP,cH 17 (S).cols (S).rows,.map (bp (S).M),.cells [.int .i64 (S).cols,.int .i64 (S).rows,.map 19,.map 20,.map 21] 171 false false,.map (ah (S).A),.map (ah (S).B),.map (ah (S).C),av (bs++aV n)]:=by
 have hm:max n (0-n)=max n (-n):=by rw [Int.zero_sub]
 have hl:=rU hn
 have hlt:=uc (max n (-n)).toNat
 have hl2:pj (max n (0-n)).toNat=(bJ n:Nat):=by rw [hm];rfl
 have hc:=jA wm (bJ n)
 have hpow:(2:Int)^bJ n≤4096:=by
  have:=Nat.pow_le_pow_right (show 0<2 by decide) hl
  have h2:((2^bJ n:Nat):Int)≤((2^12:Nat):Int):=Int.ofNat_le.2 this
  rw [Int.natCast_pow]at h2
  exact h2
 have hpl : -n<(2:Int)^bJ n∧n<(2:Int)^bJ n:=by
  have h2:(((max n (-n)).toNat:Nat):Int)<((2^bJ n:Nat):Int):=Int.ofNat_lt.2 hlt
  rw [Int.natCast_pow]at h2
  have h3:((2:Nat):Int)^bJ n=(2:Int)^bJ n:=rfl
  rw [h3]at h2
  omega
 have h1:(1:Int)*2^bJ n=2^bJ n:=Int.one_mul _
 have e0:bs++aV n=(bs++c7 cZ (bJ n))++dW (if n<0 then n+(1*2^bJ n-1)else n) (bJ n):=by rw [aV,List.append_assoc]
 rw [e0]
 refine cO Tryz.func89 ?_
 by_cases h0:n<0
 · rw [if_pos h0]
   repeat' (first
    |(refine qz ?_;first
     |refine Le ?_
     |refine cl (v := .one (.int .i64 (bJ n:Nat))) ?_ (hi:=by rw [←hl2];exact yN (by omega) rfl)
     |refine cl ?_ (hi:=by exact pc (C:=cZ) wm (n:=bJ n) rfl (by show bJ n<13;omega) (bs:=bs) (by omega) rfl rfl rfl rfl rfl rfl (by decide) nL nA rfl)
     |refine yb (n:=bJ n) ?_ (h:=⟨by show bJ n≤64;omega,by show _∧_;omega⟩)
     |refine cl ?_ (hi:=by exact gE (n:=n+(1*2^bJ n-1)) (size:=bJ n) rfl (bs:=bs++c7 cZ (bJ n)) (by omega) (by omega) (by rw [List.length_append];omega) rfl rfl (by decide) nL nA rfl))
    |refine zG ?_|refine zA ?_|refine cX (fun _=>?_) (fun _=>?_)|refine aS (fun _=>?_) (fun _=>?_)|refine zL ?_|refine zF ?_|fail)
   show aF _ _ _ _ _ _ _ _;refine kV [0,1,2,3,4,5,6,7,8,9,10,11,12,13,14,15,16,17,18,19,20,21,23] ?_
   rfl
 · rw [if_neg h0]
   repeat' (first
    |(refine qz ?_;first
     |refine Le ?_
     |refine cl (v := .one (.int .i64 (bJ n:Nat))) ?_ (hi:=by rw [←hl2];exact yN (by omega) rfl)
     |refine cl ?_ (hi:=by exact pc (C:=cZ) wm (n:=bJ n) rfl (by show bJ n<13;omega) (bs:=bs) (by omega) rfl rfl rfl rfl rfl rfl (by decide) nL nA rfl)
     |refine cl ?_ (hi:=by exact gE (n:=n) (size:=bJ n) rfl (bs:=bs++c7 cZ (bJ n)) (by omega) (by omega) (by rw [List.length_append];omega) rfl rfl (by decide) nL nA rfl))
    |refine zG ?_|refine zA ?_|refine cX (fun _=>?_) (fun _=>?_)|refine aS (fun _=>?_) (fun _=>?_)|refine zL ?_|refine zF ?_|fail)
   show aF _ _ _ _ _ _ _ _;refine kV [0,1,2,3,4,5,6,7,8,9,10,11,12,13,14,15,16,17,18,19,20,21,23] ?_
   rfl
theorem Bl {n:Int}(h : -4000≤n∧n≤4000):(aV n).length≤76:=by
 unfold aV
 have:=jA wm (bJ n)
 have:=rU h
 rw [List.length_append,fS];omega
theorem Gh {bs:List Bool}{S:bX}{n:Int}(hn : -4000≤n∧n≤4000) (hb:bs.length≤800000) {HS:aq}{k:Nat}(hi:HS[0]? = some (aN k bs)) (hk:HS[k]? = some (av bs)) (hS:(HS.drop 2).take 20=dV S) (hd:(k == 1 || Nat.ble 22 k)=true) {N:Nat}(hN:HS.length=N) {HS':aq}(hh:bM HS (0::k::bK) (aN N (bs++aV n) :: .dead::(dV S++[av (bs++aV n)]))=HS') (hbd:Nat.blt HS'.length Mem.bound=true) :
 aG.Sound Tryz.prog ⟨89,[.one (.ptr 2 0),.one (.ptr 0 0),.one (.int .i64 n)],HS,.tup [],HS',0::k::bK⟩:=
 Ip (fun _ => .flat .nil) (.flat .nil) (Dk bs S n hn hb) hi hk hS hd hN hh hbd
end Go.Proofs.YtagpkhindehcbaaGreat
