/-
  A part of the proof: Firsts, OutL, Quiet, Fill1.
-/
import Derived.Test.YtagpkhindehcbaaGreatKcH
import Derived.Test.YtagpkhindehcbaaGreatKcN
import Derived.Test.YtagpkhindehcbaaGreatKcQ
set_option maxRecDepth 10000
set_option maxHeartbeats 8000000
set_option linter.unusedVariables false
set_option linter.unusedSectionVars false
set_option linter.unusedSimpArgs false
namespace Go.Proofs.YtagpkhindehcbaaGreat
open Go.Xm
variable [az]
def eO (m:Mb) (h:Nat→Bool):List XC:=mC m++[.bool (h 0),.bool (h 1),.bool (h 2),.bool (h 3),.bool (h 4),.bool (h 5)]
theorem b7 (m:Mb) (h:Nat→Bool):(eO m h).length=397:=by simp [eO,aF]
theorem tJ (m:Mb) (h:Nat→Bool):(eO m h).all XC.shut=true:=by
 unfold eO
 rw [List.all_append,jX];rfl
instance NR (m:Mb) (h:Nat→Bool) (e:TypeId) (a b:Bool):dc (.cells (eO m h) e a b):=gW (tJ m h)
theorem Ci (m:Mb) (h:Nat→Bool) {i:Nat}(hi:i<384) (z:Int):(eO m h).set (7+i) (.int .i64 z)=eO {m with lev:=cW m.lev i z} h:=by
 unfold eO
 rw [List.set_append_left _ _ (by rw [aF];omega)]
 congr 1
 rw [Nat.add_comm]
 show .int .u8 m.kind :: .int .i64 m.qp::cn (m.v 0)::cn (m.v 1)::cn (m.v 2)::cn (m.v 3) :: .bool m.edge::(ti .i64 384 m.lev).set i (.int .i64 z)=_
 rw [rq];rfl
theorem Jy (m:Mb) (h:Nat→Bool) {off s:Nat}(h7:7≤off) (hs:off+s≤391):((eO m h).drop off).take s=ti .i64 s fun i=>m.lev (off-7+i):=by
 unfold eO
 rw [List.drop_append_of_le_length (by rw [aF];omega),List.take_append_of_le_length (by rw [List.length_drop,aF];omega),Gj m h7 hs]
theorem sB (m:Mb) (h:Nat→Bool):((eO m h).drop 0).take 391=mC m:=by
 unfold eO
 rw [List.drop_zero,List.take_append_of_le_length (by rw [aF];omega),List.take_of_length_le (by rw [aF];omega)]
structure i_ where
 m:Mb
 S:bz
 r:Nat × Bool
def AB (B:List Bool) (mb:Int) (x:i_) (k:Nat):Int:=(aL x.S mb k x.m.qp).2+(fF B x.r).1
def uM (B:List Bool) (mb:Int) (x:i_) (k:Nat):Prop:=AB B mb x k<0∨127<AB B mb x k
instance (B:List Bool) (mb:Int) (x:i_) (k:Nat):Decidable (uM B mb x k):=by unfold uM;infer_instance
def AA (B:List Bool) (mb:Int) (x:i_) (k:Nat):Int:=if uM B mb x k then 0 else AB B mb x k
def Ix (B:List Bool) (mb:Int) (x:i_) (k:Nat):Mb:={x.m with lev:=cW x.m.lev (k*64) (AA B mb x k)}
def rP (B:List Bool) (mb:Int) (x:i_) (k:Nat):i_:=
 ⟨Ix B mb x k,aO x.S mb k ⟨aA (Ix B mb x k) k,(Ix B mb x k).qp⟩,if uM B mb x k then((fF B x.r).2.1,true)else(fF B x.r).2⟩
def iJ (B:List Bool) (mb:Int) (x:i_):Nat→i_
 | 0=>x
 | k+1=>rP B mb (iJ B mb x k) k
theorem Er (B:List Bool) (r:Nat × Bool) : -5000≤(fF B r).1∧(fF B r).1≤5000:=by
 have hr:=nJ (K:=12) (by decide) Fk B (cZ.T.length/2) 0 r
 have hs:cH B r≤12:=by unfold cH;have:(kZ cZ B r).1≤12:=hr.2;omega
 have hn:0≤(l6 B r).1∧(l6 B r).1<2^cH B r:=mz B (cH B r) (kZ cZ B r).2
 have hp:(2:Int)^cH B r≤4096:=by
  have:=Nat.pow_le_pow_right (show 0<2 by decide) hs
  have h2:((2^cH B r:Nat):Int)≤((2^12:Nat):Int):=Int.ofNat_le.2 this
  rw [Int.natCast_pow]at h2
  exact h2
 unfold fF
 split
 · simp only [];omega
 · omega
theorem AF {L:List Int} {B:List Bool}(hB:dG L B) (x:i_) (hs:Nat→Bool) (mb:Int) (hD:gw x.S.cols x.S.rows) (hmb:0≤mb∧mb<x.S.cols*x.S.rows) (hq : -1000000≤x.m.qp∧x.m.qp≤1000000) :
 bt Tryz.prog 68 [.one (.ptr 2 0),.one (.ptr 0 0),.one (.int .i64 mb),.one (.ptr 22 0)] [bI 1 L B x.r.1 x.r.2,aR L,dw (x.S),bR 4 8 12,ay 5 6 7 cM,aX cM,aZ cM,aY cM,ay 9 10 11 cZ,aX cZ,aZ cZ,aY cZ,ay 13 14 15 cP,aX cP,aZ cP,aY cP,ch 17 (x.S).cols (x.S).rows,.map (bg (x.S).M),.cells [.int .i64 (x.S).cols,.int .i64 (x.S).rows,.map 19,.map 20,.map 21] 171 false false,.map (ah (x.S).A),.map (ah (x.S).B),.map (ah (x.S).C),.cells (eO x.m hs) 56 false false] (.tup []) [bI 1 L B (iJ B mb x 6).r.1 (iJ B mb x 6).r.2,aR L,dw ((iJ B mb x 6).S),bR 4 8 12,ay 5 6 7 cM,aX cM,aZ cM,aY cM,ay 9 10 11 cZ,aX cZ,aZ cZ,aY cZ,ay 13 14 15 cP,aX cP,aZ cP,aY cP,ch 17 ((iJ B mb x 6).S).cols ((iJ B mb x 6).S).rows,.map (bg ((iJ B mb x 6).S).M),.cells [.int .i64 ((iJ B mb x 6).S).cols,.int .i64 ((iJ B mb x 6).S).rows,.map 19,.map 20,.map 21] 171 false false,.map (ah ((iJ B mb x 6).S).A),.map (ah ((iJ B mb x 6).S).B),.map (ah ((iJ B mb x 6).S).C),.cells (eO (iJ B mb x 6).m hs) 56 false false]:=by
 obtain⟨y,hy⟩:∃ y,iJ B mb x 6=y:=⟨_,rfl⟩
 rw [hy]
 refine cO Tryz.func68 ?_
 repeat' (first|refine zz ?_|refine zx (fun _=>?_) (fun _=>?_)|fail)
 refine WX.dp (σ:=Nat × i_) (fun s=>[(12,.one (.int .i64 (s.1:Nat))),(0,.one (.ptr 2 0)),(1,.one (.ptr 0 0)),(2,.one (.int .i64 mb)),(3,.one (.ptr 22 0))]) (fun s=>[bI 1 L B s.2.r.1 s.2.r.2,aR L,dw (s.2.S),bR 4 8 12,ay 5 6 7 cM,aX cM,aZ cM,aY cM,ay 9 10 11 cZ,aX cZ,aZ cZ,aY cZ,ay 13 14 15 cP,aX cP,aZ cP,aY cP,ch 17 (s.2.S).cols (s.2.S).rows,.map (bg (s.2.S).M),.cells [.int .i64 (s.2.S).cols,.int .i64 (s.2.S).rows,.map 19,.map 20,.map 21] 171 false false,.map (ah (s.2.S).A),.map (ah (s.2.S).B),.map (ah (s.2.S).C),.cells (eO s.2.m hs) 56 false false]) (fun s=>s.1≤6∧iJ B mb x s.1=s.2∧s.2.S.cols=x.S.cols∧s.2.S.rows=x.S.rows∧s.2.m.qp=x.m.qp) (fun s=>6-s.1) (0,x) ⟨by show 0≤6;omega,rfl,rfl,rfl,rfl⟩ (fun s _=>kS) (bm [0,1,2,3,4,5,6,7,8,9,10,11,12,13,14,15,16,17,18,19,20,21,22]) ?_
 intro s ⟨g1,g2,g3,g4,g5⟩ ih
 have hD':gw s.2.S.cols s.2.S.rows:=by rw [g3,g4];exact hD
 have hmb':0≤mb∧mb<s.2.S.cols*s.2.S.rows:=by rw [g3,g4];exact hmb
 by_cases h6:s.1<6
 · have hu:=Er B s.2.r
   have hf:=j6 s.2.S mb s.1 s.2.m.qp
   obtain⟨m',hm'⟩:∃ m',Ix B mb s.2 s.1=m':=⟨_,rfl⟩
   have hw:((eO m' hs).drop (7+s.1*64+0)).take 64=ti .i64 64 (aA m' s.1):=by
    rw [Nat.add_zero,Jy m' hs (by omega) (by omega)]
    refine n_ fun i hi=>?_
    unfold aA
    congr 1
    omega
   have hg0:iJ B mb x (s.1+1)=rP B mb s.2 s.1:=by show rP B mb (iJ B mb x s.1) s.1=_;rw [g2]
   have hqp:m'.qp=s.2.m.qp:=by rw [←hm'];rfl
   by_cases hb:uM B mb s.2 s.1
   · have hN:rP B mb s.2 s.1=⟨m',aO s.2.S mb s.1 ⟨aA m' s.1,m'.qp⟩,((fF B s.2.r).2.1,true)⟩:=by
      unfold rP
      rw [hm',if_pos hb]
     have hset:(eO s.2.m hs).set (7+s.1*64+0) (.int .i64 0)=eO m' hs:=by
      rw [Nat.add_zero,Ci _ _ (by omega),←hm',Ix,AA,if_pos hb]
     have hb':=hb
     unfold uM AB at hb'
     repeat' (first
      |(refine qz ?_;first
       |refine cl ?_ (hi:=by exact hY (S:=s.2.S) (mb:=mb) (k:=(s.1:Nat)) (q:=s.2.m.qp) hD' hmb' (by omega) rfl rfl rfl rfl rfl)
       |refine cl ?_ (hi:=by exact HO hB s.2.r (S:=s.2.S) rfl rfl rfl nL rfl)
       |refine cl ?_ (hi:=by exact l0 (p:=(fF B s.2.r).2.1) (e:=(fF B s.2.r).2.2) rfl rfl (by decide) nL rfl)
       |refine st ?_ (hle:=by rw [b7];omega) (hv:=hset)
       |refine rS (cs:=ti .i64 64 (aA m' s.1)) ?_ (hle:=by rw [b7];omega) (hc:=hw)
       |refine cl ?_ (hi:=by exact lq (S:=s.2.S) (mb:=mb) (k:=(s.1:Nat)) (b:=⟨aA m' s.1,m'.qp⟩) hD' hmb' (by omega) rfl rfl rfl rfl nA rfl))
      |refine zz ?_|refine zx (fun _=>?_) (fun _=>?_)|fail)
     all_goals exact ih (s.1+1,⟨m',aO s.2.S mb s.1 ⟨aA m' s.1,m'.qp⟩,((fF B s.2.r).2.1,true)⟩) _ _ _ (bm [0,1,2,3,4,5,6,7,8,9,10,11,12,13,14,15,16,17,18,19,20,21,22]) ⟨by show s.1+1≤6;omega,by show _=_;rw [hg0,hN],g3,g4,by show m'.qp=_;rw [hqp,g5]⟩ (by show 6-(s.1+1)<_;omega)
   · have hN:rP B mb s.2 s.1=⟨m',aO s.2.S mb s.1 ⟨aA m' s.1,m'.qp⟩,(fF B s.2.r).2⟩:=by
      unfold rP
      rw [hm',if_neg hb]
     have hset:(eO s.2.m hs).set (7+s.1*64+0) (.int .i64 ((aL s.2.S mb s.1 s.2.m.qp).2+(fF B s.2.r).1))=eO m' hs:=by
      rw [Nat.add_zero,Ci _ _ (by omega),←hm',Ix,AA,if_neg hb];rfl
     have hb':=hb
     unfold uM AB at hb'
     repeat' (first
      |(refine qz ?_;first
       |refine cl ?_ (hi:=by exact hY (S:=s.2.S) (mb:=mb) (k:=(s.1:Nat)) (q:=s.2.m.qp) hD' hmb' (by omega) rfl rfl rfl rfl rfl)
       |refine cl ?_ (hi:=by exact HO hB s.2.r (S:=s.2.S) rfl rfl rfl nL rfl)
       |refine st ?_ (hle:=by rw [b7];omega) (hv:=hset)
       |refine rS (cs:=ti .i64 64 (aA m' s.1)) ?_ (hle:=by rw [b7];omega) (hc:=hw)
       |refine cl ?_ (hi:=by exact lq (S:=s.2.S) (mb:=mb) (k:=(s.1:Nat)) (b:=⟨aA m' s.1,m'.qp⟩) hD' hmb' (by omega) rfl rfl rfl rfl nA rfl))
      |refine zz ?_|refine zx (fun _=>?_) (fun _=>?_)|fail)
     all_goals exact ih (s.1+1,⟨m',aO s.2.S mb s.1 ⟨aA m' s.1,m'.qp⟩,(fF B s.2.r).2⟩) _ _ _ (bm [0,1,2,3,4,5,6,7,8,9,10,11,12,13,14,15,16,17,18,19,20,21,22]) ⟨by show s.1+1≤6;omega,by show _=_;rw [hg0,hN],g3,g4,by show m'.qp=_;rw [hqp,g5]⟩ (by show 6-(s.1+1)<_;omega)
 · have e6:s.1=6:=by omega
   have ey:s.2=y:=by rw [←g2,e6,hy]
   subst ey
   repeat' (first|refine zz ?_|refine zx (fun _=>?_) (fun _=>?_)|fail)
   show aH _ _ _ _ _ _ _ _;refine kV [0,1,2,3,4,5,6,7,8,9,10,11,12,13,14,15,16,17,18,19,20,21,22] ?_
   all_goals rfl
end Go.Proofs.YtagpkhindehcbaaGreat
namespace Go.Xm
variable [az]
variable {P:Program} {ops:Array Oper} {nt nI:Nat} {al:bn} {hs:ak} {o:Oper} {l:List Oper} {L:List aI} {K:List Ab→bn→ak→Prop} {d:Nat}
theorem MK {t:TypeId} {a y:Operand} {s i off:Nat} {cs vs vs':List XC} {e:TypeId} {opn:Bool} {hs':ak}(hk:SK P ops nt L l al hs' fun bs=>K (⟨true,.none,[i]⟩::bs)) (hs2:off+s≤vs.length) (hv:vs.take off++cs++vs.drop (off+s)=vs') (ho:o.op = .store t a y:=by exact rfl) (ht:aU P t s:=by infer_instance) (hw:aw ops (rg al) o=some true:=by exact rfl) (hd:o.dst = .none:=by exact rfl)
 (ha:ai (rg al) a = .one (.ptr i off):=by exact rfl) (hy:db (ai (rg al) y)=some cs:=by exact rfl) (hi:hs[i]? = some (.cells vs e opn false):=by exact rfl) (hs1:s=cs.length:=by exact rfl) (hh:hs.set i (.cells vs' e opn false)=hs':=by first|(simp only [List.set_cons_succ,List.set_cons_zero];exact rfl)|exact rfl):SK P ops nt L (o::l) al hs K:=
 D3 ho hw hd ha hy hi hs1 hs2 hv hh hk
end Go.Xm
namespace Go.Proofs.YtagpkhindehcbaaGreat
open Go.Xm
variable [az]
def kQ:Mb:=⟨0,0,fun _=>(0,0),false,fun _=>0⟩
def o3:Nat→Bool:=fun _=>false
theorem uF:bC Tryz.prog 56 (eO kQ o3):=by
 have h:([.int .u8 0,.int .i64 0,.cplx .f64 0 0,.cplx .f64 0 0,.cplx .f64 0 0,.cplx .f64 0 0,.bool false]++(ti .i64 384 fun _=>0)++[.bool false,.bool false,.bool false,.bool false,.bool false,.bool false]:List XC)=eO kQ o3:=by
  unfold eO mC kQ
  simp only [←dM]
  rfl
 rw [←h]
 infer_instance
def q7 (h:Nat→Bool):List XC:=[.bool (h 0),.bool (h 1),.bool (h 2),.bool (h 3),.bool (h 4),.bool (h 5)]
theorem dj (m:Mb) (h:Nat→Bool):eO m h = .int .u8 m.kind :: .int .i64 m.qp::cn (m.v 0)::cn (m.v 1)::cn (m.v 2)::cn (m.v 3) :: .bool m.edge::(ti .i64 384 m.lev++q7 h):=by
 simp only [eO,mC,List.cons_append,q7]
theorem yS (m:Mb) (h:Nat→Bool) (z:Int):(eO m h).set 0 (.int .u8 z)=eO {m with kind:=z} h:=by
 rw [dj];exact(dj {m with kind:=z} h).symm
theorem LD (m:Mb) (h:Nat→Bool) (z:Int):(eO m h).set 1 (.int .i64 z)=eO {m with qp:=z} h:=by
 rw [dj];exact(dj {m with qp:=z} h).symm
theorem Gz (m:Mb) (h:Nat→Bool) (b:Bool):(eO m h).set 6 (.bool b)=eO {m with edge:=b} h:=by
 rw [dj];exact(dj {m with edge:=b} h).symm
def l7 (v:Nat→Int × Int) (k:Nat) (x:Int × Int):Nat→Int × Int:=fun j=>if j=k then x else v j
theorem Cj (m:Mb) (h:Nat→Bool) {k:Nat}(hk:k<4) (x:Int × Int):(eO m h).set (2+k) (cn x)=eO {m with v:=l7 m.v k x} h:=by
 rw [dj]
 refine Eq.trans ?_ (dj {m with v:=l7 m.v k x} h).symm
 match k,hk with
 | 0,_=>rfl
 | 1,_=>rfl
 | 2,_=>rfl
 | 3,_=>rfl
theorem LF (m:Mb) (h:Nat→Bool) (x:Int × Int):(eO m h).take 2++[cn x,cn x,cn x,cn x]++(eO m h).drop (2+4)=eO {m with v:=fun _=>x} h:=by
 rw [dj]
 exact(dj {m with v:=fun _=>x} h).symm
theorem ep (m:Mb) (h:Nat→Bool):(eO m h)[0]? = some (.int .u8 m.kind):=by rw [dj];rfl
theorem GB (m:Mb) (h:Nat→Bool) {k:Nat}(hk:k<4):(eO m h)[2+k]? = some (cn (m.v k)):=by
 rw [dj]
 match k,hk with
 | 0,_=>rfl
 | 1,_=>rfl
 | 2,_=>rfl
 | 3,_=>rfl
def Es (h:Nat→Bool) (j:Nat):Nat→Bool:=fun i=>if i<j then h i else false
theorem oD (m:Mb) (h:Nat→Bool) {j:Nat}(hj:j<6):(eO m (Es h j)).set (391+j) (.bool (h j))=eO m (Es h (j+1)):=by
 unfold eO
 rw [List.set_append_right _ _ (by rw [aF];omega),aF]
 rw [Nat.add_sub_cancel_left]
 refine congrArg (mC m ++ ·) ?_
 show(q7 (Es h j)).set j _=q7 (Es h (j+1))
 match j,hj with
 | 0,_=>rfl
 | 1,_=>rfl
 | 2,_=>rfl
 | 3,_=>rfl
 | 4,_=>rfl
 | 5,_=>rfl
theorem Jv (m:Mb) (h:Nat→Bool):eO m (Es h 6)=eO m h:=by
 rw [dj,dj];rfl
theorem GA (m:Mb) (h:Nat→Bool):eO m (Es h 0)=eO m o3:=by
 rw [dj,dj];rfl
theorem A1 {f:FuncId} {args args':List XV} {v:XV} [bB v] {L:List Int} {B:List Bool} {p p':Nat} {e e':Bool} {S S':bz} {l l':ak}(ls:List Nat) (hc:bt Tryz.prog f args (bI 1 L B p e::aR L::(dI S++l)) v (bI 1 L B p' e'::aR L::(dI S'++l')))
 {HS:ak}(hi:HS[0]? = some (bI 1 L B p e)) (hk:HS[1]? = some (aR L)) (hS:(HS.drop 2).take 20=dI S) (hnd:(0::1::(bQ++ls)).Nodup) (hv:ae (nth (0::1::(bQ++ls))) HS ls l) (hl:ls.length=l.length) (hl':l'.length=l.length) (hok:bE (22+l.length) l) (hok':bE (22+l.length) l') (hren:dO (nth (0::1::(bQ++ls))) l' l') (hro:eg l l'=true) (hle:l.length<100)
 (ha:eT (22+l.length) args) (hr:dE (nth (0::1::(bQ++ls))) args args') {HS':ak}(hh:bN HS (0::1::(bQ++ls)) (bI 1 L B p' e'::aR L::(dI S'++l'))=HS') (hbd:Nat.blt HS'.length Mem.bound=true) :
 aI.Sound Tryz.prog ⟨f,args',HS,v,HS',0::1::(bQ++ls)⟩:=by
 have ht:∀ j,2≤j→j<22→nth (0::1::(bQ++ls)) j=j:=mP 1 ls
 have ht':∀ j,nth ((0::1::(bQ++ls))++List.range' HS.length 0) j=nth (0::1::(bQ++ls)) j:=fun j=>by
  rw [List.range'_zero,List.append_nil]
 have ht2:nth ((0::1::(bQ++ls))++List.range' HS.length 0)=nth (0::1::(bQ++ls)):=funext ht'
 have hln:(bI 1 L B p e::aR L::(dI S++l)).length=22+l.length:=by simp;omega
 have hln':(bI 1 L B p' e'::aR L::(dI S'++l')).length=22+l.length:=by simp;omega
 refine b8 (0::1::(bQ++ls)) (0::1::(bQ++ls)) 0 hc hnd (.cons hi (.flat hk (oP S ht hS hv))) (by rw [hln];exact .cons (by simp [aj.cc,XC.ok];omega) (.flat (gk S _ (by omega) hok))) (by rw [hln'];exact .cons (by simp [aj.cc,XC.ok];omega) (.flat (gk S' _ (by omega) hok'))) (by simp;omega) (by rw [hln];exact ha) hr (bB.ok _) (bB.au _) ?_ ?_ ?_ hh hbd (.inl rfl)
 · rw [ht2]
   exact .cons rfl (.flat (qB S' ht hren))
 · simp only [eg,aj.live,aj.own,List.cons_append,List.nil_append,hro,Bool.and_true,Bool.true_and]
   simp
 · rw [hln]
   have h:122≤Mem.bound:=Nat.le_of_ble_eq_true rfl
   unfold Nat.blt
   rw [Nat.ble_eq]
   omega
theorem DU (L:List Int) (B:List Bool) (p:Nat) (e:Bool) (S:bz) (hD:gw S.cols S.rows) (mb:Int) (hmb:0≤mb∧mb<S.cols*S.rows) (m:Mb) :
 bt Tryz.prog 53 [.one (.ptr 2 0),.one (.int .i64 mb),.agg (mC m)] [bI 1 L B p e,aR L,dw (S),bR 4 8 12,ay 5 6 7 cM,aX cM,aZ cM,aY cM,ay 9 10 11 cZ,aX cZ,aZ cZ,aY cZ,ay 13 14 15 cP,aX cP,aZ cP,aY cP,ch 17 (S).cols (S).rows,.map (bg (S).M),.cells [.int .i64 (S).cols,.int .i64 (S).rows,.map 19,.map 20,.map 21] 171 false false,.map (ah (S).A),.map (ah (S).B),.map (ah (S).C)] (.tup []) [bI 1 L B p e,aR L,dw (bc S mb m.v),bR 4 8 12,ay 5 6 7 cM,aX cM,aZ cM,aY cM,ay 9 10 11 cZ,aX cZ,aZ cZ,aY cZ,ay 13 14 15 cP,aX cP,aZ cP,aY cP,ch 17 (bc S mb m.v).cols (bc S mb m.v).rows,.map (bg (bc S mb m.v).M),.cells [.int .i64 (bc S mb m.v).cols,.int .i64 (bc S mb m.v).rows,.map 19,.map 20,.map 21] 171 false false,.map (ah (bc S mb m.v).A),.map (ah (bc S mb m.v).B),.map (ah (bc S mb m.v).C)]:=by
 refine cO Tryz.func53 ?_
 repeat' (first
  |(refine qz ?_;first
   |refine rS (cs:=vt m.v) ?_ (hle:=by rw [aF];decide)
   |refine pH ?_
   |refine cl ?_ (hi:=by exact dk (M:=S.M) (cols:=S.cols) (rows:=S.rows) (i:=16) (j:=17) (k:=0) (v:=m.v 0) hD hmb (by decide) rfl rfl (by decide) nA rfl)
   |refine cl ?_ (hi:=by exact dk (M:=ba S.M S.cols mb 0 (m.v 0)) (cols:=S.cols) (rows:=S.rows) (i:=16) (j:=17) (k:=1) (v:=m.v 1) hD hmb (by decide) rfl rfl (by decide) nA rfl)
   |refine cl ?_ (hi:=by exact dk (M:=ba (ba S.M S.cols mb 0 (m.v 0)) S.cols mb 1 (m.v 1)) (cols:=S.cols) (rows:=S.rows) (i:=16) (j:=17) (k:=2) (v:=m.v 2) hD hmb (by decide) rfl rfl (by decide) nA rfl)
   |refine cl ?_ (hi:=by exact dk (M:=ba (ba (ba S.M S.cols mb 0 (m.v 0)) S.cols mb 1 (m.v 1)) S.cols mb 2 (m.v 2)) (cols:=S.cols) (rows:=S.rows) (i:=16) (j:=17) (k:=3) (v:=m.v 3) hD hmb (by decide) rfl rfl (by decide) nA rfl))
  |refine WX.loop ?_|refine WX.round ?_|refine zz ?_|refine zx (fun _=>?_) (fun _=>?_)|fail)
 show aH _ _ _ _ _ _ _ _;refine kV [0,1,2,3,4,5,6,7,8,9,10,11,12,13,14,15,16,17,18,19,20,21] ?_
 rfl
theorem zd {L:List Int} {B:List Bool} {r:Nat × Bool} {S:bz}(hD:gw S.cols S.rows) {mb:Int}(hmb:0≤mb∧mb<S.cols*S.rows) {m:Mb} {HS:ak}(hi:HS[0]? = some (bI 1 L B r.1 r.2)) (hk:HS[1]? = some (aR L)) (hS:(HS.drop 2).take 20=dI S) {HS':ak}(hh:bN HS (0::1::bQ) (bI 1 L B r.1 r.2::aR L::dI (bc S mb m.v))=HS') (hbd:Nat.blt HS'.length Mem.bound=true) :
 aI.Sound Tryz.prog ⟨53,[.one (.ptr 2 0),.one (.int .i64 mb),.agg (mC m)],HS,.tup [],HS',0::1::bQ⟩:=by
 have hc:=DU L B r.1 r.2 S hD mb hmb m
 have hc':bt Tryz.prog 53 [.one (.ptr 2 0),.one (.int .i64 mb),.agg (mC m)] (bI 1 L B r.1 r.2::aR L::(dI S++[])) (.tup []) (bI 1 L B r.1 r.2::aR L::(dI (bc S mb m.v)++[])):=by
  rw [List.append_nil,List.append_nil];exact hc
 have h:=A1 (S:=S) (S':=bc S mb m.v) (l:=[]) (l':=[]) (args':=[.one (.ptr 2 0),.one (.int .i64 mb),.agg (mC m)]) [] hc' hi hk hS (by decide) .nil rfl rfl .nil .nil .nil rfl (by decide) (.cons (by show 2<22;omega) (.flat (.flat .nil))) (.cons rfl (.flat (.flat .nil))) (HS':=HS') (by rw [List.append_nil,List.append_nil];exact hh) hbd
 rw [List.append_nil]at h
 exact h
theorem Dm {L:List Int} {B:List Bool}(hB:dG L B) {x:i_} {hs:Nat→Bool} {mb:Int}(hD:gw x.S.cols x.S.rows) (hmb:0≤mb∧mb<x.S.cols*x.S.rows) (hq : -1000000≤x.m.qp∧x.m.qp≤1000000) {HS:ak}(hi:HS[0]? = some (bI 1 L B x.r.1 x.r.2)) (hk:HS[1]? = some (aR L)) (hS:(HS.drop 2).take 20=dI x.S) (h23:HS[23]? = some (.cells (eO x.m hs) 56 false false)) {HS':ak}(hh:bN HS (0::1::(bQ++[23])) (bI 1 L B (iJ B mb x 6).r.1 (iJ B mb x 6).r.2::aR L::(dI (iJ B mb x 6).S++[.cells (eO (iJ B mb x 6).m hs) 56 false false]))=HS') (hbd:Nat.blt HS'.length Mem.bound=true) :
 aI.Sound Tryz.prog ⟨68,[.one (.ptr 2 0),.one (.ptr 0 0),.one (.int .i64 mb),.one (.ptr 23 0)],HS,.tup [],HS',0::1::(bQ++[23])⟩:=by
 obtain⟨y,hy⟩:∃ y,iJ B mb x 6=y:=⟨_,rfl⟩
 have hc:=AF hB x hs mb hD hmb hq
 rw [hy]at hc hh
 obtain⟨o1,ho1⟩:∃ o,aj.cells (eO x.m hs) 56 false false=o:=⟨_,rfl⟩
 obtain⟨o2,ho2⟩:∃ o,aj.cells (eO y.m hs) 56 false false=o:=⟨_,rfl⟩
 have f1:dc o1:=ho1 ▸ inferInstance
 have f2:dc o2:=ho2 ▸ inferInstance
 have hro:eg [o1] [o2]=true:=by subst ho1 ho2;simp [eg,aj.live,aj.own]
 rw [ho1,ho2]at hc
 rw [ho2]at hh
 rw [ho1]at h23
 exact A1 (S:=x.S) (S':=y.S) (l:=[o1]) (l':=[o2]) [23] hc hi hk hS (by decide) (.flat h23 .nil) rfl rfl (.flat .nil) (.flat .nil) (.flat .nil) hro (show 1<100 by omega) (.cons (by show 2<23;omega) (.cons (by show 0<23;omega) (.flat (.cons (by show 22<23;omega) .nil)))) (.cons rfl (.cons rfl (.flat (.cons rfl .nil)))) hh hbd
end Go.Proofs.YtagpkhindehcbaaGreat
namespace Go.Xm
variable [az]
variable {P:Program}
theorem IN {m m':Mem}(h:pZ m m'):m.b_→∀ j,m.n≤j→j<m'.n→0<(m'.fV j).ver:=by
 induction h with
 | same m=>intro _ j h1 h2;omega
 | put m i o=>intro _ j h1 h2;rw [Mem.fE]at h2;omega
 | @push m m' o hp=>
   intro _ j h1 h2
   obtain⟨_,k2,k3,_⟩:=Mem.bD hp
   obtain rfl:j=m.n:=by omega
   rw [k3]
   exact Nat.one_pos
 | @trans a b c hab hbc ih1 ih2=>
   intro hf j h1 h2
   obtain⟨m1,f1⟩:=hab.mono hf
   obtain⟨m2,_⟩:=hbc.mono f1
   by_cases hj:j<b.n
   · exact Nat.lt_of_lt_of_le (ih1 hf j h1 hj) (m2.2 j).1
   · exact ih2 f1 j (by omega) h2
theorem y7 {m m':Mem}(h:pZ m m') (hf:m.b_) (hv:∀ j,(m'.fV j).ver=(m.fV j).ver):gJ m m':=fun hb=>by
 obtain⟨h1,h2⟩:=h.mono hf
 have hn:¬m.n<m'.n:=fun hlt=>by
  have:=IN h hf m.n (Nat.le_refl _) hlt
  rw [hv,hf _ (Nat.le_refl _)]at this
  omega
 have:=h1.1
 refine⟨by omega,by omega,fun j hj hl => .inr ⟨by omega,?_⟩⟩
 show(m.fV j).obj=(m'.fV j).obj
 rw [(h1.2 j).2 (hv j)]
def fB:List Oper→List Ab→Bool
 | o::l,b::k=>(mO o || b.ws.isEmpty) && fB l k
 | _,_=>true
theorem nB:∀(l:List Oper) (k:List Ab),fB l k=true→∀(i:Nat) (o:Oper) (b:Ab),l[i]? = some o→k[i]? = some b→mO o=true∨b.ws = []
 | o::l,b::k,h,0,o',b',ho,hb=>by
   simp only [List.getElem?_cons_zero,Option.some.injEq]at ho hb
   subst ho hb
   simp only [fB,Bool.and_eq_true,Bool.or_eq_true,List.isEmpty_iff]at h
   exact h.1
 | o::l,b::k,h,i+1,o',b',ho,hb=>by
   simp only [fB,Bool.and_eq_true]at h
   exact nB l k h.2 i o' b' (by simpa using ho) (by simpa using hb)
 | [],_,_,i,_,_,ho,_=>by simp at ho
 | _::_,[],_,i,_,_,_,hb=>by simp at hb
section
variable {O:df} {P:Program} {ops:Array Oper} {nt nI:Nat} {tr:List (Mem × Out)} {rs:Nat→T XV} {ms:Nat→Mem} {ds:Nat→Out}
theorem wN (hO : aN P O) (hT:Trace O P ops nt ops.toList tr rs ms ds) (h0f:(ms 0).b_) (hb:(ms 0).n≤Mem.bound) {ab:List Ab}(hno:fB ops.toList ab=true) (ht:E3 tr ab) {bs:List Nat} {f:Nat}(h:lD ops bs ab f=true):f<ops.size∧lh ops bs tr f=true:=by
 have key:∀ i,i≤ops.size→gJ (ms 0) (ms i)∧(ms i).b_:=by
  intro i
  induction i with
  | zero=>exact fun _=>⟨.same _,h0f⟩
  | succ i ih=>
    intro hi
    obtain⟨h1,h2⟩:=ih (by omega)
    obtain⟨o,ho,_,hx,_,hm⟩:=aV hT (show i<ops.size by omega)
    rw [hm]
    refine⟨h1.trans ?_,((jw hO hx).mono h2).2⟩
    obtain⟨_,_,hti,_⟩:=aV hT (show i<ops.size by omega)
    obtain⟨b,hbi,_,_,k3⟩:=cz.get? ht i _ hti
    rcases nB ops.toList ab hno i o b (by simpa using ho) hbi with hn|hn
    · exact Bk hn hx
    · exact y7 (jw hO hx) h2 (fun j=>k3 j (by rw [hn];simp))
 unfold lD at h
 split at h
 · rename_i o bf hof hbf
   split at h
   · rename_i t d hop hg hd
     have hf:f<ops.size:=(Array.getElem?_eq_some_iff.1 hof).1
     obtain⟨o',ho',htf,hxf,_,_⟩:=aV hT hf
     obtain rfl:o=o':=by rw [hof]at ho';exact Option.some.inj ho'
     obtain⟨_,_,ht0,_⟩:=aV hT (show 0<ops.size by omega)
     obtain⟨hkr,hfr⟩:=key f (by omega)
     obtain⟨bf',hbf',k1,k2,k3⟩:=cz.get? ht f _ htf
     obtain rfl:bf=bf':=by rw [hbf]at hbf';exact Option.some.inj hbf'
     obtain⟨zs,_,hp,_⟩:=gD hop hg hxf
     have hn:(ms f).n∈bf.ws:=by
      refine Classical.byContradiction fun hn=>?_
      have e1:=k3 _ hn
      simp only at e1
      obtain⟨_,_,e2,_⟩:=Mem.bD hp
      rw [e2,hfr _ (Nat.le_refl _)]at e1
      cases e1
     have hl:tr.length=ab.length:=cz.length ht
     simp only [Bool.and_eq_true]at h
     obtain⟨hlk,hdy⟩:=h
     refine⟨hf,?_⟩
     unfold lh
     rw [hof,ht0,htf]
     simp only [hop,hg,hd,Bool.and_eq_true]
     refine⟨⟨?_,?_⟩,?_⟩
     · refine List.all_eq_true.2 fun j hj=>?_
       obtain⟨_,_,k⟩:=hkr hb
       have hj':=List.mem_range.1 hj
       cases hlv:((ms f).get j).live with
       | false=>rfl
       | true=>
         rcases k j hj' hlv with k|⟨k,ke⟩
         · simp [k]
         · simp [k,ke,hlv]
     · refine List.all_eq_true.2 fun i hi=>?_
       have h1:=List.all_eq_true.1 hlk i hi
       have hi':=List.mem_range.1 hi
       obtain⟨oi,hoi,hti,_⟩:=aV hT hi'
       obtain⟨bi,hbi,j1,j2,_⟩:=cz.get? ht i _ hti
       rw [hoi,hbi]at h1
       rw [hoi,hti]
       simp only [Bool.or_eq_true,Bool.not_eq_true']at h1 ⊢
       rcases h1 with h1|h1|h1
       · exact .inl h1
       · refine .inr (.inl ?_)
         simp only [Bool.or_eq_false_iff]at h1 ⊢
         refine⟨h1.1,?_⟩
         refine decide_eq_false fun hc=>?_
         simp only at j2
         rw [hc]at j2
         have:=h1.2
         rw [←j2]at this
         simp only at this
         rw [List.contains_iff_mem.2 hn]at this
         cases this
       · refine .inr (.inr (List.all_eq_true.2 fun e he=>?_))
         have h2:=List.all_eq_true.1 h1 e he
         have he':=List.mem_range.1 he
         obtain⟨_,_,hte,_⟩:=aV hT (show e<ops.size by omega)
         obtain⟨be,hbe,q1,_,_⟩:=cz.get? ht e _ hte
         rw [hbe]at h2
         rw [hte]
         simp only at q1 h2 ⊢
         rw [q1];exact h2
     · unfold qV
       rw [List.all_eq_true]at hdy ⊢
       intro i hi
       have hi':=hdy i (by rw [←hl];exact hi)
       split
       · rfl
       · rename_i mi di hdi
         obtain⟨bi,hb',h1,h2,_⟩:=cz.get? ht i _ hdi
         simp only at h1 h2
         rw [hb']at hi'
         simp only [Bool.or_eq_true]at hi' ⊢
         rw [h1,h2]
         rcases hi' with hi'|hi'
         · exact .inl hi'
         · refine .inr (List.all_eq_true.2 fun e he=>?_)
           have he':=List.all_eq_true.1 hi' e (by rw [←hl];exact he)
           split
           · rfl
           · rename_i me de hde
             obtain⟨be,hbe,q1,q2,q3⟩:=cz.get? ht e _ hde
             simp only at q1 q2 q3
             rw [hbe]at he'
             unfold oF
             unfold w8 at he'
             rw [h1,h2,q1]
             simp only [Bool.or_eq_true,Bool.and_eq_true]at he' ⊢
             rcases he' with he'|⟨ha,hb'⟩
             · exact .inl he'
             · refine .inr ⟨ha,?_⟩
               cases hf:bi.fp with
               | none=>rfl
               | some fp=>
                 rw [hf]at hb'
                 simp only [Bool.or_eq_true]at hb' ⊢
                 rcases hb' with hb'|hb'
                 · exact .inl hb'
                 · refine .inr ?_
                   have:fp∉be.ws:=by simpa using hb'
                   rw [q3 fp this]
                   simp
   · cases h
 · cases h
theorem WX.IT (hO:aN P O) (hP:P.follows .mixedOrders=true) {id f:Nat} {al al':bn} {hs hs':ak} {bs:List Ab} {K:cR}(hst:bK ops nt (fx ops.toList)=true) (h:kb O P ops nt ops.toList al hs bs al' hs') (hdy:lD ops (fx ops.toList) bs f=true) (hno:fB ops.toList bs=true)
 (hk:K .normal al' hs'):WX P nt nI (.code (.region id ops true)) al hs K:=by
 intro βI mI wI hn m hm β w a Q hr hw hq
 obtain⟨r,hrr⟩:=k_ (rg al) nt hr.small hr.out
 obtain⟨tr,r',m',h1,h2,h3,h4⟩:=jZ hr.small h hm hrr
 obtain⟨rs,ms,ds,hT,t1,t2,_,_⟩:=iH h1
 have hfl:=wN hO hT (by rw [t2];exact hm.fresh) (by rw [t2];exact hm.bnd) hno h4 hdy
 have hx:jn O P ops nt r m=some (r',m'):=by
  refine kJ ?_
  unfold gE h_
  rw [if_pos hst,h1]
  simp only []
  by_cases hd:gU (fx ops.toList) tr=true
  · rw [if_pos hd]
  · rw [if_neg hd]
    simp only []
    unfold lu
    rw [if_pos hst,h1]
    simp only []
    rw [if_pos (List.any_eq_true.2 ⟨f,List.mem_range.2 hfl.1,hfl.2⟩)]
 have e:(r.get .undef)=rg al:=funext hrr
 have e':(r'.get .undef)=rg al':=funext h2
 refine oU hO hP hx (by unfold jz;rw [e];exact hr) hw.rel fun a' β' w' k1 k2 k3=>?_
 unfold jz at k1
 rw [e']at k1
 exact hq .normal al' hs' m' hk h3 a' β' w' k1 k2 (hw.trans k3)
theorem WX.IU (f:Nat) {K:cR} {al:bn} {hs:ak} {id:Nat}(hP:P.follows .mixedOrders=true) (hst:bK ops nt (fx ops.toList)=true) (h:SK P ops nt [] ops.toList al hs fun bs al' hs'=>(lD ops (fx ops.toList) bs f && fB ops.toList bs)=true∧K .normal al' hs'):WX P nt nI (.code (.region id ops true)) al hs K:=by
 obtain⟨Lf,h1,h2,h3,bs,al',hs',h4,h5,h6⟩:=h
 exact WX.IT (kD fun e he=>(h2 e he).resolve_left (by simp)) hP hst h4 (by simp only [Bool.and_eq_true]at h5;exact h5.1) (by simp only [Bool.and_eq_true]at h5;exact h5.2) h6
theorem H8 {id:Nat}(f:Nat) {al:bn} {hs:ak} {K:cR}(h:SK P ops nt [] ops.toList al hs fun bs al' hs'=>(lD ops (fx ops.toList) bs f && fB ops.toList bs)=true∧K .normal al' hs') (hP:P.follows .mixedOrders=true:=by kernel_rfl) (hst:bK ops nt (fx ops.toList)=true:=by kernel_rfl):WX P nt nI (.code (.region id ops true)) al hs K:=
 WX.IU f hP hst h
end
end Go.Xm
namespace Go.Proofs.YtagpkhindehcbaaGreat
open Go.Xm
variable [az]
theorem nD {m:Mb} {b:Bool}(ha:alone m=b) {HS:ak}(hb:Nat.blt HS.length Mem.bound=true):aI.Sound Tryz.prog ⟨13,[.agg (mC m)],HS,.one (.bool b),HS,[]⟩:=by
 subst ha;exact nC hb
def dR (m:Mb) (k:Nat) (l:Nat→Int):Mb:={m with lev:=fun i=>if k*64≤i∧i<k*64+64 then l (i-k*64)else m.lev i}
theorem AN (m:Mb) {k:Nat}(hk:k<6) (l:Nat→Int):(mC m).take (7+k*64)++ti .i64 64 l++(mC m).drop (7+k*64+64)=mC (dR m k l):=by
 have h1:∀ m:Mb,mC m=(.int .u8 m.kind :: .int .i64 m.qp::cn (m.v 0)::cn (m.v 1)::cn (m.v 2)::cn (m.v 3) :: .bool m.edge::[])++ti .i64 384 m.lev:=fun m=>rfl
 have hm:(dR m k l).kind=m.kind∧(dR m k l).qp=m.qp∧(dR m k l).v=m.v∧(dR m k l).edge=m.edge:=⟨rfl,rfl,rfl,rfl⟩
 rw [h1 m,h1 (dR m k l),hm.1,hm.2.1,hm.2.2.1,hm.2.2.2]
 rw [List.take_append,List.drop_append]
 simp only [List.length_cons,List.length_nil]
 rw [List.take_of_length_le (by simp only [List.length_cons,List.length_nil];omega),List.drop_of_length_le (by simp only [List.length_cons,List.length_nil];omega),List.nil_append,List.append_assoc,List.append_assoc]
 congr 1
 apply List.ext_getElem?
 intro i
 rw [show 7+k*64-(0+1+1+1+1+1+1+1)=k*64 by omega,show 7+k*64+64-(0+1+1+1+1+1+1+1)=k*64+64 by omega]
 by_cases hi:i<384
 · rw [gP (f:=(dR m k l).lev) hi]
   by_cases h1:i<k*64
   · rw [List.getElem?_append_left (by rw [List.length_take,aE];omega),List.getElem?_take_of_lt h1,gP hi]
     show _=some (XC.int .i64 (if k*64≤i∧i<k*64+64 then _ else _))
     rw [if_neg (by omega)]
   · rw [List.getElem?_append_right (by rw [List.length_take,aE];omega),List.length_take,aE,show min (k*64) 384=k*64 by omega]
     by_cases h2:i<k*64+64
     · rw [List.getElem?_append_left (by rw [aE];omega),gP (by omega)]
       show _=some (XC.int .i64 (if k*64≤i∧i<k*64+64 then _ else _))
       rw [if_pos (by omega)]
     · rw [List.getElem?_append_right (by rw [aE];omega),aE,List.getElem?_drop,gP (by omega)]
       show _=some (XC.int .i64 (if k*64≤i∧i<k*64+64 then _ else _))
       rw [if_neg (by omega),show k*64+64+(i-k*64-64)=i by omega]
 · have e1:(ti .i64 384 (dR m k l).lev)[i]? = none:=List.getElem?_eq_none (by rw [aE];omega)
   rw [e1,List.getElem?_eq_none]
   rw [List.length_append,List.length_append,List.length_take,List.length_drop,aE,aE];omega
theorem wY (m:Mb) {i:Nat}(hi:i<384):(mC m)[7+i]? = some (.int .i64 (m.lev i)):=by
 rw [Nat.add_comm]
 show(ti .i64 384 m.lev)[i]? = _
 exact gP hi
noncomputable def km (S:bz) (mb:Int) (k:Nat) (m:Mb) (rest:Nat→Int):Option (bz × Mb):=
 if alone m=true then
  (if m.edge=true then kr (d8 (dt m.edge (aL S mb k m.qp).1) rest) (cA S mb k m.qp)else some (d8 (dt m.edge (aL S mb k m.qp).1) rest)).map fun l=>
    (aO S mb k ⟨cW l 0 (m.lev (k*64)),m.qp⟩,dR m k (cW l 0 (m.lev (k*64))))
 else some (S,dR m k (d8 0 rest))
theorem tL {edge:Bool} {frm o:Int}(ho:dt edge frm=o) {HS:ak}(hb:Nat.blt HS.length Mem.bound=true):aI.Sound Tryz.prog ⟨71,[.one (.bool edge),.one (.int .u8 frm)],HS,.one (.int .u8 o),HS,[]⟩:=by
 subst ho;exact jI hb
theorem Gh {m:Mb} {b:Bool}(h:m.edge=b):(mC m)[6]? = some (.bool b):=congrArg (fun b=>some (XC.bool b)) h
section
variable {S:bz} {mb:Int} {k:Nat} {m:Mb} {rest:Nat→Int}
theorem M8 (hk:k<6) (ha:alone m=false) :
 bt Tryz.prog 38 [.one (.ptr 2 0),.one (.int .i64 mb),.one (.int .i64 (k:Nat)),.one (.ptr 0 0),.agg (ti .i64 64 rest)] [lF m,.dead,dw (S),bR 4 8 12,ay 5 6 7 cM,aX cM,aZ cM,aY cM,ay 9 10 11 cZ,aX cZ,aZ cZ,aY cZ,ay 13 14 15 cP,aX cP,aZ cP,aY cP,ch 17 (S).cols (S).rows,.map (bg (S).M),.cells [.int .i64 (S).cols,.int .i64 (S).rows,.map 19,.map 20,.map 21] 171 false false,.map (ah (S).A),.map (ah (S).B),.map (ah (S).C)] (.one (.bool true)) [lF (dR m k (d8 0 rest)),.dead,dw (S),bR 4 8 12,ay 5 6 7 cM,aX cM,aZ cM,aY cM,ay 9 10 11 cZ,aX cZ,aZ cZ,aY cZ,ay 13 14 15 cP,aX cP,aZ cP,aY cP,ch 17 (S).cols (S).rows,.map (bg (S).M),.cells [.int .i64 (S).cols,.int .i64 (S).rows,.map 19,.map 20,.map 21] 171 false false,.map (ah (S).A),.map (ah (S).B),.map (ah (S).C)]:=by
 refine cO Tryz.func38 ?_
 repeat' (first
  |(refine qz ?_;first
   |refine fy ?_ (hle:=by rw [aF])
   |refine fy ?_ (hle:=by rw [aE])
   |refine cl ?_ (hi:=by exact nD ha rfl)
   |refine cl ?_ (hi:=by exact qD (.inl rfl) rfl)
   |refine MK ?_ (by rw [aF];omega) (AN m hk (d8 0 rest)) (hs1:=by rw [aE]))
  |refine zz ?_|refine zx (fun _=>?_) (fun _=>?_)|fail)
 show aH _ _ _ _ _ _ _ _;refine kV [0,1,2,3,4,5,6,7,8,9,10,11,12,13,14,15,16,17,18,19,20,21] ?_
 rfl
theorem M9 (hD:gw S.cols S.rows) (hmb:0≤mb∧mb<S.cols*S.rows) (hk:k<6) (ha:alone m=true) (he:m.edge=false) {o:Int}(ho:dt false (aL S mb k m.qp).1=o) {l:Nat→Int}(hl:cW (d8 o rest) 0 (m.lev (k*64))=l) :
 bt Tryz.prog 38 [.one (.ptr 2 0),.one (.int .i64 mb),.one (.int .i64 (k:Nat)),.one (.ptr 0 0),.agg (ti .i64 64 rest)] [lF m,.dead,dw (S),bR 4 8 12,ay 5 6 7 cM,aX cM,aZ cM,aY cM,ay 9 10 11 cZ,aX cZ,aZ cZ,aY cZ,ay 13 14 15 cP,aX cP,aZ cP,aY cP,ch 17 (S).cols (S).rows,.map (bg (S).M),.cells [.int .i64 (S).cols,.int .i64 (S).rows,.map 19,.map 20,.map 21] 171 false false,.map (ah (S).A),.map (ah (S).B),.map (ah (S).C)] (.one (.bool true)) [lF (dR m k l),.dead,dw ((aO S mb k ⟨l,m.qp⟩)),bR 4 8 12,ay 5 6 7 cM,aX cM,aZ cM,aY cM,ay 9 10 11 cZ,aX cZ,aZ cZ,aY cZ,ay 13 14 15 cP,aX cP,aZ cP,aY cP,ch 17 ((aO S mb k ⟨l,m.qp⟩)).cols ((aO S mb k ⟨l,m.qp⟩)).rows,.map (bg ((aO S mb k ⟨l,m.qp⟩)).M),.cells [.int .i64 ((aO S mb k ⟨l,m.qp⟩)).cols,.int .i64 ((aO S mb k ⟨l,m.qp⟩)).rows,.map 19,.map 20,.map 21] 171 false false,.map (ah ((aO S mb k ⟨l,m.qp⟩)).A),.map (ah ((aO S mb k ⟨l,m.qp⟩)).B),.map (ah ((aO S mb k ⟨l,m.qp⟩)).C)]:=by
 subst hl
 have hor:=ej false (aL S mb k m.qp).1
 rw [ho]at hor
 have hE:=Gh he
 have hq:(mC m)[1]? = some (.int .i64 m.qp):=rfl
 have hL:=wY m (i:=k*64) (by omega)
 refine cO Tryz.func38 ?_
 repeat' (first
  |(refine qz ?_;first
   |refine fy ?_ (hle:=by rw [aF])
   |refine fy ?_ (hle:=by rw [aE])
   |refine ld (hc:=hE) ?_
   |refine ld (hc:=hL) ?_
   |refine cl ?_ (hi:=by exact nD ha rfl)
   |refine cl ?_ (hi:=by exact hY (S:=S) hD hmb (by omega) rfl rfl rfl rfl rfl)
   |refine cl ?_ (hi:=by exact tL ho rfl)
   |refine cl ?_ (hi:=by exact qD hor rfl)
   |refine MK ?_ (by rw [aF];omega) (AN m hk (cW (d8 o rest) 0 (m.lev (k*64)))) (hs1:=by rw [aE])
   |refine cl ?_ (hi:=by exact lq (S:=S) (b:=⟨cW (d8 o rest) 0 (m.lev (k*64)),m.qp⟩) hD hmb (by omega) rfl rfl rfl rfl nA rfl))
  |refine H8 (id:=5) 8 ?_|refine zz ?_|refine zx (fun _=>?_) (fun _=>?_)|fail)
 show aH _ _ _ _ _ _ _ _;refine kV [0,1,2,3,4,5,6,7,8,9,10,11,12,13,14,15,16,17,18,19,20,21] ?_
 rfl
theorem M_ (hD:gw S.cols S.rows) (hmb:0≤mb∧mb<S.cols*S.rows) (hk:k<6) (ha:alone m=true) (he:m.edge=true) {o:Int}(ho:dt true (aL S mb k m.qp).1=o) (hb1:∀ i,-1000000≤d8 o rest i∧d8 o rest i≤1000000) (hb2:∀ i,-1000000≤cA S mb k m.qp i∧cA S mb k m.qp i≤1000000) {l2:Nat→Int}(hm:kr (d8 o rest) (cA S mb k m.qp)=some l2) {l:Nat→Int}(hl:cW l2 0 (m.lev (k*64))=l) :
 bt Tryz.prog 38 [.one (.ptr 2 0),.one (.int .i64 mb),.one (.int .i64 (k:Nat)),.one (.ptr 0 0),.agg (ti .i64 64 rest)] [lF m,.dead,dw (S),bR 4 8 12,ay 5 6 7 cM,aX cM,aZ cM,aY cM,ay 9 10 11 cZ,aX cZ,aZ cZ,aY cZ,ay 13 14 15 cP,aX cP,aZ cP,aY cP,ch 17 (S).cols (S).rows,.map (bg (S).M),.cells [.int .i64 (S).cols,.int .i64 (S).rows,.map 19,.map 20,.map 21] 171 false false,.map (ah (S).A),.map (ah (S).B),.map (ah (S).C)] (.one (.bool true)) [lF (dR m k l),.dead,dw ((aO S mb k ⟨l,m.qp⟩)),bR 4 8 12,ay 5 6 7 cM,aX cM,aZ cM,aY cM,ay 9 10 11 cZ,aX cZ,aZ cZ,aY cZ,ay 13 14 15 cP,aX cP,aZ cP,aY cP,ch 17 ((aO S mb k ⟨l,m.qp⟩)).cols ((aO S mb k ⟨l,m.qp⟩)).rows,.map (bg ((aO S mb k ⟨l,m.qp⟩)).M),.cells [.int .i64 ((aO S mb k ⟨l,m.qp⟩)).cols,.int .i64 ((aO S mb k ⟨l,m.qp⟩)).rows,.map 19,.map 20,.map 21] 171 false false,.map (ah ((aO S mb k ⟨l,m.qp⟩)).A),.map (ah ((aO S mb k ⟨l,m.qp⟩)).B),.map (ah ((aO S mb k ⟨l,m.qp⟩)).C)]:=by
 subst hl
 have hor:=ej true (aL S mb k m.qp).1
 rw [ho]at hor
 have hE:=Gh he
 have hL:=wY m (i:=k*64) (by omega)
 refine cO Tryz.func38 ?_
 repeat' (first
  |(refine qz ?_;first
   |refine fy ?_ (hle:=by rw [aF])
   |refine fy ?_ (hle:=by rw [aE])
   |refine ld (hc:=hE) ?_
   |refine ld (hc:=hL) ?_
   |refine cl ?_ (hi:=by exact nD ha rfl)
   |refine cl ?_ (hi:=by exact hY (S:=S) hD hmb (by omega) rfl rfl rfl rfl rfl)
   |refine cl ?_ (hi:=by exact n9 (S:=S) hD hmb (by omega) rfl rfl rfl rfl rfl)
   |refine cl ?_ (hi:=by exact tL ho rfl)
   |refine cl ?_ (hi:=by exact qD hor rfl)
   |refine cl ?_ (hi:=by exact Ce hb1 hb2 hm rfl)
   |refine i9 ?_ (hs1:=by rw [aE]) (hs2:=by rw [aE])
   |refine MK ?_ (by rw [aF];omega) (AN m hk (cW l2 0 (m.lev (k*64)))) (hs1:=by rw [aE])
   |refine cl ?_ (hi:=by exact lq (S:=S) (b:=⟨cW l2 0 (m.lev (k*64)),m.qp⟩) hD hmb (by omega) rfl rfl rfl rfl nA rfl))
  |refine H8 (id:=5) 8 ?_|refine H8 (id:=7) 16 ?_|refine zz ?_|refine zx (fun _=>?_) (fun _=>?_)|fail)
 show aH _ _ _ _ _ _ _ _;refine kV [0,1,2,3,4,5,6,7,8,9,10,11,12,13,14,15,16,17,18,19,20,21] ?_
 rfl
theorem Na (hD:gw S.cols S.rows) (hmb:0≤mb∧mb<S.cols*S.rows) (hk:k<6) (ha:alone m=true) (he:m.edge=true) {o:Int}(ho:dt true (aL S mb k m.qp).1=o) (hb1:∀ i,-1000000≤d8 o rest i∧d8 o rest i≤1000000) (hb2:∀ i,-1000000≤cA S mb k m.qp i∧cA S mb k m.qp i≤1000000) (hm:kr (d8 o rest) (cA S mb k m.qp)=none) :
 bt Tryz.prog 38 [.one (.ptr 2 0),.one (.int .i64 mb),.one (.int .i64 (k:Nat)),.one (.ptr 0 0),.agg (ti .i64 64 rest)] [lF m,.dead,dw (S),bR 4 8 12,ay 5 6 7 cM,aX cM,aZ cM,aY cM,ay 9 10 11 cZ,aX cZ,aZ cZ,aY cZ,ay 13 14 15 cP,aX cP,aZ cP,aY cP,ch 17 (S).cols (S).rows,.map (bg (S).M),.cells [.int .i64 (S).cols,.int .i64 (S).rows,.map 19,.map 20,.map 21] 171 false false,.map (ah (S).A),.map (ah (S).B),.map (ah (S).C)] (.one (.bool false)) [lF m,.dead,dw (S),bR 4 8 12,ay 5 6 7 cM,aX cM,aZ cM,aY cM,ay 9 10 11 cZ,aX cZ,aZ cZ,aY cZ,ay 13 14 15 cP,aX cP,aZ cP,aY cP,ch 17 (S).cols (S).rows,.map (bg (S).M),.cells [.int .i64 (S).cols,.int .i64 (S).rows,.map 19,.map 20,.map 21] 171 false false,.map (ah (S).A),.map (ah (S).B),.map (ah (S).C)]:=by
 have hor:=ej true (aL S mb k m.qp).1
 rw [ho]at hor
 have hE:=Gh he
 have hL:=wY m (i:=k*64) (by omega)
 refine cO Tryz.func38 ?_
 repeat' (first
  |(refine qz ?_;first
   |refine fy ?_ (hle:=by rw [aF])
   |refine fy ?_ (hle:=by rw [aE])
   |refine ld (hc:=hE) ?_
   |refine ld (hc:=hL) ?_
   |refine cl ?_ (hi:=by exact nD ha rfl)
   |refine cl ?_ (hi:=by exact hY (S:=S) hD hmb (by omega) rfl rfl rfl rfl rfl)
   |refine cl ?_ (hi:=by exact n9 (S:=S) hD hmb (by omega) rfl rfl rfl rfl rfl)
   |refine cl ?_ (hi:=by exact tL ho rfl)
   |refine cl ?_ (hi:=by exact qD hor rfl)
   |refine cl ?_ (hi:=by exact Ce hb1 hb2 hm rfl))
  |refine H8 (id:=5) 8 ?_|refine H8 (id:=7) 16 ?_|refine zz ?_|refine zx (fun _=>?_) (fun _=>?_)|fail)
 show aH _ _ _ _ _ _ _ _;refine kV [0,1,2,3,4,5,6,7,8,9,10,11,12,13,14,15,16,17,18,19,20,21] ?_
 rfl
end
end Go.Proofs.YtagpkhindehcbaaGreat
