/-
  A part of the proof: Heads, Fits, Sta2, Sta3, TabS, EvLaw, Blocks0, Quiet.
-/
import Derived.Test.YtagpkhindehcbaaGreatKbI
import Derived.Test.YtagpkhindehcbaaGreatKbQ
set_option linter.unusedVariables false
set_option linter.unusedSectionVars false
set_option linter.unusedSimpArgs false
namespace Go.Proofs.YtagpkhindehcbaaGreat
open Go.Xm
variable [aC]
structure Hd where
 cols:Int
 rows:Int
 w:Bool
 a:Nat→Int
 b:Nat→Int
def dY (h:Hd):List XC := .bool h.w::(ti .u8 64 h.a++ti .u8 64 h.b)
def gC (h:Hd):List XC := .int .i64 h.cols :: .int .i64 h.rows::dY h
theorem iy (h:Hd):(dY h).length=129:=by simp [dY,bc]
theorem bn (h:Hd):(gC h).length=131:=by simp [gC,iy]
theorem nX (h:Hd):(dY h).all XC.shut=true:=by simp [dY,ti,XC.shut]
theorem h_ (h:Hd):(gC h).all XC.shut=true:=by simp [gC,dY,ti,XC.shut]
theorem E4 (h:Hd) {i:Nat}(hi:i<64):(dY h)[1+i]? = some (.int .u8 (h.a i)):=by
 unfold dY
 rw [Nat.add_comm,List.getElem?_cons_succ,List.getElem?_append_left (by rw [bc];exact hi),jW hi]
theorem E5 (h:Hd) {i:Nat}(hi:i<64):(dY h)[65+i]? = some (.int .u8 (h.b i)):=by
 unfold dY
 rw [show 65+i=(64+i)+1 by omega,List.getElem?_cons_succ,List.getElem?_append_right (by rw [bc];omega),bc,show 64+i-64=i by omega,jW hi]
instance GA (h:Hd):bG (.agg (gC h)):=fK (h_ h)
instance Kt (h:Hd) (e:TypeId) (a b:Bool):dT (.cells (dY h) e a b):=hZ (nX h)
instance K8 (h:Hd) (e:TypeId) (a b:Bool):dT (.cells (gC h) e a b):=hZ (h_ h)
structure tv (h:Hd):Prop where
 dims:gG h.cols h.rows
 yes:h.w=true→∀ i,i<64→8≤h.a i∧8≤h.b i
 no:h.w=false→∀ i,i<64→h.a i=0∧h.b i=0
set_option maxRecDepth 10000 in
set_option maxHeartbeats 1000000 in
theorem zj (h:Hd) (ho:tv h):bq Tryz.prog 46 [.agg (dY h)] [] (.one (.int .i64 0)) []:=by
 obtain⟨w,hw⟩:∃ w,h.w=w:=⟨_,rfl⟩
 have h0:(dY h)[0]? = some (.bool w):=by rw [←hw];rfl
 refine cO Tryz.func46 ?_
 repeat' (first|refine zG ?_|refine zA ?_|refine cX (fun _=>?_) (fun _=>?_)|refine aS (fun _=>?_) (fun _=>?_)|refine zL ?_|refine zF ?_|fail)
 refine WX.ek (σ:=Nat) (fun j=>[(4,.one (.int .i64 (j:Nat))),(1,.one (.ptr 0 0))]) (fun _=>[.cells (dY h) 24 false false]) (fun j=>j≤64) (fun j=>64-j) 0 (by omega) (fun s _=>mO) (br [0]) ?_
 intro j hj ih
 by_cases hj64:j<64
 · have ga:=E4 h hj64
   have gb:=E5 h hj64
   cases w
   · have hn:=ho.no hw j hj64
     repeat' (first
      |(refine qz ?_;first
       |refine ld (hc:=h0) ?_
       |refine ld (hc:=ga) ?_
       |refine ld (hc:=gb) ?_)
      |refine zG ?_|refine zA ?_|refine cX (fun _=>?_) (fun _=>?_)|refine aS (fun _=>?_) (fun _=>?_)|refine zL ?_|refine zF ?_|fail)
     refine ih (j+1) _ _ _ (br [0]) (by omega) (by omega)
   · have hn:=ho.yes hw j hj64
     repeat' (first
      |(refine qz ?_;first
       |refine ld (hc:=h0) ?_
       |refine ld (hc:=ga) ?_
       |refine ld (hc:=gb) ?_)
      |refine zG ?_|refine zA ?_|refine cX (fun _=>?_) (fun _=>?_)|refine aS (fun _=>?_) (fun _=>?_)|refine zL ?_|refine zF ?_|fail)
     refine ih (j+1) _ _ _ (br [0]) (by omega) (by omega)
 · repeat' (first|refine zG ?_|refine zA ?_|refine cX (fun _=>?_) (fun _=>?_)|refine aS (fun _=>?_) (fun _=>?_)|refine zL ?_|refine zF ?_|fail)
   show aF _ _ _ _ _ _ _ _;refine kV [] ?_
   rfl
theorem Ci {h:Hd}(ho:tv h) {HS:aq}(hb:Nat.blt HS.length Mem.bound=true):aG.Sound Tryz.prog ⟨46,[.agg (dY h)],HS,.one (.int .i64 0),HS,[]⟩:=
 az (zj h ho) (by simp only [List.all_cons,List.all_nil,Bool.and_true];exact nX h) rfl hb
theorem Ad (h:Hd):((gC h).drop 2).take 129=dY h:=by
 show(dY h).take 129=_
 rw [List.take_of_length_le (by rw [iy];omega)]
theorem yJ (h:Hd) (ho:tv h):bq Tryz.prog 25 [.agg (gC h)] [] (.one (.int .i64 0)) []:=by
 have h1:=ho.dims.c0
 have h2:=ho.dims.c1
 have h3:=ho.dims.r0
 have h4:=ho.dims.r1
 refine cO Tryz.func25 ?_
 repeat' (first
  |(refine qz ?_;first
   |refine t9 (cs:=dY h) ?_ (hle:=by rw [bn];decide) (hc:=Ad h)
   |refine cl ?_ (hi:=by exact Ci ho rfl))
  |refine zG ?_|refine zA ?_|refine cX (fun _=>?_) (fun _=>?_)|refine aS (fun _=>?_) (fun _=>?_)|refine zL ?_|refine zF ?_|fail)
 show aF _ _ _ _ _ _ _ _;refine kV [] ?_
 rfl
theorem kW {h:Hd}(ho:tv h) {HS:aq}(hb:Nat.blt HS.length Mem.bound=true):aG.Sound Tryz.prog ⟨25,[.agg (gC h)],HS,.one (.int .i64 0),HS,[]⟩:=
 az (yJ h ho) (by simp only [List.all_cons,List.all_nil,Bool.and_true];exact h_ h) rfl hb
structure Ph where
 id:Int
 inter:Bool
 down:Bool
 qp:Int
def iC (p:Ph):List XC:=[.int .i64 p.id,.bool p.inter,.bool p.down,.int .i64 p.qp]
structure A5 (p:Ph):Prop where
 id:0≤p.id∧p.id≤65535
 qp:1≤p.qp∧p.qp≤31
 down:p.down=true→p.inter=true
instance K_ (p:Ph):bG (.agg (iC p)):=fK rfl
theorem yZ (p:Ph) (ho:A5 p):bq Tryz.prog 26 [.agg (iC p)] [] (.one (.int .i64 0)) []:=by
 have h1:=ho.id
 have h2:=ho.qp
 obtain⟨d,hd⟩:∃ d,p.down=d:=⟨_,rfl⟩
 have hl:(iC p)[2]? = some (.bool d):=by rw [←hd];rfl
 cases d
 · refine cO Tryz.func26 ?_
   repeat' (first
    |(refine qz ?_;first
     |refine ld (hc:=hl) ?_)
    |refine zG ?_|refine zA ?_|refine cX (fun _=>?_) (fun _=>?_)|refine aS (fun _=>?_) (fun _=>?_)|refine zL ?_|refine zF ?_|fail)
   show aF _ _ _ _ _ _ _ _;refine kV [] ?_
   rfl
 · have hi:=ho.down hd
   have hl2:(iC p)[1]? = some (.bool true):=by rw [←hi];rfl
   refine cO Tryz.func26 ?_
   repeat' (first
    |(refine qz ?_;first
     |refine ld (hc:=hl) ?_
     |refine ld (hc:=hl2) ?_)
    |refine zG ?_|refine zA ?_|refine cX (fun _=>?_) (fun _=>?_)|refine aS (fun _=>?_) (fun _=>?_)|refine zL ?_|refine zF ?_|fail)
   show aF _ _ _ _ _ _ _ _;refine kV [] ?_
   rfl
theorem ll {p:Ph}(ho:A5 p) {HS:aq}(hb:Nat.blt HS.length Mem.bound=true):aG.Sound Tryz.prog ⟨26,[.agg (iC p)],HS,.one (.int .i64 0),HS,[]⟩:=
 az (yZ p ho) rfl rfl hb
theorem HN {cols rows:Int}(h:gG cols rows) {HS:aq}{N:Nat}(hN:HS.length=N) {HS':aq}(hh:HS++[cH (N+1) cols rows,.map (bp [])]=HS') (hbd:Nat.blt HS'.length Mem.bound=true) :
 aG.Sound Tryz.prog ⟨47,[.one (.int .i64 cols),.one (.int .i64 rows)],HS,.one (.ptr N 0),HS',[]⟩:=by
 subst hN
 refine cj (os:=[cH (HS.length+1) cols rows,.map (bp [])]) [] [] 2 (Fz cols rows h) (by simp) .nil .nil ?_ rfl (.flat (.flat .nil)) (.flat (.flat .nil)) (by show 0<2;omega) rfl ?_ rfl rfl hh hbd (.inl rfl)
 · exact .cons (by simp [ak.cB,XC.ok]) (.flat .nil)
 · exact .cons rfl (.flat .nil)
abbrev C6 (h:Hd) (p:Ph):aq:=[.cells [.ptr 0 0,.int .i64 p.id,.bool p.inter,.bool p.down,.int .i64 p.qp,.int .i64 p.qp,.ptr 14 0,.ptr 16 0] 97 false false,cH 15 h.cols h.rows,.map (bp []),.cells [.int .i64 h.cols,.int .i64 h.rows,.map 17,.map 18,.map 19] 171 false false,.map (ah []),.map (ah []),.map (ah [])]
set_option maxRecDepth 10000 in
set_option maxHeartbeats 1000000 in
theorem Bb (h:Hd) (p:Ph) (ho:tv h):bq Tryz.prog 27 [.one (.ptr 0 0),.agg (gC h),.agg (iC p)] [cc 1 5 9,ay 2 3 4 cM,bg cM,bj cM,bh cM,ay 6 7 8 cZ,bg cZ,bj cZ,bh cZ,ay 10 11 12 cP,bg cP,bj cP,bh cP] (.one (.ptr 13 0)) ([cc 1 5 9,ay 2 3 4 cM,bg cM,bj cM,bh cM,ay 6 7 8 cZ,bg cZ,bj cZ,bh cZ,ay 10 11 12 cP,bg cP,bj cP,bh cP]++C6 h p):=by
 have h1:=ho.dims.c0
 have h2:=ho.dims.c1
 have h3:=ho.dims.r0
 have h4:=ho.dims.r1
 refine cO Tryz.func27 ?_
 repeat' (first
  |(refine qz ?_;first
   |refine jq ?_ (hle:=by rfl)
   |refine cl ?_ (hi:=by exact HN (cols:=h.cols) (rows:=h.rows) ho.dims nL (by first|(simp only [List.cons_append,List.nil_append];exact rfl)|exact rfl) rfl)
   |refine cl ?_ (hi:=by exact DF (cols:=h.cols) (rows:=h.rows) (by omega) (by omega) nL (by first|(simp only [List.cons_append,List.nil_append];exact rfl)|exact rfl) rfl))
  |refine zG ?_|refine zA ?_|refine cX (fun _=>?_) (fun _=>?_)|refine aS (fun _=>?_) (fun _=>?_)|refine zL ?_|refine zF ?_|fail)
 show aF _ _ _ _ _ _ _ _;refine kV [0,1,2,3,4,5,6,7,8,9,10,11,12,21,15,16,17,18,19,20] ?_
 rfl
end Go.Proofs.YtagpkhindehcbaaGreat
namespace Go.Proofs.YtagpkhindehcbaaGreat
open Go.Xm
variable [aC]
def oM (h:Hd):Hd:=if h.w=true then {h with a:=fun i=>max (h.a i) 8,b:=fun i=>max (h.b i) 8}else {h with w:=false,a:=fun _=>0,b:=fun _=>0}
abbrev t7 (h:Hd) (j:Nat):Hd:={h with a:=sm (fun i=>max (h.a i) 8) h.a j,b:=sm (fun i=>max (h.b i) 8) h.b j}
theorem Ce {h g:Hd}(hw:h.w=g.w) (ha:∀ i,i<64→h.a i=g.a i) (hb:∀ i,i<64→h.b i=g.b i):dY h=dY g:=by
 unfold dY
 rw [hw,pI ha,pI hb]
theorem AK (k:IntKind) (f:Nat→Int) {n i:Nat}(hi:i<n) (z:Int):(ti k n f).set i (.int k z)=ti k n (fw f i z):=qi k n f i z
theorem E6 (h:Hd) {i:Nat}(hi:i<64) (z:Int):(dY h).set (1+i) (.int .u8 z)=dY {h with a:=fw h.a i z}:=by
 unfold dY
 rw [Nat.add_comm,List.set_cons_succ,List.set_append_left _ _ (by rw [bc];exact hi),AK .u8 h.a hi z]
theorem E7 (h:Hd) {i:Nat}(hi:i<64) (z:Int):(dY h).set (65+i) (.int .u8 z)=dY {h with b:=fw h.b i z}:=by
 unfold dY
 rw [show 65+i=(64+i)+1 by omega,List.set_cons_succ,List.set_append_right _ _ (by rw [bc];omega),bc,show 64+i-64=i by omega,AK .u8 h.b hi z]
theorem zO:bz Tryz.prog 24 (dY ⟨0,0,false,fun _=>0,fun _=>0⟩):=by
 show bz Tryz.prog 24 (.bool false::((ti .u8 64 fun _=>0)++(ti .u8 64 fun _=>0)))
 infer_instance
set_option maxRecDepth 10000 in
set_option maxHeartbeats 2000000 in
theorem Dx (h:Hd) (hr:∀ i,i<64→(0≤h.a i∧h.a i≤255)∧(0≤h.b i∧h.b i≤255)):bq Tryz.prog 41 [.agg (dY h)] [] (.agg (dY (oM h))) []:=by
 obtain⟨w,hw⟩:∃ w,h.w=w:=⟨_,rfl⟩
 have h0:(dY h)[0]? = some (.bool w):=by rw [←hw];rfl
 cases w
 · have e:dY (oM h)=dY ⟨0,0,false,fun _=>0,fun _=>0⟩:=by unfold oM;rw [if_neg (by rw [hw];decide)];rfl
   rw [e]
   refine cO Tryz.func41 ?_
   repeat' (first
    |(refine qz ?_;first
     |refine qA (zs:=dY ⟨0,0,false,fun _=>0,fun _=>0⟩) (hz:=zO) ?_
     |refine b0 (zs:=dY ⟨0,0,false,fun _=>0,fun _=>0⟩) (hz:=zO) ?_
     |refine jC (cs:=dY ⟨0,0,false,fun _=>0,fun _=>0⟩) ?_ (hs1:=by rw [iy]) (hs2:=by rw [iy])
     |refine ld (hc:=h0) ?_)
    |refine zG ?_|refine zA ?_|refine cX (fun _=>?_) (fun _=>?_)|refine aS (fun _=>?_) (fun _=>?_)|refine zL ?_|refine zF ?_|fail)
   show aF _ _ _ _ _ _ _ _;refine kV [] ?_
   rfl
 · have e:dY (oM h)=dY (t7 h 64):=by
    unfold oM
    rw [if_pos hw]
    exact Ce rfl (fun i hi=>by simp [sm,hi]) (fun i hi=>by simp [sm,hi])
   rw [e]
   refine cO Tryz.func41 ?_
   repeat' (first
    |(refine qz ?_;first
     |refine qA (zs:=dY ⟨0,0,false,fun _=>0,fun _=>0⟩) (hz:=zO) ?_
     |refine ld (hc:=h0) ?_)
    |refine zG ?_|refine zA ?_|refine cX (fun _=>?_) (fun _=>?_)|refine aS (fun _=>?_) (fun _=>?_)|refine zL ?_|refine zF ?_|fail)
   refine WX.ek (σ:=Nat) (fun j=>[(8,.one (.int .i64 (j:Nat))),(1,.one (.ptr 0 0)),(2,.one (.ptr 1 0))]) (fun j=>[.cells (dY (t7 h j)) 24 false false,.cells (dY ⟨0,0,false,fun _=>0,fun _=>0⟩) 24 false false]) (fun j=>j≤64) (fun j=>64-j) 0 (by omega) (fun s _=>mO) (br [0,1] (obj:=by(repeat' (first|exact ae.nil|refine ae.flat (by rw [show t7 h 0=h by unfold t7;rw [pw,pw]];rfl) ?_|refine ae.flat rfl ?_|refine ae.cons rfl ?_|refine ae.dead rfl ?_|refine ae.cons (by simp only [ak.aw,List.map_cons,List.map_nil,XC.aw,au];exact rfl) ?_));first|done|fail)) ?_
   intro j hj ih
   by_cases hj64:j<64
   · have ga:=E4 (t7 h j) hj64
     have gb:=E5 (t7 h j) hj64
     have ea:(t7 h j).a j=h.a j:=by simp [sm]
     have eb:(t7 h j).b j=h.b j:=by simp [sm]
     rw [ea]at ga
     rw [eb]at gb
     have hrj:=hr j hj64
     have e1:({t7 h j with a:=fw (t7 h j).a j (max (h.a j) 8),b:=fw (t7 h j).b j (max (h.b j) 8)}:Hd)=t7 h (j+1):=by
      show({h with a:=fw (sm (fun i=>max (h.a i) 8) h.a j) j (max (h.a j) 8),b:=fw (sm (fun i=>max (h.b i) 8) h.b j) j (max (h.b j) 8)}:Hd)=_
      rw [pv (fun i=>max (h.a i) 8),pv (fun i=>max (h.b i) 8)]
     repeat' (first
      |(refine qz ?_;first
       |refine ld (hc:=ga) ?_
       |refine ld (hc:=gb) ?_
       |refine st ?_ (hle:=by rw [iy];omega) (hv:=E6 (t7 h j) hj64 (max (h.a j) 8))
       |refine st ?_ (hle:=by rw [iy];omega) (hv:=E7 {t7 h j with a:=fw (t7 h j).a j (max (h.a j) 8)} hj64 (max (h.b j) 8)))
      |refine zG ?_|refine zA ?_|refine cX (fun _=>?_) (fun _=>?_)|refine aS (fun _=>?_) (fun _=>?_)|refine zL ?_|refine zF ?_|fail)
     refine ih (j+1) _ _ _ (br [0,1] (obj:=by(repeat' (first|exact ae.nil|refine ae.flat (by rw [←e1];rfl) ?_|refine ae.flat rfl ?_|refine ae.cons rfl ?_|refine ae.dead rfl ?_|refine ae.cons (by simp only [ak.aw,List.map_cons,List.map_nil,XC.aw,au];exact rfl) ?_));first|done|fail)) (by omega) (by omega)
   · obtain rfl:j=64:=by omega
     repeat' (first
      |(refine qz ?_;first
       |refine jq ?_ (hle:=by rw [iy])
       |refine jC (cs:=dY (t7 h 64)) ?_ (hs1:=by rw [iy]) (hs2:=by rw [iy]))
      |refine zG ?_|refine zA ?_|refine cX (fun _=>?_) (fun _=>?_)|refine aS (fun _=>?_) (fun _=>?_)|refine zL ?_|refine zF ?_|fail)
     show aF _ _ _ _ _ _ _ _;refine kV [] ?_
     rfl
theorem Gz {h g:Hd}(hr:∀ i,i<64→(0≤h.a i∧h.a i≤255)∧(0≤h.b i∧h.b i≤255)) (hg:oM h=g) {HS:aq}(hb:Nat.blt HS.length Mem.bound=true):aG.Sound Tryz.prog ⟨41,[.agg (dY h)],HS,.agg (dY g),HS,[]⟩:=by
 subst hg
 exact az (Dx h hr) (by simp only [List.all_cons,List.all_nil,Bool.and_true];exact nX h) (nX _) hb
def pe (h:Hd):Hd:={oM h with cols:=1+h.cols%2^3,rows:=1+h.rows%2^3}
structure oh (h:Hd):Prop where
 cols : -9223372036854775808≤h.cols∧h.cols≤9223372036854775807
 rows : -9223372036854775808≤h.rows∧h.rows≤9223372036854775807
 tab:∀ i,i<64→(0≤h.a i∧h.a i≤255)∧(0≤h.b i∧h.b i≤255)
theorem tp:bz Tryz.prog 26 (gC ⟨0,0,false,fun _=>0,fun _=>0⟩):=by
 show bz Tryz.prog 26 (.int .i64 0 :: .int .i64 0 :: .bool false::((ti .u8 64 fun _=>0)++(ti .u8 64 fun _=>0)))
 infer_instance
set_option maxRecDepth 10000 in
set_option maxHeartbeats 2000000 in
theorem Br (h:Hd) (hr:oh h):bq Tryz.prog 19 [.agg (gC h)] [] (.agg (gC (pe h))) []:=by
 have r1:=hr.cols
 have r2:=hr.rows
 refine cO Tryz.func19 ?_
 repeat' (first
  |(refine qz ?_;first
   |refine qA (zs:=gC ⟨0,0,false,fun _=>0,fun _=>0⟩) (hz:=tp) ?_
   |refine t9 (cs:=dY h) ?_ (hle:=by rw [bn];decide) (hc:=Ad h)
   |refine an 3 ?_
   |refine cl ?_ (hi:=by exact Gz hr.tab rfl rfl))
  |refine zG ?_|refine zA ?_|refine cX (fun _=>?_) (fun _=>?_)|refine aS (fun _=>?_) (fun _=>?_)|refine zL ?_|refine zF ?_|fail)
 show aF _ _ _ _ _ _ _ _;refine kV [] ?_
 rfl
theorem Dv {h g:Hd}(hr:oh h) (hg:pe h=g) {HS:aq}(hb:Nat.blt HS.length Mem.bound=true):aG.Sound Tryz.prog ⟨19,[.agg (gC h)],HS,.agg (gC g),HS,[]⟩:=by
 subst hg
 exact az (Br h hr) (by simp only [List.all_cons,List.all_nil,Bool.and_true];exact h_ h) (h_ _) hb
structure my (p:Ph):Prop where
 id : -9223372036854775808≤p.id∧p.id≤9223372036854775807
 qp : -9223372036854775808≤p.qp∧p.qp≤9223372036854775807
def oc (p:Ph):Ph:=⟨p.id%2^16,p.inter,p.inter && p.down,1+p.qp%2^5%31⟩
set_option maxRecDepth 10000 in
set_option maxHeartbeats 2000000 in
theorem Bs (p:Ph) (hr:my p):bq Tryz.prog 20 [.agg (iC p)] [] (.agg (iC (oc p))) []:=by
 have r1:=hr.id
 have r2:=hr.qp
 obtain⟨b,hi⟩:∃ b,p.inter=b:=⟨_,rfl⟩
 have hl:(iC p)[1]? = some (.bool b):=by rw [←hi];rfl
 have e:oc p=⟨p.id%2^16,b,b && p.down,1+p.qp%2^5%31⟩:=by unfold oc;rw [hi]
 rw [e]
 cases b
 · refine cO Tryz.func20 ?_
   repeat' (first
    |(refine qz ?_;first
     |refine ld (hc:=hl) ?_
     |refine an 16 ?_
     |refine an 5 ?_)
    |refine zG ?_|refine zA ?_|refine cX (fun _=>?_) (fun _=>?_)|refine aS (fun _=>?_) (fun _=>?_)|refine zL ?_|refine zF ?_|fail)
   show aF _ _ _ _ _ _ _ _;refine kV [] ?_
   rfl
 · refine cO Tryz.func20 ?_
   repeat' (first
    |(refine qz ?_;first
     |refine ld (hc:=hl) ?_
     |refine an 16 ?_
     |refine an 5 ?_)
    |refine zG ?_|refine zA ?_|refine cX (fun _=>?_) (fun _=>?_)|refine aS (fun _=>?_) (fun _=>?_)|refine zL ?_|refine zF ?_|fail)
   show aF _ _ _ _ _ _ _ _;refine kV [] ?_
   rfl
theorem Dw {p g:Ph}(hr:my p) (hg:oc p=g) {HS:aq}(hb:Nat.blt HS.length Mem.bound=true):aG.Sound Tryz.prog ⟨20,[.agg (iC p)],HS,.agg (iC g),HS,[]⟩:=by
 subst hg
 exact az (Bs p hr) rfl rfl hb
theorem z7 {p:Ph}(hr:my p):A5 (oc p):=by
 refine⟨?_,?_,?_⟩
 · show 0≤p.id%2^16∧p.id%2^16≤65535
   omega
 · show 1≤1+p.qp%2^5%31∧1+p.qp%2^5%31≤31
   omega
 · intro h
   have h':(p.inter && p.down)=true:=h
   exact(Bool.and_eq_true_iff.1 h').1
def four (h:Hd):Hd:={pe h with cols:=1+(pe h).cols%2^2,rows:=1+(pe h).rows%2^2}
theorem Ac (h:Hd):tv (four h)∧1≤(four h).cols∧(four h).cols≤4∧1≤(four h).rows∧(four h).rows≤4:=by
 have c:1≤(four h).cols∧(four h).cols≤4:=by show 1≤1+(pe h).cols%2^2∧1+(pe h).cols%2^2≤4;omega
 have r:1≤(four h).rows∧(four h).rows≤4:=by show 1≤1+(pe h).rows%2^2∧1+(pe h).rows%2^2≤4;omega
 refine⟨⟨⟨by omega,by omega,by omega,by omega⟩,?_,?_⟩,c.1,c.2,r.1,r.2⟩
 · intro hw i hi
   have hw':(oM h).w=true:=hw
   show 8≤(oM h).a i∧8≤(oM h).b i
   unfold oM at hw' ⊢
   split at hw'
   · rename_i g
     rw [if_pos g]
     exact⟨Int.le_max_right _ _,Int.le_max_right _ _⟩
   · cases hw'
 · intro hw i hi
   have hw':(oM h).w=false:=hw
   show(oM h).a i=0∧(oM h).b i=0
   unfold oM at hw' ⊢
   split at hw'
   · rename_i g
     have:h.w=false:=hw'
     rw [g]at this
     cases this
   · rename_i g
     rw [if_neg g]
     exact⟨rfl,rfl⟩
structure Wy where
 x:Nat→Int
 y:Nat→Int
 same:Bool
def K1 (w:Wy):List XC:=[.int .i8 (w.x 0),.int .i8 (w.x 1),.int .i8 (w.x 2),.int .i8 (w.x 3),.int .i8 (w.y 0),.int .i8 (w.y 1),.int .i8 (w.y 2),.int .i8 (w.y 3),.bool w.same]
def q9 (w:Wy) (k:Nat):Int × Int:=if w.same=true then((w.x 0).tmod 32,(w.y 0).tmod 32)else((w.x k).tmod 32,(w.y k).tmod 32)
structure zS (w:Wy):Prop where
 x:∀ k,k<4 → -128≤w.x k∧w.x k<128
 y:∀ k,k<4 → -128≤w.y k∧w.y k<128
theorem zeroV:bz Tryz.prog 49 (vt fun _=>(0,0)):=by
 show bz Tryz.prog 49 [cq (0,0),cq (0,0),cq (0,0),cq (0,0)]
 rw [dC]
 infer_instance
theorem fU {x y:Int}(hx : -128≤x∧x<128) (hy : -128≤y∧y<128) {q:Int × Int}(hq:(x.tmod 32,y.tmod 32)=q) {HS:aq}(hb:Nat.blt HS.length Mem.bound=true):aG.Sound Tryz.prog ⟨77,[.one (.int .i8 x),.one (.int .i8 y)],HS,.one (cq q),HS,[]⟩:=by
 subst hq;exact zf hx hy hb
set_option maxRecDepth 10000 in
set_option maxHeartbeats 2000000 in
theorem FD (w:Wy) (hr:zS w):bq Tryz.prog 43 [.agg (K1 w)] [] (.agg (vt (q9 w))) []:=by
 have x0:=hr.x 0 (by decide)
 have x1:=hr.x 1 (by decide)
 have x2:=hr.x 2 (by decide)
 have x3:=hr.x 3 (by decide)
 have y0:=hr.y 0 (by decide)
 have y1:=hr.y 1 (by decide)
 have y2:=hr.y 2 (by decide)
 have y3:=hr.y 3 (by decide)
 obtain⟨p0,h0⟩:∃ p,((w.x 0).tmod 32,(w.y 0).tmod 32)=p:=⟨_,rfl⟩
 obtain⟨p1,h1⟩:∃ p,((w.x 1).tmod 32,(w.y 1).tmod 32)=p:=⟨_,rfl⟩
 obtain⟨p2,h2⟩:∃ p,((w.x 2).tmod 32,(w.y 2).tmod 32)=p:=⟨_,rfl⟩
 obtain⟨p3,h3⟩:∃ p,((w.x 3).tmod 32,(w.y 3).tmod 32)=p:=⟨_,rfl⟩
 obtain⟨b,hb⟩:∃ b,w.same=b:=⟨_,rfl⟩
 have hl:(K1 w)[8]? = some (.bool b):=by rw [←hb];rfl
 cases b
 · have e:vt (q9 w) = [cq p0,cq p1,cq p2,cq p3]:=by
    have g:∀ k,q9 w k=((w.x k).tmod 32,(w.y k).tmod 32):=fun k=>if_neg (by rw [hb];decide)
    show [cq (q9 w 0),cq (q9 w 1),cq (q9 w 2),cq (q9 w 3)]=_
    rw [g,g,g,g,h0,h1,h2,h3]
   rw [e]
   refine cO Tryz.func43 ?_
   repeat' (first
    |(refine qz ?_;first
     |refine qA (zs:=vt fun _=>(0,0)) (hz:=zeroV) ?_
     |refine ld (hc:=hl) ?_
     |refine cl ?_ (hi:=by exact fU x0 y0 h0 rfl)
     |refine cl ?_ (hi:=by exact fU x1 y1 h1 rfl)
     |refine cl ?_ (hi:=by exact fU x2 y2 h2 rfl)
     |refine cl ?_ (hi:=by exact fU x3 y3 h3 rfl))
    |refine zG ?_|refine zA ?_|refine cX (fun _=>?_) (fun _=>?_)|refine aS (fun _=>?_) (fun _=>?_)|refine WX.loop ?_|refine WX.round ?_|refine zL ?_|refine zF ?_|fail)
   show aF _ _ _ _ _ _ _ _;refine kV [] ?_
   rfl
 · have e:vt (q9 w) = [cq p0,cq p0,cq p0,cq p0]:=by
    have g:∀ k,q9 w k=((w.x 0).tmod 32,(w.y 0).tmod 32):=fun k=>if_pos hb
    show [cq (q9 w 0),cq (q9 w 1),cq (q9 w 2),cq (q9 w 3)]=_
    rw [g,g,g,g,h0]
   rw [e]
   refine cO Tryz.func43 ?_
   repeat' (first
    |(refine qz ?_;first
     |refine qA (zs:=vt fun _=>(0,0)) (hz:=zeroV) ?_
     |refine ld (hc:=hl) ?_
     |refine cl ?_ (hi:=by exact fU x0 y0 h0 rfl)
     |refine cl ?_ (hi:=by exact fU x1 y1 h1 rfl)
     |refine cl ?_ (hi:=by exact fU x2 y2 h2 rfl)
     |refine cl ?_ (hi:=by exact fU x3 y3 h3 rfl))
    |refine zG ?_|refine zA ?_|refine cX (fun _=>?_) (fun _=>?_)|refine aS (fun _=>?_) (fun _=>?_)|refine WX.loop ?_|refine WX.round ?_|refine zL ?_|refine zF ?_|fail)
   show aF _ _ _ _ _ _ _ _;refine kV [] ?_
   rfl
theorem AQ {w:Wy}(hr:zS w) {q:Nat→Int × Int}(hq:q9 w=q) {HS:aq}(hb:Nat.blt HS.length Mem.bound=true):aG.Sound Tryz.prog ⟨43,[.agg (K1 w)],HS,.agg (vt q),HS,[]⟩:=by
 subst hq
 exact az (FD w hr) rfl rfl hb
theorem JL:∀ n:Fin 256,-31≤((n.val:Int)-128).tmod 32∧((n.val:Int)-128).tmod 32≤31:=by decide +kernel
theorem rz {x:Int}(h : -128≤x∧x<128) : -31≤x.tmod 32∧x.tmod 32≤31:=by
 have:=JL ⟨(x+128).toNat,by omega⟩
 have e:(((x+128).toNat:Nat):Int)-128=x:=by omega
 simp only [e]at this
 exact this
theorem CB {w:Wy}(hr:zS w):∀ k,k<4→dO (q9 w k)=true:=fun k hk=>by
 have a:=rz (hr.x k hk)
 have b:=rz (hr.y k hk)
 have c:=rz (hr.x 0 (by decide))
 have d:=rz (hr.y 0 (by decide))
 unfold q9 dO
 split <;> exact decide_eq_true (by omega)
end Go.Proofs.YtagpkhindehcbaaGreat
namespace Go.Proofs.YtagpkhindehcbaaGreat
open Go.Xm
variable [aC]
abbrev EC (S:bX):List XC:=[.ptr 3 0,.int .i64 S.id,.bool S.inter,.bool S.down,.int .i64 S.hqp,.int .i64 S.qp,.ptr 16 0,.ptr 18 0]
theorem pE {S:bX}{b:Bool}(h:S.inter=b):(EC S)[2]? = some (.bool b):=by rw [←h];rfl
def aA (S:bX) (m:Mb):List Bool:=(if S.inter=true then c7 cM m.kind.toNat else [decide (m.kind=4)])++(if m.kind=4 then dW (dI S.qp m.qp).1 2 else [])
def fh (S:bX) (m:Mb):bX:=if m.kind=4 then {S with qp:=m.qp}else S
theorem ux (a b:Int):0≤(dI a b).1∧(dI a b).1≤3:=by
 unfold dI
 repeat' split
 all_goals simp
set_option maxRecDepth 10000 in
set_option maxHeartbeats 2000000 in
theorem ia (bs:List Bool) (S:bX) (m:Mb) (hm:iI m) (hk:m.kind≤4) (hq : -1000000≤S.qp∧S.qp≤1000000) (hb:bs.length≤800000) :
 bq Tryz.prog 52 [.one (.ptr 2 0),.one (.ptr 0 0),.agg (mC m)] [aN 1 bs,av bs,dS (S),cc 4 8 12,ay 5 6 7 cM,bg cM,bj cM,bh cM,ay 9 10 11 cZ,bg cZ,bj cZ,bh cZ,ay 13 14 15 cP,bg cP,bj cP,bh cP,cH 17 (S).cols (S).rows,.map (bp (S).M),.cells [.int .i64 (S).cols,.int .i64 (S).rows,.map 19,.map 20,.map 21] 171 false false,.map (ah (S).A),.map (ah (S).B),.map (ah (S).C)] (.tup []) [aN 22 (bs++aA S m),.dead,dS (fh S m),cc 4 8 12,ay 5 6 7 cM,bg cM,bj cM,bh cM,ay 9 10 11 cZ,bg cZ,bj cZ,bh cZ,ay 13 14 15 cP,bg cP,bj cP,bh cP,cH 17 (fh S m).cols (fh S m).rows,.map (bp (fh S m).M),.cells [.int .i64 (fh S m).cols,.int .i64 (fh S m).rows,.map 19,.map 20,.map 21] 171 false false,.map (ah (fh S m).A),.map (ah (fh S m).B),.map (ah (fh S m).C),av (bs++aA S m)]:=by
 have hkind:=hm.kind
 have hqp:=hm.qp
 have hsr:=ux S.qp m.qp
 have hcb:=jA wk m.kind.toNat
 have hkn:m.kind=(m.kind.toNat:Nat):=by omega
 unfold aA
 obtain⟨b,hin⟩:∃ b,S.inter=b:=⟨_,rfl⟩
 have hl2:=pE hin
 by_cases h4:m.kind=4
 · have e4:fh S m = {S with qp:=m.qp}:=if_pos h4
   rw [e4,if_pos h4]
   cases b
   · rw [if_neg (by rw [hin];decide),decide_eq_true h4,←List.append_assoc]
     refine cO Tryz.func52 ?_
     repeat' (first
      |(refine qz ?_;first
       |refine ld (hc:=hl2) ?_
       |refine cl ?_ (hi:=by exact jY (b:=true) (bs:=bs) (by omega) rfl rfl (by decide) nL nA rfl)
       |refine cl ?_ (hi:=by exact vp hq hqp rfl)
       |refine cl ?_ (hi:=by exact gE (n:=(dI S.qp m.qp).1) (size:=2) rfl (bs:=bs++[true]) (by omega) (by decide) (by rw [List.length_append];simp;omega) rfl rfl (by decide) nL nA rfl))
      |refine zG ?_|refine zA ?_|refine cX (fun _=>?_) (fun _=>?_)|refine aS (fun _=>?_) (fun _=>?_)|refine zL ?_|refine zF ?_|fail)
     show aF _ _ _ _ _ _ _ _;refine kV [0,1,2,3,4,5,6,7,8,9,10,11,12,13,14,15,16,17,18,19,20,21,24] ?_
     rfl
   · rw [if_pos hin,←List.append_assoc]
     refine cO Tryz.func52 ?_
     repeat' (first
      |(refine qz ?_;first
       |refine ld (hc:=hl2) ?_
       |refine cl ?_ (hi:=by exact pc (C:=cM) wk (n:=m.kind.toNat) hkn (by show m.kind.toNat<5;omega) (bs:=bs) (by omega) rfl rfl rfl rfl rfl rfl (by decide) nL nA rfl)
       |refine cl ?_ (hi:=by exact vp hq hqp rfl)
       |refine cl ?_ (hi:=by exact gE (n:=(dI S.qp m.qp).1) (size:=2) rfl (bs:=bs++c7 cM m.kind.toNat) (by omega) (by decide) (by rw [List.length_append];omega) rfl rfl (by decide) nL nA rfl))
      |refine zG ?_|refine zA ?_|refine cX (fun _=>?_) (fun _=>?_)|refine aS (fun _=>?_) (fun _=>?_)|refine zL ?_|refine zF ?_|fail)
     show aF _ _ _ _ _ _ _ _;refine kV [0,1,2,3,4,5,6,7,8,9,10,11,12,13,14,15,16,17,18,19,20,21,24] ?_
     rfl
 · have e4:fh S m=S:=if_neg h4
   rw [e4,if_neg h4,List.append_nil]
   cases b
   · rw [if_neg (by rw [hin];decide),decide_eq_false h4]
     refine cO Tryz.func52 ?_
     repeat' (first
      |(refine qz ?_;first
       |refine ld (hc:=hl2) ?_
       |refine cl ?_ (hi:=by exact jY (b:=false) (bs:=bs) (by omega) rfl rfl (by decide) nL nA rfl))
      |refine zG ?_|refine zA ?_|refine cX (fun _=>?_) (fun _=>?_)|refine aS (fun _=>?_) (fun _=>?_)|refine zL ?_|refine zF ?_|fail)
     show aF _ _ _ _ _ _ _ _;refine kV [0,1,2,3,4,5,6,7,8,9,10,11,12,13,14,15,16,17,18,19,20,21,23] ?_
     rfl
   · rw [if_pos hin]
     refine cO Tryz.func52 ?_
     repeat' (first
      |(refine qz ?_;first
       |refine ld (hc:=hl2) ?_
       |refine cl ?_ (hi:=by exact pc (C:=cM) wk (n:=m.kind.toNat) hkn (by show m.kind.toNat<5;omega) (bs:=bs) (by omega) rfl rfl rfl rfl rfl rfl (by decide) nL nA rfl))
      |refine zG ?_|refine zA ?_|refine cX (fun _=>?_) (fun _=>?_)|refine aS (fun _=>?_) (fun _=>?_)|refine zL ?_|refine zF ?_|fail)
     show aF _ _ _ _ _ _ _ _;refine kV [0,1,2,3,4,5,6,7,8,9,10,11,12,13,14,15,16,17,18,19,20,21,23] ?_
     rfl
theorem fu (S:bX) (m:Mb):(aA S m).length≤66:=by
 unfold aA
 have:=jA wk m.kind.toNat
 rw [List.length_append]
 split <;> split <;> simp only [List.length_cons,List.length_nil,fS] <;> omega
def pM (M:fH) (cols mb:Int) (v:Nat→Int × Int):fH:=aX (aX (aX (aX M cols mb 0 (v 0)) cols mb 1 (v 1)) cols mb 2 (v 2)) cols mb 3 (v 3)
end Go.Proofs.YtagpkhindehcbaaGreat
namespace Go.Proofs.YtagpkhindehcbaaGreat
open Go.Xm
variable [aC]
def ba (S:bX) (mb:Int) (v:Nat→Int × Int):bX:={S with M:=pM S.M S.cols mb v}
set_option maxRecDepth 10000 in
set_option maxHeartbeats 2000000 in
theorem B_ (bs:List Bool) (S:bX) (hD:gG S.cols S.rows) (mb:Int) (hmb:0≤mb∧mb<S.cols*S.rows) (m:Mb) :
 bq Tryz.prog 53 [.one (.ptr 2 0),.one (.int .i64 mb),.agg (mC m)] [aN 1 bs,av bs,dS (S),cc 4 8 12,ay 5 6 7 cM,bg cM,bj cM,bh cM,ay 9 10 11 cZ,bg cZ,bj cZ,bh cZ,ay 13 14 15 cP,bg cP,bj cP,bh cP,cH 17 (S).cols (S).rows,.map (bp (S).M),.cells [.int .i64 (S).cols,.int .i64 (S).rows,.map 19,.map 20,.map 21] 171 false false,.map (ah (S).A),.map (ah (S).B),.map (ah (S).C)] (.tup []) [aN 1 bs,av bs,dS (ba S mb m.v),cc 4 8 12,ay 5 6 7 cM,bg cM,bj cM,bh cM,ay 9 10 11 cZ,bg cZ,bj cZ,bh cZ,ay 13 14 15 cP,bg cP,bj cP,bh cP,cH 17 (ba S mb m.v).cols (ba S mb m.v).rows,.map (bp (ba S mb m.v).M),.cells [.int .i64 (ba S mb m.v).cols,.int .i64 (ba S mb m.v).rows,.map 19,.map 20,.map 21] 171 false false,.map (ah (ba S mb m.v).A),.map (ah (ba S mb m.v).B),.map (ah (ba S mb m.v).C)]:=by
 refine cO Tryz.func53 ?_
 repeat' (first
  |(refine qz ?_;first
   |refine t9 (cs:=vt m.v) ?_ (hle:=by rw [aL];decide)
   |refine r8 ?_
   |refine cl ?_ (hi:=by exact dc (M:=S.M) (cols:=S.cols) (rows:=S.rows) (i:=16) (j:=17) (k:=0) (v:=m.v 0) hD hmb (by decide) rfl rfl (by decide) nA rfl)
   |refine cl ?_ (hi:=by exact dc (M:=aX S.M S.cols mb 0 (m.v 0)) (cols:=S.cols) (rows:=S.rows) (i:=16) (j:=17) (k:=1) (v:=m.v 1) hD hmb (by decide) rfl rfl (by decide) nA rfl)
   |refine cl ?_ (hi:=by exact dc (M:=aX (aX S.M S.cols mb 0 (m.v 0)) S.cols mb 1 (m.v 1)) (cols:=S.cols) (rows:=S.rows) (i:=16) (j:=17) (k:=2) (v:=m.v 2) hD hmb (by decide) rfl rfl (by decide) nA rfl)
   |refine cl ?_ (hi:=by exact dc (M:=aX (aX (aX S.M S.cols mb 0 (m.v 0)) S.cols mb 1 (m.v 1)) S.cols mb 2 (m.v 2)) (cols:=S.cols) (rows:=S.rows) (i:=16) (j:=17) (k:=3) (v:=m.v 3) hD hmb (by decide) rfl rfl (by decide) nA rfl))
  |refine zG ?_|refine zA ?_|refine cX (fun _=>?_) (fun _=>?_)|refine aS (fun _=>?_) (fun _=>?_)|refine WX.loop ?_|refine WX.round ?_|refine zL ?_|refine zF ?_|fail)
 show aF _ _ _ _ _ _ _ _;refine kV [0,1,2,3,4,5,6,7,8,9,10,11,12,13,14,15,16,17,18,19,20,21] ?_
 rfl
end Go.Proofs.YtagpkhindehcbaaGreat
namespace Go.Proofs.YtagpkhindehcbaaGreat
open Go.Xm
variable [aC]
def ya (S:bX) (mb k dx dy:Int):Option Kn:=cU S.A S.B S.C S.cols (placeOf S.cols mb k).1 ((placeOf S.cols mb k).2.1-dx) ((placeOf S.cols mb k).2.2-dy)
def aR (S:bX) (mb k q:Int):Int × Int:=jc (ya S mb k 1 0) (ya S mb k 0 1) (ya S mb k 1 1) q
def nh (S:bX) (mb k q:Int):Nat→Int:=z6 (ya S mb k 1 0) (ya S mb k 0 1) (ya S mb k 1 1) q
def q8 (S:bX) (mb k:Int):Int:=(placeOf S.cols mb k).2.2*cI S.cols (placeOf S.cols mb k).1+(placeOf S.cols mb k).2.1
def aZ (S:bX) (mb k:Int) (b:Kn):bX:={S with A:=lx (placeOf S.cols mb k).1 0 S.A (q8 S mb k) b,B:=lx (placeOf S.cols mb k).1 1 S.B (q8 S mb k) b,C:=lx (placeOf S.cols mb k).1 2 S.C (q8 S mb k) b}
theorem bI (n q:Int):0≤dg n q∧dg n q≤127:=by
 have h:=mg q
 have:0≤(max n 0+stepOf q/2)/stepOf q:=Int.ediv_nonneg (by omega) (by omega)
 unfold dg
 omega
theorem Dt (la lb lc:Option Kn) (q:Int):0≤(jc la lb lc q).2∧(jc la lb lc q).2≤127∧0≤(jc la lb lc q).1∧(jc la lb lc q).1≤2:=by
 unfold jc
 cases la <;> cases lb <;> simp only []
 · exact⟨(bI _ _).1,(bI _ _).2,by simp,by simp⟩
 · exact⟨(bI _ _).1,(bI _ _).2,by simp,by simp⟩
 · exact⟨(bI _ _).1,(bI _ _).2,by simp,by simp⟩
 · cases lc <;> simp only [] <;> split
   · exact⟨(bI _ _).1,(bI _ _).2,by simp,by simp⟩
   · exact⟨(bI _ _).1,(bI _ _).2,by simp,by simp⟩
   · exact⟨(bI _ _).1,(bI _ _).2,by simp,by simp⟩
   · exact⟨(bI _ _).1,(bI _ _).2,by simp,by simp⟩
theorem jD (S:bX) (mb k q:Int):0≤(aR S mb k q).2∧(aR S mb k q).2≤127∧0≤(aR S mb k q).1∧(aR S mb k q).1≤2:=Dt _ _ _ _
section
variable {S:bX}{mb k q:Int}(hD:gG S.cols S.rows) (hmb:0≤mb∧mb<S.cols*S.rows) (hk:0≤k∧k<6)
include hD hmb hk
theorem LB:gD S.cols S.rows mb k=true:=je.2 ⟨hmb.1,hmb.2,hk⟩
theorem Fa:bq Tryz.prog 70 [.one (.ptr 0 0),.one (.int .i64 mb),.one (.int .i64 k),.one (.int .i64 q)] (bP S.cols S.rows S.A S.B S.C) (ju (aR S mb k q)) (bP S.cols S.rows S.A S.B S.C):=
 pd ⟨hD.c0,hD.c1⟩ ⟨by have:=hD.r0;omega,hD.r1⟩ (LB hD hmb hk) (p:=(placeOf S.cols mb k).1) (x:=(placeOf S.cols mb k).2.1) (y:=(placeOf S.cols mb k).2.2) rfl (by unfold ya;rw [Int.sub_zero]) (by unfold ya;rw [Int.sub_zero]) rfl
theorem Cj:bq Tryz.prog 73 [.one (.ptr 0 0),.one (.int .i64 mb),.one (.int .i64 k),.one (.int .i64 q)] (bP S.cols S.rows S.A S.B S.C) (.agg (ti .i64 64 (nh S mb k q))) (bP S.cols S.rows S.A S.B S.C):=
 Dl ⟨hD.c0,hD.c1⟩ ⟨by have:=hD.r0;omega,hD.r1⟩ (LB hD hmb hk) (p:=(placeOf S.cols mb k).1) (x:=(placeOf S.cols mb k).2.1) (y:=(placeOf S.cols mb k).2.2) rfl (by unfold ya;rw [Int.sub_zero]) (by unfold ya;rw [Int.sub_zero]) rfl
theorem Fi (b:Kn):bq Tryz.prog 74 [.one (.ptr 0 0),.one (.int .i64 mb),.one (.int .i64 k),.agg (dm b)] (bP S.cols S.rows S.A S.B S.C) (.tup []) (bP S.cols S.rows (aZ S mb k b).A (aZ S mb k b).B (aZ S mb k b).C):=
 Hl ⟨hD.c0,hD.c1⟩ ⟨by have:=hD.r0;omega,hD.r1⟩ (LB hD hmb hk) (p:=(placeOf S.cols mb k).1) (x:=(placeOf S.cols mb k).2.1) (y:=(placeOf S.cols mb k).2.2) rfl b
theorem jy {HS:aq}(ha:HS[18]? = some (.cells [.int .i64 S.cols,.int .i64 S.rows,.map 19,.map 20,.map 21] 171 false false)) (hb:HS[19]? = some (.map (ah S.A))) (hc:HS[20]? = some (.map (ah S.B))) (hd:HS[21]? = some (.map (ah S.C))) (hbd:Nat.blt HS.length Mem.bound=true) :
 aG.Sound Tryz.prog ⟨70,[.one (.ptr 18 0),.one (.int .i64 mb),.one (.int .i64 k),.one (.int .i64 q)],HS,ju (aR S mb k q),HS,[]⟩:=
 aH (Fa hD hmb hk) 18 19 20 21 (by decide) ha hb hc hd rfl rfl hbd
theorem sT {HS:aq}(ha:HS[18]? = some (.cells [.int .i64 S.cols,.int .i64 S.rows,.map 19,.map 20,.map 21] 171 false false)) (hb:HS[19]? = some (.map (ah S.A))) (hc:HS[20]? = some (.map (ah S.B))) (hd:HS[21]? = some (.map (ah S.C))) (hbd:Nat.blt HS.length Mem.bound=true) :
 aG.Sound Tryz.prog ⟨73,[.one (.ptr 18 0),.one (.int .i64 mb),.one (.int .i64 k),.one (.int .i64 q)],HS,.agg (ti .i64 64 (nh S mb k q)),HS,[]⟩:=
 aH (Cj hD hmb hk) 18 19 20 21 (by decide) ha hb hc hd rfl (ky _ _ _) hbd
theorem nY {b:Kn}{HS HS':aq}(ha:HS[18]? = some (.cells [.int .i64 S.cols,.int .i64 S.rows,.map 19,.map 20,.map 21] 171 false false)) (hb:HS[19]? = some (.map (ah S.A))) (hc:HS[20]? = some (.map (ah S.B))) (hd:HS[21]? = some (.map (ah S.C))) (hh:((HS.set 19 (.map (ah (aZ S mb k b).A))).set 20 (.map (ah (aZ S mb k b).B))).set 21 (.map (ah (aZ S mb k b).C))=HS') (hbd:Nat.blt HS'.length Mem.bound=true) :
 aG.Sound Tryz.prog ⟨74,[.one (.ptr 18 0),.one (.int .i64 mb),.one (.int .i64 k),.agg (dm b)],HS,.tup [],HS',[19,20,21]⟩:=
 DG (Fi hD hmb hk b) 18 19 20 21 (by decide) ha hb hc hd hh hbd
end
theorem oW {S:bX}{mb k q:Int}(h:∀ dx dy b,ya S mb k dx dy=some b→∀ i,-1000000≤b.lv i∧b.lv i≤1000000) (i:Nat) : -1000000≤nh S mb k q i∧nh S mb k q i≤1000000:=by
 have hem:∀(b:Kn) (s:Nat),(∀ i,-1000000≤b.lv i∧b.lv i≤1000000)→∀ n i,-1000000≤em b s n i∧em b s n i≤1000000:=by
  intro b s hb n
  induction n with
  | zero=>intro i;simp [em]
  | succ n ih=>
    intro i
    rw [uY]
    unfold fw
    split
    · exact hb _
    · exact ih i
 have ho:∀(o:Option Kn) (s:Nat),(∀ b,o=some b→∀ i,-1000000≤b.lv i∧b.lv i≤1000000) → -1000000≤kU o s q i∧kU o s q i≤1000000:=by
  intro o s hb
  cases o with
  | none=>simp [kU,iO]
  | some b=>
    unfold kU
    simp only []
    split
    · exact hem b s (hb b rfl) _ i
    · simp [iO]
 unfold nh z6
 split
 · exact ho _ _ (h 1 0)
 · split
   · exact ho _ _ (h 0 1)
   · simp [iO]
end Go.Proofs.YtagpkhindehcbaaGreat
namespace Go.Proofs.YtagpkhindehcbaaGreat
open Go.Xm
variable [aC]
theorem sJ {f:Nat→Int}(h:∀ i,i<64 → -2047≤f i∧f i≤2047):∀(n i:Nat) (run:Int),i+n=64→0≤run→run≤i→∀ e∈ku f n i run,CQ e∧e.2.2=false
 | 0,i,run,_,_,_,e,he=>by cases he
 | n + 1,i,run,h1,h2,h3,e,he=>by
   unfold ku at he
   by_cases hz:f i=0
   · rw [if_pos hz]at he
     exact sJ h n (i+1) (run+1) (by omega) (by omega) (by omega) e he
   · rw [if_neg hz]at he
     rcases List.mem_cons.1 he with rfl|he
     · exact⟨⟨⟨h2,by show run≤63;omega⟩,hz,h i (by omega)⟩,rfl⟩
     · exact sJ h n (i+1) 0 (by omega) (by omega) (by omega) e he
theorem r_:∀(l:List Ev) (j:Nat),(∀ e∈l,e.2.2=false)→j<l.length→(jO l).getD j default=((l.getD j default).1,(l.getD j default).2.1,decide (j+1=l.length))
 | [],j,_,hj=>by simp at hj
 | [e],j,_,hj=>by
   have:j=0:=by simpa using hj
   subst this
   rfl
 | e::e2::l,0,hf,_=>by
   have:e.2.2=false:=hf e (List.mem_cons_self ..)
   show e=(e.1,e.2.1,decide (0+1=(e::e2::l).length))
   rw [decide_eq_false (by simp),←this]
 | e :: e2::l,j+1,hf,hj=>by
   have ih:=r_ (e2::l) j (fun x hx=>hf x (List.mem_cons_of_mem _ hx)) (by simpa using hj)
   show(jO (e2::l)).getD j default=_
   rw [ih]
   show _=(((e2::l).getD j default).1,((e2::l).getD j default).2.1,decide (j+1+1=(e::e2::l).length))
   have:decide (j+1=(e2::l).length)=decide (j+1+1=(e::e2::l).length):=by
    simp only [List.length_cons]
    rcases Classical.em (j+1=l.length+1)with g|g
    · rw [decide_eq_true g,decide_eq_true (by omega)]
    · rw [decide_eq_false g,decide_eq_false (by omega)]
   rw [this]
theorem Hi {f:Nat→Int}{st:Nat}(hst:st≤64) (h:∀ i,i<64 → -2047≤f i∧f i≤2047):ir f st = []∨kf (ir f st):=by
 have hg:=sJ h (64-st) st 0 (by omega) (Int.le_refl _) (by omega)
 have hlen:=qe f (64-st) st 0
 unfold ir
 generalize ku f (64-st) st 0=l at hg hlen ⊢
 cases hl:l with
 | nil=>exact .inl rfl
 | cons a t=>
   right
   rw [←hl]
   have hpos:0<l.length:=by rw [hl];simp
   have hget:∀ j,j<l.length→(jO l).getD j default=((l.getD j default).1,(l.getD j default).2.1,decide (j+1=l.length)):=fun j hj=>r_ l j (fun e he=>(hg e he).2) hj
   have hmem:∀ j,j<l.length→l.getD j default∈l:=fun j hj=>by
    rw [List.getD_eq_getElem?_getD,List.getElem?_eq_getElem hj]
    exact List.getElem_mem hj
   refine⟨by rw [iN];omega,fun j hj=>?_,fun j hj=>?_⟩
   · rw [iN]at hj
     have:=(hg _ (hmem j hj)).1
     rw [hget j hj]
     exact⟨this.run,this.nz,this.lev⟩
   · rw [iN]at hj
     rw [hget j hj,iN]
theorem ED {o:Int}(ho:o=0∨o=1∨o=2) {f:Nat→Int}(h:∀ i,i<64 → -2047≤f i∧f i≤2047):∀ i,i<64 → -2047≤mH o f i∧mH o f i≤2047:=fun i hi=>by
 have:=Aq ho hi
 exact h _ (by omega)
end Go.Proofs.YtagpkhindehcbaaGreat
namespace Go.Proofs.YtagpkhindehcbaaGreat
open Go.Xm
variable [aC]
structure o4 where
 S:bX
 B:List Bool
 pat:Int
 col:Int
 ev:Nat→List Ev
def aD (m:Mb) (k:Nat) (i:Nat):Int:=m.lev (k*64+i)
noncomputable def jo (m:Mb) (S:bX) (mb:Int) (k:Nat):Option (Nat→Int):=
 if alone m=true then(if m.edge=true then pk (aD m k) (nh S mb k m.qp)else some (aD m k)).map fun r=>fw r 0 0 else some (aD m k)
noncomputable def rM (m:Mb) (S:bX) (mb:Int) (k:Nat) (r:Nat→Int):List Ev:=ir (mH (ig m.edge (aR S mb k m.qp).1) r) (if alone m=true then 1 else 0)
def ef (pat k:Int):Int:=Ae .i64 pat (8/2^k.toNat)
def gH (col k:Int):Int:=Ae .u64 col (2/2^(k-4).toNat)
noncomputable def cC (m:Mb) (mb:Int) (k:Nat) (x:o4) (ev:List Ev):o4:=
 ⟨if alone m=true then aZ x.S mb k ⟨aD m k,m.qp⟩else x.S,if alone m=true then x.B++aV (aD m k 0-(aR x.S mb k m.qp).2)else x.B,if 0<ev.length∧k<4 then ef x.pat k else x.pat,if 0<ev.length∧¬k<4 then gH x.col k else x.col,fun j=>if j=k then ev else x.ev j⟩
noncomputable def gY (m:Mb) (mb:Int) (x0:o4):Nat→Option o4
 | 0=>some x0
 | k+1=>(gY m mb x0 k).bind fun x=>(jo m x.S mb k).map fun r=>cC m mb k x (rM m x.S mb k r)
theorem Ba {m:Mb}{mb:Int}{x0:o4}{k:Nat}(h:gY m mb x0 k=none):∀ j,k≤j→gY m mb x0 j=none:=by
 intro j hj
 induction hj with
 | refl=>exact h
 | step _ ih=>rw [gY,ih];rfl
def v8 (T:nD):Prop:=∀ key b,bW T key=some b→∀ i,-1000000≤b.lv i∧b.lv i≤1000000
def H5 (S:bX):Prop:=v8 S.A∧v8 S.B∧v8 S.C
theorem DU {T:nD}(h:v8 T) {key:Int}{b:Kn}(hb:∀ i,-1000000≤b.lv i∧b.lv i≤1000000):v8 (mK T key b):=fun key' b' h'=>by
 rw [gS]at h'
 split at h'
 · cases h';exact hb
 · exact h key' b' h'
theorem sf {p q:Int}{T:nD}(h:v8 T) {key:Int}{b:Kn}(hb:∀ i,-1000000≤b.lv i∧b.lv i≤1000000):v8 (lx p q T key b):=by
 unfold lx
 split
 · exact DU h hb
 · exact h
theorem se:v8 []:=fun key b h=>by cases h
structure gP (S:bX):Prop where
 dims:gG S.cols S.rows
 lev:H5 S
 tiny:cg S.M
theorem yT {S:bX}(h:H5 S) {mb k dx dy:Int}{b:Kn}(hb:ya S mb k dx dy=some b):∀ i,-1000000≤b.lv i∧b.lv i≤1000000:=by
 unfold ya cU cu at hb
 split at hb
 · cases hb
 · unfold bQ at hb
   split at hb
   · exact h.1 _ _ hb
   · split at hb
     · exact h.2.1 _ _ hb
     · exact h.2.2 _ _ hb
structure jG (m:Mb):Prop where
 ok:iI m
 kind:m.kind≤4
 lev:∀ i,i<384 → -2047≤m.lev i∧m.lev i≤2047
 first:alone m=true→∀ k,k<6→0≤m.lev (k*64)∧m.lev (k*64)≤127
structure yc (m:Mb) (mb:Int) (x0:o4) (s:Nat × o4):Prop where
 le:s.1≤6
 run:gY m mb x0 s.1=some s.2
 st:gP s.2.S
 cr:s.2.S.cols=x0.S.cols∧s.2.S.rows=x0.S.rows
 len:s.2.B.length≤x0.B.length+76*s.1
 nil:∀ j,s.1≤j→s.2.ev j = []
 evs:∀ j,s.2.ev j = []∨kf (s.2.ev j)
 pat:0≤s.2.pat∧s.2.pat<16
 col:0≤s.2.col∧s.2.col<4
theorem Ee:∀(a:Fin 16) (k:Fin 4),0≤ef (a.val:Int) (k.val:Int)∧ef (a.val:Int) (k.val:Int)<16:=by decide +kernel
theorem De:∀(a:Fin 4) (k:Fin 2),0≤gH (a.val:Int) ((k.val+4:Nat):Int)∧gH (a.val:Int) ((k.val+4:Nat):Int)<4:=by decide +kernel
theorem xd {a:Int}{k:Nat}(h:0≤a∧a<16) (hk:k<4):0≤ef a k∧ef a k<16:=by
 have:=Ee ⟨a.toNat,by omega⟩ ⟨k,hk⟩
 simp only [Int.toNat_of_nonneg h.1]at this
 exact this
theorem wq {a:Int}{k:Nat}(h:0≤a∧a<4) (hk:¬k<4) (hk6:k<6):0≤gH a k∧gH a k<4:=by
 have:=De ⟨a.toNat,by omega⟩ ⟨k-4,by omega⟩
 simp only [Int.toNat_of_nonneg h.1,show k-4+4=k by omega]at this
 exact this
theorem kT {m:Mb}(hg:jG m) {S:bX}{mb:Int}{k:Nat}(ha:alone m=true) (hk:k<6) : -4000≤aD m k 0-(aR S mb k m.qp).2∧aD m k 0-(aR S mb k m.qp).2≤4000:=by
 have h1:=hg.first ha k hk
 have h2:=jD S mb k m.qp
 have e:aD m k 0=m.lev (k*64):=by unfold aD;rw [Nat.add_zero]
 rw [e]
 omega
theorem DT {m:Mb}(hg:jG m) {k:Nat}(hk:k<6):∀ i,i<64 → -2047≤aD m k i∧aD m k i≤2047:=fun i hi=>hg.lev _ (by omega)
theorem BA {l e r:Nat→Int}(h:pk l e=some r):∀ i,i<64 → -2047≤r i∧r i≤2047:=by
 unfold pk at h
 split at h
 · cases h
 · rename_i hn
   cases h
   intro i hi
   have:¬lV l e i:=fun hb=>hn ⟨i,hi,hb⟩
   unfold lV at this
   show -2047≤l i-e i∧l i-e i≤2047
   omega
theorem A_ {m:Mb}(hg:jG m) {S:bX}{mb:Int}{k:Nat}(hk:k<6) {r:Nat→Int}(h:jo m S mb k=some r):∀ i,i<64 → -2047≤r i∧r i≤2047:=by
 have hl:=DT hg hk
 have hu:∀ q:Nat→Int,(∀ i,i<64 → -2047≤q i∧q i≤2047)→∀ i,i<64 → -2047≤fw q 0 0 i∧fw q 0 0 i≤2047:=fun q hq i hi=>by
  unfold fw
  split
  · omega
  · exact hq i hi
 unfold jo at h
 split at h
 · obtain⟨q,hq,rfl⟩:=Option.map_eq_some_iff.1 h
   split at hq
   · exact hu q (BA hq)
   · cases hq;exact hu _ hl
 · cases h;exact hl
theorem kQ {m:Mb}(hg:jG m) {mb:Int}{x0:o4}{s:Nat × o4}(h:yc m mb x0 s) (h6:s.1<6) {r:Nat→Int}(hr:jo m s.2.S mb s.1=some r):yc m mb x0 (s.1+1,cC m mb s.1 s.2 (rM m s.2.S mb s.1 r)):=by
 have hrr:=A_ hg h6 hr
 have hev:rM m s.2.S mb s.1 r = []∨kf (rM m s.2.S mb s.1 r):=by
  unfold rM
  exact Hi (by split <;> omega) (ED (iP _ _) hrr)
 refine⟨by show s.1+1≤6;omega,?_,?_,?_,?_,?_,?_,?_,?_⟩
 · show gY m mb x0 (s.1+1)=_
   rw [gY,h.run]
   simp only [Option.bind_some,hr,Option.map_some]
 · show gP (if alone m=true then aZ s.2.S mb s.1 ⟨aD m s.1,m.qp⟩else s.2.S)
   split
   · have hb:∀ i,-1000000≤(Kn.mk (aD m s.1) m.qp).lv i∧(Kn.mk (aD m s.1) m.qp).lv i≤1000000:=fun i=>hg.ok.lev _
     exact⟨h.st.dims,⟨sf h.st.lev.1 hb,sf h.st.lev.2.1 hb,sf h.st.lev.2.2 hb⟩,h.st.tiny⟩
   · exact h.st
 · show(if alone m=true then aZ s.2.S mb s.1 ⟨aD m s.1,m.qp⟩else s.2.S).cols=_∧(if alone m=true then aZ s.2.S mb s.1 ⟨aD m s.1,m.qp⟩else s.2.S).rows=_
   split <;> exact h.cr
 · show(if alone m=true then s.2.B++aV (aD m s.1 0-(aR s.2.S mb s.1 m.qp).2)else s.2.B).length≤x0.B.length+76*(s.1+1)
   have:=h.len
   split
   · rename_i ha
     have:=Bl (kT hg (S:=s.2.S) (mb:=mb) ha h6)
     rw [List.length_append];omega
   · omega
 · intro j hj
   show(if j=s.1 then _ else s.2.ev j) = []
   have hj':s.1+1≤j:=hj
   rw [if_neg (by omega)]
   exact h.nil j (by omega)
 · intro j
   show(if j=s.1 then _ else s.2.ev j) = []∨kf (if j=s.1 then _ else s.2.ev j)
   split
   · exact hev
   · exact h.evs j
 · show 0≤(if _ then ef s.2.pat s.1 else s.2.pat)∧(if _ then ef s.2.pat s.1 else s.2.pat)<16
   split
   · rename_i hc
     exact xd h.pat hc.2
   · exact h.pat
 · show 0≤(if _ then gH s.2.col s.1 else s.2.col)∧(if _ then gH s.2.col s.1 else s.2.col)<4
   split
   · rename_i hc
     exact wq h.col hc.2 h6
   · exact h.col
def eF (x:o4):List Bool:=(x.B++c7 cP x.pat.toNat)++dW x.col 2
def bC (bw:List Bool) (x:o4):Nat→List Bool
 | 0=>bw
 | k+1=>bC bw x k++fB (x.ev k)
theorem pW {bw:List Bool}{x:o4}(h:∀ j,x.ev j = []∨kf (x.ev j)):∀ k,(bC bw x k).length≤bw.length+3456*k
 | 0=>Nat.le_refl _
 | k + 1=>by
   rw [bC,List.length_append]
   have ih:=pW (bw:=bw) h k
   have:(fB (x.ev k)).length≤3456:=by
    rcases h k with e|e
    · rw [e];simp [fB]
    · have h1:=rZ e _ (Nat.le_refl _)
      rw [List.take_length]at h1
      have:=e.len
      omega
   omega
theorem lz {m:Mb}{a:Bool}(ha:alone m=a) {HS:aq}(hb:Nat.blt HS.length Mem.bound=true):aG.Sound Tryz.prog ⟨37,[.agg (mC m)],HS,.one (.int .i64 (if a=true then 1 else 0)),HS,[]⟩:=by
 subst ha
 exact E1 hb
abbrev Km (ev:Nat→List Ev):ak := .cells [mc 27 (ev 0).length 3,mc 28 (ev 1).length 3,mc 29 (ev 2).length 3,mc 30 (ev 3).length 3,mc 31 (ev 4).length 3,mc 32 (ev 5).length 3] 185 false false
end Go.Proofs.YtagpkhindehcbaaGreat
namespace Go.Xm
variable [aC]
variable {P:Program}
theorem Ge {m m':Mem}(h:o5 m m'):m.b8→∀ j,m.n≤j→j<m'.n→0<(m'.fF j).ver:=by
 induction h with
 | same m=>intro _ j h1 h2;omega
 | put m i o=>intro _ j h1 h2;rw [Mem.fi]at h2;omega
 | @push m m' o hp=>
   intro _ j h1 h2
   obtain⟨_,k2,k3,_⟩:=Mem.bt hp
   obtain rfl:j=m.n:=by omega
   rw [k3]
   exact Nat.one_pos
 | @trans a b c hab hbc ih1 ih2=>
   intro hf j h1 h2
   obtain⟨m1,f1⟩:=hab.mono hf
   obtain⟨m2,_⟩:=hbc.mono f1
   by_cases hj:j<b.n
   · exact Nat.lt_of_lt_of_le (ih1 hf j h1 hj) (m2.2 j).1
   · exact ih2 f1 j (by omega) h2
theorem xi {m m':Mem}(h:o5 m m') (hf:m.b8) (hv:∀ j,(m'.fF j).ver=(m.fF j).ver):gd m m':=fun hb=>by
 obtain⟨h1,h2⟩:=h.mono hf
 have hn:¬m.n<m'.n:=fun hlt=>by
  have:=Ge h hf m.n (Nat.le_refl _) hlt
  rw [hv,hf _ (Nat.le_refl _)]at this
  omega
 have:=h1.1
 refine⟨by omega,by omega,fun j hj hl => .inr ⟨by omega,?_⟩⟩
 show(m.fF j).obj=(m'.fF j).obj
 rw [(h1.2 j).2 (hv j)]
def fe:List Oper→List Ab→Bool
 | o::l,b::k=>(l4 o || b.ws.isEmpty) && fe l k
 | _,_=>true
theorem mS:∀(l:List Oper) (k:List Ab),fe l k=true→∀(i:Nat) (o:Oper) (b:Ab),l[i]? = some o→k[i]? = some b→l4 o=true∨b.ws = []
 | o::l,b::k,h,0,o',b',ho,hb=>by
   simp only [List.getElem?_cons_zero,Option.some.injEq]at ho hb
   subst ho hb
   simp only [fe,Bool.and_eq_true,Bool.or_eq_true,List.isEmpty_iff]at h
   exact h.1
 | o::l,b::k,h,i+1,o',b',ho,hb=>by
   simp only [fe,Bool.and_eq_true]at h
   exact mS l k h.2 i o' b' (by simpa using ho) (by simpa using hb)
 | [],_,_,i,_,_,ho,_=>by simp at ho
 | _::_,[],_,i,_,_,_,hb=>by simp at hb
section
variable {O:cY}{P:Program}{ops:Array Oper}{nt nI:Nat}{tr:List (Mem × Out)}{rs:Nat→T XV}{ms:Nat→Mem}{ds:Nat→Out}
theorem u0 (hO : aJ P O) (hT:Trace O P ops nt ops.toList tr rs ms ds) (h0f:(ms 0).b8) (hb:(ms 0).n≤Mem.bound) {ab:List Ab}(hno:fe ops.toList ab=true) (ht:CW tr ab) {bs:List Nat}{f:Nat}(h:kJ ops bs ab f=true):f<ops.size∧kr ops bs tr f=true:=by
 have key:∀ i,i≤ops.size→gd (ms 0) (ms i)∧(ms i).b8:=by
  intro i
  induction i with
  | zero=>exact fun _=>⟨.same _,h0f⟩
  | succ i ih=>
    intro hi
    obtain⟨h1,h2⟩:=ih (by omega)
    obtain⟨o,ho,_,hx,_,hm⟩:=aU hT (show i<ops.size by omega)
    rw [hm]
    refine⟨h1.trans ?_,((i4 hO hx).mono h2).2⟩
    obtain⟨_,_,hti,_⟩:=aU hT (show i<ops.size by omega)
    obtain⟨b,hbi,_,_,k3⟩:=ct.get? ht i _ hti
    rcases mS ops.toList ab hno i o b (by simpa using ho) hbi with hn|hn
    · exact zq hn hx
    · exact xi (i4 hO hx) h2 (fun j=>k3 j (by rw [hn];simp))
 unfold kJ at h
 split at h
 · rename_i o bf hof hbf
   split at h
   · rename_i t d hop hg hd
     have hf:f<ops.size:=(Array.getElem?_eq_some_iff.1 hof).1
     obtain⟨o',ho',htf,hxf,_,_⟩:=aU hT hf
     obtain rfl:o=o':=by rw [hof]at ho';exact Option.some.inj ho'
     obtain⟨_,_,ht0,_⟩:=aU hT (show 0<ops.size by omega)
     obtain⟨hkr,hfr⟩:=key f (by omega)
     obtain⟨bf',hbf',k1,k2,k3⟩:=ct.get? ht f _ htf
     obtain rfl:bf=bf':=by rw [hbf]at hbf';exact Option.some.inj hbf'
     obtain⟨zs,_,hp,_⟩:=f8 hop hg hxf
     have hn:(ms f).n∈bf.ws:=by
      refine Classical.byContradiction fun hn=>?_
      have e1:=k3 _ hn
      simp only at e1
      obtain⟨_,_,e2,_⟩:=Mem.bt hp
      rw [e2,hfr _ (Nat.le_refl _)]at e1
      cases e1
     have hl:tr.length=ab.length:=ct.length ht
     simp only [Bool.and_eq_true]at h
     obtain⟨hlk,hdy⟩:=h
     refine⟨hf,?_⟩
     unfold kr
     rw [hof,ht0,htf]
     simp only [hop,hg,hd,Bool.and_eq_true]
     refine⟨⟨?_,?_⟩,?_⟩
     · refine List.all_eq_true.2 fun j hj=>?_
       obtain⟨_,_,k⟩:=hkr hb
       have hj':=List.mem_range.1 hj
       cases hlv:((ms f).get j).live with
       | false=>rfl
       | true=>
         rcases k j hj' hlv with k|⟨k,ke⟩
         · simp [k]
         · simp [k,ke,hlv]
     · refine List.all_eq_true.2 fun i hi=>?_
       have h1:=List.all_eq_true.1 hlk i hi
       have hi':=List.mem_range.1 hi
       obtain⟨oi,hoi,hti,_⟩:=aU hT hi'
       obtain⟨bi,hbi,j1,j2,_⟩:=ct.get? ht i _ hti
       rw [hoi,hbi]at h1
       rw [hoi,hti]
       simp only [Bool.or_eq_true,Bool.not_eq_true']at h1 ⊢
       rcases h1 with h1|h1|h1
       · exact .inl h1
       · refine .inr (.inl ?_)
         simp only [Bool.or_eq_false_iff]at h1 ⊢
         refine⟨h1.1,?_⟩
         refine decide_eq_false fun hc=>?_
         simp only at j2
         rw [hc]at j2
         have:=h1.2
         rw [←j2]at this
         simp only at this
         rw [List.contains_iff_mem.2 hn]at this
         cases this
       · refine .inr (.inr (List.all_eq_true.2 fun e he=>?_))
         have h2:=List.all_eq_true.1 h1 e he
         have he':=List.mem_range.1 he
         obtain⟨_,_,hte,_⟩:=aU hT (show e<ops.size by omega)
         obtain⟨be,hbe,q1,_,_⟩:=ct.get? ht e _ hte
         rw [hbe]at h2
         rw [hte]
         simp only at q1 h2 ⊢
         rw [q1];exact h2
     · unfold pY
       rw [List.all_eq_true]at hdy ⊢
       intro i hi
       have hi':=hdy i (by rw [←hl];exact hi)
       split
       · rfl
       · rename_i mi di hdi
         obtain⟨bi,hb',h1,h2,_⟩:=ct.get? ht i _ hdi
         simp only at h1 h2
         rw [hb']at hi'
         simp only [Bool.or_eq_true]at hi' ⊢
         rw [h1,h2]
         rcases hi' with hi'|hi'
         · exact .inl hi'
         · refine .inr (List.all_eq_true.2 fun e he=>?_)
           have he':=List.all_eq_true.1 hi' e (by rw [←hl];exact he)
           split
           · rfl
           · rename_i me de hde
             obtain⟨be,hbe,q1,q2,q3⟩:=ct.get? ht e _ hde
             simp only at q1 q2 q3
             rw [hbe]at he'
             unfold nQ
             unfold vb at he'
             rw [h1,h2,q1]
             simp only [Bool.or_eq_true,Bool.and_eq_true]at he' ⊢
             rcases he' with he'|⟨ha,hb'⟩
             · exact .inl he'
             · refine .inr ⟨ha,?_⟩
               cases hf:bi.fp with
               | none=>rfl
               | some fp=>
                 rw [hf]at hb'
                 simp only [Bool.or_eq_true]at hb' ⊢
                 rcases hb' with hb'|hb'
                 · exact .inl hb'
                 · refine .inr ?_
                   have:fp∉be.ws:=by simpa using hb'
                   rw [q3 fp this]
                   simp
   · cases h
 · cases h
theorem WX.Gi (hO:aJ P O) (hP:P.follows .mixedOrders=true) {id f:Nat}{al al':bm}{hs hs':aq}{bs:List Ab}{K:cJ}(hst:bH ops nt (e_ ops.toList)=true) (h:jI O P ops nt ops.toList al hs bs al' hs') (hdy:kJ ops (e_ ops.toList) bs f=true) (hno:fe ops.toList bs=true)
 (hk:K .normal al' hs'):WX P nt nI (.code (.region id ops true)) al hs K:=by
 intro βI mI wI hn m hm β w a Q hr hw hq
 obtain⟨r,hrr⟩:=km (rg al) nt hr.small hr.out
 obtain⟨tr,r',m',h1,h2,h3,h4⟩:=jx hr.small h hm hrr
 obtain⟨rs,ms,ds,hT,t1,t2,_,_⟩:=gX h1
 have hfl:=u0 hO hT (by rw [t2];exact hm.fresh) (by rw [t2];exact hm.bnd) hno h4 hdy
 have hx:iV O P ops nt r m=some (r',m'):=by
  refine j4 ?_
  unfold f9 gF
  rw [if_pos hst,h1]
  simp only []
  by_cases hd:gu (e_ ops.toList) tr=true
  · rw [if_pos hd]
  · rw [if_neg hd]
    simp only []
    unfold kA
    rw [if_pos hst,h1]
    simp only []
    rw [if_pos (List.any_eq_true.2 ⟨f,List.mem_range.2 hfl.1,hfl.2⟩)]
 have e:(r.get .undef)=rg al:=funext hrr
 have e':(r'.get .undef)=rg al':=funext h2
 refine n7 hO hP hx (by unfold i6;rw [e];exact hr) hw.rel fun a' β' w' k1 k2 k3=>?_
 unfold i6 at k1
 rw [e']at k1
 exact hq .normal al' hs' m' hk h3 a' β' w' k1 k2 (hw.trans k3)
theorem WX.Gj (f:Nat) {K:cJ}{al:bm}{hs:aq}{id:Nat}(hP:P.follows .mixedOrders=true) (hst:bH ops nt (e_ ops.toList)=true) (h:SK P ops nt [] ops.toList al hs fun bs al' hs'=>(kJ ops (e_ ops.toList) bs f && fe ops.toList bs)=true∧K .normal al' hs'):WX P nt nI (.code (.region id ops true)) al hs K:=by
 obtain⟨Lf,h1,h2,h3,bs,al',hs',h4,h5,h6⟩:=h
 exact WX.Gi (jV fun e he=>(h2 e he).resolve_left (by simp)) hP hst h4 (by simp only [Bool.and_eq_true]at h5;exact h5.1) (by simp only [Bool.and_eq_true]at h5;exact h5.2) h6
theorem LZ {id:Nat}(f:Nat) {al:bm}{hs:aq}{K:cJ}(h:SK P ops nt [] ops.toList al hs fun bs al' hs'=>(kJ ops (e_ ops.toList) bs f && fe ops.toList bs)=true∧K .normal al' hs') (hP:P.follows .mixedOrders=true:=by kernel_rfl) (hst:bH ops nt (e_ ops.toList)=true:=by kernel_rfl):WX P nt nI (.code (.region id ops true)) al hs K:=
 WX.Gj f hP hst h
end
end Go.Xm
