/-
  A part of the proof: Put0, Put1.
-/
import Derived.Test.YtagpkhindehcbaaGreatKbT
set_option linter.unusedVariables false
set_option linter.unusedSectionVars false
set_option linter.unusedSimpArgs false
namespace Go.Proofs.YtagpkhindehcbaaGreat
open Go.Xm
variable [aC]
def ax (m:Mb) (mb:Int) (x:bX × List Bool) (k:Nat):bX × List Bool:=({x.1 with M:=aX x.1.M x.1.cols mb k (m.v k)},x.2++cG (m.v k) (cf x.1.M x.1.cols x.1.rows mb k))
def db (S:bX) (B:List Bool) (m:Mb) (mb:Int):bX × List Bool:=
 if m.kind=0 then(ba S mb m.v,B++aA S m)
 else if m.kind=1 then(ba (ax m mb (S,B++aA S m) 0).1 mb m.v,(ax m mb (S,B++aA S m) 0).2)
 else if m.kind=2 then(ba (ax m mb (ax m mb (ax m mb (ax m mb (S,B++aA S m) 0) 1) 2) 3).1 mb m.v,(ax m mb (ax m mb (ax m mb (ax m mb (S,B++aA S m) 0) 1) 2) 3).2)
 else(ba (fh S m) mb m.v,(B++aA S m)++[m.edge])
structure kg (S:bX) (B bw:List Bool) (m:Mb) (mb:Int):Prop where
 st:gP S
 mb:0≤mb∧mb<S.cols*S.rows
 qp : -1000000≤S.qp∧S.qp≤1000000
 good:jG m
 right:∀ k,k<4→dO (m.v k)=true
 len:B.length≤600000
 lenw:bw.length≤600000
theorem bE {M:fH}(h:cg M) {cols mb k:Int}{v:Int × Int}(hv:bB v):cg (aX M cols mb k v):=Ck h hv
theorem eg {M:fH}(h:cg M) {cols mb:Int}{v:Nat→Int × Int}(hv:∀ k,bB (v k)):cg (pM M cols mb v):=bE (bE (bE (bE h (hv 0)) (hv 1)) (hv 2)) (hv 3)
theorem dA {S:bX}{m:Mb}(h:m.kind≠4):fh S m=S:=if_neg h
theorem m5 {S:bX}{m:Mb}(h:m.kind=4):fh S m = {S with qp:=m.qp}:=if_pos h
theorem Az (a b c d:List XC) (e e' e2 e3 e4 e5 e6 e7:TypeId) (cs ds fs gs:List XC) (S S':bX):eI (.cells a e false false::c8 e' cs::(dV S++[.cells c e5 false false,c8 e6 fs])) (.cells b e2 false false :: .dead::(dV S'++[.cells d e7 false false,.dead,c8 e3 ds,c8 e4 gs]))=true:=by
 cases cs <;> cases ds <;> cases fs <;> cases gs <;> simp [eI,ak.live,ak.own,c8]
theorem Bf {B bw:List Bool}{S:bX}{m:Mb}{mb:Int}{x:o4}(hc:bq Tryz.prog 58 [.one (.ptr 2 0),.one (.ptr 0 0),.one (.ptr 22 0),.one (.int .i64 mb),.agg (mC m)] (aN 1 B::av B::(dV S++[aN 23 bw,av bw])) (.one (.int .i64 0)) (aN 24 (eF x) :: .dead::(dV x.S++[aN 25 (bC bw x 6),.dead,av (eF x),av (bC bw x 6)])))
 {HS:aq}{k:Nat}(hi:HS[0]? = some (aN k B)) (hk:HS[k]? = some (av B)) (hS:(HS.drop 2).take 20=dV S) (h22:HS[22]? = some (aN 23 bw)) (h23:HS[23]? = some (av bw)) (hd:(k == 1 || Nat.ble 24 k)=true) {N:Nat}(hN:HS.length=N) (hbd:Nat.blt (N+2) Mem.bound=true) :
 aG.Sound Tryz.prog ⟨58,[.one (.ptr 2 0),.one (.ptr 0 0),.one (.ptr 22 0),.one (.int .i64 mb),.agg (mC m)],HS,.one (.int .i64 0),bM HS ((0::k::bK)++[22,23]) (aN N (eF x) :: .dead::(dV x.S++[aN (N+1) (bC bw x 6),.dead,av (eF x),av (bC bw x 6)])),(0::k::bK)++[22,23]⟩:=by
 subst hN
 have hkk:k=1∨24≤k:=by simpa [Nat.ble_eq]using hd
 have nd0:=pG (k:=k) (by omega)
 have nd:((0::k::bK)++[22,23]).Nodup:=by
  refine List.nodup_append.2 ⟨nd0,by decide,fun a ha b hb=>?_⟩
  have hb':b=22∨b=23:=by simpa using hb
  simp only [bK,List.mem_cons,List.not_mem_nil,or_false]at ha
  omega
 have ht:∀ j,2≤j→j<22→nth ((0::k::bK)++[22,23]) j=j:=l5 k _
 have ht':∀ j,2≤j→j<22→nth (((0::k::bK)++[22,23])++List.range' HS.length 2) j=j:=fun j h1 h2=>by
  rw [List.append_assoc];exact l5 k _ j h1 h2
 have hv:=nW S ht hS (ls:=[22,23]) (l:=[aN 23 bw,av bw]) (ae.aW h22 rfl rfl rfl (.flat h23 .nil))
 have ho:=gM S 24 (by omega) (l:=[aN 23 bw,av bw]) (.cons (by simp [ak.cB,XC.ok,ca]) (.flat .nil))
 have ho':=gM x.S 26 (by omega) (l:=[aN 25 (bC bw x 6),.dead,av (eF x),av (bC bw x 6)]) (.cons (by simp [ak.cB,XC.ok,ca]) (.flat (.flat (.flat .nil))))
 have hr:=pF x.S ht' (l:=[aN 25 (bC bw x 6),.dead,av (eF x),av (bC bw x 6)]) (l':=[aN (HS.length+1) (bC bw x 6),.dead,av (eF x),av (bC bw x 6)]) (.cons (by simp only [ak.aw,List.map_cons,List.map_nil,XC.aw,au];rfl) (.flat (.flat (.flat .nil))))
 have hlen:(bM HS ((0::k::bK)++[22,23]) (aN HS.length (eF x) :: .dead::(dV x.S++[aN (HS.length+1) (bC bw x 6),.dead,av (eF x),av (bC bw x 6)]))).length=HS.length+2:=pz _ _ _ (by show 24≤26;omega)
 refine cj ((0::k::bK)++[22,23]) ((0::k::bK)++[22,23]) 2 hc nd (ae.aW hi rfl rfl rfl (.flat hk hv)) (.cons (by simp [ak.cB,XC.ok,ca]) (.flat ho)) (.cons (by simp [ak.cB,XC.ok,ca]) (.flat ho')) rfl (.cons (by show 2<24;omega) (.cons (by show 0<24;omega) (.cons (by show 22<24;omega) (.flat (.flat .nil))))) (.cons rfl (.cons rfl (.cons rfl (.flat (.flat .nil))))) (bG.ok _) (bG.aw _) ?_ (Az ..) rfl rfl (by rw [hlen];exact hbd) (.inl rfl)
 exact .cons (by simp only [ak.aw,List.map_cons,List.map_nil,XC.aw,au];rfl) (.flat hr)
abbrev mD:aq:=[.dead,.dead,.dead,cc 4 8 12,ay 5 6 7 cM,bg cM,bj cM,bh cM,ay 9 10 11 cZ,bg cZ,bj cZ,bh cZ,ay 13 14 15 cP,bg cP,bj cP,bh cP,.dead,.dead,.dead,.dead,.dead,.dead,.dead,.dead]
theorem xp (c a:List XC) (e e' e5 e6:TypeId) (cs fs:List XC) (S:bX):eI (.cells a e false false::c8 e' cs::(dV S++[.cells c e5 false false,c8 e6 fs])) mD=true:=by
 cases cs <;> cases fs <;> simp [eI,ak.live,ak.own,c8]
theorem ym {B bw:List Bool}{S:bX}{m:Mb}{mb:Int}(hc:bq Tryz.prog 58 [.one (.ptr 2 0),.one (.ptr 0 0),.one (.ptr 22 0),.one (.int .i64 mb),.agg (mC m)] (aN 1 B::av B::(dV S++[aN 23 bw,av bw])) (.one (.int .i64 2)) mD)
 {HS:aq}{k:Nat}(hi:HS[0]? = some (aN k B)) (hk:HS[k]? = some (av B)) (hS:(HS.drop 2).take 20=dV S) (h22:HS[22]? = some (aN 23 bw)) (h23:HS[23]? = some (av bw)) (hd:(k == 1 || Nat.ble 24 k)=true) {N:Nat}(hN:HS.length=N) (hbd:Nat.blt N Mem.bound=true) :
 aG.Sound Tryz.prog ⟨58,[.one (.ptr 2 0),.one (.ptr 0 0),.one (.ptr 22 0),.one (.int .i64 mb),.agg (mC m)],HS,.one (.int .i64 2),bM HS ((0::k::bK)++[22,23]) mD,(0::k::bK)++[22,23]⟩:=by
 subst hN
 have hkk:k=1∨24≤k:=by simpa [Nat.ble_eq]using hd
 have nd0:=pG (k:=k) (by omega)
 have nd:((0::k::bK)++[22,23]).Nodup:=by
  refine List.nodup_append.2 ⟨nd0,by decide,fun a ha b hb=>?_⟩
  have hb':b=22∨b=23:=by simpa using hb
  simp only [bK,List.mem_cons,List.not_mem_nil,or_false]at ha
  omega
 have ht:∀ j,2≤j→j<22→nth ((0::k::bK)++[22,23]) j=j:=l5 k _
 have ht':∀ j,2≤j→j<22→nth (((0::k::bK)++[22,23])++List.range' HS.length 0) j=j:=fun j h1 h2=>by
  rw [List.append_assoc];exact l5 k _ j h1 h2
 have hv:=nW S ht hS (ls:=[22,23]) (l:=[aN 23 bw,av bw]) (ae.aW h22 rfl rfl rfl (.flat h23 .nil))
 have ho:=gM S 24 (by omega) (l:=[aN 23 bw,av bw]) (.cons (by simp [ak.cB,XC.ok,ca]) (.flat .nil))
 have h4:=ht' 4 (by omega) (by omega)
 have h5:=ht' 5 (by omega) (by omega)
 have h6:=ht' 6 (by omega) (by omega)
 have h7:=ht' 7 (by omega) (by omega)
 have h8:=ht' 8 (by omega) (by omega)
 have h9:=ht' 9 (by omega) (by omega)
 have h10:=ht' 10 (by omega) (by omega)
 have h11:=ht' 11 (by omega) (by omega)
 have h12:=ht' 12 (by omega) (by omega)
 have h13:=ht' 13 (by omega) (by omega)
 have h14:=ht' 14 (by omega) (by omega)
 have h15:=ht' 15 (by omega) (by omega)
 have hlen:(bM HS ((0::k::bK)++[22,23]) mD).length=HS.length:=by
  rw [pz _ _ _ (by show 24≤24;omega)]
  show HS.length+(24-24)=_
  omega
 have hk':dL 24 mD:=by
  refine .flat (.flat (.flat (.cons ?_ (.cons ?_ (.flat (.flat (.flat (.cons ?_ (.flat (.flat (.flat (.cons ?_ (.flat (.flat (.flat (.flat (.flat (.flat (.flat (.flat (.flat (.flat (.flat .nil)))))))))))))))))))))))
  all_goals simp [ak.cB,XC.ok]
 refine cj ((0::k::bK)++[22,23]) ((0::k::bK)++[22,23]) 0 hc nd (ae.aW hi rfl rfl rfl (.flat hk hv)) (.cons (by simp [ak.cB,XC.ok,ca]) (.flat ho)) hk' rfl (.cons (by show 2<24;omega) (.cons (by show 0<24;omega) (.cons (by show 22<24;omega) (.flat (.flat .nil))))) (.cons rfl (.cons rfl (.cons rfl (.flat (.flat .nil))))) (bG.ok _) (bG.aw _) ?_ (xp ..) rfl rfl (by rw [hlen];exact hbd) (.inl rfl)
 refine .flat (.flat (.flat (.cons ?_ (.cons ?_ (.flat (.flat (.flat (.cons ?_ (.flat (.flat (.flat (.cons ?_ (.flat (.flat (.flat (.flat (.flat (.flat (.flat (.flat (.flat (.flat (.flat .nil)))))))))))))))))))))))
 all_goals simp only [ak.aw,List.map_cons,List.map_nil,XC.aw, *]
theorem nF {B bw:List Bool}{S:bX}{m:Mb}{mb:Int}{x:o4}(hc:bq Tryz.prog 58 [.one (.ptr 2 0),.one (.ptr 0 0),.one (.ptr 22 0),.one (.int .i64 mb),.agg (mC m)] [aN 1 B,av B,dS (S),cc 4 8 12,ay 5 6 7 cM,bg cM,bj cM,bh cM,ay 9 10 11 cZ,bg cZ,bj cZ,bh cZ,ay 13 14 15 cP,bg cP,bj cP,bh cP,cH 17 (S).cols (S).rows,.map (bp (S).M),.cells [.int .i64 (S).cols,.int .i64 (S).rows,.map 19,.map 20,.map 21] 171 false false,.map (ah (S).A),.map (ah (S).B),.map (ah (S).C),aN 23 bw,av bw] (.one (.int .i64 0)) [aN 24 (eF x),.dead,dS (x.S),cc 4 8 12,ay 5 6 7 cM,bg cM,bj cM,bh cM,ay 9 10 11 cZ,bg cZ,bj cZ,bh cZ,ay 13 14 15 cP,bg cP,bj cP,bh cP,cH 17 (x.S).cols (x.S).rows,.map (bp (x.S).M),.cells [.int .i64 (x.S).cols,.int .i64 (x.S).rows,.map 19,.map 20,.map 21] 171 false false,.map (ah (x.S).A),.map (ah (x.S).B),.map (ah (x.S).C),aN 25 (bC bw x 6),.dead,av (eF x),av (bC bw x 6)])
 {HS:aq}{k:Nat}(hi:HS[0]? = some (aN k B)) (hk:HS[k]? = some (av B)) (hS:(HS.drop 2).take 20=dV S) (h22:HS[22]? = some (aN 23 bw)) (h23:HS[23]? = some (av bw)) (hd:(k == 1 || Nat.ble 24 k)=true) {N:Nat}(hN:HS.length=N) {HS':aq}(hh:bM HS [0,k,2,3,4,5,6,7,8,9,10,11,12,13,14,15,16,17,18,19,20,21,22,23] [aN N (eF x),.dead,dS (x.S),cc 4 8 12,ay 5 6 7 cM,bg cM,bj cM,bh cM,ay 9 10 11 cZ,bg cZ,bj cZ,bh cZ,ay 13 14 15 cP,bg cP,bj cP,bh cP,cH 17 (x.S).cols (x.S).rows,.map (bp (x.S).M),.cells [.int .i64 (x.S).cols,.int .i64 (x.S).rows,.map 19,.map 20,.map 21] 171 false false,.map (ah (x.S).A),.map (ah (x.S).B),.map (ah (x.S).C),aN (N+1) (bC bw x 6),.dead,av (eF x),av (bC bw x 6)]=HS') (hbd:Nat.blt (N+2) Mem.bound=true) :
 aG.Sound Tryz.prog ⟨58,[.one (.ptr 2 0),.one (.ptr 0 0),.one (.ptr 22 0),.one (.int .i64 mb),.agg (mC m)],HS,.one (.int .i64 0),HS',(0::k::bK)++[22,23]⟩:=by
 subst hh
 exact Bf hc hi hk hS h22 h23 hd hN hbd
theorem lO {B bw:List Bool}{S:bX}{m:Mb}{mb:Int}(hc:bq Tryz.prog 58 [.one (.ptr 2 0),.one (.ptr 0 0),.one (.ptr 22 0),.one (.int .i64 mb),.agg (mC m)] [aN 1 B,av B,dS (S),cc 4 8 12,ay 5 6 7 cM,bg cM,bj cM,bh cM,ay 9 10 11 cZ,bg cZ,bj cZ,bh cZ,ay 13 14 15 cP,bg cP,bj cP,bh cP,cH 17 (S).cols (S).rows,.map (bp (S).M),.cells [.int .i64 (S).cols,.int .i64 (S).rows,.map 19,.map 20,.map 21] 171 false false,.map (ah (S).A),.map (ah (S).B),.map (ah (S).C),aN 23 bw,av bw] (.one (.int .i64 2)) mD)
 {HS:aq}{k:Nat}(hi:HS[0]? = some (aN k B)) (hk:HS[k]? = some (av B)) (hS:(HS.drop 2).take 20=dV S) (h22:HS[22]? = some (aN 23 bw)) (h23:HS[23]? = some (av bw)) (hd:(k == 1 || Nat.ble 24 k)=true) {N:Nat}(hN:HS.length=N) {HS':aq}(hh:bM HS [0,k,2,3,4,5,6,7,8,9,10,11,12,13,14,15,16,17,18,19,20,21,22,23] [.dead,.dead,.dead,cc 4 8 12,ay 5 6 7 cM,bg cM,bj cM,bh cM,ay 9 10 11 cZ,bg cZ,bj cZ,bh cZ,ay 13 14 15 cP,bg cP,bj cP,bh cP,.dead,.dead,.dead,.dead,.dead,.dead,.dead,.dead]=HS') (hbd:Nat.blt N Mem.bound=true) :
 aG.Sound Tryz.prog ⟨58,[.one (.ptr 2 0),.one (.ptr 0 0),.one (.ptr 22 0),.one (.int .i64 mb),.agg (mC m)],HS,.one (.int .i64 2),HS',(0::k::bK)++[22,23]⟩:=by
 subst hh
 exact ym hc hi hk hS h22 h23 hd hN hbd
end Go.Proofs.YtagpkhindehcbaaGreat
namespace Go.Proofs.YtagpkhindehcbaaGreat
open Go.Xm
variable [aC]
set_option maxRecDepth 10000 in
set_option maxHeartbeats 4000000 in
theorem KV {S:bX}{B bw:List Bool}{m:Mb}{mb:Int}(hP:kg S B bw m mb) (hk:m.kind=0) :
 bq Tryz.prog 29 [.one (.ptr 2 0),.one (.ptr 0 0),.one (.ptr 22 0),.one (.int .i64 mb),.agg (mC m)] [aN 1 B,av B,dS (S),cc 4 8 12,ay 5 6 7 cM,bg cM,bj cM,bh cM,ay 9 10 11 cZ,bg cZ,bj cZ,bh cZ,ay 13 14 15 cP,bg cP,bj cP,bh cP,cH 17 (S).cols (S).rows,.map (bp (S).M),.cells [.int .i64 (S).cols,.int .i64 (S).rows,.map 19,.map 20,.map 21] 171 false false,.map (ah (S).A),.map (ah (S).B),.map (ah (S).C),aN 23 bw,av bw] (.one (.int .i64 0)) [aN 24 ((B++aA S m)),.dead,dS (ba S mb m.v),cc 4 8 12,ay 5 6 7 cM,bg cM,bj cM,bh cM,ay 9 10 11 cZ,bg cZ,bj cZ,bh cZ,ay 13 14 15 cP,bg cP,bj cP,bh cP,cH 17 (ba S mb m.v).cols (ba S mb m.v).rows,.map (bp (ba S mb m.v).M),.cells [.int .i64 (ba S mb m.v).cols,.int .i64 (ba S mb m.v).rows,.map 19,.map 20,.map 21] 171 false false,.map (ah (ba S mb m.v).A),.map (ah (ba S mb m.v).B),.map (ah (ba S mb m.v).C),aN 25 bw,.dead,av ((B++aA S m)),av bw]:=by
 have hg:=hP.good
 have hm:=hg.ok
 have hD:=hP.st.dims
 have hmb:=hP.mb
 have hlen:=hP.len
 have hkl:=fu S m
 have hK:=ia B S m hm hg.kind hP.qp (by omega)
 rw [dA (by omega)]at hK
 have htE:cg S.M:=hP.st.tiny
 refine cO Tryz.func29 ?_
 repeat' (first
  |(refine qz ?_;first
   |refine jq ?_ (hle:=by rw [aL])
   |refine cl ?_ (hi:=by exact pH (S:=S) (S':=S) (bs:=B) (bs':=B++aA S m) (fun _ => .flat .nil) (.flat .nil) rfl hK rfl rfl rfl rfl nL nA rfl)
   |refine cl ?_ (hi:=by exact iw (S:=S) (bs:=(B++aA S m)) hD hmb rfl rfl rfl rfl nA rfl))
  |refine zG ?_|refine zA ?_|refine cX (fun _=>?_) (fun _=>?_)|refine aS (fun _=>?_) (fun _=>?_)|refine zL ?_|refine zF ?_|fail)
 show aF _ _ _ _ _ _ _ _;refine kV [0,1,2,3,4,5,6,7,8,9,10,11,12,13,14,15,16,17,18,19,20,21,22,23,25,23] ?_
 rfl
set_option maxRecDepth 10000 in
set_option maxHeartbeats 4000000 in
theorem KW {S:bX}{B bw:List Bool}{m:Mb}{mb:Int}(hP:kg S B bw m mb) (hk:m.kind=1) (x:o4) (hx:gY m mb ⟨ba (ax m mb (S,B++aA S m) 0).1 mb m.v,(ax m mb (S,B++aA S m) 0).2,0,0,fun _=>[]⟩ 6=some x) :
 bq Tryz.prog 29 [.one (.ptr 2 0),.one (.ptr 0 0),.one (.ptr 22 0),.one (.int .i64 mb),.agg (mC m)] [aN 1 B,av B,dS (S),cc 4 8 12,ay 5 6 7 cM,bg cM,bj cM,bh cM,ay 9 10 11 cZ,bg cZ,bj cZ,bh cZ,ay 13 14 15 cP,bg cP,bj cP,bh cP,cH 17 (S).cols (S).rows,.map (bp (S).M),.cells [.int .i64 (S).cols,.int .i64 (S).rows,.map 19,.map 20,.map 21] 171 false false,.map (ah (S).A),.map (ah (S).B),.map (ah (S).C),aN 23 bw,av bw] (.one (.int .i64 0)) [aN 24 (eF x),.dead,dS (x.S),cc 4 8 12,ay 5 6 7 cM,bg cM,bj cM,bh cM,ay 9 10 11 cZ,bg cZ,bj cZ,bh cZ,ay 13 14 15 cP,bg cP,bj cP,bh cP,cH 17 (x.S).cols (x.S).rows,.map (bp (x.S).M),.cells [.int .i64 (x.S).cols,.int .i64 (x.S).rows,.map 19,.map 20,.map 21] 171 false false,.map (ah (x.S).A),.map (ah (x.S).B),.map (ah (x.S).C),aN 25 (bC bw x 6),.dead,av (eF x),av (bC bw x 6)]:=by
 have hg:=hP.good
 have hm:=hg.ok
 have hD:=hP.st.dims
 have hmb:=hP.mb
 have hlen:=hP.len
 have hkl:=fu S m
 have hK:=ia B S m hm hg.kind hP.qp (by omega)
 rw [dA (by omega)]at hK
 have ht0:cg (S.M):=hP.st.tiny
 have hl0:=fW (m.v 0) (cf (S.M) S.cols S.rows mb 0)
 have htE:cg (aX (S.M) S.cols mb 0 (m.v 0)):=bE ht0 (hm.v 0)
 have hS2:gP (ba (ax m mb (S,B++aA S m) 0).1 mb m.v):=⟨hD,hP.st.lev,eg htE hm.v⟩
 have hB2:((ax m mb (S,B++aA S m) 0).2).length≤700000:=by
  show(((B++aA S m)++cG (m.v 0) (cf (S.M) S.cols S.rows mb 0))).length≤700000
  simp only [List.length_append,List.length_cons,List.length_nil]
  omega
 refine cO Tryz.func29 ?_
 repeat' (first
  |(refine qz ?_;first
   |refine jq ?_ (hle:=by rw [aL])
   |refine cl ?_ (hi:=by exact pH (S:=S) (S':=S) (bs:=B) (bs':=B++aA S m) (fun _ => .flat .nil) (.flat .nil) rfl hK rfl rfl rfl rfl nL nA rfl)
   |refine cl ?_ (hi:=by exact eZ (M:=S.M) (k:=0) ht0 hD hmb (by decide) (i:=16) (j:=17) rfl rfl (by decide) rfl)
   |refine cl ?_ (hi:=by exact iZ (bs:=(B++aA S m)) (v:=m.v 0) (e:=cf (S.M) S.cols S.rows mb 0) (hm.v 0) (cR ht0) (hP.right 0 (by decide)) (by simp only [List.length_append];omega) rfl rfl (by decide) nL nA rfl)
   |refine cl ?_ (hi:=by exact dc (M:=S.M) (k:=0) (v:=m.v 0) hD hmb (by decide) (i:=16) (j:=17) rfl rfl (by decide) nA rfl)
   |refine cl ?_ (hi:=by exact iw (S:=(ax m mb (S,B++aA S m) 0).1) (bs:=(ax m mb (S,B++aA S m) 0).2) hD hmb rfl rfl rfl rfl nA rfl)
   |refine cl ?_ (hi:=by exact nF (B:=(ax m mb (S,B++aA S m) 0).2) (S:=ba (ax m mb (S,B++aA S m) 0).1 mb m.v) (nG ((ax m mb (S,B++aA S m) 0).2) bw (ba (ax m mb (S,B++aA S m) 0).1 mb m.v) m mb hg hS2 hmb hB2 (by have:=hP.lenw;omega) x hx) rfl rfl rfl rfl rfl rfl nL nA rfl))
  |refine zG ?_|refine zA ?_|refine cX (fun _=>?_) (fun _=>?_)|refine aS (fun _=>?_) (fun _=>?_)|refine WX.loop ?_|refine WX.round ?_|refine zL ?_|refine zF ?_|fail)
 show aF _ _ _ _ _ _ _ _;refine kV [0,1,2,3,4,5,6,7,8,9,10,11,12,13,14,15,16,17,18,19,20,21,22,23,27,28] ?_
 rfl
set_option maxRecDepth 10000 in
set_option maxHeartbeats 4000000 in
theorem JE {S:bX}{B bw:List Bool}{m:Mb}{mb:Int}(hP:kg S B bw m mb) (hk:m.kind=1) (hx:gY m mb ⟨ba (ax m mb (S,B++aA S m) 0).1 mb m.v,(ax m mb (S,B++aA S m) 0).2,0,0,fun _=>[]⟩ 6=none) :
 bq Tryz.prog 29 [.one (.ptr 2 0),.one (.ptr 0 0),.one (.ptr 22 0),.one (.int .i64 mb),.agg (mC m)] [aN 1 B,av B,dS (S),cc 4 8 12,ay 5 6 7 cM,bg cM,bj cM,bh cM,ay 9 10 11 cZ,bg cZ,bj cZ,bh cZ,ay 13 14 15 cP,bg cP,bj cP,bh cP,cH 17 (S).cols (S).rows,.map (bp (S).M),.cells [.int .i64 (S).cols,.int .i64 (S).rows,.map 19,.map 20,.map 21] 171 false false,.map (ah (S).A),.map (ah (S).B),.map (ah (S).C),aN 23 bw,av bw] (.one (.int .i64 2)) mD:=by
 have hg:=hP.good
 have hm:=hg.ok
 have hD:=hP.st.dims
 have hmb:=hP.mb
 have hlen:=hP.len
 have hkl:=fu S m
 have hK:=ia B S m hm hg.kind hP.qp (by omega)
 rw [dA (by omega)]at hK
 have ht0:cg (S.M):=hP.st.tiny
 have hl0:=fW (m.v 0) (cf (S.M) S.cols S.rows mb 0)
 have htE:cg (aX (S.M) S.cols mb 0 (m.v 0)):=bE ht0 (hm.v 0)
 have hS2:gP (ba (ax m mb (S,B++aA S m) 0).1 mb m.v):=⟨hD,hP.st.lev,eg htE hm.v⟩
 have hB2:((ax m mb (S,B++aA S m) 0).2).length≤700000:=by
  show(((B++aA S m)++cG (m.v 0) (cf (S.M) S.cols S.rows mb 0))).length≤700000
  simp only [List.length_append,List.length_cons,List.length_nil]
  omega
 refine cO Tryz.func29 ?_
 repeat' (first
  |(refine qz ?_;first
   |refine jq ?_ (hle:=by rw [aL])
   |refine cl ?_ (hi:=by exact pH (S:=S) (S':=S) (bs:=B) (bs':=B++aA S m) (fun _ => .flat .nil) (.flat .nil) rfl hK rfl rfl rfl rfl nL nA rfl)
   |refine cl ?_ (hi:=by exact eZ (M:=S.M) (k:=0) ht0 hD hmb (by decide) (i:=16) (j:=17) rfl rfl (by decide) rfl)
   |refine cl ?_ (hi:=by exact iZ (bs:=(B++aA S m)) (v:=m.v 0) (e:=cf (S.M) S.cols S.rows mb 0) (hm.v 0) (cR ht0) (hP.right 0 (by decide)) (by simp only [List.length_append];omega) rfl rfl (by decide) nL nA rfl)
   |refine cl ?_ (hi:=by exact dc (M:=S.M) (k:=0) (v:=m.v 0) hD hmb (by decide) (i:=16) (j:=17) rfl rfl (by decide) nA rfl)
   |refine cl ?_ (hi:=by exact iw (S:=(ax m mb (S,B++aA S m) 0).1) (bs:=(ax m mb (S,B++aA S m) 0).2) hD hmb rfl rfl rfl rfl nA rfl)
   |refine cl ?_ (hi:=by exact lO (B:=(ax m mb (S,B++aA S m) 0).2) (S:=ba (ax m mb (S,B++aA S m) 0).1 mb m.v) (lQ ((ax m mb (S,B++aA S m) 0).2) bw (ba (ax m mb (S,B++aA S m) 0).1 mb m.v) m mb hg hS2 hmb hB2 (by have:=hP.lenw;omega) hx) rfl rfl rfl rfl rfl rfl nL nA rfl))
  |refine zG ?_|refine zA ?_|refine cX (fun _=>?_) (fun _=>?_)|refine aS (fun _=>?_) (fun _=>?_)|refine WX.loop ?_|refine WX.round ?_|refine zL ?_|refine zF ?_|fail)
 show aF _ _ _ _ _ _ _ _;refine kV [0,1,2,3,4,5,6,7,8,9,10,11,12,13,14,15,16,17,18,19,20,21,22,23] ?_
 rfl
end Go.Proofs.YtagpkhindehcbaaGreat
