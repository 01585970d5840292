/-
  A part of the proof: EncU.
-/
import Derived.Test.YtnkodcmkpfefhaaGreatEeZC
set_option maxRecDepth 10000
set_option maxHeartbeats 8000000
set_option linter.unusedVariables false
set_option linter.unusedSectionVars false
set_option linter.unusedSimpArgs false
namespace Go.Proofs.YtnkodcmkpfefhaaGreat
open Go.Xm
variable [aw]
def jW(v:Int):Fr:=⟨fun _=>v,fun _=>v,fun _=>v⟩
def oE:bO:=⟨0,false,false,0,0,1,1,[],[],[],[]⟩
abbrev Nk(qp p0:Int)(down inter:Bool):List XC := .ptr 0 0::dQ 1 1 14 15 16++[.int .i64 qp,.int .i64 p0,.nilp,.bool down,.bool inter]
abbrev Jy(c:gg)(tl:List XC)(W F:Fr)(r:ai):ai:=fe++(.cells (iJ c tl) 89 false false::yO 1 1 W::uO 1 1 W::vO 1 1 W::yO 1 1 F::uO 1 1 F::vO 1 1 F::r)
abbrev Iw(m:Nat):List XC:=[.int .i64 0,.slice m 0 1 (.toEnd 391)]
abbrev Jx(qp:Int)(g:Nat):List XC:=[.int .i64 0,.bool false,.bool false,.int .i64 qp,.slice g 0 1 (.toEnd 2)]
theorem EO{h:Hd}{p:Ph}{l:List Mb}{first:Int}{a b:List Int}(hp:qi h p l first = .inr (a,b)):a.length<=30000/\b.length<=30000:=by
 unfold qi at hp
 split at hp
 ·cases hp
 ·split at hp
  ·cases hp
  ·rename_i hl
   cases hp
   omega
theorem EU(qp:Int):XV.bl 29 (.tup [.agg (Jx qp 24),.agg (dQ 1 1 26 27 28),.one (.int .i64 0)]):=fun x hx=>by
 simp only[List.mem_cons,List.not_mem_nil,or_false]at hx
 rcases hx with rfl|rfl|rfl
 ·intro c hc
  simp only[List.mem_cons,List.not_mem_nil,or_false]at hc
  rcases hc with rfl|rfl|rfl|rfl|rfl
  ·trivial
  ·trivial
  ·trivial
  ·trivial
  ·show 24<29;omega
 ·exact bI (e:=0) (a:=true) (b:=true) (by show 26<29;omega) (by show 27<29;omega) (by show 28<29;omega)
 ·trivial
theorem ET{c:gg}(hr:b7 c.hd)(hc1:c.hd.cols=1)(hc2:c.hd.rows=1)(hmn:1<=c.many/\c.many<=64)(htg:c.target=0)(hw:c.wave=false){qp p0:Int}(hqp:1<=qp/\qp<=31)(down inter:Bool){W F:Fr}(hW:oV W)(hF:oV F){M:Mb}{S2:bO}(hM:dp c.hd 1 1 F 0 qp qp oE=M)(hS:i7 c.hd 1 1 F 0 qp qp oE=S2)(hT:fS c.hd ⟨0,false,false,qp⟩ [M] 0){a b:List Int}(hp:qi c.hd ⟨0,false,false,qp⟩ [M] 0 = .inr (a,b)){G:Fr}(hG:gE 1 1 0 (gD c.hd 1 1 W 0 M false) (jW 128) 6=G) :
 aW Tryz.prog 33 [.one (.ptr 13 0),.one (.int .i64 0),.agg (dQ 1 1 17 18 19)] (Jy c (Nk qp p0 down inter) W F []) (.tup [.agg (Jx qp 24),.agg (dQ 1 1 26 27 28),.one (.int .i64 0)]) (Jy c (vU 1 1 0 14 15 16 20 qp 0 false false) W F (qm S2 20 :: .map (aj S2.A) :: .map (aj S2.B) :: .map (aj S2.C) :: .cells (Iw 25) 59 true false::dG 68 (fl mC [M])::yO 1 1 G::uO 1 1 G::vO 1 1 G::[])):=by
 have k0:(bX c)[0]? = some (.int .i64 1):=by rw[<-hc1];rfl
 have k1:(bX c)[1]? = some (.int .i64 1):=by rw[<-hc2];rfl
 have k6:(bX c)[131+6]? = some (.int .i64 c.many):=by rw[cy];rfl
 have gd:=mz c 1 1 0 14 15 16 20 qp 0 false false 15
 have gk:=mz c 1 1 0 14 15 16 20 qp 0 false false 0
 have gw:((mT c 1 1 0 14 15 16 20 qp 0 false false).drop (139+1)).take 11=dQ 1 1 14 15 16:=(DZ c (vU 1 1 0 14 15 16 20 qp 0 false false) 1 11).trans rfl
 have hcc:c.hd.cols=((1:Nat):Int):=hc1
 obtain⟨hla,hlb⟩:=EO hp
 have hMr:Im M:=by rw[<-hM];exact(tb c.hd 1 1 F 0 qp qp oE).1
 have hro:A1 (dG 68 (fl mC [M])) mC [M]:=⟨fun _=>⟨_,_,_,rfl⟩,inferInstance⟩
 refine cO Tryz.func33 ?_
 repeat' (first
  |(refine qz ?_;first
   |refine mU (cs:=bX c) ?_ (hle:=by rw[kh];exact Nat.le_of_ble_eq_true rfl) (hc:=DX c _)
   |refine lO (cs:=bX c) ?_ (hs1:=by rw[aT]) (hs2:=by rw[aT])
   |refine qd (zs:=bX ⟨⟨0,0,false,fun _=>0,fun _=>0⟩,0,0,0,false,false,false,0,0⟩) (hz:=qR) ?_
   |refine st ?_ (hle:=by rw[kh];exact Nat.le_of_ble_eq_true rfl) (hv:=n_ c _ 13 _)
   |refine st ?_ (hle:=by rw[kh];exact Nat.le_of_ble_eq_true rfl) (hv:=n_ c _ 15 _)
   |refine st ?_ (hle:=by rw[kh];exact Nat.le_of_ble_eq_true rfl) (hv:=n_ c _ 16 _)
   |refine ld (hc:=qy c _ 12) ?_
   |refine ld (hc:=qy c _ 15) ?_
   |refine ld (hc:=qy c _ 16) ?_
   |refine ld (hc:=k0) ?_
   |refine ld (hc:=k1) ?_
   |refine cl ?_ (hi:=by exact o9 (C:=1) (R:=1) (by omega) (by omega) (by omega) rfl rfl nL nA rfl))
  |refine Gr (id:=5) [15] ?_|refine zz ?_|refine zx (fun _=>?_) (fun _=>?_)|fail)
 refine WX.loop ?_
 refine WX.round ?_
 repeat' (first
  |(refine qz ?_;first
   |refine st ?_ (hle:=by rw[kh];exact Nat.le_of_ble_eq_true rfl) (hv:=n_ c _ 14 _)
   |refine ld (hc:=qy c _ 12) ?_
   |refine ld (hc:=k0) ?_
   |refine ld (hc:=k1) ?_
   |refine ld (hc:=k6) ?_
   |refine cl ?_ (hi:=by exact wj (cols:=1) (rows:=1) (by omega) (by omega) nL nA rfl))
  |refine zz ?_|refine zx (fun _=>?_) (fun _=>?_)|fail)
 refine WX.via (al2:=[(0,.one (.ptr 13 0)),(5,.one (.ptr 24 0)),(6,.one (.ptr 25 0)),(7,.one (.ptr 26 0)),(9,.one (.ptr 27 0)),(10,.one (.ptr 28 0)),(11,.one (.ptr 32 0)),(12,.one (.int .i64 1)),(13,.one (.int .i64 0)),(14,.one (.int .i64 0)),(15,.one (.ptr 33 0)),(16,.one (.int .i64 qp)),(17,.one (.int .i64 0))]) (hs2:=oZ c 1 1 qp 0 false false (yO 1 1 W) (uO 1 1 W) (vO 1 1 W) F oE [.cells (dQ 1 1 17 18 19) 44 false false,.cells [.int .i64 0,.bool false,.bool false,.int .i64 0,.nils] 56 false false,.cells [.int .i64 0,.int .i64 0,.int .i64 0,.int .i64 0,.nils,.int .i64 0,.int .i64 0,.nils,.int .i64 0,.int .i64 0,.nils] 44 false false,.cells (bX c) 28 false false,.cells [.int .i64 0,.bool false,.bool false,.int .i64 qp,.nils] 56 false false,yO 1 1 (jW 128),uO 1 1 (jW 128),vO 1 1 (jW 128),.cells (dQ 1 1 29 30 31) 44 false false,.cells [.int .i64 0,.nils] 59 false false]) (b_ [0,1,2,3,4,5,6,7,8,9,10,11,12,13,14,15,16,17,18,19,30,31,32,33,20,21,22,23,24,25,26,27,28,29]) (hX (objs:=by repeat' (first|exact ay.nil|refine ay.cons (ff (by show 0<34;omega) (by show 14<34;omega) (by show 15<34;omega) (by show 16<34;omega) (by show 20<34;omega)) ?_|refine ay.cons (bI (by show 17<34;omega) (by show 18<34;omega) (by show 19<34;omega)) ?_|refine ay.cons (bI (by show 29<34;omega) (by show 30<34;omega) (by show 31<34;omega)) ?_|refine ay.flat ?_|refine ay.cons (by first|(simp[ah.bl,XC.ok,aE];done)|simp[ah.bl,XC.ok,aE, *]) ?_))) ?_
 simp only[oZ,fe,List.cons_append,List.nil_append]
 refine WX.c6 rfl ?_
 refine WX.c6 rfl ?_
 refine WX.loop ?_
 refine WX.round ?_
 repeat' (first
  |(refine qz ?_;first
   |refine ld (hc:=k6) ?_
   |refine qd (zs:=mC sW) (hz:=iZ) ?_
   |refine lO (cs:=mC M) ?_ (hs1:=by rw[aQ]) (hs2:=by rw[aQ])
   |refine mU (cs:=bG c.hd) ?_ (hle:=by rw[aT];decide) (hc:=q9 c)
   |refine mU (cs:=dQ 1 1 14 15 16) ?_ (hle:=by rw[vR];decide) (hc:=gw)
   |refine ld (hc:=gd) ?_
   |refine fV ?_ (hle:=by first|rw[fP]|rw[aQ])
   |refine cl ?_ (hi:=by exact yL (mb:=0) hr hcc (by omega) (by omega) (by omega) (by omega) hw hF rfl rfl ⟨kn,kn,kn⟩ (by decide) hqp hM hS _ rfl (by simp only[oZ,fe,List.cons_append,List.nil_append];exact rfl) rfl)
   |refine cl ?_ (hi:=by exact HE (C:=1) (R:=1) (mb:=0) (W:=W) (F:=jW 128) hr (by omega) (by omega) hW (by decide) hMr hG rfl rfl rfl rfl rfl rfl (by decide) nA rfl)
   |refine sQ (enc:=mC) (a:=M) ?_
   |refine uf (enc:=mC) (i:=34) (n:=0) (q:=[]) (r:=[M]) ?_)
  |refine zz ?_|refine zx (fun _=>?_) (fun _=>?_)|fail)
 refine WX.round ?_
 refine WX.via (al2:=[(0,.one (.ptr 13 0)),(5,.one (.ptr 24 0)),(6,.one (.ptr 25 0)),(7,.one (.ptr 26 0)),(9,.one (.ptr 27 0)),(10,.one (.ptr 28 0)),(11,.one (.ptr 32 0)),(12,.one (.int .i64 1)),(13,.one (.int .i64 0)),(14,.one (.int .i64 0)),(15,.one (.ptr 33 0)),(16,.one (.int .i64 M.qp)),(17,.one (.int .i64 1))]) (hs2:=oZ c 1 1 qp 0 false false (yO 1 1 W) (uO 1 1 W) (vO 1 1 W) F S2 [.cells (dQ 1 1 17 18 19) 44 false false,.cells [.int .i64 0,.bool false,.bool false,.int .i64 0,.nils] 56 false false,.cells [.int .i64 0,.int .i64 0,.int .i64 0,.int .i64 0,.nils,.int .i64 0,.int .i64 0,.nils,.int .i64 0,.int .i64 0,.nils] 44 false false,.cells (bX c) 28 false false,.cells [.int .i64 0,.bool false,.bool false,.int .i64 qp,.nils] 56 false false,yO 1 1 G,uO 1 1 G,vO 1 1 G,.cells (dQ 1 1 29 30 31) 44 false false,.cells (Iw 34) 59 false false,dG 68 (fl mC [M]),.dead]) (b_ [0,1,2,3,4,5,6,7,8,9,10,11,12,13,14,15,16,17,18,19,20,21,22,23,24,25,26,27,28,29,30,31,32,33,38,35]) (hX (objs:=by repeat' (first|exact ay.nil|refine ay.cons (ff (by show 0<36;omega) (by show 14<36;omega) (by show 15<36;omega) (by show 16<36;omega) (by show 20<36;omega)) ?_|refine ay.cons (bI (by show 17<36;omega) (by show 18<36;omega) (by show 19<36;omega)) ?_|refine ay.cons (bI (by show 29<36;omega) (by show 30<36;omega) (by show 31<36;omega)) ?_|refine ay.flat ?_|refine ay.cons (by first|(simp[ah.bl,XC.ok,aE];done)|simp[ah.bl,XC.ok,aE, *]) ?_))) ?_
 simp only[oZ,fe,List.cons_append,List.nil_append]
 repeat' (first
  |(refine qz ?_;first
   |refine ld (hc:=k6) ?_
   |refine mU (cs:=j5 c.hd) ?_ (hle:=by rw[aT];decide) (hc:=mv c)
   |refine mU (cs:=uL ⟨0,false,false,qp⟩) ?_ (hle:=by decide) (hc:=by exact rfl)
   |refine ld (hc:=gk) ?_
   |refine cl ?_ (hi:=by exact Hx hT hro hp rfl rfl rfl (by decide) nL (by simp only[List.cons_append,List.nil_append];exact rfl) rfl)
   |refine Ky (k:=1) (cs:=Iw 34) ?_ (hf:=by exact rfl)
   |refine Mg 35 0 [] ?_)
  |refine zz ?_|refine zx (fun _=>?_) (fun _=>?_)|fail)
 refine WX.round ?_
 repeat' (first
  |(refine qz ?_;first
   |refine ld (hc:=k6) ?_
   |refine fV ?_ (hle:=by rw[fP])
   |refine cl ?_ (hi:=by exact Cl htg (C:=1) (R:=1) (xq:=qp) (pic:=0) (down:=false) (inter:=false) (x1:=yO 1 1 W) (x2:=uO 1 1 W) (x3:=vO 1 1 W) (F:=F) (S:=S2) _ rfl rfl))
  |refine zz ?_|refine zx (fun _=>?_) (fun _=>?_)|fail)
 show aD _ _ _ _ _ _ _ _;refine kV [0,1,2,3,4,5,6,7,8,9,10,11,12,13,14,15,16,17,18,19,20,21,22,23,39,34,29,30,31] ?_ (hk:=by repeat' (first|exact ay.nil|refine ay.cons (ff (by show 0<29;omega) (by show 14<29;omega) (by show 15<29;omega) (by show 16<29;omega) (by show 20<29;omega)) ?_|refine ay.flat ?_|refine ay.cons (by first|(simp[ah.bl,XC.ok,aE];done)|simp[ah.bl,XC.ok,aE, *]) ?_)) (hr:=ez.two rfl (.cell rfl rfl (bq rfl) (.cell rfl rfl (bq rfl) (.tmp rfl .nil)))) (hok:=EU qp)
 rfl
end Go.Proofs.YtnkodcmkpfefhaaGreat
