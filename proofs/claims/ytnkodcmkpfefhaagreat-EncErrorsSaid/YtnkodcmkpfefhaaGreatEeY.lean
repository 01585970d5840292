/-
  A part of the proof: EncMain, EncIn, EncP.
-/
import Derived.Test.YtnkodcmkpfefhaaGreatEeM
import Derived.Test.YtnkodcmkpfefhaaGreatEeW
import Derived.Test.YtnkodcmkpfefhaaGreatEeX
set_option maxRecDepth 10000
set_option maxHeartbeats 8000000
set_option linter.unusedVariables false
set_option linter.unusedSectionVars false
set_option linter.unusedSimpArgs false
namespace Go.Xm
variable [aw]
variable {P:Program} {ops:Array Oper} {nt nI:Nat} {al:bc} {hs:ai} {o:Oper} {l:List Oper} {L:List aC} {K:List Ab->bc->ai->Prop} {d:Nat}
theorem NG{t e:TypeId}{zs:List XC}{s:Nat}{a b:Operand}{kl kc:IntKind}{x:Int}{n:Nat}{N:Nat}{hs':ai}(hx:x=(n:Nat))(hk:SK P ops nt L l ((d,.one (.slice N 0 n (.exact n)))::al) hs' fun bs=>K (⟨true,.none,[N]⟩::bs))(hn:n<=2000000000)(ho:o.op = .makeSlice t a b:=by exact rfl)(hu:aZ P t (.slice e):=by infer_instance)(hz:aX P e zs:=by infer_instance)(hz0:0<zs.length:=by exact Nat.le_of_ble_eq_true rfl)(hI:TI P e s:=by infer_instance)(wn:Wn ops nt al o d:=by exact⟨rfl,rfl,rfl⟩)(ha:ag (rg al) a = .one (.int kl x):=by exact rfl)(hb:ag (rg al) b = .one (.int kc x):=by exact rfl)(hN:hs.length=N:=by exact n2)(hbd:Nat.blt N Mem.bound=true:=by exact rfl)(hh:hs++[.cells (dv zs (n*s)) e false false]=hs':=by exact n3):SK P ops nt L (o::l) al hs K:=by
 subst hN hh hx
 refine SK.lift wn.e wn.l (fun _=>?_) hk
 intro m hm
 obtain⟨m',h1,h2,h3⟩:=hm.push (.cells (dv zs (n*s)) e false false) (by simpa [Nat.blt_eq]using hbd)
 refine⟨m',?_,h2,h3⟩
 unfold iP
 rw[wn.w]
 refine cj (by rw[ho];rfl) (by rw[ho];rfl) (by rw[ho];rfl) ?_
 rw[ho]
 obtain⟨ti,hti,hs1,hby⟩:=hI.get
 have hbb:(ti.bytes:Int)*(n:Nat)<=281474976710656:=by
  have:(ti.bytes:Int)*(n:Nat)<=65536*(n:Nat):=Int.mul_le_mul_of_nonneg_right (by omega) (by omega)
  omega
 simp only[bV,fX,dO,hu.out,ha,hb,hti,hz.out,hs1,Int.toNat_natCast,h1,hm.n]
 rw[if_pos ⟨by omega,by omega,by omega,hbb,hz0⟩]
end Go.Xm
namespace Go.Proofs.YtnkodcmkpfefhaaGreat
open Go.Xm
variable [aw]
theorem rj(e:Int)(τ : Nat->Nat):(ri e).ax τ = ri e:=XV.cV (kg e) τ
theorem Bt{c:gg}(he:fB c=0){HS:ai}(hb:Nat.blt HS.length Mem.bound=true):aC.Sound Tryz.prog ⟨11,[.agg (bX c),.one .nils],HS,ri 7,HS,[]⟩:=
 au (yr he) (by simp only[List.all_cons,List.all_nil,Bool.and_true];rw[show(XV.agg (bX c)).shut=true from dB c];rfl) (kg 7) hb
theorem Bs{c:gg}{e:Int}(he:fB c=e)(hne:e≠0){x y z:ah}[aR x][aR y][aR z]{HS:ai}{i a b d:Nat}(hi:HS[i]? = some (.cells (dQ 1 1 a b d) 44 false false))(ha:HS[a]? = some x)(hb':HS[b]? = some y)(hd:HS[d]? = some z)(nd : [i,a,b,d].Nodup)(hb:Nat.blt HS.length Mem.bound=true) :
 aC.Sound Tryz.prog ⟨11,[.agg (bX c),.one (.slice i 0 1 (.exact 1))],HS,ri e,HS,[]⟩:=
 eE [i,a,b,d] (yn he hne x y z) nd (.cons hi (.flat ha (.flat hb' (.flat hd .nil)))) (.cons (bI (by show 1<4;omega) (by show 2<4;omega) (by show 3<4;omega)) (.flat (.flat (.flat .nil)))) (.flat (.cons (by show 0<4;omega) .nil)) (.flat (.cons rfl .nil)) (XV.dS (kg e) _) (rj e _) hb rfl
theorem yq{c:gg}(he:fB c=0){n:Nat}(hn:17<=n/\n<=1000){x:ah}[aR x]{HS:ai}{i:Nat}(hi:HS[i]? = some x)(hb:Nat.blt HS.length Mem.bound=true) :
 aC.Sound Tryz.prog ⟨11,[.agg (bX c),.one (.slice i 0 n (.exact n))],HS,ri 7,HS,[]⟩:=
 eE [i] (vT he hn x) (by simp) (.flat hi .nil) (.flat .nil) (.flat (.cons (by show 0<1;omega) .nil)) (.flat (.cons rfl .nil)) (XV.dS (kg 7) _) (rj 7 _) hb rfl
theorem yp{c:gg}(he:fB c=0){C R:Nat}(hc:c.hd.cols=(C:Nat))(hr:c.hd.rows=(R:Nat))(hC:1<=C/\C<=3)(hR:1<=R/\R<=3){x1 x2 x3 y1 y2 y3:ah}[aR x1][aR x2][aR x3][aR y1][aR y2][aR y3]{HS:ai}{i a1 a2 a3 b1 b2 b3:Nat}(hi:HS[i]? = some (.cells (dQ C R a1 a2 a3++dQ (C+1) R b1 b2 b3) 44 false false))(h1:HS[a1]? = some x1)(h2:HS[a2]? = some x2)(h3:HS[a3]? = some x3)(h4:HS[b1]? = some y1)(h5:HS[b2]? = some y2)(h6:HS[b3]? = some y3)(nd : [i,a1,a2,a3,b1,b2,b3].Nodup)(hb:Nat.blt HS.length Mem.bound=true) :
 aC.Sound Tryz.prog ⟨11,[.agg (bX c),.one (.slice i 0 2 (.exact 2))],HS,ri 4,HS,[]⟩:=
 eE [i,a1,a2,a3,b1,b2,b3] (vS he hc hr hC hR x1 x2 x3 y1 y2 y3) nd (.cons hi (.flat h1 (.flat h2 (.flat h3 (.flat h4 (.flat h5 (.flat h6 .nil))))))) (.cons (yz (by show 6<7;omega)) (.flat (.flat (.flat (.flat (.flat (.flat .nil))))))) (.flat (.cons (by show 0<7;omega) .nil)) (.flat (.cons rfl .nil)) (XV.dS (kg 4) _) (rj 4 _) hb rfl
theorem xD{zs:List XC}(h:zs.all XC.shut=true)(n:Nat)(e:TypeId)(a b:Bool):aR (.cells (dv zs n) e a b):=fF (List.all_eq_true.2 fun c hc=>by
 obtain⟨j,_,rfl⟩:=List.mem_map.1 hc
 rw[List.getD_eq_getElem?_getD]
 cases hj:zs[j%zs.length]? with
 | none=>rfl
 | some x=>exact List.all_eq_true.1 h x (List.mem_of_getElem? hj))
theorem G7{h:Hd}(hr:vz h):b7 (og h):=fun i hi=>by
 have ht:=hr.tab i hi
 show(0<=(lM h).a i/\(lM h).a i<=255)/\(0<=(lM h).b i/\(lM h).b i<=255)
 unfold lM
 split
 ·show(0<=max (h.a i) 8/\max (h.a i) 8<=255)/\(0<=max (h.b i) 8/\max (h.b i) 8<=255)
  omega
 ·show(0<=(0:Int)/\(0:Int)<=255)/\(0<=(0:Int)/\(0:Int)<=255)
  decide
abbrev Nc:List XC:=[.int .i64 0,.int .i64 0,.int .i64 0,.int .i64 0,.nils,.int .i64 0,.int .i64 0,.nils,.int .i64 0,.int .i64 0,.nils]
instance LU (n:Nat) (e:TypeId) (a b:Bool):aR (.cells (dv Nc n) e a b):=xD rfl n e a b
theorem sR(hA:aW Tryz.prog 7 [] [] (.one (.bool true)) []){c:gg}(hc:nv c){q:List S6}{ob:ah}(ho:A1 ob xR q){cs:XC}(hcs:gS cs 0 0 q.length)(hq:q.length<=9223372036854775807)(ha:∀i,i<q.length->AY (q.getD i default).ix (q.getD i default).n){many pic cols qp:Int}(hm:0<=many/\many<=255)(h1 : -9223372036854775808<=pic/\pic<=9223372036854775807)(h2 : -9223372036854775808<=cols/\cols<=9223372036854775807) :
 aW Tryz.prog 3 [.agg (bX c),.one cs,.one (.int .u8 many),.one (.int .i64 pic),.one (.int .i64 cols),.one (.int .i64 qp)] [ob] (.one (.bool true)) [ob]:=by
 have hfo:=ho.flat
 have awk:∀HS:ai,Nat.blt HS.length Mem.bound=true->aC.Sound Tryz.prog ⟨7,[],HS,.one (.bool true),HS,[]⟩:=fun HS hb=>au hA rfl rfl hb
 obtain⟨b,hlc⟩:=yH ho hcs hq ha
 have lok:cs.ok 1:=hcs.ok (by omega)
 have lid:cs.ax (nth [0])=cs:=hcs.id rfl
 cases b with
 | false=>
   refine cO Tryz.func3 ?_
   repeat' (first
    |(refine qz ?_;first
     |refine cl ?_ (hi:=by exact awk _ rfl)
     |refine cl ?_ (hi:=by exact pc hlc lok lid rfl rfl))
    |refine zz ?_|refine zx (fun _=>?_) (fun _=>?_)|fail)
   show aD _ _ _ _ _ _ _ _;refine kV [0] ?_
   rfl
 | true=>
   by_cases g3:q.length<=3
   ·obtain⟨R,hR⟩:∃R,ux c.hd=R:=⟨_,rfl⟩
    obtain⟨E,hE⟩:∃E,fB c=E:=⟨_,rfl⟩
    have e0:=cy c 0
    have e1:=cy c 1
    have e2:=cy c 2
    have e6:=cy c 6
    have e7:=cy c 7
    obtain⟨d,hd⟩:∃d,iu c=d:=⟨_,rfl⟩
    refine cO Tryz.func3 ?_
    repeat' (first
     |(refine qz ?_;first
      |refine cl ?_ (hi:=by exact awk _ rfl)
      |refine cl ?_ (hi:=by exact pc hlc lok lid rfl rfl)
      |refine mU (cs:=j5 c.hd) ?_ (hle:=by rw[aT];decide) (hc:=mv c)
      |refine cl ?_ (hi:=by exact ru hR rfl)
      |refine ld (hc:=e0) ?_
      |refine ld (hc:=e1) ?_
      |refine ld (hc:=e2) ?_
      |refine ld (hc:=e6) ?_
      |refine ld (hc:=e7) ?_)
     |refine WX.Iy 0 (σ:=Unit) (fun _=>[(2,.one (.int .u8 many)),(3,.one (.int .i64 pic)),(4,.one (.int .i64 cols)),(5,.one (.int .i64 qp)),(6,.one (.ptr 1 0)),(13,.one (.int .i64 E))]) (fun _=>[ob,.cells (bX c) 28 false false]) (fun _=>True) (fun _ _=>hX) ?_ (fun _ _=>?_)|refine zz ?_|refine zx (fun _=>?_) (fun _=>?_)|fail)
    any_goals first
     | exact⟨rfl,(),_,trivial,by rw[show E=R from(by rw[<-hE];unfold fB;rw[hR];(repeat' split)<;>omega)];exact(b_ [0,1])⟩
     | exact⟨(),_,trivial,by rw[show E=6 from(by rw[<-hE];unfold fB;rw[hR];(repeat' split)<;>omega)];exact(b_ [0,1])⟩
     | exact⟨(),_,trivial,by rw[show E=2 from(by rw[<-hE];unfold fB;rw[hR];(repeat' split)<;>omega)];exact(b_ [0,1])⟩
     | exact⟨(),_,trivial,by rw[show E=7 from(by rw[<-hE];unfold fB;rw[hR];(repeat' split)<;>omega)];exact(b_ [0,1])⟩
     | exact⟨(),_,trivial,by rw[show E=R from(by rw[<-hE];unfold fB;rw[hR];(repeat' split)<;>omega)];exact(b_ [0,1])⟩
     | exact⟨(),_,trivial,by rw[show E=0 from(by rw[<-hE];unfold fB;rw[hR];(repeat' split)<;>omega)];exact(b_ [0,1])⟩
     | exact⟨rfl,(),_,trivial,by rw[show E=0 from(by rw[<-hE];unfold fB;rw[hR];(repeat' split)<;>omega)];exact(b_ [0,1])⟩
    clear hR e0 e1 e2 e6 e7
    have fr:=fun {HS:ai} {N:Nat}(hN:HS.length=N) {HS':ai}=>oh (C:=1) (R:=1) (v:=1) (by omega) (by omega) (by omega) (x:=1) (y:=1) rfl rfl hN (HS':=HS')
    repeat' (first
     |(refine qz ?_;first
      |refine fV ?_ (hle:=by rw[aT])
      |refine cl ?_ (hi:=by exact i1 hE rfl)
      |refine cl ?_ (hi:=by exact fr nL nA rfl)
      |refine Ky (k:=1) (cs:=dQ 1 1 _ _ _) ?_ (hf:=by exact rfl)
      |refine qd (zs:=cD mB .nils) (hz:=fZ) ?_
      |refine lO (cs:=cD mB .nils) ?_ (hs1:=by rw[bd]) (hs2:=by rw[bd])
      |refine cl ?_ (hi:=by exact Bs hE (by omega) rfl rfl rfl rfl (by decide) rfl))
     |refine Gr (id:=16) [8] ?_|refine WX.EF 15 (σ:=Unit) (fun _=>[(2,.one (.int .u8 many)),(3,.one (.int .i64 pic)),(4,.one (.int .i64 cols)),(5,.one (.int .i64 qp)),(6,.one (.ptr 1 0))]) (fun _=>[ob,.cells (bX c) 28 false false]) (fun _=>True) (fun _ _=>hX) ?_ (fun _ _=>?_)|refine zz ?_|refine zx (fun _=>?_) (fun _=>?_)|fail)
    any_goals exact⟨rfl,(),_,trivial,(b_ [0,1])⟩
    obtain⟨k1,k2,k3,k4,k5⟩:=zY c hc
    rw[hd]at k1 k2 k3 k4 k5
    have hraw:b7 d.hd:=by rw[<-hd];exact G7 hc.hd
    obtain⟨C,hC⟩:∃C:Nat,d.hd.cols=(C:Nat):=⟨d.hd.cols.toNat,by omega⟩
    obtain⟨W,hW⟩:∃W:Nat,d.hd.rows=(W:Nat):=⟨d.hd.rows.toNat,by omega⟩
    have f0:(bX d)[0]? = some (.int .i64 (C:Nat)):=by rw[<-hC];rfl
    have f1:(bX d)[1]? = some (.int .i64 (W:Nat)):=by rw[<-hW];rfl
    have hC1:d.hd.cols+1=((C+1:Nat):Int):=by omega
    have er1:=vY hraw qp true
    have er2:=vY hraw qp false
    have hmn:17+many=((17+many).toNat:Nat):=by omega
    repeat' (first
     |(refine qz ?_;first
      |refine cl ?_ (hi:=by exact th hc hd rfl)
      |refine qd (zs:=bX ⟨⟨0,0,false,fun _=>0,fun _=>0⟩,0,0,0,false,false,false,0,0⟩) (hz:=qR) ?_
      |refine qd (zs:=cD mB .nils) (hz:=fZ) ?_
      |refine lO (cs:=bX d) ?_ (hs1:=by rw[aT]) (hs2:=by rw[aT])
      |refine mU (cs:=bG d.hd) ?_ (hle:=by rw[aT];decide) (hc:=q9 d)
      |refine mU (cs:=j5 d.hd) ?_ (hle:=by rw[aT];decide) (hc:=mv d)
      |refine fV ?_ (hle:=by rw[aT])
      |refine cl ?_ (hi:=by exact Bt k1 rfl)
      |refine lO (cs:=cD mB .nils) ?_ (hs1:=by rw[bd]) (hs2:=by rw[bd])
      |refine NG (zs:=Nc) hmn ?_ (by omega)
      |refine cl ?_ (hi:=by exact yq k1 (n:=(17+many).toNat) (by omega) rfl rfl)
      |refine cl ?_ (hi:=by first|exact oh (C:=C) (R:=W) (by omega) (by omega) (by omega) hC hW nL nA rfl|exact oh (C:=C+1) (R:=W) (by omega) (by omega) (by omega) hC1 hW nL nA rfl)
      |refine Ky (k:=2) (cs:=dQ C W _ _ _++dQ (C+1) W _ _ _) ?_ (hf:=by exact rfl)
      |refine cl ?_ (hi:=by exact yp k1 hC hW (by omega) (by omega) rfl rfl rfl rfl rfl rfl rfl (by decide) rfl)
      |refine cl ?_ (hi:=by exact v7 hraw rfl rfl)
      |refine cl ?_ (hi:=by exact o7 (by omega) (by omega) rfl)
      |refine cl ?_ (hi:=by exact DD hraw rfl rfl))
     |refine Gr (id:=21) [10] ?_|refine Gr (id:=22) [22] ?_|refine zz ?_|refine zx (fun _=>?_) (fun _=>?_)|refine aS (by first|exact af.nil|exact af.one _|exact af.i3 (by repeat' (first|exact True.intro|refine And.intro ?_ ?_|exact Compat.ne rfl|exact mw|exact my rfl))) ⟨by kernel_rfl,?_⟩|refine aS (by first|exact af.nil|exact af.one _|exact af.i3 (by repeat' (first|exact True.intro|refine And.intro ?_ ?_|exact Compat.ne rfl|exact mw|exact my rfl))) ?_|fail)
    all_goals (show aD _ _ _ _ _ _ _ _;refine kV [0] ?_;rfl)
   ·refine cO Tryz.func3 ?_
    repeat' (first
     |(refine qz ?_;first
      |refine cl ?_ (hi:=by exact awk _ rfl)
      |refine cl ?_ (hi:=by exact pc hlc lok lid rfl rfl))
     |refine zz ?_|refine zx (fun _=>?_) (fun _=>?_)|fail)
    show aD _ _ _ _ _ _ _ _;refine kV [0] ?_
    rfl
end Go.Proofs.YtnkodcmkpfefhaaGreat
namespace Go.Proofs.YtnkodcmkpfefhaaGreat
open Go.ChangeShapes Go.WideShapes Go.ChangeAt Go.RowKit Go.Deep Go.Xm
def Jl:List c8:=[.int .i64,.int .i64,.int .i64,.bool,.bool,.bool,.int .i64,.int .i64]
def rC:List c8:=[uB,[c8.int .i64],[c8.int .i64],[c8.int .i64],[c8.bool],[c8.bool],[c8.bool],[c8.int .i64],[c8.int .i64]].flatten
theorem rD:rC=uB++Jl:=by
 simp only[rC,Jl,List.flatten_cons,List.flatten_nil,List.append_nil,List.cons_append,List.nil_append]
theorem rE:uB.length=131:=by
 rw[qD,List.length_append,List.length_append,jj];rfl
theorem Jm:gN Tryz.prog 28 rC:=by
 refine .struct _ Tryz.underlying28 rfl (fun i f ks hi hk=>?_) (by kernel_rfl)
 match i,hi,hk with
 | 0,hi,hk=>cases hi;cases hk;exact⟨Li,rfl⟩
 | 1,hi,hk=>cases hi;cases hk;exact⟨nH,rfl⟩
 | 2,hi,hk=>cases hi;cases hk;exact⟨nH,rfl⟩
 | 3,hi,hk=>cases hi;cases hk;exact⟨nH,rfl⟩
 | 4,hi,hk=>cases hi;cases hk;exact⟨qF,rfl⟩
 | 5,hi,hk=>cases hi;cases hk;exact⟨qF,rfl⟩
 | 6,hi,hk=>cases hi;cases hk;exact⟨qF,rfl⟩
 | 7,hi,hk=>cases hi;cases hk;exact⟨nH,rfl⟩
 | 8,hi,hk=>cases hi;cases hk;exact⟨nH,rfl⟩
 | i+9,hi,hk=>simp at hk
def zZ(g:Nat->Value):gg:=⟨Ja g,lint (g 131),lint (g 132),lint (g 133),wu (g 134),wu (g 135),wu (g 136),lint (g 137),lint (g 138)⟩
theorem BN(g:Nat->Value):jd rC g 0=bX (zZ g):=by
 rw[rD,rH,Ep,rE]
 rfl
theorem q_{g:Nat->Value}(h:l5 rC g 0){j:Nat}{l:c8}(hj:Jl[j]? = some l):l.has (g (131+j)):=by
 have:=h (131+j) l (by rw[rD,List.getElem?_append_right (by rw[rE];omega),rE,Nat.add_sub_cancel_left];exact hj)
 rwa [Nat.zero_add]at this
theorem GK{g:Nat->Value}(h:l5 rC g 0):nv (zZ g):=by
 have hh:l5 uB g 0:=fun j l hj=>h j l (by
  rw[rD,List.getElem?_append_left (List.getElem?_eq_some_iff.1 hj).1];exact hj)
 exact⟨Jb hh,bounds_i64 (km (q_ h (j:=0) rfl)),bounds_i64 (km (q_ h (j:=1) rfl)),bounds_i64 (km (q_ h (j:=2) rfl)),bounds_i64 (km (q_ h (j:=6) rfl)),bounds_i64 (km (q_ h (j:=7) rfl))⟩
def IE:Value->Nat
 | .slice _ n _=>n
 | _=>0
def w_:Value->Value
 | .slice x n c => .slice x n c
 | _ => .int .u8 0
abbrev n5(G:Nat->Nat->Value):aw:=⟨fun i=>w_ (G i 7),fun i=>by
 show(w_ (G i 7)).cells=_/\(w_ (G i 7)).oneCell'=true
 cases G i 7<;>exact⟨rfl,rfl⟩⟩
def sZ(G:Nat->Nat->Value)(i:Nat):S6:=⟨fun j=>lint (G i j),lint (G i 6),i,IE (G i 7)⟩
section
variable {H:Type} {enc:TypeId×Value->H} {w:World} {base:Nat} {spare:Nat->Bool} {held:Bool}
def L6(j:Nat):IntKind:=if j=6 then .u32 else .u8
structure IM(G:Nat->Nat->Value)(i:Nat):Prop where
 num:∀j,j<7->∃z,G i j = .int (L6 j) z
 sl:∃(x:Option Addr) (n c:Nat),G i 7 = .slice x n c
set_option maxRecDepth 100000 in
theorem Lr[aw]{v:Value}{b0:Nat}{r:Reach}{t:TypeId}(ht:Tryz.prog.underlying t=some (.slice 83))(hcell:Cell.okWide Tryz.prog w r b0 t v){fuel:Nat}{x:DataW H×List MemPlace}(hf:DataW.trod enc Tryz.prog w base spare held fuel t [v]=some x) :
 ∃(G:Nat->Nat->Value) (n:Nat),n<=9223372036854775807/\(∀i,i<n->IM G i)/\((v = .slice none 0 0/\n=0)\/∃b off cap:Nat,n<=cap/\v = .slice (some ⟨b,off,none⟩) n cap/\∀i j,i<n->j<8->w.cell? ⟨b,off+(i*8+j),none⟩=some (G i j)):=by
 rcases oy ht Tryz.underlying83 (by kernel_rfl) (by kernel_rfl) hf with⟨hcs,_⟩|⟨a,len,cap,m,D,Pl,hcs,_,hlc,hcm,hm,_,hall⟩
 ·simp only[List.cons.injEq,and_true]at hcs
  exact⟨fun _ _ => .nilIface,0,Nat.zero_le _,fun i hi=>absurd hi (Nat.not_lt_zero i),.inl ⟨hcs,rfl⟩⟩
 ·simp only [List.cons.injEq,and_true]at hcs
  subst hcs
  have hspot:=za ht hcell
  have hlm:len<=m:=by rw[hm];split<;>omega
  refine⟨fun i j=>(w.cell? ⟨a.block,a.off+(i*8+j),none⟩).getD .nilIface,len,by unfold maxLen at hcm;omega,fun i hi=>?_,.inr ⟨a.block,a.off,cap,hlc,?_,fun i j hi hj=>?_⟩⟩
  ·obtain⟨ys,n,_,_,_,hff⟩:=hall i (by omega)
   refine⟨fun j hj=>?_,?_⟩
   ·have key:∀(f:Field) (k:IntKind),Tryz.prog.underlying f.type=some (.int k)->k=L6 j->(∃(v:Value) (y:DataW H×List MemPlace),w.cell? (a.add (i*8+j))=some v/\ys[j]? = some y/\DataW.trod enc Tryz.prog w base spare held n f.type [v]=some y)->∃z,(w.cell? ⟨a.block,a.off+(i*8+j),none⟩).getD .nilIface = .int (L6 j) z:=fun f k hk he ⟨u,y,hc,_,hu⟩=>by
     obtain⟨z,hz,_,_⟩:=DataW.trod_int hk hu
     simp only[List.cons.injEq,and_true]at hz
     rw[oY hspot]at hc
     rw[hc,hz,he]
     exact⟨z,rfl⟩
    have hj:j=0\/j=1\/j=2\/j=3\/j=4\/j=5\/j=6:=by omega
    rcases hj with rfl|rfl|rfl|rfl|rfl|rfl|rfl
    ·exact key _ .u8 Tryz.underlying5 rfl (hff 0 _ rfl)
    ·exact key _ .u8 Tryz.underlying5 rfl (hff 1 _ rfl)
    ·exact key _ .u8 Tryz.underlying5 rfl (hff 2 _ rfl)
    ·exact key _ .u8 Tryz.underlying5 rfl (hff 3 _ rfl)
    ·exact key _ .u8 Tryz.underlying5 rfl (hff 4 _ rfl)
    ·exact key _ .u8 Tryz.underlying5 rfl (hff 5 _ rfl)
    ·exact key _ .u32 Tryz.underlying81 rfl (hff 6 _ rfl)
   ·obtain⟨u,y,hc,_,hu⟩:=hff 7 _ rfl
    rw[oY hspot]at hc
    have hu:DataW.trod enc Tryz.prog w base spare held n 40 [u]=some y:=hu
    show ∃(x:Option Addr) (n c:Nat),(w.cell? ⟨a.block,a.off+(i*8+7),none⟩).getD .nilIface = .slice x n c
    rw[show w.cell? ⟨a.block,a.off+(i*8+7),none⟩=some u from hc]
    rcases open_slice Tryz.underlying40 hu with⟨h1,_⟩|⟨x,l,c,_,_,_,_,h1,_⟩
    ·simp only[List.cons.injEq,and_true]at h1
     exact⟨_,_,_,h1⟩
    ·simp only[List.cons.injEq,and_true]at h1
     exact⟨_,_,_,h1⟩
  ·obtain⟨b,o,s⟩:=a
   simp only at hspot
   subst hspot
   rfl
  ·obtain⟨ys,n,_,_,_,hff⟩:=hall i (by omega)
   have key:∀(f:Field),(∃(v:Value) (y:DataW H×List MemPlace),w.cell? (a.add (i*8+j))=some v/\ys[j]? = some y/\DataW.trod enc Tryz.prog w base spare held n f.type [v]=some y)->w.cell? ⟨a.block,a.off+(i*8+j),none⟩=some ((w.cell? ⟨a.block,a.off+(i*8+j),none⟩).getD .nilIface):=fun f ⟨u,y,hc,_,_⟩=>by
    rw[oY hspot]at hc
    rw[hc];rfl
   have hj:j=0\/j=1\/j=2\/j=3\/j=4\/j=5\/j=6\/j=7:=by omega
   rcases hj with rfl|rfl|rfl|rfl|rfl|rfl|rfl|rfl
   ·exact key _ (hff 0 _ rfl)
   ·exact key _ (hff 1 _ rfl)
   ·exact key _ (hff 2 _ rfl)
   ·exact key _ (hff 3 _ rfl)
   ·exact key _ (hff 4 _ rfl)
   ·exact key _ (hff 5 _ rfl)
   ·exact key _ (hff 6 _ rfl)
   ·exact key _ (hff 7 _ rfl)
theorem Ls{v:Value}{G:Nat->Nat->Value}{n:Nat}(hG:∀i,i<n->IM G i)(h:(v = .slice none 0 0/\n=0)\/∃b off cap:Nat,n<=cap/\v = .slice (some ⟨b,off,none⟩) n cap/\∀i j,i<n->j<8->w.cell? ⟨b,off+(i*8+j),none⟩=some (G i j)) :
 letI:aw:=n5 G
 qw w v (fl xR ((List.range n).map (sZ G))) ((List.range n).map (sZ G)).length:=by
 letI:aw:=n5 G
 show qw w v (fl xR ((List.range n).map (sZ G))) ((List.range n).map (sZ G)).length
 rw[List.length_map,List.length_range]
 rcases h with⟨rfl,rfl⟩|⟨b,off,cap,hle,rfl,hc⟩
 ·exact .inl ⟨rfl,rfl,rfl⟩
 ·refine .inr ⟨b,off,cap,hle,rfl,fun j c hj β=>?_⟩
  unfold fl at hj
  rw[wa xR 8 (by decide) _ (fun _ _=>rfl)]at hj
  have hlt:j/8<n:=by
   rw[List.getElem?_map]at hj
   by_cases h:j/8<n
   ·exact h
   ·rw[List.getElem?_eq_none (by rw[List.length_range];omega)]at hj
    cases hj
  rw[List.getElem?_map,List.getElem?_range hlt]at hj
  have hj2:(xR (sZ G (j/8)))[j%8]? = some c:=hj
  have h3:=hc (j/8) (j%8) hlt (Nat.mod_lt _ (by decide))
  rw[show j/8*8+j%8=j by omega]at h3
  rw[h3]
  obtain⟨num,x,m,cp,sl⟩:=hG (j/8) hlt
  have hm:j%8=0\/j%8=1\/j%8=2\/j%8=3\/j%8=4\/j%8=5\/j%8=6\/j%8=7:=by omega
  have key:∀k,k<7->(XC.int (L6 k) (lint (G (j/8) k))).den β = G (j/8) k:=fun k hk=>by
   obtain⟨z,hz⟩:=num k hk
   rw[hz];rfl
  rcases hm with e|e|e|e|e|e|e|e
  ·rw[e]at hj2 ⊢;cases hj2;exact congrArg some (key 0 (by decide)).symm
  ·rw[e]at hj2 ⊢;cases hj2;exact congrArg some (key 1 (by decide)).symm
  ·rw[e]at hj2 ⊢;cases hj2;exact congrArg some (key 2 (by decide)).symm
  ·rw[e]at hj2 ⊢;cases hj2;exact congrArg some (key 3 (by decide)).symm
  ·rw[e]at hj2 ⊢;cases hj2;exact congrArg some (key 4 (by decide)).symm
  ·rw[e]at hj2 ⊢;cases hj2;exact congrArg some (key 5 (by decide)).symm
  ·rw[e]at hj2 ⊢;cases hj2;exact congrArg some (key 6 (by decide)).symm
  ·rw[e]at hj2 ⊢;cases hj2
   show some (G (j/8) 7)=some (w_ (G (j/8) 7))
   rw[sl];rfl
theorem Lq{G:Nat->Nat->Value}{n:Nat}(hG:∀i,i<n->IM G i) :
 letI:aw:=n5 G
 ∀i,i<((List.range n).map (sZ G)).length->AY (((List.range n).map (sZ G)).getD i default).ix (((List.range n).map (sZ G)).getD i default).n:=by
 letI:aw:=n5 G
 intro i hi
 rw[List.length_map,List.length_range]at hi
 have e:((List.range n).map (sZ G)).getD i default=sZ G i:=by
  rw[List.getD_eq_getElem?_getD,List.getElem?_map,List.getElem?_range hi];rfl
 rw[e]
 obtain⟨num,x,m,cp,sl⟩:=hG i hi
 refine⟨x,cp,?_⟩
 show w_ (G i 7) = .slice x (IE (G i 7)) cp
 rw[sl];rfl
end
end Go.Proofs.YtnkodcmkpfefhaaGreat
namespace Go.Proofs.YtnkodcmkpfefhaaGreat
open Go.Xm
variable [aw]
abbrev mV(n:Nat)(f:Nat->Int):ah := .cells (ti .u8 n f) 5 false false
theorem Aq(n:Nat)(v:Int):B5 n v=mV n (fun _=>v):=by
 have:il .u8 (List.replicate n v)=ti .u8 n (fun _=>v):=by
  apply List.ext_getElem?
  intro i
  unfold il ti
  by_cases h:i<n
  ·simp[h]
  ·simp[h]
 show ah.cells _ _ _ _=_
 rw[this]
theorem o9{C R:Nat}(hC:C<=8)(hR:R<=8){v:Int}(hv:0<=v/\v<=255){x y:Int}(hx:x=(C:Nat))(hy:y=(R:Nat)){HS:ai}{N:Nat}(hN:HS.length=N){HS':ai}(hs:HS++[mV (16*C*(16*R)) (fun _=>v),mV (8*C*(8*R)) (fun _=>v),mV (8*C*(8*R)) (fun _=>v)]=HS')(hb:Nat.blt HS'.length Mem.bound=true) :
 aC.Sound Tryz.prog ⟨12,[.one (.int .i64 x),.one (.int .i64 y),.one (.int .u8 v)],HS,.agg (dQ C R N (N+1) (N+2)),HS',[]⟩:=
 oh hC hR hv hx hy hN (by rw[Aq,Aq];exact hs) hb
def jV(n e:Int):Int:=max (min n (e-1)) 0
theorem Bk{n e:Int}(he : -1000000<=e/\e<=1000000):aW Tryz.prog 86 [.one (.int .i64 n),.one (.int .i64 e)] [] (.one (.int .i64 (jV n e))) []:=by
 refine cO Tryz.func86 ?_
 repeat' (first|refine zz ?_|refine zx (fun _=>?_) (fun _=>?_)|fail)
 show aD _ _ _ _ _ _ _ _;refine kV [] ?_
 rfl
theorem vM{n e r:Int}(he : -1000000<=e/\e<=1000000)(hr:jV n e=r){HS:ai}(hb:Nat.blt HS.length Mem.bound=true):aC.Sound Tryz.prog ⟨86,[.one (.int .i64 n),.one (.int .i64 e)],HS,.one (.int .i64 r),HS,[]⟩:=by
 subst hr
 exact au (Bk he) rfl rfl hb
def qx(w h:Nat)(f:Nat->Int)(x y:Int):Int:=f (jV y h*w+jV x w).toNat
structure nX(w h n:Nat):Prop where
 wl:1<=w/\w<=1024
 hl:1<=h/\h<=1024
 nl:w*h=n
theorem IA{w h n:Nat}(ho:nX w h n){y x:Int}(hy:0<=y/\y<h)(hx:0<=x/\x<w):0<=y*w+x/\y*w+x<n/\y*w<=1048576/\0<=y*w/\(n:Int)<=1048576:=by
 have h1:=ho.wl
 have h2:=ho.hl
 have h3:0<=y*w:=Int.mul_nonneg hy.1 (by omega)
 have h4:(y+1)*w<=h*w:=Int.mul_le_mul_of_nonneg_right (by omega) (by omega)
 have h5:(h:Int)*w=n:=by rw[<-ho.nl,Int.natCast_mul,Int.mul_comm]
 have h6:(h:Int)*w<=1024*1024:=Int.mul_le_mul (by omega) (by omega) (by omega) (by omega)
 rw[Int.add_mul,Int.one_mul]at h4
 omega
theorem iS{n e n' e' r r':Int}(h1:jV n e=r)(h2:jV n' e'=r'){HS:ai}:Compat ⟨86,[.one (.int .i64 n),.one (.int .i64 e)],HS,.one (.int .i64 r),HS,[]⟩ ⟨86,[.one (.int .i64 n'),.one (.int .i64 e')],HS,.one (.int .i64 r'),HS,[]⟩:=fun _ h _=>by
 simp only[List.cons.injEq,XV.one.injEq,XC.int.injEq,true_and,and_true]at h
 have e:r=r':=by rw[<-h1,<-h2,h.1,h.2]
 subst e
 exact⟨rfl,rfl,rfl⟩
theorem EZ{w h n:Nat}(ho:nX w h n)(f:Nat->Int)(x y:Int):aW Tryz.prog 66 [.agg (nU w h 0 n),.one (.int .i64 x),.one (.int .i64 y)] [mV n f] (.one (.int .u8 (qx w h f x y))) [mV n f]:=by
 have h1:=ho.wl
 have h2:=ho.hl
 obtain⟨a,ha⟩:∃a,jV y h=a:=⟨_,rfl⟩
 obtain⟨b,hb⟩:∃b,jV x w=b:=⟨_,rfl⟩
 have ha1:0<=a/\a<h:=by rw[<-ha];unfold jV;omega
 have hb1:0<=b/\b<w:=by rw[<-hb];unfold jV;omega
 have hx:=IA ho ha1 hb1
 rw[show qx w h f x y=f (a*w+b).toNat by unfold qx;rw[ha,hb]]
 refine cO Tryz.func66 ?_
 repeat' (first
  |(refine qz ?_;first
   |refine cl ?_ (hi:=by exact vM (by omega) ha rfl)
   |refine cl ?_ (hi:=by exact vM (by omega) hb rfl))
  |refine zz ?_|refine zx (fun _=>?_) (fun _=>?_)|refine aS (by first|exact af.nil|exact af.one _|exact af.i3 (by repeat' (first|exact True.intro|refine And.intro ?_ ?_|exact Compat.ne rfl|exact iS ha hb|exact iS hb ha))) ⟨by kernel_rfl,?_⟩|refine aS (by first|exact af.nil|exact af.one _|exact af.i3 (by repeat' (first|exact True.intro|refine And.intro ?_ ?_|exact Compat.ne rfl|exact iS ha hb|exact iS hb ha))) ?_|fail)
 show aD _ _ _ _ _ _ _ _;refine kV [0] ?_
 rfl
theorem h_{w h n:Nat}(ho:nX w h n){f:Nat->Int}{x y v:Int}(hv:qx w h f x y=v){HS:ai}{i:Nat}(hi:HS[i]? = some (mV n f))(hb:Nat.blt HS.length Mem.bound=true) :
 aC.Sound Tryz.prog ⟨66,[.agg (nU w h i n),.one (.int .i64 x),.one (.int .i64 y)],HS,.one (.int .u8 v),HS,[]⟩:=by
 subst hv
 exact eE [i] (EZ ho f x y) (by simp) (.flat hi .nil) (.flat .nil) (.cons (gZ (e:=0) (a:=true) (b:=true) (by show 0<1;omega)) (.flat (.flat .nil))) (.cons rfl (.flat (.flat .nil))) (by trivial) (bh.ax _) hb rfl
def Cu(w h:Nat)(f:Nat->Int)(x y v:Int):Nat->Int:=if 0<=x/\x<w/\0<=y/\y<h then gM f (y*w+x).toNat v else f
theorem B_{w h n:Nat}(ho:nX w h n)(f:Nat->Int)(x y v:Int):aW Tryz.prog 73 [.agg (nU w h 0 n),.one (.int .i64 x),.one (.int .i64 y),.one (.int .u8 v)] [mV n f] (.tup []) [mV n (Cu w h f x y v)]:=by
 by_cases hin:0<=x/\x<w/\0<=y/\y<h
 ·have hx:=IA ho (y:=y) (x:=x) ⟨hin.2.2.1,hin.2.2.2⟩ ⟨hin.1,hin.2.1⟩
  rw[show Cu w h f x y v=gM f (y*w+x).toNat v from if_pos hin]
  refine cO Tryz.func73 ?_
  repeat' (first|refine zz ?_|refine zx (fun _=>?_) (fun _=>?_)|fail)
  show aD _ _ _ _ _ _ _ _;refine kV [0] ?_
  rfl
 ·rw [show Cu w h f x y v=f from if_neg hin]
  refine cO Tryz.func73 ?_
  by_cases h1:0<=x/\x<w/\0<=y
  ·repeat' (first|refine zz ?_|refine zx (fun _=>?_) (fun _=>?_)|fail)
   show aD _ _ _ _ _ _ _ _;refine kV [0] ?_
   rfl
  ·by_cases h2:0<=x/\x<w
   ·repeat' (first|refine zz ?_|refine zx (fun _=>?_) (fun _=>?_)|fail)
    show aD _ _ _ _ _ _ _ _;refine kV [0] ?_
    rfl
   ·by_cases h3:0<=x
    ·repeat' (first|refine zz ?_|refine zx (fun _=>?_) (fun _=>?_)|fail)
     show aD _ _ _ _ _ _ _ _;refine kV [0] ?_
     rfl
    ·repeat' (first|refine zz ?_|refine zx (fun _=>?_) (fun _=>?_)|fail)
     show aD _ _ _ _ _ _ _ _;refine kV [0] ?_
     rfl
theorem E1{w h n:Nat}(ho:nX w h n){f g:Nat->Int}{x y v:Int}(hg:Cu w h f x y v=g){HS:ai}{i:Nat}(hi:HS[i]? = some (mV n f)){HS':ai}(hh:bQ HS [i] [mV n g]=HS')(hb:Nat.blt HS'.length Mem.bound=true) :
 aC.Sound Tryz.prog ⟨73,[.agg (nU w h i n),.one (.int .i64 x),.one (.int .i64 y),.one (.int .u8 v)],HS,.tup [],HS',[i]⟩:=by
 subst hg
 exact ca (os:=[mV n (Cu w h f x y v)]) [i] [i] 0 (B_ ho f x y v) (by simp) (.flat hi .nil) (.flat .nil) (.flat .nil) rfl (.cons (gZ (e:=0) (a:=true) (b:=true) (by show 0<1;omega)) (.flat (.flat (.flat .nil)))) (.cons rfl (.flat (.flat (.flat .nil)))) (by simp[XV.bl]) (bh.ax _) (.flat .nil) rfl rfl hh hb (.inl rfl)
def jy(f:Nat->Int):Prop:=∀i,0<=f i/\f i<=255
def qe(w h:Nat)(f:Nat->Int)(x y:Int)(i:Nat):Int:=qx w h f (x+(i%8:Nat)) (y+(i/8:Nat))
theorem vJ{w h:Nat}{f:Nat->Int}(hf:jy f)(x y:Int)(i:Nat):0<=qe w h f x y i/\qe w h f x y i<=255:=hf _
theorem GD{w h n:Nat}(ho:nX w h n){f:Nat->Int}(hf:jy f){x y:Int}(hx : -100000<=x/\x<=100000)(hy : -100000<=y/\y<=100000):aW Tryz.prog 52 [.agg (nU w h 0 n),.one (.int .i64 x),.one (.int .i64 y)] [mV n f] (.agg (ti .i64 64 (qe w h f x y))) [mV n f]:=by
 refine cO Tryz.func52 ?_
 repeat' (first|refine zz ?_|refine zx (fun _=>?_) (fun _=>?_)|fail)
 refine WX.bZ (σ:=Nat) (fun j=>[(1,.one (.int .i64 x)),(2,.one (.int .i64 y)),(3,.one (.ptr 1 0)),(6,.one (.ptr 2 0)),(7,.one (.ptr 3 0)),(9,.one (.int .i64 (j:Nat)))]) (fun j=>[mV n f,.cells (nU w h 0 n) 42 false false,.cells (ti .i64 64 fun _=>0) 65 false false,.cells (ti .i64 64 (iz (qe w h f x y) (fun _=>0) j)) 65 false false]) (fun j=>j<=64) (fun j=>64-j) 0 (by omega) (fun s _=>(hX (objs:=by repeat' (first|exact ay.nil|refine ay.cons (gZ (by show 0<4;omega)) ?_|refine ay.flat ?_|refine ay.cons (by first|(simp[ah.bl,XC.ok,aE];done)|simp[ah.bl,XC.ok,aE, *]) ?_)))) (b_ [0,1,2,3] (obj:=by(repeat' (first|exact ae.nil|refine ae.flat (by rw[fI];rfl) ?_|refine ae.flat rfl ?_|refine ae.cons rfl ?_|refine ae.dead rfl ?_|refine ae.cons (by simp only[ah.ax,List.map_cons,List.map_nil,XC.ax,aB];exact rfl) ?_));first|done|fail)) ?_
 intro j hj ih
 by_cases h8:j<64
 ·have hn:=fH (qe w h f x y) (fun _=>0) j
  have hr:=vJ (w:=w) (h:=h) hf x y j
  repeat' (first
   |(refine qz ?_;first
    |refine cl ?_ (hi:=by exact h_ ho (v:=qe w h f x y j) rfl rfl rfl))
   |refine zz ?_|refine zx (fun _=>?_) (fun _=>?_)|fail)
  refine ih (j+1) _ _ _ (b_ [0,1,2,3] (obj:=by(repeat' (first|exact ae.nil|refine ae.flat (by rw[<-hn];rfl) ?_|refine ae.flat rfl ?_|refine ae.cons rfl ?_|refine ae.dead rfl ?_|refine ae.cons (by simp only[ah.ax,List.map_cons,List.map_nil,XC.ax,aB];exact rfl) ?_));first|done|fail)) (by omega) (by omega)
 ·obtain rfl:j=64:=by omega
  repeat' (first|refine zz ?_|refine zx (fun _=>?_) (fun _=>?_)|fail)
  show aD _ _ _ _ _ _ _ _;refine kV [0] ?_
  rw[show ti .i64 64 (qe w h f x y)=ti .i64 64 (iz (qe w h f x y) (fun _=>0) 64)from bJ fun i hi=>by simp[iz,hi]];rfl
theorem DC{w h n:Nat}(ho:nX w h n){f g:Nat->Int}(hf:jy f){x y:Int}(hx : -100000<=x/\x<=100000)(hy : -100000<=y/\y<=100000)(hg:qe w h f x y=g){HS:ai}{i:Nat}(hi:HS[i]? = some (mV n f))(hb:Nat.blt HS.length Mem.bound=true) :
 aC.Sound Tryz.prog ⟨52,[.agg (nU w h i n),.one (.int .i64 x),.one (.int .i64 y)],HS,.agg (ti .i64 64 g),HS,[]⟩:=by
 subst hg
 exact eE [i] (GD ho hf hx hy) (by simp) (.flat hi .nil) (.flat .nil) (.cons (gZ (e:=0) (a:=true) (b:=true) (by show 0<1;omega)) (.flat (.flat .nil))) (.cons rfl (.flat (.flat .nil))) (bh.ok _) (bh.ax _) hb rfl
def KW(v:Int):Int:=max (min v 255) 0
def uM(w h:Nat)(f:Nat->Int)(x y:Int)(b:Nat->Int):Nat->Nat->Int
 | 0=>f
 | j+1=>Cu w h (uM w h f x y b j) (x+(j%8:Nat)) (y+(j/8:Nat)) (KW (b j))
theorem B9{w h n:Nat}(ho:nX w h n)(f:Nat->Int){x y:Int}(hx : -100000<=x/\x<=100000)(hy : -100000<=y/\y<=100000)(b:Nat->Int):aW Tryz.prog 51 [.agg (nU w h 0 n),.one (.int .i64 x),.one (.int .i64 y),.agg (ti .i64 64 b)] [mV n f] (.tup []) [mV n (uM w h f x y b 64)]:=by
 refine cO Tryz.func51 ?_
 repeat' (first|refine zz ?_|refine zx (fun _=>?_) (fun _=>?_)|fail)
 refine WX.bZ (σ:=Nat) (fun j=>[(1,.one (.int .i64 x)),(2,.one (.int .i64 y)),(4,.one (.ptr 1 0)),(10,.agg (ti .i64 64 b)),(11,.one (.int .i64 (j:Nat)))]) (fun j=>[mV n (uM w h f x y b j),.cells (nU w h 0 n) 42 false false]) (fun j=>j<=64) (fun j=>64-j) 0 (by omega) (fun s _=>(hX (objs:=by repeat' (first|exact ay.nil|refine ay.cons (gZ (by show 0<2;omega)) ?_|refine ay.flat ?_|refine ay.cons (by first|(simp[ah.bl,XC.ok,aE];done)|simp[ah.bl,XC.ok,aE, *]) ?_)))) (b_ [0,1]) ?_
 intro j hj ih
 by_cases h8:j<64
 ·have hr:0<=max (min (b (j:Int).toNat) 255) 0/\max (min (b (j:Int).toNat) 255) 0<=255:=by omega
  repeat' (first
   |(refine qz ?_;first
    |refine El ?_
    |refine cl ?_ (hi:=by exact E1 ho (f:=uM w h f x y b j) (g:=uM w h f x y b (j+1)) rfl rfl nA rfl))
   |refine zz ?_|refine zx (fun _=>?_) (fun _=>?_)|fail)
  refine ih (j+1) _ _ _ (b_ [0,1]) (by omega) (by omega)
 ·obtain rfl:j=64:=by omega
  repeat' (first|refine zz ?_|refine zx (fun _=>?_) (fun _=>?_)|fail)
  show aD _ _ _ _ _ _ _ _;refine kV [0] ?_
  rfl
theorem E0{w h n:Nat}(ho:nX w h n){f g:Nat->Int}{x y:Int}(hx : -100000<=x/\x<=100000)(hy : -100000<=y/\y<=100000){b:Nat->Int}(hg:uM w h f x y b 64=g){HS:ai}{i:Nat}(hi:HS[i]? = some (mV n f)){HS':ai}(hh:bQ HS [i] [mV n g]=HS')(hb:Nat.blt HS'.length Mem.bound=true) :
 aC.Sound Tryz.prog ⟨51,[.agg (nU w h i n),.one (.int .i64 x),.one (.int .i64 y),.agg (ti .i64 64 b)],HS,.tup [],HS',[i]⟩:=by
 subst hg
 exact ca (os:=[mV n (uM w h f x y b 64)]) [i] [i] 0 (B9 ho f hx hy b) (by simp) (.flat hi .nil) (.flat .nil) (.flat .nil) rfl (.cons (gZ (e:=0) (a:=true) (b:=true) (by show 0<1;omega)) (.flat (.flat (.flat .nil)))) (.cons rfl (.flat (.flat (.flat .nil)))) (by simp[XV.bl]) (bh.ax _) (.flat .nil) rfl rfl hh hb (.inl rfl)
def Db(C:Nat)(mb k:Nat):Int:=if k<4 then 16*((mb%C:Nat):Int)+8*((k%2:Nat):Int)else 8*((mb%C:Nat):Int)
def Dc(C:Nat)(mb k:Nat):Int:=if k<4 then 16*((mb/C:Nat):Int)+8*((k/2:Nat):Int)else 8*((mb/C:Nat):Int)
def qh(k:Nat):Nat:=if k<4 then 16 else 8
def Mx(a b c k:Nat):Nat:=if k<4 then a else if k=4 then b else c
def K6(C R a b c k:Nat):List XC:=nU (qh k*C) (qh k*R) (Mx a b c k) (qh k*C*(qh k*R))
theorem I6{C R a b c k m:Nat}(h1:a<m)(h2:b<m)(h3:c<m):∀x∈K6 C R a b c k,x.ok m:=by
 unfold K6
 refine gZ (e:=0) (a:=true) (b:=true) ?_
 unfold Mx
 split
 ·exact h1
 ·split
  ·exact h2
  ·exact h3
theorem D8{C R a b c k m:Nat}{x y:Int}(h1:a<m)(h2:b<m)(h3:c<m):XV.bl m (.tup [.agg (K6 C R a b c k),.one (.int .i64 x),.one (.int .i64 y)]):=fun z hz=>by
 simp only[List.mem_cons,List.not_mem_nil,or_false]at hz
 rcases hz with rfl|rfl|rfl
 ·exact I6 h1 h2 h3
 ·trivial
 ·trivial
theorem D_{C R:Nat}(hC:1<=C/\C<=8){mb k:Nat}(hm:mb<=1000)(hk:k<6)(x y z:ah)[aR x][aR y][aR z]:aW Tryz.prog 50 [.agg (dQ C R 0 1 2),.one (.int .i64 (mb:Nat)),.one (.int .i64 (k:Nat))] [x,y,z] (.tup [.agg (K6 C R 0 1 2 k),.one (.int .i64 (Db C mb k)),.one (.int .i64 (Dc C mb k))]) [x,y,z]:=by
 have m1:max (C:Int) 1=C:=by omega
 have zm1:mb%C<8:=Nat.lt_of_lt_of_le (Nat.mod_lt _ (by omega)) hC.2
 have zm2:mb/C<=1000:=Nat.le_trans (Nat.div_le_self ..) hm
 have zm3:0<=(mb:Int)/(C:Int)/\(mb:Int)/(C:Int)<=1000:=⟨Int.natCast_nonneg (mb/C),Int.ofNat_le.2 zm2⟩
 have zm4:0<=(mb:Int)%(C:Int)/\(mb:Int)%(C:Int)<8:=⟨Int.natCast_nonneg (mb%C),Int.ofNat_lt.2 zm1⟩
 have hc:k=0\/k=1\/k=2\/k=3\/k=4\/k=5:=by omega
 rcases hc with rfl|rfl|rfl|rfl|rfl|rfl
 all_goals
  refine cO Tryz.func50 ?_
  repeat' (first|refine zz ?_|refine zx (fun _=>?_) (fun _=>?_)|fail)
  show aD _ _ _ _ _ _ _ _;refine kV [0,1,2] ?_ (hr:=ez.two rfl (.cell rfl rfl (bq rfl) (.tmp rfl (.tmp rfl .nil)))) (hok:=D8 (by show 0<3;omega) (by show 1<3;omega) (by show 2<3;omega))
  rfl
theorem qA{C R:Nat}(hC:1<=C/\C<=8){mb k:Nat}(hm:mb<=1000)(hk:k<6){x y z:ah}[aR x][aR y][aR z]{px py:Int}(hpx:Db C mb k=px)(hpy:Dc C mb k=py){HS:ai}{a b c:Nat}(ha:HS[a]? = some x)(hb:HS[b]? = some y)(hc:HS[c]? = some z)(nd : [a,b,c].Nodup)(hbd:Nat.blt HS.length Mem.bound=true) :
 aC.Sound Tryz.prog ⟨50,[.agg (dQ C R a b c),.one (.int .i64 (mb:Nat)),.one (.int .i64 (k:Nat))],HS,.tup [.agg (K6 C R a b c k),.one (.int .i64 px),.one (.int .i64 py)],HS,[]⟩:=by
 subst hpx hpy
 refine eE [a,b,c] (D_ hC hm hk x y z) nd (.flat ha (.flat hb (.flat hc .nil))) (.flat (.flat (.flat .nil))) (.cons (bI (e:=0) (a:=true) (b:=true) (by show 0<3;omega) (by show 1<3;omega) (by show 2<3;omega)) (.flat (.flat .nil))) (.cons rfl (.flat (.flat .nil))) (D8 (by show 0<3;omega) (by show 1<3;omega) (by show 2<3;omega)) ?_ hbd rfl
 have hc:k=0\/k=1\/k=2\/k=3\/k=4\/k=5:=by omega
 rcases hc with rfl|rfl|rfl|rfl|rfl|rfl<;>rfl
end Go.Proofs.YtnkodcmkpfefhaaGreat
