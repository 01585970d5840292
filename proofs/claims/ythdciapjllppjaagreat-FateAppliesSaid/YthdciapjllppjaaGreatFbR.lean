/-
  A part of the proof: Blocks.
-/
import Derived.Test.YthdciapjllppjaaGreatFbN
import Derived.Test.YthdciapjllppjaaGreatFbQ
set_option maxRecDepth 10000
set_option maxHeartbeats 8000000
set_option linter.unusedVariables false
set_option linter.unusedSectionVars false
set_option linter.unusedSimpArgs false
open Go.Proofs.Tryz (prog)
namespace Go.Xm
variable [av]
theorem Ec{τ : Nat->Nat}{HS:ah}{g:Nat->Nat}{f:Nat->aj}(hf:∀j,b9 (f j)){ls:List Nat}{l:ah}(h:af τ HS ls l):∀(js:List Nat),(∀j∈js,HS[g j]? = some (f j)\/(f j = .dead/\g j<HS.length))->af τ HS (js.map g++ls) (js.map f++l)
 | [],_=>h
 | j :: js,hj=>by
   have ih:=Ec hf h js fun i hi=>hj i (List.mem_cons_of_mem _ hi)
   rcases hj j (List.mem_cons_self ..)with h1|⟨h1,h2⟩
   ·have:=hf j;exact af.flat h1 ih
   ·show af τ HS (g j::(js.map g++ls)) (f j::(js.map f++l));rw[h1];exact af.dead (by rw[Nat.blt_eq];exact h2) ih
end Go.Xm
namespace Go.Proofs.YthdciapjllppjaaGreat
open Go.Xm
variable [av]
theorem yq{f:Nat->Int}{st:Nat}{EV:List Ev}(h:jy f st=EV){z:Int}(hz:z=(st:Nat))(hst:st<=64){HS:ah}{N:Nat}(hN:HS.length=N){HS':ah}(hh:HS++[ez EV]=HS')(hbd:Nat.blt HS'.length Mem.bound=true) :
 aA.Sound prog ⟨124,[.agg (ti .i64 64 f),.one (.int .i64 z)],HS,ee N EV.length 3,HS',[]⟩:=by
 subst h;exact L9 hz hst hN hh hbd
theorem w7:∀(ls:List Nat) (os HS l:ah),os.length=ls.length->(∀(j i:Nat),ls[j]? = some i->∃o,HS[i]? = some o/\os[j]? = some o)->bC HS ls (os++l)=HS++l
 | [],[],HS,l,_,_=>by simp[bC]
 | [],_::_,_,_,h,_=>by simp at h
 | _::_,[],_,_,h,_=>by simp at h
 | i::ls,o::os,HS,l,h,hg=>by
   obtain⟨o',h1,h2⟩:=hg 0 i rfl;have:o'=o:=by simpa using h2.symm
   subst this;show bC (HS.set i o') ls (os++l)=_;rw[aC h1];exact w7 ls os HS l (by simpa using h) fun j i' hj=>hg (j+1) i' hj
theorem sV{bs:List Bool}{S:cR}{n:Int}(hn : -4000<=n/\n<=4000)(hb:bs.length<=800000){HS:ah}{k:Nat}(hi:HS[0]? = some (aO k bs))(hk:HS[k]? = some (au bs))(hS:(HS.drop 2).take 20=iz S)(hd:(k==1||Nat.ble 22 k)=true){N:Nat}(hN:HS.length=N){HS':ah}(hh:bC HS [0,k] [aO N (bs++fw n),.dead,au (bs++fw n)]=HS')(hbd:Nat.blt HS'.length Mem.bound=true) :
 aA.Sound prog ⟨122,[.one (.ptr 2 0),.one (.ptr 0 0),.one (.int .i64 n)],HS,.tup [],HS',0::k::dg⟩:=by
 refine K4 hn hb hi hk hS hd hN ?_ hbd;rw[<-hh];rw[bC,bC];refine w7 dg (iz S) _ _ rfl fun j i hj=>?_
 have hkk:k=1\/22<=k:=by simpa [Nat.ble_eq]using hd
 have hjl:j<20:=(List.getElem?_eq_some_iff.1 hj).1;have hq:∀q:Fin 20,dg[q.val]? = some (q.val+2):=by decide
 have:=hq ⟨j,hjl⟩;rw[hj]at this;obtain rfl:i=j+2:=by simpa using this
 rw[List.getElem?_set_ne (by omega),List.getElem?_set_ne (by omega)]
 have g:HS[j+2]? = (iz S)[j]?:=by
  rw[<-hS,List.getElem?_take,if_pos hjl,List.getElem?_drop]
  congr 1
  omega
 have hl:j<(iz S).length:=hjl;exact⟨(iz S)[j],by rw[g,List.getElem?_eq_getElem hl],List.getElem?_eq_getElem hl⟩
abbrev C9(w k N:Nat):List Nat:=0::1::2::3::4::5::6::7::8::9::10::11::12::13::14::15::16::17::18::19::20::21::22::23::w::25::26::((List.range 6).map (fun j=>if j=k then N else 27+j)++[])
theorem KW:∀k:Fin 6,(C9 24 k.val 35).Nodup/\(C9 35 k.val 36).Nodup/\(C9 36 k.val 37).Nodup:=by decide +kernel
theorem By{k:Nat}(h:k<6):(C9 24 k 35).Nodup/\(C9 35 k 36).Nodup/\(C9 36 k 37).Nodup:=KW ⟨k,h⟩
theorem NK(w N k:Nat){j:Nat}(hj:j<6):nth (C9 w k N) (27+j)=if j=k then N else 27+j:=by
 match j,hj with
 | 0,_=>rfl
 | 1,_=>rfl
 | 2,_=>rfl
 | 3,_=>rfl
 | 4,_=>rfl
 | 5,_=>rfl
abbrev Ri(ev:Nat->List Ev)(k:Nat)(EV:List Ev):Nat->List Ev:=fun j=>if j=k then EV else ev j
theorem He{τ : Nat->Nat}{k N:Nat}(hk:k<6){ev:Nat->List Ev}{EV:List Ev}(h:∀j,j<6 -> τ (27+j)=if j=k then N else 27+j):(NI (Ri ev k EV)).aB τ = .cells ([eY 27 (ev 0).length 3,eY 28 (ev 1).length 3,eY 29 (ev 2).length 3,eY 30 (ev 3).length 3,eY 31 (ev 4).length 3,eY 32 (ev 5).length 3].set k (eY N EV.length 3)) 232 false false:=by
 have h0:=h 0 (by decide);have h1:=h 1 (by decide);have h2:=h 2 (by decide);have h3:=h 3 (by decide);have h4:=h 4 (by decide);have h5:=h 5 (by decide);simp only[Nat.reduceAdd]at h0 h1 h2 h3 h4 h5;have hc:k=0\/k=1\/k=2\/k=3\/k=4\/k=5:=by omega
 rcases hc with rfl|rfl|rfl|rfl|rfl|rfl<;>simp only[aj.aB,List.map_cons,List.map_nil,aX,h0,h1,h2,h3,h4,h5]<;>rfl
theorem KY{HS:ah}{w k N:Nat}{ev:Nat->List Ev}{EV:List Ev}(hk:k<6)(h26:HS[26]? = some (.cells ([eY 27 (ev 0).length 3,eY 28 (ev 1).length 3,eY 29 (ev 2).length 3,eY 30 (ev 3).length 3,eY 31 (ev 4).length 3,eY 32 (ev 5).length 3].set k (eY N EV.length 3)) 232 false false))(hd:(HS.drop 27).take 6=(List.range 6).map fun j=>ez (ev j))(hN:HS[N]? = some (ez EV)) :
 af (nth (C9 w k N)) HS (26::((List.range 6).map (fun j=>if j=k then N else 27+j)++[])) (NI (Ri ev k EV)::((List.range 6).map (fun j=>ez (Ri ev k EV j))++[])):=by
 refine af.cons (by rw[He hk fun j hj=>NK w N k hj];exact h26) (Ec (fun j=>inferInstance) .nil (List.range 6) fun j hj => .inl ?_);have hj:=List.mem_range.1 hj;unfold Ri
 by_cases hjk:j=k
 ·rw[if_pos hjk,if_pos hjk];exact hN
 ·rw[if_neg hjk,if_neg hjk,<-List.getElem?_drop,<-List.getElem?_take_of_lt hj,hd,List.getElem?_map,List.getElem?_range hj];rfl
theorem Lm{nI:Nat}{al al2:aL}{hs hs2:ah}{w k N:Nat}(nd:(C9 w k N).Nodup:=by first|exact(By (by assumption)).1|exact(By (by assumption)).2.1|exact(By (by assumption)).2.2)(hid:(List.range nI).all (fun j=>nth (C9 w k N) j==j)=true:=by exact rfl)(obj:af (nth (C9 w k N)) hs (C9 w k N) hs2:=by
 repeat' (first|exact KY (by assumption) rfl rfl rfl|refine af.flat rfl ?_|refine af.cons rfl ?_|refine af.dead rfl ?_|refine af.gT rfl rfl rfl rfl ?_))(reg:ae (nth (C9 w k N)) al al2:=by
 repeat' (first|exact ae.nil|refine ae.flat rfl ?_|refine ae.cons rfl ?_)):GoTo nI al hs al2 hs2 (C9 w k N):=⟨.inl nd,hid,obj,reg⟩
theorem ov(bs bw:List Bool)(S:cR)(m:Mb)(mb:Int)(hg:nv m)(hS:jQ S)(hmb:0<=mb/\mb<S.cols*S.rows)(hb:bs.length<=700000)(hbw:bw.length<=700000)(x:qX)(hx:jS m mb ⟨S,bs,0,0,fun _=>[]⟩ 6=some x) :
 bm prog 93 [.one (.ptr 2 0),.one (.ptr 0 0),.one (.ptr 22 0),.one (.int .i64 mb),.agg (mC m)] [aO 1 bs,au bs,jg (S),eP 4 8 12,aU 5 6 7 cM,cL cM,cQ cM,cN cM,aU 9 10 11 cZ,cL cZ,cQ cZ,cN cZ,aU 13 14 15 cP,cL cP,cQ cP,cN cP,fi 17 (S).cols (S).rows,.map (cx (S).M),.cells [.int .i64 (S).cols,.int .i64 (S).rows,.map 19,.map 20,.map 21] 220 false false,.map (ak (S).A),.map (ak (S).B),.map (ak (S).C),aO 23 bw,au bw] (.one (.int .i64 0)) [aO 24 (ep x),.dead,jg (x.S),eP 4 8 12,aU 5 6 7 cM,cL cM,cQ cM,cN cM,aU 9 10 11 cZ,cL cZ,cQ cZ,cN cZ,aU 13 14 15 cP,cL cP,cQ cP,cN cP,fi 17 (x.S).cols (x.S).rows,.map (cx (x.S).M),.cells [.int .i64 (x.S).cols,.int .i64 (x.S).rows,.map 19,.map 20,.map 21] 220 false false,.map (ak (x.S).A),.map (ak (x.S).B),.map (ak (x.S).C),aO 25 (cJ bw x 6),.dead,au (ep x),au (cJ bw x 6)]:=by
 have hm:=hg.ok;refine cO Tryz.func93 ?_
 repeat' (first
  |(refine qz ?_;first
   |refine t_ (cs:=ti .i64 384 m.lev) ?_ (hle:=by rw[aY];decide) (hc:=IH m))
  |refine zz ?_|refine zx (fun _=>?_) (fun _=>?_)|fail)
 refine WX.bQ (σ:=Nat×qX) (fun s=>[(26,.one (.int .i64 (s.1:Nat))),(12,.one (.int .i64 s.2.pat)),(13,.one (.int .u64 s.2.col)),(0,.one (.ptr 2 0)),(1,.one (.ptr 0 0)),(2,.one (.ptr 22 0)),(3,.one (.int .i64 mb)),(9,.one (.ptr 25 0)),(11,.one (.ptr 26 0)),(25,.agg (ti .i64 384 m.lev))])
  (fun s=>[aO 24 s.2.B,.dead,jg (s.2.S),eP 4 8 12,aU 5 6 7 cM,cL cM,cQ cM,cN cM,aU 9 10 11 cZ,cL cZ,cQ cZ,cN cZ,aU 13 14 15 cP,cL cP,cQ cP,cN cP,fi 17 (s.2.S).cols (s.2.S).rows,.map (cx (s.2.S).M),.cells [.int .i64 (s.2.S).cols,.int .i64 (s.2.S).rows,.map 19,.map 20,.map 21] 220 false false,.map (ak (s.2.S).A),.map (ak (s.2.S).B),.map (ak (s.2.S).C),aO 23 bw,au bw,au s.2.B,Oo m,NI s.2.ev,ez (s.2.ev 0),ez (s.2.ev 1),ez (s.2.ev 2),ez (s.2.ev 3),ez (s.2.ev 4),ez (s.2.ev 5)]) (Ep m mb ⟨S,bs,0,0,fun _=>[]⟩) (fun s=>6-s.1) (0,⟨S,bs,0,0,fun _=>[]⟩) ⟨by show 0<=6;omega,rfl,hS,⟨rfl,rfl⟩,by show bs.length<=bs.length+76*0;omega,fun _ _=>rfl,fun _ => .inl rfl,⟨by show(0:Int)<=0;omega,by show(0:Int)<16;omega⟩,⟨by show(0:Int)<=0;omega,by show(0:Int)<4;omega⟩⟩ (fun s _=>mE) (bq [0,1,2,3,4,5,6,7,8,9,10,11,12,13,14,15,16,17,18,19,20,21,22,23,1,24,25,0,0,0,0,0,0]) ?_
 intro s hs ih;have hD:=hs.st.dims;have hmb':0<=mb/\mb<s.2.S.cols*s.2.S.rows:=by rw[hs.cr.1,hs.cr.2];exact hmb
 have hpat:=hs.pat;have hcol:=hs.col;have hlen:s.2.B.length<=bs.length+76*s.1:=hs.len
 by_cases h6:s.1<6
 ·obtain ⟨r,hr⟩:∃r,mQ m s.2.S mb s.1=some r:=by
   cases hr:mQ m s.2.S mb s.1 with
   | some r=>exact⟨r,rfl⟩
   | none=>
     have h1:jS m mb ⟨S,bs,0,0,fun _=>[]⟩ (s.1+1)=none:=by
      rw[jS,hs.run];simp only[Option.bind_some,hr,Option.map_none]
     rw[EE h1 6 (by omega)]at hx;cases hx
  have hN:=wk hg hs h6 hr;cases ha:alone m
  ·have er:cw m s.1=r:=by
    unfold mQ at hr;rw[if_neg (by rw[ha];decide)]at hr;exact Option.some.inj hr
   subst er
   obtain⟨EV,hEV⟩:∃EV,jy (qI (j7 m.edge (dI s.2.S mb s.1 m.qp).1) (cw m s.1)) 0=EV:=⟨_,rfl⟩
   have eEV:EC m s.2.S mb s.1 (cw m s.1)=EV:=by
    unfold EC;rw[if_neg (by rw[ha];decide)];exact hEV
   rw[eEV]at hN
   repeat' (first
    |(refine qz ?_;first
     |refine Ls (n:=384) ?_
     |refine tk ?_ (hs1:=by rw[aS]) (hs2:=by rw[aS])
     |refine lI ?_ (hle:=by first|rw[aS]|rw[aY])
     |refine cl ?_ (hi:=by exact yH (S:=s.2.S) (mb:=mb) (k:=(s.1:Nat)) (q:=m.qp) hD hmb' (by omega) rfl rfl rfl rfl rfl)
     |refine cl ?_ (hi:=by exact lD ha rfl)
     |refine cl ?_ (hi:=by exact uz rfl)
     |refine cl ?_ (hi:=by exact yz (f:=cw m s.1) (oC _ _) rfl)
     |refine cl (v := .one (.int .i64 0)) ?_ (hi:=by exact u3 ha rfl)
     |refine cl ?_ (hi:=by exact yq hEV rfl (by decide) nL nA rfl)
     |refine st ?_ (hle:=by exact h6) (hv:=rfl)
     |refine ld (hc:=by exact List.getElem?_set_self (by exact h6)) ?_)
    |refine zz ?_|refine zx (fun _=>?_) (fun _=>?_)|fail)
   ·rename_i g0 g1
    have hE:fY m mb s.1 s.2 EV=⟨s.2.S,s.2.B,rI s.2.pat s.1,s.2.col,fun j=>if j=s.1 then EV else s.2.ev j⟩:=by
     unfold fY;rw[if_neg (by rw[ha];decide),if_neg (by rw[ha];decide),if_pos (by omega),if_neg (by omega)]
    rw[hE]at hN;refine ih (s.1+1,⟨s.2.S,s.2.B,rI s.2.pat s.1,s.2.col,fun j=>if j=s.1 then EV else s.2.ev j⟩) _ _ _ (Lm (w:=24) (k:=s.1) (N:=35)) hN (by show 6-(s.1+1)<6-s.1;omega)
   ·rename_i g0 g1
    have hE:fY m mb s.1 s.2 EV=⟨s.2.S,s.2.B,s.2.pat,rm s.2.col s.1,fun j=>if j=s.1 then EV else s.2.ev j⟩:=by
     unfold fY;rw[if_neg (by rw[ha];decide),if_neg (by rw[ha];decide),if_neg (by omega),if_pos (by omega)]
    rw[hE]at hN;refine ih (s.1+1,⟨s.2.S,s.2.B,s.2.pat,rm s.2.col s.1,fun j=>if j=s.1 then EV else s.2.ev j⟩) _ _ _ (Lm (w:=24) (k:=s.1) (N:=35)) hN (by show 6-(s.1+1)<6-s.1;omega)
   ·rename_i g0
    have hE:fY m mb s.1 s.2 EV=⟨s.2.S,s.2.B,s.2.pat,s.2.col,fun j=>if j=s.1 then EV else s.2.ev j⟩:=by
     unfold fY;rw[if_neg (by rw[ha];decide),if_neg (by rw[ha];decide),if_neg (by omega),if_neg (by omega)]
    rw[hE]at hN;refine ih (s.1+1,⟨s.2.S,s.2.B,s.2.pat,s.2.col,fun j=>if j=s.1 then EV else s.2.ev j⟩) _ _ _ (Lm (w:=24) (k:=s.1) (N:=35)) hN (by show 6-(s.1+1)<6-s.1;omega)
  ·cases he:m.edge
   ·have he':m.edge=false:=he;have hl6:(mC m)[6]? = some (.bool false):=congrArg (fun b=>some (XC.bool b)) he';have hfr:=rR s.2.S mb s.1 m.qp;have hfi:0<=m.lev ((s.1:Int).toNat*64+0)/\m.lev ((s.1:Int).toNat*64+0)<=127:=hg.first ha s.1 h6
    have hdr:=tN hg (S:=s.2.S) (mb:=mb) ha h6
    have er:gG (cw m s.1) 0 0=r:=by
     unfold mQ at hr;rw[if_pos ha,if_neg (by rw[he'];decide)]at hr;exact Option.some.inj hr
    subst er
    obtain⟨EV,hEV⟩:∃EV,jy (qI (j7 false (dI s.2.S mb s.1 m.qp).1) (gG (cw m s.1) 0 0)) 1=EV:=⟨_,rfl⟩
    have eEV:EC m s.2.S mb s.1 (gG (cw m s.1) 0 0)=EV:=by
     unfold EC;rw[if_pos ha,he'];exact hEV
    rw[eEV]at hN
    repeat' (first
     |(refine qz ?_;first
      |refine ld (hc:=hl6) ?_
      |refine Ls (n:=384) ?_
      |refine tk ?_ (hs1:=by rw[aS]) (hs2:=by rw[aS])
      |refine lI ?_ (hle:=by first|rw[aS]|rw[aY])
      |refine cl ?_ (hi:=by exact yH (S:=s.2.S) (mb:=mb) (k:=(s.1:Nat)) (q:=m.qp) hD hmb' (by omega) rfl rfl rfl rfl rfl)
      |refine cl ?_ (hi:=by exact lD ha rfl)
      |refine cl ?_ (hi:=by exact uz rfl)
      |refine Sx ?_ (hi:=by exact sV (n:=cw m s.1 0-(dI s.2.S mb s.1 m.qp).2) hdr (bs:=s.2.B) (by omega) rfl rfl (S:=s.2.S) rfl rfl nL nA rfl)
      |refine cl ?_ (hi:=by exact sV (n:=cw m s.1 0-(dI s.2.S mb s.1 m.qp).2) hdr (bs:=s.2.B) (by omega) rfl rfl (S:=s.2.S) rfl rfl nL nA rfl)
      |refine cl ?_ (hi:=by exact D_ (S:=s.2.S) (mb:=mb) (k:=(s.1:Nat)) (b:=⟨cw m s.1,m.qp⟩) hD hmb' (by omega) rfl rfl rfl rfl nA rfl)
      |refine cl ?_ (hi:=by exact yz (f:=gG (cw m s.1) 0 0) (oC _ _) rfl)
      |refine cl (v := .one (.int .i64 1)) ?_ (hi:=by exact u3 ha rfl)
      |refine cl ?_ (hi:=by exact yq hEV rfl (by decide) nL nA rfl)
      |refine st ?_ (hle:=by exact h6) (hv:=rfl)
      |refine ld (hc:=by exact List.getElem?_set_self (by exact h6)) ?_)
     |refine zz ?_|refine zx (fun _=>?_) (fun _=>?_)|fail)
    ·rename_i g0 g1
     have hE:fY m mb s.1 s.2 EV=⟨eH s.2.S mb s.1 ⟨cw m s.1,m.qp⟩,s.2.B++fw (cw m s.1 0-(dI s.2.S mb s.1 m.qp).2),rI s.2.pat s.1,s.2.col,fun j=>if j=s.1 then EV else s.2.ev j⟩:=by
      unfold fY;rw[if_pos ha,if_pos ha,if_pos (by omega),if_neg (by omega)]
     rw[hE]at hN;refine ih (s.1+1,⟨eH s.2.S mb s.1 ⟨cw m s.1,m.qp⟩,s.2.B++fw (cw m s.1 0-(dI s.2.S mb s.1 m.qp).2),rI s.2.pat s.1,s.2.col,fun j=>if j=s.1 then EV else s.2.ev j⟩) _ _ _ (Lm (w:=35) (k:=s.1) (N:=36)) hN (by show 6-(s.1+1)<6-s.1;omega)
    ·rename_i g0 g1
     have hE:fY m mb s.1 s.2 EV=⟨eH s.2.S mb s.1 ⟨cw m s.1,m.qp⟩,s.2.B++fw (cw m s.1 0-(dI s.2.S mb s.1 m.qp).2),s.2.pat,rm s.2.col s.1,fun j=>if j=s.1 then EV else s.2.ev j⟩:=by
      unfold fY;rw[if_pos ha,if_pos ha,if_neg (by omega),if_pos (by omega)]
     rw[hE]at hN;refine ih (s.1+1,⟨eH s.2.S mb s.1 ⟨cw m s.1,m.qp⟩,s.2.B++fw (cw m s.1 0-(dI s.2.S mb s.1 m.qp).2),s.2.pat,rm s.2.col s.1,fun j=>if j=s.1 then EV else s.2.ev j⟩) _ _ _ (Lm (w:=35) (k:=s.1) (N:=36)) hN (by show 6-(s.1+1)<6-s.1;omega)
    ·rename_i g0
     have hE:fY m mb s.1 s.2 EV=⟨eH s.2.S mb s.1 ⟨cw m s.1,m.qp⟩,s.2.B++fw (cw m s.1 0-(dI s.2.S mb s.1 m.qp).2),s.2.pat,s.2.col,fun j=>if j=s.1 then EV else s.2.ev j⟩:=by
      unfold fY;rw[if_pos ha,if_pos ha,if_neg (by omega),if_neg (by omega)]
     rw[hE]at hN;refine ih (s.1+1,⟨eH s.2.S mb s.1 ⟨cw m s.1,m.qp⟩,s.2.B++fw (cw m s.1 0-(dI s.2.S mb s.1 m.qp).2),s.2.pat,s.2.col,fun j=>if j=s.1 then EV else s.2.ev j⟩) _ _ _ (Lm (w:=35) (k:=s.1) (N:=36)) hN (by show 6-(s.1+1)<6-s.1;omega)
   ·have he':m.edge=true:=he;have hl6:(mC m)[6]? = some (.bool true):=congrArg (fun b=>some (XC.bool b)) he';have hfr:=rR s.2.S mb s.1 m.qp;have hfi:0<=m.lev ((s.1:Int).toNat*64+0)/\m.lev ((s.1:Int).toNat*64+0)<=127:=hg.first ha s.1 h6
    have hdr:=tN hg (S:=s.2.S) (mb:=mb) ha h6
    obtain⟨R,hR,er⟩:∃R,o_ (cw m s.1) (kf s.2.S mb s.1 m.qp)=some R/\gG R 0 0=r:=by
     unfold mQ at hr;rw[if_pos ha,if_pos he']at hr;exact Option.map_eq_some_iff.1 hr
    subst er
    obtain⟨EV,hEV⟩:∃EV,jy (qI (j7 true (dI s.2.S mb s.1 m.qp).1) (gG (R) 0 0)) 1=EV:=⟨_,rfl⟩
    have eEV:EC m s.2.S mb s.1 (gG (R) 0 0)=EV:=by
     unfold EC;rw[if_pos ha,he'];exact hEV
    rw[eEV]at hN
    repeat' (first
     |(refine qz ?_;first
      |refine ld (hc:=hl6) ?_
      |refine Ls (n:=384) ?_
      |refine tk ?_ (hs1:=by rw[aS]) (hs2:=by rw[aS])
      |refine lI ?_ (hle:=by first|rw[aS]|rw[aY])
      |refine cl ?_ (hi:=by exact yH (S:=s.2.S) (mb:=mb) (k:=(s.1:Nat)) (q:=m.qp) hD hmb' (by omega) rfl rfl rfl rfl rfl)
      |refine cl ?_ (hi:=by exact lD ha rfl)
      |refine cl ?_ (hi:=by exact uz rfl)
      |refine cl ?_ (hi:=by exact JR (S:=s.2.S) (mb:=mb) (k:=(s.1:Nat)) (q:=m.qp) hD hmb' (by omega) rfl rfl rfl rfl rfl)
      |refine cl (v := .tup [.agg (ti .i64 64 R),.one (.bool true)]) ?_ (hi:=by exact Ly (l:=cw m s.1) (fun i=>hm.lev _) (Cz (fun dx dy b hb=>Oq hs.st.lev hb)) hR rfl)
      |refine Sx ?_ (hi:=by exact sV (n:=cw m s.1 0-(dI s.2.S mb s.1 m.qp).2) hdr (bs:=s.2.B) (by omega) rfl rfl (S:=s.2.S) rfl rfl nL nA rfl)
      |refine cl ?_ (hi:=by exact sV (n:=cw m s.1 0-(dI s.2.S mb s.1 m.qp).2) hdr (bs:=s.2.B) (by omega) rfl rfl (S:=s.2.S) rfl rfl nL nA rfl)
      |refine cl ?_ (hi:=by exact D_ (S:=s.2.S) (mb:=mb) (k:=(s.1:Nat)) (b:=⟨cw m s.1,m.qp⟩) hD hmb' (by omega) rfl rfl rfl rfl nA rfl)
      |refine cl ?_ (hi:=by exact yz (f:=gG (R) 0 0) (oC _ _) rfl)
      |refine cl (v := .one (.int .i64 1)) ?_ (hi:=by exact u3 ha rfl)
      |refine cl ?_ (hi:=by exact yq hEV rfl (by decide) nL nA rfl)
      |refine st ?_ (hle:=by exact h6) (hv:=rfl)
      |refine ld (hc:=by exact List.getElem?_set_self (by exact h6)) ?_)
     |refine SH (id:=10) [14] ?_|refine zz ?_|refine zx (fun _=>?_) (fun _=>?_)|fail)
    ·rename_i g0 g1
     have hE:fY m mb s.1 s.2 EV=⟨eH s.2.S mb s.1 ⟨cw m s.1,m.qp⟩,s.2.B++fw (cw m s.1 0-(dI s.2.S mb s.1 m.qp).2),rI s.2.pat s.1,s.2.col,fun j=>if j=s.1 then EV else s.2.ev j⟩:=by
      unfold fY;rw[if_pos ha,if_pos ha,if_pos (by omega),if_neg (by omega)]
     rw[hE]at hN;refine ih (s.1+1,⟨eH s.2.S mb s.1 ⟨cw m s.1,m.qp⟩,s.2.B++fw (cw m s.1 0-(dI s.2.S mb s.1 m.qp).2),rI s.2.pat s.1,s.2.col,fun j=>if j=s.1 then EV else s.2.ev j⟩) _ _ _ (Lm (w:=36) (k:=s.1) (N:=37)) hN (by show 6-(s.1+1)<6-s.1;omega)
    ·rename_i g0 g1
     have hE:fY m mb s.1 s.2 EV=⟨eH s.2.S mb s.1 ⟨cw m s.1,m.qp⟩,s.2.B++fw (cw m s.1 0-(dI s.2.S mb s.1 m.qp).2),s.2.pat,rm s.2.col s.1,fun j=>if j=s.1 then EV else s.2.ev j⟩:=by
      unfold fY;rw[if_pos ha,if_pos ha,if_neg (by omega),if_pos (by omega)]
     rw[hE]at hN;refine ih (s.1+1,⟨eH s.2.S mb s.1 ⟨cw m s.1,m.qp⟩,s.2.B++fw (cw m s.1 0-(dI s.2.S mb s.1 m.qp).2),s.2.pat,rm s.2.col s.1,fun j=>if j=s.1 then EV else s.2.ev j⟩) _ _ _ (Lm (w:=36) (k:=s.1) (N:=37)) hN (by show 6-(s.1+1)<6-s.1;omega)
    ·rename_i g0
     have hE:fY m mb s.1 s.2 EV=⟨eH s.2.S mb s.1 ⟨cw m s.1,m.qp⟩,s.2.B++fw (cw m s.1 0-(dI s.2.S mb s.1 m.qp).2),s.2.pat,s.2.col,fun j=>if j=s.1 then EV else s.2.ev j⟩:=by
      unfold fY;rw[if_pos ha,if_pos ha,if_neg (by omega),if_neg (by omega)]
     rw[hE]at hN;refine ih (s.1+1,⟨eH s.2.S mb s.1 ⟨cw m s.1,m.qp⟩,s.2.B++fw (cw m s.1 0-(dI s.2.S mb s.1 m.qp).2),s.2.pat,s.2.col,fun j=>if j=s.1 then EV else s.2.ev j⟩) _ _ _ (Lm (w:=36) (k:=s.1) (N:=37)) hN (by show 6-(s.1+1)<6-s.1;omega)
 ·have h66:s.1=6:=by have:=hs.le;omega
  have hxs:s.2=x:=by
   have h1:=hs.run;rw[h66,hx]at h1;exact(Option.some.inj h1).symm
  have hcl:=jJ Hw x.pat.toNat;have hevs:=hs.evs;rw[hxs]at hpat hcol hlen hevs ⊢;have hpn:x.pat=(x.pat.toNat:Nat):=by omega
  repeat' (first
   |(refine qz ?_;first
    |refine cl ?_ (hi:=by exact qa (C:=cP) Hw (n:=x.pat.toNat) hpn (by show x.pat.toNat<16;omega) (bs:=x.B) (by omega) rfl rfl rfl rfl rfl rfl (by decide) nL nA rfl)
    |refine cl ?_ (hi:=by exact eZ (n:=x.col) (size:=2) rfl (bs:=x.B++iX cP x.pat.toNat) (by omega) (by decide) (by rw[List.length_append];omega) rfl rfl (by decide) nL nA rfl))
   |refine zz ?_|refine zx (fun _=>?_) (fun _=>?_)|fail)
  refine WX.bQ (σ:=Nat) (fun j=>[(125,.one (.int .i64 (j:Nat))),(2,.one (.ptr 22 0)),(124,.agg [eY 26 (x.ev 0).length 3,eY 27 (x.ev 1).length 3,eY 28 (x.ev 2).length 3,eY 29 (x.ev 3).length 3,eY 30 (x.ev 4).length 3,eY 31 (x.ev 5).length 3])]) (fun j=>[aO 24 (ep x),.dead,jg (x.S),eP 4 8 12,aU 5 6 7 cM,cL cM,cQ cM,cN cM,aU 9 10 11 cZ,cL cZ,cQ cZ,cN cZ,aU 13 14 15 cP,cL cP,cQ cP,cN cP,fi 17 (x.S).cols (x.S).rows,.map (cx (x.S).M),.cells [.int .i64 (x.S).cols,.int .i64 (x.S).rows,.map 19,.map 20,.map 21] 220 false false,.map (ak (x.S).A),.map (ak (x.S).B),.map (ak (x.S).C),aO 25 (cJ bw x j),.dead,au (ep x),au (cJ bw x j),ez (x.ev 0),ez (x.ev 1),ez (x.ev 2),ez (x.ev 3),ez (x.ev 4),ez (x.ev 5)]) (fun j=>j<=6) (fun j=>6-j) 0 (by omega) (fun s _=>mE) (bq [0,1,2,3,4,5,6,7,8,9,10,11,12,13,14,15,16,17,18,19,20,21,22,23,34,23,27,28,29,30,31,32] (obj:=by(repeat' (first|exact af.nil|refine af.gT rfl rfl rfl rfl ?_|refine oz ?_));first|done|fail) (reg:=by(repeat' (first|exact ae.nil|refine ae.cons (by simp only[XV.aB,List.map_cons,List.map_nil,aX];rfl) ?_|refine rz ?_|refine ae.sl rfl (by assumption) rfl ?_));first|done|fail)) ?_;intro j hj ih2
  by_cases hj6:j<6
  ·have hW:=rh (bw:=bw) hevs j;have ih3:=fun τl al' hs'=>ih2 (j+1) τl al' hs'
   have hjc:j=0\/j=1\/j=2\/j=3\/j=4\/j=5:=by omega
   by_cases hl0:(x.ev j).length=0
   ·have e0:x.ev j = []:=List.length_eq_zero_iff.1 hl0;have eW:cJ bw x (j+1)=cJ bw x j:=(show cJ bw x (j+1)=cJ bw x j++gp (x.ev j)from rfl).trans (by rw[e0];exact List.append_nil _)
    rcases hjc with rfl|rfl|rfl|rfl|rfl|rfl
    all_goals
     repeat' (first
      |(refine qz ?_;first
       |refine KG ?_)
      |refine zz ?_|refine zx (fun _=>?_) (fun _=>?_)|fail)
     refine ih3 _ _ _ (bq [0,1,2,3,4,5,6,7,8,9,10,11,12,13,14,15,16,17,18,19,20,21,22,23,24,25,26,27,28,29,30,31] (obj:=by(repeat' (first|exact af.nil|refine af.flat (by rw[eW];rfl) ?_|refine af.gT rfl rfl rfl rfl ?_|refine af.gT (by rw[eW];rfl) rfl rfl rfl ?_|refine oz ?_));first|done|fail) (reg:=by(repeat' (first|exact ae.nil|refine ae.cons (by simp only[XV.aB,List.map_cons,List.map_nil,aX];rfl) ?_|refine rz ?_|refine ae.sl rfl (by assumption) rfl ?_));first|done|fail)) (by omega) (by omega)
   ·have ho:pV (x.ev j):=(hevs j).resolve_left (fun h=>hl0 (by rw[h];rfl))
    rcases hjc with rfl|rfl|rfl|rfl|rfl|rfl
    all_goals
     repeat' (first
      |(refine qz ?_;first
       |refine KG ?_
       |refine cl ?_ (hi:=by exact KZ ho (by omega) rfl rfl rfl (by decide) nL nA rfl))
      |refine zz ?_|refine zx (fun _=>?_) (fun _=>?_)|fail)
     refine ih3 _ _ _ (bq [0,1,2,3,4,5,6,7,8,9,10,11,12,13,14,15,16,17,18,19,20,21,22,23,24,32,26,27,28,29,30,31] (obj:=by(repeat' (first|exact af.nil|refine af.gT rfl rfl rfl rfl ?_|refine oz ?_));first|done|fail) (reg:=by(repeat' (first|exact ae.nil|refine ae.cons (by simp only[XV.aB,List.map_cons,List.map_nil,aX];rfl) ?_|refine rz ?_|refine ae.sl rfl (by assumption) rfl ?_));first|done|fail)) (by omega) (by omega)
  ·obtain rfl:j=6:=by omega
   repeat' (first|refine zz ?_|refine zx (fun _=>?_) (fun _=>?_)|fail)
   show aE _ _ _ _ _ _ _ _;refine kV [0,1,2,3,4,5,6,7,8,9,10,11,12,13,14,15,16,17,18,19,20,21,22,23,24,25] ?_;rfl
end Go.Proofs.YthdciapjllppjaaGreat
