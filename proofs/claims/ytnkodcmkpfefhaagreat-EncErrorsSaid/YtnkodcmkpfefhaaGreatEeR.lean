/-
  A part of the proof: Blocks.
-/
import Derived.Test.YtnkodcmkpfefhaaGreatEeM
import Derived.Test.YtnkodcmkpfefhaaGreatEeQ
set_option maxRecDepth 10000
set_option maxHeartbeats 8000000
set_option linter.unusedVariables false
set_option linter.unusedSectionVars false
set_option linter.unusedSimpArgs false
namespace Go.Xm
variable [aw]
theorem AN{τ : Nat->Nat}{HS:ai}{g:Nat->Nat}{f:Nat->ah}(hf:∀j,aR (f j)){ls:List Nat}{l:ai}(h:ae τ HS ls l):∀(js:List Nat),(∀j∈js,HS[g j]? = some (f j)\/(f j = .dead/\g j<HS.length))->ae τ HS (js.map g++ls) (js.map f++l)
 | [],_=>h
 | j :: js,hj=>by
   have ih:=AN hf h js fun i hi=>hj i (List.mem_cons_of_mem _ hi)
   rcases hj j (List.mem_cons_self ..)with h1|⟨h1,h2⟩
   ·have:=hf j
    exact ae.flat h1 ih
   ·show ae τ HS (g j::(js.map g++ls)) (f j::(js.map f++l))
    rw[h1]
    exact ae.dead (by rw[Nat.blt_eq];exact h2) ih
end Go.Xm
namespace Go.Proofs.YtnkodcmkpfefhaaGreat
open Go.Xm
variable [aw]
theorem mH{f:Nat->Int}{st:Nat}{EV:List Ev}(h:gF f st=EV){z:Int}(hz:z=(st:Nat))(hst:st<=64){HS:ai}{N:Nat}(hN:HS.length=N){HS':ai}(hh:HS++[da EV]=HS')(hbd:Nat.blt HS'.length Mem.bound=true) :
 aC.Sound Tryz.prog ⟨146,[.agg (ti .i64 64 f),.one (.int .i64 z)],HS,kA N EV.length 3,HS',[]⟩:=by
 subst h
 exact HF hz hst hN hh hbd
theorem tG:∀(ls:List Nat) (os HS l:ai),os.length=ls.length->(∀(j i:Nat),ls[j]? = some i->∃o,HS[i]? = some o/\os[j]? = some o)->bQ HS ls (os++l)=HS++l
 | [],[],HS,l,_,_=>by simp[bQ]
 | [],_::_,_,_,h,_=>by simp at h
 | _::_,[],_,_,h,_=>by simp at h
 | i::ls,o::os,HS,l,h,hg=>by
   obtain⟨o',h1,h2⟩:=hg 0 i rfl
   have:o'=o:=by simpa using h2.symm
   subst this
   show bQ (HS.set i o') ls (os++l)=_
   rw[aV h1]
   exact tG ls os HS l (by simpa using h) fun j i' hj=>hg (j+1) i' hj
theorem jD{bs:List Bool}{S:bO}{n:Int}(hn : -4000<=n/\n<=4000)(hb:bs.length<=800000){HS:ai}{k:Nat}(hi:HS[0]? = some (aK k bs))(hk:HS[k]? = some (aq bs))(hS:(HS.drop 2).take 20=gh S)(hd:(k==1||Nat.ble 22 k)=true){N:Nat}(hN:HS.length=N){HS':ai}(hh:bQ HS [0,k] [aK N (bs++cH n),.dead,aq (bs++cH n)]=HS')(hbd:Nat.blt HS'.length Mem.bound=true) :
 aC.Sound Tryz.prog ⟨145,[.one (.ptr 2 0),.one (.ptr 0 0),.one (.int .i64 n)],HS,.tup [],HS',0::k::cf⟩:=by
 refine GN hn hb hi hk hS hd hN ?_ hbd
 rw[<-hh]
 rw[bQ,bQ]
 refine tG cf (gh S) _ _ rfl fun j i hj=>?_
 have hkk:k=1\/22<=k:=by simpa [Nat.ble_eq]using hd
 have hjl:j<20:=(List.getElem?_eq_some_iff.1 hj).1
 have hq:∀q:Fin 20,cf[q.val]? = some (q.val+2):=by decide
 have:=hq ⟨j,hjl⟩
 rw[hj]at this
 obtain rfl:i=j+2:=by simpa using this
 rw[List.getElem?_set_ne (by omega),List.getElem?_set_ne (by omega)]
 have g:HS[j+2]? = (gh S)[j]?:=by
  rw[<-hS,List.getElem?_take,if_pos hjl,List.getElem?_drop]
  congr 1
  omega
 have hl:j<(gh S).length:=hjl
 exact⟨(gh S)[j],by rw[g,List.getElem?_eq_getElem hl],List.getElem?_eq_getElem hl⟩
abbrev zR(w k N:Nat):List Nat:=0::1::2::3::4::5::6::7::8::9::10::11::12::13::14::15::16::17::18::19::20::21::22::23::w::25::26::((List.range 6).map (fun j=>if j=k then N else 27+j)++[])
theorem GB:∀k:Fin 6,(zR 24 k.val 35).Nodup/\(zR 35 k.val 36).Nodup/\(zR 36 k.val 37).Nodup:=by decide +kernel
theorem x8{k:Nat}(h:k<6):(zR 24 k 35).Nodup/\(zR 35 k 36).Nodup/\(zR 36 k 37).Nodup:=GB ⟨k,h⟩
theorem IU(w N k:Nat){j:Nat}(hj:j<6):nth (zR w k N) (27+j)=if j=k then N else 27+j:=by
 match j,hj with
 | 0,_=>rfl
 | 1,_=>rfl
 | 2,_=>rfl
 | 3,_=>rfl
 | 4,_=>rfl
 | 5,_=>rfl
abbrev LS(ev:Nat->List Ev)(k:Nat)(EV:List Ev):Nat->List Ev:=fun j=>if j=k then EV else ev j
theorem Du{τ : Nat->Nat}{k N:Nat}(hk:k<6){ev:Nat->List Ev}{EV:List Ev}(h:∀j,j<6 -> τ (27+j)=if j=k then N else 27+j):(GA (LS ev k EV)).ax τ = .cells ([jx 27 (ev 0).length 3,jx 28 (ev 1).length 3,jx 29 (ev 2).length 3,jx 30 (ev 3).length 3,jx 31 (ev 4).length 3,jx 32 (ev 5).length 3].set k (jx N EV.length 3)) 225 false false:=by
 have h0:=h 0 (by decide)
 have h1:=h 1 (by decide)
 have h2:=h 2 (by decide)
 have h3:=h 3 (by decide)
 have h4:=h 4 (by decide)
 have h5:=h 5 (by decide)
 simp only[Nat.reduceAdd]at h0 h1 h2 h3 h4 h5
 have hc:k=0\/k=1\/k=2\/k=3\/k=4\/k=5:=by omega
 rcases hc with rfl|rfl|rfl|rfl|rfl|rfl<;>simp only[ah.ax,List.map_cons,List.map_nil,aB,h0,h1,h2,h3,h4,h5]<;>rfl
theorem GF{HS:ai}{w k N:Nat}{ev:Nat->List Ev}{EV:List Ev}(hk:k<6)(h26:HS[26]? = some (.cells ([jx 27 (ev 0).length 3,jx 28 (ev 1).length 3,jx 29 (ev 2).length 3,jx 30 (ev 3).length 3,jx 31 (ev 4).length 3,jx 32 (ev 5).length 3].set k (jx N EV.length 3)) 225 false false))(hd:(HS.drop 27).take 6=(List.range 6).map fun j=>da (ev j))(hN:HS[N]? = some (da EV)) :
 ae (nth (zR w k N)) HS (26::((List.range 6).map (fun j=>if j=k then N else 27+j)++[])) (GA (LS ev k EV)::((List.range 6).map (fun j=>da (LS ev k EV j))++[])):=by
 refine ae.cons (by rw[Du hk fun j hj=>IU w N k hj];exact h26) (AN (fun j=>inferInstance) .nil (List.range 6) fun j hj => .inl ?_)
 have hj:=List.mem_range.1 hj
 unfold LS
 by_cases hjk:j=k
 ·rw[if_pos hjk,if_pos hjk];exact hN
 ·rw[if_neg hjk,if_neg hjk,<-List.getElem?_drop,<-List.getElem?_take_of_lt hj,hd,List.getElem?_map,List.getElem?_range hj]
  rfl
theorem vv{nI:Nat}{al al2:bc}{hs hs2:ai}{w k N:Nat}(nd:(zR w k N).Nodup:=by first|exact(x8 (by assumption)).1|exact(x8 (by assumption)).2.1|exact(x8 (by assumption)).2.2)(hid:(List.range nI).all (fun j=>nth (zR w k N) j==j)=true:=by exact rfl)(obj:ae (nth (zR w k N)) hs (zR w k N) hs2:=by
 repeat' (first|exact GF (by assumption) rfl rfl rfl|refine ae.flat rfl ?_|refine ae.cons rfl ?_|refine ae.dead rfl ?_|refine ae.fu rfl rfl rfl rfl ?_))(reg:ak (nth (zR w k N)) al al2:=by
 repeat' (first|exact ak.nil|refine ak.flat rfl ?_|refine ak.cons rfl ?_)):GoTo nI al hs al2 hs2 (zR w k N):=⟨.inl nd,hid,obj,reg⟩
theorem mu(bs bw:List Bool)(S:bO)(m:Mb)(mb:Int)(hg:kL m)(hS:f4 S)(hmb:0<=mb/\mb<S.cols*S.rows)(hb:bs.length<=700000)(hbw:bw.length<=700000)(x:oT)(hx:gm m mb ⟨S,bs,0,0,fun _=>[]⟩ 6=some x) :
 aW Tryz.prog 115 [.one (.ptr 2 0),.one (.ptr 0 0),.one (.ptr 22 0),.one (.int .i64 mb),.agg (mC m)] [aK 1 bs,aq bs,fv (S),cK 4 8 12,aI 5 6 7 cM,bz cM,bC cM,bB cM,aI 9 10 11 cZ,bz cZ,bC cZ,bB cZ,aI 13 14 15 cP,bz cP,bC cP,bB cP,dq 17 (S).cols (S).rows,.map (bK (S).M),.cells [.int .i64 (S).cols,.int .i64 (S).rows,.map 19,.map 20,.map 21] 142 false false,.map (aj (S).A),.map (aj (S).B),.map (aj (S).C),aK 23 bw,aq bw] (.one (.int .i64 0)) [aK 24 (dY x),.dead,fv (x.S),cK 4 8 12,aI 5 6 7 cM,bz cM,bC cM,bB cM,aI 9 10 11 cZ,bz cZ,bC cZ,bB cZ,aI 13 14 15 cP,bz cP,bC cP,bB cP,dq 17 (x.S).cols (x.S).rows,.map (bK (x.S).M),.cells [.int .i64 (x.S).cols,.int .i64 (x.S).rows,.map 19,.map 20,.map 21] 142 false false,.map (aj (x.S).A),.map (aj (x.S).B),.map (aj (x.S).C),aK 25 (cC bw x 6),.dead,aq (dY x),aq (cC bw x 6)]:=by
 have hm:=hg.ok
 refine cO Tryz.func115 ?_
 repeat' (first
  |(refine qz ?_;first
   |refine mU (cs:=ti .i64 384 m.lev) ?_ (hle:=by rw[aQ];decide) (hc:=yJ m))
  |refine zz ?_|refine zx (fun _=>?_) (fun _=>?_)|fail)
 refine WX.bZ (σ:=Nat×oT) (fun s=>[(26,.one (.int .i64 (s.1:Nat))),(12,.one (.int .i64 s.2.pat)),(13,.one (.int .u64 s.2.col)),(0,.one (.ptr 2 0)),(1,.one (.ptr 0 0)),(2,.one (.ptr 22 0)),(3,.one (.int .i64 mb)),(9,.one (.ptr 25 0)),(11,.one (.ptr 26 0)),(25,.agg (ti .i64 384 m.lev))])
  (fun s=>[aK 24 s.2.B,.dead,fv (s.2.S),cK 4 8 12,aI 5 6 7 cM,bz cM,bC cM,bB cM,aI 9 10 11 cZ,bz cZ,bC cZ,bB cZ,aI 13 14 15 cP,bz cP,bC cP,bB cP,dq 17 (s.2.S).cols (s.2.S).rows,.map (bK (s.2.S).M),.cells [.int .i64 (s.2.S).cols,.int .i64 (s.2.S).rows,.map 19,.map 20,.map 21] 142 false false,.map (aj (s.2.S).A),.map (aj (s.2.S).B),.map (aj (s.2.S).C),aK 23 bw,aq bw,aq s.2.B,Hp m,GA s.2.ev,da (s.2.ev 0),da (s.2.ev 1),da (s.2.ev 2),da (s.2.ev 3),da (s.2.ev 4),da (s.2.ev 5)]) (xS m mb ⟨S,bs,0,0,fun _=>[]⟩) (fun s=>6-s.1) (0,⟨S,bs,0,0,fun _=>[]⟩) ⟨by show 0<=6;omega,rfl,hS,⟨rfl,rfl⟩,by show bs.length<=bs.length+76*0;omega,fun _ _=>rfl,fun _ => .inl rfl,⟨by show(0:Int)<=0;omega,by show(0:Int)<16;omega⟩,⟨by show(0:Int)<=0;omega,by show(0:Int)<4;omega⟩⟩ (fun s _=>hX) (b_ [0,1,2,3,4,5,6,7,8,9,10,11,12,13,14,15,16,17,18,19,20,21,22,23,1,24,25,0,0,0,0,0,0]) ?_
 intro s hs ih
 have hD:=hs.st.dims
 have hmb':0<=mb/\mb<s.2.S.cols*s.2.S.rows:=by rw[hs.cr.1,hs.cr.2];exact hmb
 have hpat:=hs.pat
 have hcol:=hs.col
 have hlen:s.2.B.length<=bs.length+76*s.1:=hs.len
 by_cases h6:s.1<6
 ·obtain ⟨r,hr⟩:∃r,f5 m s.2.S mb s.1=some r:=by
   cases hr:f5 m s.2.S mb s.1 with
   | some r=>exact⟨r,rfl⟩
   | none=>
     have h1:gm m mb ⟨S,bs,0,0,fun _=>[]⟩ (s.1+1)=none:=by
      rw[gm,hs.run]
      simp only[Option.bind_some,hr,Option.map_none]
     rw[A9 h1 6 (by omega)]at hx
     cases hx
  have hN:=j_ hg hs h6 hr
  cases ha:alone m
  ·have er:bg m s.1=r:=by
    unfold f5 at hr
    rw[if_neg (by rw[ha];decide)]at hr
    exact Option.some.inj hr
   subst er
   obtain⟨EV,hEV⟩:∃EV,gF (lK (gz m.edge (bN s.2.S mb s.1 m.qp).1) (bg m s.1)) 0=EV:=⟨_,rfl⟩
   have eEV:vu m s.2.S mb s.1 (bg m s.1)=EV:=by
    unfold vu
    rw[if_neg (by rw[ha];decide)]
    exact hEV
   rw[eEV]at hN
   repeat' (first
    |(refine qz ?_;first
     |refine uz (n:=384) ?_
     |refine lO ?_ (hs1:=by rw[aL]) (hs2:=by rw[aL])
     |refine fV ?_ (hle:=by first|rw[aL]|rw[aQ])
     |refine cl ?_ (hi:=by exact lz (S:=s.2.S) (mb:=mb) (k:=(s.1:Nat)) (q:=m.qp) hD hmb' (by omega) rfl rfl rfl rfl rfl)
     |refine cl ?_ (hi:=by exact dP ha rfl)
     |refine cl ?_ (hi:=by exact jf rfl)
     |refine cl ?_ (hi:=by exact mK (f:=bg m s.1) (gY _ _) rfl)
     |refine cl (v := .one (.int .i64 0)) ?_ (hi:=by exact kB ha rfl)
     |refine cl ?_ (hi:=by exact mH hEV rfl (by decide) nL nA rfl)
     |refine st ?_ (hle:=by exact h6) (hv:=rfl)
     |refine ld (hc:=by exact List.getElem?_set_self (by exact h6)) ?_)
    |refine zz ?_|refine zx (fun _=>?_) (fun _=>?_)|fail)
   ·rename_i g0 g1
    have hE:cw m mb s.1 s.2 EV=⟨s.2.S,s.2.B,lp s.2.pat s.1,s.2.col,fun j=>if j=s.1 then EV else s.2.ev j⟩:=by
     unfold cw
     rw[if_neg (by rw[ha];decide),if_neg (by rw[ha];decide),if_pos (by omega),if_neg (by omega)]
    rw[hE]at hN
    refine ih (s.1+1,⟨s.2.S,s.2.B,lp s.2.pat s.1,s.2.col,fun j=>if j=s.1 then EV else s.2.ev j⟩) _ _ _ (vv (w:=24) (k:=s.1) (N:=35)) hN (by show 6-(s.1+1)<6-s.1;omega)
   ·rename_i g0 g1
    have hE:cw m mb s.1 s.2 EV=⟨s.2.S,s.2.B,s.2.pat,kT s.2.col s.1,fun j=>if j=s.1 then EV else s.2.ev j⟩:=by
     unfold cw
     rw[if_neg (by rw[ha];decide),if_neg (by rw[ha];decide),if_neg (by omega),if_pos (by omega)]
    rw[hE]at hN
    refine ih (s.1+1,⟨s.2.S,s.2.B,s.2.pat,kT s.2.col s.1,fun j=>if j=s.1 then EV else s.2.ev j⟩) _ _ _ (vv (w:=24) (k:=s.1) (N:=35)) hN (by show 6-(s.1+1)<6-s.1;omega)
   ·rename_i g0
    have hE:cw m mb s.1 s.2 EV=⟨s.2.S,s.2.B,s.2.pat,s.2.col,fun j=>if j=s.1 then EV else s.2.ev j⟩:=by
     unfold cw
     rw[if_neg (by rw[ha];decide),if_neg (by rw[ha];decide),if_neg (by omega),if_neg (by omega)]
    rw[hE]at hN
    refine ih (s.1+1,⟨s.2.S,s.2.B,s.2.pat,s.2.col,fun j=>if j=s.1 then EV else s.2.ev j⟩) _ _ _ (vv (w:=24) (k:=s.1) (N:=35)) hN (by show 6-(s.1+1)<6-s.1;omega)
  ·cases he:m.edge
   ·have he':m.edge=false:=he
    have hl6:(mC m)[6]? = some (.bool false):=congrArg (fun b=>some (XC.bool b)) he'
    have hfr:=kD s.2.S mb s.1 m.qp
    have hfi:0<=m.lev ((s.1:Int).toNat*64+0)/\m.lev ((s.1:Int).toNat*64+0)<=127:=hg.first ha s.1 h6
    have hdr:=lW hg (S:=s.2.S) (mb:=mb) ha h6
    have er:gM (bg m s.1) 0 0=r:=by
     unfold f5 at hr
     rw[if_pos ha,if_neg (by rw[he'];decide)]at hr
     exact Option.some.inj hr
    subst er
    obtain⟨EV,hEV⟩:∃EV,gF (lK (gz false (bN s.2.S mb s.1 m.qp).1) (gM (bg m s.1) 0 0)) 1=EV:=⟨_,rfl⟩
    have eEV:vu m s.2.S mb s.1 (gM (bg m s.1) 0 0)=EV:=by
     unfold vu
     rw[if_pos ha,he']
     exact hEV
    rw[eEV]at hN
    repeat' (first
     |(refine qz ?_;first
      |refine ld (hc:=hl6) ?_
      |refine uz (n:=384) ?_
      |refine lO ?_ (hs1:=by rw[aL]) (hs2:=by rw[aL])
      |refine fV ?_ (hle:=by first|rw[aL]|rw[aQ])
      |refine cl ?_ (hi:=by exact lz (S:=s.2.S) (mb:=mb) (k:=(s.1:Nat)) (q:=m.qp) hD hmb' (by omega) rfl rfl rfl rfl rfl)
      |refine cl ?_ (hi:=by exact dP ha rfl)
      |refine cl ?_ (hi:=by exact jf rfl)
      |refine LR ?_ (hi:=by exact jD (n:=bg m s.1 0-(bN s.2.S mb s.1 m.qp).2) hdr (bs:=s.2.B) (by omega) rfl rfl (S:=s.2.S) rfl rfl nL nA rfl)
      |refine cl ?_ (hi:=by exact jD (n:=bg m s.1 0-(bN s.2.S mb s.1 m.qp).2) hdr (bs:=s.2.B) (by omega) rfl rfl (S:=s.2.S) rfl rfl nL nA rfl)
      |refine cl ?_ (hi:=by exact qN (S:=s.2.S) (mb:=mb) (k:=(s.1:Nat)) (b:=⟨bg m s.1,m.qp⟩) hD hmb' (by omega) rfl rfl rfl rfl nA rfl)
      |refine cl ?_ (hi:=by exact mK (f:=gM (bg m s.1) 0 0) (gY _ _) rfl)
      |refine cl (v := .one (.int .i64 1)) ?_ (hi:=by exact kB ha rfl)
      |refine cl ?_ (hi:=by exact mH hEV rfl (by decide) nL nA rfl)
      |refine st ?_ (hle:=by exact h6) (hv:=rfl)
      |refine ld (hc:=by exact List.getElem?_set_self (by exact h6)) ?_)
     |refine zz ?_|refine zx (fun _=>?_) (fun _=>?_)|fail)
    ·rename_i g0 g1
     have hE:cw m mb s.1 s.2 EV=⟨cc s.2.S mb s.1 ⟨bg m s.1,m.qp⟩,s.2.B++cH (bg m s.1 0-(bN s.2.S mb s.1 m.qp).2),lp s.2.pat s.1,s.2.col,fun j=>if j=s.1 then EV else s.2.ev j⟩:=by
      unfold cw
      rw[if_pos ha,if_pos ha,if_pos (by omega),if_neg (by omega)]
     rw[hE]at hN
     refine ih (s.1+1,⟨cc s.2.S mb s.1 ⟨bg m s.1,m.qp⟩,s.2.B++cH (bg m s.1 0-(bN s.2.S mb s.1 m.qp).2),lp s.2.pat s.1,s.2.col,fun j=>if j=s.1 then EV else s.2.ev j⟩) _ _ _ (vv (w:=35) (k:=s.1) (N:=36)) hN (by show 6-(s.1+1)<6-s.1;omega)
    ·rename_i g0 g1
     have hE:cw m mb s.1 s.2 EV=⟨cc s.2.S mb s.1 ⟨bg m s.1,m.qp⟩,s.2.B++cH (bg m s.1 0-(bN s.2.S mb s.1 m.qp).2),s.2.pat,kT s.2.col s.1,fun j=>if j=s.1 then EV else s.2.ev j⟩:=by
      unfold cw
      rw[if_pos ha,if_pos ha,if_neg (by omega),if_pos (by omega)]
     rw[hE]at hN
     refine ih (s.1+1,⟨cc s.2.S mb s.1 ⟨bg m s.1,m.qp⟩,s.2.B++cH (bg m s.1 0-(bN s.2.S mb s.1 m.qp).2),s.2.pat,kT s.2.col s.1,fun j=>if j=s.1 then EV else s.2.ev j⟩) _ _ _ (vv (w:=35) (k:=s.1) (N:=36)) hN (by show 6-(s.1+1)<6-s.1;omega)
    ·rename_i g0
     have hE:cw m mb s.1 s.2 EV=⟨cc s.2.S mb s.1 ⟨bg m s.1,m.qp⟩,s.2.B++cH (bg m s.1 0-(bN s.2.S mb s.1 m.qp).2),s.2.pat,s.2.col,fun j=>if j=s.1 then EV else s.2.ev j⟩:=by
      unfold cw
      rw[if_pos ha,if_pos ha,if_neg (by omega),if_neg (by omega)]
     rw[hE]at hN
     refine ih (s.1+1,⟨cc s.2.S mb s.1 ⟨bg m s.1,m.qp⟩,s.2.B++cH (bg m s.1 0-(bN s.2.S mb s.1 m.qp).2),s.2.pat,s.2.col,fun j=>if j=s.1 then EV else s.2.ev j⟩) _ _ _ (vv (w:=35) (k:=s.1) (N:=36)) hN (by show 6-(s.1+1)<6-s.1;omega)
   ·have he':m.edge=true:=he
    have hl6:(mC m)[6]? = some (.bool true):=congrArg (fun b=>some (XC.bool b)) he'
    have hfr:=kD s.2.S mb s.1 m.qp
    have hfi:0<=m.lev ((s.1:Int).toNat*64+0)/\m.lev ((s.1:Int).toNat*64+0)<=127:=hg.first ha s.1 h6
    have hdr:=lW hg (S:=s.2.S) (mb:=mb) ha h6
    obtain⟨R,hR,er⟩:∃R,jH (bg m s.1) (j0 s.2.S mb s.1 m.qp)=some R/\gM R 0 0=r:=by
     unfold f5 at hr
     rw[if_pos ha,if_pos he']at hr
     exact Option.map_eq_some_iff.1 hr
    subst er
    obtain⟨EV,hEV⟩:∃EV,gF (lK (gz true (bN s.2.S mb s.1 m.qp).1) (gM (R) 0 0)) 1=EV:=⟨_,rfl⟩
    have eEV:vu m s.2.S mb s.1 (gM (R) 0 0)=EV:=by
     unfold vu
     rw[if_pos ha,he']
     exact hEV
    rw[eEV]at hN
    repeat' (first
     |(refine qz ?_;first
      |refine ld (hc:=hl6) ?_
      |refine uz (n:=384) ?_
      |refine lO ?_ (hs1:=by rw[aL]) (hs2:=by rw[aL])
      |refine fV ?_ (hle:=by first|rw[aL]|rw[aQ])
      |refine cl ?_ (hi:=by exact lz (S:=s.2.S) (mb:=mb) (k:=(s.1:Nat)) (q:=m.qp) hD hmb' (by omega) rfl rfl rfl rfl rfl)
      |refine cl ?_ (hi:=by exact dP ha rfl)
      |refine cl ?_ (hi:=by exact jf rfl)
      |refine cl ?_ (hi:=by exact sf (S:=s.2.S) (mb:=mb) (k:=(s.1:Nat)) (q:=m.qp) hD hmb' (by omega) rfl rfl rfl rfl rfl)
      |refine cl (v := .tup [.agg (ti .i64 64 R),.one (.bool true)]) ?_ (hi:=by exact qE (l:=bg m s.1) (fun i=>hm.lev _) (ly (fun dx dy b hb=>uG hs.st.lev hb)) hR rfl)
      |refine LR ?_ (hi:=by exact jD (n:=bg m s.1 0-(bN s.2.S mb s.1 m.qp).2) hdr (bs:=s.2.B) (by omega) rfl rfl (S:=s.2.S) rfl rfl nL nA rfl)
      |refine cl ?_ (hi:=by exact jD (n:=bg m s.1 0-(bN s.2.S mb s.1 m.qp).2) hdr (bs:=s.2.B) (by omega) rfl rfl (S:=s.2.S) rfl rfl nL nA rfl)
      |refine cl ?_ (hi:=by exact qN (S:=s.2.S) (mb:=mb) (k:=(s.1:Nat)) (b:=⟨bg m s.1,m.qp⟩) hD hmb' (by omega) rfl rfl rfl rfl nA rfl)
      |refine cl ?_ (hi:=by exact mK (f:=gM (R) 0 0) (gY _ _) rfl)
      |refine cl (v := .one (.int .i64 1)) ?_ (hi:=by exact kB ha rfl)
      |refine cl ?_ (hi:=by exact mH hEV rfl (by decide) nL nA rfl)
      |refine st ?_ (hle:=by exact h6) (hv:=rfl)
      |refine ld (hc:=by exact List.getElem?_set_self (by exact h6)) ?_)
     |refine Gr (id:=10) [14] ?_|refine zz ?_|refine zx (fun _=>?_) (fun _=>?_)|fail)
    ·rename_i g0 g1
     have hE:cw m mb s.1 s.2 EV=⟨cc s.2.S mb s.1 ⟨bg m s.1,m.qp⟩,s.2.B++cH (bg m s.1 0-(bN s.2.S mb s.1 m.qp).2),lp s.2.pat s.1,s.2.col,fun j=>if j=s.1 then EV else s.2.ev j⟩:=by
      unfold cw
      rw[if_pos ha,if_pos ha,if_pos (by omega),if_neg (by omega)]
     rw[hE]at hN
     refine ih (s.1+1,⟨cc s.2.S mb s.1 ⟨bg m s.1,m.qp⟩,s.2.B++cH (bg m s.1 0-(bN s.2.S mb s.1 m.qp).2),lp s.2.pat s.1,s.2.col,fun j=>if j=s.1 then EV else s.2.ev j⟩) _ _ _ (vv (w:=36) (k:=s.1) (N:=37)) hN (by show 6-(s.1+1)<6-s.1;omega)
    ·rename_i g0 g1
     have hE:cw m mb s.1 s.2 EV=⟨cc s.2.S mb s.1 ⟨bg m s.1,m.qp⟩,s.2.B++cH (bg m s.1 0-(bN s.2.S mb s.1 m.qp).2),s.2.pat,kT s.2.col s.1,fun j=>if j=s.1 then EV else s.2.ev j⟩:=by
      unfold cw
      rw[if_pos ha,if_pos ha,if_neg (by omega),if_pos (by omega)]
     rw[hE]at hN
     refine ih (s.1+1,⟨cc s.2.S mb s.1 ⟨bg m s.1,m.qp⟩,s.2.B++cH (bg m s.1 0-(bN s.2.S mb s.1 m.qp).2),s.2.pat,kT s.2.col s.1,fun j=>if j=s.1 then EV else s.2.ev j⟩) _ _ _ (vv (w:=36) (k:=s.1) (N:=37)) hN (by show 6-(s.1+1)<6-s.1;omega)
    ·rename_i g0
     have hE:cw m mb s.1 s.2 EV=⟨cc s.2.S mb s.1 ⟨bg m s.1,m.qp⟩,s.2.B++cH (bg m s.1 0-(bN s.2.S mb s.1 m.qp).2),s.2.pat,s.2.col,fun j=>if j=s.1 then EV else s.2.ev j⟩:=by
      unfold cw
      rw[if_pos ha,if_pos ha,if_neg (by omega),if_neg (by omega)]
     rw[hE]at hN
     refine ih (s.1+1,⟨cc s.2.S mb s.1 ⟨bg m s.1,m.qp⟩,s.2.B++cH (bg m s.1 0-(bN s.2.S mb s.1 m.qp).2),s.2.pat,s.2.col,fun j=>if j=s.1 then EV else s.2.ev j⟩) _ _ _ (vv (w:=36) (k:=s.1) (N:=37)) hN (by show 6-(s.1+1)<6-s.1;omega)
 ·have h66:s.1=6:=by have:=hs.le;omega
  have hxs:s.2=x:=by
   have h1:=hs.run
   rw[h66,hx]at h1
   exact(Option.some.inj h1).symm
  have hcl:=i0 DH x.pat.toNat
  have hevs:=hs.evs
  rw[hxs]at hpat hcol hlen hevs ⊢
  have hpn:x.pat=(x.pat.toNat:Nat):=by omega
  repeat' (first
   |(refine qz ?_;first
    |refine cl ?_ (hi:=by exact n9 (C:=cP) DH (n:=x.pat.toNat) hpn (by show x.pat.toNat<16;omega) (bs:=x.B) (by omega) rfl rfl rfl rfl rfl rfl (by decide) nL nA rfl)
    |refine cl ?_ (hi:=by exact fR (n:=x.col) (size:=2) rfl (bs:=x.B++ir cP x.pat.toNat) (by omega) (by decide) (by rw[List.length_append];omega) rfl rfl (by decide) nL nA rfl))
   |refine zz ?_|refine zx (fun _=>?_) (fun _=>?_)|fail)
  refine WX.bZ (σ:=Nat) (fun j=>[(125,.one (.int .i64 (j:Nat))),(2,.one (.ptr 22 0)),(124,.agg [jx 26 (x.ev 0).length 3,jx 27 (x.ev 1).length 3,jx 28 (x.ev 2).length 3,jx 29 (x.ev 3).length 3,jx 30 (x.ev 4).length 3,jx 31 (x.ev 5).length 3])]) (fun j=>[aK 24 (dY x),.dead,fv (x.S),cK 4 8 12,aI 5 6 7 cM,bz cM,bC cM,bB cM,aI 9 10 11 cZ,bz cZ,bC cZ,bB cZ,aI 13 14 15 cP,bz cP,bC cP,bB cP,dq 17 (x.S).cols (x.S).rows,.map (bK (x.S).M),.cells [.int .i64 (x.S).cols,.int .i64 (x.S).rows,.map 19,.map 20,.map 21] 142 false false,.map (aj (x.S).A),.map (aj (x.S).B),.map (aj (x.S).C),aK 25 (cC bw x j),.dead,aq (dY x),aq (cC bw x j),da (x.ev 0),da (x.ev 1),da (x.ev 2),da (x.ev 3),da (x.ev 4),da (x.ev 5)]) (fun j=>j<=6) (fun j=>6-j) 0 (by omega) (fun s _=>hX) (b_ [0,1,2,3,4,5,6,7,8,9,10,11,12,13,14,15,16,17,18,19,20,21,22,23,34,23,27,28,29,30,31,32] (obj:=by(repeat' (first|exact ae.nil|refine ae.fu rfl rfl rfl rfl ?_|refine ae.flat rfl ?_|refine ae.cons rfl ?_|refine ae.dead rfl ?_|refine ae.cons (by simp only[ah.ax,List.map_cons,List.map_nil,XC.ax,aB];exact rfl) ?_));first|done|fail) (reg:=by(repeat' (first|exact ak.nil|refine ak.cons (by simp only[XV.ax,List.map_cons,List.map_nil,aB];rfl) ?_|refine ak.flat rfl ?_|refine ak.cons rfl ?_|refine ak.sl rfl (by assumption) rfl ?_|refine ak.gL rfl rfl (by first|rfl|omega|(simp;done)|(simp;omega)) ?_));first|done|fail)) ?_
  intro j hj ih2
  by_cases hj6:j<6
  ·have hW:=o4 (bw:=bw) hevs j
   have ih3:=fun τl al' hs'=>ih2 (j+1) τl al' hs'
   have hjc:j=0\/j=1\/j=2\/j=3\/j=4\/j=5:=by omega
   by_cases hl0:(x.ev j).length=0
   ·have e0:x.ev j = []:=List.length_eq_zero_iff.1 hl0
    have eW:cC bw x (j+1)=cC bw x j:=(show cC bw x (j+1)=cC bw x j++fE (x.ev j)from rfl).trans (by rw[e0];exact List.append_nil _)
    rcases hjc with rfl|rfl|rfl|rfl|rfl|rfl
    all_goals
     repeat' (first
      |(refine qz ?_;first
       |refine BL ?_)
      |refine zz ?_|refine zx (fun _=>?_) (fun _=>?_)|fail)
     refine ih3 _ _ _ (b_ [0,1,2,3,4,5,6,7,8,9,10,11,12,13,14,15,16,17,18,19,20,21,22,23,24,25,26,27,28,29,30,31] (obj:=by(repeat' (first|exact ae.nil|refine ae.flat (by rw[eW];rfl) ?_|refine ae.fu rfl rfl rfl rfl ?_|refine ae.fu (by rw[eW];rfl) rfl rfl rfl ?_|refine ae.flat rfl ?_|refine ae.cons rfl ?_|refine ae.dead rfl ?_|refine ae.cons (by simp only[ah.ax,List.map_cons,List.map_nil,XC.ax,aB];exact rfl) ?_));first|done|fail) (reg:=by(repeat' (first|exact ak.nil|refine ak.cons (by simp only[XV.ax,List.map_cons,List.map_nil,aB];rfl) ?_|refine ak.flat rfl ?_|refine ak.cons rfl ?_|refine ak.sl rfl (by assumption) rfl ?_|refine ak.gL rfl rfl (by first|rfl|omega|(simp;done)|(simp;omega)) ?_));first|done|fail)) (by omega) (by omega)
   ·have ho:nV (x.ev j):=(hevs j).resolve_left (fun h=>hl0 (by rw[h];rfl))
    rcases hjc with rfl|rfl|rfl|rfl|rfl|rfl
    all_goals
     repeat' (first
      |(refine qz ?_;first
       |refine BL ?_
       |refine cl ?_ (hi:=by exact GG ho (by omega) rfl rfl rfl (by decide) nL nA rfl))
      |refine zz ?_|refine zx (fun _=>?_) (fun _=>?_)|fail)
     refine ih3 _ _ _ (b_ [0,1,2,3,4,5,6,7,8,9,10,11,12,13,14,15,16,17,18,19,20,21,22,23,24,32,26,27,28,29,30,31] (obj:=by(repeat' (first|exact ae.nil|refine ae.fu rfl rfl rfl rfl ?_|refine ae.flat rfl ?_|refine ae.cons rfl ?_|refine ae.dead rfl ?_|refine ae.cons (by simp only[ah.ax,List.map_cons,List.map_nil,XC.ax,aB];exact rfl) ?_));first|done|fail) (reg:=by(repeat' (first|exact ak.nil|refine ak.cons (by simp only[XV.ax,List.map_cons,List.map_nil,aB];rfl) ?_|refine ak.flat rfl ?_|refine ak.cons rfl ?_|refine ak.sl rfl (by assumption) rfl ?_|refine ak.gL rfl rfl (by first|rfl|omega|(simp;done)|(simp;omega)) ?_));first|done|fail)) (by omega) (by omega)
  ·obtain rfl:j=6:=by omega
   repeat' (first|refine zz ?_|refine zx (fun _=>?_) (fun _=>?_)|fail)
   show aD _ _ _ _ _ _ _ _;refine kV [0,1,2,3,4,5,6,7,8,9,10,11,12,13,14,15,16,17,18,19,20,21,22,23,24,25] ?_
   rfl
end Go.Proofs.YtnkodcmkpfefhaaGreat
