/-
  A part of the proof: Blocks.
-/
import Derived.Test.YthdciapjllppjaaGreatWaF
import Derived.Test.YthdciapjllppjaaGreatWaT
set_option maxRecDepth 10000
set_option maxHeartbeats 8000000
set_option linter.unusedVariables false
set_option linter.unusedSectionVars false
set_option linter.unusedSimpArgs false
open Go.Proofs.Tryz (prog)
namespace Go.Xm
variable [ak]
theorem Eb{τ : Nat->Nat}{HS:ah}{g:Nat->Nat}{f:Nat->aj}(hf:∀j,cu (f j)){ls:List Nat}{l:ah}(h:af τ HS ls l):∀(js:List Nat),(∀j∈js,HS[g j]? = some (f j)\/(f j = .dead/\g j<HS.length))->af τ HS (js.map g++ls) (js.map f++l)
 | [],_=>h
 | j :: js,hj=>by
   have ih:=Eb hf h js fun i hi=>hj i (List.mem_cons_of_mem _ hi)
   rcases hj j (List.mem_cons_self ..)with h1|⟨h1,h2⟩
   ·have:=hf j;exact af.flat h1 ih
   ·show af τ HS (g j::(js.map g++ls)) (f j::(js.map f++l));rw[h1];exact af.dead (by rw[Nat.blt_eq];exact h2) ih
end Go.Xm
namespace Go.Proofs.YthdciapjllppjaaGreat
open Go.Xm
variable [ak]
theorem yn{f:Nat->Int}{st:Nat}{EV:List Ev}(h:jP f st=EV){z:Int}(hz:z=(st:Nat))(hst:st<=64){HS:ah}{N:Nat}(hN:HS.length=N){HS':ah}(hh:HS++[eH EV]=HS')(hbd:Nat.blt HS'.length Mem.bound=true) :
 az.Sound prog ⟨124,[.agg (ti .i64 64 f),.one (.int .i64 z)],HS,iq N EV.length 3,HS',[]⟩:=by
 subst h;exact L3 hz hst hN hh hbd
theorem w_:∀(ls:List Nat) (os HS l:ah),os.length=ls.length->(∀(j i:Nat),ls[j]? = some i->∃o,HS[i]? = some o/\os[j]? = some o)->bE HS ls (os++l)=HS++l
 | [],[],HS,l,_,_=>by simp[bE]
 | [],_::_,_,_,h,_=>by simp at h
 | _::_,[],_,_,h,_=>by simp at h
 | i::ls,o::os,HS,l,h,hg=>by
   obtain⟨o',h1,h2⟩:=hg 0 i rfl;have:o'=o:=by simpa using h2.symm
   subst this;show bE (HS.set i o') ls (os++l)=_;rw[aF h1];exact w_ ls os HS l (by simpa using h) fun j i' hj=>hg (j+1) i' hj
theorem sZ{bs:List Bool}{S:cD}{n:Int}(hn : -4000<=n/\n<=4000)(hb:bs.length<=800000){HS:ah}{k:Nat}(hi:HS[0]? = some (aO k bs))(hk:HS[k]? = some (au bs))(hS:(HS.drop 2).take 20=iR S)(hd:(k==1||Nat.ble 22 k)=true){N:Nat}(hN:HS.length=N){HS':ah}(hh:bE HS [0,k] [aO N (bs++fJ n),.dead,au (bs++fJ n)]=HS')(hbd:Nat.blt HS'.length Mem.bound=true) :
 az.Sound prog ⟨122,[.one (.ptr 2 0),.one (.ptr 0 0),.one (.int .i64 n)],HS,.tup [],HS',0::k::dm⟩:=by
 refine KX hn hb hi hk hS hd hN ?_ hbd;rw[<-hh];rw[bE,bE];refine w_ dm (iR S) _ _ rfl fun j i hj=>?_
 have hkk:k=1\/22<=k:=by simpa [Nat.ble_eq]using hd
 have hjl:j<20:=(List.getElem?_eq_some_iff.1 hj).1;have hq:∀q:Fin 20,dm[q.val]? = some (q.val+2):=by decide
 have:=hq ⟨j,hjl⟩;rw[hj]at this;obtain rfl:i=j+2:=by simpa using this
 rw[List.getElem?_set_ne (by omega),List.getElem?_set_ne (by omega)]
 have g:HS[j+2]? = (iR S)[j]?:=by
  rw[<-hS,List.getElem?_take,if_pos hjl,List.getElem?_drop]
  congr 1
  omega
 have hl:j<(iR S).length:=hjl;exact⟨(iR S)[j],by rw[g,List.getElem?_eq_getElem hl],List.getElem?_eq_getElem hl⟩
abbrev C_(w k N:Nat):List Nat:=0::1::2::3::4::5::6::7::8::9::10::11::12::13::14::15::16::17::18::19::20::21::22::23::w::25::26::((List.range 6).map (fun j=>if j=k then N else 27+j)++[])
theorem KQ:∀k:Fin 6,(C_ 24 k.val 35).Nodup/\(C_ 35 k.val 36).Nodup/\(C_ 36 k.val 37).Nodup:=by decide +kernel
theorem By{k:Nat}(h:k<6):(C_ 24 k 35).Nodup/\(C_ 35 k 36).Nodup/\(C_ 36 k 37).Nodup:=KQ ⟨k,h⟩
theorem NK(w N k:Nat){j:Nat}(hj:j<6):nth (C_ w k N) (27+j)=if j=k then N else 27+j:=by
 match j,hj with
 | 0,_=>rfl
 | 1,_=>rfl
 | 2,_=>rfl
 | 3,_=>rfl
 | 4,_=>rfl
 | 5,_=>rfl
abbrev RF(ev:Nat->List Ev)(k:Nat)(EV:List Ev):Nat->List Ev:=fun j=>if j=k then EV else ev j
theorem G6{τ : Nat->Nat}{k N:Nat}(hk:k<6){ev:Nat->List Ev}{EV:List Ev}(h:∀j,j<6 -> τ (27+j)=if j=k then N else 27+j):(NI (RF ev k EV)).aB τ = .cells ([eg 27 (ev 0).length 3,eg 28 (ev 1).length 3,eg 29 (ev 2).length 3,eg 30 (ev 3).length 3,eg 31 (ev 4).length 3,eg 32 (ev 5).length 3].set k (eg N EV.length 3)) 232 false false:=by
 have h0:=h 0 (by decide);have h1:=h 1 (by decide);have h2:=h 2 (by decide);have h3:=h 3 (by decide);have h4:=h 4 (by decide);have h5:=h 5 (by decide);simp only[Nat.reduceAdd]at h0 h1 h2 h3 h4 h5;have hc:k=0\/k=1\/k=2\/k=3\/k=4\/k=5:=by omega
 rcases hc with rfl|rfl|rfl|rfl|rfl|rfl<;>simp only[aj.aB,List.map_cons,List.map_nil,aU,h0,h1,h2,h3,h4,h5]<;>rfl
theorem KS{HS:ah}{w k N:Nat}{ev:Nat->List Ev}{EV:List Ev}(hk:k<6)(h26:HS[26]? = some (.cells ([eg 27 (ev 0).length 3,eg 28 (ev 1).length 3,eg 29 (ev 2).length 3,eg 30 (ev 3).length 3,eg 31 (ev 4).length 3,eg 32 (ev 5).length 3].set k (eg N EV.length 3)) 232 false false))(hd:(HS.drop 27).take 6=(List.range 6).map fun j=>eH (ev j))(hN:HS[N]? = some (eH EV)) :
 af (nth (C_ w k N)) HS (26::((List.range 6).map (fun j=>if j=k then N else 27+j)++[])) (NI (RF ev k EV)::((List.range 6).map (fun j=>eH (RF ev k EV j))++[])):=by
 refine af.cons (by rw[G6 hk fun j hj=>NK w N k hj];exact h26) (Eb (fun j=>inferInstance) .nil (List.range 6) fun j hj => .inl ?_);have hj:=List.mem_range.1 hj;unfold RF
 by_cases hjk:j=k
 ·rw[if_pos hjk,if_pos hjk];exact hN
 ·rw[if_neg hjk,if_neg hjk,<-List.getElem?_drop,<-List.getElem?_take_of_lt hj,hd,List.getElem?_map,List.getElem?_range hj];rfl
theorem Le{nI:Nat}{al al2:aN}{hs hs2:ah}{w k N:Nat}(nd:(C_ w k N).Nodup:=by first|exact(By (by assumption)).1|exact(By (by assumption)).2.1|exact(By (by assumption)).2.2)(hid:(List.range nI).all (fun j=>nth (C_ w k N) j==j)=true:=by exact rfl)(obj:af (nth (C_ w k N)) hs (C_ w k N) hs2:=by
 repeat' (first|exact KS (by assumption) rfl rfl rfl|refine af.flat rfl ?_|refine af.cons rfl ?_|refine af.dead rfl ?_|refine af.ik rfl rfl rfl rfl ?_))(reg:ai (nth (C_ w k N)) al al2:=by
 repeat' (first|exact ai.nil|refine ai.flat rfl ?_|refine ai.cons rfl ?_)):GoTo nI al hs al2 hs2 (C_ w k N):=⟨.inl nd,hid,obj,reg⟩
theorem oC(bs bw:List Bool)(S:cD)(m:Mb)(mb:Int)(hg:nw m)(hS:kg S)(hmb:0<=mb/\mb<S.cols*S.rows)(hb:bs.length<=700000)(hbw:bw.length<=700000)(x:ri)(hx:kh m mb ⟨S,bs,0,0,fun _=>[]⟩ 6=some x) :
 bq prog 93 [.one (.ptr 2 0),.one (.ptr 0 0),.one (.ptr 22 0),.one (.int .i64 mb),.agg (mC m)] [aO 1 bs,au bs,jz (S),eZ 4 8 12,aW 5 6 7 cM,c6 cM,c9 cM,c7 cM,aW 9 10 11 cZ,c6 cZ,c9 cZ,c7 cZ,aW 13 14 15 cP,c6 cP,c9 cP,c7 cP,fA 17 (S).cols (S).rows,.map (cB (S).M),.cells [.int .i64 (S).cols,.int .i64 (S).rows,.map 19,.map 20,.map 21] 220 false false,.map (aq (S).A),.map (aq (S).B),.map (aq (S).C),aO 23 bw,au bw] (.one (.int .i64 0)) [aO 24 (eG x),.dead,jz (x.S),eZ 4 8 12,aW 5 6 7 cM,c6 cM,c9 cM,c7 cM,aW 9 10 11 cZ,c6 cZ,c9 cZ,c7 cZ,aW 13 14 15 cP,c6 cP,c9 cP,c7 cP,fA 17 (x.S).cols (x.S).rows,.map (cB (x.S).M),.cells [.int .i64 (x.S).cols,.int .i64 (x.S).rows,.map 19,.map 20,.map 21] 220 false false,.map (aq (x.S).A),.map (aq (x.S).B),.map (aq (x.S).C),aO 25 (cV bw x 6),.dead,au (eG x),au (cV bw x 6)]:=by
 have hm:=hg.ok;refine cO Tryz.func93 ?_
 repeat' (first
  |(refine qz ?_;first
   |refine rG (cs:=ti .i64 384 m.lev) ?_ (hle:=by rw[bl];decide) (hc:=Il m))
  |refine zz ?_|refine zx (fun _=>?_) (fun _=>?_)|fail)
 refine WX.cj (σ:=Nat×ri) (fun s=>[(26,.one (.int .i64 (s.1:Nat))),(12,.one (.int .i64 s.2.pat)),(13,.one (.int .u64 s.2.col)),(0,.one (.ptr 2 0)),(1,.one (.ptr 0 0)),(2,.one (.ptr 22 0)),(3,.one (.int .i64 mb)),(9,.one (.ptr 25 0)),(11,.one (.ptr 26 0)),(25,.agg (ti .i64 384 m.lev))])
  (fun s=>[aO 24 s.2.B,.dead,jz (s.2.S),eZ 4 8 12,aW 5 6 7 cM,c6 cM,c9 cM,c7 cM,aW 9 10 11 cZ,c6 cZ,c9 cZ,c7 cZ,aW 13 14 15 cP,c6 cP,c9 cP,c7 cP,fA 17 (s.2.S).cols (s.2.S).rows,.map (cB (s.2.S).M),.cells [.int .i64 (s.2.S).cols,.int .i64 (s.2.S).rows,.map 19,.map 20,.map 21] 220 false false,.map (aq (s.2.S).A),.map (aq (s.2.S).B),.map (aq (s.2.S).C),aO 23 bw,au bw,au s.2.B,Oo m,NI s.2.ev,eH (s.2.ev 0),eH (s.2.ev 1),eH (s.2.ev 2),eH (s.2.ev 3),eH (s.2.ev 4),eH (s.2.ev 5)]) (Er m mb ⟨S,bs,0,0,fun _=>[]⟩) (fun s=>6-s.1) (0,⟨S,bs,0,0,fun _=>[]⟩) ⟨by show 0<=6;omega,rfl,hS,⟨rfl,rfl⟩,by show bs.length<=bs.length+76*0;omega,fun _ _=>rfl,fun _ => .inl rfl,⟨by show(0:Int)<=0;omega,by show(0:Int)<16;omega⟩,⟨by show(0:Int)<=0;omega,by show(0:Int)<4;omega⟩⟩ (fun s _=>nf) (bV [0,1,2,3,4,5,6,7,8,9,10,11,12,13,14,15,16,17,18,19,20,21,22,23,1,24,25,0,0,0,0,0,0]) ?_
 intro s hs ih;have hD:=hs.st.dims;have hmb':0<=mb/\mb<s.2.S.cols*s.2.S.rows:=by rw[hs.cr.1,hs.cr.2];exact hmb
 have hpat:=hs.pat;have hcol:=hs.col;have hlen:s.2.B.length<=bs.length+76*s.1:=hs.len
 by_cases h6:s.1<6
 ·obtain ⟨r,hr⟩:∃r,m7 m s.2.S mb s.1=some r:=by
   cases hr:m7 m s.2.S mb s.1 with
   | some r=>exact⟨r,rfl⟩
   | none=>
     have h1:kh m mb ⟨S,bs,0,0,fun _=>[]⟩ (s.1+1)=none:=by
      rw[kh,hs.run];simp only[Option.bind_some,hr,Option.map_none]
     rw[EG h1 6 (by omega)]at hx;cases hx
  have hN:=wx hg hs h6 hr;cases ha:alone m
  ·have er:cy m s.1=r:=by
    unfold m7 at hr;rw[if_neg (by rw[ha];decide)]at hr;exact Option.some.inj hr
   subst er
   obtain⟨EV,hEV⟩:∃EV,jP (qH (iZ m.edge (dB s.2.S mb s.1 m.qp).1) (cy m s.1)) 0=EV:=⟨_,rfl⟩
   have eEV:EE m s.2.S mb s.1 (cy m s.1)=EV:=by
    unfold EE;rw[if_neg (by rw[ha];decide)];exact hEV
   rw[eEV]at hN
   repeat' (first
    |(refine qz ?_;first
     |refine Lm (n:=384) ?_
     |refine nr ?_ (hs1:=by rw[aT]) (hs2:=by rw[aT])
     |refine jV ?_ (hle:=by first|rw[aT]|rw[bl])
     |refine cl ?_ (hi:=by exact yD (S:=s.2.S) (mb:=mb) (k:=(s.1:Nat)) (q:=m.qp) hD hmb' (by omega) rfl rfl rfl rfl rfl)
     |refine cl ?_ (hi:=by exact lR ha rfl)
     |refine cl ?_ (hi:=by exact uH rfl)
     |refine cl ?_ (hi:=by exact yt (f:=cy m s.1) (oI _ _) rfl)
     |refine cl (v := .one (.int .i64 0)) ?_ (hi:=by exact ve ha rfl)
     |refine cl ?_ (hi:=by exact yn hEV rfl (by decide) nL nA rfl)
     |refine st ?_ (hle:=by exact h6) (hv:=rfl)
     |refine ld (hc:=by exact List.getElem?_set_self (by exact h6)) ?_)
    |refine zz ?_|refine zx (fun _=>?_) (fun _=>?_)|fail)
   ·rename_i g0 g1
    have hE:gw m mb s.1 s.2 EV=⟨s.2.S,s.2.B,rM s.2.pat s.1,s.2.col,fun j=>if j=s.1 then EV else s.2.ev j⟩:=by
     unfold gw;rw[if_neg (by rw[ha];decide),if_neg (by rw[ha];decide),if_pos (by omega),if_neg (by omega)]
    rw[hE]at hN;refine ih (s.1+1,⟨s.2.S,s.2.B,rM s.2.pat s.1,s.2.col,fun j=>if j=s.1 then EV else s.2.ev j⟩) _ _ _ (Le (w:=24) (k:=s.1) (N:=35)) hN (by show 6-(s.1+1)<6-s.1;omega)
   ·rename_i g0 g1
    have hE:gw m mb s.1 s.2 EV=⟨s.2.S,s.2.B,s.2.pat,rq s.2.col s.1,fun j=>if j=s.1 then EV else s.2.ev j⟩:=by
     unfold gw;rw[if_neg (by rw[ha];decide),if_neg (by rw[ha];decide),if_neg (by omega),if_pos (by omega)]
    rw[hE]at hN;refine ih (s.1+1,⟨s.2.S,s.2.B,s.2.pat,rq s.2.col s.1,fun j=>if j=s.1 then EV else s.2.ev j⟩) _ _ _ (Le (w:=24) (k:=s.1) (N:=35)) hN (by show 6-(s.1+1)<6-s.1;omega)
   ·rename_i g0
    have hE:gw m mb s.1 s.2 EV=⟨s.2.S,s.2.B,s.2.pat,s.2.col,fun j=>if j=s.1 then EV else s.2.ev j⟩:=by
     unfold gw;rw[if_neg (by rw[ha];decide),if_neg (by rw[ha];decide),if_neg (by omega),if_neg (by omega)]
    rw[hE]at hN;refine ih (s.1+1,⟨s.2.S,s.2.B,s.2.pat,s.2.col,fun j=>if j=s.1 then EV else s.2.ev j⟩) _ _ _ (Le (w:=24) (k:=s.1) (N:=35)) hN (by show 6-(s.1+1)<6-s.1;omega)
  ·cases he:m.edge
   ·have he':m.edge=false:=he;have hl6:(mC m)[6]? = some (.bool false):=congrArg (fun b=>some (XC.bool b)) he';have hfr:=rW s.2.S mb s.1 m.qp;have hfi:0<=m.lev ((s.1:Int).toNat*64+0)/\m.lev ((s.1:Int).toNat*64+0)<=127:=hg.first ha s.1 h6
    have hdr:=tQ hg (S:=s.2.S) (mb:=mb) ha h6
    have er:fV (cy m s.1) 0 0=r:=by
     unfold m7 at hr;rw[if_pos ha,if_neg (by rw[he'];decide)]at hr;exact Option.some.inj hr
    subst er
    obtain⟨EV,hEV⟩:∃EV,jP (qH (iZ false (dB s.2.S mb s.1 m.qp).1) (fV (cy m s.1) 0 0)) 1=EV:=⟨_,rfl⟩
    have eEV:EE m s.2.S mb s.1 (fV (cy m s.1) 0 0)=EV:=by
     unfold EE;rw[if_pos ha,he'];exact hEV
    rw[eEV]at hN
    repeat' (first
     |(refine qz ?_;first
      |refine ld (hc:=hl6) ?_
      |refine Lm (n:=384) ?_
      |refine nr ?_ (hs1:=by rw[aT]) (hs2:=by rw[aT])
      |refine jV ?_ (hle:=by first|rw[aT]|rw[bl])
      |refine cl ?_ (hi:=by exact yD (S:=s.2.S) (mb:=mb) (k:=(s.1:Nat)) (q:=m.qp) hD hmb' (by omega) rfl rfl rfl rfl rfl)
      |refine cl ?_ (hi:=by exact lR ha rfl)
      |refine cl ?_ (hi:=by exact uH rfl)
      |refine SY ?_ (hi:=by exact sZ (n:=cy m s.1 0-(dB s.2.S mb s.1 m.qp).2) hdr (bs:=s.2.B) (by omega) rfl rfl (S:=s.2.S) rfl rfl nL nA rfl)
      |refine cl ?_ (hi:=by exact sZ (n:=cy m s.1 0-(dB s.2.S mb s.1 m.qp).2) hdr (bs:=s.2.B) (by omega) rfl rfl (S:=s.2.S) rfl rfl nL nA rfl)
      |refine cl ?_ (hi:=by exact D_ (S:=s.2.S) (mb:=mb) (k:=(s.1:Nat)) (b:=⟨cy m s.1,m.qp⟩) hD hmb' (by omega) rfl rfl rfl rfl nA rfl)
      |refine cl ?_ (hi:=by exact yt (f:=fV (cy m s.1) 0 0) (oI _ _) rfl)
      |refine cl (v := .one (.int .i64 1)) ?_ (hi:=by exact ve ha rfl)
      |refine cl ?_ (hi:=by exact yn hEV rfl (by decide) nL nA rfl)
      |refine st ?_ (hle:=by exact h6) (hv:=rfl)
      |refine ld (hc:=by exact List.getElem?_set_self (by exact h6)) ?_)
     |refine zz ?_|refine zx (fun _=>?_) (fun _=>?_)|fail)
    ·rename_i g0 g1
     have hE:gw m mb s.1 s.2 EV=⟨eC s.2.S mb s.1 ⟨cy m s.1,m.qp⟩,s.2.B++fJ (cy m s.1 0-(dB s.2.S mb s.1 m.qp).2),rM s.2.pat s.1,s.2.col,fun j=>if j=s.1 then EV else s.2.ev j⟩:=by
      unfold gw;rw[if_pos ha,if_pos ha,if_pos (by omega),if_neg (by omega)]
     rw[hE]at hN;refine ih (s.1+1,⟨eC s.2.S mb s.1 ⟨cy m s.1,m.qp⟩,s.2.B++fJ (cy m s.1 0-(dB s.2.S mb s.1 m.qp).2),rM s.2.pat s.1,s.2.col,fun j=>if j=s.1 then EV else s.2.ev j⟩) _ _ _ (Le (w:=35) (k:=s.1) (N:=36)) hN (by show 6-(s.1+1)<6-s.1;omega)
    ·rename_i g0 g1
     have hE:gw m mb s.1 s.2 EV=⟨eC s.2.S mb s.1 ⟨cy m s.1,m.qp⟩,s.2.B++fJ (cy m s.1 0-(dB s.2.S mb s.1 m.qp).2),s.2.pat,rq s.2.col s.1,fun j=>if j=s.1 then EV else s.2.ev j⟩:=by
      unfold gw;rw[if_pos ha,if_pos ha,if_neg (by omega),if_pos (by omega)]
     rw[hE]at hN;refine ih (s.1+1,⟨eC s.2.S mb s.1 ⟨cy m s.1,m.qp⟩,s.2.B++fJ (cy m s.1 0-(dB s.2.S mb s.1 m.qp).2),s.2.pat,rq s.2.col s.1,fun j=>if j=s.1 then EV else s.2.ev j⟩) _ _ _ (Le (w:=35) (k:=s.1) (N:=36)) hN (by show 6-(s.1+1)<6-s.1;omega)
    ·rename_i g0
     have hE:gw m mb s.1 s.2 EV=⟨eC s.2.S mb s.1 ⟨cy m s.1,m.qp⟩,s.2.B++fJ (cy m s.1 0-(dB s.2.S mb s.1 m.qp).2),s.2.pat,s.2.col,fun j=>if j=s.1 then EV else s.2.ev j⟩:=by
      unfold gw;rw[if_pos ha,if_pos ha,if_neg (by omega),if_neg (by omega)]
     rw[hE]at hN;refine ih (s.1+1,⟨eC s.2.S mb s.1 ⟨cy m s.1,m.qp⟩,s.2.B++fJ (cy m s.1 0-(dB s.2.S mb s.1 m.qp).2),s.2.pat,s.2.col,fun j=>if j=s.1 then EV else s.2.ev j⟩) _ _ _ (Le (w:=35) (k:=s.1) (N:=36)) hN (by show 6-(s.1+1)<6-s.1;omega)
   ·have he':m.edge=true:=he;have hl6:(mC m)[6]? = some (.bool true):=congrArg (fun b=>some (XC.bool b)) he';have hfr:=rW s.2.S mb s.1 m.qp;have hfi:0<=m.lev ((s.1:Int).toNat*64+0)/\m.lev ((s.1:Int).toNat*64+0)<=127:=hg.first ha s.1 h6
    have hdr:=tQ hg (S:=s.2.S) (mb:=mb) ha h6
    obtain⟨R,hR,er⟩:∃R,pc (cy m s.1) (iG s.2.S mb s.1 m.qp)=some R/\fV R 0 0=r:=by
     unfold m7 at hr;rw[if_pos ha,if_pos he']at hr;exact Option.map_eq_some_iff.1 hr
    subst er
    obtain⟨EV,hEV⟩:∃EV,jP (qH (iZ true (dB s.2.S mb s.1 m.qp).1) (fV (R) 0 0)) 1=EV:=⟨_,rfl⟩
    have eEV:EE m s.2.S mb s.1 (fV (R) 0 0)=EV:=by
     unfold EE;rw[if_pos ha,he'];exact hEV
    rw[eEV]at hN
    repeat' (first
     |(refine qz ?_;first
      |refine ld (hc:=hl6) ?_
      |refine Lm (n:=384) ?_
      |refine nr ?_ (hs1:=by rw[aT]) (hs2:=by rw[aT])
      |refine jV ?_ (hle:=by first|rw[aT]|rw[bl])
      |refine cl ?_ (hi:=by exact yD (S:=s.2.S) (mb:=mb) (k:=(s.1:Nat)) (q:=m.qp) hD hmb' (by omega) rfl rfl rfl rfl rfl)
      |refine cl ?_ (hi:=by exact lR ha rfl)
      |refine cl ?_ (hi:=by exact uH rfl)
      |refine cl ?_ (hi:=by exact JH (S:=s.2.S) (mb:=mb) (k:=(s.1:Nat)) (q:=m.qp) hD hmb' (by omega) rfl rfl rfl rfl rfl)
      |refine cl (v := .tup [.agg (ti .i64 64 R),.one (.bool true)]) ?_ (hi:=by exact Ls (l:=cy m s.1) (fun i=>hm.lev _) (vg (fun dx dy b hb=>Iv hs.st.lev hb)) hR rfl)
      |refine SY ?_ (hi:=by exact sZ (n:=cy m s.1 0-(dB s.2.S mb s.1 m.qp).2) hdr (bs:=s.2.B) (by omega) rfl rfl (S:=s.2.S) rfl rfl nL nA rfl)
      |refine cl ?_ (hi:=by exact sZ (n:=cy m s.1 0-(dB s.2.S mb s.1 m.qp).2) hdr (bs:=s.2.B) (by omega) rfl rfl (S:=s.2.S) rfl rfl nL nA rfl)
      |refine cl ?_ (hi:=by exact D_ (S:=s.2.S) (mb:=mb) (k:=(s.1:Nat)) (b:=⟨cy m s.1,m.qp⟩) hD hmb' (by omega) rfl rfl rfl rfl nA rfl)
      |refine cl ?_ (hi:=by exact yt (f:=fV (R) 0 0) (oI _ _) rfl)
      |refine cl (v := .one (.int .i64 1)) ?_ (hi:=by exact ve ha rfl)
      |refine cl ?_ (hi:=by exact yn hEV rfl (by decide) nL nA rfl)
      |refine st ?_ (hle:=by exact h6) (hv:=rfl)
      |refine ld (hc:=by exact List.getElem?_set_self (by exact h6)) ?_)
     |refine Rw (id:=10) [14] ?_|refine zz ?_|refine zx (fun _=>?_) (fun _=>?_)|fail)
    ·rename_i g0 g1
     have hE:gw m mb s.1 s.2 EV=⟨eC s.2.S mb s.1 ⟨cy m s.1,m.qp⟩,s.2.B++fJ (cy m s.1 0-(dB s.2.S mb s.1 m.qp).2),rM s.2.pat s.1,s.2.col,fun j=>if j=s.1 then EV else s.2.ev j⟩:=by
      unfold gw;rw[if_pos ha,if_pos ha,if_pos (by omega),if_neg (by omega)]
     rw[hE]at hN;refine ih (s.1+1,⟨eC s.2.S mb s.1 ⟨cy m s.1,m.qp⟩,s.2.B++fJ (cy m s.1 0-(dB s.2.S mb s.1 m.qp).2),rM s.2.pat s.1,s.2.col,fun j=>if j=s.1 then EV else s.2.ev j⟩) _ _ _ (Le (w:=36) (k:=s.1) (N:=37)) hN (by show 6-(s.1+1)<6-s.1;omega)
    ·rename_i g0 g1
     have hE:gw m mb s.1 s.2 EV=⟨eC s.2.S mb s.1 ⟨cy m s.1,m.qp⟩,s.2.B++fJ (cy m s.1 0-(dB s.2.S mb s.1 m.qp).2),s.2.pat,rq s.2.col s.1,fun j=>if j=s.1 then EV else s.2.ev j⟩:=by
      unfold gw;rw[if_pos ha,if_pos ha,if_neg (by omega),if_pos (by omega)]
     rw[hE]at hN;refine ih (s.1+1,⟨eC s.2.S mb s.1 ⟨cy m s.1,m.qp⟩,s.2.B++fJ (cy m s.1 0-(dB s.2.S mb s.1 m.qp).2),s.2.pat,rq s.2.col s.1,fun j=>if j=s.1 then EV else s.2.ev j⟩) _ _ _ (Le (w:=36) (k:=s.1) (N:=37)) hN (by show 6-(s.1+1)<6-s.1;omega)
    ·rename_i g0
     have hE:gw m mb s.1 s.2 EV=⟨eC s.2.S mb s.1 ⟨cy m s.1,m.qp⟩,s.2.B++fJ (cy m s.1 0-(dB s.2.S mb s.1 m.qp).2),s.2.pat,s.2.col,fun j=>if j=s.1 then EV else s.2.ev j⟩:=by
      unfold gw;rw[if_pos ha,if_pos ha,if_neg (by omega),if_neg (by omega)]
     rw[hE]at hN;refine ih (s.1+1,⟨eC s.2.S mb s.1 ⟨cy m s.1,m.qp⟩,s.2.B++fJ (cy m s.1 0-(dB s.2.S mb s.1 m.qp).2),s.2.pat,s.2.col,fun j=>if j=s.1 then EV else s.2.ev j⟩) _ _ _ (Le (w:=36) (k:=s.1) (N:=37)) hN (by show 6-(s.1+1)<6-s.1;omega)
 ·have h66:s.1=6:=by have:=hs.le;omega
  have hxs:s.2=x:=by
   have h1:=hs.run;rw[h66,hx]at h1;exact(Option.some.inj h1).symm
  have hcl:=j0 Hf x.pat.toNat;have hevs:=hs.evs;rw[hxs]at hpat hcol hlen hevs ⊢;have hpn:x.pat=(x.pat.toNat:Nat):=by omega
  repeat' (first
   |(refine qz ?_;first
    |refine cl ?_ (hi:=by exact qd (C:=cP) Hf (n:=x.pat.toNat) hpn (by show x.pat.toNat<16;omega) (bs:=x.B) (by omega) rfl rfl rfl rfl rfl rfl (by decide) nL nA rfl)
    |refine cl ?_ (hi:=by exact fj (n:=x.col) (size:=2) rfl (bs:=x.B++jl cP x.pat.toNat) (by omega) (by decide) (by rw[List.length_append];omega) rfl rfl (by decide) nL nA rfl))
   |refine zz ?_|refine zx (fun _=>?_) (fun _=>?_)|fail)
  refine WX.cj (σ:=Nat) (fun j=>[(125,.one (.int .i64 (j:Nat))),(2,.one (.ptr 22 0)),(124,.agg [eg 26 (x.ev 0).length 3,eg 27 (x.ev 1).length 3,eg 28 (x.ev 2).length 3,eg 29 (x.ev 3).length 3,eg 30 (x.ev 4).length 3,eg 31 (x.ev 5).length 3])]) (fun j=>[aO 24 (eG x),.dead,jz (x.S),eZ 4 8 12,aW 5 6 7 cM,c6 cM,c9 cM,c7 cM,aW 9 10 11 cZ,c6 cZ,c9 cZ,c7 cZ,aW 13 14 15 cP,c6 cP,c9 cP,c7 cP,fA 17 (x.S).cols (x.S).rows,.map (cB (x.S).M),.cells [.int .i64 (x.S).cols,.int .i64 (x.S).rows,.map 19,.map 20,.map 21] 220 false false,.map (aq (x.S).A),.map (aq (x.S).B),.map (aq (x.S).C),aO 25 (cV bw x j),.dead,au (eG x),au (cV bw x j),eH (x.ev 0),eH (x.ev 1),eH (x.ev 2),eH (x.ev 3),eH (x.ev 4),eH (x.ev 5)]) (fun j=>j<=6) (fun j=>6-j) 0 (by omega) (fun s _=>nf) (bV [0,1,2,3,4,5,6,7,8,9,10,11,12,13,14,15,16,17,18,19,20,21,22,23,34,23,27,28,29,30,31,32] (obj:=by(repeat' (first|exact af.nil|refine af.ik rfl rfl rfl rfl ?_|refine oz ?_));first|done|fail) (reg:=by(repeat' (first|exact ai.nil|refine ai.cons (by simp only[XV.aB,List.map_cons,List.map_nil,aU];rfl) ?_|refine rz ?_|refine ai.sl rfl (by assumption) rfl ?_));first|done|fail)) ?_;intro j hj ih2
  by_cases hj6:j<6
  ·have hW:=rl (bw:=bw) hevs j;have ih3:=fun τl al' hs'=>ih2 (j+1) τl al' hs'
   have hjc:j=0\/j=1\/j=2\/j=3\/j=4\/j=5:=by omega
   by_cases hl0:(x.ev j).length=0
   ·have e0:x.ev j = []:=List.length_eq_zero_iff.1 hl0;have eW:cV bw x (j+1)=cV bw x j:=(show cV bw x (j+1)=cV bw x j++gJ (x.ev j)from rfl).trans (by rw[e0];exact List.append_nil _)
    rcases hjc with rfl|rfl|rfl|rfl|rfl|rfl
    all_goals
     repeat' (first
      |(refine qz ?_;first
       |refine Ky ?_)
      |refine zz ?_|refine zx (fun _=>?_) (fun _=>?_)|fail)
     refine ih3 _ _ _ (bV [0,1,2,3,4,5,6,7,8,9,10,11,12,13,14,15,16,17,18,19,20,21,22,23,24,25,26,27,28,29,30,31] (obj:=by(repeat' (first|exact af.nil|refine af.flat (by rw[eW];rfl) ?_|refine af.ik rfl rfl rfl rfl ?_|refine af.ik (by rw[eW];rfl) rfl rfl rfl ?_|refine oz ?_));first|done|fail) (reg:=by(repeat' (first|exact ai.nil|refine ai.cons (by simp only[XV.aB,List.map_cons,List.map_nil,aU];rfl) ?_|refine rz ?_|refine ai.sl rfl (by assumption) rfl ?_));first|done|fail)) (by omega) (by omega)
   ·have ho:p5 (x.ev j):=(hevs j).resolve_left (fun h=>hl0 (by rw[h];rfl))
    rcases hjc with rfl|rfl|rfl|rfl|rfl|rfl
    all_goals
     repeat' (first
      |(refine qz ?_;first
       |refine Ky ?_
       |refine cl ?_ (hi:=by exact KT ho (by omega) rfl rfl rfl (by decide) nL nA rfl))
      |refine zz ?_|refine zx (fun _=>?_) (fun _=>?_)|fail)
     refine ih3 _ _ _ (bV [0,1,2,3,4,5,6,7,8,9,10,11,12,13,14,15,16,17,18,19,20,21,22,23,24,32,26,27,28,29,30,31] (obj:=by(repeat' (first|exact af.nil|refine af.ik rfl rfl rfl rfl ?_|refine oz ?_));first|done|fail) (reg:=by(repeat' (first|exact ai.nil|refine ai.cons (by simp only[XV.aB,List.map_cons,List.map_nil,aU];rfl) ?_|refine rz ?_|refine ai.sl rfl (by assumption) rfl ?_));first|done|fail)) (by omega) (by omega)
  ·obtain rfl:j=6:=by omega
   repeat' (first|refine zz ?_|refine zx (fun _=>?_) (fun _=>?_)|fail)
   show aE _ _ _ _ _ _ _ _;refine kV [0,1,2,3,4,5,6,7,8,9,10,11,12,13,14,15,16,17,18,19,20,21,22,23,24,25] ?_;rfl
end Go.Proofs.YthdciapjllppjaaGreat
