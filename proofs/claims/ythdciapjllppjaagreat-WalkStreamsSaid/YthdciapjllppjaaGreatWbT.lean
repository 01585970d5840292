/-
  A part of the proof: Blocks.
-/
import Derived.Test.YthdciapjllppjaaGreatWbF
import Derived.Test.YthdciapjllppjaaGreatWbS
set_option maxRecDepth 10000
set_option maxHeartbeats 8000000
set_option linter.unusedVariables false
set_option linter.unusedSectionVars false
set_option linter.unusedSimpArgs false
open Go.Proofs.Tryz (prog)
namespace Go.Xm
variable [aq]
theorem Ez{τ : Nat->Nat}{HS:aj}{g:Nat->Nat}{f:Nat->ak}(hf:∀j,cA (f j)){ls:List Nat}{l:aj}(h:ae τ HS ls l):∀(js:List Nat),(∀j∈js,HS[g j]? = some (f j)\/(f j = .dead/\g j<HS.length))->ae τ HS (js.map g++ls) (js.map f++l)
 | [],_=>h
 | j :: js,hj=>by
   have ih:=Ez hf h js fun i hi=>hj i (List.mem_cons_of_mem _ hi)
   rcases hj j (List.mem_cons_self ..)with h1|⟨h1,h2⟩
   ·have:=hf j;exact ae.flat h1 ih
   ·show ae τ HS (g j::(js.map g++ls)) (f j::(js.map f++l));rw[h1];exact ae.dead (by rw[Nat.blt_eq];exact h2) ih
end Go.Xm
namespace Go.Proofs.YthdciapjllppjaaGreat
open Go.Xm
variable [aq]
theorem yH{f:Nat->Int}{st:Nat}{EV:List Ev}(h:jR f st=EV){z:Int}(hz:z=(st:Nat))(hst:st<=64){HS:aj}{N:Nat}(hN:HS.length=N){HS':aj}(hh:HS++[eK EV]=HS')(hbd:Nat.blt HS'.length Mem.bound=true) :
 aA.Sound prog ⟨124,[.agg (ti .i64 64 f),.one (.int .i64 z)],HS,gJ N EV.length 3,HS',[]⟩:=by
 subst h;exact Mr hz hst hN hh hbd
theorem xv:∀(ls:List Nat) (os HS l:aj),os.length=ls.length->(∀(j i:Nat),ls[j]? = some i->∃o,HS[i]? = some o/\os[j]? = some o)->bJ HS ls (os++l)=HS++l
 | [],[],HS,l,_,_=>by simp[bJ]
 | [],_::_,_,_,h,_=>by simp at h
 | _::_,[],_,_,h,_=>by simp at h
 | i::ls,o::os,HS,l,h,hg=>by
   obtain⟨o',h1,h2⟩:=hg 0 i rfl;have:o'=o:=by simpa using h2.symm
   subst this;show bJ (HS.set i o') ls (os++l)=_;rw[aG h1];exact xv ls os HS l (by simpa using h) fun j i' hj=>hg (j+1) i' hj
theorem td{bs:List Bool}{S:cH}{n:Int}(hn : -4000<=n/\n<=4000)(hb:bs.length<=800000){HS:aj}{k:Nat}(hi:HS[0]? = some (aP k bs))(hk:HS[k]? = some (av bs))(hS:(HS.drop 2).take 20=iT S)(hd:(k==1||Nat.ble 22 k)=true){N:Nat}(hN:HS.length=N){HS':aj}(hh:bJ HS [0,k] [aP N (bs++fQ n),.dead,av (bs++fQ n)]=HS')(hbd:Nat.blt HS'.length Mem.bound=true) :
 aA.Sound prog ⟨122,[.one (.ptr 2 0),.one (.ptr 0 0),.one (.int .i64 n)],HS,.tup [],HS',0::k::dw⟩:=by
 refine Lj hn hb hi hk hS hd hN ?_ hbd;rw[<-hh];rw[bJ,bJ];refine xv dw (iT S) _ _ rfl fun j i hj=>?_
 have hkk:k=1\/22<=k:=by simpa [Nat.ble_eq]using hd
 have hjl:j<20:=(List.getElem?_eq_some_iff.1 hj).1;have hq:∀q:Fin 20,dw[q.val]? = some (q.val+2):=by decide
 have:=hq ⟨j,hjl⟩;rw[hj]at this;obtain rfl:i=j+2:=by simpa using this
 rw[List.getElem?_set_ne (by omega),List.getElem?_set_ne (by omega)]
 have g:HS[j+2]? = (iT S)[j]?:=by
  rw[<-hS,List.getElem?_take,if_pos hjl,List.getElem?_drop]
  congr 1
  omega
 have hl:j<(iT S).length:=hjl;exact⟨(iT S)[j],by rw[g,List.getElem?_eq_getElem hl],List.getElem?_eq_getElem hl⟩
abbrev Dw(w k N:Nat):List Nat:=0::1::2::3::4::5::6::7::8::9::10::11::12::13::14::15::16::17::18::19::20::21::22::23::w::25::26::((List.range 6).map (fun j=>if j=k then N else 27+j)++[])
theorem Lb:∀k:Fin 6,(Dw 24 k.val 35).Nodup/\(Dw 35 k.val 36).Nodup/\(Dw 36 k.val 37).Nodup:=by decide +kernel
theorem BT{k:Nat}(h:k<6):(Dw 24 k 35).Nodup/\(Dw 35 k 36).Nodup/\(Dw 36 k 37).Nodup:=Lb ⟨k,h⟩
theorem Ob(w N k:Nat){j:Nat}(hj:j<6):nth (Dw w k N) (27+j)=if j=k then N else 27+j:=by
 match j,hj with
 | 0,_=>rfl
 | 1,_=>rfl
 | 2,_=>rfl
 | 3,_=>rfl
 | 4,_=>rfl
 | 5,_=>rfl
abbrev R0(ev:Nat->List Ev)(k:Nat)(EV:List Ev):Nat->List Ev:=fun j=>if j=k then EV else ev j
theorem Hs{τ : Nat->Nat}{k N:Nat}(hk:k<6){ev:Nat->List Ev}{EV:List Ev}(h:∀j,j<6 -> τ (27+j)=if j=k then N else 27+j):(N_ (R0 ev k EV)).aC τ = .cells ([eE 27 (ev 0).length 3,eE 28 (ev 1).length 3,eE 29 (ev 2).length 3,eE 30 (ev 3).length 3,eE 31 (ev 4).length 3,eE 32 (ev 5).length 3].set k (eE N EV.length 3)) 232 false false:=by
 have h0:=h 0 (by decide);have h1:=h 1 (by decide);have h2:=h 2 (by decide);have h3:=h 3 (by decide);have h4:=h 4 (by decide);have h5:=h 5 (by decide);simp only[Nat.reduceAdd]at h0 h1 h2 h3 h4 h5;have hc:k=0\/k=1\/k=2\/k=3\/k=4\/k=5:=by omega
 rcases hc with rfl|rfl|rfl|rfl|rfl|rfl<;>simp only[ak.aC,List.map_cons,List.map_nil,aV,h0,h1,h2,h3,h4,h5]<;>rfl
theorem Ld{HS:aj}{w k N:Nat}{ev:Nat->List Ev}{EV:List Ev}(hk:k<6)(h26:HS[26]? = some (.cells ([eE 27 (ev 0).length 3,eE 28 (ev 1).length 3,eE 29 (ev 2).length 3,eE 30 (ev 3).length 3,eE 31 (ev 4).length 3,eE 32 (ev 5).length 3].set k (eE N EV.length 3)) 232 false false))(hd:(HS.drop 27).take 6=(List.range 6).map fun j=>eK (ev j))(hN:HS[N]? = some (eK EV)) :
 ae (nth (Dw w k N)) HS (26::((List.range 6).map (fun j=>if j=k then N else 27+j)++[])) (N_ (R0 ev k EV)::((List.range 6).map (fun j=>eK (R0 ev k EV j))++[])):=by
 refine ae.cons (by rw[Hs hk fun j hj=>Ob w N k hj];exact h26) (Ez (fun j=>inferInstance) .nil (List.range 6) fun j hj => .inl ?_);have hj:=List.mem_range.1 hj;unfold R0
 by_cases hjk:j=k
 ·rw[if_pos hjk,if_pos hjk];exact hN
 ·rw[if_neg hjk,if_neg hjk,<-List.getElem?_drop,<-List.getElem?_take_of_lt hj,hd,List.getElem?_map,List.getElem?_range hj];rfl
theorem LC{nI:Nat}{al al2:aO}{hs hs2:aj}{w k N:Nat}(nd:(Dw w k N).Nodup:=by first|exact(BT (by assumption)).1|exact(BT (by assumption)).2.1|exact(BT (by assumption)).2.2)(hid:(List.range nI).all (fun j=>nth (Dw w k N) j==j)=true:=by exact rfl)(obj:ae (nth (Dw w k N)) hs (Dw w k N) hs2:=by
 repeat' (first|exact Ld (by assumption) rfl rfl rfl|refine ae.flat rfl ?_|refine ae.cons rfl ?_|refine ae.dead rfl ?_|refine ae.iu rfl rfl rfl rfl ?_))(reg:ai (nth (Dw w k N)) al al2:=by
 repeat' (first|exact ai.nil|refine ai.flat rfl ?_|refine ai.cons rfl ?_)):GoTo nI al hs al2 hs2 (Dw w k N):=⟨.inl nd,hid,obj,reg⟩
theorem oO(bs bw:List Bool)(S:cH)(m:Mb)(mb:Int)(hg:nM m)(hS:km S)(hmb:0<=mb/\mb<S.cols*S.rows)(hb:bs.length<=700000)(hbw:bw.length<=700000)(x:rB)(hx:kn m mb ⟨S,bs,0,0,fun _=>[]⟩ 6=some x) :
 bt prog 93 [.one (.ptr 2 0),.one (.ptr 0 0),.one (.ptr 22 0),.one (.int .i64 mb),.agg (mC m)] [aP 1 bs,av bs,jB (S),fc 4 8 12,aX 5 6 7 cM,db cM,df cM,dc cM,aX 9 10 11 cZ,db cZ,df cZ,dc cZ,aX 13 14 15 cP,db cP,df cP,dc cP,fD 17 (S).cols (S).rows,.map (cE (S).M),.cells [.int .i64 (S).cols,.int .i64 (S).rows,.map 19,.map 20,.map 21] 220 false false,.map (au (S).A),.map (au (S).B),.map (au (S).C),aP 23 bw,av bw] (.one (.int .i64 0)) [aP 24 (eJ x),.dead,jB (x.S),fc 4 8 12,aX 5 6 7 cM,db cM,df cM,dc cM,aX 9 10 11 cZ,db cZ,df cZ,dc cZ,aX 13 14 15 cP,db cP,df cP,dc cP,fD 17 (x.S).cols (x.S).rows,.map (cE (x.S).M),.cells [.int .i64 (x.S).cols,.int .i64 (x.S).rows,.map 19,.map 20,.map 21] 220 false false,.map (au (x.S).A),.map (au (x.S).B),.map (au (x.S).C),aP 25 (c_ bw x 6),.dead,av (eJ x),av (c_ bw x 6)]:=by
 have hm:=hg.ok;refine cO Tryz.func93 ?_
 repeat' (first
  |(refine qz ?_;first
   |refine qI (cs:=ti .i64 384 m.lev) ?_ (hle:=by rw[bn];decide) (hc:=IL m))
  |refine zz ?_|refine zx (fun _=>?_) (fun _=>?_)|fail)
 refine WX.cw (σ:=Nat×rB) (fun s=>[(26,.one (.int .i64 (s.1:Nat))),(12,.one (.int .i64 s.2.pat)),(13,.one (.int .u64 s.2.col)),(0,.one (.ptr 2 0)),(1,.one (.ptr 0 0)),(2,.one (.ptr 22 0)),(3,.one (.int .i64 mb)),(9,.one (.ptr 25 0)),(11,.one (.ptr 26 0)),(25,.agg (ti .i64 384 m.lev))])
  (fun s=>[aP 24 s.2.B,.dead,jB (s.2.S),fc 4 8 12,aX 5 6 7 cM,db cM,df cM,dc cM,aX 9 10 11 cZ,db cZ,df cZ,dc cZ,aX 13 14 15 cP,db cP,df cP,dc cP,fD 17 (s.2.S).cols (s.2.S).rows,.map (cE (s.2.S).M),.cells [.int .i64 (s.2.S).cols,.int .i64 (s.2.S).rows,.map 19,.map 20,.map 21] 220 false false,.map (au (s.2.S).A),.map (au (s.2.S).B),.map (au (s.2.S).C),aP 23 bw,av bw,av s.2.B,OQ m,N_ s.2.ev,eK (s.2.ev 0),eK (s.2.ev 1),eK (s.2.ev 2),eK (s.2.ev 3),eK (s.2.ev 4),eK (s.2.ev 5)]) (ER m mb ⟨S,bs,0,0,fun _=>[]⟩) (fun s=>6-s.1) (0,⟨S,bs,0,0,fun _=>[]⟩) ⟨by show 0<=6;omega,rfl,hS,⟨rfl,rfl⟩,by show bs.length<=bs.length+76*0;omega,fun _ _=>rfl,fun _ => .inl rfl,⟨by show(0:Int)<=0;omega,by show(0:Int)<16;omega⟩,⟨by show(0:Int)<=0;omega,by show(0:Int)<4;omega⟩⟩ (fun s _=>ny) (bW [0,1,2,3,4,5,6,7,8,9,10,11,12,13,14,15,16,17,18,19,20,21,22,23,1,24,25,0,0,0,0,0,0]) ?_
 intro s hs ih;have hD:=hs.st.dims;have hmb':0<=mb/\mb<s.2.S.cols*s.2.S.rows:=by rw[hs.cr.1,hs.cr.2];exact hmb
 have hpat:=hs.pat;have hcol:=hs.col;have hlen:s.2.B.length<=bs.length+76*s.1:=hs.len
 by_cases h6:s.1<6
 ·obtain ⟨r,hr⟩:∃r,nk m s.2.S mb s.1=some r:=by
   cases hr:nk m s.2.S mb s.1 with
   | some r=>exact⟨r,rfl⟩
   | none=>
     have h1:kn m mb ⟨S,bs,0,0,fun _=>[]⟩ (s.1+1)=none:=by
      rw[kn,hs.run];simp only[Option.bind_some,hr,Option.map_none]
     rw[E4 h1 6 (by omega)]at hx;cases hx
  have hN:=wU hg hs h6 hr;cases ha:alone m
  ·have er:cD m s.1=r:=by
    unfold nk at hr;rw[if_neg (by rw[ha];decide)]at hr;exact Option.some.inj hr
   subst er
   obtain⟨EV,hEV⟩:∃EV,jR (qV (i7 m.edge (dF s.2.S mb s.1 m.qp).1) (cD m s.1)) 0=EV:=⟨_,rfl⟩
   have eEV:E2 m s.2.S mb s.1 (cD m s.1)=EV:=by
    unfold E2;rw[if_neg (by rw[ha];decide)];exact hEV
   rw[eEV]at hN
   repeat' (first
    |(refine qz ?_;first
     |refine LJ (n:=384) ?_
     |refine nD ?_ (hs1:=by rw[aU]) (hs2:=by rw[aU])
     |refine jI ?_ (hle:=by first|rw[aU]|rw[bn])
     |refine cl ?_ (hi:=by exact yT (S:=s.2.S) (mb:=mb) (k:=(s.1:Nat)) (q:=m.qp) hD hmb' (by omega) rfl rfl rfl rfl rfl)
     |refine cl ?_ (hi:=by exact lW ha rfl)
     |refine cl ?_ (hi:=by exact uR rfl)
     |refine cl ?_ (hi:=by exact yL (f:=cD m s.1) (oV _ _) rfl)
     |refine cl (v := .one (.int .i64 0)) ?_ (hi:=by exact vv ha rfl)
     |refine cl ?_ (hi:=by exact yH hEV rfl (by decide) nL nA rfl)
     |refine st ?_ (hle:=by exact h6) (hv:=rfl)
     |refine ld (hc:=by exact List.getElem?_set_self (by exact h6)) ?_)
    |refine zz ?_|refine zx (fun _=>?_) (fun _=>?_)|fail)
   ·rename_i g0 g1
    have hE:gy m mb s.1 s.2 EV=⟨s.2.S,s.2.B,rT s.2.pat s.1,s.2.col,fun j=>if j=s.1 then EV else s.2.ev j⟩:=by
     unfold gy;rw[if_neg (by rw[ha];decide),if_neg (by rw[ha];decide),if_pos (by omega),if_neg (by omega)]
    rw[hE]at hN;refine ih (s.1+1,⟨s.2.S,s.2.B,rT s.2.pat s.1,s.2.col,fun j=>if j=s.1 then EV else s.2.ev j⟩) _ _ _ (LC (w:=24) (k:=s.1) (N:=35)) hN (by show 6-(s.1+1)<6-s.1;omega)
   ·rename_i g0 g1
    have hE:gy m mb s.1 s.2 EV=⟨s.2.S,s.2.B,s.2.pat,rJ s.2.col s.1,fun j=>if j=s.1 then EV else s.2.ev j⟩:=by
     unfold gy;rw[if_neg (by rw[ha];decide),if_neg (by rw[ha];decide),if_neg (by omega),if_pos (by omega)]
    rw[hE]at hN;refine ih (s.1+1,⟨s.2.S,s.2.B,s.2.pat,rJ s.2.col s.1,fun j=>if j=s.1 then EV else s.2.ev j⟩) _ _ _ (LC (w:=24) (k:=s.1) (N:=35)) hN (by show 6-(s.1+1)<6-s.1;omega)
   ·rename_i g0
    have hE:gy m mb s.1 s.2 EV=⟨s.2.S,s.2.B,s.2.pat,s.2.col,fun j=>if j=s.1 then EV else s.2.ev j⟩:=by
     unfold gy;rw[if_neg (by rw[ha];decide),if_neg (by rw[ha];decide),if_neg (by omega),if_neg (by omega)]
    rw[hE]at hN;refine ih (s.1+1,⟨s.2.S,s.2.B,s.2.pat,s.2.col,fun j=>if j=s.1 then EV else s.2.ev j⟩) _ _ _ (LC (w:=24) (k:=s.1) (N:=35)) hN (by show 6-(s.1+1)<6-s.1;omega)
  ·cases he:m.edge
   ·have he':m.edge=false:=he;have hl6:(mC m)[6]? = some (.bool false):=congrArg (fun b=>some (XC.bool b)) he';have hfr:=r8 s.2.S mb s.1 m.qp;have hfi:0<=m.lev ((s.1:Int).toNat*64+0)/\m.lev ((s.1:Int).toNat*64+0)<=127:=hg.first ha s.1 h6
    have hdr:=t9 hg (S:=s.2.S) (mb:=mb) ha h6
    have er:fY (cD m s.1) 0 0=r:=by
     unfold nk at hr;rw[if_pos ha,if_neg (by rw[he'];decide)]at hr;exact Option.some.inj hr
    subst er
    obtain⟨EV,hEV⟩:∃EV,jR (qV (i7 false (dF s.2.S mb s.1 m.qp).1) (fY (cD m s.1) 0 0)) 1=EV:=⟨_,rfl⟩
    have eEV:E2 m s.2.S mb s.1 (fY (cD m s.1) 0 0)=EV:=by
     unfold E2;rw[if_pos ha,he'];exact hEV
    rw[eEV]at hN
    repeat' (first
     |(refine qz ?_;first
      |refine ld (hc:=hl6) ?_
      |refine LJ (n:=384) ?_
      |refine nD ?_ (hs1:=by rw[aU]) (hs2:=by rw[aU])
      |refine jI ?_ (hle:=by first|rw[aU]|rw[bn])
      |refine cl ?_ (hi:=by exact yT (S:=s.2.S) (mb:=mb) (k:=(s.1:Nat)) (q:=m.qp) hD hmb' (by omega) rfl rfl rfl rfl rfl)
      |refine cl ?_ (hi:=by exact lW ha rfl)
      |refine cl ?_ (hi:=by exact uR rfl)
      |refine Tm ?_ (hi:=by exact td (n:=cD m s.1 0-(dF s.2.S mb s.1 m.qp).2) hdr (bs:=s.2.B) (by omega) rfl rfl (S:=s.2.S) rfl rfl nL nA rfl)
      |refine cl ?_ (hi:=by exact td (n:=cD m s.1 0-(dF s.2.S mb s.1 m.qp).2) hdr (bs:=s.2.B) (by omega) rfl rfl (S:=s.2.S) rfl rfl nL nA rfl)
      |refine cl ?_ (hi:=by exact Ex (S:=s.2.S) (mb:=mb) (k:=(s.1:Nat)) (b:=⟨cD m s.1,m.qp⟩) hD hmb' (by omega) rfl rfl rfl rfl nA rfl)
      |refine cl ?_ (hi:=by exact yL (f:=fY (cD m s.1) 0 0) (oV _ _) rfl)
      |refine cl (v := .one (.int .i64 1)) ?_ (hi:=by exact vv ha rfl)
      |refine cl ?_ (hi:=by exact yH hEV rfl (by decide) nL nA rfl)
      |refine st ?_ (hle:=by exact h6) (hv:=rfl)
      |refine ld (hc:=by exact List.getElem?_set_self (by exact h6)) ?_)
     |refine zz ?_|refine zx (fun _=>?_) (fun _=>?_)|fail)
    ·rename_i g0 g1
     have hE:gy m mb s.1 s.2 EV=⟨eG s.2.S mb s.1 ⟨cD m s.1,m.qp⟩,s.2.B++fQ (cD m s.1 0-(dF s.2.S mb s.1 m.qp).2),rT s.2.pat s.1,s.2.col,fun j=>if j=s.1 then EV else s.2.ev j⟩:=by
      unfold gy;rw[if_pos ha,if_pos ha,if_pos (by omega),if_neg (by omega)]
     rw[hE]at hN;refine ih (s.1+1,⟨eG s.2.S mb s.1 ⟨cD m s.1,m.qp⟩,s.2.B++fQ (cD m s.1 0-(dF s.2.S mb s.1 m.qp).2),rT s.2.pat s.1,s.2.col,fun j=>if j=s.1 then EV else s.2.ev j⟩) _ _ _ (LC (w:=35) (k:=s.1) (N:=36)) hN (by show 6-(s.1+1)<6-s.1;omega)
    ·rename_i g0 g1
     have hE:gy m mb s.1 s.2 EV=⟨eG s.2.S mb s.1 ⟨cD m s.1,m.qp⟩,s.2.B++fQ (cD m s.1 0-(dF s.2.S mb s.1 m.qp).2),s.2.pat,rJ s.2.col s.1,fun j=>if j=s.1 then EV else s.2.ev j⟩:=by
      unfold gy;rw[if_pos ha,if_pos ha,if_neg (by omega),if_pos (by omega)]
     rw[hE]at hN;refine ih (s.1+1,⟨eG s.2.S mb s.1 ⟨cD m s.1,m.qp⟩,s.2.B++fQ (cD m s.1 0-(dF s.2.S mb s.1 m.qp).2),s.2.pat,rJ s.2.col s.1,fun j=>if j=s.1 then EV else s.2.ev j⟩) _ _ _ (LC (w:=35) (k:=s.1) (N:=36)) hN (by show 6-(s.1+1)<6-s.1;omega)
    ·rename_i g0
     have hE:gy m mb s.1 s.2 EV=⟨eG s.2.S mb s.1 ⟨cD m s.1,m.qp⟩,s.2.B++fQ (cD m s.1 0-(dF s.2.S mb s.1 m.qp).2),s.2.pat,s.2.col,fun j=>if j=s.1 then EV else s.2.ev j⟩:=by
      unfold gy;rw[if_pos ha,if_pos ha,if_neg (by omega),if_neg (by omega)]
     rw[hE]at hN;refine ih (s.1+1,⟨eG s.2.S mb s.1 ⟨cD m s.1,m.qp⟩,s.2.B++fQ (cD m s.1 0-(dF s.2.S mb s.1 m.qp).2),s.2.pat,s.2.col,fun j=>if j=s.1 then EV else s.2.ev j⟩) _ _ _ (LC (w:=35) (k:=s.1) (N:=36)) hN (by show 6-(s.1+1)<6-s.1;omega)
   ·have he':m.edge=true:=he;have hl6:(mC m)[6]? = some (.bool true):=congrArg (fun b=>some (XC.bool b)) he';have hfr:=r8 s.2.S mb s.1 m.qp;have hfi:0<=m.lev ((s.1:Int).toNat*64+0)/\m.lev ((s.1:Int).toNat*64+0)<=127:=hg.first ha s.1 h6
    have hdr:=t9 hg (S:=s.2.S) (mb:=mb) ha h6
    obtain⟨R,hR,er⟩:∃R,pz (cD m s.1) (iJ s.2.S mb s.1 m.qp)=some R/\fY R 0 0=r:=by
     unfold nk at hr;rw[if_pos ha,if_pos he']at hr;exact Option.map_eq_some_iff.1 hr
    subst er
    obtain⟨EV,hEV⟩:∃EV,jR (qV (i7 true (dF s.2.S mb s.1 m.qp).1) (fY (R) 0 0)) 1=EV:=⟨_,rfl⟩
    have eEV:E2 m s.2.S mb s.1 (fY (R) 0 0)=EV:=by
     unfold E2;rw[if_pos ha,he'];exact hEV
    rw[eEV]at hN
    repeat' (first
     |(refine qz ?_;first
      |refine ld (hc:=hl6) ?_
      |refine LJ (n:=384) ?_
      |refine nD ?_ (hs1:=by rw[aU]) (hs2:=by rw[aU])
      |refine jI ?_ (hle:=by first|rw[aU]|rw[bn])
      |refine cl ?_ (hi:=by exact yT (S:=s.2.S) (mb:=mb) (k:=(s.1:Nat)) (q:=m.qp) hD hmb' (by omega) rfl rfl rfl rfl rfl)
      |refine cl ?_ (hi:=by exact lW ha rfl)
      |refine cl ?_ (hi:=by exact uR rfl)
      |refine cl ?_ (hi:=by exact J2 (S:=s.2.S) (mb:=mb) (k:=(s.1:Nat)) (q:=m.qp) hD hmb' (by omega) rfl rfl rfl rfl rfl)
      |refine cl (v := .tup [.agg (ti .i64 64 R),.one (.bool true)]) ?_ (hi:=by exact LQ (l:=cD m s.1) (fun i=>hm.lev _) (vA (fun dx dy b hb=>IV hs.st.lev hb)) hR rfl)
      |refine Tm ?_ (hi:=by exact td (n:=cD m s.1 0-(dF s.2.S mb s.1 m.qp).2) hdr (bs:=s.2.B) (by omega) rfl rfl (S:=s.2.S) rfl rfl nL nA rfl)
      |refine cl ?_ (hi:=by exact td (n:=cD m s.1 0-(dF s.2.S mb s.1 m.qp).2) hdr (bs:=s.2.B) (by omega) rfl rfl (S:=s.2.S) rfl rfl nL nA rfl)
      |refine cl ?_ (hi:=by exact Ex (S:=s.2.S) (mb:=mb) (k:=(s.1:Nat)) (b:=⟨cD m s.1,m.qp⟩) hD hmb' (by omega) rfl rfl rfl rfl nA rfl)
      |refine cl ?_ (hi:=by exact yL (f:=fY (R) 0 0) (oV _ _) rfl)
      |refine cl (v := .one (.int .i64 1)) ?_ (hi:=by exact vv ha rfl)
      |refine cl ?_ (hi:=by exact yH hEV rfl (by decide) nL nA rfl)
      |refine st ?_ (hle:=by exact h6) (hv:=rfl)
      |refine ld (hc:=by exact List.getElem?_set_self (by exact h6)) ?_)
     |refine RS (id:=10) [14] ?_|refine zz ?_|refine zx (fun _=>?_) (fun _=>?_)|fail)
    ·rename_i g0 g1
     have hE:gy m mb s.1 s.2 EV=⟨eG s.2.S mb s.1 ⟨cD m s.1,m.qp⟩,s.2.B++fQ (cD m s.1 0-(dF s.2.S mb s.1 m.qp).2),rT s.2.pat s.1,s.2.col,fun j=>if j=s.1 then EV else s.2.ev j⟩:=by
      unfold gy;rw[if_pos ha,if_pos ha,if_pos (by omega),if_neg (by omega)]
     rw[hE]at hN;refine ih (s.1+1,⟨eG s.2.S mb s.1 ⟨cD m s.1,m.qp⟩,s.2.B++fQ (cD m s.1 0-(dF s.2.S mb s.1 m.qp).2),rT s.2.pat s.1,s.2.col,fun j=>if j=s.1 then EV else s.2.ev j⟩) _ _ _ (LC (w:=36) (k:=s.1) (N:=37)) hN (by show 6-(s.1+1)<6-s.1;omega)
    ·rename_i g0 g1
     have hE:gy m mb s.1 s.2 EV=⟨eG s.2.S mb s.1 ⟨cD m s.1,m.qp⟩,s.2.B++fQ (cD m s.1 0-(dF s.2.S mb s.1 m.qp).2),s.2.pat,rJ s.2.col s.1,fun j=>if j=s.1 then EV else s.2.ev j⟩:=by
      unfold gy;rw[if_pos ha,if_pos ha,if_neg (by omega),if_pos (by omega)]
     rw[hE]at hN;refine ih (s.1+1,⟨eG s.2.S mb s.1 ⟨cD m s.1,m.qp⟩,s.2.B++fQ (cD m s.1 0-(dF s.2.S mb s.1 m.qp).2),s.2.pat,rJ s.2.col s.1,fun j=>if j=s.1 then EV else s.2.ev j⟩) _ _ _ (LC (w:=36) (k:=s.1) (N:=37)) hN (by show 6-(s.1+1)<6-s.1;omega)
    ·rename_i g0
     have hE:gy m mb s.1 s.2 EV=⟨eG s.2.S mb s.1 ⟨cD m s.1,m.qp⟩,s.2.B++fQ (cD m s.1 0-(dF s.2.S mb s.1 m.qp).2),s.2.pat,s.2.col,fun j=>if j=s.1 then EV else s.2.ev j⟩:=by
      unfold gy;rw[if_pos ha,if_pos ha,if_neg (by omega),if_neg (by omega)]
     rw[hE]at hN;refine ih (s.1+1,⟨eG s.2.S mb s.1 ⟨cD m s.1,m.qp⟩,s.2.B++fQ (cD m s.1 0-(dF s.2.S mb s.1 m.qp).2),s.2.pat,s.2.col,fun j=>if j=s.1 then EV else s.2.ev j⟩) _ _ _ (LC (w:=36) (k:=s.1) (N:=37)) hN (by show 6-(s.1+1)<6-s.1;omega)
 ·have h66:s.1=6:=by have:=hs.le;omega
  have hxs:s.2=x:=by
   have h1:=hs.run;rw[h66,hx]at h1;exact(Option.some.inj h1).symm
  have hcl:=j9 HD x.pat.toNat;have hevs:=hs.evs;rw[hxs]at hpat hcol hlen hevs ⊢;have hpn:x.pat=(x.pat.toNat:Nat):=by omega
  repeat' (first
   |(refine qz ?_;first
    |refine cl ?_ (hi:=by exact qs (C:=cP) HD (n:=x.pat.toNat) hpn (by show x.pat.toNat<16;omega) (bs:=x.B) (by omega) rfl rfl rfl rfl rfl rfl (by decide) nL nA rfl)
    |refine cl ?_ (hi:=by exact fq (n:=x.col) (size:=2) rfl (bs:=x.B++jn cP x.pat.toNat) (by omega) (by decide) (by rw[List.length_append];omega) rfl rfl (by decide) nL nA rfl))
   |refine zz ?_|refine zx (fun _=>?_) (fun _=>?_)|fail)
  refine WX.cw (σ:=Nat) (fun j=>[(125,.one (.int .i64 (j:Nat))),(2,.one (.ptr 22 0)),(124,.agg [eE 26 (x.ev 0).length 3,eE 27 (x.ev 1).length 3,eE 28 (x.ev 2).length 3,eE 29 (x.ev 3).length 3,eE 30 (x.ev 4).length 3,eE 31 (x.ev 5).length 3])]) (fun j=>[aP 24 (eJ x),.dead,jB (x.S),fc 4 8 12,aX 5 6 7 cM,db cM,df cM,dc cM,aX 9 10 11 cZ,db cZ,df cZ,dc cZ,aX 13 14 15 cP,db cP,df cP,dc cP,fD 17 (x.S).cols (x.S).rows,.map (cE (x.S).M),.cells [.int .i64 (x.S).cols,.int .i64 (x.S).rows,.map 19,.map 20,.map 21] 220 false false,.map (au (x.S).A),.map (au (x.S).B),.map (au (x.S).C),aP 25 (c_ bw x j),.dead,av (eJ x),av (c_ bw x j),eK (x.ev 0),eK (x.ev 1),eK (x.ev 2),eK (x.ev 3),eK (x.ev 4),eK (x.ev 5)]) (fun j=>j<=6) (fun j=>6-j) 0 (by omega) (fun s _=>ny) (bW [0,1,2,3,4,5,6,7,8,9,10,11,12,13,14,15,16,17,18,19,20,21,22,23,34,23,27,28,29,30,31,32] (obj:=by(repeat' (first|exact ae.nil|refine ae.iu rfl rfl rfl rfl ?_|refine oz ?_));first|done|fail) (reg:=by(repeat' (first|exact ai.nil|refine ai.cons (by simp only[XV.aC,List.map_cons,List.map_nil,aV];rfl) ?_|refine rz ?_|refine ai.sl rfl (by assumption) rfl ?_));first|done|fail)) ?_;intro j hj ih2
  by_cases hj6:j<6
  ·have hW:=rF (bw:=bw) hevs j;have ih3:=fun τl al' hs'=>ih2 (j+1) τl al' hs'
   have hjc:j=0\/j=1\/j=2\/j=3\/j=4\/j=5:=by omega
   by_cases hl0:(x.ev j).length=0
   ·have e0:x.ev j = []:=List.length_eq_zero_iff.1 hl0;have eW:c_ bw x (j+1)=c_ bw x j:=(show c_ bw x (j+1)=c_ bw x j++gM (x.ev j)from rfl).trans (by rw[e0];exact List.append_nil _)
    rcases hjc with rfl|rfl|rfl|rfl|rfl|rfl
    all_goals
     repeat' (first
      |(refine qz ?_;first
       |refine KV ?_)
      |refine zz ?_|refine zx (fun _=>?_) (fun _=>?_)|fail)
     refine ih3 _ _ _ (bW [0,1,2,3,4,5,6,7,8,9,10,11,12,13,14,15,16,17,18,19,20,21,22,23,24,25,26,27,28,29,30,31] (obj:=by(repeat' (first|exact ae.nil|refine ae.flat (by rw[eW];rfl) ?_|refine ae.iu rfl rfl rfl rfl ?_|refine ae.iu (by rw[eW];rfl) rfl rfl rfl ?_|refine oz ?_));first|done|fail) (reg:=by(repeat' (first|exact ai.nil|refine ai.cons (by simp only[XV.aC,List.map_cons,List.map_nil,aV];rfl) ?_|refine rz ?_|refine ai.sl rfl (by assumption) rfl ?_));first|done|fail)) (by omega) (by omega)
   ·have ho:ql (x.ev j):=(hevs j).resolve_left (fun h=>hl0 (by rw[h];rfl))
    rcases hjc with rfl|rfl|rfl|rfl|rfl|rfl
    all_goals
     repeat' (first
      |(refine qz ?_;first
       |refine KV ?_
       |refine cl ?_ (hi:=by exact Le ho (by omega) rfl rfl rfl (by decide) nL nA rfl))
      |refine zz ?_|refine zx (fun _=>?_) (fun _=>?_)|fail)
     refine ih3 _ _ _ (bW [0,1,2,3,4,5,6,7,8,9,10,11,12,13,14,15,16,17,18,19,20,21,22,23,24,32,26,27,28,29,30,31] (obj:=by(repeat' (first|exact ae.nil|refine ae.iu rfl rfl rfl rfl ?_|refine oz ?_));first|done|fail) (reg:=by(repeat' (first|exact ai.nil|refine ai.cons (by simp only[XV.aC,List.map_cons,List.map_nil,aV];rfl) ?_|refine rz ?_|refine ai.sl rfl (by assumption) rfl ?_));first|done|fail)) (by omega) (by omega)
  ·obtain rfl:j=6:=by omega
   repeat' (first|refine zz ?_|refine zx (fun _=>?_) (fun _=>?_)|fail)
   show aE _ _ _ _ _ _ _ _;refine kV [0,1,2,3,4,5,6,7,8,9,10,11,12,13,14,15,16,17,18,19,20,21,22,23,24,25] ?_;rfl
end Go.Proofs.YthdciapjllppjaaGreat
