/-
  A part of the proof: Put0, Put1.
-/
import Derived.Test.YtnkodcmkpfefhaaGreatEeS
set_option maxRecDepth 10000
set_option maxHeartbeats 8000000
set_option linter.unusedVariables false
set_option linter.unusedSectionVars false
set_option linter.unusedSimpArgs false
namespace Go.Proofs.YtnkodcmkpfefhaaGreat
open Go.Xm
variable [aw]
def az(m:Mb)(mb:Int)(x:bO×List Bool)(k:Nat):bO×List Bool:=({x.1 with M:=a_ x.1.M x.1.cols mb k (m.v k)},x.2++dt (m.v k) (cN x.1.M x.1.cols x.1.rows mb k))
def gC(S:bO)(B:List Bool)(m:Mb)(mb:Int):bO×List Bool:=
 if m.kind=0 then(bk S mb m.v,B++aG S m)
 else if m.kind=1 then(bk (az m mb (S,B++aG S m) 0).1 mb m.v,(az m mb (S,B++aG S m) 0).2)
 else if m.kind=2 then(bk (az m mb (az m mb (az m mb (az m mb (S,B++aG S m) 0) 1) 2) 3).1 mb m.v,(az m mb (az m mb (az m mb (az m mb (S,B++aG S m) 0) 1) 2) 3).2)
 else(bk (eR S m) mb m.v,(B++aG S m)++[m.edge])
structure jA(S:bO)(B bw:List Bool)(m:Mb)(mb:Int):Prop where
 st:f4 S
 mb:0<=mb/\mb<S.cols*S.rows
 qp : -1000000<=S.qp/\S.qp<=1000000
 good:kL m
 right:∀k,k<4->iL (m.v k)=true
 len:B.length<=600000
 lenw:bw.length<=600000
theorem cg{M:iI}(h:c_ M){cols mb k:Int}{v:Int×Int}(hv:bH v):c_ (a_ M cols mb k v):=CQ h hv
theorem d9{M:iI}(h:c_ M){cols mb:Int}{v:Nat->Int×Int}(hv:∀k,bH (v k)):c_ (AM M cols mb v):=cg (cg (cg (cg h (hv 0)) (hv 1)) (hv 2)) (hv 3)
theorem eg{S:bO}{m:Mb}(h:m.kind≠4):eR S m=S:=if_neg h
theorem oq{S:bO}{m:Mb}(h:m.kind=4):eR S m = {S with qp:=m.qp}:=if_pos h
theorem Ay(a b c d:List XC)(e e' e2 e3 e4 e5 e6 e7:TypeId)(cs ds fs gs:List XC)(S S':bO):eV (.cells a e false false::dG e' cs::(gh S++[.cells c e5 false false,dG e6 fs])) (.cells b e2 false false :: .dead::(gh S'++[.cells d e7 false false,.dead,dG e3 ds,dG e4 gs]))=true:=by
 cases cs<;>cases ds<;>cases fs<;>cases gs<;>simp[eV,ah.live,ah.own,dG]
theorem Bc{B bw:List Bool}{S:bO}{m:Mb}{mb:Int}{x:oT}(hc:aW Tryz.prog 115 [.one (.ptr 2 0),.one (.ptr 0 0),.one (.ptr 22 0),.one (.int .i64 mb),.agg (mC m)] (aK 1 B::aq B::(gh S++[aK 23 bw,aq bw])) (.one (.int .i64 0)) (aK 24 (dY x) :: .dead::(gh x.S++[aK 25 (cC bw x 6),.dead,aq (dY x),aq (cC bw x 6)])))
 {HS:ai} {k:Nat}(hi:HS[0]? = some (aK k B)) (hk:HS[k]? = some (aq B)) (hS:(HS.drop 2).take 20=gh S) (h22:HS[22]? = some (aK 23 bw)) (h23:HS[23]? = some (aq bw)) (hd:(k==1||Nat.ble 24 k)=true) {N:Nat}(hN:HS.length=N) (hbd:Nat.blt (N+2) Mem.bound=true) :
 aC.Sound Tryz.prog ⟨115,[.one (.ptr 2 0),.one (.ptr 0 0),.one (.ptr 22 0),.one (.int .i64 mb),.agg (mC m)],HS,.one (.int .i64 0),bQ HS ((0::k::cf)++[22,23]) (aK N (dY x) :: .dead::(gh x.S++[aK (N+1) (cC bw x 6),.dead,aq (dY x),aq (cC bw x 6)])),(0::k::cf)++[22,23]⟩:=by
 subst hN
 have hkk:k=1\/24<=k:=by simpa [Nat.ble_eq]using hd
 have nd0:=sc (k:=k) (by omega)
 have nd:((0::k::cf)++[22,23]).Nodup:=by
  refine List.nodup_append.2 ⟨nd0,by decide,fun a ha b hb=>?_⟩
  have hb':b=22\/b=23:=by simpa using hb
  simp only[cf,List.mem_cons,List.not_mem_nil,or_false]at ha
  omega
 have ht:∀j,2<=j->j<22->nth ((0::k::cf)++[22,23]) j=j:=pe k _
 have ht':∀j,2<=j->j<22->nth (((0::k::cf)++[22,23])++List.range' HS.length 2) j=j:=fun j h1 h2=>by
  rw[List.append_assoc];exact pe k _ j h1 h2
 have hv:=qL S ht hS (ls:=[22,23]) (l:=[aK 23 bw,aq bw]) (ae.fu h22 rfl rfl rfl (.flat h23 .nil))
 have ho:=jZ S 24 (by omega) (l:=[aK 23 bw,aq bw]) (.cons (by simp[ah.bl,XC.ok,aE]) (.flat .nil))
 have ho':=jZ x.S 26 (by omega) (l:=[aK 25 (cC bw x 6),.dead,aq (dY x),aq (cC bw x 6)]) (.cons (by simp[ah.bl,XC.ok,aE]) (.flat (.flat (.flat .nil))))
 have hr:=uT x.S ht' (l:=[aK 25 (cC bw x 6),.dead,aq (dY x),aq (cC bw x 6)]) (l':=[aK (HS.length+1) (cC bw x 6),.dead,aq (dY x),aq (cC bw x 6)]) (.cons (by simp only[ah.ax,List.map_cons,List.map_nil,XC.ax,aB];rfl) (.flat (.flat (.flat .nil))))
 have hlen:(bQ HS ((0::k::cf)++[22,23]) (aK HS.length (dY x) :: .dead::(gh x.S++[aK (HS.length+1) (cC bw x 6),.dead,aq (dY x),aq (cC bw x 6)]))).length=HS.length+2:=oz _ _ _ (by show 24<=26;omega)
 refine ca ((0::k::cf)++[22,23]) ((0::k::cf)++[22,23]) 2 hc nd (ae.fu hi rfl rfl rfl (.flat hk hv)) (.cons (by simp[ah.bl,XC.ok,aE]) (.flat ho)) (.cons (by simp[ah.bl,XC.ok,aE]) (.flat ho')) rfl (.cons (by show 2<24;omega) (.cons (by show 0<24;omega) (.cons (by show 22<24;omega) (.flat (.flat .nil))))) (.cons rfl (.cons rfl (.cons rfl (.flat (.flat .nil))))) (bh.ok _) (bh.ax _) ?_ (Ay ..) rfl rfl (by rw[hlen];exact hbd) (.inl rfl)
 exact .cons (by simp only[ah.ax,List.map_cons,List.map_nil,XC.ax,aB];rfl) (.flat hr)
abbrev lH:ai:=[.dead,.dead,.dead,cK 4 8 12,aI 5 6 7 cM,bz cM,bC cM,bB cM,aI 9 10 11 cZ,bz cZ,bC cZ,bB cZ,aI 13 14 15 cP,bz cP,bC cP,bB cP,.dead,.dead,.dead,.dead,.dead,.dead,.dead,.dead]
theorem w6(c a:List XC)(e e' e5 e6:TypeId)(cs fs:List XC)(S:bO):eV (.cells a e false false::dG e' cs::(gh S++[.cells c e5 false false,dG e6 fs])) lH=true:=by
 cases cs<;>cases fs<;>simp[eV,ah.live,ah.own,dG]
theorem x9{B bw:List Bool}{S:bO}{m:Mb}{mb:Int}(hc:aW Tryz.prog 115 [.one (.ptr 2 0),.one (.ptr 0 0),.one (.ptr 22 0),.one (.int .i64 mb),.agg (mC m)] (aK 1 B::aq B::(gh S++[aK 23 bw,aq bw])) (.one (.int .i64 2)) lH)
 {HS:ai} {k:Nat}(hi:HS[0]? = some (aK k B)) (hk:HS[k]? = some (aq B)) (hS:(HS.drop 2).take 20=gh S) (h22:HS[22]? = some (aK 23 bw)) (h23:HS[23]? = some (aq bw)) (hd:(k==1||Nat.ble 24 k)=true) {N:Nat}(hN:HS.length=N) (hbd:Nat.blt N Mem.bound=true) :
 aC.Sound Tryz.prog ⟨115,[.one (.ptr 2 0),.one (.ptr 0 0),.one (.ptr 22 0),.one (.int .i64 mb),.agg (mC m)],HS,.one (.int .i64 2),bQ HS ((0::k::cf)++[22,23]) lH,(0::k::cf)++[22,23]⟩:=by
 subst hN
 have hkk:k=1\/24<=k:=by simpa [Nat.ble_eq]using hd
 have nd0:=sc (k:=k) (by omega)
 have nd:((0::k::cf)++[22,23]).Nodup:=by
  refine List.nodup_append.2 ⟨nd0,by decide,fun a ha b hb=>?_⟩
  have hb':b=22\/b=23:=by simpa using hb
  simp only[cf,List.mem_cons,List.not_mem_nil,or_false]at ha
  omega
 have ht:∀j,2<=j->j<22->nth ((0::k::cf)++[22,23]) j=j:=pe k _
 have ht':∀j,2<=j->j<22->nth (((0::k::cf)++[22,23])++List.range' HS.length 0) j=j:=fun j h1 h2=>by
  rw[List.append_assoc];exact pe k _ j h1 h2
 have hv:=qL S ht hS (ls:=[22,23]) (l:=[aK 23 bw,aq bw]) (ae.fu h22 rfl rfl rfl (.flat h23 .nil))
 have ho:=jZ S 24 (by omega) (l:=[aK 23 bw,aq bw]) (.cons (by simp[ah.bl,XC.ok,aE]) (.flat .nil))
 have h4:=ht' 4 (by omega) (by omega)
 have h5:=ht' 5 (by omega) (by omega)
 have h6:=ht' 6 (by omega) (by omega)
 have h7:=ht' 7 (by omega) (by omega)
 have h8:=ht' 8 (by omega) (by omega)
 have h9:=ht' 9 (by omega) (by omega)
 have h10:=ht' 10 (by omega) (by omega)
 have h11:=ht' 11 (by omega) (by omega)
 have h12:=ht' 12 (by omega) (by omega)
 have h13:=ht' 13 (by omega) (by omega)
 have h14:=ht' 14 (by omega) (by omega)
 have h15:=ht' 15 (by omega) (by omega)
 have hlen:(bQ HS ((0::k::cf)++[22,23]) lH).length=HS.length:=by
  rw[oz _ _ _ (by show 24<=24;omega)]
  show HS.length+(24-24)=_
  omega
 have hk':ay 24 lH:=by
  refine .flat (.flat (.flat (.cons ?_ (.cons ?_ (.flat (.flat (.flat (.cons ?_ (.flat (.flat (.flat (.cons ?_ (.flat (.flat (.flat (.flat (.flat (.flat (.flat (.flat (.flat (.flat (.flat .nil)))))))))))))))))))))))
  all_goals simp[ah.bl,XC.ok]
 refine ca ((0::k::cf)++[22,23]) ((0::k::cf)++[22,23]) 0 hc nd (ae.fu hi rfl rfl rfl (.flat hk hv)) (.cons (by simp[ah.bl,XC.ok,aE]) (.flat ho)) hk' rfl (.cons (by show 2<24;omega) (.cons (by show 0<24;omega) (.cons (by show 22<24;omega) (.flat (.flat .nil))))) (.cons rfl (.cons rfl (.cons rfl (.flat (.flat .nil))))) (bh.ok _) (bh.ax _) ?_ (w6 ..) rfl rfl (by rw[hlen];exact hbd) (.inl rfl)
 refine .flat (.flat (.flat (.cons ?_ (.cons ?_ (.flat (.flat (.flat (.cons ?_ (.flat (.flat (.flat (.cons ?_ (.flat (.flat (.flat (.flat (.flat (.flat (.flat (.flat (.flat (.flat (.flat .nil)))))))))))))))))))))))
 all_goals simp only[ah.ax,List.map_cons,List.map_nil,XC.ax, *]
theorem mr{B bw:List Bool}{S:bO}{m:Mb}{mb:Int}{x:oT}(hc:aW Tryz.prog 115 [.one (.ptr 2 0),.one (.ptr 0 0),.one (.ptr 22 0),.one (.int .i64 mb),.agg (mC m)] [aK 1 B,aq B,fv (S),cK 4 8 12,aI 5 6 7 cM,bz cM,bC cM,bB cM,aI 9 10 11 cZ,bz cZ,bC cZ,bB cZ,aI 13 14 15 cP,bz cP,bC cP,bB cP,dq 17 (S).cols (S).rows,.map (bK (S).M),.cells [.int .i64 (S).cols,.int .i64 (S).rows,.map 19,.map 20,.map 21] 142 false false,.map (aj (S).A),.map (aj (S).B),.map (aj (S).C),aK 23 bw,aq bw] (.one (.int .i64 0)) [aK 24 (dY x),.dead,fv (x.S),cK 4 8 12,aI 5 6 7 cM,bz cM,bC cM,bB cM,aI 9 10 11 cZ,bz cZ,bC cZ,bB cZ,aI 13 14 15 cP,bz cP,bC cP,bB cP,dq 17 (x.S).cols (x.S).rows,.map (bK (x.S).M),.cells [.int .i64 (x.S).cols,.int .i64 (x.S).rows,.map 19,.map 20,.map 21] 142 false false,.map (aj (x.S).A),.map (aj (x.S).B),.map (aj (x.S).C),aK 25 (cC bw x 6),.dead,aq (dY x),aq (cC bw x 6)])
 {HS:ai} {k:Nat}(hi:HS[0]? = some (aK k B)) (hk:HS[k]? = some (aq B)) (hS:(HS.drop 2).take 20=gh S) (h22:HS[22]? = some (aK 23 bw)) (h23:HS[23]? = some (aq bw)) (hd:(k==1||Nat.ble 24 k)=true) {N:Nat}(hN:HS.length=N) {HS':ai}(hh:bQ HS [0,k,2,3,4,5,6,7,8,9,10,11,12,13,14,15,16,17,18,19,20,21,22,23] [aK N (dY x),.dead,fv (x.S),cK 4 8 12,aI 5 6 7 cM,bz cM,bC cM,bB cM,aI 9 10 11 cZ,bz cZ,bC cZ,bB cZ,aI 13 14 15 cP,bz cP,bC cP,bB cP,dq 17 (x.S).cols (x.S).rows,.map (bK (x.S).M),.cells [.int .i64 (x.S).cols,.int .i64 (x.S).rows,.map 19,.map 20,.map 21] 142 false false,.map (aj (x.S).A),.map (aj (x.S).B),.map (aj (x.S).C),aK (N+1) (cC bw x 6),.dead,aq (dY x),aq (cC bw x 6)]=HS') (hbd:Nat.blt (N+2) Mem.bound=true) :
 aC.Sound Tryz.prog ⟨115,[.one (.ptr 2 0),.one (.ptr 0 0),.one (.ptr 22 0),.one (.int .i64 mb),.agg (mC m)],HS,.one (.int .i64 0),HS',(0::k::cf)++[22,23]⟩:=by
 subst hh
 exact Bc hc hi hk hS h22 h23 hd hN hbd
theorem kR{B bw:List Bool}{S:bO}{m:Mb}{mb:Int}(hc:aW Tryz.prog 115 [.one (.ptr 2 0),.one (.ptr 0 0),.one (.ptr 22 0),.one (.int .i64 mb),.agg (mC m)] [aK 1 B,aq B,fv (S),cK 4 8 12,aI 5 6 7 cM,bz cM,bC cM,bB cM,aI 9 10 11 cZ,bz cZ,bC cZ,bB cZ,aI 13 14 15 cP,bz cP,bC cP,bB cP,dq 17 (S).cols (S).rows,.map (bK (S).M),.cells [.int .i64 (S).cols,.int .i64 (S).rows,.map 19,.map 20,.map 21] 142 false false,.map (aj (S).A),.map (aj (S).B),.map (aj (S).C),aK 23 bw,aq bw] (.one (.int .i64 2)) lH)
 {HS:ai} {k:Nat}(hi:HS[0]? = some (aK k B)) (hk:HS[k]? = some (aq B)) (hS:(HS.drop 2).take 20=gh S) (h22:HS[22]? = some (aK 23 bw)) (h23:HS[23]? = some (aq bw)) (hd:(k==1||Nat.ble 24 k)=true) {N:Nat}(hN:HS.length=N) {HS':ai}(hh:bQ HS [0,k,2,3,4,5,6,7,8,9,10,11,12,13,14,15,16,17,18,19,20,21,22,23] [.dead,.dead,.dead,cK 4 8 12,aI 5 6 7 cM,bz cM,bC cM,bB cM,aI 9 10 11 cZ,bz cZ,bC cZ,bB cZ,aI 13 14 15 cP,bz cP,bC cP,bB cP,.dead,.dead,.dead,.dead,.dead,.dead,.dead,.dead]=HS') (hbd:Nat.blt N Mem.bound=true) :
 aC.Sound Tryz.prog ⟨115,[.one (.ptr 2 0),.one (.ptr 0 0),.one (.ptr 22 0),.one (.int .i64 mb),.agg (mC m)],HS,.one (.int .i64 2),HS',(0::k::cf)++[22,23]⟩:=by
 subst hh
 exact x9 hc hi hk hS h22 h23 hd hN hbd
theorem Ly{S:bO}{B bw:List Bool}{m:Mb}{mb:Int}(hP:jA S B bw m mb)(hk:m.kind=0) :
 aW Tryz.prog 83 [.one (.ptr 2 0),.one (.ptr 0 0),.one (.ptr 22 0),.one (.int .i64 mb),.agg (mC m)] [aK 1 B,aq B,fv (S),cK 4 8 12,aI 5 6 7 cM,bz cM,bC cM,bB cM,aI 9 10 11 cZ,bz cZ,bC cZ,bB cZ,aI 13 14 15 cP,bz cP,bC cP,bB cP,dq 17 (S).cols (S).rows,.map (bK (S).M),.cells [.int .i64 (S).cols,.int .i64 (S).rows,.map 19,.map 20,.map 21] 142 false false,.map (aj (S).A),.map (aj (S).B),.map (aj (S).C),aK 23 bw,aq bw] (.one (.int .i64 0)) [aK 24 ((B++aG S m)),.dead,fv (bk S mb m.v),cK 4 8 12,aI 5 6 7 cM,bz cM,bC cM,bB cM,aI 9 10 11 cZ,bz cZ,bC cZ,bB cZ,aI 13 14 15 cP,bz cP,bC cP,bB cP,dq 17 (bk S mb m.v).cols (bk S mb m.v).rows,.map (bK (bk S mb m.v).M),.cells [.int .i64 (bk S mb m.v).cols,.int .i64 (bk S mb m.v).rows,.map 19,.map 20,.map 21] 142 false false,.map (aj (bk S mb m.v).A),.map (aj (bk S mb m.v).B),.map (aj (bk S mb m.v).C),aK 25 bw,.dead,aq ((B++aG S m)),aq bw]:=by
 have hg:=hP.good
 have hm:=hg.ok
 have hD:=hP.st.dims
 have hmb:=hP.mb
 have hlen:=hP.len
 have hkl:=ej S m
 have hK:=gx B S m hm hg.kind hP.qp (by omega)
 rw[eg (by omega)]at hK
 have htE:c_ S.M:=hP.st.tiny
 refine cO Tryz.func83 ?_
 repeat' (first
  |(refine qz ?_;first
   |refine fV ?_ (hle:=by rw[aQ])
   |refine cl ?_ (hi:=by exact oI (S:=S) (S':=S) (bs:=B) (bs':=B++aG S m) (fun _ => .flat .nil) (.flat .nil) rfl hK rfl rfl rfl rfl nL nA rfl)
   |refine cl ?_ (hi:=by exact gH (S:=S) (bs:=(B++aG S m)) hD hmb rfl rfl rfl rfl nA rfl))
  |refine zz ?_|refine zx (fun _=>?_) (fun _=>?_)|fail)
 show aD _ _ _ _ _ _ _ _;refine kV [0,1,2,3,4,5,6,7,8,9,10,11,12,13,14,15,16,17,18,19,20,21,22,23,25,23] ?_
 rfl
theorem Lz{S:bO}{B bw:List Bool}{m:Mb}{mb:Int}(hP:jA S B bw m mb)(hk:m.kind=1)(x:oT)(hx:gm m mb ⟨bk (az m mb (S,B++aG S m) 0).1 mb m.v,(az m mb (S,B++aG S m) 0).2,0,0,fun _=>[]⟩ 6=some x) :
 aW Tryz.prog 83 [.one (.ptr 2 0),.one (.ptr 0 0),.one (.ptr 22 0),.one (.int .i64 mb),.agg (mC m)] [aK 1 B,aq B,fv (S),cK 4 8 12,aI 5 6 7 cM,bz cM,bC cM,bB cM,aI 9 10 11 cZ,bz cZ,bC cZ,bB cZ,aI 13 14 15 cP,bz cP,bC cP,bB cP,dq 17 (S).cols (S).rows,.map (bK (S).M),.cells [.int .i64 (S).cols,.int .i64 (S).rows,.map 19,.map 20,.map 21] 142 false false,.map (aj (S).A),.map (aj (S).B),.map (aj (S).C),aK 23 bw,aq bw] (.one (.int .i64 0)) [aK 24 (dY x),.dead,fv (x.S),cK 4 8 12,aI 5 6 7 cM,bz cM,bC cM,bB cM,aI 9 10 11 cZ,bz cZ,bC cZ,bB cZ,aI 13 14 15 cP,bz cP,bC cP,bB cP,dq 17 (x.S).cols (x.S).rows,.map (bK (x.S).M),.cells [.int .i64 (x.S).cols,.int .i64 (x.S).rows,.map 19,.map 20,.map 21] 142 false false,.map (aj (x.S).A),.map (aj (x.S).B),.map (aj (x.S).C),aK 25 (cC bw x 6),.dead,aq (dY x),aq (cC bw x 6)]:=by
 have hg:=hP.good
 have hm:=hg.ok
 have hD:=hP.st.dims
 have hmb:=hP.mb
 have hlen:=hP.len
 have hkl:=ej S m
 have hK:=gx B S m hm hg.kind hP.qp (by omega)
 rw[eg (by omega)]at hK
 have ht0:c_ (S.M):=hP.st.tiny
 have hl0:=e9 (m.v 0) (cN (S.M) S.cols S.rows mb 0)
 have htE:c_ (a_ (S.M) S.cols mb 0 (m.v 0)):=cg ht0 (hm.v 0)
 have hS2:f4 (bk (az m mb (S,B++aG S m) 0).1 mb m.v):=⟨hD,hP.st.lev,d9 htE hm.v⟩
 have hB2:((az m mb (S,B++aG S m) 0).2).length<=700000:=by
  show(((B++aG S m)++dt (m.v 0) (cN (S.M) S.cols S.rows mb 0))).length<=700000
  simp only[List.length_append,List.length_cons,List.length_nil]
  omega
 refine cO Tryz.func83 ?_
 repeat' (first
  |(refine qz ?_;first
   |refine fV ?_ (hle:=by rw[aQ])
   |refine cl ?_ (hi:=by exact oI (S:=S) (S':=S) (bs:=B) (bs':=B++aG S m) (fun _ => .flat .nil) (.flat .nil) rfl hK rfl rfl rfl rfl nL nA rfl)
   |refine cl ?_ (hi:=by exact ie (M:=S.M) (k:=0) ht0 hD hmb (by decide) (i:=16) (j:=17) rfl rfl (by decide) rfl)
   |refine cl ?_ (hi:=by exact ig (bs:=(B++aG S m)) (v:=m.v 0) (e:=cN (S.M) S.cols S.rows mb 0) (hm.v 0) (eo ht0) (hP.right 0 (by decide)) (by simp only[List.length_append];omega) rfl rfl (by decide) nL nA rfl)
   |refine cl ?_ (hi:=by exact eH (M:=S.M) (k:=0) (v:=m.v 0) hD hmb (by decide) (i:=16) (j:=17) rfl rfl (by decide) nA rfl)
   |refine cl ?_ (hi:=by exact gH (S:=(az m mb (S,B++aG S m) 0).1) (bs:=(az m mb (S,B++aG S m) 0).2) hD hmb rfl rfl rfl rfl nA rfl)
   |refine cl ?_ (hi:=by exact mr (B:=(az m mb (S,B++aG S m) 0).2) (S:=bk (az m mb (S,B++aG S m) 0).1 mb m.v) (mu ((az m mb (S,B++aG S m) 0).2) bw (bk (az m mb (S,B++aG S m) 0).1 mb m.v) m mb hg hS2 hmb hB2 (by have:=hP.lenw;omega) x hx) rfl rfl rfl rfl rfl rfl nL nA rfl))
  |refine WX.loop ?_|refine WX.round ?_|refine zz ?_|refine zx (fun _=>?_) (fun _=>?_)|fail)
 show aD _ _ _ _ _ _ _ _;refine kV [0,1,2,3,4,5,6,7,8,9,10,11,12,13,14,15,16,17,18,19,20,21,22,23,27,28] ?_
 rfl
theorem JX{S:bO}{B bw:List Bool}{m:Mb}{mb:Int}(hP:jA S B bw m mb)(hk:m.kind=1)(hx:gm m mb ⟨bk (az m mb (S,B++aG S m) 0).1 mb m.v,(az m mb (S,B++aG S m) 0).2,0,0,fun _=>[]⟩ 6=none) :
 aW Tryz.prog 83 [.one (.ptr 2 0),.one (.ptr 0 0),.one (.ptr 22 0),.one (.int .i64 mb),.agg (mC m)] [aK 1 B,aq B,fv (S),cK 4 8 12,aI 5 6 7 cM,bz cM,bC cM,bB cM,aI 9 10 11 cZ,bz cZ,bC cZ,bB cZ,aI 13 14 15 cP,bz cP,bC cP,bB cP,dq 17 (S).cols (S).rows,.map (bK (S).M),.cells [.int .i64 (S).cols,.int .i64 (S).rows,.map 19,.map 20,.map 21] 142 false false,.map (aj (S).A),.map (aj (S).B),.map (aj (S).C),aK 23 bw,aq bw] (.one (.int .i64 2)) lH:=by
 have hg:=hP.good
 have hm:=hg.ok
 have hD:=hP.st.dims
 have hmb:=hP.mb
 have hlen:=hP.len
 have hkl:=ej S m
 have hK:=gx B S m hm hg.kind hP.qp (by omega)
 rw[eg (by omega)]at hK
 have ht0:c_ (S.M):=hP.st.tiny
 have hl0:=e9 (m.v 0) (cN (S.M) S.cols S.rows mb 0)
 have htE:c_ (a_ (S.M) S.cols mb 0 (m.v 0)):=cg ht0 (hm.v 0)
 have hS2:f4 (bk (az m mb (S,B++aG S m) 0).1 mb m.v):=⟨hD,hP.st.lev,d9 htE hm.v⟩
 have hB2:((az m mb (S,B++aG S m) 0).2).length<=700000:=by
  show(((B++aG S m)++dt (m.v 0) (cN (S.M) S.cols S.rows mb 0))).length<=700000
  simp only[List.length_append,List.length_cons,List.length_nil]
  omega
 refine cO Tryz.func83 ?_
 repeat' (first
  |(refine qz ?_;first
   |refine fV ?_ (hle:=by rw[aQ])
   |refine cl ?_ (hi:=by exact oI (S:=S) (S':=S) (bs:=B) (bs':=B++aG S m) (fun _ => .flat .nil) (.flat .nil) rfl hK rfl rfl rfl rfl nL nA rfl)
   |refine cl ?_ (hi:=by exact ie (M:=S.M) (k:=0) ht0 hD hmb (by decide) (i:=16) (j:=17) rfl rfl (by decide) rfl)
   |refine cl ?_ (hi:=by exact ig (bs:=(B++aG S m)) (v:=m.v 0) (e:=cN (S.M) S.cols S.rows mb 0) (hm.v 0) (eo ht0) (hP.right 0 (by decide)) (by simp only[List.length_append];omega) rfl rfl (by decide) nL nA rfl)
   |refine cl ?_ (hi:=by exact eH (M:=S.M) (k:=0) (v:=m.v 0) hD hmb (by decide) (i:=16) (j:=17) rfl rfl (by decide) nA rfl)
   |refine cl ?_ (hi:=by exact gH (S:=(az m mb (S,B++aG S m) 0).1) (bs:=(az m mb (S,B++aG S m) 0).2) hD hmb rfl rfl rfl rfl nA rfl)
   |refine cl ?_ (hi:=by exact kR (B:=(az m mb (S,B++aG S m) 0).2) (S:=bk (az m mb (S,B++aG S m) 0).1 mb m.v) (kS ((az m mb (S,B++aG S m) 0).2) bw (bk (az m mb (S,B++aG S m) 0).1 mb m.v) m mb hg hS2 hmb hB2 (by have:=hP.lenw;omega) hx) rfl rfl rfl rfl rfl rfl nL nA rfl))
  |refine WX.loop ?_|refine WX.round ?_|refine zz ?_|refine zx (fun _=>?_) (fun _=>?_)|fail)
 show aD _ _ _ _ _ _ _ _;refine kV [0,1,2,3,4,5,6,7,8,9,10,11,12,13,14,15,16,17,18,19,20,21,22,23] ?_
 rfl
end Go.Proofs.YtnkodcmkpfefhaaGreat
