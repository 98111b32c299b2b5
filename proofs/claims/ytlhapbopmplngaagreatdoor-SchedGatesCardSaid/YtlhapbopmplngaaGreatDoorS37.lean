import Derived.Test.YtlhapbopmplngaaGreatDoorS36
set_option linter.all false
set_option maxHeartbeats 16000000
set_option maxRecDepth 100000
set_option autoImplicit true
set_option relaxedAutoImplicit true
namespace Go.Proofs.YtlhapbopmplngaaGreatDoor
open Go.RowKit Go.Lk
def ZgM {last:Int} {gl:List (Value×ZE)} (h:YA b last gl w F) (hml:∀p∈gl,p.2.members.length≤1000000) (id:Int) (hq:gl.findIdx? (fun p=>p.2.members.contains id)=none):
  Calls Tryz.prog 209 #[.pointer (some ⟨b,0,none⟩), .int .i64 id] w fun e w'=>e= .returned (.tuple #[.int .i64 0, .bool false, .bool false])∧Zg [] w w':=by
 obtain⟨m,g,a,c⟩:=Kc w (.cells #[.int .i64 id] 3)
 have i:=(Z0 _ _ _).upd h a
 have q:=Zc0 i hml id
 rw[Yi hq]at q
 have n:=Jx 0 c
 have k:=D q
 clear q hq h i c hml;change Hid _ at g a
 go_in
 go_upto_region 1 with fail
 rw[←g.out]
 go_wp2_with fail
 refine k.out.mono ?_
 rintro e l ⟨rfl,d⟩
 have j:=Jt a d
 clear d
 go_wp2_with fail
 go_ret3
 exact⟨rfl,j.out⟩
def ZjB (b:Nat) (P:Ym) (lk:Option Nat) (s:Ze) (va:Value) (w:World) (F:List Nat) (e:Ending) (w':World):Prop:=
 e= .returned (.tuple #[])∧∃qps' vp' vl' F',Zh w' b {P with qps:=qps'} lk s va vp' vl' F'∧Zi w w' F F'
def ZkY (h:Zh w b P lk s va vp vl F) (hfit:ZQ s n m) (hs:Lk.Safe s) (hn:n≤900000) {i p:Nat} (hp:P.fps[i]? =some p) (hf:s.all[i]? =some f):
  Calls Tryz.prog 134 #[.pointer (some ⟨b,0,none⟩), .pointer (some ⟨p,0,none⟩)] w (ZjB b P lk (leaveS s ((i:Int)+1)) va w F):=by
 obtain⟨R,H⟩:=Je (leaveS s ((i:Int)+1))
 rw[←H]
 have ad:f.id=(i:Int)+1:=hs.1 i f hf
 obtain⟨vh,lb,vb,hb,aE⟩:=h.fcell hp hf
 have aO:=Jx 16 hb
 obtain⟨aK,F1,h1,g1⟩:=h.setFCell hp hf 16 (.int .i64 0) {f with pre:=0} (fun _ _ _ _=>rfl) rfl rfl rfl
 obtain⟨w1,Z⟩:=Je (w.setCell ⟨p,16,none⟩ (.int .i64 0))
 rw[←Z]at h1 g1
 have ab:=ZM (f':={f with pre:=0}) hf
 obtain⟨w2,Q⟩:=Je w1.drew
 have N:=Jd Q
 have I:=h1.upd0 N
 obtain⟨aQ,aM,aN,ai,_⟩:=I.fcell hp ab
 have S:w2.cell? ⟨p,0,none⟩=some (.int .i64 ((i:Int)+1)):=by rw[←ad];exact Zf (i:=0) ai rfl
 have O:=Jx 14 I.blk.1
 obtain⟨K,G,al,hg,aF,ap⟩:=I.shares
 have E:K.map (·.2)=s.shares:=al
 have aA:K.length≤1000000:=by have:=congrArg List.length E;rw[Xb]at this;have:=hfit.sn;omega
 have an:∀q∈K,q.2.members.length≤1000000:=fun q y=>by
  have r:q.2∈s.shares:=by rw[←E];exact List.mem_map_of_mem y
  have:=Zf4 r;have:=hfit.sh;omega
 have az:K.findIdx? (fun q=>q.2.members.contains ((i:Int)+1))=s.shares.findIdx? (fun o=>o.members.contains ((i:Int)+1)):=by
  rw[←E,List.findIdx?_map];rfl
 have H2:=D I;have HP:=D hp;have T:=D hf;have aI:=D ab;have G1:=D g1;have Y:=D hfit;have HS:=D hs
 have HG:=D hg;have aG:=D ap;have am:=D E;have ar:=D az;have aw:=D an
 clear h hfit hs hf hp hb ai aE h1 g1 ab I al E hg aF ap az an;change Hid _ at Z Q N H ad
 go_in
 go_upto_region 1 with fail
 rw[←Z.out]
 refine ZR [(0,0),(1,0),(2,0),(3,0),(4,0),(5,0),(6,0),(7,0),(8,2),(9,0),(10,0),(11,0),(12,0),(13,0),(14,0),(15,0)] (fun W=>W.cell? ⟨b,14,none⟩=some (.pointer (some ⟨P.shares,0,none⟩))∧W.cell? ⟨p,0,none⟩=some (.int .i64 ((i:Int)+1))) (by kernel_rfl) (by kernel_rfl) (fun c a w t v h=>by cases t<;>exact h) (by rw[Q.out]at O S;exact⟨O,S⟩) ?_
 repeat first|refine Jn ?_|refine Jf ?_|refine Ju ?_
 refine JL ?_
 simp only[Xu]
 rw[←Q.out]
 go_wp2_with fail
 cases y:s.shares.findIdx? (fun o=>o.members.contains ((i:Int)+1))with
 |none=>
  have L:=D (H.trans (Zll T y))
  refine(ZgM HG aw _ (by rw[ar.out];exact y)).mono ?_
  rintro e w3 ⟨rfl,ax⟩
  have ay:=D ax
  clear ax O S y
  go_wp2_with fail
  refine⟨fun _=>True,trivial,?_⟩
  repeat first|refine Jn ?_|refine Jf ?_|refine Ju ?_
  refine ZK ?_
  go_wp2_with fail
  (try simp only[Exit.inBlock,Exit.then])
  first|refine bodyPost_ret (results_none rfl _ _ _) rfl ?_|refine bodyPost_end (results_none rfl _ _ _) rfl ?_
  rw[L.out]
  exact⟨rfl,P.qps,vp,vl,_,H2.upd0 ay,(G1.upd0 N).upd0 ay⟩
 |some k=>
  obtain⟨o,ho⟩:∃o,s.shares[k]? =some o:=⟨_,Xa (Yv y)⟩
  obtain⟨d,aH,rfl⟩:∃d,K[k]? =some d∧d.2=o:=by
   have e:=congrArg (fun l=>l[k]?) am.out
   rw[ho]at e
   simp only[Xe,Option.map_eq_some_iff]at e
   exact e
  refine(ZgV HG aA aw _ (by rw[ar.out];exact y) aH).mono ?_
  rintro e w3 ⟨aC,G3,rfl,ag,gg3,af⟩
  obtain⟨F3,r,g3⟩:=aG.out w3 aC s.slast G3 ag gg3
  rw[af,am.out]at r
  have HQ:=D y;have HO:=D ho
  have aq:=D ((G1.upd0 N).trans g3)
  clear y ho ag gg3 af O S g3
  by_cases z:0<(d.2.members.filter fun x=> !(x==((i:Int)+1))).length
  ·have L:=D (H.trans (Zlc T HQ HO z))
   rw[if_pos z]at r
   have J:=D r
   have C:(d.2.members.filter fun x=> !(x==((i:Int)+1))).isEmpty=false:=by rw[List.isEmpty_eq_false_iff];intro e;rw[e]at z;simp at z
   rw[C]
   clear r z C
   go_wp2_with fail
   refine⟨fun _=>True,trivial,?_⟩
   repeat first|refine Jn ?_|refine Jf ?_|refine Ju ?_
   refine ZK ?_
   go_wp2_with fail
   (try simp only[Exit.inBlock,Exit.then])
   first|refine bodyPost_ret (results_none rfl _ _ _) rfl ?_|refine bodyPost_end (results_none rfl _ _ _) rfl ?_
   rw[L.out]
   exact⟨rfl,P.qps,vp,vl,_,J.out,aq.out⟩
  ·obtain⟨x0,ah,aj⟩:=HS.out.2.fl d.2 (Xc HO)
   obtain⟨x,hx⟩:∃x,s.pres.find? (fun p=>p.num==d.2.num)=some x:=by
    cases hc:s.pres.find? (fun p=>p.num==d.2.num)with
    |some x=>exact⟨x,rfl⟩
    |none=>exact absurd (List.find?_eq_none.1 hc x0 ah) (by simp[aj])
   have L:=D (H.trans (ZlS T HQ HO z hx))
   rw[if_neg z]at r
   obtain⟨j,hj,av,au⟩:=Zia hx
   have C:(d.2.members.filter fun x=> !(x==((i:Int)+1))).isEmpty=true:=by rw[List.isEmpty_iff];exact List.eq_nil_of_length_eq_zero (by omega)
   rw[C]
   have V:=D hj;have aD:=D (show x.num=d.2.num by simpa using av);have aB:=D au;have J:=D r
   clear r z C ah aj hx hj av au
   go_wp2_with fail
   refine⟨fun _=>True,trivial,?_⟩
   repeat first|refine Jn ?_|refine Jf ?_|refine Ju ?_
   refine ZK ?_
   obtain⟨qk,ao⟩:=J.qp V.out
   have ac:=D ao
   clear ao
   go_upto_region 3 with fail
   go_wp2_with fail
   refine(Zgh J (Xj Y.pres (by omega)) ac V _ aD aB).mono ?_
   rintro e W ⟨rfl,hW⟩
   rw[hW]
   clear hW W
   go_upto_region 4 with fail
   obtain⟨w4,M⟩:=Je w3.drew
   have aa:=Jd M
   have X:=J.upd0 aa
   obtain⟨aL,aP,aJ,ak,_⟩:=X.fcell HP aI.out
   have k0:w4.cell? ⟨p,0,none⟩=some (.int .i64 ((i:Int)+1)):=by rw[←ad.out];exact Zf (i:=0) ak rfl
   have k2:w4.cell? ⟨qk,2,none⟩=some (.int .i64 x.conn):=Zf (i:=2) (X.flight ac V).1 rfl
   have H4:=D X;have G4:=D (aq.upd0 aa)
   clear X aa ak;change Hid _ at M
   refine ZR [(0,0),(1,0),(2,0),(3,0),(4,0),(5,0),(6,0),(7,0),(8,0),(9,0),(10,0),(11,2)] (fun W=>W.cell? ⟨p,0,none⟩=some (.int .i64 ((i:Int)+1))∧W.cell? ⟨qk,2,none⟩=some (.int .i64 x.conn)) (by kernel_rfl) (by kernel_rfl) (fun c a w t v h=>by cases t<;>exact h) (by rw[M.out]at k0 k2;exact⟨k0,k2⟩) ?_
   repeat first|refine Jn ?_|refine Jf ?_|refine Ju ?_
   refine JL ?_
   simp only[Xu]
   rw[←M.out]
   go_wp2_with fail
   refine(Y0 H4 (Xj Y.log (by omega)) _ _ _ _ _ _ _).mono ?_
   rintro e w5 ⟨rfl,aS,F5,h5,g5⟩
   have H5:=D h5;have G5:=D (G4.trans g5)
   clear h5 g5 k0 k2
   go_wp2_with fail
   refine Jz ?_
   go_wp2_with fail
   have ae:ZQ (ZI {s with all:=s.all.set i {f with pre:=0},shares:=s.shares.eraseIdx k} 7 ((i:Int)+1) d.2.num x.conn 13) (n+1) m:=by
    have a:=Y.setF ((i:Int)+1) (g:=fun f=>{f with pre:=0}) (fun f hf=>hf.upd rfl hf.since hf.body rfl)
    rw[YQ T.out]at a
    have c:=a.sharesDel k
    rw[Z7]at c
    exact c.tell _ _ _ _ _
   refine(Zeb (x:=x) H5 ae (by omega) ac V HS.out.2.pn false).mono ?_
   rintro e w6 ⟨rfl,aR,F6,h6,g6,_,_⟩
   have H6:=D h6;have G6:=D (G5.trans g6)
   clear h6 g6 ae
   go_wp2_with fail
   (try simp only[Exit.inBlock,Exit.then])
   first|refine bodyPost_ret (results_none rfl _ _ _) rfl ?_|refine bodyPost_end (results_none rfl _ _ _) rfl ?_
   rw[L.out]
   exact⟨rfl,_,_,_,_,H6.out,G6.out⟩
def Zi9 (w:World):Calls Tryz.prog 133 #[.pointer none] w fun e w'=>e= .returned (.bool false)∧Zg [] w w':=by
 obtain⟨c,a,b⟩:=Kb w (.cells #[.pointer none] 92)
 have d:c.cell? ⟨w.heap.size,0,none⟩=some (.pointer none):=by rw[a];exact Zf (i:=0) (Za _) rfl
 change Hid _ at a b
 go_in
 go_upto_region 1 with fail
 rw[←a.out]
 go_wp2_with fail
 go_ret
 exact⟨rfl,b.out⟩
def Zox (h:Zao vb o w G):
  Calls Tryz.prog 133 #[vb] w fun e w'=>∃r,e= .returned (.bool r)∧Zao vb (o.map Za4) w' G∧Zg G w w':=by
 cases o with
 |none=>
  obtain⟨rfl,rfl⟩:=h
  refine(Zi9 w).mono ?_
  rintro e w' ⟨rfl,i⟩
  exact⟨_,rfl,⟨rfl,rfl⟩,i⟩
 |some s=>
  obtain⟨l,b,t,H,L,rfl,rfl,y,n,h,q⟩:=h
  by_cases g:s.state=3
  ·rw[if_pos g]at h
   refine(Zhx h).mono ?_
   rintro e w' ⟨rfl,j,i⟩
   obtain⟨x,m⟩:=q g
   have z:Za4 s=s:=by unfold Za4;obtain⟨a,c,d,e,f⟩:=s;simp only at g x m;simp[g,x,m]
   refine⟨_,rfl,?_,i.weaken (by simp)⟩
   show Zao _ (some (Za4 s)) w' _
   rw[z]
   exact⟨l,b,t,H,L,rfl,rfl,y,n,by rw[if_pos g];exact j,q⟩
  ·rw[if_neg g]at h
   refine(ZpN h).mono ?_
   rintro e w' ⟨rfl,j,i⟩
   refine⟨_,rfl,⟨l,b,t,H,L,rfl,rfl,y,n,?_,fun _=>⟨rfl,rfl⟩⟩,i.weaken (fun k p=> .inr (by simp at p⊢;rcases p with h|h<;>simp[h]))⟩
   exact j
structure Zb9 (w:World) (bf bt bs p b:Nat) (st:Int) (F:List Nat):Prop where
 f:w.heap[bf]? =some (.cells #[.pointer (some ⟨p,0,none⟩)] 90 (0,0))
 t:w.heap[bt]? =some (.cells #[.int .i64 st] 3 (0,0))
 s:w.heap[bs]? =some (.cells #[.pointer (some ⟨b,0,none⟩)] 22 (0,0))
 nf:bf∉F
 nt:bt∉F
 ns:bs∉F
def Zb9.step {bf bt bs p b:Nat} {st:Int} (h:Zb9 w bf bt bs p b st F) (g:Zi w w1 F F1):Zb9 w1 bf bt bs p b st F1:=by
 obtain⟨j,e⟩:=g.off (Jg h.f) h.nf
 obtain⟨c,d⟩:=g.off (Jg h.t) h.nt
 obtain⟨i,a⟩:=g.off (Jg h.s) h.ns
 exact⟨j.trans h.f,c.trans h.t,i.trans h.s,e,d,a⟩
def Zb9.upd0 {bf bt bs p b:Nat} {st:Int} (h:Zb9 w bf bt bs p b st F) (hu:Zg [] w w1):Zb9 w1 bf bt bs p b st F:=
 h.step ⟨hu.weaken (by simp),fun k hk=> .inl hk⟩
def Zb9.cells {bf bt bs p b:Nat} {st:Int} (h:Zb9 w bf bt bs p b st F):
  w.cell? ⟨bf,0,none⟩=some (.pointer (some ⟨p,0,none⟩))∧w.cell? ⟨bt,0,none⟩=some (.int .i64 st)∧w.cell? ⟨bs,0,none⟩=some (.pointer (some ⟨b,0,none⟩)):=
 ⟨Zf (i:=0) h.f rfl,Zf (i:=0) h.t rfl,Zf (i:=0) h.s rfl⟩
def Zfm {P:Prop}(h:P:=by
 go_upto_region 11 with fail
 obtain⟨K,H⟩:=Je aI.drew
 have G:=Jd H
 have g:=aM.upd0 G
 have d:=aR.upd0 G
 obtain⟨vh,Z,vb,y,_⟩:=g.fcell E Y.out
 have C:K.cell? ⟨bt,0,none⟩=some (.int .i64 st):=d.cells.2.1
 have r:K.cell? ⟨bs,0,none⟩=some (.pointer (some ⟨b,0,none⟩)):=d.cells.2.2
 have T:=Jx 8 g.blk.1
 have Q:=Jx 7 g.blk.1
 have M:=D g;have ai:=D d
 clear g d y;change Hid _ at H G
 refine Jr [0,4,8,12,16,20,24,28,32,40,44,37,50] (fun W=>W.cell? ⟨bt,0,none⟩=some (.int .i64 st)∧W.cell? ⟨bs,0,none⟩=some (.pointer (some ⟨b,0,none⟩))∧W.cell? ⟨b,8,none⟩=some (.pointer (some ⟨P.pool,0,none⟩))∧W.cell? ⟨b,7,none⟩=some (.pointer (some ⟨P.clock,0,none⟩))) (by rw[H.out]at C r T Q;exact⟨C,r,T,Q⟩) ?_
 repeat first|refine Jn ?_|refine Jf ?_|refine Ju ?_
 refine JE ?_
 simp only[Xu]
 rw[←H.out]
 go_wp2_with fail
 refine(Zbm M.clock.1).mono ?_
 rintro e W ⟨rfl,z⟩
 rw[z]
 clear z W
 go_wp2_with fail
 refine⟨_,fun W z=>z,⟨C,r,T,Q⟩,?_⟩
 refine JL ?_
 go_wp2_with fail
 obtain⟨GP,aN,a3,aG⟩:=M.pool
 refine(ZjV aN f.conn t.now _ b4).mono ?_
 rintro e af ⟨cg,rfl,ci,ay,aD⟩
 obtain⟨b2,V,J⟩:=aG af _ _ ay aD
 have aK:=D V;have aJ:=D (ai.step J);have aO:=D ((aS.upd0 G).trans J)
 clear C r T Q V J aN a3 aG ay aD ai M H G
 go_wp2_with fail
 refine Jz ?_
 obtain⟨cj,ce,aX,cm,ch,ac,_,ar⟩:=aK.fetch E Y.out
 have a4:af.cell? ⟨p,18,none⟩=some aX:=Zf (i:=18) ac.blk rfl
 have j:=aJ.cells.1
 have ad:=D ac;have ap:=D ar
 clear ac ar
 go_upto_region 12 with fail
 go_wp2_with fail
 refine(Zox ad.body).mono ?_
 rintro e bh ⟨rs,rfl,aA,aF⟩
 obtain⟨aQ,aC⟩:=ad.setBody (f.body.map Za4) aF aA
 obtain⟨cu,ag,ae⟩:=ap.out bh _ (some i) _ _ _ _ _ (fun _ _=>rfl) aQ aC
 have ab:=ZM (f':={f with state:=goL f.state st,body:=f.body.map Za4}) Y.out
 obtain⟨cd,ck,cn,au,_⟩:=ag.fcell E ab
 have al:=Jx 17 au
 have aP:=aJ.step ae
 have co:=aP.cells.1
 obtain⟨cF,cA,ah,aL⟩:=ag.setFCell E ab 17 (.int .i64 0) {f with state:=goL f.state st,body:=f.body.map Za4,conn:=0} (fun _ _ _ _=>rfl) rfl rfl rfl
 rw[List.set_set]at ah
 have ba:=D ah;have a6:=D ((aO.trans ae).trans aL)
 clear ag ae ah aL aQ aC aA aF ab au aP j a4 ad ap
 go_wp2_with fail
 (try simp only[Exit.inBlock,Exit.then])
 first|refine bodyPost_ret (results_none rfl _ _ _) rfl ?_|refine bodyPost_end (results_none rfl _ _ _) rfl ?_
 rw[S.out]
 exact⟨rfl,P.qps,vp,am,_,ba.out,a6.out⟩):P:=h
def ZlD (h:Zh w b P (some i) s va vp vl F) (hfit:ZQ s n m) (hs:Lk.Safe s) (hn:n≤800000) (hm:m≤900000) (hp:P.fps[i]? =some p) (hf:s.all[i]? =some f)
  (st:Int) (hst:6≤st∧st≤10) {bf bt bs:Nat} (hbox:Zb9 w bf bt bs p b st F):
  Calls Tryz.prog 127 #[.pointer (some ⟨bf,0,none⟩), .pointer (some ⟨bt,0,none⟩), .pointer (some ⟨bs,0,none⟩)] w (ZjB b P (some i) (Zc8 s i f st) va w F):=by
 obtain⟨R,bc⟩:=Je (Zc8 s i f st)
 rw[←bc]
 have aW:=D (hs.1 i f hf)
 have H0:=D h;have B0:=D hbox;have E:=D hp;have HF:=D hf;have N:=D hfit;have HS:=D hs
 have an:=D (ZM (f':={f with state:=goL f.state st}) hf)
 obtain⟨b1,bS,bm,_⟩:=(h.upd0 ((Zg.refl [] w).drew)).life hp hf
 have bo:=D bm
 have bX:=D bS
 obtain⟨fs,O⟩:=Je f.state
 clear h hfit hs hp hf hbox bm bS;change Hid _ at bc O
 go_in
 go_upto_region 0 with fail
 obtain⟨w1,aa⟩:=Je w.drew
 have aU:=Jd aa
 have g:=H0.upd0 aU
 have d:=B0.upd0 aU
 obtain⟨vh,Z,vb,y,_⟩:=g.fcell E HF.out
 have j:w1.cell? ⟨bf,0,none⟩=some (.pointer (some ⟨p,0,none⟩)):=d.cells.1
 have X:w1.cell? ⟨p,12,none⟩=some (.pointer (some ⟨b1,0,none⟩)):=by rw[aa];exact bX.out
 have al:=Jx 17 y
 have bY:=D g;have bE:=D d
 clear g d y;change Hid _ at aa aU
 refine Jr [0,4,8,12,20,24,28,32,17,36,40] (fun W=>W.cell? ⟨bf,0,none⟩=some (.pointer (some ⟨p,0,none⟩))∧W.cell? ⟨p,12,none⟩=some (.pointer (some ⟨b1,0,none⟩))∧W.cell? ⟨p,17,none⟩=some (.int .i64 f.conn)) (by rw[aa.out]at j X al;exact⟨j,X,al⟩) ?_
 repeat first|refine Jn ?_|refine Jf ?_|refine Ju ?_
 refine JE ?_
 simp only[Xu]
 rw[←aa.out]
 go_wp2_with fail
 have aZ:=Za0 bo.out
 rw[←aa.out,←O.out]at aZ
 refine aZ.mono ?_
 rintro e W ⟨rfl,z⟩
 rw[←z]
 clear z W
 go_wp2_with fail
 refine⟨_,fun W z=>z,⟨j,X,al⟩,?_⟩
 repeat first|refine Jn ?_|refine Jf ?_|refine Ju ?_
 refine ZK ?_
 clear j X al aZ
 go_upto_region 1 with fail
 have B1:=D bE.out;have H1:=D bY.out;have G1:=D (Zi.mk (aU.weaken (by simp)) (fun k hk=> .inl hk):Zi w w1 F F)
 clear bE bY
 obtain⟨b6,bq,bj,bJ⟩:=(H1.upd0 ((Zg.refl [] w1).drew)).life E HF.out
 have bi:=D bj;have bz:=D bJ;have bC:=D bq
 clear bj bJ bq bo bX aa
 obtain⟨w2,aj⟩:=Je w1.drew
 have aw:=Jd aj
 have g:=H1.upd0 aw
 have d:=B1.upd0 aw
 obtain⟨vh,Z,vb,y,_⟩:=g.fcell E HF.out
 have j:w2.cell? ⟨bf,0,none⟩=some (.pointer (some ⟨p,0,none⟩)):=d.cells.1
 have X:w2.cell? ⟨p,12,none⟩=some (.pointer (some ⟨b6,0,none⟩)):=by rw[aj];exact bC.out
 have C:w2.cell? ⟨bt,0,none⟩=some (.int .i64 st):=d.cells.2.1
 have cD:=D g;have bw:=D d
 clear g d y;change Hid _ at aj aw
 refine Jr [0,4,8,12,16,22] (fun W=>W.cell? ⟨bf,0,none⟩=some (.pointer (some ⟨p,0,none⟩))∧W.cell? ⟨p,12,none⟩=some (.pointer (some ⟨b6,0,none⟩))∧W.cell? ⟨bt,0,none⟩=some (.int .i64 st)) (by rw[aj.out]at j X C;exact⟨j,X,C⟩) ?_
 repeat first|refine Jn ?_|refine Jf ?_|refine Ju ?_
 refine JL ?_
 simp only[Xu]
 go_wp2_with fail
 refine(ZcK bi st).mono ?_
 rintro e w3 ⟨rfl,b7,cb⟩
 obtain⟨F3,h3,g3⟩:=bz.out w3 _ b7 cb
 rw[←aj.out]at g3
 have H3:=D h3;have B3:=D (bw.step g3);have G3:=D ((G1.upd0 aw).trans g3)
 clear j X C h3 g3 b7 cb bi bz bC bw cD aj aw H1 B1 G1
 go_wp2_with fail
 refine Jz ?_
 go_upto_region 2 with fail
 obtain⟨w4,az⟩:=Je w3.drew
 have aB:=Jd az
 have g:=H3.upd0 aB
 have d:=B3.upd0 aB
 obtain⟨vh,Z,vb,y,_⟩:=g.fcell E an.out
 have j:w4.cell? ⟨bf,0,none⟩=some (.pointer (some ⟨p,0,none⟩)):=d.cells.1
 have C:w4.cell? ⟨bt,0,none⟩=some (.int .i64 st):=d.cells.2.1
 have r:w4.cell? ⟨bs,0,none⟩=some (.pointer (some ⟨b,0,none⟩)):=d.cells.2.2
 have I:w4.cell? ⟨p,0,none⟩=some (.int .i64 ((i:Int)+1)):=by rw[←aW.out];exact Zf (i:=0) y rfl
 have b0:=D g;have bB:=D d
 clear g d y;change Hid _ at az aB
 refine ZR [(0,0),(1,0),(3,0),(4,0),(5,0),(6,0),(7,0),(2,1),(8,0),(9,2)] (fun W=>W.cell? ⟨bf,0,none⟩=some (.pointer (some ⟨p,0,none⟩))∧W.cell? ⟨bt,0,none⟩=some (.int .i64 st)∧W.cell? ⟨bs,0,none⟩=some (.pointer (some ⟨b,0,none⟩))∧W.cell? ⟨p,0,none⟩=some (.int .i64 ((i:Int)+1))) (by kernel_rfl) (by kernel_rfl) (fun c a w t v h=>by cases t<;>exact h) (by rw[az.out]at j C r I;exact⟨j,C,r,I⟩) ?_
 repeat first|refine Jn ?_|refine Jf ?_|refine Ju ?_
 refine JE ?_
 simp only[Xu]
 rw[←az.out]
 go_wp2_with fail
 refine(ZlE st w4 (by omega) (by omega)).mono ?_
 rintro e W ⟨rfl,z⟩
 rw[z]
 clear z W
 go_wp2_with fail
 refine⟨_,fun W z=>z,⟨j,C,r,I⟩,?_⟩
 repeat first|refine Jn ?_|refine Jf ?_|refine Ju ?_
 refine JL ?_
 go_wp2_with fail
 refine(Y0 b0 (by have:=N.log;dsimp only;omega) _ _ _ _ _ _ _).mono ?_
 rintro e w5 ⟨rfl,am,F5,h5,g5⟩
 have H5:=D h5;have B5:=D (bB.step g5);have G5:=D ((G3.upd0 aB).trans g5)
 clear j C r I h5 g5 bB b0 az aB H3 B3 G3
 go_wp2_with fail
 refine Jz ?_
 go_upto_region 3 with fail
 obtain⟨w6,av⟩:=Je w5.drew
 have aE:=Jd av
 have g:=H5.upd0 aE
 have d:=B5.upd0 aE
 obtain⟨vh,Z,vb,y,_⟩:=g.fcell E an.out
 have j:w6.cell? ⟨bf,0,none⟩=some (.pointer (some ⟨p,0,none⟩)):=d.cells.1
 have r:w6.cell? ⟨bs,0,none⟩=some (.pointer (some ⟨b,0,none⟩)):=d.cells.2.2
 have bg:=Jx 11 g.blk.1
 have be:=Jx 14 y
 have bW:=D g;have bM:=D d
 clear g d y;change Hid _ at av aE
 refine Jr [0,4,8,12,16,20,24,28,34] (fun W=>W.cell? ⟨bf,0,none⟩=some (.pointer (some ⟨p,0,none⟩))∧W.cell? ⟨bs,0,none⟩=some (.pointer (some ⟨b,0,none⟩))∧W.cell? ⟨b,11,none⟩=some (.pointer (some ⟨P.wheel,0,none⟩))∧W.cell? ⟨p,14,none⟩=some (.int .i64 f.timer)) (by rw[av.out]at j r bg be;exact⟨j,r,bg,be⟩) ?_
 repeat first|refine Jn ?_|refine Jf ?_|refine Ju ?_
 refine JL ?_
 simp only[Xu]
 rw[←av.out]
 go_wp2_with fail
 obtain⟨GW,b5,cq,bD⟩:=bW.wheel
 refine(Zkw b5 (Xj N.tm (by omega)) f.timer).mono ?_
 rintro e w7 ⟨cv,rfl,bK,bO⟩
 obtain⟨F7,h7,g7⟩:=bD w7 _ _ _ bK (Zi.of_upd bO)
 have H7:=D h7;have B7:=D (bM.step g7);have G7:=D ((G5.upd0 aE).trans g7)
 clear j r bg be h7 g7 bM bW av aE H5 B5 G5 b5 cq bD bK bO
 go_wp2_with fail
 refine Jz ?_
 go_upto_region 4 with fail
 obtain⟨w8,ax⟩:=Je w7.drew
 have aH:=Jd ax
 have g:=H7.upd0 aH
 have d:=B7.upd0 aH
 obtain⟨vh,Z,vb,y,_⟩:=g.fcell E an.out
 have j:w8.cell? ⟨bf,0,none⟩=some (.pointer (some ⟨p,0,none⟩)):=d.cells.1
 have r:w8.cell? ⟨bs,0,none⟩=some (.pointer (some ⟨b,0,none⟩)):=d.cells.2.2
 have a2:=Jx 12 g.blk.1
 have I:w8.cell? ⟨p,0,none⟩=some (.int .i64 ((i:Int)+1)):=by rw[←aW.out];exact Zf (i:=0) y rfl
 have a8:=D g;have bH:=D d
 clear g d y;change Hid _ at ax aH
 refine ZR [(0,0),(1,0),(2,0),(3,0),(4,0),(5,0),(6,0),(7,0),(8,2)] (fun W=>W.cell? ⟨bf,0,none⟩=some (.pointer (some ⟨p,0,none⟩))∧W.cell? ⟨bs,0,none⟩=some (.pointer (some ⟨b,0,none⟩))∧W.cell? ⟨b,12,none⟩=some (.pointer (some ⟨P.groups,0,none⟩))∧W.cell? ⟨p,0,none⟩=some (.int .i64 ((i:Int)+1))) (by kernel_rfl) (by kernel_rfl) (fun c a w t v h=>by cases t<;>exact h) (by rw[ax.out]at j r a2 I;exact⟨j,r,a2,I⟩) ?_
 repeat first|refine Jn ?_|refine Jf ?_|refine Ju ?_
 refine JL ?_
 simp only[Xu]
 rw[←ax.out]
 go_wp2_with fail
 obtain⟨L,GG,bU,a0,cE,bN⟩:=a8.groups
 have ak:L.map (·.2)=s.groups:=bU
 have a1:L.length≤1000000:=by have e:=congrArg List.length ak;rw[Xb]at e;have:=N.gl;omega
 have bb:∀q∈L,q.2.members.length≤1000000:=fun q hq=>by
  have h3:q.2∈s.groups:=by rw[←ak];exact List.mem_map_of_mem hq
  have:=(N.gm _ h3).1;omega
 have aV:L.findIdx? (fun q=>q.2.members.contains ((i:Int)+1))=ofG s.groups ((i:Int)+1):=by
  unfold ofG;rw[←ak,List.findIdx?_map];rfl
 have bQ:Calls Tryz.prog 130 #[.pointer (some ⟨P.groups,0,none⟩), .int .i64 ((i:Int)+1)] w8 fun e w'=>∃v:Value,e= .returned v∧∃F9,Zh w' b P (some i) {{ZI {s with all:=s.all.set i {f with state:=goL f.state st}} (st-6+14) ((i:Int)+1) 0 f.conn 0 with timers:=s.timers.filter (fun x=>x.id !=f.timer)}with groups:=ZaQ s.groups ((i:Int)+1)} va vp am F9∧Zi w8 w' F7 F9:=by
  cases hq:ofG s.groups ((i:Int)+1)with
  |none=>
   refine(ZgG a0 a1 bb _ (by rw[aV];exact hq)).mono ?_
   rintro e w' ⟨rfl,hu⟩
   have e1:ZaQ s.groups ((i:Int)+1)=s.groups:=by unfold ZaQ;rw[hq]
   rw[e1]
   exact⟨_,rfl,_,a8.upd0 hu,Zi.mk (hu.weaken (by simp)) (fun k hk=> .inl hk)⟩
  |some k=>
   have cC:k<L.length:=Yv (aV.trans hq)
   have ca:=Xa cC
   have b8:s.groups[k]? =some L[k].2:=by rw[←ak,Xe,ca];rfl
   refine(Zgy a0 a1 bb _ (N.gm L[k].2 (Xc b8)).2 (aV.trans hq) ca).mono ?_
   rintro e w' ⟨rfl,v9,F9,cr,cz⟩
   obtain⟨cG,cJ,cy⟩:=bN w' _ _ cr cz
   refine⟨_,rfl,cG,?_,cy⟩
   have e1:ZaQ s.groups ((i:Int)+1)=(L.set k (v9,{L[k].2 with members:=L[k].2.members.erase ((i:Int)+1)})).map (·.2):=by
    unfold ZaQ;rw[hq];dsimp only;rw[b8];dsimp only;rw[List.map_set,ak]
   rw[e1]
   exact cJ
 refine bQ.mono ?_
 rintro e w9 ⟨cQ,rfl,F9,h9,g9⟩
 have H9:=D h9;have B9:=D (bH.step g9);have G9:=D ((G7.upd0 aH).trans g9)
 clear j r a2 I h9 g9 bH a8 ax aH H7 B7 G7 bU ak a1 bb aV bQ a0 cE bN
 go_wp2_with fail
 refine Jz ?_
 go_upto_region 5 with fail
 obtain⟨a9,aq⟩:=Je w9.drew
 have ao:=Jd aq
 have g:=H9.upd0 ao
 have d:=B9.upd0 ao
 obtain⟨vh,Z,vb,y,_⟩:=g.fcell E an.out
 have j:a9.cell? ⟨bf,0,none⟩=some (.pointer (some ⟨p,0,none⟩)):=d.cells.1
 have r:a9.cell? ⟨bs,0,none⟩=some (.pointer (some ⟨b,0,none⟩)):=d.cells.2.2
 have bd:=Jx 15 g.blk.1
 have I:a9.cell? ⟨p,0,none⟩=some (.int .i64 ((i:Int)+1)):=by rw[←aW.out];exact Zf (i:=0) y rfl
 have bP:=D g;have bn:=D d
 clear g d y;change Hid _ at aq ao
 refine ZR [(0,0),(1,0),(2,0),(3,0),(4,0),(5,0),(6,0),(7,0),(8,2)] (fun W=>W.cell? ⟨bf,0,none⟩=some (.pointer (some ⟨p,0,none⟩))∧W.cell? ⟨bs,0,none⟩=some (.pointer (some ⟨b,0,none⟩))∧W.cell? ⟨b,15,none⟩=some (.pointer (some ⟨P.book,0,none⟩))∧W.cell? ⟨p,0,none⟩=some (.int .i64 ((i:Int)+1))) (by kernel_rfl) (by kernel_rfl) (fun c a w t v h=>by cases t<;>exact h) (by rw[aq.out]at j r bd I;exact⟨j,r,bd,I⟩) ?_
 repeat first|refine Jn ?_|refine Jf ?_|refine Ju ?_
 refine JL ?_
 simp only[Xu]
 rw[←aq.out]
 go_wp2_with fail
 obtain⟨GB,b3,cp,bu⟩:=bP.book
 refine(Zpb b3 (Xj N.bk (by omega)) _).mono ?_
 rintro e aI ⟨rfl,cK,bp,bI⟩
 obtain⟨cw,a5,a7⟩:=bu aI _ _ bp bI
 have bV:∀(l:List Y4) (id:Int),(Zhk l id).1=Zg4 l id:=fun l id=>by unfold Zhk Zg4;cases l.findIdx? (fun o=>o.id==id)<;>rfl
 rw[bV]at a5
 obtain⟨t,ht⟩:=Je (overU s i f st)
 have bA:Zh aI b P (some i) t va vp am cw:=by rw[ht];exact a5
 have aT:=D ht
 have aM:=D bA;have aR:=D (bn.step a7);have aS:=D ((G9.upd0 ao).trans a7)
 have Y:=D (show t.all[i]? =some {f with state:=goL f.state st}by rw[ht];exact an)
 clear j r bd I a5 bA a7 bn bP aq ao H9 B9 G9 b3 cp bu bp bI bV ht an
 have b9:=D (show R=if f.state=2 then{t with queue:=dropQ t.queue ((i:Int)+1)}
  else if f.state=4∨f.state=5 then{t with pool:=giveP t.pool f.conn t.now (st==6),all:=t.all.set i {f with state:=goL f.state st,body:=f.body.map Za4,conn:=0}}
  else if f.state=3 then leaveS t ((i:Int)+1)
  else t by rw[bc.out,aT.out];rfl)
 have b4:=D (show t.now≤18446744073709551615 by rw[aT.out];exact N.now)
 have cI:=D (show t.queue.length≤1000000 by rw[aT.out];exact Xj N.q (by omega))
 go_wp2_with fail
 refine Jz ?_
 by_cases h2:fs=2
 ·have S:=D (b9.trans (if_pos (by rw[←O.out];exact h2)))
  go_upto_region 8 with fail
  obtain⟨K,H⟩:=Je aI.drew
  have G:=Jd H
  have g:=aM.upd0 G
  have d:=aR.upd0 G
  obtain⟨vh,Z,vb,y,_⟩:=g.fcell E Y.out
  have j:K.cell? ⟨bf,0,none⟩=some (.pointer (some ⟨p,0,none⟩)):=d.cells.1
  have r:K.cell? ⟨bs,0,none⟩=some (.pointer (some ⟨b,0,none⟩)):=d.cells.2.2
  have c9:=Jx 9 g.blk.1
  have I:K.cell? ⟨p,0,none⟩=some (.int .i64 ((i:Int)+1)):=by rw[←aW.out];exact Zf (i:=0) y rfl
  have M:=D g;have ai:=D d
  clear g d y;change Hid _ at H G
  refine ZR [(0,0),(1,0),(2,0),(3,0),(4,0),(5,0),(6,0),(7,0),(8,2)] (fun W=>W.cell? ⟨bf,0,none⟩=some (.pointer (some ⟨p,0,none⟩))∧W.cell? ⟨bs,0,none⟩=some (.pointer (some ⟨b,0,none⟩))∧W.cell? ⟨b,9,none⟩=some (.pointer (some ⟨P.queue,0,none⟩))∧W.cell? ⟨p,0,none⟩=some (.int .i64 ((i:Int)+1))) (by kernel_rfl) (by kernel_rfl) (fun c a w t v h=>by cases t<;>exact h) (by rw[H.out]at j r c9 I;exact⟨j,r,c9,I⟩) ?_
  repeat first|refine Jn ?_|refine Jf ?_|refine Ju ?_
  refine JL ?_
  simp only[Xu]
  rw[←H.out]
  go_wp2_with fail
  obtain⟨GQ,bT,cx,br⟩:=M.queue
  refine(ZfD bT cI _).mono ?_
  rintro e af ⟨rfl,cL,bv,bG⟩
  obtain⟨b2,V,J⟩:=br af _ _ bv bG
  have aK:=D V;have aO:=D ((aS.upd0 G).trans J)
  clear j r c9 I V J bT cx br bv bG
  go_wp2_with fail
  refine Jz ?_
  go_wp2_with fail
  (try simp only[Exit.inBlock,Exit.then])
  first|refine bodyPost_ret (results_none rfl _ _ _) rfl ?_|refine bodyPost_end (results_none rfl _ _ _) rfl ?_
  rw[S.out]
  exact⟨rfl,P.qps,vp,am,_,aK.out,aO.out⟩
 have aY:=D (b9.trans (if_neg (by rw[←O.out];exact h2)))
 by_cases h4:fs=4
 ·have S:=D (aY.trans (if_pos (by rw[←O.out];exact .inl h4)))
  exact Zfm
 by_cases h5:fs=5
 ·have S:=D (aY.trans (if_pos (by rw[←O.out];exact .inr h5)))
  exact Zfm
 have bL:=D (aY.trans (if_neg (by rw[←O.out];omega)))
 by_cases h3:fs=3
 ·have S:=D (bL.trans (if_pos (by rw[←O.out];exact h3)))
  have bl:ZQ t (n+1) m:=by rw[aT.out];exact N.overU HF st (by omega)
  have bF:Lk.Safe t:=by rw[aT.out];exact HS.overU HF st
  have cc:=D bl;have cl:=D bF
  have j:=aR.cells.1
  have r:=aR.cells.2.2
  clear bl bF
  go_upto_region 15 with fail
  go_wp2_with fail
  refine(ZkY aM cc cl (by omega) E Y).mono ?_
  rintro e K ⟨rfl,cM,cO,cN,cP,bR,bZ⟩
  have cB:=D bR;have cH:=D (aS.trans bZ)
  clear bR bZ j r
  go_wp2_with fail
  (try simp only[Exit.inBlock,Exit.then])
  first|refine bodyPost_ret (results_none rfl _ _ _) rfl ?_|refine bodyPost_end (results_none rfl _ _ _) rfl ?_
  rw[S.out]
  exact⟨rfl,_,_,_,_,cB.out,cH.out⟩
 have S:=D (bL.trans (if_neg (by rw[←O.out];exact h3)))
 go_wp2_with fail
 (try simp only[Exit.inBlock,Exit.then])
 first|refine bodyPost_ret (results_none rfl _ _ _) rfl ?_|refine bodyPost_end (results_none rfl _ _ _) rfl ?_
 rw[S.out]
 exact⟨rfl,P.qps,vp,am,_,aM.out,aS.out⟩
def Zd2 (h:Zh w b P none s va vp vl F) (hfit:ZQ s n m) (hs:Lk.Safe s) (hn:n≤800000) (hm:m≤900000) {i p:Nat} (hp:P.fps[i]? =some p) (hf:s.all[i]? =some f)
  (st:Int) (hst:6≤st∧st≤10):
  Calls Tryz.prog 67 #[.pointer (some ⟨b,0,none⟩), .pointer (some ⟨p,0,none⟩), .int .i64 st] w (ZjB b P none (overS s ((i:Int)+1) st) va w F):=by
 have ax:∀(fn:Fn) (first cap:Array Value) (w:World),(Instr.makeFunc fn first cap).run Tryz.prog w= .ok (.func fn first cap) w:=fun _ _ _ _=>rfl
 obtain⟨R,G⟩:=Je (overS s ((i:Int)+1) st)
 rw[←G]
 obtain⟨W,d⟩:=Je (((w.alloc (.cells #[.pointer (some ⟨b,0,none⟩)] 22)).alloc (.cells #[.pointer (some ⟨p,0,none⟩)] 90)).alloc (.cells #[.int .i64 st] 3))
 have K:Zg [] w W:=by rw[d];exact(((Zg.refl [] w).alloc _).alloc _).alloc _
 have x:=h.lt
 have l:=h.upd0 K
 have ag:W.heap[w.heap.size]? =some (.cells #[.pointer (some ⟨b,0,none⟩)] 22 (0,0)):=by rw[d,Zz _ (by simp;omega),Zz _ (by simp)];exact Za _
 have am:W.heap[w.heap.size+1]? =some (.cells #[.pointer (some ⟨p,0,none⟩)] 90 (0,0)):=by
  rw[d,Zz _ (by simp)]
  have:=Za (w:=w.alloc (.cells #[.pointer (some ⟨b,0,none⟩)] 22)) (.cells #[.pointer (some ⟨p,0,none⟩)] 90 (0,0));simpa using this
 have af:W.heap[w.heap.size+2]? =some (.cells #[.int .i64 st] 3 (0,0)):=by
  rw[d]
  have:=Za (w:=(w.alloc (.cells #[.pointer (some ⟨b,0,none⟩)] 22)).alloc (.cells #[.pointer (some ⟨p,0,none⟩)] 90)) (.cells #[.int .i64 st] 3 (0,0));simpa using this
 have ar:W.heap.size=w.heap.size+3:=by rw[d];simp
 have M:Zb9 W (w.heap.size+1) (w.heap.size+2) w.heap.size p b st F:=⟨am,af,ag,fun hm=>by have:=x _ hm;omega,fun hm=>by have:=x _ hm;omega,fun hm=>by have:=x _ hm;omega⟩
 obtain⟨vh,lb,vb,Gh,Gb,hA,ac,ai⟩:=l.fetch hp hf
 have cf:W.cell? ⟨w.heap.size+1,0,none⟩=some (.pointer (some ⟨p,0,none⟩)):=M.cells.1
 have ao:=D M;have C:=D hA;have aq:=D ai;have Z:=D hp;have z:=D hf;have ap:=D hfit;have HS:=D hs;have H1:=D l;have au:=D ac;have aw:=D x
 clear M hA ai hp hf hfit hs l h ag am af ac ar x;change Hid _ at K d G
 go_in
 go_upto_region 1 with fail
 rw[←d.out]
 have o:=fun(k:Nat) (v:Value) (y:(Zau f (none==some i) vh lb vb)[k]? =some v)=>(Zf (i:=k) C.blk (by simpa using y):W.cell? ⟨p,k,none⟩=some v)
 cases he:f.ended with
 |true=>
  have Y:=D (G.trans (ZiR z he st))
  go_wp2_with fail
  refine(ZdK ⟨p,19,none⟩ 1 rfl _ _ (o 19 _ (by unfold Zau;rw[he];rfl))).mono ?_
  rintro e w3 ⟨rfl,rfl⟩
  clear o
  go_wp2_with fail
  (try simp only[Exit.inBlock,Exit.then])
  first|refine bodyPost_ret (results_none rfl _ _ _) rfl ?_|refine bodyPost_end (results_none rfl _ _ _) rfl ?_
  rw[Y.out]
  exact⟨rfl,P.qps,vp,vl,F,H1.out,⟨K.weaken (by simp),fun k y=> .inl y⟩⟩
 |false=>
  have Y:=D (G.trans (ZlX z he st))
  go_wp2_with fail
  obtain⟨W1,I⟩:=Je (W.setCell ⟨p,20,none⟩ (.int .i32 1))
  have ak:=Kd I
  obtain⟨a1,g1⟩:=C.setBlk (f':={f with ended:=true}) (lk':=true) ak (by rw[I,Zd C.blk];unfold Zau;rw[he];rfl) rfl rfl rfl
  obtain⟨F1,l,Q⟩:=aq.out W1 {f with ended:=true} (some i) _ _ _ _ _ (fun j hj=>by
   have:¬i=j:=fun e=>hj e.symm
   simp[this]) (by simpa using a1) g1
  have H:=ZM (f':={f with ended:=true}) z.out
  have aa:ZQ {s with all:=s.all.set i {f with ended:=true}} n m:=by
   have a:=ap.setF ((i:Int)+1) (g:=fun f=>{f with ended:=true}) (fun f hf=>hf.upd rfl hf.since hf.body rfl)
   rw[YQ z.out]at a;exact a
  have ad:Lk.Safe {s with all:=s.all.set i {f with ended:=true}}:=by
   have a:=HS.setF ((i:Int)+1) (g:=fun f=>{f with ended:=true}) (fun f=>rfl)
   rw[YQ z.out]at a;exact a
  have N:=ZlD l aa ad hn hm Z H st hst (ao.step Q)
  rw[I]at N
  refine(Zdo p 19 127 #[.pointer (some ⟨w.heap.size+1,0,none⟩), .pointer (some ⟨w.heap.size+2,0,none⟩), .pointer (some ⟨w.heap.size,0,none⟩)] W (fun c=>∃q T S L,Zh c b {P with qps:=q} (some i) (Zc8 {s with all:=s.all.set i {f with ended:=true}} i {f with ended:=true} st) va T S L∧Zi (W.setCell ⟨p,20,none⟩ (.int .i32 1)) c F1 L)
   (o 19 _ (by unfold Zau;rw[he];rfl)) (o 20 _ rfl) (ZS C.blk) (ZS C.blk) (fun W=>Go.MuLone.run_callFunc_enter Tryz.func127 (by kernel_rfl) rfl _ _) (N.mono fun e c y=>y) ?_).mono ?_
  ·rintro c ⟨q,T,S,L,J,g'⟩
   obtain⟨f',r,V⟩:=Zjw (s0:={s with all:=s.all.set i {f with ended:=true}}) H st
   obtain⟨al,aj,ah,E,_⟩:=J.fcell (P:={P with qps:=q}) Z r
   refine⟨Zf (i:=19) E ?_,Zf (i:=20) E ?_,ZS E,ZS E⟩
   ·unfold Zau;simp
   ·unfold Zau;simp
  ·rintro e ay ⟨rfl,c,⟨q,T,S,L,J,g'⟩,rfl⟩
   obtain⟨f',r,V⟩:=Zjw (s0:={s with all:=s.all.set i {f with ended:=true}}) H st
   obtain⟨al,aj,ah,az,av,O,an,ab⟩:=J.fetch (P:={P with qps:=q}) Z r
   have ae:((c.drew.setCell ⟨p,19,none⟩ (.int .u32 1)).setCell ⟨p,20,none⟩ (.int .i32 0)).heap[p]? =some (.cells (Zau f' false al aj ah).toArray 104 (0,0)):=by
    rw[Zd (Zd (show c.drew.heap[p]? =_ from O.blk) _)]
    unfold Zau;rw[V];simp
   obtain⟨a2,g2⟩:=O.setBlk (f':=f') (lk':=false) ((((Zg.refl [p] c).drew).setCell (.inr (by simp)) _).setCell (.inr (by simp)) _) ae rfl rfl rfl
   obtain⟨F2,X,gg2⟩:=ab _ f' none _ _ _ _ _ (fun j hj=>by
    have:¬i=j:=fun e=>hj e.symm
    simp[this]) (by simpa using a2) g2
   rw[ZkJ r]at X
   have H2:=D X
   have G2:=D ((((show Zi W (W.setCell ⟨p,20,none⟩ (.int .i32 1)) F F1 by rw[←I];exact Q).trans g').trans gg2).pre0 K)
   clear X gg2 g2 a2 ae ab an O r V J g' N ad aa H l Q a1 g1 ak o
   go_wp2_with fail
   (try simp only[Exit.inBlock,Exit.then])
   first|refine bodyPost_ret (results_none rfl _ _ _) rfl ?_|refine bodyPost_end (results_none rfl _ _ _) rfl ?_
   rw[Y.out]
   exact⟨rfl,_,_,_,_,H2.out,G2.out⟩
def Zk8 (h:Zao vb (some s) w G):Calls Tryz.prog 37 #[vb] w fun e w'=>e= .returned (.bool s.paused)∧w'=w:=by
 obtain⟨d,b,k,H,L,rfl,rfl,j,g,h,i⟩:=h
 refine(ZlI h).mono ?_
 rintro e w' ⟨a,c⟩
 exact⟨a,c.symm⟩
def Zpy (h:Zao vb (some s) w G):Calls Tryz.prog 89 #[vb] w fun e w'=>e= .returned (.bool (ZcZ s))∧w'=w:=by
 obtain⟨g,b,l,H,L,rfl,rfl,k,i,h,j⟩:=h
 refine(Zn8 h).mono ?_
 rintro e w' ⟨a,d⟩
 refine⟨?_,d.symm⟩
 have c:decide (s.state=3∨s.state=2∧s.q=[])=ZcZ s:=by
  unfold ZcZ
  rw[Bool.eq_iff_iff]
  simp
 rw[a,c]
def ZpV (h:Zao vb (some s) w G):
  Calls Tryz.prog 88 #[vb] w fun e w'=>e= .returned (.int .i64 (Za9 s).2)∧Zao vb (some (Za9 s).1) w' G∧Zg G w w':=by
 obtain⟨i,b,l,H,L,rfl,rfl,n,j,h,o⟩:=h
 refine(ZqH h).mono ?_
 rintro e w' ⟨rfl,d,m⟩
 by_cases a:s.state=1
 ·have g:Za9 s=({s with state:=2,paused:=false},0):=by unfold Za9;rw[if_neg (by omega)]
  rw[if_pos a,if_pos a,if_neg (by omega)]at d
  rw[g,if_pos a]
  exact⟨rfl,⟨i,b,l,H,L,rfl,rfl,n,j,d,fun p=>absurd (show(2:Int)=3 from p) (by decide)⟩,m.weaken (fun k c=> .inr (by simp at c;simp[c]))⟩
 ·have g:Za9 s=(s,12):=by unfold Za9;rw[if_pos a]
  rw[if_neg a,if_neg a]at d
  rw[g,if_neg a]
  exact⟨rfl,⟨i,b,l,H,L,rfl,rfl,n,j,d,o⟩,m.weaken (fun k c=> .inr (by simp at c;simp[c]))⟩
end Go.Proofs.YtlhapbopmplngaaGreatDoor
namespace Go.Lk
structure FtL where
 id:Int
 state:Int
 pre:Int
 conn:Int
 len:Int
 paused:Bool
def Zfd (f:ZC):FtL:=⟨f.id,f.state,f.pre,f.conn,if f.state=5 then((f.body.map fun s=>(s.q.length:Int)).getD 0)else 0,decide (f.state=5)&&((f.body.map fun s=>s.paused).getD false)⟩
def ftC (x:FtL):List Value:=[.int .i64 x.id, .int .i64 x.state, .int .i64 x.pre, .int .i64 x.conn, .int .i64 x.len, .bool x.paused]
def Zj2 (x:FtL):∀u∈ftC x,u.oneCell'=true:=by
 intro u a
 simp only[ftC,List.mem_cons,List.not_mem_nil,or_false]at a
 rcases a with rfl|rfl|rfl|rfl|rfl|rfl<;>rfl
end Go.Lk
namespace Go.Proofs.YtlhapbopmplngaaGreatDoor
open Go.RowKit Go.Lk
def ZlU:(Tryz.prog.info? 44).map (fun i=>(i.zero,i.size,i.bytes))=some (some (.agg #[.int .i64 0, .int .i64 0, .int .i64 0, .int .i64 0, .int .i64 0, .bool false]),6,48):=by kernel_rfl
def Zq2 {sb b rb high low:Nat} {state:Int} {paused:Bool} {once:Int} {q:List UInt8} (h:ZdY w sb b rb high low state paused once q):
  Calls Tryz.prog 36 #[.pointer (some ⟨sb,0,none⟩)] w fun e w'=>e= .returned (.int .i64 (q.length:Int))∧w=w':=by
 obtain⟨g,j,a,d,i,k,c⟩:=h.cells
 go_in
 go_wp2_with(go_at_call 94;refine(Ziu h.ring).mono ?_;rintro e w' ⟨rfl,rfl⟩)
 go_ret
 exact⟨rfl,rfl⟩
def ZqV (h:Zao vb (some s) w G):Calls Tryz.prog 36 #[vb] w fun e w'=>e= .returned (.int .i64 s.q.length)∧w'=w:=by
 obtain⟨d,b,k,H,L,rfl,rfl,j,g,h,i⟩:=h
 refine(Zq2 h).mono ?_
 rintro e w' ⟨a,c⟩
 exact⟨a,c.symm⟩
def Zp7 (w:World) (l:List FtL) (e:Ending) (w':World):Prop:=∃v G,e= .returned v∧Zk 44 6 v (l.map ftC) w' G∧Zg [] w w'∧∀k∈G,w.heap.size≤k
def Zef {P:Prop}(h:P:=by
 refine JU ?_
 go_wp2_with(refine Zaw _ rfl 44 (.tmp 6) (.tmp 35) rfl L (ftC j).toArray #[.int .i64 0, .int .i64 0, .int .i64 0, .int .i64 0, .int .i64 0, .bool false] 44 rfl (by rw[aJ.out];rfl) ax HZ rfl aT ?_;rw[←aB.out])
 refine⟨_,fun W d=>d,HS.out _ ae,?_⟩
 refine Zdu ?_
 simp only[Act.put]
 by_cases K:f.state=5
 case neg=>
  have an:=D (show Zfd f=j by rw[aU.out];unfold Zfd;rw[if_neg K,decide_eq_false K];rfl)
  have V:=D ((Zc _ _ _ _).upd HR ae)
  have au:=D (show Zb O L 0 (ftC j)from Zb.of_block aL)
  obtain⟨Z,r,E⟩:=Kb O (.cells #[.int .i64 j.id, .int .i64 j.state, .int .i64 j.pre, .int .i64 j.conn, .int .i64 j.len, .bool j.paused] 44)
  have af:=D (show Zb Z O.heap.size 0 (ftC j)by rw[r];exact Zb.of_block (Za _))
  have C:=D ((Zc _ _ _ _).upd V E);have X:=Jt ae E
  obtain⟨A3,c3,rfl,_⟩:=C.form'
  obtain⟨nn,z⟩:=Je ((((s.all.map Zfd).take k).map ftC).length)
  rw[←z]at C V HR
  rw[←z]
  have av:=D (show(ftC j).toArray= #[.int .i64 j.id, .int .i64 j.state, .int .i64 j.pre, .int .i64 j.conn, .int .i64 j.len, .bool j.paused]from rfl)
  have s9:=X.size
  have ah:=D (show Zu Tryz.prog 44 (ftC j).length=true from ax.out)
  clear E;change Hid _ at r z
  go_upto_region 10 with fail
  (try clear k1)
  go_upto_region 11 with(first|(refine Jl au ah ?_;rw[av.out])|(rw[←r.out];refine Zm Z rfl (.tmp 51) (.tmp 53) 41 rfl 44 Tryz.underlying41 ZlU rfl (by omega) (by omega) (.slice A3 nn c3) (((s.all.map Zfd).take k).map ftC) M rfl C O.heap.size 1 (ftC j) rfl af rfl (Zj2 _) (by rw[Xb];have:=aI.out;omega) ?_;intro v' aN G' S Q R;have ai:=D S;have ak:=D Q;have ag:=D R;clear S Q R))
  go_wp2_with fail
  have s0:=HU.size
  exact⟨⟨k+1,G',by omega,by go_num,D (by rw[aG.out,an.out,Xs];exact ai),D (fun q o=>by
   rcases ag q o with h|h
   ·
    exact HM q h
   ·
    omega),D ((((HU.trans X).weaken (G:=M) (by simp)).trans ak (fun q o=> .inr o)).weaken (fun q o=> .inl (HM.out q o)))⟩,by simp[intOf];omega⟩
 case pos=>
  obtain⟨st,ao⟩:=aW.out K
  rw[ao]at aw
  go_upto_region 9 with fail
  obtain⟨H,aq⟩:=Je O.drew
  have ap:=Jd aq
  have ac:=Jt ae ap;have aC:=D aq
  have T:=Kv ap aL
  rw[aJ.out]at T
  have J:H.cell? ⟨p,18,none⟩=some vb:=Zf (i:=18) (HB.out H ac) rfl
  have k4:H.cell? ⟨L,4,none⟩=some (.int .i64 0):=Zf (i:=4) T rfl
  have f4:=Kf 4 T
  obtain⟨w5,I⟩:=Je (H.setCell ⟨L,4,none⟩ (.int .i64 st.q.length))
  have Y:=Zd (i:=4) T (.int .i64 st.q.length)
  rw[←I]at Y
  have k5:w5.cell? ⟨L,5,none⟩=some (.bool false):=Zf (i:=5) Y rfl
  have f5:=Kf 5 Y
  obtain⟨N,aa⟩:=Je (w5.setCell ⟨L,5,none⟩ (.bool st.paused))
  have ar:=Zd (i:=5) Y (.bool st.paused)
  rw[←aa]at ar
  obtain⟨l,al⟩:=Je (Zfd f)
  have am:N.heap[L]? =some (.cells (ftC l).toArray 44 (0,0)):=by
   rw[ar,al]
   unfold Zfd ftC
   rw[if_pos K,decide_eq_true K,ao]
   rfl
  have aj:Zg [] wr N:=by
   have aD:wr.heap.size≤L:=by rw[ad.out];exact ab.size
   rw[aa,I]
   exact(ac.setCell (.inl aD) _).setCell (.inl aD) _
  have aM:H.heap.size=w5.heap.size:=by rw[I];simp
  have an:=D (show Zfd f=l from al.symm)
  have aO:=D aj;have a0:=D am
  have V:=D ((Zc _ _ _ _).upd HR aj)
  have au:=D (show Zb N L 0 (ftC l)from Zb.of_block am)
  clear aq ap T Y ar am al aj aM ao k1;change Hid _ at I aa
  refine Jr [0,4,8,12,20,24,28,32,17,40,37,45,48,54] (fun W=>W.cell? ⟨p,18,none⟩=some vb) (by rw[aC.out]at J;exact J) ?_
  repeat first|refine Jn ?_|refine Jf ?_|refine Ju ?_
  refine JE ?_
  simp only[Xu]
  rw[←aC.out]
  go_wp2_with fail
  refine(ZqV (aw.out H ac)).mono ?_
  rintro e W ⟨rfl,d⟩
  rw[d]
  clear d W
  go_wp2_with fail
  refine⟨_,fun W d=>d,J,?_⟩
  repeat first|refine Jn ?_|refine Jf ?_|refine Ju ?_
  refine JE ?_
  go_wp2_with fail
  refine(Zk8 (aw.out H ac)).mono ?_
  rintro e W ⟨rfl,d⟩
  rw[d]
  clear d W
  go_wp2_with fail
  refine⟨_,fun W d=>d,J,?_⟩
  refine JE ?_
  go_wp2_with fail
  rw[←I.out]
  have az:w5.cell? ⟨p,18,none⟩=some vb:=by
   have aP:p≠L:=by have:=aS.out;have:=ad.out;have:=ab.size;omega
   rw[I.out]
   exact(Xp (Z4 (a:=⟨L,4,none⟩) _ (fun e=>aP e.symm))).trans J
  refine⟨_,fun W d=>d,az,?_⟩
  clear J k4 f4
  repeat first|refine Jn ?_|refine Jf ?_|refine Ju ?_
  refine JL ?_
  go_wp2_with fail
  rw[←aa.out]
  refine Jz ?_
  clear az k5 f5
  obtain⟨Z,r,E⟩:=Kb N (.cells #[.int .i64 l.id, .int .i64 l.state, .int .i64 l.pre, .int .i64 l.conn, .int .i64 l.len, .bool l.paused] 44)
  have af:=D (show Zb Z N.heap.size 0 (ftC l)by rw[r];exact Zb.of_block (Za _))
  have C:=D ((Zc _ _ _ _).upd V E);have X:=Jt aO E
  obtain⟨A3,c3,rfl,_⟩:=C.form'
  obtain⟨nn,z⟩:=Je ((((s.all.map Zfd).take k).map ftC).length)
  rw[←z]at C V HR
  rw[←z]
  have av:=D (show(ftC l).toArray= #[.int .i64 l.id, .int .i64 l.state, .int .i64 l.pre, .int .i64 l.conn, .int .i64 l.len, .bool l.paused]from rfl)
  have s9:=X.size
  have ah:=D (show Zu Tryz.prog 44 (ftC l).length=true from ax.out)
  clear E;change Hid _ at r z
  go_upto_region 10 with fail
  (try clear k1)
  go_upto_region 11 with(first|(refine Jl au ah ?_;rw[av.out])|(rw[←r.out];refine Zm Z rfl (.tmp 51) (.tmp 53) 41 rfl 44 Tryz.underlying41 ZlU rfl (by omega) (by omega) (.slice A3 nn c3) (((s.all.map Zfd).take k).map ftC) M rfl C N.heap.size 1 (ftC l) rfl af rfl (Zj2 _) (by rw[Xb];have:=aI.out;omega) ?_;intro v' aN G' S Q R;have ai:=D S;have ak:=D Q;have ag:=D R;clear S Q R))
  go_wp2_with fail
  have s0:=HU.size
  exact⟨⟨k+1,G',by omega,by go_num,D (by rw[aG.out,an.out,Xs];exact ai),D (fun q o=>by
   rcases ag q o with h|h
   ·
    exact HM q h
   ·
    omega),D ((((HU.trans X).weaken (G:=M) (by simp)).trans ak (fun q o=> .inr o)).weaken (fun q o=> .inl (HM.out q o)))⟩,by simp[intOf];omega⟩):P:=h
def Zjg (h:Zh w b P none s va vp vl F) (hfit:ZQ s n0 m) (hm:s.all.length≤1000000):
  Calls Tryz.prog 14 #[.pointer (some ⟨b,0,none⟩)] w (Zp7 w (s.all.map Zfd)):=by
 obtain⟨G,hr,_⟩:=h.rowAll
 obtain⟨A,c,rfl,aR⟩:=hr.form'
 rw[Xb,h.fl]at h aR hr
 have aZ:=D (show∀f∈s.all,f.state=5→∃st,f.body=some st from fun f hf K=>by
  cases hb:f.body with
  |none=>exact absurd hb ((hfit.fs f hf).body K)
  |some st=>exact⟨st,rfl⟩)
 obtain⟨n,HN⟩:=Je s.all.length
 rw[←HN]at h hr hm
 have a2:w.cell? ⟨b,17,none⟩=some (.slice A n c):=Zf (i:=17) h.blk.1 rfl
 have HX:=D (show∀(k:Nat),k<n→∃g p f,A=some ⟨g,0,none⟩∧P.fps[k]? =some p∧s.all[k]? =some f∧w.cell? ⟨g,k,none⟩=some (.pointer (some ⟨p,0,none⟩))by
  intro k hk
  obtain⟨f,hf⟩:∃y,s.all[k]? =some y:=⟨_,Xa (by omega)⟩
  obtain⟨p,hp⟩:=h.fp hf
  obtain⟨g,a3,e1,_,_,ay⟩:=Zdv hr hp
  injection e1 with e1 _ _
  exact⟨g,p,f,e1,hp,hf,ay⟩)
 have H0:=D h
 have ax:=D (show Zu Tryz.prog 44 6=true by kernel_rfl)
 clear h hr aR hfit;change Hid _ at HN
 go_in
 go_wp2_with fail
 go_loopw[3,5,6,14] (fun v3 _ _ v14 wr=>∃(k:Nat) (M:List Nat),k≤n∧v14= .int .i64 k∧Hid (Zk 44 6 v3 (((s.all.map Zfd).take k).map ftC) wr M)∧Hid (∀q∈M,w.heap.size≤q)∧Hid (Zg [] w wr)) (fun _ _ _ v14 _=>n-(intOf v14).toNat)
 case atStart=>exact⟨0,[],Xn _,rfl,D (ZA _ _ _),D (by simp),D (Zg.refl [] w)⟩
 case round=>
  obtain⟨k,M,hk,rfl,HR,HM,HU⟩:=hrel
  by_cases a1:k<n
  ·obtain⟨g,p,f,rfl,hp,hf,ay⟩:=HX.out k a1
   have hs:=H0.upd0 HU.out
   obtain⟨vh,lb,vb,Gh,Gb,hA,_,_⟩:=hs.fetch hp hf
   have aY:=(Xp (HU.block g (Xo _ _ ay) (by simp))).trans ay
   have HB:=D (show∀W,Zg [] wr W→W.heap[p]? =some (.cells (Zau f (none==some k) vh lb vb).toArray 104 (0,0))from fun W hu=>(Kv hu hA.blk))
   have HS:=D (show∀W,Zg [] wr W→(W.cell? ⟨p,0,none⟩=some (.int .i64 f.id)∧W.cell? ⟨p,12,none⟩=some (.pointer (some ⟨lb,0,none⟩))∧W.cell? ⟨p,16,none⟩=some (.int .i64 f.pre)∧W.cell? ⟨p,17,none⟩=some (.int .i64 f.conn))from fun W hu=>by
    have hb:=HB.out W hu
    exact⟨Zf (i:=0) hb rfl,Zf (i:=12) hb rfl,Zf (i:=16) hb rfl,Zf (i:=17) hb rfl⟩)
   have aV:=D (show∀W,Zg [] wr W→Za2 W lb f.state (ZaN f.state) (ZaN f.state)from fun W hu=>hA.life.upd hu)
   have aw:=D (show∀W,Zg [] wr W→Zao vb f.body W Gb from fun W hu=>(ZaD _ _).upd hA.body hu)
   have aW:=D (aZ.out f (Xc hf))
   have aG:=D (show(s.all.map Zfd).take (k+1)=(s.all.map Zfd).take k++[Zfd f]from ZZ (by rw[Xe,hf];rfl))
   have aI:=D (show((s.all.map Zfd).take k).length≤1000000 by rw[List.length_take,Xb];omega)
   have aS:=D (show p<wr.heap.size from(Jg hA.blk))
   clear hp hf ay hs hA
   go_upto_region 7 with fail
   clear aY
   obtain⟨w1,aA⟩:=Je wr.drew
   have ab:=D (show Zg [] wr w1 by rw[aA];exact(Zg.refl [] wr).drew)
   obtain⟨L,ad⟩:=Je w1.heap.size
   obtain⟨w2,aK,aQ⟩:=Kb w1 (.cells #[.int .i64 0, .int .i64 0, .int .i64 0, .int .i64 0, .int .i64 0, .bool false] 44)
   obtain⟨j,aF⟩:∃x:FtL,x=⟨f.id,f.state,f.pre,f.conn,0,false⟩:=⟨_,rfl⟩
   obtain⟨O,aB⟩:=Je (w2.setRow L (ftC j).toArray)
   have hz:w2.heap[L]? =some (.cells #[.int .i64 0, .int .i64 0, .int .i64 0, .int .i64 0, .int .i64 0, .bool false] 44 (0,0)):=by rw[aK,ad];exact Za _
   have aX:Zg [] w1 O:=by rw[aB];exact aQ.setRow (.inl (by rw[ad];exact Xi _)) _
   have aE:=Kk aB hz
   have aH:=Jt ab aQ;have ae:=Jt ab aX;have aL:=D aE;have HZ:=D hz
   have aU:=D aF
   have aJ:=D (show(ftC j).toArray= #[.int .i64 f.id, .int .i64 f.state, .int .i64 f.pre, .int .i64 f.conn, .int .i64 0, .bool false]by rw[aF];rfl)
   have aT:=D (show(ftC j).toArray.all (·.oneCell')=true by rw[Xl,Xk];exact Zj2 _)
   have k1:O.cell? ⟨L,1,none⟩=some (.int .i64 f.state):=by rw[aF]at aE;exact Zf (i:=1) aE rfl
   clear hz aQ aX aE aF;change Hid _ at aA aK aB ad
   refine ZaV (.held 0 (.held 1 (.held 2 (.held 3 (.held 4 (.held 5 (.held 6 (.held 7 (.held 9 (.held 10 (.held 11 (.held 12 (.held 13 (.held 14 (.held 15 (.held 16 (.two 8 (.held 17 (.eff 18 (.eff 19 (.nil)))) 18 (.eff 8 (.held 17 (.eff 19 (.nil))))))))))))))))))))) (fun W=>W.cell? ⟨p,0,none⟩=some (.int .i64 f.id)∧W.cell? ⟨p,12,none⟩=some (.pointer (some ⟨lb,0,none⟩))∧W.cell? ⟨p,16,none⟩=some (.int .i64 f.pre)∧W.cell? ⟨p,17,none⟩=some (.int .i64 f.conn)) (by kernel_rfl) (by kernel_rfl) (fun c a w t v h=>by cases t<;>exact h) (by have q:=HS.out w1 ab.out;rw[aA.out]at q;exact q) ?_
   repeat first|refine JN ?_|refine JF ?_
   apply ZcW
   case ho=>simp only[Xh,Xf,Xg];rfl
   case ho2=>simp only[Xh,Xf,Xg];rfl
   case h=>
    simp only[Xu]
    rw[←aA.out]
    go_wp2_with fail
    refine(Za0 (aV.out w1 ab)).mono ?_
    rintro e W ⟨rfl,d⟩
    rw[←d]
    clear d W
    go_wp2_with fail
    refine⟨_,fun W d=>d,HS.out _ ab,?_⟩
    repeat first|refine JN ?_|refine JF ?_
    refine JU ?_
    go_wp2_with fail
    rw[←aK.out,←ad.out]
    refine⟨_,fun W d=>d,HS.out _ aH,?_⟩
    exact Zef
   case h2=>
    simp only[Xu]
    rw[←aA.out]
    go_wp2_with fail
    rw[←aK.out,←ad.out]
    refine⟨_,fun W d=>d,HS.out _ aH,?_⟩
    refine JU ?_
    go_wp2_with fail
    refine(Za0 (aV.out w2 aH)).mono ?_
    rintro e W ⟨rfl,d⟩
    rw[←d]
    clear d W
    go_wp2_with fail
    refine⟨_,fun W d=>d,HS.out _ aH,?_⟩
    repeat first|refine JN ?_|refine JF ?_
    exact Zef
  ·obtain rfl:k=n:=by omega
   go_wp2_with fail
   go_ret
   exact⟨_,M,rfl,by have:=HR.out;rw[List.take_of_length_le (by rw[Xb,HN.out];exact Xi _)]at this;exact this,HU.out,HM.out⟩
end Go.Proofs.YtlhapbopmplngaaGreatDoor
