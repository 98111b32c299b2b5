import Derived.Test.YtbgbeddbfaopgaaGreatDoorZ22
set_option linter.all false
set_option maxHeartbeats 16000000
set_option maxRecDepth 100000
set_option autoImplicit true
set_option relaxedAutoImplicit true
namespace Go.Lk
theorem Zjy (s:Zf) (q:ZdA) (id:Int):(Zat s q id).1.all=s.all∧(Zat s q id).1.now=s.now∧(Zat s q id).1.pres=s.pres∧(Zat s q id).1.queue=s.queue∧(Zat s q id).1.conf=s.conf:=by
 unfold Zat
 split
 ·exact⟨rfl,rfl,rfl,rfl,rfl⟩
 ·split
  ·split<;>exact⟨rfl,rfl,rfl,rfl,rfl⟩
  ·exact⟨rfl,rfl,rfl,rfl,rfl⟩
theorem ZqQ {s:Zf} {k:Nat} (hf:s.all[k]? =some f) (hid:f.id=(k:Int)+1) (i:ZQ) {j:Zf} {n:Int} {fresh:Bool} (hj:Zat s (Zb1 f.req) f.id=(j,n,fresh)):
  holdS s f i=(let s1:=ZR {j with all:=j.all.set k {f with state:=goL f.state 3,pre:=n}} 3 f.id n 0 0
   if fresh then{s1 with pres:=s1.pres++[⟨n,f.id,0,f.key⟩],queue:=putQ s1.queue {i with pre:=n,since:=s1.now}}else s1):=by
 unfold holdS
 rw[hj]
 dsimp only
 have a:j.all[k]? =some f:=by
  have:=(Zjy s (Zb1 f.req) f.id).1
  rw[hj]at this
  dsimp only at this
  rw[this];exact hf
 have e:=YT a (fun f=>{f with state:=goL f.state 3,pre:=n})
 rw[←hid]at e
 rw[e]
end Go.Lk
namespace Go.Proofs.YtbgbeddbfaopgaaGreatDoor
open Go.RowKit Go.Lk
section
variable {w:World} {b:Nat} {P:YI} {lk:Option Nat} {s:Zf} {va vp vl:Value} {F:List Nat}
theorem Zmv (h:Zh w b P lk s va vp vl F) (hfit:ZW s n m) (hE:Env w) (hn:n≤800000) {k p:Nat} (hp:P.fps[k]? =some p) (hf:s.all[k]? =some f) (hid:f.id=(k:Int)+1) (i:ZQ):
  Calls Tryz.prog 84 #[.pointer (some ⟨b,0,none⟩), .pointer (some ⟨p,0,none⟩), .agg #[.int .i64 i.id, .int .i64 i.cls, .int .u64 i.since, .string ⟨i.key.toArray⟩, .int .i64 i.pre]] w (Zjx b P lk (holdS s f i) va w F):=by
 obtain⟨R,hR⟩:=Je (holdS s f i)
 rw[←hR]
 obtain⟨w1,an⟩:=Je (w.alloc (.cells #[.int .i64 i.id, .int .i64 i.cls, .int .u64 i.since, .string ⟨i.key.toArray⟩, .int .i64 i.pre] 171))
 have bb:=Ja an
 have bB:=h.lt
 obtain⟨L,HL⟩:=Je w.heap.size
 have aO:Own w1 L #[.int .i64 i.id, .int .i64 i.cls, .int .u64 i.since, .string ⟨i.key.toArray⟩, .int .i64 i.pre] 171 F:=⟨by rw[an,HL];exact Za _,fun hm=>by have:=bB L hm;omega⟩
 obtain⟨w2,V⟩:=Je w1.drew
 have ak:Zg [] w w2:=by rw[V];exact bb.drew
 have h2:=h.upd0 ak
 have bk:=aO.upd0 (show Zg [] w1 w2 by rw[V];exact(Zg.refl [] w1).drew)
 have br:=hE.upd0 ak
 obtain⟨vh,bi,a7,lb,vb,bz⟩:=h2.req hfit hp hf
 have ay:=Jx 14 h2.blk.1
 have y:=Jx 0 bz
 have b5:=D (Zqq f.req vh w2 bi br)
 obtain⟨j,HJ⟩:=Je (Zat s (Zb1 f.req) f.id)
 have aw:=D (Zjy s (Zb1 f.req) f.id)
 have S:=D (Zjs hfit (Zb1 f.req) f.id)
 rw[←HJ]at aw S
 obtain⟨Y,d,jf⟩:=j
 have bC:=D (hR.trans (ZqQ hf hid i HJ.symm))
 dsimp only at aw S
 have bc:=D a7
 have H2:=D h2;have cf:=D bk;have a5:=D hfit;have z:=D hp;have HF:=D hf;have bX:=D hid
 clear hR bb bB aO h2 bk br bi bz hfit h hp hf hid hE a7;change Hid _ at HJ an V HL ak
 go_enter Tryz.func84,Tryz.ntmps84
 go_upto_region 1 with fail
 rw[←an.out,←HL.out]
 refine ZX ((0,0)::(1,0)::(2,0)::(3,0)::(4,0)::(5,0)::(6,0)::(7,0)::(9,0)::(10,0)::(11,0)::(12,0)::(8,1)::(13,2)::(14,0)::(15,0)::(16,0)::(17,0)::(18,0)::(19,0)::(20,0)::[]) (fun W=>W.cell? ⟨b,14,none⟩=some (.pointer (some ⟨P.shares,0,none⟩))∧W.cell? ⟨p,0,none⟩=some (.int .i64 f.id)∧Zb W p 1 (Zv f.req vh)) (by kernel_rfl) (by kernel_rfl) (fun c a w t v h=>by cases t<;>exact h) (by have q:=bc.out;rw[V.out]at ay y q;exact⟨ay,y,q⟩) ?_
 repeat first|refine Jn ?_|refine Jf ?_|refine Ju ?_
 apply Zq (t:= 43) (x:= .tmp 16) (b:=p) (of:=1) (cs:=Zv f.req vh)
 case ho=>simp only[Xh,Xf,Xg];rfl
 case hg=>rfl
 case hop=>rfl
 case hx=>rfl
 case ht=>exact Yp
 case hb=>exact fun W g=>g.2.2
 case ha=>go_simp;rfl
 repeat first|refine Jn ?_|refine Jf ?_|refine Ju ?_
 refine JE ?_
 simp only[Xu]
 rw[←V.out]
 go_wp2_with fail
 refine b5.out.mono ?_
 rintro e w3 ⟨rfl,Q⟩
 have X:=H2.upd0 Q
 have H3:=D X
 have bZ:=D (cf.upd0 Q)
 have cc:=Jt ak Q
 obtain⟨cC,_,_,cz,cl,aQ⟩:=X.req a5 z HF.out
 have a0:=Jx 14 X.blk.1
 have bt:=Jx 0 aQ
 have bI:=D (bc.upd Q (by simp))
 clear X Q aQ ay y
 go_wp2_with fail
 refine⟨_,fun W g=>g,⟨a0,bt,bI.out⟩,?_⟩
 refine JL ?_
 go_wp2_with fail
 have q4:=Zof H3 a5 (by omega) (Zb1 f.req) f.id (by rw[bX.out];omega)
 rw[←HJ.out]at q4
 refine q4.mono ?_
 rintro e w4 ⟨cj,F4,rfl,h4,g4⟩
 dsimp only at h4⊢
 have ao:Y.all[k]? =some f:=by rw[aw.out.1];exact HF.out
 obtain⟨ct,cd,a8,aM⟩:=h4.life z ao
 have b6:=D a8;have bJ:=D aM
 have ca:=D (bZ.step g4);have G4:=D (g4.pre0 cc)
 clear q4 h4 g4 a8 aM a0 bt;change Hid _ at ao
 go_wp2_with fail
 refine⟨fun _=>True,trivial,?_⟩
 repeat first|refine Jn ?_|refine Jf ?_|refine Ju ?_
 refine ZL ?_
 go_wp2_with fail
 refine(ZcP b6 3).mono ?_
 rintro e w5 ⟨rfl,bl,bf⟩
 obtain⟨F5,h5,g5⟩:=bJ.out w5 _ bl bf
 have aB:=ZP (f':={f with state:=goL f.state 3}) ao.out
 obtain⟨cu,cy,cm,bj,_⟩:=h5.fcell z aB
 have bU:=Jx 16 bj
 obtain⟨bP,F6,Z,g6⟩:=h5.setFCell z aB 16 (.int .i64 d) {f with state:=goL f.state 3,pre:=d} (fun _ _ _ _=>rfl) rfl rfl rfl
 rw[List.set_set]at Z
 obtain⟨w6,aG⟩:=Je (w5.setCell ⟨p,16,none⟩ (.int .i64 d))
 rw[←aG]at Z g6
 have aI:=ZP (f':={f with state:=goL f.state 3,pre:=d}) ao.out
 obtain⟨cr,cw,cA,bp,_⟩:=Z.fcell z aI
 have bV:=Jx 0 bp
 have H6:=D Z;have G6:=D ((G4.trans g5).trans g6);have cb:=D ((ca.step g5).step g6);have b3:=D aI
 clear h5 g5 Z g6 bl bf aB bj aI bp cd;change Hid _ at aG
 go_upto_region 4 with fail
 rw[←aG.out]
 go_wp2_with fail
 refine(Zag H6 (by have:=S.log;dsimp only;omega) _ _ _ _ _ _ _).mono ?_
 rintro e w7 ⟨rfl,bR,F7,h7,g7⟩
 have H7:=D h7;have G7:=D (G6.trans g7);have bY:=D (cb.step g7)
 clear h7 g7 bU bP bV
 cases jf with
 |false=>
  go_wp2_with fail
  (try simp only[Exit.inBlock,Exit.then])
  first|refine bodyPost_ret (results_none rfl _ _ _) rfl ?_|refine bodyPost_end (results_none rfl _ _ _) rfl ?_
  have er:R=ZR {Y with all:=Y.all.set k {f with state:=goL f.state 3,pre:=d}} 3 f.id d 0 0:=bC.trans rfl
  rw[er]
  exact⟨rfl,P.qps,vp,bR,F7,H7.out,G7.out⟩
 |true=>
  obtain⟨l,K⟩:=Je (ZR {Y with all:=Y.all.set k {f with state:=goL f.state 3,pre:=d}} 3 f.id d 0 0)
  have HE:=D (show R={l with pres:=l.pres++[⟨d,f.id,0,f.key⟩],queue:=putQ l.queue {i with pre:=d,since:=l.now}}by rw[bC.out,K];rfl)
  have aL:=D (show l.all[k]? =some {f with state:=goL f.state 3,pre:=d}by rw[K];exact b3)
  have bS:=D (show l.queue.length≤1000000 by rw[K];exact Xj S.q (by omega))
  have bA:=D (show l.pres.length≤900000 by rw[K];exact Xj S.pres (by omega))
  rw[←K]at H7
  clear K
  go_upto_region 6 with fail
  obtain⟨w8,al⟩:=Je w7.drew
  have ap:=Jd al
  have o:=H7.upd0 ap
  obtain⟨Gv,bv,_⟩:=o.rowPres
  obtain⟨Av,cv,bs,_⟩:=bv.form'
  rw[Xb,o.ql]at bs
  subst bs
  obtain⟨N,HN⟩:=Je l.pres.length
  rw[←HN]at o H7 bA
  obtain⟨cx,ci,co,aH,_⟩:=o.fcell z aL.out
  have ax:=Jx 18 o.blk.1
  have y:=Jx 0 aH
  have T:=Jx 11 aH
  obtain⟨H,ag⟩:=Je (w8.alloc (.cells #[.int .i64 d, .int .i64 f.id, .int .i64 0, .string ⟨f.key.toArray⟩] 259))
  obtain⟨fb,aj⟩:=Je w8.heap.size
  have M:=Ja ag
  have aX:H.heap[fb]? =some (.cells (ZbV ⟨d,f.id,0,f.key⟩).toArray 259 (0,0)):=by rw[ag,aj];exact Za _
  obtain⟨G,bn,bd,bg,a2,a1⟩:=o.addPres M aX (by rw[aj];exact Xi _)
  obtain⟨w9,am⟩:=Je (H.alloc (.cells #[.pointer (some ⟨fb,0,none⟩)] 178))
  have J:=Ja am
  have aW:Zb w9 H.heap.size 0 (Zda fb):=by rw[am];exact Zb.of_block (w:=H.alloc _) (Za _)
  have bu:=(Zd _ _ _ _).upd bn J (by simp)
  have aA:=((M.trans J (by simp)).block b (Jg o.blk.1) (by simp)).trans o.blk.1
  have bq:=(M.block b (Jg o.blk.1) (by simp)).trans o.blk.1
  have aU:=Jx 18 bq
  have a4:=Jx 18 aA
  have aJ:∀(W:World),Zg [] w8 W→W.cell? ⟨p,0,none⟩=some (.int .i64 f.id)∧W.cell? ⟨p,11,none⟩=some (.string ⟨f.key.toArray⟩):=fun W g=>⟨(Xp (g.block p (Xo _ _ y) (by simp))).trans y,(Xp (g.block p (Xo _ _ T) (by simp))).trans T⟩
  have HA:=D (aJ H M);have I:=D (aJ w9 (M.trans J (by simp)))
  have H8:=D o;have cg:=D ap;have bT:=D bu;have bM:=D aW;have bL:=D a1;have b9:=D bg;have a9:=D aA;have cn:=D bd;have b4:=D (a2 k p _ z aL)
  have b8:=D (bY.upd0 ap)
  have cB:=D (show p∈F7 from(H7.fcell z aL).choose_spec.choose_spec.choose_spec.2)
  clear ap o bv aH M aX bn bd bg a1 a2 aW bu aA bq aJ;change Hid _ at al ag aj am J HN
  refine ZX ((0,0)::(1,0)::(2,0)::(3,0)::(4,0)::(5,0)::(6,0)::(7,0)::(8,0)::(9,0)::(10,0)::(11,0)::(12,0)::(13,0)::(14,0)::(15,1)::(16,1)::(17,1)::(18,0)::(19,0)::(20,2)::[]) (fun W=>W.cell? ⟨b,18,none⟩=some (.slice Av N cv)∧W.cell? ⟨p,0,none⟩=some (.int .i64 f.id)∧W.cell? ⟨p,11,none⟩=some (.string ⟨f.key.toArray⟩)) (by kernel_rfl) (by kernel_rfl) (fun c a w t v h=>by cases t<;>exact h) (by rw[al.out]at ax y T;exact⟨ax,y,T⟩) ?_
  repeat first|refine Jn ?_|refine Jf ?_|refine Ju ?_
  refine JE ?_
  simp only[Xu]
  rw[←al.out]
  go_wp2_with fail
  rw[←ag.out,←aj.out]
  refine⟨_,fun W g=>g,⟨aU,HA.out.1,HA.out.2⟩,?_⟩
  refine JE ?_
  go_wp2_with fail
  rw[←am.out]
  refine⟨_,fun W g=>g,⟨a4,I.out.1,I.out.2⟩,?_⟩
  refine JE ?_
  refine Zn w9 rfl (.tmp 49) (.tmp 61) 77 rfl 178 Tryz.underlying77 ZoD rfl (by omega) (by omega) _ (P.qps.map Zda) G rfl bT H.heap.size 1 (Zda fb) rfl bM rfl (by intro u hu;rw[Jm hu];rfl) (by rw[Xb];have h1:=H8.ql;have h2:=bA.out;have X:=HN.out;omega) ?_
  intro v' C G' au O a3
  obtain⟨A',c',aK,_⟩:=au.form'
  rw[Xd,Xb,List.length_singleton]at aK
  have eN:P.qps.length=N:=by rw[H8.ql,HN.out]
  rw[eN]at aK
  subst aK
  have aa:=(O.block b (Jg a9) b9).trans a9.out
  have bo:=Jx 18 aa
  have b0:C.frozen? ⟨b,18,none⟩=false:=Zk aa
  have az:p∉G:=b4.out
  have aZ:C.cell? ⟨p,0,none⟩=some (.int .i64 f.id)∧C.cell? ⟨p,11,none⟩=some (.string ⟨f.key.toArray⟩):=⟨(Xp (O.block p (Xo _ _ I.out.1) az)).trans I.out.1,(Xp (O.block p (Xo _ _ I.out.2) az)).trans I.out.2⟩
  have aV:=D aZ
  have bF:=D aa;have bE:=D au;have bN:=D O;have bK:=D a3
  clear aa au O a3 aZ az eN
  go_wp2_with fail
  refine⟨_,fun W g=>g,⟨bo,aV.out.1,aV.out.2⟩,?_⟩
  repeat first|refine Jn ?_|refine Jf ?_|refine Ju ?_
  refine JL ?_
  go_wp2_with fail
  refine Jz ?_
  obtain⟨E,ae⟩:=Je (C.setCell ⟨b,18,none⟩ (.slice A' (N+1) c'))
  have aT:Zi H C G G':=⟨(J.weaken (by simp)).trans bN (fun a ha=> .inr ha),fun a ha=>by
   rcases bK a ha with h1|h1
   ·exact .inl h1
   ·exact .inr (by have:=J.size;omega)⟩
  obtain⟨aC,ah,aF⟩:=bL.out C E (.slice A' (N+1) c') G' (by rw[Xs];exact bE) aT (by rw[ae,Ze bF.out];rfl) (by rw[ae];exact(Zg.refl [b] C).setCell (.inr (by simp)) _)
  have r:=b8.step aF
  have bO:=Jx 7 ah.blk.1
  obtain⟨ai,ad⟩:=Je (E.setCell ⟨L,4,none⟩ (.int .i64 d))
  obtain⟨aE,ab⟩:=Je (ai.setCell ⟨L,2,none⟩ (.int .u64 (l.now:Int)))
  have av:Zg [L] E ai:=by rw[ad];exact(Zg.refl _ _).setCell (.inr (by simp)) _
  have ar:Zg [L] ai aE:=by rw[ab];exact(Zg.refl _ _).setCell (.inr (by simp)) _
  have aS:Own ai L #[.int .i64 i.id, .int .i64 i.cls, .int .u64 i.since, .string ⟨i.key.toArray⟩, .int .i64 d] 171 aC:=⟨by rw[ad,Ze r.blk];rfl,r.off⟩
  have aP:Own aE L #[.int .i64 i.id, .int .i64 i.cls, .int .u64 l.now, .string ⟨i.key.toArray⟩, .int .i64 d] 171 aC:=⟨by rw[ab,Ze aS.blk];rfl,r.off⟩
  have bh:=(ah.other av r.off).other ar r.off
  have l4:E.cell? ⟨L,4,none⟩=some (.int .i64 i.pre):=r.cell rfl
  have ce:E.frozen? ⟨L,4,none⟩=false:=Zk r.blk
  have l2:E.cell? ⟨L,2,none⟩=some (.int .u64 i.since):=r.cell rfl
  have bW:E.frozen? ⟨L,2,none⟩=false:=Zk r.blk
  obtain⟨ba,af⟩:=Je aE.drew
  have ac:=Jd af
  have aD:=bh.upd0 ac
  have aN:=aP.upd0 ac
  have aq:=Jx 9 aD.blk.1
  have bD:=D (show Zb ba L 0 (ZJ {i with pre:=d,since:=l.now})from Zb.of_block aN.blk)
  obtain⟨GQ,bw,_,aY⟩:=aD.queue
  have b1:=D bw;have bG:=D aY
  have b7:=D ah.clock.1
  have bx:=D (show w.heap.size≤L by rw[HL.out];exact Xi _)
  have b2:=D (show Zi w ba F aC from by
   have ga:=(G7.upd0 cg).trans aF
   exact⟨((ga.upd.trans av (fun a ha=> .inl (by rw[Jm ha];exact bx))).trans ar (fun a ha=> .inl (by rw[Jm ha];exact bx))).trans ac (by simp),ga.new⟩)
  clear aT ah aF r av ar aS aP bh ac aD aN bw aY ax y T aU a4 bo b0;change Hid _ at ae ad ab af
  go_upto_region 7 with fail
  rw[←ae.out]
  go_wp2_with fail
  refine(Za5 b7).mono ?_
  rintro e W ⟨rfl,g⟩
  rw[g]
  clear g W
  go_upto_region 8 with fail
  rw[←ad.out,←ab.out]
  refine Jr [0,4,8,12,16,22] (fun W=>W.cell? ⟨b,9,none⟩=some (.pointer (some ⟨P.queue,0,none⟩))∧Zb W L 0 (ZJ {i with pre:=d,since:=l.now})) (by have q:=bD.out;rw[af.out]at aq q;exact⟨aq,q⟩) ?_
  repeat first|refine Jn ?_|refine Jf ?_|refine Ju ?_
  apply Zq (t:= 171) (x:= .tmp 5) (b:=L) (of:=0) (cs:=ZJ {i with pre:=d,since:=l.now})
  case ho=>simp only[Xh,Xf,Xg];rfl
  case hg=>rfl
  case hop=>rfl
  case hx=>rfl
  case ht=>exact Zcn
  case hb=>exact fun W g=>g.2
  case ha=>go_simp;rfl
  refine JL ?_
  simp only[Xu]
  rw[←af.out]
  go_wp2_with fail
  refine(ZgI b1 bS _).mono ?_
  rintro e cp ⟨cq,rfl,ck,a6,aR⟩
  obtain⟨ch,be,bm⟩:=bG.out _ _ _ a6 aR
  have bQ:=D be;have bH:=D (b2.trans bm)
  clear a6 aR be bm bO l4 ce l2 bW aq
  go_wp2_with fail
  refine Jz ?_
  go_wp2_with fail
  (try simp only[Exit.inBlock,Exit.then])
  first|refine bodyPost_ret (results_none rfl _ _ _) rfl ?_|refine bodyPost_end (results_none rfl _ _ _) rfl ?_
  rw[HE.out]
  exact⟨rfl,_,_,_,_,bQ.out,bH.out⟩
end
section
variable {w:World} {b:Nat} {P:YI} {s:Zf} {va vp vl:Value} {F:List Nat}
theorem Zh.addAll (h:Zh w b P none s va vp vl F) {wA wa:World} {cs:Array Value} {FN:List Nat} (huA:Zg [b] w wA) (hbA:wA.heap[b]? =some (.cells cs 84 (0,0))) (hu:Zg [] wA wa) (hfl:Zcq p f false wa FN) (hn:∀k∈FN,wA.heap.size≤k):
  ∃G,Zj 98 1 va (P.fps.map Zda) wa G∧(∀k∈G,k∈F)∧b∉G∧(∀k∈FN,k∉G)∧∀(w1 w2:World) (va':Value) (G1:List Nat),Zj 98 1 va' ((P.fps++[p]).map Zda) w1 G1→Zi wa w1 G G1→
   w2.heap[b]? =some (.cells (Y3 {s with all:=s.all++[f]} {P with fps:=P.fps++[p]} va' vp vl).toArray 84 (0,0))→Zg [b] w1 w2→∃F1,Zh w2 b {P with fps:=P.fps++[p]} none {s with all:=s.all++[f]} va' vp vl F1∧Zi w w2 F F1:=by
 obtain⟨a,N,m⟩:=h.lay
 have J:=Yi b P none s va vp vl
 have x:=h.lt
 have ac:a.length=15:=by rw[m.len];simp[Z0]
 have q:=Xa (l:=a) (i:=0) (by omega)
 have n:=Xa (l:=a) (i:=1) (by omega)
 have E:=Xa (l:=a) (i:=13) (by omega)
 obtain⟨H,_⟩:=m.lies 0 _ _ rfl q
 have s0:=m.step J q (A1:=ZaL b cs 84) (w1:=wA) (F1:=[b]) ⟨rfl,hbA⟩ (by rw[H];exact Zi.of_upd huA)
 have A:=ZdT J (Zc7 b cs 84) 0
 have y:(a.set 0 [b])[13]? =some a[13]:=by rw[Xt (by omega),E]
 have K:(a.set 0 [b])[1]? =some a[1]:=by rw[Xt (by omega),n]
 have V:Zj 98 1 va (P.fps.map Zda) wA a[1]:=s0.1.lies 1 _ _ rfl K
 have Y:=(Zd _ _ _ _).upd V hu (by simp)
 have Z:YG.list (Zbp P.fps none s.all) wA a[13]:=s0.1.lies 13 _ _ rfl y
 obtain⟨d,I,aa⟩:=Z
 have ab:=huA.size
 have o:∀(j:Nat) (G:List Nat),a[j]? =some G→∀k∈G,k∈F:=fun j G r k c=>by rw[N];exact Zw r c
 refine⟨a[1],Y,o 1 _ n,fun g=>m.apart 0 1 _ _ q n (by omega) b (by rw[H];simp) g,fun k c g=>by have L:=hn k c;have h2:=x k (o 1 _ n k g);omega,fun w1 w2 va' G1 hr hg hb T=> ?_⟩
 have S:=aa.upd (ZcK _ _ _) hu (fun k _ c=>by cases c)
 have W:Z8 d.flatten FN:=fun k c g=>by
  have L:k∈a[13]:=by rw[I];exact c
  have h3:=x k (o 13 _ E k L)
  have h4:=hn k g
  omega
 have r:=Lays.join S (A1:=Zcq p f false) (F1:=FN) hfl W
 have R:YG.list (Zbp (P.fps++[p]) none (s.all++[f])) wa (d++[FN]).flatten:=⟨_,rfl,by rw[ZlP h.fl];exact r⟩
 have s1:=s0.1.step A y (A1:=YG.list (Zbp (P.fps++[p]) none (s.all++[f]))) (w1:=wa) (F1:=(d++[FN]).flatten) R ⟨hu.weaken (by simp),fun k c=>by
  simp only[List.flatten_append,List.mem_append,List.flatten_cons,List.flatten_nil,List.append_nil]at c
  rcases c with c|c
  ·exact .inl (by rw[I];exact c)
  ·exact .inr (hn k c)⟩
 have z:=ZdT A (YG.list_local (ZcK (P.fps++[p]) none (s.all++[f]))) 13
 have O:((a.set 0 [b]).set 13 (d++[FN]).flatten)[1]? =some a[1]:=by rw[Xt (by omega),K]
 have s2:=s1.1.step z O hr hg
 have Q:=ZdT z (Zd 98 1 va' ((P.fps++[p]).map Zda)) 1
 have X:(((a.set 0 [b]).set 13 (d++[FN]).flatten).set 1 G1)[0]? =some [b]:=by
  rw[Xt (by omega),Xt (by omega),List.getElem?_set_self (by omega)]
 have s3:=s2.1.step Q X (A1:=ZaL b (Y3 {s with all:=s.all++[f]} {P with fps:=P.fps++[p]} va' vp vl).toArray 84) ⟨rfl,hb⟩ (Zi.of_upd T)
 have C:Zi w w2 F ((((a.set 0 [b]).set 13 (d++[FN]).flatten).set 1 G1).set 0 [b]).flatten:=by rw[N];exact((s0.2.trans s1.2).trans s2.2).trans s3.2
 refine⟨_,⟨⟨_,rfl,?_⟩,?_,h.ql,fun k c=> ?_⟩,C⟩
 ·have e:=s3.1
  exact e
 ·show(P.fps++[p]).length=(s.all++[f]).length
  rw[Xd,Xd,h.fl];rfl
 ·rcases C.new k c with M|M
  ·exact h.two k M
  ·have h7:=h.two b h.blk.2;have h8:=h.lt b h.blk.2;omega
end
def subU (s:Zf) (r:Yb) (bk:List Y8):Zf:=
 {ZR {s with book:=bk,all:=s.all++[⟨(s.all.length:Int)+1,YP r,Zek r,1,0,0,false,0,0,none,false⟩]} 1 ((s.all.length:Int)+1) 0 0 r.cls with groups:=Zcv s.groups r.group ((s.all.length:Int)+1)}
theorem ZmO {s:Zf} {t:List Y8×Int} (ht:t=ZbY s.book ((s.all.length:Int)+1) (Zek r) r.group) (h1:Za9 r=0) (h2:ZaD s r.group=0) (h3:ZbB s r.signal=0):
  submitS s r=if t.2≠0 then(s,Yy t.2)else(if r.cls≠5∧r.cls≠6 then openS (subU s r t.1) ((s.all.length:Int)+1)else subU s r t.1,⟨0,(s.all.length:Int)+1,0,[]⟩):=by
 unfold submitS
 rw[if_neg (by simp[h1]),if_neg (by simp[h2]),if_neg (by simp[h3])]
 dsimp only
 rw[ht]
 unfold ZbY
 rw[if_neg (show¬((s.all.length:Int)+1<1)by omega)]
 by_cases a:s.book.any (fun o=>o.id==(s.all.length:Int)+1)=true
 ·rw[if_pos a,if_pos a]
  exact(if_pos (by simp)).symm
 ·rw[if_neg a,if_neg a]
  unfold cntF
  by_cases b:64≤s.book.length∨24≤(s.book.filter fun o=>o.key==Zek r).length∨32≤(s.book.filter fun o=>o.group==r.group).length
  ·rw[if_pos b,if_pos b]
   exact(if_pos (by simp)).symm
  ·rw[if_neg b,if_neg b]
   refine Eq.trans ?_ (if_neg (by simp)).symm
   rfl
theorem Zl0 {id:Int} {key:Bs} (h:(ZbY l id key g).2≠0):(ZbY l id key g).1=l:=by
 unfold ZbY at h⊢
 split
 ·rfl
 ·split
  ·rfl
  ·split
   ·rfl
   ·rename_i a c b
    rw[if_neg a,if_neg c,if_neg b]at h
    exact absurd rfl h
theorem ZkF (h:ZaD s g=0):∃(k:Nat) (x:Z5),g=(k:Int)+1∧s.groups[k]? =some x∧x.torn=false:=by
 unfold ZaD at h
 split at h
 ·cases h
 ·rename_i a
  split at h
  ·rename_i x hx
   refine⟨(g-1).toNat,x,by omega,hx,?_⟩
   cases ht:x.torn with
   |false=>rfl
   |true=>rw[ht]at h;cases h
  ·cases h
theorem Zmw {gs:List Z5} {k n:Nat} (hx:gs[k]? =some x) (ht:x.torn=false) (hv:∀y∈gs,∀i∈y.members,1≤i∧i≤(n:Int)):Zcv gs ((k:Int)+1) ((n:Int)+1)=gs.set k {x with members:=x.members++[(n:Int)+1]}:=by
 have b:=(Jk hx)
 unfold Zcv
 rw[if_neg (by omega),show((k:Int)+1-1).toNat=k by omega,hx]
 have ho:ofG gs ((n:Int)+1)=none:=by
  unfold ofG
  rw[List.findIdx?_eq_none_iff]
  intro y a
  cases hc:y.members.contains ((n:Int)+1)with
  |false=>rfl
  |true=>
   have:=hv y a _ (List.contains_iff_mem.1 hc)
   omega
 dsimp only
 rw[ho,ht,if_neg (by simp;omega),Zkt (fun y a=>by have:=hv x (Xc hx) y a;omega)]
section
variable {w:World} {b:Nat} {P:YI} {lk:Option Nat} {s:Zf} {va vp vl:Value} {F:List Nat}
theorem ZmL (h:Zh w b P lk s va vp vl F) {n k:Nat} (hx:s.groups[k]? =some x) (ht:x.torn=false) (hv:∀y∈s.groups,∀i∈y.members,1≤i∧i≤(n:Int)) (hl:s.groups.length≤1000000) (hm:∀g∈s.groups,g.members.length≤1000000∧g.members.Pairwise (·<·)):
  Calls Tryz.prog 68 #[.pointer (some ⟨P.groups,0,none⟩), .int .i64 ((k:Int)+1), .int .i64 ((n:Int)+1)] w fun e w'=>e= .returned (.int .i64 0)∧∃F1,Zh w' b P lk {s with groups:=Zcv s.groups ((k:Int)+1) ((n:Int)+1)} va vp vl F1∧Zi w w' F F1:=by
 obtain⟨j,G,d,hg,I,r⟩:=h.groups
 have H:j.length=s.groups.length:=by rw[←d,Xb]
 have J:=(Jk hx)
 have a:=Xa (l:=j) (i:=k) (by omega)
 have c:(j[k]'(by omega)).2=x:=by
  have e:=congrArg (fun l=>l[k]?) d
  rw[hx]at e
  simp only[Xe,a,Option.map_some]at e
  exact Option.some.inj e
 have o:∀p∈j,p.2∈s.groups:=fun p a=>by rw[←d];exact List.mem_map.2 ⟨p,a,rfl⟩
 refine(Zmm hg (by omega) (fun p a=>(hm _ (o p a)).1) ((n:Int)+1) (by omega) (by rw[c];exact(hm x (Xc hx)).2) ?_ a (by rw[c];exact ht) (fun y m=>by rw[c]at m;have:=hv x (Xc hx) y m;omega)).mono ?_
 ·rw[List.findIdx?_eq_none_iff]
  intro y m
  cases hc:y.2.members.contains ((n:Int)+1)with
  |false=>rfl
  |true=>
   have:=hv y.2 (o y m) _ (List.contains_iff_mem.1 hc)
   omega
 ·rintro e w' ⟨rfl,v,E,t,z⟩
  obtain⟨F1,q,C⟩:=r w' _ E t z
  refine⟨rfl,F1,?_,C⟩
  rw[Zmw hx ht hv]
  rw[List.map_set,d,c]at q
  exact q
end
end Go.Proofs.YtbgbeddbfaopgaaGreatDoor
namespace Go.Lk
theorem ZrL {α:Type} {p:α→Bool} {l:List α} (h:l.findIdx? p=some i):∃x,l[i]? =some x∧p x=true∧l.find? p=some x:=by
 obtain⟨b,a,c⟩:=List.findIdx?_eq_some_iff_getElem.1 h
 refine⟨l[i],Xa b,a,?_⟩
 rw[List.find?_eq_some_iff_getElem]
 exact⟨a,i,b,rfl,fun j d=>by simpa using c j d⟩
def judgeU (num:Int) (a:Zf) (id:Int):Zf:=
 let a1:=ZR (setF a id fun f=>{f with cleared:=true,pre:=0,state:=goL f.state 2}) 6 id num 0 0
 match Zac a1 id with
 |some f=>{a1 with queue:=putQ a1.queue (Zbo f)}
 |none=>a1
def Zeo (num:Int) (a:Zf) (l:List Int):Zf:=l.foldl (judgeU num) a
theorem Zlb {num:Int} {l:List Int} {k:Nat} (h:l[k]? =some x):Zeo num s (l.take (k+1))=judgeU num (Zeo num s (l.take k)) x:=by
 unfold Zeo
 rw[List.take_add_one,h,List.foldl_append];rfl
theorem Zom {s:Zf} {k:Nat} (hf:s.all[k]? =some f) (num:Int):judgeU num s ((k:Int)+1)=
  {ZR {s with all:=s.all.set k {f with cleared:=true,pre:=0,state:=goL f.state 2}} 6 ((k:Int)+1) num 0 0 with queue:=putQ s.queue (Zbo {f with cleared:=true,pre:=0,state:=goL f.state 2})}:=by
 unfold judgeU
 dsimp only
 rw[YT hf]
 have a:=(Jk hf)
 have:Zac (ZR {s with all:=s.all.set k {f with cleared:=true,pre:=0,state:=goL f.state 2}} 6 ((k:Int)+1) num 0 0) ((k:Int)+1)=some {f with cleared:=true,pre:=0,state:=goL f.state 2}:=
  ZcM (by show(s.all.set k _)[k]? =_;rw[List.getElem?_set_self a])
 rw[this]
 rfl
theorem ZW.judgeU (h:ZW a n m) (num id:Int):ZW (Lk.judgeU num a id) (n+1) m:=by
 unfold Lk.judgeU
 have d:ZW (Lk.setF a id fun f=>{f with cleared:=true,pre:=0,state:=goL f.state 2}) n m:=h.setF id fun f b=>b.upd rfl b.since (fun e=>b.body (ZcX (by omega) e)) rfl
 have c:=d.tell 6 id num 0 0
 dsimp only
 split
 ·rename_i f b
  exact c.putQ (ZeV c b).since
 ·exact c
theorem Safe.judgeU (ha:Safe a) (num id:Int):Safe (Lk.judgeU num a id):=by
 unfold Lk.judgeU
 have b:=(ha.setF id (g:=fun f=>{f with cleared:=true,pre:=0,state:=goL f.state 2}) (fun f=>rfl)).tell 6 id num 0 0
 dsimp only
 split
 ·rename_i f c
  exact b.putItem c
 ·exact b
def ZbZ (s:Zf) (l:List Zr):List Zr:=l.foldl (fun c e=>ZcG c (max 1 (min s.conf.cache 64)) e s.now) s.cache
theorem Zko {l:List Zr} {k:Nat} (h:l[k]? =some x):ZbZ s (l.take (k+1))=ZcG (ZbZ s (l.take k)) (max 1 (min s.conf.cache 64)) x s.now:=by
 unfold ZbZ
 rw[List.take_add_one,h,List.foldl_append];rfl
theorem ZhT (h:ZW s n m) (l:List Zr):(ZbZ s l).length≤64:=h.puts s.now _ _ h.ca
def judgeV (s:Zf) (x:ZM) (k:Nat) (l:List Int) (es:List Zr):Zf:=
 {forgetS (ZR {s with cache:=ZbZ s es} 5 (l.headD 0) x.num x.conn 0) x true with shares:=s.shares.eraseIdx k}
theorem ZnY {s:Zf} {x:ZM} {o:ZH} (hq:s.shares.findIdx? (fun o=>o.num==x.num)=some k) (ho:s.shares[k]? =some o) {i:Nat} (hi:o.members.headD 0=(i:Int)+1) (hf:s.all[i]? =some f) (status:Int) (hs:List (Bs×Bs)):
  judgeS s x status hs=if(Zbs f.req status hs).2≠0 then failedS s x 8 (Zbs f.req status hs).2 else
   Zeo x.num (judgeV s x k o.members (ZbM f.req (Zbs f.req status hs).1 s.now)) o.members:=by
 unfold judgeS
 obtain⟨y,a,d,b⟩:=ZrL hq
 have:y=o:=by rw[a]at ho;exact Option.some.inj ho
 subst this
 rw[b]
 dsimp only[Option.map_some,Option.getD_some]
 rw[hi,ZcM hf]
 dsimp only
 split
 ·rfl
 ·unfold Zeo judgeV ZbZ
  rw[hi]
  have e:(forgetS (ZR {s with cache:=List.foldl (fun c e=>ZcG c (max 1 (min s.conf.cache 64)) e s.now) s.cache (ZbM f.req (Zbs f.req status hs).1 s.now)} 5 ((i:Int)+1) x.num x.conn 0) x true).shares=s.shares:=by
   unfold forgetS;dsimp only;split<;>rfl
  rw[e,hq]
  dsimp only
  rw[Ya]
  rfl
theorem ZW.judgeV (h:ZW s n m) (x:ZM) (hq:s.shares.findIdx? (fun o=>o.num==x.num)=some k) (l:List Int) (es:List Zr):ZW (Lk.judgeV s x k l es) (n+1) m:=by
 have b:ZW {s with cache:=ZbZ s es} n m:={h with ca:=h.puts s.now _ _ h.ca}
 have a:=((b.tell 5 (l.headD 0) x.num x.conn 0).forget x true).dropO x.num
 have e:(forgetS (ZR {s with cache:=ZbZ s es} 5 (l.headD 0) x.num x.conn 0) x true).shares=s.shares:=by
  unfold forgetS;dsimp only;split<;>rfl
 rw[e,hq]at a
 dsimp only at a
 rw[Ya]at a
 exact a
theorem Safe.judgeV (h:Safe s) {x:ZM} (hx:x∈s.pres) (hq:s.shares.findIdx? (fun o=>o.num==x.num)=some k) (l:List Int) (es:List Zr):Safe (Lk.judgeV s x k l es):=by
 have b:Safe {s with cache:=ZbZ s es}:=h
 have a:=(b.tell 5 (l.headD 0) x.num x.conn 0).dropP hx true
 have e:dropO (ZR {s with cache:=ZbZ s es} 5 (l.headD 0) x.num x.conn 0).shares x.num=s.shares.eraseIdx k:=by
  unfold dropO
  show(match s.shares.findIdx? (fun o=>o.num==x.num)with|some i=>Zaa s.shares i|none=>s.shares)=_
  rw[hq];dsimp only;rw[Ya]
 rw[e]at a
 exact a
theorem Znd (r:Yb) (status:Int) (l:List (Bs×Bs)):(Zbs r status l).1.age≤7200:=by
 have b:(Zb3 l).1.age≤7200:=by
  unfold Zb3
  split
  ·simp[Zp.zero]
  ·split
   ·simp[Zp.zero]
   ·dsimp only;split<;>omega
 have a:Zp.zero.age≤7200:=by simp[Zp.zero]
 unfold Zbs
 repeat' split
 all_goals first|exact a|exact b
theorem Zl5 {status:Int} {N:Nat} (h:(Zb3 l).1.methods.length≤N∧(Zb3 l).1.headers.length≤N):(Zbs r status l).1.methods.length≤N∧(Zbs r status l).1.headers.length≤N:=by
 have a:Zp.zero.methods.length≤N∧Zp.zero.headers.length≤N:=by simp[Zp.zero]
 unfold Zbs
 repeat' split
 all_goals first|exact a|exact h
end Go.Lk
namespace Go.Proofs.YtbgbeddbfaopgaaGreatDoor
open Go.RowKit Go.Lk
theorem ZoS (a c:Zr) (w:World):(binOp .eql 272 (.agg (Zo a).toArray) (.agg (Zo c).toArray)).run Tryz.prog w= .ok (.bool (a==c)) w:=by
 have u3:= Tryz.underlying9
 have u4:= Tryz.underlying4
 have u5:= Tryz.underlying22
 have K:= Tryz.isAgg9
 have L:= Tryz.isAgg4
 have G:= Tryz.isAgg22
 have I:= Tryz.sizeOf9
 have F:= Tryz.sizeOf4
 have J:= Tryz.sizeOf22
 have i: Tryz.prog.underlying 272=some (.struct (Tryz.prog.fieldsOf 272)):=by kernel_rfl
 have x: Tryz.prog.stoodInHeld 272=false:=by kernel_rfl
 have E:=D (show Tryz.prog.underlying 250=some (.struct (Tryz.prog.fieldsOf 250))by kernel_rfl)
 have C: Tryz.prog.stoodInHeld 250=false:=by kernel_rfl
 have M:= Tryz.isAgg250
 have H:= Tryz.sizeOf250
 simp only[Zo,YC,List.cons_append,List.nil_append]
 obtain⟨d,hd⟩:=Je (9997)
 rw[run_eql_struct,show(10000:Nat)=d+1+1+1 by rw[hd],run_equalIn_agg w (d+1+1) 272 _ _ i x]
 clear hd i
 simp only[Program.fieldsOf,Tryz.underlying272]
 go_simp
 obtain⟨⟨s,u1,n⟩,q,o,l⟩:=a
 obtain⟨⟨z,u2,y⟩,p,r,g⟩:=c
 by_cases f:s=z<;>by_cases j:u1=u2<;>by_cases b:n=y<;>by_cases e:q=p<;>by_cases k:o=r<;>by_cases h:l=g<;>first
 |(simp[f,j,b,e,k,h];done)
 |(
  have m:¬((l:Int)=(g:Int)):=by omega
  simp[f,j,b,e,k,h,m])
theorem Zqt {P:Program} {Q:Exit→Act→World→Prop} {ops:Array Oper} {i:Nat} {o:Oper} {a a':Act} (ho:ops[i]? =some o) (hg:o.guard=none) (t ty:TypeId) (x y:Operand) (hop:o.op= .binOp .eql t x y ty) (xs ys:Array Value)
  (hx:a.eval x= .agg xs) (hy:a.eval y= .agg ys) (hm:P.eqGuardType P.depth t=false) (b:Bool) (hr:∀W,(binOp .eql t (.agg xs) (.agg ys)).run P W= .ok (.bool b) W) (ha:a.put o.dst (.bool b)=a') (h:Z4 P ops Q r S a' w):Z4 P ops Q ((i,0)::r) S a w:=
 Zan (v:= .bool b) ho hg (fun W hW=>by
  unfold execOp
  simp only[hop,Sem.run_bind,Sem.run_pure,Result.andThen_ok,hx,hy,run_eqGuard_agg W _ t x y xs ys hm,hr W]) ha h
theorem ZkL {l:List Zr} (h:Zj 272 6 v (l.map Zo) w F) (hl:l.length≤4000000) (k:Zr):
  Calls Tryz.prog 300 #[v, .agg (Zo k).toArray] w fun e w'=>e= .returned (.int .i64 (YL (fun x=>k==x) l))∧Zg [] w w':=by
 obtain⟨A,c,rfl,s,C⟩:=h.lies
 rw[Xb]at s⊢
 obtain⟨w1,d⟩:=Je (w.alloc (.cells (Zo k).toArray 272))
 have g:=Ja d
 have E:=Jh d
 have T:=D C
 have P:=D (show Zb w1 w.heap.size 0 (Zo k)from Zb.of_block E)
 have H:=D (show Zu Tryz.prog 272 6=true by kernel_rfl)
 have O:=D (show Tryz.prog.eqGuardType Tryz.prog.depth 272=false by kernel_rfl)
 obtain⟨n,m⟩:=Je l.length
 have r:=D m
 rw[←m]at hl s⊢
 obtain⟨p,i⟩:=Je (YL (fun x=>k==x) l)
 have N:=D i
 rw[←i]
 clear h C E m s i;change Hid _ at g d
 go_enter Tryz.func300,Tryz.ntmps300
 go_upto_region 1 with fail
 rw[←d.out]
 go_wp2_with fail
 go_loopw[5,8] (fun _ s8 wr=>∃kk:Nat,kk≤n∧s8= .int .i64 kk∧Hid (∀(j:Nat) x,j<kk→l[j]? =some x→(k==x)=false)∧Hid (Zg [] w1 wr)) (fun _ s8 _=>n-(intOf s8).toNat)
 case atStart=>exact⟨0,Xn _,rfl,D (fun j x J=>absurd J (Nat.not_lt_zero _)),D (Zg.refl _ _)⟩
 case round=>
  obtain⟨kk,V,rfl,o,a⟩:=hrel
  by_cases I:kk<n
  ·have z:kk<l.length:=by rw[←r.out];exact I
   obtain⟨x,hx⟩:∃x,l[kk]? =some x:=⟨_,Xa z⟩
   obtain⟨K,rfl,G⟩:=T.out kk (Zo x) (by rw[Xe,hx];rfl)
   have Q:=D (G.upd (g.trans a (by simp)) (by simp))
   have R:=D (P.upd a (by simp))
   have L:=D hx
   obtain⟨b,hb⟩:=Je ((k==x))
   have M:=D hb
   have S:=D (show∀W,(binOp .eql 272 (.agg (Zo k).toArray) (.agg (Zo x).toArray)).run Tryz.prog W= .ok (.bool b) W from fun W=>by rw[hb];exact ZoS k x W)
   clear hx G hb z
   go_upto_region 4 with fail
   refine Jr [0,4,8,12,16,20] (fun W=>Zb W w.heap.size 0 (Zo k)∧Zb W K (kk*6) (Zo x)) ⟨R,Q.out⟩ ?_
   apply Zq (t:= 272) (x:= .tmp 3) (b:=w.heap.size) (of:=0) (cs:=Zo k)
   case ho=>simp only[Xh,Xf,Xg];rfl
   case hg=>rfl
   case hop=>rfl
   case hx=>rfl
   case ht=>exact H.out
   case hb=>exact fun W q=>q.1
   case ha=>go_simp;rfl
   repeat first|refine Jn ?_|refine Jf ?_|refine Ju ?_
   apply Zq (t:= 272) (x:= .tmp 14) (b:=K) (of:=kk*6) (cs:=Zo x)
   case ho=>simp only[Xh,Xf,Xg];rfl
   case hg=>rfl
   case hop=>rfl
   case hx=>rfl
   case ht=>exact H.out
   case hb=>exact fun W q=>q.2
   case ha=>go_simp;rfl
   apply Zqt (t:= 272) (ty:= 272) (x:= .tmp 11) (y:= .tmp 15) (xs:=(Zo k).toArray) (ys:=(Zo x).toArray) (b:=b)
   case ho=>simp only[Xh,Xf,Xg];rfl
   case hg=>rfl
   case hop=>rfl
   case hx=>rfl
   case hy=>rfl
   case hm=>exact O.out
   case hr=>exact S.out
   case ha=>go_simp;rfl
   refine ZL ?_
   simp only[Xu]
   cases b with
   |true=>
    go_wp2_with fail
    go_ret
    refine⟨?_,(g.trans a (by simp)).drewN 1⟩
    rw[N.out,Zao (p:=fun x=>k==x) (by rw[←r.out];exact I) L M.symm o.out];rfl
   |false=>
    go_wp2_with fail
    exact⟨⟨kk+1,by omega,by go_num,D (fun j y J hy=>by
     by_cases e:j=kk
     ·subst e;rw[L.out]at hy;cases hy;exact M.symm
     ·exact o j y (by omega) hy),D (a.drewN 1)⟩,by simp[intOf];omega⟩
  ·obtain rfl:kk=n:=by omega
   go_wp2_with fail
   go_ret
   refine⟨?_,g.trans a (by simp)⟩
   have hm:=o.out
   rw[r.out]at hm
   rw[N.out,YY hm];rfl
theorem ZhD {l:List Zr} (h:Zj 272 6 v (l.map Zo) w F) (hl:l.length≤4000000) (k:Zr):
  Calls Tryz.prog 238 #[v, .agg (Zo k).toArray] w fun e w'=>e= .returned (.bool (l.contains k))∧Zg [] w w':=by
 obtain⟨q,a⟩:=Je (w.alloc (.cells (Zo k).toArray 272))
 have c:=Ja a
 have i:=Jh a
 have d:=ZkL ((Zd _ _ _ _).upd h c (by simp)) hl k
 have b:decide (0≤YL (fun x=>k==x) l)=l.contains k:=(Zc2 _ _).trans (by rw[List.contains_eq_any_beq])
 obtain⟨r,j⟩:=Je (YL (fun x=>k==x) l)
 rw[←j]at d b
 rw[←b]
 have p:=D d
 have o:=D (show Zb q w.heap.size 0 (Zo k)from Zb.of_block i)
 have m:=D (show Zu Tryz.prog 272 6=true by kernel_rfl)
 clear d j b h i;change Hid _ at c a
 go_enter Tryz.func238,Tryz.ntmps238
 go_upto_region 1 with fail
 rw[←a.out]
 go_wp2_with(refine Jl o m ?_)
 refine p.out.mono ?_
 rintro e s ⟨rfl,g⟩
 have n:=Jt c g;clear g
 go_wp2_with fail
 go_ret
 exact⟨rfl,n.out⟩
def ZgQ (box:Nat) (l:List Zr):YG:=Y2 box (fun v=> #[v]) 126 272 6 (l.map Zo)
theorem ZfY (box:Nat) (l:List Zr):(ZgQ box l).Local:=Zas _ _ _ _ _ _
theorem Znx {box:Nat} (h:ZgQ box l w F) (hl:l.length≤3000000) (e:Zr):
  Calls Tryz.prog 237 #[.agg (Zo e).toArray, .pointer (some ⟨box,0,none⟩)] w fun e' w'=>e'= .returned (.tuple #[])∧∃F',ZgQ box (Zho l e) w' F'∧Zi w w' F F':=by
 obtain⟨w1,p⟩:=Je (w.alloc (.cells (Zo e).toArray 272))
 have C:=Ja p
 have S:=Jh p
 have h1:=(ZfY _ _).upd h C (by simp)
 have N:box<w.heap.size:=(ZfY _ _).lt h box (by obtain⟨v,G,rfl,_⟩:=h;simp)
 obtain⟨v,G,rfl,P,j,a⟩:=h1
 have M:w1.cell? ⟨box,0,none⟩=some v:=Zc (i:=0) j rfl
 have q:=ZhD a (by omega) e
 obtain⟨b,L⟩:=Je (l.contains e)
 rw[←L]at q
 obtain⟨R,J⟩:=Je (Zho l e)
 have HR:=D (show R=if b then l else l++[e]by rw[J,L];rfl)
 rw[←J]
 obtain⟨A,c,rfl,_,_⟩:=a.lies
 rw[Xb]at j a M q
 obtain⟨n,K⟩:=Je l.length
 have HN:=D K
 rw[←K]at j a M q hl
 clear K
 have Q:=D q
 have V:=D (show Zb w1 w.heap.size 0 (Zo e)from Zb.of_block S)
 have W:=D (show Zu Tryz.prog 272 6=true by kernel_rfl)
 have o:=D P;have aa:=D j;have ae:=D a;have aj:=D N
 clear q L J S P j a N h;change Hid _ at C p
 go_enter Tryz.func237,Tryz.ntmps237
 go_upto_region 1 with fail
 rw[←p.out]
 go_wp2_with(refine Jl V W ?_)
 refine Q.out.mono ?_
 rintro e' I ⟨rfl,d⟩
 have Y:=Jt C d
 have r:=D ((d.block box (Jg aa) (by simp)).trans aa)
 have ab:=D ((Zd _ _ _ _).upd ae d (by simp))
 have ac:=D (V.upd d (by simp))
 clear d M Q
 cases b with
 |true=>
  have H:=D (show R=l by rw[HR.out];rfl)
  go_wp2_with fail
  (try simp only[Exit.inBlock,Exit.then])
  first|refine bodyPost_ret (results_none rfl _ _ _) rfl ?_|refine bodyPost_end (results_none rfl _ _ _) rfl ?_
  rw[H.out]
  exact⟨rfl,_,⟨_,G,rfl,o.out,r.out,ab.out⟩,Y.weaken (by simp),fun k hk=> .inl hk⟩
 |false=>
  have H:=D (show R=l++[e]by rw[HR.out];rfl)
  have c2:=Jc 0 r.out
  have al:=D (show(Zo e).toArray= #[.string ⟨e.cell.origin.toArray⟩, .string ⟨e.cell.url.toArray⟩, .bool e.cell.creds, .string ⟨e.method.toArray⟩, .string ⟨e.header.toArray⟩, .int .u64 (e.until_:Int)]from rfl)
  obtain⟨w3,m⟩:=Je (I.alloc (.cells #[.string ⟨e.cell.origin.toArray⟩, .string ⟨e.cell.url.toArray⟩, .bool e.cell.creds, .string ⟨e.method.toArray⟩, .string ⟨e.header.toArray⟩, .int .u64 (e.until_:Int)] 272))
  have g:=Ja m
  have ah:=D (show Zb w3 I.heap.size 0 (Zo e)by rw[m];exact Zb.of_block (Za _))
  have s:=D ((g.block box (Jg r) (by simp)).trans r)
  have ad:=D ((Zd _ _ _ _).upd ab g (by simp))
  have X:=Jt Y g;have af:=D m
  have s3:=g.size
  clear g m
  go_upto_region 3 with(first|(refine Jl ac W ?_;rw[al.out])|(rw[←af.out];refine Zn w3 rfl (.tmp 7) (.tmp 9) 126 rfl 272 Tryz.underlying126 Zeq rfl (by omega) (by omega) (.slice A n c) (l.map Zo) G rfl ad I.heap.size 1 (Zo e) rfl ah rfl (ZbA _) (by rw[Xb,←HN.out];omega) ?_;intro v' w9 G' E z O;obtain⟨A',c',e9,_⟩:=E.form';rw[Xd,Xb,List.length_singleton,←HN.out]at e9;subst e9;have ak:=D E;have Z:=D O;have ag:=D z;have y:=D ((z.block box (Jg s) o).trans s);have c9:=Jc 0 y.out;have f9:w9.frozen? ⟨box,0,none⟩=false:=Zk y.out;clear E z O))
  obtain⟨g1,g2⟩:=ZbX (G:=G) (cs:=fun v=> #[v]) (T:= 126) o aj (Ze (i:=0) y (.slice A' (n+1) c')) ((Zd _ _ _ _).upd ak ((Zg.refl [box] w9).setCell (.inr (by simp)) _) (fun x hx hm=>by
    rw[Jm hm]at hx
    rcases Z box hx with h|h
    ·exact o h
    ·have h2:=(Jg s);omega))
   (((X.weaken (G:=box::G) (by simp)).trans (ag.weaken (G:=box::G) (fun x hx=> .inr (by simp[hx]))) (fun x hx=> .inr hx)).setCell (.inr (by simp)) _) (fun x hx=>by
    rcases Z x hx with h|h
    ·exact .inl h
    ·right;have h2:=X.size;omega)
  have ai:=D g1;have am:=D g2
  clear g1 g2
  go_wp2_with fail
  (try simp only[Exit.inBlock,Exit.then])
  first|refine bodyPost_ret (results_none rfl _ _ _) rfl ?_|refine bodyPost_end (results_none rfl _ _ _) rfl ?_
  rw[H.out]
  refine⟨rfl,box::G',?_,am.out⟩
  unfold ZgQ
  rw[Xs]
  exact ai.out
end Go.Proofs.YtbgbeddbfaopgaaGreatDoor
namespace Go.Lk
open Go.RowKit
def Zt (vm vh:Value) (a:Zp):List Value:=[vm,vh, .int .u64 a.age]
end Go.Lk
namespace Go.Proofs.YtbgbeddbfaopgaaGreatDoor
open Go.RowKit Go.Lk
theorem Zaw.few (h:Zaw l):Zd3 l:=fun x hx=>by have:=h.2 x hx;omega
theorem ZhF (h:Zaw l) (name:Bs):(Zdc l name).1.length≤900000:=by
 unfold Zdc Zfk
 have b:∀x∈Zam l name,x.length≤5000:=fun x hx=>by
  unfold Zam at hx
  obtain⟨y,c,rfl⟩:=List.mem_map.1 hx
  have:=ZaC y.2
  have:=h.2 y (List.mem_filter.1 c).1
  omega
 have a:=ZeW [44,32] 5000 (Zam l name) b
 have d:=ZgF l name
 have e:=h.1
 calc _≤(5000+([44,32]:Bs).length)*(Zam l name).length:=a
  _≤5002*100:=Nat.mul_le_mul (by simp) (by omega)
  _≤900000:=by omega
theorem Zcg (h:Ye v l w M) (hl:l.length≤1000000) (x:Bs):
  Calls Tryz.prog 144 #[v, .string ⟨x.toArray⟩] w fun e w'=>e= .returned (.bool (l.contains x))∧w'=w:=by
 rcases h.form with⟨rfl,m,rfl⟩|⟨g,c,n,b,rfl,o,r,s,p,ht⟩
 ·have d:l=[]:=List.map_eq_nil_iff.1 m
  subst d
  exact Tryz.slices_Contains_string_empty none 0 ⟨x.toArray⟩ w
 ·rw[Xb]at b
  subst b
  have q:= Tryz.slices_Contains_string g 0 l.length c (l.map fun x=>(⟨x.toArray⟩:ByteArray)) ⟨x.toArray⟩ w (by rw[Xb];exact Xi _) (by omega) (fun j a=>by
   rw[Xb]at a
   have:=Zj.liesAt h (j:=j) (cs:=Zbb l[j]) (by rw[Xe,Xa a];rfl) 0 _ rfl
   rw[Nat.mul_one,Nat.add_zero]at this
   rw[Nat.zero_add,this]
   simp[List.getD,a])
  have e:Lib.containsS ((l.map fun x=>(⟨x.toArray⟩:ByteArray)).take l.length) ⟨x.toArray⟩=l.contains x:=by
   rw[List.take_of_length_le (by simp),Bool.eq_iff_iff,Lib.containsS_iff,List.contains_iff_mem]
   constructor
   ·intro hx
    obtain⟨y,i,k⟩:=List.mem_map.1 hx
    have:y=x:=by simpa using k
    exact this▸i
   ·intro hx;exact List.mem_map.2 ⟨x,hx,rfl⟩
  rw[e]at q
  exact q
def ZmR (w:World) (o:Option (List Bs)) (e:Ending) (w':World):Prop:=∃(v:Value) (M:List Nat),e= .returned (.tuple #[v, .bool o.isSome])∧Ye v (o.getD []) w' M∧(∀k∈M,w.heap.size≤k)∧Zg [] w w'
theorem Zgt (l:List (Bs×Bs)) (A:Option Addr) (c:Nat) (name:Bs) (w:World) (hA:Zay w A l) (hf:Zaw l) (hn:name.length≤900000) (hE:Env w):
  Calls Tryz.prog 299 #[.slice A l.length c, .string ⟨name.toArray⟩] w (ZmR w (Zbx l name)):=by
 obtain⟨R,C⟩:=Je (Zbx l name)
 obtain⟨v,hv⟩:=Je (Zdc l name)
 obtain⟨ts,i⟩:=Je (Zie v.1)
 have Y:=D (show R=if ts.all Zaz then some ts else none by rw[C,i,hv];rfl)
 have j:=ZdY l A c name w hA (by have:=hf.1;omega) (Zaw.few hf) hn
 rw[←hv]at j
 have I:v.1.length≤900000:=by rw[hv];exact ZhF hf name
 have V:∀W,Zg [] w W→Calls Tryz.prog 341 #[.string ⟨v.1.toArray⟩] W (Zdo W ts):=fun W hW=>by rw[i];exact Zkn v.1 W I (hE.upd0 hW)
 have t:ts.length≤1000000∧∀x∈ts,x.length≤1000000:=by
  have hs:=ZaN 44 v.1.length v.1 (Xi _)
  rw[i]
  unfold Zie
  refine⟨Xj (Xq _ _) (by rw[Xb];omega),fun x hx=> ?_⟩
  obtain⟨y,a,rfl⟩:=List.mem_map.1 (List.mem_filter.1 hx).1
  have:=ZaC y
  have:=hs.2 y a
  omega
 rw[←C]
 obtain⟨n,hn⟩:=Je l.length
 rw[←hn]at j⊢
 have E:=D j;have F:=D V;have ah:=D t.2
 have ac:=t.1
 clear j V C hv i I t hA hf hE hn
 obtain⟨v1,v2⟩:=v
 dsimp only at E F
 go_enter Tryz.func299,Tryz.ntmps299
 go_wp2_with fail
 refine E.out.mono ?_
 rintro e w2 ⟨rfl,H⟩
 have r:=D H;clear H E
 go_wp2_with fail
 refine(F.out w2 r).mono ?_
 rintro e w3 ⟨v3,M,rfl,s,J,K⟩
 have S:=Jt r K
 have O:=D s
 have ad:=D (show∀k∈M,w.heap.size≤k from fun k X=>by have h1:=J k X;have h2:=r.size;omega)
 obtain⟨A3,c3,rfl,af,L⟩:=s.strs
 have ae:=D L
 obtain⟨tn,p⟩:=Je ts.length
 have N:=D p
 rw[←p]at O ac⊢
 clear K s J L af F p
 go_wp2_with fail
 go_loopw[21,10] (fun v21 _ wr=>∃(k:Nat),k≤tn∧v21= .int .i64 k∧Hid ((ts.take k).all Zaz=true)∧wr=w3) (fun v21 _ _=>tn-(intOf v21).toNat)
 case atStart=>exact⟨0,Xn _,rfl,D rfl,rfl⟩
 case round=>
  obtain⟨k,X,rfl,G,rfl⟩:=hrel
  by_cases ag:k<tn
  ·have g:k<ts.length:=by rw[←N.out];exact ag
   obtain⟨y,a⟩:∃y,ts[k]? =some y:=⟨_,Xa g⟩
   obtain⟨ab,ao,rfl,ai⟩:=ae.out k y a
   have o:=Xc a
   have q:=Zco y wr (ah.out y o)
   obtain⟨b,m⟩:=Je (Zaz y)
   rw[←m]at q
   have T:(ts.take (k+1))=ts.take k++[y]:=by rw[Xr g];congr;rw[Xa g]at a;injection a
   have aa:=D (show b=false→R=none from fun z=>by
    rw[Y.out,if_neg]
    intro h
    have:=(Xk.1 h) y o
    rw[←m,z]at this;cases this)
   have Z:=D (show b=true→(ts.take (k+1)).all Zaz=true from fun z=>by rw[T,List.all_append,G.out];simp[←m,z])
   have Q:=D q
   clear q m T o a g
   go_wp2_with fail
   refine Q.out.mono ?_
   rintro e wt ⟨rfl,P⟩
   rw[←P];clear P wt Q
   cases b with
   |true=>
    have HN:=D (Z.out rfl)
    go_wp2_with fail
    exact⟨⟨k+1,by omega,by go_num,HN,by trivial⟩,by simp[intOf];omega⟩
   |false=>
    have d:=D (aa.out rfl)
    go_wp2_with fail
    go_ret2
    exact⟨_,[],by rw[d.out];rfl,by rw[d.out];exact ZD _ _ _,by simp,S.out⟩
  ·obtain rfl:k=tn:=by omega
   have d:=D (show R=some ts by have h:=G.out;rw[N.out,Xm]at h;rw[Y.out,if_pos h])
   go_wp2_with fail
   go_ret2
   exact⟨_,M,by rw[d.out];rfl,by rw[d.out];exact O,ad.out,S.out⟩
structure Zdp (w:World) (a:Zp) (vm vh:Value) (M1 M2:List Nat):Prop where
 ms:Ye vm a.methods w M1
 hs:Ye vh a.headers w M2
 ml:a.methods.length≤1000000
 hl:a.headers.length≤1000000
theorem Zdp.upd0 {vm vh:Value} (h:Zdp w a vm vh M1 M2) (hu:Zg [] w w'):Zdp w' a vm vh M1 M2:=
 ⟨(Zm _ _).upd h.ms hu (by simp),(Zm _ _).upd h.hs hu (by simp),h.ml,h.hl⟩
theorem Zoq (a:Zp) (vm vh:Value) (M1 M2:List Nat) (m:Bs) (creds:Bool) (w:World) (h:Zdp w a vm vh M1 M2) (hm:m.length≤1000000):
  Calls Tryz.prog 235 #[.agg (Zt vm vh a).toArray, .string ⟨m.toArray⟩, .bool creds] w fun e w'=>e= .returned (.bool (ZqT a m creds))∧Zg [] w w':=by
 obtain⟨R,F⟩:=Je (ZqT a m creds)
 obtain⟨M,n⟩:=Je (ZfX m)
 obtain⟨C,q⟩:=Je (a.methods.contains m)
 obtain⟨r,p⟩:=Je (a.methods.contains [42])
 have l:=D (show R=(M||C||(!creds&&r))by rw[F,n,q,p];rfl)
 rw[←F]
 obtain⟨z,j⟩:=Je (w.alloc (.cells (Zt vm vh a).toArray 267))
 have g:=Ja j
 have o:=Jh j
 have s:=ZeL m z hm
 rw[←n]at s
 have J:∀W,Zg [] z W→Calls Tryz.prog 144 #[vm, .string ⟨m.toArray⟩] W fun e w'=>e= .returned (.bool C)∧w'=W:=fun W y=>by rw[q];exact Zcg ((h.upd0 g).upd0 y).ms h.ml m
 have N:∀W,Zg [] z W→Calls Tryz.prog 144 #[vm, .string ⟨#[42]⟩] W fun e w'=>e= .returned (.bool r)∧w'=W:=fun W y=>by rw[p];exact Zcg ((h.upd0 g).upd0 y).ms h.ml [42]
 have K:=D s;have I:=D J;have L:=D N
 clear s J N F n q p h;change Hid _ at g j o
 go_enter Tryz.func235,Tryz.ntmps235
 go_upto_region 1 with fail
 rw[←j.out]
 go_wp2_with fail
 refine K.out.mono ?_
 rintro e E ⟨rfl,d⟩
 have G:=D d;have k:=Jt g d
 have H:=(d.block w.heap.size (Jg o) (by simp)).trans o.out
 have O:E.cell? ⟨w.heap.size,0,none⟩=some vm:=Zc (i:=0) H rfl
 clear d H K
 cases M with
 |true=>
  have b:=D (show R=true by rw[l.out];rfl)
  go_wp2_with fail
  go_ret
  exact⟨by rw[b.out];rfl,k.out⟩
 |false=>
 go_wp2_with fail
 refine(I.out E G).mono ?_
 rintro e x ⟨rfl,c⟩
 rw[c];clear c x I
 cases C with
 |true=>
  have b:=D (show R=true by rw[l.out];rfl)
  go_wp2_with fail
  go_ret
  exact⟨by rw[b.out];rfl,k.out⟩
 |false=>
 cases creds with
 |true=>
  have b:=D (show R=false by rw[l.out];rfl)
  go_wp2_with fail
  go_ret
  exact⟨by rw[b.out];rfl,k.out⟩
 |false=>
  have b:=D (show R=r by rw[l.out];rfl)
  go_wp2_with fail
  refine(L.out E G).mono ?_
  rintro e x ⟨rfl,c⟩
  rw[c];clear c x L
  go_wp2_with fail
  go_ret
  exact⟨by rw[b.out];rfl,k.out⟩
theorem ZjX (a:Zp) (vm vh:Value) (M1 M2:List Nat) (m:Bs) (creds:Bool) (w:World) (h:Zdp w a vm vh M1 M2) (hm:m.length≤1000000):
  Calls Tryz.prog 236 #[.agg (Zt vm vh a).toArray, .string ⟨m.toArray⟩, .bool creds] w fun e w'=>e= .returned (.bool (Zck a m creds))∧Zg [] w w':=by
 obtain⟨R,H⟩:=Je (Zck a m creds)
 obtain⟨c,r⟩:=Je (Yx m)
 obtain⟨F,s⟩:=Je (a.headers.contains c)
 obtain⟨x,q⟩:=Je (a.headers.contains [42])
 have o:=D (show R=(F||(!creds&&c !=[97,117,116,104,111,114,105,122,97,116,105,111,110]&&x))by rw[H,s,q,r];rfl)
 rw[←H]
 obtain⟨E,k⟩:=Je (w.alloc (.cells (Zt vm vh a).toArray 267))
 have j:=Ja k
 have p:=Jh k
 have y:=YJ m E hm
 rw[←r]at y
 have L:∀W,Zg [] E W→Calls Tryz.prog 144 #[vh, .string ⟨c.toArray⟩] W fun e w'=>e= .returned (.bool F)∧w'=W:=fun W C=>by rw[s];exact Zcg ((h.upd0 j).upd0 C).hs h.hl c
 have O:∀W,Zg [] E W→Calls Tryz.prog 144 #[vh, .string ⟨#[42]⟩] W fun e w'=>e= .returned (.bool x)∧w'=W:=fun W C=>by rw[q];exact Zcg ((h.upd0 j).upd0 C).hs h.hl [42]
 have M:=D y;have K:=D L;have N:=D O
 clear y L O H r s q h;change Hid _ at j k p
 go_enter Tryz.func236,Tryz.ntmps236
 go_upto_region 1 with fail
 rw[←k.out]
 go_wp2_with fail
 refine M.out.mono ?_
 rintro e G ⟨rfl,g⟩
 have I:=D g;have l:=Jt j g
 have J:=(g.block w.heap.size (Jg p) (by simp)).trans p.out
 have Q:G.cell? ⟨w.heap.size,1,none⟩=some vh:=Zc (i:=1) J rfl
 clear g J M
 go_wp2_with fail
 refine(K.out G I).mono ?_
 rintro e z ⟨rfl,d⟩
 rw[d];clear d z K
 cases F with
 |true=>
  have b:=D (show R=true by rw[o.out];rfl)
  go_wp2_with fail
  go_ret
  exact⟨by rw[b.out];rfl,l.out⟩
 |false=>
 cases creds with
 |true=>
  have b:=D (show R=false by rw[o.out];rfl)
  go_wp2_with fail
  go_ret
  exact⟨by rw[b.out];rfl,l.out⟩
 |false=>
 by_cases n:c=[97,117,116,104,111,114,105,122,97,116,105,111,110]
 ·have b:=D (show R=false by rw[o.out,n];rfl)
  subst n
  go_wp2_with fail
  go_ret
  exact⟨by rw[b.out];rfl,l.out⟩
 ·have P:(c==([97,117,116,104,111,114,105,122,97,116,105,111,110]:Bs))=false:=by rw[beq_eq_false_iff_ne];exact n
  have b:=D (show R=x by rw[o.out,bne,P];rfl)
  clear n
  go_wp2_with fail
  refine(N.out G I).mono ?_
  rintro e z ⟨rfl,d⟩
  rw[d];clear d z N
  go_wp2_with fail
  go_ret
  exact⟨by rw[b.out];rfl,l.out⟩
end Go.Proofs.YtbgbeddbfaopgaaGreatDoor
