import Derived.Test.YtbgbeddbfaopgaaGreatDoorZ20
set_option linter.all false
set_option maxHeartbeats 16000000
set_option maxRecDepth 100000
set_option autoImplicit true
set_option relaxedAutoImplicit true
namespace Go.Proofs.YtbgbeddbfaopgaaGreatDoor
open Go.RowKit Go.Lk
theorem ZfL (h:Zh w b P none s va vp vl F) (hfit:ZW s n m) (hs:Lk.Safe s) (hn:n≤800000) (hm:m≤900000) {i p:Nat} (hp:P.fps[i]? =some p) (hf:s.all[i]? =some f)
  (st:Int) (hst:6≤st∧st≤10):
  Calls Tryz.prog 75 #[.pointer (some ⟨b,0,none⟩), .pointer (some ⟨p,0,none⟩), .int .i64 st] w (Zjx b P none (overS s ((i:Int)+1) st) va w F):=by
 have ay:∀(fn:Fn) (first cap:Array Value) (w:World),(Instr.makeFunc fn first cap).run Tryz.prog w= .ok (.func fn first cap) w:=fun _ _ _ _=>rfl
 obtain⟨R,I⟩:=Je (overS s ((i:Int)+1) st)
 rw[←I]
 obtain⟨W,d⟩:=Je (((w.alloc (.cells #[.pointer (some ⟨b,0,none⟩)] 25)).alloc (.cells #[.pointer (some ⟨p,0,none⟩)] 98)).alloc (.cells #[.int .i64 st] 3))
 have J:Zg [] w W:=by rw[d];exact(((Zg.refl [] w).alloc _).alloc _).alloc _
 have x:=h.lt
 have l:=h.upd0 J
 have ak:W.heap[w.heap.size]? =some (.cells #[.pointer (some ⟨b,0,none⟩)] 25 (0,0)):=by rw[d,ZB _ (by simp;omega),ZB _ (by simp)];exact Za _
 have aj:W.heap[w.heap.size+1]? =some (.cells #[.pointer (some ⟨p,0,none⟩)] 98 (0,0)):=by
  rw[d,ZB _ (by simp)]
  have:=Za (w:=w.alloc (.cells #[.pointer (some ⟨b,0,none⟩)] 25)) (.cells #[.pointer (some ⟨p,0,none⟩)] 98 (0,0));simpa using this
 have am:W.heap[w.heap.size+2]? =some (.cells #[.int .i64 st] 3 (0,0)):=by
  rw[d]
  have:=Za (w:=(w.alloc (.cells #[.pointer (some ⟨b,0,none⟩)] 25)).alloc (.cells #[.pointer (some ⟨p,0,none⟩)] 98)) (.cells #[.int .i64 st] 3 (0,0));simpa using this
 have au:W.heap.size=w.heap.size+3:=by rw[d];simp
 have M:Zci W (w.heap.size+1) (w.heap.size+2) w.heap.size p b st F:=⟨aj,am,ak,fun hm=>by have:=x _ hm;omega,fun hm=>by have:=x _ hm;omega,fun hm=>by have:=x _ hm;omega⟩
 obtain⟨vh,lb,vb,Gh,Gb,hA,ac,ai⟩:=l.fetch hp hf
 have cf:W.cell? ⟨w.heap.size+1,0,none⟩=some (.pointer (some ⟨p,0,none⟩)):=M.cells.1
 have ap:=D M;have y:=D hA;have ar:=D ai;have Z:=D hp;have C:=D hf;have aq:=D hfit;have HS:=D hs;have H1:=D l;have av:=D ac;have az:=D x
 clear M hA ai hp hf hfit hs l h ak aj am ac au x;change Hid _ at J d I
 go_enter Tryz.func75,Tryz.ntmps75
 go_upto_region 1 with fail
 rw[←d.out]
 have o:=fun(k:Nat) (v:Value) (z:(ZaG f (none==some i) vh lb vb)[k]? =some v)=>(Zc (i:=k) y.blk (by simpa using z):W.cell? ⟨p,k,none⟩=some v)
 cases he:f.ended with
 |true=>
  have HE:=D (I.trans (ZiH C he st))
  go_wp2_with fail
  refine(Zee ⟨p,19,none⟩ 1 rfl _ _ (o 19 _ (by unfold ZaG;rw[he];rfl))).mono ?_
  rintro e w3 ⟨rfl,rfl⟩
  clear o
  go_wp2_with fail
  (try simp only[Exit.inBlock,Exit.then])
  first|refine bodyPost_ret (results_none rfl _ _ _) rfl ?_|refine bodyPost_end (results_none rfl _ _ _) rfl ?_
  rw[HE.out]
  exact⟨rfl,P.qps,vp,vl,F,H1.out,⟨J.weaken (by simp),fun k z=> .inl z⟩⟩
 |false=>
  have HE:=D (I.trans (Zls C he st))
  go_wp2_with fail
  obtain⟨W1,G⟩:=Je (W.setCell ⟨p,20,none⟩ (.int .i32 1))
  have ad:Zg [p] W W1:=by rw[G];exact(Zg.refl _ _).setCell (.inr (by simp)) _
  obtain⟨a1,g1⟩:=y.setBlk (f':={f with ended:=true}) (lk':=true) ad (by rw[G,Ze y.blk];unfold ZaG;rw[he];rfl) rfl rfl rfl
  obtain⟨F1,l,V⟩:=ar.out W1 {f with ended:=true} (some i) _ _ _ _ _ (fun j X=>by
   have:¬i=j:=fun e=>X e.symm
   simp[this]) (by simpa using a1) g1
  have H:=ZP (f':={f with ended:=true}) C.out
  have aa:ZW {s with all:=s.all.set i {f with ended:=true}} n m:=by
   have a:=aq.setF ((i:Int)+1) (g:=fun f=>{f with ended:=true}) (fun f hf=>hf.upd rfl hf.since hf.body rfl)
   rw[YT C.out]at a;exact a
  have ah:Lk.Safe {s with all:=s.all.set i {f with ended:=true}}:=by
   have a:=HS.setF ((i:Int)+1) (g:=fun f=>{f with ended:=true}) (fun f=>rfl)
   rw[YT C.out]at a;exact a
  have Q:=Zlk l aa ah hn hm Z H st hst (ap.step V)
  rw[G]at Q
  refine(Zdu p 19 133 #[.pointer (some ⟨w.heap.size+1,0,none⟩), .pointer (some ⟨w.heap.size+2,0,none⟩), .pointer (some ⟨w.heap.size,0,none⟩)] W (fun c=>∃q S T L,Zh c b {P with qps:=q} (some i) (Zdi {s with all:=s.all.set i {f with ended:=true}} i {f with ended:=true} st) va S T L∧Zi (W.setCell ⟨p,20,none⟩ (.int .i32 1)) c F1 L)
   (o 19 _ (by unfold ZaG;rw[he];rfl)) (o 20 _ rfl) (Zk y.blk) (Zk y.blk) (fun W=>Go.MuLone.run_callFunc_enter Tryz.func133 (by kernel_rfl) rfl _ _) (Q.mono fun e c z=>z) ?_).mono ?_
  ·rintro c ⟨q,S,T,L,K,g'⟩
   obtain⟨f',r,N⟩:=Zjf (s0:={s with all:=s.all.set i {f with ended:=true}}) H st
   obtain⟨al,af,ae,E,_⟩:=K.fcell (P:={P with qps:=q}) Z r
   refine⟨Zc (i:=19) E ?_,Zc (i:=20) E ?_,Zk E,Zk E⟩
   ·unfold ZaG;simp
   ·unfold ZaG;simp
  ·rintro e aA ⟨rfl,c,⟨q,S,T,L,K,g'⟩,rfl⟩
   obtain⟨f',r,N⟩:=Zjf (s0:={s with all:=s.all.set i {f with ended:=true}}) H st
   obtain⟨al,af,ae,aw,ax,O,ao,ab⟩:=K.fetch (P:={P with qps:=q}) Z r
   have an:((c.drew.setCell ⟨p,19,none⟩ (.int .u32 1)).setCell ⟨p,20,none⟩ (.int .i32 0)).heap[p]? =some (.cells (ZaG f' false al af ae).toArray 112 (0,0)):=by
    rw[Ze (Ze (show c.drew.heap[p]? =_ from O.blk) _)]
    unfold ZaG;rw[N];simp
   obtain⟨a2,g2⟩:=O.setBlk (f':=f') (lk':=false) ((((Zg.refl [p] c).drew).setCell (.inr (by simp)) _).setCell (.inr (by simp)) _) an rfl rfl rfl
   obtain⟨F2,Y,ag⟩:=ab _ f' none _ _ _ _ _ (fun j X=>by
    have:¬i=j:=fun e=>X e.symm
    simp[this]) (by simpa using a2) g2
   rw[ZkE r]at Y
   have H2:=D Y
   have G2:=D ((((show Zi W (W.setCell ⟨p,20,none⟩ (.int .i32 1)) F F1 by rw[←G];exact V).trans g').trans ag).pre0 J)
   clear Y ag g2 a2 an ab ao O r N K g' Q ah aa H l V a1 g1 ad o
   go_wp2_with fail
   (try simp only[Exit.inBlock,Exit.then])
   first|refine bodyPost_ret (results_none rfl _ _ _) rfl ?_|refine bodyPost_end (results_none rfl _ _ _) rfl ?_
   rw[HE.out]
   exact⟨rfl,_,_,_,_,H2.out,G2.out⟩
theorem Zd2 {P:Prop}(h:P:=by
 have z:=D (HE.trans (show _=({s with queue:=putQ s.queue (Zbo {f with state:=goL f.state 2,since:=s.now}),all:=s.all.set i {f with state:=goL f.state 2,since:=s.now,timer:=0}}:Zf)by rw[if_pos T]))
 refine(ZhY ab (Xj o.tm (by omega)) (by omega) _ _).mono ?_
 rintro e w8 ⟨rfl,y⟩
 have g:=H7.upd0 y
 obtain⟨fz,F9,c,l⟩:=g.setFCell k r 14 (.int .i64 0) {f with state:=goL f.state 2,since:=s.now,timer:=0} (fun _ _ _ _=>rfl) rfl rfl rfl
 rw[List.set_set]at c
 obtain⟨af,ae,ah,d,_⟩:=g.fcell k r.out
 obtain⟨ac,ai,ad,j,_⟩:=c.fcell k (ZP HF)
 have E:=Jx 13 d
 have J:=Jx 0 d
 have C:=Jx 11 g.blk.1
 have I:=D (Zc (i:=13) j rfl);have M:=D (Zc (i:=0) j rfl);have H:=D (Zc (i:=11) c.blk.1 rfl)
 have ag:=Jx 14 d
 have L:=D c;have K:=D (aa.trans ((l.pre0 y).pre0 X))
 clear y g c l d j
 go_wp2_with fail
 refine⟨_,fun W a=>a,⟨C,E,J⟩,?_⟩
 repeat first|refine Jn ?_|refine Jf ?_|refine Ju ?_
 refine JE ?_
 go_wp2_with fail
 refine⟨_,fun W a=>a,⟨H,I.out,M.out⟩,ZL ?_⟩
 go_wp2_with fail
 (try simp only[Exit.inBlock,Exit.then])
 first|refine bodyPost_ret (results_none rfl _ _ _) rfl ?_|refine bodyPost_end (results_none rfl _ _ _) rfl ?_
 rw[z.out]
 exact⟨rfl,_,L.out,K.out⟩):P:=h
theorem ZfT {P:Prop}(h:P:=by
 rw[av.out]
 refine(ZoE ab (by omega) (by omega) _ _ o.tl.1 (by have:=o.tl.2;omega)).mono ?_
 rintro e w8 ⟨rfl,G8,V,Y⟩
 obtain⟨F8,g,g8⟩:=ay.out _ _ _ _ V Y
 obtain⟨fz,F9,c,l⟩:=g.setFCell k r 14 (.int .i64 (s.tlast+1)) {f with state:=goL f.state 2,since:=s.now,timer:=s.tlast+1} (fun _ _ _ _=>rfl) rfl rfl rfl
 rw[List.set_set]at c
 obtain⟨af,ae,ah,d,_⟩:=g.fcell k r.out
 obtain⟨ac,ai,ad,j,_⟩:=c.fcell k (ZP HF)
 have E:=Jx 13 d
 have J:=Jx 0 d
 have C:=Jx 11 g.blk.1
 have I:=D (Zc (i:=13) j rfl);have M:=D (Zc (i:=0) j rfl);have H:=D (Zc (i:=11) c.blk.1 rfl)
 have ag:=Jx 14 d
 have L:=D c;have K:=D (aa.trans ((g8.trans l).pre0 X))
 clear g c l g8 d j V Y
 go_wp2_with fail
 refine⟨_,fun W a=>a,⟨C,E,J⟩,?_⟩
 repeat first|refine Jn ?_|refine Jf ?_|refine Ju ?_
 refine JE ?_
 go_wp2_with fail
 refine⟨_,fun W a=>a,⟨H,I.out,M.out⟩,ZL ?_⟩
 go_wp2_with fail
 (try simp only[Exit.inBlock,Exit.then])
 first|refine bodyPost_ret (results_none rfl _ _ _) rfl ?_|refine bodyPost_end (results_none rfl _ _ _) rfl ?_
 rw[z.out]
 exact⟨rfl,_,L.out,K.out⟩):P:=h
theorem Zgn {P:Prop}(h:P:=by
 have z:=D (HE.trans (show _=({s with queue:=putQ s.queue (Zbo {f with state:=goL f.state 2,since:=s.now}),timers:=s.timers++[⟨addT s.now O,s.tlast+1,(i:Int)+1⟩],tlast:=s.tlast+1,all:=s.all.set i {f with state:=goL f.state 2,since:=s.now,timer:=s.tlast+1}}:Zf)by rw[if_neg T]))
 exact ZfT):P:=h
theorem Zmr (h:Zh w b P lk s va vp vl F) (hfit:ZW s n m) (hn:n≤1000000) {i p:Nat} (hp:P.fps[i]? =some p) (hf:s.all[i]? =some f) (hid:f.id=(i:Int)+1):
  Calls Tryz.prog 69 #[.pointer (some ⟨b,0,none⟩), .pointer (some ⟨p,0,none⟩)] w fun e w'=>e= .returned (.tuple #[])∧∃F',Zh w' b P lk (openS s ((i:Int)+1)) va vp vl F'∧Zi w w' F F':=by
 obtain⟨R,hR⟩:=Je (openS s ((i:Int)+1))
 have HR:=D (hR.trans (ZlM hf))
 rw[←hR]
 have aF:=hfit.fs f (Xc hf)
 have aG:=D aF
 have o:=D hfit
 obtain⟨lb,aU,hl,aM⟩:=h.life hp hf
 have aO:=D aM;have k:=D hp;have HF:=D hf;have av:=D hid;have HL:=D hl
 have HB:=D h.blk.2
 clear hR aF hfit aM h hp hf hid hl
 go_enter Tryz.func69,Tryz.ntmps69
 go_wp2_with fail
 refine(ZcP HL 2).mono ?_
 rintro e w2 ⟨rfl,aB,aC⟩
 obtain⟨F2,h2,g2⟩:=aO.out w2 _ aB aC
 have aw:=ZP (f':={f with state:=goL f.state 2}) HF.out
 obtain⟨vh,aW,vb,aN,_⟩:=h2.fcell k aw
 have c7:=Jx 7 h2.blk.1
 have x:=Jx 13 aN
 have H2:=D h2;have G2:=D g2;have aR:=D aw
 clear aB aC h2 g2 aw aN aU
 go_upto_region 1 with fail
 go_wp2_with fail
 refine(Za5 H2.clock.1).mono ?_
 rintro e W ⟨rfl,rfl⟩
 obtain⟨fz,F3,h3,g3⟩:=H2.setFCell k aR 13 (.int .u64 (s.now:Int)) {f with state:=goL f.state 2,since:=s.now} (fun _ _ _ _=>rfl) rfl rfl rfl
 rw[List.set_set]at h3
 obtain⟨w3,al⟩:=Je (W.setCell ⟨p,13,none⟩ (.int .u64 (s.now:Int)))
 rw[←al]at h3 g3
 have H3:=D h3;have G3:=D (G2.trans g3)
 clear h3 g3;change Hid _ at al
 go_upto_region 2 with fail
 rw[←al.out]
 clear c7 x
 have ap:=ZP (f':={f with state:=goL f.state 2,since:=s.now}) HF.out
 obtain⟨w4,ak⟩:=Je w3.drew
 have am:=Jd ak
 have h4:=H3.upd0 am
 obtain⟨aX,aV,a1,aI,_⟩:=h4.fcell k ap
 have c9:=Jx 9 h4.blk.1
 have aQ:=D (Zis aI)
 have H4:=D h4;have r:=D ap
 clear h4 ap aI;change Hid _ at ak am
 refine Jr [0,4,8,12,16,21,26] (fun W=>W.cell? ⟨b,9,none⟩=some (.pointer (some ⟨P.queue,0,none⟩))) (by rw[ak.out]at c9;exact c9) ?_
 repeat first|refine Jn ?_|refine Jf ?_|refine Ju ?_
 refine JE ?_
 simp only[Xu]
 rw[←ak.out]
 go_wp2_with fail
 refine aQ.out.mono ?_
 rintro e w5 ⟨rfl,ao⟩
 have h5:=H4.upd0 ao
 have aK:=Jx 9 h5.blk.1
 obtain⟨G,hq,an,az⟩:=h5.queue
 have HQ:=D hq;have aS:=D az;have aT:=Jt am ao
 clear ao h5 hq an az c9
 go_wp2_with fail
 refine⟨_,fun W a=>a,aK,?_⟩
 refine JL ?_
 go_wp2_with fail
 refine(ZgI HQ (Xj o.q (by omega)) _).mono ?_
 rintro e w6 ⟨cq,rfl,G6,aD,aJ⟩
 obtain⟨F6,h6,g6⟩:=aS.out _ _ _ aD aJ
 have H6:=D h6;have aa:=D (G3.trans (g6.pre0 aT))
 clear aD aJ h6 g6 aK
 go_wp2_with fail
 refine Jz ?_
 obtain⟨S,ar⟩:∃S:Nat,f.req.timeout=(S:Int):=Int.eq_ofNat_of_zero_le aG.req.t.1
 have aq:=D ar
 obtain⟨O,ax⟩:=Je s.conf.timeout
 have aj:=D ax
 have aP:=D (show S≤18446744073709551615 by have:=aG.req.t.2;omega)
 have aH:=D (show O≤18446744073709551615 by have h:=o.conf;unfold Zak at h;simp only[Bool.and_eq_true,decide_eq_true_eq]at h;omega)
 obtain⟨w7,Z⟩:=Je w6.drew
 have X:=Jd Z
 have h7:=H6.upd0 X
 obtain⟨a4,aY,a2,aE,_⟩:=H6.fcell k r.out
 have d8:w6.cell? ⟨p,8,none⟩=some (.int .u64 (S:Int)):=by rw[←ar];exact Zc (i:=8) aE rfl
 have c6:w6.cell? ⟨b,6,none⟩=some (.int .u64 (O:Int)):=by rw[ax];exact Zc (i:=6) H6.blk.1 rfl
 obtain⟨a0,aZ,a3,au,_⟩:=h7.fcell k r.out
 have x:=Jx 13 au
 have Q:=Jx 0 au
 have N:=Jx 11 h7.blk.1
 obtain⟨G,aL,an,aA⟩:=h7.wheel
 have H7:=D h7;have ab:=D aL;have ay:=D aA
 have HT:=D (show∀t:Nat,(if f.req.timeout=0∨(s.conf.timeout:Int)<f.req.timeout then s.conf.timeout else f.req.timeout.toNat)=t→R=(let f1:ZE:={f with state:=goL f.state 2,since:=s.now}
   if 256≤s.timers.length then{s with queue:=putQ s.queue (Zbo f1),all:=s.all.set i {f1 with timer:=0}}
   else{s with queue:=putQ s.queue (Zbo f1),timers:=s.timers++[⟨addT s.now t,s.tlast+1,(i:Int)+1⟩],tlast:=s.tlast+1,all:=s.all.set i {f1 with timer:=s.tlast+1}})from fun t ht=>by rw[HR.out];dsimp only;rw[ht])
 clear aE au h7 aL aA an ax ar;change Hid _ at Z X
 by_cases h0:(S:Int)=0
 ·clear H6
  have HE:=D (HT.out O (by rw[aq.out,if_pos (.inl h0),aj.out]))
  go_upto_region 6 with fail
  refine Jr [0,4,8,12,16,20,24,28,32,36,44,48,52,56,41,61,64,68,72,76,80,85] (fun W=>W.cell? ⟨b,11,none⟩=some (.pointer (some ⟨P.wheel,0,none⟩))∧W.cell? ⟨p,13,none⟩=some (.int .u64 (s.now:Int))∧W.cell? ⟨p,0,none⟩=some (.int .i64 f.id)) (by rw[Z.out]at N x Q;exact⟨N,x,Q⟩) ?_
  repeat first|refine Jn ?_|refine Jf ?_|refine Ju ?_
  refine JE ?_
  simp only[Xu]
  rw[←Z.out]
  go_wp2_with fail
  refine(ZeD s.now O o.now aH w7).mono ?_
  rintro e W ⟨rfl,a⟩
  rw[a]
  clear a W
  go_wp2_with fail
  refine⟨_,fun W a=>a,⟨N,x,Q⟩,?_⟩
  refine JE ?_
  go_wp2_with fail
  by_cases T:256≤s.timers.length
  · exact Zd2
  · exact Zgn
 ·by_cases h1:(O:Int)<(S:Int)
  · clear H6
    have HE:=D (HT.out O (by rw[aq.out,if_pos (.inr (by rw[←aj.out];exact h1)),aj.out]))
    go_upto_region 6 with fail
    refine Jr [0,4,8,12,16,20,24,28,32,36,44,48,52,56,41,61,64,68,72,76,80,85] (fun W=>W.cell? ⟨b,11,none⟩=some (.pointer (some ⟨P.wheel,0,none⟩))∧W.cell? ⟨p,13,none⟩=some (.int .u64 (s.now:Int))∧W.cell? ⟨p,0,none⟩=some (.int .i64 f.id)) (by rw[Z.out]at N x Q;exact⟨N,x,Q⟩) ?_
    repeat first|refine Jn ?_|refine Jf ?_|refine Ju ?_
    refine JE ?_
    simp only[Xu]
    rw[←Z.out]
    go_wp2_with fail
    refine(ZeD s.now O o.now aH w7).mono ?_
    rintro e W ⟨rfl,a⟩
    rw[a]
    clear a W
    go_wp2_with fail
    refine⟨_,fun W a=>a,⟨N,x,Q⟩,?_⟩
    refine JE ?_
    go_wp2_with fail
    by_cases T:256≤s.timers.length
    ·exact Zd2
    ·exact Zgn
  · clear H6
    have HE:=D (HT.out S (by rw[aq.out,if_neg (by rw[←aj.out];omega)];rfl))
    go_upto_region 6 with fail
    refine Jr [0,4,8,12,16,20,24,28,32,36,44,48,52,56,41,61,64,68,72,76,80,85] (fun W=>W.cell? ⟨b,11,none⟩=some (.pointer (some ⟨P.wheel,0,none⟩))∧W.cell? ⟨p,13,none⟩=some (.int .u64 (s.now:Int))∧W.cell? ⟨p,0,none⟩=some (.int .i64 f.id)) (by rw[Z.out]at N x Q;exact⟨N,x,Q⟩) ?_
    repeat first|refine Jn ?_|refine Jf ?_|refine Ju ?_
    refine JE ?_
    simp only[Xu]
    rw[←Z.out]
    go_wp2_with fail
    refine(ZeD s.now S o.now aP w7).mono ?_
    rintro e W ⟨rfl,a⟩
    rw[a]
    clear a W
    go_wp2_with fail
    refine⟨_,fun W a=>a,⟨N,x,Q⟩,?_⟩
    refine JE ?_
    go_wp2_with fail
    by_cases T:256≤s.timers.length
    ·exact Zd2
    ·have z:=D (HE.trans (show _=({s with queue:=putQ s.queue (Zbo {f with state:=goL f.state 2,since:=s.now}),timers:=s.timers++[⟨addT s.now S,s.tlast+1,(i:Int)+1⟩],tlast:=s.tlast+1,all:=s.all.set i {f with state:=goL f.state 2,since:=s.now,timer:=s.tlast+1}}:Zf)by rw[if_neg T]))
     exact ZfT
end Go.Proofs.YtbgbeddbfaopgaaGreatDoor
namespace Go.Lk
theorem ZjF (s:Zf) (g:Int) (hm:s.made=s.groups.length):ZaD s g=if g<1∨s.made<g then 11 else if(s.groups[(g-1).toNat]?.map (·.torn)).getD false then 13 else 0:=by
 unfold ZaD
 by_cases h:g<1∨s.made<g
 ·rw[if_pos h,if_pos h]
 ·rw[if_neg h,if_neg h]
  have a:(g-1).toNat<s.groups.length:=by omega
  rw[Xa a]
  rfl
end Go.Lk
namespace Go.Proofs.YtbgbeddbfaopgaaGreatDoor
open Go.RowKit Go.Lk
section
variable {w:World} {b:Nat} {P:YI} {lk:Option Nat} {s:Zf} {va vp vl:Value} {F:List Nat}
theorem Ziy (h:Zh w b P lk s va vp vl F) (hfit:ZW s n m) (g:Int):
  Calls Tryz.prog 61 #[.pointer (some ⟨b,0,none⟩), .int .i64 g] w fun e w'=>e= .returned (.int .i64 (ZaD s g))∧w'=w:=by
 have x:=hfit.gl
 have a:=hfit.made
 obtain⟨p,G,d,k,_,_⟩:=h.groups
 have i:p.length=s.groups.length:=by rw[←d,Xb]
 have q:=Zl1 k (by omega) g
 have ht:(p[(g-1).toNat]?.map (·.2.torn))=(s.groups[(g-1).toNat]?.map (·.torn)):=by rw[←d,Xe,Option.map_map];rfl
 rw[ht,i]at q
 rw[ZjF s g a]
 obtain⟨t,j⟩:=Je ((s.groups[(g-1).toNat]?.map (·.torn)).getD false)
 rw[←j]at q⊢
 have C:=Jx 16 h.blk.1
 have L:=Jx 12 h.blk.1
 obtain⟨J,l⟩:=Je s.made
 rw[←l]at C a⊢
 obtain⟨H,c⟩:=Je ((Zfi s.groups.length g&& !t))
 rw[←c]at q
 have I:=D q;have z:=D a
 clear q k d i ht j a l x hfit;change Hid _ at c
 go_enter Tryz.func61,Tryz.ntmps61
 by_cases M:g<1
 ·go_wp2_with fail
  go_ret
  exact⟨rfl,rfl⟩
 ·by_cases N:J<g
  ·go_wp2_with fail
   go_ret
   exact⟨rfl,rfl⟩
  ·have o:H= !t:=by
    rw[c.out];unfold Zfi
    have E:decide (1≤g)=true:=decide_eq_true (by omega)
    have K:decide (g≤(s.groups.length:Int))=true:=decide_eq_true (by have:=z.out;omega)
    rw[E,K];rfl
   have y:=D o
   clear o
   go_wp2_with fail
   refine I.out.mono ?_
   rintro e W ⟨rfl,r⟩
   rw[r]
   clear r W
   rw[y.out]
   cases t with
   |true=>go_wp2_with fail;go_ret;exact⟨rfl,rfl⟩
   |false=>go_wp2_with fail;go_ret;exact⟨rfl,rfl⟩
theorem Zht (h:Zh w b P lk s va vp vl F) (hfit:ZW s n m) (g:Int):
  Calls Tryz.prog 62 #[.pointer (some ⟨b,0,none⟩), .int .i64 g] w fun e w'=>e= .returned (.int .i64 (ZbB s g))∧w'=w:=by
 have J:=hfit.sg
 obtain⟨C,G,q,o,_,_⟩:=h.signals
 have l:C.length=s.signals.length:=by rw[←q,Xb]
 have j:=Zq8 o (by omega)
 have c:=Zk9 o (by omega) g
 have ht:(C[(g-1).toNat]?.map (·.2.aborted))=(s.signals[(g-1).toNat]?.map (·.aborted)):=by rw[←q,Xe,Option.map_map];rfl
 rw[ht,l]at c
 rw[l]at j
 obtain⟨R,a⟩:=Je (ZbB s g)
 rw[←a]
 unfold ZbB at a
 obtain⟨I,y⟩:=Je s.signals.length
 rw[←y]at j c a
 obtain⟨z,p⟩:=Je ((Zfi I g&&(s.signals[(g-1).toNat]?.map (·.aborted)).getD false))
 rw[←p]at c
 have O:=Jx 13 h.blk.1
 have M:=D j;have L:=D c
 clear j c o q l ht y hfit J;change Hid _ at a p
 go_enter Tryz.func62,Tryz.ntmps62
 go_wp2_with fail
 refine M.out.mono ?_
 rintro e W ⟨rfl,d⟩
 rw[d]
 clear d W
 by_cases t:(I:Int)<g
 ·have k:=D (a.trans (if_pos t))
  go_wp2_with fail
  go_ret
  exact⟨by rw[k.out];rfl,rfl⟩
 ·have k:=D (a.trans (if_neg t))
  have K:=D t
  go_wp2_with fail
  refine L.out.mono ?_
  rintro e W ⟨rfl,d⟩
  rw[d]
  clear d W
  have E:(1≤g∧(s.signals[(g-1).toNat]?.map (·.aborted))=some true)↔z=true:=by
   rw[p.out]
   unfold Zfi
   simp only[Bool.and_eq_true,decide_eq_true_eq]
   constructor
   ·rintro⟨x,N⟩;exact⟨⟨x,by have:=K.out;omega⟩,by rw[N];rfl⟩
   ·rintro⟨⟨x,_⟩,i⟩
    refine⟨x,?_⟩
    cases hc:s.signals[(g-1).toNat]?.map (·.aborted)with
    |none=>rw[hc]at i;cases i
    |some v=>rw[hc]at i;simp at i;rw[i]
  have H:=D E
  clear E
  cases z with
  |true=>
   have r:=D (k.trans (if_pos (H.out.2 rfl)))
   go_wp2_with fail
   go_ret
   exact⟨by rw[r.out];rfl,rfl⟩
  |false=>
   have r:=D (k.trans (if_neg (fun hx=>by have:=H.out.1 hx;cases this)))
   go_wp2_with fail
   go_ret
   exact⟨by rw[r.out];rfl,rfl⟩
end
end Go.Proofs.YtbgbeddbfaopgaaGreatDoor
namespace Go.Lk
theorem Zi2 {α:Type} {p:α→Bool} {l:List α} (h:l.findIdx? p=some i):∃x,l[i]? =some x∧p x=true∧l.find? p=some x:=by
 obtain⟨b,a,c⟩:=List.findIdx?_eq_some_iff_getElem.1 h
 refine⟨l[i],Xa b,a,?_⟩
 rw[List.find?_eq_some_iff_getElem]
 exact⟨a,i,b,rfl,fun j d=>by simpa using c j d⟩
theorem ZiA {α:Type} {p:α→Bool} {l:List α} (h:l.findIdx? p=none):l.find? p=none:=by
 rw[List.findIdx?_eq_none_iff]at h
 rw[List.find?_eq_none]
 intro x hx;rw[h x hx];simp
end Go.Lk
namespace Go.Proofs.YtbgbeddbfaopgaaGreatDoor
open Go.RowKit Go.Lk
section
variable {w:World} {b:Nat} {P:YI} {lk:Option Nat} {s:Zf} {va vp vl:Value} {F:List Nat}
theorem Zg7 (h:Zh w b P lk s va vp vl F) (conn:Int):
  (Zcz s conn=(none,none)∧Zb5 P s conn=(none,none))∨
  (∃(i:Nat) (f:ZE) (p:Nat),s.all[i]? =some f∧P.fps[i]? =some p∧f.conn=conn∧1≤conn∧Zcz s conn=(some f,none)∧Zb5 P s conn=(some p,none))∨
  (∃(j:Nat) (x:ZM) (q:Nat),s.pres[j]? =some x∧P.qps[j]? =some q∧x.conn=conn∧1≤conn∧Zcz s conn=(none,some x)∧Zb5 P s conn=(none,some q)):=by
 by_cases a:conn<1
 ·left;exact⟨by unfold Zcz;rw[if_pos a],by unfold Zb5;rw[if_pos a]⟩
 cases hq:s.all.findIdx? (fun f=>f.conn==conn)with
 |some i=>
  right;left
  obtain⟨f,l,d,c⟩:=Zi2 hq
  obtain⟨p,e⟩:=h.fp l
  refine⟨i,f,p,l,e,by simpa using d,by omega,?_,?_⟩
  ·unfold Zcz;rw[if_neg a,c]
  ·unfold Zb5;rw[if_neg a,hq];dsimp only;rw[e]
 |none=>
  have k:=ZiA hq
  cases hq2:s.pres.findIdx? (fun f=>f.conn==conn)with
  |some j=>
   right;right
   obtain⟨x,hx,d,c⟩:=Zi2 hq2
   obtain⟨q,g⟩:=h.qp hx
   refine⟨j,x,q,hx,g,by simpa using d,by omega,?_,?_⟩
   ·unfold Zcz;rw[if_neg a,k];dsimp only;rw[c]
   ·unfold Zb5;rw[if_neg a,hq];dsimp only;rw[hq2];dsimp only;rw[g]
  |none=>
   left
   have m:=ZiA hq2
   refine⟨?_,?_⟩
   ·unfold Zcz;rw[if_neg a,k];dsimp only;rw[m]
   ·unfold Zb5;rw[if_neg a,hq];dsimp only;rw[hq2]
def Zgr (P:YI) (s:Zf) (conn:Int) (r:Value×Int):Prop:=
 (∃c,c≠0∧Zcs s conn=(none,c)∧r=(.pointer none,c))∨
 (∃(i:Nat) (f:ZE) (p:Nat),s.all[i]? =some f∧P.fps[i]? =some p∧f.conn=conn∧f.state=5∧Zcs s conn=(some f,0)∧r=(.pointer (some ⟨p,0,none⟩),0))
theorem ZiX (h:Zh w b P lk s va vp vl F) (hma:s.all.length≤1000000) (hmp:s.pres.length≤1000000) (conn:Int):
  Calls Tryz.prog 93 #[.pointer (some ⟨b,0,none⟩), .int .i64 conn] w fun e w'=>∃r,e= .returned (.tuple #[r.1, .int .i64 r.2])∧Zgr P s conn r∧w'=w:=by
 have d:=D (Zhf h hma hmp conn)
 rcases Zg7 h conn with⟨u1,u2⟩|⟨i,f,p,o,n,l,C,u1,u2⟩|⟨j,x,q,hx,G,l,C,u1,u2⟩
 ·have c:=D (show Zgr P s conn (.pointer none,11)from .inl ⟨11,by decide,by unfold Zcs;rw[u1];rfl,rfl⟩)
  have k:=D (show Calls Tryz.prog 86 #[.pointer (some ⟨b,0,none⟩), .int .i64 conn] w fun e w'=>e= .returned (.tuple #[.pointer none, .pointer none])∧w'=w by have q:=d.out;rw[u2]at q;exact q)
  clear h u1 u2 d
  go_enter Tryz.func93,Tryz.ntmps93
  go_wp2_with fail
  refine k.out.mono ?_
  rintro e W ⟨rfl,a⟩
  rw[a]
  clear a W
  go_wp2_with fail
  go_ret2
  exact⟨(.pointer none,11),rfl,c.out,rfl⟩
 ·obtain⟨L,K,t,_⟩:=h.life n o
  have z:=D (Zed t)
  have k:=D (show Calls Tryz.prog 86 #[.pointer (some ⟨b,0,none⟩), .int .i64 conn] w fun e w'=>e= .returned (.tuple #[.pointer (some ⟨p,0,none⟩), .pointer none])∧w'=w by have q:=d.out;rw[u2]at q;exact q)
  have y:=D (show Zcs s conn=if f.state=5 then(some f,0)else(none,12)by unfold Zcs;rw[u1];rfl)
  obtain⟨H,g⟩:=Je f.state
  have I:=D o;have J:=D n;have E:=D l
  clear h u1 u2 d t o n l;change Hid _ at g
  go_enter Tryz.func93,Tryz.ntmps93
  go_wp2_with fail
  refine k.out.mono ?_
  rintro e W ⟨rfl,a⟩
  rw[a]
  clear a W
  go_wp2_with fail
  have q:=z.out
  rw[←g.out]at q
  refine q.mono ?_
  rintro e W ⟨rfl,a⟩
  rw[←a]
  clear a W q
  by_cases m:H=5
  ·have c:=D (show Zgr P s conn (.pointer (some ⟨p,0,none⟩),0)from .inr ⟨i,f,p,I.out,J.out,E.out,g.symm.trans m,y.trans (if_pos (g.symm.trans m)),rfl⟩)
   go_wp2_with fail
   go_ret2
   exact⟨(.pointer (some ⟨p,0,none⟩),0),rfl,c.out,rfl⟩
  ·have c:=D (show Zgr P s conn (.pointer none,12)from .inl ⟨12,by decide,y.trans (if_neg (by rw[←g.out];exact m)),rfl⟩)
   go_wp2_with fail
   go_ret2
   exact⟨(.pointer none,12),rfl,c.out,rfl⟩
 ·have c:=D (show Zgr P s conn (.pointer none,12)from .inl ⟨12,by decide,by unfold Zcs;rw[u1];rfl,rfl⟩)
  have k:=D (show Calls Tryz.prog 86 #[.pointer (some ⟨b,0,none⟩), .int .i64 conn] w fun e w'=>e= .returned (.tuple #[.pointer none, .pointer (some ⟨q,0,none⟩)])∧w'=w by have q:=d.out;rw[u2]at q;exact q)
  clear h u1 u2 d hx G l
  go_enter Tryz.func93,Tryz.ntmps93
  go_wp2_with fail
  refine k.out.mono ?_
  rintro e W ⟨rfl,a⟩
  rw[a]
  clear a W
  go_wp2_with fail
  go_ret2
  exact⟨(.pointer none,12),rfl,c.out,rfl⟩
end
theorem ZoM (h:Zbf vb (some s) w G):Calls Tryz.prog 96 #[vb] w fun e w'=>e= .returned (.bool (Zc9 s))∧w'=w:=by
 obtain⟨j,b,k,H,L,rfl,rfl,l,g,h,i⟩:=h
 refine(ZoC h).mono ?_
 rintro e w' ⟨c,d⟩
 refine⟨?_,d.symm⟩
 have a:decide (s.state=3∨s.state=2∧s.q=[])=Zc9 s:=by
  unfold Zc9
  rw[Bool.eq_iff_iff]
  simp
 rw[c,a]
theorem ZpT (h:Zbf vb (some s) w G):
  Calls Tryz.prog 95 #[vb] w fun e w'=>e= .returned (.int .i64 (Zbl s).2)∧Zbf vb (some (Zbl s).1) w' G∧Zg G w w':=by
 obtain⟨m,b,n,H,L,rfl,rfl,i,l,h,p⟩:=h
 refine(Zqc h).mono ?_
 rintro e w' ⟨rfl,d,j⟩
 by_cases a:s.state=1
 ·have g:Zbl s=({s with state:=2,paused:=false},0):=by unfold Zbl;rw[if_neg (by omega)]
  rw[if_pos a,if_pos a,if_neg (by omega)]at d
  rw[g,if_pos a]
  exact⟨rfl,⟨m,b,n,H,L,rfl,rfl,i,l,d,fun o=>absurd (show(2:Int)=3 from o) (by decide)⟩,j.weaken (fun k c=> .inr (by simp at c;simp[c]))⟩
 ·have g:Zbl s=(s,12):=by unfold Zbl;rw[if_pos a]
  rw[if_neg a,if_neg a]at d
  rw[g,if_neg a]
  exact⟨rfl,⟨m,b,n,H,L,rfl,rfl,i,l,d,p⟩,j.weaken (fun k c=> .inr (by simp at c;simp[c]))⟩
end Go.Proofs.YtbgbeddbfaopgaaGreatDoor
namespace Go.Lk
theorem Zrs {s:Zf} {i:Nat} {f:ZE} (hid:f.id=(i:Int)+1) (hf:s.all[i]? =some f) (g:ZE→ZE):setF s f.id g={s with all:=s.all.set i (g f)}:=by
 have h:=YT hf g
 rw[←hid]at h
 exact h
theorem Zry {st:Za7} (h:(Zbl st).2≠0):(Zbl st).1=st:=by
 unfold Zbl at h⊢
 split
 ·rfl
 ·rename_i a
  rw[if_neg a]at h
  exact absurd rfl h
theorem Zox {s:Zf} {i:Nat} {st:Za7} (hf:s.all[i]? =some f) (hb:f.body=some st):({s with all:=s.all.set i {f with body:=some st}}:Zf)=s:=by
 have e:({f with body:=some st}:ZE)=f:=by rw[←hb]
 rw[e,ZkE hf]
end Go.Lk
namespace Go.Proofs.YtbgbeddbfaopgaaGreatDoor
open Go.RowKit Go.Lk
section
variable {w:World} {b:Nat} {P:YI} {lk:Option Nat} {s:Zf} {va vp vl:Value} {F:List Nat}
theorem Zh.body (h:Zh w b P lk s va vp vl F) {i p:Nat} {st:Za7} (hp:P.fps[i]? =some p) (hf:s.all[i]? =some f) (hb:f.body=some st):
  ∃vb G,w.cell? ⟨p,18,none⟩=some vb∧Zbf vb (some st) w G∧(∀k∈G,k∈F)∧∀(w1:World) (st1:Za7),Zbf vb (some st1) w1 G→Zg G w w1→
   ∃F1,Zh w1 b P lk {s with all:=s.all.set i {f with body:=some st1}} va vp vl F1∧Zi w w1 F F1:=by
 obtain⟨r,q,vb,o,e,a,c,d⟩:=h.fetch hp hf
 refine⟨vb,e,Zc (i:=18) a.blk rfl,by rw[←hb];exact a.body,fun k m=>c k (by simp[m]),fun w1 st1 l n=> ?_⟩
 obtain⟨j,g⟩:=a.setBody (some st1) n l
 exact d _ _ lk _ _ _ _ _ (fun _ _=>rfl) j g
theorem ZjU (hfit:ZW s n m) {i:Nat} (hf:s.all[i]? =some f) (h5:f.state=5):∃st,f.body=some st:=by
 have:=(hfit.fs f (Xc hf)).body h5
 cases hb:f.body with
 |none=>exact absurd hb this
 |some st=>exact⟨st,rfl⟩
end
section
variable {w:World} {b:Nat} {P:YI} {s:Zf} {va vp vl:Value} {F:List Nat}
def ZcD (b:Nat) (P:YI) (s:Zf) (c:Int) (va:Value) (w:World) (F:List Nat) (e:Ending) (w':World):Prop:=
 e= .returned (.int .i64 c)∧∃qps' vp' vl' F',Zh w' b {P with qps:=qps'} none s va vp' vl' F'∧Zi w w' F F'
theorem ZcD.of_same (h:Zh w' b P none s va vp vl F') (g:Zi w w' F F'):ZcD b P s c va w F (.returned (.int .i64 c)) w':=
 ⟨rfl,P.qps,vp,vl,F',h,g⟩
theorem ZW.setBody (h:ZW s n m) {i:Nat} (hf:s.all[i]? =some f) (st:Za7):ZW {s with all:=s.all.set i {f with body:=some st}} n m:=by
 have a:=h.body ((i:Int)+1) st
 rw[YT hf]at a
 exact a
theorem Safe.setBody (h:Lk.Safe s) {i:Nat} (hf:s.all[i]? =some f) (st:Za7):Lk.Safe {s with all:=s.all.set i {f with body:=some st}}:=by
 have a:=h.setF ((i:Int)+1) (g:=fun f=>{f with body:=some st}) (fun f=>rfl)
 rw[YT hf]at a
 exact a
theorem Zmg (h:Zh w b P none s va vp vl F) (hfit:ZW s n m) (hs:Lk.Safe s) (hn:n≤700000) (hm:m≤900000) (conn:Int):
  Calls Tryz.prog 46 #[.pointer (some ⟨b,0,none⟩), .int .i64 conn] w (ZcD b P (tailS s conn).1 (tailS s conn).2 va w F):=by
 obtain⟨R,l⟩:=Je (tailS s conn)
 rw[←l]
 have hq:=ZiX h (by have:=hfit.all;omega) (by have:=hfit.pres;omega) conn
 have HQ:=D hq;have H:=D h;have y:=D hfit;have HS:=D hs
 clear hq h hfit hs;change Hid _ at l
 go_enter Tryz.func46,Tryz.ntmps46
 go_wp2_with fail
 refine HQ.out.mono ?_
 rintro e W ⟨r,rfl,al,k⟩
 rw[k]
 clear k W
 rcases al with⟨cd,au,j,rfl⟩|⟨i,f,p,c,Q,hc,h5,j,rfl⟩
 ·have g:=D (show R=(s,cd)by rw[l.out];unfold tailS;rw[j])
  clear j
  dsimp only
  go_wp2_with fail
  go_ret
  rw[g.out]
  exact ZcD.of_same H (Zi.refl _ _)
 ·dsimp only
  obtain⟨st,x⟩:=ZjU y c h5
  obtain⟨vb,G,ak,aa,ai,af⟩:=H.body Q c x
  obtain⟨r,q⟩:=Je (Zbl st)
  have E:=HS.out.1 i f c
  have K:=D (show R=if r.2≠0 then(s,r.2)else
    let s1:=ZR {s with all:=s.all.set i {f with body:=some r.1}} 13 f.id 0 conn 0
    (if Zc9 r.1 then overS s1 f.id 6 else s1,0)by
   rw[l.out];unfold tailS;rw[j];dsimp only;rw[x];dsimp only;rw[Zrs E c,←q])
  have S:=ZpT aa
  rw[←q]at S
  have J:=D (show r.2≠0→({s with all:=s.all.set i {f with body:=some r.1}}:Zf)=s from fun h=>by rw[q]at h⊢;rw[Zry h];exact Zox c x)
  have t:=D S;have C:=D af;have Y:=D c;have V:=D Q;have aj:=D E
  clear j hc h5 x aa ai af S q c Q E
  obtain⟨a,r2⟩:=r
  dsimp only at K t J
  go_wp2_with fail
  refine t.out.mono ?_
  rintro e w2 ⟨rfl,N,z⟩
  obtain⟨F2,d,o⟩:=C.out w2 a N z
  by_cases ab:r2=0
  ·have g:=D (K.trans (if_neg (by omega)))
   have M:=ZP (f':={f with body:=some a}) Y.out
   obtain⟨an,ap,aq,Z,_⟩:=d.fcell V M
   have k0:=Jx 0 Z
   have T:=D d;have X:=D o;have ac:=D M
   clear d o Z N z t C M
   go_wp2_with fail
   refine(Zag T (Xj y.log (by omega)) _ _ _ _ _ _ _).mono ?_
   rintro e w3 ⟨rfl,aw,F3,O,g3⟩
   obtain⟨ar,G3,am,ad,_,_⟩:=O.body (s:=ZR {s with all:=s.all.set i {f with body:=some a}} 13 f.id 0 conn 0) V ac rfl
   have H3:=D O;have ae:=D (X.trans g3)
   have ah:=D (ZoM ad)
   clear O g3 ad k0 ak
   go_wp2_with fail
   refine ah.out.mono ?_
   rintro e W ⟨rfl,k⟩
   rw[k]
   clear k W
   cases hpa:Zc9 a with
   |false=>
    have L:=D (g.trans (show _=(ZR {s with all:=s.all.set i {f with body:=some a}} 13 f.id 0 conn 0,(0:Int))by rw[hpa];rfl))
    go_wp2_with fail
    go_ret
    rw[L.out]
    exact ZcD.of_same H3 ae.out
   |true=>
    have L:=D (g.trans (show _=(overS (ZR {s with all:=s.all.set i {f with body:=some a}} 13 f.id 0 conn 0) f.id 6,(0:Int))by rw[hpa];rfl))
    have I:=ZfL H3 ((ZW.setBody y Y a).tell 13 f.id 0 conn 0) ((Safe.setBody HS Y a).tell 13 f.id 0 conn 0) (by omega) hm V (f:={f with body:=some a}) ac 6 (by omega)
    rw[←aj.out]at I
    have ag:=D I
    clear I
    go_wp2_with fail
    refine ag.out.mono ?_
    rintro e w4 ⟨rfl,q4,ao,av,F4,h4,g4⟩
    have H4:=D h4;have G4:=D (ae.trans g4)
    clear h4 g4
    go_wp2_with fail
    go_ret
    rw[L.out]
    exact⟨rfl,_,_,_,_,H4.out,G4.out⟩
  ·have g:=D (K.trans (if_pos ab))
   rw[J.out ab]at d
   have T:=D d;have X:=D o
   clear d o N z t C J
   go_wp2_with fail
   go_ret
   rw[g.out]
   exact ZcD.of_same T X.out
end
def Z7 (t:Zad) (v:Value):List Value:=[.int .i64 t.code, .int .i64 t.id, .int .i64 t.n,v]
theorem Yf:Zu Tryz.prog 39 4=true:=by kernel_rfl
def Znk (b:Nat) (P:YI) (s:Zf) (t:Zad) (va:Value) (w:World) (F:List Nat) (e:Ending) (w':World):Prop:=
 ∃v,e= .returned (.agg (Z7 t v).toArray)∧Zb7 w' v t.bytes∧∃qps' vp' vl' F',Zh w' b {P with qps:=qps'} none s va vp' vl' F'∧Zi w w' F F'∧∀k,v.ownBlock=some k→w.heap.size≤k∧k∉F'
structure ZaV (w:World) (L:Nat) (F:List Nat):Prop where
 blk:w.heap[L]? =some (.cells #[.int .i64 0, .int .i64 0, .int .i64 0, .slice none 0 0] 39 (0,0))
 off:L∉F
theorem ZaV.step (h:ZaV w L F) (g:Zi w w1 F F1):ZaV w1 L F1:=by
 obtain⟨b,a⟩:=g.off (Jg h.blk) h.off
 exact⟨b.trans h.blk,a⟩
theorem ZaV.upd0 (h:ZaV w L F) (hu:Zg [] w w1):ZaV w1 L F:=h.step ⟨hu.weaken (by simp),fun k hk=> .inl hk⟩
theorem YH (t:Zad) (v:Value) (hv:v.oneCell'=true):(Z7 t v).toArray.all (·.oneCell')=true:=by
 rw[Xl,Xk]
 intro x hx
 simp only[Z7,List.mem_cons,List.not_mem_nil,or_false]at hx
 rcases hx with rfl|rfl|rfl|rfl<;>first|rfl|exact hv
theorem ZaA {w W we:World} {P:YI} (q:List Nat) (h:Zh W b {P with qps:=q} none s va vp vl F1) (g:Zi w W F F1) (hb:ZaV W L F1) (he:we=W.setRow L (Z7 t v).toArray)
  (hv:Zb7 W v t.bytes) (hn:∀k,v.ownBlock=some k→w.heap.size≤k∧k∉F1∧k≠L) (hL:w.heap.size≤L):
  we.heap[L]? =some (.cells (Z7 t v).toArray 39 (0,0))∧Znk b P s t va w F (.returned (.agg (Z7 t v).toArray)) we:=by
 have d:Zg [L] W we:=by rw[he];exact(Zg.refl _ _).setRow (.inr (by simp)) _
 have f:we.heap[L]? =some (.cells (Z7 t v).toArray 39 (0,0)):=by rw[he];exact setRow_heap _ _ _ _ _ _ hb.blk
 have e:∀k∈F1,k∉[L]:=fun k a c=>hb.off (by rw[Jm c]at a;exact a)
 refine⟨f,v,rfl,hv.upd d (fun k a c=>(hn k a).2.2 (Jm c)),q,vp,vl,F1,h.upd d e,⟨g.upd.trans d (fun k a=> .inl (by rw[Jm a];exact hL)),g.new⟩,fun k a=>⟨(hn k a).1,(hn k a).2.1⟩⟩
theorem ZaB (w:World):Zb7 w (.slice none 0 0) []:=⟨none,0,rfl,Xi _,fun j x hj=>by cases hj⟩
end Go.Proofs.YtbgbeddbfaopgaaGreatDoor
namespace Go.Lk
theorem Zk2 (s:Zf) (x:ZM) (keep:Bool):(forgetS s x keep).now=s.now∧(forgetS s x keep).timers=s.timers∧(forgetS s x keep).groups=s.groups∧(forgetS s x keep).signals=s.signals∧(forgetS s x keep).conf=s.conf∧(forgetS s x keep).made=s.made:=by
 unfold forgetS
 dsimp only
 split<;>exact⟨rfl,rfl,rfl,rfl,rfl,rfl⟩
theorem Zmq (s:Zf) (id:Int):(leaveS s id).now=s.now∧(leaveS s id).timers=s.timers∧(leaveS s id).groups=s.groups∧(leaveS s id).signals=s.signals∧(leaveS s id).conf=s.conf∧(leaveS s id).made=s.made:=by
 unfold leaveS
 dsimp only
 split
 ·exact⟨rfl,rfl,rfl,rfl,rfl,rfl⟩
 ·split
  ·exact⟨rfl,rfl,rfl,rfl,rfl,rfl⟩
  ·split
   ·exact⟨rfl,rfl,rfl,rfl,rfl,rfl⟩
   ·split
    ·exact⟨rfl,rfl,rfl,rfl,rfl,rfl⟩
    ·have f:∀(X:Zf) (x:ZM),(X.now=s.now∧X.timers=s.timers∧X.groups=s.groups∧X.signals=s.signals∧X.conf=s.conf∧X.made=s.made)→
       (forgetS X x false).now=s.now∧(forgetS X x false).timers=s.timers∧(forgetS X x false).groups=s.groups∧(forgetS X x false).signals=s.signals∧(forgetS X x false).conf=s.conf∧(forgetS X x false).made=s.made:=fun X x h=>by
      obtain⟨a,b,c,d,e,g⟩:=Zk2 X x false
      obtain⟨k,n,m,l,i,j⟩:=h
      exact⟨a.trans k,b.trans n,c.trans m,d.trans l,e.trans i,g.trans j⟩
     exact f _ _ ⟨rfl,rfl,rfl,rfl,rfl,rfl⟩
theorem ZkT {s0:Zf} {i:Nat} (hf:s0.all[i]? =some f) (st:Int):(Zdi s0 i f st).all.length=s0.all.length∧(Zdi s0 i f st).now=s0.now∧(Zdi s0 i f st).timers.length≤s0.timers.length∧(Zdi s0 i f st).signals=s0.signals∧(Zdi s0 i f st).conf=s0.conf∧(Zdi s0 i f st).made=s0.made:=by
 have j:=Zjo hf st
 have h:(overU s0 i f st).all.length=s0.all.length:=by unfold overU;show(s0.all.set i _).length=_;rw[List.length_set]
 have ht:(overU s0 i f st).timers.length≤s0.timers.length:=Xq _ _
 unfold Zdi
 dsimp only
 split
 ·exact⟨h,rfl,ht,rfl,rfl,rfl⟩
 ·split
  ·exact⟨by show((overU s0 i f st).all.set i _).length=_;rw[List.length_set,h],rfl,ht,rfl,rfl,rfl⟩
  ·split
   ·obtain⟨a,b,c,d,e,g⟩:=Zmq (overU s0 i f st) ((i:Int)+1)
    exact⟨by rw[ZhL j,List.length_set,h],a,by rw[b];exact ht,d,e,g⟩
   ·exact⟨h,rfl,ht,rfl,rfl,rfl⟩
theorem ZkS (s:Zf) (id st:Int):(overS s id st).all.length=s.all.length∧(overS s id st).now=s.now∧(overS s id st).timers.length≤s.timers.length∧(overS s id st).signals=s.signals∧(overS s id st).conf=s.conf∧(overS s id st).made=s.made:=by
 cases hq:Zac s id with
 |none=>
  have e:overS s id st=s:=by unfold overS;rw[hq]
  rw[e];exact⟨rfl,rfl,Xi _,rfl,rfl,rfl⟩
 |some f=>
  obtain⟨i,rfl,h⟩:=ZjQ hq
  cases he:f.ended with
  |true=>rw[ZiH h he];exact⟨rfl,rfl,Xi _,rfl,rfl,rfl⟩
  |false=>
   rw[Zls h he]
   obtain⟨a,b,c,d,e,g⟩:=ZkT (s0:={s with all:=s.all.set i {f with ended:=true}}) (ZP (f':={f with ended:=true}) h) st
   exact⟨by rw[a];exact List.length_set,b,c,d,e,g⟩
end Go.Lk
namespace Go.Lk
def ZgL (s:Zf) (l:List Int) (st:Int):Zf:=l.foldl (fun a id=>overS a id st) s
theorem Zkw {l:List Int} {st:Int} {k:Nat} (h:l[k]? =some x):ZgL s (l.take (k+1)) st=overS (ZgL s (l.take k) st) x st:=by
 unfold ZgL
 rw[List.take_add_one,h]
 simp
end Go.Lk
namespace Go.Proofs.YtbgbeddbfaopgaaGreatDoor
open Go.RowKit Go.Lk
structure ZdO (b:Nat) (P:YI) (va:Value) (w:World) (F:List Nat) (wr:World) (n m:Nat) (s0:Zf) (l:List Int) (st:Int) (kk:Nat) (v:Value) (M:List Nat) (sc:Zf) (q:List Nat) (vp vl:Value) (F1:List Nat):Prop where
 at_:Zh wr b {P with qps:=q} none sc va vp vl F1
 grows:Zi w wr F F1
 fit:ZW sc (n+2*kk) m
 safe:Lk.Safe sc
 res:sc=ZgL s0 (l.take kk) st
 len:sc.all.length=s0.all.length
 row:Z9 v l wr M
 ap:Z8 F1 M
 vals:∀x∈l,1≤x∧x≤s0.all.length
theorem ZdO.elem {wr:World} {st:Int} {kk:Nat} {sc:Zf}
  (h:ZdO b P va w F wr n m s0 l st kk v M sc q vp vl F1) (hk:kk<l.length):∃(i p:Nat) (f:ZE),l[kk]? =some ((i:Int)+1)∧sc.all[i]? =some f∧P.fps[i]? =some p∧∃g c,v= .slice (some ⟨g,0,none⟩) l.length c∧wr.cell? ⟨g,kk,none⟩=some (.int .i64 ((i:Int)+1)):=by
 have hx:=Xa hk
 have hv:=h.vals _ (Xc hx)
 obtain⟨i,o⟩:∃i:Nat,l[kk]=(i:Int)+1:=⟨(l[kk]-1).toNat,by omega⟩
 rw[o]at hx
 have k:i<sc.all.length:=by rw[h.len];omega
 have e:=Xa k
 obtain⟨p,r⟩:=h.at_.fp e
 obtain⟨g,c,d,_,a⟩:=h.row.cell (j:=kk) (i:=0) (c:=Zcy ((i:Int)+1)) (by rw[Xe,hx];rfl) rfl
 rw[Xb]at d
 rw[Nat.mul_one,Nat.add_zero]at a
 exact⟨i,p,_,hx,e,r,g,c,d,a⟩
theorem ZdO.next {wr w':World} {st:Int} {kk:Nat} {sc:Zf} {q q':List Nat} {vp vl vp' vl':Value} {i:Nat}
  (h:ZdO b P va w F wr n m s0 l st kk v M sc q vp vl F1) (hst:st≠5) (hx:l[kk]? =some ((i:Int)+1)) (h':Zh w' b {P with qps:=q'} none (overS sc ((i:Int)+1) st) va vp' vl' F') (g':Zi wr w' F1 F'):
  ZdO b P va w F w' n m s0 l st (kk+1) v M (overS sc ((i:Int)+1) st) q' vp' vl' F':=by
 obtain⟨c,a⟩:=YG.frame (ZS v l) h.row h.ap g'
 exact⟨h',h.grows.trans g',(h.fit.over _ st hst).mono (by omega) (Xi _),h.safe.overS _ _,by rw[Zkw hx,←h.res],by rw[(ZkS sc _ st).1];exact h.len,c,a,h.vals⟩
theorem Znc {L:List YG} (hL:∀A∈L,A.Local) (h:YG.list L w F) {i:Nat} (hi:L[i]? =some A):
  ∃G,A w G∧(∀k∈G,k∈F)∧∀w1 A1 G1,A1 w1 G1→Zi w w1 G G1→∃F1,YG.list (L.set i A1) w1 F1∧Zi w w1 F F1∧∀k∈F1,(k∈F∧k∉G)∨k∈G1:=by
 obtain⟨o,G,rfl,h,c,ha,f⟩:=YG.list_get h hi
 refine⟨G,ha,f,fun w1 A1 G1 g hg=> ?_⟩
 obtain⟨l,d⟩:=h.step hL c g hg
 refine⟨_,⟨_,rfl,l⟩,d,fun k a=> ?_⟩
 obtain⟨j,H,b,a⟩:=YK a
 by_cases e:i=j
 ·subst e
  rw[List.getElem?_set_self (Jk c)]at b
  cases b;exact .inr a
 ·rw[Xt e]at b
  exact .inl ⟨Zw b a,fun m=>h.apart j i _ _ b c (fun n=>e n.symm) k a m⟩
section
variable {w:World} {b:Nat} {P:YI} {s:Zf} {va vp vl:Value} {F:List Nat}
theorem Zh.step3 (h:Zh w b P lk s va vp vl F) {k:Nat} (hk:(Z0 b P lk s va vp vl)[k]? =some A):
  ∃G,A w G∧(∀q∈G,q∈F)∧∀(w1:World) (A1:YG) (G1:List Nat) (s':Zf),A1 w1 G1→Zi w w1 G G1→Z0 b P lk s' va vp vl=(Z0 b P lk s va vp vl).set k A1→
   P.fps.length=s'.all.length→P.qps.length=s'.pres.length→∃F1,Zh w1 b P lk s' va vp vl F1∧Zi w w1 F F1∧∀k∈F1,(k∈F∧k∉G)∨k∈G1:=by
 obtain⟨G,g,i,e⟩:=Znc (Yi _ _ _ _ _ _ _) h.lay hk
 refine⟨G,g,i,fun w1 A1 G1 s' ha hg j f l=> ?_⟩
 obtain⟨F1,c,d,a⟩:=e w1 A1 G1 ha hg
 rw[←j]at c
 refine⟨F1,⟨c,f,l,fun k hk=> ?_⟩,d,a⟩
 rcases d.new k hk with a|a
 ·exact h.two k a
 ·have m:=h.two b h.blk.2;have n:=h.lt b h.blk.2;omega
end
end Go.Proofs.YtbgbeddbfaopgaaGreatDoor
namespace Go.Lk
theorem ZbP (s:Zf) (x:ZM) (keep:Bool):(forgetS s x keep).shares=s.shares∧(forgetS s x keep).slast=s.slast:=by
 unfold forgetS
 dsimp only
 split<;>exact⟨rfl,rfl⟩
theorem Zl4 {s:Zf} {x:ZM} {o:ZH} (hq:s.shares.findIdx? (fun o=>o.num==x.num)=some k) (ho:s.shares[k]? =some o) (state n:Int):
  failedS s x state n=ZgL {forgetS (ZR s 7 (o.members.headD 0) x.num x.conn n) x (state==8)with shares:=s.shares.eraseIdx k} o.members state:=by
 unfold failedS ZgL
 obtain⟨y,a,c,b⟩:=Zi2 hq
 have:y=o:=by rw[a]at ho;exact Option.some.inj ho
 subst this
 rw[b]
 dsimp only[Option.map_some,Option.getD_some]
 rw[(ZbP _ _ _).1]
 dsimp only[ZR]
 rw[hq]
 dsimp only
 rw[Ya]
end Go.Lk
namespace Go.Proofs.YtbgbeddbfaopgaaGreatDoor
open Go.RowKit Go.Lk
section
variable {w:World} {b:Nat} {P:YI} {s:Zf} {va vp vl:Value} {F:List Nat}
theorem Zdx (h:Z9 v l w M) (hl:l≠[]):∃g c,v= .slice (some ⟨g,0,none⟩) l.length c∧0<l.length∧l.length≤c∧w.cell? ⟨g,0,none⟩=some (.int .i64 (l.headD 0)):=by
 cases l with
 |nil=>exact absurd rfl hl
 |cons a l=>
  obtain⟨g,c,d,b,e⟩:=h.cell (j:=0) (i:=0) (c:=Zcy a) rfl rfl
  rw[Xb]at d b
  exact⟨g,c,d,by simp,b,e⟩
theorem ZjM (h:Zh w b P none s va vp vl F) (hfit:ZW s n m) (hs:Lk.Safe s) (hn:n≤600000) (hm:m≤10000) {j q:Nat} (hq:P.qps[j]? =some q) (hx:s.pres[j]? =some x) (st c0:Int) (hst:6≤st∧st≤10):
  Calls Tryz.prog 97 #[.pointer (some ⟨b,0,none⟩), .pointer (some ⟨q,0,none⟩), .int .i64 st, .int .i64 c0] w (Zjx b P none (failedS s x st c0) va w F):=by
 obtain⟨R,hR⟩:=Je (failedS s x st c0)
 rw[←hR]
 obtain⟨o0,aG,ap⟩:=hs.2.shs x (Xc hx)
 obtain⟨k,S⟩:∃k,s.shares.findIdx? (fun o=>o.num==x.num)=some k:=by
  cases hc:s.shares.findIdx? (fun o=>o.num==x.num)with
  |some k=>exact⟨k,rfl⟩
  |none=>rw[List.findIdx?_eq_none_iff]at hc;have:=hc o0 aG;simp[ap]at this
 obtain⟨o,ho,hop,_⟩:=Zi2 S
 have ac:=D (hR.trans (Zl4 S ho st c0))
 obtain⟨l,N⟩:=Je o.members
 have ad:=hs.2.mem o (Xc ho)
 rw[←N]at ad ac
 have bb:l.length≤64:=by
  have C:=Zgg (Xc ho);have h2:=hfit.sh;rw[N];omega
 have ba:=h.flight hq hx
 obtain⟨w1,Z⟩:=Je w.drew
 have al:=Jd Z
 have C:=h.upd0 al
 have r:=Jx 14 C.blk.1
 have E:w1.cell? ⟨q,0,none⟩=some (.int .i64 x.num):=Zc (i:=0) (C.flight hq hx).1 rfl
 obtain⟨g,G,z,hg,aj,_⟩:=C.shares
 have d:g.findIdx? (fun p=>p.2.num==x.num)=some k:=by rw[←S,←z,List.findIdx?_map];rfl
 have ak:=hfit.sn
 have ae:g.length=s.shares.length:=by rw[←z,Xb]
 have K:=Xa (Yv d)
 have ai:(g[k]'(Yv d)).2=o:=by
  have e:=congrArg (fun l=>l[k]?) z
  rw[ho]at e
  simp only[Xe,K,Option.map_some]at e
  exact Option.some.inj e
 have aX:=D (show Calls Tryz.prog 159 #[.pointer (some ⟨P.shares,0,none⟩), .int .i64 x.num] w1 (Zkh w1 l)by
  have:=ZcU hg (by omega) x.num d K (by rw[ai,←N];omega)
  rw[ai,←N]at this;exact this)
 have H1:=D C;have HQ:=D hq;have Q:=D hx;have af:=D hfit;have HS:=D hs;have HK:=D S;have HO:=D ho
 have aw:=D ad
 have ab:=C.lt
 have a3:=D ab
 clear hR h hfit hs hq hx aG ap S ho hop ad ba C z hg aj d ak ae K ai ab;change Hid _ at Z al N
 go_enter Tryz.func97,Tryz.ntmps97
 go_upto_region 0 with fail
 refine Jr [0,4,8,12,16,20,24,28,34,36] (fun W=>W.cell? ⟨b,14,none⟩=some (.pointer (some ⟨P.shares,0,none⟩))∧W.cell? ⟨q,0,none⟩=some (.int .i64 x.num)) (by rw[Z.out]at r E;exact⟨r,E⟩) ?_
 repeat first|refine Jn ?_|refine Jf ?_|refine Ju ?_
 refine JL ?_
 simp only[Xu]
 rw[←Z.out]
 go_wp2_with fail
 refine aX.out.mono ?_
 rintro e w2 ⟨v,M,rfl,T,av,ah⟩
 have aH:Z8 F M:=fun a ha hm=>by have:=av a hm;have:=a3.out a ha;omega
 obtain⟨g0,cA,rfl,aP,_,k2⟩:=Zdx T aw.out.1
 obtain⟨ln,aa⟩:=Je l.length
 rw[←aa]at T aP bb⊢
 have H2:=D (H1.upd0 ah);have aU:=D T;have a6:=D aH
 have a2:=Jt al ah
 obtain⟨J,aN⟩:=Je (l.headD 0)
 rw[←aN]at k2 ac
 have K2:=D k2
 clear T av ah aH r E aN k2;change Hid _ at aa
 go_wp2_with fail
 refine⟨fun _=>True,trivial,?_⟩
 repeat first|refine Jn ?_|refine Jf ?_|refine Ju ?_
 refine ZL ?_
 go_upto_region 1 with fail
 obtain⟨w3,H⟩:=Je w2.drew
 have X:=Jd H
 have h3:=H2.upd0 X
 have f0:w3.cell? ⟨q,0,none⟩=some (.int .i64 x.num):=Zc (i:=0) (h3.flight HQ Q).1 rfl
 have f2:w3.cell? ⟨q,2,none⟩=some (.int .i64 x.conn):=Zc (i:=2) (h3.flight HQ Q).1 rfl
 have kg:w3.cell? ⟨g0,0,none⟩=some (.int .i64 J):=by rw[H];exact K2.out
 have aV:=D ((ZS _ _).upd aU X (by simp))
 have H3:=D h3;have bc:=Jt a2 X
 clear h3 X;change Hid _ at H
 refine Jr [0,4,8,12,16,20,24,28,32,36,40,44,48,52,58] (fun W=>W.cell? ⟨g0,0,none⟩=some (.int .i64 J)∧W.cell? ⟨q,0,none⟩=some (.int .i64 x.num)∧W.cell? ⟨q,2,none⟩=some (.int .i64 x.conn)) (by rw[H.out]at kg f0 f2;exact⟨kg,f0,f2⟩) ?_
 repeat first|refine Jn ?_|refine Jf ?_|refine Ju ?_
 refine JL ?_
 simp only[Xu]
 rw[←H.out]
 go_wp2_with fail
 refine(Zag H3 (Xj af.log (by omega)) _ _ _ _ _ _ _).mono ?_
 rintro e w4 ⟨rfl,aO,F4,h4,g4⟩
 obtain⟨r4,aD⟩:=YG.frame (ZS _ _) aV a6 g4
 have H4:=D h4;have G4:=D (g4.pre0 bc);have a9:=D r4;have aQ:=D aD
 clear h4 g4 r4 aD kg f0 f2 H
 go_wp2_with fail
 refine Jz ?_
 go_upto_region 2 with fail
 have an:ZW (ZR s 7 J x.num x.conn c0) (n+1) m:=af.tell _ _ _ _ _
 have aq:=D an
 have aF:Lk.Safe (ZR s 7 J x.num x.conn c0):=HS.tell _ _ _ _ _
 have a0:=D aF
 clear an aF
 go_wp2_with fail
 refine(Zd4 H4 aq (by omega) HQ (x:=x) Q HS.out.2.pn _).mono ?_
 rintro e w5 ⟨rfl,aL,F5,h5,g5,q5,e5⟩
 obtain⟨r5,aK⟩:=YG.frame (ZS _ _) a9 aQ g5
 have aB:w5.heap[q]? =some (.cells (ZbV x).toArray 259 (0,0)):=e5.trans (H4.flight HQ Q).1
 obtain⟨w6,I⟩:=Je w5.drew
 have Y:=Jd I
 have h6:=h5.upd0 Y
 have E:w6.cell? ⟨q,0,none⟩=some (.int .i64 x.num):=by rw[I];exact Zc (w:=w5) (i:=0) aB rfl
 have r:=Jx 14 h6.blk.1
 have a7:=D ((ZS _ _).upd r5 Y (by simp));have aR:=D aK
 have H6:=D h6;have G6:=D ((G4.trans g5).upd0 Y)
 have au:=D (aq.forget x (st==8))
 clear h5 g5 q5 e5 r5 aK aB Y h6;change Hid _ at I
 go_upto_region 3 with fail
 obtain⟨S5,L⟩:=Je (forgetS (ZR s 7 J x.num x.conn c0) x (st==8))
 rw[←L]at H6 au ac
 have ag:S5.shares=s.shares:=by rw[L,(ZbP _ _ _).1];rfl
 have ar:S5.all=s.all:=by rw[L,ZeQ];rfl
 obtain⟨g,G,z,hg,aj,aC⟩:=H6.shares
 have V:g.map (·.2)=s.shares:=z.trans ag
 have d:g.findIdx? (fun p=>p.2.num==x.num)=some k:=by rw[←HK.out,←V,List.findIdx?_map];rfl
 have ae:g.length=s.shares.length:=by rw[←V,Xb]
 have ak:=af.sn
 obtain⟨pr,K⟩:∃pr,g[k]? =some pr:=⟨_,Xa (Yv d)⟩
 have az:=Zei hg (by omega) x.num d K
 have aM:=D az;have aE:=D aC;have be:=D V
 have aI:Lk.Safe {S5 with shares:=s.shares.eraseIdx k}:=by
  have a:=a0.dropP (p:=x) (Xc Q) (st==8)
  rw[←L]at a
  have e:dropO (ZR s 7 J x.num x.conn c0).shares x.num=s.shares.eraseIdx k:=by
   unfold dropO
   show(match s.shares.findIdx? (fun o=>o.num==x.num)with|some i=>Zaa s.shares i|none=>s.shares)=_
   rw[HK.out];dsimp only;rw[Ya]
  rw[e]at a;exact a
 have ao:ZW {S5 with shares:=s.shares.eraseIdx k} (n+1) m:=by
  have a:=au.dropO x.num
  rw[ag,HK.out]at a
  dsimp only at a
  rw[Ya]at a;exact a
 have a4:=D aI;have aS:=D ao
 clear z V d ae ak K az aC hg aj aI ao ag L;change Hid _ at ar
 refine Jr [0,4,8,12,16,20,24,28,34] (fun W=>W.cell? ⟨b,14,none⟩=some (.pointer (some ⟨P.shares,0,none⟩))∧W.cell? ⟨q,0,none⟩=some (.int .i64 x.num)) (by rw[I.out]at r E;exact⟨r,E⟩) ?_
 repeat first|refine Jn ?_|refine Jf ?_|refine Ju ?_
 refine JL ?_
 simp only[Xu]
 rw[←I.out]
 go_wp2_with fail
 refine aM.out.mono ?_
 rintro e w7 ⟨rfl,G7,M7,ay,_,_,am,_,ax⟩
 obtain⟨F7,h7,g7⟩:=aE.out w7 _ _ _ ay ⟨ax,fun a ha=> .inl (am a ha)⟩
 rw[←Y0,be.out]at h7
 obtain⟨r7,aA⟩:=YG.frame (ZS _ _) a7 aR g7
 have c:=D (show ZdO b P va w F w7 (n+1) m {S5 with shares:=s.shares.eraseIdx k} l st 0 (.slice (some ⟨g0,0,none⟩) ln cA) M {S5 with shares:=s.shares.eraseIdx k} (P.qps.eraseIdx j) aL aO F7 from
  ⟨h7,G6.trans g7,aS.out,a4.out,rfl,rfl,r7,aA,fun y hy=>by rw[ar.out];exact aw.out.2 y hy⟩)
 clear h7 g7 r7 aA ay am ax r E I aM aE
 go_wp2_with fail
 refine Jz ?_
 go_wp2_with fail
 go_loopw[51] (fun s51 wr=>∃(kk:Nat) (sc:Zf) (q:List Nat) (vp1 vl1:Value) (F1:List Nat),s51= .int .i64 kk∧kk≤ln∧Hid (ZdO b P va w F wr (n+1) m {S5 with shares:=s.shares.eraseIdx k} l st kk (.slice (some ⟨g0,0,none⟩) ln cA) M sc q vp1 vl1 F1)) (fun s51 _=>ln-(intOf s51).toNat)
 case atStart=>exact⟨0,{S5 with shares:=s.shares.eraseIdx k},P.qps.eraseIdx j,aL,aO,F7,rfl,Xn _,c⟩
 case round=>
  clear c
  obtain⟨kk,sc,q1,vp1,vl1,F2,rfl,bf,c⟩:=hrel
  by_cases ab:kk<ln
  ·obtain⟨i,p,f,hx,hf,hp,g1,c1,a1,k1⟩:=c.elem (by rw[←aa.out];exact ab)
   injection a1 with O a8 a5
   clear a8
   injection O with O
   injection O with O _ _
   subst O;subst a5
   have aZ:=D hx;have aY:=D hf;have aJ:=D hp
   clear hx hf hp
   go_wp2_with fail
   refine(ZaF c.at_ (by have:=c.fit.all;omega) aJ _ rfl).mono ?_
   rintro e W ⟨rfl,hW⟩
   rw[hW]
   clear hW W
   go_wp2_with fail
   refine(ZfL c.at_ c.fit c.safe (by omega) (by omega) aJ aY st hst).mono ?_
   rintro e w8 ⟨rfl,q8,aW,bd,F8,h8,g8⟩
   have aT:=D (c.next (by omega) aZ h8 g8)
   clear h8 g8 k1
   go_wp2_with fail
   exact⟨⟨kk+1,_,q8,aW,bd,F8,by go_num,by omega,aT⟩,by simp[intOf];omega⟩
  ·obtain rfl:kk=ln:=by omega
   have HE:=D (show R=sc by rw[ac.out,c.res,aa.out,Xm])
   go_wp2_with fail
   (try simp only[Exit.inBlock,Exit.then])
   first|refine bodyPost_ret (results_none rfl _ _ _) rfl ?_|refine bodyPost_end (results_none rfl _ _ _) rfl ?_
   rw[HE.out]
   exact⟨rfl,q1,vp1,vl1,F2,c.at_,c.grows⟩
end
end Go.Proofs.YtbgbeddbfaopgaaGreatDoor
namespace Go.Lk
def ZrI (a:Zf×Int) (id:Int):Zf×Int:=match Zac a.1 id with
 |some f=>if f.state=1∧f.req.cls=5 then((activateS a.1 id).1,a.2+1)else a
 |none=>a
end Go.Lk
namespace Go.Proofs.YtbgbeddbfaopgaaGreatDoor
open Go.RowKit Go.Lk
structure ZpO (b:Nat) (P:YI) (va vp:Value) (w:World) (F:List Nat) (wr:World) (n m:Nat) (s0:Zf) (l:List Int) (kk:Nat) (v:Value) (M:List Nat) (sc:Zf) (c:Int) (vl:Value) (F1:List Nat):Prop where
 at_:Zh wr b P none sc va vp vl F1
 grows:Zi w wr F F1
 fit:ZW sc (n+2*kk) m
 safe:Lk.Safe sc
 res:(sc,c)=(l.take kk).foldl ZrI (s0,0)
 len:sc.all.length=s0.all.length
 row:Z9 v l wr M
 ap:Z8 F1 M
 vals:∀x∈l,1≤x∧x≤s0.all.length
 cc:0≤c∧c≤kk
theorem ZpO.elem {wr:World} {kk:Nat} {sc:Zf}
  (h:ZpO b P va vp w F wr n m s0 l kk v M sc c vl F1) (hk:kk<l.length):∃(i p:Nat) (f:ZE),l[kk]? =some ((i:Int)+1)∧sc.all[i]? =some f∧P.fps[i]? =some p∧∃g c,v= .slice (some ⟨g,0,none⟩) l.length c∧wr.cell? ⟨g,kk,none⟩=some (.int .i64 ((i:Int)+1)):=by
 have hx:=Xa hk
 have hv:=h.vals _ (Xc hx)
 obtain⟨i,o⟩:∃i:Nat,l[kk]=(i:Int)+1:=⟨(l[kk]-1).toNat,by omega⟩
 rw[o]at hx
 have k:i<sc.all.length:=by rw[h.len];omega
 have e:=Xa k
 obtain⟨p,q⟩:=h.at_.fp e
 obtain⟨g,c,d,_,a⟩:=h.row.cell (j:=kk) (i:=0) (c:=Zcy ((i:Int)+1)) (by rw[Xe,hx];rfl) rfl
 rw[Xb]at d
 rw[Nat.mul_one,Nat.add_zero]at a
 exact⟨i,p,_,hx,e,q,g,c,d,a⟩
end Go.Proofs.YtbgbeddbfaopgaaGreatDoor
namespace Go.Proofs.YtbgbeddbfaopgaaGreatDoor
open Go.RowKit Go.Lk
end Go.Proofs.YtbgbeddbfaopgaaGreatDoor
