import Derived.Test.YtbgbeddbfaopgaaGreatDoorZ9
set_option linter.all false
set_option maxHeartbeats 16000000
set_option maxRecDepth 100000
set_option autoImplicit true
set_option relaxedAutoImplicit true
namespace Go.Proofs.YtbgbeddbfaopgaaGreatDoor
open Go.RowKit Go.Lk
theorem ZhJ (l:List Zbe) (hs:List Yu):(l.filter fun c=> !(!(ZaS hs c.key).isSome))=l.filter fun c=>(ZaS hs c.key).isSome:=by
 congr 1;funext c;exact Bool.not_not _
theorem Zah.setLast {hb:Nat} {Gb Gi Gh:List Nat} (h:Zah w b p vb vi hb Gb Gi Gh) (x:Int) (h0:0≤x):Zah (w.setCell ⟨b,5,none⟩ (.int .i64 x)) b {p with last:=x} vb vi hb Gb Gi Gh:=by
 have d:Zg [b] w (w.setCell ⟨b,5,none⟩ (.int .i64 x)):=(Zg.refl _ _).setCell (.inr (by simp)) _
 refine⟨by rw[Ze h.blk];rfl,(Zd _ _ _ _).upd h.busy d (fun k a c=> ?_),(Zd _ _ _ _).upd h.idle d (fun k a c=> ?_),(ZA _ _).upd h.hosts d (fun k a c=> ?_),h.nb,h.ni,h.nh,h.bi,h.bh,h.ih,⟨h.ok.tot,h.ok.few,h.ok.hosts,h.ok.uses,h0,h.ok.keep⟩⟩
 ·rw[Jm c]at a;exact h.nb a
 ·rw[Jm c]at a;exact h.ni a
 ·rw[Jm c]at a;exact h.nh a
theorem ZnV (h:YE b p w F) (key:Bs) (now:Nat) (hlast:p.last≤1000000000000):
  Calls Tryz.prog 155 #[.pointer (some ⟨b,0,none⟩), .string ⟨key.toArray⟩, .int .u64 now] w fun e w'=>e= .returned (.tuple #[.int .i64 (ZbE p key now).2.1, .bool (ZbE p key now).2.2.1, .int .i64 (ZbE p key now).2.2.2])∧∃F',YE b (ZbE p key now).1 w' F'∧Zi w w' F F':=by
 obtain⟨w1,bs⟩:=Je (w.alloc (.cells #[.pointer (some ⟨b,0,none⟩)] 60))
 have bC:=Ja bs
 have bx:=Jh bs
 have h1:=(ZZ _ _).upd h bC (by simp)
 have bM:=Zln h1 key
 have cI:=(ZZ _ _).lt h
 have c2:w1.cell? ⟨w.heap.size,0,none⟩=some (.pointer (some ⟨b,0,none⟩)):=Zc bx rfl
 have cm:b∈F:=by obtain⟨_,_,_,_,_,_,rfl,_⟩:=h;simp
 obtain⟨cY,aW⟩:=Je (Zf2 p key)
 rw[←aW]at bM
 have ck:=D bM;have H1:=D h1;have cX:=D cI;have c8:=D cm;have cd:=D hlast
 clear bM h1 cI h cm hlast;change Hid _ at bx bs bC aW
 cases cY with
 |false=>
  have ar:=D (Zpx (now:=now) aW.symm)
  rw[ar.out]
  go_enter Tryz.func155,Tryz.ntmps155
  go_upto_region 1 with fail
  rw[←bs.out]
  go_wp2_with fail
  refine ck.out.mono ?_
  rintro e w2 ⟨rfl,aM⟩
  have bz:=D aM;clear aM
  go_wp2_with fail
  go_ret3
  exact⟨rfl,F,(ZZ _ _).upd H1 bz (by simp),(bC.trans bz (by simp)).weaken (by simp),fun k a=> .inl a⟩
 |true=>
  go_enter Tryz.func155,Tryz.ntmps155
  go_upto_region 1 with fail
  rw[←bs.out]
  go_wp2_with fail
  refine ck.out.mono ?_
  rintro e w2 ⟨rfl,aM⟩
  have h2:=(ZZ _ _).upd H1 aM (by simp)
  have bS:=(aM.block _ (Jg bx) (by simp)).trans bx.out
  have cS:w2.cell? ⟨w.heap.size,0,none⟩=some (.pointer (some ⟨b,0,none⟩)):=Zc bS rfl
  have HE:=D (ZlH h2 now)
  have bz:=Jt bC aM;have ct:=D bS
  clear aM h2 bS c2
  go_wp2_with fail
  refine HE.out.mono ?_
  rintro e w3 ⟨v3,rfl,h3,bT⟩
  obtain⟨vb,vi,hb,o,C,Gh,hF,h3⟩:=h3
  have b0:w.heap.size∉F:=fun d=>by have:=cX.out _ d;omega
  have b7:=(bT.block _ (Jg ct) b0).trans ct.out
  have cz:w3.cell? ⟨w.heap.size,0,none⟩=some (.pointer (some ⟨b,0,none⟩)):=Zc b7 rfl
  have cy:=Jc 4 h3.blk
  obtain⟨p1,aH⟩:=Je (expireP p now)
  have cD:p1.last=p.last:=by rw[aH];rfl
  rw[←aH]at h3
  have cl:=Zo4 h3.hosts (Xj h3.ok.hosts (by omega)) (fun y hy=>(h3.ok.uses y hy).1) key
  have ch:=D cl;have H3:=D h3;have HF:=D hF;have bQ:=D b7
  have bt:=D ((bz.weaken (G:=F) (by simp)).trans bT (fun k a=> .inr a))
  have bh:=D (show∀k∈b::(o++C++Gh),k≠w.heap.size from fun k a e=>by rw[←hF,e]at a;exact b0 a)
  clear cl h3 hF b7 bT b0 cS;change Hid _ at aH cD
  go_wp2_with fail
  rcases Zma ⟨H3.ok.hosts,H3.ok.uses⟩ key with⟨hs,aS,cv,cJ⟩|aS
  ·have c5:=D aS
   have O:=ch.out
   rw[aS]at O
   dsimp only[Option.getD]at O
   have HQ:=D O
   have cw:=D (And.intro cv cJ)
   clear aS O cv cJ
   refine HQ.out.mono ?_
   rintro e w4 ⟨gone,rfl,K,bi,Z⟩
   have ah:=H3.setHosts (l':=hs) Z.upd bi Z.new ⟨H3.ok.tot,H3.ok.few,cw.out.1,cw.out.2,H3.ok.last,H3.ok.keep⟩
   have cB:w.heap.size∉Gh:=fun d=>bh.out _ (by simp[d]) rfl
   have bw:=(Z.upd.block _ (Jg bQ) cB).trans bQ.out
   have cF:w4.cell? ⟨w.heap.size,0,none⟩=some (.pointer (some ⟨b,0,none⟩)):=Zc bw rfl
   have bK:∀k∈b::(o++C++K),k≠w.heap.size:=fun k a e=>by
    simp only[List.mem_cons,List.mem_append]at a
    rcases a with a|(a|a)|a
    ·exact bh k (by simp[a]) e
    ·exact bh k (by simp[a]) e
    ·exact bh k (by simp[a]) e
    ·rcases Z.new k a with m|m
     ·exact bh k (by simp[m]) e
     ·have:=bt.size;have:=(Jg bQ);omega
   have bF:=Zjc 229 #[.pointer (some ⟨w.heap.size,0,none⟩)] (enters_of Tryz.func229 (by kernel_rfl) rfl) (fun c=> !(ZaS hs c.key).isSome) ah (fun W x hu=>
    ZlQ x ((Xp (hu.block _ (Jg bw) (fun d=>bK _ (by simp[d]) rfl))).trans cF)
     (Zc (i:=4) ((hu.block _ (Jg ah.blk) ah.ni).trans ah.blk) rfl) ((ZA _ _).upd ah.hosts hu (fun k a d=>ah.ih k d a)))
   rw[ZhJ]at bF
   obtain⟨p2,bj⟩:∃p2:ZaX,p2={p1 with hosts:=hs,idle:=p1.idle.filter fun c=>(ZaS hs c.key).isSome}:=⟨_,rfl⟩
   have cf:Calls Tryz.prog 142 #[.pointer (some ⟨b,0,none⟩), .func (.func 229) #[] #[.pointer (some ⟨w.heap.size,0,none⟩)]] w4 (Zfw fun w'=>∃cQ,Zah w' b p2 vb cQ hb o C K∧Zg (b::C) w4 w'):=by rw[bj];exact bF
   have ar:ZbE p key now=ZfV p2 key:=by rw[bj,aH.out];exact Zl3 aW.symm (aH.out▸c5.out)
   have b1:p2.last=p.last:=by rw[bj];exact cD.out
   have cU:=D (show(p2.busy.length:Int)<p2.total by
    have:=aW.out;unfold Zf2 at this;have:=(Bool.and_eq_true _ _▸this.symm:_∧_).1;rw[bj,aH.out];exact of_decide_eq_true this)
   have c6:=D cf;have cq:=D bw;have ag:=D bK
   have c7:=D ah.lt
   have b6:=D (bt.trans Z.upd (fun k a=> .inr (by rw[HF.out];simp[a])))
   have L:=D (show∀k∈b::(o++C++K),k∈F∨w.heap.size≤k from fun k a=>by
    simp only[List.mem_cons,List.mem_append]at a
    rcases a with a|(a|a)|a
    ·exact .inl (by rw[HF.out];simp[a])
    ·exact .inl (by rw[HF.out];simp[a])
    ·exact .inl (by rw[HF.out];simp[a])
    ·rcases Z.new k a with m|m
     ·exact .inl (by rw[HF.out];simp[m])
     ·right;have:=bt.size;omega)
   clear bi Z ah cB bw bK bF bj cf cz cy;change Hid _ at ar b1
   go_wp2_with fail
   refine c6.out.mono ?_
   rintro e w5 ⟨v5,rfl,dc,aP,bU⟩
   have b5:=(bU.block _ (Jg cq) (fun d=>by
    rcases List.mem_cons.1 d with e|d
    ·exact ag b (by simp) e.symm
    ·exact ag _ (show w.heap.size∈b::(o++C++K)by simp[d]) rfl)).trans cq.out
   have c4:w5.cell? ⟨w.heap.size,0,none⟩=some (.pointer (some ⟨b,0,none⟩)):=Zc b5 rfl
   obtain⟨Ai,ci,cr,cW,ce⟩:=aP.idle.lies
   obtain⟨Ab,cb,co,cP⟩:=aP.busy.form'
   rw[Xb]at cr co cW cP
   subst cr;subst co
   have cT:=Jc 1 aP.blk
   have cn:=aP.ok.few;have cg:=aP.ok.tot
   have da:p2.idle.length≤32:=by omega
   have de:p2.busy.length≤32:=by omega
   have cZ:=D aP;have cK:=D b5;have cp:=D ce
   have aX:=D (b6.trans bU (fun k a=> .inr (by rw[HF.out];simp at a⊢;rcases a with h|h<;>simp[h])))
   have bB:=D (And.intro cn cg)
   have c0:=D (show(p2.busy.length:Int)<p2.total from cU.out)
   have ax:=D (show Zu Tryz.prog 243 3=true by kernel_rfl)
   clear aP b5 ce bU cF cn cg
   go_wp2_with fail
   go_loopw[11] (fun s11 wr=>∃z:Int,s11= .int .i64 z∧-1≤z∧z<p2.idle.length∧Hid (∀(j:Nat) (y:Zbe),z<j→p2.idle[j]? =some y→(y.key==key)=false)∧Hid (Zg [] w5 wr)) (fun s11 _=>(intOf s11+1).toNat)
   case atStart=>exact⟨(p2.idle.length:Int)-1,rfl,by omega,by omega,D (fun j y hj hy=>by have:=(Jk hy);omega),D (Zg.refl _ _)⟩
   case round=>
    obtain⟨z,rfl,db,dd,HM,HU⟩:=hrel
    clear cT c4
    have b4:=cZ.upd HU (by simp)
    have b3:=(HU.block _ (Jg cK) (by simp)).trans cK.out
    have bW:wr.cell? ⟨w.heap.size,0,none⟩=some (.pointer (some ⟨b,0,none⟩)):=Zc b3 rfl
    have bR:=Jc 1 b4.blk
    have aO:=D b4;have bA:=D b3
    clear b4 b3
    by_cases c1:0≤z
    ·obtain⟨kk,rfl⟩:=Int.eq_ofNat_of_zero_le c1
     have cC:kk<p2.idle.length:=by omega
     obtain⟨x,hx⟩:∃x,p2.idle[kk]? =some x:=⟨_,Xa cC⟩
     obtain⟨ab,rfl,cE⟩:=cp.out kk (ZO x) (by rw[Xe,hx];rfl)
     have cx:=D (cE.upd HU (by simp))
     have HO:=D (show(ZO x).toArray.all (·.oneCell')=true by rw[Xl,Xk];exact Zae x)
     have HA:=D (Za (w:=wr) (.cells #[.int .i64 0, .string ⟨#[]⟩, .int .u64 0] 243 (0,0)))
     obtain⟨w6,br⟩:=Je ((wr.alloc (.cells #[.int .i64 0, .string ⟨#[]⟩, .int .u64 0] 243 (0,0))).setRow wr.heap.size (ZO x).toArray)
     have bD:w6.heap[wr.heap.size]? =some (.cells (ZO x).toArray 243 (0,0)):=by rw[br];exact setRow_heap _ _ _ _ _ _ HA.out
     have aV:Zg [] wr w6:=by rw[br];exact((Zg.refl [] wr).alloc _).setRow (.inl (Xi _)) _
     have cL:w6.cell? ⟨wr.heap.size,1,none⟩=some (.string ⟨x.key.toArray⟩):=Zc bD rfl
     have HX:=D hx
     obtain⟨q,O⟩:=Je ((x.key==key))
     have cA:=D O
     clear hx cE;change Hid _ at br bD aV
     cases q with
     |false=>
      have zq:(x.key==key)=false:=O.symm
      clear O
      go_wp2_with(first|refine Js cx ax ?_|(refine Jo (ZO x).toArray HA ax HO ?_;rw[←br.out]))
      go_roundw
      case rel=>
       refine⟨(kk:Int)-1,rfl,by omega,by omega,D (fun j y hj hy=> ?_),Jt HU aV⟩
       by_cases e:j=kk
       ·subst e;rw[HX.out]at hy;cases hy;exact cA.symm
       ·exact HM j y (by omega) hy
      case measure=>simp[intOf]
     |true=>
      have zq:(x.key==key)=true:=O.symm
      clear O
      go_upto_region 15 with(first|refine Js cx ax ?_|(refine Jo (ZO x).toArray HA ax HO ?_;rw[←br.out]))
      have ad:=D (aO.upd aV (by simp))
      have ca:=D ((aV.block _ (Jg bA) (by simp)).trans bA)
      have bX:=D cC
      clear cL bW bR
      have aJ:=fun(n:Nat)=>ZhV (w:=w6.drewN n) (g:=ab) (cap:=ci) (xs:=p2.idle.map ZO) (by rw[Xb];exact ad.idle) (Zdn Zae p2.idle) (i:=kk) (by rw[Xb];exact bX)
      rw[Xb]at aJ
      have bL:=D aJ
      have a3:w6.cell? ⟨w.heap.size,0,none⟩=some (.pointer (some ⟨b,0,none⟩)):=Zc ca rfl
      have a7:=Jc 1 ad.blk
      clear aJ
      refine Jr [0,4,8,12,16,20,24,28,33,36,40,46] (fun W=>W.cell? ⟨w.heap.size,0,none⟩=some (.pointer (some ⟨b,0,none⟩))∧W.cell? ⟨b,1,none⟩=some (.slice (some ⟨ab,0,none⟩) p2.idle.length ci)) ⟨a3,a7⟩ ?_
      repeat first|refine Jn ?_|refine Jf ?_|refine Ju ?_
      refine JE ?_
      simp only[Xu]
      go_wp2_with fail
      refine(bL.out 1).mono ?_
      rintro e ao ⟨rfl,aL,ap⟩
      rw[Y0]at aL
      have Y:C=[ab]:=by obtain⟨_,_,h2,_⟩:=ad.idle.block;exact h2
      have aI:b≠ab:=fun e=>ad.ni (by rw[Y,e];simp)
      have a1:w.heap.size≠ab:=fun e=>ag.out ab (by rw[Y];simp) e.symm
      have a4:w.heap.size≠b:=fun e=>ag.out b (by simp) e.symm
      have al:=(ap.block b (Jg ad.blk) (by simpa using aI)).trans (show(w6.drewN 1).heap[b]? =_ from ad.blk)
      have an:=(ap.block _ (Jg ca) (by simpa using a1)).trans (show(w6.drewN 1).heap[w.heap.size]? =_ from ca.out)
      have a2:ao.cell? ⟨w.heap.size,0,none⟩=some (.pointer (some ⟨b,0,none⟩)):=Zc an rfl
      have a5:=Jc 1 al
      have bG:ao.frozen? ⟨b,1,none⟩=false:=Zk al
      obtain⟨I,aq⟩:=Je (ao.setCell ⟨b,1,none⟩ (.slice (some ⟨ab,0,none⟩) (p2.idle.length-1) ci))
      have am:Zg [b] ao I:=by rw[aq];exact(Zg.refl _ _).setCell (.inr (by simp)) _
      have a6:=(am.block _ (Jg an) (by simpa using a4)).trans an
      have a0:=(Zd _ _ _ _).upd aL am (fun k a d=>by simp at a d;exact aI (by omega))
      have aj:Zg (b::C) w6 I:=(((Zg.refl (b::C) w6).drewN 1).trans ap (fun k a=> .inr (by rw[Y];simp at a;simp[a]))).trans am (fun k a=> .inr (by simp at a;simp[a]))
      have ay:(p2.idle.eraseIdx kk).length=p2.idle.length-1:=List.length_eraseIdx_of_lt bX.out
      have N:=D (ad.setIdle (l':=p2.idle.eraseIdx kk) aj (by rw[aq,Ze al];rfl) a0 (fun y hy=> .inl (by rw[Y];exact hy)) ⟨ad.ok.tot,by have:=bB.out;dsimp only;rw[ay];omega,ad.ok.hosts,ad.ok.uses,ad.ok.last,ad.ok.keep⟩)
      have ak:=D a6
      clear aL ap aI a1 a4 al an am a6 a0 a3 a7;change Hid _ at aj aq Y ay
      go_wp2_with fail
      refine⟨fun W=>W.cell? ⟨w.heap.size,0,none⟩=some (.pointer (some ⟨b,0,none⟩))∧W.cell? ⟨b,1,none⟩=some (.slice (some ⟨ab,0,none⟩) p2.idle.length ci),fun W h=>h,⟨a2,a5⟩,?_⟩
      repeat first|refine Jn ?_|refine Jf ?_|refine Ju ?_
      refine JL ?_
      go_wp2_with fail
      refine Jz ?_
      clear a2
      clear a5 bG
      have bZ:wr.heap.size∉b::(o++C++K):=fun d=>by have:=aO.lt _ d;omega
      have cH:=(aj.block _ (Jg bD) (fun d=>bZ (by simp at d⊢;rcases d with h|h<;>simp[h]))).trans bD.out
      have bI:=D (show Zb I wr.heap.size 0 (ZO x)from Zb.of_block cH)
      have b9:=D N.blk;have c3:=D N.busy;have aD:=D N.nb
      have cR:=D (show wr.heap.size∉o from fun d=>bZ (by simp[d]))
      have bm:=D (show w.heap.size∉o from fun d=>ag.out _ (show w.heap.size∈b::(o++C++K)by simp[d]) rfl)
      clear bZ cH
      go_upto_region 16 with fail
      rw[←aq.out]
      have cN:I.cell? ⟨w.heap.size,0,none⟩=some (.pointer (some ⟨b,0,none⟩)):=Zc ak rfl
      go_upto_region 16 with fail
      have aE:=Jc 0 b9.out
      refine Jr [0,4,8,12,16,20,25,29,32,36,42] (fun W=>W.cell? ⟨b,0,none⟩=some (.slice Ab p2.busy.length cb)∧Zb W wr.heap.size 0 (ZO x)∧W.cell? ⟨w.heap.size,0,none⟩=some (.pointer (some ⟨b,0,none⟩))) ⟨aE,bI.out,cN⟩ ?_
      repeat first|refine Jn ?_|refine Jf ?_|refine Ju ?_
      apply Zq (t:= 243) (b:=wr.heap.size) (of:=0) (cs:=[.int .i64 x.num, .string ⟨x.key.toArray⟩, .int .u64 (x.until_:Int)])
      case ho=>simp only[Xh,Xf,Xg];rfl
      case hg=>rfl
      case hop=>rfl
      case hx=>rfl
      case ht=>exact ax.out
      case hb=>exact fun W M=>M.2.1
      case ha=>go_simp;rfl
      refine JE ?_
      go_wp2_with fail
      obtain⟨R,P⟩:=Je ((I.alloc (.cells #[.int .i64 x.num, .string ⟨x.key.toArray⟩, .int .u64 (x.until_:Int)] 243)).drew)
      rw[←P]
      have r:Zg [] I R:=by rw[P];exact((Zg.refl [] _).alloc _).drew
      have ae:=(r.block b (Jg b9) (by simp)).trans b9.out
      have aB:Zb R I.heap.size 0 (ZO x):=by rw[P];exact Zb.of_block (w:=I.alloc _) (Za _)
      have aC:=(Zd _ _ _ _).upd c3 r (by simp)
      have az:=D ae;have ba:=D aC;have be:=D aB
      have a9:=D (show R.cell? ⟨b,0,none⟩=some (.slice Ab p2.busy.length cb)from Zc (i:=0) ae rfl)
      clear ae aC P aB aE;change Hid _ at r
      refine⟨fun W=>W.cell? ⟨b,0,none⟩=some (.slice Ab p2.busy.length cb)∧Zb W wr.heap.size 0 (ZO x)∧W.cell? ⟨w.heap.size,0,none⟩=some (.pointer (some ⟨b,0,none⟩)),fun W M=>M,⟨a9,bI.upd r (by simp),Zc ((r.block _ (Jg ak) (by simp)).trans ak) rfl⟩,?_⟩
      refine JE ?_
      refine Zn R rfl (.tmp 74) (.tmp 76) 120 rfl 243 Tryz.underlying120 Zeb rfl (by omega) (by omega) _ (p2.busy.map ZO) o rfl ba I.heap.size 1 (ZO x) rfl be rfl (Zae _) (by rw[Xb];omega) ?_
      intro v' w9 G' ai V H
      obtain⟨A',c',X,_⟩:=ai.form'
      rw[Xd,Xb,List.length_singleton]at X
      subst X
      have Q:=(V.block b (Jg az) aD).trans az.out
      have c9:=Jc 0 Q
      have f9:w9.frozen? ⟨b,0,none⟩=false:=Zk Q
      have bk:=D Q;have bn:=D ai;have aF:=D V;have bq:=D H
      have aA:=D ((bI.upd r (by simp)).upd V cR)
      clear Q ai V H
      go_wp2_with fail
      refine⟨fun W=>W.cell? ⟨b,0,none⟩=some (.slice Ab p2.busy.length cb)∧Zb W wr.heap.size 0 (ZO x)∧W.cell? ⟨w.heap.size,0,none⟩=some (.pointer (some ⟨b,0,none⟩)),fun W M=>M,⟨c9,aA.out,Zc ((aF.block _ (Nat.lt_of_lt_of_le (Jg ak) r.size) bm).trans ((r.block _ (Jg ak) (by simp)).trans ak)) rfl⟩,?_⟩
      repeat first|refine Jn ?_|refine Jf ?_|refine Ju ?_
      refine JL ?_
      go_wp2_with fail
      refine Jz ?_
      obtain⟨wz,T⟩:=Je (w9.setCell ⟨b,0,none⟩ (.slice A' (p2.busy.length+1) c'))
      have S:Zg [b] w9 wz:=by rw[T];exact(Zg.refl _ _).setCell (.inr (by simp)) _
      have aG:b≠wr.heap.size:=fun e=>by have:=aO.lt b (by simp);omega
      have cj:wz.cell? ⟨wr.heap.size,0,none⟩=some (.int .i64 x.num):=(aA.upd S (by simpa using Ne.symm aG)) 0 _ rfl
      clear aG;change Hid _ at T S
      go_upto_region 17 with fail
      rw[←T.out]
      go_wp2_with fail
      go_ret3
      have H:∀y∈G',y∈o∨I.heap.size≤y:=fun y hy=>by
       rcases bq y hy with m|m
       ·exact .inl m
       ·right;have:=r.size;omega
      have a8:b∉G':=fun d=>by
       rcases H b d with m|m
       ·exact aD m
       ·have:=N.lt b (by simp);omega
      have hu9z:Zg (b::o) I wz:=(((r.weaken (G:=b::o) (by simp)).trans aF (fun y hy=> .inr (by simp[hy]))).trans S (fun y hy=> .inr (by simp at hy;simp[hy])))
      have bc:=N.setBusy (l':=p2.busy++[x]) hu9z (by rw[T.out,Ze bk.out];rfl) (by
        rw[Xs]
        exact(Zd _ _ _ _).upd bn S (fun y hy d=>by rw[Jm d]at hy;exact a8 hy)) H
       ⟨N.ok.tot,(by have:=bB.out;have:=ay.out;have:=bX.out;have X:(p2.busy++[x]).length=p2.busy.length+1:=(by simp);show((p2.busy++[x]).length:Int)+((p2.idle.eraseIdx kk).length:Nat)≤p2.total;rw[X,ay.out];omega),N.ok.hosts,N.ok.uses,N.ok.last,N.ok.keep⟩
      have bu:ZhK p2.idle key=some kk:=Zoa HX cA.symm (fun j y hj hy=>HM.out j y (by omega) hy)
      have bv:ZfV p2 key=({p2 with idle:=p2.idle.eraseIdx kk,busy:=p2.busy++[x]},x.num,false,0):=by
       unfold ZfV;rw[bu];dsimp only;rw[HX.out];dsimp only;rw[Ya]
      have aZ:=(show YE b _ _ _ from⟨_,_,_,_,_,_,rfl,bc⟩)
      have ac:∀k∈b::(o++C++K),w.heap.size≤k∨k∈F:=fun k a=>(L.out k a).symm
      rw[ar.out,bv]
      refine⟨rfl,b::(G'++[ab]++K),aZ,?_,fun k a=> ?_⟩
      ·exact((((aX.trans HU (by simp)).trans aV (by simp)).trans aj (fun y hy=>ac y (by simp at hy⊢;rcases hy with h|h<;>simp[h])))).trans hu9z (fun y hy=>ac y (by simp at hy⊢;rcases hy with h|h<;>simp[h]))
      ·simp only[List.mem_cons,List.mem_append]at a
       rcases a with a|(a|a)|a
       ·exact L k (by simp[a])
       ·rcases H k a with m|m
        ·exact L k (by simp[m])
        ·right;have:=aj.size;have:=aV.size;have:=HU.size;have:=aX.size;omega
       ·exact L k (by rw[Y.out];simp at a;simp[a])
       ·exact L k (by simp[a])
    ·obtain rfl:z= -1:=by omega
     have cu:=Jc 0 aO.blk
     have cG:=Jc 2 aO.blk
     have s1:IntKind.i64.wrap ((p2.busy.length:Int)+p2.idle.length)=(p2.busy.length:Int)+p2.idle.length:=IntWalk.i64_in _ (by omega)
     by_cases aY:p2.total≤(p2.busy.length:Int)+p2.idle.length
     ·have cV:decide (p2.total≤(p2.busy.length:Int)+p2.idle.length)=true:=decide_eq_true aY
      have b8:0<p2.idle.length:=by have:=c0.out;omega
      have bE:=D aY;have bY:=D b8
      obtain⟨g,hg⟩:∃g,Ai=some ⟨g,0,none⟩:=by
       obtain⟨ab,e1,_⟩:=cp.out 0 (ZO p2.idle[0]) (by rw[Xe,Xa b8];rfl)
       exact⟨ab,e1⟩
      subst hg
      clear aY b8
      go_wp2_with fail
      go_quiet (fail)
      generalize hwq:wr.drewN _=wq
      have J:=D (hwq▸(aO.upd ((Zg.refl [] wr).drewN _) (by simp)):Zah wq b p2 _ _ hb o C K)
      have aN:=D (show wq.heap[w.heap.size]? =some (.cells #[.pointer (some ⟨b,0,none⟩)] 60 (0,0))by rw[←hwq];exact bA)
      have bo:=D (show Zg [] wr wq by rw[←hwq];exact(Zg.refl [] wr).drewN _)
      clear hwq bW cu bR cG s1
      go_wp2_with fail
      have aJ:=fun(n:Nat)=>ZhV (w:=wq.drewN n) (g:=g) (cap:=ci) (xs:=p2.idle.map ZO) (by rw[Xb];exact J.idle) (Zdn Zae p2.idle) (i:=0) (by rw[Xb];exact bY)
      rw[Xb]at aJ
      have cc:∀n:Nat,Calls Tryz.prog 208 #[.slice (some ⟨g,0,none⟩) p2.idle.length ci, .int .i64 0, .int .i64 1] (wq.drewN n) _:=aJ
      have bL:=D cc
      clear cc
      have a3:wq.cell? ⟨w.heap.size,0,none⟩=some (.pointer (some ⟨b,0,none⟩)):=Zc aN rfl
      have a7:=Jc 1 J.blk
      clear aJ
      refine Jr [0,4,8,12,16,21,24,28,34] (fun W=>W.cell? ⟨w.heap.size,0,none⟩=some (.pointer (some ⟨b,0,none⟩))∧W.cell? ⟨b,1,none⟩=some (.slice (some ⟨g,0,none⟩) p2.idle.length ci)) ⟨a3,a7⟩ ?_
      repeat first|refine Jn ?_|refine Jf ?_|refine Ju ?_
      refine JE ?_
      simp only[Xu]
      go_wp2_with fail
      refine(bL.out 1).mono ?_
      rintro e ao ⟨rfl,aL,ap⟩
      rw[Y0]at aL
      have Y:C=[g]:=by obtain⟨_,_,h2,_⟩:=J.idle.block;exact h2
      have aI:b≠g:=fun e=>J.ni (by rw[Y,e];simp)
      have a1:w.heap.size≠g:=fun e=>ag.out g (by rw[Y];simp) e.symm
      have a4:w.heap.size≠b:=fun e=>ag.out b (by simp) e.symm
      have al:=(ap.block b (Jg J.blk) (by simpa using aI)).trans (show(wq.drewN 1).heap[b]? =_ from J.blk)
      have an:=(ap.block _ (Jg aN) (by simpa using a1)).trans (show(wq.drewN 1).heap[w.heap.size]? =_ from aN.out)
      have a2:ao.cell? ⟨w.heap.size,0,none⟩=some (.pointer (some ⟨b,0,none⟩)):=Zc an rfl
      have a5:=Jc 1 al
      have bG:ao.frozen? ⟨b,1,none⟩=false:=Zk al
      obtain⟨I,aq⟩:=Je (ao.setCell ⟨b,1,none⟩ (.slice (some ⟨g,0,none⟩) (p2.idle.length-1) ci))
      have am:Zg [b] ao I:=by rw[aq];exact(Zg.refl _ _).setCell (.inr (by simp)) _
      have a6:=(am.block _ (Jg an) (by simpa using a4)).trans an
      have a0:=(Zd _ _ _ _).upd aL am (fun k a d=>by simp at a d;exact aI (by omega))
      have aj:Zg (b::C) wq I:=(((Zg.refl (b::C) wq).drewN 1).trans ap (fun k a=> .inr (by rw[Y];simp at a;simp[a]))).trans am (fun k a=> .inr (by simp at a;simp[a]))
      have ay:(p2.idle.eraseIdx 0).length=p2.idle.length-1:=List.length_eraseIdx_of_lt bY.out
      have N:=D (J.setIdle (l':=p2.idle.eraseIdx 0) aj (by rw[aq,Ze al];rfl) a0 (fun y hy=> .inl (by rw[Y];exact hy)) ⟨J.ok.tot,by have:=bB.out;dsimp only;rw[ay];omega,J.ok.hosts,J.ok.uses,J.ok.last,J.ok.keep⟩)
      have ak:=D a6
      clear aL ap aI a1 a4 al an am a6 a0 a3 a7;change Hid _ at aj aq Y ay
      go_wp2_with fail
      refine⟨fun W=>W.cell? ⟨w.heap.size,0,none⟩=some (.pointer (some ⟨b,0,none⟩))∧W.cell? ⟨b,1,none⟩=some (.slice (some ⟨g,0,none⟩) p2.idle.length ci),fun W h=>h,⟨a2,a5⟩,?_⟩
      repeat first|refine Jn ?_|refine Jf ?_|refine Ju ?_
      refine JL ?_
      go_wp2_with fail
      refine Jz ?_
      clear a2
      clear a5 bG
      go_upto_region 20 with fail
      rw[←aq.out]
      have bd:=N.ok.last
      have bf:p2.last≤1000000000000:=by have:=b1.out;have:=cd.out;omega
      have bO:I.cell? ⟨w.heap.size,0,none⟩=some (.pointer (some ⟨b,0,none⟩)):=Zc ak rfl
      have bb:=Jc 5 N.blk
      have bg:=ZaM ⟨b,5,none⟩ p2.last 1 I bb (Zk N.blk) bd bf (by omega) (by omega)
      have bH:=D bg
      obtain⟨l,aw⟩:=Je (I.setCell ⟨b,5,none⟩ (.int .i64 (p2.last+1)))
      have af:=N.setLast (p2.last+1) (by have:=N.ok.last;first|omega|(dsimp only at this;omega))
      rw[←aw]at af
      have aU:Zg [b] I l:=by rw[aw];exact(Zg.refl _ _).setCell (.inr (by simp)) _
      have aT:=(aU.block _ (Jg ak) (fun d=>by simp at d;exact ag b (by simp) d.symm)).trans ak.out
      have bp:=D (Za (w:=l) (.cells #[.int .i64 0, .string ⟨#[]⟩, .int .u64 0] 243 (0,0)))
      obtain⟨s,av⟩:=Je ((l.alloc (.cells #[.int .i64 0, .string ⟨#[]⟩, .int .u64 0] 243 (0,0))).setRow l.heap.size (ZO ⟨p2.last+1,key,0⟩).toArray)
      have bl:s.heap[l.heap.size]? =some (.cells (ZO ⟨p2.last+1,key,0⟩).toArray 243 (0,0)):=by rw[av];exact setRow_heap _ _ _ _ _ _ bp.out
      have au:Zg [] l s:=by rw[av];exact((Zg.refl [] l).alloc _).setRow (.inl (Xi _)) _
      have E:=D (af.upd au (by simp))
      have aa:=D ((au.block _ (Jg aT) (by simp)).trans aT)
      have aK:=D (show Zb s l.heap.size 0 (ZO ⟨p2.last+1,key,0⟩)from Zb.of_block bl)
      have bJ:=D (show l.heap.size∉o from fun d=>by have:=af.lt l.heap.size (by simp[d]);omega)
      have bN:=D (show b<l.heap.size from af.lt b (by simp))
      have bm:=D (show w.heap.size∉o from fun d=>ag.out _ (show w.heap.size∈b::(o++C++K)by simp[d]) rfl)
      have aR:=D E.blk;have b2:=D E.busy;have aD:=D E.nb
      have HUac:=D (show Zg [b] I s from aU.trans_of' au)
      have bV:=D (show(ZO ⟨p2.last+1,key,0⟩).toArray.all (·.oneCell')=true by rw[Xl,Xk];exact Zae _)
      clear bd bf bg af aU aT bl au;change Hid _ at aw av
      go_wp2_with fail
      refine bH.out.mono ?_
      rintro e wt ⟨rfl,aQ⟩
      rw[←aw.out]at aQ
      rw[aQ];clear aQ wt bb bO
      go_upto_region 21 with(refine Jo (ZO ⟨p2.last+1,key,0⟩).toArray bp ax bV ?_;rw[←av.out])
      have bP:s.cell? ⟨w.heap.size,0,none⟩=some (.pointer (some ⟨b,0,none⟩)):=Zc aa rfl
      go_upto_region 21 with fail
      have aE:=Jc 0 aR.out
      refine Jr [0,4,8,12,16,20,25,29,32,36,42] (fun W=>W.cell? ⟨b,0,none⟩=some (.slice Ab p2.busy.length cb)∧Zb W l.heap.size 0 (ZO ⟨p2.last+1,key,0⟩)∧W.cell? ⟨w.heap.size,0,none⟩=some (.pointer (some ⟨b,0,none⟩))) ⟨aE,aK.out,bP⟩ ?_
      repeat first|refine Jn ?_|refine Jf ?_|refine Ju ?_
      apply Zq (t:= 243) (b:=l.heap.size) (of:=0) (cs:=[.int .i64 (p2.last+1), .string ⟨key.toArray⟩, .int .u64 0])
      case ho=>simp only[Xh,Xf,Xg];rfl
      case hg=>rfl
      case hop=>rfl
      case hx=>rfl
      case ht=>exact ax.out
      case hb=>exact fun W M=>M.2.1
      case ha=>go_simp;rfl
      refine JE ?_
      go_wp2_with fail
      obtain⟨R,P⟩:=Je ((s.alloc (.cells #[.int .i64 (p2.last+1), .string ⟨key.toArray⟩, .int .u64 0] 243)).drew)
      rw[←P]
      have r:Zg [] s R:=by rw[P];exact((Zg.refl [] _).alloc _).drew
      have ae:=(r.block b (Jg aR) (by simp)).trans aR.out
      have aB:Zb R s.heap.size 0 (ZO ⟨p2.last+1,key,0⟩):=by rw[P];exact Zb.of_block (w:=s.alloc _) (Za _)
      have aC:=(Zd _ _ _ _).upd b2 r (by simp)
      have az:=D ae;have ba:=D aC;have be:=D aB
      have a9:=D (show R.cell? ⟨b,0,none⟩=some (.slice Ab p2.busy.length cb)from Zc (i:=0) ae rfl)
      clear ae aC P aB aE;change Hid _ at r
      refine⟨fun W=>W.cell? ⟨b,0,none⟩=some (.slice Ab p2.busy.length cb)∧Zb W l.heap.size 0 (ZO ⟨p2.last+1,key,0⟩)∧W.cell? ⟨w.heap.size,0,none⟩=some (.pointer (some ⟨b,0,none⟩)),fun W M=>M,⟨a9,aK.upd r (by simp),Zc ((r.block _ (Jg aa) (by simp)).trans aa) rfl⟩,?_⟩
      refine JE ?_
      refine Zn R rfl (.tmp 116) (.tmp 118) 120 rfl 243 Tryz.underlying120 Zeb rfl (by omega) (by omega) _ (p2.busy.map ZO) o rfl ba s.heap.size 1 (ZO ⟨p2.last+1,key,0⟩) rfl be rfl (Zae _) (by rw[Xb];omega) ?_
      intro v' w9 G' ai V H
      obtain⟨A',c',X,_⟩:=ai.form'
      rw[Xd,Xb,List.length_singleton]at X
      subst X
      have Q:=(V.block b (Jg az) aD).trans az.out
      have c9:=Jc 0 Q
      have f9:w9.frozen? ⟨b,0,none⟩=false:=Zk Q
      have bk:=D Q;have bn:=D ai;have aF:=D V;have bq:=D H
      have aA:=D ((aK.upd r (by simp)).upd V bJ)
      clear Q ai V H
      go_wp2_with fail
      refine⟨fun W=>W.cell? ⟨b,0,none⟩=some (.slice Ab p2.busy.length cb)∧Zb W l.heap.size 0 (ZO ⟨p2.last+1,key,0⟩)∧W.cell? ⟨w.heap.size,0,none⟩=some (.pointer (some ⟨b,0,none⟩)),fun W M=>M,⟨c9,aA.out,Zc ((aF.block _ (Nat.lt_of_lt_of_le (Jg aa) r.size) bm).trans ((r.block _ (Jg aa) (by simp)).trans aa)) rfl⟩,?_⟩
      repeat first|refine Jn ?_|refine Jf ?_|refine Ju ?_
      refine JL ?_
      go_wp2_with fail
      refine Jz ?_
      obtain⟨wz,T⟩:=Je (w9.setCell ⟨b,0,none⟩ (.slice A' (p2.busy.length+1) c'))
      have S:Zg [b] w9 wz:=by rw[T];exact(Zg.refl _ _).setCell (.inr (by simp)) _
      have aG:b≠l.heap.size:=fun e=>by have:=bN.out;omega
      have cj:wz.cell? ⟨l.heap.size,0,none⟩=some (.int .i64 (p2.last+1)):=(aA.upd S (by simpa using Ne.symm aG)) 0 _ rfl
      clear aG;change Hid _ at T S
      go_upto_region 22 with fail
      rw[←T.out]
      go_wp2_with fail
      go_ret3
      have H:∀y∈G',y∈o∨s.heap.size≤y:=fun y hy=>by
       rcases bq y hy with m|m
       ·exact .inl m
       ·right;have:=r.size;omega
      have a8:b∉G':=fun d=>by
       rcases H b d with m|m
       ·exact aD m
       ·have:=E.lt b (by simp);omega
      have hu9z:Zg (b::o) s wz:=(((r.weaken (G:=b::o) (by simp)).trans aF (fun y hy=> .inr (by simp[hy]))).trans S (fun y hy=> .inr (by simp at hy;simp[hy])))
      have bc:=E.setBusy (l':=p2.busy++[⟨p2.last+1,key,0⟩]) hu9z (by rw[T.out,Ze bk.out];rfl) (by
        rw[Xs]
        exact(Zd _ _ _ _).upd bn S (fun y hy d=>by rw[Jm d]at hy;exact a8 hy)) H
       ⟨E.ok.tot,(by have X:(p2.busy++[(⟨p2.last+1,key,0⟩:Zbe)]).length=p2.busy.length+1:=(by simp);show((p2.busy++[(⟨p2.last+1,key,0⟩:Zbe)]).length:Int)+((p2.idle.eraseIdx 0).length:Nat)≤p2.total;rw[X];rw[ay.out];have:=bB.out;have:=bY.out;omega),E.ok.hosts,E.ok.uses,E.ok.last,E.ok.keep⟩
      have bu:ZhK p2.idle key=none:=Zij (fun j y hy=>HM.out j y (by omega) hy)
      have bv:ZfV p2 key=({p2 with idle:=p2.idle.eraseIdx 0,last:=p2.last+1,busy:=p2.busy++[⟨p2.last+1,key,0⟩]},p2.last+1,true,0):=by
       unfold ZfV;rw[bu];dsimp only;rw[if_pos (by have:=bE.out;push_cast;exact this),Ya]
      have aZ:=(show YE b _ _ _ from⟨_,_,_,_,_,_,rfl,bc⟩)
      have ac:∀k∈b::(o++C++K),w.heap.size≤k∨k∈F:=fun k a=>(L.out k a).symm
      rw[ar.out,bv]
      refine⟨rfl,b::(G'++[g]++K),aZ,?_,fun k a=> ?_⟩
      ·exact((((aX.trans HU (by simp)).trans bo (by simp)).trans aj (fun y hy=>ac y (by simp at hy⊢;rcases hy with h|h<;>simp[h]))).trans HUac (fun y hy=>ac y (by simp at hy;simp[hy]))).trans hu9z (fun y hy=>ac y (by simp at hy⊢;rcases hy with h|h<;>simp[h]))
      ·have cM:=((((aX.trans HU (by simp)).trans bo (by simp)).trans aj (fun y hy=>ac y (by simp at hy⊢;rcases hy with h|h<;>simp[h]))).trans HUac (fun y hy=>ac y (by simp at hy;simp[hy]))).size
       simp only[List.mem_cons,List.mem_append]at a
       rcases a with a|(a|a)|a
       ·exact L k (by simp[a])
       ·rcases H k a with m|m
        ·exact L k (by simp[m])
        ·right;omega
       ·exact L k (by rw[Y.out];simp at a;simp[a])
       ·exact L k (by simp[a])
     ·have cV:decide (p2.total≤(p2.busy.length:Int)+p2.idle.length)=false:=decide_eq_false aY
      have bE:=D aY
      clear aY
      go_wp2_with fail
      go_quiet (fail)
      generalize hwq:wr.drewN _=wq
      have J:=D (hwq▸(aO.upd ((Zg.refl [] wr).drewN _) (by simp)):Zah wq b p2 _ _ hb o C K)
      have aN:=D (show wq.heap[w.heap.size]? =some (.cells #[.pointer (some ⟨b,0,none⟩)] 60 (0,0))by rw[←hwq];exact bA)
      have bo:=D (show Zg [] wr wq by rw[←hwq];exact(Zg.refl [] wr).drewN _)
      clear hwq bW cu bR cG s1
      go_upto_region 20 with fail
      have bd:=J.ok.last
      have bf:p2.last≤1000000000000:=by have:=b1.out;have:=cd.out;omega
      have bO:wq.cell? ⟨w.heap.size,0,none⟩=some (.pointer (some ⟨b,0,none⟩)):=Zc aN rfl
      have bb:=Jc 5 J.blk
      have bg:=ZaM ⟨b,5,none⟩ p2.last 1 wq bb (Zk J.blk) bd bf (by omega) (by omega)
      have bH:=D bg
      obtain⟨l,aw⟩:=Je (wq.setCell ⟨b,5,none⟩ (.int .i64 (p2.last+1)))
      have af:=J.setLast (p2.last+1) (by have:=J.ok.last;first|omega|(dsimp only at this;omega))
      rw[←aw]at af
      have aU:Zg [b] wq l:=by rw[aw];exact(Zg.refl _ _).setCell (.inr (by simp)) _
      have aT:=(aU.block _ (Jg aN) (fun d=>by simp at d;exact ag b (by simp) d.symm)).trans aN.out
      have bp:=D (Za (w:=l) (.cells #[.int .i64 0, .string ⟨#[]⟩, .int .u64 0] 243 (0,0)))
      obtain⟨s,av⟩:=Je ((l.alloc (.cells #[.int .i64 0, .string ⟨#[]⟩, .int .u64 0] 243 (0,0))).setRow l.heap.size (ZO ⟨p2.last+1,key,0⟩).toArray)
      have bl:s.heap[l.heap.size]? =some (.cells (ZO ⟨p2.last+1,key,0⟩).toArray 243 (0,0)):=by rw[av];exact setRow_heap _ _ _ _ _ _ bp.out
      have au:Zg [] l s:=by rw[av];exact((Zg.refl [] l).alloc _).setRow (.inl (Xi _)) _
      have E:=D (af.upd au (by simp))
      have aa:=D ((au.block _ (Jg aT) (by simp)).trans aT)
      have aK:=D (show Zb s l.heap.size 0 (ZO ⟨p2.last+1,key,0⟩)from Zb.of_block bl)
      have bJ:=D (show l.heap.size∉o from fun d=>by have:=af.lt l.heap.size (by simp[d]);omega)
      have bN:=D (show b<l.heap.size from af.lt b (by simp))
      have bm:=D (show w.heap.size∉o from fun d=>ag.out _ (show w.heap.size∈b::(o++C++K)by simp[d]) rfl)
      have aR:=D E.blk;have b2:=D E.busy;have aD:=D E.nb
      have HUac:=D (show Zg [b] wq s from aU.trans_of' au)
      have bV:=D (show(ZO ⟨p2.last+1,key,0⟩).toArray.all (·.oneCell')=true by rw[Xl,Xk];exact Zae _)
      clear bd bf bg af aU aT bl au;change Hid _ at aw av
      go_wp2_with fail
      refine bH.out.mono ?_
      rintro e wt ⟨rfl,aQ⟩
      rw[←aw.out]at aQ
      rw[aQ];clear aQ wt bb bO
      go_upto_region 21 with(refine Jo (ZO ⟨p2.last+1,key,0⟩).toArray bp ax bV ?_;rw[←av.out])
      have bP:s.cell? ⟨w.heap.size,0,none⟩=some (.pointer (some ⟨b,0,none⟩)):=Zc aa rfl
      go_upto_region 21 with fail
      have aE:=Jc 0 aR.out
      refine Jr [0,4,8,12,16,20,25,29,32,36,42] (fun W=>W.cell? ⟨b,0,none⟩=some (.slice Ab p2.busy.length cb)∧Zb W l.heap.size 0 (ZO ⟨p2.last+1,key,0⟩)∧W.cell? ⟨w.heap.size,0,none⟩=some (.pointer (some ⟨b,0,none⟩))) ⟨aE,aK.out,bP⟩ ?_
      repeat first|refine Jn ?_|refine Jf ?_|refine Ju ?_
      apply Zq (t:= 243) (b:=l.heap.size) (of:=0) (cs:=[.int .i64 (p2.last+1), .string ⟨key.toArray⟩, .int .u64 0])
      case ho=>simp only[Xh,Xf,Xg];rfl
      case hg=>rfl
      case hop=>rfl
      case hx=>rfl
      case ht=>exact ax.out
      case hb=>exact fun W M=>M.2.1
      case ha=>go_simp;rfl
      refine JE ?_
      go_wp2_with fail
      obtain⟨R,P⟩:=Je ((s.alloc (.cells #[.int .i64 (p2.last+1), .string ⟨key.toArray⟩, .int .u64 0] 243)).drew)
      rw[←P]
      have r:Zg [] s R:=by rw[P];exact((Zg.refl [] _).alloc _).drew
      have ae:=(r.block b (Jg aR) (by simp)).trans aR.out
      have aB:Zb R s.heap.size 0 (ZO ⟨p2.last+1,key,0⟩):=by rw[P];exact Zb.of_block (w:=s.alloc _) (Za _)
      have aC:=(Zd _ _ _ _).upd b2 r (by simp)
      have az:=D ae;have ba:=D aC;have be:=D aB
      have a9:=D (show R.cell? ⟨b,0,none⟩=some (.slice Ab p2.busy.length cb)from Zc (i:=0) ae rfl)
      clear ae aC P aB aE;change Hid _ at r
      refine⟨fun W=>W.cell? ⟨b,0,none⟩=some (.slice Ab p2.busy.length cb)∧Zb W l.heap.size 0 (ZO ⟨p2.last+1,key,0⟩)∧W.cell? ⟨w.heap.size,0,none⟩=some (.pointer (some ⟨b,0,none⟩)),fun W M=>M,⟨a9,aK.upd r (by simp),Zc ((r.block _ (Jg aa) (by simp)).trans aa) rfl⟩,?_⟩
      refine JE ?_
      refine Zn R rfl (.tmp 116) (.tmp 118) 120 rfl 243 Tryz.underlying120 Zeb rfl (by omega) (by omega) _ (p2.busy.map ZO) o rfl ba s.heap.size 1 (ZO ⟨p2.last+1,key,0⟩) rfl be rfl (Zae _) (by rw[Xb];omega) ?_
      intro v' w9 G' ai V H
      obtain⟨A',c',X,_⟩:=ai.form'
      rw[Xd,Xb,List.length_singleton]at X
      subst X
      have Q:=(V.block b (Jg az) aD).trans az.out
      have c9:=Jc 0 Q
      have f9:w9.frozen? ⟨b,0,none⟩=false:=Zk Q
      have bk:=D Q;have bn:=D ai;have aF:=D V;have bq:=D H
      have aA:=D ((aK.upd r (by simp)).upd V bJ)
      clear Q ai V H
      go_wp2_with fail
      refine⟨fun W=>W.cell? ⟨b,0,none⟩=some (.slice Ab p2.busy.length cb)∧Zb W l.heap.size 0 (ZO ⟨p2.last+1,key,0⟩)∧W.cell? ⟨w.heap.size,0,none⟩=some (.pointer (some ⟨b,0,none⟩)),fun W M=>M,⟨c9,aA.out,Zc ((aF.block _ (Nat.lt_of_lt_of_le (Jg aa) r.size) bm).trans ((r.block _ (Jg aa) (by simp)).trans aa)) rfl⟩,?_⟩
      repeat first|refine Jn ?_|refine Jf ?_|refine Ju ?_
      refine JL ?_
      go_wp2_with fail
      refine Jz ?_
      obtain⟨wz,T⟩:=Je (w9.setCell ⟨b,0,none⟩ (.slice A' (p2.busy.length+1) c'))
      have S:Zg [b] w9 wz:=by rw[T];exact(Zg.refl _ _).setCell (.inr (by simp)) _
      have aG:b≠l.heap.size:=fun e=>by have:=bN.out;omega
      have cj:wz.cell? ⟨l.heap.size,0,none⟩=some (.int .i64 (p2.last+1)):=(aA.upd S (by simpa using Ne.symm aG)) 0 _ rfl
      clear aG;change Hid _ at T S
      go_upto_region 22 with fail
      rw[←T.out]
      go_wp2_with fail
      go_ret3
      have H:∀y∈G',y∈o∨s.heap.size≤y:=fun y hy=>by
       rcases bq y hy with m|m
       ·exact .inl m
       ·right;have:=r.size;omega
      have a8:b∉G':=fun d=>by
       rcases H b d with m|m
       ·exact aD m
       ·have:=E.lt b (by simp);omega
      have hu9z:Zg (b::o) s wz:=(((r.weaken (G:=b::o) (by simp)).trans aF (fun y hy=> .inr (by simp[hy]))).trans S (fun y hy=> .inr (by simp at hy;simp[hy])))
      have bc:=E.setBusy (l':=p2.busy++[⟨p2.last+1,key,0⟩]) hu9z (by rw[T.out,Ze bk.out];rfl) (by
        rw[Xs]
        exact(Zd _ _ _ _).upd bn S (fun y hy d=>by rw[Jm d]at hy;exact a8 hy)) H
       ⟨E.ok.tot,(by have X:(p2.busy++[(⟨p2.last+1,key,0⟩:Zbe)]).length=p2.busy.length+1:=(by simp);show((p2.busy++[(⟨p2.last+1,key,0⟩:Zbe)]).length:Int)+((p2.idle).length:Nat)≤p2.total;rw[X];have:=bE.out;omega),E.ok.hosts,E.ok.uses,E.ok.last,E.ok.keep⟩
      have bu:ZhK p2.idle key=none:=Zij (fun j y hy=>HM.out j y (by omega) hy)
      have bv:ZfV p2 key=({p2 with last:=p2.last+1,busy:=p2.busy++[⟨p2.last+1,key,0⟩]},p2.last+1,true,0):=by
       unfold ZfV;rw[bu];dsimp only;rw[if_neg (by have:=bE.out;push_cast;omega)]
      have aZ:=(show YE b _ _ _ from⟨_,_,_,_,_,_,rfl,bc⟩)
      have ac:∀k∈b::(o++C++K),w.heap.size≤k∨k∈F:=fun k a=>(L.out k a).symm
      rw[ar.out,bv]
      refine⟨rfl,b::(G'++C++K),aZ,?_,fun k a=> ?_⟩
      ·exact((((aX.trans HU (by simp)).trans bo (by simp))).trans HUac (fun y hy=>ac y (by simp at hy;simp[hy]))).trans hu9z (fun y hy=>ac y (by simp at hy⊢;rcases hy with h|h<;>simp[h]))
      ·have cM:=((((aX.trans HU (by simp)).trans bo (by simp))).trans HUac (fun y hy=>ac y (by simp at hy;simp[hy]))).size
       simp only[List.mem_cons,List.mem_append]at a
       rcases a with a|(a|a)|a
       ·exact L k (by simp[a])
       ·rcases H k a with m|m
        ·exact L k (by simp[m])
        ·right;omega
       ·exact L k (by simp[a])
       ·exact L k (by simp[a])
  ·have O:=ch.out
   rw[aS]at O
   dsimp only[Option.getD]at O
   have ar:ZbE p key now=(p1,0,false,10):=by rw[aH.out];exact Zl2 aW.symm (aH.out▸aS)
   have HQ:=D O
   clear O aS;change Hid _ at ar
   refine HQ.out.mono ?_
   rintro e w4 ⟨gone,rfl,K,bi,Z⟩
   have ah:=H3.setHosts (l':=p1.hosts) Z.upd bi Z.new H3.ok
   have cO:=D (show YE b p1 w4 (b::(o++C++K))from⟨_,_,_,_,_,_,rfl,ah⟩)
   have b6:=D (bt.trans Z.upd (fun k a=> .inr (by rw[HF.out];simp[a])))
   have L:=D Z.new
   clear bi Z ah cz cy
   go_wp2_with fail
   go_ret3
   rw[ar.out]
   refine⟨rfl,_,cO.out,b6.out,fun k a=> ?_⟩
   simp only[List.mem_cons,List.mem_append]at a
   rcases a with a|(a|a)|a
   ·exact .inl (by rw[HF.out];simp[a])
   ·exact .inl (by rw[HF.out];simp[a])
   ·exact .inl (by rw[HF.out];simp[a])
   ·rcases L k a with m|m
    ·exact .inl (by rw[HF.out];simp[m])
    ·right;have:=bt.size;omega
theorem Zm9 {l:List Zr} (h:0<l.length):Zdf l<l.length:=by
 obtain⟨n,a⟩:∃n,l.length=n+1:=⟨l.length-1,by omega⟩
 have:Zdf l=Zia l l.length:=rfl
 rw[this,a,ZgG]
 have:=Znl l n
 split
 ·split<;>omega
 ·omega
theorem Zhg {P:Prop}(h:P:=by
 clear hb
 go_enter Tryz.func162,Tryz.ntmps162
 go_upto_region 1 with fail
 rw[aS.out]
 go_wp2_with fail
 go_ret
 exact⟨_,rfl,aN.out I⟩):P:=h
theorem Zpg {most:Int} (h:Yk b most l w F) (hl:l.length≤1000000) (hmost:1≤most) (e:Zr) (now:Nat):
  Calls Tryz.prog 162 #[.pointer (some ⟨b,0,none⟩), .agg (Zo e).toArray, .int .u64 now] w (Zfw fun w'=>∃F',Yk b most (ZcG l most e now) w' F'∧Zi w w' F F'):=by
 obtain⟨w1,az⟩:=Je (w.alloc (.cells (Zo e).toArray 272))
 have aA:=Ja az
 have Z:=Jh az
 have r:=(ZK _ _ _).upd h aA (by simp)
 have k3:w1.cell? ⟨w.heap.size,3,none⟩=some (.string ⟨e.method.toArray⟩):=Zc Z rfl
 have k4:w1.cell? ⟨w.heap.size,4,none⟩=some (.string ⟨e.header.toArray⟩):=Zc Z rfl
 have k5:w1.cell? ⟨w.heap.size,5,none⟩=some (.int .u64 e.until_):=Zc Z rfl
 have a8:=D ((ZK _ _ _).lt h)
 have H1:=D r
 have bg:=D (show Zu Tryz.prog 272 6=true by kernel_rfl)
 have be:=D (Zlm r hl now)
 have bp:=D (show b<w.heap.size from by have hh:=h;obtain⟨_,_,rfl,_⟩:=hh;exact(ZK _ _ _).lt h b (by simp))
 clear h r;change Hid _ at Z az aA
 have e1:w.alloc (.cells #[.string ⟨e.cell.origin.toArray⟩, .string ⟨e.cell.url.toArray⟩, .bool e.cell.creds, .string ⟨e.method.toArray⟩, .string ⟨e.header.toArray⟩, .int .u64 (e.until_:Int)] 272)=w1:=az.symm
 have aS:=D e1
 clear e1
 have aN:=D (fun(hp:ZcG l most e now=l)=>show∃F',Yk b most (ZcG l most e now) w1 F'∧Zi w w1 F F' by rw[hp];exact⟨F,H1.out,aA.weaken (by simp),fun k d=> .inl d⟩)
 show Calls _ _ #[.pointer (some ⟨b,0,none⟩), .agg #[.string ⟨e.cell.origin.toArray⟩, .string ⟨e.cell.url.toArray⟩, .bool e.cell.creds, .string ⟨e.method.toArray⟩, .string ⟨e.header.toArray⟩, .int .u64 (e.until_:Int)], .int .u64 now] w _
 by_cases hb:(e.method==[])==(e.header==[])
 ·have I:=D (show ZcG l most e now=l by unfold ZcG;rw[if_pos (.inl hb)])
  have a1:List.isEmpty e.method=List.isEmpty e.header:=by revert hb;cases e.method<;>cases e.header<;>simp
  have bn:(List.isEmpty e.method==List.isEmpty e.header)=true:=by rw[a1];simp
  exact Zhg
 ·have a1:¬List.isEmpty e.method=List.isEmpty e.header:=by revert hb;cases e.method<;>cases e.header<;>simp
  have bn:(List.isEmpty e.method==List.isEmpty e.header)=false:=by simpa using a1
  by_cases bd:e.until_≤now
  ·have I:=D (show ZcG l most e now=l by unfold ZcG;rw[if_pos (.inr bd)])
   have bl:decide ((e.until_:Int)≤(now:Int))=true:=decide_eq_true (by omega)
   exact Zhg
  ·obtain⟨a,ax⟩:=Je (Zig l now)
   have bk:a.length≤1000000:=by
    have:a.length≤l.length:=by rw[ax];exact Xq _ _
    omega
   have aR:ZcG l most e now=match a.findIdx? (fun x=>Zej x e)with
    |some i=>match a[i]? with
     |some x=>a.set i {x with until_:=e.until_}
     |none=>a
    |none=>(if most≤(a.length:Int)then Zaa a (Zdf a)else a)++[e]:=by
    unfold ZcG;rw[if_neg (by simp only[not_or];exact⟨hb,bd⟩),ax];rfl
   have aL:=be.out
   rw[←ax]at aL
   have br:=D aL
   have bl:decide ((e.until_:Int)≤(now:Int))=false:=decide_eq_false (by omega)
   clear hb be aL ax aN;change Hid _ at aR
   go_enter Tryz.func162,Tryz.ntmps162
   go_upto_region 1 with fail
   rw[aS.out]
   go_wp2_with fail
   refine br.out.mono ?_
   rintro e2 w2 ⟨n,rfl,R,aq⟩
   have Y:=(aq.block _ (Jg Z) (fun o=>by have:=a8.out _ o;omega)).trans Z.out
   have m5:w2.cell? ⟨w.heap.size,5,none⟩=some (.int .u64 e.until_):=Zc Y rfl
   have aV:=D (show Zi w w2 F F from⟨(aA.weaken (by simp)).trans aq (fun k d=> .inr d),fun k d=> .inl d⟩)
   have aZ:w.heap.size∉F:=fun o=>by have:=a8.out _ o;omega
   have aP:=D aZ
   obtain⟨v,G,hF,aO,hb,hr⟩:=R
   obtain⟨A,c,rfl,hc,ao⟩:=hr.lies
   rw[Xb]at hb hc hr
   have c0:=Jc 0 hb
   have c1:=Jc 1 hb
   have X:=Zim Zo (fun x=>Zej x e) 241 #[.pointer (some ⟨w.heap.size,0,none⟩)] hr (enters_of Tryz.func241 (by kernel_rfl) rfl) (fun W x _ hu=>Zmp x e w.heap.size W (Zb.of_block ((hu.block _ (Jg Y) (by simp)).trans Y)))
   have a9:=D hr;have aw:=D hb;have S:=D hF;have ac:=D aO;have au:=D Y;have bt:=D ao
   have bz:=D (fun(hq:∀(F':List Nat) (W:World),Yk b most (ZcG l most e now) W F'→Zi w2 W F F'→∃F',Yk b most (ZcG l most e now) W F'∧Zi w W F F')=>hq)
   cases hq:a.findIdx? (fun x=>Zej x e)with
   |some i=>
    rw[Yw hq]at X
    have hi:=Yv hq
    obtain⟨x,hx⟩:∃x,a[i]? =some x:=⟨_,Xa hi⟩
    have I:=D (show ZcG l most e now=a.set i {x with until_:=e.until_}by rw[aR.out,hq];dsimp only;rw[hx])
    have HC:=D X
    have HM:=D (show(a.map Zo)[i]? =some (Zo x)by rw[Xe,hx];rfl)
    obtain⟨ab,hA,bf⟩:=ao i (Zo x) HM.out
    subst hA
    have bx:=D bf
    clear hq hx X ao bf hr hb hF aO Y aq aZ k3 k4 k5
    go_wp2_with fail
    refine HC.out.mono ?_
    rintro e3 s ⟨rfl,q⟩
    have L:=(q.block b (Jg aw) (by simp)).trans aw.out
    have an:=(q.block _ (Jg au) (by simp)).trans au.out
    have d0:=Jc 0 L
    have d5:s.cell? ⟨w.heap.size,5,none⟩=some (.int .u64 e.until_):=Zc an rfl
    have M:=(Zd _ _ _ _).upd a9 q (by simp)
    have K:=D L;have aK:=D M;have aB:=D q
    have HG:G=[ab]:=by obtain⟨_,_,R,_⟩:=M.block;exact R
    have hn:=Zc0 (j:=5) M HM (by omega) (.int .u64 e.until_)
    have HN:=D hn
    have f5:=hn.2
    have g5:s.cell? ⟨ab,i*6+5,none⟩=some (.int .u64 x.until_):=(M.liesAt HM) 5 _ rfl
    clear L an M q hn c0 c1 m5;change Hid _ at HG
    go_upto_region 6 with fail
    refine Jr [0,4,8,12,16,20,24,28,32,38] (fun W=>W.cell? ⟨b,0,none⟩=some (.slice (some ⟨ab,0,none⟩) a.length c)∧W.cell? ⟨w.heap.size,5,none⟩=some (.int .u64 e.until_)) ⟨d0,d5⟩ ?_
    repeat first|refine Jn ?_|refine Jf ?_|refine Ju ?_
    refine JL ?_
    go_wp2_with fail
    refine Jz ?_
    go_wp2_with fail
    go_ret
    refine⟨_,rfl,?_⟩
    rw[I.out]
    obtain⟨g1,g2⟩:=ZbX (G:=G) (cs:=fun v=> #[v, .int .i64 most]) (T:= 128) ac (Jg K) (w1:=_) (by exact(((Zg.refl [ab] s).setCell (.inr (by simp)) _).block b (Jg K) (fun o=>ac.out (by rw[HG.out];exact o))).trans K) HN.out.1 ((Zg.refl (b::G) s).setCell (.inr (by rw[HG.out];simp)) _) (fun x hx=> .inl hx)
    refine⟨_,?_,Zi.trans (aV.trans ⟨aB.weaken (by simp),fun k d=> .inl d⟩) (by rw[S.out];exact⟨g2.1.drew,g2.2⟩)⟩
    unfold Yk
    rw[List.map_set]
    exact g1
   |none=>
    rw[Yo hq]at X
    have bh:=D (show ZcG l most e now=(if most≤(a.length:Int)then Zaa a (Zdf a)else a)++[e]by rw[aR.out,hq])
    have HC:=D X
    clear hq X ao hr hb hF aO Y aq aZ k3 k4 k5
    go_wp2_with fail
    refine HC.out.mono ?_
    rintro e3 s ⟨rfl,q⟩
    have L:=(q.block b (Jg aw) (by simp)).trans aw.out
    have an:=(q.block _ (Jg au) (by simp)).trans au.out
    have d0:=Jc 0 L
    have d1:=Jc 1 L
    have M:=(Zd _ _ _ _).upd a9 q (by simp)
    have K:=D L;have aK:=D M;have aB:=D q;have ap:=D an
    clear L an M q c0 c1 m5
    by_cases V:most≤(a.length:Int)
    ·have hz:decide (most≤(a.length:Int))=true:=decide_eq_true V
     have bc:0<a.length:=by omega
     have aa:=Zm9 bc
     obtain⟨k,d⟩:=Je (Zdf a)
     have I:=D (show ZcG l most e now=a.eraseIdx k++[e]by rw[bh.out,if_pos V,Ya,d])
     rw[←d]at aa
     have HK:=D d
     clear d V bc
     go_upto_region 8 with fail
     go_quiet (fail)
     generalize hwq:s.drewN _=wq
     have am:Zg [] s wq:=by rw[←hwq];exact(Zg.refl [] s).drewN _
     have aQ:=(am.block b (Jg K) (by simp)).trans K.out
     have a0:=(Zd _ _ _ _).upd aK am (by simp)
     have he:=Zj6 (b:=b) (most:=most) (w:=wq) (F:=b::G) (l:=a) ⟨_,G,rfl,ac.out,aQ,a0⟩ bk
     rw[←HK.out]at he
     have HE:=D he
     have a4:=D ((am.block _ (Jg ap) (by simp)).trans ap)
     have a7:=D aQ;have bo:=D a0
     clear hwq aQ a0 he d0 d1;change Hid _ at am
     go_wp2_with fail
     refine HE.out.mono ?_
     rintro e5 w5 ⟨rfl,ah⟩
     have aT:=(ah.block b (Jg a7) (by simp)).trans a7.out
     have ag:=(Zd _ _ _ _).upd bo ah (by simp)
     have bj:=D ((ah.block _ (Jg a4) (by simp)).trans a4)
     obtain⟨g,rfl⟩:∃g,A=some ⟨g,0,none⟩:=by
      rcases ag.form with⟨_,h0,_⟩|⟨g,bw,_,r,_⟩
      ·rw[List.map_eq_nil_iff]at h0;subst h0;simp at aa
      ·injection r with r;exact⟨g,r⟩
     have hG:G=[g]:=by obtain⟨_,_,R,_⟩:=ag.block;exact R
     have f0:=Jc 0 aT
     subst hG
     have hd:=Zn5 (by rw[Xb];exact ag) (Zdn ZbA a) (i:=k) (by rw[Xb];exact aa)
     rw[Xb]at hd
     have HD:=D hd;have bi:=D aT;have bu:=D ag;have bs:=D (aB.trans (am.trans ah (by simp)) (by simp))
     clear aT ag hd ah
     have bv:=D aa
     go_wp2_with fail
     refine HD.out.mono ?_
     rintro e6 w6 ⟨rfl,aJ,av⟩
     rw[Y0]at aJ
     have a2:b≠g:=fun e=>ac.out (by rw[e];simp)
     have a5:w.heap.size≠g:=fun e=>aP.out (by rw[S.out,e];simp)
     have ba:w.heap.size≠b:=by have:=bp.out;omega
     have ay:=(av.block b (Jg bi) (by simpa using a2)).trans bi.out
     have aW:=(av.block _ (Jg bj) (by simpa using a5)).trans bj.out
     have c6:=Jc 0 ay
     have f6:w6.frozen? ⟨b,0,none⟩=false:=Zk ay
     obtain⟨J,aC⟩:=Je (w6.setCell ⟨b,0,none⟩ (.slice (some ⟨g,0,none⟩) (a.length-1) c))
     have ar:Zg [b] w6 J:=by rw[aC];exact(Zg.refl _ _).setCell (.inr (by simp)) _
     have bb:=(ar.block _ (Jg aW) (by simpa using ba)).trans aW
     have a6:=(Zd _ _ _ _).upd aJ ar (fun k d o=>by simp at d o;exact a2 (by omega))
     have p:J.heap[b]? =some (.cells #[.slice (some ⟨g,0,none⟩) (a.length-1) c, .int .i64 most] 128 (0,0)):=by rw[aC];exact Ze (i:=0) ay _
     have a3:Zg (b::[g]) w2 J:=((bs.weaken (G:=b::[g]) (by simp)).trans av (fun k d=> .inr (by simp at d;simp[d]))).trans ar (fun k d=> .inr (by simp at d;simp[d]))
     have bm:(a.eraseIdx k).length=a.length-1:=List.length_eraseIdx_of_lt aa
     have aX:=D a6;have N:=ac
     have P:=D (show Zb J w.heap.size 0 (Zo e)from Zb.of_block bb)
     have aH:=D (show(a.eraseIdx k).length≤500000000000 by omega)
     have aG:=D (show w.heap.size∉[g]from fun o=>aP.out (by rw[S.out];simp at o;simp[o]))
     clear aJ av a2 a5 ba ay aW ar bb a6 bm aa;change Hid _ at p aC a3
     go_upto_region 11 with fail
     rw[←aC.out]
     clear c6 f6
     go_upto_region 11 with fail
     have aj:=Jc 0 p.out
     refine Jr [0,4,8,12,16,20,25,29,32,36,42] (fun W=>W.cell? ⟨b,0,none⟩=some (.slice (some ⟨g,0,none⟩) (a.length-1) c)∧Zb W w.heap.size 0 (Zo e)) ⟨aj,P.out⟩ ?_
     repeat first|refine Jn ?_|refine Jf ?_|refine Ju ?_
     apply Zq (t:= 272) (b:=w.heap.size) (of:=0) (cs:=[.string ⟨e.cell.origin.toArray⟩, .string ⟨e.cell.url.toArray⟩, .bool e.cell.creds, .string ⟨e.method.toArray⟩, .string ⟨e.header.toArray⟩, .int .u64 (e.until_:Int)])
     case ho=>simp only[Xh,Xf,Xg];rfl
     case hg=>rfl
     case hop=>rfl
     case hx=>rfl
     case ht=>exact bg.out
     case hb=>exact fun W y=>y.2
     case ha=>go_simp;rfl
     refine JE ?_
     go_wp2_with fail
     obtain⟨E,z⟩:=Je ((J.alloc (.cells #[.string ⟨e.cell.origin.toArray⟩, .string ⟨e.cell.url.toArray⟩, .bool e.cell.creds, .string ⟨e.method.toArray⟩, .string ⟨e.header.toArray⟩, .int .u64 (e.until_:Int)] 272)).drew)
     rw[←z]
     have m:Zg [] J E:=by rw[z];exact((Zg.refl [] _).alloc _).drew
     have O:=(m.block b (Jg p) (by simp)).trans p.out
     have ae:Zb E J.heap.size 0 (Zo e):=by rw[z];exact Zb.of_block (w:=J.alloc _) (Za _)
     have af:=(Zd _ _ _ _).upd aX m (by simp)
     have ad:=D O;have aE:=D af;have aI:=D ae
     have aD:=D (show E.cell? ⟨b,0,none⟩=some (.slice (some ⟨g,0,none⟩) (a.length-1) c)from Zc (i:=0) O rfl)
     clear O af z ae aj;change Hid _ at m
     refine⟨fun W=>W.cell? ⟨b,0,none⟩=some (.slice (some ⟨g,0,none⟩) (a.length-1) c)∧Zb W w.heap.size 0 (Zo e),fun W y=>y,⟨aD,P.upd m (by simp)⟩,?_⟩
     refine JE ?_
     refine Zn E rfl (.tmp 73) (.tmp 75) 126 rfl 272 Tryz.underlying126 Zeq rfl (by omega) (by omega) _ ((a.eraseIdx k).map Zo) [g] rfl aE J.heap.size 1 (Zo e) rfl aI rfl (ZbA _) (by rw[Xb];exact aH) ?_
     intro v' w9 G' Q H al
     obtain⟨A',c',e9,_⟩:=Q.form'
     rw[Xd,Xb,List.length_singleton]at e9
     subst e9
     have C:=(H.block b (Jg ad) N).trans ad.out
     have c9:=Jc 0 C
     have f9:w9.frozen? ⟨b,0,none⟩=false:=Zk C
     have aM:=D C;have aU:=D Q;have aY:=D H;have ak:=D al
     have aF:=D ((P.upd m (by simp)).upd H aG)
     clear C Q H al
     go_wp2_with fail
     refine⟨fun W=>W.cell? ⟨b,0,none⟩=some (.slice (some ⟨g,0,none⟩) (a.length-1) c)∧Zb W w.heap.size 0 (Zo e),fun W y=>y,⟨c9,aF.out⟩,?_⟩
     repeat first|refine Jn ?_|refine Jf ?_|refine Ju ?_
     refine JL ?_
     go_wp2_with fail
     refine Jz ?_
     go_wp2_with fail
     go_ret
     refine⟨_,rfl,?_⟩
     rw[I.out]
     obtain⟨g1,g2⟩:=ZbX (G:=[g]) (cs:=fun v=> #[v, .int .i64 most]) (T:= 128) N (Jg p) (Ze (i:=0) aM _) ((Zd _ _ _ _).upd aU ((Zg.refl [b] w9).setCell (.inr (by simp)) _) (fun x hx o=>by
       rw[Jm o]at hx
       rcases ak b hx with h|h
       ·exact N h
       ·have r:=m.size;have R:=(Jg p);omega))
      (((m.weaken (G:=b::[g]) (by simp)).trans aY (fun x hx=> .inr (by simp[hx]))).setCell (.inr (by simp)) _) (fun x hx=>by
       rcases ak x hx with h|h
       ·exact .inl h
       ·right;have r:=m.size;omega)
     refine⟨_,?_,Zi.trans (aV.trans ⟨a3.weaken (fun k d=> .inr (by rw[S.out];exact d)),fun k d=> .inl d⟩) (by rw[S.out];exact g2)⟩
     unfold Yk
     rw[Xs]
     exact g1
    ·have hz:decide (most≤(a.length:Int))=false:=decide_eq_false V
     have I:=D (show ZcG l most e now=a++[e]by rw[bh.out,if_neg V])
     clear V
     go_upto_region 8 with fail
     go_quiet (fail)
     generalize hwq:s.drewN _=wq
     have ai:Zg [] s wq:=by rw[←hwq];exact(Zg.refl [] s).drewN _
     have p:=D (show wq.heap[b]? =some (.cells #[.slice A a.length c, .int .i64 most] 128 (0,0))from(ai.block b (Jg K) (by simp)).trans K)
     have aX:=D ((Zd _ _ _ _).upd aK ai (by simp))
     have P:=D (show Zb wq w.heap.size 0 (Zo e)from Zb.of_block ((ai.block _ (Jg ap) (by simp)).trans ap))
     have N:=ac
     have aH:=D (show a.length≤500000000000 by omega)
     have aG:=D (show w.heap.size∉G from fun o=>aP.out (by rw[S.out];simp[o]))
     have bq:=D (ai)
     clear hwq ai d0 d1
     go_upto_region 11 with fail
     have aj:=Jc 0 p.out
     refine Jr [0,4,8,12,16,20,25,29,32,36,42] (fun W=>W.cell? ⟨b,0,none⟩=some (.slice A a.length c)∧Zb W w.heap.size 0 (Zo e)) ⟨aj,P.out⟩ ?_
     repeat first|refine Jn ?_|refine Jf ?_|refine Ju ?_
     apply Zq (t:= 272) (b:=w.heap.size) (of:=0) (cs:=[.string ⟨e.cell.origin.toArray⟩, .string ⟨e.cell.url.toArray⟩, .bool e.cell.creds, .string ⟨e.method.toArray⟩, .string ⟨e.header.toArray⟩, .int .u64 (e.until_:Int)])
     case ho=>simp only[Xh,Xf,Xg];rfl
     case hg=>rfl
     case hop=>rfl
     case hx=>rfl
     case ht=>exact bg.out
     case hb=>exact fun W y=>y.2
     case ha=>go_simp;rfl
     refine JE ?_
     go_wp2_with fail
     obtain⟨E,z⟩:=Je ((wq.alloc (.cells #[.string ⟨e.cell.origin.toArray⟩, .string ⟨e.cell.url.toArray⟩, .bool e.cell.creds, .string ⟨e.method.toArray⟩, .string ⟨e.header.toArray⟩, .int .u64 (e.until_:Int)] 272)).drew)
     rw[←z]
     have m:Zg [] wq E:=by rw[z];exact((Zg.refl [] _).alloc _).drew
     have O:=(m.block b (Jg p) (by simp)).trans p.out
     have ae:Zb E wq.heap.size 0 (Zo e):=by rw[z];exact Zb.of_block (w:=wq.alloc _) (Za _)
     have af:=(Zd _ _ _ _).upd aX m (by simp)
     have ad:=D O;have aE:=D af;have aI:=D ae
     have aD:=D (show E.cell? ⟨b,0,none⟩=some (.slice A a.length c)from Zc (i:=0) O rfl)
     clear O af z ae aj;change Hid _ at m
     refine⟨fun W=>W.cell? ⟨b,0,none⟩=some (.slice A a.length c)∧Zb W w.heap.size 0 (Zo e),fun W y=>y,⟨aD,P.upd m (by simp)⟩,?_⟩
     refine JE ?_
     refine Zn E rfl (.tmp 73) (.tmp 75) 126 rfl 272 Tryz.underlying126 Zeq rfl (by omega) (by omega) _ ((a).map Zo) G rfl aE wq.heap.size 1 (Zo e) rfl aI rfl (ZbA _) (by rw[Xb];exact aH) ?_
     intro v' w9 G' Q H al
     obtain⟨A',c',e9,_⟩:=Q.form'
     rw[Xd,Xb,List.length_singleton]at e9
     subst e9
     have C:=(H.block b (Jg ad) N).trans ad.out
     have c9:=Jc 0 C
     have f9:w9.frozen? ⟨b,0,none⟩=false:=Zk C
     have aM:=D C;have aU:=D Q;have aY:=D H;have ak:=D al
     have aF:=D ((P.upd m (by simp)).upd H aG)
     clear C Q H al
     go_wp2_with fail
     refine⟨fun W=>W.cell? ⟨b,0,none⟩=some (.slice A a.length c)∧Zb W w.heap.size 0 (Zo e),fun W y=>y,⟨c9,aF.out⟩,?_⟩
     repeat first|refine Jn ?_|refine Jf ?_|refine Ju ?_
     refine JL ?_
     go_wp2_with fail
     refine Jz ?_
     go_wp2_with fail
     go_ret
     refine⟨_,rfl,?_⟩
     rw[I.out]
     obtain⟨g1,g2⟩:=ZbX (G:=G) (cs:=fun v=> #[v, .int .i64 most]) (T:= 128) N (Jg p) (Ze (i:=0) aM _) ((Zd _ _ _ _).upd aU ((Zg.refl [b] w9).setCell (.inr (by simp)) _) (fun x hx o=>by
       rw[Jm o]at hx
       rcases ak b hx with h|h
       ·exact N h
       ·have r:=m.size;have R:=(Jg p);omega))
      (((m.weaken (G:=b::G) (by simp)).trans aY (fun x hx=> .inr (by simp[hx]))).setCell (.inr (by simp)) _) (fun x hx=>by
       rcases ak x hx with h|h
       ·exact .inl h
       ·right;have r:=m.size;omega)
     refine⟨_,?_,Zi.trans (aV.trans ⟨(aB.trans bq (by simp)).weaken (by simp),fun k d=> .inl d⟩) (by rw[S.out];exact g2)⟩
     unfold Yk
     rw[Xs]
     exact g1
end Go.Proofs.YtbgbeddbfaopgaaGreatDoor
