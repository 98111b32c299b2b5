import Derived.Test.YtlhapbopmplngaaGreatDoorS36
set_option linter.all false
set_option maxHeartbeats 16000000
set_option maxRecDepth 100000
set_option autoImplicit true
set_option relaxedAutoImplicit true
namespace Go.Proofs.YtlhapbopmplngaaGreatDoor
open Go.RowKit Go.Lk
def Zea {P:Prop}(h:P:=by
 have E:=D (HE.trans (show _=({s with queue:=putQ s.queue (Zbj {f with state:=goL f.state 2,since:=s.now}),all:=s.all.set i {f with state:=goL f.state 2,since:=s.now,timer:=0}}:Ze)by rw[if_pos T]))
 refine(ZiB ab (Xj o.tm (by omega)) (by omega) _ _).mono ?_
 rintro e w8 ⟨rfl,z⟩
 have g:=H7.upd0 z
 obtain⟨fz,F9,c,l⟩:=g.setFCell k r 14 (.int .i64 0) {f with state:=goL f.state 2,since:=s.now,timer:=0} (fun _ _ _ _=>rfl) rfl rfl rfl
 rw[List.set_set]at c
 obtain⟨ac,ae,af,d,_⟩:=g.fcell k r.out
 obtain⟨ad,ai,ah,j,_⟩:=c.fcell k (ZM HF)
 have x:=Jx 13 d
 have L:=Jx 0 d
 have I:=Jx 11 g.blk.1
 have C:=D (Zf (i:=13) j rfl);have J:=D (Zf (i:=0) j rfl);have y:=D (Zf (i:=11) c.blk.1 rfl)
 have ag:=Jx 14 d
 have K:=D c;have M:=D (aa.trans ((l.pre0 z).pre0 X))
 clear z g c l d j
 go_wp2_with fail
 refine⟨_,fun W a=>a,⟨I,x,L⟩,?_⟩
 repeat first|refine Jn ?_|refine Jf ?_|refine Ju ?_
 refine JE ?_
 go_wp2_with fail
 refine⟨_,fun W a=>a,⟨y,C.out,J.out⟩,ZK ?_⟩
 go_wp2_with fail
 (try simp only[Exit.inBlock,Exit.then])
 first|refine bodyPost_ret (results_none rfl _ _ _) rfl ?_|refine bodyPost_end (results_none rfl _ _ _) rfl ?_
 rw[E.out]
 exact⟨rfl,_,K.out,M.out⟩):P:=h
def Zgo {P:Prop}(h:P:=by
 rw[ax.out]
 refine(ZpB ab (by omega) (by omega) _ _ o.tl.1 (by have:=o.tl.2;omega)).mono ?_
 rintro e w8 ⟨rfl,G8,Y,V⟩
 obtain⟨F8,g,g8⟩:=al.out _ _ _ _ Y V
 obtain⟨fz,F9,c,l⟩:=g.setFCell k r 14 (.int .i64 (s.tlast+1)) {f with state:=goL f.state 2,since:=s.now,timer:=s.tlast+1} (fun _ _ _ _=>rfl) rfl rfl rfl
 rw[List.set_set]at c
 obtain⟨ac,ae,af,d,_⟩:=g.fcell k r.out
 obtain⟨ad,ai,ah,j,_⟩:=c.fcell k (ZM HF)
 have x:=Jx 13 d
 have L:=Jx 0 d
 have I:=Jx 11 g.blk.1
 have C:=D (Zf (i:=13) j rfl);have J:=D (Zf (i:=0) j rfl);have y:=D (Zf (i:=11) c.blk.1 rfl)
 have ag:=Jx 14 d
 have K:=D c;have M:=D (aa.trans ((g8.trans l).pre0 X))
 clear g c l g8 d j Y V
 go_wp2_with fail
 refine⟨_,fun W a=>a,⟨I,x,L⟩,?_⟩
 repeat first|refine Jn ?_|refine Jf ?_|refine Ju ?_
 refine JE ?_
 go_wp2_with fail
 refine⟨_,fun W a=>a,⟨y,C.out,J.out⟩,ZK ?_⟩
 go_wp2_with fail
 (try simp only[Exit.inBlock,Exit.then])
 first|refine bodyPost_ret (results_none rfl _ _ _) rfl ?_|refine bodyPost_end (results_none rfl _ _ _) rfl ?_
 rw[E.out]
 exact⟨rfl,_,K.out,M.out⟩):P:=h
def ZfW {P:Prop}(h:P:=by
 have E:=D (HE.trans (show _=({s with queue:=putQ s.queue (Zbj {f with state:=goL f.state 2,since:=s.now}),timers:=s.timers++[⟨addT s.now O,s.tlast+1,(i:Int)+1⟩],tlast:=s.tlast+1,all:=s.all.set i {f with state:=goL f.state 2,since:=s.now,timer:=s.tlast+1}}:Ze)by rw[if_neg T]))
 exact Zgo):P:=h
def ZiQ (h:Zh w b P lk s va vp vl F) (hfit:ZQ s n m) (hn:n≤1000000) {i p:Nat} (hp:P.fps[i]? =some p) (hf:s.all[i]? =some f) (hid:f.id=(i:Int)+1):
  Calls Tryz.prog 61 #[.pointer (some ⟨b,0,none⟩), .pointer (some ⟨p,0,none⟩)] w fun e w'=>e= .returned (.tuple #[])∧∃F',Zh w' b P lk (openS s ((i:Int)+1)) va vp vl F'∧Zi w w' F F':=by
 obtain⟨R,hR⟩:=Je (openS s ((i:Int)+1))
 have HR:=D (hR.trans (ZhL hf))
 rw[←hR]
 have aC:=hfit.fs f (Xc hf)
 have aJ:=D aC
 have o:=D hfit
 obtain⟨lb,aO,hl,aI⟩:=h.life hp hf
 have aU:=D aI;have k:=D hp;have HF:=D hf;have ax:=D hid;have HL:=D hl
 have HB:=D h.blk.2
 clear hR aC hfit aI h hp hf hid hl
 go_in
 go_wp2_with fail
 refine(ZcK HL 2).mono ?_
 rintro e w2 ⟨rfl,aB,aM⟩
 obtain⟨F2,h2,g2⟩:=aU.out w2 _ aB aM
 have aw:=ZM (f':={f with state:=goL f.state 2}) HF.out
 obtain⟨vh,a1,vb,aE,_⟩:=h2.fcell k aw
 have c7:=Jx 7 h2.blk.1
 have H:=Jx 13 aE
 have H2:=D h2;have G2:=D g2;have aT:=D aw
 clear aB aM h2 g2 aw aE aO
 go_upto_region 1 with fail
 go_wp2_with fail
 refine(Zbm H2.clock.1).mono ?_
 rintro e W ⟨rfl,rfl⟩
 obtain⟨fz,F3,h3,g3⟩:=H2.setFCell k aT 13 (.int .u64 (s.now:Int)) {f with state:=goL f.state 2,since:=s.now} (fun _ _ _ _=>rfl) rfl rfl rfl
 rw[List.set_set]at h3
 obtain⟨w3,ap⟩:=Je (W.setCell ⟨p,13,none⟩ (.int .u64 (s.now:Int)))
 rw[←ap]at h3 g3
 have H3:=D h3;have G3:=D (G2.trans g3)
 clear h3 g3;change Hid _ at ap
 go_upto_region 2 with fail
 rw[←ap.out]
 clear c7 H
 have ar:=ZM (f':={f with state:=goL f.state 2,since:=s.now}) HF.out
 obtain⟨w4,aj⟩:=Je w3.drew
 have ay:=Jd aj
 have h4:=H3.upd0 ay
 obtain⟨aZ,a2,aY,aG,_⟩:=h4.fcell k ar
 have c9:=Jx 9 h4.blk.1
 have aS:=D (ZhR aG)
 have H4:=D h4;have r:=D ar
 clear h4 ar aG;change Hid _ at aj ay
 refine Jr [0,4,8,12,16,21,26] (fun W=>W.cell? ⟨b,9,none⟩=some (.pointer (some ⟨P.queue,0,none⟩))) (by rw[aj.out]at c9;exact c9) ?_
 repeat first|refine Jn ?_|refine Jf ?_|refine Ju ?_
 refine JE ?_
 simp only[Xu]
 rw[←aj.out]
 go_wp2_with fail
 refine aS.out.mono ?_
 rintro e w5 ⟨rfl,au⟩
 have h5:=H4.upd0 au
 have aN:=Jx 9 h5.blk.1
 obtain⟨G,hq,av,az⟩:=h5.queue
 have HQ:=D hq;have aQ:=D az;have aP:=Jt ay au
 clear au h5 hq av az c9
 go_wp2_with fail
 refine⟨_,fun W a=>a,aN,?_⟩
 refine JL ?_
 go_wp2_with fail
 refine(ZgI HQ (Xj o.q (by omega)) _).mono ?_
 rintro e w6 ⟨cq,rfl,G6,aH,aF⟩
 obtain⟨F6,h6,g6⟩:=aQ.out _ _ _ aH aF
 have H6:=D h6;have aa:=D (G3.trans (g6.pre0 aP))
 clear aH aF h6 g6 aN
 go_wp2_with fail
 refine Jz ?_
 obtain⟨Q,aq⟩:∃Q:Nat,f.req.timeout=(Q:Int):=Int.eq_ofNat_of_zero_le aJ.req.t.1
 have an:=D aq
 obtain⟨O,ao⟩:=Je s.conf.timeout
 have ak:=D ao
 have aR:=D (show Q≤18446744073709551615 by have:=aJ.req.t.2;omega)
 have aL:=D (show O≤18446744073709551615 by have h:=o.conf;unfold Zbu at h;simp only[Bool.and_eq_true,decide_eq_true_eq]at h;omega)
 obtain⟨w7,Z⟩:=Je w6.drew
 have X:=Jd Z
 have h7:=H6.upd0 X
 obtain⟨a3,a4,a0,aK,_⟩:=H6.fcell k r.out
 have d8:w6.cell? ⟨p,8,none⟩=some (.int .u64 (Q:Int)):=by rw[←aq];exact Zf (i:=8) aK rfl
 have c6:w6.cell? ⟨b,6,none⟩=some (.int .u64 (O:Int)):=by rw[ao];exact Zf (i:=6) H6.blk.1 rfl
 obtain⟨aW,aX,aV,am,_⟩:=h7.fcell k r.out
 have H:=Jx 13 am
 have S:=Jx 0 am
 have N:=Jx 11 h7.blk.1
 obtain⟨G,aD,av,aA⟩:=h7.wheel
 have H7:=D h7;have ab:=D aD;have al:=D aA
 have HT:=D (show∀t:Nat,(if f.req.timeout=0∨(s.conf.timeout:Int)<f.req.timeout then s.conf.timeout else f.req.timeout.toNat)=t→R=(let f1:ZC:={f with state:=goL f.state 2,since:=s.now}
   if 256≤s.timers.length then{s with queue:=putQ s.queue (Zbj f1),all:=s.all.set i {f1 with timer:=0}}
   else{s with queue:=putQ s.queue (Zbj f1),timers:=s.timers++[⟨addT s.now t,s.tlast+1,(i:Int)+1⟩],tlast:=s.tlast+1,all:=s.all.set i {f1 with timer:=s.tlast+1}})from fun t ht=>by rw[HR.out];dsimp only;rw[ht])
 clear aK am h7 aD aA av ao aq;change Hid _ at Z X
 by_cases h0:(Q:Int)=0
 ·clear H6
  have HE:=D (HT.out O (by rw[an.out,if_pos (.inl h0),ak.out]))
  go_upto_region 6 with fail
  refine Jr [0,4,8,12,16,20,24,28,32,36,44,48,52,56,41,61,64,68,72,76,80,85] (fun W=>W.cell? ⟨b,11,none⟩=some (.pointer (some ⟨P.wheel,0,none⟩))∧W.cell? ⟨p,13,none⟩=some (.int .u64 (s.now:Int))∧W.cell? ⟨p,0,none⟩=some (.int .i64 f.id)) (by rw[Z.out]at N H S;exact⟨N,H,S⟩) ?_
  repeat first|refine Jn ?_|refine Jf ?_|refine Ju ?_
  refine JE ?_
  simp only[Xu]
  rw[←Z.out]
  go_wp2_with fail
  refine(ZdH s.now O o.now aL w7).mono ?_
  rintro e W ⟨rfl,a⟩
  rw[a]
  clear a W
  go_wp2_with fail
  refine⟨_,fun W a=>a,⟨N,H,S⟩,?_⟩
  refine JE ?_
  go_wp2_with fail
  by_cases T:256≤s.timers.length
  · exact Zea
  · exact ZfW
 ·by_cases h1:(O:Int)<(Q:Int)
  · clear H6
    have HE:=D (HT.out O (by rw[an.out,if_pos (.inr (by rw[←ak.out];exact h1)),ak.out]))
    go_upto_region 6 with fail
    refine Jr [0,4,8,12,16,20,24,28,32,36,44,48,52,56,41,61,64,68,72,76,80,85] (fun W=>W.cell? ⟨b,11,none⟩=some (.pointer (some ⟨P.wheel,0,none⟩))∧W.cell? ⟨p,13,none⟩=some (.int .u64 (s.now:Int))∧W.cell? ⟨p,0,none⟩=some (.int .i64 f.id)) (by rw[Z.out]at N H S;exact⟨N,H,S⟩) ?_
    repeat first|refine Jn ?_|refine Jf ?_|refine Ju ?_
    refine JE ?_
    simp only[Xu]
    rw[←Z.out]
    go_wp2_with fail
    refine(ZdH s.now O o.now aL w7).mono ?_
    rintro e W ⟨rfl,a⟩
    rw[a]
    clear a W
    go_wp2_with fail
    refine⟨_,fun W a=>a,⟨N,H,S⟩,?_⟩
    refine JE ?_
    go_wp2_with fail
    by_cases T:256≤s.timers.length
    ·exact Zea
    ·exact ZfW
  · clear H6
    have HE:=D (HT.out Q (by rw[an.out,if_neg (by rw[←ak.out];omega)];rfl))
    go_upto_region 6 with fail
    refine Jr [0,4,8,12,16,20,24,28,32,36,44,48,52,56,41,61,64,68,72,76,80,85] (fun W=>W.cell? ⟨b,11,none⟩=some (.pointer (some ⟨P.wheel,0,none⟩))∧W.cell? ⟨p,13,none⟩=some (.int .u64 (s.now:Int))∧W.cell? ⟨p,0,none⟩=some (.int .i64 f.id)) (by rw[Z.out]at N H S;exact⟨N,H,S⟩) ?_
    repeat first|refine Jn ?_|refine Jf ?_|refine Ju ?_
    refine JE ?_
    simp only[Xu]
    rw[←Z.out]
    go_wp2_with fail
    refine(ZdH s.now Q o.now aR w7).mono ?_
    rintro e W ⟨rfl,a⟩
    rw[a]
    clear a W
    go_wp2_with fail
    refine⟨_,fun W a=>a,⟨N,H,S⟩,?_⟩
    refine JE ?_
    go_wp2_with fail
    by_cases T:256≤s.timers.length
    ·exact Zea
    ·have E:=D (HE.trans (show _=({s with queue:=putQ s.queue (Zbj {f with state:=goL f.state 2,since:=s.now}),timers:=s.timers++[⟨addT s.now Q,s.tlast+1,(i:Int)+1⟩],tlast:=s.tlast+1,all:=s.all.set i {f with state:=goL f.state 2,since:=s.now,timer:=s.tlast+1}}:Ze)by rw[if_neg T]))
     exact Zgo
end Go.Proofs.YtlhapbopmplngaaGreatDoor
