import Derived.Test.YtbgbeddbfaopgaaGreatDoorZ25
set_option linter.all false
set_option maxHeartbeats 16000000
set_option maxRecDepth 100000
set_option autoImplicit true
set_option relaxedAutoImplicit true
namespace Go.Proofs.YtbgbeddbfaopgaaGreatDoor
open Go.RowKit Go.Lk
def ZdI (b:Nat) (P:YI) (s:Zf) (t:Zad) (w:World) (F:List Nat) (e:Ending) (w':World):Prop:=∃fps' va',Znk b {P with fps:=fps'} s t va' w F e w'
theorem ZnF {s:Zf} {i:Nat} (hf:s.all[i]? =some f):∃f',(openS s ((i:Int)+1)).all[i]? =some f'∧f'.id=f.id:=by
 rw[ZlM hf]
 dsimp only
 split
 ·exact⟨_,ZP hf,rfl⟩
 ·exact⟨_,ZP hf,rfl⟩
theorem ZW.subU (h:ZW s n m) (hs:Lk.Safe s) (hr:Zfz r) {bk:List Y8} (hb:bk.length≤64):ZW (subU s r bk) (n+1) (m+1):=by
 have b:=h.mono (Nat.le_succ n) (Nat.le_succ m)
 exact{b with
  log:=by show(s.log++[_]).length≤_;rw[Xd];have:=h.log;simp;exact this
  all:=by show(s.all++[_]).length≤_;rw[Xd];have:=h.all;simp;exact this
  fs:=fun f a=>by
   rcases List.mem_append.1 a with a|a
   ·exact h.fs f a
   ·rw[Jm a]
    exact⟨Zjn hr,by simp,by simp,by have:=ZlD r;show(Zek r).length≤_;omega⟩
  gl:=(Ze6 s.groups r.group _).symm▸h.gl
  gm:=Zi3 h.gm hs.2.grp (by omega)
  bk:=hb
  made:=h.made.trans (by show(_:Int)=((Zcv s.groups r.group _).length:Nat);rw[Ze6])}
section
variable {w:World} {b:Nat} {P:YI} {s:Zf} {va vp vl:Value} {F:List Nat}
theorem ZeI {P:Prop}(h:P:=by
 have T:=D (YH (⟨0,(N:Int)+1,0,[]⟩:Zad) (.slice none 0 0) rfl)
 clear H;change Hid _ at j
 go_wp2_with(first|(refine Jo (Z7 (⟨0,(N:Int)+1,0,[]⟩:Zad) (.slice none 0 0)).toArray Q.out.blk Yf T.out ?_;rw[←j.out]))
 refine bodyPost_ret (v:= .agg (Z7 (⟨0,(N:Int)+1,0,[]⟩:Zad) (.slice none 0 0)).toArray) (Zs _ Tryz.results37 (b:=L) (o:=0) rfl Yf (Zb.of_block E.out.1)) rfl ?_
 rw[aC.out]
 refine⟨P.fps++[p], .slice A' (N+1) c',?_⟩
 exact E.out.2):P:=h
theorem Zes {P:Prop}(h:P:=by
 have aC:=D (show R=(SU,⟨0,(N:Int)+1,0,[]⟩)by rw[Y.out,if_neg (by omega),aX.out,S.out])
 obtain⟨we,j⟩:=Je (ba.setRow L (Z7 (⟨0,(N:Int)+1,0,[]⟩:Zad) (.slice none 0 0)).toArray)
 have H:=ZaA (P:={P with fps:=P.fps++[p]}) P.qps bs.out (bI.out) (an.out) j (ZaB _) (fun k z=>by simp[Value.ownBlock]at z) ad.out
 have E:=D H;have Q:=D (an.out)
 exact ZeI):P:=h
theorem Zj5 (h:Zh w b P none s va vp vl F) (hfit:ZW s n m) (hs:Lk.Safe s) (hE:Env w) (hn:n≤800000) (hm:m≤900000) (r:Yb) (vr:Value) (hro:Za0 w r vr) (hrf:Zfz r) (hoff:∀g o n c,vr= .slice (some ⟨g,o,none⟩) n c→g∉F):
  Calls Tryz.prog 37 #[.pointer (some ⟨b,0,none⟩), .agg (Zv r vr).toArray] w (ZdI b P (submitS s r).1 (submitS s r).2 w F):=by
 obtain⟨R,hR⟩:=Je (submitS s r)
 rw[←hR]
 obtain⟨wR,ax⟩:=Je (w.alloc (.cells (Zv r vr).toArray 43))
 obtain⟨J,aY⟩:=Je w.heap.size
 obtain⟨W0,a9⟩:=Je (wR.alloc (.cells #[.int .i64 0, .int .i64 0, .int .i64 0, .slice none 0 0] 39))
 obtain⟨L,hL⟩:=Je wR.heap.size
 have bE:=Ja ax
 have co:L=J+1:=by rw[hL,ax,aY];simp
 change Hid _ at co
 have be:=Ja a9
 have dc:L=L:=rfl
 have ah:=bE.trans be (by simp)
 have cq:w.heap.size≤L:=by rw[hL];exact bE.size
 have bA:wR.heap[J]? =some (.cells (Zv r vr).toArray 43 (0,0)):=by rw[ax,aY];exact Za _
 have bH:Own W0 J (Zv r vr).toArray 43 F:=⟨(be.block J (Jg bA) (by simp)).trans bA,fun hm=>by have:=h.lt J hm;omega⟩
 have cu:ZaV W0 L F:=⟨by rw[a9,hL];exact Za _,fun hm=>by have:=h.lt L hm;omega⟩
 have h0:=h.upd0 ah
 have cr:=D (show∀W,Zg F w W→Za0 W r vr from fun W C=>⟨hro.m,hro.u,hro.o,hro.n,hro.few,by
  obtain⟨A,c,e,hA⟩:=hro.at_
  exact⟨A,c,e,hA.upd C (fun ab ao ea=>hoff ab ao _ _ (by rw[e,ea]))⟩⟩)
 have dz:=D ah;have dI:=D dc;have ad:=D cq;have c3:=D bH;have c4:=D cu;have H0:=D h0
 have HE:=D hE;have aa:=D hfit;have HS:=D hs;have da:=D hrf;have HH:=D h
 have G0:=D (show Zi w W0 F F from(Zi.refl w F).upd0 ah)
 obtain⟨ec,af⟩:=Je (Za9 r)
 obtain⟨gc,ae⟩:=Je (ZaD s r.group)
 obtain⟨sc,ar⟩:=Je (ZbB s r.signal)
 obtain⟨t,ht⟩:=Je (ZbY s.book ((s.all.length:Int)+1) (Zek r) r.group)
 have cv:=D (show ec≠0→R=(s,Yy ec)by intro d;rw[hR,af];unfold submitS;exact if_pos (by rw[←af];exact d))
 have cC:=D (show ec=0→gc≠0→R=(s,Yy gc)by intro d h2;rw[hR,ae];unfold submitS;rw[if_neg (by rw[←af];simp[d])];exact if_pos (by rw[←ae];exact h2))
 have au:=D (show ec=0→gc=0→sc≠0→R=(s,Yy sc)by intro d h2 h3;rw[hR,ar];unfold submitS;rw[if_neg (by rw[←af];simp[d]),if_neg (by rw[←ae];simp[h2])];exact if_pos (by rw[←ar];exact h3))
 have ay:=D (show ec=0→gc=0→sc=0→R=if t.2≠0 then(s,Yy t.2)else(if r.cls≠5∧r.cls≠6 then openS (subU s r t.1) ((s.all.length:Int)+1)else subU s r t.1,⟨0,(s.all.length:Int)+1,0,[]⟩)by
  intro d h2 h3;rw[hR];exact ZmO ht (af▸d) (ae▸h2) (ar▸h3))
 have dk:=D (show Calls Tryz.prog 60 #[.agg (Zv r vr).toArray] W0 (fun e K=>e= .returned (.int .i64 ec)∧Zg [] W0 K)by rw[af];exact ZgH r vr W0 (hro.upd0 ah) (hE.upd0 ah))
 have ct:=D ae
 have cE:=D (show∀W,Zg [] W0 W→Calls Tryz.prog 61 #[.pointer (some ⟨b,0,none⟩), .int .i64 r.group] W (fun e K=>e= .returned (.int .i64 gc)∧K=W)from fun W C=>by rw[ae];exact Ziy (h0.upd0 C) hfit _)
 have cA:=D (show∀W,Zg [] W0 W→Calls Tryz.prog 62 #[.pointer (some ⟨b,0,none⟩), .int .i64 r.signal] W (fun e K=>e= .returned (.int .i64 sc)∧K=W)from fun W C=>by rw[ar];exact Zht (h0.upd0 C) hfit _)
 have HT:=D ht
 have cW:=D (show Zb W0 J 0 (Zv r vr)from Zb.of_block bH.blk)
 have cP:=hfit.all
 obtain⟨N,S⟩:=Je s.all.length
 rw[←S]at cP
 clear hR hL bE be ah cq bA bH cu h0 hE hfit hs hrf af ae ar ht hro hoff h;change Hid _ at a9 ax aY S
 go_enter Tryz.func37,Tryz.ntmps37
 go_upto_region 1 with fail
 rw[←ax.out,←aY.out,←a9.out,←co.out]
 go_wp2_with(refine Jl cW.out Yp ?_)
 refine dk.out.mono ?_
 rintro e X ⟨rfl,aj⟩
 have ce:=D aj;have H2:=D (H0.out.upd0 aj);have aW:=D (c3.out.upd0 aj);have ac:=D (c4.out.upd0 aj);have G2:=D (G0.out.upd0 aj)
 clear aj
 by_cases d:ec=0
 case neg=>
  have Y:=D (cv.out d)
  obtain⟨we,j⟩:=Je (X.setRow L (Z7 (Yy ec) (.slice none 0 0)).toArray)
  have H:=ZaA _ H2.out (G2.out) (ac.out) j (ZaB _) (fun k z=>by simp[Value.ownBlock]at z) ad.out
  have E:=D H;have Q:=D (ac.out)
  have T:=D (YH (Yy ec) (.slice none 0 0) rfl)
  clear H;change Hid _ at j
  go_wp2_with(first|(refine Jo (Z7 (Yy ec) (.slice none 0 0)).toArray Q.out.blk Yf T.out ?_;rw[←j.out]))
  refine bodyPost_ret (v:= .agg (Z7 (Yy ec) (.slice none 0 0)).toArray) (Zs _ Tryz.results37 (b:=L) (o:=0) rfl Yf (Zb.of_block E.out.1)) rfl ?_
  rw[Y.out]
  refine⟨P.fps,va,?_⟩
  exact E.out.2
 case pos=>
 have k8:X.cell? ⟨J,8,none⟩=some (.int .i64 r.group):=aW.out.cell rfl
 have k9:X.cell? ⟨J,9,none⟩=some (.int .i64 r.signal):=aW.out.cell rfl
 have b0:=D (cC.out d);have bS:=D (au.out d);have bU:=D (ay.out d)
 clear cC au ay cv
 subst d
 go_wp2_with fail
 refine(cE.out X ce.out).mono ?_
 rintro e W ⟨rfl,C⟩
 rw[C]
 clear C W
 by_cases d:gc=0
 case neg=>
  have Y:=D (b0.out d)
  obtain⟨we,j⟩:=Je (X.setRow L (Z7 (Yy gc) (.slice none 0 0)).toArray)
  have H:=ZaA _ H2.out (G2.out) (ac.out) j (ZaB _) (fun k z=>by simp[Value.ownBlock]at z) ad.out
  have E:=D H;have Q:=D (ac.out)
  have T:=D (YH (Yy gc) (.slice none 0 0) rfl)
  clear H;change Hid _ at j
  go_wp2_with(first|(refine Jo (Z7 (Yy gc) (.slice none 0 0)).toArray Q.out.blk Yf T.out ?_;rw[←j.out]))
  refine bodyPost_ret (v:= .agg (Z7 (Yy gc) (.slice none 0 0)).toArray) (Zs _ Tryz.results37 (b:=L) (o:=0) rfl Yf (Zb.of_block E.out.1)) rfl ?_
  rw[Y.out]
  refine⟨P.fps,va,?_⟩
  exact E.out.2
 case pos=>
 have au:=D (bS.out d);have ay:=D (bU.out d)
 have dm:=D (ZkF (ct.out.symm.trans d))
 clear b0 bS bU ct
 subst d
 go_wp2_with fail
 refine(cA.out X ce.out).mono ?_
 rintro e W ⟨rfl,C⟩
 rw[C]
 clear C W
 by_cases d:sc=0
 case neg=>
  have Y:=D (au.out d)
  obtain⟨we,j⟩:=Je (X.setRow L (Z7 (Yy sc) (.slice none 0 0)).toArray)
  have H:=ZaA _ H2.out (G2.out) (ac.out) j (ZaB _) (fun k z=>by simp[Value.ownBlock]at z) ad.out
  have E:=D H;have Q:=D (ac.out)
  have T:=D (YH (Yy sc) (.slice none 0 0) rfl)
  clear H;change Hid _ at j
  go_wp2_with(first|(refine Jo (Z7 (Yy sc) (.slice none 0 0)).toArray Q.out.blk Yf T.out ?_;rw[←j.out]))
  refine bodyPost_ret (v:= .agg (Z7 (Yy sc) (.slice none 0 0)).toArray) (Zs _ Tryz.results37 (b:=L) (o:=0) rfl Yf (Zb.of_block E.out.1)) rfl ?_
  rw[Y.out]
  refine⟨P.fps,va,?_⟩
  exact E.out.2
 case pos=>
 have aM:=D (ay.out d)
 clear au ay cE cA
 subst d
 have cO:=D (show Zb X J 0 (Zv r vr)from Zb.of_block aW.out.blk)
 obtain⟨key,aH⟩:=Je (Zek r)
 have dg:=D (show Calls Tryz.prog 63 #[.agg (Zv r vr).toArray] X (fun e K=>e= .returned (.string ⟨key.toArray⟩)∧Zg [] X K)by rw[aH];exact Zrp r vr X (cr.out X G2.out.upd) (Zds HH.out HE.out G2.out))
 clear k8 k9;change Hid _ at aH
 go_wp2_with(refine Jl cO.out Yp ?_)
 refine dg.out.mono ?_
 rintro e w3 ⟨rfl,b4⟩
 obtain⟨w4,a4⟩:=Je w3.drew
 have bZ:=Jd a4
 have aw:=b4.trans bZ (by simp)
 have h4:=H2.out.upd0 aw
 have bB:=aW.out.upd0 aw
 obtain⟨Ga,ci,_⟩:=h4.rowAll
 obtain⟨Aa,aU,cH,_⟩:=ci.form'
 rw[Xb,h4.fl,←S.out]at cH
 subst cH
 have br:=Jx 15 h4.blk.1
 have bG:=Jx 17 h4.blk.1
 have k8:w4.cell? ⟨J,8,none⟩=some (.int .i64 r.group):=bB.cell rfl
 obtain⟨GB,aA,_,bW⟩:=h4.book
 have cl:=D (show Calls Tryz.prog 64 #[.pointer (some ⟨P.book,0,none⟩), .int .i64 ((N:Int)+1), .string ⟨key.toArray⟩, .int .i64 r.group] w4 (fun e K=>e= .returned (.int .i64 t.2)∧∃F',YU P.book t.1 K F'∧Zi w4 K GB F')by
  rw[HT.out,S.out,aH.out];exact Zo0 aA (Xj aa.out.bk (by omega)) _ _ _)
 have H4:=D h4;have dn:=D bB;have c8:=D (ac.out.upd0 aw);have G4:=D (G2.out.upd0 aw);have bY:=D bW
 clear b4 bZ aw h4 bB ci aA bW;change Hid _ at a4
 go_upto_region 11 with fail
 refine Jr [0,4,8,12,16,20,24,28,32,36,40,44,48,54,56] (fun W=>W.cell? ⟨b,15,none⟩=some (.pointer (some ⟨P.book,0,none⟩))∧W.cell? ⟨b,17,none⟩=some (.slice Aa N aU)∧W.cell? ⟨J,8,none⟩=some (.int .i64 r.group)) (by rw[a4.out]at br bG k8;exact⟨br,bG,k8⟩) ?_
 repeat first|refine Jn ?_|refine Jf ?_|refine Ju ?_
 refine JL ?_
 simp only[Xu]
 rw[←a4.out]
 go_wp2_with fail
 refine cl.out.mono ?_
 rintro e w5 ⟨rfl,dr,cb,cy⟩
 obtain⟨F5,h5,g5⟩:=bY.out w5 t.1 dr cb cy
 have H5:=D h5;have dt:=D (dn.out.step g5);have aR:=D (c8.out.step g5);have G5:=D (G4.out.trans g5)
 clear h5 g5 cb cy br bG k8 cl bY
 go_wp2_with fail
 refine⟨fun _=>True,trivial,?_⟩
 repeat first|refine Jn ?_|refine Jf ?_|refine Ju ?_
 refine ZL ?_
 obtain⟨bk,tc⟩:=t
 dsimp only at H5 aM
 by_cases d:tc=0
 case neg=>
  have Y:=D (aM.out.trans (if_pos d))
  have aA:bk=s.book:=by
   have e:=HT.out
   have V:=Zl0 (l:=s.book) (id:=(s.all.length:Int)+1) (key:=Zek r) (g:=r.group) (by rw[←e];exact d)
   rw[←e]at V;exact V
  rw[aA]at H5
  clear aA
  obtain⟨we,j⟩:=Je (w5.setRow L (Z7 (Yy tc) (.slice none 0 0)).toArray)
  have H:=ZaA _ H5.out (G5.out) (aR.out) j (ZaB _) (fun k z=>by simp[Value.ownBlock]at z) ad.out
  have E:=D H;have Q:=D (aR.out)
  have T:=D (YH (Yy tc) (.slice none 0 0) rfl)
  clear H;change Hid _ at j
  go_wp2_with(first|(refine Jo (Z7 (Yy tc) (.slice none 0 0)).toArray Q.out.blk Yf T.out ?_;rw[←j.out]))
  refine bodyPost_ret (v:= .agg (Z7 (Yy tc) (.slice none 0 0)).toArray) (Zs _ Tryz.results37 (b:=L) (o:=0) rfl Yf (Zb.of_block E.out.1)) rfl ?_
  rw[Y.out]
  refine⟨P.fps, .slice Aa N aU,?_⟩
  exact E.out.2
 case pos=>
 subst d
 have Y:=D (aM.out.trans (if_neg (by simp)))
 have ds:=D (show Hid (∀SU,SU=subU s r bk→ZW SU (n+1) (m+1))from D (fun SU e=>by
  rw[e]
  refine ZW.subU aa.out HS.out da.out ?_
  have V:=HT.out
  have h0:=aa.out.bk
  unfold ZbY at V
  split at V
  ·cases V
  ·split at V
   ·cases V
   ·split at V
    ·cases V
    ·rename_i dG
     injection V with V
     rw[V,Xd,List.length_singleton]
     omega))
 clear aM HT
 obtain⟨w6,a6⟩:=Je w5.drew
 have al:=Jd a6
 have h6:=H5.out.upd0 al
 have g6:=G5.out.upd0 al
 have aB:=dt.out.upd0 al
 obtain⟨aP,ck⟩:=h6.blk
 have cJ:w6.cell? ⟨b,21,none⟩=some (.int .i64 (N:Int)):=by rw[S.out];exact Zc (i:=21) aP rfl
 have cn:w6.frozen? ⟨b,21,none⟩=false:=Zk aP
 obtain⟨wA,a5⟩:=Je (w6.setCell ⟨b,21,none⟩ (.int .i64 ((N:Int)+1)))
 have bu:Zg [b] w6 wA:=by rw[a5];exact(Zg.refl _ _).setCell (.inr (by simp)) _
 have aV:wA.heap[b]? =some (.cells ((Y3 {s with book:=bk} P (.slice Aa N aU) vp vl).toArray.setIfInBounds 21 (.int .i64 ((N:Int)+1))) 84 (0,0)):=by rw[a5,Ze aP]
 have gA:Zi w6 wA F5 F5:=⟨bu.weaken (fun k z=> .inr (by rw[Jm z];exact ck)),fun k z=> .inl z⟩
 have dA:=D (g6.trans gA)
 have dd:=D (aB.step gA)
 have bV:=D (show Zb w6 J 0 (Zv r vr)from Zb.of_block aB.blk)
 have bg:=D (show Zb wA J 0 (Zv r vr)from Zb.of_block (aB.step gA).blk)
 obtain⟨I,bx⟩:=Je (YP r)
 have cz:=D (show Calls Tryz.prog 65 #[.agg (Zv r vr).toArray] wA (fun e K=>∃vh M,e= .returned (.agg #[.string ⟨I.method.toArray⟩, .string ⟨I.url.toArray⟩, .string ⟨I.origin.toArray⟩, .int .i64 I.mode, .bool I.creds,vh, .int .i64 I.cls, .int .u64 I.timeout, .int .i64 I.group, .int .i64 I.signal])∧Zby vh I.headers K M∧(∀k∈M,wA.heap.size≤k)∧Zg [] wA K)from
  (Zex r vr wA (cr.out wA (g6.trans gA).upd) (Zds HH.out HE.out (g6.trans gA))).mono (by
   rintro e K ⟨vh,M,rfl,a1,a2,a3⟩
   rw[←bx]at a1⊢
   exact⟨vh,M,rfl,a1,a2,a3⟩))
 have H6:=D h6;have dj:=D ((aR.out.upd0 al).step gA);have G6:=D g6;have c7:=D aB;have dp:=D (aR.out.upd0 al)
 clear al h6 g6 aB aP ck gA;change Hid _ at a6 a5 bu aV bx
 go_upto_region 14 with fail
 refine Jr [0,4,8,16,24,13,21,29,32,38,40] (fun W=>Zb W J 0 (Zv r vr)) (by have q:=bV.out;rw[a6.out]at q;exact q) ?_
 repeat first|refine Jn ?_|refine Jf ?_|refine Ju ?_
 apply Zq (t:= 43) (x:= .tmp 3) (b:=J) (of:=0) (cs:=Zv r vr)
 case ho=>simp only[Xh,Xf,Xg];rfl
 case hg=>rfl
 case hop=>rfl
 case hx=>rfl
 case ht=>exact Yp
 case hb=>exact fun W C=>C
 case ha=>go_simp;rfl
 repeat first|refine Jn ?_|refine Jf ?_|refine Ju ?_
 refine JE ?_
 simp only[Xu]
 rw[←a6.out]
 go_wp2_with fail
 refine(ZaM ⟨b,21,none⟩ N 1 w6 cJ cn (by omega) (by omega) (by omega) (by omega)).mono ?_
 rintro e W ⟨rfl,C⟩
 rw[←a5.out]at C
 rw[C]
 clear C W
 go_wp2_with fail
 refine⟨_,fun W C=>C,bg.out,?_⟩
 refine JE ?_
 go_wp2_with fail
 refine cz.out.mono ?_
 rintro e w7 ⟨vh,M,rfl,cw,cD,bq⟩
 have bp:=D (bg.out.upd bq (by simp))
 have cm:=D bq;have cI:=D cw;have cZ:=D cD
 clear cw cD bq cJ cn
 go_wp2_with fail
 refine⟨_,fun W C=>C,bp.out,?_⟩
 refine JE ?_
 go_wp2_with fail
 refine(ZpS 1 w7).mono ?_
 rintro e w8 ⟨lb,rfl,bc,az,di⟩
 have bR:=D (bp.out.upd az (by simp))
 obtain⟨w9,aQ⟩:=Je (w8.alloc (.cells #[.int .i64 ((N:Int)+1), .string ⟨I.method.toArray⟩, .string ⟨I.url.toArray⟩, .string ⟨I.origin.toArray⟩, .int .i64 I.mode, .bool I.creds,vh, .int .i64 I.cls, .int .u64 I.timeout, .int .i64 I.group, .int .i64 I.signal, .string ⟨key.toArray⟩, .pointer (some ⟨lb,0,none⟩), .int .u64 0, .int .i64 0, .bool false, .int .i64 0, .int .i64 0, .pointer none, .int .u32 0, .int .i32 0, .int .u32 0] 112))
 obtain⟨p,bF⟩:=Je w8.heap.size
 obtain⟨O,ai⟩:∃x:ZE,x=⟨(N:Int)+1,I,key,1,0,0,false,0,0,none,false⟩:=⟨_,rfl⟩
 have b9:w9.heap[p]? =some (.cells (ZaG O false vh lb (.pointer none)).toArray 112 (0,0)):=by rw[aQ,bF,ai];exact Za _
 have aD:=Ja aQ
 have cM:lb<w8.heap.size:=(Jg bc.hb)
 have bi:=(Yh _ _).lt cI.out
 have s8:=az.size
 have bw:YS w9 p O false vh lb (.pointer none) M []:=⟨b9,by rw[ai];exact(Yh _ _).upd cI.out (az.trans aD (by simp)) (by simp),by rw[ai];exact bc.upd aD (by simp),by rw[ai];exact⟨rfl,rfl⟩,by omega,fun hm=>by have:=bi p hm;omega,by simp,fun hm=>by have:=bi lb hm;omega,by simp,fun _ _ hm=>by cases hm⟩
 have ag:=cm.out.trans (az.trans aD (by simp)) (by simp)
 have s7:=cm.out.size
 obtain⟨G,cp,c1,b7,du,cB⟩:=H6.out.addAll bu.out aV.out ag ⟨_,_,_,_,_,rfl,bw⟩ (fun k z=>by
  simp only[ZaY,List.mem_cons,List.mem_append,List.not_mem_nil,or_false]at z
  rcases z with rfl|rfl|z
  ·omega
  ·omega
  ·exact cZ.out k z)
 have ak:=D ai;have dx:=D ag;have cc:=D cp;have c6:=D b7;have cF:=D cB;have dH:=D bw
 have aL:=D ((ag.block b (Jg aV.out) (by simp)).trans aV.out)
 have dC:=D (dd.out.upd0 ag);have dy:=D (dj.out.upd0 ag)
 have dw:=D (show wA.heap.size≤p by omega)
 clear bc az di ai b9 aD cM bi s8 bw ag s7 cp c1 b7 du cB;change Hid _ at aQ bF
 go_wp2_with fail
 refine⟨_,fun W C=>C,bR.out,?_⟩
 repeat first|refine Jn ?_|refine Jf ?_|refine Ju ?_
 refine JL ?_
 go_wp2_with fail
 rw[←aQ.out,←bF.out]
 refine⟨fun _=>True,trivial,?_⟩
 repeat first|refine Jn ?_|refine Jf ?_|refine Ju ?_
 refine ZL ?_
 clear bR bp bg bV cz
 have aT:P.fps.length=N:=by rw[H6.out.fl,S.out]
 obtain⟨b3,aK⟩:=Je (w9.alloc (.cells #[.pointer (some ⟨p,0,none⟩)] 98))
 have am:=Ja aK
 have cK:=D (show Zb b3 w9.heap.size 0 (Zda p)by rw[aK];exact Zb.of_block (w:=w9.alloc _) (Za _))
 have bK:=D ((Zd _ _ _ _).upd cc.out am (by simp))
 have bf:=D ((am.block b (Jg aL.out) (by simp)).trans aL.out)
 have cX:=Jx 17 aL.out
 change Hid _ at aK am aT
 go_wp2_with(rw[←aK.out];refine Zn b3 rfl (.tmp 67) (.tmp 69) 76 rfl 98 Tryz.underlying76 ZnG rfl (by omega) (by omega) (.slice Aa N aU) (P.fps.map Zda) G rfl bK.out w9.heap.size 1 (Zda p) rfl cK.out rfl (by intro u hu;rw[Jm hu];rfl) (by rw[Xb,aT.out];omega) ?_;intro v' a0 G' bj bm bM;obtain⟨A',c',cf,_⟩:=bj.form';rw[Xd,Xb,List.length_singleton,aT.out]at cf;subst cf;have aE:=(bm.block b (Jg bf.out) c6.out).trans bf.out;have df:=Jx 17 aE;have c2:a0.frozen? ⟨b,17,none⟩=false:=Zk aE;have b2:=D bj;have cL:=D bm;have cS:=D bM;have b1:=D aE;clear bj bm bM aE)
 obtain⟨bD,aJ⟩:=Je (a0.setCell ⟨b,17,none⟩ (.slice A' (N+1) c'))
 have bN:bD.heap[b]? =some (.cells (Y3 {{s with book:=bk}with all:=s.all++[O]} {P with fps:=P.fps++[p]} (.slice A' (N+1) c') vp vl).toArray 84 (0,0)):=by
  rw[aJ,Ze b1.out]
  have e:(((s.all++[O]).length:Nat):Int)=(N:Int)+1:=by rw[Xd,S.out];simp
  unfold Y3
  dsimp only
  rw[e]
  rfl
 obtain⟨dE,cg,a7⟩:=cF.out a0 bD (.slice A' (N+1) c') G' (by rw[Xs];exact b2.out) ⟨(am.out.weaken (by simp)).trans cL.out (fun k z=> .inr z),fun k z=>by
  rcases cS.out k z with d|d
  ·exact .inl d
  ·have:=am.out.size;exact .inr (by omega)⟩ bN (by rw[aJ];exact(Zg.refl [b] a0).setCell (.inr (by simp)) _)
 have bX:=c7.out.step a7
 have bQ:=dp.out.step a7
 obtain⟨cj,aG⟩:=Je bD.drew
 have aq:=Jd aG
 have bC:=cg.upd0 aq
 have bh:=bX.upd0 aq
 have bd:({P with fps:=P.fps++[p]}:YI).fps[N]? =some p:=by show(P.fps++[p])[N]? =_;rw[←aT.out,List.getElem?_append_right (Xi _)];simp
 have bl:({{s with book:=bk}with all:=s.all++[O]}:Zf).all[N]? =some O:=by show(s.all++[O])[N]? =_;rw[S.out,List.getElem?_append_right (Xi _)];simp
 obtain⟨_,_,_,Z,_⟩:=bC.fcell bd bl
 have p0:cj.cell? ⟨p,0,none⟩=some (.int .i64 ((N:Int)+1)):=by rw[show(N:Int)+1=O.id by rw[ak.out]];exact Zc (i:=0) Z rfl
 have k6:cj.cell? ⟨J,6,none⟩=some (.int .i64 r.cls):=bh.cell rfl
 have db:=D bC;have cT:=D bh;have cQ:=D (bQ.upd0 aq);have dq:=D ((G6.out.trans a7).upd0 aq);have aI:=D bd;have bP:=D bl
 clear bN cg a7 bX bQ aq bC bh bd bl Z cX df c2 cF cc bK b2 aL bf b1;change Hid _ at aJ aG
 go_upto_region 16 with fail
 rw[←aJ.out]
 refine ZX [(0,0),(1,0),(2,0),(3,0),(4,0),(5,0),(6,0),(7,0),(8,2)] (fun W=>W.cell? ⟨p,0,none⟩=some (.int .i64 ((N:Int)+1))∧W.cell? ⟨J,6,none⟩=some (.int .i64 r.cls)) (by kernel_rfl) (by kernel_rfl) (fun c a w t v h=>by cases t<;>exact h) (by rw[aG.out]at p0 k6;exact⟨p0,k6⟩) ?_
 repeat first|refine Jn ?_|refine Jf ?_|refine Ju ?_
 refine JL ?_
 simp only[Xu]
 rw[←aG.out]
 go_wp2_with fail
 refine(Zag db.out (Xj aa.out.log (by omega)) _ _ _ _ _ _ _).mono ?_
 rintro e c0 ⟨rfl,cY,c5,cd,aN⟩
 obtain⟨aO,aF⟩:=Je c0.drew
 have ap:=Jd aF
 have av:=cd.upd0 ap
 have bo:=(cT.out.step aN).upd0 ap
 obtain⟨gk,gx,ch,ca,cG⟩:=dm.out
 obtain⟨_,_,_,Z,_⟩:=av.fcell (s:=ZR {{s with book:=bk}with all:=s.all++[O]} 1 ((N:Int)+1) 0 0 r.cls) aI.out bP.out
 have bn:aO.cell? ⟨p,0,none⟩=some (.int .i64 ((N:Int)+1)):=by rw[show(N:Int)+1=O.id by rw[ak.out]];exact Zc (i:=0) Z rfl
 have bt:=Jx 12 av.blk.1
 have k8:aO.cell? ⟨J,8,none⟩=some (.int .i64 r.group):=bo.cell rfl
 have cx:=D (show Calls Tryz.prog 68 #[.pointer (some ⟨P.groups,0,none⟩), .int .i64 r.group, .int .i64 ((N:Int)+1)] aO (fun e K=>e= .returned (.int .i64 0)∧∃F1,Zh K b {P with fps:=P.fps++[p]} none {ZR {{s with book:=bk}with all:=s.all++[O]} 1 ((N:Int)+1) 0 0 r.cls with groups:=Zcv s.groups r.group ((N:Int)+1)} (.slice A' (N+1) c') vp cY F1∧Zi aO K c5 F1)by
  rw[ch]
  exact ZmL av (n:=N) ca cG (fun y hy i hi=>by rw[S.out];exact HS.out.2.grp y hy i hi) (Xj aa.out.gl (by omega)) (fun g hg=>⟨Xj (aa.out.gm g hg).1 (by omega),(aa.out.gm g hg).2⟩))
 have dD:=D av;have cR:=D bo;have cV:=D ((cQ.out.step aN).upd0 ap);have de:=D ((dq.out.trans aN).upd0 ap)
 clear cd aN ap av bo ch ca cG Z p0 k6;change Hid _ at aF
 go_wp2_with fail
 refine Jz ?_
 go_upto_region 17 with fail
 refine ZX [(0,0),(1,0),(2,0),(3,0),(4,0),(5,0),(6,0),(7,0),(8,0),(9,0),(10,2)] (fun W=>W.cell? ⟨b,12,none⟩=some (.pointer (some ⟨P.groups,0,none⟩))∧W.cell? ⟨J,8,none⟩=some (.int .i64 r.group)∧W.cell? ⟨p,0,none⟩=some (.int .i64 ((N:Int)+1))) (by kernel_rfl) (by kernel_rfl) (fun c a w t v h=>by cases t<;>exact h) (by rw[aF.out]at bt k8 bn;exact⟨bt,k8,bn⟩) ?_
 repeat first|refine Jn ?_|refine Jf ?_|refine Ju ?_
 refine JL ?_
 simp only[Xu]
 rw[←aF.out]
 go_wp2_with fail
 refine cx.out.mono ?_
 rintro e ba ⟨rfl,dF,bb,aZ⟩
 have bO:=cR.out.step aZ
 have cN:ba.cell? ⟨J,6,none⟩=some (.int .i64 r.cls):=bO.cell rfl
 obtain⟨SU,a8⟩:∃x:Zf,x={ZR {{s with book:=bk}with all:=s.all++[O]} 1 ((N:Int)+1) 0 0 r.cls with groups:=Zcv s.groups r.group ((N:Int)+1)}:=⟨_,rfl⟩
 rw[←a8]at bb
 have aS:SU.all[N]? =some O:=by rw[a8];exact bP.out
 have aX:=D (show SU=subU s r bk by rw[a8];unfold subU;rw[ak.out,bx.out,aH.out,S.out])
 obtain⟨_,_,_,Z,_⟩:=bb.fcell aI.out aS
 have cU:ba.cell? ⟨p,0,none⟩=some (.int .i64 ((N:Int)+1)):=by rw[show(N:Int)+1=O.id by rw[ak.out]];exact Zc (i:=0) Z rfl
 have bs:=D bb;have an:=D (cV.out.step aZ);have bI:=D (de.out.trans aZ)
 clear bb aZ bO a8 Z bt k8 bn cx;change Hid _ at aS
 go_wp2_with fail
 refine Jz ?_
 by_cases s5:r.cls=5
 ·exact Zes
 by_cases s6:r.cls=6
 ·exact Zes
 have aC:=D (show R=(openS SU ((N:Int)+1),⟨0,(N:Int)+1,0,[]⟩)by rw[Y.out,if_pos ⟨s5,s6⟩,aX.out,S.out])
 have b5:(r.cls==5)=false:=by simp[s5]
 have b6:(r.cls==6)=false:=by simp[s6]
 have d5:(r.cls !=5)=true:=by simp[s5]
 have d6:(r.cls !=6)=true:=by simp[s6]
 go_wp2_with fail
 refine(Zmr bs.out (ds.out.out _ aX.out) (by omega) aI.out aS.out (by rw[ak.out])).mono ?_
 rintro e b8 ⟨rfl,dB,bz,bv⟩
 obtain⟨c9,bL,bJ⟩:=ZnF aS.out
 obtain⟨_,_,_,Z,_⟩:=bz.fcell aI.out bL
 have dv:b8.cell? ⟨p,0,none⟩=some (.int .i64 ((N:Int)+1)):=by rw[show(N:Int)+1=c9.id by rw[bJ,ak.out]];exact Zc (i:=0) Z rfl
 have dh:=D bz;have bT:=D (an.out.step bv);have dl:=D (bI.out.trans bv)
 clear bz bv Z bL bJ cU cN
 obtain⟨we,j⟩:=Je (b8.setRow L (Z7 (⟨0,(N:Int)+1,0,[]⟩:Zad) (.slice none 0 0)).toArray)
 have H:=ZaA (P:={P with fps:=P.fps++[p]}) P.qps dh.out (dl.out) (bT.out) j (ZaB _) (fun k z=>by simp[Value.ownBlock]at z) ad.out
 have E:=D H;have Q:=D (bT.out)
 exact ZeI
end
end Go.Proofs.YtbgbeddbfaopgaaGreatDoor
namespace Go.Lk
def ZeK (s:Zf):Zf×Zad:=if 64≤s.groups.length then(s,Yy 10)else({s with groups:=s.groups++[⟨[],false⟩],made:=s.groups.length+1},⟨0,s.groups.length+1,0,[]⟩)
end Go.Lk
namespace Go.Proofs.YtbgbeddbfaopgaaGreatDoor
open Go.RowKit Go.Lk
section
variable {w:World} {b:Nat} {P:YI} {s:Zf} {va vp vl:Value} {F:List Nat}
theorem ZkD (h:Zh w b P none s va vp vl F) (hfit:ZW s n m):
  Calls Tryz.prog 35 #[.pointer (some ⟨b,0,none⟩)] w (Znk b P (ZeK s).1 (ZeK s).2 va w F):=by
 obtain⟨R,l⟩:=Je (ZeK s)
 rw[←l]
 obtain⟨W0,j⟩:=Je (w.alloc (.cells #[.int .i64 0, .int .i64 0, .int .i64 0, .slice none 0 0] 39))
 have r:=Ja j
 obtain⟨L,c⟩:=Je w.heap.size
 have Z:ZaV W0 L F:=⟨by rw[j,c];exact Za _,fun hm=>by have:=h.lt L hm;omega⟩
 have h0:=h.upd0 r
 have K:=D Z;have S:=D h0
 clear Z h0;change Hid _ at j r c
 have ae:=Jx 12 S.blk.1
 obtain⟨gl,G,x,hg,Y,M⟩:=S.groups
 have H:gl.length=s.groups.length:=by rw[←x,Xb]
 obtain⟨N,d⟩:=Je s.groups.length
 have ah:=D d
 have ag:N≤64:=by rw[d];exact hfit.gl
 by_cases E:64≤s.groups.length
 ·have J:=D (show R=(s,Yy 10)by rw[l];unfold ZeK;exact if_pos E)
  have V:=D (Zhm hg (by omega) (by omega))
  clear l x hg Y M H d E h hfit
  go_enter Tryz.func35,Tryz.ntmps35
  go_upto_region 1 with fail
  rw[←j.out,←c.out]
  go_wp2_with fail
  refine V.out.mono ?_
  rintro e W ⟨rfl,hW⟩
  rw[hW]
  clear hW W
  obtain⟨we,a⟩:=Je (W0.setRow L (Z7 (Yy 10) (.slice none 0 0)).toArray)
  have i:=ZaA _ S ((Zi.refl w F).upd0 r) (K.out) a (ZaB _) (fun k X=>by simp[Value.ownBlock]at X) (by rw[c.out];exact Xi _)
  have g:=D i;have O:=D (K.out)
  have I:=D (YH (Yy 10) (.slice none 0 0) rfl)
  clear i;change Hid _ at a
  go_wp2_with(first|(refine Jo (Z7 (Yy 10) (.slice none 0 0)).toArray O.blk Yf I ?_;rw[←a.out]))
  refine bodyPost_ret (v:= .agg (Z7 (Yy 10) (.slice none 0 0)).toArray) (Zs _ Tryz.results35 (b:=L) (o:=0) rfl Yf (Zb.of_block g.out.1)) rfl ?_
  rw[J.out]
  exact g.out.2
 ·have J:=D (show R=({s with groups:=s.groups++[⟨[],false⟩],made:=(N:Int)+1},⟨0,(N:Int)+1,0,[]⟩)by rw[l,d];unfold ZeK;exact if_neg E)
  have q:=Zmu hg (by omega)
  rw[H,←d]at q
  have V:=D q
  have af:=D x;have ad:=D M
  clear l x hg Y M H d E h hfit q
  go_enter Tryz.func35,Tryz.ntmps35
  go_upto_region 1 with fail
  rw[←j.out,←c.out]
  go_wp2_with fail
  refine V.out.mono ?_
  rintro e C ⟨rfl,G2,aa,ac⟩
  obtain⟨F2,z,Q⟩:=ad.out C _ G2 aa ac
  rw[Xs,af.out]at z
  obtain⟨y,_⟩:=z.blk
  have aj:=Jx 16 y
  have ai:C.frozen? ⟨b,16,none⟩=false:=Zk y
  obtain⟨w3,p⟩:=Je (C.setCell ⟨b,16,none⟩ (.int .i64 ((N:Int)+1)))
  obtain⟨h3,T⟩:=z.main (w1:=w3) (s':={s with groups:=s.groups++[⟨[],false⟩],made:=(N:Int)+1}) (by rw[p];exact(Zg.refl [b] C).setCell (.inr (by simp)) _) (by rw[p,Ze y];rfl) (fun _ _ _=>rfl) rfl rfl
  have H3:=D h3;have G3:=D (((Zi.refl w F).upd0 r).trans (Q.trans T));have ab:=D ((K.step Q).step T)
  clear z Q y h3 T aa ac ae;change Hid _ at p
  go_upto_region 4 with fail
  rw[←p.out]
  obtain⟨we,a⟩:=Je (w3.setRow L (Z7 (⟨0,(N:Int)+1,0,[]⟩:Zad) (.slice none 0 0)).toArray)
  have i:=ZaA _ H3 (G3.out) (ab.out) a (ZaB _) (fun k X=>by simp[Value.ownBlock]at X) (by rw[c.out];exact Xi _)
  have g:=D i;have O:=D (ab.out)
  have I:=D (YH (⟨0,(N:Int)+1,0,[]⟩:Zad) (.slice none 0 0) rfl)
  clear i;change Hid _ at a
  go_wp2_with(first|(refine Jo (Z7 (⟨0,(N:Int)+1,0,[]⟩:Zad) (.slice none 0 0)).toArray O.blk Yf I ?_;rw[←a.out]))
  refine bodyPost_ret (v:= .agg (Z7 (⟨0,(N:Int)+1,0,[]⟩:Zad) (.slice none 0 0)).toArray) (Zs _ Tryz.results35 (b:=L) (o:=0) rfl Yf (Zb.of_block g.out.1)) rfl ?_
  rw[J.out]
  exact g.out.2
end
end Go.Proofs.YtbgbeddbfaopgaaGreatDoor
namespace Go.Lk
def wI (shut:List Bs) (i:ZQ):Nat:=if shut.contains i.key then 0 else if i.pre=0 then 2 else 1
def wQ (q:List ZQ) (shut:List Bs):Nat:=(q.map (wI shut)).sum
theorem ZrJ (shut:List Bs) (i:ZQ):wI shut i≤2:=by
 unfold wI
 split
 ·omega
 ·split<;>omega
theorem ZrM (q:List ZQ) (shut:List Bs):wQ q shut≤2*q.length:=by
 unfold wQ
 induction q with
 |nil=>simp
 |cons i q ih=>simp only[List.map_cons,List.sum_cons,List.length_cons];have:=ZrJ shut i;omega
theorem ZeJ {now aging:Nat} {shut:List Bs} (h:Zaj q now aging shut=some i):shut.contains i.key=false:=by
 have key:∀(q:List ZQ) (b:Option ZQ),(∀x,b=some x→shut.contains x.key=false)→∀x,q.foldl (fun e i=>if shut.contains i.key then e else match e with
   |none=>some i
   |some x=>if Zg2 i x now aging then some i else e) b=some x→shut.contains x.key=false:=by
  intro q
  induction q with
  |nil=>intro b d x hx;exact d x hx
  |cons a q ih=>
   intro b d x hx
   rw[List.foldl_cons]at hx
   refine ih _ ?_ x hx
   intro y c
   cases hc:shut.contains a.key with
   |true=>rw[hc]at c;exact d y c
   |false=>
    rw[hc]at c
    simp only[Bool.false_eq_true,if_false]at c
    cases b with
    |none=>simp only[Option.some.injEq]at c;rw[←c];exact hc
    |some z=>
     dsimp only at c
     split at c
     ·simp only[Option.some.injEq]at c;rw[←c];exact hc
     ·exact d y c
 unfold Zaj at h
 exact key q none (fun x hx=>by cases hx) i h
theorem ZpJ {shut:List Bs} {i:ZQ} (h:shut.contains i.key=false):1≤wI shut i:=by unfold wI;rw[h];simp only[Bool.false_eq_true,if_false];split<;>omega
theorem Znj (shut:List Bs) (k:Bs) (i:ZQ):wI (shut++[k]) i≤wI shut i:=by
 unfold wI
 cases h:shut.contains i.key with
 |true=>
  have:(shut++[k]).contains i.key=true:=by rw[List.contains_iff_mem]at h⊢;exact List.mem_append_left _ h
  rw[this];simp
 |false=>
  simp only[Bool.false_eq_true,if_false]
  split
  ·omega
  ·exact Xi _
theorem Zq5 {q:List ZQ} {shut:List Bs} {i:ZQ} (hi:i∈q) (h:shut.contains i.key=false):wQ q (shut++[i.key])<wQ q shut:=by
 unfold wQ
 induction q with
 |nil=>cases hi
 |cons a q ih=>
  simp only[List.map_cons,List.sum_cons]
  have c:∀l:List ZQ,(l.map (wI (shut++[i.key]))).sum≤(l.map (wI shut)).sum:=by
   intro l
   induction l with
   |nil=>exact Xi _
   |cons b l ih=>simp only[List.map_cons,List.sum_cons];have:=Znj shut i.key b;omega
  rcases List.mem_cons.1 hi with rfl|hi
  ·have e:wI (shut++[i.key]) i=0:=by
    unfold wI
    have:(shut++[i.key]).contains i.key=true:=by rw[List.contains_iff_mem];simp
    rw[this];rfl
   have d:=ZpJ h
   have f:=c q
   omega
  ·have e:=ih hi
   have d:=Znj shut i.key a
   omega
theorem Zpt (q:List ZQ) (shut:List Bs) (p:ZQ→Bool):wQ (q.filter p) shut≤wQ q shut:=by
 unfold wQ
 induction q with
 |nil=>exact Xi _
 |cons a q ih=>
  rw[List.filter_cons]
  split
  ·simp only[List.map_cons,List.sum_cons];omega
  ·simp only[List.map_cons,List.sum_cons];omega
theorem Zno {q:List ZQ} (hn:(q.map (·.id)).Nodup) {i:ZQ} (hi:i∈q) (shut:List Bs):wQ (dropQ q i.id) shut+wI shut i≤wQ q shut:=by
 rw[ZeG hn]
 clear hn
 induction q with
 |nil=>cases hi
 |cons a q ih=>
  rw[List.filter_cons]
  rcases List.mem_cons.1 hi with rfl|hi
  ·simp only[bne_self_eq_false,Bool.false_eq_true,if_false]
   have:=Zpt q shut (fun x=>x.id !=i.id)
   show wQ _ shut+wI shut i≤wI shut i+wQ q shut
   omega
  ·have b:=ih hi
   split
   ·show wI shut a+wQ _ shut+wI shut i≤wI shut a+wQ q shut
    omega
   ·show wQ _ shut+wI shut i≤wI shut a+wQ q shut
    omega
theorem ZrA (q:List ZQ) (x:ZQ) (shut:List Bs):wQ (putQ q x) shut≤wQ q shut+wI shut x:=by
 unfold putQ
 split
 ·omega
 split
 ·omega
 split
 ·omega
 ·unfold wQ;rw[Xs,List.sum_append];simp
theorem ZiT (s:Zf) (i:ZQ):(departS s i).queue=s.queue∧(departS s i).all.length=s.all.length∧(departS s i).now=s.now∧(departS s i).conf=s.conf:=by
 unfold departS
 dsimp only
 split
 ·exact⟨rfl,rfl,rfl,rfl⟩
 ·exact⟨rfl,by show(s.all.modify _ _).length=_;rw[List.length_modify],rfl,rfl⟩
theorem Zks {s:Zf} (h0:0≤s.slast) (f:ZE) (i:ZQ) (shut:List Bs):wQ (holdS s f i).queue shut≤wQ s.queue shut+1:=by
 have b:(Zat s (Zb1 f.req) f.id).1.queue=s.queue∧((Zat s (Zb1 f.req) f.id).2.2=true→(Zat s (Zb1 f.req) f.id).2.1≠0):=by
  unfold Zat
  split
  ·exact⟨rfl,fun e=>by cases e⟩
  ·split
   ·split
    ·exact⟨rfl,fun e=>by cases e⟩
    ·exact⟨rfl,fun e=>by cases e⟩
   ·exact⟨rfl,fun _=>by dsimp only;omega⟩
 unfold holdS
 generalize Zat s (Zb1 f.req) f.id=j at b⊢
 obtain⟨a,c⟩:=b
 dsimp only
 split
 ·rename_i g
  have d:=ZrA j.1.queue {i with pre:=j.2.1,since:=j.1.now} shut
  rw[a]at d
  have h:wI shut {i with pre:=j.2.1,since:=j.1.now}≤1:=by
   unfold wI
   split
   ·omega
   ·rw[if_neg (c g)];exact Xi _
  show wQ (putQ j.1.queue {i with pre:=j.2.1,since:=j.1.now}) shut≤_
  rw[a];omega
 ·show wQ j.1.queue shut≤_
  rw[a];omega
structure ZdE (n m T g:Nat) (r0:Zf×Int) (sc:Zf) (shut:List Bs) (c:Int):Prop where
 fit:ZW sc (n+2*(T-g)) m
 safe:Safe sc
 res:r0=stepF g sc shut c
 fuel:wQ sc.queue shut<g
 top:g≤T
 c0:0≤c
 ct:c+g≤T
 sl:shut.length+g≤T
theorem ZdE.none {r0:Zf×Int} {sc:Zf} {shut:List Bs} (h:ZdE n m T g r0 sc shut c) (hf:Zaj sc.queue sc.now sc.conf.aging shut=none):r0=(sc,c):=by
 obtain⟨g,rfl⟩:∃k,g=k+1:=⟨g-1,by have:=h.fuel;omega⟩
 rw[h.res];unfold stepF;rw[hf]
theorem ZdE.shut {r0:Zf×Int} {sc:Zf} {shut:List Bs} (h:ZdE n m T g r0 sc shut c) (hf:Zaj sc.queue sc.now sc.conf.aging shut=some i) (hc:Zf2 sc.pool i.key=false):∃g',g=g'+1∧ZdE n m T g' r0 sc (shut++[i.key]) c:=by
 obtain⟨g,rfl⟩:∃k,g=k+1:=⟨g-1,by have:=h.fuel;omega⟩
 have a:=h.fuel
 have b:=Zq5 (Y4 hf) (ZeJ hf)
 have t:=h.top
 have e:=h.ct
 have d:=h.sl
 refine⟨g,rfl,h.fit.mono (by omega) (Xi _),h.safe,?_,by omega,by omega,h.c0,by omega,by rw[Xd,List.length_singleton];omega⟩
 rw[h.res];conv=>lhs;unfold stepF
 rw[hf];simp[hc]
theorem Safe.dropS (h:Safe s) (id:Int):Safe {s with queue:=dropQ s.queue id}:=⟨h.1,h.2.dropQ _⟩
theorem ZdE.gone {r0:Zf×Int} {sc:Zf} {shut:List Bs} (h:ZdE n m T g r0 sc shut c) (hf:Zaj sc.queue sc.now sc.conf.aging shut=some i) (hc:Zf2 sc.pool i.key=true) (hff:Zac {sc with queue:=dropQ sc.queue i.id} i.id=some f) (hw:¬(i.pre=0∧ZgK {sc with queue:=dropQ sc.queue i.id} f=true)):∃g',g=g'+1∧ZdE n m T g' r0 (departS {sc with queue:=dropQ sc.queue i.id} i) shut (c+1):=by
 obtain⟨g,rfl⟩:∃k,g=k+1:=⟨g-1,by have:=h.fuel;omega⟩
 have a:=h.fuel
 have b:=Zno h.safe.2.qn (Y4 hf) shut
 have j:=ZpJ (ZeJ hf)
 have t:=h.top
 have l:=h.ct
 have d:=h.sl
 have e:=h.c0
 refine⟨g,rfl,((h.fit.dropQ i.id).depart i).mono (by omega) (Xi _),Safe.departS (h.safe.dropS _) i (h.safe.dropped (Y4 hf)),?_,by rw[(ZiT _ i).1];dsimp only;omega,by omega,by omega,by omega,by omega⟩
 rw[h.res];conv=>lhs;unfold stepF
 rw[hf];simp only[hc,Bool.not_true,Bool.false_eq_true,if_false,hff,if_neg hw]
theorem ZdE.held {r0:Zf×Int} {sc:Zf} {shut:List Bs} (h:ZdE n m T g r0 sc shut c) (hf:Zaj sc.queue sc.now sc.conf.aging shut=some i) (hc:Zf2 sc.pool i.key=true) (hff:Zac {sc with queue:=dropQ sc.queue i.id} i.id=some f) (hw:i.pre=0∧ZgK {sc with queue:=dropQ sc.queue i.id} f=true):∃g',g=g'+1∧ZdE n m T g' r0 (holdS {sc with queue:=dropQ sc.queue i.id} f i) shut c:=by
 obtain⟨g,rfl⟩:∃k,g=k+1:=⟨g-1,by have:=h.fuel;omega⟩
 have a:=h.fuel
 have b:=Zno h.safe.2.qn (Y4 hf) shut
 have l:wI shut i=2:=by unfold wI;rw[ZeJ hf];simp[hw.1]
 have e:=Zks (s:={sc with queue:=dropQ sc.queue i.id}) h.safe.2.sl0 f i shut
 dsimp only at e
 have t:=h.top
 have o:=h.ct
 have j:=h.sl
 have d:=ZgU (h.safe.dropS i.id).1 hff
 have hv:=Za6 hff
 refine⟨g,rfl,((h.fit.dropQ i.id).hold f i (h.fit.qs i (Y4 hf))).mono (by omega) (Xi _),Safe.holdS (h.safe.dropS _) f i (by rw[d];exact⟨hv.1,hv.2.1⟩) d.symm,?_,by omega,by omega,h.c0,by omega,by omega⟩
 rw[h.res];conv=>lhs;unfold stepF
 rw[hf];simp only[hc,Bool.not_true,Bool.false_eq_true,if_false,hff,if_pos hw]
theorem ZiB {p:Nat→Prop} (h:∃n,p n):∃n,p n∧∀k,p k→n≤k:=by
 obtain⟨n,d⟩:=h
 induction n using Nat.strongRecOn with
 |_ n ih=>
  by_cases c:∃k,k<n∧p k
  ·obtain⟨k,a,b⟩:=c;exact ih k a b
  ·exact⟨n,d,fun k b=>Nat.le_of_not_lt fun a=>c ⟨k,a,b⟩⟩
open Classical in
noncomputable def ZiZ (p:Nat→Prop):Nat:=if h:∃n,p n then(ZiB h).choose else 0
theorem ZlX {p:Nat→Prop} (h:∃n,p n):p (ZiZ p):=by unfold ZiZ;rw[dif_pos h];exact(ZiB h).choose_spec.1
theorem ZfW {p:Nat→Prop} (h:p k):ZiZ p≤k:=by unfold ZiZ;rw[dif_pos ⟨k,h⟩];exact(ZiB ⟨k,h⟩).choose_spec.2 k h
end Go.Lk
namespace Go.Proofs.YtbgbeddbfaopgaaGreatDoor
open Go.RowKit Go.Lk
structure ZdN (b:Nat) (P:YI) (va:Value) (w:World) (F:List Nat) (wr:World) (n m T g:Nat) (r0:Zf×Int) (sc:Zf) (shut:List Bs) (c:Int) (vs:Value) (q:List Nat) (vp vl:Value) (F1 M:List Nat):Prop where
 at_:Zh wr b {P with qps:=q} none sc va vp vl F1
 grows:Zi w wr F F1
 r:ZdE n m T g r0 sc shut c
 env:Env wr
 sl:Ye vs shut wr M
 ap:∀k∈F1,k∉M
 mn:∀k∈M,w.heap.size≤k
def Zqa (b:Nat) (P:YI) (va:Value) (w:World) (F:List Nat) (n m T:Nat) (r0:Zf×Int) (s3 s4:Value) (wr:World) (g:Nat):Prop:=
 ∃(sc:Zf) (shut:List Bs) (c:Int) (q:List Nat) (vp1 vl1:Value) (F1 M:List Nat),s3= .int .i64 c∧Hid (ZdN b P va w F wr n m T g r0 sc shut c s4 q vp1 vl1 F1 M)
noncomputable def Zru (b:Nat) (P:YI) (va:Value) (w:World) (F:List Nat) (n m T:Nat) (r0:Zf×Int) (s3 s4:Value) (wr:World):Nat:=ZiZ (Zqa b P va w F n m T r0 s3 s4 wr)
section
variable {w:World} {b:Nat} {P:YI} {s:Zf} {va vp vl:Value} {F:List Nat}
theorem ZdN.upd0 {wr:World} {r0:Zf×Int} {sc:Zf} {shut:List Bs} {vs:Value} (h:ZdN b P va w F wr n m T g r0 sc shut c vs q vp vl F1 M) (hu:Zg [] wr w1):ZdN b P va w F w1 n m T g r0 sc shut c vs q vp vl F1 M:=
 ⟨h.at_.upd0 hu,h.grows.upd0 hu,h.r,h.env.upd0 hu,(Zm _ _).upd h.sl hu (by simp),h.ap,h.mn⟩
theorem ZdN.next {wr:World} {r0:Zf×Int} {sc sc':Zf} {shut:List Bs} {vs:Value} {q q':List Nat} {vp vl vp' vl':Value} (h:ZdN b P va w F wr n m T g r0 sc shut c vs q vp vl F1 M)
  (h1:Zh w1 b {P with qps:=q'} none sc' va vp' vl' F2) (g1:Zi wr w1 F1 F2) (hr:ZdE n m T g' r0 sc' shut c'):ZdN b P va w F w1 n m T g' r0 sc' shut c' vs q' vp' vl' F2 M:=by
 obtain⟨d,a⟩:=YG.frame (Zm _ _) h.sl h.ap g1
 exact⟨h1,h.grows.trans g1,hr,Zds h.at_ h.env g1,d,a,h.mn⟩
theorem ZfZ {P:Prop}(h:P:=by
 refine JU ?_
 refine Jo #[.int .i64 d.id, .int .i64 d.cls, .int .u64 d.since, .string ⟨d.key.toArray⟩, .int .i64 d.pre] an.out Zcn bo ?_
 obtain⟨X,ah⟩:=Je (w3.setRow L #[.int .i64 d.id, .int .i64 d.cls, .int .u64 d.since, .string ⟨d.key.toArray⟩, .int .i64 d.pre])
 rw[←ah]
 have aK:Zg [] wr X:=aV.trans (show Zg [L] w3 X by rw[ah];exact(Zg.refl _ _).setRow (.inr (by simp)) _) (fun k o=> .inl (by rw[Jm o];exact HL))
 have aF:Own X L #[.int .i64 d.id, .int .i64 d.cls, .int .u64 d.since, .string ⟨d.key.toArray⟩, .int .i64 d.pre] 171 F1:=⟨by rw[ah];exact setRow_heap _ _ _ _ _ _ an,fun hm=>by have l:=aX.out L hm;have h2:=HL.out;omega⟩
 have j:=D (ab.upd0 aK)
 have h4:=j.at_
 have aJ:=Jx 9 h4.blk.1
 have aG:=Jx 7 h4.blk.1
 have au:=D aF
 clear ah aK aF h4
 refine⟨_,fun W C=>C,⟨aJ,aG⟩,?_⟩
 repeat first|refine JN ?_|refine JF ?_
 refine Zet ?_
 clear Z c7 aJ aG aZ bh aC aX an aV aS ak
 cases fo with
 |none=>
  have e1:fs=false:=aT.out
  subst e1
  have HE:=D (j.r.none K.symm)
  go_wp2_with fail
  go_ret
  rw[HE.out]
  exact⟨rfl,q,aY,a0,F1,j.at_,j.grows⟩
 |some x1=>
  have e1:fs=true:=aT.out
  subst e1
  obtain rfl:d=x1:=a7.out
  go_upto_region 6 with fail
  obtain⟨w5,ag⟩:=Je X.drew
  have aj:=Jd ag
  have h5:=j.at_.upd0 aj
  have c8:=Jx 8 h5.blk.1
  have k3:w5.cell? ⟨L,3,none⟩=some (.string ⟨d.key.toArray⟩):=(au.upd0 aj).cell rfl
  obtain⟨GP,aH,_,_⟩:=h5.pool
  have bf:=D aH
  clear h5 aH;change Hid _ at ag aj
  refine Jr [0,4,8,12,16,20,26,28] (fun W=>W.cell? ⟨b,8,none⟩=some (.pointer (some ⟨P.pool,0,none⟩))∧W.cell? ⟨L,3,none⟩=some (.string ⟨d.key.toArray⟩)) (by rw[ag.out]at c8 k3;exact⟨c8,k3⟩) ?_
  repeat first|refine Jn ?_|refine Jf ?_|refine Ju ?_
  refine JL ?_
  simp only[Xu]
  rw[←ag.out]
  go_wp2_with fail
  refine(Zln bf d.key).mono ?_
  rintro e Y ⟨rfl,aN⟩
  have am:=Jt aj aN
  clear aN c8 k3
  go_wp2_with fail
  refine⟨fun _=>True,trivial,?_⟩
  repeat first|refine Jn ?_|refine Jf ?_|refine Ju ?_
  refine ZL ?_
  cases hcan:Zf2 y.pool d.key with
  |false=>
   obtain⟨x,E,H⟩:=j.r.shut K.symm hcan
   have Q:=D E;have R:=D H
   have bk:=D (j.upd0 am)
   have bg:Y.cell? ⟨L,3,none⟩=some (.string ⟨d.key.toArray⟩):=(au.upd0 am).cell rfl
   obtain⟨V,N⟩:=Je (Y.alloc (.cells #[.string ⟨d.key.toArray⟩] 9))
   have S:=Ja N
   have a5:=D (show Zb V Y.heap.size 0 (Zbb d.key)by rw[N];exact Zb.of_block (w:=Y.alloc _) (Za _))
   have z:=D (bk.upd0 S)
   have a4:=D (show Zj 9 1 (.slice A shut.length ca) (shut.map Zbb) V M from z.sl)
   clear E H;change Hid _ at N S
   go_wp2_with(rw[←N.out];refine Zn V rfl (.tmp 33) (.tmp 36) 169 rfl 9 Tryz.underlying169 ZbH rfl (by omega) (by omega) (.slice A shut.length ca) (shut.map Zbb) M rfl a4 Y.heap.size 1 (Zbb d.key) rfl a5 rfl (Zct d.key) (by rw[Xb];have:=bn.out;omega) ?_;intro v' w8 M' aM ai av)
   have I:=D (show ZdN b P va w F w8 n m T x r0 y (shut++[d.key]) c v' q aY a0 F1 M' from
    ⟨z.at_.upd ai (fun k o hm=>z.ap k o hm),⟨z.grows.upd.trans ai (fun k o=> .inl (z.mn k o)),z.grows.new⟩,R.out,z.env.upd ai (fun k o=>by have l:=z.mn k o;have h2:=bp.out;unfold Znv;omega),by unfold Ye;rw[Xs];exact aM,fun k o hm=>by
     rcases av k hm with l|l
     ·
      exact z.ap k o l
     ·
      have:=z.at_.lt k o;omega,fun k o=>by
     rcases av k o with l|l
     ·
      exact z.mn k l
     ·
      have h2:=z.grows.upd.size;omega⟩)
   clear aM ai av bg
   go_wp2_with fail
   refine⟨⟨x,_,_,c,_,_,_,_,_,rfl,I⟩,?_⟩
   have l:=Q.out
   refine Nat.lt_of_le_of_lt (ZfW (k:=x) ⟨_,_,c,_,_,_,_,_,rfl,I⟩) (Nat.lt_of_lt_of_eq (show x<GM by omega) af)
  |true=>
   go_upto_region 8 with fail
   obtain⟨V,N⟩:=Je Y.drew
   have S:Zg [] X V:=by rw[N];exact am.drew
   have h7:=j.at_.upd0 S
   have ar:=au.upd0 S
   have Z:=Jx 9 h7.blk.1
   have k0:V.cell? ⟨L,0,none⟩=some (.int .i64 d.id):=ar.cell rfl
   obtain⟨GQ,aw,_,aP⟩:=h7.queue
   have bd:=D aw;have bi:=D aP;have a9:=D ar
   clear h7 ar aw aP;change Hid _ at N S
   refine Jr [0,4,8,12,16,20,26] (fun W=>W.cell? ⟨b,9,none⟩=some (.pointer (some ⟨P.queue,0,none⟩))∧W.cell? ⟨L,0,none⟩=some (.int .i64 d.id)) (by rw[N.out]at Z k0;exact⟨Z,k0⟩) ?_
   repeat first|refine Jn ?_|refine Jf ?_|refine Ju ?_
   refine JL ?_
   simp only[Xu]
   rw[←N.out]
   go_wp2_with fail
   refine(ZfE bd (Xj j.r.fit.q (by omega)) d.id).mono ?_
   rintro e w8 ⟨rfl,G8,aQ,aR⟩
   obtain⟨F8,h8,g8⟩:=bi.out w8 _ _ aQ aR
   have hv:=j.r.safe.2.qi d (Y4 K.symm)
   obtain⟨k,o⟩:∃k:Nat,d.id=(k:Int)+1:=⟨(d.id-1).toNat,by omega⟩
   obtain⟨f,hf⟩:∃f,y.all[k]? =some f:=⟨_,Xa (by omega)⟩
   have ao:=D (show Zac {y with queue:=dropQ y.queue d.id} d.id=some f by rw[o];exact ZcM (s:={y with queue:=dropQ y.queue ((k:Int)+1)}) hf)
   have aO:f.id=(k:Int)+1:=j.r.safe.1 k f hf
   obtain⟨p,hp⟩:=h8.fp (s:={y with queue:=dropQ y.queue d.id}) hf
   have H8:=D h8;have aq:=D ((show Zi X V F1 F1 from⟨S.weaken (by simp),fun k o=> .inl o⟩).trans g8);have ae:=D (a9.step g8);have HK:=D o;have HF:=D hf;have HP:=D hp
   have bc:w8.cell? ⟨L,0,none⟩=some (.int .i64 d.id):=ae.cell rfl
   have bl:w8.cell? ⟨L,4,none⟩=some (.int .i64 d.pre):=ae.cell rfl
   have aU:=D (Zds j.at_ j.env aq)
   clear h8 g8 aQ aR hv o hf hp Z k0;change Hid _ at aO
   go_wp2_with fail
   refine Jz ?_
   go_wp2_with fail
   refine(ZaF H8 (by have:=j.r.fit.all;have h2:=ay.out;dsimp only;omega) HP _ HK).mono ?_
   rintro e W ⟨rfl,C⟩
   rw[C]
   clear C W
   by_cases h0:d.pre=0
   ·
    have aD:=D (show({d with pre:=0}:ZQ)=d by obtain⟨xi,xc,xs,xk,xp⟩:=d;dsimp only at h0;subst h0;rfl)
    go_wp2_with fail
    refine(ZlA H8 (j.r.fit.dropQ d.id) aU HP HF).mono ?_
    rintro e w9 ⟨rfl,ac⟩
    have H9:=D (H8.upd0 ac);have G9:=D (aq.upd0 ac);have aL:=D (ae.upd0 ac);have be:=D (aU.upd0 ac)
    clear ac bc bl
    cases hw:ZgK {y with queue:=dropQ y.queue d.id} f with
    |true=>
     have al:=D (Zb.of_block aL.blk)
     obtain⟨x,E,H⟩:=j.r.held K.symm hcan ao ⟨h0,hw⟩
     have Q:=D E;have R:=D H
     clear E H hw
     go_wp2_with(refine Jl al Zcn ?_)
     refine(Zmv H9 (j.r.fit.dropQ d.id) be (by have l:=az.out;have h2:=aa.out;omega) HP HF aO {d with pre:=0}).mono ?_
     rintro e aI ⟨rfl,bu,br,aE,aW,J,O⟩
     rw[aD.out]at J
     have I:=D (j.next J (G9.trans O) R)
     clear J O
     go_wp2_with fail
     refine⟨⟨x,_,shut,c,_,_,_,_,_,rfl,I⟩,?_⟩
     have l:=Q.out
     refine Nat.lt_of_le_of_lt (ZfW (k:=x) ⟨_,shut,c,_,_,_,_,_,rfl,I⟩) (Nat.lt_of_lt_of_eq (show x<GM by omega) af)
    |false=>
     have al:=D (Zb.of_block aL.blk)
     obtain⟨x,E,H⟩:=j.r.gone K.symm hcan ao (by intro hh;rw[hw]at hh;exact absurd hh.2 (by simp))
     have Q:=D E;have R:=D H
     clear E H hw
     go_wp2_with(refine Jl al Zcn ?_)
     refine(ZfP H9 (j.r.fit.dropQ d.id) (j.r.safe.dropS d.id) (by have l:=az.out;have h2:=aa.out;omega) ay {d with pre:=0} (fun hp=>absurd hp (by dsimp only;omega)) (by have l:=j.r.safe.2.qi d (Y4 K.symm);exact⟨l.1,l.2.1⟩)).mono ?_
     rintro e aI ⟨rfl,aE,aW,J,O⟩
     rw[aD.out]at J
     have I:=D (j.next J (G9.trans O) R)
     have a6:0≤c∧c≤1000:=by have l:=j.r.c0;have h2:=j.r.ct;have h3:=aa.out;omega
     clear J O
     go_wp2_with fail
     refine⟨⟨x,_,shut,c+1,_,_,_,_,_,by go_num,I⟩,?_⟩
     have l:=Q.out
     refine Nat.lt_of_le_of_lt (ZfW (k:=x) ⟨_,shut,c+1,_,_,_,_,_,by go_num,I⟩) (Nat.lt_of_lt_of_eq (show x<GM by omega) af)
   ·
    
    have a3:=D (Zb.of_block ae.blk)
    obtain⟨x,E,H⟩:=j.r.gone K.symm hcan ao (by intro hh;exact h0 hh.1)
    have Q:=D E;have R:=D H
    clear E H
    go_wp2_with(refine Jl a3 Zcn ?_)
    refine(ZfP H8 (j.r.fit.dropQ d.id) (j.r.safe.dropS d.id) (by have l:=az.out;have h2:=aa.out;omega) ay d (fun hp=>by
     obtain⟨p,bm,a8,_⟩:=(j.r.safe.2.qi d (Y4 K.symm)).2.2 (by omega)
     exact⟨p,bm,a8⟩) (by have l:=j.r.safe.2.qi d (Y4 K.symm);exact⟨l.1,l.2.1⟩)).mono ?_
    rintro e aI ⟨rfl,aE,aW,J,O⟩
    have I:=D (j.next J (aq.trans O) R)
    have a6:0≤c∧c≤1000:=by have l:=j.r.c0;have h2:=j.r.ct;have h3:=aa.out;omega
    clear J O
    go_wp2_with fail
    refine⟨⟨x,_,shut,c+1,_,_,_,_,_,by go_num,I⟩,?_⟩
    have l:=Q.out
    refine Nat.lt_of_le_of_lt (ZfW (k:=x) ⟨_,shut,c+1,_,_,_,_,_,by go_num,I⟩) (Nat.lt_of_lt_of_eq (show x<GM by omega) af)):P:=h
theorem Zf4 {P:Prop}(h:P:=by
 refine⟨_,fun W C=>C,a1.out,?_⟩
 refine JU ?_
 go_wp2_with fail
 refine(aZ.out _ aA).mono ?_
 rintro e w3 ⟨rfl,ax⟩
 have aV:=Jt aA ax
 have ba:=D (aC.out _ (a2.trans ax (by simp)))
 have an:=D ((ax.block L (Jg bb) (by simp)).trans bb)
 clear ax
 go_wp2_with fail
 refine⟨_,fun W C=>C,ba.out,?_⟩
 repeat first|refine JN ?_|refine JF ?_
 exact ZfZ):P:=h
theorem Zm4 (h:Zh w b P none s va vp vl F) (hfit:ZW s n m) (hs:Lk.Safe s) (hE:Env w) (hn:n≤700000) (hm:m≤900000):
  Calls Tryz.prog 43 #[.pointer (some ⟨b,0,none⟩)] w (ZcD b P (stepS s).1 (stepS s).2 va w F):=by
 obtain⟨r0,bq⟩:=Je (stepS s)
 rw[←bq]
 obtain⟨T,hT⟩:=Je (3*s.queue.length+1)
 have hq:=hfit.q
 have aa:=D (show T≤1000 by omega)
 have az:=D hn
 have ay:=D hm
 have ab:=D (show ZdN b P va w F w n m T T r0 s [] 0 (.slice none 0 0) P.qps vp vl F []from⟨h,Zi.refl _ _,⟨hfit.mono (by omega) (Xi _),hs,by rw[bq,hT];rfl,by have:=ZrM s.queue [];omega,Xi _,Int.le_refl _,by omega,by simp⟩,hE,ZD _ _ _,by simp,by simp⟩)
 have bp:=D (show 2≤w.heap.size by have:=hE.size;omega)
 clear h hfit hs hE hn hm bq hT hq
 go_enter Tryz.func43,Tryz.ntmps43
 go_wp2_with fail
 go_loopw[3,4] (fun s3 s4 wr=>∃g,Zqa b P va w F n m T r0 s3 s4 wr g) (fun s3 s4 wr=>Zru b P va w F n m T r0 s3 s4 wr)
 case atStart=>exact⟨T,s,[],0,P.qps,vp,vl,F,[],rfl,ab⟩
 case round=>
  clear ab
  obtain⟨GM,af⟩:=Je (Zru b P va w F n m T r0 u3 u4 wr)
  have bv:=ZlX hrel
  have bs:GM=ZiZ (Zqa b P va w F n m T r0 u3 u4 wr):=af
  rw[←bs]at bv
  clear hrel bs
  obtain⟨y,shut,c,q,aY,a0,F1,M,rfl,ab⟩:=bv
  change Hid _ at af
  obtain⟨w1,aS⟩:=Je wr.drew
  have ak:=Jd aS
  have l:=ab.at_.upd0 ak
  have Z:=Jx 9 l.blk.1
  have c7:=Jx 7 l.blk.1
  have aC:=D (show∀(W:World),Zg [] w1 W→W.cell? ⟨b,9,none⟩=some (.pointer (some ⟨P.queue,0,none⟩))∧W.cell? ⟨b,7,none⟩=some (.pointer (some ⟨P.clock,0,none⟩))from fun W hu=>⟨Zc (i:=9) (l.upd0 hu).blk.1 rfl,Zc (i:=7) (l.upd0 hu).blk.1 rfl⟩)
  obtain⟨A,ca,rfl,bx,bw⟩:=ab.sl.strs
  obtain⟨fo,K⟩:=Je (Zaj y.queue y.now y.conf.aging shut)
  obtain⟨d,a7⟩:=Je (fo.getD Zbw)
  obtain⟨fs,aT⟩:=Je fo.isSome
  have aZ:=D (show∀W,Zg [] wr W→Calls Tryz.prog 80 #[.pointer (some ⟨P.queue,0,none⟩), .int .u64 y.now, .slice A shut.length ca] W (fun e w'=>e= .returned (.tuple #[.agg #[.int .i64 d.id, .int .i64 d.cls, .int .u64 d.since, .string ⟨d.key.toArray⟩, .int .i64 d.pre], .bool fs])∧Zg [] W w')from fun W hu=>by
   obtain⟨G,aw,_,_⟩:=(ab.at_.upd0 hu).queue
   have bB:=ab.r.fit.q
   have bt:=ab.r.fit.conf
   unfold Zak at bt
   simp only[Bool.and_eq_true,decide_eq_true_eq]at bt
   have bA:=ab.r.sl
   have bz:=aa.out
   have a:=ZkI aw (by omega) y.now A ca shut (bw.upd hu (by simp)) (by omega) ab.r.fit.now (by omega) ab.r.fit.qs
   rw[←K,←a7,←aT]at a
   exact a)
  have bh:=D (show∀W,Zg [] wr W→Calls Tryz.prog 32 #[.pointer (some ⟨P.clock,0,none⟩)] W (fun e w'=>e= .returned (.int .u64 y.now)∧w'=W)from fun W hu=>Za5 (ab.at_.upd0 hu).clock.1)
  have aX:=D ab.at_.lt
  have bo:=D (show(#[.int .i64 d.id, .int .i64 d.cls, .int .u64 d.since, .string ⟨d.key.toArray⟩, .int .i64 d.pre]:Array Value).all (·.oneCell')=true by rw[Xl,Xk];exact ZcR d)
  have bn:=D (show shut.length≤1000 by have l:=ab.r.sl;have h2:=aa.out;omega)
  clear l bx bw;change Hid _ at aS ak K a7 aT
  go_upto_region 3 with fail
  refine ZbL (.held 0 (.held 1 (.held 2 (.held 3 (.held 4 (.held 5 (.held 6 (.held 7 (.held 9 (.two 8 (.two 10 (.held 11 (.held 12 (.held 13 (.eff 14 (.eff 15 (.held 16 .nil)))))) 14 (.eff 10 (.held 11 (.held 12 (.held 13 (.eff 15 (.held 16 .nil))))))) 14 (.eff 8 (.eff 10 (.held 11 (.held 12 (.held 13 (.eff 15 (.held 16 .nil))))))))))))))))) (fun W=>W.cell? ⟨b,9,none⟩=some (.pointer (some ⟨P.queue,0,none⟩))∧W.cell? ⟨b,7,none⟩=some (.pointer (some ⟨P.clock,0,none⟩))) (by kernel_rfl) (by kernel_rfl) (fun c a w t v h=>by cases t<;>exact h) (by rw[aS.out]at Z c7;exact⟨Z,c7⟩) ?_
  repeat first|refine JN ?_|refine JF ?_
  apply ZdM
  case ho=>simp only[Xh,Xf,Xg];rfl
  case ho2=>simp only[Xh,Xf,Xg];rfl
  case h=>
   simp only[Xu]
   rw[←aS.out]
   go_wp2_with fail
   refine(bh.out _ ak).mono ?_
   rintro e W ⟨rfl,C⟩
   rw[C]
   clear C W
   go_wp2_with fail
   refine⟨_,fun W C=>C,⟨Z,c7⟩,?_⟩
   apply ZdM
   case ho=>simp only[Xh,Xf,Xg];rfl
   case ho2=>simp only[Xh,Xf,Xg];rfl
   case h=>
    go_wp2_with fail
    refine(aZ.out _ ak).mono ?_
    rintro e w2 ⟨rfl,ad⟩
    have aA:=Jt ak ad
    have a1:=D (aC.out _ ad)
    have a2:=D ad
    clear ad
    go_wp2_with fail
    refine⟨_,fun W C=>C,a1.out,?_⟩
    repeat first|refine JN ?_|refine JF ?_
    refine JU ?_
    obtain⟨w3,bj⟩:=Je (w2.alloc (.cells #[.int .i64 0, .int .i64 0, .int .u64 0, .string ⟨#[]⟩, .int .i64 0] 171))
    obtain⟨L,hL⟩:=Je w2.heap.size
    have an:=D (show w3.heap[L]? =some (.cells #[.int .i64 0, .int .i64 0, .int .u64 0, .string ⟨#[]⟩, .int .i64 0] 171 (0,0))by rw[bj,hL];exact Za _)
    have HL:=D (show wr.heap.size≤L by rw[hL];exact aA.size)
    have aV:=D (show Zg [] wr w3 by rw[bj];exact aA.alloc _)
    have ba:=D (aC.out w3 (by rw[bj];exact a2.alloc _))
    go_wp2_with fail
    rw[←bj,←hL]
    clear bj hL
    refine⟨_,fun W C=>C,ba.out,?_⟩
    exact ZfZ
   case h2=>
    obtain⟨w2,aB⟩:=Je (w1.alloc (.cells #[.int .i64 0, .int .i64 0, .int .u64 0, .string ⟨#[]⟩, .int .i64 0] 171))
    obtain⟨L,hL⟩:=Je w1.heap.size
    have bb:=D (show w2.heap[L]? =some (.cells #[.int .i64 0, .int .i64 0, .int .u64 0, .string ⟨#[]⟩, .int .i64 0] 171 (0,0))by rw[aB,hL];exact Za _)
    have HL:=D (show wr.heap.size≤L by rw[hL];exact ak.size)
    have ad:=Ja aB
    have aA:=Jt ak ad
    have a2:=D ad
    have a1:=D (aC.out w2 ad)
    clear ad
    go_wp2_with fail
    rw[←aB,←hL]
    clear aB hL
    exact Zf4
  case h2=>
   simp only[Xu]
   rw[←aS.out]
   obtain⟨w2,aB⟩:=Je (w1.alloc (.cells #[.int .i64 0, .int .i64 0, .int .u64 0, .string ⟨#[]⟩, .int .i64 0] 171))
   obtain⟨L,hL⟩:=Je w1.heap.size
   have bb:=D (show w2.heap[L]? =some (.cells #[.int .i64 0, .int .i64 0, .int .u64 0, .string ⟨#[]⟩, .int .i64 0] 171 (0,0))by rw[aB,hL];exact Za _)
   have HL:=D (show wr.heap.size≤L by rw[hL];exact ak.size)
   have ad:=Ja aB
   have aA:=Jt ak ad
   have a2:=D ad
   have a1:=D (aC.out w2 ad)
   clear ad
   go_wp2_with fail
   rw[←aB,←hL]
   clear aB hL
   refine⟨_,fun W C=>C,a1.out,?_⟩
   refine JU ?_
   go_wp2_with fail
   refine(bh.out _ aA).mono ?_
   rintro e W ⟨rfl,C⟩
   rw[C]
   clear C W
   go_wp2_with fail
   exact Zf4
end
theorem ZdI.of {e:Ending} (h:Znk b P s t va w F e w'):ZdI b P s t w F e w':=⟨P.fps,va,h⟩
theorem Zrg (h:Own w bx (Zbq a vi vh vb vr).toArray T F):Zb w bx 8 (Zv a.req vr):=fun j v hj=>by
 have hj10:j<10:=by have:=(Jk hj);simpa[Zv]using this
 refine Zc (i:=8+j) h.blk ?_
 rcases j with _|_|_|_|_|_|_|_|_|_|j<;>first|exact hj|omega
section
variable {w:World} {b:Nat} {P:YI} {s:Zf} {va vp vl:Value} {F:List Nat}
theorem Zp9 (h:Zh w b P none s va vp vl F) (hfit:ZW s n m) (hs:Lk.Safe s) (hE:Env w) (hn:n≤500000) (hm:m≤10000) (hac:0≤s.acts∧s.acts≤1000000) (a:ZbQ) (vi vh vb vr:Value) (hafit:Zcw a) (hop:a.op=1):
  Calls Tryz.prog 17 #[.pointer (some ⟨b,0,none⟩), .agg (Zbq a vi vh vb vr).toArray] w (ZdI b P (doS s a).1 (doS s a).2 w F):=by
 obtain⟨R,S⟩:=Je (doS s a)
 rw[←S]
 obtain⟨Q,j⟩:=Je (w.alloc (.cells (Zbq a vi vh vb vr).toArray 47))
 obtain⟨d,p⟩:=Je w.heap.size
 obtain⟨i,x⟩:=Je (Q.alloc (.cells #[.int .i64 0, .int .i64 0, .int .i64 0, .slice none 0 0] 39))
 obtain⟨L,C⟩:=Je Q.heap.size
 have ad:L=d+1:=by rw[C,j,p];simp
 have K:=Ja j
 have G:=Ja x
 have y:=K.trans G (by simp)
 have ae:w.heap.size≤L:=by rw[C];exact K.size
 have M:Q.heap[d]? =some (.cells (Zbq a vi vh vb vr).toArray 47 (0,0)):=by rw[j,p];exact Za _
 have J:Own i d (Zbq a vi vh vb vr).toArray 47 F:=⟨(G.block d (Jg M) (by simp)).trans M,fun hm=>by have:=h.lt d hm;omega⟩
 have ag:ZaV i L F:=⟨by rw[x,C];exact Za _,fun hm=>by have:=h.lt L hm;omega⟩
 have V:=h.upd0 y
 obtain⟨q,au⟩:=V.blk
 have ah:=Jx 20 q
 have ac:i.frozen? ⟨b,20,none⟩=false:=Zk q
 obtain⟨w1,r⟩:=Je (i.setCell ⟨b,20,none⟩ (.int .i64 (s.acts+1)))
 obtain⟨s1,c⟩:=Je (({s with acts:=s.acts+1}:Zf))
 obtain⟨h1,g⟩:=V.main (w1:=w1) (s':=s1) (by rw[r];exact(Zg.refl [b] i).setCell (.inr (by simp)) _) (by rw[r,Ze q,c];rfl) (fun _ _ _=>by rw[c];rfl) (by rw[c]) (by rw[c])
 have HR:=D (show R=doS s a from S)
 have ar:=D c
 have aj:=D (show ZW s1 n m by rw[c];exact{hfit with log:=hfit.log})
 have HS:=D (show Lk.Safe s1 by rw[c];exact hs)
 have aq:=D ae
 have aB:=D (J.step g);have af:=D (ag.step g);have H1:=D h1;have G1:=D (((Zi.refl w F).upd0 y).trans g);have aa:=D hac;have aA:=D hafit;have ak:=D hop
 have ax:=D (Zds h hE (((Zi.refl w F).upd0 y).trans g))
 have c0:w1.cell? ⟨d,0,none⟩=some (.int .i64 a.op):=(J.step g).cell rfl
 rw[hop]at c0
 clear S C K G y ae M J ag V q au c h1 g hfit hs hE hac hafit h hop;change Hid _ at ad j p x r
 go_enter Tryz.func17,Tryz.ntmps17
 go_upto_region 1 with fail
 rw[←j.out,←p.out,←x.out,←ad.out]
 go_wp2_with fail
 refine(ZaM ⟨b,20,none⟩ s.acts 1 i ah ac aa.out.1 (by have:=aa.out.2;omega) (by omega) (by omega)).mono ?_
 rintro e W ⟨rfl,T⟩
 rw[←r.out]at T
 rw[T]
 clear T W ah ac
 have am:=D (show R=ZeK s1 by rw[HR.out,ar.out];unfold doS;rw[ak.out];rfl)
 go_wp2_with fail
 refine(ZkD H1 aj).mono ?_
 rintro e w9 ⟨v,rfl,z,q9,aw,ay,F9,h9,N,Z⟩
 have H9:=D h9;have G9:=D (G1.trans N);have ab:=D (af.step N)
 obtain⟨l,H⟩:=Je ((ZeK s1).2)
 have ai:=D (show R=((ZeK s1).1,l)by rw[am.out,H])
 rw[←H]at z⊢
 have ao:=D z;have E:=D Z
 have an:=D (show v.oneCell'=true by obtain⟨A',c',e,_⟩:=z;rw[e];rfl)
 have az:=(Jg af.blk)
 have av:=G1.upd.size
 clear h9 N z Z H
 obtain⟨we,I⟩:=Je (w9.setRow L (Z7 l v).toArray)
 have Y:=ZaA _ H9 (G9.out) (ab.out) I (ao.out) (fun k O=>⟨by have:=(E.out k O).1;omega,(E.out k O).2,by have:=(E.out k O).1;omega⟩) aq.out
 have X:=D Y;have ap:=D (ab.out)
 have al:=D (YH l v an)
 clear Y;change Hid _ at I
 go_wp2_with(first|(refine Jo (Z7 l v).toArray ap.blk Yf al ?_;rw[←I.out]))
 refine bodyPost_ret (v:= .agg (Z7 l v).toArray) (Zs _ Tryz.results17 (b:=L) (o:=0) rfl Yf (Zb.of_block X.out.1)) rfl ?_
 rw[ai.out]
 refine ZdI.of (va:=va) ?_
 exact X.out.2
end
end Go.Proofs.YtbgbeddbfaopgaaGreatDoor
