import Derived.Test.YtlhapbopmplngaaGreatDoorS44
set_option linter.all false
set_option maxHeartbeats 16000000
set_option maxRecDepth 100000
set_option autoImplicit true
set_option relaxedAutoImplicit true
namespace Go.Proofs.YtlhapbopmplngaaGreatDoor
open Go.RowKit Go.Lk
def ZeR (b:Nat) (P:Ym) (s:Ze) (t:Zal) (w:World) (F:List Nat) (e:Ending) (w':World):Prop:=∃fps' va',ZnQ b {P with fps:=fps'} s t va' w F e w'
theorem Zo6 {s:Ze} {i:Nat} (hf:s.all[i]? =some f):∃f',(openS s ((i:Int)+1)).all[i]? =some f'∧f'.id=f.id:=by
 rw[ZhL hf]
 dsimp only
 split
 ·exact⟨_,ZM hf,rfl⟩
 ·exact⟨_,ZM hf,rfl⟩
theorem ZQ.subU (h:ZQ s n m) (hs:Lk.Safe s) (hr:Zfv r) {bk:List Y4} (hb:bk.length≤64):ZQ (subU s r bk) (n+1) (m+1):=by
 have b:=h.mono (Nat.le_succ n) (Nat.le_succ m)
 exact{b with
  log:=by show(s.log++[_]).length≤_;rw[Xd];have:=h.log;simp;exact this
  all:=by show(s.all++[_]).length≤_;rw[Xd];have:=h.all;simp;exact this
  fs:=fun f a=>by
   rcases List.mem_append.1 a with a|a
   ·exact h.fs f a
   ·rw[Jm a]
    exact⟨ZjK hr,by simp,by simp,by have:=Zld r;show(Zek r).length≤_;omega⟩
  gl:=(Ze7 s.groups r.group _).symm▸h.gl
  gm:=ZjH h.gm hs.2.grp (by omega)
  bk:=hb
  made:=h.made.trans (by show(_:Int)=((Zcr s.groups r.group _).length:Nat);rw[Ze7])}
section
variable {w:World} {b:Nat} {P:Ym} {s:Ze} {va vp vl:Value} {F:List Nat}
theorem ZeM {P:Prop}(h:P:=by
 have S:=D (YV (⟨0,(N:Int)+1,0,[]⟩:Zal) (.slice none 0 0) rfl)
 clear H;change Hid _ at j
 go_wp2_with(first|(refine Jo (Z1 (⟨0,(N:Int)+1,0,[]⟩:Zal) (.slice none 0 0)).toArray Q.out.blk Yj S.out ?_;rw[←j.out]))
 refine bodyPost_ret (v:= .agg (Z1 (⟨0,(N:Int)+1,0,[]⟩:Zal) (.slice none 0 0)).toArray) (Zw _ Tryz.results23 (b:=L) (o:=0) rfl Yj (Zb.of_block E.out.1)) rfl ?_
 rw[aA.out]
 refine⟨P.fps++[p], .slice A' (N+1) c',?_⟩
 exact E.out.2):P:=h
theorem ZeV {P:Prop}(h:P:=by
 have aA:=D (show R=(SU,⟨0,(N:Int)+1,0,[]⟩)by rw[Z.out,if_neg (by omega),a5.out,T.out])
 obtain⟨we,j⟩:=Je (a4.setRow L (Z1 (⟨0,(N:Int)+1,0,[]⟩:Zal) (.slice none 0 0)).toArray)
 have H:=ZaU (P:={P with fps:=P.fps++[p]}) P.qps bt.out (bm.out) (an.out) j (Zap _) (fun k z=>by simp[Value.ownBlock]at z) ad.out
 have E:=D H;have Q:=D (an.out)
 exact ZeM):P:=h
theorem Zkh (h:Zh w b P none s va vp vl F) (hfit:ZQ s n m) (hs:Lk.Safe s) (hE:Env w) (hn:n≤800000) (hm:m≤900000) (r:Ya) (vr:Value) (hro:Za5 w r vr) (hrf:Zfv r) (hoff:∀g o n c,vr= .slice (some ⟨g,o,none⟩) n c→g∉F):
  Calls Tryz.prog 23 #[.pointer (some ⟨b,0,none⟩), .agg (Zt r vr).toArray] w (ZeR b P (submitS s r).1 (submitS s r).2 w F):=by
 obtain⟨R,hR⟩:=Je (submitS s r)
 rw[←hR]
 obtain⟨wR,aZ,bo⟩:=Kb w (.cells (Zt r vr).toArray 35)
 obtain⟨J,aK⟩:=Je w.heap.size
 obtain⟨W0,aQ⟩:=Je (wR.alloc (.cells #[.int .i64 0, .int .i64 0, .int .i64 0, .slice none 0 0] 31))
 obtain⟨L,hL⟩:=Je wR.heap.size
 have ca:L=J+1:=by rw[hL,aZ,aK];simp
 change Hid _ at ca
 have bg:=Ja aQ
 have dn:L=L:=rfl
 have ah:=bo.trans bg
 have co:w.heap.size≤L:=by rw[hL];exact bo.size
 have cq:wR.heap[J]? =some (.cells (Zt r vr).toArray 35 (0,0)):=by rw[aZ,aK];exact Za _
 have bn:Own W0 J (Zt r vr).toArray 35 F:=⟨(Kv bg cq),fun hm=>by have:=h.lt J hm;omega⟩
 have b8:Za7 W0 L F:=⟨by rw[aQ,hL];exact Za _,fun hm=>by have:=h.lt L hm;omega⟩
 have h0:=h.upd0 ah
 have cj:=D (show∀W,Zg F w W→Za5 W r vr from fun W C=>⟨hro.m,hro.u,hro.o,hro.n,hro.few,by
  obtain⟨A,c,e,hA⟩:=hro.at_
  exact⟨A,c,e,hA.upd C (fun ab ao ea=>hoff ab ao _ _ (by rw[e,ea]))⟩⟩)
 have dG:=D ah;have dA:=D dn;have ad:=D co;have dq:=D bn;have dk:=D b8;have H0:=D h0
 have HE:=D hE;have aa:=D hfit;have HS:=D hs;have da:=D hrf;have HH:=D h
 have G0:=D (show Zi w W0 F F from(Zi.refl w F).upd0 ah)
 obtain⟨ec,ae⟩:=Je (ZaZ r)
 obtain⟨gc,ac⟩:=Je (YU s r.group)
 obtain⟨sc,av⟩:=Je (Zbw s r.signal)
 obtain⟨t,ht⟩:=Je (ZbF s.book ((s.all.length:Int)+1) (Zek r) r.group)
 have cu:=D (show ec≠0→R=(s,YM ec)by intro d;rw[hR,ae];unfold submitS;exact if_pos (by rw[←ae];exact d))
 have cl:=D (show ec=0→gc≠0→R=(s,YM gc)by intro d h2;rw[hR,ac];unfold submitS;rw[if_neg (by rw[←ae];simp[d])];exact if_pos (by rw[←ac];exact h2))
 have az:=D (show ec=0→gc=0→sc≠0→R=(s,YM sc)by intro d h2 h3;rw[hR,av];unfold submitS;rw[if_neg (by rw[←ae];simp[d]),if_neg (by rw[←ac];simp[h2])];exact if_pos (by rw[←av];exact h3))
 have aw:=D (show ec=0→gc=0→sc=0→R=if t.2≠0 then(s,YM t.2)else(if r.cls≠5∧r.cls≠6 then openS (subU s r t.1) ((s.all.length:Int)+1)else subU s r t.1,⟨0,(s.all.length:Int)+1,0,[]⟩)by
  intro d h2 h3;rw[hR];exact Zm2 ht (ae▸d) (ac▸h2) (av▸h3))
 have dm:=D (show Calls Tryz.prog 52 #[.agg (Zt r vr).toArray] W0 (fun e K=>e= .returned (.int .i64 ec)∧Zg [] W0 K)by rw[ae];exact ZgU r vr W0 (hro.upd0 ah) (hE.upd0 ah))
 have ci:=D ac
 have cx:=D (show∀W,Zg [] W0 W→Calls Tryz.prog 53 #[.pointer (some ⟨b,0,none⟩), .int .i64 r.group] W (fun e K=>e= .returned (.int .i64 gc)∧K=W)from fun W C=>by rw[ac];exact ZeB (h0.upd0 C) hfit _)
 have cb:=D (show∀W,Zg [] W0 W→Calls Tryz.prog 54 #[.pointer (some ⟨b,0,none⟩), .int .i64 r.signal] W (fun e K=>e= .returned (.int .i64 sc)∧K=W)from fun W C=>by rw[av];exact Zhz (h0.upd0 C) hfit _)
 have HT:=D ht
 have cU:=D (show Zb W0 J 0 (Zt r vr)from Zb.of_block bn.blk)
 have cW:=hfit.all
 obtain⟨N,T⟩:=Je s.all.length
 rw[←T]at cW
 clear hR hL bo bg ah co cq bn b8 h0 hE hfit hs hrf ae ac av ht hro hoff h;change Hid _ at aQ aZ aK T
 go_in
 go_upto_region 1 with fail
 rw[←aZ.out,←aK.out,←aQ.out,←ca.out]
 go_wp2_with(refine Jl cU.out Yh ?_)
 refine dm.out.mono ?_
 rintro e X ⟨rfl,ai⟩
 have cE:=D ai;have H2:=D (H0.out.upd0 ai);have a0:=D (dq.out.upd0 ai);have af:=D (dk.out.upd0 ai);have G2:=D (G0.out.upd0 ai)
 clear ai
 by_cases d:ec=0
 case neg=>
  have Z:=D (cu.out d)
  obtain⟨we,j⟩:=Je (X.setRow L (Z1 (YM ec) (.slice none 0 0)).toArray)
  have H:=ZaU _ H2.out (G2.out) (af.out) j (Zap _) (fun k z=>by simp[Value.ownBlock]at z) ad.out
  have E:=D H;have Q:=D (af.out)
  have S:=D (YV (YM ec) (.slice none 0 0) rfl)
  clear H;change Hid _ at j
  go_wp2_with(first|(refine Jo (Z1 (YM ec) (.slice none 0 0)).toArray Q.out.blk Yj S.out ?_;rw[←j.out]))
  refine bodyPost_ret (v:= .agg (Z1 (YM ec) (.slice none 0 0)).toArray) (Zw _ Tryz.results23 (b:=L) (o:=0) rfl Yj (Zb.of_block E.out.1)) rfl ?_
  rw[Z.out]
  refine⟨P.fps,va,?_⟩
  exact E.out.2
 case pos=>
 have k8:X.cell? ⟨J,8,none⟩=some (.int .i64 r.group):=a0.out.cell rfl
 have k9:X.cell? ⟨J,9,none⟩=some (.int .i64 r.signal):=a0.out.cell rfl
 have bM:=D (cl.out d);have bJ:=D (az.out d);have b1:=D (aw.out d)
 clear cl az aw cu
 subst d
 go_wp2_with fail
 refine(cx.out X cE.out).mono ?_
 rintro e W ⟨rfl,C⟩
 rw[C]
 clear C W
 by_cases d:gc=0
 case neg=>
  have Z:=D (bM.out d)
  obtain⟨we,j⟩:=Je (X.setRow L (Z1 (YM gc) (.slice none 0 0)).toArray)
  have H:=ZaU _ H2.out (G2.out) (af.out) j (Zap _) (fun k z=>by simp[Value.ownBlock]at z) ad.out
  have E:=D H;have Q:=D (af.out)
  have S:=D (YV (YM gc) (.slice none 0 0) rfl)
  clear H;change Hid _ at j
  go_wp2_with(first|(refine Jo (Z1 (YM gc) (.slice none 0 0)).toArray Q.out.blk Yj S.out ?_;rw[←j.out]))
  refine bodyPost_ret (v:= .agg (Z1 (YM gc) (.slice none 0 0)).toArray) (Zw _ Tryz.results23 (b:=L) (o:=0) rfl Yj (Zb.of_block E.out.1)) rfl ?_
  rw[Z.out]
  refine⟨P.fps,va,?_⟩
  exact E.out.2
 case pos=>
 have az:=D (bJ.out d);have aw:=D (b1.out d)
 have dh:=D (Zlb (ci.out.symm.trans d))
 clear bM bJ b1 ci
 subst d
 go_wp2_with fail
 refine(cb.out X cE.out).mono ?_
 rintro e W ⟨rfl,C⟩
 rw[C]
 clear C W
 by_cases d:sc=0
 case neg=>
  have Z:=D (az.out d)
  obtain⟨we,j⟩:=Je (X.setRow L (Z1 (YM sc) (.slice none 0 0)).toArray)
  have H:=ZaU _ H2.out (G2.out) (af.out) j (Zap _) (fun k z=>by simp[Value.ownBlock]at z) ad.out
  have E:=D H;have Q:=D (af.out)
  have S:=D (YV (YM sc) (.slice none 0 0) rfl)
  clear H;change Hid _ at j
  go_wp2_with(first|(refine Jo (Z1 (YM sc) (.slice none 0 0)).toArray Q.out.blk Yj S.out ?_;rw[←j.out]))
  refine bodyPost_ret (v:= .agg (Z1 (YM sc) (.slice none 0 0)).toArray) (Zw _ Tryz.results23 (b:=L) (o:=0) rfl Yj (Zb.of_block E.out.1)) rfl ?_
  rw[Z.out]
  refine⟨P.fps,va,?_⟩
  exact E.out.2
 case pos=>
 have aM:=D (aw.out d)
 clear az aw cx cb
 subst d
 have cS:=D (show Zb X J 0 (Zt r vr)from Zb.of_block a0.out.blk)
 obtain⟨key,aF⟩:=Je (Zek r)
 have c1:=D (show Calls Tryz.prog 55 #[.agg (Zt r vr).toArray] X (fun e K=>e= .returned (.string ⟨key.toArray⟩)∧Zg [] X K)by rw[aF];exact Zrs r vr X (cj.out X G2.out.upd) (ZgL HH.out HE.out G2.out))
 clear k8 k9;change Hid _ at aF
 go_wp2_with(refine Jl cS.out Yh ?_)
 refine c1.out.mono ?_
 rintro e w3 ⟨rfl,ct⟩
 obtain⟨w4,aN⟩:=Je w3.drew
 have bZ:=Jd aN
 have ay:=ct.trans bZ
 have h4:=H2.out.upd0 ay
 have bw:=a0.out.upd0 ay
 obtain⟨Ga,cC,_⟩:=h4.rowAll
 obtain⟨Aa,aT,b9,_⟩:=cC.form'
 rw[Xb,h4.fl,←T.out]at b9
 subst b9
 have bG:=Jx 15 h4.blk.1
 have bB:=Jx 17 h4.blk.1
 have k8:w4.cell? ⟨J,8,none⟩=some (.int .i64 r.group):=bw.cell rfl
 obtain⟨GB,ar,_,bU⟩:=h4.book
 have cr:=D (show Calls Tryz.prog 56 #[.pointer (some ⟨P.book,0,none⟩), .int .i64 ((N:Int)+1), .string ⟨key.toArray⟩, .int .i64 r.group] w4 (fun e K=>e= .returned (.int .i64 t.2)∧∃F',YR P.book t.1 K F'∧Zi w4 K GB F')by
  rw[HT.out,T.out,aF.out];exact Zob ar (Xj aa.out.bk (by omega)) _ _ _)
 have H4:=D h4;have c7:=D bw;have dp:=D (af.out.upd0 ay);have G4:=D (G2.out.upd0 ay);have bO:=D bU
 clear ct bZ ay h4 bw cC ar bU;change Hid _ at aN
 go_upto_region 11 with fail
 refine Jr [0,4,8,12,16,20,24,28,32,36,40,44,48,54,56] (fun W=>W.cell? ⟨b,15,none⟩=some (.pointer (some ⟨P.book,0,none⟩))∧W.cell? ⟨b,17,none⟩=some (.slice Aa N aT)∧W.cell? ⟨J,8,none⟩=some (.int .i64 r.group)) (by rw[aN.out]at bG bB k8;exact⟨bG,bB,k8⟩) ?_
 repeat first|refine Jn ?_|refine Jf ?_|refine Ju ?_
 refine JL ?_
 simp only[Xu]
 rw[←aN.out]
 go_wp2_with fail
 refine cr.out.mono ?_
 rintro e w5 ⟨rfl,dr,cz,ce⟩
 obtain⟨F5,h5,g5⟩:=bO.out w5 t.1 dr cz ce
 have H5:=D h5;have c8:=D (c7.out.step g5);have aV:=D (dp.out.step g5);have G5:=D (G4.out.trans g5)
 clear h5 g5 cz ce bG bB k8 cr bO
 go_wp2_with fail
 refine⟨fun _=>True,trivial,?_⟩
 repeat first|refine Jn ?_|refine Jf ?_|refine Ju ?_
 refine ZK ?_
 obtain⟨bk,tc⟩:=t
 dsimp only at H5 aM
 by_cases d:tc=0
 case neg=>
  have Z:=D (aM.out.trans (if_pos d))
  have ar:bk=s.book:=by
   have e:=HT.out
   have V:=Znf (l:=s.book) (id:=(s.all.length:Int)+1) (key:=Zek r) (g:=r.group) (by rw[←e];exact d)
   rw[←e]at V;exact V
  rw[ar]at H5
  clear ar
  obtain⟨we,j⟩:=Je (w5.setRow L (Z1 (YM tc) (.slice none 0 0)).toArray)
  have H:=ZaU _ H5.out (G5.out) (aV.out) j (Zap _) (fun k z=>by simp[Value.ownBlock]at z) ad.out
  have E:=D H;have Q:=D (aV.out)
  have S:=D (YV (YM tc) (.slice none 0 0) rfl)
  clear H;change Hid _ at j
  go_wp2_with(first|(refine Jo (Z1 (YM tc) (.slice none 0 0)).toArray Q.out.blk Yj S.out ?_;rw[←j.out]))
  refine bodyPost_ret (v:= .agg (Z1 (YM tc) (.slice none 0 0)).toArray) (Zw _ Tryz.results23 (b:=L) (o:=0) rfl Yj (Zb.of_block E.out.1)) rfl ?_
  rw[Z.out]
  refine⟨P.fps, .slice Aa N aT,?_⟩
  exact E.out.2
 case pos=>
 subst d
 have Z:=D (aM.out.trans (if_neg (by simp)))
 have dc:=D (show Hid (∀SU,SU=subU s r bk→ZQ SU (n+1) (m+1))from D (fun SU e=>by
  rw[e]
  refine ZQ.subU aa.out HS.out da.out ?_
  have V:=HT.out
  have h0:=aa.out.bk
  unfold ZbF at V
  split at V
  ·cases V
  ·split at V
   ·cases V
   ·split at V
    ·cases V
    ·rename_i dE
     injection V with V
     rw[V,Xd,List.length_singleton]
     omega))
 clear aM HT
 obtain⟨w6,aU⟩:=Je w5.drew
 have aj:=Jd aU
 have h6:=H5.out.upd0 aj
 have g6:=G5.out.upd0 aj
 have aB:=c8.out.upd0 aj
 obtain⟨aP,b2⟩:=h6.blk
 have ch:w6.cell? ⟨b,21,none⟩=some (.int .i64 (N:Int)):=by rw[T.out];exact Zf (i:=21) aP rfl
 have cB:=Kf 21 aP
 obtain⟨wA,aO⟩:=Je (w6.setCell ⟨b,21,none⟩ (.int .i64 ((N:Int)+1)))
 have bv:=Kd aO
 have bs:wA.heap[b]? =some (.cells ((YZ {s with book:=bk} P (.slice Aa N aT) vp vl).toArray.setIfInBounds 21 (.int .i64 ((N:Int)+1))) 77 (0,0)):=by rw[aO,Zd aP]
 have gA:Zi w6 wA F5 F5:=⟨bv.weaken (fun k z=> .inr (by rw[Jm z];exact b2)),fun k z=> .inl z⟩
 have dH:=D (g6.trans gA)
 have cZ:=D (aB.step gA)
 have bK:=D (show Zb w6 J 0 (Zt r vr)from Zb.of_block aB.blk)
 have bc:=D (show Zb wA J 0 (Zt r vr)from Zb.of_block (aB.step gA).blk)
 obtain⟨I,bu⟩:=Je (YJ r)
 have cI:=D (show Calls Tryz.prog 57 #[.agg (Zt r vr).toArray] wA (fun e K=>∃vh M,e= .returned (.agg #[.string ⟨I.method.toArray⟩, .string ⟨I.url.toArray⟩, .string ⟨I.origin.toArray⟩, .int .i64 I.mode, .bool I.creds,vh, .int .i64 I.cls, .int .u64 I.timeout, .int .i64 I.group, .int .i64 I.signal])∧Zbq vh I.headers K M∧(∀k∈M,wA.heap.size≤k)∧Zg [] wA K)from
  (ZeQ r vr wA (cj.out wA (g6.trans gA).upd) (ZgL HH.out HE.out (g6.trans gA))).mono (by
   rintro e K ⟨vh,M,rfl,a1,a2,a3⟩
   rw[←bu]at a1⊢
   exact⟨vh,M,rfl,a1,a2,a3⟩))
 have H6:=D h6;have c0:=D ((aV.out.upd0 aj).step gA);have G6:=D g6;have di:=D aB;have df:=D (aV.out.upd0 aj)
 clear aj h6 g6 aB aP b2 gA;change Hid _ at aU aO bv bs bu
 go_upto_region 14 with fail
 refine Jr [0,4,8,16,24,13,21,29,32,38,40] (fun W=>Zb W J 0 (Zt r vr)) (by have q:=bK.out;rw[aU.out]at q;exact q) ?_
 repeat first|refine Jn ?_|refine Jf ?_|refine Ju ?_
 refine JO (cs:=Zt r vr) Yh (fun W C=>C) ?_
 repeat first|refine Jn ?_|refine Jf ?_|refine Ju ?_
 refine JE ?_
 simp only[Xu]
 rw[←aU.out]
 go_wp2_with fail
 refine(Zdt ⟨b,21,none⟩ N 1 w6 ch cB (by omega) (by omega) (by omega) (by omega)).mono ?_
 rintro e W ⟨rfl,C⟩
 rw[←aO.out]at C
 rw[C]
 clear C W
 go_wp2_with fail
 refine⟨_,fun W C=>C,bc.out,?_⟩
 refine JE ?_
 go_wp2_with fail
 refine cI.out.mono ?_
 rintro e w7 ⟨vh,M,rfl,cH,cA,bE⟩
 have bb:=D (bc.out.upd bE)
 have b4:=D bE;have b3:=D cH;have c5:=D cA
 clear cH cA bE ch cB
 go_wp2_with fail
 refine⟨_,fun W C=>C,bb.out,?_⟩
 refine JE ?_
 go_wp2_with fail
 refine(Zqc 1 w7).mono ?_
 rintro e w8 ⟨lb,rfl,a7,ax,dl⟩
 have b0:=D (bb.out.upd ax)
 obtain⟨w9,bp,aI⟩:=Kb w8 (.cells #[.int .i64 ((N:Int)+1), .string ⟨I.method.toArray⟩, .string ⟨I.url.toArray⟩, .string ⟨I.origin.toArray⟩, .int .i64 I.mode, .bool I.creds,vh, .int .i64 I.cls, .int .u64 I.timeout, .int .i64 I.group, .int .i64 I.signal, .string ⟨key.toArray⟩, .pointer (some ⟨lb,0,none⟩), .int .u64 0, .int .i64 0, .bool false, .int .i64 0, .int .i64 0, .pointer none, .int .u32 0, .int .i32 0, .int .u32 0] 104)
 obtain⟨p,bx⟩:=Je w8.heap.size
 obtain⟨O,ak⟩:∃x:ZC,x=⟨(N:Int)+1,I,key,1,0,0,false,0,0,none,false⟩:=⟨_,rfl⟩
 have cg:w9.heap[p]? =some (.cells (Zau O false vh lb (.pointer none)).toArray 104 (0,0)):=by rw[bp,bx,ak];exact Za _
 have cQ:lb<w8.heap.size:=(Jg a7.hb)
 have bh:=(Yb _ _).lt b3.out
 have s8:=ax.size
 have bC:YP w9 p O false vh lb (.pointer none) M []:=⟨cg,by rw[ak];exact(Yb _ _).upd b3.out (ax.trans aI),by rw[ak];exact a7.upd aI,by rw[ak];exact⟨rfl,rfl⟩,by omega,fun hm=>by have:=bh p hm;omega,by simp,fun hm=>by have:=bh lb hm;omega,by simp,fun _ _ hm=>by cases hm⟩
 have ag:=b4.out.trans (ax.trans aI (by simp))
 have s7:=b4.out.size
 obtain⟨G,cm,dj,cF,db,cG⟩:=H6.out.addAll bv.out bs.out ag ⟨_,_,_,_,_,rfl,bC⟩ (fun k z=>by
  simp only[Za3,List.mem_cons,List.mem_append,List.not_mem_nil,or_false]at z
  rcases z with rfl|rfl|z
  ·omega
  ·omega
  ·exact c5.out k z)
 have al:=D ak;have dx:=D ag;have cd:=D cm;have ds:=D cF;have cc:=D cG;have dy:=D bC
 have bD:=D ((Kv ag bs))
 have dD:=D (cZ.out.upd0 ag);have dB:=D (c0.out.upd0 ag)
 have dv:=D (show wA.heap.size≤p by omega)
 clear a7 ax dl ak cg aI cQ bh s8 bC ag s7 cm dj cF db cG;change Hid _ at bp bx
 go_wp2_with fail
 refine⟨_,fun W C=>C,b0.out,?_⟩
 repeat first|refine Jn ?_|refine Jf ?_|refine Ju ?_
 refine JL ?_
 go_wp2_with fail
 rw[←bp.out,←bx.out]
 refine⟨fun _=>True,trivial,?_⟩
 repeat first|refine Jn ?_|refine Jf ?_|refine Ju ?_
 refine ZK ?_
 clear b0 bb bc bK cI
 have aR:P.fps.length=N:=by rw[H6.out.fl,T.out]
 obtain⟨ck,bd,aq⟩:=Kb w9 (.cells #[.pointer (some ⟨p,0,none⟩)] 90)
 have cK:=D (show Zb ck w9.heap.size 0 (Zc6 p)by rw[bd];exact Zb.of_block (w:=w9.alloc _) (Za _))
 have bW:=D ((Zc _ _ _ _).upd cd.out aq)
 have bL:=D ((Kv aq bD))
 have cT:=Jx 17 bD.out
 change Hid _ at bd aq aR
 go_wp2_with(rw[←bd.out];refine Zm ck rfl (.tmp 67) (.tmp 69) 69 rfl 90 Tryz.underlying69 ZoP rfl (by omega) (by omega) (.slice Aa N aT) (P.fps.map Zc6) G rfl bW.out w9.heap.size 1 (Zc6 p) rfl cK.out rfl (by intro u hu;rw[Jm hu];rfl) (by rw[Xb,aR.out];omega) ?_;intro v' bl G' a9 bj bQ;obtain⟨A',c',cy,_⟩:=a9.form';rw[Xd,Xb,List.length_singleton,aR.out]at cy;subst cy;have aC:=Kv bj bL ds.out;have dt:=Jx 17 aC;have de:=Kf 17 aC;have bX:=D a9;have cL:=D bj;have cM:=D bQ;have bS:=D aC;clear a9 bj bQ aC)
 obtain⟨bq,aG⟩:=Je (bl.setCell ⟨b,17,none⟩ (.slice A' (N+1) c'))
 have bR:bq.heap[b]? =some (.cells (YZ {{s with book:=bk}with all:=s.all++[O]} {P with fps:=P.fps++[p]} (.slice A' (N+1) c') vp vl).toArray 77 (0,0)):=by
  rw[aG,Zd bS.out]
  have e:(((s.all++[O]).length:Nat):Int)=(N:Int)+1:=by rw[Xd,T.out];simp
  unfold YZ
  dsimp only
  rw[e]
  rfl
 obtain⟨dF,cv,aY⟩:=cc.out bl bq (.slice A' (N+1) c') G' (by rw[Xs];exact bX.out) ⟨(aq.out.weaken (by simp)).trans cL.out (fun k z=> .inr z),fun k z=>by
  rcases cM.out k z with d|d
  ·exact .inl d
  ·have:=aq.out.size;exact .inr (by omega)⟩ bR (by rw[aG];exact(Zg.refl [b] bl).setCell (.inr (by simp)) _)
 have bY:=di.out.step aY
 have bN:=df.out.step aY
 obtain⟨b7,aD⟩:=Je bq.drew
 have am:=Jd aD
 have bA:=cv.upd0 am
 have a8:=bY.upd0 am
 have be:({P with fps:=P.fps++[p]}:Ym).fps[N]? =some p:=by show(P.fps++[p])[N]? =_;rw[←aR.out,List.getElem?_append_right (Xi _)];simp
 have ba:({{s with book:=bk}with all:=s.all++[O]}:Ze).all[N]? =some O:=by show(s.all++[O])[N]? =_;rw[T.out,List.getElem?_append_right (Xi _)];simp
 obtain⟨_,_,_,Y,_⟩:=bA.fcell be ba
 have p0:b7.cell? ⟨p,0,none⟩=some (.int .i64 ((N:Int)+1)):=by rw[show(N:Int)+1=O.id by rw[al.out]];exact Zf (i:=0) Y rfl
 have k6:b7.cell? ⟨J,6,none⟩=some (.int .i64 r.cls):=a8.cell rfl
 have dg:=D bA;have cY:=D a8;have cP:=D (bN.upd0 am);have c4:=D ((G6.out.trans aY).upd0 am);have aH:=D be;have bP:=D ba
 clear bR cv aY bY bN am bA a8 be ba Y cT dt de cc cd bW bX bD bL bS;change Hid _ at aG aD
 go_upto_region 16 with fail
 rw[←aG.out]
 refine ZR [(0,0),(1,0),(2,0),(3,0),(4,0),(5,0),(6,0),(7,0),(8,2)] (fun W=>W.cell? ⟨p,0,none⟩=some (.int .i64 ((N:Int)+1))∧W.cell? ⟨J,6,none⟩=some (.int .i64 r.cls)) (by kernel_rfl) (by kernel_rfl) (fun c a w t v h=>by cases t<;>exact h) (by rw[aD.out]at p0 k6;exact⟨p0,k6⟩) ?_
 repeat first|refine Jn ?_|refine Jf ?_|refine Ju ?_
 refine JL ?_
 simp only[Xu]
 rw[←aD.out]
 go_wp2_with fail
 refine(Y0 dg.out (Xj aa.out.log (by omega)) _ _ _ _ _ _ _).mono ?_
 rintro e du ⟨rfl,cX,c3,cf,aL⟩
 obtain⟨aW,aE⟩:=Je du.drew
 have ap:=Jd aE
 have au:=cf.upd0 ap
 have bf:=(cY.out.step aL).upd0 ap
 obtain⟨gk,gx,cn,cJ,cD⟩:=dh.out
 obtain⟨_,_,_,Y,_⟩:=au.fcell (s:=ZI {{s with book:=bk}with all:=s.all++[O]} 1 ((N:Int)+1) 0 0 r.cls) aH.out bP.out
 have bi:aW.cell? ⟨p,0,none⟩=some (.int .i64 ((N:Int)+1)):=by rw[show(N:Int)+1=O.id by rw[al.out]];exact Zf (i:=0) Y rfl
 have bz:=Jx 12 au.blk.1
 have k8:aW.cell? ⟨J,8,none⟩=some (.int .i64 r.group):=bf.cell rfl
 have cw:=D (show Calls Tryz.prog 60 #[.pointer (some ⟨P.groups,0,none⟩), .int .i64 r.group, .int .i64 ((N:Int)+1)] aW (fun e K=>e= .returned (.int .i64 0)∧∃F1,Zh K b {P with fps:=P.fps++[p]} none {ZI {{s with book:=bk}with all:=s.all++[O]} 1 ((N:Int)+1) 0 0 r.cls with groups:=Zcr s.groups r.group ((N:Int)+1)} (.slice A' (N+1) c') vp cX F1∧Zi aW K c3 F1)by
  rw[cn]
  exact ZmZ au (n:=N) cJ cD (fun y hy i hi=>by rw[T.out];exact HS.out.2.grp y hy i hi) (Xj aa.out.gl (by omega)) (fun g hg=>⟨Xj (aa.out.gm g hg).1 (by omega),(aa.out.gm g hg).2⟩))
 have dI:=D au;have cV:=D bf;have cO:=D ((cP.out.step aL).upd0 ap);have c6:=D ((c4.out.trans aL).upd0 ap)
 clear cf aL ap au bf cn cJ cD Y p0 k6;change Hid _ at aE
 go_wp2_with fail
 refine Jz ?_
 go_upto_region 17 with fail
 refine ZR [(0,0),(1,0),(2,0),(3,0),(4,0),(5,0),(6,0),(7,0),(8,0),(9,0),(10,2)] (fun W=>W.cell? ⟨b,12,none⟩=some (.pointer (some ⟨P.groups,0,none⟩))∧W.cell? ⟨J,8,none⟩=some (.int .i64 r.group)∧W.cell? ⟨p,0,none⟩=some (.int .i64 ((N:Int)+1))) (by kernel_rfl) (by kernel_rfl) (fun c a w t v h=>by cases t<;>exact h) (by rw[aE.out]at bz k8 bi;exact⟨bz,k8,bi⟩) ?_
 repeat first|refine Jn ?_|refine Jf ?_|refine Ju ?_
 refine JL ?_
 simp only[Xu]
 rw[←aE.out]
 go_wp2_with fail
 refine cw.out.mono ?_
 rintro e a4 ⟨rfl,dC,a6,aX⟩
 have bT:=cV.out.step aX
 have cN:a4.cell? ⟨J,6,none⟩=some (.int .i64 r.cls):=bT.cell rfl
 obtain⟨SU,aJ⟩:∃x:Ze,x={ZI {{s with book:=bk}with all:=s.all++[O]} 1 ((N:Int)+1) 0 0 r.cls with groups:=Zcr s.groups r.group ((N:Int)+1)}:=⟨_,rfl⟩
 rw[←aJ]at a6
 have aS:SU.all[N]? =some O:=by rw[aJ];exact bP.out
 have a5:=D (show SU=subU s r bk by rw[aJ];unfold subU;rw[al.out,bu.out,aF.out,T.out])
 obtain⟨_,_,_,Y,_⟩:=a6.fcell aH.out aS
 have cR:a4.cell? ⟨p,0,none⟩=some (.int .i64 ((N:Int)+1)):=by rw[show(N:Int)+1=O.id by rw[al.out]];exact Zf (i:=0) Y rfl
 have bt:=D a6;have an:=D (cO.out.step aX);have bm:=D (c6.out.trans aX)
 clear a6 aX bT aJ Y bz k8 bi cw;change Hid _ at aS
 go_wp2_with fail
 refine Jz ?_
 by_cases s5:r.cls=5
 ·exact ZeV
 by_cases s6:r.cls=6
 ·exact ZeV
 have aA:=D (show R=(openS SU ((N:Int)+1),⟨0,(N:Int)+1,0,[]⟩)by rw[Z.out,if_pos ⟨s5,s6⟩,a5.out,T.out])
 have b5:(r.cls==5)=false:=by simp[s5]
 have b6:(r.cls==6)=false:=by simp[s6]
 have d5:(r.cls !=5)=true:=by simp[s5]
 have d6:(r.cls !=6)=true:=by simp[s6]
 go_wp2_with fail
 refine(ZiQ bt.out (dc.out.out _ a5.out) (by omega) aH.out aS.out (by rw[al.out])).mono ?_
 rintro e cp ⟨rfl,dz,bF,br⟩
 obtain⟨c9,bI,bH⟩:=Zo6 aS.out
 obtain⟨_,_,_,Y,_⟩:=bF.fcell aH.out bI
 have dw:cp.cell? ⟨p,0,none⟩=some (.int .i64 ((N:Int)+1)):=by rw[show(N:Int)+1=c9.id by rw[bH,al.out]];exact Zf (i:=0) Y rfl
 have dd:=D bF;have bV:=D (an.out.step br);have c2:=D (bm.out.trans br)
 clear bF br Y bI bH cR cN
 obtain⟨we,j⟩:=Je (cp.setRow L (Z1 (⟨0,(N:Int)+1,0,[]⟩:Zal) (.slice none 0 0)).toArray)
 have H:=ZaU (P:={P with fps:=P.fps++[p]}) P.qps dd.out (c2.out) (bV.out) j (Zap _) (fun k z=>by simp[Value.ownBlock]at z) ad.out
 have E:=D H;have Q:=D (bV.out)
 exact ZeM
end
end Go.Proofs.YtlhapbopmplngaaGreatDoor
namespace Go.Lk
def ZiA (s:Ze):Ze×Zal:=if 64≤s.groups.length then(s,YM 10)else({s with groups:=s.groups++[⟨[],false⟩],made:=s.groups.length+1},⟨0,s.groups.length+1,0,[]⟩)
end Go.Lk
namespace Go.Proofs.YtlhapbopmplngaaGreatDoor
open Go.RowKit Go.Lk
section
variable {w:World} {b:Nat} {P:Ym} {s:Ze} {va vp vl:Value} {F:List Nat}
theorem ZkV (h:Zh w b P none s va vp vl F) (hfit:ZQ s n m):
  Calls Tryz.prog 21 #[.pointer (some ⟨b,0,none⟩)] w (ZnQ b P (ZiA s).1 (ZiA s).2 va w F):=by
 obtain⟨R,j⟩:=Je (ZiA s)
 rw[←j]
 obtain⟨W0,y,l⟩:=Kb w (.cells #[.int .i64 0, .int .i64 0, .int .i64 0, .slice none 0 0] 31)
 obtain⟨L,c⟩:=Je w.heap.size
 have Y:Za7 W0 L F:=⟨by rw[y,c];exact Za _,fun hm=>by have:=h.lt L hm;omega⟩
 have h0:=h.upd0 l
 have K:=D Y;have S:=D h0
 clear Y h0;change Hid _ at y l c
 have ae:=Jx 12 S.blk.1
 obtain⟨gl,G,x,hg,Z,H⟩:=S.groups
 have E:gl.length=s.groups.length:=by rw[←x,Xb]
 obtain⟨N,d⟩:=Je s.groups.length
 have ah:=D d
 have af:N≤64:=by rw[d];exact hfit.gl
 by_cases z:64≤s.groups.length
 ·have I:=D (show R=(s,YM 10)by rw[j];unfold ZiA;exact if_pos z)
  have Q:=D (ZhB hg (by omega) (by omega))
  clear j x hg Z H E d z h hfit
  go_in
  go_upto_region 1 with fail
  rw[←y.out,←c.out]
  go_wp2_with fail
  refine Q.out.mono ?_
  rintro e W ⟨rfl,hW⟩
  rw[hW]
  clear hW W
  obtain⟨we,a⟩:=Je (W0.setRow L (Z1 (YM 10) (.slice none 0 0)).toArray)
  have g:=ZaU _ S ((Zi.refl w F).upd0 l) (K.out) a (Zap _) (fun k O=>by simp[Value.ownBlock]at O) (by rw[c.out];exact Xi _)
  have i:=D g;have M:=D (K.out)
  have J:=D (YV (YM 10) (.slice none 0 0) rfl)
  clear g;change Hid _ at a
  go_wp2_with(first|(refine Jo (Z1 (YM 10) (.slice none 0 0)).toArray M.blk Yj J ?_;rw[←a.out]))
  refine bodyPost_ret (v:= .agg (Z1 (YM 10) (.slice none 0 0)).toArray) (Zw _ Tryz.results21 (b:=L) (o:=0) rfl Yj (Zb.of_block i.out.1)) rfl ?_
  rw[I.out]
  exact i.out.2
 ·have I:=D (show R=({s with groups:=s.groups++[⟨[],false⟩],made:=(N:Int)+1},⟨0,(N:Int)+1,0,[]⟩)by rw[j,d];unfold ZiA;exact if_neg z)
  have q:=Zmg hg (by omega)
  rw[E,←d]at q
  have Q:=D q
  have ad:=D x;have ac:=D H
  clear j x hg Z H E d z h hfit q
  go_in
  go_upto_region 1 with fail
  rw[←y.out,←c.out]
  go_wp2_with fail
  refine Q.out.mono ?_
  rintro e V ⟨rfl,G2,aa,gg2⟩
  obtain⟨F2,C,X⟩:=ac.out V _ G2 aa gg2
  rw[Xs,ad.out]at C
  obtain⟨p,_⟩:=C.blk
  have ag:=Jx 16 p
  have ai:=Kf 16 p
  obtain⟨w3,r⟩:=Je (V.setCell ⟨b,16,none⟩ (.int .i64 ((N:Int)+1)))
  obtain⟨h3,T⟩:=C.main (w1:=w3) (s':={s with groups:=s.groups++[⟨[],false⟩],made:=(N:Int)+1}) (by rw[r];exact(Zg.refl [b] V).setCell (.inr (by simp)) _) (by rw[r,Zd p];rfl) (fun _ _ _=>rfl) rfl rfl
  have H3:=D h3;have G3:=D (((Zi.refl w F).upd0 l).trans (X.trans T));have ab:=D ((K.step X).step T)
  clear C X p h3 T aa gg2 ae;change Hid _ at r
  go_upto_region 4 with fail
  rw[←r.out]
  obtain⟨we,a⟩:=Je (w3.setRow L (Z1 (⟨0,(N:Int)+1,0,[]⟩:Zal) (.slice none 0 0)).toArray)
  have g:=ZaU _ H3 (G3.out) (ab.out) a (Zap _) (fun k O=>by simp[Value.ownBlock]at O) (by rw[c.out];exact Xi _)
  have i:=D g;have M:=D (ab.out)
  have J:=D (YV (⟨0,(N:Int)+1,0,[]⟩:Zal) (.slice none 0 0) rfl)
  clear g;change Hid _ at a
  go_wp2_with(first|(refine Jo (Z1 (⟨0,(N:Int)+1,0,[]⟩:Zal) (.slice none 0 0)).toArray M.blk Yj J ?_;rw[←a.out]))
  refine bodyPost_ret (v:= .agg (Z1 (⟨0,(N:Int)+1,0,[]⟩:Zal) (.slice none 0 0)).toArray) (Zw _ Tryz.results21 (b:=L) (o:=0) rfl Yj (Zb.of_block i.out.1)) rfl ?_
  rw[I.out]
  exact i.out.2
end
theorem Zrf (h:Own w bx (Zcm a vi vh vb vr).toArray T F):Zb w bx 8 (Zt a.req vr):=fun j v hj=>by
 have hj10:j<10:=by have:=(Jk hj);simpa[Zt]using this
 refine Zf (i:=8+j) h.blk ?_
 rcases j with _|_|_|_|_|_|_|_|_|_|j<;>first|exact hj|omega
structure Zew (w:World) (b:Nat) (P:Ym) (s:Ze) (va vp vl:Value) (F:List Nat) (n m:Nat) (a:ZaY) (vi vh vb vr:Value) (wR W0 w1:World) (bx L:Nat) (s1:Ze):Prop where
 hwR:wR=w.alloc (.cells (Zcm a vi vh vb vr).toArray 39)
 hbx:bx=w.heap.size
 hW0:W0=wR.alloc (.cells #[.int .i64 0, .int .i64 0, .int .i64 0, .slice none 0 0] 31)
 hL1:L=bx+1
 hw1:w1=W0.setCell ⟨b,20,none⟩ (.int .i64 (s.acts+1))
 add:Calls Tryz.prog 20 #[.pointer (some ⟨b,20,none⟩), .int .i64 1] W0 fun e w'=>e= .returned (.int .i64 (s.acts+1))∧w'=w1
 hs1:s1={s with acts:=s.acts+1}
 fit:ZQ s1 n m
 safe:Lk.Safe s1
 own:Own w1 bx (Zcm a vi vh vb vr).toArray 39 F
 box:Za7 w1 L F
 at_:Zh w1 b P none s1 va vp vl F
 grows:Zi w w1 F F
 env:Env w1
 ac:0≤s.acts∧s.acts≤1000000
 af:ZdS a
 nn:n≤500000
 mm:m≤10000
section
variable {w:World} {b:Nat} {P:Ym} {s:Ze} {va vp vl:Value} {F:List Nat} {n m:Nat} {a:ZaY} {vi vh vb vr:Value} {wR W0 w1:World} {bx L:Nat} {s1:Ze}
theorem ZfB (h:Zh w b P none s va vp vl F) (hfit:ZQ s n m) (hs:Lk.Safe s) (hE:Env w) (hn:n≤500000) (hm:m≤10000) (hac:0≤s.acts∧s.acts≤1000000) (hafit:ZdS a):∃wR W0 w1 bx L s1,Zew w b P s va vp vl F n m a vi vh vb vr wR W0 w1 bx L s1:=by
 obtain⟨wR,j,E⟩:=Kb w (.cells (Zcm a vi vh vb vr).toArray 39)
 obtain⟨bx,f⟩:=Je w.heap.size
 obtain⟨W0,q,o⟩:=Kb wR (.cells #[.int .i64 0, .int .i64 0, .int .i64 0, .slice none 0 0] 31)
 obtain⟨L,x⟩:=Je wR.heap.size
 have A:L=bx+1:=by rw[x,j,f];simp
 have p:=E.trans o
 have C:wR.heap[bx]? =some (.cells (Zcm a vi vh vb vr).toArray 39 (0,0)):=by rw[j,f];exact Za _
 have z:Own W0 bx (Zcm a vi vh vb vr).toArray 39 F:=⟨(Kv o C),fun hm=>by have:=h.lt bx hm;omega⟩
 have y:Za7 W0 L F:=⟨by rw[q,x];exact Za _,fun hm=>by have:=h.lt L hm;omega⟩
 have r:=h.upd0 p
 obtain⟨k,H⟩:=r.blk
 obtain⟨w1,d⟩:=Je (W0.setCell ⟨b,20,none⟩ (.int .i64 (s.acts+1)))
 obtain⟨s1,c⟩:=Je (({s with acts:=s.acts+1}:Ze))
 obtain⟨G,l⟩:=r.main (w1:=w1) (s':=s1) (by rw[d];exact(Zg.refl [b] W0).setCell (.inr (by simp)) _) (by rw[d,Zd k,c];rfl) (fun _ _ _=>by rw[c];rfl) (by rw[c]) (by rw[c])
 have g:=((Zi.refl w F).upd0 p).trans l
 exact⟨wR,W0,w1,bx,L,s1,j,f,q,A,d,(Zdt ⟨b,20,none⟩ s.acts 1 W0 (Zf (i:=20) k rfl) (ZS k) hac.1 (by have:=hac.2;omega) (by omega) (by omega)).mono (by rintro e W ⟨rfl,h⟩;exact⟨rfl,h.trans d.symm⟩),c,by rw[c];exact{hfit with log:=hfit.log},by rw[c];exact hs,z.step l,y.step l,G,g,ZgL h hE g,hac,hafit,hn,hm⟩
theorem ZmM {PP:Program} {ops:Array Oper} {rest:List Oper} {o:Oper} {ac:Act} {Q:Exit→Act→World→Prop} {tt:TypeId} {x y:Operand} (hb:w.heap[L]? =some (.cells #[.int .i64 0, .int .i64 0, .int .i64 0, .slice none 0 0] T (0,0))) (ht:Zu PP tt 4=true)
  (h1:(Z1 t v).toArray.all (·.oneCell')=true) (h:wpList PP ops Q rest (ac.put o.dst undef) (w.setRow L (Z1 t v).toArray)) (hgd:o.guard=none:=by rfl) (ho:o.op= .store tt x y:=by rfl) (hx:ac.eval x= .pointer (some ⟨L,0,none⟩):=by rfl) (hy:ac.eval y= .agg (Z1 t v).toArray:=by rfl):wpList PP ops Q (o::rest) ac w:=
 Zaw w hgd tt x y ho L (Z1 t v).toArray _ T hx hy ht hb rfl h1 h
theorem Zkf {fps9 q9:List Nat} {va9 vp9 vl9:Value} {t:Zal} (z:Zew w b P s va vp vl F n m a vi vh vb vr wR W0 w1 bx L s1) (h9:Zh w9 b {{P with fps:=fps9}with qps:=q9} none s9 va9 vp9 vl9 F9) (g9:Zi w1 w9 F F9)
  (hv:ZbD w9 v t.bytes) (hn:∀k,v.ownBlock=some k→w1.heap.size≤k∧k∉F9) (hR:doS s a=(s9,t)):
  ∃we,Hid (we=w9.setRow L (Z1 t v).toArray)∧Hid (w9.heap[L]? =some (.cells #[.int .i64 0, .int .i64 0, .int .i64 0, .slice none 0 0] 31 (0,0)))∧Hid ((Z1 t v).toArray.all (·.oneCell')=true)∧Hid (Zb we L 0 (Z1 t v))∧ZeR b P (doS s a).1 (doS s a).2 w F (.returned (.agg (Z1 t v).toArray)) we:=by
 have l:=(Jg z.box.blk)
 have j:=z.grows.upd.size
 have d:=z.box.step g9
 have g:v.oneCell'=true:=by obtain⟨o,p,e,_⟩:=hv;rw[e];rfl
 have f:w.heap.size≤L:=by rw[z.hL1,z.hbx];omega
 obtain⟨h,i⟩:=ZaU (we:=w9.setRow L (Z1 t v).toArray) (P:={P with fps:=fps9}) q9 h9 (z.grows.trans g9) d rfl hv (fun k c=>⟨by have:=(hn k c).1;omega,(hn k c).2,by have:=(hn k c).1;omega⟩) f
 rw[hR]
 exact⟨_,rfl,d.blk,YV t v g,Zb.of_block h,fps9,va9,i⟩
def ZfU {w9:World} {q9:List Nat} {s9:Ze} {va9 vp9 vl9:Value} {F9:List Nat} (z:Zew w b P s va vp vl F n m a vi vh vb vr wR W0 w1 bx L s1) (h9:Zh w9 b {P with qps:=q9} none s9 va9 vp9 vl9 F9) (g9:Zi w1 w9 F F9) (c i k:Int) (hR:doS s a=(s9,⟨c,i,k,[]⟩)):=Zkf (fps9:=P.fps) z h9 g9 (Zap _) (fun k hk=>by simp[Value.ownBlock]at hk) hR
end
theorem ZlB {X G:Prop} (x:X) (h:X→G:=by rintro⟨we,hwe,k1,k2,k3,k4⟩;go_wp2_with(first|(refine ZmM k1.out Yj k2.out ?_;rw[←hwe.out]));refine bodyPost_ret (Zw _ Tryz.results11 (o:=0) (cs:=Z1 _ _) rfl Yj k3.out) rfl ?_;exact k4):G:=h x
section
variable {w:World} {b:Nat} {P:Ym} {s:Ze} {va vp vl:Value} {F:List Nat} {n m:Nat} {a:ZaY} {vi vh vb vr:Value} {wR W0 w1:World} {bx L:Nat} {s1:Ze}
theorem Zp4 (z:Zew w b P s va vp vl F n m a vi vh vb vr wR W0 w1 bx L s1) (hop:a.op=1):
  Calls Tryz.prog 11 #[.pointer (some ⟨b,0,none⟩), .agg (Zcm a vi vh vb vr).toArray] w (ZeR b P (doS s a).1 (doS s a).2 w F):=by
 have i:w1.cell? ⟨bx,0,none⟩=some (.int .i64 a.op):=z.own.cell rfl
 rw[hop]at i
 have h:=D hop
 clear hop
 go_in
 go_upto_region 1 with fail
 rw[←z.hwR,←z.hbx,←z.hW0,←z.hL1]
 go_wp2_with fail
 refine z.add.mono ?_
 rintro e W ⟨rfl,c⟩
 rw[c];clear c W
 go_wp2_with fail
 refine(ZkV z.at_ z.fit).mono ?_
 rintro e p ⟨v,rfl,g,q,o,l,r,k,j,d⟩
 exact ZlB (Zkf (fps9:=P.fps) z k j g d (by rw[z.hs1];unfold doS;rw[h.out];rfl))
end
section
variable {w:World} {b:Nat} {P:Ym} {s:Ze} {va vp vl:Value} {F:List Nat} {n m:Nat} {a:ZaY} {vi vh vb vr:Value} {wR W0 w1:World} {bx L:Nat} {s1:Ze}
theorem ZoV (z:Zew w b P s va vp vl F n m a vi vh vb vr wR W0 w1 bx L s1) (hro:Za5 w a.req vr) (hoff:∀g o n c,vr= .slice (some ⟨g,o,none⟩) n c→g∉F) (hop:a.op=3):
  Calls Tryz.prog 11 #[.pointer (some ⟨b,0,none⟩), .agg (Zcm a vi vh vb vr).toArray] w (ZeR b P (doS s a).1 (doS s a).2 w F):=by
 have q:w1.cell? ⟨bx,0,none⟩=some (.int .i64 a.op):=z.own.cell rfl
 rw[hop]at q
 have l:=D hop
 clear hop
 have i:=D (Zrf z.own)
 have j:=D (show Za5 w1 a.req vr from⟨hro.m,hro.u,hro.o,hro.n,hro.few,by
  obtain⟨A,c,e,r⟩:=hro.at_
  exact⟨A,c,e,r.upd z.grows.upd (fun E x y=>hoff E x _ _ (by rw[e,y]))⟩⟩)
 have p:=D hoff
 clear hro hoff
 go_in
 go_upto_region 1 with fail
 rw[←z.hwR,←z.hbx,←z.hW0,←z.hL1]
 go_wp2_with fail
 refine z.add.mono ?_
 rintro e W ⟨rfl,d⟩
 rw[d];clear d W
 go_wp2_with(refine Jl i Yh ?_)
 refine(Zkh z.at_ z.fit z.safe z.env (by have:=z.nn;omega) (by have:=z.mm;omega) a.req vr j z.af.req p).mono ?_
 rintro e K ⟨G,H,v,rfl,k,M,J,I,N,C,t,h⟩
 exact ZlB (Zkf z C t k h (by rw[z.hs1];unfold doS;rw[l.out];rfl))
end
section
variable {w:World} {b:Nat} {P:Ym} {s:Ze} {va vp vl:Value} {F:List Nat} {n m:Nat} {a:ZaY} {vi vh vb vr:Value} {wR W0 w1:World} {bx L:Nat} {s1:Ze}
theorem Zma (z:Zew w b P s va vp vl F n m a vi vh vb vr wR W0 w1 bx L s1) (hop:a.op=4):
  Calls Tryz.prog 11 #[.pointer (some ⟨b,0,none⟩), .agg (Zcm a vi vh vb vr).toArray] w (ZeR b P (doS s a).1 (doS s a).2 w F):=by
 have g:w1.cell? ⟨bx,0,none⟩=some (.int .i64 a.op):=z.own.cell rfl
 rw[hop]at g
 have l:w1.cell? ⟨bx,1,none⟩=some (.int .i64 a.id):=z.own.cell rfl
 have d:=D hop
 clear hop
 go_in
 go_upto_region 1 with fail
 rw[←z.hwR,←z.hbx,←z.hW0,←z.hL1]
 go_wp2_with fail
 refine z.add.mono ?_
 rintro e W ⟨rfl,c⟩
 rw[c];clear c W
 go_wp2_with fail
 refine(Zeu z.at_ z.fit z.safe (by have:=z.nn;omega) (by have:=z.mm;omega) a.id).mono ?_
 rintro e k ⟨rfl,j,o,i,h⟩
 exact ZlB (ZfU (q9:=P.qps) z i h (activateS s1 a.id).2 0 0 (by rw[z.hs1];unfold doS;rw[d.out];rfl))
end
section
variable {w:World} {b:Nat} {P:Ym} {s:Ze} {va vp vl:Value} {F:List Nat} {n m:Nat} {a:ZaY} {vi vh vb vr:Value} {wR W0 w1:World} {bx L:Nat} {s1:Ze}
theorem Zrx (z:Zew w b P s va vp vl F n m a vi vh vb vr wR W0 w1 bx L s1) (hop:a.op=5):
  Calls Tryz.prog 11 #[.pointer (some ⟨b,0,none⟩), .agg (Zcm a vi vh vb vr).toArray] w (ZeR b P (doS s a).1 (doS s a).2 w F):=by
 have i:w1.cell? ⟨bx,0,none⟩=some (.int .i64 a.op):=z.own.cell rfl
 rw[hop]at i
 have q:w1.cell? ⟨bx,1,none⟩=some (.int .i64 a.id):=z.own.cell rfl
 have h:=D hop
 clear hop
 go_in
 go_upto_region 1 with fail
 rw[←z.hwR,←z.hbx,←z.hW0,←z.hL1]
 go_wp2_with fail
 refine z.add.mono ?_
 rintro e W ⟨rfl,c⟩
 rw[c];clear c W
 go_wp2_with fail
 refine(Zm7 z.at_ z.fit z.safe (by have:=z.nn;omega) (by have:=z.mm;omega) a.id).mono ?_
 rintro e p ⟨v,rfl,g,r,o,l,t,k,j,d⟩
 exact ZlB (Zkf (fps9:=P.fps) z k j g d (by rw[z.hs1];unfold doS;rw[h.out];rfl))
end
section
variable {w:World} {b:Nat} {P:Ym} {s:Ze} {va vp vl:Value} {F:List Nat} {n m:Nat} {a:ZaY} {vi vh vb vr:Value} {wR W0 w1:World} {bx L:Nat} {s1:Ze}
theorem Zrn (z:Zew w b P s va vp vl F n m a vi vh vb vr wR W0 w1 bx L s1) (hop:a.op=8):
  Calls Tryz.prog 11 #[.pointer (some ⟨b,0,none⟩), .agg (Zcm a vi vh vb vr).toArray] w (ZeR b P (doS s a).1 (doS s a).2 w F):=by
 have j:w1.cell? ⟨bx,0,none⟩=some (.int .i64 a.op):=z.own.cell rfl
 rw[hop]at j
 have i:=D hop
 clear hop
 obtain⟨d,c⟩:=Je a.time.toNat
 have g:=D c
 have r:w1.cell? ⟨bx,4,none⟩=some (.int .u64 (d:Nat)):=by rw[c,Int.toNat_of_nonneg z.af.time.1];exact z.own.cell rfl
 clear c
 go_in
 go_upto_region 1 with fail
 rw[←z.hwR,←z.hbx,←z.hW0,←z.hL1]
 go_wp2_with fail
 refine z.add.mono ?_
 rintro e W ⟨rfl,h⟩
 rw[h];clear h W
 go_wp2_with fail
 refine(Znh z.at_ z.fit z.safe (by have:=z.nn;omega) (by have:=z.mm;omega) d (by rw[g.out];have:=z.af.time.2;omega)).mono ?_
 rintro e q ⟨rfl,t,p,o,x,l,k⟩
 exact ZlB (ZfU z l k 0 0 (tickS s1 d).2 (by rw[z.hs1,g.out];unfold doS;rw[i.out];rfl))
end
section
variable {w:World} {b:Nat} {P:Ym} {s:Ze} {va vp vl:Value} {F:List Nat} {n m:Nat} {a:ZaY} {vi vh vb vr:Value} {wR W0 w1:World} {bx L:Nat} {s1:Ze}
theorem ZrA (z:Zew w b P s va vp vl F n m a vi vh vb vr wR W0 w1 bx L s1) (hop:a.op=9):
  Calls Tryz.prog 11 #[.pointer (some ⟨b,0,none⟩), .agg (Zcm a vi vh vb vr).toArray] w (ZeR b P (doS s a).1 (doS s a).2 w F):=by
 have g:w1.cell? ⟨bx,0,none⟩=some (.int .i64 a.op):=z.own.cell rfl
 rw[hop]at g
 have d:=D hop
 clear hop
 go_in
 go_upto_region 1 with fail
 rw[←z.hwR,←z.hbx,←z.hW0,←z.hL1]
 go_wp2_with fail
 refine z.add.mono ?_
 rintro e W ⟨rfl,c⟩
 rw[c];clear c W
 go_wp2_with fail
 refine(ZnC z.at_ z.fit z.safe z.env (by have:=z.nn;omega) (by have:=z.mm;omega)).mono ?_
 rintro e o ⟨rfl,l,j,k,p,i,h⟩
 exact ZlB (ZfU z i h 0 0 (stepS s1).2 (by rw[z.hs1];unfold doS;rw[d.out];rfl))
end
section
variable {w:World} {b:Nat} {P:Ym} {s:Ze} {va vp vl:Value} {F:List Nat} {n m:Nat} {a:ZaY} {vi vh vb vr:Value} {wR W0 w1:World} {bx L:Nat} {A:Option Addr} {c:Nat} {s1:Ze}
theorem ZpF (z:Zew w b P s va vp vl F n m a vi (.slice A a.headers.length c) vb vr wR W0 w1 bx L s1) (hA:Zas w A a.headers) (hoA:∀ab ao,A=some ⟨ab,ao,none⟩→ab∉F) (hop:a.op=10):
  Calls Tryz.prog 11 #[.pointer (some ⟨b,0,none⟩), .agg (Zcm a vi (.slice A a.headers.length c) vb vr).toArray] w (ZeR b P (doS s a).1 (doS s a).2 w F):=by
 have j:w1.cell? ⟨bx,0,none⟩=some (.int .i64 a.op):=z.own.cell rfl
 rw[hop]at j
 have i:=D hop
 clear hop
 have h:=D (show Zb w1 bx 0 (Zcm a vi (.slice A a.headers.length c) vb vr)from Zb.of_block z.own.blk)
 have g:=D (hA.upd z.grows.upd hoA)
 clear hA hoA
 go_in
 go_upto_region 1 with fail
 rw[←z.hwR,←z.hbx,←z.hW0,←z.hL1]
 go_wp2_with fail
 refine z.add.mono ?_
 rintro e W ⟨rfl,d⟩
 rw[d];clear d W
 go_wp2_with(refine Jl h ZnU ?_)
 refine(Zkc z.at_ z.fit z.safe z.env z.nn z.mm a vi vb vr A c g z.af.tiny).mono ?_
 rintro e r ⟨rfl,q,o,p,t,l,k⟩
 exact ZlB (ZfU z l k (answerS s1 a.id a.status a.headers).2 0 0 (by rw[z.hs1];unfold doS;rw[i.out];rfl))
end
section
variable {w:World} {b:Nat} {P:Ym} {s:Ze} {va vp vl:Value} {F:List Nat} {n m:Nat} {a:ZaY} {vi vh vb vr:Value} {wR W0 w1:World} {bx L:Nat} {s1:Ze}
theorem ZrK (z:Zew w b P s va vp vl F n m a vi vh vb vr wR W0 w1 bx L s1) (hop:a.op=12):
  Calls Tryz.prog 11 #[.pointer (some ⟨b,0,none⟩), .agg (Zcm a vi vh vb vr).toArray] w (ZeR b P (doS s a).1 (doS s a).2 w F):=by
 have g:w1.cell? ⟨bx,0,none⟩=some (.int .i64 a.op):=z.own.cell rfl
 rw[hop]at g
 have o:w1.cell? ⟨bx,1,none⟩=some (.int .i64 a.id):=z.own.cell rfl
 have d:=D hop
 clear hop
 go_in
 go_upto_region 1 with fail
 rw[←z.hwR,←z.hbx,←z.hW0,←z.hL1]
 go_wp2_with fail
 refine z.add.mono ?_
 rintro e W ⟨rfl,c⟩
 rw[c];clear c W
 go_wp2_with fail
 refine(Zm4 z.at_ z.fit z.safe (by have:=z.nn;omega) (by have:=z.mm;omega) a.id).mono ?_
 rintro e l ⟨rfl,p,k,j,q,i,h⟩
 exact ZlB (ZfU z i h (tailS s1 a.id).2 0 0 (by rw[z.hs1];unfold doS;rw[d.out];rfl))
end
end Go.Proofs.YtlhapbopmplngaaGreatDoor
