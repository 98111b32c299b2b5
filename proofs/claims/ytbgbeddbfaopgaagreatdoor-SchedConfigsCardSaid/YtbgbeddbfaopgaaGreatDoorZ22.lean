import Derived.Test.YtbgbeddbfaopgaaGreatDoorZ21
set_option linter.all false
set_option maxHeartbeats 16000000
set_option maxRecDepth 100000
set_option autoImplicit true
set_option relaxedAutoImplicit true
namespace Go.Lk
open Go.RowKit
theorem Zp7 {l:List ZM} (hn:(l.map (·.num)).Nodup) {j:Nat} (hx:l[j]? =some x) (c:Int):(l.map fun p=>if p.num==x.num then{p with conn:=c}else p)=l.set j {x with conn:=c}:=by
 apply List.ext_getElem?
 intro k
 rw[Xe,List.getElem?_set]
 by_cases e:j=k
 ·subst e
  rw[if_pos rfl,if_pos (Jk hx),hx]
  simp
 ·rw[if_neg e]
  cases hk:l[k]? with
  |none=>rfl
  |some y=>
   have i:y.num≠x.num:=fun n=>by
    have o:(l.map (·.num))[j]? =some x.num:=by rw[Xe,hx];rfl
    have m:(l.map (·.num))[k]? =some x.num:=by rw[Xe,hk,←n];rfl
    obtain⟨f,d⟩:=List.getElem?_eq_some_iff.1 o
    obtain⟨a,g⟩:=List.getElem?_eq_some_iff.1 m
    have b:=List.pairwise_iff_getElem.1 hn
    rcases Nat.lt_trichotomy j k with h|h|h
    ·exact b j k f a h (d.trans g.symm)
    ·exact e h
    ·exact b k j a f h (g.trans d.symm)
   simp[i]
theorem ZkJ {s:Zf} {i:ZQ} (hp:0<i.pre) {j:Nat} (hn:(s.pres.map (·.num)).Nodup) (hx:s.pres[j]? =some x) (hxn:x.num=i.pre) {t:ZaX×Int×Bool×Int} (ht:t=ZbE s.pool i.key s.now):
  departS s i=ZR {s with pool:=t.1,pres:=s.pres.set j {x with conn:=t.2.1}} 4 i.id i.pre t.2.1 (if t.2.2.1 then 1 else 0):=by
 unfold departS
 rw[←ht]
 dsimp only
 rw[if_pos hp,←hxn,Zp7 hn hx]
theorem ZiP {s:Zf} {i:ZQ} (hp:¬0<i.pre) {k:Nat} (hk:i.id=(k:Int)+1) (hf:s.all[k]? =some f) {t:ZaX×Int×Bool×Int} (ht:t=ZbE s.pool i.key s.now):
  departS s i=ZR {s with pool:=t.1,all:=s.all.set k {f with state:=goL f.state 4,conn:=t.2.1}} 8 i.id 0 t.2.1 (if t.2.2.1 then 1 else 0):=by
 unfold departS
 rw[←ht]
 dsimp only
 rw[if_neg hp,hk,YT (s:={s with pool:=t.1}) hf]
structure Own (w:World) (L:Nat) (cs:Array Value) (T:TypeId) (F:List Nat):Prop where
 blk:w.heap[L]? =some (.cells cs T (0,0))
 off:L∉F
theorem Own.step {cs:Array Value} (h:Own w L cs T F) (g:Zi w w1 F F1):Own w1 L cs T F1:=by
 obtain⟨b,a⟩:=g.off (Jg h.blk) h.off
 exact⟨b.trans h.blk,a⟩
theorem Own.upd0 {cs:Array Value} (h:Own w L cs T F) (hu:Zg [] w w1):Own w1 L cs T F:=h.step ⟨hu.weaken (by simp),fun k hk=> .inl hk⟩
theorem Own.cell {cs:Array Value} (h:Own w L cs T F) {k:Nat} (hk:cs[k]? =some v):w.cell? ⟨L,k,none⟩=some v:=Zc h.blk hk
end Go.Lk
namespace Go.Proofs.YtbgbeddbfaopgaaGreatDoor
open Go.RowKit Go.Lk
theorem Zh.other {L:Nat} (h:Zh w b P lk s va vp vl F) (hu:Zg [L] w w1) (hL:L∉F):Zh w1 b P lk s va vp vl F:=
 h.upd hu (fun k hk hm=>hL (by rw[Jm hm]at hk;exact hk))
section
variable {w:World} {b:Nat} {P:YI} {lk:Option Nat} {s:Zf} {va vp vl:Value} {F:List Nat}
def ZrU (b:Nat) (P:YI) (lk:Option Nat) (s:Zf) (va vp:Value) (w:World) (F:List Nat) (e:Ending) (w':World):Prop:=
 e= .returned (.tuple #[])∧∃vl' F',Zh w' b P lk s va vp vl' F'∧Zi w w' F F'
theorem Zez {P:Prop}(h:P:=by
 refine JU ?_
 refine Jo (Y7 ⟨0,0,8,i.id,0,g,o⟩).toArray bs.blk ZjV bp ?_
 rw[←aF.out]
 refine⟨_,fun W d=>d,aq.cell rfl,Zet ?_⟩
 clear k0 aA
 by_cases S:0<i.pre
 ·
  go_upto_region 4 with fail
  obtain⟨x0,aK,au⟩:=bi.out S
  obtain⟨x,hx⟩:∃x,s.pres.find? (fun p=>p.num==i.pre)=some x:=by
   cases hc:s.pres.find? (fun p=>p.num==i.pre)with
   |some x=>exact⟨x,rfl⟩
   |none=>exact absurd (List.find?_eq_none.1 hc x0 aK) (by simp[au])
  obtain⟨j,hj,aG,aJ⟩:=ZhC hx
  have an:x.num=i.pre:=by simpa using aG
  have ag:=D (ar.trans (ZkJ S HS.out.2.pn hj an HT))
  obtain⟨q,hq⟩:=T.qp hj
  obtain⟨H,ad⟩:=Je w6.drew
  have r:=Jd ad
  have z:=aT.upd0 r
  have K:=aq.upd0 r
  obtain⟨l,y⟩:=Je (H.setCell ⟨E,2,none⟩ (.int .i64 4))
  obtain⟨I,Y⟩:=Je (l.setCell ⟨E,4,none⟩ (.int .i64 i.pre))
  have ac:Zg [E] H l:=by rw[y];exact(Zg.refl _ _).setCell (.inr (by simp)) _
  have aa:Zg [E] l I:=by rw[Y];exact(Zg.refl _ _).setCell (.inr (by simp)) _
  have X:Own l E (Y7 ⟨0,0,4,i.id,0,g,o⟩).toArray 56 N:=⟨by rw[y,Ze z.blk];rfl,z.off⟩
  have ax:Own I E (Y7 ⟨0,0,4,i.id,i.pre,g,o⟩).toArray 56 N:=⟨by rw[Y,Ze X.blk];rfl,z.off⟩
  have h9:=((T.upd0 r).other ac z.off).other aa z.off
  have aj:Own l L #[.int .i64 i.id, .int .i64 i.cls, .int .u64 i.since, .string ⟨i.key.toArray⟩, .int .i64 i.pre] 171 N:=⟨(ac.block L (Jg K.blk) (by have:=aR.out;simp;omega)).trans K.blk,K.off⟩
  have a2:H.cell? ⟨E,2,none⟩=some (.int .i64 8):=z.cell rfl
  have b2:H.frozen? ⟨E,2,none⟩=false:=Zk z.blk
  have a4:l.cell? ⟨E,4,none⟩=some (.int .i64 0):=X.cell rfl
  have b4:l.frozen? ⟨E,4,none⟩=false:=Zk X.blk
  have ak:H.cell? ⟨L,4,none⟩=some (.int .i64 i.pre):=K.cell rfl
  have am:l.cell? ⟨L,4,none⟩=some (.int .i64 i.pre):=aj.cell rfl
  have a9:I.cell? ⟨L,4,none⟩=some (.int .i64 i.pre):=(Xp (aa.block L (Jg aj.blk) (by have:=aR.out;simp;omega))).trans am
  have H9:=D h9;have aM:=D ax;have HQ:=D hq;have HJ:=D hj;have a5:=D aJ
  have G9:=D (show Zi w I F N from⟨((G6.upd.trans r (by simp)).trans ac (fun k C=> .inl (by rw[Jm C];have h1:=HE.out;have h2:=aC.size;have h3:=aD.upd.size;have h4:w4.heap.size=w3.heap.size:=(by rw[Q.out];rfl);omega))).trans aa (fun k C=> .inl (by rw[Jm C];have h1:=HE.out;have h3:=aD.upd.size;have h4:w4.heap.size=w3.heap.size:=(by rw[Q.out];rfl);omega)),G6.new⟩)
  clear aK au hx hj aG aJ hq r z K ac aa X ax h9 aj;change Hid _ at an ad y Y
  refine Jr [0,4,8,13,16,22] (fun W=>W.cell? ⟨L,4,none⟩=some (.int .i64 i.pre)) (by rw[ad.out]at ak;exact ak) ?_
  repeat first|refine Jn ?_|refine Jf ?_|refine Ju ?_
  refine JE ?_
  simp only[Xu]
  rw[←ad.out]
  go_wp2_with fail
  rw[←y.out]
  refine⟨_,fun W d=>d,am,?_⟩
  repeat first|refine Jn ?_|refine Jf ?_|refine Ju ?_
  refine JL ?_
  go_wp2_with fail
  rw[←Y.out]
  refine Jz ?_
  go_wp2_with fail
  refine(Zf1 H9 (by have:=ae.pres;dsimp only;omega) HQ HJ _ an a5).mono ?_
  rintro e W ⟨rfl,d⟩
  rw[d]
  clear d W
  obtain⟨Z,ba,aw⟩:=H9.flight HQ HJ.out
  have q2:=Jx 2 Z
  have f2:I.frozen? ⟨q,2,none⟩=false:=Zk Z
  obtain⟨ay,V⟩:=Je (I.setCell ⟨q,2,none⟩ (.int .i64 g))
  obtain⟨bD,aL,ab⟩:=aw ay {x with conn:=g} (by rw[V,Ze Z];rfl) (by rw[V];exact(Zg.refl _ _).setCell (.inr (by simp)) _)
  have a0:=D aL;have aX:=D (G9.trans ab);have bx:=D (aM.step ab)
  have af:=D (show Zb ay E 0 (Y7 ⟨0,0,4,i.id,i.pre,g,o⟩)from Zb.of_block (aM.step ab).blk)
  clear Z ba aw aL ab;change Hid _ at V
  go_upto_region 9 with fail
  rw[←V.out]
  go_wp2_with(refine Jl af ZjV ?_)
  refine(Zag a0 (by have:=ae.log;dsimp only;omega) _ _ _ _ _ _ _).mono ?_
  rintro e a6 ⟨rfl,aU,a1,J,M⟩
  have ah:=D J;have ao:=D (aX.trans M)
  clear J M a2 b2 a4 b4 ak am a9 q2 f2 k4
  go_wp2_with fail
  (try simp only[Exit.inBlock,Exit.then])
  first|refine bodyPost_ret (results_none rfl _ _ _) rfl ?_|refine bodyPost_end (results_none rfl _ _ _) rfl ?_
  have er:R=ZR {s with pool:=tp,pres:=s.pres.set j {x with conn:=g}} 4 i.id i.pre g o:=by rw[ag.out,aQ.out]
  rw[er]
  exact⟨rfl,_,_,ah.out,ao.out⟩
 ·
  obtain⟨k,C⟩:∃k:Nat,i.id=(k:Int)+1:=⟨(i.id-1).toNat,by have:=aO.out.1;omega⟩
  obtain⟨f,O⟩:∃f,s.all[k]? =some f:=⟨_,Xa (by have:=aO.out.2;omega)⟩
  have ag:=D (ar.trans (ZiP S C O HT))
  obtain⟨p,ap⟩:=T.fp O
  have l0:w6.cell? ⟨L,0,none⟩=some (.int .i64 i.id):=aq.cell rfl
  obtain⟨lb,be,aB,av⟩:=T.life ap O
  have HK:=D C;have HF:=D O;have ai:=D ap;have bc:=D aB;have aV:=D av
  clear C O ap aB av
  go_wp2_with fail
  refine(ZaF T (by have:=ae.all;dsimp only;omega) ai _ HK).mono ?_
  rintro e W ⟨rfl,d⟩
  rw[d]
  clear d W
  go_wp2_with fail
  refine(ZcP bc 4).mono ?_
  rintro e H ⟨rfl,az,r⟩
  obtain⟨F7,h7,g7⟩:=aV.out H _ az r
  have al:=ZP (f':={f with state:=goL f.state 4}) HF.out
  obtain⟨bB,bz,bE,aI,_⟩:=h7.fcell ai al
  have bf:=Jx 17 aI
  obtain⟨bb,F8,h8,g8⟩:=h7.setFCell ai al 17 (.int .i64 g) {f with state:=goL f.state 4,conn:=g} (fun _ _ _ _=>rfl) rfl rfl rfl
  rw[List.set_set]at h8
  obtain⟨l,y⟩:=Je (H.setCell ⟨p,17,none⟩ (.int .i64 g))
  rw[←y]at h8 g8
  have H8:=D h8;have G8:=D ((G6.trans g7).trans g8)
  have af:=D (show Zb l E 0 (Y7 ⟨0,0,8,i.id,0,g,o⟩)from Zb.of_block ((aT.step g7).step g8).blk)
  clear h7 g7 h8 g8 az r al aI be;change Hid _ at y
  go_upto_region 9 with fail
  rw[←y.out]
  go_wp2_with(refine Jl af ZjV ?_)
  refine(Zag H8 (by have:=ae.log;dsimp only;omega) _ _ _ _ _ _ _).mono ?_
  rintro e a6 ⟨rfl,aU,a1,J,M⟩
  have ah:=D J;have ao:=D (G8.trans M)
  clear J M bf bb l0 k4
  go_wp2_with fail
  (try simp only[Exit.inBlock,Exit.then])
  first|refine bodyPost_ret (results_none rfl _ _ _) rfl ?_|refine bodyPost_end (results_none rfl _ _ _) rfl ?_
  have er:R=ZR {s with pool:=tp,all:=s.all.set k {f with state:=goL f.state 4,conn:=g}} 8 i.id 0 g o:=by rw[ag.out,aQ.out]
  rw[er]
  exact⟨rfl,_,_,ah.out,ao.out⟩):P:=h
theorem ZfP (h:Zh w b P lk s va vp vl F) (hfit:ZW s n m) (hs:Lk.Safe s) (hn:n≤800000) (hm:m≤900000) (i:ZQ) (hpre:0<i.pre→∃x∈s.pres,x.num=i.pre) (hid:1≤i.id∧i.id≤s.all.length):
  Calls Tryz.prog 85 #[.pointer (some ⟨b,0,none⟩), .agg #[.int .i64 i.id, .int .i64 i.cls, .int .u64 i.since, .string ⟨i.key.toArray⟩, .int .i64 i.pre]] w (ZrU b P lk (departS s i) va vp w F):=by
 obtain⟨R,ar⟩:=Je (departS s i)
 rw[←ar]
 obtain⟨w1,aS⟩:=Je (w.alloc (.cells #[.int .i64 i.id, .int .i64 i.cls, .int .u64 i.since, .string ⟨i.key.toArray⟩, .int .i64 i.pre] 171))
 have bl:=Ja aS
 have bv:=h.lt
 obtain⟨L,HL⟩:=Je w.heap.size
 have bg:Own w1 L #[.int .i64 i.id, .int .i64 i.cls, .int .u64 i.since, .string ⟨i.key.toArray⟩, .int .i64 i.pre] 171 F:=⟨by rw[aS,HL];exact Za _,fun hm=>by have:=bv L hm;omega⟩
 obtain⟨w2,aH⟩:=Je w1.drew
 have aC:Zg [] w w2:=by rw[aH];exact bl.drew
 have h2:=h.upd0 aC
 have a3:Own w2 L #[.int .i64 i.id, .int .i64 i.cls, .int .u64 i.since, .string ⟨i.key.toArray⟩, .int .i64 i.pre] 171 F:=bg.upd0 (by rw[aH];exact(Zg.refl [] w1).drew)
 have c8:=Jx 8 h2.blk.1
 have c7:=Jx 7 h2.blk.1
 have k3:w2.cell? ⟨L,3,none⟩=some (.string ⟨i.key.toArray⟩):=a3.cell rfl
 obtain⟨G,S,_,bj⟩:=h2.pool
 obtain⟨t,HT⟩:=Je (ZbE s.pool i.key s.now)
 have bC:=hfit.pl
 have aW:=D (ZnV S i.key s.now (by omega))
 rw[←HT]at aW
 have H2:=D h2;have bF:=D a3;have bq:=D bj;have ae:=D hfit;have HS:=D hs;have bi:=D hpre;have aO:=D hid
 clear bl bv bg h2 a3 S bj bC hfit hs h hpre hid;change Hid _ at ar HT aS aH HL aC
 go_enter Tryz.func85,Tryz.ntmps85
 go_upto_region 1 with fail
 rw[←aS.out,←HL.out]
 refine Jr [0,4,8,12,16,20,24,28,32,36,41,46,48,52,56,60,64,68,72] (fun W=>W.cell? ⟨b,8,none⟩=some (.pointer (some ⟨P.pool,0,none⟩))∧W.cell? ⟨b,7,none⟩=some (.pointer (some ⟨P.clock,0,none⟩))∧W.cell? ⟨L,3,none⟩=some (.string ⟨i.key.toArray⟩)) (by rw[aH.out]at c8 c7 k3;exact⟨c8,c7,k3⟩) ?_
 repeat first|refine Jn ?_|refine Jf ?_|refine Ju ?_
 refine JE ?_
 simp only[Xu]
 rw[←aH.out]
 go_wp2_with fail
 refine(Za5 H2.clock.1).mono ?_
 rintro e W ⟨rfl,d⟩
 rw[d]
 clear d W
 go_wp2_with fail
 refine⟨_,fun W d=>d,⟨c8,c7,k3⟩,?_⟩
 refine JL ?_
 go_wp2_with fail
 refine aW.out.mono ?_
 obtain⟨tp,g,tf,te⟩:=t
 dsimp only
 rintro e w3 ⟨rfl,G3,br,bm⟩
 obtain⟨N,h3,g3⟩:=bq.out w3 tp G3 br bm
 have H3:=D h3;have aD:=D (g3.pre0 aC);have bo:=D (bF.step g3)
 clear h3 g3 br bm c8 c7 k3 aW bq
 go_wp2_with fail
 refine⟨fun _=>True,trivial,?_⟩
 repeat first|refine Jn ?_|refine Jf ?_|refine Ju ?_
 refine ZL ?_
 go_upto_region 2 with fail
 obtain⟨w4,Q⟩:=Je w3.drew
 have aZ:=Jd Q
 have a8:=D (bo.upd0 aZ)
 have k0:w4.cell? ⟨L,0,none⟩=some (.int .i64 i.id):=a8.cell rfl
 obtain⟨o,bd⟩:∃x:Int,x=(if tf then 1 else 0):=⟨_,rfl⟩
 have aQ:=D bd
 obtain⟨w5,aE⟩:=Je (w4.alloc (.cells #[.int .i64 0, .int .u64 0, .int .i64 0, .int .i64 0, .int .i64 0, .int .i64 0, .int .i64 0] 56))
 obtain⟨E,HE⟩:=Je w4.heap.size
 have aY:=Ja aE
 have bk:=H3.lt
 have bA:w4.heap.size=w3.heap.size:=by rw[Q];rfl
 have aP:Own w5 E #[.int .i64 0, .int .u64 0, .int .i64 0, .int .i64 0, .int .i64 0, .int .i64 0, .int .i64 0] 56 N:=⟨by rw[aE,HE];exact Za _,fun hm=>by have:=bk E hm;omega⟩
 have bw:E≠L:=by have:=(Jg a8.blk);omega
 obtain⟨w6,aF⟩:=Je (w5.setRow E (Y7 ⟨0,0,8,i.id,0,g,o⟩).toArray)
 have bn:Zg [E] w5 w6:=by rw[aF];exact(Zg.refl _ _).setRow (.inr (by simp)) _
 have bu:Own w6 E (Y7 ⟨0,0,8,i.id,0,g,o⟩).toArray 56 N:=⟨by rw[aF];exact setRow_heap _ _ _ _ _ _ aP.blk,aP.off⟩
 have aN:Zg [] w3 w6:=(aZ.trans aY (by simp)).trans bn (fun k C=> .inl (by rw[Jm C];omega))
 have h6:=H3.upd0 aN
 have a7:Own w6 L #[.int .i64 i.id, .int .i64 i.cls, .int .u64 i.since, .string ⟨i.key.toArray⟩, .int .i64 i.pre] 171 N:=bo.upd0 aN
 have aA:w5.cell? ⟨L,0,none⟩=some (.int .i64 i.id):=(a8.upd0 aY).cell rfl
 have k4:w6.cell? ⟨L,4,none⟩=some (.int .i64 i.pre):=a7.cell rfl
 have T:=D h6;have aT:=D bu;have aq:=D a7;have G6:=D (aD.upd0 aN);have bs:=D aP
 have bp:=D (show(Y7 ⟨0,0,8,i.id,0,g,o⟩).toArray.all (·.oneCell')=true by rw[Xl,Xk];exact ZfD _)
 have aR:=D bw
 have bh:=D (show∀W,Calls Tryz.prog 156 #[.bool tf] W fun e w'=>e= .returned (.int .i64 o)∧w'=W from fun W=>by rw[bd];exact Zpr tf W)
 clear aZ aY bk bA aP bn bu aN h6 a7 bd bw;change Hid _ at Q aE aF HE
 refine ZbL (.held 0 (.held 1 (.held 2 (.held 3 (.two 4 (.held 5 (.eff 6 (.eff 7 (.nil)))) 6 (.eff 4 (.held 5 (.eff 7 (.nil))))))))) (fun W=>W.cell? ⟨L,0,none⟩=some (.int .i64 i.id)) (by kernel_rfl) (by kernel_rfl) (fun c a w t v h=>by cases t<;>exact h) (by rw[Q.out]at k0;exact k0) ?_
 repeat first|refine JN ?_|refine JF ?_
 apply ZdM
 case ho=>simp only[Xh,Xf,Xg];rfl
 case ho2=>simp only[Xh,Xf,Xg];rfl
 case h=>
  simp only[Xu]
  rw[←Q.out]
  go_wp2_with fail
  refine(bh.out _).mono ?_
  rintro e W ⟨rfl,d⟩
  rw[d]
  clear d W
  go_wp2_with fail
  refine⟨_,fun W d=>d,k0,?_⟩
  repeat first|refine JN ?_|refine JF ?_
  refine JU ?_
  go_wp2_with fail
  rw[←aE.out,←HE.out]
  refine⟨_,fun W d=>d,aA,?_⟩
  exact Zez
 case h2=>
  simp only[Xu]
  rw[←Q.out]
  go_wp2_with fail
  rw[←aE.out,←HE.out]
  refine⟨_,fun W d=>d,aA,?_⟩
  refine JU ?_
  go_wp2_with fail
  refine(bh.out _).mono ?_
  rintro e W ⟨rfl,d⟩
  rw[d]
  clear d W
  go_wp2_with fail
  refine⟨_,fun W d=>d,aA,?_⟩
  repeat first|refine JN ?_|refine JF ?_
  exact Zez
end
end Go.Proofs.YtbgbeddbfaopgaaGreatDoor
namespace Go.Lk
theorem ZdW:∀(l:List Bs) (x:Bs),x∈ZU l→x∈l
 |[],x,h=>h
 |[a],x,h=>h
 |a::b::l,x,h=>by
  unfold ZU at h
  split at h
  ·exact List.mem_cons_of_mem _ (ZdW (b::l) x h)
  ·rcases List.mem_cons.1 h with h|h
   ·exact h▸List.mem_cons_self
   ·exact List.mem_cons_of_mem _ (ZdW (b::l) x h)
theorem Zl9 {l:List (Bs×Bs)} (hf:∀x∈l,x.1.length≤900000) (hl:l.length≤100000):(Zdy l).length≤200000∧∀x∈Zdy l,x.length≤900000:=by
 have i:(ZcZ l).length≤100000:=by unfold ZcZ;rw[Xb];exact Xj (Xq _ _) hl
 have j:(ZdC l).length≤100000:=by unfold ZdC;rw[Xb];exact Xj (Xq _ _) hl
 have d:∀x∈ZcZ l,x.length≤900000:=fun x hx=>by
  unfold ZcZ at hx
  obtain⟨h,b,rfl⟩:=List.mem_map.1 hx
  rw[Zgm];exact hf h (List.mem_filter.1 b).1
 have g:∀x∈ZdC l,x.length≤900000:=fun x hx=>by
  unfold ZdC at hx
  obtain⟨h,b,rfl⟩:=List.mem_map.1 hx
  rw[Zgm];exact hf h (List.mem_filter.1 b).1
 rw[Ziz]
 obtain⟨a,c⟩:=Je (if 1024<ZiM l then ZcZ l++ZdC l else ZcZ l)
 rw[←c]
 have f:a.length≤200000∧∀x∈a,x.length≤900000:=by
  rw[c]
  split
  ·refine⟨by rw[Xd];omega,fun x hx=> ?_⟩
   rcases List.mem_append.1 hx with hx|hx
   ·exact d x hx
   ·exact g x hx
  ·exact⟨by omega,d⟩
 refine⟨?_,fun x hx=> ?_⟩
 ·have:=Zd1 (ZbK a)
  have k:(ZbK a).length=a.length:=by unfold ZbK;exact List.length_mergeSort ..
  omega
 ·have e:=ZdW _ _ hx
  unfold ZbK at e
  exact f.2 x (List.mem_mergeSort.1 e)
theorem ZfA {r:Yb} (hf:∀x∈r.headers,x.1.length≤900000) (hl:r.headers.length≤100000):(ZaR r).length≤200000∧(∀x∈ZaR r,x.length≤900000)∧(Lib.join (ZaR r) [44]).length≤140737488355328:=by
 have h:(ZaR r).length≤200000∧∀x∈ZaR r,x.length≤900000:=by
  rw[Zjp]
  split
  ·exact⟨by simp,by simp⟩
  ·exact Zl9 hf hl
 refine⟨h.1,h.2,?_⟩
 have a:=ZeW [44] 900000 (ZaR r) h.2
 calc _≤(900000+([44]:Bs).length)*(ZaR r).length:=a
  _≤900001*200000:=Nat.mul_le_mul (by simp) h.1
  _≤140737488355328:=by omega
end Go.Lk
namespace Go.Proofs.YtbgbeddbfaopgaaGreatDoor
open Go.RowKit Go.Lk
theorem Zix (r:Yb) (vh:Value) (w:World) (h:Za0 w r vh) (hE:Env w):
  Calls Tryz.prog 151 #[.agg (Zv r vh).toArray] w fun e w'=>e= .returned (.agg (YC (Zdm r)).toArray)∧Zg [] w w':=by
 obtain⟨g,l⟩:=Je ((w.alloc (.cells (Zv r vh).toArray 43)).alloc (.cells #[.string ⟨#[]⟩, .string ⟨#[]⟩, .bool false] 250))
 have j:Zg [] w g:=by rw[l];exact((Zg.refl [] w).alloc _).alloc _
 have I:g.heap[w.heap.size]? =some (.cells (Zv r vh).toArray 43 (0,0)):=by rw[l,ZB _ (by simp)];exact Za _
 have Z:g.heap[w.heap.size+1]? =some (.cells #[.string ⟨#[]⟩, .string ⟨#[]⟩, .bool false] 250 (0,0)):=by
  rw[l]
  have:=Za (w:=w.alloc (.cells (Zv r vh).toArray 43)) (.cells #[.string ⟨#[]⟩, .string ⟨#[]⟩, .bool false] 250 (0,0));simpa using this
 have M:=Zex r vh g (h.upd0 j) (hE.upd0 j)
 obtain⟨n,N⟩:=Je (YP r)
 rw[←N]at M
 have Q1:=D M;have ab:=D j;have HE:=D hE
 have S:=D Yp;have aa:=D (show Zu Tryz.prog 250 3=true by kernel_rfl)
 have z:=D I;have C:=D Z
 have Q:=D (show Zb g w.heap.size 0 (Zv r vh)from Zb.of_block I)
 obtain⟨p,K⟩:=Je w.heap.size
 obtain⟨a,F⟩:=Je (w.heap.size+1)
 rw[←K]at z Q
 rw[←F]at C
 have af:=D (show w.heap.size≤p∧w.heap.size≤a∧p≠a∧a≠p by omega)
 have al:=D (h.upd0 j)
 clear M j I Z hE h;change Hid _ at l N K F
 obtain⟨d,J⟩:=Je (Zdm r)
 have ac:=D (show d=⟨n.origin,n.url,n.creds⟩by rw[J,N.out];rfl)
 rw[←J]
 clear J
 go_enter Tryz.func151,Tryz.ntmps151
 go_upto_region 1 with fail
 rw[←l.out,←F.out,←K.out]
 go_wp2_with(refine Jl Q S ?_)
 refine Q1.out.mono ?_
 rintro e c ⟨E,Mn,rfl,O,_,H⟩
 have R:=Zb8 n E O.one
 have ah:=D R
 obtain⟨m,s⟩:=Je ((c.alloc (.cells #[.string ⟨#[]⟩, .string ⟨#[]⟩, .string ⟨#[]⟩, .int .i64 0, .bool false, .slice none 0 0, .int .i64 0, .int .u64 0, .int .i64 0, .int .i64 0] 43 (0,0))).setRow c.heap.size (Zv n E).toArray)
 have X:=D (Za (w:=c) (.cells #[.string ⟨#[]⟩, .string ⟨#[]⟩, .string ⟨#[]⟩, .int .i64 0, .bool false, .slice none 0 0, .int .i64 0, .int .u64 0, .int .i64 0, .int .i64 0] 43 (0,0)))
 have k:m.heap[c.heap.size]? =some (.cells (Zv n E).toArray 43 (0,0)):=by rw[s];exact setRow_heap _ _ _ _ _ _ X.out
 have P:Zg [] c m:=by rw[s];exact((Zg.refl [] c).alloc _).setRow (.inl (Xi _)) _
 have i:Zg [] g m:=H.trans P (by simp)
 have aj:=D i;have ad:=Jt ab i
 have ak:=D ((i.block p (Jg z) (by simp)).trans z)
 have W:=D ((i.block a (Jg C) (by simp)).trans C)
 obtain⟨nb,V⟩:=Je c.heap.size
 have am:=D (show nb≠a∧nb≠p by have h1:=H.size;have h2:=(Jg C);have h3:=(Jg z);omega)
 clear R P i H O Q1;change Hid _ at s k
 go_upto_region 2 with(refine Jo (Zv n E).toArray X S ah ?_;rw[←s.out])
 rw[←V]at k⊢
 clear V
 have r2:=Jc 2 k.out
 have r1:=Jc 1 k.out
 have r4:=Jc 4 k.out
 obtain⟨w4,y⟩:=Je (m.setRow a (YC d).toArray)
 have T:w4.heap[a]? =some (.cells (YC d).toArray 250 (0,0)):=by rw[y];exact setRow_heap _ _ _ _ _ _ W.out
 have Y:Zg [a] m w4:=by rw[y];exact(Zg.refl _ _).setRow (.inr (by simp)) _
 have ae:=D (((ad.weaken (G:=[a]) (by simp)).trans Y (fun q L=> .inr L)).weaken (G:=[]) (fun q L=> .inl (by rw[Jm L];exact af.out.2.1)))
 have ai:=D (show(YC d).toArray.all (·.oneCell')=true by
  rw[Xl,Xk]
  intro x hx
  simp only[YC,List.mem_cons,List.not_mem_nil,or_false]at hx
  rcases hx with rfl|rfl|rfl<;>rfl)
 have ag:=D (show(#[.string ⟨n.origin.toArray⟩, .string ⟨n.url.toArray⟩, .bool n.creds]:Array Value)=(YC d).toArray by rw[ac.out];rfl)
 clear Y;change Hid _ at T y
 go_wp2_with(first|(refine Zbc _ rfl 250 (.tmp 2) (.tmp 12) rfl a (YC d).toArray #[.string ⟨#[]⟩, .string ⟨#[]⟩, .bool false] 250 rfl (by rw[←ag.out];rfl) aa W rfl ai ?_;rw[←y.out]))
 refine bodyPost_ret (v:= .agg (YC d).toArray) (Zs _ Tryz.results151 (b:=a) (o:=0) rfl aa (Zb.of_block T)) rfl ?_
 exact⟨rfl,ae.out⟩
theorem Zqq (r:Yb) (vh:Value) (w:World) (h:Za0 w r vh) (hE:Env w):
  Calls Tryz.prog 154 #[.agg (Zv r vh).toArray] w fun e w'=>e= .returned (.agg (Zaf (Zb1 r)).toArray)∧Zg [] w w':=by
 obtain⟨p,z⟩:=Je ((w.alloc (.cells (Zv r vh).toArray 43)).alloc (.cells #[.string ⟨#[]⟩, .string ⟨#[]⟩, .bool false, .string ⟨#[]⟩, .string ⟨#[]⟩] 256))
 have y:Zg [] w p:=by rw[z];exact((Zg.refl [] w).alloc _).alloc _
 have aa:p.heap[w.heap.size]? =some (.cells (Zv r vh).toArray 43 (0,0)):=by rw[z,ZB _ (by simp)];exact Za _
 have ar:p.heap[w.heap.size+1]? =some (.cells #[.string ⟨#[]⟩, .string ⟨#[]⟩, .bool false, .string ⟨#[]⟩, .string ⟨#[]⟩] 256 (0,0)):=by
  rw[z]
  have:=Za (w:=w.alloc (.cells (Zv r vh).toArray 43)) (.cells #[.string ⟨#[]⟩, .string ⟨#[]⟩, .bool false, .string ⟨#[]⟩, .string ⟨#[]⟩] 256 (0,0));simpa using this
 have q1:=Zex r vh p (h.upd0 y) (hE.upd0 y)
 obtain⟨n,HN⟩:=Je (YP r)
 rw[←HN]at q1
 have Q1:=D q1;have aK:=D y;have HE:=D hE
 have E:=D Yp;have aC:=D (show Zu Tryz.prog 256 5=true by kernel_rfl)
 have I:=D aa;have J:=D ar
 have aw:=D (show Zb p w.heap.size 0 (Zv r vh)from Zb.of_block aa)
 obtain⟨l,ac⟩:=Je w.heap.size
 obtain⟨g,T⟩:=Je (w.heap.size+1)
 rw[←ac]at I aw
 rw[←T]at J
 have aH:=D (show w.heap.size≤l∧w.heap.size≤g∧l≠g∧g≠l by omega)
 have H:=D (h.upd0 y)
 clear q1 y aa ar hE h;change Hid _ at z HN ac T
 obtain⟨C,ag⟩:=Je (Zdm r)
 obtain⟨ns,L⟩:=Je (ZaR r)
 obtain⟨js,X⟩:=Je (Lib.join ns [44])
 obtain⟨k,ad⟩:=Je (Zb1 r)
 have aF:=D (show k=⟨C,n.method,js⟩by rw[ad,ag,X,L,HN.out];rfl)
 rw[←ad]
 clear ad
 go_enter Tryz.func154,Tryz.ntmps154
 go_upto_region 1 with fail
 rw[←z.out,←T.out,←ac.out]
 go_wp2_with(refine Jl aw E ?_)
 refine Q1.out.mono ?_
 rintro e m ⟨O,Mn,rfl,ah,_,V⟩
 have am:=Zb8 n O ah.one
 have aJ:=D am
 obtain⟨j,F⟩:=Je ((m.alloc (.cells #[.string ⟨#[]⟩, .string ⟨#[]⟩, .string ⟨#[]⟩, .int .i64 0, .bool false, .slice none 0 0, .int .i64 0, .int .u64 0, .int .i64 0, .int .i64 0] 43 (0,0))).setRow m.heap.size (Zv n O).toArray)
 have az:=D (Za (w:=m) (.cells #[.string ⟨#[]⟩, .string ⟨#[]⟩, .string ⟨#[]⟩, .int .i64 0, .bool false, .slice none 0 0, .int .i64 0, .int .u64 0, .int .i64 0, .int .i64 0] 43 (0,0)))
 have ab:j.heap[m.heap.size]? =some (.cells (Zv n O).toArray 43 (0,0)):=by rw[F];exact setRow_heap _ _ _ _ _ _ az.out
 have ai:Zg [] m j:=by rw[F];exact((Zg.refl [] m).alloc _).setRow (.inl (Xi _)) _
 have s:Zg [] p j:=V.trans ai (by simp)
 have ak:=D s;have af:=Jt aK s
 have aE:=D ((s.block l (Jg I) (by simp)).trans I)
 have ay:=D ((s.block g (Jg J) (by simp)).trans J)
 obtain⟨N,ax⟩:=Je m.heap.size
 have aN:=D (show N≠g∧N≠l by have h1:=V.size;have h2:=(Jg J);have h3:=(Jg I);omega)
 clear am ai s V ah Q1;change Hid _ at F ab
 go_upto_region 2 with(refine Jo (Zv n O).toArray az E aJ ?_;rw[←F.out])
 rw[←ax]at ab⊢
 clear ax
 simp only[Act.put]
 have qc:∀W,Zg [] j W→Calls Tryz.prog 151 #[.agg (Zv r vh).toArray] W fun e w'=>e= .returned (.agg (YC C).toArray)∧Zg [] W w':=fun W d=>by rw[ag];exact Zix r vh W (H.upd0 (ak.trans d (by simp))) (HE.upd0 (af.trans d (by simp)))
 have qn:∀W,Zg [] j W→Calls Tryz.prog 152 #[.agg (Zv r vh).toArray] W (Zdo W ns):=fun W d=>by rw[L];exact ZgW r vh W (H.upd0 (ak.trans d (by simp))) (HE.upd0 (af.trans d (by simp)))
 have R:=ZfA (r:=r) (fun x hx=>(H.few x hx).1) H.n
 rw[←L]at R
 have aj:=D R
 have QC:=D qc;have QN:=D qn
 clear ag L qc qn R;change Hid _ at X
 obtain⟨S,P⟩:∃S:World→Prop,S=fun W=>W.cell? ⟨N,0,none⟩=some (.string ⟨n.method.toArray⟩)∧Zb W l 0 (Zv r vh):=⟨_,rfl⟩
 have M:=D (show∀W W',S W→Zg [] W W'→S W' from fun W W' d hu=>by
  rw[P]at d⊢
  exact⟨(Xp (hu.block N (Xo _ _ d.1) (by simp))).trans d.1,d.2.upd hu (by simp)⟩)
 have an:=D (show S j by rw[P];exact⟨Zc (i:=0) ab rfl,Zb.of_block aE⟩)
 have Y:=D P
 clear P
 refine ZX [(0,0),(2,0),(3,0),(4,0),(1,1),(5,1),(6,1),(7,0),(8,2)] S (by kernel_rfl) (by kernel_rfl) (fun c a w t v h=>by cases t<;>exact h) (M.out _ _ an ((Zg.refl [] j).drewN 1)) ?_
 apply Zq (t:= 43) (x:= .tmp 1) (b:=l) (of:=0) (cs:=Zv r vh)
 case ho=>simp only[Xh,Xf,Xg];rfl
 case hg=>rfl
 case hop=>rfl
 case hx=>rfl
 case ht=>exact E.out
 case hb=>intro W d;rw[Y.out]at d;exact d.2
 case ha=>go_simp;rfl
 repeat first|refine Jn ?_|refine Jf ?_|refine Ju ?_
 apply Zan (v:= .string ⟨n.method.toArray⟩)
 case ho=>simp only[Xh,Xf,Xg];rfl
 case hg=>rfl
 case hv=>intro W d;rw[Y.out]at d;have d0:=d.1;clear d;go_simp
 case ha=>go_simp;rfl
 apply Zq (t:= 43) (x:= .tmp 1) (b:=l) (of:=0) (cs:=Zv r vh)
 case ho=>simp only[Xh,Xf,Xg];rfl
 case hg=>rfl
 case hop=>rfl
 case hx=>rfl
 case ht=>exact E.out
 case hb=>intro W d;rw[Y.out]at d;exact d.2
 case ha=>go_simp;rfl
 refine JE ?_
 simp only[Xu]
 go_wp2_with fail
 refine(QC.out _ ((Zg.refl [] j).drewN 1)).mono ?_
 rintro e w4 ⟨rfl,aq⟩
 have Q:=D (show Zg [] j w4 from((Zg.refl [] j).drewN 1).trans aq (by simp))
 have au:=D (M.out _ _ an Q)
 clear aq QC
 go_wp2_with fail
 refine⟨S,fun _ h=>h,au.out,?_⟩
 refine JE ?_
 go_wp2_with fail
 refine(QN.out w4 Q).mono ?_
 rintro e w5 ⟨v5,M5,rfl,aB,_,Z⟩
 have aD:=Jt Q Z
 have ao:=D (M.out _ _ au Z)
 have q6:=ZcH aB (by have:=aj.out.1;omega) [44] aj.out.2.2
 rw[←X.out]at q6
 have Q6:=D q6
 clear Z QN aB q6
 go_wp2_with fail
 refine⟨S,fun _ h=>h,ao.out,?_⟩
 refine JE ?_
 go_wp2_with fail
 refine Q6.out.mono ?_
 rintro e w6 ⟨rfl,ae⟩
 have al:=Jt aD ae
 have aG:=D (M.out _ _ ao ae)
 have av:=D ((al.block g (Jg ay) (by simp)).trans ay)
 clear ae Q6
 go_wp2_with fail
 refine⟨S,fun _ h=>h,aG.out,?_⟩
 obtain⟨w7,K⟩:=Je (w6.setRow g (Zaf k).toArray)
 have aA:w7.heap[g]? =some (.cells (Zaf k).toArray 256 (0,0)):=by rw[K];exact setRow_heap _ _ _ _ _ _ av.out
 have ap:Zg [g] w6 w7:=by rw[K];exact(Zg.refl _ _).setRow (.inr (by simp)) _
 have aI:=D ((((af.trans al (by simp)).weaken (G:=[g]) (by simp)).trans ap (fun q hq=> .inr hq)).weaken (G:=[]) (fun q hq=> .inl (by rw[Jm hq];exact aH.out.2.1)))
 have aM:=D (show(Zaf k).toArray.all (·.oneCell')=true by
  rw[Xl,Xk]
  intro x hx
  simp only[Zaf,YC,List.cons_append,List.nil_append,List.mem_cons,List.not_mem_nil,or_false]at hx
  rcases hx with rfl|rfl|rfl|rfl|rfl<;>rfl)
 have aL:=D (show(#[.string ⟨C.origin.toArray⟩, .string ⟨C.url.toArray⟩, .bool C.creds, .string ⟨n.method.toArray⟩, .string ⟨js.toArray⟩]:Array Value)=(Zaf k).toArray by rw[aF.out];rfl)
 clear ap;change Hid _ at aA K
 apply Zan (v:= .agg (Zaf k).toArray)
 case ho=>simp only[Xh,Xf,Xg];rfl
 case hg=>rfl
 case hv=>
  intro W d
  clear d
  rw[←aL.out]
  simp only[YC]
  go_simp
 case ha=>go_simp;rfl
 refine JL ?_
 go_wp2_with(refine Jo (Zaf k).toArray av aC aM ?_;rw[←K.out])
 refine Jz ?_
 go_wp2_with fail
 refine bodyPost_ret (v:= .agg (Zaf k).toArray) (Zs _ Tryz.results154 (b:=g) (o:=0) rfl aC (Zb.of_block aA)) rfl ?_
 exact⟨rfl,aI.out⟩
theorem Zbh {P:Program} {Q:Exit→Act→World→Prop} {ops:Array Oper} {i:Nat} {o:Oper} {S:World→Prop} {a a':Act} (ho:ops[i]? =some o) (hg:Region.wanted o (yielded ops a.tmps)=true) (t:TypeId) (x:Operand) (hop:o.op= .load t x) (b of:Nat) (cs:List Value)
  (hx:a.eval x= .pointer (some ⟨b,of,none⟩)) (ht:Zu P t cs.length=true) (hb:∀W,S W→Zb W b of cs) (ha:a.put o.dst (.agg cs.toArray)=a') (h:Z4 P ops Q r S a' w):Z4 P ops Q ((i,0)::r) S a w:=
 Zd7 (v:= .agg cs.toArray) ho hg (fun W hW=>by
  unfold execOp
  simp only[hop,Sem.run_bind,Sem.run_pure,Result.andThen_ok,hx,Ym W ht (hb W hW)]) ha h
def Zbw:ZQ:=⟨0,0,0,[],0⟩
theorem Zkp (l:List ZQ) (now ag:Nat) (shut:List Bs) {k:Nat} (h:l[k]? =some x):
  Zaj (l.take (k+1)) now ag shut=if shut.contains x.key then Zaj (l.take k) now ag shut else match Zaj (l.take k) now ag shut with
   |none=>some x
   |some y=>if Zg2 x y now ag then some x else some y:=by
 rw[ZY h]
 unfold Zaj
 rw[List.foldl_append,List.foldl_cons,List.foldl_nil]
 generalize List.foldl _ none (l.take k)=z
 split
 ·rfl
 ·cases z<;>rfl
theorem Zmh {l:List ZQ} {now ag:Nat} {shut:List Bs} (h:Zaj (l.take k) now ag shut=some x):x∈l:=List.mem_of_mem_take (Y4 h)
theorem ZkI {b ag:Nat} (h:YA b ag l w F) (hl:l.length≤1000000) (now:Nat) (A:Option Addr) (c:Nat) (shut:List Bs) (hs:Y1 w A shut) (hsl:shut.length≤1000000)
  (hnow:now≤18446744073709551615) (hag:ag≤18446744073709551615) (hsi:∀i∈l,i.since≤18446744073709551615):
  Calls Tryz.prog 80 #[.pointer (some ⟨b,0,none⟩), .int .u64 now, .slice A shut.length c] w fun e w'=>e= .returned (.tuple #[.agg (ZJ ((Zaj l now ag shut).getD Zbw)).toArray, .bool (Zaj l now ag shut).isSome])∧Zg [] w w':=by
 obtain⟨v,G,rfl,aO,hb,hr⟩:=h
 obtain⟨Aq,cq,rfl,aM,al⟩:=hr.lies
 rw[Xb]at aM hb
 have c0:=Zc (i:=0) hb rfl
 have c1:=Zc (i:=1) hb rfl
 simp only[List.getElem_toArray,Xv,List.getElem_cons_succ]at c0 c1
 have a:=D (show Zu Tryz.prog 171 5=true by kernel_rfl)
 have HB:=D hb;have HL:=D al;have HS:=D hs;have aA:=D hsi
 have aw:=D (Jg hb)
 have Y:=D (fun(W:World) (k:Bs) (hu:Zg [] w W)=>Zke A c shut k (hs.upd hu (by simp)) hsl)
 have aC:=D (fun(W:World) (i j:ZQ) (h3:i.since≤18446744073709551615) (h4:j.since≤18446744073709551615)=>Zov i j now ag W hnow hag h3 h4)
 clear hb hr al hs hsi hnow hag hsl
 go_enter Tryz.func80,Tryz.ntmps80
 go_upto_region 4 with fail
 obtain⟨T,N⟩:=Je ((w.alloc (.cells (ZJ Zbw).toArray 171)).alloc (.cells (ZJ Zbw).toArray 171))
 have af:Zg [] w T:=by rw[N];exact((Zg.refl [] w).alloc _).alloc _
 have ap:T.heap[w.heap.size]? =some (.cells (ZJ Zbw).toArray 171 (0,0)):=by rw[N,ZB _ (by simp)];exact Za _
 have ar:T.heap[w.heap.size+1]? =some (.cells (ZJ Zbw).toArray 171 (0,0)):=by
  rw[N];have:=Za (w:=w.alloc (.cells (ZJ Zbw).toArray 171)) (.cells (ZJ Zbw).toArray 171);simpa using this
 have P:(w.alloc (.cells #[.int .i64 0, .int .i64 0, .int .u64 0, .string ⟨#[]⟩, .int .i64 0] 171)).alloc (.cells #[.int .i64 0, .int .i64 0, .int .u64 0, .string ⟨#[]⟩, .int .i64 0] 171)=T:=N.symm
 rw[P]
 have K:=(af.block b aw (by simp)).trans HB.out
 have aK:=Jc 0 K
 clear N P K c0 c1;change Hid _ at af ap ar
 go_wp2
 go_loopw[9,21] (fun s9 s21 wr=>∃kk:Nat,kk≤l.length∧s21= .int .i64 kk∧s9= .bool (Zaj (l.take kk) now ag shut).isSome∧Hid (Zg [] w wr∧wr.heap[w.heap.size]? =some (.cells (ZJ Zbw).toArray 171 (0,0))∧wr.heap[w.heap.size+1]? =some (.cells (ZJ ((Zaj (l.take kk) now ag shut).getD Zbw)).toArray 171 (0,0)))) (fun _ s21 _=>l.length-(intOf s21).toNat)
 case atStart=>exact⟨0,Xn _,rfl,rfl,D ⟨af,ap.out,ar.out⟩⟩
 case round=>
  obtain⟨kk,aP,rfl,rfl,d⟩:=hrel
  obtain⟨m,E⟩:=Je (Zaj (l.take kk) now ag shut)
  have av:=D E
  rw[←E]at d⊢
  clear aK
  by_cases aL:kk<l.length
  ·obtain⟨x,hx⟩:∃x,l[kk]? =some x:=⟨_,Xa aL⟩
   have aq:=Xc hx
   have ae:=Zkp l now ag shut hx
   rw[←E]at ae
   obtain⟨ab,rfl,ay⟩:=HL.out kk (ZJ x) (by rw[Xe,hx];rfl)
   have aN:=D (ay.upd d.out.1 (by simp))
   have aa:=D ae
   have aJ:=D (aA.out x aq)
   have aI:=D (show∀y,m=some y→y.since≤18446744073709551615 from fun y hy=>aA.out y (Zmh (E.symm.trans hy)))
   have K:=(d.out.1.block b aw (by simp)).trans HB.out
   obtain⟨z,S⟩:=Je ((wr.alloc (.cells (ZJ Zbw).toArray 171)).setRow wr.heap.size (ZJ x).toArray)
   have ao:=D (Za (w:=wr) (.cells #[.int .i64 0, .int .i64 0, .int .u64 0, .string ⟨#[]⟩, .int .i64 0] 171 (0,0)))
   have Z:z.heap[wr.heap.size]? =some (.cells (ZJ x).toArray 171 (0,0)):=by rw[S];exact setRow_heap _ _ _ _ _ _ ao.out
   have M:Zg [] wr z:=by rw[S];exact((Zg.refl [] wr).alloc _).setRow (.inl (Xi _)) _
   have ai:=(M.block _ (Jg d.out.2.2) (by simp)).trans d.out.2.2
   have ak:=(M.block _ (Jg d.out.2.1) (by simp)).trans d.out.2.1
   have ad:=(M.block b (Jg K) (by simp)).trans K
   have q:=D Z;have I:=D (d.out.1.trans M (by simp));have g:=D ai;have Q:=D ak;have aB:=D ad
   have HO:=D (show(ZJ x).toArray.all (·.oneCell')=true by rw[Xl,Xk];exact ZcR x)
   have r:z.cell? ⟨wr.heap.size,3,none⟩=some (.string ⟨x.key.toArray⟩):=Zc Z rfl
   have p:=Jc 1 ad
   clear hx aq ay Z M ai ak ad K ae E;change Hid _ at S
   obtain⟨aH,C⟩:=Je (shut.contains x.key)
   go_upto_region 7 with(first|refine Js aN a ?_|(refine Jo (ZJ x).toArray ao a HO ?_;have P:(wr.alloc (.cells #[.int .i64 0, .int .i64 0, .int .u64 0, .string ⟨#[]⟩, .int .i64 0] 171)).setRow wr.heap.size (ZJ x).toArray=z:=S.symm;rw[P];clear P))
   change Hid _ at C
   cases aH with
   |true=>
    have n:=D (show Zaj (l.take (kk+1)) now ag shut=m by rw[aa.out,←C.out];rfl)
    refine Jr [0,4,8,13,16,20,24,28,32,36,40,44,48,52,56,60,64,68,72] (fun W=>W.cell? ⟨wr.heap.size,3,none⟩=some (.string ⟨x.key.toArray⟩)∧W.cell? ⟨b,1,none⟩=some (.int .u64 ag)∧Zb W wr.heap.size 0 (ZJ x)∧Zb W (w.heap.size+1) 0 (ZJ (m.getD Zbw))) ⟨r,p,Zb.of_block q,Zb.of_block g⟩ ?_
    repeat first|refine Jn ?_|refine Jf ?_|refine Ju ?_
    refine JE ?_
    simp only[Xu]
    go_wp2_with fail
    refine(Y.out _ x.key (I.drewN 1)).mono ?_
    rintro e O ⟨rfl,s⟩
    rw[s,←C.out];clear s O
    go_wp2_with fail
    refine⟨_,fun _ h=>h,⟨r,p,Zb.of_block q,Zb.of_block g⟩,?_⟩
    repeat first|refine Jn ?_|refine Jf ?_|refine Ju ?_
    refine ZL ?_
    clear p r
    go_wp2
    go_roundw
    case rel=>exact⟨kk+1,by omega,by go_num,by rw[n.out],D ⟨I.drewN _,Q.out,by rw[n.out];exact g⟩⟩
    case measure=>simp[intOf];omega
   |false=>
    cases m with
    |none=>
     have n:=D (show Zaj (l.take (kk+1)) now ag shut=some x by rw[aa.out,←C.out];rfl)
     refine Jr [0,4,8,13,16,20,24,28,32,36,40,44,48,52,56,60,64,68,72] (fun W=>W.cell? ⟨wr.heap.size,3,none⟩=some (.string ⟨x.key.toArray⟩)∧W.cell? ⟨b,1,none⟩=some (.int .u64 ag)∧Zb W wr.heap.size 0 (ZJ x)∧Zb W (w.heap.size+1) 0 (ZJ (Zbw))) ⟨r,p,Zb.of_block q,Zb.of_block g⟩ ?_
     repeat first|refine Jn ?_|refine Jf ?_|refine Ju ?_
     refine JE ?_
     simp only[Xu]
     go_wp2_with fail
     refine(Y.out _ x.key (I.drewN 1)).mono ?_
     rintro e O ⟨rfl,s⟩
     rw[s,←C.out];clear s O
     go_wp2_with fail
     refine⟨_,fun _ h=>h,⟨r,p,Zb.of_block q,Zb.of_block g⟩,?_⟩
     repeat first|refine Jn ?_|refine Jf ?_|refine Ju ?_
     refine ZL ?_
     have ah:=D (show Zb (z.drewN 1) wr.heap.size 0 (ZJ x)from Zb.of_block q)
     have J:=D (show(z.drewN 1).heap[w.heap.size+1]? =some (.cells (ZJ Zbw).toArray 171 (0,0))from g.out)
     clear p r
     have ac:=D (show(z.drewN 1).heap[w.heap.size]? =some (.cells (ZJ Zbw).toArray 171 (0,0))from Q.out)
     go_wp2_with(first|refine Jl ah a ?_|refine Jo (ZJ x).toArray J a HO ?_)
     go_roundw
     case rel=>
      refine⟨kk+1,by omega,by go_num,by rw[n.out];rfl,D ⟨(I.drewN 1).setRow (.inl (by omega)) _,?_,?_⟩⟩
      ·rw[setRow_other _ _ _ _ (by omega)];exact ac.out
      ·rw[n.out];exact setRow_heap _ _ _ _ _ _ J.out
     case measure=>simp[intOf];omega
    |some y=>
     obtain⟨lt,X⟩:=Je (Zg2 x y now ag)
     have n:=D (show Zaj (l.take (kk+1)) now ag shut=if lt then some x else some y by rw[aa.out,←C.out,X];rfl)
     have am:=D (aC.out (z.drewN 1) x y aJ (aI.out y rfl))
     rw[←X]at am
     clear X
     refine Jr [0,4,8,13,16,20,24,28,32,36,40,44,48,52,56,60,65,68,72] (fun W=>W.cell? ⟨wr.heap.size,3,none⟩=some (.string ⟨x.key.toArray⟩)∧W.cell? ⟨b,1,none⟩=some (.int .u64 ag)∧Zb W wr.heap.size 0 (ZJ x)∧Zb W (w.heap.size+1) 0 (ZJ (y))) ⟨r,p,Zb.of_block q,Zb.of_block g⟩ ?_
     repeat first|refine Jn ?_|refine Jf ?_|refine Ju ?_
     refine JE ?_
     simp only[Xu]
     go_wp2_with fail
     refine(Y.out _ x.key (I.drewN 1)).mono ?_
     rintro e O ⟨rfl,s⟩
     rw[s,←C.out];clear s O
     go_wp2_with fail
     refine⟨_,fun _ h=>h,⟨r,p,Zb.of_block q,Zb.of_block g⟩,?_⟩
     repeat first|refine Jn ?_|refine Jf ?_|refine Ju ?_
     apply Zbh (t:= 171) (b:=wr.heap.size) (of:=0) (cs:=ZJ x)
     case ho=>simp only[Xh,Xf,Xg];rfl
     case hg=>rfl
     case hop=>rfl
     case hx=>rfl
     case ht=>exact a.out
     case hb=>exact fun W hW=>hW.2.2.1
     case ha=>go_simp;rfl
     apply Zbh (t:= 171) (b:=w.heap.size+1) (of:=0) (cs:=ZJ y)
     case ho=>simp only[Xh,Xf,Xg];rfl
     case hg=>rfl
     case hop=>rfl
     case hx=>rfl
     case ht=>exact a.out
     case hb=>exact fun W hW=>hW.2.2.2
     case ha=>go_simp;rfl
     repeat first|refine Jn ?_|refine Jf ?_|refine Ju ?_
     refine JE ?_
     go_wp2_with fail
     refine am.out.mono ?_
     rintro e L ⟨rfl,H⟩
     have az:=D ((I.drewN 1).trans H (by simp))
     have R:=(H.block _ (Jg q) (by simp)).trans q.out
     have V:=(H.block _ (Jg g) (by simp)).trans g.out
     have aj:=(H.block _ (Jg Q) (by simp)).trans Q.out
     have an:=(H.block _ (Jg aB) (by simp)).trans aB.out
     have ah:=D (show Zb L wr.heap.size 0 (ZJ x)from Zb.of_block R)
     have J:=D (show L.heap[w.heap.size+1]? =some (.cells (ZJ y).toArray 171 (0,0))from V)
     have ax:=D aj
     have aE:=D (show L.cell? ⟨wr.heap.size,3,none⟩=some (.string ⟨x.key.toArray⟩)∧L.cell? ⟨b,1,none⟩=some (.int .u64 ag)∧Zb L wr.heap.size 0 (ZJ x)∧Zb L (w.heap.size+1) 0 (ZJ y)from⟨Zc R rfl,Zc (i:=1) an rfl,Zb.of_block R,Zb.of_block V⟩)
     clear H R V aj an
     go_wp2_with fail
     refine⟨_,fun _ h=>h,aE.out,?_⟩
     repeat first|refine Jn ?_|refine Jf ?_|refine Ju ?_
     refine ZL ?_
     clear p r
     cases lt with
     |true=>
      have ac:=D (ax.out)
      go_wp2_with(first|refine Jl ah a ?_|refine Jo (ZJ x).toArray J a HO ?_)
      go_roundw
      case rel=>
       refine⟨kk+1,by omega,by go_num,by rw[n.out];rfl,D ⟨az.setRow (.inl (by omega)) _,?_,?_⟩⟩
       ·rw[setRow_other _ _ _ _ (by omega)];exact ac.out
       ·rw[n.out];exact setRow_heap _ _ _ _ _ _ J.out
      case measure=>simp[intOf];omega
     |false=>
      go_wp2
      go_roundw
      case rel=>exact⟨kk+1,by omega,by go_num,by rw[n.out];rfl,D ⟨az,ax.out,by rw[n.out];exact J⟩⟩
      case measure=>simp[intOf];omega
  ·obtain rfl:kk=l.length:=by omega
   rw[Xm]at av
   clear E
   have aG:=D (show Zb wr (w.heap.size+1) 0 (ZJ (m.getD Zbw))from Zb.of_block d.out.2.2)
   have au:=D d.out.2.1
   have aF:=D (show(ZJ (m.getD Zbw)).toArray.all (·.oneCell')=true by rw[Xl,Xk];exact ZcR _)
   go_wp2_with(first|refine Jl aG a ?_|refine Jo (ZJ (m.getD Zbw)).toArray au a aF ?_)
   have aD:=setRow_heap wr w.heap.size (ZJ Zbw).toArray (ZJ (m.getD Zbw)).toArray 171 (0,0) au.out
   refine bodyPost_ret (v:= .tuple #[.agg (ZJ (m.getD Zbw)).toArray, .bool m.isSome]) ?_ ?_ ?_
   ·exact Zl _ (x:=6) (t:= 171) (y:=7) (b:=w.heap.size) (o:=0) rfl rfl rfl a (Zb.of_block aD)
   ·rfl
   ·exact⟨by rw[av.out],d.out.1.setRow (.inl (Xi _)) _⟩
section
variable {w:World} {b:Nat} {P:YI} {lk:Option Nat} {s:Zf} {va vp vl:Value} {F:List Nat}
theorem Zh.req (h:Zh w b P lk s va vp vl F) (hfit:ZW s n m) {i p:Nat} (hp:P.fps[i]? =some p) (hf:s.all[i]? =some f):
  ∃vh,Za0 w f.req vh∧Zb w p 1 (Zv f.req vh)∧∃lb vb,w.heap[p]? =some (.cells (ZaG f (lk==some i) vh lb vb).toArray 112 (0,0)):=by
 obtain⟨vh,lb,vb,C,x,d,_,_⟩:=h.fetch hp hf
 have a:=(hfit.fs f (Xc hf)).req
 obtain⟨A,c,r,z,q⟩:=d.hdrs.hdrs
 refine⟨vh,⟨a.m,a.u,a.o,a.h,a.hs,A,c,r,q⟩,fun j v g=> ?_,lb,vb,d.blk⟩
 have l:j<10:=by have:=(Jk g);simpa[Zv]using this
 refine Zc (i:=1+j) d.blk ?_
 have e:∀k:Nat,k<10→(ZaG f (lk==some i) vh lb vb).toArray[1+k]? =(Zv f.req vh)[k]? :=by
  intro k y
  rcases k with _|_|_|_|_|_|_|_|_|_|k<;>first|rfl|omega
 rw[e j l];exact g
theorem Zds (h:Zh w b P lk s va vp vl F) (hE:Env w) (g:Zi w w1 F F1):Env w1:=hE.upd g.upd (fun k hk=>h.two k hk)
theorem ZlA (h:Zh w b P lk s va vp vl F) (hfit:ZW s n m) (hE:Env w) {i p:Nat} (hp:P.fps[i]? =some p) (hf:s.all[i]? =some f):
  Calls Tryz.prog 83 #[.pointer (some ⟨b,0,none⟩), .pointer (some ⟨p,0,none⟩)] w fun e w'=>e= .returned (.bool (ZgK s f))∧Zg [] w w':=by
 obtain⟨R,hR⟩:=Je (ZgK s f)
 rw[←hR]
 obtain⟨w1,C⟩:=Je w.drew
 have E:=Jd C
 have I:=h.upd0 E
 have ad:=hE.upd0 E
 obtain⟨g,ae,ab,lb,vb,X⟩:=I.req hfit hp hf
 have H:=D ae
 obtain⟨S,K⟩:∃S:World→Prop,S=fun W=>W.cell? ⟨p,15,none⟩=some (.bool f.cleared)∧W.cell? ⟨p,1,none⟩=some (.string ⟨f.req.method.toArray⟩)∧W.cell? ⟨b,10,none⟩=some (.pointer (some ⟨P.cache,0,none⟩))∧W.cell? ⟨b,7,none⟩=some (.pointer (some ⟨P.clock,0,none⟩))∧Zb W p 1 (Zv f.req g):=⟨_,rfl⟩
 have ao:=D (show S w1 by rw[K];exact⟨Zc (i:=15) X rfl,Zc (i:=1) X rfl,Zc (i:=10) I.blk.1 rfl,Zc (i:=7) I.blk.1 rfl,ab⟩)
 have Z:=D (show∀W L,S W→Zg [] W L→S L from fun W L d hu=>by
  rw[K]at d⊢
  have j:∀{x k:Nat} {v:Value},W.cell? ⟨x,k,none⟩=some v→L.cell? ⟨x,k,none⟩=some v:=fun{x k v} j=>(Xp (hu.block x (Xo _ _ j) (by simp))).trans j
  exact⟨j d.1,j d.2.1,j d.2.2.1,j d.2.2.2.1,d.2.2.2.2.upd hu (by simp)⟩)
 have o:=D K
 have H1:=D I;have ai:=D ad;have ay:=D hfit
 obtain⟨cl,O⟩:=Je f.cleared
 obtain⟨nd,Q⟩:=Je (Zdz f.req)
 obtain⟨cv,T⟩:=Je (Zhx s.cache (Zdm f.req) f.req.method (ZaR f.req) s.now)
 have Y:=D (show R=(!cl&&nd&& !cv)by rw[hR,O,Q,T];rfl)
 clear hR h hfit hE hp hf I ad ae ab X K;change Hid _ at C E O Q T
 go_enter Tryz.func83,Tryz.ntmps83
 go_upto_region 1 with fail
 rw[←O.out]at o
 refine ZX ((0,0)::(1,0)::(2,0)::(3,0)::(4,0)::(5,0)::(6,0)::(7,0)::(8,0)::(9,0)::(10,2)::(11,0)::(12,0)::(13,0)::(14,0)::(15,0)::(16,0)::(17,0)::(18,0)::(19,0)::(20,0)::(22,0)::(23,0)::(24,0)::(25,0)::(26,0)::(27,0)::(28,0)::(29,0)::(30,0)::(32,0)::(33,0)::(34,0)::(35,0)::(21,1)::(31,1)::(36,1)::(37,2)::(38,0)::(39,0)::(40,0)::[]) (fun W=>W.cell? ⟨p,15,none⟩=some (.bool cl)∧W.cell? ⟨p,1,none⟩=some (.string ⟨f.req.method.toArray⟩)∧W.cell? ⟨b,10,none⟩=some (.pointer (some ⟨P.cache,0,none⟩))∧W.cell? ⟨b,7,none⟩=some (.pointer (some ⟨P.clock,0,none⟩))∧Zb W p 1 (Zv f.req g)) (by kernel_rfl) (by kernel_rfl) (fun c a w t v h=>by cases t<;>exact h) (by have q:=ao.out;rw[C.out,o.out]at q;exact q) ?_
 cases cl with
 |true=>
  repeat first|refine Jn ?_|refine Jf ?_|refine Ju ?_
  refine JL ?_
  simp only[Xu]
  rw[←C.out]
  go_wp2_with fail
  refine⟨fun _=>True,trivial,?_⟩
  repeat first|refine Jn ?_|refine Jf ?_|refine Ju ?_
  refine JE ?_
  go_wp2_with fail
  refine⟨_,fun W d=>d,trivial,?_⟩
  refine JE ?_
  go_wp2_with fail
  refine⟨_,fun W d=>d,trivial,?_⟩
  refine JE ?_
  go_wp2_with fail
  refine⟨_,fun W d=>d,trivial,?_⟩
  refine JL ?_
  go_wp2_with fail
  refine⟨fun _=>True,trivial,?_⟩
  repeat first|refine Jn ?_|refine Jf ?_|refine Ju ?_
  refine ZL ?_
  go_wp2_with fail
  go_ret
  exact⟨by rw[Y.out];rfl,E.out⟩
 |false=>
  repeat first|refine Jn ?_|refine Jf ?_|refine Ju ?_
  apply Zbh (t:= 43) (x:= .tmp 13) (b:=p) (of:=1) (cs:=Zv f.req g)
  case ho=>simp only[Xh,Xf,Xg];rfl
  case hg=>rfl
  case hop=>rfl
  case hx=>rfl
  case ht=>exact Yp
  case hb=>exact fun W d=>d.2.2.2.2
  case ha=>go_simp;rfl
  refine JL ?_
  simp only[Xu]
  rw[←C.out]
  go_wp2_with fail
  have q1:=ZgX f.req g w1 H ai.out
  rw[←Q.out]at q1
  refine q1.mono ?_
  rintro e w2 ⟨rfl,l⟩
  have am:=D (Z.out _ _ ao l)
  have ak:=Jt E l
  have al:=D (ai.upd0 l)
  have aa:=D (H.upd0 l)
  have H2:=D (H1.upd0 l)
  clear q1 l
  cases nd with
  |false=>
   go_wp2_with fail
   refine⟨fun _=>True,trivial,?_⟩
   repeat first|refine Jn ?_|refine Jf ?_|refine Ju ?_
   refine JE ?_
   go_wp2_with fail
   refine⟨_,fun W d=>d,trivial,?_⟩
   refine JE ?_
   go_wp2_with fail
   refine⟨_,fun W d=>d,trivial,?_⟩
   refine JE ?_
   go_wp2_with fail
   refine⟨_,fun W d=>d,trivial,?_⟩
   refine JL ?_
   go_wp2_with fail
   refine⟨fun _=>True,trivial,?_⟩
   repeat first|refine Jn ?_|refine Jf ?_|refine Ju ?_
   refine ZL ?_
   go_wp2_with fail
   go_ret
   exact⟨by rw[Y.out];rfl,ak.out⟩
  |true=>
   go_wp2_with fail
   refine⟨fun W=>W.cell? ⟨p,15,none⟩=some (.bool false)∧W.cell? ⟨p,1,none⟩=some (.string ⟨f.req.method.toArray⟩)∧W.cell? ⟨b,10,none⟩=some (.pointer (some ⟨P.cache,0,none⟩))∧W.cell? ⟨b,7,none⟩=some (.pointer (some ⟨P.clock,0,none⟩))∧Zb W p 1 (Zv f.req g),(by have q:=am.out;rw[o.out]at q;exact q),?_⟩
   repeat first|refine Jn ?_|refine Jf ?_|refine Ju ?_
   apply Zbh (t:= 43) (x:= .tmp 24) (b:=p) (of:=1) (cs:=Zv f.req g)
   case ho=>simp only[Xh,Xf,Xg];rfl
   case hg=>rfl
   case hop=>rfl
   case hx=>rfl
   case ht=>exact Yp
   case hb=>exact fun W d=>d.2.2.2.2
   case ha=>go_simp;rfl
   repeat first|refine Jn ?_|refine Jf ?_|refine Ju ?_
   apply Zbh (t:= 43) (x:= .tmp 34) (b:=p) (of:=1) (cs:=Zv f.req g)
   case ho=>simp only[Xh,Xf,Xg];rfl
   case hg=>rfl
   case hop=>rfl
   case hx=>rfl
   case ht=>exact Yp
   case hb=>exact fun W d=>d.2.2.2.2
   case ha=>go_simp;rfl
   repeat first|refine Jn ?_|refine Jf ?_|refine Ju ?_
   refine JE ?_
   go_wp2_with fail
   refine(Zix f.req g w2 aa al).mono ?_
   rintro e w3 ⟨rfl,y⟩
   have ac:=D (Z.out _ _ am y)
   have ax:=Jt ak y
   have aw:=D (al.upd0 y)
   have aq:=D (aa.upd0 y)
   have H3:=D (H2.upd0 y)
   clear y
   go_wp2_with fail
   refine⟨_,fun W d=>d,(by have q:=ac.out;rw[o.out]at q;exact q),?_⟩
   refine JE ?_
   go_wp2_with fail
   refine(ZgW f.req g w3 aq aw).mono ?_
   rintro e w4 ⟨vn,M,rfl,af,au,J⟩
   obtain⟨A4,c4,rfl,_,an⟩:=af.strs
   have ag:=D (Z.out _ _ ac J)
   have av:=Jt ax J
   have ah:=D an
   have H4:=D (H3.upd0 J)
   clear J af au an
   obtain⟨ns,z⟩:=Je (ZaR f.req)
   rw[←z]at ah⊢
   obtain⟨ln,V⟩:=Je ns.length
   rw[←V]
   change Hid _ at z V
   go_wp2_with fail
   refine⟨_,fun W d=>d,(by have q:=ag.out;rw[o.out]at q;exact q),?_⟩
   refine JE ?_
   go_wp2_with fail
   refine(Za5 H4.clock.1).mono ?_
   rintro e W ⟨rfl,d⟩
   rw[d]
   clear d W
   go_wp2_with fail
   refine⟨_,fun W d=>d,(by have q:=ag.out;rw[o.out]at q;exact q),?_⟩
   refine JL ?_
   go_wp2_with fail
   obtain⟨G,ap,_,_⟩:=H4.cache
   have N:=ZfA (r:=f.req) (fun x hx=>(H.few x hx).1) H.n
   rw[V.out]
   have q5:=Zkg ap (Zdm f.req) f.req.method (by have:=H.m;omega) A4 c4 ns ah (by rw[z.out];have:=N.1;omega) (fun n hn=>by rw[z.out]at hn;have:=N.2.1 n hn;omega) s.now
   rw[z.out,←T.out,←z.out]at q5
   refine q5.mono ?_
   rintro e w6 ⟨rfl,aj⟩
   have ar:=Jt av aj
   clear aj q5 N ap
   go_wp2_with fail
   refine⟨fun _=>True,trivial,?_⟩
   repeat first|refine Jn ?_|refine Jf ?_|refine Ju ?_
   refine ZL ?_
   go_wp2_with fail
   go_ret
   exact⟨by rw[Y.out];rfl,ar.out⟩
end
section
variable {w:World} {b:Nat} {P:YI} {lk:Option Nat} {s:Zf} {va vp vl:Value} {F:List Nat}
theorem Zof (h:Zh w b P lk s va vp vl F) (hfit:ZW s n m) (hn:n≤900000) (q:ZdA) (id:Int) (hid:1≤id):
  Calls Tryz.prog 153 #[.pointer (some ⟨P.shares,0,none⟩), .agg (Zaf q).toArray, .int .i64 id] w fun e w'=>∃(c:Int) (F1:List Nat),e= .returned (.tuple #[.int .i64 (Zat s q id).2.1, .bool (Zat s q id).2.2, .int .i64 c])∧Zh w' b P lk (Zat s q id).1 va vp vl F1∧Zi w w' F F1:=by
 obtain⟨a,G,d,hg,X,N⟩:=h.shares
 have W:a.length=s.shares.length:=by rw[←d,Xb]
 have Z:=hfit.sn
 have z:a.length≤1000000:=by omega
 have K:ZcI a=(s.shares.map (·.members.length)).sum:=by unfold ZcI;rw[←d,List.map_map];rfl
 have Y:=hfit.sh
 have x:∀p∈a,p.2.members.length≤1000000:=fun p I=>by
  have T:p.2∈s.shares:=by rw[←d];exact List.mem_map_of_mem I
  have:=Zgg T;omega
 have J:a.any (fun p=>p.2.members.contains id)=s.shares.any (fun o=>o.members.contains id):=by rw[←d,List.any_map];rfl
 by_cases j:id<1∨s.shares.any (fun o=>o.members.contains id)=true∨64≤(s.shares.map (·.members.length)).sum
 ·have t:Zat s q id=(s,0,false):=by unfold Zat;rw[if_pos j]
  rw[t]
  refine(ZhU hg z x (by omega) q id hid ?_).mono ?_
  ·rw[J,K]
   rcases j with g|g|g
   ·omega
   ·exact .inl g
   ·exact .inr g
  ·rintro e w' ⟨c,rfl,Q⟩
   exact⟨c,F,rfl,h.upd0 Q,⟨Q.weaken (by simp),fun k V=> .inl V⟩⟩
 ·have M:a.findIdx? (fun p=>p.2.members.contains id)=none:=by
   rw[List.findIdx?_eq_none_iff]
   intro p I
   have g:s.shares.any (fun o=>o.members.contains id)=false:=by
    cases hc:s.shares.any (fun o=>o.members.contains id)with
    |false=>rfl
    |true=>exact absurd (.inr (.inl hc)) j
   rw[←J,List.any_eq_false]at g
   simpa using g p I
  have L:ZcI a<64:=by rw[K];omega
  have O:a.findIdx? (fun p=>p.2.want==q)=s.shares.findIdx? (fun o=>o.want==q):=by rw[←d,List.findIdx?_map];rfl
  cases hq:s.shares.findIdx? (fun o=>o.want==q)with
  |some k=>
   obtain⟨o,ho,_,_⟩:=Zi2 hq
   obtain⟨i,R,S⟩:∃i,a[k]? =some i∧i.2=o:=by
    have e:=congrArg (fun l=>l[k]?) d
    rw[ho]at e
    simp only[Xe,Option.map_eq_some_iff]at e
    exact e
   subst S
   have t:Zat s q id=({s with shares:=s.shares.set k {i.2 with members:=i.2.members++[id]}},i.2.num,false):=by
    unfold Zat;rw[if_neg j,hq];dsimp only;rw[ho]
   rw[t]
   refine(Zid hg z x q id hid M L (O.trans hq) R).mono ?_
   rintro e w' ⟨c,rfl,_,v,F1,C,y⟩
   obtain⟨H,r,E⟩:=N w' _ s.slast _ C y
   rw[List.map_set,d]at r
   exact⟨c,H,rfl,r,E⟩
  |none=>
   have t:Zat s q id=({s with shares:=s.shares++[⟨s.slast+1,q,[id]⟩],slast:=s.slast+1},s.slast+1,true):=by
    unfold Zat;rw[if_neg j,hq]
   rw[t]
   refine(Zir hg z x q id hid M L (O.trans hq) hfit.sl.1 (by have:=hfit.sl.2;omega)).mono ?_
   rintro e w' ⟨c,rfl,_,v,F1,C,y⟩
   obtain⟨H,r,E⟩:=N w' _ _ _ C y
   rw[Xs,d]at r
   exact⟨c,H,rfl,r,E⟩
theorem Zh.addPres (h:Zh w b P lk s va vp vl F) {wa:World} {fb:Nat} (hu:Zg [] w wa) (hfb:wa.heap[fb]? =some (.cells (ZbV x).toArray 259 (0,0))) (hn:w.heap.size≤fb):
  ∃G,Zj 178 1 vp (P.qps.map Zda) wa G∧(∀k∈G,k∈F)∧b∉G∧(∀(i p:Nat) (f:ZE),P.fps[i]? =some p→s.all[i]? =some f→p∉G)∧∀(w1 w2:World) (vp':Value) (G1:List Nat),Zj 178 1 vp' ((P.qps++[fb]).map Zda) w1 G1→Zi wa w1 G G1→
   w2.heap[b]? =some (.cells (Y3 s P va vp' vl).toArray 84 (0,0))→Zg [b] w1 w2→∃F1,Zh w2 b {P with qps:=P.qps++[fb]} lk {s with pres:=s.pres++[x]} va vp' vl F1∧Zi w w2 F F1:=by
 obtain⟨a,o,d⟩:=h.lay
 have C:=Yi b P lk s va vp vl
 have I:=h.lt
 have ac:a.length=15:=by rw[d.len];simp[Z0]
 have n:=Xa (l:=a) (i:=0) (by omega)
 have g:=Xa (l:=a) (i:=2) (by omega)
 have m:=Xa (l:=a) (i:=14) (by omega)
 obtain⟨z,_⟩:=d.lies 0 _ _ rfl n
 have Y:=d.lies 2 _ _ rfl g
 obtain⟨e,A,T⟩:=d.lies 14 _ _ rfl m
 have aa:fb<wa.heap.size:=(Jg hfb)
 have O:=(Zd _ _ _ _).upd Y hu (by simp)
 have y:=Xa (l:=a) (i:=13) (by omega)
 have R:∀(i p:Nat) (f:ZE),P.fps[i]? =some p→s.all[i]? =some f→p∉a[2]:=fun i p f Z hf j=>by
  obtain⟨ab,G3,e3,_,_,E,V⟩:=YG.list_get (d.lies 13 _ _ rfl y) (ZfF (lk:=lk) Z hf)
  obtain⟨vh,lb,vb,Gh,Gb,rfl,_⟩:=E
  exact d.apart 2 13 _ _ g y (by omega) p j (V p (by simp))
 refine⟨a[2],O,fun k c=>by rw[o];exact Zw g c,fun j=>d.apart 0 2 _ _ n g (by omega) b (by rw[z];simp) j,R,fun w1 w2 vp' G1 X hg hb M=> ?_⟩
 have J:=T.upd (Zbv _ _) hu (fun k _ c=>by cases c)
 have N:Z8 e.flatten [fb]:=fun k c j=>by
  have W:k∈a[14]:=by rw[A];exact c
  have E:=I k (by rw[o];exact Zw m W)
  simp at j;omega
 have hj:=Lays.join J (A1:=ZcQ fb x) (F1:=[fb]) ⟨rfl,hfb⟩ N
 have K:YG.list (YM (P.qps++[fb]) (s.pres++[x])) wa (e++[[fb]]).flatten:=⟨_,rfl,by rw[ZkW h.ql];exact hj⟩
 have s0:=d.step C m (A1:=YG.list (YM (P.qps++[fb]) (s.pres++[x]))) (w1:=wa) (F1:=(e++[[fb]]).flatten) K ⟨hu.weaken (by simp),fun k c=>by
  simp only[List.flatten_append,List.mem_append,List.flatten_cons,List.flatten_nil,List.append_nil,List.mem_singleton]at c
  rcases c with c|rfl
  ·exact .inl (by rw[A];exact c)
  ·exact .inr hn⟩
 have q:=ZdT C (YG.list_local (Zbv (P.qps++[fb]) (s.pres++[x]))) 14
 have S:(a.set 14 (e++[[fb]]).flatten)[2]? =some a[2]:=by rw[Xt (by omega),g]
 have s1:=s0.1.step q S X hg
 have L:=ZdT q (Zd 178 1 vp' ((P.qps++[fb]).map Zda)) 2
 have Q:((a.set 14 (e++[[fb]]).flatten).set 2 G1)[0]? =some [b]:=by rw[Xt (by omega),Xt (by omega),n,z]
 have s2:=s1.1.step L Q (A1:=ZaL b (Y3 s P va vp' vl).toArray 84) ⟨rfl,hb⟩ (Zi.of_upd M)
 have r:Zi w w2 F (((a.set 14 (e++[[fb]]).flatten).set 2 G1).set 0 [b]).flatten:=by rw[o];exact(s0.2.trans s1.2).trans s2.2
 refine⟨(((a.set 14 (e++[[fb]]).flatten).set 2 G1).set 0 [b]).flatten,⟨⟨_,rfl,s2.1⟩,h.fl,?_,fun k c=> ?_⟩,r⟩
 ·show(P.qps++[fb]).length=(s.pres++[x]).length
  rw[Xd,Xd,h.ql];rfl
 ·rcases r.new k c with H|H
  ·exact h.two k H
  ·have h7:=h.two b h.blk.2;have h8:=h.lt b h.blk.2;omega
end
end Go.Proofs.YtbgbeddbfaopgaaGreatDoor
