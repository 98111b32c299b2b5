import Derived.Test.YtlhapbopmplngaaGreatDoorS39
set_option linter.all false
set_option maxHeartbeats 16000000
set_option maxRecDepth 100000
set_option autoImplicit true
set_option relaxedAutoImplicit true
namespace Go.Lk
open Go.RowKit
theorem ZqF {l:List ZG} (hn:(l.map (·.num)).Nodup) {j:Nat} (hx:l[j]? =some x) (c:Int):(l.map fun p=>if p.num==x.num then{p with conn:=c}else p)=l.set j {x with conn:=c}:=by
 apply List.ext_getElem?
 intro k
 rw[Xe,List.getElem?_set]
 by_cases e:j=k
 ·subst e
  rw[if_pos rfl,if_pos (Jk hx),hx]
  simp
 ·rw[if_neg e]
  cases hk:l[k]? with
  |none=>rfl
  |some y=>
   have i:y.num≠x.num:=fun n=>by
    have o:(l.map (·.num))[j]? =some x.num:=by rw[Xe,hx];rfl
    have m:(l.map (·.num))[k]? =some x.num:=by rw[Xe,hk,←n];rfl
    obtain⟨g,f⟩:=List.getElem?_eq_some_iff.1 o
    obtain⟨a,b⟩:=List.getElem?_eq_some_iff.1 m
    have d:=List.pairwise_iff_getElem.1 hn
    rcases Nat.lt_trichotomy j k with h|h|h
    ·exact d j k g a h (f.trans b.symm)
    ·exact e h
    ·exact d k j a g h (b.trans f.symm)
   simp[i]
theorem Zl1 {s:Ze} {i:ZL} (hp:0<i.pre) {j:Nat} (hn:(s.pres.map (·.num)).Nodup) (hx:s.pres[j]? =some x) (hxn:x.num=i.pre) {t:Zam×Int×Bool×Int} (ht:t=ZaO s.pool i.key s.now):
  departS s i=ZI {s with pool:=t.1,pres:=s.pres.set j {x with conn:=t.2.1}} 4 i.id i.pre t.2.1 (if t.2.2.1 then 1 else 0):=by
 unfold departS
 rw[←ht]
 dsimp only
 rw[if_pos hp,←hxn,ZqF hn hx]
theorem Zja {s:Ze} {i:ZL} (hp:¬0<i.pre) {k:Nat} (hk:i.id=(k:Int)+1) (hf:s.all[k]? =some f) {t:Zam×Int×Bool×Int} (ht:t=ZaO s.pool i.key s.now):
  departS s i=ZI {s with pool:=t.1,all:=s.all.set k {f with state:=goL f.state 4,conn:=t.2.1}} 8 i.id 0 t.2.1 (if t.2.2.1 then 1 else 0):=by
 unfold departS
 rw[←ht]
 dsimp only
 rw[if_neg hp,hk,YQ (s:={s with pool:=t.1}) hf]
structure Own (w:World) (L:Nat) (cs:Array Value) (T:TypeId) (F:List Nat):Prop where
 blk:w.heap[L]? =some (.cells cs T (0,0))
 off:L∉F
theorem Own.step {cs:Array Value} (h:Own w L cs T F) (g:Zi w w1 F F1):Own w1 L cs T F1:=by
 obtain⟨b,a⟩:=g.off (Jg h.blk) h.off
 exact⟨b.trans h.blk,a⟩
theorem Own.upd0 {cs:Array Value} (h:Own w L cs T F) (hu:Zg [] w w1):Own w1 L cs T F:=h.step ⟨hu.weaken (by simp),fun k hk=> .inl hk⟩
theorem Own.cell {cs:Array Value} (h:Own w L cs T F) {k:Nat} (hk:cs[k]? =some v):w.cell? ⟨L,k,none⟩=some v:=Zf h.blk hk
end Go.Lk
namespace Go.Proofs.YtlhapbopmplngaaGreatDoor
open Go.RowKit Go.Lk
theorem Zh.other {L:Nat} (h:Zh w b P lk s va vp vl F) (hu:Zg [L] w w1) (hL:L∉F):Zh w1 b P lk s va vp vl F:=
 h.upd hu (fun k hk hm=>hL (by rw[Jm hm]at hk;exact hk))
section
variable {w:World} {b:Nat} {P:Ym} {lk:Option Nat} {s:Ze} {va vp vl:Value} {F:List Nat}
def Zsm (b:Nat) (P:Ym) (lk:Option Nat) (s:Ze) (va vp:Value) (w:World) (F:List Nat) (e:Ending) (w':World):Prop:=
 e= .returned (.tuple #[])∧∃vl' F',Zh w' b P lk s va vp vl' F'∧Zi w w' F F'
theorem Zep {P:Prop}(h:P:=by
 refine JU ?_
 refine Jo (Y7 ⟨0,0,8,i.id,0,g,l⟩).toArray bp.blk Zj8 br ?_
 rw[←aD.out]
 refine⟨_,fun W d=>d,ap.cell rfl,Zdu ?_⟩
 clear k0 aB
 by_cases O:0<i.pre
 ·
  go_upto_region 4 with fail
  obtain⟨x0,ax,au⟩:=bh.out O
  obtain⟨x,hx⟩:∃x,s.pres.find? (fun p=>p.num==i.pre)=some x:=by
   cases hc:s.pres.find? (fun p=>p.num==i.pre)with
   |some x=>exact⟨x,rfl⟩
   |none=>exact absurd (List.find?_eq_none.1 hc x0 ax) (by simp[au])
  obtain⟨j,hj,az,aH⟩:=Zia hx
  have ak:x.num=i.pre:=by simpa using az
  have ao:=D (aq.trans (Zl1 O HS.out.2.pn hj ak HT))
  obtain⟨q,hq⟩:=Q.qp hj
  obtain⟨H,X⟩:=Je w6.drew
  have y:=Jd X
  have o:=aO.upd0 y
  have ab:=ap.upd0 y
  obtain⟨C,r⟩:=Je (H.setCell ⟨E,2,none⟩ (.int .i64 4))
  obtain⟨w9,aa⟩:=Je (C.setCell ⟨E,4,none⟩ (.int .i64 i.pre))
  have V:=Kd r
  have Z:=Kd aa
  have T:Own C E (Y7 ⟨0,0,4,i.id,0,g,l⟩).toArray 54 M:=⟨by rw[r,Zd o.blk];rfl,o.off⟩
  have aA:Own w9 E (Y7 ⟨0,0,4,i.id,i.pre,g,l⟩).toArray 54 M:=⟨by rw[aa,Zd T.blk];rfl,o.off⟩
  have h9:=((Q.upd0 y).other V o.off).other Z o.off
  have ah:Own C L #[.int .i64 i.id, .int .i64 i.cls, .int .u64 i.since, .string ⟨i.key.toArray⟩, .int .i64 i.pre] 144 M:=⟨(Kv V ab.blk (by have:=aM.out;simp;omega)),ab.off⟩
  have a2:H.cell? ⟨E,2,none⟩=some (.int .i64 8):=o.cell rfl
  have b2:=Kf 2 o.blk
  have a4:C.cell? ⟨E,4,none⟩=some (.int .i64 0):=T.cell rfl
  have b4:=Kf 4 T.blk
  have an:H.cell? ⟨L,4,none⟩=some (.int .i64 i.pre):=ab.cell rfl
  have af:C.cell? ⟨L,4,none⟩=some (.int .i64 i.pre):=ah.cell rfl
  have a3:w9.cell? ⟨L,4,none⟩=some (.int .i64 i.pre):=(Xp (Z.block L (Jg ah.blk) (by have:=aM.out;simp;omega))).trans af
  have H9:=D h9;have ay:=D aA;have HQ:=D hq;have HJ:=D hj;have aV:=D aH
  have G9:=D (show Zi w w9 F M from⟨((G6.upd.trans y).trans V (fun k z=> .inl (by rw[Jm z];have h1:=HE.out;have h2:=aE.size;have h3:=aF.upd.size;have h4:w4.heap.size=w3.heap.size:=(by rw[N.out];rfl);omega))).trans Z (fun k z=> .inl (by rw[Jm z];have h1:=HE.out;have h3:=aF.upd.size;have h4:w4.heap.size=w3.heap.size:=(by rw[N.out];rfl);omega)),G6.new⟩)
  clear ax au hx hj az aH hq y o ab V Z T aA h9 ah;change Hid _ at ak X r aa
  refine Jr [0,4,8,13,16,22] (fun W=>W.cell? ⟨L,4,none⟩=some (.int .i64 i.pre)) (by rw[X.out]at an;exact an) ?_
  repeat first|refine Jn ?_|refine Jf ?_|refine Ju ?_
  refine JE ?_
  simp only[Xu]
  rw[←X.out]
  go_wp2_with fail
  rw[←r.out]
  refine⟨_,fun W d=>d,af,?_⟩
  repeat first|refine Jn ?_|refine Jf ?_|refine Ju ?_
  refine JL ?_
  go_wp2_with fail
  rw[←aa.out]
  refine Jz ?_
  go_wp2_with fail
  refine(Zgh H9 (by have:=ad.pres;dsimp only;omega) HQ HJ _ ak aV).mono ?_
  rintro e W ⟨rfl,d⟩
  rw[d]
  clear d W
  obtain⟨ac,a0,ar⟩:=H9.flight HQ HJ.out
  have q2:=Jx 2 ac
  have f2:=Kf 2 ac
  obtain⟨aC,S⟩:=Je (w9.setCell ⟨q,2,none⟩ (.int .i64 g))
  obtain⟨bD,aK,Y⟩:=ar aC {x with conn:=g} (by rw[S,Zd ac];rfl) (by rw[S];exact(Zg.refl _ _).setCell (.inr (by simp)) _)
  have be:=D aK;have bb:=D (G9.trans Y);have bw:=D (ay.step Y)
  have am:=D (show Zb aC E 0 (Y7 ⟨0,0,4,i.id,i.pre,g,l⟩)from Zb.of_block (ay.step Y).blk)
  clear ac a0 ar aK Y;change Hid _ at S
  go_upto_region 9 with fail
  rw[←S.out]
  go_wp2_with(refine Jl am Zj8 ?_)
  refine(Y0 be (by have:=ad.log;dsimp only;omega) _ _ _ _ _ _ _).mono ?_
  rintro e aU ⟨rfl,aS,aZ,I,J⟩
  have ai:=D I;have aj:=D (bb.trans J)
  clear I J a2 b2 a4 b4 an af a3 q2 f2 k4
  go_wp2_with fail
  (try simp only[Exit.inBlock,Exit.then])
  first|refine bodyPost_ret (results_none rfl _ _ _) rfl ?_|refine bodyPost_end (results_none rfl _ _ _) rfl ?_
  have er:R=ZI {s with pool:=tp,pres:=s.pres.set j {x with conn:=g}} 4 i.id i.pre g l:=by rw[ao.out,aQ.out]
  rw[er]
  exact⟨rfl,_,_,ai.out,aj.out⟩
 ·
  obtain⟨k,z⟩:∃k:Nat,i.id=(k:Int)+1:=⟨(i.id-1).toNat,by have:=aP.out.1;omega⟩
  obtain⟨f,K⟩:∃f,s.all[k]? =some f:=⟨_,Xa (by have:=aP.out.2;omega)⟩
  have ao:=D (aq.trans (Zja O z K HT))
  obtain⟨p,ae⟩:=Q.fp K
  have l0:w6.cell? ⟨L,0,none⟩=some (.int .i64 i.id):=ap.cell rfl
  obtain⟨lb,a5,aG,av⟩:=Q.life ae K
  have HK:=D z;have HF:=D K;have ag:=D ae;have bd:=D aG;have aT:=D av
  clear z K ae aG av
  go_wp2_with fail
  refine(Yt Q (by have:=ad.all;dsimp only;omega) ag _ HK).mono ?_
  rintro e W ⟨rfl,d⟩
  rw[d]
  clear d W
  go_wp2_with fail
  refine(ZcK bd 4).mono ?_
  rintro e H ⟨rfl,aI,y⟩
  obtain⟨F7,h7,g7⟩:=aT.out H _ aI y
  have al:=ZM (f':={f with state:=goL f.state 4}) HF.out
  obtain⟨bA,bB,bz,aw,_⟩:=h7.fcell ag al
  have a1:=Jx 17 aw
  obtain⟨bc,F8,h8,g8⟩:=h7.setFCell ag al 17 (.int .i64 g) {f with state:=goL f.state 4,conn:=g} (fun _ _ _ _=>rfl) rfl rfl rfl
  rw[List.set_set]at h8
  obtain⟨C,r⟩:=Je (H.setCell ⟨p,17,none⟩ (.int .i64 g))
  rw[←r]at h8 g8
  have H8:=D h8;have G8:=D ((G6.trans g7).trans g8)
  have am:=D (show Zb C E 0 (Y7 ⟨0,0,8,i.id,0,g,l⟩)from Zb.of_block ((aO.step g7).step g8).blk)
  clear h7 g7 h8 g8 aI y al aw a5;change Hid _ at r
  go_upto_region 9 with fail
  rw[←r.out]
  go_wp2_with(refine Jl am Zj8 ?_)
  refine(Y0 H8 (by have:=ad.log;dsimp only;omega) _ _ _ _ _ _ _).mono ?_
  rintro e aU ⟨rfl,aS,aZ,I,J⟩
  have ai:=D I;have aj:=D (G8.trans J)
  clear I J a1 bc l0 k4
  go_wp2_with fail
  (try simp only[Exit.inBlock,Exit.then])
  first|refine bodyPost_ret (results_none rfl _ _ _) rfl ?_|refine bodyPost_end (results_none rfl _ _ _) rfl ?_
  have er:R=ZI {s with pool:=tp,all:=s.all.set k {f with state:=goL f.state 4,conn:=g}} 8 i.id 0 g l:=by rw[ao.out,aQ.out]
  rw[er]
  exact⟨rfl,_,_,ai.out,aj.out⟩):P:=h
theorem ZfY (h:Zh w b P lk s va vp vl F) (hfit:ZQ s n m) (hs:Lk.Safe s) (hn:n≤800000) (hm:m≤900000) (i:ZL) (hpre:0<i.pre→∃x∈s.pres,x.num=i.pre) (hid:1≤i.id∧i.id≤s.all.length):
  Calls Tryz.prog 78 #[.pointer (some ⟨b,0,none⟩), .agg #[.int .i64 i.id, .int .i64 i.cls, .int .u64 i.since, .string ⟨i.key.toArray⟩, .int .i64 i.pre]] w (Zsm b P lk (departS s i) va vp w F):=by
 obtain⟨R,aq⟩:=Je (departS s i)
 rw[←aq]
 obtain⟨w1,a9,bo⟩:=Kb w (.cells #[.int .i64 i.id, .int .i64 i.cls, .int .u64 i.since, .string ⟨i.key.toArray⟩, .int .i64 i.pre] 144)
 have bs:=h.lt
 obtain⟨L,HL⟩:=Je w.heap.size
 have bg:Own w1 L #[.int .i64 i.id, .int .i64 i.cls, .int .u64 i.since, .string ⟨i.key.toArray⟩, .int .i64 i.pre] 144 F:=⟨by rw[a9,HL];exact Za _,fun hm=>by have:=bs L hm;omega⟩
 obtain⟨w2,aJ⟩:=Je w1.drew
 have aE:Zg [] w w2:=by rw[aJ];exact bo.drew
 have h2:=h.upd0 aE
 have a7:Own w2 L #[.int .i64 i.id, .int .i64 i.cls, .int .u64 i.since, .string ⟨i.key.toArray⟩, .int .i64 i.pre] 144 F:=bg.upd0 (by rw[aJ];exact(Zg.refl [] w1).drew)
 have c8:=Jx 8 h2.blk.1
 have c7:=Jx 7 h2.blk.1
 have k3:w2.cell? ⟨L,3,none⟩=some (.string ⟨i.key.toArray⟩):=a7.cell rfl
 obtain⟨G,O,_,bi⟩:=h2.pool
 obtain⟨t,HT⟩:=Je (ZaO s.pool i.key s.now)
 have bx:=hfit.pl
 have aW:=D (Zn1 O i.key s.now (by omega))
 rw[←HT]at aW
 have H2:=D h2;have bC:=D a7;have bm:=D bi;have ad:=D hfit;have HS:=D hs;have bh:=D hpre;have aP:=D hid
 clear bo bs bg h2 a7 O bi bx hfit hs h hpre hid;change Hid _ at aq HT a9 aJ HL aE
 go_in
 go_upto_region 1 with fail
 rw[←a9.out,←HL.out]
 refine Jr [0,4,8,12,16,20,24,28,32,36,41,46,48,52,56,60,64,68,72] (fun W=>W.cell? ⟨b,8,none⟩=some (.pointer (some ⟨P.pool,0,none⟩))∧W.cell? ⟨b,7,none⟩=some (.pointer (some ⟨P.clock,0,none⟩))∧W.cell? ⟨L,3,none⟩=some (.string ⟨i.key.toArray⟩)) (by rw[aJ.out]at c8 c7 k3;exact⟨c8,c7,k3⟩) ?_
 repeat first|refine Jn ?_|refine Jf ?_|refine Ju ?_
 refine JE ?_
 simp only[Xu]
 rw[←aJ.out]
 go_wp2_with fail
 refine(Zbm H2.clock.1).mono ?_
 rintro e W ⟨rfl,d⟩
 rw[d]
 clear d W
 go_wp2_with fail
 refine⟨_,fun W d=>d,⟨c8,c7,k3⟩,?_⟩
 refine JL ?_
 go_wp2_with fail
 refine aW.out.mono ?_
 obtain⟨tp,g,tf,te⟩:=t
 dsimp only
 rintro e w3 ⟨rfl,G3,bv,bk⟩
 obtain⟨M,h3,g3⟩:=bm.out w3 tp G3 bv bk
 have H3:=D h3;have aF:=D (g3.pre0 aE);have bn:=D (bC.step g3)
 clear h3 g3 bv bk c8 c7 k3 aW bm
 go_wp2_with fail
 refine⟨fun _=>True,trivial,?_⟩
 repeat first|refine Jn ?_|refine Jf ?_|refine Ju ?_
 refine ZK ?_
 go_upto_region 2 with fail
 obtain⟨w4,N⟩:=Je w3.drew
 have aX:=Jd N
 have a8:=D (bn.upd0 aX)
 have k0:w4.cell? ⟨L,0,none⟩=some (.int .i64 i.id):=a8.cell rfl
 obtain⟨l,ba⟩:∃x:Int,x=(if tf then 1 else 0):=⟨_,rfl⟩
 have aQ:=D ba
 obtain⟨w5,aN,aY⟩:=Kb w4 (.cells #[.int .i64 0, .int .u64 0, .int .i64 0, .int .i64 0, .int .i64 0, .int .i64 0, .int .i64 0] 54)
 obtain⟨E,HE⟩:=Je w4.heap.size
 have bj:=H3.lt
 have bE:w4.heap.size=w3.heap.size:=by rw[N];rfl
 have aR:Own w5 E #[.int .i64 0, .int .u64 0, .int .i64 0, .int .i64 0, .int .i64 0, .int .i64 0, .int .i64 0] 54 M:=⟨by rw[aN,HE];exact Za _,fun hm=>by have:=bj E hm;omega⟩
 have bl:E≠L:=by have:=(Jg a8.blk);omega
 obtain⟨w6,aD⟩:=Je (w5.setRow E (Y7 ⟨0,0,8,i.id,0,g,l⟩).toArray)
 have bq:=Kg aD
 have bu:Own w6 E (Y7 ⟨0,0,8,i.id,0,g,l⟩).toArray 54 M:=⟨by rw[aD];exact setRow_heap _ _ _ _ _ _ aR.blk,aR.off⟩
 have aL:Zg [] w3 w6:=(aX.trans aY).trans bq (fun k z=> .inl (by rw[Jm z];omega))
 have h6:=H3.upd0 aL
 have a6:Own w6 L #[.int .i64 i.id, .int .i64 i.cls, .int .u64 i.since, .string ⟨i.key.toArray⟩, .int .i64 i.pre] 144 M:=bn.upd0 aL
 have aB:w5.cell? ⟨L,0,none⟩=some (.int .i64 i.id):=(a8.upd0 aY).cell rfl
 have k4:w6.cell? ⟨L,4,none⟩=some (.int .i64 i.pre):=a6.cell rfl
 have Q:=D h6;have aO:=D bu;have ap:=D a6;have G6:=D (aF.upd0 aL);have bp:=D aR
 have br:=D (show(Y7 ⟨0,0,8,i.id,0,g,l⟩).toArray.all (·.oneCell')=true by rw[Xl,Xk];exact Zfp _)
 have aM:=D bl
 have bf:=D (show∀W,Calls Tryz.prog 151 #[.bool tf] W fun e w'=>e= .returned (.int .i64 l)∧w'=W from fun W=>by rw[ba];exact ZoQ tf W)
 clear aX aY bj bE aR bq bu aL h6 a6 ba bl;change Hid _ at N aN aD HE
 refine ZaV (.held 0 (.held 1 (.held 2 (.held 3 (.two 4 (.held 5 (.eff 6 (.eff 7 (.nil)))) 6 (.eff 4 (.held 5 (.eff 7 (.nil))))))))) (fun W=>W.cell? ⟨L,0,none⟩=some (.int .i64 i.id)) (by kernel_rfl) (by kernel_rfl) (fun c a w t v h=>by cases t<;>exact h) (by rw[N.out]at k0;exact k0) ?_
 repeat first|refine JN ?_|refine JF ?_
 apply ZcW
 case ho=>simp only[Xh,Xf,Xg];rfl
 case ho2=>simp only[Xh,Xf,Xg];rfl
 case h=>
  simp only[Xu]
  rw[←N.out]
  go_wp2_with fail
  refine(bf.out _).mono ?_
  rintro e W ⟨rfl,d⟩
  rw[d]
  clear d W
  go_wp2_with fail
  refine⟨_,fun W d=>d,k0,?_⟩
  repeat first|refine JN ?_|refine JF ?_
  refine JU ?_
  go_wp2_with fail
  rw[←aN.out,←HE.out]
  refine⟨_,fun W d=>d,aB,?_⟩
  exact Zep
 case h2=>
  simp only[Xu]
  rw[←N.out]
  go_wp2_with fail
  rw[←aN.out,←HE.out]
  refine⟨_,fun W d=>d,aB,?_⟩
  refine JU ?_
  go_wp2_with fail
  refine(bf.out _).mono ?_
  rintro e W ⟨rfl,d⟩
  rw[d]
  clear d W
  go_wp2_with fail
  refine⟨_,fun W d=>d,aB,?_⟩
  repeat first|refine JN ?_|refine JF ?_
  exact Zep
end
end Go.Proofs.YtlhapbopmplngaaGreatDoor
