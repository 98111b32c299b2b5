import Derived.Deep.DeepCutAuto
import Derived.Test.YtlhapbopmplngaaGreatDoorS41
set_option linter.all false
set_option maxHeartbeats 16000000
set_option maxRecDepth 100000
set_option autoImplicit true
set_option relaxedAutoImplicit true
namespace Go.Lk
def Zfa (needs:Bool) (ec:Int) (status:Int) (al:Zo×Int) (has all:Bool):Zo×Int:=
 if !needs then(Zo.zero,2)else if ec !=0 then(Zo.zero,ec)else if status<200∨300≤status then(Zo.zero,14)
 else if al.2 !=0 then(Zo.zero,al.2)else if !has then(Zo.zero,5)else if all then(al.1,0)else(Zo.zero,6)
def Zpi (r:Ya) (status:Int) (l:List (Bs×Bs)):Zbg r status l=Zfa (Zdr r) (Zfk (YJ r).origin (YJ r).creds l) status (ZbV l) (Zp6 (ZbV l).1 (YJ r).method (YJ r).creds) ((ZaK r).all fun n=>Zcb (ZbV l).1 n (YJ r).creds):=rfl
end Go.Lk
namespace Go.Proofs.YtlhapbopmplngaaGreatDoor
open Go.RowKit Go.Lk
def Zj1 (h:Zan l):(ZbV l).1.methods.length≤1000000∧(ZbV l).1.headers.length≤1000000:=by
 have b:= @Ze0 l h [97,99,99,101,115,115,45,99,111,110,116,114,111,108,45,97,108,108,111,119,45,109,101,116,104,111,100,115]
 have a:= @Ze0 l h [97,99,99,101,115,115,45,99,111,110,116,114,111,108,45,97,108,108,111,119,45,104,101,97,100,101,114,115]
 rw[Zl5]
 generalize Zbp l _=tm at b⊢
 generalize Zbp l _=th at a⊢
 cases tm with
 |none=>exact⟨by simp[ZgN,Zo.zero],by simp[ZgN,Zo.zero]⟩
 |some ms=>
  cases th with
  |none=>exact⟨by simp[ZgN,Zo.zero],by simp[ZgN,Zo.zero]⟩
  |some hs=>exact⟨(b rfl).1,by show(hs.map Yu).length≤_;rw[Xb];exact(a rfl).1⟩
def ZgP (h:Za5 w r vh):(YJ r).method.length≤1000000:=by
 unfold YJ
 split
 ·simp[Ya.zero]
 ·have:=Zji r.method
  have:=h.m
  show(ZdB r.method).length≤_
  omega
def ZeJ {P:Prop}(h:P:=by
 obtain⟨wz,g⟩:=Je (w5.setRow i (Zy (.slice none 0 0) (.slice none 0 0) Zo.zero).toArray)
 have m:=Kk g M
 have s:=Kg g
 have C:=D (((ac.weaken (G:=[i]) (by simp)).trans s (fun q d=> .inr d)).weaken (G:=[]) (fun q d=> .inl (by rw[Jm d];exact L.out.2.1)))
 clear s;change Hid _ at m g
 go_wp2_with(refine Jo (Zy (.slice none 0 0) (.slice none 0 0) Zo.zero).toArray M p O ?_;rw[←g.out])
 refine bodyPost_ret (v:= .tuple #[.agg (Zy (.slice none 0 0) (.slice none 0 0) Zo.zero).toArray, .int .i64 14]) (Zj _ Tryz.results155 (b:=i) (o:=0) rfl rfl p (Zb.of_block m)) rfl ?_
 rw[z.out]
 exact⟨_,_,[],[],rfl,ZA _ _ _,ZA _ _ _,by simp,by simp,C.out⟩):P:=h
def ZaW {P:Prop}(h:P:=by
 rw[z.out]
 exact⟨_,_,[],[],rfl,ZA _ _ _,ZA _ _ _,by simp,by simp,C.out⟩):P:=h
def ZkA (r:Ya) (vr:Value) (status:Int) (l:List (Bs×Bs)) (A:Option Addr) (c:Nat) (w:World) (h:Za5 w r vr) (hA:Zas w A l) (hf:Zan l) (hE:Env w):
  Calls Tryz.prog 155 #[.agg (Zt r vr).toArray, .int .i64 status, .slice A l.length c] w (ZhM w (Zbg r status l)):=by
 obtain⟨R,hR⟩:=Je (Zbg r status l)
 obtain⟨n,hn⟩:=Je (YJ r)
 obtain⟨K,aq⟩:=Je (ZbV l)
 obtain⟨ns,am⟩:=Je (ZaK r)
 obtain⟨bn,aS⟩:=Je (Zdr r)
 obtain⟨ec,aP⟩:=Je (Zfk n.origin n.creds l)
 obtain⟨bh,aj⟩:=Je (Zp6 K.1 n.method n.creds)
 have HR:=D (show R=Zfa bn ec status K bh (ns.all fun x=>Zcb K.1 x n.creds)by rw[hR,aS,aP,aj,am,aq,hn];exact Zpi r status l)
 rw[←hR]
 obtain⟨J,af⟩:=Je ((w.alloc (.cells (Zt r vr).toArray 35)).alloc (.cells #[.slice none 0 0, .slice none 0 0, .int .u64 0] 263))
 have I:Zg [] w J:=by rw[af];exact((Zg.refl [] w).alloc _).alloc _
 have aH:J.heap[w.heap.size]? =some (.cells (Zt r vr).toArray 35 (0,0)):=by rw[af,Zz _ (by simp)];exact Za _
 have a4:J.heap[w.heap.size+1]? =some (.cells #[.slice none 0 0, .slice none 0 0, .int .u64 0] 263 (0,0)):=by
  rw[af]
  have:=Za (w:=w.alloc (.cells (Zt r vr).toArray 35)) (.cells #[.slice none 0 0, .slice none 0 0, .int .u64 0] 263 (0,0));simpa using this
 obtain⟨ln,av⟩:=Je l.length
 have q1:∀W,Zg [] J W→Calls Tryz.prog 144 #[.agg (Zt r vr).toArray] W fun e w'=>e= .returned (.bool bn)∧Zg [] W w':=fun W E=>by rw[aS];exact Zg1 r vr W ((h.upd0 I).upd0 E) (hE.upd0 (I.trans E))
 have q2:∀W,Zg [] J W→Calls Tryz.prog 57 #[.agg (Zt r vr).toArray] W (Zre W n):=fun W E=>by rw[hn];exact ZeQ r vr W ((h.upd0 I).upd0 E) (hE.upd0 (I.trans E))
 have q3:∀W,Zg [] J W→Calls Tryz.prog 83 #[.string ⟨n.origin.toArray⟩, .bool n.creds, .slice A ln c] W fun e w'=>e= .returned (.int .i64 ec)∧Zg [] W w':=fun W E=>by rw[aP,av];exact ZiJ n.origin n.creds l A c W ((hA.upd0 I).upd0 E) (by have:=hf.1;omega) (Zan.few hf)
 have q4:∀W,Zg [] J W→Calls Tryz.prog 232 #[.slice A ln c] W (ZhM W K):=fun W E=>by rw[aq,av];exact Znd l A c W ((hA.upd0 I).upd0 E) hf (hE.upd0 (I.trans E))
 have q6:∀W,Zg [] J W→Calls Tryz.prog 147 #[.agg (Zt r vr).toArray] W (Zdi W ns):=fun W E=>by rw[am];exact ZgA r vr W ((h.upd0 I).upd0 E) (hE.upd0 (I.trans E))
 have bg:n.method.length≤1000000:=by rw[hn];exact ZgP h
 have aD:=Zj1 hf
 rw[←aq]at aD
 have aF:=Zfz (r:=r) (fun x hx=>(h.few x hx).1) h.n
 rw[←am]at aF
 rw[←av]
 have Q1:=D q1;have Q2:=D q2;have Q3:=D q3;have Q4:=D q4;have Q6:=D q6
 have bO:=D aH;have bo:=D a4
 have bL:=D bg;have aC:=D aD;have a1:=D aF
 have p:=D Ze4;have ay:=D Yh
 have aL:=D (show Zb J w.heap.size 0 (Zt r vr)from Zb.of_block aH)
 have O:=D (show(Zy (.slice none 0 0) (.slice none 0 0) Zo.zero).toArray.all (·.oneCell')=true from Zbt _ _ _ rfl rfl)
 obtain⟨b0,aU⟩:=Je w.heap.size
 obtain⟨i,aI⟩:=Je (w.heap.size+1)
 rw[←aU]at bO aL
 rw[←aI]at bo
 have L:=D (show w.heap.size≤b0∧w.heap.size≤i∧b0≠i∧i≠b0 by omega)
 clear q1 q2 q3 q4 q6 hR hn aq am aS aP aH a4 av bg aD aF h hA hf hE;change Hid _ at I af aj aU aI
 go_in
 go_upto_region 1 with fail
 rw[←af.out,←aI.out,←aU.out]
 go_wp2_with(refine Jl aL ay ?_)
 refine(Q1.out J (Zg.refl [] J)).mono ?_
 rintro e w2 ⟨rfl,ad⟩
 have aZ:=D ad;have bi:=Jt I ad
 have ax:=D ((Kv ad bo))
 have bk:=D (aL.upd ad)
 clear ad Q1
 cases bn with
 |false=>
  have z:=D (show R=(Zo.zero,2)by rw[HR.out];rfl)
  obtain⟨wz,g⟩:=Je (w2.setRow i (Zy (.slice none 0 0) (.slice none 0 0) Zo.zero).toArray)
  have m:=Kk g ax
  have s:=Kg g
  have C:=D (((bi.weaken (G:=[i]) (by simp)).trans s (fun q d=> .inr d)).weaken (G:=[]) (fun q d=> .inl (by rw[Jm d];exact L.out.2.1)))
  clear s;change Hid _ at m g
  go_wp2_with(refine Jo (Zy (.slice none 0 0) (.slice none 0 0) Zo.zero).toArray ax p O ?_;rw[←g.out])
  refine bodyPost_ret (v:= .tuple #[.agg (Zy (.slice none 0 0) (.slice none 0 0) Zo.zero).toArray, .int .i64 2]) (Zj _ Tryz.results155 (b:=i) (o:=0) rfl rfl p (Zb.of_block m)) rfl ?_
  exact ZaW
 |true=>
 go_wp2_with(refine Jl bk ay ?_)
 refine(Q2.out w2 aZ).mono ?_
 rintro e S ⟨vn,Mn,rfl,aY,_,aW⟩
 have bC:=D (ZbZ n vn aY.one)
 obtain⟨w4,an⟩:=Je ((S.alloc (.cells #[.string ⟨#[]⟩, .string ⟨#[]⟩, .string ⟨#[]⟩, .int .i64 0, .bool false, .slice none 0 0, .int .i64 0, .int .u64 0, .int .i64 0, .int .i64 0] 35 (0,0))).setRow S.heap.size (Zt n vn).toArray)
 have ba:=D (Za (w:=S) (.cells #[.string ⟨#[]⟩, .string ⟨#[]⟩, .string ⟨#[]⟩, .int .i64 0, .bool false, .slice none 0 0, .int .i64 0, .int .u64 0, .int .i64 0, .int .i64 0] 35 (0,0)))
 have bm:=Kk an ba
 have aa:Zg [] w2 w4:=aW.trans (show Zg [] S w4 by rw[an];exact((Zg.refl [] S).alloc _).setRow (.inl (Xi _)) _)
 have aX:=Jt aZ aa;have bX:=Jt bi aa;have bG:=D an;have ah:=D bm
 have bH:=D ((Kv aa ax))
 have bF:=D (bk.upd aa)
 have bM:=D (show S.heap.size≠i by have h1:=aW.size;have h2:=(Jg ax);omega)
 clear an bm aa aW aY Q2
 go_upto_region 4 with(refine Jo (Zt n vn).toArray ba ay bC ?_;rw[←bG.out])
 obtain⟨nb,bl⟩:=Je S.heap.size
 rw[←bl]at ah bM⊢
 clear bl
 have r2:=Jc 2 ah.out
 have r4:=Jc 4 ah.out
 go_wp2_with fail
 refine(Q3.out w4 aX).mono ?_
 rintro e w5 ⟨rfl,X⟩
 have a2:=Jt aX X;have ac:=Jt bX X
 have M:=D ((Kv X bH))
 have bD:=D ((Kv X ah))
 have bA:=D (bF.upd X)
 clear X Q3 r2 r4
 by_cases h1:ec=0
 case neg=>
  have z:=D (show R=(Zo.zero,ec)by rw[HR.out];unfold Zfa;rw[if_neg (by simp),if_pos (by simpa using h1)])
  obtain⟨wz,g⟩:=Je (w5.setRow i (Zy (.slice none 0 0) (.slice none 0 0) Zo.zero).toArray)
  have m:=Kk g M
  have s:=Kg g
  have C:=D (((ac.weaken (G:=[i]) (by simp)).trans s (fun q d=> .inr d)).weaken (G:=[]) (fun q d=> .inl (by rw[Jm d];exact L.out.2.1)))
  clear s;change Hid _ at m g
  go_wp2_with(refine Jo (Zy (.slice none 0 0) (.slice none 0 0) Zo.zero).toArray M p O ?_;rw[←g.out])
  refine bodyPost_ret (v:= .tuple #[.agg (Zy (.slice none 0 0) (.slice none 0 0) Zo.zero).toArray, .int .i64 ec]) (Zj _ Tryz.results155 (b:=i) (o:=0) rfl rfl p (Zb.of_block m)) rfl ?_
  exact ZaW
 subst h1
 by_cases k1:status<200
 ·have z:=D (show R=(Zo.zero,14)by rw[HR.out];unfold Zfa;rw[if_neg (by simp),if_neg (by simp),if_pos (.inl k1)])
  exact ZeJ
 by_cases k2:300≤status
 ·have z:=D (show R=(Zo.zero,14)by rw[HR.out];unfold Zfa;rw[if_neg (by simp),if_neg (by simp),if_pos (.inr k2)])
  exact ZeJ
 have az:=D (show R=if K.2 !=0 then(Zo.zero,K.2)else if !bh then(Zo.zero,5)else if(ns.all fun x=>Zcb K.1 x n.creds)then(K.1,0)else(Zo.zero,6)by rw[HR.out];unfold Zfa;rw[if_neg (by simp),if_neg (by simp),if_neg (by rintro(h|h)<;>contradiction)])
 clear HR
 go_wp2_with fail
 refine(Q4.out w5 a2).mono ?_
 rintro e w6 ⟨H,F,M1,Z,rfl,au,aA,aT,aR,bd⟩
 obtain⟨a,ae⟩:=K
 dsimp only at az aC aj au aA
 have a7:H.oneCell'=true:=by obtain⟨A1,c1,e1,_⟩:=au.strs;rw[e1];rfl
 have bp:F.oneCell'=true:=by obtain⟨A1,c1,e1,_⟩:=aA.strs;rw[e1];rfl
 have be:=D (Zbt H F a a7 bp)
 obtain⟨w7,ar⟩:=Je ((w6.alloc (.cells #[.slice none 0 0, .slice none 0 0, .int .u64 0] 263 (0,0))).setRow w6.heap.size (Zy H F a).toArray)
 have bc:=D (Za (w:=w6) (.cells #[.slice none 0 0, .slice none 0 0, .int .u64 0] 263 (0,0)))
 have a9:=Kk ar bc
 have ag:=Kh ar
 have V:Zg [] w5 w7:=bd.trans ag
 have bw:=Jt a2 V;have a5:=Jt ac V;have bK:=D ar
 have bq:=D (show Zdj w7 a H F M1 Z from⟨(Zl _ _).upd au ag,(Zl _ _).upd aA ag,aC.out.1,aC.out.2⟩)
 have aO:=D ((Kv V M))
 have aJ:=D ((Kv V bD))
 have bS:=D (bA.upd V)
 have aG:=D (show Zb w7 w6.heap.size 0 (Zy H F a)from Zb.of_block a9)
 have ap:=D (show(∀k∈M1,w.heap.size≤k)∧(∀k∈Z,w.heap.size≤k)∧i∉M1∧i∉Z by
  have h1:=ac.size
  have h2:=(Jg M)
  exact⟨fun k hk=>by have:=aT k hk;omega,fun k hk=>by have:=aR k hk;omega,fun T=>by have:=aT _ T;omega,fun T=>by have:=aR _ T;omega⟩)
 clear au aA aT aR bd a7 bp ar a9 ag V Q4
 go_upto_region 10 with(refine Jo (Zy H F a).toArray bc p be ?_;rw[←bK.out])
 obtain⟨ab,bb⟩:=Je w6.heap.size
 rw[←bb]at aG⊢
 clear bb
 by_cases h2:ae=0
 case neg=>
  have z:=D (show R=(Zo.zero,ae)by rw[az.out,if_pos (by simpa using h2)])
  obtain⟨wz,g⟩:=Je (w7.setRow i (Zy (.slice none 0 0) (.slice none 0 0) Zo.zero).toArray)
  have m:=Kk g aO
  have s:=Kg g
  have C:=D (((a5.weaken (G:=[i]) (by simp)).trans s (fun q d=> .inr d)).weaken (G:=[]) (fun q d=> .inl (by rw[Jm d];exact L.out.2.1)))
  clear s;change Hid _ at m g
  go_wp2_with(refine Jo (Zy (.slice none 0 0) (.slice none 0 0) Zo.zero).toArray aO p O ?_;rw[←g.out])
  refine bodyPost_ret (v:= .tuple #[.agg (Zy (.slice none 0 0) (.slice none 0 0) Zo.zero).toArray, .int .i64 ae]) (Zj _ Tryz.results155 (b:=i) (o:=0) rfl rfl p (Zb.of_block m)) rfl ?_
  exact ZaW
 subst h2
 have aK:=D (show R=if !bh then(Zo.zero,5)else if(ns.all fun x=>Zcb a x n.creds)then(a,0)else(Zo.zero,6)by rw[az.out,if_neg (by simp)])
 clear az
 have q5:=Zoj a H F M1 Z n.method n.creds w7 bq bL.out
 rw[←aj.out]at q5
 have Q5:=D q5
 have r0:=Jc 0 aJ.out
 have r4:=Jc 4 aJ.out
 clear q5
 go_wp2_with(refine Jl aG p ?_)
 refine Q5.out.mono ?_
 rintro e w8 ⟨rfl,N⟩
 have bx:=Jt bw N;have bj:=Jt a5 N
 have aQ:=D ((Kv N aO))
 have b2:=D ((Kv N aJ))
 have bB:=D (bS.upd N);have bu:=D (aG.upd N);have bI:=D (bq.upd0 N)
 clear N Q5 r0 r4
 cases bh with
 |false=>
  have z:=D (show R=(Zo.zero,5)by rw[aK.out];rfl)
  obtain⟨wz,g⟩:=Je (w8.setRow i (Zy (.slice none 0 0) (.slice none 0 0) Zo.zero).toArray)
  have m:=Kk g aQ
  have s:=Kg g
  have C:=D (((bj.weaken (G:=[i]) (by simp)).trans s (fun q d=> .inr d)).weaken (G:=[]) (fun q d=> .inl (by rw[Jm d];exact L.out.2.1)))
  clear s;change Hid _ at m g
  go_wp2_with(refine Jo (Zy (.slice none 0 0) (.slice none 0 0) Zo.zero).toArray aQ p O ?_;rw[←g.out])
  refine bodyPost_ret (v:= .tuple #[.agg (Zy (.slice none 0 0) (.slice none 0 0) Zo.zero).toArray, .int .i64 5]) (Zj _ Tryz.results155 (b:=i) (o:=0) rfl rfl p (Zb.of_block m)) rfl ?_
  exact ZaW
 |true=>
 have a3:=D (show R=if(ns.all fun x=>Zcb a x n.creds)then(a,0)else(Zo.zero,6)by rw[aK.out,if_neg (by simp)])
 clear aK
 go_wp2_with(refine Jl bB ay ?_)
 refine(Q6.out w8 bx).mono ?_
 rintro e w9 ⟨v9,M9,rfl,a6,_,Y⟩
 have bU:=Jt bj Y
 have bJ:=D ((Kv Y aQ))
 have bV:=D ((Kv Y b2))
 have bz:=D (bu.upd Y);have bZ:=D (bI.upd0 Y)
 obtain⟨A9,c9,rfl,_,a8⟩:=a6.strs
 have bW:=D a8
 obtain⟨nn,ai⟩:=Je ns.length
 have bf:=D ai
 have b5:nn≤1000000:=by rw[ai];have:=a1.out.1;omega
 rw[←ai]
 clear ai a8 a6 Y Q6
 go_wp2_with fail
 go_loopw[57,13] (fun v57 _ wr=>∃(k:Nat),k≤nn∧v57= .int .i64 k∧Hid (∀(j:Nat) x,j<k→ns[j]? =some x→Zcb a x n.creds=true)∧Hid (Zg [] w9 wr)) (fun v57 _ _=>nn-(intOf v57).toNat)
 case atStart=>exact⟨0,Xn _,rfl,D (fun j x hj=>absurd hj (Nat.not_lt_zero _)),D (Zg.refl _ _)⟩
 case round=>
  obtain⟨k,hk,rfl,HM,P⟩:=hrel
  have aV:=D ((Kv P bJ))
  have bs:=D (bz.upd P);have aE:=D (bZ.upd0 P)
  have aM:=Kv P bV
  have bt:=Jt bU P.out
  by_cases bY:k<nn
  ·have a0:k<ns.length:=by rw[←bf.out];exact bY
   obtain⟨x,hx⟩:∃x,ns[k]? =some x:=⟨_,Xa a0⟩
   obtain⟨b3,b4,rfl,bE⟩:=(bW.upd0 P) k x hx
   have aN:=Xc hx
   have r4:=Jc 4 aM
   obtain⟨b,ao⟩:=Je (Zcb a x n.creds)
   have q:=Zka a H F M1 Z x n.creds wr aE (by have:=a1.out.2.1 x aN;omega)
   rw[←ao]at q
   have Q:=D q;have HX:=D hx;have bN:=D aN
   clear q hx aN a0 aM;change Hid _ at ao
   go_wp2_with(refine Jl bs p ?_)
   refine Q.out.mono ?_
   rintro e wq ⟨rfl,ak⟩
   have bP:=Jt P ak;have bv:=Jt bt ak
   have br:=D ((Kv ak aV))
   clear ak Q r4 bE
   cases b with
   |true=>
    go_wp2_with fail
    exact⟨⟨k+1,by omega,by go_num,D (fun j y hj hy=>by
     by_cases e:j=k
     ·subst e;rw[HX.out]at hy;cases hy;exact ao.symm
     ·exact HM j y (by omega) hy),bP⟩,by simp[intOf];omega⟩
   |false=>
    have z:=D (show R=(Zo.zero,6)by
     rw[a3.out,if_neg]
     intro h
     have:=Xk.1 h x bN.out
     rw[←ao.out]at this;cases this)
    obtain⟨wz,g⟩:=Je (wq.setRow i (Zy (.slice none 0 0) (.slice none 0 0) Zo.zero).toArray)
    have m:=Kk g br
    have s:=Kg g
    have C:=D (((bv.weaken (G:=[i]) (by simp)).trans s (fun q d=> .inr d)).weaken (G:=[]) (fun q d=> .inl (by rw[Jm d];exact L.out.2.1)))
    clear s;change Hid _ at m g
    go_wp2_with(refine Jo (Zy (.slice none 0 0) (.slice none 0 0) Zo.zero).toArray br p O ?_;rw[←g.out])
    refine bodyPost_ret (v:= .tuple #[.agg (Zy (.slice none 0 0) (.slice none 0 0) Zo.zero).toArray, .int .i64 6]) (Zj _ Tryz.results155 (b:=i) (o:=0) rfl rfl p (Zb.of_block m)) rfl ?_
    exact ZaW
  ·obtain rfl:k=nn:=by omega
   have z:=D (show R=(a,0)by
    rw[a3.out,if_pos]
    rw[Xk]
    intro x hx
    obtain⟨j,hj⟩:=List.getElem?_of_mem hx
    exact HM j x (by rw[bf.out];exact(Jk hj)) hj)
   obtain⟨we,aB⟩:=Je (wr.setRow i (Zy H F a).toArray)
   have bT:=D (show we.heap[i]? =some (.cells (Zy H F a).toArray 263 (0,0))by rw[aB];exact setRow_heap _ _ _ _ _ _ aV)
   have aw:=Kg aB
   have b1:=D (((bt.weaken (G:=[i]) (by simp)).trans aw (fun q d=> .inr d)).weaken (G:=[]) (fun q d=> .inl (by rw[Jm d];exact L.out.2.1)))
   have bR:=D ((Zl _ _).upd aE.ms aw (fun q d T=>ap.out.2.2.1 (by rw[←Jm T];exact d)))
   have bQ:=D ((Zl _ _).upd aE.hs aw (fun q d T=>ap.out.2.2.2 (by rw[←Jm T];exact d)))
   clear aw aM;change Hid _ at aB
   go_wp2_with(first|refine Jl bs p ?_|(refine Jo (Zy H F a).toArray aV p be ?_;rw[←aB.out]))
   refine bodyPost_ret (v:= .tuple #[.agg (Zy H F a).toArray, .int .i64 0]) (Zj _ Tryz.results155 (b:=i) (o:=0) rfl rfl p (Zb.of_block bT)) rfl ?_
   rw[z.out]
   exact⟨_,_,M1,Z,rfl,bR.out,bQ.out,ap.out.1,ap.out.2.1,b1.out⟩
end Go.Proofs.YtlhapbopmplngaaGreatDoor
namespace Go.Lk
def ZiT (r:Ya) (a:Zo) (now:Nat):ZbO r a now=if !Zdr r||a.age==0 then[]else
 ((((if a.methods.length==0 then[(YJ r).method]else a.methods).map fun m=>(⟨Zdh r,m,[],addT now a.age⟩:Zp))++a.headers.map fun h=>(⟨Zdh r,[],h,addT now a.age⟩:Zp))).foldl ZhE []:=rfl
def grN (es:List Zp) (k:Nat):List Zp:=(es.take k).foldl ZhE []
def ZkH {es:List Zp} {k:Nat} (h:es[k]? =some e):grN es (k+1)=ZhE (grN es k) e:=by
 unfold grN
 rw[List.take_add_one,h,List.foldl_append];rfl
def Zks (es:List Zp) (k:Nat):(grN es k).length≤k:=by
 have:∀(l o:List Zp),(l.foldl ZhE o).length≤o.length+l.length:=by
  intro l
  induction l with
  |nil=>intro o;simp
  |cons a l ih=>
   intro o
   rw[List.foldl_cons,List.length_cons]
   have c:=ih (ZhE o a)
   have b:(ZhE o a).length≤o.length+1:=by unfold ZhE;split<;>simp
   omega
 have h:=this (es.take k) []
 rw[List.length_take]at h
 unfold grN
 simp only[List.length_nil]at h
 omega
def ZnX (es:List Zp):grN es es.length=es.foldl ZhE []:=by unfold grN;rw[Xm]
end Go.Lk
namespace Go.Proofs.YtlhapbopmplngaaGreatDoor
open Go.RowKit Go.Lk
def ZnK (w:World) (l:List Zp) (e:Ending) (w':World):Prop:=∃(v:Value) (M:List Nat),e= .returned v∧Zk 268 6 v (l.map Zn) w' M∧(∀k∈M,w.heap.size≤k)∧Zg [] w w'
structure ZoM (w:World) (ob:Nat) (l:List Zp) (wr:World) (G:List Nat):Prop where
 out:ZgF ob l wr G
 new:∀k∈G,w.heap.size≤k
 up:Zg [] w wr
def ZoM.next {w wr w1:World} {ob:Nat} (h:ZoM w ob l wr G) (h1:ZgF ob l' w1 G') (g:Zi wr w1 G G'):ZoM w ob l' w1 G':=
 ⟨h1,fun k hk=>by
  rcases g.new k hk with h2|h2
  ·exact h.new k h2
  ·have:=h.up.size;omega,h.up.trans g.upd (fun k hk=> .inl (h.new k hk))⟩
def Zee {P:Prop}(h:P:=by
 refine⟨_,fun W d=>d,T.out,?_⟩
 repeat first|refine JN ?_|refine JF ?_
 refine JU ?_
 refine Jo (YG ce).toArray s.out al.out (by kernel_rfl) ?_
 obtain⟨C,g⟩:=Je (w5.setRow L (YG ce).toArray)
 rw[←g]
 have H:=Kg g
 have K:=D (show Zg [] w2 C from y.out.trans H (fun k F=> .inl (by rw[Jm F];exact J.out)))
 have ai:=D (show C.heap[L]? =some (.cells (YG ce).toArray 246 (0,0))by rw[g];exact setRow_heap _ _ _ _ _ _ s.out)
 have ae:=D (o.out _ _ ah.out K.out)
 clear g H
 refine⟨_,fun W d=>d,ae.out,Zdu ?_⟩
 go_wp2_with fail
 go_meet
 exact⟨L,rfl,rfl,D ⟨J.out,ai.out,K.out⟩⟩):P:=h
def Zeg {P:Prop}(h:P:=by
 refine⟨_,fun W d=>d,Z.out,?_⟩
 refine JU ?_
 go_wp2_with fail
 refine(av.out _ aa.out).mono ?_
 rintro e w5 ⟨rfl,E⟩
 have y:=Jt aa E
 have T:=D (o.out _ _ Z.out E)
 have s:=D ((Kv E aF))
 clear E
 go_wp2_with fail
 exact Zee):P:=h
def Zjd (r:Ya) (vr:Value) (a:Zo) (vm vh:Value) (M1 M2:List Nat) (now:Nat) (w:World) (h:Za5 w r vr) (ha:Zdj w a vm vh M1 M2) (hm:a.methods.length≤1000000) (hh:a.headers.length≤1000000)
  (hage:a.age≤18446744073709551615) (hnow:now≤18446744073709551615) (hE:Env w):
  Calls Tryz.prog 156 #[.agg (Zt r vr).toArray, .agg (Zy vm vh a).toArray, .int .u64 now] w (ZnK w (ZbO r a now)):=by
 obtain⟨R,hR⟩:=Je (ZbO r a now)
 obtain⟨bn,aM⟩:=Je (Zdr r)
 have HR:=D (show R=if !bn||a.age==0 then[]else((((if a.methods.length==0 then[(YJ r).method]else a.methods).map fun m=>(⟨Zdh r,m,[],addT now a.age⟩:Zp))++a.headers.map fun h=>(⟨Zdh r,[],h,addT now a.age⟩:Zp))).foldl ZhE []by rw[hR,aM];exact ZiT r a now)
 rw[←hR]
 obtain⟨X,aq⟩:=Je ((w.alloc (.cells (Zt r vr).toArray 35)).alloc (.cells (Zy vm vh a).toArray 263))
 have Y:Zg [] w X:=by rw[aq];exact((Zg.refl [] w).alloc _).alloc _
 have aD:X.heap[w.heap.size]? =some (.cells (Zt r vr).toArray 35 (0,0)):=by rw[aq,Zz _ (by simp)];exact Za _
 have aW:X.heap[w.heap.size+1]? =some (.cells (Zy vm vh a).toArray 263 (0,0)):=by
  rw[aq]
  have:=Za (w:=w.alloc (.cells (Zt r vr).toArray 35)) (.cells (Zy vm vh a).toArray 263 (0,0));simpa using this
 have q1:∀W,Zg [] X W→Calls Tryz.prog 144 #[.agg (Zt r vr).toArray] W fun e O=>e= .returned (.bool bn)∧Zg [] W O:=fun W d=>by rw[aM];exact Zg1 r vr W ((h.upd0 Y).upd0 d) (hE.upd0 (Y.trans d))
 have Q1:=D q1
 have bm:=D Y;have a5:=D aD;have a9:=D aW;have bh:=D (h.upd0 Y);have bA:=D (ha.upd0 Y);have HE:=D hE
 have aN:=D Yh
 have a0:=D (show Zb X w.heap.size 0 (Zt r vr)from Zb.of_block aD)
 obtain⟨b0,aQ⟩:=Je w.heap.size
 obtain⟨b1,aE⟩:=Je (w.heap.size+1)
 rw[←aQ]at a5 a0
 rw[←aE]at a9
 clear q1 hR aM Y aD aW h ha hE;change Hid _ at aq aQ aE
 obtain⟨p,ac⟩:=Je a.age
 go_in
 go_upto_region 1 with fail
 rw[←aq.out,←aE.out,←aQ.out]
 go_wp2_with(refine ZX _ rfl 35 (.tmp 3) rfl b0 0 (Zt r vr) rfl aN.out a0.out ?_)
 refine(Q1.out X (Zg.refl [] X)).mono ?_
 rintro e w2 ⟨rfl,ap⟩
 have aT:=D ap;have aA:=Jt bm ap
 have a4:=D ((Kv ap a5))
 have a6:=D ((Kv ap a9))
 clear ap Q1;change Hid _ at ac
 cases bn with
 |false=>
  have aP:=D (show R=[]by rw[HR.out];rfl)
  go_wp2_with fail
  go_ret
  exact⟨_,[],rfl,by rw[aP.out];exact ZA _ _ _,by simp,aA.out⟩
 |true=>
 have c2:w2.cell? ⟨b1,2,none⟩=some (.int .u64 (p:Int)):=by rw[ac.out];exact Zf (i:=2) a6.out rfl
 by_cases h0:p=0
 ·have aP:=D (show R=[]by rw[HR.out,←ac.out,h0];rfl)
  have bq:(p:Int)=0:=by omega
  clear h0
  go_wp2_with fail
  go_ret
  exact⟨_,[],rfl,by rw[aP.out];exact ZA _ _ _,by simp,aA.out⟩
 have bq:¬(p:Int)=0:=by omega
 have bb:=D (show p≤18446744073709551615 by rw[ac.out];exact hage)
 obtain⟨u,N⟩:=Je (addT now p)
 have aC:=D (fun(W:World)=>(show Calls Tryz.prog 123 #[.int .u64 now, .int .u64 p] W fun e O=>e= .returned (.int .u64 (u:Nat))∧O=W by rw[N];exact ZdH now p hnow bb.out W))
 obtain⟨ce,aJ⟩:=Je (Zdh r)
 have aU:=D (bh.out.upd0 aT.out)
 have av:=D (fun(W:World) (d:Zg [] w2 W)=>(show Calls Tryz.prog 146 #[.agg (Zt r vr).toArray] W fun e O=>e= .returned (.agg (YG ce).toArray)∧Zg [] W O by rw[aJ];exact ZiC r vr W (aU.out.upd0 d) (HE.out.upd0 (aA.out.trans d))))
 have bo:=D N;have bG:=D hnow
 have al:=D (show Zu Tryz.prog 246 3=true by kernel_rfl)
 have bt:=D hm;have bk:=D hh
 clear N hnow hm hh hage;change Hid _ at aJ
 go_upto_region 3 with fail
 obtain⟨S,hS⟩:∃S:World→Prop,S=fun W=>W.cell? ⟨b1,2,none⟩=some (.int .u64 (p:Int))∧Zb W b0 0 (Zt r vr):=⟨_,rfl⟩
 have o:=D (show∀W W',S W→Zg [] W W'→S W' from fun W W' d N=>by
  rw[hS]at d⊢
  exact⟨(Xp (N.block b1 (Xo _ _ d.1) (by simp))).trans d.1,d.2.upd N⟩)
 have ah:=D (show S w2 by rw[hS];exact⟨c2,Zb.of_block a4.out⟩)
 have aO:=D hS
 clear hS c2
 go_cut [7,8]from 16 to 29 (fun s7 s8 wx=>∃cb:Nat,s7= .int .u64 (u:Nat)∧s8= .pointer (some ⟨cb,0,none⟩)∧Hid (w2.heap.size≤cb∧wx.heap[cb]? =some (.cells (YG ce).toArray 246 (0,0))∧Zg [] w2 wx))
 case first=>
  obtain⟨w3,af⟩:=Je w2.drew
  have z:=D (show Zg [] w2 w3 by rw[af];exact(Zg.refl [] w2).drew)
  have an:=D (o.out _ _ ah.out z.out)
  change Hid _ at af
  refine ZaV (.held 0 (.held 1 (.held 2 (.held 4 (.two 3 (.two 5 (.eff 6 (.held 7 (.eff 8 (.nil)))) 6 (.eff 5 (.held 7 (.eff 8 (.nil))))) 6 (.eff 3 (.eff 5 (.held 7 (.eff 8 (.nil)))))))))) S (by kernel_rfl) (by kernel_rfl) (fun c a w t v h=>by cases t<;>exact h) (by have q:=an.out;rw[af.out]at q;exact q) ?_
  repeat first|refine JN ?_|refine JF ?_
  refine JT (v:= .int .u64 (p:Int)) ?_ (hv:=by intro W d;rw[aO.out]at d;have d0:=d.1;clear d;go_simp)
  apply Zix (t:= 35) (x:= .tmp 3) (b:=b0) (of:=0) (cs:=Zt r vr)
  case ho=>simp only[Xh,Xf,Xg];rfl
  case hg=>rfl
  case hop=>rfl
  case hx=>rfl
  case hv=>intro W d;rw[aO.out]at d;exact Yg W aN.out d.2
  case ha=>go_simp;rfl
  apply ZcW
  case ho=>simp only[Xh,Xf,Xg];rfl
  case ho2=>simp only[Xh,Xf,Xg];rfl
  case h=>
   simp only[Xu]
   rw[←af.out]
   go_wp2_with fail
   refine(aC.out _).mono ?_
   rintro e W ⟨rfl,d⟩
   rw[d]
   clear d W
   go_wp2_with fail
   refine⟨_,fun W d=>d,an.out,?_⟩
   apply ZcW
   case ho=>simp only[Xh,Xf,Xg];rfl
   case ho2=>simp only[Xh,Xf,Xg];rfl
   case h=>
    go_wp2_with fail
    refine(av.out _ z.out).mono ?_
    rintro e aX ⟨rfl,aB⟩
    have aV:=Jt z aB
    have aS:=D (o.out _ _ an.out aB)
    clear aB
    go_wp2_with fail
    refine⟨_,fun W d=>d,aS.out,?_⟩
    refine JU ?_
    obtain⟨w5,aG,n⟩:=Kb aX (.cells #[.string ⟨#[]⟩, .string ⟨#[]⟩, .bool false] 246)
    obtain⟨L,l⟩:=Je aX.heap.size
    have s:=D (show w5.heap[L]? =some (.cells #[.string ⟨#[]⟩, .string ⟨#[]⟩, .bool false] 246 (0,0))by rw[aG,l];exact Za _)
    have y:=Jt aV n
    have J:=D (show w2.heap.size≤L by rw[l];exact aV.out.size)
    have T:=D (o.out _ _ aS.out n)
    clear n
    go_wp2_with fail
    rw[←aG,←l]
    clear aG l
    exact Zee
   case h2=>
    obtain⟨V,P,n⟩:=Kb w3 (.cells #[.string ⟨#[]⟩, .string ⟨#[]⟩, .bool false] 246)
    obtain⟨L,l⟩:=Je w3.heap.size
    have aF:=D (show V.heap[L]? =some (.cells #[.string ⟨#[]⟩, .string ⟨#[]⟩, .bool false] 246 (0,0))by rw[P,l];exact Za _)
    have aa:=Jt z n
    have J:=D (show w2.heap.size≤L by rw[l];exact z.out.size)
    have Z:=D (o.out _ _ an.out n)
    clear n
    go_wp2_with fail
    rw[←P,←l]
    clear P l
    exact Zeg
  case h2=>
   simp only[Xu]
   rw[←af.out]
   obtain⟨V,P,n⟩:=Kb w3 (.cells #[.string ⟨#[]⟩, .string ⟨#[]⟩, .bool false] 246)
   obtain⟨L,l⟩:=Je w3.heap.size
   have aF:=D (show V.heap[L]? =some (.cells #[.string ⟨#[]⟩, .string ⟨#[]⟩, .bool false] 246 (0,0))by rw[P,l];exact Za _)
   have aa:=Jt z n
   have J:=D (show w2.heap.size≤L by rw[l];exact z.out.size)
   have Z:=D (o.out _ _ an.out n)
   clear n
   go_wp2_with fail
   rw[←P,←l]
   clear P l
   refine⟨_,fun W d=>d,Z.out,?_⟩
   refine JU ?_
   go_wp2_with fail
   refine(aC.out _).mono ?_
   rintro e W ⟨rfl,d⟩
   rw[d]
   clear d W
   go_wp2_with fail
   exact Zeg
 case rest=>
  obtain⟨cb,rfl,rfl,HC⟩:=hcut
  rename World=>w3
  clear o ah aO aC av
  have z:=Jt aA HC.out.2.2
  have ba:=D ((Kv HC.out.2.2 a6))
  have bw:=D ((Kv HC.out.2.2 a4))
  have aw:=D (bA.out.upd0 (aT.out.trans HC.out.2.2))
  have bd:=D (aU.out.upd0 HC.out.2.2)
  obtain⟨ms,ad⟩:=Je ((if(a.methods.length==0)=true then[(YJ r).method]else a.methods))
  obtain⟨Am,cm,rfl,bD,_⟩:=aw.out.ms.strs
  obtain⟨Ah,ch,rfl,bv,_⟩:=aw.out.hs.strs
  have be:=Jc 0 ba.out
  obtain⟨ml,ak⟩:=Je a.methods.length
  rw[←ak]at be
  clear bD bv;change Hid _ at ad ak
  have bJ:∀(fn:Fn) (first cap:Array Value) (w:World),(Instr.makeFunc fn first cap).run Tryz.prog w= .ok (.func fn first cap) w:=fun _ _ _ _=>rfl
  obtain⟨bz,aL⟩:=Je (((ml:Int)==0))
  have aZ:=D (show bz=(ml==0)by rw[aL];cases ml<;>rfl)
  go_upto_if 34 with fail
  rw[←aL]
  clear aL
  go_cut [9]from 30 to 38 (fun s9 wx=>∃(A:Option Addr) (c:Nat) (M:List Nat),s9= .slice A ms.length c∧Hid (Z9 (.slice A ms.length c) ms wx M∧Zg [] w3 wx))
  case first=>
   cases bz with
   |false=>
    have e:ms=a.methods:=by rw[ad.out,←ak.out,←aZ.out];rfl
    go_wp2_with fail
    go_meet
    exact⟨Am,cm,M1,by rw[e,←ak.out],D ⟨by rw[e];exact aw.out.ms,Zg.refl _ _⟩⟩
   |true=>
    have e:ms=[(YJ r).method]:=by rw[ad.out,←ak.out,←aZ.out];rfl
    have bu:=D (show Zb w3 b0 0 (Zt r vr)from Zb.of_block bw.out)
    obtain⟨mn,I⟩:=Je ((YJ r).method)
    rw[←I]at e
    have bB:=D (show Calls Tryz.prog 57 #[.agg (Zt r vr).toArray] w3 (fun e O=>∃v1 v2 v3 v4 v5 v6 v7 v8 v9,e= .returned (.agg #[.string ⟨mn.toArray⟩,v1,v2,v3,v4,v5,v6,v7,v8,v9])∧Zg [] w3 O)from(ZeQ r vr w3 bd.out (HE.out.upd0 z.out)).mono (by
     rintro e O ⟨vh,M,rfl,_,_,N⟩
     exact⟨_,_,_,_,_,_,_,_,_,by rw[I];rfl,N⟩))
    clear I
    go_wp2_with(refine ZX _ rfl 35 (.tmp 3) rfl b0 0 (Zt r vr) rfl aN.out bu.out ?_)
    refine bB.out.mono ?_
    rintro e' V ⟨v1,v2,v3,v4,v5,v6,v7,v8,v9,rfl,aI⟩
    have bK:∀W:World,(Instr.field 35 (.agg #[.string ⟨mn.toArray⟩,v1,v2,v3,v4,v5,v6,v7,v8,v9]) 0).run Tryz.prog W= .ok (.string ⟨mn.toArray⟩) W:=fun _=>by kernel_rfl
    have aa:=D aI
    obtain⟨w5,az⟩:=Je (V.alloc (.cells #[.string ⟨mn.toArray⟩] 9))
    have y:=D (show Zg [] w3 w5 by rw[az];exact aI.alloc _)
    have T:=D (show Z9 (.slice (some ⟨V.heap.size,0,none⟩) 1 1) [mn] w5 [V.heap.size]from Zjq (cur:= #[.string ⟨mn.toArray⟩]) (by rw[az];exact Za _) rfl (by decide) (by simp[Za8]) (by simp[Za8]))
    have a3:=D e
    clear aI e;change Hid _ at az
    go_wp2_with fail
    rw[←az.out]
    go_meet
    exact⟨_,_,_,by rw[a3.out];rfl,D ⟨by rw[a3.out];exact T.out,y.out⟩⟩
  case rest=>
   obtain⟨A,c,M,rfl,au⟩:=hcut
   rename World=>w5
   have y:=Jt z au.out.2
   have bf:=D ((Kv au.out.2 ba))
   have s:=D ((Kv au.out.2 HC.out.2.1))
   have bc:=D (aw.out.upd0 au.out.2)
   have bE:=D (show Y3 w5 A ms by obtain⟨A',c',e,_,h⟩:=au.out.1.strs;injection e with e;rw[e];exact h)
   have bx:=D (show Y3 w5 Ah a.headers by obtain⟨A',c',e,_,h⟩:=bc.out.hs.strs;injection e with e;rw[e];exact h)
   obtain⟨es,am⟩:=Je ((ms.map fun m=>(⟨ce,m,[],u⟩:Zp))++a.headers.map fun h=>(⟨ce,[],h,u⟩:Zp))
   have bC:=D (show R=grN es es.length by
    have e:=HR.out
    rw[←ad.out,←aJ.out,←ac.out,←bo.out,←am]at e
    rw[e,ZnX]
    have:(p==0)=false:=by simp[h0]
    rw[this];rfl)
   have bF:=D (show∀k x,ms[k]? =some x→es[k]? =some (⟨ce,x,[],u⟩:Zp)by intro k x hx;rw[am,List.getElem?_append_left (by rw[Xb];exact(Jk hx)),Xe,hx];rfl)
   have a1:=D (show∀k x,a.headers[k]? =some x→es[ms.length+k]? =some (⟨ce,[],x,u⟩:Zp)by intro k x hx;rw[am,List.getElem?_append_right (by simp)];simp[hx])
   have ay:=D (show es.length=ms.length+a.headers.length by rw[am];simp)
   have ax:=D (show ms.length≤1000000 by
    rw[ad.out]
    split
    ·simp
    ·exact bt.out)
   clear am
   obtain⟨mn,I⟩:=Je ms.length
   obtain⟨hn,ar⟩:=Je a.headers.length
   have a2:=D (show hn≤1000000 by rw[ar];exact bk.out)
   rw[←I]at a1 ay ax
   rw[←ar]at ay
   have bp:=D I;have bl:=D ar
   obtain⟨C,g⟩:=Je (w5.alloc (.cells #[.slice none 0 0] 185))
   obtain⟨ob,aj⟩:=Je w5.heap.size
   have bi:=D (show ZoM w5 ob (grN es 0) C [ob]from⟨⟨.slice none 0 0,[],rfl,by simp,by rw[g,aj];exact Za _,ZA _ _ _⟩,by intro k F;rw[Jm F,aj];exact Xi _,by rw[g];exact(Zg.refl [] w5).alloc _⟩)
   have br:=D (show∀W,Zg [] w5 W→W.cell? ⟨b1,1,none⟩=some (.slice Ah hn ch)from fun W d=>by
    rw[ar];exact Zf (i:=1) ((Kv d bf)) rfl)
   have a8:=D (show∀W,Zg [] w5 W→Zb W cb 0 (YG ce)from fun W d=>Zb.of_block ((Kv d s)))
   rw[←I]
   clear I ar
   go_upto_region 8 with fail
   rw[←g,←aj]
   have bL:=D g;have bN:=D aj
   clear g aj
   go_wp2_with fail
   go_loopw[13,42] (fun _ s42 wr=>∃(kk:Nat) (G:List Nat),kk≤mn∧s42= .int .i64 kk∧Hid (ZoM w5 ob (grN es kk) wr G)) (fun _ s42 _=>mn-(intOf s42).toNat)
   case atStart=>exact⟨0,[ob],Xn _,rfl,bi⟩
   case round=>
    obtain⟨kk,G,bO,rfl,j⟩:=hrel
    by_cases aR:kk<mn
    ·obtain⟨x,hx⟩:∃x,ms[kk]? =some x:=⟨_,Xa (by rw[←bp.out];exact aR)⟩
     obtain⟨ab,ao,rfl,aH⟩:=(bE.out.upd0 j.out.up) kk x hx
     have q:=ZnR j.out.out (by have:=Zks es kk;have:=ax.out;omega) ⟨ce,x,[],u⟩
     rw[←ZkH (bF.out kk x hx)]at q
     have Q:=D q
     have aK:=D (a8.out _ j.out.up)
     clear q hx
     go_wp2_with(refine ZX _ rfl 246 (.tmp 8) rfl cb 0 [.string ⟨ce.origin.toArray⟩, .string ⟨ce.url.toArray⟩, .bool ce.creds] rfl al.out aK.out ?_)
     refine Q.out.mono ?_
     rintro e w7 ⟨rfl,G7,h7,g7⟩
     have HN:=D (j.out.next h7 g7)
     have bg:kk<1000000:=by have:=ax.out;omega
     clear h7 g7 aH
     go_wp2_with fail
     exact⟨⟨kk+1,G7,by omega,by go_num,HN⟩,by simp[intOf];omega⟩
    ·obtain rfl:kk=mn:=by omega
     have bI:=br.out _ j.out.up
     go_wp2_with fail
     go_loopw[15,56] (fun _ s56 wq=>∃(jj:Nat) (G:List Nat),jj≤hn∧s56= .int .i64 jj∧Hid (ZoM w5 ob (grN es (kk+jj)) wq G)) (fun _ s56 _=>hn-(intOf s56).toNat)
     case atStart=>exact⟨0,G,Xn _,rfl,j⟩
     case round=>
      clear j
      obtain⟨jj,G1,bM,rfl,j⟩:=hrel
      by_cases aR:jj<hn
      ·obtain⟨x,hx⟩:∃x,a.headers[jj]? =some x:=⟨_,Xa (by rw[←bl.out];exact aR)⟩
       obtain⟨ab,ao,rfl,aH⟩:=(bx.out.upd0 j.out.up) jj x hx
       have q:=ZnR j.out.out (by have:=Zks es (kk+jj);have:=ax.out;have:=a2.out;omega) ⟨ce,[],x,u⟩
       rw[←ZkH (a1.out jj x hx)]at q
       have Q:=D q
       have aK:=D (a8.out _ j.out.up)
       clear q hx
       go_wp2_with(refine ZX _ rfl 246 (.tmp 8) rfl cb 0 [.string ⟨ce.origin.toArray⟩, .string ⟨ce.url.toArray⟩, .bool ce.creds] rfl al.out aK.out ?_)
       refine Q.out.mono ?_
       rintro e w7 ⟨rfl,G7,h7,g7⟩
       have HN:=D (j.out.next h7 g7)
       have bg:jj<1000000:=by have:=a2.out;omega
       clear h7 g7 aH
       go_wp2_with fail
       exact⟨⟨jj+1,G7,by omega,by go_num,HN⟩,by simp[intOf];omega⟩
      ·obtain rfl:jj=hn:=by omega
       obtain⟨v,GG,rfl,bj,a7,aY⟩:=j.out.out
       have co:=Zf (i:=0) a7 rfl
       simp only[List.getElem_toArray,Xv]at co
       have bs:=D aY;have bH:=D ay.out
       clear bj a7 aY
       go_wp2_with fail
       go_ret
       refine⟨v,GG,rfl,?_,fun k F=> ?_,y.out.trans j.out.up⟩
       ·rw[bC.out,ay.out];exact bs.out
       ·have h1:=j.out.new k (by simp[F]);have h2:=y.out.size;omega
end Go.Proofs.YtlhapbopmplngaaGreatDoor
