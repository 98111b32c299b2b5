import Derived.Deep.DeepCutAuto
import Derived.Test.YtbgbeddbfaopgaaGreatDoorZ23
set_option linter.all false
set_option maxHeartbeats 16000000
set_option maxRecDepth 100000
set_option autoImplicit true
set_option relaxedAutoImplicit true
namespace Go.Lk
def ZgN (tm th:Option (List Bs)) (dg:Nat×Bool):Zp×Int:=match tm with
 |none=>(Zp.zero,5)
 |some ms=>match th with
  |none=>(Zp.zero,6)
  |some hs=>(⟨ms,hs.map Yx,if dg.2 then min dg.1 7200 else 5⟩,0)
theorem Zlf (l:List (Bs×Bs)):Zb3 l=ZgN (Zbx l [97,99,99,101,115,115,45,99,111,110,116,114,111,108,45,97,108,108,111,119,45,109,101,116,104,111,100,115]) (Zbx l [97,99,99,101,115,115,45,99,111,110,116,114,111,108,45,97,108,108,111,119,45,104,101,97,100,101,114,115]) (Zab (YO (Zdc l [97,99,99,101,115,115,45,99,111,110,116,114,111,108,45,109,97,120,45,97,103,101]).1)):=rfl
theorem Zqp (hs:List Bs) {k:Nat} (h:hs[k]? =some x):((hs.take k).map Yx++hs.drop k).set k (Yx x)=(hs.take (k+1)).map Yx++hs.drop (k+1):=by
 obtain⟨a,hx⟩:=List.getElem?_eq_some_iff.1 h
 have b:((hs.take k).map Yx).length=k:=by rw[Xb,List.length_take];omega
 rw[List.set_append_right _ _ (by omega),b,Nat.sub_self,List.drop_eq_getElem_cons a,List.set_cons_zero,Xr a,hx,Xs,List.append_assoc]
 rfl
end Go.Lk
namespace Go.Proofs.YtbgbeddbfaopgaaGreatDoor
open Go.RowKit Go.Lk
def ZiE (w:World) (r:Zp×Int) (e:Ending) (w':World):Prop:=∃(vm vh:Value) (M1 M2:List Nat),e= .returned (.tuple #[.agg (Zt vm vh r.1).toArray, .int .i64 r.2])∧Ye vm r.1.methods w' M1∧Ye vh r.1.headers w' M2∧(∀k∈M1,w.heap.size≤k)∧(∀k∈M2,w.heap.size≤k)∧Zg [] w w'
theorem ZbC (vm vh:Value) (a:Zp) (h1:vm.oneCell'=true) (h2:vh.oneCell'=true):(Zt vm vh a).toArray.all (·.oneCell')=true:=by
 rw[Xl,Xk]
 intro x hx
 simp only[Zt,List.mem_cons,List.not_mem_nil,or_false]at hx
 rcases hx with rfl|rfl|rfl
 ·exact h1
 ·exact h2
 ·rfl
theorem Ze7:Zu Tryz.prog 267 3=true:=by kernel_rfl
theorem ZeU (h:Zaw l) {name:Bs} {ts:List Bs} (ht:Zbx l name=some ts):ts.length≤1000000∧∀x∈ts,x.length≤900000:=by
 have c:=ZhF h name
 unfold Zbx at ht
 split at ht
 ·injection ht with ht
  have b:=ZaN 44 (Zdc l name).1.length (Zdc l name).1 (Xi _)
  rw[←ht]
  unfold Zie
  refine⟨Xj (Xq _ _) (by rw[Xb];omega),fun x hx=> ?_⟩
  obtain⟨y,a,rfl⟩:=List.mem_map.1 (List.mem_filter.1 hx).1
  have:=ZaC y
  have:=b.2 y a
  omega
 ·cases ht
theorem Zf3 {P:Prop}(h:P:=by
 rw[aR.out]
 exact⟨_,_,Z,M2,rfl,aV.out,aL.out,fun q a=>by have:=aM.out q a;have:=L.size;omega,fun q a=>by have:=C.out.1 q a;have:=ai.size;omega,aW.out⟩):P:=h
theorem Zl8 (l:List (Bs×Bs)) (A:Option Addr) (c:Nat) (w:World) (hA:Zay w A l) (hf:Zaw l) (hE:Env w):
  Calls Tryz.prog 234 #[.slice A l.length c] w (ZiE w (Zb3 l)):=by
 obtain⟨R,hR⟩:=Je (Zb3 l)
 obtain⟨tm,aT⟩:=Je (Zbx l [97,99,99,101,115,115,45,99,111,110,116,114,111,108,45,97,108,108,111,119,45,109,101,116,104,111,100,115])
 obtain⟨th,aD⟩:=Je (Zbx l [97,99,99,101,115,115,45,99,111,110,116,114,111,108,45,97,108,108,111,119,45,104,101,97,100,101,114,115])
 obtain⟨O,aC⟩:=Je (Zdc l [97,99,99,101,115,115,45,99,111,110,116,114,111,108,45,109,97,120,45,97,103,101])
 obtain⟨tr,aq⟩:=Je (YO O.1)
 obtain⟨dg,aI⟩:=Je (Zab tr)
 have HR:=D (show R=ZgN tm th dg by rw[hR,aT,aD,aI,aq,aC];exact Zlf l)
 rw[←hR]
 obtain⟨V,aw⟩:=Je (w.alloc (.cells #[.slice none 0 0, .slice none 0 0, .int .u64 0] 267))
 have L:=Ja aw
 have av:=Jh aw
 obtain⟨n,hn⟩:=Je l.length
 have bo:O.1.length≤900000:=by rw[aC];exact ZhF hf _
 have bp:tr.length≤900000:=by rw[aq];have:=ZaC O.1;omega
 have q1:∀W,Zg [] V W→Calls Tryz.prog 299 #[.slice A n c, .string ⟨([97,99,99,101,115,115,45,99,111,110,116,114,111,108,45,97,108,108,111,119,45,109,101,116,104,111,100,115]:Bs).toArray⟩] W (ZmR W tm):=fun W T=>by rw[aT,hn];exact Zgt l A c [97,99,99,101,115,115,45,99,111,110,116,114,111,108,45,97,108,108,111,119,45,109,101,116,104,111,100,115] W ((hA.upd0 L).upd0 T) hf (by simp) (hE.upd0 (L.trans T (by simp)))
 have q2:∀W,Zg [] V W→Calls Tryz.prog 299 #[.slice A n c, .string ⟨([97,99,99,101,115,115,45,99,111,110,116,114,111,108,45,97,108,108,111,119,45,104,101,97,100,101,114,115]:Bs).toArray⟩] W (ZmR W th):=fun W T=>by rw[aD,hn];exact Zgt l A c [97,99,99,101,115,115,45,99,111,110,116,114,111,108,45,97,108,108,111,119,45,104,101,97,100,101,114,115] W ((hA.upd0 L).upd0 T) hf (by simp) (hE.upd0 (L.trans T (by simp)))
 have q3:∀W,Zg [] V W→Calls Tryz.prog 165 #[.slice A n c, .string ⟨([97,99,99,101,115,115,45,99,111,110,116,114,111,108,45,109,97,120,45,97,103,101]:Bs).toArray⟩] W fun e w'=>e= .returned (.tuple #[.string ⟨O.1.toArray⟩, .bool O.2])∧Zg [] W w':=fun W T=>by rw[aC,hn];exact ZdY l A c [97,99,99,101,115,115,45,99,111,110,116,114,111,108,45,109,97,120,45,97,103,101] W ((hA.upd0 L).upd0 T) (by have:=hf.1;omega) (Zaw.few hf) (by simp)
 have q4:∀W,Calls Tryz.prog 192 #[.string ⟨O.1.toArray⟩] W fun e w'=>e= .returned (.string ⟨tr.toArray⟩)∧w'=W:=fun W=>by rw[aq];exact Za4 O.1 W (by omega)
 have q5:∀W,Calls Tryz.prog 260 #[.string ⟨tr.toArray⟩] W fun e w'=>e= .returned (.tuple #[.int .u64 (dg.1:Int), .bool dg.2])∧W=w':=fun W=>by rw[aI];exact ZcJ tr W (by omega)
 have aY:=D (show∀ts,th=some ts→ts.length≤1000000∧∀x∈ts,x.length≤900000 from fun ts h=>ZeU hf (aD▸h))
 rw[←hn]
 have Q1:=D q1;have Q2:=D q2;have Q3:=D q3;have Q4:=D q4;have Q5:=D q5
 have z:=D Ze7
 clear q1 q2 q3 q4 q5 hR aT aD aC aq aI bo bp hA hf hE hn;change Hid _ at L aw av
 obtain⟨bJ,bK⟩:=O
 obtain⟨aS,a7⟩:=dg
 dsimp only at HR Q3 Q4 Q5
 go_enter Tryz.func234,Tryz.ntmps234
 go_upto_region 1 with fail
 rw[←aw.out]
 go_wp2_with fail
 refine(Q1.out V (Zg.refl [] V)).mono ?_
 rintro e w2 ⟨vm,Z,rfl,bm,bf,ap⟩
 have aE:=D ap;have ai:=Jt L ap
 have ay:=D bm
 have aM:=D (show∀k∈Z,V.heap.size≤k from bf)
 have aj:=D ((ap.block w.heap.size (Jg av) (by simp)).trans av)
 clear bm bf ap Q1
 cases tm with
 |none=>
  have P:=D (show R=(Zp.zero,5)by rw[HR.out];rfl)
  obtain⟨wz,J⟩:=Je (w2.setRow w.heap.size (Zt (.slice none 0 0) (.slice none 0 0) Zp.zero).toArray)
  have ad:wz.heap[w.heap.size]? =some (.cells (Zt (.slice none 0 0) (.slice none 0 0) Zp.zero).toArray 267 (0,0)):=by rw[J];exact setRow_heap _ _ _ _ _ _ aj.out
  have ak:Zg [w.heap.size] w2 wz:=by rw[J];exact(Zg.refl _ _).setRow (.inr (by simp)) _
  have aN:=D (((ai.weaken (G:=[w.heap.size]) (by simp)).trans ak (fun q a=> .inr a)).weaken (G:=[]) (fun q a=> .inl (by rw[Jm a];exact Xi _)))
  have a0:=D (show(Zt (.slice none 0 0) (.slice none 0 0) Zp.zero).toArray.all (·.oneCell')=true from ZbC _ _ _ rfl rfl)
  clear ak;change Hid _ at ad J
  go_wp2_with(refine Jo (Zt (.slice none 0 0) (.slice none 0 0) Zp.zero).toArray aj z a0 ?_;rw[←J.out])
  refine bodyPost_ret (v:= .tuple #[.agg (Zt (.slice none 0 0) (.slice none 0 0) Zp.zero).toArray, .int .i64 5]) (Zl _ Tryz.results234 (b:=w.heap.size) (o:=0) rfl rfl z (Zb.of_block ad)) rfl ?_
  rw[P.out]
  exact⟨_,_,[],[],rfl,ZD _ _ _,ZD _ _ _,by simp,by simp,aN.out⟩
 |some ms=>
 go_wp2_with fail
 refine(Q2.out w2 aE).mono ?_
 rintro e w3 ⟨vh,M2,rfl,bc,ar,ae⟩
 have bn:=Jt aE ae;have bl:=Jt ai ae
 have an:=D ((Zm _ _).upd ay ae (by simp))
 have am:=D bc
 have C:=D (show(∀k∈M2,w2.heap.size≤k)∧(∀k∈Z,k∉M2)∧w.heap.size∉M2∧w.heap.size∉Z by
  refine⟨ar,fun k hk d=> ?_,fun d=> ?_,fun d=> ?_⟩
  ·have:=(Zm _ _).lt ay k hk
   have:=ar k d;omega
  ·have:=ar _ d;have:=(Jg aj);omega
  ·have:=aM.out _ d;have:=(Jg av);omega)
 have az:=D ((ae.block w.heap.size (Jg aj) (by simp)).trans aj)
 clear bc ar ae Q2
 cases th with
 |none=>
  have P:=D (show R=(Zp.zero,6)by rw[HR.out];rfl)
  obtain⟨wz,J⟩:=Je (w3.setRow w.heap.size (Zt (.slice none 0 0) (.slice none 0 0) Zp.zero).toArray)
  have ad:wz.heap[w.heap.size]? =some (.cells (Zt (.slice none 0 0) (.slice none 0 0) Zp.zero).toArray 267 (0,0)):=by rw[J];exact setRow_heap _ _ _ _ _ _ az.out
  have ak:Zg [w.heap.size] w3 wz:=by rw[J];exact(Zg.refl _ _).setRow (.inr (by simp)) _
  have aN:=D (((bl.weaken (G:=[w.heap.size]) (by simp)).trans ak (fun q a=> .inr a)).weaken (G:=[]) (fun q a=> .inl (by rw[Jm a];exact Xi _)))
  have a0:=D (show(Zt (.slice none 0 0) (.slice none 0 0) Zp.zero).toArray.all (·.oneCell')=true from ZbC _ _ _ rfl rfl)
  clear ak;change Hid _ at ad J
  go_wp2_with(refine Jo (Zt (.slice none 0 0) (.slice none 0 0) Zp.zero).toArray az z a0 ?_;rw[←J.out])
  refine bodyPost_ret (v:= .tuple #[.agg (Zt (.slice none 0 0) (.slice none 0 0) Zp.zero).toArray, .int .i64 6]) (Zl _ Tryz.results234 (b:=w.heap.size) (o:=0) rfl rfl z (Zb.of_block ad)) rfl ?_
  rw[P.out]
  exact⟨_,_,[],[],rfl,ZD _ _ _,ZD _ _ _,by simp,by simp,aN.out⟩
 |some hs=>
 have P:=D (show R=(⟨ms,hs.map Yx,if a7 then min aS 7200 else 5⟩,0)by rw[HR.out];rfl)
 have bv:=(aY.out hs rfl).1
 have bC:=D (aY.out hs rfl).2
 clear HR aY
 have bz:=am.strs
 obtain⟨A2,c2,rfl,_,_⟩:=am.strs
 obtain⟨m,p,rfl,_,_⟩:=an.strs
 clear bz
 obtain⟨hn,ac⟩:=Je hs.length
 obtain⟨r,a6⟩:=Je ms.length
 simp only[Option.getD_some,Option.isSome_some]at am an ay⊢
 rw[←ac]at am bv⊢
 rw[←a6]at an⊢
 clear ay;change Hid _ at ac a6
 go_wp2_with fail
 go_loopw[32,7,8] (fun v32 _ _ wr=>∃(k:Nat),k≤hn∧v32= .int .i64 k∧Hid (Ye (.slice A2 hn c2) ((hs.take k).map Yx++hs.drop k) wr M2)∧Hid (Zg M2 w3 wr)) (fun v32 _ _ _=>hn-(intOf v32).toNat)
 case atStart=>exact⟨0,Xn _,rfl,D (by simpa using am.out),D (Zg.refl _ _)⟩
 case round=>
  obtain⟨k,hk,rfl,HL,HU⟩:=hrel
  by_cases bE:k<hn
  ·have a1:k<hs.length:=by rw[←ac.out];exact bE
   obtain⟨y,hy⟩:∃y,hs[k]? =some y:=⟨_,Xa a1⟩
   have aA:((hs.take k).map Yx++hs.drop k)[k]? =some y:=by
    rw[List.getElem?_append_right (by rw[Xb,List.length_take];omega),Xb,List.length_take,List.getElem?_drop]
    rw[show k+(k-min k hs.length)=k by omega];exact hy
   obtain⟨A9,c9,e9,_,bh⟩:=HL.strs
   injection e9 with e9 bt bB
   clear bt bB
   obtain⟨ab,ao,E,bk⟩:=bh k y aA
   rw[←e9]at E
   have bu:ao=0:=by
    rcases HL.form with⟨S,_⟩|⟨g7,bG,bH,S,_⟩
    ·injection S with S _ _;rw[S]at E;cases E
    ·injection S with S _ _;rw[S]at E;injection E with E;injection E with _ E _;exact E.symm
   subst bu E
   have q:=YJ y wr (by have:=bC.out y (Xc hy);omega)
   have a3:=D (Zqp hs hy)
   obtain⟨lo,bb⟩:=Je (Yx y)
   rw[←bb]at q a3
   have Q:=D q
   rw[Nat.zero_add]at bk
   clear q bb e9 bh hy a1;change Hid _ at aA
   go_wp2_with fail
   refine Q.out.mono ?_
   rintro e w4 ⟨rfl,aJ⟩
   have aa:=(Zm _ _).upd HL aJ (by simp)
   have hg:M2=[ab]:=by
    obtain⟨bI,_,e1,_⟩:=Zj.block aa
    exact e1
   have br:=aa
   obtain⟨r1,r2⟩:=Zc0 (i:=k) (j:=0) (c:=Zbb y) aa (by rw[Xe,aA.out];rfl) (by omega) (.string ⟨lo.toArray⟩)
   have d0:w4.cell? ⟨ab,k,none⟩=some (.string ⟨y.toArray⟩):=by
    have:=Zj.liesAt aa (j:=k) (cs:=Zbb y) (by rw[Xe,aA.out];rfl) 0 _ rfl
    rw[Nat.mul_one,Nat.add_zero]at this;exact this
   have d1:w4.frozen? ⟨ab,k,none⟩=false:=by rw[Nat.mul_one,Nat.add_zero]at r2;exact r2
   rw[Nat.mul_one,Nat.add_zero]at r1
   obtain⟨M,I⟩:=Je (w4.setCell ⟨ab,k,none⟩ (.string ⟨lo.toArray⟩))
   have aK:=D (show Ye (.slice (some ⟨ab,0,none⟩) hn c2) ((hs.take (k+1)).map Yx++hs.drop (k+1)) M M2 by
    rw[←a3.out,I]
    unfold Ye
    rw[List.map_set]
    exact r1)
   have aZ:=D (show Zg M2 w3 M from HU.trans ((aJ.weaken (G:=M2) (by simp)).trans (show Zg M2 w4 M by rw[I,hg];exact(Zg.refl _ _).setCell (.inr (by simp)) _) (fun q a=> .inr a)) (fun q a=> .inr a))
   clear aJ aa hg br r1 r2 bk Q;change Hid _ at I
   go_wp2_with fail
   rw[←I.out]
   go_roundw
   case rel=>exact⟨k+1,by omega,by go_num,aK,aZ⟩
   case measure=>simp[intOf];omega
  ·obtain rfl:k=hn:=by omega
   have aX:=HL.out
   rw[ac.out,Xm,List.drop_length,List.append_nil,←ac.out]at aX
   have aH:=D aX
   clear aX HL
   have aF:=D ((HU.block w.heap.size (Jg az) C.out.2.2.1).trans az)
   have a9:=D ((Zm _ _).upd an HU C.out.2.1)
   have bw:=D (show Zg [] w wr from((bl.weaken (G:=M2) (by simp)).trans HU (fun q a=> .inr a)).weaken (fun q a=> .inl (by have:=C.out.1 q a;have:=ai.size;omega)))
   obtain⟨g,a2⟩:=Je (hs.map Yx)
   rw[←a2]at aH P
   obtain⟨M,I⟩:=Je ((wr.alloc (.cells #[.slice none 0 0, .slice none 0 0, .int .u64 0] 267 (0,0))).setRow wr.heap.size (Zt (.slice m r p) (.slice A2 k c2) ⟨ms,g,5⟩).toArray)
   have a8:=D (Za (w:=wr) (.cells #[.slice none 0 0, .slice none 0 0, .int .u64 0] 267 (0,0)))
   have bd:=D (show M.heap[wr.heap.size]? =some (.cells (Zt (.slice m r p) (.slice A2 k c2) ⟨ms,g,5⟩).toArray 267 (0,0))by rw[I];exact setRow_heap _ _ _ _ _ _ a8)
   have X:Zg [] wr M:=by rw[I];exact((Zg.refl [] wr).alloc _).setRow (.inl (Xi _)) _
   have aK:=D ((Zm _ _).upd aH X (by simp));have bq:=D ((Zm _ _).upd a9 X (by simp))
   have be:=D ((X.block w.heap.size (Jg aF) (by simp)).trans aF)
   have aZ:=Jt bw X
   have bg:=D (show(Zt (.slice m r p) (.slice A2 k c2) ⟨ms,g,5⟩).toArray.all (·.oneCell')=true from ZbC _ _ _ rfl rfl)
   have bD:=D (show Zg [] V M from(((bn.weaken (G:=M2) (by simp)).trans HU (fun q a=> .inr a)).trans (X.weaken (G:=M2) (by simp)) (fun q a=> .inr a)).weaken (fun q a=> .inl (by have:=C.out.1 q a;have:=aE.size;omega)))
   clear X a2;change Hid _ at I
   go_upto_region 13 with(refine Jo (Zt (.slice m r p) (.slice A2 k c2) ⟨ms,g,5⟩).toArray a8 z bg ?_;rw[←I.out])
   simp only[Act.put]
   go_wp2_with fail
   refine(Q3.out M bD).mono ?_
   rintro e N ⟨rfl,Y⟩
   have a4:=Jt aZ Y
   have al:=D ((Y.block wr.heap.size (Jg bd) (by simp)).trans bd)
   have ax:=D ((Y.block w.heap.size (Jg be) (by simp)).trans be)
   have bi:=D ((Zm _ _).upd aK Y (by simp));have bj:=D ((Zm _ _).upd bq Y (by simp))
   obtain⟨s,a5⟩:=Je wr.heap.size
   have au:=D (show w.heap.size≤s∧s≠w.heap.size∧w.heap.size≠s∧s∉Z∧s∉M2 by
    have h1:=(Jg aF)
    refine⟨by omega,by omega,by omega,fun d=> ?_,fun d=> ?_⟩
    ·have:=(Zm _ _).lt a9 s d;omega
    ·have:=(Zm _ _).lt aH s d;omega)
   rw[←a5]at al⊢
   clear Y a5 Q3
   go_wp2_with fail
   refine(Q4.out N).mono ?_
   rintro e wt ⟨rfl,ah⟩
   rw[ah];clear ah wt Q4
   go_wp2_with fail
   refine(Q5.out N).mono ?_
   rintro e wt ⟨rfl,ah⟩
   rw[←ah];clear ah wt Q5
   cases a7 with
   |false=>
    have aR:=D (show R=(⟨ms,g,5⟩,0)by rw[P.out];rfl)
    have aU:=al
    have aG:=bg
    obtain⟨we,K⟩:=Je (N.setRow w.heap.size (Zt (.slice m r p) (.slice A2 k c2) ⟨ms,g,5⟩).toArray)
    have aP:=D (show we.heap[w.heap.size]? =some (.cells (Zt (.slice m r p) (.slice A2 k c2) ⟨ms,g,5⟩).toArray 267 (0,0))by rw[K];exact setRow_heap _ _ _ _ _ _ ax)
    have H:Zg [w.heap.size] N we:=by rw[K];exact(Zg.refl _ _).setRow (.inr (by simp)) _
    have aW:=D (((a4.weaken (G:=[w.heap.size]) (by simp)).trans H (fun q a=> .inr a)).weaken (G:=[]) (fun q a=> .inl (by rw[Jm a];exact Xi _)))
    have aL:=D ((Zm _ _).upd bi H (fun q a d=>C.out.2.2.1 (by rw[←Jm d];exact a)));have aV:=D ((Zm _ _).upd bj H (fun q a d=>C.out.2.2.2 (by rw[←Jm d];exact a)))
    have aQ:=D (show Zb N s 0 (Zt (.slice m r p) (.slice A2 k c2) ⟨ms,g,5⟩)from Zb.of_block aU)
    clear H;change Hid _ at K
    go_wp2_with(first|refine Jl aQ z ?_|(refine Jo (Zt (.slice m r p) (.slice A2 k c2) ⟨ms,g,5⟩).toArray ax z aG ?_;rw[←K.out]))
    refine bodyPost_ret (v:= .tuple #[.agg (Zt (.slice m r p) (.slice A2 k c2) ⟨ms,g,5⟩).toArray, .int .i64 0]) (Zl _ Tryz.results234 (b:=w.heap.size) (o:=0) rfl rfl z (Zb.of_block aP)) rfl ?_
    exact Zf3
   |true=>
    obtain⟨F,aO⟩:=Je (min aS 7200)
    have aR:=D (show R=(⟨ms,g,F⟩,0)by rw[P.out,aO];rfl)
    have f2:=Jc 2 al.out
    have f3:N.frozen? ⟨s,2,none⟩=false:=Zk al.out
    have bF:(min (aS:Int) 7200)=(F:Int):=by rw[aO];omega
    obtain⟨w7,aB⟩:=Je (N.setCell ⟨s,2,none⟩ (.int .u64 (F:Int)))
    have aU:=D (show w7.heap[s]? =some (.cells (Zt (.slice m r p) (.slice A2 k c2) ⟨ms,g,F⟩).toArray 267 (0,0))by rw[aB];exact(Ze (i:=2) al _).trans rfl)
    have af:Zg [s] N w7:=by rw[aB];exact(Zg.refl _ _).setCell (.inr (by simp)) _
    have ba:=D ((af.block w.heap.size (Jg ax) (by simp;exact au.out.2.2.1)).trans ax)
    have bA:=D ((Zm _ _).upd bi af (fun q a d=>au.out.2.2.2.2 (by rw[←Jm d];exact a)));have bs:=D ((Zm _ _).upd bj af (fun q a d=>au.out.2.2.2.1 (by rw[←Jm d];exact a)))
    have bx:=D (((a4.weaken (G:=[s]) (by simp)).trans af (fun q a=> .inr a)).weaken (G:=[]) (fun q a=> .inl (by rw[Jm a];exact au.out.1)))
    have aG:=D (show(Zt (.slice m r p) (.slice A2 k c2) ⟨ms,g,F⟩).toArray.all (·.oneCell')=true from ZbC _ _ _ rfl rfl)
    clear af aO;change Hid _ at aB
    go_upto_region 17 with fail
    rw[←aB.out]
    obtain⟨we,K⟩:=Je (w7.setRow w.heap.size (Zt (.slice m r p) (.slice A2 k c2) ⟨ms,g,F⟩).toArray)
    have aP:=D (show we.heap[w.heap.size]? =some (.cells (Zt (.slice m r p) (.slice A2 k c2) ⟨ms,g,F⟩).toArray 267 (0,0))by rw[K];exact setRow_heap _ _ _ _ _ _ ba)
    have H:Zg [w.heap.size] w7 we:=by rw[K];exact(Zg.refl _ _).setRow (.inr (by simp)) _
    have aW:=D (((bx.weaken (G:=[w.heap.size]) (by simp)).trans H (fun q a=> .inr a)).weaken (G:=[]) (fun q a=> .inl (by rw[Jm a];exact Xi _)))
    have aL:=D ((Zm _ _).upd bA H (fun q a d=>C.out.2.2.1 (by rw[←Jm d];exact a)));have aV:=D ((Zm _ _).upd bs H (fun q a d=>C.out.2.2.2 (by rw[←Jm d];exact a)))
    have aQ:=D (show Zb w7 s 0 (Zt (.slice m r p) (.slice A2 k c2) ⟨ms,g,F⟩)from Zb.of_block aU)
    clear H;change Hid _ at K
    go_wp2_with(first|refine Jl aQ z ?_|(refine Jo (Zt (.slice m r p) (.slice A2 k c2) ⟨ms,g,F⟩).toArray ba z aG ?_;rw[←K.out]))
    refine bodyPost_ret (v:= .tuple #[.agg (Zt (.slice m r p) (.slice A2 k c2) ⟨ms,g,F⟩).toArray, .int .i64 0]) (Zl _ Tryz.results234 (b:=w.heap.size) (o:=0) rfl rfl z (Zb.of_block aP)) rfl ?_
    exact Zf3
end Go.Proofs.YtbgbeddbfaopgaaGreatDoor
namespace Go.Lk
theorem ZqE (origin:Bs) (creds:Bool) (l:List (Bs×Bs)):Zfm origin creds l=if(Zdc l [97,99,99,101,115,115,45,99,111,110,116,114,111,108,45,97,108,108,111,119,45,111,114,105,103,105,110]).2&&(Zdc l [97,99,99,101,115,115,45,99,111,110,116,114,111,108,45,97,108,108,111,119,45,111,114,105,103,105,110]).1==[42]&& !creds then 0
 else if !(Zdc l [97,99,99,101,115,115,45,99,111,110,116,114,111,108,45,97,108,108,111,119,45,111,114,105,103,105,110]).2||(Zdc l [97,99,99,101,115,115,45,99,111,110,116,114,111,108,45,97,108,108,111,119,45,111,114,105,103,105,110]).1 !=origin then 15
 else if creds&&(Zdc l [97,99,99,101,115,115,45,99,111,110,116,114,111,108,45,97,108,108,111,119,45,99,114,101,100,101,110,116,105,97,108,115]).1 !=[116,114,117,101]then 15 else 0:=rfl
end Go.Lk
namespace Go.Proofs.YtbgbeddbfaopgaaGreatDoor
open Go.RowKit Go.Lk
theorem Zgd {P:Prop}(h:P:=by
 go_wp2_with fail
 refine(m.out s g).mono ?_
 rintro e G ⟨rfl,h⟩
 have j:=Jt g h;clear h m
 by_cases ht:o=[116,114,117,101]
 ·
  have k:=D (show R=0 by rw[a.out,if_pos ht])
  subst ht
  go_wp2_with fail
  go_ret
  exact⟨by rw[k.out];rfl,j.out⟩
 ·
  have k:=D (show R=15 by rw[a.out,if_neg ht])
  have J:(o==([116,114,117,101]:Bs))=false:=by rw[beq_eq_false_iff_ne];exact ht
  clear ht
  go_wp2_with fail
  go_ret
  exact⟨by rw[k.out];rfl,j.out⟩):P:=h
theorem ZiD (origin:Bs) (creds:Bool) (l:List (Bs×Bs)) (A:Option Addr) (c:Nat) (w:World) (hA:Zay w A l) (hl:l.length≤1000000) (hf:Zd3 l):
  Calls Tryz.prog 90 #[.string ⟨origin.toArray⟩, .bool creds, .slice A l.length c] w fun e w'=>e= .returned (.int .i64 (Zfm origin creds l))∧Zg [] w w':=by
 obtain⟨R,y⟩:=Je (Zfm origin creds l)
 obtain⟨v,hv⟩:=Je (Zdc l [97,99,99,101,115,115,45,99,111,110,116,114,111,108,45,97,108,108,111,119,45,111,114,105,103,105,110])
 obtain⟨t,ht⟩:=Je (Zdc l [97,99,99,101,115,115,45,99,111,110,116,114,111,108,45,97,108,108,111,119,45,99,114,101,100,101,110,116,105,97,108,115])
 have q:=D (show R=if v.2&&v.1==[42]&& !creds then 0 else if !v.2||v.1 !=origin then 15 else if creds&&t.1 !=[116,114,117,101]then 15 else 0 by rw[y,hv,ht];exact ZqE _ _ _)
 rw[←y]
 obtain⟨n,p⟩:=Je l.length
 have x:=ZdY l A c [97,99,99,101,115,115,45,99,111,110,116,114,111,108,45,97,108,108,111,119,45,111,114,105,103,105,110] w hA hl hf (by simp)
 rw[←hv,←p]at x
 have F:∀W,Zg [] w W→Calls Tryz.prog 165 #[.slice A n c, .string ⟨([97,99,99,101,115,115,45,99,111,110,116,114,111,108,45,97,108,108,111,119,45,99,114,101,100,101,110,116,105,97,108,115]:Bs).toArray⟩] W fun e w'=>e= .returned (.tuple #[.string ⟨t.1.toArray⟩, .bool t.2])∧Zg [] W w':=fun W K=>by rw[ht,p];exact ZdY l A c [97,99,99,101,115,115,45,99,111,110,116,114,111,108,45,97,108,108,111,119,45,99,114,101,100,101,110,116,105,97,108,115] W (hA.upd0 K) hl hf (by simp)
 rw[←p]
 have r:=D x;have m:=D F
 clear x F y hv ht hA hf p
 obtain⟨i,I⟩:=v
 obtain⟨o,M⟩:=t
 dsimp only at q r m
 go_enter Tryz.func90,Tryz.ntmps90
 go_wp2_with fail
 refine r.out.mono ?_
 rintro e s ⟨rfl,C⟩
 have g:=D C;clear C r
 cases I with
 |false=>
  have a:=D (show R=15 by rw[q.out];rfl)
  go_wp2_with fail
  go_ret
  exact⟨by rw[a.out];rfl,g.out⟩
 |true=>
 have d:=q.out
 clear q
 by_cases ho:i=origin
 case neg=>
  have N:(i==origin)=false:=by rw[beq_eq_false_iff_ne];exact ho
  by_cases b:i=[42]
  ·subst b
   cases creds with
   |true=>
    have a:=D (show R=15 by rw[d,if_neg (by simp),if_pos (by simp[ho])])
    clear d ho
    go_wp2_with fail
    go_ret
    exact⟨by rw[a.out];rfl,g.out⟩
   |false=>
    have a:=D (show R=0 by rw[d,if_pos (by simp)])
    clear d ho
    go_wp2_with fail
    go_ret
    exact⟨by rw[a.out];rfl,g.out⟩
  ·have H:(i==([42]:Bs))=false:=by rw[beq_eq_false_iff_ne];exact b
   have a:=D (show R=15 by rw[d,if_neg (by simp[b]),if_pos (by simp[ho])])
   clear d ho b
   go_wp2_with fail
   go_ret
   exact⟨by rw[a.out];rfl,g.out⟩
 subst ho
 cases creds with
 |false=>
  by_cases b:i=[42]
  ·subst b
   have a:=D (show R=0 by rw[d,if_pos (by simp)])
   clear d
   go_wp2_with fail
   go_ret
   exact⟨by rw[a.out];rfl,g.out⟩
  ·have H:(i==([42]:Bs))=false:=by rw[beq_eq_false_iff_ne];exact b
   have a:=D (show R=0 by rw[d,if_neg (by simp[b]),if_neg (by simp),if_neg (by simp)])
   clear d b
   go_wp2_with fail
   refine(m.out s g).mono ?_
   rintro e G ⟨rfl,h⟩
   have j:=Jt g h;clear h m
   go_wp2_with fail
   go_ret
   exact⟨by rw[a.out];rfl,j.out⟩
 |true=>
  have a:=D (show R=if o=[116,114,117,101]then 0 else 15 by
   rw[d,if_neg (by simp),if_neg (by simp)]
   by_cases b:o=[116,114,117,101]
   ·rw[if_neg (by simp[b]),if_pos b]
   ·rw[if_pos (by simp[b]),if_neg b])
  clear d
  obtain⟨L,E⟩:=Je ((i==([42]:Bs)))
  have z:=E.symm
  clear E
  cases L with
  |true=>
   have hv:i=[42]:=by simpa using z
   subst hv
   clear z
   exact Zgd
  |false=>
   exact Zgd
end Go.Proofs.YtbgbeddbfaopgaaGreatDoor
namespace Go.Lk
def Zff (needs:Bool) (ec:Int) (status:Int) (al:Zp×Int) (has all:Bool):Zp×Int:=
 if !needs then(Zp.zero,2)else if ec !=0 then(Zp.zero,ec)else if status<200∨300≤status then(Zp.zero,14)
 else if al.2 !=0 then(Zp.zero,al.2)else if !has then(Zp.zero,5)else if all then(al.1,0)else(Zp.zero,6)
theorem ZoO (r:Yb) (status:Int) (l:List (Bs×Bs)):Zbs r status l=Zff (Zdz r) (Zfm (YP r).origin (YP r).creds l) status (Zb3 l) (ZqT (Zb3 l).1 (YP r).method (YP r).creds) ((ZaR r).all fun n=>Zck (Zb3 l).1 n (YP r).creds):=rfl
end Go.Lk
namespace Go.Proofs.YtbgbeddbfaopgaaGreatDoor
open Go.RowKit Go.Lk
theorem ZiY (h:Zaw l):(Zb3 l).1.methods.length≤1000000∧(Zb3 l).1.headers.length≤1000000:=by
 have a:= @ZeU l h [97,99,99,101,115,115,45,99,111,110,116,114,111,108,45,97,108,108,111,119,45,109,101,116,104,111,100,115]
 have b:= @ZeU l h [97,99,99,101,115,115,45,99,111,110,116,114,111,108,45,97,108,108,111,119,45,104,101,97,100,101,114,115]
 rw[Zlf]
 generalize Zbx l _=tm at a⊢
 generalize Zbx l _=th at b⊢
 cases tm with
 |none=>exact⟨by simp[ZgN,Zp.zero],by simp[ZgN,Zp.zero]⟩
 |some ms=>
  cases th with
  |none=>exact⟨by simp[ZgN,Zp.zero],by simp[ZgN,Zp.zero]⟩
  |some hs=>exact⟨(a rfl).1,by show(hs.map Yx).length≤_;rw[Xb];exact(b rfl).1⟩
theorem ZgM (h:Za0 w r vh):(YP r).method.length≤1000000:=by
 unfold YP
 split
 ·simp[Yb.zero]
 ·have:=Zi9 r.method
  have:=h.m
  show(ZdJ r.method).length≤_
  omega
theorem ZeH {P:Prop}(h:P:=by
 obtain⟨z,i⟩:=Je (P.setRow d (Zt (.slice none 0 0) (.slice none 0 0) Zp.zero).toArray)
 have m:z.heap[d]? =some (.cells (Zt (.slice none 0 0) (.slice none 0 0) Zp.zero).toArray 267 (0,0)):=by rw[i];exact setRow_heap _ _ _ _ _ _ L.out
 have p:Zg [d] P z:=by rw[i];exact(Zg.refl _ _).setRow (.inr (by simp)) _
 have E:=D (((ak.weaken (G:=[d]) (by simp)).trans p (fun q g=> .inr g)).weaken (G:=[]) (fun q g=> .inl (by rw[Jm g];exact N.out.2.1)))
 clear p;change Hid _ at m i
 go_wp2_with(refine Jo (Zt (.slice none 0 0) (.slice none 0 0) Zp.zero).toArray L s X ?_;rw[←i.out])
 refine bodyPost_ret (v:= .tuple #[.agg (Zt (.slice none 0 0) (.slice none 0 0) Zp.zero).toArray, .int .i64 14]) (Zl _ Tryz.results160 (b:=d) (o:=0) rfl rfl s (Zb.of_block m)) rfl ?_
 rw[C.out]
 exact⟨_,_,[],[],rfl,ZD _ _ _,ZD _ _ _,by simp,by simp,E.out⟩):P:=h
theorem Za8 {P:Prop}(h:P:=by
 rw[C.out]
 exact⟨_,_,[],[],rfl,ZD _ _ _,ZD _ _ _,by simp,by simp,E.out⟩):P:=h
theorem Zkm (r:Yb) (vr:Value) (status:Int) (l:List (Bs×Bs)) (A:Option Addr) (c:Nat) (w:World) (h:Za0 w r vr) (hA:Zay w A l) (hf:Zaw l) (hE:Env w):
  Calls Tryz.prog 160 #[.agg (Zv r vr).toArray, .int .i64 status, .slice A l.length c] w (ZiE w (Zbs r status l)):=by
 obtain⟨R,hR⟩:=Je (Zbs r status l)
 obtain⟨n,hn⟩:=Je (YP r)
 obtain⟨M,aG⟩:=Je (Zb3 l)
 obtain⟨ns,aH⟩:=Je (ZaR r)
 obtain⟨bn,aT⟩:=Je (Zdz r)
 obtain⟨ec,aZ⟩:=Je (Zfm n.origin n.creds l)
 obtain⟨bh,ax⟩:=Je (ZqT M.1 n.method n.creds)
 have HR:=D (show R=Zff bn ec status M bh (ns.all fun x=>Zck M.1 x n.creds)by rw[hR,aT,aZ,ax,aH,aG,hn];exact ZoO r status l)
 rw[←hR]
 obtain⟨K,aj⟩:=Je ((w.alloc (.cells (Zv r vr).toArray 43)).alloc (.cells #[.slice none 0 0, .slice none 0 0, .int .u64 0] 267))
 have J:Zg [] w K:=by rw[aj];exact((Zg.refl [] w).alloc _).alloc _
 have aV:K.heap[w.heap.size]? =some (.cells (Zv r vr).toArray 43 (0,0)):=by rw[aj,ZB _ (by simp)];exact Za _
 have bb:K.heap[w.heap.size+1]? =some (.cells #[.slice none 0 0, .slice none 0 0, .int .u64 0] 267 (0,0)):=by
  rw[aj]
  have:=Za (w:=w.alloc (.cells (Zv r vr).toArray 43)) (.cells #[.slice none 0 0, .slice none 0 0, .int .u64 0] 267 (0,0));simpa using this
 obtain⟨ln,ap⟩:=Je l.length
 have q1:∀W,Zg [] K W→Calls Tryz.prog 149 #[.agg (Zv r vr).toArray] W fun e w'=>e= .returned (.bool bn)∧Zg [] W w':=fun W I=>by rw[aT];exact ZgX r vr W ((h.upd0 J).upd0 I) (hE.upd0 (J.trans I (by simp)))
 have q2:∀W,Zg [] K W→Calls Tryz.prog 65 #[.agg (Zv r vr).toArray] W (ZpF W n):=fun W I=>by rw[hn];exact Zex r vr W ((h.upd0 J).upd0 I) (hE.upd0 (J.trans I (by simp)))
 have q3:∀W,Zg [] K W→Calls Tryz.prog 90 #[.string ⟨n.origin.toArray⟩, .bool n.creds, .slice A ln c] W fun e w'=>e= .returned (.int .i64 ec)∧Zg [] W w':=fun W I=>by rw[aZ,ap];exact ZiD n.origin n.creds l A c W ((hA.upd0 J).upd0 I) (by have:=hf.1;omega) (Zaw.few hf)
 have q4:∀W,Zg [] K W→Calls Tryz.prog 234 #[.slice A ln c] W (ZiE W M):=fun W I=>by rw[aG,ap];exact Zl8 l A c W ((hA.upd0 J).upd0 I) hf (hE.upd0 (J.trans I (by simp)))
 have q6:∀W,Zg [] K W→Calls Tryz.prog 152 #[.agg (Zv r vr).toArray] W (Zdo W ns):=fun W I=>by rw[aH];exact ZgW r vr W ((h.upd0 J).upd0 I) (hE.upd0 (J.trans I (by simp)))
 have a9:n.method.length≤1000000:=by rw[hn];exact ZgM h
 have aL:=ZiY hf
 rw[←aG]at aL
 have aK:=ZfA (r:=r) (fun x hx=>(h.few x hx).1) h.n
 rw[←aH]at aK
 rw[←ap]
 have Q1:=D q1;have Q2:=D q2;have Q3:=D q3;have Q4:=D q4;have Q6:=D q6
 have bK:=D aV;have aW:=D bb
 have bI:=D a9;have aN:=D aL;have a6:=D aK
 have s:=D Ze7;have an:=D Yp
 have aY:=D (show Zb K w.heap.size 0 (Zv r vr)from Zb.of_block aV)
 have X:=D (show(Zt (.slice none 0 0) (.slice none 0 0) Zp.zero).toArray.all (·.oneCell')=true from ZbC _ _ _ rfl rfl)
 obtain⟨b0,aX⟩:=Je w.heap.size
 obtain⟨d,aO⟩:=Je (w.heap.size+1)
 rw[←aX]at bK aY
 rw[←aO]at aW
 have N:=D (show w.heap.size≤b0∧w.heap.size≤d∧b0≠d∧d≠b0 by omega)
 clear q1 q2 q3 q4 q6 hR hn aG aH aT aZ aV bb ap a9 aL aK h hA hf hE;change Hid _ at J aj ax aX aO
 go_enter Tryz.func160,Tryz.ntmps160
 go_upto_region 1 with fail
 rw[←aj.out,←aO.out,←aX.out]
 go_wp2_with(refine Jl aY an ?_)
 refine(Q1.out K (Zg.refl [] K)).mono ?_
 rintro e w2 ⟨rfl,ag⟩
 have a1:=D ag;have be:=Jt J ag
 have ai:=D ((ag.block d (Jg aW) (by simp)).trans aW)
 have bp:=D (aY.upd ag (by simp))
 clear ag Q1
 cases bn with
 |false=>
  have C:=D (show R=(Zp.zero,2)by rw[HR.out];rfl)
  obtain⟨z,i⟩:=Je (w2.setRow d (Zt (.slice none 0 0) (.slice none 0 0) Zp.zero).toArray)
  have m:z.heap[d]? =some (.cells (Zt (.slice none 0 0) (.slice none 0 0) Zp.zero).toArray 267 (0,0)):=by rw[i];exact setRow_heap _ _ _ _ _ _ ai.out
  have p:Zg [d] w2 z:=by rw[i];exact(Zg.refl _ _).setRow (.inr (by simp)) _
  have E:=D (((be.weaken (G:=[d]) (by simp)).trans p (fun q g=> .inr g)).weaken (G:=[]) (fun q g=> .inl (by rw[Jm g];exact N.out.2.1)))
  clear p;change Hid _ at m i
  go_wp2_with(refine Jo (Zt (.slice none 0 0) (.slice none 0 0) Zp.zero).toArray ai s X ?_;rw[←i.out])
  refine bodyPost_ret (v:= .tuple #[.agg (Zt (.slice none 0 0) (.slice none 0 0) Zp.zero).toArray, .int .i64 2]) (Zl _ Tryz.results160 (b:=d) (o:=0) rfl rfl s (Zb.of_block m)) rfl ?_
  exact Za8
 |true=>
 go_wp2_with(refine Jl bp an ?_)
 refine(Q2.out w2 a1).mono ?_
 rintro e S ⟨vn,Mn,rfl,a4,_,aQ⟩
 have bL:=D (Zb8 n vn a4.one)
 obtain⟨w4,aF⟩:=Je ((S.alloc (.cells #[.string ⟨#[]⟩, .string ⟨#[]⟩, .string ⟨#[]⟩, .int .i64 0, .bool false, .slice none 0 0, .int .i64 0, .int .u64 0, .int .i64 0, .int .i64 0] 43 (0,0))).setRow S.heap.size (Zv n vn).toArray)
 have bf:=D (Za (w:=S) (.cells #[.string ⟨#[]⟩, .string ⟨#[]⟩, .string ⟨#[]⟩, .int .i64 0, .bool false, .slice none 0 0, .int .i64 0, .int .u64 0, .int .i64 0, .int .i64 0] 43 (0,0)))
 have bv:w4.heap[S.heap.size]? =some (.cells (Zv n vn).toArray 43 (0,0)):=by rw[aF];exact setRow_heap _ _ _ _ _ _ bf.out
 have af:Zg [] w2 w4:=aQ.trans (show Zg [] S w4 by rw[aF];exact((Zg.refl [] S).alloc _).setRow (.inl (Xi _)) _) (by simp)
 have a5:=Jt a1 af;have bV:=Jt be af;have bR:=D aF;have ah:=D bv
 have a8:=D ((af.block d (Jg ai) (by simp)).trans ai)
 have bT:=D (bp.upd af (by simp))
 have bX:=D (show S.heap.size≠d by have h1:=aQ.size;have h2:=(Jg ai);omega)
 clear aF bv af aQ a4 Q2
 go_upto_region 4 with(refine Jo (Zv n vn).toArray bf an bL ?_;rw[←bR.out])
 obtain⟨nb,bx⟩:=Je S.heap.size
 rw[←bx]at ah bX⊢
 clear bx
 have r2:=Jc 2 ah.out
 have r4:=Jc 4 ah.out
 go_wp2_with fail
 refine(Q3.out w4 a5).mono ?_
 rintro e P ⟨rfl,ac⟩
 have a3:=Jt a5 ac;have ak:=Jt bV ac
 have L:=D ((ac.block d (Jg a8) (by simp)).trans a8)
 have bm:=D ((ac.block nb (Jg ah) (by simp)).trans ah)
 have bJ:=D (bT.upd ac (by simp))
 clear ac Q3 r2 r4
 by_cases h1:ec=0
 case neg=>
  have C:=D (show R=(Zp.zero,ec)by rw[HR.out];unfold Zff;rw[if_neg (by simp),if_pos (by simpa using h1)])
  obtain⟨z,i⟩:=Je (P.setRow d (Zt (.slice none 0 0) (.slice none 0 0) Zp.zero).toArray)
  have m:z.heap[d]? =some (.cells (Zt (.slice none 0 0) (.slice none 0 0) Zp.zero).toArray 267 (0,0)):=by rw[i];exact setRow_heap _ _ _ _ _ _ L.out
  have p:Zg [d] P z:=by rw[i];exact(Zg.refl _ _).setRow (.inr (by simp)) _
  have E:=D (((ak.weaken (G:=[d]) (by simp)).trans p (fun q g=> .inr g)).weaken (G:=[]) (fun q g=> .inl (by rw[Jm g];exact N.out.2.1)))
  clear p;change Hid _ at m i
  go_wp2_with(refine Jo (Zt (.slice none 0 0) (.slice none 0 0) Zp.zero).toArray L s X ?_;rw[←i.out])
  refine bodyPost_ret (v:= .tuple #[.agg (Zt (.slice none 0 0) (.slice none 0 0) Zp.zero).toArray, .int .i64 ec]) (Zl _ Tryz.results160 (b:=d) (o:=0) rfl rfl s (Zb.of_block m)) rfl ?_
  exact Za8
 subst h1
 by_cases k1:status<200
 ·have C:=D (show R=(Zp.zero,14)by rw[HR.out];unfold Zff;rw[if_neg (by simp),if_neg (by simp),if_pos (.inl k1)])
  exact ZeH
 by_cases k2:300≤status
 ·have C:=D (show R=(Zp.zero,14)by rw[HR.out];unfold Zff;rw[if_neg (by simp),if_neg (by simp),if_pos (.inr k2)])
  exact ZeH
 have au:=D (show R=if M.2 !=0 then(Zp.zero,M.2)else if !bh then(Zp.zero,5)else if(ns.all fun x=>Zck M.1 x n.creds)then(M.1,0)else(Zp.zero,6)by rw[HR.out];unfold Zff;rw[if_neg (by simp),if_neg (by simp),if_neg (by rintro(h|h)<;>contradiction)])
 clear HR
 go_wp2_with fail
 refine(Q4.out P a3).mono ?_
 rintro e T ⟨F,H,M1,M2,rfl,ao,aI,a0,aU,bd⟩
 obtain⟨a,ae⟩:=M
 dsimp only at au aN ax ao aI
 have a7:F.oneCell'=true:=by obtain⟨A1,c1,e1,_⟩:=ao.strs;rw[e1];rfl
 have bq:H.oneCell'=true:=by obtain⟨A1,c1,e1,_⟩:=aI.strs;rw[e1];rfl
 have bi:=D (ZbC F H a a7 bq)
 obtain⟨V,aD⟩:=Je ((T.alloc (.cells #[.slice none 0 0, .slice none 0 0, .int .u64 0] 267 (0,0))).setRow T.heap.size (Zt F H a).toArray)
 have bc:=D (Za (w:=T) (.cells #[.slice none 0 0, .slice none 0 0, .int .u64 0] 267 (0,0)))
 have bB:V.heap[T.heap.size]? =some (.cells (Zt F H a).toArray 267 (0,0)):=by rw[aD];exact setRow_heap _ _ _ _ _ _ bc.out
 have am:Zg [] T V:=by rw[aD];exact((Zg.refl [] T).alloc _).setRow (.inl (Xi _)) _
 have aa:Zg [] P V:=bd.trans am (by simp)
 have bF:=Jt a3 aa;have bt:=Jt ak aa;have b3:=D aD
 have bk:=D (show Zdp V a F H M1 M2 from⟨(Zm _ _).upd ao am (by simp),(Zm _ _).upd aI am (by simp),aN.out.1,aN.out.2⟩)
 have ar:=D ((aa.block d (Jg L) (by simp)).trans L)
 have aA:=D ((aa.block nb (Jg bm) (by simp)).trans bm)
 have b1:=D (bJ.upd aa (by simp))
 have aM:=D (show Zb V T.heap.size 0 (Zt F H a)from Zb.of_block bB)
 have av:=D (show(∀k∈M1,w.heap.size≤k)∧(∀k∈M2,w.heap.size≤k)∧d∉M1∧d∉M2 by
  have h1:=ak.size
  have h2:=(Jg L)
  exact⟨fun k hk=>by have:=a0 k hk;omega,fun k hk=>by have:=aU k hk;omega,fun Y=>by have:=a0 _ Y;omega,fun Y=>by have:=aU _ Y;omega⟩)
 clear ao aI a0 aU bd a7 bq aD bB am aa Q4
 go_upto_region 10 with(refine Jo (Zt F H a).toArray bc s bi ?_;rw[←b3.out])
 obtain⟨ab,ba⟩:=Je T.heap.size
 rw[←ba]at aM⊢
 clear ba
 by_cases h2:ae=0
 case neg=>
  have C:=D (show R=(Zp.zero,ae)by rw[au.out,if_pos (by simpa using h2)])
  obtain⟨z,i⟩:=Je (V.setRow d (Zt (.slice none 0 0) (.slice none 0 0) Zp.zero).toArray)
  have m:z.heap[d]? =some (.cells (Zt (.slice none 0 0) (.slice none 0 0) Zp.zero).toArray 267 (0,0)):=by rw[i];exact setRow_heap _ _ _ _ _ _ ar.out
  have p:Zg [d] V z:=by rw[i];exact(Zg.refl _ _).setRow (.inr (by simp)) _
  have E:=D (((bt.weaken (G:=[d]) (by simp)).trans p (fun q g=> .inr g)).weaken (G:=[]) (fun q g=> .inl (by rw[Jm g];exact N.out.2.1)))
  clear p;change Hid _ at m i
  go_wp2_with(refine Jo (Zt (.slice none 0 0) (.slice none 0 0) Zp.zero).toArray ar s X ?_;rw[←i.out])
  refine bodyPost_ret (v:= .tuple #[.agg (Zt (.slice none 0 0) (.slice none 0 0) Zp.zero).toArray, .int .i64 ae]) (Zl _ Tryz.results160 (b:=d) (o:=0) rfl rfl s (Zb.of_block m)) rfl ?_
  exact Za8
 subst h2
 have aP:=D (show R=if !bh then(Zp.zero,5)else if(ns.all fun x=>Zck a x n.creds)then(a,0)else(Zp.zero,6)by rw[au.out,if_neg (by simp)])
 clear au
 have q5:=Zoq a F H M1 M2 n.method n.creds V bk bI.out
 rw[←ax.out]at q5
 have Q5:=D q5
 have r0:=Jc 0 aA.out
 have r4:=Jc 4 aA.out
 clear q5
 go_wp2_with(refine Jl aM s ?_)
 refine Q5.out.mono ?_
 rintro e w8 ⟨rfl,O⟩
 have bE:=Jt bF O;have bC:=Jt bt O
 have aC:=D ((O.block d (Jg ar) (by simp)).trans ar)
 have bu:=D ((O.block nb (Jg aA) (by simp)).trans aA)
 have bO:=D (b1.upd O (by simp));have bG:=D (aM.upd O (by simp));have bW:=D (bk.upd0 O)
 clear O Q5 r0 r4
 cases bh with
 |false=>
  have C:=D (show R=(Zp.zero,5)by rw[aP.out];rfl)
  obtain⟨z,i⟩:=Je (w8.setRow d (Zt (.slice none 0 0) (.slice none 0 0) Zp.zero).toArray)
  have m:z.heap[d]? =some (.cells (Zt (.slice none 0 0) (.slice none 0 0) Zp.zero).toArray 267 (0,0)):=by rw[i];exact setRow_heap _ _ _ _ _ _ aC.out
  have p:Zg [d] w8 z:=by rw[i];exact(Zg.refl _ _).setRow (.inr (by simp)) _
  have E:=D (((bC.weaken (G:=[d]) (by simp)).trans p (fun q g=> .inr g)).weaken (G:=[]) (fun q g=> .inl (by rw[Jm g];exact N.out.2.1)))
  clear p;change Hid _ at m i
  go_wp2_with(refine Jo (Zt (.slice none 0 0) (.slice none 0 0) Zp.zero).toArray aC s X ?_;rw[←i.out])
  refine bodyPost_ret (v:= .tuple #[.agg (Zt (.slice none 0 0) (.slice none 0 0) Zp.zero).toArray, .int .i64 5]) (Zl _ Tryz.results160 (b:=d) (o:=0) rfl rfl s (Zb.of_block m)) rfl ?_
  exact Za8
 |true=>
 have bs:=D (show R=if(ns.all fun x=>Zck a x n.creds)then(a,0)else(Zp.zero,6)by rw[aP.out,if_neg (by simp)])
 clear aP
 go_wp2_with(refine Jl bO an ?_)
 refine(Q6.out w8 bE).mono ?_
 rintro e w9 ⟨v9,M9,rfl,bz,_,ad⟩
 have bU:=Jt bC ad
 have bA:=D ((ad.block d (Jg aC) (by simp)).trans aC)
 have bg:=D ((ad.block nb (Jg bu) (by simp)).trans bu)
 have bH:=D (bG.upd ad (by simp));have bP:=D (bW.upd0 ad)
 obtain⟨A9,c9,rfl,_,br⟩:=bz.strs
 have bQ:=D br
 obtain⟨nn,aE⟩:=Je ns.length
 have bw:=D aE
 have b6:nn≤1000000:=by rw[aE];have:=a6.out.1;omega
 rw[←aE]
 clear aE br bz ad Q6
 go_wp2_with fail
 go_loopw[57,13] (fun v57 _ wr=>∃(k:Nat),k≤nn∧v57= .int .i64 k∧Hid (∀(j:Nat) x,j<k→ns[j]? =some x→Zck a x n.creds=true)∧Hid (Zg [] w9 wr)) (fun v57 _ _=>nn-(intOf v57).toNat)
 case atStart=>exact⟨0,Xn _,rfl,D (fun j x hj=>absurd hj (Nat.not_lt_zero _)),D (Zg.refl _ _)⟩
 case round=>
  obtain⟨k,hk,rfl,HM,Z⟩:=hrel
  have aB:=D ((Z.block d (Jg bA) (by simp)).trans bA)
  have bl:=D (bH.upd Z (by simp));have aJ:=D (bP.upd0 Z)
  have aR:=(Z.block nb (Jg bg) (by simp)).trans bg.out
  have bj:=Jt bU Z.out
  by_cases b5:k<nn
  ·have a2:k<ns.length:=by rw[←bw.out];exact b5
   obtain⟨x,hx⟩:∃x,ns[k]? =some x:=⟨_,Xa a2⟩
   obtain⟨b8,b7,rfl,b2⟩:=(bQ.upd0 Z) k x hx
   have aS:=Xc hx
   have r4:=Jc 4 aR
   obtain⟨b,aw⟩:=Je (Zck a x n.creds)
   have q:=ZjX a F H M1 M2 x n.creds wr aJ (by have:=a6.out.2.1 x aS;omega)
   rw[←aw]at q
   have Q:=D q;have HX:=D hx;have bY:=D aS
   clear q hx aS a2 aR;change Hid _ at aw
   go_wp2_with(refine Jl bl s ?_)
   refine Q.out.mono ?_
   rintro e wq ⟨rfl,ay⟩
   have bN:=Jt Z ay;have bD:=Jt bj ay
   have bo:=D ((ay.block d (Jg aB) (by simp)).trans aB)
   clear ay Q r4 b2
   cases b with
   |true=>
    go_wp2_with fail
    exact⟨⟨k+1,by omega,by go_num,D (fun j y hj hy=>by
     by_cases e:j=k
     ·subst e;rw[HX.out]at hy;cases hy;exact aw.symm
     ·exact HM j y (by omega) hy),bN⟩,by simp[intOf];omega⟩
   |false=>
    have C:=D (show R=(Zp.zero,6)by
     rw[bs.out,if_neg]
     intro h
     have:=Xk.1 h x bY.out
     rw[←aw.out]at this;cases this)
    obtain⟨z,i⟩:=Je (wq.setRow d (Zt (.slice none 0 0) (.slice none 0 0) Zp.zero).toArray)
    have m:z.heap[d]? =some (.cells (Zt (.slice none 0 0) (.slice none 0 0) Zp.zero).toArray 267 (0,0)):=by rw[i];exact setRow_heap _ _ _ _ _ _ bo.out
    have p:Zg [d] wq z:=by rw[i];exact(Zg.refl _ _).setRow (.inr (by simp)) _
    have E:=D (((bD.weaken (G:=[d]) (by simp)).trans p (fun q g=> .inr g)).weaken (G:=[]) (fun q g=> .inl (by rw[Jm g];exact N.out.2.1)))
    clear p;change Hid _ at m i
    go_wp2_with(refine Jo (Zt (.slice none 0 0) (.slice none 0 0) Zp.zero).toArray bo s X ?_;rw[←i.out])
    refine bodyPost_ret (v:= .tuple #[.agg (Zt (.slice none 0 0) (.slice none 0 0) Zp.zero).toArray, .int .i64 6]) (Zl _ Tryz.results160 (b:=d) (o:=0) rfl rfl s (Zb.of_block m)) rfl ?_
    exact Za8
  ·obtain rfl:k=nn:=by omega
   have C:=D (show R=(a,0)by
    rw[bs.out,if_pos]
    rw[Xk]
    intro x hx
    obtain⟨j,hj⟩:=List.getElem?_of_mem hx
    exact HM j x (by rw[bw.out];exact(Jk hj)) hj)
   obtain⟨we,az⟩:=Je (wr.setRow d (Zt F H a).toArray)
   have bS:=D (show we.heap[d]? =some (.cells (Zt F H a).toArray 267 (0,0))by rw[az];exact setRow_heap _ _ _ _ _ _ aB)
   have aq:Zg [d] wr we:=by rw[az];exact(Zg.refl _ _).setRow (.inr (by simp)) _
   have b4:=D (((bj.weaken (G:=[d]) (by simp)).trans aq (fun q g=> .inr g)).weaken (G:=[]) (fun q g=> .inl (by rw[Jm g];exact N.out.2.1)))
   have bZ:=D ((Zm _ _).upd aJ.ms aq (fun q g Y=>av.out.2.2.1 (by rw[←Jm Y];exact g)))
   have bM:=D ((Zm _ _).upd aJ.hs aq (fun q g Y=>av.out.2.2.2 (by rw[←Jm Y];exact g)))
   clear aq aR;change Hid _ at az
   go_wp2_with(first|refine Jl bl s ?_|(refine Jo (Zt F H a).toArray aB s bi ?_;rw[←az.out]))
   refine bodyPost_ret (v:= .tuple #[.agg (Zt F H a).toArray, .int .i64 0]) (Zl _ Tryz.results160 (b:=d) (o:=0) rfl rfl s (Zb.of_block bS)) rfl ?_
   rw[C.out]
   exact⟨_,_,M1,M2,rfl,bZ.out,bM.out,av.out.1,av.out.2.1,b4.out⟩
end Go.Proofs.YtbgbeddbfaopgaaGreatDoor
namespace Go.Lk
theorem Zit (r:Yb) (a:Zp) (now:Nat):ZbM r a now=if !Zdz r||a.age==0 then[]else
 ((((if a.methods.length==0 then[(YP r).method]else a.methods).map fun m=>(⟨Zdm r,m,[],addT now a.age⟩:Zr))++a.headers.map fun h=>(⟨Zdm r,[],h,addT now a.age⟩:Zr))).foldl Zho []:=rfl
def grN (es:List Zr) (k:Nat):List Zr:=(es.take k).foldl Zho []
theorem ZkK {es:List Zr} {k:Nat} (h:es[k]? =some e):grN es (k+1)=Zho (grN es k) e:=by
 unfold grN
 rw[List.take_add_one,h,List.foldl_append];rfl
theorem Zkj (es:List Zr) (k:Nat):(grN es k).length≤k:=by
 have:∀(l o:List Zr),(l.foldl Zho o).length≤o.length+l.length:=by
  intro l
  induction l with
  |nil=>intro o;simp
  |cons a l ih=>
   intro o
   rw[List.foldl_cons,List.length_cons]
   have b:=ih (Zho o a)
   have c:(Zho o a).length≤o.length+1:=by unfold Zho;split<;>simp
   omega
 have h:=this (es.take k) []
 rw[List.length_take]at h
 unfold grN
 simp only[List.length_nil]at h
 omega
theorem Znu (es:List Zr):grN es es.length=es.foldl Zho []:=by unfold grN;rw[Xm]
end Go.Lk
namespace Go.Proofs.YtbgbeddbfaopgaaGreatDoor
open Go.RowKit Go.Lk
def Znw (w:World) (l:List Zr) (e:Ending) (w':World):Prop:=∃(v:Value) (M:List Nat),e= .returned v∧Zj 272 6 v (l.map Zo) w' M∧(∀k∈M,w.heap.size≤k)∧Zg [] w w'
structure Zow (w:World) (ob:Nat) (l:List Zr) (wr:World) (G:List Nat):Prop where
 out:ZgQ ob l wr G
 new:∀k∈G,w.heap.size≤k
 up:Zg [] w wr
theorem Zow.next {w wr w1:World} {ob:Nat} (h:Zow w ob l wr G) (h1:ZgQ ob l' w1 G') (g:Zi wr w1 G G'):Zow w ob l' w1 G':=
 ⟨h1,fun k hk=>by
  rcases g.new k hk with h2|h2
  ·exact h.new k h2
  ·have:=h.up.size;omega,h.up.trans g.upd (fun k hk=> .inl (h.new k hk))⟩
theorem Zef {P:Prop}(h:P:=by
 refine⟨_,fun W d=>d,V.out,?_⟩
 repeat first|refine JN ?_|refine JF ?_
 refine JU ?_
 refine Jo (YC ce).toArray p.out au.out (by kernel_rfl) ?_
 obtain⟨n,g⟩:=Je (w5.setRow L (YC ce).toArray)
 rw[←g]
 have I:Zg [L] w5 n:=by rw[g];exact(Zg.refl _ _).setRow (.inr (by simp)) _
 have J:=D (show Zg [] w2 n from C.out.trans I (fun k H=> .inl (by rw[Jm H];exact K.out)))
 have aq:=D (show n.heap[L]? =some (.cells (YC ce).toArray 250 (0,0))by rw[g];exact setRow_heap _ _ _ _ _ _ p.out)
 have an:=D (s.out _ _ av.out J.out)
 clear g I
 refine⟨_,fun W d=>d,an.out,Zet ?_⟩
 go_wp2_with fail
 go_meet
 exact⟨L,rfl,rfl,D ⟨K.out,aq.out,J.out⟩⟩):P:=h
theorem Zeg {P:Prop}(h:P:=by
 refine⟨_,fun W d=>d,ac.out,?_⟩
 refine JU ?_
 go_wp2_with fail
 refine(ay.out _ ad.out).mono ?_
 rintro e w5 ⟨rfl,E⟩
 have C:=Jt ad E
 have V:=D (s.out _ _ ac.out E)
 have p:=D ((E.block L (Jg al.out) (by simp)).trans al.out)
 clear E
 go_wp2_with fail
 exact Zef):P:=h
theorem ZiQ (r:Yb) (vr:Value) (a:Zp) (vm vh:Value) (M1 M2:List Nat) (now:Nat) (w:World) (h:Za0 w r vr) (ha:Zdp w a vm vh M1 M2) (hm:a.methods.length≤1000000) (hh:a.headers.length≤1000000)
  (hage:a.age≤18446744073709551615) (hnow:now≤18446744073709551615) (hE:Env w):
  Calls Tryz.prog 161 #[.agg (Zv r vr).toArray, .agg (Zt vm vh a).toArray, .int .u64 now] w (Znw w (ZbM r a now)):=by
 obtain⟨R,hR⟩:=Je (ZbM r a now)
 obtain⟨bn,aN⟩:=Je (Zdz r)
 have HR:=D (show R=if !bn||a.age==0 then[]else((((if a.methods.length==0 then[(YP r).method]else a.methods).map fun m=>(⟨Zdm r,m,[],addT now a.age⟩:Zr))++a.headers.map fun h=>(⟨Zdm r,[],h,addT now a.age⟩:Zr))).foldl Zho []by rw[hR,aN];exact Zit r a now)
 rw[←hR]
 obtain⟨w1,ap⟩:=Je ((w.alloc (.cells (Zv r vr).toArray 43)).alloc (.cells (Zt vm vh a).toArray 267))
 have aa:Zg [] w w1:=by rw[ap];exact((Zg.refl [] w).alloc _).alloc _
 have aR:w1.heap[w.heap.size]? =some (.cells (Zv r vr).toArray 43 (0,0)):=by rw[ap,ZB _ (by simp)];exact Za _
 have a4:w1.heap[w.heap.size+1]? =some (.cells (Zt vm vh a).toArray 267 (0,0)):=by
  rw[ap]
  have:=Za (w:=w.alloc (.cells (Zv r vr).toArray 43)) (.cells (Zt vm vh a).toArray 267 (0,0));simpa using this
 have q1:∀W,Zg [] w1 W→Calls Tryz.prog 149 #[.agg (Zv r vr).toArray] W fun e O=>e= .returned (.bool bn)∧Zg [] W O:=fun W d=>by rw[aN];exact ZgX r vr W ((h.upd0 aa).upd0 d) (hE.upd0 (aa.trans d (by simp)))
 have Q1:=D q1
 have bC:=D aa;have aK:=D aR;have aS:=D a4;have bo:=D (h.upd0 aa);have bm:=D (ha.upd0 aa);have HE:=D hE
 have aH:=D Yp
 have bb:=D (show Zb w1 w.heap.size 0 (Zv r vr)from Zb.of_block aR)
 obtain⟨Z,aT⟩:=Je w.heap.size
 obtain⟨P,aU⟩:=Je (w.heap.size+1)
 rw[←aT]at aK bb
 rw[←aU]at aS
 clear q1 hR aN aa aR a4 h ha hE;change Hid _ at ap aT aU
 obtain⟨y,ae⟩:=Je a.age
 go_enter Tryz.func161,Tryz.ntmps161
 go_upto_region 1 with fail
 rw[←ap.out,←aU.out,←aT.out]
 go_wp2_with(refine Z2 _ rfl 43 (.tmp 3) rfl Z 0 (Zv r vr) rfl aH.out bb.out ?_)
 refine(Q1.out w1 (Zg.refl [] w1)).mono ?_
 rintro e w2 ⟨rfl,af⟩
 have a0:=D af;have aB:=Jt bC af
 have aL:=D ((af.block Z (Jg aK.out) (by simp)).trans aK.out)
 have aQ:=D ((af.block P (Jg aS.out) (by simp)).trans aS.out)
 clear af Q1;change Hid _ at ae
 cases bn with
 |false=>
  have aX:=D (show R=[]by rw[HR.out];rfl)
  go_wp2_with fail
  go_ret
  exact⟨_,[],rfl,by rw[aX.out];exact ZD _ _ _,by simp,aB.out⟩
 |true=>
 have c2:w2.cell? ⟨P,2,none⟩=some (.int .u64 (y:Int)):=by rw[ae.out];exact Zc (i:=2) aQ.out rfl
 by_cases h0:y=0
 ·have aX:=D (show R=[]by rw[HR.out,←ae.out,h0];rfl)
  have bE:(y:Int)=0:=by omega
  clear h0
  go_wp2_with fail
  go_ret
  exact⟨_,[],rfl,by rw[aX.out];exact ZD _ _ _,by simp,aB.out⟩
 have bE:¬(y:Int)=0:=by omega
 have be:=D (show y≤18446744073709551615 by rw[ae.out];exact hage)
 obtain⟨u,T⟩:=Je (addT now y)
 have aF:=D (fun(W:World)=>(show Calls Tryz.prog 129 #[.int .u64 now, .int .u64 y] W fun e O=>e= .returned (.int .u64 (u:Nat))∧O=W by rw[T];exact ZeD now y hnow be.out W))
 obtain⟨ce,aO⟩:=Je (Zdm r)
 have aZ:=D (bo.out.upd0 a0.out)
 have ay:=D (fun(W:World) (d:Zg [] w2 W)=>(show Calls Tryz.prog 151 #[.agg (Zv r vr).toArray] W fun e O=>e= .returned (.agg (YC ce).toArray)∧Zg [] W O by rw[aO];exact Zix r vr W (aZ.out.upd0 d) (HE.out.upd0 (aB.out.trans d (by simp)))))
 have bp:=D T;have bI:=D hnow
 have au:=D (show Zu Tryz.prog 250 3=true by kernel_rfl)
 have bv:=D hm;have bt:=D hh
 clear T hnow hm hh hage;change Hid _ at aO
 go_upto_region 3 with fail
 obtain⟨S,hS⟩:∃S:World→Prop,S=fun W=>W.cell? ⟨P,2,none⟩=some (.int .u64 (y:Int))∧Zb W Z 0 (Zv r vr):=⟨_,rfl⟩
 have s:=D (show∀W W',S W→Zg [] W W'→S W' from fun W W' d T=>by
  rw[hS]at d⊢
  exact⟨(Xp (T.block P (Xo _ _ d.1) (by simp))).trans d.1,d.2.upd T (by simp)⟩)
 have av:=D (show S w2 by rw[hS];exact⟨c2,Zb.of_block aL.out⟩)
 have aI:=D hS
 clear hS c2
 go_cut [7,8]from 16 to 29 (fun s7 s8 wx=>∃cb:Nat,s7= .int .u64 (u:Nat)∧s8= .pointer (some ⟨cb,0,none⟩)∧Hid (w2.heap.size≤cb∧wx.heap[cb]? =some (.cells (YC ce).toArray 250 (0,0))∧Zg [] w2 wx))
 case first=>
  obtain⟨w3,aj⟩:=Je w2.drew
  have z:=D (show Zg [] w2 w3 by rw[aj];exact(Zg.refl [] w2).drew)
  have ai:=D (s.out _ _ av.out z.out)
  change Hid _ at aj
  refine ZbL (.held 0 (.held 1 (.held 2 (.held 4 (.two 3 (.two 5 (.eff 6 (.held 7 (.eff 8 (.nil)))) 6 (.eff 5 (.held 7 (.eff 8 (.nil))))) 6 (.eff 3 (.eff 5 (.held 7 (.eff 8 (.nil)))))))))) S (by kernel_rfl) (by kernel_rfl) (fun c a w t v h=>by cases t<;>exact h) (by have q:=ai.out;rw[aj.out]at q;exact q) ?_
  repeat first|refine JN ?_|refine JF ?_
  apply Zi8 (v:= .int .u64 (y:Int))
  case ho=>simp only[Xh,Xf,Xg];rfl
  case hg=>rfl
  case hv=>intro W d;rw[aI.out]at d;have d0:=d.1;clear d;go_simp
  case ha=>go_simp;rfl
  apply ZiG (t:= 43) (x:= .tmp 3) (b:=Z) (of:=0) (cs:=Zv r vr)
  case ho=>simp only[Xh,Xf,Xg];rfl
  case hg=>rfl
  case hop=>rfl
  case hx=>rfl
  case hv=>intro W d;rw[aI.out]at d;exact Ym W aH.out d.2
  case ha=>go_simp;rfl
  apply ZdM
  case ho=>simp only[Xh,Xf,Xg];rfl
  case ho2=>simp only[Xh,Xf,Xg];rfl
  case h=>
   simp only[Xu]
   rw[←aj.out]
   go_wp2_with fail
   refine(aF.out _).mono ?_
   rintro e W ⟨rfl,d⟩
   rw[d]
   clear d W
   go_wp2_with fail
   refine⟨_,fun W d=>d,ai.out,?_⟩
   apply ZdM
   case ho=>simp only[Xh,Xf,Xg];rfl
   case ho2=>simp only[Xh,Xf,Xg];rfl
   case h=>
    go_wp2_with fail
    refine(ay.out _ z.out).mono ?_
    rintro e a6 ⟨rfl,aG⟩
    have a2:=Jt z aG
    have a1:=D (s.out _ _ ai.out aG)
    clear aG
    go_wp2_with fail
    refine⟨_,fun W d=>d,a1.out,?_⟩
    refine JU ?_
    obtain⟨w5,aE⟩:=Je (a6.alloc (.cells #[.string ⟨#[]⟩, .string ⟨#[]⟩, .bool false] 250))
    obtain⟨L,l⟩:=Je a6.heap.size
    have p:=D (show w5.heap[L]? =some (.cells #[.string ⟨#[]⟩, .string ⟨#[]⟩, .bool false] 250 (0,0))by rw[aE,l];exact Za _)
    have o:=Ja aE
    have C:=Jt a2 o
    have K:=D (show w2.heap.size≤L by rw[l];exact a2.out.size)
    have V:=D (s.out _ _ a1.out o)
    clear o
    go_wp2_with fail
    rw[←aE,←l]
    clear aE l
    exact Zef
   case h2=>
    obtain⟨Y,F⟩:=Je (w3.alloc (.cells #[.string ⟨#[]⟩, .string ⟨#[]⟩, .bool false] 250))
    obtain⟨L,l⟩:=Je w3.heap.size
    have al:=D (show Y.heap[L]? =some (.cells #[.string ⟨#[]⟩, .string ⟨#[]⟩, .bool false] 250 (0,0))by rw[F,l];exact Za _)
    have o:=Ja F
    have ad:=Jt z o
    have K:=D (show w2.heap.size≤L by rw[l];exact z.out.size)
    have ac:=D (s.out _ _ ai.out o)
    clear o
    go_wp2_with fail
    rw[←F,←l]
    clear F l
    exact Zeg
  case h2=>
   simp only[Xu]
   rw[←aj.out]
   obtain⟨Y,F⟩:=Je (w3.alloc (.cells #[.string ⟨#[]⟩, .string ⟨#[]⟩, .bool false] 250))
   obtain⟨L,l⟩:=Je w3.heap.size
   have al:=D (show Y.heap[L]? =some (.cells #[.string ⟨#[]⟩, .string ⟨#[]⟩, .bool false] 250 (0,0))by rw[F,l];exact Za _)
   have o:=Ja F
   have ad:=Jt z o
   have K:=D (show w2.heap.size≤L by rw[l];exact z.out.size)
   have ac:=D (s.out _ _ ai.out o)
   clear o
   go_wp2_with fail
   rw[←F,←l]
   clear F l
   refine⟨_,fun W d=>d,ac.out,?_⟩
   refine JU ?_
   go_wp2_with fail
   refine(aF.out _).mono ?_
   rintro e W ⟨rfl,d⟩
   rw[d]
   clear d W
   go_wp2_with fail
   exact Zeg
 case rest=>
  obtain⟨cb,rfl,rfl,X⟩:=hcut
  rename World=>w3
  clear s av aI aF ay
  have z:=Jt aB X.out.2.2
  have aV:=D ((X.out.2.2.block P (Jg aQ.out) (by simp)).trans aQ.out)
  have bh:=D ((X.out.2.2.block Z (Jg aL.out) (by simp)).trans aL.out)
  have az:=D (bm.out.upd0 (a0.out.trans X.out.2.2 (by simp)))
  have bf:=D (aZ.out.upd0 X.out.2.2)
  obtain⟨ms,ar⟩:=Je ((if(a.methods.length==0)=true then[(YP r).method]else a.methods))
  obtain⟨Am,cm,rfl,bu,_⟩:=az.out.ms.strs
  obtain⟨Ah,ch,rfl,bs,_⟩:=az.out.hs.strs
  have bq:=Jc 0 aV.out
  obtain⟨ml,ak⟩:=Je a.methods.length
  rw[←ak]at bq
  clear bu bs;change Hid _ at ar ak
  have bK:∀(fn:Fn) (first cap:Array Value) (w:World),(Instr.makeFunc fn first cap).run Tryz.prog w= .ok (.func fn first cap) w:=fun _ _ _ _=>rfl
  obtain⟨bz,aP⟩:=Je (((ml:Int)==0))
  have a5:=D (show bz=(ml==0)by rw[aP];cases ml<;>rfl)
  go_upto_if 34 with fail
  rw[←aP]
  clear aP
  go_cut [9]from 30 to 38 (fun s9 wx=>∃(A:Option Addr) (c:Nat) (M:List Nat),s9= .slice A ms.length c∧Hid (Ye (.slice A ms.length c) ms wx M∧Zg [] w3 wx))
  case first=>
   cases bz with
   |false=>
    have e:ms=a.methods:=by rw[ar.out,←ak.out,←a5.out];rfl
    go_wp2_with fail
    go_meet
    exact⟨Am,cm,M1,by rw[e,←ak.out],D ⟨by rw[e];exact az.out.ms,Zg.refl _ _⟩⟩
   |true=>
    have e:ms=[(YP r).method]:=by rw[ar.out,←ak.out,←a5.out];rfl
    have bx:=D (show Zb w3 Z 0 (Zv r vr)from Zb.of_block bh.out)
    obtain⟨mn,N⟩:=Je ((YP r).method)
    rw[←N]at e
    have bj:=D (show Calls Tryz.prog 65 #[.agg (Zv r vr).toArray] w3 (fun e O=>∃v1 v2 v3 v4 v5 v6 v7 v8 v9,e= .returned (.agg #[.string ⟨mn.toArray⟩,v1,v2,v3,v4,v5,v6,v7,v8,v9])∧Zg [] w3 O)from(Zex r vr w3 bf.out (HE.out.upd0 z.out)).mono (by
     rintro e O ⟨vh,M,rfl,_,_,T⟩
     exact⟨_,_,_,_,_,_,_,_,_,by rw[N];rfl,T⟩))
    clear N
    go_wp2_with(refine Z2 _ rfl 43 (.tmp 3) rfl Z 0 (Zv r vr) rfl aH.out bx.out ?_)
    refine bj.out.mono ?_
    rintro e' Y ⟨v1,v2,v3,v4,v5,v6,v7,v8,v9,rfl,aJ⟩
    have bN:∀W:World,(Instr.field 43 (.agg #[.string ⟨mn.toArray⟩,v1,v2,v3,v4,v5,v6,v7,v8,v9]) 0).run Tryz.prog W= .ok (.string ⟨mn.toArray⟩) W:=fun _=>by kernel_rfl
    have ad:=D aJ
    obtain⟨w5,aC⟩:=Je (Y.alloc (.cells #[.string ⟨mn.toArray⟩] 9))
    have C:=D (show Zg [] w3 w5 by rw[aC];exact aJ.alloc _)
    have V:=D (show Ye (.slice (some ⟨Y.heap.size,0,none⟩) 1 1) [mn] w5 [Y.heap.size]from Zi5 (cur:= #[.string ⟨mn.toArray⟩]) (by rw[aC];exact Za _) rfl (by decide) (by simp[Zbb]) (by simp[Zbb]))
    have a3:=D e
    clear aJ e;change Hid _ at aC
    go_wp2_with fail
    rw[←aC.out]
    go_meet
    exact⟨_,_,_,by rw[a3.out];rfl,D ⟨by rw[a3.out];exact V.out,C.out⟩⟩
  case rest=>
   obtain⟨A,c,M,rfl,ax⟩:=hcut
   rename World=>w5
   have C:=Jt z ax.out.2
   have a8:=D ((ax.out.2.block P (Jg aV.out) (by simp)).trans aV.out)
   have p:=D ((ax.out.2.block cb (Jg X.out.2.1) (by simp)).trans X.out.2.1)
   have bg:=D (az.out.upd0 ax.out.2)
   have bl:=D (show Y1 w5 A ms by obtain⟨A',c',e,_,h⟩:=ax.out.1.strs;injection e with e;rw[e];exact h)
   have bF:=D (show Y1 w5 Ah a.headers by obtain⟨A',c',e,_,h⟩:=bg.out.hs.strs;injection e with e;rw[e];exact h)
   obtain⟨es,ah⟩:=Je ((ms.map fun m=>(⟨ce,m,[],u⟩:Zr))++a.headers.map fun h=>(⟨ce,[],h,u⟩:Zr))
   have bA:=D (show R=grN es es.length by
    have e:=HR.out
    rw[←ar.out,←aO.out,←ae.out,←bp.out,←ah]at e
    rw[e,Znu]
    have:(y==0)=false:=by simp[h0]
    rw[this];rfl)
   have br:=D (show∀k x,ms[k]? =some x→es[k]? =some (⟨ce,x,[],u⟩:Zr)by intro k x hx;rw[ah,List.getElem?_append_left (by rw[Xb];exact(Jk hx)),Xe,hx];rfl)
   have bc:=D (show∀k x,a.headers[k]? =some x→es[ms.length+k]? =some (⟨ce,[],x,u⟩:Zr)by intro k x hx;rw[ah,List.getElem?_append_right (by simp)];simp[hx])
   have aD:=D (show es.length=ms.length+a.headers.length by rw[ah];simp)
   have aA:=D (show ms.length≤1000000 by
    rw[ar.out]
    split
    ·simp
    ·exact bv.out)
   clear ah
   obtain⟨mn,N⟩:=Je ms.length
   obtain⟨hn,aw⟩:=Je a.headers.length
   have a9:=D (show hn≤1000000 by rw[aw];exact bt.out)
   rw[←N]at bc aD aA
   rw[←aw]at aD
   have bi:=D N;have bk:=D aw
   obtain⟨n,g⟩:=Je (w5.alloc (.cells #[.slice none 0 0] 126))
   obtain⟨ob,am⟩:=Je w5.heap.size
   have bB:=D (show Zow w5 ob (grN es 0) n [ob]from⟨⟨.slice none 0 0,[],rfl,by simp,by rw[g,am];exact Za _,ZD _ _ _⟩,by intro k H;rw[Jm H,am];exact Xi _,by rw[g];exact(Zg.refl [] w5).alloc _⟩)
   have bH:=D (show∀W,Zg [] w5 W→W.cell? ⟨P,1,none⟩=some (.slice Ah hn ch)from fun W d=>by
    rw[aw];exact Zc (i:=1) ((d.block P (Jg a8.out) (by simp)).trans a8.out) rfl)
   have bd:=D (show∀W,Zg [] w5 W→Zb W cb 0 (YC ce)from fun W d=>Zb.of_block ((d.block cb (Jg p.out) (by simp)).trans p.out))
   rw[←N]
   clear N aw
   go_upto_region 8 with fail
   rw[←g,←am]
   have bL:=D g;have bM:=D am
   clear g am
   go_wp2_with fail
   go_loopw[13,42] (fun _ s42 wr=>∃(kk:Nat) (G:List Nat),kk≤mn∧s42= .int .i64 kk∧Hid (Zow w5 ob (grN es kk) wr G)) (fun _ s42 _=>mn-(intOf s42).toNat)
   case atStart=>exact⟨0,[ob],Xn _,rfl,bB⟩
   case round=>
    obtain⟨kk,G,bQ,rfl,j⟩:=hrel
    by_cases aY:kk<mn
    ·obtain⟨x,hx⟩:∃x,ms[kk]? =some x:=⟨_,Xa (by rw[←bi.out];exact aY)⟩
     obtain⟨ab,ao,rfl,aW⟩:=(bl.out.upd0 j.out.up) kk x hx
     have q:=Znx j.out.out (by have:=Zkj es kk;have:=aA.out;omega) ⟨ce,x,[],u⟩
     rw[←ZkK (br.out kk x hx)]at q
     have Q:=D q
     have aM:=D (bd.out _ j.out.up)
     clear q hx
     go_wp2_with(refine Z2 _ rfl 250 (.tmp 8) rfl cb 0 [.string ⟨ce.origin.toArray⟩, .string ⟨ce.url.toArray⟩, .bool ce.creds] rfl au.out aM.out ?_)
     refine Q.out.mono ?_
     rintro e w7 ⟨rfl,G7,h7,g7⟩
     have HN:=D (j.out.next h7 g7)
     have bw:kk<1000000:=by have:=aA.out;omega
     clear h7 g7 aW
     go_wp2_with fail
     exact⟨⟨kk+1,G7,by omega,by go_num,HN⟩,by simp[intOf];omega⟩
    ·obtain rfl:kk=mn:=by omega
     have bP:=bH.out _ j.out.up
     go_wp2_with fail
     go_loopw[15,56] (fun _ s56 wq=>∃(jj:Nat) (G:List Nat),jj≤hn∧s56= .int .i64 jj∧Hid (Zow w5 ob (grN es (kk+jj)) wq G)) (fun _ s56 _=>hn-(intOf s56).toNat)
     case atStart=>exact⟨0,G,Xn _,rfl,j⟩
     case round=>
      clear j
      obtain⟨jj,G1,bO,rfl,j⟩:=hrel
      by_cases aY:jj<hn
      ·obtain⟨x,hx⟩:∃x,a.headers[jj]? =some x:=⟨_,Xa (by rw[←bk.out];exact aY)⟩
       obtain⟨ab,ao,rfl,aW⟩:=(bF.out.upd0 j.out.up) jj x hx
       have q:=Znx j.out.out (by have:=Zkj es (kk+jj);have:=aA.out;have:=a9.out;omega) ⟨ce,[],x,u⟩
       rw[←ZkK (bc.out jj x hx)]at q
       have Q:=D q
       have aM:=D (bd.out _ j.out.up)
       clear q hx
       go_wp2_with(refine Z2 _ rfl 250 (.tmp 8) rfl cb 0 [.string ⟨ce.origin.toArray⟩, .string ⟨ce.url.toArray⟩, .bool ce.creds] rfl au.out aM.out ?_)
       refine Q.out.mono ?_
       rintro e w7 ⟨rfl,G7,h7,g7⟩
       have HN:=D (j.out.next h7 g7)
       have bw:jj<1000000:=by have:=a9.out;omega
       clear h7 g7 aW
       go_wp2_with fail
       exact⟨⟨jj+1,G7,by omega,by go_num,HN⟩,by simp[intOf];omega⟩
      ·obtain rfl:jj=hn:=by omega
       obtain⟨v,GG,rfl,bG,ba,a7⟩:=j.out.out
       have co:=Zc (i:=0) ba rfl
       simp only[List.getElem_toArray,Xv]at co
       have bD:=D a7;have bJ:=D aD.out
       clear bG ba a7
       go_wp2_with fail
       go_ret
       refine⟨v,GG,rfl,?_,fun k H=> ?_,C.out.trans j.out.up (by simp)⟩
       ·rw[bA.out,aD.out];exact bD.out
       ·have h1:=j.out.new k (by simp[H]);have h2:=C.out.size;omega
end Go.Proofs.YtbgbeddbfaopgaaGreatDoor
