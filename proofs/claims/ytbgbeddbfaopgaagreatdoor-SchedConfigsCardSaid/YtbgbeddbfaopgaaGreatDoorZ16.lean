import Derived.Test.YtbgbeddbfaopgaaGreatDoorZ15
set_option linter.all false
set_option maxHeartbeats 16000000
set_option maxRecDepth 100000
set_option autoImplicit true
set_option relaxedAutoImplicit true
namespace Go.Lk
def ZcZ (l:List (Bs×Bs)):List Bs:=(l.filter fun h=> !ZdB h).map fun h=>Yx h.1
def ZdC (l:List (Bs×Bs)):List Bs:=(l.filter ZdB).map fun h=>Yx h.1
def ZiM (l:List (Bs×Bs)):Nat:=((l.filter ZdB).map fun h=>(YO h.2).length).sum
theorem Ziz (l:List (Bs×Bs)):Zdy l=ZU (ZbK (if 1024<ZiM l then ZcZ l++ZdC l else ZcZ l)):=rfl
theorem ZlY {l:List (Bs×Bs)} {k:Nat} {x:Bs×Bs} (h:l[k]? =some x):
  ZcZ (l.take (k+1))=(if ZdB x then ZcZ (l.take k)else ZcZ (l.take k)++[Yx x.1])∧ZdC (l.take (k+1))=(if ZdB x then ZdC (l.take k)++[Yx x.1]else ZdC (l.take k))∧ZiM (l.take (k+1))=if ZdB x then ZiM (l.take k)+(YO x.2).length else ZiM (l.take k):=by
 obtain⟨a,hx⟩:=List.getElem?_eq_some_iff.1 h
 have e:l.take (k+1)=l.take k++[x]:=by rw[Xr a,hx]
 unfold ZcZ ZdC ZiM
 rw[e,List.filter_append,List.filter_append]
 cases hs:ZdB x<;>simp[hs]
theorem Zq0 {l:List (Bs×Bs)} (hf:∀x∈l,x.2.length≤900000):ZiM l≤900000*l.length:=by
 induction l with
 |nil=>exact Xi _
 |cons a l ih=>
  have b:=ih (fun x hx=>hf x (by simp[hx]))
  have d:=hf a (by simp)
  have c:=ZaC a.2
  unfold ZiM at b⊢
  rw[List.filter_cons,List.length_cons]
  split
  ·rw[List.map_cons,List.sum_cons];omega
  ·omega
end Go.Lk
namespace Go.Proofs.YtbgbeddbfaopgaaGreatDoor
open Go.RowKit Go.Lk
theorem Zh2 (l:List (Bs×Bs)) (A:Option Addr) (c:Nat) (w:World) (hA:Zay w A l) (hl:l.length≤100000) (hf:Zd3 l) (hE:Env w):
  Calls Tryz.prog 183 #[.slice A l.length c] w (Zdo w (Zdy l)):=by
 have HA:=D hA;have HF:=D hf;have HE:=D hE
 have aI:=D Zhz
 clear hA hf hE
 obtain⟨R,hR⟩:=Je (Zdy l)
 have a9:=D (hR.trans (Ziz l))
 rw[←hR]
 clear hR
 go_enter Tryz.func183,Tryz.ntmps183
 go_wp2_with fail
 go_loopw[10,3,4,5,7] (fun v10 v3 v4 v5 _ wr=>∃(k:Nat) (MO MS:List Nat) (S:Nat),k≤l.length∧v10= .int .i64 k∧v5= .int .i64 (S:Nat)∧S≤900000000000∧Hid (S=ZiM (l.take k))∧Hid (Ye v3 (ZcZ (l.take k)) wr MO)∧Hid (Ye v4 (ZdC (l.take k)) wr MS)∧Hid (∀q∈MO,w.heap.size≤q∧q∉MS)∧Hid (∀q∈MS,w.heap.size≤q)∧Hid (Zg [] w wr)) (fun v10 _ _ _ _ _=>l.length-(intOf v10).toNat)
 case atStart=>exact⟨0,[],[],0,Xn _,rfl,rfl,by omega,D rfl,D (ZD _ _ _),D (ZD _ _ _),D (by simp),D (by simp),D (Zg.refl [] w)⟩
 case round=>
  obtain⟨k,MO,MS,S,hk,rfl,rfl,hS,V,HO,HS,m,aJ,HU⟩:=hrel
  by_cases a7:k<l.length
  ·obtain⟨x,hx⟩:∃x,l[k]? =some x:=⟨_,Xa a7⟩
   obtain⟨ab,ao,rfl,aN⟩:=HA.out k x hx
   have aZ:=D (aN.upd HU (by simp))
   obtain⟨a4,a1⟩:=HF.out x (Xc hx)
   have aD:=Za (w:=wr) (.cells #[.string ⟨#[]⟩, .string ⟨#[]⟩] 264 (0,0))
   have HZ:=D aD
   obtain⟨W1,ap⟩:=Je ((wr.alloc (.cells #[.string ⟨#[]⟩, .string ⟨#[]⟩] 264 (0,0))).setRow wr.heap.size (Zb0 x).toArray)
   have an:W1.heap[wr.heap.size]? =some (.cells (Zb0 x).toArray 264 (0,0)):=by rw[ap];exact setRow_heap _ _ _ _ _ _ aD
   have aj:Zg [] wr W1:=by rw[ap];exact((Zg.refl [] wr).alloc _).setRow (.inl (Xi _)) _
   have a3:=D (show Zb W1 wr.heap.size 0 (Zb0 x)from Zb.of_block an)
   have a8:=D (show(Zb0 x).toArray.all (·.oneCell')=true by rw[Xl,Xk];exact ZeO x)
   have aW:=Jt HU aj
   have P:=D ((Zm _ _).upd HO aj (by simp));have aq:=D ((Zm _ _).upd HS aj (by simp))
   have q:=Zk7 x W1 a4 a1 (HE.upd0 (aW.out))
   have aL:=ZlY hx
   obtain⟨b,hb⟩:=Je (ZdB x)
   rw[←hb]at q aL
   have HQ:=D q;have i:=D aL
   have a2:=D (show ZiM (l.take (k+1))≤900000000000 by
    have h1:=Zq0 (l:=l.take (k+1)) (fun x hx=>(HF.out x (List.mem_of_mem_take hx)).2)
    have h2:(l.take (k+1)).length≤100000:=by rw[List.length_take];omega
    omega)
   clear hx aN aD aj q hb aL HO HS;change Hid _ at ap an
   go_wp2_with(first|refine Js aZ aI ?_|(refine Jo (Zb0 x).toArray HZ aI a8 ?_;rw[←ap.out])|refine Js a3 aI ?_)
   refine HQ.out.mono ?_
   rintro e W2 ⟨rfl,X⟩
   have aT:=Jt aW X
   have aP:=D ((Zm _ _).upd P X (by simp));have aY:=D ((Zm _ _).upd aq X (by simp))
   have am:=(X.block wr.heap.size (Jg an) (by simp)).trans an.out
   obtain⟨vb,aO⟩:=Je wr.heap.size
   rw[←aO]at am⊢
   have c0:=Jc 0 am
   have c1:=Jc 1 am
   clear X am aO HQ
   cases b with
   |false=>
    obtain⟨r,H⟩:=Je (Yx x.1)
    rw[←H]at i
    have F:=YJ x.1 W2 (by omega)
    rw[←H]at F
    have T:=D F
    clear F H
    go_wp2_with fail
    refine T.out.mono ?_
    rintro e L ⟨rfl,j⟩
    have ah:=Jt aT j
    have aw:=D ((Zm _ _).upd aP j (by simp));have au:=D ((Zm _ _).upd aY j (by simp))
    clear j T
    obtain⟨w4,o⟩:=Je (L.alloc (.cells #[.string ⟨r.toArray⟩] 9))
    have d:=Ja o
    have av:=D (show Zb w4 L.heap.size 0 (Zbb r)by rw[o];exact Zb.of_block (Za _))
    have O:=D ((Zm _ _).upd aw d (by simp));have N:=D ((Zm _ _).upd au d (by simp))
    have aG:=Jt ah d;have aB:=D o
    have s43:=d.size
    have s30:=ah.size
    obtain⟨AO,a0,rfl,_,_⟩:=O.strs
    obtain⟨n,g⟩:=Je ((ZcZ (l.take k)).length)
    rw[←g]at O
    have ai:n≤1000000:=by rw[g];unfold ZcZ;rw[Xb];exact Xj (Xq _ _) (by rw[List.length_take];omega)
    have aH:=D g
    rw[←g]
    clear d o g
    go_wp2_with(rw[←aB.out];refine Zn w4 rfl (.tmp 28) (.tmp 32) 169 rfl 9 Tryz.underlying169 ZbH rfl (by omega) (by omega) (.slice AO n a0) ((ZcZ (l.take k)).map Zbb) MO rfl O L.heap.size 1 (Zbb r) rfl av rfl (Zct r) (by rw[Xb,←aH.out];omega) ?_;intro v' w7 s C y E;have aa:=D C;have J:=D y;have M:=D E;clear C y E)
    exact⟨⟨k+1,s,MS,S,by omega,by go_num,rfl,hS,D (by rw[i.out.2.2,V.out];rfl),D (by rw[i.out.1];unfold Ye;rw[if_neg (by simp),Xs];exact aa),D (by rw[i.out.2.1];exact(Zm _ _).upd N J (fun q a K=>(m.out q K).2 a)),D (fun q a=>by
     rcases M q a with h|h
     ·exact m q h
     ·exact⟨by omega,fun K=>by have:=(Zm _ _).lt N q K;omega⟩),aJ,D (((aG.weaken (G:=MO) (by simp)).trans J (fun q a=> .inr a)).weaken (fun q a=> .inl (m.out q a).1))⟩,by simp[intOf];omega⟩
   |true=>
    obtain⟨tv,ay⟩:=Je (YO x.2)
    have bb:tv.length≤900000:=by rw[ay];have:=ZaC x.2;omega
    have az:=Za4 x.2 W2 (by omega)
    rw[←ay]at az i
    have aX:=D az
    clear az ay
    go_wp2_with fail
    refine aX.out.mono ?_
    rintro e wt ⟨rfl,aS⟩
    rw[aS];clear aS wt aX
    have a6:S+tv.length≤900000000000:=by have h:=a2.out;rw[i.out.2.2,←V.out]at h;exact h
    obtain⟨r,H⟩:=Je (Yx x.1)
    rw[←H]at i
    have F:=YJ x.1 W2 (by omega)
    rw[←H]at F
    have T:=D F
    clear F H
    go_wp2_with fail
    refine T.out.mono ?_
    rintro e L ⟨rfl,j⟩
    have ah:=Jt aT j
    have aw:=D ((Zm _ _).upd aP j (by simp));have au:=D ((Zm _ _).upd aY j (by simp))
    clear j T
    obtain⟨w4,o⟩:=Je (L.alloc (.cells #[.string ⟨r.toArray⟩] 9))
    have d:=Ja o
    have av:=D (show Zb w4 L.heap.size 0 (Zbb r)by rw[o];exact Zb.of_block (Za _))
    have O:=D ((Zm _ _).upd aw d (by simp));have N:=D ((Zm _ _).upd au d (by simp))
    have aG:=Jt ah d;have aB:=D o
    have s43:=d.size
    have s30:=ah.size
    obtain⟨AS,a5,rfl,_,_⟩:=N.strs
    obtain⟨n,g⟩:=Je ((ZdC (l.take k)).length)
    rw[←g]at N
    have ai:n≤1000000:=by rw[g];unfold ZdC;rw[Xb];exact Xj (Xq _ _) (by rw[List.length_take];omega)
    have aH:=D g
    rw[←g]
    clear d o g
    go_wp2_with(rw[←aB.out];refine Zn w4 rfl (.tmp 22) (.tmp 26) 169 rfl 9 Tryz.underlying169 ZbH rfl (by omega) (by omega) (.slice AS n a5) ((ZdC (l.take k)).map Zbb) MS rfl N L.heap.size 1 (Zbb r) rfl av rfl (Zct r) (by rw[Xb,←aH.out];omega) ?_;intro v' w7 s C y E;have aa:=D C;have J:=D y;have M:=D E;clear C y E)
    exact⟨⟨k+1,MO,s,S+tv.length,by omega,by go_num,by go_num,a6,D (by rw[i.out.2.2,V.out];rfl),D (by rw[i.out.1];exact(Zm _ _).upd O J (fun q a K=>(m.out q a).2 K)),D (by rw[i.out.2.1];unfold Ye;rw[if_pos trivial,Xs];exact aa),D (fun q a=>⟨(m.out q a).1,fun K=>by
     rcases M q K with h|h
     ·exact(m.out q a).2 h
     ·have:=(Zm _ _).lt O q a;omega⟩),D (fun q a=>by
     rcases M q a with h|h
     ·exact aJ q h
     ·omega),D (((aG.weaken (G:=MS) (by simp)).trans J (fun q a=> .inr a)).weaken (fun q a=> .inl (aJ.out q a)))⟩,by simp[intOf];omega⟩
  ·obtain rfl:k=l.length:=by omega
   have ar:=V.out;have ho:=HO.out;have hs:=HS.out
   rw[Xm]at ar ho hs
   have al:=D (show R=ZU (ZbK (if 1024<S then ZcZ l++ZdC l else ZcZ l))by rw[a9.out,←ar])
   have ai:(ZcZ l).length≤100000:=by unfold ZcZ;rw[Xb];exact Xj (Xq _ _) hl
   have aV:(ZdC l).length≤100000:=by unfold ZdC;rw[Xb];exact Xj (Xq _ _) hl
   obtain⟨p,aR⟩:=Je (ZcZ l)
   obtain⟨Q,aU⟩:=Je (ZdC l)
   rw[←aR]at ho ai al
   rw[←aU]at hs aV al
   obtain⟨AO,cO,rfl,_,_⟩:=ho.strs
   obtain⟨AS,cS,rfl,_,_⟩:=hs.strs
   have P:=D ho;have aq:=D hs
   clear ar ho hs aR aU HO HS V
   obtain⟨on,ac⟩:=Je p.length
   obtain⟨sn,ak⟩:=Je Q.length
   rw[←ac]at P ai⊢
   rw[←ak]at aq aV⊢
   change Hid _ at ac ak
   by_cases hz:1024<S
   ·have ba:(1024:Int)<(S:Int):=by omega
    have aK:=D (show R=ZU (ZbK (p++Q))by rw[al.out,if_pos hz])
    clear hz
    go_upto_region 13 with(refine Zdq wr rfl (.tmp 37) (.tmp 38) 169 rfl 9 Tryz.underlying169 ZbH rfl (by omega) (by omega) (.slice AO on cO) (p.map Zbb) MO rfl P (.slice AS sn cS) (Q.map Zbb) MS rfl aq (fun c hc u hu=>by obtain⟨z,_,rfl⟩:=List.mem_map.1 hc;exact Zct z u hu) (by rw[Xb,Xb,←ac.out,←ak.out];omega) ?_;intro v' w7 s C y E;have aa:=D C;have J:=D y;have M:=D E;clear C y E)
    have aE:=D (((HU.weaken (G:=MO) (by simp)).trans J (fun q a=> .inr a)).weaken (G:=[]) (fun q a=> .inl (m.out q a).1))
    have I:=D (show∀q∈s,w.heap.size≤q from fun q a=>by
     rcases M q a with h|h
     ·exact(m.out q h).1
     ·have:=HU.size;omega)
    have ax:=D (show Ye v' (p++Q) w7 s by unfold Ye;rw[Xs];exact aa)
    have W:(p++Q).length≤1000000:=by rw[Xd,←ac.out,←ak.out];omega
    have ad:=D (Zi1 ax W)
    go_wp2_with fail
    refine ad.out.mono ?_
    rintro e w8 ⟨rfl,Z,ag⟩
    have aC:(ZbK (p++Q)).length≤1000000:=by unfold ZbK;rw[List.length_mergeSort];exact W
    have Y:=D (Zgi Z aC)
    have aM:=D (((aE.weaken (G:=s) (by simp)).trans ag (fun q a=> .inr a)).weaken (G:=[]) (fun q a=> .inl (I.out q a)))
    clear ag Z ad
    go_wp2_with fail
    refine Y.out.mono ?_
    rintro e w9 ⟨v9,rfl,af,ae⟩
    have aA:=D af
    have aF:=D (((aM.weaken (G:=s) (by simp)).trans ae (fun q a=> .inr a)).weaken (G:=[]) (fun q a=> .inl (I.out q a)))
    clear ae af Y
    go_wp2_with fail
    go_ret
    exact⟨_,s,rfl,by rw[aK.out];exact aA,I.out,aF.out⟩
   ·have ba:¬(1024:Int)<(S:Int):=by omega
    have aK:=D (show R=ZU (ZbK p)by rw[al.out,if_neg hz])
    clear hz
    obtain⟨v',aQ⟩:=Je (Value.slice AO on cO)
    rw[←aQ]at P⊢
    have aE:=HU
    have I:=D (show∀q∈MO,w.heap.size≤q from fun q a=>(m.out q a).1)
    have ax:=P
    have W:p.length≤1000000:=by rw[←ac.out];omega
    have ad:=D (Zi1 ax W)
    clear aQ
    go_wp2_with fail
    refine ad.out.mono ?_
    rintro e w8 ⟨rfl,Z,ag⟩
    have aC:(ZbK p).length≤1000000:=by unfold ZbK;rw[List.length_mergeSort];exact W
    have Y:=D (Zgi Z aC)
    have aM:=D (((aE.weaken (G:=MO) (by simp)).trans ag (fun q a=> .inr a)).weaken (G:=[]) (fun q a=> .inl (I.out q a)))
    clear ag Z ad
    go_wp2_with fail
    refine Y.out.mono ?_
    rintro e w9 ⟨v9,rfl,af,ae⟩
    have aA:=D af
    have aF:=D (((aM.weaken (G:=MO) (by simp)).trans ae (fun q a=> .inr a)).weaken (G:=[]) (fun q a=> .inl (I.out q a)))
    clear ae af Y
    go_wp2_with fail
    go_ret
    exact⟨_,MO,rfl,by rw[aK.out];exact aA,I.out,aF.out⟩
def Zby (v:Value) (l:List (Bs×Bs)):YG:=Zj 264 2 v (l.map Zb0)
theorem Yh (v:Value) (l:List (Bs×Bs)):(Zby v l).Local:=Zd _ _ _ _
theorem Zby.hdrs (h:Zby v l w F):∃A c,v= .slice A l.length c∧l.length≤c∧Zay w A l:=by
 obtain⟨A,c,a,b,f⟩:=h.lies
 rw[Xb]at a b
 refine⟨A,c,a,b,fun j x g=> ?_⟩
 obtain⟨d,i,e⟩:=f j (Zb0 x) (by rw[Xe,g];rfl)
 exact⟨d,0,i,by rw[Nat.zero_add];exact e⟩
def Znp (w:World) (l:List (Bs×Bs)) (e:Ending) (w':World):Prop:=∃(v:Value) (M:List Nat),e= .returned v∧Zby v l w' M∧(∀k∈M,w.heap.size≤k)∧Zg [] w w'
theorem Zmo {l:List (Bs×Bs)} {k:Nat} {x:Bs×Bs} (h:l[k]? =some x):ZcF (l.take (k+1))=ZcF (l.take k)++[(Yx x.1,YO x.2)]:=by
 unfold ZcF;rw[ZY h,Xs];rfl
theorem Zlj (l:List (Bs×Bs)) (A:Option Addr) (c:Nat) (w:World) (hA:Zay w A l) (hl:l.length≤1000000) (hf:Zd3 l):
  Calls Tryz.prog 119 #[.slice A l.length c] w (Znp w (ZcF l)):=by
 have HA:=D hA;have HF:=D hf
 have af:=D Zhz
 clear hA hf
 go_enter Tryz.func119,Tryz.ntmps119
 go_wp2_with fail
 go_loopw[8,3,5] (fun v8 v3 _ wr=>∃(k:Nat) (M:List Nat),k≤l.length∧v8= .int .i64 k∧Hid (Zby v3 (ZcF (l.take k)) wr M)∧Hid (∀q∈M,w.heap.size≤q)∧Hid (Zg [] w wr)) (fun v8 _ _ _=>l.length-(intOf v8).toNat)
 case atStart=>exact⟨0,[],Xn _,rfl,D (ZD _ _ _),D (by simp),D (Zg.refl [] w)⟩
 case round=>
  obtain⟨k,M,hk,rfl,HR,Q,O⟩:=hrel
  by_cases ax:k<l.length
  ·obtain⟨x,hx⟩:∃x,l[k]? =some x:=⟨_,Xa ax⟩
   obtain⟨ab,ao,rfl,X⟩:=HA.out k x hx
   have am:=D (X.upd O (by simp))
   obtain⟨aC,aA⟩:=HF.out x (Xc hx)
   have N:=Za (w:=wr) (.cells #[.string ⟨#[]⟩, .string ⟨#[]⟩] 264 (0,0))
   have HZ:=D N
   obtain⟨b,y⟩:=Je ((wr.alloc (.cells #[.string ⟨#[]⟩, .string ⟨#[]⟩] 264 (0,0))).setRow wr.heap.size (Zb0 x).toArray)
   have r:b.heap[wr.heap.size]? =some (.cells (Zb0 x).toArray 264 (0,0)):=by rw[y];exact setRow_heap _ _ _ _ _ _ N
   have L:Zg [] wr b:=by rw[y];exact((Zg.refl [] wr).alloc _).setRow (.inl (Xi _)) _
   have az:=D (show(Zb0 x).toArray.all (·.oneCell')=true by rw[Xl,Xk];exact ZeO x)
   have aq:=Jt O L
   have aB:=D r
   have av:=D ((Yh _ _).upd HR L (by simp))
   have z:=Zmo hx
   have J:∀W,Calls Tryz.prog 176 #[.string ⟨x.1.toArray⟩] W fun e R=>e= .returned (.string ⟨(Yx x.1).toArray⟩)∧Zg [] W R:=fun W=>YJ x.1 W (by omega)
   have I:∀W,Calls Tryz.prog 192 #[.string ⟨x.2.toArray⟩] W fun e R=>e= .returned (.string ⟨(YO x.2).toArray⟩)∧R=W:=fun W=>Za4 x.2 W (by omega)
   obtain⟨S,ah⟩:=Je (Yx x.1)
   obtain⟨P,ad⟩:=Je (YO x.2)
   simp only[←ah]at J z
   simp only[←ad]at I z
   obtain⟨a,p⟩:=Je wr.heap.size
   have al:=D z;have V:=D J;have T:=D I;have aj:=D p
   have C:b.cell? ⟨a,0,none⟩=some (.string ⟨x.1.toArray⟩):=by rw[p];exact Zc (i:=0) r rfl
   have H:b.cell? ⟨a,1,none⟩=some (.string ⟨x.2.toArray⟩):=by rw[p];exact Zc (i:=1) r rfl
   clear hx X N r L z J I ah ad;change Hid _ at y
   go_upto_region 5 with(first|refine Js am af ?_|(refine Jo (Zb0 x).toArray HZ af az ?_;rw[←y.out]))
   rw[←aj.out]
   clear p
   refine Jr [0,4,8,16,20,13,25,28,33,38,40] (fun W=>W.cell? ⟨a,0,none⟩=some (.string ⟨x.1.toArray⟩)∧W.cell? ⟨a,1,none⟩=some (.string ⟨x.2.toArray⟩)) ⟨C,H⟩ ?_
   repeat first|refine Jn ?_|refine Jf ?_|refine Ju ?_
   refine JE ?_
   simp only[Xu]
   go_wp2_with fail
   refine(V.out _).mono ?_
   rintro e E ⟨rfl,Y⟩
   have d:Zg [] b E:=((Zg.refl [] b).drewN 1).trans Y (by simp)
   have o:=(Xp (d.block a (Xo _ _ C) (by simp))).trans C
   have j:=(Xp (d.block a (Xo _ _ H) (by simp))).trans H
   have au:=Jt aq d;have aw:=D ((Yh _ _).upd av d (by simp))
   clear Y d C H V
   go_wp2_with fail
   refine⟨fun W=>W.cell? ⟨a,0,none⟩=some (.string ⟨x.1.toArray⟩)∧W.cell? ⟨a,1,none⟩=some (.string ⟨x.2.toArray⟩),fun _ h=>h,⟨o,j⟩,?_⟩
   repeat first|refine Jn ?_|refine Jf ?_|refine Ju ?_
   refine JE ?_
   go_wp2_with fail
   refine(T.out _).mono ?_
   rintro e wt ⟨rfl,ae⟩
   rw[ae];clear ae wt T
   go_wp2_with fail
   refine⟨fun W=>W.cell? ⟨a,0,none⟩=some (.string ⟨x.1.toArray⟩)∧W.cell? ⟨a,1,none⟩=some (.string ⟨x.2.toArray⟩),fun _ h=>h,⟨o,j⟩,?_⟩
   repeat first|refine Jn ?_|refine Jf ?_|refine Ju ?_
   refine JE ?_
   go_wp2_with fail
   obtain⟨w3,s⟩:=Je (E.alloc (.cells #[.string ⟨S.toArray⟩, .string ⟨P.toArray⟩] 264))
   rw[←s]
   have g:=Ja s
   have ai:=D (show Zb w3 E.heap.size 0 (Zb0 (S,P))by rw[s];exact Zb.of_block (Za _))
   have K:=D ((Yh _ _).upd aw g (by simp));have ag:=Jt au g
   have e0:=(Xp (g.block a (Xo _ _ o) (by simp))).trans o
   have e1:=(Xp (g.block a (Xo _ _ j) (by simp))).trans j
   refine⟨fun W=>W.cell? ⟨a,0,none⟩=some (.string ⟨x.1.toArray⟩)∧W.cell? ⟨a,1,none⟩=some (.string ⟨x.2.toArray⟩),fun _ h=>h,⟨e0,e1⟩,?_⟩
   obtain⟨A3,c3,rfl,_,_⟩:=K.hdrs
   have ak:(ZcF (l.take k)).length≤1000000:=by unfold ZcF;rw[Xb,List.length_take];omega
   obtain⟨n,F⟩:=Je ((ZcF (l.take k)).length)
   rw[←F]at K ak
   have ar:=D F
   rw[←F]
   clear s g o j e0 e1 F
   refine JL ?_
   refine Zn w3 rfl (.tmp 12) (.tmp 20) 41 rfl 264 Tryz.underlying41 ZoY rfl (by omega) (by omega) (.slice A3 n c3) ((ZcF (l.take k)).map Zb0) M rfl K E.heap.size 1 (Zb0 (S,P)) rfl ai rfl (ZeO _) (by rw[Xb,←ar.out];omega) ?_
   intro v' w7 G' ac Z aa
   have ay:=D ac;have ap:=D Z;have an:=D aa
   clear ac Z aa
   go_wp2_with fail
   refine⟨fun _=>True,trivial,?_⟩
   repeat first|refine Jn ?_|refine Jf ?_|refine Ju ?_
   refine ZL ?_
   go_wp2_with fail
   have s3:=ag.size
   exact⟨⟨k+1,G',by omega,by go_num,D (by rw[al.out];unfold Zby;rw[Xs];exact ay),D (fun q m=>by
    rcases an q m with h|h
    ·exact Q q h
    ·omega),D (((ag.weaken (G:=M) (by simp)).trans ap (fun q m=> .inr m)).weaken (fun q m=> .inl (Q.out q m)))⟩,by simp[intOf];omega⟩
  ·obtain rfl:k=l.length:=by omega
   go_wp2_with fail
   go_ret
   exact⟨_,M,rfl,by have:=HR.out;rw[Xm]at this;exact this,Q.out,O.out⟩
end Go.Proofs.YtbgbeddbfaopgaaGreatDoor
namespace Go.Lk
theorem ZeW (sep:Bs) (m:Nat):∀l:List Bs,(∀x∈l,x.length≤m)→(Lib.join l sep).length≤(m+sep.length)*l.length
 |[],_=>by simp[Lib.join]
 |[x],h=>by have:=h x (by simp);simp[Lib.join];omega
 |x::y::l,h=>by
  have h1:=h x (by simp)
  have h2:=ZeW sep m (y::l) (fun z hz=>h z (by simp[hz]))
  have e:Lib.join (x::y::l) sep=x++sep++Lib.join (y::l) sep:=by simp[Lib.join,List.intercalate]
  rw[e,Xd,Xd]
  rw[List.length_cons]at h2
  rw[List.length_cons,List.length_cons]
  rw[Nat.mul_add (m+sep.length) (l.length+1) 1]
  omega
end Go.Lk
namespace Go.Proofs.YtbgbeddbfaopgaaGreatDoor
open Go.RowKit Go.Lk
theorem Zmb {l:List (Bs×Bs)} {k:Nat} {x:Bs×Bs} (name:Bs) (h:l[k]? =some x):Zam (l.take (k+1)) name=if Zb2 x.1 name then Zam (l.take k) name++[YO x.2]else Zam (l.take k) name:=by
 unfold Zam
 rw[ZY h,List.filter_append,Xs]
 split
 ·rename_i a;simp[a]
 ·rename_i a;simp[a]
theorem ZgF (l:List (Bs×Bs)) (name:Bs):(Zam l name).length≤l.length:=by
 unfold Zam;rw[Xb];exact Xq _ _
theorem ZoW {name:Bs} (hf:Zd3 l):∀x∈Zam l name,x.length≤900000:=fun x hx=>by
 obtain⟨h,hh,rfl⟩:=List.mem_map.1 hx
 have:=hf h (List.mem_filter.1 hh).1
 have:=ZaC h.2
 omega
theorem ZdY (l:List (Bs×Bs)) (A:Option Addr) (c:Nat) (name:Bs) (w:World) (hA:Zay w A l) (hl:l.length≤1000000) (hf:Zd3 l) (hn:name.length≤900000):
  Calls Tryz.prog 165 #[.slice A l.length c, .string ⟨name.toArray⟩] w fun e w'=>e= .returned (.tuple #[.string ⟨(Zdc l name).1.toArray⟩, .bool (Zdc l name).2])∧Zg [] w w':=by
 obtain⟨R,S⟩:=Je (Zdc l name)
 have an:=D (show R=(Zfk (Zam l name),decide (0<(Zam l name).length))from S)
 rw[←S]
 clear S
 have HA:=D hA;have HF:=D hf
 have ak:=D Zhz
 clear hA hf
 go_enter Tryz.func165,Tryz.ntmps165
 go_wp2_with fail
 go_loopw[11,6,8] (fun v11 v6 _ wr=>∃(k:Nat) (M:List Nat),k≤l.length∧v11= .int .i64 k∧Hid (Ye v6 (Zam (l.take k) name) wr M)∧Hid (∀q∈M,w.heap.size≤q)∧Hid (Zg [] w wr)) (fun v11 _ _ _=>l.length-(intOf v11).toNat)
 case atStart=>exact⟨0,[],Xn _,rfl,D (ZD _ _ _),D (by simp),D (Zg.refl [] w)⟩
 case round=>
  obtain⟨k,M,hk,rfl,HR,V,O⟩:=hrel
  by_cases aA:k<l.length
  ·obtain⟨x,hx⟩:∃x,l[k]? =some x:=⟨_,Xa aA⟩
   obtain⟨ab,ao,rfl,aa⟩:=HA.out k x hx
   have ar:=D (aa.upd O (by simp))
   obtain⟨aE,aD⟩:=HF.out x (Xc hx)
   have L:=Za (w:=wr) (.cells #[.string ⟨#[]⟩, .string ⟨#[]⟩] 264 (0,0))
   have HZ:=D L
   obtain⟨Y,o⟩:=Je ((wr.alloc (.cells #[.string ⟨#[]⟩, .string ⟨#[]⟩] 264 (0,0))).setRow wr.heap.size (Zb0 x).toArray)
   have F:Y.heap[wr.heap.size]? =some (.cells (Zb0 x).toArray 264 (0,0)):=by rw[o];exact setRow_heap _ _ _ _ _ _ L
   have H:Zg [] wr Y:=by rw[o];exact((Zg.refl [] wr).alloc _).setRow (.inl (Xi _)) _
   have aC:=D (show(Zb0 x).toArray.all (·.oneCell')=true by rw[Xl,Xk];exact ZeO x)
   have aw:=Jt O H
   have az:=D ((Zm _ _).upd HR H (by simp))
   have p:=Zmb name hx
   have I:=ZfI x.1 name Y (by omega) (by omega)
   have C:∀W,Calls Tryz.prog 192 #[.string ⟨x.2.toArray⟩] W fun e w'=>e= .returned (.string ⟨(YO x.2).toArray⟩)∧w'=W:=fun W=>Za4 x.2 W (by omega)
   obtain⟨y,ai⟩:=Je (YO x.2)
   obtain⟨b,hb⟩:=Je (Zb2 x.1 name)
   simp only[←ai]at C p
   rw[←hb]at p I
   have ac:=D p;have af:=D I;have Z:=D C
   have c0:=Jc 0 F
   have X:=Jc 1 F
   clear hx aa L F H p I C ai hb;change Hid _ at o
   go_wp2_with(first|refine Js ar ak ?_|(refine Jo (Zb0 x).toArray HZ ak aC ?_;rw[←o.out]))
   refine af.out.mono ?_
   rintro e s ⟨rfl,j⟩
   have d1:s.cell? ⟨wr.heap.size,1,none⟩=some (.string ⟨x.2.toArray⟩):=(Xp (j.block wr.heap.size (Xo _ _ X) (by simp))).trans X
   have al:=Jt aw j;have am:=D ((Zm _ _).upd az j (by simp))
   clear j c0 X af
   cases b with
   |false=>
    have P:=D (show Zam (l.take (k+1)) name=Zam (l.take k) name by rw[ac.out];rfl)
    go_wp2_with fail
    exact⟨⟨k+1,M,by omega,by go_num,by rw[P.out];exact am,V,al⟩,by simp[intOf];omega⟩
   |true=>
    have P:=D (show Zam (l.take (k+1)) name=Zam (l.take k) name++[y]by rw[ac.out];rfl)
    go_wp2_with fail
    refine(Z.out _).mono ?_
    rintro e wt ⟨rfl,aj⟩
    rw[aj];clear aj wt Z d1
    obtain⟨T,m⟩:=Je (s.alloc (.cells #[.string ⟨y.toArray⟩] 9))
    have d:=Ja m
    have ap:=D (show Zb T s.heap.size 0 (Zbb y)by rw[m];exact Zb.of_block (Za _))
    have E:=D ((Zm _ _).upd am d (by simp));have g:=Jt al d
    obtain⟨A3,c3,rfl,_,_⟩:=E.strs
    have aq:(Zam (l.take k) name).length≤1000000:=by have:=ZgF (l.take k) name;rw[List.length_take]at this;omega
    obtain⟨n,a⟩:=Je ((Zam (l.take k) name).length)
    rw[←a]at E aq
    have ax:=D a
    rw[←a]
    clear d a;change Hid _ at m
    go_upto_region 7 with(rw[←m.out];refine Zn T rfl (.tmp 19) (.tmp 23) 169 rfl 9 Tryz.underlying169 ZbH rfl (by omega) (by omega) (.slice A3 n c3) ((Zam (l.take k) name).map Zbb) M rfl E s.heap.size 1 (Zbb y) rfl ap rfl (Zct _) (by rw[Xb,←ax.out];omega) ?_;intro v' w7 G' ah ad ag;have aB:=D ah;have av:=D ad;have au:=D ag;clear ah ad ag)
    go_wp2_with fail
    have s3:=g.size
    exact⟨⟨k+1,G',by omega,by go_num,D (by rw[P.out];unfold Ye;rw[Xs];exact aB),D (fun q i=>by
     rcases au q i with h|h
     ·exact V q h
     ·omega),D (((g.weaken (G:=M) (by simp)).trans av (fun q i=> .inr i)).weaken (fun q i=> .inl (V.out q i)))⟩,by simp[intOf];omega⟩
  ·obtain rfl:k=l.length:=by omega
   have r:=HR.out
   rw[Xm]at r
   have ay:=ZgF l name
   have ae:(Zfk (Zam l name)).length≤140737488355328:=by
    have:=ZeW [44,32] 900000 (Zam l name) (ZoW HF)
    unfold Zfk
    calc (Lib.join (Zam l name) [44,32]).length≤(900000+2)*(Zam l name).length:=this
     _≤(900000+2)*1000000:=Nat.mul_le_mul_left _ (by omega)
     _≤140737488355328:=by omega
   have q:=ZlV r (by omega) ae
   obtain⟨A3,c3,rfl,_,_⟩:=r.strs
   obtain⟨N,J⟩:=Je (Zfk (Zam l name))
   obtain⟨n,a⟩:=Je ((Zam l name).length)
   have HE:=D (show R=(N,decide (0<n))by rw[an.out,J,a])
   rw[←a]at ay
   rw[←J]at q
   have Q:=D q
   have aF:=D (show(Zam (l.take l.length) name).length=n by rw[Xm,a])
   rw[←a]at Q⊢
   clear q r ae J a an
   go_wp2_with fail
   refine Q.out.mono ?_
   rintro e T ⟨rfl,d⟩
   have g:=Jt O d;clear d
   by_cases h0:0<n
   ·have K:=D (show R=(N,true)by rw[HE.out,decide_eq_true h0])
    have z:(0:Int)<(n:Int):=by omega
    go_wp2_with fail
    go_ret2
    exact⟨by rw[K.out];rfl,g.out⟩
   ·have K:=D (show R=(N,false)by rw[HE.out,decide_eq_false h0])
    have z:¬(0:Int)<(n:Int):=by omega
    go_wp2_with fail
    go_ret2
    exact⟨by rw[K.out];rfl,g.out⟩
end Go.Proofs.YtbgbeddbfaopgaaGreatDoor
namespace Go.Lk
open Go.RowKit
def Zv (r:Yb) (vh:Value):List Value:=
 [.string ⟨r.method.toArray⟩, .string ⟨r.url.toArray⟩, .string ⟨r.origin.toArray⟩, .int .i64 r.mode, .bool r.creds,vh, .int .i64 r.cls, .int .u64 r.timeout, .int .i64 r.group, .int .i64 r.signal]
end Go.Lk
namespace Go.Proofs.YtbgbeddbfaopgaaGreatDoor
open Go.RowKit Go.Lk
structure Za0 (w:World) (r:Yb) (vh:Value):Prop where
 m:r.method.length≤900000
 u:r.url.length≤900000
 o:r.origin.length≤900000
 n:r.headers.length≤100000
 few:Zd3 r.headers
 at_:∃A c,vh= .slice A r.headers.length c∧Zay w A r.headers
theorem Za0.upd0 (h:Za0 w r vh) (hu:Zg [] w w'):Za0 w' r vh:=
 ⟨h.m,h.u,h.o,h.n,h.few,by obtain⟨A,c,h1,h2⟩:=h.at_;exact⟨A,c,h1,h2.upd0 hu⟩⟩
theorem ZlU (m:Int) (w:World):
  Calls Tryz.prog 181 #[.int .i64 m] w fun e w'=>e= .returned (.bool (m==1||m==2||m==3))∧w'=w:=by
 obtain⟨r,a⟩:=Je ((m==1||m==2||m==3))
 have b:=D a
 rw[←a]
 clear a
 go_enter Tryz.func181,Tryz.ntmps181
 go_wp2_with fail
 all_goals
  go_ret
  exact⟨by rw[b.out];first|rfl|simp[*],rfl⟩
theorem ZjB (r:Yb) (vh:Value) (w:World) (h:Za0 w r vh) (hE:Env w):
  Calls Tryz.prog 106 #[.agg (Zv r vh).toArray] w fun e w'=>e= .returned (.bool (ZfC r))∧Zg [] w w':=by
 obtain⟨R,x⟩:=Je (ZfC r)
 obtain⟨O,p⟩:=Je (ZfX r.method)
 obtain⟨o,j⟩:=Je (Zdy r.headers)
 have M:=D (show R=(O&&o.length==0)by rw[x,p,j];rfl)
 rw[←x]
 obtain⟨N,l⟩:=Je (w.alloc (.cells (Zv r vh).toArray 43))
 have d:=Ja l
 have g:=Jh l
 have S:=Jc 0 g
 have s:=ZeL r.method N (by have:=h.m;omega)
 rw[←p]at s
 have G:∀W,Zg [] N W→Calls Tryz.prog 183 #[vh] W (Zdo W o):=fun W L=>by
  obtain⟨A,c,rfl,V⟩:=((h.upd0 d).upd0 L).at_
  rw[j];exact Zh2 r.headers A c W V h.n h.few (hE.upd0 (d.trans L (by simp)))
 have H:=D s;have T:=D G
 have Y:=D (show o.length≤1000000 by
  rw[j,Ziz]
  refine Xj (Zd1 _) ?_
  unfold ZbK
  rw[List.length_mergeSort]
  have X:(ZcZ r.headers).length≤100000:=by unfold ZcZ;rw[Xb];exact Xj (Xq _ _) h.n
  have aa:(ZdC r.headers).length≤100000:=by unfold ZdC;rw[Xb];exact Xj (Xq _ _) h.n
  split
  ·rw[Xd];omega
  ·omega)
 clear s G x p j h hE;change Hid _ at d l g
 go_enter Tryz.func106,Tryz.ntmps106
 go_upto_region 1 with fail
 rw[←l.out]
 go_wp2_with fail
 refine H.out.mono ?_
 rintro e J ⟨rfl,b⟩
 have P:=D b;have E:=Jt d b
 have y:=(b.block w.heap.size (Jg g) (by simp)).trans g.out
 have c5:J.cell? ⟨w.heap.size,5,none⟩=some vh:=Zc (i:=5) y rfl
 clear b y H S
 cases O with
 |false=>
  have a:=D (show R=false by rw[M.out];rfl)
  go_wp2_with fail
  go_ret
  exact⟨by rw[a.out];rfl,E.out⟩
 |true=>
 go_wp2_with fail
 refine(T.out J P).mono ?_
 rintro e w3 ⟨v3,M3,rfl,F,_,C⟩
 have z:=Jt E C
 obtain⟨A3,c3,rfl,_,_⟩:=F.strs
 obtain⟨n,q⟩:=Je o.length
 have a:=D (show R=(n==0)by rw[M.out,q];rfl)
 rw[←q]
 clear F C q
 cases n with
 |zero=>
  go_wp2_with fail
  go_ret
  exact⟨by rw[a.out];rfl,z.out⟩
 |succ n=>
  have I:¬((n+1:Nat):Int)=0:=by omega
  have Q:=D (show R=false by rw[a.out];rfl)
  obtain⟨k,K⟩:=Je (n+1)
  rw[←K]at I⊢
  clear K a
  have Z:((k:Int)==0)=false:=by rw[beq_eq_false_iff_ne];exact I
  go_wp2_with fail
  go_ret
  exact⟨by rw[Q.out];first|rfl|simp[*],z.out⟩
end Go.Proofs.YtbgbeddbfaopgaaGreatDoor
namespace Go.Lk
theorem Zmn (r:Yb):ZbW r=if ZcA r.method !=0 then ZcA r.method
 else if !(r.mode==1||r.mode==2||r.mode==3)then 7
 else if Zcd r.headers !=0 then Zcd r.headers
 else if r.cls<1∨6<r.cls then 8
 else if 600<r.timeout then 9
 else if r.group<0∨r.signal<0 then 2
 else 0:=rfl
end Go.Lk
namespace Go.Proofs.YtbgbeddbfaopgaaGreatDoor
open Go.RowKit Go.Lk
theorem Zml (r:Yb) (vh:Value) (w:World) (h:Za0 w r vh) (hE:Env w):
  Calls Tryz.prog 105 #[.agg (Zv r vh).toArray] w fun e w'=>e= .returned (.int .i64 (ZbW r))∧Zg [] w w':=by
 obtain⟨R,N⟩:=Je (ZbW r)
 obtain⟨s,G⟩:=Je (ZcA r.method)
 obtain⟨b,J⟩:=Je (Zcd r.headers)
 obtain⟨q,F⟩:=Je ((r.mode==1||r.mode==2||r.mode==3))
 have M:=D (show R=if s !=0 then s else if !q then 7 else if b !=0 then b
  else if r.cls<1∨6<r.cls then 8 else if 600<r.timeout then 9 else if r.group<0∨r.signal<0 then 2 else 0 by rw[N,G,J,F];exact Zmn r)
 rw[←N]
 obtain⟨w1,p⟩:=Je (w.alloc (.cells (Zv r vh).toArray 43))
 have y:=Ja p
 have o:=Jh p
 have c0:=Jc 0 o
 have L:=ZjK r.method w1 (by have:=h.m;omega)
 rw[←G]at L
 have Z:∀W,Calls Tryz.prog 181 #[.int .i64 r.mode] W fun e w'=>e= .returned (.bool q)∧w'=W:=fun W=>by rw[F];exact ZlU r.mode W
 have Q:∀W,Zg [] w1 W→Calls Tryz.prog 87 #[vh] W fun e w'=>e= .returned (.int .i64 b)∧Zg [] W w':=fun W hW=>by
  obtain⟨A,c,rfl,hA⟩:=((h.upd0 y).upd0 hW).at_
  rw[J];exact Zgl r.headers A c W hA (by have:=h.n;omega) h.few
 have S:=D L;have QM:=D Z;have Y:=D Q
 clear L Q Z N G J F h hE;change Hid _ at y p o
 go_enter Tryz.func105,Tryz.ntmps105
 go_upto_region 1 with fail
 rw[←p.out]
 go_wp2_with fail
 refine S.out.mono ?_
 rintro e K ⟨rfl,j⟩
 have aa:=D j;have E:=Jt y j
 have k:=(j.block w.heap.size (Jg o) (by simp)).trans o.out
 have c3:=Jc 3 k
 have c5:K.cell? ⟨w.heap.size,5,none⟩=some vh:=Zc (i:=5) k rfl
 have P:=D k
 clear j k S c0
 by_cases T:s=0
 case neg=>
  have a:=D (show R=s by rw[M.out,if_pos (by simpa using T)])
  go_wp2_with fail
  go_ret
  exact⟨by rw[a.out];rfl,E.out⟩
 subst T
 have H:=D (show R=if !q then 7 else if b !=0 then b else if r.cls<1∨6<r.cls then 8 else if 600<r.timeout then 9 else if r.group<0∨r.signal<0 then 2 else 0 by rw[M.out];rfl)
 clear M
 go_wp2_with fail
 refine(QM.out K).mono ?_
 rintro e wt ⟨rfl,O⟩
 rw[O];clear O wt QM
 cases q with
 |false=>
  have a:=D (show R=7 by rw[H.out];rfl)
  go_wp2_with fail
  go_ret
  exact⟨by rw[a.out];rfl,E.out⟩
 |true=>
 have x:=D (show R=if b !=0 then b else if r.cls<1∨6<r.cls then 8 else if 600<r.timeout then 9 else if r.group<0∨r.signal<0 then 2 else 0 by rw[H.out];rfl)
 clear H
 go_wp2_with fail
 refine(Y.out K aa).mono ?_
 rintro e w3 ⟨rfl,C⟩
 have d:=Jt E C
 have g:=(C.block w.heap.size (Jg P) (by simp)).trans P.out
 have c6:=Jc 6 g
 have c7:=Jc 7 g
 have c8:=Jc 8 g
 have c9:=Jc 9 g
 clear C g c3 c5 Y
 by_cases V:b=0
 case neg=>
  have a:=D (show R=b by rw[x.out,if_pos (by simpa using V)])
  go_wp2_with fail
  go_ret
  exact⟨by rw[a.out];rfl,d.out⟩
 subst V
 have l:=D (show R=if r.cls<1∨6<r.cls then 8 else if 600<r.timeout then 9 else if r.group<0∨r.signal<0 then 2 else 0 by rw[x.out];rfl)
 clear x
 by_cases k1:r.cls<1
 ·have a:=D (show R=8 by rw[l.out,if_pos (.inl k1)])
  go_wp2_with fail
  go_ret
  exact⟨by rw[a.out];rfl,d.out⟩
 by_cases k2:6<r.cls
 ·have a:=D (show R=8 by rw[l.out,if_pos (.inr k2)])
  go_wp2_with fail
  go_ret
  exact⟨by rw[a.out];rfl,d.out⟩
 have I:=D (show R=if 600<r.timeout then 9 else if r.group<0∨r.signal<0 then 2 else 0 by rw[l.out,if_neg (by rintro(h|h)<;>contradiction)])
 clear l
 by_cases X:600<r.timeout
 ·have a:=D (show R=9 by rw[I.out,if_pos X])
  go_wp2_with fail
  go_ret
  exact⟨by rw[a.out];rfl,d.out⟩
 have z:=D (show R=if r.group<0∨r.signal<0 then 2 else 0 by rw[I.out,if_neg X])
 clear I
 by_cases k4:r.group<0
 ·have a:=D (show R=2 by rw[z.out,if_pos (.inl k4)])
  go_wp2_with fail
  go_ret
  exact⟨by rw[a.out];rfl,d.out⟩
 by_cases k5:r.signal<0
 ·have a:=D (show R=2 by rw[z.out,if_pos (.inr k5)])
  go_wp2_with fail
  go_ret
  exact⟨by rw[a.out];rfl,d.out⟩
 ·have a:=D (show R=0 by rw[z.out,if_neg (by rintro(h|h)<;>contradiction)])
  go_wp2_with fail
  go_ret
  exact⟨by rw[a.out];rfl,d.out⟩
end Go.Proofs.YtbgbeddbfaopgaaGreatDoor
namespace Go.Lk
theorem Zo9 (x:Bs):Lib.split (Lib.trimPrefix x [47]) [47]=Zax x:=by
 unfold Zax Lib.trimPrefix
 cases x with
 |nil=>rfl
 |cons a l=>
  by_cases h:a=47
  ·subst h
   simp[Lib.hasPrefix]
  ·have:Lib.hasPrefix (a::l) [47]=false:=by
    unfold Lib.hasPrefix;simp[List.isPrefixOf];exact fun e=>h e.symm
   rw[this];simp[h]
theorem Zl7 (c:UInt8) (s:Bs):Lib.split s [c]≠[]:=by
 by_cases h:c∈s
 ·obtain⟨x,r,rfl,hx⟩:=List.eq_append_cons_of_mem h
  rw[Zjq _ _ _ hx];simp
 ·rw[Zjw _ _ h];simp
def YN (ws:List Bs):List Bs:=ws.foldl Zde []
theorem Zh7 {ws:List Bs} {k:Nat} (h:ws[k]? =some x):YN (ws.take (k+1))=Zde (YN (ws.take k)) x:=by
 unfold YN;rw[ZY h,List.foldl_append];rfl
theorem ZnT (st:List Bs) (x:Bs):(Zde st x).length≤st.length+1:=by
 unfold Zde;split
 ·simp
 ·rw[List.length_take];omega
 ·omega
theorem ZgJ (ws:List Bs) (k:Nat):(YN (ws.take k)).length≤k:=by
 induction k with
 |zero=>simp[YN]
 |succ k ih=>
  by_cases h:k<ws.length
  ·rw[Zh7 (Xa h)]
   have:=ZnT (YN (ws.take k)) ws[k];omega
  ·rw[List.take_of_length_le (by omega)]
   rw[List.take_of_length_le (by omega)]at ih
   omega
theorem Zos {st:List Bs} {x y:Bs} (h:y∈Zde st x):y∈st∨y=x:=by
 unfold Zde at h;split at h
 ·rcases List.mem_append.1 h with h|h
  ·exact .inl h
  ·exact .inr (by simpa using h)
 ·exact .inl (List.mem_of_mem_take h)
 ·exact .inl h
theorem Zji {ws:List Bs} {y:Bs} (h:y∈YN ws):y∈ws:=by
 have c:∀(l b:List Bs),y∈l.foldl Zde b→y∈b∨y∈l:=by
  intro l
  induction l with
  |nil=>intro b h;exact .inl h
  |cons a l ih=>
   intro b h
   rcases ih _ h with h|h
   ·rcases Zos h with h|h
    ·exact .inl h
    ·exact .inr (by simp[h])
   ·exact .inr (by simp[h])
 rcases c ws [] h with h|h
 ·cases h
 ·exact h
theorem Zp1 (x:Bs):ZbD x=[47]++Lib.join (if 0<dotsT ((Zax x).getLastD [])then YN (Zax x)++[[]]else YN (Zax x)) [47]:=rfl
end Go.Lk
namespace Go.Proofs.YtbgbeddbfaopgaaGreatDoor
open Go.RowKit Go.Lk
theorem clean_few (x:Bs):(Lib.join (if 0<dotsT ((Zax x).getLastD [])then YN (Zax x)++[[]]else YN (Zax x)) [47]).length≤(x.length+1)*(x.length+2):=by
 have b:(Zax x).length≤x.length+1∧∀y∈Zax x,y.length≤x.length:=by
  have h:=ZaN 47 _ (if x.head? =some 47 then x.tail else x) (Xi _)
  have c:(if x.head? =some 47 then x.tail else x).length≤x.length:=by split<;>simp
  exact⟨by unfold Zax;omega,fun y a=>Xj (h.2 y a) c⟩
 have d:(YN (Zax x)).length≤x.length+1:=by
  have:=ZgJ (Zax x) (Zax x).length
  rw[Xm]at this
  omega
 have h:=ZeW [47] x.length (if 0<dotsT ((Zax x).getLastD [])then YN (Zax x)++[[]]else YN (Zax x)) (fun y a=>by
  split at a
  ·rcases List.mem_append.1 a with a|a
   ·exact b.2 y (Zji a)
   ·rw[Jm a];exact Xn _
  ·exact b.2 y (Zji a))
 refine Xj h (Nat.mul_le_mul_left _ ?_)
 split
 ·rw[Xd];simp;omega
 ·omega
theorem Zp6 {k g n cap i:Nat} {xs:List (List Value)} (h:Zj e k (.slice (some ⟨g,0,none⟩) n cap) xs w F) (hi:i≤xs.length):Zj e k (.slice (some ⟨g,0,none⟩) i cap) (xs.take i) w F:=by
 obtain⟨b,c,_,_,a,_,_,_⟩:=h.block
 exact Zfe h hi [] (by have:=Nat.mul_le_mul_right k (Xj hi a);simpa using this) rfl
theorem ZeZ {P:Prop}(h:P:=by
 clear af
 have aa:(⟨#[47]⟩:ByteArray)++⟨J.toArray⟩=⟨([47]++J).toArray⟩:=Zau [47] J
 have HC:=D aa;clear aa
 go_wp2_with fail
 go_ret
 exact⟨by rw[aB.out,←HC.out];rfl,aD.out⟩):P:=h
theorem Zgf (x:Bs) (w:World) (hx:x.length≤900000) (hE:Env w):
  Calls Tryz.prog 174 #[.string ⟨x.toArray⟩] w fun e w'=>e= .returned (.string ⟨(ZbD x).toArray⟩)∧Zg [] w w':=by
 have q0:= Tryz.strings_TrimPrefix ⟨x.toArray⟩ ⟨#[47]⟩ w
 obtain⟨r,ak⟩:=Je (Lib.trimPrefix x [47])
 have aQ:Calls Tryz.prog 258 #[.string ⟨x.toArray⟩, .string ⟨#[47]⟩] w fun e w'=>e= .returned (.string ⟨r.toArray⟩)∧w'=w:=by rw[ak];exact q0
 have a3:r.length≤900000:=by rw[ak];unfold Lib.trimPrefix;split;(rw[List.length_drop];omega);exact hx
 have q:=Zgy hE r 47 a3
 obtain⟨ws,W⟩:=Je (Lib.split r [47])
 have av:ws=Zax x:=by rw[W,ak];exact Zo9 x
 have aG:∀y∈ws,y.length≤900000:=fun y b=>by
  rw[W]at b
  have:=(ZaN 47 r.length r (Xi _)).2 y b
  omega
 have a8:ws.length≤900001:=by rw[W];have:=(ZaN 47 r.length r (Xi _)).1;omega
 have aM:ws≠[]:=by rw[W];exact Zl7 47 r
 rw[←W]at q
 obtain⟨R,hR⟩:=Je (ZbD x)
 have aS:=D (show R=[47]++Lib.join (if 0<dotsT (ws.getLastD [])then YN ws++[[]]else YN ws) [47]by rw[hR,av];rfl)
 have ag:=D (show(Lib.join (if 0<dotsT (ws.getLastD [])then YN ws++[[]]else YN ws) [47]).length≤900000000000 by
  rw[av]
  calc _≤(x.length+1)*(x.length+2):=clean_few x
   _≤900001*900002:=Nat.mul_le_mul (by omega) (by omega)
   _≤900000000000:=by omega)
 rw[←hR]
 have Q0:=D aQ;have Q:=D q;have aH:=D aG;have a0:=D aM
 clear q q0 aQ W aG av ak hR aM
 go_enter Tryz.func174,Tryz.ntmps174
 go_wp2_with fail
 refine Q0.out.mono ?_
 rintro e wt ⟨rfl,aN⟩
 rw[aN];clear aN wt Q0
 go_wp2_with fail
 refine Q.out.mono ?_
 rintro e w1 ⟨rfl,K,aK⟩
 have aW:=D K;have aY:=D aK;clear K aK Q
 go_wp2_with fail
 go_loopw[12,4,6] (fun v12 v4 _ wr=>∃(k:Nat) (M:List Nat),k≤ws.length∧v12= .int .i64 k∧Hid (Ye v4 (YN (ws.take k)) wr M)∧Hid (∀q∈M,w.heap.size≤q)∧Hid (Zg [] w wr)∧Hid (Y1 wr (some ⟨w.heap.size,0,none⟩) ws)∧Hid (w.heap.size∉M)) (fun v12 _ _ _=>ws.length-(intOf v12).toNat)
 case atStart=>exact⟨0,[],by omega,rfl,D (ZD _ _ _),D (by simp),aY,aW,D (by simp)⟩
 case round=>
  obtain⟨k,M,hk,rfl,HR,HM,HU,HS,HN⟩:=hrel
  by_cases aP:k<ws.length
  ·obtain⟨y,b⟩:∃y,ws[k]? =some y:=⟨_,Xa aP⟩
   obtain⟨ab,ao,S,ah⟩:=HS.out k y b
   injection S with S;injection S with s e2 _;subst s e2
   rw[Nat.zero_add]at ah
   have q:=Zg4 y wr (by have:=aH.out y (Xc b);omega)
   have aR:=Zh7 b
   have aL:dotsT y=0∨dotsT y=1∨dotsT y=2:=by unfold dotsT;split;exact .inr (.inl rfl);split;exact .inr (.inr rfl);exact .inl rfl
   obtain⟨d,hd⟩:=Je (dotsT y)
   have aI:d=0→Zde (YN (ws.take k)) y=YN (ws.take k)++[y]:=fun h=>by unfold Zde;rw[←hd,h];rfl
   have aE:d=1→Zde (YN (ws.take k)) y=YN (ws.take k):=fun h=>by unfold Zde;rw[←hd,h];rfl
   have aF:d=2→Zde (YN (ws.take k)) y=(YN (ws.take k)).take ((YN (ws.take k)).length-1):=fun h=>by unfold Zde;rw[←hd,h];rfl
   rw[←hd]at q aL
   have Q:=D q;have aq:=D aR;have aV:=D aI;have a2:=D aE;have a1:=D aF
   have ad:=ZgJ ws k
   obtain⟨A,cA,rfl,ay,_⟩:=HR.strs
   obtain⟨n,j⟩:=Je ((YN (ws.take k)).length)
   rw[←j]at HR ad ay
   have H:=D j
   rw[←j]
   clear q aR b hd aI aE aF j
   go_wp2_with fail
   refine Q.out.mono ?_
   rintro e T ⟨rfl,C⟩
   have P:=Jt HU C;have L:=D ((Zm _ _).upd HR C (by simp));have aj:=D (HS.upd0 C)
   clear C ah Q
   rcases aL with rfl|rfl|rfl
   ·have Y:=D (show YN (ws.take (k+1))=YN (ws.take k)++[y]by rw[aq.out,aV.out rfl])
    obtain⟨Z,o⟩:=Je (T.alloc (.cells #[.string ⟨y.toArray⟩] 9))
    have E:=Ja o
    have au:=D (show Zb Z T.heap.size 0 (Zbb y)by rw[o];exact Zb.of_block (Za _))
    have an:=D ((Zm _ _).upd L E (by simp))
    have aJ:=D (aj.upd0 E)
    have az:=Jt P E;have ar:=D o
    clear E o
    go_upto_region 11 with(rw[←ar.out];refine Zn Z rfl (.tmp 20) (.tmp 22) 169 rfl 9 Tryz.underlying169 ZbH rfl (by omega) (by omega) (.slice A n cA) ((YN (ws.take k)).map Zbb) M rfl an T.heap.size 1 (Zbb y) rfl au rfl (Zct y) (by rw[Xb,←H.out];omega) ?_;intro v' w7 G' ae ac F;have aC:=D ae;have ai:=D ac;have aw:=D F;clear ae ac F)
    go_wp2_with fail
    have a5:w.heap.size<Z.heap.size:=by obtain⟨ab,ao,s,hc⟩:=aJ.out k _ (Xa aP);injection s with s;injection s with s _;subst s;exact Xo _ _ hc
    exact⟨⟨k+1,G',by omega,by go_num,D (by rw[Y.out];unfold Ye;rw[Xs];exact aC),D (fun q p=>by
     rcases aw q p with h|h
     ·exact HM q h
     ·omega),D (((az.weaken (G:=M) (by simp)).trans ai (fun q p=> .inr p)).weaken (fun q p=> .inl (HM.out q p))),D (aJ.upd ai (fun ab ao e=>by injection e with e;injection e with e _;rw[←e];exact HN)),D (fun hm=>by
     rcases aw _ hm with h|h
     ·exact HN h
     ·omega)⟩,by simp[intOf];omega⟩
   ·have Y:=D (show YN (ws.take (k+1))=YN (ws.take k)by rw[aq.out,a2.out rfl])
    go_wp2_with fail
    exact⟨⟨k+1,M,by omega,by go_num,by rw[Y.out];exact L,HM,P,aj,HN⟩,by simp[intOf];omega⟩
   ·have Y:=D (show YN (ws.take (k+1))=(YN (ws.take k)).take (n-1)by rw[aq.out,a1.out rfl,H.out])
    by_cases V:n=0
    ·subst V
     have am:YN (ws.take k)=[]:=List.eq_nil_of_length_eq_zero H.symm
     change Hid _ at am
     go_wp2_with fail
     all_goals exact⟨⟨k+1,M,by omega,by go_num,by rw[Y.out,am.out];have:=L.out;rw[am.out]at this;exact D this,HM,P,aj,HN⟩,by simp[intOf];omega⟩
    ·obtain⟨m,rfl⟩:∃m,n=m+1:=⟨n-1,by omega⟩
     obtain⟨g,rfl⟩:∃g,A=some ⟨g,0,none⟩:=by
      rcases L.form with⟨e,_⟩|⟨g,a9,_,h1,_⟩
      ·cases e
      ·injection h1 with h1;exact⟨g,h1⟩
     have ap:=Zp6 (i:=m) L (by rw[Xb,←H.out];omega)
     rw[←List.map_take]at ap
     have a4:=D ap;clear ap
     clear V
     have aZ:((m+1:Nat):Int)-1=(m:Int):=by omega
     go_wp2_with fail
     all_goals exact⟨⟨k+1,M,by omega,by go_num,D (by rw[Y.out];exact a4),HM,P,aj,HN⟩,by simp[intOf];omega⟩
  ·obtain rfl:k=ws.length:=by omega
   obtain⟨m,hm⟩:∃m,ws.length=m+1:=⟨ws.length-1,by have:=a0.out;cases ws with|nil=>exact absurd rfl this|cons a l=>simp⟩
   obtain⟨y,b⟩:∃y,ws[m]? =some y:=⟨_,Xa (by omega)⟩
   have al:ws.getLastD []=y:=by
    rw[List.getLastD_eq_getLast?,List.getLast?_eq_getElem?,hm,show m+1-1=m by omega,b];rfl
   obtain⟨ab,ao,S,ah⟩:=HS.out m y b
   injection S with S;injection S with s e2 _;subst s e2
   rw[Nat.zero_add]at ah
   have q:=Zg4 y wr (by have:=aH.out y (Xc b);omega)
   obtain⟨d,hd⟩:=Je (dotsT y)
   have X:=HR.out
   rw[Xm]at X
   have ad:=ZgJ ws ws.length
   rw[Xm]at ad
   obtain⟨O,K⟩:=Je (YN ws)
   have aO:=D (show R=[47]++Lib.join (if 0<d then O++[[]]else O) [47]by rw[aS.out,al,←hd,←K])
   have c:=ag.out
   rw[al,←hd,←K]at c
   rw[←K]at X ad
   obtain⟨A,cA,rfl,ay,_⟩:=X.strs
   obtain⟨n,j⟩:=Je O.length
   rw[←j]at X ad ay
   have a6:=D (show(YN (ws.take ws.length)).length=n by rw[Xm,←K,j])
   rw[←hd]at q
   have aZ:(ws.length:Int)-1=(m:Int):=by omega
   have Q:=D q;have aX:=D X;have H:=D j;have HJ:=D c;have a7:=D hm
   rw[←j]
   clear q X hd K al c b hm j aS ag HR
   go_wp2_with fail
   refine Q.out.mono ?_
   rintro e T ⟨rfl,C⟩
   have P:=Jt HU C;have L:=D ((Zm _ _).upd aX C (by simp))
   clear C ah Q
   by_cases V:0<d
   ·have z:(0:Int)<(d:Int):=by omega
    have c:=HJ.out
    have I:=aO.out
    rw[if_pos V]at c I
    have ag:=D c;have aU:=D I
    obtain⟨Z,o⟩:=Je (T.alloc (.cells #[.string ⟨#[]⟩] 9))
    have E:=Ja o
    have au:=D (show Zb Z T.heap.size 0 (Zbb [])by rw[o];exact Zb.of_block (Za _))
    have an:=D ((Zm _ _).upd L E (by simp))
    have az:=Jt P E;have ar:=D o
    clear E o c I V
    go_upto_region 14 with(rw[←ar.out];refine Zn Z rfl (.tmp 41) (.tmp 42) 169 rfl 9 Tryz.underlying169 ZbH rfl (by omega) (by omega) (.slice A n cA) (O.map Zbb) M rfl an T.heap.size 1 (Zbb []) rfl au rfl (Zct _) (by rw[Xb,←H.out];omega) ?_;intro v' w7 G' ae ac F;have aC:=D ae;have ai:=D ac;have aw:=D F;clear ae ac F)
    have aA:Ye v' (O++[[]]) w7 G':=by unfold Ye;rw[Xs];exact aC.out
    have N:=ZcH aA (by rw[Xd,←H.out];simp;omega) [47] (by have:=ag.out;omega)
    obtain⟨J,hJ⟩:=Je (Lib.join (O++[[]]) [47])
    have ax:=aU.out
    have aT:=ag.out
    rw[←hJ]at N ax aT
    obtain⟨A7,c7,rfl,_,_⟩:=aA.strs
    obtain⟨n7,F⟩:=Je ((O++[[]]).length)
    rw[←F]at N⊢
    have Q7:=D N;have aB:=D ax
    clear N hJ ax aA F
    go_wp2_with fail
    refine Q7.out.mono ?_
    rintro e w8 ⟨rfl,af⟩
    have aD:=D ((((az.weaken (G:=M) (by simp)).trans ai (fun q p=> .inr p)).weaken (G:=[]) (fun q p=> .inl (HM.out q p))).trans af (by simp))
    exact ZeZ
   ·have z:¬(0:Int)<(d:Int):=by omega
    have c:=HJ.out
    have I:=aO.out
    rw[if_neg V]at c I
    have N:=ZcH L (by rw[←H.out];omega) [47] (Xj c (by omega))
    obtain⟨J,hJ⟩:=Je (Lib.join O [47])
    rw[←hJ]at N I c
    have Q7:=D N;have aB:=D I
    clear N hJ I V
    go_wp2_with fail
    refine Q7.out.mono ?_
    rintro e w8 ⟨rfl,af⟩
    have aD:=Jt P af
    exact ZeZ
end Go.Proofs.YtbgbeddbfaopgaaGreatDoor
namespace Go.Lk
open Go.RowKit
theorem Znm {P:Program} (a b:Bs) (hl:a.length+b.length≤9000000000) (W:World):(binOp .add t (.string ⟨a.toArray⟩) (.string ⟨b.toArray⟩)).run P W= .ok (.string ⟨(a++b).toArray⟩) W:=by
 have h:¬(((⟨a.toArray⟩:ByteArray).size+(⟨b.toArray⟩:ByteArray).size:Nat):Int)>IntKind.i64.max:=by
  have c:IntKind.i64.max=9223372036854775807:=by decide
  rw[c]
  simp only[ByteArray.size,List.size_toArray]
  omega
 show(Op.stringOp .add ⟨a.toArray⟩ ⟨b.toArray⟩).run P W=_
 unfold Op.stringOp
 simp only[if_neg h]
 rw[Zau];rfl
theorem ZkN {P:Program} {Q:Exit→Act→World→Prop} {ops:Array Oper} {i:Nat} {o:Oper} {a a':Act} (ho:ops[i]? =some o) (hg:o.guard=none) (t ty:TypeId) (x y:Operand) (hop:o.op= .binOp .add t x y ty) (s1 s2:Bs)
  (hx:a.eval x= .string ⟨s1.toArray⟩) (hy:a.eval y= .string ⟨s2.toArray⟩) (hl:s1.length+s2.length≤9000000000) (ha:a.put o.dst (.string ⟨(s1++s2).toArray⟩)=a') (h:Z4 P ops Q r S a' w):Z4 P ops Q ((i,0)::r) S a w:=
 Zan (v:= .string ⟨(s1++s2).toArray⟩) ho hg (fun W hW=>by
  unfold execOp
  simp[hop,hx,hy,eqGuard,Znm s1 s2 hl W]) ha h
end Go.Lk
namespace Go.Proofs.YtbgbeddbfaopgaaGreatDoor
open Go.RowKit Go.Lk
def ZV (u:Z6):List Value:=[.string ⟨u.origin.scheme.toArray⟩, .string ⟨u.origin.host.toArray⟩, .int .i64 u.origin.port, .string ⟨u.path.toArray⟩, .string ⟨u.query.toArray⟩]
theorem ZaK (u:Z6):∀v∈ZV u,v.oneCell'=true:=by intro v hv;unfold ZV at hv;simp at hv;rcases hv with rfl|rfl|rfl|rfl|rfl<;>rfl
theorem Zbi (h:Zb w b 0 (ZV u)):Zb w b 0 (Zz u.origin):=fun j v hj=>h j v (by
 match j,hj with
 |0,hj=>exact hj
 |1,hj=>exact hj
 |2,hj=>exact hj
 |_+3,hj=>simp[Zz]at hj)
structure UrlFit (u:Z6):Prop where
 h:u.origin.host.length≤900000
 p:u.path.length≤900000
 q:u.query.length≤900000
theorem Zba (u:Z6) (w:World) (hu:UrlFit u) (hE:Env w):
  Calls Tryz.prog 175 #[.agg (ZV u).toArray] w fun e w'=>e= .returned (.string ⟨(YV u).toArray⟩)∧Zg [] w w':=by
 have G:=D hE;clear hE
 obtain⟨n,d⟩:=Je (w.alloc (.cells (ZV u).toArray 209))
 have k:=Ja d
 have o:=Jh d
 have C:=D (show Zu Tryz.prog 207 3=true by kernel_rfl)
 obtain⟨a,g⟩:=Je (Zew u.origin)
 have I:a.length≤300:=by rw[g];exact Zjg _
 have s:∀W,Env W→Calls Tryz.prog 118 #[.agg (Zz u.origin).toArray] W fun e w'=>e= .returned (.string ⟨a.toArray⟩)∧Zg [] W w':=fun W m=>by rw[g];exact Zg3 u.origin W hu.h m
 obtain⟨r,l⟩:=Je (YV u)
 have H:=D (show r=a++u.path++u.query by rw[l,g];rfl)
 rw[←l]
 have K:=hu.p;have J:=hu.q
 have i:=D (show Zb n w.heap.size 0 (ZV u)from Zb.of_block o)
 have z:=D s
 have E:=D (show w.alloc (.cells #[.string ⟨u.origin.scheme.toArray⟩, .string ⟨u.origin.host.toArray⟩, .int .i64 u.origin.port, .string ⟨u.path.toArray⟩, .string ⟨u.query.toArray⟩] 209)=n from d.symm)
 clear d o s g l hu;change Hid _ at k
 show Calls _ _ #[.agg #[.string ⟨u.origin.scheme.toArray⟩, .string ⟨u.origin.host.toArray⟩, .int .i64 u.origin.port, .string ⟨u.path.toArray⟩, .string ⟨u.query.toArray⟩]] w _
 go_enter Tryz.func175,Tryz.ntmps175
 go_upto_region 1 with fail
 rw[E.out]
 refine Jr [0,4,12,16,24,28,9,20,32,36] (fun W=>W.cell? ⟨w.heap.size,3,none⟩=some (.string ⟨u.path.toArray⟩)∧W.cell? ⟨w.heap.size,4,none⟩=some (.string ⟨u.query.toArray⟩)∧Zb W w.heap.size 0 (Zz u.origin)) ⟨i.out 3 _ rfl,i.out 4 _ rfl,Zbi i⟩ ?_
 repeat first|refine Jn ?_|refine Jf ?_|refine Ju ?_
 apply Zq (t:= 207) (x:= .tmp 3) (b:=w.heap.size) (of:=0) (cs:=Zz u.origin)
 case ho=>simp only[Xh,Xf,Xg];rfl
 case hg=>rfl
 case hop=>rfl
 case hx=>rfl
 case ht=>exact C.out
 case hb=>exact fun W m=>m.2.2
 case ha=>go_simp;rfl
 repeat first|refine Jn ?_|refine Jf ?_|refine Ju ?_
 refine JE ?_
 simp only[Xu]
 go_wp2_with fail
 refine(z.out _ (G.upd0 (k.drewN 1))).mono ?_
 rintro e L ⟨rfl,j⟩
 have c:=i.upd (((Zg.refl [] n).drewN 1).trans j (by simp)) (by simp)
 have F:=D ((k.drewN 1).trans j (by simp))
 clear j z
 go_wp2_with fail
 refine⟨fun W=>W.cell? ⟨w.heap.size,3,none⟩=some (.string ⟨u.path.toArray⟩)∧W.cell? ⟨w.heap.size,4,none⟩=some (.string ⟨u.query.toArray⟩)∧Zb W w.heap.size 0 (Zz u.origin),fun _ h=>h,⟨c 3 _ rfl,c 4 _ rfl,Zbi c⟩,?_⟩
 clear c
 apply ZkN (t:= 9) (ty:= 9) (x:= .tmp 5) (y:= .tmp 7) (s1:=a) (s2:=u.path)
 case ho=>simp only[Xh,Xf,Xg];rfl
 case hg=>rfl
 case hop=>rfl
 case hx=>rfl
 case hy=>rfl
 case hl=>omega
 case ha=>go_simp;rfl
 apply ZkN (t:= 9) (ty:= 9) (x:= .tmp 8) (y:= .tmp 10) (s1:=a++u.path) (s2:=u.query)
 case ho=>simp only[Xh,Xf,Xg];rfl
 case hg=>rfl
 case hop=>rfl
 case hx=>rfl
 case hy=>rfl
 case hl=>rw[Xd];omega
 case ha=>go_simp;rfl
 repeat first|refine Jn ?_|refine Jf ?_|refine Ju ?_
 refine ZL ?_
 go_wp2_with fail
 go_ret
 exact⟨by rw[H.out];simp,F.out⟩
end Go.Proofs.YtbgbeddbfaopgaaGreatDoor
