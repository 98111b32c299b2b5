import Derived.Test.YtbgbeddbfaopgaaGreatDoorZ11
import Derived.Test.YtbgbeddbfaopgaaGreatDoorZ13
import Derived.Test.YtbgbeddbfaopgaaGreatDoorZ18
set_option linter.all false
set_option maxHeartbeats 16000000
set_option maxRecDepth 100000
set_option autoImplicit true
set_option relaxedAutoImplicit true
namespace Go.Proofs.YtbgbeddbfaopgaaGreatDoor
open Go.RowKit Go.Lk
def ZaJ (o:Y8):List Value:=[.int .i64 o.id, .int .i64 o.group, .string ⟨o.key.toArray⟩]
theorem ZoI (x:Y8):∀u∈ZaJ x,u.oneCell'=true:=by
 intro u a;simp only[ZaJ,List.mem_cons,List.not_mem_nil,or_false]at a;rcases a with rfl|rfl|rfl<;>rfl
def YU (b:Nat) (l:List Y8):YG:=Y2 b (fun v=> #[v]) 143 220 3 (l.map ZaJ)
theorem ZF (b:Nat) (l:List Y8):(YU b l).Local:=Zas _ _ _ _ _ _
theorem ZpN (o:Y8) (box:Nat) (id:Int) (W:World) (hc:W.cell? ⟨box,0,none⟩=some (.int .i64 id)):
  Calls Tryz.prog 268 #[.agg (ZaJ o).toArray, .pointer (some ⟨box,0,none⟩)] W fun e w'=>e= .returned (.bool (o.id==id))∧Zg [] W w':=by
 have a:=ZaI hc
 have b:box≠W.heap.size:=by omega
 show Calls _ _ #[.agg #[.int .i64 o.id, .int .i64 o.group, .string ⟨o.key.toArray⟩], .pointer (some ⟨box,0,none⟩)] W _
 go_enter Tryz.func268,Tryz.ntmps268
 go_wp2
 go_ret
 exact⟨rfl,(Zg.refl _ _).alloc _⟩
theorem ZmY (o:Y8) (box:Nat) (key:Bs) (W:World) (hc:W.cell? ⟨box,0,none⟩=some (.string ⟨key.toArray⟩)):
  Calls Tryz.prog 188 #[.agg (ZaJ o).toArray, .pointer (some ⟨box,0,none⟩)] W fun e w'=>e= .returned (.bool (o.key==key))∧Zg [] W w':=by
 have a:=ZaI hc
 have b:box≠W.heap.size:=by omega
 show Calls _ _ #[.agg #[.int .i64 o.id, .int .i64 o.group, .string ⟨o.key.toArray⟩], .pointer (some ⟨box,0,none⟩)] W _
 go_enter Tryz.func188,Tryz.ntmps188
 go_wp2
 go_ret
 exact⟨rfl,(Zg.refl _ _).alloc _⟩
theorem ZkB (o:Y8) (box:Nat) (g:Int) (W:World) (hc:W.cell? ⟨box,0,none⟩=some (.int .i64 g)):
  Calls Tryz.prog 189 #[.agg (ZaJ o).toArray, .pointer (some ⟨box,0,none⟩)] W fun e w'=>e= .returned (.bool (o.group==g))∧Zg [] W w':=by
 have a:=ZaI hc
 have b:box≠W.heap.size:=by omega
 show Calls _ _ #[.agg #[.int .i64 o.id, .int .i64 o.group, .string ⟨o.key.toArray⟩], .pointer (some ⟨box,0,none⟩)] W _
 go_enter Tryz.func189,Tryz.ntmps189
 go_wp2
 go_ret
 exact⟨rfl,(Zg.refl _ _).alloc _⟩
theorem ZlZ (o:Y8) (W:World):
  Calls Tryz.prog 187 #[.agg (ZaJ o).toArray] W fun e w'=>e= .returned (.bool true)∧Zg [] W w':=by
 show Calls _ _ #[.agg #[.int .i64 o.id, .int .i64 o.group, .string ⟨o.key.toArray⟩]] W _
 go_enter Tryz.func187,Tryz.ntmps187
 go_wp2
 go_ret
 exact⟨rfl,(Zg.refl _ _).alloc _⟩
theorem Znt (h:YU b l w F) (id:Int):
  Calls Tryz.prog 185 #[.pointer (some ⟨b,0,none⟩), .int .i64 id] w fun e w'=>e= .returned (.int .i64 (YL (fun o=>o.id==id) l))∧Zg [] w w':=by
 obtain⟨v,G,rfl,C,j,c⟩:=h
 obtain⟨E,d⟩:=Je (w.alloc (.cells #[.int .i64 id] 3))
 have a:=Ja d
 have g:=Jh d
 have n:=(a.block b (Jg j) (by simp)).trans j
 have y:=Zc (i:=0) n rfl
 simp only[List.getElem_toArray,Xv]at y
 have p:=(Zd _ _ _ _).upd c a (by simp)
 have k:=Zn8 ZaJ (fun o=>o.id==id) 268 #[.pointer (some ⟨w.heap.size,0,none⟩)] p (enters_of Tryz.func268 (by kernel_rfl) rfl) (fun W x _ z=>ZpN x w.heap.size id W (by
  have:=(z.block w.heap.size (Jg g) (by simp)).trans g
  exact Zc (i:=0) this rfl))
 have q:=D k
 obtain⟨r,c⟩:=Je (YL (fun o:Y8=>o.id==id) l)
 rw[←c]at q⊢
 clear k g n p c j;change Hid _ at d a
 go_enter Tryz.func185,Tryz.ntmps185
 go_upto_region 1 with fail
 rw[←d.out]
 go_wp2_with fail
 refine q.out.mono ?_
 rintro e H ⟨rfl,m⟩
 have s:=Jt a m
 clear m
 go_wp2_with fail
 go_ret
 exact⟨rfl,s.out⟩
def cntF {α:Type} (p:α→Bool) (l:List α):Nat:=(l.filter p).length
theorem ZnD {α:Type} (p:α→Bool) {l:List α} {k:Nat} {x:α} (h:l[k]? =some x):cntF p (l.take (k+1))=cntF p (l.take k)+if p x then 1 else 0:=by
 unfold cntF;rw[ZY h,List.filter_append];simp only[Xd];congr 1
 cases hp:p x<;>simp[hp]
theorem ZfN (p:Y8→Bool) (g:FuncId) (lb:Array Value) (h:YU b l w F) (hl:l.length≤4611686018427387904) (eg:∀args w,(callFunc g args).run Tryz.prog w= .ok (.enter g args) w)
  (hp:∀(W:World) (x:Y8),x∈l→Zg [] w W→Calls Tryz.prog g (#[.agg (ZaJ x).toArray]++lb) W fun e w'=>e= .returned (.bool (p x))∧Zg [] W w'):
  Calls Tryz.prog 186 #[.pointer (some ⟨b,0,none⟩), .func (.func g) #[] lb] w fun e w'=>e= .returned (.int .i64 (cntF p l:Nat))∧Zg [] w w':=by
 obtain⟨v,G,rfl,aa,M,k⟩:=h
 have L:=Zc (i:=0) M rfl
 simp only[List.getElem_toArray,Xv]at L
 obtain⟨A,c,rfl,Z,o⟩:=k.lies
 have HK:=D k.2.1
 rw[Xb]at Z L
 have Y:=D hp;have X:=D o
 clear M k hp o
 go_enter Tryz.func186,Tryz.ntmps186
 go_wp2
 go_loopw[5,15] (fun s5 s15 wr=>∃kk:Nat,kk≤l.length∧s15= .int .i64 kk∧s5= .int .i64 (cntF p (l.take kk):Nat)∧Hid (Zg [] w wr)) (fun _ s15 _=>l.length-(intOf s15).toNat)
 case atStart=>exact⟨0,Xn _,rfl,by simp[cntF],D (Zg.refl [] w)⟩
 case round=>
  obtain⟨kk,ac,rfl,rfl,n⟩:=hrel
  by_cases Q:kk<l.length
  ·obtain⟨x,hx⟩:∃x,l[kk]? =some x:=⟨_,Xa Q⟩
   have K:=Xc hx
   obtain⟨ab,rfl,E⟩:=X.out kk (ZaJ x) (by rw[Xe,hx];rfl)
   have S:=D (E.upd n (by simp))
   have H:=D (show Zu Tryz.prog 220 (ZaJ x).length=true from ZhQ)
   have O:=D (show Zu Tryz.prog 220 (ZaJ x).toArray.size=true from ZhQ)
   have T:=D (show(ZaJ x).toArray.all (·.oneCell')=true by simp[ZaJ,Value.oneCell'])
   have s:=D (Za (w:=wr) (.cells #[.int .i64 0, .int .i64 0, .string ⟨#[]⟩] 220 (0,0)))
   obtain⟨j,d⟩:=Je ((wr.alloc (.cells #[.int .i64 0, .int .i64 0, .string ⟨#[]⟩] 220 (0,0))).setRow wr.heap.size (ZaJ x).toArray)
   have z:j.heap[wr.heap.size]? =some (.cells (ZaJ x).toArray 220 (0,0)):=by rw[d];exact setRow_heap _ _ _ _ _ _ s.out
   have C:Zg [] wr j:=by rw[d];exact((Zg.refl [] wr).alloc _).setRow (.inl (Xi _)) _
   have y:=Jt n C
   have R:=D (show Zb j wr.heap.size 0 (ZaJ x)from Zb.of_block z)
   have V:=D (Y.out j x K y)
   have a:=D (ZnD p hx)
   have P:cntF p (l.take kk)≤kk:=by unfold cntF;have:=Xq p (l.take kk);have:=List.length_take_le kk l;omega
   obtain⟨q,J⟩:=Je (p x)
   obtain⟨m,N⟩:=Je (cntF p (l.take kk))
   rw[←N]at P a⊢
   clear hx K E z C N;change Hid _ at d J
   go_wp2_with(first|refine Js S H ?_|(refine Jo (ZaJ x).toArray s O T ?_;rw[←d.out])|refine Jl R H ?_)
   refine V.out.mono ?_
   rintro e w2 ⟨rfl,r⟩
   rw[←J.out]at a⊢
   have I:=Jt y r
   clear r
   cases q with
   |true=>
    go_wp2
    go_roundw
    case rel=>exact⟨kk+1,by omega,by go_num,by rw[a.out];simp,I⟩
    case measure=>simp[intOf];omega
   |false=>
    go_wp2
    go_roundw
    case rel=>exact⟨kk+1,by omega,by go_num,by rw[a.out];simp,I⟩
    case measure=>simp[intOf];omega
  ·obtain rfl:kk=l.length:=by omega
   go_wp2
   go_ret
   exact⟨by rw[Xm];rfl,n.out⟩
theorem Zpl (h:YU b l w F) (key:Bs) (hl:l.length≤4611686018427387904):
  Calls Tryz.prog 114 #[.pointer (some ⟨b,0,none⟩), .string ⟨key.toArray⟩] w fun e w'=>e= .returned (.int .i64 (cntF (fun o=>o.key==key) l))∧Zg [] w w':=by
 obtain⟨q,a⟩:=Je (w.alloc (.cells #[.string ⟨key.toArray⟩] 9))
 have d:=Ja a
 have c:=Jh a
 have g:=ZfN (fun o=>o.key==key) 188 #[.pointer (some ⟨w.heap.size,0,none⟩)] ((ZF _ _).upd h d (by simp)) hl (enters_of Tryz.func188 (by kernel_rfl) rfl) (fun W x _ p=>ZmY x w.heap.size key W (by
  have:=(p.block w.heap.size (Jg c) (by simp)).trans c
  exact Zc (i:=0) this rfl))
 have m:=D g
 obtain⟨r,k⟩:∃r:Nat,r=(cntF (fun o=>o.key==key) l):=⟨_,rfl⟩
 rw[←k]at m⊢
 clear g c k h;change Hid _ at a d
 go_enter Tryz.func114,Tryz.ntmps114
 go_upto_region 1 with fail
 rw[←a.out]
 go_wp2_with fail
 refine m.out.mono ?_
 rintro e s ⟨rfl,j⟩
 have n:=Jt d j
 clear j
 go_wp2_with fail
 go_ret
 exact⟨rfl,n.out⟩
theorem ZmE (h:YU b l w F) (g:Int) (hl:l.length≤4611686018427387904):
  Calls Tryz.prog 115 #[.pointer (some ⟨b,0,none⟩), .int .i64 g] w fun e w'=>e= .returned (.int .i64 (cntF (fun o=>o.group==g) l))∧Zg [] w w':=by
 obtain⟨s,a⟩:=Je (w.alloc (.cells #[.int .i64 g] 3))
 have d:=Ja a
 have c:=Jh a
 have j:=ZfN (fun o=>o.group==g) 189 #[.pointer (some ⟨w.heap.size,0,none⟩)] ((ZF _ _).upd h d (by simp)) hl (enters_of Tryz.func189 (by kernel_rfl) rfl) (fun W x _ q=>ZkB x w.heap.size g W (by
  have:=(q.block w.heap.size (Jg c) (by simp)).trans c
  exact Zc (i:=0) this rfl))
 have n:=D j
 obtain⟨r,m⟩:∃r:Nat,r=(cntF (fun o=>o.group==g) l):=⟨_,rfl⟩
 rw[←m]at n⊢
 clear j c m h;change Hid _ at a d
 go_enter Tryz.func115,Tryz.ntmps115
 go_upto_region 1 with fail
 rw[←a.out]
 go_wp2_with fail
 refine n.out.mono ?_
 rintro e y ⟨rfl,k⟩
 have p:=Jt d k
 clear k
 go_wp2_with fail
 go_ret
 exact⟨rfl,p.out⟩
theorem Zod (h:YU b l w F) (hl:l.length≤4611686018427387904):
  Calls Tryz.prog 113 #[.pointer (some ⟨b,0,none⟩)] w fun e w'=>e= .returned (.int .i64 l.length)∧Zg [] w w':=by
 have a:=ZfN (fun _=>true) 187 #[] h hl (enters_of Tryz.func187 (by kernel_rfl) rfl) (fun W x _ i=>ZlZ x W)
 rw[show cntF (fun _:Y8=>true) l=l.length by unfold cntF;simp]at a
 have g:=D a
 clear a h
 go_enter Tryz.func113,Tryz.ntmps113
 go_wp2_with fail
 refine g.out.mono ?_
 rintro e j ⟨rfl,c⟩
 have d:=D c
 clear c
 go_wp2_with fail
 go_ret
 exact⟨rfl,d.out⟩
theorem ZqA (h:YU b l w F) (id:Int):
  Calls Tryz.prog 112 #[.pointer (some ⟨b,0,none⟩), .int .i64 id] w fun e w'=>e= .returned (.bool (l.any fun o=>o.id==id))∧Zg [] w w':=by
 have a:=Znt h id
 have c:decide (0≤YL (fun o:Y8=>o.id==id) l)=l.any fun o=>o.id==id:=(Zc2 _ _)
 obtain⟨r,g⟩:=Je (YL (fun o:Y8=>o.id==id) l)
 rw[←g]at a c
 rw[←c]
 have j:=D a
 clear a h g c
 go_enter Tryz.func112,Tryz.ntmps112
 go_wp2_with fail
 refine j.out.mono ?_
 rintro e k ⟨rfl,d⟩
 have i:=D d
 clear d
 go_wp2_with fail
 go_ret
 exact⟨rfl,i.out⟩
def ZbY (l:List Y8) (id:Int) (key:Bs) (g:Int):List Y8×Int:=
 if id<1 then(l,2)else if l.any (fun o=>o.id==id)then(l,16)else
 if 64≤l.length∨24≤cntF (fun o=>o.key==key) l∨32≤cntF (fun o=>o.group==g) l then(l,10)else(l++[⟨id,g,key⟩],0)
theorem Zo0 (h:YU b l w F) (hl:l.length≤1000000) (id:Int) (key:Bs) (g:Int):
  Calls Tryz.prog 64 #[.pointer (some ⟨b,0,none⟩), .int .i64 id, .string ⟨key.toArray⟩, .int .i64 g] w fun e w'=>e= .returned (.int .i64 (ZbY l id key g).2)∧∃F',YU b (ZbY l id key g).1 w' F'∧Zi w w' F F':=by
 have H:=D h
 by_cases h1:id<1
 ·have d:ZbY l id key g=(l,2):=by unfold ZbY;rw[if_pos h1]
  rw[d]
  clear h d
  go_enter Tryz.func64,Tryz.ntmps64
  go_wp2_with fail
  go_ret
  exact⟨rfl,F,H.out,Zi.refl _ _⟩
 have q1:=ZqA h id
 obtain⟨a,V⟩:=Je (l.any fun o=>o.id==id)
 rw[←V]at q1
 have K:=D q1
 clear q1 h;change Hid _ at V
 cases a with
 |true=>
  have d:ZbY l id key g=(l,16):=by unfold ZbY;rw[if_neg h1,if_pos V.symm]
  rw[d]
  clear d
  go_enter Tryz.func64,Tryz.ntmps64
  go_wp2_with fail
  refine K.out.mono ?_
  rintro e X ⟨rfl,j⟩
  have p:=D j
  clear j
  go_wp2_with fail
  go_ret
  exact⟨rfl,F,(ZF _ _).upd H p (by simp),⟨p.weaken (by simp),fun k C=> .inl C⟩⟩
 |false=>
  have O:l.length≤4611686018427387904:=by omega
  obtain⟨m,I⟩:=Je (cntF (fun o:Y8=>o.key==key) l)
  obtain⟨n,Y⟩:=Je (cntF (fun o:Y8=>o.group==g) l)
  have an:m≤1000000:=by rw[I];unfold cntF;have:=Xq (fun o:Y8=>o.key==key) l;omega
  have ao:n≤1000000:=by rw[Y];unfold cntF;have:=Xq (fun o:Y8=>o.group==g) l;omega
  have S:=D (show ZbY l id key g=if 64≤l.length∨24≤m∨32≤n then(l,10)else(l++[⟨id,g,key⟩],0)by unfold ZbY;rw[if_neg h1,if_neg (by rw[←V.out];simp),I,Y])
  have Q:=D (fun(W:World) (hu:Zg [] w W)=>Zod ((ZF _ _).upd H hu (by simp)) O)
  have R:=D (fun(W:World) (hu:Zg [] w W)=>Zpl ((ZF _ _).upd H hu (by simp)) key O)
  have HG:=D (fun(W:World) (hu:Zg [] w W)=>ZmE ((ZF _ _).upd H hu (by simp)) g O)
  rw[←I]at R;rw[←Y]at HG
  clear I Y O
  by_cases h2:64≤l.length
  ·have d:ZbY l id key g=(l,10):=by rw[S.out,if_pos (.inl h2)]
   rw[d]
   clear d
   go_enter Tryz.func64,Tryz.ntmps64
   go_wp2_with fail
   refine K.out.mono ?_
   rintro e X ⟨rfl,j⟩
   have p:=D j
   clear j
   go_wp2_with fail
   refine(Q.out _ p).mono ?_
   rintro e w3 ⟨rfl,q⟩
   have r:=Jt p q;clear q
   go_wp2_with fail
   go_ret
   exact⟨rfl,F,(ZF _ _).upd H r (by simp),⟨r.weaken (by simp),fun k C=> .inl C⟩⟩
  by_cases h3:24≤m
  ·have d:ZbY l id key g=(l,10):=by rw[S.out,if_pos (.inr (.inl h3))]
   rw[d]
   clear d
   go_enter Tryz.func64,Tryz.ntmps64
   go_wp2_with fail
   refine K.out.mono ?_
   rintro e X ⟨rfl,j⟩
   have p:=D j
   clear j
   go_wp2_with fail
   refine(Q.out _ p).mono ?_
   rintro e w3 ⟨rfl,q⟩
   have r:=Jt p q;clear q
   go_wp2_with fail
   refine(R.out _ r).mono ?_
   rintro e w4 ⟨rfl,s⟩
   have y:=Jt r s;clear s
   go_wp2_with fail
   go_ret
   exact⟨rfl,F,(ZF _ _).upd H y (by simp),⟨y.weaken (by simp),fun k C=> .inl C⟩⟩
  by_cases h4:32≤n
  ·have d:ZbY l id key g=(l,10):=by rw[S.out,if_pos (.inr (.inr h4))]
   rw[d]
   clear d
   go_enter Tryz.func64,Tryz.ntmps64
   go_wp2_with fail
   refine K.out.mono ?_
   rintro e X ⟨rfl,j⟩
   have p:=D j
   clear j
   go_wp2_with fail
   refine(Q.out _ p).mono ?_
   rintro e w3 ⟨rfl,q⟩
   have r:=Jt p q;clear q
   go_wp2_with fail
   refine(R.out _ r).mono ?_
   rintro e w4 ⟨rfl,s⟩
   have y:=Jt r s;clear s
   go_wp2_with fail
   refine(HG.out _ y).mono ?_
   rintro e L ⟨rfl,J⟩
   have z:=Jt y J;clear J
   go_wp2_with fail
   go_ret
   exact⟨rfl,F,(ZF _ _).upd H z (by simp),⟨z.weaken (by simp),fun k C=> .inl C⟩⟩
  have d:ZbY l id key g=(l++[⟨id,g,key⟩],0):=by rw[S.out,if_neg (by omega)]
  rw[d]
  clear d
  go_enter Tryz.func64,Tryz.ntmps64
  go_wp2_with fail
  refine K.out.mono ?_
  rintro e X ⟨rfl,j⟩
  have p:=D j
  clear j
  go_wp2_with fail
  refine(Q.out _ p).mono ?_
  rintro e w3 ⟨rfl,q⟩
  have r:=Jt p q;clear q
  go_wp2_with fail
  refine(R.out _ r).mono ?_
  rintro e w4 ⟨rfl,s⟩
  have y:=Jt r s;clear s
  go_wp2_with fail
  refine(HG.out _ y).mono ?_
  rintro e L ⟨rfl,J⟩
  have z:=Jt y J;clear J
  obtain⟨v,G,hF,af,M,hr⟩:=(ZF _ _).upd H z (by simp)
  obtain⟨A,c,rfl,hc⟩:=hr.form'
  rw[Xb]at*
  have c0:=Zc (i:=0) M rfl
  have f0:L.frozen? ⟨b,0,none⟩=false:=Zk M
  simp only[List.getElem_toArray,Xv]at c0
  obtain⟨w6,P⟩:=Je (L.alloc (.cells #[.int .i64 id, .int .i64 g, .string ⟨key.toArray⟩] 220))
  have E:=Ja P
  have ah:=(E.block b (Jg M) (by simp)).trans M
  have aj:Zb w6 L.heap.size 0 (ZaJ ⟨id,g,key⟩):=by rw[P];exact Zb.of_block (Za _)
  have ae:=(Zd _ _ _ _).upd hr E (by simp)
  have HB:=D ah;have HR:=D ae;have al:=D aj;have HF:=D hF;have ac:=D af
  have ad:=D (show b<w.heap.size from(ZF _ _).lt H b (by rw[hF];simp))
  clear M hr ah aj ae hF af;change Hid _ at P E
  go_wp2_with(rw[←P.out];refine Zn w6 rfl (.tmp 39) (.tmp 44) 141 rfl 220 Tryz.underlying141 Zmx rfl (by omega) (by omega) _ (l.map ZaJ) G rfl HR L.heap.size 1 (ZaJ ⟨id,g,key⟩) rfl al rfl (by simp[ZaJ,Value.oneCell']) (by rw[Xb];omega) ?_;intro v' w7 G' aa Z ai;obtain⟨A',c',e7,_⟩:=aa.form';rw[Xd,Xb,List.length_singleton]at e7;subst e7;have ab:=D ((Z.block b (Jg HB) ac).trans HB);have c7:=Jc 0 ab.out;have f7:w7.frozen? ⟨b,0,none⟩=false:=Zk ab.out;have ak:=D aa;have am:=D Z;have ag:=D ai;clear aa Z ai)
  go_ret
  obtain⟨g1,g2⟩:=ZbX (cs:=fun v=> #[v]) (T:= 143) ac ad (Ze (i:=0) ab _) ((Zd _ _ _ _).upd ak ((Zg.refl [b] w7).setCell (.inr (by simp)) _) (fun x hx I=>by
    rw[Jm I]at hx
    rcases ag b hx with N|N
    ·exact ac N
    ·have:=E.size;have:=z.size;have:=ad.out;omega))
   ((((z.trans E (by simp)).weaken (G:=b::G) (by simp)).trans am (fun x hx=> .inr (by simp[hx]))).setCell (.inr (by simp)) _) (fun x hx=>by
    rcases ag x hx with N|N
    ·exact .inl N
    ·right;have:=E.size;have:=z.size;omega)
  refine⟨rfl,_,?_,by rw[HF.out];exact g2⟩
  have e9:(l++[(⟨id,g,key⟩:Y8)]).map ZaJ=l.map ZaJ++[ZaJ ⟨id,g,key⟩]:=by simp
  unfold YU
  rw[e9]
  exact g1
def Zg5 (l:List Y8) (id:Int):List Y8×Bool:=match l.findIdx? (fun o=>o.id==id)with|some i=>(Zaa l i,true)|none=>(l,false)
theorem ZnM (h:YU b l w F) (hl:l.length≤1000000) (id:Int):
  Calls Tryz.prog 137 #[.pointer (some ⟨b,0,none⟩), .int .i64 id] w fun e w'=>e= .returned (.bool (Zg5 l id).2)∧∃F',YU b (Zg5 l id).1 w' F'∧Zi w w' F F':=by
 have c:=Znt h id
 have H:=D h
 cases hq:l.findIdx? (fun o:Y8=>o.id==id)with
 |none=>
  rw[Yo hq]at c
  have d:Zg5 l id=(l,false):=by unfold Zg5;rw[hq]
  rw[d]
  have z:=D c
  clear hq c d h
  go_enter Tryz.func137,Tryz.ntmps137
  go_wp2_with fail
  refine z.out.mono ?_
  rintro e w2 ⟨rfl,a⟩
  have m:=D a
  clear a
  go_wp2_with fail
  go_ret
  exact⟨rfl,F,(ZF _ _).upd H m (by simp),⟨m.weaken (by simp),fun k hk=> .inl hk⟩⟩
 |some i=>
  rw[Yw hq]at c
  have O:=Yv hq
  have d:Zg5 l id=(l.eraseIdx i,true):=by unfold Zg5;rw[hq];simp only[Ya]
  rw[d]
  have z:=D c
  obtain⟨v,G,Q,I,P,y⟩:=h
  obtain⟨g,n,rfl⟩:∃g n,v= .slice (some ⟨g,0,none⟩) l.length n:=by
   rcases y.form with⟨_,S,_⟩|⟨g,n,_,h1,_⟩
   ·rw[List.map_eq_nil_iff]at S;subst S;simp at O
   ·exact⟨g,n,by rw[h1,Xb]⟩
  have C:=D P;have R:=D y;have HF:=D Q;have K:=D I
  clear hq c d P y Q I
  go_enter Tryz.func137,Tryz.ntmps137
  go_wp2_with fail
  refine z.out.mono ?_
  rintro e w2 ⟨rfl,a⟩
  have m:=D a
  have s:=(a.block b (Jg C) (by simp)).trans C.out
  have M:=Zc (i:=0) s rfl
  simp only[List.getElem_toArray,Xv]at M
  have E:=(Zd _ _ _ _).upd R a (by simp)
  have hd:=ZpM (by rw[Xb];exact E) (Zdn ZoI l) (i:=i) (by rw[Xb];exact O)
  rw[Xb]at hd
  have HD:=D hd;have J:=D s
  clear a s E hd
  go_wp2_with fail
  refine HD.out.mono ?_
  rintro e N ⟨rfl,L,q⟩
  have p:G=[g]:=by obtain⟨_,_,h2,_⟩:=R.block;exact h2
  have r:b≠g:=fun e=>K.out (by rw[p,e];simp)
  have j:=(q.block b (Jg J) (by simpa using r)).trans J.out
  have c3:=Jc 0 j
  have f3:N.frozen? ⟨b,0,none⟩=false:=Zk j
  have V:=D j;have W:=D L;have X:=D q;have Y:=D r
  clear j L q r M;change Hid _ at p
  go_wp2_with fail
  go_ret
  obtain⟨g1,Z⟩:=ZbX (G:=G) (cs:=fun v=> #[v]) (T:= 143) K (Jg C) (Ze (i:=0) V _) ((Zd _ _ _ _).upd W ((Zg.refl [b] N).setCell (.inr (by simp)) _) (fun x hx=>by
    rw[Jm hx];simpa using Y.symm))
   (((m.weaken (G:=b::G) (by simp)).trans X (fun x hx=> .inr (by rw[p.out];simp at hx;simp[hx]))).setCell (.inr (by simp)) _) (fun x hx=> .inl (by rw[p.out];exact hx))
  refine⟨rfl,_,?_,by rw[HF.out];exact Z⟩
  unfold YU
  rw[←Y0]
  exact g1
theorem Zk1:(Tryz.prog.info? 56).map (fun i=>(i.zero,i.size,i.bytes))=some (some (.agg #[.int .i64 0, .int .u64 0, .int .i64 0, .int .i64 0, .int .i64 0, .int .i64 0, .int .i64 0]),7,56):=by kernel_rfl
theorem ZjV:Zu Tryz.prog 56 7=true:=by kernel_rfl
theorem ZnG:(Tryz.prog.info? 98).map (fun i=>(i.zero,i.size,i.bytes))=some (some (.pointer none),1,8):=by kernel_rfl
end Go.Proofs.YtbgbeddbfaopgaaGreatDoor
namespace Go.Lk
open Go.RowKit
theorem Zi.off {L:Nat} (h:Zi w w1 F F1) (hL:L<w.heap.size) (hn:L∉F):w1.heap[L]? =w.heap[L]?∧L∉F1:=
 ⟨h.upd.block L hL hn,fun hm=>by
  rcases h.new L hm with h1|h1
  ·exact hn h1
  ·omega⟩
theorem Zi.upd0 (h:Zi w w1 F F1) (hu:Zg [] w1 w2):Zi w w2 F F1:=⟨h.upd.trans hu (by simp),h.new⟩
theorem Zi.pre0 (hu:Zg [] w w1) (h:Zi w1 w2 F F1):Zi w w2 F F1:=
 ⟨(hu.weaken (by simp)).trans h.upd (fun k hk=> .inr hk),fun k hk=>by
  rcases h.new k hk with h1|h1
  ·exact .inl h1
  ·right;have:=hu.size;omega⟩
end Go.Lk
namespace Go.Proofs.YtbgbeddbfaopgaaGreatDoor
open Go.RowKit Go.Lk
structure YI where
 clock:Nat
 pool:Nat
 queue:Nat
 cache:Nat
 wheel:Nat
 groups:Nat
 signals:Nat
 shares:Nat
 book:Nat
 fps:List Nat
 qps:List Nat
abbrev Zhs (p:Nat):Value:= .pointer (some ⟨p,0,none⟩)
abbrev Zda (p:Nat):List Value:=[.pointer (some ⟨p,0,none⟩)]
def Y3 (s:Zf) (P:YI) (va vp vl:Value):List Value:=
 [.int .i64 s.conf.total, .int .u64 s.conf.aging, .int .i64 s.conf.high, .int .i64 s.conf.low, .int .u64 s.conf.idle, .int .i64 s.conf.cache, .int .u64 s.conf.timeout,
  Zhs P.clock,Zhs P.pool,Zhs P.queue,Zhs P.cache,Zhs P.wheel,Zhs P.groups,Zhs P.signals,Zhs P.shares,Zhs P.book, .int .i64 s.made,va,vp,vl, .int .i64 s.acts, .int .i64 s.all.length]
def Y7 (e:ZhP):List Value:=[.int .i64 e.act, .int .u64 e.at_, .int .i64 e.kind, .int .i64 e.id, .int .i64 e.pre, .int .i64 e.conn, .int .i64 e.n]
def ZbV (p:ZM):List Value:=[.int .i64 p.num, .int .i64 p.item, .int .i64 p.conn, .string ⟨p.key.toArray⟩]
def ZaG (f:ZE) (lk:Bool) (vh:Value) (lb:Nat) (vb:Value):List Value:=
 [.int .i64 f.id, .string ⟨f.req.method.toArray⟩, .string ⟨f.req.url.toArray⟩, .string ⟨f.req.origin.toArray⟩, .int .i64 f.req.mode, .bool f.req.creds,vh, .int .i64 f.req.cls, .int .u64 f.req.timeout, .int .i64 f.req.group, .int .i64 f.req.signal,
  .string ⟨f.key.toArray⟩,Zhs lb, .int .u64 f.since, .int .i64 f.timer, .bool f.cleared, .int .i64 f.pre, .int .i64 f.conn,vb, .int .u32 (if f.ended&& !lk then 1 else 0), .int .i32 (if lk then 1 else 0), .int .u32 0]
def Zbf (vb:Value):Option Za7→YG
 |none=>fun w F=>F=[]∧vb= .pointer none
 |some s=>fun w F=>∃sb b rb H L:Nat,F=[sb,b,rb]∧vb=Zhs sb∧s.high=H∧s.low=L∧ZeM w sb b rb H L s.state s.paused (if s.state=3 then 1 else 0) s.q∧(s.state=3→s.paused=false∧s.q=[])
theorem Zbu (vb:Value) (o:Option Za7):(Zbf vb o).Local:=by
 cases o with
 |none=>exact⟨(by rintro w F ⟨rfl,h⟩ k a;cases a),(by rintro w m F G ⟨rfl,h⟩ d c;exact⟨rfl,h⟩)⟩
 |some s=>
  refine⟨?_,?_⟩
  ·rintro w F ⟨e,b,f,H,L,rfl,_,_,_,h,_⟩ k a
   have:=h.ring.lt
   simp only[List.mem_cons,List.not_mem_nil,or_false]at a
   rcases a with rfl|rfl|rfl
   ·exact lt_of_block h.hb
   ·exact this.1
   ·exact this.2
  ·rintro w m F G ⟨e,b,f,H,L,rfl,j,l,g,h,i⟩ d c
   exact⟨e,b,f,H,L,rfl,j,l,g,h.upd d (c _ (by simp)) (c _ (by simp)) (c _ (by simp)),i⟩
structure YS (w:World) (p:Nat) (f:ZE) (lk:Bool) (vh:Value) (lb:Nat) (vb:Value) (Gh Gb:List Nat):Prop where
 blk:w.heap[p]? =some (.cells (ZaG f lk vh lb vb).toArray 112 (0,0))
 hdrs:Zby vh f.req.headers w Gh
 life:Zbr w lb f.state (if ZcE f.state then 1 else 0) (if ZcE f.state then 1 else 0)
 body:Zbf vb f.body w Gb
 pl:p≠lb
 ph:p∉Gh
 pb:p∉Gb
 lh:lb∉Gh
 lbb:lb∉Gb
 hb:Z8 Gh Gb
abbrev ZaY (p lb:Nat) (Gh Gb:List Nat):List Nat:=p::lb::(Gh++Gb)
theorem YS.upd (h:YS w p f lk vh lb vb Gh Gb) (hu:Zg G w w1) (hd:∀k∈ZaY p lb Gh Gb,k∉G):YS w1 p f lk vh lb vb Gh Gb:=
 {h with
  blk:=(hu.block p (Jg h.blk) (hd p (by simp))).trans h.blk
  hdrs:=(Yh _ _).upd h.hdrs hu (fun k hk=>hd k (by simp[hk]))
  life:=h.life.upd hu (hd lb (by simp))
  body:=(Zbu _ _).upd h.body hu (fun k hk=>hd k (by simp[hk]))}
theorem YS.lt (h:YS w p f lk vh lb vb Gh Gb):∀k∈ZaY p lb Gh Gb,k<w.heap.size:=fun k hk=>by
 simp only[ZaY,List.mem_cons,List.mem_append]at hk
 rcases hk with rfl|rfl|hk|hk
 ·exact(Jg h.blk)
 ·exact(Jg h.life.hb)
 ·exact(Yh _ _).lt h.hdrs k hk
 ·exact(Zbu _ _).lt h.body k hk
def Zcq (p:Nat) (f:ZE) (lk:Bool):YG:=fun w F=>∃vh lb vb Gh Gb,F=ZaY p lb Gh Gb∧YS w p f lk vh lb vb Gh Gb
theorem ZhI (p:Nat) (f:ZE) (lk:Bool):(Zcq p f lk).Local where
 lt:=by rintro w F ⟨vh,lb,vb,Gh,Gb,rfl,h⟩;exact h.lt
 upd:=by rintro w w1 F G ⟨vh,lb,vb,Gh,Gb,rfl,h⟩ hu hF;exact⟨vh,lb,vb,Gh,Gb,rfl,h.upd hu hF⟩
theorem YS.setBlk {lk lk':Bool} (h:YS w p f lk vh lb vb Gh Gb) (hu:Zg [p] w w1)
   (hb:w1.heap[p]? =some (.cells (ZaG f' lk' vh lb vb).toArray 112 (0,0))) (e1:f'.req.headers=f.req.headers) (e2:f'.state=f.state) (e3:f'.body=f.body):
   YS w1 p f' lk' vh lb vb Gh Gb∧Zi w w1 (ZaY p lb Gh Gb) (ZaY p lb Gh Gb):=
 ⟨{h with
   blk:=hb
   hdrs:=by rw[e1];exact(Yh _ _).upd h.hdrs hu (fun k hk hm=>h.ph (by rw[Jm hm]at hk;exact hk))
   life:=by rw[e2];exact h.life.upd hu (fun hm=>h.pl (Jm hm).symm)
   body:=by rw[e3];exact(Zbu _ _).upd h.body hu (fun k hk hm=>h.pb (by rw[Jm hm]at hk;exact hk))},
  Zi.of_upd (hu.weaken (fun k hk=> .inr (by simp at hk;simp[hk])))⟩
theorem YS.setLife (h:YS w p f lk vh lb vb Gh Gb) (st:Int) (hu:Zg [lb] w w1)
   (hl:Zbr w1 lb st (if ZcE st then 1 else 0) (if ZcE st then 1 else 0)):
   YS w1 p {f with state:=st} lk vh lb vb Gh Gb∧Zi w w1 (ZaY p lb Gh Gb) (ZaY p lb Gh Gb):=
 ⟨{h with
   blk:=(hu.block p (Jg h.blk) (by simpa using h.pl)).trans h.blk
   hdrs:=(Yh _ _).upd h.hdrs hu (fun k hk hm=>h.lh (by rw[Jm hm]at hk;exact hk))
   life:=hl
   body:=(Zbu _ _).upd h.body hu (fun k hk hm=>h.lbb (by rw[Jm hm]at hk;exact hk))},
  Zi.of_upd (hu.weaken (fun k hk=> .inr (by simp at hk;simp[hk])))⟩
theorem YS.setBody (h:YS w p f lk vh lb vb Gh Gb) (o:Option Za7) (hu:Zg Gb w w1)
   (hl:Zbf vb o w1 Gb):YS w1 p {f with body:=o} lk vh lb vb Gh Gb∧Zi w w1 (ZaY p lb Gh Gb) (ZaY p lb Gh Gb):=
 ⟨{h with
   blk:=(hu.block p (Jg h.blk) h.pb).trans h.blk
   hdrs:=(Yh _ _).upd h.hdrs hu (fun k hk hm=>h.hb k hk hm)
   life:=h.life.upd hu h.lbb
   body:=hl},
  Zi.of_upd (hu.weaken (fun k hk=> .inr (by simp[hk])))⟩
theorem YS.newBody {vb vb':Value} {Gh Gb Gb':List Nat} (h:YS w p f lk vh lb vb Gh Gb) (o:Option Za7) (hu:Zg [] w w1)
  (hl:Zbf vb' o w1 Gb') (hn:∀k∈Gb',w.heap.size≤k) (hu2:Zg [p] w1 w2) (hb:w2.heap[p]? =some (.cells (ZaG f lk vh lb vb').toArray 112 (0,0))):
  YS w2 p {f with body:=o} lk vh lb vb' Gh Gb'∧Zi w w2 (ZaY p lb Gh Gb) (ZaY p lb Gh Gb'):=by
 have d:=h.upd hu (by simp)
 have c:=h.lt
 have e:p∉Gb':=fun b=>by have:=hn p b;have:=c p (by simp);omega
 refine⟨{d with
  blk:=hb
  hdrs:=(Yh _ _).upd d.hdrs hu2 (fun k a b=>h.ph (by rw[Jm b]at a;exact a))
  life:=d.life.upd hu2 (fun b=>h.pl (Jm b).symm)
  body:=(Zbu _ _).upd hl hu2 (fun k a b=>e (by rw[Jm b]at a;exact a))
  pb:=e
  lbb:=fun b=>by have:=hn lb b;have:=c lb (by simp);omega
  hb:=fun k a b=>by have:=hn k b;have:=c k (by simp[a]);omega},(hu.weaken (by simp)).trans hu2 (fun k a=> .inr (by simp at a;simp[a])),fun k a=> ?_⟩
 simp only[ZaY,List.mem_cons,List.mem_append]at a⊢
 rcases a with a|a|a|a
 ·exact .inl (.inl a)
 ·exact .inl (.inr (.inl a))
 ·exact .inl (.inr (.inr (.inl a)))
 ·exact .inr (hn k a)
def Zbp (ps:List Nat) (lk:Option Nat) (l:List ZE):List YG:=(ps.zip l).mapIdx fun i x=>Zcq x.1 x.2 (lk==some i)
def ZcQ (q:Nat) (x:ZM):YG:=ZaL q (ZbV x).toArray 259
def YM (qs:List Nat) (l:List ZM):List YG:=List.zipWith ZcQ qs l
theorem Zrc {α β:Type} {ps:List α} {l:List β} {i j:Nat} {x:β} (h:i≠j):(ps.zip (l.set i x))[j]? =(ps.zip l)[j]? :=by
 unfold List.zip
 rw[List.getElem?_zipWith,List.getElem?_zipWith,Xt h]
theorem ZfF {ps:List Nat} {l:List ZE} {i p:Nat} (hp:ps[i]? =some p) (hf:l[i]? =some f):(Zbp ps lk l)[i]? =some (Zcq p f (lk==some i)):=by
 unfold Zbp
 have a:(ps.zip l)[i]? =some (p,f):=List.getElem?_zip_eq_some.2 ⟨hp,hf⟩
 rw[List.getElem?_mapIdx,a];rfl
theorem ZcK (ps:List Nat) (lk:Option Nat) (l:List ZE):∀A∈Zbp ps lk l,A.Local:=by
 intro A a
 unfold Zbp at a
 obtain⟨i,h,rfl⟩:=List.mem_mapIdx.1 a
 exact ZhI _ _ _
theorem Zm5 {ps:List Nat} {lk lk':Option Nat} {l:List ZE} {i p:Nat} (hp:ps[i]? =some p) (hf:l[i]? =some f) (hlk:∀j,j≠i→(lk'==some j)=(lk==some j)):
  Zbp ps lk' (l.set i f')=(Zbp ps lk l).set i (Zcq p f' (lk'==some i)):=by
 apply List.ext_getElem?
 intro j
 have b:i<l.length:=(Jk hf)
 have c:i<ps.length:=(Jk hp)
 by_cases a:i=j
 ·subst a
  rw[ZfF (f:=f') hp (by rw[List.getElem?_set_self b]),List.getElem?_set_self (by unfold Zbp;simp;omega)]
 ·rw[Xt a]
  unfold Zbp
  rw[List.getElem?_mapIdx,List.getElem?_mapIdx,Zrc a,hlk j (fun e=>a e.symm)]
theorem ZlP {ps:List Nat} {l:List ZE} (h:ps.length=l.length) (p:Nat) (f:ZE):Zbp (ps++[p]) lk (l++[f])=Zbp ps lk l++[Zcq p f (lk==some l.length)]:=by
 unfold Zbp
 rw[List.zip_append h,List.mapIdx_append]
 congr 1
 simp[h]
theorem Zdl {qs:List Nat} {l:List ZM} {i q:Nat} (hq:qs[i]? =some q) (hx:l[i]? =some x):(YM qs l)[i]? =some (ZcQ q x):=by
 unfold YM
 rw[List.getElem?_zipWith,hq,hx]
theorem Zbv (qs:List Nat) (l:List ZM):∀A∈YM qs l,A.Local:=by
 intro A b
 obtain⟨i,a⟩:=List.getElem?_of_mem b
 unfold YM at a
 rw[List.getElem?_zipWith]at a
 split at a
 ·injection a with a;rw[←a];exact Zc7 _ _ _
 ·cases a
theorem ZkW {qs:List Nat} {l:List ZM} (h:qs.length=l.length) (q:Nat) (x:ZM):YM (qs++[q]) (l++[x])=YM qs l++[ZcQ q x]:=by
 unfold YM
 rw[List.zipWith_append h];rfl
theorem Zk3 {qs:List Nat} {l:List ZM} {i q:Nat} (hq:qs[i]? =some q) (x:ZM):YM qs (l.set i x)=(YM qs l).set i (ZcQ q x):=by
 apply List.ext_getElem?
 intro j
 unfold YM
 by_cases a:i=j
 ·subst a
  by_cases b:i<l.length
  ·have c:i<qs.length:=(Jk hq)
   rw[List.getElem?_zipWith,List.getElem?_set_self b,List.getElem?_set_self (by simp;omega),hq]
  ·rw[List.getElem?_eq_none (by simp;omega),List.getElem?_eq_none (by simp;omega)]
 ·rw[Xt a,List.getElem?_zipWith,List.getElem?_zipWith,Xt a]
def Zc5 (b t:Nat):YG:=fun w F=>F=[b]∧Zga w b t
theorem Yt (b t:Nat):(Zc5 b t).Local where
 lt:=by rintro w F ⟨rfl,h⟩ k hk;rw[Jm hk];exact lt_of_block h.1
 upd:=by rintro w w1 F G ⟨rfl,h⟩ hu hF;exact⟨rfl,(hu.block b (Jg h.1) (hF b (by simp))).trans h.1,h.2⟩
theorem Yq (b:Nat) (last:Int) (l:List ZH):(Zcl b last l).Local:=ZdZ _ _ _ _ _ _ _ _
def Z0 (b:Nat) (P:YI) (lk:Option Nat) (s:Zf) (va vp vl:Value):List YG:=
 [ZaL b (Y3 s P va vp vl).toArray 84,Zj 98 1 va (P.fps.map Zda),Zj 178 1 vp (P.qps.map Zda),Zj 56 7 vl (s.log.map Y7),
  Zc5 P.clock s.now,YE P.pool s.pool,YA P.queue s.conf.aging s.queue,Yk P.cache (max 1 (min s.conf.cache 64)) s.cache,Y9 P.wheel 256 s.tlast s.timers,
  ZcW P.groups s.groups,Zec P.signals s.signals,Zcl P.shares s.slast s.shares,YU P.book s.book,YG.list (Zbp P.fps lk s.all),YG.list (YM P.qps s.pres)]
theorem Yi (b:Nat) (P:YI) (lk:Option Nat) (s:Zf) (va vp vl:Value):∀A∈Z0 b P lk s va vp vl,A.Local:=by
 intro A a
 simp only[Z0,List.mem_cons,List.not_mem_nil,or_false]at a
 rcases a with rfl|rfl|rfl|rfl|rfl|rfl|rfl|rfl|rfl|rfl|rfl|rfl|rfl|rfl|rfl
 ·exact Zc7 _ _ _
 ·exact Zd _ _ _ _
 ·exact Zd _ _ _ _
 ·exact Zd _ _ _ _
 ·exact Yt _ _
 ·exact ZZ _ _
 ·exact ZT _ _ _
 ·exact ZK _ _ _
 ·exact Yg _ _ _ _
 ·exact Yr _ _
 ·exact Yz _ _
 ·exact Yq _ _ _
 ·exact ZF _ _
 ·exact YG.list_local (ZcK _ _ _)
 ·exact YG.list_local (Zbv _ _)
structure Zh (w:World) (b:Nat) (P:YI) (lk:Option Nat) (s:Zf) (va vp vl:Value) (F:List Nat):Prop where
 lay:YG.list (Z0 b P lk s va vp vl) w F
 fl:P.fps.length=s.all.length
 ql:P.qps.length=s.pres.length
 two:∀k∈F,2≤k
theorem Zh.lt (h:Zh w b P lk s va vp vl F):∀k∈F,k<w.heap.size:=(YG.list_local (Yi _ _ _ _ _ _ _)).lt h.lay
theorem Zh.upd (h:Zh w b P lk s va vp vl F) (hu:Zg G w w1) (hG:∀k∈F,k∉G):Zh w1 b P lk s va vp vl F:=
 {h with lay:=(YG.list_local (Yi _ _ _ _ _ _ _)).upd h.lay hu hG}
theorem Zh.upd0 (h:Zh w b P lk s va vp vl F) (hu:Zg [] w w1):Zh w1 b P lk s va vp vl F:=h.upd hu (by simp)
theorem Zh.blk (h:Zh w b P lk s va vp vl F):
  w.heap[b]? =some (.cells (Y3 s P va vp vl).toArray 84 (0,0))∧b∈F:=by
 obtain⟨e,G,rfl,_,_,a,c⟩:=YG.list_get h.lay (i:=0) rfl
 obtain⟨rfl,d⟩:=a
 exact⟨d,c b (by simp)⟩
theorem Zh.step (h:Zh w b P lk s va vp vl F) {k:Nat} (hk:(Z0 b P lk s va vp vl)[k]? =some A):
  ∃G,A w G∧(∀q∈G,q∈F)∧∀(w1:World) (A1:YG) (G1:List Nat) (P':YI) (lk':Option Nat) (s':Zf) (va' vp' vl':Value),A1 w1 G1→Zi w w1 G G1→Z0 b P' lk' s' va' vp' vl'=(Z0 b P lk s va vp vl).set k A1→
   P'.fps.length=s'.all.length→P'.qps.length=s'.pres.length→∃F1,Zh w1 b P' lk' s' va' vp' vl' F1∧Zi w w1 F F1:=by
 obtain⟨G,g,i,e⟩:=YG.list_step (Yi _ _ _ _ _ _ _) h.lay hk
 refine⟨G,g,i,fun w1 A1 G1 P' lk' s' va' vp' vl' ha hg j f l=> ?_⟩
 obtain⟨F1,a,d⟩:=e w1 A1 G1 ha hg
 rw[←j]at a
 refine⟨F1,⟨a,f,l,fun k hk=> ?_⟩,d⟩
 rcases d.new k hk with c|c
 ·exact h.two k c
 ·have m:=h.two b h.blk.2;have n:=h.lt b h.blk.2;omega
section
variable {w:World} {b:Nat} {P:YI} {lk:Option Nat} {s:Zf} {va vp vl:Value} {F:List Nat}
theorem Zh.clock (h:Zh w b P lk s va vp vl F):Zga w P.clock s.now∧P.clock∈F∧∀(w1:World) (t:Nat),Zga w1 P.clock t→Zg [P.clock] w w1→∃F1,Zh w1 b P lk {s with now:=t} va vp vl F1∧Zi w w1 F F1:=by
 obtain⟨G,⟨rfl,d⟩,a,c⟩:=h.step (k:=4) rfl
 exact⟨d,a _ (by simp),fun w1 t ha e=>c w1 (Zc5 P.clock t) _ P lk {s with now:=t} va vp vl ⟨rfl,ha⟩ (Zi.of_upd e) rfl h.fl h.ql⟩
theorem Zh.pool (h:Zh w b P lk s va vp vl F):∃G,YE P.pool s.pool w G∧(∀q∈G,q∈F)∧∀(w1:World) (x:ZaX) (G1:List Nat),YE P.pool x w1 G1→Zi w w1 G G1→∃F1,Zh w1 b P lk {s with pool:=x} va vp vl F1∧Zi w w1 F F1:=by
 obtain⟨G,d,a,c⟩:=h.step (k:=5) rfl
 exact⟨G,d,a,fun w1 x G1 ha hg=>c w1 _ _ P lk {s with pool:=x} va vp vl ha hg rfl h.fl h.ql⟩
theorem Zh.queue (h:Zh w b P lk s va vp vl F):∃G,YA P.queue s.conf.aging s.queue w G∧(∀q∈G,q∈F)∧∀(w1:World) (x:List ZQ) (G1:List Nat),YA P.queue s.conf.aging x w1 G1→Zi w w1 G G1→∃F1,Zh w1 b P lk {s with queue:=x} va vp vl F1∧Zi w w1 F F1:=by
 obtain⟨G,d,a,c⟩:=h.step (k:=6) rfl
 exact⟨G,d,a,fun w1 x G1 ha hg=>c w1 _ _ P lk {s with queue:=x} va vp vl ha hg rfl h.fl h.ql⟩
theorem Zh.cache (h:Zh w b P lk s va vp vl F):∃G,Yk P.cache (max 1 (min s.conf.cache 64)) s.cache w G∧(∀q∈G,q∈F)∧∀(w1:World) (x:List Zr) (G1:List Nat),Yk P.cache (max 1 (min s.conf.cache 64)) x w1 G1→Zi w w1 G G1→∃F1,Zh w1 b P lk {s with cache:=x} va vp vl F1∧Zi w w1 F F1:=by
 obtain⟨G,d,a,c⟩:=h.step (k:=7) rfl
 exact⟨G,d,a,fun w1 x G1 ha hg=>c w1 _ _ P lk {s with cache:=x} va vp vl ha hg rfl h.fl h.ql⟩
theorem Zh.wheel (h:Zh w b P lk s va vp vl F):∃G,Y9 P.wheel 256 s.tlast s.timers w G∧(∀q∈G,q∈F)∧∀(w1:World) (x:List ZC) (y:Int) (G1:List Nat),Y9 P.wheel 256 y x w1 G1→Zi w w1 G G1→∃F1,Zh w1 b P lk {s with timers:=x,tlast:=y} va vp vl F1∧Zi w w1 F F1:=by
 obtain⟨G,d,a,c⟩:=h.step (k:=8) rfl
 exact⟨G,d,a,fun w1 x y G1 ha hg=>c w1 _ _ P lk {s with timers:=x,tlast:=y} va vp vl ha hg rfl h.fl h.ql⟩
theorem Zh.groups (h:Zh w b P lk s va vp vl F):∃gl G,gl.map (·.2)=s.groups∧YR P.groups gl w G∧(∀q∈G,q∈F)∧∀(w1:World) (x:List (Value×Z5)) (G1:List Nat),YR P.groups x w1 G1→Zi w w1 G G1→∃F1,Zh w1 b P lk {s with groups:=x.map (·.2)} va vp vl F1∧Zi w w1 F F1:=by
 obtain⟨G,a,c,d⟩:=h.step (k:=9) rfl
 obtain⟨gl,e,a⟩:=a
 exact⟨gl,G,e,a,c,fun w1 x G1 ha hg=>d w1 (ZcW P.groups (x.map (·.2))) _ P lk {s with groups:=x.map (·.2)} va vp vl ⟨x,rfl,ha⟩ hg rfl h.fl h.ql⟩
theorem Zh.signals (h:Zh w b P lk s va vp vl F):∃gl G,gl.map (·.2)=s.signals∧ZdK P.signals gl w G∧(∀q∈G,q∈F)∧∀(w1:World) (x:List (Value×ZgP)) (G1:List Nat),ZdK P.signals x w1 G1→Zi w w1 G G1→∃F1,Zh w1 b P lk {s with signals:=x.map (·.2)} va vp vl F1∧Zi w w1 F F1:=by
 obtain⟨G,a,c,d⟩:=h.step (k:=10) rfl
 obtain⟨gl,e,a⟩:=a
 exact⟨gl,G,e,a,c,fun w1 x G1 ha hg=>d w1 (Zec P.signals (x.map (·.2))) _ P lk {s with signals:=x.map (·.2)} va vp vl ⟨x,rfl,ha⟩ hg rfl h.fl h.ql⟩
theorem Zh.shares (h:Zh w b P lk s va vp vl F):∃gl G,gl.map (·.2)=s.shares∧YB P.shares s.slast gl w G∧(∀q∈G,q∈F)∧∀(w1:World) (x:List (Value×ZH)) (y:Int) (G1:List Nat),YB P.shares y x w1 G1→Zi w w1 G G1→∃F1,Zh w1 b P lk {s with shares:=x.map (·.2),slast:=y} va vp vl F1∧Zi w w1 F F1:=by
 obtain⟨G,a,c,d⟩:=h.step (k:=11) rfl
 obtain⟨gl,e,a⟩:=a
 exact⟨gl,G,e,a,c,fun w1 x y G1 ha hg=>d w1 (Zcl P.shares y (x.map (·.2))) _ P lk {s with shares:=x.map (·.2),slast:=y} va vp vl ⟨x,rfl,ha⟩ hg rfl h.fl h.ql⟩
theorem Zh.book (h:Zh w b P lk s va vp vl F):∃G,YU P.book s.book w G∧(∀q∈G,q∈F)∧∀(w1:World) (x:List Y8) (G1:List Nat),YU P.book x w1 G1→Zi w w1 G G1→∃F1,Zh w1 b P lk {s with book:=x} va vp vl F1∧Zi w w1 F F1:=by
 obtain⟨G,d,a,c⟩:=h.step (k:=12) rfl
 exact⟨G,d,a,fun w1 x G1 ha hg=>c w1 _ _ P lk {s with book:=x} va vp vl ha hg rfl h.fl h.ql⟩
theorem Zh.main (h:Zh w b P lk s va vp vl F) (hu:Zg [b] w w1) (hb:w1.heap[b]? =some (.cells (Y3 s' P va vp vl).toArray 84 (0,0))) (e:∀va vp vl,Z0 b P lk s' va vp vl=(Z0 b P lk s va vp vl).set 0 (ZaL b (Y3 s' P va vp vl).toArray 84))
  (e1:s'.all=s.all) (e2:s'.pres=s.pres):Zh w1 b P lk s' va vp vl F∧Zi w w1 F F:=by
 obtain⟨c,g,a⟩:=h.lay
 have k:=a.lies 0 _ (c[0]'(by rw[a.len];simp[Z0])) rfl (Xa _)
 obtain⟨f,_⟩:=k
 have d:=a.step (Yi _ _ _ _ _ _ _) (i:=0) (F:=[b]) (by rw[Xa (by rw[a.len];simp[Z0]),f]) (A1:=ZaL b (Y3 s' P va vp vl).toArray 84) (w1:=w1) (F1:=[b]) ⟨rfl,hb⟩ (Zi.of_upd hu)
 have j:c.set 0 [b]=c:=by rw[←f];simp
 rw[j,←g,←e]at d
 exact⟨⟨⟨c,g,d.1⟩,by rw[e1];exact h.fl,by rw[e2];exact h.ql,h.two⟩,d.2⟩
theorem Zh.fetch (h:Zh w b P lk s va vp vl F) {i p:Nat} (hp:P.fps[i]? =some p) (hf:s.all[i]? =some f):
  ∃vh lb vb Gh Gb,YS w p f (lk==some i) vh lb vb Gh Gb∧(∀q∈ZaY p lb Gh Gb,q∈F)∧∀(w1:World) (f':ZE) (lk':Option Nat) (vh':Value) (lb':Nat) (vb':Value) (Gh' Gb':List Nat),(∀j,j≠i→(lk'==some j)=(lk==some j))→
   YS w1 p f' (lk'==some i) vh' lb' vb' Gh' Gb'→Zi w w1 (ZaY p lb Gh Gb) (ZaY p lb' Gh' Gb')→∃F1,Zh w1 b P lk' {s with all:=s.all.set i f'} va vp vl F1∧Zi w w1 F F1:=by
 obtain⟨G,m,r,d⟩:=h.step (k:=13) rfl
 obtain⟨y,e,t,o⟩:=YG.list_step (ZcK _ _ _) m (ZfF (lk:=lk) hp hf)
 obtain⟨vh,lb,vb,Gh,Gb,rfl,g⟩:=e
 refine⟨vh,lb,vb,Gh,Gb,g,fun q n=>r q (t q n),fun w1 f' lk' vh' lb' vb' Gh' Gb' c ha hg=> ?_⟩
 obtain⟨l,a,x⟩:=o w1 (Zcq p f' (lk'==some i)) _ ⟨_,_,_,_,_,rfl,ha⟩ hg
 rw[←Zm5 hp hf c]at a
 refine d w1 (YG.list (Zbp P.fps lk' (s.all.set i f'))) l P lk' {s with all:=s.all.set i f'} va vp vl a x ?_ (by simpa using h.fl) h.ql
 unfold Z0 Y3
 simp only[List.length_set,List.set_cons_succ,List.set_cons_zero]
theorem Zh.flight (h:Zh w b P lk s va vp vl F) {i q:Nat} (hq:P.qps[i]? =some q) (hx:s.pres[i]? =some x):
  w.heap[q]? =some (.cells (ZbV x).toArray 259 (0,0))∧q∈F∧∀(w1:World) (x':ZM),w1.heap[q]? =some (.cells (ZbV x').toArray 259 (0,0))→Zg [q] w w1→
   ∃F1,Zh w1 b P lk {s with pres:=s.pres.set i x'} va vp vl F1∧Zi w w1 F F1:=by
 obtain⟨G,j,c,d⟩:=h.step (k:=14) rfl
 obtain⟨o,⟨rfl,e⟩,g,m⟩:=YG.list_step (Zbv _ _) j (Zdl hq hx)
 refine⟨e,c q (g q (by simp)),fun w1 x' ha l=> ?_⟩
 obtain⟨f,a,n⟩:=m w1 (ZcQ q x') [q] ⟨rfl,ha⟩ (Zi.of_upd l)
 rw[←Zk3 hq]at a
 exact d w1 (YG.list (YM P.qps (s.pres.set i x'))) f P lk {s with pres:=s.pres.set i x'} va vp vl a n rfl h.fl (by simpa using h.ql)
end
theorem Jx (i:Nat) {w:World} {b:Nat} {cs:Array Value} {fr:Nat×Nat} (h:w.heap[b]? =some (.cells cs T fr)) (hi:cs[i]? =some v:=by simp only[List.getElem?_toArray,List.getElem?_cons_succ,List.getElem?_cons_zero,Y3,ZaG,ZbV,Y7,Zhs];rfl):w.cell? ⟨b,i,none⟩=some v:=Zc h hi
end Go.Proofs.YtbgbeddbfaopgaaGreatDoor
namespace Go.Lk
theorem ZoJ {α:Type} {l:List α} {i:Nat} {x:α} (h:l[i]? =some x) (g:α→α):l.modify i g=l.set i (g x):=by
 apply List.ext_getElem?
 intro j
 rw[List.getElem?_modify,List.getElem?_set]
 have a:=(Jk h)
 by_cases e:i=j
 ·subst e;rw[if_pos rfl,if_pos a,h];simp
 ·rw[if_neg e];simp[e]
theorem ZcM {s:Zf} {i:Nat} (hf:s.all[i]? =some f):Zac s ((i:Int)+1)=some f:=by
 have a:=(Jk hf)
 unfold Zac
 rw[if_neg (by omega),show((i:Int)+1-1).toNat=i by omega,hf]
theorem ZjQ {id:Int} (h:Zac s id=some f):∃i:Nat,id=(i:Int)+1∧s.all[i]? =some f:=by
 obtain⟨b,c,a⟩:=Za6 h
 exact⟨(id-1).toNat,by omega,a⟩
theorem YT {s:Zf} {i:Nat} (hf:s.all[i]? =some f) (g:ZE→ZE):setF s ((i:Int)+1) g={s with all:=s.all.set i (g f)}:=by
 unfold setF
 rw[show((i:Int)+1-1).toNat=i by omega,ZoJ hf]
theorem ZP {l:List ZE} {i:Nat} (hf:l[i]? =some f):(l.set i f')[i]? =some f':=List.getElem?_set_self (Jk hf)
theorem ZhC {α:Type} {p:α→Bool} {l:List α} {x:α} (h:l.find? p=some x):∃i:Nat,l[i]? =some x∧p x=true∧∀(j:Nat) (y:α),j<i→l[j]? =some y→p y=false:=by
 obtain⟨d,i,e,b,c⟩:=List.find?_eq_some_iff_getElem.1 h
 refine⟨i,by rw[Xa e,b],d,fun j y f k=> ?_⟩
 have a:=c j f
 obtain⟨m,g⟩:=List.getElem?_eq_some_iff.1 k
 rw[g]at a
 simpa using a
theorem Zp8 (h:Zkl a c=true):goL a c=c:=by unfold goL;rw[h];rfl
theorem Zqo (h:Zkl a c=false):goL a c=a:=by unfold goL;rw[h];rfl
theorem ZlM {s:Zf} {i:Nat} (hf:s.all[i]? =some f):openS s ((i:Int)+1)=
  (let f1:ZE:={f with state:=goL f.state 2,since:=s.now}
   let t:Nat:=if f.req.timeout=0∨(s.conf.timeout:Int)<f.req.timeout then s.conf.timeout else f.req.timeout.toNat
   if 256≤s.timers.length then{s with queue:=putQ s.queue (Zbo f1),all:=s.all.set i {f1 with timer:=0}}
   else{s with queue:=putQ s.queue (Zbo f1),timers:=s.timers++[⟨addT s.now t,s.tlast+1,(i:Int)+1⟩],tlast:=s.tlast+1,all:=s.all.set i {f1 with timer:=s.tlast+1}}):=by
 unfold openS
 dsimp only
 rw[YT hf]
 have a:(s.all.set i {f with state:=goL f.state 2,since:=s.now})[i]? =some {f with state:=goL f.state 2,since:=s.now}:=ZP hf
 rw[ZcM (s:={s with all:=s.all.set i {f with state:=goL f.state 2,since:=s.now}}) a]
 dsimp only
 split
 ·rw[YT (s:={s with all:=s.all.set i {f with state:=goL f.state 2,since:=s.now},queue:=_}) a]
  simp only[List.set_set]
 ·rw[YT (s:={s with all:=s.all.set i {f with state:=goL f.state 2,since:=s.now},queue:=_,timers:=_,tlast:=_}) a]
  simp only[List.set_set]
theorem Zlw {s:Zf} {i:Nat} (hf:s.all[i]? =some f) (hq:s.shares.findIdx? (fun o=>o.members.contains ((i:Int)+1))=none):leaveS s ((i:Int)+1)={s with all:=s.all.set i {f with pre:=0}}:=by
 unfold leaveS
 dsimp only
 rw[YT hf]
 dsimp only
 rw[hq]
theorem Zlz {s:Zf} {i k:Nat} {o:ZH} (hf:s.all[i]? =some f) (hq:s.shares.findIdx? (fun o=>o.members.contains ((i:Int)+1))=some k) (ho:s.shares[k]? =some o) (hm:0<(o.members.filter fun x=>x !=((i:Int)+1)).length):
  leaveS s ((i:Int)+1)={s with all:=s.all.set i {f with pre:=0},shares:=s.shares.set k {o with members:=o.members.filter fun x=>x !=((i:Int)+1)}}:=by
 unfold leaveS
 dsimp only
 rw[YT hf]
 dsimp only
 rw[hq]
 dsimp only
 rw[ho]
 dsimp only
 rw[if_pos hm]
theorem Zli {s:Zf} {i k:Nat} {o:ZH} {x:ZM} (hf:s.all[i]? =some f) (hq:s.shares.findIdx? (fun o=>o.members.contains ((i:Int)+1))=some k) (ho:s.shares[k]? =some o) (hm:¬0<(o.members.filter fun x=>x !=((i:Int)+1)).length)
  (hx:s.pres.find? (fun p=>p.num==o.num)=some x):
  leaveS s ((i:Int)+1)=forgetS (ZR {s with all:=s.all.set i {f with pre:=0},shares:=s.shares.eraseIdx k} 7 ((i:Int)+1) o.num x.conn 13) x false:=by
 unfold leaveS
 dsimp only
 rw[YT hf]
 dsimp only
 rw[hq]
 dsimp only
 rw[ho]
 dsimp only
 rw[if_neg hm,Ya]
 rw[hx]
def overU (s0:Zf) (i:Nat) (f:ZE) (state:Int):Zf:=
 let t:=ZR {s0 with all:=s0.all.set i {f with state:=goL f.state state}} (state-6+14) ((i:Int)+1) 0 f.conn 0
 {t with timers:=t.timers.filter (fun x=>x.id !=f.timer),groups:=Za2 t.groups ((i:Int)+1),book:=Zhb t.book ((i:Int)+1)}
def Zdi (s0:Zf) (i:Nat) (f:ZE) (state:Int):Zf:=
 let t:=overU s0 i f state
 if f.state=2 then{t with queue:=dropQ t.queue ((i:Int)+1)}
 else if f.state=4∨f.state=5 then{t with pool:=giveP t.pool f.conn t.now (state==6),all:=t.all.set i {f with state:=goL f.state state,body:=f.body.map ZaZ,conn:=0}}
 else if f.state=3 then leaveS t ((i:Int)+1)
 else t
theorem ZiH {s:Zf} {i:Nat} (hf:s.all[i]? =some f) (he:f.ended=true) (state:Int):overS s ((i:Int)+1) state=s:=by
 unfold overS
 rw[ZcM hf]
 dsimp only
 rw[if_pos he]
theorem Zls {s:Zf} {i:Nat} (hf:s.all[i]? =some f) (he:f.ended=false) (state:Int):
  overS s ((i:Int)+1) state=Zdi {s with all:=s.all.set i {f with ended:=true}} i {f with ended:=true} state:=by
 unfold overS
 rw[ZcM hf]
 dsimp only
 rw[if_neg (by rw[he];decide),YT hf]
 unfold Zdi overU
 dsimp only
 rw[List.set_set]
 have c:(s.all.set i {f with ended:=true,state:=goL f.state state})[i]? =some {f with ended:=true,state:=goL f.state state}:=ZP hf
 by_cases a:f.state=2
 ·rw[if_pos a,if_pos a]
 ·rw[if_neg a,if_neg a]
  by_cases b:f.state=4∨f.state=5
  ·rw[if_pos b,if_pos b]
   rw[YT (s:={ZR {s with all:=s.all.set i {f with ended:=true,state:=goL f.state state}} (state-6+14) ((i:Int)+1) 0 f.conn 0 with timers:=_,groups:=_,book:=_,pool:=_}) c]
  ·rw[if_neg b,if_neg b]
end Go.Lk
namespace Go.Proofs.YtbgbeddbfaopgaaGreatDoor
open Go.RowKit Go.Lk
theorem Zqx (a c:Int):may a c=Zkl a c:=by
 unfold may Zkl ZcE
 split
 ·rfl
 split
 ·rfl
 split
 ·rw[Bool.eq_iff_iff];simp only[Bool.or_eq_true,Bool.and_eq_true,decide_eq_true_eq,beq_iff_eq,bne_iff_ne];omega
 split
 ·rw[Bool.eq_iff_iff];simp only[Bool.or_eq_true,Bool.and_eq_true,decide_eq_true_eq,beq_iff_eq,bne_iff_ne];omega
 split
 ·rw[Bool.eq_iff_iff];simp only[Bool.or_eq_true,Bool.and_eq_true,decide_eq_true_eq,beq_iff_eq,bne_iff_ne];omega
 rfl
theorem Zpn (h:ZcE a=true) (c:Int):Zkl a c=false:=by
 unfold ZcE at h
 simp only[Bool.and_eq_true,decide_eq_true_eq]at h
 unfold Zkl
 rw[if_neg (by omega),if_neg (by omega),if_neg (by omega),if_neg (by omega),if_neg (by omega)]
theorem Zrn (a:Int):over a=ZcE a:=rfl
abbrev Zbn (st:Int):Int:=if ZcE st then 1 else 0
theorem ZcP {st:Int} (h:Zbr w lb st (Zbn st) (Zbn st)) (st2:Int):
  Calls Tryz.prog 91 #[.pointer (some ⟨lb,0,none⟩), .int .i64 st2] w fun e w'=>e= .returned (.bool (Zkl st st2))∧Zbr w' lb (goL st st2) (Zbn (goL st st2)) (Zbn (goL st st2))∧Zg [lb] w w':=by
 have q:=ZqZ h (by unfold Zbn;split<;>simp) (by unfold Zbn;split<;>decide) st2
 refine q.mono ?_
 rintro e w' ⟨rfl,c,i⟩
 rw[Zqx,Zrn]at c
 refine⟨by rw[Zqx],?_,i⟩
 have g:∀m o:Bool,Zkl st st2=m→ZcE st2=o→
   (if m=true then st2 else st)=goL st st2∧(if(m&&o&&decide (Zbn st=0))=true then Zbn st+1 else Zbn st)=Zbn (goL st st2)∧(if(m&&o)=true then(1:Int)else Zbn st)=Zbn (goL st st2):=by
  intro m o a ho
  cases m with
  |false=>
   rw[Zqo a]
   exact⟨rfl,rfl,rfl⟩
  |true=>
   rw[Zp8 a]
   have d:ZcE st=false:=by
    cases hs:ZcE st with
    |false=>rfl
    |true=>rw[Zpn hs]at a;cases a
   have b:Zbn st=0:=by unfold Zbn;rw[d];rfl
   cases o with
   |false=>
    refine⟨rfl,?_,?_⟩
    ·rw[b];unfold Zbn;rw[ho];rfl
    ·rw[b];unfold Zbn;rw[ho];rfl
   |true=>
    refine⟨rfl,?_,?_⟩
    ·rw[b];unfold Zbn;rw[ho];rfl
    ·unfold Zbn;rw[ho];rfl
 obtain⟨l,j,k⟩:=g _ _ rfl rfl
 rw[l,j,k]at c
 exact c
theorem ZfD (e:ZhP):∀u∈Y7 e,u.oneCell'=true:=by
 intro u a;simp only[Y7,List.mem_cons,List.not_mem_nil,or_false]at a;rcases a with rfl|rfl|rfl|rfl|rfl|rfl|rfl<;>rfl
section
variable {w:World} {b:Nat} {P:YI} {lk:Option Nat} {s:Zf} {va vp vl:Value} {F:List Nat}
theorem Zh.setLog (h:Zh w b P lk s va vp vl F):∃G,Zj 56 7 vl (s.log.map Y7) w G∧(∀q∈G,q∈F)∧b∉G∧∀(w1 w2:World) (vl':Value) (l':List ZhP) (G1:List Nat),Zj 56 7 vl' (l'.map Y7) w1 G1→Zi w w1 G G1→
  w2.heap[b]? =some (.cells (Y3 s P va vp vl').toArray 84 (0,0))→Zg [b] w1 w2→∃F1,Zh w2 b P lk {s with log:=l'} va vp vl' F1∧Zi w w2 F F1:=by
 obtain⟨c,f,a⟩:=h.lay
 have l:=Yi b P lk s va vp vl
 have J:0<c.length:=by rw[a.len];simp[Z0]
 have E:3<c.length:=by rw[a.len];simp[Z0]
 have e:=Xa J
 have d:=Xa E
 obtain⟨j,_⟩:=a.lies 0 _ _ rfl e
 have r:=a.lies 3 _ _ rfl d
 have o:b∉c[3]:=fun K=>a.apart 0 3 _ _ e d (by omega) b (by rw[j];simp) K
 refine⟨c[3],r,fun q x=>by rw[f];exact Zw d x,o,fun w1 w2 vl' l' G1 y hg H z=> ?_⟩
 obtain⟨s1,s2⟩:=a.step l d y hg
 have n:∀A∈(Z0 b P lk s va vp vl).set 3 (Zj 56 7 vl' (l'.map Y7)),A.Local:=fun A g=>by
  rcases List.mem_or_eq_of_mem_set g with g|rfl
  ·exact l A g
  ·exact Zd _ _ _ _
 have p:(c.set 3 G1)[0]? =some [b]:=by rw[Xt (by omega),e,j]
 obtain⟨L,C⟩:=s1.step n p (A1:=ZaL b (Y3 s P va vp vl').toArray 84) ⟨rfl,H⟩ (Zi.of_upd z)
 have i:=s2.trans C
 refine⟨_,⟨⟨_,rfl,L⟩,h.fl,h.ql,fun k I=> ?_⟩,by rw[f];exact i⟩
 rcases i.new k I with m|m
 ·exact h.two k (by rw[f];exact m)
 ·have M:=h.two b h.blk.2;have N:=h.lt b h.blk.2;omega
end
section
variable {w:World} {b:Nat} {P:YI} {lk:Option Nat} {s:Zf} {va vp vl:Value} {F:List Nat}
theorem Zh.setFCell (h:Zh w b P lk s va vp vl F) {i p:Nat} (hp:P.fps[i]? =some p) (hf:s.all[i]? =some f) (k:Nat) (v:Value) (f':ZE) (e:∀lk vh lb vb,(ZaG f lk vh lb vb).toArray.setIfInBounds k v=(ZaG f' lk vh lb vb).toArray)
  (e1:f'.req.headers=f.req.headers) (e2:f'.state=f.state) (e3:f'.body=f.body):
  w.frozen? ⟨p,k,none⟩=false∧∃F1,Zh (w.setCell ⟨p,k,none⟩ v) b P lk {s with all:=s.all.set i f'} va vp vl F1∧Zi w (w.setCell ⟨p,k,none⟩ v) F F1:=by
 obtain⟨vh,lb,vb,l,m,a,j,c⟩:=h.fetch hp hf
 refine⟨Zk a.blk,?_⟩
 obtain⟨g,d⟩:=a.setBlk (w1:=w.setCell ⟨p,k,none⟩ v) (f':=f') (lk':=lk==some i) ((Zg.refl [p] w).setCell (.inr (by simp)) _) (by rw[Ze a.blk,e]) e1 e2 e3
 exact c _ _ lk _ _ _ _ _ (fun _ _=>rfl) g d
theorem Zh.life (h:Zh w b P lk s va vp vl F) {i p:Nat} (hp:P.fps[i]? =some p) (hf:s.all[i]? =some f):
  ∃lb,w.cell? ⟨p,12,none⟩=some (.pointer (some ⟨lb,0,none⟩))∧Zbr w lb f.state (Zbn f.state) (Zbn f.state)∧∀(w1:World) (st:Int),Zbr w1 lb st (Zbn st) (Zbn st)→Zg [lb] w w1→
   ∃F1,Zh w1 b P lk {s with all:=s.all.set i {f with state:=st}} va vp vl F1∧Zi w w1 F F1:=by
 obtain⟨n,lb,o,l,m,a,k,c⟩:=h.fetch hp hf
 refine⟨lb,Zc (i:=12) a.blk rfl,a.life,fun w1 st g j=> ?_⟩
 obtain⟨e,d⟩:=a.setLife st j g
 exact c _ _ lk _ _ _ _ _ (fun _ _=>rfl) e d
theorem Zh.fcell (h:Zh w b P lk s va vp vl F) {i p:Nat} (hp:P.fps[i]? =some p) (hf:s.all[i]? =some f):∃vh lb vb,w.heap[p]? =some (.cells (ZaG f (lk==some i) vh lb vb).toArray 112 (0,0))∧p∈F:=by
 obtain⟨vh,lb,vb,e,g,c,a,d⟩:=h.fetch hp hf
 exact⟨vh,lb,vb,c.blk,a p (by simp)⟩
end
theorem Zag (h:Zh w b P lk s va vp vl F) (hl:s.log.length≤1000000) (a0 at0 kind id pre conn n:Int):
  Calls Tryz.prog 67 #[.pointer (some ⟨b,0,none⟩), .agg #[.int .i64 a0, .int .u64 at0, .int .i64 kind, .int .i64 id, .int .i64 pre, .int .i64 conn, .int .i64 n]] w fun e w'=>e= .returned (.tuple #[])∧
   ∃vl' F',Zh w' b P lk (ZR s kind id pre conn n) va vp vl' F'∧Zi w w' F F':=by
 obtain⟨w1,E⟩:=Je (w.alloc (.cells #[.int .i64 a0, .int .u64 at0, .int .i64 kind, .int .i64 id, .int .i64 pre, .int .i64 conn, .int .i64 n] 56))
 have ae:=Ja E
 have X:=Jh E
 have al:=h.lt
 obtain⟨L,q⟩:=Je w.heap.size
 rw[←q]at X
 have aa:L∉F:=fun hm=>by have:=al L hm;omega
 have aC:=h.blk.2
 have aw:b≠L:=fun e=>aa (e▸aC)
 obtain⟨K,m⟩:=Je w1.drew
 have S:Zg [] w K:=by rw[m];exact ae.drew
 have O:=h.upd0 S
 have z:K.heap[L]? =some (.cells #[.int .i64 a0, .int .u64 at0, .int .i64 kind, .int .i64 id, .int .i64 pre, .int .i64 conn, .int .i64 n] 56 (0,0)):=by rw[m];exact X
 have o:=Jx 7 O.blk.1
 have aB:=Jx 20 O.blk.1
 have ah:=O.clock.1
 obtain⟨M,l⟩:=Je (K.setCell ⟨L,0,none⟩ (.int .i64 s.acts))
 obtain⟨w4,J⟩:=Je (M.setCell ⟨L,1,none⟩ (.int .u64 (s.now:Int)))
 have H:M.heap[L]? =some (.cells #[.int .i64 s.acts, .int .u64 at0, .int .i64 kind, .int .i64 id, .int .i64 pre, .int .i64 conn, .int .i64 n] 56 (0,0)):=by rw[l,Ze z];rfl
 have aj:w4.heap[L]? =some (.cells #[.int .i64 s.acts, .int .u64 (s.now:Int), .int .i64 kind, .int .i64 id, .int .i64 pre, .int .i64 conn, .int .i64 n] 56 (0,0)):=by rw[J,Ze H];rfl
 have aF:M.cell? ⟨b,7,none⟩=some (.pointer (some ⟨P.clock,0,none⟩)):=by rw[l];exact(Xp (Yc _ (Ne.symm aw))).trans o
 have k0:=Jx 0 z
 have k1:=Jx 1 H
 have f0:K.frozen? ⟨L,0,none⟩=false:=Zk z
 have f1:M.frozen? ⟨L,1,none⟩=false:=Zk H
 have Y:Zg [] w w4:=by
  rw[J,l];exact(S.setCell (.inl (by simp[q])) _).setCell (.inl (by simp[q])) _
 have h4:=h.upd0 Y
 obtain⟨g,i⟩:=Je w4.drew
 have ab:Zg [] w g:=by rw[i];exact Y.drew
 have j:=h.upd0 ab
 have af:g.heap[L]? =some (.cells #[.int .i64 s.acts, .int .u64 (s.now:Int), .int .i64 kind, .int .i64 id, .int .i64 pre, .int .i64 conn, .int .i64 n] 56 (0,0)):=by rw[i];exact aj
 obtain⟨G,p,ag,ai,ak⟩:=j.setLog
 have av:=D (show L∉G from fun hm=>aa (ag L hm))
 obtain⟨A,c,rfl,R⟩:=p.form'
 rw[Xb]at p R j
 obtain⟨N,Q⟩:=Je s.log.length
 rw[←Q]at p R j hl
 have C:=Jx 19 j.blk.1
 have V:=D (show Zb g L 0 (Y7 ⟨s.acts,s.now,kind,id,pre,conn,n⟩)from Zb.of_block af)
 obtain⟨w6,x⟩:=Je (g.alloc (.cells #[.int .i64 s.acts, .int .u64 (s.now:Int), .int .i64 kind, .int .i64 id, .int .i64 pre, .int .i64 conn, .int .i64 n] 56))
 have d:=Ja x
 have aE:=D (show Zb w6 g.heap.size 0 (Y7 ⟨s.acts,s.now,kind,id,pre,conn,n⟩)by rw[x];exact Zb.of_block (w:=g.alloc _) (Za _))
 have ad:=(Zd _ _ _ _).upd p d (by simp)
 have ao:w6.cell? ⟨b,19,none⟩=some (.slice A N c):=(Xp (d.block b (Xo _ _ C) (by simp))).trans C
 have au:=D ad;have ar:=D ak;have ay:=D ai;have H5:=D j;have aq:=D ah
 clear h ae X al aa S O z ah H aj Y h4 j af p ag ai ak R ad;change Hid _ at d x ab i J l m E q Q
 go_enter Tryz.func67,Tryz.ntmps67
 go_upto_region 1 with fail
 rw[←E.out,←q.out]
 refine Jr [0,4,8,16,20,24,28,13,36,33,42,44,50] (fun W=>W.cell? ⟨b,7,none⟩=some (.pointer (some ⟨P.clock,0,none⟩))) (by rw[m.out]at o;exact o) ?_
 repeat first|refine Jn ?_|refine Jf ?_|refine Ju ?_
 refine JE ?_
 simp only[Xu]
 rw[←m.out]
 go_wp2_with fail
 refine(Zfx _ s.acts _ aB).mono ?_
 rintro e W ⟨rfl,rfl⟩
 go_wp2_with fail
 refine⟨_,fun W a=>a,o,?_⟩
 repeat first|refine Jn ?_|refine Jf ?_|refine Ju ?_
 refine JE ?_
 go_wp2_with fail
 refine(Za5 aq).mono ?_
 rintro e W ⟨rfl,rfl⟩
 go_wp2_with fail
 refine⟨_,fun W a=>a,o,?_⟩
 refine JL ?_
 go_wp2_with fail
 rw[←l.out]
 refine⟨fun _=>True,trivial,?_⟩
 repeat first|refine Jn ?_|refine Jf ?_|refine Ju ?_
 refine JL ?_
 go_wp2_with fail
 rw[←J.out]
 refine Jz ?_
 go_upto_region 2 with fail
 refine Jr [0,4,8,12,16,20,25,29,32,36,42] (fun W=>W.cell? ⟨b,19,none⟩=some (.slice A N c)∧Zb W L 0 (Y7 ⟨s.acts,s.now,kind,id,pre,conn,n⟩)) (by rw[i.out]at C;have ac:=V.out;rw[i.out]at ac;exact⟨C,ac⟩) ?_
 repeat first|refine Jn ?_|refine Jf ?_|refine Ju ?_
 apply Zq (t:= 56) (b:=L) (of:=0) (cs:=[.int .i64 s.acts, .int .u64 (s.now:Int), .int .i64 kind, .int .i64 id, .int .i64 pre, .int .i64 conn, .int .i64 n])
 case ho=>simp only[Xh,Xf,Xg];rfl
 case hg=>rfl
 case hop=>rfl
 case hx=>rfl
 case ht=>exact ZjV
 case hb=>exact fun W a=>a.2
 case ha=>go_simp;rfl
 refine JE ?_
 simp only[Xu]
 rw[←i.out]
 go_wp2_with fail
 rw[←x.out]
 refine⟨fun W=>W.cell? ⟨b,19,none⟩=some (.slice A N c)∧Zb W L 0 (Y7 ⟨s.acts,s.now,kind,id,pre,conn,n⟩),fun W a=>a,⟨ao,V.upd d (by simp)⟩,?_⟩
 refine JE ?_
 refine Zn w6 rfl (.tmp 19) (.tmp 21) 33 rfl 56 Tryz.underlying33 Zk1 rfl (by omega) (by omega) _ (s.log.map Y7) G rfl au g.heap.size 1 (Y7 ⟨s.acts,s.now,kind,id,pre,conn,n⟩) rfl aE rfl (ZfD _) (by rw[Xb,←Q.out];omega) ?_
 intro v' r G' Z I am
 obtain⟨A',c',e8,_⟩:=Z.form'
 rw[Xd,Xb,List.length_singleton,←Q.out]at e8
 subst e8
 have T:=(d.block b (Jg H5.blk.1) (by simp)).trans H5.blk.1
 have y:=(I.block b (Jg T) ay).trans T
 have c8:=Jx 19 y
 have f8:r.frozen? ⟨b,19,none⟩=false:=Zk y
 have an:=D ((V.upd d (by simp)).upd I av)
 have aA:=D y;have ax:=D Z;have aD:=D I;have az:=D am
 clear T y Z I am
 go_wp2_with fail
 refine⟨fun W=>W.cell? ⟨b,19,none⟩=some (.slice A N c)∧Zb W L 0 (Y7 ⟨s.acts,s.now,kind,id,pre,conn,n⟩),fun W a=>a,⟨c8,an.out⟩,?_⟩
 repeat first|refine Jn ?_|refine Jf ?_|refine Ju ?_
 refine JL ?_
 go_wp2_with fail
 refine Jz ?_
 go_wp2_with fail
 (try simp only[Exit.inBlock,Exit.then])
 first|refine bodyPost_ret (results_none rfl _ _ _) rfl ?_|refine bodyPost_end (results_none rfl _ _ _) rfl ?_
 refine⟨rfl,?_⟩
 have ap:Zi g r G G':=⟨(d.weaken (G:=G) (by simp)).trans aD (fun k hk=> .inr hk),fun k hk=>by
  rcases az k hk with h|h
  ·exact .inl h
  ·right;have:=d.size;omega⟩
 obtain⟨F1,k1,k2⟩:=ar.out r (r.setCell ⟨b,19,none⟩ (.slice A' (N+1) c')) (.slice A' (N+1) c') (s.log++[⟨s.acts,s.now,kind,id,pre,conn,n⟩]) G' (by rw[Xs];exact ax) ap (by rw[Ze aA.out];rfl) ((Zg.refl [b] r).setCell (.inr (by simp)) _)
 exact⟨_,F1,k1,k2.pre0 ab⟩
end Go.Proofs.YtbgbeddbfaopgaaGreatDoor
