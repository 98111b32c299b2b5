import Derived.Test.YtlhapbopmplngaaGreatDoorS5
import Derived.Test.YtlhapbopmplngaaGreatDoorS7
set_option linter.all false
set_option maxHeartbeats 16000000
set_option maxRecDepth 100000
set_option autoImplicit true
set_option relaxedAutoImplicit true
namespace Go.Proofs.YtlhapbopmplngaaGreatDoor
open Go.RowKit Go.Lk
def ZaM (o:Y4):List Value:=[.int .i64 o.id, .int .i64 o.group, .string ⟨o.key.toArray⟩]
def Zo7 (x:Y4):∀u∈ZaM x,u.oneCell'=true:=by
 intro u a;simp only[ZaM,List.mem_cons,List.not_mem_nil,or_false]at a;rcases a with rfl|rfl|rfl<;>rfl
def YR (b:Nat) (l:List Y4):YD:=Y2 b (fun v=> #[v]) 199 216 3 (l.map ZaM)
def ZD (b:Nat) (l:List Y4):(YR b l).Local:=Zaf _ _ _ _ _ _
def ZqT (o:Y4) (box:Nat) (id:Int) (W:World) (hc:W.cell? ⟨box,0,none⟩=some (.int .i64 id)):
  Calls Tryz.prog 266 #[.agg (ZaM o).toArray, .pointer (some ⟨box,0,none⟩)] W fun e w'=>e= .returned (.bool (o.id==id))∧Zg [] W w':=by
 have a:=Zay hc
 have b:box≠W.heap.size:=by omega
 show Calls _ _ #[.agg #[.int .i64 o.id, .int .i64 o.group, .string ⟨o.key.toArray⟩], .pointer (some ⟨box,0,none⟩)] W _
 go_in
 go_wp2
 go_ret
 exact⟨rfl,(Zg.refl _ _).alloc _⟩
def Zmu (o:Y4) (box:Nat) (key:Bs) (W:World) (hc:W.cell? ⟨box,0,none⟩=some (.string ⟨key.toArray⟩)):
  Calls Tryz.prog 185 #[.agg (ZaM o).toArray, .pointer (some ⟨box,0,none⟩)] W fun e w'=>e= .returned (.bool (o.key==key))∧Zg [] W w':=by
 have a:=Zay hc
 have b:box≠W.heap.size:=by omega
 show Calls _ _ #[.agg #[.int .i64 o.id, .int .i64 o.group, .string ⟨o.key.toArray⟩], .pointer (some ⟨box,0,none⟩)] W _
 go_in
 go_wp2
 go_ret
 exact⟨rfl,(Zg.refl _ _).alloc _⟩
def Zlz (o:Y4) (box:Nat) (g:Int) (W:World) (hc:W.cell? ⟨box,0,none⟩=some (.int .i64 g)):
  Calls Tryz.prog 186 #[.agg (ZaM o).toArray, .pointer (some ⟨box,0,none⟩)] W fun e w'=>e= .returned (.bool (o.group==g))∧Zg [] W w':=by
 have a:=Zay hc
 have b:box≠W.heap.size:=by omega
 show Calls _ _ #[.agg #[.int .i64 o.id, .int .i64 o.group, .string ⟨o.key.toArray⟩], .pointer (some ⟨box,0,none⟩)] W _
 go_in
 go_wp2
 go_ret
 exact⟨rfl,(Zg.refl _ _).alloc _⟩
def ZmD (o:Y4) (W:World):
  Calls Tryz.prog 184 #[.agg (ZaM o).toArray] W fun e w'=>e= .returned (.bool true)∧Zg [] W w':=by
 show Calls _ _ #[.agg #[.int .i64 o.id, .int .i64 o.group, .string ⟨o.key.toArray⟩]] W _
 go_in
 go_wp2
 go_ret
 exact⟨rfl,(Zg.refl _ _).alloc _⟩
def ZnM (h:YR b l w F) (id:Int):
  Calls Tryz.prog 182 #[.pointer (some ⟨b,0,none⟩), .int .i64 id] w fun e w'=>e= .returned (.int .i64 (Y5 (fun o=>o.id==id) l))∧Zg [] w w':=by
 obtain⟨v,G,rfl,C,q,c⟩:=h
 obtain⟨H,n,a,g⟩:=Kc w (.cells #[.int .i64 id] 3)
 have j:=Kv a q
 have y:=Zf (i:=0) j rfl
 simp only[List.getElem_toArray,Xv]at y
 have m:=(Zc _ _ _ _).upd c a
 have d:=Zpv ZaM (fun o=>o.id==id) 266 #[.pointer (some ⟨w.heap.size,0,none⟩)] m (enters_of Tryz.func266 (by kernel_rfl) rfl) (fun W x _ z=>ZqT x w.heap.size id W (by
  have:=Kv z g
  exact Zf (i:=0) this rfl))
 have p:=D d
 obtain⟨r,c⟩:=Je (Y5 (fun o:Y4=>o.id==id) l)
 rw[←c]at p⊢
 clear d g j m c q;change Hid _ at n a
 go_in
 go_upto_region 1 with fail
 rw[←n.out]
 go_wp2_with fail
 refine p.out.mono ?_
 rintro e E ⟨rfl,k⟩
 have s:=Jt a k
 clear k
 go_wp2_with fail
 go_ret
 exact⟨rfl,s.out⟩
def cntF {α:Type} (p:α→Bool) (l:List α):Nat:=(l.filter p).length
def Zov {α:Type} (p:α→Bool) {l:List α} {k:Nat} {x:α} (h:l[k]? =some x):cntF p (l.take (k+1))=cntF p (l.take k)+if p x then 1 else 0:=by
 unfold cntF;rw[ZZ h,List.filter_append];simp only[Xd];congr 1
 cases hp:p x<;>simp[hp]
def ZfG (p:Y4→Bool) (g:FuncId) (lb:Array Value) (h:YR b l w F) (hl:l.length≤4611686018427387904) (eg:∀args w,(callFunc g args).run Tryz.prog w= .ok (.enter g args) w)
  (hp:∀(W:World) (x:Y4),x∈l→Zg [] w W→Calls Tryz.prog g (#[.agg (ZaM x).toArray]++lb) W fun e w'=>e= .returned (.bool (p x))∧Zg [] W w'):
  Calls Tryz.prog 183 #[.pointer (some ⟨b,0,none⟩), .func (.func g) #[] lb] w fun e w'=>e= .returned (.int .i64 (cntF p l:Nat))∧Zg [] w w':=by
 obtain⟨v,G,rfl,ac,M,k⟩:=h
 have K:=Zf (i:=0) M rfl
 simp only[List.getElem_toArray,Xv]at K
 obtain⟨A,c,rfl,V,n⟩:=k.lies
 have HK:=D k.2.1
 rw[Xb]at V K
 have X:=D hp;have T:=D n
 clear M k hp n
 go_in
 go_wp2
 go_loopw[5,15] (fun s5 s15 wr=>∃kk:Nat,kk≤l.length∧s15= .int .i64 kk∧s5= .int .i64 (cntF p (l.take kk):Nat)∧Hid (Zg [] w wr)) (fun _ s15 _=>l.length-(intOf s15).toNat)
 case atStart=>exact⟨0,Xn _,rfl,by simp[cntF],D (Zg.refl [] w)⟩
 case round=>
  obtain⟨kk,aa,rfl,rfl,j⟩:=hrel
  by_cases S:kk<l.length
  ·obtain⟨x,hx⟩:∃x,l[kk]? =some x:=⟨_,Xa S⟩
   have H:=Xc hx
   obtain⟨ab,rfl,s⟩:=T.out kk (ZaM x) (by rw[Xe,hx];rfl)
   have Q:=D (s.upd j)
   have C:=D (show Zu Tryz.prog 216 (ZaM x).length=true from ZiO)
   have P:=D (show Zu Tryz.prog 216 (ZaM x).toArray.size=true from ZiO)
   have Y:=D (show(ZaM x).toArray.all (·.oneCell')=true by simp[ZaM,Value.oneCell'])
   have o:=D (Za (w:=wr) (.cells #[.int .i64 0, .int .i64 0, .string ⟨#[]⟩] 216 (0,0)))
   obtain⟨L,d⟩:=Je ((wr.alloc (.cells #[.int .i64 0, .int .i64 0, .string ⟨#[]⟩] 216 (0,0))).setRow wr.heap.size (ZaM x).toArray)
   have z:=Kk d o
   have E:=Kh d
   have y:=Jt j E
   have R:=D (show Zb L wr.heap.size 0 (ZaM x)from Zb.of_block z)
   have Z:=D (X.out L x H y)
   have a:=D (Zov p hx)
   have O:cntF p (l.take kk)≤kk:=by unfold cntF;have:=Xq p (l.take kk);have:=List.length_take_le kk l;omega
   obtain⟨q,J⟩:=Je (p x)
   obtain⟨m,N⟩:=Je (cntF p (l.take kk))
   rw[←N]at O a⊢
   clear hx H s z E N;change Hid _ at d J
   go_wp2_with(first|refine Js Q C ?_|(refine Jo (ZaM x).toArray o P Y ?_;rw[←d.out])|refine Jl R C ?_)
   refine Z.out.mono ?_
   rintro e w2 ⟨rfl,I⟩
   rw[←J.out]at a⊢
   have r:=Jt y I
   clear I
   cases q with
   |true=>
    go_wp2
    go_roundw
    case rel=>exact⟨kk+1,by omega,by go_num,by rw[a.out];simp,r⟩
    case measure=>simp[intOf];omega
   |false=>
    go_wp2
    go_roundw
    case rel=>exact⟨kk+1,by omega,by go_num,by rw[a.out];simp,r⟩
    case measure=>simp[intOf];omega
  ·obtain rfl:kk=l.length:=by omega
   go_wp2
   go_ret
   exact⟨by rw[Xm];rfl,j.out⟩
def Zos (h:YR b l w F) (key:Bs) (hl:l.length≤4611686018427387904):
  Calls Tryz.prog 108 #[.pointer (some ⟨b,0,none⟩), .string ⟨key.toArray⟩] w fun e w'=>e= .returned (.int .i64 (cntF (fun o=>o.key==key) l))∧Zg [] w w':=by
 obtain⟨s,k,a,d⟩:=Kc w (.cells #[.string ⟨key.toArray⟩] 9)
 have c:=ZfG (fun o=>o.key==key) 185 #[.pointer (some ⟨w.heap.size,0,none⟩)] ((ZD _ _).upd h a) hl (enters_of Tryz.func185 (by kernel_rfl) rfl) (fun W x _ p=>Zmu x w.heap.size key W (by
  have:=Kv p d
  exact Zf (i:=0) this rfl))
 have m:=D c
 obtain⟨r,j⟩:∃r:Nat,r=(cntF (fun o=>o.key==key) l):=⟨_,rfl⟩
 rw[←j]at m⊢
 clear c d j h;change Hid _ at k a
 go_in
 go_upto_region 1 with fail
 rw[←k.out]
 go_wp2_with fail
 refine m.out.mono ?_
 rintro e q ⟨rfl,g⟩
 have n:=Jt a g
 clear g
 go_wp2_with fail
 go_ret
 exact⟨rfl,n.out⟩
def Znp (h:YR b l w F) (g:Int) (hl:l.length≤4611686018427387904):
  Calls Tryz.prog 109 #[.pointer (some ⟨b,0,none⟩), .int .i64 g] w fun e w'=>e= .returned (.int .i64 (cntF (fun o=>o.group==g) l))∧Zg [] w w':=by
 obtain⟨y,m,a,d⟩:=Kc w (.cells #[.int .i64 g] 3)
 have c:=ZfG (fun o=>o.group==g) 186 #[.pointer (some ⟨w.heap.size,0,none⟩)] ((ZD _ _).upd h a) hl (enters_of Tryz.func186 (by kernel_rfl) rfl) (fun W x _ q=>Zlz x w.heap.size g W (by
  have:=Kv q d
  exact Zf (i:=0) this rfl))
 have n:=D c
 obtain⟨r,k⟩:∃r:Nat,r=(cntF (fun o=>o.group==g) l):=⟨_,rfl⟩
 rw[←k]at n⊢
 clear c d k h;change Hid _ at m a
 go_in
 go_upto_region 1 with fail
 rw[←m.out]
 go_wp2_with fail
 refine n.out.mono ?_
 rintro e s ⟨rfl,j⟩
 have p:=Jt a j
 clear j
 go_wp2_with fail
 go_ret
 exact⟨rfl,p.out⟩
def Zpc (h:YR b l w F) (hl:l.length≤4611686018427387904):
  Calls Tryz.prog 107 #[.pointer (some ⟨b,0,none⟩)] w fun e w'=>e= .returned (.int .i64 l.length)∧Zg [] w w':=by
 have a:=ZfG (fun _=>true) 184 #[] h hl (enters_of Tryz.func184 (by kernel_rfl) rfl) (fun W x _ j=>ZmD x W)
 rw[show cntF (fun _:Y4=>true) l=l.length by unfold cntF;simp]at a
 have g:=D a
 clear a h
 go_in
 go_wp2_with fail
 refine g.out.mono ?_
 rintro e i ⟨rfl,c⟩
 have d:=D c
 clear c
 go_wp2_with fail
 go_ret
 exact⟨rfl,d.out⟩
def Zqs (h:YR b l w F) (id:Int):
  Calls Tryz.prog 106 #[.pointer (some ⟨b,0,none⟩), .int .i64 id] w fun e w'=>e= .returned (.bool (l.any fun o=>o.id==id))∧Zg [] w w':=by
 have a:=ZnM h id
 have c:decide (0≤Y5 (fun o:Y4=>o.id==id) l)=l.any fun o=>o.id==id:=(Zc4 _ _)
 obtain⟨r,g⟩:=Je (Y5 (fun o:Y4=>o.id==id) l)
 rw[←g]at a c
 rw[←c]
 have j:=D a
 clear a h g c
 go_in
 go_wp2_with fail
 refine j.out.mono ?_
 rintro e k ⟨rfl,d⟩
 have i:=D d
 clear d
 go_wp2_with fail
 go_ret
 exact⟨rfl,i.out⟩
def ZbF (l:List Y4) (id:Int) (key:Bs) (g:Int):List Y4×Int:=
 if id<1 then(l,2)else if l.any (fun o=>o.id==id)then(l,16)else
 if 64≤l.length∨24≤cntF (fun o=>o.key==key) l∨32≤cntF (fun o=>o.group==g) l then(l,10)else(l++[⟨id,g,key⟩],0)
def Zob (h:YR b l w F) (hl:l.length≤1000000) (id:Int) (key:Bs) (g:Int):
  Calls Tryz.prog 56 #[.pointer (some ⟨b,0,none⟩), .int .i64 id, .string ⟨key.toArray⟩, .int .i64 g] w fun e w'=>e= .returned (.int .i64 (ZbF l id key g).2)∧∃F',YR b (ZbF l id key g).1 w' F'∧Zi w w' F F':=by
 have H:=D h
 by_cases h1:id<1
 ·have d:ZbF l id key g=(l,2):=by unfold ZbF;rw[if_pos h1]
  rw[d]
  clear h d
  go_in
  go_wp2_with fail
  go_ret
  exact⟨rfl,F,H.out,Zi.refl _ _⟩
 have q1:=Zqs h id
 obtain⟨a,V⟩:=Je (l.any fun o=>o.id==id)
 rw[←V]at q1
 have J:=D q1
 clear q1 h;change Hid _ at V
 cases a with
 |true=>
  have d:ZbF l id key g=(l,16):=by unfold ZbF;rw[if_neg h1,if_pos V.symm]
  rw[d]
  clear d
  go_in
  go_wp2_with fail
  refine J.out.mono ?_
  rintro e R ⟨rfl,j⟩
  have p:=D j
  clear j
  go_wp2_with fail
  go_ret
  exact⟨rfl,F,(ZD _ _).upd H p,⟨p.weaken (by simp),fun k C=> .inl C⟩⟩
 |false=>
  have M:l.length≤4611686018427387904:=by omega
  obtain⟨m,I⟩:=Je (cntF (fun o:Y4=>o.key==key) l)
  obtain⟨n,P⟩:=Je (cntF (fun o:Y4=>o.group==g) l)
  have am:m≤1000000:=by rw[I];unfold cntF;have:=Xq (fun o:Y4=>o.key==key) l;omega
  have an:n≤1000000:=by rw[P];unfold cntF;have:=Xq (fun o:Y4=>o.group==g) l;omega
  have Q:=D (show ZbF l id key g=if 64≤l.length∨24≤m∨32≤n then(l,10)else(l++[⟨id,g,key⟩],0)by unfold ZbF;rw[if_neg h1,if_neg (by rw[←V.out];simp),I,P])
  have O:=D (fun(W:World) (hu:Zg [] w W)=>Zpc ((ZD _ _).upd H hu) M)
  have N:=D (fun(W:World) (hu:Zg [] w W)=>Zos ((ZD _ _).upd H hu) key M)
  have HG:=D (fun(W:World) (hu:Zg [] w W)=>Znp ((ZD _ _).upd H hu) g M)
  rw[←I]at N;rw[←P]at HG
  clear I P M
  by_cases h2:64≤l.length
  ·have d:ZbF l id key g=(l,10):=by rw[Q.out,if_pos (.inl h2)]
   rw[d]
   clear d
   go_in
   go_wp2_with fail
   refine J.out.mono ?_
   rintro e R ⟨rfl,j⟩
   have p:=D j
   clear j
   go_wp2_with fail
   refine(O.out _ p).mono ?_
   rintro e w3 ⟨rfl,r⟩
   have q:=Jt p r;clear r
   go_wp2_with fail
   go_ret
   exact⟨rfl,F,(ZD _ _).upd H q,⟨q.weaken (by simp),fun k C=> .inl C⟩⟩
  by_cases h3:24≤m
  ·have d:ZbF l id key g=(l,10):=by rw[Q.out,if_pos (.inr (.inl h3))]
   rw[d]
   clear d
   go_in
   go_wp2_with fail
   refine J.out.mono ?_
   rintro e R ⟨rfl,j⟩
   have p:=D j
   clear j
   go_wp2_with fail
   refine(O.out _ p).mono ?_
   rintro e w3 ⟨rfl,r⟩
   have q:=Jt p r;clear r
   go_wp2_with fail
   refine(N.out _ q).mono ?_
   rintro e w4 ⟨rfl,s⟩
   have y:=Jt q s;clear s
   go_wp2_with fail
   go_ret
   exact⟨rfl,F,(ZD _ _).upd H y,⟨y.weaken (by simp),fun k C=> .inl C⟩⟩
  by_cases h4:32≤n
  ·have d:ZbF l id key g=(l,10):=by rw[Q.out,if_pos (.inr (.inr h4))]
   rw[d]
   clear d
   go_in
   go_wp2_with fail
   refine J.out.mono ?_
   rintro e R ⟨rfl,j⟩
   have p:=D j
   clear j
   go_wp2_with fail
   refine(O.out _ p).mono ?_
   rintro e w3 ⟨rfl,r⟩
   have q:=Jt p r;clear r
   go_wp2_with fail
   refine(N.out _ q).mono ?_
   rintro e w4 ⟨rfl,s⟩
   have y:=Jt q s;clear s
   go_wp2_with fail
   refine(HG.out _ y).mono ?_
   rintro e S ⟨rfl,K⟩
   have z:=Jt y K;clear K
   go_wp2_with fail
   go_ret
   exact⟨rfl,F,(ZD _ _).upd H z,⟨z.weaken (by simp),fun k C=> .inl C⟩⟩
  have d:ZbF l id key g=(l++[⟨id,g,key⟩],0):=by rw[Q.out,if_neg (by omega)]
  rw[d]
  clear d
  go_in
  go_wp2_with fail
  refine J.out.mono ?_
  rintro e R ⟨rfl,j⟩
  have p:=D j
  clear j
  go_wp2_with fail
  refine(O.out _ p).mono ?_
  rintro e w3 ⟨rfl,r⟩
  have q:=Jt p r;clear r
  go_wp2_with fail
  refine(N.out _ q).mono ?_
  rintro e w4 ⟨rfl,s⟩
  have y:=Jt q s;clear s
  go_wp2_with fail
  refine(HG.out _ y).mono ?_
  rintro e S ⟨rfl,K⟩
  have z:=Jt y K;clear K
  obtain⟨v,G,hF,ai,X,hr⟩:=(ZD _ _).upd H z
  obtain⟨A,c,rfl,hc⟩:=hr.form'
  rw[Xb]at*
  have c0:=Zf (i:=0) X rfl
  have f0:=Kf 0 X
  simp only[List.getElem_toArray,Xv]at c0
  obtain⟨w6,aa,E⟩:=Kb S (.cells #[.int .i64 id, .int .i64 g, .string ⟨key.toArray⟩] 216)
  have HB:=Kv E X
  have ah:Zb w6 S.heap.size 0 (ZaM ⟨id,g,key⟩):=by rw[aa];exact Zb.of_block (Za _)
  have ae:=(Zc _ _ _ _).upd hr E
  have HR:=D ae;have aj:=D ah;have HF:=D hF;have ac:=D ai
  have ad:=D (show b<w.heap.size from(ZD _ _).lt H b (by rw[hF];simp))
  clear X hr ah ae hF ai;change Hid _ at HB aa E
  go_wp2_with(rw[←aa.out];refine Zm w6 rfl (.tmp 39) (.tmp 44) 197 rfl 216 Tryz.underlying197 Znu rfl (by omega) (by omega) _ (l.map ZaM) G rfl HR S.heap.size 1 (ZaM ⟨id,g,key⟩) rfl aj rfl (by simp[ZaM,Value.oneCell']) (by rw[Xb];omega) ?_;intro v' w7 G' Y Z ag;obtain⟨A',c',e7,_⟩:=Y.form';rw[Xd,Xb,List.length_singleton]at e7;subst e7;have ab:=D ((Kv Z HB ac));have c7:=Jc 0 ab.out;have f7:=Kf 0 ab.out;have al:=D Y;have ak:=D Z;have af:=D ag;clear Y Z ag)
  go_ret
  obtain⟨g1,g2⟩:=ZbN (cs:=fun v=> #[v]) (T:= 199) ac ad (Zd (i:=0) ab _) ((Zc _ _ _ _).upd al ((Zg.refl [b] w7).setCell (.inr (by simp)) _) (fun x hx I=>by
    rw[Jm I]at hx
    rcases af b hx with L|L
    ·exact ac L
    ·have:=E.size;have:=z.size;have:=ad.out;omega))
   ((((z.trans E).weaken (G:=b::G) (by simp)).trans ak (fun x hx=> .inr (by simp[hx]))).setCell (.inr (by simp)) _) (fun x hx=>by
    rcases af x hx with L|L
    ·exact .inl L
    ·right;have:=E.size;have:=z.size;omega)
  refine⟨rfl,_,?_,by rw[HF.out];exact g2⟩
  have e9:(l++[(⟨id,g,key⟩:Y4)]).map ZaM=l.map ZaM++[ZaM ⟨id,g,key⟩]:=by simp
  unfold YR
  rw[e9]
  exact g1
def Zhk (l:List Y4) (id:Int):List Y4×Bool:=match l.findIdx? (fun o=>o.id==id)with|some i=>(Y6 l i,true)|none=>(l,false)
def Zpb (h:YR b l w F) (hl:l.length≤1000000) (id:Int):
  Calls Tryz.prog 131 #[.pointer (some ⟨b,0,none⟩), .int .i64 id] w fun e w'=>e= .returned (.bool (Zhk l id).2)∧∃F',YR b (Zhk l id).1 w' F'∧Zi w w' F F':=by
 have c:=ZnM h id
 have H:=D h
 cases hq:l.findIdx? (fun o:Y4=>o.id==id)with
 |none=>
  rw[Yi hq]at c
  have d:Zhk l id=(l,false):=by unfold Zhk;rw[hq]
  rw[d]
  have z:=D c
  clear hq c d h
  go_in
  go_wp2_with fail
  refine z.out.mono ?_
  rintro e w2 ⟨rfl,a⟩
  have n:=D a
  clear a
  go_wp2_with fail
  go_ret
  exact⟨rfl,F,(ZD _ _).upd H n,⟨n.weaken (by simp),fun k Y=> .inl Y⟩⟩
 |some i=>
  rw[YC hq]at c
  have L:=Yv hq
  have d:Zhk l id=(l.eraseIdx i,true):=by unfold Zhk;rw[hq];simp only[Z7]
  rw[d]
  have z:=D c
  obtain⟨v,G,K,J,O,y⟩:=h
  obtain⟨g,m,rfl⟩:∃g m,v= .slice (some ⟨g,0,none⟩) l.length m:=by
   rcases y.form with⟨_,Q,_⟩|⟨g,m,_,h1,_⟩
   ·rw[List.map_eq_nil_iff]at Q;subst Q;simp at L
   ·exact⟨g,m,by rw[h1,Xb]⟩
  have P:=D O;have M:=D y;have X:=D K;have I:=D J
  clear hq c d O y K J
  go_in
  go_wp2_with fail
  refine z.out.mono ?_
  rintro e w2 ⟨rfl,a⟩
  have n:=D a
  have s:=Kv a P
  have N:=Zf (i:=0) s rfl
  simp only[List.getElem_toArray,Xv]at N
  have E:=(Zc _ _ _ _).upd M a
  have hd:=ZpK.del (by rw[Xb];exact E) (Zde Zo7 l) (i:=i) (by rw[Xb];exact L)
  rw[Xb]at hd
  have HD:=D hd
  clear a E hd;change Hid _ at s
  go_wp2_with fail
  refine HD.out.mono ?_
  rintro e Z ⟨rfl,C,r⟩
  have p:G=[g]:=by obtain⟨_,_,h2,_⟩:=M.block;exact h2
  have q:b≠g:=fun e=>I.out (by rw[p,e];simp)
  have j:=(Kv r s (by simpa using q))
  have c3:=Jc 0 j
  have f3:=Kf 0 j
  have W:=D j;have S:=D C;have R:=D r;have V:=D q
  clear j C r q N;change Hid _ at p
  go_wp2_with fail
  go_ret
  obtain⟨g1,g2⟩:=ZbN (G:=G) (cs:=fun v=> #[v]) (T:= 199) I (Jg P) (Zd (i:=0) W _) ((Zc _ _ _ _).upd S ((Zg.refl [b] Z).setCell (.inr (by simp)) _) (fun x hx=>by
    rw[Jm hx];simpa using V.symm))
   (((n.weaken (G:=b::G) (by simp)).trans R (fun x hx=> .inr (by rw[p.out];simp at hx;simp[hx]))).setCell (.inr (by simp)) _) (fun x hx=> .inl (by rw[p.out];exact hx))
  refine⟨rfl,_,?_,by rw[X.out];exact g2⟩
  unfold YR
  rw[←Y9]
  exact g1
end Go.Proofs.YtlhapbopmplngaaGreatDoor
