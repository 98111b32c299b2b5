import Derived.Test.YtlhapbopmplngaaGreatDoorS47
import Derived.Test.YtlhapbopmplngaaGreatDoorS49
set_option linter.all false
set_option maxHeartbeats 16000000
set_option maxRecDepth 100000
set_option autoImplicit true
set_option relaxedAutoImplicit true
namespace Go.Proofs.YtlhapbopmplngaaGreatDoor
open Go.RowKit Go.Lk
structure Run (w0 w:World) (b:Nat) (s:Ze) (k:Nat) (F:List Nat):Prop where
 at_:∃P va vp vl,Zh w b P none s va vp vl F
 new:∀q∈F,w0.heap.size≤q
 fit:ZQ s (2000*k) k
 safe:Lk.Safe s
 env:Env w
 acts:s.acts=k
 upd:Zg [] w0 w
section
variable {w0 w:World} {b:Nat} {s:Ze} {k:Nat} {F:List Nat}
theorem Run.lt (h:Run w0 w b s k F):∀q∈F,q<w.heap.size:=by
 obtain⟨P,c,d,e,a⟩:=h.at_
 exact a.lt
theorem Run.upd0 (h:Run w0 w b s k F) (hu:Zg [] w w1):Run w0 w1 b s k F:=by
 obtain⟨P,a,d,e,c⟩:=h.at_
 exact⟨⟨P,a,d,e,c.upd0 hu⟩,h.new,h.fit,h.safe,h.env.upd0 hu,h.acts,h.upd.trans hu⟩
def Zmf (w0:World) (b:Nat) (s:Ze) (k:Nat) (F:List Nat) (a:ZaY) (w:World) (e:Ending) (w':World):Prop:=∃v F',e= .returned (.agg (Z1 (doS s a).2 v).toArray)∧ZbD w' v (doS s a).2.bytes∧Run w0 w' b (doS s a).1 (k+1) F'∧Zi w w' F F'∧∀q,v.ownBlock=some q→w.heap.size≤q∧q∉F'
theorem Zni (h:Run w0 w b s k F) (hk:k≤240) (a:ZaY) (hop:Zej a.op) (hafit:ZdS a) {ch:Nat} (ho:ZlP w F a Ai ci Ah ch Ab cb vr):
  Calls Tryz.prog 11 #[.pointer (some ⟨b,0,none⟩), .agg (Zcm a (.slice Ai a.ids.length ci) (.slice Ah a.headers.length ch) (.slice Ab a.bytes.length cb) vr).toArray] w (Zmf w0 b s k F a w):=by
 obtain⟨P,E,H,G,i⟩:=h.at_
 refine(Zo5 i h.fit h.safe h.env (by omega) (by omega) (by rw[h.acts];omega) a hop hafit ho).mono ?_
 rintro e j ⟨r,y,v,rfl,o,t,C,z,d,m,g,ho⟩
 have l:∀q∈d,w0.heap.size≤q:=fun q n=>by
  rcases g.new q n with c|c
  ·exact h.new q c
  ·have:=h.upd.size;omega
 have p:Zg [] w0 j:=h.upd.trans g.upd (fun x hx=> .inl (h.new x hx))
 refine⟨v,d,rfl,o,⟨⟨_,_,_,_,m⟩,l,(h.fit.doR h.safe hafit hop).mono (by omega) (by omega),h.safe.doR a hop,ZgL i h.env g,?_,p⟩,g,ho⟩
 rw[(Zn4 s a hop).1,h.acts];rfl
theorem Zqr (h:Run w0 w b s k F):Calls Tryz.prog 15 #[.pointer (some ⟨b,0,none⟩)] w fun e w'=>e= .returned (.int .i64 s.pool.busy.length)∧w'=w:=by
 obtain⟨P,c,d,g,a⟩:=h.at_
 exact Znq a
theorem run_log (h:Run w0 w b s k F) (hk:k≤400):Calls Tryz.prog 18 #[.pointer (some ⟨b,0,none⟩)] w (Zq3 w s.log):=by
 obtain⟨P,c,d,e,a⟩:=h.at_
 exact ZnZ a (by have:=h.fit.log;omega)
def Zr6 (c:Zcq) (w:World) (e:Ending) (w':World):Prop:=∃b F,e= .returned (.tuple #[.pointer (some ⟨b,0,none⟩), .int .i64 0])∧Run w w' b (newS c) 0 F
theorem ZrJ (c:Zcq) (hc:Zbu c=true) (w:World) (hE:Env w):Calls Tryz.prog 19 #[.agg (ZaT c).toArray] w (Zr6 c w):=by
 refine(Zo4 c hc w hE).mono ?_
 rintro e k ⟨b,P,d,j,h,F,rfl,i,a,g⟩
 exact⟨b,F,rfl,⟨⟨P,d,j,h,i⟩,g,(ZQ.new hc).mono (by omega) (by omega),Lk.Safe.newS c,hE.upd0 a,rfl,a⟩⟩
end
theorem Zgz (a:ZaY) (h1:a.ids=[]) (h2:a.headers=[]) (h3:a.bytes=[]) (h4:a.req.headers=[]) (hm:a.req.method.length≤900000) (hu:a.req.url.length≤900000) (ho:a.req.origin.length≤900000):
  ZlP w F a none 0 none 0 none 0 (.slice none 0 0):=by
 refine⟨fun j x b=> ?_,fun _ _ e=>(by cases e),fun j x b=> ?_,fun _ _ e=>(by cases e),fun j x b=> ?_,fun _ _ e=>(by cases e),⟨hm,hu,ho,by rw[h4];simp,?_,none,0,by rw[h4];rfl,fun j x b=> ?_⟩,fun g o n c e=>by cases e⟩
 ·rw[h1]at b;cases b
 ·rw[h2]at b;cases b
 ·rw[h3]at b;cases b
 ·rw[h4];unfold Zd9;simp
 ·rw[h4]at b;cases b
end Go.Proofs.YtlhapbopmplngaaGreatDoor
namespace Go.Lk
def ZjF:Zcq:=⟨6,10,8,2,5,4,60⟩
def ZmP (path:Bs) (cls:Int):Ya:=⟨[71,69,84],[104,116,116,112,58,47,47,97,47]++path,[104,116,116,112,58,47,47,97],3,false,[],cls,0,1,0⟩
def Zr0 (op:Int):ZaY:={ZaY.zero with op:=op}
def Ze1 (r:Ya):ZaY:={ZaY.zero with op:=3,req:=r}
def ZrR (c:Zcq):Ze:=(doS (newS c) (Zr0 1)).1
end Go.Lk
namespace Go.Proofs.YtlhapbopmplngaaGreatDoor
open Go.RowKit Go.Lk
def Zrd (w:World):Calls Tryz.prog 10 #[] w fun e w'=>e= .returned (.agg (ZaT ZjF).toArray)∧Zg [] w w':=by
 obtain⟨i,d,g,a⟩:=Kc w (.cells #[.int .i64 0, .int .u64 0, .int .i64 0, .int .i64 0, .int .u64 0, .int .i64 0, .int .u64 0] 26)
 have c:=D (show Zu Tryz.prog 26 7=true by kernel_rfl)
 have h:=D (show(ZaT ZjF).toArray.all (·.oneCell')=true by simp[ZaT,Value.oneCell'])
 change Hid _ at a g d
 go_in
 go_upto_region 1 with fail
 rw[←d.out]
 go_wp2_with(refine Jo (ZaT ZjF).toArray a c h ?_)
 refine bodyPost_ret (v:= .agg (ZaT ZjF).toArray) (Zw _ Tryz.results10 (b:=w.heap.size) (o:=0) rfl c (Zb.of_block (setRow_heap _ _ _ _ _ _ a))) rfl ?_
 exact⟨rfl,g.setRow (.inl (Xi _)) _⟩
def Zrm (path:Bs) (cls:Int) (hp:path.length≤1000000) (w:World):Calls Tryz.prog 12 #[.string ⟨path.toArray⟩, .int .i64 cls] w fun e w'=>e= .returned (.agg (Zt (ZmP path cls) (.slice none 0 0)).toArray)∧Zg [] w w':=by
 obtain⟨j,d,g,a⟩:=Kc w (.cells #[.string ⟨#[]⟩, .string ⟨#[]⟩, .string ⟨#[]⟩, .int .i64 0, .bool false, .slice none 0 0, .int .i64 0, .int .u64 0, .int .i64 0, .int .i64 0] 35)
 have c:=D (show Zu Tryz.prog 35 10=true by kernel_rfl)
 have h:=D (show(Zt (ZmP path cls) (.slice none 0 0)).toArray.all (·.oneCell')=true by simp[Zt,Value.oneCell'])
 have i:=ZnG (P:= Tryz.prog) (t:= 9) [104,116,116,112,58,47,47,97,47] path (by simp;omega)
 change Hid _ at a g d
 go_in
 go_upto_region 1 with fail
 rw[←d.out]
 go_wp2_with(refine Jo (Zt (ZmP path cls) (.slice none 0 0)).toArray a c h ?_)
 refine bodyPost_ret (v:= .agg (Zt (ZmP path cls) (.slice none 0 0)).toArray) (Zw _ Tryz.results12 (b:=w.heap.size) (o:=0) rfl c (Zb.of_block (setRow_heap _ _ _ _ _ _ a))) rfl ?_
 exact⟨rfl,g.setRow (.inl (Xi _)) _⟩
def ZrN (c:Zcq) (w:World) (e:Ending) (w':World):Prop:=∃b F,e= .returned (.pointer (some ⟨b,0,none⟩))∧Run w w' b (ZrR c) 1 F
def ZmQ (a:ZaY) (h1:a.ids=[]) (h2:a.headers=[]) (h3:a.bytes=[]) (h4:a.req.headers=[]) (hm:a.req.method.length≤900000) (hu:a.req.url.length≤900000) (ho:a.req.origin.length≤900000) (ht:0≤a.time∧a.time≤18446744073709551615) (hr:0≤a.req.timeout∧a.req.timeout≤18446744073709551615):ZdS a:=
 ⟨⟨hm,hu,ho,by rw[h4];simp,(fun x hx=>by rw[h4]at hx;cases hx),hr⟩,by rw[h1];simp,ht,⟨by rw[h2];simp,(fun x hx=>by rw[h2]at hx;cases hx)⟩,by rw[h3];simp⟩
def ZpZ (op:Int):ZdS (Zr0 op):=ZmQ _ rfl rfl rfl rfl (Xn _) (Xn _) (Xn _) ⟨Int.le_refl _,by show(0:Int)≤_;omega⟩ ⟨Int.le_refl _,by show(0:Int)≤_;omega⟩
def Zq0 (c:Zcq) (hc:Zbu c=true) (w:World) (hE:Env w):Calls Tryz.prog 9 #[.agg (ZaT c).toArray] w (ZrN c w):=by
 obtain⟨i,h,d⟩:=Kb w (.cells (ZaT c).toArray 26)
 obtain⟨L,g⟩:=Je w.heap.size
 have m:i.heap[L]? =some (.cells (ZaT c).toArray 26 (0,0)):=by rw[h,g];exact Za _
 have r:=D (show Zb i L 0 (ZaT c)from Zb.of_block m)
 have x:=D Zlw;have k:=D d
 have z:=D (ZrJ c hc i (hE.upd0 d))
 clear m d hc hE;change Hid _ at h g
 go_in
 go_upto_region 1 with fail
 rw[←h.out,←g.out]
 go_wp2_with(refine Jl r x ?_)
 refine z.out.mono ?_
 rintro e H ⟨b,F,rfl,l⟩
 have C:=D l
 clear l
 go_wp2_with fail
 refine(Zni C (by omega) (Zr0 1) (by decide) (ZpZ 1) (Zgz _ rfl rfl rfl rfl (Xn _) (Xn _) (Xn _))).mono ?_
 rintro e G ⟨v,E,rfl,o,j,p,n⟩
 have s:=D j
 clear o j p n
 go_wp2_with fail
 go_ret
 have a:=s.out
 exact⟨b,E,rfl,a.at_,fun q y=>Xj k.size (a.new q y),a.fit,a.safe,a.env,a.acts,k.trans a.upd⟩
end Go.Proofs.YtlhapbopmplngaaGreatDoor
namespace Go.Lk
def Zje (op id n time status:Int):ZaY:={ZaY.zero with op:=op,id:=id,n:=n,time:=time,status:=status}
def aw1:Ze:=ZrR ZjF
def aw2:Ze×Zal:=doS aw1 (Ze1 (ZmP [] 2))
def aw3:Ze×Zal:=doS aw2.1 (Zje 9 0 0 0 0)
def aw4:Ze×Zal:=doS aw3.1 (Zje 10 1 0 0 200)
def aw5:Ze×Zal:=doS aw4.1 (Zje 12 1 0 0 0)
def Zq5:aw2.2=⟨0,1,0,[]⟩:=by kernel_rfl
def Zp2:aw3.2=⟨0,0,1,[]⟩:=by kernel_rfl
def ZqZ:aw4.2=⟨0,0,0,[]⟩:=by kernel_rfl
def ZqD:aw5.2=⟨0,0,0,[]⟩:=by kernel_rfl
def Zrh:aw5.1.log=[⟨2,0,1,1,0,0,2⟩,⟨3,0,8,1,0,1,1⟩,⟨4,0,9,1,0,1,200⟩,⟨5,0,13,1,0,1,0⟩,⟨5,0,14,1,0,1,0⟩]:=by kernel_rfl
def Zq9:aw5.1.pool.busy.length=0:=by kernel_rfl
end Go.Lk
namespace Go.Proofs.YtlhapbopmplngaaGreatDoor
open Go.RowKit Go.Lk
def ZfQ {w0 w W:World} (h:Run w0 w b s k F) (cs:Array Value) (hW:W=(w.alloc (.cells #[.int .i64 0, .int .i64 0, .int .i64 0, .slice none 0 0] 31)).setRow w.heap.size cs):
  Run w0 W b s k F∧Own W w.heap.size cs 31 F∧Zg [] w W:=by
 have a:=Kh hW
 exact⟨h.upd0 a,⟨by rw[hW];exact setRow_heap _ _ _ _ _ _ (Za _),fun c=>by have:=h.lt _ c;omega⟩,a⟩
def Zo3 (r:Ya) (vr:Value):(List.foldl (fun(cs:Array Value) (x:Value×Nat)=>cs.setIfInBounds (8+x.snd) x.fst) #[.int .i64 3, .int .i64 0, .int .i64 0, .slice none 0 0, .int .u64 0, .int .i64 0, .slice none 0 0, .slice none 0 0, .string ⟨#[]⟩, .string ⟨#[]⟩, .string ⟨#[]⟩, .int .i64 0, .bool false, .slice none 0 0, .int .i64 0, .int .u64 0, .int .i64 0, .int .i64 0] (Zt r vr).zipIdx)=(Zcm (Ze1 r) (.slice none 0 0) (.slice none 0 0) (.slice none 0 0) vr).toArray:=by
 simp[Zt,Zcm,Ze1,ZaY.zero]
def ZrO (r:Ya) (h4:r.headers=[]) (hm:r.method.length≤900000) (hu:r.url.length≤900000) (ho:r.origin.length≤900000) (hr:0≤r.timeout∧r.timeout≤18446744073709551615):ZdS (Ze1 r):=
 ZmQ _ rfl rfl rfl h4 hm hu ho ⟨Int.le_refl _,by show(0:Int)≤_;omega⟩ hr
def ZrX (r:Ya) (h4:r.headers=[]) (hm:r.method.length≤900000) (hu:r.url.length≤900000) (ho:r.origin.length≤900000):ZlP w F (Ze1 r) none 0 none 0 none 0 (.slice none 0 0):=Zgz _ rfl rfl rfl h4 hm hu ho
def ZqI (op id n time status:Int) (ht:0≤time∧time≤18446744073709551615):ZdS (Zje op id n time status):=ZmQ _ rfl rfl rfl rfl (Xn _) (Xn _) (Xn _) ht ⟨Int.le_refl _,by show(0:Int)≤_;omega⟩
def Zrv (op id n time status:Int):ZlP w F (Zje op id n time status) none 0 none 0 none 0 (.slice none 0 0):=Zgz _ rfl rfl rfl rfl (Xn _) (Xn _) (Xn _)
def ZiD (h:Run w0 w b s k F) (hk:k≤240) (op id n time status:Int) (hop:Zej op) (ht:0≤time∧time≤18446744073709551615):
  Calls Tryz.prog 11 #[.pointer (some ⟨b,0,none⟩), .agg #[.int .i64 op, .int .i64 id, .int .i64 n, .slice none 0 0, .int .u64 time, .int .i64 status, .slice none 0 0, .slice none 0 0, .string ⟨#[]⟩, .string ⟨#[]⟩, .string ⟨#[]⟩, .int .i64 0, .bool false, .slice none 0 0, .int .i64 0, .int .u64 0, .int .i64 0, .int .i64 0]] w (Zmf w0 b s k F (Zje op id n time status) w):=
 Zni h hk (Zje op id n time status) hop (ZqI op id n time status ht) (Zrv op id n time status)
def Zri (h:Run w0 w b s k F) (hk:k≤240) (r:Ya) (h4:r.headers=[]) (hm:r.method.length≤900000) (hu:r.url.length≤900000) (ho:r.origin.length≤900000) (hr:0≤r.timeout∧r.timeout≤18446744073709551615):
  Calls Tryz.prog 11 #[.pointer (some ⟨b,0,none⟩), .agg (List.foldl (fun(cs:Array Value) (x:Value×Nat)=>cs.setIfInBounds (8+x.snd) x.fst) #[.int .i64 3, .int .i64 0, .int .i64 0, .slice none 0 0, .int .u64 0, .int .i64 0, .slice none 0 0, .slice none 0 0, .string ⟨#[]⟩, .string ⟨#[]⟩, .string ⟨#[]⟩, .int .i64 0, .bool false, .slice none 0 0, .int .i64 0, .int .u64 0, .int .i64 0, .int .i64 0] (Zt r (.slice none 0 0)).zipIdx)] w (Zmf w0 b s k F (Ze1 r) w):=by
 rw[Zo3]
 exact Zni h hk (Ze1 r) (by show Zej 3;decide) (ZrO r h4 hm hu ho hr) (ZrX r h4 hm hu ho)
def Zr8 (w:World) (hE:Env w):Calls Tryz.prog 16 #[] w fun e w'=>e= .returned (.bool true)∧Zg [] w w':=by
 have HE:=D hE
 have x:=D Yj
 clear hE
 go_in
 go_wp2_with fail
 refine(Zrd w).mono ?_
 rintro e w1 ⟨rfl,al⟩
 have ai:=D al
 clear al
 go_wp2_with fail
 refine(Zq0 ZjF (by decide) w1 (HE.upd0 ai)).mono ?_
 rintro e w2 ⟨b,F2,rfl,R⟩
 change Run _ _ _ aw1 _ _ at R
 have aA:=D R
 clear R
 go_wp2_with fail
 refine(Zrm [] 2 (by simp) w2).mono ?_
 rintro e w3 ⟨rfl,am⟩
 have aB:=D (aA.upd0 am)
 clear am
 go_wp2_with fail
 refine(Zri aB (by omega) (ZmP [] 2) rfl (by decide) (by decide) (by decide) ⟨by decide,by decide⟩).mono ?_
 rintro e n ⟨aM,aR,rfl,⟨S,N,rfl,_,_⟩,L,aE,_⟩
 change Run _ _ _ aw2.1 _ _ at L
 rw[show(doS aw1 (Ze1 (ZmP [] 2)))=aw2 from rfl,Zq5]
 dsimp only[List.length_nil]
 obtain⟨X,F,u0⟩:=ZfQ L (Z1 ⟨0,1,0,[]⟩ (.slice S 0 N)).toArray rfl
 obtain⟨aJ,i⟩:=Je ((n.alloc (.cells #[.int .i64 0, .int .i64 0, .int .i64 0, .slice none 0 0] 31)).setRow n.heap.size (Z1 ⟨0,1,0,[]⟩ (.slice S 0 N)).toArray)
 rw[←i]at X F u0
 obtain⟨Z,o⟩:=Je n.heap.size
 rw[←o]at F i
 have aw:=D X;have ad:=D F;have ay:=D o
 have ah:=D (show(n.alloc (.cells #[.int .i64 0, .int .i64 0, .int .i64 0, .slice none 0 0] 31)).heap[Z]? =some (.cells #[.int .i64 0, .int .i64 0, .int .i64 0, .slice none 0 0] 31 (0,0))by rw[o];exact Za _)
 clear L aE X F u0 o;change Hid _ at i
 go_wp2_with(rw[←ay.out];refine Jo (Z1 ⟨0,1,0,[]⟩ (.slice S 0 N)).toArray ah x (YV _ _ rfl) ?_;rw[←i.out])
 clear ah i
 go_wp2_with fail
 refine(ZiD aw (by omega) 9 0 0 0 0 (by decide) (by decide)).mono ?_
 rintro e m ⟨aT,aH,rfl,⟨W,P,rfl,_,_⟩,J,ak,_⟩
 change Run _ _ _ aw3.1 _ _ at J
 rw[show(doS aw2.1 (Zje 9 0 0 0 0))=aw3 from rfl,Zp2]
 dsimp only[List.length_nil]
 obtain⟨r1,E,u1⟩:=ZfQ J (Z1 ⟨0,0,1,[]⟩ (.slice W 0 P)).toArray rfl
 obtain⟨aN,h⟩:=Je ((m.alloc (.cells #[.int .i64 0, .int .i64 0, .int .i64 0, .slice none 0 0] 31)).setRow m.heap.size (Z1 ⟨0,0,1,[]⟩ (.slice W 0 P)).toArray)
 rw[←h]at r1 E u1
 obtain⟨L1,q⟩:=Je m.heap.size
 rw[←q]at E h
 have ax:=D r1;have aa:=D E;have aD:=D q;have ac:=D ((ad.step ak).upd0 u1)
 have aj:=D (show(m.alloc (.cells #[.int .i64 0, .int .i64 0, .int .i64 0, .slice none 0 0] 31)).heap[L1]? =some (.cells #[.int .i64 0, .int .i64 0, .int .i64 0, .slice none 0 0] 31 (0,0))by rw[q];exact Za _)
 clear J ak r1 E u1 q;change Hid _ at h
 go_wp2_with(rw[←aD.out];refine Jo (Z1 ⟨0,0,1,[]⟩ (.slice W 0 P)).toArray aj x (YV _ _ rfl) ?_;rw[←h.out])
 clear aj h
 clear ad
 go_wp2_with fail
 refine(ZiD ax (by omega) 10 1 0 0 200 (by decide) (by decide)).mono ?_
 rintro e z ⟨aL,aQ,rfl,⟨V,Q,rfl,_,_⟩,K,O,_⟩
 change Run _ _ _ aw4.1 _ _ at K
 rw[show(doS aw3.1 (Zje 10 1 0 0 200))=aw4 from rfl,ZqZ]
 dsimp only[List.length_nil]
 obtain⟨r2,C,u2⟩:=ZfQ K (Z1 ⟨0,0,0,[]⟩ (.slice V 0 Q)).toArray rfl
 obtain⟨aW,k⟩:=Je ((z.alloc (.cells #[.int .i64 0, .int .i64 0, .int .i64 0, .slice none 0 0] 31)).setRow z.heap.size (Z1 ⟨0,0,0,[]⟩ (.slice V 0 Q)).toArray)
 rw[←k]at r2 C u2
 obtain⟨L2,p⟩:=Je z.heap.size
 rw[←p]at C k
 have av:=D r2;have ap:=D C;have aC:=D p;have aq:=D ((ac.step O).upd0 u2);have au:=D ((aa.step O).upd0 u2)
 have ag:=D (show(z.alloc (.cells #[.int .i64 0, .int .i64 0, .int .i64 0, .slice none 0 0] 31)).heap[L2]? =some (.cells #[.int .i64 0, .int .i64 0, .int .i64 0, .slice none 0 0] 31 (0,0))by rw[p];exact Za _)
 clear K O r2 C u2 p;change Hid _ at k
 go_wp2_with(rw[←aC.out];refine Jo (Z1 ⟨0,0,0,[]⟩ (.slice V 0 Q)).toArray ag x (YV _ _ rfl) ?_;rw[←k.out])
 clear ag k
 clear ac aa
 go_wp2_with fail
 refine(ZiD av (by omega) 12 1 0 0 0 (by decide) (by decide)).mono ?_
 rintro e r ⟨aS,aG,rfl,⟨T,M,rfl,_,_⟩,I,s,_⟩
 change Run _ _ _ aw5.1 _ _ at I
 rw[show(doS aw4.1 (Zje 12 1 0 0 0))=aw5 from rfl,ZqD]
 dsimp only[List.length_nil]
 obtain⟨Y,H,u3⟩:=ZfQ I (Z1 ⟨0,0,0,[]⟩ (.slice T 0 M)).toArray rfl
 obtain⟨aV,l⟩:=Je ((r.alloc (.cells #[.int .i64 0, .int .i64 0, .int .i64 0, .slice none 0 0] 31)).setRow r.heap.size (Z1 ⟨0,0,0,[]⟩ (.slice T 0 M)).toArray)
 rw[←l]at Y H u3
 obtain⟨L3,y⟩:=Je r.heap.size
 rw[←y]at H l
 have af:=D Y;have an:=D H;have az:=D y;have ab:=D ((aq.step s).upd0 u3);have ar:=D ((au.step s).upd0 u3);have ao:=D ((ap.step s).upd0 u3)
 have aF:=D (show(r.alloc (.cells #[.int .i64 0, .int .i64 0, .int .i64 0, .slice none 0 0] 31)).heap[L3]? =some (.cells #[.int .i64 0, .int .i64 0, .int .i64 0, .slice none 0 0] 31 (0,0))by rw[y];exact Za _)
 clear I s Y H u3 y;change Hid _ at l
 go_wp2_with(rw[←az.out];refine Jo (Z1 ⟨0,0,0,[]⟩ (.slice T 0 M)).toArray aF x (YV _ _ rfl) ?_;rw[←l.out])
 go_wp2_with fail
 refine(run_log af (by omega)).mono ?_
 rw[Zrh]
 rintro e a ⟨v,G,rfl,d,c,_⟩
 rcases d.form with⟨_,h0,_⟩|⟨g,aU,aO,rfl,_⟩
 ·simp at h0
 have k9:a.cell? ⟨g,9,none⟩=some (.int .i64 8):=(d.liesAt (j:=1) rfl) 2 _ rfl
 have aI:a.cell? ⟨g,30,none⟩=some (.int .i64 14):=(d.liesAt (j:=4) rfl) 2 _ rfl
 have aP:a.cell? ⟨g,28,none⟩=some (.int .i64 5):=(d.liesAt (j:=4) rfl) 0 _ rfl
 have a0:a.cell? ⟨Z,0,none⟩=some (.int .i64 0):=(ab.upd0 c).cell rfl
 have a1:a.cell? ⟨Z,1,none⟩=some (.int .i64 1):=(ab.upd0 c).cell rfl
 have b2:a.cell? ⟨L1,2,none⟩=some (.int .i64 1):=(ar.upd0 c).cell rfl
 have d0:a.cell? ⟨L2,0,none⟩=some (.int .i64 0):=(ao.upd0 c).cell rfl
 have f0:a.cell? ⟨L3,0,none⟩=some (.int .i64 0):=(an.upd0 c).cell rfl
 have ae:=D (af.upd0 c)
 clear d c
 go_wp2_with fail
 refine(Zqr ae).mono ?_
 rw[Zq9]
 rintro e aK ⟨rfl,rfl⟩
 go_wp2_with fail
 go_ret
 exact⟨rfl,ai.trans ae.upd⟩
def ZrU (h:Run w0 w b s k F) (hk:k≤400):Calls Tryz.prog 14 #[.pointer (some ⟨b,0,none⟩)] w (Zp7 w (s.all.map Zfd)):=by
 obtain⟨P,c,d,e,a⟩:=h.at_
 exact Zjg a h.fit (by have:=h.fit.all;omega)
end Go.Proofs.YtlhapbopmplngaaGreatDoor
