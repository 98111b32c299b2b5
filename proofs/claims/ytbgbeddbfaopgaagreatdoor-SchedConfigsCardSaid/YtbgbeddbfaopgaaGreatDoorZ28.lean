import Derived.ChangeArms
import Derived.ChangeOld
import Derived.ChangeSame
import Derived.Handed
import Derived.HandedShaped
import Derived.LaidMore
import Derived.Lay
import Derived.SevenTiedAt
import Derived.Shelf.Vars
import Derived.SizedLaws
import Derived.Stop.Joined
import Derived.Stop.LaidErr
import Derived.Test.YtbgbeddbfaopgaaGreatDoorCards
import Derived.Test.YtbgbeddbfaopgaaGreatDoorRows
import Derived.Test.YtbgbeddbfaopgaaGreatDoorTie
import Derived.Test.YtbgbeddbfaopgaaGreatDoorZ27
set_option linter.all false
set_option maxHeartbeats 16000000
set_option maxRecDepth 100000
set_option autoImplicit true
set_option relaxedAutoImplicit true
namespace Go.Proofs.YtbgbeddbfaopgaaGreatDoor
open Go.RowKit Go.Lk
structure Run (w0 w:World) (b:Nat) (s:Zf) (k:Nat) (F:List Nat):Prop where
 at_:∃P va vp vl,Zh w b P none s va vp vl F
 new:∀q∈F,w0.heap.size≤q
 fit:ZW s (2000*k) k
 safe:Lk.Safe s
 env:Env w
 acts:s.acts=k
 upd:Zg [] w0 w
section
variable {w0 w:World} {b:Nat} {s:Zf} {k:Nat} {F:List Nat}
theorem Run.lt (h:Run w0 w b s k F):∀q∈F,q<w.heap.size:=by
 obtain⟨P,c,e,d,a⟩:=h.at_
 exact a.lt
theorem Run.upd0 (h:Run w0 w b s k F) (hu:Zg [] w w1):Run w0 w1 b s k F:=by
 obtain⟨P,c,e,d,a⟩:=h.at_
 exact⟨⟨P,c,e,d,a.upd0 hu⟩,h.new,h.fit,h.safe,h.env.upd0 hu,h.acts,h.upd.trans hu (by simp)⟩
def ZmZ (w0:World) (b:Nat) (s:Zf) (k:Nat) (F:List Nat) (a:ZbQ) (w:World) (e:Ending) (w':World):Prop:=∃v F',e= .returned (.agg (Z7 (doS s a).2 v).toArray)∧Zb7 w' v (doS s a).2.bytes∧Run w0 w' b (doS s a).1 (k+1) F'∧Zi w w' F F'∧∀q,v.ownBlock=some q→w.heap.size≤q∧q∉F'
theorem ZmG (h:Run w0 w b s k F) (hk:k≤240) (a:ZbQ) (hop:Zdb a.op) (hafit:Zcw a) {ch:Nat} (ho:Zlv w F a Ai ci Ah ch Ab cb vr):
  Calls Tryz.prog 17 #[.pointer (some ⟨b,0,none⟩), .agg (Zbq a (.slice Ai a.ids.length ci) (.slice Ah a.headers.length ch) (.slice Ab a.bytes.length cb) vr).toArray] w (ZmZ w0 b s k F a w):=by
 obtain⟨P,E,G,H,d⟩:=h.at_
 refine(Zoe d h.fit h.safe h.env (by omega) (by omega) (by rw[h.acts];omega) a hop hafit ho).mono ?_
 rintro e j ⟨r,z,v,rfl,l,t,C,y,i,p,g,ho⟩
 have m:∀q∈i,w0.heap.size≤q:=fun q n=>by
  rcases g.new q n with c|c
  ·exact h.new q c
  ·have:=h.upd.size;omega
 have o:Zg [] w0 j:=h.upd.trans g.upd (fun x hx=> .inl (h.new x hx))
 refine⟨v,i,rfl,l,⟨⟨_,_,_,_,p⟩,m,(h.fit.doR h.safe hafit hop).mono (by omega) (by omega),h.safe.doR a hop,Zds d h.env g,?_,o⟩,g,ho⟩
 rw[(Zol s a hop).1,h.acts];rfl
theorem Zrl (h:Run w0 w b s k F):Calls Tryz.prog 11 #[.pointer (some ⟨b,0,none⟩)] w fun e w'=>e= .returned (.int .u64 s.now)∧w'=w:=by
 obtain⟨P,c,g,d,a⟩:=h.at_
 exact ZoK a
theorem ZpR (h:Run w0 w b s k F):Calls Tryz.prog 12 #[.pointer (some ⟨b,0,none⟩)] w fun e w'=>e= .returned (.int .i64 s.acts)∧w'=w:=by
 obtain⟨P,c,g,d,a⟩:=h.at_
 exact ZlS a
theorem Zqu (h:Run w0 w b s k F):Calls Tryz.prog 21 #[.pointer (some ⟨b,0,none⟩)] w fun e w'=>e= .returned (.int .i64 s.pool.busy.length)∧w'=w:=by
 obtain⟨P,c,g,d,a⟩:=h.at_
 exact Zne a
theorem ZmJ (h:Run w0 w b s k F):Calls Tryz.prog 10 #[.pointer (some ⟨b,0,none⟩)] w fun e w'=>e= .returned (.agg (Z1 s.conf).toArray)∧Zg [] w w':=by
 obtain⟨P,c,g,d,a⟩:=h.at_
 exact Zki a
theorem Znr (h:Run w0 w b s k F) (hk:k≤400):Calls Tryz.prog 13 #[.pointer (some ⟨b,0,none⟩)] w (ZpZ w s.log):=by
 obtain⟨P,c,e,d,a⟩:=h.at_
 exact ZnK a (by have:=h.fit.log;omega)
def ZrD (c:ZaW) (w:World) (e:Ending) (w':World):Prop:=∃b F,e= .returned (.tuple #[.pointer (some ⟨b,0,none⟩), .int .i64 0])∧Run w w' b (newS c) 0 F
theorem Znh (c:ZaW) (hc:Zak c=true) (w:World) (hE:Env w):Calls Tryz.prog 7 #[.agg (Z1 c).toArray] w (ZrD c w):=by
 refine(Zpk c hc w hE).mono ?_
 rintro e k ⟨b,P,d,g,j,F,rfl,i,a,h⟩
 exact⟨b,F,rfl,⟨⟨P,d,g,j,i⟩,h,(ZW.new hc).mono (by omega) (by omega),Lk.Safe.newS c,hE.upd0 a,rfl,a⟩⟩
end
theorem ZgV (a:ZbQ) (h1:a.ids=[]) (h2:a.headers=[]) (h3:a.bytes=[]) (h4:a.req.headers=[]) (hm:a.req.method.length≤900000) (hu:a.req.url.length≤900000) (ho:a.req.origin.length≤900000):
  Zlv w F a none 0 none 0 none 0 (.slice none 0 0):=by
 refine⟨fun j x b=> ?_,fun _ _ e=>(by cases e),fun j x b=> ?_,fun _ _ e=>(by cases e),fun j x b=> ?_,fun _ _ e=>(by cases e),⟨hm,hu,ho,by rw[h4];simp,?_,none,0,by rw[h4];rfl,fun j x b=> ?_⟩,fun g o n c e=>by cases e⟩
 ·rw[h1]at b;cases b
 ·rw[h2]at b;cases b
 ·rw[h3]at b;cases b
 ·rw[h4];unfold Zd3;simp
 ·rw[h4]at b;cases b
end Go.Proofs.YtbgbeddbfaopgaaGreatDoor
namespace Go.Lk
def Zjv:ZaW:=⟨6,10,8,2,5,4,60⟩
def ZmQ (path:Bs) (cls:Int):Yb:=⟨[71,69,84],[104,116,116,112,58,47,47,97,47]++path,[104,116,116,112,58,47,47,97],3,false,[],cls,0,1,0⟩
def ZrC (op:Int):ZbQ:={ZbQ.zero with op:=op}
def ZeR (r:Yb):ZbQ:={ZbQ.zero with op:=3,req:=r}
def Zrv (c:ZaW):Zf:=(doS (newS c) (ZrC 1)).1
end Go.Lk
namespace Go.Proofs.YtbgbeddbfaopgaaGreatDoor
open Go.RowKit Go.Lk
theorem ZpW (w:World):Calls Tryz.prog 16 #[] w fun e w'=>e= .returned (.agg (Z1 Zjv).toArray)∧Zg [] w w':=by
 obtain⟨i,a⟩:=Je (w.alloc (.cells #[.int .i64 0, .int .u64 0, .int .i64 0, .int .i64 0, .int .u64 0, .int .i64 0, .int .u64 0] 24))
 have g:=Ja a
 have c:=Jh a
 have d:=D (show Zu Tryz.prog 24 7=true by kernel_rfl)
 have h:=D (show(Z1 Zjv).toArray.all (·.oneCell')=true by simp[Z1,Value.oneCell'])
 change Hid _ at c g a
 go_enter Tryz.func16,Tryz.ntmps16
 go_upto_region 1 with fail
 rw[←a.out]
 go_wp2_with(refine Jo (Z1 Zjv).toArray c d h ?_)
 refine bodyPost_ret (v:= .agg (Z1 Zjv).toArray) (Zs _ Tryz.results16 (b:=w.heap.size) (o:=0) rfl d (Zb.of_block (setRow_heap _ _ _ _ _ _ c))) rfl ?_
 exact⟨rfl,g.setRow (.inl (Xi _)) _⟩
theorem Zrq (path:Bs) (cls:Int) (hp:path.length≤1000000) (w:World):Calls Tryz.prog 18 #[.string ⟨path.toArray⟩, .int .i64 cls] w fun e w'=>e= .returned (.agg (Zv (ZmQ path cls) (.slice none 0 0)).toArray)∧Zg [] w w':=by
 obtain⟨j,a⟩:=Je (w.alloc (.cells #[.string ⟨#[]⟩, .string ⟨#[]⟩, .string ⟨#[]⟩, .int .i64 0, .bool false, .slice none 0 0, .int .i64 0, .int .u64 0, .int .i64 0, .int .i64 0] 43))
 have g:=Ja a
 have c:=Jh a
 have d:=D (show Zu Tryz.prog 43 10=true by kernel_rfl)
 have h:=D (show(Zv (ZmQ path cls) (.slice none 0 0)).toArray.all (·.oneCell')=true by simp[Zv,Value.oneCell'])
 have i:=Znm (P:= Tryz.prog) (t:= 9) [104,116,116,112,58,47,47,97,47] path (by simp;omega)
 change Hid _ at c g a
 go_enter Tryz.func18,Tryz.ntmps18
 go_upto_region 1 with fail
 rw[←a.out]
 go_wp2_with(refine Jo (Zv (ZmQ path cls) (.slice none 0 0)).toArray c d h ?_)
 refine bodyPost_ret (v:= .agg (Zv (ZmQ path cls) (.slice none 0 0)).toArray) (Zs _ Tryz.results18 (b:=w.heap.size) (o:=0) rfl d (Zb.of_block (setRow_heap _ _ _ _ _ _ c))) rfl ?_
 exact⟨rfl,g.setRow (.inl (Xi _)) _⟩
def Zrd (c:ZaW) (w:World) (e:Ending) (w':World):Prop:=∃b F,e= .returned (.pointer (some ⟨b,0,none⟩))∧Run w w' b (Zrv c) 1 F
theorem Zm8 (a:ZbQ) (h1:a.ids=[]) (h2:a.headers=[]) (h3:a.bytes=[]) (h4:a.req.headers=[]) (hm:a.req.method.length≤900000) (hu:a.req.url.length≤900000) (ho:a.req.origin.length≤900000) (ht:0≤a.time∧a.time≤18446744073709551615) (hr:0≤a.req.timeout∧a.req.timeout≤18446744073709551615):Zcw a:=
 ⟨⟨hm,hu,ho,by rw[h4];simp,(fun x hx=>by rw[h4]at hx;cases hx),hr⟩,by rw[h1];simp,ht,⟨by rw[h2];simp,(fun x hx=>by rw[h2]at hx;cases hx)⟩,by rw[h3];simp⟩
theorem Zqn (op:Int):Zcw (ZrC op):=Zm8 _ rfl rfl rfl rfl (Xn _) (Xn _) (Xn _) ⟨Int.le_refl _,by show(0:Int)≤_;omega⟩ ⟨Int.le_refl _,by show(0:Int)≤_;omega⟩
theorem ZqM (c:ZaW) (hc:Zak c=true) (w:World) (hE:Env w):Calls Tryz.prog 15 #[.agg (Z1 c).toArray] w (Zrd c w):=by
 obtain⟨h,d⟩:=Je (w.alloc (.cells (Z1 c).toArray 24))
 obtain⟨L,i⟩:=Je w.heap.size
 have l:h.heap[L]? =some (.cells (Z1 c).toArray 24 (0,0)):=by rw[d,i];exact Za _
 have g:=Ja d
 have p:=D (show Zb h L 0 (Z1 c)from Zb.of_block l)
 have r:=D Zen;have k:=D g
 have z:=D (Znh c hc h (hE.upd0 g))
 clear l g hc hE;change Hid _ at d i
 go_enter Tryz.func15,Tryz.ntmps15
 go_upto_region 1 with fail
 rw[←d.out,←i.out]
 go_wp2_with(refine Jl p r ?_)
 refine z.out.mono ?_
 rintro e H ⟨b,F,rfl,m⟩
 have C:=D m
 clear m
 go_wp2_with fail
 refine(ZmG C (by omega) (ZrC 1) (by decide) (Zqn 1) (ZgV _ rfl rfl rfl rfl (Xn _) (Xn _) (Xn _))).mono ?_
 rintro e G ⟨v,E,rfl,s,j,o,x⟩
 have n:=D j
 clear s j o x
 go_wp2_with fail
 go_ret
 have a:=n.out
 exact⟨b,E,rfl,a.at_,fun q y=>Xj k.size (a.new q y),a.fit,a.safe,a.env,a.acts,k.trans a.upd (by simp)⟩
end Go.Proofs.YtbgbeddbfaopgaaGreatDoor
namespace Go.Lk
def ZiO (op id n time status:Int):ZbQ:={ZbQ.zero with op:=op,id:=id,n:=n,time:=time,status:=status}
def aw1:Zf:=Zrv Zjv
def aw2:Zf×Zad:=doS aw1 (ZeR (ZmQ [] 2))
def aw3:Zf×Zad:=doS aw2.1 (ZiO 9 0 0 0 0)
def aw4:Zf×Zad:=doS aw3.1 (ZiO 10 1 0 0 200)
def aw5:Zf×Zad:=doS aw4.1 (ZiO 12 1 0 0 0)
theorem ZqV:aw2.2=⟨0,1,0,[]⟩:=by kernel_rfl
theorem ZqI:aw3.2=⟨0,0,1,[]⟩:=by kernel_rfl
theorem Zpv:aw4.2=⟨0,0,0,[]⟩:=by kernel_rfl
theorem Zqy:aw5.2=⟨0,0,0,[]⟩:=by kernel_rfl
theorem Zrk:aw5.1.log=[⟨2,0,1,1,0,0,2⟩,⟨3,0,8,1,0,1,1⟩,⟨4,0,9,1,0,1,200⟩,⟨5,0,13,1,0,1,0⟩,⟨5,0,14,1,0,1,0⟩]:=by kernel_rfl
theorem ZpG:aw5.1.pool.busy.length=0:=by kernel_rfl
end Go.Lk
namespace Go.Proofs.YtbgbeddbfaopgaaGreatDoor
open Go.RowKit Go.Lk
theorem ZfU {w0 w W:World} (h:Run w0 w b s k F) (cs:Array Value) (hW:W=(w.alloc (.cells #[.int .i64 0, .int .i64 0, .int .i64 0, .slice none 0 0] 39)).setRow w.heap.size cs):
  Run w0 W b s k F∧Own W w.heap.size cs 39 F∧Zg [] w W:=by
 have a:Zg [] w W:=by rw[hW];exact((Zg.refl [] w).alloc _).setRow (.inl (Xi _)) _
 exact⟨h.upd0 a,⟨by rw[hW];exact setRow_heap _ _ _ _ _ _ (Za _),fun c=>by have:=h.lt _ c;omega⟩,a⟩
theorem Zou (r:Yb) (vr:Value):(List.foldl (fun(cs:Array Value) (x:Value×Nat)=>cs.setIfInBounds (8+x.snd) x.fst) #[.int .i64 3, .int .i64 0, .int .i64 0, .slice none 0 0, .int .u64 0, .int .i64 0, .slice none 0 0, .slice none 0 0, .string ⟨#[]⟩, .string ⟨#[]⟩, .string ⟨#[]⟩, .int .i64 0, .bool false, .slice none 0 0, .int .i64 0, .int .u64 0, .int .i64 0, .int .i64 0] (Zv r vr).zipIdx)=(Zbq (ZeR r) (.slice none 0 0) (.slice none 0 0) (.slice none 0 0) vr).toArray:=by
 simp[Zv,Zbq,ZeR,ZbQ.zero]
theorem Zq3 (r:Yb) (h4:r.headers=[]) (hm:r.method.length≤900000) (hu:r.url.length≤900000) (ho:r.origin.length≤900000) (hr:0≤r.timeout∧r.timeout≤18446744073709551615):Zcw (ZeR r):=
 Zm8 _ rfl rfl rfl h4 hm hu ho ⟨Int.le_refl _,by show(0:Int)≤_;omega⟩ hr
theorem ZrB (r:Yb) (h4:r.headers=[]) (hm:r.method.length≤900000) (hu:r.url.length≤900000) (ho:r.origin.length≤900000):Zlv w F (ZeR r) none 0 none 0 none 0 (.slice none 0 0):=ZgV _ rfl rfl rfl h4 hm hu ho
theorem Zqh (op id n time status:Int) (ht:0≤time∧time≤18446744073709551615):Zcw (ZiO op id n time status):=Zm8 _ rfl rfl rfl rfl (Xn _) (Xn _) (Xn _) ht ⟨Int.le_refl _,by show(0:Int)≤_;omega⟩
theorem Zrb (op id n time status:Int):Zlv w F (ZiO op id n time status) none 0 none 0 none 0 (.slice none 0 0):=ZgV _ rfl rfl rfl rfl (Xn _) (Xn _) (Xn _)
theorem ZhO (h:Run w0 w b s k F) (hk:k≤240) (op id n time status:Int) (hop:Zdb op) (ht:0≤time∧time≤18446744073709551615):
  Calls Tryz.prog 17 #[.pointer (some ⟨b,0,none⟩), .agg #[.int .i64 op, .int .i64 id, .int .i64 n, .slice none 0 0, .int .u64 time, .int .i64 status, .slice none 0 0, .slice none 0 0, .string ⟨#[]⟩, .string ⟨#[]⟩, .string ⟨#[]⟩, .int .i64 0, .bool false, .slice none 0 0, .int .i64 0, .int .u64 0, .int .i64 0, .int .i64 0]] w (ZmZ w0 b s k F (ZiO op id n time status) w):=
 ZmG h hk (ZiO op id n time status) hop (Zqh op id n time status ht) (Zrb op id n time status)
theorem Zrf (h:Run w0 w b s k F) (hk:k≤240) (r:Yb) (h4:r.headers=[]) (hm:r.method.length≤900000) (hu:r.url.length≤900000) (ho:r.origin.length≤900000) (hr:0≤r.timeout∧r.timeout≤18446744073709551615):
  Calls Tryz.prog 17 #[.pointer (some ⟨b,0,none⟩), .agg (List.foldl (fun(cs:Array Value) (x:Value×Nat)=>cs.setIfInBounds (8+x.snd) x.fst) #[.int .i64 3, .int .i64 0, .int .i64 0, .slice none 0 0, .int .u64 0, .int .i64 0, .slice none 0 0, .slice none 0 0, .string ⟨#[]⟩, .string ⟨#[]⟩, .string ⟨#[]⟩, .int .i64 0, .bool false, .slice none 0 0, .int .i64 0, .int .u64 0, .int .i64 0, .int .i64 0] (Zv r (.slice none 0 0)).zipIdx)] w (ZmZ w0 b s k F (ZeR r) w):=by
 rw[Zou]
 exact ZmG h hk (ZeR r) (by show Zdb 3;decide) (Zq3 r h4 hm hu ho hr) (ZrB r h4 hm hu ho)
theorem Zja (w:World) (hE:Env w):Calls Tryz.prog 14 #[] w fun e w'=>e= .returned (.bool true)∧Zg [] w w':=by
 have HE:=D hE
 have q:=D Yf
 clear hE
 go_enter Tryz.func14,Tryz.ntmps14
 go_wp2_with fail
 refine(ZpW w).mono ?_
 rintro e w1 ⟨rfl,ag⟩
 have al:=D ag
 clear ag
 go_wp2_with fail
 refine(ZqM Zjv (by decide) w1 (HE.upd0 al)).mono ?_
 rintro e w2 ⟨b,F2,rfl,O⟩
 change Run _ _ _ aw1 _ _ at O
 have aF:=D O
 clear O
 go_wp2_with fail
 refine(Zrq [] 2 (by simp) w2).mono ?_
 rintro e w3 ⟨rfl,ah⟩
 have az:=D (aF.upd0 ah)
 clear ah
 go_wp2_with fail
 refine(Zrf az (by omega) (ZmQ [] 2) rfl (by decide) (by decide) (by decide) ⟨by decide,by decide⟩).mono ?_
 rintro e n ⟨aG,aS,rfl,⟨R,M,rfl,_,_⟩,L,aB,_⟩
 change Run _ _ _ aw2.1 _ _ at L
 rw[show(doS aw1 (ZeR (ZmQ [] 2)))=aw2 from rfl,ZqV]
 dsimp only[List.length_nil]
 obtain⟨Y,E,u0⟩:=ZfU L (Z7 ⟨0,1,0,[]⟩ (.slice R 0 M)).toArray rfl
 obtain⟨aR,d⟩:=Je ((n.alloc (.cells #[.int .i64 0, .int .i64 0, .int .i64 0, .slice none 0 0] 39)).setRow n.heap.size (Z7 ⟨0,1,0,[]⟩ (.slice R 0 M)).toArray)
 rw[←d]at Y E u0
 obtain⟨X,p⟩:=Je n.heap.size
 rw[←p]at E d
 have ax:=D Y;have aa:=D E;have aD:=D p
 have aj:=D (show(n.alloc (.cells #[.int .i64 0, .int .i64 0, .int .i64 0, .slice none 0 0] 39)).heap[X]? =some (.cells #[.int .i64 0, .int .i64 0, .int .i64 0, .slice none 0 0] 39 (0,0))by rw[p];exact Za _)
 clear L aB Y E u0 p;change Hid _ at d
 go_wp2_with(rw[←aD.out];refine Jo (Z7 ⟨0,1,0,[]⟩ (.slice R 0 M)).toArray aj q (YH _ _ rfl) ?_;rw[←d.out])
 clear aj d
 go_wp2_with fail
 refine(ZhO ax (by omega) 9 0 0 0 0 (by decide) (by decide)).mono ?_
 rintro e o ⟨aK,aM,rfl,⟨S,W,rfl,_,_⟩,I,ai,_⟩
 change Run _ _ _ aw3.1 _ _ at I
 rw[show(doS aw2.1 (ZiO 9 0 0 0 0))=aw3 from rfl,ZqI]
 dsimp only[List.length_nil]
 obtain⟨r1,F,u1⟩:=ZfU I (Z7 ⟨0,0,1,[]⟩ (.slice S 0 W)).toArray rfl
 obtain⟨aT,k⟩:=Je ((o.alloc (.cells #[.int .i64 0, .int .i64 0, .int .i64 0, .slice none 0 0] 39)).setRow o.heap.size (Z7 ⟨0,0,1,[]⟩ (.slice S 0 W)).toArray)
 rw[←k]at r1 F u1
 obtain⟨L1,r⟩:=Je o.heap.size
 rw[←r]at F k
 have aw:=D r1;have ac:=D F;have aC:=D r;have ab:=D ((aa.step ai).upd0 u1)
 have ak:=D (show(o.alloc (.cells #[.int .i64 0, .int .i64 0, .int .i64 0, .slice none 0 0] 39)).heap[L1]? =some (.cells #[.int .i64 0, .int .i64 0, .int .i64 0, .slice none 0 0] 39 (0,0))by rw[r];exact Za _)
 clear I ai r1 F u1 r;change Hid _ at k
 go_wp2_with(rw[←aC.out];refine Jo (Z7 ⟨0,0,1,[]⟩ (.slice S 0 W)).toArray ak q (YH _ _ rfl) ?_;rw[←k.out])
 clear ak k
 clear aa
 go_wp2_with fail
 refine(ZhO aw (by omega) 10 1 0 0 200 (by decide) (by decide)).mono ?_
 rintro e m ⟨aI,aW,rfl,⟨T,N,rfl,_,_⟩,J,V,_⟩
 change Run _ _ _ aw4.1 _ _ at J
 rw[show(doS aw3.1 (ZiO 10 1 0 0 200))=aw4 from rfl,Zpv]
 dsimp only[List.length_nil]
 obtain⟨r2,H,u2⟩:=ZfU J (Z7 ⟨0,0,0,[]⟩ (.slice T 0 N)).toArray rfl
 obtain⟨aV,i⟩:=Je ((m.alloc (.cells #[.int .i64 0, .int .i64 0, .int .i64 0, .slice none 0 0] 39)).setRow m.heap.size (Z7 ⟨0,0,0,[]⟩ (.slice T 0 N)).toArray)
 rw[←i]at r2 H u2
 obtain⟨L2,y⟩:=Je m.heap.size
 rw[←y]at H i
 have av:=D r2;have au:=D H;have ay:=D y;have ap:=D ((ab.step V).upd0 u2);have ar:=D ((ac.step V).upd0 u2)
 have am:=D (show(m.alloc (.cells #[.int .i64 0, .int .i64 0, .int .i64 0, .slice none 0 0] 39)).heap[L2]? =some (.cells #[.int .i64 0, .int .i64 0, .int .i64 0, .slice none 0 0] 39 (0,0))by rw[y];exact Za _)
 clear J V r2 H u2 y;change Hid _ at i
 go_wp2_with(rw[←ay.out];refine Jo (Z7 ⟨0,0,0,[]⟩ (.slice T 0 N)).toArray am q (YH _ _ rfl) ?_;rw[←i.out])
 clear am i
 clear ab ac
 go_wp2_with fail
 refine(ZhO av (by omega) 12 1 0 0 0 (by decide) (by decide)).mono ?_
 rintro e x ⟨aQ,aO,rfl,⟨P,Q,rfl,_,_⟩,K,s,_⟩
 change Run _ _ _ aw5.1 _ _ at K
 rw[show(doS aw4.1 (ZiO 12 1 0 0 0))=aw5 from rfl,Zqy]
 dsimp only[List.length_nil]
 obtain⟨Z,C,u3⟩:=ZfU K (Z7 ⟨0,0,0,[]⟩ (.slice P 0 Q)).toArray rfl
 obtain⟨aL,l⟩:=Je ((x.alloc (.cells #[.int .i64 0, .int .i64 0, .int .i64 0, .slice none 0 0] 39)).setRow x.heap.size (Z7 ⟨0,0,0,[]⟩ (.slice P 0 Q)).toArray)
 rw[←l]at Z C u3
 obtain⟨L3,z⟩:=Je x.heap.size
 rw[←z]at C l
 have af:=D Z;have aq:=D C;have aA:=D z;have ad:=D ((ap.step s).upd0 u3);have an:=D ((ar.step s).upd0 u3);have ao:=D ((au.step s).upd0 u3)
 have aE:=D (show(x.alloc (.cells #[.int .i64 0, .int .i64 0, .int .i64 0, .slice none 0 0] 39)).heap[L3]? =some (.cells #[.int .i64 0, .int .i64 0, .int .i64 0, .slice none 0 0] 39 (0,0))by rw[z];exact Za _)
 clear K s Z C u3 z;change Hid _ at l
 go_wp2_with(rw[←aA.out];refine Jo (Z7 ⟨0,0,0,[]⟩ (.slice P 0 Q)).toArray aE q (YH _ _ rfl) ?_;rw[←l.out])
 go_wp2_with fail
 refine(Znr af (by omega)).mono ?_
 rw[Zrk]
 rintro e a ⟨v,G,rfl,h,c,_⟩
 rcases h.form with⟨_,h0,_⟩|⟨g,aU,aP,rfl,_⟩
 ·simp at h0
 have k9:a.cell? ⟨g,9,none⟩=some (.int .i64 8):=(h.liesAt (j:=1) rfl) 2 _ rfl
 have aH:a.cell? ⟨g,30,none⟩=some (.int .i64 14):=(h.liesAt (j:=4) rfl) 2 _ rfl
 have aN:a.cell? ⟨g,28,none⟩=some (.int .i64 5):=(h.liesAt (j:=4) rfl) 0 _ rfl
 have a0:a.cell? ⟨X,0,none⟩=some (.int .i64 0):=(ad.upd0 c).cell rfl
 have a1:a.cell? ⟨X,1,none⟩=some (.int .i64 1):=(ad.upd0 c).cell rfl
 have b2:a.cell? ⟨L1,2,none⟩=some (.int .i64 1):=(an.upd0 c).cell rfl
 have d0:a.cell? ⟨L2,0,none⟩=some (.int .i64 0):=(ao.upd0 c).cell rfl
 have f0:a.cell? ⟨L3,0,none⟩=some (.int .i64 0):=(aq.upd0 c).cell rfl
 have ae:=D (af.upd0 c)
 clear h c
 go_wp2_with fail
 refine(Zqu ae).mono ?_
 rw[ZpG]
 rintro e aJ ⟨rfl,rfl⟩
 go_wp2_with fail
 go_ret
 exact⟨rfl,al.trans ae.upd (by simp)⟩
theorem Zjl (c:ZaW) (w:World):
  Calls Tryz.prog 8 #[.agg (Z1 c).toArray] w fun e w'=>e= .returned (.bool (Zak c))∧Zg [] w w':=by
 obtain⟨R,a⟩:=Je (Zak c)
 rw[←a]
 obtain⟨k,h⟩:=Je (w.alloc (.cells (Z1 c).toArray 24))
 obtain⟨L,i⟩:=Je w.heap.size
 have g:k.heap[L]? =some (.cells (Z1 c).toArray 24 (0,0)):=by rw[h,i];exact Za _
 have b:=D (show Zg [] w k by rw[h];exact(Zg.refl [] w).alloc _)
 have q:=Jx 0 g
 have I:=Jx 1 g
 have F:=Jx 2 g
 have z:=Jx 3 g
 have C:=Jx 4 g
 have s:=Jx 5 g
 have K:=Jx 6 g
 clear g;change Hid _ at h i a
 go_enter Tryz.func8,Tryz.ntmps8
 go_upto_region 1 with fail
 rw[←h.out,←i.out]
 by_cases M:1≤c.total
 case neg=>
  go_wp2_with fail
  go_ret
  exact⟨by rw[a.out,ZI c (fun d=>by omega)];rfl,b.out⟩
 by_cases r:c.total≤32
 case neg=>
  go_wp2_with fail
  go_ret
  exact⟨by rw[a.out,ZI c (fun d=>by omega)];rfl,b.out⟩
 by_cases y:1≤c.aging
 case neg=>
  go_wp2_with fail
  go_ret
  exact⟨by rw[a.out,ZI c (fun d=>by omega)];rfl,b.out⟩
 by_cases o:c.aging≤1000
 case neg=>
  go_wp2_with fail
  go_ret
  exact⟨by rw[a.out,ZI c (fun d=>by omega)];rfl,b.out⟩
 by_cases p:1≤c.high
 case neg=>
  go_wp2_with fail
  go_ret
  exact⟨by rw[a.out,ZI c (fun d=>by omega)];rfl,b.out⟩
 by_cases E:c.high≤1024
 case neg=>
  go_wp2_with fail
  go_ret
  exact⟨by rw[a.out,ZI c (fun d=>by omega)];rfl,b.out⟩
 by_cases x:0≤c.low
 case neg=>
  go_wp2_with fail
  go_ret
  exact⟨by rw[a.out,ZI c (fun d=>by omega)];rfl,b.out⟩
 by_cases H:c.low<c.high
 case neg=>
  go_wp2_with fail
  go_ret
  exact⟨by rw[a.out,ZI c (fun d=>by omega)];rfl,b.out⟩
 by_cases J:c.idle≤1000
 case neg=>
  go_wp2_with fail
  go_ret
  exact⟨by rw[a.out,ZI c (fun d=>by omega)];rfl,b.out⟩
 by_cases G:1≤c.cache
 case neg=>
  go_wp2_with fail
  go_ret
  exact⟨by rw[a.out,ZI c (fun d=>by omega)];rfl,b.out⟩
 by_cases n:c.cache≤64
 case neg=>
  go_wp2_with fail
  go_ret
  exact⟨by rw[a.out,ZI c (fun d=>by omega)];rfl,b.out⟩
 by_cases l:1≤c.timeout
 case neg=>
  go_wp2_with fail
  go_ret
  exact⟨by rw[a.out,ZI c (fun d=>by omega)];rfl,b.out⟩
 have j:Zak c=decide ((c.timeout:Int)≤600):=by
  by_cases m:c.timeout≤600
  ·rw[decide_eq_true (show(c.timeout:Int)≤600 by omega)]
   unfold Zak;simp only[Bool.and_eq_true,decide_eq_true_eq];omega
  ·rw[decide_eq_false (show¬(c.timeout:Int)≤600 by omega)]
   exact ZI c (fun d=>by omega)
 change Hid _ at j
 go_wp2_with fail
 go_ret
 refine⟨?_,b.out⟩
 rw[a.out,j.out]
 rfl
theorem ZqJ (c:ZaW) (w:World):(binOp .eql 24 (.agg (Z1 c).toArray) (.agg (Z1 c).toArray)).run Tryz.prog w= .ok (.bool true) w:=by
 have u3:= Tryz.underlying3
 have u5:= Tryz.underlying22
 have f:= Tryz.isAgg3
 have g:= Tryz.isAgg22
 have e:= Tryz.sizeOf3
 have h:= Tryz.sizeOf22
 have a: Tryz.prog.underlying 24=some (.struct (Tryz.prog.fieldsOf 24)):=by kernel_rfl
 have b: Tryz.prog.stoodInHeld 24=false:=by kernel_rfl
 simp only[Z1]
 obtain⟨d,hd⟩:=Je (9998)
 rw[run_eql_struct,show(10000:Nat)=d+1+1 by rw[hd],run_equalIn_agg w (d+1) 24 _ _ a b]
 clear hd a
 simp only[Program.fieldsOf,Tryz.underlying24]
 go_simp
theorem Zlt {P:Program} {Q:Exit→Act→World→Prop} {ops:Array Oper} {i:Nat} {o:Oper} {a a':Act} (ho:ops[i]? =some o) (hg:Region.wanted o (yielded ops a.tmps)=true) (t ty:TypeId) (x y:Operand) (hop:o.op= .binOp .eql t x y ty) (xs ys:Array Value)
  (hx:a.eval x= .agg xs) (hy:a.eval y= .agg ys) (hm:P.eqGuardType P.depth t=false) (b:Bool) (hr:∀W,(binOp .eql t (.agg xs) (.agg ys)).run P W= .ok (.bool b) W) (ha:a.put o.dst (.bool b)=a') (h:Z4 P ops Q r S a' w):Z4 P ops Q ((i,0)::r) S a w:=
 Zd7 (v:= .bool b) ho hg (fun W hW=>by
  unfold execOp
  simp only[hop,Sem.run_bind,Sem.run_pure,Result.andThen_ok,hx,hy,run_eqGuard_agg W _ t x y xs ys hm,hr W]) ha h
theorem Zms (c:ZaW) (hc:Zak c=false) (w:World) (hE:Env w):Calls Tryz.prog 3 #[.agg (Z1 c).toArray] w fun e w'=>e= .returned (.bool true)∧Zg [] w w':=by
 obtain⟨h,i⟩:=Je (w.alloc (.cells (Z1 c).toArray 24))
 obtain⟨L,n⟩:=Je w.heap.size
 have hb:h.heap[L]? =some (.cells (Z1 c).toArray 24 (0,0)):=by rw[i,n];exact Za _
 have l:=Ja i
 have k:=D Zen;have O:=D hb
 have G:=D hE
 have I:=D (Zil c hc h)
 have E:=D hc
 have a:=D (show∀W,Zg [] h W→Zb W L 0 (Z1 c)from fun W H=>Zb.of_block ((H.block L (Jg hb) (by simp)).trans hb))
 clear hb hE hc;change Hid _ at l i n
 go_enter Tryz.func3,Tryz.ntmps3
 go_upto_region 1 with fail
 rw[←i.out,←n.out]
 go_wp2_with(refine Jl (a.out _ (Zg.refl _ _)) k ?_)
 refine I.out.mono ?_
 rintro e M ⟨rfl,p⟩
 have s:=D p
 clear p
 go_wp2_with(refine Jl (a.out _ s) k ?_)
 refine(Zjl c M).mono ?_
 rintro e J ⟨rfl,y⟩
 rw[E.out]
 have F:=Jt s y
 clear y
 go_upto_region 3 with fail
 obtain⟨m,g⟩:=Je J.drew
 have z:=D (show Zg [] h m by rw[g];exact F.drew)
 change Hid _ at g
 refine Jr [0,8,5,12,16,20,24,28,32,36,40,44,48,52,56,60,64,68,72,76,80,84,88,92,96,100,104,108,112,116,120,124,128,132,136,140,144,148,152,156,160,164,168,172,176,180,184,188,192,196,201,204,208] (fun W=>Zb W L 0 (Z1 c)) (by have q:=a.out m z.out;rw[g.out]at q;exact q) ?_
 apply Zq (t:= 24) (x:= .tmp 1) (b:=L) (of:=0) (cs:=Z1 c)
 case ho=>simp only[Xh,Xf,Xg];rfl
 case hg=>rfl
 case hop=>rfl
 case hx=>rfl
 case ht=>exact k.out
 case hb=>exact fun W d=>d
 case ha=>go_simp;rfl
 repeat first|refine Jn ?_|refine Jf ?_|refine Ju ?_
 refine JE ?_
 simp only[Xu]
 rw[←g.out]
 go_wp2_with fail
 refine(Zdj c m).mono ?_
 rintro e K ⟨rfl,C⟩
 rw[E.out]
 have j:=Jt z C
 clear C
 go_wp2_with fail
 refine⟨_,fun W d=>d,a.out _ j,?_⟩
 repeat first|refine Jn ?_|refine Jf ?_|refine Ju ?_
 refine JE ?_
 go_wp2_with fail
 refine(Zja K (G.upd0 (l.trans j (by simp)))).mono ?_
 rintro e N ⟨rfl,r⟩
 have o:=Jt j r
 clear r
 go_wp2_with fail
 refine⟨_,fun W d=>d,a.out _ o,?_⟩
 repeat first|refine Jn ?_|refine Jf ?_|refine Ju ?_
 refine ZL ?_
 go_wp2_with fail
 go_ret
 exact⟨rfl,l.trans o (by simp)⟩
theorem ZmB (c:ZaW) (hc:Zak c=true) (w:World) (hE:Env w):Calls Tryz.prog 3 #[.agg (Z1 c).toArray] w fun e w'=>e= .returned (.bool true)∧Zg [] w w':=by
 obtain⟨k,j⟩:=Je (w.alloc (.cells (Z1 c).toArray 24))
 obtain⟨L,p⟩:=Je w.heap.size
 have hb:k.heap[L]? =some (.cells (Z1 c).toArray 24 (0,0)):=by rw[j,p];exact Za _
 have l:=Ja j
 have h:=D Zen;have S:=D l;have HB:=D hb
 have HE:=D hE
 have V:=D (Znh c hc k (hE.upd0 l))
 have K:=D hc
 have O:=D (show Tryz.prog.eqGuardType Tryz.prog.depth 24=false by kernel_rfl)
 have d:=D (show∀W,Zg [] k W→Zb W L 0 (Z1 c)from fun W Q=>Zb.of_block ((Q.block L (Jg hb) (by simp)).trans hb))
 clear hb l hE hc;change Hid _ at j p
 go_enter Tryz.func3,Tryz.ntmps3
 go_upto_region 1 with fail
 rw[←j.out,←p.out]
 go_wp2_with(refine Jl (d.out _ (Zg.refl _ _)) h ?_)
 refine V.out.mono ?_
 rintro e R ⟨b,F,rfl,hr⟩
 have H:=D hr
 clear hr
 go_wp2_with(refine Jl (d.out _ H.upd) h ?_)
 refine(Zjl c R).mono ?_
 rintro e M ⟨rfl,z⟩
 rw[K.out]
 have N:=D (H.upd0 z)
 clear z
 go_upto_region 3 with fail
 obtain⟨o,i⟩:=Je M.drew
 have E:=D (show Run k o b (newS c) 0 F by rw[i];exact N.upd0 (Zg.refl [] M).drew)
 change Hid _ at i
 refine Jr [0,8,5,12,16,20,24,28,32,36,40,44,48,52,56,60,64,68,72,76,80,84,88,92,96,100,104,108,116,113,120,124,128,133,136,140,144,148,153,156,160,164,168,173,176,180,184,188,192,196,201,204,208] (fun W=>Zb W L 0 (Z1 c)) (by have q:=d.out o E.upd;rw[i.out]at q;exact q) ?_
 apply Zq (t:= 24) (x:= .tmp 1) (b:=L) (of:=0) (cs:=Z1 c)
 case ho=>simp only[Xh,Xf,Xg];rfl
 case hg=>rfl
 case hop=>rfl
 case hx=>rfl
 case ht=>exact h.out
 case hb=>exact fun W a=>a
 case ha=>go_simp;rfl
 repeat first|refine Jn ?_|refine Jf ?_|refine Ju ?_
 refine JE ?_
 simp only[Xu]
 rw[←i.out]
 go_wp2_with fail
 refine(Zdj c o).mono ?_
 rintro e Z ⟨rfl,C⟩
 rw[K.out]
 have m:=D (E.upd0 C)
 clear C
 go_wp2_with fail
 refine⟨_,fun W a=>a,d.out _ m.upd,?_⟩
 repeat first|refine Jn ?_|refine Jf ?_|refine Ju ?_
 apply Zbh (t:= 24) (x:= .tmp 1) (b:=L) (of:=0) (cs:=Z1 c)
 case ho=>simp only[Xh,Xf,Xg];rfl
 case hg=>rfl
 case hop=>rfl
 case hx=>rfl
 case ht=>exact h.out
 case hb=>exact fun W a=>a
 case ha=>go_simp;rfl
 refine JE ?_
 go_wp2_with fail
 refine(ZmJ m).mono ?_
 rintro e w6 ⟨rfl,r⟩
 have g:=D (m.upd0 r)
 clear r
 go_wp2_with fail
 refine⟨_,fun W a=>a,d.out _ g.upd,?_⟩
 rw[show(newS c).conf=c from rfl]
 apply Zlt (t:= 24) (xs:=(Z1 c).toArray) (ys:=(Z1 c).toArray) (b:=true)
 case ho=>simp only[Xh,Xf,Xg];rfl
 case hg=>rfl
 case hop=>rfl
 case hx=>rfl
 case hy=>rfl
 case hm=>exact O.out
 case hr=>exact fun W=>ZqJ c W
 case ha=>go_simp;rfl
 repeat first|refine Jn ?_|refine Jf ?_|refine Ju ?_
 refine JE ?_
 go_wp2_with fail
 refine(Zrl g).mono ?_
 rintro e T ⟨rfl,rfl⟩
 go_wp2_with fail
 refine⟨_,fun W a=>a,d.out _ g.upd,?_⟩
 rw[show(newS c).now=0 from rfl]
 repeat first|refine Jn ?_|refine Jf ?_|refine Ju ?_
 refine JE ?_
 go_wp2_with fail
 refine(ZpR g).mono ?_
 rintro e T ⟨rfl,rfl⟩
 go_wp2_with fail
 refine⟨_,fun W a=>a,d.out _ g.upd,?_⟩
 rw[show(newS c).acts=0 from rfl]
 repeat first|refine Jn ?_|refine Jf ?_|refine Ju ?_
 refine JE ?_
 go_wp2_with fail
 refine(Znr g (by omega)).mono ?_
 rintro e X ⟨v,G,rfl,J,s,_⟩
 obtain⟨A,c8,rfl,_⟩:=J.form'
 rw[show((newS c).log.map Y7).length=0 from rfl]
 have n:=D (g.upd0 s)
 clear J s
 go_wp2_with fail
 refine⟨_,fun W a=>a,d.out _ n.upd,?_⟩
 repeat first|refine Jn ?_|refine Jf ?_|refine Ju ?_
 refine JE ?_
 go_wp2_with fail
 refine(Zja X n.env).mono ?_
 rintro e Y ⟨rfl,I⟩
 have y:=D (n.upd.trans I (by simp))
 have P:=D (d.out _ y)
 clear I
 go_wp2_with fail
 refine⟨_,fun W a=>a,P.out,?_⟩
 repeat first|refine Jn ?_|refine Jf ?_|refine Ju ?_
 refine ZL ?_
 go_wp2_with fail
 go_ret
 exact⟨rfl,S.trans y (by simp)⟩
theorem ZfG (w:World) (c:ZaW) (hE:Env w):Calls Tryz.prog 3 #[.agg (Z1 c).toArray] w fun e w'=>e= .returned (.bool true)∧Below w.heap.size w w':=by
 cases hc:Zak c with
 |false=>exact(Zms c hc w hE).mono fun e w' h=>⟨h.1,h.2.below (by simp)⟩
 |true=>exact(ZmB c hc w hE).mono fun e w' h=>⟨h.1,h.2.below (by simp)⟩
section
variable {H:Type} {enc:TypeId×Value→H} {w:World} {spare:Nat→Bool} {held:Bool}
theorem ZdV {fs:Array Field} {cs:List Value} {x:DataW H×List MemPlace} (ht: Tryz.prog.underlying t=some (.struct fs)) (h:DataW.trod enc Tryz.prog w 0 spare held n t cs=some x) (i:Nat) (T off sz:Nat) (f:Field) (hf:fs[i]? =some f) (hT:f.type=T) (ho:f.offset=off) (hs: Tryz.prog.cellsOf T=sz):
  ∃m y,DataW.trod enc Tryz.prog w 0 spare held m T ((cs.drop off).take sz)=some y:=by
 subst hT ho hs
 obtain⟨d,m,_,_,_,a,b⟩:=DataW.trod_struct ht h
 have c:i<fs.size:=(Jg hf)
 refine⟨m,d[i],?_⟩
 rw[b i f hf]
 simp[a,c]
theorem Zj7 (h:(Lit.int .u64 n).wf=true):n=(n.toNat:Int):=by
 have:=bounds_u64 h
 omega
theorem Zob {cs:List Value} {x:DataW H×List MemPlace} (h:DataW.trod enc Tryz.prog w 0 spare held n 24 cs=some x):∃c:ZaW,cs=Z1 c:=by
 have a:cs.length=7:=by
  obtain⟨P,m,_,_,a,_,_⟩:=DataW.trod_struct Tryz.underlying24 h
  rw[a];kernel_rfl
 obtain⟨K,Q,C⟩:=ZdV Tryz.underlying24 h 0 3 0 1 _ rfl rfl rfl (by kernel_rfl)
 obtain⟨J,E,f⟩:=ZdV Tryz.underlying24 h 1 22 1 1 _ rfl rfl rfl (by kernel_rfl)
 obtain⟨T,Y,j⟩:=ZdV Tryz.underlying24 h 2 3 2 1 _ rfl rfl rfl (by kernel_rfl)
 obtain⟨R,O,b⟩:=ZdV Tryz.underlying24 h 3 3 3 1 _ rfl rfl rfl (by kernel_rfl)
 obtain⟨W,F,d⟩:=ZdV Tryz.underlying24 h 4 22 4 1 _ rfl rfl rfl (by kernel_rfl)
 obtain⟨V,M,l⟩:=ZdV Tryz.underlying24 h 5 3 5 1 _ rfl rfl rfl (by kernel_rfl)
 obtain⟨X,S,g⟩:=ZdV Tryz.underlying24 h 6 22 6 1 _ rfl rfl rfl (by kernel_rfl)
 match cs,a with
 |[c0,c1,c2,c3,c4,c5,c6],_=>
  obtain⟨s0,y,_,G⟩:=DataW.trod_int Tryz.underlying3 C
  obtain rfl:c0= .int .i64 s0:=by simpa using y
  obtain⟨s1,q,_,z⟩:=DataW.trod_int Tryz.underlying22 f
  obtain rfl:c1= .int .u64 s1:=by simpa using q
  obtain⟨s2,p,_,N⟩:=DataW.trod_int Tryz.underlying3 j
  obtain rfl:c2= .int .i64 s2:=by simpa using p
  obtain⟨s3,e,_,I⟩:=DataW.trod_int Tryz.underlying3 b
  obtain rfl:c3= .int .i64 s3:=by simpa using e
  obtain⟨s4,r,_,i⟩:=DataW.trod_int Tryz.underlying22 d
  obtain rfl:c4= .int .u64 s4:=by simpa using r
  obtain⟨s5,s,_,L⟩:=DataW.trod_int Tryz.underlying3 l
  obtain rfl:c5= .int .i64 s5:=by simpa using s
  obtain⟨s6,k,_,o⟩:=DataW.trod_int Tryz.underlying22 g
  obtain rfl:c6= .int .u64 s6:=by simpa using k
  refine⟨⟨s0,s1.toNat,s2,s3,s4.toNat,s5,s6.toNat⟩,?_⟩
  unfold Z1
  rw[←Zj7 z,←Zj7 i,←Zj7 o]
end
end Go.Proofs.YtbgbeddbfaopgaaGreatDoor
namespace Go.Lk
open Go
variable {H:Type} {enc:TypeId×Value→H}
theorem returnsInHanded_of_change_and_shaped {a:Assume} {C:Checked} {os:Os} {f:FuncId} {fn:Func} {s:ChangeSpec} {conds:List PathCond} {apart fresh handsOn again:Bool} {X:World→Array Value→Prop}
  (hX:∀(w w':World) (args:Array Value),w.heap=w'.heap→X w args→X w' args)
  (own:ownKnob C.prog.godebug=none) (started:os.Started) (noInit:C.prog.inits.idxOf? f=none) (hfn:C.prog.funcs[f]? =some fn)
  (witness:∃(w:World) (tape:Tape) (i:Input),w.os=os∧(w.forCall tape i).Shaped C.prog∧i.vars=[]∧Input.okWide C.prog (w.forCall tape i) .any w.heap.size f i∧
   ((s.pre enc C.prog fn conds apart (w.forCall tape i).memory i.args∧X (w.forCall tape i).memory i.args)∧sizedMet enc C.prog fn (OpenSpec.ofChange s) apart (w.forCall tape i).memory i.args)∧a.holds C.prog (lone (Frame.enter C.prog f i.args .normal) [] (w.forCall tape i)))
  (contract:∀(W:World) (base:Nat) (args:Array Value) (ds gs:List (DataW H)) (before:List MemPlace),
   (∀(j:Nat) t v,fn.params[j]? =some t→args[j]? =some v→Value.okWide C.prog W .any base t v)→
   DataW.Whole enc C.prog fn.params.toList s.vars apart W args.toList ds gs before→
   conds.all (PathCond.test C.prog ⟨fn.params.toList,ds,s.plain.varTypes C.prog,gs⟩)=true→
   (DataW.weightsEach C.prog (fn.params.toList++s.plain.varTypes C.prog) (ds++gs)).all (·≤reachBytes)=true→X W args→W.ShapedOpen C.prog→
   a.holds C.prog (lone (Frame.enter C.prog f args .normal) [] W)→
   Calls C.prog f args W fun e W'=>∃v,e= .returned v∧s.post enc C.prog fn apart fresh handsOn again W args v W'):
  ReturnsInHanded a C os f .any (fun w args=>(s.pre enc C.prog fn conds apart w args∧X w args)∧sizedMet enc C.prog fn (OpenSpec.ofChange s) apart w args) (s.post enc C.prog fn apart fresh handsOn again):=by
 refine returnsInHanded_of_calls own started noInit witness ?_
 intro w tape i _ k _ l h c
 obtain⟨_,_,_,m,d,_,_,_,_,g⟩:=l
 have e:m=fn:=Option.some.inj (d.symm.trans hfn)
 subst e
 obtain⟨⟨⟨ds,gs,before,b,q⟩,hx⟩,p⟩:=h
 have n:=DataW.Whole.of_heap (w':=w.forCall tape i) (by rfl) b
 refine(contract (w.forCall tape i) w.heap.size i.args ds gs before g n q (p.weights b) (hX _ _ _ (by rfl) hx) k c).mono fun e W' ⟨v,o,r⟩=> ?_
 subst o
 exact ChangeSpec.post_blind r
end Go.Lk
namespace Go.Proofs.YtbgbeddbfaopgaaGreatDoor
open Go.RowKit Go.Lk
abbrev ZrN:List (String×DataW Unit):=[("math/bits.deBruijn32tab",Rows.laid_math_bits_deBruijn32tab),("math/bits.deBruijn64tab",Rows.laid_math_bits_deBruijn64tab),("internal/strconv.uint64pow10",Rows.laid_internal_strconv_uint64pow10),("unicode/utf8.acceptRanges",Rows.laid_unicode_utf8_acceptRanges),("unicode/utf8.first",Rows.laid_unicode_utf8_first)]
theorem Zqk:(Rows.laid_internal_strconv_uint64pow10:DataW Unit)=Lib.tabData .u64 Lib.pow10Tab:=by rfl
theorem Zp4 (hL:laidMetH Tryz.prog ZrN W) (hSh:W.ShapedOpen Tryz.prog):Env W:=by
 rw[MakeChecks.laidMetH_plain _ _ _ (by kernel_rfl)]at hL
 have h:=hL.tail.tail
 rw[Zqk]at h
 exact⟨cell_of_shapedOpen_int (t:= 3) (zero:= #[.int .i64 0]) hSh (by decide+kernel) (by kernel_rfl) rfl (by kernel_rfl) (by kernel_rfl) Tryz.underlying3,
  Lib.tabIs_of_head ZiF (by kernel_rfl) Tryz.underlying430 Tryz.underlying22 (by kernel_rfl) (by kernel_rfl) h⟩
end Go.Proofs.YtbgbeddbfaopgaaGreatDoor
namespace Go.Proofs.YtbgbeddbfaopgaaGreatDoor.schedConfigs
open Go.ChangeShapes Go.WideShapes Go.ChangeAt Go.RowKit Go.Lk
open Go.ChangeMaps (open_string shut_string)
theorem own:ownKnob Tryz.prog.godebug=none:=by kernel_rfl
theorem Zro:laidOutB Tryz.prog=true:=by kernel_rfl
theorem lifted (os:Os) (started:os.Started) (H:Type) (enc:TypeId×Value→H):
  ReturnsInHanded {} Tryz.checked os 3 .any (fun w args=>(Rows.schedConfigsSpec.pre enc Tryz.prog Tryz.f3 Rows.schedConfigsRow.domain false w args∧laidMetH Tryz.prog Rows.schedConfigsRow.laid w)∧sizedMet enc Tryz.prog Tryz.f3 (OpenSpec.ofChange Rows.schedConfigsSpec) false w args) (Rows.schedConfigsSpec.post enc Tryz.prog Tryz.f3 false true false false):=by
 refine Go.Lk.returnsInHanded_of_change_and_shaped (C:= Tryz.checked) (X:=fun w _=>laidMetH Tryz.prog Rows.schedConfigsRow.laid w) (fun _ _ _ N h=>h.of_heap N) own started (by kernel_rfl) Tryz.func3
  (ChangeSpec.witness_shaped (enc:=enc) (C:= Tryz.checked) (os:=os) (X:=fun w _=>laidMetH Tryz.prog Rows.schedConfigsRow.laid w) false (World.laidAll Tryz.prog os Rows.schedConfigsRow.laid) #[.agg #[.int .i64 0, .int .u64 0, .int .i64 0, .int .i64 0, .int .u64 0, .int .i64 0, .int .u64 0]] 8 (World.laidAll_os _ _ _)
   (World.shaped_of_ZipB (by kernel_rfl) (by kernel_rfl)) (by kernel_rfl) (by kernel_rfl) (by kernel_rfl)
   (by rw[MakeChecks.laidMetH_plain _ _ _ (by kernel_rfl)];exact laidMet_laidAll _ (by kernel_rfl) (by kernel_rfl))) ?_
 intro W r args G gs R a k V _ L E _
 have K:Env W:=Zp4 L E
 have b:∀(j:Nat) t v,Tryz.f3.params[j]? =some t→args[j]? =some v→Value.okWide Tryz.prog W .any r t v:=a
 have y:=k
 obtain⟨p,q,d,M,rfl,Z,Y⟩:=k
 have n:DataW.TrodAll enc Tryz.prog W 0 (fun _=>true) true Tryz.f3.params.toList args.toList G p:=d
 rw[Tryz.params3]at n b
 obtain⟨g,aa,d0,ab,J,q0,T,rfl,rfl,o,I⟩:=trodAll_cons n
 obtain⟨rfl,rfl,rfl⟩:=trodAll_nil I
 obtain rfl:args= #[g]:=by cases args;simp_all
 obtain⟨rfl,rfl⟩:=trodVars_none M
 have i:=o
 have z:∀x∈J,x.block<W.heap.size:=by obtain⟨m,Q⟩:=i;exact DataW.trod_lt m _ _ _ Q
 obtain⟨F,rfl,_⟩:=okWide_struct Tryz.underlying24 (b 0 24 g rfl rfl)
 obtain⟨S,s⟩:=o
 obtain⟨l,O⟩:=Zob s
 obtain rfl:F=(Z1 l).toArray:=by rw[←O];simp[Value.cells]
 clear d a
 refine(ZfG W l K).mono fun e W' ⟨P,c⟩=> ?_
 subst P
 exact⟨_,rfl,_,_,_,[],_,[],y,trodAll_mk1 (shut_bool Tryz.underlying4 _),(trodAll_cons_mk (Below.trod Zro (by kernel_rfl) (of_decide_eq_true (by kernel_rfl)) i c z) trodAll_mk0),rfl,c.frame _,fun h=>by cases h⟩
theorem Zal {a b:Bool} (h:a=true) (k:b=true):(a&&b)=true:=by rw[h,k];rfl
theorem jf0:(Rows.schedConfigsRow.wf (OpenSpec.ofChange Rows.schedConfigsSpec))=true:=by kernel_rfl
theorem jf1:(laidOutB Tryz.prog)=true:=by kernel_rfl
theorem jf2:(mapsRowed Tryz.prog)=true:=by kernel_rfl
theorem jf3:(Tryz.f3.params.all (Tryz.prog.readableRec ·))=true:=by kernel_rfl
theorem jf4:(namedTie Tryz.prog Rows.schedConfigsRow.named Rows.schedConfigsSpec.vars)=true:=by kernel_rfl
theorem jf5:((Rows.schedConfigsRow.stops==[]))=true:=by kernel_rfl
theorem jf6:((Tryz.prog.stops==[]))=true:=by kernel_rfl
theorem jf7:((Rows.schedConfigsRow.knobs==[]))=true:=by kernel_rfl
theorem jf8:((Tryz.prog.stopKnobs==[]))=true:=by kernel_rfl
theorem jf9:((Rows.schedConfigsRow.inPlace== Tryz.prog.inPlace 3))=true:=by kernel_rfl
theorem Zr7:((Rows.schedConfigsRow.unfollowed== Tryz.prog.unfollowed 3))=true:=by kernel_rfl
theorem ZrX:((Rows.schedConfigsRow.recurses== Tryz.prog.recurses 3))=true:=by kernel_rfl
theorem ZrR:((Rows.schedConfigsRow.named== Tryz.prog.varsNamed 3))=true:=by kernel_rfl
theorem ZrT:((Rows.schedConfigsRow.maps==(Tryz.f3.params.toList++Rows.schedConfigsSpec.plain.varTypes Tryz.prog).any (Tryz.prog.mapsRec ·)))=true:=by kernel_rfl
theorem ZrV:((Rows.schedConfigsRow.ifaces==(Tryz.f3.params.toList++Rows.schedConfigsSpec.plain.varTypes Tryz.prog).any (Tryz.prog.ifacesRec ·)))=true:=by kernel_rfl
theorem ZrQ:((Rows.schedConfigsRow.mapsOut== Tryz.prog.mapsAmong Tryz.f3.resultTypes.toList))=true:=by kernel_rfl
theorem ZrS:((Rows.schedConfigsRow.loops==(Tryz.f3.params.toList++Rows.schedConfigsSpec.plain.varTypes Tryz.prog).any (Tryz.prog.loopsFrom ·)))=true:=by kernel_rfl
theorem ZrW:((Rows.schedConfigsRow.wideKeys==(Tryz.f3.params.toList++Rows.schedConfigsSpec.plain.varTypes Tryz.prog++ Tryz.f3.resultTypes.toList).any (Tryz.prog.wideKeysFrom ·)))=true:=by kernel_rfl
theorem Zsb:(Rows.schedConfigsSpec.vars.all (Tryz.prog.varReadable ·))=true:=by kernel_rfl
theorem Zr5:(Tryz.f3.resultTypes.all (fun t=> Tryz.prog.readableRec t&&decide (t< Tryz.prog.types.size)))=true:=by kernel_rfl
theorem Zr2:((Rows.schedConfigsRow.ifacesOut== Tryz.f3.resultTypes.toList.any (Tryz.prog.ifacesRec ·)))=true:=by kernel_rfl
theorem Zr8:((Rows.schedConfigsRow.loopsOut== Tryz.f3.resultTypes.toList.any (Tryz.prog.loopsFrom ·)))=true:=by kernel_rfl
theorem Zr1:((Rows.schedConfigsRow.plainKeys== Tryz.prog.plainKeys))=true:=by kernel_rfl
theorem Zr0:(Rows.schedConfigsRow.shortTexts.isNone)=true:=by kernel_rfl
theorem Zr9:(Tryz.prog.stopsHeard)=true:=by kernel_rfl
theorem ZrZ:(Tryz.prog.mayEnter)=true:=by kernel_rfl
theorem ZrP:((Rows.schedConfigsRow.lifted== Tryz.prog.liftsFinal))=true:=by kernel_rfl
theorem Zr6:((Tryz.prog.make==some Rows.schedConfigsRow.make))=true:=by kernel_rfl
theorem Zr4:((Rows.schedConfigsRow.pinned==Rows.schedConfigsRow.pinnedBy))=true:=by kernel_rfl
theorem Zsa:((Rows.schedConfigsRow.veiled==(Tryz.f3.params.toList++Rows.schedConfigsSpec.plain.varTypes Tryz.prog++ Tryz.f3.resultTypes.toList).any (Tryz.prog.veiledRec ·)))=true:=by kernel_rfl
theorem Zr3:(Rows.schedConfigsRow.veiledFits Tryz.prog Tryz.f3.params.toList (Tryz.f3.params.toList++Rows.schedConfigsSpec.plain.varTypes Tryz.prog++ Tryz.f3.resultTypes.toList))=true:=by kernel_rfl
theorem Zrx:joinedFacts Tryz.prog 3 Tryz.f3 Rows.schedConfigsSpec Rows.schedConfigsRow=true:=by
 unfold joinedFacts
 exact Zal (Zal (Zal (Zal (Zal (Zal (Zal (Zal (Zal (Zal (Zal (Zal (Zal (Zal (Zal (Zal (Zal (Zal (Zal (Zal (Zal (Zal (Zal (Zal (Zal (Zal (Zal (Zal (Zal (Zal (Zal (jf0) jf1) jf2) jf3) jf4) jf5) jf6) jf7) jf8) jf9) Zr7) ZrX) ZrR) ZrT) ZrV) ZrQ) ZrS) ZrW) Zsb) Zr5) Zr2) Zr8) Zr1) Zr0) Zr9) ZrZ) ZrP) Zr6) (by as_aux_lemma=>kernel_rfl)) Zr4) Zsa) Zr3
theorem over:Rows.SchedConfigsSaid:=
 OpenClaim.holds_of_wide 3 Tryz.f3 rfl rfl rfl rfl rfl rfl rfl ⟨rfl,rfl,rfl,rfl,rfl⟩ rfl rfl rfl rfl rfl (by as_aux_lemma=>kernel_rfl) Tryz.func3 Zrx
  (of_decide_eq_true (by kernel_rfl)) (by unfold Func.isWrapper;first|(rw[if_pos (by decide+kernel)];kernel_rfl)|(rw[if_neg (by decide+kernel)];exact⟨rfl,rfl⟩))
  (fun os started H enc _=>lifted os started H enc)
theorem ZpE {P:Program} (h:P.funcs.any Func.goes=false) (f:FuncId):P.goes f=false:=by
 unfold Program.goes
 rw[h,Bool.and_false,Bool.or_false,List.any_eq_false]
 intro g _
 cases hg:P.funcs[g]? with
 |none=>simp
 |some fn=>
  have a:=Array.any_eq_false.1 h g (Jg hg)
  rw[(Array.getElem?_eq_some_iff.1 hg).2]at a
  simpa using a
theorem pf: Tryz.prog.funcs.any Func.goes=false:=by kernel_rfl
theorem pg:false=Rows.schedConfigsRow.goesBy Tryz.prog:=by
 unfold OpenClaim.goesBy Program.goesAt Program.goesFrom
 cases Tryz.prog.funcNamed Rows.schedConfigsRow.func with
 |none=>rfl
 |some f=>rw[Option.any_some,ZpE pf];rfl
theorem pw:Rows.schedConfigsRow.wfByText (OpenSpec.ofChange Rows.schedConfigsSpec)=true:=by kernel_rfl
theorem pm: Tryz.prog.mainIs=some (Rows.schedConfigsCard.stood.harness.1,Rows.schedConfigsCard.stood.harness.2.toList):=by kernel_rfl
theorem pl:false= Tryz.prog.looks []:=by kernel_rfl
theorem proved:Rows.SchedConfigsCardSaid:=
 Claim7.holds_tied_plain_at .later [] Rows.schedConfigsCard.laidKinds true Rows.schedConfigsCard.stood.harness false over (fun _ h=>by cases h) pw (fun _ h=>by cases h) schedConfigs_row_tie rfl ⟨rfl,rfl⟩ pm rfl
  (fun f fn hf hfn=>by
   obtain rfl:f= 3:=Option.some.inj ((show Tryz.prog.funcNamed "lockkeeper/lockkeeperlaw26.SchedConfigs"=some 3 by kernel_rfl).symm.trans hf)|>.symm
   obtain rfl:fn= Tryz.f3:=(Option.some.inj (Tryz.func3.symm.trans hfn)).symm
   exact⟨pl,fun j t ht=>by
    rw[Tryz.params3]at ht
    have hm:t∈[24]:=by simpa using Array.mem_of_getElem? ht
    have hall:([24].all fun u=> !Tryz.prog.wantsStandIn u)=true:=by kernel_rfl
    exact(show Tryz.prog.wantsStandIn t=false by simpa using Xk.1 hall t hm)⟩)
  pg
end Go.Proofs.YtbgbeddbfaopgaaGreatDoor.schedConfigs
