import Derived.LaidEqlPtr
import Derived.Test.YtlhapbopmplngaaGreatDoorS15
import Derived.Test.YtlhapbopmplngaaGreatDoorS19
import Derived.Test.YtlhapbopmplngaaGreatDoorS20
import Derived.Test.YtlhapbopmplngaaGreatDoorS21
import Derived.Test.YtlhapbopmplngaaGreatDoorS26
import Derived.Test.YtlhapbopmplngaaGreatDoorS27
import Derived.Test.YtlhapbopmplngaaGreatDoorS31
import Derived.Test.YtlhapbopmplngaaGreatDoorS34
import Derived.Test.YtlhapbopmplngaaGreatDoorS35
set_option linter.all false
set_option maxHeartbeats 16000000
set_option maxRecDepth 100000
set_option autoImplicit true
set_option relaxedAutoImplicit true
namespace Go.Lk
open Go.RowKit
theorem Zi.off {L:Nat} (h:Zi w w1 F F1) (hL:L<w.heap.size) (hn:L∉F):w1.heap[L]? =w.heap[L]?∧L∉F1:=
 ⟨h.upd.block L hL hn,fun hm=>by
  rcases h.new L hm with h1|h1
  ·exact hn h1
  ·omega⟩
theorem Zi.upd0 (h:Zi w w1 F F1) (hu:Zg [] w1 w2):Zi w w2 F F1:=⟨h.upd.trans hu,h.new⟩
theorem Zi.pre0 (hu:Zg [] w w1) (h:Zi w1 w2 F F1):Zi w w2 F F1:=
 ⟨(hu.weaken (by simp)).trans h.upd (fun k hk=> .inr hk),fun k hk=>by
  rcases h.new k hk with h1|h1
  ·exact .inl h1
  ·right;have:=hu.size;omega⟩
end Go.Lk
namespace Go.Proofs.YtlhapbopmplngaaGreatDoor
open Go.RowKit Go.Lk
structure Ym where
 clock:Nat
 pool:Nat
 queue:Nat
 cache:Nat
 wheel:Nat
 groups:Nat
 signals:Nat
 shares:Nat
 book:Nat
 fps:List Nat
 qps:List Nat
abbrev Zhv (p:Nat):Value:= .pointer (some ⟨p,0,none⟩)
abbrev Zc6 (p:Nat):List Value:=[.pointer (some ⟨p,0,none⟩)]
def YZ (s:Ze) (P:Ym) (va vp vl:Value):List Value:=
 [.int .i64 s.conf.total, .int .u64 s.conf.aging, .int .i64 s.conf.high, .int .i64 s.conf.low, .int .u64 s.conf.idle, .int .i64 s.conf.cache, .int .u64 s.conf.timeout,
  Zhv P.clock,Zhv P.pool,Zhv P.queue,Zhv P.cache,Zhv P.wheel,Zhv P.groups,Zhv P.signals,Zhv P.shares,Zhv P.book, .int .i64 s.made,va,vp,vl, .int .i64 s.acts, .int .i64 s.all.length]
def Y7 (e:Zin):List Value:=[.int .i64 e.act, .int .u64 e.at_, .int .i64 e.kind, .int .i64 e.id, .int .i64 e.pre, .int .i64 e.conn, .int .i64 e.n]
def ZbE (p:ZG):List Value:=[.int .i64 p.num, .int .i64 p.item, .int .i64 p.conn, .string ⟨p.key.toArray⟩]
def Zau (f:ZC) (lk:Bool) (vh:Value) (lb:Nat) (vb:Value):List Value:=
 [.int .i64 f.id, .string ⟨f.req.method.toArray⟩, .string ⟨f.req.url.toArray⟩, .string ⟨f.req.origin.toArray⟩, .int .i64 f.req.mode, .bool f.req.creds,vh, .int .i64 f.req.cls, .int .u64 f.req.timeout, .int .i64 f.req.group, .int .i64 f.req.signal,
  .string ⟨f.key.toArray⟩,Zhv lb, .int .u64 f.since, .int .i64 f.timer, .bool f.cleared, .int .i64 f.pre, .int .i64 f.conn,vb, .int .u32 (if f.ended&& !lk then 1 else 0), .int .i32 (if lk then 1 else 0), .int .u32 0]
def Zao (vb:Value):Option ZaP→YD
 |none=>fun w F=>F=[]∧vb= .pointer none
 |some s=>fun w F=>∃sb b rb H L:Nat,F=[sb,b,rb]∧vb=Zhv sb∧s.high=H∧s.low=L∧ZdY w sb b rb H L s.state s.paused (if s.state=3 then 1 else 0) s.q∧(s.state=3→s.paused=false∧s.q=[])
theorem ZaD (vb:Value) (o:Option ZaP):(Zao vb o).Local:=by
 cases o with
 |none=>exact⟨(by rintro w F ⟨rfl,h⟩ k c;cases c),(by rintro w l F G ⟨rfl,h⟩ f a;exact⟨rfl,h⟩)⟩
 |some s=>
  refine⟨?_,?_⟩
  ·rintro w F ⟨d,b,e,H,L,rfl,_,_,_,h,_⟩ k c
   have:=h.ring.lt
   simp only[List.mem_cons,List.not_mem_nil,or_false]at c
   rcases c with rfl|rfl|rfl
   ·exact lt_of_block h.hb
   ·exact this.1
   ·exact this.2
  ·rintro w l F G ⟨d,b,e,H,L,rfl,m,g,j,h,i⟩ f a
   exact⟨d,b,e,H,L,rfl,m,g,j,h.upd f (a _ (by simp)) (a _ (by simp)) (a _ (by simp)),i⟩
structure YP (w:World) (p:Nat) (f:ZC) (lk:Bool) (vh:Value) (lb:Nat) (vb:Value) (Gh Gb:List Nat):Prop where
 blk:w.heap[p]? =some (.cells (Zau f lk vh lb vb).toArray 104 (0,0))
 hdrs:Zbq vh f.req.headers w Gh
 life:Za2 w lb f.state (if Zcz f.state then 1 else 0) (if Zcz f.state then 1 else 0)
 body:Zao vb f.body w Gb
 pl:p≠lb
 ph:p∉Gh
 pb:p∉Gb
 lh:lb∉Gh
 lbb:lb∉Gb
 hb:Z8 Gh Gb
abbrev Za3 (p lb:Nat) (Gh Gb:List Nat):List Nat:=p::lb::(Gh++Gb)
theorem YP.upd (h:YP w p f lk vh lb vb Gh Gb) (hu:Zg G w w1) (hd:∀k∈Za3 p lb Gh Gb,k∉G:=by simp):YP w1 p f lk vh lb vb Gh Gb:=
 {h with
  blk:=(Kv hu h.blk (hd p (by simp)))
  hdrs:=(Yb _ _).upd h.hdrs hu (fun k hk=>hd k (by simp[hk]))
  life:=h.life.upd hu (hd lb (by simp))
  body:=(ZaD _ _).upd h.body hu (fun k hk=>hd k (by simp[hk]))}
theorem YP.lt (h:YP w p f lk vh lb vb Gh Gb):∀k∈Za3 p lb Gh Gb,k<w.heap.size:=fun k hk=>by
 simp only[Za3,List.mem_cons,List.mem_append]at hk
 rcases hk with rfl|rfl|hk|hk
 ·exact(Jg h.blk)
 ·exact(Jg h.life.hb)
 ·exact(Yb _ _).lt h.hdrs k hk
 ·exact(ZaD _ _).lt h.body k hk
def Zch (p:Nat) (f:ZC) (lk:Bool):YD:=fun w F=>∃vh lb vb Gh Gb,F=Za3 p lb Gh Gb∧YP w p f lk vh lb vb Gh Gb
theorem ZhU (p:Nat) (f:ZC) (lk:Bool):(Zch p f lk).Local where
 lt:=by rintro w F ⟨vh,lb,vb,Gh,Gb,rfl,h⟩;exact h.lt
 upd:=by rintro w w1 F G ⟨vh,lb,vb,Gh,Gb,rfl,h⟩ hu hF;exact⟨vh,lb,vb,Gh,Gb,rfl,h.upd hu hF⟩
theorem YP.setBlk {lk lk':Bool} (h:YP w p f lk vh lb vb Gh Gb) (hu:Zg [p] w w1)
   (hb:w1.heap[p]? =some (.cells (Zau f' lk' vh lb vb).toArray 104 (0,0))) (e1:f'.req.headers=f.req.headers) (e2:f'.state=f.state) (e3:f'.body=f.body):
   YP w1 p f' lk' vh lb vb Gh Gb∧Zi w w1 (Za3 p lb Gh Gb) (Za3 p lb Gh Gb):=
 ⟨{h with
   blk:=hb
   hdrs:=by rw[e1];exact(Yb _ _).upd h.hdrs hu (fun k hk hm=>h.ph (by rw[Jm hm]at hk;exact hk))
   life:=by rw[e2];exact h.life.upd hu (fun hm=>h.pl (Jm hm).symm)
   body:=by rw[e3];exact(ZaD _ _).upd h.body hu (fun k hk hm=>h.pb (by rw[Jm hm]at hk;exact hk))},
  Zi.of_upd (hu.weaken (fun k hk=> .inr (by simp at hk;simp[hk])))⟩
theorem YP.setLife (h:YP w p f lk vh lb vb Gh Gb) (st:Int) (hu:Zg [lb] w w1)
   (hl:Za2 w1 lb st (if Zcz st then 1 else 0) (if Zcz st then 1 else 0)):
   YP w1 p {f with state:=st} lk vh lb vb Gh Gb∧Zi w w1 (Za3 p lb Gh Gb) (Za3 p lb Gh Gb):=
 ⟨{h with
   blk:=(Kv hu h.blk (by simpa using h.pl))
   hdrs:=(Yb _ _).upd h.hdrs hu (fun k hk hm=>h.lh (by rw[Jm hm]at hk;exact hk))
   life:=hl
   body:=(ZaD _ _).upd h.body hu (fun k hk hm=>h.lbb (by rw[Jm hm]at hk;exact hk))},
  Zi.of_upd (hu.weaken (fun k hk=> .inr (by simp at hk;simp[hk])))⟩
theorem YP.setBody (h:YP w p f lk vh lb vb Gh Gb) (o:Option ZaP) (hu:Zg Gb w w1)
   (hl:Zao vb o w1 Gb):YP w1 p {f with body:=o} lk vh lb vb Gh Gb∧Zi w w1 (Za3 p lb Gh Gb) (Za3 p lb Gh Gb):=
 ⟨{h with
   blk:=Kv hu h.blk h.pb
   hdrs:=(Yb _ _).upd h.hdrs hu (fun k hk hm=>h.hb k hk hm)
   life:=h.life.upd hu h.lbb
   body:=hl},
  Zi.of_upd (hu.weaken (fun k hk=> .inr (by simp[hk])))⟩
theorem YP.newBody {vb vb':Value} {Gh Gb Gb':List Nat} (h:YP w p f lk vh lb vb Gh Gb) (o:Option ZaP) (hu:Zg [] w w1)
  (hl:Zao vb' o w1 Gb') (hn:∀k∈Gb',w.heap.size≤k) (hu2:Zg [p] w1 w2) (hb:w2.heap[p]? =some (.cells (Zau f lk vh lb vb').toArray 104 (0,0))):
  YP w2 p {f with body:=o} lk vh lb vb' Gh Gb'∧Zi w w2 (Za3 p lb Gh Gb) (Za3 p lb Gh Gb'):=by
 have d:=h.upd hu
 have c:=h.lt
 have e:p∉Gb':=fun b=>by have:=hn p b;have:=c p (by simp);omega
 refine⟨{d with
  blk:=hb
  hdrs:=(Yb _ _).upd d.hdrs hu2 (fun k a b=>h.ph (by rw[Jm b]at a;exact a))
  life:=d.life.upd hu2 (fun b=>h.pl (Jm b).symm)
  body:=(ZaD _ _).upd hl hu2 (fun k a b=>e (by rw[Jm b]at a;exact a))
  pb:=e
  lbb:=fun b=>by have:=hn lb b;have:=c lb (by simp);omega
  hb:=fun k a b=>by have:=hn k b;have:=c k (by simp[a]);omega},(hu.weaken (by simp)).trans hu2 (fun k a=> .inr (by simp at a;simp[a])),fun k a=> ?_⟩
 simp only[Za3,List.mem_cons,List.mem_append]at a⊢
 rcases a with a|a|a|a
 ·exact .inl (.inl a)
 ·exact .inl (.inr (.inl a))
 ·exact .inl (.inr (.inr (.inl a)))
 ·exact .inr (hn k a)
def Zbf (ps:List Nat) (lk:Option Nat) (l:List ZC):List YD:=(ps.zip l).mapIdx fun i x=>Zch x.1 x.2 (lk==some i)
def ZcI (q:Nat) (x:ZG):YD:=Zaz q (ZbE x).toArray 255
def YI (qs:List Nat) (l:List ZG):List YD:=List.zipWith ZcI qs l
theorem Zrw {α β:Type} {ps:List α} {l:List β} {i j:Nat} {x:β} (h:i≠j):(ps.zip (l.set i x))[j]? =(ps.zip l)[j]? :=by
 unfold List.zip
 rw[List.getElem?_zipWith,List.getElem?_zipWith,Xt h]
theorem Zfn {ps:List Nat} {l:List ZC} {i p:Nat} (hp:ps[i]? =some p) (hf:l[i]? =some f):(Zbf ps lk l)[i]? =some (Zch p f (lk==some i)):=by
 unfold Zbf
 have a:(ps.zip l)[i]? =some (p,f):=List.getElem?_zip_eq_some.2 ⟨hp,hf⟩
 rw[List.getElem?_mapIdx,a];rfl
theorem ZcF (ps:List Nat) (lk:Option Nat) (l:List ZC):∀A∈Zbf ps lk l,A.Local:=by
 intro A a
 unfold Zbf at a
 obtain⟨i,h,rfl⟩:=List.mem_mapIdx.1 a
 exact ZhU _ _ _
theorem Zml {ps:List Nat} {lk lk':Option Nat} {l:List ZC} {i p:Nat} (hp:ps[i]? =some p) (hf:l[i]? =some f) (hlk:∀j,j≠i→(lk'==some j)=(lk==some j)):
  Zbf ps lk' (l.set i f')=(Zbf ps lk l).set i (Zch p f' (lk'==some i)):=by
 apply List.ext_getElem?
 intro j
 have b:i<l.length:=(Jk hf)
 have c:i<ps.length:=(Jk hp)
 by_cases a:i=j
 ·subst a
  rw[Zfn (f:=f') hp (by rw[List.getElem?_set_self b]),List.getElem?_set_self (by unfold Zbf;simp;omega)]
 ·rw[Xt a]
  unfold Zbf
  rw[List.getElem?_mapIdx,List.getElem?_mapIdx,Zrw a,hlk j (fun e=>a e.symm)]
theorem Zmw {ps:List Nat} {l:List ZC} (h:ps.length=l.length) (p:Nat) (f:ZC):Zbf (ps++[p]) lk (l++[f])=Zbf ps lk l++[Zch p f (lk==some l.length)]:=by
 unfold Zbf
 rw[List.zip_append h,List.mapIdx_append]
 congr 1
 simp[h]
theorem Zdk {qs:List Nat} {l:List ZG} {i q:Nat} (hq:qs[i]? =some q) (hx:l[i]? =some x):(YI qs l)[i]? =some (ZcI q x):=by
 unfold YI
 rw[List.getElem?_zipWith,hq,hx]
theorem Zbk (qs:List Nat) (l:List ZG):∀A∈YI qs l,A.Local:=by
 intro A b
 obtain⟨i,a⟩:=List.getElem?_of_mem b
 unfold YI at a
 rw[List.getElem?_zipWith]at a
 split at a
 ·injection a with a;rw[←a];exact ZcP _ _ _
 ·cases a
theorem Zlm {qs:List Nat} {l:List ZG} (h:qs.length=l.length) (q:Nat) (x:ZG):YI (qs++[q]) (l++[x])=YI qs l++[ZcI q x]:=by
 unfold YI
 rw[List.zipWith_append h];rfl
theorem Zl6 {qs:List Nat} {l:List ZG} {i q:Nat} (hq:qs[i]? =some q) (x:ZG):YI qs (l.set i x)=(YI qs l).set i (ZcI q x):=by
 apply List.ext_getElem?
 intro j
 unfold YI
 by_cases a:i=j
 ·subst a
  by_cases b:i<l.length
  ·have c:i<qs.length:=(Jk hq)
   rw[List.getElem?_zipWith,List.getElem?_set_self b,List.getElem?_set_self (by simp;omega),hq]
  ·rw[List.getElem?_eq_none (by simp;omega),List.getElem?_eq_none (by simp;omega)]
 ·rw[Xt a,List.getElem?_zipWith,List.getElem?_zipWith,Xt a]
def Zc2 (b t:Nat):YD:=fun w F=>F=[b]∧ZdJ w b t
theorem Yo (b t:Nat):(Zc2 b t).Local where
 lt:=by rintro w F ⟨rfl,h⟩ k hk;rw[Jm hk];exact lt_of_block h.1
 upd:=by rintro w w1 F G ⟨rfl,h⟩ hu hF;exact⟨rfl,(Kv hu h.1 (hF b (by simp))),h.2⟩
theorem Yk (b:Nat) (last:Int) (l:List ZE):(Zcd b last l).Local:=ZdN _ _ _ _ _ _ _ _
def ZV (b:Nat) (P:Ym) (lk:Option Nat) (s:Ze) (va vp vl:Value):List YD:=
 [Zaz b (YZ s P va vp vl).toArray 77,Zk 90 1 va (P.fps.map Zc6),Zk 152 1 vp (P.qps.map Zc6),Zk 54 7 vl (s.log.map Y7),
  Zc2 P.clock s.now,YO P.pool s.pool,YB P.queue s.conf.aging s.queue,Yf P.cache (max 1 (min s.conf.cache 64)) s.cache,Yr P.wheel 256 s.tlast s.timers,
  ZcV P.groups s.groups,Zd7 P.signals s.signals,Zcd P.shares s.slast s.shares,YR P.book s.book,YD.list (Zbf P.fps lk s.all),YD.list (YI P.qps s.pres)]
theorem Yc (b:Nat) (P:Ym) (lk:Option Nat) (s:Ze) (va vp vl:Value):∀A∈ZV b P lk s va vp vl,A.Local:=by
 intro A a
 simp only[ZV,List.mem_cons,List.not_mem_nil,or_false]at a
 rcases a with rfl|rfl|rfl|rfl|rfl|rfl|rfl|rfl|rfl|rfl|rfl|rfl|rfl|rfl|rfl
 ·exact ZcP _ _ _
 ·exact Zc _ _ _ _
 ·exact Zc _ _ _ _
 ·exact Zc _ _ _ _
 ·exact Yo _ _
 ·exact ZU _ _
 ·exact ZP _ _ _
 ·exact ZF _ _ _
 ·exact Z5 _ _ _ _
 ·exact Yl _ _
 ·exact Yy _ _
 ·exact Yk _ _ _
 ·exact ZD _ _
 ·exact YD.list_local (ZcF _ _ _)
 ·exact YD.list_local (Zbk _ _)
structure Zh (w:World) (b:Nat) (P:Ym) (lk:Option Nat) (s:Ze) (va vp vl:Value) (F:List Nat):Prop where
 lay:YD.list (ZV b P lk s va vp vl) w F
 fl:P.fps.length=s.all.length
 ql:P.qps.length=s.pres.length
 two:∀k∈F,2≤k
theorem Zh.lt (h:Zh w b P lk s va vp vl F):∀k∈F,k<w.heap.size:=(YD.list_local (Yc _ _ _ _ _ _ _)).lt h.lay
theorem Zh.upd (h:Zh w b P lk s va vp vl F) (hu:Zg G w w1) (hG:∀k∈F,k∉G:=by simp):Zh w1 b P lk s va vp vl F:=
 {h with lay:=(YD.list_local (Yc _ _ _ _ _ _ _)).upd h.lay hu hG}
theorem Zh.upd0 (h:Zh w b P lk s va vp vl F) (hu:Zg [] w w1):Zh w1 b P lk s va vp vl F:=h.upd hu
theorem Zh.blk (h:Zh w b P lk s va vp vl F):
  w.heap[b]? =some (.cells (YZ s P va vp vl).toArray 77 (0,0))∧b∈F:=by
 obtain⟨e,G,rfl,_,_,d,a⟩:=YD.list_get h.lay (i:=0) rfl
 obtain⟨rfl,c⟩:=d
 exact⟨c,a b (by simp)⟩
theorem Zh.step (h:Zh w b P lk s va vp vl F) {k:Nat} (hk:(ZV b P lk s va vp vl)[k]? =some A):
  ∃G,A w G∧(∀q∈G,q∈F)∧∀(w1:World) (A1:YD) (G1:List Nat) (P':Ym) (lk':Option Nat) (s':Ze) (va' vp' vl':Value),A1 w1 G1→Zi w w1 G G1→ZV b P' lk' s' va' vp' vl'=(ZV b P lk s va vp vl).set k A1→
   P'.fps.length=s'.all.length→P'.qps.length=s'.pres.length→∃F1,Zh w1 b P' lk' s' va' vp' vl' F1∧Zi w w1 F F1:=by
 obtain⟨G,l,e,i⟩:=YD.list_step (Yc _ _ _ _ _ _ _) h.lay hk
 refine⟨G,l,e,fun w1 A1 G1 P' lk' s' va' vp' vl' ha hg f j g=> ?_⟩
 obtain⟨F1,c,a⟩:=i w1 A1 G1 ha hg
 rw[←f]at c
 refine⟨F1,⟨c,j,g,fun k hk=> ?_⟩,a⟩
 rcases a.new k hk with d|d
 ·exact h.two k d
 ·have m:=h.two b h.blk.2;have n:=h.lt b h.blk.2;omega
section
variable {w:World} {b:Nat} {P:Ym} {lk:Option Nat} {s:Ze} {va vp vl:Value} {F:List Nat}
theorem Zh.clock (h:Zh w b P lk s va vp vl F):ZdJ w P.clock s.now∧P.clock∈F∧∀(w1:World) (t:Nat),ZdJ w1 P.clock t→Zg [P.clock] w w1→∃F1,Zh w1 b P lk {s with now:=t} va vp vl F1∧Zi w w1 F F1:=by
 obtain⟨G,⟨rfl,e⟩,a,c⟩:=h.step (k:=4) rfl
 exact⟨e,a _ (by simp),fun w1 t ha d=>c w1 (Zc2 P.clock t) _ P lk {s with now:=t} va vp vl ⟨rfl,ha⟩ (Zi.of_upd d) rfl h.fl h.ql⟩
theorem Zh.pool (h:Zh w b P lk s va vp vl F):∃G,YO P.pool s.pool w G∧(∀q∈G,q∈F)∧∀(w1:World) (x:Zam) (G1:List Nat),YO P.pool x w1 G1→Zi w w1 G G1→∃F1,Zh w1 b P lk {s with pool:=x} va vp vl F1∧Zi w w1 F F1:=by
 obtain⟨G,d,a,c⟩:=h.step (k:=5) rfl
 exact⟨G,d,a,fun w1 x G1 ha hg=>c w1 _ _ P lk {s with pool:=x} va vp vl ha hg rfl h.fl h.ql⟩
theorem Zh.queue (h:Zh w b P lk s va vp vl F):∃G,YB P.queue s.conf.aging s.queue w G∧(∀q∈G,q∈F)∧∀(w1:World) (x:List ZL) (G1:List Nat),YB P.queue s.conf.aging x w1 G1→Zi w w1 G G1→∃F1,Zh w1 b P lk {s with queue:=x} va vp vl F1∧Zi w w1 F F1:=by
 obtain⟨G,d,a,c⟩:=h.step (k:=6) rfl
 exact⟨G,d,a,fun w1 x G1 ha hg=>c w1 _ _ P lk {s with queue:=x} va vp vl ha hg rfl h.fl h.ql⟩
theorem Zh.cache (h:Zh w b P lk s va vp vl F):∃G,Yf P.cache (max 1 (min s.conf.cache 64)) s.cache w G∧(∀q∈G,q∈F)∧∀(w1:World) (x:List Zp) (G1:List Nat),Yf P.cache (max 1 (min s.conf.cache 64)) x w1 G1→Zi w w1 G G1→∃F1,Zh w1 b P lk {s with cache:=x} va vp vl F1∧Zi w w1 F F1:=by
 obtain⟨G,d,a,c⟩:=h.step (k:=7) rfl
 exact⟨G,d,a,fun w1 x G1 ha hg=>c w1 _ _ P lk {s with cache:=x} va vp vl ha hg rfl h.fl h.ql⟩
theorem Zh.wheel (h:Zh w b P lk s va vp vl F):∃G,Yr P.wheel 256 s.tlast s.timers w G∧(∀q∈G,q∈F)∧∀(w1:World) (x:List Zv) (y:Int) (G1:List Nat),Yr P.wheel 256 y x w1 G1→Zi w w1 G G1→∃F1,Zh w1 b P lk {s with timers:=x,tlast:=y} va vp vl F1∧Zi w w1 F F1:=by
 obtain⟨G,d,a,c⟩:=h.step (k:=8) rfl
 exact⟨G,d,a,fun w1 x y G1 ha hg=>c w1 _ _ P lk {s with timers:=x,tlast:=y} va vp vl ha hg rfl h.fl h.ql⟩
theorem Zh.groups (h:Zh w b P lk s va vp vl F):∃gl G,gl.map (·.2)=s.groups∧Yw P.groups gl w G∧(∀q∈G,q∈F)∧∀(w1:World) (x:List (Value×ZT)) (G1:List Nat),Yw P.groups x w1 G1→Zi w w1 G G1→∃F1,Zh w1 b P lk {s with groups:=x.map (·.2)} va vp vl F1∧Zi w w1 F F1:=by
 obtain⟨G,a,c,d⟩:=h.step (k:=9) rfl
 obtain⟨gl,e,a⟩:=a
 exact⟨gl,G,e,a,c,fun w1 x G1 ha hg=>d w1 (ZcV P.groups (x.map (·.2))) _ P lk {s with groups:=x.map (·.2)} va vp vl ⟨x,rfl,ha⟩ hg rfl h.fl h.ql⟩
theorem Zh.signals (h:Zh w b P lk s va vp vl F):∃gl G,gl.map (·.2)=s.signals∧ZdE P.signals gl w G∧(∀q∈G,q∈F)∧∀(w1:World) (x:List (Value×ZgQ)) (G1:List Nat),ZdE P.signals x w1 G1→Zi w w1 G G1→∃F1,Zh w1 b P lk {s with signals:=x.map (·.2)} va vp vl F1∧Zi w w1 F F1:=by
 obtain⟨G,a,c,d⟩:=h.step (k:=10) rfl
 obtain⟨gl,e,a⟩:=a
 exact⟨gl,G,e,a,c,fun w1 x G1 ha hg=>d w1 (Zd7 P.signals (x.map (·.2))) _ P lk {s with signals:=x.map (·.2)} va vp vl ⟨x,rfl,ha⟩ hg rfl h.fl h.ql⟩
theorem Zh.shares (h:Zh w b P lk s va vp vl F):∃gl G,gl.map (·.2)=s.shares∧YA P.shares s.slast gl w G∧(∀q∈G,q∈F)∧∀(w1:World) (x:List (Value×ZE)) (y:Int) (G1:List Nat),YA P.shares y x w1 G1→Zi w w1 G G1→∃F1,Zh w1 b P lk {s with shares:=x.map (·.2),slast:=y} va vp vl F1∧Zi w w1 F F1:=by
 obtain⟨G,a,c,d⟩:=h.step (k:=11) rfl
 obtain⟨gl,e,a⟩:=a
 exact⟨gl,G,e,a,c,fun w1 x y G1 ha hg=>d w1 (Zcd P.shares y (x.map (·.2))) _ P lk {s with shares:=x.map (·.2),slast:=y} va vp vl ⟨x,rfl,ha⟩ hg rfl h.fl h.ql⟩
theorem Zh.book (h:Zh w b P lk s va vp vl F):∃G,YR P.book s.book w G∧(∀q∈G,q∈F)∧∀(w1:World) (x:List Y4) (G1:List Nat),YR P.book x w1 G1→Zi w w1 G G1→∃F1,Zh w1 b P lk {s with book:=x} va vp vl F1∧Zi w w1 F F1:=by
 obtain⟨G,d,a,c⟩:=h.step (k:=12) rfl
 exact⟨G,d,a,fun w1 x G1 ha hg=>c w1 _ _ P lk {s with book:=x} va vp vl ha hg rfl h.fl h.ql⟩
theorem Zh.main (h:Zh w b P lk s va vp vl F) (hu:Zg [b] w w1) (hb:w1.heap[b]? =some (.cells (YZ s' P va vp vl).toArray 77 (0,0))) (e:∀va vp vl,ZV b P lk s' va vp vl=(ZV b P lk s va vp vl).set 0 (Zaz b (YZ s' P va vp vl).toArray 77))
  (e1:s'.all=s.all) (e2:s'.pres=s.pres):Zh w1 b P lk s' va vp vl F∧Zi w w1 F F:=by
 obtain⟨c,g,a⟩:=h.lay
 have k:=a.lies 0 _ (c[0]'(by rw[a.len];simp[ZV])) rfl (Xa _)
 obtain⟨f,_⟩:=k
 have d:=a.step (Yc _ _ _ _ _ _ _) (i:=0) (F:=[b]) (by rw[Xa (by rw[a.len];simp[ZV]),f]) (A1:=Zaz b (YZ s' P va vp vl).toArray 77) (w1:=w1) (F1:=[b]) ⟨rfl,hb⟩ (Zi.of_upd hu)
 have j:c.set 0 [b]=c:=by rw[←f];simp
 rw[j,←g,←e]at d
 exact⟨⟨⟨c,g,d.1⟩,by rw[e1];exact h.fl,by rw[e2];exact h.ql,h.two⟩,d.2⟩
theorem Zh.fetch (h:Zh w b P lk s va vp vl F) {i p:Nat} (hp:P.fps[i]? =some p) (hf:s.all[i]? =some f):
  ∃vh lb vb Gh Gb,YP w p f (lk==some i) vh lb vb Gh Gb∧(∀q∈Za3 p lb Gh Gb,q∈F)∧∀(w1:World) (f':ZC) (lk':Option Nat) (vh':Value) (lb':Nat) (vb':Value) (Gh' Gb':List Nat),(∀j,j≠i→(lk'==some j)=(lk==some j))→
   YP w1 p f' (lk'==some i) vh' lb' vb' Gh' Gb'→Zi w w1 (Za3 p lb Gh Gb) (Za3 p lb' Gh' Gb')→∃F1,Zh w1 b P lk' {s with all:=s.all.set i f'} va vp vl F1∧Zi w w1 F F1:=by
 obtain⟨G,t,g,o⟩:=h.step (k:=13) rfl
 obtain⟨y,m,e,x⟩:=YD.list_step (ZcF _ _ _) t (Zfn (lk:=lk) hp hf)
 obtain⟨vh,lb,vb,Gh,Gb,rfl,d⟩:=m
 refine⟨vh,lb,vb,Gh,Gb,d,fun q n=>g q (e q n),fun w1 f' lk' vh' lb' vb' Gh' Gb' c ha hg=> ?_⟩
 obtain⟨l,a,r⟩:=x w1 (Zch p f' (lk'==some i)) _ ⟨_,_,_,_,_,rfl,ha⟩ hg
 rw[←Zml hp hf c]at a
 refine o w1 (YD.list (Zbf P.fps lk' (s.all.set i f'))) l P lk' {s with all:=s.all.set i f'} va vp vl a r ?_ (by simpa using h.fl) h.ql
 unfold ZV YZ
 simp only[List.length_set,List.set_cons_succ,List.set_cons_zero]
theorem Zh.flight (h:Zh w b P lk s va vp vl F) {i q:Nat} (hq:P.qps[i]? =some q) (hx:s.pres[i]? =some x):
  w.heap[q]? =some (.cells (ZbE x).toArray 255 (0,0))∧q∈F∧∀(w1:World) (x':ZG),w1.heap[q]? =some (.cells (ZbE x').toArray 255 (0,0))→Zg [q] w w1→
   ∃F1,Zh w1 b P lk {s with pres:=s.pres.set i x'} va vp vl F1∧Zi w w1 F F1:=by
 obtain⟨G,m,d,e⟩:=h.step (k:=14) rfl
 obtain⟨o,⟨rfl,j⟩,c,n⟩:=YD.list_step (Zbk _ _) m (Zdk hq hx)
 refine⟨j,d q (c q (by simp)),fun w1 x' ha g=> ?_⟩
 obtain⟨f,a,l⟩:=n w1 (ZcI q x') [q] ⟨rfl,ha⟩ (Zi.of_upd g)
 rw[←Zl6 hq]at a
 exact e w1 (YD.list (YI P.qps (s.pres.set i x'))) f P lk {s with pres:=s.pres.set i x'} va vp vl a l rfl h.fl (by simpa using h.ql)
end
theorem Jx (i:Nat) {w:World} {b:Nat} {cs:Array Value} {fr:Nat×Nat} (h:w.heap[b]? =some (.cells cs T fr)) (hi:cs[i]? =some v:=by simp only[List.getElem?_toArray,List.getElem?_cons_succ,List.getElem?_cons_zero,YZ,Zau,ZbE,Y7,Zhv];rfl):w.cell? ⟨b,i,none⟩=some v:=Zf h hi
theorem ZqP (a c:Int):may a c=Zkm a c:=by
 unfold may Zkm Zcz
 split
 ·rfl
 split
 ·rfl
 split
 ·rw[Bool.eq_iff_iff];simp only[Bool.or_eq_true,Bool.and_eq_true,decide_eq_true_eq,beq_iff_eq,bne_iff_ne];omega
 split
 ·rw[Bool.eq_iff_iff];simp only[Bool.or_eq_true,Bool.and_eq_true,decide_eq_true_eq,beq_iff_eq,bne_iff_ne];omega
 split
 ·rw[Bool.eq_iff_iff];simp only[Bool.or_eq_true,Bool.and_eq_true,decide_eq_true_eq,beq_iff_eq,bne_iff_ne];omega
 rfl
theorem Zoy (h:Zcz a=true) (c:Int):Zkm a c=false:=by
 unfold Zcz at h
 simp only[Bool.and_eq_true,decide_eq_true_eq]at h
 unfold Zkm
 rw[if_neg (by omega),if_neg (by omega),if_neg (by omega),if_neg (by omega),if_neg (by omega)]
theorem ZrE (a:Int):over a=Zcz a:=rfl
abbrev ZaN (st:Int):Int:=if Zcz st then 1 else 0
theorem ZcK {st:Int} (h:Za2 w lb st (ZaN st) (ZaN st)) (st2:Int):
  Calls Tryz.prog 84 #[.pointer (some ⟨lb,0,none⟩), .int .i64 st2] w fun e w'=>e= .returned (.bool (Zkm st st2))∧Za2 w' lb (goL st st2) (ZaN (goL st st2)) (ZaN (goL st st2))∧Zg [lb] w w':=by
 have q:=ZrG h (by unfold ZaN;split<;>simp) (by unfold ZaN;split<;>decide) st2
 refine q.mono ?_
 rintro e w' ⟨rfl,c,j⟩
 rw[ZqP,ZrE]at c
 refine⟨by rw[ZqP],?_,j⟩
 have d:∀m o:Bool,Zkm st st2=m→Zcz st2=o→
   (if m=true then st2 else st)=goL st st2∧(if(m&&o&&decide (ZaN st=0))=true then ZaN st+1 else ZaN st)=ZaN (goL st st2)∧(if(m&&o)=true then(1:Int)else ZaN st)=ZaN (goL st st2):=by
  intro m o a ho
  cases m with
  |false=>
   rw[ZpW a]
   exact⟨rfl,rfl,rfl⟩
  |true=>
   rw[Zra a]
   have g:Zcz st=false:=by
    cases hs:Zcz st with
    |false=>rfl
    |true=>rw[Zoy hs]at a;cases a
   have b:ZaN st=0:=by unfold ZaN;rw[g];rfl
   cases o with
   |false=>
    refine⟨rfl,?_,?_⟩
    ·rw[b];unfold ZaN;rw[ho];rfl
    ·rw[b];unfold ZaN;rw[ho];rfl
   |true=>
    refine⟨rfl,?_,?_⟩
    ·rw[b];unfold ZaN;rw[ho];rfl
    ·unfold ZaN;rw[ho];rfl
 obtain⟨l,i,k⟩:=d _ _ rfl rfl
 rw[l,i,k]at c
 exact c
theorem Zfp (e:Zin):∀u∈Y7 e,u.oneCell'=true:=by
 intro u a;simp only[Y7,List.mem_cons,List.not_mem_nil,or_false]at a;rcases a with rfl|rfl|rfl|rfl|rfl|rfl|rfl<;>rfl
section
variable {w:World} {b:Nat} {P:Ym} {lk:Option Nat} {s:Ze} {va vp vl:Value} {F:List Nat}
theorem Zh.setLog (h:Zh w b P lk s va vp vl F):∃G,Zk 54 7 vl (s.log.map Y7) w G∧(∀q∈G,q∈F)∧b∉G∧∀(w1 w2:World) (vl':Value) (l':List Zin) (G1:List Nat),Zk 54 7 vl' (l'.map Y7) w1 G1→Zi w w1 G G1→
  w2.heap[b]? =some (.cells (YZ s P va vp vl').toArray 77 (0,0))→Zg [b] w1 w2→∃F1,Zh w2 b P lk {s with log:=l'} va vp vl' F1∧Zi w w2 F F1:=by
 obtain⟨c,e,a⟩:=h.lay
 have j:=Yc b P lk s va vp vl
 have I:0<c.length:=by rw[a.len];simp[ZV]
 have r:3<c.length:=by rw[a.len];simp[ZV]
 have g:=Xa I
 have d:=Xa r
 obtain⟨l,_⟩:=a.lies 0 _ _ rfl g
 have z:=a.lies 3 _ _ rfl d
 have o:b∉c[3]:=fun L=>a.apart 0 3 _ _ g d (by omega) b (by rw[l];simp) L
 refine⟨c[3],z,fun q H=>by rw[e];exact Zr d H,o,fun w1 w2 vl' l' G1 y hg J K=> ?_⟩
 obtain⟨s1,s2⟩:=a.step j d y hg
 have n:∀A∈(ZV b P lk s va vp vl).set 3 (Zk 54 7 vl' (l'.map Y7)),A.Local:=fun A f=>by
  rcases List.mem_or_eq_of_mem_set f with f|rfl
  ·exact j A f
  ·exact Zc _ _ _ _
 have p:(c.set 3 G1)[0]? =some [b]:=by rw[Xt (by omega),g,l]
 obtain⟨C,E⟩:=s1.step n p (A1:=Zaz b (YZ s P va vp vl').toArray 77) ⟨rfl,J⟩ (Zi.of_upd K)
 have i:=s2.trans E
 refine⟨_,⟨⟨_,rfl,C⟩,h.fl,h.ql,fun k x=> ?_⟩,by rw[e];exact i⟩
 rcases i.new k x with m|m
 ·exact h.two k (by rw[e];exact m)
 ·have N:=h.two b h.blk.2;have M:=h.lt b h.blk.2;omega
end
section
variable {w:World} {b:Nat} {P:Ym} {lk:Option Nat} {s:Ze} {va vp vl:Value} {F:List Nat}
theorem Zh.setFCell (h:Zh w b P lk s va vp vl F) {i p:Nat} (hp:P.fps[i]? =some p) (hf:s.all[i]? =some f) (k:Nat) (v:Value) (f':ZC) (e:∀lk vh lb vb,(Zau f lk vh lb vb).toArray.setIfInBounds k v=(Zau f' lk vh lb vb).toArray)
  (e1:f'.req.headers=f.req.headers) (e2:f'.state=f.state) (e3:f'.body=f.body):
  w.frozen? ⟨p,k,none⟩=false∧∃F1,Zh (w.setCell ⟨p,k,none⟩ v) b P lk {s with all:=s.all.set i f'} va vp vl F1∧Zi w (w.setCell ⟨p,k,none⟩ v) F F1:=by
 obtain⟨vh,lb,vb,l,m,a,j,c⟩:=h.fetch hp hf
 refine⟨ZS a.blk,?_⟩
 obtain⟨g,d⟩:=a.setBlk (w1:=w.setCell ⟨p,k,none⟩ v) (f':=f') (lk':=lk==some i) ((Zg.refl [p] w).setCell (.inr (by simp)) _) (by rw[Zd a.blk,e]) e1 e2 e3
 exact c _ _ lk _ _ _ _ _ (fun _ _=>rfl) g d
theorem Zh.life (h:Zh w b P lk s va vp vl F) {i p:Nat} (hp:P.fps[i]? =some p) (hf:s.all[i]? =some f):
  ∃lb,w.cell? ⟨p,12,none⟩=some (.pointer (some ⟨lb,0,none⟩))∧Za2 w lb f.state (ZaN f.state) (ZaN f.state)∧∀(w1:World) (st:Int),Za2 w1 lb st (ZaN st) (ZaN st)→Zg [lb] w w1→
   ∃F1,Zh w1 b P lk {s with all:=s.all.set i {f with state:=st}} va vp vl F1∧Zi w w1 F F1:=by
 obtain⟨n,lb,l,m,o,a,k,c⟩:=h.fetch hp hf
 refine⟨lb,Zf (i:=12) a.blk rfl,a.life,fun w1 st d e=> ?_⟩
 obtain⟨j,g⟩:=a.setLife st e d
 exact c _ _ lk _ _ _ _ _ (fun _ _=>rfl) j g
theorem Zh.fcell (h:Zh w b P lk s va vp vl F) {i p:Nat} (hp:P.fps[i]? =some p) (hf:s.all[i]? =some f):∃vh lb vb,w.heap[p]? =some (.cells (Zau f (lk==some i) vh lb vb).toArray 104 (0,0))∧p∈F:=by
 obtain⟨vh,lb,vb,e,g,c,a,d⟩:=h.fetch hp hf
 exact⟨vh,lb,vb,c.blk,a p (by simp)⟩
end
theorem Y0 (h:Zh w b P lk s va vp vl F) (hl:s.log.length≤1000000) (a0 at0 kind id pre conn n:Int):
  Calls Tryz.prog 59 #[.pointer (some ⟨b,0,none⟩), .agg #[.int .i64 a0, .int .u64 at0, .int .i64 kind, .int .i64 id, .int .i64 pre, .int .i64 conn, .int .i64 n]] w fun e w'=>e= .returned (.tuple #[])∧
   ∃vl' F',Zh w' b P lk (ZI s kind id pre conn n) va vp vl' F'∧Zi w w' F F':=by
 obtain⟨w1,ac,al,M⟩:=Kc w (.cells #[.int .i64 a0, .int .u64 at0, .int .i64 kind, .int .i64 id, .int .i64 pre, .int .i64 conn, .int .i64 n] 54)
 have am:=h.lt
 obtain⟨L,p⟩:=Je w.heap.size
 rw[←p]at M
 have T:L∉F:=fun hm=>by have:=am L hm;omega
 have av:=h.blk.2
 have aw:b≠L:=fun e=>T (e▸av)
 obtain⟨w2,m⟩:=Je w1.drew
 have X:Zg [] w w2:=by rw[m];exact al.drew
 have H:=h.upd0 X
 have z:w2.heap[L]? =some (.cells #[.int .i64 a0, .int .u64 at0, .int .i64 kind, .int .i64 id, .int .i64 pre, .int .i64 conn, .int .i64 n] 54 (0,0)):=by rw[m];exact M
 have o:=Jx 7 H.blk.1
 have aD:=Jx 20 H.blk.1
 have ah:=H.clock.1
 obtain⟨Z,l⟩:=Je (w2.setCell ⟨L,0,none⟩ (.int .i64 s.acts))
 obtain⟨w4,x⟩:=Je (Z.setCell ⟨L,1,none⟩ (.int .u64 (s.now:Int)))
 have C:Z.heap[L]? =some (.cells #[.int .i64 s.acts, .int .u64 at0, .int .i64 kind, .int .i64 id, .int .i64 pre, .int .i64 conn, .int .i64 n] 54 (0,0)):=by rw[l,Zd z];rfl
 have ak:w4.heap[L]? =some (.cells #[.int .i64 s.acts, .int .u64 (s.now:Int), .int .i64 kind, .int .i64 id, .int .i64 pre, .int .i64 conn, .int .i64 n] 54 (0,0)):=by rw[x,Zd C];rfl
 have aE:Z.cell? ⟨b,7,none⟩=some (.pointer (some ⟨P.clock,0,none⟩)):=by rw[l];exact(Xp (Z4 _ (Ne.symm aw))).trans o
 have k0:=Jx 0 z
 have k1:=Jx 1 C
 have f0:=Kf 0 z
 have f1:=Kf 1 C
 have S:Zg [] w w4:=by
  rw[x,l];exact(X.setCell (.inl (by simp[p])) _).setCell (.inl (by simp[p])) _
 have h4:=h.upd0 S
 obtain⟨g,i⟩:=Je w4.drew
 have O:Zg [] w g:=by rw[i];exact S.drew
 have j:=h.upd0 O
 have ai:g.heap[L]? =some (.cells #[.int .i64 s.acts, .int .u64 (s.now:Int), .int .i64 kind, .int .i64 id, .int .i64 pre, .int .i64 conn, .int .i64 n] 54 (0,0)):=by rw[i];exact ak
 obtain⟨G,q,ag,ad,ae⟩:=j.setLog
 have ar:=D (show L∉G from fun hm=>T (ag L hm))
 obtain⟨A,c,rfl,K⟩:=q.form'
 rw[Xb]at q K j
 obtain⟨N,J⟩:=Je s.log.length
 rw[←J]at q K j hl
 have E:=Jx 19 j.blk.1
 have V:=D (show Zb g L 0 (Y7 ⟨s.acts,s.now,kind,id,pre,conn,n⟩)from Zb.of_block ai)
 obtain⟨w6,R,d⟩:=Kb g (.cells #[.int .i64 s.acts, .int .u64 (s.now:Int), .int .i64 kind, .int .i64 id, .int .i64 pre, .int .i64 conn, .int .i64 n] 54)
 have aq:=D (show Zb w6 g.heap.size 0 (Y7 ⟨s.acts,s.now,kind,id,pre,conn,n⟩)by rw[R];exact Zb.of_block (w:=g.alloc _) (Za _))
 have aa:=(Zc _ _ _ _).upd q d
 have an:w6.cell? ⟨b,19,none⟩=some (.slice A N c):=(Xp (d.block b (Xo _ _ E) (by simp))).trans E
 have au:=D aa;have aC:=D ae;have aB:=D ad;have H5:=D j;have ax:=D ah
 clear h al M am T X H z ah C ak S h4 j ai q ag ad ae K aa;change Hid _ at d R O i x l m ac p J
 go_in
 go_upto_region 1 with fail
 rw[←ac.out,←p.out]
 refine Jr [0,4,8,16,20,24,28,13,36,33,42,44,50] (fun W=>W.cell? ⟨b,7,none⟩=some (.pointer (some ⟨P.clock,0,none⟩))) (by rw[m.out]at o;exact o) ?_
 repeat first|refine Jn ?_|refine Jf ?_|refine Ju ?_
 refine JE ?_
 simp only[Xu]
 rw[←m.out]
 go_wp2_with fail
 refine(Zh1 _ s.acts _ aD).mono ?_
 rintro e W ⟨rfl,rfl⟩
 go_wp2_with fail
 refine⟨_,fun W a=>a,o,?_⟩
 repeat first|refine Jn ?_|refine Jf ?_|refine Ju ?_
 refine JE ?_
 go_wp2_with fail
 refine(Zbm ax).mono ?_
 rintro e W ⟨rfl,rfl⟩
 go_wp2_with fail
 refine⟨_,fun W a=>a,o,?_⟩
 refine JL ?_
 go_wp2_with fail
 rw[←l.out]
 refine⟨fun _=>True,trivial,?_⟩
 repeat first|refine Jn ?_|refine Jf ?_|refine Ju ?_
 refine JL ?_
 go_wp2_with fail
 rw[←x.out]
 refine Jz ?_
 go_upto_region 2 with fail
 refine Jr [0,4,8,12,16,20,25,29,32,36,42] (fun W=>W.cell? ⟨b,19,none⟩=some (.slice A N c)∧Zb W L 0 (Y7 ⟨s.acts,s.now,kind,id,pre,conn,n⟩)) (by rw[i.out]at E;have aj:=V.out;rw[i.out]at aj;exact⟨E,aj⟩) ?_
 repeat first|refine Jn ?_|refine Jf ?_|refine Ju ?_
 refine JO (cs:=[.int .i64 s.acts, .int .u64 (s.now:Int), .int .i64 kind, .int .i64 id, .int .i64 pre, .int .i64 conn, .int .i64 n]) Zj8 (fun W a=>a.2) ?_
 refine JE ?_
 simp only[Xu]
 rw[←i.out]
 go_wp2_with fail
 rw[←R.out]
 refine⟨fun W=>W.cell? ⟨b,19,none⟩=some (.slice A N c)∧Zb W L 0 (Y7 ⟨s.acts,s.now,kind,id,pre,conn,n⟩),fun W a=>a,⟨an,V.upd d⟩,?_⟩
 refine JE ?_
 refine Zm w6 rfl (.tmp 19) (.tmp 21) 51 rfl 54 Tryz.underlying51 ZlC rfl (by omega) (by omega) _ (s.log.map Y7) G rfl au g.heap.size 1 (Y7 ⟨s.acts,s.now,kind,id,pre,conn,n⟩) rfl aq rfl (Zfp _) (by rw[Xb,←J.out];omega) ?_
 intro v' I G' Q y ab
 obtain⟨A',c',e8,_⟩:=Q.form'
 rw[Xd,Xb,List.length_singleton,←J.out]at e8
 subst e8
 have af:=Kv d H5.blk.1
 have r:=Kv y af aB
 have c8:=Jx 19 r
 have f8:=Kf 19 r
 have ao:=D ((V.upd d).upd y ar)
 have az:=D Q;have ay:=D y;have aA:=D ab
 clear af Q y ab;change Hid _ at r
 go_wp2_with fail
 refine⟨fun W=>W.cell? ⟨b,19,none⟩=some (.slice A N c)∧Zb W L 0 (Y7 ⟨s.acts,s.now,kind,id,pre,conn,n⟩),fun W a=>a,⟨c8,ao.out⟩,?_⟩
 repeat first|refine Jn ?_|refine Jf ?_|refine Ju ?_
 refine JL ?_
 go_wp2_with fail
 refine Jz ?_
 go_wp2_with fail
 (try simp only[Exit.inBlock,Exit.then])
 first|refine bodyPost_ret (results_none rfl _ _ _) rfl ?_|refine bodyPost_end (results_none rfl _ _ _) rfl ?_
 refine⟨rfl,?_⟩
 have ap:Zi g I G G':=⟨(d.weaken (G:=G) (by simp)).trans ay (fun k Y=> .inr Y),fun k Y=>by
  rcases aA k Y with h|h
  ·exact .inl h
  ·right;have:=d.size;omega⟩
 obtain⟨F1,k1,k2⟩:=aC.out I (I.setCell ⟨b,19,none⟩ (.slice A' (N+1) c')) (.slice A' (N+1) c') (s.log++[⟨s.acts,s.now,kind,id,pre,conn,n⟩]) G' (by rw[Xs];exact az) ap (by rw[Zd r.out];rfl) ((Zg.refl [b] I).setCell (.inr (by simp)) _)
 exact⟨_,F1,k1,k2.pre0 O⟩
section
variable {w:World} {b:Nat} {P:Ym} {lk:Option Nat} {s:Ze} {va vp vl:Value} {F:List Nat}
theorem Zh.rowAll (h:Zh w b P lk s va vp vl F):∃G,Zk 90 1 va (P.fps.map Zc6) w G∧(∀q∈G,q∈F):=by
 obtain⟨G,a,c,_⟩:=h.step (k:=1) rfl
 exact⟨G,a,c⟩
theorem Zh.rowPres (h:Zh w b P lk s va vp vl F):∃G,Zk 152 1 vp (P.qps.map Zc6) w G∧(∀q∈G,q∈F):=by
 obtain⟨G,a,c,_⟩:=h.step (k:=2) rfl
 exact⟨G,a,c⟩
theorem Zh.fp (h:Zh w b P lk s va vp vl F) {i:Nat} (hf:s.all[i]? =some f):∃p,P.fps[i]? =some p:=
 ⟨_,Xa (by rw[h.fl];exact(Jk hf))⟩
theorem Zh.qp (h:Zh w b P lk s va vp vl F) {i:Nat} (hf:s.pres[i]? =some x):∃q,P.qps[i]? =some q:=
 ⟨_,Xa (by rw[h.ql];exact(Jk hf))⟩
theorem Zdv {l:List Nat} (h:Zk e 1 v (l.map Zc6) w G) {i p:Nat} (hp:l[i]? =some p):
  ∃g c,v= .slice (some ⟨g,0,none⟩) l.length c∧l.length≤c∧i<l.length∧w.cell? ⟨g,i,none⟩=some (.pointer (some ⟨p,0,none⟩)):=by
 have f:=(Jk hp)
 obtain⟨g,c,b,a,d⟩:=h.cell (j:=i) (i:=0) (c:=Zc6 p) (u:= .pointer (some ⟨p,0,none⟩)) (by rw[Xe,hp];rfl) rfl
 rw[Xb]at b a
 refine⟨g,c,b,a,f,?_⟩
 rw[Nat.mul_one,Nat.add_zero]at d
 exact d
end
section
variable {w:World} {b:Nat} {P:Ym} {lk:Option Nat} {s:Ze} {va vp vl:Value} {F:List Nat}
theorem ZlE (n:Int) (w:World) (h1: -1000≤n) (h2:n≤1000):Calls Tryz.prog 128 #[.int .i64 n] w fun e w'=>e= .returned (.int .i64 (n-6+14))∧w'=w:=by
 have b:IntKind.i64.wrap (n-6)=n-6:=IntWalk.i64_in _ (by omega)
 have a:IntKind.i64.wrap (n-6+14)=n-6+14:=IntWalk.i64_in _ (by omega)
 go_in
 go_wp2_with fail
 go_ret
 exact⟨by first|rfl|rw[b,a]|(rw[a]),rfl⟩
theorem ZoQ (x:Bool) (w:World):Calls Tryz.prog 151 #[.bool x] w fun e w'=>e= .returned (.int .i64 (if x then 1 else 0))∧w'=w:=by
 go_in
 cases x with
 |true=>go_wp2_with fail;go_ret;exact⟨rfl,rfl⟩
 |false=>go_wp2_with fail;go_ret;exact⟨rfl,rfl⟩
theorem ZgC (h:Zh w b P lk s va vp vl F) (hm:s.all.length≤1000000) (id:Int) (hid:id<1∨(s.all.length:Int)<id):
  Calls Tryz.prog 62 #[.pointer (some ⟨b,0,none⟩), .int .i64 id] w fun e w'=>e= .returned (.pointer none)∧w'=w:=by
 obtain⟨G,d,_⟩:=h.rowAll
 obtain⟨A,c,rfl,a⟩:=d.form'
 rw[Xb,h.fl]at h a
 have g:=Jx 17 h.blk.1
 clear h d a
 go_in
 rcases hid with h|h
 ·go_wp2_with fail
  go_ret
  exact⟨rfl,rfl⟩
 ·by_cases i:id<1
  ·go_wp2_with fail
   go_ret
   exact⟨rfl,rfl⟩
  ·go_wp2_with fail
   go_ret
   exact⟨rfl,rfl⟩
theorem Yt (h:Zh w b P lk s va vp vl F) (hm:s.all.length≤1000000) {i p:Nat} (hp:P.fps[i]? =some p) (id:Int) (hid:id=(i:Int)+1):
  Calls Tryz.prog 62 #[.pointer (some ⟨b,0,none⟩), .int .i64 id] w fun e w'=>e= .returned (.pointer (some ⟨p,0,none⟩))∧w'=w:=by
 obtain⟨G,a,_⟩:=h.rowAll
 obtain⟨g,c,rfl,d,j,o⟩:=Zdv a hp
 rw[h.fl]at h d j
 have k:=Jx 17 h.blk.1
 have m:IntKind.i64.wrap (id-1)=i:=by rw[IntWalk.i64_in _ (by omega)];omega
 clear h a
 have n:¬id<1:=by omega
 have l:¬(s.all.length:Int)<id:=by omega
 go_in
 go_wp2_with fail
 go_ret
 exact⟨rfl,rfl⟩
end
section
variable {w:World} {b:Nat} {P:Ym} {lk:Option Nat} {s:Ze} {va vp vl:Value} {F:List Nat}
theorem Zgh (h:Zh w b P lk s va vp vl F) (hm:s.pres.length≤1000000) {i q:Nat} (hq:P.qps[i]? =some q) (hx:s.pres[i]? =some x) (pre:Int) (hpre:x.num=pre) (hno:∀(j:Nat) (y:ZG),j<i→s.pres[j]? =some y→(y.num==pre)=false):
  Calls Tryz.prog 152 #[.pointer (some ⟨b,0,none⟩), .int .i64 pre] w fun e w'=>e= .returned (.pointer (some ⟨q,0,none⟩))∧w'=w:=by
 obtain⟨G,o,_⟩:=h.rowPres
 obtain⟨g,c,rfl,r,t,_⟩:=Zdv o hq
 rw[h.ql]at h r t
 obtain⟨n,z⟩:=Je s.pres.length
 rw[←z]at h r t hm
 have Q:=Jx 18 h.blk.1
 have M:=D (show∀(k:Nat),k≤i→∃l y,s.pres[k]? =some y∧(k=i→l=q∧y=x)∧w.cell? ⟨g,k,none⟩=some (.pointer (some ⟨l,0,none⟩))∧w.cell? ⟨l,0,none⟩=some (.int .i64 y.num)by
  intro k R
  obtain⟨y,a⟩:∃y,s.pres[k]? =some y:=⟨_,Xa (by have:=(Jk hx);omega)⟩
  obtain⟨l,m⟩:=h.qp a
  obtain⟨W,S,d,_,_,L⟩:=Zdv o m
  injection d with d _ _;injection d with d;injection d with d;subst d
  exact⟨l,y,a,fun e=>by subst e;rw[hq]at m;rw[hx]at a;exact⟨(Option.some.inj m).symm,(Option.some.inj a).symm⟩,L,Zf (i:=0) (h.flight m a).1 rfl⟩)
 have I:=D hno;have E:=D hpre
 clear h o hq hx z hno hpre
 go_in
 go_wp2_with fail
 go_loopw[6,12] (fun _ s12 wr=>∃kk:Nat,kk≤i∧s12= .int .i64 kk∧w=wr) (fun _ s12 _=>i-(intOf s12).toNat)
 case atStart=>exact⟨0,Xn _,rfl,rfl⟩
 case round=>
  obtain⟨kk,K,rfl,rfl⟩:=hrel
  obtain⟨l,y,a,p,V,T⟩:=M.out kk K
  have O:kk<n:=by omega
  have N:=D a;have C:=D p
  clear a p
  by_cases J:kk=i
  ·obtain⟨rfl,rfl⟩:=C.out J
   have H:=E.out
   go_wp2_with fail
   go_ret
   exact⟨rfl,rfl⟩
  ·have H:¬y.num=pre:=by have:=I.out kk y (by omega) N.out;simpa using this
   go_wp2_with fail
   exact⟨⟨kk+1,by omega,by go_num,trivial⟩,by simp[intOf];omega⟩
end
theorem Zhn {α:Type} {p:α→Bool} {l:List α} {k:Nat} {x:α} (hx:l[k]? =some x) (hp:p x=true) (hm:∀(j:Nat) (y:α),j<k→l[j]? =some y→p y=false):l.findIdx? p=some k:=by
 have a:=(Jk hx)
 rw[List.findIdx?_eq_some_iff_getElem]
 refine⟨a,?_,fun j b=> ?_⟩
 ·rw[Xa a]at hx;injection hx with hx;rw[hx];exact hp
 ·have:=hm j l[j] b (Xa (by omega));simp[this]
theorem Zf0 {α:Type} {p:α→Bool} {l:List α} (hm:∀(j:Nat) (y:α),j<l.length→l[j]? =some y→p y=false):l.findIdx? p=none:=by
 rw[List.findIdx?_eq_none_iff]
 intro x hx
 obtain⟨i,a,rfl⟩:=List.getElem_of_mem hx
 exact hm i _ a (Xa a)
def Zsh (o:Option Nat):Value:= .pointer (o.map fun p=>⟨p,0,none⟩)
def Zb1 (P:Ym) (s:Ze) (conn:Int):Option Nat×Option Nat:=
 if conn<1 then(none,none)else match s.all.findIdx? (fun f=>f.conn==conn)with
 |some i=>(P.fps[i]?,none)
 |none=>match s.pres.findIdx? (fun p=>p.conn==conn)with
  |some i=>(none,P.qps[i]?)
  |none=>(none,none)
section
variable {w:World} {b:Nat} {P:Ym} {lk:Option Nat} {s:Ze} {va vp vl:Value} {F:List Nat}
theorem Zhp (h:Zh w b P lk s va vp vl F) (hma:s.all.length≤1000000) (hmp:s.pres.length≤1000000) (conn:Int):
  Calls Tryz.prog 79 #[.pointer (some ⟨b,0,none⟩), .int .i64 conn] w fun e w'=>e= .returned (.tuple #[Zsh (Zb1 P s conn).1,Zsh (Zb1 P s conn).2])∧w'=w:=by
 by_cases T:conn<1
 ·have a:Zb1 P s conn=(none,none):=by unfold Zb1;rw[if_pos T]
  rw[a]
  clear h a
  go_in
  go_wp2_with fail
  go_ret2
  exact⟨rfl,rfl⟩
 obtain⟨R,O⟩:=Je (Zb1 P s conn)
 have X:=D (show R=match s.all.findIdx? (fun f=>f.conn==conn)with
  |some i=>(P.fps[i]?,none)
  |none=>match s.pres.findIdx? (fun p=>p.conn==conn)with
   |some i=>(none,P.qps[i]?)
   |none=>(none,none)by rw[O];unfold Zb1;rw[if_neg T])
 rw[←O]
 obtain⟨G,C,_⟩:=h.rowAll
 obtain⟨A,c,rfl,S⟩:=C.form'
 rw[Xb,h.fl]at h S C
 obtain⟨G2,t,_⟩:=h.rowPres
 obtain⟨A2,c2,rfl,Q⟩:=t.form'
 rw[Xb,h.ql]at h Q t
 obtain⟨n,M⟩:=Je s.all.length
 obtain⟨n2,I⟩:=Je s.pres.length
 rw[←M]at h C hma
 rw[←I]at h t hmp
 have ad:=Jx 17 h.blk.1
 have ac:=Jx 18 h.blk.1
 have H1:=D (show∀(k:Nat),k<n→∃g p f,A=some ⟨g,0,none⟩∧P.fps[k]? =some p∧s.all[k]? =some f∧w.cell? ⟨g,k,none⟩=some (.pointer (some ⟨p,0,none⟩))∧w.cell? ⟨p,17,none⟩=some (.int .i64 f.conn)by
  intro k hk
  obtain⟨f,l⟩:∃y,s.all[k]? =some y:=⟨_,Xa (by omega)⟩
  obtain⟨p,r⟩:=h.fp l
  obtain⟨N,c',a,_,_,L⟩:=Zdv C r
  injection a with a _ _
  obtain⟨vh,lb,vb,Gh,Gb,hA,_⟩:=h.fetch r l
  exact⟨N,p,f,a,r,l,L,Zf (i:=17) hA.blk rfl⟩)
 have H2:=D (show∀(k:Nat),k<n2→∃g q x,A2=some ⟨g,0,none⟩∧P.qps[k]? =some q∧s.pres[k]? =some x∧w.cell? ⟨g,k,none⟩=some (.pointer (some ⟨q,0,none⟩))∧w.cell? ⟨q,2,none⟩=some (.int .i64 x.conn)by
  intro k hk
  obtain⟨x,hx⟩:∃y,s.pres[k]? =some y:=⟨_,Xa (by omega)⟩
  obtain⟨q,o⟩:=h.qp hx
  obtain⟨N,c',a,_,_,L⟩:=Zdv t o
  injection a with a _ _
  exact⟨N,q,x,a,o,hx,L,Zf (i:=2) (h.flight o hx).1 rfl⟩)
 clear h C O t S Q;change Hid _ at M I
 go_in
 go_wp2_with fail
 go_loopw[7,17] (fun _ s17 wr=>∃kk:Nat,kk≤n∧s17= .int .i64 kk∧w=wr∧Hid (∀(j:Nat) (y:ZC),j<kk→s.all[j]? =some y→(y.conn==conn)=false)) (fun _ s17 _=>n-(intOf s17).toNat)
 case atStart=>exact⟨0,Xn _,rfl,rfl,D (fun j y E=>absurd E (Nat.not_lt_zero _))⟩
 case round=>
  obtain⟨kk,ae,rfl,rfl,K⟩:=hrel
  by_cases aa:kk<n
  ·obtain⟨g,p,f,rfl,r,l,k1,m⟩:=H1.out kk aa
   have HP:=D r;have W:=D l
   clear r l
   by_cases z:f.conn=conn
   ·go_wp2_with fail
    go_ret2
    refine⟨?_,rfl⟩
    rw[X.out,Zhn W (by simpa using z) K.out]
    dsimp only
    rw[HP.out]
    rfl
   ·go_wp2_with fail
    exact⟨⟨kk+1,by omega,by go_num,trivial,D (fun j y E d=>by
     by_cases e:j=kk
     ·subst e;rw[W.out]at d;cases d;simpa using z
     ·exact K j y (by omega) d)⟩,by simp[intOf];omega⟩
  ·obtain rfl:kk=n:=by omega
   have V:=D (show R=match s.pres.findIdx? (fun p=>p.conn==conn)with
    |some i=>(none,P.qps[i]?)
    |none=>(none,none)by
     have H:=K.out
     rw[M.out]at H
     rw[X.out,Zf0 H])
   go_wp2_with fail
   go_loopw[9,34] (fun _ s34 wr=>∃kk:Nat,kk≤n2∧s34= .int .i64 kk∧w=wr∧Hid (∀(j:Nat) (y:ZG),j<kk→s.pres[j]? =some y→(y.conn==conn)=false)) (fun _ s34 _=>n2-(intOf s34).toNat)
   case atStart=>exact⟨0,Xn _,rfl,rfl,D (fun j y E=>absurd E (Nat.not_lt_zero _))⟩
   case round=>
    obtain⟨m,ab,rfl,rfl,J⟩:=hrel
    by_cases Z:m<n2
    ·obtain⟨g,q,x,rfl,o,hx,k1,k3⟩:=H2.out m Z
     have HQ:=D o;have Y:=D hx
     clear o hx
     by_cases z:x.conn=conn
     ·go_wp2_with fail
      go_ret2
      refine⟨?_,rfl⟩
      rw[V.out,Zhn Y (by simpa using z) J.out]
      dsimp only
      rw[HQ.out]
      rfl
     ·go_wp2_with fail
      exact⟨⟨m+1,by omega,by go_num,trivial,D (fun j y E d=>by
       by_cases e:j=m
       ·subst e;rw[Y.out]at d;cases d;simpa using z
       ·exact J j y (by omega) d)⟩,by simp[intOf];omega⟩
    ·obtain rfl:m=n2:=by omega
     go_wp2_with fail
     go_ret2
     refine⟨?_,rfl⟩
     have H:=J.out
     rw[I.out]at H
     rw[V.out,Zf0 H]
     rfl
end
theorem ZhR {w:World} {p:Nat} (h:w.heap[p]? =some (.cells (Zau f lk vh lb vb).toArray 104 (0,0))):
  Calls Tryz.prog 121 #[.pointer (some ⟨p,0,none⟩)] w fun e w'=>e= .returned (.agg (ZH (Zbj f)).toArray)∧Zg [] w w':=by
 obtain⟨F,q,i,g⟩:=Kc w (.cells #[.int .i64 0, .int .i64 0, .int .u64 0, .string ⟨#[]⟩, .int .i64 0] 144)
 have m:=lt_of_block h
 have a:=(i.block p m (by simp)).trans h
 obtain⟨L,k⟩:=Je w.heap.size
 rw[←k]at g
 have y:=Jx 0 a
 have C:=Jx 7 a
 have x:=Jx 13 a
 have s:=Jx 11 a
 obtain⟨r,d⟩:=Je F.drew
 obtain⟨z,c⟩:=Je (r.setRow L (ZH (Zbj f)).toArray)
 have j:r.heap[L]? =some (.cells #[.int .i64 0, .int .i64 0, .int .u64 0, .string ⟨#[]⟩, .int .i64 0] 144 (0,0)):=by rw[d];exact g
 have l:=Kk c j
 have n:Zg [] w z:=by rw[c,d];exact(i.drew).setRow (.inl (by omega)) _
 have E:=D (show(ZH (Zbj f)).toArray.all (·.oneCell')=true by rw[Xl,Xk];exact ZcJ _)
 clear h a g i m;change Hid _ at j l n q d c k
 go_in
 go_upto_region 1 with fail
 rw[←q.out,←k.out]
 refine Jr [0,4,8,12,16,20,24,28,32,36,40,44,48,52,56,60,64,68,74] (fun W=>W.cell? ⟨p,0,none⟩=some (.int .i64 f.id)∧W.cell? ⟨p,7,none⟩=some (.int .i64 f.req.cls)∧W.cell? ⟨p,13,none⟩=some (.int .u64 (f.since:Int))∧W.cell? ⟨p,11,none⟩=some (.string ⟨f.key.toArray⟩)) ⟨y,C,x,s⟩ ?_
 repeat first|refine Jn ?_|refine Jf ?_|refine Ju ?_
 refine JL ?_
 simp only[Xu]
 rw[←d.out]
 refine Jo (ZH (Zbj f)).toArray j Zcf E ?_
 rw[←c.out]
 refine Jz ?_
 go_wp2_with fail
 refine bodyPost_ret (v:= .agg (ZH (Zbj f)).toArray) (Zw _ Tryz.results121 (b:=L) (o:=0) rfl Zcf (Zb.of_block l)) rfl ?_
 exact⟨rfl,n.out⟩
end Go.Proofs.YtlhapbopmplngaaGreatDoor
namespace Go.Lk
open Go.RowKit
theorem ZdR {L:List YD} (hL:∀A∈L,A.Local) {A1:YD} (h1:A1.Local) (i:Nat):∀A∈L.set i A1,A.Local:=fun A hA=>by
 rcases List.mem_or_eq_of_mem_set hA with hA|rfl
 ·exact hL A hA
 ·exact h1
theorem Lays.drop_apart {FS:List (List Nat)} (i:Nat) (h:Lays L w FS) (hG:FS[i]? =some G):Z8 (FS.eraseIdx i).flatten G:=fun k hk hm=>by
 obtain⟨j,H,hj,hk⟩:=YE hk
 rw[Zai]at hj
 refine h.apart _ i _ _ hj hG ?_ k hk hm
 split<;>omega
end Go.Lk
namespace Go.Proofs.YtlhapbopmplngaaGreatDoor
open Go.RowKit Go.Lk
theorem Zi3 {qs:List Nat} {l:List ZG} (j:Nat):YI (qs.eraseIdx j) (l.eraseIdx j)=(YI qs l).eraseIdx j:=by
 apply List.ext_getElem?
 intro k
 unfold YI
 rw[List.getElem?_zipWith,Zai,Zai,Zai,List.getElem?_zipWith]
section
variable {w:World} {b:Nat} {P:Ym} {lk:Option Nat} {s:Ze} {va vp vl:Value} {F:List Nat}
theorem Zh.qnd (h:Zh w b P lk s va vp vl F):P.qps.Nodup:=by
 obtain⟨G,n,_,_⟩:=h.step (k:=14) rfl
 obtain⟨c,rfl,d⟩:=n
 have len:c.length=P.qps.length:=by rw[d.len];unfold YI;simp[h.ql]
 have f:∀k:Nat,∀a:k<P.qps.length,c[k]? =some [P.qps[k]]:=fun k a=>by
  have g:k<c.length:=by rw[len];exact a
  have l:s.pres[k]? =some (s.pres[k]'(by have:=h.ql;omega)):=Xa _
  have:=d.lies k _ _ (Zdk (Xa a) l) (Xa g)
  rw[Xa g,this.1]
 unfold List.Nodup
 rw[List.pairwise_iff_getElem]
 intro i j m o p e
 exact d.apart i j _ _ (f i m) (f j o) (by omega) P.qps[i] (by simp) (by rw[e];simp)
theorem Zh.delPres (h:Zh w b P lk s va vp vl F) {j q:Nat} (hq:P.qps[j]? =some q) (hx:s.pres[j]? =some x):
  ∃G,Zk 152 1 vp (P.qps.map Zc6) w G∧(∀k∈G,k∈F)∧b∉G∧(∀y∈P.qps,y∉G∧∃cs,w.heap[y]? =some (.cells cs 255 (0,0)))∧b≠q∧∀(w1 w2:World) (vp':Value) (G1:List Nat),Zk 152 1 vp' ((P.qps.eraseIdx j).map Zc6) w1 G1→Zi w w1 G G1→
   w2.heap[b]? =some (.cells (YZ s P va vp' vl).toArray 77 (0,0))→Zg [b] w1 w2→∃F1,Zh w2 b {P with qps:=P.qps.eraseIdx j} lk {s with pres:=s.pres.eraseIdx j} va vp' vl F1∧Zi w w2 F F1∧q∉F1∧w2.heap[q]? =w.heap[q]? :=by
 obtain⟨c,S,f⟩:=h.lay
 have O:=Yc b P lk s va vp vl
 have aj:c.length=15:=by rw[f.len];simp[ZV]
 have r:=Xa (l:=c) (i:=0) (by omega)
 have o:=Xa (l:=c) (i:=2) (by omega)
 have m:=Xa (l:=c) (i:=14) (by omega)
 obtain⟨E,_⟩:=f.lies 0 _ _ rfl r
 have h2:=f.lies 2 _ _ rfl o
 obtain⟨g,A,n⟩:=f.lies 14 _ _ rfl m
 have lq:j<g.length:=by rw[n.len];unfold YI;have:=(Jk hx);simp[h.ql];omega
 have p:=Xa lq
 obtain⟨ah,ad⟩:=n.lies j _ _ (Zdk hq hx) p
 rw[ah]at p
 have z:q∈c[14]:=by rw[A];exact Zr p (by simp)
 have C:b≠q:=fun e=>f.apart 0 14 _ _ r m (by omega) b (by rw[E];simp) (e▸z)
 have Q:q∉c[2]:=fun d=>f.apart 2 14 _ _ o m (by omega) q d z
 have K:q<w.heap.size:=(Jg ad)
 have X:∀y∈P.qps,y∉c[2]∧∃cs,w.heap[y]? =some (.cells cs 255 (0,0)):=fun y hy=>by
  obtain⟨k,a⟩:=List.getElem?_of_mem hy
  have ai:=(Jk a)
  have hs:s.pres[k]? =some (s.pres[k]'(by have:=h.ql;omega)):=Xa _
  have ac:k<g.length:=by rw[n.len];unfold YI;simp[h.ql];have:=h.ql;omega
  have I:=Xa ac
  obtain⟨aa,ab⟩:=n.lies k _ _ (Zdk a hs) I
  rw[aa]at I
  have Z:y∈c[14]:=by rw[A];exact Zr I (by simp)
  exact⟨fun d=>f.apart 2 14 _ _ o m (by omega) y d Z,_,ab⟩
 refine⟨c[2],h2,fun k a=>by rw[S];exact Zr o a,fun d=>f.apart 0 2 _ _ r o (by omega) b (by rw[E];simp) d,X,C,fun w1 w2 vp' G1 hr hg hb V=> ?_⟩
 have J:=n.drop j
 have ag:=n.drop_apart j p
 have Y:YD.list (YI (P.qps.eraseIdx j) (s.pres.eraseIdx j)) w (g.eraseIdx j).flatten:=⟨_,rfl,by rw[Zi3];exact J.1⟩
 have s0:=f.step O m (A1:=YD.list (YI (P.qps.eraseIdx j) (s.pres.eraseIdx j))) (w1:=w) (F1:=(g.eraseIdx j).flatten) Y ⟨Zg.refl _ _,fun k a=> .inl (by rw[A];exact J.2 k a)⟩
 have L:=ZdR O (YD.list_local (Zbk (P.qps.eraseIdx j) (s.pres.eraseIdx j))) 14
 have ae:(c.set 14 (g.eraseIdx j).flatten)[2]? =some c[2]:=by rw[Xt (by omega),o]
 have s1:=s0.1.step L ae hr hg
 have W:=ZdR L (Zc 152 1 vp' ((P.qps.eraseIdx j).map Zc6)) 2
 have af:((c.set 14 (g.eraseIdx j).flatten).set 2 G1)[0]? =some [b]:=by rw[Xt (by omega),Xt (by omega),r,E]
 have s2:=s1.1.step W af (A1:=Zaz b (YZ s P va vp' vl).toArray 77) ⟨rfl,hb⟩ (Zi.of_upd V)
 have M:Zi w w2 F (((c.set 14 (g.eraseIdx j).flatten).set 2 G1).set 0 [b]).flatten:=by rw[S];exact(s0.2.trans s1.2).trans s2.2
 refine⟨(((c.set 14 (g.eraseIdx j).flatten).set 2 G1).set 0 [b]).flatten,⟨⟨_,rfl,s2.1⟩,h.fl,?_,fun k a=> ?_⟩,M,fun d=> ?_,?_⟩
 ·show(P.qps.eraseIdx j).length=(s.pres.eraseIdx j).length
  rw[List.length_eraseIdx,List.length_eraseIdx,h.ql]
 ·rcases M.new k a with T|T
  ·exact h.two k T
  ·have h7:=h.two b h.blk.2;have h8:=h.lt b h.blk.2;omega
 ·obtain⟨k,H,a,d⟩:=YE d
  by_cases k0:k=0
  ·subst k0
   rw[List.getElem?_set_self (by simp;omega)]at a
   cases a;simp at d;exact C d.symm
  ·rw[Xt (by omega)]at a
   by_cases k2:k=2
   ·subst k2
    rw[List.getElem?_set_self (by simp;omega)]at a
    cases a
    rcases hg.new q d with R|R
    ·exact Q R
    ·omega
   ·rw[Xt (by omega)]at a
    by_cases N:k=14
    ·subst N
     rw[List.getElem?_set_self (by omega)]at a
     cases a
     exact ag q d (by simp)
    ·rw[Xt (by omega)]at a
     exact f.apart k 14 _ _ a m N q d z
 ·rw[V.block q (Nat.lt_of_lt_of_le K hg.upd.size) (by simpa using Ne.symm C),hg.upd.block q K Q]
end
end Go.Proofs.YtlhapbopmplngaaGreatDoor
namespace Go.Lk
def ZkC {l:List Nat} (h:l.Nodup) {j q:Nat} (hq:l[j]? =some q):(l.filter fun x=> !(x==q))=l.eraseIdx j:=by
 induction l generalizing j with
 |nil=>simp at hq
 |cons a l ih=>
  have b:=List.nodup_cons.1 h
  cases j with
  |zero=>
   simp only[Xg,Option.some.injEq]at hq
   subst hq
   rw[List.filter_cons]
   simp only[BEq.rfl,Bool.not_true,Bool.false_eq_true,if_false,List.eraseIdx_cons_zero]
   rw[List.filter_eq_self]
   intro x hx
   have:x≠a:=fun e=>b.1 (e▸hx)
   simp[this]
  |succ j=>
   have ha:a≠q:=fun e=>by
    subst e
    simp only[Xf]at hq
    exact b.1 (Xc hq)
   rw[List.filter_cons]
   simp only[ha,Bool.not_eq_true',if_true,List.eraseIdx_cons_succ,not_false_eq_true,beq_eq_false_iff_ne,ne_eq]
   rw[ih b.2 (by simpa using hq)]
def ZlA {s:Ze} {j:Nat} (hn:(s.pres.map (·.num)).Nodup) (hx:s.pres[j]? =some x) (hc:0<x.conn) (keep:Bool):forgetS s x keep={s with pool:=giveP s.pool x.conn s.now keep,pres:=s.pres.eraseIdx j}:=by
 have e:=ZiY (k:=(·.num)) hn hx
 rw[Z7]at e
 unfold forgetS
 simp only[if_pos hc]
 rw[e]
def Zlp {s:Ze} {j:Nat} (hn:(s.pres.map (·.num)).Nodup) (hx:s.pres[j]? =some x) (hc:¬0<x.conn) (keep:Bool):forgetS s x keep={s with queue:=dropQ s.queue x.item,pres:=s.pres.eraseIdx j}:=by
 have e:=ZiY (k:=(·.num)) hn hx
 rw[Z7]at e
 unfold forgetS
 simp only[if_neg hc]
 rw[e]
end Go.Lk
namespace Go.Proofs.YtlhapbopmplngaaGreatDoor
open Go.RowKit Go.Lk
def Zi7 (x q box:Nat) (W:World) {ca cb:Array Value} (hx:W.heap[x]? =some (.cells ca 255 (0,0))) (hq:W.heap[q]? =some (.cells cb 255 (0,0))) (hc:W.cell? ⟨box,0,none⟩=some (.pointer (some ⟨q,0,none⟩))):
  Calls Tryz.prog 244 #[.pointer (some ⟨x,0,none⟩), .pointer (some ⟨box,0,none⟩)] W fun e w'=>e= .returned (.bool (x==q))∧Zg [] W w':=by
 obtain⟨z,a⟩:=Je ((x==q))
 have d: Tryz.prog.underlying 152=some (.pointer 255):= Tryz.underlying152
 have c:(Tryz.prog.info? 255).map (·.size)=some 4:=by kernel_rfl
 obtain⟨i,b,g⟩:=Option.map_eq_some_iff.1 c
 have j:(binOp .eql 152 (.pointer (some ⟨x,0,none⟩)) (.pointer (some ⟨q,0,none⟩))).run Tryz.prog W= .ok (.bool z) W:=by
  by_cases h:x=q
  ·subst h
   rw[a,run_eql_ptr_same W _ d b];simp
  ·rw[a,run_eql_ptr_other W d b (by omega) (by intro e;injection e with e;exact h e) hx hq];simp[h]
 rw[←a]
 clear a hx hq c b g
 go_in
 go_wp2_with fail
 go_ret
 exact⟨rfl,Zg.refl _ _⟩
def Zr1 (b:Nat) (P:Ym) (lk:Option Nat) (s:Ze) (va vl:Value) (w:World) (F:List Nat) (j q:Nat) (e:Ending) (w':World):Prop:=
 e= .returned (.tuple #[])∧∃vp' F',Zh w' b {P with qps:=P.qps.eraseIdx j} lk s va vp' vl F'∧Zi w w' F F'∧q∉F'∧w'.heap[q]? =w.heap[q]?
theorem Zey {P:Prop}(h:P:=by
 go_wp2_with fail
 refine Jz ?_
 obtain⟨G,hr,O,ah,a,aF,ag⟩:=E.delPres c C.out
 have av:Y.cell? ⟨b,18,none⟩=some vp:=Zf (i:=18) E.blk.1 rfl
 have af:L∉G:=fun J=>ae.out.2 (O L J)
 have hd:=Zqx (fun x=>x==q) 244 #[.pointer (some ⟨L,0,none⟩)] (fun _=>ZnP) (fun _=>ZeL) (G:=[]) hr rfl (by intro k _ J;cases J) (fun aD W=>Go.MuLone.run_callFunc_enter Tryz.func244 (by kernel_rfl) rfl _ _)
  (fun W G1 d r y H hI T=>(Zi7 y q L W
   (show W.heap[y]? =some (.cells ((a y (by rw[H];simp)).2.choose) 255 (0,0))from(T.block y (Array.getElem?_eq_some_iff.1 (a y (by rw[H];simp)).2.choose_spec).1 (by simpa using(a y (by rw[H];simp)).1)).trans (a y (by rw[H];simp)).2.choose_spec)
   (show W.heap[q]? =some (.cells ((a q (Xc c)).2.choose) 255 (0,0))from(T.block q (Array.getElem?_eq_some_iff.1 (a q (Xc c)).2.choose_spec).1 (by simpa using(a q (Xc c)).1)).trans (a q (Xc c)).2.choose_spec) (Zf (i:=0) ((Kv T ae.out.1 (by simpa using af))) rfl)).mono (by rintro e w' ⟨V,g⟩;exact⟨V,G1,hI,Zi.mk (g.weaken (by simp)) (fun k hk=> .inl hk)⟩))
 rw[ZkC E.qnd c.out]at hd
 have HD:=D hd;have ax:=D ag;have aw:=D ah;have aG:=D O
 clear hd ag hr ah a O af
 go_upto_region 4 with fail
 go_wp2_with fail
 refine HD.out.mono ?_
 rintro e z ⟨v7,rfl,N,G7,_,_,p,_⟩
 rw[List.append_nil]at p
 have o:=Kv p E.blk.1 aw
 have aE:z.cell? ⟨b,18,none⟩=some vp:=Zf (i:=18) o rfl
 have aH:=Kf 18 o
 obtain⟨A7,ad,e7,_⟩:=N.form'
 rw[Xb]at e7
 subst e7
 obtain⟨F8,h8,g8,q8,e8⟩:=ax.out z (z.setCell ⟨b,18,none⟩ (.slice A7 (P.qps.eraseIdx j).length ad)) (.slice A7 (P.qps.eraseIdx j).length ad) G N (Zi.of_upd p) (by rw[Zd o];rfl) ((Zg.refl [b] z).setCell (.inr (by simp)) _)
 have H8:=D h8;have G8:=D ((G6.trans g8));have Q8:=D q8;have E8:=D e8
 clear N p o h8 g8 q8 e8 av
 go_wp2_with fail
 (try simp only[Exit.inBlock,Exit.then])
 first|refine bodyPost_ret (results_none rfl _ _ _) rfl ?_|refine bodyPost_end (results_none rfl _ _ _) rfl ?_
 rw[HE.out]
 exact⟨rfl,_,_,H8.out,G8.out,Q8.out,E8.trans E6⟩):P:=h
theorem Zeb (h:Zh w b P lk s va vp vl F) (hfit:ZQ s n m) (hn:n≤1000000) {j q:Nat} (hq:P.qps[j]? =some q) (hx:s.pres[j]? =some x) (hnd:(s.pres.map (·.num)).Nodup) (keep:Bool):
  Calls Tryz.prog 158 #[.pointer (some ⟨b,0,none⟩), .pointer (some ⟨q,0,none⟩), .bool keep] w (Zr1 b P lk (forgetS s x keep) va vl w F j q):=by
 have aK:∀(fn:Fn) (first cap:Array Value) (w:World),(Instr.makeFunc fn first cap).run Tryz.prog w= .ok (.func fn first cap) w:=fun _ _ _ _=>rfl
 obtain⟨R,al⟩:=Je (forgetS s x keep)
 rw[←al]
 obtain⟨w1,ap,aj,ac⟩:=Kc w (.cells #[.pointer (some ⟨q,0,none⟩)] 152)
 have ay:=h.lt
 obtain⟨L,HL⟩:=Je w.heap.size
 rw[←HL]at ac
 have aC:L∉F:=fun J=>by have:=ay L J;omega
 have V:=h.upd0 aj
 have am:=V.flight hq hx
 have c0:=Jx 0 ac
 have k2:=Jx 2 am.1
 have ao:w1.heap[q]? =w.heap[q]? :=aj.block q (ay q am.2.1) (by simp)
 have aB:=D aC;have H1:=D V
 have c:=D hq;have C:=D hx;have aA:=D hnd;have az:=D hfit;have aJ:=D am.2.1
 clear h hfit hq hx hnd ay aC V am;change Hid _ at ap aj ac HL ao al
 go_in
 by_cases hc:0<x.conn
 ·have HE:=D (al.trans (ZlA aA C hc keep))
  go_upto_region 1 with fail
  rw[←ap.out,←HL.out]
  go_upto_region 2 with fail
  obtain⟨I,l⟩:=Je w1.drew
  have S:=Jd l
  have g:=H1.upd0 S
  have d8:=Jx 8 g.blk.1
  have d7:=Jx 7 g.blk.1
  have M:I.cell? ⟨L,0,none⟩=some (.pointer (some ⟨q,0,none⟩)):=by rw[l];exact c0
  have K:I.cell? ⟨q,2,none⟩=some (.int .i64 x.conn):=by rw[l];exact k2
  have Q:I.heap[L]? =some (.cells #[.pointer (some ⟨q,0,none⟩)] 152 (0,0)):=by rw[l];exact ac.out
  obtain⟨GP,hp,aq,aa⟩:=g.pool
  have H2:=D g;have HP:=D hp;have ar:=D aa;have ak:=D l;have au:=Jt aj S
  have an:=D (show I.heap[q]? =w.heap[q]? by rw[l];exact ao)
  clear g hp aa l S aq c0 k2;change Hid _ at Q
  refine Jr [0,4,8,12,16,20,24,28,32,36,40,44,52,49,58] (fun W=>W.cell? ⟨b,8,none⟩=some (.pointer (some ⟨P.pool,0,none⟩))∧W.cell? ⟨b,7,none⟩=some (.pointer (some ⟨P.clock,0,none⟩))∧W.cell? ⟨L,0,none⟩=some (.pointer (some ⟨q,0,none⟩))∧W.cell? ⟨q,2,none⟩=some (.int .i64 x.conn)) (by rw[ak.out]at d8 d7 M K;exact⟨d8,d7,M,K⟩) ?_
  repeat first|refine Jn ?_|refine Jf ?_|refine Ju ?_
  refine JE ?_
  simp only[Xu]
  rw[←ak.out]
  go_wp2_with fail
  refine(Zbm H2.clock.1).mono ?_
  rintro e W ⟨rfl,hW⟩
  rw[hW]
  clear hW W
  go_wp2_with fail
  refine⟨_,fun W hW=>hW,⟨d8,d7,M,K⟩,?_⟩
  refine JL ?_
  go_wp2_with fail
  refine(ZjV HP x.conn s.now keep az.now).mono ?_
  rintro e Y ⟨cg,rfl,aI,ai,ab⟩
  obtain⟨F6,X,Z⟩:=ar.out _ _ _ ai ab
  have E:=D X
  have ae:=D (show Y.heap[L]? =some (.cells #[.pointer (some ⟨q,0,none⟩)] 152 (0,0))∧L∉F6 by
   obtain⟨o1,o2⟩:=Z.off (L:=L) (Jg Q) aB.out
   exact⟨o1.trans Q,o2⟩)
  have E6:=D (show Y.heap[q]? =w.heap[q]? by
   have a1:=(X.flight c C).1
   have a2:=(H2.flight c C).1
   rw[a1,←a2,an.out])
  have G6:=D (Z.pre0 au)
  clear ai ab X Z d8 d7 M K
  exact Zey
 ·have HE:=D (al.trans (Zlp aA C hc keep))
  go_upto_region 1 with fail
  rw[←ap.out,←HL.out]
  go_upto_region 3 with fail
  obtain⟨I,l⟩:=Je w1.drew
  have S:=Jd l
  have g:=H1.upd0 S
  have d9:=Jx 9 g.blk.1
  have M:I.cell? ⟨L,0,none⟩=some (.pointer (some ⟨q,0,none⟩)):=by rw[l];exact c0
  have K:I.cell? ⟨q,1,none⟩=some (.int .i64 x.item):=Zf (i:=1) (g.flight c C).1 rfl
  have Q:I.heap[L]? =some (.cells #[.pointer (some ⟨q,0,none⟩)] 152 (0,0)):=by rw[l];exact ac.out
  obtain⟨GP,hp,aq,aa⟩:=g.queue
  have H2:=D g;have HP:=D hp;have ar:=D aa;have ak:=D l;have au:=Jt aj S
  have an:=D (show I.heap[q]? =w.heap[q]? by rw[l];exact ao)
  clear g hp aa l S aq c0 k2;change Hid _ at Q
  refine Jr [0,4,8,12,16,20,24,28,34] (fun W=>W.cell? ⟨b,9,none⟩=some (.pointer (some ⟨P.queue,0,none⟩))∧W.cell? ⟨L,0,none⟩=some (.pointer (some ⟨q,0,none⟩))∧W.cell? ⟨q,1,none⟩=some (.int .i64 x.item)) (by rw[ak.out]at d9 M K;exact⟨d9,M,K⟩) ?_
  repeat first|refine Jn ?_|refine Jf ?_|refine Ju ?_
  refine JL ?_
  simp only[Xu]
  rw[←ak.out]
  go_wp2_with fail
  refine(ZfD HP (Xj az.q (by omega)) x.item).mono ?_
  rintro e Y ⟨rfl,aI,ai,ab⟩
  obtain⟨F6,X,Z⟩:=ar.out _ _ _ ai ab
  have E:=D X
  have ae:=D (show Y.heap[L]? =some (.cells #[.pointer (some ⟨q,0,none⟩)] 152 (0,0))∧L∉F6 by
   obtain⟨o1,o2⟩:=Z.off (L:=L) (Jg Q) aB.out
   exact⟨o1.trans Q,o2⟩)
  have E6:=D (show Y.heap[q]? =w.heap[q]? by
   have a1:=(X.flight c C).1
   have a2:=(H2.flight c C).1
   rw[a1,←a2,an.out])
  have G6:=D (Z.pre0 au)
  clear ai ab X Z d9 M K
  exact Zey
end Go.Proofs.YtlhapbopmplngaaGreatDoor
