import Derived.Laws.StructEq
import Derived.Test.YtlhapbopmplngaaGreatDoorS8
set_option linter.all false
set_option maxHeartbeats 16000000
set_option maxRecDepth 100000
set_option autoImplicit true
set_option relaxedAutoImplicit true
namespace Go.Proofs.YtlhapbopmplngaaGreatDoor
open Go.RowKit Go.Lk
def YG (c:Zes):List Value:=[.string ⟨c.origin.toArray⟩, .string ⟨c.url.toArray⟩, .bool c.creds]
def Zn (e:Zp):List Value:=YG e.cell++[.string ⟨e.method.toArray⟩, .string ⟨e.header.toArray⟩, .int .u64 e.until_]
def Zbs (x:Zp):∀u∈Zn x,u.oneCell'=true:=by
 intro u a;simp only[Zn,YG,List.cons_append,List.nil_append,List.mem_cons,List.not_mem_nil,or_false]at a;rcases a with rfl|rfl|rfl|rfl|rfl|rfl<;>rfl
def ZpQ (a c:Zes) (w:World):(binOp .eql 246 (.agg (YG a).toArray) (.agg (YG c).toArray)).run Tryz.prog w= .ok (.bool (a==c)) w:=by
 have u3:= Tryz.underlying9
 have u4:= Tryz.underlying4
 have n:= Tryz.isAgg9
 have m:= Tryz.isAgg4
 have l:= Tryz.sizeOf9
 have o:= Tryz.sizeOf4
 have i: Tryz.prog.underlying 246=some (.struct (Tryz.prog.fieldsOf 246)):=by kernel_rfl
 have k: Tryz.prog.stoodInHeld 246=false:=by kernel_rfl
 simp only[YG]
 rw[run_eql_struct,show(10000:Nat)=9999+1 from rfl,run_equalIn_agg w 9999 246 _ _ i k]
 simp only[Program.fieldsOf,Tryz.underlying246]
 go_simp
 obtain⟨g,u1,j⟩:=a
 obtain⟨f,u2,b⟩:=c
 by_cases h:g=f<;>by_cases d:u1=u2<;>by_cases e:j=b<;>simp[h,d,e]
def ZcU {P:Program} (w:World) {ops:Array Oper} {rest:List Oper} {o:Oper} {a:Act} {Q:Exit→Act→World→Prop} (hgd:o.guard=none) (t:TypeId) (x y:Operand) (ty:TypeId) (ho:o.op= .binOp .eql t x y ty)
  (xs ys:Array Value) (hx:a.eval x= .agg xs) (hy:a.eval y= .agg ys) (hm:P.eqGuardType P.depth t=false) (r:Bool) (hr:(binOp .eql t (.agg xs) (.agg ys)).run P w= .ok (.bool r) w)
  (h:wpList P ops Q rest (a.put o.dst (.bool r)) w):wpList P ops Q (o::rest) a w:=
 wpList_plain hgd fun K hK=>by
  unfold Oper.wp execOp
  simp only[ho,Sem.run_bind,Sem.run_pure,Result.andThen_ok,hx,hy,run_eqGuard_agg w _ t x y xs ys hm,hr]
  exact hK _ _ h
def Zj3 (e:Zp):Value:= .agg #[.string ⟨e.cell.origin.toArray⟩, .string ⟨e.cell.url.toArray⟩, .bool e.cell.creds, .string ⟨e.method.toArray⟩, .string ⟨e.header.toArray⟩, .int .u64 e.until_]
def Zf5 {P:Prop}(h:P:=by
 go_in
 go_upto_region 1 with fail
 rw[o.out]
 go_wp2_with(first|refine ZX _ rfl 246 (.tmp 5) rfl w.heap.size 0 (YG a.cell) (by simp[Act.eval,Act.put]) b q ?_|refine ZX _ rfl 246 (.tmp 7) rfl (w.heap.size+1) 0 (YG c.cell) (by simp[Act.eval,Act.put]) b y ?_|refine ZcU _ rfl 246 (.tmp 6) (.tmp 8) 246 rfl (YG a.cell).toArray (YG c.cell).toArray rfl rfl p true (k.out _) ?_)
 go_ret
 exact⟨by rw[h.out];rfl,n.out⟩):P:=h
def Zii (a c:Zp) (w:World):
  Calls Tryz.prog 240 #[.agg (Zn a).toArray, .agg (Zn c).toArray] w fun e w'=>e= .returned (.bool (Zeh a c))∧Zg [] w w':=by
 obtain⟨d,g⟩:=Je ((w.alloc (.cells (Zn a).toArray 268)).alloc (.cells (Zn c).toArray 268))
 have n:Zg [] w d:=by rw[g];exact((Zg.refl [] w).alloc _).alloc _
 have l:d.heap[w.heap.size]? =some (.cells (Zn a).toArray 268 (0,0)):=by rw[g,Zz _ (by simp)];exact Za _
 have m:d.heap[w.heap.size+1]? =some (.cells (Zn c).toArray 268 (0,0)):=by
  rw[g];have:=Za (w:=w.alloc (.cells (Zn a).toArray 268)) (.cells (Zn c).toArray 268);simpa using this
 have q:=D (show Zb d w.heap.size 0 (YG a.cell)from fun i u j=>by
  have:=(Zb.of_block (cs:=Zn a) l) i u (by unfold Zn;rw[List.getElem?_append_left (Jk j)];exact j);exact this)
 have y:=D (show Zb d (w.heap.size+1) 0 (YG c.cell)from fun i u j=>by
  have:=(Zb.of_block (cs:=Zn c) m) i u (by unfold Zn;rw[List.getElem?_append_left (Jk j)];exact j);exact this)
 have I:=Jc 3 l
 have F:=Jc 4 l
 have H:=Jc 3 m
 have G:=Jc 4 m
 have b:=D (show Zu Tryz.prog 246 3=true by kernel_rfl)
 have k:=D (ZpQ a.cell c.cell)
 clear l m;change Hid _ at g n
 obtain⟨x,hx⟩:=Je ((a.cell==c.cell))
 obtain⟨r,s⟩:=Je (Zeh a c)
 have E:=D (show r=(x&&a.method==c.method&&a.header==c.header)by rw[s,hx];rfl)
 rw[←hx]at k
 rw[←s]
 clear s hx
 have z:∀e:Zp,Value.agg (Zn e).toArray=Zj3 e:=fun e=>rfl
 rw[z,z]
 have o:(w.alloc (.cells #[.string ⟨a.cell.origin.toArray⟩, .string ⟨a.cell.url.toArray⟩, .bool a.cell.creds, .string ⟨a.method.toArray⟩, .string ⟨a.header.toArray⟩, .int .u64 a.until_] 268)).alloc (.cells #[.string ⟨c.cell.origin.toArray⟩, .string ⟨c.cell.url.toArray⟩, .bool c.cell.creds, .string ⟨c.method.toArray⟩, .string ⟨c.header.toArray⟩, .int .u64 c.until_] 268)=d:=g.symm
 clear z;change Hid _ at o
 unfold Zj3
 have p:=D (show Tryz.prog.eqGuardType Tryz.prog.depth 246=false by kernel_rfl)
 cases x with
 |true=>
  have C:=D (show r=(a.method==c.method&&a.header==c.header)by rw[E.out,Bool.true_and])
  cases hm:(a.method==c.method)with
  |true=>
   have h:=D (show r=(a.header==c.header)by rw[C.out,hm,Bool.true_and])
   exact Zf5
  |false=>
   have h:=D (show r=false by rw[C.out,hm,Bool.false_and])
   exact Zf5
 |false=>
  have h:=D (show r=false by rw[E.out,Bool.false_and,Bool.false_and])
  go_in
  go_upto_region 1 with fail
  rw[o.out]
  go_wp2_with(first|refine ZX _ rfl 246 (.tmp 5) rfl w.heap.size 0 (YG a.cell) (by simp[Act.eval,Act.put]) b q ?_|refine ZX _ rfl 246 (.tmp 7) rfl (w.heap.size+1) 0 (YG c.cell) (by simp[Act.eval,Act.put]) b y ?_|refine ZcU _ rfl 246 (.tmp 6) (.tmp 8) 246 rfl (YG a.cell).toArray (YG c.cell).toArray rfl rfl p false (k.out _) ?_)
  go_ret
  exact⟨by rw[h.out];rfl,n.out⟩
def Yf (b:Nat) (most:Int) (l:List Zp):YD:=Y2 b (fun v=> #[v, .int .i64 most]) 187 268 6 (l.map Zn)
def ZF (b:Nat) (most:Int) (l:List Zp):(Yf b most l).Local:=Zaf _ _ _ _ _ _
def Zki (x:Zp) (box:Nat) (now:Nat) (W:World) (hc:W.cell? ⟨box,0,none⟩=some (.int .u64 now)):
  Calls Tryz.prog 300 #[.agg #[.string ⟨x.cell.origin.toArray⟩, .string ⟨x.cell.url.toArray⟩, .bool x.cell.creds, .string ⟨x.method.toArray⟩, .string ⟨x.header.toArray⟩, .int .u64 x.until_], .pointer (some ⟨box,0,none⟩)] W fun e w'=>e= .returned (.bool (decide (x.until_≤now)))∧Zg [] W w':=by
 have a:=Zay hc
 have b:box≠W.heap.size:=by omega
 go_in
 go_wp2
 go_ret
 exact⟨rfl,(Zg.refl _ _).alloc _⟩
def Zme (x e:Zp) (box:Nat) (W:World) (hc:Zb W box 0 (Zn e)):
  Calls Tryz.prog 239 #[.agg (Zn x).toArray, .pointer (some ⟨box,0,none⟩)] W fun e' w'=>e'= .returned (.bool (Zeh x e))∧Zg [] W w':=by
 have m:=Zay (hc 0 _ rfl)
 have n:box≠W.heap.size:=by omega
 obtain⟨b,g,a,hv⟩:=Kc W (.cells (Zn x).toArray 268)
 have j:=D (show Zb b W.heap.size 0 (Zn x)from Zb.of_block hv)
 have l:=D (hc.upd a)
 have h:=D (show Zu Tryz.prog 268 6=true by kernel_rfl)
 have k:=D (Zii x e b)
 clear hv hc;change Hid _ at g a
 have d:W.alloc (.cells #[.string ⟨x.cell.origin.toArray⟩, .string ⟨x.cell.url.toArray⟩, .bool x.cell.creds, .string ⟨x.method.toArray⟩, .string ⟨x.header.toArray⟩, .int .u64 x.until_] 268)=b:=g.symm
 show Calls _ _ #[.agg #[.string ⟨x.cell.origin.toArray⟩, .string ⟨x.cell.url.toArray⟩, .bool x.cell.creds, .string ⟨x.method.toArray⟩, .string ⟨x.header.toArray⟩, .int .u64 x.until_], .pointer (some ⟨box,0,none⟩)] W _
 change Hid _ at d
 go_in
 go_upto_region 1 with fail
 rw[d.out]
 go_wp2_with(first|refine Jl j h ?_|refine Jl l h ?_)
 refine k.out.mono ?_
 rintro e' o ⟨rfl,c⟩
 have i:=Jt a c
 clear c
 go_wp2_with fail
 go_ret
 exact⟨rfl,i.out⟩
def Znr (x e:Zp) (box:Nat) (nb now:Nat) (W:World) (hc:Zb W box 0 (Zn e)) (hn:W.cell? ⟨nb,0,none⟩=some (.int .u64 now)):
  Calls Tryz.prog 336 #[.agg (Zn x).toArray, .pointer (some ⟨box,0,none⟩), .pointer (some ⟨nb,0,none⟩)] W fun e' w'=>e'= .returned (.bool (Zeh x e&&decide (now<x.until_)))∧Zg [] W w':=by
 have w:=Zay (hc 0 _ rfl)
 have r:box≠W.heap.size:=by omega
 obtain⟨d,h,a,c⟩:=Kc W (.cells (Zn x).toArray 268)
 have o:=D (show Zb d W.heap.size 0 (Zn x)from Zb.of_block c)
 have q:=D (hc.upd a)
 have i:=D (show Zu Tryz.prog 268 6=true by kernel_rfl)
 have m:=D (Zii x e d)
 have n:=D a
 obtain⟨s,k⟩:=Je (Zeh x e)
 rw[←k]at m⊢
 have l:=D ((Xp (a.block nb (Zay hn) (by simp))).trans hn)
 have y:=D (show nb≠W.heap.size by have:=Zay hn;omega)
 clear k hn
 clear a hc;change Hid _ at h c
 have g:W.alloc (.cells #[.string ⟨x.cell.origin.toArray⟩, .string ⟨x.cell.url.toArray⟩, .bool x.cell.creds, .string ⟨x.method.toArray⟩, .string ⟨x.header.toArray⟩, .int .u64 x.until_] 268)=d:=h.symm
 show Calls _ _ #[.agg #[.string ⟨x.cell.origin.toArray⟩, .string ⟨x.cell.url.toArray⟩, .bool x.cell.creds, .string ⟨x.method.toArray⟩, .string ⟨x.header.toArray⟩, .int .u64 x.until_], .pointer (some ⟨box,0,none⟩), .pointer (some ⟨nb,0,none⟩)] W _
 change Hid _ at g
 go_in
 go_upto_region 1 with fail
 rw[g.out]
 go_wp2_with(first|refine Jl o i ?_|refine Jl q i ?_)
 refine m.out.mono ?_
 rintro e' p ⟨rfl,b⟩
 have j:=Jt n b
 have C:=Jc 5 ((Kv b c))
 have z:p.cell? ⟨nb,0,none⟩=some (.int .u64 now):=(Xp (b.block nb (Zay l) (by simp))).trans l.out
 clear b
 cases s with
 |true=>
  go_wp2_with fail
  go_ret
  refine⟨?_,j.out⟩
  first|rfl|(simp)|(congr 2;simp)
 |false=>
  go_wp2_with fail
  go_ret
  exact⟨rfl,j.out⟩
def Zfb (p:Zp→Bool) (g:FuncId) (lb:Array Value) {l:List Zp}
  (h:Zk 268 6 v (l.map Zn) w F) (eg:∀args w,(callFunc g args).run Tryz.prog w= .ok (.enter g args) w)
  (hp:∀(W:World) (x:Zp),x∈l→Zg [] w W→Calls Tryz.prog g (#[.agg (Zn x).toArray]++lb) W fun e w'=>e= .returned (.bool (p x))∧Zg [] W w'):
  Calls Tryz.prog 335 #[v, .func (.func g) #[] lb] w fun e w'=>e= .returned (.bool (l.any p))∧Zg [] w w':=by
 have b:=Zid Zn p g lb h eg hp
 have a:=Zc4 p l
 obtain⟨r,d⟩:=Je (Y5 p l)
 rw[←d]at b a
 rw[←a]
 have i:=D b
 clear b d a h hp
 go_in
 go_wp2_with fail
 refine i.out.mono ?_
 rintro e w' ⟨rfl,c⟩
 have j:=D c;clear c
 go_wp2_with fail
 go_ret
 exact⟨rfl,j.out⟩
def ZjG {most:Int} (h:Yf b most l w F) (e:Zp) (now:Nat):
  Calls Tryz.prog 286 #[.pointer (some ⟨b,0,none⟩), .agg (Zn e).toArray, .int .u64 now] w fun e' w'=>e'= .returned (.bool (Zib l e now))∧Zg [] w w':=by
 obtain⟨d,c⟩:=Je ((w.alloc (.cells (Zn e).toArray 268)).alloc (.cells #[.int .u64 now] 24))
 have j:Zg [] w d:=by rw[c];exact((Zg.refl [] w).alloc _).alloc _
 have m:d.heap[w.heap.size]? =some (.cells (Zn e).toArray 268 (0,0)):=by rw[c,Zz _ (by simp)];exact Za _
 have o:d.heap[w.heap.size+1]? =some (.cells #[.int .u64 now] 24 (0,0)):=by
  rw[c];have:=Za (w:=w.alloc (.cells (Zn e).toArray 268)) (.cells #[.int .u64 now] 24);simpa using this
 obtain⟨v,G,C,z,q,a⟩:=(ZF _ _ _).upd h j
 have H:d.cell? ⟨b,0,none⟩=some v:=Zf (i:=0) q rfl
 have g:=Zfb (fun x=>Zeh x e&&decide (now<x.until_)) 336 #[.pointer (some ⟨w.heap.size,0,none⟩), .pointer (some ⟨w.heap.size+1,0,none⟩)] a (enters_of Tryz.func336 (by kernel_rfl) rfl) (fun W x _ s=>Znr x e w.heap.size (w.heap.size+1) now W
  (Zb.of_block ((Kv s m))) (Zf ((Kv s o)) rfl))
 have k:Zib l e now=l.any fun x=>Zeh x e&&decide (now<x.until_):=rfl
 obtain⟨r,a⟩:=Je (Zib l e now)
 rw[←k,←a]at g
 rw[←a]
 have E:=D g
 clear g m o C z q a k h;change Hid _ at c j
 show Calls _ _ #[.pointer (some ⟨b,0,none⟩),Zj3 e, .int .u64 now] w _
 have p:(w.alloc (.cells #[.string ⟨e.cell.origin.toArray⟩, .string ⟨e.cell.url.toArray⟩, .bool e.cell.creds, .string ⟨e.method.toArray⟩, .string ⟨e.header.toArray⟩, .int .u64 e.until_] 268)).alloc (.cells #[.int .u64 now] 24)=d:=c.symm
 change Hid _ at p
 unfold Zj3
 go_in
 go_upto_region 1 with fail
 rw[p.out]
 go_wp2_with fail
 refine E.out.mono ?_
 rintro e' I ⟨rfl,n⟩
 have y:=Jt j n
 clear n
 go_wp2_with fail
 go_ret
 exact⟨rfl,y.out⟩
def ZnP:YD:=fun _ F=>F=[]
def ZeL:ZnP.Local:=⟨fun h k hk=>(by rw[h]at hk;cases hk),fun h _ _=>h⟩
def Zmq (p:Zp→Bool) (g:FuncId) (lb:Array Value) (eg:∀args w,(callFunc g args).run Tryz.prog w= .ok (.enter g args) w) {b:Nat} {most:Int} {l:List Zp} {w:World} {v:Value} {G:List Nat} (hbG:b∉G)
  (hb:w.heap[b]? =some (.cells #[v, .int .i64 most] 187 (0,0))) (hr:Zk 268 6 v (l.map Zn) w G) (hl:l.length≤1000000)
  (hp:∀(W:World) (x:Zp),Zg G w W→Calls Tryz.prog g (#[.agg (Zn x).toArray]++lb) W fun e w'=>e= .returned (.bool (p x))∧Zg [] W w'):
  Calls Tryz.prog 299 #[.pointer (some ⟨b,0,none⟩), .func (.func g) #[] lb] w (Zir fun w'=>Yf b most (l.filter fun x=> !p x) w' (b::G)∧Zg (b::G) w w'):=by
 have o:=Znb Zn p g lb (fun _=>ZnP) (fun _=>ZeL) (G:=[]) hr Zbs rfl (by intro k _ h;cases h) eg (fun W G1 d r x hl R M=>(hp W x (by simpa using M)).mono (by
  rintro e w' ⟨rfl,T⟩
  cases R
  exact⟨rfl,[],rfl,T,fun k a=> .inl a⟩))
 obtain⟨A,c,rfl,O⟩:=hr.form'
 rw[Xb]at hb O o
 have Q:=Jc 0 hb
 have P:=D o;have X:=D hb;have s:=D hbG
 have z:=Xq (fun x=> !p x) l
 have Z:=D z
 obtain⟨m,h⟩:=Je ((l.filter fun x=> !p x).length)
 have Y:m≤1000000:=by omega
 have N:=D h
 clear o hb hr hp hbG z h
 go_in
 go_wp2_with fail
 refine P.out.mono ?_
 rintro e y ⟨v',rfl,q,G3,J,H,E,I⟩
 have n:Zg G w y:=by simpa using E
 obtain⟨V,S,F,_⟩:=q.form'
 rw[Xb,←N.out]at F
 subst F
 have j:=Kv n X s
 have k0:=Jc 0 j
 have f0:=Kf 0 j
 have L:=D q;have K:=D n
 clear q J H E I n Q;change Hid _ at j
 go_wp2_with fail
 go_ret
 have C:Zg [b] y (y.setCell ⟨b,0,none⟩ (.slice V m S)):=(Zg.refl _ _).setCell (.inr (by simp)) _
 refine⟨_,rfl,⟨_,G,rfl,s.out,Zd (i:=0) j _,(Zc _ _ _ _).upd L C (fun k a h=>by rw[Jm h]at a;exact s a)⟩,?_⟩
 exact((K.weaken (G:=b::G) (fun k a=> .inr (by simp[a]))).trans C (fun k a=> .inr (by simp at a;simp[a])))
def ZlY {most:Int} (h:Yf b most l w F) (hl:l.length≤1000000) (now:Nat):
  Calls Tryz.prog 237 #[.pointer (some ⟨b,0,none⟩), .int .u64 now] w (Zir fun w'=>Yf b most (ZiF l now) w' F∧Zg F w w'):=by
 have j:=(ZF _ _ _).lt h
 obtain⟨v,G,rfl,m,r,p⟩:=h
 obtain⟨J,q,a,d⟩:=Kc w (.cells #[.int .u64 now] 24)
 have c:=Zmq (fun x=>decide (x.until_≤now)) 300 #[.pointer (some ⟨w.heap.size,0,none⟩)] (enters_of Tryz.func300 (by kernel_rfl) rfl) m ((Kv a r)) ((Zc _ _ _ _).upd p a) hl (fun W x C=>Zki x w.heap.size now W (by
  have:=(Kv C d (fun E=>by have:=j w.heap.size (by simp[E]);omega))
  exact Zf (i:=0) this rfl))
 have z:=D c
 clear c d r p j m;change Hid _ at q a
 go_in
 go_upto_region 1 with fail
 rw[←q.out]
 go_wp2_with fail
 refine z.out.mono ?_
 rintro e I ⟨n,rfl,o,g⟩
 have H:=D o;have s:=D g
 clear o g
 go_wp2_with fail
 go_ret
 exact⟨_,rfl,H.out,(a.weaken (by simp)).trans s (fun k y=> .inr y)⟩
def ZhS (l:List Zp) (k:Nat):Nat:=(List.range k).foldl (fun a i=>match l[i]?,l[a]? with
 |some e,some x=>if e.until_<x.until_ then i else a
 |_,_=>a) 0
def ZgH (l:List Zp) (k:Nat):ZhS l (k+1)=match l[k]?,l[ZhS l k]? with
 |some e,some x=>if e.until_<x.until_ then k else ZhS l k
 |_,_=>ZhS l k:=by
 unfold ZhS;rw[List.range_succ,List.foldl_append,List.foldl_cons,List.foldl_nil]
theorem ZnL (l:List Zp):∀k,ZhS l k≤k
 |0=>Xi _
 |k+1=>by
  rw[ZgH]
  have:=ZnL l k
  split
  ·split<;>omega
  ·omega
def Zkv {most:Int} (h:Yf b most l w F) (hl:l.length≤1000000):
  Calls Tryz.prog 241 #[.pointer (some ⟨b,0,none⟩)] w fun e w'=>e= .returned (.int .i64 (Zdf l))∧Zg [] w w':=by
 obtain⟨v,G,rfl,R,k,K⟩:=h
 obtain⟨A,c,rfl,S,r⟩:=K.lies
 rw[Xb]at k S
 have V:=Jc 0 k
 have X:=D k;have J:=D r
 have i:=D (show Zu Tryz.prog 268 6=true by kernel_rfl)
 clear k K r R
 go_in
 go_wp2
 go_loopw[3,11] (fun s3 s11 wr=>∃kk m:Nat,kk≤l.length∧m≤kk∧s11= .int .i64 kk∧s3= .int .i64 m∧Hid (m=ZhS l kk)∧Hid (Zg [] w wr)) (fun _ s11 _=>l.length-(intOf s11).toNat)
 case atStart=>exact⟨0,0,Xn _,Xi _,rfl,rfl,D rfl,D (Zg.refl [] w)⟩
 case round=>
  obtain⟨kk,m,Z,hm,rfl,rfl,L,g⟩:=hrel
  clear V
  have n:=Kv g X
  by_cases Q:kk<l.length
  ·have P:m<l.length:=by omega
   obtain⟨x,hx⟩:∃x,l[kk]? =some x:=⟨_,Xa Q⟩
   obtain⟨y,p⟩:∃y,l[m]? =some y:=⟨_,Xa P⟩
   obtain⟨T,rfl,C⟩:=J.out kk (Zn x) (by rw[Xe,hx];rfl)
   obtain⟨Y,d,I⟩:=J.out m (Zn y) (by rw[Xe,p];rfl)
   injection d with d;injection d with d
   subst d
   have z:=D (C.upd g)
   have M:=D (show(Zn x).toArray.all (·.oneCell')=true by rw[Xl,Xk];exact Zbs x)
   have q:=D (Za (w:=wr) (.cells #[.string ⟨#[]⟩, .string ⟨#[]⟩, .bool false, .string ⟨#[]⟩, .string ⟨#[]⟩, .int .u64 0] 268 (0,0)))
   obtain⟨W,a⟩:=Je ((wr.alloc (.cells #[.string ⟨#[]⟩, .string ⟨#[]⟩, .bool false, .string ⟨#[]⟩, .string ⟨#[]⟩, .int .u64 0] 268 (0,0))).setRow wr.heap.size (Zn x).toArray)
   have H:=Kk a q
   have j:=Kh a
   have k5:=Jc 5 H
   have ky:W.cell? ⟨T,m*6+5,none⟩=some (.int .u64 y.until_):=((I.upd g).upd j) 5 _ rfl
   have kb:=Jc 0 ((Kv j n))
   have E:=Jt g j
   have N:=D (show ZhS l (kk+1)=if x.until_<y.until_ then kk else m by rw[ZgH,←L.out,hx,p])
   clear hx p C I H j n;change Hid _ at a
   by_cases s:x.until_<y.until_
   ·have O:decide ((x.until_:Int)<(y.until_:Int))=true:=decide_eq_true (by omega)
    have o:=D (show ZhS l (kk+1)=kk by rw[N.out,if_pos s])
    go_wp2_with(first|refine Js z i ?_|(refine Jo (Zn x).toArray q i M ?_;rw[←a.out]))
    go_quiet (fail)
    go_wp2
    go_roundw
    case rel=>exact⟨kk+1,kk,by omega,by omega,by go_num,rfl,D o.symm,D (E.drewN _)⟩
    case measure=>simp[intOf];omega
   ·have O:decide ((x.until_:Int)<(y.until_:Int))=false:=decide_eq_false (by omega)
    have o:=D (show ZhS l (kk+1)=m by rw[N.out,if_neg s])
    go_wp2_with(first|refine Js z i ?_|(refine Jo (Zn x).toArray q i M ?_;rw[←a.out]))
    go_quiet (fail)
    go_wp2
    go_roundw
    case rel=>exact⟨kk+1,m,by omega,by omega,by go_num,rfl,D o.symm,D (E.drewN _)⟩
    case measure=>simp[intOf];omega
  ·obtain rfl:kk=l.length:=by omega
   clear n
   go_wp2
   go_ret
   exact⟨by rw[L.out];rfl,g.out⟩
def Zn0 (a c:Zp) (w:World):(binOp .eql 268 (.agg (Zn a).toArray) (.agg (Zn c).toArray)).run Tryz.prog w= .ok (.bool (a==c)) w:=by
 have u3:= Tryz.underlying9
 have u4:= Tryz.underlying4
 have u5:= Tryz.underlying24
 have H:= Tryz.isAgg9
 have L:= Tryz.isAgg4
 have K:= Tryz.isAgg24
 have I:= Tryz.sizeOf9
 have M:= Tryz.sizeOf4
 have J:= Tryz.sizeOf24
 have k: Tryz.prog.underlying 268=some (.struct (Tryz.prog.fieldsOf 268)):=by kernel_rfl
 have s: Tryz.prog.stoodInHeld 268=false:=by kernel_rfl
 have C:=D (show Tryz.prog.underlying 246=some (.struct (Tryz.prog.fieldsOf 246))by kernel_rfl)
 have E: Tryz.prog.stoodInHeld 246=false:=by kernel_rfl
 have F:= Tryz.isAgg246
 have G:= Tryz.sizeOf246
 simp only[Zn,YG,List.cons_append,List.nil_append]
 obtain⟨d,hd⟩:=Je (9997)
 rw[run_eql_struct,show(10000:Nat)=d+1+1+1 by rw[hd],run_equalIn_agg w (d+1+1) 268 _ _ k s]
 clear hd k
 simp only[Program.fieldsOf,Tryz.underlying268]
 go_simp
 obtain⟨⟨p,u1,o⟩,r,z,i⟩:=a
 obtain⟨⟨n,u2,x⟩,q,y,b⟩:=c
 by_cases j:p=n<;>by_cases f:u1=u2<;>by_cases h:o=x<;>by_cases g:r=q<;>by_cases e:z=y<;>by_cases l:i=b<;>first
 |(simp[j,f,h,g,e,l];done)
 |(
  have m:¬((i:Int)=(b:Int)):=by omega
  simp[j,f,h,g,e,l,m])
def ZqA {P:Program} {Q:Exit→Act→World→Prop} {ops:Array Oper} {i:Nat} {o:Oper} {a a':Act} (ho:ops[i]? =some o) (hg:o.guard=none) (t ty:TypeId) (x y:Operand) (hop:o.op= .binOp .eql t x y ty) (xs ys:Array Value)
  (hx:a.eval x= .agg xs) (hy:a.eval y= .agg ys) (hm:P.eqGuardType P.depth t=false) (b:Bool) (hr:∀W,(binOp .eql t (.agg xs) (.agg ys)).run P W= .ok (.bool b) W) (ha:a.put o.dst (.bool b)=a') (h:Z2 P ops Q r S a' w):Z2 P ops Q ((i,0)::r) S a w:=
 ZaF (v:= .bool b) ho hg (fun W hW=>by
  unfold execOp
  simp only[hop,Sem.run_bind,Sem.run_pure,Result.andThen_ok,hx,hy,run_eqGuard_agg W _ t x y xs ys hm,hr W]) ha h
def Zk0 {l:List Zp} (h:Zk 268 6 v (l.map Zn) w F) (hl:l.length≤4000000) (k:Zp):
  Calls Tryz.prog 298 #[v, .agg (Zn k).toArray] w fun e w'=>e= .returned (.int .i64 (Y5 (fun x=>k==x) l))∧Zg [] w w':=by
 obtain⟨A,c,rfl,o,H⟩:=h.lies
 rw[Xb]at o⊢
 obtain⟨w1,G,d,C⟩:=Kc w (.cells (Zn k).toArray 268)
 have T:=D H
 have Q:=D (show Zb w1 w.heap.size 0 (Zn k)from Zb.of_block C)
 have I:=D (show Zu Tryz.prog 268 6=true by kernel_rfl)
 have O:=D (show Tryz.prog.eqGuardType Tryz.prog.depth 268=false by kernel_rfl)
 obtain⟨n,q⟩:=Je l.length
 have i:=D q
 rw[←q]at hl o⊢
 obtain⟨p,r⟩:=Je (Y5 (fun x=>k==x) l)
 have M:=D r
 rw[←r]
 clear h H C q o r;change Hid _ at d G
 go_in
 go_upto_region 1 with fail
 rw[←G.out]
 go_wp2_with fail
 go_loopw[5,8] (fun _ s8 wr=>∃kk:Nat,kk≤n∧s8= .int .i64 kk∧Hid (∀(j:Nat) x,j<kk→l[j]? =some x→(k==x)=false)∧Hid (Zg [] w1 wr)) (fun _ s8 _=>n-(intOf s8).toNat)
 case atStart=>exact⟨0,Xn _,rfl,D (fun j x N=>absurd N (Nat.not_lt_zero _)),D (Zg.refl _ _)⟩
 case round=>
  obtain⟨kk,X,rfl,g,a⟩:=hrel
  by_cases J:kk<n
  ·have z:kk<l.length:=by rw[←i.out];exact J
   obtain⟨x,hx⟩:∃x,l[kk]? =some x:=⟨_,Xa z⟩
   obtain⟨V,rfl,E⟩:=T.out kk (Zn x) (by rw[Xe,hx];rfl)
   have R:=D (E.upd (d.trans a))
   have P:=D (Q.upd a)
   have K:=D hx
   obtain⟨b,s⟩:=Je ((k==x))
   have L:=D s
   have S:=D (show∀W,(binOp .eql 268 (.agg (Zn k).toArray) (.agg (Zn x).toArray)).run Tryz.prog W= .ok (.bool b) W from fun W=>by rw[s];exact Zn0 k x W)
   clear hx E s z
   go_upto_region 4 with fail
   refine Jr [0,4,8,12,16,20] (fun W=>Zb W w.heap.size 0 (Zn k)∧Zb W V (kk*6) (Zn x)) ⟨P,R.out⟩ ?_
   refine JO (cs:=Zn k) I.out (fun W m=>m.1) ?_
   repeat first|refine Jn ?_|refine Jf ?_|refine Ju ?_
   refine JO (cs:=Zn x) I.out (fun W m=>m.2) ?_
   apply ZqA (t:= 268) (ty:= 268) (x:= .tmp 11) (y:= .tmp 15) (xs:=(Zn k).toArray) (ys:=(Zn x).toArray) (b:=b)
   case ho=>simp only[Xh,Xf,Xg];rfl
   case hg=>rfl
   case hop=>rfl
   case hx=>rfl
   case hy=>rfl
   case hm=>exact O.out
   case hr=>exact S.out
   case ha=>go_simp;rfl
   refine ZK ?_
   simp only[Xu]
   cases b with
   |true=>
    go_wp2_with fail
    go_ret
    refine⟨?_,(d.trans a).drewN 1⟩
    rw[M.out,ZcN (p:=fun x=>k==x) (by rw[←i.out];exact J) K L.symm g.out];rfl
   |false=>
    go_wp2_with fail
    exact⟨⟨kk+1,by omega,by go_num,D (fun j y N hy=>by
     by_cases e:j=kk
     ·subst e;rw[K.out]at hy;cases hy;exact L.symm
     ·exact g j y (by omega) hy),D (a.drewN 1)⟩,by simp[intOf];omega⟩
  ·obtain rfl:kk=n:=by omega
   go_wp2_with fail
   go_ret
   refine⟨?_,d.trans a⟩
   have hm:=g.out
   rw[i.out]at hm
   rw[M.out,Zb4 hm];rfl
def Zh4 {l:List Zp} (h:Zk 268 6 v (l.map Zn) w F) (hl:l.length≤4000000) (k:Zp):
  Calls Tryz.prog 236 #[v, .agg (Zn k).toArray] w fun e w'=>e= .returned (.bool (l.contains k))∧Zg [] w w':=by
 obtain⟨q,i,b,d⟩:=Kc w (.cells (Zn k).toArray 268)
 have c:=Zk0 ((Zc _ _ _ _).upd h b) hl k
 have a:decide (0≤Y5 (fun x=>k==x) l)=l.contains k:=(Zc4 _ _).trans (by rw[List.contains_eq_any_beq])
 obtain⟨r,j⟩:=Je (Y5 (fun x=>k==x) l)
 rw[←j]at c a
 rw[←a]
 have p:=D c
 have m:=D (show Zb q w.heap.size 0 (Zn k)from Zb.of_block d)
 have n:=D (show Zu Tryz.prog 268 6=true by kernel_rfl)
 clear c j a h d;change Hid _ at b i
 go_in
 go_upto_region 1 with fail
 rw[←i.out]
 go_wp2_with(refine Jl m n ?_)
 refine p.out.mono ?_
 rintro e s ⟨rfl,g⟩
 have o:=Jt b g;clear g
 go_wp2_with fail
 go_ret
 exact⟨rfl,o.out⟩
def ZgF (box:Nat) (l:List Zp):YD:=Y2 box (fun v=> #[v]) 185 268 6 (l.map Zn)
def ZfV (box:Nat) (l:List Zp):(ZgF box l).Local:=Zaf _ _ _ _ _ _
def ZnR {box:Nat} (h:ZgF box l w F) (hl:l.length≤3000000) (e:Zp):
  Calls Tryz.prog 235 #[.agg (Zn e).toArray, .pointer (some ⟨box,0,none⟩)] w fun e' w'=>e'= .returned (.tuple #[])∧∃F',ZgF box (ZhE l e) w' F'∧Zi w w' F F':=by
 obtain⟨w1,N,p,M⟩:=Kc w (.cells (Zn e).toArray 268)
 have h1:=(ZfV _ _).upd h p
 have L:box<w.heap.size:=(ZfV _ _).lt h box (by obtain⟨v,G,rfl,_⟩:=h;simp)
 obtain⟨v,G,rfl,V,d,a⟩:=h1
 have E:w1.cell? ⟨box,0,none⟩=some v:=Zf (i:=0) d rfl
 have q:=Zh4 a (by omega) e
 obtain⟨b,J⟩:=Je (l.contains e)
 rw[←J]at q
 obtain⟨R,K⟩:=Je (ZhE l e)
 have HR:=D (show R=if b then l else l++[e]by rw[K,J];rfl)
 rw[←K]
 obtain⟨A,c,rfl,_,_⟩:=a.lies
 rw[Xb]at d a E q
 obtain⟨n,I⟩:=Je l.length
 have HN:=D I
 rw[←I]at d a E q hl
 clear I
 have Q:=D q
 have S:=D (show Zb w1 w.heap.size 0 (Zn e)from Zb.of_block M)
 have Y:=D (show Zu Tryz.prog 268 6=true by kernel_rfl)
 have m:=D V;have ac:=D d;have af:=D a;have ae:=D L
 clear q J K M V d a L h;change Hid _ at p N
 go_in
 go_upto_region 1 with fail
 rw[←N.out]
 go_wp2_with(refine Jl S Y ?_)
 refine Q.out.mono ?_
 rintro e' H ⟨rfl,g⟩
 have W:=Jt p g
 have C:=D ((Kv g ac))
 have P:=D ((Zc _ _ _ _).upd af g)
 have ai:=D (S.upd g)
 clear g E Q
 cases b with
 |true=>
  have r:=D (show R=l by rw[HR.out];rfl)
  go_wp2_with fail
  (try simp only[Exit.inBlock,Exit.then])
  first|refine bodyPost_ret (results_none rfl _ _ _) rfl ?_|refine bodyPost_end (results_none rfl _ _ _) rfl ?_
  rw[r.out]
  exact⟨rfl,_,⟨_,G,rfl,m.out,C.out,P.out⟩,W.weaken (by simp),fun k hk=> .inl hk⟩
 |false=>
  have r:=D (show R=l++[e]by rw[HR.out];rfl)
  have c2:=Jc 0 C.out
  have ah:=D (show(Zn e).toArray= #[.string ⟨e.cell.origin.toArray⟩, .string ⟨e.cell.url.toArray⟩, .bool e.cell.creds, .string ⟨e.method.toArray⟩, .string ⟨e.header.toArray⟩, .int .u64 (e.until_:Int)]from rfl)
  obtain⟨w3,s,j⟩:=Kb H (.cells #[.string ⟨e.cell.origin.toArray⟩, .string ⟨e.cell.url.toArray⟩, .bool e.cell.creds, .string ⟨e.method.toArray⟩, .string ⟨e.header.toArray⟩, .int .u64 (e.until_:Int)] 268)
  have ak:=D (show Zb w3 H.heap.size 0 (Zn e)by rw[s];exact Zb.of_block (Za _))
  have aa:=D ((Kv j C))
  have ag:=D ((Zc _ _ _ _).upd P j)
  have Z:=Jt W j;have ad:=D s
  have s3:=j.size
  clear j s
  go_upto_region 3 with(first|(refine Jl ai Y ?_;rw[ah.out])|(rw[←ad.out];refine Zm w3 rfl (.tmp 7) (.tmp 9) 185 rfl 268 Tryz.underlying185 ZeP rfl (by omega) (by omega) (.slice A n c) (l.map Zn) G rfl ag H.heap.size 1 (Zn e) rfl ak rfl (Zbs _) (by rw[Xb,←HN.out];omega) ?_;intro v' w9 G' o z X;obtain⟨A',c',e9,_⟩:=o.form';rw[Xd,Xb,List.length_singleton,←HN.out]at e9;subst e9;have al:=D o;have O:=D X;have aj:=D z;have y:=D ((Kv z aa m));have c9:=Jc 0 y.out;have f9:=Kf 0 y.out;clear o z X))
  obtain⟨g1,g2⟩:=ZbN (G:=G) (cs:=fun v=> #[v]) (T:= 185) m ae (Zd (i:=0) y (.slice A' (n+1) c')) ((Zc _ _ _ _).upd al ((Zg.refl [box] w9).setCell (.inr (by simp)) _) (fun x hx hm=>by
    rw[Jm hm]at hx
    rcases O box hx with h|h
    ·exact m h
    ·have h2:=(Jg aa);omega))
   (((Z.weaken (G:=box::G) (by simp)).trans (aj.weaken (G:=box::G) (fun x hx=> .inr (by simp[hx]))) (fun x hx=> .inr hx)).setCell (.inr (by simp)) _) (fun x hx=>by
    rcases O x hx with h|h
    ·exact .inl h
    ·right;have h2:=Z.size;omega)
  have ab:=D g1;have am:=D g2
  clear g1 g2
  go_wp2_with fail
  (try simp only[Exit.inBlock,Exit.then])
  first|refine bodyPost_ret (results_none rfl _ _ _) rfl ?_|refine bodyPost_end (results_none rfl _ _ _) rfl ?_
  rw[r.out]
  refine⟨rfl,box::G',?_,am.out⟩
  unfold ZgF
  rw[Xs]
  exact ab.out
end Go.Proofs.YtlhapbopmplngaaGreatDoor
