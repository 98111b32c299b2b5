import Derived.Test.YtlhapbopmplngaaGreatDoorS36
set_option linter.all false
set_option maxHeartbeats 16000000
set_option maxRecDepth 100000
set_option autoImplicit true
set_option relaxedAutoImplicit true
namespace Go.Lk
structure Zq (s t:Ze):Prop where
 acts:t.acts=s.acts
 conf:t.conf=s.conf
 now:t.now=s.now
 log:s.log<+:t.log
def Zq.refl (s:Ze):Zq s s:=⟨rfl,rfl,rfl,List.prefix_refl _⟩
def Zq.trans (h:Zq s t) (k:Zq t u):Zq s u:=⟨k.acts.trans h.acts,k.conf.trans h.conf,k.now.trans h.now,h.log.trans k.log⟩
def Zq.of {s t:Ze} (h1:t.acts=s.acts) (h2:t.conf=s.conf) (h3:t.now=s.now) (h4:t.log=s.log):Zq s t:=⟨h1,h2,h3,h4▸List.prefix_refl _⟩
def Zq.tell (s:Ze) (a b c d e:Int):Zq s (ZI s a b c d e):=⟨rfl,rfl,rfl,List.prefix_append _ _⟩
theorem Zq.setF (s:Ze) (i:Int) (g:ZC→ZC):Zq s (setF s i g):= .of rfl rfl rfl rfl
def Zq.foldl {α:Type} {f:Ze→α→Ze} (hf:∀s x,Zq s (f s x)):∀(l:List α) (s:Ze),Zq s (l.foldl f s)
 |[],s=>Zq.refl s
 |x::l,s=>(hf s x).trans (Zq.foldl hf l (f s x))
def Zq.foldl2 {α β:Type} {f:Ze×β→α→Ze×β} (hf:∀s x,Zq s.1 (f s x).1):∀(l:List α) (s:Ze×β),Zq s.1 (l.foldl f s).1
 |[],s=>Zq.refl s.1
 |x::l,s=>(hf s x).trans (Zq.foldl2 hf l (f s x))
def Zq.open (s:Ze) (i:Int):Zq s (openS s i):=by
 unfold openS
 dsimp only
 split
 ·exact .of rfl rfl rfl rfl
 ·split
  ·exact .of rfl rfl rfl rfl
  ·exact .of rfl rfl rfl rfl
def Zq.forget (s:Ze) (p:ZG) (k:Bool):Zq s (forgetS s p k):=by
 unfold forgetS
 dsimp only
 split<;>exact .of rfl rfl rfl rfl
def Zq.leave (s:Ze) (i:Int):Zq s (leaveS s i):=by
 unfold leaveS
 dsimp only
 split
 ·exact Zq.setF _ _ _
 split
 ·exact Zq.setF _ _ _
 split
 ·exact .of rfl rfl rfl rfl
 split
 ·exact .of rfl rfl rfl rfl
 ·refine Zq.trans ?_ (Zq.forget _ _ _)
  exact⟨rfl,rfl,rfl,List.prefix_append _ _⟩
def Zq.over (s:Ze) (i st:Int):Zq s (overS s i st):=by
 unfold overS
 dsimp only
 split
 ·exact Zq.refl s
 split
 ·exact Zq.refl s
 split
 ·exact⟨rfl,rfl,rfl,List.prefix_append _ _⟩
 split
 ·exact⟨rfl,rfl,rfl,List.prefix_append _ _⟩
 split
 ·refine Zq.trans ?_ (Zq.leave _ _)
  exact⟨rfl,rfl,rfl,List.prefix_append _ _⟩
 ·exact⟨rfl,rfl,rfl,List.prefix_append _ _⟩
def Zq.submit (s:Ze) (r:Ya):Zq s (submitS s r).1:=by
 unfold submitS
 split
 ·exact Zq.refl s
 split
 ·exact Zq.refl s
 split
 ·exact Zq.refl s
 dsimp only
 split
 ·exact Zq.refl s
 split
 ·exact Zq.refl s
 have b:∀x y,Zq s {s with book:=x,all:=y}:=fun _ _=> .of rfl rfl rfl rfl
 have a:∀(t:Ze) x,Zq t {t with groups:=x}:=fun _ _=> .of rfl rfl rfl rfl
 dsimp only
 split
 ·exact(((b _ _).trans (Zq.tell _ _ _ _ _ _)).trans (a _ _)).trans (Zq.open _ _)
 ·exact((b _ _).trans (Zq.tell _ _ _ _ _ _)).trans (a _ _)
def Zq.activate (s:Ze) (i:Int):Zq s (activateS s i).1:=by
 unfold activateS
 split
 ·exact Zq.refl s
 split
 ·exact Zq.refl s
 ·exact(Zq.tell _ _ _ _ _ _).trans (Zq.open _ _)
def Zq.load (s:Ze) (g:Int):Zq s (loadS s g).1:=by
 unfold loadS
 split
 ·exact Zq.refl s
 ·refine Zq.foldl2 (fun a x=> ?_) _ (s,(0:Int))
  split
  ·split
   ·exact Zq.activate _ _
   ·exact Zq.refl _
  ·exact Zq.refl _
def Zq.late:∀(f:Nat) (s:Ze) (n:Int),Zq s (lateS f s n).1
 |0,s,n=>Zq.refl s
 |f+1,s,n=>by
  unfold lateS
  split
  ·exact Zq.refl s
  split
  ·exact Zq.refl s
  ·refine Zq.trans ?_ (Zq.late f _ _)
   refine Zq.trans ?_ (Zq.over _ _ _)
   exact .of rfl rfl rfl rfl
def Zot (s:Ze) (n:Nat):Zq {s with now:=addT s.now n} (tickS s n).1:=by
 unfold tickS
 dsimp only
 have h:=Zq.late s.timers.length {s with now:=addT s.now n} 0
 exact⟨h.acts,h.conf,h.now,h.log⟩
def Zq.hold (s:Ze) (f:ZC) (i:ZL):Zq s (holdS s f i):=by
 have a:Zq s (Zag s (ZbT f.req) f.id).1:=by
  unfold Zag
  split
  ·exact Zq.refl s
  split
  ·split
   ·exact .of rfl rfl rfl rfl
   ·exact Zq.refl s
  ·exact .of rfl rfl rfl rfl
 unfold holdS
 dsimp only
 split
 ·exact⟨a.acts,a.conf,a.now,a.log.trans (List.prefix_append _ _)⟩
 ·exact⟨a.acts,a.conf,a.now,a.log.trans (List.prefix_append _ _)⟩
def Zq.depart (s:Ze) (i:ZL):Zq s (departS s i):=by
 unfold departS
 dsimp only
 split
 ·exact⟨rfl,rfl,rfl,List.prefix_append _ _⟩
 ·exact⟨rfl,rfl,rfl,List.prefix_append _ _⟩
theorem Zq.stepF:∀(g:Nat) (s:Ze) (sh:List Bs) (n:Int),Zq s (stepF g s sh n).1
 |0,s,sh,n=>Zq.refl s
 |g+1,s,sh,n=>by
  unfold Lk.stepF
  split
  ·exact Zq.refl s
  split
  ·exact Zq.stepF g _ _ _
  dsimp only
  have h1:∀x,Zq s {s with queue:=x}:=fun _=> .of rfl rfl rfl rfl
  split
  ·exact Zq.trans (Zq.trans (h1 _) (Zq.depart _ _)) (Zq.stepF g _ _ _)
  split
  ·exact Zq.trans (Zq.trans (h1 _) (Zq.hold _ _ _)) (Zq.stepF g _ _ _)
  ·exact Zq.trans (Zq.trans (h1 _) (Zq.depart _ _)) (Zq.stepF g _ _ _)
def Zq.failed (s:Ze) (p:ZG) (st n:Int):Zq s (failedS s p st n):=by
 unfold failedS
 dsimp only
 refine Zq.trans ?_ (Zq.foldl (fun a x=>Zq.over _ _ _) _ _)
 have b:=fun x=>(Zq.tell s 7 x p.num p.conn n).trans (Zq.forget _ p (st==8))
 exact⟨(b _).acts,(b _).conf,(b _).now,(b _).log⟩
def Zq.judge (s:Ze) (p:ZG) (st:Int) (hs:List (Bs×Bs)):Zq s (judgeS s p st hs):=by
 unfold judgeS
 dsimp only
 split
 ·exact Zq.refl s
 split
 ·exact Zq.failed _ _ _ _
 have c:∀x,Zq s {s with cache:=x}:=fun _=> .of rfl rfl rfl rfl
 have b:∀(t:Ze) x,Zq t {t with shares:=x}:=fun _ _=> .of rfl rfl rfl rfl
 refine((((c _).trans (Zq.tell _ _ _ _ _ _)).trans (Zq.forget _ _ _)).trans (b _ _)).trans (Zq.foldl (fun a x=> ?_) _ _)
 split
 ·exact((Zq.setF _ _ _).trans (Zq.tell _ _ _ _ _ _)).trans (.of rfl rfl rfl rfl)
 ·exact(Zq.setF _ _ _).trans (Zq.tell _ _ _ _ _ _)
def Zq.answer (s:Ze) (c st:Int) (hs:List (Bs×Bs)):Zq s (answerS s c st hs).1:=by
 unfold answerS
 dsimp only
 split
 ·exact Zq.refl s
 split
 ·exact Zq.refl s
 split
 ·exact Zq.refl s
 split
 ·exact Zq.refl s
 split
 ·exact Zq.judge _ _ _ _
 ·split
  ·exact Zq.over _ _ _
  ·exact(Zq.tell _ _ _ _ _ _).trans (Zq.setF _ _ _)
 ·exact Zq.refl s
def Zq.tail (s:Ze) (c:Int):Zq s (tailS s c).1:=by
 unfold tailS
 split
 ·exact Zq.refl s
 split
 ·exact Zq.refl s
 dsimp only
 split
 ·exact Zq.refl s
 dsimp only
 split
 ·exact((Zq.setF _ _ _).trans (Zq.tell _ _ _ _ _ _)).trans (Zq.over _ _ _)
 ·exact(Zq.setF _ _ _).trans (Zq.tell _ _ _ _ _ _)
def Zqj (s:Ze) (a:ZaY) (h8:a.op=8):(doS s a).1=(tickS {s with acts:=s.acts+1} a.time.toNat).1:=by
 unfold doS
 rw[if_neg (by omega),if_neg (by omega),if_neg (by omega),if_neg (by omega),if_neg (by omega),if_neg (by omega),if_neg (by omega),if_pos h8]
end Go.Lk
namespace Go.Proofs.YtlhapbopmplngaaGreatDoor
open Go.RowKit Go.Lk
def ZoS (w:World):
  Calls Tryz.prog 96 #[.int .i64 32] w fun e w'=>e= .returned (.pointer (some ⟨w.heap.size,0,none⟩))∧w'.heap[w.heap.size]? =some (.cells #[.slice none 0 0, .int .i64 32] 284 (0,0))∧Zg [] w w':=by
 obtain⟨d,a,b,c⟩:=Kc w (.cells #[.slice none 0 0, .int .i64 (max 1 32)] 284)
 change Hid _ at c b a
 go_in
 go_wp2_with fail
 go_ret
 rw[←a.out]
 exact⟨rfl,c.out,b.out⟩
def ZqE (total:Int) (idle:Nat) (t:Int) (ht:t=max 1 (min total 32)) (w:World):
  Calls Tryz.prog 41 #[.int .i64 total, .int .u64 idle] w fun e w'=>∃p hb:Nat,e= .returned (.pointer (some ⟨p,0,none⟩))∧w'.heap[p]? =some (.cells #[.slice none 0 0, .slice none 0 0, .int .i64 t, .int .u64 idle, .pointer (some ⟨hb,0,none⟩), .int .i64 0] 175 (0,0))∧
   w'.heap[hb]? =some (.cells #[.slice none 0 0, .int .i64 32] 284 (0,0))∧p≠hb∧Zg [] w w'∧w.heap.size≤p∧w.heap.size≤hb:=by
 subst ht
 go_in
 go_wp2_with fail
 refine(ZoS w).mono ?_
 rintro e k ⟨rfl,hb,g⟩
 obtain⟨a,d⟩:=Je w.heap.size
 rw[←d]at hb⊢
 obtain⟨q,i,b,j⟩:=Kc k (.cells #[.slice none 0 0, .slice none 0 0, .int .i64 (max 1 (min total 32)), .int .u64 idle, .pointer (some ⟨a,0,none⟩), .int .i64 0] 175)
 have c:=(Jg hb)
 have h:=(b.block a c (by simp)).trans hb
 have o:=D h;have m:=D (g.trans b);have l:=D c;have n:=D g.size
 clear hb h g b c;change Hid _ at j i d
 go_wp2_with fail
 go_ret
 rw[←i.out]
 exact⟨k.heap.size,a,rfl,j.out,o.out,by have:=l.out;omega,m.out,by have:=n.out;omega,by rw[d.out];exact Xi _⟩
def ZnY (n m:Int) (hm:m=max 1 (min n 64)) (w:World):
  Calls Tryz.prog 43 #[.int .i64 n] w fun e w'=>e= .returned (.pointer (some ⟨w.heap.size,0,none⟩))∧w'.heap[w.heap.size]? =some (.cells #[.slice none 0 0, .int .i64 m] 187 (0,0))∧Zg [] w w':=by
 subst hm
 obtain⟨d,a,b,c⟩:=Kc w (.cells #[.slice none 0 0, .int .i64 (max 1 (min n 64))] 187)
 change Hid _ at c b a
 go_in
 go_wp2_with fail
 go_ret
 rw[←a.out]
 exact⟨rfl,c.out,b.out⟩
def Zoe (w:World):
  Calls Tryz.prog 44 #[.int .i64 256] w fun e w'=>e= .returned (.pointer (some ⟨w.heap.size,0,none⟩))∧w'.heap[w.heap.size]? =some (.cells #[.slice none 0 0, .int .i64 256, .int .i64 0] 190 (0,0))∧Zg [] w w':=by
 obtain⟨d,a,b,c⟩:=Kc w (.cells #[.slice none 0 0, .int .i64 (max 1 256), .int .i64 0] 190)
 change Hid _ at c b a
 go_in
 go_wp2_with fail
 go_ret
 rw[←a.out]
 exact⟨rfl,c.out,b.out⟩
def ZfK (A:Nat→YD) (w:World) (e:Ending) (w':World):Prop:=∃p G,e= .returned (.pointer (some ⟨p,0,none⟩))∧A p w' G∧Zg [] w w'∧∀k∈G,w.heap.size≤k
def Ze8 {b:Nat} {w':World} (cs:Value→Array Value) (T e:TypeId) (k:Nat) (h:w'.heap[b]? =some (.cells (cs (.slice none 0 0)) T (0,0))):Y2 b cs T e k [] w' [b]:=
 ⟨_,[],rfl,by simp,h,ZA _ _ _⟩
def ZiI {α:Type} {b:Nat} {w':World} (cs:Value→Array Value) (T e:TypeId) (k:Nat) (enc:Value→α→List Value) (mem:α→List Int) (h:w'.heap[b]? =some (.cells (cs (.slice none 0 0)) T (0,0))):Zil b cs T e k enc mem [] w' [b]:=by
 refine⟨[],rfl,[[b]],rfl,?_⟩
 have f:Lays ([]++[Y2 b cs T e k []]) w' ([]++[[b]]):=
  ⟨rfl,fun i A F a c=>by
   rcases i with _|i
   ·simp at a c;subst a;subst c;exact Ze8 cs T e k h
   ·simp at a,fun i j F G a c d=>by
   rcases i with _|i<;>rcases j with _|j
   ·exact absurd rfl d
   ·simp at c
   ·simp at a
   ·simp at a⟩
 exact f
def ZlQ (w:World):Calls Tryz.prog 40 #[.int .u64 0] w (ZfK (fun p=>Zc2 p 0) w):=by
 refine(Zqh 0 (by omega) w).mono ?_
 rintro e b ⟨rfl,h,a⟩
 exact⟨w.heap.size,[w.heap.size],rfl,⟨rfl,h⟩,a,by simp⟩
def ZmA (total:Int) (idle:Nat) (hi:idle≤18446744073709551615) (w:World):Calls Tryz.prog 41 #[.int .i64 total, .int .u64 idle] w (ZfK (fun p=>YO p (ZhK total idle)) w):=by
 refine(ZqE total idle _ rfl w).mono ?_
 rintro e m ⟨p,b,rfl,l,d,c,i,g,j⟩
 refine⟨p,[p,b],rfl,⟨.slice none 0 0, .slice none 0 0,b,[],[],[b],rfl,l,ZA _ _ _,ZA _ _ _,Ze8 _ _ _ _ d,(fun h=>by cases h),(fun h=>by cases h),(by simpa using c),(fun k a=>by cases a),(fun k a=>by cases a),(fun k a=>by cases a),?_⟩,i,by simp[g,j]⟩
 exact⟨by unfold ZhK;dsimp only;omega,by unfold ZhK;dsimp only[List.length_nil];omega,by simp[ZhK],by simp[ZhK],by simp[ZhK],hi⟩
def ZkM (a:Nat) (w:World):Calls Tryz.prog 42 #[.int .u64 a] w (ZfK (fun p=>YB p a []) w):=by
 refine(Zoh a w).mono ?_
 rintro e c ⟨rfl,h,b⟩
 exact⟨w.heap.size,[w.heap.size],rfl,Ze8 _ _ _ _ h,b,by simp⟩
def ZlJ (n:Int) (w:World):Calls Tryz.prog 43 #[.int .i64 n] w (ZfK (fun p=>Yf p (max 1 (min n 64)) []) w):=by
 refine(ZnY n _ rfl w).mono ?_
 rintro e b ⟨rfl,h,a⟩
 exact⟨w.heap.size,[w.heap.size],rfl,Ze8 _ _ _ _ h,a,by simp⟩
def Zlx (w:World):Calls Tryz.prog 44 #[.int .i64 256] w (ZfK (fun p=>Yr p 256 0 []) w):=by
 refine(Zoe w).mono ?_
 rintro e b ⟨rfl,h,a⟩
 exact⟨w.heap.size,[w.heap.size],rfl,⟨[],⟨.refl _,fun j c x y h=>by simp at h,by simp,by simp⟩,Ze8 _ _ _ _ h⟩,a,by simp⟩
def ZkT (w:World):Calls Tryz.prog 45 #[] w (ZfK (fun p=>ZcV p []) w):=by
 refine(ZoD w).mono ?_
 rintro e b ⟨rfl,h,a⟩
 exact⟨w.heap.size,[w.heap.size],rfl,ZiI _ _ _ _ _ _ h,a,by simp⟩
def Zkl (w:World):Calls Tryz.prog 46 #[] w (ZfK (fun p=>Zd7 p []) w):=by
 refine(Zmy w).mono ?_
 rintro e b ⟨rfl,h,a⟩
 exact⟨w.heap.size,[w.heap.size],rfl,ZiI _ _ _ _ _ _ h,a,by simp⟩
def Zlr (w:World):Calls Tryz.prog 47 #[] w (ZfK (fun p=>Zcd p 0 []) w):=by
 refine(Zpl w).mono ?_
 rintro e b ⟨rfl,h,a⟩
 exact⟨w.heap.size,[w.heap.size],rfl,ZiI _ _ _ _ _ _ h,a,by simp⟩
def Zms (w:World):Calls Tryz.prog 48 #[] w (ZfK (fun p=>YR p []) w):=by
 refine(ZpE w).mono ?_
 rintro e b ⟨rfl,h,a⟩
 exact⟨w.heap.size,[w.heap.size],rfl,Ze8 _ _ _ _ h,a,by simp⟩
end Go.Proofs.YtlhapbopmplngaaGreatDoor
