import Derived.Test.YtbgbeddbfaopgaaGreatDoorZ5
set_option linter.all false
set_option maxHeartbeats 16000000
set_option maxRecDepth 100000
set_option autoImplicit true
set_option relaxedAutoImplicit true
namespace Go.Lk
theorem Zin {α:Type} {k:α→Int} {l:List α} (h:(l.map k).Nodup) {i:Nat} {x:α} (hi:l[i]? =some x):Zaa l i=l.filter (fun y=>k y !=k x):=by
 rw[Ya]
 induction l generalizing i with
 |nil=>simp at hi
 |cons a l ih=>
  simp only[List.map_cons,List.nodup_cons,List.mem_map,not_exists,not_and]at h
  match i,hi with
  |0,hi=>
   simp only[Xg,Option.some.injEq]at hi;subst hi
   rw[List.filter_cons,if_neg (by simp),List.eraseIdx_cons_zero,List.filter_eq_self.2]
   intro x hx
   simpa using h.1 x hx
  |i+1,hi=>
   simp only[Xf]at hi
   have hx:=Xc hi
   rw[List.eraseIdx_cons_succ,List.filter_cons,if_pos (by have:=h.1 x hx;simpa using fun e=>this e.symm),ih h.2 hi]
theorem Za6 {id:Int} (h:Zac s id=some f):1≤id∧id≤s.all.length∧s.all[(id-1).toNat]? =some f:=by
 unfold Zac at h
 split at h
 ·cases h
 ·rename_i a
  refine⟨by omega,by omega,h⟩
theorem ZgU {s:Zf} (hi:Ids s.all) {id:Int} (h:Zac s id=some f):f.id=id:=by
 obtain⟨b,c,a⟩:=Za6 h
 have:=hi _ f a
 omega
theorem Ids.modify {l:List ZE} (h:Ids l) (i:Nat) {g:ZE→ZE} (hg:∀f,(g f).id=f.id):Ids (l.modify i g):=fun j f hj=>by
 rw[List.getElem?_modify]at hj
 cases hl:l[j]? with
 |none=>rw[hl]at hj;simp at hj
 |some x=>
  rw[hl]at hj
  simp only[Option.map_eq_map,Option.map_some,Option.some.injEq]at hj
  rw[←hj]
  split
  ·rw[hg];exact h j x hl
  ·exact h j x hl
theorem Safe.setF (h:Safe s) (id:Int) {g:ZE→ZE} (hg:∀f,(g f).id=f.id):Safe (Lk.setF s id g):=by
 refine⟨h.1.modify _ hg,?_⟩
 show ZaE (s.all.modify _ g).length _ _ _ _ _ _
 rw[List.length_modify];exact h.2
theorem Safe.setF' {id:Int} {g:ZE→ZE} (h:Safe s) (hg:∀f,(g f).id=f.id):Safe (Lk.setF s id g):=h.setF id hg
theorem Safe.tell' (h:Safe s):Safe (ZR s a b c d e):=h
theorem Safe.pool' {p:ZaX} (h:Safe s):Safe {s with pool:=p}:=h
theorem Safe.tell (h:Safe s) (a b c d e:Int):Safe (ZR s a b c d e):=h
theorem Safe.putItem (h:Safe s) {id:Int} (hf:Zac s id=some f):Safe {s with queue:=putQ s.queue (Zbo f)}:=by
 refine⟨h.1,h.2.putQ ?_ ?_⟩
 ·have:=ZgU h.1 hf;have:=Za6 hf;simp only[Zbo];omega
 ·simp[Zbo]
theorem Safe.openS (h:Safe s) (id:Int):Safe (Lk.openS s id):=by
 unfold Lk.openS
 have a:=h.setF id (g:=fun f=>{f with state:=goL f.state 2,since:=s.now}) (fun f=>rfl)
 generalize Lk.setF s id (fun f=>{f with state:=goL f.state 2,since:=s.now})=s1 at a⊢
 dsimp only
 split
 ·exact a
 rename_i f c
 have b:=a.putItem c
 have hv:=Za6 c
 split
 ·exact Safe.setF' b (fun f=>rfl)
 ·refine Safe.setF' ⟨b.1,b.2.timers (fun t ht=> ?_)⟩ (fun f=>rfl)
  rcases List.mem_append.1 ht with ht|ht
  ·exact .inl ht
  ·rw[Jm ht];exact .inr ⟨hv.1,hv.2.1⟩
theorem Safe.dropP (h:Safe s) {p:ZM} (hp:p∈s.pres) (keep:Bool):Safe {forgetS s p keep with shares:=dropO s.shares p.num}:=by
 have a:=h.2.dropP hp
 rw[←Zkz h.2.sn]at a
 unfold forgetS
 by_cases b:0<p.conn
 ·simp only[if_pos b]at a⊢
  exact⟨h.1,a⟩
 ·simp only[if_neg b]at a⊢
  exact⟨h.1,a⟩
theorem ZqW {l:List ZM} {c:Int} {p:ZM} (h:l.find? (fun p=>p.num==c)=some p):p∈l∧p.num=c:=
 ⟨List.mem_of_find?_eq_some h,by simpa using List.find?_some h⟩
theorem ZiW (s:Zf) (p:ZM) (keep:Bool) (sh:List ZH):forgetS {s with shares:=sh} p keep={forgetS s p keep with shares:=sh}:=by
 unfold forgetS;dsimp only;split<;>rfl
theorem Safe.leaveS (h:Safe s) (id:Int):Safe (Lk.leaveS s id):=by
 unfold Lk.leaveS
 have a:=h.setF id (g:=fun f=>{f with pre:=0}) (fun f=>rfl)
 generalize Lk.setF s id (fun f=>{f with pre:=0})=s1 at a⊢
 dsimp only
 split
 ·exact a
 split
 ·exact a
 rename_i i q _ o ho
 have c:=Xc ho
 split
 ·rename_i j
  refine⟨a.1,a.2.setO ho rfl ?_ (fun x hx=>(a.2.mem o c).2 x (List.mem_filter.1 hx).1)⟩
  intro e;dsimp only at e;rw[e]at j;simp at j
 ·have hd:Zaa s1.shares i=dropO s1.shares o.num:=by rw[Zkz a.2.sn];exact Zin (k:=fun o:ZH=>o.num) a.2.sn ho
  split
  ·rename_i d
   obtain⟨p,b,e⟩:=a.2.fl o c
   rw[List.find?_eq_none]at d
   exact absurd (by simpa using e) (d p b)
  ·rename_i p b
   obtain⟨l,m⟩:=ZqW b
   have:=(a.tell 7 id o.num p.conn 13).dropP l false
   rw[←m]at hd
   rw[hd]
   have n:=ZiW (ZR s1 7 id o.num p.conn 13) p false (dropO s1.shares p.num)
   exact n▸this
theorem Zik {gs:List Z5} {id:Int} {g:Z5} (h:g∈Za2 gs id):∃g'∈gs,∀x∈g.members,x∈g'.members:=by
 unfold Za2 at h
 split at h
 ·split at h
  ·rename_i g' a
   rcases ZfS h with b|rfl
   ·exact⟨g,b,fun x hx=>hx⟩
   ·exact⟨g',Xc a,fun x hx=>List.mem_of_mem_erase hx⟩
  ·exact⟨g,h,fun x hx=>hx⟩
 ·exact⟨g,h,fun x hx=>hx⟩
theorem Safe.overS (h:Safe s) (id state:Int):Safe (Lk.overS s id state):=by
 unfold Lk.overS
 split
 ·exact h
 rename_i f i
 split
 ·exact h
 have b:=h.setF id (g:=fun f=>{f with ended:=true,state:=goL f.state state}) (fun f=>rfl)
 generalize Lk.setF s id (fun f=>{f with ended:=true,state:=goL f.state state})=s1 at b⊢
 have a:Safe {ZR s1 (state-6+14) id 0 f.conn 0 with timers:=s1.timers.filter (fun t=>t.id !=f.timer),groups:=Za2 s1.groups id,book:=Zhb s1.book id}:=
  ⟨b.1,(b.2.timers (fun t ht=> .inl (List.mem_filter.1 ht).1)).groups (fun g hg x hx=>by
   obtain⟨d,c,e⟩:=Zik hg
   exact b.2.grp d c x (e x hx))⟩
 dsimp only
 split
 ·exact⟨a.1,a.2.dropQ id⟩
 split
 ·exact Safe.setF' (Safe.pool' a) (fun f=>rfl)
 split
 ·exact a.leaveS id
 ·exact a
theorem ZfK {β:Type} {g:Zf→β→Zf} (hg:∀s x,Safe s→Safe (g s x)) (l:List β) (h:Safe s):Safe (l.foldl g s):=by
 induction l generalizing s with
 |nil=>exact h
 |cons x l ih=>exact ih (hg s x h)
theorem Zg8 {β:Type} {g:Zf×Int→β→Zf×Int} (hg:∀s x,Safe s.1→Safe (g s x).1) (l:List β) {s:Zf×Int} (h:Safe s.1):Safe (l.foldl g s).1:=by
 induction l generalizing s with
 |nil=>exact h
 |cons x l ih=>exact ih (hg s x h)
theorem ZkV {c:Bool} (ha:Safe a) (hb:Safe b):Safe (if c then a else b):=by split<;>assumption
theorem Safe.activateS (h:Safe s) (id:Int):Safe (Lk.activateS s id).1:=by
 unfold Lk.activateS
 split
 ·exact h
 split
 ·exact h
 ·exact(h.tell 2 id 0 0 0).openS id
theorem Safe.loadS (h:Safe s) (g:Int):Safe (Lk.loadS s g).1:=by
 unfold Lk.loadS
 split
 ·exact h
 dsimp only
 refine Zg8 (fun a x ha=> ?_) _ h
 split
 ·split
  ·exact ha.activateS x
  ·exact ha
 ·exact ha
theorem Safe.abortS (h:Safe s) (id:Int):Safe (Lk.abortS s id).1:=by
 unfold Lk.abortS
 split
 ·exact h
 split
 ·exact h
 dsimp only
 refine Zg8 (fun a x ha=> ?_) _ h
 split
 ·split
  ·exact ha.overS x 9
  ·exact ha
 ·exact ha
theorem Safe.tearS (h:Safe s) (g:Int):Safe (Lk.tearS s g).1:=by
 unfold Lk.tearS
 split
 ·exact h
 split
 ·exact h
 split
 ·exact h
 dsimp only
 refine ZfK (fun a x ha=>ha.overS x 9) _ ⟨h.1,h.2.groups (fun c b x hx=> ?_)⟩
 rcases ZfS b with d|rfl
 ·exact h.2.grp c d x hx
 ·cases hx
theorem Safe.lateS (k:Nat):∀{s:Zf} (h:Safe s) (n:Int),Safe (Lk.lateS k s n).1:=by
 induction k with
 |zero=>intro s h n;exact h
 |succ k ih=>
  intro s h n
  unfold Lk.lateS
  split
  ·exact h
  split
  ·exact h
  ·rename_i t ht _
   exact ih (Safe.overS (s:={s with timers:=s.timers.filter fun x=>x.id !=t.id}) ⟨h.1,h.2.timers (fun x hx=> .inl (List.mem_filter.1 hx).1)⟩ t.tag 10) _
theorem Safe.tickS (h:Safe s) (n:Nat):Safe (Lk.tickS s n).1:=by
 unfold Lk.tickS
 exact Safe.pool' (Safe.lateS (s:={s with now:=addT s.now n}) _ h 0)
theorem Safe.holdS (h:Safe s) (f:ZE) (i:ZQ) (hv:1≤f.id∧f.id≤s.all.length) (hi:i.id=f.id):Safe (Lk.holdS s f i):=by
 unfold Lk.holdS Zat
 by_cases a:f.id<1∨(s.shares.any (fun o=>o.members.contains f.id))=true∨64≤(s.shares.map (·.members.length)).sum
 ·simp only[if_pos a]
  exact Safe.tell' (Safe.setF' h (fun f=>rfl))
 simp only[if_neg a]
 cases hq:s.shares.findIdx? (fun o=>o.want==Zb1 f.req)with
 |some j=>
  obtain⟨o,ho,_⟩:=ZeN hq
  simp only[ho,Bool.false_eq_true,if_false]
  refine Safe.tell' (Safe.setF' ⟨h.1,h.2.setO ho rfl (by simp) (fun x hx=> ?_)⟩ (fun f=>rfl))
  rcases List.mem_append.1 hx with hx|hx
  ·exact(h.2.mem o (Xc ho)).2 x hx
  ·rw[Jm hx];exact hv
 |none=>
  simp only[if_true]
  have b:=h.2.addP (Zb1 f.req) hv f.key
  have c:=b.putQ (i:={i with pre:=s.slast+1,since:=s.now}) (by show 1≤i.id∧i.id≤_;rw[hi];exact hv) (fun _=>⟨⟨s.slast+1,f.id,0,f.key⟩,by simp,rfl,hi.symm,rfl⟩)
  refine⟨h.1.modify _ (fun f=>rfl),?_⟩
  show ZaE (s.all.modify _ _).length _ _ _ _ _ _
  rw[List.length_modify]
  exact c
theorem Safe.departS (h:Safe s) (i:ZQ) (hq:i.pre≠0→∀x∈s.queue,x.pre≠i.pre):Safe (Lk.departS s i):=by
 unfold Lk.departS
 dsimp only
 split
 ·refine Safe.tell' ?_
  refine⟨h.1,?_⟩
  exact h.2.setConn _ _ (hq (by omega)) (by omega)
 ·exact Safe.tell' (Safe.setF' (Safe.pool' h) (fun f=>rfl))
theorem Y4 {now aging:Nat} {shut:List Bs} (h:Zaj q now aging shut=some i):i∈q:=by
 unfold Zaj at h
 suffices H:∀(l:List ZQ) (b:Option ZQ),(∀x,b=some x→x∈q)→(∀x∈l,x∈q)→∀x,l.foldl (fun d i=>if shut.contains i.key then d else match d with
  |none=>some i
  |some x=>if Zg2 i x now aging then some i else d) b=some x→x∈q by
  exact H q none (fun x hx=>by cases hx) (fun x hx=>hx) i h
 intro l
 induction l with
 |nil=>intro b c _ x hx;exact c x hx
 |cons y l ih=>
  intro b c e x hx
  rw[List.foldl_cons]at hx
  refine ih _ ?_ (fun z a=>e z (by simp[a])) x hx
  intro z a
  split at a
  ·exact c z a
  ·split at a
   ·injection a with a;subst a;exact e _ (by simp)
   ·split at a
    ·injection a with a;subst a;exact e _ (by simp)
    ·exact c z a
theorem Safe.dropped (h:Safe s) {i:ZQ} (hi:i∈s.queue):i.pre≠0→∀x∈dropQ s.queue i.id,x.pre≠i.pre:=by
 intro b x hx a
 rw[ZeG h.2.qn]at hx
 obtain⟨g,d⟩:=List.mem_filter.1 hx
 obtain⟨p,j,f,m,_⟩:=(h.2.qi i hi).2.2 b
 obtain⟨l,c,e,k,_⟩:=(h.2.qi x g).2.2 (by rw[a];exact b)
 obtain rfl:=Zjr h.2.pn j c (by rw[f,e,a])
 have:x.id=i.id:=by omega
 simp[this]at d
theorem Safe.stepF (k:Nat):∀{s:Zf} (h:Safe s) (shut:List Bs) (n:Int),Safe (Lk.stepF k s shut n).1:=by
 induction k with
 |zero=>intro s h shut n;exact h
 |succ k ih=>
  intro s h shut n
  unfold Lk.stepF
  split
  ·exact h
  rename_i i d
  have b:=Y4 d
  split
  ·exact ih h _ _
  have hd:Safe {s with queue:=dropQ s.queue i.id}:=⟨h.1,h.2.dropQ _⟩
  dsimp only
  split
  ·exact ih (Safe.departS hd i (h.dropped b)) _ _
  ·rename_i f c
   have a:=ZgU hd.1 c
   have hv:=Za6 c
   split
   ·exact ih (Safe.holdS hd f i (by rw[a];exact⟨hv.1,hv.2.1⟩) a.symm) _ _
   ·exact ih (Safe.departS hd i (h.dropped b)) _ _
theorem Safe.stepS (h:Safe s):Safe (Lk.stepS s).1:=Safe.stepF _ h _ _
theorem Safe.failedS (h:Safe s) {p:ZM} (hp:p∈s.pres) (state n:Int):Safe (Lk.failedS s p state n):=by
 unfold Lk.failedS
 dsimp only
 refine ZfK (fun a x ha=>ha.overS x state) _ ?_
 have:=(h.tell 7 ((((s.shares.find? fun o=>o.num==p.num).map (·.members)).getD []).headD 0) p.num p.conn n).dropP hp (state==8)
 have e:(forgetS (ZR s 7 ((((s.shares.find? fun o=>o.num==p.num).map (·.members)).getD []).headD 0) p.num p.conn n) p (state==8)).shares=s.shares:=by
  unfold forgetS;dsimp only;split<;>rfl
 rw[e]
 exact this
theorem Safe.judgeS (h:Safe s) {p:ZM} (hp:p∈s.pres) (status:Int) (hs:List (Bs×Bs)):Safe (Lk.judgeS s p status hs):=by
 unfold Lk.judgeS
 dsimp only
 split
 ·exact h
 rename_i f d
 split
 ·exact h.failedS hp _ _
 refine ZfK (fun a x ha=> ?_) _ ?_
 ·have b:=(ha.setF x (g:=fun f=>{f with cleared:=true,pre:=0,state:=goL f.state 2}) (fun f=>rfl)).tell 6 x p.num 0 0
  split
  ·rename_i f d
   exact b.putItem d
  ·exact b
 ·generalize List.foldl (fun c e=>ZcG c (max 1 (min s.conf.cache 64)) e s.now) s.cache (ZbM f.req (Zbs f.req status hs).1 s.now)=cc
  have i:Safe {s with cache:=cc}:=h
  have:=(i.tell 5 ((((s.shares.find? fun o=>o.num==p.num).map (·.members)).getD []).headD 0) p.num p.conn 0).dropP hp true
  have e:(forgetS (ZR {s with cache:=cc} 5 ((((s.shares.find? fun o=>o.num==p.num).map (·.members)).getD []).headD 0) p.num p.conn 0) p true).shares=s.shares:=by
   unfold forgetS;dsimp only;split<;>rfl
  rw[e]
  exact this
theorem Zh5 {conn:Int} (h:(Zcz s conn).2=some p):p∈s.pres:=by
 unfold Zcz at h
 split at h
 ·cases h
 ·split at h
  ·cases h
  ·exact List.mem_of_find?_eq_some h
theorem Safe.answerS (h:Safe s) (conn status:Int) (hs:List (Bs×Bs)):Safe (Lk.answerS s conn status hs).1:=by
 unfold Lk.answerS
 dsimp only
 split
 ·exact h
 split
 ·exact h
 split
 ·exact h
 split
 ·exact h
 split
 ·rename_i p a
  exact h.judgeS (Zh5 a) _ _
 ·split
  ·exact h.overS _ _
  ·exact Safe.setF' (Safe.tell' h) (fun f=>rfl)
 ·exact h
theorem Safe.chunkS (h:Safe s) (conn:Int) (x:Bs):Safe (Lk.chunkS s conn x).1:=by
 unfold Lk.chunkS
 split
 ·exact h
 split
 ·exact h
 dsimp only
 split
 ·exact h
 split
 ·exact Safe.tell' (Safe.tell' (Safe.setF' h (fun f=>rfl)))
 ·exact Safe.tell' (Safe.setF' h (fun f=>rfl))
theorem Safe.tailS (h:Safe s) (conn:Int):Safe (Lk.tailS s conn).1:=by
 unfold Lk.tailS
 split
 ·exact h
 rename_i f _ _
 split
 ·exact h
 rename_i b _
 dsimp only
 split
 ·exact h
 have a:Safe (ZR (Lk.setF s f.id fun f=>{f with body:=some (Zbl b).1}) 13 f.id 0 conn 0):=Safe.tell' (Safe.setF' h (fun f=>rfl))
 generalize ZR (Lk.setF s f.id fun f=>{f with body:=some (Zbl b).1}) 13 f.id 0 conn 0=s1 at a⊢
 exact ZkV (a.overS _ _) a
theorem Safe.failsS (h:Safe s) (conn:Int):Safe (Lk.failsS s conn).1:=by
 unfold Lk.failsS
 split
 ·rename_i p a
  exact h.failedS (Zh5 (by rw[a])) _ _
 ·exact h
 ·split
  ·exact h
  ·exact h.overS _ _
theorem Safe.readsS (h:Safe s) (id n:Int):Safe (Lk.readsS s id n).1:=by
 unfold Lk.readsS
 split
 ·exact h
 split
 ·exact h
 split
 ·exact h
 split
 ·exact h
 dsimp only
 refine ZkV ?_ ?_
 ·refine Safe.overS ?_ _ _
  split
  ·exact Safe.tell' (Safe.setF' h (fun f=>rfl))
  ·exact Safe.setF' h (fun f=>rfl)
 ·split
  ·exact Safe.tell' (Safe.setF' h (fun f=>rfl))
  ·exact Safe.setF' h (fun f=>rfl)
theorem Ids.add {l:List ZE} (h:Ids l) {f:ZE} (hf:f.id=(l.length:Int)+1):Ids (l++[f]):=fun i x hx=>by
 rcases Nat.lt_trichotomy i l.length with hi|hi|hi
 ·rw[List.getElem?_append_left hi]at hx;exact h i x hx
 ·subst hi
  rw[List.getElem?_append_right (Xi _)]at hx
  simp at hx;subst hx;exact hf
 ·rw[List.getElem?_eq_none (by simp;omega)]at hx;cases hx
theorem ZnW {gs:List Z5} {g id:Int} {n:Nat} (hg:∀x∈gs,∀i∈x.members,1≤i∧i≤(n:Int)) (hid:1≤id∧id≤n):∀x∈Zcv gs g id,∀i∈x.members,1≤i∧i≤(n:Int):=by
 unfold Zcv
 split
 ·exact hg
 split
 ·exact hg
 split
 ·exact hg
 rename_i y b _
 intro x hx i a
 rcases ZfS hx with c|rfl
 ·exact hg x c i a
 ·simp only[ZqY,List.append_assoc,List.mem_append,List.mem_singleton]at a
  rcases a with a|rfl|a
  ·exact hg y (Xc b) i ((List.takeWhile_sublist _).subset a)
  ·exact hid
  ·exact hg y (Xc b) i ((List.dropWhile_sublist _).subset a)
theorem Safe.submitS (h:Safe s) (r:Yb):Safe (Lk.submitS s r).1:=by
 unfold Lk.submitS
 split
 ·exact h
 split
 ·exact h
 split
 ·exact h
 dsimp only
 split
 ·exact h
 split
 ·exact h
 have b:Safe {ZR {s with book:=s.book++[⟨(s.all.length:Int)+1,r.group,Zek r⟩],all:=s.all++[⟨(s.all.length:Int)+1,YP r,Zek r,1,0,0,false,0,0,none,false⟩]} 1 ((s.all.length:Int)+1) 0 0 r.cls with groups:=Zcv s.groups r.group ((s.all.length:Int)+1)}:=by
  refine⟨h.1.add rfl,?_⟩
  show ZaE (s.all++[_]).length _ _ _ _ _ _
  rw[Xd]
  have a:=h.2.mono (m:=s.all.length+1) (by omega)
  exact a.groups (ZnW a.grp ⟨by omega,by omega⟩)
 split
 ·exact b.openS _
 ·exact b
theorem Safe.doS (h:Safe s) (a:ZbQ):Safe (Lk.doS s a).1:=by
 unfold Lk.doS
 have b:Safe {s with acts:=s.acts+1}:=h
 generalize({s with acts:=s.acts+1}:Zf)=s0 at b⊢
 dsimp only
 by_cases m:a.op=1
 ·rw[if_pos m]
  split
  ·exact b
  ·refine⟨b.1,b.2.groups (fun g hg=> ?_)⟩
   rcases List.mem_append.1 hg with hg|hg
   ·exact b.2.grp g hg
   ·rw[Jm hg];intro x hx;cases hx
 rw[if_neg m]
 by_cases p:a.op=2
 ·rw[if_pos p]
  split
  ·exact b
  ·split
   ·exact b
   ·exact b
 rw[if_neg p]
 by_cases j:a.op=3
 ·rw[if_pos j];exact b.submitS _
 rw[if_neg j]
 by_cases k:a.op=4
 ·rw[if_pos k];exact b.activateS _
 rw[if_neg k]
 by_cases r:a.op=5
 ·rw[if_pos r];exact b.loadS _
 rw[if_neg r]
 by_cases n:a.op=6
 ·rw[if_pos n];exact b.abortS _
 rw[if_neg n]
 by_cases l:a.op=7
 ·rw[if_pos l];exact b.tearS _
 rw[if_neg l]
 by_cases o:a.op=8
 ·rw[if_pos o];exact b.tickS _
 rw[if_neg o]
 by_cases q:a.op=9
 ·rw[if_pos q];exact b.stepS
 rw[if_neg q]
 by_cases d:a.op=10
 ·rw[if_pos d];exact b.answerS _ _ _
 rw[if_neg d]
 by_cases e:a.op=11
 ·rw[if_pos e];exact b.chunkS _ _
 rw[if_neg e]
 by_cases i:a.op=12
 ·rw[if_pos i];exact b.tailS _
 rw[if_neg i]
 by_cases c:a.op=13
 ·rw[if_pos c];exact b.failsS _
 rw[if_neg c]
 by_cases f:a.op=14
 ·rw[if_pos f];exact b.readsS _ _
 rw[if_neg f]
 exact b
theorem Safe.newS (c:ZaW):Safe (Lk.newS c):=by
 refine⟨fun i f h=>absurd (show([]:List ZE)[i]? =some f from h) (by rw[List.getElem?_nil];exact fun e=>nomatch e),?_⟩
 show ZaE 0 [] [] [] 0 [] []
 refine⟨fun _ h=> ?_,fun _ h=> ?_,fun _ h=> ?_,fun _ h=> ?_,fun _ h=> ?_,fun _ h=> ?_,List.nodup_nil,List.nodup_nil,fun _ h=> ?_,List.nodup_nil,fun _ h=> ?_,Int.le_refl 0⟩
 all_goals cases h
def Zaw (l:List (Bs×Bs)):Prop:=l.length≤100∧∀x∈l,x.1.length≤5000∧x.2.length≤5000
structure Zfz (r:Yb):Prop where
 m:r.method.length≤900000
 u:r.url.length≤900000
 o:r.origin.length≤900000
 h:r.headers.length≤100000
 hs:∀x∈r.headers,x.1.length≤900000∧x.2.length≤900000
 t:0≤r.timeout∧r.timeout≤18446744073709551615
structure ZcT (f:ZE):Prop where
 req:Zfz f.req
 since:f.since≤18446744073709551615
 body:f.state=5→f.body≠none
 key:f.key.length≤1000000
structure ZW (s:Zf) (n m:Nat):Prop where
 log:s.log.length≤n
 pres:s.pres.length≤n
 tl:0≤s.tlast∧s.tlast≤n
 sl:0≤s.slast∧s.slast≤n
 pl:s.pool.last≤n
 all:s.all.length≤m
 fs:∀f∈s.all,ZcT f
 q:s.queue.length≤128
 qs:∀i∈s.queue,i.since≤18446744073709551615
 tm:s.timers.length≤256
 gl:s.groups.length≤64
 gm:∀g∈s.groups,g.members.length≤m∧g.members.Pairwise (·<·)
 sg:s.signals.length≤64
 sp:∀x∈s.signals,x.parents.length≤1000000
 sh:(s.shares.map (·.members.length)).sum≤64
 sn:s.shares.length≤n
 bk:s.book.length≤64
 ca:s.cache.length≤64
 now:s.now≤18446744073709551615
 conf:Zak s.conf=true
 made:s.made=s.groups.length
theorem ZW.mono {n m n' m':Nat} (h:ZW s n m) (hn:n≤n') (hm:m≤m'):ZW s n' m':=
 {h with
  log:=Xj h.log hn,pres:=Xj h.pres hn,tl:=⟨h.tl.1,by have:=h.tl.2;omega⟩,sl:=⟨h.sl.1,by have:=h.sl.2;omega⟩,pl:=by have:=h.pl;omega
  all:=Xj h.all hm,gm:=fun g hg=>⟨Xj (h.gm g hg).1 hm,(h.gm g hg).2⟩,sn:=Xj h.sn hn}
theorem ZW.tell (h:ZW s n m) (a b c d e:Int):ZW (ZR s a b c d e) (n+1) m:=
 {h.mono (Nat.le_succ n) (Xi m)with log:=by show(s.log++_).length≤_;rw[Xd];have:=h.log;simp;exact this}
theorem ZmM {α:Type} {l:List α} {g:α→α} {x:α} (h:x∈l.modify i g):∃y∈l,x=y∨x=g y:=by
 obtain⟨j,a⟩:=List.getElem?_of_mem h
 rw[List.getElem?_modify]at a
 cases hl:l[j]? with
 |none=>rw[hl]at a;simp at a
 |some y=>
  rw[hl]at a
  refine⟨y,Xc hl,?_⟩
  simp only[Option.map_eq_map,Option.map_some,Option.some.injEq]at a
  split at a
  ·exact .inr a.symm
  ·exact .inl a.symm
theorem ZW.setF (h:ZW s n m) (id:Int) {g:ZE→ZE} (hg:∀f,ZcT f→ZcT (g f)):ZW (Lk.setF s id g) n m:=
 {h with
  all:=by show(s.all.modify _ g).length≤m;rw[List.length_modify];exact h.all
  fs:=fun f hf=>by
   obtain⟨y,hy,rfl|rfl⟩:=ZmM hf
   ·exact h.fs _ hy
   ·exact hg _ (h.fs _ hy)}
theorem ZpB {i x:ZQ} (h:x∈putQ q i):x∈q∨x=i:=by
 unfold putQ at h
 repeat' split at h
 all_goals first|exact .inl h|(rcases List.mem_append.1 h with h|h;exact .inl h;exact .inr (by simpa using h))
theorem ZqL {q:List ZQ} (h:q.length≤128):(putQ q i).length≤128:=by
 unfold putQ
 repeat' split
 all_goals first|exact h|(rw[Xd];simp;omega)
theorem Znz (q:List ZQ) (id:Int):(dropQ q id).length≤q.length:=by
 unfold dropQ;split
 ·exact(Zgw _ _).length_le
 ·exact Xi _
theorem Zph {id:Int} {x:ZQ} (h:x∈dropQ q id):x∈q:=by
 unfold dropQ at h;split at h
 ·exact Zju h
 ·exact h
theorem ZW.putQ (h:ZW s n m) {i:ZQ} (hi:i.since≤18446744073709551615):ZW {s with queue:=Lk.putQ s.queue i} n m:=
 {h with q:=ZqL h.q,qs:=fun x hx=>by rcases ZpB hx with h1|rfl;exact h.qs x h1;exact hi}
theorem ZW.dropQ (h:ZW s n m) (id:Int):ZW {s with queue:=Lk.dropQ s.queue id} n m:=
 {h with q:=Xj (Znz _ _) h.q,qs:=fun x hx=>h.qs x (Zph hx)}
theorem Zmi (p:ZaX) (num:Int) (now:Nat) (keep:Bool):(giveP p num now keep).last=p.last:=by
 unfold giveP;repeat' split
 all_goals rfl
theorem ZmK (p:ZaX) (key:Bs) (now:Nat):(ZbE p key now).1.last=p.last∨(ZbE p key now).1.last=p.last+1:=by
 unfold ZbE expireP
 dsimp only
 repeat' split
 all_goals first|exact .inl rfl|exact .inr rfl
theorem ZW.giveP (h:ZW s n m) (num:Int) (now:Nat) (keep:Bool):ZW {s with pool:=Lk.giveP s.pool num now keep} n m:=
 {h with pl:=by show(Lk.giveP _ _ _ _).last≤_;rw[Zmi];exact h.pl}
theorem ZcT.upd {f f':ZE} (h:ZcT f) (e1:f'.req=f.req) (e2:f'.since≤18446744073709551615) (e3:f'.state=5→f'.body≠none) (e4:f'.key=f.key):ZcT f':=
 ⟨by rw[e1];exact h.req,e2,e3,by rw[e4];exact h.key⟩
theorem ZcX {a c:Int} (hc:c≠5) (h:goL a c=5):a=5:=by
 unfold goL at h;split at h
 ·exact absurd h hc
 ·exact h
theorem ZeV (h:ZW s n m) {id:Int} (hf:Zac s id=some f):ZcT f:=by
 obtain⟨_,_,a⟩:=Za6 hf
 exact h.fs f (Xc a)
theorem ZW.open (h:ZW s n m) (id:Int):ZW (openS s id) (n+1) m:=by
 unfold openS
 have b:ZW (Lk.setF s id fun f=>{f with state:=goL f.state 2,since:=s.now}) n m:=h.setF id fun f a=>a.upd rfl h.now (fun e=>a.body (ZcX (by omega) e)) rfl
 have i:(Lk.setF s id fun f=>{f with state:=goL f.state 2,since:=s.now}).now=s.now:=rfl
 generalize(Lk.setF s id fun f=>{f with state:=goL f.state 2,since:=s.now})=s1 at b i⊢
 dsimp only
 split
 ·exact b.mono (Nat.le_succ n) (Xi m)
 rename_i f a
 have g:=ZeV b a
 have c:ZW {s1 with queue:=Lk.putQ s1.queue (Zbo f)} n m:=b.putQ g.since
 have d:∀(s:Zf) (k:Nat) (x:Int),ZW s k m→ZW (Lk.setF s id fun f=>{f with timer:=x}) k m:=fun s k x h=>h.setF id fun f a=>a.upd rfl a.since a.body rfl
 split
 ·exact d _ _ _ (c.mono (Nat.le_succ n) (Xi m))
 ·rename_i ht
  refine d _ _ _ {c.mono (Nat.le_succ n) (Xi m)with tl:= ?_,tm:= ?_}
  ·have:=c.tl;dsimp only at this⊢;omega
  ·show(s1.timers++[_]).length≤256;rw[Xd];simp;omega
theorem ZW.forget (h:ZW s n m) (p:ZM) (keep:Bool):ZW (forgetS s p keep) n m:=by
 unfold forgetS
 have b:∀a:Zf,ZW a n m→ZW {a with pres:=a.pres.filter fun x=>x.num !=p.num} n m:=fun a c=>{c with pres:=Xj (Xq _ _) c.pres}
 dsimp only
 split
 ·exact b _ (h.giveP _ _ _)
 ·exact b _ (h.dropQ _)
theorem Zny {l:List ZH} {i:Nat} (ho:l[i]? =some o) (o':ZH):((l.set i o').map (·.members.length)).sum+o.members.length=(l.map (·.members.length)).sum+o'.members.length:=by
 induction l generalizing i with
 |nil=>simp at ho
 |cons a l ih=>
  cases i with
  |zero=>simp at ho;subst ho;simp;omega
  |succ i=>simp at ho;have:=ih ho;simp at this⊢;omega
theorem ZnE (l:List ZH) (i:Nat):((l.eraseIdx i).map (·.members.length)).sum≤(l.map (·.members.length)).sum:=by
 induction l generalizing i with
 |nil=>simp
 |cons a l ih=>
  cases i with
  |zero=>simp
  |succ i=>have:=ih i;simp at this⊢;omega
theorem ZW.sharesDel (h:ZW s n m) (i:Nat):ZW {s with shares:=Zaa s.shares i} n m:=
 {h with sh:=by show(((Zaa s.shares i)).map _).sum≤64;rw[Ya];exact Xj (ZnE _ _) h.sh,sn:=Xj (Zgw _ _).length_le h.sn}
theorem ZW.leave (h:ZW s n m) (id:Int):ZW (leaveS s id) (n+1) m:=by
 unfold leaveS
 have b:ZW (Lk.setF s id fun f=>{f with pre:=0}) n m:=h.setF id fun f c=>c.upd rfl c.since c.body rfl
 generalize(Lk.setF s id fun f=>{f with pre:=0})=s1 at b⊢
 have a:=b.mono (Nat.le_succ n) (Xi m)
 dsimp only
 split
 ·exact a
 split
 ·exact a
 rename_i o ho
 split
 ·refine{a with sh:= ?_,sn:= ?_}
  ·show((s1.shares.set _ _).map _).sum≤64
   have e:=Zny ho {o with members:=o.members.filter fun x=>x !=id}
   have:=a.sh
   have d:=Xq (fun x=>x !=id) o.members
   dsimp only at e
   omega
  ·show(s1.shares.set _ _).length≤_;rw[List.length_set];exact a.sn
 ·split
  ·exact(b.sharesDel _).mono (Nat.le_succ n) (Xi m)
  ·exact((b.sharesDel _).tell _ _ _ _ _).forget _ _
theorem ZdQ (gs:List Z5) (id:Int):(Za2 gs id).length=gs.length:=by
 unfold Za2;repeat' split
 all_goals first|rfl|exact List.length_set
theorem Zh8 {gs:List Z5} {id:Int} {m:Nat} (h:∀g∈gs,g.members.length≤m∧g.members.Pairwise (·<·)):∀g∈Za2 gs id,g.members.length≤m∧g.members.Pairwise (·<·):=by
 unfold Za2;repeat' split
 all_goals first|exact h|skip
 rename_i i _ _ g hg
 intro x hx
 rcases List.mem_or_eq_of_mem_set hx with hx|rfl
 ·exact h x hx
 ·have:=h g (Xc hg)
  exact⟨Xj List.length_erase_le this.1,this.2.sublist (List.erase_sublist)⟩
theorem Zjk (l:List Y8) (id:Int):(Zhb l id).length≤l.length:=by
 unfold Zhb
 split
 ·exact(Zgw l _).length_le
 ·exact Xi _
theorem ZW.over (h:ZW s n m) (id state:Int) (hst:state≠5):ZW (overS s id state) (n+2) m:=by
 unfold overS
 have i:=h.mono (Nat.le_add_right n 2) (Xi m)
 split
 ·exact i
 rename_i f a
 split
 ·exact i
 have j:ZW (Lk.setF s id fun f=>{f with ended:=true,state:=goL f.state state}) n m:=h.setF id fun f a=>a.upd rfl a.since (fun e=>a.body (ZcX hst e)) rfl
 have b:=j.tell (state-6+14) id 0 f.conn 0
 generalize ZR (Lk.setF s id fun f=>{f with ended:=true,state:=goL f.state state}) (state-6+14) id 0 f.conn 0=s1 at b⊢
 have c:ZW {s1 with timers:=s1.timers.filter (fun t=>t.id !=f.timer),groups:=Za2 s1.groups id,book:=Zhb s1.book id} (n+1) m:=
  {b with
   tm:=Xj (Xq _ _) b.tm
   gl:=(ZdQ s1.groups id).symm▸b.gl
   gm:=Zh8 b.gm
   bk:=Xj (Zjk _ _) b.bk
   made:=b.made.trans (by show(_:Int)=((Za2 s1.groups id).length:Nat);rw[ZdQ])}
 dsimp only
 have d:=fun(s:Zf) (h:ZW s (n+1) m)=>h.mono (Nat.le_succ (n+1)) (Xi m)
 split
 ·exact d _ (c.dropQ id)
 split
 ·refine d _ (ZW.setF (c.giveP f.conn s1.now (state==6)) id (g:=fun f=>{f with body:=f.body.map ZaZ,conn:=0}) fun f a=>⟨a.req,a.since,fun e=> ?_,a.key⟩)
  have:=a.body e
  dsimp only
  cases hb:f.body with
  |none=>exact absurd hb this
  |some x=>simp
 split
 ·exact c.leave id
 ·exact d _ c
theorem Zkt {l:List Int} {x:Int} (h:∀y∈l,y<x):ZqY l x=l++[x]:=by
 unfold ZqY
 have b:l.takeWhile (fun y=>decide (y<x))=l:=by
  induction l with
  |nil=>rfl
  |cons a l ih=>rw[List.takeWhile_cons_of_pos (by simpa using h a (by simp)),ih (fun y d=>h y (by simp[d]))]
 have c:l.dropWhile (fun y=>decide (y<x))=[]:=by
  have:=List.takeWhile_append_dropWhile (p:=fun y=>decide (y<x)) (l:=l)
  rw[b]at this
  simpa using this
 rw[b,c];simp
theorem Ze6 (gs:List Z5) (g id:Int):(Zcv gs g id).length=gs.length:=by
 unfold Zcv;repeat' split
 all_goals first|rfl|exact List.length_set
theorem Zi3 {gs:List Z5} {g id:Int} {m k:Nat} (h:∀x∈gs,x.members.length≤m∧x.members.Pairwise (·<·)) (hv:∀x∈gs,∀i∈x.members,1≤i∧i≤(k:Int)) (hid:(k:Int)<id):
  ∀x∈Zcv gs g id,x.members.length≤m+1∧x.members.Pairwise (·<·):=by
 have f:∀x∈gs,x.members.length≤m+1∧x.members.Pairwise (·<·):=fun x hx=>⟨Nat.le_succ_of_le (h x hx).1,(h x hx).2⟩
 unfold Zcv;repeat' split
 all_goals first|exact f|skip
 rename_i x hx _
 have d:=Xc hx
 have e:∀y∈x.members,y<id:=fun y l=>by have:=(hv x d y l).2;omega
 intro z c
 rcases List.mem_or_eq_of_mem_set c with c|rfl
 ·exact f z c
 ·dsimp only
  rw[Zkt e]
  refine⟨by rw[Xd];simp;exact(h x d).1,List.pairwise_append.2 ⟨(h x d).2,by simp,fun a ha b j=> ?_⟩⟩
  rw[Jm j];exact e a ha
theorem Zgm (s:Bs):(Yx s).length=s.length:=by simp[Yx]
theorem ZaC (s:Bs):(YO s).length≤s.length:=by
 unfold YO
 rw[List.length_reverse]
 refine Xj (List.dropWhile_sublist _).length_le ?_
 rw[List.length_reverse]
 exact(List.dropWhile_sublist _).length_le
theorem Zi9 (s:Bs):(ZdJ s).length≤s.length+7:=by
 unfold ZdJ
 split
 ·unfold ZcB
  cases h:ZdG.find? (fun m=>Zb2 s m)with
  |none=>simp
  |some x=>
   have:=List.mem_of_find?_eq_some h
   simp only[ZdG,List.mem_cons,List.not_mem_nil,or_false]at this
   rcases this with rfl|rfl|rfl|rfl|rfl|rfl<;>simp<;>omega
 ·omega
theorem Zpj (u:Z6):(Zgc u).length≤512:=by
 unfold Zgc
 split
 ·rename_i h
  unfold Zh6 at h
  simp only[Bool.and_eq_true,decide_eq_true_eq]at h
  exact h.2
 ·simp
theorem Zb6 {o:Zx} (h:Y6 o=true):o.scheme.length≤5∧o.host.length≤253∧1≤o.port∧o.port≤65535:=by
 unfold Y6 Zg0 at h
 simp only[Bool.and_eq_true,decide_eq_true_eq,bne_iff_ne]at h
 refine⟨?_,h.1.1.2.1,h.1.2,h.2⟩
 have:=h.1.1.1
 unfold YX at this
 split at this
 ·rename_i e;rw[e];decide
 ·split at this
  ·rename_i e;rw[e];decide
  ·exact absurd rfl this
theorem Zjg (o:Zx):(Zew o).length≤300:=by
 unfold Zew Zfs
 split
 ·rename_i h
  simp only[Bool.and_eq_true]at h
  obtain⟨d,a,b,c⟩:=Zb6 h.1
  simp only[Xd,List.length_cons,List.length_nil];omega
 ·split
  ·rename_i h
   obtain⟨d,a,b,c⟩:=Zb6 h
   have:=Lib.itoa_length_le o.port (by omega) (by omega)
   simp only[Xd,List.length_cons,List.length_nil];omega
  ·simp
theorem ZqN (o:Zx):(Zfs o).length≤300:=by
 unfold Zfs
 split
 ·rename_i h
  obtain⟨a,c,b,d⟩:=Zb6 h
  have:=Lib.itoa_length_le o.port (by omega) (by omega)
  simp only[Xd,List.length_cons,List.length_nil];omega
 ·simp
theorem ZgY (h:Za9 r=0):(YF r).2.2=true∧ZbW r=0∧(ZaT r.url).2=0∧(Y5 r.origin).2=0:=by
 refine⟨by unfold YF;rw[if_neg (by simp[h])],?_⟩
 unfold Za9 at h
 dsimp only at h
 split at h
 ·rename_i a;exact absurd h (by simpa using a)
 split at h
 ·rename_i a;exact absurd h (by simpa using a)
 split at h
 ·rename_i a;exact absurd h (by simpa using a)
 rename_i a c b
 simp only[bne_iff_ne,ne_eq,Decidable.not_not]at a c b
 exact⟨b,a,c⟩
theorem ZkO (h:ZcA s=0):s.length≤32:=by
 unfold ZcA at h
 split at h
 ·cases h
 ·rename_i a
  simp only[Bool.or_eq_true,decide_eq_true_eq,not_or]at a
  omega
theorem Zkc (h:ZbW r=0):ZcA r.method=0∧Zcd r.headers=0∧1≤r.cls∧r.cls≤6∧r.timeout≤600∧0≤r.group∧0≤r.signal∧(r.mode=1∨r.mode=2∨r.mode=3):=by
 unfold ZbW at h
 split at h
 ·rename_i d;exact absurd h (by simpa using d)
 split at h
 ·cases h
 split at h
 ·rename_i d;exact absurd h (by simpa using d)
 split at h
 ·cases h
 split at h
 ·cases h
 split at h
 ·cases h
 rename_i d f e g j i
 simp only[bne_iff_ne,ne_eq,Decidable.not_not]at d e
 refine⟨d,e,by omega,by omega,by omega,by omega,by omega,?_⟩
 simp only[Bool.not_eq_true',Bool.or_eq_false_iff,beq_eq_false_iff_ne,not_and,ne_eq,Classical.not_imp,Decidable.not_not]at f
 by_cases a:r.mode=1
 ·exact .inl a
 ·by_cases b:r.mode=2
  ·exact .inr (.inl b)
  ·exact .inr (.inr (by
   apply Decidable.byContradiction
   intro c
   have:=f (by simp[a,b])
   exact c this))
theorem Zjn (hr:Zfz r):Zfz (YP r):=by
 unfold YP
 split
 ·exact⟨by simp[Yb.zero],by simp[Yb.zero],by simp[Yb.zero],by simp[Yb.zero],by simp[Yb.zero],by simp[Yb.zero]⟩
 ·rename_i h
  have a:Za9 r=0:=by
   unfold YF at h
   split at h
   ·simp at h
   ·rename_i b;simpa using b
  have d:=ZkO (Zkc (ZgY a).2.1).1
  refine⟨?_,?_,?_,?_,fun x hx=> ?_,hr.t⟩
  ·have:=Zi9 r.method;show(ZdJ r.method).length≤_;omega
  ·have:=Zpj (YF r).1;show(Zgc (YF r).1).length≤_;omega
  ·have:=Zjg (YF r).2.1;show(Zew (YF r).2.1).length≤_;omega
  ·show(ZcF r.headers).length≤_;unfold ZcF;rw[Xb];exact hr.h
  ·obtain⟨y,c,rfl⟩:=List.mem_map.1 (show x∈ZcF r.headers from hx)
   have:=hr.hs y c
   have:=ZaC y.2
   dsimp only
   rw[Zgm];omega
theorem ZlD (r:Yb):(Zek r).length≤300:=by
 unfold Zek;split
 ·simp
 ·exact ZqN _
theorem ZW.submit (h:ZW s n m) (hs:Safe s) (hr:Zfz r):ZW (submitS s r).1 (n+2) (m+1):=by
 have b:=h.mono (Nat.le_add_right n 2) (Nat.le_succ m)
 unfold submitS
 split
 ·exact b
 split
 ·exact b
 split
 ·exact b
 dsimp only
 split
 ·exact b
 split
 ·exact b
 rename_i e
 rw[not_or,not_or]at e
 have d:=h.mono (Nat.le_succ n) (Nat.le_succ m)
 have c:ZW {ZR {s with book:=s.book++[⟨s.all.length+1,r.group,Zek r⟩],all:=s.all++[⟨s.all.length+1,YP r,Zek r,1,0,0,false,0,0,none,false⟩]} 1 (s.all.length+1) 0 0 r.cls with groups:=Zcv s.groups r.group (s.all.length+1)} (n+1) (m+1):=
  {d with
   log:=by show(s.log++[_]).length≤_;rw[Xd];have:=h.log;simp;exact this
   all:=by show(s.all++[_]).length≤_;rw[Xd];have:=h.all;simp;exact this
   fs:=fun f a=>by
    rcases List.mem_append.1 a with a|a
    ·exact h.fs f a
    ·rw[Jm a]
     exact⟨Zjn hr,by simp,by simp,by have:=ZlD r;show(Zek r).length≤_;omega⟩
   gl:=(Ze6 s.groups r.group _).symm▸h.gl
   gm:=Zi3 h.gm hs.2.grp (by omega)
   bk:=by show(s.book++[_]).length≤_;rw[Xd];simp;omega
   made:=h.made.trans (by show(_:Int)=((Zcv s.groups r.group _).length:Nat);rw[Ze6])}
 split
 ·exact c.open _
 ·exact c.mono (Nat.le_succ _) (Xi _)
theorem ZW.activate (h:ZW s n m) (id:Int):ZW (activateS s id).1 (n+2) m:=by
 have a:=h.mono (Nat.le_add_right n 2) (Xi m)
 unfold activateS
 split
 ·exact a
 split
 ·exact a
 ·exact(h.tell _ _ _ _ _).open _
theorem Zh9 {β:Type} {g:Zf→β→Zf} {k m:Nat} (hg:∀s x n,ZW s n m→ZW (g s x) (n+k) m):∀(l:List β) {s:Zf} {n:Nat},ZW s n m→ZW (l.foldl g s) (n+k*l.length) m
 |[],s,n,h=>by simpa using h
 |x::l,s,n,h=>by
  have:=Zh9 hg l (hg s x n h)
  rw[List.foldl_cons,List.length_cons,Nat.mul_succ,show n+(k*l.length+k)=n+k+k*l.length by omega];exact this
theorem Zi6 {β:Type} {g:Zf×Int→β→Zf×Int} {k m:Nat} (hg:∀s x n,ZW s.1 n m→ZW (g s x).1 (n+k) m):∀(l:List β) {s:Zf×Int} {n:Nat},ZW s.1 n m→ZW (l.foldl g s).1 (n+k*l.length) m
 |[],s,n,h=>by simpa using h
 |x::l,s,n,h=>by
  have:=Zi6 hg l (hg s x n h)
  rw[List.foldl_cons,List.length_cons,Nat.mul_succ,show n+(k*l.length+k)=n+k+k*l.length by omega];exact this
theorem ZW.late:∀(k:Nat) {s:Zf} {n:Nat} (h:ZW s n m) (c:Int),ZW (lateS k s c).1 (n+2*k) m
 |0,s,n,h,c=>by unfold lateS;simpa using h
 |k+1,s,n,h,c=>by
  have h0:=h.mono (Nat.le_add_right n (2*(k+1))) (Xi m)
  unfold lateS
  split
  ·exact h0
  split
  ·exact h0
  rename_i t _ _
  have h1:ZW {s with timers:=s.timers.filter fun x=>x.id !=t.id} n m:={h with tm:=Xj (Xq _ _) h.tm}
  have h2:=ZW.late k (h1.over t.tag 10 (by omega)) (c+1)
  exact h2.mono (by omega) (Xi m)
theorem Zp2 (a c:Nat):addT a c≤18446744073709551615:=by unfold addT;split<;>omega
theorem ZW.tick (h:ZW s n m) (k:Nat):ZW (tickS s k).1 (n+512) m:=by
 unfold tickS
 dsimp only
 have b:ZW {s with now:=addT s.now k} n m:={h with now:=Zp2 _ _}
 have c:=ZW.late s.timers.length b 0
 have a:=c.mono (n':=n+512) (by have:=h.tm;omega) (Xi m)
 exact{a with pl:=a.pl}
theorem Zjs (h:ZW s n m) (w:ZdA) (id:Int):ZW (Zat s w id).1 (n+1) m:=by
 have a:=h.mono (Nat.le_succ n) (Xi m)
 unfold Zat
 split
 ·exact a
 rename_i b
 rw[not_or,not_or]at b
 split
 ·rename_i i c
  split
  ·rename_i o ho
   have e:=Zny ho {o with members:=o.members++[id]}
   dsimp only at e
   rw[Xd,List.length_singleton]at e
   refine{a with sh:= ?_,sn:=by show(s.shares.set _ _).length≤_;rw[List.length_set];exact a.sn}
   show((s.shares.set _ _).map _).sum≤64
   omega
  ·exact a
 ·refine{a with sl:= ?_,sh:= ?_,sn:= ?_}
  ·have:=h.sl;dsimp only;omega
  ·show((s.shares++[_]).map _).sum≤64
   rw[Xs,List.sum_append];simp;omega
  ·show(s.shares++[_]).length≤_;rw[Xd];have:=h.sn;simp;exact this
theorem ZW.hold (h:ZW s n m) (f:ZE) (i:ZQ) (hi:i.since≤18446744073709551615):ZW (holdS s f i) (n+2) m:=by
 unfold holdS
 have a:=Zjs h (Zb1 f.req) f.id
 generalize Zat s (Zb1 f.req) f.id=j at a⊢
 dsimp only
 have d:ZW (Lk.setF j.1 f.id fun f=>{f with state:=goL f.state 3,pre:=j.2.1}) (n+1) m:=a.setF f.id fun f b=>b.upd rfl b.since (fun e=>b.body (ZcX (by omega) e)) rfl
 have c:=d.tell 3 f.id j.2.1 0 0
 have k:(ZR (Lk.setF j.1 f.id fun f=>{f with state:=goL f.state 3,pre:=j.2.1}) 3 f.id j.2.1 0 0).now=j.1.now:=rfl
 split
 ·have g:ZW {ZR (Lk.setF j.1 f.id fun f=>{f with state:=goL f.state 3,pre:=j.2.1}) 3 f.id j.2.1 0 0 with pres:=j.1.pres++[⟨j.2.1,f.id,0,f.key⟩]} (n+2) m:=
   {c with pres:=by show(j.1.pres++[_]).length≤_;rw[Xd];have:=a.pres;simp;omega}
  exact g.putQ (i:={i with pre:=j.2.1,since:=j.1.now}) a.now
 ·exact c
theorem ZW.depart (h:ZW s n m) (i:ZQ):ZW (departS s i) (n+1) m:=by
 unfold departS
 have j:=ZmK s.pool i.key s.now
 generalize ZbE s.pool i.key s.now=t at j⊢
 dsimp only
 have p:∀k:Nat,n≤k→ZW {s with pool:=t.1} (k+1) m:=fun k r=>{h.mono (Nat.le_succ_of_le r) (Xi m)with pl:=by have:=h.pl;dsimp only;omega}
 have o:∀(g:Zf) (a b c d e:Int),g.log.length≤n→ZW g (n+1) m→ZW (ZR g a b c d e) (n+1) m:=fun g a b c d e j q=>{q with log:=by show(g.log++[_]).length≤_;rw[Xd];simp;exact j}
 split
 ·refine o _ _ _ _ _ _ h.log {p n (Xi n)with pres:=by show(List.map _ s.pres).length≤_;rw[Xb];exact Nat.le_succ_of_le h.pres}
 ·exact o _ _ _ _ _ _ h.log ((p n (Xi n)).setF i.id fun f l=>l.upd rfl l.since (fun e=>l.body (ZcX (by omega) e)) rfl)
theorem ZW.stepF:∀(k:Nat) {s:Zf} {n:Nat} (h:ZW s n m) (shut:List Bs) (c:Int),ZW (Lk.stepF k s shut c).1 (n+2*k) m
 |0,s,n,h,shut,c=>by unfold Lk.stepF;simpa using h
 |k+1,s,n,h,shut,c=>by
  have h0:=h.mono (Nat.le_add_right n (2*(k+1))) (Xi m)
  unfold Lk.stepF
  split
  ·exact h0
  rename_i i hi
  split
  ·exact(ZW.stepF k h _ c).mono (by omega) (Xi m)
  have h1:ZW {s with queue:=Lk.dropQ s.queue i.id} n m:=h.dropQ i.id
  have his:=h.qs i (Y4 hi)
  dsimp only
  split
  ·exact(ZW.stepF k (h1.depart i) _ _).mono (by omega) (Xi m)
  ·rename_i f hf
   split
   ·exact(ZW.stepF k (h1.hold f i his) _ _).mono (by omega) (Xi m)
   ·exact(ZW.stepF k (h1.depart i) _ _).mono (by omega) (Xi m)
theorem ZW.step (h:ZW s n m):ZW (stepS s).1 (n+800) m:=by
 unfold stepS
 exact(ZW.stepF _ h [] 0).mono (by have:=h.q;omega) (Xi m)
theorem Zgg {l:List ZH} {o:ZH} (h:o∈l):o.members.length≤(l.map (·.members.length)).sum:=by
 induction l with
 |nil=>cases h
 |cons a l ih=>
  rcases List.mem_cons.1 h with rfl|h
  ·simp
  ·have:=ih h;simp;omega
theorem ZW.members (h:ZW s n m) (num:Int):(((s.shares.find? fun o=>o.num==num).map (·.members)).getD []).length≤64:=by
 cases hf:s.shares.find? fun o=>o.num==num with
 |none=>simp
 |some o=>have:=Zgg (List.mem_of_find?_eq_some hf);have:=h.sh;simp;omega
theorem ZW.dropO (h:ZW s n m) (num:Int):ZW {s with shares:=match s.shares.findIdx? (fun o=>o.num==num)with|some i=>Zaa s.shares i|none=>s.shares} n m:=by
 split
 ·exact h.sharesDel _
 ·exact h
theorem ZW.failed (h:ZW s n m) (p:ZM) (state k:Int) (hst:state≠5):ZW (failedS s p state k) (n+129) m:=by
 unfold failedS
 have b:=h.members p.num
 generalize((s.shares.find? fun o=>o.num==p.num).map (·.members)).getD []=l at b⊢
 dsimp only
 have c:=((h.tell 7 (l.headD 0) p.num p.conn k).forget p (state==8)).dropO p.num
 exact(Zh9 (g:=fun a id=>overS a id state) (k:=2) (fun s x n h=>h.over x state hst) l c).mono (by omega) (Xi m)
theorem ZqB {l:List Zr} {most:Int} {now:Nat} {k:Nat} (hl:l.length≤k) (hm:1≤most) (hk:most≤k):(ZcG l most e now).length≤k:=by
 have b:(Zig l now).length≤k:=Xj (Xq _ _) hl
 unfold ZcG
 split
 ·exact hl
 dsimp only
 generalize Zig l now=l1 at b⊢
 split
 ·split
  ·rw[List.length_set];exact b
  ·exact b
 ·rw[Xd]
  split
  ·rename_i m
   have d:Zdf l1<l1.length:=by
    have f:∀(r:List Nat) (a:Nat),(∀i∈r,i<l1.length)→a<l1.length→r.foldl (fun a i=>match l1[i]?,l1[a]? with|some e,some x=>if e.until_<x.until_ then i else a|_,_=>a) a<l1.length:=by
     intro r
     induction r with
     |nil=>intro a _ ha;exact ha
     |cons i r ih=>
      intro a c ha
      rw[List.foldl_cons]
      refine ih _ (fun j h=>c j (by simp[h])) ?_
      split
      ·split
       ·exact c i (by simp)
       ·exact ha
      ·exact ha
    exact f _ 0 (fun i g=>List.mem_range.1 g) (by omega)
   rw[Ya,List.length_eraseIdx,if_pos d];simp;omega
  ·simp;omega
theorem ZW.puts (h:ZW s n m) (now:Nat):∀(l:List Zr) (c:List Zr),c.length≤64→(l.foldl (fun c e=>ZcG c (max 1 (min s.conf.cache 64)) e now) c).length≤64
 |[],c,hc=>hc
 |e::l,c,hc=>by
  rw[List.foldl_cons]
  exact ZW.puts h now l _ (ZqB hc (by omega) (by omega))
theorem ZW.judge (h:ZW s n m) (p:ZM) (status:Int) (hs:List (Bs×Bs)):ZW (judgeS s p status hs) (n+200) m:=by
 have r:=h.mono (Nat.le_add_right n 200) (Xi m)
 unfold judgeS
 have j:=h.members p.num
 dsimp only
 split
 ·exact r
 rename_i f b
 split
 ·exact(h.failed p 8 _ (by omega)).mono (by omega) (Xi m)
 generalize((s.shares.find? fun o=>o.num==p.num).map (·.members)).getD []=l at j b⊢
 have q:ZW {s with cache:=(ZbM f.req (Zbs f.req status hs).1 s.now).foldl (fun c e=>ZcG c (max 1 (min s.conf.cache 64)) e s.now) s.cache} n m:={h with ca:=h.puts s.now _ _ h.ca}
 have g:=((q.tell 5 (l.headD 0) p.num p.conn 0).forget p true).dropO p.num
 refine(Zh9 (k:=1) (fun a id n h=> ?_) l g).mono (by omega) (Xi m)
 have i:ZW (Lk.setF a id fun f=>{f with cleared:=true,pre:=0,state:=goL f.state 2}) n m:=h.setF id fun f b=>b.upd rfl b.since (fun e=>b.body (ZcX (by omega) e)) rfl
 have d:=i.tell 6 id p.num 0 0
 split
 ·rename_i f b
  exact d.putQ (ZeV d b).since
 ·exact d
theorem ZW.load (h:ZW s n m) (g:Int):ZW (loadS s g).1 (n+2*m) m:=by
 unfold loadS
 split
 ·exact h.mono (Nat.le_add_right _ _) (Xi m)
 dsimp only
 have b:((s.groups[(g-1).toNat]?.map (·.members)).getD []).length≤m:=by
  cases hg:s.groups[(g-1).toNat]? with
  |none=>simp
  |some x=>simpa using(h.gm x (Xc hg)).1
 refine(Zi6 (k:=2) (fun a id n h=> ?_) _ (s:=(s,0)) h).mono (by omega) (Xi m)
 split
 ·split
  ·exact h.activate id
  ·exact h.mono (Nat.le_add_right _ _) (Xi m)
 ·exact h.mono (Nat.le_add_right _ _) (Xi m)
theorem ZW.body (h:ZW s n m) (id:Int) (st:Za7):ZW (Lk.setF s id fun f=>{f with body:=some st}) n m:=
 h.setF id fun f hf=>hf.upd rfl hf.since (fun _=>by simp) rfl
theorem ZW.answer (h:ZW s n m) (conn status:Int) (hs:List (Bs×Bs)):ZW (answerS s conn status hs).1 (n+200) m:=by
 have b:=h.mono (Nat.le_add_right n 200) (Xi m)
 unfold answerS
 dsimp only
 split
 ·exact b
 split
 ·exact b
 split
 ·exact b
 split
 ·exact b
 split
 ·exact h.judge _ _ _
 ·split
  ·exact(h.over _ 8 (by omega)).mono (by omega) (Xi m)
  ·rename_i a _ _ _
   have d:ZW (Lk.setF (ZR s 9 a.id 0 a.conn status) a.id fun f=>{f with state:=goL f.state 5,body:=some (Ze5 s.conf.high s.conf.low)}) (n+1) m:=(h.tell 9 a.id 0 a.conn status).setF a.id fun f c=>c.upd rfl c.since (fun _=>by simp) rfl
   exact d.mono (by omega) (Xi m)
 ·exact b
theorem ZW.tail (h:ZW s n m) (conn:Int):ZW (tailS s conn).1 (n+3) m:=by
 have a:=h.mono (Nat.le_add_right n 3) (Xi m)
 unfold tailS
 split
 ·exact a
 split
 ·exact a
 dsimp only
 split
 ·exact a
 split
 ·exact((h.body _ _).tell _ _ _ _ _).over _ 6 (by omega)
 ·exact((h.body _ _).tell _ _ _ _ _).mono (by omega) (Xi m)
structure Zcw (a:ZbQ):Prop where
 req:Zfz a.req
 ids:a.ids.length≤1000000
 time:0≤a.time∧a.time≤18446744073709551615
 tiny:Zaw a.headers
 bytes:a.bytes.length≤100000
theorem ZW.new (h:Zak c=true):ZW (newS c) 0 0:=
 ⟨by simp[newS],by simp[newS],by simp[newS],by simp[newS],by simp[newS,ZiI],by simp[newS],by simp[newS],by simp[newS],by simp[newS],by simp[newS],by simp[newS],by simp[newS],by simp[newS],by simp[newS],by simp[newS],by simp[newS],by simp[newS],by simp[newS],by simp[newS],h,by simp[newS]⟩
theorem Zdh (s sep:Bs):(Lib.cut s sep).1.length≤s.length∧(Lib.cut s sep).2.1.length≤s.length:=by
 unfold Lib.cut
 split
 ·exact⟨by rw[List.length_take];omega,by rw[List.length_drop];omega⟩
 ·exact⟨Xi _,by simp⟩
end Go.Lk
namespace Go.Proofs.YtbgbeddbfaopgaaGreatDoor
open Go.RowKit Go.Lk
theorem Zcr (hE:Env w) (s sep:Bs) (hs:s.length≤1000000):
  Calls Tryz.prog 171 #[.string ⟨s.toArray⟩, .string ⟨sep.toArray⟩] w fun e w'=>e= .returned (.tuple #[.string ⟨(Lib.cut s sep).1.toArray⟩, .string ⟨(Lib.cut s sep).2.1.toArray⟩, .bool (Lib.cut s sep).2.2])∧Zg [] w w':=by
 obtain⟨m,a⟩:=hE.m
 refine(Tryz.strings_Cut ⟨s.toArray⟩ ⟨sep.toArray⟩ m w (by simp[ByteArray.size];omega) a).mono ?_
 rintro e w' ⟨rfl,n,rfl⟩
 exact⟨rfl,(Zg.refl [] w).drewN n⟩
theorem ZaO (o:Zx):∀u∈Zz o,u.oneCell'=true:=by intro u hu;unfold Zz at hu;simp at hu;rcases hu with rfl|rfl|rfl<;>rfl
def ZhB (w:World) (r:Zx×Int) (e:Ending) (w':World):Prop:=e= .returned (.tuple #[.agg (Zz r.1).toArray, .int .i64 r.2])∧Zg [] w w'
theorem Ze4 {P:Prop}(h:P:=by
 have am:=D (I.upd m (by simp))
 have ar:=D (show(Zz o).toArray.all (·.oneCell')=true by rw[Xl,Xk];exact ZaO _)
 clear m
 cases ck with
 |false=>
  have g:=D (show R=(Zx.zero,3)by rw[s.out];rfl)
  go_wp2_with(refine Jo (Zz Zx.zero).toArray n a Q ?_)
  refine bodyPost_ret (v:= .tuple #[.agg (Zz Zx.zero).toArray, .int .i64 3]) (Zl _ Tryz.results104 (b:=w.heap.size) (o:=0) rfl rfl a (Zb.of_block (setRow_heap _ _ _ _ _ _ n))) rfl ?_
  rw[g.out]
  exact⟨rfl,H.setRow (.inl (Xi _)) _⟩
 |true=>
  have g:=D (show R=(o,0)by rw[s.out];rfl)
  go_wp2_with(first|refine Jl am a ?_|refine Jo (Zz o).toArray n a ar ?_)
  refine bodyPost_ret (v:= .tuple #[.agg (Zz o).toArray, .int .i64 0]) (Zl _ Tryz.results104 (b:=w.heap.size) (o:=0) rfl rfl a (Zb.of_block (setRow_heap _ _ _ _ _ _ n))) rfl ?_
  rw[g.out]
  exact⟨rfl,H.setRow (.inl (Xi _)) _⟩):P:=h
theorem ZdX (x:Bs) (w:World) (hx:x.length≤900000) (hE:Env w):
  Calls Tryz.prog 104 #[.string ⟨x.toArray⟩] w (ZhB w (Y5 x)):=by
 obtain⟨R,hR⟩:=Je (Y5 x)
 have av:=D hR
 rw[←hR]
 clear hR
 have HE:=D hE;clear hE
 have a:=D (show Zu Tryz.prog 207 3=true by kernel_rfl)
 have Q:=D (show(Zz Zx.zero).toArray.all (·.oneCell')=true by rw[Xl,Xk];exact ZaO _)
 obtain⟨w1,K⟩:=Je (w.alloc (.cells #[.string ⟨#[]⟩, .string ⟨#[]⟩, .int .i64 0] 207))
 have al:=Ja K
 have J:=Jh K
 change Hid _ at K al J
 by_cases P:512<x.length
 ·have hz:(512:Int)<(x.length:Int):=by omega
  have g:=D (show R=(Zx.zero,4)by rw[av.out];unfold Y5;rw[if_pos P])
  clear P
  go_enter Tryz.func104,Tryz.ntmps104
  go_upto_region 1 with fail
  rw[←K.out]
  go_wp2_with(refine Jo (Zz Zx.zero).toArray J a Q ?_)
  refine bodyPost_ret (v:= .tuple #[.agg (Zz Zx.zero).toArray, .int .i64 4]) (Zl _ Tryz.results104 (b:=w.heap.size) (o:=0) rfl rfl a (Zb.of_block (setRow_heap _ _ _ _ _ _ J))) rfl ?_
  rw[g.out]
  exact⟨rfl,al.setRow (.inl (Xi _)) _⟩
 have hz:¬(512:Int)<(x.length:Int):=by omega
 obtain⟨N,Y⟩:=Je (Yx x)
 have q1:=YJ x w1 (by omega)
 rw[←Y]at q1
 have aL:N.length≤900000:=by rw[Y,Zgm];exact hx
 obtain⟨c,hc⟩:=Je (Lib.cut N [58,47,47])
 have ap:=Zdh N [58,47,47]
 have ay:∀W,Env W→Calls Tryz.prog 171 #[.string ⟨N.toArray⟩, .string ⟨#[58,47,47]⟩] W fun e w'=>e= .returned (.tuple #[.string ⟨c.1.toArray⟩, .string ⟨c.2.1.toArray⟩, .bool c.2.2])∧Zg [] W w':=fun W hW=>by rw[hc];exact Zcr hW N [58,47,47] (by omega)
 rw[←hc]at ap
 have C:=D (show R=if !c.2.2 then(Zx.zero,3)else
   (if Y6 ⟨c.1,(Lib.cut c.2.1 [58]).1,if(Lib.cut c.2.1 [58]).2.2 then Ze0 (Lib.cut c.2.1 [58]).2.1 else YX c.1⟩then(⟨c.1,(Lib.cut c.2.1 [58]).1,if(Lib.cut c.2.1 [58]).2.2 then Ze0 (Lib.cut c.2.1 [58]).2.1 else YX c.1⟩,0)else(Zx.zero,3))by
  rw[av.out];unfold Y5;rw[if_neg P,←Y,←hc])
 have Q1:=D q1;have ax:=D ay;have S:=D ap
 clear q1 ay ap hc Y P av
 go_enter Tryz.func104,Tryz.ntmps104
 go_upto_region 1 with fail
 rw[←K.out]
 go_wp2_with fail
 refine Q1.out.mono ?_
 rintro e w2 ⟨rfl,ab⟩
 have aG:=Jt al ab;have aH:=D ((ab.block w.heap.size (Jg J) (by simp)).trans J)
 clear ab Q1
 go_wp2_with fail
 refine(ax.out w2 (HE.upd0 aG)).mono ?_
 rintro e w3 ⟨rfl,ag⟩
 have ao:=Jt aG ag;have X:=D ((ag.block w.heap.size (Jg aH) (by simp)).trans aH)
 clear ag ax
 obtain⟨d,rest,ok⟩:=c
 dsimp only at C S
 cases ok with
 |false=>
  have g:=D (show R=(Zx.zero,3)by rw[C.out];rfl)
  go_wp2_with(refine Jo (Zz Zx.zero).toArray X a Q ?_)
  refine bodyPost_ret (v:= .tuple #[.agg (Zz Zx.zero).toArray, .int .i64 3]) (Zl _ Tryz.results104 (b:=w.heap.size) (o:=0) rfl rfl a (Zb.of_block (setRow_heap _ _ _ _ _ _ X))) rfl ?_
  rw[g.out]
  exact⟨rfl,ao.setRow (.inl (Xi _)) _⟩
 |true=>
 obtain⟨h,hh⟩:=Je (Lib.cut rest [58])
 have ac:=Zdh rest [58]
 have q4:=Zcr (HE.upd0 ao) rest [58] (by have:=S.out.2;omega)
 rw[←hh]at ac q4 C
 obtain⟨l,aj⟩:=Je (YX d)
 rw[←aj]at C
 have aF:∀W,Calls Tryz.prog 177 #[.string ⟨d.toArray⟩] W fun e w'=>e= .returned (.int .i64 l)∧w'=W:=fun W=>by rw[aj];exact Zc8 d W
 have Q4:=D q4;have ak:=D ac;have aA:=D aF
 clear q4 ac aF hh aj
 go_wp2_with fail
 refine Q4.out.mono ?_
 rintro e k ⟨rfl,ai⟩
 have aB:=Jt ao ai;have ae:=D ((ai.block w.heap.size (Jg X) (by simp)).trans X)
 clear ai Q4
 obtain⟨j,y,F⟩:=h
 dsimp only at C ak
 have ad:=D (show R=if Y6 ⟨d,j,if F then Ze0 y else l⟩then(⟨d,j,if F then Ze0 y else l⟩,0)else(Zx.zero,3)by rw[C.out];rfl)
 go_wp2_with fail
 refine(aA.out k).mono ?_
 rintro e wt ⟨rfl,L⟩
 rw[L];clear L wt aA
 have hp:(if F then Ze0 y else l)=(if F then Ze0 y else l):=rfl
 clear hp
 obtain⟨r,Z⟩:=Je ((k.alloc (.cells #[.string ⟨#[]⟩, .string ⟨#[]⟩, .int .i64 0] 207 (0,0))).setRow k.heap.size (Zz ⟨d,j,l⟩).toArray)
 have aC:=D (Za (w:=k) (.cells #[.string ⟨#[]⟩, .string ⟨#[]⟩, .int .i64 0] 207 (0,0)))
 have V:r.heap[k.heap.size]? =some (.cells (Zz ⟨d,j,l⟩).toArray 207 (0,0)):=by rw[Z];exact setRow_heap _ _ _ _ _ _ aC.out
 have ah:Zg [] k r:=by rw[Z];exact((Zg.refl [] k).alloc _).setRow (.inl (Xi _)) _
 have aM:=D (show(Zz ⟨d,j,l⟩).toArray.all (·.oneCell')=true by rw[Xl,Xk];exact ZaO _)
 have aw:=D V;have au:=Jt aB ah;have aa:=D ((ah.block w.heap.size (Jg ae) (by simp)).trans ae)
 have aI:=D (show k.heap.size≠w.heap.size by have:=(Jg ae);omega)
 have c2:=Jc 2 V
 have f2:r.frozen? ⟨k.heap.size,2,none⟩=false:=Zk V
 have aK:=D (show y.length≤1000000 by have:=ak.out.2;have:=S.out.2;omega)
 have aD:=D (show j.length≤900000 by have h1:=ak.out.1;have h2:=S.out.2;exact Xj h1 (Xj h2 aL))
 clear V ah;change Hid _ at Z
 go_upto_region 8 with(refine Jo (Zz ⟨d,j,l⟩).toArray aC a aM ?_;rw[←Z.out])
 obtain⟨O,af⟩:=Je k.heap.size
 rw[←af]at c2 f2 aw aI⊢
 change Hid _ at af
 cases F
 case false=>
  obtain⟨o,ho⟩:∃o:Zx,o=⟨d,j,l⟩:=⟨_,rfl⟩
  have s:=D (show R=if Y6 o then(o,0)else(Zx.zero,3)by rw[ad.out,ho];rfl)
  have aq:=D (show o.host.length≤900000 by rw[ho];exact aD)
  have M:=aw
  rw[←ho]at M
  have z:=ZbT o r aq (HE.upd0 au)
  obtain⟨ck,E⟩:=Je (Y6 o)
  rw[←E]at z s
  have I:=D (show Zb r O 0 (Zz o)from Zb.of_block M)
  have Q6:=D z
  clear z E ho c2 f2
  go_wp2_with(refine Jl I a ?_)
  refine Q6.out.mono ?_
  rintro e w7 ⟨rfl,m⟩
  have H:=Jt au m;have n:=D ((m.block w.heap.size (Jg aa) (by simp)).trans aa)
  exact Ze4
 case true=>
  have q5:=Zla y r aK.out
  obtain⟨p,hp⟩:=Je (Ze0 y)
  rw[←hp]at q5 ad
  have Q5:=D q5
  clear q5 hp
  go_wp2_with fail
  refine Q5.out.mono ?_
  rintro e wt ⟨rfl,L⟩
  rw[L];clear L wt Q5
  go_upto_region 10 with fail
  obtain⟨w6,T⟩:=Je (r.setCell ⟨O,2,none⟩ (.int .i64 p))
  have aJ:=D (show w6.heap[O]? =some (.cells (Zz ⟨d,j,p⟩).toArray 207 (0,0))by rw[T];exact(Ze (i:=2) aw _).trans rfl)
  have an:Zg [O] r w6:=by rw[T];exact(Zg.refl _ _).setCell (.inr (by simp)) _
  have az:=D ((au.weaken (G:=[]) (by simp)).trans an (fun q hq=> .inl (by rw[Jm hq,af.out];exact aB.size)))
  have aE:=D ((an.block w.heap.size (Jg aa) (by simpa using Ne.symm aI)).trans aa)
  rw[←T]
  clear T an c2 f2
  obtain⟨o,ho⟩:∃o:Zx,o=⟨d,j,p⟩:=⟨_,rfl⟩
  have s:=D (show R=if Y6 o then(o,0)else(Zx.zero,3)by rw[ad.out,ho];rfl)
  have aq:=D (show o.host.length≤900000 by rw[ho];exact aD)
  have M:=aJ
  rw[←ho]at M
  have z:=ZbT o w6 aq (HE.upd0 az)
  obtain⟨ck,E⟩:=Je (Y6 o)
  rw[←E]at z s
  have I:=D (show Zb w6 O 0 (Zz o)from Zb.of_block M)
  have Q6:=D z
  clear z E ho
  go_wp2_with(refine Jl I a ?_)
  refine Q6.out.mono ?_
  rintro e w7 ⟨rfl,m⟩
  have H:=Jt az m;have n:=D ((m.block w.heap.size (Jg aE) (by simp)).trans aE)
  exact Ze4
theorem Zng (c:UInt8):((c.toNat:Int).toNat.toUInt8)=c:=by simp
theorem ZoR (c:UInt8) (w:World):
  Calls Tryz.prog 313 #[.int .u8 c.toNat] w fun e w'=>e= .returned (.bool (ZdD c))∧w'=w:=by
 obtain⟨r,o⟩:=Je (ZdD c)
 have p:=D o
 rw[←o]
 clear o
 by_cases a:c=9
 ·have x:(c.toNat:Int)=9:=by rw[a];rfl
  have b:=D (show r=true by rw[p.out,a];rfl)
  clear a
  go_enter Tryz.func313,Tryz.ntmps313
  go_wp2_with fail
  go_ret
  exact⟨by rw[b.out];rfl,rfl⟩
 ·have x:¬(c.toNat:Int)=9:=fun h=>a (by
   have F:c.toNat=(9:UInt8).toNat:=by show c.toNat=9;omega
   exact UInt8.toNat_inj.1 F)
  have j:(c==9)=false:=by rw[beq_eq_false_iff_ne];exact a
  have C:((c.toNat:Int)==9)=false:=by rw[beq_eq_false_iff_ne];exact x
  by_cases k:32≤c.toNat
  ·have z:(32:Int)≤(c.toNat:Int):=by omega
   have q:= Tryz.strings_IndexByte ⟨#[34,40,41,58,60,62,63,64,91,92,93,123,125,127]⟩ (c.toNat:Int) w
   rw[Zng]at q
   obtain⟨g,l⟩:=Je (Lib.indexByte (⟨#[34,40,41,58,60,62,63,64,91,92,93,123,125,127]⟩:ByteArray).data.toList c)
   rw[←l]at q
   have y:=Zcj Zq1 c
   have t:g=Lib.indexByte Zq1 c:=l
   rw[←t]at y
   have b:=D (show r= !Zq1.contains c by rw[p.out];unfold ZdD;rw[j,decide_eq_true k];rfl)
   have Q:=D q
   clear q l t a j k
   rcases y with⟨s,i⟩|⟨s,i⟩
   ·have m:=D (show r=true by rw[b.out,i];rfl)
    have E:g<0:=by omega
    clear i s
    go_enter Tryz.func313,Tryz.ntmps313
    go_wp2_with fail
    refine Q.out.mono ?_
    rintro e n ⟨rfl,d⟩
    rw[d];clear d n Q
    go_wp2_with fail
    go_ret
    exact⟨by rw[m.out];rfl,rfl⟩
   ·have m:=D (show r=false by rw[b.out,i];rfl)
    have E:¬g<0:=by omega
    clear i s
    go_enter Tryz.func313,Tryz.ntmps313
    go_wp2_with fail
    refine Q.out.mono ?_
    rintro e n ⟨rfl,d⟩
    rw[d];clear d n Q
    go_wp2_with fail
    go_ret
    exact⟨by rw[m.out,show Value.bool false=Value.bool (decide (g<0))by rw[decide_eq_false (show¬g<0 by omega)]];rfl,rfl⟩
  ·have z:¬(32:Int)≤(c.toNat:Int):=by omega
   have b:=D (show r=false by rw[p.out];unfold ZdD;rw[j,decide_eq_false k];rfl)
   clear a j k
   go_enter Tryz.func313,Tryz.ntmps313
   go_wp2_with fail
   go_ret
   exact⟨by rw[b.out,show Value.bool false=Value.bool ((c.toNat:Int)==9)by rw[C]];rfl,rfl⟩
theorem Zpu:∀n:Fin 256,bits .or .u8 (n.val:Int) 32=((UInt8.ofNat n.val|||32).toNat:Int):=by decide+kernel
theorem ZrO (c:UInt8):bits .or .u8 (c.toNat:Int) 32=((c|||32).toNat:Int):=by
 have h:=Zpu ⟨c.toNat,c.toNat_lt⟩
 simp at h
 exact h
theorem ZnS (c:UInt8) (w:World):
  Calls Tryz.prog 314 #[.int .u8 c.toNat] w fun e w'=>e= .returned (.bool (Zhj c))∧w'=w:=by
 obtain⟨d,hd⟩:∃d:Nat,d=(c|||32).toNat:=⟨_,rfl⟩
 obtain⟨m,a⟩:=Je (([32,42,44,45,46,59,61]:Bs).contains c)
 obtain⟨r,k⟩:=Je (Zhj c)
 have p:=D (show r=((decide (97≤d)&&decide (d≤122))||(decide (48≤c.toNat)&&decide (c.toNat≤57))||m)by rw[k,hd,a];rfl)
 rw[←k]
 have h:=ZrO c
 rw[←hd]at h
 have y:=D h
 clear k hd h
 have q:= Tryz.strings_IndexByte ⟨#[32,42,44,45,46,59,61]⟩ (c.toNat:Int) w
 rw[Zng]at q
 obtain⟨s,g⟩:=Je (Lib.indexByte (⟨#[32,42,44,45,46,59,61]⟩:ByteArray).data.toList c)
 rw[←g]at q
 have j:=Zcj [32,42,44,45,46,59,61] c
 have n:s=Lib.indexByte [32,42,44,45,46,59,61] c:=g
 rw[←n,←a]at j
 have t:=D (show m=decide (0≤s)by
  rcases j with⟨i,l⟩|⟨i,l⟩
  ·rw[l,i];rfl
  ·rw[l,decide_eq_true i])
 have Q:=D q
 clear q g n j a
 go_enter Tryz.func314,Tryz.ntmps314
 go_upto_region 2 with fail
 rw[y.out]
 by_cases C:(97:Int)≤d<;>by_cases z:(d:Int)≤122<;>by_cases E:(48:Int)≤c.toNat<;>by_cases F:(c.toNat:Int)≤57<;>
  first
  |(
   have b:=D (show r=true by
    rw[p.out]
    first|rw[decide_eq_true (show 97≤d by omega)]|rw[decide_eq_false (show¬97≤d by omega)]
    first|rw[decide_eq_true (show d≤122 by omega)]|rw[decide_eq_false (show¬d≤122 by omega)]
    first|rw[decide_eq_true (show 48≤c.toNat by omega)]|rw[decide_eq_false (show¬48≤c.toNat by omega)]
    first|rw[decide_eq_true (show c.toNat≤57 by omega)]|rw[decide_eq_false (show¬c.toNat≤57 by omega)]
    exact rfl)
   go_wp2_with fail
   go_ret
   exact⟨by rw[b.out];rfl,rfl⟩)
  |(exfalso;omega)
  |(
   have b:=D (show r=m by
    rw[p.out]
    first|rw[decide_eq_true (show 97≤d by omega)]|rw[decide_eq_false (show¬97≤d by omega)]
    first|rw[decide_eq_true (show d≤122 by omega)]|rw[decide_eq_false (show¬d≤122 by omega)]
    first|rw[decide_eq_true (show 48≤c.toNat by omega)]|rw[decide_eq_false (show¬48≤c.toNat by omega)]
    first|rw[decide_eq_true (show c.toNat≤57 by omega)]|rw[decide_eq_false (show¬c.toNat≤57 by omega)]
    exact rfl)
   go_wp2_with fail
   refine Q.out.mono ?_
   rintro e x ⟨rfl,o⟩
   rw[o];clear o x Q
   go_wp2_with fail
   go_ret
   exact⟨by rw[b.out,t.out];rfl,rfl⟩)
theorem ZkX (x:Bs) (P:UInt8→Bool) (g:FuncId) (w:World) (hx:x.length≤1000000) (eg:∀args w,(callFunc g args).run Tryz.prog w= .ok (.enter g args) w)
  (hP:∀(c:UInt8) (W:World),Calls Tryz.prog g #[.int .u8 c.toNat] W fun e w'=>e= .returned (.bool (P c))∧w'=W):
  Calls Tryz.prog 312 #[.string ⟨x.toArray⟩, .func (.func g) #[] #[]] w fun e w'=>e= .returned (.bool (x.all P))∧w'=w:=by
 obtain⟨r,l⟩:=Je (x.all P)
 have C:=D l
 have I:=D hP
 rw[←l]
 clear l hP
 go_enter Tryz.func312,Tryz.ntmps312
 go_wp2_with fail
 go_loopw[8] (fun v8 wr=>∃(k:Nat),k≤x.length∧v8= .int .i64 k∧Hid ((x.take k).all P=true)∧wr=w) (fun v8 _=>x.length-(intOf v8).toNat)
 case atStart=>exact⟨0,by omega,rfl,D rfl,rfl⟩
 case round=>
  obtain⟨k,J,rfl,s,rfl⟩:=hrel
  by_cases j:k<x.length
  ·obtain⟨y,d⟩:=Je (x[k])
   have hg:=Zar x k j
   rw[←d]at hg
   have z:x.take (k+1)=x.take k++[y]:=by rw[Xr j,d]
   have p:y∈x:=by rw[d];exact List.getElem_mem j
   obtain⟨b,a⟩:=Je (P y)
   have o:b=false→r=false:=fun m=>by
    rw[C.out,Bool.eq_false_iff]
    intro h
    have:=(Xk.1 h) y p
    rw[←a,m]at this;cases this
   have n:b=true→(x.take (k+1)).all P=true:=fun m=>by rw[z,List.all_append,s.out];simp[←a,m]
   have F:=D o;have E:=D n
   have q:=I.out y wr
   rw[←a]at q
   have Q:=D q
   clear z p d o n q a
   go_wp2_with fail
   refine Q.out.mono ?_
   rintro e G ⟨rfl,t⟩
   rw[t];clear t G Q
   cases b with
   |true=>
    have H:=D (E.out rfl)
    go_wp2_with fail
    exact⟨⟨k+1,by omega,by go_num,H,by trivial⟩,by simp[intOf];omega⟩
   |false=>
    have i:=D (F.out rfl)
    go_wp2_with fail
    go_ret
    exact⟨by rw[i.out];rfl,by trivial⟩
  ·obtain rfl:k=x.length:=by omega
   have i:=D (show r=true by have h:=s.out;rw[Xm]at h;rw[C.out,h])
   go_wp2_with fail
   go_ret
   exact⟨by rw[i.out];rfl,by trivial⟩
end Go.Proofs.YtbgbeddbfaopgaaGreatDoor
