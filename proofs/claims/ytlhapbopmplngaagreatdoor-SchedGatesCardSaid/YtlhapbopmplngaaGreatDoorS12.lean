import Derived.Test.YtlhapbopmplngaaGreatDoorS5
set_option linter.all false
set_option maxHeartbeats 16000000
set_option maxRecDepth 100000
set_option autoImplicit true
set_option relaxedAutoImplicit true
namespace Go.Lk
def Zan (l:List (Bs×Bs)):Prop:=l.length≤100∧∀x∈l,x.1.length≤5000∧x.2.length≤5000
structure Zfv (r:Ya):Prop where
 m:r.method.length≤900000
 u:r.url.length≤900000
 o:r.origin.length≤900000
 h:r.headers.length≤100000
 hs:∀x∈r.headers,x.1.length≤900000∧x.2.length≤900000
 t:0≤r.timeout∧r.timeout≤18446744073709551615
structure ZcX (f:ZC):Prop where
 req:Zfv f.req
 since:f.since≤18446744073709551615
 body:f.state=5→f.body≠none
 key:f.key.length≤1000000
structure ZQ (s:Ze) (n m:Nat):Prop where
 log:s.log.length≤n
 pres:s.pres.length≤n
 tl:0≤s.tlast∧s.tlast≤n
 sl:0≤s.slast∧s.slast≤n
 pl:s.pool.last≤n
 all:s.all.length≤m
 fs:∀f∈s.all,ZcX f
 q:s.queue.length≤128
 qs:∀i∈s.queue,i.since≤18446744073709551615
 tm:s.timers.length≤256
 gl:s.groups.length≤64
 gm:∀g∈s.groups,g.members.length≤m∧g.members.Pairwise (·<·)
 sg:s.signals.length≤64
 sp:∀x∈s.signals,x.parents.length≤1000000
 sh:(s.shares.map (·.members.length)).sum≤64
 sn:s.shares.length≤n
 bk:s.book.length≤64
 ca:s.cache.length≤64
 now:s.now≤18446744073709551615
 conf:Zbu s.conf=true
 made:s.made=s.groups.length
def ZQ.mono {n m n' m':Nat} (h:ZQ s n m) (hn:n≤n') (hm:m≤m'):ZQ s n' m':=
 {h with
  log:=Xj h.log hn,pres:=Xj h.pres hn,tl:=⟨h.tl.1,by have:=h.tl.2;omega⟩,sl:=⟨h.sl.1,by have:=h.sl.2;omega⟩,pl:=by have:=h.pl;omega
  all:=Xj h.all hm,gm:=fun g hg=>⟨Xj (h.gm g hg).1 hm,(h.gm g hg).2⟩,sn:=Xj h.sn hn}
def ZQ.tell (h:ZQ s n m) (a b c d e:Int):ZQ (ZI s a b c d e) (n+1) m:=
 {h.mono (Nat.le_succ n) (Xi m)with log:=by show(s.log++_).length≤_;rw[Xd];have:=h.log;simp;exact this}
def ZmT {α:Type} {l:List α} {g:α→α} {x:α} (h:x∈l.modify i g):∃y∈l,x=y∨x=g y:=by
 obtain⟨j,a⟩:=List.getElem?_of_mem h
 rw[List.getElem?_modify]at a
 cases hl:l[j]? with
 |none=>rw[hl]at a;simp at a
 |some y=>
  rw[hl]at a
  refine⟨y,Xc hl,?_⟩
  simp only[Option.map_eq_map,Option.map_some,Option.some.injEq]at a
  split at a
  ·exact .inr a.symm
  ·exact .inl a.symm
def ZQ.setF (h:ZQ s n m) (id:Int) {g:ZC→ZC} (hg:∀f,ZcX f→ZcX (g f)):ZQ (Lk.setF s id g) n m:=
 {h with
  all:=by show(s.all.modify _ g).length≤m;rw[List.length_modify];exact h.all
  fs:=fun f hf=>by
   obtain⟨y,hy,rfl|rfl⟩:=ZmT hf
   ·exact h.fs _ hy
   ·exact hg _ (h.fs _ hy)}
def ZqK {i x:ZL} (h:x∈putQ q i):x∈q∨x=i:=by
 unfold putQ at h
 repeat' split at h
 all_goals first|exact .inl h|(rcases List.mem_append.1 h with h|h;exact .inl h;exact .inr (by simpa using h))
def ZqY {q:List ZL} (h:q.length≤128):(putQ q i).length≤128:=by
 unfold putQ
 repeat' split
 all_goals first|exact h|(rw[Xd];simp;omega)
def ZoH (q:List ZL) (id:Int):(dropQ q id).length≤q.length:=by
 unfold dropQ;split
 ·exact(ZgT _ _).length_le
 ·exact Xi _
def Zon {id:Int} {x:ZL} (h:x∈dropQ q id):x∈q:=by
 unfold dropQ at h;split at h
 ·exact ZjD h
 ·exact h
def ZQ.putQ (h:ZQ s n m) {i:ZL} (hi:i.since≤18446744073709551615):ZQ {s with queue:=Lk.putQ s.queue i} n m:=
 {h with q:=ZqY h.q,qs:=fun x hx=>by rcases ZqK hx with h1|rfl;exact h.qs x h1;exact hi}
def ZQ.dropQ (h:ZQ s n m) (id:Int):ZQ {s with queue:=Lk.dropQ s.queue id} n m:=
 {h with q:=Xj (ZoH _ _) h.q,qs:=fun x hx=>h.qs x (Zon hx)}
def Zmo (p:Zam) (num:Int) (now:Nat) (keep:Bool):(giveP p num now keep).last=p.last:=by
 unfold giveP;repeat' split
 all_goals rfl
def Zmv (p:Zam) (key:Bs) (now:Nat):(ZaO p key now).1.last=p.last∨(ZaO p key now).1.last=p.last+1:=by
 unfold ZaO expireP
 dsimp only
 repeat' split
 all_goals first|exact .inl rfl|exact .inr rfl
def ZQ.giveP (h:ZQ s n m) (num:Int) (now:Nat) (keep:Bool):ZQ {s with pool:=Lk.giveP s.pool num now keep} n m:=
 {h with pl:=by show(Lk.giveP _ _ _ _).last≤_;rw[Zmo];exact h.pl}
def ZcX.upd {f f':ZC} (h:ZcX f) (e1:f'.req=f.req) (e2:f'.since≤18446744073709551615) (e3:f'.state=5→f'.body≠none) (e4:f'.key=f.key):ZcX f':=
 ⟨by rw[e1];exact h.req,e2,e3,by rw[e4];exact h.key⟩
def ZcS {a c:Int} (hc:c≠5) (h:goL a c=5):a=5:=by
 unfold goL at h;split at h
 ·exact absurd h hc
 ·exact h
def ZeH (h:ZQ s n m) {id:Int} (hf:YN s id=some f):ZcX f:=by
 obtain⟨_,_,a⟩:=ZaS hf
 exact h.fs f (Xc a)
def ZQ.open (h:ZQ s n m) (id:Int):ZQ (openS s id) (n+1) m:=by
 unfold openS
 have b:ZQ (Lk.setF s id fun f=>{f with state:=goL f.state 2,since:=s.now}) n m:=h.setF id fun f a=>a.upd rfl h.now (fun e=>a.body (ZcS (by omega) e)) rfl
 have i:(Lk.setF s id fun f=>{f with state:=goL f.state 2,since:=s.now}).now=s.now:=rfl
 generalize(Lk.setF s id fun f=>{f with state:=goL f.state 2,since:=s.now})=s1 at b i⊢
 dsimp only
 split
 ·exact b.mono (Nat.le_succ n) (Xi m)
 rename_i f a
 have g:=ZeH b a
 have c:ZQ {s1 with queue:=Lk.putQ s1.queue (Zbj f)} n m:=b.putQ g.since
 have d:∀(s:Ze) (k:Nat) (x:Int),ZQ s k m→ZQ (Lk.setF s id fun f=>{f with timer:=x}) k m:=fun s k x h=>h.setF id fun f a=>a.upd rfl a.since a.body rfl
 split
 ·exact d _ _ _ (c.mono (Nat.le_succ n) (Xi m))
 ·rename_i ht
  refine d _ _ _ {c.mono (Nat.le_succ n) (Xi m)with tl:= ?_,tm:= ?_}
  ·have:=c.tl;dsimp only at this⊢;omega
  ·show(s1.timers++[_]).length≤256;rw[Xd];simp;omega
def ZQ.forget (h:ZQ s n m) (p:ZG) (keep:Bool):ZQ (forgetS s p keep) n m:=by
 unfold forgetS
 have b:∀a:Ze,ZQ a n m→ZQ {a with pres:=a.pres.filter fun x=>x.num !=p.num} n m:=fun a c=>{c with pres:=Xj (Xq _ _) c.pres}
 dsimp only
 split
 ·exact b _ (h.giveP _ _ _)
 ·exact b _ (h.dropQ _)
def ZnI {l:List ZE} {i:Nat} (ho:l[i]? =some o) (o':ZE):((l.set i o').map (·.members.length)).sum+o.members.length=(l.map (·.members.length)).sum+o'.members.length:=by
 induction l generalizing i with
 |nil=>simp at ho
 |cons a l ih=>
  cases i with
  |zero=>simp at ho;subst ho;simp;omega
  |succ i=>simp at ho;have:=ih ho;simp at this⊢;omega
def Zpj (l:List ZE) (i:Nat):((l.eraseIdx i).map (·.members.length)).sum≤(l.map (·.members.length)).sum:=by
 induction l generalizing i with
 |nil=>simp
 |cons a l ih=>
  cases i with
  |zero=>simp
  |succ i=>have:=ih i;simp at this⊢;omega
def ZQ.sharesDel (h:ZQ s n m) (i:Nat):ZQ {s with shares:=Y6 s.shares i} n m:=
 {h with sh:=by show(((Y6 s.shares i)).map _).sum≤64;rw[Z7];exact Xj (Zpj _ _) h.sh,sn:=Xj (ZgT _ _).length_le h.sn}
def ZQ.leave (h:ZQ s n m) (id:Int):ZQ (leaveS s id) (n+1) m:=by
 unfold leaveS
 have b:ZQ (Lk.setF s id fun f=>{f with pre:=0}) n m:=h.setF id fun f c=>c.upd rfl c.since c.body rfl
 generalize(Lk.setF s id fun f=>{f with pre:=0})=s1 at b⊢
 have a:=b.mono (Nat.le_succ n) (Xi m)
 dsimp only
 split
 ·exact a
 split
 ·exact a
 rename_i o ho
 split
 ·refine{a with sh:= ?_,sn:= ?_}
  ·show((s1.shares.set _ _).map _).sum≤64
   have e:=ZnI ho {o with members:=o.members.filter fun x=>x !=id}
   have:=a.sh
   have d:=Xq (fun x=>x !=id) o.members
   dsimp only at e
   omega
  ·show(s1.shares.set _ _).length≤_;rw[List.length_set];exact a.sn
 ·split
  ·exact(b.sharesDel _).mono (Nat.le_succ n) (Xi m)
  ·exact((b.sharesDel _).tell _ _ _ _ _).forget _ _
def Zd8 (gs:List ZT) (id:Int):(ZaQ gs id).length=gs.length:=by
 unfold ZaQ;repeat' split
 all_goals first|rfl|exact List.length_set
def Zih {gs:List ZT} {id:Int} {m:Nat} (h:∀g∈gs,g.members.length≤m∧g.members.Pairwise (·<·)):∀g∈ZaQ gs id,g.members.length≤m∧g.members.Pairwise (·<·):=by
 unfold ZaQ;repeat' split
 all_goals first|exact h|skip
 rename_i i _ _ g hg
 intro x hx
 rcases List.mem_or_eq_of_mem_set hx with hx|rfl
 ·exact h x hx
 ·have:=h g (Xc hg)
  exact⟨Xj List.length_erase_le this.1,this.2.sublist (List.erase_sublist)⟩
def Zjv (l:List Y4) (id:Int):(Zg4 l id).length≤l.length:=by
 unfold Zg4
 split
 ·exact(ZgT l _).length_le
 ·exact Xi _
def ZQ.over (h:ZQ s n m) (id state:Int) (hst:state≠5):ZQ (overS s id state) (n+2) m:=by
 unfold overS
 have i:=h.mono (Nat.le_add_right n 2) (Xi m)
 split
 ·exact i
 rename_i f a
 split
 ·exact i
 have j:ZQ (Lk.setF s id fun f=>{f with ended:=true,state:=goL f.state state}) n m:=h.setF id fun f a=>a.upd rfl a.since (fun e=>a.body (ZcS hst e)) rfl
 have b:=j.tell (state-6+14) id 0 f.conn 0
 generalize ZI (Lk.setF s id fun f=>{f with ended:=true,state:=goL f.state state}) (state-6+14) id 0 f.conn 0=s1 at b⊢
 have c:ZQ {s1 with timers:=s1.timers.filter (fun t=>t.id !=f.timer),groups:=ZaQ s1.groups id,book:=Zg4 s1.book id} (n+1) m:=
  {b with
   tm:=Xj (Xq _ _) b.tm
   gl:=(Zd8 s1.groups id).symm▸b.gl
   gm:=Zih b.gm
   bk:=Xj (Zjv _ _) b.bk
   made:=b.made.trans (by show(_:Int)=((ZaQ s1.groups id).length:Nat);rw[Zd8])}
 dsimp only
 have d:=fun(s:Ze) (h:ZQ s (n+1) m)=>h.mono (Nat.le_succ (n+1)) (Xi m)
 split
 ·exact d _ (c.dropQ id)
 split
 ·refine d _ (ZQ.setF (c.giveP f.conn s1.now (state==6)) id (g:=fun f=>{f with body:=f.body.map Za4,conn:=0}) fun f a=>⟨a.req,a.since,fun e=> ?_,a.key⟩)
  have:=a.body e
  dsimp only
  cases hb:f.body with
  |none=>exact absurd hb this
  |some x=>simp
 split
 ·exact c.leave id
 ·exact d _ c
def ZlM {l:List Int} {x:Int} (h:∀y∈l,y<x):ZrH l x=l++[x]:=by
 unfold ZrH
 have b:l.takeWhile (fun y=>decide (y<x))=l:=by
  induction l with
  |nil=>rfl
  |cons a l ih=>rw[List.takeWhile_cons_of_pos (by simpa using h a (by simp)),ih (fun y c=>h y (by simp[c]))]
 have d:l.dropWhile (fun y=>decide (y<x))=[]:=by
  have:=List.takeWhile_append_dropWhile (p:=fun y=>decide (y<x)) (l:=l)
  rw[b]at this
  simpa using this
 rw[b,d];simp
def Ze7 (gs:List ZT) (g id:Int):(Zcr gs g id).length=gs.length:=by
 unfold Zcr;repeat' split
 all_goals first|rfl|exact List.length_set
def ZjH {gs:List ZT} {g id:Int} {m k:Nat} (h:∀x∈gs,x.members.length≤m∧x.members.Pairwise (·<·)) (hv:∀x∈gs,∀i∈x.members,1≤i∧i≤(k:Int)) (hid:(k:Int)<id):
  ∀x∈Zcr gs g id,x.members.length≤m+1∧x.members.Pairwise (·<·):=by
 have f:∀x∈gs,x.members.length≤m+1∧x.members.Pairwise (·<·):=fun x hx=>⟨Nat.le_succ_of_le (h x hx).1,(h x hx).2⟩
 unfold Zcr;repeat' split
 all_goals first|exact f|skip
 rename_i x hx _
 have d:=Xc hx
 have e:∀y∈x.members,y<id:=fun y j=>by have:=(hv x d y j).2;omega
 intro z c
 rcases List.mem_or_eq_of_mem_set c with c|rfl
 ·exact f z c
 ·dsimp only
  rw[ZlM e]
  refine⟨by rw[Xd];simp;exact(h x d).1,List.pairwise_append.2 ⟨(h x d).2,by simp,fun a ha b l=> ?_⟩⟩
  rw[Jm l];exact e a ha
def ZfR (s:Bs):(Yu s).length=s.length:=by simp[Yu]
def Zav (s:Bs):(YL s).length≤s.length:=by
 unfold YL
 rw[List.length_reverse]
 refine Xj (List.dropWhile_sublist _).length_le ?_
 rw[List.length_reverse]
 exact(List.dropWhile_sublist _).length_le
def Zji (s:Bs):(ZdB s).length≤s.length+7:=by
 unfold ZdB
 split
 ·unfold Zct
  cases h:ZdA.find? (fun m=>ZbU s m)with
  |none=>simp
  |some x=>
   have:=List.mem_of_find?_eq_some h
   simp only[ZdA,List.mem_cons,List.not_mem_nil,or_false]at this
   rcases this with rfl|rfl|rfl|rfl|rfl|rfl<;>simp<;>omega
 ·omega
def ZoJ (u:Z3):(Zgi u).length≤512:=by
 unfold Zgi
 split
 ·rename_i h
  unfold ZhN at h
  simp only[Bool.and_eq_true,decide_eq_true_eq]at h
  exact h.2
 ·simp
def Zb5 {o:Zs} (h:YY o=true):o.scheme.length≤5∧o.host.length≤253∧1≤o.port∧o.port≤65535:=by
 unfold YY Zhj at h
 simp only[Bool.and_eq_true,decide_eq_true_eq,bne_iff_ne]at h
 refine⟨?_,h.1.1.2.1,h.1.2,h.2⟩
 have:=h.1.1.1
 unfold YS at this
 split at this
 ·rename_i e;rw[e];decide
 ·split at this
  ·rename_i e;rw[e];decide
  ·exact absurd rfl this
def ZjX (o:Zs):(ZeA o).length≤300:=by
 unfold ZeA Zft
 split
 ·rename_i h
  simp only[Bool.and_eq_true]at h
  obtain⟨d,a,b,c⟩:=Zb5 h.1
  simp only[Xd,List.length_cons,List.length_nil];omega
 ·split
  ·rename_i h
   obtain⟨d,a,b,c⟩:=Zb5 h
   have:=Lib.itoa_length_le o.port (by omega) (by omega)
   simp only[Xd,List.length_cons,List.length_nil];omega
  ·simp
def Zqv (o:Zs):(Zft o).length≤300:=by
 unfold Zft
 split
 ·rename_i h
  obtain⟨c,b,d,a⟩:=Zb5 h
  have:=Lib.itoa_length_le o.port (by omega) (by omega)
  simp only[Xd,List.length_cons,List.length_nil];omega
 ·simp
def Zg6 (h:ZaZ r=0):(Yz r).2.2=true∧ZbI r=0∧(ZaJ r.url).2=0∧(YX r.origin).2=0:=by
 refine⟨by unfold Yz;rw[if_neg (by simp[h])],?_⟩
 unfold ZaZ at h
 dsimp only at h
 split at h
 ·rename_i a;exact absurd h (by simpa using a)
 split at h
 ·rename_i a;exact absurd h (by simpa using a)
 split at h
 ·rename_i a;exact absurd h (by simpa using a)
 rename_i a c b
 simp only[bne_iff_ne,ne_eq,Decidable.not_not]at a c b
 exact⟨b,a,c⟩
def Zk2 (h:Zcx s=0):s.length≤32:=by
 unfold Zcx at h
 split at h
 ·cases h
 ·rename_i a
  simp only[Bool.or_eq_true,decide_eq_true_eq,not_or]at a
  omega
def Zko (h:ZbI r=0):Zcx r.method=0∧ZbW r.headers=0∧1≤r.cls∧r.cls≤6∧r.timeout≤600∧0≤r.group∧0≤r.signal∧(r.mode=1∨r.mode=2∨r.mode=3):=by
 unfold ZbI at h
 split at h
 ·rename_i d;exact absurd h (by simpa using d)
 split at h
 ·cases h
 split at h
 ·rename_i d;exact absurd h (by simpa using d)
 split at h
 ·cases h
 split at h
 ·cases h
 split at h
 ·cases h
 rename_i d e f i g j
 simp only[bne_iff_ne,ne_eq,Decidable.not_not]at d f
 refine⟨d,f,by omega,by omega,by omega,by omega,by omega,?_⟩
 simp only[Bool.not_eq_true',Bool.or_eq_false_iff,beq_eq_false_iff_ne,not_and,ne_eq,Classical.not_imp,Decidable.not_not]at e
 by_cases a:r.mode=1
 ·exact .inl a
 ·by_cases b:r.mode=2
  ·exact .inr (.inl b)
  ·exact .inr (.inr (by
   apply Decidable.byContradiction
   intro c
   have:=e (by simp[a,b])
   exact c this))
def ZjK (hr:Zfv r):Zfv (YJ r):=by
 unfold YJ
 split
 ·exact⟨by simp[Ya.zero],by simp[Ya.zero],by simp[Ya.zero],by simp[Ya.zero],by simp[Ya.zero],by simp[Ya.zero]⟩
 ·rename_i h
  have c:ZaZ r=0:=by
   unfold Yz at h
   split at h
   ·simp at h
   ·rename_i b;simpa using b
  have d:=Zk2 (Zko (Zg6 c).2.1).1
  refine⟨?_,?_,?_,?_,fun x hx=> ?_,hr.t⟩
  ·have:=Zji r.method;show(ZdB r.method).length≤_;omega
  ·have:=ZoJ (Yz r).1;show(Zgi (Yz r).1).length≤_;omega
  ·have:=ZjX (Yz r).2.1;show(ZeA (Yz r).2.1).length≤_;omega
  ·show(Zcy r.headers).length≤_;unfold Zcy;rw[Xb];exact hr.h
  ·obtain⟨y,a,rfl⟩:=List.mem_map.1 (show x∈Zcy r.headers from hx)
   have:=hr.hs y a
   have:=Zav y.2
   dsimp only
   rw[ZfR];omega
def Zld (r:Ya):(Zek r).length≤300:=by
 unfold Zek;split
 ·simp
 ·exact Zqv _
def ZQ.submit (h:ZQ s n m) (hs:Safe s) (hr:Zfv r):ZQ (submitS s r).1 (n+2) (m+1):=by
 have b:=h.mono (Nat.le_add_right n 2) (Nat.le_succ m)
 unfold submitS
 split
 ·exact b
 split
 ·exact b
 split
 ·exact b
 dsimp only
 split
 ·exact b
 split
 ·exact b
 rename_i e
 rw[not_or,not_or]at e
 have d:=h.mono (Nat.le_succ n) (Nat.le_succ m)
 have c:ZQ {ZI {s with book:=s.book++[⟨s.all.length+1,r.group,Zek r⟩],all:=s.all++[⟨s.all.length+1,YJ r,Zek r,1,0,0,false,0,0,none,false⟩]} 1 (s.all.length+1) 0 0 r.cls with groups:=Zcr s.groups r.group (s.all.length+1)} (n+1) (m+1):=
  {d with
   log:=by show(s.log++[_]).length≤_;rw[Xd];have:=h.log;simp;exact this
   all:=by show(s.all++[_]).length≤_;rw[Xd];have:=h.all;simp;exact this
   fs:=fun f a=>by
    rcases List.mem_append.1 a with a|a
    ·exact h.fs f a
    ·rw[Jm a]
     exact⟨ZjK hr,by simp,by simp,by have:=Zld r;show(Zek r).length≤_;omega⟩
   gl:=(Ze7 s.groups r.group _).symm▸h.gl
   gm:=ZjH h.gm hs.2.grp (by omega)
   bk:=by show(s.book++[_]).length≤_;rw[Xd];simp;omega
   made:=h.made.trans (by show(_:Int)=((Zcr s.groups r.group _).length:Nat);rw[Ze7])}
 split
 ·exact c.open _
 ·exact c.mono (Nat.le_succ _) (Xi _)
def ZQ.activate (h:ZQ s n m) (id:Int):ZQ (activateS s id).1 (n+2) m:=by
 have a:=h.mono (Nat.le_add_right n 2) (Xi m)
 unfold activateS
 split
 ·exact a
 split
 ·exact a
 ·exact(h.tell _ _ _ _ _).open _
theorem ZiK {β:Type} {g:Ze→β→Ze} {k m:Nat} (hg:∀s x n,ZQ s n m→ZQ (g s x) (n+k) m):∀(l:List β) {s:Ze} {n:Nat},ZQ s n m→ZQ (l.foldl g s) (n+k*l.length) m
 |[],s,n,h=>by simpa using h
 |x::l,s,n,h=>by
  have:=ZiK hg l (hg s x n h)
  rw[List.foldl_cons,List.length_cons,Nat.mul_succ,show n+(k*l.length+k)=n+k+k*l.length by omega];exact this
theorem Zjx {β:Type} {g:Ze×Int→β→Ze×Int} {k m:Nat} (hg:∀s x n,ZQ s.1 n m→ZQ (g s x).1 (n+k) m):∀(l:List β) {s:Ze×Int} {n:Nat},ZQ s.1 n m→ZQ (l.foldl g s).1 (n+k*l.length) m
 |[],s,n,h=>by simpa using h
 |x::l,s,n,h=>by
  have:=Zjx hg l (hg s x n h)
  rw[List.foldl_cons,List.length_cons,Nat.mul_succ,show n+(k*l.length+k)=n+k+k*l.length by omega];exact this
def ZQ.late:∀(k:Nat) {s:Ze} {n:Nat} (h:ZQ s n m) (c:Int),ZQ (lateS k s c).1 (n+2*k) m
 |0,s,n,h,c=>by unfold lateS;simpa using h
 |k+1,s,n,h,c=>by
  have h0:=h.mono (Nat.le_add_right n (2*(k+1))) (Xi m)
  unfold lateS
  split
  ·exact h0
  split
  ·exact h0
  rename_i t _ _
  have h1:ZQ {s with timers:=s.timers.filter fun x=>x.id !=t.id} n m:={h with tm:=Xj (Xq _ _) h.tm}
  have h2:=ZQ.late k (h1.over t.tag 10 (by omega)) (c+1)
  exact h2.mono (by omega) (Xi m)
def ZhX (a c:Nat):addT a c≤18446744073709551615:=by unfold addT;split<;>omega
def ZQ.tick (h:ZQ s n m) (k:Nat):ZQ (tickS s k).1 (n+512) m:=by
 unfold tickS
 dsimp only
 have c:ZQ {s with now:=addT s.now k} n m:={h with now:=ZhX _ _}
 have b:=ZQ.late s.timers.length c 0
 have a:=b.mono (n':=n+512) (by have:=h.tm;omega) (Xi m)
 exact{a with pl:=a.pl}
def ZjN (h:ZQ s n m) (w:Zdz) (id:Int):ZQ (Zag s w id).1 (n+1) m:=by
 have a:=h.mono (Nat.le_succ n) (Xi m)
 unfold Zag
 split
 ·exact a
 rename_i b
 rw[not_or,not_or]at b
 split
 ·rename_i i c
  split
  ·rename_i o ho
   have e:=ZnI ho {o with members:=o.members++[id]}
   dsimp only at e
   rw[Xd,List.length_singleton]at e
   refine{a with sh:= ?_,sn:=by show(s.shares.set _ _).length≤_;rw[List.length_set];exact a.sn}
   show((s.shares.set _ _).map _).sum≤64
   omega
  ·exact a
 ·refine{a with sl:= ?_,sh:= ?_,sn:= ?_}
  ·have:=h.sl;dsimp only;omega
  ·show((s.shares++[_]).map _).sum≤64
   rw[Xs,List.sum_append];simp;omega
  ·show(s.shares++[_]).length≤_;rw[Xd];have:=h.sn;simp;exact this
def ZQ.hold (h:ZQ s n m) (f:ZC) (i:ZL) (hi:i.since≤18446744073709551615):ZQ (holdS s f i) (n+2) m:=by
 unfold holdS
 have a:=ZjN h (ZbT f.req) f.id
 generalize Zag s (ZbT f.req) f.id=j at a⊢
 dsimp only
 have d:ZQ (Lk.setF j.1 f.id fun f=>{f with state:=goL f.state 3,pre:=j.2.1}) (n+1) m:=a.setF f.id fun f b=>b.upd rfl b.since (fun e=>b.body (ZcS (by omega) e)) rfl
 have c:=d.tell 3 f.id j.2.1 0 0
 have k:(ZI (Lk.setF j.1 f.id fun f=>{f with state:=goL f.state 3,pre:=j.2.1}) 3 f.id j.2.1 0 0).now=j.1.now:=rfl
 split
 ·have g:ZQ {ZI (Lk.setF j.1 f.id fun f=>{f with state:=goL f.state 3,pre:=j.2.1}) 3 f.id j.2.1 0 0 with pres:=j.1.pres++[⟨j.2.1,f.id,0,f.key⟩]} (n+2) m:=
   {c with pres:=by show(j.1.pres++[_]).length≤_;rw[Xd];have:=a.pres;simp;omega}
  exact g.putQ (i:={i with pre:=j.2.1,since:=j.1.now}) a.now
 ·exact c
def ZQ.depart (h:ZQ s n m) (i:ZL):ZQ (departS s i) (n+1) m:=by
 unfold departS
 have l:=Zmv s.pool i.key s.now
 generalize ZaO s.pool i.key s.now=t at l⊢
 dsimp only
 have p:∀k:Nat,n≤k→ZQ {s with pool:=t.1} (k+1) m:=fun k q=>{h.mono (Nat.le_succ_of_le q) (Xi m)with pl:=by have:=h.pl;dsimp only;omega}
 have o:∀(g:Ze) (a b c d e:Int),g.log.length≤n→ZQ g (n+1) m→ZQ (ZI g a b c d e) (n+1) m:=fun g a b c d e l r=>{r with log:=by show(g.log++[_]).length≤_;rw[Xd];simp;exact l}
 split
 ·refine o _ _ _ _ _ _ h.log {p n (Xi n)with pres:=by show(List.map _ s.pres).length≤_;rw[Xb];exact Nat.le_succ_of_le h.pres}
 ·exact o _ _ _ _ _ _ h.log ((p n (Xi n)).setF i.id fun f j=>j.upd rfl j.since (fun e=>j.body (ZcS (by omega) e)) rfl)
def ZQ.stepF:∀(k:Nat) {s:Ze} {n:Nat} (h:ZQ s n m) (shut:List Bs) (c:Int),ZQ (Lk.stepF k s shut c).1 (n+2*k) m
 |0,s,n,h,shut,c=>by unfold Lk.stepF;simpa using h
 |k+1,s,n,h,shut,c=>by
  have h0:=h.mono (Nat.le_add_right n (2*(k+1))) (Xi m)
  unfold Lk.stepF
  split
  ·exact h0
  rename_i i hi
  split
  ·exact(ZQ.stepF k h _ c).mono (by omega) (Xi m)
  have h1:ZQ {s with queue:=Lk.dropQ s.queue i.id} n m:=h.dropQ i.id
  have his:=h.qs i (Y1 hi)
  dsimp only
  split
  ·exact(ZQ.stepF k (h1.depart i) _ _).mono (by omega) (Xi m)
  ·rename_i f hf
   split
   ·exact(ZQ.stepF k (h1.hold f i his) _ _).mono (by omega) (Xi m)
   ·exact(ZQ.stepF k (h1.depart i) _ _).mono (by omega) (Xi m)
def ZQ.step (h:ZQ s n m):ZQ (stepS s).1 (n+800) m:=by
 unfold stepS
 exact(ZQ.stepF _ h [] 0).mono (by have:=h.q;omega) (Xi m)
def Zf4 {l:List ZE} {o:ZE} (h:o∈l):o.members.length≤(l.map (·.members.length)).sum:=by
 induction l with
 |nil=>cases h
 |cons a l ih=>
  rcases List.mem_cons.1 h with rfl|h
  ·simp
  ·have:=ih h;simp;omega
def ZQ.members (h:ZQ s n m) (num:Int):(((s.shares.find? fun o=>o.num==num).map (·.members)).getD []).length≤64:=by
 cases hf:s.shares.find? fun o=>o.num==num with
 |none=>simp
 |some o=>have:=Zf4 (List.mem_of_find?_eq_some hf);have:=h.sh;simp;omega
def ZQ.dropO (h:ZQ s n m) (num:Int):ZQ {s with shares:=match s.shares.findIdx? (fun o=>o.num==num)with|some i=>Y6 s.shares i|none=>s.shares} n m:=by
 split
 ·exact h.sharesDel _
 ·exact h
def ZQ.failed (h:ZQ s n m) (p:ZG) (state k:Int) (hst:state≠5):ZQ (failedS s p state k) (n+129) m:=by
 unfold failedS
 have b:=h.members p.num
 generalize((s.shares.find? fun o=>o.num==p.num).map (·.members)).getD []=l at b⊢
 dsimp only
 have c:=((h.tell 7 (l.headD 0) p.num p.conn k).forget p (state==8)).dropO p.num
 exact(ZiK (g:=fun a id=>overS a id state) (k:=2) (fun s x n h=>h.over x state hst) l c).mono (by omega) (Xi m)
def Zp3 {l:List Zp} {most:Int} {now:Nat} {k:Nat} (hl:l.length≤k) (hm:1≤most) (hk:most≤k):(ZcB l most e now).length≤k:=by
 have b:(ZiF l now).length≤k:=Xj (Xq _ _) hl
 unfold ZcB
 split
 ·exact hl
 dsimp only
 generalize ZiF l now=l1 at b⊢
 split
 ·split
  ·rw[List.length_set];exact b
  ·exact b
 ·rw[Xd]
  split
  ·rename_i m
   have f:Zdf l1<l1.length:=by
    have d:∀(r:List Nat) (a:Nat),(∀i∈r,i<l1.length)→a<l1.length→r.foldl (fun a i=>match l1[i]?,l1[a]? with|some e,some x=>if e.until_<x.until_ then i else a|_,_=>a) a<l1.length:=by
     intro r
     induction r with
     |nil=>intro a _ ha;exact ha
     |cons i r ih=>
      intro a c ha
      rw[List.foldl_cons]
      refine ih _ (fun j h=>c j (by simp[h])) ?_
      split
      ·split
       ·exact c i (by simp)
       ·exact ha
      ·exact ha
    exact d _ 0 (fun i g=>List.mem_range.1 g) (by omega)
   rw[Z7,List.length_eraseIdx,if_pos f];simp;omega
  ·simp;omega
def ZQ.puts (h:ZQ s n m) (now:Nat):∀(l:List Zp) (c:List Zp),c.length≤64→(l.foldl (fun c e=>ZcB c (max 1 (min s.conf.cache 64)) e now) c).length≤64
 |[],c,hc=>hc
 |e::l,c,hc=>by
  rw[List.foldl_cons]
  exact ZQ.puts h now l _ (Zp3 hc (by omega) (by omega))
def ZQ.judge (h:ZQ s n m) (p:ZG) (status:Int) (hs:List (Bs×Bs)):ZQ (judgeS s p status hs) (n+200) m:=by
 have r:=h.mono (Nat.le_add_right n 200) (Xi m)
 unfold judgeS
 have i:=h.members p.num
 dsimp only
 split
 ·exact r
 rename_i f b
 split
 ·exact(h.failed p 8 _ (by omega)).mono (by omega) (Xi m)
 generalize((s.shares.find? fun o=>o.num==p.num).map (·.members)).getD []=l at i b⊢
 have q:ZQ {s with cache:=(ZbO f.req (Zbg f.req status hs).1 s.now).foldl (fun c e=>ZcB c (max 1 (min s.conf.cache 64)) e s.now) s.cache} n m:={h with ca:=h.puts s.now _ _ h.ca}
 have g:=((q.tell 5 (l.headD 0) p.num p.conn 0).forget p true).dropO p.num
 refine(ZiK (k:=1) (fun a id n h=> ?_) l g).mono (by omega) (Xi m)
 have j:ZQ (Lk.setF a id fun f=>{f with cleared:=true,pre:=0,state:=goL f.state 2}) n m:=h.setF id fun f b=>b.upd rfl b.since (fun e=>b.body (ZcS (by omega) e)) rfl
 have d:=j.tell 6 id p.num 0 0
 split
 ·rename_i f b
  exact d.putQ (ZeH d b).since
 ·exact d
def ZQ.load (h:ZQ s n m) (g:Int):ZQ (loadS s g).1 (n+2*m) m:=by
 unfold loadS
 split
 ·exact h.mono (Nat.le_add_right _ _) (Xi m)
 dsimp only
 have b:((s.groups[(g-1).toNat]?.map (·.members)).getD []).length≤m:=by
  cases hg:s.groups[(g-1).toNat]? with
  |none=>simp
  |some x=>simpa using(h.gm x (Xc hg)).1
 refine(Zjx (k:=2) (fun a id n h=> ?_) _ (s:=(s,0)) h).mono (by omega) (Xi m)
 split
 ·split
  ·exact h.activate id
  ·exact h.mono (Nat.le_add_right _ _) (Xi m)
 ·exact h.mono (Nat.le_add_right _ _) (Xi m)
theorem ZQ.body (h:ZQ s n m) (id:Int) (st:ZaP):ZQ (Lk.setF s id fun f=>{f with body:=some st}) n m:=
 h.setF id fun f hf=>hf.upd rfl hf.since (fun _=>by simp) rfl
def ZQ.answer (h:ZQ s n m) (conn status:Int) (hs:List (Bs×Bs)):ZQ (answerS s conn status hs).1 (n+200) m:=by
 have b:=h.mono (Nat.le_add_right n 200) (Xi m)
 unfold answerS
 dsimp only
 split
 ·exact b
 split
 ·exact b
 split
 ·exact b
 split
 ·exact b
 split
 ·exact h.judge _ _ _
 ·split
  ·exact(h.over _ 8 (by omega)).mono (by omega) (Xi m)
  ·rename_i a _ _ _
   have d:ZQ (Lk.setF (ZI s 9 a.id 0 a.conn status) a.id fun f=>{f with state:=goL f.state 5,body:=some (Ze5 s.conf.high s.conf.low)}) (n+1) m:=(h.tell 9 a.id 0 a.conn status).setF a.id fun f c=>c.upd rfl c.since (fun _=>by simp) rfl
   exact d.mono (by omega) (Xi m)
 ·exact b
def ZQ.tail (h:ZQ s n m) (conn:Int):ZQ (tailS s conn).1 (n+3) m:=by
 have a:=h.mono (Nat.le_add_right n 3) (Xi m)
 unfold tailS
 split
 ·exact a
 split
 ·exact a
 dsimp only
 split
 ·exact a
 split
 ·exact((h.body _ _).tell _ _ _ _ _).over _ 6 (by omega)
 ·exact((h.body _ _).tell _ _ _ _ _).mono (by omega) (Xi m)
structure ZdS (a:ZaY):Prop where
 req:Zfv a.req
 ids:a.ids.length≤1000000
 time:0≤a.time∧a.time≤18446744073709551615
 tiny:Zan a.headers
 bytes:a.bytes.length≤100000
def ZQ.new (h:Zbu c=true):ZQ (newS c) 0 0:=
 ⟨by simp[newS],by simp[newS],by simp[newS],by simp[newS],by simp[newS,ZhK],by simp[newS],by simp[newS],by simp[newS],by simp[newS],by simp[newS],by simp[newS],by simp[newS],by simp[newS],by simp[newS],by simp[newS],by simp[newS],by simp[newS],by simp[newS],by simp[newS],h,by simp[newS]⟩
def Zou {α:Type} {l:List α} {i:Nat} {x:α} (h:l[i]? =some x) (g:α→α):l.modify i g=l.set i (g x):=by
 apply List.ext_getElem?
 intro j
 rw[List.getElem?_modify,List.getElem?_set]
 have a:=(Jk h)
 by_cases e:i=j
 ·subst e;rw[if_pos rfl,if_pos a,h];simp
 ·rw[if_neg e];simp[e]
def Zb0 {s:Ze} {i:Nat} (hf:s.all[i]? =some f):YN s ((i:Int)+1)=some f:=by
 have a:=(Jk hf)
 unfold YN
 rw[if_neg (by omega),show((i:Int)+1-1).toNat=i by omega,hf]
def Zd1 {id:Int} (h:YN s id=some f):∃i:Nat,id=(i:Int)+1∧s.all[i]? =some f:=by
 obtain⟨c,b,a⟩:=ZaS h
 exact⟨(id-1).toNat,by omega,a⟩
def YQ {s:Ze} {i:Nat} (hf:s.all[i]? =some f) (g:ZC→ZC):setF s ((i:Int)+1) g={s with all:=s.all.set i (g f)}:=by
 unfold setF
 rw[show((i:Int)+1-1).toNat=i by omega,Zou hf]
def ZM {l:List ZC} {i:Nat} (hf:l[i]? =some f):(l.set i f')[i]? =some f':=List.getElem?_set_self (Jk hf)
def Zia {α:Type} {p:α→Bool} {l:List α} {x:α} (h:l.find? p=some x):∃i:Nat,l[i]? =some x∧p x=true∧∀(j:Nat) (y:α),j<i→l[j]? =some y→p y=false:=by
 obtain⟨f,i,e,c,d⟩:=List.find?_eq_some_iff_getElem.1 h
 refine⟨i,by rw[Xa e,c],f,fun j y g b=> ?_⟩
 have a:=d j g
 obtain⟨m,k⟩:=List.getElem?_eq_some_iff.1 b
 rw[k]at a
 simpa using a
def Zra (h:Zkm a c=true):goL a c=c:=by unfold goL;rw[h];rfl
def ZpW (h:Zkm a c=false):goL a c=a:=by unfold goL;rw[h];rfl
def ZhL {s:Ze} {i:Nat} (hf:s.all[i]? =some f):openS s ((i:Int)+1)=
  (let f1:ZC:={f with state:=goL f.state 2,since:=s.now}
   let t:Nat:=if f.req.timeout=0∨(s.conf.timeout:Int)<f.req.timeout then s.conf.timeout else f.req.timeout.toNat
   if 256≤s.timers.length then{s with queue:=putQ s.queue (Zbj f1),all:=s.all.set i {f1 with timer:=0}}
   else{s with queue:=putQ s.queue (Zbj f1),timers:=s.timers++[⟨addT s.now t,s.tlast+1,(i:Int)+1⟩],tlast:=s.tlast+1,all:=s.all.set i {f1 with timer:=s.tlast+1}}):=by
 unfold openS
 dsimp only
 rw[YQ hf]
 have a:(s.all.set i {f with state:=goL f.state 2,since:=s.now})[i]? =some {f with state:=goL f.state 2,since:=s.now}:=ZM hf
 rw[Zb0 (s:={s with all:=s.all.set i {f with state:=goL f.state 2,since:=s.now}}) a]
 dsimp only
 split
 ·rw[YQ (s:={s with all:=s.all.set i {f with state:=goL f.state 2,since:=s.now},queue:=_}) a]
  simp only[List.set_set]
 ·rw[YQ (s:={s with all:=s.all.set i {f with state:=goL f.state 2,since:=s.now},queue:=_,timers:=_,tlast:=_}) a]
  simp only[List.set_set]
def Zll {s:Ze} {i:Nat} (hf:s.all[i]? =some f) (hq:s.shares.findIdx? (fun o=>o.members.contains ((i:Int)+1))=none):leaveS s ((i:Int)+1)={s with all:=s.all.set i {f with pre:=0}}:=by
 unfold leaveS
 dsimp only
 rw[YQ hf]
 dsimp only
 rw[hq]
def Zlc {s:Ze} {i k:Nat} {o:ZE} (hf:s.all[i]? =some f) (hq:s.shares.findIdx? (fun o=>o.members.contains ((i:Int)+1))=some k) (ho:s.shares[k]? =some o) (hm:0<(o.members.filter fun x=>x !=((i:Int)+1)).length):
  leaveS s ((i:Int)+1)={s with all:=s.all.set i {f with pre:=0},shares:=s.shares.set k {o with members:=o.members.filter fun x=>x !=((i:Int)+1)}}:=by
 unfold leaveS
 dsimp only
 rw[YQ hf]
 dsimp only
 rw[hq]
 dsimp only
 rw[ho]
 dsimp only
 rw[if_pos hm]
def ZlS {s:Ze} {i k:Nat} {o:ZE} {x:ZG} (hf:s.all[i]? =some f) (hq:s.shares.findIdx? (fun o=>o.members.contains ((i:Int)+1))=some k) (ho:s.shares[k]? =some o) (hm:¬0<(o.members.filter fun x=>x !=((i:Int)+1)).length)
  (hx:s.pres.find? (fun p=>p.num==o.num)=some x):
  leaveS s ((i:Int)+1)=forgetS (ZI {s with all:=s.all.set i {f with pre:=0},shares:=s.shares.eraseIdx k} 7 ((i:Int)+1) o.num x.conn 13) x false:=by
 unfold leaveS
 dsimp only
 rw[YQ hf]
 dsimp only
 rw[hq]
 dsimp only
 rw[ho]
 dsimp only
 rw[if_neg hm,Z7]
 rw[hx]
def overU (s0:Ze) (i:Nat) (f:ZC) (state:Int):Ze:=
 let t:=ZI {s0 with all:=s0.all.set i {f with state:=goL f.state state}} (state-6+14) ((i:Int)+1) 0 f.conn 0
 {t with timers:=t.timers.filter (fun x=>x.id !=f.timer),groups:=ZaQ t.groups ((i:Int)+1),book:=Zg4 t.book ((i:Int)+1)}
def Zc8 (s0:Ze) (i:Nat) (f:ZC) (state:Int):Ze:=
 let t:=overU s0 i f state
 if f.state=2 then{t with queue:=dropQ t.queue ((i:Int)+1)}
 else if f.state=4∨f.state=5 then{t with pool:=giveP t.pool f.conn t.now (state==6),all:=t.all.set i {f with state:=goL f.state state,body:=f.body.map Za4,conn:=0}}
 else if f.state=3 then leaveS t ((i:Int)+1)
 else t
def ZiR {s:Ze} {i:Nat} (hf:s.all[i]? =some f) (he:f.ended=true) (state:Int):overS s ((i:Int)+1) state=s:=by
 unfold overS
 rw[Zb0 hf]
 dsimp only
 rw[if_pos he]
def ZlX {s:Ze} {i:Nat} (hf:s.all[i]? =some f) (he:f.ended=false) (state:Int):
  overS s ((i:Int)+1) state=Zc8 {s with all:=s.all.set i {f with ended:=true}} i {f with ended:=true} state:=by
 unfold overS
 rw[Zb0 hf]
 dsimp only
 rw[if_neg (by rw[he];decide),YQ hf]
 unfold Zc8 overU
 dsimp only
 rw[List.set_set]
 have c:(s.all.set i {f with ended:=true,state:=goL f.state state})[i]? =some {f with ended:=true,state:=goL f.state state}:=ZM hf
 by_cases b:f.state=2
 ·rw[if_pos b,if_pos b]
 ·rw[if_neg b,if_neg b]
  by_cases a:f.state=4∨f.state=5
  ·rw[if_pos a,if_pos a]
   rw[YQ (s:={ZI {s with all:=s.all.set i {f with ended:=true,state:=goL f.state state}} (state-6+14) ((i:Int)+1) 0 f.conn 0 with timers:=_,groups:=_,book:=_,pool:=_}) c]
  ·rw[if_neg a,if_neg a]
def ZQ.overU (h:ZQ s n m) {i:Nat} (hf:s.all[i]? =some f) (st:Int) (hst:st≠5):ZQ (Lk.overU s i f st) (n+1) m:=by
 have b:ZQ (Lk.setF s ((i:Int)+1) fun f=>{f with state:=goL f.state st}) n m:=h.setF _ fun f hf=>hf.upd rfl hf.since (fun e=>hf.body (ZcS hst e)) rfl
 rw[YQ hf]at b
 have a:=b.tell (st-6+14) ((i:Int)+1) 0 f.conn 0
 exact{a with
  tm:=Xj (Xq _ _) a.tm
  gl:=(Zd8 _ _).symm▸a.gl
  gm:=Zih a.gm
  bk:=Xj (Zjv _ _) a.bk
  made:=a.made.trans (by show(_:Int)=((ZaQ _ _).length:Nat);rw[Zd8])}
def Safe.overU (h:Safe s) {i:Nat} (hf:s.all[i]? =some f) (st:Int):Safe (Lk.overU s i f st):=by
 have b:Safe (Lk.setF s ((i:Int)+1) fun f=>{f with state:=goL f.state st}):=h.setF _ fun f=>rfl
 rw[YQ hf]at b
 have a:=b.tell (st-6+14) ((i:Int)+1) 0 f.conn 0
 exact⟨a.1,(a.2.timers (fun t ht=> .inl ((List.mem_filter.1 ht).1))).groups (fun g hg x hx=>by
  obtain⟨d,c,e⟩:=ZhY hg
  exact a.2.grp d c x (e x hx))⟩
def ZeU (s:Ze) (x:ZG) (keep:Bool):(forgetS s x keep).all=s.all:=by
 unfold forgetS
 dsimp only
 split<;>rfl
def ZiP {s:Ze} {i:Nat} (hf:s.all[i]? =some f):(leaveS s ((i:Int)+1)).all=s.all.set i {f with pre:=0}:=by
 unfold leaveS
 dsimp only
 rw[YQ hf]
 dsimp only
 split
 ·rfl
 ·split
  ·rfl
  ·split
   ·rfl
   ·split
    ·rfl
    ·rw[ZeU];rfl
def Zj0 {s0:Ze} {i:Nat} (hf:s0.all[i]? =some f) (st:Int):(overU s0 i f st).all[i]? =some {f with state:=goL f.state st}:=ZM hf
def Zjw {s0:Ze} {i:Nat} (hf:s0.all[i]? =some f) (st:Int):∃f',(Zc8 s0 i f st).all[i]? =some f'∧f'.ended=f.ended:=by
 have a:=Zj0 hf st
 unfold Zc8
 dsimp only
 split
 ·exact⟨_,a,rfl⟩
 ·split
  ·exact⟨_,ZM a,rfl⟩
  ·split
   ·rw[ZiP a]
    exact⟨_,ZM a,rfl⟩
   ·exact⟨_,a,rfl⟩
def ZkJ {α:Type} {l:List α} {i:Nat} {x:α} (h:l[i]? =some x):l.set i x=l:=by
 apply List.ext_getElem?
 intro j
 rw[List.getElem?_set]
 by_cases e:i=j
 ·subst e;rw[if_pos rfl,if_pos (Jk h),h]
 ·rw[if_neg e]
def ZlK (s:Ze) (x:ZG) (keep:Bool):(forgetS s x keep).now=s.now∧(forgetS s x keep).timers=s.timers∧(forgetS s x keep).groups=s.groups∧(forgetS s x keep).signals=s.signals∧(forgetS s x keep).conf=s.conf∧(forgetS s x keep).made=s.made:=by
 unfold forgetS
 dsimp only
 split<;>exact⟨rfl,rfl,rfl,rfl,rfl,rfl⟩
def Znx (s:Ze) (id:Int):(leaveS s id).now=s.now∧(leaveS s id).timers=s.timers∧(leaveS s id).groups=s.groups∧(leaveS s id).signals=s.signals∧(leaveS s id).conf=s.conf∧(leaveS s id).made=s.made:=by
 unfold leaveS
 dsimp only
 split
 ·exact⟨rfl,rfl,rfl,rfl,rfl,rfl⟩
 ·split
  ·exact⟨rfl,rfl,rfl,rfl,rfl,rfl⟩
  ·split
   ·exact⟨rfl,rfl,rfl,rfl,rfl,rfl⟩
   ·split
    ·exact⟨rfl,rfl,rfl,rfl,rfl,rfl⟩
    ·have f:∀(X:Ze) (x:ZG),(X.now=s.now∧X.timers=s.timers∧X.groups=s.groups∧X.signals=s.signals∧X.conf=s.conf∧X.made=s.made)→
       (forgetS X x false).now=s.now∧(forgetS X x false).timers=s.timers∧(forgetS X x false).groups=s.groups∧(forgetS X x false).signals=s.signals∧(forgetS X x false).conf=s.conf∧(forgetS X x false).made=s.made:=fun X x h=>by
      obtain⟨a,b,c,d,e,g⟩:=ZlK X x false
      obtain⟨m,j,n,l,k,i⟩:=h
      exact⟨a.trans m,b.trans j,c.trans n,d.trans l,e.trans k,g.trans i⟩
     exact f _ _ ⟨rfl,rfl,rfl,rfl,rfl,rfl⟩
def ZlZ {s0:Ze} {i:Nat} (hf:s0.all[i]? =some f) (st:Int):(Zc8 s0 i f st).all.length=s0.all.length∧(Zc8 s0 i f st).now=s0.now∧(Zc8 s0 i f st).timers.length≤s0.timers.length∧(Zc8 s0 i f st).signals=s0.signals∧(Zc8 s0 i f st).conf=s0.conf∧(Zc8 s0 i f st).made=s0.made:=by
 have j:=Zj0 hf st
 have h:(overU s0 i f st).all.length=s0.all.length:=by unfold overU;show(s0.all.set i _).length=_;rw[List.length_set]
 have ht:(overU s0 i f st).timers.length≤s0.timers.length:=Xq _ _
 unfold Zc8
 dsimp only
 split
 ·exact⟨h,rfl,ht,rfl,rfl,rfl⟩
 ·split
  ·exact⟨by show((overU s0 i f st).all.set i _).length=_;rw[List.length_set,h],rfl,ht,rfl,rfl,rfl⟩
  ·split
   ·obtain⟨a,b,c,d,e,g⟩:=Znx (overU s0 i f st) ((i:Int)+1)
    exact⟨by rw[ZiP j,List.length_set,h],a,by rw[b];exact ht,d,e,g⟩
   ·exact⟨h,rfl,ht,rfl,rfl,rfl⟩
def Zhq (s:Ze) (id st:Int):(overS s id st).all.length=s.all.length∧(overS s id st).now=s.now∧(overS s id st).timers.length≤s.timers.length∧(overS s id st).signals=s.signals∧(overS s id st).conf=s.conf∧(overS s id st).made=s.made:=by
 cases hq:YN s id with
 |none=>
  have e:overS s id st=s:=by unfold overS;rw[hq]
  rw[e];exact⟨rfl,rfl,Xi _,rfl,rfl,rfl⟩
 |some f=>
  obtain⟨i,rfl,h⟩:=Zd1 hq
  cases he:f.ended with
  |true=>rw[ZiR h he];exact⟨rfl,rfl,Xi _,rfl,rfl,rfl⟩
  |false=>
   rw[ZlX h he]
   obtain⟨a,b,c,d,e,g⟩:=ZlZ (s0:={s with all:=s.all.set i {f with ended:=true}}) (ZM (f':={f with ended:=true}) h) st
   exact⟨by rw[a];exact List.length_set,b,c,d,e,g⟩
def Zsg {α:Type} {p:α→Bool} {l:List α} (h:l.findIdx? p=some i):∃x,l[i]? =some x∧p x=true∧l.find? p=some x:=by
 obtain⟨a,b,c⟩:=List.findIdx?_eq_some_iff_getElem.1 h
 refine⟨l[i],Xa a,b,?_⟩
 rw[List.find?_eq_some_iff_getElem]
 exact⟨b,i,a,rfl,fun j d=>by simpa using c j d⟩
def judgeU (num:Int) (a:Ze) (id:Int):Ze:=
 let a1:=ZI (setF a id fun f=>{f with cleared:=true,pre:=0,state:=goL f.state 2}) 6 id num 0 0
 match YN a1 id with
 |some f=>{a1 with queue:=putQ a1.queue (Zbj f)}
 |none=>a1
def ZeZ (num:Int) (a:Ze) (l:List Int):Ze:=l.foldl (judgeU num) a
def Zmb {num:Int} {l:List Int} {k:Nat} (h:l[k]? =some x):ZeZ num s (l.take (k+1))=judgeU num (ZeZ num s (l.take k)) x:=by
 unfold ZeZ
 rw[List.take_add_one,h,List.foldl_append];rfl
def ZoE {s:Ze} {k:Nat} (hf:s.all[k]? =some f) (num:Int):judgeU num s ((k:Int)+1)=
  {ZI {s with all:=s.all.set k {f with cleared:=true,pre:=0,state:=goL f.state 2}} 6 ((k:Int)+1) num 0 0 with queue:=putQ s.queue (Zbj {f with cleared:=true,pre:=0,state:=goL f.state 2})}:=by
 unfold judgeU
 dsimp only
 rw[YQ hf]
 have a:=(Jk hf)
 have:YN (ZI {s with all:=s.all.set k {f with cleared:=true,pre:=0,state:=goL f.state 2}} 6 ((k:Int)+1) num 0 0) ((k:Int)+1)=some {f with cleared:=true,pre:=0,state:=goL f.state 2}:=
  Zb0 (by show(s.all.set k _)[k]? =_;rw[List.getElem?_set_self a])
 rw[this]
 rfl
def ZQ.judgeU (h:ZQ a n m) (num id:Int):ZQ (Lk.judgeU num a id) (n+1) m:=by
 unfold Lk.judgeU
 have d:ZQ (Lk.setF a id fun f=>{f with cleared:=true,pre:=0,state:=goL f.state 2}) n m:=h.setF id fun f b=>b.upd rfl b.since (fun e=>b.body (ZcS (by omega) e)) rfl
 have c:=d.tell 6 id num 0 0
 dsimp only
 split
 ·rename_i f b
  exact c.putQ (ZeH c b).since
 ·exact c
def Safe.judgeU (ha:Safe a) (num id:Int):Safe (Lk.judgeU num a id):=by
 unfold Lk.judgeU
 have b:=(ha.setF id (g:=fun f=>{f with cleared:=true,pre:=0,state:=goL f.state 2}) (fun f=>rfl)).tell 6 id num 0 0
 dsimp only
 split
 ·rename_i f c
  exact b.putItem c
 ·exact b
def ZbJ (s:Ze) (l:List Zp):List Zp:=l.foldl (fun c e=>ZcB c (max 1 (min s.conf.cache 64)) e s.now) s.cache
def ZkX {l:List Zp} {k:Nat} (h:l[k]? =some x):ZbJ s (l.take (k+1))=ZcB (ZbJ s (l.take k)) (max 1 (min s.conf.cache 64)) x s.now:=by
 unfold ZbJ
 rw[List.take_add_one,h,List.foldl_append];rfl
def ZhQ (h:ZQ s n m) (l:List Zp):(ZbJ s l).length≤64:=h.puts s.now _ _ h.ca
def judgeV (s:Ze) (x:ZG) (k:Nat) (l:List Int) (es:List Zp):Ze:=
 {forgetS (ZI {s with cache:=ZbJ s es} 5 (l.headD 0) x.num x.conn 0) x true with shares:=s.shares.eraseIdx k}
def ZoY {s:Ze} {x:ZG} {o:ZE} (hq:s.shares.findIdx? (fun o=>o.num==x.num)=some k) (ho:s.shares[k]? =some o) {i:Nat} (hi:o.members.headD 0=(i:Int)+1) (hf:s.all[i]? =some f) (status:Int) (hs:List (Bs×Bs)):
  judgeS s x status hs=if(Zbg f.req status hs).2≠0 then failedS s x 8 (Zbg f.req status hs).2 else
   ZeZ x.num (judgeV s x k o.members (ZbO f.req (Zbg f.req status hs).1 s.now)) o.members:=by
 unfold judgeS
 obtain⟨y,a,d,b⟩:=Zsg hq
 have:y=o:=by rw[a]at ho;exact Option.some.inj ho
 subst this
 rw[b]
 dsimp only[Option.map_some,Option.getD_some]
 rw[hi,Zb0 hf]
 dsimp only
 split
 ·rfl
 ·unfold ZeZ judgeV ZbJ
  rw[hi]
  have e:(forgetS (ZI {s with cache:=List.foldl (fun c e=>ZcB c (max 1 (min s.conf.cache 64)) e s.now) s.cache (ZbO f.req (Zbg f.req status hs).1 s.now)} 5 ((i:Int)+1) x.num x.conn 0) x true).shares=s.shares:=by
   unfold forgetS;dsimp only;split<;>rfl
  rw[e,hq]
  dsimp only
  rw[Z7]
  rfl
def ZQ.judgeV (h:ZQ s n m) (x:ZG) (hq:s.shares.findIdx? (fun o=>o.num==x.num)=some k) (l:List Int) (es:List Zp):ZQ (Lk.judgeV s x k l es) (n+1) m:=by
 have b:ZQ {s with cache:=ZbJ s es} n m:={h with ca:=h.puts s.now _ _ h.ca}
 have a:=((b.tell 5 (l.headD 0) x.num x.conn 0).forget x true).dropO x.num
 have e:(forgetS (ZI {s with cache:=ZbJ s es} 5 (l.headD 0) x.num x.conn 0) x true).shares=s.shares:=by
  unfold forgetS;dsimp only;split<;>rfl
 rw[e,hq]at a
 dsimp only at a
 rw[Z7]at a
 exact a
def Safe.judgeV (h:Safe s) {x:ZG} (hx:x∈s.pres) (hq:s.shares.findIdx? (fun o=>o.num==x.num)=some k) (l:List Int) (es:List Zp):Safe (Lk.judgeV s x k l es):=by
 have b:Safe {s with cache:=ZbJ s es}:=h
 have a:=(b.tell 5 (l.headD 0) x.num x.conn 0).dropP hx true
 have e:dropO (ZI {s with cache:=ZbJ s es} 5 (l.headD 0) x.num x.conn 0).shares x.num=s.shares.eraseIdx k:=by
  unfold dropO
  show(match s.shares.findIdx? (fun o=>o.num==x.num)with|some i=>Y6 s.shares i|none=>s.shares)=_
  rw[hq];dsimp only;rw[Z7]
 rw[e]at a
 exact a
def ZmS (r:Ya) (status:Int) (l:List (Bs×Bs)):(Zbg r status l).1.age≤7200:=by
 have b:(ZbV l).1.age≤7200:=by
  unfold ZbV
  split
  ·simp[Zo.zero]
  ·split
   ·simp[Zo.zero]
   ·dsimp only;split<;>omega
 have a:Zo.zero.age≤7200:=by simp[Zo.zero]
 unfold Zbg
 repeat' split
 all_goals first|exact a|exact b
def ZmN {status:Int} {N:Nat} (h:(ZbV l).1.methods.length≤N∧(ZbV l).1.headers.length≤N):(Zbg r status l).1.methods.length≤N∧(Zbg r status l).1.headers.length≤N:=by
 have a:Zo.zero.methods.length≤N∧Zo.zero.headers.length≤N:=by simp[Zo.zero]
 unfold Zbg
 repeat' split
 all_goals first|exact a|exact h
def wI (shut:List Bs) (i:ZL):Nat:=if shut.contains i.key then 0 else if i.pre=0 then 2 else 1
def wQ (q:List ZL) (shut:List Bs):Nat:=(q.map (wI shut)).sum
def Zsb (shut:List Bs) (i:ZL):wI shut i≤2:=by
 unfold wI
 split
 ·omega
 ·split<;>omega
def Zse (q:List ZL) (shut:List Bs):wQ q shut≤2*q.length:=by
 unfold wQ
 induction q with
 |nil=>simp
 |cons i q ih=>simp only[List.map_cons,List.sum_cons,List.length_cons];have:=Zsb shut i;omega
def Zez {now aging:Nat} {shut:List Bs} (h:Zac q now aging shut=some i):shut.contains i.key=false:=by
 have key:∀(q:List ZL) (b:Option ZL),(∀x,b=some x→shut.contains x.key=false)→∀x,q.foldl (fun e i=>if shut.contains i.key then e else match e with
   |none=>some i
   |some x=>if Zht i x now aging then some i else e) b=some x→shut.contains x.key=false:=by
  intro q
  induction q with
  |nil=>intro b d x hx;exact d x hx
  |cons a q ih=>
   intro b d x hx
   rw[List.foldl_cons]at hx
   refine ih _ ?_ x hx
   intro y c
   cases hc:shut.contains a.key with
   |true=>rw[hc]at c;exact d y c
   |false=>
    rw[hc]at c
    simp only[Bool.false_eq_true,if_false]at c
    cases b with
    |none=>simp only[Option.some.injEq]at c;rw[←c];exact hc
    |some z=>
     dsimp only at c
     split at c
     ·simp only[Option.some.injEq]at c;rw[←c];exact hc
     ·exact d y c
 unfold Zac at h
 exact key q none (fun x hx=>by cases hx) i h
def ZqG {shut:List Bs} {i:ZL} (h:shut.contains i.key=false):1≤wI shut i:=by unfold wI;rw[h];simp only[Bool.false_eq_true,if_false];split<;>omega
def ZnO (shut:List Bs) (k:Bs) (i:ZL):wI (shut++[k]) i≤wI shut i:=by
 unfold wI
 cases h:shut.contains i.key with
 |true=>
  have:(shut++[k]).contains i.key=true:=by rw[List.contains_iff_mem]at h⊢;exact List.mem_append_left _ h
  rw[this];simp
 |false=>
  simp only[Bool.false_eq_true,if_false]
  split
  ·omega
  ·exact Xi _
def ZrP {q:List ZL} {shut:List Bs} {i:ZL} (hi:i∈q) (h:shut.contains i.key=false):wQ q (shut++[i.key])<wQ q shut:=by
 unfold wQ
 induction q with
 |nil=>cases hi
 |cons a q ih=>
  simp only[List.map_cons,List.sum_cons]
  have c:∀l:List ZL,(l.map (wI (shut++[i.key]))).sum≤(l.map (wI shut)).sum:=by
   intro l
   induction l with
   |nil=>exact Xi _
   |cons b l ih=>simp only[List.map_cons,List.sum_cons];have:=ZnO shut i.key b;omega
  rcases List.mem_cons.1 hi with rfl|hi
  ·have e:wI (shut++[i.key]) i=0:=by
    unfold wI
    have:(shut++[i.key]).contains i.key=true:=by rw[List.contains_iff_mem];simp
    rw[this];rfl
   have d:=ZqG h
   have f:=c q
   omega
  ·have e:=ih hi
   have d:=ZnO shut i.key a
   omega
def Zpg (q:List ZL) (shut:List Bs) (p:ZL→Bool):wQ (q.filter p) shut≤wQ q shut:=by
 unfold wQ
 induction q with
 |nil=>exact Xi _
 |cons a q ih=>
  rw[List.filter_cons]
  split
  ·simp only[List.map_cons,List.sum_cons];omega
  ·simp only[List.map_cons,List.sum_cons];omega
def ZnS {q:List ZL} (hn:(q.map (·.id)).Nodup) {i:ZL} (hi:i∈q) (shut:List Bs):wQ (dropQ q i.id) shut+wI shut i≤wQ q shut:=by
 rw[ZeS hn]
 clear hn
 induction q with
 |nil=>cases hi
 |cons a q ih=>
  rw[List.filter_cons]
  rcases List.mem_cons.1 hi with rfl|hi
  ·simp only[bne_self_eq_false,Bool.false_eq_true,if_false]
   have:=Zpg q shut (fun x=>x.id !=i.id)
   show wQ _ shut+wI shut i≤wI shut i+wQ q shut
   omega
  ·have b:=ih hi
   split
   ·show wI shut a+wQ _ shut+wI shut i≤wI shut a+wQ q shut
    omega
   ·show wQ _ shut+wI shut i≤wI shut a+wQ q shut
    omega
def ZrY (q:List ZL) (x:ZL) (shut:List Bs):wQ (putQ q x) shut≤wQ q shut+wI shut x:=by
 unfold putQ
 split
 ·omega
 split
 ·omega
 split
 ·omega
 ·unfold wQ;rw[Xs,List.sum_append];simp
def Zi8 (s:Ze) (i:ZL):(departS s i).queue=s.queue∧(departS s i).all.length=s.all.length∧(departS s i).now=s.now∧(departS s i).conf=s.conf:=by
 unfold departS
 dsimp only
 split
 ·exact⟨rfl,rfl,rfl,rfl⟩
 ·exact⟨rfl,by show(s.all.modify _ _).length=_;rw[List.length_modify],rfl,rfl⟩
def ZlF {s:Ze} (h0:0≤s.slast) (f:ZC) (i:ZL) (shut:List Bs):wQ (holdS s f i).queue shut≤wQ s.queue shut+1:=by
 have b:(Zag s (ZbT f.req) f.id).1.queue=s.queue∧((Zag s (ZbT f.req) f.id).2.2=true→(Zag s (ZbT f.req) f.id).2.1≠0):=by
  unfold Zag
  split
  ·exact⟨rfl,fun e=>by cases e⟩
  ·split
   ·split
    ·exact⟨rfl,fun e=>by cases e⟩
    ·exact⟨rfl,fun e=>by cases e⟩
   ·exact⟨rfl,fun _=>by dsimp only;omega⟩
 unfold holdS
 generalize Zag s (ZbT f.req) f.id=j at b⊢
 obtain⟨a,g⟩:=b
 dsimp only
 split
 ·rename_i c
  have d:=ZrY j.1.queue {i with pre:=j.2.1,since:=j.1.now} shut
  rw[a]at d
  have h:wI shut {i with pre:=j.2.1,since:=j.1.now}≤1:=by
   unfold wI
   split
   ·omega
   ·rw[if_neg (g c)];exact Xi _
  show wQ (putQ j.1.queue {i with pre:=j.2.1,since:=j.1.now}) shut≤_
  rw[a];omega
 ·show wQ j.1.queue shut≤_
  rw[a];omega
structure Zds (n m T g:Nat) (r0:Ze×Int) (sc:Ze) (shut:List Bs) (c:Int):Prop where
 fit:ZQ sc (n+2*(T-g)) m
 safe:Safe sc
 res:r0=stepF g sc shut c
 fuel:wQ sc.queue shut<g
 top:g≤T
 c0:0≤c
 ct:c+g≤T
 sl:shut.length+g≤T
theorem Zds.none {r0:Ze×Int} {sc:Ze} {shut:List Bs} (h:Zds n m T g r0 sc shut c) (hf:Zac sc.queue sc.now sc.conf.aging shut=none):r0=(sc,c):=by
 obtain⟨g,rfl⟩:∃k,g=k+1:=⟨g-1,by have:=h.fuel;omega⟩
 rw[h.res];unfold stepF;rw[hf]
theorem Zds.shut {r0:Ze×Int} {sc:Ze} {shut:List Bs} (h:Zds n m T g r0 sc shut c) (hf:Zac sc.queue sc.now sc.conf.aging shut=some i) (hc:Zf1 sc.pool i.key=false):∃g',g=g'+1∧Zds n m T g' r0 sc (shut++[i.key]) c:=by
 obtain⟨g,rfl⟩:∃k,g=k+1:=⟨g-1,by have:=h.fuel;omega⟩
 have a:=h.fuel
 have b:=ZrP (Y1 hf) (Zez hf)
 have t:=h.top
 have e:=h.ct
 have d:=h.sl
 refine⟨g,rfl,h.fit.mono (by omega) (Xi _),h.safe,?_,by omega,by omega,h.c0,by omega,by rw[Xd,List.length_singleton];omega⟩
 rw[h.res];conv=>lhs;unfold stepF
 rw[hf];simp[hc]
def Safe.dropS (h:Safe s) (id:Int):Safe {s with queue:=dropQ s.queue id}:=⟨h.1,h.2.dropQ _⟩
def Zds.gone {r0:Ze×Int} {sc:Ze} {shut:List Bs} (h:Zds n m T g r0 sc shut c) (hf:Zac sc.queue sc.now sc.conf.aging shut=some i) (hc:Zf1 sc.pool i.key=true) (hff:YN {sc with queue:=dropQ sc.queue i.id} i.id=some f) (hw:¬(i.pre=0∧ZgO {sc with queue:=dropQ sc.queue i.id} f=true)):∃g',g=g'+1∧Zds n m T g' r0 (departS {sc with queue:=dropQ sc.queue i.id} i) shut (c+1):=by
 obtain⟨g,rfl⟩:∃k,g=k+1:=⟨g-1,by have:=h.fuel;omega⟩
 have a:=h.fuel
 have b:=ZnS h.safe.2.qn (Y1 hf) shut
 have e:=ZqG (Zez hf)
 have t:=h.top
 have l:=h.ct
 have d:=h.sl
 have j:=h.c0
 refine⟨g,rfl,((h.fit.dropQ i.id).depart i).mono (by omega) (Xi _),Safe.departS (h.safe.dropS _) i (h.safe.dropped (Y1 hf)),?_,by rw[(Zi8 _ i).1];dsimp only;omega,by omega,by omega,by omega,by omega⟩
 rw[h.res];conv=>lhs;unfold stepF
 rw[hf];simp only[hc,Bool.not_true,Bool.false_eq_true,if_false,hff,if_neg hw]
def Zds.held {r0:Ze×Int} {sc:Ze} {shut:List Bs} (h:Zds n m T g r0 sc shut c) (hf:Zac sc.queue sc.now sc.conf.aging shut=some i) (hc:Zf1 sc.pool i.key=true) (hff:YN {sc with queue:=dropQ sc.queue i.id} i.id=some f) (hw:i.pre=0∧ZgO {sc with queue:=dropQ sc.queue i.id} f=true):∃g',g=g'+1∧Zds n m T g' r0 (holdS {sc with queue:=dropQ sc.queue i.id} f i) shut c:=by
 obtain⟨g,rfl⟩:∃k,g=k+1:=⟨g-1,by have:=h.fuel;omega⟩
 have a:=h.fuel
 have b:=ZnS h.safe.2.qn (Y1 hf) shut
 have l:wI shut i=2:=by unfold wI;rw[Zez hf];simp[hw.1]
 have e:=ZlF (s:={sc with queue:=dropQ sc.queue i.id}) h.safe.2.sl0 f i shut
 dsimp only at e
 have t:=h.top
 have o:=h.ct
 have j:=h.sl
 have d:=ZgE (h.safe.dropS i.id).1 hff
 have hv:=ZaS hff
 refine⟨g,rfl,((h.fit.dropQ i.id).hold f i (h.fit.qs i (Y1 hf))).mono (by omega) (Xi _),Safe.holdS (h.safe.dropS _) f i (by rw[d];exact⟨hv.1,hv.2.1⟩) d.symm,?_,by omega,by omega,h.c0,by omega,by omega⟩
 rw[h.res];conv=>lhs;unfold stepF
 rw[hf];simp only[hc,Bool.not_true,Bool.false_eq_true,if_false,hff,if_pos hw]
def Zh2 {p:Nat→Prop} (h:∃n,p n):∃n,p n∧∀k,p k→n≤k:=by
 obtain⟨n,d⟩:=h
 induction n using Nat.strongRecOn with
 |_ n ih=>
  by_cases c:∃k,k<n∧p k
  ·obtain⟨k,a,b⟩:=c;exact ih k a b
  ·exact⟨n,d,fun k b=>Nat.le_of_not_lt fun a=>c ⟨k,a,b⟩⟩
open Classical in
noncomputable def Zjl (p:Nat→Prop):Nat:=if h:∃n,p n then(Zh2 h).choose else 0
def Zm9 {p:Nat→Prop} (h:∃n,p n):p (Zjl p):=by unfold Zjl;rw[dif_pos h];exact(Zh2 h).choose_spec.1
def ZfJ {p:Nat→Prop} (h:p k):Zjl p≤k:=by unfold Zjl;rw[dif_pos ⟨k,h⟩];exact(Zh2 ⟨k,h⟩).choose_spec.2 k h
end Go.Lk
