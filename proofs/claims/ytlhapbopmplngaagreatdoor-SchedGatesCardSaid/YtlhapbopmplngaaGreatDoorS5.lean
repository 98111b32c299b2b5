import Derived.Test.YtlhapbopmplngaaGreatDoorS2
set_option linter.all false
set_option maxHeartbeats 16000000
set_option maxRecDepth 100000
set_option autoImplicit true
set_option relaxedAutoImplicit true
namespace Go.Lk
open Go.RowKit
def Y6 {α:Type} (l:List α) (i:Nat):List α:=l.take i++l.drop (i+1)
def leftT (now a:Nat):Nat:=if a≤now then 0 else a-now
structure Zcq where
 total:Int
 aging:Nat
 high:Int
 low:Int
 idle:Nat
 cache:Int
 timeout:Nat
 deriving DecidableEq
def Zcz (s:Int):Bool:=decide (6≤s)&&decide (s≤10)
def Zkm (a c:Int):Bool:=
 if a=1 then c==2||c==9
 else if a=2 then c==3||c==4||c==9||c==10
 else if a=3 then c==2||(Zcz c&&c !=6)
 else if a=4 then c==5||(Zcz c&&c !=6)
 else if a=5 then Zcz c&&c !=8
 else false
def goL (a c:Int):Int:=if Zkm a c then c else a
structure ZaP where
 high:Int
 low:Int
 state:Int
 paused:Bool
 q:Bs
def Ze5 (high low:Int):ZaP:=⟨max 1 (min high 1024),max 0 (min low (max 1 (min high 1024)-1)),1,false,[]⟩
def ZpM (s:ZaP) (x:Bs):ZaP×Int:=
 if s.state≠1 then(s,12)else if x.length=0∨64<x.length then(s,4)else if s.paused then(s,10)
 else({s with q:=s.q++x,paused:=decide (s.high≤(s.q++x).length)},0)
def Za9 (s:ZaP):ZaP×Int:=if s.state≠1 then(s,12)else({s with state:=2,paused:=false},0)
def ZpX (s:ZaP) (n:Nat):ZaP×Bs:=({s with q:=s.q.drop n,paused:=s.paused&&decide (s.low<(s.q.drop n).length)},s.q.take n)
def Za4 (s:ZaP):ZaP:={s with state:=3,paused:=false,q:=[]}
def ZcZ (s:ZaP):Bool:=s.state==3||(s.state==2&&s.q.length==0)
structure Yp where
 key:Bs
 uses:Int
def ZaI (t:List Yp) (key:Bs):Option Nat:=t.findIdx? fun h=>h.key==key
def Zkj (t:List Yp) (key:Bs):Option (List Yp)×Int:=
 match ZaI t key with
 |some i=>match t[i]? with
  |some h=>if 6≤h.uses then(none,10)else(some (Y6 t i++[⟨h.key,h.uses+1⟩]),0)
  |none=>(none,10)
 |none=>if 32≤t.length then
   match t.findIdx? (fun h=>h.uses==0)with
   |some i=>(some (Y6 t i++[⟨key,1⟩]),0)
   |none=>(none,10)
  else(some (t++[⟨key,1⟩]),0)
def Zda (t:List Yp) (key:Bs):List Yp:=
 match ZaI t key with
 |some i=>match t[i]? with
  |some h=>if h.uses=0 then t else t.set i ⟨h.key,h.uses-1⟩
  |none=>t
 |none=>t
structure Zbx where
 num:Int
 key:Bs
 until_:Nat
structure Zam where
 busy:List Zbx
 idle:List Zbx
 total:Int
 keep:Nat
 hosts:List Yp
 last:Int
def ZhK (total:Int) (idle:Nat):Zam:=⟨[],[],max 1 (min total 32),idle,[],0⟩
def ZnT (p:Zam) (key:Bs):Nat:=(p.busy.filter fun c=>c.key==key).length
def Zf1 (p:Zam) (key:Bs):Bool:=decide ((p.busy.length:Int)<p.total)&&decide (ZnT p key<6)
def expireP (p:Zam) (now:Nat):Zam:={p with idle:=p.idle.filter fun c=> !decide (c.until_≤now)}
def ZaO (p0:Zam) (key:Bs) (now:Nat):Zam×Int×Bool×Int:=
 if !Zf1 p0 key then(p0,0,false,10)else
 let p1:=expireP p0 now
 match Zkj p1.hosts key with
 |(none,e)=>(p1,0,false,e)
 |(some hs,_)=>
  let p2:={p1 with hosts:=hs,idle:=p1.idle.filter fun c=>(ZaI hs c.key).isSome}
  match((List.range p2.idle.length).filter fun i=>(p2.idle[i]?.map (·.key))==some key).getLast? with
  |some i=>match p2.idle[i]? with
   |some c=>({p2 with idle:=Y6 p2.idle i,busy:=p2.busy++[c]},c.num,false,0)
   |none=>(p2,0,false,0)
  |none=>
   let p3:=if p2.total≤(p2.busy.length+p2.idle.length:Nat)then{p2 with idle:=Y6 p2.idle 0}else p2
   ({p3 with last:=p3.last+1,busy:=p3.busy++[⟨p3.last+1,key,0⟩]},p3.last+1,true,0)
def giveP (p:Zam) (num:Int) (now:Nat) (keep:Bool):Zam:=
 match p.busy.findIdx? (fun c=>c.num==num)with
 |none=>p
 |some i=>match p.busy[i]? with
  |none=>p
  |some c=>
   let p1:={p with busy:=Y6 p.busy i,hosts:=Zda p.hosts c.key}
   if keep&&decide (0<p.keep)then{p1 with idle:=p1.idle++[{c with until_:=addT now p.keep}]}else p1
structure ZL where
 id:Int
 cls:Int
 since:Nat
 key:Bs
 pre:Int
def Zok (c:Int):Int:=max 1 (min c 6)
def Zec (c:Int) (waited aging:Nat):Int:=max 1 (Zok c-(min (waited/max aging 1) 6:Nat))
def Zht (a c:ZL) (now aging:Nat):Bool:=
 let x:=Zec a.cls (leftT a.since now) aging
 let y:=Zec c.cls (leftT c.since now) aging
 decide (x<y)||(x==y&&decide (a.id<c.id))
def putQ (q:List ZL) (i:ZL):List ZL:=
 if i.id<1∨i.cls<1∨6<i.cls then q else if q.any (fun x=>x.id==i.id)then q else if 128≤q.length then q else q++[i]
def dropQ (q:List ZL) (id:Int):List ZL:=match q.findIdx? (fun x=>x.id==id)with
 |some i=>Y6 q i
 |none=>q
def Zac (q:List ZL) (now aging:Nat) (shut:List Bs):Option ZL:=
 q.foldl (fun best i=>if shut.contains i.key then best else match best with
  |none=>some i
  |some x=>if Zht i x now aging then some i else best) none
def Zeh (a c:Zp):Bool:=a.cell==c.cell&&a.method==c.method&&a.header==c.header
def ZiF (l:List Zp) (now:Nat):List Zp:=l.filter fun e=> !decide (e.until_≤now)
def Zdf (l:List Zp):Nat:=(List.range l.length).foldl (fun a i=>match l[i]?,l[a]? with
 |some e,some x=>if e.until_<x.until_ then i else a
 |_,_=>a) 0
def ZcB (l0:List Zp) (most:Int) (e:Zp) (now:Nat):List Zp:=
 if(e.method==[])==(e.header==[])∨e.until_≤now then l0 else
 let l:=ZiF l0 now
 match l.findIdx? (fun x=>Zeh x e)with
 |some i=>match l[i]? with
  |some x=>l.set i {x with until_:=e.until_}
  |none=>l
 |none=>(if most≤(l.length:Int)then Y6 l (Zdf l)else l)++[e]
def Zib (l:List Zp) (e:Zp) (now:Nat):Bool:=l.any fun x=>Zeh x e&&decide (now<x.until_)
def ZhF (l:List Zp) (c:Zes) (m:Bs) (now:Nat):Bool:=(m !=[]&&Zib l ⟨c,m,[],0⟩ now)||(!c.creds&&Zib l ⟨c,[42],[],0⟩ now)
def Zdd (l:List Zp) (c:Zes) (n0:Bs) (now:Nat):Bool:=
 let n:=Yu n0
 (n !=[]&&Zib l ⟨c,[],n,0⟩ now)||(!c.creds&&n !=[97,117,116,104,111,114,105,122,97,116,105,111,110]&&Zib l ⟨c,[],[42],0⟩ now)
def ZhI (l:List Zp) (c:Zes) (m:Bs) (names:List Bs) (now:Nat):Bool:=(ZfO m||ZhF l c m now)&&names.all fun n=>Zdd l c n now
structure Zv where
 due:Nat
 id:Int
 tag:Int
def Zbr:List Zv→Option Zv
 |[]=>none
 |t::l=>match Zbr l with
  |none=>some t
  |some x=>if t.due<x.due∨(t.due=x.due∧t.id<x.id)then some t else some x
structure ZT where
 members:List Int
 torn:Bool
def ZrH (l:List Int) (x:Int):List Int:=(l.takeWhile fun y=>decide (y<x))++[x]++(l.dropWhile fun y=>decide (y<x))
def ofG (gs:List ZT) (id:Int):Option Nat:=gs.findIdx? fun g=>g.members.contains id
def ZaQ (gs:List ZT) (id:Int):List ZT:=match ofG gs id with
 |some i=>match gs[i]? with
  |some g=>gs.set i {g with members:=g.members.erase id}
  |none=>gs
 |none=>gs
def Zcr (gs:List ZT) (g id:Int):List ZT:=
 if g<1∨(gs.length:Int)<g then gs else match gs[(g-1).toNat]? with
 |none=>gs
 |some x=>if x.torn∨id<1∨(ofG gs id).isSome then gs else gs.set (g-1).toNat {x with members:=ZrH x.members id}
structure ZgQ where
 parents:List Int
 aborted:Bool
def ZrZ (t:List ZgQ) (id:Int):List Int:=
 if id<1∨(t.length:Int)<id then[]else
 ((List.range t.length).filter fun(k:Nat)=>decide (id≤(k:Int))).foldl (fun(out:List Int) (k:Nat)=>match t[k]? with
  |some o=>if o.parents.any fun p=>out.contains p then out++[(k:Int)+1]else out
  |none=>out) [id]
structure ZE where
 num:Int
 want:Zdz
 members:List Int
structure Y4 where
 id:Int
 group:Int
 key:Bs
def Zg4 (l:List Y4) (id:Int):List Y4:=match l.findIdx? (fun o=>o.id==id)with
 |some i=>Y6 l i
 |none=>l
structure ZC where
 id:Int
 req:Ya
 key:Bs
 state:Int
 since:Nat
 timer:Int
 cleared:Bool
 pre:Int
 conn:Int
 body:Option ZaP
 ended:Bool
structure ZG where
 num:Int
 item:Int
 conn:Int
 key:Bs
structure Zin where
 act:Int
 at_:Nat
 kind:Int
 id:Int
 pre:Int
 conn:Int
 n:Int
 deriving DecidableEq
structure Ze where
 conf:Zcq
 now:Nat
 pool:Zam
 queue:List ZL
 cache:List Zp
 timers:List Zv
 tlast:Int
 groups:List ZT
 signals:List ZgQ
 shares:List ZE
 slast:Int
 book:List Y4
 made:Int
 all:List ZC
 pres:List ZG
 log:List Zin
 acts:Int
structure Zal where
 code:Int
 id:Int
 n:Int
 bytes:Bs
def YM (code:Int):Zal:=⟨code,0,0,[]⟩
def Zbu (c:Zcq):Bool:=decide (1≤c.total)&&decide (c.total≤32)&&decide (1≤c.high)&&decide (c.high≤1024)&&decide (0≤c.low)&&decide (c.low<c.high)&&decide (1≤c.cache)&&decide (c.cache≤64)&&
 (decide (1≤c.aging)&&decide (c.aging≤1000)&&decide (c.idle≤1000)&&decide (1≤c.timeout)&&decide (c.timeout≤600))
def newS (c:Zcq):Ze:=⟨c,0,ZhK c.total c.idle,[],[],[],0,[],[],[],0,[],0,[],[],[],0⟩
def ZI (s:Ze) (kind id pre conn n:Int):Ze:={s with log:=s.log++[⟨s.acts,s.now,kind,id,pre,conn,n⟩]}
def YN (s:Ze) (id:Int):Option ZC:=if id<1∨(s.all.length:Int)<id then none else s.all[(id-1).toNat]?
def setF (s:Ze) (id:Int) (g:ZC→ZC):Ze:={s with all:=s.all.modify (id-1).toNat g}
def Zbj (f:ZC):ZL:=⟨f.id,f.req.cls,f.since,f.key,0⟩
def openS (s:Ze) (id:Int):Ze:=
 let s1:=setF s id fun f=>{f with state:=goL f.state 2,since:=s.now}
 match YN s1 id with
 |none=>s1
 |some f=>
  let s2:={s1 with queue:=putQ s1.queue (Zbj f)}
  let t:=if f.req.timeout=0∨(s.conf.timeout:Int)<f.req.timeout then s.conf.timeout else f.req.timeout.toNat
  if 256≤s2.timers.length then setF s2 id fun f=>{f with timer:=0}
  else setF {s2 with timers:=s2.timers++[⟨addT f.since t,s2.tlast+1,id⟩],tlast:=s2.tlast+1} id fun f=>{f with timer:=s2.tlast+1}
def forgetS (s:Ze) (p:ZG) (keep:Bool):Ze:=
 let s1:=if 0<p.conn then{s with pool:=giveP s.pool p.conn s.now keep}else{s with queue:=dropQ s.queue p.item}
 {s1 with pres:=s1.pres.filter fun x=>x.num !=p.num}
def leaveS (s0:Ze) (id:Int):Ze:=
 let s:=setF s0 id fun f=>{f with pre:=0}
 match s.shares.findIdx? (fun o=>o.members.contains id)with
 |none=>s
 |some i=>match s.shares[i]? with
  |none=>s
  |some o=>
   let m:=o.members.filter fun x=>x !=id
   if 0<m.length then{s with shares:=s.shares.set i {o with members:=m}}else
   let s1:={s with shares:=Y6 s.shares i}
   match s1.pres.find? (fun p=>p.num==o.num)with
   |none=>s1
   |some p=>forgetS (ZI s1 7 id o.num p.conn 13) p false
def overS (s:Ze) (id:Int) (state:Int):Ze:=
 match YN s id with
 |none=>s
 |some f=>if f.ended then s else
  let s1:=ZI (setF s id fun f=>{f with ended:=true,state:=goL f.state state}) (state-6+14) id 0 f.conn 0
  let s2:={s1 with timers:=s1.timers.filter (fun t=>t.id !=f.timer),groups:=ZaQ s1.groups id,book:=Zg4 s1.book id}
  if f.state=2 then{s2 with queue:=dropQ s2.queue id}
  else if f.state=4∨f.state=5 then setF {s2 with pool:=giveP s2.pool f.conn s2.now (state==6)} id fun f=>{f with body:=f.body.map Za4,conn:=0}
  else if f.state=3 then leaveS s2 id
  else s2
def YU (s:Ze) (g:Int):Int:=if g<1∨s.made<g then 11 else match s.groups[(g-1).toNat]? with
 |some x=>if x.torn then 13 else 0
 |none=>13
def Zbw (s:Ze) (n:Int):Int:=if(s.signals.length:Int)<n then 11 else if 1≤n∧(s.signals[(n-1).toNat]?.map (·.aborted))=some true then 13 else 0
def submitS (s:Ze) (r:Ya):Ze×Zal:=
 if ZaZ r≠0 then(s,YM (ZaZ r))else
 if YU s r.group≠0 then(s,YM (YU s r.group))else
 if Zbw s r.signal≠0 then(s,YM (Zbw s r.signal))else
 let key:=Zek r
 let id:Int:=s.all.length+1
 if s.book.any (fun o=>o.id==id)then(s,YM 16)else
 if 64≤s.book.length∨24≤(s.book.filter fun o=>o.key==key).length∨32≤(s.book.filter fun o=>o.group==r.group).length then(s,YM 10)else
 let s1:={s with book:=s.book++[⟨id,r.group,key⟩],all:=s.all++[⟨id,YJ r,key,1,0,0,false,0,0,none,false⟩]}
 let s2:=ZI s1 1 id 0 0 r.cls
 let s3:={s2 with groups:=Zcr s2.groups r.group id}
 (if r.cls≠5∧r.cls≠6 then openS s3 id else s3,⟨0,id,0,[]⟩)
def activateS (s:Ze) (id:Int):Ze×Int:=match YN s id with
 |none=>(s,11)
 |some f=>if f.state≠1 then(s,12)else(openS (ZI s 2 id 0 0 0) id,0)
def loadS (s:Ze) (g:Int):Ze×Zal:=
 if YU s g≠0 then(s,YM (YU s g))else
 let ms:=(s.groups[(g-1).toNat]?.map (·.members)).getD []
 let r:=ms.foldl (fun(a:Ze×Int) id=>match YN a.1 id with
  |some f=>if f.state=1∧f.req.cls=5 then((activateS a.1 id).1,a.2+1)else a
  |none=>a) (s,0)
 (r.1,⟨0,0,r.2,[]⟩)
def abortS (s:Ze) (id:Int):Ze×Zal:=
 if id<1∨(s.signals.length:Int)<id then(s,YM 11)else
 if(s.signals[(id-1).toNat]?.map (·.aborted))=some true then(s,YM 13)else
 let l:=(ZrZ s.signals id).filter fun k=>(s.signals[(k-1).toNat]?.map (·.aborted))==some false
 let s1:={s with signals:=l.foldl (fun t k=>t.modify (k-1).toNat fun o=>{o with aborted:=true}) s.signals}
 let r:=(s.all.map (·.id)).foldl (fun(a:Ze×Int) i=>match YN a.1 i with
  |some f=>if !Zcz f.state&&l.contains f.req.signal then(overS a.1 i 9,a.2+1)else a
  |none=>a) (s1,0)
 (r.1,⟨0,0,r.2,[]⟩)
def tearS (s:Ze) (g:Int):Ze×Zal:=
 if g<1∨(s.groups.length:Int)<g then(s,YM 11)else match s.groups[(g-1).toNat]? with
 |none=>(s,YM 11)
 |some x=>if x.torn then(s,YM 13)else
  let s1:={s with groups:=s.groups.set (g-1).toNat ⟨[],true⟩}
  (x.members.foldl (fun a id=>overS a id 9) s1,⟨0,0,x.members.length,[]⟩)
def lateS:Nat→Ze→Int→Ze×Int
 |0,s,n=>(s,n)
 |f+1,s,n=>match Zbr s.timers with
  |none=>(s,n)
  |some t=>if s.now<t.due then(s,n)else lateS f (overS {s with timers:=s.timers.filter fun x=>x.id !=t.id} t.tag 10) (n+1)
def tickS (s:Ze) (n:Nat):Ze×Int:=
 let s1:={s with now:=addT s.now n}
 let r:=lateS s1.timers.length s1 0
 ({r.1 with pool:=expireP r.1.pool r.1.now},r.2)
def ZgO (s:Ze) (f:ZC):Bool:= !f.cleared&&Zdr f.req&& !ZhI s.cache (Zdh f.req) f.req.method (ZaK f.req) s.now
def Zag (s:Ze) (w:Zdz) (id:Int):Ze×Int×Bool:=
 if id<1∨s.shares.any (fun o=>o.members.contains id)∨64≤(s.shares.map (·.members.length)).sum then(s,0,false)else
 match s.shares.findIdx? (fun o=>o.want==w)with
 |some i=>match s.shares[i]? with
  |some o=>({s with shares:=s.shares.set i {o with members:=o.members++[id]}},o.num,false)
  |none=>(s,0,false)
 |none=>({s with shares:=s.shares++[⟨s.slast+1,w,[id]⟩],slast:=s.slast+1},s.slast+1,true)
def holdS (s:Ze) (f:ZC) (i:ZL):Ze:=
 let j:=Zag s (ZbT f.req) f.id
 let s1:=ZI (setF j.1 f.id fun f=>{f with state:=goL f.state 3,pre:=j.2.1}) 3 f.id j.2.1 0 0
 if j.2.2 then{s1 with pres:=s1.pres++[⟨j.2.1,f.id,0,f.key⟩],queue:=putQ s1.queue {i with pre:=j.2.1,since:=s1.now}}else s1
def departS (s:Ze) (i:ZL):Ze:=
 let t:=ZaO s.pool i.key s.now
 let n:Int:=if t.2.2.1 then 1 else 0
 let s1:={s with pool:=t.1}
 if 0<i.pre then ZI {s1 with pres:=s1.pres.map fun p=>if p.num==i.pre then{p with conn:=t.2.1}else p} 4 i.id i.pre t.2.1 n
 else ZI (setF s1 i.id fun f=>{f with state:=goL f.state 4,conn:=t.2.1}) 8 i.id 0 t.2.1 n
def stepF:Nat→Ze→List Bs→Int→Ze×Int
 |0,s,_,n=>(s,n)
 |g+1,s,shut,n=>match Zac s.queue s.now s.conf.aging shut with
  |none=>(s,n)
  |some i=>if !Zf1 s.pool i.key then stepF g s (shut++[i.key]) n else
   let s1:={s with queue:=dropQ s.queue i.id}
   match YN s1 i.id with
   |none=>stepF g (departS s1 i) shut (n+1)
   |some f=>if i.pre=0∧ZgO s1 f=true then stepF g (holdS s1 f i) shut n else stepF g (departS s1 i) shut (n+1)
def stepS (s:Ze):Ze×Int:=stepF (3*s.queue.length+1) s [] 0
def Zcv (s:Ze) (conn:Int):Option ZC×Option ZG:=
 if conn<1 then(none,none)else match s.all.find? (fun f=>f.conn==conn)with
 |some f=>(some f,none)
 |none=>(none,s.pres.find? fun p=>p.conn==conn)
def failedS (s:Ze) (p:ZG) (state n:Int):Ze:=
 let l:=((s.shares.find? fun o=>o.num==p.num).map (·.members)).getD []
 let s1:=forgetS (ZI s 7 (l.headD 0) p.num p.conn n) p (state==8)
 let s2:={s1 with shares:=match s1.shares.findIdx? (fun o=>o.num==p.num)with|some i=>Y6 s1.shares i|none=>s1.shares}
 l.foldl (fun a id=>overS a id state) s2
def judgeS (s:Ze) (p:ZG) (status:Int) (hs:List (Bs×Bs)):Ze:=
 let l:=((s.shares.find? fun o=>o.num==p.num).map (·.members)).getD []
 let first:=l.headD 0
 match YN s first with
 |none=>s
 |some f=>
  let j:=Zbg f.req status hs
  if j.2≠0 then failedS s p 8 j.2 else
  let s1:={s with cache:=(ZbO f.req j.1 s.now).foldl (fun c e=>ZcB c (max 1 (min s.conf.cache 64)) e s.now) s.cache}
  let s2:=forgetS (ZI s1 5 first p.num p.conn 0) p true
  let s3:={s2 with shares:=match s2.shares.findIdx? (fun o=>o.num==p.num)with|some i=>Y6 s2.shares i|none=>s2.shares}
  l.foldl (fun a id=>
   let a1:=ZI (setF a id fun f=>{f with cleared:=true,pre:=0,state:=goL f.state 2}) 6 id p.num 0 0
   match YN a1 id with
   |some f=>{a1 with queue:=putQ a1.queue (Zbj f)}
   |none=>a1) s3
def answerS (s:Ze) (conn status:Int) (hs:List (Bs×Bs)):Ze×Int:=
 let u:=Zcv s conn
 if u.1.isNone&&u.2.isNone then(s,11)else
 if(u.1.map fun f=>decide (f.state≠4))=some true then(s,12)else
 if ZbW hs≠0 then(s,ZbW hs)else
 if status<200∨599<status then(s,14)else
 match u.2,u.1 with
 |some p,_=>(judgeS s p status hs,0)
 |none,some f=>
  if f.req.mode=3∧ZfC f.req=true∧Zfk f.req.origin f.req.creds hs≠0 then(overS s f.id 8,0)
  else(setF (ZI s 9 f.id 0 f.conn status) f.id fun f=>{f with state:=goL f.state 5,body:=some (Ze5 s.conf.high s.conf.low)},0)
 |none,none=>(s,11)
def Zcj (s:Ze) (conn:Int):Option ZC×Int:=
 let u:=Zcv s conn
 if u.1.isNone&&u.2.isNone then(none,11)else match u.1 with
 |some f=>if f.state=5 then(some f,0)else(none,12)
 |none=>(none,12)
def chunkS (s:Ze) (conn:Int) (x:Bs):Ze×Int:=match Zcj s conn with
 |(none,e)=>(s,e)
 |(some f,_)=>match f.body with
  |none=>(s,1)
  |some st=>
   let r:=ZpM st x
   if r.2≠0 then(s,r.2)else
   let s1:=ZI (setF s f.id fun f=>{f with body:=some r.1}) 10 f.id 0 conn x.length
   (if r.1.paused then ZI s1 11 f.id 0 conn 0 else s1,0)
def tailS (s:Ze) (conn:Int):Ze×Int:=match Zcj s conn with
 |(none,e)=>(s,e)
 |(some f,_)=>match f.body with
  |none=>(s,1)
  |some st=>
   let r:=Za9 st
   if r.2≠0 then(s,r.2)else
   let s1:=ZI (setF s f.id fun f=>{f with body:=some r.1}) 13 f.id 0 conn 0
   (if ZcZ r.1 then overS s1 f.id 6 else s1,0)
def failsS (s:Ze) (conn:Int):Ze×Int:=match Zcv s conn with
 |(_,some p)=>(failedS s p 7 0,0)
 |(none,none)=>(s,11)
 |(some f,none)=>if f.state=5∧(f.body.map (·.state))≠some 1 then(s,12)else(overS s f.id 7,0)
def readsS (s:Ze) (id n:Int):Ze×Zal:=match YN s id with
 |none=>(s,YM 11)
 |some f=>if f.state≠5 then(s,YM 12)else if n<1∨2048<n then(s,YM 2)else match f.body with
  |none=>(s,YM 0)
  |some st=>
   let r:=ZpX st n.toNat
   let s1:=setF s id fun f=>{f with body:=some r.1}
   let s2:=if st.paused&& !r.1.paused then ZI s1 12 id 0 f.conn 0 else s1
   (if ZcZ r.1 then overS s2 id 6 else s2,⟨0,0,r.2.length,r.2⟩)
def doS (s0:Ze) (a:ZaY):Ze×Zal:=
 let s:={s0 with acts:=s0.acts+1}
 if a.op=1 then(if 64≤s.groups.length then(s,YM 10)else({s with groups:=s.groups++[⟨[],false⟩],made:=s.groups.length+1},⟨0,s.groups.length+1,0,[]⟩))
 else if a.op=2 then
  if 64≤s.signals.length then(s,YM 10)else
  match a.ids.find? (fun p=>decide (p<1)||decide ((s.signals.length:Int)<p)||(s.signals[(p-1).toNat]?.map (·.aborted))==some true)with
  |some p=>(s,YM (if p<1∨(s.signals.length:Int)<p then 11 else 13))
  |none=>({s with signals:=s.signals++[⟨a.ids,false⟩]},⟨0,s.signals.length+1,0,[]⟩)
 else if a.op=3 then submitS s a.req
 else if a.op=4 then((activateS s a.id).1,YM (activateS s a.id).2)
 else if a.op=5 then loadS s a.id
 else if a.op=6 then abortS s a.id
 else if a.op=7 then tearS s a.id
 else if a.op=8 then((tickS s a.time.toNat).1,⟨0,0,(tickS s a.time.toNat).2,[]⟩)
 else if a.op=9 then((stepS s).1,⟨0,0,(stepS s).2,[]⟩)
 else if a.op=10 then((answerS s a.id a.status a.headers).1,YM (answerS s a.id a.status a.headers).2)
 else if a.op=11 then((chunkS s a.id a.bytes).1,YM (chunkS s a.id a.bytes).2)
 else if a.op=12 then((tailS s a.id).1,YM (tailS s a.id).2)
 else if a.op=13 then((failsS s a.id).1,YM (failsS s a.id).2)
 else if a.op=14 then readsS s a.id a.n
 else(s,YM 2)
def Ids (l:List ZC):Prop:=∀(i:Nat) (f:ZC),l[i]? =some f→f.id=(i:Int)+1
structure Zar (n:Nat) (ts:List Zv) (gs:List ZT) (sh:List ZE) (sl:Int) (ps:List ZG) (q:List ZL):Prop where
 tags:∀t∈ts,1≤t.tag∧t.tag≤n
 grp:∀g∈gs,∀id∈g.members,1≤id∧id≤n
 mem:∀o∈sh,o.members≠[]∧∀id∈o.members,1≤id∧id≤n
 fl:∀o∈sh,∃p∈ps,p.num=o.num
 shs:∀p∈ps,∃o∈sh,o.num=p.num
 qi:∀i∈q,1≤i.id∧i.id≤n∧(i.pre≠0→∃p∈ps,p.num=i.pre∧p.item=i.id∧p.conn=0)
 qn:(q.map (·.id)).Nodup
 sn:(sh.map (·.num)).Nodup
 slt:∀o∈sh,1≤o.num∧o.num≤sl
 pn:(ps.map (·.num)).Nodup
 pi:∀p∈ps,1≤p.item∧p.item≤n
 sl0:0≤sl
def Safe (s:Ze):Prop:=Ids s.all∧Zar s.all.length s.timers s.groups s.shares s.slast s.pres s.queue
theorem Z7 {α:Type} (l:List α) (i:Nat):Y6 l i=l.eraseIdx i:=by
 unfold Y6;rw[List.eraseIdx_eq_take_drop_succ]
theorem ZjD {α:Type} {l:List α} {x:α} (h:x∈Y6 l i):x∈l:=by
 rw[Z7]at h;exact List.mem_of_mem_eraseIdx h
theorem ZgT {α:Type} (l:List α) (i:Nat):(Y6 l i).Sublist l:=by rw[Z7];exact List.eraseIdx_sublist _ _
theorem ZjE {α:Type} {k:α→Int} {l:List α} (h:(l.map k).Nodup) {x y:α} (hx:x∈l) (hy:y∈l) (e:k x=k y):x=y:=by
 induction l with
 |nil=>cases hx
 |cons a l ih=>
  simp only[List.map_cons,List.nodup_cons,List.mem_map,not_exists,not_and]at h
  rcases List.mem_cons.1 hx with c|c<;>rcases List.mem_cons.1 hy with b|b
  ·rw[c,b]
  ·exact absurd (by rw[←e,c]) (h.1 y b)
  ·exact absurd (by rw[e,b]) (h.1 x c)
  ·exact ih h.2 c b
theorem ZjT {α:Type} {k:α→Int} {l:List α} (h:(l.map k).Nodup) {c:Int} (hi:l.findIdx? (fun x=>k x==c)=some i):Y6 l i=l.filter (fun x=>k x !=c):=by
 rw[Z7]
 induction l generalizing i with
 |nil=>simp at hi
 |cons a l ih=>
  simp only[List.map_cons,List.nodup_cons,List.mem_map,not_exists,not_and]at h
  rw[List.findIdx?_cons]at hi
  split at hi
  ·rename_i b
   injection hi with hi;subst hi
   have d:k a=c:=by simpa using b
   rw[List.filter_cons,if_neg (by simp[d]),List.eraseIdx_cons_zero,List.filter_eq_self.2]
   intro x hx
   have:=h.1 x hx
   simp only[bne_iff_ne,ne_eq];rw[←d];exact this
  ·rename_i b
   cases hq:l.findIdx? (fun x=>k x==c)with
   |none=>rw[hq]at hi;simp at hi
   |some j=>
    rw[hq]at hi;simp at hi;subst hi
    rw[List.eraseIdx_cons_succ,List.filter_cons,if_pos (by simpa using b),ih h.2 hq]
theorem ZkZ {α:Type} {k:α→Int} {l:List α} {c:Int} (hi:l.findIdx? (fun x=>k x==c)=none):l.filter (fun x=>k x !=c)=l:=by
 rw[List.findIdx?_eq_none_iff]at hi
 rw[List.filter_eq_self]
 intro x hx
 have:=hi x hx
 simp only[bne,this,Bool.not_false]
theorem ZeS {q:List ZL} (h:(q.map (·.id)).Nodup) (id:Int):dropQ q id=q.filter (fun x=>x.id !=id):=by
 unfold dropQ
 cases hq:q.findIdx? (fun x=>x.id==id)with
 |none=>exact(ZkZ hq).symm
 |some i=>exact ZjT h hq
def dropO (sh:List ZE) (num:Int):List ZE:=match sh.findIdx? (fun o=>o.num==num)with|some i=>Y6 sh i|none=>sh
theorem Zk7 {sh:List ZE} (h:(sh.map (·.num)).Nodup) (num:Int):dropO sh num=sh.filter (fun x=>x.num !=num):=by
 unfold dropO
 cases hq:sh.findIdx? (fun x=>x.num==num)with
 |none=>exact(ZkZ hq).symm
 |some i=>exact ZjT h hq
theorem Zgv {α:Type} {k:α→Int} {l:List α} (h:(l.map k).Nodup) (p:α→Bool):((l.filter p).map k).Nodup:=
 h.sublist ((List.filter_sublist).map k)
theorem Ze2 {α:Type} {l:List α} {p:α→Bool} (h:l.findIdx? p=some i):∃x,l[i]? =some x∧p x=true∧x∈l:=by
 obtain⟨a,b,_⟩:=List.findIdx?_eq_some_iff_getElem.1 h
 exact⟨l[i],Xa a,b,List.getElem_mem a⟩
theorem Zgl {α:Type} {l:List α} {a x:α} (h:x∈l.set i a):x∈l∨x=a:=by
 exact List.mem_or_eq_of_mem_set h
namespace Zar
variable {n:Nat} {ts:List Zv} {gs:List ZT} {sh:List ZE} {sl:Int} {ps:List ZG} {q:List ZL}
theorem mono (h:Zar n ts gs sh sl ps q) {m:Nat} (hm:n≤m):Zar m ts gs sh sl ps q:=
 ⟨fun t ht=>⟨(h.tags t ht).1,by have:=(h.tags t ht).2;omega⟩,fun g hg id hi=>⟨(h.grp g hg id hi).1,by have:=(h.grp g hg id hi).2;omega⟩,
  fun o ho=>⟨(h.mem o ho).1,fun id hi=>⟨((h.mem o ho).2 id hi).1,by have:=((h.mem o ho).2 id hi).2;omega⟩⟩,h.fl,h.shs,
  fun i hi=>⟨(h.qi i hi).1,by have:=(h.qi i hi).2.1;omega,(h.qi i hi).2.2⟩,h.qn,h.sn,h.slt,h.pn,fun p hp=>⟨(h.pi p hp).1,by have:=(h.pi p hp).2;omega⟩,h.sl0⟩
theorem timers (h:Zar n ts gs sh sl ps q) {ts':List Zv} (ht:∀t∈ts',t∈ts∨(1≤t.tag∧t.tag≤n)):Zar n ts' gs sh sl ps q:=
 ⟨fun t h1=>(ht t h1).elim (h.tags t) id,h.grp,h.mem,h.fl,h.shs,h.qi,h.qn,h.sn,h.slt,h.pn,h.pi,h.sl0⟩
theorem groups (h:Zar n ts gs sh sl ps q) {gs':List ZT} (hg:∀g∈gs',∀id∈g.members,1≤id∧id≤n):Zar n ts gs' sh sl ps q:=
 ⟨h.tags,hg,h.mem,h.fl,h.shs,h.qi,h.qn,h.sn,h.slt,h.pn,h.pi,h.sl0⟩
theorem queue (h:Zar n ts gs sh sl ps q) {q':List ZL} (hq:q'.Sublist q):Zar n ts gs sh sl ps q':=
 ⟨h.tags,h.grp,h.mem,h.fl,h.shs,fun i hi=>h.qi i (hq.subset hi),h.qn.sublist (hq.map _),h.sn,h.slt,h.pn,h.pi,h.sl0⟩
theorem dropQ (h:Zar n ts gs sh sl ps q) (id:Int):Zar n ts gs sh sl ps (Lk.dropQ q id):=by
 rw[ZeS h.qn];exact h.queue List.filter_sublist
theorem putQ (h:Zar n ts gs sh sl ps q) {i:ZL} (hi:1≤i.id∧i.id≤n) (hp:i.pre≠0→∃p∈ps,p.num=i.pre∧p.item=i.id∧p.conn=0):Zar n ts gs sh sl ps (Lk.putQ q i):=by
 unfold Lk.putQ
 split
 ·exact h
 split
 ·exact h
 rename_i e
 split
 ·exact h
 refine⟨h.tags,h.grp,h.mem,h.fl,h.shs,fun j c=> ?_,?_,h.sn,h.slt,h.pn,h.pi,h.sl0⟩
 ·rcases List.mem_append.1 c with c|c
  ·exact h.qi j c
  ·rw[Jm c];exact⟨hi.1,hi.2,hp⟩
 ·rw[Xs,List.nodup_append]
  refine⟨h.qn,by simp,fun a ha b d=> ?_⟩
  rintro rfl
  simp only[List.map_cons,List.map_nil,List.mem_singleton]at d
  subst d
  obtain⟨x,hx,f⟩:=List.mem_map.1 ha
  exact e (List.any_eq_true.2 ⟨x,hx,by simpa using f⟩)
theorem dropP (h:Zar n ts gs sh sl ps q) {p:ZG} (hp:p∈ps):
  Zar n ts gs (sh.filter fun o=>o.num !=p.num) sl (ps.filter fun x=>x.num !=p.num) (if 0<p.conn then q else Lk.dropQ q p.item):=by
 have w:∀i∈(if 0<p.conn then q else Lk.dropQ q p.item),i∈q∧(i.pre≠0→i.pre≠p.num):=by
  intro i b
  have l:i∈q→i.pre≠0→i.pre=p.num→p.conn=0∧i.id=p.item:=fun g a f=>by
   obtain⟨y,s,j,k,t⟩:=(h.qi i g).2.2 a
   obtain rfl:=ZjE h.pn s hp (j.trans f)
   exact⟨t,k.symm⟩
  split at b
  ·rename_i z
   exact⟨b,fun a f=>by have:=(l b a f).1;omega⟩
  ·rw[ZeS h.qn]at b
   obtain⟨c,d⟩:=List.mem_filter.1 b
   exact⟨c,fun a f=>by have:=(l c a f).2;simp[this]at d⟩
 have m:(if 0<p.conn then q else Lk.dropQ q p.item).Sublist q:=by
  split
  ·exact List.Sublist.refl _
  ·rw[ZeS h.qn];exact List.filter_sublist
 refine⟨h.tags,h.grp,fun o ho=>h.mem o (List.mem_filter.1 ho).1,fun o ho=> ?_,fun x hx=> ?_,fun i b=> ?_,h.qn.sublist (m.map _),Zgv h.sn _,fun o ho=>h.slt o (List.mem_filter.1 ho).1,Zgv h.pn _,fun x hx=>h.pi x (List.mem_filter.1 hx).1,h.sl0⟩
 ·obtain⟨c,d⟩:=List.mem_filter.1 ho
  obtain⟨x,hx,e⟩:=h.fl o c
  exact⟨x,List.mem_filter.2 ⟨hx,by rw[e];exact d⟩,e⟩
 ·obtain⟨c,d⟩:=List.mem_filter.1 hx
  obtain⟨o,ho,e⟩:=h.shs x c
  exact⟨o,List.mem_filter.2 ⟨ho,by rw[e];exact d⟩,e⟩
 ·obtain⟨g,r⟩:=w i b
  refine⟨(h.qi i g).1,(h.qi i g).2.1,fun a=> ?_⟩
  obtain⟨x,hx,j,k⟩:=(h.qi i g).2.2 a
  exact⟨x,List.mem_filter.2 ⟨hx,by rw[j];simpa using r a⟩,j,k⟩
theorem setO (h:Zar n ts gs sh sl ps q) {i:Nat} {o o':ZE} (ho:sh[i]? =some o) (hn:o'.num=o.num) (hm:o'.members≠[]) (hv:∀id∈o'.members,1≤id∧id≤n):Zar n ts gs (sh.set i o') sl ps q:=by
 have l:o∈sh:=Xc ho
 have m:=(Jk ho)
 have g:(sh.set i o').map (·.num)=sh.map (·.num):=by
  rw[List.map_set,hn]
  refine List.ext_getElem? fun j=> ?_
  by_cases k:i=j
  ·subst k
   rw[List.getElem?_set_self (by simpa using m),Xe,ho];rfl
  ·rw[Xt k]
 have f:∀x∈sh.set i o',∃y∈sh,y.num=x.num:=fun x hx=>by
  rcases Zgl hx with d|rfl
  ·exact⟨x,d,rfl⟩
  ·exact⟨o,l,hn.symm⟩
 refine⟨h.tags,h.grp,fun x hx=> ?_,fun x hx=> ?_,fun p b=> ?_,h.qi,h.qn,g▸h.sn,fun x hx=> ?_,h.pn,h.pi,h.sl0⟩
 ·rcases Zgl hx with d|rfl
  ·exact h.mem x d
  ·exact⟨hm,hv⟩
 ·obtain⟨y,a,e⟩:=f x hx
  obtain⟨p,b,c⟩:=h.fl y a
  exact⟨p,b,c.trans e⟩
 ·obtain⟨x,hx,e⟩:=h.shs p b
  have:p.num∈(sh.set i o').map (·.num):=by rw[g];exact List.mem_map.2 ⟨x,hx,e⟩
  obtain⟨y,a,c⟩:=List.mem_map.1 this
  exact⟨y,a,c⟩
 ·obtain⟨y,a,e⟩:=f x hx
  rw[←e];exact h.slt y a
theorem addP (h:Zar n ts gs sh sl ps q) (w:Zdz) {id:Int} (hv:1≤id∧id≤n) (key:Bs):
  Zar n ts gs (sh++[⟨sl+1,w,[id]⟩]) (sl+1) (ps++[⟨sl+1,id,0,key⟩]) q:=by
 have g:∀p∈ps,p.num≤sl:=fun p c=>by
  obtain⟨o,ho,e⟩:=h.shs p c
  rw[←e];exact(h.slt o ho).2
 refine⟨h.tags,h.grp,fun o ho=> ?_,fun o ho=> ?_,fun p c=> ?_,fun i d=> ?_,h.qn,?_,fun o ho=> ?_,?_,fun p c=> ?_,by have:=h.sl0;omega⟩
 ·rcases List.mem_append.1 ho with ho|ho
  ·exact h.mem o ho
  ·rw[Jm ho];exact⟨by simp,fun x hx=>by rw[Jm hx];exact hv⟩
 ·rcases List.mem_append.1 ho with ho|ho
  ·obtain⟨p,c,e⟩:=h.fl o ho
   exact⟨p,by simp[c],e⟩
  ·rw[Jm ho];exact⟨⟨sl+1,id,0,key⟩,by simp,rfl⟩
 ·rcases List.mem_append.1 c with c|c
  ·obtain⟨o,ho,e⟩:=h.shs p c
   exact⟨o,by simp[ho],e⟩
  ·rw[Jm c];exact⟨⟨sl+1,w,[id]⟩,by simp,rfl⟩
 ·refine⟨(h.qi i d).1,(h.qi i d).2.1,fun j=> ?_⟩
  obtain⟨p,c,e⟩:=(h.qi i d).2.2 j
  exact⟨p,by simp[c],e⟩
 ·rw[Xs,List.nodup_append]
  refine⟨h.sn,by simp,fun a ha b f=> ?_⟩
  rintro rfl
  obtain⟨x,hx,e⟩:=List.mem_map.1 ha
  have:=(h.slt x hx).2
  simp at f;omega
 ·rcases List.mem_append.1 ho with ho|ho
  ·have:=h.slt o ho;omega
  ·rw[Jm ho];have:=h.sl0;exact⟨by show(1:Int)≤sl+1;omega,Int.le_refl _⟩
 ·rw[Xs,List.nodup_append]
  refine⟨h.pn,by simp,fun a ha b f=> ?_⟩
  rintro rfl
  obtain⟨x,hx,e⟩:=List.mem_map.1 ha
  have:=g x hx
  simp at f;omega
 ·rcases List.mem_append.1 c with c|c
  ·exact h.pi p c
  ·rw[Jm c];exact hv
theorem setConn (h:Zar n ts gs sh sl ps q) (num conn:Int) (hq:∀i∈q,i.pre≠num) (h0:num≠0):Zar n ts gs sh sl (ps.map fun p=>if p.num==num then{p with conn:=conn}else p) q:=by
 have g:(ps.map fun p=>if p.num==num then{p with conn:=conn}else p).map (·.num)=ps.map (·.num):=by
  rw[List.map_map];apply List.map_congr_left;intro p _;simp only[Function.comp];split<;>rfl
 refine⟨h.tags,h.grp,h.mem,fun o ho=> ?_,fun p a=> ?_,fun i b=>⟨(h.qi i b).1,(h.qi i b).2.1,fun f=> ?_⟩,h.qn,h.sn,h.slt,g▸h.pn,fun p a=> ?_,h.sl0⟩
 ·obtain⟨p,a,e⟩:=h.fl o ho
  exact⟨_,List.mem_map.2 ⟨p,a,rfl⟩,by split<;>exact e⟩
 ·obtain⟨x,hx,rfl⟩:=List.mem_map.1 a
  obtain⟨o,ho,e⟩:=h.shs x hx
  exact⟨o,ho,by split<;>exact e⟩
 ·obtain⟨p,a,c,d⟩:=(h.qi i b).2.2 f
  refine⟨p,List.mem_map.2 ⟨p,a,?_⟩,c,d⟩
  rw[if_neg]
  simpa[c]using hq i b
 ·obtain⟨x,hx,rfl⟩:=List.mem_map.1 a
  have:=h.pi x hx
  split<;>exact this
end Zar
end Go.Lk
namespace Go.Proofs.YtlhapbopmplngaaGreatDoor
open Go.Lk
def leT (a b:Zv):Prop:=a.due<b.due∨(a.due=b.due∧a.id≤b.id)
def Zb2 (a b:Zv):Bool:=decide (a.due<b.due)||(decide (a.due=b.due)&&decide (a.id<b.id))
def Zex:Zb2 a b=true↔(a.due<b.due∨(a.due=b.due∧a.id<b.id)):=by
 unfold Zb2;simp
def ZfS:Zb2 a b=false↔leT b a:=by
 unfold leT
 rw[←Bool.not_eq_true,Zex]
 omega
def Zgx (h:Zb2 a b=true):leT a b:=by
 rw[Zex]at h;unfold leT;omega
def Zby (h1:leT a b) (h2:leT b c):leT a c:=by unfold leT at*;omega
def Zgs (a:Zv):leT a a:=by unfold leT;omega
def okT (l:List Zv) (j:Nat):Prop:=∀x y,l[j]? =some x→l[(j-1)/2]? =some y→leT y x
def Zdl (l:List Zv):Prop:=∀j,0<j→okT l j
def Zrk (l:List Zv) (i:Nat):Prop:=0<i→∀j x y,0<j→(j-1)/2=i→l[j]? =some x→l[(i-1)/2]? =some y→leT y x
def UpT (l:List Zv) (i:Nat):Prop:=(∀j,0<j→j≠i→okT l j)∧Zrk l i
structure DnT (l:List Zv) (k i:Nat):Prop where
 ik:i≤k
 ok:∀j,0<j→j≠i→(j-1)/2≠k→okT l j
 kk:Zrk l k
 ki:Zrk l i
 top:k≠i→0<i→okT l i
def Zdy (l:List Zv) (i j:Nat) (x y:Zv):List Zv:=(l.set i y).set j x
def ZgX {l:List Zv} {i j:Nat} (hi:l[i]? =some x) (hj:l[j]? =some y) (hij:i≠j) (m:Nat):
  (Zdy l i j x y)[m]? =if m=i then some y else if m=j then some x else l[m]? :=by
 have c:=(Jk hi)
 have b:=(Jk hj)
 unfold Zdy
 rw[List.getElem?_set,List.getElem?_set,List.length_set]
 by_cases e:j=m
 ·subst e
  simp[b,Ne.symm hij]
 ·by_cases a:i=m
  ·subst a;simp[c,e]
  ·simp[e,a,Ne.symm e,Ne.symm a]
def Zbb (l:List Zv) (i j:Nat) (x y:Zv):(Zdy l i j x y).length=l.length:=by unfold Zdy;simp
def Zfq {l:List Zv} {i j:Nat} (hi:l[i]? =some x) (hj:l[j]? =some y) (hij:i≠j):(Zdy l i j x y).Perm l:=by
 have c:=(Jk hi)
 have b:=(Jk hj)
 have d:=(List.getElem?_eq_some_iff.1 hi).2
 have a:=(List.getElem?_eq_some_iff.1 hj).2
 unfold Zdy
 have:=List.set_set_perm («as»:=l) (i:=i) (j:=j) c b
 rw[d,a]at this
 exact this
def Zrl (h:UpT l i) (h0:0<i) (hx:l[i]? =some x) (hy:l[(i-1)/2]? =some y) (ha:Zb2 x y=true):UpT (Zdy l i ((i-1)/2) x y) ((i-1)/2):=by
 have g:i≠(i-1)/2:=by omega
 have hg:=ZgX hx hy g
 have k:=Zgx ha
 refine⟨fun j b c u v a hv=> ?_,fun b j u v c n a hv=> ?_⟩
 ·rw[hg]at a hv
  by_cases e:j=i
  ·subst e
   rw[if_pos rfl]at a;cases a
   rw[if_neg g.symm,if_pos rfl]at hv;cases hv
   exact k
  ·rw[if_neg e,if_neg c]at a
   by_cases f:(j-1)/2=i
   ·rw[if_pos f]at hv;cases hv
    exact h.2 h0 j u y b f a hy
   ·rw[if_neg f]at hv
    by_cases d:(j-1)/2=(i-1)/2
    ·rw[if_pos d]at hv;cases hv
     exact Zby k (h.1 j b e u y a (by rw[d];exact hy))
    ·rw[if_neg d]at hv
     exact h.1 j b e u v a hv
 ·rw[hg]at a hv
  rw[if_neg (show((i-1)/2-1)/2≠i by omega),if_neg (show((i-1)/2-1)/2≠(i-1)/2 by omega)]at hv
  have m:leT v y:=h.1 _ b (by omega) y v hy hv
  by_cases e:j=i
  ·rw[if_pos e]at a;cases a;exact m
  ·rw[if_neg e,if_neg (show j≠(i-1)/2 by omega)]at a
   exact Zby m (h.1 j c e u y a (by rw[n];exact hy))
def Zrp (h:UpT l i) (hx:l[i]? =some x) (hy:l[(i-1)/2]? =some y) (ha:Zb2 x y=false):Zdl l:=fun j hj=>by
 by_cases e:j=i
 ·subst e
  intro u v hu hv
  rw[hx]at hu;rw[hy]at hv;cases hu;cases hv
  exact ZfS.1 ha
 ·exact h.1 j hj e
def ZrC (h:UpT l 0):Zdl l:=fun j hj=>h.1 j hj (by omega)
def Zrj {k i c:Nat} (h:DnT l k i) (hc:0<c) (hck:(c-1)/2=k) (hx:l[k]? =some x) (hy:l[c]? =some y) (ha:Zb2 y x=true)
  (hmin:∀d u,0<d→(d-1)/2=k→l[d]? =some u→leT y u):DnT (Zdy l k c x y) c i:=by
 have s:=h.ik
 have r:k≠c:=by omega
 have hg:=ZgX hx hy r
 have o:=Zgx ha
 refine⟨by omega,fun j f b g u v a hv=> ?_,fun f j u v b g a hv=> ?_,fun f j u v b g a hv=> ?_,fun f b u v a hv=> ?_⟩
 ·rw[hg]at a hv
  rw[if_neg g]at hv
  by_cases e:j=k
  ·subst e
   rw[if_pos rfl]at a;cases a
   rw[if_neg (show(j-1)/2≠j by omega)]at hv
   exact h.kk f c y v hc hck hy hv
  ·rw[if_neg e]at a
   by_cases m:j=c
   ·subst m
    rw[if_pos rfl]at a;cases a
    rw[if_pos hck]at hv;cases hv
    exact o
   ·rw[if_neg m]at a
    by_cases n:(j-1)/2=k
    ·rw[if_pos n]at hv;cases hv
     exact hmin j u f n a
    ·rw[if_neg n]at hv
     exact h.ok j f b n u v a hv
 ·rw[hg]at a hv
  rw[hck,if_pos rfl]at hv;cases hv
  rw[if_neg (by omega),if_neg (by omega)]at a
  exact h.ok j b (by omega) (by omega) u y a (by rw[g];exact hy)
 ·rw[hg]at a hv
  rw[if_neg (by omega),if_neg (by omega)]at hv
  by_cases e:j=k
  ·subst e
   rw[if_pos rfl]at a;cases a
   have p:=h.kk b c y
   rw[g]at p
   obtain⟨z,q⟩:∃z,l[i]? =some z:=⟨_,Xa (by have:=(Jk hx);omega)⟩
   exact Zby (h.top (by omega) f z v q hv) (p z hc hck hy q)
  ·rw[if_neg e]at a
   by_cases m:j=c
   ·subst m
    rw[if_pos rfl]at a;cases a
    exact Zby (h.ki f j y v b g hy hv) o
   ·rw[if_neg m]at a
    exact h.ki f j u v b g a hv
 ·rw[hg]at a hv
  rw[if_neg (by omega),if_neg (by omega)]at hv
  by_cases e:i=k
  ·subst e
   rw[if_pos rfl]at a;cases a
   exact h.ki b c y v hc hck hy hv
  ·rw[if_neg e,if_neg (by omega)]at a
   exact h.top (Ne.symm e) b u v a hv
def ZrL (h:DnT l k i) (hx:l[k]? =some x) (hmin:∀d u,0<d→(d-1)/2=k→l[d]? =some u→leT x u):UpT l i:=
 ⟨fun j h1 h2=>by
  by_cases e:(j-1)/2=k
  ·intro u v hu hv
   rw[e,hx]at hv;cases hv
   exact hmin j u h1 e hu
  ·exact h.ok j h1 h2 e,h.ki⟩
def ZrW {i n:Nat} (h:Zdl l) (hn:l.length=n+1) (hi:i<n) (hz:l[n]? =some z):DnT ((l.set i z).take n) i i:=by
 have hg:∀m,m≠i→∀u,((l.set i z).take n)[m]? =some u→l[m]? =some u:=fun m o u c=>by
  rw[List.getElem?_take]at c
  split at c
  ·rw[List.getElem?_set,if_neg (Ne.symm o)]at c;exact c
  ·cases c
 have k:Zrk ((l.set i z).take n) i:=fun d j u v e f c hv=>by
  have a:=hg j (by omega) u c
  have b:=hg _ (by omega) v hv
  obtain⟨y,g⟩:∃y,l[i]? =some y:=⟨_,Xa (by omega)⟩
  exact Zby (h i d y v g b) (h j e u y a (by rw[f];exact g))
 exact⟨Xi _,fun j d e f u v c hv=>h j d u v (hg j e u c) (hg _ f v hv),k,k,fun d=>absurd rfl d⟩
def Zpe (h:Zdl l) (n:Nat):Zdl (l.take n):=fun j hj u v hu hv=>by
 rw[List.getElem?_take]at hu hv
 split at hu
 ·split at hv
  ·exact h j hj u v hu hv
  ·cases hv
 ·cases hu
def ZoK (h:Zdl l) (t:Zv):UpT (l++[t]) l.length:=by
 have hg:∀m,m≠l.length→∀u,(l++[t])[m]? =some u→l[m]? =some u:=fun m g u b=>by
  by_cases e:m<l.length
  ·rw[List.getElem?_append_left e]at b;exact b
  ·have:=(Jk b);simp at this;omega
 refine⟨fun j d c u v b hv=> ?_,fun d j u v c f b hv=> ?_⟩
 ·have a:=hg j c u b
  exact h j d u v a (hg _ (by have:=(Jk a);omega) v hv)
 ·have:=(Jk b);simp at this;omega
def ZpU (h:Zdl l) (h0:l[0]? =some t):∀(j:Nat) (x:Zv),l[j]? =some x→leT t x:=by
 intro j
 induction j using Nat.strongRecOn with
 |ind j ih=>
  intro x hx
  by_cases e:j=0
  ·subst e;rw[h0]at hx;cases hx;exact Zgs _
  ·obtain⟨y,a⟩:∃y,l[(j-1)/2]? =some y:=⟨_,Xa (by have:=(Jk hx);omega)⟩
   exact Zby (ih _ (by omega) y a) (h j (by omega) x y hx a)
theorem firstT_min:∀{l:List Zv} {t:Zv},Zbr l=some t→t∈l∧∀x∈l,leT t x
 |[],t,h=>by cases h
 |a::l,t,h=>by
  unfold Zbr at h
  cases hq:Zbr l with
  |none=>
   rw[hq]at h;cases h
   refine⟨by simp,fun x hx=> ?_⟩
   rcases List.mem_cons.1 hx with rfl|hx
   ·exact Zgs _
   ·cases l with
    |nil=>cases hx
    |cons b l=>unfold Zbr at hq;split at hq<;>first|cases hq|(split at hq<;>cases hq)
  |some y=>
   rw[hq]at h
   obtain⟨h1,h2⟩:=firstT_min hq
   dsimp only at h
   split at h
   ·cases h
    refine⟨by simp,fun x hx=> ?_⟩
    rcases List.mem_cons.1 hx with rfl|hx
    ·exact Zgs _
    ·exact Zby (by unfold leT;omega) (h2 x hx)
   ·cases h
    refine⟨by simp[h1],fun x hx=> ?_⟩
    rcases List.mem_cons.1 hx with rfl|hx
    ·unfold leT;omega
    ·exact h2 x hx
def Zle {l:List Zv} {t:Zv} (ht:t∈l):∃x,Zbr l=some x:=by
 cases l with
 |nil=>cases ht
 |cons a l=>
  unfold Zbr
  split
  ·exact⟨_,rfl⟩
  ·split<;>exact⟨_,rfl⟩
def Zoa {l:List Zv} (hn:(l.map (·.id)).Nodup) {t:Zv} (ht:t∈l) (hm:∀x∈l,leT t x):Zbr l=some t:=by
 obtain⟨x,hx⟩:=Zle ht
 obtain⟨k,n⟩:=firstT_min hx
 have e:x.id=t.id:=by
  have a:=hm x k;have b:=n t ht
  unfold leT at a b;omega
 rw[hx]
 congr 1
 obtain⟨i,g,d⟩:=List.getElem_of_mem k
 obtain⟨j,m,c⟩:=List.getElem_of_mem ht
 have f:=List.pairwise_iff_getElem.1 hn
 have:i=j:=by
  rcases Nat.lt_trichotomy i j with h|h|h
  ·exact absurd (show(l.map (·.id))[i]'(by simpa using g)=(l.map (·.id))[j]'(by simpa using m)by simp[d,c,e]) (f i j _ _ h)
  ·exact h
  ·exact absurd (show(l.map (·.id))[j]'(by simpa using m)=(l.map (·.id))[i]'(by simpa using g)by simp[d,c,e]) (f j i _ _ h)
 subst this
 rw[←d,←c]
structure Zcu (arr l:List Zv) (last:Int):Prop where
 perm:arr.Perm l
 heap:Zdl arr
 nodup:(l.map (·.id)).Nodup
 ids:∀t∈l,1≤t.id∧t.id≤last
def Zcu.first {arr l:List Zv} {last:Int} (h:Zcu arr l last):Zbr l=arr[0]? :=by
 cases arr with
 |nil=>have:=h.perm.symm.eq_nil;subst this;rfl
 |cons t arr=>
  refine Zoa h.nodup (h.perm.mem_iff.1 (by simp)) (fun x hx=> ?_)
  obtain⟨j,a,e⟩:=List.getElem_of_mem (h.perm.mem_iff.2 hx)
  exact ZpU h.heap rfl j x (by rw[Xa a,e])
def Zcu.length {arr l:List Zv} {last:Int} (h:Zcu arr l last):arr.length=l.length:=h.perm.length_eq
def Zcu.arm {arr l arr':List Zv} {last:Int} (h:Zcu arr l last) {t:Zv} (ht:t.id=last+1) (h0:0≤last) (hp:arr'.Perm (arr++[t])) (hh:Zdl arr'):Zcu arr' (l++[t]) (last+1):=by
 refine⟨hp.trans (h.perm.append_right _),hh,?_,fun x hx=> ?_⟩
 ·rw[Xs,List.nodup_append]
  refine⟨h.nodup,by simp,fun a ha b c=> ?_⟩
  obtain⟨x,hx,rfl⟩:=List.mem_map.1 ha
  simp at c;subst c
  have:=(h.ids x hx).2;omega
 ·rcases List.mem_append.1 hx with hx|hx
  ·have:=h.ids x hx;omega
  ·rw[Jm hx];omega
def Zoi {l:List Zv} (hn:(l.map (·.id)).Nodup) {t:Zv} {r:List Zv} (hp:(t::r).Perm l):r.Perm (l.filter fun x=>x.id !=t.id):=by
 have a:((t::r).filter fun x=>x.id !=t.id).Perm (l.filter fun x=>x.id !=t.id):=hp.filter _
 have b:((t::r).map (·.id)).Nodup:=(hp.map _).nodup_iff.2 hn
 rw[List.filter_cons_of_neg (by simp)]at a
 have:(r.filter fun x=>x.id !=t.id)=r:=by
  rw[List.filter_eq_self]
  intro x hx
  rw[List.map_cons,List.nodup_cons]at b
  have:x.id≠t.id:=fun e=>b.1 (by rw[←e];exact List.mem_map.2 ⟨x,hx,rfl⟩)
  simpa using this
 rw[this]at a
 exact a
def Zcu.cut {arr l arr':List Zv} {last:Int} (h:Zcu arr l last) {t:Zv} (hp:(t::arr').Perm arr) (hh:Zdl arr'):Zcu arr' (l.filter fun x=>x.id !=t.id) last:=
 ⟨Zoi h.nodup (hp.trans h.perm),hh,(h.nodup.sublist ((List.filter_sublist).map _)),fun x hx=>h.ids x (List.mem_filter.1 hx).1⟩
def ZpR {l:List Zv} {i n:Nat} (hn:l.length=n+1) (hi:i<n) (hx:l[i]? =some x) (hz:l[n]? =some z):(x::(l.set i z).take n).Perm l:=by
 have e:Zdy l i n x z=(l.set i z).take n++[x]:=by
  refine List.ext_getElem? (fun m=> ?_)
  rw[ZgX hx hz (by omega)]
  have b:((l.set i z).take n).length=n:=by simp;omega
  by_cases c:m<n
  ·rw[List.getElem?_append_left (by omega),List.getElem?_take,if_pos c,List.getElem?_set]
   by_cases a:m=i
   ·subst a;simp;omega
   ·rw[if_neg a,if_neg (by omega),if_neg (Ne.symm a)]
  ·by_cases a:m=n
   ·subst a
    rw[if_neg (by omega),if_pos rfl,List.getElem?_append_right (by omega),b];simp
   ·rw[if_neg (by omega),if_neg a,List.getElem?_eq_none (by omega),List.getElem?_eq_none (by simp;omega)]
 have:=Zfq hx hz (by omega)
 rw[e]at this
 exact(List.perm_append_comm (l₁:=[x]) (l₂:=(l.set i z).take n)).trans this
def ZqS {l:List Zv} {n:Nat} (hn:l.length=n+1) (hx:l[n]? =some x):(x::l.take n).Perm l:=by
 have e:l=l.take n++[x]:=by
  have:=Xr (l:=l) (i:=n) (by omega)
  rw[List.take_of_length_le (by omega),(List.getElem?_eq_some_iff.1 hx).2]at this
  exact this
 exact(List.perm_append_comm (l₁:=[x]) (l₂:=l.take n)).trans (by rw[←e])
end Go.Proofs.YtlhapbopmplngaaGreatDoor
namespace Go.Lk
def ZiY {α:Type} {k:α→Int} {l:List α} (h:(l.map k).Nodup) {i:Nat} {x:α} (hi:l[i]? =some x):Y6 l i=l.filter (fun y=>k y !=k x):=by
 rw[Z7]
 induction l generalizing i with
 |nil=>simp at hi
 |cons a l ih=>
  simp only[List.map_cons,List.nodup_cons,List.mem_map,not_exists,not_and]at h
  match i,hi with
  |0,hi=>
   simp only[Xg,Option.some.injEq]at hi;subst hi
   rw[List.filter_cons,if_neg (by simp),List.eraseIdx_cons_zero,List.filter_eq_self.2]
   intro x hx
   simpa using h.1 x hx
  |i+1,hi=>
   simp only[Xf]at hi
   have hx:=Xc hi
   rw[List.eraseIdx_cons_succ,List.filter_cons,if_pos (by have:=h.1 x hx;simpa using fun e=>this e.symm),ih h.2 hi]
def ZaS {id:Int} (h:YN s id=some f):1≤id∧id≤s.all.length∧s.all[(id-1).toNat]? =some f:=by
 unfold YN at h
 split at h
 ·cases h
 ·rename_i a
  refine⟨by omega,by omega,h⟩
def ZgE {s:Ze} (hi:Ids s.all) {id:Int} (h:YN s id=some f):f.id=id:=by
 obtain⟨c,b,a⟩:=ZaS h
 have:=hi _ f a
 omega
def Ids.modify {l:List ZC} (h:Ids l) (i:Nat) {g:ZC→ZC} (hg:∀f,(g f).id=f.id):Ids (l.modify i g):=fun j f hj=>by
 rw[List.getElem?_modify]at hj
 cases hl:l[j]? with
 |none=>rw[hl]at hj;simp at hj
 |some x=>
  rw[hl]at hj
  simp only[Option.map_eq_map,Option.map_some,Option.some.injEq]at hj
  rw[←hj]
  split
  ·rw[hg];exact h j x hl
  ·exact h j x hl
def Safe.setF (h:Safe s) (id:Int) {g:ZC→ZC} (hg:∀f,(g f).id=f.id):Safe (Lk.setF s id g):=by
 refine⟨h.1.modify _ hg,?_⟩
 show Zar (s.all.modify _ g).length _ _ _ _ _ _
 rw[List.length_modify];exact h.2
def Safe.setF' {id:Int} {g:ZC→ZC} (h:Safe s) (hg:∀f,(g f).id=f.id):Safe (Lk.setF s id g):=h.setF id hg
def Safe.tell' (h:Safe s):Safe (ZI s a b c d e):=h
def Safe.pool' {p:Zam} (h:Safe s):Safe {s with pool:=p}:=h
def Safe.tell (h:Safe s) (a b c d e:Int):Safe (ZI s a b c d e):=h
def Safe.putItem (h:Safe s) {id:Int} (hf:YN s id=some f):Safe {s with queue:=putQ s.queue (Zbj f)}:=by
 refine⟨h.1,h.2.putQ ?_ ?_⟩
 ·have:=ZgE h.1 hf;have:=ZaS hf;simp only[Zbj];omega
 ·simp[Zbj]
def Safe.openS (h:Safe s) (id:Int):Safe (Lk.openS s id):=by
 unfold Lk.openS
 have b:=h.setF id (g:=fun f=>{f with state:=goL f.state 2,since:=s.now}) (fun f=>rfl)
 generalize Lk.setF s id (fun f=>{f with state:=goL f.state 2,since:=s.now})=s1 at b⊢
 dsimp only
 split
 ·exact b
 rename_i f c
 have a:=b.putItem c
 have hv:=ZaS c
 split
 ·exact Safe.setF' a (fun f=>rfl)
 ·refine Safe.setF' ⟨a.1,a.2.timers (fun t ht=> ?_)⟩ (fun f=>rfl)
  rcases List.mem_append.1 ht with ht|ht
  ·exact .inl ht
  ·rw[Jm ht];exact .inr ⟨hv.1,hv.2.1⟩
def Safe.dropP (h:Safe s) {p:ZG} (hp:p∈s.pres) (keep:Bool):Safe {forgetS s p keep with shares:=dropO s.shares p.num}:=by
 have a:=h.2.dropP hp
 rw[←Zk7 h.2.sn]at a
 unfold forgetS
 by_cases b:0<p.conn
 ·simp only[if_pos b]at a⊢
  exact⟨h.1,a⟩
 ·simp only[if_neg b]at a⊢
  exact⟨h.1,a⟩
def Zro {l:List ZG} {c:Int} {p:ZG} (h:l.find? (fun p=>p.num==c)=some p):p∈l∧p.num=c:=
 ⟨List.mem_of_find?_eq_some h,by simpa using List.find?_some h⟩
def Zjh (s:Ze) (p:ZG) (keep:Bool) (sh:List ZE):forgetS {s with shares:=sh} p keep={forgetS s p keep with shares:=sh}:=by
 unfold forgetS;dsimp only;split<;>rfl
def Safe.leaveS (h:Safe s) (id:Int):Safe (Lk.leaveS s id):=by
 unfold Lk.leaveS
 have a:=h.setF id (g:=fun f=>{f with pre:=0}) (fun f=>rfl)
 generalize Lk.setF s id (fun f=>{f with pre:=0})=s1 at a⊢
 dsimp only
 split
 ·exact a
 split
 ·exact a
 rename_i i q _ o ho
 have c:=Xc ho
 split
 ·rename_i j
  refine⟨a.1,a.2.setO ho rfl ?_ (fun x hx=>(a.2.mem o c).2 x (List.mem_filter.1 hx).1)⟩
  intro e;dsimp only at e;rw[e]at j;simp at j
 ·have hd:Y6 s1.shares i=dropO s1.shares o.num:=by rw[Zk7 a.2.sn];exact ZiY (k:=fun o:ZE=>o.num) a.2.sn ho
  split
  ·rename_i d
   obtain⟨p,b,e⟩:=a.2.fl o c
   rw[List.find?_eq_none]at d
   exact absurd (by simpa using e) (d p b)
  ·rename_i p b
   obtain⟨l,m⟩:=Zro b
   have:=(a.tell 7 id o.num p.conn 13).dropP l false
   rw[←m]at hd
   rw[hd]
   have n:=Zjh (ZI s1 7 id o.num p.conn 13) p false (dropO s1.shares p.num)
   exact n▸this
def ZhY {gs:List ZT} {id:Int} {g:ZT} (h:g∈ZaQ gs id):∃g'∈gs,∀x∈g.members,x∈g'.members:=by
 unfold ZaQ at h
 split at h
 ·split at h
  ·rename_i g' a
   rcases Zgl h with b|rfl
   ·exact⟨g,b,fun x hx=>hx⟩
   ·exact⟨g',Xc a,fun x hx=>List.mem_of_mem_erase hx⟩
  ·exact⟨g,h,fun x hx=>hx⟩
 ·exact⟨g,h,fun x hx=>hx⟩
def Safe.overS (h:Safe s) (id state:Int):Safe (Lk.overS s id state):=by
 unfold Lk.overS
 split
 ·exact h
 rename_i f i
 split
 ·exact h
 have b:=h.setF id (g:=fun f=>{f with ended:=true,state:=goL f.state state}) (fun f=>rfl)
 generalize Lk.setF s id (fun f=>{f with ended:=true,state:=goL f.state state})=s1 at b⊢
 have a:Safe {ZI s1 (state-6+14) id 0 f.conn 0 with timers:=s1.timers.filter (fun t=>t.id !=f.timer),groups:=ZaQ s1.groups id,book:=Zg4 s1.book id}:=
  ⟨b.1,(b.2.timers (fun t ht=> .inl (List.mem_filter.1 ht).1)).groups (fun g hg x hx=>by
   obtain⟨e,c,d⟩:=ZhY hg
   exact b.2.grp e c x (d x hx))⟩
 dsimp only
 split
 ·exact⟨a.1,a.2.dropQ id⟩
 split
 ·exact Safe.setF' (Safe.pool' a) (fun f=>rfl)
 split
 ·exact a.leaveS id
 ·exact a
def ZfA {β:Type} {g:Ze→β→Ze} (hg:∀s x,Safe s→Safe (g s x)) (l:List β) (h:Safe s):Safe (l.foldl g s):=by
 induction l generalizing s with
 |nil=>exact h
 |cons x l ih=>exact ih (hg s x h)
def Zhh {β:Type} {g:Ze×Int→β→Ze×Int} (hg:∀s x,Safe s.1→Safe (g s x).1) (l:List β) {s:Ze×Int} (h:Safe s.1):Safe (l.foldl g s).1:=by
 induction l generalizing s with
 |nil=>exact h
 |cons x l ih=>exact ih (hg s x h)
def Zlh {c:Bool} (ha:Safe a) (hb:Safe b):Safe (if c then a else b):=by split<;>assumption
def Safe.activateS (h:Safe s) (id:Int):Safe (Lk.activateS s id).1:=by
 unfold Lk.activateS
 split
 ·exact h
 split
 ·exact h
 ·exact(h.tell 2 id 0 0 0).openS id
def Safe.loadS (h:Safe s) (g:Int):Safe (Lk.loadS s g).1:=by
 unfold Lk.loadS
 split
 ·exact h
 dsimp only
 refine Zhh (fun a x ha=> ?_) _ h
 split
 ·split
  ·exact ha.activateS x
  ·exact ha
 ·exact ha
def Safe.abortS (h:Safe s) (id:Int):Safe (Lk.abortS s id).1:=by
 unfold Lk.abortS
 split
 ·exact h
 split
 ·exact h
 dsimp only
 refine Zhh (fun a x ha=> ?_) _ h
 split
 ·split
  ·exact ha.overS x 9
  ·exact ha
 ·exact ha
def Safe.tearS (h:Safe s) (g:Int):Safe (Lk.tearS s g).1:=by
 unfold Lk.tearS
 split
 ·exact h
 split
 ·exact h
 split
 ·exact h
 dsimp only
 refine ZfA (fun a x ha=>ha.overS x 9) _ ⟨h.1,h.2.groups (fun c b x hx=> ?_)⟩
 rcases Zgl b with d|rfl
 ·exact h.2.grp c d x hx
 ·cases hx
def Safe.lateS (k:Nat):∀{s:Ze} (h:Safe s) (n:Int),Safe (Lk.lateS k s n).1:=by
 induction k with
 |zero=>intro s h n;exact h
 |succ k ih=>
  intro s h n
  unfold Lk.lateS
  split
  ·exact h
  split
  ·exact h
  ·rename_i t ht _
   exact ih (Safe.overS (s:={s with timers:=s.timers.filter fun x=>x.id !=t.id}) ⟨h.1,h.2.timers (fun x hx=> .inl (List.mem_filter.1 hx).1)⟩ t.tag 10) _
def Safe.tickS (h:Safe s) (n:Nat):Safe (Lk.tickS s n).1:=by
 unfold Lk.tickS
 exact Safe.pool' (Safe.lateS (s:={s with now:=addT s.now n}) _ h 0)
def Safe.holdS (h:Safe s) (f:ZC) (i:ZL) (hv:1≤f.id∧f.id≤s.all.length) (hi:i.id=f.id):Safe (Lk.holdS s f i):=by
 unfold Lk.holdS Zag
 by_cases a:f.id<1∨(s.shares.any (fun o=>o.members.contains f.id))=true∨64≤(s.shares.map (·.members.length)).sum
 ·simp only[if_pos a]
  exact Safe.tell' (Safe.setF' h (fun f=>rfl))
 simp only[if_neg a]
 cases hq:s.shares.findIdx? (fun o=>o.want==ZbT f.req)with
 |some j=>
  obtain⟨o,ho,_⟩:=Ze2 hq
  simp only[ho,Bool.false_eq_true,if_false]
  refine Safe.tell' (Safe.setF' ⟨h.1,h.2.setO ho rfl (by simp) (fun x hx=> ?_)⟩ (fun f=>rfl))
  rcases List.mem_append.1 hx with hx|hx
  ·exact(h.2.mem o (Xc ho)).2 x hx
  ·rw[Jm hx];exact hv
 |none=>
  simp only[if_true]
  have b:=h.2.addP (ZbT f.req) hv f.key
  have c:=b.putQ (i:={i with pre:=s.slast+1,since:=s.now}) (by show 1≤i.id∧i.id≤_;rw[hi];exact hv) (fun _=>⟨⟨s.slast+1,f.id,0,f.key⟩,by simp,rfl,hi.symm,rfl⟩)
  refine⟨h.1.modify _ (fun f=>rfl),?_⟩
  show Zar (s.all.modify _ _).length _ _ _ _ _ _
  rw[List.length_modify]
  exact c
def Safe.departS (h:Safe s) (i:ZL) (hq:i.pre≠0→∀x∈s.queue,x.pre≠i.pre):Safe (Lk.departS s i):=by
 unfold Lk.departS
 dsimp only
 split
 ·refine Safe.tell' ?_
  refine⟨h.1,?_⟩
  exact h.2.setConn _ _ (hq (by omega)) (by omega)
 ·exact Safe.tell' (Safe.setF' (Safe.pool' h) (fun f=>rfl))
def Y1 {now aging:Nat} {shut:List Bs} (h:Zac q now aging shut=some i):i∈q:=by
 unfold Zac at h
 suffices H:∀(l:List ZL) (b:Option ZL),(∀x,b=some x→x∈q)→(∀x∈l,x∈q)→∀x,l.foldl (fun d i=>if shut.contains i.key then d else match d with
  |none=>some i
  |some x=>if Zht i x now aging then some i else d) b=some x→x∈q by
  exact H q none (fun x hx=>by cases hx) (fun x hx=>hx) i h
 intro l
 induction l with
 |nil=>intro b c _ x hx;exact c x hx
 |cons y l ih=>
  intro b c e x hx
  rw[List.foldl_cons]at hx
  refine ih _ ?_ (fun z a=>e z (by simp[a])) x hx
  intro z a
  split at a
  ·exact c z a
  ·split at a
   ·injection a with a;subst a;exact e _ (by simp)
   ·split at a
    ·injection a with a;subst a;exact e _ (by simp)
    ·exact c z a
def Safe.dropped (h:Safe s) {i:ZL} (hi:i∈s.queue):i.pre≠0→∀x∈dropQ s.queue i.id,x.pre≠i.pre:=by
 intro b x hx a
 rw[ZeS h.2.qn]at hx
 obtain⟨f,d⟩:=List.mem_filter.1 hx
 obtain⟨p,j,e,k,_⟩:=(h.2.qi i hi).2.2 b
 obtain⟨l,c,g,m,_⟩:=(h.2.qi x f).2.2 (by rw[a];exact b)
 obtain rfl:=ZjE h.2.pn j c (by rw[e,g,a])
 have:x.id=i.id:=by omega
 simp[this]at d
def Safe.stepF (k:Nat):∀{s:Ze} (h:Safe s) (shut:List Bs) (n:Int),Safe (Lk.stepF k s shut n).1:=by
 induction k with
 |zero=>intro s h shut n;exact h
 |succ k ih=>
  intro s h shut n
  unfold Lk.stepF
  split
  ·exact h
  rename_i i d
  have c:=Y1 d
  split
  ·exact ih h _ _
  have hd:Safe {s with queue:=dropQ s.queue i.id}:=⟨h.1,h.2.dropQ _⟩
  dsimp only
  split
  ·exact ih (Safe.departS hd i (h.dropped c)) _ _
  ·rename_i f b
   have a:=ZgE hd.1 b
   have hv:=ZaS b
   split
   ·exact ih (Safe.holdS hd f i (by rw[a];exact⟨hv.1,hv.2.1⟩) a.symm) _ _
   ·exact ih (Safe.departS hd i (h.dropped c)) _ _
def Safe.stepS (h:Safe s):Safe (Lk.stepS s).1:=Safe.stepF _ h _ _
def Safe.failedS (h:Safe s) {p:ZG} (hp:p∈s.pres) (state n:Int):Safe (Lk.failedS s p state n):=by
 unfold Lk.failedS
 dsimp only
 refine ZfA (fun a x ha=>ha.overS x state) _ ?_
 have:=(h.tell 7 ((((s.shares.find? fun o=>o.num==p.num).map (·.members)).getD []).headD 0) p.num p.conn n).dropP hp (state==8)
 have e:(forgetS (ZI s 7 ((((s.shares.find? fun o=>o.num==p.num).map (·.members)).getD []).headD 0) p.num p.conn n) p (state==8)).shares=s.shares:=by
  unfold forgetS;dsimp only;split<;>rfl
 rw[e]
 exact this
def Safe.judgeS (h:Safe s) {p:ZG} (hp:p∈s.pres) (status:Int) (hs:List (Bs×Bs)):Safe (Lk.judgeS s p status hs):=by
 unfold Lk.judgeS
 dsimp only
 split
 ·exact h
 rename_i f b
 split
 ·exact h.failedS hp _ _
 refine ZfA (fun a x ha=> ?_) _ ?_
 ·have d:=(ha.setF x (g:=fun f=>{f with cleared:=true,pre:=0,state:=goL f.state 2}) (fun f=>rfl)).tell 6 x p.num 0 0
  split
  ·rename_i f b
   exact d.putItem b
  ·exact d
 ·generalize List.foldl (fun c e=>ZcB c (max 1 (min s.conf.cache 64)) e s.now) s.cache (ZbO f.req (Zbg f.req status hs).1 s.now)=cc
  have i:Safe {s with cache:=cc}:=h
  have:=(i.tell 5 ((((s.shares.find? fun o=>o.num==p.num).map (·.members)).getD []).headD 0) p.num p.conn 0).dropP hp true
  have e:(forgetS (ZI {s with cache:=cc} 5 ((((s.shares.find? fun o=>o.num==p.num).map (·.members)).getD []).headD 0) p.num p.conn 0) p true).shares=s.shares:=by
   unfold forgetS;dsimp only;split<;>rfl
  rw[e]
  exact this
def ZiE {conn:Int} (h:(Zcv s conn).2=some p):p∈s.pres:=by
 unfold Zcv at h
 split at h
 ·cases h
 ·split at h
  ·cases h
  ·exact List.mem_of_find?_eq_some h
def Safe.answerS (h:Safe s) (conn status:Int) (hs:List (Bs×Bs)):Safe (Lk.answerS s conn status hs).1:=by
 unfold Lk.answerS
 dsimp only
 split
 ·exact h
 split
 ·exact h
 split
 ·exact h
 split
 ·exact h
 split
 ·rename_i p a
  exact h.judgeS (ZiE a) _ _
 ·split
  ·exact h.overS _ _
  ·exact Safe.setF' (Safe.tell' h) (fun f=>rfl)
 ·exact h
def Safe.chunkS (h:Safe s) (conn:Int) (x:Bs):Safe (Lk.chunkS s conn x).1:=by
 unfold Lk.chunkS
 split
 ·exact h
 split
 ·exact h
 dsimp only
 split
 ·exact h
 split
 ·exact Safe.tell' (Safe.tell' (Safe.setF' h (fun f=>rfl)))
 ·exact Safe.tell' (Safe.setF' h (fun f=>rfl))
def Safe.tailS (h:Safe s) (conn:Int):Safe (Lk.tailS s conn).1:=by
 unfold Lk.tailS
 split
 ·exact h
 rename_i f _ _
 split
 ·exact h
 rename_i b _
 dsimp only
 split
 ·exact h
 have a:Safe (ZI (Lk.setF s f.id fun f=>{f with body:=some (Za9 b).1}) 13 f.id 0 conn 0):=Safe.tell' (Safe.setF' h (fun f=>rfl))
 generalize ZI (Lk.setF s f.id fun f=>{f with body:=some (Za9 b).1}) 13 f.id 0 conn 0=s1 at a⊢
 exact Zlh (a.overS _ _) a
def Safe.failsS (h:Safe s) (conn:Int):Safe (Lk.failsS s conn).1:=by
 unfold Lk.failsS
 split
 ·rename_i p a
  exact h.failedS (ZiE (by rw[a])) _ _
 ·exact h
 ·split
  ·exact h
  ·exact h.overS _ _
def Safe.readsS (h:Safe s) (id n:Int):Safe (Lk.readsS s id n).1:=by
 unfold Lk.readsS
 split
 ·exact h
 split
 ·exact h
 split
 ·exact h
 split
 ·exact h
 dsimp only
 refine Zlh ?_ ?_
 ·refine Safe.overS ?_ _ _
  split
  ·exact Safe.tell' (Safe.setF' h (fun f=>rfl))
  ·exact Safe.setF' h (fun f=>rfl)
 ·split
  ·exact Safe.tell' (Safe.setF' h (fun f=>rfl))
  ·exact Safe.setF' h (fun f=>rfl)
def Ids.add {l:List ZC} (h:Ids l) {f:ZC} (hf:f.id=(l.length:Int)+1):Ids (l++[f]):=fun i x hx=>by
 rcases Nat.lt_trichotomy i l.length with hi|hi|hi
 ·rw[List.getElem?_append_left hi]at hx;exact h i x hx
 ·subst hi
  rw[List.getElem?_append_right (Xi _)]at hx
  simp at hx;subst hx;exact hf
 ·rw[List.getElem?_eq_none (by simp;omega)]at hx;cases hx
def ZoZ {gs:List ZT} {g id:Int} {n:Nat} (hg:∀x∈gs,∀i∈x.members,1≤i∧i≤(n:Int)) (hid:1≤id∧id≤n):∀x∈Zcr gs g id,∀i∈x.members,1≤i∧i≤(n:Int):=by
 unfold Zcr
 split
 ·exact hg
 split
 ·exact hg
 split
 ·exact hg
 rename_i y b _
 intro x hx i a
 rcases Zgl hx with c|rfl
 ·exact hg x c i a
 ·simp only[ZrH,List.append_assoc,List.mem_append,List.mem_singleton]at a
  rcases a with a|rfl|a
  ·exact hg y (Xc b) i ((List.takeWhile_sublist _).subset a)
  ·exact hid
  ·exact hg y (Xc b) i ((List.dropWhile_sublist _).subset a)
def Safe.submitS (h:Safe s) (r:Ya):Safe (Lk.submitS s r).1:=by
 unfold Lk.submitS
 split
 ·exact h
 split
 ·exact h
 split
 ·exact h
 dsimp only
 split
 ·exact h
 split
 ·exact h
 have b:Safe {ZI {s with book:=s.book++[⟨(s.all.length:Int)+1,r.group,Zek r⟩],all:=s.all++[⟨(s.all.length:Int)+1,YJ r,Zek r,1,0,0,false,0,0,none,false⟩]} 1 ((s.all.length:Int)+1) 0 0 r.cls with groups:=Zcr s.groups r.group ((s.all.length:Int)+1)}:=by
  refine⟨h.1.add rfl,?_⟩
  show Zar (s.all++[_]).length _ _ _ _ _ _
  rw[Xd]
  have a:=h.2.mono (m:=s.all.length+1) (by omega)
  exact a.groups (ZoZ a.grp ⟨by omega,by omega⟩)
 split
 ·exact b.openS _
 ·exact b
def Safe.doS (h:Safe s) (a:ZaY):Safe (Lk.doS s a).1:=by
 unfold Lk.doS
 have b:Safe {s with acts:=s.acts+1}:=h
 generalize({s with acts:=s.acts+1}:Ze)=s0 at b⊢
 dsimp only
 by_cases q:a.op=1
 ·rw[if_pos q]
  split
  ·exact b
  ·refine⟨b.1,b.2.groups (fun g hg=> ?_)⟩
   rcases List.mem_append.1 hg with hg|hg
   ·exact b.2.grp g hg
   ·rw[Jm hg];intro x hx;cases hx
 rw[if_neg q]
 by_cases m:a.op=2
 ·rw[if_pos m]
  split
  ·exact b
  ·split
   ·exact b
   ·exact b
 rw[if_neg m]
 by_cases o:a.op=3
 ·rw[if_pos o];exact b.submitS _
 rw[if_neg o]
 by_cases n:a.op=4
 ·rw[if_pos n];exact b.activateS _
 rw[if_neg n]
 by_cases k:a.op=5
 ·rw[if_pos k];exact b.loadS _
 rw[if_neg k]
 by_cases r:a.op=6
 ·rw[if_pos r];exact b.abortS _
 rw[if_neg r]
 by_cases j:a.op=7
 ·rw[if_pos j];exact b.tearS _
 rw[if_neg j]
 by_cases l:a.op=8
 ·rw[if_pos l];exact b.tickS _
 rw[if_neg l]
 by_cases p:a.op=9
 ·rw[if_pos p];exact b.stepS
 rw[if_neg p]
 by_cases i:a.op=10
 ·rw[if_pos i];exact b.answerS _ _ _
 rw[if_neg i]
 by_cases e:a.op=11
 ·rw[if_pos e];exact b.chunkS _ _
 rw[if_neg e]
 by_cases c:a.op=12
 ·rw[if_pos c];exact b.tailS _
 rw[if_neg c]
 by_cases f:a.op=13
 ·rw[if_pos f];exact b.failsS _
 rw[if_neg f]
 by_cases d:a.op=14
 ·rw[if_pos d];exact b.readsS _ _
 rw[if_neg d]
 exact b
def Safe.newS (c:Zcq):Safe (Lk.newS c):=by
 refine⟨fun i f h=>absurd (show([]:List ZC)[i]? =some f from h) (by rw[List.getElem?_nil];exact fun e=>nomatch e),?_⟩
 show Zar 0 [] [] [] 0 [] []
 refine⟨fun _ h=> ?_,fun _ h=> ?_,fun _ h=> ?_,fun _ h=> ?_,fun _ h=> ?_,fun _ h=> ?_,List.nodup_nil,List.nodup_nil,fun _ h=> ?_,List.nodup_nil,fun _ h=> ?_,Int.le_refl 0⟩
 all_goals cases h
end Go.Lk
