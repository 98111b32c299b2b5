import Derived.Lib.LaidTab
import Derived.Lib.SplitLaws
import Derived.Test.YtbgbeddbfaopgaaGreatDoorZ3
set_option linter.all false
set_option maxHeartbeats 16000000
set_option maxRecDepth 100000
set_option autoImplicit true
set_option relaxedAutoImplicit true
namespace Go.Lk
open Go.RowKit
def Zaa {α:Type} (l:List α) (i:Nat):List α:=l.take i++l.drop (i+1)
def leftT (now a:Nat):Nat:=if a≤now then 0 else a-now
structure ZaW where
 total:Int
 aging:Nat
 high:Int
 low:Int
 idle:Nat
 cache:Int
 timeout:Nat
 deriving DecidableEq
def ZcE (s:Int):Bool:=decide (6≤s)&&decide (s≤10)
def Zkl (a c:Int):Bool:=
 if a=1 then c==2||c==9
 else if a=2 then c==3||c==4||c==9||c==10
 else if a=3 then c==2||(ZcE c&&c !=6)
 else if a=4 then c==5||(ZcE c&&c !=6)
 else if a=5 then ZcE c&&c !=8
 else false
def goL (a c:Int):Int:=if Zkl a c then c else a
structure Za7 where
 high:Int
 low:Int
 state:Int
 paused:Bool
 q:Bs
def Ze5 (high low:Int):Za7:=⟨max 1 (min high 1024),max 0 (min low (max 1 (min high 1024)-1)),1,false,[]⟩
def ZnQ (s:Za7) (x:Bs):Za7×Int:=
 if s.state≠1 then(s,12)else if x.length=0∨64<x.length then(s,4)else if s.paused then(s,10)
 else({s with q:=s.q++x,paused:=decide (s.high≤(s.q++x).length)},0)
def Zbl (s:Za7):Za7×Int:=if s.state≠1 then(s,12)else({s with state:=2,paused:=false},0)
def Zp3 (s:Za7) (n:Nat):Za7×Bs:=({s with q:=s.q.drop n,paused:=s.paused&&decide (s.low<(s.q.drop n).length)},s.q.take n)
def ZaZ (s:Za7):Za7:={s with state:=3,paused:=false,q:=[]}
def Zc9 (s:Za7):Bool:=s.state==3||(s.state==2&&s.q.length==0)
structure Yu where
 key:Bs
 uses:Int
def ZaS (t:List Yu) (key:Bs):Option Nat:=t.findIdx? fun h=>h.key==key
def ZjN (t:List Yu) (key:Bs):Option (List Yu)×Int:=
 match ZaS t key with
 |some i=>match t[i]? with
  |some h=>if 6≤h.uses then(none,10)else(some (Zaa t i++[⟨h.key,h.uses+1⟩]),0)
  |none=>(none,10)
 |none=>if 32≤t.length then
   match t.findIdx? (fun h=>h.uses==0)with
   |some i=>(some (Zaa t i++[⟨key,1⟩]),0)
   |none=>(none,10)
  else(some (t++[⟨key,1⟩]),0)
def Zdd (t:List Yu) (key:Bs):List Yu:=
 match ZaS t key with
 |some i=>match t[i]? with
  |some h=>if h.uses=0 then t else t.set i ⟨h.key,h.uses-1⟩
  |none=>t
 |none=>t
structure Zbe where
 num:Int
 key:Bs
 until_:Nat
structure ZaX where
 busy:List Zbe
 idle:List Zbe
 total:Int
 keep:Nat
 hosts:List Yu
 last:Int
def ZiI (total:Int) (idle:Nat):ZaX:=⟨[],[],max 1 (min total 32),idle,[],0⟩
def Zns (p:ZaX) (key:Bs):Nat:=(p.busy.filter fun c=>c.key==key).length
def Zf2 (p:ZaX) (key:Bs):Bool:=decide ((p.busy.length:Int)<p.total)&&decide (Zns p key<6)
def expireP (p:ZaX) (now:Nat):ZaX:={p with idle:=p.idle.filter fun c=> !decide (c.until_≤now)}
def ZbE (p0:ZaX) (key:Bs) (now:Nat):ZaX×Int×Bool×Int:=
 if !Zf2 p0 key then(p0,0,false,10)else
 let p1:=expireP p0 now
 match ZjN p1.hosts key with
 |(none,e)=>(p1,0,false,e)
 |(some hs,_)=>
  let p2:={p1 with hosts:=hs,idle:=p1.idle.filter fun c=>(ZaS hs c.key).isSome}
  match((List.range p2.idle.length).filter fun i=>(p2.idle[i]?.map (·.key))==some key).getLast? with
  |some i=>match p2.idle[i]? with
   |some c=>({p2 with idle:=Zaa p2.idle i,busy:=p2.busy++[c]},c.num,false,0)
   |none=>(p2,0,false,0)
  |none=>
   let p3:=if p2.total≤(p2.busy.length+p2.idle.length:Nat)then{p2 with idle:=Zaa p2.idle 0}else p2
   ({p3 with last:=p3.last+1,busy:=p3.busy++[⟨p3.last+1,key,0⟩]},p3.last+1,true,0)
def giveP (p:ZaX) (num:Int) (now:Nat) (keep:Bool):ZaX:=
 match p.busy.findIdx? (fun c=>c.num==num)with
 |none=>p
 |some i=>match p.busy[i]? with
  |none=>p
  |some c=>
   let p1:={p with busy:=Zaa p.busy i,hosts:=Zdd p.hosts c.key}
   if keep&&decide (0<p.keep)then{p1 with idle:=p1.idle++[{c with until_:=addT now p.keep}]}else p1
structure ZQ where
 id:Int
 cls:Int
 since:Nat
 key:Bs
 pre:Int
def Zo6 (c:Int):Int:=max 1 (min c 6)
def Zd5 (c:Int) (waited aging:Nat):Int:=max 1 (Zo6 c-(min (waited/max aging 1) 6:Nat))
def Zg2 (a c:ZQ) (now aging:Nat):Bool:=
 let x:=Zd5 a.cls (leftT a.since now) aging
 let y:=Zd5 c.cls (leftT c.since now) aging
 decide (x<y)||(x==y&&decide (a.id<c.id))
def putQ (q:List ZQ) (i:ZQ):List ZQ:=
 if i.id<1∨i.cls<1∨6<i.cls then q else if q.any (fun x=>x.id==i.id)then q else if 128≤q.length then q else q++[i]
def dropQ (q:List ZQ) (id:Int):List ZQ:=match q.findIdx? (fun x=>x.id==id)with
 |some i=>Zaa q i
 |none=>q
def Zaj (q:List ZQ) (now aging:Nat) (shut:List Bs):Option ZQ:=
 q.foldl (fun best i=>if shut.contains i.key then best else match best with
  |none=>some i
  |some x=>if Zg2 i x now aging then some i else best) none
def Zej (a c:Zr):Bool:=a.cell==c.cell&&a.method==c.method&&a.header==c.header
def Zig (l:List Zr) (now:Nat):List Zr:=l.filter fun e=> !decide (e.until_≤now)
def Zdf (l:List Zr):Nat:=(List.range l.length).foldl (fun a i=>match l[i]?,l[a]? with
 |some e,some x=>if e.until_<x.until_ then i else a
 |_,_=>a) 0
def ZcG (l0:List Zr) (most:Int) (e:Zr) (now:Nat):List Zr:=
 if(e.method==[])==(e.header==[])∨e.until_≤now then l0 else
 let l:=Zig l0 now
 match l.findIdx? (fun x=>Zej x e)with
 |some i=>match l[i]? with
  |some x=>l.set i {x with until_:=e.until_}
  |none=>l
 |none=>(if most≤(l.length:Int)then Zaa l (Zdf l)else l)++[e]
def ZiJ (l:List Zr) (e:Zr) (now:Nat):Bool:=l.any fun x=>Zej x e&&decide (now<x.until_)
def Zhy (l:List Zr) (c:ZeC) (m:Bs) (now:Nat):Bool:=(m !=[]&&ZiJ l ⟨c,m,[],0⟩ now)||(!c.creds&&ZiJ l ⟨c,[42],[],0⟩ now)
def Zdr (l:List Zr) (c:ZeC) (n0:Bs) (now:Nat):Bool:=
 let n:=Yx n0
 (n !=[]&&ZiJ l ⟨c,[],n,0⟩ now)||(!c.creds&&n !=[97,117,116,104,111,114,105,122,97,116,105,111,110]&&ZiJ l ⟨c,[],[42],0⟩ now)
def Zhx (l:List Zr) (c:ZeC) (m:Bs) (names:List Bs) (now:Nat):Bool:=(ZfX m||Zhy l c m now)&&names.all fun n=>Zdr l c n now
structure ZC where
 due:Nat
 id:Int
 tag:Int
def Zdt:List ZC→Option ZC
 |[]=>none
 |t::l=>match Zdt l with
  |none=>some t
  |some x=>if t.due<x.due∨(t.due=x.due∧t.id<x.id)then some t else some x
structure Z5 where
 members:List Int
 torn:Bool
def ZqY (l:List Int) (x:Int):List Int:=(l.takeWhile fun y=>decide (y<x))++[x]++(l.dropWhile fun y=>decide (y<x))
def ofG (gs:List Z5) (id:Int):Option Nat:=gs.findIdx? fun g=>g.members.contains id
def Za2 (gs:List Z5) (id:Int):List Z5:=match ofG gs id with
 |some i=>match gs[i]? with
  |some g=>gs.set i {g with members:=g.members.erase id}
  |none=>gs
 |none=>gs
def Zcv (gs:List Z5) (g id:Int):List Z5:=
 if g<1∨(gs.length:Int)<g then gs else match gs[(g-1).toNat]? with
 |none=>gs
 |some x=>if x.torn∨id<1∨(ofG gs id).isSome then gs else gs.set (g-1).toNat {x with members:=ZqY x.members id}
structure ZgP where
 parents:List Int
 aborted:Bool
def ZrF (t:List ZgP) (id:Int):List Int:=
 if id<1∨(t.length:Int)<id then[]else
 ((List.range t.length).filter fun(k:Nat)=>decide (id≤(k:Int))).foldl (fun(out:List Int) (k:Nat)=>match t[k]? with
  |some o=>if o.parents.any fun p=>out.contains p then out++[(k:Int)+1]else out
  |none=>out) [id]
structure ZH where
 num:Int
 want:ZdA
 members:List Int
structure Y8 where
 id:Int
 group:Int
 key:Bs
def Zhb (l:List Y8) (id:Int):List Y8:=match l.findIdx? (fun o=>o.id==id)with
 |some i=>Zaa l i
 |none=>l
structure ZE where
 id:Int
 req:Yb
 key:Bs
 state:Int
 since:Nat
 timer:Int
 cleared:Bool
 pre:Int
 conn:Int
 body:Option Za7
 ended:Bool
structure ZM where
 num:Int
 item:Int
 conn:Int
 key:Bs
structure ZhP where
 act:Int
 at_:Nat
 kind:Int
 id:Int
 pre:Int
 conn:Int
 n:Int
 deriving DecidableEq
structure Zf where
 conf:ZaW
 now:Nat
 pool:ZaX
 queue:List ZQ
 cache:List Zr
 timers:List ZC
 tlast:Int
 groups:List Z5
 signals:List ZgP
 shares:List ZH
 slast:Int
 book:List Y8
 made:Int
 all:List ZE
 pres:List ZM
 log:List ZhP
 acts:Int
structure Zad where
 code:Int
 id:Int
 n:Int
 bytes:Bs
def Yy (code:Int):Zad:=⟨code,0,0,[]⟩
def Zak (c:ZaW):Bool:=decide (1≤c.total)&&decide (c.total≤32)&&decide (1≤c.high)&&decide (c.high≤1024)&&decide (0≤c.low)&&decide (c.low<c.high)&&decide (1≤c.cache)&&decide (c.cache≤64)&&
 (decide (1≤c.aging)&&decide (c.aging≤1000)&&decide (c.idle≤1000)&&decide (1≤c.timeout)&&decide (c.timeout≤600))
def newS (c:ZaW):Zf:=⟨c,0,ZiI c.total c.idle,[],[],[],0,[],[],[],0,[],0,[],[],[],0⟩
def ZR (s:Zf) (kind id pre conn n:Int):Zf:={s with log:=s.log++[⟨s.acts,s.now,kind,id,pre,conn,n⟩]}
def Zac (s:Zf) (id:Int):Option ZE:=if id<1∨(s.all.length:Int)<id then none else s.all[(id-1).toNat]?
def setF (s:Zf) (id:Int) (g:ZE→ZE):Zf:={s with all:=s.all.modify (id-1).toNat g}
def Zbo (f:ZE):ZQ:=⟨f.id,f.req.cls,f.since,f.key,0⟩
def openS (s:Zf) (id:Int):Zf:=
 let s1:=setF s id fun f=>{f with state:=goL f.state 2,since:=s.now}
 match Zac s1 id with
 |none=>s1
 |some f=>
  let s2:={s1 with queue:=putQ s1.queue (Zbo f)}
  let t:=if f.req.timeout=0∨(s.conf.timeout:Int)<f.req.timeout then s.conf.timeout else f.req.timeout.toNat
  if 256≤s2.timers.length then setF s2 id fun f=>{f with timer:=0}
  else setF {s2 with timers:=s2.timers++[⟨addT f.since t,s2.tlast+1,id⟩],tlast:=s2.tlast+1} id fun f=>{f with timer:=s2.tlast+1}
def forgetS (s:Zf) (p:ZM) (keep:Bool):Zf:=
 let s1:=if 0<p.conn then{s with pool:=giveP s.pool p.conn s.now keep}else{s with queue:=dropQ s.queue p.item}
 {s1 with pres:=s1.pres.filter fun x=>x.num !=p.num}
def leaveS (s0:Zf) (id:Int):Zf:=
 let s:=setF s0 id fun f=>{f with pre:=0}
 match s.shares.findIdx? (fun o=>o.members.contains id)with
 |none=>s
 |some i=>match s.shares[i]? with
  |none=>s
  |some o=>
   let m:=o.members.filter fun x=>x !=id
   if 0<m.length then{s with shares:=s.shares.set i {o with members:=m}}else
   let s1:={s with shares:=Zaa s.shares i}
   match s1.pres.find? (fun p=>p.num==o.num)with
   |none=>s1
   |some p=>forgetS (ZR s1 7 id o.num p.conn 13) p false
def overS (s:Zf) (id:Int) (state:Int):Zf:=
 match Zac s id with
 |none=>s
 |some f=>if f.ended then s else
  let s1:=ZR (setF s id fun f=>{f with ended:=true,state:=goL f.state state}) (state-6+14) id 0 f.conn 0
  let s2:={s1 with timers:=s1.timers.filter (fun t=>t.id !=f.timer),groups:=Za2 s1.groups id,book:=Zhb s1.book id}
  if f.state=2 then{s2 with queue:=dropQ s2.queue id}
  else if f.state=4∨f.state=5 then setF {s2 with pool:=giveP s2.pool f.conn s2.now (state==6)} id fun f=>{f with body:=f.body.map ZaZ,conn:=0}
  else if f.state=3 then leaveS s2 id
  else s2
def ZaD (s:Zf) (g:Int):Int:=if g<1∨s.made<g then 11 else match s.groups[(g-1).toNat]? with
 |some x=>if x.torn then 13 else 0
 |none=>13
def ZbB (s:Zf) (n:Int):Int:=if(s.signals.length:Int)<n then 11 else if 1≤n∧(s.signals[(n-1).toNat]?.map (·.aborted))=some true then 13 else 0
def submitS (s:Zf) (r:Yb):Zf×Zad:=
 if Za9 r≠0 then(s,Yy (Za9 r))else
 if ZaD s r.group≠0 then(s,Yy (ZaD s r.group))else
 if ZbB s r.signal≠0 then(s,Yy (ZbB s r.signal))else
 let key:=Zek r
 let id:Int:=s.all.length+1
 if s.book.any (fun o=>o.id==id)then(s,Yy 16)else
 if 64≤s.book.length∨24≤(s.book.filter fun o=>o.key==key).length∨32≤(s.book.filter fun o=>o.group==r.group).length then(s,Yy 10)else
 let s1:={s with book:=s.book++[⟨id,r.group,key⟩],all:=s.all++[⟨id,YP r,key,1,0,0,false,0,0,none,false⟩]}
 let s2:=ZR s1 1 id 0 0 r.cls
 let s3:={s2 with groups:=Zcv s2.groups r.group id}
 (if r.cls≠5∧r.cls≠6 then openS s3 id else s3,⟨0,id,0,[]⟩)
def activateS (s:Zf) (id:Int):Zf×Int:=match Zac s id with
 |none=>(s,11)
 |some f=>if f.state≠1 then(s,12)else(openS (ZR s 2 id 0 0 0) id,0)
def loadS (s:Zf) (g:Int):Zf×Zad:=
 if ZaD s g≠0 then(s,Yy (ZaD s g))else
 let ms:=(s.groups[(g-1).toNat]?.map (·.members)).getD []
 let r:=ms.foldl (fun(a:Zf×Int) id=>match Zac a.1 id with
  |some f=>if f.state=1∧f.req.cls=5 then((activateS a.1 id).1,a.2+1)else a
  |none=>a) (s,0)
 (r.1,⟨0,0,r.2,[]⟩)
def abortS (s:Zf) (id:Int):Zf×Zad:=
 if id<1∨(s.signals.length:Int)<id then(s,Yy 11)else
 if(s.signals[(id-1).toNat]?.map (·.aborted))=some true then(s,Yy 13)else
 let l:=(ZrF s.signals id).filter fun k=>(s.signals[(k-1).toNat]?.map (·.aborted))==some false
 let s1:={s with signals:=l.foldl (fun t k=>t.modify (k-1).toNat fun o=>{o with aborted:=true}) s.signals}
 let r:=(s.all.map (·.id)).foldl (fun(a:Zf×Int) i=>match Zac a.1 i with
  |some f=>if !ZcE f.state&&l.contains f.req.signal then(overS a.1 i 9,a.2+1)else a
  |none=>a) (s1,0)
 (r.1,⟨0,0,r.2,[]⟩)
def tearS (s:Zf) (g:Int):Zf×Zad:=
 if g<1∨(s.groups.length:Int)<g then(s,Yy 11)else match s.groups[(g-1).toNat]? with
 |none=>(s,Yy 11)
 |some x=>if x.torn then(s,Yy 13)else
  let s1:={s with groups:=s.groups.set (g-1).toNat ⟨[],true⟩}
  (x.members.foldl (fun a id=>overS a id 9) s1,⟨0,0,x.members.length,[]⟩)
def lateS:Nat→Zf→Int→Zf×Int
 |0,s,n=>(s,n)
 |f+1,s,n=>match Zdt s.timers with
  |none=>(s,n)
  |some t=>if s.now<t.due then(s,n)else lateS f (overS {s with timers:=s.timers.filter fun x=>x.id !=t.id} t.tag 10) (n+1)
def tickS (s:Zf) (n:Nat):Zf×Int:=
 let s1:={s with now:=addT s.now n}
 let r:=lateS s1.timers.length s1 0
 ({r.1 with pool:=expireP r.1.pool r.1.now},r.2)
def ZgK (s:Zf) (f:ZE):Bool:= !f.cleared&&Zdz f.req&& !Zhx s.cache (Zdm f.req) f.req.method (ZaR f.req) s.now
def Zat (s:Zf) (w:ZdA) (id:Int):Zf×Int×Bool:=
 if id<1∨s.shares.any (fun o=>o.members.contains id)∨64≤(s.shares.map (·.members.length)).sum then(s,0,false)else
 match s.shares.findIdx? (fun o=>o.want==w)with
 |some i=>match s.shares[i]? with
  |some o=>({s with shares:=s.shares.set i {o with members:=o.members++[id]}},o.num,false)
  |none=>(s,0,false)
 |none=>({s with shares:=s.shares++[⟨s.slast+1,w,[id]⟩],slast:=s.slast+1},s.slast+1,true)
def holdS (s:Zf) (f:ZE) (i:ZQ):Zf:=
 let j:=Zat s (Zb1 f.req) f.id
 let s1:=ZR (setF j.1 f.id fun f=>{f with state:=goL f.state 3,pre:=j.2.1}) 3 f.id j.2.1 0 0
 if j.2.2 then{s1 with pres:=s1.pres++[⟨j.2.1,f.id,0,f.key⟩],queue:=putQ s1.queue {i with pre:=j.2.1,since:=s1.now}}else s1
def departS (s:Zf) (i:ZQ):Zf:=
 let t:=ZbE s.pool i.key s.now
 let n:Int:=if t.2.2.1 then 1 else 0
 let s1:={s with pool:=t.1}
 if 0<i.pre then ZR {s1 with pres:=s1.pres.map fun p=>if p.num==i.pre then{p with conn:=t.2.1}else p} 4 i.id i.pre t.2.1 n
 else ZR (setF s1 i.id fun f=>{f with state:=goL f.state 4,conn:=t.2.1}) 8 i.id 0 t.2.1 n
def stepF:Nat→Zf→List Bs→Int→Zf×Int
 |0,s,_,n=>(s,n)
 |g+1,s,shut,n=>match Zaj s.queue s.now s.conf.aging shut with
  |none=>(s,n)
  |some i=>if !Zf2 s.pool i.key then stepF g s (shut++[i.key]) n else
   let s1:={s with queue:=dropQ s.queue i.id}
   match Zac s1 i.id with
   |none=>stepF g (departS s1 i) shut (n+1)
   |some f=>if i.pre=0∧ZgK s1 f=true then stepF g (holdS s1 f i) shut n else stepF g (departS s1 i) shut (n+1)
def stepS (s:Zf):Zf×Int:=stepF (3*s.queue.length+1) s [] 0
def Zcz (s:Zf) (conn:Int):Option ZE×Option ZM:=
 if conn<1 then(none,none)else match s.all.find? (fun f=>f.conn==conn)with
 |some f=>(some f,none)
 |none=>(none,s.pres.find? fun p=>p.conn==conn)
def failedS (s:Zf) (p:ZM) (state n:Int):Zf:=
 let l:=((s.shares.find? fun o=>o.num==p.num).map (·.members)).getD []
 let s1:=forgetS (ZR s 7 (l.headD 0) p.num p.conn n) p (state==8)
 let s2:={s1 with shares:=match s1.shares.findIdx? (fun o=>o.num==p.num)with|some i=>Zaa s1.shares i|none=>s1.shares}
 l.foldl (fun a id=>overS a id state) s2
def judgeS (s:Zf) (p:ZM) (status:Int) (hs:List (Bs×Bs)):Zf:=
 let l:=((s.shares.find? fun o=>o.num==p.num).map (·.members)).getD []
 let first:=l.headD 0
 match Zac s first with
 |none=>s
 |some f=>
  let j:=Zbs f.req status hs
  if j.2≠0 then failedS s p 8 j.2 else
  let s1:={s with cache:=(ZbM f.req j.1 s.now).foldl (fun c e=>ZcG c (max 1 (min s.conf.cache 64)) e s.now) s.cache}
  let s2:=forgetS (ZR s1 5 first p.num p.conn 0) p true
  let s3:={s2 with shares:=match s2.shares.findIdx? (fun o=>o.num==p.num)with|some i=>Zaa s2.shares i|none=>s2.shares}
  l.foldl (fun a id=>
   let a1:=ZR (setF a id fun f=>{f with cleared:=true,pre:=0,state:=goL f.state 2}) 6 id p.num 0 0
   match Zac a1 id with
   |some f=>{a1 with queue:=putQ a1.queue (Zbo f)}
   |none=>a1) s3
def answerS (s:Zf) (conn status:Int) (hs:List (Bs×Bs)):Zf×Int:=
 let u:=Zcz s conn
 if u.1.isNone&&u.2.isNone then(s,11)else
 if(u.1.map fun f=>decide (f.state≠4))=some true then(s,12)else
 if Zcd hs≠0 then(s,Zcd hs)else
 if status<200∨599<status then(s,14)else
 match u.2,u.1 with
 |some p,_=>(judgeS s p status hs,0)
 |none,some f=>
  if f.req.mode=3∧ZfJ f.req=true∧Zfm f.req.origin f.req.creds hs≠0 then(overS s f.id 8,0)
  else(setF (ZR s 9 f.id 0 f.conn status) f.id fun f=>{f with state:=goL f.state 5,body:=some (Ze5 s.conf.high s.conf.low)},0)
 |none,none=>(s,11)
def Zcs (s:Zf) (conn:Int):Option ZE×Int:=
 let u:=Zcz s conn
 if u.1.isNone&&u.2.isNone then(none,11)else match u.1 with
 |some f=>if f.state=5 then(some f,0)else(none,12)
 |none=>(none,12)
def chunkS (s:Zf) (conn:Int) (x:Bs):Zf×Int:=match Zcs s conn with
 |(none,e)=>(s,e)
 |(some f,_)=>match f.body with
  |none=>(s,1)
  |some st=>
   let r:=ZnQ st x
   if r.2≠0 then(s,r.2)else
   let s1:=ZR (setF s f.id fun f=>{f with body:=some r.1}) 10 f.id 0 conn x.length
   (if r.1.paused then ZR s1 11 f.id 0 conn 0 else s1,0)
def tailS (s:Zf) (conn:Int):Zf×Int:=match Zcs s conn with
 |(none,e)=>(s,e)
 |(some f,_)=>match f.body with
  |none=>(s,1)
  |some st=>
   let r:=Zbl st
   if r.2≠0 then(s,r.2)else
   let s1:=ZR (setF s f.id fun f=>{f with body:=some r.1}) 13 f.id 0 conn 0
   (if Zc9 r.1 then overS s1 f.id 6 else s1,0)
def failsS (s:Zf) (conn:Int):Zf×Int:=match Zcz s conn with
 |(_,some p)=>(failedS s p 7 0,0)
 |(none,none)=>(s,11)
 |(some f,none)=>if f.state=5∧(f.body.map (·.state))≠some 1 then(s,12)else(overS s f.id 7,0)
def readsS (s:Zf) (id n:Int):Zf×Zad:=match Zac s id with
 |none=>(s,Yy 11)
 |some f=>if f.state≠5 then(s,Yy 12)else if n<1∨2048<n then(s,Yy 2)else match f.body with
  |none=>(s,Yy 0)
  |some st=>
   let r:=Zp3 st n.toNat
   let s1:=setF s id fun f=>{f with body:=some r.1}
   let s2:=if st.paused&& !r.1.paused then ZR s1 12 id 0 f.conn 0 else s1
   (if Zc9 r.1 then overS s2 id 6 else s2,⟨0,0,r.2.length,r.2⟩)
def doS (s0:Zf) (a:ZbQ):Zf×Zad:=
 let s:={s0 with acts:=s0.acts+1}
 if a.op=1 then(if 64≤s.groups.length then(s,Yy 10)else({s with groups:=s.groups++[⟨[],false⟩],made:=s.groups.length+1},⟨0,s.groups.length+1,0,[]⟩))
 else if a.op=2 then
  if 64≤s.signals.length then(s,Yy 10)else
  match a.ids.find? (fun p=>decide (p<1)||decide ((s.signals.length:Int)<p)||(s.signals[(p-1).toNat]?.map (·.aborted))==some true)with
  |some p=>(s,Yy (if p<1∨(s.signals.length:Int)<p then 11 else 13))
  |none=>({s with signals:=s.signals++[⟨a.ids,false⟩]},⟨0,s.signals.length+1,0,[]⟩)
 else if a.op=3 then submitS s a.req
 else if a.op=4 then((activateS s a.id).1,Yy (activateS s a.id).2)
 else if a.op=5 then loadS s a.id
 else if a.op=6 then abortS s a.id
 else if a.op=7 then tearS s a.id
 else if a.op=8 then((tickS s a.time.toNat).1,⟨0,0,(tickS s a.time.toNat).2,[]⟩)
 else if a.op=9 then((stepS s).1,⟨0,0,(stepS s).2,[]⟩)
 else if a.op=10 then((answerS s a.id a.status a.headers).1,Yy (answerS s a.id a.status a.headers).2)
 else if a.op=11 then((chunkS s a.id a.bytes).1,Yy (chunkS s a.id a.bytes).2)
 else if a.op=12 then((tailS s a.id).1,Yy (tailS s a.id).2)
 else if a.op=13 then((failsS s a.id).1,Yy (failsS s a.id).2)
 else if a.op=14 then readsS s a.id a.n
 else(s,Yy 2)
end Go.Lk
namespace Go.Proofs.YtbgbeddbfaopgaaGreatDoor
open Go.RowKit Go.Lk
def ZqR:Value→Nat
 | .string b=>b.size
 |_=>0
theorem Zn9:∀n:Fin 256,decide (0≤Lib.indexByte [9,10,13,32] (UInt8.ofNat n.val))=ZaU (UInt8.ofNat n.val):=by decide+kernel
theorem Zqg (c:UInt8):decide (0≤Lib.indexByte (⟨#[9,10,13,32]⟩:ByteArray).data.toList ((c.toNat:Int).toNat.toUInt8))=ZaU c:=by
 rw[show((c.toNat:Int).toNat.toUInt8)=c by simp]
 have:=Zn9 ⟨c.toNat,c.toNat_lt⟩
 simpa using this
theorem ZgZ (c:UInt8) (w:World):
  Calls Tryz.prog 270 #[.int .u8 c.toNat] w fun e w'=>e= .returned (.bool (ZaU c))∧w'=w:=by
 have a:=Zqg c
 obtain⟨n,b⟩:=Je (Lib.indexByte (⟨#[9,10,13,32]⟩:ByteArray).data.toList ((c.toNat:Int).toNat.toUInt8))
 rw[←b]at a
 have q:= Tryz.strings_IndexByte ⟨#[9,10,13,32]⟩ (c.toNat:Int) w
 rw[←b]at q
 have Q:=D q;have h:=D a
 clear b q a
 rw[←h.out]
 go_enter Tryz.func270,Tryz.ntmps270
 go_wp2_with fail
 refine Q.out.mono ?_
 rintro e g ⟨rfl,d⟩
 rw[d];clear d g Q
 go_wp2_with fail
 go_ret
 exact⟨by first|rfl|simp,rfl⟩
theorem Za4 (x:Bs) (w:World) (hx:x.length≤1000000):
  Calls Tryz.prog 192 #[.string ⟨x.toArray⟩] w fun e w'=>e= .returned (.string ⟨(YO x).toArray⟩)∧w'=w:=by
 obtain⟨r,s⟩:=Je (YO x)
 have F:=D (show r=((x.dropWhile ZaU).reverse.dropWhile ZaU).reverse by rw[s];rfl)
 rw[←s]
 clear s
 go_enter Tryz.func192,Tryz.ntmps192
 go_wp2_with fail
 go_loopw[0] (fun v0 wr=>∃(y:Bs),v0= .string ⟨y.toArray⟩∧y.dropWhile ZaU=x.dropWhile ZaU∧y.length≤x.length∧wr=w) (fun v0 _=>ZqR v0)
 case atStart=>exact⟨x,rfl,rfl,Xi _,rfl⟩
 case round=>
  obtain⟨y,rfl,i,n,rfl⟩:=hrel
  have m:=D i;clear i
  have rest:∀I:Bs,I=x.dropWhile ZaU→True:=fun _ _=>trivial
  cases y with
  |nil=>
   have h:r=[]:=by rw[F.out,←m.out];rfl
   clear rest;change Hid _ at h
   go_wp2_with fail
   go_loopw[0] (fun v0 wr2=>v0= .string ⟨#[]⟩∧wr2=wr) (fun v0 _=>ZqR v0)
   case atStart=>exact⟨rfl,rfl⟩
   case round=>
    obtain⟨rfl,rfl⟩:=hrel
    go_wp2_with fail
    go_ret
    exact⟨by rw[h.out];rfl,rfl⟩
  |cons c t=>
   have q:=ZgZ c wr
   obtain⟨b,a⟩:=Je (ZaU c)
   rw[←a]at q
   have Q:=D q
   have C:((c::t:Bs)==[])=false:=rfl
   have hg:=Zar (c::t) 0 (by simp)
   simp only[Xv]at hg
   clear q rest;change Hid _ at a
   go_wp2_with fail
   refine Q.out.mono ?_
   rintro e p ⟨rfl,g⟩
   rw[g];clear g p Q hg
   cases b with
   |true=>
    have H:ByteArray.extract ⟨(c::t).toArray⟩ 1 (t.length+1)=⟨t.toArray⟩:=by
     rw[Lib.extract_eq]
     show(⟨((t).take (t.length+1-1)).toArray⟩:ByteArray)=_
     rw[List.take_of_length_le (by omega)]
    have j:t.dropWhile ZaU=x.dropWhile ZaU:=by rw[←m.out,List.dropWhile_cons_of_pos (by rw[←a.out])]
    change Hid _ at j
    go_wp2_with fail
    refine⟨⟨t,rfl,j.out,by simp at n;omega,by trivial⟩,?_⟩
    simp only[ZqR,ByteArray.size,List.size_toArray,List.length_cons]
    omega
   |false=>
    have hd:x.dropWhile ZaU=c::t:=by rw[←m.out,List.dropWhile_cons_of_neg (by rw[←a.out];simp)]
    have h:=D (show((c::t).reverse.dropWhile ZaU).reverse=r by rw[F.out,hd])
    obtain⟨y,i⟩:=Je (c::t)
    rw[←i]at h n⊢
    clear hd i a m C
    go_wp2_with fail
    go_loopw[0] (fun v0 wr2=>∃(z:Bs),v0= .string ⟨z.toArray⟩∧(z.reverse.dropWhile ZaU).reverse=r∧z.length≤x.length∧wr2=wr) (fun v0 _=>ZqR v0)
    case atStart=>exact⟨y,rfl,h.out,n,rfl⟩
    case round=>
     obtain⟨z,rfl,G,o,rfl⟩:=hrel
     have l:=D G;clear G
     rcases List.eq_nil_or_concat z with rfl|⟨u,d,rfl⟩
     ·have E:r=[]:=by rw[←l.out];rfl
      have k:=D E;clear E
      go_wp2_with fail
      go_ret
      exact⟨by rw[k.out];rfl,rfl⟩
     ·rw[List.concat_eq_append]at l o⊢
      have q:=ZgZ d wr
      obtain⟨b,a⟩:=Je (ZaU d)
      rw[←a]at q
      have Q:=D q
      have C:((u++[d]:Bs)==[])=false:=by rw[beq_eq_false_iff_ne];simp
      have hg:=Zar (u++[d]) u.length (by simp)
      simp only[List.getElem_append_right (Xi _),Nat.sub_self,Xv]at hg
      have J:u.length+1≤1000000:=by simp at o;omega
      clear q;change Hid _ at a
      go_wp2_with fail
      refine Q.out.mono ?_
      rintro e p ⟨rfl,g⟩
      rw[g];clear g p Q hg
      cases b with
      |true=>
       have H:ByteArray.extract ⟨(u++[d]).toArray⟩ 0 u.length=⟨u.toArray⟩:=by
        rw[Lib.extract_eq]
        show(⟨((u++[d]).take u.length).toArray⟩:ByteArray)=_
        rw[List.take_left]
       have j:(u.reverse.dropWhile ZaU).reverse=r:=by rw[←l.out,List.reverse_append,List.reverse_singleton,List.singleton_append,List.dropWhile_cons_of_pos (by rw[←a.out])]
       change Hid _ at j
       go_wp2_with fail
       refine⟨⟨u,rfl,j.out,by simp at o;omega,by trivial⟩,?_⟩
       simp only[ZqR,ByteArray.size,List.size_toArray,Xd,List.length_cons,List.length_nil]
       omega
      |false=>
       have k:r=u++[d]:=by rw[←l.out,List.reverse_append,List.reverse_singleton,List.singleton_append,List.dropWhile_cons_of_neg (by rw[←a.out];simp)];simp
       change Hid _ at k
       go_wp2_with fail
       go_ret
       exact⟨by rw[k.out];rfl,rfl⟩
theorem ZjK (x:Bs) (w:World) (hx:x.length≤1000000):
  Calls Tryz.prog 180 #[.string ⟨x.toArray⟩] w fun e w'=>e= .returned (.int .i64 (ZcA x))∧Zg [] w w':=by
 obtain⟨y,j⟩:=Je (Zaz x)
 obtain⟨d,i⟩:=Je (ZlC x)
 have s:ZcA x=if !y||decide (32<x.length)||d then 5 else 0:=by unfold ZcA;rw[←j,←i]
 obtain⟨r,b⟩:=Je (ZcA x)
 rw[←b]
 have k:=D (b.trans s)
 have h:=Zco x w hx
 have c:=fun t=>Zlg x t hx
 rw[←j]at h
 simp only[←i]at c
 have z:=D h;have C:=D c
 clear h c s j i b
 go_enter Tryz.func180,Tryz.ntmps180
 go_wp2_with fail
 refine z.out.mono ?_
 rintro e t ⟨rfl,rfl⟩
 cases y with
 |false=>
  have a:r=5:=by rw[k.out];rfl
  change Hid _ at a
  go_wp2_with fail
  go_ret
  exact⟨by rw[a.out];rfl,Zg.refl _ _⟩
 |true=>
 by_cases n:32<x.length
 ·have m:r=5:=by rw[k.out,decide_eq_true n];rfl
  have a:=D m;clear m
  have g:(32:Int)<x.length:=by omega
  go_wp2_with fail
  go_ret
  exact⟨by rw[a.out];rfl,Zg.refl _ _⟩
 ·have o:r=if d then 5 else 0:=by rw[k.out,decide_eq_false n];rfl
  have l:=D o;clear o
  have g:¬((32:Int)<x.length):=by omega
  go_wp2_with fail
  refine(C.out w).mono ?_
  rintro e E ⟨rfl,q⟩
  have p:=D q;clear q
  cases d with
  |true=>
   go_wp2_with fail
   go_ret
   exact⟨by rw[l.out];rfl,p.out⟩
  |false=>
   go_wp2_with fail
   go_ret
   exact⟨by rw[l.out];rfl,p.out⟩
theorem ZoB (a b:Nat) (hb:b≤18446744073709551615) (w:World):
  Calls Tryz.prog 287 #[.int .u64 a, .int .u64 b] w fun e w'=>e= .returned (.int .u64 (leftT a b:Nat))∧w'=w:=by
 by_cases h:b≤a
 ·have c:leftT a b=0:=by unfold leftT;rw[if_pos h]
  rw[c]
  have d:(b:Int)≤a:=by omega
  go_enter Tryz.func287,Tryz.ntmps287
  go_wp2_with fail
  go_ret
  exact⟨rfl,rfl⟩
 ·have c:((leftT a b:Nat):Int)=(b:Int)-a:=by unfold leftT;rw[if_neg h];omega
  rw[c]
  have d:¬((b:Int)≤a):=by omega
  go_enter Tryz.func287,Tryz.ntmps287
  go_wp2_with fail
  go_ret
  exact⟨rfl,rfl⟩
theorem Zc8 (x:Bs) (w:World):
  Calls Tryz.prog 177 #[.string ⟨x.toArray⟩] w fun e w'=>e= .returned (.int .i64 (YX x))∧w'=w:=by
 by_cases a:x=[104,116,116,112]
 ·have d:(x==[104,116,116,112])=true:=by rw[a];rfl
  have b:YX x=80:=by unfold YX;rw[if_pos a]
  rw[b]
  clear b a
  go_enter Tryz.func177,Tryz.ntmps177
  go_wp2_with fail
  go_ret
  exact⟨rfl,rfl⟩
 ·have d:(x==[104,116,116,112])=false:=by rw[beq_eq_false_iff_ne];exact a
  by_cases c:x=[104,116,116,112,115]
  ·have g:(x==[104,116,116,112,115])=true:=by rw[c];rfl
   have b:YX x=443:=by unfold YX;rw[if_neg a,if_pos c]
   rw[b]
   clear b a c
   go_enter Tryz.func177,Tryz.ntmps177
   go_wp2_with fail
   go_ret
   exact⟨rfl,rfl⟩
  ·have g:(x==[104,116,116,112,115])=false:=by rw[beq_eq_false_iff_ne];exact c
   have b:YX x=0:=by unfold YX;rw[if_neg a,if_neg c]
   rw[b]
   clear b a c
   go_enter Tryz.func177,Tryz.ntmps177
   go_wp2_with fail
   go_ret
   exact⟨rfl,rfl⟩
theorem Zna (c:UInt8):(ZkA c=true∧((97≤(c.toNat:Int)∧(c.toNat:Int)≤122)∨(48≤(c.toNat:Int)∧(c.toNat:Int)≤57)∨(c.toNat:Int)=45))∨(ZkA c=false∧(((c.toNat:Int)<48∧(c.toNat:Int)≠45)∨(57<(c.toNat:Int)∧(c.toNat:Int)<97)∨122<(c.toNat:Int))):=by
 have g:(c==45)=decide (c.toNat=45):=by
  rw[Bool.eq_iff_iff,beq_iff_eq,decide_eq_true_eq]
  exact⟨fun h=>by rw[h];rfl,fun h=>UInt8.toNat_inj.1 h⟩
 unfold ZkA
 rw[g]
 by_cases a:97≤c.toNat<;>by_cases b:c.toNat≤122<;>by_cases d:48≤c.toNat<;>by_cases e:c.toNat≤57<;>by_cases f:c.toNat=45<;>simp[a,b,d,e,f]<;>omega
theorem Zbk {P:Prop}(h:P:=by
 go_enter Tryz.func311,Tryz.ntmps311
 go_wp2_with fail
 go_ret
 exact⟨by rw[b.out];rfl,rfl⟩):P:=h
theorem Zcc {P:Prop}(h:P:=by
 go_wp2_with fail
 exact⟨⟨k+1,by omega,by go_num,J.out,by trivial⟩,by simp[intOf];omega⟩):P:=h
theorem ZhG (x:Bs) (w:World) (hx:x.length≤1000000):
  Calls Tryz.prog 311 #[.string ⟨x.toArray⟩] w fun e w'=>e= .returned (.bool (Zd0 x))∧w'=w:=by
 obtain⟨r,H⟩:=Je (Zd0 x)
 have j:=D H
 rw[←H]
 clear H
 rcases List.eq_nil_or_concat x with rfl|⟨u,d,rfl⟩
 ·have a:r=false:=by rw[j.out];rfl
  have b:=D a;clear a
  exact Zbk
 rw[List.concat_eq_append]at j hx⊢
 obtain⟨q,z⟩:=Je ((u++[d])[0]'(by simp))
 have S:=Zar (u++[d]) 0 (by simp)
 have T:=Zar (u++[d]) u.length (by simp)
 simp only[List.getElem_append_right (Xi _),Nat.sub_self,Xv]at T
 rw[←z]at S
 have ab:u.length+1≤1000000:=by simp at hx;omega
 have M:(u++[d]).head? =some q:=by rw[z,List.head?_eq_getElem?,Xa]
 have N:(u++[d]).getLast? =some d:=by simp
 have m:Zd0 (u++[d])=(decide (u.length+1≤63)&&(some q !=some (45:UInt8))&&(some d !=some (45:UInt8))&&(u++[d]).all ZkA):=by
  unfold Zd0
  rw[M,N]
  simp
 have G:∀c:UInt8,((c.toNat:Int)==45)=decide (c=45):=fun c=>by
  rw[Bool.eq_iff_iff,beq_iff_eq,decide_eq_true_eq]
  exact⟨fun h=>UInt8.toNat_inj.1 (by show c.toNat=45;omega),fun h=>by rw[h];rfl⟩
 have I:=G q
 have K:=G d
 clear M N z G;change Hid _ at m
 have g1:¬((u.length:Int)+1<1):=by omega
 by_cases ac:63<u.length+1
 ·have a:r=false:=by rw[j.out,m.out,decide_eq_false (by omega)];rfl
  have b:=D a;clear a
  have g:(63:Int)<(u.length:Int)+1:=by omega
  exact Zbk
 have g:¬((63:Int)<(u.length:Int)+1):=by omega
 by_cases i:q=45
 ·have a:r=false:=by rw[j.out,m.out,i];simp
  have b:=D a;clear a
  rw[decide_eq_true i]at I
  clear i
  exact Zbk
 rw[decide_eq_false i]at I
 by_cases hd:d=45
 ·have a:r=false:=by rw[j.out,m.out,hd];simp
  have b:=D a;clear a
  rw[decide_eq_true hd]at K
  clear hd i
  exact Zbk
 rw[decide_eq_false hd]at K
 have C:=D (show r=(u++[d]).all ZkA by rw[j.out,m.out,decide_eq_true (by omega)];simp[i,hd])
 clear i hd j m
 go_enter Tryz.func311,Tryz.ntmps311
 go_wp2_with fail
 obtain⟨x,E⟩:=Je (u++[d])
 have aa:x.length=u.length+1:=by rw[E];simp
 rw[←E]at C⊢
 clear E S T I K
 rw[show(u.length:Int)+1=(x.length:Int)by omega]at*
 go_loopw[28] (fun v28 wr=>∃(k:Nat),k≤x.length∧v28= .int .i64 k∧(x.take k).all ZkA=true∧wr=w) (fun v28 _=>x.length-(intOf v28).toNat)
 case atStart=>exact⟨0,by omega,rfl,rfl,rfl⟩
 case round=>
  obtain⟨k,hk,rfl,O,rfl⟩:=hrel
  have Q:=D O;clear O
  by_cases F:k<x.length
  ·obtain⟨y,t⟩:=Je (x[k])
   have hg:=Zar x k F
   rw[←t]at hg
   have R:x.take (k+1)=x.take k++[y]:=by rw[Xr F,t]
   have P:y∈x:=by rw[t];exact List.getElem_mem F
   have Y:=D P
   clear P t;change Hid _ at R
   rcases Zna y with⟨o,i⟩|⟨o,i⟩
   ·have L:(x.take (k+1)).all ZkA=true:=by rw[R.out,List.all_append,Q.out];simp[o]
    have J:=D L
    clear L o
    rcases i with⟨l,s⟩|⟨l,s⟩|l
    ·have p:¬((y.toNat:Int)<97):=by omega
     have n:¬((122:Int)<(y.toNat:Int)):=by omega
     exact Zcc
    ·have p:(y.toNat:Int)<97:=by omega
     have n:¬((y.toNat:Int)<48):=by omega
     have X:¬((57:Int)<(y.toNat:Int)):=by omega
     exact Zcc
    ·have p:(y.toNat:Int)<97:=by omega
     have n:(y.toNat:Int)<48:=by omega
     have X:((y.toNat:Int) !=45)=false:=by rw[l];rfl
     clear l
     exact Zcc
   ·have a:r=false:=by
     rw[C.out,Bool.eq_false_iff]
     intro h
     have:=(Xk.1 h) y Y.out
     rw[o]at this;cases this
    have b:=D a;clear a o
    have X:((y.toNat:Int) !=45)=true:=by rw[bne_iff_ne];omega
    rcases i with⟨l,s⟩|⟨l,s⟩|l
    ·have p:(y.toNat:Int)<97:=by omega
     have n:(y.toNat:Int)<48:=by omega
     clear s
     go_wp2_with fail
     go_ret
     exact⟨by rw[b.out];rfl,by trivial⟩
    ·have p:(y.toNat:Int)<97:=by omega
     have n:¬((y.toNat:Int)<48):=by omega
     have Z:(57:Int)<(y.toNat:Int):=by omega
     go_wp2_with fail
     go_ret
     exact⟨by rw[b.out];rfl,by trivial⟩
    ·have p:¬((y.toNat:Int)<97):=by omega
     have n:(122:Int)<(y.toNat:Int):=by omega
     have n5:¬((y.toNat:Int)<48):=by omega
     have Z:(57:Int)<(y.toNat:Int):=by omega
     go_wp2_with fail
     go_ret
     exact⟨by rw[b.out];rfl,by trivial⟩
  ·have W:k=x.length:=by omega
   have V:r=true:=by rw[C.out];have:=Q.out;rw[W,Xm]at this;exact this
   clear W;change Hid _ at V
   go_wp2_with fail
   go_ret
   exact⟨by rw[V.out];rfl,by trivial⟩
structure Env (w:World):Prop where
 m:∃m,w.cell? ⟨0,0,none⟩=some (.int .i64 m)
 tab:Lib.TabIs Tryz.prog w "internal/strconv.uint64pow10" .u64 Lib.pow10Tab
theorem ZiF: Tryz.prog.globalNamed "internal/strconv.uint64pow10"=some 1:=by kernel_rfl
theorem Env.pow_lt (h:Env w):∃cs t f,w.heap[1]? =some (.cells cs t f):=by
 have:=h.tab
 unfold Lib.TabIs World.var? at this
 rw[ZiF]at this
 simp only[Option.bind_some]at this
 split at this
 ·exact⟨_,_,_,by assumption⟩
 ·cases this
def Znv (x:Nat):Prop:=2≤x
theorem Env.upd (h:Env w) (hu:Zg F w w1) (hF:∀x∈F,Znv x):Env w1:=by
 obtain⟨m,a⟩:=h.m
 refine⟨⟨m,(Xp (hu.block 0 (Xo _ _ a) (fun hx=>by have:=hF _ hx;unfold Znv at this;omega))).trans a⟩,?_⟩
 obtain⟨c,t,f,b⟩:=h.pow_lt
 have e:w1.heap[1]? =w.heap[1]? :=by
  refine hu.block _ ?_ (fun hx=>by have:=hF _ hx;unfold Znv at this;omega)
  exact(Jg b)
 have:=h.tab
 unfold Lib.TabIs World.var? at this⊢
 rw[ZiF]at this⊢
 simp only[Option.bind_some]at this⊢
 rw[e];exact this
theorem Env.upd0 (h:Env w) (hu:Zg [] w w1):Env w1:=h.upd hu (by simp)
theorem Env.size (h:Env w):2≤w.heap.size:=by
 obtain⟨b,t,f,a⟩:=h.pow_lt
 exact(Jg a)
def Y1 (w:World) (A:Option Addr) (ws:List Bs):Prop:=∀(j:Nat) (x:Bs),ws[j]? =some x→∃ab ao,A=some ⟨ab,ao,none⟩∧w.cell? ⟨ab,ao+j,none⟩=some (.string ⟨x.toArray⟩)
theorem Y1.upd {ws:List Bs} (h:Y1 w A ws) (hu:Zg F w w1) (hF:∀ab ao,A=some ⟨ab,ao,none⟩→ab∉F):Y1 w1 A ws:=fun j x hj=>by
 obtain⟨ab,ao,e,hc⟩:=h j x hj
 exact⟨ab,ao,e,(Xp (hu.block ab (Xo _ _ hc) (hF ab ao e))).trans hc⟩
theorem Y1.tail {x:Bs} {ws:List Bs} (h:Y1 w A (x::ws)):Y1 w (A.map (fun a=>a.add 1)) ws:=fun j y hj=>by
 obtain⟨ab,ao,rfl,hc⟩:=h (j+1) y (by simpa using hj)
 exact⟨ab,ao+1,by simp[add_plain],by rw[show ao+1+j=ao+(j+1)by omega];exact hc⟩
theorem Y1.nil (w:World) (A:Option Addr):Y1 w A []:=fun j x hj=>by cases hj
theorem Y1.fresh (w:World) (T:TypeId) (xs:List ByteArray):Y1 (w.alloc (.cells (xs.map Value.string).toArray T)) (some ⟨w.heap.size,0,none⟩) (xs.map (·.data.toList)):=fun j x hj=>by
 rw[Xe]at hj
 obtain⟨y,hy,rfl⟩:=Option.map_eq_some_iff.1 hj
 refine⟨w.heap.size,0,rfl,?_⟩
 rw[Nat.zero_add]
 exact Zc (Za _) (by simp[hy])
theorem Zgy (hE:Env w) (s:Bs) (c:UInt8) (hs:s.length≤900000):
  Calls Tryz.prog 257 #[.string ⟨s.toArray⟩, .string ⟨#[c]⟩] w fun e w'=>e= .returned (.slice (some ⟨w.heap.size,0,none⟩) (Lib.split s [c]).length (Lib.split s [c]).length)∧Y1 w' (some ⟨w.heap.size,0,none⟩) (Lib.split s [c])∧Zg [] w w':=by
 obtain⟨m,g⟩:=hE.m
 have h:= Tryz.strings_Split ⟨s.toArray⟩ ⟨#[c]⟩ m w (by simp[ByteArray.size];omega) g (Xi 1)
 have hd:=Lib.splitB_data ⟨#[c]⟩ 0 (Lib.countB ⟨s.toArray⟩ ⟨#[c]⟩) ⟨s.toArray⟩
 have d:=Lib.splitB_all ⟨#[c]⟩ (Xi 1) 0 _ ⟨s.toArray⟩ rfl
 have a:(Lib.splitB ⟨#[c]⟩ 0 (Lib.countB ⟨s.toArray⟩ ⟨#[c]⟩) ⟨s.toArray⟩).map (·.data.toList)=Lib.split s [c]:=hd
 have b:Lib.countB ⟨s.toArray⟩ ⟨#[c]⟩+1=(Lib.split s [c]).length:=by rw[←a,Xb,d]
 refine h.mono ?_
 rintro e w' ⟨rfl,rfl⟩
 rw[b]
 refine⟨rfl,?_,(Zg.refl [] w).alloc _⟩
 have:=Y1.fresh w 9 (Lib.splitB ⟨#[c]⟩ 0 (Lib.countB ⟨s.toArray⟩ ⟨#[c]⟩) ⟨s.toArray⟩)
 rw[a]at this
 exact this
end Go.Proofs.YtbgbeddbfaopgaaGreatDoor
namespace Go.Lk
open Go.Lib
theorem Zjt (c:UInt8):∀(x r:List UInt8),c∉x→index (x++c::r) [c]=x.length
 |[],r,_=>by simp[index]
 |b::x,r,h=>by
  have hb:c≠b:=fun e=>h (by simp[e])
  have ih:=Zjt c x r (fun hm=>h (by simp[hm]))
  show index (b::(x++c::r)) [c]=_
  rw[index]
  simp only[List.isPrefixOf,beq_iff_eq,Bool.and_true,hb,if_false,ih]
  rw[if_neg (by omega)]
  simp
theorem Zjw (c:UInt8) (x:List UInt8) (h:c∉x):split x [c]=[x]:=by
 unfold split
 rw[count_one,List.count_eq_zero.2 h];rfl
theorem Zjq (c:UInt8) (x r:List UInt8) (h:c∉x):split (x++c::r) [c]=x::split r [c]:=by
 unfold split
 have a:count (x++c::r) [c]=count r [c]+1:=by
  rw[count_one,count_one,List.count_append,List.count_cons_self,List.count_eq_zero.2 h];omega
 rw[a,splitK,Zjt c x r h,if_neg (by simp)]
 simp only[Int.toNat_natCast,Nat.add_zero,List.length_cons,List.length_nil,List.take_left']
 rw[show(x++c::r).drop (x.length+(0+1))=r by rw[List.drop_append];simp]
end Go.Lk
namespace Go.Proofs.YtbgbeddbfaopgaaGreatDoor
open Go.RowKit Go.Lk
theorem ZaN (c:UInt8):∀(n:Nat) (s:Bs),s.length≤n→(Lib.split s [c]).length≤s.length+1∧∀x∈Lib.split s [c],x.length≤s.length
 |n,s,hn=>by
  by_cases h:c∈s
  ·obtain⟨x,r,rfl,hx⟩:=List.eq_append_cons_of_mem h
   cases n with
   |zero=>simp at hn
   |succ n=>
    rw[Xd,List.length_cons]at hn
    obtain⟨h1,h2⟩:=ZaN c n r (by omega)
    rw[Zjq _ _ _ hx]
    refine⟨by rw[List.length_cons,Xd,List.length_cons];omega,fun y hy=> ?_⟩
    rw[Xd,List.length_cons]
    rcases List.mem_cons.1 hy with rfl|hy
    ·omega
    ·have:=h2 y hy;omega
  ·rw[Zjw _ _ h]
   exact⟨by simp,fun x hx=>by
     obtain rfl:x=s:=by simpa using hx
     exact Xi _⟩
theorem ZiV (x:Bs) (w:World) (hx:x.length≤900000) (hE:Env w):
  Calls Tryz.prog 261 #[.string ⟨x.toArray⟩] w fun e w'=>e= .returned (.bool (Zg0 x))∧Zg [] w w':=by
 obtain⟨r,o⟩:=Je (Zg0 x)
 have p:=D o
 rw[←o]
 clear o
 by_cases V:253<x.length
 ·have I:r=false:=by rw[p.out];unfold Zg0;rw[decide_eq_false (by omega),Bool.false_and]
  have d:=D I;clear I
  have g:(253:Int)<(x.length:Int):=by omega
  go_enter Tryz.func261,Tryz.ntmps261
  go_wp2_with fail
  go_ret
  exact⟨by rw[d.out];rfl,Zg.refl _ _⟩
 have g:¬((253:Int)<(x.length:Int)):=by omega
 have l:=D (show r=(Lib.split x [46]).all Zd0 by rw[p.out];unfold Zg0;rw[decide_eq_true (by omega),Bool.true_and])
 have q:=Zgy hE x 46 hx
 obtain⟨ws,c⟩:=Je (Lib.split x [46])
 have s:∀y∈ws,y.length≤1000000:=fun y a=>by
  rw[c]at a
  have:=(ZaN 46 x.length x (Xi _)).2 y a
  omega
 have W:ws.length≤1000000:=by rw[c];have:=(ZaN 46 x.length x (Xi _)).1;omega
 rw[←c]at q l
 have Q:=D q;have M:=D s
 clear q c s p
 go_enter Tryz.func261,Tryz.ntmps261
 go_wp2_with fail
 refine Q.out.mono ?_
 rintro e w1 ⟨rfl,H,G⟩
 have P:=D H;have C:=D G;clear H G Q
 go_wp2_with fail
 go_loopw[11] (fun v11 wr=>∃(k:Nat),k≤ws.length∧v11= .int .i64 k∧(ws.take k).all Zd0=true∧wr=w1) (fun v11 _=>ws.length-(intOf v11).toNat)
 case atStart=>exact⟨0,by omega,rfl,rfl,rfl⟩
 case round=>
  obtain⟨k,Z,rfl,t,rfl⟩:=hrel
  have z:=D t;clear t
  by_cases m:k<ws.length
  ·obtain⟨y,a⟩:=Je (ws[k])
   obtain⟨Y,X,n,O⟩:=P.out k y (by simp[a,m])
   injection n with n;injection n with T S _;subst T S
   rw[Nat.zero_add]at O
   have F:ws.take (k+1)=ws.take k++[y]:=by rw[Xr m,a]
   have j:y∈ws:=by rw[a];exact List.getElem_mem m
   have q:=ZhG y wr (M.out y j)
   obtain⟨b,i⟩:=Je (Zd0 y)
   rw[←i]at q
   have Q:=D q;have N:=D j
   clear q j a;change Hid _ at i F
   go_wp2_with fail
   refine Q.out.mono ?_
   rintro e R ⟨rfl,E⟩
   rw[E];clear E R Q
   cases b with
   |true=>
    have L:(ws.take (k+1)).all Zd0=true:=by rw[F.out,List.all_append,z.out];simp[←i.out]
    change Hid _ at L
    go_wp2_with fail
    exact⟨⟨k+1,by omega,by go_num,L.out,by trivial⟩,by simp[intOf];omega⟩
   |false=>
    have d:r=false:=by
     rw[l.out,Bool.eq_false_iff]
     intro h
     have:=(Xk.1 h) y N.out
     rw[←i.out]at this;cases this
    change Hid _ at d
    go_wp2_with fail
    go_ret
    exact⟨by rw[d.out];rfl,C.out⟩
  ·have K:k=ws.length:=by omega
   have J:r=true:=by rw[l.out];have:=z.out;rw[K,Xm]at this;exact this
   clear K;change Hid _ at J
   go_wp2_with fail
   go_ret
   exact⟨by rw[J.out];rfl,C.out⟩
def Zz (o:Zx):List Value:=[.string ⟨o.scheme.toArray⟩, .string ⟨o.host.toArray⟩, .int .i64 o.port]
theorem ZbT (o:Zx) (w:World) (hh:o.host.length≤900000) (hE:Env w):
  Calls Tryz.prog 179 #[.agg (Zz o).toArray] w fun e w'=>e= .returned (.bool (Y6 o))∧Zg [] w w':=by
 have Q:=D hE;clear hE
 obtain⟨L,j⟩:=Je (w.alloc (.cells #[.string ⟨o.scheme.toArray⟩, .string ⟨o.host.toArray⟩, .int .i64 o.port] 207))
 have d:=Ja j
 have c:=Jh j
 have G:=Zc (i:=0) c rfl
 simp only[List.getElem_toArray,Xv]at G
 change Hid _ at d c j
 obtain⟨r,s⟩:=Je (Y6 o)
 obtain⟨k,m⟩:=Je (YX o.scheme)
 obtain⟨y,n⟩:=Je (Zg0 o.host)
 have K:=D (show r=(k !=0&&y&&decide (1≤o.port)&&decide (o.port≤65535))by rw[s,m,n];unfold Y6;rfl)
 rw[←s]
 have x:=Zc8 o.scheme L
 rw[←m]at x
 have p:=ZiV o.host L hh (Q.upd0 d)
 rw[←n]at p
 have H:=D x;have I:=D p
 clear s m n x p
 unfold Zz
 go_enter Tryz.func179,Tryz.ntmps179
 go_upto_region 1 with fail
 rw[←j.out]
 go_wp2_with fail
 refine H.out.mono ?_
 rintro e N ⟨rfl,C⟩
 rw[C];clear C N H
 have J:=Zc (i:=1) c rfl
 simp only[List.getElem_toArray,Xv,List.getElem_cons_succ]at J
 by_cases hd:k=0
 ·have a:r=false:=by rw[K.out,hd];simp
  have b:=D a;clear a
  have z:(k !=0)=false:=by rw[hd];rfl
  clear hd
  go_wp2_with fail
  go_ret
  exact⟨by rw[b.out];rfl,d.out⟩
 have z:(k !=0)=true:=by rw[bne_iff_ne];exact hd
 have h:=D (show r=(y&&decide (1≤o.port)&&decide (o.port≤65535))by rw[K.out,z,Bool.true_and])
 clear hd
 go_wp2_with fail
 refine I.out.mono ?_
 rintro e R ⟨rfl,l⟩
 have g:=Jt d l
 have F:=(l.block w.heap.size (Jg c) (by simp)).trans c.out
 have P:=Zc (i:=2) F rfl
 simp only[List.getElem_toArray,Xv,List.getElem_cons_succ]at P
 clear l F G J I
 cases y with
 |false=>
  have b:r=false:=by rw[h.out];rfl
  change Hid _ at b
  go_wp2_with fail
  go_ret
  exact⟨by rw[b.out];rfl,g.out⟩
 |true=>
 by_cases q:1≤o.port
 ·by_cases O:o.port≤65535
  ·have E:r=true:=by rw[h.out,decide_eq_true q,decide_eq_true O];rfl
   have M:=D E;clear E
   go_wp2_with fail
   go_ret
   exact⟨by rw[M.out];rfl,g.out⟩
  ·have a:r=decide (o.port≤65535):=by rw[h.out,decide_eq_true q];rfl
   have b:=D a;clear a
   go_wp2_with fail
   go_ret
   exact⟨by rw[b.out];rfl,g.out⟩
 ·have a:r=false:=by rw[h.out,decide_eq_false q];simp
  have b:=D a;clear a
  go_wp2_with fail
  go_ret
  exact⟨by rw[b.out];rfl,g.out⟩
theorem Zla (x:Bs) (w:World) (hx:x.length≤1000000):
  Calls Tryz.prog 178 #[.string ⟨x.toArray⟩] w fun e w'=>e= .returned (.int .i64 (Ze0 x))∧w'=w:=by
 obtain⟨r,o⟩:=Je (Ze0 x)
 have q:=ZcJ x w hx
 obtain⟨d,j⟩:=Je (Zab x)
 have C:d.1≤18446744073709551615:=by rw[j];unfold Zab;split<;>simp<;>omega
 have l:d.2=true→x≠[]:=by
  rw[j];unfold Zab
  split
  ·simp
  ·simp
 have k:=D (show r=if !d.2||decide (5<x.length)||x.head? ==some 48||decide (65535<d.1)then(0:Int)else d.1 by rw[o,j];unfold Ze0;rfl)
 rw[←j]at q
 rw[←o]
 have Q:=D q
 clear j o q
 obtain⟨n,F⟩:=d
 simp only at C l
 go_enter Tryz.func178,Tryz.ntmps178
 go_wp2_with fail
 refine Q.out.mono ?_
 rintro e G ⟨rfl,rfl⟩
 clear Q
 cases F with
 |false=>
  have b:r=0:=by rw[k.out];rfl
  change Hid _ at b
  go_wp2_with fail
  go_ret
  exact⟨by rw[b.out];rfl,rfl⟩
 |true=>
 have m:=l rfl
 clear l
 by_cases z:5<x.length
 ·have a:r=0:=by rw[k.out,decide_eq_true z];rfl
  have b:=D a;clear a
  have g:(5:Int)<x.length:=by omega
  clear m
  go_wp2_with fail
  go_ret
  exact⟨by rw[b.out];rfl,rfl⟩
 have g:¬((5:Int)<x.length):=by omega
 cases x with
 |nil=>exact absurd rfl m
 |cons c t=>
  clear m
  have hg:=Zar (c::t) 0 (by simp)
  simp only[Xv]at hg
  have s:((c.toNat:Int)==48)=decide (c=48):=by
   rw[Bool.eq_iff_iff,beq_iff_eq,decide_eq_true_eq]
   exact⟨fun h=>UInt8.toNat_inj.1 (by show c.toNat=48;omega),fun h=>by rw[h];rfl⟩
  by_cases i:c=48
  ·have a:r=0:=by rw[k.out,i];simp
   have b:=D a;clear a
   rw[decide_eq_true i]at s
   clear i
   go_wp2_with fail
   go_ret
   exact⟨by rw[b.out];rfl,rfl⟩
  ·rw[decide_eq_false i]at s
   have p:=D (show r=if 65535<n then(0:Int)else n by
    rw[k.out,decide_eq_false z]
    have e:((c::t).head? ==some (48:UInt8))=false:=by simp[i]
    rw[e];simp)
   clear i k
   by_cases y:65535<n
   ·have a:r=0:=by rw[p.out,if_pos y]
    have b:=D a;clear a
    have E:(65535:Int)<(n:Int):=by omega
    go_wp2_with fail
    go_ret
    exact⟨by rw[b.out];rfl,rfl⟩
   ·have a:r=n:=by rw[p.out,if_neg y]
    have b:=D a;clear a
    have E:¬((65535:Int)<(n:Int)):=by omega
    go_wp2_with fail
    go_ret
    exact⟨by rw[b.out];rfl,rfl⟩
theorem ZqC (w:World) (os:Array Obj):Zg [] w (Go.Sort.grow w os):=
 ⟨rfl,rfl,rfl,by simp[Go.Sort.grow],fun x hx _=>by simp[Go.Sort.grow,Array.getElem?_append,hx]⟩
theorem Zpp (n:Int) (h0: -9223372036854775808≤n) (h1:n≤9223372036854775807) (hE:Env w):
  Calls Tryz.prog 184 #[.int .i64 n] w fun e w'=>e= .returned (.string ⟨(Lib.itoa n).toArray⟩)∧Zg [] w w':=
 (Tryz.strconv_Itoa n h0 h1 w hE.tab).mono fun e w' ⟨he,k,os,hw⟩=>⟨he,by subst hw;exact((Zg.refl [] w).drewN k).trans (ZqC _ os) (by simp)⟩
theorem Zic {o:Zx} (h:Y6 o=true):o.scheme.length≤5∧o.host.length≤253∧1≤o.port∧o.port≤65535:=by
 unfold Y6 Zg0 at h
 simp only[Bool.and_eq_true,decide_eq_true_eq,bne_iff_ne]at h
 refine⟨?_,h.1.1.2.1,h.1.2,h.2⟩
 have:=h.1.1.1
 unfold YX at this
 split at this
 ·rename_i e;rw[e];decide
 ·split at this
  ·rename_i e;rw[e];decide
  ·exact absurd rfl this
theorem Zd9 {P:Prop}(h:P:=by
 intro W g
 clear g
 go_simp
 rw[if_neg (by(try simp);omega)]
 have l:(⟨#[58,47,47]⟩:ByteArray)=⟨([58,47,47]:Bs).toArray⟩:=rfl
 have m:(⟨#[58]⟩:ByteArray)=⟨([58]:Bs).toArray⟩:=rfl
 (try rw[l])
 (try rw[m])
 rw[Zau]
 (try simp)):P:=h
theorem ZhS (o:Zx) (w:World) (hh:o.host.length≤900000) (hE:Env w):
  Calls Tryz.prog 111 #[.agg (Zz o).toArray] w fun e w'=>e= .returned (.string ⟨(Zfs o).toArray⟩)∧Zg [] w w':=by
 have J:=D hE;clear hE
 obtain⟨L,q⟩:=Je (w.alloc (.cells #[.string ⟨o.scheme.toArray⟩, .string ⟨o.host.toArray⟩, .int .i64 o.port] 207))
 have y:=Ja q
 have n:=Jh q
 change Hid _ at y n q
 have R:=D (show Zb L w.heap.size 0 (Zz o)from Zb.of_block n)
 have O:=D (show Zu Tryz.prog 207 (Zz o).length=true from(by kernel_rfl:Zu Tryz.prog 207 3=true))
 obtain⟨b,s⟩:=Je (Y6 o)
 have G:=ZbT o L hh (J.upd0 y)
 rw[←s]at G
 have H:=D G
 obtain⟨r,F⟩:=Je (Zfs o)
 have K:=D (show r=if b then o.scheme++[58,47,47]++o.host++[58]++Lib.itoa o.port else[]by rw[F,s];rfl)
 have M:=D (show b=true→_ from fun h=>Zic (s.symm.trans h))
 rw[←F]
 clear F G s
 have S:(Value.agg (Zz o).toArray)= .agg #[.string ⟨o.scheme.toArray⟩, .string ⟨o.host.toArray⟩, .int .i64 o.port]:=rfl
 rw[S]
 go_enter Tryz.func111,Tryz.ntmps111
 go_upto_region 1 with fail
 rw[←q.out]
 go_wp2_with(refine Jl R O ?_)
 refine H.out.mono ?_
 rintro e w2 ⟨rfl,x⟩
 have E:=Jt y x
 have j:=D ((x.block w.heap.size (Jg n) (by simp)).trans n)
 clear x H
 cases b with
 |false=>
  have k:r=[]:=by rw[K.out];rfl
  change Hid _ at k
  go_wp2_with fail
  go_ret
  exact⟨by rw[k.out];rfl,E.out⟩
 |true=>
 obtain⟨Y,V,X,T⟩:=M.out rfl
 have Q:=Lib.itoa_length_le o.port (by omega) (by omega)
 have k:=D (show r=o.scheme++[58,47,47]++o.host++[58]++Lib.itoa o.port by rw[K.out];rfl)
 go_upto_region 3 with fail
 have a:=Zc (i:=0) j rfl
 have d:=Zc (i:=1) j rfl
 have c:=Zc (i:=2) j rfl
 simp only[List.getElem_toArray,Xv,List.getElem_cons_succ]at a d c
 refine Jr [0,4,8,12,16,20,24,28,32,37,40,44] (fun W=>W.cell? ⟨w.heap.size,0,none⟩=some (.string ⟨o.scheme.toArray⟩)∧W.cell? ⟨w.heap.size,1,none⟩=some (.string ⟨o.host.toArray⟩)∧W.cell? ⟨w.heap.size,2,none⟩=some (.int .i64 o.port)) ⟨a,d,c⟩ ?_
 clear a d c
 repeat first|refine Jn ?_|refine Jf ?_|refine Ju ?_
 apply Zan (v:= .string ⟨(o.scheme++[58,47,47]).toArray⟩)
 case ho=>simp only[Xh,Xf,Xg];rfl
 case hg=>rfl
 case hv=>
  exact Zd9
 case ha=>go_simp;rfl
 repeat first|refine Jn ?_|refine Jf ?_|refine Ju ?_
 apply Zan (v:= .string ⟨(o.scheme++[58,47,47]++o.host).toArray⟩)
 case ho=>simp only[Xh,Xf,Xg];rfl
 case hg=>rfl
 case hv=>
  exact Zd9
 case ha=>go_simp;rfl
 apply Zan (v:= .string ⟨(o.scheme++[58,47,47]++o.host++[58]).toArray⟩)
 case ho=>simp only[Xh,Xf,Xg];rfl
 case hg=>rfl
 case hv=>
  exact Zd9
 case ha=>go_simp;rfl
 repeat first|refine Jn ?_|refine Jf ?_|refine Ju ?_
 refine JE ?_
 simp only[Xu]
 go_wp2_with fail
 refine(Zpp o.port (by omega) (by omega) (J.upd0 (E.drewN 1))).mono ?_
 rintro e Z ⟨rfl,C⟩
 have P:=D ((E.drewN 1).trans C (by simp))
 have p:=(C.block w.heap.size (Jg j) (by simp)).trans j.out
 have a:=Zc (i:=0) p rfl
 have d:=Zc (i:=1) p rfl
 have c:=Zc (i:=2) p rfl
 simp only[List.getElem_toArray,Xv,List.getElem_cons_succ]at a d c
 clear C
 go_wp2_with fail
 refine⟨_,fun _ h=>h,⟨a,d,c⟩,?_⟩
 clear a d c p
 obtain⟨z,I⟩:=Je (Lib.itoa o.port)
 rw[←I]at k Q⊢
 clear I
 apply Zan (v:= .string ⟨(o.scheme++[58,47,47]++o.host++[58]++z).toArray⟩)
 case ho=>simp only[Xh,Xf,Xg];rfl
 case hg=>rfl
 case hv=>
  intro W g
  clear g
  go_simp
  rw[if_neg (by(try simp);omega)]
  rw[Zau]
  (try simp)
 case ha=>go_simp;rfl
 repeat first|refine Jn ?_|refine Jf ?_|refine Ju ?_
 refine ZL ?_
 go_wp2_with fail
 go_ret
 have N:r=o.scheme++58::47::47::(o.host++58::z):=by rw[k.out];simp
 exact⟨by rw[N];rfl,P.out⟩
theorem Zce {P:Prop}(h:P:=by
 go_enter Tryz.func259,Tryz.ntmps259
 go_wp2_with fail
 refine Q.out.mono ?_
 rintro e s ⟨rfl,a⟩
 have d:=D a;clear a
 go_wp2_with fail
 go_ret
 exact⟨rfl,d.out⟩):P:=h
theorem Zg4 (x:Bs) (w:World) (hx:x.length≤1000000):
  Calls Tryz.prog 259 #[.string ⟨x.toArray⟩] w fun e w'=>e= .returned (.int .i64 (dotsT x:Nat))∧Zg [] w w':=by
 obtain⟨l,t⟩:=Je (Yx x)
 have q:=YJ x w hx
 rw[←t]at q
 have Q:=D q
 have hd:dotsT x=if l=[46]∨l=[37,50,101]then 1 else if l=[46,46]∨l=[46,37,50,101]∨l=[37,50,101,46]∨l=[37,50,101,37,50,101]then 2 else 0:=by rw[t];rfl
 rw[hd]
 clear hd t q
 have g:∀(c:Bs),(l==c)=decide (l=c):=fun c=>by rw[Bool.eq_iff_iff];simp
 have r:=g [46]
 have p:=g [37,50,101]
 have o:=g [46,46]
 have n:=g [46,37,50,101]
 have m:=g [37,50,101,46]
 have k:=g [37,50,101,37,50,101]
 clear g
 by_cases i:l=[46]
 ·rw[if_pos (.inl i)]
  rw[decide_eq_true i]at r
  clear i p o n m k
  exact Zce
 rw[decide_eq_false i]at r
 by_cases j:l=[37,50,101]
 ·rw[if_pos (.inr j)]
  rw[decide_eq_true j]at p
  clear i j o n m k
  exact Zce
 rw[decide_eq_false j]at p
 rw[if_neg (by rintro(h|h)<;>contradiction)]
 by_cases b:l=[46,46]∨l=[46,37,50,101]∨l=[37,50,101,46]∨l=[37,50,101,37,50,101]
 ·rw[if_pos b]
  clear o n m k r p i j
  rcases b with rfl|rfl|rfl|rfl
  all_goals
   exact Zce
 ·rw[if_neg b]
  rw[not_or,not_or,not_or]at b
  obtain⟨b,y,C,z⟩:=b
  rw[decide_eq_false b]at o
  rw[decide_eq_false y]at n
  rw[decide_eq_false C]at m
  rw[decide_eq_false z]at k
  clear i j b y C z
  exact Zce
theorem Zcj:∀(l:List UInt8) (c:UInt8),(Lib.indexByte l c= -1∧l.contains c=false)∨(0≤Lib.indexByte l c∧l.contains c=true)
 |[],c=> .inl ⟨rfl,rfl⟩
 |b::l,c=>by
  unfold Lib.indexByte
  by_cases h:b=c
  ·right
   rw[if_pos (by simpa using h)]
   exact⟨Int.le_refl _,by simp[h]⟩
  ·have hb:(b==c)=false:=by rw[beq_eq_false_iff_ne];exact h
   rw[if_neg (by rw[hb];simp)]
   have hc:(b::l).contains c=l.contains c:=by
    rw[List.contains_cons]
    have:(c==b)=false:=by rw[beq_eq_false_iff_ne];exact fun e=>h e.symm
    rw[this,Bool.false_or]
   rw[hc]
   rcases Zcj l c with⟨d,a⟩|⟨d,a⟩
   ·left;rw[d];exact⟨rfl,a⟩
   ·right
    rw[if_neg (by simp;omega)]
    exact⟨by omega,a⟩
theorem Zd8 (x no:Bs) (w:World) (hx:x.length≤1000000):
  Calls Tryz.prog 173 #[.string ⟨x.toArray⟩, .string ⟨no.toArray⟩] w fun e w'=>e= .returned (.bool (Zel x no))∧w'=w:=by
 obtain⟨r,m⟩:=Je (Zel x no)
 obtain⟨P,n⟩:∃P:UInt8→Bool,P=fun c=>decide (33≤c.toNat)&&decide (c.toNat≤126)&& !no.contains c:=⟨_,rfl⟩
 have I:=D (show r=x.all P by rw[m,n];rfl)
 have d:=D (show∀c,P c=(decide (33≤c.toNat)&&decide (c.toNat≤126)&& !no.contains c)from fun c=>by rw[n])
 rw[←m]
 clear m n
 go_enter Tryz.func173,Tryz.ntmps173
 go_wp2_with fail
 go_loopw[8] (fun v8 wr=>∃(k:Nat),k≤x.length∧v8= .int .i64 k∧(x.take k).all P=true∧wr=w) (fun v8 _=>x.length-(intOf v8).toNat)
 case atStart=>exact⟨0,by omega,rfl,rfl,rfl⟩
 case round=>
  obtain⟨k,hk,rfl,C,rfl⟩:=hrel
  have F:=D C;clear C
  by_cases l:k<x.length
  ·obtain⟨y,g⟩:=Je (x[k])
   have hg:=Zar x k l
   rw[←g]at hg
   have L:x.take (k+1)=x.take k++[y]:=by rw[Xr l,g]
   have E:y∈x:=by rw[g];exact List.getElem_mem l
   have z:P y=false→r=false:=fun o=>by
    rw[I.out,Bool.eq_false_iff]
    intro h
    have:=(Xk.1 h) y E
    rw[o]at this;cases this
   have p:P y=true→(x.take (k+1)).all P=true:=fun o=>by rw[L,List.all_append,F.out];simp[o]
   have i:=D z;have V:=D p
   clear L E g z p
   by_cases J:33≤y.toNat
   ·by_cases t:y.toNat≤126
    ·have T:¬((y.toNat:Int)<33):=by omega
     have X:¬((126:Int)<(y.toNat:Int)):=by omega
     have q:= Tryz.strings_IndexByte ⟨no.toArray⟩ (y.toNat:Int) wr
     have R:((y.toNat:Int).toNat.toUInt8)=y:=by simp
     rw[R]at q
     obtain⟨N,j⟩:=Je (Lib.indexByte (⟨no.toArray⟩:ByteArray).data.toList y)
     rw[←j]at q
     have S:=Zcj no y
     have s:N=Lib.indexByte no y:=j
     rw[←s]at S
     have Q:=D q
     clear q j s R
     go_wp2_with fail
     refine Q.out.mono ?_
     rintro e W ⟨rfl,G⟩
     rw[G];clear G W Q
     rcases S with⟨O,b⟩|⟨O,b⟩
     ·have H:P y=true:=by rw[d.out,decide_eq_true J,decide_eq_true t,b];rfl
      have Y:=D (V.out H)
      have Z:¬((0:Int)≤N):=by omega
      clear H O b
      go_wp2_with fail
      exact⟨⟨k+1,by omega,by go_num,Y.out,by trivial⟩,by simp[intOf];omega⟩
     ·have a:=D (i.out (by rw[d.out,b];simp))
      clear b
      go_wp2_with fail
      go_ret
      exact⟨by rw[a.out];rfl,by trivial⟩
    ·have a:=D (i.out (by rw[d.out,decide_eq_false t];simp))
     have T:¬((y.toNat:Int)<33):=by omega
     have X:(126:Int)<(y.toNat:Int):=by omega
     go_wp2_with fail
     go_ret
     exact⟨by rw[a.out];rfl,by trivial⟩
   ·have a:=D (i.out (by rw[d.out,decide_eq_false J];simp))
    have T:(y.toNat:Int)<33:=by omega
    go_wp2_with fail
    go_ret
    exact⟨by rw[a.out];rfl,by trivial⟩
  ·have M:k=x.length:=by omega
   have K:r=true:=by rw[I.out];have:=F.out;rw[M,Xm]at this;exact this
   clear M;change Hid _ at K
   go_wp2_with fail
   go_ret
   exact⟨by rw[K.out];rfl,by trivial⟩
end Go.Proofs.YtbgbeddbfaopgaaGreatDoor
