import Derived.Deep.Slices
import Derived.Lib.ItoaLen
import Derived.Lib.ItoaNum
import Derived.Lib.Join
import Derived.Lib.Split
import Derived.OpenShut
import Derived.OrdersHeld
import Derived.ProofKit
import Derived.ShutString
import Derived.StillTail
import Derived.Test.YtbgbeddbfaopgaaGreatDoorZ1
set_option linter.all false
set_option maxHeartbeats 16000000
set_option maxRecDepth 100000
set_option autoImplicit true
set_option relaxedAutoImplicit true
namespace Go.Proofs.YtbgbeddbfaopgaaGreatDoor
open Go.RowKit Go.Lk
theorem ZmX:(Tryz.prog.info? 171).map (fun i=>(i.zero,i.size,i.bytes))=some (some (.agg #[.int .i64 0, .int .i64 0, .int .u64 0, .string ⟨#[]⟩, .int .i64 0]),5,48):=by kernel_rfl
theorem Zcn:Zu Tryz.prog 171 5=true:=by kernel_rfl
theorem Zo2:(Tryz.prog.info? 171).map (fun i=>(i.size,i.bytes))=some (5,48):=by kernel_rfl
theorem ZoL {α:Type} (enc:α→List Value) (p:α→Bool) (g:FuncId) (lb:Array Value) {l:List α}
  (h:Zj 171 5 v (l.map enc) w F) (eg:∀args w,(callFunc g args).run Tryz.prog w= .ok (.enter g args) w)
  (hp:∀(W:World) (x:α),x∈l→Zg [] w W→Calls Tryz.prog g (#[.agg (enc x).toArray]++lb) W fun e w'=>e= .returned (.bool (p x))∧Zg [] W w'):
  Calls Tryz.prog 219 #[v, .func (.func g) #[] lb] w fun e w'=>e= .returned (.int .i64 (YL p l))∧Zg [] w w':=by
 obtain⟨A,c,rfl,O,o⟩:=h.lies
 have G:=h.2.1
 have i:=h.le
 rw[Xb]at O i⊢
 have K:=D G;have N:=D hp;have M:=D o
 have P:l.length≤9223372036854775807:=by unfold maxLen at i;omega
 clear h G hp o i
 go_enter Tryz.func219,Tryz.ntmps219
 go_wp2
 go_loopw[5,8] (fun _ s8 wr=>∃kk:Nat,kk≤l.length∧s8= .int .i64 kk∧Hid (Zg [] w wr)∧Hid (∀(j:Nat) (x:α),j<kk→l[j]? =some x→p x=false)) (fun _ s8 _=>l.length-(intOf s8).toNat)
 case atStart=>exact⟨0,Xn _,rfl,D (Zg.refl [] w),D (fun j x C=>absurd C (Nat.not_lt_zero _))⟩
 case round=>
  obtain⟨kk,Q,rfl,d,m⟩:=hrel
  by_cases z:kk<l.length
  ·obtain⟨x,hx⟩:∃x,l[kk]? =some x:=⟨_,Xa z⟩
   have k:=Xc hx
   obtain⟨S,rfl,r⟩:=M.out kk (enc x) (by rw[Xe,hx];rfl)
   have J:=D (r.upd d (by simp))
   have I:=D (show(enc x).length=5 from K.out (enc x) (List.mem_map.2 ⟨x,k,rfl⟩))
   have H:=D (show Zu Tryz.prog 171 (enc x).length=true by rw[I.out];exact Zcn)
   have E:=D hx
   have L:=D (N.out wr x k d)
   obtain⟨b,a⟩:=Je (p x)
   clear hx r k;change Hid _ at a
   go_wp2_with(refine Js J H ?_)
   refine L.out.mono ?_
   rintro e R ⟨rfl,q⟩
   rw[←a.out]
   have s:=Jt d q
   clear q
   cases b with
   |true=>
    go_wp2
    go_ret
    refine⟨?_,s.out⟩
    rw[Zao z (by rw[E.out]) a.symm m.out];rfl
   |false=>
    go_wp2
    go_roundw
    case rel=>
     refine⟨kk+1,by omega,by go_num,s,D (fun j y C n=> ?_)⟩
     by_cases e:j=kk
     ·subst e;rw[E.out]at n;cases n;exact a.symm
     ·exact m j y (by omega) n
    case measure=>simp[intOf];omega
  ·obtain rfl:kk=l.length:=by omega
   go_wp2
   go_ret
   refine⟨?_,d.out⟩
   rw[YY m.out];rfl
theorem ZnU {g cap i j:Nat} (hj:j=i+1) {xs:List (List Value)} (h:Zj 171 5 (.slice (some ⟨g,0,none⟩) xs.length cap) xs w F) (h1:∀u∈xs.flatten,u.oneCell'=true) (hi:i<xs.length):
  Calls Tryz.prog 148 #[.slice (some ⟨g,0,none⟩) xs.length cap, .int .i64 i, .int .i64 j] w fun e w'=>e= .returned (.slice (some ⟨g,0,none⟩) (xs.length-1:Nat) cap)∧
   Zj 171 5 (.slice (some ⟨g,0,none⟩) (xs.length-1) cap) (xs.eraseIdx i) w' [g]∧Zg [g] w w':=by
 obtain⟨k,_,_,m,o,G,K,ht⟩:=h.block
 obtain⟨T,O,P,ad⟩:=Zcb Zo2
 have Q:=ZG h.2.1
 obtain⟨a,n⟩:=Je ((xs.drop j).flatten)
 have d:a.length=(xs.length-j)*5:=by rw[n,ZG (fun c o=>h.2.1 c (List.mem_of_mem_drop o)),List.length_drop]
 have H:∀t,t<cap*5→(w.drew.cell? ⟨g,t,none⟩).isSome=true∧w.drew.frozen? ⟨g,t,none⟩=false:=fun t h1=>by
  have x:t<k.size:=by omega
  refine⟨?_,Zk (w:=w) m⟩
  show(w.cell? _).isSome=true
  rw[Zc m (Array.getElem?_eq_getElem x)];rfl
 obtain⟨A,hA,M⟩:∃A:Addr,(if cap=j then(some (⟨g,0,none⟩:Addr))else some ⟨g,j*5,none⟩)=some A∧Hid (∀t u,a[t]? =some u→w.drew.cell? (A.add t)=some u):=by
  by_cases e:cap=j
  ·refine⟨⟨g,0,none⟩,by rw[if_pos e],D (fun t u b=> ?_)⟩
   have V:a.length=0:=by rw[d,show xs.length-j=0 by omega,Nat.zero_mul]
   rw[List.length_eq_zero_iff.1 V]at b;simp at b
  ·refine⟨⟨g,j*5,none⟩,by rw[if_neg e],D (fun t u b=> ?_)⟩
   rw[add_plain]
   refine Zc (w:=w) m ?_
   rw[n,←ZaH h.2.1,List.getElem?_drop,←ht,List.getElem?_take]at b
   split at b
   ·simpa using b
   ·cases b
 have s2:Hid (∀u∈a,u.oneCell'=true):=D (fun u b=>h1 u (by rw[n]at b;obtain⟨c,o,b⟩:=List.mem_flatten.1 b;exact List.mem_flatten.2 ⟨c,List.mem_of_mem_drop o,b⟩))
 have s1:Hid (a.length=(xs.length-j)*5):=D d
 have N:xs.length*5≤cap*5:=Nat.mul_le_mul_right _ o
 have s3:Hid (∀t,t<a.length→(w.drew.cell? ⟨g,0+i*5+t,none⟩).isSome=true∧w.drew.frozen? ⟨g,0+i*5+t,none⟩=false):=D (fun t r=>H _ (by rw[d]at r;omega))
 obtain⟨p,s⟩:=Je (w.drew.setCells g (0+i*5) a)
 obtain⟨l,q⟩:∃l:List Value,l=[.int .i64 0, .int .i64 0, .int .u64 0, .string ⟨#[]⟩, .int .i64 0]:=⟨_,rfl⟩
 have z:l.length=5:=by rw[q];rfl
 have y:p.heap[g]? =some (.cells (Yl k.toList (0+i*5) a).toArray 171 (0,0)):=by rw[s];exact Ys a (0+i*5) w.drew k m (by rw[d];omega)
 have J:(Yl k.toList (0+i*5) a).length=cap*5:=by rw[YW _ _ _ (by rw[d];simp;omega)];simpa using K
 have ab:∀C,(Builtin.clear_ #[123] C #[.slice (some ⟨g,(i+(xs.length-j))*5,none⟩) (xs.length-(i+(xs.length-j))) (cap-(i+(xs.length-j)))]).run Tryz.prog p= .ok (.tuple #[]) (p.setCells g ((i+(xs.length-j))*5) l):=fun C=>by
  have E:xs.length-(i+(xs.length-j))=1:=by omega
  rw[E]
  refine Yn p _ _ C _ l Tryz.underlying123 (fun w=> Tryz.zeroValue171 w) g _ 1 _ (by omega) (by rw[q];exact ZaQ) (by rw[q];simp[Value.oneCell']) (fun t r=> ?_) (fun t r=>Zk y)
  rw[z]at r
  have x:(i+(xs.length-j))*5+t<(Yl k.toList (0+i*5) a).length:=by rw[J];omega
  rw[Zc y (v:=(Yl k.toList (0+i*5) a)[(i+(xs.length-j))*5+t]) (by rw[Xh,Xa x])];rfl
 have L:Hid (p=w.drew.setCells g (0+i*5) a):=D s
 have I:=D (Zb9 h hi 1 l z rfl)
 rw[←hj,←n]at I
 have Z:i<j:=by omega
 have X:j≤xs.length:=by omega
 have W:¬i=j:=by omega
 have R:=D hj
 have Y:i≤cap:=by omega
 have aa:j≤cap:=by omega
 have ac:cap≤9223372036854775807:=by unfold maxLen at G;exact G
 clear hj s y J q z H m K ht Q d h h1 N G;change Hid _ at n
 go_enter Tryz.func148,Tryz.ntmps148
 go_wp2_with fail
 go_region_law (refine step_append_room rfl (.tmp 22) (.tmp 25) 123 rfl 171 T 5 Tryz.underlying123 O P g 0 i cap (by simp[Act.eval,Act.put]) A (xs.length-j) (cap-j) a (by simp[Act.eval,Act.put]) s1.out M.out s2.out (by omega) s3.out ?_;rw[←L.out])
 go_wp2
 go_ret
 have E:i+(xs.length-j)=xs.length-1:=by have:=R.out;omega
 have S:=I.out
 rw[L.out,Nat.zero_add,E]
 exact⟨rfl,S⟩
theorem ZqG {g cap i:Nat} {xs:List (List Value)} (h:Zj 171 5 (.slice (some ⟨g,0,none⟩) xs.length cap) xs w F) (h1:∀u∈xs.flatten,u.oneCell'=true) (hi:i<xs.length):
 Calls Tryz.prog 148 #[.slice (some ⟨g,0,none⟩) xs.length cap, .int .i64 i, .int .i64 ((i:Int)+1)] w fun e w'=>e= .returned (.slice (some ⟨g,0,none⟩) (xs.length-1:Nat) cap)∧
  Zj 171 5 (.slice (some ⟨g,0,none⟩) (xs.length-1) cap) (xs.eraseIdx i) w' [g]∧Zg [g] w w':=ZnU rfl h h1 hi
end Go.Proofs.YtbgbeddbfaopgaaGreatDoor
namespace Go.Lk
def hd (n:Nat):UInt8:=if n<10 then UInt8.ofNat (48+n)else UInt8.ofNat (87+n)
def hv (c:UInt8):Option Nat:=if 48≤c.toNat∧c.toNat≤57 then some (c.toNat-48)else if 97≤c.toNat∧c.toNat≤102 then some (c.toNat-87)else none
def Zo7 (s:List UInt8):Nat:=s.foldl (fun n c=>10*n+(c.toNat-48)) 0
def Zc1 (c:UInt8):Bool:=decide (48≤c.toNat)&&decide (c.toNat≤57)
def Zab (s:List UInt8):Nat×Bool:=if s.all Zc1 then(min (Zo7 s) 18446744073709551615,decide (s≠[]))else(0,false)
open Go.RowKit Go.Deep
def Zem {α:Type} (w:World) (sz:Nat) (R:List Value→α→Prop) (v:Value) (l:List α):Prop:=
 ∃A c,v= .slice A l.length c∧l.length≤c∧∀j x,l[j]? =some x→∃ab ao,A=some ⟨ab,ao,none⟩∧∃cs,cs.length=sz∧(∀i u,cs[i]? =some u→w.cell? ⟨ab,ao+(j*sz+i),none⟩=some u)∧R cs x
theorem Zem.upd {α:Type} {sz:Nat} {R:List Value→α→Prop} {l:List α} (h:Zem w sz R v l) (h0:0<sz) (hu:Zg [] w w'):Zem w' sz R v l:=by
 obtain⟨A,c,rfl,b,g⟩:=h
 refine⟨A,c,rfl,b,fun j x n=> ?_⟩
 obtain⟨a,e,rfl,d,f,k,m⟩:=g j x n
 refine⟨a,e,rfl,d,f,fun i u o=> ?_,m⟩
 have:=k i u o
 exact(Xp (hu.block a (Xo _ _ this) (by simp))).trans this
theorem Zem.form {α:Type} {sz:Nat} {R:List Value→α→Prop} {l:List α} (h:Zem w sz R v l):∃A c,v= .slice A l.length c∧l.length≤c:=by
 obtain⟨A,c,rfl,h,_⟩:=h;exact⟨A,c,rfl,h⟩
theorem Zem.mono {α β:Type} {w w':World} {sz:Nat} {R:List Value→α→Prop} {R':List Value→α→Prop} {l:List α} (h:Zem w sz R v l) (hr:∀cs x,R cs x→R' cs x):Zem w sz R' v l:=by
 obtain⟨A,c,rfl,a,f⟩:=h
 refine⟨A,c,rfl,a,fun j x i=> ?_⟩
 obtain⟨b,d,rfl,cs,e,g,hx⟩:=f j x i
 exact⟨b,d,rfl,cs,e,g,hr _ _ hx⟩
open Go.RowKit
abbrev Bs:=List UInt8
structure Yb where
 method:Bs
 url:Bs
 origin:Bs
 mode:Int
 creds:Bool
 headers:List (Bs×Bs)
 cls:Int
 timeout:Int
 group:Int
 signal:Int
structure ZbQ where
 op:Int
 id:Int
 n:Int
 ids:List Int
 time:Int
 status:Int
 headers:List (Bs×Bs)
 bytes:Bs
 req:Yb
def Yb.zero:Yb:=⟨[],[],[],0,false,[],0,0,0,0⟩
def ZbQ.zero:ZbQ:=⟨0,0,0,[],0,0,[],[],Yb.zero⟩
def Zk0 (c:UInt8):Bool:=(decide (97≤c.toNat)&&decide (c.toNat≤122))||(decide (65≤c.toNat)&&decide (c.toNat≤90))||Zc1 c||[33,35,36,37,38,39,42,43,45,46,94,95,96,124,126].contains c
def Zaz (s:Bs):Bool:=decide (s≠[])&&s.all Zk0
def wd (ws:List Bs) (i:Nat):Bs:=ws.getD i []
def Zm3 (c:UInt8):UInt8:=if 65≤c.toNat∧c.toNat≤90 then c-65+97 else c
def Yx (s:Bs):Bs:=s.map Zm3
def Zb2 (a c:Bs):Bool:=Yx a==Yx c
def ZaU (c:UInt8):Bool:=[9,10,13,32].contains c
def YO (s:Bs):Bs:=((s.dropWhile ZaU).reverse.dropWhile ZaU).reverse
def Zie (s:Bs):List Bs:=((Lib.split s [44]).map YO).filter (fun x=>x !=[])
def Zfk (l:List Bs):Bs:=Lib.join l [44,32]
def ZbK (l:List Bs):List Bs:=l.mergeSort (fun a c=>decide (a≤c))
def ZU:List Bs→List Bs
 |[]=>[]
 |[x]=>[x]
 |x::y::l=>if x=y then ZU (y::l)else x::ZU (y::l)
def ZdG:List Bs:=[[68,69,76,69,84,69],[71,69,84],[72,69,65,68],[79,80,84,73,79,78,83],[80,79,83,84],[80,85,84]]
def ZcB (s:Bs):Bs:=(ZdG.find? (fun m=>Zb2 s m)).getD []
def ZdJ (s:Bs):Bs:=if ZcB s !=[]then ZcB s else s
def ZlC (s:Bs):Bool:=Zb2 s [67,79,78,78,69,67,84]||Zb2 s [84,82,65,67,69]||Zb2 s [84,82,65,67,75]
def ZcA (s:Bs):Int:=if !Zaz s||decide (32<s.length)||ZlC s then 5 else 0
def ZfX (s:Bs):Bool:=ZcB s==[71,69,84]||ZcB s==[72,69,65,68]||ZcB s==[80,79,83,84]
def okH (h:Bs×Bs):Bool:=Zaz h.1&&decide (h.1.length≤64)&&decide ((YO h.2).length≤4096)&& !((YO h.2).any fun c=>[0,10,13].contains c)
def Zcd (l:List (Bs×Bs)):Int:=if 32<l.length then 4 else if l.all okH then 0 else 6
def ZcF (l:List (Bs×Bs)):List (Bs×Bs):=l.map fun h=>(Yx h.1,YO h.2)
def Zam (l:List (Bs×Bs)) (name:Bs):List Bs:=(l.filter fun h=>Zb2 h.1 name).map fun h=>YO h.2
def Zdc (l:List (Bs×Bs)) (name:Bs):Bs×Bool:=(Zfk (Zam l name),decide (0<(Zam l name).length))
structure Zx where
 scheme:Bs
 host:Bs
 port:Int
 deriving DecidableEq
def Zx.zero:Zx:=⟨[],[],0⟩
def ZkA (c:UInt8):Bool:=(decide (97≤c.toNat)&&decide (c.toNat≤122))||(decide (48≤c.toNat)&&decide (c.toNat≤57))||c==45
def Zd0 (s:Bs):Bool:=decide (1≤s.length)&&decide (s.length≤63)&&s.head? !=some 45&&s.getLast? !=some 45&&s.all ZkA
def Zg0 (s:Bs):Bool:=decide (s.length≤253)&&(Lib.split s [46]).all Zd0
def YX (s:Bs):Int:=if s=[104,116,116,112]then 80 else if s=[104,116,116,112,115]then 443 else 0
def Y6 (o:Zx):Bool:=YX o.scheme !=0&&Zg0 o.host&&decide (1≤o.port)&&decide (o.port≤65535)
def Zfs (o:Zx):Bs:=if Y6 o then o.scheme++[58,47,47]++o.host++[58]++Lib.itoa o.port else[]
def Zew (o:Zx):Bs:=if Y6 o&&o.port==YX o.scheme then o.scheme++[58,47,47]++o.host else Zfs o
def Ze0 (s:Bs):Int:=if !(Zab s).2||decide (5<s.length)||s.head? ==some 48||decide (65535<(Zab s).1)then 0 else(Zab s).1
def Y5 (s:Bs):Zx×Int:=
 if 512<s.length then(Zx.zero,4)else
 let c:=Lib.cut (Yx s) [58,47,47]
 if !c.2.2 then(Zx.zero,3)else
 let h:=Lib.cut c.2.1 [58]
 let o:Zx:=⟨c.1,h.1,if h.2.2 then Ze0 h.2.1 else YX c.1⟩
 if Y6 o then(o,0)else(Zx.zero,3)
structure Z6 where
 origin:Zx
 path:Bs
 query:Bs
 deriving DecidableEq
def Z6.zero:Z6:=⟨Zx.zero,[],[]⟩
def Zch:Bs:=[34,35,60,62,63,92,94,123,124,125,96]
def Zbt:Bs:=[34,35,60,62]
def Zel (s no:Bs):Bool:=s.all fun c=>decide (33≤c.toNat)&&decide (c.toNat≤126)&& !no.contains c
def dotsT (s:Bs):Nat:=if Yx s=[46]∨Yx s=[37,50,101]then 1 else if Yx s=[46,46]∨Yx s=[46,37,50,101]∨Yx s=[37,50,101,46]∨Yx s=[37,50,101,37,50,101]then 2 else 0
def Zde (st:List Bs) (s:Bs):List Bs:=match dotsT s with
 |0=>st++[s]
 |2=>st.take (st.length-1)
 |_=>st
def Zax (p:Bs):List Bs:=Lib.split (if p.head? =some 47 then p.tail else p) [47]
def ZbD (p:Bs):Bs:=
 let st:=(Zax p).foldl Zde []
 [47]++Lib.join (if 0<dotsT ((Zax p).getLastD [])then st++[[]]else st) [47]
def YV (u:Z6):Bs:=Zew u.origin++u.path++u.query
def Zh6 (u:Z6):Bool:=Y6 u.origin&&(u.path.head? ==some 47&&Zel u.path Zch&&ZbD u.path==u.path)&&(u.query==[]||u.query.head? ==some 63&&Zel u.query Zbt)&&decide ((YV u).length≤512)
def Zgc (u:Z6):Bs:=if Zh6 u then YV u else[]
def ZaT (s0:Bs):Z6×Int:=
 if 512<s0.length then(Z6.zero,4)else
 let s:=(Lib.cut s0 [35]).1
 let c:=Lib.cut s [58,47,47]
 if !c.2.2 then(Z6.zero,3)else
 let rest:=c.2.1
 let at_:=(rest.findIdx? fun x=>x==47||x==63).getD rest.length
 let o:=Y5 (c.1++[58,47,47]++rest.take at_)
 if o.2 !=0 then(Z6.zero,o.2)else
 let q:=Lib.cut (rest.drop at_) [63]
 if !Zel q.1 Zch|| !Zel q.2.1 Zbt then(Z6.zero,3)else
 let u:Z6:=⟨o.1,ZbD q.1,if q.2.2 then[63]++q.2.1 else[]⟩
 if 512<(YV u).length then(Z6.zero,4)else(u,0)
def Zq1:Bs:=[34,40,41,58,60,62,63,64,91,92,93,123,125]++[127]
def ZdD (c:UInt8):Bool:=c==9||(decide (32≤c.toNat)&& !Zq1.contains c)
def Zm1 (v:Bs):Bs×Bool:=
 let h:=YO (Lib.cut v [59]).1
 let c:=Lib.cut h [47]
 if !c.2.2|| !Zaz c.1|| !Zaz c.2.1 then([],false)else(Yx h,true)
def Zfv (v:Bs):Bool:=
 let ok:=([98,121,116,101,115,61]:Bs).isPrefixOf v
 let rest:=if ok then v.drop 6 else v
 let c:=Lib.cut rest [45]
 let a:=Zab c.1
 if !ok|| !c.2.2|| !a.2 then false else
 let z:=Zab c.2.1
 c.2.1==[]||z.2&&decide (a.1≤z.1)
def Zhj (c:UInt8):Bool:=(decide (97≤(c|||32).toNat)&&decide ((c|||32).toNat≤122))||Zc1 c||([32,42,44,45,46,59,61]:Bs).contains c
def ZhH (v:Bs):Bool:=(Zm1 v).1==[97,112,112,108,105,99,97,116,105,111,110,47,120,45,119,119,119,45,102,111,114,109,45,117,114,108,101,110,99,111,100,101,100]||(Zm1 v).1==[109,117,108,116,105,112,97,114,116,47,102,111,114,109,45,100,97,116,97]||(Zm1 v).1==[116,101,120,116,47,112,108,97,105,110]
def ZdB (h:Bs×Bs):Bool:=
 let v:=YO h.2
 let n:=Yx h.1
 if 128<v.length then false
 else if n=[97,99,99,101,112,116]then v.all ZdD
 else if n=[97,99,99,101,112,116,45,108,97,110,103,117,97,103,101]∨n=[99,111,110,116,101,110,116,45,108,97,110,103,117,97,103,101]then v.all Zhj
 else if n=[99,111,110,116,101,110,116,45,116,121,112,101]then v.all ZdD&&ZhH v
 else if n=[114,97,110,103,101]then Zfv v
 else false
def Zdy (l:List (Bs×Bs)):List Bs:=
 let s:=l.filter ZdB
 let out:=(l.filter fun h=> !ZdB h).map fun h=>Yx h.1
 let sum:=(s.map fun h=>(YO h.2).length).sum
 ZU (ZbK (if 1024<sum then out++s.map (fun h=>Yx h.1)else out))
def ZfC (r:Yb):Bool:=ZfX r.method&&(Zdy r.headers).length==0
def ZbW (r:Yb):Int:=
 if ZcA r.method !=0 then ZcA r.method
 else if !(r.mode==1||r.mode==2||r.mode==3)then 7
 else if Zcd r.headers !=0 then Zcd r.headers
 else if r.cls<1∨6<r.cls then 8
 else if 600<r.timeout then 9
 else if r.group<0∨r.signal<0 then 2
 else 0
def Za9 (r:Yb):Int:=
 let u:=ZaT r.url
 if u.2 !=0 then u.2 else
 let o:=Y5 r.origin
 if o.2 !=0 then o.2
 else if ZbW r !=0 then ZbW r
 else if(r.mode==1&&u.1.origin !=o.1)||(r.mode==2&& !ZfC r)then 7
 else 0
def YF (r:Yb):Z6×Zx×Bool:=if Za9 r !=0 then(Z6.zero,Zx.zero,false)else((ZaT r.url).1,(Y5 r.origin).1,true)
def YP (r:Yb):Yb:=if !(YF r).2.2 then Yb.zero else{r with method:=ZdJ r.method,url:=Zgc (YF r).1,origin:=Zew (YF r).2.1,headers:=ZcF r.headers}
def ZfJ (r:Yb):Bool:=(YF r).2.2&&(YF r).1.origin !=(YF r).2.1
def ZaR (r:Yb):List Bs:=if Za9 r !=0 then[]else Zdy r.headers
def Zdz (r:Yb):Bool:=r.mode==3&&ZfJ r&& !ZfC r
def Zek (r:Yb):Bs:=if !(YF r).2.2 then[]else Zfs (YF r).1.origin
structure ZeC where
 origin:Bs
 url:Bs
 creds:Bool
 deriving DecidableEq
def Zdm (r:Yb):ZeC:=⟨(YP r).origin,(YP r).url,(YP r).creds⟩
structure ZdA where
 cell:ZeC
 method:Bs
 names:Bs
 deriving DecidableEq
def Zb1 (r:Yb):ZdA:=⟨Zdm r,(YP r).method,Lib.join (ZaR r) [44]⟩
def Zfm (origin:Bs) (creds:Bool) (l:List (Bs×Bs)):Int:=
 let v:=Zdc l [97,99,99,101,115,115,45,99,111,110,116,114,111,108,45,97,108,108,111,119,45,111,114,105,103,105,110]
 if v.2&&v.1==[42]&& !creds then 0
 else if !v.2||v.1 !=origin then 15
 else if creds&&(Zdc l [97,99,99,101,115,115,45,99,111,110,116,114,111,108,45,97,108,108,111,119,45,99,114,101,100,101,110,116,105,97,108,115]).1 !=[116,114,117,101]then 15
 else 0
structure Zp where
 methods:List Bs
 headers:List Bs
 age:Nat
def Zp.zero:Zp:=⟨[],[],0⟩
def Zbx (l:List (Bs×Bs)) (name:Bs):Option (List Bs):=if(Zie (Zdc l name).1).all Zaz then some (Zie (Zdc l name).1)else none
def Zb3 (l:List (Bs×Bs)):Zp×Int:=match Zbx l [97,99,99,101,115,115,45,99,111,110,116,114,111,108,45,97,108,108,111,119,45,109,101,116,104,111,100,115]with
 |none=>(Zp.zero,5)
 |some ms=>match Zbx l [97,99,99,101,115,115,45,99,111,110,116,114,111,108,45,97,108,108,111,119,45,104,101,97,100,101,114,115]with
  |none=>(Zp.zero,6)
  |some hs=>
   let n:=Zab (YO (Zdc l [97,99,99,101,115,115,45,99,111,110,116,114,111,108,45,109,97,120,45,97,103,101]).1)
   (⟨ms,hs.map Yx,if n.2 then min n.1 7200 else 5⟩,0)
def ZqT (a:Zp) (m:Bs) (creds:Bool):Bool:=ZfX m||a.methods.contains m||(!creds&&a.methods.contains [42])
def Zck (a:Zp) (name:Bs) (creds:Bool):Bool:=a.headers.contains (Yx name)||(!creds&&Yx name !=[97,117,116,104,111,114,105,122,97,116,105,111,110]&&a.headers.contains [42])
def Zbs (r:Yb) (status:Int) (l:List (Bs×Bs)):Zp×Int:=
 if !Zdz r then(Zp.zero,2)
 else if Zfm (YP r).origin (YP r).creds l !=0 then(Zp.zero,Zfm (YP r).origin (YP r).creds l)
 else if status<200∨300≤status then(Zp.zero,14)
 else if(Zb3 l).2 !=0 then(Zp.zero,(Zb3 l).2)
 else if !ZqT (Zb3 l).1 (YP r).method (YP r).creds then(Zp.zero,5)
 else if(ZaR r).all (fun n=>Zck (Zb3 l).1 n (YP r).creds)then((Zb3 l).1,0)
 else(Zp.zero,6)
structure Zr where
 cell:ZeC
 method:Bs
 header:Bs
 until_:Nat
 deriving DecidableEq
def Zho (out:List Zr) (e:Zr):List Zr:=if out.contains e then out else out++[e]
def addT (a c:Nat):Nat:=if 18446744073709551615<a+c then 18446744073709551615 else a+c
def ZbM (r:Yb) (a:Zp) (now:Nat):List Zr:=
 if !Zdz r||a.age==0 then[]else
 let u:=addT now a.age
 let ms:=if a.methods.length==0 then[(YP r).method]else a.methods
 let es:=ms.map (fun m=>(⟨Zdm r,m,[],u⟩:Zr))++a.headers.map (fun h=>(⟨Zdm r,[],h,u⟩:Zr))
 es.foldl Zho []
open Go
section
variable {P:Program} {ops:Array Oper} {md:Region.Mode}
def Zgo (md:Region.Mode) (ops:Array Oper) (i:Nat) (acc:Array Bool) (j:Nat):Array Bool:=
 if(match ops[j]? with|some oj=>oj.after.any fun e=>Region.binds md e&&(e.on==i||acc.getD e.on false)|none=>false)then acc.setIfInBounds j true else acc
def ZrG (md:Region.Mode) (ops:Array Oper) (i:Nat):Array Bool:=(List.range ops.size).foldl (Zgo md ops i) (Array.replicate ops.size false)
def Zep (md:Region.Mode) (ops:Array Oper) (listed:Array Bool):Prop:=
 ∀j oj,ops[j]? =some oj→listed.getD j false=true→∀e∈oj.after,Region.binds md e=true→listed.getD e.on false=true
def ZqO (md:Region.Mode) (ops:Array Oper) (i:Nat) (acc:Array Bool):Prop:=
 ∀j,acc.getD j false=true→∀listed,Zep md ops listed→listed.getD i false=false→listed.getD j false=false∧j∉Region.ready md ops listed
theorem Zpm {acc:Array Bool} (h:ZqO md ops i acc) (j:Nat):ZqO md ops i (Zgo md ops i acc j):=by
 unfold Zgo
 cases hoj:ops[j]? with
 |none=>simpa using h
 |some oj=>
  simp only[]
  by_cases l:(oj.after.any fun e=>Region.binds md e&&(e.on==i||acc.getD e.on false))=true
  ·rw[if_pos l]
   obtain⟨e,n,c⟩:=Array.any_eq_true'.1 l
   simp only[Bool.and_eq_true,Bool.or_eq_true,beq_iff_eq]at c
   intro k o a f g
   by_cases m:j=k
   ·subst m
    have b:a.getD e.on false=false:=by
     rcases c.2 with d|d
     ·rw[d];exact g
     ·exact(h _ d a f g).1
    refine⟨?_,fun s=> ?_⟩
    ·cases hl:a.getD j false
     ·rfl
     ·rw[f j oj hoj hl e n c.1]at b;cases b
    ·obtain⟨_,r,q,p⟩:=mem_ready.1 s
     have:r=oj:=Option.some.inj (q.symm.trans hoj)
     subst this
     rw[p e n c.1]at b;cases b
   ·rw[getD_set_ne false m]at o
    exact h k o a f g
  ·rw[if_neg l];exact h
theorem Zn7 (i:Nat):ZqO md ops i (ZrG md ops i):=by
 have c:∀(l:List Nat) (a:Array Bool),ZqO md ops i a→ZqO md ops i (l.foldl (Zgo md ops i) a):=by
  intro l
  induction l with
  |nil=>exact fun a h=>h
  |cons j l ih=>exact fun a h=>ih _ (Zpm h j)
 exact c _ _ fun j b=>by rw[getD_replicate_false]at b;cases b
variable {S:Nat→Bool} {Q:Exit→Act→World→Prop}
theorem Zai {i:Nat} {listed:Array Bool} (hc:Zep md ops listed) (hi:i∈Region.ready md ops listed):Zep md ops (listed.setIfInBounds i true):=by
 obtain⟨_,l,k,h⟩:=mem_ready.1 hi
 intro j f g d e b c
 by_cases a:i=j
 ·subst a
  have:f=l:=Option.some.inj (g.symm.trans k)
  subst this
  exact getD_set_true (h e b c)
 ·rw[getD_set_ne false a]at d
  exact getD_set_true (hc j f g d e b c)
theorem ZdH {n:Act→World→Prop} {K:Act→World→Prop} (h:wpOp P ops (Exit.then n Q) i K a w):wpOp P ops Q i K a w:=by
 unfold wpOp at*
 split
 ·rename_i ho;simpa[ho]using h
 ·rename_i o ho
  simp only[ho]at h
  split
  ·rename_i b
   simp only[b,if_true]at h
   rcases h with h|⟨j,g,w',d⟩
   ·refine .inl ?_
    unfold Oper.wp at*
    generalize(execOp a.eval o).run P w=r at*
    cases r with
    |ok m w'=>
     cases m<;>simp only[Oper.upon]at h⊢
     case enter f args=>exact Calls.mono h fun e k c=>by cases e<;>first|exact c|(obtain⟨a,w,hx⟩:=c;exact⟨a,w,hx⟩)
     all_goals exact h
    |halt x w'=>cases x<;>simp only[Oper.upon]at h⊢<;>exact h
   ·exact .inr ⟨j,g,w',d⟩
  ·rename_i b;simp only[b]at h;exact h
end
section
variable {P:Program} {ops:Array Oper} {md:Region.Mode} {Q:Exit→Act→World→Prop}
def ZpA (P:Program) (ops:Array Oper) (S:World→Prop) (i:Nat) (K:Act→Prop) (a:Act):Prop:=
 ∃o v,ops[i]? =some o∧YieldsIf P ops S o v a∧K (a.put o.dst v)
def Z4 (P:Program) (ops:Array Oper) (Q:Exit→Act→World→Prop):List (Nat×Nat)→(World→Prop)→Act→World→Prop
 |[],_,a,w=>Q .normal a w
 |(i,0)::r,S,a,w=>ZpA P ops S i (fun a'=>Z4 P ops Q r S a' w) a
 |(i,1)::r,S,a,w=>wpOp P ops Q i (fun a' w'=>∃S':World→Prop,(∀W,S' W→S W)∧S' w'∧Z4 P ops Q r S' a' w') a w
 |(i,2)::r,_,a,w=>wpOp P ops Q i (fun a' w'=>∃S':World→Prop,S' w'∧Z4 P ops Q r S' a' w') a w
 |(i,_)::r,S,a,w=>ZpA P ops (fun _=>True) i (fun a'=>Z4 P ops Q r S a' w) a
def ZeB:List (Nat×Nat)→Option Nat
 |[]=>none
 |(_,0)::r=>ZeB r
 |(_,1)::r=>ZeB r
 |(i,2)::_=>some i
 |(_,_)::r=>ZeB r
def Zcx (P:Program) (md:Region.Mode) (ops:Array Oper) (Q:Exit→Act→World→Prop) (F:Option Nat) (S:World→Prop):Nat→Array Bool→Act→World→Prop
 |0,listed,a,w=>Region.ready md ops listed=[]∧Q .normal a w
 |fuel+1,listed,a,w=>
  (Region.ready md ops listed=[]→Q .normal a w)∧
  ∀i∈Region.ready md ops listed,if F=some i then wpOp P ops Q i (wpAny P md ops Q fuel (listed.setIfInBounds i true)) a w
   else wpOp P ops Q i (fun a' w'=>S w'∧Zcx P md ops Q F S fuel (listed.setIfInBounds i true) a' w') a w
theorem ZcV:∀(fuel:Nat) (listed:Array Bool) (a:Act) (w:World),Zcx P md ops Q F S fuel listed a w→wpAny P md ops Q fuel listed a w
 |0,_,_,_,h=>h
 |fuel+1,_,_,_,h=>⟨h.1,fun i hi=>by
  have h2:=h.2 i hi
  split at h2
  ·exact h2
  ·exact wpOp_mono (fun a' w' h'=>ZcV fuel _ a' w' h'.2) h2⟩
theorem Zcu {S S':World→Prop} (h:∀W,S' W→S W):∀(fuel:Nat) (listed:Array Bool) (a:Act) (w:World),Zcx P md ops Q F S' fuel listed a w→Zcx P md ops Q F S fuel listed a w
 |0,_,_,_,hh=>hh
 |fuel+1,_,_,_,hh=>⟨hh.1,fun i hi=>by
  have h2:=hh.2 i hi
  split at h2
  ·rename_i hF;rw[if_pos hF];exact h2
  ·rename_i hF;rw[if_neg hF];exact wpOp_mono (fun a' w' h'=>⟨h _ h'.1,Zcu h fuel _ a' w' h'.2⟩) h2⟩
theorem ZdR {F:Option Nat} {i:Nat} {oi:Oper} (hi:ops[i]? =some oi) (hsel:∀(j:Nat) (o:Oper) cs b,ops[j]? =some o→o.op≠ .select cs b)
  (hQ:∀c a w,Q (.panic c) (a.put oi.dst v) w→Q (.panic c) a w) (hF:F≠some i) (hd:∀j,F=some j→(ZrG md ops i).getD j false=true):
  ∀(fuel:Nat) (listed:Array Bool) (a:Act) (w:World),Zep md ops listed→
   (∀j oj,ops[j]? =some oj→j≠i→listed.getD j true=false→(∀e∈oj.after,Region.binds md e=true→e.on≠i)→oi.apart ops oj=true)→
   i∈Region.ready md ops listed→YieldsIf P ops S oi v a→S w→
   Zcx P md ops Q F S fuel (listed.setIfInBounds i true) (a.put oi.dst v) w→Zcx P md ops Q F S (fuel+1) listed a w:=by
 intro fuel
 induction fuel with
 |zero=>
  intro listed a w t r f q m H
  refine⟨fun h=>(by rw[h]at f;cases f),fun j g=> ?_⟩
  by_cases d:j=i
  ·subst d;rw[if_neg hF];exact q.wpOp hi m ⟨m,H⟩
  ·have:=ready_mono g d
   rw[H.1]at this
   cases this
 |succ fuel ih=>
  intro listed a w t r f q m H
  refine⟨fun h=>(by rw[h]at f;cases f),fun j g=> ?_⟩
  by_cases d:j=i
  ·subst d;rw[if_neg hF];exact q.wpOp hi m ⟨m,H⟩
  ·have l:=H.2 j (ready_mono g d)
   have y:listed.getD i false=false:=getD_both (mem_ready.1 f).1
   have L:F≠some j:=fun e=>(Zn7 i j (hd j e) listed t y).2 g
   rw[if_neg L]at l⊢
   obtain⟨x,oj,s,E⟩:=mem_ready.1 g
   have G:∀e∈oj.after,Region.binds md e=true→e.on≠i:=fun e T O I=>by
    have l:=E e T O
    rw[I,y]at l
    cases l
   have M:=wpOp_putIf s (r j oj s d x G) (fun cs b=>hsel i oi cs b hi) (fun cs b=>hsel j oj cs b s) hQ q l
   have C:∀k n,ops[k]? =some n→k≠i→(listed.setIfInBounds j true).getD k true=false→
     (∀e∈n.after,Region.binds md e=true→e.on≠i)→oi.apart ops n=true:=fun k n R K z J=>by
    refine r k n R K ?_ J
    by_cases A:j=k
    ·subst A;exact x
    ·rw[getD_set_ne true A]at z;exact z
   refine wpOp_mono (fun V N p=>⟨p.2.1,ih (listed.setIfInBounds j true) V N (Zai t g) C (ready_mono f (Ne.symm d)) p.1 p.2.1 ?_⟩) M
   rw[Array.setIfInBounds_comm _ _ d]
   exact p.2.2
theorem Zjh {S:World→Prop} (hS:∀W,S W):∀(fuel:Nat) (listed:Array Bool) (a:Act) (w:World),wpAny P md ops Q fuel listed a w→Zcx P md ops Q none S fuel listed a w
 |0,_,_,_,h=>h
 |fuel+1,_,_,_,h=>⟨h.1,fun i hi=>by
  rw[if_neg (by simp)]
  exact wpOp_mono (fun a' w' h'=>⟨hS _,Zjh hS fuel _ a' w' h'⟩) (h.2 i hi)⟩
theorem ZjZ {i:Nat} {oi:Oper} (hi:ops[i]? =some oi) (hsel:∀(j:Nat) (o:Oper) cs b,ops[j]? =some o→o.op≠ .select cs b)
  (hQ:∀c a w,Q (.panic c) (a.put oi.dst v) w→Q (.panic c) a w) (fuel:Nat) (listed:Array Bool) (a:Act) (w:World) (hc:Zep md ops listed)
  (hfree:∀j oj,ops[j]? =some oj→j≠i→listed.getD j true=false→(∀e∈oj.after,Region.binds md e=true→e.on≠i)→oi.apart ops oj=true)
  (hr:i∈Region.ready md ops listed) (hy:YieldsIf P ops (fun _=>True) oi v a) (H:wpAny P md ops Q fuel (listed.setIfInBounds i true) (a.put oi.dst v) w):wpAny P md ops Q (fuel+1) listed a w:=
 ZcV (F:=none) (S:=fun _=>True) _ _ _ _ (ZdR hi hsel hQ (by simp) (fun j e=>by cases e) fuel listed a w hc hfree hr hy trivial (Zjh (fun _=>trivial) _ _ _ _ H))
theorem ZkP {F:Option Nat} {S:World→Prop} {i:Nat} {oi:Oper} (hi:ops[i]? =some oi) (hsel:∀(j:Nat) (o:Oper) cs b,ops[j]? =some o→o.op≠ .select cs b)
  (hQ:∀c a w,Q (.panic c) (a.put oi.dst v) w→Q (.panic c) a w) (hF:F≠some i):
  ∀(fuel:Nat) (listed:Array Bool) (a:Act) (w:World),Zep md ops listed→
   (∀j oj,ops[j]? =some oj→j≠i→listed.getD j true=false→(∀e∈oj.after,Region.binds md e=true→e.on≠i)→oi.apart ops oj=true)→
   i∈Region.ready md ops listed→YieldsIf P ops (fun _=>True) oi v a→S w→
   Zcx P md ops Q F S fuel (listed.setIfInBounds i true) (a.put oi.dst v) w→Zcx P md ops Q F S (fuel+1) listed a w:=by
 intro fuel
 induction fuel with
 |zero=>
  intro listed a w A r f p y H
  refine⟨fun h=>(by rw[h]at f;cases f),fun j n=> ?_⟩
  by_cases d:j=i
  ·subst d;rw[if_neg hF];exact p.wpOp hi trivial ⟨y,H⟩
  ·have:=ready_mono n d
   rw[H.1]at this
   cases this
 |succ fuel ih=>
  intro listed a w A r f p y H
  refine⟨fun h=>(by rw[h]at f;cases f),fun j n=> ?_⟩
  by_cases d:j=i
  ·subst d;rw[if_neg hF];exact p.wpOp hi trivial ⟨y,H⟩
  ·have l:=H.2 j (ready_mono n d)
   have L:listed.getD i false=false:=getD_both (mem_ready.1 f).1
   obtain⟨s,oj,m,K⟩:=mem_ready.1 n
   have E:∀e∈oj.after,Region.binds md e=true→e.on≠i:=fun e V R M=>by
    have l:=K e V R
    rw[M,L]at l
    cases l
   have C:∀k q,ops[k]? =some q→k≠i→(listed.setIfInBounds j true).getD k true=false→
     (∀e∈q.after,Region.binds md e=true→e.on≠i)→oi.apart ops q=true:=fun k q T O G N=>by
    refine r k q T O ?_ N
    by_cases I:j=k
    ·subst I;exact s
    ·rw[getD_set_ne true I]at G;exact G
   by_cases J:F=some j
   ·rw[if_pos J]at l⊢
    have t:=wpOp_putIf m (r j oj m d s E) (fun cs b=>hsel i oi cs b hi) (fun cs b=>hsel j oj cs b m) hQ p l
    refine wpOp_mono (fun z x g=>ZjZ hi hsel hQ fuel _ z x (Zai A n) C (ready_mono f (Ne.symm d)) g.1 ?_) t
    rw[Array.setIfInBounds_comm _ _ d]
    exact g.2
   ·rw[if_neg J]at l⊢
    have t:=wpOp_putIf m (r j oj m d s E) (fun cs b=>hsel i oi cs b hi) (fun cs b=>hsel j oj cs b m) hQ p l
    refine wpOp_mono (fun z x g=>⟨g.2.1,ih (listed.setIfInBounds j true) z x (Zai A n) C (ready_mono f (Ne.symm d)) g.1 g.2.1 ?_⟩) t
    rw[Array.setIfInBounds_comm _ _ d]
    exact g.2.2
def ZeA (md:Region.Mode) (ops:Array Oper):List (Nat×Nat)→Array Bool→Bool
 |[],listed=>(Region.ready md ops listed).isEmpty
 |(i,0)::r,listed=>(Region.ready md ops listed).contains i&&Region.free md ops listed i&&(match ZeB r with|some j=>i !=j&&(ZrG md ops i).getD j false|none=>true)&&ZeA md ops r (listed.setIfInBounds i true)
 |(i,1)::r,listed=>Region.ready md ops listed==[i]&&(ZeB r !=some i)&&ZeA md ops r (listed.setIfInBounds i true)
 |(i,2)::r,listed=>Region.ready md ops listed==[i]&&ZeA md ops r (listed.setIfInBounds i true)
 |(i,_)::r,listed=>(Region.ready md ops listed).contains i&&Region.free md ops listed i&&(ZeB r !=some i)&&ZeA md ops r (listed.setIfInBounds i true)
theorem ZbN (hs:Region.noSelect ops=true) (hQ:∀c a w t v,Q (.panic c) (a.put t v) w→Q (.panic c) a w):
  ∀(l:List (Nat×Nat)) (S:World→Prop) (listed:Array Bool) (a:Act) (w:World),Zep md ops listed→ZeA md ops l listed=true→S w→Z4 P ops Q l S a w→Zcx P md ops Q (ZeB l) S l.length listed a w
 |[],S,listed,a,w,_,hB,_,h=>⟨by simpa[ZeA]using hB,h⟩
 |(i,0)::r,S,listed,a,w,hc,hB,hS,h=>by
  simp only[ZeA,Bool.and_eq_true]at hB
  obtain⟨o,v,ho,hy,hK⟩:=h
  have hr:i∈Region.ready md ops listed:=by simpa using hB.1.1.1
  refine ZdR (F:=ZeB r) ho (Region.noSelect_spec hs) (fun c a w=>hQ c a w _ _) (fun e=> ?_) (fun j e=> ?_) r.length listed a w hc (Region.free_spec ho hB.1.1.2) hr hy hS
   (ZbN hs hQ r S _ _ _ (Zai hc hr) hB.2 hS hK)
  ·have:=hB.1.2;rw[e]at this;simp at this
  ·have:=hB.1.2;rw[e]at this;simp only[Bool.and_eq_true]at this;exact this.2
 |(i,1)::r,S,listed,a,w,hc,hB,hS,h=>by
  simp only[ZeA,Bool.and_eq_true,beq_iff_eq]at hB
  refine⟨fun h0=>(by rw[hB.1.1]at h0;cases h0),fun j hj=> ?_⟩
  have hi:i∈Region.ready md ops listed:=by rw[hB.1.1];simp
  rw[hB.1.1]at hj
  obtain rfl:j=i:=by simpa using hj
  rw[if_neg (by have:=hB.1.2;simpa[ZeB]using this)]
  refine wpOp_mono (fun a' w' h'=> ?_) h
  obtain⟨S',h1,h2,h3⟩:=h'
  exact⟨h1 _ h2,Zcu h1 _ _ _ _ (ZbN hs hQ r S' _ _ _ (Zai hc hi) hB.2 h2 h3)⟩
 |(i,n+3)::r,S,listed,a,w,hc,hB,hS,h=>by
  simp only[ZeA,Bool.and_eq_true]at hB
  obtain⟨o,v,ho,hy,hK⟩:=h
  have hr:i∈Region.ready md ops listed:=by simpa using hB.1.1.1
  exact ZkP (F:=ZeB r) ho (Region.noSelect_spec hs) (fun c a w=>hQ c a w _ _) (by simpa using hB.1.2) r.length listed a w hc (Region.free_spec ho hB.1.1.2) hr hy hS
   (ZbN hs hQ r S _ _ _ (Zai hc hr) hB.2 hS hK)
 |(i,2)::r,S,listed,a,w,hc,hB,hS,h=>by
  simp only[ZeA,Bool.and_eq_true,beq_iff_eq]at hB
  refine⟨fun h0=>(by rw[hB.1]at h0;cases h0),fun j hj=> ?_⟩
  have hi:i∈Region.ready md ops listed:=by rw[hB.1];simp
  rw[hB.1]at hj
  obtain rfl:j=i:=by simpa using hj
  rw[if_pos (by simp[ZeB])]
  refine wpOp_mono (fun a' w' h'=> ?_) h
  obtain⟨S',h2,h3⟩:=h'
  exact ZcV _ _ _ _ (ZbN hs hQ r S' _ _ _ (Zai hc hi) hB.2 h2 h3)
def ZmI (md:Region.Mode) (ops:Array Oper) (l:List (Nat×Nat)):Bool:=Region.noSelect ops&&l.length==ops.size&&ZeA md ops l (Array.replicate ops.size false)
theorem ZX {id:Nat} {ol:List Oper} (l:List (Nat×Nat)) (S:World→Prop) (hm:P.follows .mixedOrders=true) (hB:ZmI .any ol.toArray l=true)
  (hQ:∀c a w t v,Q (.panic c) (a.put t v) w→Q (.panic c) a w) (hS:S {w with drawn:=w.drawn+1})
  (h:Z4 P ol.toArray Q l S a {w with drawn:=w.drawn+1}):(Code.region id ol.toArray true).wp P Q a w:=by
 simp only[ZmI,Bool.and_eq_true,beq_iff_eq]at hB
 obtain⟨⟨f,e⟩,hB⟩:=hB
 refine wp_region_any hm ?_
 have b:=ZbN f hQ l S _ _ _ (fun j g _ d=>(by rw[getD_replicate_false]at d;cases d)) hB hS h
 rw[e]at b
 exact ZcV _ _ _ _ b
theorem Zan {i:Nat} {o:Oper} {S:World→Prop} {a a':Act} (ho:ops[i]? =some o) (hg:o.guard=none)
  (hv:∀W,S W→(execOp a.eval o).run P W= .ok (.value v) W) (ha:a.put o.dst v=a') (h:Z4 P ops Q r S a' w):Z4 P ops Q ((i,0)::r) S a w:=
 ⟨o,v,ho, .inl ⟨by simp[Region.wanted,hg],hv⟩,by rw[ha];exact h⟩
theorem Zd7 {i:Nat} {o:Oper} {S:World→Prop} {a a':Act} (ho:ops[i]? =some o) (hg:Region.wanted o (yielded ops a.tmps)=true)
  (hv:∀W,S W→(execOp a.eval o).run P W= .ok (.value v) W) (ha:a.put o.dst v=a') (h:Z4 P ops Q r S a' w):Z4 P ops Q ((i,0)::r) S a w:=
 ⟨o,v,ho, .inl ⟨hg,hv⟩,by rw[ha];exact h⟩
theorem ZoH {i:Nat} {o:Oper} {a a':Act} (ho:ops[i]? =some o) (hg:o.guard=none)
  (hv:∀W,(execOp a.eval o).run P W= .ok (.value v) W) (ha:a.put o.dst v=a') (h:Z4 P ops Q r S a' w):Z4 P ops Q ((i,3)::r) S a w:=
 ⟨o,v,ho, .inl ⟨by simp[Region.wanted,hg],fun W _=>hv W⟩,by rw[ha];exact h⟩
theorem ZpU {i:Nat} {o:Oper} {a a':Act} (ho:ops[i]? =some o) (hg:Region.wanted o (yielded ops a.tmps)=false)
  (ha:a.put o.dst undef=a') (h:Z4 P ops Q r S a' w):Z4 P ops Q ((i,0)::r) S a w:=
 ⟨o,undef,ho, .inr ⟨hg,rfl⟩,by rw[ha];exact h⟩
theorem ZpH {i:Nat} {o:Oper} {S:World→Prop} (ho:ops[i]? =some o)
  (h:wpList P ops (Exit.then (fun a' w'=>∃S':World→Prop,(∀W,S' W→S W)∧S' w'∧Z4 P ops Q r S' a' w') Q) [o] a w):Z4 P ops Q ((i,1)::r) S a w:=by
 refine ZdH (n:=fun a' w'=>∃S':World→Prop,(∀W,S' W→S W)∧S' w'∧Z4 P ops Q r S' a' w') ?_
 unfold wpOp
 simp only[ho]
 exact h
theorem Zoy {i:Nat} {o:Oper} (ho:ops[i]? =some o)
  (h:wpList P ops (Exit.then (fun a' w'=>∃S':World→Prop,S' w'∧Z4 P ops Q r S' a' w') Q) [o] a w):Z4 P ops Q ((i,2)::r) S a w:=by
 refine ZdH (n:=fun a' w'=>∃S':World→Prop,S' w'∧Z4 P ops Q r S' a' w') ?_
 unfold wpOp
 simp only[ho]
 exact h
theorem ZL (h:Q .normal a w):Z4 P ops Q [] S a w:=h
end
section
variable {P:Program} {ops:Array Oper} {Q:Exit→Act→World→Prop}
theorem Jn {i:Nat} {o:Oper} {a a':Act} (h:Z4 P ops Q r S a' w)
 (ho:ops[i]? =some o:=by simp only[List.getElem?_toArray,List.getElem?_cons_succ,List.getElem?_cons_zero];rfl) (hg:Region.wanted o (yielded ops a.tmps)=true:=by rfl)
 (hv:∀W,S W→(execOp a.eval o).run P W= .ok (.value v) W:=by intro W hW;(try dsimp only at hW);go_simp;rfl) (ha:a.put o.dst v=a':=by go_simp;rfl):Z4 P ops Q ((i,0)::r) S a w:=Zd7 ho hg hv ha h
theorem Jf {i:Nat} {o:Oper} {a a':Act} (h:Z4 P ops Q r S a' w)
 (ho:ops[i]? =some o:=by simp only[List.getElem?_toArray,List.getElem?_cons_succ,List.getElem?_cons_zero];rfl) (hg:Region.wanted o (yielded ops a.tmps)=false:=by rfl)
 (ha:a.put o.dst undef=a':=by go_simp;rfl):Z4 P ops Q ((i,0)::r) S a w:=ZpU ho hg ha h
theorem Ju {i:Nat} {o:Oper} {a a':Act} (h:Z4 P ops Q r S a' w)
 (ho:ops[i]? =some o:=by simp only[List.getElem?_toArray,List.getElem?_cons_succ,List.getElem?_cons_zero];rfl) (hg:o.guard=none:=by rfl)
 (hv:∀W,(execOp a.eval o).run P W= .ok (.value v) W:=by intro W;go_simp;rfl) (ha:a.put o.dst v=a':=by go_simp;rfl):Z4 P ops Q ((i,3)::r) S a w:=ZoH ho hg hv ha h
theorem JE {i:Nat} {o:Oper} {S:World→Prop}
 (h:wpList P ops (Exit.then (fun a' w'=>∃S':World→Prop,(∀W,S' W→S W)∧S' w'∧Z4 P ops Q r S' a' w') Q) [o] a w)
 (ho:ops[i]? =some o:=by simp only[List.getElem?_toArray,List.getElem?_cons_succ,List.getElem?_cons_zero];rfl):Z4 P ops Q ((i,1)::r) S a w:=ZpH ho h
theorem JL {i:Nat} {o:Oper}
 (h:wpList P ops (Exit.then (fun a' w'=>∃S':World→Prop,S' w'∧Z4 P ops Q r S' a' w') Q) [o] a w)
 (ho:ops[i]? =some o:=by simp only[List.getElem?_toArray,List.getElem?_cons_succ,List.getElem?_cons_zero];rfl):Z4 P ops Q ((i,2)::r) S a w:=Zoy ho h
theorem Jz (h:Q .normal a w):∃S:World→Prop,S w∧Z4 P ops Q [] S a w:=⟨fun _=>True,trivial,h⟩
theorem Jr {id:Nat} {w:World} {ol:List Oper} (l:List Nat) (S:World→Prop) (hS:S {w with drawn:=w.drawn+1})
 (h:Z4 P ol.toArray Q l' S a {w with drawn:=w.drawn+1}) (hl:l.map (fun n=>(n/4,n%4))=l':=by simp only[List.map,Nat.reduceDiv,Nat.reduceMod];rfl) (hm:P.follows .mixedOrders=true:=by kernel_rfl) (hB:ZmI .any ol.toArray l'=true:=by kernel_rfl)
 (hQ:∀c a w t v,Q (.panic c) (a.put t v) w→Q (.panic c) a w:=by intro c a w t v h;cases t<;>exact h):(Code.region id ol.toArray true).wp P Q a w:=ZX l' S hm hB hQ hS h
end
variable {P:Program}
theorem Zar (l:List UInt8) (n:Nat) (h:n<l.length):(⟨l.toArray⟩:ByteArray)[n]'(by simpa[ByteArray.size]using h)=l[n]:=by
 show(l.toArray)[n]'_=_
 simp
theorem Zeu {k:IntKind} {l:List UInt8} {z:Int} {n:Nat} (ht:P.underlying t=some .string) (hz:z=(n:Int)) (h:n<l.length) (W:World):
  (Instr.index t (.string ⟨l.toArray⟩) (.int k z)).run P W= .ok (.int .u8 ((l[n]).toNat:Int)) W:=by
 subst hz
 have a:n<(⟨l.toArray⟩:ByteArray).size:=by simpa[ByteArray.size]using h
 have e:(⟨l.toArray⟩:ByteArray)[n]? =some l[n]:=by rw[getElem?_pos (⟨l.toArray⟩:ByteArray) n a,Zar l n h]
 simp[Instr.index,run_underlying ht,asIntOf,go_sem,e]
end Go.Lk
namespace Go.Proofs.YtbgbeddbfaopgaaGreatDoor
theorem Tryz.infoHeader:(Tryz.prog.info? 264).map (fun i=>(i.zero,i.size,i.bytes))=some (some (.agg #[.string ⟨#[]⟩, .string ⟨#[]⟩]),2,32):=by kernel_rfl
theorem Tryz.infoString:(Tryz.prog.info? 9).map (fun i=>(i.zero,i.size,i.bytes))=some (some (.string ⟨#[]⟩),1,16):=by kernel_rfl
theorem Tryz.infoInt:(Tryz.prog.info? 3).map (fun i=>(i.zero,i.size,i.bytes))=some (some (.int .i64 0),1,8):=by kernel_rfl
open Go.RowKit Go.Lk
theorem ZqH {w:World} {b j m:Nat} {cs:Array Value} (h:w.heap[b]? =some (.cells cs T (m,m+1))) (hj:j<m):w.frozen? ⟨b,j,none⟩=false:=by
 simp[World.frozen?,h];omega
theorem Zkb {P:Program} (w:World) (src dst e:TypeId) (x:List UInt8) (hs:P.underlying src=some .string) (hd:P.underlying dst=some (.slice e)) (he:P.underlying e=some (.int .u8)):
  ∃(row:Array Value) (c:Nat),(convert src dst (.string ⟨x.toArray⟩)).run P w= .ok (.slice (some ⟨w.heap.size,0,none⟩) x.length c) (w.drew.alloc (.cells row e (row.size,row.size+1)))∧x.length≤c∧x.length≤row.size∧∀(j:Nat) (h:j<x.length),row[j]? =some (B x[j]):=by
 refine⟨_,_,run_bytes_of_string w src dst e ⟨x.toArray⟩ hs hd he,grownCap_ge w _ 0 e,?_,fun j h=> ?_⟩
 ·unfold bytesRow;simp[ByteArray.size]
 ·rw[bytesRow_at _ _ j (by simpa using h)]
  simp[B]
theorem ZqD (c:UInt8) (h1:65≤c.toNat) (h2:c.toNat≤90):((Zm3 c).toNat:Int)=(c.toNat:Int)-65+97:=by
 unfold Zm3
 rw[if_pos ⟨h1,h2⟩,UInt8.toNat_add,UInt8.toNat_sub]
 have a:(65:UInt8).toNat=65:=rfl
 have b:(97:UInt8).toNat=97:=rfl
 rw[a,b]
 omega
theorem YJ (x:Bs) (w:World) (hx:x.length≤1000000):
  Calls Tryz.prog 176 #[.string ⟨x.toArray⟩] w fun e w'=>e= .returned (.string ⟨(Yx x).toArray⟩)∧Zg [] w w':=by
 obtain⟨row,c,X,n,Z,H⟩:=Zkb (P:= Tryz.prog) w 9 37 5 x Tryz.underlying9 Tryz.underlying37 Tryz.underlying5
 have W:=D H
 clear H
 go_enter Tryz.func176,Tryz.ntmps176
 go_upto_region 2 with fail
 obtain⟨R,o⟩:=Je ((w.alloc (.cells row 5 (row.size,row.size+1))).drew)
 have J:Zg [] w R:=by rw[o];exact((Zg.refl [] w).alloc _).drewN 1
 have g:R.heap[w.heap.size]? =some (.cells row 5 (row.size,row.size+1)):=by rw[o];exact Za _
 rw[←o]
 clear o X;change Hid _ at J g
 obtain⟨m,F⟩:=Je row.size
 rw[←F]at g Z
 change Hid _ at F
 obtain⟨b,E⟩:=Je w.heap.size
 rw[←E]at g⊢
 change Hid _ at E
 go_wp2_with fail
 go_loopw[10] (fun v10 wr=>∃(k:Nat) (rw_:Array Value),k≤x.length∧v10= .int .i64 k∧wr.heap[b]? =some (.cells rw_ 5 (m,m+1))∧rw_.size=m∧(∀(j:Nat) (h:j<x.length),rw_[j]? =some (B (if j<k then Zm3 x[j]else x[j])))∧Zg [] w wr) (fun v10 _=>x.length-(intOf v10).toNat)
 case atStart=>exact⟨0,row,by omega,rfl,g.out,F.symm,fun j h=>by rw[if_neg (by omega)];exact W j h,J.out⟩
 case round=>
  obtain⟨k,rw_,hk,rfl,d,L,M,O⟩:=hrel
  have p:=D L;have i:=D M;have r:=D O
  clear L M O
  by_cases ab:k<x.length
  ·obtain⟨y,G⟩:=Je (x[k])
   have V:wr.cell? ⟨b,k,none⟩=some (B y):=Zc d (by rw[i.out k ab,if_neg (by omega),G])
   have af:wr.frozen? ⟨b,k,none⟩=false:=ZqH d (by omega)
   have ae:=y.toNat_lt
   unfold B at V
   have s:=D d;have Q:=D G
   clear d G
   by_cases q:65≤y.toNat∧y.toNat≤90
   ·obtain⟨N,h2⟩:=q
    have S:(65:Int)≤(y.toNat:Int):=by omega
    have a2:(y.toNat:Int)≤90:=by omega
    have I:=ZqD y N h2
    have Y:=D I
    clear I
    go_wp2_with fail
    refine⟨⟨k+1,rw_.setIfInBounds k (.int .u8 ((y.toNat:Int)-65+97)),by omega,by go_num,Ze s _,by rw[Array.size_setIfInBounds];exact p,fun j h=> ?_,r.setCell (.inl (by show w.heap.size≤b;rw[E.out];exact Xi _)) _⟩,by simp[intOf];omega⟩
    by_cases l:j=k
    ·subst l
     rw[Array.getElem?_setIfInBounds_self_of_lt (by rw[p.out];omega),if_pos (by omega),←Q.out,←Y.out];rfl
    ·rw[Array.getElem?_setIfInBounds_ne (fun e=>l e.symm),i.out j h]
     by_cases a:j<k
     ·rw[if_pos a,if_pos (by omega)]
     ·rw[if_neg a,if_neg (by omega)]
   ·have n:Zm3 y=y:=by unfold Zm3;rw[if_neg q]
    have aa:=D n
    clear n
    have done:∀(j:Nat) (h:j<x.length),rw_[j]? =some (B (if j<k+1 then Zm3 x[j]else x[j])):=fun j h=>by
     rw[i.out j h]
     by_cases l:j=k
     ·subst l
      rw[if_neg (by omega),if_pos (by omega),←Q.out,aa.out]
     ·by_cases a:j<k
      ·rw[if_pos a,if_pos (by omega)]
      ·rw[if_neg a,if_neg (by omega)]
    have T:=D done
    clear done
    by_cases N:65≤y.toNat
    ·have S:(65:Int)≤(y.toNat:Int):=by omega
     have a2:¬((y.toNat:Int)≤90):=by omega
     clear q
     go_wp2_with fail
     exact⟨⟨k+1,rw_,by omega,by go_num,s.out,p.out,T.out,r.out⟩,by simp[intOf];omega⟩
    ·have S:¬((65:Int)≤(y.toNat:Int)):=by omega
     clear q
     go_wp2_with fail
     exact⟨⟨k+1,rw_,by omega,by go_num,s.out,p.out,T.out,r.out⟩,by simp[intOf];omega⟩
  ·have ad:k=x.length:=by omega
   have C:(Yx x).length=x.length:=by simp[Yx]
   have K:Zb7 wr (.slice (some ⟨b,0,none⟩) (Yx x).length c) (Yx x):=⟨some ⟨b,0,none⟩,c,rfl,by rw[C];exact n,fun j z a=>by
    have ac:j<x.length:=by have:=(Jk a);omega
    refine⟨b,0,rfl,Zc d ?_⟩
    rw[Nat.zero_add,i.out j ac,if_pos (by omega)]
    have:=(List.getElem?_eq_some_iff.1 a).2
    simp only[Yx,List.getElem_map]at this
    rw[this]⟩
   have hs:=K.str (P:= Tryz.prog) 37 9 5 Tryz.underlying37 Tryz.underlying5 Tryz.underlying9
   rw[C]at hs
   clear d K C ad
   go_wp2_with fail
   go_ret
   exact⟨rfl,r.out⟩
theorem ZfI (x y:Bs) (w:World) (hx:x.length≤1000000) (hy:y.length≤1000000):
  Calls Tryz.prog 248 #[.string ⟨x.toArray⟩, .string ⟨y.toArray⟩] w fun e w'=>e= .returned (.bool (Zb2 x y))∧Zg [] w w':=by
 obtain⟨n,a⟩:=Je (Yx x)
 obtain⟨g,b⟩:=Je (Yx y)
 have j:=D (show Zb2 x y=(n==g)by unfold Zb2;rw[a,b])
 have c:=YJ x w hx
 rw[←a]at c
 have m:=D c
 have d:∀w,Calls Tryz.prog 176 #[.string ⟨y.toArray⟩] w fun e w'=>e= .returned (.string ⟨g.toArray⟩)∧Zg [] w w':=fun w=>by rw[b];exact YJ y w hy
 have k:=D d
 clear a b c d
 rw[j.out]
 go_enter Tryz.func248,Tryz.ntmps248
 go_wp2_with fail
 refine m.out.mono ?_
 rintro e l ⟨rfl,i⟩
 go_wp2_with fail
 refine(k.out l).mono ?_
 rintro e o ⟨rfl,h⟩
 go_wp2_with fail
 go_ret
 exact⟨by first|rfl|simp,i.trans h (by simp)⟩
theorem Zhh (c:UInt8) (w:World):
  Calls Tryz.prog 297 #[.int .u8 (c.toNat:Int)] w fun e w'=>e= .returned (.bool (Zc1 c))∧w=w':=by
 by_cases h:48≤c.toNat
 ·have e:Zc1 c=decide ((c.toNat:Int)≤57):=by simp[Zc1,h];omega
  rw[e]
  go_enter Tryz.func297,Tryz.ntmps297
  go_wp2
  go_ret
  exact⟨rfl,rfl⟩
 ·have e:Zc1 c=false:=by simp[Zc1,h]
  rw[e]
  go_enter Tryz.func297,Tryz.ntmps297
  go_wp2
  go_ret
  exact⟨rfl,rfl⟩
theorem ZcJ (s:List UInt8) (w:World) (hlen:s.length≤1000000):
  Calls Tryz.prog 260 #[.string ⟨s.toArray⟩] w fun e w'=>e= .returned (.tuple #[.int .u64 ((Zab s).1:Int), .bool (Zab s).2])∧w=w':=by
 go_enter Tryz.func260,Tryz.ntmps260
 go_wp2_with fail
 go_loopw[4,9] (fun v4 v9 wr=>∃(k:Nat) (n:Nat),k≤s.length∧v9= .int .i64 k∧v4= .int .u64 n∧n=min (Zo7 (s.take k)) 18446744073709551615∧(s.take k).all Zc1=true∧wr=w) (fun _ v9 _=>s.length-(intOf v9).toNat)
 case atStart=>exact⟨0,0,by omega,rfl,rfl,by simp[Zo7],by simp,rfl⟩
 case round=>
  obtain⟨k,n,E,rfl,rfl,r,ha,rfl⟩:=hrel
  have d:=D r;have q:=D ha;clear r ha
  by_cases j:k<s.length
  ·have hg:=Zar s k j
   go_wp2_with fail
   refine(Zhh _ _).mono ?_
   rintro e G ⟨rfl,rfl⟩
   obtain⟨c,b⟩:=Je (s[k])
   rw[←b]at hg⊢
   change Hid _ at b
   obtain⟨y,a⟩:=Je (Zc1 c)
   rw[←a]
   change Hid _ at a
   have l:s.take (k+1)=s.take k++[c]:=by rw[Xr j,b.out]
   change Hid _ at l
   cases y
   ·have p:Zab s=(0,false):=by
     unfold Zab
     rw[if_neg]
     intro h
     rw[Xk]at h
     have:=h c (by rw[b.out];exact List.getElem_mem j)
     rw[←a.out]at this;cases this
    have x:=D p;clear p
    go_wp2
    go_ret2
    rw[x.out]
    exact⟨rfl,rfl⟩
   ·have hd:48≤c.toNat∧c.toNat≤57:=by have:=a.out;simp[Zc1]at this;omega
    have o:((c.toNat:Int)-48)=((c.toNat-48:Nat):Int):=by omega
    have z:n≤18446744073709551615:=by have:=d.out;omega
    have i:(s.take (k+1)).all Zc1=true:=by rw[l.out,List.all_append,q.out];simp[←a.out]
    have g:Zo7 (s.take (k+1))=10*Zo7 (s.take k)+(c.toNat-48):=by rw[l.out];simp[Zo7,List.foldl_append]
    have F:=D o
    clear o;change Hid _ at i g
    by_cases C:(18446744073709551615-(c.toNat-48))/10<n
    ·go_wp2_with fail
     refine⟨⟨k+1,18446744073709551615,by omega,by go_num,rfl,?_,i.out,trivial⟩,by simp[intOf];omega⟩
     rw[g.out];have:=d.out;omega
    ·go_wp2_with fail
     refine⟨⟨k+1,10*n+(c.toNat-48),by omega,by go_num,?_,?_,i.out,trivial⟩,by simp[intOf];omega⟩
     ·congr 1;omega
     ·rw[g.out];have:=d.out;omega
  ·obtain rfl:k=s.length:=by omega
   have m:s.all Zc1=true:=by have:=q.out;rwa [Xm]at this
   have t:Zab s=(n,decide (s≠[])):=by
    unfold Zab;rw[if_pos m];have:=d.out;rw[Xm]at this;rw[this]
   clear m;change Hid _ at t
   go_wp2
   go_ret2
   rw[t.out]
   refine⟨?_,rfl⟩
   cases s<;>rfl
end Go.Proofs.YtbgbeddbfaopgaaGreatDoor
