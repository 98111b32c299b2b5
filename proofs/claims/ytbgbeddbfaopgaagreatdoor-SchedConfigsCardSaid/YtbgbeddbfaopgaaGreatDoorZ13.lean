import Derived.ChangeAlike
import Derived.Conc.MuLone
import Derived.Defers
import Derived.Laws.Pointers
import Derived.RegionCalls
import Derived.Test.YtbgbeddbfaopgaaGreatDoorZ12
set_option linter.all false
set_option maxHeartbeats 16000000
set_option maxRecDepth 100000
set_option autoImplicit true
set_option relaxedAutoImplicit true
namespace Go.Proofs.YtbgbeddbfaopgaaGreatDoor
open Go.RowKit Go.Lk
theorem ZjL {most:Int} (h:Yk b most l w F) (c:ZeC) (m:Bs) (now:Nat):
  Calls Tryz.prog 221 #[.pointer (some ⟨b,0,none⟩), .agg (YC c).toArray, .string ⟨m.toArray⟩, .int .u64 now] w fun e w'=>e= .returned (.bool (Zhy l c m now))∧Zg [] w w':=by
 obtain⟨p,G⟩:=Je (w.alloc (.cells (YC c).toArray 250))
 have k:=Ja G
 have y:=Jh G
 have J:=D (fun(W:World) (hu:Zg [] w W) (e:Zr)=>Zjj ((ZK _ _ _).upd h hu (by simp)) e now)
 obtain⟨O,I⟩:=Je (ZiJ l ⟨c,m,[],0⟩ now)
 obtain⟨Z,q⟩:=Je (ZiJ l ⟨c,[42],[],0⟩ now)
 obtain⟨r,M⟩:=Je (Zhy l c m now)
 have Q:r=((m !=[]&&O)||(!c.creds&&Z)):=by rw[M,I,q];rfl
 rw[←M]
 obtain⟨i,j,E⟩:=c
 have x:=D Q;have s:=D y;have Y:=D G
 have k0:p.cell? ⟨w.heap.size,0,none⟩=some (.string ⟨i.toArray⟩):=Zc y rfl
 have k1:p.cell? ⟨w.heap.size,1,none⟩=some (.string ⟨j.toArray⟩):=Zc y rfl
 have k2:p.cell? ⟨w.heap.size,2,none⟩=some (.bool E):=Zc y rfl
 have z:w.alloc (.cells #[.string ⟨i.toArray⟩, .string ⟨j.toArray⟩, .bool E] 250)=p:=Y.symm
 clear M Q y G h;change Hid _ at k I q z
 show Calls _ _ #[.pointer (some ⟨b,0,none⟩), .agg #[.string ⟨i.toArray⟩, .string ⟨j.toArray⟩, .bool E], .string ⟨m.toArray⟩, .int .u64 now] w _
 by_cases K:m=[]
 ·have V:List.isEmpty m=true:=by rw[K];rfl
  have o:=D (show(m !=[])=false by rw[K];rfl)
  clear K
  cases E with
  |true=>
   go_enter Tryz.func221,Tryz.ntmps221
   go_upto_region 1 with fail
   rw[z.out]
   go_wp2_with fail
   go_ret
   exact⟨by rw[x.out,o.out];rfl,k.out⟩
  |false=>
   go_enter Tryz.func221,Tryz.ntmps221
   go_upto_region 1 with fail
   rw[z.out]
   go_wp2_with fail
   refine(J.out p k ⟨⟨i,j,false⟩,[42],[],0⟩).mono ?_
   rintro T d ⟨rfl,g⟩
   rw[←q.out]
   have a:=(g.block _ (Jg s) (by simp)).trans s.out
   have P:d.cell? ⟨w.heap.size,0,none⟩=some (.string ⟨i.toArray⟩):=Zc a rfl
   have S:d.cell? ⟨w.heap.size,1,none⟩=some (.string ⟨j.toArray⟩):=Zc a rfl
   have R:d.cell? ⟨w.heap.size,2,none⟩=some (.bool false):=Zc a rfl
   have H:=D a;have n:=Jt k g
   clear a g
   go_wp2_with fail
   go_ret
   exact⟨by rw[x.out,o.out,q.out];rfl,n.out⟩
 ·have V:List.isEmpty m=false:=by cases m<;>simp_all
  have o:=D (show(m !=[])=true by cases m<;>simp_all)
  clear K
  cases E with
  |true=>
   go_enter Tryz.func221,Tryz.ntmps221
   go_upto_region 1 with fail
   rw[z.out]
   go_wp2_with fail
   refine(J.out p k ⟨⟨i,j,true⟩,m,[],0⟩).mono ?_
   rintro T d ⟨rfl,g⟩
   rw[←I.out]
   have a:=(g.block _ (Jg s) (by simp)).trans s.out
   have P:d.cell? ⟨w.heap.size,0,none⟩=some (.string ⟨i.toArray⟩):=Zc a rfl
   have S:d.cell? ⟨w.heap.size,1,none⟩=some (.string ⟨j.toArray⟩):=Zc a rfl
   have R:d.cell? ⟨w.heap.size,2,none⟩=some (.bool true):=Zc a rfl
   have H:=D a;have n:=Jt k g
   clear a g
   cases O with
   |true=>
    go_wp2_with fail
    go_ret
    exact⟨by rw[x.out,o.out];rfl,n.out⟩
   |false=>
    go_wp2_with fail
    go_ret
    exact⟨by rw[x.out,o.out];rfl,n.out⟩
  |false=>
   go_enter Tryz.func221,Tryz.ntmps221
   go_upto_region 1 with fail
   rw[z.out]
   go_wp2_with fail
   refine(J.out p k ⟨⟨i,j,false⟩,m,[],0⟩).mono ?_
   rintro T d ⟨rfl,g⟩
   rw[←I.out]
   have a:=(g.block _ (Jg s) (by simp)).trans s.out
   have P:d.cell? ⟨w.heap.size,0,none⟩=some (.string ⟨i.toArray⟩):=Zc a rfl
   have S:d.cell? ⟨w.heap.size,1,none⟩=some (.string ⟨j.toArray⟩):=Zc a rfl
   have R:d.cell? ⟨w.heap.size,2,none⟩=some (.bool false):=Zc a rfl
   have H:=D a;have n:=Jt k g
   clear a g
   cases O with
   |true=>
    go_wp2_with fail
    go_ret
    exact⟨by rw[x.out,o.out];rfl,n.out⟩
   |false=>
    go_wp2_with fail
    refine(J.out d n ⟨⟨i,j,false⟩,[42],[],0⟩).mono ?_
    rintro e3 N ⟨rfl,L⟩
    rw[←q.out]
    have C:=(L.block _ (Jg H) (by simp)).trans H.out
    have ad:N.cell? ⟨w.heap.size,0,none⟩=some (.string ⟨i.toArray⟩):=Zc C rfl
    have ac:N.cell? ⟨w.heap.size,1,none⟩=some (.string ⟨j.toArray⟩):=Zc C rfl
    have aa:N.cell? ⟨w.heap.size,2,none⟩=some (.bool false):=Zc C rfl
    have ab:=D C;have X:=Jt n L
    clear C L
    go_wp2_with fail
    go_ret
    exact⟨by rw[x.out,o.out,q.out];rfl,X.out⟩
theorem Ze3 {P:Prop}(h:P:=by
 go_enter Tryz.func222,Tryz.ntmps222
 go_upto_region 1 with fail
 rw[E.out]
 go_wp2_with fail
 refine H.out.mono ?_
 rintro T g ⟨rfl,i⟩
 have a:=(i.block _ (Jg x) (by simp)).trans x.out
 have Q:g.cell? ⟨w.heap.size,0,none⟩=some (.string ⟨j.toArray⟩):=Zc a rfl
 have V:g.cell? ⟨w.heap.size,1,none⟩=some (.string ⟨n.toArray⟩):=Zc a rfl
 have P:g.cell? ⟨w.heap.size,2,none⟩=some (.bool true):=Zc a rfl
 have q:=D a;have p:=Jt G i
 clear a i
 go_wp2_with fail
 refine(L.out g p ⟨⟨j,n,true⟩,[],m,0⟩).mono ?_
 rintro e2 k ⟨rfl,o⟩
 rw[←K.out]
 have d:=(o.block _ (Jg q) (by simp)).trans q.out
 have Y:k.cell? ⟨w.heap.size,0,none⟩=some (.string ⟨j.toArray⟩):=Zc d rfl
 have aa:k.cell? ⟨w.heap.size,1,none⟩=some (.string ⟨n.toArray⟩):=Zc d rfl
 have Z:k.cell? ⟨w.heap.size,2,none⟩=some (.bool true):=Zc d rfl
 have J:=D d;have s:=Jt p o
 clear d o
 cases S with
 |true=>
  go_wp2_with fail
  go_ret
  exact⟨by rw[C.out,z.out];simp,s.out⟩
 |false=>
  go_wp2_with fail
  go_ret
  exact⟨by rw[C.out,z.out];simp,s.out⟩):P:=h
theorem ZjH {most:Int} (h:Yk b most l w F) (c:ZeC) (n0:Bs) (hn0:n0.length≤1000000) (now:Nat):
  Calls Tryz.prog 222 #[.pointer (some ⟨b,0,none⟩), .agg (YC c).toArray, .string ⟨n0.toArray⟩, .int .u64 now] w fun e w'=>e= .returned (.bool (Zdr l c n0 now))∧Zg [] w w':=by
 obtain⟨w0,X⟩:=Je (w.alloc (.cells (YC c).toArray 250))
 have G:=Ja X
 have x:=Jh X
 have L:=D (fun(W:World) (hu:Zg [] w W) (e:Zr)=>Zjj ((ZK _ _ _).upd h hu (by simp)) e now)
 obtain⟨m,y⟩:=Je (Yx n0)
 obtain⟨S,K⟩:=Je (ZiJ l ⟨c,[],m,0⟩ now)
 obtain⟨q2,I⟩:=Je (ZiJ l ⟨c,[],[42],0⟩ now)
 obtain⟨r,hr⟩:=Je (Zdr l c n0 now)
 have ad:r=((m !=[]&&S)||(!c.creds&&m !=[97,117,116,104,111,114,105,122,97,116,105,111,110]&&q2)):=by rw[hr,K,I,y];rfl
 rw[←hr]
 have ab:=YJ n0 w0 hn0
 rw[←y]at ab
 have H:=D ab
 obtain⟨j,n,R⟩:=c
 have C:=D ad;have ag:=D X
 have E:w.alloc (.cells #[.string ⟨j.toArray⟩, .string ⟨n.toArray⟩, .bool R] 250)=w0:=ag.symm
 clear hr ad X h ab y;change Hid _ at x G K I E
 show Calls _ _ #[.pointer (some ⟨b,0,none⟩), .agg #[.string ⟨j.toArray⟩, .string ⟨n.toArray⟩, .bool R], .string ⟨n0.toArray⟩, .int .u64 now] w _
 by_cases y:m=[]
 ·have af:List.isEmpty m=true:=by rw[y];rfl
  have z:=D (show(m !=[])=false by rw[y];rfl)
  have ae:(m==[97,117,116,104,111,114,105,122,97,116,105,111,110])=false:=by rw[y];rfl
  have ak:¬m=[97,117,116,104,111,114,105,122,97,116,105,111,110]:=by rw[y];simp
  have O:=D (show(m !=[97,117,116,104,111,114,105,122,97,116,105,111,110])=true by rw[y];rfl)
  clear y
  cases R with
  |true=>
   go_enter Tryz.func222,Tryz.ntmps222
   go_upto_region 1 with fail
   rw[E.out]
   go_wp2_with fail
   refine H.out.mono ?_
   rintro T g ⟨rfl,i⟩
   have a:=(i.block _ (Jg x) (by simp)).trans x.out
   have Q:g.cell? ⟨w.heap.size,0,none⟩=some (.string ⟨j.toArray⟩):=Zc a rfl
   have V:g.cell? ⟨w.heap.size,1,none⟩=some (.string ⟨n.toArray⟩):=Zc a rfl
   have P:g.cell? ⟨w.heap.size,2,none⟩=some (.bool true):=Zc a rfl
   have q:=D a;have p:=Jt G i
   clear a i
   go_wp2_with fail
   go_ret
   exact⟨by rw[C.out,z.out];simp,p.out⟩
  |false=>
   go_enter Tryz.func222,Tryz.ntmps222
   go_upto_region 1 with fail
   rw[E.out]
   go_wp2_with fail
   refine H.out.mono ?_
   rintro T g ⟨rfl,i⟩
   have a:=(i.block _ (Jg x) (by simp)).trans x.out
   have Q:g.cell? ⟨w.heap.size,0,none⟩=some (.string ⟨j.toArray⟩):=Zc a rfl
   have V:g.cell? ⟨w.heap.size,1,none⟩=some (.string ⟨n.toArray⟩):=Zc a rfl
   have P:g.cell? ⟨w.heap.size,2,none⟩=some (.bool false):=Zc a rfl
   have q:=D a;have p:=Jt G i
   clear a i
   go_wp2_with fail
   refine(L.out g p ⟨⟨j,n,false⟩,[],[42],0⟩).mono ?_
   rintro e2 k ⟨rfl,o⟩
   rw[←I.out]
   have d:=(o.block _ (Jg q) (by simp)).trans q.out
   have Y:k.cell? ⟨w.heap.size,0,none⟩=some (.string ⟨j.toArray⟩):=Zc d rfl
   have aa:k.cell? ⟨w.heap.size,1,none⟩=some (.string ⟨n.toArray⟩):=Zc d rfl
   have Z:k.cell? ⟨w.heap.size,2,none⟩=some (.bool false):=Zc d rfl
   have J:=D d;have s:=Jt p o
   clear d o
   go_wp2_with fail
   go_ret
   exact⟨by rw[C.out,z.out,O.out,I.out];simp,s.out⟩
 ·have af:List.isEmpty m=false:=by cases m<;>simp_all
  have z:=D (show(m !=[])=true by cases m<;>simp_all)
  by_cases M:m=[97,117,116,104,111,114,105,122,97,116,105,111,110]
  ·have ae:(m==[97,117,116,104,111,114,105,122,97,116,105,111,110])=true:=by rw[M];rfl
   have O:=D (show(m !=[97,117,116,104,111,114,105,122,97,116,105,111,110])=false by rw[M];rfl)
   clear y M
   cases R with
   |true=>
    exact Ze3
   |false=>
    go_enter Tryz.func222,Tryz.ntmps222
    go_upto_region 1 with fail
    rw[E.out]
    go_wp2_with fail
    refine H.out.mono ?_
    rintro T g ⟨rfl,i⟩
    have a:=(i.block _ (Jg x) (by simp)).trans x.out
    have Q:g.cell? ⟨w.heap.size,0,none⟩=some (.string ⟨j.toArray⟩):=Zc a rfl
    have V:g.cell? ⟨w.heap.size,1,none⟩=some (.string ⟨n.toArray⟩):=Zc a rfl
    have P:g.cell? ⟨w.heap.size,2,none⟩=some (.bool false):=Zc a rfl
    have q:=D a;have p:=Jt G i
    clear a i
    go_wp2_with fail
    refine(L.out g p ⟨⟨j,n,false⟩,[],m,0⟩).mono ?_
    rintro e2 k ⟨rfl,o⟩
    rw[←K.out]
    have d:=(o.block _ (Jg q) (by simp)).trans q.out
    have Y:k.cell? ⟨w.heap.size,0,none⟩=some (.string ⟨j.toArray⟩):=Zc d rfl
    have aa:k.cell? ⟨w.heap.size,1,none⟩=some (.string ⟨n.toArray⟩):=Zc d rfl
    have Z:k.cell? ⟨w.heap.size,2,none⟩=some (.bool false):=Zc d rfl
    have J:=D d;have s:=Jt p o
    clear d o
    cases S with
    |true=>
     go_wp2_with fail
     go_ret
     exact⟨by rw[C.out,z.out];simp,s.out⟩
    |false=>
     go_wp2_with fail
     go_ret
     exact⟨by rw[C.out,z.out,O.out];simp,s.out⟩
  ·have ae:(m==[97,117,116,104,111,114,105,122,97,116,105,111,110])=false:=by simpa using M
   have O:=D (show(m !=[97,117,116,104,111,114,105,122,97,116,105,111,110])=true by simpa using M)
   clear y
   cases R with
   |true=>
    exact Ze3
   |false=>
    go_enter Tryz.func222,Tryz.ntmps222
    go_upto_region 1 with fail
    rw[E.out]
    go_wp2_with fail
    refine H.out.mono ?_
    rintro T g ⟨rfl,i⟩
    have a:=(i.block _ (Jg x) (by simp)).trans x.out
    have Q:g.cell? ⟨w.heap.size,0,none⟩=some (.string ⟨j.toArray⟩):=Zc a rfl
    have V:g.cell? ⟨w.heap.size,1,none⟩=some (.string ⟨n.toArray⟩):=Zc a rfl
    have P:g.cell? ⟨w.heap.size,2,none⟩=some (.bool false):=Zc a rfl
    have q:=D a;have p:=Jt G i
    clear a i
    go_wp2_with fail
    refine(L.out g p ⟨⟨j,n,false⟩,[],m,0⟩).mono ?_
    rintro e2 k ⟨rfl,o⟩
    rw[←K.out]
    have d:=(o.block _ (Jg q) (by simp)).trans q.out
    have Y:k.cell? ⟨w.heap.size,0,none⟩=some (.string ⟨j.toArray⟩):=Zc d rfl
    have aa:k.cell? ⟨w.heap.size,1,none⟩=some (.string ⟨n.toArray⟩):=Zc d rfl
    have Z:k.cell? ⟨w.heap.size,2,none⟩=some (.bool false):=Zc d rfl
    have J:=D d;have s:=Jt p o
    clear d o
    cases S with
    |true=>
     go_wp2_with fail
     go_ret
     exact⟨by rw[C.out,z.out];simp,s.out⟩
    |false=>
     go_wp2_with fail
     refine(L.out k s ⟨⟨j,n,false⟩,[],[42],0⟩).mono ?_
     rintro e3 w3 ⟨rfl,ac⟩
     rw[←I.out]
     have N:=(ac.block _ (Jg J) (by simp)).trans J.out
     have am:w3.cell? ⟨w.heap.size,0,none⟩=some (.string ⟨j.toArray⟩):=Zc N rfl
     have al:w3.cell? ⟨w.heap.size,1,none⟩=some (.string ⟨n.toArray⟩):=Zc N rfl
     have ai:w3.cell? ⟨w.heap.size,2,none⟩=some (.bool false):=Zc N rfl
     have aj:=D N;have ah:=Jt s ac
     clear N ac
     go_wp2_with fail
     go_ret
     exact⟨by rw[C.out,z.out,O.out,I.out];simp,ah.out⟩
theorem Zfj {α:Type} {p:α→Bool} {l:List α} {k:Nat} {x:α} (h:l[k]? =some x):(l.take (k+1)).all p=((l.take k).all p&&p x):=by
 have a:=(Jk h)
 rw[Xr a,(List.getElem?_eq_some_iff.1 h).2,List.all_append]
 simp
theorem ZkR {α:Type} {p:α→Bool} {l:List α} {k:Nat} {x:α} (h:l[k]? =some x) (hp:p x=false):l.all p=false:=by
 rw[←Bool.not_eq_true,Xk]
 intro a
 have:=a x (Xc h)
 rw[hp]at this;cases this
theorem Zkg {most:Int} (h:Yk b most l w F) (c:ZeC) (m:Bs) (hm:m.length≤1000000) (A:Option Addr) (cap:Nat) (ns:List Bs) (hs:Y1 w A ns) (hl:ns.length≤1000000) (hls:∀n∈ns,n.length≤1000000) (now:Nat):
  Calls Tryz.prog 150 #[.pointer (some ⟨b,0,none⟩), .agg (YC c).toArray, .string ⟨m.toArray⟩, .slice A ns.length cap, .int .u64 now] w fun e w'=>e= .returned (.bool (Zhx l c m ns now))∧Zg [] w w':=by
 obtain⟨O,M⟩:=Je (w.alloc (.cells (YC c).toArray 250))
 have aj:=Ja M
 have C:=Jh M
 have HM:=D (fun(W:World) (hu:Zg [] w W)=>ZjL ((ZK _ _ _).upd h hu (by simp)) c m now)
 have al:=D (fun(W:World) (hu:Zg [] w W) (n:Bs) (hn:n.length≤1000000)=>ZjH ((ZK _ _ _).upd h hu (by simp)) c n hn now)
 have aa:=D (fun(W:World)=>ZeL m W hm)
 have ac:=D (fun(W:World) (hu:Zg [] w W)=>show Y1 W A ns from hs.upd hu (by simp))
 obtain⟨q1,T⟩:=Je (ZfX m)
 obtain⟨q2,R⟩:=Je (Zhy l c m now)
 obtain⟨r,X⟩:=Je (Zhx l c m ns now)
 have V:r=((q1||q2)&&ns.all fun n=>Zdr l c n now):=by rw[X,T,R];rfl
 rw[←X]
 rw[←T]at aa
 rw[←R]at HM
 have aw:=D (show∀n,Zdr l c n now=Zdr l c n now from fun _=>rfl)
 obtain⟨P,Y⟩:∃P:Bs→Bool,P=fun n=>Zdr l c n now:=⟨_,rfl⟩
 have ak:=D (show∀n,Zdr l c n now=P n from fun n=>by rw[Y])
 rw[←Y]at V
 obtain⟨i,j,g⟩:=c
 have HR:=D V;have ag:=D C;have ap:=D M;have ae:=D hls
 have k0:O.cell? ⟨w.heap.size,0,none⟩=some (.string ⟨i.toArray⟩):=Zc C rfl
 have k1:O.cell? ⟨w.heap.size,1,none⟩=some (.string ⟨j.toArray⟩):=Zc C rfl
 have k2:O.cell? ⟨w.heap.size,2,none⟩=some (.bool g):=Zc C rfl
 have ai:w.alloc (.cells #[.string ⟨i.toArray⟩, .string ⟨j.toArray⟩, .bool g] 250)=O:=ap.symm
 clear X V C M T R h hs hls Y hm;change Hid _ at aj ai
 show Calls _ _ #[.pointer (some ⟨b,0,none⟩), .agg #[.string ⟨i.toArray⟩, .string ⟨j.toArray⟩, .bool g], .string ⟨m.toArray⟩, .slice A ns.length cap, .int .u64 now] w _
 have av:True:=trivial
 go_enter Tryz.func150,Tryz.ntmps150
 go_upto_region 1 with fail
 rw[ai.out]
 go_wp2_with fail
 refine(aa.out _).mono ?_
 rintro e2 w2 ⟨rfl,Q⟩
 have s:=(Q.block _ (Jg ag) (by simp)).trans ag.out
 have af:w2.cell? ⟨w.heap.size,0,none⟩=some (.string ⟨i.toArray⟩):=Zc s rfl
 have am:w2.cell? ⟨w.heap.size,1,none⟩=some (.string ⟨j.toArray⟩):=Zc s rfl
 have ah:w2.cell? ⟨w.heap.size,2,none⟩=some (.bool g):=Zc s rfl
 have N:=D s;have k:=Jt aj Q
 clear s Q
 clear k0 k1 k2
 cases q1 with
 |true=>
  have K:=D (show r=ns.all P by rw[HR.out];simp)
  go_wp2_with fail
  go_loopw[30] (fun s30 wr=>∃kk:Nat,kk≤ns.length∧s30= .int .i64 kk∧Hid ((ns.take kk).all P=true)∧Hid (Zg [] w2 wr)) (fun s30 _=>ns.length-(intOf s30).toNat)
  case atStart=>exact⟨0,Xn _,rfl,D rfl,D (Zg.refl [] _)⟩
  case round=>
   obtain⟨kk,ar,rfl,L,a⟩:=hrel
   by_cases J:kk<ns.length
   ·obtain⟨x,hx⟩:∃x,ns[kk]? =some x:=⟨_,Xa J⟩
    obtain⟨ab,ao,rfl,hc⟩:=ac.out wr (k.trans a (by simp)) kk x hx
    have d:=(a.block _ (Jg N) (by simp)).trans N.out
    have r0:wr.cell? ⟨w.heap.size,0,none⟩=some (.string ⟨i.toArray⟩):=Zc d rfl
    have r1:wr.cell? ⟨w.heap.size,1,none⟩=some (.string ⟨j.toArray⟩):=Zc d rfl
    have r2:wr.cell? ⟨w.heap.size,2,none⟩=some (.bool g):=Zc d rfl
    have q:=al.out wr (k.trans a (by simp)) x (ae.out x (Xc hx))
    rw[ak.out]at q
    have o:=D (Zfj (p:=P) hx)
    have z:=D (ZkR (p:=P) hx)
    obtain⟨px,H⟩:=Je (P x)
    rw[←H]at q o z
    have Z:=D q
    clear hx d q H af am ah
    go_wp2_with fail
    refine Z.out.mono ?_
    rintro e9 w9 ⟨rfl,E⟩
    have y:=Jt a E
    clear E
    cases px with
    |true=>
     go_wp2_with fail
     go_roundw
     case rel=>exact⟨kk+1,by omega,by go_num,D (by rw[o.out,L.out];rfl),y⟩
     case measure=>simp[intOf];omega
    |false=>
     go_wp2_with fail
     go_ret
     exact⟨by rw[show r=false from K.trans (z.out (by first|rfl|trivial))]<;>rfl,k.trans y (by simp)⟩
   ·obtain rfl:kk=ns.length:=by omega
    clear J
    go_wp2_with fail
    go_ret
    refine⟨?_,k.trans a (by simp)⟩
    rw[show r=true from K.trans (by have:=L.out;rwa [Xm]at this)]<;>rfl
 |false=>
  go_wp2_with fail
  refine(HM.out _ k).mono ?_
  rintro e3 w3 ⟨rfl,S⟩
  have G:=(S.block _ (Jg N) (by simp)).trans N.out
  have aq:w3.cell? ⟨w.heap.size,0,none⟩=some (.string ⟨i.toArray⟩):=Zc G rfl
  have au:w3.cell? ⟨w.heap.size,1,none⟩=some (.string ⟨j.toArray⟩):=Zc G rfl
  have an:w3.cell? ⟨w.heap.size,2,none⟩=some (.bool g):=Zc G rfl
  have ad:=D G;have I:=Jt k S
  clear G S
  clear af am ah
  cases q2 with
  |false=>
   go_wp2_with fail
   go_ret
   exact⟨by rw[HR.out];simp,I.out⟩
  |true=>
   have K:=D (show r=ns.all P by rw[HR.out];simp)
   go_wp2_with fail
   go_loopw[30] (fun s30 wr=>∃kk:Nat,kk≤ns.length∧s30= .int .i64 kk∧Hid ((ns.take kk).all P=true)∧Hid (Zg [] w3 wr)) (fun s30 _=>ns.length-(intOf s30).toNat)
   case atStart=>exact⟨0,Xn _,rfl,D rfl,D (Zg.refl [] _)⟩
   case round=>
    obtain⟨kk,ar,rfl,L,a⟩:=hrel
    by_cases J:kk<ns.length
    ·obtain⟨x,hx⟩:∃x,ns[kk]? =some x:=⟨_,Xa J⟩
     obtain⟨ab,ao,rfl,hc⟩:=ac.out wr (I.trans a (by simp)) kk x hx
     have d:=(a.block _ (Jg ad) (by simp)).trans ad.out
     have r0:wr.cell? ⟨w.heap.size,0,none⟩=some (.string ⟨i.toArray⟩):=Zc d rfl
     have r1:wr.cell? ⟨w.heap.size,1,none⟩=some (.string ⟨j.toArray⟩):=Zc d rfl
     have r2:wr.cell? ⟨w.heap.size,2,none⟩=some (.bool g):=Zc d rfl
     have q:=al.out wr (I.trans a (by simp)) x (ae.out x (Xc hx))
     rw[ak.out]at q
     have o:=D (Zfj (p:=P) hx)
     have z:=D (ZkR (p:=P) hx)
     obtain⟨px,H⟩:=Je (P x)
     rw[←H]at q o z
     have Z:=D q
     clear hx d q H aq au an
     go_wp2_with fail
     refine Z.out.mono ?_
     rintro e9 w9 ⟨rfl,E⟩
     have y:=Jt a E
     clear E
     cases px with
     |true=>
      go_wp2_with fail
      go_roundw
      case rel=>exact⟨kk+1,by omega,by go_num,D (by rw[o.out,L.out];rfl),y⟩
      case measure=>simp[intOf];omega
     |false=>
      go_wp2_with fail
      go_ret
      exact⟨by rw[show r=false from K.trans (z.out (by first|rfl|trivial))]<;>rfl,I.trans y (by simp)⟩
    ·obtain rfl:kk=ns.length:=by omega
     clear J
     go_wp2_with fail
     go_ret
     refine⟨?_,I.trans a (by simp)⟩
     rw[show r=true from K.trans (by have:=L.out;rwa [Xm]at this)]<;>rfl
theorem Zf5 (w:World):(callFunc 363 #[]).run Tryz.prog w= .ok (.value (.tuple #[])) w:=run_call_mark0 Tryz.func363 (by kernel_rfl) (by kernel_rfl) (by kernel_rfl) .disable (by kernel_rfl) w
theorem Zha (w:World):(callFunc 365 #[]).run Tryz.prog w= .ok (.value (.tuple #[])) w:=run_call_mark0 Tryz.func365 (by kernel_rfl) (by kernel_rfl) (by kernel_rfl) .enable (by kernel_rfl) w
theorem ZjR (a:Addr) (w:World):(callFunc 366 #[.pointer (some a)]).run Tryz.prog w= .ok (.value (.tuple #[])) w:=run_call_marked Tryz.func366 (by kernel_rfl) (by kernel_rfl) (by kernel_rfl) .acquire (by kernel_rfl) a w
theorem Zf0 (a:Addr) (w:World):(callFunc 368 #[.pointer (some a)]).run Tryz.prog w= .ok (.value (.tuple #[])) w:=run_call_marked Tryz.func368 (by kernel_rfl) (by kernel_rfl) (by kernel_rfl) .releaseMerge (by kernel_rfl) a w
theorem Zfh (a:Addr) (x:Value) (u:FrameMode) (w:World) (hc:w.cell? a=some x) (hz:w.frozen? a=false):
  CallsD Tryz.prog 278 #[.pointer (some a), .bool true] u w fun e u' w'=>u'=u∧(e= .returned (.tuple #[])∧w'=w.drew.setCell a (.int .u32 1)):=by
 have b:w.drew.cell? a=some x:=by go_simp
 have c:w.drew.frozen? a=false:=by go_simp
 have d:=run_call_store (P:= Tryz.prog) Tryz.func323 (by kernel_rfl) (by kernel_rfl) (by kernel_rfl) (by kernel_rfl) (k:= .u32) (y:=1) b c
 go_enter_d Tryz.func278,Tryz.ntmps278
 go_wp2
 go_region_calls
 all_goals(go_end0;exact⟨rfl,rfl⟩)
theorem ZeT (a:Addr) (u:FrameMode) (w:World) (hc:w.cell? a=some (.int .i32 1)) (hz:w.frozen? a=false):
  CallsD Tryz.prog 277 #[.pointer (some a)] u w fun e u' w'=>u'=u∧(e= .returned (.tuple #[])∧w'=w.setCell a (.int .i32 0)):=by
 have hd:=Zf5
 have d:=Zha
 have g:=Zf0
 have b:=run_call_add (P:= Tryz.prog) Tryz.func369 (by kernel_rfl) (by kernel_rfl) (by kernel_rfl) .i32 (by kernel_rfl) (y:= -1) (s:=0) hc hz (by simp[go_sem];rfl)
 have c:=run_convert_to_unsafe (P:= Tryz.prog) (src:= 411) (dst:= 415) Tryz.underlying411 Tryz.underlying415 (by kernel_rfl) hc
 go_enter_d Tryz.func277,Tryz.ntmps277
 go_wp2
 go_end0
 go_wp2
 go_end0
 exact⟨rfl,rfl⟩
theorem ZoT (a:Addr) (w:World) (hc:w.cell? a=some (.int .i32 0)) (hz:w.frozen? a=false):
  Calls Tryz.prog 276 #[.pointer (some a)] w fun e w'=>e= .returned (.tuple #[])∧w'=w.setCell a (.int .i32 1):=by
 have hd:=Zf5
 have g:=Zha
 have ha:=ZjR
 have c:=run_call_cas_hit (P:= Tryz.prog) Tryz.func364 (by kernel_rfl) (by kernel_rfl) (by kernel_rfl) .i32 (by kernel_rfl) (y:=1) hc hz
 have b:(w.setCell a (.int .i32 1)).cell? a=some (.int .i32 1):=World.cell?_setCell_same w a _ hc
 have d:=run_convert_to_unsafe (P:= Tryz.prog) (src:= 411) (dst:= 415) Tryz.underlying411 Tryz.underlying415 (by kernel_rfl) b
 go_enter Tryz.func276,Tryz.ntmps276
 go_wp2
 first|go_end0|(simp only[Exit.inBlock,Exit.then];refine bodyPost_ret (results_none rfl _ _ _) rfl ?_)|refine bodyPost_ret (results_none rfl _ _ _) rfl ?_
 go_wp2
 go_end0
 exact⟨rfl,rfl⟩
theorem Zpf (b off:Nat) (g:FuncId) (caps:Array Value) (w:World) (Post:World→Prop)
  (h0:w.cell? ⟨b,off,none⟩=some (.int .u32 0)) (h1:w.cell? ⟨b,off+1,none⟩=some (.int .i32 0))
  (f0:w.frozen? ⟨b,off,none⟩=false) (f1:w.frozen? ⟨b,off+1,none⟩=false)
  (hg:∀W,(callFunc g caps).run Tryz.prog W= .ok (.enter g caps) W)
  (hf:Calls Tryz.prog g caps (w.setCell ⟨b,off+1,none⟩ (.int .i32 1)) fun e w'=>e= .returned (.tuple #[])∧Post w')
  (hp:∀w',Post w'→w'.cell? ⟨b,off,none⟩=some (.int .u32 0)∧w'.cell? ⟨b,off+1,none⟩=some (.int .i32 1)∧w'.frozen? ⟨b,off,none⟩=false∧w'.frozen? ⟨b,off+1,none⟩=false):
  Calls Tryz.prog 204 #[.pointer (some ⟨b,off,none⟩), .func (.func g) #[] caps] w fun e w''=>e= .returned (.tuple #[])∧
   ∃w',Post w'∧w''=(w'.drew.setCell ⟨b,off,none⟩ (.int .u32 1)).setCell ⟨b,off+1,none⟩ (.int .i32 0):=by
 have q:=run_call_load (P:= Tryz.prog) Tryz.func275 (by kernel_rfl) (by kernel_rfl) (by kernel_rfl) .u32 (by kernel_rfl) (w:=w.setCell ⟨b,off+1,none⟩ (.int .i32 1)) (a:=⟨b,off,none⟩) (x:=0) ((World.cell?_setCell_other _ ⟨b,off+1,none⟩ ⟨b,off,none⟩ _ (by simp)).trans h0)
 have p:∀(x:Bool) (w:World),(Op.unary .not (.bool x)).run Tryz.prog w= .ok (.bool (!x)) w:=fun _ _=>rfl
 have m:=D hf;have o:=D hp;clear hf hp
 go_enter_defers Tryz.func204,Tryz.ntmps204
 go_wp2_with(go_at_call 276;refine(ZoT ⟨b,off+1,none⟩ _ (by go_simp) (by go_simp)).mono ?_;rintro e w' ⟨rfl,rfl⟩)
 go_wp2_with(go_at_call 203;go_in)
 refine m.out.mono ?_
 rintro e d ⟨rfl,c⟩
 obtain⟨k,j,l,i⟩:=o.out d c
 have h:=D c;clear c
 go_wp2
 refine leaves_cons (f:= 278) (args:= #[.pointer (some ⟨b,off,none⟩), .bool true]) (by simp) (by simp[go_sem]) ?_
 refine(Zfh ⟨b,off,none⟩ (.int .u32 0) .returning _ k l).mono ?_
 rintro e n w'' ⟨rfl,rfl,rfl⟩
 refine leaves_cons (f:= 277) (args:= #[.pointer (some ⟨b,off+1,none⟩)]) (by simp[settle]) (by simp[go_sem]) ?_
 refine(ZeT ⟨b,off+1,none⟩ _ _ ?_ (by simp[i])).mono ?_
 ·refine(World.cell?_setCell_other _ ⟨b,off,none⟩ ⟨b,off+1,none⟩ _ (by simp)).trans ?_
  rw[World.cell?_drew]
  exact j
 rintro e n w'' ⟨rfl,rfl,rfl⟩
 simp[Leaves,settle,results,Tryz.results204]
 exact⟨d,h.out,rfl⟩
theorem Zdu (b off:Nat) (g:FuncId) (caps:Array Value) (w:World) (Post:World→Prop)
  (h0:w.cell? ⟨b,off,none⟩=some (.int .u32 0)) (h1:w.cell? ⟨b,off+1,none⟩=some (.int .i32 0))
  (f0:w.frozen? ⟨b,off,none⟩=false) (f1:w.frozen? ⟨b,off+1,none⟩=false)
  (hg:∀W,(callFunc g caps).run Tryz.prog W= .ok (.enter g caps) W)
  (hf:Calls Tryz.prog g caps (w.setCell ⟨b,off+1,none⟩ (.int .i32 1)) fun e w'=>e= .returned (.tuple #[])∧Post w')
  (hp:∀w',Post w'→w'.cell? ⟨b,off,none⟩=some (.int .u32 0)∧w'.cell? ⟨b,off+1,none⟩=some (.int .i32 1)∧w'.frozen? ⟨b,off,none⟩=false∧w'.frozen? ⟨b,off+1,none⟩=false):
  Calls Tryz.prog 132 #[.pointer (some ⟨b,off,none⟩), .func (.func g) #[] caps] w fun e w''=>e= .returned (.tuple #[])∧
   ∃w',Post w'∧w''=(w'.drew.setCell ⟨b,off,none⟩ (.int .u32 1)).setCell ⟨b,off+1,none⟩ (.int .i32 0):=by
 have h:=run_call_load (P:= Tryz.prog) Tryz.func275 (by kernel_rfl) (by kernel_rfl) (by kernel_rfl) .u32 (by kernel_rfl) h0
 have d:∀(x:Bool) (w:World),(Op.unary .not (.bool x)).run Tryz.prog w= .ok (.bool (!x)) w:=fun _ _=>rfl
 have c:=D (Zpf b off g caps w Post h0 h1 f0 f1 hg hf hp);clear hf hp
 go_enter Tryz.func132,Tryz.ntmps132
 go_wp2_with(go_at_call 203;go_in)
 refine c.out.mono ?_
 rintro e i ⟨rfl,hx⟩
 have a:=D hx;clear hx
 go_wp2
 go_end0
 exact⟨rfl,a.out⟩
theorem Zee (a:Addr) (d:Int) (hd:d=1) (fv:Value) (w:World) (h0:w.cell? a=some (.int .u32 d)):
  Calls Tryz.prog 132 #[.pointer (some a),fv] w fun e w'=>e= .returned (.tuple #[])∧w=w':=by
 subst hd
 have c:=run_call_load (P:= Tryz.prog) Tryz.func275 (by kernel_rfl) (by kernel_rfl) (by kernel_rfl) .u32 (by kernel_rfl) h0
 have b:∀(x:Bool) (w:World),(Op.unary .not (.bool x)).run Tryz.prog w= .ok (.bool (!x)) w:=fun _ _=>rfl
 go_enter Tryz.func132,Tryz.ntmps132
 go_wp2
 go_end0
 exact⟨rfl,rfl⟩
def Zh3 (s:Int):ByteArray:=if s=1 then⟨#[103,97,116,101,100]⟩else if s=2 then⟨#[114,101,97,100,121]⟩else if s=3 then⟨#[104,101,108,100]⟩else if s=4 then⟨#[102,108,121,105,110,103]⟩else if s=5 then⟨#[115,116,114,101,97,109,105,110,103]⟩else if s=6 then⟨#[100,111,110,101]⟩else if s=7 then⟨#[102,97,105,108,101,100]⟩else if s=8 then⟨#[98,97,114,114,101,100]⟩else if s=9 then⟨#[97,98,111,114,116,101,100]⟩else if s=10 then⟨#[108,97,116,101]⟩else⟨#[]⟩
def over (s:Int):Bool:=decide (6≤s)&&decide (s≤10)
def may (a b:Int):Bool:=
 if a=1 then decide (b=2)||decide (b=9)else if a=2 then decide (b=3)||decide (b=4)||decide (b=9)||decide (b=10)else
 if a=3 then decide (b=2)||(decide (7≤b)&&decide (b≤10))else if a=4 then decide (b=5)||(decide (7≤b)&&decide (b≤10))else
 if a=5 then decide (b=6)||decide (b=7)||decide (b=9)||decide (b=10)else false
theorem Zh1 {s:Int} (h:s<1∨10<s):Zh3 s=⟨#[]⟩:=by
 unfold Zh3
 simp only[show s≠1 by omega,show s≠2 by omega,show s≠3 by omega,show s≠4 by omega,show s≠5 by omega,show s≠6 by omega,show s≠7 by omega,show s≠8 by omega,show s≠9 by omega,show s≠10 by omega,if_false]
theorem Zoz (s:Int) (w:World):
  Calls Tryz.prog 120 #[.int .i64 s] w fun e w'=>e= .returned (.string (Zh3 s))∧Zg [] w w':=by
 by_cases h:s<1∨10<s
 ·rw[Zh1 h]
  rcases h with h|h
  ·go_enter Tryz.func120,Tryz.ntmps120
   go_wp2
   go_ret
   exact⟨rfl,(Zg.refl _ _).alloc _⟩
  ·have a:¬s<1:=by omega
   go_enter Tryz.func120,Tryz.ntmps120
   go_wp2
   go_ret
   exact⟨rfl,(Zg.refl _ _).alloc _⟩
 ·rcases(show s=1∨s=2∨s=3∨s=4∨s=5∨s=6∨s=7∨s=8∨s=9∨s=10 by omega)with rfl|rfl|rfl|rfl|rfl|rfl|rfl|rfl|rfl|rfl
  all_goals(
   go_enter Tryz.func120,Tryz.ntmps120
   go_wp2
   go_ret
   exact⟨rfl,(Zg.refl _ _).alloc _⟩)
theorem ZjD (s:Int) (w:World):
  Calls Tryz.prog 73 #[.int .i64 s] w fun e w'=>e= .returned (.bool (over s))∧w=w':=by
 by_cases h:6≤s
 ·have e:over s=decide (s≤10):=by simp[over,h]
  rw[e]
  go_enter Tryz.func73,Tryz.ntmps73
  go_wp2
  go_ret
  exact⟨rfl,rfl⟩
 ·have e:over s=false:=by simp[over,h]
  rw[e]
  go_enter Tryz.func73,Tryz.ntmps73
  go_wp2
  go_ret
  exact⟨rfl,rfl⟩
theorem Zqi (a b:Int) (w:World):
  Calls Tryz.prog 166 #[.int .i64 a, .int .i64 b] w fun e w'=>e= .returned (.bool (may a b))∧w=w':=by
 by_cases ha:a<1∨5<a
 ·have n:(a==1)=false:=by rw[beq_eq_false_iff_ne];omega
  have q:(a==2)=false:=by rw[beq_eq_false_iff_ne];omega
  have p:(a==3)=false:=by rw[beq_eq_false_iff_ne];omega
  have x:(a==4)=false:=by rw[beq_eq_false_iff_ne];omega
  have j:(a==5)=false:=by rw[beq_eq_false_iff_ne];omega
  have e:may a b=false:=by
   unfold may
   simp only[show a≠1 by omega,show a≠2 by omega,show a≠3 by omega,show a≠4 by omega,show a≠5 by omega,if_false]
  rw[e]
  clear ha e
  go_enter Tryz.func166,Tryz.ntmps166
  go_wp2
  go_ret
  exact⟨rfl,rfl⟩
 ·rcases(show a=1∨a=2∨a=3∨a=4∨a=5 by omega)with rfl|rfl|rfl|rfl|rfl
  all_goals(
   rcases(show(b<1∨10<b)∨b=1∨b=2∨b=3∨b=4∨b=5∨b=6∨b=7∨b=8∨b=9∨b=10 by omega)with h|rfl|rfl|rfl|rfl|rfl|rfl|rfl|rfl|rfl|rfl)
  all_goals(try(
   have m:(b==2)=false:=by rw[beq_eq_false_iff_ne];omega
   have l:(b==3)=false:=by rw[beq_eq_false_iff_ne];omega
   have r:(b==4)=false:=by rw[beq_eq_false_iff_ne];omega
   have o:(b==5)=false:=by rw[beq_eq_false_iff_ne];omega
   have s:(b==6)=false:=by rw[beq_eq_false_iff_ne];omega
   have k:(b==7)=false:=by rw[beq_eq_false_iff_ne];omega
   have t:(b==9)=false:=by rw[beq_eq_false_iff_ne];omega
   have i:(b==10)=false:=by rw[beq_eq_false_iff_ne];omega
   have ho:over b=false:=by unfold over;rw[Bool.and_eq_false_iff,decide_eq_false_iff_not,decide_eq_false_iff_not];omega
   have g:(decide (7≤b)&&decide (b≤10))=false:=by rw[Bool.and_eq_false_iff,decide_eq_false_iff_not,decide_eq_false_iff_not];omega
   have c:∀a,a=1∨a=2∨a=3∨a=4∨a=5→may a b=false:=by
    intro a d
    rcases d with rfl|rfl|rfl|rfl|rfl<;>simp[may]<;>omega
   rw[c _ (by simp)]
   clear c g))
  all_goals(
   go_enter Tryz.func166,Tryz.ntmps166
   go_wp2_with(go_at_call 73;refine(ZjD _ _).mono ?_;rintro e w' ⟨rfl,rfl⟩)
   all_goals(
    go_ret
    refine⟨?_,rfl⟩
    first|rfl|(simp_all [may,over];try omega)))
theorem Zg6 (a:Addr) (x y:Int) (w:World) (hc:w.cell? a=some (.int .i64 x)) (hz:w.frozen? a=false):
  Calls Tryz.prog 121 #[.pointer (some a), .int .i64 y] w fun e w'=>e= .returned (.tuple #[])∧∃n,w'=(w.drewN n).setCell a (.int .i64 y):=by
 have b:=fun(w:World) (h1:w.cell? a=some (.int .i64 x)) (h2:w.frozen? a=false)=>run_call_store (P:= Tryz.prog) Tryz.func193 (by kernel_rfl) (by kernel_rfl) (by kernel_rfl) (by kernel_rfl) (k:= .i64) (y:=y) h1 h2
 have d:=b w hc hz
 have c:=b w.drew (by go_simp) (by go_simp)
 clear b
 go_enter Tryz.func121,Tryz.ntmps121
 go_wp2
 try go_region_calls
 all_goals(first|go_end0|skip)
 all_goals first|exact⟨rfl,0,rfl⟩|exact⟨rfl,1,rfl⟩
theorem Zfx (a:Addr) (x:Int) (w:World) (hc:w.cell? a=some (.int .i64 x)):
  Calls Tryz.prog 33 #[.pointer (some a)] w fun e w'=>e= .returned (.int .i64 x)∧w=w':=by
 have b:=run_call_load (P:= Tryz.prog) Tryz.func56 (by kernel_rfl) (by kernel_rfl) (by kernel_rfl) .i64 (by kernel_rfl) hc
 go_enter Tryz.func33,Tryz.ntmps33
 go_wp2
 go_ret
 exact⟨rfl,rfl⟩
structure Zbr (w:World) (lb:Nat) (st ends done:Int):Prop where
 hb:w.heap[lb]? =some (.cells #[.int .i64 st, .int .i64 ends, .int .u32 done, .int .i32 0, .int .u32 0] 193 (0,0))
theorem Zbr.upd {st ends done:Int} (h:Zbr w lb st ends done) (hu:Zg F w w') (h1:lb∉F):Zbr w' lb st ends done:=⟨(hu.block lb (lt_of_block h.hb) h1).trans h.hb⟩
theorem Zbr.drewN {st ends done:Int} (h:Zbr w lb st ends done) (k:Nat):Zbr (w.drewN k) lb st ends done:=⟨h.hb⟩
theorem Zed {st ends done:Int} (h:Zbr w lb st ends done):
  Calls Tryz.prog 49 #[.pointer (some ⟨lb,0,none⟩)] w fun e w'=>e= .returned (.int .i64 st)∧w=w':=by
 have a:w.cell? ⟨lb,0,none⟩=_:=Zc (i:=0) h.hb rfl
 go_enter Tryz.func49,Tryz.ntmps49
 go_wp2_with(go_at_call 33;refine(Zfx _ st _ a).mono ?_;rintro e w' ⟨rfl,rfl⟩)
 go_ret
 exact⟨rfl,rfl⟩
def first(s:Int):Int:=if 1≤s∧s≤10 then s else 1
theorem ZnC (s:Int):(Zh3 s).toList.isEmpty= !(decide (1≤s∧s≤10)):=by
 by_cases h:s<1∨10<s
 ·rw[Zh1 h];have:¬(1≤s∧s≤10):=by omega
  rw[decide_eq_false this]
  have e:(⟨#[]⟩:ByteArray).toList.isEmpty=true:=by kernel_rfl
  rw[e];rfl
 ·rcases(show s=1∨s=2∨s=3∨s=4∨s=5∨s=6∨s=7∨s=8∨s=9∨s=10 by omega)with rfl|rfl|rfl|rfl|rfl|rfl|rfl|rfl|rfl|rfl<;>kernel_rfl
theorem ZpS (s:Int) (w:World):
  Calls Tryz.prog 66 #[.int .i64 s] w fun e w'=>∃lb,e= .returned (.pointer (some ⟨lb,0,none⟩))∧Zbr w' lb (first s) 0 0∧Zg [] w w'∧w.heap.size≤lb:=by
 have c:=ZnC s
 by_cases h:1≤s∧s≤10
 case' pos=>obtain⟨t,ht⟩:=Je s
 case' neg=>obtain⟨t,ht⟩:=Je ((1:Int))
 all_goals(
  have j:first s=t:=by unfold first;simp[h,ht]
  rw[j]
  have a:=c
  first|rw[decide_eq_true h]at a|rw[decide_eq_false h]at a
  simp only[Bool.not_true,Bool.not_false]at a
  have l:=D ht;have m:=D a
  clear c j ht a
  go_enter Tryz.func66,Tryz.ntmps66
  go_wp2_with fail
  refine(Zoz s _).mono ?_
  rintro e k ⟨rfl,g⟩
  have b:=D g;clear g
  generalize Zh3 s=nm at*
  have a:=m.out
  go_wp2_with fail
  refine(Zg6 _ 0 _ _ (Zc (i:=0) (Za _) rfl) (Zk (Za _))).mono ?_
  rintro e n ⟨rfl,d,rfl⟩
  go_wp2_with fail
  go_ret
  refine⟨_,rfl,⟨?_⟩,((b.alloc _).drewN d).setCell (.inl b.size) _,b.size⟩
  have ht:=l.out
  subst ht
  exact(Ze (w:=(k.alloc _).drewN d) (Za _) _).trans rfl)
theorem Zqz (w:World) (lb pl:Nat) (x0 e1 x2 x3 x4:Value) (ends:Int) (he:e1= .int .i64 ends) (hends:IntKind.i64.wrap (ends+1)=ends+1)
  (hs:w.heap[lb]? =some (.cells #[x0, .int .i64 ends,x2,x3,x4] 193 (0,0))) (hp:w.heap[pl]? =some (.cells #[.pointer (some ⟨lb,0,none⟩)] 99 (0,0))):
  Calls Tryz.prog 167 #[.pointer (some ⟨pl,0,none⟩)] w fun e w'=>e= .returned (.tuple #[])∧
   (w'.heap[lb]? =some (.cells #[x0, .int .i64 (ends+1),x2,x3,x4] 193 (0,0))∧Zg [lb] w w'):=by
 have b:w.cell? ⟨pl,0,none⟩=_:=Zc (i:=0) hp rfl
 have c:w.cell? ⟨lb,1,none⟩=_:=Zc (i:=1) hs rfl
 have a:w.frozen? ⟨lb,1,none⟩=false:=Zk hs
 go_enter Tryz.func167,Tryz.ntmps167
 go_wp2
 go_end0
 refine⟨rfl,?_,(Zg.refl _ _).setCell (.inr (by simp)) _⟩
 rw[Ze hs];rfl
theorem ZqZ {st ends done:Int} (h:Zbr w lb st ends done) (hd:done=0∨done=1) (hw:IntKind.i64.wrap (ends+1)=ends+1) (tq:Int):
  Calls Tryz.prog 91 #[.pointer (some ⟨lb,0,none⟩), .int .i64 tq] w fun e w'=>e= .returned (.bool (may st tq))∧
   Zbr w' lb (if may st tq then tq else st) (if may st tq&&over tq&&decide (done=0)then ends+1 else ends) (if may st tq&&over tq then 1 else done)∧Zg [lb] w w':=by
 have K:∀(fn:Fn) (first cap:Array Value) (w:World),(Instr.makeFunc fn first cap).run Tryz.prog w= .ok (.func fn first cap) w:=fun _ _ _ _=>rfl
 have L:=lt_of_block h.hb
 obtain⟨C,n⟩:=Je (may st tq)
 obtain⟨E,m⟩:=Je (over tq)
 rw[←n,←m]
 have I:=D hw;clear hw;change Hid _ at n m
 go_enter Tryz.func91,Tryz.ntmps91
 go_wp2_with fail
 have d:Zg [] w (w.alloc (.cells #[.pointer (some ⟨lb,0,none⟩)] 99)):=(Zg.refl _ _).alloc _
 have q:=h.upd d (by simp)
 have k:(w.alloc (.cells #[.pointer (some ⟨lb,0,none⟩)] 99)).heap[w.heap.size]? =some (.cells #[.pointer (some ⟨lb,0,none⟩)] 99 (0,0)):=Za _
 generalize w.alloc (.cells #[.pointer (some ⟨lb,0,none⟩)] 99)=W at*
 have c:=D q;have y:=D k
 have z:W.cell? ⟨w.heap.size,0,none⟩=_:=Zc (i:=0) k rfl
 clear q k h;change Hid _ at d
 refine(Zed c).mono ?_
 rintro e s ⟨rfl,rfl⟩
 go_wp2_with fail
 refine(Zqi st tq _).mono ?_
 rintro e s ⟨rfl,rfl⟩
 rw[←n.out]
 cases C
 case false=>
  go_wp2_with fail
  go_ret
  exact⟨rfl,by simpa using c.out,d.weaken (by simp)⟩
 case true=>
  go_wp2_with fail
  refine(Zg6 _ _ tq _ (Zc (i:=0) c.hb rfl) (Zk c.hb)).mono ?_
  rintro e x ⟨rfl,b,rfl⟩
  have a:((W.drewN b).setCell ⟨lb,0,none⟩ (.int .i64 tq)).heap[lb]? =some (.cells #[.int .i64 tq, .int .i64 ends, .int .u32 done, .int .i32 0, .int .u32 0] 193 (0,0)):=(Ze (w:=W.drewN b) c.hb _).trans rfl
  have g:Zg [lb] w ((W.drewN b).setCell ⟨lb,0,none⟩ (.int .i64 tq)):=((d.weaken (G:=[lb]) (by simp)).drewN b).setCell (.inr (by simp)) _
  have l:((W.drewN b).setCell ⟨lb,0,none⟩ (.int .i64 tq)).heap[w.heap.size]? =some (.cells #[.pointer (some ⟨lb,0,none⟩)] 99 (0,0)):=(Yc _ (by simp;omega)).trans y.out
  have N:((W.drewN b).setCell ⟨lb,0,none⟩ (.int .i64 tq)).cell? ⟨w.heap.size,0,none⟩=_:=Zc (i:=0) l rfl
  generalize(W.drewN b).setCell ⟨lb,0,none⟩ (.int .i64 tq)=W2 at*
  clear c d y z;change Hid _ at a g l
  go_wp2_with fail
  refine(ZjD tq _).mono ?_
  rintro e s ⟨rfl,rfl⟩
  rw[←m.out]
  cases E
  case false=>
   go_wp2_with fail
   go_ret
   exact⟨rfl,⟨by simpa using a.out⟩,g.out⟩
  case true=>
   go_wp2_with fail
   rcases hd with rfl|rfl
   ·have M:=(Ze (w:=W2) a (i:=3) (.int .i32 1)).trans rfl
    have o:=Zqz (W2.setCell ⟨lb,3,none⟩ (.int .i32 1)) lb w.heap.size (.int .i64 tq) _ (.int .u32 0) (.int .i32 1) (.int .u32 0) ends rfl I ((Ze (w:=W2) a (i:=3) (.int .i32 1)).trans rfl) ((Yc _ (by simp;omega)).trans l)
    refine(Zdu lb 2 167 #[.pointer (some ⟨w.heap.size,0,none⟩)] W2 _ (Zc (i:=2) a rfl) (Zc (i:=3) a rfl) (Zk a) (Zk a)
     (fun W=>Go.MuLone.run_callFunc_enter Tryz.func167 (by kernel_rfl) rfl _ _) o (fun w' j=>⟨Zc (i:=2) j.1 rfl,Zc (i:=3) j.1 rfl,Zk j.1,Zk j.1⟩)).mono ?_
    rintro e H ⟨rfl,x,⟨p,r⟩,rfl⟩
    have F:=D p;have J:=D r
    clear p r o
    go_wp2_with fail
    go_ret
    refine⟨rfl,⟨?_⟩,?_⟩
    ·exact(Ze (Ze (show x.drew.heap[lb]? =_ from F.out) _) _).trans rfl
    ·exact((((g.setCell (.inr (by simp)) _).trans J (by simp)).drew.setCell (.inr (by simp)) _).setCell (.inr (by simp)) _)
   ·refine(Zee ⟨lb,2,none⟩ 1 rfl _ _ (Zc (i:=2) a rfl)).mono ?_
    rintro e H ⟨rfl,rfl⟩
    go_wp2_with fail
    go_ret
    exact⟨rfl,⟨by simpa using a.out⟩,g.out⟩
structure Zbj (w:World) (b rb S:Nat) (room:List UInt8) (head:Nat) (n:Nat):Prop where
 hb:w.heap[b]? =some (.cells #[.slice (some ⟨rb,0,none⟩) S S, .int .i64 (head:Int), .int .i64 (n:Int)] 281 (0,0))
 hrb:w.heap[rb]? =some (.cells (room.map B).toArray 5 (0,0))
 ne:b≠rb
theorem Zbj.drew {room:List UInt8} {head n:Nat} (h:Zbj w b rb S room head n) (k:Nat):Zbj (w.drewN k) b rb S room head n:=⟨h.hb,h.hrb,h.ne⟩
theorem Zbj.cells {room:List UInt8} {head n:Nat} (h:Zbj w b rb S room head n):
  w.cell? ⟨b,0,none⟩=some (.slice (some ⟨rb,0,none⟩) S S)∧w.cell? ⟨b,1,none⟩=some (.int .i64 (head:Int))∧w.cell? ⟨b,2,none⟩=some (.int .i64 (n:Int))∧
  w.frozen? ⟨b,1,none⟩=false∧w.frozen? ⟨b,2,none⟩=false:=
 ⟨Zc (i:=0) h.hb rfl,Zc (i:=1) h.hb rfl,Zc (i:=2) h.hb rfl,Zk h.hb,Zk h.hb⟩
theorem Zqr (w:World) (b rb S:Nat) (room:List UInt8) (head n:Nat) (h:Zbj w b rb S room head n):
  Calls Tryz.prog 100 #[.pointer (some ⟨b,0,none⟩)] w fun e w'=>e= .returned (.int .i64 n)∧w=w':=by
 obtain⟨d,g,a,c,i⟩:=h.cells
 clear h
 go_enter Tryz.func100,Tryz.ntmps100
 go_wp2
 go_ret
 exact⟨rfl,rfl⟩
theorem ZlT (w:World) (b rb S:Nat) (room:List UInt8) (head n:Nat) (h:Zbj w b rb S room head n):
  Calls Tryz.prog 211 #[.pointer (some ⟨b,0,none⟩)] w fun e w'=>e= .returned (.int .i64 n)∧Zbj w' b rb S room 0 0∧Zg [b] w w':=by
 obtain⟨d,g,a,c,i⟩:=h.cells
 go_enter Tryz.func211,Tryz.ntmps211
 go_wp2
 go_ret
 refine⟨rfl,⟨?_,?_,h.ne⟩,?_⟩
 ·rw[Ze (Ze h.hb _)];rfl
 ·rw[Yc _ h.ne,Yc _ h.ne];exact h.hrb
 ·exact((Zg.refl _ _).setCell (.inr (by simp)) _).setCell (.inr (by simp)) _
theorem Zhn (n:Nat):madeCells #[.int .u8 0] n=(List.map B (List.replicate n 0)).toArray:=by
 apply Array.ext
 ·simp[madeCells]
 ·intro i a b
  have e:i%1=0:=Nat.mod_one i
  simp[madeCells,B,e]
theorem ZpL (w:World) (sz:Int) (size:Nat) (hsize:size=(max 1 (min sz 4096)).toNat):
  Calls Tryz.prog 168 #[.int .i64 sz] w fun e w'=>∃b rb,e= .returned (.pointer (some ⟨b,0,none⟩))∧Zbj w' b rb size (List.replicate size 0) 0 0∧Zg [] w w'∧w.heap.size≤b∧w.heap.size≤rb∧b<w'.heap.size∧rb<w'.heap.size:=by
 have q:1≤size:=by omega
 have m:size≤4096:=by omega
 obtain⟨h,i,g,k,d⟩:=info_parts Tryz.info5
 have l:=run_make (P:= Tryz.prog) w 37 5 h (.int .u8 0) Tryz.underlying37 i g .i64 .i64 size size (by omega) (by omega) (by rw[d];omega) (by omega)
 obtain⟨x,hx⟩:=Je ((if(4096:Int)<sz then 4096 else sz))
 have j:(if(1:Int)<x then x else 1)=size:=by rw[hx];(repeat' split)<;>omega
 have o:=hx.symm
 have n:min sz 4096=x:=by rw[hx];split<;>omega
 have p:max 1 x=(size:Int):=by rw[←j];split<;>omega
 clear hx hsize
 go_enter Tryz.func168,Tryz.ntmps168
 go_wp2
 go_ret
 have c:((w.alloc (.cells (madeCells #[.int .u8 0] size) 5)).alloc (.cells #[.slice (some ⟨w.heap.size,0,none⟩) size size, .int .i64 0, .int .i64 0] 281)).heap[w.heap.size]? =some (.cells (madeCells #[.int .u8 0] size) 5 (0,0)):=by
  rw[ZB _ (by simp),Za]
 have a:=Za (w:=w.alloc (.cells (madeCells #[.int .u8 0] size) 5)) (.cells #[.slice (some ⟨w.heap.size,0,none⟩) size size, .int .i64 0, .int .i64 0] 281 (0,0))
 rw[World.size_alloc]at a
 refine⟨w.heap.size+1,w.heap.size,rfl,⟨a,?_,by omega⟩,((Zg.refl _ _).alloc _).alloc _,by omega,by omega,by simp,by simp;omega⟩
 rw[c]
 rw[Zhn]
def ZrY (room:List UInt8) (head:Nat) (k:Nat):List UInt8:=(List.range k).map fun i=>room.getD ((head+i)%room.length) 0
theorem Zbj.upd {room:List UInt8} {head n:Nat} (h:Zbj w b rb S room head n) (hu:Zg F w w') (h1:b∉F) (h2:rb∉F):Zbj w' b rb S room head n:=
 ⟨(hu.block b (lt_of_block h.hb) h1).trans h.hb,(hu.block rb (lt_of_block h.hrb) h2).trans h.hrb,h.ne⟩
structure Ring (w:World) (b rb S:Nat) (q:List UInt8):Prop where
 rep:∃room head,Zbj w b rb S room head q.length∧room.length=S∧head<S∧ZrY room head q.length=q
 le:q.length≤S
 one:1≤S
 S_le:S≤4096
theorem Ring.upd {q:List UInt8} (h:Ring w b rb S q) (hu:Zg F w w') (h1:b∉F) (h2:rb∉F):Ring w' b rb S q:=by
 obtain⟨⟨a,c,e,x⟩,d,f,g⟩:=h
 exact⟨⟨a,c,e.upd hu h1 h2,x⟩,d,f,g⟩
theorem Ring.drewN {q:List UInt8} (h:Ring w b rb S q) (k:Nat):Ring (w.drewN k) b rb S q:=by
 obtain⟨⟨a,c,e,x⟩,d,f,g⟩:=h
 exact⟨⟨a,c,e.drew k,x⟩,d,f,g⟩
theorem Ring.lt {q:List UInt8} (h:Ring w b rb S q):b<w.heap.size∧rb<w.heap.size:=by
 obtain⟨⟨c,d,a,x⟩,e,f,g⟩:=h
 exact⟨lt_of_block a.hb,lt_of_block a.hrb⟩
theorem ZlB {q:List UInt8} (h:Ring w b rb S q):
  Calls Tryz.prog 100 #[.pointer (some ⟨b,0,none⟩)] w fun e w'=>e= .returned (.int .i64 q.length)∧w=w':=by
 obtain⟨⟨c,a,d,m,l,g⟩,i,j,k⟩:=h
 exact Zqr w b rb S c a _ d
theorem Zmy {q:List UInt8} (h:Ring w b rb S q):
  Calls Tryz.prog 211 #[.pointer (some ⟨b,0,none⟩)] w fun e w'=>e= .returned (.int .i64 q.length)∧Ring w' b rb S []∧Zg [b] w w':=by
 obtain⟨⟨a,c,j,l,o,m⟩,n,g,i⟩:=h
 refine(ZlT w b rb S a c _ j).mono ?_
 rintro e w' ⟨rfl,d,k⟩
 exact⟨rfl,⟨⟨a,0,d,l,by omega,rfl⟩,by simp,g,i⟩,k⟩
theorem Zj1 (w:World) (sz:Int) (size:Nat) (hsize:size=(max 1 (min sz 4096)).toNat):
  Calls Tryz.prog 168 #[.int .i64 sz] w fun e w'=>∃b rb,e= .returned (.pointer (some ⟨b,0,none⟩))∧Ring w' b rb size []∧Zg [] w w'∧w.heap.size≤b∧w.heap.size≤rb:=by
 refine(ZpL w sz size hsize).mono ?_
 rintro e w' ⟨b,rb,rfl,d,g,a,c,i,h⟩
 exact⟨b,rb,rfl,⟨⟨_,0,d,by simp,by omega,rfl⟩,by simp,by omega,by omega⟩,g,a,c⟩
theorem Zpw (w:World) (size:Nat) (h1:1≤size) (h2:size≤4096):
  Calls Tryz.prog 168 #[.int .i64 size] w fun e w'=>∃b rb,e= .returned (.pointer (some ⟨b,0,none⟩))∧Ring w' b rb size []∧Zg [] w w'∧w.heap.size≤b∧w.heap.size≤rb:=
 Zj1 w size size (by omega)
structure ZeM (w:World) (sb b rb:Nat) (high low:Nat) (state:Int) (paused:Bool) (once:Int) (q:List UInt8):Prop where
 hb:w.heap[sb]? =some (.cells #[.pointer (some ⟨b,0,none⟩), .int .i64 (high:Int), .int .i64 (low:Int), .int .i64 state, .bool paused, .int .u32 once, .int .i32 0, .int .u32 0] 196 (0,0))
 ring:Ring w b rb (high+63) q
 ne:sb≠b∧sb≠rb
 h1:1≤high
 h2:high≤1024
 h3:low<high
 st:1≤state∧state≤3
 room:state=1→paused=false→q.length<high
theorem ZeM.upd {sb b rb high low:Nat} {state:Int} {paused:Bool} {once:Int} {q:List UInt8} (h:ZeM w sb b rb high low state paused once q) (hu:Zg F w w') (h1:sb∉F) (h2:b∉F) (h3:rb∉F):
  ZeM w' sb b rb high low state paused once q:=
 ⟨(hu.block sb (lt_of_block h.hb) h1).trans h.hb,h.ring.upd hu h2 h3,h.ne,h.h1,h.h2,h.h3,h.st,h.room⟩
theorem ZeM.drewN {sb b rb high low:Nat} {state:Int} {paused:Bool} {once:Int} {q:List UInt8} (h:ZeM w sb b rb high low state paused once q) (k:Nat):
 ZeM (w.drewN k) sb b rb high low state paused once q:=⟨h.hb,h.ring.drewN k,h.ne,h.h1,h.h2,h.h3,h.st,h.room⟩
theorem ZeM.cells {sb b rb high low:Nat} {state:Int} {paused:Bool} {once:Int} {q:List UInt8} (h:ZeM w sb b rb high low state paused once q):
  w.cell? ⟨sb,0,none⟩=some (.pointer (some ⟨b,0,none⟩))∧w.cell? ⟨sb,1,none⟩=some (.int .i64 (high:Int))∧w.cell? ⟨sb,2,none⟩=some (.int .i64 (low:Int))∧
  w.cell? ⟨sb,3,none⟩=some (.int .i64 state)∧w.cell? ⟨sb,4,none⟩=some (.bool paused)∧w.frozen? ⟨sb,3,none⟩=false∧w.frozen? ⟨sb,4,none⟩=false:=
 ⟨Zc (i:=0) h.hb rfl,Zc (i:=1) h.hb rfl,Zc (i:=2) h.hb rfl,Zc (i:=3) h.hb rfl,Zc (i:=4) h.hb rfl,Zk h.hb,Zk h.hb⟩
theorem ZoC {sb b rb high low:Nat} {state:Int} {paused:Bool} {once:Int} {q:List UInt8} (h:ZeM w sb b rb high low state paused once q):
  Calls Tryz.prog 96 #[.pointer (some ⟨sb,0,none⟩)] w fun e w'=>e= .returned (.bool (decide (state=3∨state=2∧q=[])))∧w=w':=by
 obtain⟨g,i,l,d,j,n,m⟩:=h.cells
 have c:=h.st
 rcases(show state=1∨state=2∨state=3 by omega)with rfl|rfl|rfl
 ·go_enter Tryz.func96,Tryz.ntmps96
  go_wp2
  go_ret
  exact⟨rfl,rfl⟩
 ·by_cases a:q=[]
  ·subst a
   go_enter Tryz.func96,Tryz.ntmps96
   go_wp2_with(go_at_call 100;refine(ZlB h.ring).mono ?_;rintro e w' ⟨rfl,rfl⟩;simp only[List.length_nil])
   go_ret
   exact⟨rfl,rfl⟩
  ·have k:((q.length:Int)==0)=false:=by simpa using a
   go_enter Tryz.func96,Tryz.ntmps96
   go_wp2_with(go_at_call 100;refine(ZlB h.ring).mono ?_;rintro e w' ⟨rfl,rfl⟩)
   go_ret
   refine⟨?_,rfl⟩
   simp[a]
 ·go_enter Tryz.func96,Tryz.ntmps96
  go_wp2
  go_ret
  exact⟨rfl,rfl⟩
theorem Zqc {sb b rb high low:Nat} {state:Int} {paused:Bool} {once:Int} {q:List UInt8} (hs:ZeM w sb b rb high low state paused once q):
  Calls Tryz.prog 95 #[.pointer (some ⟨sb,0,none⟩)] w fun e w'=>e= .returned (.int .i64 (if state=1 then 0 else 12))∧
   ZeM w' sb b rb high low (if state=1 then 2 else state) (if state=1 then false else paused) once q∧Zg [sb] w w':=by
 obtain⟨h,j,l,g,k,n,m⟩:=hs.cells
 have d:=hs.st
 by_cases a:state=1
 ·subst a
  go_enter Tryz.func95,Tryz.ntmps95
  go_wp2
  go_ret
  have c:Zg [sb] w ((w.setCell ⟨sb,3,none⟩ (.int .i64 2)).setCell ⟨sb,4,none⟩ (.bool false)):=((Zg.refl _ _).setCell (.inr (by simp)) _).setCell (.inr (by simp)) _
  refine⟨rfl,⟨?_,hs.ring.upd c (by simpa using Ne.symm hs.ne.1) (by simpa using Ne.symm hs.ne.2),hs.ne,hs.h1,hs.h2,hs.h3,by simp,by simp⟩,c⟩
  rw[Ze (Ze hs.hb _)];rfl
 ·have i:(state==1)=false:=by simpa using a
  have o:(state !=1)=true:=by simpa using a
  go_enter Tryz.func95,Tryz.ntmps95
  go_wp2
  go_ret
  exact⟨rfl,hs,Zg.refl _ _⟩
theorem Zqw (w:World) (high low:Int) (H L:Nat) (hH:H=(max 1 (min high 1024)).toNat) (hL:L=(max 0 (min low (H-1))).toNat):
  Calls Tryz.prog 92 #[.int .i64 high, .int .i64 low] w fun e w'=>∃sb b rb,e= .returned (.pointer (some ⟨sb,0,none⟩))∧ZeM w' sb b rb H L 1 false 0 []∧Zg [] w w'∧w.heap.size≤sb∧w.heap.size≤b∧w.heap.size≤rb:=by
 have h:1≤H:=by omega
 have j:H≤1024:=by omega
 have i:L<H:=by omega
 obtain⟨x,hx⟩:=Je ((if(1024:Int)<high then 1024 else high))
 have p:(if(1:Int)<x then x else 1)=H:=by rw[hx];(repeat' split)<;>omega
 have s:=hx.symm
 obtain⟨y,a⟩:=Je ((if(H:Int)-1<low then(H:Int)-1 else low))
 have l:(if(0:Int)<y then y else 0)=L:=by rw[a];(repeat' split)<;>omega
 have r:=a.symm
 have z:min high 1024=x:=by rw[hx];split<;>omega
 have E:max 1 x=(H:Int):=by rw[←p];split<;>omega
 have t:min low ((H:Int)-1)=y:=by rw[a];split<;>omega
 have C:max 0 y=(L:Int):=by rw[←l];split<;>omega
 clear hx a hH hL
 go_enter Tryz.func92,Tryz.ntmps92
 go_wp2_with fail
 rw[show(H:Int)-1+64=((H+63:Nat):Int)by omega]
 refine(Zpw _ (H+63) (by omega) (by omega)).mono ?_
 rintro e o ⟨b,rb,rfl,c,g,n,k⟩
 have q:=c.lt
 have m:=D c;have d:=D g;clear c g
 go_wp2_with fail
 go_ret
 exact⟨o.heap.size,b,rb,rfl,⟨Za _,m.upd ((Zg.refl [] _).alloc _) (by simp) (by simp),by omega,h,j,i,by omega,fun _ _=>by simp;omega⟩,d.alloc _,by have:=d.size;omega,n,k⟩
theorem ZmT (w:World) (sb b rb S ps pd:Nat) (high low state:Int) (paused:Bool) (x5 x6 x7:Value) (q:List UInt8)
  (hs:w.heap[sb]? =some (.cells #[.pointer (some ⟨b,0,none⟩), .int .i64 high, .int .i64 low, .int .i64 state, .bool paused,x5,x6,x7] 196 (0,0)))
  (hr:Ring w b rb S q) (hps:w.heap[ps]? =some (.cells #[.pointer (some ⟨sb,0,none⟩)] 100 (0,0))) (hpd:w.heap[pd]? =some (.cells #[.bool false] 4 (0,0)))
  (n1:sb≠b) (n2:sb≠rb) (n3:ps≠b) (n4:pd≠b) (n5:pd≠sb) (n6:pd≠ps) (n7:ps≠sb) (n8:ps≠rb) (n9:pd≠rb):
  Calls Tryz.prog 210 #[.pointer (some ⟨ps,0,none⟩), .pointer (some ⟨pd,0,none⟩)] w fun e w'=>e= .returned (.tuple #[])∧
   (w'.heap[sb]? =some (.cells #[.pointer (some ⟨b,0,none⟩), .int .i64 high, .int .i64 low, .int .i64 3, .bool false,x5,x6,x7] 196 (0,0))∧
    Ring w' b rb S []∧w'.heap[pd]? =some (.cells #[.bool true] 4 (0,0))∧Zg [sb,b,pd] w w'):=by
 have o:w.cell? ⟨sb,0,none⟩=_:=Zc (i:=0) hs rfl
 have s:w.cell? ⟨ps,0,none⟩=_:=Zc (i:=0) hps rfl
 go_enter Tryz.func210,Tryz.ntmps210
 go_wp2_with fail
 refine(Zmy hr).mono ?_
 rintro e a ⟨rfl,l,d⟩
 have c:a.heap[sb]? =_:=(d.block sb (lt_of_block hs) (by simpa using n1)).trans hs
 have k:a.heap[ps]? =_:=(d.block ps (lt_of_block hps) (by simpa using n3)).trans hps
 have j:a.heap[pd]? =_:=(d.block pd (lt_of_block hpd) (by simpa using n4)).trans hpd
 have m:a.cell? ⟨ps,0,none⟩=_:=Zc (i:=0) k rfl
 have J:a.cell? ⟨sb,3,none⟩=_:=Zc (i:=3) c rfl
 have C:a.cell? ⟨sb,4,none⟩=_:=Zc (i:=4) c rfl
 have p:a.cell? ⟨pd,0,none⟩=_:=Zc (i:=0) j rfl
 have H:a.frozen? ⟨sb,3,none⟩=false:=Zk c
 have I:a.frozen? ⟨sb,4,none⟩=false:=Zk c
 have E:a.frozen? ⟨pd,0,none⟩=false:=Zk j
 have r:=D l;have n:=D d
 clear o s k l d;change Hid _ at c j
 go_wp2_with fail
 refine Jr [0,4,8,12,17,20,24,30,34] (fun W=>W.cell? ⟨ps,0,none⟩=some (.pointer (some ⟨sb,0,none⟩))) m ?_
 repeat first|refine Jn ?_|refine Jf ?_|refine Ju ?_
 refine JE ?_
 simp only[Xu]
 go_wp2_with fail
 refine⟨_,fun _ h=>h,?_,?_⟩
 ·have:(a.setCell ⟨sb,3,none⟩ (.int .i64 3)).cell? ⟨ps,0,none⟩=some (.pointer (some ⟨sb,0,none⟩)):=by
   rw[World.cell?_setCell_other _ _ _ _ (by simp[Ne.symm n7])];exact m
  exact this
 repeat first|refine Jn ?_|refine Jf ?_|refine Ju ?_
 refine JL ?_
 go_wp2_with fail
 refine⟨fun _=>True,trivial,?_⟩
 have g:sb≠pd:=Ne.symm n5
 have y:((a.setCell ⟨sb,3,none⟩ (.int .i64 3)).setCell ⟨sb,4,none⟩ (.bool false)).cell? ⟨pd,0,none⟩=some (.bool false):=by
  rw[World.cell?_setCell_other _ _ _ _ (by simp[g]),World.cell?_setCell_other _ _ _ _ (by simp[g])];exact p
 refine JL ?_
 go_wp2
 refine Jz ?_
 go_wp2
 go_end0
 have z:∀x:Addr,True:=fun _=>trivial
 refine⟨rfl,?_,?_,?_,?_⟩
 ·simp only[Zi0]
  rw[Yc _ n5,Ze (Ze c _)];rfl
 ·refine r.upd (F:=[sb,pd]) ((((Zg.refl _ _).setCell (.inr (by simp)) _).setCell (.inr (by simp)) _).setCell (.inr (by simp)) _).drew (by simp;omega) (by simp;omega)
 ·simp only[Zi0]
  rw[Ze (show((a.setCell ⟨sb,3,none⟩ (.int .i64 3)).setCell ⟨sb,4,none⟩ (.bool false)).heap[pd]? =some (.cells #[.bool false] 4 (0,0))by rw[Yc _ g,Yc _ g];exact j)];rfl
 ·exact((((n.weaken (G:=[sb,b,pd]) (by simp)).setCell (.inr (by simp)) _).setCell (.inr (by simp)) _).setCell (.inr (by simp)) _).drew
theorem ZnJ {sb b rb high low:Nat} {state:Int} {paused:Bool} {q:List UInt8} (hs:ZeM w sb b rb high low state paused 0 q):
  Calls Tryz.prog 139 #[.pointer (some ⟨sb,0,none⟩)] w fun e w'=>e= .returned (.bool true)∧ZeM w' sb b rb high low 3 false 1 []∧Zg [sb,b] w w':=by
 have I:∀(fn:Fn) (first cap:Array Value) (w:World),(Instr.makeFunc fn first cap).run Tryz.prog w= .ok (.func fn first cap) w:=fun _ _ _ _=>rfl
 have E:=lt_of_block hs.hb
 have K:=hs.ring.lt
 go_enter Tryz.func139,Tryz.ntmps139
 go_wp2_with fail
 obtain⟨W,c⟩:=Je ((w.alloc (.cells #[.pointer (some ⟨sb,0,none⟩)] 100)).alloc (.cells #[.bool false] 4))
 have k:Zg [] w W:=by rw[c];exact((Zg.refl _ _).alloc _).alloc _
 have r:W.heap[w.heap.size]? =some (.cells #[.pointer (some ⟨sb,0,none⟩)] 100 (0,0)):=by rw[c,ZB _ (by simp),Za]
 have n:W.heap[w.heap.size+1]? =some (.cells #[.bool false] 4 (0,0)):=by
  have:=Za (w:=w.alloc (.cells #[.pointer (some ⟨sb,0,none⟩)] 100)) (.cells #[.bool false] 4 (0,0))
  rw[World.size_alloc]at this
  rw[c];exact this
 have J:W.heap.size=w.heap.size+2:=by rw[c];simp
 rw[←c]
 clear c
 have a:=(k.block sb E (by simp)).trans hs.hb
 have o:(W.setCell ⟨sb,6,none⟩ (.int .i32 1)).heap[sb]? =some (.cells #[.pointer (some ⟨b,0,none⟩), .int .i64 (high:Int), .int .i64 (low:Int), .int .i64 state, .bool paused, .int .u32 0, .int .i32 1, .int .u32 0] 196 (0,0)):=by
  rw[Ze a];rfl
 have h:Zg [sb] W (W.setCell ⟨sb,6,none⟩ (.int .i32 1)):=(Zg.refl _ _).setCell (.inr (by simp)) _
 have z:Ring (W.setCell ⟨sb,6,none⟩ (.int .i32 1)) b rb (high+63) q:=(hs.ring.upd k (by simp) (by simp)).upd h (by simpa using Ne.symm hs.ne.1) (by simpa using Ne.symm hs.ne.2)
 have g:=hs.ne
 have p:=ZmT (W.setCell ⟨sb,6,none⟩ (.int .i32 1)) sb b rb (high+63) w.heap.size (w.heap.size+1) high low state paused (.int .u32 0) (.int .i32 1) (.int .u32 0) q o z
  ((h.block _ (by omega) (by simp;omega)).trans r) ((h.block _ (by omega) (by simp;omega)).trans n) g.1 g.2 (by omega) (by omega) (by omega) (by omega) (by omega) (by omega) (by omega)
 refine(Zdu sb 5 210 #[.pointer (some ⟨w.heap.size,0,none⟩), .pointer (some ⟨w.heap.size+1,0,none⟩)] W _ (Zc (i:=5) a rfl) (Zc (i:=6) a rfl) (Zk a) (Zk a)
  (fun W=>Go.MuLone.run_callFunc_enter Tryz.func210 (by kernel_rfl) rfl _ _) p (fun w' l=>⟨Zc (i:=5) l.1 rfl,Zc (i:=6) l.1 rfl,Zk l.1,Zk l.1⟩)).mono ?_
 rintro e L ⟨rfl,d,⟨s,y,m,x⟩,rfl⟩
 have C:((d.drew.setCell ⟨sb,5,none⟩ (.int .u32 1)).setCell ⟨sb,6,none⟩ (.int .i32 0)).heap[sb]? =some (.cells #[.pointer (some ⟨b,0,none⟩), .int .i64 (high:Int), .int .i64 (low:Int), .int .i64 3, .bool false, .int .u32 1, .int .i32 0, .int .u32 0] 196 (0,0)):=by
  rw[Ze (Ze (show d.drew.heap[sb]? =_ from s) _)];rfl
 have j:Zg [sb] d ((d.drew.setCell ⟨sb,5,none⟩ (.int .u32 1)).setCell ⟨sb,6,none⟩ (.int .i32 0)):=(((Zg.refl [sb] d).drew).setCell (.inr (by simp)) _).setCell (.inr (by simp)) _
 have M:((d.setCell ⟨sb,5,none⟩ (.int .u32 1)).setCell ⟨sb,6,none⟩ (.int .i32 0)).cell? ⟨w.heap.size+1,0,none⟩=some (.bool true):=(Zc (i:=0) ((j.block (w.heap.size+1) (lt_of_block m) (by simp;omega)).trans m) rfl)
 have F:=D y;have H:=D x
 clear s y m x p z o a r n;change Hid _ at C j k h
 go_wp2
 go_ret
 refine⟨rfl,⟨C,F.upd j (by simpa using Ne.symm g.1) (by simpa using Ne.symm g.2),g,hs.h1,hs.h2,hs.h3,by simp,by simp⟩,?_⟩
 refine(((k.weaken (G:=[sb,b]) (by simp)).trans h (by simp)).trans H ?_).trans j (by simp)
 simp
theorem Zhp {sb b rb high low:Nat} {state:Int} {paused:Bool} {q:List UInt8} (hs:ZeM w sb b rb high low state paused 1 q):
  Calls Tryz.prog 139 #[.pointer (some ⟨sb,0,none⟩)] w fun e w'=>e= .returned (.bool false)∧ZeM w' sb b rb high low state paused 1 q∧Zg [] w w':=by
 have d:∀(fn:Fn) (first cap:Array Value) (w:World),(Instr.makeFunc fn first cap).run Tryz.prog w= .ok (.func fn first cap) w:=fun _ _ _ _=>rfl
 have c:=lt_of_block hs.hb
 have g:=hs.ring.lt
 have a:Zg [] w ((w.alloc (.cells #[.pointer (some ⟨sb,0,none⟩)] 100)).alloc (.cells #[.bool false] 4)):=((Zg.refl _ _).alloc _).alloc _
 go_enter Tryz.func139,Tryz.ntmps139
 go_wp2_with fail
 refine(Zee ⟨sb,5,none⟩ 1 rfl _ _ (Zc (i:=5) ((a.block sb c (by simp)).trans hs.hb) rfl)).mono ?_
 rintro e h ⟨rfl,rfl⟩
 go_wp2
 go_ret
 exact⟨rfl,hs.upd a (by simp) (by simp) (by simp),a⟩
end Go.Proofs.YtbgbeddbfaopgaaGreatDoor
