import Derived.Test.YtlhapbopmplngaaGreatDoorS37
import Derived.Test.YtlhapbopmplngaaGreatDoorS38
set_option linter.all false
set_option maxHeartbeats 16000000
set_option maxRecDepth 100000
set_option autoImplicit true
set_option relaxedAutoImplicit true
namespace Go.Lk
theorem Zgb (s:Ze) (g:Int) (hm:s.made=s.groups.length):YU s g=if g<1∨s.made<g then 11 else if(s.groups[(g-1).toNat]?.map (·.torn)).getD false then 13 else 0:=by
 unfold YU
 by_cases h:g<1∨s.made<g
 ·rw[if_pos h,if_pos h]
 ·rw[if_neg h,if_neg h]
  have a:(g-1).toNat<s.groups.length:=by omega
  rw[Xa a]
  rfl
end Go.Lk
namespace Go.Proofs.YtlhapbopmplngaaGreatDoor
open Go.RowKit Go.Lk
section
variable {w:World} {b:Nat} {P:Ym} {lk:Option Nat} {s:Ze} {va vp vl:Value} {F:List Nat}
theorem ZeB (h:Zh w b P lk s va vp vl F) (hfit:ZQ s n m) (g:Int):
  Calls Tryz.prog 53 #[.pointer (some ⟨b,0,none⟩), .int .i64 g] w fun e w'=>e= .returned (.int .i64 (YU s g))∧w'=w:=by
 have x:=hfit.gl
 have a:=hfit.made
 obtain⟨r,G,c,j,_,_⟩:=h.groups
 have i:r.length=s.groups.length:=by rw[←c,Xb]
 have q:=Zm6 j (by omega) g
 have ht:(r[(g-1).toNat]?.map (·.2.torn))=(s.groups[(g-1).toNat]?.map (·.torn)):=by rw[←c,Xe,Option.map_map];rfl
 rw[ht,i]at q
 rw[Zgb s g a]
 obtain⟨t,k⟩:=Je ((s.groups[(g-1).toNat]?.map (·.torn)).getD false)
 rw[←k]at q⊢
 have z:=Jx 16 h.blk.1
 have L:=Jx 12 h.blk.1
 obtain⟨E,o⟩:=Je s.made
 rw[←o]at z a⊢
 obtain⟨I,d⟩:=Je ((Zem s.groups.length g&& !t))
 rw[←d]at q
 have J:=D q;have C:=D a
 clear q j c i ht k a o x hfit;change Hid _ at d
 go_in
 by_cases N:g<1
 ·go_wp2_with fail
  go_ret
  exact⟨rfl,rfl⟩
 ·by_cases M:E<g
  ·go_wp2_with fail
   go_ret
   exact⟨rfl,rfl⟩
  ·have l:I= !t:=by
    rw[d.out];unfold Zem
    have K:decide (1≤g)=true:=decide_eq_true (by omega)
    have H:decide (g≤(s.groups.length:Int))=true:=decide_eq_true (by have:=C.out;omega)
    rw[K,H];rfl
   have y:=D l
   clear l
   go_wp2_with fail
   refine J.out.mono ?_
   rintro e W ⟨rfl,p⟩
   rw[p]
   clear p W
   rw[y.out]
   cases t with
   |true=>go_wp2_with fail;go_ret;exact⟨rfl,rfl⟩
   |false=>go_wp2_with fail;go_ret;exact⟨rfl,rfl⟩
theorem Zhz (h:Zh w b P lk s va vp vl F) (hfit:ZQ s n m) (g:Int):
  Calls Tryz.prog 54 #[.pointer (some ⟨b,0,none⟩), .int .i64 g] w fun e w'=>e= .returned (.int .i64 (Zbw s g))∧w'=w:=by
 have J:=hfit.sg
 obtain⟨H,G,q,o,_,_⟩:=h.signals
 have l:H.length=s.signals.length:=by rw[←q,Xb]
 have j:=Zru o (by omega)
 have i:=Zlg o (by omega) g
 have ht:(H[(g-1).toNat]?.map (·.2.aborted))=(s.signals[(g-1).toNat]?.map (·.aborted)):=by rw[←q,Xe,Option.map_map];rfl
 rw[ht,l]at i
 rw[l]at j
 obtain⟨R,a⟩:=Je (Zbw s g)
 rw[←a]
 unfold Zbw at a
 obtain⟨C,y⟩:=Je s.signals.length
 rw[←y]at j i a
 obtain⟨I,r⟩:=Je ((Zem C g&&(s.signals[(g-1).toNat]?.map (·.aborted)).getD false))
 rw[←r]at i
 have O:=Jx 13 h.blk.1
 have N:=D j;have L:=D i
 clear j i o q l ht y hfit J;change Hid _ at a r
 go_in
 go_wp2_with fail
 refine N.out.mono ?_
 rintro e W ⟨rfl,d⟩
 rw[d]
 clear d W
 by_cases t:(C:Int)<g
 ·have k:=D (a.trans (if_pos t))
  go_wp2_with fail
  go_ret
  exact⟨by rw[k.out];rfl,rfl⟩
 ·have k:=D (a.trans (if_neg t))
  have K:=D t
  go_wp2_with fail
  refine L.out.mono ?_
  rintro e W ⟨rfl,d⟩
  rw[d]
  clear d W
  have z:(1≤g∧(s.signals[(g-1).toNat]?.map (·.aborted))=some true)↔I=true:=by
   rw[r.out]
   unfold Zem
   simp only[Bool.and_eq_true,decide_eq_true_eq]
   constructor
   ·rintro⟨x,M⟩;exact⟨⟨x,by have:=K.out;omega⟩,by rw[M];rfl⟩
   ·rintro⟨⟨x,_⟩,c⟩
    refine⟨x,?_⟩
    cases hc:s.signals[(g-1).toNat]?.map (·.aborted)with
    |none=>rw[hc]at c;cases c
    |some v=>rw[hc]at c;simp at c;rw[c]
  have E:=D z
  clear z
  cases I with
  |true=>
   have p:=D (k.trans (if_pos (E.out.2 rfl)))
   go_wp2_with fail
   go_ret
   exact⟨by rw[p.out];rfl,rfl⟩
  |false=>
   have p:=D (k.trans (if_neg (fun hx=>by have:=E.out.1 hx;cases this)))
   go_wp2_with fail
   go_ret
   exact⟨by rw[p.out];rfl,rfl⟩
end
section
variable {w:World} {b:Nat} {P:Ym} {lk:Option Nat} {s:Ze} {va vp vl:Value} {F:List Nat}
def Zsi (b:Nat) (P:Ym) (lk:Option Nat) (s:Ze) (c:Int) (va vp:Value) (w:World) (F:List Nat) (e:Ending) (w':World):Prop:=
 e= .returned (.int .i64 c)∧∃vl' F',Zh w' b P lk s va vp vl' F'∧Zi w w' F F'
theorem Zeu (h:Zh w b P lk s va vp vl F) (hfit:ZQ s n m) (hs:Lk.Safe s) (hn:n≤800000) (hm:m≤900000) (id:Int):
  Calls Tryz.prog 24 #[.pointer (some ⟨b,0,none⟩), .int .i64 id] w (Zsi b P lk (activateS s id).1 (activateS s id).2 va vp w F):=by
 have Z:=hfit.all
 obtain⟨R,d⟩:=Je (activateS s id)
 rw[←d]
 cases hq:YN s id with
 |none=>
  have c:R=(s,11):=by rw[d];unfold activateS;rw[hq]
  have x:id<1∨(s.all.length:Int)<id:=by
   unfold YN at hq
   by_cases E:id<1∨(s.all.length:Int)<id
   ·exact E
   ·rw[if_neg E,Xa (by omega)]at hq;cases hq
  have o:=D (ZgC h (by omega) id x)
  have H:=D h
  clear h hfit hs d x hq;change Hid _ at c
  go_in
  go_wp2_with fail
  refine o.out.mono ?_
  rintro e W ⟨rfl,a⟩
  rw[a]
  clear a W
  go_wp2_with fail
  go_ret
  rw[c.out]
  exact⟨rfl,vl,F,H.out,Zi.refl _ _⟩
 |some f=>
  obtain⟨i,rfl,g⟩:=Zd1 hq
  obtain⟨p,j⟩:=h.fp g
  have o:=D (Yt h (by omega) j ((i:Int)+1) rfl)
  obtain⟨lb,L,l,_⟩:=h.life j g
  have H:=D h;have HL:=D l;have O:=D j;have z:=D g;have r:=D hfit;have Y:=D hs
  obtain⟨J,k⟩:=Je f.state
  have M:=D k
  have y:=D (show R=if J≠1 then(s,12)else(openS (ZI s 2 ((i:Int)+1) 0 0 0) ((i:Int)+1),0)by rw[d,k];unfold activateS;rw[hq])
  have N:=D (Za0 l)
  clear h hfit hs d hq l j g k
  go_in
  go_wp2_with fail
  refine o.out.mono ?_
  rintro e W ⟨rfl,a⟩
  rw[a]
  clear a W
  go_wp2_with fail
  have q:=N.out
  rw[←M.out]at q
  refine q.mono ?_
  rintro e W ⟨rfl,a⟩
  rw[←a]
  clear a W q
  by_cases T:J=1
  ·have c:=D (y.trans (if_neg (by omega)))
   go_wp2_with fail
   refine(Y0 H (Xj r.log (by omega)) _ _ _ _ _ _ _).mono ?_
   rintro e w2 ⟨rfl,aa,F2,K,I⟩
   have t:(ZI s 2 ((i:Int)+1) 0 0 0).all[i]? =some f:=z.out
   have S:=D (ZiQ K (r.tell 2 ((i:Int)+1) 0 0 0) (by omega) O t (Y.out.1 i f z))
   have Q:=D I
   clear K I t L
   go_wp2_with fail
   refine S.out.mono ?_
   rintro e w3 ⟨rfl,F3,G,C⟩
   have X:=D G;have V:=D (Q.trans C)
   clear G C
   go_wp2_with fail
   go_ret
   rw[c.out]
   exact⟨rfl,_,_,X.out,V.out⟩
  ·have c:=D (y.trans (if_pos T))
   go_wp2_with fail
   go_ret
   rw[c.out]
   exact⟨rfl,vl,F,H.out,Zi.refl _ _⟩
end
end Go.Proofs.YtlhapbopmplngaaGreatDoor
namespace Go.Lk
theorem Zjy {α:Type} {p:α→Bool} {l:List α} (h:l.findIdx? p=some i):∃x,l[i]? =some x∧p x=true∧l.find? p=some x:=by
 obtain⟨a,b,c⟩:=List.findIdx?_eq_some_iff_getElem.1 h
 refine⟨l[i],Xa a,b,?_⟩
 rw[List.find?_eq_some_iff_getElem]
 exact⟨b,i,a,rfl,fun j d=>by simpa using c j d⟩
theorem Ziz {α:Type} {p:α→Bool} {l:List α} (h:l.findIdx? p=none):l.find? p=none:=by
 rw[List.findIdx?_eq_none_iff]at h
 rw[List.find?_eq_none]
 intro x hx;rw[h x hx];simp
end Go.Lk
namespace Go.Proofs.YtlhapbopmplngaaGreatDoor
open Go.RowKit Go.Lk
section
variable {w:World} {b:Nat} {P:Ym} {lk:Option Nat} {s:Ze} {va vp vl:Value} {F:List Nat}
theorem Zhs (h:Zh w b P lk s va vp vl F) (conn:Int):
  (Zcv s conn=(none,none)∧Zb1 P s conn=(none,none))∨
  (∃(i:Nat) (f:ZC) (p:Nat),s.all[i]? =some f∧P.fps[i]? =some p∧f.conn=conn∧1≤conn∧Zcv s conn=(some f,none)∧Zb1 P s conn=(some p,none))∨
  (∃(j:Nat) (x:ZG) (q:Nat),s.pres[j]? =some x∧P.qps[j]? =some q∧x.conn=conn∧1≤conn∧Zcv s conn=(none,some x)∧Zb1 P s conn=(none,some q)):=by
 by_cases a:conn<1
 ·left;exact⟨by unfold Zcv;rw[if_pos a],by unfold Zb1;rw[if_pos a]⟩
 cases hq:s.all.findIdx? (fun f=>f.conn==conn)with
 |some i=>
  right;left
  obtain⟨f,k,d,c⟩:=Zjy hq
  obtain⟨p,g⟩:=h.fp k
  refine⟨i,f,p,k,g,by simpa using d,by omega,?_,?_⟩
  ·unfold Zcv;rw[if_neg a,c]
  ·unfold Zb1;rw[if_neg a,hq];dsimp only;rw[g]
 |none=>
  have l:=Ziz hq
  cases hq2:s.pres.findIdx? (fun f=>f.conn==conn)with
  |some j=>
   right;right
   obtain⟨x,hx,d,c⟩:=Zjy hq2
   obtain⟨q,e⟩:=h.qp hx
   refine⟨j,x,q,hx,e,by simpa using d,by omega,?_,?_⟩
   ·unfold Zcv;rw[if_neg a,l];dsimp only;rw[c]
   ·unfold Zb1;rw[if_neg a,hq];dsimp only;rw[hq2];dsimp only;rw[e]
  |none=>
   left
   have m:=Ziz hq2
   refine⟨?_,?_⟩
   ·unfold Zcv;rw[if_neg a,l];dsimp only;rw[m]
   ·unfold Zb1;rw[if_neg a,hq];dsimp only;rw[hq2]
def Zga (P:Ym) (s:Ze) (conn:Int) (r:Value×Int):Prop:=
 (∃c,c≠0∧Zcj s conn=(none,c)∧r=(.pointer none,c))∨
 (∃(i:Nat) (f:ZC) (p:Nat),s.all[i]? =some f∧P.fps[i]? =some p∧f.conn=conn∧f.state=5∧Zcj s conn=(some f,0)∧r=(.pointer (some ⟨p,0,none⟩),0))
theorem Zi1 (h:Zh w b P lk s va vp vl F) (hma:s.all.length≤1000000) (hmp:s.pres.length≤1000000) (conn:Int):
  Calls Tryz.prog 86 #[.pointer (some ⟨b,0,none⟩), .int .i64 conn] w fun e w'=>∃r,e= .returned (.tuple #[r.1, .int .i64 r.2])∧Zga P s conn r∧w'=w:=by
 have d:=D (Zhp h hma hmp conn)
 rcases Zhs h conn with⟨u1,u2⟩|⟨i,f,p,m,o,l,J,u1,u2⟩|⟨j,x,q,hx,E,l,J,u1,u2⟩
 ·have c:=D (show Zga P s conn (.pointer none,11)from .inl ⟨11,by decide,by unfold Zcj;rw[u1];rfl,rfl⟩)
  have k:=D (show Calls Tryz.prog 79 #[.pointer (some ⟨b,0,none⟩), .int .i64 conn] w fun e w'=>e= .returned (.tuple #[.pointer none, .pointer none])∧w'=w by have q:=d.out;rw[u2]at q;exact q)
  clear h u1 u2 d
  go_in
  go_wp2_with fail
  refine k.out.mono ?_
  rintro e W ⟨rfl,a⟩
  rw[a]
  clear a W
  go_wp2_with fail
  go_ret2
  exact⟨(.pointer none,11),rfl,c.out,rfl⟩
 ·obtain⟨L,K,t,_⟩:=h.life o m
  have z:=D (Za0 t)
  have k:=D (show Calls Tryz.prog 79 #[.pointer (some ⟨b,0,none⟩), .int .i64 conn] w fun e w'=>e= .returned (.tuple #[.pointer (some ⟨p,0,none⟩), .pointer none])∧w'=w by have q:=d.out;rw[u2]at q;exact q)
  have y:=D (show Zcj s conn=if f.state=5 then(some f,0)else(none,12)by unfold Zcj;rw[u1];rfl)
  obtain⟨I,g⟩:=Je f.state
  have C:=D m;have H:=D o;have G:=D l
  clear h u1 u2 d t m o l;change Hid _ at g
  go_in
  go_wp2_with fail
  refine k.out.mono ?_
  rintro e W ⟨rfl,a⟩
  rw[a]
  clear a W
  go_wp2_with fail
  have q:=z.out
  rw[←g.out]at q
  refine q.mono ?_
  rintro e W ⟨rfl,a⟩
  rw[←a]
  clear a W q
  by_cases n:I=5
  ·have c:=D (show Zga P s conn (.pointer (some ⟨p,0,none⟩),0)from .inr ⟨i,f,p,C.out,H.out,G.out,g.symm.trans n,y.trans (if_pos (g.symm.trans n)),rfl⟩)
   go_wp2_with fail
   go_ret2
   exact⟨(.pointer (some ⟨p,0,none⟩),0),rfl,c.out,rfl⟩
  ·have c:=D (show Zga P s conn (.pointer none,12)from .inl ⟨12,by decide,y.trans (if_neg (by rw[←g.out];exact n)),rfl⟩)
   go_wp2_with fail
   go_ret2
   exact⟨(.pointer none,12),rfl,c.out,rfl⟩
 ·have c:=D (show Zga P s conn (.pointer none,12)from .inl ⟨12,by decide,by unfold Zcj;rw[u1];rfl,rfl⟩)
  have k:=D (show Calls Tryz.prog 79 #[.pointer (some ⟨b,0,none⟩), .int .i64 conn] w fun e w'=>e= .returned (.tuple #[.pointer none, .pointer (some ⟨q,0,none⟩)])∧w'=w by have q:=d.out;rw[u2]at q;exact q)
  clear h u1 u2 d hx E l
  go_in
  go_wp2_with fail
  refine k.out.mono ?_
  rintro e W ⟨rfl,a⟩
  rw[a]
  clear a W
  go_wp2_with fail
  go_ret2
  exact⟨(.pointer none,12),rfl,c.out,rfl⟩
end
end Go.Proofs.YtlhapbopmplngaaGreatDoor
namespace Go.Lk
theorem Zrz {s:Ze} {i:Nat} {f:ZC} (hid:f.id=(i:Int)+1) (hf:s.all[i]? =some f) (g:ZC→ZC):setF s f.id g={s with all:=s.all.set i (g f)}:=by
 have h:=YQ hf g
 rw[←hid]at h
 exact h
theorem Zr4 {st:ZaP} (h:(Za9 st).2≠0):(Za9 st).1=st:=by
 unfold Za9 at h⊢
 split
 ·rfl
 ·rename_i a
  rw[if_neg a]at h
  exact absurd rfl h
theorem Zpz {s:Ze} {i:Nat} {st:ZaP} (hf:s.all[i]? =some f) (hb:f.body=some st):({s with all:=s.all.set i {f with body:=some st}}:Ze)=s:=by
 have e:({f with body:=some st}:ZC)=f:=by rw[←hb]
 rw[e,ZkJ hf]
end Go.Lk
namespace Go.Proofs.YtlhapbopmplngaaGreatDoor
open Go.RowKit Go.Lk
section
variable {w:World} {b:Nat} {P:Ym} {lk:Option Nat} {s:Ze} {va vp vl:Value} {F:List Nat}
theorem Zh.body (h:Zh w b P lk s va vp vl F) {i p:Nat} {st:ZaP} (hp:P.fps[i]? =some p) (hf:s.all[i]? =some f) (hb:f.body=some st):
  ∃vb G,w.cell? ⟨p,18,none⟩=some vb∧Zao vb (some st) w G∧(∀k∈G,k∈F)∧∀(w1:World) (st1:ZaP),Zao vb (some st1) w1 G→Zg G w w1→
   ∃F1,Zh w1 b P lk {s with all:=s.all.set i {f with body:=some st1}} va vp vl F1∧Zi w w1 F F1:=by
 obtain⟨r,o,vb,q,m,a,c,d⟩:=h.fetch hp hf
 refine⟨vb,m,Zf (i:=18) a.blk rfl,by rw[←hb];exact a.body,fun k g=>c k (by simp[g]),fun w1 st1 e j=> ?_⟩
 obtain⟨n,l⟩:=a.setBody (some st1) j e
 exact d _ _ lk _ _ _ _ _ (fun _ _=>rfl) n l
theorem Zkk (hfit:ZQ s n m) {i:Nat} (hf:s.all[i]? =some f) (h5:f.state=5):∃st,f.body=some st:=by
 have:=(hfit.fs f (Xc hf)).body h5
 cases hb:f.body with
 |none=>exact absurd hb this
 |some st=>exact⟨st,rfl⟩
end
section
variable {w:World} {b:Nat} {P:Ym} {s:Ze} {va vp vl:Value} {F:List Nat}
def Zcn (b:Nat) (P:Ym) (s:Ze) (c:Int) (va:Value) (w:World) (F:List Nat) (e:Ending) (w':World):Prop:=
 e= .returned (.int .i64 c)∧∃qps' vp' vl' F',Zh w' b {P with qps:=qps'} none s va vp' vl' F'∧Zi w w' F F'
theorem Zcn.of_same (h:Zh w' b P none s va vp vl F') (g:Zi w w' F F'):Zcn b P s c va w F (.returned (.int .i64 c)) w':=
 ⟨rfl,P.qps,vp,vl,F',h,g⟩
theorem ZQ.setBody (h:ZQ s n m) {i:Nat} (hf:s.all[i]? =some f) (st:ZaP):ZQ {s with all:=s.all.set i {f with body:=some st}} n m:=by
 have a:=h.body ((i:Int)+1) st
 rw[YQ hf]at a
 exact a
theorem Safe.setBody (h:Lk.Safe s) {i:Nat} (hf:s.all[i]? =some f) (st:ZaP):Lk.Safe {s with all:=s.all.set i {f with body:=some st}}:=by
 have a:=h.setF ((i:Int)+1) (g:=fun f=>{f with body:=some st}) (fun f=>rfl)
 rw[YQ hf]at a
 exact a
theorem Zm4 (h:Zh w b P none s va vp vl F) (hfit:ZQ s n m) (hs:Lk.Safe s) (hn:n≤700000) (hm:m≤900000) (conn:Int):
  Calls Tryz.prog 32 #[.pointer (some ⟨b,0,none⟩), .int .i64 conn] w (Zcn b P (tailS s conn).1 (tailS s conn).2 va w F):=by
 obtain⟨R,l⟩:=Je (tailS s conn)
 rw[←l]
 have hq:=Zi1 h (by have:=hfit.all;omega) (by have:=hfit.pres;omega) conn
 have HQ:=D hq;have H:=D h;have y:=D hfit;have HS:=D hs
 clear hq h hfit hs;change Hid _ at l
 go_in
 go_wp2_with fail
 refine HQ.out.mono ?_
 rintro e W ⟨r,rfl,ag,k⟩
 rw[k]
 clear k W
 rcases ag with⟨cd,ar,j,rfl⟩|⟨i,f,p,c,Y,hc,h5,j,rfl⟩
 ·have g:=D (show R=(s,cd)by rw[l.out];unfold tailS;rw[j])
  clear j
  dsimp only
  go_wp2_with fail
  go_ret
  rw[g.out]
  exact Zcn.of_same H (Zi.refl _ _)
 ·dsimp only
  obtain⟨st,x⟩:=Zkk y c h5
  obtain⟨vb,G,ah,aa,ai,ac⟩:=H.body Y c x
  obtain⟨r,t⟩:=Je (Za9 st)
  have E:=HS.out.1 i f c
  have z:=D (show R=if r.2≠0 then(s,r.2)else
    let s1:=ZI {s with all:=s.all.set i {f with body:=some r.1}} 13 f.id 0 conn 0
    (if ZcZ r.1 then overS s1 f.id 6 else s1,0)by
   rw[l.out];unfold tailS;rw[j];dsimp only;rw[x];dsimp only;rw[Zrz E c,←t])
  have O:=ZpV aa
  rw[←t]at O
  have M:=D (show r.2≠0→({s with all:=s.all.set i {f with body:=some r.1}}:Ze)=s from fun h=>by rw[t]at h⊢;rw[Zr4 h];exact Zpz c x)
  have o:=D O;have L:=D ac;have T:=D c;have V:=D Y;have al:=D E
  clear j hc h5 x aa ai ac O t c Y E
  obtain⟨a,r2⟩:=r
  dsimp only at z o M
  go_wp2_with fail
  refine o.out.mono ?_
  rintro e w2 ⟨rfl,C,N⟩
  obtain⟨F2,d,q⟩:=L.out w2 a C N
  by_cases ae:r2=0
  ·have g:=D (z.trans (if_neg (by omega)))
   have J:=ZM (f':={f with body:=some a}) T.out
   obtain⟨av,ao,ap,Z,_⟩:=d.fcell V J
   have k0:=Jx 0 Z
   have S:=D d;have X:=D q;have af:=D J
   clear d q Z C N o L J
   go_wp2_with fail
   refine(Y0 S (Xj y.log (by omega)) _ _ _ _ _ _ _).mono ?_
   rintro e w3 ⟨rfl,aw,F3,Q,g3⟩
   obtain⟨au,G3,am,ab,_,_⟩:=Q.body (s:=ZI {s with all:=s.all.set i {f with body:=some a}} 13 f.id 0 conn 0) V af rfl
   have H3:=D Q;have ad:=D (X.trans g3)
   have aj:=D (Zpy ab)
   clear Q g3 ab k0 ah
   go_wp2_with fail
   refine aj.out.mono ?_
   rintro e W ⟨rfl,k⟩
   rw[k]
   clear k W
   cases hpa:ZcZ a with
   |false=>
    have K:=D (g.trans (show _=(ZI {s with all:=s.all.set i {f with body:=some a}} 13 f.id 0 conn 0,(0:Int))by rw[hpa];rfl))
    go_wp2_with fail
    go_ret
    rw[K.out]
    exact Zcn.of_same H3 ad.out
   |true=>
    have K:=D (g.trans (show _=(overS (ZI {s with all:=s.all.set i {f with body:=some a}} 13 f.id 0 conn 0) f.id 6,(0:Int))by rw[hpa];rfl))
    have I:=Zd2 H3 ((ZQ.setBody y T a).tell 13 f.id 0 conn 0) ((Safe.setBody HS T a).tell 13 f.id 0 conn 0) (by omega) hm V (f:={f with body:=some a}) af 6 (by omega)
    rw[←al.out]at I
    have ak:=D I
    clear I
    go_wp2_with fail
    refine ak.out.mono ?_
    rintro e w4 ⟨rfl,q4,aq,an,F4,h4,g4⟩
    have H4:=D h4;have G4:=D (ad.trans g4)
    clear h4 g4
    go_wp2_with fail
    go_ret
    rw[K.out]
    exact⟨rfl,_,_,_,_,H4.out,G4.out⟩
  ·have g:=D (z.trans (if_pos ae))
   rw[M.out ae]at d
   have S:=D d;have X:=D q
   clear d q C N o L M
   go_wp2_with fail
   go_ret
   rw[g.out]
   exact Zcn.of_same S X.out
end
def Z1 (t:Zal) (v:Value):List Value:=[.int .i64 t.code, .int .i64 t.id, .int .i64 t.n,v]
def Yj:Zu Tryz.prog 31 4=true:=by kernel_rfl
def ZnQ (b:Nat) (P:Ym) (s:Ze) (t:Zal) (va:Value) (w:World) (F:List Nat) (e:Ending) (w':World):Prop:=
 ∃v,e= .returned (.agg (Z1 t v).toArray)∧ZbD w' v t.bytes∧∃qps' vp' vl' F',Zh w' b {P with qps:=qps'} none s va vp' vl' F'∧Zi w w' F F'∧∀k,v.ownBlock=some k→w.heap.size≤k∧k∉F'
structure Za7 (w:World) (L:Nat) (F:List Nat):Prop where
 blk:w.heap[L]? =some (.cells #[.int .i64 0, .int .i64 0, .int .i64 0, .slice none 0 0] 31 (0,0))
 off:L∉F
def Za7.step (h:Za7 w L F) (g:Zi w w1 F F1):Za7 w1 L F1:=by
 obtain⟨b,a⟩:=g.off (Jg h.blk) h.off
 exact⟨b.trans h.blk,a⟩
def Za7.upd0 (h:Za7 w L F) (hu:Zg [] w w1):Za7 w1 L F:=h.step ⟨hu.weaken (by simp),fun k hk=> .inl hk⟩
def YV (t:Zal) (v:Value) (hv:v.oneCell'=true):(Z1 t v).toArray.all (·.oneCell')=true:=by
 rw[Xl,Xk]
 intro x hx
 simp only[Z1,List.mem_cons,List.not_mem_nil,or_false]at hx
 rcases hx with rfl|rfl|rfl|rfl<;>first|rfl|exact hv
def ZaU {w W we:World} {P:Ym} (q:List Nat) (h:Zh W b {P with qps:=q} none s va vp vl F1) (g:Zi w W F F1) (hb:Za7 W L F1) (he:we=W.setRow L (Z1 t v).toArray)
  (hv:ZbD W v t.bytes) (hn:∀k,v.ownBlock=some k→w.heap.size≤k∧k∉F1∧k≠L) (hL:w.heap.size≤L):
  we.heap[L]? =some (.cells (Z1 t v).toArray 31 (0,0))∧ZnQ b P s t va w F (.returned (.agg (Z1 t v).toArray)) we:=by
 have c:=Kg he
 have f:we.heap[L]? =some (.cells (Z1 t v).toArray 31 (0,0)):=by rw[he];exact setRow_heap _ _ _ _ _ _ hb.blk
 have e:∀k∈F1,k∉[L]:=fun k a d=>hb.off (by rw[Jm d]at a;exact a)
 refine⟨f,v,rfl,hv.upd c (fun k a d=>(hn k a).2.2 (Jm d)),q,vp,vl,F1,h.upd c e,⟨g.upd.trans c (fun k a=> .inl (by rw[Jm a];exact hL)),g.new⟩,fun k a=>⟨(hn k a).1,(hn k a).2.1⟩⟩
def Zap (w:World):ZbD w (.slice none 0 0) []:=⟨none,0,rfl,Xi _,fun j x hj=>by cases hj⟩
end Go.Proofs.YtlhapbopmplngaaGreatDoor
namespace Go.Lk
theorem Zmk (f:Nat) (s:Ze) (c:Int) (h:Go.Proofs.YtlhapbopmplngaaGreatDoor.dueT s.timers s.now=none):lateS f s c=(s,c):=by
 unfold Go.Proofs.YtlhapbopmplngaaGreatDoor.dueT at h
 cases f with
 |zero=>rfl
 |succ f=>
  unfold lateS
  cases hq:Zbr s.timers with
  |none=>rfl
  |some t=>
   rw[hq]at h
   dsimp only at h⊢
   by_cases a:s.now<t.due
   ·rw[if_pos a]
   ·rw[if_neg a]at h;cases h
theorem Zmx {f:Nat} {s:Ze} (h:Go.Proofs.YtlhapbopmplngaaGreatDoor.dueT s.timers s.now=some t):lateS (f+1) s c=lateS f (overS {s with timers:=s.timers.filter fun x=>x.id !=t.id} t.tag 10) (c+1):=by
 unfold Go.Proofs.YtlhapbopmplngaaGreatDoor.dueT at h
 rw[show lateS (f+1) s c=(match Zbr s.timers with
  |none=>(s,c)
  |some t=>if s.now<t.due then(s,c)else lateS f (overS {s with timers:=s.timers.filter fun x=>x.id !=t.id} t.tag 10) (c+1))from rfl]
 cases hq:Zbr s.timers with
 |none=>rw[hq]at h;cases h
 |some x=>
  rw[hq]at h
  dsimp only at h⊢
  by_cases a:s.now<x.due
  ·rw[if_pos a]at h;cases h
  ·rw[if_neg a]at h;cases h;rw[if_neg a]
theorem ZrI {now:Nat} (h:Go.Proofs.YtlhapbopmplngaaGreatDoor.dueT l now=some t):t∈l:=by
 unfold Go.Proofs.YtlhapbopmplngaaGreatDoor.dueT at h
 cases hq:Zbr l with
 |none=>rw[hq]at h;cases h
 |some x=>
  rw[hq]at h
  dsimp only at h
  split at h
  ·cases h
  ·cases h;exact(Go.Proofs.YtlhapbopmplngaaGreatDoor.firstT_min hq).1
theorem Zlo {l:List Zv} {t:Zv} (h:t∈l):(l.filter fun x=>x.id !=t.id).length<l.length:=by
 induction l with
 |nil=>cases h
 |cons a l ih=>
  rw[List.filter_cons]
  split
  ·rename_i ha
   rcases List.mem_cons.1 h with rfl|h
   ·simp at ha
   ·simp only[List.length_cons];have:=ih h;omega
  ·simp only[List.length_cons];have:=Xq (fun x=>x.id !=t.id) l;omega
end Go.Lk
namespace Go.Proofs.YtlhapbopmplngaaGreatDoor
open Go.RowKit Go.Lk
section
variable {w:World} {b:Nat} {P:Ym} {s:Ze} {va vp vl:Value} {F:List Nat}
structure ZmF (b:Nat) (P:Ym) (va:Value) (w:World) (F:List Nat) (wr:World) (n m T f:Nat) (r0:Ze×Int) (sc:Ze) (c:Int) (now al:Nat) (q:List Nat) (vp vl:Value) (F1:List Nat):Prop where
 at_:Zh wr b {P with qps:=q} none sc va vp vl F1
 grows:Zi w wr F F1
 fit:ZQ sc (n+2*(T-f)) m
 safe:Lk.Safe sc
 res:r0=lateS f sc c
 few:sc.timers.length≤f
 le:f≤T
 cc:c=(T:Int)-f
 now_:sc.now=now
 len:sc.all.length=al
theorem Znh (h:Zh w b P none s va vp vl F) (hfit:ZQ s n m) (hs:Lk.Safe s) (hn:n≤700000) (hm:m≤900000) (k:Nat) (hk:k≤18446744073709551615):
  Calls Tryz.prog 28 #[.pointer (some ⟨b,0,none⟩), .int .u64 k] w (Zcn b P (tickS s k).1 (tickS s k).2 va w F):=by
 obtain⟨R,S⟩:=Je (tickS s k)
 rw[←S]
 obtain⟨now,l⟩:=Je (addT s.now k)
 obtain⟨T,E⟩:=Je s.timers.length
 obtain⟨r0,L⟩:=Je (lateS T {s with now:=now} 0)
 have aB:=D (show R=({r0.1 with pool:=expireP r0.1.pool r0.1.now},r0.2)by rw[S,L,l,E];rfl)
 have c7:=Jx 7 h.blk.1
 obtain⟨aj,_,aa⟩:=h.clock
 have Q:=ZoW aj k hk
 rw[←l]at Q
 have ak:=hfit.all
 have af:=hfit.tm
 have ag:=D Q;have an:=D aa;have HT:=D E
 have ax:=D (show ZQ {s with now:=now} n m from{hfit with now:=by rw[l];exact ZhX _ _})
 have HS:=D (show Lk.Safe {s with now:=now}from hs)
 have aD:=D (show T≤256 by rw[E];exact af)
 obtain⟨al,J⟩:=Je s.all.length
 have aK:=D (show al≤m by rw[J];exact ak)
 have aG:=D (show now≤18446744073709551615 by rw[l];exact ZhX _ _)
 clear S l E aj aa Q hfit hs h ak af;change Hid _ at L J
 go_in
 go_wp2_with fail
 refine ag.out.mono ?_
 rintro e w1 ⟨rfl,Y,ao⟩
 obtain⟨F1,I,g1⟩:=an.out w1 now Y ao
 have a:=D (show ZmF b P va w F w1 n m T T r0 {s with now:=now} 0 now al P.qps vp vl F1 from⟨I,g1,ax.out.mono (by omega) (Xi _),HS.out,L.out,by show s.timers.length≤T;rw[HT.out];exact Xi _,Xi _,by omega,rfl,J.symm⟩)
 clear I g1 Y ao c7 ag an
 go_wp2_with fail
 go_loopw[6] (fun s6 wr=>∃(f:Nat) (sc:Ze) (c:Int) (q:List Nat) (vp1 vl1:Value) (F1:List Nat),s6= .int .i64 c∧Hid (ZmF b P va w F wr n m T f r0 sc c now al q vp1 vl1 F1)) (fun s6 _=>T-(intOf s6).toNat)
 case atStart=>exact⟨T,{s with now:=now},0,P.qps,vp,vl,F1,rfl,a⟩
 case round=>
  clear a
  obtain⟨f,sc,c,q,vp1,vl1,F2,rfl,a⟩:=hrel
  rename_i wr
  have ap:=Jx 11 a.at_.blk.1
  obtain⟨G,ad,_,X⟩:=a.at_.wheel
  have ah:=D ad;have az:=D X
  clear ad X
  cases hd:dueT sc.timers now with
  |none=>
   have M:=D (Zh8 ah (Xj a.fit.tm (by omega)) now hd)
   have O:=D (a.res.trans (Zmk f sc c (by rw[a.now_];exact hd)))
   clear hd
   go_wp2_with fail
   refine M.out.mono ?_
   rintro e w2 ⟨rfl,d⟩
   have z:=a.at_.upd0 d
   have c8:=Jx 8 z.blk.1
   obtain⟨GP,r,_,Z⟩:=z.pool
   have H:=D r;have aC:=D Z;have aE:=D d
   clear z r Z d ap
   go_wp2_with fail
   refine(Zhf H now).mono ?_
   rintro e w3 ⟨cv,rfl,ar,aq⟩
   obtain⟨F3,j,o⟩:=aC.out w3 _ _ ar (Zi.of_upd aq)
   have C:=D j;have N:=D ((a.grows.upd0 aE).trans o)
   clear j o ar aq c8
   go_wp2_with fail
   go_ret
   have er:R=({sc with pool:=expireP sc.pool now},c):=by rw[aB.out,O.out,←a.now_]
   rw[er]
   exact⟨rfl,q,vp1,vl1,F3,C.out,N.out⟩
  |some t=>
   have M:=D (Zij ah (Xj a.fit.tm (by omega)) now hd)
   have y:=ZrI hd
   have ay:0<sc.timers.length:=List.length_pos_of_mem y
   obtain⟨g,rfl⟩:∃g,f=g+1:=⟨f-1,by have:=a.few;omega⟩
   have O:=D (a.res.trans (Zmx (by rw[a.now_];exact hd)))
   have av:=a.safe.2.tags t y
   have V:=Zlo y
   obtain⟨i,hi⟩:∃i:Nat,t.tag=(i:Int)+1:=⟨(t.tag-1).toNat,by omega⟩
   have am:i<sc.all.length:=by omega
   obtain⟨ff,hf⟩:∃ff,sc.all[i]? =some ff:=⟨_,Xa am⟩
   have HF:=D hf;have HI:=D hi;have au:=D V
   clear hd y ay av V hf hi am
   go_wp2_with fail
   refine M.out.mono ?_
   rintro e w2 ⟨rfl,ab,d⟩
   obtain⟨F3,j,o⟩:=az.out w2 _ sc.tlast _ ab (Zi.of_upd d)
   obtain⟨p,r⟩:=j.fp (s:={sc with timers:=sc.timers.filter (fun x=>x.id !=t.id),tlast:=sc.tlast}) HF.out
   have C:=D j;have H:=D r
   have K:=D (show ZQ {sc with timers:=sc.timers.filter (fun x=>x.id !=t.id),tlast:=sc.tlast} (n+2*(T-(g+1))) m from{a.fit with tm:=Xj (Xq _ _) a.fit.tm})
   have ac:=D (show Lk.Safe {sc with timers:=sc.timers.filter (fun x=>x.id !=t.id),tlast:=sc.tlast}from⟨a.safe.1,a.safe.2.timers (fun x hx=> .inl (List.mem_filter.1 hx).1)⟩)
   have N:=D (a.grows.trans o)
   clear j r ab d o ap
   rw[HI.out]
   go_wp2_with fail
   refine(Yt C (by have:=K.all;dsimp only at this⊢;omega) H _ rfl).mono ?_
   rintro e W ⟨rfl,hW⟩
   rw[hW]
   clear hW W
   go_wp2_with fail
   have aF:=a.le
   have aA:=aD.out
   refine(Zd2 C K ac (by omega) hm H HF 10 (by omega)).mono ?_
   rintro e w4 ⟨rfl,q4,ai,ae,F4,h4,g4⟩
   have aJ:=a.cc
   have hk:=Zhq {sc with timers:=sc.timers.filter (fun x=>x.id !=t.id),tlast:=sc.tlast} ((i:Int)+1) 10
   have aw:=D (show ZmF b P va w F w4 n m T g r0 (overS {sc with timers:=sc.timers.filter (fun x=>x.id !=t.id),tlast:=sc.tlast} ((i:Int)+1) 10) (c+1) now al q4 ai ae F4 from
    ⟨h4,N.trans g4,(K.over _ 10 (by omega)).mono (by omega) (Xi _),ac.overS _ _,by rw[O.out,HI.out],by have I:=hk.2.2.1;have z:=au.out;have h5:=a.few;dsimp only at I;omega,by omega,by omega,by rw[hk.2.1];exact a.now_,by rw[hk.1];exact a.len⟩)
   have aI:0≤c:=by omega
   have aH:c≤256:=by omega
   clear h4 g4 hk aF aA
   go_wp2_with fail
   refine⟨⟨g,_,c+1,q4,ai,ae,F4,by go_num,aw⟩,?_⟩
   simp[intOf];omega
end
end Go.Proofs.YtlhapbopmplngaaGreatDoor
namespace Go.Lk
def ZgK (s:Ze) (l:List Int) (st:Int):Ze:=l.foldl (fun a id=>overS a id st) s
theorem Zlf {l:List Int} {st:Int} {k:Nat} (h:l[k]? =some x):ZgK s (l.take (k+1)) st=overS (ZgK s (l.take k) st) x st:=by
 unfold ZgK
 rw[List.take_add_one,h]
 simp
end Go.Lk
namespace Go.Proofs.YtlhapbopmplngaaGreatDoor
open Go.RowKit Go.Lk
structure ZdT (b:Nat) (P:Ym) (va:Value) (w:World) (F:List Nat) (wr:World) (n m:Nat) (s0:Ze) (l:List Int) (st:Int) (kk:Nat) (v:Value) (M:List Nat) (sc:Ze) (q:List Nat) (vp vl:Value) (F1:List Nat):Prop where
 at_:Zh wr b {P with qps:=q} none sc va vp vl F1
 grows:Zi w wr F F1
 fit:ZQ sc (n+2*kk) m
 safe:Lk.Safe sc
 res:sc=ZgK s0 (l.take kk) st
 len:sc.all.length=s0.all.length
 row:Z6 v l wr M
 ap:Z8 F1 M
 vals:∀x∈l,1≤x∧x≤s0.all.length
theorem ZdT.elem {wr:World} {st:Int} {kk:Nat} {sc:Ze}
  (h:ZdT b P va w F wr n m s0 l st kk v M sc q vp vl F1) (hk:kk<l.length):∃(i p:Nat) (f:ZC),l[kk]? =some ((i:Int)+1)∧sc.all[i]? =some f∧P.fps[i]? =some p∧∃g c,v= .slice (some ⟨g,0,none⟩) l.length c∧wr.cell? ⟨g,kk,none⟩=some (.int .i64 ((i:Int)+1)):=by
 have hx:=Xa hk
 have hv:=h.vals _ (Xc hx)
 obtain⟨i,o⟩:∃i:Nat,l[kk]=(i:Int)+1:=⟨(l[kk]-1).toNat,by omega⟩
 rw[o]at hx
 have k:i<sc.all.length:=by rw[h.len];omega
 have a:=Xa k
 obtain⟨p,r⟩:=h.at_.fp a
 obtain⟨g,c,e,_,d⟩:=h.row.cell (j:=kk) (i:=0) (c:=Zcl ((i:Int)+1)) (by rw[Xe,hx];rfl) rfl
 rw[Xb]at e
 rw[Nat.mul_one,Nat.add_zero]at d
 exact⟨i,p,_,hx,a,r,g,c,e,d⟩
theorem ZdT.next {wr w':World} {st:Int} {kk:Nat} {sc:Ze} {q q':List Nat} {vp vl vp' vl':Value} {i:Nat}
  (h:ZdT b P va w F wr n m s0 l st kk v M sc q vp vl F1) (hst:st≠5) (hx:l[kk]? =some ((i:Int)+1)) (h':Zh w' b {P with qps:=q'} none (overS sc ((i:Int)+1) st) va vp' vl' F') (g':Zi wr w' F1 F'):
  ZdT b P va w F w' n m s0 l st (kk+1) v M (overS sc ((i:Int)+1) st) q' vp' vl' F':=by
 obtain⟨a,c⟩:=YD.frame (ZJ v l) h.row h.ap g'
 exact⟨h',h.grows.trans g',(h.fit.over _ st hst).mono (by omega) (Xi _),h.safe.overS _ _,by rw[Zlf hx,←h.res],by rw[(Zhq sc _ st).1];exact h.len,a,c,h.vals⟩
theorem ZmE {L:List YD} (hL:∀A∈L,A.Local) (h:YD.list L w F) {i:Nat} (hi:L[i]? =some A):
  ∃G,A w G∧(∀k∈G,k∈F)∧∀w1 A1 G1,A1 w1 G1→Zi w w1 G G1→∃F1,YD.list (L.set i A1) w1 F1∧Zi w w1 F F1∧∀k∈F1,(k∈F∧k∉G)∨k∈G1:=by
 obtain⟨o,G,rfl,h,c,ha,d⟩:=YD.list_get h hi
 refine⟨G,ha,d,fun w1 A1 G1 m hg=> ?_⟩
 obtain⟨f,l⟩:=h.step hL c m hg
 refine⟨_,⟨_,rfl,f⟩,l,fun k a=> ?_⟩
 obtain⟨j,H,b,a⟩:=YE a
 by_cases e:i=j
 ·subst e
  rw[List.getElem?_set_self (Jk c)]at b
  cases b;exact .inr a
 ·rw[Xt e]at b
  exact .inl ⟨Zr b a,fun n=>h.apart j i _ _ b c (fun g=>e g.symm) k a n⟩
section
variable {w:World} {b:Nat} {P:Ym} {s:Ze} {va vp vl:Value} {F:List Nat}
theorem Zh.step3 (h:Zh w b P lk s va vp vl F) {k:Nat} (hk:(ZV b P lk s va vp vl)[k]? =some A):
  ∃G,A w G∧(∀q∈G,q∈F)∧∀(w1:World) (A1:YD) (G1:List Nat) (s':Ze),A1 w1 G1→Zi w w1 G G1→ZV b P lk s' va vp vl=(ZV b P lk s va vp vl).set k A1→
   P.fps.length=s'.all.length→P.qps.length=s'.pres.length→∃F1,Zh w1 b P lk s' va vp vl F1∧Zi w w1 F F1∧∀k∈F1,(k∈F∧k∉G)∨k∈G1:=by
 obtain⟨G,l,e,i⟩:=ZmE (Yc _ _ _ _ _ _ _) h.lay hk
 refine⟨G,l,e,fun w1 A1 G1 s' ha hg f j g=> ?_⟩
 obtain⟨F1,d,c,a⟩:=i w1 A1 G1 ha hg
 rw[←f]at d
 refine⟨F1,⟨d,j,g,fun k hk=> ?_⟩,c,a⟩
 rcases c.new k hk with a|a
 ·exact h.two k a
 ·have m:=h.two b h.blk.2;have n:=h.lt b h.blk.2;omega
end
end Go.Proofs.YtlhapbopmplngaaGreatDoor
namespace Go.Lk
theorem ZbK (s:Ze) (x:ZG) (keep:Bool):(forgetS s x keep).shares=s.shares∧(forgetS s x keep).slast=s.slast:=by
 unfold forgetS
 dsimp only
 split<;>exact⟨rfl,rfl⟩
theorem Zmh {s:Ze} {x:ZG} {o:ZE} (hq:s.shares.findIdx? (fun o=>o.num==x.num)=some k) (ho:s.shares[k]? =some o) (state n:Int):
  failedS s x state n=ZgK {forgetS (ZI s 7 (o.members.headD 0) x.num x.conn n) x (state==8)with shares:=s.shares.eraseIdx k} o.members state:=by
 unfold failedS ZgK
 obtain⟨y,b,c,a⟩:=Zjy hq
 have:y=o:=by rw[b]at ho;exact Option.some.inj ho
 subst this
 rw[a]
 dsimp only[Option.map_some,Option.getD_some]
 rw[(ZbK _ _ _).1]
 dsimp only[ZI]
 rw[hq]
 dsimp only
 rw[Z7]
end Go.Lk
namespace Go.Proofs.YtlhapbopmplngaaGreatDoor
open Go.RowKit Go.Lk
section
variable {w:World} {b:Nat} {P:Ym} {s:Ze} {va vp vl:Value} {F:List Nat}
theorem Zdq (h:Z6 v l w M) (hl:l≠[]):∃g c,v= .slice (some ⟨g,0,none⟩) l.length c∧0<l.length∧l.length≤c∧w.cell? ⟨g,0,none⟩=some (.int .i64 (l.headD 0)):=by
 cases l with
 |nil=>exact absurd rfl hl
 |cons a l=>
  obtain⟨g,c,d,b,e⟩:=h.cell (j:=0) (i:=0) (c:=Zcl a) rfl rfl
  rw[Xb]at d b
  exact⟨g,c,d,by simp,b,e⟩
theorem Zj7 (h:Zh w b P none s va vp vl F) (hfit:ZQ s n m) (hs:Lk.Safe s) (hn:n≤600000) (hm:m≤10000) {j q:Nat} (hq:P.qps[j]? =some q) (hx:s.pres[j]? =some x) (st c0:Int) (hst:6≤st∧st≤10):
  Calls Tryz.prog 90 #[.pointer (some ⟨b,0,none⟩), .pointer (some ⟨q,0,none⟩), .int .i64 st, .int .i64 c0] w (ZjB b P none (failedS s x st c0) va w F):=by
 obtain⟨R,hR⟩:=Je (failedS s x st c0)
 rw[←hR]
 obtain⟨o0,aA,av⟩:=hs.2.shs x (Xc hx)
 obtain⟨k,Q⟩:∃k,s.shares.findIdx? (fun o=>o.num==x.num)=some k:=by
  cases hc:s.shares.findIdx? (fun o=>o.num==x.num)with
  |some k=>exact⟨k,rfl⟩
  |none=>rw[List.findIdx?_eq_none_iff]at hc;have:=hc o0 aA;simp[av]at this
 obtain⟨o,ho,hop,_⟩:=Zjy Q
 have aa:=D (hR.trans (Zmh Q ho st c0))
 obtain⟨l,O⟩:=Je o.members
 have ae:=hs.2.mem o (Xc ho)
 rw[←O]at ae aa
 have aV:l.length≤64:=by
  have E:=Zf4 (Xc ho);have h2:=hfit.sh;rw[O];omega
 have bd:=h.flight hq hx
 obtain⟨w1,Y⟩:=Je w.drew
 have aj:=Jd Y
 have E:=h.upd0 aj
 have z:=Jx 14 E.blk.1
 have C:w1.cell? ⟨q,0,none⟩=some (.int .i64 x.num):=Zf (i:=0) (E.flight hq hx).1 rfl
 obtain⟨g,G,r,hg,ai,_⟩:=E.shares
 have d:g.findIdx? (fun p=>p.2.num==x.num)=some k:=by rw[←Q,←r,List.findIdx?_map];rfl
 have ak:=hfit.sn
 have ad:g.length=s.shares.length:=by rw[←r,Xb]
 have K:=Xa (Yv d)
 have ah:(g[k]'(Yv d)).2=o:=by
  have e:=congrArg (fun l=>l[k]?) r
  rw[ho]at e
  simp only[Xe,K,Option.map_some]at e
  exact Option.some.inj e
 have a3:=D (show Calls Tryz.prog 154 #[.pointer (some ⟨P.shares,0,none⟩), .int .i64 x.num] w1 (Zgm w1 l)by
  have:=Zc3 hg (by omega) x.num d K (by rw[ah,←O];omega)
  rw[ah,←O]at this;exact this)
 have H1:=D E;have HQ:=D hq;have S:=D hx;have ag:=D hfit;have HS:=D hs;have HK:=D Q;have HO:=D ho
 have aw:=D ae
 have ac:=E.lt
 have bc:=D ac
 clear hR h hfit hs hq hx aA av Q ho hop ae bd E r hg ai d ak ad K ah ac;change Hid _ at Y aj O
 go_in
 go_upto_region 0 with fail
 refine Jr [0,4,8,12,16,20,24,28,34,36] (fun W=>W.cell? ⟨b,14,none⟩=some (.pointer (some ⟨P.shares,0,none⟩))∧W.cell? ⟨q,0,none⟩=some (.int .i64 x.num)) (by rw[Y.out]at z C;exact⟨z,C⟩) ?_
 repeat first|refine Jn ?_|refine Jf ?_|refine Ju ?_
 refine JL ?_
 simp only[Xu]
 rw[←Y.out]
 go_wp2_with fail
 refine a3.out.mono ?_
 rintro e w2 ⟨v,M,rfl,T,ar,al⟩
 have aM:Z8 F M:=fun a ha hm=>by have:=ar a hm;have:=bc.out a ha;omega
 obtain⟨g0,cA,rfl,aQ,_,k2⟩:=Zdq T aw.out.1
 obtain⟨ln,Z⟩:=Je l.length
 rw[←Z]at T aQ aV⊢
 have H2:=D (H1.upd0 al);have aT:=D T;have a9:=D aM
 have bb:=Jt aj al
 obtain⟨I,aL⟩:=Je (l.headD 0)
 rw[←aL]at k2 aa
 have K2:=D k2
 clear T ar al aM z C aL k2;change Hid _ at Z
 go_wp2_with fail
 refine⟨fun _=>True,trivial,?_⟩
 repeat first|refine Jn ?_|refine Jf ?_|refine Ju ?_
 refine ZK ?_
 go_upto_region 1 with fail
 obtain⟨w3,H⟩:=Je w2.drew
 have ab:=Jd H
 have h3:=H2.upd0 ab
 have f0:w3.cell? ⟨q,0,none⟩=some (.int .i64 x.num):=Zf (i:=0) (h3.flight HQ S).1 rfl
 have f2:w3.cell? ⟨q,2,none⟩=some (.int .i64 x.conn):=Zf (i:=2) (h3.flight HQ S).1 rfl
 have kg:w3.cell? ⟨g0,0,none⟩=some (.int .i64 I):=by rw[H];exact K2.out
 have a2:=D ((ZJ _ _).upd aT ab)
 have H3:=D h3;have a6:=Jt bb ab
 clear h3 ab;change Hid _ at H
 refine Jr [0,4,8,12,16,20,24,28,32,36,40,44,48,52,58] (fun W=>W.cell? ⟨g0,0,none⟩=some (.int .i64 I)∧W.cell? ⟨q,0,none⟩=some (.int .i64 x.num)∧W.cell? ⟨q,2,none⟩=some (.int .i64 x.conn)) (by rw[H.out]at kg f0 f2;exact⟨kg,f0,f2⟩) ?_
 repeat first|refine Jn ?_|refine Jf ?_|refine Ju ?_
 refine JL ?_
 simp only[Xu]
 rw[←H.out]
 go_wp2_with fail
 refine(Y0 H3 (Xj ag.log (by omega)) _ _ _ _ _ _ _).mono ?_
 rintro e w4 ⟨rfl,ay,F4,h4,g4⟩
 obtain⟨r4,aJ⟩:=YD.frame (ZJ _ _) a2 a9 g4
 have H4:=D h4;have G4:=D (g4.pre0 a6);have aX:=D r4;have aS:=D aJ
 clear h4 g4 r4 aJ kg f0 f2 H
 go_wp2_with fail
 refine Jz ?_
 go_upto_region 2 with fail
 have an:ZQ (ZI s 7 I x.num x.conn c0) (n+1) m:=ag.tell _ _ _ _ _
 have ap:=D an
 have aI:Lk.Safe (ZI s 7 I x.num x.conn c0):=HS.tell _ _ _ _ _
 have a5:=D aI
 clear an aI
 go_wp2_with fail
 refine(Zeb H4 ap (by omega) HQ (x:=x) S HS.out.2.pn _).mono ?_
 rintro e w5 ⟨rfl,aB,F5,h5,g5,q5,e5⟩
 obtain⟨r5,az⟩:=YD.frame (ZJ _ _) aX aS g5
 have ax:w5.heap[q]? =some (.cells (ZbE x).toArray 255 (0,0)):=e5.trans (H4.flight HQ S).1
 obtain⟨w6,J⟩:=Je w5.drew
 have X:=Jd J
 have h6:=h5.upd0 X
 have C:w6.cell? ⟨q,0,none⟩=some (.int .i64 x.num):=by rw[J];exact Zf (w:=w5) (i:=0) ax rfl
 have z:=Jx 14 h6.blk.1
 have aY:=D ((ZJ _ _).upd r5 X);have aP:=D az
 have H6:=D h6;have G6:=D ((G4.trans g5).upd0 X)
 have aq:=D (ap.forget x (st==8))
 clear h5 g5 q5 e5 r5 az ax X h6;change Hid _ at J
 go_upto_region 3 with fail
 obtain⟨S5,L⟩:=Je (forgetS (ZI s 7 I x.num x.conn c0) x (st==8))
 rw[←L]at H6 aq aa
 have af:S5.shares=s.shares:=by rw[L,(ZbK _ _ _).1];rfl
 have au:S5.all=s.all:=by rw[L,ZeU];rfl
 obtain⟨g,G,r,hg,ai,aK⟩:=H6.shares
 have V:g.map (·.2)=s.shares:=r.trans af
 have d:g.findIdx? (fun p=>p.2.num==x.num)=some k:=by rw[←HK.out,←V,List.findIdx?_map];rfl
 have ad:g.length=s.shares.length:=by rw[←V,Xb]
 have ak:=ag.sn
 obtain⟨pr,K⟩:∃pr,g[k]? =some pr:=⟨_,Xa (Yv d)⟩
 have aC:=Zei hg (by omega) x.num d K
 have aN:=D aC;have aE:=D aK;have aZ:=D V
 have aD:Lk.Safe {S5 with shares:=s.shares.eraseIdx k}:=by
  have a:=a5.dropP (p:=x) (Xc S) (st==8)
  rw[←L]at a
  have e:dropO (ZI s 7 I x.num x.conn c0).shares x.num=s.shares.eraseIdx k:=by
   unfold dropO
   show(match s.shares.findIdx? (fun o=>o.num==x.num)with|some i=>Y6 s.shares i|none=>s.shares)=_
   rw[HK.out];dsimp only;rw[Z7]
  rw[e]at a;exact a
 have am:ZQ {S5 with shares:=s.shares.eraseIdx k} (n+1) m:=by
  have a:=aq.dropO x.num
  rw[af,HK.out]at a
  dsimp only at a
  rw[Z7]at a;exact a
 have a7:=D aD;have aR:=D am
 clear r V d ad ak K aC aK hg ai aD am af L;change Hid _ at au
 refine Jr [0,4,8,12,16,20,24,28,34] (fun W=>W.cell? ⟨b,14,none⟩=some (.pointer (some ⟨P.shares,0,none⟩))∧W.cell? ⟨q,0,none⟩=some (.int .i64 x.num)) (by rw[J.out]at z C;exact⟨z,C⟩) ?_
 repeat first|refine Jn ?_|refine Jf ?_|refine Ju ?_
 refine JL ?_
 simp only[Xu]
 rw[←J.out]
 go_wp2_with fail
 refine aN.out.mono ?_
 rintro e w7 ⟨rfl,G7,M7,aO,_,_,ao,_,aG⟩
 obtain⟨F7,h7,g7⟩:=aE.out w7 _ _ _ aO ⟨aG,fun a ha=> .inl (ao a ha)⟩
 rw[←Y9,aZ.out]at h7
 obtain⟨r7,aF⟩:=YD.frame (ZJ _ _) aY aP g7
 have c:=D (show ZdT b P va w F w7 (n+1) m {S5 with shares:=s.shares.eraseIdx k} l st 0 (.slice (some ⟨g0,0,none⟩) ln cA) M {S5 with shares:=s.shares.eraseIdx k} (P.qps.eraseIdx j) aB ay F7 from
  ⟨h7,G6.trans g7,aR.out,a7.out,rfl,rfl,r7,aF,fun y hy=>by rw[au.out];exact aw.out.2 y hy⟩)
 clear h7 g7 r7 aF aO ao aG z C J aN aE
 go_wp2_with fail
 refine Jz ?_
 go_wp2_with fail
 go_loopw[51] (fun s51 wr=>∃(kk:Nat) (sc:Ze) (q:List Nat) (vp1 vl1:Value) (F1:List Nat),s51= .int .i64 kk∧kk≤ln∧Hid (ZdT b P va w F wr (n+1) m {S5 with shares:=s.shares.eraseIdx k} l st kk (.slice (some ⟨g0,0,none⟩) ln cA) M sc q vp1 vl1 F1)) (fun s51 _=>ln-(intOf s51).toNat)
 case atStart=>exact⟨0,{S5 with shares:=s.shares.eraseIdx k},P.qps.eraseIdx j,aB,ay,F7,rfl,Xn _,c⟩
 case round=>
  clear c
  obtain⟨kk,sc,q1,vp1,vl1,F2,rfl,bf,c⟩:=hrel
  by_cases ac:kk<ln
  ·obtain⟨i,p,f,hx,hf,hp,g1,c1,a4,k1⟩:=c.elem (by rw[←Z.out];exact ac)
   injection a4 with N ba a0
   clear ba
   injection N with N
   injection N with N _ _
   subst N;subst a0
   have a8:=D hx;have be:=D hf;have aH:=D hp
   clear hx hf hp
   go_wp2_with fail
   refine(Yt c.at_ (by have:=c.fit.all;omega) aH _ rfl).mono ?_
   rintro e W ⟨rfl,hW⟩
   rw[hW]
   clear hW W
   go_wp2_with fail
   refine(Zd2 c.at_ c.fit c.safe (by omega) (by omega) aH be st hst).mono ?_
   rintro e w8 ⟨rfl,q8,aW,a1,F8,h8,g8⟩
   have aU:=D (c.next (by omega) a8 h8 g8)
   clear h8 g8 k1
   go_wp2_with fail
   exact⟨⟨kk+1,_,q8,aW,a1,F8,by go_num,by omega,aU⟩,by simp[intOf];omega⟩
  ·obtain rfl:kk=ln:=by omega
   have HE:=D (show R=sc by rw[aa.out,c.res,Z.out,Xm])
   go_wp2_with fail
   (try simp only[Exit.inBlock,Exit.then])
   first|refine bodyPost_ret (results_none rfl _ _ _) rfl ?_|refine bodyPost_end (results_none rfl _ _ _) rfl ?_
   rw[HE.out]
   exact⟨rfl,q1,vp1,vl1,F2,c.at_,c.grows⟩
end
end Go.Proofs.YtlhapbopmplngaaGreatDoor
namespace Go.Lk
theorem ZoI {s:Ze} {i:Nat} (hf:s.all[i]? =some f):(openS s ((i:Int)+1)).all.length=s.all.length:=by
 rw[ZhL hf]
 dsimp only
 split
 ·exact List.length_set
 ·exact List.length_set
theorem Zi2 (s:Ze) (id:Int):(activateS s id).1.all.length=s.all.length:=by
 unfold activateS
 cases hq:YN s id with
 |none=>rfl
 |some f=>
  obtain⟨i,rfl,a⟩:=Zd1 hq
  dsimp only
  split
  ·rfl
  ·exact ZoI (s:=ZI s 2 ((i:Int)+1) 0 0 0) a
def Zis (a:Ze×Int) (id:Int):Ze×Int:=match YN a.1 id with
 |some f=>if f.state=1∧f.req.cls=5 then((activateS a.1 id).1,a.2+1)else a
 |none=>a
theorem Zqi (s:Ze) (g:Int):loadS s g=if YU s g≠0 then(s,YM (YU s g))else
 ((((s.groups[(g-1).toNat]?.map (·.members)).getD []).foldl Zis (s,0)).1,⟨0,0,(((s.groups[(g-1).toNat]?.map (·.members)).getD []).foldl Zis (s,0)).2,[]⟩):=rfl
theorem Zna {α β:Type} {g:α→β→α} {a:α} {l:List β} {k:Nat} {x:β} (h:l[k]? =some x):(l.take (k+1)).foldl g a=g ((l.take k).foldl g a) x:=by
 rw[List.take_add_one,h]
 simp
end Go.Lk
namespace Go.Proofs.YtlhapbopmplngaaGreatDoor
open Go.RowKit Go.Lk
structure Zg3 (b:Nat) (P:Ym) (va vp:Value) (w:World) (F:List Nat) (wr:World) (n m:Nat) (s0:Ze) (l:List Int) (kk:Nat) (v:Value) (M:List Nat) (sc:Ze) (c:Int) (vl:Value) (F1:List Nat):Prop where
 at_:Zh wr b P none sc va vp vl F1
 grows:Zi w wr F F1
 fit:ZQ sc (n+2*kk) m
 safe:Lk.Safe sc
 res:(sc,c)=(l.take kk).foldl Zis (s0,0)
 len:sc.all.length=s0.all.length
 row:Z6 v l wr M
 ap:Z8 F1 M
 vals:∀x∈l,1≤x∧x≤s0.all.length
 cc:0≤c∧c≤kk
theorem Zg3.elem {wr:World} {kk:Nat} {sc:Ze}
  (h:Zg3 b P va vp w F wr n m s0 l kk v M sc c vl F1) (hk:kk<l.length):∃(i p:Nat) (f:ZC),l[kk]? =some ((i:Int)+1)∧sc.all[i]? =some f∧P.fps[i]? =some p∧∃g c,v= .slice (some ⟨g,0,none⟩) l.length c∧wr.cell? ⟨g,kk,none⟩=some (.int .i64 ((i:Int)+1)):=by
 have hx:=Xa hk
 have hv:=h.vals _ (Xc hx)
 obtain⟨i,o⟩:∃i:Nat,l[kk]=(i:Int)+1:=⟨(l[kk]-1).toNat,by omega⟩
 rw[o]at hx
 have k:i<sc.all.length:=by rw[h.len];omega
 have a:=Xa k
 obtain⟨p,q⟩:=h.at_.fp a
 obtain⟨g,c,e,_,d⟩:=h.row.cell (j:=kk) (i:=0) (c:=Zcl ((i:Int)+1)) (by rw[Xe,hx];rfl) rfl
 rw[Xb]at e
 rw[Nat.mul_one,Nat.add_zero]at d
 exact⟨i,p,_,hx,a,q,g,c,e,d⟩
section
variable {w:World} {b:Nat} {P:Ym} {s:Ze} {va vp vl:Value} {F:List Nat}
theorem Zm7 (h:Zh w b P none s va vp vl F) (hfit:ZQ s n m) (hs:Lk.Safe s) (hn:n≤600000) (hm:m≤10000) (g:Int):
  Calls Tryz.prog 25 #[.pointer (some ⟨b,0,none⟩), .int .i64 g] w (ZnQ b P (loadS s g).1 (loadS s g).2 va w F):=by
 obtain⟨R,hR⟩:=Je (loadS s g)
 rw[←hR]
 have ai:=D (hR.trans (Zqi s g))
 obtain⟨W0,an,K⟩:=Kb w (.cells #[.int .i64 0, .int .i64 0, .int .i64 0, .slice none 0 0] 31)
 obtain⟨L,N⟩:=Je w.heap.size
 have av:Za7 W0 L F:=⟨by rw[an,N];exact Za _,fun hm=>by have:=h.lt L hm;omega⟩
 have z:=h.upd0 K
 have ae:=D av;have O:=D z
 clear av z;change Hid _ at an K N
 obtain⟨hg,ac⟩:=Je (YU s g)
 have hq:=ZeB O hfit g
 rw[←ac]at hq ai
 have HQ:=D hq
 have E:=D hfit;have HS:=D hs
 have Z:=h.lt
 have aQ:=D Z
 clear hR hq h hfit hs Z;change Hid _ at ac
 go_in
 go_upto_region 1 with fail
 rw[←an.out,←N.out]
 go_wp2_with fail
 refine HQ.out.mono ?_
 rintro e W ⟨rfl,q⟩
 rw[q]
 clear q W
 by_cases z:hg≠0
 ·have HE:=D (ai.trans (if_pos z))
  go_upto_region 3 with fail
  obtain⟨we,r⟩:=Je (W0.setRow L (Z1 (YM hg) (.slice none 0 0)).toArray)
  have I:=ZaU P.qps O (Zi.mk (K.weaken (by simp)) (fun k j=> .inl j)) (ae.out) r (Zap _) (fun k j=>by simp[Value.ownBlock]at j) (by rw[N.out];exact Xi _)
  have H:=D I;have ah:=D (ae.out)
  have ad:=D (YV (YM hg) (.slice none 0 0) rfl)
  clear I;change Hid _ at r
  go_wp2_with(first|(refine Jo (Z1 (YM hg) (.slice none 0 0)).toArray ah.blk Yj ad ?_;rw[←r.out]))
  refine bodyPost_ret (v:= .agg (Z1 (YM hg) (.slice none 0 0)).toArray) (Zw _ Tryz.results25 (b:=L) (o:=0) rfl Yj (Zb.of_block H.out.1)) rfl ?_
  rw[HE.out]
  exact H.out.2
 have hz:hg=0:=by omega
 have aG:=D (ai.trans (if_neg z))
 clear z
 obtain⟨k,y,j,J⟩:∃(k:Nat) (y:ZT),g=(k:Int)+1∧s.groups[k]? =some y:=by
  have e:=ac.out
  rw[Zgb s g E.made,hz]at e
  by_cases hc:g<1∨s.made<g
  ·rw[if_pos hc]at e;cases e
  ·have:=E.made
   exact⟨(g-1).toNat,_,by omega,Xa (by omega)⟩
 obtain⟨l,C⟩:=Je y.members
 have aR:=D (show R=((l.foldl Zis (s,0)).1,⟨0,0,(l.foldl Zis (s,0)).2,[]⟩)by
  rw[aG.out,j,show(((k:Int)+1)-1).toNat=k by omega,J,C];rfl)
 have az:=E.gm y (Xc J)
 rw[←C]at az
 have aa:=HS.out.2.grp y (Xc J)
 rw[←C]at aa
 obtain⟨gl,G,ag,aA,_,_⟩:=O.groups
 have aD:gl.length=s.groups.length:=by rw[←ag,Xb]
 obtain⟨pr,ay,al⟩:∃pr,gl[k]? =some pr∧pr.2=y:=by
  have e:=congrArg (fun l=>l[k]?) ag
  rw[J]at e
  simp only[Xe,Option.map_eq_some_iff]at e
  exact e
 have aM:=D (show Calls Tryz.prog 63 #[.pointer (some ⟨P.groups,0,none⟩), .int .i64 g] W0 (Zgm W0 l)by
  have hh:=Zjf aA (by have:=E.gl;omega) ay (by rw[al,←C];omega)
  rw[al,←C,←j]at hh;exact hh)
 have aL:=Jx 12 O.blk.1
 have ab:=D aa
 have aJ:l.length≤10000:=by omega
 clear ag aA aD ay al az aa C J j
 go_wp2_with fail
 refine aM.out.mono ?_
 rintro e w2 ⟨v,M,rfl,T,aq,Y⟩
 have ax:Z8 F M:=fun a ha aN=>by have h1:=aq a aN;have h2:=aQ.out a ha;have h3:=K.size;omega
 obtain⟨A,cA,aH,_⟩:=T.ints
 subst aH
 obtain⟨ln,X⟩:=Je l.length
 rw[←X]at T aJ⊢
 have d:=D (show Zg3 b P va vp W0 F w2 n m s l 0 (.slice A ln cA) M s 0 vl F from⟨O.upd0 Y,⟨Y.weaken (by simp),fun k j=> .inl j⟩,E.out,HS.out,rfl,rfl,T,ax,ab.out,by omega,by omega⟩)
 have ar:=D (ae.upd0 Y)
 clear T aq Y ax aL hz;change Hid _ at X
 go_wp2_with fail
 go_loopw[6,24] (fun s6 s24 wr=>∃(kk:Nat) (sc:Ze) (c:Int) (vl1:Value) (F1:List Nat),s24= .int .i64 kk∧s6= .int .i64 c∧kk≤ln∧Hid (Zg3 b P va vp W0 F wr n m s l kk (.slice A ln cA) M sc c vl1 F1)∧Hid (Za7 wr L F1)) (fun _ s24 _=>ln-(intOf s24).toNat)
 case atStart=>exact⟨0,s,0,vl,F,rfl,rfl,Xn _,d,ar⟩
 case round=>
  clear d ar
  obtain⟨kk,sc,c,vl1,F2,rfl,rfl,aV,d,Q⟩:=hrel
  by_cases Z:kk<ln
  ·obtain⟨i,p,f,hx,S,hp,g0,c0,aO,k0⟩:=d.elem (by rw[←X.out];exact Z)
   injection aO with aP aI aK
   clear aI
   subst aP;subst aK
   obtain⟨lb,aE,aw,_⟩:=d.at_.life hp S
   obtain⟨vh,aU,vb,aB,_⟩:=d.at_.fcell hp S
   obtain⟨st,af⟩:=Je f.state
   have am:=Za0 aw
   rw[←af]at am
   have k7:=Jx 7 aB
   obtain⟨cl,aj⟩:=Je f.req.cls
   rw[←aj]at k7
   have aS:=D am
   have ao:=D (show(l.take (kk+1)).foldl Zis (s,0)=if st=1∧cl=5 then((activateS sc ((i:Int)+1)).1,c+1)else(sc,c)by
    rw[Zna hx,←d.res,af,aj]
    unfold Zis
    dsimp only
    rw[Zb0 S])
   have HX:=D hx;have HF:=D S;have HP:=D hp
   have aT:=d.cc
   clear hx S hp aw aB af aj am
   go_wp2_with fail
   refine(Yt d.at_ (by have:=d.fit.all;omega) HP _ rfl).mono ?_
   rintro e W ⟨rfl,q⟩
   rw[q]
   clear q W
   go_wp2_with fail
   refine aS.out.mono ?_
   rintro e W ⟨rfl,q⟩
   rw[←q]
   clear q W
   by_cases x:st=1∧cl=5
   ·have ak:=D (ao.trans (if_pos x))
    obtain⟨rfl,rfl⟩:=x
    have aC:=D (Zeu d.at_ d.fit d.safe (by omega) (by omega) ((i:Int)+1))
    go_wp2_with fail
    refine aC.out.mono ?_
    rintro e w4 ⟨rfl,au,F4,h4,g4⟩
    obtain⟨r1,r2⟩:=YD.frame (ZJ _ _) d.row d.ap g4
    have V:=D (show Zg3 b P va vp W0 F w4 n m s l (kk+1) (.slice (some ⟨g0,0,none⟩) ln cA) M (activateS sc ((i:Int)+1)).1 (c+1) au F4 from
     ⟨h4,d.grows.trans g4,(d.fit.activate _).mono (by omega) (Xi _),d.safe.activateS _,ak.symm,by rw[Zi2];exact d.len,r1,r2,ab.out,by omega,by omega⟩)
    have aF:=D (Q.step g4)
    clear h4 g4 r1 r2 k0 k7 aE
    go_wp2_with fail
    exact⟨⟨kk+1,_,c+1,au,F4,by go_num,by go_num,by omega,V,aF⟩,by simp[intOf];omega⟩
   ·have ak:=D (ao.trans (if_neg x))
    have V:=D (show Zg3 b P va vp W0 F wr n m s l (kk+1) (.slice (some ⟨g0,0,none⟩) ln cA) M sc c vl1 F2 from
     ⟨d.at_,d.grows,d.fit.mono (by omega) (Xi _),d.safe,ak.symm,d.len,d.row,d.ap,ab.out,by omega,by omega⟩)
    by_cases h1:st=1
    ·have h5:¬cl=5:=fun e=>x ⟨h1,e⟩
     clear x
     go_wp2_with fail
     exact⟨⟨kk+1,_,c,vl1,F2,by go_num,rfl,by omega,V,Q⟩,by simp[intOf];omega⟩
    ·clear x
     go_wp2_with fail
     exact⟨⟨kk+1,_,c,vl1,F2,by go_num,rfl,by omega,V,Q⟩,by simp[intOf];omega⟩
  ·obtain rfl:kk=ln:=by omega
   have HE:=D (show R=(sc,⟨0,0,c,[]⟩)by
    have e:=d.res
    rw[X.out,Xm]at e
    rw[aR.out,←e])
   have HG:=D (d.grows.pre0 K)
   go_upto_region 13 with fail
   obtain⟨we,r⟩:=Je (wr.setRow L (Z1 ⟨0,0,c,[]⟩ (.slice none 0 0)).toArray)
   have I:=ZaU P.qps d.at_ (HG.out) (Q.out) r (Zap _) (fun k j=>by simp[Value.ownBlock]at j) (by rw[N.out];exact Xi _)
   have H:=D I;have ah:=D (Q.out)
   have ad:=D (YV ⟨0,0,c,[]⟩ (.slice none 0 0) rfl)
   clear I;change Hid _ at r
   go_wp2_with(first|(refine Jo (Z1 ⟨0,0,c,[]⟩ (.slice none 0 0)).toArray ah.blk Yj ad ?_;rw[←r.out]))
   refine bodyPost_ret (v:= .agg (Z1 ⟨0,0,c,[]⟩ (.slice none 0 0)).toArray) (Zw _ Tryz.results25 (b:=L) (o:=0) rfl Yj (Zb.of_block H.out.1)) rfl ?_
   rw[HE.out]
   exact H.out.2
end
end Go.Proofs.YtlhapbopmplngaaGreatDoor
namespace Go.Proofs.YtlhapbopmplngaaGreatDoor
open Go.RowKit Go.Lk
end Go.Proofs.YtlhapbopmplngaaGreatDoor
