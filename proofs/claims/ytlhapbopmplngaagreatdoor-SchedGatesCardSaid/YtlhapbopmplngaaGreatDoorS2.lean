import Derived.Lib.ItoaLen
import Derived.Lib.Join
import Derived.Lib.Split
import Derived.OrdersHeld
import Derived.StillTail
import Derived.Test.YtlhapbopmplngaaGreatDoorS1
set_option linter.all false
set_option maxHeartbeats 16000000
set_option maxRecDepth 100000
set_option autoImplicit true
set_option relaxedAutoImplicit true
namespace Go.Lk
open Go Go.RowKit
def Zku {P:Program} {n k:Nat} (h:Zu P t n=true) (e:k=n):Zu P t k=true:=e▸h
def ZlN {P:Program} {cs:List Value} (h:Zu P t cs.length=true):Zu P t cs.toArray.size=true:=by rw[List.size_toArray];exact h
def Zsc {cs:List Value} {k:Nat} (h:cs.length=k):k=cs.toArray.size:=by rw[List.size_toArray,h]
def ZjP (w:World) (o:Obj) (cs:Array Value):Zg [] w ((w.alloc o).setRow w.heap.size cs):=((Zg.refl [] w).alloc _).setRow (.inl (Xi _)) _
def Zh6 (w:World) (old cs:Array Value) (T:TypeId):((w.alloc (.cells old T (0,0))).setRow w.heap.size cs).heap[w.heap.size]? =some (.cells cs T (0,0)):=setRow_heap _ _ _ _ _ _ (Za _)
abbrev Zsa {T:TypeId} {k:Nat} {v:Value} {xs:List (List Value)} {w:World} {F:List Nat} (_:Zk T k v xs w F):Value→List (List Value)→YD:=Zk T k
def Zc1 (P:Program) (f T k:Nat):Prop:=∀{α:Type} (enc:α→List Value) (p:α→Bool) (g:FuncId) (lb:Array Value) {v:Value} {l:List α} {w:World} {F:List Nat}
 (_:Zk T k v (l.map enc) w F) (_:∀args w,(callFunc g args).run P w= .ok (.enter g args) w)
 (_:∀(W:World) (x:α),x∈l→Zg [] w W→Calls P g (#[.agg (enc x).toArray]++lb) W fun e w'=>e= .returned (.bool (p x))∧Zg [] W w'),
 Calls P f #[v, .func (.func g) #[] lb] w fun e w'=>e= .returned (.int .i64 (Y5 p l))∧Zg [] w w'
def Zlu (P:Program) (f T k:Nat):Prop:=∀{α:Type} (enc:α→List Value) (p:α→Bool) (g:FuncId) (lb:Array Value) (I:List α→YD) (_:∀d,(I d).Local) {v:Value} {l:List α} {w:World} {F G:List Nat}
 (_:Zk T k v (l.map enc) w F) (_:I [] w G) (_:Z8 F G) (_:∀args w,(callFunc g args).run P w= .ok (.enter g args) w)
 (_:∀(W:World) (G1:List Nat) (d r:List α) (x:α),l=d++x::r→I d W G1→Zg (F++G) w W→Calls P g (#[.agg (enc x).toArray]++lb) W fun e w'=>e= .returned (.bool (p x))∧∃G',I (d++[x]) w' G'∧Zi W w' G1 G'),
 Calls P f #[v, .func (.func g) #[] lb] w fun e w'=>e= .returned (.int .i64 (Y5 p l))∧∃G',I (ZdX p l) w' G'∧Zi w w' G G'
def Zli (P:Program) (f T k:Nat):Prop:=∀{α:Type} (enc:α→List Value) (p:α→Bool) (g:FuncId) (lb:Array Value) (I:List α→YD) (_:∀d,(I d).Local) {v:Value} {l:List α} {w:World} {F G:List Nat}
 (_:Zk T k v (l.map enc) w F) (_:∀x,∀u∈enc x,u.oneCell'=true) (_:I [] w G) (_:Z8 F G) (_:∀args w,(callFunc g args).run P w= .ok (.enter g args) w)
 (_:∀(W:World) (G1:List Nat) (d r:List α) (x:α),l=d++x::r→I d W G1→Zg (F++G) w W→Calls P g (#[.agg (enc x).toArray]++lb) W fun e w'=>e= .returned (.bool (p x))∧∃G',I (d++[x]) w' G'∧Zi W w' G1 G'),
 Calls P f #[v, .func (.func g) #[] lb] w fun e w'=>∃v',e= .returned v'∧Zk T k v' ((l.filter fun x=> !p x).map enc) w' F∧∃G',I l w' G'∧Z8 F G'∧Zg (F++G) w w'∧∀k∈G',k∈G∨w.heap.size≤k
def Zco (P:Program) (f T k:Nat):Prop:=∀{g cap i j:Nat} (_:j=i+1) {xs:List (List Value)} {w:World} {F:List Nat} (_:Zk T k (.slice (some ⟨g,0,none⟩) xs.length cap) xs w F) (_:∀u∈xs.flatten,u.oneCell'=true) (_:i<xs.length),
 Calls P f #[.slice (some ⟨g,0,none⟩) xs.length cap, .int .i64 i, .int .i64 j] w fun e w'=>e= .returned (.slice (some ⟨g,0,none⟩) (xs.length-1:Nat) cap)∧
  Zk T k (.slice (some ⟨g,0,none⟩) (xs.length-1) cap) (xs.eraseIdx i) w' [g]∧Zg [g] w w'
def Zco.del {P:Program} (d:Zco P f T k) {g cap i:Nat} {xs:List (List Value)} (h:Zk T k (.slice (some ⟨g,0,none⟩) xs.length cap) xs w F) (h1:∀u∈xs.flatten,u.oneCell'=true) (hi:i<xs.length):
 Calls P f #[.slice (some ⟨g,0,none⟩) xs.length cap, .int .i64 i, .int .i64 ((i:Int)+1)] w fun e w'=>e= .returned (.slice (some ⟨g,0,none⟩) (xs.length-1:Nat) cap)∧
  Zk T k (.slice (some ⟨g,0,none⟩) (xs.length-1) cap) (xs.eraseIdx i) w' [g]∧Zg [g] w w':=d rfl h h1 hi
def ZbY {P:Program} {T tS:TypeId} {k:Nat} {z:Value} {zs:List Value} (hun:P.underlying tS=some (.slice T)) (hz0:∀w,(zeroValue T).run P w= .ok z w) (hzc:z.cells=zs.toArray) (hzl:zs.length=k) (hz1:∀v∈zs,v.oneCell'=true)
  {g cap i j:Nat} (hj:j=i+1) {xs:List (List Value)} {w:World} {F:List Nat} (h:Zk T k (.slice (some ⟨g,0,none⟩) xs.length cap) xs w F) (h1:∀u∈xs.flatten,u.oneCell'=true) (hi:i<xs.length):
  ∃A news W1 W2,(if cap=j then(some (⟨g,0,none⟩:Addr))else some ⟨g,j*k,none⟩)=some A∧Hid (∀t u,news[t]? =some u→w.drew.cell? (A.add t)=some u)∧Hid (∀u∈news,u.oneCell'=true)∧Hid (news.length=(xs.length-j)*k)∧
   Hid (∀t,t<news.length→(w.drew.cell? ⟨g,0+i*k+t,none⟩).isSome=true∧w.drew.frozen? ⟨g,0+i*k+t,none⟩=false)∧Hid (W1=w.drew.setCells g (0+i*k) news)∧
   (∀ty,(Builtin.clear_ #[tS] ty #[.slice (some ⟨g,(i+(xs.length-j))*k,none⟩) (xs.length-(i+(xs.length-j))) (cap-(i+(xs.length-j)))]).run P W1= .ok (.tuple #[]) W2)∧
   Hid (Zk T k (.slice (some ⟨g,0,none⟩) (xs.length-1) cap) (xs.eraseIdx i) W2 [g]∧Zg [g] w W2)∧xs.length≤cap∧cap≤9223372036854775807:=by
 obtain⟨b,_,_,l,d,q,y,ht⟩:=h.block
 have J:=Yn h.2.1
 obtain⟨news,f⟩:=Je ((xs.drop j).flatten)
 have m:news.length=(xs.length-j)*k:=by rw[f,Yn (fun c d=>h.2.1 c (List.mem_of_mem_drop d)),List.length_drop]
 have r:∀t,t<cap*k→(w.drew.cell? ⟨g,t,none⟩).isSome=true∧w.drew.frozen? ⟨g,t,none⟩=false:=fun t h1=>by
  have n:t<b.size:=by omega
  refine⟨?_,ZS (w:=w) l⟩
  show(w.cell? _).isSome=true
  rw[Zf l (Array.getElem?_eq_getElem n)];rfl
 obtain⟨A,C,s⟩:∃A:Addr,(if cap=j then(some (⟨g,0,none⟩:Addr))else some ⟨g,j*k,none⟩)=some A∧Hid (∀t u,news[t]? =some u→w.drew.cell? (A.add t)=some u):=by
  by_cases e:cap=j
  ·refine⟨⟨g,0,none⟩,by rw[if_pos e],D (fun t u a=> ?_)⟩
   have H:news.length=0:=by rw[m,show xs.length-j=0 by omega,Nat.zero_mul]
   rw[List.length_eq_zero_iff.1 H]at a;simp at a
  ·refine⟨⟨g,j*k,none⟩,by rw[if_neg e],D (fun t u a=> ?_)⟩
   rw[add_plain]
   refine Zf (w:=w) l ?_
   rw[f,←Zf8 h.2.1,List.getElem?_drop,←ht,List.getElem?_take]at a
   split at a
   ·simpa using a
   ·cases a
 have I:i*k+news.length≤cap*k:=by
  rw[m,←Nat.add_mul];exact Nat.mul_le_mul_right _ (by omega)
 have o:(w.drew.setCells g (0+i*k) news).heap[g]? =some (.cells (Zax b.toList (0+i*k) news).toArray T (0,0)):=ZaH news (0+i*k) w.drew b l (by omega)
 have x:(Zax b.toList (0+i*k) news).length=cap*k:=by rw[Zbz _ _ _ (by simp only[List.size_toArray,Array.length_toList];omega)];simpa using y
 have G:i+(xs.length-j)=xs.length-1:=by omega
 refine⟨A,news,_,_,C,s,fun u a=>h1 u (by rw[f]at a;obtain⟨c,d,a⟩:=List.mem_flatten.1 a;exact List.mem_flatten.2 ⟨c,List.mem_of_mem_drop d,a⟩),m,fun t p=>r _ (by omega),rfl,fun ty=> ?_,D (Zm5 h hi 1 zs hzl rfl),d,by unfold maxLen at q;exact q⟩
 rw[G,show xs.length-(xs.length-1)=1 by omega]
 have K:(xs.length-1)*k+k≤cap*k:=by rw[←Nat.succ_mul];exact Nat.mul_le_mul_right _ (by omega)
 have E:=Zbo (P:=P) (w.drew.setCells g (0+i*k) news) tS T ty z zs hun hz0 g ((xs.length-1)*k) 1 (cap-(xs.length-1)) (by omega) (by rw[hzc];exact Zi4) hz1 (fun t p=>by
  have n:(xs.length-1)*k+t<(Zax b.toList (0+i*k) news).length:=by rw[x];omega
  rw[Zf o (v:=(Zax b.toList (0+i*k) news)[(xs.length-1)*k+t]) (by rw[Xh,Xa n])];rfl) (fun t p=>ZS o)
 rw[E]
 subst hj
 rw[←f,Nat.zero_add];rfl
def ZjY {P:Program} {T tS:TypeId} {k:Nat} {z:Value} {zs:List Value} (hun:P.underlying tS=some (.slice T)) (hz0:∀w,(zeroValue T).run P w= .ok z w) (hzc:z.cells=zs.toArray) (hzl:zs.length=k) (hk:0<k) (hz1:∀v∈zs,v.oneCell'=true)
  {g cap i n:Nat} {xs:List (List Value)} {w:World} {F:List Nat} (hn:n=xs.length) (h:Zk T k (.slice (some ⟨g,0,none⟩) n cap) xs w F) (hi:i<n):
  ∃W,(∀ty,(Builtin.clear_ #[tS] ty #[.slice (some ⟨g,i*k,none⟩) (n-i) (cap-i)]).run P w= .ok (.tuple #[]) W)∧Hid (Zg F w W)∧Hid (Zk T k (.slice (some ⟨g,0,none⟩) i cap) (xs.take i) W F)∧i≤cap∧¬cap=i:=by
 obtain⟨d,_,l,c,p,o,m,ht⟩:=h.block
 obtain⟨a,j⟩:=Zcs (zs:=zs) (n-i) (by omega) hz1
 rw[hzl]at a
 have f:i*k+(n-i)*k≤cap*k:=by rw[←Nat.add_mul];exact Nat.mul_le_mul_right _ (by omega)
 refine⟨_,fun ty=>Zbo w tS T ty z _ hun hz0 g (i*k) (n-i) (cap-i) (by omega) (by rw[hzc]) j (fun t b=> ?_) (fun t b=>ZS c),?_,Zgp h (by omega) _ (by rw[a];exact f) rfl,by omega,by omega⟩
 ·have e:i*k+t<d.size:=by rw[a]at b;omega
  rw[Zf c (Array.getElem?_eq_getElem e)];rfl
 ·exact(Zg.refl F w).setCells (.inr (by rw[l];simp)) _ _
def ZhW {Y_ G_:Prop} (a:Y_) (h_:Hid Y_→G_:=by
 intro a
 obtain⟨A,c,rfl,G,k⟩:=H.lies
 have r:=H.2.1
 have f:=H.le
 rw[Xb]at G f⊢
 have J:=D r;have I:=D R;have F:=D k
 have L:l.length≤9223372036854775807:=by unfold maxLen at f;omega
 clear H r R k f
 go_in
 go_wp2
 go_loopw[5,8] (fun _ s8 wr=>∃kk:Nat,kk≤l.length∧s8= .int .i64 kk∧Hid (Zg [] w wr)∧Hid (∀j x,j<kk→l[j]? =some x→p x=false)) (fun _ s8 _=>l.length-(intOf s8).toNat)
 case atStart=>exact⟨0,Xn _,rfl,D (Zg.refl [] w),D (fun j x s=>absurd s (Nat.not_lt_zero _))⟩
 case round=>
  obtain⟨kk,M,rfl,b,i⟩:=hrel
  by_cases o:kk<l.length
  ·obtain⟨x,hx⟩:∃x,l[kk]? =some x:=⟨_,Xa o⟩
   have g:=Xc hx
   obtain⟨O,rfl,m⟩:=F.out kk (E x) (by rw[Xe,hx];rfl)
   have z:=D (m.upd b)
   have C:=D (Zku a.out (J.out (E x) (List.mem_map.2 ⟨x,g,rfl⟩)))
   have t:=D hx
   have K:=D (I.out wr x g b)
   obtain⟨y,d⟩:=Je (p x)
   clear hx m g;change Hid _ at d
   go_wp2_with(refine Js z C ?_)
   refine K.out.mono ?_
   rintro e N ⟨rfl,n⟩
   rw[←d.out]
   have q:=D (b.trans n)
   clear n
   cases y with
   |true=>
    go_wp2
    go_ret
    refine⟨?_,q.out⟩
    rw[ZcN o (by rw[t.out]) d.symm i.out];rfl
   |false=>
    go_wp2
    go_roundw
    case rel=>
     refine⟨kk+1,by omega,by go_num,q,D (fun j y s h=> ?_)⟩
     by_cases e:j=kk
     ·subst e;rw[t.out]at h;cases h;exact d.symm
     ·exact i j y (by omega) h
    case measure=>simp[intOf];omega
  ·obtain rfl:kk=l.length:=by omega
   go_wp2
   go_ret
   refine⟨?_,b.out⟩
   rw[Zb4 i.out];rfl):G_:=h_ a
def ZrS {Y_ G_:Prop} (a:Y_) (h_:Hid Y_→G_:=by
 intro a
 obtain⟨A,c,rfl,X,s⟩:=H.lies
 have g:=H.2.1
 have i:=H.le
 have K:=H.foot
 rw[Xb]at X i⊢
 have Z:=D g;have Y:=D R;have T:=D s;have HI:=D J;have V:=D K;have P:=D Q;have W:=D O
 have aa:l.length≤9223372036854775807:=by unfold maxLen at i;omega
 clear H g R s i J K Q O
 go_in
 go_wp2
 go_loopw[5,8] (fun _ s8 wr=>∃(kk:Nat) (G':List Nat),kk≤l.length∧s8= .int .i64 kk∧Hid (I (l.take kk) wr G'∧Zi w wr G G')∧Hid (∀j x,j<kk→l[j]? =some x→p x=false)) (fun _ s8 _=>l.length-(intOf s8).toNat)
 case atStart=>exact⟨0,G,Xn _,rfl,D ⟨W,Zi.refl w G⟩,D (fun j x M=>absurd M (Nat.not_lt_zero _))⟩
 case round=>
  obtain⟨kk,G',ac,rfl,b,d⟩:=hrel
  by_cases n:kk<l.length
  ·obtain⟨x,hx⟩:∃x,l[kk]? =some x:=⟨_,Xa n⟩
   have C:=Xc hx
   obtain⟨q,rfl,t⟩:=T.out kk (E x) (by rw[Xe,hx];rfl)
   have z:q∉G:=P.out q (V.out q rfl)
   have N:=D (t.upd b.out.2.upd z)
   have S:=D (Zku a.out (Z.out (E x) (List.mem_map.2 ⟨x,C,rfl⟩)))
   have r:=D hx
   have HQ:=D (Y.out wr G' (l.take kk) (l.drop (kk+1)) x (Zdx hx) b.out.1 (b.out.2.upd.weaken (fun k g=> .inr (List.mem_append_right _ g))))
   have HT:=D (ZZ hx)
   obtain⟨y,f⟩:=Je (p x)
   clear hx t C z;change Hid _ at f
   go_wp2_with(refine Js N S ?_)
   refine HQ.out.mono ?_
   rintro e L ⟨rfl,h,m⟩
   rw[←f.out]
   have F:=D (show I (l.take (kk+1)) L h∧Zi w L G h by rw[HT.out];exact⟨m.1,b.out.2.trans m.2⟩)
   clear m
   cases y with
   |true=>
    go_wp2
    go_ret
    refine⟨?_,h,?_⟩
    ·rw[ZcN n (by rw[r.out]) f.symm d.out];rfl
    ·rw[Zip n r f.symm d.out];exact F.out
   |false=>
    go_wp2
    go_roundw
    case rel=>
     refine⟨kk+1,h,by omega,by go_num,F,D (fun j y M o=> ?_)⟩
     by_cases e:j=kk
     ·subst e;rw[r.out]at o;cases o;exact f.symm
     ·exact d j y (by omega) o
    case measure=>simp[intOf];omega
  ·obtain rfl:kk=l.length:=by omega
   go_wp2
   go_ret
   refine⟨?_,G',?_⟩
   ·rw[Zb4 d.out];rfl
   ·rw[Zg2 d.out];rw[Xm]at b;exact b):G_:=h_ a
def ZrT {Y_ X_ Z_ G_:Prop} (a:Y_) (x:X_) (f:Z_) (h_:Hid Y_→X_→Hid Z_→G_:=by
 intro a x f
 have hx:=x;have ad:=(Zc _ _ _ _).lt H
 have HH:=D H;have M:=D Q
 cases hq:l.findIdx? p with
 |none=>
  have ab:l.filter (fun x=> !p x)=l:=by
   rw[List.filter_eq_self];intro x hm;rw[List.findIdx?_eq_none_iff]at hq;rw[hq x hm];rfl
  have C:ZdX p l=l:=by unfold ZdX;rw[hq]
  rw[Yi hq,C]at hx
  rw[ab]
  have o:=D hx
  clear hx hq ab C H O Q R x
  go_in
  go_wp2_with fail
  refine o.out.mono ?_
  rintro e w1 ⟨rfl,S,L⟩
  have d:=D L;clear L
  go_wp2_with fail
  go_ret
  refine⟨v,rfl,(Zc _ _ _ _).upd HH d.out.2.upd M,S,d.out.1,?_,d.out.2.upd.weaken (fun k hk=> .inr (by simp[hk])),d.out.2.new⟩
  intro k hk h
  rcases d.out.2.new k h with h2|h2
  ·exact M k hk h2
  ·have:=ad k hk;omega
 |some i0=>
  have aC:=Yv hq
  obtain⟨vg,cap,rfl,ai⟩:∃vg cap,v= .slice (some ⟨vg,0,none⟩) l.length cap∧F=[vg]:=by
   rcases H.form with⟨_,N,_⟩|⟨g',ap,ag,N,e2,_⟩
   ·rw[List.map_eq_nil_iff]at N;subst N;simp at aC
   ·exact⟨g',ap,by rw[N,Xb],e2⟩
  have C:ZdX p l=l.take (i0+1):=by unfold ZdX;rw[hq]
  rw[YC hq,C]at hx
  have o:=D hx
  have az:=D (ZbS.start hq)
  have aw:=D ai;have H1:=D U;have HP:=D R;have T:=D J
  have V:=H.le
  rw[Xb]at V
  have aH:l.length≤9223372036854775807:=by unfold maxLen at V;omega
  have aF:((i0:Int)== -1)=false:=beq_eq_false_iff_ne.2 (by omega)
  clear hx hq C H O Q R ai J V U x
  go_in
  go_wp2_with fail
  refine o.out.mono ?_
  rintro e w1 ⟨rfl,S,L⟩
  have d:=D L;clear L
  have ax:=D (show Z8 F S from fun k hk h=>by
   rcases d.out.2.new k h with h2|h2
   ·exact M k hk h2
   ·have:=ad k hk;omega)
  have aE:=D ((Zc _ _ _ _).upd HH d.out.2.upd M)
  go_wp2_with fail
  go_loopw[5,6,7] (fun s5 s6 _ wr=>∃(i j:Nat) (dk:List α) (G':List Nat),s5= .int .i64 i∧s6= .int .i64 j∧j≤l.length∧i<j∧Hid (ZbS p l j i dk)∧Hid (I (l.take j) wr G'∧Z8 F G'∧Zg (F++G) w wr∧∀k∈G',k∈G∨w.heap.size≤k)∧Hid (Zsa HH (.slice (some ⟨vg,0,none⟩) l.length cap) (dk.map E) wr F)) (fun _ s6 _ _=>l.length-(intOf s6).toNat)
  case atStart=>exact⟨i0,i0+1,l,S,rfl,by go_num,by omega,by omega,az,D ⟨d.out.1,ax.out,d.out.2.upd.weaken (fun k hk=> .inr (by simp[hk])),d.out.2.new⟩,aE⟩
  case round=>
   obtain⟨i,j,dk,G',rfl,rfl,aK,aA,n,b,q⟩:=hrel
   have q:Hid (Zk _ _ _ _ _ _):=q
   by_cases aD:j<l.length
   ·obtain⟨x,hx⟩:∃x,l[j]? =some x:=⟨_,Xa aD⟩
    obtain⟨y,P⟩:=Je (p x)
    have X:(dk.map E)[j]? =some (E x):=by rw[Xe,n.get,hx];rfl
    have av:=D (q.liesAt X)
    have Y:=D (q.out.2.1 _ (Xc X))
    have o:=D hx
    clear hx X;change Hid _ at P
    have K:=D (Zku a.out Y)
    have HO:=D (show(E x).toArray.all (·.oneCell')=true from by rw[Xl,Xk];exact H1 x)
    have ao:=D (fun r (m:Zg [] wr r)=>HP.out r G' (l.take j) (l.drop (j+1)) x (Zdx o) ((T.out _).upd b.out.1 m) (b.out.2.2.1.trans_of' m))
    go_wp2_with(first|refine Js av K ?_|refine Zaw _ rfl _ (.tmp 7) (.tmp 25) rfl wr.heap.size (E x).toArray _ _ rfl rfl (ZlN K) (Za _) (Zsc Y) HO ?_|refine Jl (Zb.of_block (Zh6 _ _ _ _)) K ?_)
    refine(ao.out _ (ZjP _ _ _)).mono ?_
    rintro e z ⟨rfl,t,W,g⟩
    obtain⟨r,Z,T1,m,ae,g⟩:∃r Z T1,Zg [] wr r∧r.heap[wr.heap.size]? =some (.cells Z T1 (0,0))∧Z=(E x).toArray∧Zi r z G' t:=⟨_,_,_,ZjP _ _ _,Zh6 _ _ _ _,rfl,g⟩
    obtain⟨rfl,g⟩:=g
    rw[←ZZ o.out]at W
    rw[←P.out]
    have aa:wr.heap.size∉G':=fun hm=>by have:=(T.out _).lt b.out.1 _ hm;omega
    have aB:=D (Zb.of_block ((Kv g.upd ae aa)))
    have af:=D ((Zc _ _ _ _).upd ((Zc _ _ _ _).upd q m) g.upd b.out.2.1)
    have s:=D (show I (l.take (j+1)) z t∧Z8 F t∧Zg (F++G) w z∧∀k∈t,k∈G∨w.heap.size≤k from⟨W,fun k hk h=>by
     rcases g.new k h with h2|h2
     ·exact b.out.2.1 k hk h2
     ·have:=(Zc _ _ _ _).lt q k hk;have:=m.size;omega,(b.out.2.2.1.trans_of' m).trans g.upd (fun k hk=>by rcases b.out.2.2.2 k hk with h2|h2<;>simp[h2]),fun k hk=>by
     rcases g.new k hk with h2|h2
     ·exact b.out.2.2.2 k h2
     ·right;have:=b.out.2.2.1.size;have:=m.size;omega⟩)
    clear W g aa ae m
    cases y with
    |true=>
     go_wp2
     go_roundw
     case rel=>exact⟨i,j+1,dk,t,rfl,by go_num,by omega,by omega,D (n.skip o P.symm),s,af⟩
     case measure=>simp[intOf];omega
    |false=>
     have an:i<(dk.map E).length:=by rw[Xb,n.len];omega
     obtain⟨ag,aj,ah,ac⟩:=ZfM af an Y.out
     have ak:=D aj;have ay:=D ah;have aq:=D ac
     clear an aj ah ac
     go_wp2_with(first|refine Jl aB K ?_|refine Zc9 _ rfl _ (.tmp 33) (.tmp 32) rfl vg _ (E x).toArray ag _ (by simp[Act.eval,Act.put]) rfl (ZlN K) ak ay HO ?_)
     go_roundw
     case rel=>
      have al:∀c,Zg F z (z.setRow vg c):=fun c=>(Zg.refl F z).setRow (.inr (by rw[aw.out];simp)) _
      refine⟨i+1,j+1,dk.set i x,t,by go_num,by go_num,by omega,by omega,D (n.keep o P.symm),D ⟨(T.out _).upd s.out.1 (al _) (fun k hk h=>s.out.2.1 k h hk),s.out.2.1,s.out.2.2.1.trans (al _) (fun k hk=> .inr (List.mem_append_left _ hk)),s.out.2.2.2⟩,D ?_⟩
      rw[List.map_set]
      refine aq _ ?_
      rw[setRow_heap _ _ _ _ _ _ ak.out]
      simp[Zax]
     case measure=>simp[intOf];omega
   ·obtain rfl:j=l.length:=by omega
    obtain⟨W9,aI,am,A,aG,aJ⟩:=f.out (by rw[Xb,n.len]) q aA
    have A:=A.out
    rw[←List.map_take,n.done]at A
    have ar:=D A
    have au:(l.filter fun x=> !p x).length=i:=by rw[←n.done,List.length_take,n.len];omega
    clear A au
    go_wp2
    go_ret
    refine⟨_,rfl,ar.out,G',?_,b.out.2.1,b.out.2.2.1.trans am (fun k hk=> .inr (List.mem_append_left _ hk)),b.out.2.2.2⟩
    have:=b.out.1
    rw[Xm]at this
    exact(T.out _).upd this am (fun k hk h=>b.out.2.1 k h hk)):G_:=h_ a x f
def ZjS {Y_ X_ Z_ G_:Prop} (s:Y_) (t:X_) (d:Z_) (h_:Y_→X_→Z_→G_:=by
 intro s t d
 obtain⟨A,c,C,E,y,a,s1,s2,s3,k,o,b,z,n⟩:=d
 obtain⟨h,f,e,x⟩:=s
 have m:i<j:=by omega
 have w:j≤xs.length:=by omega
 have p:¬i=j:=by omega
 have l:=D (show i+(xs.length-j)=xs.length-1 by omega)
 have r:i≤cap:=by omega
 have q:j≤cap:=by omega
 clear J H U
 go_in
 go_wp2_with fail
 go_region_law (refine step_append_room rfl (.tmp 22) (.tmp 25) _ rfl _ h _ t f e g 0 i cap (by simp[Act.eval,Act.put]) A (xs.length-j) (cap-j) c (by simp[Act.eval,Act.put]) s2.out a.out s1.out (by omega) s3.out ?_;rw[←k.out])
 go_wp2
 go_ret
 rw[l.out]
 exact⟨rfl,b.out⟩):G_:=h_ s t d
end Go.Lk
namespace Go.Proofs.YtlhapbopmplngaaGreatDoor
open Go.RowKit Go.Lk
def ZnD:(Tryz.prog.info? 144).map (fun i=>(i.zero,i.size,i.bytes))=some (some (.agg #[.int .i64 0, .int .i64 0, .int .u64 0, .string ⟨#[]⟩, .int .i64 0]),5,48):=by kernel_rfl
def Zcf:Zu Tryz.prog 144 5=true:=by kernel_rfl
def Zo9:(Tryz.prog.info? 144).map (fun i=>(i.size,i.bytes))=some (5,48):=by kernel_rfl
def Zod:Zc1 Tryz.prog 217 144 5:=by
 intro α E p g B v l w F H K R
 exact ZhW Zcf
def ZoN:Zco Tryz.prog 143 144 5:=by
 intro g cap i j J xs w F H U I
 exact ZjS (Zb3 Zo9) Tryz.underlying182 (ZbY (k:=5) Tryz.underlying182 (fun w=> Tryz.zeroValue144 w) rfl rfl (by simp[Value.oneCell']) J H U I)
end Go.Proofs.YtlhapbopmplngaaGreatDoor
namespace Go.Lk
def hd (n:Nat):UInt8:=if n<10 then UInt8.ofNat (48+n)else UInt8.ofNat (87+n)
def hv (c:UInt8):Option Nat:=if 48≤c.toNat∧c.toNat≤57 then some (c.toNat-48)else if 97≤c.toNat∧c.toNat≤102 then some (c.toNat-87)else none
def Zn3 (s:List UInt8):Nat:=s.foldl (fun n c=>10*n+(c.toNat-48)) 0
def ZcT (c:UInt8):Bool:=decide (48≤c.toNat)&&decide (c.toNat≤57)
def Y8 (s:List UInt8):Nat×Bool:=if s.all ZcT then(min (Zn3 s) 18446744073709551615,decide (s≠[]))else(0,false)
open Go.RowKit
abbrev Bs:=List UInt8
structure Ya where
 method:Bs
 url:Bs
 origin:Bs
 mode:Int
 creds:Bool
 headers:List (Bs×Bs)
 cls:Int
 timeout:Int
 group:Int
 signal:Int
structure ZaY where
 op:Int
 id:Int
 n:Int
 ids:List Int
 time:Int
 status:Int
 headers:List (Bs×Bs)
 bytes:Bs
 req:Ya
def Ya.zero:Ya:=⟨[],[],[],0,false,[],0,0,0,0⟩
def ZaY.zero:ZaY:=⟨0,0,0,[],0,0,[],[],Ya.zero⟩
def Zlq (c:UInt8):Bool:=(decide (97≤c.toNat)&&decide (c.toNat≤122))||(decide (65≤c.toNat)&&decide (c.toNat≤90))||ZcT c||[33,35,36,37,38,39,42,43,45,46,94,95,96,124,126].contains c
def Zat (s:Bs):Bool:=decide (s≠[])&&s.all Zlq
def wd (ws:List Bs) (i:Nat):Bs:=ws.getD i []
def Zmm (c:UInt8):UInt8:=if 65≤c.toNat∧c.toNat≤90 then c-65+97 else c
def Yu (s:Bs):Bs:=s.map Zmm
def ZbU (a c:Bs):Bool:=Yu a==Yu c
def ZaL (c:UInt8):Bool:=[9,10,13,32].contains c
def YL (s:Bs):Bs:=((s.dropWhile ZaL).reverse.dropWhile ZaL).reverse
def ZiW (s:Bs):List Bs:=((Lib.split s [44]).map YL).filter (fun x=>x !=[])
def Zff (l:List Bs):Bs:=Lib.join l [44,32]
def ZbB (l:List Bs):List Bs:=l.mergeSort (fun a c=>decide (a≤c))
def ZO:List Bs→List Bs
 |[]=>[]
 |[x]=>[x]
 |x::y::l=>if x=y then ZO (y::l)else x::ZO (y::l)
def ZdA:List Bs:=[[68,69,76,69,84,69],[71,69,84],[72,69,65,68],[79,80,84,73,79,78,83],[80,79,83,84],[80,85,84]]
def Zct (s:Bs):Bs:=(ZdA.find? (fun m=>ZbU s m)).getD []
def ZdB (s:Bs):Bs:=if Zct s !=[]then Zct s else s
def ZlT (s:Bs):Bool:=ZbU s [67,79,78,78,69,67,84]||ZbU s [84,82,65,67,69]||ZbU s [84,82,65,67,75]
def Zcx (s:Bs):Int:=if !Zat s||decide (32<s.length)||ZlT s then 5 else 0
def ZfO (s:Bs):Bool:=Zct s==[71,69,84]||Zct s==[72,69,65,68]||Zct s==[80,79,83,84]
def okH (h:Bs×Bs):Bool:=Zat h.1&&decide (h.1.length≤64)&&decide ((YL h.2).length≤4096)&& !((YL h.2).any fun c=>[0,10,13].contains c)
def ZbW (l:List (Bs×Bs)):Int:=if 32<l.length then 4 else if l.all okH then 0 else 6
def Zcy (l:List (Bs×Bs)):List (Bs×Bs):=l.map fun h=>(Yu h.1,YL h.2)
def Zad (l:List (Bs×Bs)) (name:Bs):List Bs:=(l.filter fun h=>ZbU h.1 name).map fun h=>YL h.2
def Zc5 (l:List (Bs×Bs)) (name:Bs):Bs×Bool:=(Zff (Zad l name),decide (0<(Zad l name).length))
structure Zs where
 scheme:Bs
 host:Bs
 port:Int
 deriving DecidableEq
def Zs.zero:Zs:=⟨[],[],0⟩
def ZlG (c:UInt8):Bool:=(decide (97≤c.toNat)&&decide (c.toNat≤122))||(decide (48≤c.toNat)&&decide (c.toNat≤57))||c==45
def ZdV (s:Bs):Bool:=decide (1≤s.length)&&decide (s.length≤63)&&s.head? !=some 45&&s.getLast? !=some 45&&s.all ZlG
def Zhj (s:Bs):Bool:=decide (s.length≤253)&&(Lib.split s [46]).all ZdV
def YS (s:Bs):Int:=if s=[104,116,116,112]then 80 else if s=[104,116,116,112,115]then 443 else 0
def YY (o:Zs):Bool:=YS o.scheme !=0&&Zhj o.host&&decide (1≤o.port)&&decide (o.port≤65535)
def Zft (o:Zs):Bs:=if YY o then o.scheme++[58,47,47]++o.host++[58]++Lib.itoa o.port else[]
def ZeA (o:Zs):Bs:=if YY o&&o.port==YS o.scheme then o.scheme++[58,47,47]++o.host else Zft o
def Zen (s:Bs):Int:=if !(Y8 s).2||decide (5<s.length)||s.head? ==some 48||decide (65535<(Y8 s).1)then 0 else(Y8 s).1
def YX (s:Bs):Zs×Int:=
 if 512<s.length then(Zs.zero,4)else
 let c:=Lib.cut (Yu s) [58,47,47]
 if !c.2.2 then(Zs.zero,3)else
 let h:=Lib.cut c.2.1 [58]
 let o:Zs:=⟨c.1,h.1,if h.2.2 then Zen h.2.1 else YS c.1⟩
 if YY o then(o,0)else(Zs.zero,3)
structure Z3 where
 origin:Zs
 path:Bs
 query:Bs
 deriving DecidableEq
def Z3.zero:Z3:=⟨Zs.zero,[],[]⟩
def Zb8:Bs:=[34,35,60,62,63,92,94,123,124,125,96]
def Zbh:Bs:=[34,35,60,62]
def Zel (s no:Bs):Bool:=s.all fun c=>decide (33≤c.toNat)&&decide (c.toNat≤126)&& !no.contains c
def dotsT (s:Bs):Nat:=if Yu s=[46]∨Yu s=[37,50,101]then 1 else if Yu s=[46,46]∨Yu s=[46,37,50,101]∨Yu s=[37,50,101,46]∨Yu s=[37,50,101,37,50,101]then 2 else 0
def Zdc (st:List Bs) (s:Bs):List Bs:=match dotsT s with
 |0=>st++[s]
 |2=>st.take (st.length-1)
 |_=>st
def Zaq (p:Bs):List Bs:=Lib.split (if p.head? =some 47 then p.tail else p) [47]
def Zbv (p:Bs):Bs:=
 let st:=(Zaq p).foldl Zdc []
 [47]++Lib.join (if 0<dotsT ((Zaq p).getLastD [])then st++[[]]else st) [47]
def YT (u:Z3):Bs:=ZeA u.origin++u.path++u.query
def ZhN (u:Z3):Bool:=YY u.origin&&(u.path.head? ==some 47&&Zel u.path Zb8&&Zbv u.path==u.path)&&(u.query==[]||u.query.head? ==some 63&&Zel u.query Zbh)&&decide ((YT u).length≤512)
def Zgi (u:Z3):Bs:=if ZhN u then YT u else[]
def ZaJ (s0:Bs):Z3×Int:=
 if 512<s0.length then(Z3.zero,4)else
 let s:=(Lib.cut s0 [35]).1
 let c:=Lib.cut s [58,47,47]
 if !c.2.2 then(Z3.zero,3)else
 let rest:=c.2.1
 let at_:=(rest.findIdx? fun x=>x==47||x==63).getD rest.length
 let o:=YX (c.1++[58,47,47]++rest.take at_)
 if o.2 !=0 then(Z3.zero,o.2)else
 let q:=Lib.cut (rest.drop at_) [63]
 if !Zel q.1 Zb8|| !Zel q.2.1 Zbh then(Z3.zero,3)else
 let u:Z3:=⟨o.1,Zbv q.1,if q.2.2 then[63]++q.2.1 else[]⟩
 if 512<(YT u).length then(Z3.zero,4)else(u,0)
def Zry:Bs:=[34,40,41,58,60,62,63,64,91,92,93,123,125]++[127]
def ZdC (c:UInt8):Bool:=c==9||(decide (32≤c.toNat)&& !Zry.contains c)
def Znw (v:Bs):Bs×Bool:=
 let h:=YL (Lib.cut v [59]).1
 let c:=Lib.cut h [47]
 if !c.2.2|| !Zat c.1|| !Zat c.2.1 then([],false)else(Yu h,true)
def Zfw (v:Bs):Bool:=
 let ok:=([98,121,116,101,115,61]:Bs).isPrefixOf v
 let rest:=if ok then v.drop 6 else v
 let c:=Lib.cut rest [45]
 let a:=Y8 c.1
 if !ok|| !c.2.2|| !a.2 then false else
 let z:=Y8 c.2.1
 c.2.1==[]||z.2&&decide (a.1≤z.1)
def Zhb (c:UInt8):Bool:=(decide (97≤(c|||32).toNat)&&decide ((c|||32).toNat≤122))||ZcT c||([32,42,44,45,46,59,61]:Bs).contains c
def ZiX (v:Bs):Bool:=(Znw v).1==[97,112,112,108,105,99,97,116,105,111,110,47,120,45,119,119,119,45,102,111,114,109,45,117,114,108,101,110,99,111,100,101,100]||(Znw v).1==[109,117,108,116,105,112,97,114,116,47,102,111,114,109,45,100,97,116,97]||(Znw v).1==[116,101,120,116,47,112,108,97,105,110]
def ZdD (h:Bs×Bs):Bool:=
 let v:=YL h.2
 let n:=Yu h.1
 if 128<v.length then false
 else if n=[97,99,99,101,112,116]then v.all ZdC
 else if n=[97,99,99,101,112,116,45,108,97,110,103,117,97,103,101]∨n=[99,111,110,116,101,110,116,45,108,97,110,103,117,97,103,101]then v.all Zhb
 else if n=[99,111,110,116,101,110,116,45,116,121,112,101]then v.all ZdC&&ZiX v
 else if n=[114,97,110,103,101]then Zfw v
 else false
def Zdn (l:List (Bs×Bs)):List Bs:=
 let s:=l.filter ZdD
 let out:=(l.filter fun h=> !ZdD h).map fun h=>Yu h.1
 let sum:=(s.map fun h=>(YL h.2).length).sum
 ZO (ZbB (if 1024<sum then out++s.map (fun h=>Yu h.1)else out))
def Zfu (r:Ya):Bool:=ZfO r.method&&(Zdn r.headers).length==0
def ZbI (r:Ya):Int:=
 if Zcx r.method !=0 then Zcx r.method
 else if !(r.mode==1||r.mode==2||r.mode==3)then 7
 else if ZbW r.headers !=0 then ZbW r.headers
 else if r.cls<1∨6<r.cls then 8
 else if 600<r.timeout then 9
 else if r.group<0∨r.signal<0 then 2
 else 0
def ZaZ (r:Ya):Int:=
 let u:=ZaJ r.url
 if u.2 !=0 then u.2 else
 let o:=YX r.origin
 if o.2 !=0 then o.2
 else if ZbI r !=0 then ZbI r
 else if(r.mode==1&&u.1.origin !=o.1)||(r.mode==2&& !Zfu r)then 7
 else 0
def Yz (r:Ya):Z3×Zs×Bool:=if ZaZ r !=0 then(Z3.zero,Zs.zero,false)else((ZaJ r.url).1,(YX r.origin).1,true)
def YJ (r:Ya):Ya:=if !(Yz r).2.2 then Ya.zero else{r with method:=ZdB r.method,url:=Zgi (Yz r).1,origin:=ZeA (Yz r).2.1,headers:=Zcy r.headers}
def ZfC (r:Ya):Bool:=(Yz r).2.2&&(Yz r).1.origin !=(Yz r).2.1
def ZaK (r:Ya):List Bs:=if ZaZ r !=0 then[]else Zdn r.headers
def Zdr (r:Ya):Bool:=r.mode==3&&ZfC r&& !Zfu r
def Zek (r:Ya):Bs:=if !(Yz r).2.2 then[]else Zft (Yz r).1.origin
structure Zes where
 origin:Bs
 url:Bs
 creds:Bool
 deriving DecidableEq
def Zdh (r:Ya):Zes:=⟨(YJ r).origin,(YJ r).url,(YJ r).creds⟩
structure Zdz where
 cell:Zes
 method:Bs
 names:Bs
 deriving DecidableEq
def ZbT (r:Ya):Zdz:=⟨Zdh r,(YJ r).method,Lib.join (ZaK r) [44]⟩
def Zfk (origin:Bs) (creds:Bool) (l:List (Bs×Bs)):Int:=
 let v:=Zc5 l [97,99,99,101,115,115,45,99,111,110,116,114,111,108,45,97,108,108,111,119,45,111,114,105,103,105,110]
 if v.2&&v.1==[42]&& !creds then 0
 else if !v.2||v.1 !=origin then 15
 else if creds&&(Zc5 l [97,99,99,101,115,115,45,99,111,110,116,114,111,108,45,97,108,108,111,119,45,99,114,101,100,101,110,116,105,97,108,115]).1 !=[116,114,117,101]then 15
 else 0
structure Zo where
 methods:List Bs
 headers:List Bs
 age:Nat
def Zo.zero:Zo:=⟨[],[],0⟩
def Zbp (l:List (Bs×Bs)) (name:Bs):Option (List Bs):=if(ZiW (Zc5 l name).1).all Zat then some (ZiW (Zc5 l name).1)else none
def ZbV (l:List (Bs×Bs)):Zo×Int:=match Zbp l [97,99,99,101,115,115,45,99,111,110,116,114,111,108,45,97,108,108,111,119,45,109,101,116,104,111,100,115]with
 |none=>(Zo.zero,5)
 |some ms=>match Zbp l [97,99,99,101,115,115,45,99,111,110,116,114,111,108,45,97,108,108,111,119,45,104,101,97,100,101,114,115]with
  |none=>(Zo.zero,6)
  |some hs=>
   let n:=Y8 (YL (Zc5 l [97,99,99,101,115,115,45,99,111,110,116,114,111,108,45,109,97,120,45,97,103,101]).1)
   (⟨ms,hs.map Yu,if n.2 then min n.1 7200 else 5⟩,0)
def Zp6 (a:Zo) (m:Bs) (creds:Bool):Bool:=ZfO m||a.methods.contains m||(!creds&&a.methods.contains [42])
def Zcb (a:Zo) (name:Bs) (creds:Bool):Bool:=a.headers.contains (Yu name)||(!creds&&Yu name !=[97,117,116,104,111,114,105,122,97,116,105,111,110]&&a.headers.contains [42])
def Zbg (r:Ya) (status:Int) (l:List (Bs×Bs)):Zo×Int:=
 if !Zdr r then(Zo.zero,2)
 else if Zfk (YJ r).origin (YJ r).creds l !=0 then(Zo.zero,Zfk (YJ r).origin (YJ r).creds l)
 else if status<200∨300≤status then(Zo.zero,14)
 else if(ZbV l).2 !=0 then(Zo.zero,(ZbV l).2)
 else if !Zp6 (ZbV l).1 (YJ r).method (YJ r).creds then(Zo.zero,5)
 else if(ZaK r).all (fun n=>Zcb (ZbV l).1 n (YJ r).creds)then((ZbV l).1,0)
 else(Zo.zero,6)
structure Zp where
 cell:Zes
 method:Bs
 header:Bs
 until_:Nat
 deriving DecidableEq
def ZhE (out:List Zp) (e:Zp):List Zp:=if out.contains e then out else out++[e]
def addT (a c:Nat):Nat:=if 18446744073709551615<a+c then 18446744073709551615 else a+c
def ZbO (r:Ya) (a:Zo) (now:Nat):List Zp:=
 if !Zdr r||a.age==0 then[]else
 let u:=addT now a.age
 let ms:=if a.methods.length==0 then[(YJ r).method]else a.methods
 let es:=ms.map (fun m=>(⟨Zdh r,m,[],u⟩:Zp))++a.headers.map (fun h=>(⟨Zdh r,[],h,u⟩:Zp))
 es.foldl ZhE []
open Go
section
variable {P:Program} {ops:Array Oper} {md:Region.Mode}
def Zgk (md:Region.Mode) (ops:Array Oper) (i:Nat) (acc:Array Bool) (j:Nat):Array Bool:=
 if(match ops[j]? with|some oj=>oj.after.any fun e=>Region.binds md e&&(e.on==i||acc.getD e.on false)|none=>false)then acc.setIfInBounds j true else acc
def Zr2 (md:Region.Mode) (ops:Array Oper) (i:Nat):Array Bool:=(List.range ops.size).foldl (Zgk md ops i) (Array.replicate ops.size false)
def ZeE (md:Region.Mode) (ops:Array Oper) (listed:Array Bool):Prop:=
 ∀j oj,ops[j]? =some oj→listed.getD j false=true→∀e∈oj.after,Region.binds md e=true→listed.getD e.on false=true
def Zqm (md:Region.Mode) (ops:Array Oper) (i:Nat) (acc:Array Bool):Prop:=
 ∀j,acc.getD j false=true→∀listed,ZeE md ops listed→listed.getD i false=false→listed.getD j false=false∧j∉Region.ready md ops listed
theorem Zo2 {acc:Array Bool} (h:Zqm md ops i acc) (j:Nat):Zqm md ops i (Zgk md ops i acc j):=by
 unfold Zgk
 cases hoj:ops[j]? with
 |none=>simpa using h
 |some oj=>
  simp only[]
  by_cases f:(oj.after.any fun e=>Region.binds md e&&(e.on==i||acc.getD e.on false))=true
  ·rw[if_pos f]
   obtain⟨e,o,c⟩:=Array.any_eq_true'.1 f
   simp only[Bool.and_eq_true,Bool.or_eq_true,beq_iff_eq]at c
   intro k n a l d
   by_cases m:j=k
   ·subst m
    have b:a.getD e.on false=false:=by
     rcases c.2 with g|g
     ·rw[g];exact d
     ·exact(h _ g a l d).1
    refine⟨?_,fun s=> ?_⟩
    ·cases hl:a.getD j false
     ·rfl
     ·rw[l j oj hoj hl e o c.1]at b;cases b
    ·obtain⟨_,r,q,p⟩:=mem_ready.1 s
     have:r=oj:=Option.some.inj (q.symm.trans hoj)
     subst this
     rw[p e o c.1]at b;cases b
   ·rw[getD_set_ne false m]at n
    exact h k n a l d
  ·rw[if_neg f];exact h
theorem ZoU (i:Nat):Zqm md ops i (Zr2 md ops i):=by
 have c:∀(l:List Nat) (a:Array Bool),Zqm md ops i a→Zqm md ops i (l.foldl (Zgk md ops i) a):=by
  intro l
  induction l with
  |nil=>exact fun a h=>h
  |cons j l ih=>exact fun a h=>ih _ (Zo2 h j)
 exact c _ _ fun j b=>by rw[getD_replicate_false]at b;cases b
variable {S:Nat→Bool} {Q:Exit→Act→World→Prop}
theorem Zaa {i:Nat} {listed:Array Bool} (hc:ZeE md ops listed) (hi:i∈Region.ready md ops listed):ZeE md ops (listed.setIfInBounds i true):=by
 obtain⟨_,l,k,h⟩:=mem_ready.1 hi
 intro j c g b e f d
 by_cases a:i=j
 ·subst a
  have:c=l:=Option.some.inj (g.symm.trans k)
  subst this
  exact getD_set_true (h e f d)
 ·rw[getD_set_ne false a]at b
  exact getD_set_true (hc j c g b e f d)
theorem ZdI {n:Act→World→Prop} {K:Act→World→Prop} (h:wpOp P ops (Exit.then n Q) i K a w):wpOp P ops Q i K a w:=by
 unfold wpOp at*
 split
 ·rename_i ho;simpa[ho]using h
 ·rename_i o ho
  simp only[ho]at h
  split
  ·rename_i b
   simp only[b,if_true]at h
   rcases h with h|⟨j,g,w',d⟩
   ·refine .inl ?_
    unfold Oper.wp at*
    generalize(execOp a.eval o).run P w=r at*
    cases r with
    |ok m w'=>
     cases m<;>simp only[Oper.upon]at h⊢
     case enter f args=>exact Calls.mono h fun e k c=>by cases e<;>first|exact c|(obtain⟨a,w,hx⟩:=c;exact⟨a,w,hx⟩)
     all_goals exact h
    |halt x w'=>cases x<;>simp only[Oper.upon]at h⊢<;>exact h
   ·exact .inr ⟨j,g,w',d⟩
  ·rename_i b;simp only[b]at h;exact h
end
section
variable {P:Program} {ops:Array Oper} {md:Region.Mode} {Q:Exit→Act→World→Prop}
def Zqo (P:Program) (ops:Array Oper) (S:World→Prop) (i:Nat) (K:Act→Prop) (a:Act):Prop:=
 ∃o v,ops[i]? =some o∧YieldsIf P ops S o v a∧K (a.put o.dst v)
def Z2 (P:Program) (ops:Array Oper) (Q:Exit→Act→World→Prop):List (Nat×Nat)→(World→Prop)→Act→World→Prop
 |[],_,a,w=>Q .normal a w
 |(i,0)::r,S,a,w=>Zqo P ops S i (fun a'=>Z2 P ops Q r S a' w) a
 |(i,1)::r,S,a,w=>wpOp P ops Q i (fun a' w'=>∃S':World→Prop,(∀W,S' W→S W)∧S' w'∧Z2 P ops Q r S' a' w') a w
 |(i,2)::r,_,a,w=>wpOp P ops Q i (fun a' w'=>∃S':World→Prop,S' w'∧Z2 P ops Q r S' a' w') a w
 |(i,_)::r,S,a,w=>Zqo P ops (fun _=>True) i (fun a'=>Z2 P ops Q r S a' w) a
def ZeD:List (Nat×Nat)→Option Nat
 |[]=>none
 |(_,0)::r=>ZeD r
 |(_,1)::r=>ZeD r
 |(i,2)::_=>some i
 |(_,_)::r=>ZeD r
def Zcw (P:Program) (md:Region.Mode) (ops:Array Oper) (Q:Exit→Act→World→Prop) (F:Option Nat) (S:World→Prop):Nat→Array Bool→Act→World→Prop
 |0,listed,a,w=>Region.ready md ops listed=[]∧Q .normal a w
 |fuel+1,listed,a,w=>
  (Region.ready md ops listed=[]→Q .normal a w)∧
  ∀i∈Region.ready md ops listed,if F=some i then wpOp P ops Q i (wpAny P md ops Q fuel (listed.setIfInBounds i true)) a w
   else wpOp P ops Q i (fun a' w'=>S w'∧Zcw P md ops Q F S fuel (listed.setIfInBounds i true) a' w') a w
theorem ZcQ:∀(fuel:Nat) (listed:Array Bool) (a:Act) (w:World),Zcw P md ops Q F S fuel listed a w→wpAny P md ops Q fuel listed a w
 |0,_,_,_,h=>h
 |fuel+1,_,_,_,h=>⟨h.1,fun i hi=>by
  have h2:=h.2 i hi
  split at h2
  ·exact h2
  ·exact wpOp_mono (fun a' w' h'=>ZcQ fuel _ a' w' h'.2) h2⟩
theorem Zce {S S':World→Prop} (h:∀W,S' W→S W):∀(fuel:Nat) (listed:Array Bool) (a:Act) (w:World),Zcw P md ops Q F S' fuel listed a w→Zcw P md ops Q F S fuel listed a w
 |0,_,_,_,hh=>hh
 |fuel+1,_,_,_,hh=>⟨hh.1,fun i hi=>by
  have h2:=hh.2 i hi
  split at h2
  ·rename_i hF;rw[if_pos hF];exact h2
  ·rename_i hF;rw[if_neg hF];exact wpOp_mono (fun a' w' h'=>⟨h _ h'.1,Zce h fuel _ a' w' h'.2⟩) h2⟩
theorem ZdL {F:Option Nat} {i:Nat} {oi:Oper} (hi:ops[i]? =some oi) (hsel:∀(j:Nat) (o:Oper) cs b,ops[j]? =some o→o.op≠ .select cs b)
  (hQ:∀c a w,Q (.panic c) (a.put oi.dst v) w→Q (.panic c) a w) (hF:F≠some i) (hd:∀j,F=some j→(Zr2 md ops i).getD j false=true):
  ∀(fuel:Nat) (listed:Array Bool) (a:Act) (w:World),ZeE md ops listed→
   (∀j oj,ops[j]? =some oj→j≠i→listed.getD j true=false→(∀e∈oj.after,Region.binds md e=true→e.on≠i)→oi.apart ops oj=true)→
   i∈Region.ready md ops listed→YieldsIf P ops S oi v a→S w→
   Zcw P md ops Q F S fuel (listed.setIfInBounds i true) (a.put oi.dst v) w→Zcw P md ops Q F S (fuel+1) listed a w:=by
 intro fuel
 induction fuel with
 |zero=>
  intro listed a w t r f p m H
  refine⟨fun h=>(by rw[h]at f;cases f),fun j g=> ?_⟩
  by_cases d:j=i
  ·subst d;rw[if_neg hF];exact p.wpOp hi m ⟨m,H⟩
  ·have:=ready_mono g d
   rw[H.1]at this
   cases this
 |succ fuel ih=>
  intro listed a w t r f p m H
  refine⟨fun h=>(by rw[h]at f;cases f),fun j g=> ?_⟩
  by_cases d:j=i
  ·subst d;rw[if_neg hF];exact p.wpOp hi m ⟨m,H⟩
  ·have l:=H.2 j (ready_mono g d)
   have y:listed.getD i false=false:=getD_both (mem_ready.1 f).1
   have L:F≠some j:=fun e=>(ZoU i j (hd j e) listed t y).2 g
   rw[if_neg L]at l⊢
   obtain⟨x,oj,s,E⟩:=mem_ready.1 g
   have G:∀e∈oj.after,Region.binds md e=true→e.on≠i:=fun e R V I=>by
    have l:=E e R V
    rw[I,y]at l
    cases l
   have T:=wpOp_putIf s (r j oj s d x G) (fun cs b=>hsel i oi cs b hi) (fun cs b=>hsel j oj cs b s) hQ p l
   have C:∀k n,ops[k]? =some n→k≠i→(listed.setIfInBounds j true).getD k true=false→
     (∀e∈n.after,Region.binds md e=true→e.on≠i)→oi.apart ops n=true:=fun k n N J A K=>by
    refine r k n N J ?_ K
    by_cases z:j=k
    ·subst z;exact x
    ·rw[getD_set_ne true z]at A;exact A
   refine wpOp_mono (fun O M q=>⟨q.2.1,ih (listed.setIfInBounds j true) O M (Zaa t g) C (ready_mono f (Ne.symm d)) q.1 q.2.1 ?_⟩) T
   rw[Array.setIfInBounds_comm _ _ d]
   exact q.2.2
theorem Zjj {S:World→Prop} (hS:∀W,S W):∀(fuel:Nat) (listed:Array Bool) (a:Act) (w:World),wpAny P md ops Q fuel listed a w→Zcw P md ops Q none S fuel listed a w
 |0,_,_,_,h=>h
 |fuel+1,_,_,_,h=>⟨h.1,fun i hi=>by
  rw[if_neg (by simp)]
  exact wpOp_mono (fun a' w' h'=>⟨hS _,Zjj hS fuel _ a' w' h'⟩) (h.2 i hi)⟩
theorem Zkn {i:Nat} {oi:Oper} (hi:ops[i]? =some oi) (hsel:∀(j:Nat) (o:Oper) cs b,ops[j]? =some o→o.op≠ .select cs b)
  (hQ:∀c a w,Q (.panic c) (a.put oi.dst v) w→Q (.panic c) a w) (fuel:Nat) (listed:Array Bool) (a:Act) (w:World) (hc:ZeE md ops listed)
  (hfree:∀j oj,ops[j]? =some oj→j≠i→listed.getD j true=false→(∀e∈oj.after,Region.binds md e=true→e.on≠i)→oi.apart ops oj=true)
  (hr:i∈Region.ready md ops listed) (hy:YieldsIf P ops (fun _=>True) oi v a) (H:wpAny P md ops Q fuel (listed.setIfInBounds i true) (a.put oi.dst v) w):wpAny P md ops Q (fuel+1) listed a w:=
 ZcQ (F:=none) (S:=fun _=>True) _ _ _ _ (ZdL hi hsel hQ (by simp) (fun j e=>by cases e) fuel listed a w hc hfree hr hy trivial (Zjj (fun _=>trivial) _ _ _ _ H))
theorem ZkI {F:Option Nat} {S:World→Prop} {i:Nat} {oi:Oper} (hi:ops[i]? =some oi) (hsel:∀(j:Nat) (o:Oper) cs b,ops[j]? =some o→o.op≠ .select cs b)
  (hQ:∀c a w,Q (.panic c) (a.put oi.dst v) w→Q (.panic c) a w) (hF:F≠some i):
  ∀(fuel:Nat) (listed:Array Bool) (a:Act) (w:World),ZeE md ops listed→
   (∀j oj,ops[j]? =some oj→j≠i→listed.getD j true=false→(∀e∈oj.after,Region.binds md e=true→e.on≠i)→oi.apart ops oj=true)→
   i∈Region.ready md ops listed→YieldsIf P ops (fun _=>True) oi v a→S w→
   Zcw P md ops Q F S fuel (listed.setIfInBounds i true) (a.put oi.dst v) w→Zcw P md ops Q F S (fuel+1) listed a w:=by
 intro fuel
 induction fuel with
 |zero=>
  intro listed a w y r f p z H
  refine⟨fun h=>(by rw[h]at f;cases f),fun j n=> ?_⟩
  by_cases d:j=i
  ·subst d;rw[if_neg hF];exact p.wpOp hi trivial ⟨z,H⟩
  ·have:=ready_mono n d
   rw[H.1]at this
   cases this
 |succ fuel ih=>
  intro listed a w y r f p z H
  refine⟨fun h=>(by rw[h]at f;cases f),fun j n=> ?_⟩
  by_cases d:j=i
  ·subst d;rw[if_neg hF];exact p.wpOp hi trivial ⟨z,H⟩
  ·have l:=H.2 j (ready_mono n d)
   have L:listed.getD i false=false:=getD_both (mem_ready.1 f).1
   obtain⟨s,oj,m,K⟩:=mem_ready.1 n
   have E:∀e∈oj.after,Region.binds md e=true→e.on≠i:=fun e T V M=>by
    have l:=K e T V
    rw[M,L]at l
    cases l
   have C:∀k q,ops[k]? =some q→k≠i→(listed.setIfInBounds j true).getD k true=false→
     (∀e∈q.after,Region.binds md e=true→e.on≠i)→oi.apart ops q=true:=fun k q R N I O=>by
    refine r k q R N ?_ O
    by_cases G:j=k
    ·subst G;exact s
    ·rw[getD_set_ne true G]at I;exact I
   by_cases J:F=some j
   ·rw[if_pos J]at l⊢
    have A:=wpOp_putIf m (r j oj m d s E) (fun cs b=>hsel i oi cs b hi) (fun cs b=>hsel j oj cs b m) hQ p l
    refine wpOp_mono (fun x t g=>Zkn hi hsel hQ fuel _ x t (Zaa y n) C (ready_mono f (Ne.symm d)) g.1 ?_) A
    rw[Array.setIfInBounds_comm _ _ d]
    exact g.2
   ·rw[if_neg J]at l⊢
    have A:=wpOp_putIf m (r j oj m d s E) (fun cs b=>hsel i oi cs b hi) (fun cs b=>hsel j oj cs b m) hQ p l
    refine wpOp_mono (fun x t g=>⟨g.2.1,ih (listed.setIfInBounds j true) x t (Zaa y n) C (ready_mono f (Ne.symm d)) g.1 g.2.1 ?_⟩) A
    rw[Array.setIfInBounds_comm _ _ d]
    exact g.2.2
def ZeI (md:Region.Mode) (ops:Array Oper):List (Nat×Nat)→Array Bool→Bool
 |[],listed=>(Region.ready md ops listed).isEmpty
 |(i,0)::r,listed=>(Region.ready md ops listed).contains i&&Region.free md ops listed i&&(match ZeD r with|some j=>i !=j&&(Zr2 md ops i).getD j false|none=>true)&&ZeI md ops r (listed.setIfInBounds i true)
 |(i,1)::r,listed=>Region.ready md ops listed==[i]&&(ZeD r !=some i)&&ZeI md ops r (listed.setIfInBounds i true)
 |(i,2)::r,listed=>Region.ready md ops listed==[i]&&ZeI md ops r (listed.setIfInBounds i true)
 |(i,_)::r,listed=>(Region.ready md ops listed).contains i&&Region.free md ops listed i&&(ZeD r !=some i)&&ZeI md ops r (listed.setIfInBounds i true)
theorem ZbQ (hs:Region.noSelect ops=true) (hQ:∀c a w t v,Q (.panic c) (a.put t v) w→Q (.panic c) a w):
  ∀(l:List (Nat×Nat)) (S:World→Prop) (listed:Array Bool) (a:Act) (w:World),ZeE md ops listed→ZeI md ops l listed=true→S w→Z2 P ops Q l S a w→Zcw P md ops Q (ZeD l) S l.length listed a w
 |[],S,listed,a,w,_,hB,_,h=>⟨by simpa[ZeI]using hB,h⟩
 |(i,0)::r,S,listed,a,w,hc,hB,hS,h=>by
  simp only[ZeI,Bool.and_eq_true]at hB
  obtain⟨o,v,ho,hy,hK⟩:=h
  have hr:i∈Region.ready md ops listed:=by simpa using hB.1.1.1
  refine ZdL (F:=ZeD r) ho (Region.noSelect_spec hs) (fun c a w=>hQ c a w _ _) (fun e=> ?_) (fun j e=> ?_) r.length listed a w hc (Region.free_spec ho hB.1.1.2) hr hy hS
   (ZbQ hs hQ r S _ _ _ (Zaa hc hr) hB.2 hS hK)
  ·have:=hB.1.2;rw[e]at this;simp at this
  ·have:=hB.1.2;rw[e]at this;simp only[Bool.and_eq_true]at this;exact this.2
 |(i,1)::r,S,listed,a,w,hc,hB,hS,h=>by
  simp only[ZeI,Bool.and_eq_true,beq_iff_eq]at hB
  refine⟨fun h0=>(by rw[hB.1.1]at h0;cases h0),fun j hj=> ?_⟩
  have hi:i∈Region.ready md ops listed:=by rw[hB.1.1];simp
  rw[hB.1.1]at hj
  obtain rfl:j=i:=by simpa using hj
  rw[if_neg (by have:=hB.1.2;simpa[ZeD]using this)]
  refine wpOp_mono (fun a' w' h'=> ?_) h
  obtain⟨S',h1,h2,h3⟩:=h'
  exact⟨h1 _ h2,Zce h1 _ _ _ _ (ZbQ hs hQ r S' _ _ _ (Zaa hc hi) hB.2 h2 h3)⟩
 |(i,n+3)::r,S,listed,a,w,hc,hB,hS,h=>by
  simp only[ZeI,Bool.and_eq_true]at hB
  obtain⟨o,v,ho,hy,hK⟩:=h
  have hr:i∈Region.ready md ops listed:=by simpa using hB.1.1.1
  exact ZkI (F:=ZeD r) ho (Region.noSelect_spec hs) (fun c a w=>hQ c a w _ _) (by simpa using hB.1.2) r.length listed a w hc (Region.free_spec ho hB.1.1.2) hr hy hS
   (ZbQ hs hQ r S _ _ _ (Zaa hc hr) hB.2 hS hK)
 |(i,2)::r,S,listed,a,w,hc,hB,hS,h=>by
  simp only[ZeI,Bool.and_eq_true,beq_iff_eq]at hB
  refine⟨fun h0=>(by rw[hB.1]at h0;cases h0),fun j hj=> ?_⟩
  have hi:i∈Region.ready md ops listed:=by rw[hB.1];simp
  rw[hB.1]at hj
  obtain rfl:j=i:=by simpa using hj
  rw[if_pos (by simp[ZeD])]
  refine wpOp_mono (fun a' w' h'=> ?_) h
  obtain⟨S',h2,h3⟩:=h'
  exact ZcQ _ _ _ _ (ZbQ hs hQ r S' _ _ _ (Zaa hc hi) hB.2 h2 h3)
def ZnE (md:Region.Mode) (ops:Array Oper) (l:List (Nat×Nat)):Bool:=Region.noSelect ops&&l.length==ops.size&&ZeI md ops l (Array.replicate ops.size false)
theorem ZR {id:Nat} {ol:List Oper} (l:List (Nat×Nat)) (S:World→Prop) (hm:P.follows .mixedOrders=true) (hB:ZnE .any ol.toArray l=true)
  (hQ:∀c a w t v,Q (.panic c) (a.put t v) w→Q (.panic c) a w) (hS:S {w with drawn:=w.drawn+1})
  (h:Z2 P ol.toArray Q l S a {w with drawn:=w.drawn+1}):(Code.region id ol.toArray true).wp P Q a w:=by
 simp only[ZnE,Bool.and_eq_true,beq_iff_eq]at hB
 obtain⟨⟨f,e⟩,hB⟩:=hB
 refine wp_region_any hm ?_
 have b:=ZbQ f hQ l S _ _ _ (fun j g _ d=>(by rw[getD_replicate_false]at d;cases d)) hB hS h
 rw[e]at b
 exact ZcQ _ _ _ _ b
theorem ZaF {i:Nat} {o:Oper} {S:World→Prop} {a a':Act} (ho:ops[i]? =some o) (hg:o.guard=none)
  (hv:∀W,S W→(execOp a.eval o).run P W= .ok (.value v) W) (ha:a.put o.dst v=a') (h:Z2 P ops Q r S a' w):Z2 P ops Q ((i,0)::r) S a w:=
 ⟨o,v,ho, .inl ⟨by simp[Region.wanted,hg],hv⟩,by rw[ha];exact h⟩
theorem ZfN {i:Nat} {o:Oper} {S:World→Prop} {a a':Act} (ho:ops[i]? =some o) (hg:Region.wanted o (yielded ops a.tmps)=true)
  (hv:∀W,S W→(execOp a.eval o).run P W= .ok (.value v) W) (ha:a.put o.dst v=a') (h:Z2 P ops Q r S a' w):Z2 P ops Q ((i,0)::r) S a w:=
 ⟨o,v,ho, .inl ⟨hg,hv⟩,by rw[ha];exact h⟩
theorem ZpL {i:Nat} {o:Oper} {a a':Act} (ho:ops[i]? =some o) (hg:o.guard=none)
  (hv:∀W,(execOp a.eval o).run P W= .ok (.value v) W) (ha:a.put o.dst v=a') (h:Z2 P ops Q r S a' w):Z2 P ops Q ((i,3)::r) S a w:=
 ⟨o,v,ho, .inl ⟨by simp[Region.wanted,hg],fun W _=>hv W⟩,by rw[ha];exact h⟩
theorem Zrc {i:Nat} {o:Oper} {a a':Act} (ho:ops[i]? =some o) (hg:Region.wanted o (yielded ops a.tmps)=false)
  (ha:a.put o.dst undef=a') (h:Z2 P ops Q r S a' w):Z2 P ops Q ((i,0)::r) S a w:=
 ⟨o,undef,ho, .inr ⟨hg,rfl⟩,by rw[ha];exact h⟩
theorem ZpT {i:Nat} {o:Oper} {S:World→Prop} (ho:ops[i]? =some o)
  (h:wpList P ops (Exit.then (fun a' w'=>∃S':World→Prop,(∀W,S' W→S W)∧S' w'∧Z2 P ops Q r S' a' w') Q) [o] a w):Z2 P ops Q ((i,1)::r) S a w:=by
 refine ZdI (n:=fun a' w'=>∃S':World→Prop,(∀W,S' W→S W)∧S' w'∧Z2 P ops Q r S' a' w') ?_
 unfold wpOp
 simp only[ho]
 exact h
theorem ZoT {i:Nat} {o:Oper} (ho:ops[i]? =some o)
  (h:wpList P ops (Exit.then (fun a' w'=>∃S':World→Prop,S' w'∧Z2 P ops Q r S' a' w') Q) [o] a w):Z2 P ops Q ((i,2)::r) S a w:=by
 refine ZdI (n:=fun a' w'=>∃S':World→Prop,S' w'∧Z2 P ops Q r S' a' w') ?_
 unfold wpOp
 simp only[ho]
 exact h
theorem ZK (h:Q .normal a w):Z2 P ops Q [] S a w:=h
end
section
variable {P:Program} {ops:Array Oper} {Q:Exit→Act→World→Prop}
theorem Jp {i:Nat} {o:Oper} {a a':Act} (h:Z2 P ops Q r S a' w)
 (ho:ops[i]? =some o:=by simp only[List.getElem?_toArray,List.getElem?_cons_succ,List.getElem?_cons_zero];rfl) (hg:o.guard=none:=by rfl)
 (hv:∀W,S W→(execOp a.eval o).run P W= .ok (.value v) W:=by intro W hW;(try dsimp only at hW);go_simp;rfl) (ha:a.put o.dst v=a':=by go_simp;rfl):Z2 P ops Q ((i,0)::r) S a w:=ZaF ho hg hv ha h
theorem Jn {i:Nat} {o:Oper} {a a':Act} (h:Z2 P ops Q r S a' w)
 (ho:ops[i]? =some o:=by simp only[List.getElem?_toArray,List.getElem?_cons_succ,List.getElem?_cons_zero];rfl) (hg:Region.wanted o (yielded ops a.tmps)=true:=by rfl)
 (hv:∀W,S W→(execOp a.eval o).run P W= .ok (.value v) W:=by intro W hW;(try dsimp only at hW);go_simp;rfl) (ha:a.put o.dst v=a':=by go_simp;rfl):Z2 P ops Q ((i,0)::r) S a w:=ZfN ho hg hv ha h
theorem Jf {i:Nat} {o:Oper} {a a':Act} (h:Z2 P ops Q r S a' w)
 (ho:ops[i]? =some o:=by simp only[List.getElem?_toArray,List.getElem?_cons_succ,List.getElem?_cons_zero];rfl) (hg:Region.wanted o (yielded ops a.tmps)=false:=by rfl)
 (ha:a.put o.dst undef=a':=by go_simp;rfl):Z2 P ops Q ((i,0)::r) S a w:=Zrc ho hg ha h
theorem Ju {i:Nat} {o:Oper} {a a':Act} (h:Z2 P ops Q r S a' w)
 (ho:ops[i]? =some o:=by simp only[List.getElem?_toArray,List.getElem?_cons_succ,List.getElem?_cons_zero];rfl) (hg:o.guard=none:=by rfl)
 (hv:∀W,(execOp a.eval o).run P W= .ok (.value v) W:=by intro W;go_simp;rfl) (ha:a.put o.dst v=a':=by go_simp;rfl):Z2 P ops Q ((i,3)::r) S a w:=ZpL ho hg hv ha h
theorem JE {i:Nat} {o:Oper} {S:World→Prop}
 (h:wpList P ops (Exit.then (fun a' w'=>∃S':World→Prop,(∀W,S' W→S W)∧S' w'∧Z2 P ops Q r S' a' w') Q) [o] a w)
 (ho:ops[i]? =some o:=by simp only[List.getElem?_toArray,List.getElem?_cons_succ,List.getElem?_cons_zero];rfl):Z2 P ops Q ((i,1)::r) S a w:=ZpT ho h
theorem JL {i:Nat} {o:Oper}
 (h:wpList P ops (Exit.then (fun a' w'=>∃S':World→Prop,S' w'∧Z2 P ops Q r S' a' w') Q) [o] a w)
 (ho:ops[i]? =some o:=by simp only[List.getElem?_toArray,List.getElem?_cons_succ,List.getElem?_cons_zero];rfl):Z2 P ops Q ((i,2)::r) S a w:=ZoT ho h
theorem Jz (h:Q .normal a w):∃S:World→Prop,S w∧Z2 P ops Q [] S a w:=⟨fun _=>True,trivial,h⟩
theorem Jr {id:Nat} {w:World} {ol:List Oper} (l:List Nat) (S:World→Prop) (hS:S {w with drawn:=w.drawn+1})
 (h:Z2 P ol.toArray Q l' S a {w with drawn:=w.drawn+1}) (hl:l.map (fun n=>(n/4,n%4))=l':=by simp only[List.map,Nat.reduceDiv,Nat.reduceMod];rfl) (hm:P.follows .mixedOrders=true:=by kernel_rfl) (hB:ZnE .any ol.toArray l'=true:=by kernel_rfl)
 (hQ:∀c a w t v,Q (.panic c) (a.put t v) w→Q (.panic c) a w:=by intro c a w t v h;cases t<;>exact h):(Code.region id ol.toArray true).wp P Q a w:=ZR l' S hm hB hQ hS h
end
variable {P:Program}
theorem Zaj (l:List UInt8) (n:Nat) (h:n<l.length):(⟨l.toArray⟩:ByteArray)[n]'(by simpa[ByteArray.size]using h)=l[n]:=by
 show(l.toArray)[n]'_=_
 simp
theorem Zeo {k:IntKind} {l:List UInt8} {z:Int} {n:Nat} (ht:P.underlying t=some .string) (hz:z=(n:Int)) (h:n<l.length) (W:World):
  (Instr.index t (.string ⟨l.toArray⟩) (.int k z)).run P W= .ok (.int .u8 ((l[n]).toNat:Int)) W:=by
 subst hz
 have a:n<(⟨l.toArray⟩:ByteArray).size:=by simpa[ByteArray.size]using h
 have e:(⟨l.toArray⟩:ByteArray)[n]? =some l[n]:=by rw[getElem?_pos (⟨l.toArray⟩:ByteArray) n a,Zaj l n h]
 simp[Instr.index,run_underlying ht,asIntOf,go_sem,e]
end Go.Lk
namespace Go.Proofs.YtlhapbopmplngaaGreatDoor
def Tryz.infoHeader:(Tryz.prog.info? 260).map (fun i=>(i.zero,i.size,i.bytes))=some (some (.agg #[.string ⟨#[]⟩, .string ⟨#[]⟩]),2,32):=by kernel_rfl
def Tryz.infoString:(Tryz.prog.info? 9).map (fun i=>(i.zero,i.size,i.bytes))=some (some (.string ⟨#[]⟩),1,16):=by kernel_rfl
def Tryz.infoInt:(Tryz.prog.info? 3).map (fun i=>(i.zero,i.size,i.bytes))=some (some (.int .i64 0),1,8):=by kernel_rfl
open Go.RowKit Go.Lk
def Zqt {w:World} {b j m:Nat} {cs:Array Value} (h:w.heap[b]? =some (.cells cs T (m,m+1))) (hj:j<m):w.frozen? ⟨b,j,none⟩=false:=by
 simp[World.frozen?,h];omega
def ZkB {P:Program} (w:World) (src dst e:TypeId) (x:List UInt8) (hs:P.underlying src=some .string) (hd:P.underlying dst=some (.slice e)) (he:P.underlying e=some (.int .u8)):
  ∃(row:Array Value) (c:Nat),(convert src dst (.string ⟨x.toArray⟩)).run P w= .ok (.slice (some ⟨w.heap.size,0,none⟩) x.length c) (w.drew.alloc (.cells row e (row.size,row.size+1)))∧x.length≤c∧x.length≤row.size∧∀(j:Nat) (h:j<x.length),row[j]? =some (B x[j]):=by
 refine⟨_,_,run_bytes_of_string w src dst e ⟨x.toArray⟩ hs hd he,grownCap_ge w _ 0 e,?_,fun j h=> ?_⟩
 ·unfold bytesRow;simp[ByteArray.size]
 ·rw[bytesRow_at _ _ j (by simpa using h)]
  simp[B]
def Zqb (c:UInt8) (h1:65≤c.toNat) (h2:c.toNat≤90):((Zmm c).toNat:Int)=(c.toNat:Int)-65+97:=by
 unfold Zmm
 rw[if_pos ⟨h1,h2⟩,UInt8.toNat_add,UInt8.toNat_sub]
 have a:(65:UInt8).toNat=65:=rfl
 have b:(97:UInt8).toNat=97:=rfl
 rw[a,b]
 omega
def YF (x:Bs) (w:World) (hx:x.length≤1000000):
  Calls Tryz.prog 173 #[.string ⟨x.toArray⟩] w fun e w'=>e= .returned (.string ⟨(Yu x).toArray⟩)∧Zg [] w w':=by
 obtain⟨row,c,Y,o,aa,H⟩:=ZkB (P:= Tryz.prog) w 9 29 5 x Tryz.underlying9 Tryz.underlying29 Tryz.underlying5
 have W:=D H
 clear H
 go_in
 go_upto_region 2 with fail
 obtain⟨T,q⟩:=Je ((w.alloc (.cells row 5 (row.size,row.size+1))).drew)
 have K:Zg [] w T:=by rw[q];exact((Zg.refl [] w).alloc _).drewN 1
 have g:T.heap[w.heap.size]? =some (.cells row 5 (row.size,row.size+1)):=by rw[q];exact Za _
 rw[←q]
 clear q Y;change Hid _ at K g
 obtain⟨m,G⟩:=Je row.size
 rw[←G]at g aa
 change Hid _ at G
 obtain⟨b,E⟩:=Je w.heap.size
 rw[←E]at g⊢
 change Hid _ at E
 go_wp2_with fail
 go_loopw[10] (fun v10 wr=>∃(k:Nat) (rw_:Array Value),k≤x.length∧v10= .int .i64 k∧wr.heap[b]? =some (.cells rw_ 5 (m,m+1))∧rw_.size=m∧(∀(j:Nat) (h:j<x.length),rw_[j]? =some (B (if j<k then Zmm x[j]else x[j])))∧Zg [] w wr) (fun v10 _=>x.length-(intOf v10).toNat)
 case atStart=>exact⟨0,row,by omega,rfl,g.out,G.symm,fun j h=>by rw[if_neg (by omega)];exact W j h,K.out⟩
 case round=>
  obtain⟨k,rw_,hk,rfl,d,M,L,S⟩:=hrel
  have l:=D M;have p:=D L;have r:=D S
  clear M L S
  by_cases ad:k<x.length
  ·obtain⟨y,F⟩:=Je (x[k])
   have V:wr.cell? ⟨b,k,none⟩=some (B y):=Zf d (by rw[p.out k ad,if_neg (by omega),F])
   have af:wr.frozen? ⟨b,k,none⟩=false:=Zqt d (by omega)
   have ae:=y.toNat_lt
   unfold B at V
   have C:=D d;have R:=D F
   clear d F
   by_cases n:65≤y.toNat∧y.toNat≤90
   ·obtain⟨N,h2⟩:=n
    have Q:(65:Int)≤(y.toNat:Int):=by omega
    have a2:(y.toNat:Int)≤90:=by omega
    have I:=Zqb y N h2
    have X:=D I
    clear I
    go_wp2_with fail
    refine⟨⟨k+1,rw_.setIfInBounds k (.int .u8 ((y.toNat:Int)-65+97)),by omega,by go_num,Zd C _,by rw[Array.size_setIfInBounds];exact l,fun j h=> ?_,r.setCell (.inl (by show w.heap.size≤b;rw[E.out];exact Xi _)) _⟩,by simp[intOf];omega⟩
    by_cases i:j=k
    ·subst i
     rw[Array.getElem?_setIfInBounds_self_of_lt (by rw[l.out];omega),if_pos (by omega),←R.out,←X.out];rfl
    ·rw[Array.getElem?_setIfInBounds_ne (fun e=>i e.symm),p.out j h]
     by_cases a:j<k
     ·rw[if_pos a,if_pos (by omega)]
     ·rw[if_neg a,if_neg (by omega)]
   ·have o:Zmm y=y:=by unfold Zmm;rw[if_neg n]
    have Z:=D o
    clear o
    have done:∀(j:Nat) (h:j<x.length),rw_[j]? =some (B (if j<k+1 then Zmm x[j]else x[j])):=fun j h=>by
     rw[p.out j h]
     by_cases i:j=k
     ·subst i
      rw[if_neg (by omega),if_pos (by omega),←R.out,Z.out]
     ·by_cases a:j<k
      ·rw[if_pos a,if_pos (by omega)]
      ·rw[if_neg a,if_neg (by omega)]
    have O:=D done
    clear done
    by_cases N:65≤y.toNat
    ·have Q:(65:Int)≤(y.toNat:Int):=by omega
     have a2:¬((y.toNat:Int)≤90):=by omega
     clear n
     go_wp2_with fail
     exact⟨⟨k+1,rw_,by omega,by go_num,C.out,l.out,O.out,r.out⟩,by simp[intOf];omega⟩
    ·have Q:¬((65:Int)≤(y.toNat:Int)):=by omega
     clear n
     go_wp2_with fail
     exact⟨⟨k+1,rw_,by omega,by go_num,C.out,l.out,O.out,r.out⟩,by simp[intOf];omega⟩
  ·have ac:k=x.length:=by omega
   have s:(Yu x).length=x.length:=by simp[Yu]
   have J:ZbD wr (.slice (some ⟨b,0,none⟩) (Yu x).length c) (Yu x):=⟨some ⟨b,0,none⟩,c,rfl,by rw[s];exact o,fun j z a=>by
    have ab:j<x.length:=by have:=(Jk a);omega
    refine⟨b,0,rfl,Zf d ?_⟩
    rw[Nat.zero_add,p.out j ab,if_pos (by omega)]
    have:=(List.getElem?_eq_some_iff.1 a).2
    simp only[Yu,List.getElem_map]at this
    rw[this]⟩
   have hs:=J.str (P:= Tryz.prog) 29 9 5 Tryz.underlying29 Tryz.underlying5 Tryz.underlying9
   rw[s]at hs
   clear d J s ac
   go_wp2_with fail
   go_ret
   exact⟨rfl,r.out⟩
def Zfs (x y:Bs) (w:World) (hx:x.length≤1000000) (hy:y.length≤1000000):
  Calls Tryz.prog 246 #[.string ⟨x.toArray⟩, .string ⟨y.toArray⟩] w fun e w'=>e= .returned (.bool (ZbU x y))∧Zg [] w w':=by
 obtain⟨l,b⟩:=Je (Yu x)
 obtain⟨g,a⟩:=Je (Yu y)
 have k:=D (show ZbU x y=(l==g)by unfold ZbU;rw[b,a])
 have c:=YF x w hx
 rw[←b]at c
 have n:=D c
 have d:∀w,Calls Tryz.prog 173 #[.string ⟨y.toArray⟩] w fun e w'=>e= .returned (.string ⟨g.toArray⟩)∧Zg [] w w':=fun w=>by rw[a];exact YF y w hy
 have j:=D d
 clear b a c d
 rw[k.out]
 go_in
 go_wp2_with fail
 refine n.out.mono ?_
 rintro e m ⟨rfl,i⟩
 go_wp2_with fail
 refine(j.out m).mono ?_
 rintro e o ⟨rfl,h⟩
 go_wp2_with fail
 go_ret
 exact⟨by first|rfl|simp,i.trans h⟩
def Zhd (c:UInt8) (w:World):
  Calls Tryz.prog 295 #[.int .u8 (c.toNat:Int)] w fun e w'=>e= .returned (.bool (ZcT c))∧w=w':=by
 by_cases h:48≤c.toNat
 ·have e:ZcT c=decide ((c.toNat:Int)≤57):=by simp[ZcT,h];omega
  rw[e]
  go_in
  go_wp2
  go_ret
  exact⟨rfl,rfl⟩
 ·have e:ZcT c=false:=by simp[ZcT,h]
  rw[e]
  go_in
  go_wp2
  go_ret
  exact⟨rfl,rfl⟩
def ZcC (s:List UInt8) (w:World) (hlen:s.length≤1000000):
  Calls Tryz.prog 258 #[.string ⟨s.toArray⟩] w fun e w'=>e= .returned (.tuple #[.int .u64 ((Y8 s).1:Int), .bool (Y8 s).2])∧w=w':=by
 go_in
 go_wp2_with fail
 go_loopw[4,9] (fun v4 v9 wr=>∃(k:Nat) (n:Nat),k≤s.length∧v9= .int .i64 k∧v4= .int .u64 n∧n=min (Zn3 (s.take k)) 18446744073709551615∧(s.take k).all ZcT=true∧wr=w) (fun _ v9 _=>s.length-(intOf v9).toNat)
 case atStart=>exact⟨0,0,by omega,rfl,rfl,by simp[Zn3],by simp,rfl⟩
 case round=>
  obtain⟨k,n,E,rfl,rfl,q,ha,rfl⟩:=hrel
  have b:=D q;have r:=D ha;clear q ha
  by_cases j:k<s.length
  ·have hg:=Zaj s k j
   go_wp2_with fail
   refine(Zhd _ _).mono ?_
   rintro e F ⟨rfl,rfl⟩
   obtain⟨c,d⟩:=Je (s[k])
   rw[←d]at hg⊢
   change Hid _ at d
   obtain⟨y,a⟩:=Je (ZcT c)
   rw[←a]
   change Hid _ at a
   have l:s.take (k+1)=s.take k++[c]:=by rw[Xr j,d.out]
   change Hid _ at l
   cases y
   ·have p:Y8 s=(0,false):=by
     unfold Y8
     rw[if_neg]
     intro h
     rw[Xk]at h
     have:=h c (by rw[d.out];exact List.getElem_mem j)
     rw[←a.out]at this;cases this
    have x:=D p;clear p
    go_wp2
    go_ret2
    rw[x.out]
    exact⟨rfl,rfl⟩
   ·have hd:48≤c.toNat∧c.toNat≤57:=by have:=a.out;simp[ZcT]at this;omega
    have o:((c.toNat:Int)-48)=((c.toNat-48:Nat):Int):=by omega
    have z:n≤18446744073709551615:=by have:=b.out;omega
    have g:(s.take (k+1)).all ZcT=true:=by rw[l.out,List.all_append,r.out];simp[←a.out]
    have i:Zn3 (s.take (k+1))=10*Zn3 (s.take k)+(c.toNat-48):=by rw[l.out];simp[Zn3,List.foldl_append]
    have G:=D o
    clear o;change Hid _ at g i
    by_cases C:(18446744073709551615-(c.toNat-48))/10<n
    ·go_wp2_with fail
     refine⟨⟨k+1,18446744073709551615,by omega,by go_num,rfl,?_,g.out,trivial⟩,by simp[intOf];omega⟩
     rw[i.out];have:=b.out;omega
    ·go_wp2_with fail
     refine⟨⟨k+1,10*n+(c.toNat-48),by omega,by go_num,?_,?_,g.out,trivial⟩,by simp[intOf];omega⟩
     ·congr 1;omega
     ·rw[i.out];have:=b.out;omega
  ·obtain rfl:k=s.length:=by omega
   have m:s.all ZcT=true:=by have:=r.out;rwa [Xm]at this
   have t:Y8 s=(n,decide (s≠[])):=by
    unfold Y8;rw[if_pos m];have:=b.out;rw[Xm]at this;rw[this]
   clear m;change Hid _ at t
   go_wp2
   go_ret2
   rw[t.out]
   refine⟨?_,rfl⟩
   cases s<;>rfl
def Zfo:(Tryz.prog.info? 360).map (fun i=>(i.zero,i.size,i.bytes))=some (some (.agg #[.string ⟨#[]⟩, .int .i64 0]),2,24):=by kernel_rfl
def Zqz:Zu Tryz.prog 360 2=true:=by kernel_rfl
def Zpo:(Tryz.prog.info? 360).map (fun i=>(i.size,i.bytes))=some (2,24):=by kernel_rfl
def ZgS:Zc1 Tryz.prog 291 360 2:=by
 intro α E p g B v l w F H K R
 exact ZhW Zqz
def ZjM:Zco Tryz.prog 293 360 2:=by
 intro g cap i j J xs w F H U I
 exact ZjS (Zb3 Zpo) Tryz.underlying282 (ZbY (k:=2) Tryz.underlying282 (fun w=> Tryz.zeroValue360 w) rfl rfl (by simp[Value.oneCell']) J H U I)
end Go.Proofs.YtlhapbopmplngaaGreatDoor
