import Derived.Test.YtbgbeddbfaopgaaGreatDoorZ6
set_option linter.all false
set_option maxHeartbeats 16000000
set_option maxRecDepth 100000
set_option autoImplicit true
set_option relaxedAutoImplicit true
namespace Go.Proofs.YtbgbeddbfaopgaaGreatDoor
open Go.RowKit Go.Lk
def ZO (c:Zbe):List Value:=[.int .i64 c.num, .string ⟨c.key.toArray⟩, .int .u64 c.until_]
theorem Zae (x:Zbe):∀u∈ZO x,u.oneCell'=true:=by
 intro u a;simp only[ZO,List.mem_cons,List.not_mem_nil,or_false]at a;rcases a with rfl|rfl|rfl<;>rfl
structure ZjO (p:ZaX):Prop where
 tot:1≤p.total∧p.total≤32
 few:(p.busy.length:Int)+p.idle.length≤p.total
 hosts:p.hosts.length≤32
 uses:∀x∈p.hosts,0≤x.uses∧x.uses≤6
 last:0≤p.last
 keep:p.keep≤18446744073709551615
structure Zah (w:World) (b:Nat) (p:ZaX) (vb vi:Value) (hb:Nat) (Gb Gi Gh:List Nat):Prop where
 blk:w.heap[b]? =some (.cells #[vb,vi, .int .i64 p.total, .int .u64 p.keep, .pointer (some ⟨hb,0,none⟩), .int .i64 p.last] 122 (0,0))
 busy:Zj 243 3 vb (p.busy.map ZO) w Gb
 idle:Zj 243 3 vi (p.idle.map ZO) w Gi
 hosts:Yj hb p.hosts w Gh
 nb:b∉Gb
 ni:b∉Gi
 nh:b∉Gh
 bi:Z8 Gb Gi
 bh:Z8 Gb Gh
 ih:Z8 Gi Gh
 ok:ZjO p
theorem Zah.upd {hb:Nat} {Gb Gi Gh G:List Nat} (h:Zah w b p vb vi hb Gb Gi Gh) (hu:Zg G w w1) (hd:∀k∈b::(Gb++Gi++Gh),k∉G):Zah w1 b p vb vi hb Gb Gi Gh:=
 ⟨(hu.block b (Jg h.blk) (hd b (by simp))).trans h.blk,(Zd _ _ _ _).upd h.busy hu (fun k hk=>hd k (by simp[hk])),(Zd _ _ _ _).upd h.idle hu (fun k hk=>hd k (by simp[hk])),
  (ZA _ _).upd h.hosts hu (fun k hk=>hd k (by simp[hk])),h.nb,h.ni,h.nh,h.bi,h.bh,h.ih,h.ok⟩
theorem Zah.lt {hb:Nat} {Gb Gi Gh:List Nat} (h:Zah w b p vb vi hb Gb Gi Gh):∀k∈b::(Gb++Gi++Gh),k<w.heap.size:=fun k hk=>by
 rcases List.mem_cons.1 hk with rfl|hk
 ·exact(Jg h.blk)
 ·rcases List.mem_append.1 hk with hk|hk
  ·rcases List.mem_append.1 hk with hk|hk
   ·exact(Zd _ _ _ _).lt h.busy k hk
   ·exact(Zd _ _ _ _).lt h.idle k hk
  ·exact(ZA _ _).lt h.hosts k hk
def YE (b:Nat) (p:ZaX):YG:=fun w F=>∃(vb vi:Value) (hb:Nat) (Gb Gi Gh:List Nat),F=b::(Gb++Gi++Gh)∧Zah w b p vb vi hb Gb Gi Gh
theorem ZZ (b:Nat) (p:ZaX):(YE b p).Local where
 lt:=by rintro w F ⟨vb,vi,hb,Gb,Gi,Gh,rfl,h⟩;exact h.lt
 upd:=by rintro w w1 F G ⟨vb,vi,hb,Gb,Gi,Gh,rfl,h⟩ hu hF;exact⟨vb,vi,hb,Gb,Gi,Gh,rfl,h.upd hu hF⟩
theorem ZmC (x:Zbe) (box:Nat) (num:Int) (W:World) (hc:W.cell? ⟨box,0,none⟩=some (.int .i64 num)):
  Calls Tryz.prog 280 #[.agg #[.int .i64 x.num, .string ⟨x.key.toArray⟩, .int .u64 x.until_], .pointer (some ⟨box,0,none⟩)] W fun e w'=>e= .returned (.bool (x.num==num))∧Zg [] W w':=by
 have a:=ZaI hc
 have b:box≠W.heap.size:=by omega
 go_enter Tryz.func280,Tryz.ntmps280
 go_wp2
 go_ret
 exact⟨rfl,(Zg.refl _ _).alloc _⟩
theorem ZjW (x:Zbe) (box:Nat) (now:Nat) (W:World) (hc:W.cell? ⟨box,0,none⟩=some (.int .u64 now)):
  Calls Tryz.prog 143 #[.agg #[.int .i64 x.num, .string ⟨x.key.toArray⟩, .int .u64 x.until_], .pointer (some ⟨box,0,none⟩)] W fun e w'=>e= .returned (.bool (decide (x.until_≤now)))∧Zg [] W w':=by
 have a:=ZaI hc
 have b:box≠W.heap.size:=by omega
 go_enter Tryz.func143,Tryz.ntmps143
 go_wp2
 go_ret
 exact⟨rfl,(Zg.refl _ _).alloc _⟩
theorem Zoi {l:List Zbe} (h:Zj 243 3 v (l.map ZO) w G) (num:Int):
  Calls Tryz.prog 207 #[v, .int .i64 num] w fun e w'=>e= .returned (.int .i64 (YL (fun c=>c.num==num) l))∧Zg [] w w':=by
 obtain⟨q,a⟩:=Je (w.alloc (.cells #[.int .i64 num] 3))
 have d:=Ja a
 have b:=Jh a
 have k:=(Zd _ _ _ _).upd h d (by simp)
 have g:=Zn2 ZO (fun c=>c.num==num) 280 #[.pointer (some ⟨w.heap.size,0,none⟩)] k (enters_of Tryz.func280 (by kernel_rfl) rfl) (fun W x _ p=>ZmC x w.heap.size num W (by
  have:=(p.block w.heap.size (Jg b) (by simp)).trans b
  exact Zc (i:=0) this rfl))
 have n:=D g
 obtain⟨r,m⟩:=Je (YL (fun c:Zbe=>c.num==num) l)
 rw[←m]at n⊢
 clear g b k m h;change Hid _ at a d
 go_enter Tryz.func207,Tryz.ntmps207
 go_upto_region 1 with fail
 rw[←a.out]
 go_wp2_with fail
 refine n.out.mono ?_
 rintro e s ⟨rfl,j⟩
 have o:=Jt d j
 clear j
 go_wp2_with fail
 go_ret
 exact⟨rfl,o.out⟩
theorem Zpi (h:YE b p w F):
  Calls Tryz.prog 52 #[.pointer (some ⟨b,0,none⟩)] w fun e w'=>e= .returned (.int .i64 p.busy.length)∧w'=w:=by
 obtain⟨n,m,k,j,g,l,rfl,h⟩:=h
 obtain⟨A,c,rfl,_⟩:=h.busy.form'
 have a:=h.blk
 rw[Xb]at a
 have d:=Zc (i:=0) a rfl
 simp only[List.getElem_toArray,Xv]at d
 clear h a
 go_enter Tryz.func52,Tryz.ntmps52
 go_wp2
 go_ret
 exact⟨rfl,rfl⟩
theorem Zmz (l:List Zbe) (key:Bs) {k:Nat} (h:l[k]? =some x):((l.take (k+1)).filter fun c=>c.key==key).length=((l.take k).filter fun c=>c.key==key).length+if x.key==key then 1 else 0:=by
 rw[ZY h,List.filter_append];simp only[Xd];congr 1
 cases hp:x.key==key<;>simp[hp]
theorem ZnL (h:YE b p w F) (key:Bs):
  Calls Tryz.prog 146 #[.pointer (some ⟨b,0,none⟩), .string ⟨key.toArray⟩] w fun e w'=>e= .returned (.int .i64 (Zns p key))∧Zg [] w w':=by
 obtain⟨vb,vi,X,V,Y,Z,rfl,h⟩:=h
 obtain⟨A,c,rfl,O,y⟩:=h.busy.lies
 have k:=h.blk
 rw[Xb]at k O
 have L:=Zc (i:=0) k rfl
 simp only[List.getElem_toArray,Xv]at L
 have P:p.busy.length≤32:=by have:=h.ok.few;have:=h.ok.tot;omega
 have N:=D y
 obtain⟨l,o⟩:=Je p.busy
 rw[←o]at N P L O
 have Q:=D (show Zns p key=(l.filter fun c=>c.key==key).length by rw[o];rfl)
 have g:=D (show Zu Tryz.prog 243 3=true by kernel_rfl)
 clear y h k o
 go_enter Tryz.func146,Tryz.ntmps146
 go_wp2
 go_loopw[5,15] (fun s5 s15 wr=>∃kk m:Nat,kk≤l.length∧m≤kk∧s15= .int .i64 kk∧s5= .int .i64 m∧Hid (m=((l.take kk).filter fun c=>c.key==key).length)∧Hid (Zg [] w wr)) (fun _ s15 _=>l.length-(intOf s15).toNat)
 case atStart=>exact⟨0,0,Xn _,Xn _,rfl,rfl,D (by simp),D (Zg.refl [] w)⟩
 case round=>
  obtain⟨kk,m,T,hm,rfl,rfl,j,r⟩:=hrel
  by_cases R:kk<l.length
  ·obtain⟨x,hx⟩:∃x,l[kk]? =some x:=⟨_,Xa R⟩
   obtain⟨W,rfl,I⟩:=N.out kk (ZO x) (by rw[Xe,hx];rfl)
   have J:=D (I.upd r (by simp))
   have M:=D (show(ZO x).toArray.all (·.oneCell')=true by rw[Xl,Xk];exact Zae x)
   have n:=D (Za (w:=wr) (.cells #[.int .i64 0, .string ⟨#[]⟩, .int .u64 0] 243 (0,0)))
   obtain⟨s,a⟩:=Je ((wr.alloc (.cells #[.int .i64 0, .string ⟨#[]⟩, .int .u64 0] 243 (0,0))).setRow wr.heap.size (ZO x).toArray)
   have E:s.heap[wr.heap.size]? =some (.cells (ZO x).toArray 243 (0,0)):=by rw[a];exact setRow_heap _ _ _ _ _ _ n.out
   have H:Zg [] wr s:=by rw[a];exact((Zg.refl [] wr).alloc _).setRow (.inl (Xi _)) _
   have S:s.cell? ⟨wr.heap.size,1,none⟩=some (.string ⟨x.key.toArray⟩):=Zc E rfl
   have C:=Jt r H
   have G:=D (Zmz l key hx)
   obtain⟨q,d⟩:=Je ((x.key==key))
   have K:=D d
   clear hx I E H;change Hid _ at a
   cases q with
   |true=>
    have z:(x.key==key)=true:=d.symm
    clear d
    go_wp2_with(first|refine Js J g ?_|(refine Jo (ZO x).toArray n g M ?_;rw[←a.out]))
    go_roundw
    case rel=>exact⟨kk+1,m+1,by omega,by omega,by go_num,by go_num,D (by rw[G.out,←K.out,←j.out];rfl),C⟩
    case measure=>simp[intOf];omega
   |false=>
    have z:(x.key==key)=false:=d.symm
    clear d
    go_wp2_with(first|refine Js J g ?_|(refine Jo (ZO x).toArray n g M ?_;rw[←a.out]))
    go_roundw
    case rel=>exact⟨kk+1,m,by omega,by omega,by go_num,rfl,D (by rw[G.out,←K.out,←j.out];rfl),C⟩
    case measure=>simp[intOf];omega
  ·obtain rfl:kk=l.length:=by omega
   rw[Xm]at j
   go_wp2
   go_ret
   exact⟨by rw[Q.out,←j.out];rfl,r.out⟩
theorem Zln (h:YE b p w F) (key:Bs):
  Calls Tryz.prog 81 #[.pointer (some ⟨b,0,none⟩), .string ⟨key.toArray⟩] w fun e w'=>e= .returned (.bool (Zf2 p key))∧Zg [] w w':=by
 have q:=D (fun(W:World) (d:Zg [] w W)=>ZnL ((ZZ _ _).upd h d (by simp)) key)
 obtain⟨I,G,y,x,C,E,rfl,h⟩:=h
 obtain⟨A,c,rfl,_⟩:=h.busy.form'
 have g:=h.blk
 rw[Xb]at g
 have k:=Zc (i:=0) g rfl
 have n:=Zc (i:=2) g rfl
 simp only[List.getElem_toArray,Xv,List.getElem_cons_succ]at k n
 obtain⟨u,d⟩:=Je (Zns p key)
 obtain⟨r,l⟩:=Je (Zf2 p key)
 have s:=D (show r=(decide ((p.busy.length:Int)<p.total)&&decide ((u:Int)<6))by rw[l,d];unfold Zf2;congr 1;rw[decide_eq_decide];omega)
 rw[←l]
 rw[←d]at q
 clear h g d l
 by_cases j:(p.busy.length:Int)<p.total
 ·have a:=s.out
  rw[decide_eq_true j,Bool.true_and]at a
  have m:=D a
  clear a
  go_enter Tryz.func81,Tryz.ntmps81
  go_wp2_with fail
  refine Jr [0,4,8,12,16,20,24,28,32,36,40,44,48,52,56,60,64,70,72,76,80] (fun W=>W.cell? ⟨b,0,none⟩=some (.slice A p.busy.length c)∧W.cell? ⟨b,2,none⟩=some (.int .i64 p.total)) ⟨k,n⟩ ?_
  repeat first|refine Jn ?_|refine Jf ?_|refine Ju ?_
  refine JL ?_
  simp only[Xu]
  go_wp2_with fail
  refine(q.out _ ((Zg.refl [] w).drewN 1)).mono ?_
  rintro e H ⟨rfl,o⟩
  have t:=D (((Zg.refl [] w).drewN 1).trans o (by simp));clear o
  go_wp2_with fail
  refine⟨fun _=>True,trivial,?_⟩
  repeat first|refine Jn ?_|refine Jf ?_|refine Ju ?_
  refine ZL ?_
  go_wp2_with fail
  go_ret
  exact⟨by rw[m.out];rfl,t.out⟩
 ·have a:=s.out
  rw[decide_eq_false j,Bool.false_and]at a
  have m:=D a
  have z:decide ((p.busy.length:Int)<p.total)=false:=decide_eq_false j
  clear a
  go_enter Tryz.func81,Tryz.ntmps81
  go_wp2_with fail
  refine Jr [0,4,8,12,16,20,24,28,32,36,40,44,48,52,56,60,64,68,72,76,80] (fun W=>W.cell? ⟨b,0,none⟩=some (.slice A p.busy.length c)∧W.cell? ⟨b,2,none⟩=some (.int .i64 p.total)) ⟨k,n⟩ ?_
  repeat first|refine Jn ?_|refine Jf ?_|refine Ju ?_
  refine ZL ?_
  go_wp2_with fail
  go_ret
  exact⟨by rw[m.out];rfl,(Zg.refl [] w).drewN 1⟩
theorem Zfd:(Tryz.prog.info? 3).map (fun i=>(i.zero,i.size,i.bytes))=some (some (.int .i64 0),1,8):=by kernel_rfl
theorem Zpy (p:Int→Bool) (g:FuncId) (lb:Array Value) (I:List Int→YG) (hI:∀d,(I d).Local) {l:List Int}
  (h:Zj 3 1 v (l.map fun x=>[Value.int .i64 x]) w F) (h0:I [] w G) (hFG:Z8 F G) (eg:∀args w,(callFunc g args).run Tryz.prog w= .ok (.enter g args) w)
  (hp:∀(W:World) (G1:List Nat) (d r:List Int) (x:Int),l=d++x::r→I d W G1→Zg (F++G) w W→Calls Tryz.prog g (#[Value.int .i64 x]++lb) W fun e w'=>e= .returned (.bool (p x))∧∃G',I (d++[x]) w' G'∧Zi W w' G1 G'):
  Calls Tryz.prog 274 #[v, .func (.func g) #[] lb] w fun e w'=>e= .returned (.int .i64 (YL p l))∧∃G',I (ZcL p l) w' G'∧Zi w w' G G':=by
 obtain⟨A,c,rfl,hc,J⟩:=h.lies1
 have n:=h.2.1
 have q:=h.le
 have P:=h.foot
 rw[Xb]at hc q⊢
 have HK:=D n;have X:=D hp;have V:=D J;have HI:=D hI;have Z:=D P;have R:=D hFG;have S:=D h0
 have ac:l.length≤9223372036854775807:=by unfold maxLen at q;omega
 clear h n hp J q hI P hFG h0
 go_enter Tryz.func274,Tryz.ntmps274
 go_wp2
 go_loopw[5,8] (fun _ s8 wr=>∃(kk:Nat) (G':List Nat),kk≤l.length∧s8= .int .i64 kk∧Hid (I (l.take kk) wr G'∧Zi w wr G G')∧Hid (∀(j:Nat) (x:Int),j<kk→l[j]? =some x→p x=false)) (fun _ s8 _=>l.length-(intOf s8).toNat)
 case atStart=>exact⟨0,G,Xn _,rfl,D ⟨S,Zi.refl w G⟩,D (fun j x N=>absurd N (Nat.not_lt_zero _))⟩
 case round=>
  obtain⟨kk,G',ad,rfl,a,i⟩:=hrel
  by_cases z:kk<l.length
  ·obtain⟨x,hx⟩:∃x,l[kk]? =some x:=⟨_,Xa z⟩
   have Q:=Xc hx
   obtain⟨C,rfl,K⟩:=V.out kk [Value.int .i64 x] (by rw[Xe,hx];rfl)
   have M:C∉G:=R.out C (Z.out C rfl)
   have aa:=Zb.one (K.upd a.out.2.upd M) rfl
   have E:=D hx
   have T:=D (X.out wr G' (l.take kk) (l.drop (kk+1)) x (Zcp hx) a.out.1 (a.out.2.upd.weaken (fun k n=> .inr (List.mem_append_right _ n))))
   have Y:=D (ZY hx)
   obtain⟨b,m⟩:=Je (p x)
   clear hx K Q M;change Hid _ at m
   go_wp2_with fail
   refine T.out.mono ?_
   rintro e O ⟨rfl,o,s⟩
   rw[←m.out]
   have L:=D (show I (l.take (kk+1)) O o∧Zi w O G o by rw[Y.out];exact⟨s.1,a.out.2.trans s.2⟩)
   clear s
   cases b with
   |true=>
    go_wp2
    go_ret
    refine⟨?_,o,?_⟩
    ·rw[Zao z (by rw[E.out]) m.symm i.out];rfl
    ·rw[Zgv z E m.symm i.out];exact L.out
   |false=>
    go_wp2
    go_roundw
    case rel=>
     refine⟨kk+1,o,by omega,by go_num,L,D (fun j y N H=> ?_)⟩
     by_cases e:j=kk
     ·subst e;rw[E.out]at H;cases H;exact m.symm
     ·exact i j y (by omega) H
    case measure=>simp[intOf];omega
  ·obtain rfl:kk=l.length:=by omega
   go_wp2
   go_ret
   refine⟨?_,G',?_⟩
   ·rw[YY i.out];rfl
   ·rw[Zfc i.out];rw[Xm]at a;exact a.out
theorem Zqm (p:Int→Bool) (g:FuncId) (lb:Array Value) (I:List Int→YG) (hI:∀d,(I d).Local) {l:List Int}
  (h:Zj 3 1 v (l.map fun x=>[Value.int .i64 x]) w F) (h0:I [] w G) (hFG:Z8 F G) (eg:∀args w,(callFunc g args).run Tryz.prog w= .ok (.enter g args) w)
  (hp:∀(W:World) (G1:List Nat) (d r:List Int) (x:Int),l=d++x::r→I d W G1→Zg (F++G) w W→Calls Tryz.prog g (#[Value.int .i64 x]++lb) W fun e w'=>e= .returned (.bool (p x))∧∃G',I (d++[x]) w' G'∧Zi W w' G1 G'):
  Calls Tryz.prog 282 #[v, .func (.func g) #[] lb] w fun e w'=>∃v',e= .returned v'∧Zj 3 1 v' ((l.filter fun x=> !p x).map fun x=>[Value.int .i64 x]) w' F∧∃G',I l w' G'∧Z8 F G'∧Zg (F++G) w w'∧∀k∈G',k∈G∨w.heap.size≤k:=by
 have ei:∀args w,(callFunc 274 args).run Tryz.prog w= .ok (.enter 274 args) w:=enters_of Tryz.func274 (by kernel_rfl) rfl
 have hx:=Zpy p g lb I hI h h0 hFG eg hp
 have ae:=(Zd 3 1 v (l.map fun x=>[Value.int .i64 x])).lt h
 have q:=D hx;have HH:=D h;have K:=D hFG
 cases hq:l.findIdx? p with
 |none=>
  have ag:l.filter (fun x=> !p x)=l:=by
   rw[List.filter_eq_self];intro x hm;rw[List.findIdx?_eq_none_iff]at hq;rw[hq x hm];rfl
  have z:ZcL p l=l:=by unfold ZcL;rw[hq]
  rw[Yo hq,z]at hx
  rw[ag]
  have q:=D hx
  clear hx hq ag z h h0 hFG hp
  go_enter Tryz.func282,Tryz.ntmps282
  go_wp2_with fail
  refine q.out.mono ?_
  rintro e w1 ⟨rfl,G1,H⟩
  have n:=D H;clear H
  go_wp2_with fail
  go_ret
  refine⟨v,rfl,(Zd _ _ _ _).upd HH n.out.2.upd K,G1,n.out.1,?_,n.out.2.upd.weaken (fun k a=> .inr (by simp[a])),n.out.2.new⟩
  intro k a o
  rcases n.out.2.new k o with c|c
  ·exact K k a c
  ·have:=ae k a;omega
 |some i0=>
  have aB:=Yv hq
  obtain⟨vg,cap,rfl,aj⟩:∃vg cap,v= .slice (some ⟨vg,0,none⟩) l.length cap∧F=[vg]:=by
   rcases h.form with⟨_,N,_⟩|⟨g',ax,C,N,e2,_⟩
   ·rw[List.map_eq_nil_iff]at N;subst N;simp at aB
   ·exact⟨g',ax,by rw[N,Xb],e2⟩
  have z:ZcL p l=l.take (i0+1):=by unfold ZcL;rw[hq]
  rw[Yw hq,z]at hx
  have q:=D hx
  have aC:=D (ZbF.start hq)
  have am:=D aj;have HP:=D hp;have HI:=D hI
  have Q:=h.le
  rw[Xb]at Q
  have aO:l.length≤9223372036854775807:=by unfold maxLen at Q;omega
  have aK:((i0:Int)== -1)=false:=beq_eq_false_iff_ne.2 (by omega)
  clear hx hq z h h0 hFG hp aj hI Q
  go_enter Tryz.func282,Tryz.ntmps282
  go_wp2_with fail
  refine q.out.mono ?_
  rintro e w1 ⟨rfl,G1,H⟩
  have n:=D H;clear H
  have aD:=D (show Z8 F G1 from fun k a o=>by
   rcases n.out.2.new k o with c|c
   ·exact K k a c
   ·have:=ae k a;omega)
  have aE:=D ((Zd _ _ _ _).upd HH n.out.2.upd K)
  go_wp2_with fail
  go_loopw[5,6,7] (fun s5 s6 _ wr=>∃(i j:Nat) (dk:List Int) (G':List Nat),s5= .int .i64 i∧s6= .int .i64 j∧j≤l.length∧i<j∧Hid (ZbF p l j i dk)∧Hid (I (l.take j) wr G'∧Z8 F G'∧Zg (F++G) w wr∧∀k∈G',k∈G∨w.heap.size≤k)∧Hid (Zj 3 1 (.slice (some ⟨vg,0,none⟩) l.length cap) (dk.map fun x=>[Value.int .i64 x]) wr F)) (fun _ s6 _ _=>l.length-(intOf s6).toNat)
  case atStart=>exact⟨i0,i0+1,l,G1,rfl,by go_num,by omega,by omega,aC,D ⟨n.out.1,aD.out,n.out.2.upd.weaken (fun k a=> .inr (by simp[a])),n.out.2.new⟩,aE⟩
  case round=>
   obtain⟨i,j,dk,G',rfl,rfl,aI,aH,s,m,J⟩:=hrel
   by_cases aa:j<l.length
   ·obtain⟨x,hx⟩:∃x,l[j]? =some x:=⟨_,Xa aa⟩
    obtain⟨b,M⟩:=Je (p x)
    have al:(dk.map fun x=>[Value.int .i64 x])[j]? =some [Value.int .i64 x]:=by rw[Xe,s.get,hx];rfl
    have V:=J.liesAt al
    have aq:=Zb.one V rfl
    rw[Nat.mul_one]at aq
    have q:=D hx;have aP:=D V
    clear hx V al;change Hid _ at M
    have av:=D (HP.out wr G' (l.take j) (l.drop (j+1)) x (Zcp q) m.out.1 m.out.2.2.1)
    go_wp2_with fail
    refine av.out.mono ?_
    rintro e L ⟨rfl,O,Y,E⟩
    rw[←ZY q.out]at Y
    rw[←M.out]
    have ad:=(Zd _ _ _ _).upd J E.upd m.out.2.1
    have af:Z8 F O:=fun k a o=>by
     rcases E.new k o with c|c
     ·exact m.out.2.1 k a c
     ·have:=(Zd _ _ _ _).lt J k a;omega
    have ab:Zg (F++G) w L:=m.out.2.2.1.trans E.upd (fun k a=>by rcases m.out.2.2.2 k a with c|c<;>simp[c])
    have ac:∀k∈O,k∈G∨w.heap.size≤k:=fun k a=>by
     rcases E.new k a with c|c
     ·exact m.out.2.2.2 k c
     ·right;have:=m.out.2.2.1.size;omega
    have au:=D ad;have y:=D (And.intro Y (And.intro af (And.intro ab ac)))
    clear aq Y E ad af ab ac
    cases b with
    |true=>
     go_wp2
     go_roundw
     case rel=>exact⟨i,j+1,dk,O,rfl,by go_num,by omega,by omega,D (s.skip q M.symm),y,au⟩
     case measure=>simp[intOf];omega
    |false=>
     have ar:i<(dk.map fun x=>[Value.int .i64 x]).length:=by rw[Xb,s.len];omega
     obtain⟨C,ai,ap,ah⟩:=Ze9 (cs:=[Value.int .i64 x]) au ar rfl
     have S:=D ai;have ao:=D ap;have aw:=D ah
     clear ar ai ap ah
     have aM:L.cell? ⟨vg,i,none⟩=some (C[i]'(by have:=ao.out;simp at this;omega)):=Zc S (Array.getElem?_eq_getElem _)
     have aL:L.frozen? ⟨vg,i,none⟩=false:=Zk S.out
     go_wp2
     go_roundw
     case rel=>
      have ak:=(Zg.refl F L).setCell (p:=⟨vg,i,none⟩) (.inr (by rw[am.out];simp)) (Value.int .i64 x)
      refine⟨i+1,j+1,dk.set i x,O,by go_num,by go_num,by omega,by omega,D (s.keep q M.symm),D ⟨(HI.out _).upd y.out.1 ak (fun k a o=>y.out.2.1 k o a),y.out.2.1,y.out.2.2.1.trans ak (fun k a=> .inr (List.mem_append_left _ a)),y.out.2.2.2⟩,D ?_⟩
      rw[List.map_set]
      refine aw _ ?_
      rw[Ze S.out]
      have:=ao.out
      simp at this
      congr 2
      rw[←Array.toArray_toList (xs:=C.setIfInBounds _ _),Array.toList_setIfInBounds]
      congr 1
      exact(ZkZ _ _ _ (by rw[Array.length_toList];omega)).symm
     case measure=>simp[intOf];omega
   ·obtain rfl:j=l.length:=by omega
    obtain⟨T,R⟩:=Zbz (zs:=[.int .i64 0]) (l.length-i) (by simp) (by simp[Value.oneCell'])
    obtain⟨zs,Z⟩:=Je ((Builtin.zeroCells ([.int .i64 0]:List Value).toArray (l.length-i)).toList)
    rw[←Z]at T R
    have an:zs.length=(l.length-i)*1:=T
    obtain⟨C,hn,_,hb,hc,hm,hs,_⟩:=J.block
    rw[Xb]at hc
    have aA:=s.len
    have aF:i*1+zs.length≤cap*1:=by rw[an];omega
    have aN:∀ty,(Builtin.clear_ #[45] ty #[.slice (some ⟨vg,i,none⟩) (l.length-i) (cap-i)]).run Tryz.prog wr= .ok (.tuple #[]) (wr.setCells vg i zs):=fun ty=>by
     refine Yn wr _ _ ty _ zs Tryz.underlying45 (fun w=> Tryz.zeroValue3 w) vg _ _ _ (by omega) (by rw[Z];rfl) R (fun t c=> ?_) (fun t c=>Zk hb)
     have aa:i+t<C.size:=by omega
     rw[Zc hb (Array.getElem?_eq_getElem aa)];rfl
    have P:=Zfe J (i:=i) (by rw[Xb];omega) zs aF (by rw[Nat.mul_one])
    rw[←List.map_take,s.done]at P
    have ay:(l.filter fun x=> !p x).length=i:=by rw[←s.done,List.length_take];omega
    have az:=D P
    have X:Zg F wr (wr.setCells vg i zs):=(Zg.refl F wr).setCells (.inr (by rw[am.out];simp)) _ _
    have aJ:i≤cap:=by omega
    have aG:¬cap=i:=by omega
    clear hn hb hs P ay Z an T R aA;change Hid _ at X
    go_wp2
    go_ret
    refine⟨_,rfl,az.out,G',?_,m.out.2.1,m.out.2.2.1.trans X (fun k a=> .inr (List.mem_append_left _ a)),m.out.2.2.2⟩
    have:=m.out.1
    rw[Xm]at this
    exact(HI.out _).upd this X (fun k a o=>m.out.2.1 k o a)
def Zfw (Q:World→Prop) (e:Ending) (w':World):Prop:=∃v:Value,e= .returned v∧Q w'
def Zcy (x:Int):List Value:=[.int .i64 x]
theorem ZfB {α:Type} [Inhabited α] (enc:α→Value) (w:World) (g off n:Nat) (d:Array α) (os:Array Obj):Zg [g] w (Sort.grow (Sort.putRow enc (Sort.ahead w n) g off d) os):=by
 have a:Zg [g] w (Sort.putRow enc (Sort.ahead w n) g off d):=by
  refine⟨rfl,rfl,rfl,?_,fun k c b=> ?_⟩
  ·show _≤(w.heap.modify _ _).size;simp
  ·show(w.heap.modify _ _)[k]? =_
   rw[Array.getElem?_modify,if_neg (by rintro rfl;simp at b)]
 refine⟨a.os,a.tape,a.output,?_,fun k c b=> ?_⟩
 ·have:=a.size;show _≤(_++_:Array Obj).size;simp only[Array.size_append];omega
 ·have e:=a.block k c b
  have f:=a.size
  show(_++_:Array Obj)[k]? =_
  rw[Array.getElem?_append_left (by omega)];exact e
theorem ZoV {l:List Int} (h:Zj 3 1 v (l.map Zcy) w F) (hl:l.length≤1000000):
  Calls Tryz.prog 216 #[v] w fun e w'=>e= .returned (.tuple #[])∧Zg F w w':=by
 rcases h.form with⟨rfl,s,rfl⟩|⟨g,d,m,b,rfl,a,q,r,o,ht⟩
 ·refine(Tryz.slices_Sort_int_none none 0 w).mono ?_
  rintro e w' ⟨rfl,rfl⟩
  exact⟨rfl,Zg.refl _ _⟩
 ·rw[Xb]at b
  subst b
  have k:Sort.Holds (Value.int .i64) w g 0 l.toArray:=fun j c=>by
   have i:j<l.length:=by simpa using c
   refine⟨?_,Zk a⟩
   have:=h.liesAt (j:=j) (cs:=Zcy l[j]) (by rw[Xe,Xa i];rfl) 0 _ rfl
   rw[Nat.mul_one,Nat.add_zero]at this
   rw[Nat.zero_add,this,getElem!_pos l.toArray j c]
   simp
  refine(Tryz.slices_Sort_int g 0 d l w k (Jg a) (by omega)).mono ?_
  rintro e w' ⟨rfl,n,p,rfl⟩
  exact⟨rfl,ZfB _ _ _ _ _ _ _⟩
def ZlK (xb ob:Nat) (fv:Value) (p:Zbe→Bool) (d:List Zbe):YG:=fun w F=>∃vo Go,F=xb::ob::Go∧xb≠ob∧xb∉Go∧ob∉Go∧w.heap[xb]? =some (.cells #[fv] 244 (0,0))∧
 w.heap[ob]? =some (.cells #[vo] 45 (0,0))∧Zj 3 1 vo (((d.filter p).map (·.num)).map Zcy) w Go
theorem Zhe (xb ob:Nat) (fv:Value) (p:Zbe→Bool) (d:List Zbe):(ZlK xb ob fv p d).Local where
 lt:=by
  rintro w F ⟨h,i,rfl,_,_,_,b,c,e⟩ k a
  rcases List.mem_cons.1 a with rfl|a
  ·exact(Jg b)
  ·rcases List.mem_cons.1 a with rfl|a
   ·exact(Jg c)
   ·exact(Zd _ _ _ _).lt e k a
 upd:=by
  rintro w n F G ⟨h,i,rfl,m,j,l,b,c,e⟩ f g
  exact⟨h,i,rfl,m,j,l,(f.block _ (Jg b) (g xb (by simp))).trans b,(f.block _ (Jg c) (g ob (by simp))).trans c,
   (Zd _ _ _ _).upd e f (fun k a=>g k (by simp[a]))⟩
theorem Zm0 (g:FuncId) (lb:Array Value) (eg:∀args w,(callFunc g args).run Tryz.prog w= .ok (.enter g args) w) (p:Zbe→Bool) {xb ob:Nat} (h:ZlK xb ob (.func (.func g) #[] lb) p d W F) (x:Zbe) (hd:d.length≤1000000)
  (hp:∀W1,Zg [] W W1→Calls Tryz.prog g (#[.agg (ZO x).toArray]++lb) W1 fun e w'=>e= .returned (.bool (p x))∧Zg [] W1 w'):
  Calls Tryz.prog 215 #[.agg (ZO x).toArray, .pointer (some ⟨xb,0,none⟩), .pointer (some ⟨ob,0,none⟩)] W fun e w'=>e= .returned (.bool (p x))∧∃G',ZlK xb ob (.func (.func g) #[] lb) p (d++[x]) w' G'∧Zi W w' F G':=by
 obtain⟨vo,y,rfl,a1,a2,a3,J,M,Y⟩:=h
 obtain⟨w1,E⟩:=Je (W.alloc (.cells (ZO x).toArray 243))
 have o:=Ja E
 have L:=Jh E
 have Z:=(o.block _ (Jg J) (by simp)).trans J
 have g2:=(o.block _ (Jg M) (by simp)).trans M
 have g3:=(Zd _ _ _ _).upd Y o (by simp)
 obtain⟨b,N⟩:=Je (p x)
 have cx:=Jc 0 Z
 have HL:=D (show Zb w1 W.heap.size 0 (ZO x)from Zb.of_block L)
 have aj:=D (show Zu Tryz.prog 243 3=true by kernel_rfl)
 have HP:=D (hp w1 o)
 rw[←N]at HP⊢
 have H1:=D Z;have H2:=D g2;have H3:=D g3
 have ah:=D (show xb<W.heap.size∧ob<W.heap.size∧∀k∈y,k<W.heap.size from⟨(Jg J),(Jg M),(Zd _ _ _ _).lt Y⟩)
 have j:=D (And.intro a1 (And.intro a2 a3))
 clear hp Z g2 g3 J M Y a1 a2 a3;change Hid _ at N E o L
 have e0:Value.agg (ZO x).toArray= .agg #[.int .i64 x.num, .string ⟨x.key.toArray⟩, .int .u64 x.until_]:=rfl
 have ae:W.alloc (.cells #[.int .i64 x.num, .string ⟨x.key.toArray⟩, .int .u64 x.until_] 243)=w1:=E.symm
 rw[e0]
 clear e0;change Hid _ at ae
 go_enter Tryz.func215,Tryz.ntmps215
 go_upto_region 1 with fail
 rw[ae.out]
 go_wp2_with(refine Jl HL aj ?_)
 refine HP.out.mono ?_
 rintro e K ⟨rfl,m⟩
 have T:=D ((m.block _ (Jg H1) (by simp)).trans H1)
 have n:=(m.block _ (Jg H2) (by simp)).trans H2.out
 have q:=(Zd _ _ _ _).upd H3 m (by simp)
 have X:=(m.block _ (Jg L) (by simp)).trans L.out
 have ag:=Jt o m
 clear cx
 cases b with
 |false=>
  have O:=D (show(d++[x]).filter p=d.filter p by rw[List.filter_append];simp[←N.out])
  have I:=D n;have V:=D q
  clear m n q X
  go_wp2_with fail
  go_ret
  refine⟨rfl,xb::ob::y,⟨vo,y,rfl,j.out.1,j.out.2.1,j.out.2.2,T.out,I.out,?_⟩,ag.weaken (by simp),fun k a=> .inl a⟩
  rw[O.out];exact V.out
 |true=>
  have O:=D (show((d++[x]).filter p).map (·.num)=(d.filter p).map (·.num)++[x.num]by rw[List.filter_append];simp[←N.out])
  obtain⟨A,c,rfl,hc⟩:=q.form'
  obtain⟨nn,s⟩:=Je ((((d.filter p).map (·.num)).map Zcy).length)
  rw[←s]at n q hc
  have ao:nn≤1000000:=by rw[s,Xb,Xb];have:=Xq p d;omega
  have an:K.cell? ⟨W.heap.size,0,none⟩=some (.int .i64 x.num):=Zc X rfl
  have am:=Jc 0 n
  obtain⟨w3,C⟩:=Je (K.alloc (.cells #[.int .i64 x.num] 3))
  have r:=Ja C
  have af:Zb w3 K.heap.size 0 (Zcy x.num):=by rw[C];exact Zb.of_block (Za _)
  have I:=D ((r.block _ (Jg n) (by simp)).trans n)
  have V:=D ((Zd _ _ _ _).upd q r (by simp))
  have al:=D af;have H:=Jt ag r
  have ab:=D ((r.block _ (Jg T) (by simp)).trans T)
  clear m n q X r af;change Hid _ at C s
  go_wp2_with(rw[←C.out];refine Zn w3 rfl (.tmp 9) (.tmp 12) 45 rfl 3 Tryz.underlying45 Zfd rfl (by omega) (by omega) (.slice A nn c) _ y rfl V K.heap.size 1 (Zcy x.num) rfl al rfl (by intro u hu;simp only[Zcy,List.mem_singleton]at hu;subst hu;rfl) (by rw[←s.out];omega) ?_;intro v' w7 G' S P ad;obtain⟨A',c',e7,_⟩:=S.form';rw[Xd,←s.out,List.length_singleton]at e7;subst e7;have R:=D ((P.block ob (Jg I) j.out.2.2).trans I);have c7:=Jc 0 R.out;have f7:w7.frozen? ⟨ob,0,none⟩=false:=Zk R.out;have ak:=D S;have ac:=D P;have Q:=D ad;clear S P ad)
  go_ret
  have aa:ob∉G':=fun z=>by
   rcases Q ob z with l|l
   ·exact j.out.2.2 l
   ·have:=H.size;have:=ah.out.2.1;omega
  have ai:xb∉G':=fun z=>by
   rcases Q xb z with l|l
   ·exact j.out.2.1 l
   ·have:=H.size;have:=ah.out.1;omega
  refine⟨rfl,xb::ob::G',⟨_,G',rfl,j.out.1,ai,aa,?_,Ze (i:=0) R _,?_⟩,?_,fun k a=> ?_⟩
  ·rw[Yc _ (Ne.symm j.out.1)]
   exact(ac.block xb (Jg ab) j.out.2.1).trans ab.out
  ·rw[O.out,Xs]
   exact(Zd _ _ _ _).upd ak ((Zg.refl [ob] w7).setCell (.inr (by simp)) _) (fun k a z=>by rw[Jm z]at a;exact aa a)
  ·exact(((H.weaken (G:=xb::ob::y) (by simp)).trans ac (fun k a=> .inr (by simp[a]))).setCell (.inr (by simp)) _)
  ·simp only[List.mem_cons]at a⊢
   rcases a with a|a|a
   ·exact .inl (.inl a)
   ·exact .inl (.inr (.inl a))
   ·rcases Q k a with l|l
    ·exact .inl (.inr (.inr l))
    ·right;have:=H.size;omega
theorem Zjc (g:FuncId) (lb:Array Value) (eg:∀args w,(callFunc g args).run Tryz.prog w= .ok (.enter g args) w) (q:Zbe→Bool) {hb:Nat} {Gb Gi Gh:List Nat} (h:Zah w b p vb vi hb Gb Gi Gh)
  (hp:∀(W:World) (x:Zbe),Zg Gi w W→Calls Tryz.prog g (#[.agg (ZO x).toArray]++lb) W fun e w'=>e= .returned (.bool (q x))∧Zg [] W w'):
  Calls Tryz.prog 142 #[.pointer (some ⟨b,0,none⟩), .func (.func g) #[] lb] w (Zfw fun w'=>∃vi',Zah w' b {p with idle:=p.idle.filter fun c=> !q c} vb vi' hb Gb Gi Gh∧Zg (b::Gi) w w'):=by
 obtain⟨o,n⟩:=Je ((w.alloc (.cells #[.func (.func g) #[] lb] 244)).alloc (.cells #[.slice none 0 0] 45))
 have m:Zg [] w o:=by rw[n];exact((Zg.refl [] w).alloc _).alloc _
 have ac:o.heap[w.heap.size]? =some (.cells #[.func (.func g) #[] lb] 244 (0,0)):=by rw[n,ZB _ (by simp)];exact Za _
 have aa:o.heap[w.heap.size+1]? =some (.cells #[.slice none 0 0] 45 (0,0)):=by
  rw[n];have:=Za (w:=w.alloc (.cells #[.func (.func g) #[] lb] 244)) (.cells #[.slice none 0 0] 45);simpa using this
 have I:=h.upd m (by simp)
 have O:=h.lt
 have V:p.idle.length≤32:=by have:=h.ok.few;have:=h.ok.tot;omega
 have af:ZlK w.heap.size (w.heap.size+1) (.func (.func g) #[] lb) q [] o [w.heap.size,w.heap.size+1]:=⟨_,[],rfl,by omega,by simp,by simp,ac,aa,ZD _ _ _⟩
 have T:=Zn6 ZO q 215 #[.pointer (some ⟨w.heap.size,0,none⟩), .pointer (some ⟨w.heap.size+1,0,none⟩)] (ZlK w.heap.size (w.heap.size+1) (.func (.func g) #[] lb) q) (fun d=>Zhe _ _ _ _ _) I.idle Zae af
  (fun k a j=>by have:=O k (by simp[a]);simp at j;omega) (enters_of Tryz.func215 (by kernel_rfl) rfl) (fun W G1 d r x hl hI hU=>Zm0 g lb eg q hI x (by have e9:p.idle.length=d.length+(r.length+1):=(congrArg List.length hl).trans (by simp);omega) (fun W1 au=>hp W1 x
   (((m.weaken (G:=Gi) (by simp)).trans hU (fun k a=>by
    rcases List.mem_append.1 a with a|a
    ·exact .inr a
    ·left;simp at a;omega)).trans_of' au)))
 have c1:o.cell? ⟨b,1,none⟩=some vi:=Zc (i:=1) I.blk rfl
 have HD:=D T;have H2:=D I;have E:=D O;have am:=D V;have aw:=D h.ok;have ad:=D h.ni;have H:=D h
 clear T I ac aa af O h hp V;change Hid _ at m n
 go_enter Tryz.func142,Tryz.ntmps142
 go_upto_region 2 with fail
 rw[←n.out]
 go_wp2_with fail
 refine HD.out.mono ?_
 rintro e F ⟨vi',rfl,Q,G3,ag,X,J,N⟩
 have aj:b∉Gi++[w.heap.size,w.heap.size+1]:=fun j=>by
  rcases List.mem_append.1 j with j|j
  ·exact ad j
  ·have:=E.out b (by simp);simp at j;omega
 have z:=(J.block b (Jg H2.blk) aj).trans H2.blk
 have c3:F.cell? ⟨b,1,none⟩=some vi:=Zc (i:=1) z rfl
 have f3:F.frozen? ⟨b,1,none⟩=false:=Zk z
 obtain⟨A3,ab,e3,_⟩:=Q.form'
 rw[Xb]at e3
 have S:b∉G3:=fun j=>by
  rcases N b j with s|s
  ·have:=E.out b (by simp);simp at s;omega
  ·have:=E.out b (by simp);have:=m.size;omega
 have ap:=D z;have aq:=D Q;have ay:=D ag;have aA:=D J;have aB:=D N;have an:=D X;have ao:=D S
 clear z Q ag J N X aj S
 subst e3
 obtain⟨R,C⟩:=Je (F.setCell ⟨b,1,none⟩ (.slice A3 (p.idle.filter fun x=> !q x).length ab))
 have y:Zg [b] F R:=by rw[C];exact(Zg.refl _ _).setCell (.inr (by simp)) _
 have ak:=D (show R.heap[b]? =some (.cells #[vb, .slice A3 (p.idle.filter fun x=> !q x).length ab, .int .i64 p.total, .int .u64 p.keep, .pointer (some ⟨hb,0,none⟩), .int .i64 p.last] 122 (0,0))by rw[C,Ze ap.out];rfl)
 have ax:=D ((Zhe _ _ _ _ _).upd ay y (fun k a j=>by rw[Jm j]at a;exact ao a))
 change Hid _ at y C
 go_upto_region 3 with fail
 rw[←C.out]
 obtain⟨vo,Go,al,_,_,Z,_,K,Y⟩:=ax.out
 have co:R.cell? ⟨w.heap.size+1,0,none⟩=some vo:=Zc (i:=0) K rfl
 have hs:=ZoV Y (by rw[Xb];have:=Xq q p.idle;have:=am.out;omega)
 have HS:=D hs;have ah:=D K;have ai:=D al;have av:=D Z
 clear hs Y K al Z c1 c3 f3
 go_wp2_with fail
 refine HS.out.mono ?_
 rintro e w5 ⟨rfl,L⟩
 have aC:w5.cell? ⟨w.heap.size+1,0,none⟩=some vo:=Zc (i:=0) ((L.block _ (Jg ah) av).trans ah) rfl
 have P:=D L
 clear L co
 go_wp2_with fail
 go_ret
 have ae:∀k∈Go,w.heap.size≤k:=fun k a=>by
  rcases aB k (by rw[ai.out];simp[a])with s|s
  ·simp at s;omega
  ·have:=m.size;omega
 have M:Zg (b::Gi) w w5:=(((m.weaken (G:=b::Gi) (by simp)).trans aA (fun k a=>by
   rcases List.mem_append.1 a with a|a
   ·exact .inr (by simp[a])
   ·left;simp at a;omega)).trans y (fun k a=> .inr (by simp at a;simp[a]))).trans P (fun k a=> .inl (ae k a))
 have l:=H.out
 have ar:=(Zd _ _ _ _).upd ((Zd _ _ _ _).upd aq y (fun k a j=>by rw[Jm j]at a;exact ad a)) P (fun k a j=>an.out k a (by rw[ai.out];simp[j]))
 have az:=(P.block b (Jg ak) (fun j=>by have:=ae b j;have:=E.out b (by simp);omega)).trans ak.out
 have hold:∀k,k∈Gb++Gh→k∉b::Gi:=fun k a j=>by
  rcases List.mem_append.1 a with a|a<;>rcases List.mem_cons.1 j with rfl|j
  ·exact l.nb a
  ·exact l.bi k a j
  ·exact l.nh a
  ·exact l.ih k j a
 refine⟨_,rfl,_,⟨az,(Zd _ _ _ _).upd l.busy M (fun k a=>hold k (by simp[a])),ar,(ZA _ _).upd l.hosts M (fun k a=>hold k (by simp[a])),l.nb,l.ni,l.nh,l.bi,l.bh,l.ih,?_⟩,M⟩
 have:=aw.out
 exact⟨this.tot,by have:=this.few;have:=Xq (fun x=> !q x) p.idle;dsimp only;omega,this.hosts,this.uses,this.last,this.keep⟩
theorem ZlH (h:YE b p w F) (now:Nat):
  Calls Tryz.prog 79 #[.pointer (some ⟨b,0,none⟩), .int .u64 now] w (Zfw fun w'=>YE b (expireP p now) w' F∧Zg F w w'):=by
 obtain⟨J,M,y,s,E,G,rfl,h⟩:=h
 obtain⟨L,a⟩:=Je (w.alloc (.cells #[.int .u64 now] 22))
 have j:=Ja a
 have g:=Jh a
 have d:=h.lt
 have l:=Zjc 143 #[.pointer (some ⟨w.heap.size,0,none⟩)] (enters_of Tryz.func143 (by kernel_rfl) rfl) (fun c=>decide (c.until_≤now)) (h.upd j (by simp)) (fun W x z=>ZjW x w.heap.size now W (by
  have:=(z.block w.heap.size (Jg g) (fun I=>by have:=d w.heap.size (by simp[I]);omega)).trans g
  exact Zc (i:=0) this rfl))
 have C:=D l;have K:=D d
 clear l g h d;change Hid _ at a j
 go_enter Tryz.func79,Tryz.ntmps79
 go_upto_region 1 with fail
 rw[←a.out]
 go_wp2_with fail
 refine C.out.mono ?_
 rintro e N ⟨v,rfl,q,o,m⟩
 have H:=D o;have r:=D m
 clear o m
 go_wp2_with fail
 go_ret
 exact⟨_,rfl,⟨J,q,y,s,E,G,rfl,H.out⟩,(j.weaken (by simp)).trans r (fun k n=> .inr (by simp at n⊢;rcases n with h|h<;>simp[h]))⟩
def Z9 (v:Value) (l:List Int):YG:=Zj 3 1 v (l.map Zcy)
theorem ZS (v:Value) (l:List Int):(Z9 v l).Local:=Zd _ _ _ _
section
variable {α:Type} (b:Nat) (cs:Value→Array Value) (T e:TypeId) (k:Nat) (enc:Value→α→List Value) (mem:α→List Int)
def Zbm (l:List (Value×α)):List YG:=Y2 b cs T e k (l.map fun p=>enc p.1 p.2)::l.map fun p=>Z9 p.1 (mem p.2)
def Zbd (l:List (Value×α)):YG:=YG.list (Zbm b cs T e k enc mem l)
def Zib (l:List α):YG:=fun w F=>∃gl:List (Value×α),gl.map (·.2)=l∧Zbd b cs T e k enc mem gl w F
theorem Za3 (l:List (Value×α)):∀A∈Zbm b cs T e k enc mem l,A.Local:=fun A hA=>by
 rcases List.mem_cons.1 hA with rfl|hA
 ·exact Zas _ _ _ _ _ _
 ·obtain⟨p,_,rfl⟩:=List.mem_map.1 hA
  exact ZS _ _
theorem Zcf (l:List (Value×α)):(Zbd b cs T e k enc mem l).Local:=YG.list_local (Za3 b cs T e k enc mem l)
theorem ZdZ (l:List α):(Zib b cs T e k enc mem l).Local:=
 ⟨fun h q hq=>by obtain⟨gl,_,h⟩:=h;exact(Zcf _ _ _ _ _ _ _ _).lt h q hq,fun h hu hF=>by obtain⟨gl,e1,h⟩:=h;exact⟨gl,e1,(Zcf _ _ _ _ _ _ _ _).upd h hu hF⟩⟩
variable {b cs T e k enc mem}
theorem Zf9 {l:List (Value×α)} (h:Zbd b cs T e k enc mem l w F):
  ∃G,Y2 b cs T e k (l.map fun p=>enc p.1 p.2) w G∧(∀q∈G,q∈F)∧∀w1 A1 G1,A1 w1 G1→Zi w w1 G G1→∃F1,YG.list ((Zbm b cs T e k enc mem l).set 0 A1) w1 F1∧Zi w w1 F F1:=
 YG.list_step (Za3 _ _ _ _ _ _ _ _) h rfl
theorem ZcY {l:List (Value×α)} (h:Zbd b cs T e k enc mem l w F) {i:Nat} {p:Value×α} (hi:l[i]? =some p):
  ∃G,Z9 p.1 (mem p.2) w G∧(∀q∈G,q∈F)∧∀w1 A1 G1,A1 w1 G1→Zi w w1 G G1→∃F1,YG.list ((Zbm b cs T e k enc mem l).set (i+1) A1) w1 F1∧Zi w w1 F F1:=
 YG.list_step (Za3 _ _ _ _ _ _ _ _) h (i:=i+1) (A:=Z9 p.1 (mem p.2)) (by unfold Zbm;rw[Xf,Xe,hi];rfl)
theorem Ze8 {l:List (Value×α)} (h:Zbd b cs T e k enc mem l w F) {i:Nat} {p:Value×α} (hi:l[i]? =some p):
  ∃G M,Y2 b cs T e k (l.map fun p=>enc p.1 p.2) w G∧Z9 p.1 (mem p.2) w M∧Z8 G M∧(∀q∈G,q∈F)∧(∀q∈M,q∈F)∧
   ∀w1 w2 (p1:Value×α) (M1:List Nat),Z9 p1.1 (mem p1.2) w1 M1→Zi w w1 M M1→Y2 b cs T e k ((l.set i p1).map fun p=>enc p.1 p.2) w2 G→Zg G w1 w2→∃F1,Zbd b cs T e k enc mem (l.set i p1) w2 F1∧Zi w w2 F F1:=by
 obtain⟨a,rfl,c⟩:=h
 have m:=c.len
 have n:(Zbm b cs T e k enc mem l)[i+1]? =some (Z9 p.1 (mem p.2)):=by unfold Zbm;rw[Xf,Xe,hi];rfl
 have r:(Zbm b cs T e k enc mem l)[0]? =some (Y2 b cs T e k (l.map fun p=>enc p.1 p.2)):=rfl
 have E:0<a.length:=by rw[m];exact(Jk r)
 have y:i+1<a.length:=by rw[m];exact(Jk n)
 have f:=Xa E
 have d:=Xa y
 refine⟨a[0],a[i+1],c.lies 0 _ _ r f,c.lies (i+1) _ _ n d,c.apart 0 (i+1) _ _ f d (by omega),fun q g=>Zw f g,fun q g=>Zw d g,fun w1 w2 p1 M1 H hg ho z=> ?_⟩
 obtain⟨s1,s2⟩:=c.step (Za3 _ _ _ _ _ _ _ _) d H hg
 have s:∀A∈(Zbm b cs T e k enc mem l).set (i+1) (Z9 p1.1 (mem p1.2)),A.Local:=fun A j=>by
  rcases List.mem_or_eq_of_mem_set j with j|rfl
  ·exact Za3 _ _ _ _ _ _ _ _ A j
  ·exact ZS _ _
 have t:(a.set (i+1) M1)[0]? =some a[0]:=by rw[Xt (by omega)];exact f
 obtain⟨o,C⟩:=s1.step s t ho (Zi.of_upd z)
 have x:((Zbm b cs T e k enc mem l).set (i+1) (Z9 p1.1 (mem p1.2))).set 0 (Y2 b cs T e k ((l.set i p1).map fun p=>enc p.1 p.2))=Zbm b cs T e k enc mem (l.set i p1):=by
  unfold Zbm
  rw[List.set_cons_succ,List.set_cons_zero,List.map_set,List.map_set]
 rw[x]at o
 exact⟨_,⟨_,rfl,o⟩,s2.trans C⟩
theorem ZlE {l:List (Value×α)} (h:Zbd b cs T e k enc mem l w F) {i:Nat} {p:Value×α} (hi:l[i]? =some p):
  ∃G M,Y2 b cs T e k (l.map fun p=>enc p.1 p.2) w G∧Z9 p.1 (mem p.2) w M∧Z8 G M∧(∀q∈G,q∈F)∧(∀q∈M,q∈F)∧
   ∀w2,Y2 b cs T e k ((l.eraseIdx i).map fun p=>enc p.1 p.2) w2 G→Zg G w w2→∃F1,Zbd b cs T e k enc mem (l.eraseIdx i) w2 F1∧(∀q∈F1,q∈F)∧Z8 F1 M:=by
 obtain⟨c,rfl,d⟩:=h
 have m:=d.len
 have n:(Zbm b cs T e k enc mem l)[i+1]? =some (Z9 p.1 (mem p.2)):=by unfold Zbm;rw[Xf,Xe,hi];rfl
 have t:(Zbm b cs T e k enc mem l)[0]? =some (Y2 b cs T e k (l.map fun p=>enc p.1 p.2)):=rfl
 have C:0<c.length:=by rw[m];exact(Jk t)
 have z:i+1<c.length:=by rw[m];exact(Jk n)
 have g:=Xa C
 have f:=Xa z
 refine⟨c[0],c[i+1],d.lies 0 _ _ t g,d.lies (i+1) _ _ n f,d.apart 0 (i+1) _ _ g f (by omega),fun q a=>Zw g a,fun q a=>Zw f a,fun w2 ho A=> ?_⟩
 obtain⟨s,I⟩:=d.step (Za3 _ _ _ _ _ _ _ _) g ho (Zi.of_upd A)
 have x:c.set 0 c[0]=c:=by simp
 rw[x]at s
 obtain⟨o,H⟩:=s.drop (i+1)
 have y:((Zbm b cs T e k enc mem l).set 0 (Y2 b cs T e k ((l.eraseIdx i).map fun p=>enc p.1 p.2))).eraseIdx (i+1)=Zbm b cs T e k enc mem (l.eraseIdx i):=by
  unfold Zbm
  rw[List.set_cons_zero,List.eraseIdx_cons_succ]
  congr 1
  rw[Y0]
 rw[y]at o
 refine⟨_,⟨_,rfl,o⟩,H,fun q a E=> ?_⟩
 obtain⟨j,G,r,a⟩:=YK a
 rw[Zap]at r
 refine d.apart _ (i+1) _ _ r f ?_ q a E
 split<;>omega
end
theorem ZlN:(Tryz.prog.info? 316).map (fun i=>(i.zero,i.size,i.bytes))=some (some (.agg #[.int .i64 0, .string ⟨#[]⟩, .string ⟨#[]⟩, .bool false, .string ⟨#[]⟩, .string ⟨#[]⟩, .slice none 0 0]),7,104):=by kernel_rfl
theorem Zi4:Zu Tryz.prog 316 7=true:=by kernel_rfl
theorem ZmP:(Tryz.prog.info? 316).map (fun i=>(i.size,i.bytes))=some (7,104):=by kernel_rfl
theorem Zd6 {α:Type} (enc:α→List Value) (p:α→Bool) (g:FuncId) (lb:Array Value) {l:List α}
  (h:Zj 316 7 v (l.map enc) w F) (eg:∀args w,(callFunc g args).run Tryz.prog w= .ok (.enter g args) w)
  (hp:∀(W:World) (x:α),x∈l→Zg [] w W→Calls Tryz.prog g (#[.agg (enc x).toArray]++lb) W fun e w'=>e= .returned (.bool (p x))∧Zg [] W w'):
  Calls Tryz.prog 225 #[v, .func (.func g) #[] lb] w fun e w'=>e= .returned (.int .i64 (YL p l))∧Zg [] w w':=by
 obtain⟨A,c,rfl,O,o⟩:=h.lies
 have G:=h.2.1
 have i:=h.le
 rw[Xb]at O i⊢
 have K:=D G;have N:=D hp;have M:=D o
 have P:l.length≤9223372036854775807:=by unfold maxLen at i;omega
 clear h G hp o i
 go_enter Tryz.func225,Tryz.ntmps225
 go_wp2
 go_loopw[5,8] (fun _ s8 wr=>∃kk:Nat,kk≤l.length∧s8= .int .i64 kk∧Hid (Zg [] w wr)∧Hid (∀(j:Nat) (x:α),j<kk→l[j]? =some x→p x=false)) (fun _ s8 _=>l.length-(intOf s8).toNat)
 case atStart=>exact⟨0,Xn _,rfl,D (Zg.refl [] w),D (fun j x C=>absurd C (Nat.not_lt_zero _))⟩
 case round=>
  obtain⟨kk,Q,rfl,d,m⟩:=hrel
  by_cases z:kk<l.length
  ·obtain⟨x,hx⟩:∃x,l[kk]? =some x:=⟨_,Xa z⟩
   have k:=Xc hx
   obtain⟨S,rfl,r⟩:=M.out kk (enc x) (by rw[Xe,hx];rfl)
   have J:=D (r.upd d (by simp))
   have I:=D (show(enc x).length=7 from K.out (enc x) (List.mem_map.2 ⟨x,k,rfl⟩))
   have H:=D (show Zu Tryz.prog 316 (enc x).length=true by rw[I.out];exact Zi4)
   have E:=D hx
   have L:=D (N.out wr x k d)
   obtain⟨b,a⟩:=Je (p x)
   clear hx r k;change Hid _ at a
   go_wp2_with(refine Js J H ?_)
   refine L.out.mono ?_
   rintro e R ⟨rfl,q⟩
   rw[←a.out]
   have s:=Jt d q
   clear q
   cases b with
   |true=>
    go_wp2
    go_ret
    refine⟨?_,s.out⟩
    rw[Zao z (by rw[E.out]) a.symm m.out];rfl
   |false=>
    go_wp2
    go_roundw
    case rel=>
     refine⟨kk+1,by omega,by go_num,s,D (fun j y C n=> ?_)⟩
     by_cases e:j=kk
     ·subst e;rw[E.out]at n;cases n;exact a.symm
     ·exact m j y (by omega) n
    case measure=>simp[intOf];omega
  ·obtain rfl:kk=l.length:=by omega
   go_wp2
   go_ret
   refine⟨?_,d.out⟩
   rw[YY m.out];rfl
theorem ZmV {g cap i j:Nat} (hj:j=i+1) {xs:List (List Value)} (h:Zj 316 7 (.slice (some ⟨g,0,none⟩) xs.length cap) xs w F) (h1:∀u∈xs.flatten,u.oneCell'=true) (hi:i<xs.length):
  Calls Tryz.prog 247 #[.slice (some ⟨g,0,none⟩) xs.length cap, .int .i64 i, .int .i64 j] w fun e w'=>e= .returned (.slice (some ⟨g,0,none⟩) (xs.length-1:Nat) cap)∧
   Zj 316 7 (.slice (some ⟨g,0,none⟩) (xs.length-1) cap) (xs.eraseIdx i) w' [g]∧Zg [g] w w':=by
 obtain⟨k,_,_,m,o,G,K,ht⟩:=h.block
 obtain⟨T,O,P,ad⟩:=Zcb ZmP
 have Q:=ZG h.2.1
 obtain⟨a,n⟩:=Je ((xs.drop j).flatten)
 have d:a.length=(xs.length-j)*7:=by rw[n,ZG (fun c o=>h.2.1 c (List.mem_of_mem_drop o)),List.length_drop]
 have H:∀t,t<cap*7→(w.drew.cell? ⟨g,t,none⟩).isSome=true∧w.drew.frozen? ⟨g,t,none⟩=false:=fun t h1=>by
  have x:t<k.size:=by omega
  refine⟨?_,Zk (w:=w) m⟩
  show(w.cell? _).isSome=true
  rw[Zc m (Array.getElem?_eq_getElem x)];rfl
 obtain⟨A,hA,M⟩:∃A:Addr,(if cap=j then(some (⟨g,0,none⟩:Addr))else some ⟨g,j*7,none⟩)=some A∧Hid (∀t u,a[t]? =some u→w.drew.cell? (A.add t)=some u):=by
  by_cases e:cap=j
  ·refine⟨⟨g,0,none⟩,by rw[if_pos e],D (fun t u b=> ?_)⟩
   have V:a.length=0:=by rw[d,show xs.length-j=0 by omega,Nat.zero_mul]
   rw[List.length_eq_zero_iff.1 V]at b;simp at b
  ·refine⟨⟨g,j*7,none⟩,by rw[if_neg e],D (fun t u b=> ?_)⟩
   rw[add_plain]
   refine Zc (w:=w) m ?_
   rw[n,←ZaH h.2.1,List.getElem?_drop,←ht,List.getElem?_take]at b
   split at b
   ·simpa using b
   ·cases b
 have s2:Hid (∀u∈a,u.oneCell'=true):=D (fun u b=>h1 u (by rw[n]at b;obtain⟨c,o,b⟩:=List.mem_flatten.1 b;exact List.mem_flatten.2 ⟨c,List.mem_of_mem_drop o,b⟩))
 have s1:Hid (a.length=(xs.length-j)*7):=D d
 have N:xs.length*7≤cap*7:=Nat.mul_le_mul_right _ o
 have s3:Hid (∀t,t<a.length→(w.drew.cell? ⟨g,0+i*7+t,none⟩).isSome=true∧w.drew.frozen? ⟨g,0+i*7+t,none⟩=false):=D (fun t r=>H _ (by rw[d]at r;omega))
 obtain⟨p,s⟩:=Je (w.drew.setCells g (0+i*7) a)
 obtain⟨l,q⟩:∃l:List Value,l=[.int .i64 0, .string ⟨#[]⟩, .string ⟨#[]⟩, .bool false, .string ⟨#[]⟩, .string ⟨#[]⟩, .slice none 0 0]:=⟨_,rfl⟩
 have z:l.length=7:=by rw[q];rfl
 have y:p.heap[g]? =some (.cells (Yl k.toList (0+i*7) a).toArray 316 (0,0)):=by rw[s];exact Ys a (0+i*7) w.drew k m (by rw[d];omega)
 have J:(Yl k.toList (0+i*7) a).length=cap*7:=by rw[YW _ _ _ (by rw[d];simp;omega)];simpa using K
 have ab:∀C,(Builtin.clear_ #[138] C #[.slice (some ⟨g,(i+(xs.length-j))*7,none⟩) (xs.length-(i+(xs.length-j))) (cap-(i+(xs.length-j)))]).run Tryz.prog p= .ok (.tuple #[]) (p.setCells g ((i+(xs.length-j))*7) l):=fun C=>by
  have E:xs.length-(i+(xs.length-j))=1:=by omega
  rw[E]
  refine Yn p _ _ C _ l Tryz.underlying138 (fun w=> Tryz.zeroValue316 w) g _ 1 _ (by omega) (by rw[q];exact ZaQ) (by rw[q];simp[Value.oneCell']) (fun t r=> ?_) (fun t r=>Zk y)
  rw[z]at r
  have x:(i+(xs.length-j))*7+t<(Yl k.toList (0+i*7) a).length:=by rw[J];omega
  rw[Zc y (v:=(Yl k.toList (0+i*7) a)[(i+(xs.length-j))*7+t]) (by rw[Xh,Xa x])];rfl
 have L:Hid (p=w.drew.setCells g (0+i*7) a):=D s
 have I:=D (Zb9 h hi 1 l z rfl)
 rw[←hj,←n]at I
 have Z:i<j:=by omega
 have X:j≤xs.length:=by omega
 have W:¬i=j:=by omega
 have R:=D hj
 have Y:i≤cap:=by omega
 have aa:j≤cap:=by omega
 have ac:cap≤9223372036854775807:=by unfold maxLen at G;exact G
 clear hj s y J q z H m K ht Q d h h1 N G;change Hid _ at n
 go_enter Tryz.func247,Tryz.ntmps247
 go_wp2_with fail
 go_region_law (refine step_append_room rfl (.tmp 22) (.tmp 25) 138 rfl 316 T 7 Tryz.underlying138 O P g 0 i cap (by simp[Act.eval,Act.put]) A (xs.length-j) (cap-j) a (by simp[Act.eval,Act.put]) s1.out M.out s2.out (by omega) s3.out ?_;rw[←L.out])
 go_wp2
 go_ret
 have E:i+(xs.length-j)=xs.length-1:=by have:=R.out;omega
 have S:=I.out
 rw[L.out,Nat.zero_add,E]
 exact⟨rfl,S⟩
theorem Zje {g cap i:Nat} {xs:List (List Value)} (h:Zj 316 7 (.slice (some ⟨g,0,none⟩) xs.length cap) xs w F) (h1:∀u∈xs.flatten,u.oneCell'=true) (hi:i<xs.length):
 Calls Tryz.prog 247 #[.slice (some ⟨g,0,none⟩) xs.length cap, .int .i64 i, .int .i64 ((i:Int)+1)] w fun e w'=>e= .returned (.slice (some ⟨g,0,none⟩) (xs.length-1:Nat) cap)∧
  Zj 316 7 (.slice (some ⟨g,0,none⟩) (xs.length-1) cap) (xs.eraseIdx i) w' [g]∧Zg [g] w w':=ZmV rfl h h1 hi
def ZfM (w:World) (A:Option Addr) (l:List Int):Prop:=∀(j:Nat) (x:Int),l[j]? =some x→∃ab ao,A=some ⟨ab,ao,none⟩∧w.cell? ⟨ab,ao+j,none⟩=some (.int .i64 x)
theorem ZfM.upd {ws:List Int} (h:ZfM w A ws) (hu:Zg F w w1) (hF:∀ab ao,A=some ⟨ab,ao,none⟩→ab∉F):ZfM w1 A ws:=fun j x hj=>by
 obtain⟨ab,ao,e,hc⟩:=h j x hj
 exact⟨ab,ao,e,(Xp (hu.block ab (Xo _ _ hc) (hF ab ao e))).trans hc⟩
theorem Zok (A:Option Addr) (c:Nat) (l:List Bs) (k:Bs) (hs:Y1 w A l) (hl:l.length≤1000000):
  Calls Tryz.prog 217 #[.slice A l.length c, .string ⟨k.toArray⟩] w fun e w'=>e= .returned (.int .i64 (YL (fun x=>k==x) l))∧w'=w:=by
 have o:=D hs
 clear hs
 go_enter Tryz.func217,Tryz.ntmps217
 go_wp2
 go_loop [5,8] (fun _ s8=>∃kk:Nat,kk≤l.length∧s8= .int .i64 kk∧Hid (∀(j:Nat) (x:Bs),j<kk→l[j]? =some x→(k==x)=false)) (fun _ s8=>l.length-(intOf s8).toNat)
 case atStart=>exact⟨0,Xn _,rfl,D (fun j x m=>absurd m (Nat.not_lt_zero _))⟩
 case round=>
  obtain⟨kk,q,rfl,g⟩:=hrel
  by_cases h:kk<l.length
  ·obtain⟨x,hx⟩:∃x,l[kk]? =some x:=⟨_,Xa h⟩
   obtain⟨r,s,rfl,t⟩:=o.out kk x hx
   have i:=D hx
   obtain⟨b,a⟩:=Je ((k==x))
   have n:=D a
   clear hx
   cases b with
   |true=>
    have z:(k==x)=true:=a.symm
    clear a
    go_wp2
    go_ret
    refine⟨?_,rfl⟩
    rw[Zao (p:=fun x=>k==x) h i n.symm g.out];rfl
   |false=>
    have z:(k==x)=false:=a.symm
    clear a
    go_wp2
    go_round
    case rel=>
     refine⟨kk+1,by omega,by go_num,D (fun j y m d=> ?_)⟩
     by_cases e:j=kk
     ·subst e;rw[i.out]at d;cases d;exact n.symm
     ·exact g j y (by omega) d
    case measure=>simp[intOf];omega
  ·obtain rfl:kk=l.length:=by omega
   go_wp2
   go_ret
   refine⟨?_,rfl⟩
   rw[YY g.out];rfl
theorem Zke (A:Option Addr) (c:Nat) (l:List Bs) (k:Bs) (hs:Y1 w A l) (hl:l.length≤1000000):
  Calls Tryz.prog 144 #[.slice A l.length c, .string ⟨k.toArray⟩] w fun e w'=>e= .returned (.bool (l.contains k))∧w'=w:=by
 have b:=Zok A c l k hs hl
 have a:decide (0≤YL (fun x=>k==x) l)=l.contains k:=(Zc2 _ _).trans (by rw[List.contains_eq_any_beq])
 obtain⟨r,g⟩:=Je (YL (fun x=>k==x) l)
 rw[←g]at b a
 rw[←a]
 have h:=D b
 clear b g a hs
 go_enter Tryz.func144,Tryz.ntmps144
 go_wp2_with fail
 refine h.out.mono ?_
 rintro e w' ⟨rfl,d⟩
 rw[d];clear d w'
 go_wp2_with fail
 go_ret
 exact⟨rfl,rfl⟩
theorem Zo8 (A:Option Addr) (c:Nat) (l:List Int) (k:Int) (hs:ZfM w A l) (hl:l.length≤1000000):
  Calls Tryz.prog 131 #[.slice A l.length c, .int .i64 k] w fun e w'=>e= .returned (.int .i64 (YL (fun x=>k==x) l))∧w'=w:=by
 have o:=D hs
 clear hs
 go_enter Tryz.func131,Tryz.ntmps131
 go_wp2
 go_loop [5,8] (fun _ s8=>∃kk:Nat,kk≤l.length∧s8= .int .i64 kk∧Hid (∀(j:Nat) (x:Int),j<kk→l[j]? =some x→(k==x)=false)) (fun _ s8=>l.length-(intOf s8).toNat)
 case atStart=>exact⟨0,Xn _,rfl,D (fun j x m=>absurd m (Nat.not_lt_zero _))⟩
 case round=>
  obtain⟨kk,q,rfl,g⟩:=hrel
  by_cases h:kk<l.length
  ·obtain⟨x,hx⟩:∃x,l[kk]? =some x:=⟨_,Xa h⟩
   obtain⟨r,s,rfl,t⟩:=o.out kk x hx
   have i:=D hx
   obtain⟨b,a⟩:=Je ((k==x))
   have n:=D a
   clear hx
   cases b with
   |true=>
    have z:(k==x)=true:=a.symm
    clear a
    go_wp2
    go_ret
    refine⟨?_,rfl⟩
    rw[Zao (p:=fun x=>k==x) h i n.symm g.out];rfl
   |false=>
    have z:(k==x)=false:=a.symm
    clear a
    go_wp2
    go_round
    case rel=>
     refine⟨kk+1,by omega,by go_num,D (fun j y m d=> ?_)⟩
     by_cases e:j=kk
     ·subst e;rw[i.out]at d;cases d;exact n.symm
     ·exact g j y (by omega) d
    case measure=>simp[intOf];omega
  ·obtain rfl:kk=l.length:=by omega
   go_wp2
   go_ret
   refine⟨?_,rfl⟩
   rw[YY g.out];rfl
theorem Zgq (A:Option Addr) (c:Nat) (l:List Int) (k:Int) (hs:ZfM w A l) (hl:l.length≤1000000):
  Calls Tryz.prog 74 #[.slice A l.length c, .int .i64 k] w fun e w'=>e= .returned (.bool (l.contains k))∧w'=w:=by
 have b:=Zo8 A c l k hs hl
 have a:decide (0≤YL (fun x=>k==x) l)=l.contains k:=(Zc2 _ _).trans (by rw[List.contains_eq_any_beq])
 obtain⟨r,g⟩:=Je (YL (fun x=>k==x) l)
 rw[←g]at b a
 rw[←a]
 have h:=D b
 clear b g a hs
 go_enter Tryz.func74,Tryz.ntmps74
 go_wp2_with fail
 refine h.out.mono ?_
 rintro e w' ⟨rfl,d⟩
 rw[d];clear d w'
 go_wp2_with fail
 go_ret
 exact⟨rfl,rfl⟩
end Go.Proofs.YtbgbeddbfaopgaaGreatDoor
