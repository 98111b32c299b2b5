import Derived.Test.YtbgbeddbfaopgaaGreatDoorZ4
set_option linter.all false
set_option maxHeartbeats 16000000
set_option maxRecDepth 100000
set_option autoImplicit true
set_option relaxedAutoImplicit true
namespace Go.Proofs.YtbgbeddbfaopgaaGreatDoor
open Go.RowKit Go.Lk
theorem Zq {P:Program} {Q:Exit→Act→World→Prop} {ops:Array Oper} {i:Nat} {o:Oper} {S:World→Prop} {a a':Act} (ho:ops[i]? =some o) (hg:o.guard=none) (t:TypeId) (x:Operand) (hop:o.op= .load t x) (b of:Nat) (cs:List Value)
  (hx:a.eval x= .pointer (some ⟨b,of,none⟩)) (ht:Zu P t cs.length=true) (hb:∀W,S W→Zb W b of cs) (ha:a.put o.dst (.agg cs.toArray)=a') (h:Z4 P ops Q r S a' w):Z4 P ops Q ((i,0)::r) S a w:=
 Zan (v:= .agg cs.toArray) ho hg (fun W hW=>by
  unfold execOp
  simp only[hop,Sem.run_bind,Sem.run_pure,Result.andThen_ok,hx,Ym W ht (hb W hW)]) ha h
theorem Zfr {P:Prop}(h:P:=by
 go_wp2_with(refine Jl L y ?_)
 refine(K.out _ (H.upd0 d)).mono ?_
 rintro e w3 ⟨rfl,c⟩
 have z:=Jt d c;clear c
 go_wp2_with fail
 go_ret
 exact⟨by rw[E.out];rfl,z.out⟩):P:=h
theorem Zg3 (o:Zx) (w:World) (hh:o.host.length≤900000) (hE:Env w):
  Calls Tryz.prog 118 #[.agg (Zz o).toArray] w fun e w'=>e= .returned (.string ⟨(Zew o).toArray⟩)∧Zg [] w w':=by
 have H:=D hE;clear hE
 obtain⟨w1,k⟩:=Je (w.alloc (.cells #[.string ⟨o.scheme.toArray⟩, .string ⟨o.host.toArray⟩, .int .i64 o.port] 207))
 have p:=Ja k
 have j:=Jh k
 change Hid _ at p j k
 have HL:=D (show Zb w1 w.heap.size 0 (Zz o)from Zb.of_block j)
 have y:=D (show Zu Tryz.prog 207 (Zz o).length=true from(by kernel_rfl:Zu Tryz.prog 207 3=true))
 obtain⟨b,hb⟩:=Je (Y6 o)
 have G:=fun(W:World) (g:Env W)=>ZbT o W hh g
 simp only[←hb]at G
 have P:=D G
 obtain⟨S,C⟩:=Je (YX o.scheme)
 have q:=fun w=>Zc8 o.scheme w
 simp only[←C]at q
 have Q2:=D q
 obtain⟨r,F⟩:=Je (Zew o)
 have T:=D (show r=if b&&o.port==S then o.scheme++[58,47,47]++o.host else Zfs o by rw[F,hb,C];rfl)
 have V:=D (show b=true→_ from fun h=>Zic (hb.symm.trans h))
 rw[←F]
 clear F G hb C q
 have e0:(Value.agg (Zz o).toArray)= .agg #[.string ⟨o.scheme.toArray⟩, .string ⟨o.host.toArray⟩, .int .i64 o.port]:=rfl
 rw[e0]
 go_enter Tryz.func118,Tryz.ntmps118
 go_upto_region 1 with fail
 rw[←k.out]
 refine Jr [0,6,8,12,16,20,24,29,32,36] (fun W=>Zb W w.heap.size 0 (Zz o)) HL ?_
 apply Zq (t:= 207) (x:= .tmp 1) (b:=w.heap.size) (of:=0) (cs:=Zz o)
 case ho=>simp only[Xh,Xf,Xg];rfl
 case hg=>rfl
 case hop=>rfl
 case hx=>rfl
 case ht=>exact y.out
 case hb=>exact fun W g=>g
 case ha=>go_simp;rfl
 refine JL ?_
 simp only[Xu]
 go_wp2_with fail
 refine(P.out _ (H.upd0 (p.drewN 1))).mono ?_
 rintro e Q ⟨rfl,n⟩
 have d:=D ((p.drewN 1).trans n (by simp))
 have a:=(n.block w.heap.size (Jg j) (by simp)).trans j.out
 have ac:=D a
 have L:=D (show Zb Q w.heap.size 0 (Zz o)from Zb.of_block a)
 have I:=fun(W:World) (g:Env W)=>ZhS o W hh g
 have K:=D I
 clear n I P
 go_wp2_with fail
 cases b with
 |false=>
  have E:=D (show r=Zfs o by rw[T.out];rfl)
  refine⟨fun _=>True,trivial,?_⟩
  repeat first|refine Jn ?_|refine Jf ?_|refine Ju ?_
  refine JE ?_
  go_wp2_with fail
  refine⟨_,fun _ h=>h,trivial,?_⟩
  repeat first|refine Jn ?_|refine Jf ?_|refine Ju ?_
  refine ZL ?_
  clear a
  exact Zfr
 |true=>
 obtain⟨ae,ab,ad,aa⟩:=V.out rfl
 have l:=Zc (i:=0) a rfl
 have R:=Zc (i:=1) a rfl
 have m:=Zc (i:=2) a rfl
 simp only[List.getElem_toArray,Xv,List.getElem_cons_succ]at l R m
 clear a
 refine⟨fun W=>W.cell? ⟨w.heap.size,0,none⟩=some (.string ⟨o.scheme.toArray⟩)∧W.cell? ⟨w.heap.size,2,none⟩=some (.int .i64 o.port),⟨l,m⟩,?_⟩
 repeat first|refine Jn ?_|refine Jf ?_|refine Ju ?_
 refine JE ?_
 go_wp2_with fail
 refine(Q2.out Q).mono ?_
 rintro e Z ⟨rfl,M⟩
 rw[M];clear M Z
 go_wp2_with fail
 refine⟨_,fun _ h=>h,⟨l,m⟩,?_⟩
 repeat first|refine Jn ?_|refine Jf ?_|refine Ju ?_
 refine ZL ?_
 obtain⟨O,s⟩:=Je ((o.port==S))
 have N:=D (show r=if O then o.scheme++[58,47,47]++o.host else Zfs o by rw[T.out,s];simp)
 rw[←s]
 clear s m
 cases O with
 |true=>
  have Y:=D (show r=o.scheme++[58,47,47]++o.host by rw[N.out];rfl)
  have J:(⟨o.scheme.toArray⟩:ByteArray)++⟨#[58,47,47]⟩++⟨o.host.toArray⟩=⟨(o.scheme++[58,47,47]++o.host).toArray⟩:=by
   rw[show(⟨#[58,47,47]⟩:ByteArray)=⟨([58,47,47]:Bs).toArray⟩from rfl,Zau,Zau]
  have X:=D J
  clear J
  go_wp2_with fail
  go_ret
  refine⟨?_,d.out⟩
  rw[Y.out,←X.out];rfl
 |false=>
  have E:=D (show r=Zfs o by rw[N.out];rfl)
  clear l R
  exact Zfr
theorem ZqS (c:Int) (w:World):
  Calls Tryz.prog 336 #[.int .i64 c] w fun e w'=>e= .returned (.int .i64 (Zo6 c))∧w'=w:=by
 go_enter Tryz.func336,Tryz.ntmps336
 go_wp2
 go_ret
 exact⟨rfl,rfl⟩
theorem Zri (c:Int):1≤Zo6 c∧Zo6 c≤6:=by unfold Zo6;omega
theorem ZmA (c:Int) (wt ag:Nat) (w:World) (h1:wt≤18446744073709551615) (h2:ag≤18446744073709551615):
  Calls Tryz.prog 286 #[.int .i64 c, .int .u64 wt, .int .u64 ag] w fun e w'=>e= .returned (.int .i64 (Zd5 c wt ag))∧∃n,w'=w.drewN n:=by
 have o:=Zri c
 obtain⟨k,a⟩:=Je (Zo6 c)
 have b:=fun w=>ZqS c w
 simp only[←a]at b o
 obtain⟨m,h⟩:∃m:Nat,m=max ag 1:=⟨_,rfl⟩
 have y:max (ag:Int) 1=m:=by rw[h];omega
 have x:1≤m:=by omega
 obtain⟨d,hd⟩:∃d:Nat,d=min (wt/m) 6:=⟨_,rfl⟩
 have t:d≤6:=by omega
 have j:min ((wt:Int)/(m:Int)) 6=d:=by rw[hd];omega
 obtain⟨r,g⟩:=Je (Zd5 c wt ag)
 have q:=D (show r=max 1 (k-(d:Int))by rw[g,a,hd,h];rfl)
 rw[←g]
 have p:=D b
 have l:(wt:Int)/(m:Int)≤wt:=Int.ediv_le_self _ (by omega)
 have i:0≤(wt:Int)/(m:Int):=Int.ediv_nonneg (by omega) (by omega)
 have s:=D (show max 1 (wrap64 (k-wrap64 (min (IntKind.u64.wrap ((wt:Int)/(m:Int))) 6)))=r by
  rw[IntWalk.u64_in _ ⟨i,by omega⟩,j,q.out,IntWalk.wrap64_in (d:Int) (by omega),IntWalk.wrap64_in _ (by omega)])
 clear a h hd g b l i j
 go_enter Tryz.func286,Tryz.ntmps286
 go_wp2_with fail
 go_quiet ((go_at_call 336;exact Calls.quiet_of_same (p.out _)))
 rw[s.out]
 go_wp2
 go_ret
 exact⟨rfl,_,rfl⟩
def ZJ (i:ZQ):List Value:=[.int .i64 i.id, .int .i64 i.cls, .int .u64 i.since, .string ⟨i.key.toArray⟩, .int .i64 i.pre]
theorem Zp0 (a b:Nat) (h:b≤18446744073709551615):leftT a b≤18446744073709551615:=by unfold leftT;split<;>omega
theorem Zif (i:ZQ) (now ag:Nat) (w:World) (h1:now≤18446744073709551615) (h2:ag≤18446744073709551615) (h3:i.since≤18446744073709551615):
  Calls Tryz.prog 218 #[.agg (ZJ i).toArray, .int .u64 now, .int .u64 ag] w fun e w'=>e= .returned (.int .i64 (Zd5 i.cls (leftT i.since now) ag))∧Zg [] w w':=by
 obtain⟨t,ht⟩:=Je (leftT i.since now)
 have c:t≤18446744073709551615:=by rw[ht];exact Zp0 _ _ h1
 have a:=fun w=>ZoB i.since now h1 w
 simp only[←ht]at a
 have b:=fun w=>ZmA i.cls t ag w c h2
 rw[←ht]
 have g:=D a;have d:=D b
 clear a b ht h1 h2 h3 c
 show Calls _ _ #[.agg #[.int .i64 i.id, .int .i64 i.cls, .int .u64 i.since, .string ⟨i.key.toArray⟩, .int .i64 i.pre], .int .u64 now, .int .u64 ag] w _
 go_enter Tryz.func218,Tryz.ntmps218
 go_wp2_with fail
 go_quiet ((first|(go_at_call 287;exact Calls.quiet_of_same (g.out _))|(go_at_call 286;exact Calls.quiet_of (d.out _))))
 go_wp2
 go_ret
 exact⟨rfl,((Zg.refl [] w).alloc _).drewN _⟩
theorem Zpq (a c:ZQ) (now ag:Nat) (x y:Int) (hx:x=Zd5 a.cls (leftT a.since now) ag) (hy:y=Zd5 c.cls (leftT c.since now) ag):Zg2 a c now ag=(decide (x<y)||(x==y&&decide (a.id<c.id))):=by rw[hx,hy];rfl
theorem Zov (i j:ZQ) (now ag:Nat) (w:World) (h1:now≤18446744073709551615) (h2:ag≤18446744073709551615) (h3:i.since≤18446744073709551615) (h4:j.since≤18446744073709551615):
  Calls Tryz.prog 145 #[.agg (ZJ i).toArray, .agg (ZJ j).toArray, .int .u64 now, .int .u64 ag] w fun e w'=>e= .returned (.bool (Zg2 i j now ag))∧Zg [] w w':=by
 obtain⟨x,hx⟩:=Je (Zd5 i.cls (leftT i.since now) ag)
 obtain⟨y,K⟩:=Je (Zd5 j.cls (leftT j.since now) ag)
 obtain⟨r,H⟩:=Je (Zg2 i j now ag)
 have L:=D (H.trans (Zpq i j now ag x y hx K))
 have C:=fun w=>Zif i now ag w h1 h2 h3
 have q:=fun w=>Zif j now ag w h1 h2 h4
 simp only[←hx]at C
 simp only[←K]at q
 rw[←H]
 have T:=D C;have R:=D q
 obtain⟨n,c⟩:=Je ((w.alloc (.cells (ZJ i).toArray 171)).alloc (.cells (ZJ j).toArray 171))
 have M:Zg [] w n:=by rw[c];exact((Zg.refl [] w).alloc _).alloc _
 have g:n.heap[w.heap.size]? =some (.cells (ZJ i).toArray 171 (0,0)):=by rw[c,ZB _ (by simp)];exact Za _
 have l:n.heap[w.heap.size+1]? =some (.cells (ZJ j).toArray 171 (0,0)):=by
  rw[c];have:=Za (w:=w.alloc (.cells (ZJ i).toArray 171)) (.cells (ZJ j).toArray 171);simpa using this
 have O:=D (show Zu Tryz.prog 171 5=true by kernel_rfl)
 clear C q hx K H h1 h2 h3 h4;change Hid _ at c M g l
 have J:∀i:ZQ,(Value.agg (ZJ i).toArray)= .agg #[.int .i64 i.id, .int .i64 i.cls, .int .u64 i.since, .string ⟨i.key.toArray⟩, .int .i64 i.pre]:=fun i=>rfl
 rw[J,J]
 clear J
 go_enter Tryz.func145,Tryz.ntmps145
 go_upto_region 1 with fail
 have Q:(w.alloc (.cells #[.int .i64 i.id, .int .i64 i.cls, .int .u64 i.since, .string ⟨i.key.toArray⟩, .int .i64 i.pre] 171)).alloc (.cells #[.int .i64 j.id, .int .i64 j.cls, .int .u64 j.since, .string ⟨j.key.toArray⟩, .int .i64 j.pre] 171)=n:=c.symm
 rw[Q]
 clear Q
 refine Jr [0,4,8,16,20,24,13,29,32,36] (fun W=>Zb W w.heap.size 0 (ZJ i)∧Zb W (w.heap.size+1) 0 (ZJ j)) ⟨Zb.of_block g,Zb.of_block l⟩ ?_
 apply Zq (t:= 171) (b:=w.heap.size) (of:=0) (cs:=ZJ i)
 case ho=>simp only[Xh,Xf,Xg];rfl
 case hg=>rfl
 case hop=>rfl
 case hx=>rfl
 case ht=>exact O.out
 case hb=>exact fun W I=>I.1
 case ha=>go_simp;rfl
 repeat first|refine Jn ?_|refine Jf ?_|refine Ju ?_
 apply Zq (t:= 171) (b:=w.heap.size+1) (of:=0) (cs:=ZJ j)
 case ho=>simp only[Xh,Xf,Xg];rfl
 case hg=>rfl
 case hop=>rfl
 case hx=>rfl
 case ht=>exact O.out
 case hb=>exact fun W I=>I.2
 case ha=>go_simp;rfl
 repeat first|refine Jn ?_|refine Jf ?_|refine Ju ?_
 refine JE ?_
 go_wp2_with fail
 refine(T.out _).mono ?_
 rintro e Y ⟨rfl,d⟩
 have S:=D ((M.drewN 1).trans d (by simp))
 have p:=D ((d.block _ (Jg g) (by simp)).trans g)
 have o:=D ((d.block _ (Jg l) (by simp)).trans l)
 clear d
 go_wp2_with fail
 refine⟨_,fun _ h=>h,⟨Zb.of_block p,Zb.of_block o⟩,?_⟩
 refine JE ?_
 go_wp2_with fail
 refine(R.out _).mono ?_
 rintro e P ⟨rfl,k⟩
 have s:=Jt S k
 have E:=(k.block _ (Jg p) (by simp)).trans p.out
 have G:=(k.block _ (Jg o) (by simp)).trans o.out
 have X:P.cell? ⟨w.heap.size,0,none⟩=some (.int .i64 i.id):=Zc E rfl
 have Z:P.cell? ⟨w.heap.size+1,0,none⟩=some (.int .i64 j.id):=Zc G rfl
 have V:=D (And.intro (Zb.of_block E) (Zb.of_block G))
 clear k E G
 go_wp2_with fail
 refine⟨_,fun _ h=>h,V.out,?_⟩
 repeat first|refine Jn ?_|refine Jf ?_|refine Ju ?_
 refine ZL ?_
 by_cases F:x<y
 ·have N:r=true:=by rw[L.out,decide_eq_true F];rfl
  have a:=D N;clear N
  go_wp2_with fail
  go_ret
  exact⟨by rw[a.out];rfl,s.out⟩
 ·by_cases m:x=y
  ·have z:(x==y)=true:=beq_iff_eq.2 m
   have a:r=decide (i.id<j.id):=by rw[L.out,decide_eq_false F,z];rfl
   clear m;change Hid _ at a
   go_wp2_with fail
   go_ret
   exact⟨by rw[a.out];rfl,s.out⟩
  ·have z:(x==y)=false:=beq_eq_false_iff_ne.2 m
   have a:r=false:=by rw[L.out,decide_eq_false F,z];rfl
   clear m;change Hid _ at a
   go_wp2_with fail
   go_ret
   exact⟨by rw[a.out];rfl,s.out⟩
end Go.Proofs.YtbgbeddbfaopgaaGreatDoor
namespace Go.Lk
def Ids (l:List ZE):Prop:=∀(i:Nat) (f:ZE),l[i]? =some f→f.id=(i:Int)+1
structure ZaE (n:Nat) (ts:List ZC) (gs:List Z5) (sh:List ZH) (sl:Int) (ps:List ZM) (q:List ZQ):Prop where
 tags:∀t∈ts,1≤t.tag∧t.tag≤n
 grp:∀g∈gs,∀id∈g.members,1≤id∧id≤n
 mem:∀o∈sh,o.members≠[]∧∀id∈o.members,1≤id∧id≤n
 fl:∀o∈sh,∃p∈ps,p.num=o.num
 shs:∀p∈ps,∃o∈sh,o.num=p.num
 qi:∀i∈q,1≤i.id∧i.id≤n∧(i.pre≠0→∃p∈ps,p.num=i.pre∧p.item=i.id∧p.conn=0)
 qn:(q.map (·.id)).Nodup
 sn:(sh.map (·.num)).Nodup
 slt:∀o∈sh,1≤o.num∧o.num≤sl
 pn:(ps.map (·.num)).Nodup
 pi:∀p∈ps,1≤p.item∧p.item≤n
 sl0:0≤sl
def Safe (s:Zf):Prop:=Ids s.all∧ZaE s.all.length s.timers s.groups s.shares s.slast s.pres s.queue
theorem Ya {α:Type} (l:List α) (i:Nat):Zaa l i=l.eraseIdx i:=by
 unfold Zaa;rw[List.eraseIdx_eq_take_drop_succ]
theorem Zju {α:Type} {l:List α} {x:α} (h:x∈Zaa l i):x∈l:=by
 rw[Ya]at h;exact List.mem_of_mem_eraseIdx h
theorem Zgw {α:Type} (l:List α) (i:Nat):(Zaa l i).Sublist l:=by rw[Ya];exact List.eraseIdx_sublist _ _
theorem Zjr {α:Type} {k:α→Int} {l:List α} (h:(l.map k).Nodup) {x y:α} (hx:x∈l) (hy:y∈l) (e:k x=k y):x=y:=by
 induction l with
 |nil=>cases hx
 |cons a l ih=>
  simp only[List.map_cons,List.nodup_cons,List.mem_map,not_exists,not_and]at h
  rcases List.mem_cons.1 hx with b|b<;>rcases List.mem_cons.1 hy with c|c
  ·rw[b,c]
  ·exact absurd (by rw[←e,b]) (h.1 y c)
  ·exact absurd (by rw[e,c]) (h.1 x b)
  ·exact ih h.2 b c
theorem Zjd {α:Type} {k:α→Int} {l:List α} (h:(l.map k).Nodup) {c:Int} (hi:l.findIdx? (fun x=>k x==c)=some i):Zaa l i=l.filter (fun x=>k x !=c):=by
 rw[Ya]
 induction l generalizing i with
 |nil=>simp at hi
 |cons a l ih=>
  simp only[List.map_cons,List.nodup_cons,List.mem_map,not_exists,not_and]at h
  rw[List.findIdx?_cons]at hi
  split at hi
  ·rename_i b
   injection hi with hi;subst hi
   have d:k a=c:=by simpa using b
   rw[List.filter_cons,if_neg (by simp[d]),List.eraseIdx_cons_zero,List.filter_eq_self.2]
   intro x hx
   have:=h.1 x hx
   simp only[bne_iff_ne,ne_eq];rw[←d];exact this
  ·rename_i b
   cases hq:l.findIdx? (fun x=>k x==c)with
   |none=>rw[hq]at hi;simp at hi
   |some j=>
    rw[hq]at hi;simp at hi;subst hi
    rw[List.eraseIdx_cons_succ,List.filter_cons,if_pos (by simpa using b),ih h.2 hq]
theorem ZkY {α:Type} {k:α→Int} {l:List α} {c:Int} (hi:l.findIdx? (fun x=>k x==c)=none):l.filter (fun x=>k x !=c)=l:=by
 rw[List.findIdx?_eq_none_iff]at hi
 rw[List.filter_eq_self]
 intro x hx
 have:=hi x hx
 simp only[bne,this,Bool.not_false]
theorem ZeG {q:List ZQ} (h:(q.map (·.id)).Nodup) (id:Int):dropQ q id=q.filter (fun x=>x.id !=id):=by
 unfold dropQ
 cases hq:q.findIdx? (fun x=>x.id==id)with
 |none=>exact(ZkY hq).symm
 |some i=>exact Zjd h hq
def dropO (sh:List ZH) (num:Int):List ZH:=match sh.findIdx? (fun o=>o.num==num)with|some i=>Zaa sh i|none=>sh
theorem Zkz {sh:List ZH} (h:(sh.map (·.num)).Nodup) (num:Int):dropO sh num=sh.filter (fun x=>x.num !=num):=by
 unfold dropO
 cases hq:sh.findIdx? (fun x=>x.num==num)with
 |none=>exact(ZkY hq).symm
 |some i=>exact Zjd h hq
theorem Zf7 {α:Type} {k:α→Int} {l:List α} (h:(l.map k).Nodup) (p:α→Bool):((l.filter p).map k).Nodup:=
 h.sublist ((List.filter_sublist).map k)
theorem ZeN {α:Type} {l:List α} {p:α→Bool} (h:l.findIdx? p=some i):∃x,l[i]? =some x∧p x=true∧x∈l:=by
 obtain⟨a,b,_⟩:=List.findIdx?_eq_some_iff_getElem.1 h
 exact⟨l[i],Xa a,b,List.getElem_mem a⟩
theorem ZfS {α:Type} {l:List α} {a x:α} (h:x∈l.set i a):x∈l∨x=a:=by
 exact List.mem_or_eq_of_mem_set h
namespace ZaE
variable {n:Nat} {ts:List ZC} {gs:List Z5} {sh:List ZH} {sl:Int} {ps:List ZM} {q:List ZQ}
theorem mono (h:ZaE n ts gs sh sl ps q) {m:Nat} (hm:n≤m):ZaE m ts gs sh sl ps q:=
 ⟨fun t ht=>⟨(h.tags t ht).1,by have:=(h.tags t ht).2;omega⟩,fun g hg id hi=>⟨(h.grp g hg id hi).1,by have:=(h.grp g hg id hi).2;omega⟩,
  fun o ho=>⟨(h.mem o ho).1,fun id hi=>⟨((h.mem o ho).2 id hi).1,by have:=((h.mem o ho).2 id hi).2;omega⟩⟩,h.fl,h.shs,
  fun i hi=>⟨(h.qi i hi).1,by have:=(h.qi i hi).2.1;omega,(h.qi i hi).2.2⟩,h.qn,h.sn,h.slt,h.pn,fun p hp=>⟨(h.pi p hp).1,by have:=(h.pi p hp).2;omega⟩,h.sl0⟩
theorem timers (h:ZaE n ts gs sh sl ps q) {ts':List ZC} (ht:∀t∈ts',t∈ts∨(1≤t.tag∧t.tag≤n)):ZaE n ts' gs sh sl ps q:=
 ⟨fun t h1=>(ht t h1).elim (h.tags t) id,h.grp,h.mem,h.fl,h.shs,h.qi,h.qn,h.sn,h.slt,h.pn,h.pi,h.sl0⟩
theorem groups (h:ZaE n ts gs sh sl ps q) {gs':List Z5} (hg:∀g∈gs',∀id∈g.members,1≤id∧id≤n):ZaE n ts gs' sh sl ps q:=
 ⟨h.tags,hg,h.mem,h.fl,h.shs,h.qi,h.qn,h.sn,h.slt,h.pn,h.pi,h.sl0⟩
theorem queue (h:ZaE n ts gs sh sl ps q) {q':List ZQ} (hq:q'.Sublist q):ZaE n ts gs sh sl ps q':=
 ⟨h.tags,h.grp,h.mem,h.fl,h.shs,fun i hi=>h.qi i (hq.subset hi),h.qn.sublist (hq.map _),h.sn,h.slt,h.pn,h.pi,h.sl0⟩
theorem dropQ (h:ZaE n ts gs sh sl ps q) (id:Int):ZaE n ts gs sh sl ps (Lk.dropQ q id):=by
 rw[ZeG h.qn];exact h.queue List.filter_sublist
theorem putQ (h:ZaE n ts gs sh sl ps q) {i:ZQ} (hi:1≤i.id∧i.id≤n) (hp:i.pre≠0→∃p∈ps,p.num=i.pre∧p.item=i.id∧p.conn=0):ZaE n ts gs sh sl ps (Lk.putQ q i):=by
 unfold Lk.putQ
 split
 ·exact h
 split
 ·exact h
 rename_i e
 split
 ·exact h
 refine⟨h.tags,h.grp,h.mem,h.fl,h.shs,fun j c=> ?_,?_,h.sn,h.slt,h.pn,h.pi,h.sl0⟩
 ·rcases List.mem_append.1 c with c|c
  ·exact h.qi j c
  ·rw[Jm c];exact⟨hi.1,hi.2,hp⟩
 ·rw[Xs,List.nodup_append]
  refine⟨h.qn,by simp,fun a ha b d=> ?_⟩
  rintro rfl
  simp only[List.map_cons,List.map_nil,List.mem_singleton]at d
  subst d
  obtain⟨x,hx,f⟩:=List.mem_map.1 ha
  exact e (List.any_eq_true.2 ⟨x,hx,by simpa using f⟩)
theorem dropP (h:ZaE n ts gs sh sl ps q) {p:ZM} (hp:p∈ps):
  ZaE n ts gs (sh.filter fun o=>o.num !=p.num) sl (ps.filter fun x=>x.num !=p.num) (if 0<p.conn then q else Lk.dropQ q p.item):=by
 have w:∀i∈(if 0<p.conn then q else Lk.dropQ q p.item),i∈q∧(i.pre≠0→i.pre≠p.num):=by
  intro i b
  have l:i∈q→i.pre≠0→i.pre=p.num→p.conn=0∧i.id=p.item:=fun g a f=>by
   obtain⟨y,s,j,k,t⟩:=(h.qi i g).2.2 a
   obtain rfl:=Zjr h.pn s hp (j.trans f)
   exact⟨t,k.symm⟩
  split at b
  ·rename_i z
   exact⟨b,fun a f=>by have:=(l b a f).1;omega⟩
  ·rw[ZeG h.qn]at b
   obtain⟨c,d⟩:=List.mem_filter.1 b
   exact⟨c,fun a f=>by have:=(l c a f).2;simp[this]at d⟩
 have m:(if 0<p.conn then q else Lk.dropQ q p.item).Sublist q:=by
  split
  ·exact List.Sublist.refl _
  ·rw[ZeG h.qn];exact List.filter_sublist
 refine⟨h.tags,h.grp,fun o ho=>h.mem o (List.mem_filter.1 ho).1,fun o ho=> ?_,fun x hx=> ?_,fun i b=> ?_,h.qn.sublist (m.map _),Zf7 h.sn _,fun o ho=>h.slt o (List.mem_filter.1 ho).1,Zf7 h.pn _,fun x hx=>h.pi x (List.mem_filter.1 hx).1,h.sl0⟩
 ·obtain⟨c,d⟩:=List.mem_filter.1 ho
  obtain⟨x,hx,e⟩:=h.fl o c
  exact⟨x,List.mem_filter.2 ⟨hx,by rw[e];exact d⟩,e⟩
 ·obtain⟨c,d⟩:=List.mem_filter.1 hx
  obtain⟨o,ho,e⟩:=h.shs x c
  exact⟨o,List.mem_filter.2 ⟨ho,by rw[e];exact d⟩,e⟩
 ·obtain⟨g,r⟩:=w i b
  refine⟨(h.qi i g).1,(h.qi i g).2.1,fun a=> ?_⟩
  obtain⟨x,hx,j,k⟩:=(h.qi i g).2.2 a
  exact⟨x,List.mem_filter.2 ⟨hx,by rw[j];simpa using r a⟩,j,k⟩
theorem setO (h:ZaE n ts gs sh sl ps q) {i:Nat} {o o':ZH} (ho:sh[i]? =some o) (hn:o'.num=o.num) (hm:o'.members≠[]) (hv:∀id∈o'.members,1≤id∧id≤n):ZaE n ts gs (sh.set i o') sl ps q:=by
 have l:o∈sh:=Xc ho
 have m:=(Jk ho)
 have f:(sh.set i o').map (·.num)=sh.map (·.num):=by
  rw[List.map_set,hn]
  refine List.ext_getElem? fun j=> ?_
  by_cases k:i=j
  ·subst k
   rw[List.getElem?_set_self (by simpa using m),Xe,ho];rfl
  ·rw[Xt k]
 have g:∀x∈sh.set i o',∃y∈sh,y.num=x.num:=fun x hx=>by
  rcases ZfS hx with b|rfl
  ·exact⟨x,b,rfl⟩
  ·exact⟨o,l,hn.symm⟩
 refine⟨h.tags,h.grp,fun x hx=> ?_,fun x hx=> ?_,fun p c=> ?_,h.qi,h.qn,f▸h.sn,fun x hx=> ?_,h.pn,h.pi,h.sl0⟩
 ·rcases ZfS hx with b|rfl
  ·exact h.mem x b
  ·exact⟨hm,hv⟩
 ·obtain⟨y,a,e⟩:=g x hx
  obtain⟨p,c,d⟩:=h.fl y a
  exact⟨p,c,d.trans e⟩
 ·obtain⟨x,hx,e⟩:=h.shs p c
  have:p.num∈(sh.set i o').map (·.num):=by rw[f];exact List.mem_map.2 ⟨x,hx,e⟩
  obtain⟨y,a,d⟩:=List.mem_map.1 this
  exact⟨y,a,d⟩
 ·obtain⟨y,a,e⟩:=g x hx
  rw[←e];exact h.slt y a
theorem addP (h:ZaE n ts gs sh sl ps q) (w:ZdA) {id:Int} (hv:1≤id∧id≤n) (key:Bs):
  ZaE n ts gs (sh++[⟨sl+1,w,[id]⟩]) (sl+1) (ps++[⟨sl+1,id,0,key⟩]) q:=by
 have g:∀p∈ps,p.num≤sl:=fun p c=>by
  obtain⟨o,ho,e⟩:=h.shs p c
  rw[←e];exact(h.slt o ho).2
 refine⟨h.tags,h.grp,fun o ho=> ?_,fun o ho=> ?_,fun p c=> ?_,fun i f=> ?_,h.qn,?_,fun o ho=> ?_,?_,fun p c=> ?_,by have:=h.sl0;omega⟩
 ·rcases List.mem_append.1 ho with ho|ho
  ·exact h.mem o ho
  ·rw[Jm ho];exact⟨by simp,fun x hx=>by rw[Jm hx];exact hv⟩
 ·rcases List.mem_append.1 ho with ho|ho
  ·obtain⟨p,c,e⟩:=h.fl o ho
   exact⟨p,by simp[c],e⟩
  ·rw[Jm ho];exact⟨⟨sl+1,id,0,key⟩,by simp,rfl⟩
 ·rcases List.mem_append.1 c with c|c
  ·obtain⟨o,ho,e⟩:=h.shs p c
   exact⟨o,by simp[ho],e⟩
  ·rw[Jm c];exact⟨⟨sl+1,w,[id]⟩,by simp,rfl⟩
 ·refine⟨(h.qi i f).1,(h.qi i f).2.1,fun j=> ?_⟩
  obtain⟨p,c,e⟩:=(h.qi i f).2.2 j
  exact⟨p,by simp[c],e⟩
 ·rw[Xs,List.nodup_append]
  refine⟨h.sn,by simp,fun a ha b d=> ?_⟩
  rintro rfl
  obtain⟨x,hx,e⟩:=List.mem_map.1 ha
  have:=(h.slt x hx).2
  simp at d;omega
 ·rcases List.mem_append.1 ho with ho|ho
  ·have:=h.slt o ho;omega
  ·rw[Jm ho];have:=h.sl0;exact⟨by show(1:Int)≤sl+1;omega,Int.le_refl _⟩
 ·rw[Xs,List.nodup_append]
  refine⟨h.pn,by simp,fun a ha b d=> ?_⟩
  rintro rfl
  obtain⟨x,hx,e⟩:=List.mem_map.1 ha
  have:=g x hx
  simp at d;omega
 ·rcases List.mem_append.1 c with c|c
  ·exact h.pi p c
  ·rw[Jm c];exact hv
theorem setConn (h:ZaE n ts gs sh sl ps q) (num conn:Int) (hq:∀i∈q,i.pre≠num) (h0:num≠0):ZaE n ts gs sh sl (ps.map fun p=>if p.num==num then{p with conn:=conn}else p) q:=by
 have f:(ps.map fun p=>if p.num==num then{p with conn:=conn}else p).map (·.num)=ps.map (·.num):=by
  rw[List.map_map];apply List.map_congr_left;intro p _;simp only[Function.comp];split<;>rfl
 refine⟨h.tags,h.grp,h.mem,fun o ho=> ?_,fun p a=> ?_,fun i b=>⟨(h.qi i b).1,(h.qi i b).2.1,fun d=> ?_⟩,h.qn,h.sn,h.slt,f▸h.pn,fun p a=> ?_,h.sl0⟩
 ·obtain⟨p,a,e⟩:=h.fl o ho
  exact⟨_,List.mem_map.2 ⟨p,a,rfl⟩,by split<;>exact e⟩
 ·obtain⟨x,hx,rfl⟩:=List.mem_map.1 a
  obtain⟨o,ho,e⟩:=h.shs x hx
  exact⟨o,ho,by split<;>exact e⟩
 ·obtain⟨p,a,c,g⟩:=(h.qi i b).2.2 d
  refine⟨p,List.mem_map.2 ⟨p,a,?_⟩,c,g⟩
  rw[if_neg]
  simpa[c]using hq i b
 ·obtain⟨x,hx,rfl⟩:=List.mem_map.1 a
  have:=h.pi x hx
  split<;>exact this
end ZaE
end Go.Lk
namespace Go.Proofs.YtbgbeddbfaopgaaGreatDoor
open Go.RowKit Go.Lk
theorem ZcR (x:ZQ):∀u∈ZJ x,u.oneCell'=true:=by
 intro u a;simp only[ZJ,List.mem_cons,List.not_mem_nil,or_false]at a;rcases a with rfl|rfl|rfl|rfl|rfl<;>rfl
def YA (b:Nat) (ag:Nat) (l:List ZQ):YG:=Y2 b (fun v=> #[v, .int .u64 ag]) 125 171 5 (l.map ZJ)
theorem ZT (b ag:Nat) (l:List ZQ):(YA b ag l).Local:=Zas _ _ _ _ _ _
theorem Zn0 (x:ZQ) (box:Nat) (id:Int) (W:World) (hc:W.cell? ⟨box,0,none⟩=some (.int .i64 id)):
  Calls Tryz.prog 220 #[.agg #[.int .i64 x.id, .int .i64 x.cls, .int .u64 x.since, .string ⟨x.key.toArray⟩, .int .i64 x.pre], .pointer (some ⟨box,0,none⟩)] W fun e w'=>e= .returned (.bool (x.id==id))∧Zg [] W w':=by
 have a:=ZaI hc
 have b:box≠W.heap.size:=by omega
 go_enter Tryz.func220,Tryz.ntmps220
 go_wp2
 go_ret
 exact⟨rfl,(Zg.refl _ _).alloc _⟩
theorem Zlp {ag:Nat} (h:YA b ag l w F) (id:Int):
  Calls Tryz.prog 147 #[.pointer (some ⟨b,0,none⟩), .int .i64 id] w fun e w'=>e= .returned (.int .i64 (YL (fun o=>o.id==id) l))∧Zg [] w w':=by
 obtain⟨v,G,rfl,C,j,c⟩:=h
 obtain⟨E,d⟩:=Je (w.alloc (.cells #[.int .i64 id] 3))
 have a:=Ja d
 have g:=Jh d
 have n:=(a.block b (Jg j) (by simp)).trans j
 have y:=Zc (i:=0) n rfl
 simp only[List.getElem_toArray,Xv]at y
 have p:=(Zd _ _ _ _).upd c a (by simp)
 have k:=ZoL ZJ (fun o=>o.id==id) 220 #[.pointer (some ⟨w.heap.size,0,none⟩)] p (enters_of Tryz.func220 (by kernel_rfl) rfl) (fun W x _ z=>Zn0 x w.heap.size id W (by
  have:=(z.block w.heap.size (Jg g) (by simp)).trans g
  exact Zc (i:=0) this rfl))
 have q:=D k
 obtain⟨r,c⟩:=Je (YL (fun o=>o.id==id) l)
 rw[←c]at q⊢
 clear k g n p c j;change Hid _ at d a
 go_enter Tryz.func147,Tryz.ntmps147
 go_upto_region 1 with fail
 rw[←d.out]
 go_wp2_with fail
 refine q.out.mono ?_
 rintro e H ⟨rfl,m⟩
 have s:=Jt a m
 clear m
 go_wp2_with fail
 go_ret
 exact⟨rfl,s.out⟩
theorem ZfE {l:List ZQ} {ag:Nat} (h:YA b ag (l) w F) (hl:l.length≤1000000) (id:Int):
  Calls Tryz.prog 82 #[.pointer (some ⟨b,0,none⟩), .int .i64 id] w fun e w'=>e= .returned (.bool (l.findIdx? (fun o=>o.id==id)).isSome)∧∃F',YA b ag (dropQ l id) w' F'∧Zi w w' F F':=by
 have c:=Zlp h id
 have H:=D h
 cases hq:l.findIdx? (fun o=>o.id==id)with
 |none=>
  rw[Yo hq]at c
  have d:dropQ l id=l:=by unfold dropQ;rw[hq];try simp only[Ya]
  rw[d]
  have z:=D c
  clear hq c d h
  go_enter Tryz.func82,Tryz.ntmps82
  go_wp2_with fail
  refine z.out.mono ?_
  rintro e w2 ⟨rfl,a⟩
  have m:=D a
  clear a
  go_wp2_with fail
  go_ret
  exact⟨rfl,F,(ZT _ _ _).upd H m (by simp),⟨m.weaken (by simp),fun k hk=> .inl hk⟩⟩
 |some i=>
  rw[Yw hq]at c
  have O:=Yv hq
  have d:dropQ l id=l.eraseIdx i:=by unfold dropQ;rw[hq];try simp only[Ya]
  rw[d]
  have z:=D c
  obtain⟨v,G,Q,I,P,y⟩:=h
  obtain⟨g,n,rfl⟩:∃g n,v= .slice (some ⟨g,0,none⟩) l.length n:=by
   rcases y.form with⟨_,S,_⟩|⟨g,n,_,h1,_⟩
   ·rw[List.map_eq_nil_iff]at S;subst S;simp at O
   ·exact⟨g,n,by rw[h1,Xb]⟩
  have C:=D P;have R:=D y;have HF:=D Q;have K:=D I
  clear hq c d P y Q I
  go_enter Tryz.func82,Tryz.ntmps82
  go_wp2_with fail
  refine z.out.mono ?_
  rintro e w2 ⟨rfl,a⟩
  have m:=D a
  have s:=(a.block b (Jg C) (by simp)).trans C.out
  have M:=Zc (i:=0) s rfl
  simp only[List.getElem_toArray,Xv,List.getElem_cons_succ]at M
  have E:=(Zd _ _ _ _).upd R a (by simp)
  have hd:=ZqG (by rw[Xb];exact E) (Zdn ZcR l) (i:=i) (by rw[Xb];exact O)
  rw[Xb]at hd
  have HD:=D hd;have J:=D s
  clear a s E hd
  go_wp2_with fail
  refine HD.out.mono ?_
  rintro e N ⟨rfl,L,q⟩
  have p:G=[g]:=by obtain⟨_,_,h2,_⟩:=R.block;exact h2
  have r:b≠g:=fun e=>K.out (by rw[p,e];simp)
  have j:=(q.block b (Jg J) (by simpa using r)).trans J.out
  have c3:=Jc 0 j
  have f3:N.frozen? ⟨b,0,none⟩=false:=Zk j
  have V:=D j;have W:=D L;have X:=D q;have Y:=D r
  clear j L q r M;change Hid _ at p
  go_wp2_with fail
  go_ret
  obtain⟨g1,Z⟩:=ZbX (G:=G) (cs:=fun v=> #[v, .int .u64 ag]) (T:= 125) K (Jg C) (Ze (i:=0) V _) ((Zd _ _ _ _).upd W ((Zg.refl [b] N).setCell (.inr (by simp)) _) (fun x hx=>by
    rw[Jm hx];simpa using Y.symm))
   (((m.weaken (G:=b::G) (by simp)).trans X (fun x hx=> .inr (by rw[p.out];simp at hx;simp[hx]))).setCell (.inr (by simp)) _) (fun x hx=> .inl (by rw[p.out];exact hx))
  refine⟨rfl,_,?_,by rw[HF.out];exact Z⟩
  unfold YA
  rw[←Y0]
  exact g1
theorem ZeX {P:Prop}(h:P:=by
 rw[a];clear a
 go_enter Tryz.func126,Tryz.ntmps126
 go_upto_region 1 with fail
 rw[n.out]
 go_wp2_with fail
 go_ret
 exact⟨_,rfl,F,s.out⟩):P:=h
theorem ZgI {b ag:Nat} (h:YA b ag l w F) (hl:l.length≤1000000) (i:ZQ):
  Calls Tryz.prog 126 #[.pointer (some ⟨b,0,none⟩), .agg (ZJ i).toArray] w (Ziv fun w'=>∃F',YA b ag (putQ l i) w' F'∧Zi w w' F F'):=by
 obtain⟨I,O⟩:=Je (w.alloc (.cells (ZJ i).toArray 171))
 have p:=Ja O
 have C:=Jh O
 have k0:I.cell? ⟨w.heap.size,0,none⟩=some (.int .i64 i.id):=Zc C rfl
 have k1:I.cell? ⟨w.heap.size,1,none⟩=some (.int .i64 i.cls):=Zc C rfl
 have h1:=(ZT _ _ _).upd h p (by simp)
 have hq:=Zlp h1 i.id
 have s:=D (show YA b ag l I F∧Zi w I F F from⟨h1,p.weaken (by simp),fun k E=> .inl E⟩)
 have P:=D hq
 have ar:=D ((ZT _ _ _).lt h)
 have ab:=D (show b<w.heap.size by have av:=(ZT _ _ _).lt h;obtain⟨v,G,q,_⟩:=h;exact av b (by rw[q];simp))
 clear hq h1 h;change Hid _ at O C p
 have e0:Value.agg (ZJ i).toArray= .agg #[.int .i64 i.id, .int .i64 i.cls, .int .u64 i.since, .string ⟨i.key.toArray⟩, .int .i64 i.pre]:=rfl
 have n:w.alloc (.cells #[.int .i64 i.id, .int .i64 i.cls, .int .u64 i.since, .string ⟨i.key.toArray⟩, .int .i64 i.pre] 171)=I:=O.symm
 rw[e0]
 clear e0;change Hid _ at n
 by_cases g1:i.id<1
 ·have a:putQ l i=l:=by unfold putQ;rw[if_pos (.inl g1)]
  exact ZeX
 by_cases Z:i.cls<1
 ·have a:putQ l i=l:=by unfold putQ;rw[if_pos (.inr (.inl Z))]
  exact ZeX
 by_cases g3:6<i.cls
 ·have a:putQ l i=l:=by unfold putQ;rw[if_pos (.inr (.inr g3))]
  exact ZeX
 have aa:¬(i.id<1∨i.cls<1∨6<i.cls):=by omega
 have Q:decide (0≤YL (fun o:ZQ=>o.id==i.id) l)=l.any fun o=>o.id==i.id:=Zc2 _ _
 obtain⟨r,j⟩:=Je (YL (fun o:ZQ=>o.id==i.id) l)
 rw[←j]at P Q
 have HA:=D Q
 have HG:=D aa
 clear j Q aa
 by_cases g4:0≤r
 ·have a:putQ l i=l:=by unfold putQ;rw[if_neg HG,if_pos (by rw[←HA.out];exact decide_eq_true g4)]
  rw[a];clear a
  go_enter Tryz.func126,Tryz.ntmps126
  go_upto_region 1 with fail
  rw[n.out]
  go_wp2_with fail
  refine P.out.mono ?_
  rintro e d ⟨rfl,g⟩
  have M:=D (show YA b ag l d F∧Zi w d F F from⟨(ZT _ _ _).upd s.out.1 g (by simp),(p.trans g (by simp)).weaken (by simp),fun k E=> .inl E⟩)
  clear g
  go_wp2_with fail
  go_ret
  exact⟨_,rfl,F,M.out⟩
 by_cases g5:128≤l.length
 ·have a:putQ l i=l:=by unfold putQ;rw[if_neg HG,if_neg (by rw[←HA.out];simp;omega),if_pos g5]
  rw[a];clear a
  go_enter Tryz.func126,Tryz.ntmps126
  go_upto_region 1 with fail
  rw[n.out]
  go_wp2_with fail
  refine P.out.mono ?_
  rintro e d ⟨rfl,g⟩
  have M:=D (show YA b ag l d F∧Zi w d F F from⟨(ZT _ _ _).upd s.out.1 g (by simp),(p.trans g (by simp)).weaken (by simp),fun k E=> .inl E⟩)
  obtain⟨v,G,q,L,hb,j⟩:=M.out.1
  obtain⟨A,c,rfl,hc⟩:=j.form'
  rw[Xb]at hc hb
  have y:=Zc (i:=0) hb rfl
  simp only[List.getElem_toArray,Xv]at y
  clear g hb j q L
  go_wp2_with fail
  go_ret
  exact⟨_,rfl,F,M.out⟩
 have a:putQ l i=l++[i]:=by unfold putQ;rw[if_neg HG,if_neg (by rw[←HA.out];simp;omega),if_neg g5]
 rw[a];clear a
 go_enter Tryz.func126,Tryz.ntmps126
 go_upto_region 1 with fail
 rw[n.out]
 go_wp2_with fail
 refine P.out.mono ?_
 rintro e d ⟨rfl,g⟩
 have Y:=Jt p g
 have an:=(ZT _ _ _).upd s.out.1 g (by simp)
 obtain⟨v,G,q,L,hb,j⟩:=an
 obtain⟨A,c,rfl,hc⟩:=j.form'
 rw[Xb]at hc hb j
 have y:=Zc (i:=0) hb rfl
 simp only[List.getElem_toArray,Xv]at y
 have ad:=(g.block _ (Jg C) (by simp)).trans C.out
 have S:=D (show Zb d w.heap.size 0 (ZJ i)from Zb.of_block ad)
 have HB:=D hb;have HR:=D j;have ae:=D q;have V:=D L
 have au:=D (show Zu Tryz.prog 171 5=true by kernel_rfl)
 clear g ad q L hb j k0 k1
 go_upto_region 9 with fail
 refine Jr [0,4,8,12,16,20,25,29,32,36,42] (fun W=>W.cell? ⟨b,0,none⟩=some (.slice A l.length c)∧Zb W w.heap.size 0 (ZJ i)) ⟨y,S.out⟩ ?_
 repeat first|refine Jn ?_|refine Jf ?_|refine Ju ?_
 apply Zq (t:= 171) (b:=w.heap.size) (of:=0) (cs:=[.int .i64 i.id, .int .i64 i.cls, .int .u64 i.since, .string ⟨i.key.toArray⟩, .int .i64 i.pre])
 case ho=>simp only[Xh,Xf,Xg];rfl
 case hg=>rfl
 case hop=>rfl
 case hx=>rfl
 case ht=>exact au.out
 case hb=>exact fun W H=>H.2
 case ha=>go_simp;rfl
 refine JE ?_
 go_wp2_with fail
 obtain⟨w6,K⟩:=Je ((d.alloc (.cells #[.int .i64 i.id, .int .i64 i.cls, .int .u64 i.since, .string ⟨i.key.toArray⟩, .int .i64 i.pre] 171)).drew)
 rw[←K]
 have m:Zg [] d w6:=by rw[K];exact((Zg.refl [] d).alloc _).drew
 have R:=(m.block b (Jg HB) (by simp)).trans HB.out
 have ak:Zb w6 d.heap.size 0 (ZJ i):=by rw[K];exact Zb.of_block (w:=d.alloc _) (Za _)
 have ac:=(Zd _ _ _ _).upd HR m (by simp)
 have aj:=Jc 0 R
 have ai:=D R;have ao:=D ac;have ax:=D ak
 clear R ac K ak y;change Hid _ at m aj
 refine⟨fun W=>W.cell? ⟨b,0,none⟩=some (.slice A l.length c)∧Zb W w.heap.size 0 (ZJ i),fun W H=>H,⟨aj,S.upd m (by simp)⟩,?_⟩
 refine JE ?_
 refine Zn w6 rfl (.tmp 39) (.tmp 41) 123 rfl 171 Tryz.underlying123 ZmX rfl (by omega) (by omega) _ (l.map ZJ) G rfl ao d.heap.size 1 (ZJ i) rfl ax rfl (ZcR i) (by rw[Xb];omega) ?_
 intro v' w7 G' X J ah
 obtain⟨A',c',e7,_⟩:=X.form'
 rw[Xd,Xb,List.length_singleton]at e7
 subst e7
 have N:=(J.block b (Jg ai) V).trans ai.out
 have c7:=Jc 0 N
 have f7:w7.frozen? ⟨b,0,none⟩=false:=Zk N
 have al:w.heap.size∉G:=by
  intro hm
  have:=ar.out w.heap.size (by rw[ae.out];simp[hm])
  omega
 have ap:=D N;have aw:=D X;have aq:=D J;have af:=D ah
 have am:=D ((S.upd m (by simp)).upd J al)
 clear N X J ah al
 go_wp2_with fail
 refine⟨fun W=>W.cell? ⟨b,0,none⟩=some (.slice A l.length c)∧Zb W w.heap.size 0 (ZJ i),fun W H=>H,⟨c7,am.out⟩,?_⟩
 repeat first|refine Jn ?_|refine Jf ?_|refine Ju ?_
 refine JL ?_
 go_wp2_with fail
 refine Jz ?_
 go_wp2_with fail
 go_ret
 obtain⟨g1,Z⟩:=ZbX (cs:=fun v=> #[v, .int .u64 ag]) (T:= 125) V ab (Ze (i:=0) ap _) ((Zd _ _ _ _).upd aw ((Zg.refl [b] w7).setCell (.inr (by simp)) _) (fun x hx hm=>by
   rw[Jm hm]at hx
   rcases af b hx with z|z
   ·exact V z
   ·have:=m.size;have:=Y.size;have:=ab.out;omega))
  ((((Y.trans m (by simp)).weaken (G:=b::G) (by simp)).trans aq (fun x hx=> .inr (by simp[hx]))).setCell (.inr (by simp)) _) (fun x hx=>by
   rcases af x hx with z|z
   ·exact .inl z
   ·right;have:=m.size;have:=Y.size;omega)
 refine⟨_,rfl,_,?_,by rw[ae.out];exact Z⟩
 have e9:(l++[i]).map ZJ=l.map ZJ++[ZJ i]:=by simp
 unfold YA
 rw[e9]
 exact g1
theorem Zfu:(Tryz.prog.info? 356).map (fun i=>(i.zero,i.size,i.bytes))=some (some (.agg #[.string ⟨#[]⟩, .int .i64 0]),2,24):=by kernel_rfl
theorem Zqv:Zu Tryz.prog 356 2=true:=by kernel_rfl
theorem ZnR:(Tryz.prog.info? 356).map (fun i=>(i.size,i.bytes))=some (2,24):=by kernel_rfl
theorem ZgC {α:Type} (enc:α→List Value) (p:α→Bool) (g:FuncId) (lb:Array Value) {l:List α}
  (h:Zj 356 2 v (l.map enc) w F) (eg:∀args w,(callFunc g args).run Tryz.prog w= .ok (.enter g args) w)
  (hp:∀(W:World) (x:α),x∈l→Zg [] w W→Calls Tryz.prog g (#[.agg (enc x).toArray]++lb) W fun e w'=>e= .returned (.bool (p x))∧Zg [] W w'):
  Calls Tryz.prog 293 #[v, .func (.func g) #[] lb] w fun e w'=>e= .returned (.int .i64 (YL p l))∧Zg [] w w':=by
 obtain⟨A,c,rfl,O,o⟩:=h.lies
 have G:=h.2.1
 have i:=h.le
 rw[Xb]at O i⊢
 have K:=D G;have N:=D hp;have M:=D o
 have P:l.length≤9223372036854775807:=by unfold maxLen at i;omega
 clear h G hp o i
 go_enter Tryz.func293,Tryz.ntmps293
 go_wp2
 go_loopw[5,8] (fun _ s8 wr=>∃kk:Nat,kk≤l.length∧s8= .int .i64 kk∧Hid (Zg [] w wr)∧Hid (∀(j:Nat) (x:α),j<kk→l[j]? =some x→p x=false)) (fun _ s8 _=>l.length-(intOf s8).toNat)
 case atStart=>exact⟨0,Xn _,rfl,D (Zg.refl [] w),D (fun j x C=>absurd C (Nat.not_lt_zero _))⟩
 case round=>
  obtain⟨kk,Q,rfl,d,m⟩:=hrel
  by_cases z:kk<l.length
  ·obtain⟨x,hx⟩:∃x,l[kk]? =some x:=⟨_,Xa z⟩
   have k:=Xc hx
   obtain⟨S,rfl,r⟩:=M.out kk (enc x) (by rw[Xe,hx];rfl)
   have J:=D (r.upd d (by simp))
   have I:=D (show(enc x).length=2 from K.out (enc x) (List.mem_map.2 ⟨x,k,rfl⟩))
   have H:=D (show Zu Tryz.prog 356 (enc x).length=true by rw[I.out];exact Zqv)
   have E:=D hx
   have L:=D (N.out wr x k d)
   obtain⟨b,a⟩:=Je (p x)
   clear hx r k;change Hid _ at a
   go_wp2_with(refine Js J H ?_)
   refine L.out.mono ?_
   rintro e R ⟨rfl,q⟩
   rw[←a.out]
   have s:=Jt d q
   clear q
   cases b with
   |true=>
    go_wp2
    go_ret
    refine⟨?_,s.out⟩
    rw[Zao z (by rw[E.out]) a.symm m.out];rfl
   |false=>
    go_wp2
    go_roundw
    case rel=>
     refine⟨kk+1,by omega,by go_num,s,D (fun j y C n=> ?_)⟩
     by_cases e:j=kk
     ·subst e;rw[E.out]at n;cases n;exact a.symm
     ·exact m j y (by omega) n
    case measure=>simp[intOf];omega
  ·obtain rfl:kk=l.length:=by omega
   go_wp2
   go_ret
   refine⟨?_,d.out⟩
   rw[YY m.out];rfl
theorem ZoX {g cap i j:Nat} (hj:j=i+1) {xs:List (List Value)} (h:Zj 356 2 (.slice (some ⟨g,0,none⟩) xs.length cap) xs w F) (h1:∀u∈xs.flatten,u.oneCell'=true) (hi:i<xs.length):
  Calls Tryz.prog 295 #[.slice (some ⟨g,0,none⟩) xs.length cap, .int .i64 i, .int .i64 j] w fun e w'=>e= .returned (.slice (some ⟨g,0,none⟩) (xs.length-1:Nat) cap)∧
   Zj 356 2 (.slice (some ⟨g,0,none⟩) (xs.length-1) cap) (xs.eraseIdx i) w' [g]∧Zg [g] w w':=by
 obtain⟨k,_,_,m,o,G,K,ht⟩:=h.block
 obtain⟨T,O,P,ad⟩:=Zcb ZnR
 have Q:=ZG h.2.1
 obtain⟨a,n⟩:=Je ((xs.drop j).flatten)
 have d:a.length=(xs.length-j)*2:=by rw[n,ZG (fun c o=>h.2.1 c (List.mem_of_mem_drop o)),List.length_drop]
 have H:∀t,t<cap*2→(w.drew.cell? ⟨g,t,none⟩).isSome=true∧w.drew.frozen? ⟨g,t,none⟩=false:=fun t h1=>by
  have x:t<k.size:=by omega
  refine⟨?_,Zk (w:=w) m⟩
  show(w.cell? _).isSome=true
  rw[Zc m (Array.getElem?_eq_getElem x)];rfl
 obtain⟨A,hA,M⟩:∃A:Addr,(if cap=j then(some (⟨g,0,none⟩:Addr))else some ⟨g,j*2,none⟩)=some A∧Hid (∀t u,a[t]? =some u→w.drew.cell? (A.add t)=some u):=by
  by_cases e:cap=j
  ·refine⟨⟨g,0,none⟩,by rw[if_pos e],D (fun t u b=> ?_)⟩
   have V:a.length=0:=by rw[d,show xs.length-j=0 by omega,Nat.zero_mul]
   rw[List.length_eq_zero_iff.1 V]at b;simp at b
  ·refine⟨⟨g,j*2,none⟩,by rw[if_neg e],D (fun t u b=> ?_)⟩
   rw[add_plain]
   refine Zc (w:=w) m ?_
   rw[n,←ZaH h.2.1,List.getElem?_drop,←ht,List.getElem?_take]at b
   split at b
   ·simpa using b
   ·cases b
 have s2:Hid (∀u∈a,u.oneCell'=true):=D (fun u b=>h1 u (by rw[n]at b;obtain⟨c,o,b⟩:=List.mem_flatten.1 b;exact List.mem_flatten.2 ⟨c,List.mem_of_mem_drop o,b⟩))
 have s1:Hid (a.length=(xs.length-j)*2):=D d
 have N:xs.length*2≤cap*2:=Nat.mul_le_mul_right _ o
 have s3:Hid (∀t,t<a.length→(w.drew.cell? ⟨g,0+i*2+t,none⟩).isSome=true∧w.drew.frozen? ⟨g,0+i*2+t,none⟩=false):=D (fun t r=>H _ (by rw[d]at r;omega))
 obtain⟨p,s⟩:=Je (w.drew.setCells g (0+i*2) a)
 obtain⟨l,q⟩:∃l:List Value,l=[.string ⟨#[]⟩, .int .i64 0]:=⟨_,rfl⟩
 have z:l.length=2:=by rw[q];rfl
 have y:p.heap[g]? =some (.cells (Yl k.toList (0+i*2) a).toArray 356 (0,0)):=by rw[s];exact Ys a (0+i*2) w.drew k m (by rw[d];omega)
 have J:(Yl k.toList (0+i*2) a).length=cap*2:=by rw[YW _ _ _ (by rw[d];simp;omega)];simpa using K
 have ab:∀C,(Builtin.clear_ #[200] C #[.slice (some ⟨g,(i+(xs.length-j))*2,none⟩) (xs.length-(i+(xs.length-j))) (cap-(i+(xs.length-j)))]).run Tryz.prog p= .ok (.tuple #[]) (p.setCells g ((i+(xs.length-j))*2) l):=fun C=>by
  have E:xs.length-(i+(xs.length-j))=1:=by omega
  rw[E]
  refine Yn p _ _ C _ l Tryz.underlying200 (fun w=> Tryz.zeroValue356 w) g _ 1 _ (by omega) (by rw[q];exact ZaQ) (by rw[q];simp[Value.oneCell']) (fun t r=> ?_) (fun t r=>Zk y)
  rw[z]at r
  have x:(i+(xs.length-j))*2+t<(Yl k.toList (0+i*2) a).length:=by rw[J];omega
  rw[Zc y (v:=(Yl k.toList (0+i*2) a)[(i+(xs.length-j))*2+t]) (by rw[Xh,Xa x])];rfl
 have L:Hid (p=w.drew.setCells g (0+i*2) a):=D s
 have I:=D (Zb9 h hi 1 l z rfl)
 rw[←hj,←n]at I
 have Z:i<j:=by omega
 have X:j≤xs.length:=by omega
 have W:¬i=j:=by omega
 have R:=D hj
 have Y:i≤cap:=by omega
 have aa:j≤cap:=by omega
 have ac:cap≤9223372036854775807:=by unfold maxLen at G;exact G
 clear hj s y J q z H m K ht Q d h h1 N G;change Hid _ at n
 go_enter Tryz.func295,Tryz.ntmps295
 go_wp2_with fail
 go_region_law (refine step_append_room rfl (.tmp 22) (.tmp 25) 200 rfl 356 T 2 Tryz.underlying200 O P g 0 i cap (by simp[Act.eval,Act.put]) A (xs.length-j) (cap-j) a (by simp[Act.eval,Act.put]) s1.out M.out s2.out (by omega) s3.out ?_;rw[←L.out])
 go_wp2
 go_ret
 have E:i+(xs.length-j)=xs.length-1:=by have:=R.out;omega
 have S:=I.out
 rw[L.out,Nat.zero_add,E]
 exact⟨rfl,S⟩
theorem ZkG {g cap i:Nat} {xs:List (List Value)} (h:Zj 356 2 (.slice (some ⟨g,0,none⟩) xs.length cap) xs w F) (h1:∀u∈xs.flatten,u.oneCell'=true) (hi:i<xs.length):
 Calls Tryz.prog 295 #[.slice (some ⟨g,0,none⟩) xs.length cap, .int .i64 i, .int .i64 ((i:Int)+1)] w fun e w'=>e= .returned (.slice (some ⟨g,0,none⟩) (xs.length-1:Nat) cap)∧
  Zj 356 2 (.slice (some ⟨g,0,none⟩) (xs.length-1) cap) (xs.eraseIdx i) w' [g]∧Zg [g] w w':=ZoX rfl h h1 hi
def ZN (h:Yu):List Value:=[.string ⟨h.key.toArray⟩, .int .i64 h.uses]
theorem ZaP (x:Yu):∀u∈ZN x,u.oneCell'=true:=by
 intro u a;simp only[ZN,List.mem_cons,List.not_mem_nil,or_false]at a;rcases a with rfl|rfl<;>rfl
def Yj (b:Nat) (l:List Yu):YG:=Y2 b (fun v=> #[v, .int .i64 32]) 202 356 2 (l.map ZN)
theorem ZA (b:Nat) (l:List Yu):(Yj b l).Local:=Zas _ _ _ _ _ _
theorem ZjT (x:Yu) (box:Nat) (key:Bs) (W:World) (hc:W.cell? ⟨box,0,none⟩=some (.string ⟨key.toArray⟩)):
  Calls Tryz.prog 325 #[.agg #[.string ⟨x.key.toArray⟩, .int .i64 x.uses], .pointer (some ⟨box,0,none⟩)] W fun e w'=>e= .returned (.bool (x.key==key))∧Zg [] W w':=by
 have a:=ZaI hc
 have b:box≠W.heap.size:=by omega
 go_enter Tryz.func325,Tryz.ntmps325
 go_wp2
 go_ret
 exact⟨rfl,(Zg.refl _ _).alloc _⟩
theorem Za1 (h:Yj b l w F) (key:Bs):
  Calls Tryz.prog 281 #[.pointer (some ⟨b,0,none⟩), .string ⟨key.toArray⟩] w fun e w'=>e= .returned (.int .i64 (YL (fun o=>o.key==key) l))∧Zg [] w w':=by
 obtain⟨v,G,rfl,C,j,c⟩:=h
 obtain⟨E,d⟩:=Je (w.alloc (.cells #[.string ⟨key.toArray⟩] 9))
 have a:=Ja d
 have g:=Jh d
 have n:=(a.block b (Jg j) (by simp)).trans j
 have y:=Zc (i:=0) n rfl
 simp only[List.getElem_toArray,Xv]at y
 have p:=(Zd _ _ _ _).upd c a (by simp)
 have k:=ZgC ZN (fun o=>o.key==key) 325 #[.pointer (some ⟨w.heap.size,0,none⟩)] p (enters_of Tryz.func325 (by kernel_rfl) rfl) (fun W x _ z=>ZjT x w.heap.size key W (by
  have:=(z.block w.heap.size (Jg g) (by simp)).trans g
  exact Zc (i:=0) this rfl))
 have q:=D k
 obtain⟨r,c⟩:=Je (YL (fun o=>o.key==key) l)
 rw[←c]at q⊢
 clear k g n p c j;change Hid _ at d a
 go_enter Tryz.func281,Tryz.ntmps281
 go_upto_region 1 with fail
 rw[←d.out]
 go_wp2_with fail
 refine q.out.mono ?_
 rintro e H ⟨rfl,m⟩
 have s:=Jt a m
 clear m
 go_wp2_with fail
 go_ret
 exact⟨rfl,s.out⟩
theorem Zip (x:Yu) (W:World):
  Calls Tryz.prog 294 #[.agg #[.string ⟨x.key.toArray⟩, .int .i64 x.uses]] W fun e w'=>e= .returned (.bool (x.uses==0))∧Zg [] W w':=by
 go_enter Tryz.func294,Tryz.ntmps294
 go_wp2
 go_ret
 exact⟨rfl,(Zg.refl _ _).alloc _⟩
theorem Zoo (h:Yj b l w F) (key:Bs):
  Calls Tryz.prog 230 #[.pointer (some ⟨b,0,none⟩), .string ⟨key.toArray⟩] w fun e w'=>e= .returned (.bool (ZaS l key).isSome)∧Zg [] w w':=by
 have a:=Za1 h key
 have c:decide (0≤YL (fun o:Yu=>o.key==key) l)=(ZaS l key).isSome:=by
  unfold YL ZaS;cases l.findIdx? (fun o=>o.key==key)<;>simp
 obtain⟨r,g⟩:=Je (YL (fun o:Yu=>o.key==key) l)
 rw[←g]at a c
 rw[←c]
 have j:=D a
 clear a h g c
 go_enter Tryz.func230,Tryz.ntmps230
 go_wp2_with fail
 refine j.out.mono ?_
 rintro e k ⟨rfl,d⟩
 have i:=D d
 clear d
 go_wp2_with fail
 go_ret
 exact⟨rfl,i.out⟩
theorem ZmU (h:Yj b l w F) (hl:l.length≤1000000) (hus:∀x∈l,0≤x.uses∧x.uses≤1000000) (key:Bs):
  Calls Tryz.prog 209 #[.pointer (some ⟨b,0,none⟩), .string ⟨key.toArray⟩] w (Ziv fun w'=>Yj b (Zdd l key) w' F∧Zg F w w'):=by
 have n:=Za1 h key
 have H:=D h
 cases hq:l.findIdx? (fun o:Yu=>o.key==key)with
 |none=>
  rw[Yo hq]at n
  have d:Zdd l key=l:=by unfold Zdd ZaS;rw[hq]
  rw[d]
  have y:=D n
  clear hq n d h hus
  go_enter Tryz.func209,Tryz.ntmps209
  go_wp2_with fail
  refine y.out.mono ?_
  rintro e m ⟨rfl,a⟩
  have k:=D a
  clear a
  go_wp2_with fail
  go_ret
  exact⟨_,rfl,(ZA _ _).upd H k (by simp),k.weaken (by simp)⟩
 |some i=>
  rw[Yw hq]at n
  have P:=Yv hq
  obtain⟨x,hx⟩:∃x,l[i]? =some x:=⟨_,Xa P⟩
  obtain⟨aa,ab⟩:=hus x (Xc hx)
  have y:=D n
  obtain⟨v,G,K,E,J,t⟩:=h
  obtain⟨g,s,rfl⟩:∃g s,v= .slice (some ⟨g,0,none⟩) l.length s:=by
   rcases t.form with⟨_,c,_⟩|⟨g,s,_,W,_⟩
   ·rw[List.map_eq_nil_iff]at c;subst c;simp at P
   ·exact⟨g,s,by rw[W,Xb]⟩
  have HX:=D hx
  have C:=D J;have L:=D t;have Q:=D K;have N:=D E
  have r:(l.map ZN)[i]? =some (ZN x):=by rw[Xe,hx];rfl
  by_cases c:x.uses=0
  ·have d:Zdd l key=l:=by unfold Zdd ZaS;rw[hq];dsimp only;rw[hx];dsimp only;rw[if_pos c]
   rw[d]
   have z0:(x.uses==0)=true:=by rw[c];rfl
   have z:=D r
   clear hq n d J t K E hus hx r c
   go_enter Tryz.func209,Tryz.ntmps209
   go_wp2_with fail
   refine y.out.mono ?_
   rintro e m ⟨rfl,a⟩
   have k:=D a
   have q:=(a.block b (Jg C) (by simp)).trans C.out
   have I:=Zc (i:=0) q rfl
   simp only[List.getElem_toArray,Xv]at I
   have p:=(Zd _ _ _ _).upd L a (by simp)
   have Z:m.cell? ⟨g,i*2+1,none⟩=some (.int .i64 x.uses):=p.liesAt z 1 _ rfl
   clear a q p
   go_wp2_with fail
   go_ret
   exact⟨_,rfl,(ZA _ _).upd H k (by simp),k.weaken (by simp)⟩
  ·have d:Zdd l key=l.set i ⟨x.key,x.uses-1⟩:=by unfold Zdd ZaS;rw[hq];dsimp only;rw[hx];dsimp only;rw[if_neg c]
   rw[d]
   have z0:(x.uses==0)=false:=beq_eq_false_iff_ne.2 c
   have z:=D r
   clear hq n d J t K E hus hx r c
   go_enter Tryz.func209,Tryz.ntmps209
   go_wp2_with fail
   refine y.out.mono ?_
   rintro e m ⟨rfl,a⟩
   have k:=D a
   have q:=(a.block b (Jg C) (by simp)).trans C.out
   have I:=Zc (i:=0) q rfl
   simp only[List.getElem_toArray,Xv]at I
   have p:=(Zd _ _ _ _).upd L a (by simp)
   have Z:m.cell? ⟨g,i*2+1,none⟩=some (.int .i64 x.uses):=p.liesAt z 1 _ rfl
   obtain⟨M,ac⟩:=Zc0 p z (j:=1) (by omega) (.int .i64 (x.uses-1))
   have R:l.length=(l.map ZN).length:=by rw[Xb]
   have Y:=D M;have T:=D q
   clear a q p M R
   go_wp2_with fail
   go_ret
   have O:G=[g]:=by obtain⟨_,_,X,_⟩:=L.block;exact X
   have V:b≠g:=fun e=>N.out (by rw[O,e];simp)
   have S:Zg F m (m.setCell ⟨g,i*2+1,none⟩ (.int .i64 (x.uses-1))):=(Zg.refl F m).setCell (.inr (by rw[Q.out,O];simp)) _
   refine⟨_,rfl,⟨_,G,Q.out,N.out,(Yc _ (fun e=>V e.symm)).trans T,?_⟩,(k.weaken (by simp)).trans S (fun x hx=> .inr hx)⟩
   rw[List.map_set]
   exact Y.out
end Go.Proofs.YtbgbeddbfaopgaaGreatDoor
