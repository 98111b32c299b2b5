import Derived.Test.YtlhapbopmplngaaGreatDoorS9
set_option linter.all false
set_option maxHeartbeats 16000000
set_option maxRecDepth 100000
set_option autoImplicit true
set_option relaxedAutoImplicit true
namespace Go.Proofs.YtlhapbopmplngaaGreatDoor
open Go.RowKit Go.Lk
def ZY (c:Zbx):List Value:=[.int .i64 c.num, .string ⟨c.key.toArray⟩, .int .u64 c.until_]
def ZaE (x:Zbx):∀u∈ZY x,u.oneCell'=true:=by
 intro u a;simp only[ZY,List.mem_cons,List.not_mem_nil,or_false]at a;rcases a with rfl|rfl|rfl<;>rfl
structure Zfx (p:Zam):Prop where
 tot:1≤p.total∧p.total≤32
 few:(p.busy.length:Int)+p.idle.length≤p.total
 hosts:p.hosts.length≤32
 uses:∀x∈p.hosts,0≤x.uses∧x.uses≤6
 last:0≤p.last
 keep:p.keep≤18446744073709551615
structure YH (w:World) (b:Nat) (p:Zam) (vb vi:Value) (hb:Nat) (Gb Gi Gh:List Nat):Prop where
 blk:w.heap[b]? =some (.cells #[vb,vi, .int .i64 p.total, .int .u64 p.keep, .pointer (some ⟨hb,0,none⟩), .int .i64 p.last] 175 (0,0))
 busy:Zk 239 3 vb (p.busy.map ZY) w Gb
 idle:Zk 239 3 vi (p.idle.map ZY) w Gi
 hosts:Ye hb p.hosts w Gh
 nb:b∉Gb
 ni:b∉Gi
 nh:b∉Gh
 bi:Z8 Gb Gi
 bh:Z8 Gb Gh
 ih:Z8 Gi Gh
 ok:Zfx p
def YH.upd {hb:Nat} {Gb Gi Gh G:List Nat} (h:YH w b p vb vi hb Gb Gi Gh) (hu:Zg G w w1) (hd:∀k∈b::(Gb++Gi++Gh),k∉G:=by simp):YH w1 b p vb vi hb Gb Gi Gh:=
 ⟨(Kv hu h.blk (hd b (by simp))),(Zc _ _ _ _).upd h.busy hu (fun k hk=>hd k (by simp[hk])),(Zc _ _ _ _).upd h.idle hu (fun k hk=>hd k (by simp[hk])),
  (Zx _ _).upd h.hosts hu (fun k hk=>hd k (by simp[hk])),h.nb,h.ni,h.nh,h.bi,h.bh,h.ih,h.ok⟩
def YH.lt {hb:Nat} {Gb Gi Gh:List Nat} (h:YH w b p vb vi hb Gb Gi Gh):∀k∈b::(Gb++Gi++Gh),k<w.heap.size:=fun k hk=>by
 rcases List.mem_cons.1 hk with rfl|hk
 ·exact(Jg h.blk)
 ·rcases List.mem_append.1 hk with hk|hk
  ·rcases List.mem_append.1 hk with hk|hk
   ·exact(Zc _ _ _ _).lt h.busy k hk
   ·exact(Zc _ _ _ _).lt h.idle k hk
  ·exact(Zx _ _).lt h.hosts k hk
def YO (b:Nat) (p:Zam):YD:=fun w F=>∃(vb vi:Value) (hb:Nat) (Gb Gi Gh:List Nat),F=b::(Gb++Gi++Gh)∧YH w b p vb vi hb Gb Gi Gh
def ZU (b:Nat) (p:Zam):(YO b p).Local where
 lt:=by rintro w F ⟨vb,vi,hb,Gb,Gi,Gh,rfl,h⟩;exact h.lt
 upd:=by rintro w w1 F G ⟨vb,vi,hb,Gb,Gi,Gh,rfl,h⟩ hu hF;exact⟨vb,vi,hb,Gb,Gi,Gh,rfl,h.upd hu hF⟩
def Zm0 (x:Zbx) (box:Nat) (num:Int) (W:World) (hc:W.cell? ⟨box,0,none⟩=some (.int .i64 num)):
  Calls Tryz.prog 278 #[.agg #[.int .i64 x.num, .string ⟨x.key.toArray⟩, .int .u64 x.until_], .pointer (some ⟨box,0,none⟩)] W fun e w'=>e= .returned (.bool (x.num==num))∧Zg [] W w':=by
 have a:=Zay hc
 have b:box≠W.heap.size:=by omega
 go_in
 go_wp2
 go_ret
 exact⟨rfl,(Zg.refl _ _).alloc _⟩
def Zkq (x:Zbx) (box:Nat) (now:Nat) (W:World) (hc:W.cell? ⟨box,0,none⟩=some (.int .u64 now)):
  Calls Tryz.prog 138 #[.agg #[.int .i64 x.num, .string ⟨x.key.toArray⟩, .int .u64 x.until_], .pointer (some ⟨box,0,none⟩)] W fun e w'=>e= .returned (.bool (decide (x.until_≤now)))∧Zg [] W w':=by
 have a:=Zay hc
 have b:box≠W.heap.size:=by omega
 go_in
 go_wp2
 go_ret
 exact⟨rfl,(Zg.refl _ _).alloc _⟩
def ZpD {l:List Zbx} (h:Zk 239 3 v (l.map ZY) w G) (num:Int):
  Calls Tryz.prog 204 #[v, .int .i64 num] w fun e w'=>e= .returned (.int .i64 (Y5 (fun c=>c.num==num) l))∧Zg [] w w':=by
 obtain⟨s,m,a,d⟩:=Kc w (.cells #[.int .i64 num] 3)
 have j:=(Zc _ _ _ _).upd h a
 have b:=ZoX ZY (fun c=>c.num==num) 278 #[.pointer (some ⟨w.heap.size,0,none⟩)] j (enters_of Tryz.func278 (by kernel_rfl) rfl) (fun W x _ p=>Zm0 x w.heap.size num W (by
  have:=Kv p d
  exact Zf (i:=0) this rfl))
 have n:=D b
 obtain⟨r,k⟩:=Je (Y5 (fun c:Zbx=>c.num==num) l)
 rw[←k]at n⊢
 clear b d j k h;change Hid _ at m a
 go_in
 go_upto_region 1 with fail
 rw[←m.out]
 go_wp2_with fail
 refine n.out.mono ?_
 rintro e q ⟨rfl,g⟩
 have o:=Jt a g
 clear g
 go_wp2_with fail
 go_ret
 exact⟨rfl,o.out⟩
def ZpH (h:YO b p w F):
  Calls Tryz.prog 38 #[.pointer (some ⟨b,0,none⟩)] w fun e w'=>e= .returned (.int .i64 p.busy.length)∧w'=w:=by
 obtain⟨g,m,k,n,j,l,rfl,h⟩:=h
 obtain⟨A,c,rfl,_⟩:=h.busy.form'
 have a:=h.blk
 rw[Xb]at a
 have d:=Zf (i:=0) a rfl
 simp only[List.getElem_toArray,Xv]at d
 clear h a
 go_in
 go_wp2
 go_ret
 exact⟨rfl,rfl⟩
def ZmJ (l:List Zbx) (key:Bs) {k:Nat} (h:l[k]? =some x):((l.take (k+1)).filter fun c=>c.key==key).length=((l.take k).filter fun c=>c.key==key).length+if x.key==key then 1 else 0:=by
 rw[ZZ h,List.filter_append];simp only[Xd];congr 1
 cases hp:x.key==key<;>simp[hp]
def Zpq (h:YO b p w F) (key:Bs):
  Calls Tryz.prog 141 #[.pointer (some ⟨b,0,none⟩), .string ⟨key.toArray⟩] w fun e w'=>e= .returned (.int .i64 (ZnT p key))∧Zg [] w w':=by
 obtain⟨T,W,hb,Z,Y,V,rfl,h⟩:=h
 obtain⟨A,c,rfl,L,s⟩:=h.busy.lies
 have k:=h.blk
 rw[Xb]at k L
 have N:=Zf (i:=0) k rfl
 simp only[List.getElem_toArray,Xv]at N
 have O:p.busy.length≤32:=by have:=h.ok.few;have:=h.ok.tot;omega
 have K:=D s
 obtain⟨l,o⟩:=Je p.busy
 rw[←o]at K O N L
 have P:=D (show ZnT p key=(l.filter fun c=>c.key==key).length by rw[o];rfl)
 have g:=D (show Zu Tryz.prog 239 3=true by kernel_rfl)
 clear s h k o
 go_in
 go_wp2
 go_loopw[5,15] (fun s5 s15 wr=>∃kk m:Nat,kk≤l.length∧m≤kk∧s15= .int .i64 kk∧s5= .int .i64 m∧Hid (m=((l.take kk).filter fun c=>c.key==key).length)∧Hid (Zg [] w wr)) (fun _ s15 _=>l.length-(intOf s15).toNat)
 case atStart=>exact⟨0,0,Xn _,Xn _,rfl,rfl,D (by simp),D (Zg.refl [] w)⟩
 case round=>
  obtain⟨kk,m,S,hm,rfl,rfl,j,r⟩:=hrel
  by_cases Q:kk<l.length
  ·obtain⟨x,hx⟩:∃x,l[kk]? =some x:=⟨_,Xa Q⟩
   obtain⟨X,rfl,C⟩:=K.out kk (ZY x) (by rw[Xe,hx];rfl)
   have y:=D (C.upd r)
   have M:=D (show(ZY x).toArray.all (·.oneCell')=true by rw[Xl,Xk];exact ZaE x)
   have n:=D (Za (w:=wr) (.cells #[.int .i64 0, .string ⟨#[]⟩, .int .u64 0] 239 (0,0)))
   obtain⟨W1,a⟩:=Je ((wr.alloc (.cells #[.int .i64 0, .string ⟨#[]⟩, .int .u64 0] 239 (0,0))).setRow wr.heap.size (ZY x).toArray)
   have H:=Kk a n
   have I:=Kh a
   have R:=Jc 1 H
   have E:=Jt r I
   have G:=D (ZmJ l key hx)
   obtain⟨q,d⟩:=Je ((x.key==key))
   have J:=D d
   clear hx C H I;change Hid _ at a
   cases q with
   |true=>
    have z:(x.key==key)=true:=d.symm
    clear d
    go_wp2_with(first|refine Js y g ?_|(refine Jo (ZY x).toArray n g M ?_;rw[←a.out]))
    go_roundw
    case rel=>exact⟨kk+1,m+1,by omega,by omega,by go_num,by go_num,D (by rw[G.out,←J.out,←j.out];rfl),E⟩
    case measure=>simp[intOf];omega
   |false=>
    have z:(x.key==key)=false:=d.symm
    clear d
    go_wp2_with(first|refine Js y g ?_|(refine Jo (ZY x).toArray n g M ?_;rw[←a.out]))
    go_roundw
    case rel=>exact⟨kk+1,m,by omega,by omega,by go_num,rfl,D (by rw[G.out,←J.out,←j.out];rfl),E⟩
    case measure=>simp[intOf];omega
  ·obtain rfl:kk=l.length:=by omega
   rw[Xm]at j
   go_wp2
   go_ret
   exact⟨by rw[P.out,←j.out];rfl,r.out⟩
def ZlR (h:YO b p w F) (key:Bs):
  Calls Tryz.prog 74 #[.pointer (some ⟨b,0,none⟩), .string ⟨key.toArray⟩] w fun e w'=>e= .returned (.bool (Zf1 p key))∧Zg [] w w':=by
 have q:=D (fun(W:World) (d:Zg [] w W)=>Zpq ((ZU _ _).upd h d) key)
 obtain⟨x,I,H,E,y,C,rfl,h⟩:=h
 obtain⟨A,c,rfl,_⟩:=h.busy.form'
 have g:=h.blk
 rw[Xb]at g
 have k:=Zf (i:=0) g rfl
 have m:=Zf (i:=2) g rfl
 simp only[List.getElem_toArray,Xv,List.getElem_cons_succ]at k m
 obtain⟨u,d⟩:=Je (ZnT p key)
 obtain⟨r,l⟩:=Je (Zf1 p key)
 have s:=D (show r=(decide ((p.busy.length:Int)<p.total)&&decide ((u:Int)<6))by rw[l,d];unfold Zf1;congr 1;rw[decide_eq_decide];omega)
 rw[←l]
 rw[←d]at q
 clear h g d l
 by_cases j:(p.busy.length:Int)<p.total
 ·have a:=s.out
  rw[decide_eq_true j,Bool.true_and]at a
  have n:=D a
  clear a
  go_in
  go_wp2_with fail
  refine Jr [0,4,8,12,16,20,24,28,32,36,40,44,48,52,56,60,64,70,72,76,80] (fun W=>W.cell? ⟨b,0,none⟩=some (.slice A p.busy.length c)∧W.cell? ⟨b,2,none⟩=some (.int .i64 p.total)) ⟨k,m⟩ ?_
  repeat first|refine Jn ?_|refine Jf ?_|refine Ju ?_
  refine JL ?_
  simp only[Xu]
  go_wp2_with fail
  refine(q.out _ ((Zg.refl [] w).drewN 1)).mono ?_
  rintro e G ⟨rfl,o⟩
  have t:=D (((Zg.refl [] w).drewN 1).trans o);clear o
  go_wp2_with fail
  refine⟨fun _=>True,trivial,?_⟩
  repeat first|refine Jn ?_|refine Jf ?_|refine Ju ?_
  refine ZK ?_
  go_wp2_with fail
  go_ret
  exact⟨by rw[n.out];rfl,t.out⟩
 ·have a:=s.out
  rw[decide_eq_false j,Bool.false_and]at a
  have n:=D a
  have z:decide ((p.busy.length:Int)<p.total)=false:=decide_eq_false j
  clear a
  go_in
  go_wp2_with fail
  refine Jr [0,4,8,12,16,20,24,28,32,36,40,44,48,52,56,60,64,68,72,76,80] (fun W=>W.cell? ⟨b,0,none⟩=some (.slice A p.busy.length c)∧W.cell? ⟨b,2,none⟩=some (.int .i64 p.total)) ⟨k,m⟩ ?_
  repeat first|refine Jn ?_|refine Jf ?_|refine Ju ?_
  refine ZK ?_
  go_wp2_with fail
  go_ret
  exact⟨by rw[n.out];rfl,(Zg.refl [] w).drewN 1⟩
end Go.Proofs.YtlhapbopmplngaaGreatDoor
