import Derived.Test.YtlhapbopmplngaaGreatDoorS17
set_option linter.all false
set_option maxHeartbeats 16000000
set_option maxRecDepth 100000
set_option autoImplicit true
set_option relaxedAutoImplicit true
namespace Go.Proofs.YtlhapbopmplngaaGreatDoor
open Go.RowKit Go.Lk
def ZjZ {b g cap:Nat} {most last:Int} {arr:List Zv} (h:Zbl b g cap most last arr w) (hl:arr.length≤1000000) (hh:Zdl arr) (i:Nat) (hx:arr[i]? =some x):
  Calls Tryz.prog 136 #[.pointer (some ⟨b,0,none⟩), .int .i64 i] w fun e w'=>e= .returned (.agg (Yx x).toArray)∧∃arr',(x::arr').Perm arr∧Zdl arr'∧Zbl b g cap most last arr' w'∧Zg [b,g] w w':=by
 have aK:arr.length≤cap:=by obtain⟨_,_,_,_,hc,_⟩:=h.row.block;rw[Xb]at hc;exact hc
 have aL:g<w.heap.size:=(Zc _ _ _ _).lt h.row g (by simp)
 have aO:b<w.heap.size:=(Jg h.blk)
 have hi:i<arr.length:=(Jk hx)
 obtain⟨n,hn⟩:∃n,arr.length=n+1:=⟨arr.length-1,by omega⟩
 obtain⟨z,d⟩:∃z,arr[n]? =some z:=⟨_,Xa (by omega)⟩
 have aM:(arr.length:Int)-1=(n:Int):=by omega
 have aP:n<arr.length:=by omega
 have aN:i≤n:=by omega
 have aG:n≤cap:=by omega
 obtain⟨K,y⟩:=Je ((w.alloc (.cells #[.int .u64 0, .int .i64 0, .int .i64 0] 235)).alloc (.cells #[.int .u64 0, .int .i64 0, .int .i64 0] 235))
 have Z:Zg [] w K:=by rw[y];exact((Zg.refl [] w).alloc _).alloc _
 have al:K.heap[w.heap.size]? =some (.cells #[.int .u64 0, .int .i64 0, .int .i64 0] 235 (0,0)):=by rw[y,Zz _ (by simp)];exact Za _
 have L:K.heap[w.heap.size+1]? =some (.cells #[.int .u64 0, .int .i64 0, .int .i64 0] 235 (0,0)):=by
  rw[y];have:=Za (w:=w.alloc (.cells #[.int .u64 0, .int .i64 0, .int .i64 0] 235)) (.cells #[.int .u64 0, .int .i64 0, .int .i64 0] 235);simpa using this
 obtain⟨j,O⟩:=Je (K.setRow (w.heap.size+1) (Yx x).toArray)
 have S:Zg [w.heap.size+1] K j:=by rw[O];exact(Zg.refl _ _).setRow (.inr (by simp)) _
 have an:=D (show j.heap[w.heap.size]? =some (.cells #[.int .u64 0, .int .i64 0, .int .i64 0] 235 (0,0))from(Kv S al))
 have ai:=D (show j.heap[w.heap.size+1]? =some (.cells (Yx x).toArray 235 (0,0))by rw[O];exact setRow_heap _ _ _ _ _ _ L)
 have p:=D (((h.upd Z (by simp)).upd S (by simp;omega) (by simp;omega)))
 have av:=D (show Zg [b,g] w j from(Z.weaken (by simp)).trans S (fun k a=> .inl (by simp at a;omega)))
 have HX:=D hx;have HZ:=D d;have HH:=D hh
 have az:=D (show Zb (w.alloc (.cells #[.int .u64 0, .int .i64 0, .int .i64 0] 235)) g (i*3) (Yx x)from(h.at hx).upd ((Zg.refl [] w).alloc _))
 have c:=D (show Zu Tryz.prog 235 3=true from ZfZ)
 have aa:=D (show(Yx x).toArray.all (·.oneCell')=true by rw[Xl,Xk];exact ZbL x)
 have R:=D (show w.heap.size≠g by omega);have af:=D (show w.heap.size+1≠g by omega)
 have Q:=D (show w.heap.size≠b by omega);have ae:=D (show w.heap.size+1≠b by omega)
 have c0:=Jc 0 h.blk
 have T:=D hn
 clear h hx d hh S Z al hn;change Hid _ at y O L
 go_in
 go_upto_region 2 with(first|refine Js az c ?_|(refine Jo (Yx x).toArray (by first|exact L|(rw[←y.out];exact L)) c aa ?_;first|rw[←y.out,←O.out]|skip))
 have ay:=Jc 0 p.blk
 have aH:=D hi
 clear c0
 go_upto_region 3 with fail
 refine Jr [0,4,8,12,16,20,24,28,32,36,40,44,48,54] (fun W=>W.cell? ⟨b,0,none⟩=some (.slice (some ⟨g,0,none⟩) arr.length cap)∧Zb W g (n*3) (Yx z)) ⟨ay,p.at HZ.out⟩ ?_
 repeat first|refine Jn ?_|refine Jf ?_|refine Ju ?_
 refine JO (cs:=[.int .u64 (z.due:Int), .int .i64 z.id, .int .i64 z.tag]) c.out (fun W hW=>hW.2) ?_
 repeat first|refine Jn ?_|refine Jf ?_|refine Ju ?_
 refine JL ?_
 simp only[Xu]
 refine Zah _ rfl 235 (.tmp 32) (.tmp 31) rfl (Yx z) ((Zc _ _ _ _).upd p.row ((Zg.refl [] j).drewN 1)) (by rw[Xb];exact aH.out) rfl rfl rfl c (ZbL _) ?_
 intro w2 au aw
 have V:Zg [g] j w2:=((Zg.refl [g] j).drewN 1).trans aw (fun k a=> .inr a)
 have M:=(Kv V p.blk (by simpa using p.ne))
 have aD:=Jc 0 M
 have aA:=Kf 0 M
 have aB:=D au;have aI:=D M
 clear au aw M ay;change Hid _ at V
 go_wp2_with fail
 refine Jz ?_
 obtain⟨J,P⟩:=Je (w2.setCell ⟨b,0,none⟩ (.slice (some ⟨g,0,none⟩) n cap))
 obtain⟨s,r⟩:=Je ((arr.set i z).take n)
 have q:s.length=n:=by rw[r,List.length_take,List.length_set,T.out];omega
 have X:=Kd P
 have aq:=D (show Zbl b g cap most last s J from⟨by rw[P,Zd aI,q];rfl,by
  have hr:=Zgp (i:=n) (W2:=w2) aB (by rw[List.length_set,Xb];omega) [] (by simp;exact Nat.mul_le_mul_right 3 aG) rfl
  rw[q,r,List.map_take,List.map_set]
  exact(Zc _ _ _ _).upd hr X (fun k a=>by simp at a⊢;have:=p.ne;omega),p.ne⟩)
 have ag:=D (show Zg [b,g] j J from(V.weaken (fun k a=> .inr (by simp at a;simp[a]))).trans X (fun k a=> .inr (by simp at a;simp[a])))
 clear X;change Hid _ at P r q
 go_upto_region 5 with fail
 rw[←P.out]
 clear aD aA
 by_cases ad:i<n
 ·have ao:DnT s i i:=by rw[r.out];exact ZrW HH T ad HZ.out
  have I:=ZmC aq (by rw[q.out];omega) i (by rw[q.out];exact ad) ao
  have HQ:=D I
  have HI:=D ad
  clear ao I
  go_wp2_with fail
  refine HQ.out.mono ?_
  rintro e4 w4 ⟨v4,rfl,aJ,N,ax,ak,ap⟩
  have I:=ZkW ak (by rw[N.length_eq,q.out];omega) i (by rw[N.length_eq,q.out];exact HI) ax
  have aC:=D I;have aE:=D N;have aF:=D ap
  clear I N ax ak ap
  go_wp2_with fail
  refine aC.out.mono ?_
  rintro e5 w5 ⟨v5,rfl,ah,aj,E,am,ar⟩
  have C:(x::ah).Perm arr:=(List.Perm.cons x (aj.trans aE)).trans (by rw[r.out];exact ZpR T HI HX HZ)
  have l:=D (ag.trans (aF.trans ar (fun k a=> .inr a)) (fun k a=> .inr (by simp at a;simp[a])))
  have HP:=D C;have ac:=D E;have Y:=D am
  clear C aj E am ar
  have F:=(Kv l an (by simp;exact⟨Q,R.out⟩))
  have G:=(Kv l ai (by simp;exact⟨ae,af.out⟩))
  have H:=D F;have ab:=D (show Zb w5 (w.heap.size+1) 0 (Yx x)from Zb.of_block G)
  clear F G
  go_wp2_with(first|refine Jl ab c ?_|refine Jo (Yx x).toArray H c aa ?_)
  (try simp only[Exit.inBlock,Exit.then])
  refine bodyPost_ret (v:= .agg (Yx x).toArray) (Zw _ (x:=4) (t:= 235) (b:=w.heap.size) (o:=0) rfl rfl c (Zb.of_block (setRow_heap _ _ _ _ _ _ H))) rfl ?_
  have d:Zg [w.heap.size] w5 (w5.setRow w.heap.size (Yx x).toArray):=(Zg.refl _ _).setRow (.inr (by simp)) _
  exact⟨rfl,ah,HP.out,ac.out,Y.upd d (by simp;exact Ne.symm Q) (by simp;exact Ne.symm R),(av.trans l (fun k a=> .inr a)).trans d (fun k a=> .inl (by simp at a;omega))⟩
 ·obtain rfl:i=n:=by omega
  have C:(x::s).Perm arr:=by
   rw[r.out]
   have e:(arr.set i z).take i=arr.take i:=by
    refine List.ext_getElem? (fun m=> ?_)
    rw[List.getElem?_take,List.getElem?_take]
    split
    ·rw[List.getElem?_set,if_neg (by omega)]
    ·rfl
   rw[e]
   exact ZqS T HX.out
  have E:Zdl s:=by
   rw[r.out]
   have e:(arr.set i z).take i=arr.take i:=by
    refine List.ext_getElem? (fun m=> ?_)
    rw[List.getElem?_take,List.getElem?_take]
    split
    ·rw[List.getElem?_set,if_neg (by omega)]
    ·rfl
   rw[e]
   exact Zpe HH _
  have HP:=D C;have ac:=D E;have Y:=aq;have l:=ag
  clear C E
  have F:=(Kv l an (by simp;exact⟨Q,R.out⟩))
  have G:=(Kv l ai (by simp;exact⟨ae,af.out⟩))
  have H:=D F;have ab:=D (show Zb J (w.heap.size+1) 0 (Yx x)from Zb.of_block G)
  clear F G
  go_wp2_with(first|refine Jl ab c ?_|refine Jo (Yx x).toArray H c aa ?_)
  (try simp only[Exit.inBlock,Exit.then])
  refine bodyPost_ret (v:= .agg (Yx x).toArray) (Zw _ (x:=4) (t:= 235) (b:=w.heap.size) (o:=0) rfl rfl c (Zb.of_block (setRow_heap _ _ _ _ _ _ H))) rfl ?_
  have d:Zg [w.heap.size] J (J.setRow w.heap.size (Yx x).toArray):=(Zg.refl _ _).setRow (.inr (by simp)) _
  exact⟨rfl,s,HP.out,ac.out,Y.upd d (by simp;exact Ne.symm Q) (by simp;exact Ne.symm R),(av.trans l (fun k a=> .inr a)).trans d (fun k a=> .inl (by simp at a;omega))⟩
def Yr (b:Nat) (most last:Int) (l:List Zv):YD:=fun w F=>∃arr,Zcu arr l last∧Y2 b (fun v=> #[v, .int .i64 most, .int .i64 last]) 190 235 3 (arr.map Yx) w F
def Z5 (b:Nat) (most last:Int) (l:List Zv):(Yr b most last l).Local:=
 ⟨fun h k hk=>by obtain⟨arr,_,h⟩:=h;exact(Zaf _ _ _ _ _ _).lt h k hk,
  fun h h1 h2=>by obtain⟨arr,ha,h⟩:=h;exact⟨arr,ha,(Zaf _ _ _ _ _ _).2 h h1 h2⟩⟩
def Zbl.wheel {b g cap:Nat} {most last:Int} {arr l:List Zv} (h:Zbl b g cap most last arr w) (ha:Zcu arr l last):Yr b most last l w [b,g]:=
 ⟨arr,ha,_,[g],rfl,by simpa using h.ne,h.blk,h.row⟩
def Zmc {l:List Zv} {id:Int} (h:∀x∈l,x.id≠id):(l.filter fun x=>x.id !=id)=l:=by
 rw[List.filter_eq_self]
 intro x hx;simpa using h x hx
def Zkw {most last:Int} (h:Yr b most last l w F) (hl:l.length≤1000000) (id:Int):
  Calls Tryz.prog 129 #[.pointer (some ⟨b,0,none⟩), .int .i64 id] w (Zfr fun w'=>Yr b most last (l.filter fun x=>x.id !=id) w' F∧Zg F w w'):=by
 have H:=D h
 obtain⟨arr,I,v,G,rfl,P,q,n⟩:=h
 have ac:arr.length≤1000000:=by have:=I.length;omega
 obtain⟨A,c,rfl,hc,L⟩:=n.lies
 rw[Xb]at q hc n
 have c0:=Jc 0 q
 have HB:=D q;have HL:=D L;have T:=D n;have ad:=D P;have J:=D I
 have m:=D (show Zu Tryz.prog 235 3=true from ZfZ)
 have ai:=D ((Z5 _ _ _ _).lt H)
 clear q n L P I
 go_in
 go_wp2
 go_loopw[14] (fun s14 wr=>∃kk:Nat,kk≤arr.length∧s14= .int .i64 kk∧Hid (∀(j:Nat) (x:Zv),j<kk→arr[j]? =some x→x.id≠id)∧Hid (Zg [] w wr)) (fun s14 _=>arr.length-(intOf s14).toNat)
 case atStart=>exact⟨0,Xn _,rfl,D (fun j x i=>absurd i (Nat.not_lt_zero _)),D (Zg.refl [] w)⟩
 case round=>
  obtain⟨kk,aj,rfl,S,g⟩:=hrel
  clear c0
  have z:=Kv g HB
  by_cases af:kk<arr.length
  ·obtain⟨x,hx⟩:∃x,arr[kk]? =some x:=⟨_,Xa af⟩
   obtain⟨p,rfl,O⟩:=HL.out kk (Yx x) (by rw[Xe,hx];rfl)
   have R:=D (O.upd g)
   have Q:=D (show(Yx x).toArray.all (·.oneCell')=true by rw[Xl,Xk];exact ZbL x)
   have r:=D (Za (w:=wr) (.cells #[.int .u64 0, .int .i64 0, .int .i64 0] 235 (0,0)))
   obtain⟨W1,d⟩:=Je ((wr.alloc (.cells #[.int .u64 0, .int .i64 0, .int .i64 0] 235 (0,0))).setRow wr.heap.size (Yx x).toArray)
   have N:=Kk d r
   have C:=Kh d
   have k1:=Jc 1 N
   have s:=Jt g C
   have HX:=D hx
   have o:G=[p]:=by obtain⟨_,_,h2,_⟩:=T.block;exact h2
   have Y:=D o
   have M:b≠p:=fun e=>ad.out (by rw[o,e];simp)
   have HT:=D (show Zbl b p c most last arr W1 from⟨(Kv C z),by rw[←o];exact(Zc _ _ _ _).upd T s,M⟩)
   clear hx O N C z o M;change Hid _ at d
   by_cases a:x.id=id
   ·have ae:(x.id==id)=true:=by simpa using a
    have K:=D a
    have V:=ZjZ HT ac J.heap kk HX.out
    have HQ:=D V
    clear V a
    go_wp2_with(first|refine Js R m ?_|(refine Jo (Yx x).toArray r m Q ?_;rw[←d.out]))
    refine HQ.out.mono ?_
    rintro e2 w2 ⟨rfl,ah,X,W,ht,Z⟩
    have aa:=D (show Yr b most last (l.filter fun x=>x.id !=id) w2 [b,p]by rw[←K.out];exact ht.wheel (J.cut X W))
    have ag:=D Z
    clear X W ht Z
    go_wp2_with fail
    go_ret
    exact⟨_,rfl,by rw[Y.out];exact aa,by rw[Y.out];exact(s.weaken (by simp)).trans ag (fun k hk=> .inr hk)⟩
   ·have ae:(x.id==id)=false:=by simpa using a
    have K:=D a
    clear a
    go_wp2_with(first|refine Js R m ?_|(refine Jo (Yx x).toArray r m Q ?_;rw[←d.out]))
    go_roundw
    case rel=>
     refine⟨kk+1,by omega,by go_num,D (fun j y i E=> ?_),s⟩
     by_cases e:j=kk
     ·subst e;rw[HX.out]at E;cases E;exact K.out
     ·exact S j y (by omega) E
    case measure=>simp[intOf];omega
  ·obtain rfl:kk=arr.length:=by omega
   clear z
   go_wp2
   go_ret
   refine⟨_,rfl,?_,g.weaken (by simp)⟩
   rw[Zmc (fun x hx=>by
    obtain⟨j,i,e⟩:=List.getElem_of_mem (J.perm.mem_iff.2 hx)
    exact S j x i (by rw[Xa i,e]))]
   exact(Z5 _ _ _ _).upd H g
def dueT (l:List Zv) (now:Nat):Option Zv:=match Zbr l with
 |none=>none
 |some t=>if now<t.due then none else some t
def Zh8 {most last:Int} (h:Yr b most last l w F) (hl:l.length≤1000000) (now:Nat) (hd:dueT l now=none):
  Calls Tryz.prog 70 #[.pointer (some ⟨b,0,none⟩), .int .u64 now] w fun e w'=>e= .returned (.tuple #[.int .i64 0, .int .i64 0, .bool false])∧Zg [] w w':=by
 obtain⟨a,d,v,G,rfl,m,i,g⟩:=h
 have s:a.length≤1000000:=by have:=d.length;omega
 obtain⟨A,c,rfl,o,j⟩:=g.lies
 rw[Xb]at i o g
 unfold dueT at hd
 rw[d.first]at hd
 have y:=Jc 0 i
 cases hq:a[0]? with
 |none=>
  have p:((a.length:Int)==0)=true:=by have:=List.getElem?_eq_none_iff.1 hq;rw[beq_iff_eq];omega
  clear i g m d j hq hd
  go_in
  go_wp2_with fail
  go_ret3
  exact⟨rfl,Zg.refl _ _⟩
 |some t=>
  have r:0<a.length:=(Jk hq)
  have p:((a.length:Int)==0)=false:=by rw[beq_eq_false_iff_ne];omega
  rw[hq]at hd
  have q:now<t.due:=by
   by_cases e:now<t.due
   ·exact e
   ·dsimp only at hd;rw[if_neg e]at hd;cases hd
  obtain⟨n,rfl,k⟩:=j 0 (Yx t) (by rw[Xe,hq];rfl)
  have x:w.cell? ⟨n,0,none⟩=some (.int .u64 t.due):=k 0 _ rfl
  clear i g m d j hq hd k
  go_in
  go_wp2_with fail
  go_ret3
  exact⟨rfl,Zg.refl _ _⟩
def Zij {most last:Int} (h:Yr b most last l w F) (hl:l.length≤1000000) (now:Nat) (hd:dueT l now=some t):
  Calls Tryz.prog 70 #[.pointer (some ⟨b,0,none⟩), .int .u64 now] w fun e w'=>e= .returned (.tuple #[.int .i64 t.id, .int .i64 t.tag, .bool true])∧Yr b most last (l.filter fun x=>x.id !=t.id) w' F∧Zg F w w':=by
 obtain⟨d,j,v,G,rfl,C,n,g⟩:=h
 have K:d.length≤1000000:=by have:=j.length;omega
 obtain⟨A,c,rfl,P,r⟩:=g.lies
 rw[Xb]at n P g
 unfold dueT at hd
 rw[j.first]at hd
 have c0:=Jc 0 n
 have a:d[0]? =some t∧¬now<t.due:=by
  cases a:d[0]? with
  |none=>rw[a]at hd;cases hd
  |some x=>
   rw[a]at hd
   dsimp only at hd
   split at hd
   ·cases hd
   ·cases hd;exact⟨rfl,by assumption⟩
 obtain⟨a,X⟩:=a
 have Y:0<d.length:=(Jk a)
 have hz:((d.length:Int)==0)=false:=by rw[beq_eq_false_iff_ne];omega
 obtain⟨m,rfl,z⟩:=r 0 (Yx t) (by rw[Xe,a];rfl)
 have k0:w.cell? ⟨m,0,none⟩=some (.int .u64 t.due):=z 0 _ rfl
 have O:G=[m]:=by obtain⟨_,_,Q,_⟩:=g.block;exact Q
 subst O
 have R:Hid (Zbl b m c most last d w):=D ⟨n,g,by simpa using C⟩
 have o:=ZjZ R K j.heap 0 a
 rw[show((0:Nat):Int)=0 from rfl]at o
 have S:=D o;have T:=D j
 have L:=D (show Zu Tryz.prog 235 3=true from ZfZ)
 have M:=D (show(Yx t).toArray.all (·.oneCell')=true by rw[Xl,Xk];exact ZbL t)
 clear n g C j r a hd z o
 go_in
 go_wp2_with fail
 refine S.out.mono ?_
 rintro e2 i ⟨rfl,W,H,E,ht,I⟩
 have J:=D (show Yr b most last (l.filter fun x=>x.id !=t.id) i [b,m]from ht.wheel (T.cut H E))
 have N:=D I
 have s:=D (Za (w:=i) (.cells #[.int .u64 0, .int .i64 0, .int .i64 0] 235 (0,0)))
 obtain⟨V,k⟩:=Je ((i.alloc (.cells #[.int .u64 0, .int .i64 0, .int .i64 0] 235 (0,0))).setRow i.heap.size (Yx t).toArray)
 have p:=Kk k s
 have y:=Kh k
 have k1:=Jc 1 p
 have Z:=Jc 2 p
 clear H E ht I p;change Hid _ at y k
 go_upto_region 4 with(refine Jo (Yx t).toArray s L M ?_;rw[←k.out])
 go_quiet (fail)
 generalize hwq:V.drewN _=wq
 have q:Zg [] i wq:=by rw[←hwq];exact y.drewN _
 clear hwq;change Hid _ at q
 go_wp2_with fail
 go_ret3
 exact⟨rfl,(Z5 _ _ _ _).upd J q,N.trans q⟩
def ZiB {most last:Int} (h:Yr b most last l w F) (hl:l.length≤1000000) (hm:most≤l.length) (due:Nat) (tag:Int):
  Calls Tryz.prog 122 #[.pointer (some ⟨b,0,none⟩), .int .u64 due, .int .i64 tag] w fun e w'=>e= .returned (.tuple #[.int .i64 0, .int .i64 10])∧Zg [] w w':=by
 obtain⟨g,i,v,G,rfl,k,a,d⟩:=h
 have j:=i.length
 obtain⟨A,c,rfl,m⟩:=d.form'
 rw[Xb]at a m d
 have p:=Jc 0 a
 have q:=Jc 1 a
 have n:most≤(g.length:Int):=by omega
 have o:decide (most≤(g.length:Int))=true:=decide_eq_true n
 clear a d k i j hm
 go_in
 go_upto_region 3 with fail
 go_quiet (fail)
 go_wp2_with fail
 go_ret2
 exact⟨rfl,(Zg.refl _ _).drewN _⟩
def ZpB {most last:Int} (h:Yr b most last l w F) (hl:l.length≤999999) (hm:(l.length:Int)<most) (due:Nat) (tag:Int) (h0:0≤last) (h1:last≤1000000000000):
  Calls Tryz.prog 122 #[.pointer (some ⟨b,0,none⟩), .int .u64 due, .int .i64 tag] w fun e w'=>e= .returned (.tuple #[.int .i64 (last+1), .int .i64 0])∧∃F',Yr b most (last+1) (l++[⟨due,last+1,tag⟩]) w' F'∧Zi w w' F F':=by
 obtain⟨d,V,v,G,hF,ad,n,y⟩:=h
 have ag:=V.length
 obtain⟨A,c,rfl,hc⟩:=y.form'
 rw[Xb]at n hc y
 have c0:=Jc 0 n
 have c1:=Jc 1 n
 have hz:¬most≤(d.length:Int):=by omega
 have au:decide (most≤(d.length:Int))=false:=decide_eq_false hz
 have ar:d.length≤999999:=by omega
 have HA:=D V;have HB:=D n;have HR:=D y;have O:=D ad;have HF:=D hF
 have E:=D (And.intro h0 h1)
 have ab:=D (Jg n)
 clear n y ad V ag hm h0 h1 hF
 go_in
 go_upto_region 3 with fail
 go_quiet (fail)
 generalize hwq:w.drewN _=wq
 have p:Zg [] w wq:=by rw[←hwq];exact(Zg.refl [] w).drewN _
 have r:wq.heap[b]? =some (.cells #[.slice A d.length c, .int .i64 most, .int .i64 last] 190 (0,0)):=(p.block b ab (by simp)).trans HB.out
 have Y:=Zdt ⟨b,2,none⟩ last 1 wq (Zf (i:=2) r rfl) (ZS r) E.out.1 E.out.2 (by omega) (by omega)
 have ah:=D Y
 clear hwq Y c0 c1;change Hid _ at r p
 go_wp2_with fail
 refine ah.out.mono ?_
 rintro e1 z ⟨rfl,R⟩
 have N:z.heap[b]? =some (.cells #[.slice A d.length c, .int .i64 most, .int .i64 (last+1)] 190 (0,0)):=by rw[R];exact Zd (i:=2) r _
 have P:=Kd R
 have Z:=(Zc _ _ _ _).upd ((Zc _ _ _ _).upd HR p) P (fun k a hm=>by rw[Jm hm]at a;exact O a)
 obtain⟨W,Q,s⟩:=Kb z (.cells #[.int .u64 (due:Int), .int .i64 (last+1), .int .i64 tag] 235)
 have ai:=D (show Zb W z.heap.size 0 (Yx ⟨due,last+1,tag⟩)by rw[Q];exact Zb.of_block (Za _))
 have ao:=D ((Kv s N))
 have ak:=D ((Zc _ _ _ _).upd Z s)
 have L:=D (show Zg [b] w W from((p.weaken (by simp)).trans P (fun k a=> .inr a)).trans s)
 have av:=Jc 0 N
 clear R N P Z s;change Hid _ at Q
 go_upto_region 7 with(rw[←Q.out];refine Zm W rfl (.tmp 29) (.tmp 34) 188 rfl 235 Tryz.underlying188 Zn2 rfl (by omega) (by omega) _ (d.map Yx) G rfl ak z.heap.size 1 (Yx ⟨due,last+1,tag⟩) rfl ai rfl (ZbL _) (by rw[Xb];omega) ?_;intro v' w7 G' m J ac;obtain⟨A',S,e7,-⟩:=m.form';rw[Xd,Xb,List.length_singleton]at e7;subst e7;have M:=D ((Kv J ao O));have c7:=Jc 0 M.out;have f7:=Kf 0 M.out;have an:=D m;have aj:=D J;have aa:=D ac;clear m J ac)
 obtain⟨T,x⟩:=Je (w7.setCell ⟨b,0,none⟩ (.slice A' (d.length+1) S))
 obtain⟨C,o⟩:=Je (d++[⟨due,last+1,tag⟩])
 have q:C.length=d.length+1:=by rw[o];simp
 have m:=an.out
 have X:b∉G':=fun hm=>by
  rcases aa b hm with h|h
  ·exact O h
  ·have:=L.size;have:=ab.out;omega
 obtain⟨j,rfl,am⟩:∃j,A'=some ⟨j,0,none⟩∧G'=[j]:=by
  rcases m.form with⟨_,h0,_⟩|⟨g,ax,_,h1,h2,_⟩
  ·simp at h0
  ·injection h1 with h1;exact⟨g,h1,h2⟩
 subst am
 have K:=Kd x
 have H:b≠j:=by simpa using X
 have I:Zbl b j S most (last+1) C T:=⟨by rw[x,Zd M,q];rfl,by
  have h9:=(Zc _ _ _ _).upd m K (fun k a=>by simp at a⊢;omega)
  rw[q,o,Xs]
  exact h9,H⟩
 have ae:UpT C d.length:=by rw[o];exact ZoK HA.heap _
 have hq:=ZkW I (by omega) d.length (by omega) ae
 have aq:((d.length:Int)+1)-1=(d.length:Int):=by omega
 have ay:T.cell? ⟨b,0,none⟩=some (.slice (some ⟨j,0,none⟩) (d.length+1) S):=by
  have:=Zf (i:=0) I.blk rfl
  rw[q]at this;exact this
 have HQ:=D hq;have aw:=D H
 have HG:=D (show Zi w T F [b,j]from⟨by
   rw[HF.out]
   exact((L.weaken (fun k a=> .inr (by simp at a;simp[a]))).trans aj (fun k a=> .inr (by simp[a]))).trans K (fun k a=> .inr (by simp at a;simp[a])),fun k a=>by
   rw[HF.out]
   rcases List.mem_cons.1 a with rfl|a
   ·exact .inl (by simp)
   ·rcases aa k a with h|h
    ·exact .inl (by simp[h])
    ·right;have:=L.size;omega⟩)
 clear m X K H I ae hq c7 f7;change Hid _ at x o q
 rw[←x.out]
 go_wp2_with fail
 refine HQ.out.mono ?_
 rintro e9 w9 ⟨v9,rfl,ap,hp,hh,ht,hu⟩
 have af:=D (show Yr b most (last+1) (l++[⟨due,last+1,tag⟩]) w9 [b,j]from ht.wheel (HA.arm rfl E.out.1 (by rw[←o.out];exact hp) hh))
 have al:=D hu
 clear hp hh ht hu
 go_wp2_with fail
 go_ret2
 exact⟨rfl,_,af.out,HG.trans ⟨al.weaken (fun k a=> .inr (by simp at a;simp[a])),fun k a=> .inl a⟩⟩
end Go.Proofs.YtlhapbopmplngaaGreatDoor
