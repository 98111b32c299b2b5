import Derived.Test.YtbgbeddbfaopgaaGreatDoorZ10
set_option linter.all false
set_option maxHeartbeats 16000000
set_option maxRecDepth 100000
set_option autoImplicit true
set_option relaxedAutoImplicit true
namespace Go.Proofs.YtbgbeddbfaopgaaGreatDoor
open Go.RowKit Go.Lk
structure Zeh (arr:List ZC) (i c k:Nat):Prop where
 form:k=i∨(0<k∧(k-1)/2=i)
 lt:k<arr.length
 own:∀x z,arr[i]? =some x→arr[k]? =some z→k≠i→Zca z x=true
 kids:∀d u z,0<d→(d-1)/2=i→d<c→arr[d]? =some u→arr[k]? =some z→leT z u
theorem Zeh.start {arr:List ZC} {i:Nat} (h:i<arr.length):Zeh arr i (2*i+1) i:=
 ⟨.inl rfl,h,fun _ _ _ _ h=>absurd rfl h,fun d u z h1 h2 h3=>by omega⟩
theorem Zeh.next {arr:List ZC} (h:Zeh arr i c k) (hc:2*i+1≤c∧c≤2*i+2) (hu:arr[c]? =some u) (hz:arr[k]? =some z) (ha:Zca u z=true):Zeh arr i (c+1) c:=by
 refine⟨.inr ⟨by omega,by omega⟩,(Jk hu),fun x y hx a _=> ?_,fun d v y b f g hv a=> ?_⟩
 ·rw[hu]at a;cases a
  by_cases e:k=i
  ·subst e;rw[hx]at hz;cases hz;exact ha
  ·have b:=h.own x z hx hz e
   rw[ZeF]at b ha⊢;omega
 ·rw[hu]at a;cases a
  by_cases e:d=c
  ·subst e;rw[hu]at hv;cases hv;exact Zge _
  ·exact ZbJ (ZgB ha) (h.kids d v z b f (by omega) hv hz)
theorem Zeh.keep {arr:List ZC} (h:Zeh arr i c k) (hu:arr[c]? =some u) (hz:arr[k]? =some z) (ha:Zca u z=false):Zeh arr i (c+1) k:=by
 refine⟨h.form,h.lt,h.own,fun d v y f b g hv a=> ?_⟩
 by_cases e:d=c
 ·subst e;rw[hu]at hv;cases hv;rw[hz]at a;cases a;exact Zgk.1 ha
 ·exact h.kids d v y f b (by omega) hv a
theorem Zeh.done {arr:List ZC} (h:Zeh arr i c k) (hc:2*i+3≤c∨arr.length≤c) (hz:arr[k]? =some z):∀d u,0<d→(d-1)/2=i→arr[d]? =some u→leT z u:=fun d u h1 h2 hu=>
 h.kids d u z h1 h2 (by have:=(Jk hu);omega) hu hz
theorem Zgu {P:Prop}(h:P:=by
 have m:=D y
 clear y
 by_cases r:kk=ii
 ·
  have S:((kk:Int)==(ii:Int))=true:=by simp[r]
  have q:=D r
  clear r
  go_wp2_with fail
  (try simp only[Exit.inBlock,Exit.then])
  first|refine bodyPost_ret (results_none rfl _ _ _) rfl ?_|refine bodyPost_end (results_none rfl _ _ _) rfl ?_
  exact⟨_,rfl,arr,l.out.2.1,Zrj l.out.2.2.1 (by rw[←q.out];exact m) (by rw[←q.out];exact fun d u Z h2 Y=>P.out d u Z (by rw[h2,q.out]) Y),C.out,l.out.2.2.2.2.trans e.out.2.2.2 (by simp)⟩
 ·
  have S:((kk:Int)==(ii:Int))=false:=by simp;omega
  have G:0<kk∧(kk-1)/2=ii:=by
   rcases e.out.2.2.1.form with h|h
   ·
    exact absurd h r
   ·
    exact h
  obtain⟨x,hx⟩:∃x,arr[ii]? =some x:=⟨_,Xa L⟩
  have n:=D hx;have Q:=D G;have q:=D r
  have R:=D L;have M:=D N;have j:=C
  have ai:ii<kk:=by omega
  clear hx G
  go_upto_region 7 with fail
  refine Jr [0,4,8,12,16,20,24,28,32,39,40,44,48,52,56,60,64,68,72,76,80,84,88,92,96,102,104,110] (fun W=>W.cell? ⟨b,0,none⟩=some (.slice (some ⟨g,0,none⟩) arr.length cap)∧Zb W g (kk*3) (YQ z)∧Zb W g (ii*3) (YQ x)) ⟨Zc (i:=0) j.blk rfl,j.at m.out,j.at n.out⟩ ?_
  repeat first|refine Jn ?_|refine Jf ?_|refine Ju ?_
  apply Zq (t:= 239) (b:=g) (of:=kk*3) (cs:=[.int .u64 (z.due:Int), .int .i64 z.id, .int .i64 z.tag])
  case ho=>simp only[Xh,Xf,Xg];rfl
  case hg=>rfl
  case hop=>rfl
  case hx=>rfl
  case ht=>exact s.out
  case hb=>exact fun W p=>p.2.1
  case ha=>go_simp;rfl
  repeat first|refine Jn ?_|refine Jf ?_|refine Ju ?_
  apply Zq (t:= 239) (b:=g) (of:=ii*3) (cs:=[.int .u64 (x.due:Int), .int .i64 x.id, .int .i64 x.tag])
  case ho=>simp only[Xh,Xf,Xg];rfl
  case hg=>rfl
  case hop=>rfl
  case hx=>rfl
  case ht=>exact s.out
  case hb=>exact fun W p=>p.2.2
  case ha=>go_simp;rfl
  repeat first|refine Jn ?_|refine Jf ?_|refine Ju ?_
  refine JL ?_
  simp only[Xu]
  refine Zaq _ rfl 239 (.tmp 69) (.tmp 61) rfl (YQ z) ((Zd _ _ _ _).upd j.row ((Zg.refl [] wr).drewN 1) (by simp)) (by rw[Xb];exact R) rfl rfl rfl s (Zcm _) ?_
  intro w4 K J
  have V:=D K;have T:=D J
  clear K J
  go_wp2_with fail
  refine⟨fun _=>True,trivial,?_⟩
  repeat first|refine Jn ?_|refine Jf ?_|refine Ju ?_
  refine JL ?_
  refine Zaq _ rfl 239 (.tmp 70) (.tmp 68) rfl (YQ x) V (by rw[List.length_set,Xb];exact M) rfl rfl rfl s (Zcm _) ?_
  intro O E I
  have F:Zg [g] wr O:=(((Zg.refl [g] wr).drewN 1).trans T (fun k o=> .inr o)).trans I (fun k o=> .inr o)
  rw[Zlr]at E
  have X:=D (show ZbG b g cap most last (ZdL arr ii kk x z) O from⟨by rw[Zbg];exact(F.block b (Jg j.blk) (by simpa using j.ne)).trans j.blk,by rw[Zbg];exact E,j.ne⟩)
  clear E I;change Hid _ at F
  go_wp2_with fail
  refine Jz ?_
  go_wp2_with fail
  go_roundw
  case rel=>exact⟨kk,_,rfl,D ⟨by rw[Zbg];exact M,(Zft n m (by omega)).trans l.out.2.1,Zq2 l.out.2.2.1 Q.out.1 Q.out.2 n m (e.out.2.2.1.own x z n m q) P,X.out,(l.out.2.2.2.2.trans e.out.2.2.2 (by simp)).trans F (fun k o=> .inr o)⟩⟩
  case measure=>
   have:=l.out.2.1.length_eq
   simp[intOf];omega):P:=h
theorem Zmj {b g cap:Nat} {most last:Int} {arr0:List ZC} (h:ZbG b g cap most last arr0 w) (hl:arr0.length≤1000000) (i:Nat) (hi:i<arr0.length) (hdn:DnT arr0 i i):
  Calls Tryz.prog 213 #[.pointer (some ⟨b,0,none⟩), .int .i64 i] w (Zfw fun w'=>∃arr',arr'.Perm arr0∧UpT arr' i∧ZbG b g cap most last arr' w'∧Zg [g] w w'):=by
 have H:=D h;have ag:=D hdn
 have s:=D (show Zu Tryz.prog 239 3=true from ZhA)
 have af:=D hi;have an:=D hl
 clear h hdn hi
 go_enter Tryz.func213,Tryz.ntmps213
 go_wp2
 go_loopw[1] (fun s1 wr=>∃(ii:Nat) (arr:List ZC),s1= .int .i64 ii∧Hid (ii<arr.length∧arr.Perm arr0∧DnT arr ii i∧ZbG b g cap most last arr wr∧Zg [g] w wr)) (fun s1 _=>arr0.length-(intOf s1).toNat)
 case atStart=>exact⟨i,arr0,rfl,D ⟨af,List.Perm.refl _,ag.out,H.out,Zg.refl _ _⟩⟩
 case round=>
  obtain⟨ii,arr,rfl,l⟩:=hrel
  have am:arr.length≤1000000:=by have:=l.out.2.1.length_eq;omega
  have L:ii<arr.length:=l.out.1
  go_wp2
  go_loopw[4,5] (fun s4 s5 wq=>∃kk c:Nat,s4= .int .i64 kk∧s5= .int .i64 c∧Hid (2*ii+1≤c∧c≤2*ii+3∧Zeh arr ii c kk∧Zg [] wr wq)) (fun _ s5 _=>2*ii+3-(intOf s5).toNat)
  case atStart=>exact⟨ii,2*ii+1,rfl,by go_num,D ⟨by omega,by omega,Zeh.start L,Zg.refl _ _⟩⟩
  case round=>
   obtain⟨kk,c,rfl,rfl,e⟩:=hrel
   have N:kk<arr.length:=e.out.2.2.1.lt
   have ad:2*ii+1≤c:=e.out.1
   have ao:c≤2*ii+3:=e.out.2.1
   have C:=D (l.out.2.2.2.1.upd e.out.2.2.2 (by simp) (by simp))
   have al:=Jc 0 C.blk
   by_cases ak:c≤2*ii+2
   ·have aj:decide ((c:Int)≤2*(ii:Int)+2)=true:=decide_eq_true (by omega)
    by_cases ah:c<arr.length
    ·have ac:decide ((c:Int)<(arr.length:Int))=true:=decide_eq_true (by omega)
     obtain⟨u,hu⟩:∃u,arr[c]? =some u:=⟨_,Xa ah⟩
     obtain⟨z,y⟩:∃z,arr[kk]? =some z:=⟨_,Xa N⟩
     obtain⟨a,ha,ae⟩:=Zhc u z
     have n:=D hu;have m:=D y;have HA:=D ha
     clear hu y ha
     go_upto_region 4 with fail
     refine Jr [0,4,8,12,16,20,24,28,32,36,40,44,48,52,58] (fun W=>W.cell? ⟨b,0,none⟩=some (.slice (some ⟨g,0,none⟩) arr.length cap)∧Zb W g (c*3) (YQ u)∧Zb W g (kk*3) (YQ z)) ⟨Zc (i:=0) C.blk rfl,C.at n.out,C.at m.out⟩ ?_
     repeat first|refine Jn ?_|refine Jf ?_|refine Ju ?_
     apply Zq (t:= 239) (b:=g) (of:=c*3) (cs:=[.int .u64 (u.due:Int), .int .i64 u.id, .int .i64 u.tag])
     case ho=>simp only[Xh,Xf,Xg];rfl
     case hg=>rfl
     case hop=>rfl
     case hx=>rfl
     case ht=>exact s.out
     case hb=>exact fun W p=>p.2.1
     case ha=>go_simp;rfl
     repeat first|refine Jn ?_|refine Jf ?_|refine Ju ?_
     apply Zq (t:= 239) (b:=g) (of:=kk*3) (cs:=[.int .u64 (z.due:Int), .int .i64 z.id, .int .i64 z.tag])
     case ho=>simp only[Xh,Xf,Xg];rfl
     case hg=>rfl
     case hop=>rfl
     case hx=>rfl
     case ht=>exact s.out
     case hb=>exact fun W p=>p.2.2
     case ha=>go_simp;rfl
     repeat first|refine Jn ?_|refine Jf ?_|refine Ju ?_
     refine JL ?_
     go_wp2_with fail
     refine(ae.out _).mono ?_
     rintro ea wa ⟨rfl,ab⟩
     have aa:=D (show Zg [] wr wa from((Zg.refl [] wr).drewN 1).trans ab (by simp))
     clear ab
     go_wp2_with fail
     refine Jz ?_
     cases a with
     |true=>
      go_wp2_with fail
      go_roundw
      case rel=>exact⟨c,c+1,rfl,by go_num,D ⟨by omega,by omega,e.out.2.2.1.next ⟨ad,ak⟩ n m HA.symm,e.out.2.2.2.trans aa (by simp)⟩⟩
      case measure=>simp[intOf];omega
     |false=>
      go_wp2_with fail
      go_roundw
      case rel=>exact⟨kk,c+1,rfl,by go_num,D ⟨by omega,by omega,e.out.2.2.1.keep n m HA.symm,e.out.2.2.2.trans aa (by simp)⟩⟩
      case measure=>simp[intOf];omega
    ·have ac:decide ((c:Int)<(arr.length:Int))=false:=decide_eq_false (by omega)
     obtain⟨z,y⟩:∃z,arr[kk]? =some z:=⟨_,Xa N⟩
     have P:=D (e.out.2.2.1.done (.inr (by omega)) y)
     exact Zgu
   ·have aj:decide ((c:Int)≤2*(ii:Int)+2)=false:=decide_eq_false (by omega)
    obtain⟨z,y⟩:∃z,arr[kk]? =some z:=⟨_,Xa N⟩
    have P:=D (e.out.2.2.1.done (.inl (by omega)) y)
    exact Zgu
theorem ZoA {b g cap:Nat} {most last:Int} {arr:List ZC} (h:ZbG b g cap most last arr w) (hl:arr.length≤1000000) (hh:Zdk arr) (i:Nat) (hx:arr[i]? =some x):
  Calls Tryz.prog 141 #[.pointer (some ⟨b,0,none⟩), .int .i64 i] w fun e w'=>e= .returned (.agg (YQ x).toArray)∧∃arr',(x::arr').Perm arr∧Zdk arr'∧ZbG b g cap most last arr' w'∧Zg [b,g] w w':=by
 have aL:arr.length≤cap:=by obtain⟨_,_,_,_,hc,_⟩:=h.row.block;rw[Xb]at hc;exact hc
 have aP:g<w.heap.size:=(Zd _ _ _ _).lt h.row g (by simp)
 have aQ:b<w.heap.size:=(Jg h.blk)
 have hi:i<arr.length:=(Jk hx)
 obtain⟨n,hn⟩:∃n,arr.length=n+1:=⟨arr.length-1,by omega⟩
 obtain⟨z,j⟩:∃z,arr[n]? =some z:=⟨_,Xa (by omega)⟩
 have aO:(arr.length:Int)-1=(n:Int):=by omega
 have aM:n<arr.length:=by omega
 have aN:i≤n:=by omega
 have aA:n≤cap:=by omega
 obtain⟨J,y⟩:=Je ((w.alloc (.cells #[.int .u64 0, .int .i64 0, .int .i64 0] 239)).alloc (.cells #[.int .u64 0, .int .i64 0, .int .i64 0] 239))
 have af:Zg [] w J:=by rw[y];exact((Zg.refl [] w).alloc _).alloc _
 have ac:J.heap[w.heap.size]? =some (.cells #[.int .u64 0, .int .i64 0, .int .i64 0] 239 (0,0)):=by rw[y,ZB _ (by simp)];exact Za _
 have P:J.heap[w.heap.size+1]? =some (.cells #[.int .u64 0, .int .i64 0, .int .i64 0] 239 (0,0)):=by
  rw[y];have:=Za (w:=w.alloc (.cells #[.int .u64 0, .int .i64 0, .int .i64 0] 239)) (.cells #[.int .u64 0, .int .i64 0, .int .i64 0] 239);simpa using this
 obtain⟨l,R⟩:=Je (J.setRow (w.heap.size+1) (YQ x).toArray)
 have O:Zg [w.heap.size+1] J l:=by rw[R];exact(Zg.refl _ _).setRow (.inr (by simp)) _
 have M:=D (show l.heap[w.heap.size]? =some (.cells #[.int .u64 0, .int .i64 0, .int .i64 0] 239 (0,0))from(O.block _ (Jg ac) (by simp)).trans ac)
 have V:=D (show l.heap[w.heap.size+1]? =some (.cells (YQ x).toArray 239 (0,0))by rw[R];exact setRow_heap _ _ _ _ _ _ P)
 have d:=D (((h.upd af (by simp) (by simp)).upd O (by simp;omega) (by simp;omega)))
 have av:=D (show Zg [b,g] w l from(af.weaken (by simp)).trans O (fun k a=> .inl (by simp at a;omega)))
 have HX:=D hx;have HZ:=D j;have HH:=D hh
 have aJ:=D (show Zb (w.alloc (.cells #[.int .u64 0, .int .i64 0, .int .i64 0] 239)) g (i*3) (YQ x)from(h.at hx).upd ((Zg.refl [] w).alloc _) (by simp))
 have c:=D (show Zu Tryz.prog 239 3=true from ZhA)
 have ah:=D (show(YQ x).toArray.all (·.oneCell')=true by rw[Xl,Xk];exact Zcm x)
 have S:=D (show w.heap.size≠g by omega);have al:=D (show w.heap.size+1≠g by omega)
 have Q:=D (show w.heap.size≠b by omega);have ai:=D (show w.heap.size+1≠b by omega)
 have c0:=Jc 0 h.blk
 have Y:=D hn
 clear h hx j hh O af ac hn;change Hid _ at y R P
 go_enter Tryz.func141,Tryz.ntmps141
 go_upto_region 2 with(first|refine Js aJ c ?_|(refine Jo (YQ x).toArray (by first|exact P|(rw[←y.out];exact P)) c ah ?_;first|rw[←y.out,←R.out]|skip))
 have az:=Jc 0 d.blk
 have aB:=D hi
 clear c0
 go_upto_region 3 with fail
 refine Jr [0,4,8,12,16,20,24,28,32,36,40,44,48,54] (fun W=>W.cell? ⟨b,0,none⟩=some (.slice (some ⟨g,0,none⟩) arr.length cap)∧Zb W g (n*3) (YQ z)) ⟨az,d.at HZ.out⟩ ?_
 repeat first|refine Jn ?_|refine Jf ?_|refine Ju ?_
 apply Zq (t:= 239) (b:=g) (of:=n*3) (cs:=[.int .u64 (z.due:Int), .int .i64 z.id, .int .i64 z.tag])
 case ho=>simp only[Xh,Xf,Xg];rfl
 case hg=>rfl
 case hop=>rfl
 case hx=>rfl
 case ht=>exact c.out
 case hb=>exact fun W hW=>hW.2
 case ha=>go_simp;rfl
 repeat first|refine Jn ?_|refine Jf ?_|refine Ju ?_
 refine JL ?_
 simp only[Xu]
 refine Zaq _ rfl 239 (.tmp 32) (.tmp 31) rfl (YQ z) ((Zd _ _ _ _).upd d.row ((Zg.refl [] l).drewN 1) (by simp)) (by rw[Xb];exact aB.out) rfl rfl rfl c (Zcm _) ?_
 intro K ap am
 have Z:Zg [g] l K:=((Zg.refl [g] l).drewN 1).trans am (fun k a=> .inr a)
 have X:=(Z.block b (Jg d.blk) (by simpa using d.ne)).trans d.blk
 have aE:=Jc 0 X
 have aF:K.frozen? ⟨b,0,none⟩=false:=Zk X
 have aH:=D ap;have aG:=D X
 clear ap am X az;change Hid _ at Z
 go_wp2_with fail
 refine Jz ?_
 obtain⟨C,N⟩:=Je (K.setCell ⟨b,0,none⟩ (.slice (some ⟨g,0,none⟩) n cap))
 obtain⟨s,r⟩:=Je ((arr.set i z).take n)
 have q:s.length=n:=by rw[r,List.length_take,List.length_set,Y.out];omega
 have aa:Zg [b] K C:=by rw[N];exact(Zg.refl _ _).setCell (.inr (by simp)) _
 have an:=D (show ZbG b g cap most last s C from⟨by rw[N,Ze aG,q];rfl,by
  have hr:=Zfe (i:=n) (W2:=K) aH (by rw[List.length_set,Xb];omega) [] (by simp;exact Nat.mul_le_mul_right 3 aA) rfl
  rw[q,r,List.map_take,List.map_set]
  exact(Zd _ _ _ _).upd hr aa (fun k a=>by simp at a⊢;have:=d.ne;omega),d.ne⟩)
 have ak:=D (show Zg [b,g] l C from(Z.weaken (fun k a=> .inr (by simp at a;simp[a]))).trans aa (fun k a=> .inr (by simp at a;simp[a])))
 clear aa;change Hid _ at N r q
 go_upto_region 5 with fail
 rw[←N.out]
 clear aE aF
 by_cases ag:i<n
 ·have au:DnT s i i:=by rw[r.out];exact Zrz HH Y ag HZ.out
  have L:=Zmj an (by rw[q.out];omega) i (by rw[q.out];exact ag) au
  have HQ:=D L
  have HI:=D ag
  clear au L
  go_wp2_with fail
  refine HQ.out.mono ?_
  rintro e4 w4 ⟨v4,rfl,aK,T,ao,ay,ar⟩
  have L:=Zky ay (by rw[T.length_eq,q.out];omega) i (by rw[T.length_eq,q.out];exact HI) ao
  have aI:=D L;have aC:=D T;have aD:=D ar
  clear L T ao ay ar
  go_wp2_with fail
  refine aI.out.mono ?_
  rintro e5 w5 ⟨v5,rfl,aj,aw,F,ax,aq⟩
  have E:(x::aj).Perm arr:=(List.Perm.cons x (aw.trans aC)).trans (by rw[r.out];exact ZpQ Y HI HX HZ)
  have p:=D (ak.trans (aD.trans aq (fun k a=> .inr a)) (fun k a=> .inr (by simp at a;simp[a])))
  have HP:=D E;have ab:=D F;have ae:=D ax
  clear E aw F ax aq
  have G:=(p.block _ (Jg M) (by simp;exact⟨Q,S.out⟩)).trans M.out
  have H:=(p.block _ (Jg V) (by simp;exact⟨ai,al.out⟩)).trans V.out
  have I:=D G;have ad:=D (show Zb w5 (w.heap.size+1) 0 (YQ x)from Zb.of_block H)
  clear G H
  go_wp2_with(first|refine Jl ad c ?_|refine Jo (YQ x).toArray I c ah ?_)
  (try simp only[Exit.inBlock,Exit.then])
  refine bodyPost_ret (v:= .agg (YQ x).toArray) (Zs _ (x:=4) (t:= 239) (b:=w.heap.size) (o:=0) rfl rfl c (Zb.of_block (setRow_heap _ _ _ _ _ _ I))) rfl ?_
  have j:Zg [w.heap.size] w5 (w5.setRow w.heap.size (YQ x).toArray):=(Zg.refl _ _).setRow (.inr (by simp)) _
  exact⟨rfl,aj,HP.out,ab.out,ae.upd j (by simp;exact Ne.symm Q) (by simp;exact Ne.symm S),(av.trans p (fun k a=> .inr a)).trans j (fun k a=> .inl (by simp at a;omega))⟩
 ·obtain rfl:i=n:=by omega
  have E:(x::s).Perm arr:=by
   rw[r.out]
   have e:(arr.set i z).take i=arr.take i:=by
    refine List.ext_getElem? (fun m=> ?_)
    rw[List.getElem?_take,List.getElem?_take]
    split
    ·rw[List.getElem?_set,if_neg (by omega)]
    ·rfl
   rw[e]
   exact Zql Y HX.out
  have F:Zdk s:=by
   rw[r.out]
   have e:(arr.set i z).take i=arr.take i:=by
    refine List.ext_getElem? (fun m=> ?_)
    rw[List.getElem?_take,List.getElem?_take]
    split
    ·rw[List.getElem?_set,if_neg (by omega)]
    ·rfl
   rw[e]
   exact Zoh HH _
  have HP:=D E;have ab:=D F;have ae:=an;have p:=ak
  clear E F
  have G:=(p.block _ (Jg M) (by simp;exact⟨Q,S.out⟩)).trans M.out
  have H:=(p.block _ (Jg V) (by simp;exact⟨ai,al.out⟩)).trans V.out
  have I:=D G;have ad:=D (show Zb C (w.heap.size+1) 0 (YQ x)from Zb.of_block H)
  clear G H
  go_wp2_with(first|refine Jl ad c ?_|refine Jo (YQ x).toArray I c ah ?_)
  (try simp only[Exit.inBlock,Exit.then])
  refine bodyPost_ret (v:= .agg (YQ x).toArray) (Zs _ (x:=4) (t:= 239) (b:=w.heap.size) (o:=0) rfl rfl c (Zb.of_block (setRow_heap _ _ _ _ _ _ I))) rfl ?_
  have j:Zg [w.heap.size] C (C.setRow w.heap.size (YQ x).toArray):=(Zg.refl _ _).setRow (.inr (by simp)) _
  exact⟨rfl,s,HP.out,ab.out,ae.upd j (by simp;exact Ne.symm Q) (by simp;exact Ne.symm S),(av.trans p (fun k a=> .inr a)).trans j (fun k a=> .inl (by simp at a;omega))⟩
def Y9 (b:Nat) (most last:Int) (l:List ZC):YG:=fun w F=>∃arr,ZcC arr l last∧Y2 b (fun v=> #[v, .int .i64 most, .int .i64 last]) 131 239 3 (arr.map YQ) w F
theorem Yg (b:Nat) (most last:Int) (l:List ZC):(Y9 b most last l).Local:=
 ⟨fun h k hk=>by obtain⟨arr,_,h⟩:=h;exact(Zas _ _ _ _ _ _).lt h k hk,
  fun h h1 h2=>by obtain⟨arr,ha,h⟩:=h;exact⟨arr,ha,(Zas _ _ _ _ _ _).2 h h1 h2⟩⟩
theorem ZbG.wheel {b g cap:Nat} {most last:Int} {arr l:List ZC} (h:ZbG b g cap most last arr w) (ha:ZcC arr l last):Y9 b most last l w [b,g]:=
 ⟨arr,ha,_,[g],rfl,by simpa using h.ne,h.blk,h.row⟩
theorem Zlh {l:List ZC} {id:Int} (h:∀x∈l,x.id≠id):(l.filter fun x=>x.id !=id)=l:=by
 rw[List.filter_eq_self]
 intro x hx;simpa using h x hx
theorem Zkf {most last:Int} (h:Y9 b most last l w F) (hl:l.length≤1000000) (id:Int):
  Calls Tryz.prog 135 #[.pointer (some ⟨b,0,none⟩), .int .i64 id] w (Zfw fun w'=>Y9 b most last (l.filter fun x=>x.id !=id) w' F∧Zg F w w'):=by
 have H:=D h
 obtain⟨arr,L,v,G,rfl,R,r,o⟩:=h
 have ac:arr.length≤1000000:=by have:=L.length;omega
 obtain⟨A,c,rfl,hc,M⟩:=o.lies
 rw[Xb]at r hc o
 have c0:=Jc 0 r
 have Y:=D r;have HL:=D M;have HR:=D o;have ag:=D R;have I:=D L
 have m:=D (show Zu Tryz.prog 239 3=true from ZhA)
 have ai:=D ((Yg _ _ _ _).lt H)
 clear r o M R L
 go_enter Tryz.func135,Tryz.ntmps135
 go_wp2
 go_loopw[14] (fun s14 wr=>∃kk:Nat,kk≤arr.length∧s14= .int .i64 kk∧Hid (∀(j:Nat) (x:ZC),j<kk→arr[j]? =some x→x.id≠id)∧Hid (Zg [] w wr)) (fun s14 _=>arr.length-(intOf s14).toNat)
 case atStart=>exact⟨0,Xn _,rfl,D (fun j x g=>absurd g (Nat.not_lt_zero _)),D (Zg.refl [] w)⟩
 case round=>
  obtain⟨kk,aj,rfl,X,i⟩:=hrel
  clear c0
  have n:=(i.block b (Jg Y) (by simp)).trans Y.out
  by_cases af:kk<arr.length
  ·obtain⟨x,hx⟩:∃x,arr[kk]? =some x:=⟨_,Xa af⟩
   obtain⟨q,rfl,P⟩:=HL.out kk (YQ x) (by rw[Xe,hx];rfl)
   have N:=D (P.upd i (by simp))
   have S:=D (show(YQ x).toArray.all (·.oneCell')=true by rw[Xl,Xk];exact Zcm x)
   have C:=D (Za (w:=wr) (.cells #[.int .u64 0, .int .i64 0, .int .i64 0] 239 (0,0)))
   obtain⟨s,d⟩:=Je ((wr.alloc (.cells #[.int .u64 0, .int .i64 0, .int .i64 0] 239 (0,0))).setRow wr.heap.size (YQ x).toArray)
   have O:s.heap[wr.heap.size]? =some (.cells (YQ x).toArray 239 (0,0)):=by rw[d];exact setRow_heap _ _ _ _ _ _ C.out
   have E:Zg [] wr s:=by rw[d];exact((Zg.refl [] wr).alloc _).setRow (.inl (Xi _)) _
   have k1:s.cell? ⟨wr.heap.size,1,none⟩=some (.int .i64 x.id):=Zc O rfl
   have z:=Jt i E
   have Z:=D hx
   have p:G=[q]:=by obtain⟨_,_,h2,_⟩:=HR.block;exact h2
   have HG:=D p
   have Q:b≠q:=fun e=>ag.out (by rw[p,e];simp)
   have HT:=D (show ZbG b q c most last arr s from⟨(E.block b (Jg n) (by simp)).trans n,by rw[←p];exact(Zd _ _ _ _).upd HR z (by simp),Q⟩)
   clear hx P O E n p Q;change Hid _ at d
   by_cases a:x.id=id
   ·have ae:(x.id==id)=true:=by simpa using a
    have J:=D a
    have T:=ZoA HT ac I.heap kk Z.out
    have HQ:=D T
    clear T a
    go_wp2_with(first|refine Js N m ?_|(refine Jo (YQ x).toArray C m S ?_;rw[←d.out]))
    refine HQ.out.mono ?_
    rintro e2 w2 ⟨rfl,ah,W,hh,ht,V⟩
    have aa:=D (show Y9 b most last (l.filter fun x=>x.id !=id) w2 [b,q]by rw[←J.out];exact ht.wheel (I.cut W hh))
    have ad:=D V
    clear W hh ht V
    go_wp2_with fail
    go_ret
    exact⟨_,rfl,by rw[HG.out];exact aa,by rw[HG.out];exact(z.weaken (by simp)).trans ad (fun k hk=> .inr hk)⟩
   ·have ae:(x.id==id)=false:=by simpa using a
    have J:=D a
    clear a
    go_wp2_with(first|refine Js N m ?_|(refine Jo (YQ x).toArray C m S ?_;rw[←d.out]))
    go_roundw
    case rel=>
     refine⟨kk+1,by omega,by go_num,D (fun j y g K=> ?_),z⟩
     by_cases e:j=kk
     ·subst e;rw[Z.out]at K;cases K;exact J.out
     ·exact X j y (by omega) K
    case measure=>simp[intOf];omega
  ·obtain rfl:kk=arr.length:=by omega
   clear n
   go_wp2
   go_ret
   refine⟨_,rfl,?_,i.weaken (by simp)⟩
   rw[Zlh (fun x hx=>by
    obtain⟨j,g,e⟩:=List.getElem_of_mem (I.perm.mem_iff.2 hx)
    exact X j x g (by rw[Xa g,e]))]
   exact(Yg _ _ _ _).upd H i (by simp)
theorem ZhY {most last:Int} (h:Y9 b most last l w F) (hl:l.length≤1000000) (hm:most≤l.length) (due:Nat) (tag:Int):
  Calls Tryz.prog 128 #[.pointer (some ⟨b,0,none⟩), .int .u64 due, .int .i64 tag] w fun e w'=>e= .returned (.tuple #[.int .i64 0, .int .i64 10])∧Zg [] w w':=by
 obtain⟨g,i,v,G,rfl,k,a,d⟩:=h
 have j:=i.length
 obtain⟨A,c,rfl,n⟩:=d.form'
 rw[Xb]at a n d
 have p:=Jc 0 a
 have q:=Jc 1 a
 have m:most≤(g.length:Int):=by omega
 have o:decide (most≤(g.length:Int))=true:=decide_eq_true m
 clear a d k i j hm
 go_enter Tryz.func128,Tryz.ntmps128
 go_upto_region 3 with fail
 go_quiet (fail)
 go_wp2_with fail
 go_ret2
 exact⟨rfl,(Zg.refl _ _).drewN _⟩
theorem ZoE {most last:Int} (h:Y9 b most last l w F) (hl:l.length≤999999) (hm:(l.length:Int)<most) (due:Nat) (tag:Int) (h0:0≤last) (h1:last≤1000000000000):
  Calls Tryz.prog 128 #[.pointer (some ⟨b,0,none⟩), .int .u64 due, .int .i64 tag] w fun e w'=>e= .returned (.tuple #[.int .i64 (last+1), .int .i64 0])∧∃F',Y9 b most (last+1) (l++[⟨due,last+1,tag⟩]) w' F'∧Zi w w' F F':=by
 obtain⟨d,X,v,G,hF,aa,n,E⟩:=h
 have ai:=X.length
 obtain⟨A,c,rfl,hc⟩:=E.form'
 rw[Xb]at n hc E
 have c0:=Jc 0 n
 have c1:=Jc 1 n
 have hz:¬most≤(d.length:Int):=by omega
 have az:decide (most≤(d.length:Int))=false:=decide_eq_false hz
 have aw:d.length≤999999:=by omega
 have HA:=D X;have HB:=D n;have HR:=D E;have N:=D aa;have HF:=D hF
 have O:=D (And.intro h0 h1)
 have af:=D (Jg n)
 clear n E aa X ai hm h0 h1 hF
 go_enter Tryz.func128,Tryz.ntmps128
 go_upto_region 3 with fail
 go_quiet (fail)
 generalize hwq:w.drewN _=wq
 have C:Zg [] w wq:=by rw[←hwq];exact(Zg.refl [] w).drewN _
 have s:wq.heap[b]? =some (.cells #[.slice A d.length c, .int .i64 most, .int .i64 last] 131 (0,0)):=(C.block b af (by simp)).trans HB.out
 have Z:=ZaM ⟨b,2,none⟩ last 1 wq (Zc (i:=2) s rfl) (Zk s) O.out.1 O.out.2 (by omega) (by omega)
 have ah:=D Z
 clear hwq Z c0 c1;change Hid _ at s C
 go_wp2_with fail
 refine ah.out.mono ?_
 rintro e1 p ⟨rfl,L⟩
 have z:p.heap[b]? =some (.cells #[.slice A d.length c, .int .i64 most, .int .i64 (last+1)] 131 (0,0)):=by rw[L];exact Ze (i:=2) s _
 have J:Zg [b] wq p:=by rw[L];exact(Zg.refl _ _).setCell (.inr (by simp)) _
 have ae:=(Zd _ _ _ _).upd ((Zd _ _ _ _).upd HR C (by simp)) J (fun k a hm=>by rw[Jm hm]at a;exact N a)
 obtain⟨T,x⟩:=Je (p.alloc (.cells #[.int .u64 (due:Int), .int .i64 (last+1), .int .i64 tag] 239))
 have q:=Ja x
 have ap:=D (show Zb T p.heap.size 0 (YQ ⟨due,last+1,tag⟩)by rw[x];exact Zb.of_block (Za _))
 have ag:=D ((q.block b (Jg z) (by simp)).trans z)
 have an:=D ((Zd _ _ _ _).upd ae q (by simp))
 have Q:=D (show Zg [b] w T from((C.weaken (by simp)).trans J (fun k a=> .inr a)).trans q (by simp))
 have ar:=Jc 0 z
 clear L z J ae q;change Hid _ at x
 go_upto_region 7 with(rw[←x.out];refine Zn T rfl (.tmp 29) (.tmp 34) 129 rfl 239 Tryz.underlying129 ZoG rfl (by omega) (by omega) _ (d.map YQ) G rfl an p.heap.size 1 (YQ ⟨due,last+1,tag⟩) rfl ap rfl (Zcm _) (by rw[Xb];omega) ?_;intro v' W G' m K ac;obtain⟨A',V,e7,-⟩:=m.form';rw[Xd,Xb,List.length_singleton]at e7;subst e7;have M:=D ((K.block b (Jg ag) N).trans ag);have c7:=Jc 0 M.out;have f7:W.frozen? ⟨b,0,none⟩=false:=Zk M.out;have ao:=D m;have am:=D K;have ab:=D ac;clear m K ac)
 obtain⟨H,r⟩:=Je (W.setCell ⟨b,0,none⟩ (.slice A' (d.length+1) V))
 obtain⟨I,o⟩:=Je (d++[⟨due,last+1,tag⟩])
 have y:I.length=d.length+1:=by rw[o];simp
 have m:=ao.out
 have Y:b∉G':=fun hm=>by
  rcases ab b hm with h|h
  ·exact N h
  ·have:=Q.size;have:=af.out;omega
 obtain⟨j,rfl,al⟩:∃j,A'=some ⟨j,0,none⟩∧G'=[j]:=by
  rcases m.form with⟨_,h0,_⟩|⟨g,ay,_,h1,h2,_⟩
  ·simp at h0
  ·injection h1 with h1;exact⟨g,h1,h2⟩
 subst al
 have P:Zg [b] W H:=by rw[r];exact(Zg.refl _ _).setCell (.inr (by simp)) _
 have R:b≠j:=by simpa using Y
 have S:ZbG b j V most (last+1) I H:=⟨by rw[r,Ze M,y];rfl,by
  have h9:=(Zd _ _ _ _).upd m P (fun k a=>by simp at a⊢;omega)
  rw[y,o,Xs]
  exact h9,R⟩
 have ad:UpT I d.length:=by rw[o];exact ZnB HA.heap _
 have hq:=Zky S (by omega) d.length (by omega) ad
 have av:((d.length:Int)+1)-1=(d.length:Int):=by omega
 have ax:H.cell? ⟨b,0,none⟩=some (.slice (some ⟨j,0,none⟩) (d.length+1) V):=by
  have:=Zc (i:=0) S.blk rfl
  rw[y]at this;exact this
 have HQ:=D hq;have au:=D R
 have HG:=D (show Zi w H F [b,j]from⟨by
   rw[HF.out]
   exact((Q.weaken (fun k a=> .inr (by simp at a;simp[a]))).trans am (fun k a=> .inr (by simp[a]))).trans P (fun k a=> .inr (by simp at a;simp[a])),fun k a=>by
   rw[HF.out]
   rcases List.mem_cons.1 a with rfl|a
   ·exact .inl (by simp)
   ·rcases ab k a with h|h
    ·exact .inl (by simp[h])
    ·right;have:=Q.size;omega⟩)
 clear m Y P R S ad hq c7 f7;change Hid _ at r o y
 rw[←r.out]
 go_wp2_with fail
 refine HQ.out.mono ?_
 rintro e9 w9 ⟨v9,rfl,aq,hp,hh,ht,hu⟩
 have aj:=D (show Y9 b most (last+1) (l++[⟨due,last+1,tag⟩]) w9 [b,j]from ht.wheel (HA.arm rfl O.out.1 (by rw[←o.out];exact hp) hh))
 have ak:=D hu
 clear hp hh ht hu
 go_wp2_with fail
 go_ret2
 exact⟨rfl,_,aj.out,HG.trans ⟨ak.weaken (fun k a=> .inr (by simp at a;simp[a])),fun k a=> .inl a⟩⟩
end Go.Proofs.YtbgbeddbfaopgaaGreatDoor
