import Derived.Laws.StructEq
import Derived.Test.YtbgbeddbfaopgaaGreatDoorZ7
set_option linter.all false
set_option maxHeartbeats 16000000
set_option maxRecDepth 100000
set_option autoImplicit true
set_option relaxedAutoImplicit true
namespace Go.Proofs.YtbgbeddbfaopgaaGreatDoor
open Go.RowKit Go.Lk
theorem Zeq:(Tryz.prog.info? 272).map (fun i=>(i.zero,i.size,i.bytes))=some (some (.agg #[.string ⟨#[]⟩, .string ⟨#[]⟩, .bool false, .string ⟨#[]⟩, .string ⟨#[]⟩, .int .u64 0]),6,80):=by kernel_rfl
theorem ZcO:Zu Tryz.prog 272 6=true:=by kernel_rfl
theorem ZlW:(Tryz.prog.info? 272).map (fun i=>(i.size,i.bytes))=some (6,80):=by kernel_rfl
theorem Zim {α:Type} (enc:α→List Value) (p:α→Bool) (g:FuncId) (lb:Array Value) {l:List α}
  (h:Zj 272 6 v (l.map enc) w F) (eg:∀args w,(callFunc g args).run Tryz.prog w= .ok (.enter g args) w)
  (hp:∀(W:World) (x:α),x∈l→Zg [] w W→Calls Tryz.prog g (#[.agg (enc x).toArray]++lb) W fun e w'=>e= .returned (.bool (p x))∧Zg [] W w'):
  Calls Tryz.prog 240 #[v, .func (.func g) #[] lb] w fun e w'=>e= .returned (.int .i64 (YL p l))∧Zg [] w w':=by
 obtain⟨A,c,rfl,O,o⟩:=h.lies
 have G:=h.2.1
 have i:=h.le
 rw[Xb]at O i⊢
 have K:=D G;have N:=D hp;have M:=D o
 have P:l.length≤9223372036854775807:=by unfold maxLen at i;omega
 clear h G hp o i
 go_enter Tryz.func240,Tryz.ntmps240
 go_wp2
 go_loopw[5,8] (fun _ s8 wr=>∃kk:Nat,kk≤l.length∧s8= .int .i64 kk∧Hid (Zg [] w wr)∧Hid (∀(j:Nat) (x:α),j<kk→l[j]? =some x→p x=false)) (fun _ s8 _=>l.length-(intOf s8).toNat)
 case atStart=>exact⟨0,Xn _,rfl,D (Zg.refl [] w),D (fun j x C=>absurd C (Nat.not_lt_zero _))⟩
 case round=>
  obtain⟨kk,Q,rfl,d,m⟩:=hrel
  by_cases z:kk<l.length
  ·obtain⟨x,hx⟩:∃x,l[kk]? =some x:=⟨_,Xa z⟩
   have k:=Xc hx
   obtain⟨S,rfl,r⟩:=M.out kk (enc x) (by rw[Xe,hx];rfl)
   have J:=D (r.upd d (by simp))
   have I:=D (show(enc x).length=6 from K.out (enc x) (List.mem_map.2 ⟨x,k,rfl⟩))
   have H:=D (show Zu Tryz.prog 272 (enc x).length=true by rw[I.out];exact ZcO)
   have E:=D hx
   have L:=D (N.out wr x k d)
   obtain⟨b,a⟩:=Je (p x)
   clear hx r k;change Hid _ at a
   go_wp2_with(refine Js J H ?_)
   refine L.out.mono ?_
   rintro e R ⟨rfl,q⟩
   rw[←a.out]
   have s:=Jt d q
   clear q
   cases b with
   |true=>
    go_wp2
    go_ret
    refine⟨?_,s.out⟩
    rw[Zao z (by rw[E.out]) a.symm m.out];rfl
   |false=>
    go_wp2
    go_roundw
    case rel=>
     refine⟨kk+1,by omega,by go_num,s,D (fun j y C n=> ?_)⟩
     by_cases e:j=kk
     ·subst e;rw[E.out]at n;cases n;exact a.symm
     ·exact m j y (by omega) n
    case measure=>simp[intOf];omega
  ·obtain rfl:kk=l.length:=by omega
   go_wp2
   go_ret
   refine⟨?_,d.out⟩
   rw[YY m.out];rfl
theorem Zm6 {α:Type} (enc:α→List Value) (p:α→Bool) (g:FuncId) (lb:Array Value) (I:List α→YG) (hI:∀d,(I d).Local) {l:List α}
  (h:Zj 272 6 v (l.map enc) w F) (h0:I [] w G) (hFG:Z8 F G) (eg:∀args w,(callFunc g args).run Tryz.prog w= .ok (.enter g args) w)
  (hp:∀(W:World) (G1:List Nat) (d r:List α) (x:α),l=d++x::r→I d W G1→Zg (F++G) w W→Calls Tryz.prog g (#[.agg (enc x).toArray]++lb) W fun e w'=>e= .returned (.bool (p x))∧∃G',I (d++[x]) w' G'∧Zi W w' G1 G'):
  Calls Tryz.prog 240 #[v, .func (.func g) #[] lb] w fun e w'=>e= .returned (.int .i64 (YL p l))∧∃G',I (ZcL p l) w' G'∧Zi w w' G G':=by
 obtain⟨A,c,rfl,hc,J⟩:=h.lies
 have n:=h.2.1
 have q:=h.le
 have Q:=h.foot
 rw[Xb]at hc q⊢
 have Y:=D n;have HP:=D hp;have HL:=D J;have HI:=D hI;have HF:=D Q;have T:=D hFG;have X:=D h0
 have aa:l.length≤9223372036854775807:=by unfold maxLen at q;omega
 clear h n hp J q hI Q hFG h0
 go_enter Tryz.func240,Tryz.ntmps240
 go_wp2
 go_loopw[5,8] (fun _ s8 wr=>∃(kk:Nat) (G':List Nat),kk≤l.length∧s8= .int .i64 kk∧Hid (I (l.take kk) wr G'∧Zi w wr G G')∧Hid (∀(j:Nat) (x:α),j<kk→l[j]? =some x→p x=false)) (fun _ s8 _=>l.length-(intOf s8).toNat)
 case atStart=>exact⟨0,G,Xn _,rfl,D ⟨X,Zi.refl w G⟩,D (fun j x O=>absurd O (Nat.not_lt_zero _))⟩
 case round=>
  obtain⟨kk,G',ac,rfl,a,i⟩:=hrel
  by_cases z:kk<l.length
  ·obtain⟨x,hx⟩:∃x,l[kk]? =some x:=⟨_,Xa z⟩
   have N:=Xc hx
   obtain⟨C,rfl,K⟩:=HL.out kk (enc x) (by rw[Xe,hx];rfl)
   have M:C∉G:=T.out C (HF.out C rfl)
   have V:=D (K.upd a.out.2.upd M)
   have S:=D (show(enc x).length=6 from Y.out (enc x) (List.mem_map.2 ⟨x,N,rfl⟩))
   have R:=D (show Zu Tryz.prog 272 (enc x).length=true by rw[S.out];exact ZcO)
   have E:=D hx
   have Z:=D (HP.out wr G' (l.take kk) (l.drop (kk+1)) x (Zcp hx) a.out.1 (a.out.2.upd.weaken (fun k n=> .inr (List.mem_append_right _ n))))
   have HT:=D (ZY hx)
   obtain⟨b,m⟩:=Je (p x)
   clear hx K N M;change Hid _ at m
   go_wp2_with(refine Js V R ?_)
   refine Z.out.mono ?_
   rintro e P ⟨rfl,o,s⟩
   rw[←m.out]
   have L:=D (show I (l.take (kk+1)) P o∧Zi w P G o by rw[HT.out];exact⟨s.1,a.out.2.trans s.2⟩)
   clear s
   cases b with
   |true=>
    go_wp2
    go_ret
    refine⟨?_,o,?_⟩
    ·rw[Zao z (by rw[E.out]) m.symm i.out];rfl
    ·rw[Zgv z E m.symm i.out];exact L.out
   |false=>
    go_wp2
    go_roundw
    case rel=>
     refine⟨kk+1,o,by omega,by go_num,L,D (fun j y O H=> ?_)⟩
     by_cases e:j=kk
     ·subst e;rw[E.out]at H;cases H;exact m.symm
     ·exact i j y (by omega) H
    case measure=>simp[intOf];omega
  ·obtain rfl:kk=l.length:=by omega
   go_wp2
   go_ret
   refine⟨?_,G',?_⟩
   ·rw[YY i.out];rfl
   ·rw[Zfc i.out];rw[Xm]at a;exact a.out
theorem ZmD {α:Type} (enc:α→List Value) (p:α→Bool) (g:FuncId) (lb:Array Value) (I:List α→YG) (hI:∀d,(I d).Local) {l:List α}
  (h:Zj 272 6 v (l.map enc) w F) (h1:∀x,∀u∈enc x,u.oneCell'=true) (h0:I [] w G) (hFG:Z8 F G) (eg:∀args w,(callFunc g args).run Tryz.prog w= .ok (.enter g args) w)
  (hp:∀(W:World) (G1:List Nat) (d r:List α) (x:α),l=d++x::r→I d W G1→Zg (F++G) w W→Calls Tryz.prog g (#[.agg (enc x).toArray]++lb) W fun e w'=>e= .returned (.bool (p x))∧∃G',I (d++[x]) w' G'∧Zi W w' G1 G'):
  Calls Tryz.prog 342 #[v, .func (.func g) #[] lb] w fun e w'=>∃v',e= .returned v'∧Zj 272 6 v' ((l.filter fun x=> !p x).map enc) w' F∧∃G',I l w' G'∧Z8 F G'∧Zg (F++G) w w'∧∀k∈G',k∈G∨w.heap.size≤k:=by
 have ei:∀args w,(callFunc 240 args).run Tryz.prog w= .ok (.enter 240 args) w:=enters_of Tryz.func240 (by kernel_rfl) rfl
 have hx:=Zm6 enc p g lb I hI h h0 hFG eg hp
 have ap:=(Zd 272 6 v (l.map enc)).lt h
 have s:=D hx;have HH:=D h;have M:=D hFG
 cases hq:l.findIdx? p with
 |none=>
  have ar:l.filter (fun x=> !p x)=l:=by
   rw[List.filter_eq_self];intro x R;rw[List.findIdx?_eq_none_iff]at hq;rw[hq x R];rfl
  have J:ZcL p l=l:=by unfold ZcL;rw[hq]
  rw[Yo hq,J]at hx
  rw[ar]
  have s:=D hx
  clear hx hq ar J h h0 hFG hp
  go_enter Tryz.func342,Tryz.ntmps342
  go_wp2_with fail
  refine s.out.mono ?_
  rintro e w1 ⟨rfl,G1,K⟩
  have o:=D K;clear K
  go_wp2_with fail
  go_ret
  refine⟨v,rfl,(Zd _ _ _ _).upd HH o.out.2.upd M,G1,o.out.1,?_,o.out.2.upd.weaken (fun k a=> .inr (by simp[a])),o.out.2.new⟩
  intro k a q
  rcases o.out.2.new k q with m|m
  ·exact M k a m
  ·have:=ap k a;omega
 |some i0=>
  have aQ:=Yv hq
  obtain⟨vg,cap,rfl,ay⟩:∃vg cap,v= .slice (some ⟨vg,0,none⟩) l.length cap∧F=[vg]:=by
   rcases h.form with⟨_,V,_⟩|⟨g',aK,P,V,e2,_⟩
   ·rw[List.map_eq_nil_iff]at V;subst V;simp at aQ
   ·exact⟨g',aK,by rw[V,Xb],e2⟩
  have J:ZcL p l=l.take (i0+1):=by unfold ZcL;rw[hq]
  rw[Yw hq,J]at hx
  have s:=D hx
  have aR:=D (ZbF.start hq)
  have aB:=D ay;have H1:=D h1;have HP:=D hp;have S:=D hI
  have aa:=h.le
  rw[Xb]at aa
  have a3:l.length≤9223372036854775807:=by unfold maxLen at aa;omega
  have a1:((i0:Int)== -1)=false:=beq_eq_false_iff_ne.2 (by omega)
  clear hx hq J h h0 hFG hp ay hI aa h1
  go_enter Tryz.func342,Tryz.ntmps342
  go_wp2_with fail
  refine s.out.mono ?_
  rintro e w1 ⟨rfl,G1,K⟩
  have o:=D K;clear K
  have aS:=D (show Z8 F G1 from fun k a q=>by
   rcases o.out.2.new k q with m|m
   ·exact M k a m
   ·have:=ap k a;omega)
  have aT:=D ((Zd _ _ _ _).upd HH o.out.2.upd M)
  go_wp2_with fail
  go_loopw[5,6,7] (fun s5 s6 _ wr=>∃(i j:Nat) (dk:List α) (G':List Nat),s5= .int .i64 i∧s6= .int .i64 j∧j≤l.length∧i<j∧Hid (ZbF p l j i dk)∧Hid (I (l.take j) wr G'∧Z8 F G'∧Zg (F++G) w wr∧∀k∈G',k∈G∨w.heap.size≤k)∧Hid (Zj 272 6 (.slice (some ⟨vg,0,none⟩) l.length cap) (dk.map enc) wr F)) (fun _ s6 _ _=>l.length-(intOf s6).toNat)
  case atStart=>exact⟨i0,i0+1,l,G1,rfl,by go_num,by omega,by omega,aR,D ⟨o.out.1,aS.out,o.out.2.upd.weaken (fun k a=> .inr (by simp[a])),o.out.2.new⟩,aT⟩
  case round=>
   obtain⟨i,j,dk,G',rfl,rfl,aZ,aY,y,n,H⟩:=hrel
   by_cases aj:j<l.length
   ·obtain⟨x,hx⟩:∃x,l[j]? =some x:=⟨_,Xa aj⟩
    obtain⟨b,T⟩:=Je (p x)
    have ad:(dk.map enc)[j]? =some (enc x):=by rw[Xe,y.get,hx];rfl
    have aF:=H.liesAt ad
    have ah:=D (show(enc x).length=6 from H.out.2.1 _ (Xc ad))
    have s:=D hx;have aW:=D aF
    clear hx aF ad;change Hid _ at T
    have Q:=D (show Zu Tryz.prog 272 (enc x).length=true by rw[ah.out];exact ZcO)
    have ao:=D (show Zu Tryz.prog 272 (enc x).toArray.size=true by rw[List.size_toArray];exact Q)
    have HZ:=D (show(#[.string ⟨#[]⟩, .string ⟨#[]⟩, .bool false, .string ⟨#[]⟩, .string ⟨#[]⟩, .int .u64 0]:Array Value).size=(enc x).toArray.size from(by rw[List.size_toArray,ah.out]:6=(enc x).toArray.size))
    have HO:=D (show(enc x).toArray.all (·.oneCell')=true from by rw[Xl,Xk];exact H1 x)
    have aD:=D (Za (w:=wr) (.cells #[.string ⟨#[]⟩, .string ⟨#[]⟩, .bool false, .string ⟨#[]⟩, .string ⟨#[]⟩, .int .u64 0] 272 (0,0)))
    obtain⟨X,N⟩:=Je ((wr.alloc (.cells #[.string ⟨#[]⟩, .string ⟨#[]⟩, .bool false, .string ⟨#[]⟩, .string ⟨#[]⟩, .int .u64 0] 272 (0,0))).setRow wr.heap.size (enc x).toArray)
    have ac:X.heap[wr.heap.size]? =some (.cells (enc x).toArray 272 (0,0)):=by rw[N];exact setRow_heap _ _ _ _ _ _ aD.out
    have L:Zg [] wr X:=by rw[N];exact((Zg.refl [] wr).alloc _).setRow (.inl (Xi _)) _
    have ax:=D ac;have O:=D L
    have aN:=D (show Zb X wr.heap.size 0 (enc x)from Zb.of_block ac)
    have aI:=D (HP.out X G' (l.take j) (l.drop (j+1)) x (Zcp s) ((S.out _).upd n.out.1 L (by simp)) (n.out.2.2.1.trans_of' L))
    clear ac L;change Hid _ at N
    go_wp2_with(first|refine Js aW Q ?_|(refine Zbc _ rfl 272 (.tmp 7) (.tmp 25) rfl wr.heap.size (enc x).toArray #[.string ⟨#[]⟩, .string ⟨#[]⟩, .bool false, .string ⟨#[]⟩, .string ⟨#[]⟩, .int .u64 0] 272 rfl rfl ao aD HZ HO ?_;rw[←N.out])|refine Jl aN Q ?_)
    refine aI.out.mono ?_
    rintro e E ⟨rfl,Y,ag,C⟩
    rw[←ZY s.out]at ag
    rw[←T.out]
    have ak:wr.heap.size∉G':=fun R=>by have:=(S.out _).lt n.out.1 _ R;omega
    have av:E.heap[wr.heap.size]? =some (.cells (enc x).toArray 272 (0,0)):=(C.upd.block _ (Jg ax) ak).trans ax.out
    have an:=(Zd _ _ _ _).upd ((Zd _ _ _ _).upd H O (by simp)) C.upd n.out.2.1
    have aq:Z8 F Y:=fun k a q=>by
     rcases C.new k q with m|m
     ·exact n.out.2.1 k a m
     ·have:=(Zd _ _ _ _).lt H k a;have:=O.size;omega
    have al:Zg (F++G) w E:=(n.out.2.2.1.trans_of' O).trans C.upd (fun k a=>by rcases n.out.2.2.2 k a with m|m<;>simp[m])
    have am:∀k∈Y,k∈G∨w.heap.size≤k:=fun k a=>by
     rcases C.new k a with m|m
     ·exact n.out.2.2.2 k m
     ·right;have:=n.out.2.2.1.size;have:=O.size;omega
    have aV:=D (show Zb E wr.heap.size 0 (enc x)from Zb.of_block av)
    have aH:=D an;have z:=D (And.intro ag (And.intro aq (And.intro al am)))
    clear ag C ak av an aq al am
    cases b with
    |true=>
     go_wp2
     go_roundw
     case rel=>exact⟨i,j+1,dk,Y,rfl,by go_num,by omega,by omega,D (y.skip s T.symm),z,aH⟩
     case measure=>simp[intOf];omega
    |false=>
     have aG:i<(dk.map enc).length:=by rw[Xb,y.len];omega
     obtain⟨P,aw,aE,au⟩:=Ze9 aH aG ah.out
     have aA:=D aw;have aP:=D aE;have aJ:=D au
     clear aG aw aE au
     go_wp2_with(first|refine Jl aV Q ?_|refine ZbU _ rfl 272 (.tmp 33) (.tmp 32) rfl vg (i*6) (enc x).toArray P 272 (by simp[Act.eval,Act.put]) rfl ao aA aP HO ?_)
     go_roundw
     case rel=>
      have az:∀c,Zg F E (E.setRow vg c):=fun c=>(Zg.refl F E).setRow (.inr (by rw[aB.out];simp)) _
      refine⟨i+1,j+1,dk.set i x,Y,by go_num,by go_num,by omega,by omega,D (y.keep s T.symm),D ⟨(S.out _).upd z.out.1 (az _) (fun k a q=>z.out.2.1 k q a),z.out.2.1,z.out.2.2.1.trans (az _) (fun k a=> .inr (List.mem_append_left _ a)),z.out.2.2.2⟩,D ?_⟩
      rw[List.map_set]
      refine aJ _ ?_
      rw[setRow_heap _ _ _ _ _ _ aA.out]
      simp[Yl]
     case measure=>simp[intOf];omega
   ·obtain rfl:j=l.length:=by omega
    obtain⟨ae,ab⟩:=Zbz (zs:=[.string ⟨#[]⟩, .string ⟨#[]⟩, .bool false, .string ⟨#[]⟩, .string ⟨#[]⟩, .int .u64 0]) (l.length-i) (by simp) (by simp[Value.oneCell'])
    obtain⟨zs,ai⟩:=Je ((Builtin.zeroCells ([.string ⟨#[]⟩, .string ⟨#[]⟩, .bool false, .string ⟨#[]⟩, .string ⟨#[]⟩, .int .u64 0]:List Value).toArray (l.length-i)).toList)
    rw[←ai]at ae ab
    have aC:zs.length=(l.length-i)*6:=ae
    obtain⟨P,hn,_,hb,hc,R,hs,_⟩:=H.block
    rw[Xb]at hc
    have aO:=y.len
    have aU:i*6+zs.length≤cap*6:=by rw[aC];omega
    have a2:∀ty,(Builtin.clear_ #[126] ty #[.slice (some ⟨vg,i*6,none⟩) (l.length-i) (cap-i)]).run Tryz.prog wr= .ok (.tuple #[]) (wr.setCells vg (i*6) zs):=fun ty=>by
     refine Yn wr _ _ ty _ zs Tryz.underlying126 (fun w=> Tryz.zeroValue272 w) vg _ _ _ (by omega) (by rw[ai];rfl) ab (fun t m=> ?_) (fun t m=>Zk hb)
     have aj:i*6+t<P.size:=by omega
     rw[Zc hb (Array.getElem?_eq_getElem aj)];rfl
    have Z:=Zfe H (i:=i) (by rw[Xb];omega) zs aU rfl
    rw[←List.map_take,y.done]at Z
    have aL:(l.filter fun x=> !p x).length=i:=by rw[←y.done,List.length_take];omega
    have aM:=D Z
    have af:Zg F wr (wr.setCells vg (i*6) zs):=(Zg.refl F wr).setCells (.inr (by rw[aB.out];simp)) _ _
    have a0:i≤cap:=by omega
    have aX:¬cap=i:=by omega
    clear hn hb hs Z aL ai aC ae ab aO;change Hid _ at af
    go_wp2
    go_ret
    refine⟨_,rfl,aM.out,G',?_,n.out.2.1,n.out.2.2.1.trans af (fun k a=> .inr (List.mem_append_left _ a)),n.out.2.2.2⟩
    have:=n.out.1
    rw[Xm]at this
    exact(S.out _).upd this af (fun k a q=>n.out.2.1 k q a)
theorem ZmS {g cap i j:Nat} (hj:j=i+1) {xs:List (List Value)} (h:Zj 272 6 (.slice (some ⟨g,0,none⟩) xs.length cap) xs w F) (h1:∀u∈xs.flatten,u.oneCell'=true) (hi:i<xs.length):
  Calls Tryz.prog 244 #[.slice (some ⟨g,0,none⟩) xs.length cap, .int .i64 i, .int .i64 j] w fun e w'=>e= .returned (.slice (some ⟨g,0,none⟩) (xs.length-1:Nat) cap)∧
   Zj 272 6 (.slice (some ⟨g,0,none⟩) (xs.length-1) cap) (xs.eraseIdx i) w' [g]∧Zg [g] w w':=by
 obtain⟨k,_,_,m,o,G,K,ht⟩:=h.block
 obtain⟨T,O,P,ad⟩:=Zcb ZlW
 have Q:=ZG h.2.1
 obtain⟨a,n⟩:=Je ((xs.drop j).flatten)
 have d:a.length=(xs.length-j)*6:=by rw[n,ZG (fun c o=>h.2.1 c (List.mem_of_mem_drop o)),List.length_drop]
 have H:∀t,t<cap*6→(w.drew.cell? ⟨g,t,none⟩).isSome=true∧w.drew.frozen? ⟨g,t,none⟩=false:=fun t h1=>by
  have x:t<k.size:=by omega
  refine⟨?_,Zk (w:=w) m⟩
  show(w.cell? _).isSome=true
  rw[Zc m (Array.getElem?_eq_getElem x)];rfl
 obtain⟨A,hA,M⟩:∃A:Addr,(if cap=j then(some (⟨g,0,none⟩:Addr))else some ⟨g,j*6,none⟩)=some A∧Hid (∀t u,a[t]? =some u→w.drew.cell? (A.add t)=some u):=by
  by_cases e:cap=j
  ·refine⟨⟨g,0,none⟩,by rw[if_pos e],D (fun t u b=> ?_)⟩
   have V:a.length=0:=by rw[d,show xs.length-j=0 by omega,Nat.zero_mul]
   rw[List.length_eq_zero_iff.1 V]at b;simp at b
  ·refine⟨⟨g,j*6,none⟩,by rw[if_neg e],D (fun t u b=> ?_)⟩
   rw[add_plain]
   refine Zc (w:=w) m ?_
   rw[n,←ZaH h.2.1,List.getElem?_drop,←ht,List.getElem?_take]at b
   split at b
   ·simpa using b
   ·cases b
 have s2:Hid (∀u∈a,u.oneCell'=true):=D (fun u b=>h1 u (by rw[n]at b;obtain⟨c,o,b⟩:=List.mem_flatten.1 b;exact List.mem_flatten.2 ⟨c,List.mem_of_mem_drop o,b⟩))
 have s1:Hid (a.length=(xs.length-j)*6):=D d
 have N:xs.length*6≤cap*6:=Nat.mul_le_mul_right _ o
 have s3:Hid (∀t,t<a.length→(w.drew.cell? ⟨g,0+i*6+t,none⟩).isSome=true∧w.drew.frozen? ⟨g,0+i*6+t,none⟩=false):=D (fun t r=>H _ (by rw[d]at r;omega))
 obtain⟨p,s⟩:=Je (w.drew.setCells g (0+i*6) a)
 obtain⟨l,q⟩:∃l:List Value,l=[.string ⟨#[]⟩, .string ⟨#[]⟩, .bool false, .string ⟨#[]⟩, .string ⟨#[]⟩, .int .u64 0]:=⟨_,rfl⟩
 have z:l.length=6:=by rw[q];rfl
 have y:p.heap[g]? =some (.cells (Yl k.toList (0+i*6) a).toArray 272 (0,0)):=by rw[s];exact Ys a (0+i*6) w.drew k m (by rw[d];omega)
 have J:(Yl k.toList (0+i*6) a).length=cap*6:=by rw[YW _ _ _ (by rw[d];simp;omega)];simpa using K
 have ab:∀C,(Builtin.clear_ #[126] C #[.slice (some ⟨g,(i+(xs.length-j))*6,none⟩) (xs.length-(i+(xs.length-j))) (cap-(i+(xs.length-j)))]).run Tryz.prog p= .ok (.tuple #[]) (p.setCells g ((i+(xs.length-j))*6) l):=fun C=>by
  have E:xs.length-(i+(xs.length-j))=1:=by omega
  rw[E]
  refine Yn p _ _ C _ l Tryz.underlying126 (fun w=> Tryz.zeroValue272 w) g _ 1 _ (by omega) (by rw[q];exact ZaQ) (by rw[q];simp[Value.oneCell']) (fun t r=> ?_) (fun t r=>Zk y)
  rw[z]at r
  have x:(i+(xs.length-j))*6+t<(Yl k.toList (0+i*6) a).length:=by rw[J];omega
  rw[Zc y (v:=(Yl k.toList (0+i*6) a)[(i+(xs.length-j))*6+t]) (by rw[Xh,Xa x])];rfl
 have L:Hid (p=w.drew.setCells g (0+i*6) a):=D s
 have I:=D (Zb9 h hi 1 l z rfl)
 rw[←hj,←n]at I
 have Z:i<j:=by omega
 have X:j≤xs.length:=by omega
 have W:¬i=j:=by omega
 have R:=D hj
 have Y:i≤cap:=by omega
 have aa:j≤cap:=by omega
 have ac:cap≤9223372036854775807:=by unfold maxLen at G;exact G
 clear hj s y J q z H m K ht Q d h h1 N G;change Hid _ at n
 go_enter Tryz.func244,Tryz.ntmps244
 go_wp2_with fail
 go_region_law (refine step_append_room rfl (.tmp 22) (.tmp 25) 126 rfl 272 T 6 Tryz.underlying126 O P g 0 i cap (by simp[Act.eval,Act.put]) A (xs.length-j) (cap-j) a (by simp[Act.eval,Act.put]) s1.out M.out s2.out (by omega) s3.out ?_;rw[←L.out])
 go_wp2
 go_ret
 have E:i+(xs.length-j)=xs.length-1:=by have:=R.out;omega
 have S:=I.out
 rw[L.out,Nat.zero_add,E]
 exact⟨rfl,S⟩
theorem Zn5 {g cap i:Nat} {xs:List (List Value)} (h:Zj 272 6 (.slice (some ⟨g,0,none⟩) xs.length cap) xs w F) (h1:∀u∈xs.flatten,u.oneCell'=true) (hi:i<xs.length):
 Calls Tryz.prog 244 #[.slice (some ⟨g,0,none⟩) xs.length cap, .int .i64 i, .int .i64 ((i:Int)+1)] w fun e w'=>e= .returned (.slice (some ⟨g,0,none⟩) (xs.length-1:Nat) cap)∧
  Zj 272 6 (.slice (some ⟨g,0,none⟩) (xs.length-1) cap) (xs.eraseIdx i) w' [g]∧Zg [g] w w':=ZmS rfl h h1 hi
def YC (c:ZeC):List Value:=[.string ⟨c.origin.toArray⟩, .string ⟨c.url.toArray⟩, .bool c.creds]
def Zo (e:Zr):List Value:=YC e.cell++[.string ⟨e.method.toArray⟩, .string ⟨e.header.toArray⟩, .int .u64 e.until_]
theorem ZbA (x:Zr):∀u∈Zo x,u.oneCell'=true:=by
 intro u a;simp only[Zo,YC,List.cons_append,List.nil_append,List.mem_cons,List.not_mem_nil,or_false]at a;rcases a with rfl|rfl|rfl|rfl|rfl|rfl<;>rfl
theorem ZpX (a c:ZeC) (w:World):(binOp .eql 250 (.agg (YC a).toArray) (.agg (YC c).toArray)).run Tryz.prog w= .ok (.bool (a==c)) w:=by
 have u3:= Tryz.underlying9
 have u4:= Tryz.underlying4
 have m:= Tryz.isAgg9
 have n:= Tryz.isAgg4
 have l:= Tryz.sizeOf9
 have o:= Tryz.sizeOf4
 have k: Tryz.prog.underlying 250=some (.struct (Tryz.prog.fieldsOf 250)):=by kernel_rfl
 have g: Tryz.prog.stoodInHeld 250=false:=by kernel_rfl
 simp only[YC]
 rw[run_eql_struct,show(10000:Nat)=9999+1 from rfl,run_equalIn_agg w 9999 250 _ _ k g]
 simp only[Program.fieldsOf,Tryz.underlying250]
 go_simp
 obtain⟨f,u1,e⟩:=a
 obtain⟨j,u2,h⟩:=c
 by_cases i:f=j<;>by_cases b:u1=u2<;>by_cases d:e=h<;>simp[i,b,d]
theorem Zc6 {P:Program} (w:World) {ops:Array Oper} {rest:List Oper} {o:Oper} {a:Act} {Q:Exit→Act→World→Prop} (hgd:o.guard=none) (t:TypeId) (x y:Operand) (ty:TypeId) (ho:o.op= .binOp .eql t x y ty)
  (xs ys:Array Value) (hx:a.eval x= .agg xs) (hy:a.eval y= .agg ys) (hm:P.eqGuardType P.depth t=false) (r:Bool) (hr:(binOp .eql t (.agg xs) (.agg ys)).run P w= .ok (.bool r) w)
  (h:wpList P ops Q rest (a.put o.dst (.bool r)) w):wpList P ops Q (o::rest) a w:=
 wpList_plain hgd fun K hK=>by
  unfold Oper.wp execOp
  simp only[ho,Sem.run_bind,Sem.run_pure,Result.andThen_ok,hx,hy,run_eqGuard_agg w _ t x y xs ys hm,hr]
  exact hK _ _ h
def Zj8 (e:Zr):Value:= .agg #[.string ⟨e.cell.origin.toArray⟩, .string ⟨e.cell.url.toArray⟩, .bool e.cell.creds, .string ⟨e.method.toArray⟩, .string ⟨e.header.toArray⟩, .int .u64 e.until_]
theorem Zgs {P:Prop}(h:P:=by
 go_enter Tryz.func242,Tryz.ntmps242
 go_upto_region 1 with fail
 rw[o.out]
 go_wp2_with(first|refine Z2 _ rfl 250 (.tmp 5) rfl w.heap.size 0 (YC a.cell) (by simp[Act.eval,Act.put]) d z ?_|refine Z2 _ rfl 250 (.tmp 7) rfl (w.heap.size+1) 0 (YC c.cell) (by simp[Act.eval,Act.put]) d q ?_|refine Zc6 _ rfl 250 (.tmp 6) (.tmp 8) 250 rfl (YC a.cell).toArray (YC c.cell).toArray rfl rfl p true (k.out _) ?_)
 go_ret
 exact⟨by rw[g.out];rfl,m.out⟩):P:=h
theorem Ziw (a c:Zr) (w:World):
  Calls Tryz.prog 242 #[.agg (Zo a).toArray, .agg (Zo c).toArray] w fun e w'=>e= .returned (.bool (Zej a c))∧Zg [] w w':=by
 obtain⟨b,h⟩:=Je ((w.alloc (.cells (Zo a).toArray 272)).alloc (.cells (Zo c).toArray 272))
 have m:Zg [] w b:=by rw[h];exact((Zg.refl [] w).alloc _).alloc _
 have l:b.heap[w.heap.size]? =some (.cells (Zo a).toArray 272 (0,0)):=by rw[h,ZB _ (by simp)];exact Za _
 have n:b.heap[w.heap.size+1]? =some (.cells (Zo c).toArray 272 (0,0)):=by
  rw[h];have:=Za (w:=w.alloc (.cells (Zo a).toArray 272)) (.cells (Zo c).toArray 272);simpa using this
 have z:=D (show Zb b w.heap.size 0 (YC a.cell)from fun i u j=>by
  have:=(Zb.of_block (cs:=Zo a) l) i u (by unfold Zo;rw[List.getElem?_append_left (Jk j)];exact j);exact this)
 have q:=D (show Zb b (w.heap.size+1) 0 (YC c.cell)from fun i u j=>by
  have:=(Zb.of_block (cs:=Zo c) n) i u (by unfold Zo;rw[List.getElem?_append_left (Jk j)];exact j);exact this)
 have H:b.cell? ⟨w.heap.size,3,none⟩=some (.string ⟨a.method.toArray⟩):=Zc l rfl
 have F:b.cell? ⟨w.heap.size,4,none⟩=some (.string ⟨a.header.toArray⟩):=Zc l rfl
 have G:b.cell? ⟨w.heap.size+1,3,none⟩=some (.string ⟨c.method.toArray⟩):=Zc n rfl
 have I:b.cell? ⟨w.heap.size+1,4,none⟩=some (.string ⟨c.header.toArray⟩):=Zc n rfl
 have d:=D (show Zu Tryz.prog 250 3=true by kernel_rfl)
 have k:=D (ZpX a.cell c.cell)
 clear l n;change Hid _ at h m
 obtain⟨x,hx⟩:=Je ((a.cell==c.cell))
 obtain⟨r,s⟩:=Je (Zej a c)
 have E:=D (show r=(x&&a.method==c.method&&a.header==c.header)by rw[s,hx];rfl)
 rw[←hx]at k
 rw[←s]
 clear s hx
 have y:∀e:Zr,Value.agg (Zo e).toArray=Zj8 e:=fun e=>rfl
 rw[y,y]
 have o:(w.alloc (.cells #[.string ⟨a.cell.origin.toArray⟩, .string ⟨a.cell.url.toArray⟩, .bool a.cell.creds, .string ⟨a.method.toArray⟩, .string ⟨a.header.toArray⟩, .int .u64 a.until_] 272)).alloc (.cells #[.string ⟨c.cell.origin.toArray⟩, .string ⟨c.cell.url.toArray⟩, .bool c.cell.creds, .string ⟨c.method.toArray⟩, .string ⟨c.header.toArray⟩, .int .u64 c.until_] 272)=b:=h.symm
 clear y;change Hid _ at o
 unfold Zj8
 have p:=D (show Tryz.prog.eqGuardType Tryz.prog.depth 250=false by kernel_rfl)
 cases x with
 |true=>
  have C:=D (show r=(a.method==c.method&&a.header==c.header)by rw[E.out,Bool.true_and])
  cases hm:(a.method==c.method)with
  |true=>
   have g:=D (show r=(a.header==c.header)by rw[C.out,hm,Bool.true_and])
   exact Zgs
  |false=>
   have g:=D (show r=false by rw[C.out,hm,Bool.false_and])
   exact Zgs
 |false=>
  have g:=D (show r=false by rw[E.out,Bool.false_and,Bool.false_and])
  go_enter Tryz.func242,Tryz.ntmps242
  go_upto_region 1 with fail
  rw[o.out]
  go_wp2_with(first|refine Z2 _ rfl 250 (.tmp 5) rfl w.heap.size 0 (YC a.cell) (by simp[Act.eval,Act.put]) d z ?_|refine Z2 _ rfl 250 (.tmp 7) rfl (w.heap.size+1) 0 (YC c.cell) (by simp[Act.eval,Act.put]) d q ?_|refine Zc6 _ rfl 250 (.tmp 6) (.tmp 8) 250 rfl (YC a.cell).toArray (YC c.cell).toArray rfl rfl p false (k.out _) ?_)
  go_ret
  exact⟨by rw[g.out];rfl,m.out⟩
def Zaf (w:ZdA):List Value:=[.string ⟨w.cell.origin.toArray⟩, .string ⟨w.cell.url.toArray⟩, .bool w.cell.creds, .string ⟨w.method.toArray⟩, .string ⟨w.names.toArray⟩]
def Yd (u:Value) (s:ZH):List Value:=[.int .i64 s.num, .string ⟨s.want.cell.origin.toArray⟩, .string ⟨s.want.cell.url.toArray⟩, .bool s.want.cell.creds, .string ⟨s.want.method.toArray⟩, .string ⟨s.want.names.toArray⟩,u]
def YB (b:Nat) (last:Int) (gl:List (Value×ZH)):YG:=Zbd b (fun v=> #[v, .int .i64 last]) 140 316 7 Yd (·.members) gl
def Zcl (b:Nat) (last:Int) (l:List ZH):YG:=Zib b (fun v=> #[v, .int .i64 last]) 140 316 7 Yd (·.members) l
theorem Z9.ints (h:Z9 v l w F):∃A c,v= .slice A l.length c∧l.length≤c∧ZfM w A l:=by
 obtain⟨A,c,a,b,f⟩:=h.lies1
 rw[Xb]at a b
 refine⟨A,c,a,b,fun j x g=> ?_⟩
 obtain⟨d,i,e⟩:=f j (Zcy x) (by rw[Xe,g];rfl)
 exact⟨d,0,i,by have:=e 0 _ rfl;simpa using this⟩
theorem Zpb (u:Value) (x:ZH) (box:Nat) (num:Int) (W:World) (hc:W.cell? ⟨box,0,none⟩=some (.int .i64 num)):
  Calls Tryz.prog 298 #[.agg (Yd u x).toArray, .pointer (some ⟨box,0,none⟩)] W fun e w'=>e= .returned (.bool (x.num==num))∧Zg [] W w':=by
 have a:=ZaI hc
 have b:box≠W.heap.size:=by omega
 show Calls _ _ #[.agg #[.int .i64 x.num, .string ⟨x.want.cell.origin.toArray⟩, .string ⟨x.want.cell.url.toArray⟩, .bool x.want.cell.creds, .string ⟨x.want.method.toArray⟩, .string ⟨x.want.names.toArray⟩,u], .pointer (some ⟨box,0,none⟩)] W _
 go_enter Tryz.func298,Tryz.ntmps298
 go_wp2
 go_ret
 exact⟨rfl,(Zg.refl _ _).alloc _⟩
theorem ZkM (u:Value) (x:ZH) (box:Nat) (id:Int) (W:World) (hm:Z9 u x.members W M) (hl:x.members.length≤1000000) (hc:W.cell? ⟨box,0,none⟩=some (.int .i64 id)):
  Calls Tryz.prog 289 #[.agg (Yd u x).toArray, .pointer (some ⟨box,0,none⟩)] W fun e w'=>e= .returned (.bool (x.members.contains id))∧Zg [] W w':=by
 have k:=ZaI hc
 have n:box≠W.heap.size:=by omega
 obtain⟨A,c,rfl,m,j⟩:=hm.ints
 obtain⟨g,a⟩:=Je (W.alloc (.cells (Yd (.slice A x.members.length c) x).toArray 316))
 have b:=Ja a
 have hv:=Jh a
 have p:g.cell? ⟨W.heap.size,6,none⟩=some (.slice A x.members.length c):=Zc hv rfl
 have o:g.cell? ⟨box,0,none⟩=some (.int .i64 id):=(Xp (b.block box k (by simp))).trans hc
 have d:=Zgq A c x.members id (j.upd b (by simp)) hl
 obtain⟨r,i⟩:=Je (x.members.contains id)
 rw[←i]at d⊢
 have l:=D d
 clear d i
 have h:W.alloc (.cells #[.int .i64 x.num, .string ⟨x.want.cell.origin.toArray⟩, .string ⟨x.want.cell.url.toArray⟩, .bool x.want.cell.creds, .string ⟨x.want.method.toArray⟩, .string ⟨x.want.names.toArray⟩, .slice A x.members.length c] 316)=g:=a.symm
 clear a hv hm j hc;change Hid _ at h b
 show Calls _ _ #[.agg #[.int .i64 x.num, .string ⟨x.want.cell.origin.toArray⟩, .string ⟨x.want.cell.url.toArray⟩, .bool x.want.cell.creds, .string ⟨x.want.method.toArray⟩, .string ⟨x.want.names.toArray⟩, .slice A x.members.length c], .pointer (some ⟨box,0,none⟩)] W _
 go_enter Tryz.func289,Tryz.ntmps289
 go_upto_region 1 with fail
 rw[h.out]
 go_wp2_with fail
 refine l.out.mono ?_
 rintro e q ⟨rfl,rfl⟩
 go_wp2_with fail
 go_ret
 exact⟨rfl,b.out⟩
theorem YB.row {last:Int} {gl:List (Value×ZH)} (h:YB b last gl w F):
  ∃v G,b∉G∧w.heap[b]? =some (.cells #[v, .int .i64 last] 140 (0,0))∧Zj 316 7 v (gl.map fun p=>Yd p.1 p.2) w G∧(∀q∈b::G,q∈F):=by
 obtain⟨f,ho,d,_⟩:=Zf9 h
 obtain⟨v,G,rfl,a,c,e⟩:=ho
 exact⟨v,G,a,c,e,d⟩
theorem ZlL {last:Int} {gl:List (Value×ZH)} (h:YB b last gl w F) (num:Int):
  Calls Tryz.prog 233 #[.pointer (some ⟨b,0,none⟩), .int .i64 num] w fun e w'=>e= .returned (.int .i64 (YL (fun p=>p.2.num==num) gl))∧Zg [] w w':=by
 obtain⟨v,G,o,j,m,_⟩:=YB.row h
 obtain⟨y,c⟩:=Je (w.alloc (.cells #[.int .i64 num] 3))
 have a:=Ja c
 have g:=Jh c
 have z:y.cell? ⟨b,0,none⟩=some v:=Zc (i:=0) ((a.block b (Jg j) (by simp)).trans j) rfl
 have d:=Zd6 (fun p:Value×ZH=>Yd p.1 p.2) (fun p=>p.2.num==num) 298 #[.pointer (some ⟨w.heap.size,0,none⟩)] ((Zd _ _ _ _).upd m a (by simp)) (enters_of Tryz.func298 (by kernel_rfl) rfl) (fun W x _ q=>Zpb x.1 x.2 w.heap.size num W (Zc (i:=0) ((q.block _ (Jg g) (by simp)).trans g) rfl))
 obtain⟨r,l⟩:=Je (YL (fun p:Value×ZH=>p.2.num==num) gl)
 rw[←l]at d⊢
 have s:=D d
 clear d g j m o h l;change Hid _ at c a
 go_enter Tryz.func233,Tryz.ntmps233
 go_upto_region 1 with fail
 rw[←c.out]
 go_wp2_with fail
 refine s.out.mono ?_
 rintro e C ⟨rfl,k⟩
 have n:=Jt a k
 clear k
 go_wp2_with fail
 go_ret
 exact⟨rfl,n.out⟩
theorem Zc3 {last:Int} {gl:List (Value×ZH)} (h:YB b last gl w F) (hl:∀p∈gl,p.2.members.length≤1000000) (id:Int):
  Calls Tryz.prog 223 #[.pointer (some ⟨b,0,none⟩), .int .i64 id] w fun e w'=>e= .returned (.int .i64 (YL (fun p=>p.2.members.contains id) gl))∧Zg [] w w':=by
 obtain⟨v,G,q,j,m,_⟩:=YB.row h
 obtain⟨y,c⟩:=Je (w.alloc (.cells #[.int .i64 id] 3))
 have a:=Ja c
 have g:=Jh c
 have E:y.cell? ⟨b,0,none⟩=some v:=Zc (i:=0) ((a.block b (Jg j) (by simp)).trans j) rfl
 have d:=Zd6 (fun p:Value×ZH=>Yd p.1 p.2) (fun p=>p.2.members.contains id) 289 #[.pointer (some ⟨w.heap.size,0,none⟩)] ((Zd _ _ _ _).upd m a (by simp)) (enters_of Tryz.func289 (by kernel_rfl) rfl) (fun W x hx n=>by
  obtain⟨i,C⟩:=List.getElem?_of_mem hx
  obtain⟨M,z,_⟩:=ZcY h C
  exact ZkM x.1 x.2 w.heap.size id W ((ZS _ _).upd z (a.trans n (by simp)) (by simp)) (hl x hx) (Zc (i:=0) ((n.block _ (Jg g) (by simp)).trans g) rfl))
 obtain⟨r,l⟩:=Je (YL (fun p:Value×ZH=>p.2.members.contains id) gl)
 rw[←l]at d⊢
 have s:=D d
 clear d g j m q h l hl;change Hid _ at c a
 go_enter Tryz.func223,Tryz.ntmps223
 go_upto_region 1 with fail
 rw[←c.out]
 go_wp2_with fail
 refine s.out.mono ?_
 rintro e H ⟨rfl,k⟩
 have o:=Jt a k
 clear k
 go_wp2_with fail
 go_ret
 exact⟨rfl,o.out⟩
theorem Zea {u:Value} (hu:u.oneCell'=true) (s:ZH):∀v∈Yd u s,v.oneCell'=true:=by
 intro v hv;unfold Yd at hv
 simp only[List.mem_cons,List.not_mem_nil,or_false]at hv
 rcases hv with rfl|rfl|rfl|rfl|rfl|rfl|rfl<;>first|exact hu|rfl
def ZcI (gl:List (Value×ZH)):Nat:=(gl.map fun p=>p.2.members.length).sum
theorem Zi7 {gl:List (Value×ZH)} {k:Nat} {p:Value×ZH} (h:gl[k]? =some p):ZcI (gl.take (k+1))=ZcI (gl.take k)+p.2.members.length:=by
 have a:=(Jk h)
 unfold ZcI
 rw[Xr a,(List.getElem?_eq_some_iff.1 h).2,Xs,List.sum_append]
 simp
theorem Zq7 (gl:List (Value×ZH)) (k:Nat):ZcI (gl.take k)≤ZcI gl:=by
 have e:ZcI gl=ZcI (gl.take k)+ZcI (gl.drop k):=by
  unfold ZcI;rw[←List.sum_append,←Xs,List.take_append_drop]
 omega
theorem ZeS {last:Int} {gl:List (Value×ZH)} (h:YB b last gl w F) (hl:gl.length≤1000000) (hs:ZcI gl≤1000000):
  Calls Tryz.prog 224 #[.pointer (some ⟨b,0,none⟩)] w fun e w'=>e= .returned (.int .i64 (ZcI gl))∧Zg [] w w':=by
 obtain⟨v,G,L,j,n,_⟩:=YB.row h
 obtain⟨A,c,rfl,X,r⟩:=n.lies
 rw[Xb]at j X n
 have Q:=Jc 0 j
 have I:=D j;have S:=D r;have W:=D h
 have E:=D (show Zu Tryz.prog 316 7=true from Zi4)
 clear j n r L h
 go_enter Tryz.func224,Tryz.ntmps224
 go_wp2
 go_loopw[3,11] (fun s3 s11 wr=>∃kk m:Nat,kk≤gl.length∧m≤1000000∧s11= .int .i64 kk∧s3= .int .i64 m∧Hid (m=ZcI (gl.take kk))∧Hid (Zg [] w wr)) (fun _ s11 _=>gl.length-(intOf s11).toNat)
 case atStart=>exact⟨0,0,Xn _,by omega,rfl,rfl,D rfl,D (Zg.refl [] w)⟩
 case round=>
  obtain⟨kk,m,aa,hm,rfl,rfl,o,k⟩:=hrel
  clear Q
  have H:=(k.block b (Jg I) (by simp)).trans I.out
  by_cases O:kk<gl.length
  ·obtain⟨p,d⟩:∃p,gl[kk]? =some p:=⟨_,Xa O⟩
   obtain⟨M,z,_⟩:=ZcY W d
   obtain⟨R,T,g,N,_⟩:=z.ints
   obtain⟨ab,rfl,C⟩:=S.out kk (Yd p.1 p.2) (by rw[Xe,d];rfl)
   obtain⟨a,l⟩:=Je p.2.members.length
   rw[←l]at g
   have Y:m+a≤1000000:=by
    have:=Zi7 d;have:=Zq7 gl (kk+1);have:=o.out;omega
   have J:=D (C.upd k (by simp))
   have P:=D (show(Yd p.1 p.2).toArray.all (·.oneCell')=true by rw[Xl,Xk];exact Zea (by rw[g];rfl) _)
   have x:=D (Za (w:=wr) (.cells #[.int .i64 0, .string ⟨#[]⟩, .string ⟨#[]⟩, .bool false, .string ⟨#[]⟩, .string ⟨#[]⟩, .slice none 0 0] 316 (0,0)))
   obtain⟨q,i⟩:=Je ((wr.alloc (.cells #[.int .i64 0, .string ⟨#[]⟩, .string ⟨#[]⟩, .bool false, .string ⟨#[]⟩, .string ⟨#[]⟩, .slice none 0 0] 316 (0,0))).setRow wr.heap.size (Yd p.1 p.2).toArray)
   have s:q.heap[wr.heap.size]? =some (.cells (Yd p.1 p.2).toArray 316 (0,0)):=by rw[i];exact setRow_heap _ _ _ _ _ _ x.out
   have y:Zg [] wr q:=by rw[i];exact((Zg.refl [] wr).alloc _).setRow (.inl (Xi _)) _
   have k6:q.cell? ⟨wr.heap.size,6,none⟩=some (.slice R a T):=by rw[←g];exact Zc s rfl
   have K:=Jt k y
   have V:=D (show m+a=ZcI (gl.take (kk+1))by rw[Zi7 d,←o.out,l])
   have Z:m+a≤9000000:=by omega
   clear d z C s y g l H N;change Hid _ at i
   go_wp2_with(first|refine Js J E ?_|(refine Jo (Yd p.1 p.2).toArray x E P ?_;rw[←i.out]))
   go_roundw
   case rel=>exact⟨kk+1,m+a,by omega,by omega,by go_num,by go_num,D V,K⟩
   case measure=>simp[intOf];omega
  ·obtain rfl:kk=gl.length:=by omega
   clear H
   go_wp2
   go_ret
   exact⟨by rw[o.out,Xm];rfl,k.out⟩
theorem Zqb (a c:ZdA) (w:World):(binOp .eql 256 (.agg (Zaf a).toArray) (.agg (Zaf c).toArray)).run Tryz.prog w= .ok (.bool (a==c)) w:=by
 have u3:= Tryz.underlying9
 have u4:= Tryz.underlying4
 have E:= Tryz.isAgg9
 have F:= Tryz.isAgg4
 have C:= Tryz.sizeOf9
 have y:= Tryz.sizeOf4
 have b: Tryz.prog.underlying 256=some (.struct (Tryz.prog.fieldsOf 256)):=by kernel_rfl
 have p: Tryz.prog.stoodInHeld 256=false:=by kernel_rfl
 have x:=D (show Tryz.prog.underlying 250=some (.struct (Tryz.prog.fieldsOf 250))by kernel_rfl)
 have s: Tryz.prog.stoodInHeld 250=false:=by kernel_rfl
 have G:= Tryz.isAgg250
 have z:= Tryz.sizeOf250
 simp only[Zaf]
 obtain⟨d,hd⟩:=Je (9997)
 rw[run_eql_struct,show(10000:Nat)=d+1+1+1 by rw[hd],run_equalIn_agg w (d+1+1) 256 _ _ b p]
 clear hd b
 simp only[Program.fieldsOf,Tryz.underlying256]
 go_simp
 obtain⟨⟨o,u1,g⟩,k,j⟩:=a
 obtain⟨⟨r,u2,q⟩,i,l⟩:=c
 by_cases h:o=r<;>by_cases m:u1=u2<;>by_cases e:g=q<;>by_cases f:k=i<;>by_cases n:j=l<;>simp[h,m,e,f,n]
theorem Zg9 (x:ZH) (box:Nat) (q:ZdA) (W:World) (hc:Zb W box 0 (Zaf q)):
  Calls Tryz.prog 226 #[.agg (Yd u x).toArray, .pointer (some ⟨box,0,none⟩)] W fun e w'=>e= .returned (.bool (x.want==q))∧Zg [] W w':=by
 have o:=ZaI (hc 0 _ rfl)
 have n:box≠W.heap.size:=by omega
 obtain⟨g,a⟩:=Je (W.alloc (.cells (Yd u x).toArray 316))
 have b:=Ja a
 have hv:=Jh a
 have m:=D (show Zb g W.heap.size 1 (Zaf x.want)from fun i v hi=>by
  have:=(Zb.of_block (cs:=Yd u x) hv) (i+1) v (by
   unfold Yd;rw[Xf]
   match i,hi with
   |0,hi=>exact hi
   |1,hi=>exact hi
   |2,hi=>exact hi
   |3,hi=>exact hi
   |4,hi=>exact hi
   |_+5,hi=>simp[Zaf]at hi)
  rw[show 1+i=0+(i+1)by omega];exact this)
 have l:=D (hc.upd b (by simp))
 have d:=D (show Zu Tryz.prog 256 5=true by kernel_rfl)
 have c:=D (Zqb x.want q)
 have j:=D (show Tryz.prog.eqGuardType Tryz.prog.depth 256=false by kernel_rfl)
 obtain⟨r,h⟩:=Je ((x.want==q))
 rw[←h]at c⊢
 have k:=D (show W.alloc (.cells #[.int .i64 x.num, .string ⟨x.want.cell.origin.toArray⟩, .string ⟨x.want.cell.url.toArray⟩, .bool x.want.cell.creds, .string ⟨x.want.method.toArray⟩, .string ⟨x.want.names.toArray⟩,u] 316)=g from a.symm)
 clear a hv h hc;change Hid _ at b
 show Calls _ _ #[.agg #[.int .i64 x.num, .string ⟨x.want.cell.origin.toArray⟩, .string ⟨x.want.cell.url.toArray⟩, .bool x.want.cell.creds, .string ⟨x.want.method.toArray⟩, .string ⟨x.want.names.toArray⟩,u], .pointer (some ⟨box,0,none⟩)] W _
 go_enter Tryz.func226,Tryz.ntmps226
 go_upto_region 1 with fail
 rw[k.out]
 go_wp2_with(first|refine Z2 _ rfl 256 (.tmp 4) rfl W.heap.size 1 (Zaf x.want) (by simp[Act.eval,Act.put]) d m ?_|refine Z2 _ rfl 256 (.tmp 1) rfl box 0 (Zaf q) (by simp[Act.eval,Act.put]) d l ?_|refine Zc6 _ rfl 256 (.tmp 5) (.tmp 6) 256 rfl (Zaf x.want).toArray (Zaf q).toArray rfl rfl j r (c.out _) ?_)
 go_ret
 exact⟨rfl,b.out⟩
theorem Z3 (b:Nat) (last:Int) (gl:List (Value×ZH)):(YB b last gl).Local:=Zcf _ _ _ _ _ _ _ _
theorem Zk6 {gl:List (Value×ZH)} {last:Int} (h:YB b last gl w F):∀p∈gl,p.1.oneCell'=true:=fun p hp=>by
 obtain⟨i,hi⟩:=List.getElem?_of_mem hp
 obtain⟨M,hm,_⟩:=ZcY h hi
 obtain⟨A,c,e,_⟩:=hm.ints
 rw[e];rfl
theorem Zei {last:Int} {gl:List (Value×ZH)} (h:YB b last gl w F) (hl:gl.length≤1000000) (pre:Int) {p:Value×ZH} (hq:gl.findIdx? (fun p=>p.2.num==pre)=some i) (hp:gl[i]? =some p):
  Calls Tryz.prog 164 #[.pointer (some ⟨b,0,none⟩), .int .i64 pre] w fun e w'=>e= .returned p.1∧∃F1 M,YB b last (gl.eraseIdx i) w' F1∧Z9 p.1 p.2.members w' M∧Z8 F1 M∧(∀q∈F1,q∈F)∧(∀q∈M,q∈F)∧Zg F w w':=by
 have q:=ZlL h pre
 rw[Yw hq]at q
 have C:=Yv hq
 have HQ:=D q
 have W:=D (Zk6 h)
 have H:=D h
 have T:=D hp
 clear q hq h hp
 go_enter Tryz.func164,Tryz.ntmps164
 go_wp2_with fail
 refine HQ.out.mono ?_
 rintro e P ⟨rfl,o⟩
 have m:=(Z3 _ _ _).upd H o (by simp)
 obtain⟨G0,M,ho,E,N,R,V,J⟩:=ZlE m T.out
 obtain⟨v,G,rfl,K,n,d⟩:=ho
 obtain⟨A2,c2,l,_⟩:=E.ints
 obtain⟨A,c,rfl,hc⟩:=d.form'
 rw[Xb]at n d
 obtain⟨g,rfl⟩:∃g,A=some ⟨g,0,none⟩:=by
  rcases d.form with⟨_,Q,_⟩|⟨g,ah,_,y,_⟩
  ·rw[List.map_eq_nil_iff]at Q;rw[Q]at C;simp at C
  ·injection y with y;exact⟨g,y⟩
 have aa:G=[g]:=by obtain⟨_,_,m,_⟩:=d.block;exact m
 subst aa
 have O:b≠g:=by simpa using K
 obtain⟨n2,L⟩:=Je p.2.members.length
 rw[←L]at l
 have c0:=Jc 0 n
 have c6:P.cell? ⟨g,i*7+6,none⟩=some (.slice A2 n2 c2):=by
  rw[←l];exact(d.liesAt (show(gl.map fun p=>Yd p.1 p.2)[i]? =some (Yd p.1 p.2)by rw[Xe,T.out];rfl)) 6 _ rfl
 have hd:=Zje (by rw[Xb];exact d) (fun u z=>by
  obtain⟨cs,ab,z⟩:=List.mem_flatten.1 z
  obtain⟨p,hp,rfl⟩:=List.mem_map.1 ab
  exact Zea (W.out p hp) _ u z) (i:=i) (by rw[Xb];exact C)
 rw[Xb]at hd
 have HD:=D hd;have S:=D n;have ad:=D o;have HN:=D J;have HM:=D E;have ag:=D N;have af:=D R;have ae:=D V;have HV:=D l;have t:=D O
 clear m E N R V J n d hd o l L O K
 go_wp2_with fail
 refine HD.out.mono ?_
 rintro e3 I ⟨rfl,x,r⟩
 rw[Y0]at x
 have j:=(r.block b (Jg S) (by simpa using t.out)).trans S.out
 have c3:=Jc 0 j
 have f3:I.frozen? ⟨b,0,none⟩=false:=Zk j
 have X:=D j;have Y:=D x;have ac:=D r
 clear j x r c0 c6
 go_wp2_with fail
 go_ret
 have s:Zg [b,g] P (I.setCell ⟨b,0,none⟩ (.slice (some ⟨g,0,none⟩) (gl.length-1) c)):=(ac.weaken (fun k a=> .inr (by simp at a;simp[a]))).setCell (.inr (by simp)) _
 obtain⟨F1,t1,t2,t3⟩:=HN.out _ ⟨_,[g],rfl,by simpa using t.out,Ze (i:=0) X _,(Zd _ _ _ _).upd Y ((Zg.refl [b] I).setCell (.inr (by simp)) _) (fun k a=>by simp at a⊢;have:=t.out;omega)⟩ s
 exact⟨by rw[HV.out]<;>rfl,F1,M,t1,(ZS _ _).upd HM s (fun k a Z=>ag.out k Z a),t3,t2,ae.out,(ad.weaken (by simp)).trans s (fun k a=> .inr (af.out k a))⟩
end Go.Proofs.YtbgbeddbfaopgaaGreatDoor
namespace Go.Lk
open Go Go.RowKit
theorem Zkr {P:Program} (w:World) {ops:Array Oper} {rest:List Oper} {o:Oper} {a:Act} {Q:Exit→Act→World→Prop} (hgd:o.guard=none) (s x:Operand) (t:TypeId)
  (ho:o.op= .call {callee:= .builtin .append,args:= #[s,x],argTypes:= #[t,t]})
  (e:TypeId) {bytes:Nat} (ht:P.underlying t=some (.slice e)) (hi:(P.info? e).map (fun i=>(i.zero,i.size,i.bytes))=some (some z,1,bytes)) (hzs:z.cells.size=1) (hby:bytes≤200)
  (hs:a.eval s= .slice none 0 0) (v:Value) (xs:List (List Value)) (F:List Nat) (hx:a.eval x=v) (hr:Zj e 1 v xs w F) (h1:∀c∈xs,∀u∈c,u.oneCell'=true) (hl:xs.length≤500000000000)
  (h:∀v' w' F',Zj e 1 v' xs w' F'→Zg [] w w'→(∀k∈F',w.heap.size≤k)→wpList P ops Q rest (a.put o.dst v') w'):wpList P ops Q (o::rest) a w:=by
 obtain⟨i,E,C,r,y⟩:=info_parts hi
 have b:=hr.2.1
 obtain⟨A,c,rfl,n,q⟩:=hr.lies1
 have H:xs.flatten.length=xs.length:=by rw[ZG b];omega
 refine ZbR w hgd s x t ho 0 e i z 1 bytes ht E C r y hzs (by omega) (.slice none 0 0) 0 [] hs (by simpa using(ZD e 1 w).2.2) A xs.length c xs.flatten hx (by omega) (fun j u p=> ?_) (fun u m=> ?_) (by unfold maxLen;omega) ?_ (Xn _) ?_
 ·have l:j<xs.length:=by have:=(Jk p);omega
  obtain⟨I,rfl,g⟩:=q j _ (Xa l)
  refine⟨_,rfl,?_⟩
  rw[add_plain]
  have G:(xs[j]).length=1:=b _ (List.getElem_mem l)
  have d:=Zdg b j 0 _ _ (Xa l) (Xa (by omega))
  rw[Nat.mul_one,Nat.add_zero,p]at d
  injection d with d
  have:=g 0 _ (Xa (by omega:0<(xs[j]).length))
  rw[d];simpa using this
 ·obtain⟨c,n,m⟩:=List.mem_flatten.1 m
  exact h1 c n u m
 ·calc (0+xs.length)*bytes≤500000000000*200:=Nat.mul_le_mul (by omega) hby
   _≤140737488355328:=by omega
 ·intro v' w' g d f
  refine h v' w' v'.ownBlock.toList ⟨rfl,b,?_⟩ ((Zg.refl [] w).grown d (fun k b=>by simp[Value.ownBlock]at b)) (fun k b=> ?_)
  ·rw[Nat.zero_add,List.nil_append]at g
   exact g
  ·rcases f with f|f
   ·rw[f]at b;simp[Value.ownBlock]at b
   ·rw[f]at b;simp at b;omega
end Go.Lk
namespace Go.Proofs.YtbgbeddbfaopgaaGreatDoor
open Go.RowKit Go.Lk
theorem ZpP (l:List Int):∀c∈l.map Zcy,∀u∈c,u.oneCell'=true:=by
 intro c b u a
 obtain⟨x,_,rfl⟩:=List.mem_map.1 b
 unfold Zcy at a;simp at a;subst a;rfl
def Zkh (w:World) (l:List Int) (e:Ending) (w':World):Prop:=∃(v:Value) (M:List Nat),e= .returned v∧Z9 v l w' M∧(∀k∈M,w.heap.size≤k)∧Zg [] w w'
theorem ZcU {last:Int} {gl:List (Value×ZH)} (h:YB b last gl w F) (hl:gl.length≤1000000) (pre:Int) {p:Value×ZH} (hq:gl.findIdx? (fun p=>p.2.num==pre)=some i) (hp:gl[i]? =some p) (hpl:p.2.members.length≤1000000):
  Calls Tryz.prog 159 #[.pointer (some ⟨b,0,none⟩), .int .i64 pre] w (Zkh w p.2.members):=by
 have q:=ZlL h pre
 rw[Yw hq]at q
 have J:=Yv hq
 have V:=D q
 have H:=D h
 have N:=D hp
 clear q hq h hp
 go_enter Tryz.func159,Tryz.ntmps159
 go_wp2_with fail
 refine V.out.mono ?_
 rintro e K ⟨rfl,j⟩
 have m:=(Z3 _ _ _).upd H j (by simp)
 obtain⟨M,o,_⟩:=ZcY m N.out
 obtain⟨v,G,S,n,a,_⟩:=YB.row m
 obtain⟨E,I,d,_⟩:=o.ints
 obtain⟨A,c,rfl,hc⟩:=a.form'
 rw[Xb]at n a
 obtain⟨g,rfl⟩:∃g,A=some ⟨g,0,none⟩:=by
  rcases a.form with⟨_,O,_⟩|⟨g,Y,_,l,_⟩
  ·rw[List.map_eq_nil_iff]at O;rw[O]at J;simp at J
  ·injection l with l;exact⟨g,l⟩
 have L:=D o
 obtain⟨C,r⟩:=Je p.2.members.length
 rw[←r]at d
 rw[d]at L
 have Z:=Jc 0 n
 have c6:K.cell? ⟨g,i*7+6,none⟩=some (.slice E C I):=by
  rw[←d];exact(a.liesAt (show(gl.map fun p=>Yd p.1 p.2)[i]? =some (Yd p.1 p.2)by rw[Xe,N.out];rfl)) 6 _ rfl
 have x:=D j
 have R:=D hpl
 clear m o n a j d r S hpl
 go_wp2_with(refine Zkr K rfl (.const (.slice none 0 0)) (.tmp 18) 45 rfl 3 Tryz.underlying45 Zfd rfl (by omega) rfl (.slice E C I) (p.2.members.map Zcy) M rfl L (ZpP _) (by rw[Xb];have:=R.out;omega) ?_;intro v' w3 W z y s;have P:=D z;have Q:=D y;have T:=D s;clear z y s)
 go_ret
 exact⟨_,W,rfl,P.out,fun k X=>by have:=T.out k X;have:=x.size;omega,x.trans Q (by simp)⟩
def Yk (b:Nat) (most:Int) (l:List Zr):YG:=Y2 b (fun v=> #[v, .int .i64 most]) 128 272 6 (l.map Zo)
theorem ZK (b:Nat) (most:Int) (l:List Zr):(Yk b most l).Local:=Zas _ _ _ _ _ _
theorem Zka (x:Zr) (box:Nat) (now:Nat) (W:World) (hc:W.cell? ⟨box,0,none⟩=some (.int .u64 now)):
  Calls Tryz.prog 302 #[.agg #[.string ⟨x.cell.origin.toArray⟩, .string ⟨x.cell.url.toArray⟩, .bool x.cell.creds, .string ⟨x.method.toArray⟩, .string ⟨x.header.toArray⟩, .int .u64 x.until_], .pointer (some ⟨box,0,none⟩)] W fun e w'=>e= .returned (.bool (decide (x.until_≤now)))∧Zg [] W w':=by
 have a:=ZaI hc
 have b:box≠W.heap.size:=by omega
 go_enter Tryz.func302,Tryz.ntmps302
 go_wp2
 go_ret
 exact⟨rfl,(Zg.refl _ _).alloc _⟩
theorem Zmp (x e:Zr) (box:Nat) (W:World) (hc:Zb W box 0 (Zo e)):
  Calls Tryz.prog 241 #[.agg (Zo x).toArray, .pointer (some ⟨box,0,none⟩)] W fun e' w'=>e'= .returned (.bool (Zej x e))∧Zg [] W w':=by
 have n:=ZaI (hc 0 _ rfl)
 have m:box≠W.heap.size:=by omega
 obtain⟨c,a⟩:=Je (W.alloc (.cells (Zo x).toArray 272))
 have b:=Ja a
 have hv:=Jh a
 have k:=D (show Zb c W.heap.size 0 (Zo x)from Zb.of_block hv)
 have j:=D (hc.upd b (by simp))
 have g:=D (show Zu Tryz.prog 272 6=true by kernel_rfl)
 have l:=D (Ziw x e c)
 clear hv hc;change Hid _ at a b
 have h:W.alloc (.cells #[.string ⟨x.cell.origin.toArray⟩, .string ⟨x.cell.url.toArray⟩, .bool x.cell.creds, .string ⟨x.method.toArray⟩, .string ⟨x.header.toArray⟩, .int .u64 x.until_] 272)=c:=a.symm
 show Calls _ _ #[.agg #[.string ⟨x.cell.origin.toArray⟩, .string ⟨x.cell.url.toArray⟩, .bool x.cell.creds, .string ⟨x.method.toArray⟩, .string ⟨x.header.toArray⟩, .int .u64 x.until_], .pointer (some ⟨box,0,none⟩)] W _
 change Hid _ at h
 go_enter Tryz.func241,Tryz.ntmps241
 go_upto_region 1 with fail
 rw[h.out]
 go_wp2_with(first|refine Jl k g ?_|refine Jl j g ?_)
 refine l.out.mono ?_
 rintro e' o ⟨rfl,d⟩
 have i:=Jt b d
 clear d
 go_wp2_with fail
 go_ret
 exact⟨rfl,i.out⟩
theorem Zmt (x e:Zr) (box:Nat) (nb now:Nat) (W:World) (hc:Zb W box 0 (Zo e)) (hn:W.cell? ⟨nb,0,none⟩=some (.int .u64 now)):
  Calls Tryz.prog 338 #[.agg (Zo x).toArray, .pointer (some ⟨box,0,none⟩), .pointer (some ⟨nb,0,none⟩)] W fun e' w'=>e'= .returned (.bool (Zej x e&&decide (now<x.until_)))∧Zg [] W w':=by
 have w:=ZaI (hc 0 _ rfl)
 have r:box≠W.heap.size:=by omega
 obtain⟨g,c⟩:=Je (W.alloc (.cells (Zo x).toArray 272))
 have b:=Ja c
 have d:=Jh c
 have q:=D (show Zb g W.heap.size 0 (Zo x)from Zb.of_block d)
 have p:=D (hc.upd b (by simp))
 have h:=D (show Zu Tryz.prog 272 6=true by kernel_rfl)
 have m:=D (Ziw x e g)
 have o:=D b
 obtain⟨s,k⟩:=Je (Zej x e)
 rw[←k]at m⊢
 have l:=D ((Xp (b.block nb (ZaI hn) (by simp))).trans hn)
 have y:=D (show nb≠W.heap.size by have:=ZaI hn;omega)
 clear k hn
 clear b hc;change Hid _ at c d
 have j:W.alloc (.cells #[.string ⟨x.cell.origin.toArray⟩, .string ⟨x.cell.url.toArray⟩, .bool x.cell.creds, .string ⟨x.method.toArray⟩, .string ⟨x.header.toArray⟩, .int .u64 x.until_] 272)=g:=c.symm
 show Calls _ _ #[.agg #[.string ⟨x.cell.origin.toArray⟩, .string ⟨x.cell.url.toArray⟩, .bool x.cell.creds, .string ⟨x.method.toArray⟩, .string ⟨x.header.toArray⟩, .int .u64 x.until_], .pointer (some ⟨box,0,none⟩), .pointer (some ⟨nb,0,none⟩)] W _
 change Hid _ at j
 go_enter Tryz.func338,Tryz.ntmps338
 go_upto_region 1 with fail
 rw[j.out]
 go_wp2_with(first|refine Jl q h ?_|refine Jl p h ?_)
 refine m.out.mono ?_
 rintro e' n ⟨rfl,a⟩
 have i:=Jt o a
 have C:n.cell? ⟨W.heap.size,5,none⟩=some (.int .u64 x.until_):=Zc ((a.block _ (Jg d) (by simp)).trans d) rfl
 have z:n.cell? ⟨nb,0,none⟩=some (.int .u64 now):=(Xp (a.block nb (ZaI l) (by simp))).trans l.out
 clear a
 cases s with
 |true=>
  go_wp2_with fail
  go_ret
  refine⟨?_,i.out⟩
  first|rfl|(simp)|(congr 2;simp)
 |false=>
  go_wp2_with fail
  go_ret
  exact⟨rfl,i.out⟩
theorem Zfg (p:Zr→Bool) (g:FuncId) (lb:Array Value) {l:List Zr}
  (h:Zj 272 6 v (l.map Zo) w F) (eg:∀args w,(callFunc g args).run Tryz.prog w= .ok (.enter g args) w)
  (hp:∀(W:World) (x:Zr),x∈l→Zg [] w W→Calls Tryz.prog g (#[.agg (Zo x).toArray]++lb) W fun e w'=>e= .returned (.bool (p x))∧Zg [] W w'):
  Calls Tryz.prog 337 #[v, .func (.func g) #[] lb] w fun e w'=>e= .returned (.bool (l.any p))∧Zg [] w w':=by
 have b:=Zim Zo p g lb h eg hp
 have a:=Zc2 p l
 obtain⟨r,c⟩:=Je (YL p l)
 rw[←c]at b a
 rw[←a]
 have i:=D b
 clear b c a h hp
 go_enter Tryz.func337,Tryz.ntmps337
 go_wp2_with fail
 refine i.out.mono ?_
 rintro e w' ⟨rfl,d⟩
 have j:=D d;clear d
 go_wp2_with fail
 go_ret
 exact⟨rfl,j.out⟩
theorem Zjj {most:Int} (h:Yk b most l w F) (e:Zr) (now:Nat):
  Calls Tryz.prog 288 #[.pointer (some ⟨b,0,none⟩), .agg (Zo e).toArray, .int .u64 now] w fun e' w'=>e'= .returned (.bool (ZiJ l e now))∧Zg [] w w':=by
 obtain⟨c,d⟩:=Je ((w.alloc (.cells (Zo e).toArray 272)).alloc (.cells #[.int .u64 now] 22))
 have m:Zg [] w c:=by rw[d];exact((Zg.refl [] w).alloc _).alloc _
 have j:c.heap[w.heap.size]? =some (.cells (Zo e).toArray 272 (0,0)):=by rw[d,ZB _ (by simp)];exact Za _
 have k:c.heap[w.heap.size+1]? =some (.cells #[.int .u64 now] 22 (0,0)):=by
  rw[d];have:=Za (w:=w.alloc (.cells (Zo e).toArray 272)) (.cells #[.int .u64 now] 22);simpa using this
 obtain⟨v,G,E,z,q,a⟩:=(ZK _ _ _).upd h m (by simp)
 have H:c.cell? ⟨b,0,none⟩=some v:=Zc (i:=0) q rfl
 have g:=Zfg (fun x=>Zej x e&&decide (now<x.until_)) 338 #[.pointer (some ⟨w.heap.size,0,none⟩), .pointer (some ⟨w.heap.size+1,0,none⟩)] a (enters_of Tryz.func338 (by kernel_rfl) rfl) (fun W x _ s=>Zmt x e w.heap.size (w.heap.size+1) now W
  (Zb.of_block ((s.block _ (Jg j) (by simp)).trans j)) (Zc ((s.block _ (Jg k) (by simp)).trans k) rfl))
 have n:ZiJ l e now=l.any fun x=>Zej x e&&decide (now<x.until_):=rfl
 obtain⟨r,a⟩:=Je (ZiJ l e now)
 rw[←n,←a]at g
 rw[←a]
 have C:=D g
 clear g j k E z q a n h;change Hid _ at d m
 show Calls _ _ #[.pointer (some ⟨b,0,none⟩),Zj8 e, .int .u64 now] w _
 have p:(w.alloc (.cells #[.string ⟨e.cell.origin.toArray⟩, .string ⟨e.cell.url.toArray⟩, .bool e.cell.creds, .string ⟨e.method.toArray⟩, .string ⟨e.header.toArray⟩, .int .u64 e.until_] 272)).alloc (.cells #[.int .u64 now] 22)=c:=d.symm
 change Hid _ at p
 unfold Zj8
 go_enter Tryz.func288,Tryz.ntmps288
 go_upto_region 1 with fail
 rw[p.out]
 go_wp2_with fail
 refine C.out.mono ?_
 rintro e' I ⟨rfl,o⟩
 have y:=Jt m o
 clear o
 go_wp2_with fail
 go_ret
 exact⟨rfl,y.out⟩
def Znn:YG:=fun _ F=>F=[]
theorem ZeE:Znn.Local:=⟨fun h k hk=>(by rw[h]at hk;cases hk),fun h _ _=>h⟩
theorem Zm7 (p:Zr→Bool) (g:FuncId) (lb:Array Value) (eg:∀args w,(callFunc g args).run Tryz.prog w= .ok (.enter g args) w) {b:Nat} {most:Int} {l:List Zr} {w:World} {v:Value} {G:List Nat} (hbG:b∉G)
  (hb:w.heap[b]? =some (.cells #[v, .int .i64 most] 128 (0,0))) (hr:Zj 272 6 v (l.map Zo) w G) (hl:l.length≤1000000)
  (hp:∀(W:World) (x:Zr),Zg G w W→Calls Tryz.prog g (#[.agg (Zo x).toArray]++lb) W fun e w'=>e= .returned (.bool (p x))∧Zg [] W w'):
  Calls Tryz.prog 301 #[.pointer (some ⟨b,0,none⟩), .func (.func g) #[] lb] w (Ziv fun w'=>Yk b most (l.filter fun x=> !p x) w' (b::G)∧Zg (b::G) w w'):=by
 have o:=ZmD Zo p g lb (fun _=>Znn) (fun _=>ZeE) (G:=[]) hr ZbA rfl (by intro k _ h;cases h) eg (fun W G1 d r x hl R P=>(hp W x (by simpa using P)).mono (by
  rintro e w' ⟨rfl,Q⟩
  cases R
  exact⟨rfl,[],rfl,Q,fun k a=> .inl a⟩))
 obtain⟨A,c,rfl,X⟩:=hr.form'
 rw[Xb]at hb X o
 have O:=Jc 0 hb
 have Y:=D o;have H:=D hb;have s:=D hbG
 have E:=Xq (fun x=> !p x) l
 have aa:=D E
 obtain⟨m,h⟩:=Je ((l.filter fun x=> !p x).length)
 have Z:m≤1000000:=by omega
 have T:=D h
 clear o hb hr hp hbG E h
 go_enter Tryz.func301,Tryz.ntmps301
 go_wp2_with fail
 refine Y.out.mono ?_
 rintro e n ⟨v',rfl,y,G3,N,I,z,L⟩
 have q:Zg G w n:=by simpa using z
 obtain⟨V,S,F,_⟩:=y.form'
 rw[Xb,←T.out]at F
 subst F
 have j:=(q.block b (Jg H) s).trans H.out
 have k0:=Jc 0 j
 have f0:n.frozen? ⟨b,0,none⟩=false:=Zk j
 have J:=D j;have K:=D y;have M:=D q
 clear y N I z L q j O
 go_wp2_with fail
 go_ret
 have C:Zg [b] n (n.setCell ⟨b,0,none⟩ (.slice V m S)):=(Zg.refl _ _).setCell (.inr (by simp)) _
 refine⟨_,rfl,⟨_,G,rfl,s.out,Ze (i:=0) J _,(Zd _ _ _ _).upd K C (fun k a h=>by rw[Jm h]at a;exact s a)⟩,?_⟩
 exact((M.weaken (G:=b::G) (fun k a=> .inr (by simp[a]))).trans C (fun k a=> .inr (by simp at a;simp[a])))
theorem Zlm {most:Int} (h:Yk b most l w F) (hl:l.length≤1000000) (now:Nat):
  Calls Tryz.prog 239 #[.pointer (some ⟨b,0,none⟩), .int .u64 now] w (Ziv fun w'=>Yk b most (Zig l now) w' F∧Zg F w w'):=by
 have o:=(ZK _ _ _).lt h
 obtain⟨v,G,rfl,p,g,q⟩:=h
 obtain⟨I,c⟩:=Je (w.alloc (.cells #[.int .u64 now] 22))
 have a:=Ja c
 have d:=Jh c
 have j:=Zm7 (fun x=>decide (x.until_≤now)) 302 #[.pointer (some ⟨w.heap.size,0,none⟩)] (enters_of Tryz.func302 (by kernel_rfl) rfl) p ((a.block b (Jg g) (by simp)).trans g) ((Zd _ _ _ _).upd q a (by simp)) hl (fun W x z=>Zka x w.heap.size now W (by
  have:=(z.block w.heap.size (Jg d) (fun H=>by have:=o w.heap.size (by simp[H]);omega)).trans d
  exact Zc (i:=0) this rfl))
 have C:=D j
 clear j d g q o p;change Hid _ at c a
 go_enter Tryz.func239,Tryz.ntmps239
 go_upto_region 1 with fail
 rw[←c.out]
 go_wp2_with fail
 refine C.out.mono ?_
 rintro e J ⟨n,rfl,r,m⟩
 have E:=D r;have s:=D m
 clear r m
 go_wp2_with fail
 go_ret
 exact⟨_,rfl,E.out,(a.weaken (by simp)).trans s (fun k y=> .inr y)⟩
def Zia (l:List Zr) (k:Nat):Nat:=(List.range k).foldl (fun a i=>match l[i]?,l[a]? with
 |some e,some x=>if e.until_<x.until_ then i else a
 |_,_=>a) 0
theorem ZgG (l:List Zr) (k:Nat):Zia l (k+1)=match l[k]?,l[Zia l k]? with
 |some e,some x=>if e.until_<x.until_ then k else Zia l k
 |_,_=>Zia l k:=by
 unfold Zia;rw[List.range_succ,List.foldl_append,List.foldl_cons,List.foldl_nil]
theorem Znl (l:List Zr):∀k,Zia l k≤k
 |0=>Xi _
 |k+1=>by
  rw[ZgG]
  have:=Znl l k
  split
  ·split<;>omega
  ·omega
theorem Zj6 {most:Int} (h:Yk b most l w F) (hl:l.length≤1000000):
  Calls Tryz.prog 243 #[.pointer (some ⟨b,0,none⟩)] w fun e w'=>e= .returned (.int .i64 (Zdf l))∧Zg [] w w':=by
 obtain⟨v,G,rfl,S,n,L⟩:=h
 obtain⟨A,c,rfl,X,s⟩:=L.lies
 rw[Xb]at n X
 have V:=Jc 0 n
 have P:=D n;have M:=D s
 have j:=D (show Zu Tryz.prog 272 6=true by kernel_rfl)
 clear n L s S
 go_enter Tryz.func243,Tryz.ntmps243
 go_wp2
 go_loopw[3,11] (fun s3 s11 wr=>∃kk m:Nat,kk≤l.length∧m≤kk∧s11= .int .i64 kk∧s3= .int .i64 m∧Hid (m=Zia l kk)∧Hid (Zg [] w wr)) (fun _ s11 _=>l.length-(intOf s11).toNat)
 case atStart=>exact⟨0,0,Xn _,Xi _,rfl,rfl,D rfl,D (Zg.refl [] w)⟩
 case round=>
  obtain⟨kk,m,Z,hm,rfl,rfl,O,d⟩:=hrel
  clear V
  have k:=(d.block b (Jg P) (by simp)).trans P.out
  by_cases T:kk<l.length
  ·have Q:m<l.length:=by omega
   obtain⟨x,hx⟩:∃x,l[kk]? =some x:=⟨_,Xa T⟩
   obtain⟨y,r⟩:∃y,l[m]? =some y:=⟨_,Xa Q⟩
   obtain⟨W,rfl,H⟩:=M.out kk (Zo x) (by rw[Xe,hx];rfl)
   obtain⟨Y,g,I⟩:=M.out m (Zo y) (by rw[Xe,r];rfl)
   injection g with g;injection g with g
   subst g
   have J:=D (H.upd d (by simp))
   have K:=D (show(Zo x).toArray.all (·.oneCell')=true by rw[Xl,Xk];exact ZbA x)
   have q:=D (Za (w:=wr) (.cells #[.string ⟨#[]⟩, .string ⟨#[]⟩, .bool false, .string ⟨#[]⟩, .string ⟨#[]⟩, .int .u64 0] 272 (0,0)))
   obtain⟨o,a⟩:=Je ((wr.alloc (.cells #[.string ⟨#[]⟩, .string ⟨#[]⟩, .bool false, .string ⟨#[]⟩, .string ⟨#[]⟩, .int .u64 0] 272 (0,0))).setRow wr.heap.size (Zo x).toArray)
   have E:o.heap[wr.heap.size]? =some (.cells (Zo x).toArray 272 (0,0)):=by rw[a];exact setRow_heap _ _ _ _ _ _ q.out
   have i:Zg [] wr o:=by rw[a];exact((Zg.refl [] wr).alloc _).setRow (.inl (Xi _)) _
   have k5:o.cell? ⟨wr.heap.size,5,none⟩=some (.int .u64 x.until_):=Zc E rfl
   have ky:o.cell? ⟨W,m*6+5,none⟩=some (.int .u64 y.until_):=((I.upd d (by simp)).upd i (by simp)) 5 _ rfl
   have kb:=Jc 0 ((i.block b (Jg k) (by simp)).trans k)
   have C:=Jt d i
   have N:=D (show Zia l (kk+1)=if x.until_<y.until_ then kk else m by rw[ZgG,←O.out,hx,r])
   clear hx r H I E i k;change Hid _ at a
   by_cases z:x.until_<y.until_
   ·have R:decide ((x.until_:Int)<(y.until_:Int))=true:=decide_eq_true (by omega)
    have p:=D (show Zia l (kk+1)=kk by rw[N.out,if_pos z])
    go_wp2_with(first|refine Js J j ?_|(refine Jo (Zo x).toArray q j K ?_;rw[←a.out]))
    go_quiet (fail)
    go_wp2
    go_roundw
    case rel=>exact⟨kk+1,kk,by omega,by omega,by go_num,rfl,D p.symm,D (C.drewN _)⟩
    case measure=>simp[intOf];omega
   ·have R:decide ((x.until_:Int)<(y.until_:Int))=false:=decide_eq_false (by omega)
    have p:=D (show Zia l (kk+1)=m by rw[N.out,if_neg z])
    go_wp2_with(first|refine Js J j ?_|(refine Jo (Zo x).toArray q j K ?_;rw[←a.out]))
    go_quiet (fail)
    go_wp2
    go_roundw
    case rel=>exact⟨kk+1,m,by omega,by omega,by go_num,rfl,D p.symm,D (C.drewN _)⟩
    case measure=>simp[intOf];omega
  ·obtain rfl:kk=l.length:=by omega
   clear k
   go_wp2
   go_ret
   exact⟨by rw[O.out];rfl,d.out⟩
end Go.Proofs.YtbgbeddbfaopgaaGreatDoor
