import Derived.Test.YtlhapbopmplngaaGreatDoorS1
set_option linter.all false
set_option maxHeartbeats 16000000
set_option maxRecDepth 100000
set_option autoImplicit true
set_option relaxedAutoImplicit true
namespace Go.Proofs.YtlhapbopmplngaaGreatDoor
open Go.RowKit Go.Lk
def Zpd:(Tryz.prog.info? 152).map (fun i=>(i.zero,i.size,i.bytes))=some (some (.pointer none),1,8):=by kernel_rfl
def Zqw (p:Nat→Bool) (g:FuncId) (lb:Array Value) (I:List Nat→YD) (hI:∀d,(I d).Local) {l:List Nat}
  (h:Zk 152 1 v (l.map fun x=>[Value.pointer (some ⟨x,0,none⟩)]) w F) (h0:I [] w G) (hFG:Z8 F G) (eg:∀args w,(callFunc g args).run Tryz.prog w= .ok (.enter g args) w)
  (hp:∀(W:World) (G1:List Nat) (d r:List Nat) (x:Nat),l=d++x::r→I d W G1→Zg (F++G) w W→Calls Tryz.prog g (#[Value.pointer (some ⟨x,0,none⟩)]++lb) W fun e w'=>e= .returned (.bool (p x))∧∃G',I (d++[x]) w' G'∧Zi W w' G1 G'):
  Calls Tryz.prog 301 #[v, .func (.func g) #[] lb] w fun e w'=>e= .returned (.int .i64 (Y5 p l))∧∃G',I (ZdX p l) w' G'∧Zi w w' G G':=by
 obtain⟨A,c,rfl,X,J⟩:=h.lies1
 have n:=h.2.1
 have q:=h.le
 have N:=h.foot
 rw[Xb]at X q⊢
 have HK:=D n;have Y:=D hp;have S:=D J;have HI:=D hI;have T:=D N;have Q:=D hFG;have V:=D h0
 have aa:l.length≤9223372036854775807:=by unfold maxLen at q;omega
 clear h n hp J q hI N hFG h0
 go_in
 go_wp2
 go_loopw[5,8] (fun _ s8 wr=>∃(kk:Nat) (G':List Nat),kk≤l.length∧s8= .int .i64 kk∧Hid (I (l.take kk) wr G'∧Zi w wr G G')∧Hid (∀(j:Nat) (x:Nat),j<kk→l[j]? =some x→p x=false)) (fun _ s8 _=>l.length-(intOf s8).toNat)
 case atStart=>exact⟨0,G,Xn _,rfl,D ⟨V,Zi.refl w G⟩,D (fun j x P=>absurd P (Nat.not_lt_zero _))⟩
 case round=>
  obtain⟨kk,G',ad,rfl,a,i⟩:=hrel
  by_cases z:kk<l.length
  ·obtain⟨x,hx⟩:∃x,l[kk]? =some x:=⟨_,Xa z⟩
   have R:=Xc hx
   obtain⟨E,rfl,K⟩:=S.out kk [Value.pointer (some ⟨x,0,none⟩)] (by rw[Xe,hx];rfl)
   have L:E∉G:=Q.out E (T.out E rfl)
   have ac:=Zb.one (K.upd a.out.2.upd L) rfl
   have H:=D hx
   have HQ:=D (Y.out wr G' (l.take kk) (l.drop (kk+1)) x (Zdx hx) a.out.1 (a.out.2.upd.weaken (fun k n=> .inr (List.mem_append_right _ n))))
   have Z:=D (ZZ hx)
   obtain⟨b,m⟩:=Je (p x)
   clear hx K R L;change Hid _ at m
   go_wp2_with fail
   refine HQ.out.mono ?_
   rintro e O ⟨rfl,o,s⟩
   rw[←m.out]
   have M:=D (show I (l.take (kk+1)) O o∧Zi w O G o by rw[Z.out];exact⟨s.1,a.out.2.trans s.2⟩)
   clear s
   cases b with
   |true=>
    go_wp2
    go_ret
    refine⟨?_,o,?_⟩
    ·rw[ZcN z (by rw[H.out]) m.symm i.out];rfl
    ·rw[Zip z H m.symm i.out];exact M.out
   |false=>
    go_wp2
    go_roundw
    case rel=>
     refine⟨kk+1,o,by omega,by go_num,M,D (fun j y P C=> ?_)⟩
     by_cases e:j=kk
     ·subst e;rw[H.out]at C;cases C;exact m.symm
     ·exact i j y (by omega) C
    case measure=>simp[intOf];omega
  ·obtain rfl:kk=l.length:=by omega
   go_wp2
   go_ret
   refine⟨?_,G',?_⟩
   ·rw[Zb4 i.out];rfl
   ·rw[Zg2 i.out];rw[Xm]at a;exact a.out
def Zqx (p:Nat→Bool) (g:FuncId) (lb:Array Value) (I:List Nat→YD) (hI:∀d,(I d).Local) {l:List Nat}
  (h:Zk 152 1 v (l.map fun x=>[Value.pointer (some ⟨x,0,none⟩)]) w F) (h0:I [] w G) (hFG:Z8 F G) (eg:∀args w,(callFunc g args).run Tryz.prog w= .ok (.enter g args) w)
  (hp:∀(W:World) (G1:List Nat) (d r:List Nat) (x:Nat),l=d++x::r→I d W G1→Zg (F++G) w W→Calls Tryz.prog g (#[Value.pointer (some ⟨x,0,none⟩)]++lb) W fun e w'=>e= .returned (.bool (p x))∧∃G',I (d++[x]) w' G'∧Zi W w' G1 G'):
  Calls Tryz.prog 243 #[v, .func (.func g) #[] lb] w fun e w'=>∃v',e= .returned v'∧Zk 152 1 v' ((l.filter fun x=> !p x).map fun x=>[Value.pointer (some ⟨x,0,none⟩)]) w' F∧∃G',I l w' G'∧Z8 F G'∧Zg (F++G) w w'∧∀k∈G',k∈G∨w.heap.size≤k:=by
 have ei:∀args w,(callFunc 301 args).run Tryz.prog w= .ok (.enter 301 args) w:=enters_of Tryz.func301 (by kernel_rfl) rfl
 have hx:=Zqw p g lb I hI h h0 hFG eg hp
 have ah:=(Zc 152 1 v (l.map fun x=>[Value.pointer (some ⟨x,0,none⟩)])).lt h
 have q:=D hx;have HH:=D h;have K:=D hFG
 cases hq:l.findIdx? p with
 |none=>
  have ae:l.filter (fun x=> !p x)=l:=by
   rw[List.filter_eq_self];intro x hm;rw[List.findIdx?_eq_none_iff]at hq;rw[hq x hm];rfl
  have E:ZdX p l=l:=by unfold ZdX;rw[hq]
  rw[Yi hq,E]at hx
  rw[ae]
  have q:=D hx
  clear hx hq ae E h h0 hFG hp
  go_in
  go_wp2_with fail
  refine q.out.mono ?_
  rintro e w1 ⟨rfl,G1,J⟩
  have n:=D J;clear J
  go_wp2_with fail
  go_ret
  refine⟨v,rfl,(Zc _ _ _ _).upd HH n.out.2.upd K,G1,n.out.1,?_,n.out.2.upd.weaken (fun k a=> .inr (by simp[a])),n.out.2.new⟩
  intro k a o
  rcases n.out.2.new k o with c|c
  ·exact K k a c
  ·have:=ah k a;omega
 |some i0=>
  have aE:=Yv hq
  obtain⟨vg,cap,rfl,ao⟩:∃vg cap,v= .slice (some ⟨vg,0,none⟩) l.length cap∧F=[vg]:=by
   rcases h.form with⟨_,L,_⟩|⟨g',aw,C,L,e2,_⟩
   ·rw[List.map_eq_nil_iff]at L;subst L;simp at aE
   ·exact⟨g',aw,by rw[L,Xb],e2⟩
  have E:ZdX p l=l.take (i0+1):=by unfold ZdX;rw[hq]
  rw[YC hq,E]at hx
  have q:=D hx
  have aC:=D (ZbS.start hq)
  have ai:=D ao;have HP:=D hp;have HI:=D hI
  have Q:=h.le
  rw[Xb]at Q
  have aL:l.length≤9223372036854775807:=by unfold maxLen at Q;omega
  have aI:((i0:Int)== -1)=false:=beq_eq_false_iff_ne.2 (by omega)
  clear hx hq E h h0 hFG hp ao hI Q
  go_in
  go_wp2_with fail
  refine q.out.mono ?_
  rintro e w1 ⟨rfl,G1,J⟩
  have n:=D J;clear J
  have aB:=D (show Z8 F G1 from fun k a o=>by
   rcases n.out.2.new k o with c|c
   ·exact K k a c
   ·have:=ah k a;omega)
  have aF:=D ((Zc _ _ _ _).upd HH n.out.2.upd K)
  go_wp2_with fail
  go_loopw[5,6,7] (fun s5 s6 _ wr=>∃(i j:Nat) (dk:List Nat) (G':List Nat),s5= .int .i64 i∧s6= .int .i64 j∧j≤l.length∧i<j∧Hid (ZbS p l j i dk)∧Hid (I (l.take j) wr G'∧Z8 F G'∧Zg (F++G) w wr∧∀k∈G',k∈G∨w.heap.size≤k)∧Hid (Zk 152 1 (.slice (some ⟨vg,0,none⟩) l.length cap) (dk.map fun x=>[Value.pointer (some ⟨x,0,none⟩)]) wr F)) (fun _ s6 _ _=>l.length-(intOf s6).toNat)
  case atStart=>exact⟨i0,i0+1,l,G1,rfl,by go_num,by omega,by omega,aC,D ⟨n.out.1,aB.out,n.out.2.upd.weaken (fun k a=> .inr (by simp[a])),n.out.2.new⟩,aF⟩
  case round=>
   obtain⟨i,j,dk,G',rfl,rfl,aO,aK,s,m,H⟩:=hrel
   by_cases Z:j<l.length
   ·obtain⟨x,hx⟩:∃x,l[j]? =some x:=⟨_,Xa Z⟩
    obtain⟨b,M⟩:=Je (p x)
    have aq:(dk.map fun x=>[Value.pointer (some ⟨x,0,none⟩)])[j]? =some [Value.pointer (some ⟨x,0,none⟩)]:=by rw[Xe,s.get,hx];rfl
    have S:=H.liesAt aq
    have al:=Zb.one S rfl
    rw[Nat.mul_one]at al
    have q:=D hx;have aG:=D S
    clear hx S aq;change Hid _ at M
    have av:=D (HP.out wr G' (l.take j) (l.drop (j+1)) x (Zdx q) m.out.1 m.out.2.2.1)
    go_wp2_with fail
    refine av.out.mono ?_
    rintro e O ⟨rfl,N,X,z⟩
    rw[←ZZ q.out]at X
    rw[←M.out]
    have ac:=(Zc _ _ _ _).upd H z.upd m.out.2.1
    have af:Z8 F N:=fun k a o=>by
     rcases z.new k o with c|c
     ·exact m.out.2.1 k a c
     ·have:=(Zc _ _ _ _).lt H k a;omega
    have ab:Zg (F++G) w O:=m.out.2.2.1.trans z.upd (fun k a=>by rcases m.out.2.2.2 k a with c|c<;>simp[c])
    have ad:∀k∈N,k∈G∨w.heap.size≤k:=fun k a=>by
     rcases z.new k a with c|c
     ·exact m.out.2.2.2 k c
     ·right;have:=m.out.2.2.1.size;omega
    have am:=D ac;have y:=D (And.intro X (And.intro af (And.intro ab ad)))
    clear al X z ac af ab ad
    cases b with
    |true=>
     go_wp2
     go_roundw
     case rel=>exact⟨i,j+1,dk,N,rfl,by go_num,by omega,by omega,D (s.skip q M.symm),y,am⟩
     case measure=>simp[intOf];omega
    |false=>
     have au:i<(dk.map fun x=>[Value.pointer (some ⟨x,0,none⟩)]).length:=by rw[Xb,s.len];omega
     obtain⟨C,ap,an,ag⟩:=ZfM (cs:=[Value.pointer (some ⟨x,0,none⟩)]) am au rfl
     have Y:=D ap;have ak:=D an;have ax:=D ag
     clear au ap an ag
     have aH:O.cell? ⟨vg,i,none⟩=some (C[i]'(by have:=ak.out;simp at this;omega)):=Zf Y (Array.getElem?_eq_getElem _)
     have aP:O.frozen? ⟨vg,i,none⟩=false:=ZS Y.out
     go_wp2
     go_roundw
     case rel=>
      have ar:=(Zg.refl F O).setCell (p:=⟨vg,i,none⟩) (.inr (by rw[ai.out];simp)) (Value.pointer (some ⟨x,0,none⟩))
      refine⟨i+1,j+1,dk.set i x,N,by go_num,by go_num,by omega,by omega,D (s.keep q M.symm),D ⟨(HI.out _).upd y.out.1 ar (fun k a o=>y.out.2.1 k o a),y.out.2.1,y.out.2.2.1.trans ar (fun k a=> .inr (List.mem_append_left _ a)),y.out.2.2.2⟩,D ?_⟩
      rw[List.map_set]
      refine ax _ ?_
      rw[Zd Y.out]
      have:=ak.out
      simp at this
      congr 2
      rw[←Array.toArray_toList (xs:=C.setIfInBounds _ _),Array.toList_setIfInBounds]
      congr 1
      exact(Zk6 _ _ _ (by rw[Array.length_toList];omega)).symm
     case measure=>simp[intOf];omega
   ·obtain rfl:j=l.length:=by omega
    obtain⟨V,T⟩:=Zcs (zs:=[.pointer none]) (l.length-i) (by simp) (by simp[Value.oneCell'])
    obtain⟨zs,R⟩:=Je ((Builtin.zeroCells ([.pointer none]:List Value).toArray (l.length-i)).toList)
    rw[←R]at V T
    have aj:zs.length=(l.length-i)*1:=V
    obtain⟨C,hn,_,hb,hc,hm,hs,_⟩:=H.block
    rw[Xb]at hc
    have aA:=s.len
    have aD:i*1+zs.length≤cap*1:=by rw[aj];omega
    have aM:∀ty,(Builtin.clear_ #[70] ty #[.slice (some ⟨vg,i,none⟩) (l.length-i) (cap-i)]).run Tryz.prog wr= .ok (.tuple #[]) (wr.setCells vg i zs):=fun ty=>by
     refine Zbo wr _ _ ty _ zs Tryz.underlying70 (fun w=> Tryz.zeroValue152 w) vg _ _ _ (by omega) (by rw[R];rfl) T (fun t c=> ?_) (fun t c=>ZS hb)
     have Z:i+t<C.size:=by omega
     rw[Zf hb (Array.getElem?_eq_getElem Z)];rfl
    have P:=Zgp H (i:=i) (by rw[Xb];omega) zs aD (by rw[Nat.mul_one])
    rw[←List.map_take,s.done]at P
    have az:(l.filter fun x=> !p x).length=i:=by rw[←s.done,List.length_take];omega
    have ay:=D P
    have aa:Zg F wr (wr.setCells vg i zs):=(Zg.refl F wr).setCells (.inr (by rw[ai.out];simp)) _ _
    have aJ:i≤cap:=by omega
    have aN:¬cap=i:=by omega
    clear hn hb hs P az R aj V T aA;change Hid _ at aa
    go_wp2
    go_ret
    refine⟨_,rfl,ay.out,G',?_,m.out.2.1,m.out.2.2.1.trans aa (fun k a=> .inr (List.mem_append_left _ a)),m.out.2.2.2⟩
    have:=m.out.1
    rw[Xm]at this
    exact(HI.out _).upd this aa (fun k a o=>m.out.2.1 k o a)
end Go.Proofs.YtlhapbopmplngaaGreatDoor
