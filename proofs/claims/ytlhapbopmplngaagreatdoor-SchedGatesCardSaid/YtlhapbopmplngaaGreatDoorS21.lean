import Derived.Test.YtlhapbopmplngaaGreatDoorS17
import Derived.Test.YtlhapbopmplngaaGreatDoorS18
set_option linter.all false
set_option maxHeartbeats 16000000
set_option maxRecDepth 100000
set_option autoImplicit true
set_option relaxedAutoImplicit true
namespace Go.Proofs.YtlhapbopmplngaaGreatDoor
open Go.RowKit Go.Lk
def Znm {l:List Zp} (h:0<l.length):Zdf l<l.length:=by
 obtain⟨n,a⟩:∃n,l.length=n+1:=⟨l.length-1,by omega⟩
 have:Zdf l=ZhS l l.length:=rfl
 rw[this,a,ZgH]
 have:=ZnL l n
 split
 ·split<;>omega
 ·omega
def Zpa {most:Int} (h:Yf b most l w F) (hl:l.length≤1000000) (hmost:1≤most) (e:Zp) (now:Nat):
  Calls Tryz.prog 157 #[.pointer (some ⟨b,0,none⟩), .agg (Zn e).toArray, .int .u64 now] w (Zfr fun w'=>∃F',Yf b most (ZcB l most e now) w' F'∧Zi w w' F F'):=by
 obtain⟨w1,a7,ap,ah⟩:=Kc w (.cells (Zn e).toArray 268)
 have s:=(ZF _ _ _).upd h ap
 have k3:=Jc 3 ah
 have k4:=Jc 4 ah
 have k5:=Jc 5 ah
 have bc:=D ((ZF _ _ _).lt h)
 have H1:=D s
 have a2:=D (show Zu Tryz.prog 268 6=true by kernel_rfl)
 have bb:=D (ZlY s hl now)
 have bl:=D (show b<w.heap.size from by have hh:=h;obtain⟨_,_,rfl,_⟩:=hh;exact(ZF _ _ _).lt h b (by simp))
 clear h s;change Hid _ at ah a7 ap
 have e1:w.alloc (.cells #[.string ⟨e.cell.origin.toArray⟩, .string ⟨e.cell.url.toArray⟩, .bool e.cell.creds, .string ⟨e.method.toArray⟩, .string ⟨e.header.toArray⟩, .int .u64 (e.until_:Int)] 268)=w1:=a7.symm
 have aW:=D e1
 clear e1
 have aR:=D (fun(hp:ZcB l most e now=l)=>show∃F',Yf b most (ZcB l most e now) w1 F'∧Zi w w1 F F' by rw[hp];exact⟨F,H1.out,ap.weaken (by simp),fun k d=> .inl d⟩)
 show Calls _ _ #[.pointer (some ⟨b,0,none⟩), .agg #[.string ⟨e.cell.origin.toArray⟩, .string ⟨e.cell.url.toArray⟩, .bool e.cell.creds, .string ⟨e.method.toArray⟩, .string ⟨e.header.toArray⟩, .int .u64 (e.until_:Int)], .int .u64 now] w _
 by_cases p:(e.method==[])==(e.header==[])
 ·have K:=D (show ZcB l most e now=l by unfold ZcB;rw[if_pos (.inl p)])
  have aU:List.isEmpty e.method=List.isEmpty e.header:=by revert p;cases e.method<;>cases e.header<;>simp
  have bm:(List.isEmpty e.method==List.isEmpty e.header)=true:=by rw[aU];simp
  clear p
  go_in
  go_upto_region 1 with fail
  rw[aW.out]
  go_wp2_with fail
  go_ret
  exact⟨_,rfl,aR.out K⟩
 ·have aU:¬List.isEmpty e.method=List.isEmpty e.header:=by revert p;cases e.method<;>cases e.header<;>simp
  have bm:(List.isEmpty e.method==List.isEmpty e.header)=false:=by simpa using aU
  by_cases aY:e.until_≤now
  ·have K:=D (show ZcB l most e now=l by unfold ZcB;rw[if_pos (.inr aY)])
   have bg:decide ((e.until_:Int)≤(now:Int))=true:=decide_eq_true (by omega)
   clear p
   go_in
   go_upto_region 1 with fail
   rw[aW.out]
   go_wp2_with fail
   go_ret
   exact⟨_,rfl,aR.out K⟩
  ·obtain⟨a,an⟩:=Je (ZiF l now)
   have bf:a.length≤1000000:=by
    have:a.length≤l.length:=by rw[an];exact Xq _ _
    omega
   have aI:ZcB l most e now=match a.findIdx? (fun x=>Zeh x e)with
    |some i=>match a[i]? with
     |some x=>a.set i {x with until_:=e.until_}
     |none=>a
    |none=>(if most≤(a.length:Int)then Y6 a (Zdf a)else a)++[e]:=by
    unfold ZcB;rw[if_neg (by simp only[not_or];exact⟨p,aY⟩),an];rfl
   have aO:=bb.out
   rw[←an]at aO
   have bj:=D aO
   have bg:decide ((e.until_:Int)≤(now:Int))=false:=decide_eq_false (by omega)
   clear p bb aO an aR;change Hid _ at aI
   go_in
   go_upto_region 1 with fail
   rw[aW.out]
   go_wp2_with fail
   refine bj.out.mono ?_
   rintro e2 w2 ⟨n,rfl,S,ar⟩
   have ag:=(Kv ar ah (fun o=>by have:=bc.out _ o;omega))
   have m5:=Jc 5 ag
   have aP:=D (show Zi w w2 F F from⟨(ap.weaken (by simp)).trans ar (fun k d=> .inr d),fun k d=> .inl d⟩)
   have aJ:w.heap.size∉F:=fun o=>by have:=bc.out _ o;omega
   have aT:=D aJ
   obtain⟨v,G,hF,aQ,p,hr⟩:=S
   obtain⟨A,c,rfl,hc,am⟩:=hr.lies
   rw[Xb]at p hc hr
   have c0:=Jc 0 p
   have c1:=Jc 1 p
   have X:=Zid Zn (fun x=>Zeh x e) 239 #[.pointer (some ⟨w.heap.size,0,none⟩)] hr (enters_of Tryz.func239 (by kernel_rfl) rfl) (fun W x _ hu=>Zme x e w.heap.size W (Zb.of_block ((Kv hu ag))))
   have a9:=D hr;have be:=D p;have R:=D hF;have Z:=D aQ;have a5:=D ag;have bq:=D am
   have bs:=D (fun(hq:∀(F':List Nat) (W:World),Yf b most (ZcB l most e now) W F'→Zi w2 W F F'→∃F',Yf b most (ZcB l most e now) W F'∧Zi w W F F')=>hq)
   cases hq:a.findIdx? (fun x=>Zeh x e)with
   |some i=>
    rw[YC hq]at X
    have hi:=Yv hq
    obtain⟨x,hx⟩:∃x,a[i]? =some x:=⟨_,Xa hi⟩
    have K:=D (show ZcB l most e now=a.set i {x with until_:=e.until_}by rw[aI.out,hq];dsimp only;rw[hx])
    have HC:=D X
    have HM:=D (show(a.map Zn)[i]? =some (Zn x)by rw[Xe,hx];rfl)
    obtain⟨ab,hA,a6⟩:=am i (Zn x) HM.out
    subst hA
    have br:=D a6
    clear hq hx X am a6 hr p hF aQ ag ar aJ k3 k4 k5
    go_wp2_with fail
    refine HC.out.mono ?_
    rintro e3 C ⟨rfl,q⟩
    have y:=Kv q be
    have bd:=Kv q a5
    have d0:=Jc 0 y
    have d5:=Jc 5 bd
    have L:=(Zc _ _ _ _).upd a9 q
    have aH:=D L;have au:=D q
    have HG:G=[ab]:=by obtain⟨_,_,S,_⟩:=L.block;exact S
    have hn:=ZcY (j:=5) L HM (by omega) (.int .u64 e.until_)
    have HN:=D hn
    have f5:=hn.2
    have g5:C.cell? ⟨ab,i*6+5,none⟩=some (.int .u64 x.until_):=(L.liesAt HM) 5 _ rfl
    clear bd L q hn c0 c1 m5;change Hid _ at y HG
    go_upto_region 6 with fail
    refine Jr [0,4,8,12,16,20,24,28,32,38] (fun W=>W.cell? ⟨b,0,none⟩=some (.slice (some ⟨ab,0,none⟩) a.length c)∧W.cell? ⟨w.heap.size,5,none⟩=some (.int .u64 e.until_)) ⟨d0,d5⟩ ?_
    repeat first|refine Jn ?_|refine Jf ?_|refine Ju ?_
    refine JL ?_
    go_wp2_with fail
    refine Jz ?_
    go_wp2_with fail
    go_ret
    refine⟨_,rfl,?_⟩
    rw[K.out]
    obtain⟨g1,g2⟩:=ZbN (G:=G) (cs:=fun v=> #[v, .int .i64 most]) (T:= 187) Z (Jg y) (w1:=_) (by exact(Kv ((Zg.refl [ab] C).setCell (.inr (by simp)) _) y (fun o=>Z.out (by rw[HG.out];exact o)))) HN.out.1 ((Zg.refl (b::G) C).setCell (.inr (by rw[HG.out];simp)) _) (fun x hx=> .inl hx)
    refine⟨_,?_,Zi.trans (aP.trans ⟨au.weaken (by simp),fun k d=> .inl d⟩) (by rw[R.out];exact⟨g2.1.drew,g2.2⟩)⟩
    unfold Yf
    rw[List.map_set]
    exact g1
   |none=>
    rw[Yi hq]at X
    have a8:=D (show ZcB l most e now=(if most≤(a.length:Int)then Y6 a (Zdf a)else a)++[e]by rw[aI.out,hq])
    have HC:=D X
    clear hq X am hr p hF aQ ag ar aJ k3 k4 k5
    go_wp2_with fail
    refine HC.out.mono ?_
    rintro e3 C ⟨rfl,q⟩
    have y:=Kv q be
    have aN:=Kv q a5
    have d0:=Jc 0 y
    have d1:=Jc 1 y
    have L:=(Zc _ _ _ _).upd a9 q
    have aH:=D L;have au:=D q
    clear L q c0 c1 m5;change Hid _ at y aN
    by_cases V:most≤(a.length:Int)
    ·have hz:decide (most≤(a.length:Int))=true:=decide_eq_true V
     have ba:0<a.length:=by omega
     have Y:=Znm ba
     obtain⟨k,d⟩:=Je (Zdf a)
     have K:=D (show ZcB l most e now=a.eraseIdx k++[e]by rw[a8.out,if_pos V,Z7,d])
     rw[←d]at Y
     have HK:=D d
     clear d V ba
     go_upto_region 8 with fail
     go_quiet (fail)
     generalize hwq:C.drewN _=wq
     have al:Zg [] C wq:=by rw[←hwq];exact(Zg.refl [] C).drewN _
     have aG:=Kv al y
     have aM:=(Zc _ _ _ _).upd aH al
     have he:=Zkv (b:=b) (most:=most) (w:=wq) (F:=b::G) (l:=a) ⟨_,G,rfl,Z.out,aG,aM⟩ bf
     rw[←HK.out]at he
     have HE:=D he
     have bo:=D ((Kv al aN))
     have bh:=D aM
     clear hwq aM he d0 d1;change Hid _ at aG al
     go_wp2_with fail
     refine HE.out.mono ?_
     rintro e5 w5 ⟨rfl,af⟩
     have aE:=Kv af aG
     have ad:=(Zc _ _ _ _).upd bh af
     have bp:=D ((Kv af bo))
     obtain⟨g,rfl⟩:∃g,A=some ⟨g,0,none⟩:=by
      rcases ad.form with⟨_,h0,_⟩|⟨g,bu,_,s,_⟩
      ·rw[List.map_eq_nil_iff]at h0;subst h0;simp at Y
      ·injection s with s;exact⟨g,s⟩
     have hG:G=[g]:=by obtain⟨_,_,S,_⟩:=ad.block;exact S
     have f0:=Jc 0 aE
     subst hG
     have hd:=Zny.del (by rw[Xb];exact ad) (Zde Zbs a) (i:=k) (by rw[Xb];exact Y)
     rw[Xb]at hd
     have HD:=D hd;have bt:=D ad;have bi:=D (au.trans (al.trans af (by simp)))
     clear ad hd af;change Hid _ at aE
     have bv:=D Y
     go_wp2_with fail
     refine HD.out.mono ?_
     rintro e6 w6 ⟨rfl,aF,av⟩
     rw[Y9]at aF
     have aL:b≠g:=fun e=>Z.out (by rw[e];simp)
     have a4:w.heap.size≠g:=fun e=>aT.out (by rw[R.out,e];simp)
     have a3:w.heap.size≠b:=by have:=bl.out;omega
     have ao:=(Kv av aE (by simpa using aL))
     have aZ:=(Kv av bp (by simpa using a4))
     have c6:=Jc 0 ao
     have f6:=Kf 0 ao
     obtain⟨M,aq⟩:=Je (w6.setCell ⟨b,0,none⟩ (.slice (some ⟨g,0,none⟩) (a.length-1) c))
     have aw:=Kd aq
     have a1:=(Kv aw aZ (by simpa using a3))
     have a0:=(Zc _ _ _ _).upd aF aw (fun k d o=>by simp at d o;exact aL (by omega))
     have z:M.heap[b]? =some (.cells #[.slice (some ⟨g,0,none⟩) (a.length-1) c, .int .i64 most] 187 (0,0)):=by rw[aq];exact Zd (i:=0) ao _
     have aX:Zg (b::[g]) w2 M:=((bi.weaken (G:=b::[g]) (by simp)).trans av (fun k d=> .inr (by simp at d;simp[d]))).trans aw (fun k d=> .inr (by simp at d;simp[d]))
     have bn:(a.eraseIdx k).length=a.length-1:=List.length_eraseIdx_of_lt Y
     have aV:=D a0;have P:=Z
     have O:=D (show Zb M w.heap.size 0 (Zn e)from Zb.of_block a1)
     have aB:=D (show(a.eraseIdx k).length≤500000000000 by omega)
     have ay:=D (show w.heap.size∉[g]from fun o=>aT.out (by rw[R.out];simp at o;simp[o]))
     clear aF av aL a4 a3 ao aZ aw a1 a0 bn Y;change Hid _ at z aq aX
     go_upto_region 11 with fail
     rw[←aq.out]
     clear c6 f6
     go_upto_region 11 with fail
     have aj:=Jc 0 z.out
     refine Jr [0,4,8,12,16,20,25,29,32,36,42] (fun W=>W.cell? ⟨b,0,none⟩=some (.slice (some ⟨g,0,none⟩) (a.length-1) c)∧Zb W w.heap.size 0 (Zn e)) ⟨aj,O.out⟩ ?_
     repeat first|refine Jn ?_|refine Jf ?_|refine Ju ?_
     refine JO (cs:=[.string ⟨e.cell.origin.toArray⟩, .string ⟨e.cell.url.toArray⟩, .bool e.cell.creds, .string ⟨e.method.toArray⟩, .string ⟨e.header.toArray⟩, .int .u64 (e.until_:Int)]) a2.out (fun W r=>r.2) ?_
     refine JE ?_
     go_wp2_with fail
     obtain⟨H,E⟩:=Je ((M.alloc (.cells #[.string ⟨e.cell.origin.toArray⟩, .string ⟨e.cell.url.toArray⟩, .bool e.cell.creds, .string ⟨e.method.toArray⟩, .string ⟨e.header.toArray⟩, .int .u64 (e.until_:Int)] 268)).drew)
     rw[←E]
     have m:Zg [] M H:=by rw[E];exact((Zg.refl [] _).alloc _).drew
     have N:=Kv m z
     have ac:Zb H M.heap.size 0 (Zn e):=by rw[E];exact Zb.of_block (w:=M.alloc _) (Za _)
     have aa:=(Zc _ _ _ _).upd aV m
     have aA:=D N;have aC:=D aa;have az:=D ac
     have aD:=D (show H.cell? ⟨b,0,none⟩=some (.slice (some ⟨g,0,none⟩) (a.length-1) c)from Zf (i:=0) N rfl)
     clear N aa E ac aj;change Hid _ at m
     refine⟨fun W=>W.cell? ⟨b,0,none⟩=some (.slice (some ⟨g,0,none⟩) (a.length-1) c)∧Zb W w.heap.size 0 (Zn e),fun W r=>r,⟨aD,O.upd m⟩,?_⟩
     refine JE ?_
     refine Zm H rfl (.tmp 73) (.tmp 75) 185 rfl 268 Tryz.underlying185 ZeP rfl (by omega) (by omega) _ ((a.eraseIdx k).map Zn) [g] rfl aC M.heap.size 1 (Zn e) rfl az rfl (Zbs _) (by rw[Xb];exact aB) ?_
     intro v' w9 G' Q J ak
     obtain⟨A',c',e9,_⟩:=Q.form'
     rw[Xd,Xb,List.length_singleton]at e9
     subst e9
     have I:=Kv J aA P
     have c9:=Jc 0 I
     have f9:=Kf 0 I
     have aK:=D Q;have aS:=D J;have ai:=D ak
     have ax:=D ((O.upd m).upd J ay)
     clear Q J ak;change Hid _ at I
     go_wp2_with fail
     refine⟨fun W=>W.cell? ⟨b,0,none⟩=some (.slice (some ⟨g,0,none⟩) (a.length-1) c)∧Zb W w.heap.size 0 (Zn e),fun W r=>r,⟨c9,ax.out⟩,?_⟩
     repeat first|refine Jn ?_|refine Jf ?_|refine Ju ?_
     refine JL ?_
     go_wp2_with fail
     refine Jz ?_
     go_wp2_with fail
     go_ret
     refine⟨_,rfl,?_⟩
     rw[K.out]
     obtain⟨g1,g2⟩:=ZbN (G:=[g]) (cs:=fun v=> #[v, .int .i64 most]) (T:= 187) P (Jg z) (Zd (i:=0) I _) ((Zc _ _ _ _).upd aK ((Zg.refl [b] w9).setCell (.inr (by simp)) _) (fun x hx o=>by
       rw[Jm o]at hx
       rcases ai b hx with h|h
       ·exact P h
       ·have s:=m.size;have S:=(Jg z);omega))
      (((m.weaken (G:=b::[g]) (by simp)).trans aS (fun x hx=> .inr (by simp[hx]))).setCell (.inr (by simp)) _) (fun x hx=>by
       rcases ai x hx with h|h
       ·exact .inl h
       ·right;have s:=m.size;omega)
     refine⟨_,?_,Zi.trans (aP.trans ⟨aX.weaken (fun k d=> .inr (by rw[R.out];exact d)),fun k d=> .inl d⟩) (by rw[R.out];exact g2)⟩
     unfold Yf
     rw[Xs]
     exact g1
    ·have hz:decide (most≤(a.length:Int))=false:=decide_eq_false V
     have K:=D (show ZcB l most e now=a++[e]by rw[a8.out,if_neg V])
     clear V
     go_upto_region 8 with fail
     go_quiet (fail)
     generalize hwq:C.drewN _=wq
     have ae:Zg [] C wq:=by rw[←hwq];exact(Zg.refl [] C).drewN _
     have z:=D (show wq.heap[b]? =some (.cells #[.slice A a.length c, .int .i64 most] 187 (0,0))from(Kv ae y))
     have aV:=D ((Zc _ _ _ _).upd aH ae)
     have O:=D (show Zb wq w.heap.size 0 (Zn e)from Zb.of_block ((Kv ae aN)))
     have P:=Z
     have aB:=D (show a.length≤500000000000 by omega)
     have ay:=D (show w.heap.size∉G from fun o=>aT.out (by rw[R.out];simp[o]))
     have bk:=D (ae)
     clear hwq ae d0 d1
     go_upto_region 11 with fail
     have aj:=Jc 0 z.out
     refine Jr [0,4,8,12,16,20,25,29,32,36,42] (fun W=>W.cell? ⟨b,0,none⟩=some (.slice A a.length c)∧Zb W w.heap.size 0 (Zn e)) ⟨aj,O.out⟩ ?_
     repeat first|refine Jn ?_|refine Jf ?_|refine Ju ?_
     refine JO (cs:=[.string ⟨e.cell.origin.toArray⟩, .string ⟨e.cell.url.toArray⟩, .bool e.cell.creds, .string ⟨e.method.toArray⟩, .string ⟨e.header.toArray⟩, .int .u64 (e.until_:Int)]) a2.out (fun W r=>r.2) ?_
     refine JE ?_
     go_wp2_with fail
     obtain⟨H,E⟩:=Je ((wq.alloc (.cells #[.string ⟨e.cell.origin.toArray⟩, .string ⟨e.cell.url.toArray⟩, .bool e.cell.creds, .string ⟨e.method.toArray⟩, .string ⟨e.header.toArray⟩, .int .u64 (e.until_:Int)] 268)).drew)
     rw[←E]
     have m:Zg [] wq H:=by rw[E];exact((Zg.refl [] _).alloc _).drew
     have N:=Kv m z
     have ac:Zb H wq.heap.size 0 (Zn e):=by rw[E];exact Zb.of_block (w:=wq.alloc _) (Za _)
     have aa:=(Zc _ _ _ _).upd aV m
     have aA:=D N;have aC:=D aa;have az:=D ac
     have aD:=D (show H.cell? ⟨b,0,none⟩=some (.slice A a.length c)from Zf (i:=0) N rfl)
     clear N aa E ac aj;change Hid _ at m
     refine⟨fun W=>W.cell? ⟨b,0,none⟩=some (.slice A a.length c)∧Zb W w.heap.size 0 (Zn e),fun W r=>r,⟨aD,O.upd m⟩,?_⟩
     refine JE ?_
     refine Zm H rfl (.tmp 73) (.tmp 75) 185 rfl 268 Tryz.underlying185 ZeP rfl (by omega) (by omega) _ ((a).map Zn) G rfl aC wq.heap.size 1 (Zn e) rfl az rfl (Zbs _) (by rw[Xb];exact aB) ?_
     intro v' w9 G' Q J ak
     obtain⟨A',c',e9,_⟩:=Q.form'
     rw[Xd,Xb,List.length_singleton]at e9
     subst e9
     have I:=Kv J aA P
     have c9:=Jc 0 I
     have f9:=Kf 0 I
     have aK:=D Q;have aS:=D J;have ai:=D ak
     have ax:=D ((O.upd m).upd J ay)
     clear Q J ak;change Hid _ at I
     go_wp2_with fail
     refine⟨fun W=>W.cell? ⟨b,0,none⟩=some (.slice A a.length c)∧Zb W w.heap.size 0 (Zn e),fun W r=>r,⟨c9,ax.out⟩,?_⟩
     repeat first|refine Jn ?_|refine Jf ?_|refine Ju ?_
     refine JL ?_
     go_wp2_with fail
     refine Jz ?_
     go_wp2_with fail
     go_ret
     refine⟨_,rfl,?_⟩
     rw[K.out]
     obtain⟨g1,g2⟩:=ZbN (G:=G) (cs:=fun v=> #[v, .int .i64 most]) (T:= 187) P (Jg z) (Zd (i:=0) I _) ((Zc _ _ _ _).upd aK ((Zg.refl [b] w9).setCell (.inr (by simp)) _) (fun x hx o=>by
       rw[Jm o]at hx
       rcases ai b hx with h|h
       ·exact P h
       ·have s:=m.size;have S:=(Jg z);omega))
      (((m.weaken (G:=b::G) (by simp)).trans aS (fun x hx=> .inr (by simp[hx]))).setCell (.inr (by simp)) _) (fun x hx=>by
       rcases ai x hx with h|h
       ·exact .inl h
       ·right;have s:=m.size;omega)
     refine⟨_,?_,Zi.trans (aP.trans ⟨(au.trans bk).weaken (by simp),fun k d=> .inl d⟩) (by rw[R.out];exact g2)⟩
     unfold Yf
     rw[Xs]
     exact g1
def Zkb {most:Int} (h:Yf b most l w F) (c:Zes) (m:Bs) (now:Nat):
  Calls Tryz.prog 219 #[.pointer (some ⟨b,0,none⟩), .agg (YG c).toArray, .string ⟨m.toArray⟩, .int .u64 now] w fun e w'=>e= .returned (.bool (ZhF l c m now))∧Zg [] w w':=by
 obtain⟨E,Q,g,q⟩:=Kc w (.cells (YG c).toArray 246)
 have z:=D (fun(W:World) (hu:Zg [] w W) (e:Zp)=>ZjG ((ZF _ _ _).upd h hu) e now)
 obtain⟨J,x⟩:=Je (Zib l ⟨c,m,[],0⟩ now)
 obtain⟨X,k⟩:=Je (Zib l ⟨c,[42],[],0⟩ now)
 obtain⟨r,K⟩:=Je (ZhF l c m now)
 have P:r=((m !=[]&&J)||(!c.creds&&X)):=by rw[K,x,k];rfl
 rw[←K]
 obtain⟨p,n,C⟩:=c
 have o:=D P;have H:=D q;have T:=D Q
 have k0:=Jc 0 q
 have k1:=Jc 1 q
 have k2:=Jc 2 q
 have s:w.alloc (.cells #[.string ⟨p.toArray⟩, .string ⟨n.toArray⟩, .bool C] 246)=E:=T.symm
 clear K P q Q h;change Hid _ at g x k s
 show Calls _ _ #[.pointer (some ⟨b,0,none⟩), .agg #[.string ⟨p.toArray⟩, .string ⟨n.toArray⟩, .bool C], .string ⟨m.toArray⟩, .int .u64 now] w _
 by_cases G:m=[]
 ·have S:List.isEmpty m=true:=by rw[G];rfl
  have j:=D (show(m !=[])=false by rw[G];rfl)
  clear G
  cases C with
  |true=>
   go_in
   go_upto_region 1 with fail
   rw[s.out]
   go_wp2_with fail
   go_ret
   exact⟨by rw[o.out,j.out];rfl,g.out⟩
  |false=>
   go_in
   go_upto_region 1 with fail
   rw[s.out]
   go_wp2_with fail
   refine(z.out E g ⟨⟨p,n,false⟩,[42],[],0⟩).mono ?_
   rintro R L ⟨rfl,d⟩
   rw[←k.out]
   have a:=Kv d H
   have O:=Jc 0 a
   have N:=Jc 1 a
   have M:=Jc 2 a
   have i:=Jt g d
   clear d;change Hid _ at a
   go_wp2_with fail
   go_ret
   exact⟨by rw[o.out,j.out,k.out];rfl,i.out⟩
 ·have S:List.isEmpty m=false:=by cases m<;>simp_all
  have j:=D (show(m !=[])=true by cases m<;>simp_all)
  clear G
  cases C with
  |true=>
   go_in
   go_upto_region 1 with fail
   rw[s.out]
   go_wp2_with fail
   refine(z.out E g ⟨⟨p,n,true⟩,m,[],0⟩).mono ?_
   rintro R L ⟨rfl,d⟩
   rw[←x.out]
   have a:=Kv d H
   have O:=Jc 0 a
   have N:=Jc 1 a
   have M:=Jc 2 a
   have i:=Jt g d
   clear d;change Hid _ at a
   cases J with
   |true=>
    go_wp2_with fail
    go_ret
    exact⟨by rw[o.out,j.out];rfl,i.out⟩
   |false=>
    go_wp2_with fail
    go_ret
    exact⟨by rw[o.out,j.out];rfl,i.out⟩
  |false=>
   go_in
   go_upto_region 1 with fail
   rw[s.out]
   go_wp2_with fail
   refine(z.out E g ⟨⟨p,n,false⟩,m,[],0⟩).mono ?_
   rintro R L ⟨rfl,d⟩
   rw[←x.out]
   have a:=Kv d H
   have O:=Jc 0 a
   have N:=Jc 1 a
   have M:=Jc 2 a
   have i:=Jt g d
   clear d;change Hid _ at a
   cases J with
   |true=>
    go_wp2_with fail
    go_ret
    exact⟨by rw[o.out,j.out];rfl,i.out⟩
   |false=>
    go_wp2_with fail
    refine(z.out L i ⟨⟨p,n,false⟩,[42],[],0⟩).mono ?_
    rintro e3 w3 ⟨rfl,I⟩
    rw[←k.out]
    have y:=Kv I a
    have Y:=Jc 0 y
    have aa:=Jc 1 y
    have Z:=Jc 2 y
    have V:=Jt i I
    clear I;change Hid _ at y
    go_wp2_with fail
    go_ret
    exact⟨by rw[o.out,j.out,k.out];rfl,V.out⟩
def ZeT {P:Prop}(h:P:=by
 go_in
 go_upto_region 1 with fail
 rw[z.out]
 go_wp2_with fail
 refine E.out.mono ?_
 rintro P q ⟨rfl,g⟩
 have a:=Kv g C
 have Q:=Jc 0 a
 have O:=Jc 1 a
 have L:=Jc 2 a
 have j:=Jt y g
 clear g;change Hid _ at a
 go_wp2_with fail
 refine(I.out q j ⟨⟨x,s,true⟩,[],m,0⟩).mono ?_
 rintro Y N ⟨rfl,i⟩
 rw[←H.out]
 have d:=Kv i a
 have V:=Jc 0 d
 have T:=Jc 1 d
 have S:=Jc 2 d
 have k:=Jt j i
 clear i;change Hid _ at d
 cases M with
 |true=>
  go_wp2_with fail
  go_ret
  exact⟨by rw[p.out,o.out];simp,k.out⟩
 |false=>
  go_wp2_with fail
  go_ret
  exact⟨by rw[p.out,o.out];simp,k.out⟩):P:=h
def Zj6 {most:Int} (h:Yf b most l w F) (c:Zes) (n0:Bs) (hn0:n0.length≤1000000) (now:Nat):
  Calls Tryz.prog 220 #[.pointer (some ⟨b,0,none⟩), .agg (YG c).toArray, .string ⟨n0.toArray⟩, .int .u64 now] w fun e w'=>e= .returned (.bool (Zdd l c n0 now))∧Zg [] w w':=by
 obtain⟨w0,ac,y,C⟩:=Kc w (.cells (YG c).toArray 246)
 have I:=D (fun(W:World) (hu:Zg [] w W) (e:Zp)=>ZjG ((ZF _ _ _).upd h hu) e now)
 obtain⟨m,n⟩:=Je (Yu n0)
 obtain⟨M,H⟩:=Je (Zib l ⟨c,[],m,0⟩ now)
 obtain⟨q2,G⟩:=Je (Zib l ⟨c,[],[42],0⟩ now)
 obtain⟨r,hr⟩:=Je (Zdd l c n0 now)
 have ad:r=((m !=[]&&M)||(!c.creds&&m !=[97,117,116,104,111,114,105,122,97,116,105,111,110]&&q2)):=by rw[hr,H,G,n];rfl
 rw[←hr]
 have Z:=YF n0 w0 hn0
 rw[←n]at Z
 have E:=D Z
 obtain⟨x,s,R⟩:=c
 have p:=D ad;have af:=D ac
 have z:w.alloc (.cells #[.string ⟨x.toArray⟩, .string ⟨s.toArray⟩, .bool R] 246)=w0:=af.symm
 clear hr ad ac h Z n;change Hid _ at C y H G z
 show Calls _ _ #[.pointer (some ⟨b,0,none⟩), .agg #[.string ⟨x.toArray⟩, .string ⟨s.toArray⟩, .bool R], .string ⟨n0.toArray⟩, .int .u64 now] w _
 by_cases n:m=[]
 ·have ae:List.isEmpty m=true:=by rw[n];rfl
  have o:=D (show(m !=[])=false by rw[n];rfl)
  have ab:(m==[97,117,116,104,111,114,105,122,97,116,105,111,110])=false:=by rw[n];rfl
  have ah:¬m=[97,117,116,104,111,114,105,122,97,116,105,111,110]:=by rw[n];simp
  have J:=D (show(m !=[97,117,116,104,111,114,105,122,97,116,105,111,110])=true by rw[n];rfl)
  clear n
  cases R with
  |true=>
   go_in
   go_upto_region 1 with fail
   rw[z.out]
   go_wp2_with fail
   refine E.out.mono ?_
   rintro P q ⟨rfl,g⟩
   have a:=Kv g C
   have Q:=Jc 0 a
   have O:=Jc 1 a
   have L:=Jc 2 a
   have j:=Jt y g
   clear g;change Hid _ at a
   go_wp2_with fail
   go_ret
   exact⟨by rw[p.out,o.out];simp,j.out⟩
  |false=>
   go_in
   go_upto_region 1 with fail
   rw[z.out]
   go_wp2_with fail
   refine E.out.mono ?_
   rintro P q ⟨rfl,g⟩
   have a:=Kv g C
   have Q:=Jc 0 a
   have O:=Jc 1 a
   have L:=Jc 2 a
   have j:=Jt y g
   clear g;change Hid _ at a
   go_wp2_with fail
   refine(I.out q j ⟨⟨x,s,false⟩,[],[42],0⟩).mono ?_
   rintro Y N ⟨rfl,i⟩
   rw[←G.out]
   have d:=Kv i a
   have V:=Jc 0 d
   have T:=Jc 1 d
   have S:=Jc 2 d
   have k:=Jt j i
   clear i;change Hid _ at d
   go_wp2_with fail
   go_ret
   exact⟨by rw[p.out,o.out,J.out,G.out];simp,k.out⟩
 ·have ae:List.isEmpty m=false:=by cases m<;>simp_all
  have o:=D (show(m !=[])=true by cases m<;>simp_all)
  by_cases K:m=[97,117,116,104,111,114,105,122,97,116,105,111,110]
  ·have ab:(m==[97,117,116,104,111,114,105,122,97,116,105,111,110])=true:=by rw[K];rfl
   have J:=D (show(m !=[97,117,116,104,111,114,105,122,97,116,105,111,110])=false by rw[K];rfl)
   clear n K
   cases R with
   |true=>
    exact ZeT
   |false=>
    go_in
    go_upto_region 1 with fail
    rw[z.out]
    go_wp2_with fail
    refine E.out.mono ?_
    rintro P q ⟨rfl,g⟩
    have a:=Kv g C
    have Q:=Jc 0 a
    have O:=Jc 1 a
    have L:=Jc 2 a
    have j:=Jt y g
    clear g;change Hid _ at a
    go_wp2_with fail
    refine(I.out q j ⟨⟨x,s,false⟩,[],m,0⟩).mono ?_
    rintro Y N ⟨rfl,i⟩
    rw[←H.out]
    have d:=Kv i a
    have V:=Jc 0 d
    have T:=Jc 1 d
    have S:=Jc 2 d
    have k:=Jt j i
    clear i;change Hid _ at d
    cases M with
    |true=>
     go_wp2_with fail
     go_ret
     exact⟨by rw[p.out,o.out];simp,k.out⟩
    |false=>
     go_wp2_with fail
     go_ret
     exact⟨by rw[p.out,o.out,J.out];simp,k.out⟩
  ·have ab:(m==[97,117,116,104,111,114,105,122,97,116,105,111,110])=false:=by simpa using K
   have J:=D (show(m !=[97,117,116,104,111,114,105,122,97,116,105,111,110])=true by simpa using K)
   clear n
   cases R with
   |true=>
    exact ZeT
   |false=>
    go_in
    go_upto_region 1 with fail
    rw[z.out]
    go_wp2_with fail
    refine E.out.mono ?_
    rintro P q ⟨rfl,g⟩
    have a:=Kv g C
    have Q:=Jc 0 a
    have O:=Jc 1 a
    have L:=Jc 2 a
    have j:=Jt y g
    clear g;change Hid _ at a
    go_wp2_with fail
    refine(I.out q j ⟨⟨x,s,false⟩,[],m,0⟩).mono ?_
    rintro Y N ⟨rfl,i⟩
    rw[←H.out]
    have d:=Kv i a
    have V:=Jc 0 d
    have T:=Jc 1 d
    have S:=Jc 2 d
    have k:=Jt j i
    clear i;change Hid _ at d
    cases M with
    |true=>
     go_wp2_with fail
     go_ret
     exact⟨by rw[p.out,o.out];simp,k.out⟩
    |false=>
     go_wp2_with fail
     refine(I.out N k ⟨⟨x,s,false⟩,[],[42],0⟩).mono ?_
     rintro e3 w3 ⟨rfl,aa⟩
     rw[←G.out]
     have X:=Kv aa d
     have ai:=Jc 0 X
     have ak:=Jc 1 X
     have aj:=Jc 2 X
     have ag:=Jt k aa
     clear aa;change Hid _ at X
     go_wp2_with fail
     go_ret
     exact⟨by rw[p.out,o.out,J.out,G.out];simp,ag.out⟩
def Zfl {α:Type} {p:α→Bool} {l:List α} {k:Nat} {x:α} (h:l[k]? =some x):(l.take (k+1)).all p=((l.take k).all p&&p x):=by
 have a:=(Jk h)
 rw[Xr a,(List.getElem?_eq_some_iff.1 h).2,List.all_append]
 simp
def Zl7 {α:Type} {p:α→Bool} {l:List α} {k:Nat} {x:α} (h:l[k]? =some x) (hp:p x=false):l.all p=false:=by
 rw[←Bool.not_eq_true,Xk]
 intro a
 have:=a x (Xc h)
 rw[hp]at this;cases this
def ZkF {most:Int} (h:Yf b most l w F) (c:Zes) (m:Bs) (hm:m.length≤1000000) (A:Option Addr) (cap:Nat) (ns:List Bs) (hs:Y3 w A ns) (hl:ns.length≤1000000) (hls:∀n∈ns,n.length≤1000000) (now:Nat):
  Calls Tryz.prog 145 #[.pointer (some ⟨b,0,none⟩), .agg (YG c).toArray, .string ⟨m.toArray⟩, .slice A ns.length cap, .int .u64 now] w fun e w'=>e= .returned (.bool (ZhI l c m ns now))∧Zg [] w w':=by
 obtain⟨w1,ah,ad,j⟩:=Kc w (.cells (YG c).toArray 246)
 have HM:=D (fun(W:World) (hu:Zg [] w W)=>Zkb ((ZF _ _ _).upd h hu) c m now)
 have aa:=D (fun(W:World) (hu:Zg [] w W) (n:Bs) (hn:n.length≤1000000)=>Zj6 ((ZF _ _ _).upd h hu) c n hn now)
 have V:=D (fun(W:World)=>ZeC m W hm)
 have X:=D (fun(W:World) (hu:Zg [] w W)=>show Y3 W A ns from hs.upd hu)
 obtain⟨q1,J⟩:=Je (ZfO m)
 obtain⟨q2,L⟩:=Je (ZhF l c m now)
 obtain⟨r,S⟩:=Je (ZhI l c m ns now)
 have K:r=((q1||q2)&&ns.all fun n=>Zdd l c n now):=by rw[S,J,L];rfl
 rw[←S]
 rw[←J]at V
 rw[←L]at HM
 have ap:=D (show∀n,Zdd l c n now=Zdd l c n now from fun _=>rfl)
 obtain⟨P,T⟩:∃P:Bs→Bool,P=fun n=>Zdd l c n now:=⟨_,rfl⟩
 have ae:=D (show∀n,Zdd l c n now=P n from fun n=>by rw[T])
 rw[←T]at K
 obtain⟨co,cu,cr⟩:=c
 have O:=D K;have ai:=D j;have ak:=D ah;have ag:=D hls
 have k0:=Jc 0 j
 have k1:=Jc 1 j
 have k2:=Jc 2 j
 have af:w.alloc (.cells #[.string ⟨co.toArray⟩, .string ⟨cu.toArray⟩, .bool cr] 246)=w1:=ak.symm
 clear S K j ah J L h hs hls T hm;change Hid _ at ad af
 show Calls _ _ #[.pointer (some ⟨b,0,none⟩), .agg #[.string ⟨co.toArray⟩, .string ⟨cu.toArray⟩, .bool cr], .string ⟨m.toArray⟩, .slice A ns.length cap, .int .u64 now] w _
 have aq:True:=trivial
 go_in
 go_upto_region 1 with fail
 rw[af.out]
 go_wp2_with fail
 refine(V.out _).mono ?_
 rintro e2 w2 ⟨rfl,M⟩
 have g:=Kv M ai
 have Z:=Jc 0 g
 have Y:=Jc 1 g
 have ac:=Jc 2 g
 have i:=Jt ad M
 clear M;change Hid _ at g
 clear k0 k1 k2
 cases q1 with
 |true=>
  have o:=D (show r=ns.all P by rw[O.out];simp)
  go_wp2_with fail
  go_loopw[30] (fun s30 wr=>∃kk:Nat,kk≤ns.length∧s30= .int .i64 kk∧Hid ((ns.take kk).all P=true)∧Hid (Zg [] w2 wr)) (fun s30 _=>ns.length-(intOf s30).toNat)
  case atStart=>exact⟨0,Xn _,rfl,D rfl,D (Zg.refl [] _)⟩
  case round=>
   obtain⟨kk,am,rfl,I,a⟩:=hrel
   by_cases C:kk<ns.length
   ·obtain⟨x,hx⟩:∃x,ns[kk]? =some x:=⟨_,Xa C⟩
    obtain⟨ab,ao,rfl,hc⟩:=X.out wr (i.trans a) kk x hx
    have d:=Kv a g
    have r0:=Jc 0 d
    have r1:=Jc 1 d
    have r2:=Jc 2 d
    have q:=aa.out wr (i.trans a) x (ag.out x (Xc hx))
    rw[ae.out]at q
    have k:=D (Zfl (p:=P) hx)
    have z:=D (Zl7 (p:=P) hx)
    obtain⟨Q,G⟩:=Je (P x)
    rw[←G]at q k z
    have R:=D q
    clear hx d q G Z Y ac
    go_wp2_with fail
    refine R.out.mono ?_
    rintro e9 w9 ⟨rfl,H⟩
    have y:=Jt a H
    clear H
    cases Q with
    |true=>
     go_wp2_with fail
     go_roundw
     case rel=>exact⟨kk+1,by omega,by go_num,D (by rw[k.out,I.out];rfl),y⟩
     case measure=>simp[intOf];omega
    |false=>
     go_wp2_with fail
     go_ret
     exact⟨by rw[show r=false from o.trans (z.out (by first|rfl|trivial))]<;>rfl,i.trans y⟩
   ·obtain rfl:kk=ns.length:=by omega
    clear C
    go_wp2_with fail
    go_ret
    refine⟨?_,i.trans a⟩
    rw[show r=true from o.trans (by have:=I.out;rwa [Xm]at this)]<;>rfl
 |false=>
  go_wp2_with fail
  refine(HM.out _ i).mono ?_
  rintro e3 w3 ⟨rfl,N⟩
  have s:=Kv N g
  have al:=Jc 0 s
  have an:=Jc 1 s
  have aj:=Jc 2 s
  have E:=Jt i N
  clear N;change Hid _ at s
  clear Z Y ac
  cases q2 with
  |false=>
   go_wp2_with fail
   go_ret
   exact⟨by rw[O.out];simp,E.out⟩
  |true=>
   have o:=D (show r=ns.all P by rw[O.out];simp)
   go_wp2_with fail
   go_loopw[30] (fun s30 wr=>∃kk:Nat,kk≤ns.length∧s30= .int .i64 kk∧Hid ((ns.take kk).all P=true)∧Hid (Zg [] w3 wr)) (fun s30 _=>ns.length-(intOf s30).toNat)
   case atStart=>exact⟨0,Xn _,rfl,D rfl,D (Zg.refl [] _)⟩
   case round=>
    obtain⟨kk,am,rfl,I,a⟩:=hrel
    by_cases C:kk<ns.length
    ·obtain⟨x,hx⟩:∃x,ns[kk]? =some x:=⟨_,Xa C⟩
     obtain⟨ab,ao,rfl,hc⟩:=X.out wr (E.trans a) kk x hx
     have d:=Kv a s
     have r0:=Jc 0 d
     have r1:=Jc 1 d
     have r2:=Jc 2 d
     have q:=aa.out wr (E.trans a) x (ag.out x (Xc hx))
     rw[ae.out]at q
     have k:=D (Zfl (p:=P) hx)
     have z:=D (Zl7 (p:=P) hx)
     obtain⟨Q,G⟩:=Je (P x)
     rw[←G]at q k z
     have R:=D q
     clear hx d q G al an aj
     go_wp2_with fail
     refine R.out.mono ?_
     rintro e9 w9 ⟨rfl,H⟩
     have y:=Jt a H
     clear H
     cases Q with
     |true=>
      go_wp2_with fail
      go_roundw
      case rel=>exact⟨kk+1,by omega,by go_num,D (by rw[k.out,I.out];rfl),y⟩
      case measure=>simp[intOf];omega
     |false=>
      go_wp2_with fail
      go_ret
      exact⟨by rw[show r=false from o.trans (z.out (by first|rfl|trivial))]<;>rfl,E.trans y⟩
    ·obtain rfl:kk=ns.length:=by omega
     clear C
     go_wp2_with fail
     go_ret
     refine⟨?_,E.trans a⟩
     rw[show r=true from o.trans (by have:=I.out;rwa [Xm]at this)]<;>rfl
end Go.Proofs.YtlhapbopmplngaaGreatDoor
