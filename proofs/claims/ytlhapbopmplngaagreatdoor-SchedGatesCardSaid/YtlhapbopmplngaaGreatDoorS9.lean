import Derived.Test.YtlhapbopmplngaaGreatDoorS8
set_option linter.all false
set_option maxHeartbeats 16000000
set_option maxRecDepth 100000
set_option autoImplicit true
set_option relaxedAutoImplicit true
namespace Go.Proofs.YtlhapbopmplngaaGreatDoor
open Go.RowKit Go.Lk
def ZcG (c:Int) (Q:World→Prop) (e:Ending) (w':World):Prop:=∃s:ByteArray,e= .returned (.tuple #[.string s, .int .i64 c])∧Q w'
structure Zhi (w W:World) (b:Nat) (l:List Yp) (F:List Nat) (x:Yp):Prop where
 lay:Ye b l W F
 box:W.heap[w.heap.size]? =some (.cells (ZN x).toArray 360 (0,0))
 upd:Zg [] w W
def Zhi.step (h:Zhi w W b l F x) (hu:Zg [] W W1):Zhi w W1 b l F x:=
 ⟨(Zx _ _).upd h.lay hu,(Kv hu h.box),h.upd.trans hu⟩
def Zh0 (h:Ye b l w F) (key:Bs) (hq:l.findIdx? (fun o:Yp=>o.key==key)=some i) (hx:l[i]? =some x) (hus:6≤x.uses):
  Calls Tryz.prog 226 #[.pointer (some ⟨b,0,none⟩), .string ⟨key.toArray⟩] w (ZcG 10 fun w'=>Ye b l w' F∧Zg [] w w'):=by
 have I:=Yv hq
 obtain⟨O,c⟩:=Je ((w.alloc (.cells #[.string ⟨#[]⟩, .int .i64 0] 360)).setRow w.heap.size (ZN ⟨key,0⟩).toArray)
 have n:=D (Za (w:=w) (.cells #[.string ⟨#[]⟩, .int .i64 0] 360 (0,0)))
 have r:=Kk c n
 have k:=Kh c
 have p:=D (show Zhi w O b l F ⟨key,0⟩from⟨(Zx _ _).upd h k,r,k⟩)
 have z:=D (ZaX p.lay key)
 have R:=D ((Zx _ _).lt h)
 have E:=D (show Zu Tryz.prog 360 2=true by kernel_rfl)
 have M:=D (fun(x:Yp)=>show(ZN x).toArray.all (·.oneCell')=true by rw[Xl,Xk];exact ZaC x)
 clear r k;change Hid _ at c
 rw[YC hq]at z
 have K:=D (show(l.map ZN)[i]? =some (ZN x)by rw[Xe,hx];rfl)
 clear hq hx h
 go_in
 go_wp2_with(refine Jo (ZN ⟨key,0⟩).toArray n E (M.out _) ?_;rw[←c.out])
 refine z.out.mono ?_
 rintro e L ⟨rfl,q⟩
 have j:=D (p.step q)
 clear q
 obtain⟨v,G,y,s,d,m⟩:=j.lay
 obtain⟨g,a,rfl⟩:∃g a,v= .slice (some ⟨g,0,none⟩) l.length a:=by
  rcases m.form with⟨_,C,_⟩|⟨g,a,_,P,_⟩
  ·rw[List.map_eq_nil_iff]at C;subst C;simp at I
  ·exact⟨g,a,by rw[P,Xb]⟩
 have H:=Zf (i:=0) d rfl
 have J:=Zf (i:=1) d rfl
 simp only[List.getElem_toArray,Xv,List.getElem_cons_succ]at H J
 have V:=D d;have N:=D m;have S:=D y;have Q:=D s
 clear d m y s
 have T:L.cell? ⟨g,i*2+1,none⟩=some (.int .i64 x.uses):=N.liesAt K 1 _ rfl
 go_wp2_with fail
 go_ret2
 exact⟨_,rfl,j.lay,j.upd⟩
def Zjc (h:Ye b l w F) (key:Bs) (hq:l.findIdx? (fun o:Yp=>o.key==key)=none) (hl:l.length<32):
  Calls Tryz.prog 226 #[.pointer (some ⟨b,0,none⟩), .string ⟨key.toArray⟩] w (ZcG 0 fun w'=>∃F',Ye b (l++[⟨key,1⟩]) w' F'∧Zi w w' F F'):=by
 obtain⟨w1,y⟩:=Je ((w.alloc (.cells #[.string ⟨#[]⟩, .int .i64 0] 360)).setRow w.heap.size (ZN ⟨key,0⟩).toArray)
 have ac:=D (Za (w:=w) (.cells #[.string ⟨#[]⟩, .int .i64 0] 360 (0,0)))
 have aa:=Kk y ac
 have S:=Kh y
 have ag:=D (show Zhi w w1 b l F ⟨key,0⟩from⟨(Zx _ _).upd h S,aa,S⟩)
 have HQ:=D (ZaX ag.lay key)
 have H:=D ((Zx _ _).lt h)
 have ah:=D (show Zu Tryz.prog 360 2=true by kernel_rfl)
 have HO:=D (fun(x:Yp)=>show(ZN x).toArray.all (·.oneCell')=true by rw[Xl,Xk];exact ZaC x)
 clear aa S;change Hid _ at y
 rw[Yi hq]at HQ
 clear hq h
 go_in
 go_wp2_with(refine Jo (ZN ⟨key,0⟩).toArray ac ah (HO.out _) ?_;rw[←y.out])
 refine HQ.out.mono ?_
 rintro e w2 ⟨rfl,ai⟩
 have K:=D (ag.step ai)
 clear ai
 obtain⟨v,G,hF,ae,n,I⟩:=K.lay
 obtain⟨A,c,rfl,hc⟩:=I.form'
 rw[Xb]at hc n I
 have c0:=Zf (i:=0) n rfl
 have c1:=Zf (i:=1) n rfl
 simp only[List.getElem_toArray,Xv,List.getElem_cons_succ]at c0 c1
 have HB:=D n;have HR:=D I;have m:=D hF;have R:=D ae
 have ao:=D K.box
 clear n I hF ae
 go_upto_region 10 with fail
 go_quiet (fail)
 generalize hwq:w2.drewN _=wq
 have ar:=D (show wq.heap[b]? =some (.cells #[.slice A l.length c, .int .i64 32] 284 (0,0))by rw[←hwq];exact HB)
 have aw:=D (show Zk 360 2 (.slice A l.length c) (l.map ZN) wq G by rw[←hwq];exact HR)
 have P:=D (show wq.heap[w.heap.size]? =some (.cells (ZN ⟨key,0⟩).toArray 360 (0,0))by rw[←hwq];exact ao)
 have O:=D (show Zg (b::G) w wq by rw[←hwq];exact(K.upd.drewN _).weaken (by simp))
 clear hwq c0 c1
 have k1:=Jc 1 P.out
 have ay:=Kf 1 P.out
 obtain⟨a,E⟩:=Je (wq.setCell ⟨w.heap.size,1,none⟩ (.int .i64 (1)))
 have au:w.heap.size≠b:=by have:=H.out b (by rw[m.out];simp);omega
 have g:Zg [w.heap.size] wq a:=by rw[E];exact(Zg.refl _ _).setCell (.inr (by simp)) _
 have af:a.heap[w.heap.size]? =some (.cells (ZN ⟨key,1⟩).toArray 360 (0,0)):=by rw[E,Zd P.out];rfl
 have M:a.heap[b]? =_:=(Kv g ar (by simpa using Ne.symm au))
 have L:w.heap.size∉G:=fun q=>by have:=H.out w.heap.size (by rw[m.out];simp[q]);omega
 have ab:=(Zc _ _ _ _).upd aw g (fun k hk q=>by rw[Jm q]at hk;exact L hk)
 have Q:=D (show Zb a w.heap.size 0 (ZN ⟨key,1⟩)from Zb.of_block af)
 have ap:=D ab;have av:=D L
 clear af ab L;change Hid _ at g M E
 go_upto_region 18 with fail
 rw[←E.out]
 have Y:=Jc 0 M.out
 refine Jr [0,4,8,12,16,20,25,29,32,36,42] (fun W=>W.cell? ⟨b,0,none⟩=some (.slice A l.length c)∧Zb W w.heap.size 0 (ZN ⟨key,1⟩)) ⟨Y,Q.out⟩ ?_
 repeat first|refine Jn ?_|refine Jf ?_|refine Ju ?_
 refine JO (cs:=[.string ⟨key.toArray⟩, .int .i64 (1)]) ah.out (fun W j=>j.2) ?_
 refine JE ?_
 go_wp2_with fail
 obtain⟨C,r⟩:=Je ((a.alloc (.cells #[.string ⟨key.toArray⟩, .int .i64 (1)] 360)).drew)
 rw[←r]
 have d:Zg [] a C:=by rw[r];exact((Zg.refl [] _).alloc _).drew
 have J:=Kv d M
 have X:Zb C a.heap.size 0 (ZN ⟨key,1⟩):=by rw[r];exact Zb.of_block (w:=a.alloc _) (Za _)
 have V:=(Zc _ _ _ _).upd ap d
 have al:=D J;have am:=D V;have an:=D X
 have aj:=D (show C.cell? ⟨b,0,none⟩=some (.slice A l.length c)from Zf (i:=0) J rfl)
 clear J V r X Y;change Hid _ at d
 refine⟨fun W=>W.cell? ⟨b,0,none⟩=some (.slice A l.length c)∧Zb W w.heap.size 0 (ZN ⟨key,1⟩),fun W j=>j,⟨aj,Q.upd d⟩,?_⟩
 refine JE ?_
 refine Zm C rfl (.tmp 87) (.tmp 89) 282 rfl 360 Tryz.underlying282 Zfo rfl (by omega) (by omega) _ ((l).map ZN) G rfl am a.heap.size 1 (ZN ⟨key,1⟩) rfl an rfl (ZaC _) (by rw[Xb];omega) ?_
 intro v' w7 G' N s ad
 obtain⟨A',c',e7,_⟩:=N.form'
 rw[Xd,Xb,List.length_singleton]at e7
 subst e7
 have z:=Kv s al R
 have c7:=Jc 0 z
 have f7:=Kf 0 z
 have ax:=D N;have aq:=D s;have Z:=D ad
 have ak:=D ((Q.upd d).upd s av)
 clear N s ad;change Hid _ at z
 go_wp2_with fail
 refine⟨fun W=>W.cell? ⟨b,0,none⟩=some (.slice A l.length c)∧Zb W w.heap.size 0 (ZN ⟨key,1⟩),fun W j=>j,⟨c7,ak.out⟩,?_⟩
 repeat first|refine Jn ?_|refine Jf ?_|refine Ju ?_
 refine JL ?_
 go_wp2_with fail
 refine Jz ?_
 go_wp2_with fail
 go_ret2
 obtain⟨g1,g2⟩:=ZbN (w:=w) (G:=G) (cs:=fun v=> #[v, .int .i64 32]) (T:= 284) R (H.out b (by rw[m.out];simp)) (Zd (i:=0) z _) ((Zc _ _ _ _).upd ax ((Zg.refl [b] w7).setCell (.inr (by simp)) _) (fun x hx q=>by
   rw[Jm q]at hx
   rcases Z b hx with p|p
   ·exact R p
   ·have:=d.size;have:=g.size;have:=O.size;have:=H.out b (by rw[m.out];simp);omega))
  (((((O.out).trans g (fun x hx=> .inl (by simp at hx;omega))).trans d).trans aq (fun x hx=> .inr (by simp[hx]))).setCell (.inr (by simp)) _) (fun x hx=>by
   rcases Z x hx with p|p
   ·exact .inl p
   ·right;have:=d.size;have:=g.size;have:=O.size;omega)
 refine⟨_,rfl,_,?_,by rw[m.out];exact g2⟩
 have e9:(l++[(⟨key,1⟩:Yp)]).map ZN=l.map ZN++[ZN ⟨key,1⟩]:=by simp
 unfold Ye
 rw[e9]
 exact g1
def ZiN (h:Ye b l w F) (hl:l.length≤1000000) (key:Bs) (hq:l.findIdx? (fun o:Yp=>o.key==key)=some i) (hx:l[i]? =some x) (hus:x.uses<6) (hus0:0≤x.uses):
  Calls Tryz.prog 226 #[.pointer (some ⟨b,0,none⟩), .string ⟨key.toArray⟩] w (ZcG 0 fun w'=>∃F',Ye b (Y6 l i++[⟨x.key,x.uses+1⟩]) w' F'∧Zi w w' F F'):=by
 have hi:=Yv hq
 rw[Z7]
 obtain⟨w1,J⟩:=Je ((w.alloc (.cells #[.string ⟨#[]⟩, .int .i64 0] 360)).setRow w.heap.size (ZN ⟨key,0⟩).toArray)
 have av:=D (Za (w:=w) (.cells #[.string ⟨#[]⟩, .int .i64 0] 360 (0,0)))
 have ar:=Kk J av
 have ai:=Kh J
 have aE:=D (show Zhi w w1 b l F ⟨key,0⟩from⟨(Zx _ _).upd h ai,ar,ai⟩)
 have HQ:=D (ZaX aE.lay key)
 have q:=D ((Zx _ _).lt h)
 have R:=D (show Zu Tryz.prog 360 2=true by kernel_rfl)
 have HO:=D (fun(x:Yp)=>show(ZN x).toArray.all (·.oneCell')=true by rw[Xl,Xk];exact ZaC x)
 clear ar ai;change Hid _ at J
 rw[YC hq]at HQ
 have HM:=D (show(l.map ZN)[i]? =some (ZN x)by rw[Xe,hx];rfl)
 clear hq hx h
 go_in
 go_wp2_with(refine Jo (ZN ⟨key,0⟩).toArray av R (HO.out _) ?_;rw[←J.out])
 refine HQ.out.mono ?_
 rintro e w2 ⟨rfl,aG⟩
 have aa:=D (aE.step aG)
 clear aG
 obtain⟨v,G,hF,aB,Y,hr⟩:=aa.lay
 obtain⟨g,c,rfl⟩:∃g c,v= .slice (some ⟨g,0,none⟩) l.length c:=by
  rcases hr.form with⟨_,h0,_⟩|⟨g,c,_,h1,_⟩
  ·rw[List.map_eq_nil_iff]at h0;subst h0;simp at hi
  ·exact⟨g,c,by rw[h1,Xb]⟩
 have c0:=Zf (i:=0) Y rfl
 have c1:=Zf (i:=1) Y rfl
 simp only[List.getElem_toArray,Xv,List.getElem_cons_succ]at c0 c1
 have HB:=D Y;have X:=D hr;have n:=D hF;have Q:=D aB
 clear Y hr hF aB
 have c2:w2.cell? ⟨g,i*2+1,none⟩=some (.int .i64 x.uses):=X.liesAt HM 1 _ rfl
 have aT:=D (X.liesAt HM)
 have ak:=D aa.box
 obtain⟨w3,K⟩:=Je (w2.setRow w.heap.size (ZN x).toArray)
 change Hid _ at K
 go_upto_region 15 with(first|refine Js aT R ?_|(refine Jo (ZN x).toArray ak R (HO.out _) ?_;rw[←K.out]))
 clear c2
 have s:w.heap.size≠b:=by have:=q.out b (by rw[n.out];simp);omega
 have r:G=[g]:=by obtain⟨_,_,h2,_⟩:=X.block;exact h2
 have ap:b≠g:=fun e=>Q.out (by rw[r,e];simp)
 have aD:w.heap.size≠g:=by have:=q.out g (by rw[n.out,r];simp);omega
 have V:Zg [w.heap.size] w2 w3:=by rw[K.out];exact(Zg.refl _ _).setRow (.inr (by simp)) _
 have az:w3.heap[w.heap.size]? =some (.cells (ZN x).toArray 360 (0,0)):=by rw[K.out];exact setRow_heap _ _ _ _ _ _ ak.out
 have ac:=(Kv V HB (by simpa using Ne.symm s))
 have ao:=(Zc _ _ _ _).upd X V (fun k a j=>by rw[r]at a;simp at a j;omega)
 have hd:=ZjM.del (by rw[Xb];exact ao) (Zde ZaC l) (i:=i) (by rw[Xb];exact hi)
 rw[Xb]at hd
 have HD:=D hd;have aV:=D ac;have aA:=D ap;have aI:=D aD;have aP:=D s
 have c3:=Jc 0 ac
 clear hd ac ao ap aD s c0 c1;change Hid _ at az V r
 go_wp2_with fail
 refine HD.out.mono ?_
 rintro e w4 ⟨rfl,aw,M⟩
 have L:=(Kv M aV (by simpa using aA.out))
 have aF:=(Kv M az (by simpa using aI.out))
 have c4:=Jc 0 L
 have f4:=Kf 0 L
 obtain⟨z,H⟩:=Je (w4.setCell ⟨b,0,none⟩ (.slice (some ⟨g,0,none⟩) (l.length-1) c))
 have N:=Kd H
 have aN:=D (show z.heap[b]? =some (.cells #[.slice (some ⟨g,0,none⟩) (l.length-1) c, .int .i64 32] 284 (0,0))by rw[H,Zd L];rfl)
 have aj:=D ((Kv N aF (by simpa using aP.out)))
 have ae:=(Zc _ _ _ _).upd aw N (fun k a j=>by simp at a j;exact aA (by omega))
 rw[Y9]at ae
 have aR:=D (show Zk 360 2 (.slice (some ⟨g,0,none⟩) (l.length-1) c) ((l.eraseIdx i).map ZN) z G by rw[r.out];exact ae)
 have ad:=D (show Zg (b::G) w z from(((aa.upd.weaken (G:=b::G) (by simp)).trans V (fun k a=> .inl (by simp at a;omega))).trans M (fun k a=> .inr (by rw[r.out];simp at a;simp[a]))).trans N (fun k a=> .inr (by simp at a;simp[a])))
 have ay:(l.eraseIdx i).length=l.length-1:=List.length_eraseIdx_of_lt hi
 clear aw M L aF N ae;change Hid _ at H ay
 go_upto_region 17 with fail
 rw[←H.out]
 have k1:=Jc 1 aj.out
 have aW:=Kf 1 aj.out
 obtain⟨d,S⟩:=Je (z.setCell ⟨w.heap.size,1,none⟩ (.int .i64 (x.uses+1)))
 have s:w.heap.size≠b:=by have:=q.out b (by rw[n.out];simp);omega
 have p:Zg [w.heap.size] z d:=by rw[S];exact(Zg.refl _ _).setCell (.inr (by simp)) _
 have aC:d.heap[w.heap.size]? =some (.cells (ZN ⟨x.key,x.uses+1⟩).toArray 360 (0,0)):=by rw[S,Zd aj.out];rfl
 have af:d.heap[b]? =_:=(Kv p aN (by simpa using Ne.symm s))
 have ab:w.heap.size∉G:=fun j=>by have:=q.out w.heap.size (by rw[n.out];simp[j]);omega
 have au:=(Zc _ _ _ _).upd aR p (fun k a j=>by rw[Jm j]at a;exact ab a)
 have ah:=D (show Zb d w.heap.size 0 (ZN ⟨x.key,x.uses+1⟩)from Zb.of_block aC)
 have aO:=D au;have aS:=D ab
 clear aC au ab;change Hid _ at p af S
 go_upto_region 18 with fail
 rw[←S.out]
 have an:=Jc 0 af.out
 refine Jr [0,4,8,12,16,20,25,29,32,36,42] (fun W=>W.cell? ⟨b,0,none⟩=some (.slice (some ⟨g,0,none⟩) (l.length-1) c)∧Zb W w.heap.size 0 (ZN ⟨x.key,x.uses+1⟩)) ⟨an,ah.out⟩ ?_
 repeat first|refine Jn ?_|refine Jf ?_|refine Ju ?_
 refine JO (cs:=[.string ⟨x.key.toArray⟩, .int .i64 (x.uses+1)]) R.out (fun W y=>y.2) ?_
 refine JE ?_
 go_wp2_with fail
 obtain⟨P,E⟩:=Je ((d.alloc (.cells #[.string ⟨x.key.toArray⟩, .int .i64 (x.uses+1)] 360)).drew)
 rw[←E]
 have m:Zg [] d P:=by rw[E];exact((Zg.refl [] _).alloc _).drew
 have Z:=Kv m af
 have am:Zb P d.heap.size 0 (ZN ⟨x.key,x.uses+1⟩):=by rw[E];exact Zb.of_block (w:=d.alloc _) (Za _)
 have al:=(Zc _ _ _ _).upd aO m
 have aK:=D Z;have aL:=D al;have aM:=D am
 have aH:=D (show P.cell? ⟨b,0,none⟩=some (.slice (some ⟨g,0,none⟩) (l.length-1) c)from Zf (i:=0) Z rfl)
 clear Z al E am an;change Hid _ at m
 refine⟨fun W=>W.cell? ⟨b,0,none⟩=some (.slice (some ⟨g,0,none⟩) (l.length-1) c)∧Zb W w.heap.size 0 (ZN ⟨x.key,x.uses+1⟩),fun W y=>y,⟨aH,ah.upd m⟩,?_⟩
 refine JE ?_
 refine Zm P rfl (.tmp 87) (.tmp 89) 282 rfl 360 Tryz.underlying282 Zfo rfl (by omega) (by omega) _ ((l.eraseIdx i).map ZN) G rfl aL d.heap.size 1 (ZN ⟨x.key,x.uses+1⟩) rfl aM rfl (ZaC _) (by rw[Xb,ay.out];omega) ?_
 intro v' w7 G' ag I ax
 obtain⟨A',c',e7,_⟩:=ag.form'
 rw[Xd,Xb,List.length_singleton]at e7
 subst e7
 have O:=Kv I aK Q
 have c7:=Jc 0 O
 have f7:=Kf 0 O
 have aU:=D ag;have aQ:=D I;have aq:=D ax
 have aJ:=D ((ah.upd m).upd I aS)
 clear ag I ax;change Hid _ at O
 go_wp2_with fail
 refine⟨fun W=>W.cell? ⟨b,0,none⟩=some (.slice (some ⟨g,0,none⟩) (l.length-1) c)∧Zb W w.heap.size 0 (ZN ⟨x.key,x.uses+1⟩),fun W y=>y,⟨c7,aJ.out⟩,?_⟩
 repeat first|refine Jn ?_|refine Jf ?_|refine Ju ?_
 refine JL ?_
 go_wp2_with fail
 refine Jz ?_
 go_wp2_with fail
 go_ret2
 obtain⟨g1,g2⟩:=ZbN (w:=w) (G:=G) (cs:=fun v=> #[v, .int .i64 32]) (T:= 284) Q (q.out b (by rw[n.out];simp)) (Zd (i:=0) O _) ((Zc _ _ _ _).upd aU ((Zg.refl [b] w7).setCell (.inr (by simp)) _) (fun x hx j=>by
   rw[Jm j]at hx
   rcases aq b hx with C|C
   ·exact Q C
   ·have:=m.size;have:=p.size;have:=ad.size;have:=q.out b (by rw[n.out];simp);omega))
  (((((ad.out).trans p (fun x hx=> .inl (by simp at hx;omega))).trans m).trans aQ (fun x hx=> .inr (by simp[hx]))).setCell (.inr (by simp)) _) (fun x hx=>by
   rcases aq x hx with C|C
   ·exact .inl C
   ·right;have:=m.size;have:=p.size;have:=ad.size;omega)
 refine⟨_,rfl,_,?_,by rw[n.out];exact g2⟩
 have e9:(l.eraseIdx i++[(⟨x.key,x.uses+1⟩:Yp)]).map ZN=(l.eraseIdx i).map ZN++[ZN ⟨x.key,x.uses+1⟩]:=by simp
 unfold Ye
 rw[e9]
 exact g1
def ZiZ (h:Ye b l w F) (hl:l.length≤1000000) (hl2:32≤l.length) (key:Bs) (hq:l.findIdx? (fun o:Yp=>o.key==key)=none) (hz:l.findIdx? (fun o:Yp=>o.uses==0)=none):
  Calls Tryz.prog 226 #[.pointer (some ⟨b,0,none⟩), .string ⟨key.toArray⟩] w (ZcG 10 fun w'=>Ye b l w' F∧Zg [] w w'):=by
 have O:0<l.length:=by omega
 obtain⟨V,a⟩:=Je ((w.alloc (.cells #[.string ⟨#[]⟩, .int .i64 0] 360)).setRow w.heap.size (ZN ⟨key,0⟩).toArray)
 have z:=D (Za (w:=w) (.cells #[.string ⟨#[]⟩, .int .i64 0] 360 (0,0)))
 have y:=Kk a z
 have m:=Kh a
 have s:=D (show Zhi w V b l F ⟨key,0⟩from⟨(Zx _ _).upd h m,y,m⟩)
 have J:=D (ZaX s.lay key)
 have Y:=D ((Zx _ _).lt h)
 have M:=D (show Zu Tryz.prog 360 2=true by kernel_rfl)
 have P:=D (fun(x:Yp)=>show(ZN x).toArray.all (·.oneCell')=true by rw[Xl,Xk];exact ZaC x)
 clear y m;change Hid _ at a
 rw[Yi hq]at J
 clear hq h
 go_in
 go_wp2_with(refine Jo (ZN ⟨key,0⟩).toArray z M (P.out _) ?_;rw[←a.out])
 refine J.out.mono ?_
 rintro e d ⟨rfl,C⟩
 have r:=D (s.step C)
 clear C
 obtain⟨v,G,H,E,j,p⟩:=r.lay
 obtain⟨g,c,rfl⟩:∃g c,v= .slice (some ⟨g,0,none⟩) l.length c:=by
  rcases p.form with⟨_,K,_⟩|⟨g,c,_,R,_⟩
  ·rw[List.map_eq_nil_iff]at K;subst K;simp at O
  ·exact⟨g,c,by rw[R,Xb]⟩
 have S:=Zf (i:=0) j rfl
 have T:=Zf (i:=1) j rfl
 simp only[List.getElem_toArray,Xv,List.getElem_cons_succ]at S T
 have HB:=D j;have Q:=D p;have Z:=D H;have X:=D E
 clear j p H E
 have I:=D (fun(n:Nat)=>ZgS (w:=d.drewN n) ZN (fun o=>o.uses==0) 292 #[] Q.out (enters_of Tryz.func292 (by kernel_rfl) rfl) (fun W x _ hu=>Ziy x W))
 rw[Yi hz]at I
 clear hz
 go_upto_region 10 with fail
 go_quiet (fail)
 go_wp2_with fail
 refine(I.out _).mono ?_
 rintro e N ⟨rfl,k⟩
 generalize hwq:d.drewN _=wq at k
 have L:=D (show Zg [] d N from((Zg.refl [] d).drewN _).trans (by rw[hwq];exact k))
 have q:=D (r.step L)
 clear k hwq
 go_wp2_with fail
 go_ret2
 exact⟨_,rfl,q.lay,q.upd⟩
def Zjb (h:Ye b l w F) (hl:l.length≤1000000) (hl2:32≤l.length) (key:Bs) (hq:l.findIdx? (fun o:Yp=>o.key==key)=none) (hz:l.findIdx? (fun o:Yp=>o.uses==0)=some i):
  Calls Tryz.prog 226 #[.pointer (some ⟨b,0,none⟩), .string ⟨key.toArray⟩] w (ZcG 0 fun w'=>∃F',Ye b (Y6 l i++[⟨key,1⟩]) w' F'∧Zi w w' F F'):=by
 have hi:=Yv hz
 rw[Z7]
 obtain⟨x,hx⟩:∃x,l[i]? =some x:=⟨_,Xa hi⟩
 have HM:=D (show(l.map ZN)[i]? =some (ZN x)by rw[Xe,hx];rfl)
 clear hx
 obtain⟨w1,S⟩:=Je ((w.alloc (.cells #[.string ⟨#[]⟩, .int .i64 0] 360)).setRow w.heap.size (ZN ⟨key,0⟩).toArray)
 have ar:=D (Za (w:=w) (.cells #[.string ⟨#[]⟩, .int .i64 0] 360 (0,0)))
 have aq:=Kk S ar
 have ai:=Kh S
 have aI:=D (show Zhi w w1 b l F ⟨key,0⟩from⟨(Zx _ _).upd h ai,aq,ai⟩)
 have HQ:=D (ZaX aI.lay key)
 have s:=D ((Zx _ _).lt h)
 have ay:=D (show Zu Tryz.prog 360 2=true by kernel_rfl)
 have HO:=D (fun(x:Yp)=>show(ZN x).toArray.all (·.oneCell')=true by rw[Xl,Xk];exact ZaC x)
 clear aq ai;change Hid _ at S
 rw[Yi hq]at HQ
 clear hq h
 go_in
 go_wp2_with(refine Jo (ZN ⟨key,0⟩).toArray ar ay (HO.out _) ?_;rw[←S.out])
 refine HQ.out.mono ?_
 rintro e w2 ⟨rfl,az⟩
 have aA:=D (aI.step az)
 clear az
 obtain⟨v,G,hF,aH,hb,hr⟩:=aA.lay
 obtain⟨g,c,rfl⟩:∃g c,v= .slice (some ⟨g,0,none⟩) l.length c:=by
  rcases hr.form with⟨_,h0,_⟩|⟨g,c,_,h1,_⟩
  ·rw[List.map_eq_nil_iff]at h0;subst h0;simp at hi
  ·exact⟨g,c,by rw[h1,Xb]⟩
 have c0:=Zf (i:=0) hb rfl
 have c1:=Zf (i:=1) hb rfl
 simp only[List.getElem_toArray,Xv,List.getElem_cons_succ]at c0 c1
 have E:=D hb;have q:=D hr;have p:=D hF;have X:=D aH
 clear hb hr hF aH
 have HZ:=D (fun(n:Nat)=>ZgS (w:=w2.drewN n) ZN (fun o=>o.uses==0) 292 #[] q.out (enters_of Tryz.func292 (by kernel_rfl) rfl) (fun W x _ hu=>Ziy x W))
 rw[YC hz]at HZ
 clear hz
 go_upto_region 10 with fail
 go_quiet (fail)
 go_wp2_with fail
 refine(HZ.out _).mono ?_
 rintro e z ⟨rfl,ab⟩
 generalize hwq:w2.drewN _=wq at ab
 have aa:=D (show Zg [] w2 z from((Zg.refl [] w2).drewN _).trans (by rw[hwq];exact ab))
 have L:=D (aA.step aa)
 clear ab hwq
 have aZ:=(L.upd.size)
 have a4:=E;have a2:=q
 obtain⟨v',G',aT,aN,aX,a3⟩:=L.lay
 clear E q
 have E:=D ((Kv aa a4))
 have q:=D ((Zc _ _ _ _).upd a2 aa)
 clear aX a3 aN aT v' G' aZ
 have a1:=Jc 0 E.out
 have aL:z.cell? ⟨g,i*2,none⟩=some (.string ⟨x.key.toArray⟩):=q.liesAt HM 0 _ rfl
 go_upto_region 15 with fail
 clear aL a1
 have C:w.heap.size≠b:=by have:=s.out b (by rw[p.out];simp);omega
 have y:G=[g]:=by obtain⟨_,_,h2,_⟩:=q.block;exact h2
 have aC:b≠g:=fun e=>X.out (by rw[y,e];simp)
 have ax:w.heap.size≠g:=by have:=s.out g (by rw[p.out,y];simp);omega
 have P:Zg [w.heap.size] z z:=Zg.refl _ _
 have aF:z.heap[w.heap.size]? =some (.cells (ZN ⟨key,0⟩).toArray 360 (0,0)):=L.box
 have aj:=(Kv P E (by simpa using Ne.symm C))
 have ao:=(Zc _ _ _ _).upd q P (fun k a d=>by rw[y]at a;simp at a d;omega)
 have hd:=ZjM.del (by rw[Xb];exact ao) (Zde ZaC l) (i:=i) (by rw[Xb];exact hi)
 rw[Xb]at hd
 have HD:=D hd;have a0:=D aj;have aG:=D aC;have aO:=D ax;have aV:=D C
 have c3:=Jc 0 aj
 clear hd aj ao aC ax C c0 c1;change Hid _ at aF P y
 go_wp2_with fail
 refine HD.out.mono ?_
 rintro e w4 ⟨rfl,aE,N⟩
 have M:=(Kv N a0 (by simpa using aG.out))
 have aJ:=(Kv N aF (by simpa using aO.out))
 have c4:=Jc 0 M
 have f4:=Kf 0 M
 obtain⟨I,Q⟩:=Je (w4.setCell ⟨b,0,none⟩ (.slice (some ⟨g,0,none⟩) (l.length-1) c))
 have O:=Kd Q
 have aS:=D (show I.heap[b]? =some (.cells #[.slice (some ⟨g,0,none⟩) (l.length-1) c, .int .i64 32] 284 (0,0))by rw[Q,Zd M];rfl)
 have al:=D ((Kv O aJ (by simpa using aV.out)))
 have af:=(Zc _ _ _ _).upd aE O (fun k a d=>by simp at a d;exact aG (by omega))
 rw[Y9]at af
 have aY:=D (show Zk 360 2 (.slice (some ⟨g,0,none⟩) (l.length-1) c) ((l.eraseIdx i).map ZN) I G by rw[y.out];exact af)
 have ae:=D (show Zg (b::G) w I from(((L.upd.weaken (G:=b::G) (by simp)).trans P (fun k a=> .inl (by simp at a;omega))).trans N (fun k a=> .inr (by rw[y.out];simp at a;simp[a]))).trans O (fun k a=> .inr (by simp at a;simp[a])))
 have av:(l.eraseIdx i).length=l.length-1:=List.length_eraseIdx_of_lt hi
 clear aE N M aJ O af;change Hid _ at Q av
 go_upto_region 17 with fail
 rw[←Q.out]
 have k1:=Jc 1 al.out
 have a7:=Kf 1 al.out
 obtain⟨j,Z⟩:=Je (I.setCell ⟨w.heap.size,1,none⟩ (.int .i64 (1)))
 have C:w.heap.size≠b:=by have:=s.out b (by rw[p.out];simp);omega
 have r:Zg [w.heap.size] I j:=by rw[Z];exact(Zg.refl _ _).setCell (.inr (by simp)) _
 have aw:j.heap[w.heap.size]? =some (.cells (ZN ⟨key,1⟩).toArray 360 (0,0)):=by rw[Z,Zd al.out];rfl
 have ag:j.heap[b]? =_:=(Kv r aS (by simpa using Ne.symm C))
 have ad:w.heap.size∉G:=fun d=>by have:=s.out w.heap.size (by rw[p.out];simp[d]);omega
 have aD:=(Zc _ _ _ _).upd aY r (fun k a d=>by rw[Jm d]at a;exact ad a)
 have ak:=D (show Zb j w.heap.size 0 (ZN ⟨key,1⟩)from Zb.of_block aw)
 have aU:=D aD;have a5:=D ad
 clear aw aD ad;change Hid _ at r ag Z
 go_upto_region 18 with fail
 rw[←Z.out]
 have aB:=Jc 0 ag.out
 refine Jr [0,4,8,12,16,20,25,29,32,36,42] (fun W=>W.cell? ⟨b,0,none⟩=some (.slice (some ⟨g,0,none⟩) (l.length-1) c)∧Zb W w.heap.size 0 (ZN ⟨key,1⟩)) ⟨aB,ak.out⟩ ?_
 repeat first|refine Jn ?_|refine Jf ?_|refine Ju ?_
 refine JO (cs:=[.string ⟨key.toArray⟩, .int .i64 (1)]) ay.out (fun W H=>H.2) ?_
 refine JE ?_
 go_wp2_with fail
 obtain⟨Y,K⟩:=Je ((j.alloc (.cells #[.string ⟨key.toArray⟩, .int .i64 (1)] 360)).drew)
 rw[←K]
 have m:Zg [] j Y:=by rw[K];exact((Zg.refl [] _).alloc _).drew
 have ac:=Kv m ag
 have an:Zb Y j.heap.size 0 (ZN ⟨key,1⟩):=by rw[K];exact Zb.of_block (w:=j.alloc _) (Za _)
 have am:=(Zc _ _ _ _).upd aU m
 have aM:=D ac;have aQ:=D am;have aR:=D an
 have aK:=D (show Y.cell? ⟨b,0,none⟩=some (.slice (some ⟨g,0,none⟩) (l.length-1) c)from Zf (i:=0) ac rfl)
 clear ac am K an aB;change Hid _ at m
 refine⟨fun W=>W.cell? ⟨b,0,none⟩=some (.slice (some ⟨g,0,none⟩) (l.length-1) c)∧Zb W w.heap.size 0 (ZN ⟨key,1⟩),fun W H=>H,⟨aK,ak.upd m⟩,?_⟩
 refine JE ?_
 refine Zm Y rfl (.tmp 87) (.tmp 89) 282 rfl 360 Tryz.underlying282 Zfo rfl (by omega) (by omega) _ ((l.eraseIdx i).map ZN) G rfl aQ j.heap.size 1 (ZN ⟨key,1⟩) rfl aR rfl (ZaC _) (by rw[Xb,av.out];omega) ?_
 intro v' w7 G' ah R au
 obtain⟨A',c',e7,_⟩:=ah.form'
 rw[Xd,Xb,List.length_singleton]at e7
 subst e7
 have V:=Kv R aM X
 have c7:=Jc 0 V
 have f7:=Kf 0 V
 have a6:=D ah;have aW:=D R;have ap:=D au
 have aP:=D ((ak.upd m).upd R a5)
 clear ah R au;change Hid _ at V
 go_wp2_with fail
 refine⟨fun W=>W.cell? ⟨b,0,none⟩=some (.slice (some ⟨g,0,none⟩) (l.length-1) c)∧Zb W w.heap.size 0 (ZN ⟨key,1⟩),fun W H=>H,⟨c7,aP.out⟩,?_⟩
 repeat first|refine Jn ?_|refine Jf ?_|refine Ju ?_
 refine JL ?_
 go_wp2_with fail
 refine Jz ?_
 go_wp2_with fail
 go_ret2
 obtain⟨g1,g2⟩:=ZbN (w:=w) (G:=G) (cs:=fun v=> #[v, .int .i64 32]) (T:= 284) X (s.out b (by rw[p.out];simp)) (Zd (i:=0) V _) ((Zc _ _ _ _).upd a6 ((Zg.refl [b] w7).setCell (.inr (by simp)) _) (fun x hx d=>by
   rw[Jm d]at hx
   rcases ap b hx with J|J
   ·exact X J
   ·have:=m.size;have:=r.size;have:=ae.size;have:=s.out b (by rw[p.out];simp);omega))
  (((((ae.out).trans r (fun x hx=> .inl (by simp at hx;omega))).trans m).trans aW (fun x hx=> .inr (by simp[hx]))).setCell (.inr (by simp)) _) (fun x hx=>by
   rcases ap x hx with J|J
   ·exact .inl J
   ·right;have:=m.size;have:=r.size;have:=ae.size;omega)
 refine⟨_,rfl,_,?_,by rw[p.out];exact g2⟩
 have e9:(l.eraseIdx i++[(⟨key,1⟩:Yp)]).map ZN=(l.eraseIdx i).map ZN++[ZN ⟨key,1⟩]:=by simp
 unfold Ye
 rw[e9]
 exact g1
def Zoc (h:Ye b l w F) (hl:l.length≤1000000) (hus:∀x∈l,0≤x.uses) (key:Bs):
  Calls Tryz.prog 226 #[.pointer (some ⟨b,0,none⟩), .string ⟨key.toArray⟩] w (ZcG (Zkj l key).2 fun w'=>∃F',Ye b ((Zkj l key).1.getD l) w' F'∧Zi w w' F F'):=by
 unfold Zkj ZaI
 cases hq:l.findIdx? (fun o:Yp=>o.key==key)with
 |some i=>
  obtain⟨x,hx⟩:∃x,l[i]? =some x:=⟨_,Xa (Yv hq)⟩
  dsimp only
  rw[hx]
  dsimp only
  by_cases m:6≤x.uses
  ·rw[if_pos m]
   refine(Zh0 h key hq hx m).mono ?_
   rintro e w' ⟨s,g,j,c⟩
   exact⟨s,g,F,j,c.weaken (by simp),fun k d=> .inl d⟩
  ·rw[if_neg m]
   exact ZiN h hl key hq hx (by omega) (hus x (Xc hx))
 |none=>
  dsimp only
  by_cases a:32≤l.length
  ·rw[if_pos a]
   cases hz:l.findIdx? (fun o:Yp=>o.uses==0)with
   |some i=>
    dsimp only
    exact Zjb h hl a key hq hz
   |none=>
    dsimp only
    refine(ZiZ h hl a key hq hz).mono ?_
    rintro e w' ⟨s,g,j,c⟩
    exact⟨s,g,F,j,c.weaken (by simp),fun k d=> .inl d⟩
  ·rw[if_neg a]
   exact Zjc h key hq (by omega)
end Go.Proofs.YtlhapbopmplngaaGreatDoor
