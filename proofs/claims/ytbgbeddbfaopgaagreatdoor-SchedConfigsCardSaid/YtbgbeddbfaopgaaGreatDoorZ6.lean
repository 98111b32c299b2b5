import Derived.Laws.LoneSync
import Derived.Test.YtbgbeddbfaopgaaGreatDoorZ5
set_option linter.all false
set_option maxHeartbeats 16000000
set_option maxRecDepth 100000
set_option autoImplicit true
set_option relaxedAutoImplicit true
namespace Go.Proofs.YtbgbeddbfaopgaaGreatDoor
open Go.RowKit Go.Lk
def ZcN (c:Int) (Q:World→Prop) (e:Ending) (w':World):Prop:=∃s:ByteArray,e= .returned (.tuple #[.string s, .int .i64 c])∧Q w'
structure Zhd (w W:World) (b:Nat) (l:List Yu) (F:List Nat) (x:Yu):Prop where
 lay:Yj b l W F
 box:W.heap[w.heap.size]? =some (.cells (ZN x).toArray 356 (0,0))
 upd:Zg [] w W
theorem Zhd.step (h:Zhd w W b l F x) (hu:Zg [] W W1):Zhd w W1 b l F x:=
 ⟨(ZA _ _).upd h.lay hu (by simp),(hu.block _ (Jg h.box) (by simp)).trans h.box,h.upd.trans hu (by simp)⟩
theorem ZhN (h:Yj b l w F) (key:Bs) (hq:l.findIdx? (fun o:Yu=>o.key==key)=some i) (hx:l[i]? =some x) (hus:6≤x.uses):
  Calls Tryz.prog 228 #[.pointer (some ⟨b,0,none⟩), .string ⟨key.toArray⟩] w (ZcN 10 fun w'=>Yj b l w' F∧Zg [] w w'):=by
 have N:=Yv hq
 obtain⟨n,a⟩:=Je ((w.alloc (.cells #[.string ⟨#[]⟩, .int .i64 0] 356)).setRow w.heap.size (ZN ⟨key,0⟩).toArray)
 have s:=D (Za (w:=w) (.cells #[.string ⟨#[]⟩, .int .i64 0] 356 (0,0)))
 have r:n.heap[w.heap.size]? =some (.cells (ZN ⟨key,0⟩).toArray 356 (0,0)):=by rw[a];exact setRow_heap _ _ _ _ _ _ s.out
 have j:Zg [] w n:=by rw[a];exact((Zg.refl [] w).alloc _).setRow (.inl (Xi _)) _
 have q:=D (show Zhd w n b l F ⟨key,0⟩from⟨(ZA _ _).upd h j (by simp),r,j⟩)
 have C:=D (Za1 q.lay key)
 have R:=D ((ZA _ _).lt h)
 have H:=D (show Zu Tryz.prog 356 2=true by kernel_rfl)
 have L:=D (fun(x:Yu)=>show(ZN x).toArray.all (·.oneCell')=true by rw[Xl,Xk];exact ZaP x)
 clear r j;change Hid _ at a
 rw[Yw hq]at C
 have P:=D (show(l.map ZN)[i]? =some (ZN x)by rw[Xe,hx];rfl)
 clear hq hx h
 go_enter Tryz.func228,Tryz.ntmps228
 go_wp2_with(refine Jo (ZN ⟨key,0⟩).toArray s H (L.out _) ?_;rw[←a.out])
 refine C.out.mono ?_
 rintro e O ⟨rfl,p⟩
 have k:=D (q.step p)
 clear p
 obtain⟨v,G,z,y,d,m⟩:=k.lay
 obtain⟨g,c,rfl⟩:∃g c,v= .slice (some ⟨g,0,none⟩) l.length c:=by
  rcases m.form with⟨_,E,_⟩|⟨g,c,_,K,_⟩
  ·rw[List.map_eq_nil_iff]at E;subst E;simp at N
  ·exact⟨g,c,by rw[K,Xb]⟩
 have I:=Zc (i:=0) d rfl
 have J:=Zc (i:=1) d rfl
 simp only[List.getElem_toArray,Xv,List.getElem_cons_succ]at I J
 have V:=D d;have M:=D m;have S:=D z;have Q:=D y
 clear d m z y
 have T:O.cell? ⟨g,i*2+1,none⟩=some (.int .i64 x.uses):=M.liesAt P 1 _ rfl
 go_wp2_with fail
 go_ret2
 exact⟨_,rfl,k.lay,k.upd⟩
theorem ZiL (h:Yj b l w F) (key:Bs) (hq:l.findIdx? (fun o:Yu=>o.key==key)=none) (hl:l.length<32):
  Calls Tryz.prog 228 #[.pointer (some ⟨b,0,none⟩), .string ⟨key.toArray⟩] w (ZcN 0 fun w'=>∃F',Yj b (l++[⟨key,1⟩]) w' F'∧Zi w w' F F'):=by
 obtain⟨S,z⟩:=Je ((w.alloc (.cells #[.string ⟨#[]⟩, .int .i64 0] 356)).setRow w.heap.size (ZN ⟨key,0⟩).toArray)
 have ab:=D (Za (w:=w) (.cells #[.string ⟨#[]⟩, .int .i64 0] 356 (0,0)))
 have aa:S.heap[w.heap.size]? =some (.cells (ZN ⟨key,0⟩).toArray 356 (0,0)):=by rw[z];exact setRow_heap _ _ _ _ _ _ ab.out
 have L:Zg [] w S:=by rw[z];exact((Zg.refl [] w).alloc _).setRow (.inl (Xi _)) _
 have ai:=D (show Zhd w S b l F ⟨key,0⟩from⟨(ZA _ _).upd h L (by simp),aa,L⟩)
 have HQ:=D (Za1 ai.lay key)
 have C:=D ((ZA _ _).lt h)
 have aj:=D (show Zu Tryz.prog 356 2=true by kernel_rfl)
 have HO:=D (fun(x:Yu)=>show(ZN x).toArray.all (·.oneCell')=true by rw[Xl,Xk];exact ZaP x)
 clear aa L;change Hid _ at z
 rw[Yo hq]at HQ
 clear hq h
 go_enter Tryz.func228,Tryz.ntmps228
 go_wp2_with(refine Jo (ZN ⟨key,0⟩).toArray ab aj (HO.out _) ?_;rw[←z.out])
 refine HQ.out.mono ?_
 rintro e w2 ⟨rfl,Z⟩
 have O:=D (ai.step Z)
 clear Z
 obtain⟨v,G,hF,ad,hb,I⟩:=O.lay
 obtain⟨A,c,rfl,hc⟩:=I.form'
 rw[Xb]at hc hb I
 have c0:=Zc (i:=0) hb rfl
 have c1:=Zc (i:=1) hb rfl
 simp only[List.getElem_toArray,Xv,List.getElem_cons_succ]at c0 c1
 have HB:=D hb;have HR:=D I;have p:=D hF;have N:=D ad
 have aw:=D O.box
 clear hb I hF ad
 go_upto_region 10 with fail
 go_quiet (fail)
 generalize hwq:w2.drewN _=wq
 have af:=D (show wq.heap[b]? =some (.cells #[.slice A l.length c, .int .i64 32] 202 (0,0))by rw[←hwq];exact HB)
 have ay:=D (show Zj 356 2 (.slice A l.length c) (l.map ZN) wq G by rw[←hwq];exact HR)
 have K:=D (show wq.heap[w.heap.size]? =some (.cells (ZN ⟨key,0⟩).toArray 356 (0,0))by rw[←hwq];exact aw)
 have R:=D (show Zg (b::G) w wq by rw[←hwq];exact(O.upd.drewN _).weaken (by simp))
 clear hwq c0 c1
 have k1:=Jc 1 K.out
 have az:wq.frozen? ⟨w.heap.size,1,none⟩=false:=Zk K.out
 obtain⟨a,y⟩:=Je (wq.setCell ⟨w.heap.size,1,none⟩ (.int .i64 (1)))
 have av:w.heap.size≠b:=by have:=C.out b (by rw[p.out];simp);omega
 have g:Zg [w.heap.size] wq a:=by rw[y];exact(Zg.refl _ _).setCell (.inr (by simp)) _
 have ak:a.heap[w.heap.size]? =some (.cells (ZN ⟨key,1⟩).toArray 356 (0,0)):=by rw[y,Ze K.out];rfl
 have E:a.heap[b]? =_:=(g.block b (Jg af) (by simpa using Ne.symm av)).trans af.out
 have Q:w.heap.size∉G:=fun m=>by have:=C.out w.heap.size (by rw[p.out];simp[m]);omega
 have ac:=(Zd _ _ _ _).upd ay g (fun k hk m=>by rw[Jm m]at hk;exact Q hk)
 have M:=D (show Zb a w.heap.size 0 (ZN ⟨key,1⟩)from Zb.of_block ak)
 have ap:=D ac;have aq:=D Q
 clear ak ac Q;change Hid _ at g E y
 go_upto_region 18 with fail
 rw[←y.out]
 have ah:=Jc 0 E.out
 refine Jr [0,4,8,12,16,20,25,29,32,36,42] (fun W=>W.cell? ⟨b,0,none⟩=some (.slice A l.length c)∧Zb W w.heap.size 0 (ZN ⟨key,1⟩)) ⟨ah,M.out⟩ ?_
 repeat first|refine Jn ?_|refine Jf ?_|refine Ju ?_
 apply Zq (t:= 356) (b:=w.heap.size) (of:=0) (cs:=[.string ⟨key.toArray⟩, .int .i64 (1)])
 case ho=>simp only[Xh,Xf,Xg];rfl
 case hg=>rfl
 case hop=>rfl
 case hx=>rfl
 case ht=>exact aj.out
 case hb=>exact fun W n=>n.2
 case ha=>go_simp;rfl
 refine JE ?_
 go_wp2_with fail
 obtain⟨r,q⟩:=Je ((a.alloc (.cells #[.string ⟨key.toArray⟩, .int .i64 (1)] 356)).drew)
 rw[←q]
 have d:Zg [] a r:=by rw[q];exact((Zg.refl [] _).alloc _).drew
 have J:=(d.block b (Jg E) (by simp)).trans E.out
 have X:Zb r a.heap.size 0 (ZN ⟨key,1⟩):=by rw[q];exact Zb.of_block (w:=a.alloc _) (Za _)
 have V:=(Zd _ _ _ _).upd ap d (by simp)
 have Y:=D J;have am:=D V;have an:=D X
 have al:=D (show r.cell? ⟨b,0,none⟩=some (.slice A l.length c)from Zc (i:=0) J rfl)
 clear J V q X ah;change Hid _ at d
 refine⟨fun W=>W.cell? ⟨b,0,none⟩=some (.slice A l.length c)∧Zb W w.heap.size 0 (ZN ⟨key,1⟩),fun W n=>n,⟨al,M.upd d (by simp)⟩,?_⟩
 refine JE ?_
 refine Zn r rfl (.tmp 87) (.tmp 89) 200 rfl 356 Tryz.underlying200 Zfu rfl (by omega) (by omega) _ ((l).map ZN) G rfl am a.heap.size 1 (ZN ⟨key,1⟩) rfl an rfl (ZaP _) (by rw[Xb];omega) ?_
 intro v' w7 G' P s ag
 obtain⟨A',c',e7,_⟩:=P.form'
 rw[Xd,Xb,List.length_singleton]at e7
 subst e7
 have H:=(s.block b (Jg Y) N).trans Y.out
 have c7:=Jc 0 H
 have f7:w7.frozen? ⟨b,0,none⟩=false:=Zk H
 have ar:=D H;have ax:=D P;have au:=D s;have ae:=D ag
 have ao:=D ((M.upd d (by simp)).upd s aq)
 clear H P s ag
 go_wp2_with fail
 refine⟨fun W=>W.cell? ⟨b,0,none⟩=some (.slice A l.length c)∧Zb W w.heap.size 0 (ZN ⟨key,1⟩),fun W n=>n,⟨c7,ao.out⟩,?_⟩
 repeat first|refine Jn ?_|refine Jf ?_|refine Ju ?_
 refine JL ?_
 go_wp2_with fail
 refine Jz ?_
 go_wp2_with fail
 go_ret2
 obtain⟨g1,g2⟩:=ZbX (w:=w) (G:=G) (cs:=fun v=> #[v, .int .i64 32]) (T:= 202) N (C.out b (by rw[p.out];simp)) (Ze (i:=0) ar _) ((Zd _ _ _ _).upd ax ((Zg.refl [b] w7).setCell (.inr (by simp)) _) (fun x hx m=>by
   rw[Jm m]at hx
   rcases ae b hx with j|j
   ·exact N j
   ·have:=d.size;have:=g.size;have:=R.size;have:=C.out b (by rw[p.out];simp);omega))
  (((((R.out).trans g (fun x hx=> .inl (by simp at hx;omega))).trans d (by simp)).trans au (fun x hx=> .inr (by simp[hx]))).setCell (.inr (by simp)) _) (fun x hx=>by
   rcases ae x hx with j|j
   ·exact .inl j
   ·right;have:=d.size;have:=g.size;have:=R.size;omega)
 refine⟨_,rfl,_,?_,by rw[p.out];exact g2⟩
 have e9:(l++[(⟨key,1⟩:Yu)]).map ZN=l.map ZN++[ZN ⟨key,1⟩]:=by simp
 unfold Yj
 rw[e9]
 exact g1
theorem Zih (h:Yj b l w F) (hl:l.length≤1000000) (key:Bs) (hq:l.findIdx? (fun o:Yu=>o.key==key)=some i) (hx:l[i]? =some x) (hus:x.uses<6) (hus0:0≤x.uses):
  Calls Tryz.prog 228 #[.pointer (some ⟨b,0,none⟩), .string ⟨key.toArray⟩] w (ZcN 0 fun w'=>∃F',Yj b (Zaa l i++[⟨x.key,x.uses+1⟩]) w' F'∧Zi w w' F F'):=by
 have hi:=Yv hq
 rw[Ya]
 obtain⟨w1,P⟩:=Je ((w.alloc (.cells #[.string ⟨#[]⟩, .int .i64 0] 356)).setRow w.heap.size (ZN ⟨key,0⟩).toArray)
 have au:=D (Za (w:=w) (.cells #[.string ⟨#[]⟩, .int .i64 0] 356 (0,0)))
 have ar:w1.heap[w.heap.size]? =some (.cells (ZN ⟨key,0⟩).toArray 356 (0,0)):=by rw[P];exact setRow_heap _ _ _ _ _ _ au.out
 have ac:Zg [] w w1:=by rw[P];exact((Zg.refl [] w).alloc _).setRow (.inl (Xi _)) _
 have aE:=D (show Zhd w w1 b l F ⟨key,0⟩from⟨(ZA _ _).upd h ac (by simp),ar,ac⟩)
 have HQ:=D (Za1 aE.lay key)
 have q:=D ((ZA _ _).lt h)
 have R:=D (show Zu Tryz.prog 356 2=true by kernel_rfl)
 have HO:=D (fun(x:Yu)=>show(ZN x).toArray.all (·.oneCell')=true by rw[Xl,Xk];exact ZaP x)
 clear ar ac;change Hid _ at P
 rw[Yw hq]at HQ
 have HM:=D (show(l.map ZN)[i]? =some (ZN x)by rw[Xe,hx];rfl)
 clear hq hx h
 go_enter Tryz.func228,Tryz.ntmps228
 go_wp2_with(refine Jo (ZN ⟨key,0⟩).toArray au R (HO.out _) ?_;rw[←P.out])
 refine HQ.out.mono ?_
 rintro e w2 ⟨rfl,aq⟩
 have af:=D (aE.step aq)
 clear aq
 obtain⟨v,G,hF,aw,hb,hr⟩:=af.lay
 obtain⟨g,c,rfl⟩:∃g c,v= .slice (some ⟨g,0,none⟩) l.length c:=by
  rcases hr.form with⟨_,h0,_⟩|⟨g,c,_,h1,_⟩
  ·rw[List.map_eq_nil_iff]at h0;subst h0;simp at hi
  ·exact⟨g,c,by rw[h1,Xb]⟩
 have c0:=Zc (i:=0) hb rfl
 have c1:=Zc (i:=1) hb rfl
 simp only[List.getElem_toArray,Xv,List.getElem_cons_succ]at c0 c1
 have HB:=D hb;have Y:=D hr;have p:=D hF;have N:=D aw
 clear hb hr hF aw
 have c2:w2.cell? ⟨g,i*2+1,none⟩=some (.int .i64 x.uses):=Y.liesAt HM 1 _ rfl
 have aT:=D (Y.liesAt HM)
 have am:=D af.box
 obtain⟨w3,I⟩:=Je (w2.setRow w.heap.size (ZN x).toArray)
 change Hid _ at I
 go_upto_region 15 with(first|refine Js aT R ?_|(refine Jo (ZN x).toArray am R (HO.out _) ?_;rw[←I.out]))
 clear c2
 have y:w.heap.size≠b:=by have:=q.out b (by rw[p.out];simp);omega
 have s:G=[g]:=by obtain⟨_,_,h2,_⟩:=Y.block;exact h2
 have aH:b≠g:=fun e=>N.out (by rw[s,e];simp)
 have ay:w.heap.size≠g:=by have:=q.out g (by rw[p.out,s];simp);omega
 have S:Zg [w.heap.size] w2 w3:=by rw[I.out];exact(Zg.refl _ _).setRow (.inr (by simp)) _
 have aa:w3.heap[w.heap.size]? =some (.cells (ZN x).toArray 356 (0,0)):=by rw[I.out];exact setRow_heap _ _ _ _ _ _ am.out
 have ai:=(S.block b (Jg HB) (by simpa using Ne.symm y)).trans HB.out
 have aI:=(Zd _ _ _ _).upd Y S (fun k a j=>by rw[s]at a;simp at a j;omega)
 have hd:=ZkG (by rw[Xb];exact aI) (Zdn ZaP l) (i:=i) (by rw[Xb];exact hi)
 rw[Xb]at hd
 have HD:=D hd;have ap:=D ai;have aA:=D aH;have aN:=D ay;have aV:=D y
 have c3:=Jc 0 ai
 clear hd ai aI aH ay y c0 c1;change Hid _ at aa S s
 go_wp2_with fail
 refine HD.out.mono ?_
 rintro e w4 ⟨rfl,aB,L⟩
 have O:=(L.block b (Jg ap) (by simpa using aA.out)).trans ap.out
 have ae:=(L.block _ (Jg aa) (by simpa using aN.out)).trans aa.out
 have c4:=Jc 0 O
 have f4:w4.frozen? ⟨b,0,none⟩=false:=Zk O
 obtain⟨n,V⟩:=Je (w4.setCell ⟨b,0,none⟩ (.slice (some ⟨g,0,none⟩) (l.length-1) c))
 have K:Zg [b] w4 n:=by rw[V];exact(Zg.refl _ _).setCell (.inr (by simp)) _
 have aF:=D (show n.heap[b]? =some (.cells #[.slice (some ⟨g,0,none⟩) (l.length-1) c, .int .i64 32] 202 (0,0))by rw[V,Ze O];rfl)
 have ak:=D ((K.block _ (Jg ae) (by simpa using aV.out)).trans ae)
 have ab:=(Zd _ _ _ _).upd aB K (fun k a j=>by simp at a j;exact aA (by omega))
 rw[Y0]at ab
 have aS:=D (show Zj 356 2 (.slice (some ⟨g,0,none⟩) (l.length-1) c) ((l.eraseIdx i).map ZN) n G by rw[s.out];exact ab)
 have aj:=D (show Zg (b::G) w n from(((af.upd.weaken (G:=b::G) (by simp)).trans S (fun k a=> .inl (by simp at a;omega))).trans L (fun k a=> .inr (by rw[s.out];simp at a;simp[a]))).trans K (fun k a=> .inr (by simp at a;simp[a])))
 have az:(l.eraseIdx i).length=l.length-1:=List.length_eraseIdx_of_lt hi
 clear aB L O ae K ab;change Hid _ at V az
 go_upto_region 17 with fail
 rw[←V.out]
 have k1:=Jc 1 ak.out
 have aW:n.frozen? ⟨w.heap.size,1,none⟩=false:=Zk ak.out
 obtain⟨d,M⟩:=Je (n.setCell ⟨w.heap.size,1,none⟩ (.int .i64 (x.uses+1)))
 have y:w.heap.size≠b:=by have:=q.out b (by rw[p.out];simp);omega
 have r:Zg [w.heap.size] n d:=by rw[M];exact(Zg.refl _ _).setCell (.inr (by simp)) _
 have aG:d.heap[w.heap.size]? =some (.cells (ZN ⟨x.key,x.uses+1⟩).toArray 356 (0,0)):=by rw[M,Ze ak.out];rfl
 have X:d.heap[b]? =_:=(r.block b (Jg aF) (by simpa using Ne.symm y)).trans aF.out
 have ah:w.heap.size∉G:=fun j=>by have:=q.out w.heap.size (by rw[p.out];simp[j]);omega
 have av:=(Zd _ _ _ _).upd aS r (fun k a j=>by rw[Jm j]at a;exact ah a)
 have ad:=D (show Zb d w.heap.size 0 (ZN ⟨x.key,x.uses+1⟩)from Zb.of_block aG)
 have aO:=D av;have aP:=D ah
 clear aG av ah;change Hid _ at r X M
 go_upto_region 18 with fail
 rw[←M.out]
 have aD:=Jc 0 X.out
 refine Jr [0,4,8,12,16,20,25,29,32,36,42] (fun W=>W.cell? ⟨b,0,none⟩=some (.slice (some ⟨g,0,none⟩) (l.length-1) c)∧Zb W w.heap.size 0 (ZN ⟨x.key,x.uses+1⟩)) ⟨aD,ad.out⟩ ?_
 repeat first|refine Jn ?_|refine Jf ?_|refine Ju ?_
 apply Zq (t:= 356) (b:=w.heap.size) (of:=0) (cs:=[.string ⟨x.key.toArray⟩, .int .i64 (x.uses+1)])
 case ho=>simp only[Xh,Xf,Xg];rfl
 case hg=>rfl
 case hop=>rfl
 case hx=>rfl
 case ht=>exact R.out
 case hb=>exact fun W C=>C.2
 case ha=>go_simp;rfl
 refine JE ?_
 go_wp2_with fail
 obtain⟨H,E⟩:=Je ((d.alloc (.cells #[.string ⟨x.key.toArray⟩, .int .i64 (x.uses+1)] 356)).drew)
 rw[←E]
 have m:Zg [] d H:=by rw[E];exact((Zg.refl [] _).alloc _).drew
 have Z:=(m.block b (Jg X) (by simp)).trans X.out
 have an:Zb H d.heap.size 0 (ZN ⟨x.key,x.uses+1⟩):=by rw[E];exact Zb.of_block (w:=d.alloc _) (Za _)
 have al:=(Zd _ _ _ _).upd aO m (by simp)
 have ao:=D Z;have aK:=D al;have aL:=D an
 have aJ:=D (show H.cell? ⟨b,0,none⟩=some (.slice (some ⟨g,0,none⟩) (l.length-1) c)from Zc (i:=0) Z rfl)
 clear Z al E an aD;change Hid _ at m
 refine⟨fun W=>W.cell? ⟨b,0,none⟩=some (.slice (some ⟨g,0,none⟩) (l.length-1) c)∧Zb W w.heap.size 0 (ZN ⟨x.key,x.uses+1⟩),fun W C=>C,⟨aJ,ad.upd m (by simp)⟩,?_⟩
 refine JE ?_
 refine Zn H rfl (.tmp 87) (.tmp 89) 200 rfl 356 Tryz.underlying200 Zfu rfl (by omega) (by omega) _ ((l.eraseIdx i).map ZN) G rfl aK d.heap.size 1 (ZN ⟨x.key,x.uses+1⟩) rfl aL rfl (ZaP _) (by rw[Xb,az.out];omega) ?_
 intro v' w7 G' ag J aC
 obtain⟨A',c',e7,_⟩:=ag.form'
 rw[Xd,Xb,List.length_singleton]at e7
 subst e7
 have Q:=(J.block b (Jg ao) N).trans ao.out
 have c7:=Jc 0 Q
 have f7:w7.frozen? ⟨b,0,none⟩=false:=Zk Q
 have aQ:=D Q;have aU:=D ag;have aR:=D J;have ax:=D aC
 have aM:=D ((ad.upd m (by simp)).upd J aP)
 clear Q ag J aC
 go_wp2_with fail
 refine⟨fun W=>W.cell? ⟨b,0,none⟩=some (.slice (some ⟨g,0,none⟩) (l.length-1) c)∧Zb W w.heap.size 0 (ZN ⟨x.key,x.uses+1⟩),fun W C=>C,⟨c7,aM.out⟩,?_⟩
 repeat first|refine Jn ?_|refine Jf ?_|refine Ju ?_
 refine JL ?_
 go_wp2_with fail
 refine Jz ?_
 go_wp2_with fail
 go_ret2
 obtain⟨g1,g2⟩:=ZbX (w:=w) (G:=G) (cs:=fun v=> #[v, .int .i64 32]) (T:= 202) N (q.out b (by rw[p.out];simp)) (Ze (i:=0) aQ _) ((Zd _ _ _ _).upd aU ((Zg.refl [b] w7).setCell (.inr (by simp)) _) (fun x hx j=>by
   rw[Jm j]at hx
   rcases ax b hx with z|z
   ·exact N z
   ·have:=m.size;have:=r.size;have:=aj.size;have:=q.out b (by rw[p.out];simp);omega))
  (((((aj.out).trans r (fun x hx=> .inl (by simp at hx;omega))).trans m (by simp)).trans aR (fun x hx=> .inr (by simp[hx]))).setCell (.inr (by simp)) _) (fun x hx=>by
   rcases ax x hx with z|z
   ·exact .inl z
   ·right;have:=m.size;have:=r.size;have:=aj.size;omega)
 refine⟨_,rfl,_,?_,by rw[p.out];exact g2⟩
 have e9:(l.eraseIdx i++[(⟨x.key,x.uses+1⟩:Yu)]).map ZN=(l.eraseIdx i).map ZN++[ZN ⟨x.key,x.uses+1⟩]:=by simp
 unfold Yj
 rw[e9]
 exact g1
theorem Zh4 (h:Yj b l w F) (hl:l.length≤1000000) (hl2:32≤l.length) (key:Bs) (hq:l.findIdx? (fun o:Yu=>o.key==key)=none) (hz:l.findIdx? (fun o:Yu=>o.uses==0)=none):
  Calls Tryz.prog 228 #[.pointer (some ⟨b,0,none⟩), .string ⟨key.toArray⟩] w (ZcN 10 fun w'=>Yj b l w' F∧Zg [] w w'):=by
 have S:0<l.length:=by omega
 obtain⟨q,a⟩:=Je ((w.alloc (.cells #[.string ⟨#[]⟩, .int .i64 0] 356)).setRow w.heap.size (ZN ⟨key,0⟩).toArray)
 have C:=D (Za (w:=w) (.cells #[.string ⟨#[]⟩, .int .i64 0] 356 (0,0)))
 have z:q.heap[w.heap.size]? =some (.cells (ZN ⟨key,0⟩).toArray 356 (0,0)):=by rw[a];exact setRow_heap _ _ _ _ _ _ C.out
 have m:Zg [] w q:=by rw[a];exact((Zg.refl [] w).alloc _).setRow (.inl (Xi _)) _
 have y:=D (show Zhd w q b l F ⟨key,0⟩from⟨(ZA _ _).upd h m (by simp),z,m⟩)
 have J:=D (Za1 y.lay key)
 have Y:=D ((ZA _ _).lt h)
 have N:=D (show Zu Tryz.prog 356 2=true by kernel_rfl)
 have R:=D (fun(x:Yu)=>show(ZN x).toArray.all (·.oneCell')=true by rw[Xl,Xk];exact ZaP x)
 clear z m;change Hid _ at a
 rw[Yo hq]at J
 clear hq h
 go_enter Tryz.func228,Tryz.ntmps228
 go_wp2_with(refine Jo (ZN ⟨key,0⟩).toArray C N (R.out _) ?_;rw[←a.out])
 refine J.out.mono ?_
 rintro e d ⟨rfl,s⟩
 have H:=D (y.step s)
 clear s
 obtain⟨v,G,K,E,j,p⟩:=H.lay
 obtain⟨g,c,rfl⟩:∃g c,v= .slice (some ⟨g,0,none⟩) l.length c:=by
  rcases p.form with⟨_,L,_⟩|⟨g,c,_,Q,_⟩
  ·rw[List.map_eq_nil_iff]at L;subst L;simp at S
  ·exact⟨g,c,by rw[Q,Xb]⟩
 have P:=Zc (i:=0) j rfl
 have T:=Zc (i:=1) j rfl
 simp only[List.getElem_toArray,Xv,List.getElem_cons_succ]at P T
 have HB:=D j;have V:=D p;have HF:=D K;have X:=D E
 clear j p K E
 have I:=D (fun(n:Nat)=>ZgC (w:=d.drewN n) ZN (fun o=>o.uses==0) 294 #[] V.out (enters_of Tryz.func294 (by kernel_rfl) rfl) (fun W x _ Z=>Zip x W))
 rw[Yo hz]at I
 clear hz
 go_upto_region 10 with fail
 go_quiet (fail)
 go_wp2_with fail
 refine(I.out _).mono ?_
 rintro e O ⟨rfl,k⟩
 generalize hwq:d.drewN _=wq at k
 have M:=D (show Zg [] d O from((Zg.refl [] d).drewN _).trans (by rw[hwq];exact k) (by simp))
 have r:=D (H.step M)
 clear k hwq
 go_wp2_with fail
 go_ret2
 exact⟨_,rfl,r.lay,r.upd⟩
theorem ZiK (h:Yj b l w F) (hl:l.length≤1000000) (hl2:32≤l.length) (key:Bs) (hq:l.findIdx? (fun o:Yu=>o.key==key)=none) (hz:l.findIdx? (fun o:Yu=>o.uses==0)=some i):
  Calls Tryz.prog 228 #[.pointer (some ⟨b,0,none⟩), .string ⟨key.toArray⟩] w (ZcN 0 fun w'=>∃F',Yj b (Zaa l i++[⟨key,1⟩]) w' F'∧Zi w w' F F'):=by
 have hi:=Yv hz
 rw[Ya]
 obtain⟨x,hx⟩:∃x,l[i]? =some x:=⟨_,Xa hi⟩
 have HM:=D (show(l.map ZN)[i]? =some (ZN x)by rw[Xe,hx];rfl)
 clear hx
 obtain⟨w1,Y⟩:=Je ((w.alloc (.cells #[.string ⟨#[]⟩, .int .i64 0] 356)).setRow w.heap.size (ZN ⟨key,0⟩).toArray)
 have aw:=D (Za (w:=w) (.cells #[.string ⟨#[]⟩, .int .i64 0] 356 (0,0)))
 have av:w1.heap[w.heap.size]? =some (.cells (ZN ⟨key,0⟩).toArray 356 (0,0)):=by rw[Y];exact setRow_heap _ _ _ _ _ _ aw.out
 have ag:Zg [] w w1:=by rw[Y];exact((Zg.refl [] w).alloc _).setRow (.inl (Xi _)) _
 have aD:=D (show Zhd w w1 b l F ⟨key,0⟩from⟨(ZA _ _).upd h ag (by simp),av,ag⟩)
 have HQ:=D (Za1 aD.lay key)
 have s:=D ((ZA _ _).lt h)
 have aK:=D (show Zu Tryz.prog 356 2=true by kernel_rfl)
 have HO:=D (fun(x:Yu)=>show(ZN x).toArray.all (·.oneCell')=true by rw[Xl,Xk];exact ZaP x)
 clear av ag;change Hid _ at Y
 rw[Yo hq]at HQ
 clear hq h
 go_enter Tryz.func228,Tryz.ntmps228
 go_wp2_with(refine Jo (ZN ⟨key,0⟩).toArray aw aK (HO.out _) ?_;rw[←Y.out])
 refine HQ.out.mono ?_
 rintro e w2 ⟨rfl,ar⟩
 have aB:=D (aD.step ar)
 clear ar
 obtain⟨v,G,hF,ax,hb,hr⟩:=aB.lay
 obtain⟨g,c,rfl⟩:∃g c,v= .slice (some ⟨g,0,none⟩) l.length c:=by
  rcases hr.form with⟨_,h0,_⟩|⟨g,c,_,h1,_⟩
  ·rw[List.map_eq_nil_iff]at h0;subst h0;simp at hi
  ·exact⟨g,c,by rw[h1,Xb]⟩
 have c0:=Zc (i:=0) hb rfl
 have c1:=Zc (i:=1) hb rfl
 simp only[List.getElem_toArray,Xv,List.getElem_cons_succ]at c0 c1
 have C:=D hb;have q:=D hr;have r:=D hF;have X:=D ax
 clear hb hr hF ax
 have HZ:=D (fun(n:Nat)=>ZgC (w:=w2.drewN n) ZN (fun o=>o.uses==0) 294 #[] q.out (enters_of Tryz.func294 (by kernel_rfl) rfl) (fun W x _ hu=>Zip x W))
 rw[Yw hz]at HZ
 clear hz
 go_upto_region 10 with fail
 go_quiet (fail)
 go_wp2_with fail
 refine(HZ.out _).mono ?_
 rintro e H ⟨rfl,ac⟩
 generalize hwq:w2.drewN _=wq at ac
 have ab:=D (show Zg [] w2 H from((Zg.refl [] w2).drewN _).trans (by rw[hwq];exact ac) (by simp))
 have L:=D (aB.step ab)
 clear ac hwq
 have a1:=(L.upd.size)
 have aH:=C;have a7:=q
 obtain⟨v',G',aY,aP,a2,aZ⟩:=L.lay
 clear C q
 have C:=D ((ab.block b (Jg aH) (by simp)).trans aH)
 have q:=D ((Zd _ _ _ _).upd a7 ab (by simp))
 clear a2 aZ aP aY v' G' a1
 have aW:=Jc 0 C.out
 have aO:H.cell? ⟨g,i*2,none⟩=some (.string ⟨x.key.toArray⟩):=q.liesAt HM 0 _ rfl
 go_upto_region 15 with fail
 clear aO aW
 have E:w.heap.size≠b:=by have:=s.out b (by rw[r.out];simp);omega
 have z:G=[g]:=by obtain⟨_,_,h2,_⟩:=q.block;exact h2
 have aN:b≠g:=fun e=>X.out (by rw[z,e];simp)
 have az:w.heap.size≠g:=by have:=s.out g (by rw[r.out,z];simp);omega
 have aa:Zg [w.heap.size] H H:=Zg.refl _ _
 have ae:H.heap[w.heap.size]? =some (.cells (ZN ⟨key,0⟩).toArray 356 (0,0)):=L.box
 have ak:=(aa.block b (Jg C) (by simpa using Ne.symm E)).trans C.out
 have aE:=(Zd _ _ _ _).upd q aa (fun k a j=>by rw[z]at a;simp at a j;omega)
 have hd:=ZkG (by rw[Xb];exact aE) (Zdn ZaP l) (i:=i) (by rw[Xb];exact hi)
 rw[Xb]at hd
 have HD:=D hd;have au:=D ak;have aG:=D aN;have aU:=D az;have a6:=D E
 have c3:=Jc 0 ak
 clear hd ak aE aN az E c0 c1;change Hid _ at ae aa z
 go_wp2_with fail
 refine HD.out.mono ?_
 rintro e w4 ⟨rfl,aJ,O⟩
 have P:=(O.block b (Jg au) (by simpa using aG.out)).trans au.out
 have ai:=(O.block _ (Jg ae) (by simpa using aU.out)).trans ae.out
 have c4:=Jc 0 P
 have f4:w4.frozen? ⟨b,0,none⟩=false:=Zk P
 obtain⟨p,Q⟩:=Je (w4.setCell ⟨b,0,none⟩ (.slice (some ⟨g,0,none⟩) (l.length-1) c))
 have N:Zg [b] w4 p:=by rw[Q];exact(Zg.refl _ _).setCell (.inr (by simp)) _
 have aL:=D (show p.heap[b]? =some (.cells #[.slice (some ⟨g,0,none⟩) (l.length-1) c, .int .i64 32] 202 (0,0))by rw[Q,Ze P];rfl)
 have an:=D ((N.block _ (Jg ai) (by simpa using a6.out)).trans ai)
 have af:=(Zd _ _ _ _).upd aJ N (fun k a j=>by simp at a j;exact aG (by omega))
 rw[Y0]at af
 have aX:=D (show Zj 356 2 (.slice (some ⟨g,0,none⟩) (l.length-1) c) ((l.eraseIdx i).map ZN) p G by rw[z.out];exact af)
 have am:=D (show Zg (b::G) w p from(((L.upd.weaken (G:=b::G) (by simp)).trans aa (fun k a=> .inl (by simp at a;omega))).trans O (fun k a=> .inr (by rw[z.out];simp at a;simp[a]))).trans N (fun k a=> .inr (by simp at a;simp[a])))
 have aA:(l.eraseIdx i).length=l.length-1:=List.length_eraseIdx_of_lt hi
 clear aJ O P ai N af;change Hid _ at Q aA
 go_upto_region 17 with fail
 rw[←Q.out]
 have k1:=Jc 1 an.out
 have a8:p.frozen? ⟨w.heap.size,1,none⟩=false:=Zk an.out
 obtain⟨d,V⟩:=Je (p.setCell ⟨w.heap.size,1,none⟩ (.int .i64 (1)))
 have E:w.heap.size≠b:=by have:=s.out b (by rw[r.out];simp);omega
 have y:Zg [w.heap.size] p d:=by rw[V];exact(Zg.refl _ _).setCell (.inr (by simp)) _
 have aM:d.heap[w.heap.size]? =some (.cells (ZN ⟨key,1⟩).toArray 356 (0,0)):=by rw[V,Ze an.out];rfl
 have R:d.heap[b]? =_:=(y.block b (Jg aL) (by simpa using Ne.symm E)).trans aL.out
 have al:w.heap.size∉G:=fun j=>by have:=s.out w.heap.size (by rw[r.out];simp[j]);omega
 have aF:=(Zd _ _ _ _).upd aX y (fun k a j=>by rw[Jm j]at a;exact al a)
 have ah:=D (show Zb d w.heap.size 0 (ZN ⟨key,1⟩)from Zb.of_block aM)
 have aV:=D aF;have a3:=D al
 clear aM aF al;change Hid _ at y R V
 go_upto_region 18 with fail
 rw[←V.out]
 have aC:=Jc 0 R.out
 refine Jr [0,4,8,12,16,20,25,29,32,36,42] (fun W=>W.cell? ⟨b,0,none⟩=some (.slice (some ⟨g,0,none⟩) (l.length-1) c)∧Zb W w.heap.size 0 (ZN ⟨key,1⟩)) ⟨aC,ah.out⟩ ?_
 repeat first|refine Jn ?_|refine Jf ?_|refine Ju ?_
 apply Zq (t:= 356) (b:=w.heap.size) (of:=0) (cs:=[.string ⟨key.toArray⟩, .int .i64 (1)])
 case ho=>simp only[Xh,Xf,Xg];rfl
 case hg=>rfl
 case hop=>rfl
 case hx=>rfl
 case ht=>exact aK.out
 case hb=>exact fun W I=>I.2
 case ha=>go_simp;rfl
 refine JE ?_
 go_wp2_with fail
 obtain⟨S,K⟩:=Je ((d.alloc (.cells #[.string ⟨key.toArray⟩, .int .i64 (1)] 356)).drew)
 rw[←K]
 have m:Zg [] d S:=by rw[K];exact((Zg.refl [] _).alloc _).drew
 have ad:=(m.block b (Jg R) (by simp)).trans R.out
 have ap:Zb S d.heap.size 0 (ZN ⟨key,1⟩):=by rw[K];exact Zb.of_block (w:=d.alloc _) (Za _)
 have ao:=(Zd _ _ _ _).upd aV m (by simp)
 have aq:=D ad;have aQ:=D ao;have aS:=D ap
 have aR:=D (show S.cell? ⟨b,0,none⟩=some (.slice (some ⟨g,0,none⟩) (l.length-1) c)from Zc (i:=0) ad rfl)
 clear ad ao K ap aC;change Hid _ at m
 refine⟨fun W=>W.cell? ⟨b,0,none⟩=some (.slice (some ⟨g,0,none⟩) (l.length-1) c)∧Zb W w.heap.size 0 (ZN ⟨key,1⟩),fun W I=>I,⟨aR,ah.upd m (by simp)⟩,?_⟩
 refine JE ?_
 refine Zn S rfl (.tmp 87) (.tmp 89) 200 rfl 356 Tryz.underlying200 Zfu rfl (by omega) (by omega) _ ((l.eraseIdx i).map ZN) G rfl aQ d.heap.size 1 (ZN ⟨key,1⟩) rfl aS rfl (ZaP _) (by rw[Xb,aA.out];omega) ?_
 intro v' w7 G' aj M aI
 obtain⟨A',c',e7,_⟩:=aj.form'
 rw[Xd,Xb,List.length_singleton]at e7
 subst e7
 have Z:=(M.block b (Jg aq) X).trans aq.out
 have c7:=Jc 0 Z
 have f7:w7.frozen? ⟨b,0,none⟩=false:=Zk Z
 have a4:=D Z;have a0:=D aj;have a5:=D M;have ay:=D aI
 have aT:=D ((ah.upd m (by simp)).upd M a3)
 clear Z aj M aI
 go_wp2_with fail
 refine⟨fun W=>W.cell? ⟨b,0,none⟩=some (.slice (some ⟨g,0,none⟩) (l.length-1) c)∧Zb W w.heap.size 0 (ZN ⟨key,1⟩),fun W I=>I,⟨c7,aT.out⟩,?_⟩
 repeat first|refine Jn ?_|refine Jf ?_|refine Ju ?_
 refine JL ?_
 go_wp2_with fail
 refine Jz ?_
 go_wp2_with fail
 go_ret2
 obtain⟨g1,g2⟩:=ZbX (w:=w) (G:=G) (cs:=fun v=> #[v, .int .i64 32]) (T:= 202) X (s.out b (by rw[r.out];simp)) (Ze (i:=0) a4 _) ((Zd _ _ _ _).upd a0 ((Zg.refl [b] w7).setCell (.inr (by simp)) _) (fun x hx j=>by
   rw[Jm j]at hx
   rcases ay b hx with J|J
   ·exact X J
   ·have:=m.size;have:=y.size;have:=am.size;have:=s.out b (by rw[r.out];simp);omega))
  (((((am.out).trans y (fun x hx=> .inl (by simp at hx;omega))).trans m (by simp)).trans a5 (fun x hx=> .inr (by simp[hx]))).setCell (.inr (by simp)) _) (fun x hx=>by
   rcases ay x hx with J|J
   ·exact .inl J
   ·right;have:=m.size;have:=y.size;have:=am.size;omega)
 refine⟨_,rfl,_,?_,by rw[r.out];exact g2⟩
 have e9:(l.eraseIdx i++[(⟨key,1⟩:Yu)]).map ZN=(l.eraseIdx i).map ZN++[ZN ⟨key,1⟩]:=by simp
 unfold Yj
 rw[e9]
 exact g1
theorem Zo4 (h:Yj b l w F) (hl:l.length≤1000000) (hus:∀x∈l,0≤x.uses) (key:Bs):
  Calls Tryz.prog 228 #[.pointer (some ⟨b,0,none⟩), .string ⟨key.toArray⟩] w (ZcN (ZjN l key).2 fun w'=>∃F',Yj b ((ZjN l key).1.getD l) w' F'∧Zi w w' F F'):=by
 unfold ZjN ZaS
 cases hq:l.findIdx? (fun o:Yu=>o.key==key)with
 |some i=>
  obtain⟨x,hx⟩:∃x,l[i]? =some x:=⟨_,Xa (Yv hq)⟩
  dsimp only
  rw[hx]
  dsimp only
  by_cases m:6≤x.uses
  ·rw[if_pos m]
   refine(ZhN h key hq hx m).mono ?_
   rintro e w' ⟨s,d,j,c⟩
   exact⟨s,d,F,j,c.weaken (by simp),fun k g=> .inl g⟩
  ·rw[if_neg m]
   exact Zih h hl key hq hx (by omega) (hus x (Xc hx))
 |none=>
  dsimp only
  by_cases a:32≤l.length
  ·rw[if_pos a]
   cases hz:l.findIdx? (fun o:Yu=>o.uses==0)with
   |some i=>
    dsimp only
    exact ZiK h hl a key hq hz
   |none=>
    dsimp only
    refine(Zh4 h hl a key hq hz).mono ?_
    rintro e w' ⟨s,d,j,c⟩
    exact⟨s,d,F,j,c.weaken (by simp),fun k g=> .inl g⟩
  ·rw[if_neg a]
   exact ZiL h key hq (by omega)
theorem Zeb:(Tryz.prog.info? 243).map (fun i=>(i.zero,i.size,i.bytes))=some (some (.agg #[.int .i64 0, .string ⟨#[]⟩, .int .u64 0]),3,32):=by kernel_rfl
theorem Ziu:Zu Tryz.prog 243 3=true:=by kernel_rfl
theorem Zon:(Tryz.prog.info? 243).map (fun i=>(i.size,i.bytes))=some (3,32):=by kernel_rfl
theorem Zn2 {α:Type} (enc:α→List Value) (p:α→Bool) (g:FuncId) (lb:Array Value) {l:List α}
  (h:Zj 243 3 v (l.map enc) w F) (eg:∀args w,(callFunc g args).run Tryz.prog w= .ok (.enter g args) w)
  (hp:∀(W:World) (x:α),x∈l→Zg [] w W→Calls Tryz.prog g (#[.agg (enc x).toArray]++lb) W fun e w'=>e= .returned (.bool (p x))∧Zg [] W w'):
  Calls Tryz.prog 279 #[v, .func (.func g) #[] lb] w fun e w'=>e= .returned (.int .i64 (YL p l))∧Zg [] w w':=by
 obtain⟨A,c,rfl,O,o⟩:=h.lies
 have G:=h.2.1
 have i:=h.le
 rw[Xb]at O i⊢
 have K:=D G;have N:=D hp;have M:=D o
 have P:l.length≤9223372036854775807:=by unfold maxLen at i;omega
 clear h G hp o i
 go_enter Tryz.func279,Tryz.ntmps279
 go_wp2
 go_loopw[5,8] (fun _ s8 wr=>∃kk:Nat,kk≤l.length∧s8= .int .i64 kk∧Hid (Zg [] w wr)∧Hid (∀(j:Nat) (x:α),j<kk→l[j]? =some x→p x=false)) (fun _ s8 _=>l.length-(intOf s8).toNat)
 case atStart=>exact⟨0,Xn _,rfl,D (Zg.refl [] w),D (fun j x C=>absurd C (Nat.not_lt_zero _))⟩
 case round=>
  obtain⟨kk,Q,rfl,d,m⟩:=hrel
  by_cases z:kk<l.length
  ·obtain⟨x,hx⟩:∃x,l[kk]? =some x:=⟨_,Xa z⟩
   have k:=Xc hx
   obtain⟨S,rfl,r⟩:=M.out kk (enc x) (by rw[Xe,hx];rfl)
   have J:=D (r.upd d (by simp))
   have I:=D (show(enc x).length=3 from K.out (enc x) (List.mem_map.2 ⟨x,k,rfl⟩))
   have H:=D (show Zu Tryz.prog 243 (enc x).length=true by rw[I.out];exact Ziu)
   have E:=D hx
   have L:=D (N.out wr x k d)
   obtain⟨b,a⟩:=Je (p x)
   clear hx r k;change Hid _ at a
   go_wp2_with(refine Js J H ?_)
   refine L.out.mono ?_
   rintro e R ⟨rfl,q⟩
   rw[←a.out]
   have s:=Jt d q
   clear q
   cases b with
   |true=>
    go_wp2
    go_ret
    refine⟨?_,s.out⟩
    rw[Zao z (by rw[E.out]) a.symm m.out];rfl
   |false=>
    go_wp2
    go_roundw
    case rel=>
     refine⟨kk+1,by omega,by go_num,s,D (fun j y C n=> ?_)⟩
     by_cases e:j=kk
     ·subst e;rw[E.out]at n;cases n;exact a.symm
     ·exact m j y (by omega) n
    case measure=>simp[intOf];omega
  ·obtain rfl:kk=l.length:=by omega
   go_wp2
   go_ret
   refine⟨?_,d.out⟩
   rw[YY m.out];rfl
theorem Zpa {α:Type} (enc:α→List Value) (p:α→Bool) (g:FuncId) (lb:Array Value) (I:List α→YG) (hI:∀d,(I d).Local) {l:List α}
  (h:Zj 243 3 v (l.map enc) w F) (h0:I [] w G) (hFG:Z8 F G) (eg:∀args w,(callFunc g args).run Tryz.prog w= .ok (.enter g args) w)
  (hp:∀(W:World) (G1:List Nat) (d r:List α) (x:α),l=d++x::r→I d W G1→Zg (F++G) w W→Calls Tryz.prog g (#[.agg (enc x).toArray]++lb) W fun e w'=>e= .returned (.bool (p x))∧∃G',I (d++[x]) w' G'∧Zi W w' G1 G'):
  Calls Tryz.prog 279 #[v, .func (.func g) #[] lb] w fun e w'=>e= .returned (.int .i64 (YL p l))∧∃G',I (ZcL p l) w' G'∧Zi w w' G G':=by
 obtain⟨A,c,rfl,hc,J⟩:=h.lies
 have n:=h.2.1
 have q:=h.le
 have Q:=h.foot
 rw[Xb]at hc q⊢
 have Y:=D n;have HP:=D hp;have HL:=D J;have HI:=D hI;have HF:=D Q;have T:=D hFG;have X:=D h0
 have aa:l.length≤9223372036854775807:=by unfold maxLen at q;omega
 clear h n hp J q hI Q hFG h0
 go_enter Tryz.func279,Tryz.ntmps279
 go_wp2
 go_loopw[5,8] (fun _ s8 wr=>∃(kk:Nat) (G':List Nat),kk≤l.length∧s8= .int .i64 kk∧Hid (I (l.take kk) wr G'∧Zi w wr G G')∧Hid (∀(j:Nat) (x:α),j<kk→l[j]? =some x→p x=false)) (fun _ s8 _=>l.length-(intOf s8).toNat)
 case atStart=>exact⟨0,G,Xn _,rfl,D ⟨X,Zi.refl w G⟩,D (fun j x O=>absurd O (Nat.not_lt_zero _))⟩
 case round=>
  obtain⟨kk,G',ac,rfl,a,i⟩:=hrel
  by_cases z:kk<l.length
  ·obtain⟨x,hx⟩:∃x,l[kk]? =some x:=⟨_,Xa z⟩
   have N:=Xc hx
   obtain⟨C,rfl,K⟩:=HL.out kk (enc x) (by rw[Xe,hx];rfl)
   have M:C∉G:=T.out C (HF.out C rfl)
   have V:=D (K.upd a.out.2.upd M)
   have S:=D (show(enc x).length=3 from Y.out (enc x) (List.mem_map.2 ⟨x,N,rfl⟩))
   have R:=D (show Zu Tryz.prog 243 (enc x).length=true by rw[S.out];exact Ziu)
   have E:=D hx
   have Z:=D (HP.out wr G' (l.take kk) (l.drop (kk+1)) x (Zcp hx) a.out.1 (a.out.2.upd.weaken (fun k n=> .inr (List.mem_append_right _ n))))
   have HT:=D (ZY hx)
   obtain⟨b,m⟩:=Je (p x)
   clear hx K N M;change Hid _ at m
   go_wp2_with(refine Js V R ?_)
   refine Z.out.mono ?_
   rintro e P ⟨rfl,o,s⟩
   rw[←m.out]
   have L:=D (show I (l.take (kk+1)) P o∧Zi w P G o by rw[HT.out];exact⟨s.1,a.out.2.trans s.2⟩)
   clear s
   cases b with
   |true=>
    go_wp2
    go_ret
    refine⟨?_,o,?_⟩
    ·rw[Zao z (by rw[E.out]) m.symm i.out];rfl
    ·rw[Zgv z E m.symm i.out];exact L.out
   |false=>
    go_wp2
    go_roundw
    case rel=>
     refine⟨kk+1,o,by omega,by go_num,L,D (fun j y O H=> ?_)⟩
     by_cases e:j=kk
     ·subst e;rw[E.out]at H;cases H;exact m.symm
     ·exact i j y (by omega) H
    case measure=>simp[intOf];omega
  ·obtain rfl:kk=l.length:=by omega
   go_wp2
   go_ret
   refine⟨?_,G',?_⟩
   ·rw[YY i.out];rfl
   ·rw[Zfc i.out];rw[Xm]at a;exact a.out
theorem Zn6 {α:Type} (enc:α→List Value) (p:α→Bool) (g:FuncId) (lb:Array Value) (I:List α→YG) (hI:∀d,(I d).Local) {l:List α}
  (h:Zj 243 3 v (l.map enc) w F) (h1:∀x,∀u∈enc x,u.oneCell'=true) (h0:I [] w G) (hFG:Z8 F G) (eg:∀args w,(callFunc g args).run Tryz.prog w= .ok (.enter g args) w)
  (hp:∀(W:World) (G1:List Nat) (d r:List α) (x:α),l=d++x::r→I d W G1→Zg (F++G) w W→Calls Tryz.prog g (#[.agg (enc x).toArray]++lb) W fun e w'=>e= .returned (.bool (p x))∧∃G',I (d++[x]) w' G'∧Zi W w' G1 G'):
  Calls Tryz.prog 214 #[v, .func (.func g) #[] lb] w fun e w'=>∃v',e= .returned v'∧Zj 243 3 v' ((l.filter fun x=> !p x).map enc) w' F∧∃G',I l w' G'∧Z8 F G'∧Zg (F++G) w w'∧∀k∈G',k∈G∨w.heap.size≤k:=by
 have ei:∀args w,(callFunc 279 args).run Tryz.prog w= .ok (.enter 279 args) w:=enters_of Tryz.func279 (by kernel_rfl) rfl
 have hx:=Zpa enc p g lb I hI h h0 hFG eg hp
 have ap:=(Zd 243 3 v (l.map enc)).lt h
 have s:=D hx;have HH:=D h;have M:=D hFG
 cases hq:l.findIdx? p with
 |none=>
  have ar:l.filter (fun x=> !p x)=l:=by
   rw[List.filter_eq_self];intro x R;rw[List.findIdx?_eq_none_iff]at hq;rw[hq x R];rfl
  have J:ZcL p l=l:=by unfold ZcL;rw[hq]
  rw[Yo hq,J]at hx
  rw[ar]
  have s:=D hx
  clear hx hq ar J h h0 hFG hp
  go_enter Tryz.func214,Tryz.ntmps214
  go_wp2_with fail
  refine s.out.mono ?_
  rintro e w1 ⟨rfl,G1,K⟩
  have o:=D K;clear K
  go_wp2_with fail
  go_ret
  refine⟨v,rfl,(Zd _ _ _ _).upd HH o.out.2.upd M,G1,o.out.1,?_,o.out.2.upd.weaken (fun k a=> .inr (by simp[a])),o.out.2.new⟩
  intro k a q
  rcases o.out.2.new k q with m|m
  ·exact M k a m
  ·have:=ap k a;omega
 |some i0=>
  have aQ:=Yv hq
  obtain⟨vg,cap,rfl,ay⟩:∃vg cap,v= .slice (some ⟨vg,0,none⟩) l.length cap∧F=[vg]:=by
   rcases h.form with⟨_,V,_⟩|⟨g',aK,P,V,e2,_⟩
   ·rw[List.map_eq_nil_iff]at V;subst V;simp at aQ
   ·exact⟨g',aK,by rw[V,Xb],e2⟩
  have J:ZcL p l=l.take (i0+1):=by unfold ZcL;rw[hq]
  rw[Yw hq,J]at hx
  have s:=D hx
  have aR:=D (ZbF.start hq)
  have aB:=D ay;have H1:=D h1;have HP:=D hp;have S:=D hI
  have aa:=h.le
  rw[Xb]at aa
  have a3:l.length≤9223372036854775807:=by unfold maxLen at aa;omega
  have a1:((i0:Int)== -1)=false:=beq_eq_false_iff_ne.2 (by omega)
  clear hx hq J h h0 hFG hp ay hI aa h1
  go_enter Tryz.func214,Tryz.ntmps214
  go_wp2_with fail
  refine s.out.mono ?_
  rintro e w1 ⟨rfl,G1,K⟩
  have o:=D K;clear K
  have aS:=D (show Z8 F G1 from fun k a q=>by
   rcases o.out.2.new k q with m|m
   ·exact M k a m
   ·have:=ap k a;omega)
  have aT:=D ((Zd _ _ _ _).upd HH o.out.2.upd M)
  go_wp2_with fail
  go_loopw[5,6,7] (fun s5 s6 _ wr=>∃(i j:Nat) (dk:List α) (G':List Nat),s5= .int .i64 i∧s6= .int .i64 j∧j≤l.length∧i<j∧Hid (ZbF p l j i dk)∧Hid (I (l.take j) wr G'∧Z8 F G'∧Zg (F++G) w wr∧∀k∈G',k∈G∨w.heap.size≤k)∧Hid (Zj 243 3 (.slice (some ⟨vg,0,none⟩) l.length cap) (dk.map enc) wr F)) (fun _ s6 _ _=>l.length-(intOf s6).toNat)
  case atStart=>exact⟨i0,i0+1,l,G1,rfl,by go_num,by omega,by omega,aR,D ⟨o.out.1,aS.out,o.out.2.upd.weaken (fun k a=> .inr (by simp[a])),o.out.2.new⟩,aT⟩
  case round=>
   obtain⟨i,j,dk,G',rfl,rfl,aZ,aY,y,n,H⟩:=hrel
   by_cases aj:j<l.length
   ·obtain⟨x,hx⟩:∃x,l[j]? =some x:=⟨_,Xa aj⟩
    obtain⟨b,T⟩:=Je (p x)
    have ad:(dk.map enc)[j]? =some (enc x):=by rw[Xe,y.get,hx];rfl
    have aF:=H.liesAt ad
    have ah:=D (show(enc x).length=3 from H.out.2.1 _ (Xc ad))
    have s:=D hx;have aW:=D aF
    clear hx aF ad;change Hid _ at T
    have Q:=D (show Zu Tryz.prog 243 (enc x).length=true by rw[ah.out];exact Ziu)
    have ao:=D (show Zu Tryz.prog 243 (enc x).toArray.size=true by rw[List.size_toArray];exact Q)
    have HZ:=D (show(#[.int .i64 0, .string ⟨#[]⟩, .int .u64 0]:Array Value).size=(enc x).toArray.size from(by rw[List.size_toArray,ah.out]:3=(enc x).toArray.size))
    have HO:=D (show(enc x).toArray.all (·.oneCell')=true from by rw[Xl,Xk];exact H1 x)
    have aD:=D (Za (w:=wr) (.cells #[.int .i64 0, .string ⟨#[]⟩, .int .u64 0] 243 (0,0)))
    obtain⟨X,N⟩:=Je ((wr.alloc (.cells #[.int .i64 0, .string ⟨#[]⟩, .int .u64 0] 243 (0,0))).setRow wr.heap.size (enc x).toArray)
    have ac:X.heap[wr.heap.size]? =some (.cells (enc x).toArray 243 (0,0)):=by rw[N];exact setRow_heap _ _ _ _ _ _ aD.out
    have L:Zg [] wr X:=by rw[N];exact((Zg.refl [] wr).alloc _).setRow (.inl (Xi _)) _
    have ax:=D ac;have O:=D L
    have aN:=D (show Zb X wr.heap.size 0 (enc x)from Zb.of_block ac)
    have aI:=D (HP.out X G' (l.take j) (l.drop (j+1)) x (Zcp s) ((S.out _).upd n.out.1 L (by simp)) (n.out.2.2.1.trans_of' L))
    clear ac L;change Hid _ at N
    go_wp2_with(first|refine Js aW Q ?_|(refine Zbc _ rfl 243 (.tmp 7) (.tmp 25) rfl wr.heap.size (enc x).toArray #[.int .i64 0, .string ⟨#[]⟩, .int .u64 0] 243 rfl rfl ao aD HZ HO ?_;rw[←N.out])|refine Jl aN Q ?_)
    refine aI.out.mono ?_
    rintro e E ⟨rfl,Y,ag,C⟩
    rw[←ZY s.out]at ag
    rw[←T.out]
    have ak:wr.heap.size∉G':=fun R=>by have:=(S.out _).lt n.out.1 _ R;omega
    have av:E.heap[wr.heap.size]? =some (.cells (enc x).toArray 243 (0,0)):=(C.upd.block _ (Jg ax) ak).trans ax.out
    have an:=(Zd _ _ _ _).upd ((Zd _ _ _ _).upd H O (by simp)) C.upd n.out.2.1
    have aq:Z8 F Y:=fun k a q=>by
     rcases C.new k q with m|m
     ·exact n.out.2.1 k a m
     ·have:=(Zd _ _ _ _).lt H k a;have:=O.size;omega
    have al:Zg (F++G) w E:=(n.out.2.2.1.trans_of' O).trans C.upd (fun k a=>by rcases n.out.2.2.2 k a with m|m<;>simp[m])
    have am:∀k∈Y,k∈G∨w.heap.size≤k:=fun k a=>by
     rcases C.new k a with m|m
     ·exact n.out.2.2.2 k m
     ·right;have:=n.out.2.2.1.size;have:=O.size;omega
    have aV:=D (show Zb E wr.heap.size 0 (enc x)from Zb.of_block av)
    have aH:=D an;have z:=D (And.intro ag (And.intro aq (And.intro al am)))
    clear ag C ak av an aq al am
    cases b with
    |true=>
     go_wp2
     go_roundw
     case rel=>exact⟨i,j+1,dk,Y,rfl,by go_num,by omega,by omega,D (y.skip s T.symm),z,aH⟩
     case measure=>simp[intOf];omega
    |false=>
     have aG:i<(dk.map enc).length:=by rw[Xb,y.len];omega
     obtain⟨P,aw,aE,au⟩:=Ze9 aH aG ah.out
     have aA:=D aw;have aP:=D aE;have aJ:=D au
     clear aG aw aE au
     go_wp2_with(first|refine Jl aV Q ?_|refine ZbU _ rfl 243 (.tmp 33) (.tmp 32) rfl vg (i*3) (enc x).toArray P 243 (by simp[Act.eval,Act.put]) rfl ao aA aP HO ?_)
     go_roundw
     case rel=>
      have az:∀c,Zg F E (E.setRow vg c):=fun c=>(Zg.refl F E).setRow (.inr (by rw[aB.out];simp)) _
      refine⟨i+1,j+1,dk.set i x,Y,by go_num,by go_num,by omega,by omega,D (y.keep s T.symm),D ⟨(S.out _).upd z.out.1 (az _) (fun k a q=>z.out.2.1 k q a),z.out.2.1,z.out.2.2.1.trans (az _) (fun k a=> .inr (List.mem_append_left _ a)),z.out.2.2.2⟩,D ?_⟩
      rw[List.map_set]
      refine aJ _ ?_
      rw[setRow_heap _ _ _ _ _ _ aA.out]
      simp[Yl]
     case measure=>simp[intOf];omega
   ·obtain rfl:j=l.length:=by omega
    obtain⟨ae,ab⟩:=Zbz (zs:=[.int .i64 0, .string ⟨#[]⟩, .int .u64 0]) (l.length-i) (by simp) (by simp[Value.oneCell'])
    obtain⟨zs,ai⟩:=Je ((Builtin.zeroCells ([.int .i64 0, .string ⟨#[]⟩, .int .u64 0]:List Value).toArray (l.length-i)).toList)
    rw[←ai]at ae ab
    have aC:zs.length=(l.length-i)*3:=ae
    obtain⟨P,hn,_,hb,hc,R,hs,_⟩:=H.block
    rw[Xb]at hc
    have aO:=y.len
    have aU:i*3+zs.length≤cap*3:=by rw[aC];omega
    have a2:∀ty,(Builtin.clear_ #[120] ty #[.slice (some ⟨vg,i*3,none⟩) (l.length-i) (cap-i)]).run Tryz.prog wr= .ok (.tuple #[]) (wr.setCells vg (i*3) zs):=fun ty=>by
     refine Yn wr _ _ ty _ zs Tryz.underlying120 (fun w=> Tryz.zeroValue243 w) vg _ _ _ (by omega) (by rw[ai];rfl) ab (fun t m=> ?_) (fun t m=>Zk hb)
     have aj:i*3+t<P.size:=by omega
     rw[Zc hb (Array.getElem?_eq_getElem aj)];rfl
    have Z:=Zfe H (i:=i) (by rw[Xb];omega) zs aU rfl
    rw[←List.map_take,y.done]at Z
    have aL:(l.filter fun x=> !p x).length=i:=by rw[←y.done,List.length_take];omega
    have aM:=D Z
    have af:Zg F wr (wr.setCells vg (i*3) zs):=(Zg.refl F wr).setCells (.inr (by rw[aB.out];simp)) _ _
    have a0:i≤cap:=by omega
    have aX:¬cap=i:=by omega
    clear hn hb hs Z aL ai aC ae ab aO;change Hid _ at af
    go_wp2
    go_ret
    refine⟨_,rfl,aM.out,G',?_,n.out.2.1,n.out.2.2.1.trans af (fun k a=> .inr (List.mem_append_left _ a)),n.out.2.2.2⟩
    have:=n.out.1
    rw[Xm]at this
    exact(S.out _).upd this af (fun k a q=>n.out.2.1 k q a)
theorem Zn1 {g cap i j:Nat} (hj:j=i+1) {xs:List (List Value)} (h:Zj 243 3 (.slice (some ⟨g,0,none⟩) xs.length cap) xs w F) (h1:∀u∈xs.flatten,u.oneCell'=true) (hi:i<xs.length):
  Calls Tryz.prog 208 #[.slice (some ⟨g,0,none⟩) xs.length cap, .int .i64 i, .int .i64 j] w fun e w'=>e= .returned (.slice (some ⟨g,0,none⟩) (xs.length-1:Nat) cap)∧
   Zj 243 3 (.slice (some ⟨g,0,none⟩) (xs.length-1) cap) (xs.eraseIdx i) w' [g]∧Zg [g] w w':=by
 obtain⟨k,_,_,m,o,G,K,ht⟩:=h.block
 obtain⟨T,O,P,ad⟩:=Zcb Zon
 have Q:=ZG h.2.1
 obtain⟨a,n⟩:=Je ((xs.drop j).flatten)
 have d:a.length=(xs.length-j)*3:=by rw[n,ZG (fun c o=>h.2.1 c (List.mem_of_mem_drop o)),List.length_drop]
 have H:∀t,t<cap*3→(w.drew.cell? ⟨g,t,none⟩).isSome=true∧w.drew.frozen? ⟨g,t,none⟩=false:=fun t h1=>by
  have x:t<k.size:=by omega
  refine⟨?_,Zk (w:=w) m⟩
  show(w.cell? _).isSome=true
  rw[Zc m (Array.getElem?_eq_getElem x)];rfl
 obtain⟨A,hA,M⟩:∃A:Addr,(if cap=j then(some (⟨g,0,none⟩:Addr))else some ⟨g,j*3,none⟩)=some A∧Hid (∀t u,a[t]? =some u→w.drew.cell? (A.add t)=some u):=by
  by_cases e:cap=j
  ·refine⟨⟨g,0,none⟩,by rw[if_pos e],D (fun t u b=> ?_)⟩
   have V:a.length=0:=by rw[d,show xs.length-j=0 by omega,Nat.zero_mul]
   rw[List.length_eq_zero_iff.1 V]at b;simp at b
  ·refine⟨⟨g,j*3,none⟩,by rw[if_neg e],D (fun t u b=> ?_)⟩
   rw[add_plain]
   refine Zc (w:=w) m ?_
   rw[n,←ZaH h.2.1,List.getElem?_drop,←ht,List.getElem?_take]at b
   split at b
   ·simpa using b
   ·cases b
 have s2:Hid (∀u∈a,u.oneCell'=true):=D (fun u b=>h1 u (by rw[n]at b;obtain⟨c,o,b⟩:=List.mem_flatten.1 b;exact List.mem_flatten.2 ⟨c,List.mem_of_mem_drop o,b⟩))
 have s1:Hid (a.length=(xs.length-j)*3):=D d
 have N:xs.length*3≤cap*3:=Nat.mul_le_mul_right _ o
 have s3:Hid (∀t,t<a.length→(w.drew.cell? ⟨g,0+i*3+t,none⟩).isSome=true∧w.drew.frozen? ⟨g,0+i*3+t,none⟩=false):=D (fun t r=>H _ (by rw[d]at r;omega))
 obtain⟨p,s⟩:=Je (w.drew.setCells g (0+i*3) a)
 obtain⟨l,q⟩:∃l:List Value,l=[.int .i64 0, .string ⟨#[]⟩, .int .u64 0]:=⟨_,rfl⟩
 have z:l.length=3:=by rw[q];rfl
 have y:p.heap[g]? =some (.cells (Yl k.toList (0+i*3) a).toArray 243 (0,0)):=by rw[s];exact Ys a (0+i*3) w.drew k m (by rw[d];omega)
 have J:(Yl k.toList (0+i*3) a).length=cap*3:=by rw[YW _ _ _ (by rw[d];simp;omega)];simpa using K
 have ab:∀C,(Builtin.clear_ #[120] C #[.slice (some ⟨g,(i+(xs.length-j))*3,none⟩) (xs.length-(i+(xs.length-j))) (cap-(i+(xs.length-j)))]).run Tryz.prog p= .ok (.tuple #[]) (p.setCells g ((i+(xs.length-j))*3) l):=fun C=>by
  have E:xs.length-(i+(xs.length-j))=1:=by omega
  rw[E]
  refine Yn p _ _ C _ l Tryz.underlying120 (fun w=> Tryz.zeroValue243 w) g _ 1 _ (by omega) (by rw[q];exact ZaQ) (by rw[q];simp[Value.oneCell']) (fun t r=> ?_) (fun t r=>Zk y)
  rw[z]at r
  have x:(i+(xs.length-j))*3+t<(Yl k.toList (0+i*3) a).length:=by rw[J];omega
  rw[Zc y (v:=(Yl k.toList (0+i*3) a)[(i+(xs.length-j))*3+t]) (by rw[Xh,Xa x])];rfl
 have L:Hid (p=w.drew.setCells g (0+i*3) a):=D s
 have I:=D (Zb9 h hi 1 l z rfl)
 rw[←hj,←n]at I
 have Z:i<j:=by omega
 have X:j≤xs.length:=by omega
 have W:¬i=j:=by omega
 have R:=D hj
 have Y:i≤cap:=by omega
 have aa:j≤cap:=by omega
 have ac:cap≤9223372036854775807:=by unfold maxLen at G;exact G
 clear hj s y J q z H m K ht Q d h h1 N G;change Hid _ at n
 go_enter Tryz.func208,Tryz.ntmps208
 go_wp2_with fail
 go_region_law (refine step_append_room rfl (.tmp 22) (.tmp 25) 120 rfl 243 T 3 Tryz.underlying120 O P g 0 i cap (by simp[Act.eval,Act.put]) A (xs.length-j) (cap-j) a (by simp[Act.eval,Act.put]) s1.out M.out s2.out (by omega) s3.out ?_;rw[←L.out])
 go_wp2
 go_ret
 have E:i+(xs.length-j)=xs.length-1:=by have:=R.out;omega
 have S:=I.out
 rw[L.out,Nat.zero_add,E]
 exact⟨rfl,S⟩
theorem ZhV {g cap i:Nat} {xs:List (List Value)} (h:Zj 243 3 (.slice (some ⟨g,0,none⟩) xs.length cap) xs w F) (h1:∀u∈xs.flatten,u.oneCell'=true) (hi:i<xs.length):
 Calls Tryz.prog 208 #[.slice (some ⟨g,0,none⟩) xs.length cap, .int .i64 i, .int .i64 ((i:Int)+1)] w fun e w'=>e= .returned (.slice (some ⟨g,0,none⟩) (xs.length-1:Nat) cap)∧
  Zj 243 3 (.slice (some ⟨g,0,none⟩) (xs.length-1) cap) (xs.eraseIdx i) w' [g]∧Zg [g] w w':=Zn1 rfl h h1 hi
theorem Zkk (a:Addr) (x y:Int) (w:World) (hc:w.cell? a=some (.int .u64 x)) (hz:w.frozen? a=false):
  Calls Tryz.prog 53 #[.pointer (some a), .int .u64 y] w fun e w'=>e= .returned (.tuple #[])∧∃n,w'=(w.drewN n).setCell a (.int .u64 y):=by
 have b:=fun(w:World) (h1:w.cell? a=some (.int .u64 x)) (h2:w.frozen? a=false)=>run_call_store (P:= Tryz.prog) Tryz.func101 (by kernel_rfl) (by kernel_rfl) (by kernel_rfl) (by kernel_rfl) (k:= .u64) (y:=y) h1 h2
 have d:=b w hc hz
 have c:=b w.drew (by go_simp) (by go_simp)
 clear b
 go_enter Tryz.func53,Tryz.ntmps53
 go_wp2
 try go_region_calls
 all_goals(first|go_end0|skip)
 all_goals first|exact⟨rfl,0,rfl⟩|exact⟨rfl,1,rfl⟩
theorem Zkq (a:Addr) (x:Int) (w:World) (hc:w.cell? a=some (.int .u64 x)):
  Calls Tryz.prog 55 #[.pointer (some a)] w fun e w'=>e= .returned (.int .u64 x)∧w=w':=by
 have b:=run_call_load (P:= Tryz.prog) Tryz.func102 (by kernel_rfl) (by kernel_rfl) (by kernel_rfl) .u64 (by kernel_rfl) hc
 go_enter Tryz.func55,Tryz.ntmps55
 go_wp2
 go_ret
 exact⟨rfl,rfl⟩
def Zga (w:World) (b:Nat) (t:Nat):Prop:=w.heap[b]? =some (.cells #[.int .u64 (t:Int)] 116 (0,0))∧t≤18446744073709551615
theorem Za5 (h:Zga w b t):
  Calls Tryz.prog 32 #[.pointer (some ⟨b,0,none⟩)] w fun e w'=>e= .returned (.int .u64 t)∧w'=w:=by
 have a:=Zc (i:=0) h.1 rfl
 simp only[List.getElem_toArray,Xv]at a
 have q:=Zkq ⟨b,0,none⟩ t w a
 clear h a
 go_enter Tryz.func32,Tryz.ntmps32
 go_wp2_with fail
 refine q.mono ?_
 rintro e w' ⟨rfl,rfl⟩
 go_wp2_with fail
 go_ret
 exact⟨rfl,rfl⟩
theorem ZqP (t:Nat) (ht:t≤18446744073709551615) (w:World):
  Calls Tryz.prog 23 #[.int .u64 t] w fun e w'=>e= .returned (.pointer (some ⟨w.heap.size,0,none⟩))∧Zga w' w.heap.size t∧Zg [] w w':=by
 obtain⟨j,b⟩:=Je (w.alloc (.cells #[.int .u64 0] 116))
 have a:=Jh b
 have g:=Ja b
 have d:=Zc (i:=0) a rfl
 simp only[List.getElem_toArray,Xv]at d
 have q:=Zkk ⟨w.heap.size,0,none⟩ 0 t j d (Zk a)
 clear d;change Hid _ at a g b
 go_enter Tryz.func23,Tryz.ntmps23
 go_upto_region 2 with fail
 rw[←b.out]
 go_wp2_with fail
 refine q.mono ?_
 rintro e l ⟨rfl,k,c⟩
 have m:l.heap[w.heap.size]? =some (.cells #[.int .u64 (t:Int)] 116 (0,0)):=by rw[c];exact(Ze (w:=j.drewN k) (i:=0) a _).trans rfl
 have h:Zg [] w l:=by rw[c];exact(g.drewN k).setCell (.inl (Xi _)) _
 clear c;change Hid _ at m h
 go_wp2_with fail
 go_ret
 exact⟨rfl,⟨m,ht⟩,h.out⟩
end Go.Proofs.YtbgbeddbfaopgaaGreatDoor
