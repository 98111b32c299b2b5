import Derived.Test.YtbgbeddbfaopgaaGreatDoorZ26
set_option linter.all false
set_option maxHeartbeats 16000000
set_option maxRecDepth 100000
set_option autoImplicit true
set_option relaxedAutoImplicit true
namespace Go.Proofs.YtbgbeddbfaopgaaGreatDoor
open Go.RowKit Go.Lk
section
variable {w:World} {b:Nat} {P:YI} {s:Zf} {va vp vl:Value} {F:List Nat}
theorem ZnX (h:Zh w b P none s va vp vl F) (hfit:ZW s n m) (hs:Lk.Safe s) (hE:Env w) (hn:n≤500000) (hm:m≤10000) (hac:0≤s.acts∧s.acts≤1000000) (a:ZbQ) (vi vh vb vr:Value) (hafit:Zcw a) (hro:Za0 w a.req vr) (hoff:∀g o n c,vr= .slice (some ⟨g,o,none⟩) n c→g∉F) (hop:a.op=3):
  Calls Tryz.prog 17 #[.pointer (some ⟨b,0,none⟩), .agg (Zbq a vi vh vb vr).toArray] w (ZdI b P (doS s a).1 (doS s a).2 w F):=by
 obtain⟨R,V⟩:=Je (doS s a)
 rw[←V]
 obtain⟨T,p⟩:=Je (w.alloc (.cells (Zbq a vi vh vb vr).toArray 47))
 obtain⟨j,x⟩:=Je w.heap.size
 obtain⟨l,E⟩:=Je (T.alloc (.cells #[.int .i64 0, .int .i64 0, .int .i64 0, .slice none 0 0] 39))
 obtain⟨L,H⟩:=Je T.heap.size
 have ai:L=j+1:=by rw[H,p,x];simp
 have N:=Ja p
 have J:=Ja E
 have q:=N.trans J (by simp)
 have aj:w.heap.size≤L:=by rw[H];exact N.size
 have O:T.heap[j]? =some (.cells (Zbq a vi vh vb vr).toArray 47 (0,0)):=by rw[p,x];exact Za _
 have y:Own l j (Zbq a vi vh vb vr).toArray 47 F:=⟨(J.block j (Jg O) (by simp)).trans O,fun hm=>by have:=h.lt j hm;omega⟩
 have al:ZaV l L F:=⟨by rw[E,H];exact Za _,fun hm=>by have:=h.lt L hm;omega⟩
 have Y:=h.upd0 q
 obtain⟨z,aG⟩:=Y.blk
 have am:=Jx 20 z
 have ah:l.frozen? ⟨b,20,none⟩=false:=Zk z
 obtain⟨w1,C⟩:=Je (l.setCell ⟨b,20,none⟩ (.int .i64 (s.acts+1)))
 obtain⟨s1,d⟩:=Je (({s with acts:=s.acts+1}:Zf))
 obtain⟨h1,i⟩:=Y.main (w1:=w1) (s':=s1) (by rw[C];exact(Zg.refl [b] l).setCell (.inr (by simp)) _) (by rw[C,Ze z,d];rfl) (fun _ _ _=>by rw[d];rfl) (by rw[d]) (by rw[d])
 have HR:=D (show R=doS s a from V)
 have aF:=D d
 have ap:=D (show ZW s1 n m by rw[d];exact{hfit with log:=hfit.log})
 have HS:=D (show Lk.Safe s1 by rw[d];exact hs)
 have aD:=D aj
 have aL:=D (y.step i);have ak:=D (al.step i);have H1:=D h1;have G1:=D (((Zi.refl w F).upd0 q).trans i);have af:=D hac;have aE:=D hafit;have ar:=D hop
 have aA:=D (Zds h hE (((Zi.refl w F).upd0 q).trans i))
 have c0:w1.cell? ⟨j,0,none⟩=some (.int .i64 a.op):=(y.step i).cell rfl
 rw[hop]at c0
 have av:=D (Zrg (y.step i))
 have Z:Za0 w1 a.req vr:=⟨hro.m,hro.u,hro.o,hro.n,hro.few,by
  obtain⟨A,c,e,hA⟩:=hro.at_
  exact⟨A,c,e,hA.upd (((Zi.refl w F).upd0 q).trans i).upd (fun ab ao ea=>hoff ab ao _ _ (by rw[e,ea]))⟩⟩
 have aC:=D Z;have aq:=D hoff
 clear Z hro hoff
 clear V H N J q aj O y al Y z aG d h1 i hfit hs hE hac hafit h hop;change Hid _ at ai p x E C
 go_enter Tryz.func17,Tryz.ntmps17
 go_upto_region 1 with fail
 rw[←p.out,←x.out,←E.out,←ai.out]
 go_wp2_with fail
 refine(ZaM ⟨b,20,none⟩ s.acts 1 l am ah af.out.1 (by have:=af.out.2;omega) (by omega) (by omega)).mono ?_
 rintro e W ⟨rfl,X⟩
 rw[←C.out]at X
 rw[X]
 clear X W am ah
 have ax:=D (show R=submitS s1 a.req by rw[HR.out,aF.out];unfold doS;rw[ar.out];rfl)
 go_wp2_with(refine Jl av Yp ?_)
 refine(Zj5 H1 ap HS aA (by omega) (by omega) a.req vr aC aE.req aq).mono ?_
 rintro e w9 ⟨aa,aw,v,rfl,G,q9,aI,aJ,F9,h9,Q,ae⟩
 have H9:=D h9;have G9:=D (G1.trans Q);have ag:=D (ak.step Q)
 obtain⟨r,K⟩:=Je ((submitS s1 a.req).2)
 have an:=D (show R=((submitS s1 a.req).1,r)by rw[ax.out,K])
 rw[←K]at G⊢
 have az:=D G;have I:=D ae
 have ay:=D (show v.oneCell'=true by obtain⟨A',c',e,_⟩:=G;rw[e];rfl)
 have aK:=(Jg ak.blk)
 have aH:=G1.upd.size
 clear h9 Q G ae K
 obtain⟨we,M⟩:=Je (w9.setRow L (Z7 r v).toArray)
 have ad:=ZaA (P:={P with fps:=aa}) q9 H9 (G9.out) (ag.out) M (az.out) (fun k S=>⟨by have:=(I.out k S).1;omega,(I.out k S).2,by have:=(I.out k S).1;omega⟩) aD.out
 have ac:=D ad;have aB:=D (ag.out)
 have au:=D (YH r v ay)
 clear ad;change Hid _ at M
 go_wp2_with(first|(refine Jo (Z7 r v).toArray aB.blk Yf au ?_;rw[←M.out]))
 refine bodyPost_ret (v:= .agg (Z7 r v).toArray) (Zs _ Tryz.results17 (b:=L) (o:=0) rfl Yf (Zb.of_block ac.out.1)) rfl ?_
 rw[an.out]
 refine⟨aa,aw,?_⟩
 exact ac.out.2
end
section
variable {w:World} {b:Nat} {P:YI} {s:Zf} {va vp vl:Value} {F:List Nat}
theorem Zrm (h:Zh w b P none s va vp vl F) (hfit:ZW s n m) (hs:Lk.Safe s) (hE:Env w) (hn:n≤500000) (hm:m≤10000) (hac:0≤s.acts∧s.acts≤1000000) (a:ZbQ) (vi vh vb vr:Value) (hafit:Zcw a) (hop:a.op=9):
  Calls Tryz.prog 17 #[.pointer (some ⟨b,0,none⟩), .agg (Zbq a vi vh vb vr).toArray] w (ZdI b P (doS s a).1 (doS s a).2 w F):=by
 obtain⟨R,J⟩:=Je (doS s a)
 rw[←J]
 obtain⟨M,j⟩:=Je (w.alloc (.cells (Zbq a vi vh vb vr).toArray 47))
 obtain⟨d,l⟩:=Je w.heap.size
 obtain⟨i,p⟩:=Je (M.alloc (.cells #[.int .i64 0, .int .i64 0, .int .i64 0, .slice none 0 0] 39))
 obtain⟨L,y⟩:=Je M.heap.size
 have X:L=d+1:=by rw[y,j,l];simp
 have H:=Ja j
 have C:=Ja p
 have q:=H.trans C (by simp)
 have Y:w.heap.size≤L:=by rw[y];exact H.size
 have I:M.heap[d]? =some (.cells (Zbq a vi vh vb vr).toArray 47 (0,0)):=by rw[j,l];exact Za _
 have G:Own i d (Zbq a vi vh vb vr).toArray 47 F:=⟨(C.block d (Jg I) (by simp)).trans I,fun hm=>by have:=h.lt d hm;omega⟩
 have aa:ZaV i L F:=⟨by rw[p,y];exact Za _,fun hm=>by have:=h.lt L hm;omega⟩
 have O:=h.upd0 q
 obtain⟨r,ak⟩:=O.blk
 have ab:=Jx 20 r
 have T:i.frozen? ⟨b,20,none⟩=false:=Zk r
 obtain⟨w1,x⟩:=Je (i.setCell ⟨b,20,none⟩ (.int .i64 (s.acts+1)))
 obtain⟨s1,c⟩:=Je (({s with acts:=s.acts+1}:Zf))
 obtain⟨h1,g⟩:=O.main (w1:=w1) (s':=s1) (by rw[x];exact(Zg.refl [b] i).setCell (.inr (by simp)) _) (by rw[x,Ze r,c];rfl) (fun _ _ _=>by rw[c];rfl) (by rw[c]) (by rw[c])
 have HR:=D (show R=doS s a from J)
 have aj:=D c
 have ae:=D (show ZW s1 n m by rw[c];exact{hfit with log:=hfit.log})
 have HS:=D (show Lk.Safe s1 by rw[c];exact hs)
 have ai:=D Y
 have ap:=D (G.step g);have ah:=D (aa.step g);have H1:=D h1;have G1:=D (((Zi.refl w F).upd0 q).trans g);have V:=D hac;have ao:=D hafit;have af:=D hop
 have al:=D (Zds h hE (((Zi.refl w F).upd0 q).trans g))
 have c0:w1.cell? ⟨d,0,none⟩=some (.int .i64 a.op):=(G.step g).cell rfl
 rw[hop]at c0
 clear J y H C q Y I G aa O r ak c h1 g hfit hs hE hac hafit h hop;change Hid _ at X j l p x
 go_enter Tryz.func17,Tryz.ntmps17
 go_upto_region 1 with fail
 rw[←j.out,←l.out,←p.out,←X.out]
 go_wp2_with fail
 refine(ZaM ⟨b,20,none⟩ s.acts 1 i ab T V.out.1 (by have:=V.out.2;omega) (by omega) (by omega)).mono ?_
 rintro e W ⟨rfl,N⟩
 rw[←x.out]at N
 rw[N]
 clear N W ab T
 have Z:=D (show R=((stepS s1).1,(⟨0,0,(stepS s1).2,[]⟩:Zad))by rw[HR.out,aj.out];unfold doS;rw[af.out];rfl)
 go_wp2_with fail
 refine(Zm4 H1 ae HS al (by omega) (by omega)).mono ?_
 rintro e w9 ⟨rfl,q9,an,aq,F9,h9,K⟩
 have H9:=D h9;have G9:=D (G1.trans K);have ad:=D (ah.step K)
 obtain⟨z,ac⟩:=Je ((stepS s1).2)
 rw[←ac]at Z⊢
 clear h9 K ac
 obtain⟨we,E⟩:=Je (w9.setRow L (Z7 (⟨0,0,z,[]⟩:Zad) (.slice none 0 0)).toArray)
 have S:=ZaA _ H9 (G9.out) (ad.out) E (ZaB _) (fun k hk=>by simp[Value.ownBlock]at hk) ai.out
 have Q:=D S;have am:=D (ad.out)
 have ag:=D (YH (⟨0,0,z,[]⟩:Zad) (.slice none 0 0) rfl)
 clear S;change Hid _ at E
 go_wp2_with(first|(refine Jo (Z7 (⟨0,0,z,[]⟩:Zad) (.slice none 0 0)).toArray am.blk Yf ag ?_;rw[←E.out]))
 refine bodyPost_ret (v:= .agg (Z7 (⟨0,0,z,[]⟩:Zad) (.slice none 0 0)).toArray) (Zs _ Tryz.results17 (b:=L) (o:=0) rfl Yf (Zb.of_block Q.out.1)) rfl ?_
 rw[Z.out]
 refine ZdI.of (va:=va) ?_
 exact Q.out.2
end
section
variable {w:World} {b:Nat} {P:YI} {s:Zf} {va vp vl:Value} {F:List Nat}
theorem Zor (h:Zh w b P none s va vp vl F) (hfit:ZW s n m) (hs:Lk.Safe s) (hE:Env w) (hn:n≤500000) (hm:m≤10000) (hac:0≤s.acts∧s.acts≤1000000) (a:ZbQ) (vi vb vr:Value) (A:Option Addr) (c:Nat) (hafit:Zcw a) (hA:Zay w A a.headers) (hoA:∀ab ao,A=some ⟨ab,ao,none⟩→ab∉F) (hop:a.op=10):
  Calls Tryz.prog 17 #[.pointer (some ⟨b,0,none⟩), .agg (Zbq a vi (.slice A a.headers.length c) vb vr).toArray] w (ZdI b P (doS s a).1 (doS s a).2 w F):=by
 obtain⟨R,K⟩:=Je (doS s a)
 rw[←K]
 obtain⟨N,p⟩:=Je (w.alloc (.cells (Zbq a vi (.slice A a.headers.length c) vb vr).toArray 47))
 obtain⟨i,q⟩:=Je w.heap.size
 obtain⟨j,r⟩:=Je (N.alloc (.cells #[.int .i64 0, .int .i64 0, .int .i64 0, .slice none 0 0] 39))
 obtain⟨L,C⟩:=Je N.heap.size
 have Y:L=i+1:=by rw[C,p,q];simp
 have I:=Ja p
 have G:=Ja r
 have l:=I.trans G (by simp)
 have Z:w.heap.size≤L:=by rw[C];exact I.size
 have J:N.heap[i]? =some (.cells (Zbq a vi (.slice A a.headers.length c) vb vr).toArray 47 (0,0)):=by rw[p,q];exact Za _
 have x:Own j i (Zbq a vi (.slice A a.headers.length c) vb vr).toArray 47 F:=⟨(G.block i (Jg J) (by simp)).trans J,fun hm=>by have:=h.lt i hm;omega⟩
 have ac:ZaV j L F:=⟨by rw[r,C];exact Za _,fun hm=>by have:=h.lt L hm;omega⟩
 have Q:=h.upd0 l
 obtain⟨y,ap⟩:=Q.blk
 have ad:=Jx 20 y
 have V:j.frozen? ⟨b,20,none⟩=false:=Zk y
 obtain⟨w1,z⟩:=Je (j.setCell ⟨b,20,none⟩ (.int .i64 (s.acts+1)))
 obtain⟨s1,d⟩:=Je (({s with acts:=s.acts+1}:Zf))
 obtain⟨h1,g⟩:=Q.main (w1:=w1) (s':=s1) (by rw[z];exact(Zg.refl [b] j).setCell (.inr (by simp)) _) (by rw[z,Ze y,d];rfl) (fun _ _ _=>by rw[d];rfl) (by rw[d]) (by rw[d])
 have HR:=D (show R=doS s a from K)
 have an:=D d
 have ag:=D (show ZW s1 n m by rw[d];exact{hfit with log:=hfit.log})
 have HS:=D (show Lk.Safe s1 by rw[d];exact hs)
 have al:=D Z
 have aw:=D (x.step g);have ak:=D (ac.step g);have H1:=D h1;have G1:=D (((Zi.refl w F).upd0 l).trans g);have X:=D hac;have am:=D hafit;have ah:=D hop
 have aq:=D (Zds h hE (((Zi.refl w F).upd0 l).trans g))
 have c0:w1.cell? ⟨i,0,none⟩=some (.int .i64 a.op):=(x.step g).cell rfl
 rw[hop]at c0
 have ar:=D (show Zb w1 i 0 (Zbq a vi (.slice A a.headers.length c) vb vr)from Zb.of_block (x.step g).blk)
 have ai:=D (hA.upd (((Zi.refl w F).upd0 l).trans g).upd hoA)
 clear hA hoA
 clear K C I G l Z J x ac Q y ap d h1 g hfit hs hE hac hafit h hop;change Hid _ at Y p q r z
 go_enter Tryz.func17,Tryz.ntmps17
 go_upto_region 1 with fail
 rw[←p.out,←q.out,←r.out,←Y.out]
 go_wp2_with fail
 refine(ZaM ⟨b,20,none⟩ s.acts 1 j ad V X.out.1 (by have:=X.out.2;omega) (by omega) (by omega)).mono ?_
 rintro e W ⟨rfl,O⟩
 rw[←z.out]at O
 rw[O]
 clear O W ad V
 have aa:=D (show R=((answerS s1 a.id a.status a.headers).1,(Yy (answerS s1 a.id a.status a.headers).2))by rw[HR.out,an.out];unfold doS;rw[ah.out];rfl)
 go_wp2_with(refine Jl ar Zni ?_)
 refine(Zj9 H1 ag HS aq hn hm a vi vb vr A c ai am.tiny).mono ?_
 rintro e w9 ⟨rfl,q9,av,ax,F9,h9,M⟩
 have H9:=D h9;have G9:=D (G1.trans M);have af:=D (ak.step M)
 obtain⟨E,ae⟩:=Je ((answerS s1 a.id a.status a.headers).2)
 rw[←ae]at aa⊢
 clear h9 M ae
 obtain⟨we,H⟩:=Je (w9.setRow L (Z7 (Yy E) (.slice none 0 0)).toArray)
 have T:=ZaA _ H9 (G9.out) (af.out) H (ZaB _) (fun k hk=>by simp[Value.ownBlock]at hk) al.out
 have S:=D T;have au:=D (af.out)
 have aj:=D (YH (Yy E) (.slice none 0 0) rfl)
 clear T;change Hid _ at H
 go_wp2_with(first|(refine Jo (Z7 (Yy E) (.slice none 0 0)).toArray au.blk Yf aj ?_;rw[←H.out]))
 refine bodyPost_ret (v:= .agg (Z7 (Yy E) (.slice none 0 0)).toArray) (Zs _ Tryz.results17 (b:=L) (o:=0) rfl Yf (Zb.of_block S.out.1)) rfl ?_
 rw[aa.out]
 refine ZdI.of (va:=va) ?_
 exact S.out.2
end
section
variable {w:World} {b:Nat} {P:YI} {s:Zf} {va vp vl:Value} {F:List Nat}
theorem Zra (h:Zh w b P none s va vp vl F) (hfit:ZW s n m) (hs:Lk.Safe s) (hE:Env w) (hn:n≤500000) (hm:m≤10000) (hac:0≤s.acts∧s.acts≤1000000) (a:ZbQ) (vi vh vb vr:Value) (hafit:Zcw a) (hop:a.op=12):
  Calls Tryz.prog 17 #[.pointer (some ⟨b,0,none⟩), .agg (Zbq a vi vh vb vr).toArray] w (ZdI b P (doS s a).1 (doS s a).2 w F):=by
 obtain⟨R,J⟩:=Je (doS s a)
 rw[←J]
 obtain⟨M,j⟩:=Je (w.alloc (.cells (Zbq a vi vh vb vr).toArray 47))
 obtain⟨d,l⟩:=Je w.heap.size
 obtain⟨i,p⟩:=Je (M.alloc (.cells #[.int .i64 0, .int .i64 0, .int .i64 0, .slice none 0 0] 39))
 obtain⟨L,z⟩:=Je M.heap.size
 have X:L=d+1:=by rw[z,j,l];simp
 have H:=Ja j
 have E:=Ja p
 have q:=H.trans E (by simp)
 have Y:w.heap.size≤L:=by rw[z];exact H.size
 have I:M.heap[d]? =some (.cells (Zbq a vi vh vb vr).toArray 47 (0,0)):=by rw[j,l];exact Za _
 have r:Own i d (Zbq a vi vh vb vr).toArray 47 F:=⟨(E.block d (Jg I) (by simp)).trans I,fun hm=>by have:=h.lt d hm;omega⟩
 have aa:ZaV i L F:=⟨by rw[p,z];exact Za _,fun hm=>by have:=h.lt L hm;omega⟩
 have O:=h.upd0 q
 obtain⟨x,ak⟩:=O.blk
 have ab:=Jx 20 x
 have T:i.frozen? ⟨b,20,none⟩=false:=Zk x
 obtain⟨w1,y⟩:=Je (i.setCell ⟨b,20,none⟩ (.int .i64 (s.acts+1)))
 obtain⟨s1,c⟩:=Je (({s with acts:=s.acts+1}:Zf))
 obtain⟨h1,g⟩:=O.main (w1:=w1) (s':=s1) (by rw[y];exact(Zg.refl [b] i).setCell (.inr (by simp)) _) (by rw[y,Ze x,c];rfl) (fun _ _ _=>by rw[c];rfl) (by rw[c]) (by rw[c])
 have HR:=D (show R=doS s a from J)
 have aj:=D c
 have ae:=D (show ZW s1 n m by rw[c];exact{hfit with log:=hfit.log})
 have HS:=D (show Lk.Safe s1 by rw[c];exact hs)
 have ai:=D Y
 have ao:=D (r.step g);have ah:=D (aa.step g);have H1:=D h1;have G1:=D (((Zi.refl w F).upd0 q).trans g);have V:=D hac;have an:=D hafit;have af:=D hop
 have ap:=D (Zds h hE (((Zi.refl w F).upd0 q).trans g))
 have c0:w1.cell? ⟨d,0,none⟩=some (.int .i64 a.op):=(r.step g).cell rfl
 rw[hop]at c0
 have c1:w1.cell? ⟨d,1,none⟩=some (.int .i64 a.id):=(r.step g).cell rfl
 clear J z H E q Y I r aa O x ak c h1 g hfit hs hE hac hafit h hop;change Hid _ at X j l p y
 go_enter Tryz.func17,Tryz.ntmps17
 go_upto_region 1 with fail
 rw[←j.out,←l.out,←p.out,←X.out]
 go_wp2_with fail
 refine(ZaM ⟨b,20,none⟩ s.acts 1 i ab T V.out.1 (by have:=V.out.2;omega) (by omega) (by omega)).mono ?_
 rintro e W ⟨rfl,N⟩
 rw[←y.out]at N
 rw[N]
 clear N W ab T
 have Z:=D (show R=((tailS s1 a.id).1,(Yy (tailS s1 a.id).2))by rw[HR.out,aj.out];unfold doS;rw[af.out];rfl)
 go_wp2_with fail
 refine(Zmg H1 ae HS (by omega) (by omega) a.id).mono ?_
 rintro e w9 ⟨rfl,q9,am,aq,F9,h9,K⟩
 have H9:=D h9;have G9:=D (G1.trans K);have ad:=D (ah.step K)
 obtain⟨C,ac⟩:=Je ((tailS s1 a.id).2)
 rw[←ac]at Z⊢
 clear h9 K ac
 obtain⟨we,G⟩:=Je (w9.setRow L (Z7 (Yy C) (.slice none 0 0)).toArray)
 have S:=ZaA _ H9 (G9.out) (ad.out) G (ZaB _) (fun k hk=>by simp[Value.ownBlock]at hk) ai.out
 have Q:=D S;have al:=D (ad.out)
 have ag:=D (YH (Yy C) (.slice none 0 0) rfl)
 clear S;change Hid _ at G
 go_wp2_with(first|(refine Jo (Z7 (Yy C) (.slice none 0 0)).toArray al.blk Yf ag ?_;rw[←G.out]))
 refine bodyPost_ret (v:= .agg (Z7 (Yy C) (.slice none 0 0)).toArray) (Zs _ Tryz.results17 (b:=L) (o:=0) rfl Yf (Zb.of_block Q.out.1)) rfl ?_
 rw[Z.out]
 refine ZdI.of (va:=va) ?_
 exact Q.out.2
end
structure Zlv (w:World) (F:List Nat) (a:ZbQ) (Ai:Option Addr) (ci:Nat) (Ah:Option Addr) (ch:Nat) (Ab:Option Addr) (cb:Nat) (vr:Value):Prop where
 ids:ZfM w Ai a.ids
 oi:∀ab ao,Ai=some ⟨ab,ao,none⟩→ab∉F
 hds:Zay w Ah a.headers
 oh:∀ab ao,Ah=some ⟨ab,ao,none⟩→ab∉F
 bts:YZ w Ab a.bytes
 ob:∀ab ao,Ab=some ⟨ab,ao,none⟩→ab∉F
 req:Za0 w a.req vr
 orq:∀g o n c,vr= .slice (some ⟨g,o,none⟩) n c→g∉F
end Go.Proofs.YtbgbeddbfaopgaaGreatDoor
namespace Go.Lk
structure Zy (s t:Zf):Prop where
 acts:t.acts=s.acts
 conf:t.conf=s.conf
 now:t.now=s.now
 log:s.log<+:t.log
theorem Zy.refl (s:Zf):Zy s s:=⟨rfl,rfl,rfl,List.prefix_refl _⟩
theorem Zy.trans (h:Zy s t) (k:Zy t u):Zy s u:=⟨k.acts.trans h.acts,k.conf.trans h.conf,k.now.trans h.now,h.log.trans k.log⟩
theorem Zy.of {s t:Zf} (h1:t.acts=s.acts) (h2:t.conf=s.conf) (h3:t.now=s.now) (h4:t.log=s.log):Zy s t:=⟨h1,h2,h3,h4▸List.prefix_refl _⟩
theorem Zy.tell (s:Zf) (a b c d e:Int):Zy s (ZR s a b c d e):=⟨rfl,rfl,rfl,List.prefix_append _ _⟩
theorem Zy.setF (s:Zf) (i:Int) (g:ZE→ZE):Zy s (setF s i g):= .of rfl rfl rfl rfl
theorem Zy.foldl {α:Type} {f:Zf→α→Zf} (hf:∀s x,Zy s (f s x)):∀(l:List α) (s:Zf),Zy s (l.foldl f s)
 |[],s=>Zy.refl s
 |x::l,s=>(hf s x).trans (Zy.foldl hf l (f s x))
theorem Zy.foldl2 {α β:Type} {f:Zf×β→α→Zf×β} (hf:∀s x,Zy s.1 (f s x).1):∀(l:List α) (s:Zf×β),Zy s.1 (l.foldl f s).1
 |[],s=>Zy.refl s.1
 |x::l,s=>(hf s x).trans (Zy.foldl2 hf l (f s x))
theorem Zy.open (s:Zf) (i:Int):Zy s (openS s i):=by
 unfold openS
 dsimp only
 split
 ·exact .of rfl rfl rfl rfl
 ·split
  ·exact .of rfl rfl rfl rfl
  ·exact .of rfl rfl rfl rfl
theorem Zy.forget (s:Zf) (p:ZM) (k:Bool):Zy s (forgetS s p k):=by
 unfold forgetS
 dsimp only
 split<;>exact .of rfl rfl rfl rfl
theorem Zy.leave (s:Zf) (i:Int):Zy s (leaveS s i):=by
 unfold leaveS
 dsimp only
 split
 ·exact Zy.setF _ _ _
 split
 ·exact Zy.setF _ _ _
 split
 ·exact .of rfl rfl rfl rfl
 split
 ·exact .of rfl rfl rfl rfl
 ·refine Zy.trans ?_ (Zy.forget _ _ _)
  exact⟨rfl,rfl,rfl,List.prefix_append _ _⟩
theorem Zy.over (s:Zf) (i st:Int):Zy s (overS s i st):=by
 unfold overS
 dsimp only
 split
 ·exact Zy.refl s
 split
 ·exact Zy.refl s
 split
 ·exact⟨rfl,rfl,rfl,List.prefix_append _ _⟩
 split
 ·exact⟨rfl,rfl,rfl,List.prefix_append _ _⟩
 split
 ·refine Zy.trans ?_ (Zy.leave _ _)
  exact⟨rfl,rfl,rfl,List.prefix_append _ _⟩
 ·exact⟨rfl,rfl,rfl,List.prefix_append _ _⟩
theorem Zy.submit (s:Zf) (r:Yb):Zy s (submitS s r).1:=by
 unfold submitS
 split
 ·exact Zy.refl s
 split
 ·exact Zy.refl s
 split
 ·exact Zy.refl s
 dsimp only
 split
 ·exact Zy.refl s
 split
 ·exact Zy.refl s
 have a:∀x y,Zy s {s with book:=x,all:=y}:=fun _ _=> .of rfl rfl rfl rfl
 have b:∀(t:Zf) x,Zy t {t with groups:=x}:=fun _ _=> .of rfl rfl rfl rfl
 dsimp only
 split
 ·exact(((a _ _).trans (Zy.tell _ _ _ _ _ _)).trans (b _ _)).trans (Zy.open _ _)
 ·exact((a _ _).trans (Zy.tell _ _ _ _ _ _)).trans (b _ _)
theorem Zy.activate (s:Zf) (i:Int):Zy s (activateS s i).1:=by
 unfold activateS
 split
 ·exact Zy.refl s
 split
 ·exact Zy.refl s
 ·exact(Zy.tell _ _ _ _ _ _).trans (Zy.open _ _)
theorem Zy.load (s:Zf) (g:Int):Zy s (loadS s g).1:=by
 unfold loadS
 split
 ·exact Zy.refl s
 ·refine Zy.foldl2 (fun a x=> ?_) _ (s,(0:Int))
  split
  ·split
   ·exact Zy.activate _ _
   ·exact Zy.refl _
  ·exact Zy.refl _
theorem Zy.late:∀(f:Nat) (s:Zf) (n:Int),Zy s (lateS f s n).1
 |0,s,n=>Zy.refl s
 |f+1,s,n=>by
  unfold lateS
  split
  ·exact Zy.refl s
  split
  ·exact Zy.refl s
  ·refine Zy.trans ?_ (Zy.late f _ _)
   refine Zy.trans ?_ (Zy.over _ _ _)
   exact .of rfl rfl rfl rfl
theorem Zy.hold (s:Zf) (f:ZE) (i:ZQ):Zy s (holdS s f i):=by
 have a:Zy s (Zat s (Zb1 f.req) f.id).1:=by
  unfold Zat
  split
  ·exact Zy.refl s
  split
  ·split
   ·exact .of rfl rfl rfl rfl
   ·exact Zy.refl s
  ·exact .of rfl rfl rfl rfl
 unfold holdS
 dsimp only
 split
 ·exact⟨a.acts,a.conf,a.now,a.log.trans (List.prefix_append _ _)⟩
 ·exact⟨a.acts,a.conf,a.now,a.log.trans (List.prefix_append _ _)⟩
theorem Zy.depart (s:Zf) (i:ZQ):Zy s (departS s i):=by
 unfold departS
 dsimp only
 split
 ·exact⟨rfl,rfl,rfl,List.prefix_append _ _⟩
 ·exact⟨rfl,rfl,rfl,List.prefix_append _ _⟩
theorem Zy.stepF:∀(g:Nat) (s:Zf) (sh:List Bs) (n:Int),Zy s (stepF g s sh n).1
 |0,s,sh,n=>Zy.refl s
 |g+1,s,sh,n=>by
  unfold Lk.stepF
  split
  ·exact Zy.refl s
  split
  ·exact Zy.stepF g _ _ _
  dsimp only
  have h1:∀x,Zy s {s with queue:=x}:=fun _=> .of rfl rfl rfl rfl
  split
  ·exact Zy.trans (Zy.trans (h1 _) (Zy.depart _ _)) (Zy.stepF g _ _ _)
  split
  ·exact Zy.trans (Zy.trans (h1 _) (Zy.hold _ _ _)) (Zy.stepF g _ _ _)
  ·exact Zy.trans (Zy.trans (h1 _) (Zy.depart _ _)) (Zy.stepF g _ _ _)
theorem Zy.failed (s:Zf) (p:ZM) (st n:Int):Zy s (failedS s p st n):=by
 unfold failedS
 dsimp only
 refine Zy.trans ?_ (Zy.foldl (fun a x=>Zy.over _ _ _) _ _)
 have b:=fun x=>(Zy.tell s 7 x p.num p.conn n).trans (Zy.forget _ p (st==8))
 exact⟨(b _).acts,(b _).conf,(b _).now,(b _).log⟩
theorem Zy.judge (s:Zf) (p:ZM) (st:Int) (hs:List (Bs×Bs)):Zy s (judgeS s p st hs):=by
 unfold judgeS
 dsimp only
 split
 ·exact Zy.refl s
 split
 ·exact Zy.failed _ _ _ _
 have b:∀x,Zy s {s with cache:=x}:=fun _=> .of rfl rfl rfl rfl
 have c:∀(t:Zf) x,Zy t {t with shares:=x}:=fun _ _=> .of rfl rfl rfl rfl
 refine((((b _).trans (Zy.tell _ _ _ _ _ _)).trans (Zy.forget _ _ _)).trans (c _ _)).trans (Zy.foldl (fun a x=> ?_) _ _)
 split
 ·exact((Zy.setF _ _ _).trans (Zy.tell _ _ _ _ _ _)).trans (.of rfl rfl rfl rfl)
 ·exact(Zy.setF _ _ _).trans (Zy.tell _ _ _ _ _ _)
theorem Zy.answer (s:Zf) (c st:Int) (hs:List (Bs×Bs)):Zy s (answerS s c st hs).1:=by
 unfold answerS
 dsimp only
 split
 ·exact Zy.refl s
 split
 ·exact Zy.refl s
 split
 ·exact Zy.refl s
 split
 ·exact Zy.refl s
 split
 ·exact Zy.judge _ _ _ _
 ·split
  ·exact Zy.over _ _ _
  ·exact(Zy.tell _ _ _ _ _ _).trans (Zy.setF _ _ _)
 ·exact Zy.refl s
theorem Zy.tail (s:Zf) (c:Int):Zy s (tailS s c).1:=by
 unfold tailS
 split
 ·exact Zy.refl s
 split
 ·exact Zy.refl s
 dsimp only
 split
 ·exact Zy.refl s
 dsimp only
 split
 ·exact((Zy.setF _ _ _).trans (Zy.tell _ _ _ _ _ _)).trans (Zy.over _ _ _)
 ·exact(Zy.setF _ _ _).trans (Zy.tell _ _ _ _ _ _)
open Go.RowKit
abbrev Zdb (k:Int):Prop:=k=1∨k=3∨k=9∨k=10∨k=12
theorem ZW.doR (h:ZW s n m) (hs:Safe s) (ha:Zcw a) (hop:Zdb a.op):ZW (doS s a).1 (n+2*m+800) (m+1):=by
 unfold Zdb at hop
 have c:∀{s:Zf} {k j:Nat},ZW s k j→k≤n+2*m+800→j≤m+1→ZW s (n+2*m+800) (m+1):=fun h b y=>h.mono b y
 unfold doS
 have b:ZW {s with acts:=s.acts+1} n m:={h with log:=h.log}
 have f:Safe {s with acts:=s.acts+1}:=hs
 generalize({s with acts:=s.acts+1}:Zf)=s1 at b f⊢
 have d:=c b (by omega) (by omega)
 show ZW (ite _ _ _:Zf×Zad).1 _ _
 by_cases o:a.op=1
 ·rw[if_pos o]
  split
  ·exact d
  ·rename_i hg
   refine{d with gl:= ?_,gm:= ?_,made:= ?_}
   ·show(s1.groups++[_]).length≤64;rw[Xd];simp;omega
   ·intro x hx
    rcases List.mem_append.1 hx with hx|hx
    ·exact d.gm x hx
    ·rw[Jm hx];exact⟨Xn _,List.Pairwise.nil⟩
   ·show((s1.groups.length:Int)+1)=((s1.groups++[_]).length:Nat);rw[Xd];simp
 rw[if_neg o]
 by_cases C:a.op=2
 ·omega
 rw[if_neg C]
 by_cases l:a.op=3
 ·rw[if_pos l]
  exact c (b.submit f ha.req) (by omega) (by omega)
 rw[if_neg l]
 by_cases A:a.op=4
 ·omega
 rw[if_neg A]
 by_cases E:a.op=5
 ·omega
 rw[if_neg E]
 by_cases t:a.op=6
 ·omega
 rw[if_neg t]
 by_cases z:a.op=7
 ·omega
 rw[if_neg z]
 by_cases w:a.op=8
 ·omega
 rw[if_neg w]
 by_cases i:a.op=9
 ·rw[if_pos i]
  exact c b.step (by omega) (by omega)
 rw[if_neg i]
 by_cases e:a.op=10
 ·rw[if_pos e]
  exact c (b.answer _ _ _) (by omega) (by omega)
 rw[if_neg e]
 by_cases r:a.op=11
 ·omega
 rw[if_neg r]
 by_cases g:a.op=12
 ·rw[if_pos g]
  exact c (b.tail _) (by omega) (by omega)
 rw[if_neg g]
 by_cases q:a.op=13
 ·omega
 rw[if_neg q]
 by_cases p:a.op=14
 ·omega
 rw[if_neg p]
 exact d
theorem Safe.doR (h:Safe s) (a:ZbQ) (hop:Zdb a.op):Safe (Lk.doS s a).1:=by
 unfold Zdb at hop
 unfold Lk.doS
 have b:Safe {s with acts:=s.acts+1}:=h
 generalize({s with acts:=s.acts+1}:Zf)=s0 at b⊢
 dsimp only
 by_cases f:a.op=1
 ·rw[if_pos f]
  split
  ·exact b
  ·refine⟨b.1,b.2.groups (fun g hg=> ?_)⟩
   rcases List.mem_append.1 hg with hg|hg
   ·exact b.2.grp g hg
   ·rw[Jm hg];intro x hx;cases hx
 rw[if_neg f]
 by_cases q:a.op=2
 ·omega
 rw[if_neg q]
 by_cases e:a.op=3
 ·rw[if_pos e];exact b.submitS _
 rw[if_neg e]
 by_cases m:a.op=4
 ·omega
 rw[if_neg m]
 by_cases r:a.op=5
 ·omega
 rw[if_neg r]
 by_cases o:a.op=6
 ·omega
 rw[if_neg o]
 by_cases n:a.op=7
 ·omega
 rw[if_neg n]
 by_cases p:a.op=8
 ·omega
 rw[if_neg p]
 by_cases i:a.op=9
 ·rw[if_pos i];exact b.stepS
 rw[if_neg i]
 by_cases c:a.op=10
 ·rw[if_pos c];exact b.answerS _ _ _
 rw[if_neg c]
 by_cases k:a.op=11
 ·omega
 rw[if_neg k]
 by_cases d:a.op=12
 ·rw[if_pos d];exact b.tailS _
 rw[if_neg d]
 by_cases j:a.op=13
 ·omega
 rw[if_neg j]
 by_cases l:a.op=14
 ·omega
 rw[if_neg l]
 exact b
theorem Zmc (s:Zf) (a:ZbQ) (hop:Zdb a.op) (h8:a.op≠8):Zy {s with acts:=s.acts+1} (doS s a).1:=by
 unfold Zdb at hop
 unfold doS
 generalize({s with acts:=s.acts+1}:Zf)=s1
 show Zy s1 (ite _ _ _:Zf×Zad).1
 by_cases f:a.op=1
 ·rw[if_pos f]
  split
  ·exact Zy.refl _
  ·exact .of rfl rfl rfl rfl
 rw[if_neg f]
 by_cases n:a.op=2
 ·omega
 rw[if_neg n]
 by_cases e:a.op=3
 ·rw[if_pos e]
  exact Zy.submit _ _
 rw[if_neg e]
 by_cases m:a.op=4
 ·omega
 rw[if_neg m]
 by_cases o:a.op=5
 ·omega
 rw[if_neg o]
 by_cases k:a.op=6
 ·omega
 rw[if_neg k]
 by_cases l:a.op=7
 ·omega
 rw[if_neg l]
 by_cases j:a.op=8
 ·omega
 rw[if_neg j]
 by_cases d:a.op=9
 ·rw[if_pos d]
  exact Zy.stepF _ _ _ _
 rw[if_neg d]
 by_cases b:a.op=10
 ·rw[if_pos b]
  exact Zy.answer _ _ _ _
 rw[if_neg b]
 by_cases i:a.op=11
 ·omega
 rw[if_neg i]
 by_cases c:a.op=12
 ·rw[if_pos c]
  exact Zy.tail _ _
 rw[if_neg c]
 by_cases h:a.op=13
 ·omega
 rw[if_neg h]
 by_cases g:a.op=14
 ·omega
 rw[if_neg g]
 exact Zy.refl _
theorem Zol (s:Zf) (a:ZbQ) (hop:Zdb a.op):(doS s a).1.acts=s.acts+1∧(doS s a).1.conf=s.conf∧s.log<+:(doS s a).1.log:=by
 have h:=Zmc s a hop (by unfold Zdb at hop;omega)
 exact⟨h.acts,h.conf,h.log⟩
end Go.Lk
namespace Go.Proofs.YtbgbeddbfaopgaaGreatDoor
open Go.RowKit Go.Lk
theorem Zoe (h:Zh w b P none s va vp vl F) (hfit:ZW s n m) (hs:Lk.Safe s) (hE:Env w) (hn:n≤500000) (hm:m≤10000) (hac:0≤s.acts∧s.acts≤1000000) (a:ZbQ) (hop:Zdb a.op) (hafit:Zcw a) {ch:Nat} (ho:Zlv w F a Ai ci Ah ch Ab cb vr):
  Calls Tryz.prog 17 #[.pointer (some ⟨b,0,none⟩), .agg (Zbq a (.slice Ai a.ids.length ci) (.slice Ah a.headers.length ch) (.slice Ab a.bytes.length cb) vr).toArray] w (ZdI b P (doS s a).1 (doS s a).2 w F):=by
 by_cases g:a.op=1
 ·exact Zp9 h hfit hs hE hn hm hac a _ _ _ _ hafit g
 by_cases x:a.op=2
 ·unfold Zdb at hop;omega
 by_cases e:a.op=3
 ·exact ZnX h hfit hs hE hn hm hac a _ _ _ _ hafit ho.req ho.orq e
 by_cases q:a.op=4
 ·unfold Zdb at hop;omega
 by_cases t:a.op=5
 ·unfold Zdb at hop;omega
 by_cases o:a.op=6
 ·unfold Zdb at hop;omega
 by_cases p:a.op=7
 ·unfold Zdb at hop;omega
 by_cases r:a.op=8
 ·unfold Zdb at hop;omega
 by_cases i:a.op=9
 ·exact Zrm h hfit hs hE hn hm hac a _ _ _ _ hafit i
 by_cases c:a.op=10
 ·exact Zor h hfit hs hE hn hm hac a _ _ _ Ah ch hafit ho.hds ho.oh c
 by_cases l:a.op=11
 ·unfold Zdb at hop;omega
 by_cases d:a.op=12
 ·exact Zra h hfit hs hE hn hm hac a _ _ _ _ hafit d
 by_cases j:a.op=13
 ·unfold Zdb at hop;omega
 by_cases k:a.op=14
 ·unfold Zdb at hop;omega
 unfold Zdb at hop;omega
theorem ZoN (w:World):
  Calls Tryz.prog 31 #[] w fun e w'=>e= .returned (.pointer (some ⟨w.heap.size,0,none⟩))∧w'.heap[w.heap.size]? =some (.cells #[.slice none 0 0] 143 (0,0))∧Zg [] w w':=by
 obtain⟨d,a⟩:=Je (w.alloc (.cells #[.slice none 0 0] 143))
 have c:=Jh a
 have b:=Ja a
 change Hid _ at c b a
 go_enter Tryz.func31,Tryz.ntmps31
 go_wp2_with fail
 go_ret
 rw[←a.out]
 exact⟨rfl,c.out,b.out⟩
theorem ZnZ (w:World):
  Calls Tryz.prog 28 #[] w fun e w'=>e= .returned (.pointer (some ⟨w.heap.size,0,none⟩))∧w'.heap[w.heap.size]? =some (.cells #[.slice none 0 0] 134 (0,0))∧Zg [] w w':=by
 obtain⟨d,a⟩:=Je (w.alloc (.cells #[.slice none 0 0] 134))
 have c:=Jh a
 have b:=Ja a
 change Hid _ at c b a
 go_enter Tryz.func28,Tryz.ntmps28
 go_wp2_with fail
 go_ret
 rw[←a.out]
 exact⟨rfl,c.out,b.out⟩
theorem ZmF (w:World):
  Calls Tryz.prog 29 #[] w fun e w'=>e= .returned (.pointer (some ⟨w.heap.size,0,none⟩))∧w'.heap[w.heap.size]? =some (.cells #[.slice none 0 0] 137 (0,0))∧Zg [] w w':=by
 obtain⟨d,a⟩:=Je (w.alloc (.cells #[.slice none 0 0] 137))
 have c:=Jh a
 have b:=Ja a
 change Hid _ at c b a
 go_enter Tryz.func29,Tryz.ntmps29
 go_wp2_with fail
 go_ret
 rw[←a.out]
 exact⟨rfl,c.out,b.out⟩
theorem ZnO (w:World):
  Calls Tryz.prog 30 #[] w fun e w'=>e= .returned (.pointer (some ⟨w.heap.size,0,none⟩))∧w'.heap[w.heap.size]? =some (.cells #[.slice none 0 0, .int .i64 0] 140 (0,0))∧Zg [] w w':=by
 obtain⟨d,a⟩:=Je (w.alloc (.cells #[.slice none 0 0, .int .i64 0] 140))
 have c:=Jh a
 have b:=Ja a
 change Hid _ at c b a
 go_enter Tryz.func30,Tryz.ntmps30
 go_wp2_with fail
 go_ret
 rw[←a.out]
 exact⟨rfl,c.out,b.out⟩
theorem ZoQ (a:Nat) (w:World):
  Calls Tryz.prog 25 #[.int .u64 a] w fun e w'=>e= .returned (.pointer (some ⟨w.heap.size,0,none⟩))∧w'.heap[w.heap.size]? =some (.cells #[.slice none 0 0, .int .u64 a] 125 (0,0))∧Zg [] w w':=by
 obtain⟨g,b⟩:=Je (w.alloc (.cells #[.slice none 0 0, .int .u64 a] 125))
 have d:=Jh b
 have c:=Ja b
 change Hid _ at d c b
 go_enter Tryz.func25,Tryz.ntmps25
 go_wp2_with fail
 go_ret
 rw[←b.out]
 exact⟨rfl,d.out,c.out⟩
theorem ZnN (w:World):
  Calls Tryz.prog 54 #[.int .i64 32] w fun e w'=>e= .returned (.pointer (some ⟨w.heap.size,0,none⟩))∧w'.heap[w.heap.size]? =some (.cells #[.slice none 0 0, .int .i64 32] 202 (0,0))∧Zg [] w w':=by
 obtain⟨d,a⟩:=Je (w.alloc (.cells #[.slice none 0 0, .int .i64 (max 1 32)] 202))
 have c:=Jh a
 have b:=Ja a
 change Hid _ at c b a
 go_enter Tryz.func54,Tryz.ntmps54
 go_wp2_with fail
 go_ret
 rw[←a.out]
 exact⟨rfl,c.out,b.out⟩
theorem Zqs (total:Int) (idle:Nat) (t:Int) (ht:t=max 1 (min total 32)) (w:World):
  Calls Tryz.prog 24 #[.int .i64 total, .int .u64 idle] w fun e w'=>∃p hb:Nat,e= .returned (.pointer (some ⟨p,0,none⟩))∧w'.heap[p]? =some (.cells #[.slice none 0 0, .slice none 0 0, .int .i64 t, .int .u64 idle, .pointer (some ⟨hb,0,none⟩), .int .i64 0] 122 (0,0))∧
   w'.heap[hb]? =some (.cells #[.slice none 0 0, .int .i64 32] 202 (0,0))∧p≠hb∧Zg [] w w'∧w.heap.size≤p∧w.heap.size≤hb:=by
 subst ht
 go_enter Tryz.func24,Tryz.ntmps24
 go_wp2_with fail
 refine(ZnN w).mono ?_
 rintro e j ⟨rfl,hb,h⟩
 obtain⟨d,g⟩:=Je w.heap.size
 rw[←g]at hb⊢
 obtain⟨q,a⟩:=Je (j.alloc (.cells #[.slice none 0 0, .slice none 0 0, .int .i64 (max 1 (min total 32)), .int .u64 idle, .pointer (some ⟨d,0,none⟩), .int .i64 0] 122))
 have k:=Jh a
 have b:=Ja a
 have c:=(Jg hb)
 have i:=(b.block d c (by simp)).trans hb
 have o:=D i;have m:=D (h.trans b (by simp));have l:=D c;have n:=D h.size
 clear hb i h b c;change Hid _ at k a g
 go_wp2_with fail
 go_ret
 rw[←a.out]
 exact⟨j.heap.size,d,rfl,k.out,o.out,by have:=l.out;omega,m.out,by have:=n.out;omega,by rw[g.out];exact Xi _⟩
theorem ZoF (n m:Int) (hm:m=max 1 (min n 64)) (w:World):
  Calls Tryz.prog 26 #[.int .i64 n] w fun e w'=>e= .returned (.pointer (some ⟨w.heap.size,0,none⟩))∧w'.heap[w.heap.size]? =some (.cells #[.slice none 0 0, .int .i64 m] 128 (0,0))∧Zg [] w w':=by
 subst hm
 obtain⟨d,a⟩:=Je (w.alloc (.cells #[.slice none 0 0, .int .i64 (max 1 (min n 64))] 128))
 have c:=Jh a
 have b:=Ja a
 change Hid _ at c b a
 go_enter Tryz.func26,Tryz.ntmps26
 go_wp2_with fail
 go_ret
 rw[←a.out]
 exact⟨rfl,c.out,b.out⟩
theorem Zog (w:World):
  Calls Tryz.prog 27 #[.int .i64 256] w fun e w'=>e= .returned (.pointer (some ⟨w.heap.size,0,none⟩))∧w'.heap[w.heap.size]? =some (.cells #[.slice none 0 0, .int .i64 256, .int .i64 0] 131 (0,0))∧Zg [] w w':=by
 obtain⟨d,a⟩:=Je (w.alloc (.cells #[.slice none 0 0, .int .i64 (max 1 256), .int .i64 0] 131))
 have c:=Jh a
 have b:=Ja a
 change Hid _ at c b a
 go_enter Tryz.func27,Tryz.ntmps27
 go_wp2_with fail
 go_ret
 rw[←a.out]
 exact⟨rfl,c.out,b.out⟩
def ZfQ (A:Nat→YG) (w:World) (e:Ending) (w':World):Prop:=∃p G,e= .returned (.pointer (some ⟨p,0,none⟩))∧A p w' G∧Zg [] w w'∧∀k∈G,w.heap.size≤k
theorem Zfa {b:Nat} {w':World} (cs:Value→Array Value) (T e:TypeId) (k:Nat) (h:w'.heap[b]? =some (.cells (cs (.slice none 0 0)) T (0,0))):Y2 b cs T e k [] w' [b]:=
 ⟨_,[],rfl,by simp,h,ZD _ _ _⟩
theorem Ziq {α:Type} {b:Nat} {w':World} (cs:Value→Array Value) (T e:TypeId) (k:Nat) (enc:Value→α→List Value) (mem:α→List Int) (h:w'.heap[b]? =some (.cells (cs (.slice none 0 0)) T (0,0))):Zib b cs T e k enc mem [] w' [b]:=by
 refine⟨[],rfl,[[b]],rfl,?_⟩
 have f:Lays ([]++[Y2 b cs T e k []]) w' ([]++[[b]]):=
  ⟨rfl,fun i A F a c=>by
   rcases i with _|i
   ·simp at a c;subst a;subst c;exact Zfa cs T e k h
   ·simp at a,fun i j F G a c d=>by
   rcases i with _|i<;>rcases j with _|j
   ·exact absurd rfl d
   ·simp at c
   ·simp at a
   ·simp at a⟩
 exact f
theorem Zll (w:World):Calls Tryz.prog 23 #[.int .u64 0] w (ZfQ (fun p=>Zc5 p 0) w):=by
 refine(ZqP 0 (by omega) w).mono ?_
 rintro e b ⟨rfl,h,a⟩
 exact⟨w.heap.size,[w.heap.size],rfl,⟨rfl,h⟩,a,by simp⟩
theorem Zmk (total:Int) (idle:Nat) (hi:idle≤18446744073709551615) (w:World):Calls Tryz.prog 24 #[.int .i64 total, .int .u64 idle] w (ZfQ (fun p=>YE p (ZiI total idle)) w):=by
 refine(Zqs total idle _ rfl w).mono ?_
 rintro e m ⟨p,b,rfl,j,d,c,l,g,i⟩
 refine⟨p,[p,b],rfl,⟨.slice none 0 0, .slice none 0 0,b,[],[],[b],rfl,j,ZD _ _ _,ZD _ _ _,Zfa _ _ _ _ d,(fun h=>by cases h),(fun h=>by cases h),(by simpa using c),(fun k a=>by cases a),(fun k a=>by cases a),(fun k a=>by cases a),?_⟩,l,by simp[g,i]⟩
 exact⟨by unfold ZiI;dsimp only;omega,by unfold ZiI;dsimp only[List.length_nil];omega,by simp[ZiI],by simp[ZiI],by simp[ZiI],hi⟩
theorem Zku (a:Nat) (w:World):Calls Tryz.prog 25 #[.int .u64 a] w (ZfQ (fun p=>YA p a []) w):=by
 refine(ZoQ a w).mono ?_
 rintro e c ⟨rfl,h,b⟩
 exact⟨w.heap.size,[w.heap.size],rfl,Zfa _ _ _ _ h,b,by simp⟩
theorem ZkH (n:Int) (w:World):Calls Tryz.prog 26 #[.int .i64 n] w (ZfQ (fun p=>Yk p (max 1 (min n 64)) []) w):=by
 refine(ZoF n _ rfl w).mono ?_
 rintro e b ⟨rfl,h,a⟩
 exact⟨w.heap.size,[w.heap.size],rfl,Zfa _ _ _ _ h,a,by simp⟩
theorem ZlF (w:World):Calls Tryz.prog 27 #[.int .i64 256] w (ZfQ (fun p=>Y9 p 256 0 []) w):=by
 refine(Zog w).mono ?_
 rintro e b ⟨rfl,h,a⟩
 exact⟨w.heap.size,[w.heap.size],rfl,⟨[],⟨.refl _,fun j c x y h=>by simp at h,by simp,by simp⟩,Zfa _ _ _ _ h⟩,a,by simp⟩
theorem Zk5 (w:World):Calls Tryz.prog 28 #[] w (ZfQ (fun p=>ZcW p []) w):=by
 refine(ZnZ w).mono ?_
 rintro e b ⟨rfl,h,a⟩
 exact⟨w.heap.size,[w.heap.size],rfl,Ziq _ _ _ _ _ _ h,a,by simp⟩
theorem ZjY (w:World):Calls Tryz.prog 29 #[] w (ZfQ (fun p=>Zec p []) w):=by
 refine(ZmF w).mono ?_
 rintro e b ⟨rfl,h,a⟩
 exact⟨w.heap.size,[w.heap.size],rfl,Ziq _ _ _ _ _ _ h,a,by simp⟩
theorem Zkv (w:World):Calls Tryz.prog 30 #[] w (ZfQ (fun p=>Zcl p 0 []) w):=by
 refine(ZnO w).mono ?_
 rintro e b ⟨rfl,h,a⟩
 exact⟨w.heap.size,[w.heap.size],rfl,Ziq _ _ _ _ _ _ h,a,by simp⟩
theorem ZmW (w:World):Calls Tryz.prog 31 #[] w (ZfQ (fun p=>YU p []) w):=by
 refine(ZoN w).mono ?_
 rintro e b ⟨rfl,h,a⟩
 exact⟨w.heap.size,[w.heap.size],rfl,Zfa _ _ _ _ h,a,by simp⟩
def Z1 (c:ZaW):List Value:=[.int .i64 c.total, .int .u64 c.aging, .int .i64 c.high, .int .i64 c.low, .int .u64 c.idle, .int .i64 c.cache, .int .u64 c.timeout]
theorem ZI (c:ZaW) (h:¬(1≤c.total∧c.total≤32∧1≤c.high∧c.high≤1024∧0≤c.low∧c.low<c.high∧1≤c.cache∧c.cache≤64∧1≤c.aging∧c.aging≤1000∧c.idle≤1000∧1≤c.timeout∧c.timeout≤600)):Zak c=false:=by
 cases hc:Zak c with
 |false=>rfl
 |true=>
  unfold Zak at hc
  simp only[Bool.and_eq_true,decide_eq_true_eq]at hc
  omega
theorem Zdj (c:ZaW) (w:World):
  Calls Tryz.prog 9 #[.agg (Z1 c).toArray] w fun e w'=>e= .returned (.bool (Zak c))∧Zg [] w w':=by
 obtain⟨R,a⟩:=Je (Zak c)
 rw[←a]
 obtain⟨k,h⟩:=Je (w.alloc (.cells (Z1 c).toArray 24))
 obtain⟨L,i⟩:=Je w.heap.size
 have g:k.heap[L]? =some (.cells (Z1 c).toArray 24 (0,0)):=by rw[h,i];exact Za _
 have b:=D (show Zg [] w k by rw[h];exact(Zg.refl [] w).alloc _)
 have q:=Jx 0 g
 have I:=Jx 1 g
 have F:=Jx 2 g
 have z:=Jx 3 g
 have C:=Jx 4 g
 have s:=Jx 5 g
 have K:=Jx 6 g
 clear g;change Hid _ at h i a
 go_enter Tryz.func9,Tryz.ntmps9
 go_upto_region 1 with fail
 rw[←h.out,←i.out]
 by_cases M:1≤c.total
 case neg=>
  go_wp2_with fail
  go_ret
  exact⟨by rw[a.out,ZI c (fun d=>by omega)];rfl,b.out⟩
 by_cases r:c.total≤32
 case neg=>
  go_wp2_with fail
  go_ret
  exact⟨by rw[a.out,ZI c (fun d=>by omega)];rfl,b.out⟩
 by_cases y:1≤c.high
 case neg=>
  go_wp2_with fail
  go_ret
  exact⟨by rw[a.out,ZI c (fun d=>by omega)];rfl,b.out⟩
 by_cases o:c.high≤1024
 case neg=>
  go_wp2_with fail
  go_ret
  exact⟨by rw[a.out,ZI c (fun d=>by omega)];rfl,b.out⟩
 by_cases p:0≤c.low
 case neg=>
  go_wp2_with fail
  go_ret
  exact⟨by rw[a.out,ZI c (fun d=>by omega)];rfl,b.out⟩
 by_cases E:c.low<c.high
 case neg=>
  go_wp2_with fail
  go_ret
  exact⟨by rw[a.out,ZI c (fun d=>by omega)];rfl,b.out⟩
 by_cases x:1≤c.cache
 case neg=>
  go_wp2_with fail
  go_ret
  exact⟨by rw[a.out,ZI c (fun d=>by omega)];rfl,b.out⟩
 by_cases H:c.cache≤64
 case neg=>
  go_wp2_with fail
  go_ret
  exact⟨by rw[a.out,ZI c (fun d=>by omega)];rfl,b.out⟩
 by_cases J:1≤c.aging
 case neg=>
  go_wp2_with fail
  go_ret
  exact⟨by rw[a.out,ZI c (fun d=>by omega)];rfl,b.out⟩
 by_cases G:c.aging≤1000
 case neg=>
  go_wp2_with fail
  go_ret
  exact⟨by rw[a.out,ZI c (fun d=>by omega)];rfl,b.out⟩
 by_cases n:c.idle≤1000
 case neg=>
  go_wp2_with fail
  go_ret
  exact⟨by rw[a.out,ZI c (fun d=>by omega)];rfl,b.out⟩
 by_cases l:1≤c.timeout
 case neg=>
  go_wp2_with fail
  go_ret
  exact⟨by rw[a.out,ZI c (fun d=>by omega)];rfl,b.out⟩
 have j:Zak c=decide ((c.timeout:Int)≤600):=by
  by_cases m:c.timeout≤600
  ·rw[decide_eq_true (show(c.timeout:Int)≤600 by omega)]
   unfold Zak;simp only[Bool.and_eq_true,decide_eq_true_eq];omega
  ·rw[decide_eq_false (show¬(c.timeout:Int)≤600 by omega)]
   exact ZI c (fun d=>by omega)
 change Hid _ at j
 go_wp2_with fail
 go_ret
 refine⟨?_,b.out⟩
 rw[a.out,j.out]
 rfl
end Go.Proofs.YtbgbeddbfaopgaaGreatDoor
namespace Go.Lk
open Go.RowKit
theorem Lays.turn {L:List YG} {A:YG} {FS:List (List Nat)} {F:List Nat} (h:Lays (L++[A]) w (FS++[F])):Lays (A::L) w (F::FS):=by
 have g:FS.length=L.length:=by have:=h.len;simpa using this
 refine⟨by simp[g],fun i B G b a=> ?_,fun i j G H b a k=> ?_⟩
 ·rcases i with _|i
  ·simp at b a;subst b;subst a
   exact h.lies L.length _ _ (by rw[List.getElem?_append_right (Xi _)];simp) (by rw[←g,List.getElem?_append_right (Xi _)];simp)
  ·rw[Xf]at b a
   have c:=(Jk b)
   have e:=(Jk a)
   exact h.lies i _ _ (by rw[List.getElem?_append_left c];exact b) (by rw[List.getElem?_append_left e];exact a)
 ·have f:∀(i:Nat) (G:List Nat),(F::FS)[i]? =some G→(FS++[F])[if i=0 then FS.length else i-1]? =some G∧(if i=0 then FS.length else i-1)≤FS.length:=fun i G d=>by
   rcases i with _|i
   ·rw[if_pos rfl,List.getElem?_append_right (Xi _)]
    simp at d⊢;exact d
   ·rw[if_neg (by omega),Xf]at*
    have c:=(Jk d)
    rw[Nat.add_sub_cancel,List.getElem?_append_left c]
    exact⟨d,by omega⟩
  have c:i<(F::FS).length:=(Jk b)
  have e:j<(F::FS).length:=(Jk a)
  simp only[List.length_cons]at c e
  refine h.apart _ _ G H (f i G b).1 (f j H a).1 ?_
  split<;>split<;>omega
theorem Lays.empty {L:List YG} {A E:YG} {FS:List (List Nat)} {F:List Nat} (h:Lays (A::L) w (F::FS)) (he:E w []):Lays (A::E::L) w (F::[]::FS):=by
 have e:∀(i:Nat) (G:List Nat) (k:Nat),(F::[]::FS)[i]? =some G→k∈G→i≠1∧(F::FS)[if i=0 then 0 else i-1]? =some G:=fun i G k d c=>by
  rcases i with _|_|i
  ·exact⟨by omega,d⟩
  ·simp at d;subst d;cases c
  ·refine⟨by omega,?_⟩
   rw[if_neg (by omega)]
   simpa using d
 refine⟨by have:=h.len;simp at this⊢;exact this,fun i B G a b=> ?_,fun i j G H a b m k c f=> ?_⟩
 ·rcases i with _|_|i
  ·simp at a b;subst a;subst b
   exact h.lies 0 _ _ rfl rfl
  ·simp at a b;subst a;subst b;exact he
  ·exact h.lies (i+1) B G (by simpa using a) (by simpa using b)
 ·obtain⟨n,l⟩:=e i G k a c
  obtain⟨o,g⟩:=e j H k b f
  exact h.apart _ _ G H l g (by split<;>split<;>omega) k c f
end Go.Lk
namespace Go.Proofs.YtbgbeddbfaopgaaGreatDoor
open Go.RowKit Go.Lk
theorem Zen:Zu Tryz.prog 24 7=true:=by kernel_rfl
def ZrH (c:ZaW) (w:World) (e:Ending) (w':World):Prop:=∃b P va vp vl F,e= .returned (.tuple #[.pointer (some ⟨b,0,none⟩), .int .i64 0])∧Zh w' b P none (newS c) va vp vl F∧Zg [] w w'∧∀k∈F,w.heap.size≤k
theorem Zqd {w W we:World} {c:ZaW} {p1 p2 p3 p4 p5 p6 p7 p8 p9 b:Nat} {FS:List (List Nat)}
  (h:Lays [Zc5 p1 0,YE p2 (ZiI c.total c.idle),YA p3 c.aging [],Yk p4 (max 1 (min c.cache 64)) [],Y9 p5 256 0 [],ZcW p6 [],Zec p7 [],Zcl p8 0 [],YU p9 []] W FS) (hn:∀k∈FS.flatten,w.heap.size≤k) (hw:Zg [] w W) (h2:2≤w.heap.size)
  (hb:b=W.heap.size) (hwe:we=W.alloc (.cells (Y3 (newS c) ⟨p1,p2,p3,p4,p5,p6,p7,p8,p9,[],[]⟩ (.slice none 0 0) (.slice none 0 0) (.slice none 0 0)).toArray 84)):
  ∃F,Zh we b ⟨p1,p2,p3,p4,p5,p6,p7,p8,p9,[],[]⟩ none (newS c) (.slice none 0 0) (.slice none 0 0) (.slice none 0 0) F∧Zg [] w we∧∀k∈F,w.heap.size≤k:=by
 have g:=Ja hwe
 have i:we.heap[b]? =some (.cells (Y3 (newS c) ⟨p1,p2,p3,p4,p5,p6,p7,p8,p9,[],[]⟩ (.slice none 0 0) (.slice none 0 0) (.slice none 0 0)).toArray 84 (0,0)):=by rw[hwe,hb];exact Za _
 have l:∀A∈[Zc5 p1 0,YE p2 (ZiI c.total c.idle),YA p3 c.aging [],Yk p4 (max 1 (min c.cache 64)) [],Y9 p5 256 0 [],ZcW p6 [],Zec p7 [],Zcl p8 0 [],YU p9 []],A.Local:=by
  intro A a
  simp only[List.mem_cons,List.not_mem_nil,or_false]at a
  rcases a with rfl|rfl|rfl|rfl|rfl|rfl|rfl|rfl|rfl
  ·exact Yt _ _
  ·exact ZZ _ _
  ·exact ZT _ _ _
  ·exact ZK _ _ _
  ·exact Yg _ _ _ _
  ·exact Yr _ _
  ·exact Yz _ _
  ·exact Yq _ _ _
  ·exact ZF _ _
 have p:=hw.size
 have o:=(h.add l (A1:=ZaL b (Y3 (newS c) ⟨p1,p2,p3,p4,p5,p6,p7,p8,p9,[],[]⟩ (.slice none 0 0) (.slice none 0 0) (.slice none 0 0)).toArray 84) (w1:=we) (F1:=[b]) ⟨rfl,i⟩ g (by simp[hb])).1
 have j:=(((o.turn.empty (ZD 56 7 we)).empty (ZD 178 1 we)).empty (ZD 98 1 we))
 have f:∀A∈[ZaL b (Y3 (newS c) ⟨p1,p2,p3,p4,p5,p6,p7,p8,p9,[],[]⟩ (.slice none 0 0) (.slice none 0 0) (.slice none 0 0)).toArray 84,Zj 98 1 (.slice none 0 0) [],Zj 178 1 (.slice none 0 0) [],Zj 56 7 (.slice none 0 0) [],Zc5 p1 0,YE p2 (ZiI c.total c.idle),YA p3 c.aging [],Yk p4 (max 1 (min c.cache 64)) [],Y9 p5 256 0 [],ZcW p6 [],Zec p7 [],Zcl p8 0 [],YU p9 []],A.Local:=by
  intro A a
  have:=Yi b ⟨p1,p2,p3,p4,p5,p6,p7,p8,p9,[],[]⟩ none (newS c) (.slice none 0 0) (.slice none 0 0) (.slice none 0 0) A
  refine this ?_
  simp only[Z0,List.mem_cons,List.not_mem_nil,or_false]at a⊢
  rcases a with a|a|a|a|a|a|a|a|a|a|a|a|a
  ·exact .inl a
  ·exact .inr (.inl a)
  ·exact .inr (.inr (.inl a))
  ·exact .inr (.inr (.inr (.inl a)))
  ·exact .inr (.inr (.inr (.inr (.inl a))))
  ·exact .inr (.inr (.inr (.inr (.inr (.inl a)))))
  ·exact .inr (.inr (.inr (.inr (.inr (.inr (.inl a))))))
  ·exact .inr (.inr (.inr (.inr (.inr (.inr (.inr (.inl a)))))))
  ·exact .inr (.inr (.inr (.inr (.inr (.inr (.inr (.inr (.inl a))))))))
  ·exact .inr (.inr (.inr (.inr (.inr (.inr (.inr (.inr (.inr (.inl a)))))))))
  ·exact .inr (.inr (.inr (.inr (.inr (.inr (.inr (.inr (.inr (.inr (.inl a))))))))))
  ·exact .inr (.inr (.inr (.inr (.inr (.inr (.inr (.inr (.inr (.inr (.inr (.inl a)))))))))))
  ·exact .inr (.inr (.inr (.inr (.inr (.inr (.inr (.inr (.inr (.inr (.inr (.inr (.inl a))))))))))))
 have e:YG.list [] we []:=⟨[],rfl,Lays.nil we⟩
 have m:=(j.add f (A1:=YG.list []) (w1:=we) (F1:=[]) e (Zg.refl [] we) (by simp)).1
 have n:=(m.add (by
  intro A a
  rcases List.mem_append.1 a with a|a
  ·exact f A a
  ·rw[Jm a];exact YG.list_local (by simp)) (A1:=YG.list []) (w1:=we) (F1:=[]) e (Zg.refl [] we) (by simp)).1
 refine⟨_,⟨⟨_,rfl,n⟩,rfl,rfl,fun k d=> ?_⟩,hw.trans g (by simp),fun k d=> ?_⟩
 ·simp only[List.flatten_append,List.mem_append,List.flatten_cons,List.flatten_nil,List.append_nil,List.nil_append,List.mem_cons,List.not_mem_nil,or_false]at d
  rcases d with d|d
  ·omega
  ·have:=hn k d;omega
 ·simp only[List.flatten_append,List.mem_append,List.flatten_cons,List.flatten_nil,List.append_nil,List.nil_append,List.mem_cons,List.not_mem_nil,or_false]at d
  rcases d with d|d
  ·omega
  ·exact hn k d
theorem Zil (c:ZaW) (hc:Zak c=false) (w:World):
  Calls Tryz.prog 7 #[.agg (Z1 c).toArray] w fun e w'=>e= .returned (.tuple #[.pointer none, .int .i64 2])∧Zg [] w w':=by
 obtain⟨b,a⟩:=Je (w.alloc (.cells (Z1 c).toArray 24))
 obtain⟨L,d⟩:=Je w.heap.size
 have h:b.heap[L]? =some (.cells (Z1 c).toArray 24 (0,0)):=by rw[a,d];exact Za _
 have i:=Ja a
 have j:=D (show Zb b L 0 (Z1 c)from Zb.of_block h)
 have k:=D Zen
 have q:=Zdj c b
 rw[hc]at q
 have m:=D q
 clear h q hc;change Hid _ at i a d
 go_enter Tryz.func7,Tryz.ntmps7
 go_upto_region 1 with fail
 rw[←a.out,←d.out]
 go_wp2_with(refine Jl j k ?_)
 refine m.out.mono ?_
 rintro e n ⟨rfl,g⟩
 have l:=Jt i g
 clear g
 go_wp2_with fail
 go_ret2
 exact⟨rfl,l.out⟩
theorem Zn3 (c:ZaW) (p1 p2 p3 p4 p5 p6 p7 p8 p9:Nat):
  ((((((((((List.foldl (fun(cs:Array Value) (x:Value×Nat)=>cs.setIfInBounds x.snd x.fst) #[.int .i64 0, .int .u64 0, .int .i64 0, .int .i64 0, .int .u64 0, .int .i64 0, .int .u64 0, .pointer none, .pointer none, .pointer none, .pointer none, .pointer none, .pointer none, .pointer none, .pointer none, .pointer none, .int .i64 0, .slice none 0 0, .slice none 0 0, .slice none 0 0, .int .i64 0, .int .i64 0] (Z1 c).zipIdx).setIfInBounds 7 (.pointer (some ⟨p1,0,none⟩))).setIfInBounds 8 (.pointer (some ⟨p2,0,none⟩))).setIfInBounds 9 (.pointer (some ⟨p3,0,none⟩))).setIfInBounds 10 (.pointer (some ⟨p4,0,none⟩))).setIfInBounds 11 (.pointer (some ⟨p5,0,none⟩))).setIfInBounds 12 (.pointer (some ⟨p6,0,none⟩))).setIfInBounds 13 (.pointer (some ⟨p7,0,none⟩))).setIfInBounds 14 (.pointer (some ⟨p8,0,none⟩))).setIfInBounds 15 (.pointer (some ⟨p9,0,none⟩)))=
   (Y3 (newS c) ⟨p1,p2,p3,p4,p5,p6,p7,p8,p9,[],[]⟩ (.slice none 0 0) (.slice none 0 0) (.slice none 0 0)).toArray:=by
 simp[Z1,Y3,newS]
theorem Zpk (c:ZaW) (hc:Zak c=true) (w:World) (hE:Env w):
  Calls Tryz.prog 7 #[.agg (Z1 c).toArray] w (ZrH c w):=by
 obtain⟨T,y⟩:=Je (w.alloc (.cells (Z1 c).toArray 24))
 obtain⟨L,Q⟩:=Je w.heap.size
 have z:T.heap[L]? =some (.cells (Z1 c).toArray 24 (0,0)):=by rw[y,Q];exact Za _
 have HU:=Ja y
 have ae:=D (show Zb T L 0 (Z1 c)from Zb.of_block z)
 have X:=D Zen
 have ar:=D (show c.idle≤18446744073709551615 by
  unfold Zak at hc
  simp only[Bool.and_eq_true,decide_eq_true_eq]at hc
  omega)
 have H2:=D hE.size
 have q:=Zdj c T
 rw[hc]at q
 have HQ:=D q
 clear q hc hE;change Hid _ at HU y Q z
 go_enter Tryz.func7,Tryz.ntmps7
 go_upto_region 1 with fail
 rw[←y.out,←Q.out]
 go_wp2_with(refine Jl ae X ?_)
 refine HQ.out.mono ?_
 rintro e w2 ⟨rfl,C⟩
 have m:=Jt HU C
 have Z:=D ((C.block L (Jg z) (by simp)).trans z)
 clear C
 go_upto_region 3 with fail
 obtain⟨S,hS⟩:∃S:World→Prop,S=fun W=>Zb W L 0 (Z1 c)∧W.cell? ⟨L,0,none⟩=some (.int .i64 c.total)∧W.cell? ⟨L,4,none⟩=some (.int .u64 c.idle)∧W.cell? ⟨L,1,none⟩=some (.int .u64 c.aging)∧W.cell? ⟨L,5,none⟩=some (.int .i64 c.cache):=⟨_,rfl⟩
 have l:=D (show∀W,Zg [] w2 W→(Zb W L 0 (Z1 c)∧W.cell? ⟨L,0,none⟩=some (.int .i64 c.total)∧W.cell? ⟨L,4,none⟩=some (.int .u64 c.idle)∧W.cell? ⟨L,1,none⟩=some (.int .u64 c.aging)∧W.cell? ⟨L,5,none⟩=some (.int .i64 c.cache))from fun W a=>by
  have hb:=(a.block L (Jg Z) (by simp)).trans Z.out
  exact⟨Zb.of_block hb,Zc (i:=0) hb rfl,Zc (i:=4) hb rfl,Zc (i:=1) hb rfl,Zc (i:=5) hb rfl⟩)
 clear hS S
 obtain⟨R,r⟩:=Je w2.drew
 have s:=Jd r
 have av:=D (Lays.nil R)
 change Hid _ at r s
 refine Jr [0,8,12,16,20,28,32,40,44,5,25,37,49,53,57,61,65,69,72,78,80,84] (fun W=>Zb W L 0 (Z1 c)∧W.cell? ⟨L,0,none⟩=some (.int .i64 c.total)∧W.cell? ⟨L,4,none⟩=some (.int .u64 c.idle)∧W.cell? ⟨L,1,none⟩=some (.int .u64 c.aging)∧W.cell? ⟨L,5,none⟩=some (.int .i64 c.cache)) (by have q:=l.out R s.out;rw[r.out]at q;exact q) ?_
 apply Zq (t:= 24) (x:= .tmp 1) (b:=L) (of:=0) (cs:=Z1 c)
 case ho=>simp only[Xh,Xf,Xg];rfl
 case hg=>rfl
 case hop=>rfl
 case hx=>rfl
 case ht=>exact X.out
 case hb=>exact fun W j=>j.1
 case ha=>go_simp;rfl
 repeat first|refine Jn ?_|refine Jf ?_|refine Ju ?_
 refine JE ?_
 simp only[Xu]
 rw[←r.out]
 go_wp2_with fail
 refine(Zll R).mono ?_
 rintro e w4 ⟨p1,G1,rfl,ha,a,d⟩
 have ab:=D (av.add (by simp) ha a d)
 have aj:=D (show∀x∈G1,w.heap.size≤x from fun x hx=>by have o:=d x hx;have p:=m.size;have n:=s.size;omega)
 have P:=Jt s a
 clear ha a d
 go_wp2_with fail
 refine⟨_,fun W j=>j,l.out _ P,?_⟩
 refine JE ?_
 go_wp2_with fail
 refine(Zmk c.total c.idle ar w4).mono ?_
 rintro e w5 ⟨p2,G2,rfl,ha,a,d⟩
 have af:=D (ab.out.1.add (by
  intro A g
  simp only[List.nil_append,List.cons_append,List.mem_cons,List.not_mem_nil,or_false]at g
  rcases g with rfl
  all_goals first|exact Yt _ _|exact ZZ _ _|exact ZT _ _ _|exact ZK _ _ _|exact Yg _ _ _ _|exact Yr _ _|exact Yz _ _|exact Yq _ _ _|exact ZF _ _) ha a d)
 have ax:=D (show∀x∈G2,w.heap.size≤x from fun x hx=>by have o:=d x hx;have p:=m.size;have n:=P.size;omega)
 have N:=Jt P a
 clear ha a d
 go_wp2_with fail
 refine⟨_,fun W j=>j,l.out _ N,?_⟩
 refine JE ?_
 go_wp2_with fail
 refine(Zku c.aging w5).mono ?_
 rintro e w6 ⟨p3,G3,rfl,ha,a,d⟩
 have ai:=D (af.out.1.add (by
  intro A g
  simp only[List.nil_append,List.cons_append,List.mem_cons,List.not_mem_nil,or_false]at g
  rcases g with rfl|rfl
  all_goals first|exact Yt _ _|exact ZZ _ _|exact ZT _ _ _|exact ZK _ _ _|exact Yg _ _ _ _|exact Yr _ _|exact Yz _ _|exact Yq _ _ _|exact ZF _ _) ha a d)
 have ay:=D (show∀x∈G3,w.heap.size≤x from fun x hx=>by have o:=d x hx;have p:=m.size;have n:=N.size;omega)
 have H:=Jt N a
 clear ha a d
 go_wp2_with fail
 refine⟨_,fun W j=>j,l.out _ H,?_⟩
 refine JE ?_
 go_wp2_with fail
 refine(ZkH c.cache w6).mono ?_
 rintro e w7 ⟨p4,G4,rfl,ha,a,d⟩
 have an:=D (ai.out.1.add (by
  intro A g
  simp only[List.nil_append,List.cons_append,List.mem_cons,List.not_mem_nil,or_false]at g
  rcases g with rfl|rfl|rfl
  all_goals first|exact Yt _ _|exact ZZ _ _|exact ZT _ _ _|exact ZK _ _ _|exact Yg _ _ _ _|exact Yr _ _|exact Yz _ _|exact Yq _ _ _|exact ZF _ _) ha a d)
 have am:=D (show∀x∈G4,w.heap.size≤x from fun x hx=>by have o:=d x hx;have p:=m.size;have n:=H.size;omega)
 have M:=Jt H a
 clear ha a d
 go_wp2_with fail
 refine⟨_,fun W j=>j,l.out _ M,?_⟩
 refine JE ?_
 go_wp2_with fail
 refine(ZlF w7).mono ?_
 rintro e w8 ⟨p5,G5,rfl,ha,a,d⟩
 have ao:=D (an.out.1.add (by
  intro A g
  simp only[List.nil_append,List.cons_append,List.mem_cons,List.not_mem_nil,or_false]at g
  rcases g with rfl|rfl|rfl|rfl
  all_goals first|exact Yt _ _|exact ZZ _ _|exact ZT _ _ _|exact ZK _ _ _|exact Yg _ _ _ _|exact Yr _ _|exact Yz _ _|exact Yq _ _ _|exact ZF _ _) ha a d)
 have aq:=D (show∀x∈G5,w.heap.size≤x from fun x hx=>by have o:=d x hx;have p:=m.size;have n:=M.size;omega)
 have O:=Jt M a
 clear ha a d
 go_wp2_with fail
 refine⟨_,fun W j=>j,l.out _ O,?_⟩
 refine JE ?_
 go_wp2_with fail
 refine(Zk5 w8).mono ?_
 rintro e w9 ⟨p6,G6,rfl,ha,a,d⟩
 have aw:=D (ao.out.1.add (by
  intro A g
  simp only[List.nil_append,List.cons_append,List.mem_cons,List.not_mem_nil,or_false]at g
  rcases g with rfl|rfl|rfl|rfl|rfl
  all_goals first|exact Yt _ _|exact ZZ _ _|exact ZT _ _ _|exact ZK _ _ _|exact Yg _ _ _ _|exact Yr _ _|exact Yz _ _|exact Yq _ _ _|exact ZF _ _) ha a d)
 have ac:=D (show∀x∈G6,w.heap.size≤x from fun x hx=>by have o:=d x hx;have p:=m.size;have n:=O.size;omega)
 have K:=Jt O a
 clear ha a d
 go_wp2_with fail
 refine⟨_,fun W j=>j,l.out _ K,?_⟩
 refine JE ?_
 go_wp2_with fail
 refine(ZjY w9).mono ?_
 rintro e ad ⟨p7,G7,rfl,ha,a,d⟩
 have az:=D (aw.out.1.add (by
  intro A g
  simp only[List.nil_append,List.cons_append,List.mem_cons,List.not_mem_nil,or_false]at g
  rcases g with rfl|rfl|rfl|rfl|rfl|rfl
  all_goals first|exact Yt _ _|exact ZZ _ _|exact ZT _ _ _|exact ZK _ _ _|exact Yg _ _ _ _|exact Yr _ _|exact Yz _ _|exact Yq _ _ _|exact ZF _ _) ha a d)
 have ag:=D (show∀x∈G7,w.heap.size≤x from fun x hx=>by have o:=d x hx;have p:=m.size;have n:=K.size;omega)
 have G:=Jt K a
 clear ha a d
 go_wp2_with fail
 refine⟨_,fun W j=>j,l.out _ G,?_⟩
 refine JE ?_
 go_wp2_with fail
 refine(Zkv ad).mono ?_
 rintro e ap ⟨p8,G8,rfl,ha,a,d⟩
 have ah:=D (az.out.1.add (by
  intro A g
  simp only[List.nil_append,List.cons_append,List.mem_cons,List.not_mem_nil,or_false]at g
  rcases g with rfl|rfl|rfl|rfl|rfl|rfl|rfl
  all_goals first|exact Yt _ _|exact ZZ _ _|exact ZT _ _ _|exact ZK _ _ _|exact Yg _ _ _ _|exact Yr _ _|exact Yz _ _|exact Yq _ _ _|exact ZF _ _) ha a d)
 have ak:=D (show∀x∈G8,w.heap.size≤x from fun x hx=>by have o:=d x hx;have p:=m.size;have n:=G.size;omega)
 have I:=Jt G a
 clear ha a d
 go_wp2_with fail
 refine⟨_,fun W j=>j,l.out _ I,?_⟩
 refine JE ?_
 go_wp2_with fail
 refine(ZmW ap).mono ?_
 rintro e V ⟨p9,G9,rfl,ha,a,d⟩
 have al:=D (ah.out.1.add (by
  intro A g
  simp only[List.nil_append,List.cons_append,List.mem_cons,List.not_mem_nil,or_false]at g
  rcases g with rfl|rfl|rfl|rfl|rfl|rfl|rfl|rfl
  all_goals first|exact Yt _ _|exact ZZ _ _|exact ZT _ _ _|exact ZK _ _ _|exact Yg _ _ _ _|exact Yr _ _|exact Yz _ _|exact Yq _ _ _|exact ZF _ _) ha a d)
 have au:=D (show∀x∈G9,w.heap.size≤x from fun x hx=>by have o:=d x hx;have p:=m.size;have n:=I.size;omega)
 have Y:=Jt I a
 clear ha a d
 go_wp2_with fail
 refine⟨_,fun W j=>j,l.out _ Y,?_⟩
 repeat first|refine Jn ?_|refine Jf ?_|refine Ju ?_
 refine JL ?_
 obtain⟨we,E⟩:=Je (V.alloc (.cells (Y3 (newS c) ⟨p1,p2,p3,p4,p5,p6,p7,p8,p9,[],[]⟩ (.slice none 0 0) (.slice none 0 0) (.slice none 0 0)).toArray 84))
 obtain⟨b,J⟩:=Je V.heap.size
 have aa:=D (Zqd (w:=w) al.out.1 (fun k h=>by
  simp only[List.flatten_append,List.mem_append,List.flatten_cons,List.flatten_nil,List.append_nil,List.nil_append]at h
  rcases h with(((((((h|h)|h)|h)|h)|h)|h)|h)|h
  ·exact aj k h
  ·exact ax k h
  ·exact ay k h
  ·exact am k h
  ·exact aq k h
  ·exact ac k h
  ·exact ag k h
  ·exact ak k h
  ·exact au k h) (m.trans Y (by simp)) H2 J E)
 change Hid _ at E J
 go_wp2_with fail
 rw[Zn3,←E.out,←J.out]
 refine⟨fun _=>True,trivial,?_⟩
 repeat first|refine Jn ?_|refine Jf ?_|refine Ju ?_
 refine ZL ?_
 go_wp2_with fail
 go_ret2
 obtain⟨F,h1,h2,h3⟩:=aa.out
 exact⟨b,_,_,_,_,F,rfl,h1,h2,h3⟩
def ZpZ (w:World) (l:List ZhP) (e:Ending) (w':World):Prop:=∃v G,e= .returned v∧Zj 56 7 v (l.map Y7) w' G∧Zg [] w w'∧∀k∈G,w.heap.size≤k
section
variable {w:World} {b:Nat} {P:YI} {s:Zf} {va vp vl:Value} {F:List Nat}
theorem ZnK (h:Zh w b P none s va vp vl F) (hn:s.log.length≤1000000):
  Calls Tryz.prog 13 #[.pointer (some ⟨b,0,none⟩)] w (ZpZ w s.log):=by
 obtain⟨G,e,_⟩:=h.step (k:=3) rfl
 obtain⟨A,c,rfl,_⟩:=e.form'
 have m:=Jx 19 h.blk.1
 have g:=D e;have L:=D hn
 obtain⟨l,a⟩:=Je (s.log.map Y7)
 have E:=D (show∀c∈l,∀u∈c,u.oneCell'=true from fun c p=>by
  rw[a]at p
  obtain⟨x,_,rfl⟩:=List.mem_map.1 p
  exact ZfD x)
 have r:=D (show l.length≤1000000 by rw[a,Xb];exact hn)
 have H:=D a
 rw[←a]at m g
 clear e hn h a
 obtain⟨n,d⟩:=Je l.length
 have K:=D d
 rw[←d]at m g
 clear d
 go_enter Tryz.func13,Tryz.ntmps13
 go_wp2_with(refine Zdq w rfl (.const (.slice none 0 0)) (.tmp 8) 33 rfl 56 Tryz.underlying33 Zk1 rfl (by omega) (by omega) (.slice none 0 0) [] [] rfl (ZD _ _ _) (.slice A n c) l G rfl g E (by have:=r.out;simp;omega) ?_;intro J M I j o i;have q:=D j;have z:=D o;have y:=D i;clear j o i)
 go_ret
 refine⟨J,I,rfl,?_,z.out,fun k C=>by rcases y k C with h|h;cases h;exact h⟩
 rw[←H.out]
 exact q.out
theorem ZoK (h:Zh w b P none s va vp vl F):Calls Tryz.prog 11 #[.pointer (some ⟨b,0,none⟩)] w fun e w'=>e= .returned (.int .u64 s.now)∧w'=w:=by
 have c:=Jx 7 h.blk.1
 have a:=D (Za5 h.clock.1)
 clear h
 go_enter Tryz.func11,Tryz.ntmps11
 go_wp2_with fail
 refine a.out.mono ?_
 rintro e w' ⟨rfl,rfl⟩
 go_wp2_with fail
 go_ret
 exact⟨rfl,rfl⟩
theorem ZlS (h:Zh w b P none s va vp vl F):Calls Tryz.prog 12 #[.pointer (some ⟨b,0,none⟩)] w fun e w'=>e= .returned (.int .i64 s.acts)∧w'=w:=by
 have a:=Jx 20 h.blk.1
 clear h
 go_enter Tryz.func12,Tryz.ntmps12
 go_wp2_with(go_at_call 33;refine(Zfx _ s.acts _ a).mono ?_;rintro e w' ⟨rfl,rfl⟩)
 go_ret
 exact⟨rfl,rfl⟩
theorem Zne (h:Zh w b P none s va vp vl F):Calls Tryz.prog 21 #[.pointer (some ⟨b,0,none⟩)] w fun e w'=>e= .returned (.int .i64 s.pool.busy.length)∧w'=w:=by
 have d:=Jx 8 h.blk.1
 obtain⟨G,a,_⟩:=h.pool
 have c:=D (Zpi a)
 clear h a
 go_enter Tryz.func21,Tryz.ntmps21
 go_wp2_with fail
 refine c.out.mono ?_
 rintro e w' ⟨rfl,rfl⟩
 go_wp2_with fail
 go_ret
 exact⟨rfl,rfl⟩
theorem Zki (h:Zh w b P none s va vp vl F):Calls Tryz.prog 10 #[.pointer (some ⟨b,0,none⟩)] w fun e w'=>e= .returned (.agg (Z1 s.conf).toArray)∧Zg [] w w':=by
 obtain⟨r,c⟩:=Je (w.alloc (.cells #[.int .i64 0, .int .u64 0, .int .i64 0, .int .i64 0, .int .u64 0, .int .i64 0, .int .u64 0] 24))
 have j:=Ja c
 have k:=Jh c
 have m:=(j.block b (h.lt b h.blk.2) (by simp)).trans h.blk.1
 obtain⟨a,g⟩:=Je s.conf
 have l:Zb r b 0 (Z1 a):=by
  rw[g]
  intro i u n
  have x:i<7:=by have:=(Jk n);simpa[Z1]using this
  refine Zc (i:=0+i) m ?_
  rw[Nat.zero_add]
  rcases i with _|_|_|_|_|_|_|i<;>first|exact n|omega
 have d:=D (show Zu Tryz.prog 24 7=true by kernel_rfl)
 have p:=D l
 have q:=D (show(Z1 a).toArray.all (·.oneCell')=true by simp[Z1,Value.oneCell'])
 clear m l h;change Hid _ at k j c g
 go_enter Tryz.func10,Tryz.ntmps10
 go_upto_region 3 with fail
 rw[←c.out]
 go_wp2_with(first|refine Jl p d ?_|refine Jo (Z1 a).toArray k d q ?_)
 refine bodyPost_ret (v:= .agg (Z1 a).toArray) (Zs _ Tryz.results10 (b:=w.heap.size) (o:=0) rfl d (Zb.of_block (setRow_heap _ _ _ _ _ _ k))) rfl ?_
 rw[←g.out]
 exact⟨rfl,j.setRow (.inl (Xi _)) _⟩
end
end Go.Proofs.YtbgbeddbfaopgaaGreatDoor
