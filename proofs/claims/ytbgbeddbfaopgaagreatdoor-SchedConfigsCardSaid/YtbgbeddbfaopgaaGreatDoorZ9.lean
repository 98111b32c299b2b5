import Derived.Test.YtbgbeddbfaopgaaGreatDoorZ8
set_option linter.all false
set_option maxHeartbeats 16000000
set_option maxRecDepth 100000
set_option autoImplicit true
set_option relaxedAutoImplicit true
namespace Go.Proofs.YtbgbeddbfaopgaaGreatDoor
open Go.RowKit Go.Lk
theorem Zj4 (x id:Int) (box:Nat) (W:World) (hc:W.cell? ⟨box,0,none⟩=some (.int .i64 id)):
  Calls Tryz.prog 283 #[.int .i64 x, .pointer (some ⟨box,0,none⟩)] W fun e w'=>e= .returned (.bool (x==id))∧Zg [] W w':=by
 go_enter Tryz.func283,Tryz.ntmps283
 go_wp2
 go_ret
 exact⟨rfl,Zg.refl _ _⟩
theorem Zo3 (p:Int→Bool) (g:FuncId) (lb:Array Value) (h:Z9 v l w F) (eg:∀args w,(callFunc g args).run Tryz.prog w= .ok (.enter g args) w)
  (hp:∀(W:World) (x:Int),Zg F w W→Calls Tryz.prog g (#[Value.int .i64 x]++lb) W fun e w'=>e= .returned (.bool (p x))∧Zg [] W w'):
  Calls Tryz.prog 282 #[v, .func (.func g) #[] lb] w fun e w'=>∃v',e= .returned v'∧Z9 v' (l.filter fun x=> !p x) w' F∧Zg F w w':=by
 have hd:=Zqm p g lb (fun _=>Znn) (fun _=>ZeE) (G:=[]) h rfl (by intro k _ m;cases m) eg (fun W o d r x q j b=>(hp W x (by simpa using b)).mono (by
  rintro e w' ⟨rfl,a⟩
  cases j
  exact⟨rfl,[],rfl,a,fun k c=> .inl c⟩))
 refine hd.mono ?_
 rintro e w' ⟨v',rfl,i,n,s,_,a,_⟩
 exact⟨v',rfl,i,by simpa using a⟩
theorem Zgx {last:Int} {gl:List (Value×ZH)} (h:YB b last gl w F) (hl:gl.length≤1000000) (hml:∀p∈gl,p.2.members.length≤1000000) (id:Int) {p:Value×ZH} (hq:gl.findIdx? (fun p=>p.2.members.contains id)=some i) (hp:gl[i]? =some p):
  Calls Tryz.prog 212 #[.pointer (some ⟨b,0,none⟩), .int .i64 id] w fun e w'=>∃(gl':List (Value×ZH)) (F1:List Nat),e= .returned (.tuple #[.int .i64 p.2.num, .bool (p.2.members.filter fun x=> !(x==id)).isEmpty, .bool true])∧YB b last gl' w' F1∧Zi w w' F F1∧
   gl'.map (·.2)=if 0<(p.2.members.filter fun x=> !(x==id)).length then(gl.map (·.2)).set i {p.2 with members:=p.2.members.filter fun x=> !(x==id)}else(gl.map (·.2)).eraseIdx i:=by
 obtain⟨R,ad⟩:=Je (if 0<(p.2.members.filter fun x=> !(x==id)).length then(gl.map (·.2)).set i {p.2 with members:=p.2.members.filter fun x=> !(x==id)}else(gl.map (·.2)).eraseIdx i)
 rw[←ad]
 change Hid _ at ad
 obtain⟨w1,ab⟩:=Je (w.alloc (.cells #[.int .i64 id] 3))
 have ac:=Ja ab
 have Y:=Jh ab
 have n:=(Z3 _ _ _).upd h ac (by simp)
 have q:=Zc3 n hml id
 rw[Yw hq]at q
 have Q:=Yv hq
 have kb:w1.cell? ⟨w.heap.size,0,none⟩=some (.int .i64 id):=Zc Y rfl
 have aY:=D ((Z3 _ _ _).lt h)
 have HQ:=D q;have H1:=D n;have HP:=D hp;have bb:=D hml
 clear q hq h n hp hml;change Hid _ at ab ac Y
 go_enter Tryz.func212,Tryz.ntmps212
 go_upto_region 1 with fail
 rw[←ab.out]
 go_wp2_with fail
 refine HQ.out.mono ?_
 rintro e w2 ⟨rfl,V⟩
 have H:=(Z3 _ _ _).upd H1 V (by simp)
 have X:=(V.block _ (Jg Y) (by simp)).trans Y.out
 obtain⟨G0,M,ho,hm,aP,hG,hM,av⟩:=Ze8 H HP.out
 obtain⟨v,G,rfl,aB,hb,E⟩:=ho
 obtain⟨A,c,rfl,hc⟩:=E.form'
 rw[Xb]at hb E
 obtain⟨g,rfl⟩:∃g,A=some ⟨g,0,none⟩:=by
  rcases E.form with⟨_,y,_⟩|⟨g,a1,_,n,_⟩
  ·rw[List.map_eq_nil_iff]at y;rw[y]at Q;simp at Q
  ·injection n with n;exact⟨g,n⟩
 have al:G=[g]:=by obtain⟨_,_,H,_⟩:=E.block;exact H
 subst al
 have aR:b≠g:=by simpa using aB
 have HC:=D (show(gl.map fun p=>Yd p.1 p.2)[i]? =some (Yd p.1 p.2)by rw[Xe,HP.out];rfl)
 obtain⟨A2,c2,ao,bh,_⟩:=hm.ints
 obtain⟨n2,am⟩:=Je p.2.members.length
 obtain⟨m,J⟩:=Je (p.2.members.filter fun x=> !(x==id))
 have T:=Zo3 (fun x=>x==id) 283 #[.pointer (some ⟨w.heap.size,0,none⟩)] hm (enters_of Tryz.func283 (by kernel_rfl) rfl) (fun W x P=>Zj4 x id w.heap.size W (Zc (i:=0) ((P.block _ (Jg X) (fun aT=>by have:=aY.out _ (hM _ aT);omega)).trans X) rfl))
 rw[←J]at T
 rw[ao,←am]at T
 have hL:=E.liesAt HC.out
 have c0:=Jc 0 hb
 have cn:w2.cell? ⟨g,i*7,none⟩=some (.int .i64 p.2.num):=hL 0 _ rfl
 have c6:w2.cell? ⟨g,i*7+6,none⟩=some (.slice A2 n2 c2):=by rw[am,←ao];exact hL 6 _ rfl
 have HD:=D T;have HB:=D hb;have HR:=D E;have aE:=D V;have HN:=D av;have HM:=D hm;have aK:=D aP;have be:=D hG;have bd:=D hM;have aM:=D aR;have bc:=D X;have H2:=D H
 clear H X hm aP hG hM av hb E T V ao am aR aB hL kb;change Hid _ at J
 go_upto_region 6 with fail
 go_wp2_with fail
 refine HD.out.mono ?_
 rintro e3 O ⟨v3,rfl,aj,K⟩
 obtain⟨r,o,rfl,_,_⟩:=aj.ints
 have ar:g∉M:=aK.out g (by simp)
 have aJ:b∉M:=aK.out b (by simp)
 have aI:=(Zd _ _ _ _).upd HR K (fun k z=>by rw[Jm z];exact ar)
 have aD:=(K.block b (Jg HB) aJ).trans HB.out
 obtain⟨d,an⟩:=Je m.length
 have ap:=Zc0 (j:=6) aI HC (by omega) (.slice r d o)
 have d6:O.cell? ⟨g,i*7+6,none⟩=some (.slice A2 n2 c2):=(Xp (K.block g ((Zd _ _ _ _).lt HR g (by simp)) ar)).trans c6
 have f6:=ap.2
 obtain⟨s,L⟩:=Je (O.setCell ⟨g,i*7+6,none⟩ (.slice r d o))
 have aq:=ap.1
 rw[←L]at aq
 have aL:=D aq;have aV:=D aj;have a8:=D K;have aA:=D aD;have N:=D an
 clear aI aD ap aq aj K ar aJ c6 cn c0;change Hid _ at L
 rw[←an]
 clear an
 go_upto_region 7 with fail
 rw[←L.out]
 have ay:Zg [b,g] O s:=by rw[L.out];exact(Zg.refl _ _).setCell (.inr (by simp)) _
 have au:Zg [g] O s:=by rw[L.out];exact(Zg.refl _ _).setCell (.inr (by simp)) _
 have ak:=(au.block b (Jg aA) (by simpa using aM.out)).trans aA.out
 have af:Hid (∃F1,YB b last (gl.set i (.slice r d o,{p.2 with members:=m})) s F1∧Zi w2 s F F1):=D (HN.out O s (.slice r d o,{p.2 with members:=m}) M (by rw[N.out];exact aV) (Zi.of_upd a8) ⟨_,[g],rfl,by simpa using aM.out,ak,by rw[List.map_set];exact aL⟩ ay)
 have k6:s.cell? ⟨g,i*7+6,none⟩=some (.slice r d o):=(aL.liesAt (show((gl.map fun p=>Yd p.1 p.2).set i ((Yd p.1 p.2).set 6 (.slice r d o)))[i]? =some _ from List.getElem?_set_self (by rw[Xb];exact Q))) 6 _ rfl
 have aX:=D ak
 clear ay au ak d6 f6
 by_cases y:0<d
 ·have HZ:=D (show m.isEmpty=false by have:=N.out;cases m with
   |nil=>simp at this;omega
   |cons a l=>rfl)
  go_wp2_with fail
  go_ret3
  obtain⟨F1,t1,t2⟩:=af.out
  refine⟨?_,_,F1,t1,(Zi.of_upd ((ac.trans aE (by simp)).weaken (by simp))).trans t2,?_⟩
  ·rw[←J.out,HZ.out]<;>rfl
  ·rw[ad.out,←J.out,if_pos (by rw[←N.out];exact y),List.map_set]
 ·have HZ:=D (show m.isEmpty=true by have:=N.out;cases m with
   |nil=>rfl
   |cons a l=>simp at this;omega)
  obtain⟨F1,h4,aG⟩:=af.out
  have aN:(gl.set i (Value.slice r d o,{p.2 with members:=m}))[i]? =some (Value.slice r d o,{p.2 with members:=m}):=List.getElem?_set_self Q
  obtain⟨G5,M5,a5,a6,aU,aO,a0,ae⟩:=ZlE h4 aN
  obtain⟨v5,G5,rfl,aw,Z,C⟩:=a5
  have I:=D (show(gl.set i (Value.slice r d o,{p.2 with members:=m})).length=gl.length from List.length_set)
  have aF:=D (show(gl.set i (Value.slice r d o,{p.2 with members:=m})).eraseIdx i=gl.eraseIdx i by rw[List.eraseIdx_set_eq])
  have az:=D (Zk6 h4)
  obtain⟨gs,aH⟩:=Je (gl.set i (Value.slice r d o,{p.2 with members:=m}))
  rw[←aH]at C ae I aF az
  obtain⟨A5,c5,rfl,bg⟩:=C.form'
  rw[Xb,I.out]at Z C
  obtain⟨S,rfl⟩:∃g,A5=some ⟨g,0,none⟩:=by
   rcases C.form with⟨_,y,_⟩|⟨g,a1,_,n,_⟩
   ·rw[List.map_eq_nil_iff]at y;have:=I.out;rw[y]at this;simp at this;omega
   ·injection n with n;exact⟨g,n⟩
  have al:G5=[S]:=by obtain⟨_,_,H,_⟩:=C.block;exact H
  subst al
  have ax:b≠S:=by simpa using aw
  have c0:=Jc 0 Z
  have hd:=Zje (by rw[Xb,I.out];exact C) (fun u P=>by
   obtain⟨cs,aW,P⟩:=List.mem_flatten.1 P
   obtain⟨p,hp,rfl⟩:=List.mem_map.1 aW
   exact Zea (az.out p hp) _ u P) (i:=i) (by rw[Xb,I.out];exact Q)
  rw[Xb,I.out]at hd
  have a2:=D hd;have aQ:=D Z;have a9:=D ae;have aS:=D aO;have ag:=D ax;have aZ:=D aG
  clear h4 aN a6 aU aO a0 ae Z C hd aw ax aG aH af aX
  go_wp2_with fail
  refine a2.out.mono ?_
  rintro e5 w5 ⟨rfl,ah,ai⟩
  rw[Y0]at ah
  have aa:=(ai.block b (Jg aQ) (by simpa using ag.out)).trans aQ.out
  have bf:=Jc 0 aa
  have f5:w5.frozen? ⟨b,0,none⟩=false:=Zk aa
  have a7:=D aa;have a3:=D ah;have ba:=D ai
  clear aa ah ai c0
  go_wp2_with fail
  go_ret3
  have aC:Zg [b,S] s (w5.setCell ⟨b,0,none⟩ (.slice (some ⟨S,0,none⟩) (gl.length-1) c5)):=(ba.weaken (fun k z=> .inr (by simp at z;simp[z]))).setCell (.inr (by simp)) _
  obtain⟨F2,t1,t2,t3⟩:=a9.out _ ⟨_,[S],rfl,by simpa using ag.out,Ze (i:=0) a7 _,(Zd _ _ _ _).upd a3 ((Zg.refl [b] w5).setCell (.inr (by simp)) _) (fun k z=>by simp at z⊢;have:=ag.out;omega)⟩ aC
  have a4:Zi s _ F1 F1:=Zi.of_upd (aC.weaken (fun k z=> .inr (aS.out k z)))
  refine⟨gs.eraseIdx i,F2,?_,t1,(((Zi.of_upd ((ac.trans aE (by simp)).weaken (by simp))).trans aZ).trans a4).drop t2,?_⟩
  ·rw[←J.out,HZ.out]<;>rfl
  ·rw[ad.out,←J.out,if_neg (by rw[←N.out];exact y),aF.out,Y0]
theorem Zi5 {g n:Nat} {xs:List (List Value)} {w:World} {cur:Array Value} (h:w.heap[g]? =some (.cells cur e (0,0))) (hn:n=xs.length) (hm:n≤maxLen) (hc:cur.toList=xs.flatten) (hk:∀c∈xs,c.length=1:=by simp[Zcy]):Zj e 1 (.slice (some ⟨g,0,none⟩) n n) xs w [g]:=by
 have a:=ZG hk
 have b:cur.size=xs.flatten.length:=by rw[←hc];simp
 refine⟨rfl,hk,by rw[a]<;>try omega, .inr ⟨g,n,cur,by rw[hn],Xn _,h,by omega,hm,by rw[b,a,hn],by rw[hc,←a,Xm]⟩⟩
theorem Lays.join {FS:List (List Nat)} {A1:YG} (h:Lays L w FS) (ha:A1 w F1) (hd:Z8 FS.flatten F1):Lays (L++[A1]) w (FS++[F1]):=by
 have get:∀(j:Nat) (G:List Nat),(FS++[F1])[j]? =some G→FS[j]? =some G∨(j=FS.length∧G=F1):=fun j G a=>by
  rcases Nat.lt_trichotomy j FS.length with b|b|b
  ·rw[List.getElem?_append_left b]at a;exact .inl a
  ·subst b
   rw[List.getElem?_append_right (Xi _)]at a
   right;simpa using a.symm
  ·rw[List.getElem?_eq_none (by simp;omega)]at a;cases a
 refine⟨by simp[h.len],fun j A G d a=> ?_,fun j l G H a m g=> ?_⟩
 ·rcases get j G a with c|⟨rfl,rfl⟩
  ·have b:=(Jk c)
   rw[List.getElem?_append_left (by rw[←h.len];exact b)]at d
   exact h.lies j A G d c
  ·rw[h.len,List.getElem?_append_right (Xi _)]at d
   simp at d;subst d;exact ha
 ·rcases get j G a with c|⟨rfl,rfl⟩<;>rcases get l H m with i|⟨rfl,rfl⟩
  ·exact h.apart j l G H c i g
  ·exact fun k e f=>hd k (Zw c e) f
  ·exact fun k e f=>hd k (Zw i f) e
  ·exact absurd rfl g
section
variable {α:Type} {b:Nat} {cs:Value→Array Value} {T e:TypeId} {k:Nat} {enc:Value→α→List Value} {mem:α→List Int}
theorem Zle {l:List (Value×α)} (h:Zbd b cs T e k enc mem l w F):
  ∃G,Y2 b cs T e k (l.map fun p=>enc p.1 p.2) w G∧(∀q∈G,q∈F)∧
   ∀w2 (p:Value×α) (M G2:List Nat),Z9 p.1 (mem p.2) w2 M→(∀q∈M,w.heap.size≤q)→Z8 G2 M→Y2 b cs T e k ((l++[p]).map fun p=>enc p.1 p.2) w2 G2→Zi w w2 G G2→∃F2,Zbd b cs T e k enc mem (l++[p]) w2 F2∧Zi w w2 F F2:=by
 obtain⟨f,rfl,c⟩:=h
 have i:=Za3 b cs T e k enc mem l
 have y:(Zbm b cs T e k enc mem l)[0]? =some (Y2 b cs T e k (l.map fun p=>enc p.1 p.2)):=rfl
 have x:0<f.length:=by rw[c.len];exact(Jk y)
 have g:=Xa x
 refine⟨f[0],c.lies 0 _ _ y g,fun q a=>Zw g a,fun w2 p M G2 C s z ho hg=> ?_⟩
 obtain⟨E,t⟩:=c.step i g ho hg
 have hd:Z8 (f.set 0 G2).flatten M:=fun q a o=>by
  obtain⟨j,G,d,n⟩:=YK a
  by_cases m:0=j
  ·subst m
   rw[List.getElem?_set_self x]at d;cases d
   exact z q n o
  ·rw[Xt m]at d
   have:=c.lt i q (Zw d n)
   have:=s q o
   omega
 have r:=Lays.join (A1:=Z9 p.1 (mem p.2)) E C hd
 have A:(Zbm b cs T e k enc mem l).set 0 (Y2 b cs T e k ((l++[p]).map fun p=>enc p.1 p.2))++[Z9 p.1 (mem p.2)]=Zbm b cs T e k enc mem (l++[p]):=by
  unfold Zbm
  rw[List.set_cons_zero,List.cons_append]
  simp
 rw[A]at r
 refine⟨_,⟨_,rfl,r⟩,t.upd,fun q a=> ?_⟩
 rw[List.flatten_append]at a
 rcases List.mem_append.1 a with a|a
 ·exact t.new q a
 ·exact .inr (s q (by simpa using a))
end
section
variable {w w1:World} {b:Nat} {p:ZaX} {vb vi:Value} {hb:Nat} {Gb Gi Gh:List Nat}
theorem Zah.setBusy (h:Zah w b p vb vi hb Gb Gi Gh) {v':Value} {l':List Zbe} (hu:Zg (b::Gb) w w1) (hb1:w1.heap[b]? =some (.cells #[v',vi, .int .i64 p.total, .int .u64 p.keep, .pointer (some ⟨hb,0,none⟩), .int .i64 p.last] 122 (0,0)))
  (hr:Zj 243 3 v' (l'.map ZO) w1 G') (hn:∀x∈G',x∈Gb∨w.heap.size≤x) (ok:ZjO {p with busy:=l'}):
  Zah w1 b {p with busy:=l'} v' vi hb G' Gi Gh:=by
 have e:=h.lt
 have new:∀x∈G',∀(G:List Nat),(∀k∈G,k<w.heap.size)→Z8 Gb G→x∉G:=fun x hx G g f a=>by
  rcases hn x hx with d|d
  ·exact f x d a
  ·have:=g x a;omega
 refine⟨hb1,hr,(Zd _ _ _ _).upd h.idle hu (fun k c a=> ?_),(ZA _ _).upd h.hosts hu (fun k c a=> ?_),fun a=> ?_,h.ni,h.nh,fun x hx=>new x hx _ (fun k c=>e k (by simp[c])) h.bi,fun x hx=>new x hx _ (fun k c=>e k (by simp[c])) h.bh,h.ih,ok⟩
 ·rcases List.mem_cons.1 a with rfl|a
  ·exact h.ni c
  ·exact h.bi k a c
 ·rcases List.mem_cons.1 a with rfl|a
  ·exact h.nh c
  ·exact h.bh k a c
 ·rcases hn b a with d|d
  ·exact h.nb d
  ·have:=e b (by simp);omega
theorem Zah.setIdle (h:Zah w b p vb vi hb Gb Gi Gh) {v':Value} {l':List Zbe} (hu:Zg (b::Gi) w w1) (hb1:w1.heap[b]? =some (.cells #[vb,v', .int .i64 p.total, .int .u64 p.keep, .pointer (some ⟨hb,0,none⟩), .int .i64 p.last] 122 (0,0)))
  (hr:Zj 243 3 v' (l'.map ZO) w1 G') (hn:∀x∈G',x∈Gi∨w.heap.size≤x) (ok:ZjO {p with idle:=l'}):
  Zah w1 b {p with idle:=l'} vb v' hb Gb G' Gh:=by
 have e:=h.lt
 have new:∀x∈G',∀(G:List Nat),(∀k∈G,k<w.heap.size)→Z8 Gi G→x∉G:=fun x hx G g f a=>by
  rcases hn x hx with d|d
  ·exact f x d a
  ·have:=g x a;omega
 refine⟨hb1,(Zd _ _ _ _).upd h.busy hu (fun k c a=> ?_),hr,(ZA _ _).upd h.hosts hu (fun k c a=> ?_),h.nb,fun a=> ?_,h.nh,fun x hx a=>new x a _ (fun k c=>e k (by simp[c])) h.bi.symm hx,h.bh,fun x hx=>new x hx _ (fun k c=>e k (by simp[c])) h.ih,ok⟩
 ·rcases List.mem_cons.1 a with rfl|a
  ·exact h.nb c
  ·exact h.bi k c a
 ·rcases List.mem_cons.1 a with rfl|a
  ·exact h.nh c
  ·exact h.ih k a c
 ·rcases hn b a with d|d
  ·exact h.ni d
  ·have:=e b (by simp);omega
theorem Zah.setHosts (h:Zah w b p vb vi hb Gb Gi Gh) (hu:Zg Gh w w1) (hr:Yj hb l' w1 G') (hn:∀x∈G',x∈Gh∨w.heap.size≤x) (ok:ZjO {p with hosts:=l'}):
  Zah w1 b {p with hosts:=l'} vb vi hb Gb Gi G':=by
 have e:=h.lt
 have new:∀x∈G',∀(G:List Nat),(∀k∈G,k<w.heap.size)→Z8 Gh G→x∉G:=fun x hx G g f a=>by
  rcases hn x hx with d|d
  ·exact f x d a
  ·have:=g x a;omega
 refine⟨(hu.block b (Jg h.blk) h.nh).trans h.blk,(Zd _ _ _ _).upd h.busy hu (fun k c a=>h.bh k c a),(Zd _ _ _ _).upd h.idle hu (fun k c a=>h.ih k c a),hr,h.nb,h.ni,fun a=> ?_,h.bi,fun x hx a=>new x a _ (fun k c=>e k (by simp[c])) h.bh.symm hx,fun x hx a=>new x a _ (fun k c=>e k (by simp[c])) h.ih.symm hx,ok⟩
 rcases hn b a with d|d
 ·exact h.nh d
 ·have:=e b (by simp);omega
end
theorem ZpK {l:List Yu} (h:l.length≤32∧∀x∈l,0≤x.uses∧x.uses≤6) (key:Bs):(Zdd l key).length≤32∧∀x∈Zdd l key,0≤x.uses∧x.uses≤6:=by
 unfold Zdd
 split
 ·split
  ·rename_i x hx
   split
   ·exact h
   ·rename_i c
    refine⟨by rw[List.length_set];exact h.1,fun y b=> ?_⟩
    rcases List.mem_or_eq_of_mem_set b with a|rfl
    ·exact h.2 y a
    ·have:=h.2 x (Xc hx);dsimp only;omega
  ·exact h
 ·exact h
theorem Zjz (h:YE b p w F) (num:Int) (now:Nat) (keep:Bool) (hnow:now≤18446744073709551615):
  Calls Tryz.prog 138 #[.pointer (some ⟨b,0,none⟩), .int .i64 num, .int .u64 now, .bool keep] w (Ziv fun w'=>∃F',YE b (giveP p num now keep) w' F'∧Zi w w' F F'):=by
 have H:=D h
 obtain⟨vb,vi,hb,R,z,K,hF,h⟩:=h
 have N:=Zoi h.busy num
 have c0:w.cell? ⟨b,0,none⟩=some vb:=Zc (i:=0) h.blk rfl
 cases hq:p.busy.findIdx? (fun c:Zbe=>c.num==num)with
 |none=>
  rw[Yo hq]at N
  have e1:giveP p num now keep=p:=by unfold giveP;rw[hq]
  rw[e1]
  have HQ:=D N
  clear hq N e1 h hF hnow
  go_enter Tryz.func138,Tryz.ntmps138
  go_wp2_with fail
  refine HQ.out.mono ?_
  rintro e a ⟨rfl,s⟩
  have az:=D s
  clear s
  go_wp2_with fail
  go_ret
  exact⟨_,rfl,F,(ZZ _ _).upd H az (by simp),⟨az.weaken (by simp),fun k hk=> .inl hk⟩⟩
 |some i=>
  rw[Yw hq]at N
  have V:=Yv hq
  obtain⟨x,hx⟩:∃x,p.busy[i]? =some x:=⟨_,Xa V⟩
  obtain⟨S,ai⟩:=Je (p.busy.eraseIdx i)
  have aP:S.length=p.busy.length-1:=by rw[ai];exact List.length_eraseIdx_of_lt V
  have aq:giveP p num now keep=if keep&&decide (0<p.keep)then{p with busy:=S,hosts:=Zdd p.hosts x.key,idle:=p.idle++[{x with until_:=addT now p.keep}]}else{p with busy:=S,hosts:=Zdd p.hosts x.key}:=by
   unfold giveP;rw[hq];dsimp only;rw[hx];dsimp only;rw[Ya,←ai]
  obtain⟨g,P,rfl⟩:∃g P,vb= .slice (some ⟨g,0,none⟩) p.busy.length P:=by
   rcases h.busy.form with⟨_,h0,_⟩|⟨g,P,_,h1,_⟩
   ·rw[List.map_eq_nil_iff]at h0;rw[h0]at V;simp at V
   ·exact⟨g,P,by rw[h1,Xb]⟩
  have aK:=h.ok.few;have aH:=h.ok.tot;have aU:=h.ok.keep
  have bE:p.busy.length≤32:=by omega
  have bC:p.idle.length≤32:=by omega
  have HQ:=D N;have HP:=D h;have X:=D hF;have HX:=D hx
  have HM:=D (show(p.busy.map ZO)[i]? =some (ZO x)by rw[Xe,hx];rfl)
  have aN:=D (And.intro aK (And.intro aH aP))
  have a8:=D (And.intro aU hnow)
  have aE:=D (show Zu Tryz.prog 243 3=true by kernel_rfl)
  have HO:=D (show(ZO x).toArray.all (·.oneCell')=true by rw[Xl,Xk];exact Zae x)
  clear hq N h hF hx aK aH aP aU hnow;change Hid _ at aq ai
  go_enter Tryz.func138,Tryz.ntmps138
  go_wp2_with fail
  refine HQ.out.mono ?_
  rintro e a ⟨rfl,s⟩
  have ah:=D (HP.upd s (by simp))
  have az:=D s
  have bl:=Jc 0 ah.blk
  have bs:=D (ah.busy.liesAt HM)
  obtain⟨w3,aa⟩:=Je ((a.alloc (.cells #[.int .i64 0, .string ⟨#[]⟩, .int .u64 0] 243 (0,0))).setRow a.heap.size (ZO x).toArray)
  have a2:=D (Za (w:=a) (.cells #[.int .i64 0, .string ⟨#[]⟩, .int .u64 0] 243 (0,0)))
  have ar:w3.heap[a.heap.size]? =some (.cells (ZO x).toArray 243 (0,0)):=by rw[aa];exact setRow_heap _ _ _ _ _ _ a2.out
  have av:Zg [] a w3:=by rw[aa];exact((Zg.refl [] a).alloc _).setRow (.inl (Xi _)) _
  have j:=D (ah.upd av (by simp))
  have bw:=D (s.trans av (by simp))
  have O:=D ah.lt
  have bm:=D (show w.heap.size≤a.heap.size from s.size)
  clear s c0 av;change Hid _ at ar aa
  go_upto_region 7 with(first|refine Js bs aE ?_|(refine Jo (ZO x).toArray a2 aE HO ?_;rw[←aa.out]))
  have bk:=Jc 0 j.blk
  have hd:=ZhV (by rw[Xb];exact j.busy) (Zdn Zae p.busy) (i:=i) (by rw[Xb];exact V)
  rw[Xb]at hd
  have HD:=D hd
  clear hd bl
  go_wp2_with fail
  refine HD.out.mono ?_
  rintro e w4 ⟨rfl,aC,ac⟩
  rw[Y0,←ai.out]at aC
  have L:R=[g]:=by obtain⟨_,_,h2,_⟩:=j.busy.block;exact h2
  have aD:=D L
  have aF:b≠g:=fun e=>j.nb (by rw[L,e];simp)
  have aT:a.heap.size≠g:=fun e=>by have:=O.out g (by rw[L];simp);omega
  have aY:a.heap.size≠b:=fun e=>by have:=O.out b (by simp);omega
  have ad:=(ac.block b (Jg j.blk) (by simpa using aF)).trans j.blk
  have aw:=(ac.block _ (Jg ar) (by simpa using aT)).trans ar.out
  have bo:=Jc 0 ad
  have bz:w4.frozen? ⟨b,0,none⟩=false:=Zk ad
  obtain⟨M,ae⟩:=Je (w4.setCell ⟨b,0,none⟩ (.slice (some ⟨g,0,none⟩) (p.busy.length-1) P))
  have ab:Zg [b] w4 M:=by rw[ae];exact(Zg.refl _ _).setCell (.inr (by simp)) _
  have aG:=D ((ab.block _ (Jg aw) (by simpa using aY)).trans aw)
  have aQ:=(Zd _ _ _ _).upd aC ab (fun k hk o=>by simp at hk o;exact aF (by omega))
  have ap:Zg (b::R) w3 M:=((ac.weaken (G:=b::R) (fun k hk=> .inr (by rw[L];simp at hk;simp[hk]))).trans ab (fun k hk=> .inr (by simp at hk;simp[hk])))
  have m:=D (j.setBusy (l':=S) ap (by rw[ae,Ze ad];rfl) aQ (fun y d=> .inl (by rw[L];exact d)) ⟨j.ok.tot,by have:=aN.out;dsimp only;omega,j.ok.hosts,j.ok.uses,j.ok.last,j.ok.keep⟩)
  clear aC ac L aF aT aY ad aw ab aQ bk;change Hid _ at ap ae
  go_upto_region 8 with fail
  rw[←ae.out]
  have a4:=Jc 4 m.blk
  have a5:M.cell? ⟨a.heap.size,1,none⟩=some (.string ⟨x.key.toArray⟩):=Zc aG rfl
  have a0:=fun(n:Nat)=>ZmU (w:=M.drewN n) m.hosts (Xj m.ok.hosts (by omega)) (fun y d=>by have:=m.ok.uses y d;omega) x.key
  have bv:=D a0
  clear a0 bo bz
  refine Jr [0,4,8,12,16,20,26] (fun W=>W.cell? ⟨b,4,none⟩=some (.pointer (some ⟨hb,0,none⟩))∧W.cell? ⟨a.heap.size,1,none⟩=some (.string ⟨x.key.toArray⟩)) ⟨a4,a5⟩ ?_
  repeat first|refine Jn ?_|refine Jf ?_|refine Ju ?_
  refine JL ?_
  simp only[Xu]
  go_wp2_with fail
  refine(bv.out 1).mono ?_
  rintro e C ⟨cf,rfl,aV,aX⟩
  have HU56:Zg K M C:=((Zg.refl K M).drewN 1).trans aX (fun k hk=> .inr hk)
  have am:=ZpK ⟨m.ok.hosts,m.ok.uses⟩ x.key
  have Q:=D (m.setHosts (l':=Zdd p.hosts x.key) HU56 aV (fun y d=> .inl d) ⟨m.ok.tot,m.ok.few,am.1,am.2,m.ok.last,m.ok.keep⟩)
  have a1:a.heap.size∉K:=fun o=>by have:=O.out _ (show a.heap.size∈b::(R++z++K)by simp[o]);omega
  have bA:=D ((HU56.block _ (Jg aG) a1).trans aG)
  clear aV aX am a1 a4 a5;change Hid _ at HU56
  have aB:=D (show Zg F w C from((bw.weaken (G:=F) (by simp)).trans ap (fun k hk=> .inr (by rw[X.out];simp at hk⊢;rcases hk with h|h<;>simp[h]))).trans HU56 (fun k hk=> .inr (by rw[X.out];simp[hk])))
  go_wp2_with fail
  refine Jz ?_
  have c3:=Jc 3 Q.blk
  have aJ:∀W,Zg [] C W→(keep&&decide (0<p.keep))=false→∃F',YE b (giveP p num now keep) W F'∧Zi w W F F':=fun W E hk=>by
   rw[aq.out,hk]
   exact⟨_,⟨_,_,_,_,_,_,rfl,Q.upd E (by simp)⟩,(aB.trans E (by simp)),fun k hk=> .inl (by rw[X.out,aD.out];exact hk)⟩
  have aM:=D aJ
  clear aJ
  cases keep with
  |false=>
   go_wp2_with fail
   go_ret
   exact⟨_,rfl,aM.out _ (Zg.refl _ _) rfl⟩
  |true=>
   by_cases aZ:0<p.keep
   ·obtain⟨l,ax⟩:=Je (addT now p.keep)
    have qa:=ZeD now p.keep a8.out.2 a8.out.1 C
    rw[←ax]at qa
    have bu:=D ax;have bn:=D qa
    have bp:decide (0<p.keep)=true:=decide_eq_true aZ
    have bD:decide (0<(p.keep:Int))=true:=decide_eq_true (by omega)
    obtain⟨A,c,aS,bh⟩:=Q.idle.form'
    rw[Xb]at aS bh
    subst aS
    have bt:=Q.blk
    have af:=bA.out
    have kx:C.cell? ⟨a.heap.size,2,none⟩=some (.int .u64 x.until_):=Zc af rfl
    have kf:C.frozen? ⟨a.heap.size,2,none⟩=false:=Zk af
    obtain⟨r,ak⟩:=Je (C.setCell ⟨a.heap.size,2,none⟩ (.int .u64 (l:Int)))
    have Y:Zg [a.heap.size] C r:=by rw[ak];exact(Zg.refl _ _).setCell (.inr (by simp)) _
    have a6:∀k∈b::([g]++z++K),k∉[a.heap.size]:=fun k hk o=>by
     have:=O.out k (by rw[aD.out];exact hk);simp at o;omega
    have q:=D (Q.upd Y a6)
    have au:=D (show Zb r a.heap.size 0 (ZO ⟨x.num,x.key,l⟩)from Zb.of_block (T:= 243) (fr:=(0,0)) (by rw[ak,Ze af];rfl))
    have an:=D q.blk;have bf:=D q.idle;have aR:=D q.ni
    have bj:=D (show a.heap.size∉z from fun o=>by have:=O.out _ (show a.heap.size∈b::(R++z++K)by simp[o]);omega)
    clear ax qa bt af a6;change Hid _ at ak Y
    go_wp2_with fail
    refine bn.out.mono ?_
    rintro e wt ⟨rfl,aW⟩
    rw[aW];clear aW wt
    go_upto_region 11 with fail
    rw[←ak.out]
    go_upto_region 11 with fail
    have a7:=Jc 1 an.out
    refine Jr [0,4,8,12,16,20,25,29,32,36,42] (fun W=>W.cell? ⟨b,1,none⟩=some (.slice A p.idle.length c)∧Zb W a.heap.size 0 (ZO ⟨x.num,x.key,l⟩)) ⟨a7,au.out⟩ ?_
    repeat first|refine Jn ?_|refine Jf ?_|refine Ju ?_
    apply Zq (t:= 243) (b:=a.heap.size) (of:=0) (cs:=[.int .i64 x.num, .string ⟨x.key.toArray⟩, .int .u64 (l:Int)])
    case ho=>simp only[Xh,Xf,Xg];rfl
    case hg=>rfl
    case hop=>rfl
    case hx=>rfl
    case ht=>exact aE.out
    case hb=>exact fun W E=>E.2
    case ha=>go_simp;rfl
    refine JE ?_
    go_wp2_with fail
    obtain⟨al,Z⟩:=Je ((r.alloc (.cells #[.int .i64 x.num, .string ⟨x.key.toArray⟩, .int .u64 (l:Int)] 243)).drew)
    rw[←Z]
    have J:Zg [] r al:=by rw[Z];exact((Zg.refl [] _).alloc _).drew
    have ao:=(J.block b (Jg an) (by simp)).trans an.out
    have aL:Zb al r.heap.size 0 (ZO ⟨x.num,x.key,l⟩):=by rw[Z];exact Zb.of_block (w:=r.alloc _) (Za _)
    have aI:=(Zd _ _ _ _).upd bf J (by simp)
    have aO:=D ao;have be:=D aI;have bi:=D aL
    have bd:=D (show al.cell? ⟨b,1,none⟩=some (.slice A p.idle.length c)from Zc (i:=1) ao rfl)
    clear ao aI Z aL a7;change Hid _ at J
    refine⟨fun W=>W.cell? ⟨b,1,none⟩=some (.slice A p.idle.length c)∧Zb W a.heap.size 0 (ZO ⟨x.num,x.key,l⟩),fun W E=>E,⟨bd,au.upd J (by simp)⟩,?_⟩
    refine JE ?_
    refine Zn al rfl (.tmp 65) (.tmp 67) 120 rfl 243 Tryz.underlying120 Zeb rfl (by omega) (by omega) _ (p.idle.map ZO) z rfl be r.heap.size 1 (ZO ⟨x.num,x.key,l⟩) rfl bi rfl (Zae _) (by rw[Xb];omega) ?_
    intro v' w8 G' ay aj a9
    obtain⟨A',c',e8,_⟩:=ay.form'
    rw[Xd,Xb,List.length_singleton]at e8
    subst e8
    have ag:=(aj.block b (Jg aO) aR).trans aO.out
    have c8:=Jc 1 ag
    have f8:w8.frozen? ⟨b,1,none⟩=false:=Zk ag
    have bx:=D ag;have bq:=D ay;have bB:=D aj;have br:=D a9
    have bc:=D ((au.upd J (by simp)).upd aj bj)
    clear ag ay aj a9
    go_wp2_with fail
    refine⟨fun W=>W.cell? ⟨b,1,none⟩=some (.slice A p.idle.length c)∧Zb W a.heap.size 0 (ZO ⟨x.num,x.key,l⟩),fun W E=>E,⟨c8,bc.out⟩,?_⟩
    repeat first|refine Jn ?_|refine Jf ?_|refine Ju ?_
    refine JL ?_
    go_wp2_with fail
    refine Jz ?_
    go_wp2_with fail
    go_ret
    have aA:∀y∈G',y∈z∨r.heap.size≤y:=fun y d=>by
     rcases br y d with I|I
     ·exact .inl I
     ·right;have:=J.size;omega
    have bb:b∉G':=fun o=>by
     rcases aA b o with I|I
     ·exact aR I
     ·have:=q.lt b (by simp);omega
    have a3:Zg (b::z) r (w8.setCell ⟨b,1,none⟩ (.slice A' (p.idle.length+1) c')):=(((J.weaken (G:=b::z) (by simp)).trans bB (fun y d=> .inr (by simp[d]))).setCell (.inr (by simp)) _)
    have bg:=q.setIdle (l':=p.idle++[⟨x.num,x.key,l⟩]) a3 (by rw[Ze bx.out];rfl) (by
      rw[Xs]
      exact(Zd _ _ _ _).upd bq ((Zg.refl [b] w8).setCell (.inr (by simp)) _) (fun y d o=>by rw[Jm o]at d;exact bb d)) aA
     ⟨q.ok.tot,by have:=aN.out;have e9:(p.idle++[(⟨x.num,x.key,l⟩:Zbe)]).length=p.idle.length+1:=(by simp);show(S.length:Int)+((p.idle++[(⟨x.num,x.key,l⟩:Zbe)]).length:Nat)≤p.total;rw[e9];omega,q.ok.hosts,q.ok.uses,q.ok.last,q.ok.keep⟩
    have ba:=(show YE b _ _ _ from⟨_,_,_,_,_,_,rfl,bg⟩)
    refine⟨_,rfl,b::([g]++G'++K),?_,?_,fun k hk=> ?_⟩
    ·rw[aq.out,bp,bu.symm]
     exact ba
    ·exact(aB.trans Y (fun y d=> .inl (by simp at d;have:=bm.out;omega))).trans a3 (fun y d=> .inr (by rw[X.out];simp at d⊢;rcases d with h|h<;>simp[h]))
    ·rw[X.out,aD.out]
     simp only[List.mem_cons,List.mem_append]at hk⊢
     rcases hk with hk|(hk|hk)|hk
     ·exact .inl (.inl hk)
     ·exact .inl (.inr (.inl (.inl hk)))
     ·rcases aA k hk with I|I
      ·exact .inl (.inr (.inl (.inr I)))
      ·right;have:=Y.size;have:=aB.size;omega
     ·exact .inl (.inr (.inr hk))
   ·go_wp2_with fail
    go_ret
    exact⟨_,rfl,aM.out _ (Zg.refl _ _) (by simp[aZ])⟩
theorem ZaM (a:Addr) (x y:Int) (w:World) (hc:w.cell? a=some (.int .i64 x)) (hz:w.frozen? a=false) (h1:0≤x) (h2:x≤1000000000000) (h3:0≤y) (h4:y≤1000):
  Calls Tryz.prog 34 #[.pointer (some a), .int .i64 y] w fun e w'=>e= .returned (.int .i64 (x+y))∧w'=w.setCell a (.int .i64 (x+y)):=by
 have b:=run_call_add (P:= Tryz.prog) Tryz.func57 (by kernel_rfl) (by kernel_rfl) (by kernel_rfl) .i64 (by kernel_rfl) (y:=y) hc hz (s:=x+y) (by
  have:IntKind.i64.wrap (x+y)=x+y:=IntWalk.i64_in _ (by omega)
  simp[Op.intArith,this])
 go_enter Tryz.func34,Tryz.ntmps34
 go_wp2
 go_ret
 exact⟨rfl,rfl⟩
def ZhK (l:List Zbe) (key:Bs):Option Nat:=((List.range l.length).filter fun i=>(l[i]?.map (·.key))==some key).getLast?
theorem Zh0 (p:Nat→Bool) (n:Nat):((List.range (n+1)).filter p).getLast? =if p n then some n else((List.range n).filter p).getLast? :=by
 rw[List.range_succ,List.filter_append]
 cases h:p n<;>simp[h]
theorem Zjb (p:Nat→Bool) (hk:p k=true):∀n,k<n→(∀j,k<j→j<n→p j=false)→((List.range n).filter p).getLast? =some k
 |0,h,_=>by omega
 |n+1,h,hm=>by
  rw[Zh0]
  by_cases e:k=n
  ·subst e;rw[if_pos hk]
  ·rw[if_neg (by rw[hm n (by omega) (by omega)];simp)]
   exact Zjb p hk n (by omega) (fun j h1 h2=>hm j h1 (by omega))
theorem ZhM (p:Nat→Bool):∀n,(∀j,j<n→p j=false)→((List.range n).filter p).getLast? =none
 |0,_=>rfl
 |n+1,hm=>by
  rw[Zh0,if_neg (by rw[hm n (by omega)];simp)]
  exact ZhM p n (fun j h=>hm j (by omega))
theorem Zoa {l:List Zbe} {key:Bs} {k:Nat} (hx:l[k]? =some x) (he:(x.key==key)=true) (hm:∀(j:Nat) (y:Zbe),k<j→l[j]? =some y→(y.key==key)=false):ZhK l key=some k:=by
 refine Zjb _ ?_ _ (Jk hx) (fun j b a=> ?_)
 ·rw[hx];simpa using he
 ·have:=hm j l[j] b (Xa a)
  rw[Xa a];simpa using this
theorem Zij {l:List Zbe} {key:Bs} (hm:∀(j:Nat) (y:Zbe),l[j]? =some y→(y.key==key)=false):ZhK l key=none:=by
 refine ZhM _ _ (fun j a=> ?_)
 have:=hm j l[j] (Xa a)
 rw[Xa a];simpa using this
def ZfV (p2:ZaX) (key:Bs):ZaX×Int×Bool×Int:=match ZhK p2.idle key with
 |some i=>match p2.idle[i]? with
  |some c=>({p2 with idle:=Zaa p2.idle i,busy:=p2.busy++[c]},c.num,false,0)
  |none=>(p2,0,false,0)
 |none=>
  let p3:=if p2.total≤(p2.busy.length+p2.idle.length:Nat)then{p2 with idle:=Zaa p2.idle 0}else p2
  ({p3 with last:=p3.last+1,busy:=p3.busy++[⟨p3.last+1,key,0⟩]},p3.last+1,true,0)
theorem Zl3 {key:Bs} {now:Nat} (hc:Zf2 p key=true) {hs:List Yu} {e:Int} (hu:ZjN (expireP p now).hosts key=(some hs,e)):
  ZbE p key now=ZfV {expireP p now with hosts:=hs,idle:=(expireP p now).idle.filter fun c=>(ZaS hs c.key).isSome} key:=by
 unfold ZbE ZfV ZhK
 rw[hc];simp only[Bool.not_true,Bool.false_eq_true,if_false];rw[hu];rfl
theorem Zl2 {key:Bs} {now:Nat} (hc:Zf2 p key=true) {e:Int} (hu:ZjN (expireP p now).hosts key=(none,e)):ZbE p key now=(expireP p now,0,false,e):=by
 unfold ZbE
 rw[hc];simp only[Bool.not_true,Bool.false_eq_true,if_false];rw[hu]
theorem Zpx {key:Bs} {now:Nat} (hc:Zf2 p key=false):ZbE p key now=(p,0,false,10):=by
 unfold ZbE;rw[hc];rfl
theorem Zma {l:List Yu} (h:l.length≤32∧∀x∈l,0≤x.uses∧x.uses≤6) (key:Bs):(∃hs,ZjN l key=(some hs,0)∧hs.length≤32∧∀x∈hs,0≤x.uses∧x.uses≤6)∨ZjN l key=(none,10):=by
 have add:∀(c:List Yu) (x:Yu),c.length<32→(∀y∈c,0≤y.uses∧y.uses≤6)→0≤x.uses∧x.uses≤6→(c++[x]).length≤32∧∀y∈c++[x],0≤y.uses∧y.uses≤6:=fun c x j f g=>by
  refine⟨by simp;omega,fun y a=> ?_⟩
  rcases List.mem_append.1 a with a|a
  ·exact f y a
  ·rw[Jm a];exact g
 have d:∀i,i<l.length→(Zaa l i).length<32∧∀y∈Zaa l i,0≤y.uses∧y.uses≤6:=fun i b=>by
  refine⟨by rw[Ya,List.length_eraseIdx_of_lt b];omega,fun y a=>h.2 y (Zju a)⟩
 unfold ZjN ZaS
 cases hq:l.findIdx? (fun o:Yu=>o.key==key)with
 |some i=>
  have b:=Yv hq
  dsimp only
  rw[Xa b]
  dsimp only
  have hx:=h.2 l[i] (List.getElem_mem b)
  split
  ·exact .inr rfl
  ·exact .inl ⟨_,rfl,add _ _ (d i b).1 (d i b).2 (by dsimp only;omega)⟩
 |none=>
  dsimp only
  split
  ·split
   ·rename_i i e
    exact .inl ⟨_,rfl,add _ _ (d i (Yv e)).1 (d i (Yv e)).2 (by dsimp only;omega)⟩
   ·exact .inr rfl
  ·exact .inl ⟨_,rfl,add _ _ (by omega) h.2 (by dsimp only;omega)⟩
theorem ZlQ (x:Zbe) {W:World} {xb b hb:Nat} {hs:List Yu} (hx:W.cell? ⟨xb,0,none⟩=some (.pointer (some ⟨b,0,none⟩))) (hb4:W.cell? ⟨b,4,none⟩=some (.pointer (some ⟨hb,0,none⟩))) (hh:Yj hb hs W Gh):
  Calls Tryz.prog 229 #[.agg (ZO x).toArray, .pointer (some ⟨xb,0,none⟩)] W fun e w'=>e= .returned (.bool (!(ZaS hs x.key).isSome))∧Zg [] W w':=by
 have j:=ZaI hx
 have l:=ZaI hb4
 have r:xb≠W.heap.size:=by omega
 have s:b≠W.heap.size:=by omega
 obtain⟨a,d⟩:=Je (W.alloc (.cells (ZO x).toArray 243))
 have c:=Ja d
 have hv:=Jh d
 have p:a.cell? ⟨xb,0,none⟩=some (.pointer (some ⟨b,0,none⟩)):=(Xp (c.block xb j (by simp))).trans hx
 have n:a.cell? ⟨b,4,none⟩=some (.pointer (some ⟨hb,0,none⟩)):=(Xp (c.block b l (by simp))).trans hb4
 have o:a.cell? ⟨W.heap.size,1,none⟩=some (.string ⟨x.key.toArray⟩):=Zc hv rfl
 have q:=D (fun(w':World) (hu:Zg [] a w')=>Zoo ((ZA _ _).upd ((ZA _ _).upd hh c (by simp)) hu (by simp)) x.key)
 clear hv hx hb4 hh j l;change Hid _ at d c
 have k:Value.agg (ZO x).toArray= .agg #[.int .i64 x.num, .string ⟨x.key.toArray⟩, .int .u64 x.until_]:=rfl
 have i:W.alloc (.cells #[.int .i64 x.num, .string ⟨x.key.toArray⟩, .int .u64 x.until_] 243)=a:=d.symm
 rw[k]
 clear k;change Hid _ at i
 go_enter Tryz.func229,Tryz.ntmps229
 go_upto_region 1 with fail
 rw[i.out]
 refine Jr [0,4,8,12,16,20,26,28,32] (fun g=>g.cell? ⟨xb,0,none⟩=some (.pointer (some ⟨b,0,none⟩))∧g.cell? ⟨b,4,none⟩=some (.pointer (some ⟨hb,0,none⟩))∧g.cell? ⟨W.heap.size,1,none⟩=some (.string ⟨x.key.toArray⟩)) ⟨p,n,o⟩ ?_
 repeat first|refine Jn ?_|refine Jf ?_|refine Ju ?_
 refine JL ?_
 simp only[Xu]
 go_wp2_with fail
 refine(q.out _ ((Zg.refl [] a).drewN 1)).mono ?_
 rintro e w ⟨rfl,h⟩
 have m:=D ((c.drewN 1).trans h (by simp));clear h
 go_wp2_with fail
 refine⟨fun _=>True,trivial,?_⟩
 repeat first|refine Jn ?_|refine Jf ?_|refine Ju ?_
 refine ZL ?_
 go_wp2_with fail
 go_ret
 refine⟨?_,m.out⟩
 cases ZaS hs x.key<;>rfl
theorem YB.addr {gl:List (Value×ZH)} {c g0:Nat} (hr:Zj 316 7 (.slice A gl.length c) (gl.map fun p=>Yd p.1 p.2) w G) (hl:g0<gl.length):∃g,A=some ⟨g,0,none⟩:=by
 rcases hr.form with⟨_,b,_⟩|⟨g,d,_,a,_⟩
 ·rw[List.map_eq_nil_iff]at b;rw[b]at hl;simp at hl
 ·injection a with a;exact⟨g,a⟩
def ZjP (n:Int) (fresh:Bool) (Q:Int→World→Prop) (e:Ending) (w':World):Prop:=∃c:Int,e= .returned (.tuple #[.int .i64 n, .bool fresh, .int .i64 c])∧Q c w'
theorem ZhU {last:Int} {gl:List (Value×ZH)} (h:YB b last gl w F) (hll:gl.length≤1000000) (hml:∀p∈gl,p.2.members.length≤1000000) (hs:ZcI gl≤1000000) (q:ZdA) (id:Int) (hid:1≤id)
  (hbad:gl.any (fun p=>p.2.members.contains id)=true∨64≤ZcI gl):
  Calls Tryz.prog 153 #[.pointer (some ⟨b,0,none⟩), .agg (Zaf q).toArray, .int .i64 id] w (ZjP 0 false fun _ w'=>Zg [] w w'):=by
 obtain⟨J,d⟩:=Je (w.alloc (.cells (Zaf q).toArray 256))
 have g:=Ja d
 have k:=(Z3 _ _ _).upd h g (by simp)
 have i:=Zc3 k hml id
 have a:=Zc2 (fun p:Value×ZH=>p.2.members.contains id) gl
 obtain⟨r,s⟩:=Je (YL (fun p:Value×ZH=>p.2.members.contains id) gl)
 rw[←s]at i a
 have O:¬id<1:=by omega
 have E:=D i;have I:=D k;have y:=D hbad;have z:=D a;have L:=D hs
 have H:=D (show w.alloc (.cells #[.string ⟨q.cell.origin.toArray⟩, .string ⟨q.cell.url.toArray⟩, .bool q.cell.creds, .string ⟨q.method.toArray⟩, .string ⟨q.names.toArray⟩] 256)=J from d.symm)
 clear i k hbad a s d h hml hs;change Hid _ at g
 show Calls _ _ #[.pointer (some ⟨b,0,none⟩), .agg #[.string ⟨q.cell.origin.toArray⟩, .string ⟨q.cell.url.toArray⟩, .bool q.cell.creds, .string ⟨q.method.toArray⟩, .string ⟨q.names.toArray⟩], .int .i64 id] w _
 go_enter Tryz.func153,Tryz.ntmps153
 go_upto_region 1 with fail
 rw[H.out]
 go_wp2_with fail
 refine E.out.mono ?_
 rintro e Q ⟨rfl,c⟩
 have n:=Jt g c
 have K:=D ((Z3 _ _ _).upd I c (by simp))
 clear c
 by_cases M:0≤r
 ·go_wp2_with fail
  go_ret3
  exact⟨_,rfl,n.out⟩
 ·have l:64≤ZcI gl:=by
   rcases y with h|h
   ·rw[←z.out,decide_eq_false M]at h;cases h
   ·exact h
  have j:=ZeS K hll L.out
  obtain⟨m,x⟩:=Je (ZcI gl)
  rw[←x]at j l
  have N:(64:Int)≤(m:Int):=by omega
  have C:=D j
  clear j x l
  go_wp2_with fail
  refine C.out.mono ?_
  rintro e P ⟨rfl,o⟩
  have G:=Jt n o;clear o
  go_wp2_with fail
  go_ret3
  exact⟨_,rfl,G.out⟩
theorem Zid {last:Int} {gl:List (Value×ZH)} (h:YB b last gl w F) (hll:gl.length≤1000000) (hml:∀p∈gl,p.2.members.length≤1000000) (q:ZdA) (id:Int) (hid:1≤id)
  (hno:gl.findIdx? (fun p=>p.2.members.contains id)=none) (hs:ZcI gl<64) {p:Value×ZH} (hq:gl.findIdx? (fun p=>p.2.want==q)=some i) (hp:gl[i]? =some p):
  Calls Tryz.prog 153 #[.pointer (some ⟨b,0,none⟩), .agg (Zaf q).toArray, .int .i64 id] w (ZjP p.2.num false fun c w'=>c=0∧∃(v:Value) (F1:List Nat),YB b last (gl.set i (v,{p.2 with members:=p.2.members++[id]})) w' F1∧Zi w w' F F1):=by
 obtain⟨w1,I⟩:=Je (w.alloc (.cells (Zaf q).toArray 256))
 have ai:=Ja I
 have ac:=Jh I
 have h1:=(Z3 _ _ _).upd h ai (by simp)
 have q1:=Zc3 h1 hml id
 rw[Yo hno]at q1
 have hi:=Yv hq
 have a6:¬id<1:=by omega
 have aO:p.2.members.length≤1000000:=hml p (Xc hp)
 have aR:=D q1;have H1:=D h1;have HS:=D hs;have HP:=D hp;have aZ:=D hq
 have aT:=D (show w.alloc (.cells #[.string ⟨q.cell.origin.toArray⟩, .string ⟨q.cell.url.toArray⟩, .bool q.cell.creds, .string ⟨q.method.toArray⟩, .string ⟨q.names.toArray⟩] 256)=w1 from I.symm)
 clear q1 h1 I h hml hs hno hp hq;change Hid _ at ai ac
 show Calls _ _ #[.pointer (some ⟨b,0,none⟩), .agg #[.string ⟨q.cell.origin.toArray⟩, .string ⟨q.cell.url.toArray⟩, .bool q.cell.creds, .string ⟨q.method.toArray⟩, .string ⟨q.names.toArray⟩], .int .i64 id] w _
 go_enter Tryz.func153,Tryz.ntmps153
 go_upto_region 1 with fail
 rw[aT.out]
 go_wp2_with fail
 refine aR.out.mono ?_
 rintro e w2 ⟨rfl,X⟩
 have aW:=D X
 have H2:=D ((Z3 _ _ _).upd H1 X (by simp))
 clear X
 have q2:=ZeS H2 hll (by have:=HS.out;omega)
 obtain⟨m,d⟩:=Je (ZcI gl)
 rw[←d]at q2
 have a1:¬((64:Int)≤(m:Int)):=by have:=HS.out;omega
 have aJ:=D q2
 clear q2 d
 go_wp2_with fail
 refine aJ.out.mono ?_
 rintro e w3 ⟨rfl,aa⟩
 have V:=aW.trans aa (by simp)
 have h3:=(Z3 _ _ _).upd H2 aa (by simp)
 have ah:=(V.block _ (Jg ac) (by simp)).trans ac.out
 obtain⟨G0,M,ho,d,ak,hG,hM,an⟩:=Ze8 h3 HP.out
 obtain⟨v,G,rfl,au,R,n⟩:=ho
 obtain⟨A,c,rfl,hc⟩:=n.form'
 rw[Xb]at R n
 obtain⟨g,rfl⟩:=YB.addr n hi
 have aS:G=[g]:=by obtain⟨_,_,h2,_⟩:=n.block;exact h2
 subst aS
 have aE:b≠g:=by simpa using au
 have C:=D (show(gl.map fun p=>Yd p.1 p.2)[i]? =some (Yd p.1 p.2)by rw[Xe,HP.out];rfl)
 obtain⟨o,r,O,a3,_⟩:=d.ints
 rw[O]at d
 have aA:g∉M∧b∉M:=⟨ak g (by simp),ak b (by simp)⟩
 have T:=Zd6 (fun p:Value×ZH=>Yd p.1 p.2) (fun p=>p.2.want==q) 226 #[.pointer (some ⟨w.heap.size,0,none⟩)] n (enters_of Tryz.func226 (by kernel_rfl) rfl) (fun W x _ z=>Zg9 x.2 w.heap.size q W (Zb.of_block ((z.block _ (Jg ah) (by simp)).trans ah)))
 rw[Yw aZ.out]at T
 obtain⟨a,L⟩:=Je p.2.members.length
 rw[←L]at O d aO
 have c0:=Jc 0 R
 have HB:=D R;have HR:=D n;have aV:=Jt ai V;have HN:=D an;have HM:=D d;have a7:=D hG;have a5:=D hM;have ax:=D aE;have aF:=D aA;have N:=D O;have aq:=D T
 clear h3 d ak hG hM an R n aa aE au aA O T ah V;change Hid _ at L
 go_wp2_with fail
 refine aq.out.mono ?_
 rintro e l ⟨rfl,s⟩
 have ae:=(s.block b (Jg HB) (by simp)).trans HB.out
 have af:=(Zd _ _ _ _).upd HR s (by simp)
 have aw:=(ZS _ _).upd HM s (by simp)
 have aD:=D ae;have aN:=D af;have aU:=D aw;have aK:=D s
 have aG:l.cell? ⟨g,i*7+6,none⟩=some (.slice o a r):=by rw[←N.out];exact(af.liesAt C) 6 _ rfl
 have av:=Jc 0 ae
 clear c0 s ae af aw aq
 go_upto_region 11 with fail
 refine Jr [0,4,8,12,16,20,24,28,32,36,40,44,48,52,57,61,64,68,74] (fun W=>W.cell? ⟨b,0,none⟩=some (.slice (some ⟨g,0,none⟩) gl.length c)∧W.cell? ⟨g,i*7+6,none⟩=some (.slice o a r)) ⟨av,aG⟩ ?_
 clear av aG
 repeat first|refine Jn ?_|refine Jf ?_|refine Ju ?_
 refine JE ?_
 go_wp2_with fail
 obtain⟨w5,K⟩:=Je ((l.alloc (.cells #[.int .i64 id] 3)).drew)
 rw[←K]
 have y:Zg [] l w5:=by rw[K];exact((Zg.refl [] l).alloc _).drew
 have ar:Zb w5 l.heap.size 0 (Zcy id):=by rw[K];exact Zb.of_block (w:=l.alloc _) (Za (w:=l) _)
 have aj:=(y.block b (Jg aD) (by simp)).trans aD.out
 have Y:=(Zd _ _ _ _).upd aN y (by simp)
 have az:=(ZS _ _).upd aU y (by simp)
 have aC:=D aj;have aQ:=D Y;have aI:=D az;have aY:=D ar
 refine⟨fun W=>W.cell? ⟨b,0,none⟩=some (.slice (some ⟨g,0,none⟩) gl.length c)∧W.cell? ⟨g,i*7+6,none⟩=some (.slice o a r),fun _ h=>h,⟨Zc (i:=0) aj rfl,by rw[←N.out];exact(Y.liesAt C) 6 _ rfl⟩,?_⟩
 clear K ar aj Y az;change Hid _ at y
 refine JE ?_
 refine Zn w5 rfl (.tmp 46) (.tmp 48) 45 rfl 3 Tryz.underlying45 Zfd rfl (by omega) (by omega) (.slice o a r) (p.2.members.map Zcy) M rfl aI l.heap.size 1 (Zcy id) rfl aY rfl (by intro u z;unfold Zcy at z;simp at z;subst z;rfl) (by rw[Xb,←L.out];omega) ?_
 intro v' S G' ag H ay
 obtain⟨P,Q,e7,-⟩:=ag.form'
 rw[Xd,Xb,List.length_singleton,←L.out]at e7
 subst e7
 have aB:=(H.block b (Jg aC) aF.out.2).trans aC.out
 have ap:=(Zd _ _ _ _).upd aQ H (by simpa using aF.out.1)
 have ad:=D aB;have al:=D ap;have aP:=D H;have aL:=D ay;have aM:=D ag
 clear ag H ay aB ap
 go_wp2_with fail
 refine⟨fun W=>W.cell? ⟨b,0,none⟩=some (.slice (some ⟨g,0,none⟩) gl.length c)∧W.cell? ⟨g,i*7+6,none⟩=some (.slice o a r),fun _ h=>h,⟨Zc (i:=0) ad rfl,by rw[←N.out];exact(al.liesAt C) 6 _ rfl⟩,?_⟩
 repeat first|refine Jn ?_|refine Jf ?_|refine Ju ?_
 refine JL ?_
 have ab:=Zc0 (j:=6) al C (by omega) (.slice P (a+1) Q)
 have k6:S.cell? ⟨g,i*7+6,none⟩=some (.slice o a r):=by rw[←N.out];exact(al.liesAt C) 6 _ rfl
 have f6:=ab.2
 have a0:=D ab.1;clear ab
 go_wp2_with fail
 refine Jz ?_
 obtain⟨w8,E⟩:=Je (S.setCell ⟨g,i*7+6,none⟩ (.slice P (a+1) Q))
 have am:Zg [g] S w8:=by rw[E];exact(Zg.refl _ _).setCell (.inr (by simp)) _
 have Z:=(am.block b (Jg ad) (by simpa using ax.out)).trans ad.out
 have J:=a0.out
 rw[←E]at J
 have a4:=Jc 0 Z
 have a2:w8.cell? ⟨g,i*7,none⟩=some (.int .i64 p.2.num):=(J.liesAt (show((gl.map fun p=>Yd p.1 p.2).set i ((Yd p.1 p.2).set 6 (.slice P (a+1) Q)))[i]? =some _ from List.getElem?_set_self (by rw[Xb];exact hi))) 0 _ rfl
 have aH:=D J;have aX:=D Z
 rw[←E]
 clear k6 f6 E Z J;change Hid _ at am
 go_wp2_with fail
 go_ret3
 have ao:=aK.trans y (by simp)
 obtain⟨F1,t1,t2⟩:=HN.out S w8 (.slice P (a+1) Q,{p.2 with members:=p.2.members++[id]}) G' (by show Zj _ _ _ ((p.2.members++[id]).map Zcy) _ _;rw[Xs];exact aM) ⟨(ao.weaken (by simp)).trans aP (fun k hk=> .inr hk),fun k hk=>(aL.out k hk).imp _root_.id (fun h=>Xj ao.size h)⟩ ⟨_,[g],rfl,by simpa using ax.out,aX.out,by rw[List.map_set];exact aH⟩ (am.weaken (by simp))
 exact⟨0,rfl,rfl,_,F1,t1,(Zi.of_upd (aV.weaken (by simp))).trans t2⟩
theorem Zir {last:Int} {gl:List (Value×ZH)} (h:YB b last gl w F) (hll:gl.length≤1000000) (hml:∀p∈gl,p.2.members.length≤1000000) (q:ZdA) (id:Int) (hid:1≤id)
  (hno:gl.findIdx? (fun p=>p.2.members.contains id)=none) (hs:ZcI gl<64) (hq:gl.findIdx? (fun p=>p.2.want==q)=none) (hl0:0≤last) (hl1:last≤1000000000000):
  Calls Tryz.prog 153 #[.pointer (some ⟨b,0,none⟩), .agg (Zaf q).toArray, .int .i64 id] w (ZjP (last+1) true fun c w'=>c=0∧∃(v:Value) (F1:List Nat),YB b (last+1) (gl++[(v,⟨last+1,q,[id]⟩)]) w' F1∧Zi w w' F F1):=by
 obtain⟨w1,P⟩:=Je (w.alloc (.cells (Zaf q).toArray 256))
 have aq:=Ja P
 have ah:=Jh P
 have h1:=(Z3 _ _ _).upd h aq (by simp)
 have q1:=Zc3 h1 hml id
 rw[Yo hno]at q1
 have bt:¬id<1:=by omega
 have aO:=D ((Z3 _ _ _).lt h)
 have bk:=D q1;have H1:=D h1;have HS:=D hs;have bh:=D hq;have a0:=D (And.intro hl0 hl1)
 have bc:=D (show w.alloc (.cells #[.string ⟨q.cell.origin.toArray⟩, .string ⟨q.cell.url.toArray⟩, .bool q.cell.creds, .string ⟨q.method.toArray⟩, .string ⟨q.names.toArray⟩] 256)=w1 from P.symm)
 have bn:=D (show Zu Tryz.prog 256 5=true by kernel_rfl)
 clear q1 h1 P h hml hs hno hq hl0 hl1;change Hid _ at aq ah
 show Calls _ _ #[.pointer (some ⟨b,0,none⟩), .agg #[.string ⟨q.cell.origin.toArray⟩, .string ⟨q.cell.url.toArray⟩, .bool q.cell.creds, .string ⟨q.method.toArray⟩, .string ⟨q.names.toArray⟩], .int .i64 id] w _
 go_enter Tryz.func153,Tryz.ntmps153
 go_upto_region 1 with fail
 rw[bc.out]
 go_wp2_with fail
 refine bk.out.mono ?_
 rintro e w2 ⟨rfl,ab⟩
 have be:=D ab
 have H2:=D ((Z3 _ _ _).upd H1 ab (by simp))
 clear ab
 have q2:=ZeS H2 hll (by have:=HS.out;omega)
 obtain⟨m,d⟩:=Je (ZcI gl)
 rw[←d]at q2
 have br:¬((64:Int)≤(m:Int)):=by have:=HS.out;omega
 have a9:=D q2
 clear q2 d
 go_wp2_with fail
 refine a9.out.mono ?_
 rintro e w3 ⟨rfl,ae⟩
 have aa:=be.trans ae (by simp)
 have h3:=(Z3 _ _ _).upd H2 ae (by simp)
 have R:=(aa.block _ (Jg ah) (by simp)).trans ah.out
 obtain⟨v,G,M,hb,j,hF⟩:=YB.row h3
 obtain⟨A,c,rfl,hc⟩:=j.form'
 rw[Xb]at hb j
 have Y:=Zd6 (fun p:Value×ZH=>Yd p.1 p.2) (fun p=>p.2.want==q) 226 #[.pointer (some ⟨w.heap.size,0,none⟩)] j (enters_of Tryz.func226 (by kernel_rfl) rfl) (fun W x _ hu=>Zg9 x.2 w.heap.size q W (Zb.of_block ((hu.block _ (Jg R) (by simp)).trans R)))
 rw[Yo bh.out]at Y
 have V:=Jc 0 hb
 have aW:=D Y;have H3:=D h3;have aK:=D R;have bo:=Jt aq aa
 clear Y h3 R ae aa hb j M hF
 go_wp2_with fail
 refine aW.out.mono ?_
 rintro e w4 ⟨rfl,N⟩
 have h4:=(Z3 _ _ _).upd H3 N (by simp)
 have aM:=(N.block _ (Jg aK) (by simp)).trans aK.out
 obtain⟨G0,ho,hG,aA⟩:=Zf9 h4
 obtain⟨v,G,rfl,M,hb,j⟩:=ho
 have aJ:=ZaM ⟨b,1,none⟩ last 1 w4 (Zc (i:=1) hb rfl) (Zk hb) a0.out.1 a0.out.2 (by omega) (by omega)
 have Z:∀k∈b::G,k<w.heap.size:=fun k a=>aO.out k (hG k a)
 have aQ:w.heap.size≠b:=by have:=Z b (by simp);omega
 have aI:=D M
 have af:=D aM;have aC:=D aJ;have bg:=D hb;have bj:=D j;have bi:=Jt bo N;have bf:=D aA;have bs:=D Z;have bp:=D aQ
 clear h4 aM hG aA M hb j aJ Z aQ N aW V
 go_wp2_with fail
 refine aC.out.mono ?_
 rintro e5 g ⟨rfl,aw⟩
 have T:Zg [b] w4 g:=by rw[aw];exact(Zg.refl _ _).setCell (.inr (by simp)) _
 have aR:g.heap[b]? =some (.cells #[v, .int .i64 (last+1)] 140 (0,0)):=by rw[aw];exact(Ze (i:=1) bg _).trans rfl
 have aL:=(Zd _ _ _ _).upd bj T (fun k a d=>by rw[Jm d]at a;exact aI.out a)
 have am:=(T.block _ (Jg af) (by simpa using bp.out)).trans af.out
 obtain⟨F5,h5,aj⟩:=bf.out g (Y2 b (fun v=> #[v, .int .i64 (last+1)]) 140 316 7 (gl.map fun p=>Yd p.1 p.2)) (b::G) ⟨v,G,rfl,aI.out,aR,aL⟩ (Zi.of_upd (T.weaken (by simp)))
 have ac:YB b (last+1) gl g F5:=h5
 obtain⟨G0,ho,ar,az⟩:=Zle ac
 obtain⟨v6,X,rfl,aG,O,J⟩:=ho
 obtain⟨y,z,rfl,bb⟩:=J.form'
 rw[Xb]at O J bb
 have a5:=(Z3 _ _ _).lt ac
 have V:=Jc 0 O
 have ax:=D (show Zb g w.heap.size 0 (Zaf q)from Zb.of_block am)
 have S:=D O;have aN:=D J;have aY:=D aG;have aE:=D az;have bl:=D aj;have bq:=D ar
 have bu:=D (Jg am)
 have aT:w.heap.size∉b::X:=fun d=>by
  rcases aj.new _ (ar _ d)with h|h
  ·have:=aO.out _ h;omega
  ·have:=(Jg af);omega
 have a7:=D aT
 obtain⟨C,ap⟩:=Je (last+1)
 rw[←ap]at S aE⊢
 clear aw aR aL am h5 aj ac ar az aG O J a5 aC aT;change Hid _ at T ap
 go_upto_region 14 with fail
 refine Jr [0,4,8,12,16,20,24,28,33,36,41,45,48,52,58] (fun W=>W.cell? ⟨b,0,none⟩=some (.slice y gl.length z)∧Zb W w.heap.size 0 (Zaf q)) ⟨V,ax.out⟩ ?_
 clear V
 repeat first|refine Jn ?_|refine Jf ?_|refine Ju ?_
 apply Zq (t:= 256) (b:=w.heap.size) (of:=0) (cs:=[.string ⟨q.cell.origin.toArray⟩, .string ⟨q.cell.url.toArray⟩, .bool q.cell.creds, .string ⟨q.method.toArray⟩, .string ⟨q.names.toArray⟩])
 case ho=>simp only[Xh,Xf,Xg];rfl
 case hg=>rfl
 case hop=>rfl
 case hx=>rfl
 case ht=>exact bn.out
 case hb=>exact fun W hW=>hW.2
 case ha=>go_simp;rfl
 repeat first|refine Jn ?_|refine Jf ?_|refine Ju ?_
 refine JE ?_
 go_wp2_with fail
 obtain⟨n,Q⟩:=Je ((g.alloc (.cells #[.int .i64 id] 3)).drew)
 rw[←Q]
 have L:Zg [] g n:=by rw[Q];exact((Zg.refl [] g).alloc _).drew
 have aV:Z9 (.slice (some ⟨g.heap.size,0,none⟩) 1 1) [id] n [g.heap.size]:=Zi5 (xs:=[id].map Zcy) (w:=n) (cur:= #[.int .i64 id]) (by rw[Q];exact Za (w:=g) _) rfl (by simp[maxLen]) (by simp[Zcy])
 have av:=(L.block b (Jg S) (by simp)).trans S.out
 have aX:=D av;have ag:=D aV;have an:=D L
 refine⟨fun W=>W.cell? ⟨b,0,none⟩=some (.slice y gl.length z)∧Zb W w.heap.size 0 (Zaf q),fun _ h=>h,⟨Zc (i:=0) av rfl,ax.upd L (by simp)⟩,?_⟩
 obtain⟨l,ai⟩:=Je g.heap.size
 rw[←ai]at ag⊢
 clear Q L aV av;change Hid _ at ai
 repeat first|refine Jn ?_|refine Jf ?_|refine Ju ?_
 refine JE ?_
 go_wp2_with fail
 obtain⟨w8,K⟩:=Je (n.alloc (.cells #[.int .i64 C, .string ⟨q.cell.origin.toArray⟩, .string ⟨q.cell.url.toArray⟩, .bool q.cell.creds, .string ⟨q.method.toArray⟩, .string ⟨q.names.toArray⟩, .slice (some ⟨l,0,none⟩) 1 1] 316))
 rw[←K]
 have r:=Ja K
 have ak:=(r.block b (Jg aX) (by simp)).trans aX.out
 have ba:=D (show Zb w8 n.heap.size 0 (Yd (.slice (some ⟨l,0,none⟩) 1 1) ⟨C,q,[id]⟩)by rw[K];exact Zb.of_block (Za _))
 have aP:=(Zd _ _ _ _).upd aN (an.trans r (by simp)) (by simp)
 have a1:=D ak;have bm:=D aP;have ay:=D r
 have aZ:=D (ax.upd (an.trans r (by simp)) (by simp))
 refine⟨fun W=>W.cell? ⟨b,0,none⟩=some (.slice y gl.length z)∧Zb W w.heap.size 0 (Zaf q),fun _ h=>h,⟨Zc (i:=0) ak rfl,aZ.out⟩,?_⟩
 clear K r ak aP
 refine JE ?_
 refine Zn w8 rfl (.tmp 68) (.tmp 74) 138 rfl 316 Tryz.underlying138 ZlN rfl (by omega) (by omega) (.slice y gl.length z) (gl.map fun(p:Value×ZH)=>Yd p.1 p.2) X rfl bm n.heap.size 1 (Yd (.slice (some ⟨l,0,none⟩) 1 1) ⟨C,q,[id]⟩) rfl ba rfl (Zea rfl _) (by rw[Xb];omega) ?_
 intro v' w9 E au ao aU
 obtain⟨A',c',e9,-⟩:=au.form'
 rw[Xd,Xb,List.length_singleton]at e9
 subst e9
 have o:=(ao.block b (Jg a1) aY).trans a1.out
 have a8:=D o;have bd:=D au;have al:=D ao;have aS:=D aU
 clear au ao aU
 go_wp2_with fail
 refine⟨fun W=>W.cell? ⟨b,0,none⟩=some (.slice y gl.length z)∧Zb W w.heap.size 0 (Zaf q),fun _ h=>h,⟨Zc (i:=0) o rfl,aZ.upd al (fun d=>a7.out (by simp[d]))⟩,?_⟩
 repeat first|refine Jn ?_|refine Jf ?_|refine Ju ?_
 refine JL ?_
 have f9:w9.frozen? ⟨b,0,none⟩=false:=Zk o
 have c9:=Jc 0 o
 clear o
 go_wp2_with fail
 refine Jz ?_
 obtain⟨ad,H⟩:=Je (w9.setCell ⟨b,0,none⟩ (.slice A' (gl.length+1) c'))
 have aB:ad.heap[b]? =some (.cells #[.slice A' (gl.length+1) c', .int .i64 C] 140 (0,0)):=by rw[H];exact Ze (i:=0) a8 _
 have I:Zg [b] w9 ad:=by rw[H];exact(Zg.refl _ _).setCell (.inr (by simp)) _
 rw[←H]
 clear H c9 f9;change Hid _ at aB I
 go_wp2_with fail
 go_ret3
 have bv:=(Jg S)
 have aF:=an.trans ay (by simp)
 have hn:∀x∈E,x∈X∨g.heap.size≤x:=fun x hx=>(aS.out x hx).imp _root_.id (fun h=>Xj aF.size h)
 have aD:b∉E:=fun d=>by
  rcases hn b d with h|h
  ·exact aY h
  ·omega
 have a2:=(ZS _ _).lt ag.out
 have s:∀k∈[l],g.heap.size≤k:=fun k a=>by rw[Jm a,ai.out];exact Xi _
 have aH:∀k∈X,k<g.heap.size:=(Zd _ _ _ _).lt aN.out
 have a3:Z8 (b::E) [l]:=fun k a d=>by
  rcases List.mem_cons.1 a with rfl|a
  ·have:=s k d;omega
  ·rcases aS k a with h|h
   ·have:=s k d;have:=aH k h;omega
   ·have:=a2 k d;have:=ay.size;omega
 have a6:=(Zd _ _ _ _).upd bd I (fun k a d=>by rw[Jm d]at a;exact aD a)
 have a4:=(ZS _ _).upd ((ZS _ _).upd ((ZS _ _).upd ag ay (by simp)) al (fun k a d=>by have:=s k a;have:=aH k d;omega)) I (fun k a d=>by rw[Jm d]at a;have:=s b a;omega)
 obtain⟨F2,t1,t2⟩:=aE.out ad (.slice (some ⟨l,0,none⟩) 1 1,⟨C,q,[id]⟩) [l] (b::E) a4 s a3 ⟨_,E,rfl,aD,aB.out,by rw[Xs];exact a6⟩
  ⟨((aF.weaken (by simp)).trans al (fun k a=> .inr (by simp[a]))).trans I (fun k a=> .inr (by simp at a;simp[a])),fun x hx=>by
   rcases List.mem_cons.1 hx with rfl|hx
   ·exact .inl (by simp)
   ·exact(hn x hx).imp (fun h=>by simp[h]) _root_.id⟩
 obtain rfl:=ap.out
 exact⟨0,rfl,rfl,_,F2,t1,((Zi.of_upd (bi.weaken (by simp))).trans bl).trans t2⟩
theorem ZkC:(Tryz.prog.info? 205).map (fun i=>(i.zero,i.size,i.bytes))=some (some (.agg #[.slice none 0 0, .bool false]),2,32):=by kernel_rfl
theorem Zoc:Zu Tryz.prog 205 2=true:=by kernel_rfl
theorem Zm2 {α:Type} (enc:α→List Value) (p:α→Bool) (g:FuncId) (lb:Array Value) {l:List α}
  (h:Zj 205 2 v (l.map enc) w F) (eg:∀args w,(callFunc g args).run Tryz.prog w= .ok (.enter g args) w)
  (hp:∀(W:World) (x:α),x∈l→Zg [] w W→Calls Tryz.prog g (#[.agg (enc x).toArray]++lb) W fun e w'=>e= .returned (.bool (p x))∧Zg [] W w'):
  Calls Tryz.prog 194 #[v, .func (.func g) #[] lb] w fun e w'=>e= .returned (.int .i64 (YL p l))∧Zg [] w w':=by
 obtain⟨A,c,rfl,O,o⟩:=h.lies
 have G:=h.2.1
 have i:=h.le
 rw[Xb]at O i⊢
 have K:=D G;have N:=D hp;have M:=D o
 have P:l.length≤9223372036854775807:=by unfold maxLen at i;omega
 clear h G hp o i
 go_enter Tryz.func194,Tryz.ntmps194
 go_wp2
 go_loopw[5,8] (fun _ s8 wr=>∃kk:Nat,kk≤l.length∧s8= .int .i64 kk∧Hid (Zg [] w wr)∧Hid (∀(j:Nat) (x:α),j<kk→l[j]? =some x→p x=false)) (fun _ s8 _=>l.length-(intOf s8).toNat)
 case atStart=>exact⟨0,Xn _,rfl,D (Zg.refl [] w),D (fun j x C=>absurd C (Nat.not_lt_zero _))⟩
 case round=>
  obtain⟨kk,Q,rfl,d,m⟩:=hrel
  by_cases z:kk<l.length
  ·obtain⟨x,hx⟩:∃x,l[kk]? =some x:=⟨_,Xa z⟩
   have k:=Xc hx
   obtain⟨S,rfl,r⟩:=M.out kk (enc x) (by rw[Xe,hx];rfl)
   have J:=D (r.upd d (by simp))
   have I:=D (show(enc x).length=2 from K.out (enc x) (List.mem_map.2 ⟨x,k,rfl⟩))
   have H:=D (show Zu Tryz.prog 205 (enc x).length=true by rw[I.out];exact Zoc)
   have E:=D hx
   have L:=D (N.out wr x k d)
   obtain⟨b,a⟩:=Je (p x)
   clear hx r k;change Hid _ at a
   go_wp2_with(refine Js J H ?_)
   refine L.out.mono ?_
   rintro e R ⟨rfl,q⟩
   rw[←a.out]
   have s:=Jt d q
   clear q
   cases b with
   |true=>
    go_wp2
    go_ret
    refine⟨?_,s.out⟩
    rw[Zao z (by rw[E.out]) a.symm m.out];rfl
   |false=>
    go_wp2
    go_roundw
    case rel=>
     refine⟨kk+1,by omega,by go_num,s,D (fun j y C n=> ?_)⟩
     by_cases e:j=kk
     ·subst e;rw[E.out]at n;cases n;exact a.symm
     ·exact m j y (by omega) n
    case measure=>simp[intOf];omega
  ·obtain rfl:kk=l.length:=by omega
   go_wp2
   go_ret
   refine⟨?_,d.out⟩
   rw[YY m.out];rfl
end Go.Proofs.YtbgbeddbfaopgaaGreatDoor
