import Derived.Test.YtlhapbopmplngaaGreatDoorS32
set_option linter.all false
set_option maxHeartbeats 16000000
set_option maxRecDepth 100000
set_option autoImplicit true
set_option relaxedAutoImplicit true
namespace Go.Proofs.YtlhapbopmplngaaGreatDoor
open Go.RowKit Go.Lk
def ZkO (l:List Int):∀c∈l.map Zcl,∀u∈c,u.oneCell'=true:=by
 intro c b u a
 obtain⟨x,_,rfl⟩:=List.mem_map.1 b
 unfold Zcl at a;simp at a;subst a;rfl
def Zgm (w:World) (l:List Int) (e:Ending) (w':World):Prop:=∃(v:Value) (M:List Nat),e= .returned v∧Z6 v l w' M∧(∀k∈M,w.heap.size≤k)∧Zg [] w w'
def Zc3 {last:Int} {gl:List (Value×ZE)} (h:YA b last gl w F) (hl:gl.length≤1000000) (pre:Int) {p:Value×ZE} (hq:gl.findIdx? (fun p=>p.2.num==pre)=some i) (hp:gl[i]? =some p) (hpl:p.2.members.length≤1000000):
  Calls Tryz.prog 154 #[.pointer (some ⟨b,0,none⟩), .int .i64 pre] w (Zgm w p.2.members):=by
 have q:=Zln h pre
 rw[YC hq]at q
 have C:=Yv hq
 have X:=D q
 have H:=D h
 have J:=D hp
 clear q hq h hp
 go_in
 go_wp2_with fail
 refine X.out.mono ?_
 rintro e K ⟨rfl,j⟩
 have m:=(Z0 _ _ _).upd H j
 obtain⟨M,o,_⟩:=Zci m J.out
 obtain⟨v,G,T,n,a,_⟩:=YA.row m
 obtain⟨L,I,d,_⟩:=o.ints
 obtain⟨A,c,rfl,hc⟩:=a.form'
 rw[Xb]at n a
 obtain⟨g,rfl⟩:∃g,A=some ⟨g,0,none⟩:=by
  rcases a.form with⟨_,O,_⟩|⟨g,Y,_,l,_⟩
  ·rw[List.map_eq_nil_iff]at O;rw[O]at C;simp at C
  ·injection l with l;exact⟨g,l⟩
 have E:=D o
 obtain⟨N,y⟩:=Je p.2.members.length
 rw[←y]at d
 rw[d]at E
 have c0:=Jc 0 n
 have c6:K.cell? ⟨g,i*7+6,none⟩=some (.slice L N I):=by
  rw[←d];exact(a.liesAt (show(gl.map fun p=>Yd p.1 p.2)[i]? =some (Yd p.1 p.2)by rw[Xe,J.out];rfl)) 6 _ rfl
 have s:=D j
 have P:=D hpl
 clear m o n a j d y T hpl
 go_wp2_with(refine Zg9 K rfl (.const (.slice none 0 0)) (.tmp 18) 37 rfl 3 Tryz.underlying37 Zdw rfl (by omega) rfl (.slice L N I) (p.2.members.map Zcl) M rfl E (ZkO _) (by rw[Xb];have:=P.out;omega) ?_;intro Z w3 W r z x;have S:=D r;have R:=D z;have Q:=D x;clear r z x)
 go_ret
 exact⟨_,W,rfl,S.out,fun k V=>by have:=Q.out k V;have:=s.size;omega,s.trans R⟩
def ZkD (x id:Int) (box:Nat) (W:World) (hc:W.cell? ⟨box,0,none⟩=some (.int .i64 id)):
  Calls Tryz.prog 281 #[.int .i64 x, .pointer (some ⟨box,0,none⟩)] W fun e w'=>e= .returned (.bool (x==id))∧Zg [] W w':=by
 go_in
 go_wp2
 go_ret
 exact⟨rfl,Zg.refl _ _⟩
def Zor (p:Int→Bool) (g:FuncId) (lb:Array Value) (h:Z6 v l w F) (eg:∀args w,(callFunc g args).run Tryz.prog w= .ok (.enter g args) w)
  (hp:∀(W:World) (x:Int),Zg F w W→Calls Tryz.prog g (#[Value.int .i64 x]++lb) W fun e w'=>e= .returned (.bool (p x))∧Zg [] W w'):
  Calls Tryz.prog 280 #[v, .func (.func g) #[] lb] w fun e w'=>∃v',e= .returned v'∧Z6 v' (l.filter fun x=> !p x) w' F∧Zg F w w':=by
 have hd:=Zqd p g lb (fun _=>ZnP) (fun _=>ZeL) (G:=[]) h rfl (by intro k _ m;cases m) eg (fun W n d r x o c b=>(hp W x (by simpa using b)).mono (by
  rintro e w' ⟨rfl,a⟩
  cases c
  exact⟨rfl,[],rfl,a,fun k i=> .inl i⟩))
 refine hd.mono ?_
 rintro e w' ⟨v',rfl,j,s,q,_,a,_⟩
 exact⟨v',rfl,j,by simpa using a⟩
def ZgV {last:Int} {gl:List (Value×ZE)} (h:YA b last gl w F) (hl:gl.length≤1000000) (hml:∀p∈gl,p.2.members.length≤1000000) (id:Int) {p:Value×ZE} (hq:gl.findIdx? (fun p=>p.2.members.contains id)=some i) (hp:gl[i]? =some p):
  Calls Tryz.prog 209 #[.pointer (some ⟨b,0,none⟩), .int .i64 id] w fun e w'=>∃(gl':List (Value×ZE)) (F1:List Nat),e= .returned (.tuple #[.int .i64 p.2.num, .bool (p.2.members.filter fun x=> !(x==id)).isEmpty, .bool true])∧YA b last gl' w' F1∧Zi w w' F F1∧
   gl'.map (·.2)=if 0<(p.2.members.filter fun x=> !(x==id)).length then(gl.map (·.2)).set i {p.2 with members:=p.2.members.filter fun x=> !(x==id)}else(gl.map (·.2)).eraseIdx i:=by
 obtain⟨R,aa⟩:=Je (if 0<(p.2.members.filter fun x=> !(x==id)).length then(gl.map (·.2)).set i {p.2 with members:=p.2.members.filter fun x=> !(x==id)}else(gl.map (·.2)).eraseIdx i)
 rw[←aa]
 change Hid _ at aa
 obtain⟨w1,aJ,X,am⟩:=Kc w (.cells #[.int .i64 id] 3)
 have r:=(Z0 _ _ _).upd h X
 have q:=Zc0 r hml id
 rw[YC hq]at q
 have Q:=Yv hq
 have kb:=Jc 0 am
 have a7:=D ((Z0 _ _ _).lt h)
 have HQ:=D q;have H1:=D r;have HP:=D hp;have bb:=D hml
 clear q hq h r hp hml;change Hid _ at aJ X am
 go_in
 go_upto_region 1 with fail
 rw[←aJ.out]
 go_wp2_with fail
 refine HQ.out.mono ?_
 rintro e w2 ⟨rfl,Z⟩
 have H:=(Z0 _ _ _).upd H1 Z
 have aE:=Kv Z am
 obtain⟨G0,M,ho,hm,aN,hG,hM,aq⟩:=Ze6 H HP.out
 obtain⟨v,G,rfl,aL,hb,E⟩:=ho
 obtain⟨A,c,rfl,hc⟩:=E.form'
 rw[Xb]at hb E
 obtain⟨g,rfl⟩:∃g,A=some ⟨g,0,none⟩:=by
  rcases E.form with⟨_,y,_⟩|⟨g,a3,_,r,_⟩
  ·rw[List.map_eq_nil_iff]at y;rw[y]at Q;simp at Q
  ·injection r with r;exact⟨g,r⟩
 have al:G=[g]:=by obtain⟨_,_,H,_⟩:=E.block;exact H
 subst al
 have aH:b≠g:=by simpa using aL
 have HC:=D (show(gl.map fun p=>Yd p.1 p.2)[i]? =some (Yd p.1 p.2)by rw[Xe,HP.out];rfl)
 obtain⟨A2,c2,ai,be,_⟩:=hm.ints
 obtain⟨n2,ao⟩:=Je p.2.members.length
 obtain⟨m,I⟩:=Je (p.2.members.filter fun x=> !(x==id))
 have T:=Zor (fun x=>x==id) 281 #[.pointer (some ⟨w.heap.size,0,none⟩)] hm (enters_of Tryz.func281 (by kernel_rfl) rfl) (fun W x O=>ZkD x id w.heap.size W (Zf (i:=0) ((Kv O aE (fun aR=>by have:=a7.out _ (hM _ aR);omega))) rfl))
 rw[←I]at T
 rw[ai,←ao]at T
 have hL:=E.liesAt HC.out
 have c0:=Jc 0 hb
 have cn:w2.cell? ⟨g,i*7,none⟩=some (.int .i64 p.2.num):=hL 0 _ rfl
 have c6:w2.cell? ⟨g,i*7+6,none⟩=some (.slice A2 n2 c2):=by rw[ao,←ai];exact hL 6 _ rfl
 have HD:=D T;have HB:=D hb;have HR:=D E;have aK:=D Z;have HN:=D aq;have HM:=D hm;have aF:=D aN;have bd:=D hG;have bc:=D hM;have aP:=D aH;have H2:=D H
 clear H hm aN hG hM aq hb E T Z ai ao aH aL hL kb;change Hid _ at I aE
 go_upto_region 6 with fail
 go_wp2_with fail
 refine HD.out.mono ?_
 rintro e3 S ⟨v3,rfl,ak,N⟩
 obtain⟨n,o,rfl,_,_⟩:=ak.ints
 have ah:g∉M:=aF.out g (by simp)
 have aA:b∉M:=aF.out b (by simp)
 have ay:=(Zc _ _ _ _).upd HR N (fun k s=>by rw[Jm s];exact ah)
 have aD:=Kv N HB aA
 obtain⟨d,af⟩:=Je m.length
 have an:=ZcY (j:=6) ay HC (by omega) (.slice n d o)
 have d6:S.cell? ⟨g,i*7+6,none⟩=some (.slice A2 n2 c2):=(Xp (N.block g ((Zc _ _ _ _).lt HR g (by simp)) ah)).trans c6
 have f6:=an.2
 obtain⟨z,K⟩:=Je (S.setCell ⟨g,i*7+6,none⟩ (.slice n d o))
 have ap:=an.1
 rw[←K]at ap
 have aB:=D ap;have aY:=D ak;have a4:=D N;have L:=D af
 clear ay an ap ak N ah aA c6 cn c0;change Hid _ at K aD
 rw[←af]
 clear af
 go_upto_region 7 with fail
 rw[←K.out]
 have aw:Zg [b,g] S z:=by rw[K.out];exact(Zg.refl _ _).setCell (.inr (by simp)) _
 have ar:Zg [g] S z:=by rw[K.out];exact(Zg.refl _ _).setCell (.inr (by simp)) _
 have ag:=(Kv ar aD (by simpa using aP.out))
 have ad:Hid (∃F1,YA b last (gl.set i (.slice n d o,{p.2 with members:=m})) z F1∧Zi w2 z F F1):=D (HN.out S z (.slice n d o,{p.2 with members:=m}) M (by rw[L.out];exact aY) (Zi.of_upd a4) ⟨_,[g],rfl,by simpa using aP.out,ag,by rw[List.map_set];exact aB⟩ aw)
 have k6:z.cell? ⟨g,i*7+6,none⟩=some (.slice n d o):=(aB.liesAt (show((gl.map fun p=>Yd p.1 p.2).set i ((Yd p.1 p.2).set 6 (.slice n d o)))[i]? =some _ from List.getElem?_set_self (by rw[Xb];exact Q))) 6 _ rfl
 have aV:=D ag
 clear aw ar ag d6 f6
 by_cases y:0<d
 ·have HZ:=D (show m.isEmpty=false by have:=L.out;cases m with
   |nil=>simp at this;omega
   |cons a l=>rfl)
  go_wp2_with fail
  go_ret3
  obtain⟨F1,t1,t2⟩:=ad.out
  refine⟨?_,_,F1,t1,(Zi.of_upd ((X.trans aK).weaken (by simp))).trans t2,?_⟩
  ·rw[←I.out,HZ.out]<;>rfl
  ·rw[aa.out,←I.out,if_pos (by rw[←L.out];exact y),List.map_set]
 ·have HZ:=D (show m.isEmpty=true by have:=L.out;cases m with
   |nil=>rfl
   |cons a l=>simp at this;omega)
  obtain⟨F1,h4,aO⟩:=ad.out
  have az:(gl.set i (Value.slice n d o,{p.2 with members:=m}))[i]? =some (Value.slice n d o,{p.2 with members:=m}):=List.getElem?_set_self Q
  obtain⟨G5,M5,a2,aZ,aS,aC,a9,ab⟩:=Zk1 h4 az
  obtain⟨v5,G5,rfl,au,Y,C⟩:=a2
  have J:=D (show(gl.set i (Value.slice n d o,{p.2 with members:=m})).length=gl.length from List.length_set)
  have aM:=D (show(gl.set i (Value.slice n d o,{p.2 with members:=m})).eraseIdx i=gl.eraseIdx i by rw[List.eraseIdx_set_eq])
  have av:=D (ZlW h4)
  obtain⟨gs,aI⟩:=Je (gl.set i (Value.slice n d o,{p.2 with members:=m}))
  rw[←aI]at C ab J aM av
  obtain⟨A5,c5,rfl,bf⟩:=C.form'
  rw[Xb,J.out]at Y C
  obtain⟨P,rfl⟩:∃g,A5=some ⟨g,0,none⟩:=by
   rcases C.form with⟨_,y,_⟩|⟨g,a3,_,r,_⟩
   ·rw[List.map_eq_nil_iff]at y;have:=J.out;rw[y]at this;simp at this;omega
   ·injection r with r;exact⟨g,r⟩
  have al:G5=[P]:=by obtain⟨_,_,H,_⟩:=C.block;exact H
  subst al
  have ax:b≠P:=by simpa using au
  have c0:=Jc 0 Y
  have hd:=Zh9.del (by rw[Xb,J.out];exact C) (fun u O=>by
   obtain⟨cs,a6,O⟩:=List.mem_flatten.1 O
   obtain⟨p,hp,rfl⟩:=List.mem_map.1 a6
   exact ZdW (av.out p hp) _ u O) (i:=i) (by rw[Xb,J.out];exact Q)
  rw[Xb,J.out]at hd
  have a5:=D hd;have aT:=D Y;have aU:=D ab;have aQ:=D aC;have ac:=D ax;have a0:=D aO
  clear h4 az aZ aS aC a9 ab Y C hd au ax aO aI ad aV
  go_wp2_with fail
  refine a5.out.mono ?_
  rintro e5 w5 ⟨rfl,ae,aj⟩
  rw[Y9]at ae
  have V:=(Kv aj aT (by simpa using ac.out))
  have ba:=Jc 0 V
  have f5:=Kf 0 V
  have a1:=D V;have aX:=D ae;have aW:=D aj
  clear V ae aj c0
  go_wp2_with fail
  go_ret3
  have aG:Zg [b,P] z (w5.setCell ⟨b,0,none⟩ (.slice (some ⟨P,0,none⟩) (gl.length-1) c5)):=(aW.weaken (fun k s=> .inr (by simp at s;simp[s]))).setCell (.inr (by simp)) _
  obtain⟨F2,t1,t2,t3⟩:=aU.out _ ⟨_,[P],rfl,by simpa using ac.out,Zd (i:=0) a1 _,(Zc _ _ _ _).upd aX ((Zg.refl [b] w5).setCell (.inr (by simp)) _) (fun k s=>by simp at s⊢;have:=ac.out;omega)⟩ aG
  have a8:Zi z _ F1 F1:=Zi.of_upd (aG.weaken (fun k s=> .inr (aQ.out k s)))
  refine⟨gs.eraseIdx i,F2,?_,t1,(((Zi.of_upd ((X.trans aK).weaken (by simp))).trans a0).trans a8).drop t2,?_⟩
  ·rw[←I.out,HZ.out]<;>rfl
  ·rw[aa.out,←I.out,if_neg (by rw[←L.out];exact y),aM.out,Y9]
def YA.addr {gl:List (Value×ZE)} {c g0:Nat} (hr:Zk 320 7 (.slice A gl.length c) (gl.map fun p=>Yd p.1 p.2) w G) (hl:g0<gl.length):∃g,A=some ⟨g,0,none⟩:=by
 rcases hr.form with⟨_,b,_⟩|⟨g,d,_,a,_⟩
 ·rw[List.map_eq_nil_iff]at b;rw[b]at hl;simp at hl
 ·injection a with a;exact⟨g,a⟩
def Zkd (n:Int) (fresh:Bool) (Q:Int→World→Prop) (e:Ending) (w':World):Prop:=∃c:Int,e= .returned (.tuple #[.int .i64 n, .bool fresh, .int .i64 c])∧Q c w'
def Ziv {last:Int} {gl:List (Value×ZE)} (h:YA b last gl w F) (hll:gl.length≤1000000) (hml:∀p∈gl,p.2.members.length≤1000000) (hs:ZcE gl≤1000000) (q:Zdz) (id:Int) (hid:1≤id)
  (hbad:gl.any (fun p=>p.2.members.contains id)=true∨64≤ZcE gl):
  Calls Tryz.prog 148 #[.pointer (some ⟨b,0,none⟩), .agg (Zae q).toArray, .int .i64 id] w (Zkd 0 false fun _ w'=>Zg [] w w'):=by
 obtain⟨K,o,d⟩:=Kb w (.cells (Zae q).toArray 252)
 have j:=(Z0 _ _ _).upd h d
 have g:=Zc0 j hml id
 have a:=Zc4 (fun p:Value×ZE=>p.2.members.contains id) gl
 obtain⟨r,s⟩:=Je (Y5 (fun p:Value×ZE=>p.2.members.contains id) gl)
 rw[←s]at g a
 have O:¬id<1:=by omega
 have C:=D g;have L:=D j;have z:=D hbad;have y:=D a;have J:=D hs
 have G:=D (show w.alloc (.cells #[.string ⟨q.cell.origin.toArray⟩, .string ⟨q.cell.url.toArray⟩, .bool q.cell.creds, .string ⟨q.method.toArray⟩, .string ⟨q.names.toArray⟩] 252)=K from o.symm)
 clear g j hbad a s o h hml hs;change Hid _ at d
 show Calls _ _ #[.pointer (some ⟨b,0,none⟩), .agg #[.string ⟨q.cell.origin.toArray⟩, .string ⟨q.cell.url.toArray⟩, .bool q.cell.creds, .string ⟨q.method.toArray⟩, .string ⟨q.names.toArray⟩], .int .i64 id] w _
 go_in
 go_upto_region 1 with fail
 rw[G.out]
 go_wp2_with fail
 refine C.out.mono ?_
 rintro e Q ⟨rfl,c⟩
 have k:=Jt d c
 have M:=D ((Z0 _ _ _).upd L c)
 clear c
 by_cases I:0≤r
 ·go_wp2_with fail
  go_ret3
  exact⟨_,rfl,k.out⟩
 ·have n:64≤ZcE gl:=by
   rcases z with h|h
   ·rw[←y.out,decide_eq_false I]at h;cases h
   ·exact h
  have i:=Zet M hll J.out
  obtain⟨m,x⟩:=Je (ZcE gl)
  rw[←x]at i n
  have N:(64:Int)≤(m:Int):=by omega
  have E:=D i
  clear i x n
  go_wp2_with fail
  refine E.out.mono ?_
  rintro e P ⟨rfl,l⟩
  have H:=Jt k l;clear l
  go_wp2_with fail
  go_ret3
  exact⟨_,rfl,H.out⟩
def Ziq {last:Int} {gl:List (Value×ZE)} (h:YA b last gl w F) (hll:gl.length≤1000000) (hml:∀p∈gl,p.2.members.length≤1000000) (q:Zdz) (id:Int) (hid:1≤id)
  (hno:gl.findIdx? (fun p=>p.2.members.contains id)=none) (hs:ZcE gl<64) {p:Value×ZE} (hq:gl.findIdx? (fun p=>p.2.want==q)=some i) (hp:gl[i]? =some p):
  Calls Tryz.prog 148 #[.pointer (some ⟨b,0,none⟩), .agg (Zae q).toArray, .int .i64 id] w (Zkd p.2.num false fun c w'=>c=0∧∃(v:Value) (F1:List Nat),YA b last (gl.set i (v,{p.2 with members:=p.2.members++[id]})) w' F1∧Zi w w' F F1):=by
 obtain⟨w1,aC,ae,am⟩:=Kc w (.cells (Zae q).toArray 252)
 have h1:=(Z0 _ _ _).upd h ae
 have q1:=Zc0 h1 hml id
 rw[Yi hno]at q1
 have hi:=Yv hq
 have a4:¬id<1:=by omega
 have aS:p.2.members.length≤1000000:=hml p (Xc hp)
 have aN:=D q1;have H1:=D h1;have HS:=D hs;have HP:=D hp;have aV:=D hq
 have aX:=D (show w.alloc (.cells #[.string ⟨q.cell.origin.toArray⟩, .string ⟨q.cell.url.toArray⟩, .bool q.cell.creds, .string ⟨q.method.toArray⟩, .string ⟨q.names.toArray⟩] 252)=w1 from aC.symm)
 clear q1 h1 aC h hml hs hno hp hq;change Hid _ at ae am
 show Calls _ _ #[.pointer (some ⟨b,0,none⟩), .agg #[.string ⟨q.cell.origin.toArray⟩, .string ⟨q.cell.url.toArray⟩, .bool q.cell.creds, .string ⟨q.method.toArray⟩, .string ⟨q.names.toArray⟩], .int .i64 id] w _
 go_in
 go_upto_region 1 with fail
 rw[aX.out]
 go_wp2_with fail
 refine aN.out.mono ?_
 rintro e w2 ⟨rfl,ag⟩
 have aR:=D ag
 have H2:=D ((Z0 _ _ _).upd H1 ag)
 clear ag
 have q2:=Zet H2 hll (by have:=HS.out;omega)
 obtain⟨m,l⟩:=Je (ZcE gl)
 rw[←l]at q2
 have aZ:¬((64:Int)≤(m:Int)):=by have:=HS.out;omega
 have aH:=D q2
 clear q2 l
 go_wp2_with fail
 refine aH.out.mono ?_
 rintro e w3 ⟨rfl,ah⟩
 have S:=aR.trans ah
 have h3:=(Z0 _ _ _).upd H2 ah
 have az:=Kv S am
 obtain⟨G0,M,ho,l,ad,hG,hM,aj⟩:=Ze6 h3 HP.out
 obtain⟨v,G,rfl,au,Q,n⟩:=ho
 obtain⟨A,c,rfl,hc⟩:=n.form'
 rw[Xb]at Q n
 obtain⟨g,rfl⟩:=YA.addr n hi
 have aG:G=[g]:=by obtain⟨_,_,h2,_⟩:=n.block;exact h2
 subst aG
 have an:b≠g:=by simpa using au
 have z:=D (show(gl.map fun p=>Yd p.1 p.2)[i]? =some (Yd p.1 p.2)by rw[Xe,HP.out];rfl)
 obtain⟨r,o,I,a3,_⟩:=l.ints
 rw[I]at l
 have aw:g∉M∧b∉M:=⟨ad g (by simp),ad b (by simp)⟩
 have R:=ZdZ (fun p:Value×ZE=>Yd p.1 p.2) (fun p=>p.2.want==q) 224 #[.pointer (some ⟨w.heap.size,0,none⟩)] n (enters_of Tryz.func224 (by kernel_rfl) rfl) (fun W x _ C=>Zho x.2 w.heap.size q W (Zb.of_block ((Kv C az))))
 rw[YC aV.out]at R
 obtain⟨a,K⟩:=Je p.2.members.length
 rw[←K]at I l aS
 have c0:=Jc 0 Q
 have HB:=D Q;have HR:=D n;have aY:=Jt ae S;have HN:=D aj;have HM:=D l;have a1:=D hG;have a0:=D hM;have ay:=D an;have aq:=D aw;have N:=D I;have aA:=D R
 clear h3 l ad hG hM aj Q n ah an au aw I R az S;change Hid _ at K
 go_wp2_with fail
 refine aA.out.mono ?_
 rintro e d ⟨rfl,y⟩
 have V:=Kv y HB
 have X:=(Zc _ _ _ _).upd HR y
 have av:=(ZJ _ _).upd HM y
 have aI:=D V;have aJ:=D X;have aK:=D av;have aT:=D y
 have aB:d.cell? ⟨g,i*7+6,none⟩=some (.slice r a o):=by rw[←N.out];exact(X.liesAt z) 6 _ rfl
 have ao:=Jc 0 V
 clear c0 y V X av aA
 go_upto_region 11 with fail
 refine Jr [0,4,8,12,16,20,24,28,32,36,40,44,48,52,57,61,64,68,74] (fun W=>W.cell? ⟨b,0,none⟩=some (.slice (some ⟨g,0,none⟩) gl.length c)∧W.cell? ⟨g,i*7+6,none⟩=some (.slice r a o)) ⟨ao,aB⟩ ?_
 clear ao aB
 repeat first|refine Jn ?_|refine Jf ?_|refine Ju ?_
 refine JE ?_
 go_wp2_with fail
 obtain⟨w5,E⟩:=Je ((d.alloc (.cells #[.int .i64 id] 3)).drew)
 rw[←E]
 have s:Zg [] d w5:=by rw[E];exact((Zg.refl [] d).alloc _).drew
 have ax:Zb w5 d.heap.size 0 (Zcl id):=by rw[E];exact Zb.of_block (w:=d.alloc _) (Za (w:=d) _)
 have af:=Kv s aI
 have Y:=(Zc _ _ _ _).upd aJ s
 have ap:=(ZJ _ _).upd aK s
 have aE:=D af;have aP:=D Y;have aF:=D ap;have aW:=D ax
 refine⟨fun W=>W.cell? ⟨b,0,none⟩=some (.slice (some ⟨g,0,none⟩) gl.length c)∧W.cell? ⟨g,i*7+6,none⟩=some (.slice r a o),fun _ h=>h,⟨Zf (i:=0) af rfl,by rw[←N.out];exact(Y.liesAt z) 6 _ rfl⟩,?_⟩
 clear E ax af Y ap;change Hid _ at s
 refine JE ?_
 refine Zm w5 rfl (.tmp 46) (.tmp 48) 37 rfl 3 Tryz.underlying37 Zdw rfl (by omega) (by omega) (.slice r a o) (p.2.members.map Zcl) M rfl aF d.heap.size 1 (Zcl id) rfl aW rfl (by intro u C;unfold Zcl at C;simp at C;subst C;rfl) (by rw[Xb,←K.out];omega) ?_
 intro v' w7 G' ab H ar
 obtain⟨P,O,e7,-⟩:=ab.form'
 rw[Xd,Xb,List.length_singleton,←K.out]at e7
 subst e7
 have ac:=Kv H aE aq.out.2
 have ak:=(Zc _ _ _ _).upd aP H (by simpa using aq.out.1)
 have ai:=D ak;have aO:=D H;have aL:=D ar;have aU:=D ab
 clear ab H ar ak;change Hid _ at ac
 go_wp2_with fail
 refine⟨fun W=>W.cell? ⟨b,0,none⟩=some (.slice (some ⟨g,0,none⟩) gl.length c)∧W.cell? ⟨g,i*7+6,none⟩=some (.slice r a o),fun _ h=>h,⟨Zf (i:=0) ac rfl,by rw[←N.out];exact(ai.liesAt z) 6 _ rfl⟩,?_⟩
 repeat first|refine Jn ?_|refine Jf ?_|refine Ju ?_
 refine JL ?_
 have T:=ZcY (j:=6) ai z (by omega) (.slice P (a+1) O)
 have k6:w7.cell? ⟨g,i*7+6,none⟩=some (.slice r a o):=by rw[←N.out];exact(ai.liesAt z) 6 _ rfl
 have f6:=T.2
 have aQ:=D T.1;clear T
 go_wp2_with fail
 refine Jz ?_
 obtain⟨w8,J⟩:=Je (w7.setCell ⟨g,i*7+6,none⟩ (.slice P (a+1) O))
 have aa:=Kd J
 have Z:=(Kv aa ac (by simpa using ay.out))
 have L:=aQ.out
 rw[←J]at L
 have a2:=Jc 0 Z
 have a5:w8.cell? ⟨g,i*7,none⟩=some (.int .i64 p.2.num):=(L.liesAt (show((gl.map fun p=>Yd p.1 p.2).set i ((Yd p.1 p.2).set 6 (.slice P (a+1) O)))[i]? =some _ from List.getElem?_set_self (by rw[Xb];exact hi))) 0 _ rfl
 have aD:=D L;have aM:=D Z
 rw[←J]
 clear k6 f6 J Z L;change Hid _ at aa
 go_wp2_with fail
 go_ret3
 have al:=aT.trans s
 obtain⟨F1,t1,t2⟩:=HN.out w7 w8 (.slice P (a+1) O,{p.2 with members:=p.2.members++[id]}) G' (by show Zk _ _ _ ((p.2.members++[id]).map Zcl) _ _;rw[Xs];exact aU) ⟨(al.weaken (by simp)).trans aO (fun k hk=> .inr hk),fun k hk=>(aL.out k hk).imp _root_.id (fun h=>Xj al.size h)⟩ ⟨_,[g],rfl,by simpa using ay.out,aM.out,by rw[List.map_set];exact aD⟩ (aa.weaken (by simp))
 exact⟨0,rfl,rfl,_,F1,t1,(Zi.of_upd (aY.weaken (by simp))).trans t2⟩
def Zh3 {last:Int} {gl:List (Value×ZE)} (h:YA b last gl w F) (hll:gl.length≤1000000) (hml:∀p∈gl,p.2.members.length≤1000000) (q:Zdz) (id:Int) (hid:1≤id)
  (hno:gl.findIdx? (fun p=>p.2.members.contains id)=none) (hs:ZcE gl<64) (hq:gl.findIdx? (fun p=>p.2.want==q)=none) (hl0:0≤last) (hl1:last≤1000000000000):
  Calls Tryz.prog 148 #[.pointer (some ⟨b,0,none⟩), .agg (Zae q).toArray, .int .i64 id] w (Zkd (last+1) true fun c w'=>c=0∧∃(v:Value) (F1:List Nat),YA b (last+1) (gl++[(v,⟨last+1,q,[id]⟩)]) w' F1∧Zi w w' F F1):=by
 obtain⟨w1,aY,ai,aR⟩:=Kc w (.cells (Zae q).toArray 252)
 have h1:=(Z0 _ _ _).upd h ai
 have q1:=Zc0 h1 hml id
 rw[Yi hno]at q1
 have br:¬id<1:=by omega
 have aX:=D ((Z0 _ _ _).lt h)
 have a7:=D q1;have H1:=D h1;have HS:=D hs;have bd:=D hq;have aP:=D (And.intro hl0 hl1)
 have bo:=D (show w.alloc (.cells #[.string ⟨q.cell.origin.toArray⟩, .string ⟨q.cell.url.toArray⟩, .bool q.cell.creds, .string ⟨q.method.toArray⟩, .string ⟨q.names.toArray⟩] 252)=w1 from aY.symm)
 have bb:=D (show Zu Tryz.prog 252 5=true by kernel_rfl)
 clear q1 h1 aY h hml hs hno hq hl0 hl1;change Hid _ at ai aR
 show Calls _ _ #[.pointer (some ⟨b,0,none⟩), .agg #[.string ⟨q.cell.origin.toArray⟩, .string ⟨q.cell.url.toArray⟩, .bool q.cell.creds, .string ⟨q.method.toArray⟩, .string ⟨q.names.toArray⟩], .int .i64 id] w _
 go_in
 go_upto_region 1 with fail
 rw[bo.out]
 go_wp2_with fail
 refine a7.out.mono ?_
 rintro e w2 ⟨rfl,aj⟩
 have bj:=D aj
 have H2:=D ((Z0 _ _ _).upd H1 aj)
 clear aj
 have q2:=Zet H2 hll (by have:=HS.out;omega)
 obtain⟨m,d⟩:=Je (ZcE gl)
 rw[←d]at q2
 have bq:¬((64:Int)≤(m:Int)):=by have:=HS.out;omega
 have a4:=D q2
 clear q2 d
 go_wp2_with fail
 refine a4.out.mono ?_
 rintro e w3 ⟨rfl,av⟩
 have X:=bj.trans av
 have h3:=(Z0 _ _ _).upd H2 av
 have am:=Kv X aR
 obtain⟨v,G,R,j,n,hF⟩:=YA.row h3
 obtain⟨A,c,rfl,hc⟩:=n.form'
 rw[Xb]at j n
 have V:=ZdZ (fun p:Value×ZE=>Yd p.1 p.2) (fun p=>p.2.want==q) 224 #[.pointer (some ⟨w.heap.size,0,none⟩)] n (enters_of Tryz.func224 (by kernel_rfl) rfl) (fun W x _ hu=>Zho x.2 w.heap.size q W (Zb.of_block ((Kv hu am))))
 rw[Yi bd.out]at V
 have T:=Jc 0 j
 have aM:=D V;have H3:=D h3;have bf:=Jt ai X
 clear V h3 av X j n R hF;change Hid _ at am
 go_wp2_with fail
 refine aM.out.mono ?_
 rintro e w4 ⟨rfl,N⟩
 have h4:=(Z0 _ _ _).upd H3 N
 have aq:=Kv N am
 obtain⟨G0,ho,hG,ay⟩:=Zgn h4
 obtain⟨v,G,rfl,R,j,n⟩:=ho
 have aD:=Zdt ⟨b,1,none⟩ last 1 w4 (Zf (i:=1) j rfl) (ZS j) aP.out.1 aP.out.2 (by omega) (by omega)
 have Y:∀k∈b::G,k<w.heap.size:=fun k a=>aX.out k (hG k a)
 have aU:w.heap.size≠b:=by have:=Y b (by simp);omega
 have aB:=D R
 have aH:=D aD;have a5:=D j;have a6:=D n;have bn:=Jt bf N;have bi:=D ay;have bs:=D Y;have a8:=D aU
 clear h4 hG ay R j n aD Y aU N aM T;change Hid _ at aq
 go_wp2_with fail
 refine aH.out.mono ?_
 rintro e5 g ⟨rfl,ab⟩
 have L:=Kd ab
 have aO:g.heap[b]? =some (.cells #[v, .int .i64 (last+1)] 196 (0,0)):=by rw[ab];exact(Zd (i:=1) a5 _).trans rfl
 have aK:=(Zc _ _ _ _).upd a6 L (fun k a d=>by rw[Jm d]at a;exact aB.out a)
 have ag:=(Kv L aq (by simpa using a8.out))
 obtain⟨F5,h5,ah⟩:=bi.out g (Y2 b (fun v=> #[v, .int .i64 (last+1)]) 196 320 7 (gl.map fun p=>Yd p.1 p.2)) (b::G) ⟨v,G,rfl,aB.out,aO,aK⟩ (Zi.of_upd (L.weaken (by simp)))
 have ac:YA b (last+1) gl g F5:=h5
 obtain⟨G0,ho,ae,ax⟩:=Zl4 ac
 obtain⟨v6,S,rfl,aC,O,K⟩:=ho
 obtain⟨z,H,rfl,a9⟩:=K.form'
 rw[Xb]at O K a9
 have a2:=(Z0 _ _ _).lt ac
 have T:=Jc 0 O
 have au:=D (show Zb g w.heap.size 0 (Zae q)from Zb.of_block ag)
 have aa:=D O;have aI:=D K;have aW:=D aC;have aF:=D ax;have bg:=D ah;have bp:=D ae
 have bt:=D (Jg ag)
 have aN:w.heap.size∉b::S:=fun d=>by
  rcases ah.new _ (ae _ d)with h|h
  ·have:=aX.out _ h;omega
  ·have:=(Jg aq);omega
 have ba:=D aN
 obtain⟨C,af⟩:=Je (last+1)
 rw[←af]at aa aF⊢
 clear ab aO aK ag h5 ah ac ae ax aC O K a2 aH aN;change Hid _ at L af
 go_upto_region 14 with fail
 refine Jr [0,4,8,12,16,20,24,28,33,36,41,45,48,52,58] (fun W=>W.cell? ⟨b,0,none⟩=some (.slice z gl.length H)∧Zb W w.heap.size 0 (Zae q)) ⟨T,au.out⟩ ?_
 clear T
 repeat first|refine Jn ?_|refine Jf ?_|refine Ju ?_
 refine JO (cs:=[.string ⟨q.cell.origin.toArray⟩, .string ⟨q.cell.url.toArray⟩, .bool q.cell.creds, .string ⟨q.method.toArray⟩, .string ⟨q.names.toArray⟩]) bb.out (fun W hW=>hW.2) ?_
 repeat first|refine Jn ?_|refine Jf ?_|refine Ju ?_
 refine JE ?_
 go_wp2_with fail
 obtain⟨o,P⟩:=Je ((g.alloc (.cells #[.int .i64 id] 3)).drew)
 rw[←P]
 have Q:Zg [] g o:=by rw[P];exact((Zg.refl [] g).alloc _).drew
 have aQ:Z6 (.slice (some ⟨g.heap.size,0,none⟩) 1 1) [id] o [g.heap.size]:=Zjq (xs:=[id].map Zcl) (w:=o) (cur:= #[.int .i64 id]) (by rw[P];exact Za (w:=g) _) rfl (by simp[maxLen]) (by simp[Zcl])
 have Z:=Kv Q aa
 have bk:=D Z;have ar:=D aQ;have ad:=D Q
 refine⟨fun W=>W.cell? ⟨b,0,none⟩=some (.slice z gl.length H)∧Zb W w.heap.size 0 (Zae q),fun _ h=>h,⟨Zf (i:=0) Z rfl,au.upd Q⟩,?_⟩
 obtain⟨l,aw⟩:=Je g.heap.size
 rw[←aw]at ar⊢
 clear P Q aQ Z;change Hid _ at aw
 repeat first|refine Jn ?_|refine Jf ?_|refine Ju ?_
 refine JE ?_
 go_wp2_with fail
 obtain⟨w8,M⟩:=Je (o.alloc (.cells #[.int .i64 C, .string ⟨q.cell.origin.toArray⟩, .string ⟨q.cell.url.toArray⟩, .bool q.cell.creds, .string ⟨q.method.toArray⟩, .string ⟨q.names.toArray⟩, .slice (some ⟨l,0,none⟩) 1 1] 320))
 rw[←M]
 have s:=Ja M
 have al:=Kv s bk
 have bm:=D (show Zb w8 o.heap.size 0 (Yd (.slice (some ⟨l,0,none⟩) 1 1) ⟨C,q,[id]⟩)by rw[M];exact Zb.of_block (Za _))
 have aJ:=(Zc _ _ _ _).upd aI (ad.trans s)
 have bh:=D al;have bl:=D aJ;have an:=D s
 have aL:=D (au.upd (ad.trans s))
 refine⟨fun W=>W.cell? ⟨b,0,none⟩=some (.slice z gl.length H)∧Zb W w.heap.size 0 (Zae q),fun _ h=>h,⟨Zf (i:=0) al rfl,aL.out⟩,?_⟩
 clear M s al aJ
 refine JE ?_
 refine Zm w8 rfl (.tmp 68) (.tmp 74) 194 rfl 320 Tryz.underlying194 ZkK rfl (by omega) (by omega) (.slice z gl.length H) (gl.map fun(p:Value×ZE)=>Yd p.1 p.2) S rfl bl o.heap.size 1 (Yd (.slice (some ⟨l,0,none⟩) 1 1) ⟨C,q,[id]⟩) rfl bm rfl (ZdW rfl _) (by rw[Xb];omega) ?_
 intro v' w9 E ao ak aV
 obtain⟨A',c',e9,-⟩:=ao.form'
 rw[Xd,Xb,List.length_singleton]at e9
 subst e9
 have y:=Kv ak bh aW
 have be:=D y;have bc:=D ao;have ap:=D ak;have aT:=D aV
 clear ao ak aV
 go_wp2_with fail
 refine⟨fun W=>W.cell? ⟨b,0,none⟩=some (.slice z gl.length H)∧Zb W w.heap.size 0 (Zae q),fun _ h=>h,⟨Zf (i:=0) y rfl,aL.upd ap (fun d=>ba.out (by simp[d]))⟩,?_⟩
 repeat first|refine Jn ?_|refine Jf ?_|refine Ju ?_
 refine JL ?_
 have f9:=Kf 0 y
 have c9:=Jc 0 y
 clear y
 go_wp2_with fail
 refine Jz ?_
 obtain⟨aS,I⟩:=Je (w9.setCell ⟨b,0,none⟩ (.slice A' (gl.length+1) c'))
 have az:aS.heap[b]? =some (.cells #[.slice A' (gl.length+1) c', .int .i64 C] 196 (0,0)):=by rw[I];exact Zd (i:=0) be _
 have J:=Kd I
 rw[←I]
 clear I c9 f9;change Hid _ at az J
 go_wp2_with fail
 go_ret3
 have bu:=(Jg aa)
 have aG:=ad.trans an
 have hn:∀x∈E,x∈S∨g.heap.size≤x:=fun x hx=>(aT.out x hx).imp _root_.id (fun h=>Xj aG.size h)
 have aA:b∉E:=fun d=>by
  rcases hn b d with h|h
  ·exact aW h
  ·omega
 have aZ:=(ZJ _ _).lt ar.out
 have r:∀k∈[l],g.heap.size≤k:=fun k a=>by rw[Jm a,aw.out];exact Xi _
 have aE:∀k∈S,k<g.heap.size:=(Zc _ _ _ _).lt aI.out
 have a0:Z8 (b::E) [l]:=fun k a d=>by
  rcases List.mem_cons.1 a with rfl|a
  ·have:=r k d;omega
  ·rcases aT k a with h|h
   ·have:=r k d;have:=aE k h;omega
   ·have:=aZ k d;have:=an.size;omega
 have a3:=(Zc _ _ _ _).upd bc J (fun k a d=>by rw[Jm d]at a;exact aA a)
 have a1:=(ZJ _ _).upd ((ZJ _ _).upd ((ZJ _ _).upd ar an) ap (fun k a d=>by have:=r k a;have:=aE k d;omega)) J (fun k a d=>by rw[Jm d]at a;have:=r b a;omega)
 obtain⟨F2,t1,t2⟩:=aF.out aS (.slice (some ⟨l,0,none⟩) 1 1,⟨C,q,[id]⟩) [l] (b::E) a1 r a0 ⟨_,E,rfl,aA,az.out,by rw[Xs];exact a3⟩
  ⟨((aG.weaken (by simp)).trans ap (fun k a=> .inr (by simp[a]))).trans J (fun k a=> .inr (by simp at a;simp[a])),fun x hx=>by
   rcases List.mem_cons.1 hx with rfl|hx
   ·exact .inl (by simp)
   ·exact(hn x hx).imp (fun h=>by simp[h]) _root_.id⟩
 obtain rfl:=af.out
 exact⟨0,rfl,rfl,_,F2,t1,((Zi.of_upd (bn.weaken (by simp))).trans bg).trans t2⟩
end Go.Proofs.YtlhapbopmplngaaGreatDoor
