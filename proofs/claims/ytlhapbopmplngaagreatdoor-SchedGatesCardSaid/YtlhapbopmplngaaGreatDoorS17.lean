import Derived.Test.YtlhapbopmplngaaGreatDoorS10
import Derived.Test.YtlhapbopmplngaaGreatDoorS16
set_option linter.all false
set_option maxHeartbeats 16000000
set_option maxRecDepth 100000
set_option autoImplicit true
set_option relaxedAutoImplicit true
namespace Go.Proofs.YtlhapbopmplngaaGreatDoor
open Go.RowKit Go.Lk
def Zfr (Q:World→Prop) (e:Ending) (w':World):Prop:=∃v:Value,e= .returned v∧Q w'
def Zcl (x:Int):List Value:=[.int .i64 x]
def Zfy {α:Type} [Inhabited α] (enc:α→Value) (w:World) (g off n:Nat) (d:Array α) (os:Array Obj):Zg [g] w (Sort.grow (Sort.putRow enc (Sort.ahead w n) g off d) os):=by
 have a:Zg [g] w (Sort.putRow enc (Sort.ahead w n) g off d):=by
  refine⟨rfl,rfl,rfl,?_,fun k c b=> ?_⟩
  ·show _≤(w.heap.modify _ _).size;simp
  ·show(w.heap.modify _ _)[k]? =_
   rw[Array.getElem?_modify,if_neg (by rintro rfl;simp at b)]
 refine⟨a.os,a.tape,a.output,?_,fun k c b=> ?_⟩
 ·have:=a.size;show _≤(_++_:Array Obj).size;simp only[Array.size_append];omega
 ·have e:=a.block k c b
  have f:=a.size
  show(_++_:Array Obj)[k]? =_
  rw[Array.getElem?_append_left (by omega)];exact e
def Zo0 {l:List Int} (h:Zk 3 1 v (l.map Zcl) w F) (hl:l.length≤1000000):
  Calls Tryz.prog 214 #[v] w fun e w'=>e= .returned (.tuple #[])∧Zg F w w':=by
 rcases h.form with⟨rfl,s,rfl⟩|⟨g,d,m,b,rfl,a,q,r,o,ht⟩
 ·refine(Tryz.slices_Sort_int_none none 0 w).mono ?_
  rintro e w' ⟨rfl,rfl⟩
  exact⟨rfl,Zg.refl _ _⟩
 ·rw[Xb]at b
  subst b
  have k:Sort.Holds (Value.int .i64) w g 0 l.toArray:=fun j c=>by
   have i:j<l.length:=by simpa using c
   refine⟨?_,ZS a⟩
   have:=h.liesAt (j:=j) (cs:=Zcl l[j]) (by rw[Xe,Xa i];rfl) 0 _ rfl
   rw[Nat.mul_one,Nat.add_zero]at this
   rw[Nat.zero_add,this,getElem!_pos l.toArray j c]
   simp
  refine(Tryz.slices_Sort_int g 0 d l w k (Jg a) (by omega)).mono ?_
  rintro e w' ⟨rfl,n,p,rfl⟩
  exact⟨rfl,Zfy _ _ _ _ _ _ _⟩
def ZkL (xb ob:Nat) (fv:Value) (p:Zbx→Bool) (d:List Zbx):YD:=fun w F=>∃vo Go,F=xb::ob::Go∧xb≠ob∧xb∉Go∧ob∉Go∧w.heap[xb]? =some (.cells #[fv] 240 (0,0))∧
 w.heap[ob]? =some (.cells #[vo] 37 (0,0))∧Zk 3 1 vo (((d.filter p).map (·.num)).map Zcl) w Go
def Zha (xb ob:Nat) (fv:Value) (p:Zbx→Bool) (d:List Zbx):(ZkL xb ob fv p d).Local where
 lt:=by
  rintro w F ⟨i,h,rfl,_,_,_,g,b,e⟩ k a
  rcases List.mem_cons.1 a with rfl|a
  ·exact(Jg g)
  ·rcases List.mem_cons.1 a with rfl|a
   ·exact(Jg b)
   ·exact(Zc _ _ _ _).lt e k a
 upd:=by
  rintro w n F G ⟨i,h,rfl,m,j,l,g,b,e⟩ f c
  exact⟨i,h,rfl,m,j,l,(Kv f g (c xb (by simp))),(Kv f b (c ob (by simp))),
   (Zc _ _ _ _).upd e f (fun k a=>c k (by simp[a]))⟩
def ZmY (g:FuncId) (lb:Array Value) (eg:∀args w,(callFunc g args).run Tryz.prog w= .ok (.enter g args) w) (p:Zbx→Bool) {xb ob:Nat} (h:ZkL xb ob (.func (.func g) #[] lb) p d W F) (x:Zbx) (hd:d.length≤1000000)
  (hp:∀W1,Zg [] W W1→Calls Tryz.prog g (#[.agg (ZY x).toArray]++lb) W1 fun e w'=>e= .returned (.bool (p x))∧Zg [] W1 w'):
  Calls Tryz.prog 213 #[.agg (ZY x).toArray, .pointer (some ⟨xb,0,none⟩), .pointer (some ⟨ob,0,none⟩)] W fun e w'=>e= .returned (.bool (p x))∧∃G',ZkL xb ob (.func (.func g) #[] lb) p (d++[x]) w' G'∧Zi W w' F G':=by
 obtain⟨vo,y,rfl,a1,a2,a3,V,S,R⟩:=h
 obtain⟨X,ab,o,Q⟩:=Kc W (.cells (ZY x).toArray 239)
 have Y:=Kv o V
 have H2:=Kv o S
 have g3:=(Zc _ _ _ _).upd R o
 obtain⟨b,E⟩:=Je (p x)
 have cx:=Jc 0 Y
 have HL:=D (show Zb X W.heap.size 0 (ZY x)from Zb.of_block Q)
 have al:=D (show Zu Tryz.prog 239 3=true by kernel_rfl)
 have HP:=D (hp X o)
 rw[←E]at HP⊢
 have H3:=D g3
 have ag:=D (show xb<W.heap.size∧ob<W.heap.size∧∀k∈y,k<W.heap.size from⟨(Jg V),(Jg S),(Zc _ _ _ _).lt R⟩)
 have j:=D (And.intro a1 (And.intro a2 a3))
 clear hp g3 V S R a1 a2 a3;change Hid _ at E ab o Q Y H2
 have e0:Value.agg (ZY x).toArray= .agg #[.int .i64 x.num, .string ⟨x.key.toArray⟩, .int .u64 x.until_]:=rfl
 have ah:W.alloc (.cells #[.int .i64 x.num, .string ⟨x.key.toArray⟩, .int .u64 x.until_] 239)=X:=ab.symm
 rw[e0]
 clear e0;change Hid _ at ah
 go_in
 go_upto_region 1 with fail
 rw[ah.out]
 go_wp2_with(refine Jl HL al ?_)
 refine HP.out.mono ?_
 rintro e T ⟨rfl,m⟩
 have ad:=D ((Kv m Y))
 have n:=Kv m H2
 have q:=(Zc _ _ _ _).upd H3 m
 have M:=Kv m Q
 have af:=Jt o m
 clear cx
 cases b with
 |false=>
  have H:=D (show(d++[x]).filter p=d.filter p by rw[List.filter_append];simp[←E.out])
  have K:=D n;have P:=D q
  clear m n q M
  go_wp2_with fail
  go_ret
  refine⟨rfl,xb::ob::y,⟨vo,y,rfl,j.out.1,j.out.2.1,j.out.2.2,ad.out,K.out,?_⟩,af.weaken (by simp),fun k a=> .inl a⟩
  rw[H.out];exact P.out
 |true=>
  have H:=D (show((d++[x]).filter p).map (·.num)=(d.filter p).map (·.num)++[x.num]by rw[List.filter_append];simp[←E.out])
  obtain⟨A,c,rfl,hc⟩:=q.form'
  obtain⟨nn,r⟩:=Je ((((d.filter p).map (·.num)).map Zcl).length)
  rw[←r]at n q hc
  have ap:nn≤1000000:=by rw[r,Xb,Xb];have:=Xq p d;omega
  have ao:=Jc 0 M
  have an:=Jc 0 n
  obtain⟨w3,L,s⟩:=Kb T (.cells #[.int .i64 x.num] 3)
  have aa:Zb w3 T.heap.size 0 (Zcl x.num):=by rw[L];exact Zb.of_block (Za _)
  have K:=D ((Kv s n))
  have P:=D ((Zc _ _ _ _).upd q s)
  have aj:=D aa;have C:=Jt af s
  have ak:=D ((Kv s ad))
  clear m n q M s aa;change Hid _ at L r
  go_wp2_with(rw[←L.out];refine Zm w3 rfl (.tmp 9) (.tmp 12) 37 rfl 3 Tryz.underlying37 Zdw rfl (by omega) (by omega) (.slice A nn c) _ y rfl P T.heap.size 1 (Zcl x.num) rfl aj rfl (by intro u hu;simp only[Zcl,List.mem_singleton]at hu;subst hu;rfl) (by rw[←r.out];omega) ?_;intro v' w7 G' N J ae;obtain⟨A',c',e7,_⟩:=N.form';rw[Xd,←r.out,List.length_singleton]at e7;subst e7;have O:=D ((Kv J K j.out.2.2));have c7:=Jc 0 O.out;have f7:=Kf 0 O.out;have am:=D N;have ac:=D J;have I:=D ae;clear N J ae)
  go_ret
  have Z:ob∉G':=fun z=>by
   rcases I ob z with l|l
   ·exact j.out.2.2 l
   ·have:=C.size;have:=ag.out.2.1;omega
  have ai:xb∉G':=fun z=>by
   rcases I xb z with l|l
   ·exact j.out.2.1 l
   ·have:=C.size;have:=ag.out.1;omega
  refine⟨rfl,xb::ob::G',⟨_,G',rfl,j.out.1,ai,Z,?_,Zd (i:=0) O _,?_⟩,?_,fun k a=> ?_⟩
  ·rw[Z4 _ (Ne.symm j.out.1)]
   exact(Kv ac ak j.out.2.1)
  ·rw[H.out,Xs]
   exact(Zc _ _ _ _).upd am ((Zg.refl [ob] w7).setCell (.inr (by simp)) _) (fun k a z=>by rw[Jm z]at a;exact Z a)
  ·exact(((C.weaken (G:=xb::ob::y) (by simp)).trans ac (fun k a=> .inr (by simp[a]))).setCell (.inr (by simp)) _)
  ·simp only[List.mem_cons]at a⊢
   rcases a with a|a|a
   ·exact .inl (.inl a)
   ·exact .inl (.inr (.inl a))
   ·rcases I k a with l|l
    ·exact .inl (.inr (.inr l))
    ·right;have:=C.size;omega
def Zjn (g:FuncId) (lb:Array Value) (eg:∀args w,(callFunc g args).run Tryz.prog w= .ok (.enter g args) w) (q:Zbx→Bool) {hb:Nat} {Gb Gi Gh:List Nat} (h:YH w b p vb vi hb Gb Gi Gh)
  (hp:∀(W:World) (x:Zbx),Zg Gi w W→Calls Tryz.prog g (#[.agg (ZY x).toArray]++lb) W fun e w'=>e= .returned (.bool (q x))∧Zg [] W w'):
  Calls Tryz.prog 137 #[.pointer (some ⟨b,0,none⟩), .func (.func g) #[] lb] w (Zfr fun w'=>∃vi',YH w' b {p with idle:=p.idle.filter fun c=> !q c} vb vi' hb Gb Gi Gh∧Zg (b::Gi) w w'):=by
 obtain⟨o,n⟩:=Je ((w.alloc (.cells #[.func (.func g) #[] lb] 240)).alloc (.cells #[.slice none 0 0] 37))
 have m:Zg [] w o:=by rw[n];exact((Zg.refl [] w).alloc _).alloc _
 have ae:o.heap[w.heap.size]? =some (.cells #[.func (.func g) #[] lb] 240 (0,0)):=by rw[n,Zz _ (by simp)];exact Za _
 have ac:o.heap[w.heap.size+1]? =some (.cells #[.slice none 0 0] 37 (0,0)):=by
  rw[n];have:=Za (w:=w.alloc (.cells #[.func (.func g) #[] lb] 240)) (.cells #[.slice none 0 0] 37);simpa using this
 have F:=h.upd m
 have P:=h.lt
 have V:p.idle.length≤32:=by have:=h.ok.few;have:=h.ok.tot;omega
 have Y:ZkL w.heap.size (w.heap.size+1) (.func (.func g) #[] lb) q [] o [w.heap.size,w.heap.size+1]:=⟨_,[],rfl,by omega,by simp,by simp,ae,ac,ZA _ _ _⟩
 have S:=ZoA ZY q 213 #[.pointer (some ⟨w.heap.size,0,none⟩), .pointer (some ⟨w.heap.size+1,0,none⟩)] (ZkL w.heap.size (w.heap.size+1) (.func (.func g) #[] lb) q) (fun d=>Zha _ _ _ _ _) F.idle ZaE Y
  (fun k a j=>by have:=P k (by simp[a]);simp at j;omega) (enters_of Tryz.func213 (by kernel_rfl) rfl) (fun W G1 d r x hl hI hU=>ZmY g lb eg q hI x (by have e9:p.idle.length=d.length+(r.length+1):=(congrArg List.length hl).trans (by simp);omega) (fun W1 av=>hp W1 x
   (((m.weaken (G:=Gi) (by simp)).trans hU (fun k a=>by
    rcases List.mem_append.1 a with a|a
    ·exact .inr a
    ·left;simp at a;omega)).trans_of' av)))
 have c1:o.cell? ⟨b,1,none⟩=some vi:=Zf (i:=1) F.blk rfl
 have HD:=D S;have H2:=D F;have z:=D P;have aj:=D V;have am:=D h.ok;have aa:=D h.ni;have H:=D h
 clear S F ae ac Y P h hp V;change Hid _ at m n
 go_in
 go_upto_region 2 with fail
 rw[←n.out]
 go_wp2_with fail
 refine HD.out.mono ?_
 rintro e w3 ⟨vi',rfl,I,G3,ad,R,O,L⟩
 have ab:b∉Gi++[w.heap.size,w.heap.size+1]:=fun j=>by
  rcases List.mem_append.1 j with j|j
  ·exact aa j
  ·have:=z.out b (by simp);simp at j;omega
 have E:=Kv O H2.blk ab
 have c3:w3.cell? ⟨b,1,none⟩=some vi:=Zf (i:=1) E rfl
 have f3:=Kf 1 E
 obtain⟨A3,Z,e3,_⟩:=I.form'
 rw[Xb]at e3
 have Q:b∉G3:=fun j=>by
  rcases L b j with s|s
  ·have:=z.out b (by simp);simp at s;omega
  ·have:=z.out b (by simp);have:=m.size;omega
 have ao:=D I;have aw:=D ad;have ay:=D O;have aq:=D L;have ak:=D R;have ai:=D Q
 clear I ad O L R ab Q;change Hid _ at E
 subst e3
 obtain⟨w4,y⟩:=Je (w3.setCell ⟨b,1,none⟩ (.slice A3 (p.idle.filter fun x=> !q x).length Z))
 have C:=Kd y
 have al:=D (show w4.heap[b]? =some (.cells #[vb, .slice A3 (p.idle.filter fun x=> !q x).length Z, .int .i64 p.total, .int .u64 p.keep, .pointer (some ⟨hb,0,none⟩), .int .i64 p.last] 175 (0,0))by rw[y,Zd E.out];rfl)
 have ar:=D ((Zha _ _ _ _ _).upd aw C (fun k a j=>by rw[Jm j]at a;exact ai a))
 change Hid _ at C y
 go_upto_region 3 with fail
 rw[←y.out]
 obtain⟨vo,Go,ah,_,_,X,_,J,T⟩:=ar.out
 have co:w4.cell? ⟨w.heap.size+1,0,none⟩=some vo:=Zf (i:=0) J rfl
 have hs:=Zo0 T (by rw[Xb];have:=Xq q p.idle;have:=aj.out;omega)
 have HS:=D hs;have ap:=D J;have ag:=D ah;have au:=D X
 clear hs T J ah X c1 c3 f3
 go_wp2_with fail
 refine HS.out.mono ?_
 rintro e w5 ⟨rfl,M⟩
 have az:w5.cell? ⟨w.heap.size+1,0,none⟩=some vo:=Zf (i:=0) ((Kv M ap au)) rfl
 have K:=D M
 clear M co
 go_wp2_with fail
 go_ret
 have af:∀k∈Go,w.heap.size≤k:=fun k a=>by
  rcases aq k (by rw[ag.out];simp[a])with s|s
  ·simp at s;omega
  ·have:=m.size;omega
 have N:Zg (b::Gi) w w5:=(((m.weaken (G:=b::Gi) (by simp)).trans ay (fun k a=>by
   rcases List.mem_append.1 a with a|a
   ·exact .inr (by simp[a])
   ·left;simp at a;omega)).trans C (fun k a=> .inr (by simp at a;simp[a]))).trans K (fun k a=> .inl (af k a))
 have l:=H.out
 have an:=(Zc _ _ _ _).upd ((Zc _ _ _ _).upd ao C (fun k a j=>by rw[Jm j]at a;exact aa a)) K (fun k a j=>ak.out k a (by rw[ag.out];simp[j]))
 have ax:=(Kv K al (fun j=>by have:=af b j;have:=z.out b (by simp);omega))
 have hold:∀k,k∈Gb++Gh→k∉b::Gi:=fun k a j=>by
  rcases List.mem_append.1 a with a|a<;>rcases List.mem_cons.1 j with rfl|j
  ·exact l.nb a
  ·exact l.bi k a j
  ·exact l.nh a
  ·exact l.ih k j a
 refine⟨_,rfl,_,⟨ax,(Zc _ _ _ _).upd l.busy N (fun k a=>hold k (by simp[a])),an,(Zx _ _).upd l.hosts N (fun k a=>hold k (by simp[a])),l.nb,l.ni,l.nh,l.bi,l.bh,l.ih,?_⟩,N⟩
 have:=am.out
 exact⟨this.tot,by have:=this.few;have:=Xq (fun x=> !q x) p.idle;dsimp only;omega,this.hosts,this.uses,this.last,this.keep⟩
def Zhf (h:YO b p w F) (now:Nat):
  Calls Tryz.prog 71 #[.pointer (some ⟨b,0,none⟩), .int .u64 now] w (Zfr fun w'=>YO b (expireP p now) w' F∧Zg F w w'):=by
 obtain⟨s,N,G,C,y,z,rfl,h⟩:=h
 obtain⟨M,o,d,j⟩:=Kc w (.cells #[.int .u64 now] 24)
 have a:=h.lt
 have g:=Zjn 138 #[.pointer (some ⟨w.heap.size,0,none⟩)] (enters_of Tryz.func138 (by kernel_rfl) rfl) (fun c=>decide (c.until_≤now)) (h.upd d) (fun W x H=>Zkq x w.heap.size now W (by
  have:=(Kv H j (fun I=>by have:=a w.heap.size (by simp[I]);omega))
  exact Zf (i:=0) this rfl))
 have E:=D g;have K:=D a
 clear g j h a;change Hid _ at o d
 go_in
 go_upto_region 1 with fail
 rw[←o.out]
 go_wp2_with fail
 refine E.out.mono ?_
 rintro e L ⟨v,rfl,q,m,l⟩
 have J:=D m;have r:=D l
 clear m l
 go_wp2_with fail
 go_ret
 exact⟨_,rfl,⟨s,q,G,C,y,z,rfl,J.out⟩,(d.weaken (by simp)).trans r (fun k n=> .inr (by simp at n⊢;rcases n with h|h<;>simp[h]))⟩
def Z6 (v:Value) (l:List Int):YD:=Zk 3 1 v (l.map Zcl)
theorem ZJ (v:Value) (l:List Int):(Z6 v l).Local:=Zc _ _ _ _
section
variable {α:Type} (b:Nat) (cs:Value→Array Value) (T e:TypeId) (k:Nat) (enc:Value→α→List Value) (mem:α→List Int)
def Zbe (l:List (Value×α)):List YD:=Y2 b cs T e k (l.map fun p=>enc p.1 p.2)::l.map fun p=>Z6 p.1 (mem p.2)
def Zbc (l:List (Value×α)):YD:=YD.list (Zbe b cs T e k enc mem l)
def Zil (l:List α):YD:=fun w F=>∃gl:List (Value×α),gl.map (·.2)=l∧Zbc b cs T e k enc mem gl w F
theorem Za1 (l:List (Value×α)):∀A∈Zbe b cs T e k enc mem l,A.Local:=fun A hA=>by
 rcases List.mem_cons.1 hA with rfl|hA
 ·exact Zaf _ _ _ _ _ _
 ·obtain⟨p,_,rfl⟩:=List.mem_map.1 hA
  exact ZJ _ _
theorem Zb7 (l:List (Value×α)):(Zbc b cs T e k enc mem l).Local:=YD.list_local (Za1 b cs T e k enc mem l)
theorem ZdN (l:List α):(Zil b cs T e k enc mem l).Local:=
 ⟨fun h q hq=>by obtain⟨gl,_,h⟩:=h;exact(Zb7 _ _ _ _ _ _ _ _).lt h q hq,fun h hu hF=>by obtain⟨gl,e1,h⟩:=h;exact⟨gl,e1,(Zb7 _ _ _ _ _ _ _ _).upd h hu hF⟩⟩
variable {b cs T e k enc mem}
theorem Zgn {l:List (Value×α)} (h:Zbc b cs T e k enc mem l w F):
  ∃G,Y2 b cs T e k (l.map fun p=>enc p.1 p.2) w G∧(∀q∈G,q∈F)∧∀w1 A1 G1,A1 w1 G1→Zi w w1 G G1→∃F1,YD.list ((Zbe b cs T e k enc mem l).set 0 A1) w1 F1∧Zi w w1 F F1:=
 YD.list_step (Za1 _ _ _ _ _ _ _ _) h rfl
theorem Zci {l:List (Value×α)} (h:Zbc b cs T e k enc mem l w F) {i:Nat} {p:Value×α} (hi:l[i]? =some p):
  ∃G,Z6 p.1 (mem p.2) w G∧(∀q∈G,q∈F)∧∀w1 A1 G1,A1 w1 G1→Zi w w1 G G1→∃F1,YD.list ((Zbe b cs T e k enc mem l).set (i+1) A1) w1 F1∧Zi w w1 F F1:=
 YD.list_step (Za1 _ _ _ _ _ _ _ _) h (i:=i+1) (A:=Z6 p.1 (mem p.2)) (by unfold Zbe;rw[Xf,Xe,hi];rfl)
theorem Ze6 {l:List (Value×α)} (h:Zbc b cs T e k enc mem l w F) {i:Nat} {p:Value×α} (hi:l[i]? =some p):
  ∃G M,Y2 b cs T e k (l.map fun p=>enc p.1 p.2) w G∧Z6 p.1 (mem p.2) w M∧Z8 G M∧(∀q∈G,q∈F)∧(∀q∈M,q∈F)∧
   ∀w1 w2 (p1:Value×α) (M1:List Nat),Z6 p1.1 (mem p1.2) w1 M1→Zi w w1 M M1→Y2 b cs T e k ((l.set i p1).map fun p=>enc p.1 p.2) w2 G→Zg G w1 w2→∃F1,Zbc b cs T e k enc mem (l.set i p1) w2 F1∧Zi w w2 F F1:=by
 obtain⟨a,rfl,c⟩:=h
 have m:=c.len
 have n:(Zbe b cs T e k enc mem l)[i+1]? =some (Z6 p.1 (mem p.2)):=by unfold Zbe;rw[Xf,Xe,hi];rfl
 have r:(Zbe b cs T e k enc mem l)[0]? =some (Y2 b cs T e k (l.map fun p=>enc p.1 p.2)):=rfl
 have y:0<a.length:=by rw[m];exact(Jk r)
 have z:i+1<a.length:=by rw[m];exact(Jk n)
 have f:=Xa y
 have d:=Xa z
 refine⟨a[0],a[i+1],c.lies 0 _ _ r f,c.lies (i+1) _ _ n d,c.apart 0 (i+1) _ _ f d (by omega),fun q j=>Zr f j,fun q j=>Zr d j,fun w1 w2 p1 M1 H hg ho C=> ?_⟩
 obtain⟨s1,s2⟩:=c.step (Za1 _ _ _ _ _ _ _ _) d H hg
 have s:∀A∈(Zbe b cs T e k enc mem l).set (i+1) (Z6 p1.1 (mem p1.2)),A.Local:=fun A g=>by
  rcases List.mem_or_eq_of_mem_set g with g|rfl
  ·exact Za1 _ _ _ _ _ _ _ _ A g
  ·exact ZJ _ _
 have t:(a.set (i+1) M1)[0]? =some a[0]:=by rw[Xt (by omega)];exact f
 obtain⟨o,x⟩:=s1.step s t ho (Zi.of_upd C)
 have E:((Zbe b cs T e k enc mem l).set (i+1) (Z6 p1.1 (mem p1.2))).set 0 (Y2 b cs T e k ((l.set i p1).map fun p=>enc p.1 p.2))=Zbe b cs T e k enc mem (l.set i p1):=by
  unfold Zbe
  rw[List.set_cons_succ,List.set_cons_zero,List.map_set,List.map_set]
 rw[E]at o
 exact⟨_,⟨_,rfl,o⟩,s2.trans x⟩
theorem Zk1 {l:List (Value×α)} (h:Zbc b cs T e k enc mem l w F) {i:Nat} {p:Value×α} (hi:l[i]? =some p):
  ∃G M,Y2 b cs T e k (l.map fun p=>enc p.1 p.2) w G∧Z6 p.1 (mem p.2) w M∧Z8 G M∧(∀q∈G,q∈F)∧(∀q∈M,q∈F)∧
   ∀w2,Y2 b cs T e k ((l.eraseIdx i).map fun p=>enc p.1 p.2) w2 G→Zg G w w2→∃F1,Zbc b cs T e k enc mem (l.eraseIdx i) w2 F1∧(∀q∈F1,q∈F)∧Z8 F1 M:=by
 obtain⟨c,rfl,d⟩:=h
 have m:=d.len
 have n:(Zbe b cs T e k enc mem l)[i+1]? =some (Z6 p.1 (mem p.2)):=by unfold Zbe;rw[Xf,Xe,hi];rfl
 have t:(Zbe b cs T e k enc mem l)[0]? =some (Y2 b cs T e k (l.map fun p=>enc p.1 p.2)):=rfl
 have y:0<c.length:=by rw[m];exact(Jk t)
 have z:i+1<c.length:=by rw[m];exact(Jk n)
 have g:=Xa y
 have f:=Xa z
 refine⟨c[0],c[i+1],d.lies 0 _ _ t g,d.lies (i+1) _ _ n f,d.apart 0 (i+1) _ _ g f (by omega),fun q a=>Zr g a,fun q a=>Zr f a,fun w2 ho C=> ?_⟩
 obtain⟨o,I⟩:=d.step (Za1 _ _ _ _ _ _ _ _) g ho (Zi.of_upd C)
 have x:c.set 0 c[0]=c:=by simp
 rw[x]at o
 obtain⟨r,A⟩:=o.drop (i+1)
 have E:((Zbe b cs T e k enc mem l).set 0 (Y2 b cs T e k ((l.eraseIdx i).map fun p=>enc p.1 p.2))).eraseIdx (i+1)=Zbe b cs T e k enc mem (l.eraseIdx i):=by
  unfold Zbe
  rw[List.set_cons_zero,List.eraseIdx_cons_succ]
  congr 1
  rw[Y9]
 rw[E]at r
 refine⟨_,⟨_,rfl,r⟩,A,fun q a H=> ?_⟩
 obtain⟨j,G,s,a⟩:=YE a
 rw[Zai]at s
 refine d.apart _ (i+1) _ _ s f ?_ q a H
 split<;>omega
end
theorem Zjq {g n:Nat} {xs:List (List Value)} {w:World} {cur:Array Value} (h:w.heap[g]? =some (.cells cur e (0,0))) (hn:n=xs.length) (hm:n≤maxLen) (hc:cur.toList=xs.flatten) (hk:∀c∈xs,c.length=1:=by simp[Zcl]):Zk e 1 (.slice (some ⟨g,0,none⟩) n n) xs w [g]:=by
 have a:=Yn hk
 have b:cur.size=xs.flatten.length:=by rw[←hc];simp
 refine⟨rfl,hk,by rw[a]<;>try omega, .inr ⟨g,n,cur,by rw[hn],Xn _,h,by omega,hm,by rw[b,a,hn],by rw[hc,←a,Xm]⟩⟩
theorem Lays.join {FS:List (List Nat)} {A1:YD} (h:Lays L w FS) (ha:A1 w F1) (hd:Z8 FS.flatten F1):Lays (L++[A1]) w (FS++[F1]):=by
 have get:∀(j:Nat) (G:List Nat),(FS++[F1])[j]? =some G→FS[j]? =some G∨(j=FS.length∧G=F1):=fun j G a=>by
  rcases Nat.lt_trichotomy j FS.length with b|b|b
  ·rw[List.getElem?_append_left b]at a;exact .inl a
  ·subst b
   rw[List.getElem?_append_right (Xi _)]at a
   right;simpa using a.symm
  ·rw[List.getElem?_eq_none (by simp;omega)]at a;cases a
 refine⟨by simp[h.len],fun j A G c a=> ?_,fun j l G H a m g=> ?_⟩
 ·rcases get j G a with d|⟨rfl,rfl⟩
  ·have b:=(Jk d)
   rw[List.getElem?_append_left (by rw[←h.len];exact b)]at c
   exact h.lies j A G c d
  ·rw[h.len,List.getElem?_append_right (Xi _)]at c
   simp at c;subst c;exact ha
 ·rcases get j G a with d|⟨rfl,rfl⟩<;>rcases get l H m with i|⟨rfl,rfl⟩
  ·exact h.apart j l G H d i g
  ·exact fun k e f=>hd k (Zr d e) f
  ·exact fun k e f=>hd k (Zr i f) e
  ·exact absurd rfl g
section
variable {α:Type} {b:Nat} {cs:Value→Array Value} {T e:TypeId} {k:Nat} {enc:Value→α→List Value} {mem:α→List Int}
theorem Zl4 {l:List (Value×α)} (h:Zbc b cs T e k enc mem l w F):
  ∃G,Y2 b cs T e k (l.map fun p=>enc p.1 p.2) w G∧(∀q∈G,q∈F)∧
   ∀w2 (p:Value×α) (M G2:List Nat),Z6 p.1 (mem p.2) w2 M→(∀q∈M,w.heap.size≤q)→Z8 G2 M→Y2 b cs T e k ((l++[p]).map fun p=>enc p.1 p.2) w2 G2→Zi w w2 G G2→∃F2,Zbc b cs T e k enc mem (l++[p]) w2 F2∧Zi w w2 F F2:=by
 obtain⟨g,rfl,d⟩:=h
 have i:=Za1 b cs T e k enc mem l
 have y:(Zbe b cs T e k enc mem l)[0]? =some (Y2 b cs T e k (l.map fun p=>enc p.1 p.2)):=rfl
 have x:0<g.length:=by rw[d.len];exact(Jk y)
 have f:=Xa x
 refine⟨g[0],d.lies 0 _ _ y f,fun q a=>Zr f a,fun w2 p M G2 E s z ho hg=> ?_⟩
 obtain⟨A,r⟩:=d.step i f ho hg
 have hd:Z8 (g.set 0 G2).flatten M:=fun q a m=>by
  obtain⟨j,G,c,o⟩:=YE a
  by_cases n:0=j
  ·subst n
   rw[List.getElem?_set_self x]at c;cases c
   exact z q o m
  ·rw[Xt n]at c
   have:=d.lt i q (Zr c o)
   have:=s q m
   omega
 have t:=Lays.join (A1:=Z6 p.1 (mem p.2)) A E hd
 have C:(Zbe b cs T e k enc mem l).set 0 (Y2 b cs T e k ((l++[p]).map fun p=>enc p.1 p.2))++[Z6 p.1 (mem p.2)]=Zbe b cs T e k enc mem (l++[p]):=by
  unfold Zbe
  rw[List.set_cons_zero,List.cons_append]
  simp
 rw[C]at t
 refine⟨_,⟨_,rfl,t⟩,r.upd,fun q a=> ?_⟩
 rw[List.flatten_append]at a
 rcases List.mem_append.1 a with a|a
 ·exact r.new q a
 ·exact .inr (s q (by simpa using a))
end
section
variable {w w1:World} {b:Nat} {p:Zam} {vb vi:Value} {hb:Nat} {Gb Gi Gh:List Nat}
theorem YH.setBusy (h:YH w b p vb vi hb Gb Gi Gh) {v':Value} {l':List Zbx} (hu:Zg (b::Gb) w w1) (hb1:w1.heap[b]? =some (.cells #[v',vi, .int .i64 p.total, .int .u64 p.keep, .pointer (some ⟨hb,0,none⟩), .int .i64 p.last] 175 (0,0)))
  (hr:Zk 239 3 v' (l'.map ZY) w1 G') (hn:∀x∈G',x∈Gb∨w.heap.size≤x) (ok:Zfx {p with busy:=l'}):
  YH w1 b {p with busy:=l'} v' vi hb G' Gi Gh:=by
 have e:=h.lt
 have new:∀x∈G',∀(G:List Nat),(∀k∈G,k<w.heap.size)→Z8 Gb G→x∉G:=fun x hx G g f a=>by
  rcases hn x hx with d|d
  ·exact f x d a
  ·have:=g x a;omega
 refine⟨hb1,hr,(Zc _ _ _ _).upd h.idle hu (fun k c a=> ?_),(Zx _ _).upd h.hosts hu (fun k c a=> ?_),fun a=> ?_,h.ni,h.nh,fun x hx=>new x hx _ (fun k c=>e k (by simp[c])) h.bi,fun x hx=>new x hx _ (fun k c=>e k (by simp[c])) h.bh,h.ih,ok⟩
 ·rcases List.mem_cons.1 a with rfl|a
  ·exact h.ni c
  ·exact h.bi k a c
 ·rcases List.mem_cons.1 a with rfl|a
  ·exact h.nh c
  ·exact h.bh k a c
 ·rcases hn b a with d|d
  ·exact h.nb d
  ·have:=e b (by simp);omega
theorem YH.setIdle (h:YH w b p vb vi hb Gb Gi Gh) {v':Value} {l':List Zbx} (hu:Zg (b::Gi) w w1) (hb1:w1.heap[b]? =some (.cells #[vb,v', .int .i64 p.total, .int .u64 p.keep, .pointer (some ⟨hb,0,none⟩), .int .i64 p.last] 175 (0,0)))
  (hr:Zk 239 3 v' (l'.map ZY) w1 G') (hn:∀x∈G',x∈Gi∨w.heap.size≤x) (ok:Zfx {p with idle:=l'}):
  YH w1 b {p with idle:=l'} vb v' hb Gb G' Gh:=by
 have e:=h.lt
 have new:∀x∈G',∀(G:List Nat),(∀k∈G,k<w.heap.size)→Z8 Gi G→x∉G:=fun x hx G g f a=>by
  rcases hn x hx with d|d
  ·exact f x d a
  ·have:=g x a;omega
 refine⟨hb1,(Zc _ _ _ _).upd h.busy hu (fun k c a=> ?_),hr,(Zx _ _).upd h.hosts hu (fun k c a=> ?_),h.nb,fun a=> ?_,h.nh,fun x hx a=>new x a _ (fun k c=>e k (by simp[c])) h.bi.symm hx,h.bh,fun x hx=>new x hx _ (fun k c=>e k (by simp[c])) h.ih,ok⟩
 ·rcases List.mem_cons.1 a with rfl|a
  ·exact h.nb c
  ·exact h.bi k c a
 ·rcases List.mem_cons.1 a with rfl|a
  ·exact h.nh c
  ·exact h.ih k a c
 ·rcases hn b a with d|d
  ·exact h.ni d
  ·have:=e b (by simp);omega
theorem YH.setHosts (h:YH w b p vb vi hb Gb Gi Gh) (hu:Zg Gh w w1) (hr:Ye hb l' w1 G') (hn:∀x∈G',x∈Gh∨w.heap.size≤x) (ok:Zfx {p with hosts:=l'}):
  YH w1 b {p with hosts:=l'} vb vi hb Gb Gi G':=by
 have e:=h.lt
 have new:∀x∈G',∀(G:List Nat),(∀k∈G,k<w.heap.size)→Z8 Gh G→x∉G:=fun x hx G g f a=>by
  rcases hn x hx with d|d
  ·exact f x d a
  ·have:=g x a;omega
 refine⟨(Kv hu h.blk h.nh),(Zc _ _ _ _).upd h.busy hu (fun k c a=>h.bh k c a),(Zc _ _ _ _).upd h.idle hu (fun k c a=>h.ih k c a),hr,h.nb,h.ni,fun a=> ?_,h.bi,fun x hx a=>new x a _ (fun k c=>e k (by simp[c])) h.bh.symm hx,fun x hx a=>new x a _ (fun k c=>e k (by simp[c])) h.ih.symm hx,ok⟩
 rcases hn b a with d|d
 ·exact h.nh d
 ·have:=e b (by simp);omega
end
theorem ZqL {l:List Yp} (h:l.length≤32∧∀x∈l,0≤x.uses∧x.uses≤6) (key:Bs):(Zda l key).length≤32∧∀x∈Zda l key,0≤x.uses∧x.uses≤6:=by
 unfold Zda
 split
 ·split
  ·rename_i x hx
   split
   ·exact h
   ·rename_i c
    refine⟨by rw[List.length_set];exact h.1,fun y a=> ?_⟩
    rcases List.mem_or_eq_of_mem_set a with b|rfl
    ·exact h.2 y b
    ·have:=h.2 x (Xc hx);dsimp only;omega
  ·exact h
 ·exact h
theorem ZjV (h:YO b p w F) (num:Int) (now:Nat) (keep:Bool) (hnow:now≤18446744073709551615):
  Calls Tryz.prog 132 #[.pointer (some ⟨b,0,none⟩), .int .i64 num, .int .u64 now, .bool keep] w (Zir fun w'=>∃F',YO b (giveP p num now keep) w' F'∧Zi w w' F F'):=by
 have H:=D h
 obtain⟨vb,vi,hb,Q,z,J,hF,h⟩:=h
 have M:=ZpD h.busy num
 have c0:w.cell? ⟨b,0,none⟩=some vb:=Zf (i:=0) h.blk rfl
 cases hq:p.busy.findIdx? (fun c:Zbx=>c.num==num)with
 |none=>
  rw[Yi hq]at M
  have e1:giveP p num now keep=p:=by unfold giveP;rw[hq]
  rw[e1]
  have HQ:=D M
  clear hq M e1 h hF hnow
  go_in
  go_wp2_with fail
  refine HQ.out.mono ?_
  rintro e a ⟨rfl,s⟩
  have ax:=D s
  clear s
  go_wp2_with fail
  go_ret
  exact⟨_,rfl,F,(ZU _ _).upd H ax,⟨ax.weaken (by simp),fun k hk=> .inl hk⟩⟩
 |some i=>
  rw[YC hq]at M
  have S:=Yv hq
  obtain⟨x,hx⟩:∃x,p.busy[i]? =some x:=⟨_,Xa S⟩
  obtain⟨V,ag⟩:=Je (p.busy.eraseIdx i)
  have aF:V.length=p.busy.length-1:=by rw[ag];exact List.length_eraseIdx_of_lt S
  have am:giveP p num now keep=if keep&&decide (0<p.keep)then{p with busy:=V,hosts:=Zda p.hosts x.key,idle:=p.idle++[{x with until_:=addT now p.keep}]}else{p with busy:=V,hosts:=Zda p.hosts x.key}:=by
   unfold giveP;rw[hq];dsimp only;rw[hx];dsimp only;rw[Z7,←ag]
  obtain⟨g,O,rfl⟩:∃g O,vb= .slice (some ⟨g,0,none⟩) p.busy.length O:=by
   rcases h.busy.form with⟨_,h0,_⟩|⟨g,O,_,h1,_⟩
   ·rw[List.map_eq_nil_iff]at h0;rw[h0]at S;simp at S
   ·exact⟨g,O,by rw[h1,Xb]⟩
  have aG:=h.ok.few;have aE:=h.ok.tot;have aM:=h.ok.keep
  have bB:p.busy.length≤32:=by omega
  have bC:p.idle.length≤32:=by omega
  have HQ:=D M;have HP:=D h;have R:=D hF;have HX:=D hx
  have HM:=D (show(p.busy.map ZY)[i]? =some (ZY x)by rw[Xe,hx];rfl)
  have aK:=D (And.intro aG (And.intro aE aF))
  have aL:=D (And.intro aM hnow)
  have au:=D (show Zu Tryz.prog 239 3=true by kernel_rfl)
  have HO:=D (show(ZY x).toArray.all (·.oneCell')=true by rw[Xl,Xk];exact ZaE x)
  clear hq M h hF hx aG aE aF aM hnow;change Hid _ at am ag
  go_in
  go_wp2_with fail
  refine HQ.out.mono ?_
  rintro e a ⟨rfl,s⟩
  have ae:=D (HP.upd s)
  have ax:=D s
  have bm:=Jc 0 ae.blk
  have br:=D (ae.busy.liesAt HM)
  obtain⟨w3,Z⟩:=Je ((a.alloc (.cells #[.int .i64 0, .string ⟨#[]⟩, .int .u64 0] 239 (0,0))).setRow a.heap.size (ZY x).toArray)
  have aP:=D (Za (w:=a) (.cells #[.int .i64 0, .string ⟨#[]⟩, .int .u64 0] 239 (0,0)))
  have a1:=Kk Z aP
  have aB:=Kh Z
  have l:=D (ae.upd aB)
  have bs:=D (s.trans aB)
  have N:=D ae.lt
  have bp:=D (show w.heap.size≤a.heap.size from s.size)
  clear s c0 aB;change Hid _ at a1 Z
  go_upto_region 7 with(first|refine Js br au ?_|(refine Jo (ZY x).toArray aP au HO ?_;rw[←Z.out]))
  have bu:=Jc 0 l.blk
  have hd:=ZgD.del (by rw[Xb];exact l.busy) (Zde ZaE p.busy) (i:=i) (by rw[Xb];exact S)
  rw[Xb]at hd
  have HD:=D hd
  clear hd bm
  go_wp2_with fail
  refine HD.out.mono ?_
  rintro e w4 ⟨rfl,aw,ac⟩
  rw[Y9,←ag.out]at aw
  have K:Q=[g]:=by obtain⟨_,_,h2,_⟩:=l.busy.block;exact h2
  have aq:=D K
  have av:b≠g:=fun e=>l.nb (by rw[K,e];simp)
  have aU:a.heap.size≠g:=fun e=>by have:=N.out g (by rw[K];simp);omega
  have aR:a.heap.size≠b:=fun e=>by have:=N.out b (by simp);omega
  have aa:=(Kv ac l.blk (by simpa using av))
  have a3:=(Kv ac a1 (by simpa using aU))
  have bt:=Jc 0 aa
  have bo:=Kf 0 aa
  obtain⟨w5,ai⟩:=Je (w4.setCell ⟨b,0,none⟩ (.slice (some ⟨g,0,none⟩) (p.busy.length-1) O))
  have ad:=Kd ai
  have a6:=D ((Kv ad a3 (by simpa using aR)))
  have aO:=(Zc _ _ _ _).upd aw ad (fun k hk o=>by simp at hk o;exact av (by omega))
  have ao:Zg (b::Q) w3 w5:=((ac.weaken (G:=b::Q) (fun k hk=> .inr (by rw[K];simp at hk;simp[hk]))).trans ad (fun k hk=> .inr (by simp at hk;simp[hk])))
  have m:=D (l.setBusy (l':=V) ao (by rw[ai,Zd aa];rfl) aO (fun y d=> .inl (by rw[K];exact d)) ⟨l.ok.tot,by have:=aK.out;dsimp only;omega,l.ok.hosts,l.ok.uses,l.ok.last,l.ok.keep⟩)
  clear aw ac K av aU aR aa a3 ad aO bu;change Hid _ at ao ai
  go_upto_region 8 with fail
  rw[←ai.out]
  have a7:=Jc 4 m.blk
  have a4:=Jc 1 a6
  have aN:=fun(n:Nat)=>Znv (w:=w5.drewN n) m.hosts (Xj m.ok.hosts (by omega)) (fun y d=>by have:=m.ok.uses y d;omega) x.key
  have bv:=D aN
  clear aN bt bo
  refine Jr [0,4,8,12,16,20,26] (fun W=>W.cell? ⟨b,4,none⟩=some (.pointer (some ⟨hb,0,none⟩))∧W.cell? ⟨a.heap.size,1,none⟩=some (.string ⟨x.key.toArray⟩)) ⟨a7,a4⟩ ?_
  repeat first|refine Jn ?_|refine Jf ?_|refine Ju ?_
  refine JL ?_
  simp only[Xu]
  go_wp2_with fail
  refine(bv.out 1).mono ?_
  rintro e L ⟨cf,rfl,aQ,aY⟩
  have HU56:Zg J w5 L:=((Zg.refl J w5).drewN 1).trans aY (fun k hk=> .inr hk)
  have an:=ZqL ⟨m.ok.hosts,m.ok.uses⟩ x.key
  have P:=D (m.setHosts (l':=Zda p.hosts x.key) HU56 aQ (fun y d=> .inl d) ⟨m.ok.tot,m.ok.few,an.1,an.2,m.ok.last,m.ok.keep⟩)
  have aS:a.heap.size∉J:=fun o=>by have:=N.out _ (show a.heap.size∈b::(Q++z++J)by simp[o]);omega
  have bl:=D ((Kv HU56 a6 aS))
  clear aQ aY an aS a7 a4;change Hid _ at HU56
  have ap:=D (show Zg F w L from((bs.weaken (G:=F) (by simp)).trans ao (fun k hk=> .inr (by rw[R.out];simp at hk⊢;rcases hk with h|h<;>simp[h]))).trans HU56 (fun k hk=> .inr (by rw[R.out];simp[hk])))
  go_wp2_with fail
  refine Jz ?_
  have c3:=Jc 3 P.blk
  have aD:∀W,Zg [] L W→(keep&&decide (0<p.keep))=false→∃F',YO b (giveP p num now keep) W F'∧Zi w W F F':=fun W C hk=>by
   rw[am.out,hk]
   exact⟨_,⟨_,_,_,_,_,_,rfl,P.upd C⟩,(ap.trans C),fun k hk=> .inl (by rw[R.out,aq.out];exact hk)⟩
  have aC:=D aD
  clear aD
  cases keep with
  |false=>
   go_wp2_with fail
   go_ret
   exact⟨_,rfl,aC.out _ (Zg.refl _ _) rfl⟩
  |true=>
   by_cases a5:0<p.keep
   ·obtain⟨j,ay⟩:=Je (addT now p.keep)
    have qa:=ZdH now p.keep aL.out.2 aL.out.1 L
    rw[←ay]at qa
    have bn:=D ay;have bj:=D qa
    have bk:decide (0<p.keep)=true:=decide_eq_true a5
    have bA:decide (0<(p.keep:Int))=true:=decide_eq_true (by omega)
    obtain⟨A,c,a0,bd⟩:=P.idle.form'
    rw[Xb]at a0 bd
    subst a0
    have bi:=P.blk
    have af:=bl.out
    have kx:=Jc 2 af
    have kf:=Kf 2 af
    obtain⟨r,ah⟩:=Je (L.setCell ⟨a.heap.size,2,none⟩ (.int .u64 (j:Int)))
    have X:Zg [a.heap.size] L r:=by rw[ah];exact(Zg.refl _ _).setCell (.inr (by simp)) _
    have a2:∀k∈b::([g]++z++J),k∉[a.heap.size]:=fun k hk o=>by
     have:=N.out k (by rw[aq.out];exact hk);simp at o;omega
    have q:=D (P.upd X a2)
    have az:=D (show Zb r a.heap.size 0 (ZY ⟨x.num,x.key,j⟩)from Zb.of_block (T:= 239) (fr:=(0,0)) (by rw[ah,Zd af];rfl))
    have aI:=D q.blk;have bh:=D q.idle;have aX:=D q.ni
    have bq:=D (show a.heap.size∉z from fun o=>by have:=N.out _ (show a.heap.size∈b::(Q++z++J)by simp[o]);omega)
    clear ay qa bi af a2;change Hid _ at ah X
    go_wp2_with fail
    refine bj.out.mono ?_
    rintro e wt ⟨rfl,aT⟩
    rw[aT];clear aT wt
    go_upto_region 11 with fail
    rw[←ah.out]
    go_upto_region 11 with fail
    have aW:=Jc 1 aI.out
    refine Jr [0,4,8,12,16,20,25,29,32,36,42] (fun W=>W.cell? ⟨b,1,none⟩=some (.slice A p.idle.length c)∧Zb W a.heap.size 0 (ZY ⟨x.num,x.key,j⟩)) ⟨aW,az.out⟩ ?_
    repeat first|refine Jn ?_|refine Jf ?_|refine Ju ?_
    refine JO (cs:=[.int .i64 x.num, .string ⟨x.key.toArray⟩, .int .u64 (j:Int)]) au.out (fun W C=>C.2) ?_
    refine JE ?_
    go_wp2_with fail
    obtain⟨ak,Y⟩:=Je ((r.alloc (.cells #[.int .i64 x.num, .string ⟨x.key.toArray⟩, .int .u64 (j:Int)] 239)).drew)
    rw[←Y]
    have I:Zg [] r ak:=by rw[Y];exact((Zg.refl [] _).alloc _).drew
    have al:=Kv I aI
    have aH:Zb ak r.heap.size 0 (ZY ⟨x.num,x.key,j⟩):=by rw[Y];exact Zb.of_block (w:=r.alloc _) (Za _)
    have aJ:=(Zc _ _ _ _).upd bh I
    have bc:=D al;have bg:=D aJ;have bb:=D aH
    have a9:=D (show ak.cell? ⟨b,1,none⟩=some (.slice A p.idle.length c)from Zf (i:=1) al rfl)
    clear al aJ Y aH aW;change Hid _ at I
    refine⟨fun W=>W.cell? ⟨b,1,none⟩=some (.slice A p.idle.length c)∧Zb W a.heap.size 0 (ZY ⟨x.num,x.key,j⟩),fun W C=>C,⟨a9,az.upd I⟩,?_⟩
    refine JE ?_
    refine Zm ak rfl (.tmp 65) (.tmp 67) 172 rfl 239 Tryz.underlying172 ZiS rfl (by omega) (by omega) _ (p.idle.map ZY) z rfl bg r.heap.size 1 (ZY ⟨x.num,x.key,j⟩) rfl bb rfl (ZaE _) (by rw[Xb];omega) ?_
    intro v' w8 G' ar ab aZ
    obtain⟨A',c',e8,_⟩:=ar.form'
    rw[Xd,Xb,List.length_singleton]at e8
    subst e8
    have aj:=Kv ab bc aX
    have c8:=Jc 1 aj
    have f8:=Kf 1 aj
    have bx:=D ar;have bw:=D ab;have bz:=D aZ
    have ba:=D ((az.upd I).upd ab bq)
    clear ar ab aZ;change Hid _ at aj
    go_wp2_with fail
    refine⟨fun W=>W.cell? ⟨b,1,none⟩=some (.slice A p.idle.length c)∧Zb W a.heap.size 0 (ZY ⟨x.num,x.key,j⟩),fun W C=>C,⟨c8,ba.out⟩,?_⟩
    repeat first|refine Jn ?_|refine Jf ?_|refine Ju ?_
    refine JL ?_
    go_wp2_with fail
    refine Jz ?_
    go_wp2_with fail
    go_ret
    have aA:∀y∈G',y∈z∨r.heap.size≤y:=fun y d=>by
     rcases bz y d with E|E
     ·exact .inl E
     ·right;have:=I.size;omega
    have be:b∉G':=fun o=>by
     rcases aA b o with E|E
     ·exact aX E
     ·have:=q.lt b (by simp);omega
    have aV:Zg (b::z) r (w8.setCell ⟨b,1,none⟩ (.slice A' (p.idle.length+1) c')):=(((I.weaken (G:=b::z) (by simp)).trans bw (fun y d=> .inr (by simp[d]))).setCell (.inr (by simp)) _)
    have bf:=q.setIdle (l':=p.idle++[⟨x.num,x.key,j⟩]) aV (by rw[Zd aj.out];rfl) (by
      rw[Xs]
      exact(Zc _ _ _ _).upd bx ((Zg.refl [b] w8).setCell (.inr (by simp)) _) (fun y d o=>by rw[Jm o]at d;exact be d)) aA
     ⟨q.ok.tot,by have:=aK.out;have e9:(p.idle++[(⟨x.num,x.key,j⟩:Zbx)]).length=p.idle.length+1:=(by simp);show(V.length:Int)+((p.idle++[(⟨x.num,x.key,j⟩:Zbx)]).length:Nat)≤p.total;rw[e9];omega,q.ok.hosts,q.ok.uses,q.ok.last,q.ok.keep⟩
    have a8:=(show YO b _ _ _ from⟨_,_,_,_,_,_,rfl,bf⟩)
    refine⟨_,rfl,b::([g]++G'++J),?_,?_,fun k hk=> ?_⟩
    ·rw[am.out,bk,bn.symm]
     exact a8
    ·exact(ap.trans X (fun y d=> .inl (by simp at d;have:=bp.out;omega))).trans aV (fun y d=> .inr (by rw[R.out];simp at d⊢;rcases d with h|h<;>simp[h]))
    ·rw[R.out,aq.out]
     simp only[List.mem_cons,List.mem_append]at hk⊢
     rcases hk with hk|(hk|hk)|hk
     ·exact .inl (.inl hk)
     ·exact .inl (.inr (.inl (.inl hk)))
     ·rcases aA k hk with E|E
      ·exact .inl (.inr (.inl (.inr E)))
      ·right;have:=X.size;have:=ap.size;omega
     ·exact .inl (.inr (.inr hk))
   ·go_wp2_with fail
    go_ret
    exact⟨_,rfl,aC.out _ (Zg.refl _ _) (by simp[a5])⟩
def Zdt (a:Addr) (x y:Int) (w:World) (hc:w.cell? a=some (.int .i64 x)) (hz:w.frozen? a=false) (h1:0≤x) (h2:x≤1000000000000) (h3:0≤y) (h4:y≤1000):
  Calls Tryz.prog 20 #[.pointer (some a), .int .i64 y] w fun e w'=>e= .returned (.int .i64 (x+y))∧w'=w.setCell a (.int .i64 (x+y)):=by
 have b:=run_call_add (P:= Tryz.prog) Tryz.func49 (by kernel_rfl) (by kernel_rfl) (by kernel_rfl) .i64 (by kernel_rfl) (y:=y) hc hz (s:=x+y) (by
  have:IntKind.i64.wrap (x+y)=x+y:=IntWalk.i64_in _ (by omega)
  simp[Op.intArith,this])
 go_in
 go_wp2
 go_ret
 exact⟨rfl,rfl⟩
def Zjm (l:List Zbx) (key:Bs):Option Nat:=((List.range l.length).filter fun i=>(l[i]?.map (·.key))==some key).getLast?
def ZhP (p:Nat→Bool) (n:Nat):((List.range (n+1)).filter p).getLast? =if p n then some n else((List.range n).filter p).getLast? :=by
 rw[List.range_succ,List.filter_append]
 cases h:p n<;>simp[h]
theorem ZjQ (p:Nat→Bool) (hk:p k=true):∀n,k<n→(∀j,k<j→j<n→p j=false)→((List.range n).filter p).getLast? =some k
 |0,h,_=>by omega
 |n+1,h,hm=>by
  rw[ZhP]
  by_cases e:k=n
  ·subst e;rw[if_pos hk]
  ·rw[if_neg (by rw[hm n (by omega) (by omega)];simp)]
   exact ZjQ p hk n (by omega) (fun j h1 h2=>hm j h1 (by omega))
theorem ZhZ (p:Nat→Bool):∀n,(∀j,j<n→p j=false)→((List.range n).filter p).getLast? =none
 |0,_=>rfl
 |n+1,hm=>by
  rw[ZhP,if_neg (by rw[hm n (by omega)];simp)]
  exact ZhZ p n (fun j h=>hm j (by omega))
def Zog {l:List Zbx} {key:Bs} {k:Nat} (hx:l[k]? =some x) (he:(x.key==key)=true) (hm:∀(j:Nat) (y:Zbx),k<j→l[j]? =some y→(y.key==key)=false):Zjm l key=some k:=by
 refine ZjQ _ ?_ _ (Jk hx) (fun j b a=> ?_)
 ·rw[hx];simpa using he
 ·have:=hm j l[j] b (Xa a)
  rw[Xa a];simpa using this
def Zmj {l:List Zbx} {key:Bs} (hm:∀(j:Nat) (y:Zbx),l[j]? =some y→(y.key==key)=false):Zjm l key=none:=by
 refine ZhZ _ _ (fun j a=> ?_)
 have:=hm j l[j] (Xa a)
 rw[Xa a];simpa using this
def Zjp (p2:Zam) (key:Bs):Zam×Int×Bool×Int:=match Zjm p2.idle key with
 |some i=>match p2.idle[i]? with
  |some c=>({p2 with idle:=Y6 p2.idle i,busy:=p2.busy++[c]},c.num,false,0)
  |none=>(p2,0,false,0)
 |none=>
  let p3:=if p2.total≤(p2.busy.length+p2.idle.length:Nat)then{p2 with idle:=Y6 p2.idle 0}else p2
  ({p3 with last:=p3.last+1,busy:=p3.busy++[⟨p3.last+1,key,0⟩]},p3.last+1,true,0)
def Zmn {key:Bs} {now:Nat} (hc:Zf1 p key=true) {hs:List Yp} {e:Int} (hu:Zkj (expireP p now).hosts key=(some hs,e)):
  ZaO p key now=Zjp {expireP p now with hosts:=hs,idle:=(expireP p now).idle.filter fun c=>(ZaI hs c.key).isSome} key:=by
 unfold ZaO Zjp Zjm
 rw[hc];simp only[Bool.not_true,Bool.false_eq_true,if_false];rw[hu];rfl
def Znz {key:Bs} {now:Nat} (hc:Zf1 p key=true) {e:Int} (hu:Zkj (expireP p now).hosts key=(none,e)):ZaO p key now=(expireP p now,0,false,e):=by
 unfold ZaO
 rw[hc];simp only[Bool.not_true,Bool.false_eq_true,if_false];rw[hu]
def ZqR {key:Bs} {now:Nat} (hc:Zf1 p key=false):ZaO p key now=(p,0,false,10):=by
 unfold ZaO;rw[hc];rfl
def Znc {l:List Yp} (h:l.length≤32∧∀x∈l,0≤x.uses∧x.uses≤6) (key:Bs):(∃hs,Zkj l key=(some hs,0)∧hs.length≤32∧∀x∈hs,0≤x.uses∧x.uses≤6)∨Zkj l key=(none,10):=by
 have add:∀(c:List Yp) (x:Yp),c.length<32→(∀y∈c,0≤y.uses∧y.uses≤6)→0≤x.uses∧x.uses≤6→(c++[x]).length≤32∧∀y∈c++[x],0≤y.uses∧y.uses≤6:=fun c x g e f=>by
  refine⟨by simp;omega,fun y a=> ?_⟩
  rcases List.mem_append.1 a with a|a
  ·exact e y a
  ·rw[Jm a];exact f
 have del:∀i,i<l.length→(Y6 l i).length<32∧∀y∈Y6 l i,0≤y.uses∧y.uses≤6:=fun i b=>by
  refine⟨by rw[Z7,List.length_eraseIdx_of_lt b];omega,fun y a=>h.2 y (ZjD a)⟩
 unfold Zkj ZaI
 cases hq:l.findIdx? (fun o:Yp=>o.key==key)with
 |some i=>
  have b:=Yv hq
  dsimp only
  rw[Xa b]
  dsimp only
  have hx:=h.2 l[i] (List.getElem_mem b)
  split
  ·exact .inr rfl
  ·exact .inl ⟨_,rfl,add _ _ (del i b).1 (del i b).2 (by dsimp only;omega)⟩
 |none=>
  dsimp only
  split
  ·split
   ·rename_i i d
    exact .inl ⟨_,rfl,add _ _ (del i (Yv d)).1 (del i (Yv d)).2 (by dsimp only;omega)⟩
   ·exact .inr rfl
  ·exact .inl ⟨_,rfl,add _ _ (by omega) h.2 (by dsimp only;omega)⟩
def ZmV (x:Zbx) {W:World} {xb b hb:Nat} {hs:List Yp} (hx:W.cell? ⟨xb,0,none⟩=some (.pointer (some ⟨b,0,none⟩))) (hb4:W.cell? ⟨b,4,none⟩=some (.pointer (some ⟨hb,0,none⟩))) (hh:Ye hb hs W Gh):
  Calls Tryz.prog 227 #[.agg (ZY x).toArray, .pointer (some ⟨xb,0,none⟩)] W fun e w'=>e= .returned (.bool (!(ZaI hs x.key).isSome))∧Zg [] W w':=by
 have l:=Zay hx
 have j:=Zay hb4
 have s:xb≠W.heap.size:=by omega
 have r:b≠W.heap.size:=by omega
 obtain⟨c,i,a,hv⟩:=Kc W (.cells (ZY x).toArray 239)
 have p:c.cell? ⟨xb,0,none⟩=some (.pointer (some ⟨b,0,none⟩)):=(Xp (a.block xb l (by simp))).trans hx
 have n:c.cell? ⟨b,4,none⟩=some (.pointer (some ⟨hb,0,none⟩)):=(Xp (a.block b j (by simp))).trans hb4
 have o:=Jc 1 hv
 have q:=D (fun(w':World) (hu:Zg [] c w')=>ZoL ((Zx _ _).upd ((Zx _ _).upd hh a (by simp)) hu) x.key)
 clear hv hx hb4 hh l j;change Hid _ at i a
 have k:Value.agg (ZY x).toArray= .agg #[.int .i64 x.num, .string ⟨x.key.toArray⟩, .int .u64 x.until_]:=rfl
 have h:W.alloc (.cells #[.int .i64 x.num, .string ⟨x.key.toArray⟩, .int .u64 x.until_] 239)=c:=i.symm
 rw[k]
 clear k;change Hid _ at h
 go_in
 go_upto_region 1 with fail
 rw[h.out]
 refine Jr [0,4,8,12,16,20,26,28,32] (fun d=>d.cell? ⟨xb,0,none⟩=some (.pointer (some ⟨b,0,none⟩))∧d.cell? ⟨b,4,none⟩=some (.pointer (some ⟨hb,0,none⟩))∧d.cell? ⟨W.heap.size,1,none⟩=some (.string ⟨x.key.toArray⟩)) ⟨p,n,o⟩ ?_
 repeat first|refine Jn ?_|refine Jf ?_|refine Ju ?_
 refine JL ?_
 simp only[Xu]
 go_wp2_with fail
 refine(q.out _ ((Zg.refl [] c).drewN 1)).mono ?_
 rintro e w ⟨rfl,g⟩
 have m:=D ((a.drewN 1).trans g);clear g
 go_wp2_with fail
 refine⟨fun _=>True,trivial,?_⟩
 repeat first|refine Jn ?_|refine Jf ?_|refine Ju ?_
 refine ZK ?_
 go_wp2_with fail
 go_ret
 refine⟨?_,m.out⟩
 cases ZaI hs x.key<;>rfl
end Go.Proofs.YtlhapbopmplngaaGreatDoor
namespace Go.Lk
open Go Go.RowKit
def Zah {P:Program} (w:World) {ops:Array Oper} {rest:List Oper} {o:Oper} {a:Act} {Q:Exit→Act→World→Prop} (hgd:o.guard=none) (t:TypeId) (x y:Operand) (ho:o.op= .store t x y)
  {k g n cap i:Nat} {xs:List (List Value)} (cs:List Value) (hr:Zk t k (.slice (some ⟨g,0,none⟩) n cap) xs w F) (hi:i<xs.length) (hc:cs.length=k)
  (hx:a.eval x= .pointer (some ⟨g,i*k,none⟩)) (hy:a.eval y= .agg cs.toArray) (ht:Zu P t k=true) (h1:∀u∈cs,u.oneCell'=true)
  (h:∀w',Zk t k (.slice (some ⟨g,0,none⟩) n cap) (xs.set i cs) w' F→Zg [g] w w'→wpList P ops Q rest (a.put o.dst undef) w'):wpList P ops Q (o::rest) a w:=by
 obtain⟨d,b,e,c⟩:=ZfM (cs:=cs) hr hi hc
 refine Zc9 w hgd t x y ho g (i*k) cs.toArray d t hx hy (by simpa[hc]using ht) b (by simpa using e) (by rw[Xl,Xk];exact h1) ?_
 refine h _ (c _ ?_) ((Zg.refl _ _).setRow (.inr (by simp)) _)
 rw[setRow_heap _ _ _ _ _ _ b]
 congr 2
end Go.Lk
namespace Go.Proofs.YtlhapbopmplngaaGreatDoor
open Go.RowKit Go.Lk
def Yx (t:Zv):List Value:=[.int .u64 (t.due:Int), .int .i64 t.id, .int .i64 t.tag]
def ZbL (t:Zv):∀v∈Yx t,v.oneCell'=true:=by unfold Yx;simp[Value.oneCell']
structure Zbl (b g cap:Nat) (most last:Int) (arr:List Zv) (w:World):Prop where
 blk:w.heap[b]? =some (.cells #[.slice (some ⟨g,0,none⟩) arr.length cap, .int .i64 most, .int .i64 last] 190 (0,0))
 row:Zk 235 3 (.slice (some ⟨g,0,none⟩) arr.length cap) (arr.map Yx) w [g]
 ne:b≠g
def Zbl.upd {b g cap:Nat} {most last:Int} {arr:List Zv} {B:List Nat} (h:Zbl b g cap most last arr w) (hu:Zg B w w') (hb:b∉B) (hg:g∉B:=by simp):Zbl b g cap most last arr w':=
 ⟨(Kv hu h.blk hb),(Zc _ _ _ _).upd h.row hu (fun k hk=>by rw[Jm hk];exact hg),h.ne⟩
def Zbl.at {b g cap:Nat} {most last:Int} {arr:List Zv} (h:Zbl b g cap most last arr w) {j:Nat} (hx:arr[j]? =some x):Zb w g (j*3) (Yx x):=
 h.row.liesAt (by rw[Xe,hx];rfl)
def Zl8 (x y:Zv) (w:World):
  Calls Tryz.prog 271 #[.agg (Yx x).toArray, .agg (Yx y).toArray] w fun e w'=>e= .returned (.bool (Zb2 x y))∧Zg [] w w':=by
 obtain⟨i,a⟩:=Je ((w.alloc (.cells (Yx x).toArray 235)).alloc (.cells (Yx y).toArray 235))
 have d:Zg [] w i:=by rw[a];exact((Zg.refl [] w).alloc _).alloc _
 have j:i.heap[w.heap.size]? =some (.cells (Yx x).toArray 235 (0,0)):=by rw[a,Zz _ (by simp)];exact Za _
 have k:i.heap[w.heap.size+1]? =some (.cells (Yx y).toArray 235 (0,0)):=by
  rw[a];have:=Za (w:=w.alloc (.cells (Yx x).toArray 235)) (.cells (Yx y).toArray 235);simpa using this
 have C:=Jc 0 j
 have z:=Jc 1 j
 have s:=Jc 0 k
 have E:=Jc 1 k
 have q:=D a
 have o:(w.alloc (.cells #[.int .u64 (x.due:Int), .int .i64 x.id, .int .i64 x.tag] 235)).alloc (.cells #[.int .u64 (y.due:Int), .int .i64 y.id, .int .i64 y.tag] 235)=i:=q.symm
 have m:=D o
 have g:Zb2 x y=(decide (x.due<y.due)||(decide (x.due=y.due)&&decide (x.id<y.id))):=rfl
 clear a j k o;change Hid _ at d g
 show Calls _ _ #[.agg #[.int .u64 (x.due:Int), .int .i64 x.id, .int .i64 x.tag], .agg #[.int .u64 (y.due:Int), .int .i64 y.id, .int .i64 y.tag]] w _
 by_cases p:x.due<y.due
 ·have n:decide (x.due<y.due)=true:=decide_eq_true p
  have c:=D n
  go_in
  go_upto_region 1 with fail
  rw[m.out]
  go_wp2_with fail
  go_ret
  exact⟨by rw[g.out,c.out];rfl,d.out⟩
 ·have n:decide (x.due<y.due)=false:=decide_eq_false p
  have c:=D n
  by_cases h:x.due=y.due
  ·have b:decide (x.due=y.due)=true:=decide_eq_true h
   have r:((x.due:Int)==(y.due:Int))=true:=by simp[h]
   have l:=D b
   clear h b
   go_in
   go_upto_region 1 with fail
   rw[m.out]
   go_wp2_with fail
   go_ret
   exact⟨by rw[g.out,c.out,l.out];rfl,d.out⟩
  ·have b:decide (x.due=y.due)=false:=decide_eq_false h
   have r:((x.due:Int)==(y.due:Int))=false:=by simp;omega
   have l:=D b
   clear b
   go_in
   go_upto_region 1 with fail
   rw[m.out]
   go_wp2_with fail
   go_ret
   exact⟨by rw[g.out,c.out,l.out];rfl,d.out⟩
def Zhe (x y:Zv):∃a,a=Zb2 x y∧Hid (∀W,Calls Tryz.prog 271 #[.agg (Yx x).toArray, .agg (Yx y).toArray] W fun e w'=>e= .returned (.bool a)∧Zg [] W w'):=⟨_,rfl,D (Zl8 x y)⟩
def ZlO (arr:List Zv) (i p:Nat) (x y:Zv):((arr.map Yx).set i (Yx y)).set p (Yx x)=(Zdy arr i p x y).map Yx:=by
 unfold Zdy;simp[List.map_set]
def ZkW {b g cap:Nat} {most last:Int} {arr0:List Zv} (h:Zbl b g cap most last arr0 w) (hl:arr0.length≤1000000) (i:Nat) (hi:i<arr0.length) (hup:UpT arr0 i):
  Calls Tryz.prog 197 #[.pointer (some ⟨b,0,none⟩), .int .i64 i] w (Zfr fun w'=>∃arr',arr'.Perm arr0∧Zdl arr'∧Zbl b g cap most last arr' w'∧Zg [g] w w'):=by
 have H:=D h;have Y:=D hup
 have j:=D (show Zu Tryz.prog 235 3=true from ZfZ)
 have S:=D hi;have ad:=D hl
 clear h hup hi
 go_in
 go_wp2
 go_loopw[1] (fun s1 wr=>∃(ii:Nat) (arr:List Zv),s1= .int .i64 ii∧Hid (ii<arr.length∧arr.Perm arr0∧UpT arr ii∧Zbl b g cap most last arr wr∧Zg [g] w wr)) (fun s1 _=>(intOf s1).toNat)
 case atStart=>exact⟨i,arr0,rfl,D ⟨S,List.Perm.refl _,Y.out,H.out,Zg.refl _ _⟩⟩
 case round=>
  obtain⟨ii,arr,rfl,c⟩:=hrel
  have ab:arr.length≤1000000:=by have:=c.out.2.1.length_eq;omega
  by_cases P:ii=0
  ·subst P
   rw[show((0:Nat):Int)=0 from rfl]
   go_wp2_with fail
   (try simp only[Exit.inBlock,Exit.then])
   first|refine bodyPost_ret (results_none rfl _ _ _) rfl ?_|refine bodyPost_end (results_none rfl _ _ _) rfl ?_
   exact⟨_,rfl,arr,c.out.2.1,ZrC c.out.2.2.1,c.out.2.2.2.1,c.out.2.2.2.2⟩
  ·obtain⟨p,E⟩:=Je ((ii-1)/2)
   have aa:p<ii:=by omega
   have F:ii<arr.length:=c.out.1
   have Z:p<arr.length:=by omega
   have hq:((ii:Int)-1).tdiv 2=(p:Int):=by
    rw[show((ii:Int)-1)=((ii-1:Nat):Int)by omega,E];rfl
   obtain⟨x,hx⟩:∃x,arr[ii]? =some x:=⟨_,Xa F⟩
   obtain⟨y,M⟩:∃y,arr[p]? =some y:=⟨_,Xa (by omega)⟩
   have o:=D c.out.2.2.2.1;have n:=D hx;have m:=D M;have C:=D E
   have Q:=D F;have G:=D Z
   have ac:decide (0<(ii:Int))=true:=decide_eq_true (by omega)
   obtain⟨a,ha,V⟩:=Zhe x y
   have O:=D ha
   clear E hx M P ha
   go_upto_region 2 with fail
   refine Jr [0,4,8,12,16,20,24,28,32,36,40,44,48,52,58,60] (fun W=>W.cell? ⟨b,0,none⟩=some (.slice (some ⟨g,0,none⟩) arr.length cap)∧Zb W g (ii*3) (Yx x)∧Zb W g (p*3) (Yx y)) ⟨Zf (i:=0) o.blk rfl,o.at n.out,o.at m.out⟩ ?_
   repeat first|refine Jn ?_|refine Jf ?_|refine Ju ?_
   refine JO (cs:=[.int .u64 (x.due:Int), .int .i64 x.id, .int .i64 x.tag]) j.out (fun W e=>e.2.1) ?_
   repeat first|refine Jn ?_|refine Jf ?_|refine Ju ?_
   refine JO (cs:=[.int .u64 (y.due:Int), .int .i64 y.id, .int .i64 y.tag]) j.out (fun W e=>e.2.2) ?_
   repeat first|refine Jn ?_|refine Jf ?_|refine Ju ?_
   refine JL ?_
   go_wp2_with fail
   refine(V.out _).mono ?_
   rintro ea q ⟨rfl,I⟩
   have r:=D (show Zg [] wr q from((Zg.refl [] wr).drewN 1).trans I)
   clear I
   go_wp2_with fail
   refine⟨fun _=>True,trivial,?_⟩
   repeat first|refine Jn ?_|refine Jf ?_|refine Ju ?_
   refine ZK ?_
   have d:=D (o.upd r (by simp))
   cases a with
   |false=>
    go_wp2_with fail
    (try simp only[Exit.inBlock,Exit.then])
    first|refine bodyPost_ret (results_none rfl _ _ _) rfl ?_|refine bodyPost_end (results_none rfl _ _ _) rfl ?_
    exact⟨_,rfl,arr,c.out.2.1,Zrp c.out.2.2.1 n (by rw[←C.out];exact m) O.symm,d.out,c.out.2.2.2.2.trans r⟩
   |true=>
    go_upto_region 3 with fail
    refine Jr [0,4,8,12,16,20,24,28,32,39,40,44,48,52,56,60,64,68,72,76,80,84,88,92,96,102,104,110] (fun W=>W.cell? ⟨b,0,none⟩=some (.slice (some ⟨g,0,none⟩) arr.length cap)∧Zb W g (p*3) (Yx y)∧Zb W g (ii*3) (Yx x)) ⟨Zf (i:=0) d.blk rfl,d.at m.out,d.at n.out⟩ ?_
    repeat first|refine Jn ?_|refine Jf ?_|refine Ju ?_
    refine JO (cs:=[.int .u64 (y.due:Int), .int .i64 y.id, .int .i64 y.tag]) j.out (fun W e=>e.2.1) ?_
    repeat first|refine Jn ?_|refine Jf ?_|refine Ju ?_
    refine JO (cs:=[.int .u64 (x.due:Int), .int .i64 x.id, .int .i64 x.tag]) j.out (fun W e=>e.2.2) ?_
    repeat first|refine Jn ?_|refine Jf ?_|refine Ju ?_
    refine JL ?_
    simp only[Xu]
    refine Zah _ rfl 235 (.tmp 50) (.tmp 42) rfl (Yx y) ((Zc _ _ _ _).upd d.row ((Zg.refl [] q).drewN 1)) (by rw[Xb];exact Q) rfl rfl rfl j (ZbL _) ?_
    intro w4 J K
    have R:=D J;have T:=D K
    clear J K
    go_wp2_with fail
    refine⟨fun _=>True,trivial,?_⟩
    repeat first|refine Jn ?_|refine Jf ?_|refine Ju ?_
    refine JL ?_
    refine Zah _ rfl 235 (.tmp 51) (.tmp 49) rfl (Yx x) R (by rw[List.length_set,Xb];exact G) rfl rfl rfl j (ZbL _) ?_
    intro N z L
    have s:Zg [g] q N:=(((Zg.refl [g] q).drewN 1).trans T (fun k l=> .inr l)).trans L (fun k l=> .inr l)
    rw[ZlO]at z
    have X:=D (show Zbl b g cap most last (Zdy arr ii p x y) N from⟨by rw[Zbb];exact(Kv s d.blk (by simpa using d.ne)),by rw[Zbb];exact z,d.ne⟩)
    clear z L;change Hid _ at s
    go_wp2_with fail
    refine Jz ?_
    go_wp2_with fail
    go_roundw
    case rel=>exact⟨p,_,rfl,D ⟨by rw[Zbb];exact G,(Zfq n m (by omega)).trans c.out.2.1,by have:=Zrl c.out.2.2.1 (by omega) n (by rw[←C.out];exact m) O.symm;rw[←C.out]at this;exact this,X.out,(c.out.2.2.2.2.trans r).trans s (fun k l=> .inr l)⟩⟩
    case measure=>simp[intOf];omega
structure Zed (arr:List Zv) (i c k:Nat):Prop where
 form:k=i∨(0<k∧(k-1)/2=i)
 lt:k<arr.length
 own:∀x z,arr[i]? =some x→arr[k]? =some z→k≠i→Zb2 z x=true
 kids:∀d u z,0<d→(d-1)/2=i→d<c→arr[d]? =some u→arr[k]? =some z→leT z u
def Zed.start {arr:List Zv} {i:Nat} (h:i<arr.length):Zed arr i (2*i+1) i:=
 ⟨.inl rfl,h,fun _ _ _ _ h=>absurd rfl h,fun d u z h1 h2 h3=>by omega⟩
def Zed.next {arr:List Zv} (h:Zed arr i c k) (hc:2*i+1≤c∧c≤2*i+2) (hu:arr[c]? =some u) (hz:arr[k]? =some z) (ha:Zb2 u z=true):Zed arr i (c+1) c:=by
 refine⟨.inr ⟨by omega,by omega⟩,(Jk hu),fun x y hx a _=> ?_,fun d v y b f g hv a=> ?_⟩
 ·rw[hu]at a;cases a
  by_cases e:k=i
  ·subst e;rw[hx]at hz;cases hz;exact ha
  ·have b:=h.own x z hx hz e
   rw[Zex]at b ha⊢;omega
 ·rw[hu]at a;cases a
  by_cases e:d=c
  ·subst e;rw[hu]at hv;cases hv;exact Zgs _
  ·exact Zby (Zgx ha) (h.kids d v z b f (by omega) hv hz)
def Zed.keep {arr:List Zv} (h:Zed arr i c k) (hu:arr[c]? =some u) (hz:arr[k]? =some z) (ha:Zb2 u z=false):Zed arr i (c+1) k:=by
 refine⟨h.form,h.lt,h.own,fun d v y f b g hv a=> ?_⟩
 by_cases e:d=c
 ·subst e;rw[hu]at hv;cases hv;rw[hz]at a;cases a;exact ZfS.1 ha
 ·exact h.kids d v y f b (by omega) hv a
def Zed.done {arr:List Zv} (h:Zed arr i c k) (hc:2*i+3≤c∨arr.length≤c) (hz:arr[k]? =some z):∀d u,0<d→(d-1)/2=i→arr[d]? =some u→leT z u:=fun d u h1 h2 hu=>
 h.kids d u z h1 h2 (by have:=(Jk hu);omega) hu hz
def Zf3 {P:Prop}(h:P:=by
 have m:=D y
 clear y
 by_cases r:kk=ii
 ·
  have V:((kk:Int)==(ii:Int))=true:=by simp[r]
  have q:=D r
  clear r
  go_wp2_with fail
  (try simp only[Exit.inBlock,Exit.then])
  first|refine bodyPost_ret (results_none rfl _ _ _) rfl ?_|refine bodyPost_end (results_none rfl _ _ _) rfl ?_
  exact⟨_,rfl,arr,j.out.2.1,ZrL j.out.2.2.1 (by rw[←q.out];exact m) (by rw[←q.out];exact fun d u h1 Z Y=>O.out d u h1 (by rw[Z,q.out]) Y),C.out,j.out.2.2.2.2.trans e.out.2.2.2⟩
 ·
  have V:((kk:Int)==(ii:Int))=false:=by simp;omega
  have G:0<kk∧(kk-1)/2=ii:=by
   rcases e.out.2.2.1.form with h|h
   ·
    exact absurd h r
   ·
    exact h
  obtain⟨x,hx⟩:∃x,arr[ii]? =some x:=⟨_,Xa I⟩
  have n:=D hx;have P:=D G;have q:=D r
  have R:=D I;have J:=D N;have l:=C
  have ae:ii<kk:=by omega
  clear hx G
  go_upto_region 7 with fail
  refine Jr [0,4,8,12,16,20,24,28,32,39,40,44,48,52,56,60,64,68,72,76,80,84,88,92,96,102,104,110] (fun W=>W.cell? ⟨b,0,none⟩=some (.slice (some ⟨g,0,none⟩) arr.length cap)∧Zb W g (kk*3) (Yx z)∧Zb W g (ii*3) (Yx x)) ⟨Zf (i:=0) l.blk rfl,l.at m.out,l.at n.out⟩ ?_
  repeat first|refine Jn ?_|refine Jf ?_|refine Ju ?_
  refine JO (cs:=[.int .u64 (z.due:Int), .int .i64 z.id, .int .i64 z.tag]) s.out (fun W p=>p.2.1) ?_
  repeat first|refine Jn ?_|refine Jf ?_|refine Ju ?_
  refine JO (cs:=[.int .u64 (x.due:Int), .int .i64 x.id, .int .i64 x.tag]) s.out (fun W p=>p.2.2) ?_
  repeat first|refine Jn ?_|refine Jf ?_|refine Ju ?_
  refine JL ?_
  simp only[Xu]
  refine Zah _ rfl 235 (.tmp 69) (.tmp 61) rfl (Yx z) ((Zc _ _ _ _).upd l.row ((Zg.refl [] wr).drewN 1)) (by rw[Xb];exact R) rfl rfl rfl s (ZbL _) ?_
  intro w4 K L
  have S:=D K;have T:=D L
  clear K L
  go_wp2_with fail
  refine⟨fun _=>True,trivial,?_⟩
  repeat first|refine Jn ?_|refine Jf ?_|refine Ju ?_
  refine JL ?_
  refine Zah _ rfl 235 (.tmp 70) (.tmp 68) rfl (Yx x) S (by rw[List.length_set,Xb];exact J) rfl rfl rfl s (ZbL _) ?_
  intro Q F M
  have E:Zg [g] wr Q:=(((Zg.refl [g] wr).drewN 1).trans T (fun k o=> .inr o)).trans M (fun k o=> .inr o)
  rw[ZlO]at F
  have X:=D (show Zbl b g cap most last (Zdy arr ii kk x z) Q from⟨by rw[Zbb];exact(Kv E l.blk (by simpa using l.ne)),by rw[Zbb];exact F,l.ne⟩)
  clear F M;change Hid _ at E
  go_wp2_with fail
  refine Jz ?_
  go_wp2_with fail
  go_roundw
  case rel=>exact⟨kk,_,rfl,D ⟨by rw[Zbb];exact J,(Zfq n m (by omega)).trans j.out.2.1,Zrj j.out.2.2.1 P.out.1 P.out.2 n m (e.out.2.2.1.own x z n m q) O,X.out,(j.out.2.2.2.2.trans e.out.2.2.2).trans E (fun k o=> .inr o)⟩⟩
  case measure=>
   have:=j.out.2.1.length_eq
   simp[intOf];omega):P:=h
def ZmC {b g cap:Nat} {most last:Int} {arr0:List Zv} (h:Zbl b g cap most last arr0 w) (hl:arr0.length≤1000000) (i:Nat) (hi:i<arr0.length) (hdn:DnT arr0 i i):
  Calls Tryz.prog 211 #[.pointer (some ⟨b,0,none⟩), .int .i64 i] w (Zfr fun w'=>∃arr',arr'.Perm arr0∧UpT arr' i∧Zbl b g cap most last arr' w'∧Zg [g] w w'):=by
 have H:=D h;have aj:=D hdn
 have s:=D (show Zu Tryz.prog 235 3=true from ZfZ)
 have ai:=D hi;have ao:=D hl
 clear h hdn hi
 go_in
 go_wp2
 go_loopw[1] (fun s1 wr=>∃(ii:Nat) (arr:List Zv),s1= .int .i64 ii∧Hid (ii<arr.length∧arr.Perm arr0∧DnT arr ii i∧Zbl b g cap most last arr wr∧Zg [g] w wr)) (fun s1 _=>arr0.length-(intOf s1).toNat)
 case atStart=>exact⟨i,arr0,rfl,D ⟨ai,List.Perm.refl _,aj.out,H.out,Zg.refl _ _⟩⟩
 case round=>
  obtain⟨ii,arr,rfl,j⟩:=hrel
  have am:arr.length≤1000000:=by have:=j.out.2.1.length_eq;omega
  have I:ii<arr.length:=j.out.1
  go_wp2
  go_loopw[4,5] (fun s4 s5 wq=>∃kk c:Nat,s4= .int .i64 kk∧s5= .int .i64 c∧Hid (2*ii+1≤c∧c≤2*ii+3∧Zed arr ii c kk∧Zg [] wr wq)) (fun _ s5 _=>2*ii+3-(intOf s5).toNat)
  case atStart=>exact⟨ii,2*ii+1,rfl,by go_num,D ⟨by omega,by omega,Zed.start I,Zg.refl _ _⟩⟩
  case round=>
   obtain⟨kk,c,rfl,rfl,e⟩:=hrel
   have N:kk<arr.length:=e.out.2.2.1.lt
   have ac:2*ii+1≤c:=e.out.1
   have an:c≤2*ii+3:=e.out.2.1
   have C:=D (j.out.2.2.2.1.upd e.out.2.2.2 (by simp))
   have al:=Jc 0 C.blk
   by_cases ah:c≤2*ii+2
   ·have af:decide ((c:Int)≤2*(ii:Int)+2)=true:=decide_eq_true (by omega)
    by_cases ad:c<arr.length
    ·have ag:decide ((c:Int)<(arr.length:Int))=true:=decide_eq_true (by omega)
     obtain⟨u,hu⟩:∃u,arr[c]? =some u:=⟨_,Xa ad⟩
     obtain⟨z,y⟩:∃z,arr[kk]? =some z:=⟨_,Xa N⟩
     obtain⟨a,ha,ak⟩:=Zhe u z
     have n:=D hu;have m:=D y;have HA:=D ha
     clear hu y ha
     go_upto_region 4 with fail
     refine Jr [0,4,8,12,16,20,24,28,32,36,40,44,48,52,58] (fun W=>W.cell? ⟨b,0,none⟩=some (.slice (some ⟨g,0,none⟩) arr.length cap)∧Zb W g (c*3) (Yx u)∧Zb W g (kk*3) (Yx z)) ⟨Zf (i:=0) C.blk rfl,C.at n.out,C.at m.out⟩ ?_
     repeat first|refine Jn ?_|refine Jf ?_|refine Ju ?_
     refine JO (cs:=[.int .u64 (u.due:Int), .int .i64 u.id, .int .i64 u.tag]) s.out (fun W p=>p.2.1) ?_
     repeat first|refine Jn ?_|refine Jf ?_|refine Ju ?_
     refine JO (cs:=[.int .u64 (z.due:Int), .int .i64 z.id, .int .i64 z.tag]) s.out (fun W p=>p.2.2) ?_
     repeat first|refine Jn ?_|refine Jf ?_|refine Ju ?_
     refine JL ?_
     go_wp2_with fail
     refine(ak.out _).mono ?_
     rintro ea wa ⟨rfl,ab⟩
     have aa:=D (show Zg [] wr wa from((Zg.refl [] wr).drewN 1).trans ab)
     clear ab
     go_wp2_with fail
     refine Jz ?_
     cases a with
     |true=>
      go_wp2_with fail
      go_roundw
      case rel=>exact⟨c,c+1,rfl,by go_num,D ⟨by omega,by omega,e.out.2.2.1.next ⟨ac,ah⟩ n m HA.symm,e.out.2.2.2.trans aa⟩⟩
      case measure=>simp[intOf];omega
     |false=>
      go_wp2_with fail
      go_roundw
      case rel=>exact⟨kk,c+1,rfl,by go_num,D ⟨by omega,by omega,e.out.2.2.1.keep n m HA.symm,e.out.2.2.2.trans aa⟩⟩
      case measure=>simp[intOf];omega
    ·have ag:decide ((c:Int)<(arr.length:Int))=false:=decide_eq_false (by omega)
     obtain⟨z,y⟩:∃z,arr[kk]? =some z:=⟨_,Xa N⟩
     have O:=D (e.out.2.2.1.done (.inr (by omega)) y)
     exact Zf3
   ·have af:decide ((c:Int)≤2*(ii:Int)+2)=false:=decide_eq_false (by omega)
    obtain⟨z,y⟩:∃z,arr[kk]? =some z:=⟨_,Xa N⟩
    have O:=D (e.out.2.2.1.done (.inl (by omega)) y)
    exact Zf3
end Go.Proofs.YtlhapbopmplngaaGreatDoor
