import Derived.Test.YtlhapbopmplngaaGreatDoorS33
set_option linter.all false
set_option maxHeartbeats 16000000
set_option maxRecDepth 100000
set_option autoImplicit true
set_option relaxedAutoImplicit true
namespace Go.Proofs.YtlhapbopmplngaaGreatDoor
open Go.RowKit Go.Lk
def Zab (u:Value) (g:ZT):List Value:=[u, .bool g.torn]
def Yw (b:Nat) (gl:List (Value×ZT)):YD:=Zbc b (fun v=> #[v]) 193 201 2 Zab (·.members) gl
def ZcV (b:Nat) (l:List ZT):YD:=Zil b (fun v=> #[v]) 193 201 2 Zab (·.members) l
def Zge (b:Nat) (gl:List (Value×ZT)):(Yw b gl).Local:=Zb7 _ _ _ _ _ _ _ _
def Yl (b:Nat) (l:List ZT):(ZcV b l).Local:=ZdN _ _ _ _ _ _ _ _
def Zno {u:Value} (hu:u.oneCell'=true) (s:ZT):∀v∈Zab u s,v.oneCell'=true:=by
 intro v hv;unfold Zab at hv
 simp only[List.mem_cons,List.not_mem_nil,or_false]at hv
 rcases hv with rfl|rfl<;>first|exact hu|rfl
def Yw.one {gl:List (Value×ZT)} (h:Yw b gl w F):∀p∈gl,p.1.oneCell'=true:=fun p hp=>by
 obtain⟨i,hi⟩:=List.getElem?_of_mem hp
 obtain⟨M,hm,_⟩:=Zci h hi
 obtain⟨A,c,e,_⟩:=hm.ints
 rw[e];rfl
def Yw.row {gl:List (Value×ZT)} (h:Yw b gl w F):
  ∃A c G,b∉G∧w.heap[b]? =some (.cells #[.slice A gl.length c] 193 (0,0))∧Zk 201 2 (.slice A gl.length c) (gl.map fun p=>Zab p.1 p.2) w G∧(∀q∈b::G,q∈F)∧gl.length≤c:=by
 obtain⟨i,ho,g,_⟩:=Zgn h
 obtain⟨v,G,rfl,f,d,a⟩:=ho
 obtain⟨A,c,rfl,e⟩:=a.form'
 rw[Xb]at d a e
 exact⟨A,c,G,f,d,a,g,e⟩
def Zem (n:Nat) (g:Int):Bool:=decide (1≤g)&&decide (g≤n)
def Zgw {gl:List (Value×ZT)} (h:Yw b gl w F) (hl:gl.length≤1000000) (g:Int):
  Calls Tryz.prog 116 #[.pointer (some ⟨b,0,none⟩), .int .i64 g] w fun e w'=>e= .returned (.bool (Zem gl.length g))∧w'=w:=by
 obtain⟨A,c,G,j,i,k,_⟩:=Yw.row h
 have l:=Jc 0 i
 unfold Zem
 clear i k j h
 by_cases a:1≤g
 ·by_cases d:g≤gl.length
  ·rw[decide_eq_true a,decide_eq_true d]
   go_in
   go_wp2
   go_ret
   exact⟨rfl,rfl⟩
  ·rw[decide_eq_true a,decide_eq_false d]
   go_in
   go_wp2
   go_ret
   exact⟨rfl,rfl⟩
 ·rw[decide_eq_false a]
  go_in
  go_wp2
  go_ret
  exact⟨rfl,rfl⟩
def ZpP (u:Value) (x:ZT) (box:Nat) (id:Int) (W:World) (hm:Z6 u x.members W M) (hl:x.members.length≤1000000) (hc:W.cell? ⟨box,0,none⟩=some (.int .i64 id)):
  Calls Tryz.prog 192 #[.agg (Zab u x).toArray, .pointer (some ⟨box,0,none⟩)] W fun e w'=>e= .returned (.bool (x.members.contains id))∧Zg [] W w':=by
 have j:=Zay hc
 have n:box≠W.heap.size:=by omega
 obtain⟨A,c,rfl,m,g⟩:=hm.ints
 obtain⟨i,d,a,hv⟩:=Kc W (.cells (Zab (.slice A x.members.length c) x).toArray 201)
 have o:=Jc 0 hv
 have q:i.cell? ⟨box,0,none⟩=some (.int .i64 id):=(Xp (a.block box j (by simp))).trans hc
 have b:=ZfL A c x.members id (g.upd a) hl
 obtain⟨r,h⟩:=Je (x.members.contains id)
 rw[←h]at b⊢
 have l:=D b
 clear b h
 have k:=D (show W.alloc (.cells #[.slice A x.members.length c, .bool x.torn] 201)=i from d.symm)
 clear d hv hm g hc;change Hid _ at a
 show Calls _ _ #[.agg #[.slice A x.members.length c, .bool x.torn], .pointer (some ⟨box,0,none⟩)] W _
 go_in
 go_upto_region 1 with fail
 rw[k.out]
 go_wp2_with fail
 refine l.out.mono ?_
 rintro e p ⟨rfl,rfl⟩
 go_wp2_with fail
 go_ret
 exact⟨rfl,a.out⟩
def Zl9 {α:Type} (p:α→Bool) (l:List α): -1≤Y5 p l∧Y5 p l<l.length:=by
 unfold Y5
 split
 ·rename_i i a
  have:=Yv a
  omega
 ·omega
def Zig {gl:List (Value×ZT)} (h:Yw b gl w F) (hll:gl.length≤1000000) (hl:∀p∈gl,p.2.members.length≤1000000) (id:Int):
  Calls Tryz.prog 117 #[.pointer (some ⟨b,0,none⟩), .int .i64 id] w fun e w'=>e= .returned (.int .i64 (1+Y5 (fun p=>p.2.members.contains id) gl))∧Zg [] w w':=by
 obtain⟨A,c,G,z,o,m,_⟩:=Yw.row h
 obtain⟨N,n,a,g⟩:=Kc w (.cells #[.int .i64 id] 3)
 have K:=Jc 0 ((Kv a o))
 have d:=ZmH (fun p:Value×ZT=>Zab p.1 p.2) (fun p=>p.2.members.contains id) 192 #[.pointer (some ⟨w.heap.size,0,none⟩)] ((Zc _ _ _ _).upd m a) (enters_of Tryz.func192 (by kernel_rfl) rfl) (fun W x hx q=>by
  obtain⟨i,C⟩:=List.getElem?_of_mem hx
  obtain⟨M,H,_⟩:=Zci h C
  exact ZpP x.1 x.2 w.heap.size id W ((ZJ _ _).upd H (a.trans q)) (hl x hx) (Zf (i:=0) ((Kv q g)) rfl))
 have j:=Zl9 (fun p:Value×ZT=>p.2.members.contains id) gl
 obtain⟨r,l⟩:=Je (Y5 (fun p:Value×ZT=>p.2.members.contains id) gl)
 rw[←l]at d j⊢
 obtain⟨J,y⟩:=j
 have I:r≤1000000:=by omega
 have E:=D d
 clear d g o m z h l hl y;change Hid _ at n a
 go_in
 go_upto_region 1 with fail
 rw[←n.out]
 go_wp2_with fail
 refine E.out.mono ?_
 rintro e L ⟨rfl,k⟩
 have s:=Jt a k
 clear k
 go_wp2_with fail
 go_ret
 exact⟨rfl,s.out⟩
def Zm6 {gl:List (Value×ZT)} (h:Yw b gl w F) (hl:gl.length≤1000000) (g:Int):
  Calls Tryz.prog 101 #[.pointer (some ⟨b,0,none⟩), .int .i64 g] w fun e w'=>e= .returned (.bool (Zem gl.length g&& !((gl[(g-1).toNat]?.map (·.2.torn)).getD false)))∧w'=w:=by
 have q:=Zgw h hl g
 obtain⟨A,c,G,s,r,j,_⟩:=Yw.row h
 have C:=Jc 0 r
 cases hh:Zem gl.length g with
 |false=>
  rw[hh]at q
  have o:=D q
  clear q r j s h hh C
  go_in
  go_wp2_with fail
  refine o.out.mono ?_
  rintro e n ⟨rfl,d⟩
  rw[d];clear d n
  go_wp2_with fail
  go_ret
  exact⟨rfl,rfl⟩
 |true=>
  rw[hh]at q
  obtain⟨i,z⟩:1≤g∧g≤gl.length:=by unfold Zem at hh;simpa using hh
  obtain⟨k,E⟩:∃k:Nat,g=(k:Int)+1:=⟨(g-1).toNat,by omega⟩
  subst E
  have l:k<gl.length:=by omega
  obtain⟨p,m⟩:∃p,gl[k]? =some p:=⟨_,Xa l⟩
  have x:((k:Int)+1-1).toNat=k:=by omega
  rw[x,m]
  obtain⟨a,rfl⟩:∃g,A=some ⟨g,0,none⟩:=by
   rcases j.form with⟨_,y,_⟩|⟨g,I,_,i,_⟩
   ·rw[List.map_eq_nil_iff]at y;rw[y]at l;simp at l
   ·injection i with i;exact⟨g,i⟩
  have H:w.cell? ⟨a,k*2+1,none⟩=some (.bool p.2.torn):=(j.liesAt (show(gl.map fun p=>Zab p.1 p.2)[k]? =some (Zab p.1 p.2)by rw[Xe,m];rfl)) 1 _ rfl
  obtain⟨t,ht⟩:=Je p.2.torn
  simp only[Option.map_some,Option.getD_some]
  rw[←ht]at H⊢
  have o:=D q
  clear q r j s h hh m ht x i z
  go_in
  go_wp2_with fail
  refine o.out.mono ?_
  rintro e n ⟨rfl,d⟩
  rw[d];clear d n
  go_wp2_with fail
  go_ret
  exact⟨by simp,rfl⟩
def Yw.addr {b g0:Nat} {gl:List (Value×ZT)} (hr:Zk 201 2 (.slice A gl.length c) (gl.map fun p=>Zab p.1 p.2) w G) (hl:g0<gl.length):∃g,A=some ⟨g,0,none⟩:=by
 rcases hr.form with⟨_,d,_⟩|⟨g,e,_,a,_⟩
 ·rw[List.map_eq_nil_iff]at d;rw[d]at hl;simp at hl
 ·injection a with a;exact⟨g,a⟩
def Zjf {gl:List (Value×ZT)} (h:Yw b gl w F) (hl:gl.length≤1000000) {k:Nat} {p:Value×ZT} (hp:gl[k]? =some p) (hpl:p.2.members.length≤1000000):
  Calls Tryz.prog 63 #[.pointer (some ⟨b,0,none⟩), .int .i64 (k+1)] w (Zgm w p.2.members):=by
 have I:k<gl.length:=(Jk hp)
 have q:=Zgw h hl (k+1)
 have s:Zem gl.length (k+1)=true:=by unfold Zem;rw[decide_eq_true (by omega),decide_eq_true (by omega)];rfl
 rw[s]at q
 have O:=D q
 obtain⟨M,i,_⟩:=Zci h hp
 obtain⟨A,c,G,L,C,d,_⟩:=Yw.row h
 obtain⟨r,y,a,_⟩:=i.ints
 obtain⟨g,rfl⟩:=Yw.addr (b:=b) d I
 have x:=D i
 obtain⟨z,l⟩:=Je p.2.members.length
 rw[←l]at a
 rw[a]at x
 have Q:=Jc 0 C
 have T:w.cell? ⟨g,k*2,none⟩=some (.slice r z y):=by
  rw[←a];exact(d.liesAt (show(gl.map fun p=>Zab p.1 p.2)[k]? =some (Zab p.1 p.2)by rw[Xe,hp];rfl)) 0 _ rfl
 have E:=D hpl
 clear h i C d a l L hpl q s hp
 go_in
 go_wp2_with fail
 refine O.out.mono ?_
 rintro e N ⟨rfl,m⟩
 rw[m];clear m N
 go_wp2_with(refine Zg9 w rfl (.const (.slice none 0 0)) (.tmp 17) 37 rfl 3 Tryz.underlying37 Zdw rfl (by omega) rfl (.slice r z y) (p.2.members.map Zcl) M rfl x (ZkO _) (by rw[Xb];have:=E.out;omega) ?_;intro R S P j o n;have K:=D j;have J:=D o;have H:=D n;clear j o n)
 go_ret
 exact⟨_,P,rfl,K.out,H.out,J.out⟩
def ZhB {gl:List (Value×ZT)} (h:Yw b gl w F) (hl:gl.length≤1000000) (hf:64≤gl.length):
  Calls Tryz.prog 50 #[.pointer (some ⟨b,0,none⟩)] w fun e w'=>e= .returned (.tuple #[.int .i64 0, .int .i64 10])∧w'=w:=by
 obtain⟨A,c,G,d,a,g,_⟩:=Yw.row h
 have i:=Jc 0 a
 have j:(64:Int)≤(gl.length:Int):=by omega
 clear h a g d hf
 go_in
 go_wp2_with fail
 go_ret2
 exact⟨rfl,rfl⟩
def Zmg {gl:List (Value×ZT)} (h:Yw b gl w F) (hf:gl.length<64):
  Calls Tryz.prog 50 #[.pointer (some ⟨b,0,none⟩)] w fun e w'=>e= .returned (.tuple #[.int .i64 (gl.length+1), .int .i64 0])∧∃F',Yw b (gl++[(.slice none 0 0,⟨[],false⟩)]) w' F'∧Zi w w' F F':=by
 obtain⟨G0,ho,L,C⟩:=Zl4 h
 obtain⟨v,G,rfl,J,g,l⟩:=ho
 obtain⟨A,c,rfl,hc⟩:=l.form'
 rw[Xb]at g l hc
 have c0:=Jc 0 g
 obtain⟨N,y,d⟩:=Kb w (.cells #[.slice none 0 0, .bool false] 201)
 have S:=D (show Zb N w.heap.size 0 (Zab (.slice none 0 0) ⟨[],false⟩)by rw[y];exact Zb.of_block (Za _))
 have ab:=D ((Kv d g))
 have W:=D ((Zc _ _ _ _).upd l d)
 have Y:=D (Jg g)
 have hz:¬((64:Int)≤(gl.length:Int)):=by omega
 have hl:gl.length≤999999:=by omega
 have H:=D J;have ac:=D L;have HN:=D C
 clear h g l J L hf C;change Hid _ at y d
 go_in
 go_upto_region 6 with(rw[←y.out];(refine Zm N rfl (.tmp 16) (.tmp 18) 191 rfl 201 Tryz.underlying191 Zlv rfl (by omega) (by omega) _ (gl.map fun(p:Value×ZT)=>Zab p.1 p.2) G rfl W w.heap.size 1 (Zab (.slice none 0 0) ⟨[],false⟩) rfl S rfl (Zno rfl _) (by rw[Xb];omega) ?_);intro v' O m o s I;obtain⟨K,M,R,-⟩:=o.form';rw[Xd,Xb,List.length_singleton]at R;subst R;have q:=D ((Kv s ab H));have aa:=D o;have V:=D s;have T:=D I;have c7:=Jc 0 q.out;have f7:=Kf 0 q.out;clear o s I c0)
 obtain⟨Q,j⟩:=Je (O.setCell ⟨b,0,none⟩ (.slice K (gl.length+1) M))
 have r:Q.heap[b]? =some (.cells #[.slice K (gl.length+1) M] 193 (0,0)):=by rw[j];exact Zd (i:=0) q _
 have n:=Kd j
 have c8:=Jc 0 r
 rw[←j]
 clear j c7 f7;change Hid _ at r n
 go_wp2_with fail
 go_ret2
 have Z:Zg (b::G) w O:=(d.weaken (by simp)).trans V (fun k a=> .inr (by simp[a]))
 have P:∀x∈m,x∈G∨w.heap.size≤x:=fun x hx=>(T.out x hx).imp id (fun h=>Xj d.size h)
 have E:b∉m:=fun z=>by
  rcases P b z with h|h
  ·exact H h
  ·have:=Y.out;omega
 have X:=(Zc _ _ _ _).upd aa n (fun k a z=>by rw[Jm z]at a;exact E a)
 obtain⟨F2,t1,t2⟩:=HN.out Q (.slice none 0 0,⟨[],false⟩) [] (b::m) (ZA _ _ _) (by simp) (fun _ _ h=>by cases h) ⟨_,m,rfl,E,r.out,by rw[Xs];exact X⟩
  ⟨Z.trans n (fun k a=> .inr (by simp at a;simp[a])),fun x hx=>by
   rcases List.mem_cons.1 hx with rfl|hx
   ·exact .inl (by simp)
   ·exact(P x hx).imp (fun h=>by simp[h]) id⟩
 exact⟨rfl,F2,t1,t2⟩
end Go.Proofs.YtlhapbopmplngaaGreatDoor
namespace Go.Lk
open Go Go.RowKit
def ZqU {g n cap:Nat} {xs:List (List Value)} {w W2:World} (h:Zk e 1 (.slice (some ⟨g,0,none⟩) n cap) xs w F) (q:Nat) (vs:List Value) (m:Nat) (hv:vs.length≤n) (hm:m≤vs.length)
  (hW:W2=(w.drewN q).setCells g 0 vs):Zk e 1 (.slice (some ⟨g,0,none⟩) m cap) ((vs.take m).map fun u=>[u]) W2 F∧Zg F w W2:=by
 obtain⟨j,o,rfl,p,s,k,i,ht⟩:=h.block
 subst o
 have b:((vs.take m).map fun u=>[u]).length=m:=by rw[Xb,List.length_take];omega
 have d:((vs.take m).map fun u=>[u]).flatten=vs.take m:=by
  generalize vs.take m=l
  induction l with
  |nil=>rfl
  |cons a l ih=>rw[List.map_cons,List.flatten_cons,ih];rfl
 have f:=ZaH vs 0 (w.drewN q) j p (by rw[i];omega)
 rw[←hW]at f
 refine⟨⟨rfl,fun c r=> ?_,?_, .inr ⟨g,cap,_,by rw[b],Xn _,f,by rw[b];omega,k,?_,?_⟩⟩,?_⟩
 ·obtain⟨u,_,rfl⟩:=List.mem_map.1 r;rfl
 ·rw[d,b,List.length_take];omega
 ·rw[List.size_toArray,Zbz _ _ _ (by simp;omega)];simpa using i
 ·rw[List.toList_toArray,b,d,Nat.mul_one]
  unfold Zax
  simp only[List.take_zero,List.nil_append,Nat.zero_add]
  rw[List.take_append_of_le_length hm]
 ·rw[hW];exact((Zg.refl [g] w).drewN q).setCells (.inr (by simp)) _ _
def Zj4 {l:List Int} (h:l.Pairwise (·<·)) {x:Int} (hx:x∈l):l.take (l.countP (·<x))++l.drop (l.countP (·<x)+1)=l.erase x∧l.countP (·<x)<l.length:=by
 induction l with
 |nil=>cases hx
 |cons a l ih=>
  obtain⟨b,e⟩:=List.pairwise_cons.1 h
  rcases List.mem_cons.1 hx with rfl|hx
  ·have f:l.countP (·<x)=0:=by
    rw[List.countP_eq_zero]
    intro y d
    have:=b y d
    simp;omega
   rw[List.countP_cons_of_neg (by simp),f]
   simp
  ·have c:=b x hx
   obtain⟨g,i⟩:=ih e hx
   rw[List.countP_cons_of_pos (by simpa using c),List.take_succ_cons,List.drop_succ_cons,List.cons_append,g,List.erase_cons_tail (by simp;omega)]
   exact⟨rfl,by simp;omega⟩
end Go.Lk
namespace Go.Proofs.YtlhapbopmplngaaGreatDoor
open Go.RowKit Go.Lk
def Z6.getD {g n c:Nat} (h:Z6 (.slice (some ⟨g,0,none⟩) n c) l w M):∀j,j<l.length→w.cell? ⟨g,0+j,none⟩=some (.int .i64 (l.getD j 0)):=fun j hj=>by
 obtain⟨A,c',e1,_,hi⟩:=h.ints
 obtain⟨ab,ao,e2,hc⟩:=hi j l[j] (by simp[hj])
 injection e1 with e1 _ _
 rw[←e1]at e2;injection e2 with e2;injection e2 with e2 e3 _
 subst e2 e3
 rw[hc];simp[hj]
def Zg8 {g c:Nat} {l:List Int} (h:Z6 (.slice (some ⟨g,0,none⟩) l.length c) l w M) (hl:l.length≤1000000) (hs:l.Pairwise (·<·)) (x:Int):
  Calls Tryz.prog 118 #[.slice (some ⟨g,0,none⟩) l.length c, .int .i64 x] w fun e w'=>e= .returned (.tuple #[.int .i64 (l.countP (·<x):Nat), .bool (l.contains x)])∧Zg [] w w':=by
 have q:= Tryz.slices_BinarySearch_int g 0 l.length c l x w (Xi _) (by omega) h.getD (by rw[Xm];exact hs.imp (fun h=>by omega))
 rw[Xm]at q
 refine q.mono ?_
 rintro e w' ⟨a,n,rfl⟩
 exact⟨a,(Zg.refl [] w).drewN n⟩
def Zla {g c i:Nat} {l:List Int} (h:Z6 (.slice (some ⟨g,0,none⟩) l.length c) l w M) (hi:i<l.length):
  Calls Tryz.prog 202 #[.slice (some ⟨g,0,none⟩) l.length c, .int .i64 i, .int .i64 (i+1)] w fun e w'=>e= .returned (.slice (some ⟨g,0,none⟩) (l.length-1) c)∧Z6 (.slice (some ⟨g,0,none⟩) (l.length-1) c) (l.take i++l.drop (i+1)) w' M∧Zg M w w':=by
 obtain⟨s,_,_,m,d,p,t,ht⟩:=h.block
 rw[Xb]at d
 have q:= Tryz.slices_Delete_int_cells g 0 l.length c i (i+1) l w (Xi _) d (by unfold maxLen at p;omega) (by omega) (by omega) h.getD (fun j x=>ZS m)
 rw[Xm,show l.length-(i+1-i)=l.length-1 by omega,show i+1-i=1 by omega,show((i+1:Nat):Int)=(i:Int)+1 by omega]at q
 refine q.mono ?_
 rintro e w' ⟨o,n,r⟩
 have a:(l.take i++l.drop (i+1)).length=l.length-1:=by rw[Xd,List.length_take,List.length_drop];omega
 obtain⟨b,k⟩:=ZqU h n ((l.take i++l.drop (i+1)++List.replicate 1 0).map (Value.int .i64)) (l.length-1) (by rw[Xb,Xd,a];simp;omega) (by rw[Xb,Xd,a];simp) r
 refine⟨o,?_,k⟩
 unfold Z6
 rw[←List.map_take,List.take_append_of_le_length (by omega),List.take_of_length_le (by omega),List.map_map]at b
 exact b
def Zly {l:List Int} (h:Z6 (.slice A l.length c) l w M) (hl:l.length≤1000000) (x:Int) (B cb:Nat) (hx:w.cell? ⟨B,0,none⟩=some (.int .i64 x)):
  Calls Tryz.prog 119 #[.slice A l.length c, .int .i64 l.length, .slice (some ⟨B,0,none⟩) 1 cb] w fun e w'=>∃v':Value,e= .returned v'∧∃M':List Nat,Z6 v' (l++[x]) w' M'∧Zg M w w'∧∀k∈M',k∈M∨w.heap.size≤k:=by
 have p:l.length≤c:=by obtain⟨C,E,y,G,_⟩:=h.ints;injection y with _ _ I;omega
 have H:=D h
 have s:=D (show Zb w B 0 [Value.int .i64 x]from fun j u b=>by
  cases j with
  |zero=>simp at b;subst b;exact hx
  |succ j=>simp at b)
 obtain⟨n,a⟩:=Je l.length
 rw[←a]at H hl p⊢
 clear h hx;change Hid _ at a
 go_in
 go_upto_region 7 with fail
 go_wp2_with(refine Zm w rfl (.tmp 23) (.tmp 24) 37 rfl 3 Tryz.underlying37 Zdw rfl (by omega) (by omega) _ (l.map Zcl) M rfl H B cb [Value.int .i64 x] rfl s rfl (by intro u m;simp at m;subst m;rfl) (by rw[Xb];have:=a.out;omega) ?_;intro v' F z d i g;have q:=D d;have o:=D i;have r:=D g;clear d i g)
 all_goals
  go_ret
  exact⟨_,rfl,z,by unfold Z6;rw[Xs];exact q,o.out,r.out⟩
def Z6.addr (h:Z6 (.slice A n c) l w M) (hl:l≠[]):∃g,A=some ⟨g,0,none⟩∧n=l.length∧M=[g]:=by
 rcases h.form with⟨_,b,_⟩|⟨g,f,_,a,d,_⟩
 ·rw[List.map_eq_nil_iff]at b;exact absurd b hl
 ·injection a with a e i;exact⟨g,a,by rw[e,Xb],d⟩
def ZgG {gl:List (Value×ZT)} (h:Yw b gl w F) (hll:gl.length≤1000000) (hl:∀p∈gl,p.2.members.length≤1000000) (id:Int) (hq:gl.findIdx? (fun p=>p.2.members.contains id)=none):
  Calls Tryz.prog 130 #[.pointer (some ⟨b,0,none⟩), .int .i64 id] w fun e w'=>e= .returned (.tuple #[.int .i64 0, .bool false])∧Zg [] w w':=by
 have q:=Zig h hll hl id
 rw[Yi hq,show(1:Int)+ -1=0 by omega]at q
 have c:=D q
 clear q hq h hl
 go_in
 go_wp2_with fail
 refine c.out.mono ?_
 rintro e g ⟨rfl,a⟩
 have d:=D a;clear a
 go_wp2_with fail
 go_ret2
 exact⟨rfl,d.out⟩
def Zgy {gl:List (Value×ZT)} (h:Yw b gl w F) (hll:gl.length≤1000000) (hl:∀p∈gl,p.2.members.length≤1000000) (id:Int) {p:Value×ZT} (hs:p.2.members.Pairwise (·<·)) (hq:gl.findIdx? (fun p=>p.2.members.contains id)=some k) (hp:gl[k]? =some p):
  Calls Tryz.prog 130 #[.pointer (some ⟨b,0,none⟩), .int .i64 id] w fun e w'=>e= .returned (.tuple #[.int .i64 (k+1), .bool true])∧∃(v:Value) (F1:List Nat),Yw b (gl.set k (v,{p.2 with members:=p.2.members.erase id})) w' F1∧Zi w w' F F1:=by
 have q:=Zig h hll hl id
 rw[YC hq,show(1:Int)+(k:Int)=k+1 by omega]at q
 have ax:=Yv hq
 have P:id∈p.2.members:=by
  obtain⟨x,hx,aE,_⟩:=Ze2 hq
  rw[hp]at hx;injection hx with hx;subst hx
  simpa using aE
 have ao:p.2.members.length≤1000000:=hl p (Xc hp)
 obtain⟨he,X⟩:=Zj4 hs P
 have HQ:=D q;have H:=D h;have HP:=D hp;have HS:=D hs;have ad:=D P
 obtain⟨V,K⟩:=Je (p.2.members.countP (·<id))
 obtain⟨er,ab⟩:=Je (p.2.members.erase id)
 rw[←K,←ab]at he
 rw[←K]at X
 rw[←ab]
 have HE:=D he
 clear q hq h hp hl hs P he ab;change Hid _ at K
 go_in
 go_wp2_with fail
 refine HQ.out.mono ?_
 rintro e w2 ⟨rfl,aa⟩
 have L:=(Zge _ _).upd H aa
 obtain⟨G0,M,ho,r,Y,hG,hM,ac⟩:=Ze6 L HP.out
 obtain⟨v,G,rfl,ai,O,o⟩:=ho
 obtain⟨A,c,rfl,hc⟩:=o.form'
 rw[Xb]at O o
 obtain⟨g,rfl⟩:=Yw.addr (b:=b) o ax
 have au:G=[g]:=by obtain⟨_,_,L,_⟩:=o.block;exact L
 subst au
 have ae:b≠g:=by simpa using ai
 have C:=D (show(gl.map fun p=>Zab p.1 p.2)[k]? =some (Zab p.1 p.2)by rw[Xe,HP.out];rfl)
 obtain⟨A2,d,s,aJ,_⟩:=r.ints
 rw[s]at r
 obtain⟨a,rfl,_,ar⟩:=r.addr (by intro e0;have:=ad.out;rw[e0]at this;cases this)
 subst ar
 have ak:g≠a∧b≠a:=⟨by have:=Y g (by simp);simpa using this,by have:=Y b (by simp);simpa using this⟩
 have hL:=o.liesAt C.out
 have I:=Zg8 r ao HS id
 rw[←K.out,show p.2.members.contains id=true by simpa using ad.out]at I
 obtain⟨m,y⟩:=Je p.2.members.length
 rw[←y]at s r I X ao
 have c0:=Jc 0 O
 have c6:w2.cell? ⟨g,k*2,none⟩=some (.slice (some ⟨a,0,none⟩) m d):=by rw[←s];exact hL 0 _ rfl
 have HB:=D O;have HR:=D o;have aB:=D aa;have HN:=D ac;have HM:=D r;have aG:=D I;have aI:=D hG;have aH:=D hM;have al:=D ae;have ag:=D ak;have Z:=D s
 clear L r Y hG hM ac O o I aa ae ai hL ak s;change Hid _ at y
 go_wp2_with fail
 refine aG.out.mono ?_
 rintro e N ⟨rfl,z⟩
 have R:=Kv z HB
 have Q:=(Zc _ _ _ _).upd HR z
 have ap:=(ZJ _ _).upd HM z
 have an:=D R;have aA:=D Q;have aw:=D ap;have aF:=D z
 have am:N.cell? ⟨g,k*2,none⟩=some (.slice (some ⟨a,0,none⟩) m d):=by rw[←Z.out];exact(Q.liesAt C) 0 _ rfl
 have af:=Jc 0 R
 clear c0 c6 z R Q ap
 go_upto_region 5 with fail
 have aK:IntKind.i64.wrap (k:Int)=(k:Int):=IntWalk.i64_in _ (by omega)
 have aL:IntKind.i64.wrap ((V:Int)+1)=(V:Int)+1:=IntWalk.i64_in _ (by omega)
 refine Jr [0,4,8,12,16,20,24,28,32,36,40,44,48,52,56,60,64,68,73,76,80,86] (fun W=>W.cell? ⟨b,0,none⟩=some (.slice (some ⟨g,0,none⟩) gl.length c)∧W.cell? ⟨g,k*2,none⟩=some (.slice (some ⟨a,0,none⟩) m d)) ⟨af,am⟩ ?_
 clear af am
 repeat first|refine Jn ?_|refine Jf ?_|refine Ju ?_
 refine JE ?_
 simp only[Xu]
 have hd:=Zla (i:=V) (l:=p.2.members) (w:=N.drewN 1) (g:=a) (c:=d) (M:=[a]) (by rw[←y.out];exact aw) (by rw[←y.out];exact X)
 rw[←y.out,HE.out]at hd
 have HD:=D hd;clear hd
 go_wp2_with fail
 refine HD.out.mono ?_
 rintro e n ⟨rfl,aj,J⟩
 have S:n.heap[b]? =_:=(J.block b (show b<(N.drewN 1).heap.size from(Jg an)) (by simpa using ag.out.2)).trans an.out
 have ah:Zk 201 2 (.slice (some ⟨g,0,none⟩) gl.length c) (gl.map fun p=>Zab p.1 p.2) n [g]:=(Zc _ _ _ _).upd (show Zk _ _ _ _ (N.drewN 1) _ from aA.out) J (by simpa using ag.out.1)
 have T:=D ah;have aC:=D J;have av:=D aj
 clear ah J aj HD;change Hid _ at S
 go_wp2_with fail
 refine⟨fun W=>W.cell? ⟨b,0,none⟩=some (.slice (some ⟨g,0,none⟩) gl.length c)∧W.cell? ⟨g,k*2,none⟩=some (.slice (some ⟨a,0,none⟩) m d),fun _ h=>h,⟨Zf (i:=0) S rfl,by rw[←Z.out];exact(T.liesAt C) 0 _ rfl⟩,?_⟩
 repeat first|refine Jn ?_|refine Jf ?_|refine Ju ?_
 refine JL ?_
 have E:=ZcY (j:=0) T C (by omega) (.slice (some ⟨a,0,none⟩) (m-1) d)
 have k6:n.cell? ⟨g,k*2,none⟩=some (.slice (some ⟨a,0,none⟩) m d):=by rw[←Z.out];exact(T.liesAt C) 0 _ rfl
 rw[Nat.add_zero]at E
 have f6:=E.2
 have az:=D E.1;clear E
 go_wp2_with fail
 refine Jz ?_
 clear k6 f6
 go_wp2_with fail
 go_ret2
 have ay:Zg [b,g] n (n.setCell ⟨g,k*2,none⟩ (.slice (some ⟨a,0,none⟩) (m-1) d)):=(Zg.refl _ _).setCell (.inr (by simp)) _
 have aq:Zg [g] n (n.setCell ⟨g,k*2,none⟩ (.slice (some ⟨a,0,none⟩) (m-1) d)):=(Zg.refl _ _).setCell (.inr (by simp)) _
 have aD:=(Kv aq S (by simpa using al.out))
 obtain⟨F1,t1,t2⟩:=HN.out n _ (.slice (some ⟨a,0,none⟩) (m-1) d,{p.2 with members:=er}) [a] av.out (Zi.of_upd (((aF.drewN 1).weaken (by simp)).trans aC (fun k hk=> .inr hk))) ⟨_,[g],rfl,by simpa using al.out,aD,by rw[List.map_set];exact az⟩ ay
 exact⟨rfl,_,F1,t1,(Zi.of_upd (aB.weaken (by simp))).trans t2⟩
def Zhu (h:Z6 (.slice A n c) l w M) (hl:l.length≤1000000) (hs:l.Pairwise (·<·)) (x:Int) (hx:∀y∈l,y<x):
  Calls Tryz.prog 118 #[.slice A n c, .int .i64 x] w fun e w'=>e= .returned (.tuple #[.int .i64 l.length, .bool false])∧Zg [] w w':=by
 have j:l.contains x=false:=by
  rw[Bool.eq_false_iff];intro h
  have:=hx x (by simpa using h);omega
 have i:l.countP (·<x)=l.length:=by rw[List.countP_eq_length];intro y d;simpa using hx y d
 cases l with
 |nil=>
  obtain⟨m,o,b,_,_⟩:=h.ints
  injection b with b k p
  subst k
  refine(Tryz.slices_BinarySearch_int_empty A c x w).mono ?_
  rintro e w' ⟨rfl,rfl⟩
  exact⟨rfl,Zg.refl _ _⟩
 |cons a l=>
  obtain⟨g,rfl,rfl,rfl⟩:=h.addr (by simp)
  have q:=Zg8 h hl hs x
  rw[j,i]at q
  exact q
def ZnF {gl:List (Value×ZT)} (h:Yw b gl w F) (hll:gl.length≤1000000) (hl:∀p∈gl,p.2.members.length≤1000000) (id:Int) (hid:1≤id) {k:Nat} {p:Value×ZT} (hs:p.2.members.Pairwise (·<·)) (hq:gl.findIdx? (fun p=>p.2.members.contains id)=none) (hp:gl[k]? =some p) (htn:p.2.torn=false) (hlt:∀y∈p.2.members,y<id):
  Calls Tryz.prog 60 #[.pointer (some ⟨b,0,none⟩), .int .i64 (k+1), .int .i64 id] w fun e w'=>e= .returned (.int .i64 0)∧∃(v:Value) (F1:List Nat),Yw b (gl.set k (v,{p.2 with members:=p.2.members++[id]})) w' F1∧Zi w w' F F1:=by
 have aq:k<gl.length:=(Jk hp)
 have q0:=Zgw h hll (k+1)
 have hh:Zem gl.length (k+1)=true:=by unfold Zem;rw[decide_eq_true (by omega),decide_eq_true (by omega)];rfl
 rw[hh]at q0
 have q:=Zig h hll hl id
 rw[Yi hq,show(1:Int)+ -1=0 by omega]at q
 have ag:p.2.members.length≤1000000:=hl p (Xc hp)
 have az:=D q0;have HQ:=D q;have H:=D h;have HP:=D hp;have HS:=D hs;have aO:=D hlt
 obtain⟨A0,aV,aZ,_,am,ad,_⟩:=Yw.row h
 obtain⟨g0,rfl⟩:=Yw.addr (b:=b) ad aq
 have d0:=Jc 0 am
 have d1:w.cell? ⟨g0,k*2+1,none⟩=some (.bool false):=by rw[←htn];exact(ad.liesAt (show(gl.map fun p=>Zab p.1 p.2)[k]? =some (Zab p.1 p.2)by rw[Xe,hp];rfl)) 1 _ rfl
 clear q0 q hq h hp hl hs hh hlt htn am ad
 have aY:¬id<1:=by omega
 go_in
 go_wp2_with fail
 refine az.out.mono ?_
 rintro e w1 ⟨rfl,au⟩
 rw[au];clear au w1 az
 go_wp2_with fail
 refine HQ.out.mono ?_
 rintro e w2 ⟨rfl,af⟩
 have P:=(Zge _ _).upd H af
 obtain⟨G0,M,ho,x,ac,hG,hM,ah⟩:=Ze6 P HP.out
 obtain⟨v,G,rfl,av,S,n⟩:=ho
 obtain⟨A,c,rfl,hc⟩:=n.form'
 rw[Xb]at S n
 obtain⟨g,rfl⟩:=Yw.addr (b:=b) n aq
 have aE:G=[g]:=by obtain⟨_,_,P,_⟩:=n.block;exact P
 subst aE
 have al:b≠g:=by simpa using av
 have o:=D (show(gl.map fun p=>Zab p.1 p.2)[k]? =some (Zab p.1 p.2)by rw[Xe,HP.out];rfl)
 obtain⟨m,d,C,aW,_⟩:=x.ints
 rw[C]at x
 have aw:g∉M∧b∉M:=⟨ac g (by simp),ac b (by simp)⟩
 have hL:=n.liesAt o.out
 have aa:=Zhu x ag HS id aO.out
 obtain⟨r,E⟩:=Je p.2.members.length
 rw[←E]at C x aa ag
 have c0:=Jc 0 S
 have c6:w2.cell? ⟨g,k*2,none⟩=some (.slice m r d):=by rw[←C];exact hL 0 _ rfl
 have HB:=D S;have HR:=D n;have aL:=D af;have HN:=D ah;have HM:=D x;have aR:=D aa;have aU:=D hG;have aT:=D hM;have ay:=D al;have ap:=D aw;have O:=D C
 clear P x ac hG hM ah S n aa af al av hL aw C d0 d1;change Hid _ at E
 go_wp2_with fail
 refine aR.out.mono ?_
 rintro e a ⟨rfl,I⟩
 have X:=Kv I HB
 have V:=(Zc _ _ _ _).upd HR I
 have aB:=(ZJ _ _).upd HM I
 have aS:=D X;have aK:=D V;have aH:=D aB;have aQ:=D I
 have aA:a.cell? ⟨g,k*2,none⟩=some (.slice m r d):=by rw[←O.out];exact(V.liesAt o) 0 _ rfl
 have an:=Jc 0 X
 clear c0 c6 I X V aB
 go_upto_region 12 with fail
 have aX:IntKind.i64.wrap (k:Int)=(k:Int):=IntWalk.i64_in _ (by omega)
 refine Jr [0,4,8,12,16,20,24,28,32,36,40,44,48,52,56,60,64,69,73,76,80,86] (fun W=>W.cell? ⟨b,0,none⟩=some (.slice (some ⟨g,0,none⟩) gl.length c)∧W.cell? ⟨g,k*2,none⟩=some (.slice m r d)) ⟨an,aA⟩ ?_
 clear an aA
 repeat first|refine Jn ?_|refine Jf ?_|refine Ju ?_
 refine JE ?_
 go_wp2_with fail
 obtain⟨w5,J⟩:=Je ((a.alloc (.cells #[.int .i64 id] 3)).drew)
 rw[←J]
 have z:Zg [] a w5:=by rw[J];exact((Zg.refl [] a).alloc _).drew
 have ax:w5.cell? ⟨a.heap.size,0,none⟩=some (.int .i64 id):=by rw[J];exact Zf (w:=(a.alloc _).drew) (i:=0) (Za (w:=a) _) rfl
 have ae:=Kv z aS
 have ab:=(Zc _ _ _ _).upd aK z
 have ao:=(ZJ _ _).upd aH z
 have hd:=Zly (A:=m) (c:=d) (l:=p.2.members) (w:=w5) (M:=M) (by rw[←E.out];exact ao) (by rw[←E.out];exact ag) id a.heap.size 1 ax
 rw[←E.out]at hd
 have HD:=D hd;have aD:=D ae;have aI:=D ab
 refine⟨fun W=>W.cell? ⟨b,0,none⟩=some (.slice (some ⟨g,0,none⟩) gl.length c)∧W.cell? ⟨g,k*2,none⟩=some (.slice m r d),fun _ h=>h,⟨Zf (i:=0) ae rfl,by rw[←O.out];exact(ab.liesAt o) 0 _ rfl⟩,?_⟩
 clear hd J ax ae ab ao;change Hid _ at z
 refine JE ?_
 go_wp2_with fail
 refine HD.out.mono ?_
 rintro e s ⟨v4,rfl,M4,N,L,ak⟩
 obtain⟨R,T,rfl,_,_⟩:=N.ints
 obtain⟨Q,aj⟩:=Je ((p.2.members++[id]).length)
 rw[←aj]at N⊢
 have Y:=Kv L aD ap.out.2
 have ar:=(Zc _ _ _ _).upd aI L (by simpa using ap.out.1)
 have Z:=D ar;have aP:=D L;have aG:=D N;have aN:=D ak
 clear ar L N HD ak aj;change Hid _ at Y
 go_wp2_with fail
 refine⟨fun W=>W.cell? ⟨b,0,none⟩=some (.slice (some ⟨g,0,none⟩) gl.length c)∧W.cell? ⟨g,k*2,none⟩=some (.slice m r d),fun _ h=>h,⟨Zf (i:=0) Y rfl,by rw[←O.out];exact(Z.liesAt o) 0 _ rfl⟩,?_⟩
 repeat first|refine Jn ?_|refine Jf ?_|refine Ju ?_
 refine JL ?_
 have K:=ZcY (j:=0) Z o (by omega) (.slice R Q T)
 have k6:s.cell? ⟨g,k*2,none⟩=some (.slice m r d):=by rw[←O.out];exact(Z.liesAt o) 0 _ rfl
 rw[Nat.add_zero]at K
 have f6:=K.2
 have aJ:=D K.1;clear K
 go_wp2_with fail
 refine Jz ?_
 clear k6 f6
 go_wp2_with fail
 go_ret
 have aF:Zg [b,g] s (s.setCell ⟨g,k*2,none⟩ (.slice R Q T)):=(Zg.refl _ _).setCell (.inr (by simp)) _
 have aC:Zg [g] s (s.setCell ⟨g,k*2,none⟩ (.slice R Q T)):=(Zg.refl _ _).setCell (.inr (by simp)) _
 have aM:=(Kv aC Y (by simpa using ay.out))
 have ai:=aQ.trans z
 obtain⟨F1,t1,t2⟩:=HN.out s _ (.slice R Q T,{p.2 with members:=p.2.members++[id]}) M4 aG ⟨(ai.weaken (by simp)).trans aP (fun k hk=> .inr hk),fun k hk=>(aN.out k hk).imp _root_.id (fun h=>Xj ai.size h)⟩ ⟨_,[g],rfl,by simpa using ay.out,aM,by rw[List.map_set];exact aJ⟩ aF
 exact⟨rfl,_,F1,t1,(Zi.of_upd (aL.weaken (by simp))).trans t2⟩
def Zpw (u:Value) (g:ZgQ):List Value:=[u, .bool g.aborted]
def ZdE (b:Nat) (gl:List (Value×ZgQ)):YD:=Zbc b (fun v=> #[v]) 121 123 2 Zpw (·.parents) gl
def Zd7 (b:Nat) (l:List ZgQ):YD:=Zil b (fun v=> #[v]) 121 123 2 Zpw (·.parents) l
def Yy (b:Nat) (l:List ZgQ):(Zd7 b l).Local:=ZdN _ _ _ _ _ _ _ _
def ZdE.one {gl:List (Value×ZgQ)} (h:ZdE b gl w F):∀p∈gl,p.1.oneCell'=true:=fun p hp=>by
 obtain⟨i,hi⟩:=List.getElem?_of_mem hp
 obtain⟨M,hm,_⟩:=Zci h hi
 obtain⟨A,c,e,_⟩:=hm.ints
 rw[e];rfl
def ZdE.row {gl:List (Value×ZgQ)} (h:ZdE b gl w F):
  ∃A c G,b∉G∧w.heap[b]? =some (.cells #[.slice A gl.length c] 121 (0,0))∧Zk 123 2 (.slice A gl.length c) (gl.map fun p=>Zpw p.1 p.2) w G∧(∀q∈b::G,q∈F)∧gl.length≤c:=by
 obtain⟨i,ho,g,_⟩:=Zgn h
 obtain⟨v,G,rfl,f,d,a⟩:=ho
 obtain⟨A,c,rfl,e⟩:=a.form'
 rw[Xb]at d a e
 exact⟨A,c,G,f,d,a,g,e⟩
def Zrq {gl:List (Value×ZgQ)} (h:ZdE b gl w F) (hl:gl.length≤1000000) (g:Int):
  Calls Tryz.prog 51 #[.pointer (some ⟨b,0,none⟩), .int .i64 g] w fun e w'=>e= .returned (.bool (Zem gl.length g))∧w'=w:=by
 obtain⟨A,c,G,j,i,k,_⟩:=ZdE.row h
 have l:=Jc 0 i
 unfold Zem
 clear i k j h
 by_cases a:1≤g
 ·by_cases d:g≤gl.length
  ·rw[decide_eq_true a,decide_eq_true d]
   go_in
   go_wp2
   go_ret
   exact⟨rfl,rfl⟩
  ·rw[decide_eq_true a,decide_eq_false d]
   go_in
   go_wp2
   go_ret
   exact⟨rfl,rfl⟩
 ·rw[decide_eq_false a]
  go_in
  go_wp2
  go_ret
  exact⟨rfl,rfl⟩
def Zlg {gl:List (Value×ZgQ)} (h:ZdE b gl w F) (hl:gl.length≤1000000) (g:Int):
  Calls Tryz.prog 103 #[.pointer (some ⟨b,0,none⟩), .int .i64 g] w fun e w'=>e= .returned (.bool (Zem gl.length g&&(gl[(g-1).toNat]?.map (·.2.aborted)).getD false))∧w'=w:=by
 have q:=Zrq h hl g
 obtain⟨A,c,G,s,r,j,_⟩:=ZdE.row h
 have C:=Jc 0 r
 cases hh:Zem gl.length g with
 |false=>
  rw[hh]at q
  have o:=D q
  clear q r j s h hh C
  go_in
  go_wp2_with fail
  refine o.out.mono ?_
  rintro e n ⟨rfl,d⟩
  rw[d];clear d n
  go_wp2_with fail
  go_ret
  exact⟨rfl,rfl⟩
 |true=>
  rw[hh]at q
  obtain⟨i,z⟩:1≤g∧g≤gl.length:=by unfold Zem at hh;simpa using hh
  obtain⟨k,E⟩:∃k:Nat,g=(k:Int)+1:=⟨(g-1).toNat,by omega⟩
  subst E
  have l:k<gl.length:=by omega
  obtain⟨p,m⟩:∃p,gl[k]? =some p:=⟨_,Xa l⟩
  have x:((k:Int)+1-1).toNat=k:=by omega
  rw[x,m]
  obtain⟨a,rfl⟩:∃g,A=some ⟨g,0,none⟩:=by
   rcases j.form with⟨_,y,_⟩|⟨g,I,_,i,_⟩
   ·rw[List.map_eq_nil_iff]at y;rw[y]at l;simp at l
   ·injection i with i;exact⟨g,i⟩
  have H:w.cell? ⟨a,k*2+1,none⟩=some (.bool p.2.aborted):=(j.liesAt (show(gl.map fun p=>Zpw p.1 p.2)[k]? =some (Zpw p.1 p.2)by rw[Xe,m];rfl)) 1 _ rfl
  obtain⟨t,ht⟩:=Je p.2.aborted
  simp only[Option.map_some,Option.getD_some]
  rw[←ht]at H⊢
  have o:=D q
  clear q r j s h hh m ht x i z
  go_in
  go_wp2_with fail
  refine o.out.mono ?_
  rintro e n ⟨rfl,d⟩
  rw[d];clear d n
  go_wp2_with fail
  go_ret
  exact⟨by simp,rfl⟩
def Zru {gl:List (Value×ZgQ)} (h:ZdE b gl w F) (hl:gl.length≤1000000):
  Calls Tryz.prog 102 #[.pointer (some ⟨b,0,none⟩)] w fun e w'=>e= .returned (.int .i64 gl.length)∧w'=w:=by
 obtain⟨A,c,G,d,a,g,_⟩:=ZdE.row h
 have i:=Jc 0 a
 clear a g d h
 go_in
 go_wp2
 go_ret
 exact⟨rfl,rfl⟩
end Go.Proofs.YtlhapbopmplngaaGreatDoor
namespace Go.Proofs.YtlhapbopmplngaaGreatDoor
open Go.RowKit Go.Lk
def ZdE.addr {gl:List (Value×ZgQ)} {c g0:Nat} (hr:Zk 123 2 (.slice A gl.length c) (gl.map fun p=>Zpw p.1 p.2) w G) (hl:g0<gl.length):∃g,A=some ⟨g,0,none⟩:=by
 rcases hr.form with⟨_,b,_⟩|⟨g,d,_,a,_⟩
 ·rw[List.map_eq_nil_iff]at b;rw[b]at hl;simp at hl
 ·injection a with a;exact⟨g,a⟩
end Go.Proofs.YtlhapbopmplngaaGreatDoor
