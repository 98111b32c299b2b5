import Derived.Test.YtbgbeddbfaopgaaGreatDoorZ9
set_option linter.all false
set_option maxHeartbeats 16000000
set_option maxRecDepth 100000
set_option autoImplicit true
set_option relaxedAutoImplicit true
namespace Go.Proofs.YtbgbeddbfaopgaaGreatDoor
open Go.RowKit Go.Lk
def Zav (u:Value) (g:Z5):List Value:=[u, .bool g.torn]
def YR (b:Nat) (gl:List (Value×Z5)):YG:=Zbd b (fun v=> #[v]) 134 205 2 Zav (·.members) gl
def ZcW (b:Nat) (l:List Z5):YG:=Zib b (fun v=> #[v]) 134 205 2 Zav (·.members) l
theorem ZfO (b:Nat) (gl:List (Value×Z5)):(YR b gl).Local:=Zcf _ _ _ _ _ _ _ _
theorem Yr (b:Nat) (l:List Z5):(ZcW b l).Local:=ZdZ _ _ _ _ _ _ _ _
theorem ZmN {u:Value} (hu:u.oneCell'=true) (s:Z5):∀v∈Zav u s,v.oneCell'=true:=by
 intro v hv;unfold Zav at hv
 simp only[List.mem_cons,List.not_mem_nil,or_false]at hv
 rcases hv with rfl|rfl<;>first|exact hu|rfl
theorem YR.one {gl:List (Value×Z5)} (h:YR b gl w F):∀p∈gl,p.1.oneCell'=true:=fun p hp=>by
 obtain⟨i,hi⟩:=List.getElem?_of_mem hp
 obtain⟨M,hm,_⟩:=ZcY h hi
 obtain⟨A,c,e,_⟩:=hm.ints
 rw[e];rfl
theorem YR.row {gl:List (Value×Z5)} (h:YR b gl w F):
  ∃A c G,b∉G∧w.heap[b]? =some (.cells #[.slice A gl.length c] 134 (0,0))∧Zj 205 2 (.slice A gl.length c) (gl.map fun p=>Zav p.1 p.2) w G∧(∀q∈b::G,q∈F)∧gl.length≤c:=by
 obtain⟨i,ho,g,_⟩:=Zf9 h
 obtain⟨v,G,rfl,f,d,a⟩:=ho
 obtain⟨A,c,rfl,e⟩:=a.form'
 rw[Xb]at d a e
 exact⟨A,c,G,f,d,a,g,e⟩
def Zfi (n:Nat) (g:Int):Bool:=decide (1≤g)&&decide (g≤n)
theorem ZjA {gl:List (Value×Z5)} (h:YR b gl w F) (hl:gl.length≤1000000) (g:Int):
  Calls Tryz.prog 122 #[.pointer (some ⟨b,0,none⟩), .int .i64 g] w fun e w'=>e= .returned (.bool (Zfi gl.length g))∧w'=w:=by
 obtain⟨A,c,G,j,i,k,_⟩:=YR.row h
 have l:=Jc 0 i
 unfold Zfi
 clear i k j h
 by_cases a:1≤g
 ·by_cases d:g≤gl.length
  ·rw[decide_eq_true a,decide_eq_true d]
   go_enter Tryz.func122,Tryz.ntmps122
   go_wp2
   go_ret
   exact⟨rfl,rfl⟩
  ·rw[decide_eq_true a,decide_eq_false d]
   go_enter Tryz.func122,Tryz.ntmps122
   go_wp2
   go_ret
   exact⟨rfl,rfl⟩
 ·rw[decide_eq_false a]
  go_enter Tryz.func122,Tryz.ntmps122
  go_wp2
  go_ret
  exact⟨rfl,rfl⟩
theorem Zpd (u:Value) (x:Z5) (box:Nat) (id:Int) (W:World) (hm:Z9 u x.members W M) (hl:x.members.length≤1000000) (hc:W.cell? ⟨box,0,none⟩=some (.int .i64 id)):
  Calls Tryz.prog 195 #[.agg (Zav u x).toArray, .pointer (some ⟨box,0,none⟩)] W fun e w'=>e= .returned (.bool (x.members.contains id))∧Zg [] W w':=by
 have j:=ZaI hc
 have n:box≠W.heap.size:=by omega
 obtain⟨A,c,rfl,m,i⟩:=hm.ints
 obtain⟨h,a⟩:=Je (W.alloc (.cells (Zav (.slice A x.members.length c) x).toArray 205))
 have b:=Ja a
 have hv:=Jh a
 have p:=Jc 0 hv
 have o:h.cell? ⟨box,0,none⟩=some (.int .i64 id):=(Xp (b.block box j (by simp))).trans hc
 have d:=Zgq A c x.members id (i.upd b (by simp)) hl
 obtain⟨r,g⟩:=Je (x.members.contains id)
 rw[←g]at d⊢
 have l:=D d
 clear d g
 have k:=D (show W.alloc (.cells #[.slice A x.members.length c, .bool x.torn] 205)=h from a.symm)
 clear a hv hm i hc;change Hid _ at b
 show Calls _ _ #[.agg #[.slice A x.members.length c, .bool x.torn], .pointer (some ⟨box,0,none⟩)] W _
 go_enter Tryz.func195,Tryz.ntmps195
 go_upto_region 1 with fail
 rw[k.out]
 go_wp2_with fail
 refine l.out.mono ?_
 rintro e q ⟨rfl,rfl⟩
 go_wp2_with fail
 go_ret
 exact⟨rfl,b.out⟩
theorem Zlx {α:Type} (p:α→Bool) (l:List α): -1≤YL p l∧YL p l<l.length:=by
 unfold YL
 split
 ·rename_i i a
  have:=Yv a
  omega
 ·omega
theorem ZiC {gl:List (Value×Z5)} (h:YR b gl w F) (hll:gl.length≤1000000) (hl:∀p∈gl,p.2.members.length≤1000000) (id:Int):
  Calls Tryz.prog 123 #[.pointer (some ⟨b,0,none⟩), .int .i64 id] w fun e w'=>e= .returned (.int .i64 (1+YL (fun p=>p.2.members.contains id) gl))∧Zg [] w w':=by
 obtain⟨A,c,G,z,k,o,_⟩:=YR.row h
 obtain⟨L,d⟩:=Je (w.alloc (.cells #[.int .i64 id] 3))
 have a:=Ja d
 have j:=Jh d
 have K:=Jc 0 ((a.block b (Jg k) (by simp)).trans k)
 have g:=Zm2 (fun p:Value×Z5=>Zav p.1 p.2) (fun p=>p.2.members.contains id) 195 #[.pointer (some ⟨w.heap.size,0,none⟩)] ((Zd _ _ _ _).upd o a (by simp)) (enters_of Tryz.func195 (by kernel_rfl) rfl) (fun W x hx q=>by
  obtain⟨i,H⟩:=List.getElem?_of_mem hx
  obtain⟨M,E,_⟩:=ZcY h H
  exact Zpd x.1 x.2 w.heap.size id W ((ZS _ _).upd E (a.trans q (by simp)) (by simp)) (hl x hx) (Zc (i:=0) ((q.block _ (Jg j) (by simp)).trans j) rfl))
 have m:=Zlx (fun p:Value×Z5=>p.2.members.contains id) gl
 obtain⟨r,n⟩:=Je (YL (fun p:Value×Z5=>p.2.members.contains id) gl)
 rw[←n]at g m⊢
 obtain⟨I,y⟩:=m
 have J:r≤1000000:=by omega
 have C:=D g
 clear g j k o z h n hl y;change Hid _ at d a
 go_enter Tryz.func123,Tryz.ntmps123
 go_upto_region 1 with fail
 rw[←d.out]
 go_wp2_with fail
 refine C.out.mono ?_
 rintro e N ⟨rfl,l⟩
 have s:=Jt a l
 clear l
 go_wp2_with fail
 go_ret
 exact⟨rfl,s.out⟩
theorem Zl1 {gl:List (Value×Z5)} (h:YR b gl w F) (hl:gl.length≤1000000) (g:Int):
  Calls Tryz.prog 107 #[.pointer (some ⟨b,0,none⟩), .int .i64 g] w fun e w'=>e= .returned (.bool (Zfi gl.length g&& !((gl[(g-1).toNat]?.map (·.2.torn)).getD false)))∧w'=w:=by
 have q:=ZjA h hl g
 obtain⟨A,c,G,s,m,j,_⟩:=YR.row h
 have z:=Jc 0 m
 cases hh:Zfi gl.length g with
 |false=>
  rw[hh]at q
  have n:=D q
  clear q m j s h hh z
  go_enter Tryz.func107,Tryz.ntmps107
  go_wp2_with fail
  refine n.out.mono ?_
  rintro e r ⟨rfl,d⟩
  rw[d];clear d r
  go_wp2_with fail
  go_ret
  exact⟨rfl,rfl⟩
 |true=>
  rw[hh]at q
  obtain⟨i,H⟩:1≤g∧g≤gl.length:=by unfold Zfi at hh;simpa using hh
  obtain⟨k,E⟩:∃k:Nat,g=(k:Int)+1:=⟨(g-1).toNat,by omega⟩
  subst E
  have l:k<gl.length:=by omega
  obtain⟨p,o⟩:∃p,gl[k]? =some p:=⟨_,Xa l⟩
  have x:((k:Int)+1-1).toNat=k:=by omega
  rw[x,o]
  obtain⟨a,rfl⟩:∃g,A=some ⟨g,0,none⟩:=by
   rcases j.form with⟨_,y,_⟩|⟨g,I,_,i,_⟩
   ·rw[List.map_eq_nil_iff]at y;rw[y]at l;simp at l
   ·injection i with i;exact⟨g,i⟩
  have C:w.cell? ⟨a,k*2+1,none⟩=some (.bool p.2.torn):=(j.liesAt (show(gl.map fun p=>Zav p.1 p.2)[k]? =some (Zav p.1 p.2)by rw[Xe,o];rfl)) 1 _ rfl
  obtain⟨t,ht⟩:=Je p.2.torn
  simp only[Option.map_some,Option.getD_some]
  rw[←ht]at C⊢
  have n:=D q
  clear q m j s h hh o ht x i H
  go_enter Tryz.func107,Tryz.ntmps107
  go_wp2_with fail
  refine n.out.mono ?_
  rintro e r ⟨rfl,d⟩
  rw[d];clear d r
  go_wp2_with fail
  go_ret
  exact⟨by simp,rfl⟩
theorem YR.addr {b g0:Nat} {gl:List (Value×Z5)} (hr:Zj 205 2 (.slice A gl.length c) (gl.map fun p=>Zav p.1 p.2) w G) (hl:g0<gl.length):∃g,A=some ⟨g,0,none⟩:=by
 rcases hr.form with⟨_,d,_⟩|⟨g,e,_,a,_⟩
 ·rw[List.map_eq_nil_iff]at d;rw[d]at hl;simp at hl
 ·injection a with a;exact⟨g,a⟩
theorem Zhm {gl:List (Value×Z5)} (h:YR b gl w F) (hl:gl.length≤1000000) (hf:64≤gl.length):
  Calls Tryz.prog 58 #[.pointer (some ⟨b,0,none⟩)] w fun e w'=>e= .returned (.tuple #[.int .i64 0, .int .i64 10])∧w'=w:=by
 obtain⟨A,c,G,d,a,g,_⟩:=YR.row h
 have i:=Jc 0 a
 have j:(64:Int)≤(gl.length:Int):=by omega
 clear h a g d hf
 go_enter Tryz.func58,Tryz.ntmps58
 go_wp2_with fail
 go_ret2
 exact⟨rfl,rfl⟩
theorem Zmu {gl:List (Value×Z5)} (h:YR b gl w F) (hf:gl.length<64):
  Calls Tryz.prog 58 #[.pointer (some ⟨b,0,none⟩)] w fun e w'=>e= .returned (.tuple #[.int .i64 (gl.length+1), .int .i64 0])∧∃F',YR b (gl++[(.slice none 0 0,⟨[],false⟩)]) w' F'∧Zi w w' F F':=by
 obtain⟨G0,ho,P,H⟩:=Zle h
 obtain⟨v,G,rfl,J,d,m⟩:=ho
 obtain⟨A,c,rfl,hc⟩:=m.form'
 rw[Xb]at d m hc
 have c0:=Jc 0 d
 obtain⟨Q,j⟩:=Je (w.alloc (.cells #[.slice none 0 0, .bool false] 205))
 have g:=Ja j
 have ab:=D (show Zb Q w.heap.size 0 (Zav (.slice none 0 0) ⟨[],false⟩)by rw[j];exact Zb.of_block (Za _))
 have K:=D ((g.block b (Jg d) (by simp)).trans d)
 have X:=D ((Zd _ _ _ _).upd m g (by simp))
 have T:=D (Jg d)
 have hz:¬((64:Int)≤(gl.length:Int)):=by omega
 have hl:gl.length≤999999:=by omega
 have L:=D J;have ac:=D P;have HN:=D H
 clear h d m J P hf H;change Hid _ at j g
 go_enter Tryz.func58,Tryz.ntmps58
 go_upto_region 6 with(rw[←j.out];(refine Zn Q rfl (.tmp 16) (.tmp 18) 132 rfl 205 Tryz.underlying132 ZkC rfl (by omega) (by omega) _ (gl.map fun(p:Value×Z5)=>Zav p.1 p.2) G rfl X w.heap.size 1 (Zav (.slice none 0 0) ⟨[],false⟩) rfl ab rfl (ZmN rfl _) (by rw[Xb];omega) ?_);intro v' o n y q M;obtain⟨S,O,R,-⟩:=y.form';rw[Xd,Xb,List.length_singleton]at R;subst R;have s:=D ((q.block b (Jg K) L).trans K);have Z:=D y;have Y:=D q;have W:=D M;have c7:=Jc 0 s.out;have f7:o.frozen? ⟨b,0,none⟩=false:=Zk s.out;clear y q M c0)
 obtain⟨C,l⟩:=Je (o.setCell ⟨b,0,none⟩ (.slice S (gl.length+1) O))
 have r:C.heap[b]? =some (.cells #[.slice S (gl.length+1) O] 134 (0,0)):=by rw[l];exact Ze (i:=0) s _
 have z:Zg [b] o C:=by rw[l];exact(Zg.refl _ _).setCell (.inr (by simp)) _
 have c8:=Jc 0 r
 rw[←l]
 clear l c7 f7;change Hid _ at r z
 go_wp2_with fail
 go_ret2
 have V:Zg (b::G) w o:=(g.weaken (by simp)).trans Y (fun k a=> .inr (by simp[a]))
 have N:∀x∈n,x∈G∨w.heap.size≤x:=fun x hx=>(W.out x hx).imp id (fun h=>Xj g.size h)
 have I:b∉n:=fun E=>by
  rcases N b E with h|h
  ·exact L h
  ·have:=T.out;omega
 have aa:=(Zd _ _ _ _).upd Z z (fun k a E=>by rw[Jm E]at a;exact I a)
 obtain⟨F2,t1,t2⟩:=HN.out C (.slice none 0 0,⟨[],false⟩) [] (b::n) (ZD _ _ _) (by simp) (fun _ _ h=>by cases h) ⟨_,n,rfl,I,r.out,by rw[Xs];exact aa⟩
  ⟨V.trans z (fun k a=> .inr (by simp at a;simp[a])),fun x hx=>by
   rcases List.mem_cons.1 hx with rfl|hx
   ·exact .inl (by simp)
   ·exact(N x hx).imp (fun h=>by simp[h]) id⟩
 exact⟨rfl,F2,t1,t2⟩
end Go.Proofs.YtbgbeddbfaopgaaGreatDoor
namespace Go.Lk
open Go Go.RowKit
theorem ZpC {g n cap:Nat} {xs:List (List Value)} {w W2:World} (h:Zj e 1 (.slice (some ⟨g,0,none⟩) n cap) xs w F) (q:Nat) (vs:List Value) (m:Nat) (hv:vs.length≤n) (hm:m≤vs.length)
  (hW:W2=(w.drewN q).setCells g 0 vs):Zj e 1 (.slice (some ⟨g,0,none⟩) m cap) ((vs.take m).map fun u=>[u]) W2 F∧Zg F w W2:=by
 obtain⟨k,r,rfl,o,s,j,i,ht⟩:=h.block
 subst r
 have b:((vs.take m).map fun u=>[u]).length=m:=by rw[Xb,List.length_take];omega
 have f:((vs.take m).map fun u=>[u]).flatten=vs.take m:=by
  generalize vs.take m=l
  induction l with
  |nil=>rfl
  |cons a l ih=>rw[List.map_cons,List.flatten_cons,ih];rfl
 have d:=Ys vs 0 (w.drewN q) k o (by rw[i];omega)
 rw[←hW]at d
 refine⟨⟨rfl,fun c p=> ?_,?_, .inr ⟨g,cap,_,by rw[b],Xn _,d,by rw[b];omega,j,?_,?_⟩⟩,?_⟩
 ·obtain⟨u,_,rfl⟩:=List.mem_map.1 p;rfl
 ·rw[f,b,List.length_take];omega
 ·rw[List.size_toArray,YW _ _ _ (by simp;omega)];simpa using i
 ·rw[List.toList_toArray,b,f,Nat.mul_one]
  unfold Yl
  simp only[List.take_zero,List.nil_append,Nat.zero_add]
  rw[List.take_append_of_le_length hm]
 ·rw[hW];exact((Zg.refl [g] w).drewN q).setCells (.inr (by simp)) _ _
theorem ZjG {l:List Int} (h:l.Pairwise (·<·)) {x:Int} (hx:x∈l):l.take (l.countP (·<x))++l.drop (l.countP (·<x)+1)=l.erase x∧l.countP (·<x)<l.length:=by
 induction l with
 |nil=>cases hx
 |cons a l ih=>
  obtain⟨b,d⟩:=List.pairwise_cons.1 h
  rcases List.mem_cons.1 hx with rfl|hx
  ·have e:l.countP (·<x)=0:=by
    rw[List.countP_eq_zero]
    intro y g
    have:=b y g
    simp;omega
   rw[List.countP_cons_of_neg (by simp),e]
   simp
  ·have c:=b x hx
   obtain⟨f,i⟩:=ih d hx
   rw[List.countP_cons_of_pos (by simpa using c),List.take_succ_cons,List.drop_succ_cons,List.cons_append,f,List.erase_cons_tail (by simp;omega)]
   exact⟨rfl,by simp;omega⟩
end Go.Lk
namespace Go.Proofs.YtbgbeddbfaopgaaGreatDoor
open Go.RowKit Go.Lk
theorem Z9.getD {g n c:Nat} (h:Z9 (.slice (some ⟨g,0,none⟩) n c) l w M):∀j,j<l.length→w.cell? ⟨g,0+j,none⟩=some (.int .i64 (l.getD j 0)):=fun j hj=>by
 obtain⟨A,c',e1,_,hi⟩:=h.ints
 obtain⟨ab,ao,e2,hc⟩:=hi j l[j] (by simp[hj])
 injection e1 with e1 _ _
 rw[←e1]at e2;injection e2 with e2;injection e2 with e2 e3 _
 subst e2 e3
 rw[hc];simp[hj]
theorem Zhi {g c:Nat} {l:List Int} (h:Z9 (.slice (some ⟨g,0,none⟩) l.length c) l w M) (hl:l.length≤1000000) (hs:l.Pairwise (·<·)) (x:Int):
  Calls Tryz.prog 124 #[.slice (some ⟨g,0,none⟩) l.length c, .int .i64 x] w fun e w'=>e= .returned (.tuple #[.int .i64 (l.countP (·<x):Nat), .bool (l.contains x)])∧Zg [] w w':=by
 have q:= Tryz.slices_BinarySearch_int g 0 l.length c l x w (Xi _) (by omega) h.getD (by rw[Xm];exact hs.imp (fun h=>by omega))
 rw[Xm]at q
 refine q.mono ?_
 rintro e w' ⟨a,n,rfl⟩
 exact⟨a,(Zg.refl [] w).drewN n⟩
theorem ZlJ {g c i:Nat} {l:List Int} (h:Z9 (.slice (some ⟨g,0,none⟩) l.length c) l w M) (hi:i<l.length):
  Calls Tryz.prog 205 #[.slice (some ⟨g,0,none⟩) l.length c, .int .i64 i, .int .i64 (i+1)] w fun e w'=>e= .returned (.slice (some ⟨g,0,none⟩) (l.length-1) c)∧Z9 (.slice (some ⟨g,0,none⟩) (l.length-1) c) (l.take i++l.drop (i+1)) w' M∧Zg M w w':=by
 obtain⟨s,_,_,m,d,r,t,ht⟩:=h.block
 rw[Xb]at d
 have q:= Tryz.slices_Delete_int_cells g 0 l.length c i (i+1) l w (Xi _) d (by unfold maxLen at r;omega) (by omega) (by omega) h.getD (fun j x=>Zk m)
 rw[Xm,show l.length-(i+1-i)=l.length-1 by omega,show i+1-i=1 by omega,show((i+1:Nat):Int)=(i:Int)+1 by omega]at q
 refine q.mono ?_
 rintro e w' ⟨k,n,p⟩
 have a:(l.take i++l.drop (i+1)).length=l.length-1:=by rw[Xd,List.length_take,List.length_drop];omega
 obtain⟨b,o⟩:=ZpC h n ((l.take i++l.drop (i+1)++List.replicate 1 0).map (Value.int .i64)) (l.length-1) (by rw[Xb,Xd,a];simp;omega) (by rw[Xb,Xd,a];simp) p
 refine⟨k,?_,o⟩
 unfold Z9
 rw[←List.map_take,List.take_append_of_le_length (by omega),List.take_of_length_le (by omega),List.map_map]at b
 exact b
theorem ZlG {l:List Int} (h:Z9 (.slice A l.length c) l w M) (hl:l.length≤1000000) (x:Int) (B cb:Nat) (hx:w.cell? ⟨B,0,none⟩=some (.int .i64 x)):
  Calls Tryz.prog 125 #[.slice A l.length c, .int .i64 l.length, .slice (some ⟨B,0,none⟩) 1 cb] w fun e w'=>∃v':Value,e= .returned v'∧∃M':List Nat,Z9 v' (l++[x]) w' M'∧Zg M w w'∧∀k∈M',k∈M∨w.heap.size≤k:=by
 have q:l.length≤c:=by obtain⟨G,E,s,I,_⟩:=h.ints;injection s with _ _ F;omega
 have H:=D h
 have y:=D (show Zb w B 0 [Value.int .i64 x]from fun j u b=>by
  cases j with
  |zero=>simp at b;subst b;exact hx
  |succ j=>simp at b)
 obtain⟨n,a⟩:=Je l.length
 rw[←a]at H hl q⊢
 clear h hx;change Hid _ at a
 go_enter Tryz.func125,Tryz.ntmps125
 go_upto_region 7 with fail
 go_wp2_with(refine Zn w rfl (.tmp 23) (.tmp 24) 45 rfl 3 Tryz.underlying45 Zfd rfl (by omega) (by omega) _ (l.map Zcy) M rfl H B cb [Value.int .i64 x] rfl y rfl (by intro u m;simp at m;subst m;rfl) (by rw[Xb];have:=a.out;omega) ?_;intro v' C z i g d;have p:=D i;have o:=D g;have r:=D d;clear i g d)
 all_goals
  go_ret
  exact⟨_,rfl,z,by unfold Z9;rw[Xs];exact p,o.out,r.out⟩
theorem Z9.addr (h:Z9 (.slice A n c) l w M) (hl:l≠[]):∃g,A=some ⟨g,0,none⟩∧n=l.length∧M=[g]:=by
 rcases h.form with⟨_,b,_⟩|⟨g,f,_,a,d,_⟩
 ·rw[List.map_eq_nil_iff]at b;exact absurd b hl
 ·injection a with a e i;exact⟨g,a,by rw[e,Xb],d⟩
theorem ZgA {gl:List (Value×Z5)} (h:YR b gl w F) (hll:gl.length≤1000000) (hl:∀p∈gl,p.2.members.length≤1000000) (id:Int) (hq:gl.findIdx? (fun p=>p.2.members.contains id)=none):
  Calls Tryz.prog 136 #[.pointer (some ⟨b,0,none⟩), .int .i64 id] w fun e w'=>e= .returned (.tuple #[.int .i64 0, .bool false])∧Zg [] w w':=by
 have q:=ZiC h hll hl id
 rw[Yo hq,show(1:Int)+ -1=0 by omega]at q
 have c:=D q
 clear q hq h hl
 go_enter Tryz.func136,Tryz.ntmps136
 go_wp2_with fail
 refine c.out.mono ?_
 rintro e g ⟨rfl,a⟩
 have d:=D a;clear a
 go_wp2_with fail
 go_ret2
 exact⟨rfl,d.out⟩
theorem ZgR {gl:List (Value×Z5)} (h:YR b gl w F) (hll:gl.length≤1000000) (hl:∀p∈gl,p.2.members.length≤1000000) (id:Int) {p:Value×Z5} (hs:p.2.members.Pairwise (·<·)) (hq:gl.findIdx? (fun p=>p.2.members.contains id)=some k) (hp:gl[k]? =some p):
  Calls Tryz.prog 136 #[.pointer (some ⟨b,0,none⟩), .int .i64 id] w fun e w'=>e= .returned (.tuple #[.int .i64 (k+1), .bool true])∧∃(v:Value) (F1:List Nat),YR b (gl.set k (v,{p.2 with members:=p.2.members.erase id})) w' F1∧Zi w w' F F1:=by
 have q:=ZiC h hll hl id
 rw[Yw hq,show(1:Int)+(k:Int)=k+1 by omega]at q
 have aA:=Yv hq
 have Q:id∈p.2.members:=by
  obtain⟨x,hx,aB,_⟩:=ZeN hq
  rw[hp]at hx;injection hx with hx;subst hx
  simpa using aB
 have am:p.2.members.length≤1000000:=hl p (Xc hp)
 obtain⟨he,S⟩:=ZjG hs Q
 have HQ:=D q;have H:=D h;have HP:=D hp;have HS:=D hs;have ad:=D Q
 obtain⟨Y,J⟩:=Je (p.2.members.countP (·<id))
 obtain⟨er,Z⟩:=Je (p.2.members.erase id)
 rw[←J,←Z]at he
 rw[←J]at S
 rw[←Z]
 have HE:=D he
 clear q hq h hp hl hs Q he Z;change Hid _ at J
 go_enter Tryz.func136,Tryz.ntmps136
 go_wp2_with fail
 refine HQ.out.mono ?_
 rintro e w2 ⟨rfl,R⟩
 have O:=(ZfO _ _).upd H R (by simp)
 obtain⟨G0,M,ho,r,V,hG,hM,ac⟩:=Ze8 O HP.out
 obtain⟨v,G,rfl,af,P,o⟩:=ho
 obtain⟨A,c,rfl,hc⟩:=o.form'
 rw[Xb]at P o
 obtain⟨g,rfl⟩:=YR.addr (b:=b) o aA
 have ay:G=[g]:=by obtain⟨_,_,O,_⟩:=o.block;exact O
 subst ay
 have an:b≠g:=by simpa using af
 have C:=D (show(gl.map fun p=>Zav p.1 p.2)[k]? =some (Zav p.1 p.2)by rw[Xe,HP.out];rfl)
 obtain⟨A2,d,z,aJ,_⟩:=r.ints
 rw[z]at r
 obtain⟨a,rfl,_,ax⟩:=r.addr (by intro e0;have:=ad.out;rw[e0]at this;cases this)
 subst ax
 have al:g≠a∧b≠a:=⟨by have:=V g (by simp);simpa using this,by have:=V b (by simp);simpa using this⟩
 have hL:=o.liesAt C.out
 have K:=Zhi r am HS id
 rw[←J.out,show p.2.members.contains id=true by simpa using ad.out]at K
 obtain⟨m,y⟩:=Je p.2.members.length
 rw[←y]at z r K S am
 have c0:=Jc 0 P
 have c6:w2.cell? ⟨g,k*2,none⟩=some (.slice (some ⟨a,0,none⟩) m d):=by rw[←z];exact hL 0 _ rfl
 have HB:=D P;have HR:=D o;have aF:=D R;have HN:=D ac;have HM:=D r;have az:=D K;have aL:=D hG;have aK:=D hM;have aj:=D an;have ao:=D al;have aa:=D z
 clear O r V hG hM ac P o K R an af hL al z;change Hid _ at y
 go_wp2_with fail
 refine az.out.mono ?_
 rintro e N ⟨rfl,s⟩
 have X:=(s.block b (Jg HB) (by simp)).trans HB.out
 have ab:=(Zd _ _ _ _).upd HR s (by simp)
 have ai:=(ZS _ _).upd HM s (by simp)
 have ae:=D X;have ar:=D ab;have aw:=D ai;have aE:=D s
 have ap:N.cell? ⟨g,k*2,none⟩=some (.slice (some ⟨a,0,none⟩) m d):=by rw[←aa.out];exact(ab.liesAt C) 0 _ rfl
 have ag:=Jc 0 X
 clear c0 c6 s X ab ai
 go_upto_region 5 with fail
 have aI:IntKind.i64.wrap (k:Int)=(k:Int):=IntWalk.i64_in _ (by omega)
 have aH:IntKind.i64.wrap ((Y:Int)+1)=(Y:Int)+1:=IntWalk.i64_in _ (by omega)
 refine Jr [0,4,8,12,16,20,24,28,32,36,40,44,48,52,56,60,64,68,73,76,80,86] (fun W=>W.cell? ⟨b,0,none⟩=some (.slice (some ⟨g,0,none⟩) gl.length c)∧W.cell? ⟨g,k*2,none⟩=some (.slice (some ⟨a,0,none⟩) m d)) ⟨ag,ap⟩ ?_
 clear ag ap
 repeat first|refine Jn ?_|refine Jf ?_|refine Ju ?_
 refine JE ?_
 simp only[Xu]
 have hd:=ZlJ (i:=Y) (l:=p.2.members) (w:=N.drewN 1) (g:=a) (c:=d) (M:=[a]) (by rw[←y.out];exact aw) (by rw[←y.out];exact S)
 rw[←y.out,HE.out]at hd
 have HD:=D hd;clear hd
 go_wp2_with fail
 refine HD.out.mono ?_
 rintro e n ⟨rfl,ah,E⟩
 have L:n.heap[b]? =_:=(E.block b (show b<(N.drewN 1).heap.size from(Jg ae)) (by simpa using ao.out.2)).trans ae.out
 have ak:Zj 205 2 (.slice (some ⟨g,0,none⟩) gl.length c) (gl.map fun p=>Zav p.1 p.2) n [g]:=(Zd _ _ _ _).upd (show Zj _ _ _ _ (N.drewN 1) _ from ar.out) E (by simpa using ao.out.1)
 have T:=D ak;have au:=D E;have aD:=D ah
 clear ak E ah HD;change Hid _ at L
 go_wp2_with fail
 refine⟨fun W=>W.cell? ⟨b,0,none⟩=some (.slice (some ⟨g,0,none⟩) gl.length c)∧W.cell? ⟨g,k*2,none⟩=some (.slice (some ⟨a,0,none⟩) m d),fun _ h=>h,⟨Zc (i:=0) L rfl,by rw[←aa.out];exact(T.liesAt C) 0 _ rfl⟩,?_⟩
 repeat first|refine Jn ?_|refine Jf ?_|refine Ju ?_
 refine JL ?_
 have I:=Zc0 (j:=0) T C (by omega) (.slice (some ⟨a,0,none⟩) (m-1) d)
 have k6:n.cell? ⟨g,k*2,none⟩=some (.slice (some ⟨a,0,none⟩) m d):=by rw[←aa.out];exact(T.liesAt C) 0 _ rfl
 rw[Nat.add_zero]at I
 have f6:=I.2
 have aG:=D I.1;clear I
 go_wp2_with fail
 refine Jz ?_
 clear k6 f6
 go_wp2_with fail
 go_ret2
 have av:Zg [b,g] n (n.setCell ⟨g,k*2,none⟩ (.slice (some ⟨a,0,none⟩) (m-1) d)):=(Zg.refl _ _).setCell (.inr (by simp)) _
 have aq:Zg [g] n (n.setCell ⟨g,k*2,none⟩ (.slice (some ⟨a,0,none⟩) (m-1) d)):=(Zg.refl _ _).setCell (.inr (by simp)) _
 have aC:=(aq.block b (Jg L) (by simpa using aj.out)).trans L.out
 obtain⟨F1,t1,t2⟩:=HN.out n _ (.slice (some ⟨a,0,none⟩) (m-1) d,{p.2 with members:=er}) [a] aD.out (Zi.of_upd (((aE.drewN 1).weaken (by simp)).trans au (fun k hk=> .inr hk))) ⟨_,[g],rfl,by simpa using aj.out,aC,by rw[List.map_set];exact aG⟩ av
 exact⟨rfl,_,F1,t1,(Zi.of_upd (aF.weaken (by simp))).trans t2⟩
theorem Zhl (h:Z9 (.slice A n c) l w M) (hl:l.length≤1000000) (hs:l.Pairwise (·<·)) (x:Int) (hx:∀y∈l,y<x):
  Calls Tryz.prog 124 #[.slice A n c, .int .i64 x] w fun e w'=>e= .returned (.tuple #[.int .i64 l.length, .bool false])∧Zg [] w w':=by
 have d:l.contains x=false:=by
  rw[Bool.eq_false_iff];intro h
  have:=hx x (by simpa using h);omega
 have j:l.countP (·<x)=l.length:=by rw[List.countP_eq_length];intro y k;simpa using hx y k
 cases l with
 |nil=>
  obtain⟨p,m,b,_,_⟩:=h.ints
  injection b with b i o
  subst i
  refine(Tryz.slices_BinarySearch_int_empty A c x w).mono ?_
  rintro e w' ⟨rfl,rfl⟩
  exact⟨rfl,Zg.refl _ _⟩
 |cons a l=>
  obtain⟨g,rfl,rfl,rfl⟩:=h.addr (by simp)
  have q:=Zhi h hl hs x
  rw[d,j]at q
  exact q
theorem Zmm {gl:List (Value×Z5)} (h:YR b gl w F) (hll:gl.length≤1000000) (hl:∀p∈gl,p.2.members.length≤1000000) (id:Int) (hid:1≤id) {k:Nat} {p:Value×Z5} (hs:p.2.members.Pairwise (·<·)) (hq:gl.findIdx? (fun p=>p.2.members.contains id)=none) (hp:gl[k]? =some p) (htn:p.2.torn=false) (hlt:∀y∈p.2.members,y<id):
  Calls Tryz.prog 68 #[.pointer (some ⟨b,0,none⟩), .int .i64 (k+1), .int .i64 id] w fun e w'=>e= .returned (.int .i64 0)∧∃(v:Value) (F1:List Nat),YR b (gl.set k (v,{p.2 with members:=p.2.members++[id]})) w' F1∧Zi w w' F F1:=by
 have ay:k<gl.length:=(Jk hp)
 have q0:=ZjA h hll (k+1)
 have hh:Zfi gl.length (k+1)=true:=by unfold Zfi;rw[decide_eq_true (by omega),decide_eq_true (by omega)];rfl
 rw[hh]at q0
 have q:=ZiC h hll hl id
 rw[Yo hq,show(1:Int)+ -1=0 by omega]at q
 have af:p.2.members.length≤1000000:=hl p (Xc hp)
 have aB:=D q0;have HQ:=D q;have H:=D h;have HP:=D hp;have HS:=D hs;have aS:=D hlt
 obtain⟨A0,aX,a0,_,ar,ad,_⟩:=YR.row h
 obtain⟨g0,rfl⟩:=YR.addr (b:=b) ad ay
 have d0:=Jc 0 ar
 have d1:w.cell? ⟨g0,k*2+1,none⟩=some (.bool false):=by rw[←htn];exact(ad.liesAt (show(gl.map fun p=>Zav p.1 p.2)[k]? =some (Zav p.1 p.2)by rw[Xe,hp];rfl)) 1 _ rfl
 clear q0 q hq h hp hl hs hh hlt htn ar ad
 have aY:¬id<1:=by omega
 go_enter Tryz.func68,Tryz.ntmps68
 go_wp2_with fail
 refine aB.out.mono ?_
 rintro e w1 ⟨rfl,an⟩
 rw[an];clear an w1 aB
 go_wp2_with fail
 refine HQ.out.mono ?_
 rintro e w2 ⟨rfl,V⟩
 have R:=(ZfO _ _).upd H V (by simp)
 obtain⟨G0,M,ho,r,aa,hG,hM,ah⟩:=Ze8 R HP.out
 obtain⟨v,G,rfl,am,S,d⟩:=ho
 obtain⟨A,c,rfl,hc⟩:=d.form'
 rw[Xb]at S d
 obtain⟨g,rfl⟩:=YR.addr (b:=b) d ay
 have aL:G=[g]:=by obtain⟨_,_,R,_⟩:=d.block;exact R
 subst aL
 have aC:b≠g:=by simpa using am
 have o:=D (show(gl.map fun p=>Zav p.1 p.2)[k]? =some (Zav p.1 p.2)by rw[Xe,HP.out];rfl)
 obtain⟨m,n,I,aV,_⟩:=r.ints
 rw[I]at r
 have az:g∉M∧b∉M:=⟨aa g (by simp),aa b (by simp)⟩
 have hL:=d.liesAt o.out
 have ac:=Zhl r af HS id aS.out
 obtain⟨x,C⟩:=Je p.2.members.length
 rw[←C]at I r ac af
 have c0:=Jc 0 S
 have c6:w2.cell? ⟨g,k*2,none⟩=some (.slice m x n):=by rw[←I];exact hL 0 _ rfl
 have HB:=D S;have HR:=D d;have aR:=D V;have HN:=D ah;have HM:=D r;have aM:=D ac;have aZ:=D hG;have aW:=D hM;have au:=D aC;have aD:=D az;have O:=D I
 clear R r aa hG hM ah S d ac V aC am hL az I d0 d1;change Hid _ at C
 go_wp2_with fail
 refine aM.out.mono ?_
 rintro e a ⟨rfl,z⟩
 have ab:=(z.block b (Jg HB) (by simp)).trans HB.out
 have ag:=(Zd _ _ _ _).upd HR z (by simp)
 have ap:=(ZS _ _).upd HM z (by simp)
 have ak:=D ab;have aG:=D ag;have aJ:=D ap;have aQ:=D z
 have aE:a.cell? ⟨g,k*2,none⟩=some (.slice m x n):=by rw[←O.out];exact(ag.liesAt o) 0 _ rfl
 have ao:=Jc 0 ab
 clear c0 c6 z ab ag ap
 go_upto_region 12 with fail
 have aU:IntKind.i64.wrap (k:Int)=(k:Int):=IntWalk.i64_in _ (by omega)
 refine Jr [0,4,8,12,16,20,24,28,32,36,40,44,48,52,56,60,64,69,73,76,80,86] (fun W=>W.cell? ⟨b,0,none⟩=some (.slice (some ⟨g,0,none⟩) gl.length c)∧W.cell? ⟨g,k*2,none⟩=some (.slice m x n)) ⟨ao,aE⟩ ?_
 clear ao aE
 repeat first|refine Jn ?_|refine Jf ?_|refine Ju ?_
 refine JE ?_
 go_wp2_with fail
 obtain⟨w5,N⟩:=Je ((a.alloc (.cells #[.int .i64 id] 3)).drew)
 rw[←N]
 have E:Zg [] a w5:=by rw[N];exact((Zg.refl [] a).alloc _).drew
 have al:w5.cell? ⟨a.heap.size,0,none⟩=some (.int .i64 id):=by rw[N];exact Zc (w:=(a.alloc _).drew) (i:=0) (Za (w:=a) _) rfl
 have Z:=(E.block b (Jg ak) (by simp)).trans ak.out
 have X:=(Zd _ _ _ _).upd aG E (by simp)
 have ax:=(ZS _ _).upd aJ E (by simp)
 have hd:=ZlG (A:=m) (c:=n) (l:=p.2.members) (w:=w5) (M:=M) (by rw[←C.out];exact ax) (by rw[←C.out];exact af) id a.heap.size 1 al
 rw[←C.out]at hd
 have HD:=D hd;have aA:=D Z;have aK:=D X
 refine⟨fun W=>W.cell? ⟨b,0,none⟩=some (.slice (some ⟨g,0,none⟩) gl.length c)∧W.cell? ⟨g,k*2,none⟩=some (.slice m x n),fun _ h=>h,⟨Zc (i:=0) Z rfl,by rw[←O.out];exact(X.liesAt o) 0 _ rfl⟩,?_⟩
 clear hd N al Z X ax;change Hid _ at E
 refine JE ?_
 go_wp2_with fail
 refine HD.out.mono ?_
 rintro e s ⟨v4,rfl,M4,L,J,aq⟩
 obtain⟨T,P,rfl,_,_⟩:=L.ints
 obtain⟨Q,ai⟩:=Je ((p.2.members++[id]).length)
 rw[←ai]at L⊢
 have av:=(J.block b (Jg aA) aD.out.2).trans aA.out
 have aw:=(Zd _ _ _ _).upd aK J (by simpa using aD.out.1)
 have ae:=D av;have Y:=D aw;have aI:=D J;have aP:=D L;have aN:=D aq
 clear av aw J L HD aq ai
 go_wp2_with fail
 refine⟨fun W=>W.cell? ⟨b,0,none⟩=some (.slice (some ⟨g,0,none⟩) gl.length c)∧W.cell? ⟨g,k*2,none⟩=some (.slice m x n),fun _ h=>h,⟨Zc (i:=0) ae rfl,by rw[←O.out];exact(Y.liesAt o) 0 _ rfl⟩,?_⟩
 repeat first|refine Jn ?_|refine Jf ?_|refine Ju ?_
 refine JL ?_
 have K:=Zc0 (j:=0) Y o (by omega) (.slice T Q P)
 have k6:s.cell? ⟨g,k*2,none⟩=some (.slice m x n):=by rw[←O.out];exact(Y.liesAt o) 0 _ rfl
 rw[Nat.add_zero]at K
 have f6:=K.2
 have aT:=D K.1;clear K
 go_wp2_with fail
 refine Jz ?_
 clear k6 f6
 go_wp2_with fail
 go_ret
 have aO:Zg [b,g] s (s.setCell ⟨g,k*2,none⟩ (.slice T Q P)):=(Zg.refl _ _).setCell (.inr (by simp)) _
 have aF:Zg [g] s (s.setCell ⟨g,k*2,none⟩ (.slice T Q P)):=(Zg.refl _ _).setCell (.inr (by simp)) _
 have aH:=(aF.block b (Jg ae) (by simpa using au.out)).trans ae.out
 have aj:=aQ.trans E (by simp)
 obtain⟨F1,t1,t2⟩:=HN.out s _ (.slice T Q P,{p.2 with members:=p.2.members++[id]}) M4 aP ⟨(aj.weaken (by simp)).trans aI (fun k hk=> .inr hk),fun k hk=>(aN.out k hk).imp _root_.id (fun h=>Xj aj.size h)⟩ ⟨_,[g],rfl,by simpa using au.out,aH,by rw[List.map_set];exact aT⟩ aO
 exact⟨rfl,_,F1,t1,(Zi.of_upd (aR.weaken (by simp))).trans t2⟩
def Zoj (u:Value) (g:ZgP):List Value:=[u, .bool g.aborted]
def ZdK (b:Nat) (gl:List (Value×ZgP)):YG:=Zbd b (fun v=> #[v]) 137 150 2 Zoj (·.parents) gl
def Zec (b:Nat) (l:List ZgP):YG:=Zib b (fun v=> #[v]) 137 150 2 Zoj (·.parents) l
theorem Yz (b:Nat) (l:List ZgP):(Zec b l).Local:=ZdZ _ _ _ _ _ _ _ _
theorem ZdK.one {gl:List (Value×ZgP)} (h:ZdK b gl w F):∀p∈gl,p.1.oneCell'=true:=fun p hp=>by
 obtain⟨i,hi⟩:=List.getElem?_of_mem hp
 obtain⟨M,hm,_⟩:=ZcY h hi
 obtain⟨A,c,e,_⟩:=hm.ints
 rw[e];rfl
theorem ZdK.row {gl:List (Value×ZgP)} (h:ZdK b gl w F):
  ∃A c G,b∉G∧w.heap[b]? =some (.cells #[.slice A gl.length c] 137 (0,0))∧Zj 150 2 (.slice A gl.length c) (gl.map fun p=>Zoj p.1 p.2) w G∧(∀q∈b::G,q∈F)∧gl.length≤c:=by
 obtain⟨i,ho,g,_⟩:=Zf9 h
 obtain⟨v,G,rfl,f,d,a⟩:=ho
 obtain⟨A,c,rfl,e⟩:=a.form'
 rw[Xb]at d a e
 exact⟨A,c,G,f,d,a,g,e⟩
theorem ZqX {gl:List (Value×ZgP)} (h:ZdK b gl w F) (hl:gl.length≤1000000) (g:Int):
  Calls Tryz.prog 59 #[.pointer (some ⟨b,0,none⟩), .int .i64 g] w fun e w'=>e= .returned (.bool (Zfi gl.length g))∧w'=w:=by
 obtain⟨A,c,G,j,i,k,_⟩:=ZdK.row h
 have l:=Jc 0 i
 unfold Zfi
 clear i k j h
 by_cases a:1≤g
 ·by_cases d:g≤gl.length
  ·rw[decide_eq_true a,decide_eq_true d]
   go_enter Tryz.func59,Tryz.ntmps59
   go_wp2
   go_ret
   exact⟨rfl,rfl⟩
  ·rw[decide_eq_true a,decide_eq_false d]
   go_enter Tryz.func59,Tryz.ntmps59
   go_wp2
   go_ret
   exact⟨rfl,rfl⟩
 ·rw[decide_eq_false a]
  go_enter Tryz.func59,Tryz.ntmps59
  go_wp2
  go_ret
  exact⟨rfl,rfl⟩
theorem Zk9 {gl:List (Value×ZgP)} (h:ZdK b gl w F) (hl:gl.length≤1000000) (g:Int):
  Calls Tryz.prog 109 #[.pointer (some ⟨b,0,none⟩), .int .i64 g] w fun e w'=>e= .returned (.bool (Zfi gl.length g&&(gl[(g-1).toNat]?.map (·.2.aborted)).getD false))∧w'=w:=by
 have q:=ZqX h hl g
 obtain⟨A,c,G,s,m,j,_⟩:=ZdK.row h
 have z:=Jc 0 m
 cases hh:Zfi gl.length g with
 |false=>
  rw[hh]at q
  have n:=D q
  clear q m j s h hh z
  go_enter Tryz.func109,Tryz.ntmps109
  go_wp2_with fail
  refine n.out.mono ?_
  rintro e r ⟨rfl,d⟩
  rw[d];clear d r
  go_wp2_with fail
  go_ret
  exact⟨rfl,rfl⟩
 |true=>
  rw[hh]at q
  obtain⟨i,H⟩:1≤g∧g≤gl.length:=by unfold Zfi at hh;simpa using hh
  obtain⟨k,E⟩:∃k:Nat,g=(k:Int)+1:=⟨(g-1).toNat,by omega⟩
  subst E
  have l:k<gl.length:=by omega
  obtain⟨p,o⟩:∃p,gl[k]? =some p:=⟨_,Xa l⟩
  have x:((k:Int)+1-1).toNat=k:=by omega
  rw[x,o]
  obtain⟨a,rfl⟩:∃g,A=some ⟨g,0,none⟩:=by
   rcases j.form with⟨_,y,_⟩|⟨g,I,_,i,_⟩
   ·rw[List.map_eq_nil_iff]at y;rw[y]at l;simp at l
   ·injection i with i;exact⟨g,i⟩
  have C:w.cell? ⟨a,k*2+1,none⟩=some (.bool p.2.aborted):=(j.liesAt (show(gl.map fun p=>Zoj p.1 p.2)[k]? =some (Zoj p.1 p.2)by rw[Xe,o];rfl)) 1 _ rfl
  obtain⟨t,ht⟩:=Je p.2.aborted
  simp only[Option.map_some,Option.getD_some]
  rw[←ht]at C⊢
  have n:=D q
  clear q m j s h hh o ht x i H
  go_enter Tryz.func109,Tryz.ntmps109
  go_wp2_with fail
  refine n.out.mono ?_
  rintro e r ⟨rfl,d⟩
  rw[d];clear d r
  go_wp2_with fail
  go_ret
  exact⟨by simp,rfl⟩
theorem Zq8 {gl:List (Value×ZgP)} (h:ZdK b gl w F) (hl:gl.length≤1000000):
  Calls Tryz.prog 108 #[.pointer (some ⟨b,0,none⟩)] w fun e w'=>e= .returned (.int .i64 gl.length)∧w'=w:=by
 obtain⟨A,c,G,d,a,g,_⟩:=ZdK.row h
 have i:=Jc 0 a
 clear a g d h
 go_enter Tryz.func108,Tryz.ntmps108
 go_wp2
 go_ret
 exact⟨rfl,rfl⟩
end Go.Proofs.YtbgbeddbfaopgaaGreatDoor
namespace Go.Proofs.YtbgbeddbfaopgaaGreatDoor
open Go.RowKit Go.Lk
theorem ZdK.addr {gl:List (Value×ZgP)} {c g0:Nat} (hr:Zj 150 2 (.slice A gl.length c) (gl.map fun p=>Zoj p.1 p.2) w G) (hl:g0<gl.length):∃g,A=some ⟨g,0,none⟩:=by
 rcases hr.form with⟨_,b,_⟩|⟨g,d,_,a,_⟩
 ·rw[List.map_eq_nil_iff]at b;rw[b]at hl;simp at hl
 ·injection a with a;exact⟨g,a⟩
open Go.Lk
def leT (a b:ZC):Prop:=a.due<b.due∨(a.due=b.due∧a.id≤b.id)
def Zca (a b:ZC):Bool:=decide (a.due<b.due)||(decide (a.due=b.due)&&decide (a.id<b.id))
theorem ZeF:Zca a b=true↔(a.due<b.due∨(a.due=b.due∧a.id<b.id)):=by
 unfold Zca;simp
theorem Zgk:Zca a b=false↔leT b a:=by
 unfold leT
 rw[←Bool.not_eq_true,ZeF]
 omega
theorem ZgB (h:Zca a b=true):leT a b:=by
 rw[ZeF]at h;unfold leT;omega
theorem ZbJ (h1:leT a b) (h2:leT b c):leT a c:=by unfold leT at*;omega
theorem Zge (a:ZC):leT a a:=by unfold leT;omega
def okT (l:List ZC) (j:Nat):Prop:=∀x y,l[j]? =some x→l[(j-1)/2]? =some y→leT y x
def Zdk (l:List ZC):Prop:=∀j,0<j→okT l j
def Zq4 (l:List ZC) (i:Nat):Prop:=0<i→∀j x y,0<j→(j-1)/2=i→l[j]? =some x→l[(i-1)/2]? =some y→leT y x
def UpT (l:List ZC) (i:Nat):Prop:=(∀j,0<j→j≠i→okT l j)∧Zq4 l i
structure DnT (l:List ZC) (k i:Nat):Prop where
 ik:i≤k
 ok:∀j,0<j→j≠i→(j-1)/2≠k→okT l j
 kk:Zq4 l k
 ki:Zq4 l i
 top:k≠i→0<i→okT l i
def ZdL (l:List ZC) (i j:Nat) (x y:ZC):List ZC:=(l.set i y).set j x
theorem ZgS {l:List ZC} {i j:Nat} (hi:l[i]? =some x) (hj:l[j]? =some y) (hij:i≠j) (m:Nat):
  (ZdL l i j x y)[m]? =if m=i then some y else if m=j then some x else l[m]? :=by
 have b:=(Jk hi)
 have c:=(Jk hj)
 unfold ZdL
 rw[List.getElem?_set,List.getElem?_set,List.length_set]
 by_cases e:j=m
 ·subst e
  simp[c,Ne.symm hij]
 ·by_cases a:i=m
  ·subst a;simp[b,e]
  ·simp[e,a,Ne.symm e,Ne.symm a]
theorem Zbg (l:List ZC) (i j:Nat) (x y:ZC):(ZdL l i j x y).length=l.length:=by unfold ZdL;simp
theorem Zft {l:List ZC} {i j:Nat} (hi:l[i]? =some x) (hj:l[j]? =some y) (hij:i≠j):(ZdL l i j x y).Perm l:=by
 have b:=(Jk hi)
 have c:=(Jk hj)
 have a:=(List.getElem?_eq_some_iff.1 hi).2
 have d:=(List.getElem?_eq_some_iff.1 hj).2
 unfold ZdL
 have:=List.set_set_perm («as»:=l) (i:=i) (j:=j) b c
 rw[a,d]at this
 exact this
theorem Zq6 (h:UpT l i) (h0:0<i) (hx:l[i]? =some x) (hy:l[(i-1)/2]? =some y) (ha:Zca x y=true):UpT (ZdL l i ((i-1)/2) x y) ((i-1)/2):=by
 have k:i≠(i-1)/2:=by omega
 have hg:=ZgS hx hy k
 have g:=ZgB ha
 refine⟨fun j b d u v a hv=> ?_,fun b j u v d n a hv=> ?_⟩
 ·rw[hg]at a hv
  by_cases e:j=i
  ·subst e
   rw[if_pos rfl]at a;cases a
   rw[if_neg k.symm,if_pos rfl]at hv;cases hv
   exact g
  ·rw[if_neg e,if_neg d]at a
   by_cases c:(j-1)/2=i
   ·rw[if_pos c]at hv;cases hv
    exact h.2 h0 j u y b c a hy
   ·rw[if_neg c]at hv
    by_cases f:(j-1)/2=(i-1)/2
    ·rw[if_pos f]at hv;cases hv
     exact ZbJ g (h.1 j b e u y a (by rw[f];exact hy))
    ·rw[if_neg f]at hv
     exact h.1 j b e u v a hv
 ·rw[hg]at a hv
  rw[if_neg (show((i-1)/2-1)/2≠i by omega),if_neg (show((i-1)/2-1)/2≠(i-1)/2 by omega)]at hv
  have m:leT v y:=h.1 _ b (by omega) y v hy hv
  by_cases e:j=i
  ·rw[if_pos e]at a;cases a;exact m
  ·rw[if_neg e,if_neg (show j≠(i-1)/2 by omega)]at a
   exact ZbJ m (h.1 j d e u y a (by rw[n];exact hy))
theorem Zrr (h:UpT l i) (hx:l[i]? =some x) (hy:l[(i-1)/2]? =some y) (ha:Zca x y=false):Zdk l:=fun j hj=>by
 by_cases e:j=i
 ·subst e
  intro u v hu hv
  rw[hx]at hu;rw[hy]at hv;cases hu;cases hv
  exact Zgk.1 ha
 ·exact h.1 j hj e
theorem Zq9 (h:UpT l 0):Zdk l:=fun j hj=>h.1 j hj (by omega)
theorem Zq2 {k i c:Nat} (h:DnT l k i) (hc:0<c) (hck:(c-1)/2=k) (hx:l[k]? =some x) (hy:l[c]? =some y) (ha:Zca y x=true)
  (hmin:∀d u,0<d→(d-1)/2=k→l[d]? =some u→leT y u):DnT (ZdL l k c x y) c i:=by
 have s:=h.ik
 have r:k≠c:=by omega
 have hg:=ZgS hx hy r
 have o:=ZgB ha
 refine⟨by omega,fun j f b g u v a hv=> ?_,fun f j u v b g a hv=> ?_,fun f j u v b g a hv=> ?_,fun f b u v a hv=> ?_⟩
 ·rw[hg]at a hv
  rw[if_neg g]at hv
  by_cases e:j=k
  ·subst e
   rw[if_pos rfl]at a;cases a
   rw[if_neg (show(j-1)/2≠j by omega)]at hv
   exact h.kk f c y v hc hck hy hv
  ·rw[if_neg e]at a
   by_cases m:j=c
   ·subst m
    rw[if_pos rfl]at a;cases a
    rw[if_pos hck]at hv;cases hv
    exact o
   ·rw[if_neg m]at a
    by_cases n:(j-1)/2=k
    ·rw[if_pos n]at hv;cases hv
     exact hmin j u f n a
    ·rw[if_neg n]at hv
     exact h.ok j f b n u v a hv
 ·rw[hg]at a hv
  rw[hck,if_pos rfl]at hv;cases hv
  rw[if_neg (by omega),if_neg (by omega)]at a
  exact h.ok j b (by omega) (by omega) u y a (by rw[g];exact hy)
 ·rw[hg]at a hv
  rw[if_neg (by omega),if_neg (by omega)]at hv
  by_cases e:j=k
  ·subst e
   rw[if_pos rfl]at a;cases a
   have p:=h.kk b c y
   rw[g]at p
   obtain⟨z,q⟩:∃z,l[i]? =some z:=⟨_,Xa (by have:=(Jk hx);omega)⟩
   exact ZbJ (h.top (by omega) f z v q hv) (p z hc hck hy q)
  ·rw[if_neg e]at a
   by_cases m:j=c
   ·subst m
    rw[if_pos rfl]at a;cases a
    exact ZbJ (h.ki f j y v b g hy hv) o
   ·rw[if_neg m]at a
    exact h.ki f j u v b g a hv
 ·rw[hg]at a hv
  rw[if_neg (by omega),if_neg (by omega)]at hv
  by_cases e:i=k
  ·subst e
   rw[if_pos rfl]at a;cases a
   exact h.ki b c y v hc hck hy hv
  ·rw[if_neg e,if_neg (by omega)]at a
   exact h.top (Ne.symm e) b u v a hv
theorem Zrj (h:DnT l k i) (hx:l[k]? =some x) (hmin:∀d u,0<d→(d-1)/2=k→l[d]? =some u→leT x u):UpT l i:=
 ⟨fun j h1 h2=>by
  by_cases e:(j-1)/2=k
  ·intro u v hu hv
   rw[e,hx]at hv;cases hv
   exact hmin j u h1 e hu
  ·exact h.ok j h1 h2 e,h.ki⟩
theorem Zrz {i n:Nat} (h:Zdk l) (hn:l.length=n+1) (hi:i<n) (hz:l[n]? =some z):DnT ((l.set i z).take n) i i:=by
 have hg:∀m,m≠i→∀u,((l.set i z).take n)[m]? =some u→l[m]? =some u:=fun m o u c=>by
  rw[List.getElem?_take]at c
  split at c
  ·rw[List.getElem?_set,if_neg (Ne.symm o)]at c;exact c
  ·cases c
 have g:Zq4 ((l.set i z).take n) i:=fun d j u v f e c hv=>by
  have a:=hg j (by omega) u c
  have b:=hg _ (by omega) v hv
  obtain⟨y,k⟩:∃y,l[i]? =some y:=⟨_,Xa (by omega)⟩
  exact ZbJ (h i d y v k b) (h j f u y a (by rw[e];exact k))
 exact⟨Xi _,fun j d f e u v c hv=>h j d u v (hg j f u c) (hg _ e v hv),g,g,fun d=>absurd rfl d⟩
theorem Zoh (h:Zdk l) (n:Nat):Zdk (l.take n):=fun j hj u v hu hv=>by
 rw[List.getElem?_take]at hu hv
 split at hu
 ·split at hv
  ·exact h j hj u v hu hv
  ·cases hv
 ·cases hu
theorem ZnB (h:Zdk l) (t:ZC):UpT (l++[t]) l.length:=by
 have hg:∀m,m≠l.length→∀u,(l++[t])[m]? =some u→l[m]? =some u:=fun m g u b=>by
  by_cases e:m<l.length
  ·rw[List.getElem?_append_left e]at b;exact b
  ·have:=(Jk b);simp at this;omega
 refine⟨fun j c d u v b hv=> ?_,fun c j u v d f b hv=> ?_⟩
 ·have a:=hg j d u b
  exact h j c u v a (hg _ (by have:=(Jk a);omega) v hv)
 ·have:=(Jk b);simp at this;omega
theorem ZpD (h:Zdk l) (h0:l[0]? =some t):∀(j:Nat) (x:ZC),l[j]? =some x→leT t x:=by
 intro j
 induction j using Nat.strongRecOn with
 |ind j ih=>
  intro x hx
  by_cases e:j=0
  ·subst e;rw[h0]at hx;cases hx;exact Zge _
  ·obtain⟨y,a⟩:∃y,l[(j-1)/2]? =some y:=⟨_,Xa (by have:=(Jk hx);omega)⟩
   exact ZbJ (ih _ (by omega) y a) (h j (by omega) x y hx a)
theorem ZhW:∀{l:List ZC} {t:ZC},Zdt l=some t→t∈l∧∀x∈l,leT t x
 |[],t,h=>by cases h
 |a::l,t,h=>by
  unfold Zdt at h
  cases hq:Zdt l with
  |none=>
   rw[hq]at h;cases h
   refine⟨by simp,fun x hx=> ?_⟩
   rcases List.mem_cons.1 hx with rfl|hx
   ·exact Zge _
   ·cases l with
    |nil=>cases hx
    |cons b l=>unfold Zdt at hq;split at hq<;>first|cases hq|(split at hq<;>cases hq)
  |some y=>
   rw[hq]at h
   obtain⟨h1,h2⟩:=ZhW hq
   dsimp only at h
   split at h
   ·cases h
    refine⟨by simp,fun x hx=> ?_⟩
    rcases List.mem_cons.1 hx with rfl|hx
    ·exact Zge _
    ·exact ZbJ (by unfold leT;omega) (h2 x hx)
   ·cases h
    refine⟨by simp[h1],fun x hx=> ?_⟩
    rcases List.mem_cons.1 hx with rfl|hx
    ·unfold leT;omega
    ·exact h2 x hx
theorem Zkx {l:List ZC} {t:ZC} (ht:t∈l):∃x,Zdt l=some x:=by
 cases l with
 |nil=>cases ht
 |cons a l=>
  unfold Zdt
  split
  ·exact⟨_,rfl⟩
  ·split<;>exact⟨_,rfl⟩
theorem Zpe {l:List ZC} (hn:(l.map (·.id)).Nodup) {t:ZC} (ht:t∈l) (hm:∀x∈l,leT t x):Zdt l=some t:=by
 obtain⟨x,hx⟩:=Zkx ht
 obtain⟨g,n⟩:=ZhW hx
 have f:x.id=t.id:=by
  have a:=hm x g;have b:=n t ht
  unfold leT at a b;omega
 rw[hx]
 congr 1
 obtain⟨i,k,c⟩:=List.getElem_of_mem g
 obtain⟨j,m,d⟩:=List.getElem_of_mem ht
 have e:=List.pairwise_iff_getElem.1 hn
 have:i=j:=by
  rcases Nat.lt_trichotomy i j with h|h|h
  ·exact absurd (show(l.map (·.id))[i]'(by simpa using k)=(l.map (·.id))[j]'(by simpa using m)by simp[c,d,f]) (e i j _ _ h)
  ·exact h
  ·exact absurd (show(l.map (·.id))[j]'(by simpa using m)=(l.map (·.id))[i]'(by simpa using k)by simp[c,d,f]) (e j i _ _ h)
 subst this
 rw[←c,←d]
structure ZcC (arr l:List ZC) (last:Int):Prop where
 perm:arr.Perm l
 heap:Zdk arr
 nodup:(l.map (·.id)).Nodup
 ids:∀t∈l,1≤t.id∧t.id≤last
theorem ZcC.first {arr l:List ZC} {last:Int} (h:ZcC arr l last):Zdt l=arr[0]? :=by
 cases arr with
 |nil=>have:=h.perm.symm.eq_nil;subst this;rfl
 |cons t arr=>
  refine Zpe h.nodup (h.perm.mem_iff.1 (by simp)) (fun x hx=> ?_)
  obtain⟨j,a,e⟩:=List.getElem_of_mem (h.perm.mem_iff.2 hx)
  exact ZpD h.heap rfl j x (by rw[Xa a,e])
theorem ZcC.length {arr l:List ZC} {last:Int} (h:ZcC arr l last):arr.length=l.length:=h.perm.length_eq
theorem ZcC.arm {arr l arr':List ZC} {last:Int} (h:ZcC arr l last) {t:ZC} (ht:t.id=last+1) (h0:0≤last) (hp:arr'.Perm (arr++[t])) (hh:Zdk arr'):ZcC arr' (l++[t]) (last+1):=by
 refine⟨hp.trans (h.perm.append_right _),hh,?_,fun x hx=> ?_⟩
 ·rw[Xs,List.nodup_append]
  refine⟨h.nodup,by simp,fun a ha b c=> ?_⟩
  obtain⟨x,hx,rfl⟩:=List.mem_map.1 ha
  simp at c;subst c
  have:=(h.ids x hx).2;omega
 ·rcases List.mem_append.1 hx with hx|hx
  ·have:=h.ids x hx;omega
  ·rw[Jm hx];omega
theorem ZnH {l:List ZC} (hn:(l.map (·.id)).Nodup) {t:ZC} {r:List ZC} (hp:(t::r).Perm l):r.Perm (l.filter fun x=>x.id !=t.id):=by
 have a:((t::r).filter fun x=>x.id !=t.id).Perm (l.filter fun x=>x.id !=t.id):=hp.filter _
 have b:((t::r).map (·.id)).Nodup:=(hp.map _).nodup_iff.2 hn
 rw[List.filter_cons_of_neg (by simp)]at a
 have:(r.filter fun x=>x.id !=t.id)=r:=by
  rw[List.filter_eq_self]
  intro x hx
  rw[List.map_cons,List.nodup_cons]at b
  have:x.id≠t.id:=fun e=>b.1 (by rw[←e];exact List.mem_map.2 ⟨x,hx,rfl⟩)
  simpa using this
 rw[this]at a
 exact a
theorem ZcC.cut {arr l arr':List ZC} {last:Int} (h:ZcC arr l last) {t:ZC} (hp:(t::arr').Perm arr) (hh:Zdk arr'):ZcC arr' (l.filter fun x=>x.id !=t.id) last:=
 ⟨ZnH h.nodup (hp.trans h.perm),hh,(h.nodup.sublist ((List.filter_sublist).map _)),fun x hx=>h.ids x (List.mem_filter.1 hx).1⟩
theorem ZpQ {l:List ZC} {i n:Nat} (hn:l.length=n+1) (hi:i<n) (hx:l[i]? =some x) (hz:l[n]? =some z):(x::(l.set i z).take n).Perm l:=by
 have e:ZdL l i n x z=(l.set i z).take n++[x]:=by
  refine List.ext_getElem? (fun m=> ?_)
  rw[ZgS hx hz (by omega)]
  have b:((l.set i z).take n).length=n:=by simp;omega
  by_cases c:m<n
  ·rw[List.getElem?_append_left (by omega),List.getElem?_take,if_pos c,List.getElem?_set]
   by_cases a:m=i
   ·subst a;simp;omega
   ·rw[if_neg a,if_neg (by omega),if_neg (Ne.symm a)]
  ·by_cases a:m=n
   ·subst a
    rw[if_neg (by omega),if_pos rfl,List.getElem?_append_right (by omega),b];simp
   ·rw[if_neg (by omega),if_neg a,List.getElem?_eq_none (by omega),List.getElem?_eq_none (by simp;omega)]
 have:=Zft hx hz (by omega)
 rw[e]at this
 exact(List.perm_append_comm (l₁:=[x]) (l₂:=(l.set i z).take n)).trans this
theorem Zql {l:List ZC} {n:Nat} (hn:l.length=n+1) (hx:l[n]? =some x):(x::l.take n).Perm l:=by
 have e:l=l.take n++[x]:=by
  have:=Xr (l:=l) (i:=n) (by omega)
  rw[List.take_of_length_le (by omega),(List.getElem?_eq_some_iff.1 hx).2]at this
  exact this
 exact(List.perm_append_comm (l₁:=[x]) (l₂:=l.take n)).trans (by rw[←e])
theorem ZoG:(Tryz.prog.info? 239).map (fun i=>(i.zero,i.size,i.bytes))=some (some (.agg #[.int .u64 0, .int .i64 0, .int .i64 0]),3,24):=by kernel_rfl
theorem ZhA:Zu Tryz.prog 239 3=true:=by kernel_rfl
end Go.Proofs.YtbgbeddbfaopgaaGreatDoor
namespace Go.Lk
open Go Go.RowKit
theorem Zaq {P:Program} (w:World) {ops:Array Oper} {rest:List Oper} {o:Oper} {a:Act} {Q:Exit→Act→World→Prop} (hgd:o.guard=none) (t:TypeId) (x y:Operand) (ho:o.op= .store t x y)
  {k g n cap i:Nat} {xs:List (List Value)} (cs:List Value) (hr:Zj t k (.slice (some ⟨g,0,none⟩) n cap) xs w F) (hi:i<xs.length) (hc:cs.length=k)
  (hx:a.eval x= .pointer (some ⟨g,i*k,none⟩)) (hy:a.eval y= .agg cs.toArray) (ht:Zu P t k=true) (h1:∀u∈cs,u.oneCell'=true)
  (h:∀w',Zj t k (.slice (some ⟨g,0,none⟩) n cap) (xs.set i cs) w' F→Zg [g] w w'→wpList P ops Q rest (a.put o.dst undef) w'):wpList P ops Q (o::rest) a w:=by
 obtain⟨d,b,e,c⟩:=Ze9 (cs:=cs) hr hi hc
 refine ZbU w hgd t x y ho g (i*k) cs.toArray d t hx hy (by simpa[hc]using ht) b (by simpa using e) (by rw[Xl,Xk];exact h1) ?_
 refine h _ (c _ ?_) ((Zg.refl _ _).setRow (.inr (by simp)) _)
 rw[setRow_heap _ _ _ _ _ _ b]
 congr 2
end Go.Lk
namespace Go.Proofs.YtbgbeddbfaopgaaGreatDoor
open Go.RowKit Go.Lk
def YQ (t:ZC):List Value:=[.int .u64 (t.due:Int), .int .i64 t.id, .int .i64 t.tag]
theorem Zcm (t:ZC):∀v∈YQ t,v.oneCell'=true:=by unfold YQ;simp[Value.oneCell']
structure ZbG (b g cap:Nat) (most last:Int) (arr:List ZC) (w:World):Prop where
 blk:w.heap[b]? =some (.cells #[.slice (some ⟨g,0,none⟩) arr.length cap, .int .i64 most, .int .i64 last] 131 (0,0))
 row:Zj 239 3 (.slice (some ⟨g,0,none⟩) arr.length cap) (arr.map YQ) w [g]
 ne:b≠g
theorem ZbG.upd {b g cap:Nat} {most last:Int} {arr:List ZC} {B:List Nat} (h:ZbG b g cap most last arr w) (hu:Zg B w w') (hb:b∉B) (hg:g∉B):ZbG b g cap most last arr w':=
 ⟨(hu.block b (Jg h.blk) hb).trans h.blk,(Zd _ _ _ _).upd h.row hu (fun k hk=>by rw[Jm hk];exact hg),h.ne⟩
theorem ZbG.at {b g cap:Nat} {most last:Int} {arr:List ZC} (h:ZbG b g cap most last arr w) {j:Nat} (hx:arr[j]? =some x):Zb w g (j*3) (YQ x):=
 h.row.liesAt (by rw[Xe,hx];rfl)
theorem Zfn {P:Prop}(h:P:=by
 go_enter Tryz.func273,Tryz.ntmps273
 go_upto_region 1 with fail
 rw[m.out]
 go_wp2_with fail
 go_ret
 exact⟨by rw[i.out,g.out,k.out];rfl,d.out⟩):P:=h
theorem Zlc (x y:ZC) (w:World):
  Calls Tryz.prog 273 #[.agg (YQ x).toArray, .agg (YQ y).toArray] w fun e w'=>e= .returned (.bool (Zca x y))∧Zg [] w w':=by
 obtain⟨a,b⟩:=Je ((w.alloc (.cells (YQ x).toArray 239)).alloc (.cells (YQ y).toArray 239))
 have d:Zg [] w a:=by rw[b];exact((Zg.refl [] w).alloc _).alloc _
 have j:a.heap[w.heap.size]? =some (.cells (YQ x).toArray 239 (0,0)):=by rw[b,ZB _ (by simp)];exact Za _
 have l:a.heap[w.heap.size+1]? =some (.cells (YQ y).toArray 239 (0,0)):=by
  rw[b];have:=Za (w:=w.alloc (.cells (YQ x).toArray 239)) (.cells (YQ y).toArray 239);simpa using this
 have z:a.cell? ⟨w.heap.size,0,none⟩=some (.int .u64 x.due):=Zc j rfl
 have E:a.cell? ⟨w.heap.size,1,none⟩=some (.int .i64 x.id):=Zc j rfl
 have s:a.cell? ⟨w.heap.size+1,0,none⟩=some (.int .u64 y.due):=Zc l rfl
 have C:a.cell? ⟨w.heap.size+1,1,none⟩=some (.int .i64 y.id):=Zc l rfl
 have q:=D b
 have p:(w.alloc (.cells #[.int .u64 (x.due:Int), .int .i64 x.id, .int .i64 x.tag] 239)).alloc (.cells #[.int .u64 (y.due:Int), .int .i64 y.id, .int .i64 y.tag] 239)=a:=q.symm
 have m:=D p
 have i:Zca x y=(decide (x.due<y.due)||(decide (x.due=y.due)&&decide (x.id<y.id))):=rfl
 clear b j l p;change Hid _ at d i
 show Calls _ _ #[.agg #[.int .u64 (x.due:Int), .int .i64 x.id, .int .i64 x.tag], .agg #[.int .u64 (y.due:Int), .int .i64 y.id, .int .i64 y.tag]] w _
 by_cases o:x.due<y.due
 ·have n:decide (x.due<y.due)=true:=decide_eq_true o
  have g:=D n
  go_enter Tryz.func273,Tryz.ntmps273
  go_upto_region 1 with fail
  rw[m.out]
  go_wp2_with fail
  go_ret
  exact⟨by rw[i.out,g.out];rfl,d.out⟩
 ·have n:decide (x.due<y.due)=false:=decide_eq_false o
  have g:=D n
  by_cases h:x.due=y.due
  ·have c:decide (x.due=y.due)=true:=decide_eq_true h
   have r:((x.due:Int)==(y.due:Int))=true:=by simp[h]
   have k:=D c
   clear h c
   exact Zfn
  ·have c:decide (x.due=y.due)=false:=decide_eq_false h
   have r:((x.due:Int)==(y.due:Int))=false:=by simp;omega
   have k:=D c
   clear c
   exact Zfn
theorem Zhc (x y:ZC):∃a,a=Zca x y∧Hid (∀W,Calls Tryz.prog 273 #[.agg (YQ x).toArray, .agg (YQ y).toArray] W fun e w'=>e= .returned (.bool a)∧Zg [] W w'):=⟨_,rfl,D (Zlc x y)⟩
theorem Zlr (arr:List ZC) (i p:Nat) (x y:ZC):((arr.map YQ).set i (YQ y)).set p (YQ x)=(ZdL arr i p x y).map YQ:=by
 unfold ZdL;simp[List.map_set]
theorem Zky {b g cap:Nat} {most last:Int} {arr0:List ZC} (h:ZbG b g cap most last arr0 w) (hl:arr0.length≤1000000) (i:Nat) (hi:i<arr0.length) (hup:UpT arr0 i):
  Calls Tryz.prog 200 #[.pointer (some ⟨b,0,none⟩), .int .i64 i] w (Zfw fun w'=>∃arr',arr'.Perm arr0∧Zdk arr'∧ZbG b g cap most last arr' w'∧Zg [g] w w'):=by
 have H:=D h;have Z:=D hup
 have j:=D (show Zu Tryz.prog 239 3=true from ZhA)
 have X:=D hi;have aa:=D hl
 clear h hup hi
 go_enter Tryz.func200,Tryz.ntmps200
 go_wp2
 go_loopw[1] (fun s1 wr=>∃(ii:Nat) (arr:List ZC),s1= .int .i64 ii∧Hid (ii<arr.length∧arr.Perm arr0∧UpT arr ii∧ZbG b g cap most last arr wr∧Zg [g] w wr)) (fun s1 _=>(intOf s1).toNat)
 case atStart=>exact⟨i,arr0,rfl,D ⟨X,List.Perm.refl _,Z.out,H.out,Zg.refl _ _⟩⟩
 case round=>
  obtain⟨ii,arr,rfl,c⟩:=hrel
  have ad:arr.length≤1000000:=by have:=c.out.2.1.length_eq;omega
  by_cases N:ii=0
  ·subst N
   rw[show((0:Nat):Int)=0 from rfl]
   go_wp2_with fail
   (try simp only[Exit.inBlock,Exit.then])
   first|refine bodyPost_ret (results_none rfl _ _ _) rfl ?_|refine bodyPost_end (results_none rfl _ _ _) rfl ?_
   exact⟨_,rfl,arr,c.out.2.1,Zq9 c.out.2.2.1,c.out.2.2.2.1,c.out.2.2.2.2⟩
  ·obtain⟨p,C⟩:=Je ((ii-1)/2)
   have ab:p<ii:=by omega
   have F:ii<arr.length:=c.out.1
   have S:p<arr.length:=by omega
   have hq:((ii:Int)-1).tdiv 2=(p:Int):=by
    rw[show((ii:Int)-1)=((ii-1:Nat):Int)by omega,C];rfl
   obtain⟨x,hx⟩:∃x,arr[ii]? =some x:=⟨_,Xa F⟩
   obtain⟨y,P⟩:∃y,arr[p]? =some y:=⟨_,Xa (by omega)⟩
   have q:=D c.out.2.2.2.1;have l:=D hx;have n:=D P;have E:=D C
   have Q:=D F;have G:=D S
   have ac:decide (0<(ii:Int))=true:=decide_eq_true (by omega)
   obtain⟨a,ha,T⟩:=Zhc x y
   have M:=D ha
   clear C hx P N ha
   go_upto_region 2 with fail
   refine Jr [0,4,8,12,16,20,24,28,32,36,40,44,48,52,58,60] (fun W=>W.cell? ⟨b,0,none⟩=some (.slice (some ⟨g,0,none⟩) arr.length cap)∧Zb W g (ii*3) (YQ x)∧Zb W g (p*3) (YQ y)) ⟨Zc (i:=0) q.blk rfl,q.at l.out,q.at n.out⟩ ?_
   repeat first|refine Jn ?_|refine Jf ?_|refine Ju ?_
   apply Zq (t:= 239) (b:=g) (of:=ii*3) (cs:=[.int .u64 (x.due:Int), .int .i64 x.id, .int .i64 x.tag])
   case ho=>simp only[Xh,Xf,Xg];rfl
   case hg=>rfl
   case hop=>rfl
   case hx=>rfl
   case ht=>exact j.out
   case hb=>exact fun W e=>e.2.1
   case ha=>go_simp;rfl
   repeat first|refine Jn ?_|refine Jf ?_|refine Ju ?_
   apply Zq (t:= 239) (b:=g) (of:=p*3) (cs:=[.int .u64 (y.due:Int), .int .i64 y.id, .int .i64 y.tag])
   case ho=>simp only[Xh,Xf,Xg];rfl
   case hg=>rfl
   case hop=>rfl
   case hx=>rfl
   case ht=>exact j.out
   case hb=>exact fun W e=>e.2.2
   case ha=>go_simp;rfl
   repeat first|refine Jn ?_|refine Jf ?_|refine Ju ?_
   refine JL ?_
   go_wp2_with fail
   refine(T.out _).mono ?_
   rintro ea o ⟨rfl,K⟩
   have s:=D (show Zg [] wr o from((Zg.refl [] wr).drewN 1).trans K (by simp))
   clear K
   go_wp2_with fail
   refine⟨fun _=>True,trivial,?_⟩
   repeat first|refine Jn ?_|refine Jf ?_|refine Ju ?_
   refine ZL ?_
   have d:=D (q.upd s (by simp) (by simp))
   cases a with
   |false=>
    go_wp2_with fail
    (try simp only[Exit.inBlock,Exit.then])
    first|refine bodyPost_ret (results_none rfl _ _ _) rfl ?_|refine bodyPost_end (results_none rfl _ _ _) rfl ?_
    exact⟨_,rfl,arr,c.out.2.1,Zrr c.out.2.2.1 l (by rw[←E.out];exact n) M.symm,d.out,c.out.2.2.2.2.trans s (by simp)⟩
   |true=>
    go_upto_region 3 with fail
    refine Jr [0,4,8,12,16,20,24,28,32,39,40,44,48,52,56,60,64,68,72,76,80,84,88,92,96,102,104,110] (fun W=>W.cell? ⟨b,0,none⟩=some (.slice (some ⟨g,0,none⟩) arr.length cap)∧Zb W g (p*3) (YQ y)∧Zb W g (ii*3) (YQ x)) ⟨Zc (i:=0) d.blk rfl,d.at n.out,d.at l.out⟩ ?_
    repeat first|refine Jn ?_|refine Jf ?_|refine Ju ?_
    apply Zq (t:= 239) (b:=g) (of:=p*3) (cs:=[.int .u64 (y.due:Int), .int .i64 y.id, .int .i64 y.tag])
    case ho=>simp only[Xh,Xf,Xg];rfl
    case hg=>rfl
    case hop=>rfl
    case hx=>rfl
    case ht=>exact j.out
    case hb=>exact fun W e=>e.2.1
    case ha=>go_simp;rfl
    repeat first|refine Jn ?_|refine Jf ?_|refine Ju ?_
    apply Zq (t:= 239) (b:=g) (of:=ii*3) (cs:=[.int .u64 (x.due:Int), .int .i64 x.id, .int .i64 x.tag])
    case ho=>simp only[Xh,Xf,Xg];rfl
    case hg=>rfl
    case hop=>rfl
    case hx=>rfl
    case ht=>exact j.out
    case hb=>exact fun W e=>e.2.2
    case ha=>go_simp;rfl
    repeat first|refine Jn ?_|refine Jf ?_|refine Ju ?_
    refine JL ?_
    simp only[Xu]
    refine Zaq _ rfl 239 (.tmp 50) (.tmp 42) rfl (YQ y) ((Zd _ _ _ _).upd d.row ((Zg.refl [] o).drewN 1) (by simp)) (by rw[Xb];exact Q) rfl rfl rfl j (Zcm _) ?_
    intro w4 L J
    have V:=D L;have R:=D J
    clear L J
    go_wp2_with fail
    refine⟨fun _=>True,trivial,?_⟩
    repeat first|refine Jn ?_|refine Jf ?_|refine Ju ?_
    refine JL ?_
    refine Zaq _ rfl 239 (.tmp 51) (.tmp 49) rfl (YQ x) V (by rw[List.length_set,Xb];exact G) rfl rfl rfl j (Zcm _) ?_
    intro O r I
    have z:Zg [g] o O:=(((Zg.refl [g] o).drewN 1).trans R (fun k m=> .inr m)).trans I (fun k m=> .inr m)
    rw[Zlr]at r
    have Y:=D (show ZbG b g cap most last (ZdL arr ii p x y) O from⟨by rw[Zbg];exact(z.block b (Jg d.blk) (by simpa using d.ne)).trans d.blk,by rw[Zbg];exact r,d.ne⟩)
    clear r I;change Hid _ at z
    go_wp2_with fail
    refine Jz ?_
    go_wp2_with fail
    go_roundw
    case rel=>exact⟨p,_,rfl,D ⟨by rw[Zbg];exact G,(Zft l n (by omega)).trans c.out.2.1,by have:=Zq6 c.out.2.2.1 (by omega) l (by rw[←E.out];exact n) M.symm;rw[←E.out]at this;exact this,Y.out,(c.out.2.2.2.2.trans s (by simp)).trans z (fun k m=> .inr m)⟩⟩
    case measure=>simp[intOf];omega
end Go.Proofs.YtbgbeddbfaopgaaGreatDoor
