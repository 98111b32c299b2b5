import Derived.Test.YtbgbeddbfaopgaaGreatDoorZ16
set_option linter.all false
set_option maxHeartbeats 16000000
set_option maxRecDepth 100000
set_option autoImplicit true
set_option relaxedAutoImplicit true
namespace Go.Proofs.YtbgbeddbfaopgaaGreatDoor
open Go.RowKit Go.Lk
theorem Zfo (s:Bs) (c:UInt8):Lib.hasPrefix s [c]=(s.head? ==some c):=by
 unfold Lib.hasPrefix
 cases s with
 |nil=>rfl
 |cons a l=>
  simp only[List.isPrefixOf,List.head?_cons,Bool.and_true]
  rw[Bool.eq_iff_iff,beq_iff_eq,beq_iff_eq]
  exact⟨fun h=>by rw[h],fun h=>by injection h with h;exact h.symm⟩
theorem Zer {P:Prop}(h:P:=by
 repeat first|refine Jn ?_|refine Jf ?_|refine Ju ?_
 refine JE ?_
 go_wp2_with fail
 refine⟨(fun W=>W.cell? ⟨w.heap.size,3,none⟩=some (.string ⟨u.path.toArray⟩)),fun _ h=>h,I.out,?_⟩
 repeat first|refine Jn ?_|refine Jf ?_|refine Ju ?_
 refine ZL ?_
 have i:=D (show Zg [] w y.drew from F.drewN 1)
 have d:=D (show Zb y.drew w.heap.size 0 (ZV u)from J.out)
 obtain⟨l,G⟩:=Je y.drew
 rw[←G]at i d⊢
 clear G
 have E:l.cell? ⟨w.heap.size,3,none⟩=some (.string ⟨u.path.toArray⟩):=d.out 3 _ rfl
 have s:l.cell? ⟨w.heap.size,4,none⟩=some (.string ⟨u.query.toArray⟩):=d.out 4 _ rfl
 cases hqe:(u.query==[])with
 |true=>
  rw[hqe]at c
  have n:=D (Zbi d)
  clear E
  go_upto_region 3 with fail
  clear s
  go_wp2_with(refine Jl n z ?_)
  refine(C.out l (o.upd0 i)).mono ?_
  rintro e j ⟨rfl,a⟩
  have b:=Jt i a;have k:=D (d.upd a (by simp))
  clear a
  cases x with
  |false=>
   go_wp2_with fail
   go_ret
   exact⟨by rw[c.out];simp,b.out⟩
  |true=>
   go_wp2_with fail
   all_goals
    go_ret
    exact⟨by rw[c.out];simp,b.out⟩
 |false=>
  rw[hqe]at c
  have n:=D (Zbi d)
  clear E
  go_wp2_with fail
  refine(Q4.out _).mono ?_
  rintro e m ⟨rfl,g⟩
  rw[g];clear g m
  cases K with
  |false=>
   go_upto_region 3 with fail
   clear s
   go_wp2_with(refine Jl n z ?_)
   refine(C.out l (o.upd0 i)).mono ?_
   rintro e j ⟨rfl,a⟩
   have b:=Jt i a;have k:=D (d.upd a (by simp))
   clear a
   cases x with
   |false=>
    go_wp2_with fail
    go_ret
    exact⟨by rw[c.out];simp,b.out⟩
   |true=>
    go_wp2_with fail
    all_goals
     go_ret
     exact⟨by rw[c.out];simp,b.out⟩
  |true=>
   go_wp2_with fail
   refine(Q5.out _).mono ?_
   rintro e m ⟨rfl,g⟩
   rw[g];clear g m
   go_upto_region 3 with fail
   clear s
   go_wp2_with(refine Jl n z ?_)
   refine(C.out l (o.upd0 i)).mono ?_
   rintro e j ⟨rfl,a⟩
   have b:=Jt i a;have k:=D (d.upd a (by simp))
   clear a
   cases x with
   |false=>
    go_wp2_with fail
    go_ret
    exact⟨by rw[c.out];simp,b.out⟩
   |true=>
    go_wp2_with fail
    all_goals
     go_ret
     exact⟨by rw[c.out];simp,b.out⟩):P:=h
theorem Ze2 {P:Prop}(h:P:=by
 have d0:j.cell? ⟨w.heap.size,0,none⟩=some (.string ⟨u.origin.scheme.toArray⟩):=k.out 0 _ rfl
 have d1:j.cell? ⟨w.heap.size,1,none⟩=some (.string ⟨u.origin.host.toArray⟩):=k.out 1 _ rfl
 have d2:j.cell? ⟨w.heap.size,2,none⟩=some (.int .i64 u.origin.port):=k.out 2 _ rfl
 have d3:j.cell? ⟨w.heap.size,3,none⟩=some (.string ⟨u.path.toArray⟩):=k.out 3 _ rfl
 have d4:j.cell? ⟨w.heap.size,4,none⟩=some (.string ⟨u.query.toArray⟩):=k.out 4 _ rfl
 go_wp2_with fail
 refine(Q7.out j (o.upd0 b)).mono ?_
 rintro e wC ⟨rfl,H⟩
 have R:=Jt b H;clear H d0 d1 d2 d3 d4
 go_wp2_with fail
 go_ret
 exact⟨by rw[c.out];simp<;>omega,R.out⟩):P:=h
theorem ZjJ (u:Z6) (w:World) (hu:UrlFit u) (hE:Env w):
  Calls Tryz.prog 191 #[.agg (ZV u).toArray] w fun e w'=>e= .returned (.bool (Zh6 u))∧Zg [] w w':=by
 have o:=D hE;clear hE
 obtain⟨y,M⟩:=Je (w.alloc (.cells (ZV u).toArray 209))
 have F:=Ja M
 have aa:=Jh M
 have z:=D (show Zu Tryz.prog 207 3=true by kernel_rfl)
 have ad:=D (show Zu Tryz.prog 209 5=true by kernel_rfl)
 have J:=D (show Zb y w.heap.size 0 (ZV u)from Zb.of_block aa)
 obtain⟨r,hr⟩:=Je (Zh6 u)
 obtain⟨b1,O⟩:=Je ((u.path.head? ==some 47))
 obtain⟨b2,Z⟩:=Je (Zel u.path Zch)
 obtain⟨cp,X⟩:=Je (ZbD u.path)
 obtain⟨N,Q⟩:=Je ((cp==u.path))
 obtain⟨K,Y⟩:=Je ((u.query.head? ==some 63))
 obtain⟨b5,P⟩:=Je (Zel u.query Zbt)
 obtain⟨x,S⟩:=Je (Y6 u.origin)
 obtain⟨sh,V⟩:=Je (YV u)
 have c:=D (show r=(x&&(b1&&b2&&N)&&(u.query==[]||K&&b5)&&decide (sh.length≤512))by rw[hr,O,Z,Q,X,Y,P,S,V];rfl)
 rw[←hr]
 have q1:∀W,Calls Tryz.prog 269 #[.string ⟨u.path.toArray⟩, .string ⟨#[47]⟩] W fun e w'=>e= .returned (.bool b1)∧w'=W:=fun W=>by rw[O,←Zfo];exact Tryz.strings_HasPrefix ⟨u.path.toArray⟩ ⟨#[47]⟩ W
 have q2:∀W,Calls Tryz.prog 173 #[.string ⟨u.path.toArray⟩, .string ⟨#[34,35,60,62,63,92,94,123,124,125,96]⟩] W fun e w'=>e= .returned (.bool b2)∧w'=W:=fun W=>by rw[Z];exact Zd8 u.path Zch W (by have:=hu.p;omega)
 have q3:∀W,Env W→Calls Tryz.prog 174 #[.string ⟨u.path.toArray⟩] W fun e w'=>e= .returned (.string ⟨cp.toArray⟩)∧Zg [] W w':=fun W L=>by rw[X];exact Zgf u.path W hu.p L
 have q4:∀W,Calls Tryz.prog 269 #[.string ⟨u.query.toArray⟩, .string ⟨#[63]⟩] W fun e w'=>e= .returned (.bool K)∧w'=W:=fun W=>by rw[Y,←Zfo];exact Tryz.strings_HasPrefix ⟨u.query.toArray⟩ ⟨#[63]⟩ W
 have q5:∀W,Calls Tryz.prog 173 #[.string ⟨u.query.toArray⟩, .string ⟨#[34,35,60,62]⟩] W fun e w'=>e= .returned (.bool b5)∧w'=W:=fun W=>by rw[P];exact Zd8 u.query Zbt W (by have:=hu.q;omega)
 have q6:∀W,Env W→Calls Tryz.prog 179 #[.agg (Zz u.origin).toArray] W fun e w'=>e= .returned (.bool x)∧Zg [] W w':=fun W L=>by rw[S];exact ZbT u.origin W hu.h L
 have q7:∀W,Env W→Calls Tryz.prog 175 #[.agg (ZV u).toArray] W fun e w'=>e= .returned (.string ⟨sh.toArray⟩)∧Zg [] W w':=fun W L=>by rw[V];exact Zba u W hu L
 have Q1:=D q1;have Q2:=D q2;have Q3:=D q3;have Q4:=D q4;have Q5:=D q5;have C:=D q6;have Q7:=D q7
 have ab:=D (show w.alloc (.cells #[.string ⟨u.origin.scheme.toArray⟩, .string ⟨u.origin.host.toArray⟩, .int .i64 u.origin.port, .string ⟨u.path.toArray⟩, .string ⟨u.query.toArray⟩] 209)=y from M.symm)
 have ac:=Q.symm
 clear M aa q1 q2 q3 q4 q5 q6 q7 hr O Z X Q Y P S V hu;change Hid _ at F
 show Calls _ _ #[.agg #[.string ⟨u.origin.scheme.toArray⟩, .string ⟨u.origin.host.toArray⟩, .int .i64 u.origin.port, .string ⟨u.path.toArray⟩, .string ⟨u.query.toArray⟩]] w _
 go_enter Tryz.func191,Tryz.ntmps191
 go_upto_region 1 with fail
 rw[ab.out]
 refine Jr [0,4,10,12,16,20,26,28,32,36,40,48,52,45,56,60,64] (fun W=>W.cell? ⟨w.heap.size,3,none⟩=some (.string ⟨u.path.toArray⟩)) (J.out 3 _ rfl) ?_
 have I:=D (J.out 3 _ rfl)
 repeat first|refine Jn ?_|refine Jf ?_|refine Ju ?_
 refine JL ?_
 simp only[Xu]
 go_wp2_with fail
 refine(Q1.out _).mono ?_
 rintro e m ⟨rfl,g⟩
 rw[g];clear g m
 go_wp2_with fail
 refine⟨fun W=>W.cell? ⟨w.heap.size,3,none⟩=some (.string ⟨u.path.toArray⟩),I.out,?_⟩
 cases b1 with
 |false=>
  repeat first|refine Jn ?_|refine Jf ?_|refine Ju ?_
  refine JL ?_
  go_wp2_with fail
  refine⟨(fun W=>W.cell? ⟨w.heap.size,3,none⟩=some (.string ⟨u.path.toArray⟩)),I.out,?_⟩
  exact Zer
 |true=>
  repeat first|refine Jn ?_|refine Jf ?_|refine Ju ?_
  refine JL ?_
  go_wp2_with fail
  refine(Q2.out _).mono ?_
  rintro e m ⟨rfl,g⟩
  rw[g];clear g m
  go_wp2_with fail
  refine⟨(fun W=>W.cell? ⟨w.heap.size,3,none⟩=some (.string ⟨u.path.toArray⟩)),I.out,?_⟩
  cases b2 with
  |false=>
   exact Zer
  |true=>
   repeat first|refine Jn ?_|refine Jf ?_|refine Ju ?_
   refine JE ?_
   go_wp2_with fail
   refine(Q3.out y.drew (o.upd0 (F.drewN 1))).mono ?_
   rintro e l ⟨rfl,T⟩
   have i:=D ((F.drewN 1).trans T (by simp));have d:=D ((show Zb y.drew w.heap.size 0 (ZV u)from J.out).upd T (by simp))
   clear T
   go_wp2_with fail
   refine⟨(fun W=>W.cell? ⟨w.heap.size,3,none⟩=some (.string ⟨u.path.toArray⟩)),fun _ h=>h,d.out 3 _ rfl,?_⟩
   repeat first|refine Jn ?_|refine Jf ?_|refine Ju ?_
   refine ZL ?_
   have E:l.cell? ⟨w.heap.size,3,none⟩=some (.string ⟨u.path.toArray⟩):=d.out 3 _ rfl
   have s:l.cell? ⟨w.heap.size,4,none⟩=some (.string ⟨u.query.toArray⟩):=d.out 4 _ rfl
   cases hqe:(u.query==[])with
   |true=>
    rw[hqe]at c
    have n:=D (Zbi d)
    clear E
    go_upto_region 3 with fail
    clear s
    go_wp2_with(refine Jl n z ?_)
    refine(C.out l (o.upd0 i)).mono ?_
    rintro e j ⟨rfl,a⟩
    have b:=Jt i a;have k:=D (d.upd a (by simp))
    clear a
    cases x with
    |false=>
     go_wp2_with fail
     go_ret
     exact⟨by rw[c.out];simp,b.out⟩
    |true=>
     cases N with
     |false=>
      go_wp2_with fail
      all_goals
       go_ret
       exact⟨by rw[c.out];simp,b.out⟩
     |true=>
     exact Ze2
   |false=>
    rw[hqe]at c
    have n:=D (Zbi d)
    clear E
    go_wp2_with fail
    refine(Q4.out _).mono ?_
    rintro e m ⟨rfl,g⟩
    rw[g];clear g m
    cases K with
    |false=>
     go_upto_region 3 with fail
     clear s
     go_wp2_with(refine Jl n z ?_)
     refine(C.out l (o.upd0 i)).mono ?_
     rintro e j ⟨rfl,a⟩
     have b:=Jt i a;have k:=D (d.upd a (by simp))
     clear a
     cases x with
     |false=>
      go_wp2_with fail
      go_ret
      exact⟨by rw[c.out];simp,b.out⟩
     |true=>
      cases N
      all_goals
       go_wp2_with fail
       go_ret
       exact⟨by rw[c.out];simp,b.out⟩
    |true=>
     go_wp2_with fail
     refine(Q5.out _).mono ?_
     rintro e m ⟨rfl,g⟩
     rw[g];clear g m
     go_upto_region 3 with fail
     clear s
     go_wp2_with(refine Jl n z ?_)
     refine(C.out l (o.upd0 i)).mono ?_
     rintro e j ⟨rfl,a⟩
     have b:=Jt i a;have k:=D (d.upd a (by simp))
     clear a
     cases x with
     |false=>
      go_wp2_with fail
      go_ret
      exact⟨by rw[c.out];simp,b.out⟩
     |true=>
      cases N with
      |false=>
       go_wp2_with fail
       all_goals
        go_ret
        exact⟨by rw[c.out];simp,b.out⟩
      |true=>
      cases b5 with
      |false=>
       go_wp2_with fail
       all_goals
        go_ret
        exact⟨by rw[c.out];simp,b.out⟩
      |true=>
      exact Ze2
theorem Zld (u:Z6) (w:World) (hu:UrlFit u) (hE:Env w):
  Calls Tryz.prog 117 #[.agg (ZV u).toArray] w fun e w'=>e= .returned (.string ⟨(Zgc u).toArray⟩)∧Zg [] w w':=by
 have q:=D hE;clear hE
 obtain⟨k,a⟩:=Je (w.alloc (.cells (ZV u).toArray 209))
 have c:=Ja a
 have l:=Jh a
 have m:=D (show Zu Tryz.prog 209 5=true by kernel_rfl)
 have x:=D (show Zb k w.heap.size 0 (ZV u)from Zb.of_block l)
 obtain⟨r,j⟩:=Je (Zgc u)
 obtain⟨p,h⟩:=Je (Zh6 u)
 have s:=D (show r=if p then YV u else[]by rw[j,h];rfl)
 rw[←j]
 have i:=ZjJ u k hu (q.upd0 c)
 rw[←h]at i
 have o:∀W,Env W→Calls Tryz.prog 175 #[.agg (ZV u).toArray] W fun e w'=>e= .returned (.string ⟨(YV u).toArray⟩)∧Zg [] W w':=fun W G=>Zba u W hu G
 have F:=D i;have E:=D o
 have z:=D (show w.alloc (.cells #[.string ⟨u.origin.scheme.toArray⟩, .string ⟨u.origin.host.toArray⟩, .int .i64 u.origin.port, .string ⟨u.path.toArray⟩, .string ⟨u.query.toArray⟩] 209)=k from a.symm)
 clear a l i o j h hu;change Hid _ at c
 show Calls _ _ #[.agg #[.string ⟨u.origin.scheme.toArray⟩, .string ⟨u.origin.host.toArray⟩, .int .i64 u.origin.port, .string ⟨u.path.toArray⟩, .string ⟨u.query.toArray⟩]] w _
 go_enter Tryz.func117,Tryz.ntmps117
 go_upto_region 1 with fail
 rw[z.out]
 go_wp2_with(refine Jl x m ?_)
 refine F.out.mono ?_
 rintro e H ⟨rfl,b⟩
 have g:=Jt c b;have y:=D (x.upd b (by simp));clear b
 cases p with
 |false=>
  have d:=D (show r=[]by rw[s.out];rfl)
  go_wp2_with fail
  go_ret
  exact⟨by rw[d.out];rfl,g.out⟩
 |true=>
  have d:=D (show r=YV u by rw[s.out];rfl)
  go_wp2_with(refine Jl y m ?_)
  refine(E.out H (q.upd0 g)).mono ?_
  rintro e I ⟨rfl,n⟩
  have C:=Jt g n;clear n
  go_wp2_with fail
  go_ret
  exact⟨by rw[d.out];rfl,C.out⟩
end Go.Proofs.YtbgbeddbfaopgaaGreatDoor
namespace Go.Lk
open Go
section
variable {P:Program} {ops:Array Oper} {md:Region.Mode} {Q:Exit→Act→World→Prop}
inductive ZbI where
 |nil
 |held (i:Nat) (r:ZbI)
 |eff (i:Nat) (r:ZbI)
 |two (i:Nat) (r1:ZbI) (j:Nat) (r2:ZbI)
def ZbI.len:ZbI→Nat
 | .nil=>0
 | .held _ r=>r.len+1
 | .eff _ r=>r.len+1
 | .two _ r1 _ _=>r1.len+1
def Zfl (md:Region.Mode) (ops:Array Oper):ZbI→Array Bool→Bool
 | .nil,l=>(Region.ready md ops l).isEmpty
 | .held i r,l=>(Region.ready md ops l).contains i&&Region.free md ops l i&&Zfl md ops r (l.setIfInBounds i true)
 | .eff i r,l=>Region.ready md ops l==[i]&&Zfl md ops r (l.setIfInBounds i true)
 | .two i r1 j r2,l=>Region.ready md ops l==[i,j]&&r1.len==r2.len&&Zfl md ops r1 (l.setIfInBounds i true)&&Zfl md ops r2 (l.setIfInBounds j true)
def YD (P:Program) (ops:Array Oper) (Q:Exit→Act→World→Prop):ZbI→(World→Prop)→Act→World→Prop
 | .nil,_,a,w=>Q .normal a w
 | .held i r,S,a,w=>∃o v,ops[i]? =some o∧YieldsIf P ops S o v a∧YD P ops Q r S (a.put o.dst v) w
 | .eff i r,S,a,w=>wpOp P ops Q i (fun a' w'=>∃S':World→Prop,(∀W,S' W→S W)∧S' w'∧YD P ops Q r S' a' w') a w
 | .two i r1 j r2,S,a,w=>wpOp P ops Q i (fun a' w'=>∃S':World→Prop,(∀W,S' W→S W)∧S' w'∧YD P ops Q r1 S' a' w') a w∧
  wpOp P ops Q j (fun a' w'=>∃S':World→Prop,(∀W,S' W→S W)∧S' w'∧YD P ops Q r2 S' a' w') a w
theorem ZbO (hs:Region.noSelect ops=true) (hQ:∀c a w t v,Q (.panic c) (a.put t v) w→Q (.panic c) a w):
  ∀(t:ZbI) (S:World→Prop) (listed:Array Bool) (a:Act) (w:World),Zep md ops listed→Zfl md ops t listed=true→S w→YD P ops Q t S a w→Zcx P md ops Q none S t.len listed a w
 | .nil,S,listed,a,w,_,hB,_,h=>⟨by simpa[Zfl]using hB,h⟩
 | .held i r,S,listed,a,w,hc,hB,hS,h=>by
  simp only[Zfl,Bool.and_eq_true]at hB
  obtain⟨o,v,ho,hy,hK⟩:=h
  have hr:i∈Region.ready md ops listed:=by simpa using hB.1.1
  exact ZdR (F:=none) ho (Region.noSelect_spec hs) (fun c a w=>hQ c a w _ _) (by simp) (fun j e=>by cases e) r.len listed a w hc (Region.free_spec ho hB.1.2) hr hy hS
   (ZbO hs hQ r S _ _ _ (Zai hc hr) hB.2 hS hK)
 | .eff i r,S,listed,a,w,hc,hB,hS,h=>by
  simp only[Zfl,Bool.and_eq_true,beq_iff_eq]at hB
  refine⟨fun h0=>(by rw[hB.1]at h0;cases h0),fun j hj=> ?_⟩
  have hi:i∈Region.ready md ops listed:=by rw[hB.1];simp
  rw[hB.1]at hj
  obtain rfl:j=i:=by simpa using hj
  rw[if_neg (by simp)]
  refine wpOp_mono (fun a' w' h'=> ?_) h
  obtain⟨S',h1,h2,h3⟩:=h'
  exact⟨h1 _ h2,Zcu h1 _ _ _ _ (ZbO hs hQ r S' _ _ _ (Zai hc hi) hB.2 h2 h3)⟩
 | .two i r1 j r2,S,listed,a,w,hc,hB,hS,h=>by
  simp only[Zfl,Bool.and_eq_true,beq_iff_eq]at hB
  obtain⟨⟨⟨hr,hl⟩,hB1⟩,hB2⟩:=hB
  refine⟨fun h0=>(by rw[hr]at h0;cases h0),fun k hk=> ?_⟩
  have hi:i∈Region.ready md ops listed:=by rw[hr];simp
  have hj:j∈Region.ready md ops listed:=by rw[hr];simp
  rw[hr]at hk
  rw[if_neg (by simp)]
  rcases(show k=i∨k=j by simpa using hk)with rfl|rfl
  ·refine wpOp_mono (fun a' w' h'=> ?_) h.1
   obtain⟨S',h1,h2,h3⟩:=h'
   exact⟨h1 _ h2,Zcu h1 _ _ _ _ (ZbO hs hQ r1 S' _ _ _ (Zai hc hi) hB1 h2 h3)⟩
  ·refine wpOp_mono (fun a' w' h'=> ?_) h.2
   obtain⟨S',h1,h2,h3⟩:=h'
   have h4:=Zcu h1 _ _ _ _ (ZbO hs hQ r2 S' _ _ _ (Zai hc hj) hB2 h2 h3)
   show S w'∧Zcx P md ops Q none S r1.len _ a' w'
   rw[hl]
   exact⟨h1 _ h2,h4⟩
def ZqF (md:Region.Mode) (ops:Array Oper) (t:ZbI):Bool:=Region.noSelect ops&&t.len==ops.size&&Zfl md ops t (Array.replicate ops.size false)
theorem ZbL {id:Nat} {ol:List Oper} (t:ZbI) (S:World→Prop) (hm:P.follows .mixedOrders=true) (hB:ZqF .any ol.toArray t=true)
  (hQ:∀c a w t v,Q (.panic c) (a.put t v) w→Q (.panic c) a w) (hS:S {w with drawn:=w.drawn+1})
  (h:YD P ol.toArray Q t S a {w with drawn:=w.drawn+1}):(Code.region id ol.toArray true).wp P Q a w:=by
 simp only[ZqF,Bool.and_eq_true,beq_iff_eq]at hB
 obtain⟨⟨f,e⟩,hB⟩:=hB
 refine wp_region_any hm ?_
 have b:=ZbO f hQ t S _ _ _ (fun j g _ d=>(by rw[getD_replicate_false]at d;cases d)) hB hS h
 rw[e]at b
 exact ZcV _ _ _ _ b
theorem Zi8 {i:Nat} {o:Oper} {r:ZbI} {S:World→Prop} {a a':Act} (ho:ops[i]? =some o) (hg:o.guard=none)
  (hv:∀W,S W→(execOp a.eval o).run P W= .ok (.value v) W) (ha:a.put o.dst v=a') (h:YD P ops Q r S a' w):YD P ops Q (.held i r) S a w:=
 ⟨o,v,ho, .inl ⟨by simp[Region.wanted,hg],hv⟩,by rw[ha];exact h⟩
theorem Zj0 {i:Nat} {o:Oper} {r:ZbI} {S:World→Prop} {a a':Act} (ho:ops[i]? =some o) (hg:Region.wanted o (yielded ops a.tmps)=true)
  (hv:∀W,S W→(execOp a.eval o).run P W= .ok (.value v) W) (ha:a.put o.dst v=a') (h:YD P ops Q r S a' w):YD P ops Q (.held i r) S a w:=
 ⟨o,v,ho, .inl ⟨hg,hv⟩,by rw[ha];exact h⟩
theorem Zqf {i:Nat} {o:Oper} {r:ZbI} {a a':Act} (ho:ops[i]? =some o) (hg:Region.wanted o (yielded ops a.tmps)=false)
  (ha:a.put o.dst undef=a') (h:YD P ops Q r S a' w):YD P ops Q (.held i r) S a w:=
 ⟨o,undef,ho, .inr ⟨hg,rfl⟩,by rw[ha];exact h⟩
theorem ZiG {i:Nat} {o:Oper} {r:ZbI} {S:World→Prop} {a a':Act} (ho:ops[i]? =some o) (hg:o.guard=none) (t:TypeId) (x:Operand) (hop:o.op= .load t x) (b of:Nat) (cs:List Value)
  (hx:a.eval x= .pointer (some ⟨b,of,none⟩)) (hv:∀W,S W→(Instr.loadAt t (.pointer (some ⟨b,of,none⟩))).run P W= .ok (.agg cs.toArray) W) (ha:a.put o.dst (.agg cs.toArray)=a') (h:YD P ops Q r S a' w):YD P ops Q (.held i r) S a w:=
 Zi8 (v:= .agg cs.toArray) ho hg (fun W hW=>by
  unfold execOp
  simp only[hop,Sem.run_bind,Sem.run_pure,Result.andThen_ok,hx,hv W hW]) ha h
theorem ZpV {i:Nat} {o:Oper} {r:ZbI} {S:World→Prop} (ho:ops[i]? =some o)
  (h:wpList P ops (Exit.then (fun a' w'=>∃S':World→Prop,(∀W,S' W→S W)∧S' w'∧YD P ops Q r S' a' w') Q) [o] a w):YD P ops Q (.eff i r) S a w:=by
 refine ZdH (n:=fun a' w'=>∃S':World→Prop,(∀W,S' W→S W)∧S' w'∧YD P ops Q r S' a' w') ?_
 unfold wpOp
 simp only[ho]
 exact h
theorem ZdM {i j:Nat} {o o2:Oper} {r1 r2:ZbI} {S:World→Prop} (ho:ops[i]? =some o) (ho2:ops[j]? =some o2)
  (h:wpList P ops (Exit.then (fun a' w'=>∃S':World→Prop,(∀W,S' W→S W)∧S' w'∧YD P ops Q r1 S' a' w') Q) [o] a w)
  (h2:wpList P ops (Exit.then (fun a' w'=>∃S':World→Prop,(∀W,S' W→S W)∧S' w'∧YD P ops Q r2 S' a' w') Q) [o2] a w):YD P ops Q (.two i r1 j r2) S a w:=by
 refine⟨ZdH (n:=fun a' w'=>∃S':World→Prop,(∀W,S' W→S W)∧S' w'∧YD P ops Q r1 S' a' w') ?_,ZdH (n:=fun a' w'=>∃S':World→Prop,(∀W,S' W→S W)∧S' w'∧YD P ops Q r2 S' a' w') ?_⟩
 ·unfold wpOp
  simp only[ho]
  exact h
 ·unfold wpOp
  simp only[ho2]
  exact h2
theorem Zet (h:Q .normal a w):YD P ops Q .nil S a w:=h
end
section
variable {P:Program} {ops:Array Oper} {Q:Exit→Act→World→Prop}
theorem JN {i:Nat} {o:Oper} {r:ZbI} {a a':Act} (h:YD P ops Q r S a' w)
 (ho:ops[i]? =some o:=by simp only[List.getElem?_toArray,List.getElem?_cons_succ,List.getElem?_cons_zero];rfl) (hg:Region.wanted o (yielded ops a.tmps)=true:=by rfl)
 (hv:∀W,S W→(execOp a.eval o).run P W= .ok (.value v) W:=by intro W hW;(try dsimp only at hW);go_simp;rfl) (ha:a.put o.dst v=a':=by go_simp;rfl):YD P ops Q (.held i r) S a w:=Zj0 ho hg hv ha h
theorem JF {i:Nat} {o:Oper} {r:ZbI} {a a':Act} (h:YD P ops Q r S a' w)
 (ho:ops[i]? =some o:=by simp only[List.getElem?_toArray,List.getElem?_cons_succ,List.getElem?_cons_zero];rfl) (hg:Region.wanted o (yielded ops a.tmps)=false:=by rfl)
 (ha:a.put o.dst undef=a':=by go_simp;rfl):YD P ops Q (.held i r) S a w:=Zqf ho hg ha h
theorem JU {i:Nat} {o:Oper} {r:ZbI} {S:World→Prop}
 (h:wpList P ops (Exit.then (fun a' w'=>∃S':World→Prop,(∀W,S' W→S W)∧S' w'∧YD P ops Q r S' a' w') Q) [o] a w)
 (ho:ops[i]? =some o:=by simp only[List.getElem?_toArray,List.getElem?_cons_succ,List.getElem?_cons_zero];rfl):YD P ops Q (.eff i r) S a w:=ZpV ho h
end
theorem Zfq:∀s:Bs,Lib.indexAny s [47,63]=match s.findIdx? (fun x=>x==47||x==63)with|some i=>(i:Int)|none=> -1
 |[]=>rfl
 |b::l=>by
  have ih:=Zfq l
  unfold Lib.indexAny
  have hc:([47,63]:Bs).contains b=(b==47||b==63):=by rw[Bool.eq_iff_iff];simp
  rw[hc,List.findIdx?_cons]
  cases hb:(b==47||b==63)with
  |true=>rfl
  |false=>
   simp only[Bool.false_eq_true,if_false,ih]
   cases List.findIdx? (fun x=>x==47||x==63) l with
   |none=>rfl
   |some i=>
    simp only[Option.map_some]
    rw[if_neg (by simp)]
    show((i:Int)+1)=((i+1:Nat):Int)
    omega
theorem ZgO (h:(Y5 s).2=0):Y6 (Y5 s).1=true:=by
 by_cases b:512<s.length
 ·rw[show Y5 s=(Zx.zero,4)by unfold Y5;rw[if_pos b]]at h;exact absurd h (by decide)
 ·have c:∀(a:Bool) (o:Zx),(if !a then(Zx.zero,(3:Int))else if Y6 o then(o,0)else(Zx.zero,3)).2=0→Y6 (if !a then(Zx.zero,(3:Int))else if Y6 o then(o,0)else(Zx.zero,3)).1=true:=by
   intro a o
   cases a with
   |false=>intro h;exact absurd (show(3:Int)=0 from h) (by decide)
   |true=>
    cases hc:Y6 o with
    |true=>intro _;exact hc
    |false=>intro h;exact absurd (show(3:Int)=0 from h) (by decide)
  revert h
  unfold Y5
  rw[if_neg b]
  exact c _ _
theorem Zmd (x:Bs):(ZbD x).length≤1+(x.length+1)*(x.length+2):=by
 rw[Zp1,Xd]
 have:=Go.Proofs.YtbgbeddbfaopgaaGreatDoor.clean_few x
 simp only[List.length_cons,List.length_nil]
 omega
end Go.Lk
namespace Go.Proofs.YtbgbeddbfaopgaaGreatDoor
open Go.RowKit Go.Lk
def ZqU (w:World) (r:Z6×Int) (e:Ending) (w':World):Prop:=e= .returned (.tuple #[.agg (ZV r.1).toArray, .int .i64 r.2])∧Zg [] w w'
def urlOf (scheme rest:Bs) (at_:Nat):Z6×Int:=
 let o:=Y5 (scheme++[58,47,47]++rest.take at_)
 if o.2 !=0 then(Z6.zero,o.2)else
 let q:=Lib.cut (rest.drop at_) [63]
 if !Zel q.1 Zch|| !Zel q.2.1 Zbt then(Z6.zero,3)else
 let u:Z6:=⟨o.1,ZbD q.1,if q.2.2 then[63]++q.2.1 else[]⟩
 if 512<(YV u).length then(Z6.zero,4)else(u,0)
theorem parseT_eq (s0:Bs):ZaT s0=if 512<s0.length then(Z6.zero,4)else
 if !(Lib.cut (Lib.cut s0 [35]).1 [58,47,47]).2.2 then(Z6.zero,3)else
 urlOf (Lib.cut (Lib.cut s0 [35]).1 [58,47,47]).1 (Lib.cut (Lib.cut s0 [35]).1 [58,47,47]).2.1 (((Lib.cut (Lib.cut s0 [35]).1 [58,47,47]).2.1.findIdx? fun x=>x==47||x==63).getD (Lib.cut (Lib.cut s0 [35]).1 [58,47,47]).2.1.length):=rfl
theorem ZeP {P:Prop}(h:P:=by
 obtain⟨aw,aF⟩:=Je (aT++[58,47,47]++rest.take k)
 have bW:aw.length≤1100:=by rw[aF];simp only[Xd,List.length_take,List.length_cons,List.length_nil];omega
 obtain⟨o,ho⟩:=Je (Y5 aw)
 have q5:∀W,Env W→Calls Tryz.prog 104 #[.string ⟨aw.toArray⟩] W (ZhB W o):=fun W hW=>by rw[ho];exact ZdX aw W (by omega) hW
 have bh:o.2=0→o.1.host.length≤253:=fun h=>by rw[ho]at h⊢;exact(Zb6 (ZgO h)).2.1
 obtain⟨q,K⟩:=Je (Lib.cut (rest.drop k) [63])
 have a1:=Zdh (rest.drop k) [63]
 rw[←K]at a1
 have br:(rest.drop k).length≤512:=by rw[List.length_drop];omega
 have q6:∀W,Env W→Calls Tryz.prog 171 #[.string ⟨(rest.drop k).toArray⟩, .string ⟨#[63]⟩] W fun e w'=>e= .returned (.tuple #[.string ⟨q.1.toArray⟩, .string ⟨q.2.1.toArray⟩, .bool q.2.2])∧Zg [] W w':=fun W hW=>by rw[K];exact Zcr hW _ [63] (by omega)
 have aJ:=D (show R=if o.2 !=0 then(Z6.zero,o.2)else if !Zel q.1 Zch|| !Zel q.2.1 Zbt then(Z6.zero,3)else
   if 512<(YV ⟨o.1,ZbD q.1,if q.2.2 then[63]++q.2.1 else[]⟩).length then(Z6.zero,4)else(⟨o.1,ZbD q.1,if q.2.2 then[63]++q.2.1 else[]⟩,0)by rw[bn.out];unfold urlOf;rw[←aF,←ho,←K])
 have ba:ByteArray.extract ⟨rest.toArray⟩ 0 k=⟨(rest.take k).toArray⟩:=by
  rw[Lib.extract_eq]
  show(⟨((rest.drop 0).take (k-0)).toArray⟩:ByteArray)=_
  rw[List.drop_zero,Nat.sub_zero]
 have aD:ByteArray.extract ⟨rest.toArray⟩ k rest.length=⟨(rest.drop k).toArray⟩:=by
  rw[Lib.extract_eq]
  show(⟨((rest.drop k).take (rest.length-k)).toArray⟩:ByteArray)=_
  rw[List.take_of_length_le (by rw[List.length_drop];exact Xi _)]
 have a8:(⟨aT.toArray⟩:ByteArray)++⟨#[58,47,47]⟩++⟨(rest.take k).toArray⟩=⟨aw.toArray⟩:=by
  rw[aF,show(⟨#[58,47,47]⟩:ByteArray)=⟨([58,47,47]:Bs).toArray⟩from rfl,Zau,Zau]
 have bu:(rest.take k).length=k:=by rw[List.length_take];omega
 obtain⟨rd,bb⟩:=Je (rest.drop k)
 obtain⟨rt,bc⟩:=Je (rest.take k)
 rw[←bb]at aD q6
 rw[←bc]at ba a8 bu
 have Q5:=D q5;have Q6:=D q6;have aZ:=D bh;have a0:=D a1;have bg:=D br
 clear q5 q6 bh K a1 br aF ho bn bc;change Hid _ at aD bb
 go_wp2_with fail
 refine(Q5.out w4 (HE.upd0 bm)).mono ?_
 rintro e w5 ⟨rfl,aX⟩
 have bI:=Jt bm aX;have bk:=D ((aX.block w.heap.size (Jg be) (by simp)).trans be)
 clear aX Q5 a8 ba bu
 obtain⟨o,oe⟩:=o
 dsimp only at aJ aZ
 obtain⟨w6,aM⟩:=Je ((w5.alloc (.cells #[.string ⟨#[]⟩, .string ⟨#[]⟩, .int .i64 0] 207 (0,0))).setRow w5.heap.size (Zz o).toArray)
 have bo:=D (Za (w:=w5) (.cells #[.string ⟨#[]⟩, .string ⟨#[]⟩, .int .i64 0] 207 (0,0)))
 have aR:w6.heap[w5.heap.size]? =some (.cells (Zz o).toArray 207 (0,0)):=by rw[aM];exact setRow_heap _ _ _ _ _ _ bo.out
 have a2:Zg [] w5 w6:=by rw[aM];exact((Zg.refl [] w5).alloc _).setRow (.inl (Xi _)) _
 have bJ:=D (show(Zz o).toArray.all (·.oneCell')=true by rw[Xl,Xk];exact ZaO _)
 have aW:=Jt bI a2;have aP:=D ((a2.block w.heap.size (Jg bk) (by simp)).trans bk)
 clear a2;change Hid _ at aM aR
 go_upto_region 11 with(refine Jo (Zz o).toArray bo bA bJ ?_;rw[←aM.out])
 obtain⟨r,bd⟩:=Je w5.heap.size
 rw[←bd]at aR⊢
 clear bd
 by_cases bl:oe=0
 case neg=>
  have j:=D (show R=(Z6.zero,oe)by rw[aJ.out,if_pos (by simpa using bl)])
  go_wp2_with(refine Jo (ZV Z6.zero).toArray aP d af ?_)
  refine bodyPost_ret (v:= .tuple #[.agg (ZV Z6.zero).toArray, .int .i64 oe]) (Zl _ Tryz.results103 (b:=w.heap.size) (o:=0) rfl rfl d (Zb.of_block (setRow_heap _ _ _ _ _ _ aP))) rfl ?_
  rw[j.out]
  exact⟨rfl,aW.setRow (.inl (Xi _)) _⟩
 subst bl
 have aB:o.host.length≤253:=aZ.out rfl
 have ae:=D (show R=if !Zel q.1 Zch|| !Zel q.2.1 Zbt then(Z6.zero,3)else
   if 512<(YV ⟨o,ZbD q.1,if q.2.2 then[63]++q.2.1 else[]⟩).length then(Z6.zero,4)else(⟨o,ZbD q.1,if q.2.2 then[63]++q.2.1 else[]⟩,0)by rw[aJ.out];rfl)
 have bB:=aD.out
 clear aJ aZ aD
 go_wp2_with fail
 refine(Q6.out w6 (HE.upd0 aW)).mono ?_
 rintro e L ⟨rfl,aI⟩
 have az:=Jt aW aI;have Z:=D ((aI.block w.heap.size (Jg aP) (by simp)).trans aP);have bG:=D ((aI.block r (Jg aR) (by simp)).trans aR)
 clear aI Q6 bB
 obtain⟨T,X,aO⟩:=q
 dsimp only at ae a0
 obtain⟨bs,a9⟩:=a0.out
 have bX:T.length≤512:=Xj bs bg.out
 have bV:X.length≤512:=Xj a9 bg.out
 clear bs a9 a0
 obtain⟨b1,bt⟩:=Je (Zel T Zch)
 obtain⟨b2,bj⟩:=Je (Zel X Zbt)
 have q7:=Zd8 T Zch L (by omega)
 have q8:=Zd8 X Zbt L (by omega)
 obtain⟨p,aN⟩:=Je (ZbD T)
 have aG:p.length≤300000:=by
  rw[aN]
  calc (ZbD T).length≤1+(T.length+1)*(T.length+2):=Zmd T
   _≤1+513*514:=Nat.add_le_add_left (Nat.mul_le_mul (by omega) (by omega)) _
   _≤300000:=by omega
 have q9:∀W,Env W→Calls Tryz.prog 174 #[.string ⟨T.toArray⟩] W fun e w'=>e= .returned (.string ⟨p.toArray⟩)∧Zg [] W w':=fun W hW=>by rw[aN];exact Zgf T W (by omega) hW
 rw[←bt]at q7 ae
 rw[←bj]at q8 ae
 rw[←aN]at ae
 have Q7:=D q7;have Q8:=D q8;have Q9:=D q9
 clear q7 q8 q9 bt bj aN
 go_wp2_with fail
 refine Q7.out.mono ?_
 rintro e wt ⟨rfl,av⟩
 rw[av];clear av wt Q7
 cases b1 with
 |false=>
  have j:=D (show R=(Z6.zero,3)by rw[ae.out];rfl)
  go_wp2_with(refine Jo (ZV Z6.zero).toArray Z d af ?_)
  refine bodyPost_ret (v:= .tuple #[.agg (ZV Z6.zero).toArray, .int .i64 3]) (Zl _ Tryz.results103 (b:=w.heap.size) (o:=0) rfl rfl d (Zb.of_block (setRow_heap _ _ _ _ _ _ Z))) rfl ?_
  rw[j.out]
  exact⟨rfl,az.setRow (.inl (Xi _)) _⟩
 |true=>
 go_wp2_with fail
 refine Q8.out.mono ?_
 rintro e wt ⟨rfl,av⟩
 rw[av];clear av wt Q8
 cases b2 with
 |false=>
  have j:=D (show R=(Z6.zero,3)by rw[ae.out];rfl)
  go_wp2_with(refine Jo (ZV Z6.zero).toArray Z d af ?_)
  refine bodyPost_ret (v:= .tuple #[.agg (ZV Z6.zero).toArray, .int .i64 3]) (Zl _ Tryz.results103 (b:=w.heap.size) (o:=0) rfl rfl d (Zb.of_block (setRow_heap _ _ _ _ _ _ Z))) rfl ?_
  rw[j.out]
  exact⟨rfl,az.setRow (.inl (Xi _)) _⟩
 |true=>
 have aK:=D (show R=if 512<(YV ⟨o,p,if aO then[63]++X else[]⟩).length then(Z6.zero,4)else(⟨o,p,if aO then[63]++X else[]⟩,0)by rw[ae.out];rfl)
 have aQ:=D (show Zb L r 0 (Zz o)from Zb.of_block bG)
 have bf:=D (show(ZV ⟨o,p,[]⟩).toArray.all (·.oneCell')=true by rw[Xl,Xk];exact ZaK _)
 clear ae
 go_upto_region 16 with fail
 refine ZbL (.held 0 (.held 1 (.two 2 (.held 3 (.eff 4 (.eff 5 (.nil)))) 4 (.eff 2 (.held 3 (.eff 5 (.nil))))))) (fun W=>Zb W r 0 (Zz o)) (by kernel_rfl) (by kernel_rfl) (fun c a w t v h=>by cases t<;>exact h) aQ ?_
 apply ZiG (t:= 207) (x:= .tmp 8) (b:=r) (of:=0) (cs:=[.string ⟨o.scheme.toArray⟩, .string ⟨o.host.toArray⟩, .int .i64 o.port])
 case ho=>simp only[Xh,Xf,Xg];rfl
 case hg=>rfl
 case hop=>rfl
 case hx=>rfl
 case hv=>exact fun W hW=>Ym W bA hW
 case ha=>go_simp;rfl
 repeat first|refine JN ?_|refine JF ?_
 apply ZdM
 case ho=>simp only[Xh,Xf,Xg];rfl
 case ho2=>simp only[Xh,Xf,Xg];rfl
 case h=>
  simp only[Xu]
  go_wp2_with fail
  refine(Q9.out _ (HE.upd0 (az.drewN 1))).mono ?_
  rintro e w8 ⟨rfl,am⟩
  have aE:Zg [] L w8:=((Zg.refl [] L).drewN 1).trans am (by simp)
  have aS:=Jt az aE;have aq:=D ((aE.block w.heap.size (Jg Z) (by simp)).trans Z);have ap:=D (aQ.upd aE (by simp))
  clear am aE Q9
  go_wp2_with fail
  refine⟨fun W=>Zb W r 0 (Zz o),fun _ h=>h,ap.out,?_⟩
  repeat first|refine JN ?_|refine JF ?_
  refine JU ?_
  go_wp2_with fail
  obtain⟨w9,aL⟩:=Je (w8.alloc (.cells #[.string ⟨#[]⟩, .string ⟨#[]⟩, .int .i64 0, .string ⟨#[]⟩, .string ⟨#[]⟩] 209))
  have ai:=Jh aL
  have V:=Ja aL
  obtain⟨g,aj⟩:=Je w8.heap.size
  have ad:=D (show w.heap.size≤g∧w.heap.size≠g by have:=(Jg aq);omega)
  rw[←aL,←aj]
  rw[←aj]at ai
  have a5:=Jt aS V;have aA:=D ((V.block w.heap.size (Jg aq) (by simp)).trans aq);have au:=D (ap.upd V (by simp))
  have a4:=D (show r≠g by have:=Xo _ _ (ap.out 0 _ rfl);have h2:(⟨r,0+0,none⟩:Addr).block=r:=rfl;rw[h2]at this;omega)
  clear aL V aj;change Hid _ at ai
  refine⟨fun W=>Zb W r 0 (Zz o),fun _ h=>h,au.out,?_⟩
  refine JU ?_
  obtain⟨C,ab⟩:=Je (w9.setRow g (ZV ⟨o,p,[]⟩).toArray)
  have P:C.heap[g]? =some (.cells (ZV ⟨o,p,[]⟩).toArray 209 (0,0)):=by rw[ab];exact setRow_heap _ _ _ _ _ _ ai.out
  have Y:Zg [g] w9 C:=by rw[ab];exact(Zg.refl _ _).setRow (.inr (by simp)) _
  have ak:=D ((Y.block w.heap.size (Jg aA) (by simpa using ad.out.2)).trans aA)
  have ay:=D ((a5.weaken (G:=[]) (by simp)).trans Y (fun q K=> .inl (by rw[Jm K];exact ad.out.1)))
  have a3:=D (au.upd Y (by simpa using a4.out))
  clear Y;change Hid _ at P ab
  go_wp2_with(refine Jo (ZV ⟨o,p,[]⟩).toArray ai d bf ?_;rw[←ab.out])
  refine⟨fun W=>Zb W r 0 (Zz o),fun _ h=>h,a3.out,Zet ?_⟩
  cases aO with
  |false=>
   obtain⟨u,n⟩:∃u:Z6,u=⟨o,p,[]⟩:=⟨_,rfl⟩
   have y:=D (show R=if 512<(YV u).length then(Z6.zero,4)else(u,0)by rw[aK.out,n];rfl)
   have ag:=D (show UrlFit u by rw[n];exact⟨Xj aB (by omega),Xj aG (by omega),by simp⟩)
   have H:=D (show Zb C g 0 (ZV u)by rw[n];exact Zb.of_block P)
   have I:=ay;have F:=ak
   obtain⟨J,ax⟩:=Je C
   rw[←ax]at H I F⊢
   clear ax n
   go_upto_region 19 with fail
   obtain⟨E,M⟩:=Je (YV u)
   have z:=Zba u J ag (HE.upd0 I)
   rw[←M]at z y
   have O:=D z
   clear z M
   go_wp2_with(refine Jl H d ?_)
   refine O.out.mono ?_
   rintro e wD ⟨rfl,m⟩
   have N:=Jt I m;have l:=D ((m.block w.heap.size (Jg F) (by simp)).trans F);have an:=D (H.upd m (by simp))
   have ao:=D (show(ZV u).toArray.all (·.oneCell')=true by rw[Xl,Xk];exact ZaK _)
   clear m O
   by_cases Q:512<E.length
   ·
    have j:=D (show R=(Z6.zero,4)by rw[y.out,if_pos Q])
    have ah:(512:Int)<(E.length:Int):=by omega
    go_wp2_with(refine Jo (ZV Z6.zero).toArray l d af ?_)
    refine bodyPost_ret (v:= .tuple #[.agg (ZV Z6.zero).toArray, .int .i64 4]) (Zl _ Tryz.results103 (b:=w.heap.size) (o:=0) rfl rfl d (Zb.of_block (setRow_heap _ _ _ _ _ _ l))) rfl ?_
    rw[j.out]
    exact⟨rfl,N.setRow (.inl (Xi _)) _⟩
   ·
    have j:=D (show R=(u,0)by rw[y.out,if_neg Q])
    have ah:¬(512:Int)<(E.length:Int):=by omega
    go_wp2_with(first|refine Jl an d ?_|refine Jo (ZV u).toArray l d ao ?_)
    refine bodyPost_ret (v:= .tuple #[.agg (ZV u).toArray, .int .i64 0]) (Zl _ Tryz.results103 (b:=w.heap.size) (o:=0) rfl rfl d (Zb.of_block (setRow_heap _ _ _ _ _ _ l))) rfl ?_
    rw[j.out]
    exact⟨rfl,N.setRow (.inl (Xi _)) _⟩
  |true=>
   obtain⟨S,ac⟩:=Je ([63]++X)
   have aU:(⟨#[63]⟩:ByteArray)++⟨X.toArray⟩=⟨S.toArray⟩:=by rw[ac,show(⟨#[63]⟩:ByteArray)=⟨([63]:Bs).toArray⟩from rfl,Zau]
   have aV:S.length≤513:=by rw[ac];simp;omega
   obtain⟨J,aa⟩:=Je (C.setCell ⟨g,4,none⟩ (.string ⟨S.toArray⟩))
   have ar:J.heap[g]? =some (.cells (ZV ⟨o,p,S⟩).toArray 209 (0,0)):=by rw[aa];exact(Ze (i:=4) P _).trans rfl
   have al:Zg [g] C J:=by rw[aa];exact(Zg.refl _ _).setCell (.inr (by simp)) _
   have k4:=Jc 4 P.out
   have f4:C.frozen? ⟨g,4,none⟩=false:=Zk P.out
   obtain⟨u,n⟩:∃u:Z6,u=⟨o,p,S⟩:=⟨_,rfl⟩
   have y:=D (show R=if 512<(YV u).length then(Z6.zero,4)else(u,0)by rw[aK.out,n,ac];rfl)
   have ag:=D (show UrlFit u by rw[n];exact⟨Xj aB (by omega),Xj aG (by omega),Xj aV (by omega)⟩)
   have H:=D (show Zb J g 0 (ZV u)by rw[n];exact Zb.of_block ar)
   have F:=D ((al.block w.heap.size (Jg ak) (by simpa using ad.out.2)).trans ak)
   have I:=D ((ay.weaken (G:=[]) (by simp)).trans al (fun q K=> .inl (by rw[Jm K];exact ad.out.1)))
   clear ac ar al n;change Hid _ at aa
   go_upto_region 19 with fail
   rw[←aa.out]
   clear k4 f4 aU
   obtain⟨E,M⟩:=Je (YV u)
   have z:=Zba u J ag (HE.upd0 I)
   rw[←M]at z y
   have O:=D z
   clear z M
   go_wp2_with(refine Jl H d ?_)
   refine O.out.mono ?_
   rintro e wD ⟨rfl,m⟩
   have N:=Jt I m;have l:=D ((m.block w.heap.size (Jg F) (by simp)).trans F);have an:=D (H.upd m (by simp))
   have ao:=D (show(ZV u).toArray.all (·.oneCell')=true by rw[Xl,Xk];exact ZaK _)
   clear m O
   by_cases Q:512<E.length
   ·
    have j:=D (show R=(Z6.zero,4)by rw[y.out,if_pos Q])
    have ah:(512:Int)<(E.length:Int):=by omega
    go_wp2_with(refine Jo (ZV Z6.zero).toArray l d af ?_)
    refine bodyPost_ret (v:= .tuple #[.agg (ZV Z6.zero).toArray, .int .i64 4]) (Zl _ Tryz.results103 (b:=w.heap.size) (o:=0) rfl rfl d (Zb.of_block (setRow_heap _ _ _ _ _ _ l))) rfl ?_
    rw[j.out]
    exact⟨rfl,N.setRow (.inl (Xi _)) _⟩
   ·
    have j:=D (show R=(u,0)by rw[y.out,if_neg Q])
    have ah:¬(512:Int)<(E.length:Int):=by omega
    go_wp2_with(first|refine Jl an d ?_|refine Jo (ZV u).toArray l d ao ?_)
    refine bodyPost_ret (v:= .tuple #[.agg (ZV u).toArray, .int .i64 0]) (Zl _ Tryz.results103 (b:=w.heap.size) (o:=0) rfl rfl d (Zb.of_block (setRow_heap _ _ _ _ _ _ l))) rfl ?_
    rw[j.out]
    exact⟨rfl,N.setRow (.inl (Xi _)) _⟩
 case h2=>
  simp only[Xu]
  go_wp2_with fail
  obtain⟨w8,aH⟩:=Je ((L.drewN 1).alloc (.cells #[.string ⟨#[]⟩, .string ⟨#[]⟩, .int .i64 0, .string ⟨#[]⟩, .string ⟨#[]⟩] 209))
  have aC:w8.heap[L.heap.size]? =some (.cells #[.string ⟨#[]⟩, .string ⟨#[]⟩, .int .i64 0, .string ⟨#[]⟩, .string ⟨#[]⟩] 209 (0,0)):=by rw[aH];exact Za (w:=L.drewN 1) _
  have am:Zg [] L w8:=by rw[aH];exact((Zg.refl [] L).drewN 1).alloc _
  obtain⟨g,aj⟩:=Je L.heap.size
  have ad:=D (show w.heap.size≤g∧w.heap.size≠g by have:=(Jg Z);omega)
  have a4:=D (show r≠g by have:=Xo _ _ (aQ.out 0 _ rfl);have h2:(⟨r,0+0,none⟩:Addr).block=r:=rfl;rw[h2]at this;omega)
  have a7:(L.alloc (.cells #[.string ⟨#[]⟩, .string ⟨#[]⟩, .int .i64 0, .string ⟨#[]⟩, .string ⟨#[]⟩] 209)).drew=w8:=aH.symm
  rw[a7,←aj]
  rw[←aj]at aC
  have aS:=Jt az am;have aq:=D ((am.block w.heap.size (Jg Z) (by simp)).trans Z);have ap:=D (aQ.upd am (by simp))
  clear aH a7 am aj;change Hid _ at aC
  refine⟨fun W=>Zb W r 0 (Zz o),fun _ h=>h,ap.out,?_⟩
  refine JU ?_
  go_wp2_with fail
  refine(Q9.out _ (HE.upd0 aS)).mono ?_
  rintro e w9 ⟨rfl,V⟩
  have ai:=D ((V.block g (Jg aC) (by simp)).trans aC)
  have a5:=Jt aS V;have aA:=D ((V.block w.heap.size (Jg aq) (by simp)).trans aq);have au:=D (ap.upd V (by simp))
  clear V Q9
  go_wp2_with fail
  refine⟨fun W=>Zb W r 0 (Zz o),fun _ h=>h,au.out,?_⟩
  repeat first|refine JN ?_|refine JF ?_
  refine JU ?_
  obtain⟨C,ab⟩:=Je (w9.setRow g (ZV ⟨o,p,[]⟩).toArray)
  have P:C.heap[g]? =some (.cells (ZV ⟨o,p,[]⟩).toArray 209 (0,0)):=by rw[ab];exact setRow_heap _ _ _ _ _ _ ai.out
  have Y:Zg [g] w9 C:=by rw[ab];exact(Zg.refl _ _).setRow (.inr (by simp)) _
  have ak:=D ((Y.block w.heap.size (Jg aA) (by simpa using ad.out.2)).trans aA)
  have ay:=D ((a5.weaken (G:=[]) (by simp)).trans Y (fun q K=> .inl (by rw[Jm K];exact ad.out.1)))
  have a3:=D (au.upd Y (by simpa using a4.out))
  clear Y;change Hid _ at P ab
  go_wp2_with(refine Jo (ZV ⟨o,p,[]⟩).toArray ai d bf ?_;rw[←ab.out])
  refine⟨fun W=>Zb W r 0 (Zz o),fun _ h=>h,a3.out,Zet ?_⟩
  cases aO with
  |false=>
   obtain⟨u,n⟩:∃u:Z6,u=⟨o,p,[]⟩:=⟨_,rfl⟩
   have y:=D (show R=if 512<(YV u).length then(Z6.zero,4)else(u,0)by rw[aK.out,n];rfl)
   have ag:=D (show UrlFit u by rw[n];exact⟨Xj aB (by omega),Xj aG (by omega),by simp⟩)
   have H:=D (show Zb C g 0 (ZV u)by rw[n];exact Zb.of_block P)
   have I:=ay;have F:=ak
   obtain⟨J,ax⟩:=Je C
   rw[←ax]at H I F⊢
   clear ax n
   go_upto_region 19 with fail
   obtain⟨E,M⟩:=Je (YV u)
   have z:=Zba u J ag (HE.upd0 I)
   rw[←M]at z y
   have O:=D z
   clear z M
   go_wp2_with(refine Jl H d ?_)
   refine O.out.mono ?_
   rintro e wD ⟨rfl,m⟩
   have N:=Jt I m;have l:=D ((m.block w.heap.size (Jg F) (by simp)).trans F);have an:=D (H.upd m (by simp))
   have ao:=D (show(ZV u).toArray.all (·.oneCell')=true by rw[Xl,Xk];exact ZaK _)
   clear m O
   by_cases Q:512<E.length
   ·
    have j:=D (show R=(Z6.zero,4)by rw[y.out,if_pos Q])
    have ah:(512:Int)<(E.length:Int):=by omega
    go_wp2_with(refine Jo (ZV Z6.zero).toArray l d af ?_)
    refine bodyPost_ret (v:= .tuple #[.agg (ZV Z6.zero).toArray, .int .i64 4]) (Zl _ Tryz.results103 (b:=w.heap.size) (o:=0) rfl rfl d (Zb.of_block (setRow_heap _ _ _ _ _ _ l))) rfl ?_
    rw[j.out]
    exact⟨rfl,N.setRow (.inl (Xi _)) _⟩
   ·
    have j:=D (show R=(u,0)by rw[y.out,if_neg Q])
    have ah:¬(512:Int)<(E.length:Int):=by omega
    go_wp2_with(first|refine Jl an d ?_|refine Jo (ZV u).toArray l d ao ?_)
    refine bodyPost_ret (v:= .tuple #[.agg (ZV u).toArray, .int .i64 0]) (Zl _ Tryz.results103 (b:=w.heap.size) (o:=0) rfl rfl d (Zb.of_block (setRow_heap _ _ _ _ _ _ l))) rfl ?_
    rw[j.out]
    exact⟨rfl,N.setRow (.inl (Xi _)) _⟩
  |true=>
   obtain⟨S,ac⟩:=Je ([63]++X)
   have aU:(⟨#[63]⟩:ByteArray)++⟨X.toArray⟩=⟨S.toArray⟩:=by rw[ac,show(⟨#[63]⟩:ByteArray)=⟨([63]:Bs).toArray⟩from rfl,Zau]
   have aV:S.length≤513:=by rw[ac];simp;omega
   obtain⟨J,aa⟩:=Je (C.setCell ⟨g,4,none⟩ (.string ⟨S.toArray⟩))
   have ar:J.heap[g]? =some (.cells (ZV ⟨o,p,S⟩).toArray 209 (0,0)):=by rw[aa];exact(Ze (i:=4) P _).trans rfl
   have al:Zg [g] C J:=by rw[aa];exact(Zg.refl _ _).setCell (.inr (by simp)) _
   have k4:=Jc 4 P.out
   have f4:C.frozen? ⟨g,4,none⟩=false:=Zk P.out
   obtain⟨u,n⟩:∃u:Z6,u=⟨o,p,S⟩:=⟨_,rfl⟩
   have y:=D (show R=if 512<(YV u).length then(Z6.zero,4)else(u,0)by rw[aK.out,n,ac];rfl)
   have ag:=D (show UrlFit u by rw[n];exact⟨Xj aB (by omega),Xj aG (by omega),Xj aV (by omega)⟩)
   have H:=D (show Zb J g 0 (ZV u)by rw[n];exact Zb.of_block ar)
   have F:=D ((al.block w.heap.size (Jg ak) (by simpa using ad.out.2)).trans ak)
   have I:=D ((ay.weaken (G:=[]) (by simp)).trans al (fun q K=> .inl (by rw[Jm K];exact ad.out.1)))
   clear ac ar al n;change Hid _ at aa
   go_upto_region 19 with fail
   rw[←aa.out]
   clear k4 f4 aU
   obtain⟨E,M⟩:=Je (YV u)
   have z:=Zba u J ag (HE.upd0 I)
   rw[←M]at z y
   have O:=D z
   clear z M
   go_wp2_with(refine Jl H d ?_)
   refine O.out.mono ?_
   rintro e wD ⟨rfl,m⟩
   have N:=Jt I m;have l:=D ((m.block w.heap.size (Jg F) (by simp)).trans F);have an:=D (H.upd m (by simp))
   have ao:=D (show(ZV u).toArray.all (·.oneCell')=true by rw[Xl,Xk];exact ZaK _)
   clear m O
   by_cases Q:512<E.length
   ·
    have j:=D (show R=(Z6.zero,4)by rw[y.out,if_pos Q])
    have ah:(512:Int)<(E.length:Int):=by omega
    go_wp2_with(refine Jo (ZV Z6.zero).toArray l d af ?_)
    refine bodyPost_ret (v:= .tuple #[.agg (ZV Z6.zero).toArray, .int .i64 4]) (Zl _ Tryz.results103 (b:=w.heap.size) (o:=0) rfl rfl d (Zb.of_block (setRow_heap _ _ _ _ _ _ l))) rfl ?_
    rw[j.out]
    exact⟨rfl,N.setRow (.inl (Xi _)) _⟩
   ·
    have j:=D (show R=(u,0)by rw[y.out,if_neg Q])
    have ah:¬(512:Int)<(E.length:Int):=by omega
    go_wp2_with(first|refine Jl an d ?_|refine Jo (ZV u).toArray l d ao ?_)
    refine bodyPost_ret (v:= .tuple #[.agg (ZV u).toArray, .int .i64 0]) (Zl _ Tryz.results103 (b:=w.heap.size) (o:=0) rfl rfl d (Zb.of_block (setRow_heap _ _ _ _ _ _ l))) rfl ?_
    rw[j.out]
    exact⟨rfl,N.setRow (.inl (Xi _)) _⟩):P:=h
theorem Zf6 (x:Bs) (w:World) (hE:Env w):
  Calls Tryz.prog 103 #[.string ⟨x.toArray⟩] w (ZqU w (ZaT x)):=by
 obtain⟨R,hR⟩:=Je (ZaT x)
 have bK:=D (hR.trans (parseT_eq x))
 rw[←hR]
 clear hR
 have HE:=D hE;clear hE
 have bA:=D (show Zu Tryz.prog 207 3=true by kernel_rfl)
 have d:=D (show Zu Tryz.prog 209 5=true by kernel_rfl)
 have af:=D (show(ZV Z6.zero).toArray.all (·.oneCell')=true by rw[Xl,Xk];exact ZaK _)
 obtain⟨w1,bq⟩:=Je (w.alloc (.cells #[.string ⟨#[]⟩, .string ⟨#[]⟩, .int .i64 0, .string ⟨#[]⟩, .string ⟨#[]⟩] 209))
 have bz:=Ja bq
 have bp:=Jh bq
 change Hid _ at bq bz bp
 by_cases bv:512<x.length
 ·have hz:(512:Int)<(x.length:Int):=by omega
  have j:=D (show R=(Z6.zero,4)by rw[bK.out,if_pos bv])
  clear bv
  go_enter Tryz.func103,Tryz.ntmps103
  go_upto_region 1 with fail
  rw[←bq.out]
  go_wp2_with(refine Jo (ZV Z6.zero).toArray bp d af ?_)
  refine bodyPost_ret (v:= .tuple #[.agg (ZV Z6.zero).toArray, .int .i64 4]) (Zl _ Tryz.results103 (b:=w.heap.size) (o:=0) rfl rfl d (Zb.of_block (setRow_heap _ _ _ _ _ _ bp))) rfl ?_
  rw[j.out]
  exact⟨rfl,bz.setRow (.inl (Xi _)) _⟩
 have hz:¬(512:Int)<(x.length:Int):=by omega
 obtain⟨s,hs⟩:=Je ((Lib.cut x [35]).1)
 have bU:s.length≤512:=by rw[hs];have:=(Zdh x [35]).1;omega
 have q1:=Zcr (HE.upd0 bz) x [35] (by omega)
 rw[←hs]at q1
 obtain⟨c,hc⟩:=Je (Lib.cut s [58,47,47])
 have bE:=Zdh s [58,47,47]
 have bL:∀W,Env W→Calls Tryz.prog 171 #[.string ⟨s.toArray⟩, .string ⟨#[58,47,47]⟩] W fun e w'=>e= .returned (.tuple #[.string ⟨c.1.toArray⟩, .string ⟨c.2.1.toArray⟩, .bool c.2.2])∧Zg [] W w':=fun W hW=>by rw[hc];exact Zcr hW s [58,47,47] (by omega)
 rw[←hc]at bE
 have bi:=D (show R=if !c.2.2 then(Z6.zero,3)else urlOf c.1 c.2.1 ((c.2.1.findIdx? fun x=>x==47||x==63).getD c.2.1.length)by rw[bK.out,if_neg bv,←hs,←hc])
 have Q1:=D q1;have bN:=D bL;have bF:=D bE
 obtain⟨t1,bR⟩:=Je ((Lib.cut x [35]).2.1)
 obtain⟨t2,bP⟩:=Je ((Lib.cut x [35]).2.2)
 rw[←bR,←bP]at Q1
 clear q1 bL bE hc hs bv bK bR bP
 go_enter Tryz.func103,Tryz.ntmps103
 go_upto_region 1 with fail
 rw[←bq.out]
 go_wp2_with fail
 refine Q1.out.mono ?_
 rintro e w2 ⟨rfl,bC⟩
 have bQ:=Jt bz bC;have bS:=D ((bC.block w.heap.size (Jg bp) (by simp)).trans bp)
 clear bC Q1
 go_wp2_with fail
 refine(bN.out w2 (HE.upd0 bQ)).mono ?_
 rintro e w3 ⟨rfl,bD⟩
 have bH:=Jt bQ bD;have a6:=D ((bD.block w.heap.size (Jg bS) (by simp)).trans bS)
 clear bD bN
 obtain⟨aT,rest,ok⟩:=c
 dsimp only at bi bF
 obtain⟨bM,bO⟩:=bF.out
 have bZ:aT.length≤512:=Xj bM bU
 have b0:rest.length≤512:=Xj bO bU
 clear bM bO bF
 cases ok with
 |false=>
  have j:=D (show R=(Z6.zero,3)by rw[bi.out];rfl)
  go_wp2_with(refine Jo (ZV Z6.zero).toArray a6 d af ?_)
  refine bodyPost_ret (v:= .tuple #[.agg (ZV Z6.zero).toArray, .int .i64 3]) (Zl _ Tryz.results103 (b:=w.heap.size) (o:=0) rfl rfl d (Zb.of_block (setRow_heap _ _ _ _ _ _ a6))) rfl ?_
  rw[j.out]
  exact⟨rfl,bH.setRow (.inl (Xi _)) _⟩
 |true=>
 have bw:=D (show R=urlOf aT rest ((rest.findIdx? fun x=>x==47||x==63).getD rest.length)by rw[bi.out];rfl)
 have q3:=ZjC rest [47,63] (by decide) (by decide) (by decide) (by omega) w3
 rw[Zfq]at q3
 cases hfi:rest.findIdx? (fun x=>x==47||x==63)with
 |some i=>
  rw[hfi]at q3
  have b3:i<rest.length:=(List.findIdx?_eq_some_iff_getElem.1 hfi).1
  obtain⟨k,bT⟩:=Je i
  have bn:=D (show R=urlOf aT rest k by rw[bw.out,hfi,bT];rfl)
  have Q3:=D q3
  subst bT
  have bY:k≤rest.length:=by omega
  clear q3 hfi bw bi
  go_wp2_with fail
  refine Q3.out.mono ?_
  rintro e w4 ⟨rfl,aY⟩
  have bm:=Jt bH aY;have be:=D ((aY.block w.heap.size (Jg a6) (by simp)).trans a6)
  clear aY Q3
  go_upto_region 10 with fail
  exact ZeP
 |none=>
  rw[hfi]at q3
  obtain⟨k,bx⟩:=Je rest.length
  have bn:=D (show R=urlOf aT rest k by rw[bw.out,hfi,bx];rfl)
  have Q3:=D q3
  have bY:k≤rest.length:=by omega
  clear q3 hfi bw bi;change Hid _ at bx
  go_wp2_with fail
  refine Q3.out.mono ?_
  rintro e w4 ⟨rfl,aY⟩
  have bm:=Jt bH aY;have be:=D ((aY.block w.heap.size (Jg a6) (by simp)).trans a6)
  clear aY Q3
  go_upto_region 10 with fail
  rw[←bx.out]
  clear bx
  exact ZeP
end Go.Proofs.YtbgbeddbfaopgaaGreatDoor
namespace Go.Lk
theorem Zps (r:Yb):Za9 r=if(ZaT r.url).2 !=0 then(ZaT r.url).2 else if(Y5 r.origin).2 !=0 then(Y5 r.origin).2
 else if ZbW r !=0 then ZbW r
 else if(r.mode==1&&(ZaT r.url).1.origin !=(Y5 r.origin).1)||(r.mode==2&& !ZfC r)then 7 else 0:=rfl
open Go.RowKit
theorem ZbS {P:Program} {ops:Array Oper} {rest:List Oper} {o:Oper} {a:Act} {Q:Exit→Act→World→Prop} (hgd:Region.wanted o (yielded ops a.tmps)=true) (t:TypeId) (x:Operand) (ho:o.op= .load t x)
  (b of:Nat) (cs:List Value) (hx:a.eval x= .pointer (some ⟨b,of,none⟩)) (ht:Zu P t cs.length=true) (hb:Zb w b of cs)
  (h:wpList P ops Q rest (a.put o.dst (.agg cs.toArray)) w):wpList P ops Q (o::rest) a w:=
 wpList_step fun K hK=>by
  rw[if_pos hgd]
  unfold Oper.wp execOp
  simp only[ho,Sem.run_bind,Sem.run_pure,Result.andThen_ok,hx,Ym w ht hb]
  exact hK _ _ h
end Go.Lk
namespace Go.Proofs.YtbgbeddbfaopgaaGreatDoor
open Go.RowKit Go.Lk
theorem Yp:Zu Tryz.prog 43 10=true:=by kernel_rfl
theorem Zey:Zu Tryz.prog 207 3=true:=by kernel_rfl
theorem Zf8:Zu Tryz.prog 209 5=true:=by kernel_rfl
theorem ZkQ (a c:Zx):(a !=c)=decide (¬(a.scheme=c.scheme∧a.host=c.host∧a.port=c.port)):=by
 obtain⟨g,u1,d⟩:=a
 obtain⟨i,u2,h⟩:=c
 by_cases e:g=i<;>by_cases f:u1=u2<;>by_cases b:d=h<;>simp[e,f,b,bne]
theorem ZgH (r:Yb) (vh:Value) (w:World) (h:Za0 w r vh) (hE:Env w):
  Calls Tryz.prog 60 #[.agg (Zv r vh).toArray] w fun e w'=>e= .returned (.int .i64 (Za9 r))∧Zg [] w w':=by
 obtain⟨R,hR⟩:=Je (Za9 r)
 obtain⟨u,hu⟩:=Je (ZaT r.url)
 obtain⟨o,ho⟩:=Je (Y5 r.origin)
 obtain⟨d,ad⟩:=Je (ZbW r)
 obtain⟨g,V⟩:=Je (ZfC r)
 have O:=D (show R=if u.2 !=0 then u.2 else if o.2 !=0 then o.2 else if d !=0 then d else if(r.mode==1&&u.1.origin !=o.1)||(r.mode==2&& !g)then 7 else 0 by rw[hR,hu,ho,ad,V];exact Zps r)
 rw[←hR]
 obtain⟨z,J⟩:=Je (w.alloc (.cells (Zv r vh).toArray 43))
 have a:=Ja J
 have p:=Jh J
 have c1:=Jc 1 p
 have q1:=Zf6 r.url z (hE.upd0 a)
 rw[←hu]at q1
 have q2:∀W,Zg [] z W→Calls Tryz.prog 104 #[.string ⟨r.origin.toArray⟩] W (ZhB W o):=fun W k=>by rw[ho];exact ZdX r.origin W h.o (hE.upd0 (a.trans k (by simp)))
 have q3:∀W,Zg [] z W→Calls Tryz.prog 105 #[.agg (Zv r vh).toArray] W fun e w'=>e= .returned (.int .i64 d)∧Zg [] W w':=fun W k=>by rw[ad];exact Zml r vh W ((h.upd0 a).upd0 k) (hE.upd0 (a.trans k (by simp)))
 have q4:∀W,Zg [] z W→Calls Tryz.prog 106 #[.agg (Zv r vh).toArray] W fun e w'=>e= .returned (.bool g)∧Zg [] W w':=fun W k=>by rw[V];exact ZjB r vh W ((h.upd0 a).upd0 k) (hE.upd0 (a.trans k (by simp)))
 have Q1:=D q1;have Q2:=D q2;have Q3:=D q3;have Q4:=D q4
 have aj:=D Yp;have ax:=D Zey;have az:=D Zf8
 have aA:=D (show Tryz.prog.eqGuardType Tryz.prog.depth 207=false by kernel_rfl)
 clear q1 q2 q3 q4 hR hu ho ad V h hE;change Hid _ at a J p
 obtain⟨m,Y⟩:=Je w.heap.size
 rw[←Y]at p c1
 change Hid _ at Y
 go_enter Tryz.func60,Tryz.ntmps60
 go_upto_region 1 with fail
 rw[←J.out,←Y.out]
 go_wp2_with fail
 refine Q1.out.mono ?_
 rintro e i ⟨rfl,ai⟩
 obtain⟨u,ue⟩:=u
 dsimp only at O
 obtain⟨y,F⟩:=Je ((i.alloc (.cells #[.string ⟨#[]⟩, .string ⟨#[]⟩, .int .i64 0, .string ⟨#[]⟩, .string ⟨#[]⟩] 209 (0,0))).setRow i.heap.size (ZV u).toArray)
 have ap:=D (Za (w:=i) (.cells #[.string ⟨#[]⟩, .string ⟨#[]⟩, .int .i64 0, .string ⟨#[]⟩, .string ⟨#[]⟩] 209 (0,0)))
 have I:y.heap[i.heap.size]? =some (.cells (ZV u).toArray 209 (0,0)):=by rw[F];exact setRow_heap _ _ _ _ _ _ ap.out
 have ae:Zg [] i y:=by rw[F];exact((Zg.refl [] i).alloc _).setRow (.inl (Xi _)) _
 have au:=D (show(ZV u).toArray.all (·.oneCell')=true by rw[Xl,Xk];exact ZaK _)
 have Q:Zg [] z y:=ai.trans ae (by simp)
 have S:=D Q
 have aa:=(Q.block m (Jg p) (by simp)).trans p.out
 have ah:=D aa
 have c2:=Jc 2 aa
 clear ai ae Q aa c1 Q1;change Hid _ at F I
 go_upto_region 2 with(refine Jo (ZV u).toArray ap az au ?_;rw[←F.out])
 obtain⟨l,aq⟩:=Je i.heap.size
 rw[←aq]at I⊢
 clear aq
 by_cases h1:ue=0
 case neg=>
  have b:=D (show R=ue by rw[O.out,if_pos (by simpa using h1)])
  go_wp2_with fail
  go_ret
  exact⟨by rw[b.out];rfl,a.trans S (by simp)⟩
 subst h1
 have K:=D (show R=if o.2 !=0 then o.2 else if d !=0 then d else if(r.mode==1&&u.origin !=o.1)||(r.mode==2&& !g)then 7 else 0 by rw[O.out];rfl)
 clear O
 go_wp2_with fail
 refine(Q2.out y S).mono ?_
 rintro e j ⟨rfl,ao⟩
 obtain⟨o,oe⟩:=o
 dsimp only at K
 obtain⟨x,L⟩:=Je ((j.alloc (.cells #[.string ⟨#[]⟩, .string ⟨#[]⟩, .int .i64 0] 207 (0,0))).setRow j.heap.size (Zz o).toArray)
 have al:=D (Za (w:=j) (.cells #[.string ⟨#[]⟩, .string ⟨#[]⟩, .int .i64 0] 207 (0,0)))
 have H:x.heap[j.heap.size]? =some (.cells (Zz o).toArray 207 (0,0)):=by rw[L];exact setRow_heap _ _ _ _ _ _ al.out
 have ag:Zg [] j x:=by rw[L];exact((Zg.refl [] j).alloc _).setRow (.inl (Xi _)) _
 have ay:=D (show(Zz o).toArray.all (·.oneCell')=true by rw[Xl,Xk];exact ZaO _)
 have E:Zg [] y x:=ao.trans ag (by simp)
 have P:=Jt S E
 have ac:=D ((E.block m (Jg ah) (by simp)).trans ah)
 have ar:=D ((E.block l (Jg I) (by simp)).trans I)
 clear ao ag E c2 Q2;change Hid _ at L H
 go_upto_region 5 with(refine Jo (Zz o).toArray al ax ay ?_;rw[←L.out])
 obtain⟨C,ak⟩:=Je j.heap.size
 rw[←ak]at H⊢
 clear ak
 by_cases h2:oe=0
 case neg=>
  have b:=D (show R=oe by rw[K.out,if_pos (by simpa using h2)])
  go_wp2_with fail
  go_ret
  exact⟨by rw[b.out];rfl,a.trans P (by simp)⟩
 subst h2
 have T:=D (show R=if d !=0 then d else if(r.mode==1&&u.origin !=o)||(r.mode==2&& !g)then 7 else 0 by rw[K.out];rfl)
 have av:=D (show Zb x m 0 (Zv r vh)from Zb.of_block ac)
 clear K
 go_wp2_with(refine Jl av aj ?_)
 refine(Q3.out x P).mono ?_
 rintro e c ⟨rfl,q⟩
 have n:=Jt P q
 have ab:=(q.block m (Jg ac) (by simp)).trans ac.out
 have aw:=D (show Zb c m 0 (Zv r vh)from Zb.of_block ab)
 have X:=D (show Zb c C 0 (Zz o)from Zb.of_block ((q.block C (Jg H) (by simp)).trans H))
 have Z:=D (show Zb c l 0 (Zz u.origin)from Zbi (Zb.of_block ((q.block l (Jg ar) (by simp)).trans ar)))
 have c3:=Jc 3 ab
 clear q ab Q3
 by_cases h3:d=0
 case neg=>
  have b:=D (show R=d by rw[T.out,if_pos (by simpa using h3)])
  go_wp2_with fail
  go_ret
  exact⟨by rw[b.out];rfl,a.trans n (by simp)⟩
 subst h3
 have G:=D (show R=if(r.mode==1&&u.origin !=o)||(r.mode==2&& !g)then 7 else 0 by rw[T.out];rfl)
 clear T
 obtain⟨N,am⟩:=Je r.mode
 rw[←am]at c3 G
 clear am
 by_cases m1:N=1
 ·subst m1
  have b:=D (show R=if u.origin.scheme=o.scheme∧u.origin.host=o.host∧u.origin.port=o.port then 0 else 7 by
   rw[G.out,ZkQ]
   by_cases M:u.origin.scheme=o.scheme∧u.origin.host=o.host∧u.origin.port=o.port
   ·rw[if_pos M,decide_eq_false (not_not_intro M)];rfl
   ·rw[if_neg M,decide_eq_true M];rfl)
  have d0:c.cell? ⟨l,0,none⟩=some (.string ⟨u.origin.scheme.toArray⟩):=Z.out 0 _ rfl
  have d1:c.cell? ⟨l,1,none⟩=some (.string ⟨u.origin.host.toArray⟩):=Z.out 1 _ rfl
  have d2:c.cell? ⟨l,2,none⟩=some (.int .i64 u.origin.port):=Z.out 2 _ rfl
  have d3:c.cell? ⟨C,0,none⟩=some (.string ⟨o.scheme.toArray⟩):=X.out 0 _ rfl
  have d4:c.cell? ⟨C,1,none⟩=some (.string ⟨o.host.toArray⟩):=X.out 1 _ rfl
  have d5:c.cell? ⟨C,2,none⟩=some (.int .i64 o.port):=X.out 2 _ rfl
  go_wp2_with fail
  all_goals
   go_ret
   exact⟨by first|(rw[b.out,if_neg (by simp[*])];rfl)|(rw[b.out,if_pos (by simp[*])];rfl),a.trans n (by simp)⟩
 have n1:(N==1)=false:=by rw[beq_eq_false_iff_ne];exact m1
 by_cases m2:N=2
 ·subst m2
  have b:=D (show R=if g then 0 else 7 by rw[G.out];cases g<;>rfl)
  clear n1
  go_wp2_with(refine ZbS (by go_simp) 43 (.tmp 1) rfl m 0 (Zv r vh) rfl aj aw ?_)
  refine(Q4.out c n).mono ?_
  rintro e w7 ⟨rfl,an⟩
  have af:=Jt n an
  clear an Q4
  cases g with
  |true=>
   have s:=D (show R=0 by rw[b.out];rfl)
   go_wp2_with fail
   go_ret
   exact⟨by rw[s.out];rfl,a.trans af (by simp)⟩
  |false=>
   have s:=D (show R=7 by rw[b.out];rfl)
   go_wp2_with fail
   go_ret
   exact⟨by rw[s.out];rfl,a.trans af (by simp)⟩
 ·have n2:(N==2)=false:=by rw[beq_eq_false_iff_ne];exact m2
  have s:=D (show R=0 by rw[G.out,n1,n2];rfl)
  go_wp2_with fail
  go_ret
  exact⟨by rw[s.out];rfl,a.trans n (by simp)⟩
end Go.Proofs.YtbgbeddbfaopgaaGreatDoor
