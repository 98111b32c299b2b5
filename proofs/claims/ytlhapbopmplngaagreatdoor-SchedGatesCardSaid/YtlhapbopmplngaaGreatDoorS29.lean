import Derived.Test.YtlhapbopmplngaaGreatDoorS13
import Derived.Test.YtlhapbopmplngaaGreatDoorS23
set_option linter.all false
set_option maxHeartbeats 16000000
set_option maxRecDepth 100000
set_option autoImplicit true
set_option relaxedAutoImplicit true
namespace Go.Lk
open Go.RowKit
def ZnG {P:Program} (a b:Bs) (hl:a.length+b.length≤9000000000) (W:World):(binOp .add t (.string ⟨a.toArray⟩) (.string ⟨b.toArray⟩)).run P W= .ok (.string ⟨(a++b).toArray⟩) W:=by
 have h:¬(((⟨a.toArray⟩:ByteArray).size+(⟨b.toArray⟩:ByteArray).size:Nat):Int)>IntKind.i64.max:=by
  have c:IntKind.i64.max=9223372036854775807:=by decide
  rw[c]
  simp only[ByteArray.size,List.size_toArray]
  omega
 show(Op.stringOp .add ⟨a.toArray⟩ ⟨b.toArray⟩).run P W=_
 unfold Op.stringOp
 simp only[if_neg h]
 rw[Zak];rfl
def ZlL {P:Program} {Q:Exit→Act→World→Prop} {ops:Array Oper} {i:Nat} {o:Oper} {a a':Act} (ho:ops[i]? =some o) (hg:o.guard=none) (t ty:TypeId) (x y:Operand) (hop:o.op= .binOp .add t x y ty) (s1 s2:Bs)
  (hx:a.eval x= .string ⟨s1.toArray⟩) (hy:a.eval y= .string ⟨s2.toArray⟩) (hl:s1.length+s2.length≤9000000000) (ha:a.put o.dst (.string ⟨(s1++s2).toArray⟩)=a') (h:Z2 P ops Q r S a' w):Z2 P ops Q ((i,0)::r) S a w:=
 ZaF (v:= .string ⟨(s1++s2).toArray⟩) ho hg (fun W hW=>by
  unfold execOp
  simp[hop,hx,hy,eqGuard,ZnG s1 s2 hl W]) ha h
end Go.Lk
namespace Go.Proofs.YtlhapbopmplngaaGreatDoor
open Go.RowKit Go.Lk
def ZW (u:Z3):List Value:=[.string ⟨u.origin.scheme.toArray⟩, .string ⟨u.origin.host.toArray⟩, .int .i64 u.origin.port, .string ⟨u.path.toArray⟩, .string ⟨u.query.toArray⟩]
def ZaA (u:Z3):∀v∈ZW u,v.oneCell'=true:=by intro v hv;unfold ZW at hv;simp at hv;rcases hv with rfl|rfl|rfl|rfl|rfl<;>rfl
def Zba (h:Zb w b 0 (ZW u)):Zb w b 0 (ZB u.origin):=fun j v hj=>h j v (by
 match j,hj with
 |0,hj=>exact hj
 |1,hj=>exact hj
 |2,hj=>exact hj
 |_+3,hj=>simp[ZB]at hj)
structure UrlFit (u:Z3):Prop where
 h:u.origin.host.length≤900000
 p:u.path.length≤900000
 q:u.query.length≤900000
def Zbd (u:Z3) (w:World) (hu:UrlFit u) (hE:Env w):
  Calls Tryz.prog 172 #[.agg (ZW u).toArray] w fun e w'=>e= .returned (.string ⟨(YT u).toArray⟩)∧Zg [] w w':=by
 have G:=D hE;clear hE
 obtain⟨l,n,i,m⟩:=Kc w (.cells (ZW u).toArray 205)
 have C:=D (show Zu Tryz.prog 203 3=true by kernel_rfl)
 obtain⟨a,c⟩:=Je (ZeA u.origin)
 have I:a.length≤300:=by rw[c];exact ZjX _
 have o:∀W,Env W→Calls Tryz.prog 112 #[.agg (ZB u.origin).toArray] W fun e w'=>e= .returned (.string ⟨a.toArray⟩)∧Zg [] W w':=fun W k=>by rw[c];exact Zhl u.origin W hu.h k
 obtain⟨r,j⟩:=Je (YT u)
 have F:=D (show r=a++u.path++u.query by rw[j,c];rfl)
 rw[←j]
 have J:=hu.p;have H:=hu.q
 have d:=D (show Zb l w.heap.size 0 (ZW u)from Zb.of_block m)
 have s:=D o
 have z:=D (show w.alloc (.cells #[.string ⟨u.origin.scheme.toArray⟩, .string ⟨u.origin.host.toArray⟩, .int .i64 u.origin.port, .string ⟨u.path.toArray⟩, .string ⟨u.query.toArray⟩] 205)=l from n.symm)
 clear n m o c j hu;change Hid _ at i
 show Calls _ _ #[.agg #[.string ⟨u.origin.scheme.toArray⟩, .string ⟨u.origin.host.toArray⟩, .int .i64 u.origin.port, .string ⟨u.path.toArray⟩, .string ⟨u.query.toArray⟩]] w _
 go_in
 go_upto_region 1 with fail
 rw[z.out]
 refine Jr [0,4,12,16,24,28,9,20,32,36] (fun W=>W.cell? ⟨w.heap.size,3,none⟩=some (.string ⟨u.path.toArray⟩)∧W.cell? ⟨w.heap.size,4,none⟩=some (.string ⟨u.query.toArray⟩)∧Zb W w.heap.size 0 (ZB u.origin)) ⟨d.out 3 _ rfl,d.out 4 _ rfl,Zba d⟩ ?_
 repeat first|refine Jn ?_|refine Jf ?_|refine Ju ?_
 refine JO (cs:=ZB u.origin) C.out (fun W k=>k.2.2) ?_
 repeat first|refine Jn ?_|refine Jf ?_|refine Ju ?_
 refine JE ?_
 simp only[Xu]
 go_wp2_with fail
 refine(s.out _ (G.upd0 (i.drewN 1))).mono ?_
 rintro e K ⟨rfl,g⟩
 have b:=d.upd (((Zg.refl [] l).drewN 1).trans g)
 have E:=D ((i.drewN 1).trans g)
 clear g s
 go_wp2_with fail
 refine⟨fun W=>W.cell? ⟨w.heap.size,3,none⟩=some (.string ⟨u.path.toArray⟩)∧W.cell? ⟨w.heap.size,4,none⟩=some (.string ⟨u.query.toArray⟩)∧Zb W w.heap.size 0 (ZB u.origin),fun _ h=>h,⟨b 3 _ rfl,b 4 _ rfl,Zba b⟩,?_⟩
 clear b
 apply ZlL (t:= 9) (ty:= 9) (x:= .tmp 5) (y:= .tmp 7) (s1:=a) (s2:=u.path)
 case ho=>simp only[Xh,Xf,Xg];rfl
 case hg=>rfl
 case hop=>rfl
 case hx=>rfl
 case hy=>rfl
 case hl=>omega
 case ha=>go_simp;rfl
 apply ZlL (t:= 9) (ty:= 9) (x:= .tmp 8) (y:= .tmp 10) (s1:=a++u.path) (s2:=u.query)
 case ho=>simp only[Xh,Xf,Xg];rfl
 case hg=>rfl
 case hop=>rfl
 case hx=>rfl
 case hy=>rfl
 case hl=>rw[Xd];omega
 case ha=>go_simp;rfl
 repeat first|refine Jn ?_|refine Jf ?_|refine Ju ?_
 refine ZK ?_
 go_wp2_with fail
 go_ret
 exact⟨by rw[F.out];simp,E.out⟩
def Zfi (s:Bs) (c:UInt8):Lib.hasPrefix s [c]=(s.head? ==some c):=by
 unfold Lib.hasPrefix
 cases s with
 |nil=>rfl
 |cons a l=>
  simp only[List.isPrefixOf,List.head?_cons,Bool.and_true]
  rw[Bool.eq_iff_iff,beq_iff_eq,beq_iff_eq]
  exact⟨fun h=>by rw[h],fun h=>by injection h with h;exact h.symm⟩
def Ze3 {P:Prop}(h:P:=by
 repeat first|refine Jn ?_|refine Jf ?_|refine Ju ?_
 refine JE ?_
 go_wp2_with fail
 refine⟨(fun W=>W.cell? ⟨w.heap.size,3,none⟩=some (.string ⟨u.path.toArray⟩)),fun _ h=>h,F.out,?_⟩
 repeat first|refine Jn ?_|refine Jf ?_|refine Ju ?_
 refine ZK ?_
 have i:=D (show Zg [] w y.drew from H.drewN 1)
 have d:=D (show Zb y.drew w.heap.size 0 (ZW u)from J.out)
 obtain⟨l,I⟩:=Je y.drew
 rw[←I]at i d⊢
 clear I
 have E:l.cell? ⟨w.heap.size,3,none⟩=some (.string ⟨u.path.toArray⟩):=d.out 3 _ rfl
 have x:l.cell? ⟨w.heap.size,4,none⟩=some (.string ⟨u.query.toArray⟩):=d.out 4 _ rfl
 cases hqe:(u.query==[])with
 |true=>
  rw[hqe]at c
  have n:=D (Zba d)
  clear E
  go_upto_region 3 with fail
  clear x
  go_wp2_with(refine Jl n z ?_)
  refine(C.out l (o.upd0 i)).mono ?_
  rintro e j ⟨rfl,a⟩
  have b:=Jt i a;have k:=D (d.upd a)
  clear a
  cases s with
  |false=>
   go_wp2_with fail
   go_ret
   exact⟨by rw[c.out];simp,b.out⟩
  |true=>
   go_wp2_with fail
   all_goals
    go_ret
    exact⟨by rw[c.out];simp,b.out⟩
 |false=>
  rw[hqe]at c
  have n:=D (Zba d)
  clear E
  go_wp2_with fail
  refine(Q4.out _).mono ?_
  rintro e m ⟨rfl,g⟩
  rw[g];clear g m
  cases K with
  |false=>
   go_upto_region 3 with fail
   clear x
   go_wp2_with(refine Jl n z ?_)
   refine(C.out l (o.upd0 i)).mono ?_
   rintro e j ⟨rfl,a⟩
   have b:=Jt i a;have k:=D (d.upd a)
   clear a
   cases s with
   |false=>
    go_wp2_with fail
    go_ret
    exact⟨by rw[c.out];simp,b.out⟩
   |true=>
    go_wp2_with fail
    all_goals
     go_ret
     exact⟨by rw[c.out];simp,b.out⟩
  |true=>
   go_wp2_with fail
   refine(Q5.out _).mono ?_
   rintro e m ⟨rfl,g⟩
   rw[g];clear g m
   go_upto_region 3 with fail
   clear x
   go_wp2_with(refine Jl n z ?_)
   refine(C.out l (o.upd0 i)).mono ?_
   rintro e j ⟨rfl,a⟩
   have b:=Jt i a;have k:=D (d.upd a)
   clear a
   cases s with
   |false=>
    go_wp2_with fail
    go_ret
    exact⟨by rw[c.out];simp,b.out⟩
   |true=>
    go_wp2_with fail
    all_goals
     go_ret
     exact⟨by rw[c.out];simp,b.out⟩):P:=h
def ZeX {P:Prop}(h:P:=by
 have d0:j.cell? ⟨w.heap.size,0,none⟩=some (.string ⟨u.origin.scheme.toArray⟩):=k.out 0 _ rfl
 have d1:j.cell? ⟨w.heap.size,1,none⟩=some (.string ⟨u.origin.host.toArray⟩):=k.out 1 _ rfl
 have d2:j.cell? ⟨w.heap.size,2,none⟩=some (.int .i64 u.origin.port):=k.out 2 _ rfl
 have d3:j.cell? ⟨w.heap.size,3,none⟩=some (.string ⟨u.path.toArray⟩):=k.out 3 _ rfl
 have d4:j.cell? ⟨w.heap.size,4,none⟩=some (.string ⟨u.query.toArray⟩):=k.out 4 _ rfl
 go_wp2_with fail
 refine(Q7.out j (o.upd0 b)).mono ?_
 rintro e wC ⟨rfl,G⟩
 have R:=Jt b G;clear G d0 d1 d2 d3 d4
 go_wp2_with fail
 go_ret
 exact⟨by rw[c.out];simp<;>omega,R.out⟩):P:=h
def Zkx (u:Z3) (w:World) (hu:UrlFit u) (hE:Env w):
  Calls Tryz.prog 188 #[.agg (ZW u).toArray] w fun e w'=>e= .returned (.bool (ZhN u))∧Zg [] w w':=by
 have o:=D hE;clear hE
 obtain⟨y,ab,H,aa⟩:=Kc w (.cells (ZW u).toArray 205)
 have z:=D (show Zu Tryz.prog 203 3=true by kernel_rfl)
 have ad:=D (show Zu Tryz.prog 205 5=true by kernel_rfl)
 have J:=D (show Zb y w.heap.size 0 (ZW u)from Zb.of_block aa)
 obtain⟨r,Z⟩:=Je (ZhN u)
 obtain⟨b1,N⟩:=Je ((u.path.head? ==some 47))
 obtain⟨b2,Q⟩:=Je (Zel u.path Zb8)
 obtain⟨cp,S⟩:=Je (Zbv u.path)
 obtain⟨M,O⟩:=Je ((cp==u.path))
 obtain⟨K,V⟩:=Je ((u.query.head? ==some 63))
 obtain⟨b5,Y⟩:=Je (Zel u.query Zbh)
 obtain⟨s,P⟩:=Je (YY u.origin)
 obtain⟨sh,X⟩:=Je (YT u)
 have c:=D (show r=(s&&(b1&&b2&&M)&&(u.query==[]||K&&b5)&&decide (sh.length≤512))by rw[Z,N,Q,O,S,V,Y,P,X];rfl)
 rw[←Z]
 have q1:∀W,Calls Tryz.prog 267 #[.string ⟨u.path.toArray⟩, .string ⟨#[47]⟩] W fun e w'=>e= .returned (.bool b1)∧w'=W:=fun W=>by rw[N,←Zfi];exact Tryz.strings_HasPrefix ⟨u.path.toArray⟩ ⟨#[47]⟩ W
 have q2:∀W,Calls Tryz.prog 170 #[.string ⟨u.path.toArray⟩, .string ⟨#[34,35,60,62,63,92,94,123,124,125,96]⟩] W fun e w'=>e= .returned (.bool b2)∧w'=W:=fun W=>by rw[Q];exact Zd6 u.path Zb8 W (by have:=hu.p;omega)
 have q3:∀W,Env W→Calls Tryz.prog 171 #[.string ⟨u.path.toArray⟩] W fun e w'=>e= .returned (.string ⟨cp.toArray⟩)∧Zg [] W w':=fun W L=>by rw[S];exact Zgc u.path W hu.p L
 have q4:∀W,Calls Tryz.prog 267 #[.string ⟨u.query.toArray⟩, .string ⟨#[63]⟩] W fun e w'=>e= .returned (.bool K)∧w'=W:=fun W=>by rw[V,←Zfi];exact Tryz.strings_HasPrefix ⟨u.query.toArray⟩ ⟨#[63]⟩ W
 have q5:∀W,Calls Tryz.prog 170 #[.string ⟨u.query.toArray⟩, .string ⟨#[34,35,60,62]⟩] W fun e w'=>e= .returned (.bool b5)∧w'=W:=fun W=>by rw[Y];exact Zd6 u.query Zbh W (by have:=hu.q;omega)
 have q6:∀W,Env W→Calls Tryz.prog 176 #[.agg (ZB u.origin).toArray] W fun e w'=>e= .returned (.bool s)∧Zg [] W w':=fun W L=>by rw[P];exact ZbC u.origin W hu.h L
 have q7:∀W,Env W→Calls Tryz.prog 172 #[.agg (ZW u).toArray] W fun e w'=>e= .returned (.string ⟨sh.toArray⟩)∧Zg [] W w':=fun W L=>by rw[X];exact Zbd u W hu L
 have Q1:=D q1;have Q2:=D q2;have Q3:=D q3;have Q4:=D q4;have Q5:=D q5;have C:=D q6;have Q7:=D q7
 have ac:=D (show w.alloc (.cells #[.string ⟨u.origin.scheme.toArray⟩, .string ⟨u.origin.host.toArray⟩, .int .i64 u.origin.port, .string ⟨u.path.toArray⟩, .string ⟨u.query.toArray⟩] 205)=y from ab.symm)
 have ae:=O.symm
 clear ab aa q1 q2 q3 q4 q5 q6 q7 Z N Q S O V Y P X hu;change Hid _ at H
 show Calls _ _ #[.agg #[.string ⟨u.origin.scheme.toArray⟩, .string ⟨u.origin.host.toArray⟩, .int .i64 u.origin.port, .string ⟨u.path.toArray⟩, .string ⟨u.query.toArray⟩]] w _
 go_in
 go_upto_region 1 with fail
 rw[ac.out]
 refine Jr [0,4,10,12,16,20,26,28,32,36,40,48,52,45,56,60,64] (fun W=>W.cell? ⟨w.heap.size,3,none⟩=some (.string ⟨u.path.toArray⟩)) (J.out 3 _ rfl) ?_
 have F:=D (J.out 3 _ rfl)
 repeat first|refine Jn ?_|refine Jf ?_|refine Ju ?_
 refine JL ?_
 simp only[Xu]
 go_wp2_with fail
 refine(Q1.out _).mono ?_
 rintro e m ⟨rfl,g⟩
 rw[g];clear g m
 go_wp2_with fail
 refine⟨fun W=>W.cell? ⟨w.heap.size,3,none⟩=some (.string ⟨u.path.toArray⟩),F.out,?_⟩
 cases b1 with
 |false=>
  repeat first|refine Jn ?_|refine Jf ?_|refine Ju ?_
  refine JL ?_
  go_wp2_with fail
  refine⟨(fun W=>W.cell? ⟨w.heap.size,3,none⟩=some (.string ⟨u.path.toArray⟩)),F.out,?_⟩
  exact Ze3
 |true=>
  repeat first|refine Jn ?_|refine Jf ?_|refine Ju ?_
  refine JL ?_
  go_wp2_with fail
  refine(Q2.out _).mono ?_
  rintro e m ⟨rfl,g⟩
  rw[g];clear g m
  go_wp2_with fail
  refine⟨(fun W=>W.cell? ⟨w.heap.size,3,none⟩=some (.string ⟨u.path.toArray⟩)),F.out,?_⟩
  cases b2 with
  |false=>
   exact Ze3
  |true=>
   repeat first|refine Jn ?_|refine Jf ?_|refine Ju ?_
   refine JE ?_
   go_wp2_with fail
   refine(Q3.out y.drew (o.upd0 (H.drewN 1))).mono ?_
   rintro e l ⟨rfl,T⟩
   have i:=D ((H.drewN 1).trans T);have d:=D ((show Zb y.drew w.heap.size 0 (ZW u)from J.out).upd T)
   clear T
   go_wp2_with fail
   refine⟨(fun W=>W.cell? ⟨w.heap.size,3,none⟩=some (.string ⟨u.path.toArray⟩)),fun _ h=>h,d.out 3 _ rfl,?_⟩
   repeat first|refine Jn ?_|refine Jf ?_|refine Ju ?_
   refine ZK ?_
   have E:l.cell? ⟨w.heap.size,3,none⟩=some (.string ⟨u.path.toArray⟩):=d.out 3 _ rfl
   have x:l.cell? ⟨w.heap.size,4,none⟩=some (.string ⟨u.query.toArray⟩):=d.out 4 _ rfl
   cases hqe:(u.query==[])with
   |true=>
    rw[hqe]at c
    have n:=D (Zba d)
    clear E
    go_upto_region 3 with fail
    clear x
    go_wp2_with(refine Jl n z ?_)
    refine(C.out l (o.upd0 i)).mono ?_
    rintro e j ⟨rfl,a⟩
    have b:=Jt i a;have k:=D (d.upd a)
    clear a
    cases s with
    |false=>
     go_wp2_with fail
     go_ret
     exact⟨by rw[c.out];simp,b.out⟩
    |true=>
     cases M with
     |false=>
      go_wp2_with fail
      all_goals
       go_ret
       exact⟨by rw[c.out];simp,b.out⟩
     |true=>
     exact ZeX
   |false=>
    rw[hqe]at c
    have n:=D (Zba d)
    clear E
    go_wp2_with fail
    refine(Q4.out _).mono ?_
    rintro e m ⟨rfl,g⟩
    rw[g];clear g m
    cases K with
    |false=>
     go_upto_region 3 with fail
     clear x
     go_wp2_with(refine Jl n z ?_)
     refine(C.out l (o.upd0 i)).mono ?_
     rintro e j ⟨rfl,a⟩
     have b:=Jt i a;have k:=D (d.upd a)
     clear a
     cases s with
     |false=>
      go_wp2_with fail
      go_ret
      exact⟨by rw[c.out];simp,b.out⟩
     |true=>
      cases M
      all_goals
       go_wp2_with fail
       go_ret
       exact⟨by rw[c.out];simp,b.out⟩
    |true=>
     go_wp2_with fail
     refine(Q5.out _).mono ?_
     rintro e m ⟨rfl,g⟩
     rw[g];clear g m
     go_upto_region 3 with fail
     clear x
     go_wp2_with(refine Jl n z ?_)
     refine(C.out l (o.upd0 i)).mono ?_
     rintro e j ⟨rfl,a⟩
     have b:=Jt i a;have k:=D (d.upd a)
     clear a
     cases s with
     |false=>
      go_wp2_with fail
      go_ret
      exact⟨by rw[c.out];simp,b.out⟩
     |true=>
      cases M with
      |false=>
       go_wp2_with fail
       all_goals
        go_ret
        exact⟨by rw[c.out];simp,b.out⟩
      |true=>
      cases b5 with
      |false=>
       go_wp2_with fail
       all_goals
        go_ret
        exact⟨by rw[c.out];simp,b.out⟩
      |true=>
      exact ZeX
def ZkN (u:Z3) (w:World) (hu:UrlFit u) (hE:Env w):
  Calls Tryz.prog 111 #[.agg (ZW u).toArray] w fun e w'=>e= .returned (.string ⟨(Zgi u).toArray⟩)∧Zg [] w w':=by
 have x:=D hE;clear hE
 obtain⟨j,n,c,l⟩:=Kc w (.cells (ZW u).toArray 205)
 have k:=D (show Zu Tryz.prog 205 5=true by kernel_rfl)
 have o:=D (show Zb j w.heap.size 0 (ZW u)from Zb.of_block l)
 obtain⟨r,i⟩:=Je (Zgi u)
 obtain⟨p,a⟩:=Je (ZhN u)
 have q:=D (show r=if p then YT u else[]by rw[i,a];rfl)
 rw[←i]
 have h:=Zkx u j hu (x.upd0 c)
 rw[←a]at h
 have s:∀W,Env W→Calls Tryz.prog 172 #[.agg (ZW u).toArray] W fun e w'=>e= .returned (.string ⟨(YT u).toArray⟩)∧Zg [] W w':=fun W G=>Zbd u W hu G
 have F:=D h;have E:=D s
 have C:=D (show w.alloc (.cells #[.string ⟨u.origin.scheme.toArray⟩, .string ⟨u.origin.host.toArray⟩, .int .i64 u.origin.port, .string ⟨u.path.toArray⟩, .string ⟨u.query.toArray⟩] 205)=j from n.symm)
 clear n l h s i a hu;change Hid _ at c
 show Calls _ _ #[.agg #[.string ⟨u.origin.scheme.toArray⟩, .string ⟨u.origin.host.toArray⟩, .int .i64 u.origin.port, .string ⟨u.path.toArray⟩, .string ⟨u.query.toArray⟩]] w _
 go_in
 go_upto_region 1 with fail
 rw[C.out]
 go_wp2_with(refine Jl o k ?_)
 refine F.out.mono ?_
 rintro e H ⟨rfl,b⟩
 have g:=Jt c b;have y:=D (o.upd b);clear b
 cases p with
 |false=>
  have d:=D (show r=[]by rw[q.out];rfl)
  go_wp2_with fail
  go_ret
  exact⟨by rw[d.out];rfl,g.out⟩
 |true=>
  have d:=D (show r=YT u by rw[q.out];rfl)
  go_wp2_with(refine Jl y k ?_)
  refine(E.out H (x.upd0 g)).mono ?_
  rintro e I ⟨rfl,m⟩
  have z:=Jt g m;clear m
  go_wp2_with fail
  go_ret
  exact⟨by rw[d.out];rfl,z.out⟩
end Go.Proofs.YtlhapbopmplngaaGreatDoor
