import Derived.Test.YtlhapbopmplngaaGreatDoorS46
import Derived.Test.YtlhapbopmplngaaGreatDoorS48
set_option linter.all false
set_option maxHeartbeats 16000000
set_option maxRecDepth 100000
set_option autoImplicit true
set_option relaxedAutoImplicit true
namespace Go.Lk
open Go.RowKit
def Lays.turn {L:List YD} {A:YD} {FS:List (List Nat)} {F:List Nat} (h:Lays (L++[A]) w (FS++[F])):Lays (A::L) w (F::FS):=by
 have g:FS.length=L.length:=by have:=h.len;simpa using this
 refine⟨by simp[g],fun i B G b a=> ?_,fun i j G H b a k=> ?_⟩
 ·rcases i with _|i
  ·simp at b a;subst b;subst a
   exact h.lies L.length _ _ (by rw[List.getElem?_append_right (Xi _)];simp) (by rw[←g,List.getElem?_append_right (Xi _)];simp)
  ·rw[Xf]at b a
   have c:=(Jk b)
   have e:=(Jk a)
   exact h.lies i _ _ (by rw[List.getElem?_append_left c];exact b) (by rw[List.getElem?_append_left e];exact a)
 ·have f:∀(i:Nat) (G:List Nat),(F::FS)[i]? =some G→(FS++[F])[if i=0 then FS.length else i-1]? =some G∧(if i=0 then FS.length else i-1)≤FS.length:=fun i G d=>by
   rcases i with _|i
   ·rw[if_pos rfl,List.getElem?_append_right (Xi _)]
    simp at d⊢;exact d
   ·rw[if_neg (by omega),Xf]at*
    have c:=(Jk d)
    rw[Nat.add_sub_cancel,List.getElem?_append_left c]
    exact⟨d,by omega⟩
  have c:i<(F::FS).length:=(Jk b)
  have e:j<(F::FS).length:=(Jk a)
  simp only[List.length_cons]at c e
  refine h.apart _ _ G H (f i G b).1 (f j H a).1 ?_
  split<;>split<;>omega
def Lays.empty {L:List YD} {A E:YD} {FS:List (List Nat)} {F:List Nat} (h:Lays (A::L) w (F::FS)) (he:E w []):Lays (A::E::L) w (F::[]::FS):=by
 have e:∀(i:Nat) (G:List Nat) (k:Nat),(F::[]::FS)[i]? =some G→k∈G→i≠1∧(F::FS)[if i=0 then 0 else i-1]? =some G:=fun i G k d c=>by
  rcases i with _|_|i
  ·exact⟨by omega,d⟩
  ·simp at d;subst d;cases c
  ·refine⟨by omega,?_⟩
   rw[if_neg (by omega)]
   simpa using d
 refine⟨by have:=h.len;simp at this⊢;exact this,fun i B G b a=> ?_,fun i j G H b a m k c f=> ?_⟩
 ·rcases i with _|_|i
  ·simp at b a;subst b;subst a
   exact h.lies 0 _ _ rfl rfl
  ·simp at b a;subst b;subst a;exact he
  ·exact h.lies (i+1) B G (by simpa using b) (by simpa using a)
 ·obtain⟨o,l⟩:=e i G k b c
  obtain⟨n,g⟩:=e j H k a f
  exact h.apart _ _ G H l g (by split<;>split<;>omega) k c f
end Go.Lk
namespace Go.Proofs.YtlhapbopmplngaaGreatDoor
open Go.RowKit Go.Lk
def Zlw:Zu Tryz.prog 26 7=true:=by kernel_rfl
def Zr5 (c:Zcq) (w:World) (e:Ending) (w':World):Prop:=∃b P va vp vl F,e= .returned (.tuple #[.pointer (some ⟨b,0,none⟩), .int .i64 0])∧Zh w' b P none (newS c) va vp vl F∧Zg [] w w'∧∀k∈F,w.heap.size≤k
def Zqp {w W we:World} {c:Zcq} {p1 p2 p3 p4 p5 p6 p7 p8 p9 b:Nat} {FS:List (List Nat)}
  (h:Lays [Zc2 p1 0,YO p2 (ZhK c.total c.idle),YB p3 c.aging [],Yf p4 (max 1 (min c.cache 64)) [],Yr p5 256 0 [],ZcV p6 [],Zd7 p7 [],Zcd p8 0 [],YR p9 []] W FS) (hn:∀k∈FS.flatten,w.heap.size≤k) (hw:Zg [] w W) (h2:2≤w.heap.size)
  (hb:b=W.heap.size) (hwe:we=W.alloc (.cells (YZ (newS c) ⟨p1,p2,p3,p4,p5,p6,p7,p8,p9,[],[]⟩ (.slice none 0 0) (.slice none 0 0) (.slice none 0 0)).toArray 77)):
  ∃F,Zh we b ⟨p1,p2,p3,p4,p5,p6,p7,p8,p9,[],[]⟩ none (newS c) (.slice none 0 0) (.slice none 0 0) (.slice none 0 0) F∧Zg [] w we∧∀k∈F,w.heap.size≤k:=by
 have g:=Ja hwe
 have i:we.heap[b]? =some (.cells (YZ (newS c) ⟨p1,p2,p3,p4,p5,p6,p7,p8,p9,[],[]⟩ (.slice none 0 0) (.slice none 0 0) (.slice none 0 0)).toArray 77 (0,0)):=by rw[hwe,hb];exact Za _
 have o:∀A∈[Zc2 p1 0,YO p2 (ZhK c.total c.idle),YB p3 c.aging [],Yf p4 (max 1 (min c.cache 64)) [],Yr p5 256 0 [],ZcV p6 [],Zd7 p7 [],Zcd p8 0 [],YR p9 []],A.Local:=by
  intro A a
  simp only[List.mem_cons,List.not_mem_nil,or_false]at a
  rcases a with rfl|rfl|rfl|rfl|rfl|rfl|rfl|rfl|rfl
  ·exact Yo _ _
  ·exact ZU _ _
  ·exact ZP _ _ _
  ·exact ZF _ _ _
  ·exact Z5 _ _ _ _
  ·exact Yl _ _
  ·exact Yy _ _
  ·exact Yk _ _ _
  ·exact ZD _ _
 have p:=hw.size
 have n:=(h.add o (A1:=Zaz b (YZ (newS c) ⟨p1,p2,p3,p4,p5,p6,p7,p8,p9,[],[]⟩ (.slice none 0 0) (.slice none 0 0) (.slice none 0 0)).toArray 77) (w1:=we) (F1:=[b]) ⟨rfl,i⟩ g (by simp[hb])).1
 have l:=(((n.turn.empty (ZA 54 7 we)).empty (ZA 152 1 we)).empty (ZA 90 1 we))
 have f:∀A∈[Zaz b (YZ (newS c) ⟨p1,p2,p3,p4,p5,p6,p7,p8,p9,[],[]⟩ (.slice none 0 0) (.slice none 0 0) (.slice none 0 0)).toArray 77,Zk 90 1 (.slice none 0 0) [],Zk 152 1 (.slice none 0 0) [],Zk 54 7 (.slice none 0 0) [],Zc2 p1 0,YO p2 (ZhK c.total c.idle),YB p3 c.aging [],Yf p4 (max 1 (min c.cache 64)) [],Yr p5 256 0 [],ZcV p6 [],Zd7 p7 [],Zcd p8 0 [],YR p9 []],A.Local:=by
  intro A a
  have:=Yc b ⟨p1,p2,p3,p4,p5,p6,p7,p8,p9,[],[]⟩ none (newS c) (.slice none 0 0) (.slice none 0 0) (.slice none 0 0) A
  refine this ?_
  simp only[ZV,List.mem_cons,List.not_mem_nil,or_false]at a⊢
  rcases a with a|a|a|a|a|a|a|a|a|a|a|a|a
  ·exact .inl a
  ·exact .inr (.inl a)
  ·exact .inr (.inr (.inl a))
  ·exact .inr (.inr (.inr (.inl a)))
  ·exact .inr (.inr (.inr (.inr (.inl a))))
  ·exact .inr (.inr (.inr (.inr (.inr (.inl a)))))
  ·exact .inr (.inr (.inr (.inr (.inr (.inr (.inl a))))))
  ·exact .inr (.inr (.inr (.inr (.inr (.inr (.inr (.inl a)))))))
  ·exact .inr (.inr (.inr (.inr (.inr (.inr (.inr (.inr (.inl a))))))))
  ·exact .inr (.inr (.inr (.inr (.inr (.inr (.inr (.inr (.inr (.inl a)))))))))
  ·exact .inr (.inr (.inr (.inr (.inr (.inr (.inr (.inr (.inr (.inr (.inl a))))))))))
  ·exact .inr (.inr (.inr (.inr (.inr (.inr (.inr (.inr (.inr (.inr (.inr (.inl a)))))))))))
  ·exact .inr (.inr (.inr (.inr (.inr (.inr (.inr (.inr (.inr (.inr (.inr (.inr (.inl a))))))))))))
 have e:YD.list [] we []:=⟨[],rfl,Lays.nil we⟩
 have m:=(l.add f (A1:=YD.list []) (w1:=we) (F1:=[]) e (Zg.refl [] we) (by simp)).1
 have j:=(m.add (by
  intro A a
  rcases List.mem_append.1 a with a|a
  ·exact f A a
  ·rw[Jm a];exact YD.list_local (by simp)) (A1:=YD.list []) (w1:=we) (F1:=[]) e (Zg.refl [] we) (by simp)).1
 refine⟨_,⟨⟨_,rfl,j⟩,rfl,rfl,fun k d=> ?_⟩,hw.trans g,fun k d=> ?_⟩
 ·simp only[List.flatten_append,List.mem_append,List.flatten_cons,List.flatten_nil,List.append_nil,List.nil_append,List.mem_cons,List.not_mem_nil,or_false]at d
  rcases d with d|d
  ·omega
  ·have:=hn k d;omega
 ·simp only[List.flatten_append,List.mem_append,List.flatten_cons,List.flatten_nil,List.append_nil,List.nil_append,List.mem_cons,List.not_mem_nil,or_false]at d
  rcases d with d|d
  ·omega
  ·exact hn k d
def ZoB (c:Zcq) (p1 p2 p3 p4 p5 p6 p7 p8 p9:Nat):
  ((((((((((List.foldl (fun(cs:Array Value) (x:Value×Nat)=>cs.setIfInBounds x.snd x.fst) #[.int .i64 0, .int .u64 0, .int .i64 0, .int .i64 0, .int .u64 0, .int .i64 0, .int .u64 0, .pointer none, .pointer none, .pointer none, .pointer none, .pointer none, .pointer none, .pointer none, .pointer none, .pointer none, .int .i64 0, .slice none 0 0, .slice none 0 0, .slice none 0 0, .int .i64 0, .int .i64 0] (ZaT c).zipIdx).setIfInBounds 7 (.pointer (some ⟨p1,0,none⟩))).setIfInBounds 8 (.pointer (some ⟨p2,0,none⟩))).setIfInBounds 9 (.pointer (some ⟨p3,0,none⟩))).setIfInBounds 10 (.pointer (some ⟨p4,0,none⟩))).setIfInBounds 11 (.pointer (some ⟨p5,0,none⟩))).setIfInBounds 12 (.pointer (some ⟨p6,0,none⟩))).setIfInBounds 13 (.pointer (some ⟨p7,0,none⟩))).setIfInBounds 14 (.pointer (some ⟨p8,0,none⟩))).setIfInBounds 15 (.pointer (some ⟨p9,0,none⟩)))=
   (YZ (newS c) ⟨p1,p2,p3,p4,p5,p6,p7,p8,p9,[],[]⟩ (.slice none 0 0) (.slice none 0 0) (.slice none 0 0)).toArray:=by
 simp[ZaT,YZ,newS]
def Zo4 (c:Zcq) (hc:Zbu c=true) (w:World) (hE:Env w):
  Calls Tryz.prog 19 #[.agg (ZaT c).toArray] w (Zr5 c w):=by
 obtain⟨V,P,HU⟩:=Kb w (.cells (ZaT c).toArray 26)
 obtain⟨L,R⟩:=Je w.heap.size
 have Q:V.heap[L]? =some (.cells (ZaT c).toArray 26 (0,0)):=by rw[P,R];exact Za _
 have aq:=D (show Zb V L 0 (ZaT c)from Zb.of_block Q)
 have Z:=D Zlw
 have ar:=D (show c.idle≤18446744073709551615 by
  unfold Zbu at hc
  simp only[Bool.and_eq_true,decide_eq_true_eq]at hc
  omega)
 have H2:=D hE.size
 have q:=Zlt c V
 rw[hc]at q
 have HQ:=D q
 clear q hc hE;change Hid _ at HU P R Q
 go_in
 go_upto_region 1 with fail
 rw[←P.out,←R.out]
 go_wp2_with(refine Jl aq Z ?_)
 refine HQ.out.mono ?_
 rintro e w2 ⟨rfl,M⟩
 have l:=Jt HU M
 have aA:=D ((Kv M Q))
 clear M
 go_upto_region 3 with fail
 obtain⟨S,hS⟩:∃S:World→Prop,S=fun W=>Zb W L 0 (ZaT c)∧W.cell? ⟨L,0,none⟩=some (.int .i64 c.total)∧W.cell? ⟨L,4,none⟩=some (.int .u64 c.idle)∧W.cell? ⟨L,1,none⟩=some (.int .u64 c.aging)∧W.cell? ⟨L,5,none⟩=some (.int .i64 c.cache):=⟨_,rfl⟩
 have m:=D (show∀W,Zg [] w2 W→(Zb W L 0 (ZaT c)∧W.cell? ⟨L,0,none⟩=some (.int .i64 c.total)∧W.cell? ⟨L,4,none⟩=some (.int .u64 c.idle)∧W.cell? ⟨L,1,none⟩=some (.int .u64 c.aging)∧W.cell? ⟨L,5,none⟩=some (.int .i64 c.cache))from fun W a=>by
  have r:=Kv a aA
  exact⟨Zb.of_block r,Zf (i:=0) r rfl,Zf (i:=4) r rfl,Zf (i:=1) r rfl,Zf (i:=5) r rfl⟩)
 clear hS S
 obtain⟨T,s⟩:=Je w2.drew
 have y:=Jd s
 have ah:=D (Lays.nil T)
 change Hid _ at s y
 refine Jr [0,8,12,16,20,28,32,40,44,5,25,37,49,53,57,61,65,69,72,78,80,84] (fun W=>Zb W L 0 (ZaT c)∧W.cell? ⟨L,0,none⟩=some (.int .i64 c.total)∧W.cell? ⟨L,4,none⟩=some (.int .u64 c.idle)∧W.cell? ⟨L,1,none⟩=some (.int .u64 c.aging)∧W.cell? ⟨L,5,none⟩=some (.int .i64 c.cache)) (by have q:=m.out T y.out;rw[s.out]at q;exact q) ?_
 refine JO (cs:=ZaT c) Z.out (fun W j=>j.1) ?_
 repeat first|refine Jn ?_|refine Jf ?_|refine Ju ?_
 refine JE ?_
 simp only[Xu]
 rw[←s.out]
 go_wp2_with fail
 refine(ZlQ T).mono ?_
 rintro e w4 ⟨p1,G1,rfl,ha,a,d⟩
 have ag:=D (ah.add (by simp) ha a d)
 have ap:=D (show∀x∈G1,w.heap.size≤x from fun x hx=>by have o:=d x hx;have p:=l.size;have n:=y.size;omega)
 have E:=Jt y a
 clear ha a d
 go_wp2_with fail
 refine⟨_,fun W j=>j,m.out _ E,?_⟩
 refine JE ?_
 go_wp2_with fail
 refine(ZmA c.total c.idle ar w4).mono ?_
 rintro e w5 ⟨p2,G2,rfl,ha,a,d⟩
 have ax:=D (ag.out.1.add (by
  intro A g
  simp only[List.nil_append,List.cons_append,List.mem_cons,List.not_mem_nil,or_false]at g
  rcases g with rfl
  all_goals first|exact Yo _ _|exact ZU _ _|exact ZP _ _ _|exact ZF _ _ _|exact Z5 _ _ _ _|exact Yl _ _|exact Yy _ _|exact Yk _ _ _|exact ZD _ _) ha a d)
 have ai:=D (show∀x∈G2,w.heap.size≤x from fun x hx=>by have o:=d x hx;have p:=l.size;have n:=E.size;omega)
 have K:=Jt E a
 clear ha a d
 go_wp2_with fail
 refine⟨_,fun W j=>j,m.out _ K,?_⟩
 refine JE ?_
 go_wp2_with fail
 refine(ZkM c.aging w5).mono ?_
 rintro e w6 ⟨p3,G3,rfl,ha,a,d⟩
 have ak:=D (ax.out.1.add (by
  intro A g
  simp only[List.nil_append,List.cons_append,List.mem_cons,List.not_mem_nil,or_false]at g
  rcases g with rfl|rfl
  all_goals first|exact Yo _ _|exact ZU _ _|exact ZP _ _ _|exact ZF _ _ _|exact Z5 _ _ _ _|exact Yl _ _|exact Yy _ _|exact Yk _ _ _|exact ZD _ _) ha a d)
 have aj:=D (show∀x∈G3,w.heap.size≤x from fun x hx=>by have o:=d x hx;have p:=l.size;have n:=K.size;omega)
 have I:=Jt K a
 clear ha a d
 go_wp2_with fail
 refine⟨_,fun W j=>j,m.out _ I,?_⟩
 refine JE ?_
 go_wp2_with fail
 refine(ZlJ c.cache w6).mono ?_
 rintro e w7 ⟨p4,G4,rfl,ha,a,d⟩
 have au:=D (ak.out.1.add (by
  intro A g
  simp only[List.nil_append,List.cons_append,List.mem_cons,List.not_mem_nil,or_false]at g
  rcases g with rfl|rfl|rfl
  all_goals first|exact Yo _ _|exact ZU _ _|exact ZP _ _ _|exact ZF _ _ _|exact Z5 _ _ _ _|exact Yl _ _|exact Yy _ _|exact Yk _ _ _|exact ZD _ _) ha a d)
 have an:=D (show∀x∈G4,w.heap.size≤x from fun x hx=>by have o:=d x hx;have p:=l.size;have n:=I.size;omega)
 have z:=Jt I a
 clear ha a d
 go_wp2_with fail
 refine⟨_,fun W j=>j,m.out _ z,?_⟩
 refine JE ?_
 go_wp2_with fail
 refine(Zlx w7).mono ?_
 rintro e w8 ⟨p5,G5,rfl,ha,a,d⟩
 have av:=D (au.out.1.add (by
  intro A g
  simp only[List.nil_append,List.cons_append,List.mem_cons,List.not_mem_nil,or_false]at g
  rcases g with rfl|rfl|rfl|rfl
  all_goals first|exact Yo _ _|exact ZU _ _|exact ZP _ _ _|exact ZF _ _ _|exact Z5 _ _ _ _|exact Yl _ _|exact Yy _ _|exact Yk _ _ _|exact ZD _ _) ha a d)
 have ab:=D (show∀x∈G5,w.heap.size≤x from fun x hx=>by have o:=d x hx;have p:=l.size;have n:=z.size;omega)
 have C:=Jt z a
 clear ha a d
 go_wp2_with fail
 refine⟨_,fun W j=>j,m.out _ C,?_⟩
 refine JE ?_
 go_wp2_with fail
 refine(ZkT w8).mono ?_
 rintro e w9 ⟨p6,G6,rfl,ha,a,d⟩
 have am:=D (av.out.1.add (by
  intro A g
  simp only[List.nil_append,List.cons_append,List.mem_cons,List.not_mem_nil,or_false]at g
  rcases g with rfl|rfl|rfl|rfl|rfl
  all_goals first|exact Yo _ _|exact ZU _ _|exact ZP _ _ _|exact ZF _ _ _|exact Z5 _ _ _ _|exact Yl _ _|exact Yy _ _|exact Yk _ _ _|exact ZD _ _) ha a d)
 have ay:=D (show∀x∈G6,w.heap.size≤x from fun x hx=>by have o:=d x hx;have p:=l.size;have n:=C.size;omega)
 have J:=Jt C a
 clear ha a d
 go_wp2_with fail
 refine⟨_,fun W j=>j,m.out _ J,?_⟩
 refine JE ?_
 go_wp2_with fail
 refine(Zkl w9).mono ?_
 rintro e ad ⟨p7,G7,rfl,ha,a,d⟩
 have aw:=D (am.out.1.add (by
  intro A g
  simp only[List.nil_append,List.cons_append,List.mem_cons,List.not_mem_nil,or_false]at g
  rcases g with rfl|rfl|rfl|rfl|rfl|rfl
  all_goals first|exact Yo _ _|exact ZU _ _|exact ZP _ _ _|exact ZF _ _ _|exact Z5 _ _ _ _|exact Yl _ _|exact Yy _ _|exact Yk _ _ _|exact ZD _ _) ha a d)
 have ae:=D (show∀x∈G7,w.heap.size≤x from fun x hx=>by have o:=d x hx;have p:=l.size;have n:=J.size;omega)
 have G:=Jt J a
 clear ha a d
 go_wp2_with fail
 refine⟨_,fun W j=>j,m.out _ G,?_⟩
 refine JE ?_
 go_wp2_with fail
 refine(Zlr ad).mono ?_
 rintro e ac ⟨p8,G8,rfl,ha,a,d⟩
 have al:=D (aw.out.1.add (by
  intro A g
  simp only[List.nil_append,List.cons_append,List.mem_cons,List.not_mem_nil,or_false]at g
  rcases g with rfl|rfl|rfl|rfl|rfl|rfl|rfl
  all_goals first|exact Yo _ _|exact ZU _ _|exact ZP _ _ _|exact ZF _ _ _|exact Z5 _ _ _ _|exact Yl _ _|exact Yy _ _|exact Yk _ _ _|exact ZD _ _) ha a d)
 have ao:=D (show∀x∈G8,w.heap.size≤x from fun x hx=>by have o:=d x hx;have p:=l.size;have n:=G.size;omega)
 have O:=Jt G a
 clear ha a d
 go_wp2_with fail
 refine⟨_,fun W j=>j,m.out _ O,?_⟩
 refine JE ?_
 go_wp2_with fail
 refine(Zms ac).mono ?_
 rintro e X ⟨p9,G9,rfl,ha,a,d⟩
 have az:=D (al.out.1.add (by
  intro A g
  simp only[List.nil_append,List.cons_append,List.mem_cons,List.not_mem_nil,or_false]at g
  rcases g with rfl|rfl|rfl|rfl|rfl|rfl|rfl|rfl
  all_goals first|exact Yo _ _|exact ZU _ _|exact ZP _ _ _|exact ZF _ _ _|exact Z5 _ _ _ _|exact Yl _ _|exact Yy _ _|exact Yk _ _ _|exact ZD _ _) ha a d)
 have af:=D (show∀x∈G9,w.heap.size≤x from fun x hx=>by have o:=d x hx;have p:=l.size;have n:=O.size;omega)
 have Y:=Jt O a
 clear ha a d
 go_wp2_with fail
 refine⟨_,fun W j=>j,m.out _ Y,?_⟩
 repeat first|refine Jn ?_|refine Jf ?_|refine Ju ?_
 refine JL ?_
 obtain⟨we,N⟩:=Je (X.alloc (.cells (YZ (newS c) ⟨p1,p2,p3,p4,p5,p6,p7,p8,p9,[],[]⟩ (.slice none 0 0) (.slice none 0 0) (.slice none 0 0)).toArray 77))
 obtain⟨b,H⟩:=Je X.heap.size
 have aa:=D (Zqp (w:=w) az.out.1 (fun k h=>by
  simp only[List.flatten_append,List.mem_append,List.flatten_cons,List.flatten_nil,List.append_nil,List.nil_append]at h
  rcases h with(((((((h|h)|h)|h)|h)|h)|h)|h)|h
  ·exact ap k h
  ·exact ai k h
  ·exact aj k h
  ·exact an k h
  ·exact ab k h
  ·exact ay k h
  ·exact ae k h
  ·exact ao k h
  ·exact af k h) (l.trans Y) H2 H N)
 change Hid _ at N H
 go_wp2_with fail
 rw[ZoB,←N.out,←H.out]
 refine⟨fun _=>True,trivial,?_⟩
 repeat first|refine Jn ?_|refine Jf ?_|refine Ju ?_
 refine ZK ?_
 go_wp2_with fail
 go_ret2
 obtain⟨F,h1,h2,h3⟩:=aa.out
 exact⟨b,_,_,_,_,F,rfl,h1,h2,h3⟩
end Go.Proofs.YtlhapbopmplngaaGreatDoor
