import Derived.Conc.MuLone
import Derived.Test.YtlhapbopmplngaaGreatDoorS25
set_option linter.all false
set_option maxHeartbeats 16000000
set_option maxRecDepth 100000
set_option autoImplicit true
set_option relaxedAutoImplicit true
namespace Go.Proofs.YtlhapbopmplngaaGreatDoor
open Go.RowKit Go.Lk
def ZiV (s:Int):ByteArray:=if s=1 then⟨#[103,97,116,101,100]⟩else if s=2 then⟨#[114,101,97,100,121]⟩else if s=3 then⟨#[104,101,108,100]⟩else if s=4 then⟨#[102,108,121,105,110,103]⟩else if s=5 then⟨#[115,116,114,101,97,109,105,110,103]⟩else if s=6 then⟨#[100,111,110,101]⟩else if s=7 then⟨#[102,97,105,108,101,100]⟩else if s=8 then⟨#[98,97,114,114,101,100]⟩else if s=9 then⟨#[97,98,111,114,116,101,100]⟩else if s=10 then⟨#[108,97,116,101]⟩else⟨#[]⟩
def over (s:Int):Bool:=decide (6≤s)&&decide (s≤10)
def may (a b:Int):Bool:=
 if a=1 then decide (b=2)||decide (b=9)else if a=2 then decide (b=3)||decide (b=4)||decide (b=9)||decide (b=10)else
 if a=3 then decide (b=2)||(decide (7≤b)&&decide (b≤10))else if a=4 then decide (b=5)||(decide (7≤b)&&decide (b≤10))else
 if a=5 then decide (b=6)||decide (b=7)||decide (b=9)||decide (b=10)else false
def ZiH {s:Int} (h:s<1∨10<s):ZiV s=⟨#[]⟩:=by
 unfold ZiV
 simp only[show s≠1 by omega,show s≠2 by omega,show s≠3 by omega,show s≠4 by omega,show s≠5 by omega,show s≠6 by omega,show s≠7 by omega,show s≠8 by omega,show s≠9 by omega,show s≠10 by omega,if_false]
def Zn5 (s:Int) (w:World):
  Calls Tryz.prog 114 #[.int .i64 s] w fun e w'=>e= .returned (.string (ZiV s))∧Zg [] w w':=by
 by_cases h:s<1∨10<s
 ·rw[ZiH h]
  rcases h with h|h
  ·go_in
   go_wp2
   go_ret
   exact⟨rfl,(Zg.refl _ _).alloc _⟩
  ·have a:¬s<1:=by omega
   go_in
   go_wp2
   go_ret
   exact⟨rfl,(Zg.refl _ _).alloc _⟩
 ·rcases(show s=1∨s=2∨s=3∨s=4∨s=5∨s=6∨s=7∨s=8∨s=9∨s=10 by omega)with rfl|rfl|rfl|rfl|rfl|rfl|rfl|rfl|rfl|rfl
  all_goals(
   go_in
   go_wp2
   go_ret
   exact⟨rfl,(Zg.refl _ _).alloc _⟩)
def Zjk (s:Int) (w:World):
  Calls Tryz.prog 65 #[.int .i64 s] w fun e w'=>e= .returned (.bool (over s))∧w=w':=by
 by_cases h:6≤s
 ·have e:over s=decide (s≤10):=by simp[over,h]
  rw[e]
  go_in
  go_wp2
  go_ret
  exact⟨rfl,rfl⟩
 ·have e:over s=false:=by simp[over,h]
  rw[e]
  go_in
  go_wp2
  go_ret
  exact⟨rfl,rfl⟩
def Zqu (a b:Int) (w:World):
  Calls Tryz.prog 161 #[.int .i64 a, .int .i64 b] w fun e w'=>e= .returned (.bool (may a b))∧w=w':=by
 by_cases ha:a<1∨5<a
 ·have r:(a==1)=false:=by rw[beq_eq_false_iff_ne];omega
  have q:(a==2)=false:=by rw[beq_eq_false_iff_ne];omega
  have p:(a==3)=false:=by rw[beq_eq_false_iff_ne];omega
  have s:(a==4)=false:=by rw[beq_eq_false_iff_ne];omega
  have k:(a==5)=false:=by rw[beq_eq_false_iff_ne];omega
  have e:may a b=false:=by
   unfold may
   simp only[show a≠1 by omega,show a≠2 by omega,show a≠3 by omega,show a≠4 by omega,show a≠5 by omega,if_false]
  rw[e]
  clear ha e
  go_in
  go_wp2
  go_ret
  exact⟨rfl,rfl⟩
 ·rcases(show a=1∨a=2∨a=3∨a=4∨a=5 by omega)with rfl|rfl|rfl|rfl|rfl
  all_goals(
   rcases(show(b<1∨10<b)∨b=1∨b=2∨b=3∨b=4∨b=5∨b=6∨b=7∨b=8∨b=9∨b=10 by omega)with h|rfl|rfl|rfl|rfl|rfl|rfl|rfl|rfl|rfl|rfl)
  all_goals(try(
   have n:(b==2)=false:=by rw[beq_eq_false_iff_ne];omega
   have j:(b==3)=false:=by rw[beq_eq_false_iff_ne];omega
   have o:(b==4)=false:=by rw[beq_eq_false_iff_ne];omega
   have l:(b==5)=false:=by rw[beq_eq_false_iff_ne];omega
   have x:(b==6)=false:=by rw[beq_eq_false_iff_ne];omega
   have m:(b==7)=false:=by rw[beq_eq_false_iff_ne];omega
   have t:(b==9)=false:=by rw[beq_eq_false_iff_ne];omega
   have i:(b==10)=false:=by rw[beq_eq_false_iff_ne];omega
   have ho:over b=false:=by unfold over;rw[Bool.and_eq_false_iff,decide_eq_false_iff_not,decide_eq_false_iff_not];omega
   have g:(decide (7≤b)&&decide (b≤10))=false:=by rw[Bool.and_eq_false_iff,decide_eq_false_iff_not,decide_eq_false_iff_not];omega
   have c:∀a,a=1∨a=2∨a=3∨a=4∨a=5→may a b=false:=by
    intro a d
    rcases d with rfl|rfl|rfl|rfl|rfl<;>simp[may]<;>omega
   rw[c _ (by simp)]
   clear c g))
  all_goals(
   go_in
   go_wp2_with(go_at_call 65;refine(Zjk _ _).mono ?_;rintro e w' ⟨rfl,rfl⟩)
   all_goals(
    go_ret
    refine⟨?_,rfl⟩
    first|rfl|(simp_all [may,over];try omega)))
def Zg5 (a:Addr) (x y:Int) (w:World) (hc:w.cell? a=some (.int .i64 x)) (hz:w.frozen? a=false):
  Calls Tryz.prog 115 #[.pointer (some a), .int .i64 y] w fun e w'=>e= .returned (.tuple #[])∧∃n,w'=(w.drewN n).setCell a (.int .i64 y):=by
 have b:=fun(w:World) (h1:w.cell? a=some (.int .i64 x)) (h2:w.frozen? a=false)=>run_call_store (P:= Tryz.prog) Tryz.func190 (by kernel_rfl) (by kernel_rfl) (by kernel_rfl) (by kernel_rfl) (k:= .i64) (y:=y) h1 h2
 have c:=b w hc hz
 have d:=b w.drew (by go_simp) (by go_simp)
 clear b
 go_in
 go_wp2
 try go_region_calls
 all_goals(first|go_end0|skip)
 all_goals first|exact⟨rfl,0,rfl⟩|exact⟨rfl,1,rfl⟩
def Zh1 (a:Addr) (x:Int) (w:World) (hc:w.cell? a=some (.int .i64 x)):
  Calls Tryz.prog 93 #[.pointer (some a)] w fun e w'=>e= .returned (.int .i64 x)∧w=w':=by
 have b:=run_call_load (P:= Tryz.prog) Tryz.func166 (by kernel_rfl) (by kernel_rfl) (by kernel_rfl) .i64 (by kernel_rfl) hc
 go_in
 go_wp2
 go_ret
 exact⟨rfl,rfl⟩
structure Za2 (w:World) (lb:Nat) (st ends done:Int):Prop where
 hb:w.heap[lb]? =some (.cells #[.int .i64 st, .int .i64 ends, .int .u32 done, .int .i32 0, .int .u32 0] 167 (0,0))
def Za2.upd {st ends done:Int} (h:Za2 w lb st ends done) (hu:Zg F w w') (h1:lb∉F:=by simp):Za2 w' lb st ends done:=⟨(hu.block lb (lt_of_block h.hb) h1).trans h.hb⟩
def Za2.drewN {st ends done:Int} (h:Za2 w lb st ends done) (k:Nat):Za2 (w.drewN k) lb st ends done:=⟨h.hb⟩
def Za0 {st ends done:Int} (h:Za2 w lb st ends done):
  Calls Tryz.prog 35 #[.pointer (some ⟨lb,0,none⟩)] w fun e w'=>e= .returned (.int .i64 st)∧w=w':=by
 have a:w.cell? ⟨lb,0,none⟩=_:=Zf (i:=0) h.hb rfl
 go_in
 go_wp2_with(go_at_call 93;refine(Zh1 _ st _ a).mono ?_;rintro e w' ⟨rfl,rfl⟩)
 go_ret
 exact⟨rfl,rfl⟩
def first(s:Int):Int:=if 1≤s∧s≤10 then s else 1
def ZpC (s:Int):(ZiV s).toList.isEmpty= !(decide (1≤s∧s≤10)):=by
 by_cases h:s<1∨10<s
 ·rw[ZiH h];have:¬(1≤s∧s≤10):=by omega
  rw[decide_eq_false this]
  have e:(⟨#[]⟩:ByteArray).toList.isEmpty=true:=by kernel_rfl
  rw[e];rfl
 ·rcases(show s=1∨s=2∨s=3∨s=4∨s=5∨s=6∨s=7∨s=8∨s=9∨s=10 by omega)with rfl|rfl|rfl|rfl|rfl|rfl|rfl|rfl|rfl|rfl<;>kernel_rfl
def Zqc (s:Int) (w:World):
  Calls Tryz.prog 58 #[.int .i64 s] w fun e w'=>∃lb,e= .returned (.pointer (some ⟨lb,0,none⟩))∧Za2 w' lb (first s) 0 0∧Zg [] w w'∧w.heap.size≤lb:=by
 have d:=ZpC s
 by_cases h:1≤s∧s≤10
 case' pos=>obtain⟨t,ht⟩:=Je s
 case' neg=>obtain⟨t,ht⟩:=Je ((1:Int))
 all_goals(
  have c:first s=t:=by unfold first;simp[h,ht]
  rw[c]
  have a:=d
  first|rw[decide_eq_true h]at a|rw[decide_eq_false h]at a
  simp only[Bool.not_true,Bool.not_false]at a
  have k:=D ht;have m:=D a
  clear d c ht a
  go_in
  go_wp2_with fail
  refine(Zn5 s _).mono ?_
  rintro e l ⟨rfl,j⟩
  have b:=D j;clear j
  generalize ZiV s=nm at*
  have a:=m.out
  go_wp2_with fail
  refine(Zg5 _ 0 _ _ (Zf (i:=0) (Za _) rfl) (ZS (Za _))).mono ?_
  rintro e n ⟨rfl,g,rfl⟩
  go_wp2_with fail
  go_ret
  refine⟨_,rfl,⟨?_⟩,((b.alloc _).drewN g).setCell (.inl b.size) _,b.size⟩
  have ht:=k.out
  subst ht
  exact(Zd (w:=(l.alloc _).drewN g) (Za _) _).trans rfl)
def ZqJ (w:World) (lb pl:Nat) (x0 e1 x2 x3 x4:Value) (ends:Int) (he:e1= .int .i64 ends) (hends:IntKind.i64.wrap (ends+1)=ends+1)
  (hs:w.heap[lb]? =some (.cells #[x0, .int .i64 ends,x2,x3,x4] 167 (0,0))) (hp:w.heap[pl]? =some (.cells #[.pointer (some ⟨lb,0,none⟩)] 91 (0,0))):
  Calls Tryz.prog 162 #[.pointer (some ⟨pl,0,none⟩)] w fun e w'=>e= .returned (.tuple #[])∧
   (w'.heap[lb]? =some (.cells #[x0, .int .i64 (ends+1),x2,x3,x4] 167 (0,0))∧Zg [lb] w w'):=by
 have c:w.cell? ⟨pl,0,none⟩=_:=Zf (i:=0) hp rfl
 have b:w.cell? ⟨lb,1,none⟩=_:=Zf (i:=1) hs rfl
 have a:=Kf 1 hs
 go_in
 go_wp2
 go_end0
 refine⟨rfl,?_,(Zg.refl _ _).setCell (.inr (by simp)) _⟩
 rw[Zd hs];rfl
def ZrG {st ends done:Int} (h:Za2 w lb st ends done) (hd:done=0∨done=1) (hw:IntKind.i64.wrap (ends+1)=ends+1) (tq:Int):
  Calls Tryz.prog 84 #[.pointer (some ⟨lb,0,none⟩), .int .i64 tq] w fun e w'=>e= .returned (.bool (may st tq))∧
   Za2 w' lb (if may st tq then tq else st) (if may st tq&&over tq&&decide (done=0)then ends+1 else ends) (if may st tq&&over tq then 1 else done)∧Zg [lb] w w':=by
 have K:∀(fn:Fn) (first cap:Array Value) (w:World),(Instr.makeFunc fn first cap).run Tryz.prog w= .ok (.func fn first cap) w:=fun _ _ _ _=>rfl
 have L:=lt_of_block h.hb
 obtain⟨J,l⟩:=Je (may st tq)
 obtain⟨E,n⟩:=Je (over tq)
 rw[←l,←n]
 have F:=D hw;clear hw;change Hid _ at l n
 go_in
 go_wp2_with fail
 have d:Zg [] w (w.alloc (.cells #[.pointer (some ⟨lb,0,none⟩)] 91)):=(Zg.refl _ _).alloc _
 have y:=h.upd d
 have k:(w.alloc (.cells #[.pointer (some ⟨lb,0,none⟩)] 91)).heap[w.heap.size]? =some (.cells #[.pointer (some ⟨lb,0,none⟩)] 91 (0,0)):=Za _
 generalize w.alloc (.cells #[.pointer (some ⟨lb,0,none⟩)] 91)=W at*
 have c:=D y;have p:=D k
 have H:W.cell? ⟨w.heap.size,0,none⟩=_:=Zf (i:=0) k rfl
 clear y k h;change Hid _ at d
 refine(Za0 c).mono ?_
 rintro e s ⟨rfl,rfl⟩
 go_wp2_with fail
 refine(Zqu st tq _).mono ?_
 rintro e s ⟨rfl,rfl⟩
 rw[←l.out]
 cases J
 case false=>
  go_wp2_with fail
  go_ret
  exact⟨rfl,by simpa using c.out,d.weaken (by simp)⟩
 case true=>
  go_wp2_with fail
  refine(Zg5 _ _ tq _ (Zf (i:=0) c.hb rfl) (ZS c.hb)).mono ?_
  rintro e q ⟨rfl,b,rfl⟩
  have a:((W.drewN b).setCell ⟨lb,0,none⟩ (.int .i64 tq)).heap[lb]? =some (.cells #[.int .i64 tq, .int .i64 ends, .int .u32 done, .int .i32 0, .int .u32 0] 167 (0,0)):=(Zd (w:=W.drewN b) c.hb _).trans rfl
  have g:Zg [lb] w ((W.drewN b).setCell ⟨lb,0,none⟩ (.int .i64 tq)):=((d.weaken (G:=[lb]) (by simp)).drewN b).setCell (.inr (by simp)) _
  have m:((W.drewN b).setCell ⟨lb,0,none⟩ (.int .i64 tq)).heap[w.heap.size]? =some (.cells #[.pointer (some ⟨lb,0,none⟩)] 91 (0,0)):=(Z4 _ (by simp;omega)).trans p.out
  have N:((W.drewN b).setCell ⟨lb,0,none⟩ (.int .i64 tq)).cell? ⟨w.heap.size,0,none⟩=_:=Zf (i:=0) m rfl
  generalize(W.drewN b).setCell ⟨lb,0,none⟩ (.int .i64 tq)=W2 at*
  clear c d p H;change Hid _ at a g m
  go_wp2_with fail
  refine(Zjk tq _).mono ?_
  rintro e s ⟨rfl,rfl⟩
  rw[←n.out]
  cases E
  case false=>
   go_wp2_with fail
   go_ret
   exact⟨rfl,⟨by simpa using a.out⟩,g.out⟩
  case true=>
   go_wp2_with fail
   rcases hd with rfl|rfl
   ·have M:=(Zd (w:=W2) a (i:=3) (.int .i32 1)).trans rfl
    have o:=ZqJ (W2.setCell ⟨lb,3,none⟩ (.int .i32 1)) lb w.heap.size (.int .i64 tq) _ (.int .u32 0) (.int .i32 1) (.int .u32 0) ends rfl F ((Zd (w:=W2) a (i:=3) (.int .i32 1)).trans rfl) ((Z4 _ (by simp;omega)).trans m)
    refine(Zdo lb 2 162 #[.pointer (some ⟨w.heap.size,0,none⟩)] W2 _ (Zf (i:=2) a rfl) (Zf (i:=3) a rfl) (ZS a) (ZS a)
     (fun W=>Go.MuLone.run_callFunc_enter Tryz.func162 (by kernel_rfl) rfl _ _) o (fun w' j=>⟨Zf (i:=2) j.1 rfl,Zf (i:=3) j.1 rfl,ZS j.1,ZS j.1⟩)).mono ?_
    rintro e z ⟨rfl,q,⟨x,r⟩,rfl⟩
    have I:=D x;have C:=D r
    clear x r o
    go_wp2_with fail
    go_ret
    refine⟨rfl,⟨?_⟩,?_⟩
    ·exact(Zd (Zd (show q.drew.heap[lb]? =_ from I.out) _) _).trans rfl
    ·exact((((g.setCell (.inr (by simp)) _).trans C).drew.setCell (.inr (by simp)) _).setCell (.inr (by simp)) _)
   ·refine(ZdK ⟨lb,2,none⟩ 1 rfl _ _ (Zf (i:=2) a rfl)).mono ?_
    rintro e z ⟨rfl,rfl⟩
    go_wp2_with fail
    go_ret
    exact⟨rfl,⟨by simpa using a.out⟩,g.out⟩
end Go.Proofs.YtlhapbopmplngaaGreatDoor
