import Derived.Handed
import Derived.HandedShaped
import Derived.LaidMore
import Derived.Lay
import Derived.Shelf.Vars
import Derived.SizedLaws
import Derived.Stop.Joined
import Derived.Stop.LaidErr
import Derived.Test.YtlhapbopmplngaaGreatDoorTie
import Derived.Test.YtlhapbopmplngaaGreatDoorS36
set_option linter.all false
set_option maxHeartbeats 16000000
set_option maxRecDepth 100000
set_option autoImplicit true
set_option relaxedAutoImplicit true
namespace Go.Proofs.YtlhapbopmplngaaGreatDoor
open Go.RowKit Go.Lk
def ZaT (c:Zcq):List Value:=[.int .i64 c.total, .int .u64 c.aging, .int .i64 c.high, .int .i64 c.low, .int .u64 c.idle, .int .i64 c.cache, .int .u64 c.timeout]
def Ys (c:Zcq) (h:¬(1≤c.total∧c.total≤32∧1≤c.high∧c.high≤1024∧0≤c.low∧c.low<c.high∧1≤c.cache∧c.cache≤64∧1≤c.aging∧c.aging≤1000∧c.idle≤1000∧1≤c.timeout∧c.timeout≤600)):Zbu c=false:=by
 cases hc:Zbu c with
 |false=>rfl
 |true=>
  unfold Zbu at hc
  simp only[Bool.and_eq_true,decide_eq_true_eq]at hc
  omega
def Zlt (c:Zcq) (w:World):
  Calls Tryz.prog 39 #[.agg (ZaT c).toArray] w fun e w'=>e= .returned (.bool (Zbu c))∧Zg [] w w':=by
 obtain⟨R,a⟩:=Je (Zbu c)
 rw[←a]
 obtain⟨j,h⟩:=Je (w.alloc (.cells (ZaT c).toArray 26))
 obtain⟨L,i⟩:=Je w.heap.size
 have g:j.heap[L]? =some (.cells (ZaT c).toArray 26 (0,0)):=by rw[h,i];exact Za _
 have b:=D (show Zg [] w j by rw[h];exact(Zg.refl [] w).alloc _)
 have E:=Jx 0 g
 have G:=Jx 1 g
 have q:=Jx 2 g
 have H:=Jx 3 g
 have I:=Jx 4 g
 have y:=Jx 5 g
 have J:=Jx 6 g
 clear g;change Hid _ at h i a
 go_in
 go_upto_region 1 with fail
 rw[←h.out,←i.out]
 by_cases M:1≤c.total
 case neg=>
  go_wp2_with fail
  go_ret
  exact⟨by rw[a.out,Ys c (fun d=>by omega)];rfl,b.out⟩
 by_cases s:c.total≤32
 case neg=>
  go_wp2_with fail
  go_ret
  exact⟨by rw[a.out,Ys c (fun d=>by omega)];rfl,b.out⟩
 by_cases C:1≤c.high
 case neg=>
  go_wp2_with fail
  go_ret
  exact⟨by rw[a.out,Ys c (fun d=>by omega)];rfl,b.out⟩
 by_cases r:c.high≤1024
 case neg=>
  go_wp2_with fail
  go_ret
  exact⟨by rw[a.out,Ys c (fun d=>by omega)];rfl,b.out⟩
 by_cases F:0≤c.low
 case neg=>
  go_wp2_with fail
  go_ret
  exact⟨by rw[a.out,Ys c (fun d=>by omega)];rfl,b.out⟩
 by_cases o:c.low<c.high
 case neg=>
  go_wp2_with fail
  go_ret
  exact⟨by rw[a.out,Ys c (fun d=>by omega)];rfl,b.out⟩
 by_cases x:1≤c.cache
 case neg=>
  go_wp2_with fail
  go_ret
  exact⟨by rw[a.out,Ys c (fun d=>by omega)];rfl,b.out⟩
 by_cases z:c.cache≤64
 case neg=>
  go_wp2_with fail
  go_ret
  exact⟨by rw[a.out,Ys c (fun d=>by omega)];rfl,b.out⟩
 by_cases p:1≤c.aging
 case neg=>
  go_wp2_with fail
  go_ret
  exact⟨by rw[a.out,Ys c (fun d=>by omega)];rfl,b.out⟩
 by_cases K:c.aging≤1000
 case neg=>
  go_wp2_with fail
  go_ret
  exact⟨by rw[a.out,Ys c (fun d=>by omega)];rfl,b.out⟩
 by_cases n:c.idle≤1000
 case neg=>
  go_wp2_with fail
  go_ret
  exact⟨by rw[a.out,Ys c (fun d=>by omega)];rfl,b.out⟩
 by_cases m:1≤c.timeout
 case neg=>
  go_wp2_with fail
  go_ret
  exact⟨by rw[a.out,Ys c (fun d=>by omega)];rfl,b.out⟩
 have k:Zbu c=decide ((c.timeout:Int)≤600):=by
  by_cases l:c.timeout≤600
  ·rw[decide_eq_true (show(c.timeout:Int)≤600 by omega)]
   unfold Zbu;simp only[Bool.and_eq_true,decide_eq_true_eq];omega
  ·rw[decide_eq_false (show¬(c.timeout:Int)≤600 by omega)]
   exact Ys c (fun d=>by omega)
 change Hid _ at k
 go_wp2_with fail
 go_ret
 refine⟨?_,b.out⟩
 rw[a.out,k.out]
 rfl
def Zq3 (w:World) (l:List Zin) (e:Ending) (w':World):Prop:=∃v G,e= .returned v∧Zk 54 7 v (l.map Y7) w' G∧Zg [] w w'∧∀k∈G,w.heap.size≤k
section
variable {w:World} {b:Nat} {P:Ym} {s:Ze} {va vp vl:Value} {F:List Nat}
theorem ZnZ (h:Zh w b P none s va vp vl F) (hn:s.log.length≤1000000):
  Calls Tryz.prog 18 #[.pointer (some ⟨b,0,none⟩)] w (Zq3 w s.log):=by
 obtain⟨G,e,_⟩:=h.step (k:=3) rfl
 obtain⟨A,c,rfl,_⟩:=e.form'
 have m:=Jx 19 h.blk.1
 have g:=D e;have L:=D hn
 obtain⟨l,a⟩:=Je (s.log.map Y7)
 have J:=D (show∀c∈l,∀u∈c,u.oneCell'=true from fun c p=>by
  rw[a]at p
  obtain⟨x,_,rfl⟩:=List.mem_map.1 p
  exact Zfp x)
 have z:=D (show l.length≤1000000 by rw[a,Xb];exact hn)
 have C:=D a
 rw[←a]at m g
 clear e hn h a
 obtain⟨n,d⟩:=Je l.length
 have K:=D d
 rw[←d]at m g
 clear d
 go_in
 go_wp2_with(refine Zdg w rfl (.const (.slice none 0 0)) (.tmp 8) 51 rfl 54 Tryz.underlying51 ZlC rfl (by omega) (by omega) (.slice none 0 0) [] [] rfl (ZA _ _ _) (.slice A n c) l G rfl g J (by have:=z.out;simp;omega) ?_;intro H M E i o j;have y:=D i;have r:=D o;have q:=D j;clear i o j)
 go_ret
 refine⟨H,E,rfl,?_,r.out,fun k I=>by rcases q k I with h|h;cases h;exact h⟩
 rw[←C.out]
 exact y.out
theorem Znq (h:Zh w b P none s va vp vl F):Calls Tryz.prog 15 #[.pointer (some ⟨b,0,none⟩)] w fun e w'=>e= .returned (.int .i64 s.pool.busy.length)∧w'=w:=by
 have d:=Jx 8 h.blk.1
 obtain⟨G,a,_⟩:=h.pool
 have c:=D (ZpH a)
 clear h a
 go_in
 go_wp2_with fail
 refine c.out.mono ?_
 rintro e w' ⟨rfl,rfl⟩
 go_wp2_with fail
 go_ret
 exact⟨rfl,rfl⟩
end
def low (x:Int) (n:Nat):Nat:=(x%18446744073709551616).toNat%n
def Zsl (x:Int) (n:Nat) (h:0<n):low x n<n:=Nat.mod_lt _ h
def Zr3 (x:Int) (n:Nat) (h1:1≤n) (h2:n≤1000000):wrap64 ((IntKind.u64.wrap x).tmod n)=low x n:=by
 have a:IntKind.u64.wrap x=x%18446744073709551616:=by simp[IntKind.wrap,IntKind.bits,IntKind.signed]
 obtain⟨y,b⟩:∃y:Nat,x%18446744073709551616=y:=⟨(x%18446744073709551616).toNat,by omega⟩
 unfold low
 rw[a,b,Int.tmod_eq_emod_of_nonneg (by omega),Int.toNat_natCast]
 have d:y%n<n:=Nat.mod_lt _ (by omega)
 have c:((y%n:Nat):Int)=(y:Int)%(n:Int):=by push_cast;rfl
 rw[←c]
 unfold wrap64
 omega
def Zsj (x:Int) (n:Nat) (h1:1≤n) (h2:n≤1000000) (w:World):
  Calls Tryz.prog 13 #[.int .i64 x, .int .i64 n] w fun e w'=>e= .returned (.int .i64 (low x n))∧w=w':=by
 go_in
 go_wp2
 go_ret
 refine⟨?_,rfl⟩
 show Ending.returned (.int .i64 _)=_
 rw[Zr3 x n h1 h2]
end Go.Proofs.YtlhapbopmplngaaGreatDoor
namespace Go.Lk
open Go
variable {H:Type} {enc:TypeId×Value→H}
theorem Zfe {a:Assume} {C:Checked} {os:Os} {f:FuncId} {fn:Func} {s:ChangeSpec} {conds:List PathCond} {apart fresh handsOn again:Bool} {X:World→Array Value→Prop}
  (hX:∀(w w':World) (args:Array Value),w.heap=w'.heap→X w args→X w' args)
  (own:ownKnob C.prog.godebug=none) (started:os.Started) (noInit:C.prog.inits.idxOf? f=none) (hfn:C.prog.funcs[f]? =some fn)
  (witness:∃(w:World) (tape:Tape) (i:Input),w.os=os∧(w.forCall tape i).Shaped C.prog∧i.vars=[]∧Input.okWide C.prog (w.forCall tape i) .any w.heap.size f i∧
   ((s.pre enc C.prog fn conds apart (w.forCall tape i).memory i.args∧X (w.forCall tape i).memory i.args)∧sizedMet enc C.prog fn (OpenSpec.ofChange s) apart (w.forCall tape i).memory i.args)∧a.holds C.prog (lone (Frame.enter C.prog f i.args .normal) [] (w.forCall tape i)))
  (contract:∀(W:World) (base:Nat) (args:Array Value) (ds gs:List (DataW H)) (before:List MemPlace),
   (∀(j:Nat) t v,fn.params[j]? =some t→args[j]? =some v→Value.okWide C.prog W .any base t v)→
   DataW.Whole enc C.prog fn.params.toList s.vars apart W args.toList ds gs before→
   conds.all (PathCond.test C.prog ⟨fn.params.toList,ds,s.plain.varTypes C.prog,gs⟩)=true→
   (DataW.weightsEach C.prog (fn.params.toList++s.plain.varTypes C.prog) (ds++gs)).all (·≤reachBytes)=true→X W args→W.ShapedOpen C.prog→
   a.holds C.prog (lone (Frame.enter C.prog f args .normal) [] W)→
   Calls C.prog f args W fun e W'=>∃v,e= .returned v∧s.post enc C.prog fn apart fresh handsOn again W args v W'):
  ReturnsInHanded a C os f .any (fun w args=>(s.pre enc C.prog fn conds apart w args∧X w args)∧sizedMet enc C.prog fn (OpenSpec.ofChange s) apart w args) (s.post enc C.prog fn apart fresh handsOn again):=by
 refine returnsInHanded_of_calls own started noInit witness ?_
 intro w tape i _ l _ n d c
 obtain⟨_,_,_,m,h,_,_,_,_,g⟩:=n
 have e:m=fn:=Option.some.inj (h.symm.trans hfn)
 subst e
 obtain⟨⟨⟨ds,gs,before,b,p⟩,hx⟩,r⟩:=d
 have k:=DataW.Whole.of_heap (w':=w.forCall tape i) (by rfl) b
 refine(contract (w.forCall tape i) w.heap.size i.args ds gs before g k p (r.weights b) (hX _ _ _ (by rfl) hx) l c).mono fun e W' ⟨v,o,q⟩=> ?_
 subst o
 exact ChangeSpec.post_blind q
end Go.Lk
namespace Go.Proofs.YtlhapbopmplngaaGreatDoor
open Go.RowKit Go.Lk
abbrev Zsd:List (String×DataW Unit):=[("math/bits.deBruijn32tab",Rows.laid_math_bits_deBruijn32tab),("math/bits.deBruijn64tab",Rows.laid_math_bits_deBruijn64tab),("internal/strconv.uint64pow10",Rows.laid_internal_strconv_uint64pow10),("unicode/utf8.acceptRanges",Rows.laid_unicode_utf8_acceptRanges),("unicode/utf8.first",Rows.laid_unicode_utf8_first)]
def ZqM:(Rows.laid_internal_strconv_uint64pow10:DataW Unit)=Lib.tabData .u64 Lib.pow10Tab:=by rfl
def Zsf (hL:laidMetH Tryz.prog Zsd W) (hSh:W.ShapedOpen Tryz.prog):Env W:=by
 rw[MakeChecks.laidMetH_plain _ _ _ (by kernel_rfl)]at hL
 have h:=hL.tail.tail
 rw[ZqM]at h
 exact⟨cell_of_shapedOpen_int (t:= 3) (zero:= #[.int .i64 0]) hSh (by decide+kernel) (by kernel_rfl) rfl (by kernel_rfl) (by kernel_rfl) Tryz.underlying3,
  Lib.tabIs_of_head ZiU (by kernel_rfl) Tryz.underlying434 Tryz.underlying24 (by kernel_rfl) (by kernel_rfl) h⟩
end Go.Proofs.YtlhapbopmplngaaGreatDoor
