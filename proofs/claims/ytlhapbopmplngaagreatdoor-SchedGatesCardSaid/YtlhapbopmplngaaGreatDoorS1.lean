import Derived.BigQuiet
import Derived.Deep.AppendLies
import Derived.Deep.Cut
import Derived.Deep.CutBlock
import Derived.Deep.LoopGhost
import Derived.Deep.QuietTactic
import Derived.Deep.RegionLaw
import Derived.Deep.Slices
import Derived.Deep.WholeRow
import Derived.KernelRfl
import Derived.Laws.CopyRow
import Derived.Laws.IdiomCopy
import Derived.Laws.IdiomStrings
import Derived.Lib.Hide
import Derived.Lib.ItoaNum
import Derived.Lib.LaidTab
import Derived.Lib.SliceRun
import Derived.Maps.AppendAt
import Derived.OpenShut
import Derived.Outline
import Derived.OwnWalk
import Derived.ProofKit
import Derived.RegionTactic
import Derived.Shelf.Abstract
import Derived.ShutString
import Derived.StillTailTactics
import Derived.WalkKit
import Derived.WalkLawsBesides
import Derived.WalkSpells
import Derived.Test.YtlhapbopmplngaaGreatDoorProg
set_option linter.all false
set_option maxHeartbeats 16000000
set_option maxRecDepth 100000
set_option autoImplicit true
set_option relaxedAutoImplicit true
namespace Go.Lk
open Go.RowKit
theorem D {p:Prop} (h:p):Hid p:=Lib.hid h
theorem Je {α:Sort u} (a:α):∃x,x=a:=⟨a,rfl⟩
theorem Jg {α:Type u} {a:Array α} {i:Nat} {v:α} (h:a[i]? =some v):i<a.size:=(Array.getElem?_eq_some_iff.1 h).1
theorem Jk {α:Type u} {a:List α} {i:Nat} {v:α} (h:a[i]? =some v):i<a.length:=(List.getElem?_eq_some_iff.1 h).1
theorem Jm {α:Type u} {a b:α} (h:a∈[b]):a=b:=List.mem_singleton.1 h
abbrev Xa:= @List.getElem?_eq_getElem
abbrev Xb:= @List.length_map
abbrev Xc:= @List.mem_of_getElem?
abbrev Xd:= @List.length_append
abbrev Xe:= @List.getElem?_map
abbrev Xf:= @List.getElem?_cons_succ
abbrev Xg:= @List.getElem?_cons_zero
abbrev Xh:= @List.getElem?_toArray
abbrev Xi:= @Nat.le_refl
abbrev Xj:= @Nat.le_trans
abbrev Xk:= @List.all_eq_true
abbrev Xl:= @List.all_toArray
abbrev Xm:= @List.take_length
abbrev Xn:= @Nat.zero_le
abbrev Xo:= @Go.World.block_lt_of_cell?
abbrev Xp:= @Go.World.cell?_of_block
abbrev Xq:= @List.length_filter_le
abbrev Xr:= @List.take_succ_eq_append_getElem
abbrev Xs:= @List.map_append
abbrev Xt:= @List.getElem?_set_ne
abbrev Xu:= @Go.World.drew_eq
abbrev Xv:= @List.getElem_cons_zero
def B (x:UInt8):Value:= .int .u8 (x.toNat:Int)
theorem Zd {w:World} {b i:Nat} {cs:Array Value} {fr:Nat×Nat} (h:w.heap[b]? =some (.cells cs T fr)) (v:Value):
  (w.setCell ⟨b,i,none⟩ v).heap[b]? =some (.cells (cs.setIfInBounds i v) T fr):=by
 obtain⟨a,c⟩:=fr
 simp only[World.setCell,Array.getElem?_modify]
 simp[h]
theorem Z4 {w:World} {b:Nat} {a:Addr} (v:Value) (h:a.block≠b):(w.setCell a v).heap[b]? =w.heap[b]? :=by
 simp only[World.setCell,Array.getElem?_modify]
 rw[if_neg h]
theorem Zz {w:World} {b:Nat} (o:Obj) (h:b<w.heap.size):(w.alloc o).heap[b]? =w.heap[b]? :=by
 show(w.heap.push o)[b]? =_
 rw[Array.getElem?_push,if_neg (by omega)]
theorem Za {w:World} (o:Obj):(w.alloc o).heap[w.heap.size]? =some o:=by
 show(w.heap.push o)[w.heap.size]? =_
 simp
theorem ZjU {w:World}:w.drew.heap=w.heap:=rfl
theorem Zf {w:World} {b i:Nat} {cs:Array Value} {fr:Nat×Nat} (h:w.heap[b]? =some (.cells cs T fr)) (hi:cs[i]? =some v):w.cell? ⟨b,i,none⟩=some v:=by
 simp[World.cell?,h,hi]
theorem ZS {w:World} {b i:Nat} {cs:Array Value} (h:w.heap[b]? =some (.cells cs T (0,0))):w.frozen? ⟨b,i,none⟩=false:=by
 simp[World.frozen?,h]
structure Zg (F:List Nat) (w w':World):Prop where
 os:w'.os=w.os
 tape:w'.tape=w.tape
 output:w'.output=w.output
 size:w.heap.size≤w'.heap.size
 block:∀k,k<w.heap.size→k∉F→w'.heap[k]? =w.heap[k]?
theorem Zg.refl (F:List Nat) (w:World):Zg F w w:=⟨rfl,rfl,rfl,Xi _,fun _ _ _=>rfl⟩
theorem Zg.drew (h:Zg F a w):Zg F a w.drew:=⟨h.os,h.tape,h.output,h.size,h.block⟩
theorem Zg.drewN (h:Zg F a w) (k:Nat):Zg F a (w.drewN k):=⟨h.os,h.tape,h.output,h.size,h.block⟩
theorem Zg.alloc (h:Zg F a w) (o:Obj):Zg F a (w.alloc o):=
 ⟨h.os,h.tape,h.output,Xj h.size (by simp),fun k hk hn=>by rw[Zz o (Nat.lt_of_lt_of_le hk h.size)];exact h.block k hk hn⟩
theorem Zg.setCell (h:Zg F a w) {p:Addr} (hp:a.heap.size≤p.block∨p.block∈F) (u:Value):Zg F a (w.setCell p u):=
 ⟨h.os,h.tape,h.output,by simpa using h.size,fun k hk hn=>by
  rw[Z4]
  ·exact h.block k hk hn
  ·rintro rfl
   rcases hp with hp|hp
   ·omega
   ·exact hn hp⟩
theorem Zg.trans (h:Zg F a w) (k:Zg G w w') (hG:∀x,x∈G→a.heap.size≤x∨x∈F:=by simp):Zg F a w':=
 ⟨k.os.trans h.os,k.tape.trans h.tape,k.output.trans h.output,Xj h.size k.size,fun x hx hn=>by
  rw[k.block x (Nat.lt_of_lt_of_le hx h.size) (fun hg=>by rcases hG x hg with h'|h'<;>first|omega|exact hn h'),h.block x hx hn]⟩
theorem Zg.grown (h:Zg F a w) {row:Option Nat} (hg:w.grownBy w' row) (hr:∀k,row=some k→a.heap.size≤k∨k∈F):Zg F a w':=
 ⟨hg.os.trans h.os,hg.tape.trans h.tape,hg.output.trans h.output,Xj h.size hg.size,fun k hk hn=>by
  rw[hg.block k (Nat.lt_of_lt_of_le hk h.size) (fun e=>by rcases hr k e.symm with h'|h'<;>first|omega|exact hn h'),h.block k hk hn]⟩
theorem Zie {w:World} {base base':Nat} {size n:Nat} {xs:List Value} (h:w.ownsRow base e size v n xs) (hb:base'≤base):w.ownsRow base' e size v n xs:=by
 obtain⟨a,f|⟨g,b,d,hv,c,r⟩⟩:=h
 ·exact⟨a, .inl f⟩
 ·exact⟨a, .inr ⟨g,b,d,hv,Xj hb c,r⟩⟩
theorem Zr7 {w:World} {base:Nat} {size n:Nat} {xs:List Value} (h:w.ownsRow base e size v n xs) (k:Nat) (hk:v.ownBlock=some k):k<w.heap.size:=by
 rcases h.2 with⟨rfl,_⟩|⟨g,b,c,rfl,d,a,_⟩
 ·simp[Value.ownBlock]at hk
 ·have:g=k:=by simpa[Value.ownBlock]using hk
  subst this
  exact(Jg a)
theorem ZrD {w w1:World} {base:Nat} {size n:Nat} {xs:List Value} (h:w.ownsRow base e size v n xs) (hu:Zg F w w1) (hF:∀k,v.ownBlock=some k→k∉F):w1.ownsRow base e size v n xs:=by
 obtain⟨f,a⟩:=h
 refine⟨f,?_⟩
 rcases a with a|⟨g,c,d,hv,hg,b,r⟩
 ·exact Or.inl a
 ·subst hv
  exact Or.inr ⟨g,c,d,rfl,hg,by rw[hu.block g (Jg b) (hF g rfl)];exact b,r⟩
def YW (w:World) (A:Option Addr) (bs:List UInt8):Prop:=∀j x,bs[j]? =some x→∃ab ao,A=some ⟨ab,ao,none⟩∧w.cell? ⟨ab,ao+j,none⟩=some (B x)
def ZbD (w:World) (v:Value) (bs:List UInt8):Prop:=∃A c,v= .slice A bs.length c∧bs.length≤c∧YW w A bs
theorem add_plain (g o j:Nat):(⟨g,o,none⟩:Addr).add j=⟨g,o+j,none⟩:=by unfold Addr.add;split<;>simp_all
theorem ZbD.str {P:Program} {bs:List UInt8} (h:ZbD w v bs) (src dst e:TypeId) (hs:P.underlying src=some (.slice e)) (he:P.underlying e=some (.int .u8)) (hd:P.underlying dst=some .string):
  (convert src dst v).run P w= .ok (.string ⟨bs.toArray⟩) w:=by
 obtain⟨A,c,rfl,_,h⟩:=h
 by_cases f:bs=[]
 ·subst f
  cases A with
  |none=>exact run_convert_bytes_nil w src e hs he _ _ dst hd
  |some a=>exact run_convert_bytes_back w src dst e a c [] hs he hd (fun j d=>by cases d)
 ·obtain⟨o,n,rfl,_⟩:=h 0 (bs[0]'(List.length_pos_iff.2 f)) (by simp)
  refine run_convert_bytes_back w src dst e _ c bs hs he hd (fun j d=> ?_)
  obtain⟨l,m,b,g⟩:=h j bs[j] (by simp[d])
  injection b with b;injection b with i k
  subst i k
  rw[add_plain];exact g
theorem ZbD.drewN {bs:List UInt8} (h:ZbD w v bs) (k:Nat):ZbD (w.drewN k) v bs:=h
theorem YW.take {bs:List UInt8} (h:YW w A bs) (n:Nat):YW w A (bs.take n):=fun j x hj=>h j x (by
 rw[List.getElem?_take]at hj;split at hj
 ·exact hj
 ·cases hj)
theorem YW.drop {bs:List UInt8} (h:YW w A bs) (n:Nat):YW w (A.map (fun x=>x.add n)) (bs.drop n):=fun j x hj=>by
 rw[List.getElem?_drop]at hj
 obtain⟨ab,ao,rfl,hc⟩:=h _ _ hj
 exact⟨ab,ao+n,by simp[add_plain],by rw[Nat.add_assoc];exact hc⟩
theorem YW.nil (w:World) (A:Option Addr):YW w A []:=fun j x hj=>by cases hj
theorem Zak (a b:List UInt8):(⟨a.toArray⟩:ByteArray)++⟨b.toArray⟩=⟨(a++b).toArray⟩:=by
 apply ByteArray.ext;simp
theorem YW.lt {bs:List UInt8} (h:YW w A bs) (hb:bs≠[]) (ab ao:Nat) (e:A=some ⟨ab,ao,none⟩):ab<w.heap.size:=by
 obtain⟨f,g,a,d⟩:=h 0 (bs[0]'(List.length_pos_iff.2 hb)) (by simp)
 rw[e]at a;injection a with a;injection a with b c
 subst b c
 exact Xo _ _ d
theorem YW.upd0 {bs:List UInt8} (h:YW w A bs) (hu:Zg [] w w1):YW w1 A bs:=fun j x hj=>by
 obtain⟨ab,ao,rfl,hc⟩:=h j x hj
 exact⟨ab,ao,rfl,(Xp (hu.block ab (Xo _ _ hc) (by simp))).trans hc⟩
theorem YW.upd {bs:List UInt8} (h:YW w A bs) (hu:Zg F w w1) (hF:∀ab ao,A=some ⟨ab,ao,none⟩→ab∉F:=by simp):YW w1 A bs:=fun j x hj=>by
 obtain⟨ab,ao,rfl,hc⟩:=h j x hj
 exact⟨ab,ao,rfl,(Xp (hu.block ab (Xo _ _ hc) (hF ab ao rfl))).trans hc⟩
theorem ZbD.upd {bs:List UInt8} (h:ZbD w v bs) (hu:Zg F w w1) (hF:∀k,v.ownBlock=some k→k∉F:=by simp):ZbD w1 v bs:=by
 obtain⟨A,c,rfl,b,h⟩:=h
 exact⟨A,c,rfl,b,h.upd hu fun a d e=>hF a (by rw[e];rfl)⟩
theorem Zg.below (h:Zg F w w') (hF:∀x,x∈F→w.heap.size≤x):Below w.heap.size w w':=
 ⟨h.os,h.tape,h.output,h.size,fun k hk=>h.block k hk fun hm=>by have:=hF k hm;omega⟩
theorem Zg.weaken {F G:List Nat} (h:Zg F a w) (hG:∀x,x∈F→a.heap.size≤x∨x∈G):Zg G a w:=
 ⟨h.os,h.tape,h.output,h.size,fun k hk hn=>h.block k hk fun hm=>by rcases hG k hm with h'|h'<;>first|omega|exact hn h'⟩
theorem Ja {w w1:World} (h:w1=w.alloc o):Zg [] w w1:=h▸(Zg.refl [] w).alloc o
theorem Jd {w w1:World} (h:w1=w.drew):Zg [] w w1:=h▸(Zg.refl [] w).drew
theorem Jt (H:Hid (Zg F w w1)) (h:Zg [] w1 w2):Hid (Zg F w w2):=D (H.out.trans h (by simp))
theorem Jc (i:Nat) {w:World} {b:Nat} {cs:Array Value} {fr:Nat×Nat} (h:w.heap[b]? =some (.cells cs T fr)) (hi:cs[i]? =some v:=by simp only[List.getElem?_toArray,List.getElem?_cons_succ,List.getElem?_cons_zero];rfl):w.cell? ⟨b,i,none⟩=some v:=Zf h hi
open Go Go.RowKit
theorem Kb (w:World) (o:Obj):∃x,x=w.alloc o∧Zg [] w x:=⟨_,rfl,(Zg.refl [] w).alloc o⟩
theorem Kc (w:World) (o:Obj):∃x,x=w.alloc o∧Zg [] w x∧x.heap[w.heap.size]? =some o:=⟨_,rfl,(Zg.refl [] w).alloc o,Za o⟩
theorem Kd {w w1:World} {b i:Nat} {p:Option Nat} (h:w1=w.setCell ⟨b,i,p⟩ v):Zg [b] w w1:=h▸(Zg.refl [b] w).setCell (.inr (by simp)) v
theorem Kv {k:Nat} (U:Zg F w w1) (H:w.heap[k]? =some o) (hk:k∉F:=by simp):w1.heap[k]? =some o:=(U.block k (Jg H) hk).trans H
theorem Kf (i:Nat) {w:World} {b:Nat} {cs:Array Value} (h:w.heap[b]? =some (.cells cs T (0,0))):w.frozen? ⟨b,i,none⟩=false:=ZS h
open Go
instance:Coe (Option Addr) Value:=⟨.pointer⟩
instance:Coe Nat Addr:=⟨fun b=>⟨b,0,none⟩⟩
instance:Coe (List UInt8) Value:=⟨fun x=> .string ⟨x.toArray⟩⟩
abbrev YD:=World→List Nat→Prop
structure YD.Local (A:YD):Prop where
 lt:∀{w F},A w F→∀k∈F,k<w.heap.size
 upd:∀{w w1 F G},A w F→Zg G w w1→(hd:∀k∈F,k∉G:=by simp)→A w1 F
structure Zi (w w1:World) (F F1:List Nat):Prop where
 upd:Zg F w w1
 new:∀k∈F1,k∈F∨w.heap.size≤k
def Zi.refl (w:World) (F:List Nat):Zi w w F F:=⟨Zg.refl _ _,fun k hk=> .inl hk⟩
def Zi.trans (h:Zi w w1 F F1) (g:Zi w1 w2 F1 F2):Zi w w2 F F2:=
 ⟨h.upd.trans g.upd (fun k hk=>by rcases h.new k hk with h1|h1<;>simp_all),fun k hk=>by
  rcases g.new k hk with h1|h1
  ·exact h.new k h1
  ·exact .inr (Xj h.upd.size h1)⟩
def YD.sep (A B:YD):YD:=fun w F=>∃F1 F2,F=F1++F2∧(∀k∈F1,k∉F2)∧A w F1∧B w F2
def YD.frame {B:YD} (hB:B.Local) {F F1 G:List Nat} (h:B w G) (hd:∀k∈F,k∉G) (hg:Zi w w1 F F1):B w1 G∧∀k∈F1,k∉G:=
 ⟨hB.upd h hg.upd (fun k hk hk2=>hd k hk2 hk),fun k hk hm=>by
  rcases hg.new k hk with h1|h1
  ·exact hd k h1 hm
  ·have:=hB.lt h k hm;omega⟩
def ZhJ (w:World) (A:Option Addr) (news:List Value):Prop:=∀j u,news[j]? =some u→∃ad,A=some ad∧w.cell? (ad.add j)=some u
theorem YW.cells {bs:List UInt8} (h:YW w A bs):ZhJ w A (bs.map B):=fun j u hj=>by
 rw[Xe]at hj
 obtain⟨x,hx,rfl⟩:=Option.map_eq_some_iff.1 hj
 obtain⟨ab,ao,rfl,hc⟩:=h j x hx
 exact⟨_,rfl,by rw[Go.Lk.add_plain];exact hc⟩
section
variable {P:Program} (w:World)
theorem Zhw (base:Nat) (t ty e:TypeId) (i:TypeInfo) (size:Nat) (ht:P.underlying t=some (.slice e)) (hi:P.info? e=some i)
  (v:Value) (n:Nat) (xs:List Value) (hown:w.ownsRow base e size v n xs) (c:Nat):(Builtin.append_ #[t,t] ty #[v, .slice none 0 c]).run P w= .ok v w:=by
 rcases hown.2 with⟨rfl,rfl⟩|⟨g,b,d,rfl,_,_,a,_⟩
 ·simp[Builtin.append_,run_underlying ht,sizeOf,typeInfo,hi,Builtin.lenOf,Builtin.firstCells]
 ·simp[Builtin.append_,run_underlying ht,sizeOf,typeInfo,hi,Builtin.lenOf,Builtin.firstCells,a,storeCells]
theorem Zim (base:Nat) (t ty e:TypeId) (i:TypeInfo) (z:Value) (size bytes:Nat) (ht:P.underlying t=some (.slice e)) (hi:P.info? e=some i) (hz:i.zero=some z)
  (hsize:i.size=size) (hby:i.bytes=bytes) (hzs:z.cells.size=size) (hsz:0<size)
  (v:Value) (n:Nat) (xs:List Value) (hown:w.ownsRow base e size v n xs)
  (A:Option Addr) (m c:Nat) (news:List Value) (hl:news.length=m*size) (hr:ZhJ w A news) (h1:∀u∈news,u.oneCell'=true)
  (h63:n+m≤maxLen) (hbytes:(n+m)*bytes≤140737488355328) (hbase:base≤w.heap.size):
  ∃v' w',(Builtin.append_ #[t,t] ty #[v, .slice A m c]).run P w= .ok v' w'∧w'.ownsRow base e size v' (n+m) (xs++news)∧w.grownBy w' v.ownBlock∧
   (v'.ownBlock=v.ownBlock∨v'.ownBlock=some w.heap.size):=by
 rcases A with _|a
 ·have s:m=0:=by
   rcases Nat.eq_zero_or_pos m with b|b
   ·exact b
   ·have p:0<news.length:=by rw[hl];exact Nat.mul_pos b hsz
    obtain⟨a,h,_⟩:=hr 0 news[0] (by simp[p])
    cases h
  subst s
  have k:news=[]:=List.eq_nil_of_length_eq_zero (by simpa using hl)
  subst k
  exact⟨v,w,Zhw w base t ty e i size ht hi v n xs hown c,by simpa using hown,World.grownBy.refl w _, .inl rfl⟩
 ·have d:∀j u,news[j]? =some u→w.cell? (a.add j)=some u:=by
   intro j u r
   obtain⟨x,h,o⟩:=hr j u r
   injection h with h
   subst h
   exact o
  obtain⟨v',w',f,l,q,_,g⟩:=run_append_own_at (P:=P) w base t ty e i z size bytes ht hi hz hsize hby hzs hsz v n xs hown a m c news hl d h1 h63 hbytes hbase
  exact⟨v',w',f,l,q,g⟩
theorem Zi5 {o:Oper} {a:Act} {K:Act→World→Prop} {Q:Exit→Act→World→Prop} (s x:Operand) (t:TypeId)
  (ho:o.op= .call {callee:= .builtin .append,args:= #[s,x],argTypes:= #[t,t]})
  (base:Nat) (e:TypeId) (i:TypeInfo) (z:Value) (size bytes:Nat) (ht:P.underlying t=some (.slice e)) (hi:P.info? e=some i) (hz:i.zero=some z)
  (hsize:i.size=size) (hby:i.bytes=bytes) (hzs:z.cells.size=size) (hsz:0<size)
  (v:Value) (n:Nat) (xs:List Value) (hs:a.eval s=v) (hown:w.ownsRow base e size v n xs)
  (A:Option Addr) (m c:Nat) (news:List Value) (hx:a.eval x= .slice A m c) (hl:news.length=m*size) (hr:ZhJ w A news) (h1:∀u∈news,u.oneCell'=true)
  (h63:n+m≤maxLen) (hbytes:(n+m)*bytes≤140737488355328) (hbase:base≤w.heap.size)
  (h:∀v' w',w'.ownsRow base e size v' (n+m) (xs++news)→w.grownBy w' v.ownBlock→(v'.ownBlock=v.ownBlock∨v'.ownBlock=some w.heap.size)→K (a.put o.dst v') w'):o.wp P a w K Q:=by
 obtain⟨v',w',b,f,g,d⟩:=Zim (P:=P) w base t o.type e i z size bytes ht hi hz hsize hby hzs hsz v n xs hown A m c news hl hr h1 h63 hbytes hbase
 unfold Oper.wp execOp
 simp only[ho,resolve,invoke,builtin,Sem.run_bind,Sem.run_pure,Result.andThen_ok,List.map_toArray,List.map_cons,List.map_nil,hs,hx,b]
 exact h v' w' f g d
theorem ZbH {ops:Array Oper} {rest:List Oper} {o:Oper} {a:Act} {Q:Exit→Act→World→Prop} (hgd:o.guard=none) (s x:Operand) (t:TypeId)
  (ho:o.op= .call {callee:= .builtin .append,args:= #[s,x],argTypes:= #[t,t]})
  (base:Nat) (e:TypeId) (i:TypeInfo) (z:Value) (size bytes:Nat) (ht:P.underlying t=some (.slice e)) (hi:P.info? e=some i) (hz:i.zero=some z)
  (hsize:i.size=size) (hby:i.bytes=bytes) (hzs:z.cells.size=size) (hsz:0<size)
  (v:Value) (n:Nat) (xs:List Value) (hs:a.eval s=v) (hown:w.ownsRow base e size v n xs)
  (A:Option Addr) (m c:Nat) (news:List Value) (hx:a.eval x= .slice A m c) (hl:news.length=m*size) (hr:ZhJ w A news) (h1:∀u∈news,u.oneCell'=true)
  (h63:n+m≤maxLen) (hbytes:(n+m)*bytes≤140737488355328) (hbase:base≤w.heap.size)
  (h:∀v' w',w'.ownsRow base e size v' (n+m) (xs++news)→w.grownBy w' v.ownBlock→(v'.ownBlock=v.ownBlock∨v'.ownBlock=some w.heap.size)→wpList P ops Q rest (a.put o.dst v') w'):wpList P ops Q (o::rest) a w:=
 wpList_plain hgd fun _ hK=>Zi5 w s x t ho base e i z size bytes ht hi hz hsize hby hzs hsz v n xs hs hown A m c news hx hl hr h1 h63 hbytes hbase fun v' w' h2 h3 h4=>hK _ _ (h v' w' h2 h3 h4)
end
abbrev Z8 (F G:List Nat):Prop:=∀k∈F,k∉G
def Z8.symm (h:Z8 F G):Z8 G F:=fun k hk hg=>h k hg hk
structure Lays (L:List YD) (w:World) (FS:List (List Nat)):Prop where
 len:FS.length=L.length
 lies:∀(i:Nat) (A:YD) (F:List Nat),L[i]? =some A→FS[i]? =some F→A w F
 apart:∀(i j:Nat) (F G:List Nat),FS[i]? =some F→FS[j]? =some G→i≠j→Z8 F G
def YE {FS:List (List Nat)} {k:Nat} (h:k∈FS.flatten):∃(i:Nat) (F:List Nat),FS[i]? =some F∧k∈F:=by
 obtain⟨F,a,b⟩:=List.mem_flatten.1 h
 obtain⟨i,c,rfl⟩:=List.getElem_of_mem a
 exact⟨i,_,Xa c,b⟩
def Zr {FS:List (List Nat)} {k i:Nat} (h:FS[i]? =some F) (hk:k∈F):k∈FS.flatten:=
 List.mem_flatten.2 ⟨F,Xc h,hk⟩
def Lays.lt {FS:List (List Nat)} (h:Lays L w FS) (hL:∀A∈L,A.Local):∀k∈FS.flatten,k<w.heap.size:=fun k hk=>by
 obtain⟨i,F,hi,hk⟩:=YE hk
 have hlt:i<L.length:=by rw[←h.len];exact(Jk hi)
 have hA:=Xa hlt
 exact(hL _ (Xc hA)).lt (h.lies i _ F hA hi) k hk
def Lays.upd {FS:List (List Nat)} (h:Lays L w FS) (hL:∀A∈L,A.Local) (hu:Zg G w w1) (hG:Z8 FS.flatten G):Lays L w1 FS:=
 ⟨h.len,fun i A F hA hF=>(hL A (Xc hA)).upd (h.lies i A F hA hF) hu (fun k hk=>hG k (Zr hF hk)),h.apart⟩
def Lays.step {FS:List (List Nat)} {i:Nat} {A1:YD} (h:Lays L w FS) (hL:∀A∈L,A.Local) (hF:FS[i]? =some F) (ha:A1 w1 F1) (hg:Zi w w1 F F1):
  Lays (L.set i A1) w1 (FS.set i F1)∧Zi w w1 FS.flatten (FS.set i F1).flatten:=by
 have g:=(Jk hF)
 have p:i<L.length:=by rw[←h.len];exact g
 have new:∀(j:Nat) (G:List Nat),FS[j]? =some G→i≠j→Z8 F1 G:=fun j G a b k c o=>by
  rcases hg.new k c with e|e
  ·exact h.apart i j F G hF a b k e o
  ·have:=h.lt hL k (Zr a o);omega
 refine⟨⟨by simp[h.len],fun j A G f a=> ?_,fun j l G H a d m=> ?_⟩,hg.upd.weaken (fun k c=> .inr (Zr hF c)),fun k c=> ?_⟩
 ·by_cases b:i=j
  ·subst b
   rw[List.getElem?_set_self p]at f;rw[List.getElem?_set_self g]at a
   cases f;cases a;exact ha
  ·rw[Xt b]at f a
   exact(hL A (Xc f)).upd (h.lies j A G f a) hg.upd (fun k c q=>h.apart i j F G hF a b k q c)
 ·by_cases b:i=j
  ·subst b
   rw[List.getElem?_set_self g]at a;cases a
   rw[Xt m]at d
   exact new l H d m
  ·rw[Xt b]at a
   by_cases n:i=l
   ·subst n
    rw[List.getElem?_set_self g]at d;cases d
    exact(new j G a b).symm
   ·rw[Xt n]at d
    exact h.apart j l G H a d m
 ·obtain⟨j,G,a,c⟩:=YE c
  by_cases b:i=j
  ·subst b
   rw[List.getElem?_set_self g]at a;cases a
   rcases hg.new k c with e|e
   ·exact .inl (Zr hF e)
   ·exact .inr e
  ·rw[Xt b]at a
   exact .inl (Zr a c)
def Lays.add {FS:List (List Nat)} {A1:YD} (h:Lays L w FS) (hL:∀A∈L,A.Local) (ha:A1 w1 F1) (hu:Zg [] w w1) (hn:∀k∈F1,w.heap.size≤k):
  Lays (L++[A1]) w1 (FS++[F1])∧Zi w w1 FS.flatten (FS++[F1]).flatten:=by
 have hd:∀(j:Nat) (G:List Nat),FS[j]? =some G→Z8 F1 G:=fun j G a k b f=>by
  have:=h.lt hL k (Zr a f);have:=hn k b;omega
 have get:∀(j:Nat) (G:List Nat),(FS++[F1])[j]? =some G→FS[j]? =some G∨(j=FS.length∧G=F1):=fun j G a=>by
  rcases Nat.lt_trichotomy j FS.length with d|d|d
  ·rw[List.getElem?_append_left d]at a;exact .inl a
  ·subst d
   rw[List.getElem?_append_right (Xi _)]at a
   right;simpa using a.symm
  ·rw[List.getElem?_eq_none (by simp;omega)]at a;cases a
 refine⟨⟨by simp[h.len],fun j A G c a=> ?_,fun j l G H a m g=> ?_⟩,hu.weaken (fun k b=>by cases b),fun k b=> ?_⟩
 ·rcases get j G a with e|⟨rfl,rfl⟩
  ·have d:=(Jk e)
   rw[List.getElem?_append_left (by rw[←h.len];exact d)]at c
   exact(hL A (Xc c)).upd (h.lies j A G c e) hu (fun k b f=>by cases f)
  ·rw[h.len,List.getElem?_append_right (Xi _)]at c
   simp at c;subst c;exact ha
 ·rcases get j G a with e|⟨rfl,rfl⟩<;>rcases get l H m with i|⟨rfl,rfl⟩
  ·exact h.apart j l G H e i g
  ·exact(hd j G e).symm
  ·exact hd l H i
  ·exact absurd rfl g
 ·simp only[List.flatten_append,List.mem_append,List.flatten_cons,List.flatten_nil,List.append_nil]at b
  rcases b with b|b
  ·exact .inl b
  ·exact .inr (hn k b)
def Zai {α:Type} (l:List α) (i j:Nat):(l.eraseIdx i)[j]? =l[if j<i then j else j+1]? :=by
 rw[List.getElem?_eraseIdx];split<;>rfl
def Lays.drop {FS:List (List Nat)} (i:Nat) (h:Lays L w FS):Lays (L.eraseIdx i) w (FS.eraseIdx i)∧∀k∈(FS.eraseIdx i).flatten,k∈FS.flatten:=by
 refine⟨⟨by simp[List.length_eraseIdx,h.len],fun j A F d a=> ?_,fun j l F G a b g=> ?_⟩,fun k c=> ?_⟩
 ·rw[Zai]at d a;exact h.lies _ A F d a
 ·rw[Zai]at a b
  refine h.apart _ _ F G a b ?_
  by_cases f:j<i<;>by_cases e:l<i<;>simp only[f,e,if_true,if_false]<;>omega
 ·obtain⟨j,G,b,c⟩:=YE c
  rw[Zai]at b
  exact Zr b c
def Lays.nil (w:World):Lays [] w []:=⟨rfl,fun i A F h=>by simp at h,fun i j F G h=>by simp at h⟩
def YD.list (L:List YD):YD:=fun w F=>∃FS,F=FS.flatten∧Lays L w FS
def YD.list_local {L:List YD} (hL:∀A∈L,A.Local):(YD.list L).Local where
 lt:=by rintro w F ⟨FS,rfl,h⟩;exact h.lt hL
 upd:=by rintro w w1 F G ⟨FS,rfl,h⟩ hu hF;exact⟨FS,rfl,h.upd hL hu hF⟩
def YD.list_get (h:YD.list L w F) {i:Nat} (hi:L[i]? =some A):
  ∃FS G,F=FS.flatten∧Lays L w FS∧FS[i]? =some G∧A w G∧∀k∈G,k∈F:=by
 obtain⟨FS,rfl,h⟩:=h
 have b:i<FS.length:=by rw[h.len];exact(Jk hi)
 have a:=Xa b
 exact⟨FS,_,rfl,h,a,h.lies i A _ hi a,fun k c=>Zr a c⟩
def YD.list_step {L:List YD} (hL:∀A∈L,A.Local) (h:YD.list L w F) {i:Nat} (hi:L[i]? =some A):
  ∃G,A w G∧(∀k∈G,k∈F)∧∀w1 A1 G1,A1 w1 G1→Zi w w1 G G1→∃F1,YD.list (L.set i A1) w1 F1∧Zi w w1 F F1:=by
 obtain⟨f,G,rfl,h,d,ha,a⟩:=YD.list_get h hi
 refine⟨G,ha,a,fun w1 A1 G1 e hg=> ?_⟩
 obtain⟨b,c⟩:=h.step hL d e hg
 exact⟨_,⟨_,rfl,b⟩,c⟩
def Zi.drop {F F1 F2:List Nat} (h:Zi w w1 F F1) (h2:∀k∈F2,k∈F1):Zi w w1 F F2:=⟨h.upd,fun k hk=>h.new k (h2 k hk)⟩
def Zi.of_upd (h:Zg F w w1):Zi w w1 F F:=⟨h,fun k hk=> .inl hk⟩
def Zg.trans_of' (h:Zg F a w) (k:Zg [] w w'):Zg F a w':=h.trans k (fun x hx=>by cases hx)
def Zaz (b:Nat) (cs:Array Value) (T:TypeId):YD:=fun w F=>F=[b]∧w.heap[b]? =some (.cells cs T (0,0))
def ZcP (b:Nat) (cs:Array Value) (T:TypeId):(Zaz b cs T).Local where
 lt:=by rintro w F ⟨rfl,h⟩ k hk;rw[Jm hk];exact(Jg h)
 upd:=by rintro w w1 F G ⟨rfl,h⟩ hu hF;exact⟨rfl,(Kv hu h (hF b (by simp)))⟩
def Zk (e:TypeId) (k:Nat) (v:Value) (xs:List (List Value)):YD:=fun w F=>F=v.ownBlock.toList∧(∀c∈xs,c.length=k)∧w.ownsRow 0 e k v xs.length xs.flatten
def Zc (e:TypeId) (k:Nat) (v:Value) (xs:List (List Value)):(Zk e k v xs).Local where
 lt:=by
  rintro w F ⟨rfl,_,h⟩ b a
  exact Zr7 h b (by simpa[Option.mem_toList]using a)
 upd:=by
  rintro w g F G ⟨rfl,d,h⟩ f c
  exact⟨rfl,d,ZrD h f (fun b a=>c b (by simp[a]))⟩
def ZA (e:TypeId) (k:Nat) (w:World):Zk e k (.slice none 0 0) [] w []:=⟨rfl,by simp,by simp, .inl ⟨rfl,rfl⟩⟩
def Zk.form {xs:List (List Value)} (h:Zk e k v xs w F):(v= .slice none 0 0∧xs=[]∧F=[])∨
  ∃g cap cur,v= .slice (some ⟨g,0,none⟩) xs.length cap∧F=[g]∧w.heap[g]? =some (.cells cur e (0,0))∧xs.length≤cap∧cap≤maxLen∧cur.size=cap*k∧cur.toList.take (xs.length*k)=xs.flatten:=by
 obtain⟨rfl,c,b,h⟩:=h
 rcases h with⟨rfl,a⟩|⟨g,cap,cur,rfl,_,h⟩
 ·exact .inl ⟨rfl,List.eq_nil_of_length_eq_zero a,rfl⟩
 ·exact .inr ⟨g,cap,cur,rfl,rfl,h⟩
theorem Zc7 {k:Nat}:∀{xs:List (List Value)} (hk:∀c∈xs,c.length=k) (j i:Nat) (c:List Value) (u:Value),xs[j]? =some c→c[i]? =some u→xs.flatten[j*k+i]? =some u
 |[],_,j,i,c,u,h,_=>by simp at h
 |x::xs,hk,0,i,c,u,h,hu=>by
  simp only[Xg,Option.some.injEq]at h;subst h
  rw[List.flatten_cons,Nat.zero_mul,Nat.zero_add,List.getElem?_append_left (Jk hu)];exact hu
 |x::xs,hk,j+1,i,c,u,h,hu=>by
  have hx:=hk x (by simp)
  rw[List.flatten_cons,List.getElem?_append_right (by rw[hx,Nat.succ_mul];omega),hx,show(j+1)*k+i-k=j*k+i by rw[Nat.succ_mul];omega]
  exact Zc7 (fun c hc=>hk c (by simp[hc])) j i c u (by simpa using h) hu
def Zk.cell {xs:List (List Value)} (h:Zk e k v xs w F) {j i:Nat} (hj:xs[j]? =some c) (hi:c[i]? =some u):
  ∃g cap,v= .slice (some ⟨g,0,none⟩) xs.length cap∧xs.length≤cap∧w.cell? ⟨g,j*k+i,none⟩=some u:=by
 rcases h.form with⟨rfl,rfl,_⟩|⟨g,cap,f,rfl,_,b,d,_,l,ht⟩
 ·simp at hj
 ·refine⟨g,cap,rfl,d,Zf b ?_⟩
  have a:=Zc7 h.2.1 j i c u hj hi
  rw[←ht,List.getElem?_take]at a
  split at a
  ·simpa using a
  ·cases a
def Zax {α:Type} (l:List α) (o:Nat) (vs:List α):List α:=l.take o++vs++l.drop (o+vs.length)
def Zbz {α:Type} (l:List α) (o:Nat) (vs:List α) (h:o+vs.length≤l.length):(Zax l o vs).length=l.length:=by
 unfold Zax;simp;omega
def ZjW {α:Type} (l:List α) (o:Nat) (vs:List α) (h:o≤l.length):(Zax l o vs).take o=l.take o:=by
 unfold Zax
 rw[List.append_assoc,List.take_append_of_le_length (by simp;omega),List.take_take,Nat.min_self]
def Zps {α:Type} (l:List α) (o:Nat) (v:α) (vs:List α) (h:o+(v::vs).length≤l.length):Zax (l.set o v) (o+1) vs=Zax l o (v::vs):=by
 simp only[List.length_cons]at h
 unfold Zax
 have ho:o<l.length:=by omega
 apply List.ext_getElem?
 intro j
 simp only[List.getElem?_append,Xd,List.length_take,List.length_set,List.getElem?_take,List.getElem?_drop,List.length_cons,List.getElem?_set]
 by_cases b:j<o
 ·rw[if_pos (by omega),if_pos (by omega),if_pos (by omega),if_neg (by omega),if_pos (by omega),if_pos (by omega),if_pos b]
 ·by_cases a:j=o
  ·subst a
   rw[if_pos (by omega),if_pos (by omega),if_pos (by omega),if_pos rfl,if_pos ho,if_pos (by omega),if_neg (by omega),Nat.min_eq_left (by omega),Nat.sub_self];rfl
  ·by_cases c:j<o+1+vs.length
   ·rw[if_pos (by omega),if_neg (by omega),if_pos (by omega),if_neg (by omega),show j-min o l.length=(j-min (o+1) l.length)+1 by omega,Xf]
   ·rw[if_neg (by omega),if_neg (by omega),if_neg (by omega),show o+1+vs.length+(j-(min (o+1) l.length+vs.length))=o+(vs.length+1)+(j-(min o l.length+(vs.length+1)))by omega]
theorem ZaH {g:Nat} {fr:Nat×Nat}:∀(vs:List Value) (o:Nat) (w:World) (cur:Array Value),w.heap[g]? =some (.cells cur e fr)→o+vs.length≤cur.size→
  (w.setCells g o vs).heap[g]? =some (.cells (Zax cur.toList o vs).toArray e fr)
 |[],o,w,cur,h,_=>by simp[World.setCells,Zax,h]
 |v::vs,o,w,cur,h,hs=>by
  rw[World.setCells]
  have h1:=Zd (i:=o) h v
  rw[ZaH vs (o+1) _ _ h1 (by simp at hs⊢;omega)]
  rw[Array.toList_setIfInBounds,Zps _ _ _ _ (by simpa using hs)]
def Zg.setCells {g:Nat} (h:Zg F a w) (hg:a.heap.size≤g∨g∈F):∀(vs:List Value) (o:Nat),Zg F a (w.setCells g o vs)
 |[],o=>h
 |v::vs,o=>by rw[World.setCells];exact(h.setCell hg v).setCells hg vs (o+1)
theorem Yn {k:Nat}:∀{xs:List (List Value)} (hk:∀c∈xs,c.length=k),xs.flatten.length=xs.length*k
 |[],_=>by simp
 |x::xs,hk=>by
  rw[List.flatten_cons,Xd,hk x (by simp),Yn (fun c hc=>hk c (by simp[hc])),List.length_cons,Nat.succ_mul];omega
theorem Zd5 {k:Nat}:∀{xs:List (List Value)} (hk:∀c∈xs,c.length=k) (i:Nat),xs.flatten.take (i*k)=(xs.take i).flatten
 |[],_,i=>by simp
 |x::xs,hk,0=>by simp
 |x::xs,hk,i+1=>by
  have hx:=hk x (by simp)
  rw[List.flatten_cons,List.take_succ_cons,List.flatten_cons,List.take_append,List.take_of_length_le (by rw[hx,Nat.succ_mul];omega),hx,show(i+1)*k-k=i*k by rw[Nat.succ_mul];omega,
   Zd5 (fun c hc=>hk c (by simp[hc])) i]
theorem Zf8 {k:Nat}:∀{xs:List (List Value)} (hk:∀c∈xs,c.length=k) (i:Nat),xs.flatten.drop (i*k)=(xs.drop i).flatten
 |[],_,i=>by simp
 |x::xs,hk,0=>by simp
 |x::xs,hk,i+1=>by
  have hx:=hk x (by simp)
  rw[List.flatten_cons,List.drop_succ_cons,List.drop_append,List.drop_of_length_le (by rw[hx,Nat.succ_mul];omega),hx,show(i+1)*k-k=i*k by rw[Nat.succ_mul];omega,
   Zf8 (fun c hc=>hk c (by simp[hc])) i,List.nil_append]
def Zm5 {k g cap i:Nat} {xs:List (List Value)} {w W2:World} (h:Zk e k (.slice (some ⟨g,0,none⟩) xs.length cap) xs w F) (hi:i<xs.length) (q:Nat) (zs:List Value) (hz:zs.length=k)
  (hW:W2=((w.drewN q).setCells g (i*k) (xs.drop (i+1)).flatten).setCells g ((xs.length-1)*k) zs):
  Zk e k (.slice (some ⟨g,0,none⟩) (xs.length-1) cap) (xs.eraseIdx i) W2 [g]∧Zg [g] w W2:=by
 have j:=h.2.1
 rcases h.form with⟨a,_⟩|⟨N,I,d,a,_,G,b,H,A,ht⟩
 ·cases a
 injection a with a _ C
 injection a with a;injection a with a
 subst a C
 have K:=Yn j
 have hd:(xs.drop (i+1)).flatten.length=(xs.length-(i+1))*k:=by
  rw[Yn (fun c b=>j c (List.mem_of_mem_drop b)),List.length_drop]
 obtain⟨m,x⟩:∃m,xs.length=i+1+m:=⟨xs.length-(i+1),by omega⟩
 have J:xs.length*k≤cap*k:=Nat.mul_le_mul_right k b
 have O:xs.length*k=i*k+k+m*k:=by rw[x,Nat.add_mul,Nat.add_mul,Nat.one_mul]
 have L:(xs.length-1)*k=i*k+m*k:=by rw[show xs.length-1=i+m by omega,Nat.add_mul]
 have M:(xs.length-(i+1))*k=m*k:=by rw[show xs.length-(i+1)=m by omega]
 have z:(w.drewN q).heap[g]? =some (.cells d e (0,0)):=G
 have r:=ZaH (xs.drop (i+1)).flatten (i*k) (w.drewN q) d z (by rw[hd];omega)
 have o:∀c∈xs.eraseIdx i,c.length=k:=fun c b=>j c (List.mem_of_mem_eraseIdx b)
 have l:(xs.eraseIdx i).length=xs.length-1:=List.length_eraseIdx_of_lt hi
 obtain⟨s,n⟩:=Je (Zax d.toList (i*k) (xs.drop (i+1)).flatten)
 have f:s.length=cap*k:=by rw[n,Zbz _ _ _ (by rw[hd];simp;omega)];simpa using A
 have E:s.take ((xs.length-1)*k)=(xs.eraseIdx i).flatten:=by
  have y:(xs.eraseIdx i).flatten=xs.flatten.take (i*k)++(xs.drop (i+1)).flatten:=by
   rw[Zd5 j,List.eraseIdx_eq_take_drop_succ,List.flatten_append]
  rw[y,n]
  unfold Zax
  have t:(d.toList.take (i*k)).length=i*k:=by rw[List.length_take];simp;omega
  rw[List.take_append_of_le_length (by rw[Xd,t,hd];omega),List.take_of_length_le (by rw[Xd,t,hd];omega)]
  congr 1
  rw[←ht,List.take_take,Nat.min_eq_left (by omega)]
 rw[←n]at r
 have p:=ZaH zs ((xs.length-1)*k) _ _ r (by rw[List.size_toArray,f,hz];omega)
 rw[←hW]at p
 refine⟨⟨rfl,o,?_, .inr ⟨g,cap,_,by rw[l],Xn _,p,by rw[l];omega,H,?_,?_⟩⟩,?_⟩
 ·rw[Yn o]
 ·rw[List.size_toArray,Zbz _ _ _ (by rw[f,hz];omega),f]
 ·rw[l,ZjW _ _ _ (by rw[f];omega),E]
 ·rw[hW]
  exact(((Zg.refl [g] w).drewN q).setCells (.inr (by simp)) _ _).setCells (.inr (by simp)) _ _
def Zgq {α:Type} (l:List α) (o:Nat) (vs:List α) (h:o+vs.length≤l.length) (j:Nat):(Zax l o vs)[j]? =if o≤j∧j<o+vs.length then vs[j-o]? else l[j]? :=by
 unfold Zax
 simp only[List.getElem?_append,Xd,List.length_take,List.getElem?_take,List.getElem?_drop]
 by_cases b:j<o
 ·rw[if_pos (by omega),if_pos (by omega),if_pos (by omega),if_neg (by omega)]
 ·by_cases a:j<o+vs.length
  ·rw[if_pos (by omega),if_neg (by omega),if_pos (by omega),Nat.min_eq_left (by omega)]
  ·rw[if_neg (by omega),if_neg (by omega),Nat.min_eq_left (by omega),show o+vs.length+(j-(o+vs.length))=j by omega]
theorem Zg7 {k:Nat}:∀{xs:List (List Value)} (hk:∀c∈xs,c.length=k) (i:Nat) (cs:List Value) (hc:cs.length=k) (hi:i<xs.length),(xs.set i cs).flatten=Zax xs.flatten (i*k) cs
 |[],_,i,cs,_,hi=>by simp at hi
 |x::xs,hk,0,cs,hc,_=>by
  have hx:=hk x (by simp)
  unfold Zax
  simp[hc,←hx]
 |x::xs,hk,i+1,cs,hc,hi=>by
  have hx:=hk x (by simp)
  have ih:=Zg7 (fun c hc=>hk c (List.mem_cons_of_mem _ hc)) i cs hc (by simpa using hi)
  rw[List.set_cons_succ,List.flatten_cons,List.flatten_cons,ih]
  unfold Zax
  rw[show(i+1)*k=x.length+i*k by rw[hx,Nat.succ_mul];omega,List.take_length_add_append,Nat.add_assoc,List.drop_length_add_append]
  simp
def Zoo {α:Type} (l:List α) (o m:Nat) (vs:List α) (h:o+vs.length≤m) (hm:m≤l.length):(Zax l o vs).take m=Zax (l.take m) o vs:=by
 apply List.ext_getElem?
 intro j
 rw[List.getElem?_take,Zgq _ _ _ (by omega),Zgq _ _ _ (by rw[List.length_take];omega),List.getElem?_take]
 by_cases a:j<m
 ·rw[if_pos a,if_pos a]
 ·rw[if_neg a,if_neg a,if_neg (by omega)]
def ZfM {k g n cap i:Nat} {xs:List (List Value)} {cs:List Value} (h:Zk e k (.slice (some ⟨g,0,none⟩) n cap) xs w F) (hi:i<xs.length) (hc:cs.length=k):
  ∃cur,w.heap[g]? =some (.cells cur e (0,0))∧i*k+cs.length≤cur.size∧∀w1,w1.heap[g]? =some (.cells (Zax cur.toList (i*k) cs).toArray e (0,0))→Zk e k (.slice (some ⟨g,0,none⟩) n cap) (xs.set i cs) w1 F:=by
 have l:=h.2.1
 rcases h.form with⟨a,_⟩|⟨z,t,cur,a,y,r,f,b,j,ht⟩
 ·cases a
 injection a with a p q
 injection a with a;injection a with a
 subst a q p
 have x:xs.length*k≤cap*k:=Nat.mul_le_mul_right k f
 have m:i*k+k≤xs.length*k:=by rw[←Nat.succ_mul];exact Nat.mul_le_mul_right k hi
 refine⟨cur,r,by rw[hc,j];omega,fun w1 s=> ?_⟩
 have d:∀c∈xs.set i cs,c.length=k:=fun c b=>by
  rcases List.mem_or_eq_of_mem_set b with o|rfl
  ·exact l c o
  ·exact hc
 refine⟨h.1,d,by rw[Yn d], .inr ⟨g,cap,_,by rw[List.length_set],Xn _,s,by rw[List.length_set];exact f,b,?_,?_⟩⟩
 ·rw[List.size_toArray,Zbz _ _ _ (by rw[hc];simp;omega)];simpa using j
 ·simp only[List.toList_toArray]
  rw[List.length_set,Zoo _ _ _ _ (by rw[hc];exact m) (by simp;omega),ht,Zg7 l i cs hc hi]
def ZcY {k g n cap i j:Nat} {xs:List (List Value)} (h:Zk e k (.slice (some ⟨g,0,none⟩) n cap) xs w F) (hi:xs[i]? =some c) (hj:j<k) (u:Value):
  Zk e k (.slice (some ⟨g,0,none⟩) n cap) (xs.set i (c.set j u)) (w.setCell ⟨g,i*k+j,none⟩ u) F∧w.frozen? ⟨g,i*k+j,none⟩=false:=by
 have y:=(Jk hi)
 have f:=h.2.1 c (Xc hi)
 obtain⟨o,l,p,x⟩:=ZfM (cs:=c.set j u) h y (by rw[List.length_set];exact f)
 refine⟨x _ ?_,ZS l⟩
 rw[Zd l]
 rw[List.length_set,f]at p
 congr 2
 rw[←Array.toArray_toList (xs:=o.setIfInBounds _ _),Array.toList_setIfInBounds]
 congr 1
 apply List.ext_getElem?
 intro t
 rw[Zgq _ _ _ (by rw[List.length_set,f];simpa using p),List.getElem?_set,List.length_set,f]
 by_cases r:i*k≤t∧t<i*k+k
 ·rw[if_pos r,List.getElem?_set]
  by_cases q:i*k+j=t
  ·rw[if_pos q,if_pos (by simp;omega),if_pos (by omega),if_pos (by omega)]
  ·rw[if_neg q,if_neg (by omega)]
   have s:o.toList[t]? =c[t-i*k]? :=by
    have m:t-i*k<c.length:=by omega
    have d:=Zc7 h.2.1 i (t-i*k) c c[t-i*k] hi (Xa m)
    rcases h.form with⟨a,_⟩|⟨H,A,C,a,_,b,E,_,G,z⟩
    ·cases a
    injection a with a _ _
    injection a with a;injection a with a;subst a
    rw[l]at b;injection b with b;injection b with b;subst b
    rw[←z,List.getElem?_take]at d
    split at d
    ·rw[show i*k+(t-i*k)=t by omega]at d
     rw[d,Xa m]
    ·cases d
   rw[s]
 ·rw[if_neg r,if_neg (by omega)]
def Zgp {k g n cap i:Nat} {xs:List (List Value)} {w W2:World} (h:Zk e k (.slice (some ⟨g,0,none⟩) n cap) xs w F) (hi:i≤xs.length) (zs:List Value) (hz:i*k+zs.length≤cap*k)
  (hW:W2=w.setCells g (i*k) zs):Zk e k (.slice (some ⟨g,0,none⟩) i cap) (xs.take i) W2 F:=by
 have l:=h.2.1
 rcases h.form with⟨a,_⟩|⟨C,y,o,a,A,t,p,x,j,ht⟩
 ·cases a
 injection a with a q s
 injection a with a;injection a with a
 subst a s q
 have z:xs.length*k≤cap*k:=Nat.mul_le_mul_right k p
 have m:i*k≤xs.length*k:=Nat.mul_le_mul_right k hi
 have f:=ZaH zs (i*k) w o t (by rw[j];exact hz)
 rw[←hW]at f
 have d:∀c∈xs.take i,c.length=k:=fun c r=>l c (List.mem_of_mem_take r)
 have b:(xs.take i).length=i:=by rw[List.length_take];omega
 refine⟨h.1,d,by rw[Yn d], .inr ⟨g,cap,_,by rw[b],Xn _,f,by rw[b];omega,x,?_,?_⟩⟩
 ·rw[List.size_toArray,Zbz _ _ _ (by simp;omega)];simpa using j
 ·simp only[List.toList_toArray]
  rw[b,ZjW _ _ _ (by simp;omega),←Zd5 l,←ht,List.take_take,Nat.min_eq_left m]
def Zcs {zs:List Value} (n:Nat) (hz:0<zs.length) (h1:∀v∈zs,v.oneCell'=true):(Builtin.zeroCells zs.toArray n).toList.length=n*zs.length∧∀v∈(Builtin.zeroCells zs.toArray n).toList,v.oneCell'=true:=by
 refine⟨by simp[Builtin.zeroCells],fun v hv=> ?_⟩
 simp only[Builtin.zeroCells,Array.toList_map,List.mem_map]at hv
 obtain⟨i,_,rfl⟩:=hv
 have a:i%zs.length<zs.length:=Nat.mod_lt _ hz
 have:zs.toArray.getD (i%zs.toArray.size) undef=zs[i%zs.length]:=by simp[a]
 first
 |(simp only[List.size_toArray,List.getElem!_toArray]at*;rw[getElem!_pos zs _ a];exact h1 _ (List.getElem_mem _))
 |(rw[this];exact h1 _ (List.getElem_mem _))
def Zbo {P:Program} (w:World) (t e ty:TypeId) (z:Value) (zs:List Value) (ht:P.underlying t=some (.slice e)) (hv:∀w,(zeroValue e).run P w= .ok z w) (b o n c:Nat) (hn:0<n)
  (hzc:(Builtin.zeroCells z.cells n).toList=zs) (h1:∀v∈zs,v.oneCell'=true)
  (hc:∀j,j<zs.length→(w.cell? ⟨b,o+j,none⟩).isSome=true) (hf:∀j,j<zs.length→w.frozen? ⟨b,o+j,none⟩=false):
  (Builtin.clear_ #[t] ty #[.slice (some ⟨b,o,none⟩) n c]).run P w= .ok (.tuple #[]) (w.setCells b o zs):=by
 have a:=run_storeCells_cells (P:=P) b o zs 0 w (by simpa using hc) (by simpa using hf) h1
 simp only[Nat.add_zero]at a
 obtain⟨m,rfl⟩:∃m,n=m+1:=⟨n-1,by omega⟩
 simp[Builtin.clear_,run_underlying ht,hv,hzc,a]
def Zb (w:World) (b o:Nat) (cs:List Value):Prop:=∀(j:Nat) v,cs[j]? =some v→w.cell? ⟨b,o+j,none⟩=some v
theorem Zb.of_block {w:World} {b:Nat} {cs:List Value} {fr:Nat×Nat} (h:w.heap[b]? =some (.cells cs.toArray T fr)):Zb w b 0 cs:=fun j v hj=>
 Zf h (by simpa using hj)
theorem Zb.upd {cs:List Value} (h:Zb w b o cs) (hu:Zg F w w1) (hb:b∉F:=by simp):Zb w1 b o cs:=fun j v hj=>by
 have hc:=h j v hj
 exact(Xp (hu.block b (Xo _ _ hc) hb)).trans hc
def Zu (P:Program) (t:TypeId) (n:Nat):Bool:=(match P.underlying t with|some (.struct _)=>true|some (.array _ _)=>true|_=>false)&&(P.info? t).map (·.size)==some n
theorem Zg.setRow (h:Zg F a w) {b:Nat} (hp:a.heap.size≤b∨b∈F) (cs:Array Value):Zg F a (w.setRow b cs):=
 ⟨h.os,h.tape,h.output,by rw[setRow_size];exact h.size,fun x hx hF=>by
  rw[setRow_other _ _ _ _ (by rintro rfl;rcases hp with h'|h'<;>first|omega|exact hF h')];exact h.block x hx hF⟩
section
variable {P:Program} (w:World)
theorem Zu.agg (h:Zu P t n=true) (W:World):(isAgg t).run P W= .ok true W:=by
 unfold Zu at h
 unfold isAgg
 cases hu:P.underlying t with
 |none=>simp[hu]at h
 |some d=>
  rw[hu]at h
  rw[Sem.run_bind,run_underlying hu]
  cases d<;>simp_all
theorem Zu.size (h:Zu P t n=true) (W:World):(sizeOf t).run P W= .ok n W:=by
 unfold Zu at h
 simp only[Bool.and_eq_true,beq_iff_eq]at h
 cases hq:P.info? t with
 |none=>simp[hq]at h
 |some i=>
  have:=h.2
  rw[hq]at this
  simp only[Option.map_some,Option.some.injEq]at this
  subst this
  simp[sizeOf,typeInfo,hq]
theorem Yg {cs:List Value} (ht:Zu P t cs.length=true) (hb:Zb w b o cs):
  (Instr.loadAt t (.pointer (some ⟨b,o,none⟩))).run P w= .ok (.agg cs.toArray) w:=by
 simp only[Instr.loadAt,Instr.sureAddr,Sem.run_bind,Sem.run_pure,Result.andThen,loadVar,Zu.agg ht,Zu.size ht,if_true]
 rw[run_loadCells_list w ⟨b,o,none⟩ cs (fun j v a=>by rw[Go.Lk.add_plain];exact hb j v a)]
theorem ZX {ops:Array Oper} {rest:List Oper} {o:Oper} {a:Act} {Q:Exit→Act→World→Prop} (hgd:o.guard=none) (t:TypeId) (x:Operand) (ho:o.op= .load t x)
  (b of:Nat) (cs:List Value) (hx:a.eval x= .pointer (some ⟨b,of,none⟩)) (ht:Zu P t cs.length=true) (hb:Zb w b of cs)
  (h:wpList P ops Q rest (a.put o.dst (.agg cs.toArray)) w):wpList P ops Q (o::rest) a w:=
 wpList_plain hgd fun K hK=>by
  unfold Oper.wp execOp
  simp only[ho,Sem.run_bind,Sem.run_pure,Result.andThen_ok,hx,Yg w ht hb]
  exact hK _ _ h
theorem Zaw {ops:Array Oper} {rest:List Oper} {o:Oper} {a:Act} {Q:Exit→Act→World→Prop} (hgd:o.guard=none) (t:TypeId) (x y:Operand) (ho:o.op= .store t x y)
  (b:Nat) (cs old:Array Value) (T:TypeId) (hx:a.eval x= .pointer (some ⟨b,0,none⟩)) (hy:a.eval y= .agg cs) (ht:Zu P t cs.size=true) (hb:w.heap[b]? =some (.cells old T (0,0)))
  (hs:old.size=cs.size) (h1:cs.all (·.oneCell')=true)
  (h:wpList P ops Q rest (a.put o.dst undef) (w.setRow b cs)):wpList P ops Q (o::rest) a w:=
 wpList_plain hgd fun K hK=>by
  unfold Oper.wp execOp
  have hz:(P.info? t).map (·.size)=some cs.size:=by
   have:=ht
   unfold Zu at this
   simp only[Bool.and_eq_true,beq_iff_eq]at this
   exact this.2
  have c:=run_storeVar_row (P:=P) w b T t old cs hb hz hs h1
  simp only[ho,Sem.run_bind,Sem.run_pure,Result.andThen_ok,hx,hy,Instr.storeAt,Instr.sureAddr,c]
  exact hK _ _ h
theorem Zc9 {ops:Array Oper} {rest:List Oper} {o:Oper} {a:Act} {Q:Exit→Act→World→Prop} (hgd:o.guard=none) (t:TypeId) (x y:Operand) (ho:o.op= .store t x y)
  (b of:Nat) (cs old:Array Value) (T:TypeId) (hx:a.eval x= .pointer (some ⟨b,of,none⟩)) (hy:a.eval y= .agg cs) (ht:Zu P t cs.size=true) (hb:w.heap[b]? =some (.cells old T (0,0)))
  (hs:of+cs.size≤old.size) (h1:cs.all (·.oneCell')=true)
  (h:wpList P ops Q rest (a.put o.dst undef) (w.setRow b (old.toList.take of++cs.toList++old.toList.drop (of+cs.size)).toArray)):wpList P ops Q (o::rest) a w:=
 wpList_plain hgd fun K hK=>by
  unfold Oper.wp execOp
  have hr:=run_storeCells_at (P:=P) b of T cs.toList 0 old w hb (by simpa using hs) (fun v hv=>(Array.all_eq_true_iff_forall_mem.1 h1) v (by simpa using hv))
  simp only[Nat.add_zero,Array.length_toList]at hr
  have hz:=Zu.size ht w
  have hv:(storeVar t ⟨b,of,none⟩ (.agg cs)).run P w= .ok () (w.setRow b (old.toList.take of++cs.toList++old.toList.drop (of+cs.size)).toArray):=by
   simp only[storeVar,Sem.run_bind,hz,Result.andThen_ok,Value.cells,ne_eq,not_true_eq_false,if_false]
   exact hr
  simp only[ho,Sem.run_bind,Sem.run_pure,Result.andThen_ok,hx,hy,Instr.storeAt,Instr.sureAddr,hv]
  exact hK _ _ h
theorem Zw {fn:Func} {tmps:Array Value} {cs:List Value} {b o:Nat} (hf:fn.results= #[.cell x t]) (hx:tmps.getD x undef= .pointer (some ⟨b,o,none⟩)) (ht:Zu P t cs.length=true) (hb:Zb w b o cs):
  (results fn tmps).run P w= .ok (.agg cs.toArray) w:=by
 have a:=Yg w ht hb
 simp only[Instr.loadAt,Instr.sureAddr,Sem.run_bind,Sem.run_pure,Result.andThen_ok]at a
 have c:tmps[x]?.getD undef= .pointer (some ⟨b,o,none⟩):=by simpa using hx
 unfold results
 simp[hf,c,asAddr,a]
theorem Zj {fn:Func} {tmps:Array Value} {cs:List Value} {b o:Nat} {v:Value} (hf:fn.results= #[.cell x t, .tmp y]) (hx:tmps.getD x undef= .pointer (some ⟨b,o,none⟩)) (hy:tmps.getD y undef=v) (ht:Zu P t cs.length=true) (hb:Zb w b o cs):
  (results fn tmps).run P w= .ok (.tuple #[.agg cs.toArray,v]) w:=by
 have a:=Yg w ht hb
 simp only[Instr.loadAt,Instr.sureAddr,Sem.run_bind,Sem.run_pure,Result.andThen_ok]at a
 have d:tmps[x]?.getD undef= .pointer (some ⟨b,o,none⟩):=by simpa using hx
 have c:tmps[y]?.getD undef=v:=by simpa using hy
 unfold results
 simp[hf,d,c,asAddr,a]
end
section
variable {P:Program} {w:World}
theorem Jl {ops:Array Oper} {rest:List Oper} {o:Oper} {a:Act} {Q:Exit→Act→World→Prop} {x:Operand} {b of:Nat} {cs:List Value} (hb:Zb w b of cs) (ht:Zu P t cs.length=true)
 (h:wpList P ops Q rest (a.put o.dst (.agg cs.toArray)) w) (hgd:o.guard=none:=by rfl) (ho:o.op= .load t x:=by rfl) (hx:a.eval x= .pointer (some ⟨b,of,none⟩):=by rfl):wpList P ops Q (o::rest) a w:=ZX w hgd t x ho b of cs hx ht hb h
theorem Js {ops:Array Oper} {rest:List Oper} {o:Oper} {a:Act} {Q:Exit→Act→World→Prop} {x:Operand} {b of:Nat} {cs:List Value} (hb:Zb w b of cs) (ht:Zu P t cs.length=true)
 (h:wpList P ops Q rest (a.put o.dst (.agg cs.toArray)) w) (hgd:o.guard=none:=by rfl) (ho:o.op= .load t x:=by rfl) (hx:a.eval x= .pointer (some ⟨b,of,none⟩):=by simp[Act.eval,Act.put]):wpList P ops Q (o::rest) a w:=ZX w hgd t x ho b of cs hx ht hb h
theorem Jo {ops:Array Oper} {rest:List Oper} {o:Oper} {a:Act} {Q:Exit→Act→World→Prop} {x y:Operand} {b:Nat} (cs:Array Value) {old:Array Value} (hb:w.heap[b]? =some (.cells old T (0,0))) (ht:Zu P t cs.size=true)
 (h1:cs.all (·.oneCell')=true) (h:wpList P ops Q rest (a.put o.dst undef) (w.setRow b cs)) (hgd:o.guard=none:=by rfl) (ho:o.op= .store t x y:=by rfl) (hx:a.eval x= .pointer (some ⟨b,0,none⟩):=by rfl) (hy:a.eval y= .agg cs:=by rfl)
 (hs:old.size=cs.size:=by rfl):wpList P ops Q (o::rest) a w:=Zaw w hgd t x y ho b cs old T hx hy ht hb hs h1 h
end
theorem Kg {w w1:World} {cs:Array Value} (h:w1=w.setRow b cs):Zg [b] w w1:=h▸(Zg.refl [b] w).setRow (.inr (by simp)) cs
theorem Kh {w w1:World} {cs:Array Value} (h:w1=(w.alloc o).setRow w.heap.size cs):Zg [] w w1:=h▸((Zg.refl [] w).alloc o).setRow (.inl (Nat.le_refl _)) cs
theorem Kk {w w1:World} {old cs:Array Value} {fr:Nat×Nat} (h:w1=w.setRow b cs) (h0:w.heap[b]? =some (.cells old T fr)):w1.heap[b]? =some (.cells cs T fr):=h▸setRow_heap _ _ _ _ _ _ h0
end Go.Lk
namespace Go.Proofs.YtlhapbopmplngaaGreatDoor
def Tryz.info5:(Tryz.prog.info? 5).map (fun i=>(i.zero,i.size,i.bytes))=some (some (.int .u8 0),1,1):=by kernel_rfl
end Go.Proofs.YtlhapbopmplngaaGreatDoor
namespace Go.Lk
open Go.RowKit
def Y5 {α:Type} (p:α→Bool) (l:List α):Int:=match l.findIdx? p with|some i=>(i:Int)|none=> -1
def ZcN {α:Type} {p:α→Bool} {l:List α} {k:Nat} {x:α} (hk:k<l.length) (hx:l[k]? =some x) (hp:p x=true) (hm:∀(j:Nat) (y:α),j<k→l[j]? =some y→p y=false):Y5 p l=(k:Int):=by
 have:l.findIdx? p=some k:=by
  rw[List.findIdx?_eq_some_iff_getElem]
  refine⟨hk,?_,fun j a=> ?_⟩
  ·rw[Xa hk]at hx;injection hx with hx;rw[hx];exact hp
  ·have:=hm j l[j] a (Xa (by omega));simp[this]
 unfold Y5;rw[this]
def Zb4 {α:Type} {p:α→Bool} {l:List α} (hm:∀(j:Nat) (y:α),j<l.length→l[j]? =some y→p y=false):Y5 p l= -1:=by
 have:l.findIdx? p=none:=by
  rw[List.findIdx?_eq_none_iff]
  intro x hx
  obtain⟨i,a,rfl⟩:=List.getElem_of_mem hx
  exact hm i _ a (Xa a)
 unfold Y5;rw[this]
def Yi {α:Type} {p:α→Bool} {l:List α} (h:l.findIdx? p=none):Y5 p l= -1:=by unfold Y5;rw[h]
def YC {α:Type} {p:α→Bool} {l:List α} (h:l.findIdx? p=some i):Y5 p l=(i:Int):=by unfold Y5;rw[h]
def Zc4 {α:Type} (p:α→Bool) (l:List α):decide (0≤Y5 p l)=l.any p:=by
 unfold Y5
 cases h:l.findIdx? p with
 |none=>
  rw[List.findIdx?_eq_none_iff]at h
  symm
  show l.any p=false
  rw[List.any_eq_false]
  intro x hx;rw[h x hx];simp
 |some i=>
  obtain⟨a,b,_⟩:=List.findIdx?_eq_some_iff_getElem.1 h
  have:l.any p=true:=List.any_eq_true.2 ⟨_,List.getElem_mem a,b⟩
  rw[this];simp
def Yv {α:Type} {p:α→Bool} {l:List α} (h:l.findIdx? p=some i):i<l.length:=(List.findIdx?_eq_some_iff_getElem.1 h).1
def Zb3 {P:Program} {t:TypeId} {k b:Nat} (h:(P.info? t).map (fun i=>(i.size,i.bytes))=some (k,b)):∃i,P.info? t=some i∧i.size=k∧i.bytes=b:=by
 obtain⟨i,c,a⟩:=Option.map_eq_some_iff.1 h
 injection a with a d
 exact⟨i,c,a,d⟩
def Zk.lies {xs:List (List Value)} (h:Zk e k v xs w F):
  ∃A c,v= .slice A xs.length c∧xs.length≤c∧∀(j:Nat) (cs:List Value),xs[j]? =some cs→∃ab,A=some ⟨ab,0,none⟩∧Zb w ab (j*k) cs:=by
 rcases h.form with⟨rfl,rfl,_⟩|⟨g,f,o,rfl,_,r,l,s,p,ht⟩
 ·exact⟨none,0,rfl,Xi _,fun j cs b=>by simp at b⟩
 ·refine⟨_,f,rfl,l,fun j cs b=>⟨g,rfl,fun i u m=> ?_⟩⟩
  obtain⟨q,n,a,_,d⟩:=h.cell b m
  injection a with a _ _
  injection a with a;injection a with a
  subst a;exact d
def Zk.lies1 {xs:List (List Value)} (h:Zk e 1 v xs w F):
  ∃A c,v= .slice A xs.length c∧xs.length≤c∧∀(j:Nat) (cs:List Value),xs[j]? =some cs→∃ab,A=some ⟨ab,0,none⟩∧Zb w ab j cs:=by
 obtain⟨A,c,f,i,b⟩:=h.lies
 refine⟨A,c,f,i,fun j cs g=> ?_⟩
 obtain⟨ab,d,a⟩:=b j cs g
 rw[Nat.mul_one]at a
 exact⟨ab,d,a⟩
def Zk6 {α:Type} (l:List α) (i:Nat) (u:α) (h:i<l.length):Zax l (i*1) [u]=l.set i u:=by
 rw[Nat.mul_one]
 apply List.ext_getElem?
 intro j
 rw[Zgq _ _ _ (by simp;omega),List.getElem?_set]
 by_cases a:i=j
 ·subst a;rw[if_pos (by simp),if_pos rfl,if_pos h,Nat.sub_self];rfl
 ·rw[if_neg (by simp;omega),if_neg a]
def Zk.form' {xs:List (List Value)} (h:Zk e k v xs w F):∃A c,v= .slice A xs.length c∧xs.length≤c:=by
 obtain⟨A,c,b,a,_⟩:=h.lies
 exact⟨A,c,b,a⟩
def Zk.liesAt {k g n cap j:Nat} {xs:List (List Value)} {cs:List Value} (h:Zk e k (.slice (some ⟨g,0,none⟩) n cap) xs w F) (hj:xs[j]? =some cs):Zb w g (j*k) cs:=fun i u hu=>by
 obtain⟨g',cap',e1,_,hcell⟩:=h.cell hj hu
 injection e1 with e1 _ _
 injection e1 with e1;injection e1 with e1
 subst e1;exact hcell
def Zk.le {xs:List (List Value)} (h:Zk e k v xs w F):xs.length≤maxLen:=by
 rcases h.form with⟨rfl,rfl,_⟩|⟨g,b,a,rfl,_,d,i,f,c,ht⟩
 ·exact Xn _
 ·omega
def Zk.block {k g n cap:Nat} {xs:List (List Value)} (h:Zk e k (.slice (some ⟨g,0,none⟩) n cap) xs w F):
  ∃cur,n=xs.length∧F=[g]∧w.heap[g]? =some (.cells cur e (0,0))∧xs.length≤cap∧cap≤maxLen∧cur.size=cap*k∧cur.toList.take (xs.length*k)=xs.flatten:=by
 rcases h.form with⟨a,_⟩|⟨o,m,cur,a,d,f,l,j,b,ht⟩
 ·cases a
 ·injection a with a i c
  injection a with a;injection a with a
  subst a c
  exact⟨cur,i,d,f,l,j,b,ht⟩
def Zi4 {zs:List Value}:(Builtin.zeroCells zs.toArray 1).toList=zs:=by
 simp[Builtin.zeroCells]
 apply List.ext_getElem
 ·simp
 ·intro i a b
  simp at a
  simp[Nat.mod_eq_of_lt a,Xa a]
def ZdX {α:Type} (p:α→Bool) (l:List α):List α:=match l.findIdx? p with|some i=>l.take (i+1)|none=>l
def ZqB {α:Type} {p:α→Bool} {l:List α} {k:Nat} {x:α} (hk:k<l.length) (hx:l[k]? =some x) (hp:p x=true) (hm:∀(j:Nat) (y:α),j<k→l[j]? =some y→p y=false):l.findIdx? p=some k:=by
 rw[List.findIdx?_eq_some_iff_getElem]
 refine⟨hk,?_,fun j a=> ?_⟩
 ·rw[Xa hk]at hx;injection hx with hx;rw[hx];exact hp
 ·have:=hm j l[j] a (Xa (by omega));simp[this]
def ZoF {α:Type} {p:α→Bool} {l:List α} (hm:∀(j:Nat) (y:α),j<l.length→l[j]? =some y→p y=false):l.findIdx? p=none:=by
 rw[List.findIdx?_eq_none_iff]
 intro x hx
 obtain⟨i,a,rfl⟩:=List.getElem_of_mem hx
 exact hm i _ a (Xa a)
def Zip {α:Type} {p:α→Bool} {l:List α} {k:Nat} {x:α} (hk:k<l.length) (hx:l[k]? =some x) (hp:p x=true) (hm:∀(j:Nat) (y:α),j<k→l[j]? =some y→p y=false):ZdX p l=l.take (k+1):=by
 unfold ZdX;rw[ZqB hk hx hp hm]
def Zg2 {α:Type} {p:α→Bool} {l:List α} (hm:∀(j:Nat) (y:α),j<l.length→l[j]? =some y→p y=false):ZdX p l=l:=by
 unfold ZdX;rw[ZoF hm]
def Zdx {α:Type} {l:List α} {k:Nat} {x:α} (h:l[k]? =some x):l=l.take k++x::l.drop (k+1):=by
 obtain⟨a,rfl⟩:=List.getElem?_eq_some_iff.1 h
 rw[←List.drop_eq_getElem_cons a,List.take_append_drop]
def ZZ {α:Type} {l:List α} {k:Nat} {x:α} (h:l[k]? =some x):l.take (k+1)=l.take k++[x]:=by
 obtain⟨a,rfl⟩:=List.getElem?_eq_some_iff.1 h
 rw[Xr a]
def Zk.foot {xs:List (List Value)} (h:Zk e k (.slice A n c) xs w F):∀ab,A=some ⟨ab,0,none⟩→ab∈F:=fun ab e1=>by
 rw[h.1,e1];simp[Value.ownBlock]
def Zb.one {cs:List Value} (h:Zb w b o cs) (hl:cs.length=1):w.cell? ⟨b,o,none⟩=some (cs.headD undef):=by
 match cs,hl with
 |[u],_=>exact h 0 u rfl
structure ZbS {α:Type} (p:α→Bool) (l:List α) (j i:Nat) (dk:List α):Prop where
 len:dk.length=l.length
 lt:i<j
 le:j≤l.length
 low:dk.take i=(l.take j).filter (fun x=> !p x)
 high:dk.drop j=l.drop j
def ZbS.start {α:Type} {p:α→Bool} {l:List α} (h:l.findIdx? p=some i):ZbS p l (i+1) i l:=by
 obtain⟨a,d,b⟩:=List.findIdx?_eq_some_iff_getElem.1 h
 refine⟨rfl,by omega,by omega,?_,rfl⟩
 rw[Xr a,List.filter_append]
 have:(l.take i).filter (fun x=> !p x)=l.take i:=by
  rw[List.filter_eq_self]
  intro x hx
  obtain⟨j,c,rfl⟩:=List.getElem_of_mem hx
  rw[List.length_take]at c
  rw[List.getElem_take]
  have:=b j (by omega)
  simpa using this
 rw[this];simp[d]
def ZbS.get {α:Type} {p:α→Bool} {l:List α} {dk:List α} (h:ZbS p l j i dk):dk[j]? =l[j]? :=by
 have:=congrArg (·[0]?) h.high
 simpa using this
def ZbS.keep {α:Type} {p:α→Bool} {l:List α} {dk:List α} (h:ZbS p l j i dk) {x:α} (hx:l[j]? =some x) (hp:p x=false):ZbS p l (j+1) (i+1) (dk.set i x):=by
 have b:=(Jk hx)
 have:=h.lt;have a:=h.len
 refine⟨by simp[h.len],by omega,by omega,?_,?_⟩
 ·rw[ZZ (x:=x) (by rw[List.getElem?_set_self (by omega)]),List.take_set_of_le (Xi _),h.low,ZZ hx,List.filter_append]
  simp[hp]
 ·rw[List.drop_set_of_lt (by omega),←List.drop_drop,h.high,List.drop_drop]
def ZbS.skip {α:Type} {p:α→Bool} {l:List α} {dk:List α} (h:ZbS p l j i dk) {x:α} (hx:l[j]? =some x) (hp:p x=true):ZbS p l (j+1) i dk:=by
 have a:=(Jk hx)
 have:=h.lt
 refine⟨h.len,by omega,by omega,?_,?_⟩
 ·rw[h.low,ZZ hx,List.filter_append];simp[hp]
 ·rw[←List.drop_drop,h.high,List.drop_drop]
def ZbS.done {α:Type} {p:α→Bool} {l:List α} {dk:List α} (h:ZbS p l l.length i dk):dk.take i=l.filter (fun x=> !p x):=by
 rw[h.low,Xm]
def Zde {α:Type} {enc:α→List Value} (h1:∀x,∀u∈enc x,u.oneCell'=true) (l:List α):∀u∈(l.map enc).flatten,u.oneCell'=true:=fun u hu=>by
 obtain⟨c,hc,hu⟩:=List.mem_flatten.1 hu
 obtain⟨x,_,rfl⟩:=List.mem_map.1 hc
 exact h1 x u hu
def Zir (Q:World→Prop) (e:Ending) (w':World):Prop:=∃c:Int,e= .returned (.int .i64 c)∧Q w'
def Zay {W:World} {b o:Nat} (h:W.cell? ⟨b,o,none⟩=some v):b<W.heap.size:=Xo _ _ h
def Y2 (b:Nat) (cs:Value→Array Value) (T e:TypeId) (k:Nat) (xs:List (List Value)):YD:=fun w F=>∃v G,F=b::G∧b∉G∧w.heap[b]? =some (.cells (cs v) T (0,0))∧Zk e k v xs w G
def Zaf (b:Nat) (cs:Value→Array Value) (T e:TypeId) (k:Nat) (xs:List (List Value)):(Y2 b cs T e k xs).Local where
 lt:=by
  rintro w F ⟨v,G,rfl,d,c,a⟩ x hx
  rcases List.mem_cons.1 hx with rfl|hx
  ·exact(Jg c)
  ·exact(Zc _ _ _ _).lt a x hx
 upd:=by
  rintro w i F h ⟨v,G,rfl,d,c,a⟩ g f
  exact⟨v,G,rfl,d,(Kv g c (f b (by simp))),(Zc _ _ _ _).upd a g (fun x hx=>f x (by simp[hx]))⟩
def Y9 {α β:Type} (f:α→β) (l:List α) (i:Nat):(l.map f).eraseIdx i=(l.eraseIdx i).map f:=by
 simp[List.eraseIdx_eq_take_drop_succ,List.map_take,List.map_drop]
def ZbN {b:Nat} {cs:Value→Array Value} {xs:List (List Value)} {w w1:World} {G G1:List Nat} (hbG:b∉G) (hlt:b<w.heap.size) (hb:w1.heap[b]? =some (.cells (cs v) T (0,0))) (hr:Zk e k v xs w1 G1)
  (hu:Zg (b::G) w w1) (hn:∀x∈G1,x∈G∨w.heap.size≤x):Y2 b cs T e k xs w1 (b::G1)∧Zi w w1 (b::G) (b::G1):=by
 refine⟨⟨v,G1,rfl,fun a=> ?_,hb,hr⟩,hu,fun x hx=> ?_⟩
 ·rcases hn b a with h|h
  ·exact hbG h
  ·omega
 ·rcases List.mem_cons.1 hx with rfl|hx
  ·exact .inl (by simp)
  ·rcases hn x hx with h|h
   ·exact .inl (by simp[h])
   ·exact .inr h
def ZnA {base size:Nat} {v v':Value} {w w':World} {xs:List (List Value)} {c:List Value} (hk:∀c∈xs,c.length=size) (hc:c.length=size) (h:w'.ownsRow base e size v' (xs.length+1) (xs.flatten++c))
  (hg:w.grownBy w' v.ownBlock) (ho:v'.ownBlock=v.ownBlock∨v'.ownBlock=some w.heap.size):
  Zk e size v' (xs++[c]) w' v'.ownBlock.toList∧Zg v.ownBlock.toList w w'∧∀x∈v'.ownBlock.toList,x∈v.ownBlock.toList∨w.heap.size≤x:=by
 refine⟨⟨rfl,fun d hd=> ?_,?_⟩,(Zg.refl _ w).grown hg (fun k hk=> .inr (by simp[hk])),fun x hx=> ?_⟩
 ·rcases List.mem_append.1 hd with a|a
  ·exact hk d a
  ·rw[Jm a];exact hc
 ·have f:(xs++[c]).length=xs.length+1:=by simp
  have b:(xs++[c]).flatten=xs.flatten++c:=by simp
  rw[f,b]
  exact Zie h (Xn _)
 ·rcases ho with ho|ho
  ·rw[ho]at hx;exact .inl hx
  ·rw[ho]at hx;right;simp at hx;omega
def Zm {P:Program} (w:World) {ops:Array Oper} {rest:List Oper} {o:Oper} {a:Act} {Q:Exit→Act→World→Prop} (hgd:o.guard=none) (s x:Operand) (t:TypeId)
  (ho:o.op= .call {callee:= .builtin .append,args:= #[s,x],argTypes:= #[t,t]})
  (e:TypeId) {size bytes:Nat} (ht:P.underlying t=some (.slice e)) (hi:(P.info? e).map (fun i=>(i.zero,i.size,i.bytes))=some (some z,size,bytes)) (hzs:z.cells.size=size) (hsz:0<size) (hby:bytes≤200)
  (v:Value) (xs:List (List Value)) (F:List Nat) (hs:a.eval s=v) (hr:Zk e size v xs w F)
  (B cap:Nat) (c:List Value) (hx:a.eval x= .slice (some ⟨B,0,none⟩) 1 cap) (hlies:Zb w B 0 c) (hc:c.length=size) (h1:∀u∈c,u.oneCell'=true) (hl:xs.length≤500000000000)
  (h:∀v' w' F',Zk e size v' (xs++[c]) w' F'→Zg F w w'→(∀x∈F',x∈F∨w.heap.size≤x)→wpList P ops Q rest (a.put o.dst v') w'):wpList P ops Q (o::rest) a w:=by
 obtain⟨i,f,k,d,g⟩:=info_parts hi
 obtain⟨rfl,n,b⟩:=hr
 refine ZbH w hgd s x t ho 0 e i z size bytes ht f k d g hzs hsz v xs.length xs.flatten hs b (some ⟨B,0,none⟩) 1 cap c hx (by omega) (fun j u A=>⟨_,rfl,?_⟩) h1 (by unfold maxLen;omega) ?_ (Xn _) ?_
 ·rw[add_plain];exact hlies j u A
 ·calc (xs.length+1)*bytes≤(500000000000+1)*200:=Nat.mul_le_mul (by omega) hby
   _≤140737488355328:=by omega
 ·intro v' w' l r p
  obtain⟨m,y,q⟩:=ZnA n hc l r p
  exact h v' w' _ m y q
open Go.RowKit Go.Deep
def ZeG {α:Type} (w:World) (sz:Nat) (R:List Value→α→Prop) (v:Value) (l:List α):Prop:=
 ∃A c,v= .slice A l.length c∧l.length≤c∧∀j x,l[j]? =some x→∃ab ao,A=some ⟨ab,ao,none⟩∧∃cs,cs.length=sz∧(∀i u,cs[i]? =some u→w.cell? ⟨ab,ao+(j*sz+i),none⟩=some u)∧R cs x
theorem ZeG.upd {α:Type} {sz:Nat} {R:List Value→α→Prop} {l:List α} (h:ZeG w sz R v l) (h0:0<sz) (hu:Zg [] w w'):ZeG w' sz R v l:=by
 obtain⟨A,c,rfl,b,o⟩:=h
 refine⟨A,c,rfl,b,fun j x m=> ?_⟩
 obtain⟨a,f,rfl,e,d,n,k⟩:=o j x m
 refine⟨a,f,rfl,e,d,fun i u g=> ?_,k⟩
 have:=n i u g
 exact(Xp (hu.block a (Xo _ _ this) (by simp))).trans this
theorem ZeG.form {α:Type} {sz:Nat} {R:List Value→α→Prop} {l:List α} (h:ZeG w sz R v l):∃A c,v= .slice A l.length c∧l.length≤c:=by
 obtain⟨A,c,rfl,h,_⟩:=h;exact⟨A,c,rfl,h⟩
theorem ZeG.mono {α β:Type} {w w':World} {sz:Nat} {R:List Value→α→Prop} {R':List Value→α→Prop} {l:List α} (h:ZeG w sz R v l) (hr:∀cs x,R cs x→R' cs x):ZeG w sz R' v l:=by
 obtain⟨A,c,rfl,a,i⟩:=h
 refine⟨A,c,rfl,a,fun j x e=> ?_⟩
 obtain⟨f,d,rfl,cs,b,g,hx⟩:=i j x e
 exact⟨f,d,rfl,cs,b,g,hr _ _ hx⟩
end Go.Lk
namespace Go.Proofs.YtlhapbopmplngaaGreatDoor
open Go.RowKit Go.Lk
structure Env (w:World):Prop where
 m:∃m,w.cell? ⟨0,0,none⟩=some (.int .i64 m)
 tab:Lib.TabIs Tryz.prog w "internal/strconv.uint64pow10" .u64 Lib.pow10Tab
def ZiU: Tryz.prog.globalNamed "internal/strconv.uint64pow10"=some 1:=by kernel_rfl
def Env.pow_lt (h:Env w):∃cs t f,w.heap[1]? =some (.cells cs t f):=by
 have:=h.tab
 unfold Lib.TabIs World.var? at this
 rw[ZiU]at this
 simp only[Option.bind_some]at this
 split at this
 ·exact⟨_,_,_,by assumption⟩
 ·cases this
def ZnH (x:Nat):Prop:=2≤x
def Env.upd (h:Env w) (hu:Zg F w w1) (hF:∀x∈F,ZnH x:=by simp):Env w1:=by
 obtain⟨m,a⟩:=h.m
 refine⟨⟨m,(Xp (hu.block 0 (Xo _ _ a) (fun hx=>by have:=hF _ hx;unfold ZnH at this;omega))).trans a⟩,?_⟩
 obtain⟨c,t,f,b⟩:=h.pow_lt
 have e:w1.heap[1]? =w.heap[1]? :=by
  refine hu.block _ ?_ (fun hx=>by have:=hF _ hx;unfold ZnH at this;omega)
  exact(Jg b)
 have:=h.tab
 unfold Lib.TabIs World.var? at this⊢
 rw[ZiU]at this⊢
 simp only[Option.bind_some]at this⊢
 rw[e];exact this
def Env.upd0 (h:Env w) (hu:Zg [] w w1):Env w1:=h.upd hu
def Env.size (h:Env w):2≤w.heap.size:=by
 obtain⟨b,t,f,a⟩:=h.pow_lt
 exact(Jg a)
def Zn2:(Tryz.prog.info? 235).map (fun i=>(i.zero,i.size,i.bytes))=some (some (.agg #[.int .u64 0, .int .i64 0, .int .i64 0]),3,24):=by kernel_rfl
def ZfZ:Zu Tryz.prog 235 3=true:=by kernel_rfl
def ZlC:(Tryz.prog.info? 54).map (fun i=>(i.zero,i.size,i.bytes))=some (some (.agg #[.int .i64 0, .int .u64 0, .int .i64 0, .int .i64 0, .int .i64 0, .int .i64 0, .int .i64 0]),7,56):=by kernel_rfl
def Zj8:Zu Tryz.prog 54 7=true:=by kernel_rfl
def ZoP:(Tryz.prog.info? 90).map (fun i=>(i.zero,i.size,i.bytes))=some (some (.pointer none),1,8):=by kernel_rfl
end Go.Proofs.YtlhapbopmplngaaGreatDoor
