import Derived.Test.YtlhapbopmplngaaGreatDoorS2
set_option linter.all false
set_option maxHeartbeats 16000000
set_option maxRecDepth 100000
set_option autoImplicit true
set_option relaxedAutoImplicit true
namespace Go.Lk
open Go
section
variable {P:Program} {ops:Array Oper} {md:Region.Mode} {Q:Exit→Act→World→Prop}
inductive Zbi where
 |nil
 |held (i:Nat) (r:Zbi)
 |eff (i:Nat) (r:Zbi)
 |two (i:Nat) (r1:Zbi) (j:Nat) (r2:Zbi)
def Zbi.len:Zbi→Nat
 | .nil=>0
 | .held _ r=>r.len+1
 | .eff _ r=>r.len+1
 | .two _ r1 _ _=>r1.len+1
def Zfj (md:Region.Mode) (ops:Array Oper):Zbi→Array Bool→Bool
 | .nil,l=>(Region.ready md ops l).isEmpty
 | .held i r,l=>(Region.ready md ops l).contains i&&Region.free md ops l i&&Zfj md ops r (l.setIfInBounds i true)
 | .eff i r,l=>Region.ready md ops l==[i]&&Zfj md ops r (l.setIfInBounds i true)
 | .two i r1 j r2,l=>Region.ready md ops l==[i,j]&&r1.len==r2.len&&Zfj md ops r1 (l.setIfInBounds i true)&&Zfj md ops r2 (l.setIfInBounds j true)
def Yq (P:Program) (ops:Array Oper) (Q:Exit→Act→World→Prop):Zbi→(World→Prop)→Act→World→Prop
 | .nil,_,a,w=>Q .normal a w
 | .held i r,S,a,w=>∃o v,ops[i]? =some o∧YieldsIf P ops S o v a∧Yq P ops Q r S (a.put o.dst v) w
 | .eff i r,S,a,w=>wpOp P ops Q i (fun a' w'=>∃S':World→Prop,(∀W,S' W→S W)∧S' w'∧Yq P ops Q r S' a' w') a w
 | .two i r1 j r2,S,a,w=>wpOp P ops Q i (fun a' w'=>∃S':World→Prop,(∀W,S' W→S W)∧S' w'∧Yq P ops Q r1 S' a' w') a w∧
  wpOp P ops Q j (fun a' w'=>∃S':World→Prop,(∀W,S' W→S W)∧S' w'∧Yq P ops Q r2 S' a' w') a w
theorem ZbG (hs:Region.noSelect ops=true) (hQ:∀c a w t v,Q (.panic c) (a.put t v) w→Q (.panic c) a w):
  ∀(t:Zbi) (S:World→Prop) (listed:Array Bool) (a:Act) (w:World),ZeE md ops listed→Zfj md ops t listed=true→S w→Yq P ops Q t S a w→Zcw P md ops Q none S t.len listed a w
 | .nil,S,listed,a,w,_,hB,_,h=>⟨by simpa[Zfj]using hB,h⟩
 | .held i r,S,listed,a,w,hc,hB,hS,h=>by
  simp only[Zfj,Bool.and_eq_true]at hB
  obtain⟨o,v,ho,hy,hK⟩:=h
  have hr:i∈Region.ready md ops listed:=by simpa using hB.1.1
  exact ZdL (F:=none) ho (Region.noSelect_spec hs) (fun c a w=>hQ c a w _ _) (by simp) (fun j e=>by cases e) r.len listed a w hc (Region.free_spec ho hB.1.2) hr hy hS
   (ZbG hs hQ r S _ _ _ (Zaa hc hr) hB.2 hS hK)
 | .eff i r,S,listed,a,w,hc,hB,hS,h=>by
  simp only[Zfj,Bool.and_eq_true,beq_iff_eq]at hB
  refine⟨fun h0=>(by rw[hB.1]at h0;cases h0),fun j hj=> ?_⟩
  have hi:i∈Region.ready md ops listed:=by rw[hB.1];simp
  rw[hB.1]at hj
  obtain rfl:j=i:=by simpa using hj
  rw[if_neg (by simp)]
  refine wpOp_mono (fun a' w' h'=> ?_) h
  obtain⟨S',h1,h2,h3⟩:=h'
  exact⟨h1 _ h2,Zce h1 _ _ _ _ (ZbG hs hQ r S' _ _ _ (Zaa hc hi) hB.2 h2 h3)⟩
 | .two i r1 j r2,S,listed,a,w,hc,hB,hS,h=>by
  simp only[Zfj,Bool.and_eq_true,beq_iff_eq]at hB
  obtain⟨⟨⟨hr,hl⟩,hB1⟩,hB2⟩:=hB
  refine⟨fun h0=>(by rw[hr]at h0;cases h0),fun k hk=> ?_⟩
  have hi:i∈Region.ready md ops listed:=by rw[hr];simp
  have hj:j∈Region.ready md ops listed:=by rw[hr];simp
  rw[hr]at hk
  rw[if_neg (by simp)]
  rcases(show k=i∨k=j by simpa using hk)with rfl|rfl
  ·refine wpOp_mono (fun a' w' h'=> ?_) h.1
   obtain⟨S',h1,h2,h3⟩:=h'
   exact⟨h1 _ h2,Zce h1 _ _ _ _ (ZbG hs hQ r1 S' _ _ _ (Zaa hc hi) hB1 h2 h3)⟩
  ·refine wpOp_mono (fun a' w' h'=> ?_) h.2
   obtain⟨S',h1,h2,h3⟩:=h'
   have h4:=Zce h1 _ _ _ _ (ZbG hs hQ r2 S' _ _ _ (Zaa hc hj) hB2 h2 h3)
   show S w'∧Zcw P md ops Q none S r1.len _ a' w'
   rw[hl]
   exact⟨h1 _ h2,h4⟩
def ZqW (md:Region.Mode) (ops:Array Oper) (t:Zbi):Bool:=Region.noSelect ops&&t.len==ops.size&&Zfj md ops t (Array.replicate ops.size false)
theorem ZaV {id:Nat} {ol:List Oper} (t:Zbi) (S:World→Prop) (hm:P.follows .mixedOrders=true) (hB:ZqW .any ol.toArray t=true)
  (hQ:∀c a w t v,Q (.panic c) (a.put t v) w→Q (.panic c) a w) (hS:S {w with drawn:=w.drawn+1})
  (h:Yq P ol.toArray Q t S a {w with drawn:=w.drawn+1}):(Code.region id ol.toArray true).wp P Q a w:=by
 simp only[ZqW,Bool.and_eq_true,beq_iff_eq]at hB
 obtain⟨⟨f,e⟩,hB⟩:=hB
 refine wp_region_any hm ?_
 have b:=ZbG f hQ t S _ _ _ (fun j g _ d=>(by rw[getD_replicate_false]at d;cases d)) hB hS h
 rw[e]at b
 exact ZcQ _ _ _ _ b
theorem ZjR {i:Nat} {o:Oper} {r:Zbi} {S:World→Prop} {a a':Act} (ho:ops[i]? =some o) (hg:o.guard=none)
  (hv:∀W,S W→(execOp a.eval o).run P W= .ok (.value v) W) (ha:a.put o.dst v=a') (h:Yq P ops Q r S a' w):Yq P ops Q (.held i r) S a w:=
 ⟨o,v,ho, .inl ⟨by simp[Region.wanted,hg],hv⟩,by rw[ha];exact h⟩
theorem Zkp {i:Nat} {o:Oper} {r:Zbi} {S:World→Prop} {a a':Act} (ho:ops[i]? =some o) (hg:Region.wanted o (yielded ops a.tmps)=true)
  (hv:∀W,S W→(execOp a.eval o).run P W= .ok (.value v) W) (ha:a.put o.dst v=a') (h:Yq P ops Q r S a' w):Yq P ops Q (.held i r) S a w:=
 ⟨o,v,ho, .inl ⟨hg,hv⟩,by rw[ha];exact h⟩
theorem Zq1 {i:Nat} {o:Oper} {r:Zbi} {a a':Act} (ho:ops[i]? =some o) (hg:Region.wanted o (yielded ops a.tmps)=false)
  (ha:a.put o.dst undef=a') (h:Yq P ops Q r S a' w):Yq P ops Q (.held i r) S a w:=
 ⟨o,undef,ho, .inr ⟨hg,rfl⟩,by rw[ha];exact h⟩
theorem Zix {i:Nat} {o:Oper} {r:Zbi} {S:World→Prop} {a a':Act} (ho:ops[i]? =some o) (hg:o.guard=none) (t:TypeId) (x:Operand) (hop:o.op= .load t x) (b of:Nat) (cs:List Value)
  (hx:a.eval x= .pointer (some ⟨b,of,none⟩)) (hv:∀W,S W→(Instr.loadAt t (.pointer (some ⟨b,of,none⟩))).run P W= .ok (.agg cs.toArray) W) (ha:a.put o.dst (.agg cs.toArray)=a') (h:Yq P ops Q r S a' w):Yq P ops Q (.held i r) S a w:=
 ZjR (v:= .agg cs.toArray) ho hg (fun W hW=>by
  unfold execOp
  simp only[hop,Sem.run_bind,Sem.run_pure,Result.andThen_ok,hx,hv W hW]) ha h
theorem Zp0 {i:Nat} {o:Oper} {r:Zbi} {S:World→Prop} (ho:ops[i]? =some o)
  (h:wpList P ops (Exit.then (fun a' w'=>∃S':World→Prop,(∀W,S' W→S W)∧S' w'∧Yq P ops Q r S' a' w') Q) [o] a w):Yq P ops Q (.eff i r) S a w:=by
 refine ZdI (n:=fun a' w'=>∃S':World→Prop,(∀W,S' W→S W)∧S' w'∧Yq P ops Q r S' a' w') ?_
 unfold wpOp
 simp only[ho]
 exact h
theorem ZcW {i j:Nat} {o o2:Oper} {r1 r2:Zbi} {S:World→Prop} (ho:ops[i]? =some o) (ho2:ops[j]? =some o2)
  (h:wpList P ops (Exit.then (fun a' w'=>∃S':World→Prop,(∀W,S' W→S W)∧S' w'∧Yq P ops Q r1 S' a' w') Q) [o] a w)
  (h2:wpList P ops (Exit.then (fun a' w'=>∃S':World→Prop,(∀W,S' W→S W)∧S' w'∧Yq P ops Q r2 S' a' w') Q) [o2] a w):Yq P ops Q (.two i r1 j r2) S a w:=by
 refine⟨ZdI (n:=fun a' w'=>∃S':World→Prop,(∀W,S' W→S W)∧S' w'∧Yq P ops Q r1 S' a' w') ?_,ZdI (n:=fun a' w'=>∃S':World→Prop,(∀W,S' W→S W)∧S' w'∧Yq P ops Q r2 S' a' w') ?_⟩
 ·unfold wpOp
  simp only[ho]
  exact h
 ·unfold wpOp
  simp only[ho2]
  exact h2
theorem Zdu (h:Q .normal a w):Yq P ops Q .nil S a w:=h
end
section
variable {P:Program} {ops:Array Oper} {Q:Exit→Act→World→Prop}
theorem JT {i:Nat} {o:Oper} {r:Zbi} {a a':Act} (h:Yq P ops Q r S a' w)
 (ho:ops[i]? =some o:=by simp only[List.getElem?_toArray,List.getElem?_cons_succ,List.getElem?_cons_zero];rfl) (hg:o.guard=none:=by rfl)
 (hv:∀W,S W→(execOp a.eval o).run P W= .ok (.value v) W:=by intro W hW;(try dsimp only at hW);go_simp;rfl) (ha:a.put o.dst v=a':=by go_simp;rfl):Yq P ops Q (.held i r) S a w:=ZjR ho hg hv ha h
theorem JN {i:Nat} {o:Oper} {r:Zbi} {a a':Act} (h:Yq P ops Q r S a' w)
 (ho:ops[i]? =some o:=by simp only[List.getElem?_toArray,List.getElem?_cons_succ,List.getElem?_cons_zero];rfl) (hg:Region.wanted o (yielded ops a.tmps)=true:=by rfl)
 (hv:∀W,S W→(execOp a.eval o).run P W= .ok (.value v) W:=by intro W hW;(try dsimp only at hW);go_simp;rfl) (ha:a.put o.dst v=a':=by go_simp;rfl):Yq P ops Q (.held i r) S a w:=Zkp ho hg hv ha h
theorem JF {i:Nat} {o:Oper} {r:Zbi} {a a':Act} (h:Yq P ops Q r S a' w)
 (ho:ops[i]? =some o:=by simp only[List.getElem?_toArray,List.getElem?_cons_succ,List.getElem?_cons_zero];rfl) (hg:Region.wanted o (yielded ops a.tmps)=false:=by rfl)
 (ha:a.put o.dst undef=a':=by go_simp;rfl):Yq P ops Q (.held i r) S a w:=Zq1 ho hg ha h
theorem JU {i:Nat} {o:Oper} {r:Zbi} {S:World→Prop}
 (h:wpList P ops (Exit.then (fun a' w'=>∃S':World→Prop,(∀W,S' W→S W)∧S' w'∧Yq P ops Q r S' a' w') Q) [o] a w)
 (ho:ops[i]? =some o:=by simp only[List.getElem?_toArray,List.getElem?_cons_succ,List.getElem?_cons_zero];rfl):Yq P ops Q (.eff i r) S a w:=Zp0 ho h
end
end Go.Lk
