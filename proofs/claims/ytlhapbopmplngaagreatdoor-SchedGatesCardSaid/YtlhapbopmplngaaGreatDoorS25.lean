import Derived.ChangeAlike
import Derived.Defers
import Derived.Laws.Pointers
import Derived.RegionCalls
import Derived.Test.YtlhapbopmplngaaGreatDoorS17
import Derived.Test.YtlhapbopmplngaaGreatDoorS22
set_option linter.all false
set_option maxHeartbeats 16000000
set_option maxRecDepth 100000
set_option autoImplicit true
set_option relaxedAutoImplicit true
namespace Go.Proofs.YtlhapbopmplngaaGreatDoor
open Go.RowKit Go.Lk
def Zgr (w:World):(callFunc 361 #[]).run Tryz.prog w= .ok (.value (.tuple #[])) w:=run_call_mark0 Tryz.func361 (by kernel_rfl) (by kernel_rfl) (by kernel_rfl) .disable (by kernel_rfl) w
def Zhr (w:World):(callFunc 363 #[]).run Tryz.prog w= .ok (.value (.tuple #[])) w:=run_call_mark0 Tryz.func363 (by kernel_rfl) (by kernel_rfl) (by kernel_rfl) .enable (by kernel_rfl) w
def Zkr (a:Addr) (w:World):(callFunc 364 #[.pointer (some a)]).run Tryz.prog w= .ok (.value (.tuple #[])) w:=run_call_marked Tryz.func364 (by kernel_rfl) (by kernel_rfl) (by kernel_rfl) .acquire (by kernel_rfl) a w
def Zf2 (a:Addr) (w:World):(callFunc 366 #[.pointer (some a)]).run Tryz.prog w= .ok (.value (.tuple #[])) w:=run_call_marked Tryz.func366 (by kernel_rfl) (by kernel_rfl) (by kernel_rfl) .releaseMerge (by kernel_rfl) a w
def Zfc (a:Addr) (x:Value) (u:FrameMode) (w:World) (hc:w.cell? a=some x) (hz:w.frozen? a=false):
  CallsD Tryz.prog 276 #[.pointer (some a), .bool true] u w fun e u' w'=>u'=u∧(e= .returned (.tuple #[])∧w'=w.drew.setCell a (.int .u32 1)):=by
 have b:w.drew.cell? a=some x:=by go_simp
 have c:w.drew.frozen? a=false:=by go_simp
 have d:=run_call_store (P:= Tryz.prog) Tryz.func321 (by kernel_rfl) (by kernel_rfl) (by kernel_rfl) (by kernel_rfl) (k:= .u32) (y:=1) b c
 go_enter_d Tryz.func276,Tryz.ntmps276
 go_wp2
 go_region_calls
 all_goals(go_end0;exact⟨rfl,rfl⟩)
def ZeF (a:Addr) (u:FrameMode) (w:World) (hc:w.cell? a=some (.int .i32 1)) (hz:w.frozen? a=false):
  CallsD Tryz.prog 275 #[.pointer (some a)] u w fun e u' w'=>u'=u∧(e= .returned (.tuple #[])∧w'=w.setCell a (.int .i32 0)):=by
 have hd:=Zgr
 have d:=Zhr
 have g:=Zf2
 have b:=run_call_add (P:= Tryz.prog) Tryz.func367 (by kernel_rfl) (by kernel_rfl) (by kernel_rfl) .i32 (by kernel_rfl) (y:= -1) (s:=0) hc hz (by simp[go_sem];rfl)
 have c:=run_convert_to_unsafe (P:= Tryz.prog) (src:= 415) (dst:= 419) Tryz.underlying415 Tryz.underlying419 (by kernel_rfl) hc
 go_enter_d Tryz.func275,Tryz.ntmps275
 go_wp2
 go_end0
 go_wp2
 go_end0
 exact⟨rfl,rfl⟩
def ZoG (a:Addr) (w:World) (hc:w.cell? a=some (.int .i32 0)) (hz:w.frozen? a=false):
  Calls Tryz.prog 274 #[.pointer (some a)] w fun e w'=>e= .returned (.tuple #[])∧w'=w.setCell a (.int .i32 1):=by
 have hd:=Zgr
 have g:=Zhr
 have ha:=Zkr
 have c:=run_call_cas_hit (P:= Tryz.prog) Tryz.func362 (by kernel_rfl) (by kernel_rfl) (by kernel_rfl) .i32 (by kernel_rfl) (y:=1) hc hz
 have b:(w.setCell a (.int .i32 1)).cell? a=some (.int .i32 1):=World.cell?_setCell_same w a _ hc
 have d:=run_convert_to_unsafe (P:= Tryz.prog) (src:= 415) (dst:= 419) Tryz.underlying415 Tryz.underlying419 (by kernel_rfl) b
 go_in
 go_wp2
 first|go_end0|(simp only[Exit.inBlock,Exit.then];refine bodyPost_ret (results_none rfl _ _ _) rfl ?_)|refine bodyPost_ret (results_none rfl _ _ _) rfl ?_
 go_wp2
 go_end0
 exact⟨rfl,rfl⟩
def Zo8 (b off:Nat) (g:FuncId) (caps:Array Value) (w:World) (Post:World→Prop)
  (h0:w.cell? ⟨b,off,none⟩=some (.int .u32 0)) (h1:w.cell? ⟨b,off+1,none⟩=some (.int .i32 0))
  (f0:w.frozen? ⟨b,off,none⟩=false) (f1:w.frozen? ⟨b,off+1,none⟩=false)
  (hg:∀W,(callFunc g caps).run Tryz.prog W= .ok (.enter g caps) W)
  (hf:Calls Tryz.prog g caps (w.setCell ⟨b,off+1,none⟩ (.int .i32 1)) fun e w'=>e= .returned (.tuple #[])∧Post w')
  (hp:∀w',Post w'→w'.cell? ⟨b,off,none⟩=some (.int .u32 0)∧w'.cell? ⟨b,off+1,none⟩=some (.int .i32 1)∧w'.frozen? ⟨b,off,none⟩=false∧w'.frozen? ⟨b,off+1,none⟩=false):
  Calls Tryz.prog 201 #[.pointer (some ⟨b,off,none⟩), .func (.func g) #[] caps] w fun e w''=>e= .returned (.tuple #[])∧
   ∃w',Post w'∧w''=(w'.drew.setCell ⟨b,off,none⟩ (.int .u32 1)).setCell ⟨b,off+1,none⟩ (.int .i32 0):=by
 have q:=run_call_load (P:= Tryz.prog) Tryz.func273 (by kernel_rfl) (by kernel_rfl) (by kernel_rfl) .u32 (by kernel_rfl) (w:=w.setCell ⟨b,off+1,none⟩ (.int .i32 1)) (a:=⟨b,off,none⟩) (x:=0) ((World.cell?_setCell_other _ ⟨b,off+1,none⟩ ⟨b,off,none⟩ _ (by simp)).trans h0)
 have p:∀(x:Bool) (w:World),(Op.unary .not (.bool x)).run Tryz.prog w= .ok (.bool (!x)) w:=fun _ _=>rfl
 have i:=D hf;have k:=D hp;clear hf hp
 go_enter_defers Tryz.func201,Tryz.ntmps201
 go_wp2_with(go_at_call 274;refine(ZoG ⟨b,off+1,none⟩ _ (by go_simp) (by go_simp)).mono ?_;rintro e w' ⟨rfl,rfl⟩)
 go_wp2_with(go_at_call 200;go_in)
 refine i.out.mono ?_
 rintro e d ⟨rfl,c⟩
 obtain⟨l,m,n,j⟩:=k.out d c
 have h:=D c;clear c
 go_wp2
 refine leaves_cons (f:= 276) (args:= #[.pointer (some ⟨b,off,none⟩), .bool true]) (by simp) (by simp[go_sem]) ?_
 refine(Zfc ⟨b,off,none⟩ (.int .u32 0) .returning _ l n).mono ?_
 rintro e o w'' ⟨rfl,rfl,rfl⟩
 refine leaves_cons (f:= 275) (args:= #[.pointer (some ⟨b,off+1,none⟩)]) (by simp[settle]) (by simp[go_sem]) ?_
 refine(ZeF ⟨b,off+1,none⟩ _ _ ?_ (by simp[j])).mono ?_
 ·refine(World.cell?_setCell_other _ ⟨b,off,none⟩ ⟨b,off+1,none⟩ _ (by simp)).trans ?_
  rw[World.cell?_drew]
  exact m
 rintro e o w'' ⟨rfl,rfl,rfl⟩
 simp[Leaves,settle,results,Tryz.results201]
 exact⟨d,h.out,rfl⟩
def Zdo (b off:Nat) (g:FuncId) (caps:Array Value) (w:World) (Post:World→Prop)
  (h0:w.cell? ⟨b,off,none⟩=some (.int .u32 0)) (h1:w.cell? ⟨b,off+1,none⟩=some (.int .i32 0))
  (f0:w.frozen? ⟨b,off,none⟩=false) (f1:w.frozen? ⟨b,off+1,none⟩=false)
  (hg:∀W,(callFunc g caps).run Tryz.prog W= .ok (.enter g caps) W)
  (hf:Calls Tryz.prog g caps (w.setCell ⟨b,off+1,none⟩ (.int .i32 1)) fun e w'=>e= .returned (.tuple #[])∧Post w')
  (hp:∀w',Post w'→w'.cell? ⟨b,off,none⟩=some (.int .u32 0)∧w'.cell? ⟨b,off+1,none⟩=some (.int .i32 1)∧w'.frozen? ⟨b,off,none⟩=false∧w'.frozen? ⟨b,off+1,none⟩=false):
  Calls Tryz.prog 126 #[.pointer (some ⟨b,off,none⟩), .func (.func g) #[] caps] w fun e w''=>e= .returned (.tuple #[])∧
   ∃w',Post w'∧w''=(w'.drew.setCell ⟨b,off,none⟩ (.int .u32 1)).setCell ⟨b,off+1,none⟩ (.int .i32 0):=by
 have h:=run_call_load (P:= Tryz.prog) Tryz.func273 (by kernel_rfl) (by kernel_rfl) (by kernel_rfl) .u32 (by kernel_rfl) h0
 have d:∀(x:Bool) (w:World),(Op.unary .not (.bool x)).run Tryz.prog w= .ok (.bool (!x)) w:=fun _ _=>rfl
 have a:=D (Zo8 b off g caps w Post h0 h1 f0 f1 hg hf hp);clear hf hp
 go_in
 go_wp2_with(go_at_call 200;go_in)
 refine a.out.mono ?_
 rintro e i ⟨rfl,hx⟩
 have c:=D hx;clear hx
 go_wp2
 go_end0
 exact⟨rfl,c.out⟩
def ZdK (a:Addr) (d:Int) (hd:d=1) (fv:Value) (w:World) (h0:w.cell? a=some (.int .u32 d)):
  Calls Tryz.prog 126 #[.pointer (some a),fv] w fun e w'=>e= .returned (.tuple #[])∧w=w':=by
 subst hd
 have c:=run_call_load (P:= Tryz.prog) Tryz.func273 (by kernel_rfl) (by kernel_rfl) (by kernel_rfl) .u32 (by kernel_rfl) h0
 have b:∀(x:Bool) (w:World),(Op.unary .not (.bool x)).run Tryz.prog w= .ok (.bool (!x)) w:=fun _ _=>rfl
 go_in
 go_wp2
 go_end0
 exact⟨rfl,rfl⟩
end Go.Proofs.YtlhapbopmplngaaGreatDoor
namespace Go.Lk
open Go.RowKit Go.Lib
def ZnJ {α:Type} (f:α→Value) (l:List α):(l.map fun x=>[f x]).flatten=l.map f:=by
 induction l with
 |nil=>rfl
 |cons a l ih=>rw[List.map_cons,List.flatten_cons,ih];rfl
def ZnN {α:Type} [Inhabited α] (enc:α→Value) {g n cap:Nat} {xs:List (List Value)} {w W2:World} (h:Zk e 1 (.slice (some ⟨g,0,none⟩) n cap) xs w F) (q:Nat) (os:Array Obj) (ds:List α) (m:Nat) (hd:ds.length≤n) (hm:m≤ds.length)
  (hW:W2=Sort.grow (Sort.putRow enc (Sort.ahead w q) g 0 ds.toArray) os):Zk e 1 (.slice (some ⟨g,0,none⟩) m cap) ((ds.take m).map fun u=>[enc u]) W2 F:=by
 obtain⟨d,s,rfl,i,x,r,f,ht⟩:=h.block
 subst s
 rw[Nat.mul_one]at f
 have a:((ds.take m).map fun u=>[enc u]).length=m:=by rw[Xb,List.length_take];omega
 have p:W2.heap[g]? =some (.cells (Sort.putCells enc 0 ds.toArray d) e (0,0)):=by
  have o:=(Jg i)
  rw[hW]
  show((w.heap.modify g _)++os)[g]? =_
  rw[Array.getElem?_append_left (by simpa using o),Array.getElem?_modify,if_pos rfl,i]
  rfl
 refine⟨rfl,fun c t=> ?_,?_, .inr ⟨g,cap,_,by rw[a],Xn _,p,by rw[a];omega,r,?_,?_⟩⟩
 ·obtain⟨u,_,rfl⟩:=List.mem_map.1 t;rfl
 ·rw[ZnJ,a,Xb,List.length_take];omega
 ·unfold Sort.putCells;rw[Array.size_mapIdx,f,Nat.mul_one]
 ·rw[a,ZnJ,Nat.mul_one]
  apply List.ext_getElem?
  intro j
  by_cases k:j<m
  ·have b:j<ds.length:=by omega
   have l:j<d.size:=by omega
   rw[List.getElem?_take,if_pos k,Xe,List.getElem?_take,if_pos k,Array.getElem?_toList,Xa b]
   unfold Sort.putCells
   rw[Array.getElem?_mapIdx,Array.getElem?_eq_getElem l]
   simp[b]
  ·rw[List.getElem?_eq_none (by rw[List.length_take];omega),List.getElem?_eq_none (by rw[Xb,List.length_take];omega)]
def Zdg {P:Program} (w:World) {ops:Array Oper} {rest:List Oper} {o:Oper} {a:Act} {Q:Exit→Act→World→Prop} (hgd:o.guard=none) (s x:Operand) (t:TypeId)
  (ho:o.op= .call {callee:= .builtin .append,args:= #[s,x],argTypes:= #[t,t]})
  (e:TypeId) {size bytes:Nat} (ht:P.underlying t=some (.slice e)) (hi:(P.info? e).map (fun i=>(i.zero,i.size,i.bytes))=some (some z,size,bytes)) (hzs:z.cells.size=size) (hsz:0<size) (hby:bytes≤200)
  (v:Value) (xs:List (List Value)) (F:List Nat) (hs:a.eval s=v) (hr:Zk e size v xs w F)
  (u:Value) (ys:List (List Value)) (G:List Nat) (hx:a.eval x=u) (hy:Zk e size u ys w G) (h1:∀c∈ys,∀u∈c,u.oneCell'=true) (hl:xs.length+ys.length≤500000000000)
  (h:∀v' w' F',Zk e size v' (xs++ys) w' F'→Zg F w w'→(∀x∈F',x∈F∨w.heap.size≤x)→wpList P ops Q rest (a.put o.dst v') w'):wpList P ops Q (o::rest) a w:=by
 obtain⟨i,r,J,C,H⟩:=info_parts hi
 obtain⟨rfl,f,q⟩:=hr
 have y:=hy.2.1
 obtain⟨A,c,rfl,p,O⟩:=hy.lies
 have n:=hy.2.2.1
 refine ZbH w hgd s x t ho 0 e i z size bytes ht r J C H hzs hsz v xs.length xs.flatten hs q A ys.length c ys.flatten hx n (fun j u b=> ?_) (fun u m=>by obtain⟨c,p,m⟩:=List.mem_flatten.1 m;exact h1 c p u m) (by unfold maxLen;omega) ?_ (Xn _) ?_
 ·rcases hy.form with⟨_,rfl,_⟩|⟨g,T,V,l,rfl,N,S,W,R,E⟩
  ·simp at b
  ·injection l with l _ _
   refine⟨_,l,?_⟩
   rw[add_plain]
   refine Zf N ?_
   rw[Nat.zero_add,←Array.getElem?_toList]
   have I:j<ys.length*size:=by rw[←n];exact(Jk b)
   rw[←E,List.getElem?_take,if_pos I]at b
   exact b
 ·calc (xs.length+ys.length)*bytes≤500000000000*200:=Nat.mul_le_mul (by omega) hby
   _≤140737488355328:=by omega
 ·intro v' w' L K M
  refine h v' w' v'.ownBlock.toList ⟨rfl,fun d hd=> ?_,?_⟩ ((Zg.refl _ w).grown K (fun k f=> .inr (by simp[f]))) (fun x hx=> ?_)
  ·rcases List.mem_append.1 hd with h1|h1
   ·exact f d h1
   ·exact y d h1
  ·rw[Xd,List.flatten_append]
   exact Zie L (Xn _)
  ·rcases M with ho|ho
   ·rw[ho]at hx;exact .inl hx
   ·rw[ho]at hx;right;simp at hx;omega
theorem Zdp:∀(l:List Bs) (a b:Bs),ZO (l++[a,b])=if a=b then ZO (l++[a])else ZO (l++[a])++[b]
 |[],a,b=>by
  show ZO [a,b]=if a=b then ZO [a]else ZO [a]++[b]
  unfold ZO
  split
  ·rename_i h;rw[h];rfl
  ·rfl
 |[x],a,b=>by
  have ih:=Zdp [] a b
  simp only[List.nil_append]at ih
  show ZO (x::a::[b])=if a=b then ZO (x::a::[])else ZO (x::a::[])++[b]
  rw[ZO,ZO.eq_def (x::a::[])]
  dsimp only
  rw[ih]
  split<;>split<;>rfl
 |x::y::l,a,b=>by
  have ih:=Zdp (y::l) a b
  show ZO (x::y::(l++[a,b]))=if a=b then ZO (x::y::(l++[a]))else ZO (x::y::(l++[a]))++[b]
  rw[ZO,ZO.eq_def (x::y::(l++[a]))]
  dsimp only
  simp only[List.cons_append]at ih
  rw[ih]
  split<;>split<;>rfl
theorem Zgt (zs:List Bs):∀m,m≤zs.length→compactUpTo zs.toArray m=ZO (zs.take m)
 |0,_=>rfl
 |m+1,h=>by
  rw[compactUpTo_succ,Zgt zs m (by omega)]
  have hm:zs.toArray[m]! =zs[m]:=by rw[getElem!_pos zs.toArray m (by simp;omega)];simp
  cases m with
  |zero=>
   have hz:zs.take 1=[zs[0]]:=by
    cases zs with
    |nil=>simp at h
    |cons a l=>rfl
   rw[hm,hz]
   rfl
  |succ k=>
   have d:zs.toArray[k+1-1]! =zs[k]:=by rw[Nat.add_sub_cancel,getElem!_pos zs.toArray k (by simp;omega)];simp
   have c:zs.take (k+1)=zs.take k++[zs[k]]:=Xr (by omega)
   have f:zs.take (k+1+1)=zs.take k++[zs[k],zs[k+1]]:=by rw[Xr (by omega),c,List.append_assoc];rfl
   rw[f,Zdp,c]
   by_cases b:zs[k]=zs[k+1]
   ·rw[if_pos b,keeps_neg (by omega) (by rw[hm,d,b])]
    simp
   ·rw[if_neg b,keeps_pos (by rw[hm,d];exact fun e=>b e.symm),hm]
    simp
def Zio (zs:List Bs):Lib.compact zs=ZO zs:=by
 unfold Lib.compact
 rw[Zgt zs _ (Xi _),Xm]
def Zd3 (zs:List Bs):(ZO zs).length≤zs.length:=by
 rw[←Zio]
 unfold Lib.compact compactUpTo
 rw[Xb]
 exact Xj (Xq _ _) (by simp)
end Go.Lk
namespace Go.Proofs.YtlhapbopmplngaaGreatDoor
open Go.RowKit Go.Lk
def Zic {g n cap:Nat} (h:Z9 (.slice (some ⟨g,0,none⟩) n cap) l w F):Sort.Holds encStr w g 0 l.toArray:=by
 obtain⟨d,_,_,c,i,f,e,ht⟩:=h.block
 intro j a
 have b:j<l.length:=by simpa using a
 refine⟨?_,ZS c⟩
 have:=Zk.liesAt h (j:=j) (cs:=Za8 l[j]) (by rw[Xe,Xa b];rfl) 0 _ rfl
 rw[Nat.mul_one,Nat.add_zero]at this
 rw[Nat.zero_add,this,getElem!_pos l.toArray j a]
 simp
def ZjC (h:Z9 v l w F) (hl:l.length≤1000000):
  Calls Tryz.prog 262 #[v] w fun e w'=>e= .returned (.tuple #[])∧Z9 v (ZbB l) w' F∧Zg F w w':=by
 rcases h.form with⟨rfl,m,rfl⟩|⟨g,c,o,b,rfl,k,q,s,p,ht⟩
 ·refine(Tryz.slices_Sort_string_none none 0 w).mono ?_
  rintro e w' ⟨rfl,rfl⟩
  have i:l=[]:=List.map_eq_nil_iff.1 m
  subst i
  exact⟨rfl,by simpa[ZbB]using h,Zg.refl _ _⟩
 ·rw[Xb]at b
  subst b
  refine(Tryz.slices_Sort_string g 0 c l w (Zic h) (Jg k) (by omega)).mono ?_
  rintro e w' ⟨rfl,n,j,a⟩
  have d:(ZbB l).length=l.length:=by unfold ZbB;exact List.length_mergeSort ..
  have r:=ZnN encStr h n j (ZbB l) (ZbB l).length (by omega) (Xi _) a
  rw[Xm,d]at r
  exact⟨rfl,r,by rw[a];exact Zfy _ _ _ _ _ _ _⟩
def Zf7 (h:Z9 v l w F) (hl:l.length≤1000000):
  Calls Tryz.prog 263 #[v] w fun e w'=>∃v',e= .returned v'∧Z9 v' (ZO l) w' F∧Zg F w w':=by
 rcases h.form with⟨rfl,j,rfl⟩|⟨g,d,k,c,rfl,o,b,p,n,ht⟩
 ·refine(Tryz.slices_Compact_string_empty none 0 w).mono ?_
  rintro e w' ⟨rfl,rfl⟩
  have i:l=[]:=List.map_eq_nil_iff.1 j
  subst i
  exact⟨_,rfl,h,Zg.refl _ _⟩
 ·rw[Xb]at c b
  subst c
  refine(Tryz.slices_Compact_string g 0 d l w (Zic h) (by omega) b).mono ?_
  rintro e w' ⟨rfl,q,a⟩
  rw[Zio]at a⊢
  have m:=Zd3 l
  have r:=ZnN (W2:=w') encStr h q #[] (ZO l++List.replicate (l.length-(ZO l).length) []) (ZO l).length (by simp;omega) (by simp) (by rw[a];simp)
  rw[List.take_left]at r
  exact⟨_,rfl,r,by rw[a];have:=Zfy encStr w g 0 q (ZO l++List.replicate (l.length-(ZO l).length) []).toArray #[];simpa using this⟩
end Go.Proofs.YtlhapbopmplngaaGreatDoor
