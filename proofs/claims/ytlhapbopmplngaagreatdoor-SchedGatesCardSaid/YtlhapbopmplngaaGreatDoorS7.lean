import Derived.Lib.SplitLaws
import Derived.Test.YtlhapbopmplngaaGreatDoorS2
import Derived.Test.YtlhapbopmplngaaGreatDoorS3
set_option linter.all false
set_option maxHeartbeats 16000000
set_option maxRecDepth 100000
set_option autoImplicit true
set_option relaxedAutoImplicit true
namespace Go.Proofs.YtlhapbopmplngaaGreatDoor
open Go.RowKit Go.Lk
def Y3 (w:World) (A:Option Addr) (ws:List Bs):Prop:=∀(j:Nat) (x:Bs),ws[j]? =some x→∃ab ao,A=some ⟨ab,ao,none⟩∧w.cell? ⟨ab,ao+j,none⟩=some (.string ⟨x.toArray⟩)
def Y3.upd {ws:List Bs} (h:Y3 w A ws) (hu:Zg F w w1) (hF:∀ab ao,A=some ⟨ab,ao,none⟩→ab∉F:=by simp):Y3 w1 A ws:=fun j x hj=>by
 obtain⟨ab,ao,e,hc⟩:=h j x hj
 exact⟨ab,ao,e,(Xp (hu.block ab (Xo _ _ hc) (hF ab ao e))).trans hc⟩
def Y3.tail {x:Bs} {ws:List Bs} (h:Y3 w A (x::ws)):Y3 w (A.map (fun a=>a.add 1)) ws:=fun j y hj=>by
 obtain⟨ab,ao,rfl,hc⟩:=h (j+1) y (by simpa using hj)
 exact⟨ab,ao+1,by simp[add_plain],by rw[show ao+1+j=ao+(j+1)by omega];exact hc⟩
def Y3.nil (w:World) (A:Option Addr):Y3 w A []:=fun j x hj=>by cases hj
def Y3.fresh (w:World) (T:TypeId) (xs:List ByteArray):Y3 (w.alloc (.cells (xs.map Value.string).toArray T)) (some ⟨w.heap.size,0,none⟩) (xs.map (·.data.toList)):=fun j x hj=>by
 rw[Xe]at hj
 obtain⟨y,hy,rfl⟩:=Option.map_eq_some_iff.1 hj
 refine⟨w.heap.size,0,rfl,?_⟩
 rw[Nat.zero_add]
 exact Zf (Za _) (by simp[hy])
def ZgZ (hE:Env w) (s:Bs) (c:UInt8) (hs:s.length≤900000):
  Calls Tryz.prog 255 #[.string ⟨s.toArray⟩, .string ⟨#[c]⟩] w fun e w'=>e= .returned (.slice (some ⟨w.heap.size,0,none⟩) (Lib.split s [c]).length (Lib.split s [c]).length)∧Y3 w' (some ⟨w.heap.size,0,none⟩) (Lib.split s [c])∧Zg [] w w':=by
 obtain⟨m,g⟩:=hE.m
 have h:= Tryz.strings_Split ⟨s.toArray⟩ ⟨#[c]⟩ m w (by simp[ByteArray.size];omega) g (Xi 1)
 have hd:=Lib.splitB_data ⟨#[c]⟩ 0 (Lib.countB ⟨s.toArray⟩ ⟨#[c]⟩) ⟨s.toArray⟩
 have d:=Lib.splitB_all ⟨#[c]⟩ (Xi 1) 0 _ ⟨s.toArray⟩ rfl
 have a:(Lib.splitB ⟨#[c]⟩ 0 (Lib.countB ⟨s.toArray⟩ ⟨#[c]⟩) ⟨s.toArray⟩).map (·.data.toList)=Lib.split s [c]:=hd
 have b:Lib.countB ⟨s.toArray⟩ ⟨#[c]⟩+1=(Lib.split s [c]).length:=by rw[←a,Xb,d]
 refine h.mono ?_
 rintro e w' ⟨rfl,rfl⟩
 rw[b]
 refine⟨rfl,?_,(Zg.refl [] w).alloc _⟩
 have:=Y3.fresh w 9 (Lib.splitB ⟨#[c]⟩ 0 (Lib.countB ⟨s.toArray⟩ ⟨#[c]⟩) ⟨s.toArray⟩)
 rw[a]at this
 exact this
end Go.Proofs.YtlhapbopmplngaaGreatDoor
namespace Go.Lk
open Go.Lib
theorem Zjt (c:UInt8):∀(x r:List UInt8),c∉x→index (x++c::r) [c]=x.length
 |[],r,_=>by simp[index]
 |b::x,r,h=>by
  have hb:c≠b:=fun e=>h (by simp[e])
  have ih:=Zjt c x r (fun hm=>h (by simp[hm]))
  show index (b::(x++c::r)) [c]=_
  rw[index]
  simp only[List.isPrefixOf,beq_iff_eq,Bool.and_true,hb,if_false,ih]
  rw[if_neg (by omega)]
  simp
def ZjA (c:UInt8) (x:List UInt8) (h:c∉x):split x [c]=[x]:=by
 unfold split
 rw[count_one,List.count_eq_zero.2 h];rfl
def ZjL (c:UInt8) (x r:List UInt8) (h:c∉x):split (x++c::r) [c]=x::split r [c]:=by
 unfold split
 have a:count (x++c::r) [c]=count r [c]+1:=by
  rw[count_one,count_one,List.count_append,List.count_cons_self,List.count_eq_zero.2 h];omega
 rw[a,splitK,Zjt c x r h,if_neg (by simp)]
 simp only[Int.toNat_natCast,Nat.add_zero,List.length_cons,List.length_nil,List.take_left']
 rw[show(x++c::r).drop (x.length+(0+1))=r by rw[List.drop_append];simp]
end Go.Lk
namespace Go.Proofs.YtlhapbopmplngaaGreatDoor
open Go.RowKit Go.Lk
def ZiS:(Tryz.prog.info? 239).map (fun i=>(i.zero,i.size,i.bytes))=some (some (.agg #[.int .i64 0, .string ⟨#[]⟩, .int .u64 0]),3,32):=by kernel_rfl
def Zif:Zu Tryz.prog 239 3=true:=by kernel_rfl
def Zpx:(Tryz.prog.info? 239).map (fun i=>(i.size,i.bytes))=some (3,32):=by kernel_rfl
def ZoX:Zc1 Tryz.prog 277 239 3:=by
 intro α E p g B v l w F H K R
 exact ZhW Zif
def Zpu:Zlu Tryz.prog 277 239 3:=by
 intro α E p g B I J v l w F G H O Q K R
 exact ZrS Zif
def ZoA:Zli Tryz.prog 212 239 3:=by
 intro α E p g B I J v l w F G H U O Q K R
 have d:∀b w,(callFunc 277 b).run Tryz.prog w= .ok (.enter 277 b) w:=enters_of Tryz.func277 (by kernel_rfl) rfl
 exact ZrT Zif (Zpu E p g B I J H O Q K R) (@ZjY _ _ _ 3 _ _ Tryz.underlying172 (fun w=> Tryz.zeroValue239 w) rfl rfl (by decide) (by simp[Value.oneCell']))
def ZgD:Zco Tryz.prog 205 239 3:=by
 intro g cap i j J xs w F H U I
 exact ZjS (Zb3 Zpx) Tryz.underlying172 (ZbY (k:=3) Tryz.underlying172 (fun w=> Tryz.zeroValue239 w) rfl rfl (by simp[Value.oneCell']) J H U I)
def ZkK:(Tryz.prog.info? 320).map (fun i=>(i.zero,i.size,i.bytes))=some (some (.agg #[.int .i64 0, .string ⟨#[]⟩, .string ⟨#[]⟩, .bool false, .string ⟨#[]⟩, .string ⟨#[]⟩, .slice none 0 0]),7,104):=by kernel_rfl
def Zjs:Zu Tryz.prog 320 7=true:=by kernel_rfl
def ZmO:(Tryz.prog.info? 320).map (fun i=>(i.size,i.bytes))=some (7,104):=by kernel_rfl
def ZdZ:Zc1 Tryz.prog 223 320 7:=by
 intro α E p g B v l w F H K R
 exact ZhW Zjs
def Zh9:Zco Tryz.prog 245 320 7:=by
 intro g cap i j J xs w F H U I
 exact ZjS (Zb3 ZmO) Tryz.underlying194 (ZbY (k:=7) Tryz.underlying194 (fun w=> Tryz.zeroValue320 w) rfl rfl (by simp[Value.oneCell']) J H U I)
def ZfH (w:World) (A:Option Addr) (l:List Int):Prop:=∀(j:Nat) (x:Int),l[j]? =some x→∃ab ao,A=some ⟨ab,ao,none⟩∧w.cell? ⟨ab,ao+j,none⟩=some (.int .i64 x)
def ZfH.upd {ws:List Int} (h:ZfH w A ws) (hu:Zg F w w1) (hF:∀ab ao,A=some ⟨ab,ao,none⟩→ab∉F:=by simp):ZfH w1 A ws:=fun j x hj=>by
 obtain⟨ab,ao,e,hc⟩:=h j x hj
 exact⟨ab,ao,e,(Xp (hu.block ab (Xo _ _ hc) (hF ab ao e))).trans hc⟩
def Zoq (A:Option Addr) (c:Nat) (l:List Bs) (k:Bs) (hs:Y3 w A l) (hl:l.length≤1000000):
  Calls Tryz.prog 215 #[.slice A l.length c, .string ⟨k.toArray⟩] w fun e w'=>e= .returned (.int .i64 (Y5 (fun x=>k==x) l))∧w'=w:=by
 have o:=D hs
 clear hs
 go_in
 go_wp2
 go_loop [5,8] (fun _ s8=>∃kk:Nat,kk≤l.length∧s8= .int .i64 kk∧Hid (∀(j:Nat) (x:Bs),j<kk→l[j]? =some x→(k==x)=false)) (fun _ s8=>l.length-(intOf s8).toNat)
 case atStart=>exact⟨0,Xn _,rfl,D (fun j x i=>absurd i (Nat.not_lt_zero _))⟩
 case round=>
  obtain⟨kk,q,rfl,g⟩:=hrel
  by_cases h:kk<l.length
  ·obtain⟨x,hx⟩:∃x,l[kk]? =some x:=⟨_,Xa h⟩
   obtain⟨t,r,rfl,s⟩:=o.out kk x hx
   have m:=D hx
   obtain⟨b,a⟩:=Je ((k==x))
   have n:=D a
   clear hx
   cases b with
   |true=>
    have z:(k==x)=true:=a.symm
    clear a
    go_wp2
    go_ret
    refine⟨?_,rfl⟩
    rw[ZcN (p:=fun x=>k==x) h m n.symm g.out];rfl
   |false=>
    have z:(k==x)=false:=a.symm
    clear a
    go_wp2
    go_round
    case rel=>
     refine⟨kk+1,by omega,by go_num,D (fun j y i d=> ?_)⟩
     by_cases e:j=kk
     ·subst e;rw[m.out]at d;cases d;exact n.symm
     ·exact g j y (by omega) d
    case measure=>simp[intOf];omega
  ·obtain rfl:kk=l.length:=by omega
   go_wp2
   go_ret
   refine⟨?_,rfl⟩
   rw[Zb4 g.out];rfl
def Zkz (A:Option Addr) (c:Nat) (l:List Bs) (k:Bs) (hs:Y3 w A l) (hl:l.length≤1000000):
  Calls Tryz.prog 139 #[.slice A l.length c, .string ⟨k.toArray⟩] w fun e w'=>e= .returned (.bool (l.contains k))∧w'=w:=by
 have b:=Zoq A c l k hs hl
 have a:decide (0≤Y5 (fun x=>k==x) l)=l.contains k:=(Zc4 _ _).trans (by rw[List.contains_eq_any_beq])
 obtain⟨r,g⟩:=Je (Y5 (fun x=>k==x) l)
 rw[←g]at b a
 rw[←a]
 have h:=D b
 clear b g a hs
 go_in
 go_wp2_with fail
 refine h.out.mono ?_
 rintro e w' ⟨rfl,d⟩
 rw[d];clear d w'
 go_wp2_with fail
 go_ret
 exact⟨rfl,rfl⟩
def Zol (A:Option Addr) (c:Nat) (l:List Int) (k:Int) (hs:ZfH w A l) (hl:l.length≤1000000):
  Calls Tryz.prog 125 #[.slice A l.length c, .int .i64 k] w fun e w'=>e= .returned (.int .i64 (Y5 (fun x=>k==x) l))∧w'=w:=by
 have o:=D hs
 clear hs
 go_in
 go_wp2
 go_loop [5,8] (fun _ s8=>∃kk:Nat,kk≤l.length∧s8= .int .i64 kk∧Hid (∀(j:Nat) (x:Int),j<kk→l[j]? =some x→(k==x)=false)) (fun _ s8=>l.length-(intOf s8).toNat)
 case atStart=>exact⟨0,Xn _,rfl,D (fun j x i=>absurd i (Nat.not_lt_zero _))⟩
 case round=>
  obtain⟨kk,q,rfl,g⟩:=hrel
  by_cases h:kk<l.length
  ·obtain⟨x,hx⟩:∃x,l[kk]? =some x:=⟨_,Xa h⟩
   obtain⟨t,r,rfl,s⟩:=o.out kk x hx
   have m:=D hx
   obtain⟨b,a⟩:=Je ((k==x))
   have n:=D a
   clear hx
   cases b with
   |true=>
    have z:(k==x)=true:=a.symm
    clear a
    go_wp2
    go_ret
    refine⟨?_,rfl⟩
    rw[ZcN (p:=fun x=>k==x) h m n.symm g.out];rfl
   |false=>
    have z:(k==x)=false:=a.symm
    clear a
    go_wp2
    go_round
    case rel=>
     refine⟨kk+1,by omega,by go_num,D (fun j y i d=> ?_)⟩
     by_cases e:j=kk
     ·subst e;rw[m.out]at d;cases d;exact n.symm
     ·exact g j y (by omega) d
    case measure=>simp[intOf];omega
  ·obtain rfl:kk=l.length:=by omega
   go_wp2
   go_ret
   refine⟨?_,rfl⟩
   rw[Zb4 g.out];rfl
def ZfL (A:Option Addr) (c:Nat) (l:List Int) (k:Int) (hs:ZfH w A l) (hl:l.length≤1000000):
  Calls Tryz.prog 66 #[.slice A l.length c, .int .i64 k] w fun e w'=>e= .returned (.bool (l.contains k))∧w'=w:=by
 have b:=Zol A c l k hs hl
 have a:decide (0≤Y5 (fun x=>k==x) l)=l.contains k:=(Zc4 _ _).trans (by rw[List.contains_eq_any_beq])
 obtain⟨r,g⟩:=Je (Y5 (fun x=>k==x) l)
 rw[←g]at b a
 rw[←a]
 have h:=D b
 clear b g a hs
 go_in
 go_wp2_with fail
 refine h.out.mono ?_
 rintro e w' ⟨rfl,d⟩
 rw[d];clear d w'
 go_wp2_with fail
 go_ret
 exact⟨rfl,rfl⟩
def ZeP:(Tryz.prog.info? 268).map (fun i=>(i.zero,i.size,i.bytes))=some (some (.agg #[.string ⟨#[]⟩, .string ⟨#[]⟩, .bool false, .string ⟨#[]⟩, .string ⟨#[]⟩, .int .u64 0]),6,80):=by kernel_rfl
def ZcH:Zu Tryz.prog 268 6=true:=by kernel_rfl
def Zmp:(Tryz.prog.info? 268).map (fun i=>(i.size,i.bytes))=some (6,80):=by kernel_rfl
def Zid:Zc1 Tryz.prog 238 268 6:=by
 intro α E p g B v l w F H K R
 exact ZhW ZcH
def Zmi:Zlu Tryz.prog 238 268 6:=by
 intro α E p g B I J v l w F G H O Q K R
 exact ZrS ZcH
def Znb:Zli Tryz.prog 340 268 6:=by
 intro α E p g B I J v l w F G H U O Q K R
 have d:∀b w,(callFunc 238 b).run Tryz.prog w= .ok (.enter 238 b) w:=enters_of Tryz.func238 (by kernel_rfl) rfl
 exact ZrT ZcH (Zmi E p g B I J H O Q K R) (@ZjY _ _ _ 6 _ _ Tryz.underlying185 (fun w=> Tryz.zeroValue268 w) rfl rfl (by decide) (by simp[Value.oneCell']))
def Zny:Zco Tryz.prog 242 268 6:=by
 intro g cap i j J xs w F H U I
 exact ZjS (Zb3 Zmp) Tryz.underlying185 (ZbY (k:=6) Tryz.underlying185 (fun w=> Tryz.zeroValue268 w) rfl rfl (by simp[Value.oneCell']) J H U I)
end Go.Proofs.YtlhapbopmplngaaGreatDoor
namespace Go.Lk
open Go Go.RowKit
def Zg9 {P:Program} (w:World) {ops:Array Oper} {rest:List Oper} {o:Oper} {a:Act} {Q:Exit→Act→World→Prop} (hgd:o.guard=none) (s x:Operand) (t:TypeId)
  (ho:o.op= .call {callee:= .builtin .append,args:= #[s,x],argTypes:= #[t,t]})
  (e:TypeId) {bytes:Nat} (ht:P.underlying t=some (.slice e)) (hi:(P.info? e).map (fun i=>(i.zero,i.size,i.bytes))=some (some z,1,bytes)) (hzs:z.cells.size=1) (hby:bytes≤200)
  (hs:a.eval s= .slice none 0 0) (v:Value) (xs:List (List Value)) (F:List Nat) (hx:a.eval x=v) (hr:Zk e 1 v xs w F) (h1:∀c∈xs,∀u∈c,u.oneCell'=true) (hl:xs.length≤500000000000)
  (h:∀v' w' F',Zk e 1 v' xs w' F'→Zg [] w w'→(∀k∈F',w.heap.size≤k)→wpList P ops Q rest (a.put o.dst v') w'):wpList P ops Q (o::rest) a w:=by
 obtain⟨i,y,E,r,C⟩:=info_parts hi
 have b:=hr.2.1
 obtain⟨A,c,rfl,n,q⟩:=hr.lies1
 have H:xs.flatten.length=xs.length:=by rw[Yn b];omega
 refine ZbH w hgd s x t ho 0 e i z 1 bytes ht y E r C hzs (by omega) (.slice none 0 0) 0 [] hs (by simpa using(ZA e 1 w).2.2) A xs.length c xs.flatten hx (by omega) (fun j u p=> ?_) (fun u m=> ?_) (by unfold maxLen;omega) ?_ (Xn _) ?_
 ·have l:j<xs.length:=by have:=(Jk p);omega
  obtain⟨I,rfl,g⟩:=q j _ (Xa l)
  refine⟨_,rfl,?_⟩
  rw[add_plain]
  have G:(xs[j]).length=1:=b _ (List.getElem_mem l)
  have d:=Zc7 b j 0 _ _ (Xa l) (Xa (by omega))
  rw[Nat.mul_one,Nat.add_zero,p]at d
  injection d with d
  have:=g 0 _ (Xa (by omega:0<(xs[j]).length))
  rw[d];simpa using this
 ·obtain⟨c,n,m⟩:=List.mem_flatten.1 m
  exact h1 c n u m
 ·calc (0+xs.length)*bytes≤500000000000*200:=Nat.mul_le_mul (by omega) hby
   _≤140737488355328:=by omega
 ·intro v' w' g d f
  refine h v' w' v'.ownBlock.toList ⟨rfl,b,?_⟩ ((Zg.refl [] w).grown d (fun k b=>by simp[Value.ownBlock]at b)) (fun k b=> ?_)
  ·rw[Nat.zero_add,List.nil_append]at g
   exact g
  ·rcases f with f|f
   ·rw[f]at b;simp[Value.ownBlock]at b
   ·rw[f]at b;simp at b;omega
end Go.Lk
namespace Go.Proofs.YtlhapbopmplngaaGreatDoor
open Go.RowKit Go.Lk
def Zlv:(Tryz.prog.info? 201).map (fun i=>(i.zero,i.size,i.bytes))=some (some (.agg #[.slice none 0 0, .bool false]),2,32):=by kernel_rfl
def ZpO:Zu Tryz.prog 201 2=true:=by kernel_rfl
def ZmH:Zc1 Tryz.prog 191 201 2:=by
 intro α E p g B v l w F H K R
 exact ZhW ZpO
def Znu:(Tryz.prog.info? 216).map (fun i=>(i.zero,i.size,i.bytes))=some (some (.agg #[.int .i64 0, .int .i64 0, .string ⟨#[]⟩]),3,32):=by kernel_rfl
def ZiO:Zu Tryz.prog 216 3=true:=by kernel_rfl
def Zow:(Tryz.prog.info? 216).map (fun i=>(i.size,i.bytes))=some (3,32):=by kernel_rfl
def Zpv:Zc1 Tryz.prog 265 216 3:=by
 intro α E p g B v l w F H K R
 exact ZhW ZiO
def ZpK:Zco Tryz.prog 203 216 3:=by
 intro g cap i j J xs w F H U I
 exact ZjS (Zb3 Zow) Tryz.underlying197 (ZbY (k:=3) Tryz.underlying197 (fun w=> Tryz.zeroValue216 w) rfl rfl (by simp[Value.oneCell']) J H U I)
end Go.Proofs.YtlhapbopmplngaaGreatDoor
