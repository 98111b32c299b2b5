import Derived.Test.YtlhapbopmplngaaGreatDoorS17
import Derived.Test.YtlhapbopmplngaaGreatDoorS18
set_option linter.all false
set_option maxHeartbeats 16000000
set_option maxRecDepth 100000
set_option autoImplicit true
set_option relaxedAutoImplicit true
namespace Go.Proofs.YtlhapbopmplngaaGreatDoor
open Go.RowKit Go.Lk
def Zae (w:Zdz):List Value:=[.string ⟨w.cell.origin.toArray⟩, .string ⟨w.cell.url.toArray⟩, .bool w.cell.creds, .string ⟨w.method.toArray⟩, .string ⟨w.names.toArray⟩]
def Yd (u:Value) (s:ZE):List Value:=[.int .i64 s.num, .string ⟨s.want.cell.origin.toArray⟩, .string ⟨s.want.cell.url.toArray⟩, .bool s.want.cell.creds, .string ⟨s.want.method.toArray⟩, .string ⟨s.want.names.toArray⟩,u]
def YA (b:Nat) (last:Int) (gl:List (Value×ZE)):YD:=Zbc b (fun v=> #[v, .int .i64 last]) 196 320 7 Yd (·.members) gl
def Zcd (b:Nat) (last:Int) (l:List ZE):YD:=Zil b (fun v=> #[v, .int .i64 last]) 196 320 7 Yd (·.members) l
def Z6.ints (h:Z6 v l w F):∃A c,v= .slice A l.length c∧l.length≤c∧ZfH w A l:=by
 obtain⟨A,c,a,b,e⟩:=h.lies1
 rw[Xb]at a b
 refine⟨A,c,a,b,fun j x g=> ?_⟩
 obtain⟨i,f,d⟩:=e j (Zcl x) (by rw[Xe,g];rfl)
 exact⟨i,0,f,by have:=d 0 _ rfl;simpa using this⟩
def ZpA (u:Value) (x:ZE) (box:Nat) (num:Int) (W:World) (hc:W.cell? ⟨box,0,none⟩=some (.int .i64 num)):
  Calls Tryz.prog 296 #[.agg (Yd u x).toArray, .pointer (some ⟨box,0,none⟩)] W fun e w'=>e= .returned (.bool (x.num==num))∧Zg [] W w':=by
 have a:=Zay hc
 have b:box≠W.heap.size:=by omega
 show Calls _ _ #[.agg #[.int .i64 x.num, .string ⟨x.want.cell.origin.toArray⟩, .string ⟨x.want.cell.url.toArray⟩, .bool x.want.cell.creds, .string ⟨x.want.method.toArray⟩, .string ⟨x.want.names.toArray⟩,u], .pointer (some ⟨box,0,none⟩)] W _
 go_in
 go_wp2
 go_ret
 exact⟨rfl,(Zg.refl _ _).alloc _⟩
def ZkQ (u:Value) (x:ZE) (box:Nat) (id:Int) (W:World) (hm:Z6 u x.members W M) (hl:x.members.length≤1000000) (hc:W.cell? ⟨box,0,none⟩=some (.int .i64 id)):
  Calls Tryz.prog 287 #[.agg (Yd u x).toArray, .pointer (some ⟨box,0,none⟩)] W fun e w'=>e= .returned (.bool (x.members.contains id))∧Zg [] W w':=by
 have k:=Zay hc
 have n:box≠W.heap.size:=by omega
 obtain⟨A,c,rfl,m,h⟩:=hm.ints
 obtain⟨j,g,a,hv⟩:=Kc W (.cells (Yd (.slice A x.members.length c) x).toArray 320)
 have p:=Jc 6 hv
 have q:j.cell? ⟨box,0,none⟩=some (.int .i64 id):=(Xp (a.block box k (by simp))).trans hc
 have b:=ZfL A c x.members id (h.upd a) hl
 obtain⟨r,i⟩:=Je (x.members.contains id)
 rw[←i]at b⊢
 have l:=D b
 clear b i
 have d:W.alloc (.cells #[.int .i64 x.num, .string ⟨x.want.cell.origin.toArray⟩, .string ⟨x.want.cell.url.toArray⟩, .bool x.want.cell.creds, .string ⟨x.want.method.toArray⟩, .string ⟨x.want.names.toArray⟩, .slice A x.members.length c] 320)=j:=g.symm
 clear g hv hm h hc;change Hid _ at d a
 show Calls _ _ #[.agg #[.int .i64 x.num, .string ⟨x.want.cell.origin.toArray⟩, .string ⟨x.want.cell.url.toArray⟩, .bool x.want.cell.creds, .string ⟨x.want.method.toArray⟩, .string ⟨x.want.names.toArray⟩, .slice A x.members.length c], .pointer (some ⟨box,0,none⟩)] W _
 go_in
 go_upto_region 1 with fail
 rw[d.out]
 go_wp2_with fail
 refine l.out.mono ?_
 rintro e o ⟨rfl,rfl⟩
 go_wp2_with fail
 go_ret
 exact⟨rfl,a.out⟩
def YA.row {last:Int} {gl:List (Value×ZE)} (h:YA b last gl w F):
  ∃v G,b∉G∧w.heap[b]? =some (.cells #[v, .int .i64 last] 196 (0,0))∧Zk 320 7 v (gl.map fun p=>Yd p.1 p.2) w G∧(∀q∈b::G,q∈F):=by
 obtain⟨f,ho,c,_⟩:=Zgn h
 obtain⟨v,G,rfl,a,d,e⟩:=ho
 exact⟨v,G,a,d,e,c⟩
def Zln {last:Int} {gl:List (Value×ZE)} (h:YA b last gl w F) (num:Int):
  Calls Tryz.prog 231 #[.pointer (some ⟨b,0,none⟩), .int .i64 num] w fun e w'=>e= .returned (.int .i64 (Y5 (fun p=>p.2.num==num) gl))∧Zg [] w w':=by
 obtain⟨v,G,o,m,k,_⟩:=YA.row h
 obtain⟨s,l,a,d⟩:=Kc w (.cells #[.int .i64 num] 3)
 have z:s.cell? ⟨b,0,none⟩=some v:=Zf (i:=0) ((Kv a m)) rfl
 have c:=ZdZ (fun p:Value×ZE=>Yd p.1 p.2) (fun p=>p.2.num==num) 296 #[.pointer (some ⟨w.heap.size,0,none⟩)] ((Zc _ _ _ _).upd k a) (enters_of Tryz.func296 (by kernel_rfl) rfl) (fun W x _ y=>ZpA x.1 x.2 w.heap.size num W (Zf (i:=0) ((Kv y d)) rfl))
 obtain⟨r,j⟩:=Je (Y5 (fun p:Value×ZE=>p.2.num==num) gl)
 rw[←j]at c⊢
 have q:=D c
 clear c d m k o h j;change Hid _ at l a
 go_in
 go_upto_region 1 with fail
 rw[←l.out]
 go_wp2_with fail
 refine q.out.mono ?_
 rintro e C ⟨rfl,g⟩
 have n:=Jt a g
 clear g
 go_wp2_with fail
 go_ret
 exact⟨rfl,n.out⟩
def Zc0 {last:Int} {gl:List (Value×ZE)} (h:YA b last gl w F) (hl:∀p∈gl,p.2.members.length≤1000000) (id:Int):
  Calls Tryz.prog 221 #[.pointer (some ⟨b,0,none⟩), .int .i64 id] w fun e w'=>e= .returned (.int .i64 (Y5 (fun p=>p.2.members.contains id) gl))∧Zg [] w w':=by
 obtain⟨v,G,q,m,k,_⟩:=YA.row h
 obtain⟨z,l,a,d⟩:=Kc w (.cells #[.int .i64 id] 3)
 have E:z.cell? ⟨b,0,none⟩=some v:=Zf (i:=0) ((Kv a m)) rfl
 have c:=ZdZ (fun p:Value×ZE=>Yd p.1 p.2) (fun p=>p.2.members.contains id) 287 #[.pointer (some ⟨w.heap.size,0,none⟩)] ((Zc _ _ _ _).upd k a) (enters_of Tryz.func287 (by kernel_rfl) rfl) (fun W x hx n=>by
  obtain⟨i,s⟩:=List.getElem?_of_mem hx
  obtain⟨M,C,_⟩:=Zci h s
  exact ZkQ x.1 x.2 w.heap.size id W ((ZJ _ _).upd C (a.trans n)) (hl x hx) (Zf (i:=0) ((Kv n d)) rfl))
 obtain⟨r,j⟩:=Je (Y5 (fun p:Value×ZE=>p.2.members.contains id) gl)
 rw[←j]at c⊢
 have y:=D c
 clear c d m k q h j hl;change Hid _ at l a
 go_in
 go_upto_region 1 with fail
 rw[←l.out]
 go_wp2_with fail
 refine y.out.mono ?_
 rintro e H ⟨rfl,g⟩
 have o:=Jt a g
 clear g
 go_wp2_with fail
 go_ret
 exact⟨rfl,o.out⟩
def ZdW {u:Value} (hu:u.oneCell'=true) (s:ZE):∀v∈Yd u s,v.oneCell'=true:=by
 intro v hv;unfold Yd at hv
 simp only[List.mem_cons,List.not_mem_nil,or_false]at hv
 rcases hv with rfl|rfl|rfl|rfl|rfl|rfl|rfl<;>first|exact hu|rfl
def ZcE (gl:List (Value×ZE)):Nat:=(gl.map fun p=>p.2.members.length).sum
def Zjr {gl:List (Value×ZE)} {k:Nat} {p:Value×ZE} (h:gl[k]? =some p):ZcE (gl.take (k+1))=ZcE (gl.take k)+p.2.members.length:=by
 have a:=(Jk h)
 unfold ZcE
 rw[Xr a,(List.getElem?_eq_some_iff.1 h).2,Xs,List.sum_append]
 simp
def ZrM (gl:List (Value×ZE)) (k:Nat):ZcE (gl.take k)≤ZcE gl:=by
 have e:ZcE gl=ZcE (gl.take k)+ZcE (gl.drop k):=by
  unfold ZcE;rw[←List.sum_append,←Xs,List.take_append_drop]
 omega
def Zet {last:Int} {gl:List (Value×ZE)} (h:YA b last gl w F) (hl:gl.length≤1000000) (hs:ZcE gl≤1000000):
  Calls Tryz.prog 222 #[.pointer (some ⟨b,0,none⟩)] w fun e w'=>e= .returned (.int .i64 (ZcE gl))∧Zg [] w w':=by
 obtain⟨v,G,N,k,n,_⟩:=YA.row h
 obtain⟨A,c,rfl,P,q⟩:=n.lies
 rw[Xb]at k P n
 have T:=Jc 0 k
 have X:=D k;have O:=D q;have R:=D h
 have z:=D (show Zu Tryz.prog 320 7=true from Zjs)
 clear k n q N h
 go_in
 go_wp2
 go_loopw[3,11] (fun s3 s11 wr=>∃kk m:Nat,kk≤gl.length∧m≤1000000∧s11= .int .i64 kk∧s3= .int .i64 m∧Hid (m=ZcE (gl.take kk))∧Hid (Zg [] w wr)) (fun _ s11 _=>gl.length-(intOf s11).toNat)
 case atStart=>exact⟨0,0,Xn _,by omega,rfl,rfl,D rfl,D (Zg.refl [] w)⟩
 case round=>
  obtain⟨kk,m,Z,hm,rfl,rfl,o,j⟩:=hrel
  clear T
  have C:=Kv j X
  by_cases K:kk<gl.length
  ·obtain⟨p,a⟩:∃p,gl[kk]? =some p:=⟨_,Xa K⟩
   obtain⟨M,s,_⟩:=Zci R a
   obtain⟨S,Q,i,I,_⟩:=s.ints
   obtain⟨ab,rfl,x⟩:=O.out kk (Yd p.1 p.2) (by rw[Xe,a];rfl)
   obtain⟨d,l⟩:=Je p.2.members.length
   rw[←l]at i
   have Y:m+d≤1000000:=by
    have:=Zjr a;have:=ZrM gl (kk+1);have:=o.out;omega
   have J:=D (x.upd j)
   have L:=D (show(Yd p.1 p.2).toArray.all (·.oneCell')=true by rw[Xl,Xk];exact ZdW (by rw[i];rfl) _)
   have r:=D (Za (w:=wr) (.cells #[.int .i64 0, .string ⟨#[]⟩, .string ⟨#[]⟩, .bool false, .string ⟨#[]⟩, .string ⟨#[]⟩, .slice none 0 0] 320 (0,0)))
   obtain⟨V,g⟩:=Je ((wr.alloc (.cells #[.int .i64 0, .string ⟨#[]⟩, .string ⟨#[]⟩, .bool false, .string ⟨#[]⟩, .string ⟨#[]⟩, .slice none 0 0] 320 (0,0))).setRow wr.heap.size (Yd p.1 p.2).toArray)
   have y:=Kk g r
   have E:=Kh g
   have k6:V.cell? ⟨wr.heap.size,6,none⟩=some (.slice S d Q):=by rw[←i];exact Zf y rfl
   have H:=Jt j E
   have W:=D (show m+d=ZcE (gl.take (kk+1))by rw[Zjr a,←o.out,l])
   have aa:m+d≤9000000:=by omega
   clear a s x y E i l C I;change Hid _ at g
   go_wp2_with(first|refine Js J z ?_|(refine Jo (Yd p.1 p.2).toArray r z L ?_;rw[←g.out]))
   go_roundw
   case rel=>exact⟨kk+1,m+d,by omega,by omega,by go_num,by go_num,D W,H⟩
   case measure=>simp[intOf];omega
  ·obtain rfl:kk=gl.length:=by omega
   clear C
   go_wp2
   go_ret
   exact⟨by rw[o.out,Xm];rfl,j.out⟩
def Zp1 (a c:Zdz) (w:World):(binOp .eql 252 (.agg (Zae a).toArray) (.agg (Zae c).toArray)).run Tryz.prog w= .ok (.bool (a==c)) w:=by
 have u3:= Tryz.underlying9
 have u4:= Tryz.underlying4
 have C:= Tryz.isAgg9
 have F:= Tryz.isAgg4
 have E:= Tryz.sizeOf9
 have G:= Tryz.sizeOf4
 have b: Tryz.prog.underlying 252=some (.struct (Tryz.prog.fieldsOf 252)):=by kernel_rfl
 have m: Tryz.prog.stoodInHeld 252=false:=by kernel_rfl
 have s:=D (show Tryz.prog.underlying 246=some (.struct (Tryz.prog.fieldsOf 246))by kernel_rfl)
 have x: Tryz.prog.stoodInHeld 246=false:=by kernel_rfl
 have y:= Tryz.isAgg246
 have z:= Tryz.sizeOf246
 simp only[Zae]
 obtain⟨d,hd⟩:=Je (9997)
 rw[run_eql_struct,show(10000:Nat)=d+1+1+1 by rw[hd],run_equalIn_agg w (d+1+1) 252 _ _ b m]
 clear hd b
 simp only[Program.fieldsOf,Tryz.underlying252]
 go_simp
 obtain⟨⟨j,u1,i⟩,l,p⟩:=a
 obtain⟨⟨g,u2,n⟩,k,o⟩:=c
 by_cases r:j=g<;>by_cases f:u1=u2<;>by_cases q:i=n<;>by_cases h:l=k<;>by_cases e:p=o<;>simp[r,f,q,h,e]
def Zho (x:ZE) (box:Nat) (q:Zdz) (W:World) (hc:Zb W box 0 (Zae q)):
  Calls Tryz.prog 224 #[.agg (Yd u x).toArray, .pointer (some ⟨box,0,none⟩)] W fun e w'=>e= .returned (.bool (x.want==q))∧Zg [] W w':=by
 have n:=Zay (hc 0 _ rfl)
 have o:box≠W.heap.size:=by omega
 obtain⟨g,d,a,hv⟩:=Kc W (.cells (Yd u x).toArray 320)
 have l:=D (show Zb g W.heap.size 1 (Zae x.want)from fun i v hi=>by
  have:=(Zb.of_block (cs:=Yd u x) hv) (i+1) v (by
   unfold Yd;rw[Xf]
   match i,hi with
   |0,hi=>exact hi
   |1,hi=>exact hi
   |2,hi=>exact hi
   |3,hi=>exact hi
   |4,hi=>exact hi
   |_+5,hi=>simp[Zae]at hi)
  rw[show 1+i=0+(i+1)by omega];exact this)
 have m:=D (hc.upd a)
 have c:=D (show Zu Tryz.prog 252 5=true by kernel_rfl)
 have b:=D (Zp1 x.want q)
 have j:=D (show Tryz.prog.eqGuardType Tryz.prog.depth 252=false by kernel_rfl)
 obtain⟨r,h⟩:=Je ((x.want==q))
 rw[←h]at b⊢
 have k:=D (show W.alloc (.cells #[.int .i64 x.num, .string ⟨x.want.cell.origin.toArray⟩, .string ⟨x.want.cell.url.toArray⟩, .bool x.want.cell.creds, .string ⟨x.want.method.toArray⟩, .string ⟨x.want.names.toArray⟩,u] 320)=g from d.symm)
 clear d hv h hc;change Hid _ at a
 show Calls _ _ #[.agg #[.int .i64 x.num, .string ⟨x.want.cell.origin.toArray⟩, .string ⟨x.want.cell.url.toArray⟩, .bool x.want.cell.creds, .string ⟨x.want.method.toArray⟩, .string ⟨x.want.names.toArray⟩,u], .pointer (some ⟨box,0,none⟩)] W _
 go_in
 go_upto_region 1 with fail
 rw[k.out]
 go_wp2_with(first|refine ZX _ rfl 252 (.tmp 4) rfl W.heap.size 1 (Zae x.want) (by simp[Act.eval,Act.put]) c l ?_|refine ZX _ rfl 252 (.tmp 1) rfl box 0 (Zae q) (by simp[Act.eval,Act.put]) c m ?_|refine ZcU _ rfl 252 (.tmp 5) (.tmp 6) 252 rfl (Zae x.want).toArray (Zae q).toArray rfl rfl j r (b.out _) ?_)
 go_ret
 exact⟨rfl,a.out⟩
def Z0 (b:Nat) (last:Int) (gl:List (Value×ZE)):(YA b last gl).Local:=Zb7 _ _ _ _ _ _ _ _
def ZlW {gl:List (Value×ZE)} {last:Int} (h:YA b last gl w F):∀p∈gl,p.1.oneCell'=true:=fun p hp=>by
 obtain⟨i,hi⟩:=List.getElem?_of_mem hp
 obtain⟨M,hm,_⟩:=Zci h hi
 obtain⟨A,c,e,_⟩:=hm.ints
 rw[e];rfl
def Zei {last:Int} {gl:List (Value×ZE)} (h:YA b last gl w F) (hl:gl.length≤1000000) (pre:Int) {p:Value×ZE} (hq:gl.findIdx? (fun p=>p.2.num==pre)=some i) (hp:gl[i]? =some p):
  Calls Tryz.prog 159 #[.pointer (some ⟨b,0,none⟩), .int .i64 pre] w fun e w'=>e= .returned p.1∧∃F1 M,YA b last (gl.eraseIdx i) w' F1∧Z6 p.1 p.2.members w' M∧Z8 F1 M∧(∀q∈F1,q∈F)∧(∀q∈M,q∈F)∧Zg F w w':=by
 have q:=Zln h pre
 rw[YC hq]at q
 have z:=Yv hq
 have HQ:=D q
 have V:=D (ZlW h)
 have H:=D h
 have R:=D hp
 clear q hq h hp
 go_in
 go_wp2_with fail
 refine HQ.out.mono ?_
 rintro e S ⟨rfl,t⟩
 have m:=(Z0 _ _ _).upd H t
 obtain⟨G0,M,ho,E,N,P,T,I⟩:=Zk1 m R.out
 obtain⟨v,G,rfl,L,n,d⟩:=ho
 obtain⟨A2,c2,l,_⟩:=E.ints
 obtain⟨A,c,rfl,hc⟩:=d.form'
 rw[Xb]at n d
 obtain⟨g,rfl⟩:∃g,A=some ⟨g,0,none⟩:=by
  rcases d.form with⟨_,O,_⟩|⟨g,ag,_,C,_⟩
  ·rw[List.map_eq_nil_iff]at O;rw[O]at z;simp at z
  ·injection C with C;exact⟨g,C⟩
 have X:G=[g]:=by obtain⟨_,_,m,_⟩:=d.block;exact m
 subst X
 have J:b≠g:=by simpa using L
 obtain⟨n2,K⟩:=Je p.2.members.length
 rw[←K]at l
 have c0:=Jc 0 n
 have c6:S.cell? ⟨g,i*7+6,none⟩=some (.slice A2 n2 c2):=by
  rw[←l];exact(d.liesAt (show(gl.map fun p=>Yd p.1 p.2)[i]? =some (Yd p.1 p.2)by rw[Xe,R.out];rfl)) 6 _ rfl
 have hd:=Zh9.del (by rw[Xb];exact d) (fun u y=>by
  obtain⟨cs,ac,y⟩:=List.mem_flatten.1 y
  obtain⟨p,hp,rfl⟩:=List.mem_map.1 ac
  exact ZdW (V.out p hp) _ u y) (i:=i) (by rw[Xb];exact z)
 rw[Xb]at hd
 have HD:=D hd;have HB:=D n;have ab:=D t;have HN:=D I;have HM:=D E;have Y:=D N;have Z:=D P;have W:=D T;have HV:=D l;have s:=D J
 clear m E N P T I n d hd t l K J L
 go_wp2_with fail
 refine HD.out.mono ?_
 rintro e3 Q ⟨rfl,o,x⟩
 rw[Y9]at o
 have j:=(Kv x HB (by simpa using s.out))
 have c3:=Jc 0 j
 have f3:=Kf 0 j
 have af:=D j;have aa:=D o;have ae:=D x
 clear j o x c0 c6
 go_wp2_with fail
 go_ret
 have r:Zg [b,g] S (Q.setCell ⟨b,0,none⟩ (.slice (some ⟨g,0,none⟩) (gl.length-1) c)):=(ae.weaken (fun k a=> .inr (by simp at a;simp[a]))).setCell (.inr (by simp)) _
 obtain⟨F1,t1,t2,t3⟩:=HN.out _ ⟨_,[g],rfl,by simpa using s.out,Zd (i:=0) af _,(Zc _ _ _ _).upd aa ((Zg.refl [b] Q).setCell (.inr (by simp)) _) (fun k a=>by simp at a⊢;have:=s.out;omega)⟩ r
 exact⟨by rw[HV.out]<;>rfl,F1,M,t1,(ZJ _ _).upd HM r (fun k a ad=>Y.out k ad a),t3,t2,W.out,(ab.weaken (by simp)).trans r (fun k a=> .inr (Z.out k a))⟩
end Go.Proofs.YtlhapbopmplngaaGreatDoor
