import Derived.Test.YtlhapbopmplngaaGreatDoorS2
set_option linter.all false
set_option maxHeartbeats 16000000
set_option maxRecDepth 100000
set_option autoImplicit true
set_option relaxedAutoImplicit true
namespace Go.Proofs.YtlhapbopmplngaaGreatDoor
open Go.RowKit Go.Lk
structure Za6 (w:World) (b rb S:Nat) (room:List UInt8) (head:Nat) (n:Nat):Prop where
 hb:w.heap[b]? =some (.cells #[.slice (some ⟨rb,0,none⟩) S S, .int .i64 (head:Int), .int .i64 (n:Int)] 278 (0,0))
 hrb:w.heap[rb]? =some (.cells (room.map B).toArray 5 (0,0))
 ne:b≠rb
def Za6.drew {room:List UInt8} {head n:Nat} (h:Za6 w b rb S room head n) (k:Nat):Za6 (w.drewN k) b rb S room head n:=⟨h.hb,h.hrb,h.ne⟩
def Za6.cells {room:List UInt8} {head n:Nat} (h:Za6 w b rb S room head n):
  w.cell? ⟨b,0,none⟩=some (.slice (some ⟨rb,0,none⟩) S S)∧w.cell? ⟨b,1,none⟩=some (.int .i64 (head:Int))∧w.cell? ⟨b,2,none⟩=some (.int .i64 (n:Int))∧
  w.frozen? ⟨b,1,none⟩=false∧w.frozen? ⟨b,2,none⟩=false:=
 ⟨Zf (i:=0) h.hb rfl,Zf (i:=1) h.hb rfl,Zf (i:=2) h.hb rfl,ZS h.hb,ZS h.hb⟩
def Zqf (w:World) (b rb S:Nat) (room:List UInt8) (head n:Nat) (h:Za6 w b rb S room head n):
  Calls Tryz.prog 94 #[.pointer (some ⟨b,0,none⟩)] w fun e w'=>e= .returned (.int .i64 n)∧w=w':=by
 obtain⟨g,d,a,i,c⟩:=h.cells
 clear h
 go_in
 go_wp2
 go_ret
 exact⟨rfl,rfl⟩
def ZmU (w:World) (b rb S:Nat) (room:List UInt8) (head n:Nat) (h:Za6 w b rb S room head n):
  Calls Tryz.prog 208 #[.pointer (some ⟨b,0,none⟩)] w fun e w'=>e= .returned (.int .i64 n)∧Za6 w' b rb S room 0 0∧Zg [b] w w':=by
 obtain⟨g,d,a,i,c⟩:=h.cells
 go_in
 go_wp2
 go_ret
 refine⟨rfl,⟨?_,?_,h.ne⟩,?_⟩
 ·rw[Zd (Zd h.hb _)];rfl
 ·rw[Z4 _ h.ne,Z4 _ h.ne];exact h.hrb
 ·exact((Zg.refl _ _).setCell (.inr (by simp)) _).setCell (.inr (by simp)) _
def Zhy (n:Nat):madeCells #[.int .u8 0] n=(List.map B (List.replicate n 0)).toArray:=by
 apply Array.ext
 ·simp[madeCells]
 ·intro i a b
  have e:i%1=0:=Nat.mod_one i
  simp[madeCells,B,e]
def Zqn (w:World) (sz:Int) (size:Nat) (hsize:size=(max 1 (min sz 4096)).toNat):
  Calls Tryz.prog 163 #[.int .i64 sz] w fun e w'=>∃b rb,e= .returned (.pointer (some ⟨b,0,none⟩))∧Za6 w' b rb size (List.replicate size 0) 0 0∧Zg [] w w'∧w.heap.size≤b∧w.heap.size≤rb∧b<w'.heap.size∧rb<w'.heap.size:=by
 have p:1≤size:=by omega
 have m:size≤4096:=by omega
 obtain⟨j,i,g,k,d⟩:=info_parts Tryz.info5
 have l:=run_make (P:= Tryz.prog) w 29 5 j (.int .u8 0) Tryz.underlying29 i g .i64 .i64 size size (by omega) (by omega) (by rw[d];omega) (by omega)
 obtain⟨x,hx⟩:=Je ((if(4096:Int)<sz then 4096 else sz))
 have h:(if(1:Int)<x then x else 1)=size:=by rw[hx];(repeat' split)<;>omega
 have o:=hx.symm
 have n:min sz 4096=x:=by rw[hx];split<;>omega
 have q:max 1 x=(size:Int):=by rw[←h];split<;>omega
 clear hx hsize
 go_in
 go_wp2
 go_ret
 have c:((w.alloc (.cells (madeCells #[.int .u8 0] size) 5)).alloc (.cells #[.slice (some ⟨w.heap.size,0,none⟩) size size, .int .i64 0, .int .i64 0] 278)).heap[w.heap.size]? =some (.cells (madeCells #[.int .u8 0] size) 5 (0,0)):=by
  rw[Zz _ (by simp),Za]
 have a:=Za (w:=w.alloc (.cells (madeCells #[.int .u8 0] size) 5)) (.cells #[.slice (some ⟨w.heap.size,0,none⟩) size size, .int .i64 0, .int .i64 0] 278 (0,0))
 rw[World.size_alloc]at a
 refine⟨w.heap.size+1,w.heap.size,rfl,⟨a,?_,by omega⟩,((Zg.refl _ _).alloc _).alloc _,by omega,by omega,by simp,by simp;omega⟩
 rw[c]
 rw[Zhy]
def Zsn (room:List UInt8) (head:Nat) (k:Nat):List UInt8:=(List.range k).map fun i=>room.getD ((head+i)%room.length) 0
def Za6.upd {room:List UInt8} {head n:Nat} (h:Za6 w b rb S room head n) (hu:Zg F w w') (h1:b∉F) (h2:rb∉F:=by simp):Za6 w' b rb S room head n:=
 ⟨(hu.block b (lt_of_block h.hb) h1).trans h.hb,(hu.block rb (lt_of_block h.hrb) h2).trans h.hrb,h.ne⟩
structure Ring (w:World) (b rb S:Nat) (q:List UInt8):Prop where
 rep:∃room head,Za6 w b rb S room head q.length∧room.length=S∧head<S∧Zsn room head q.length=q
 le:q.length≤S
 one:1≤S
 S_le:S≤4096
def Ring.upd {q:List UInt8} (h:Ring w b rb S q) (hu:Zg F w w') (h1:b∉F) (h2:rb∉F:=by simp):Ring w' b rb S q:=by
 obtain⟨⟨c,a,f,x⟩,g,d,e⟩:=h
 exact⟨⟨c,a,f.upd hu h1 h2,x⟩,g,d,e⟩
def Ring.drewN {q:List UInt8} (h:Ring w b rb S q) (k:Nat):Ring (w.drewN k) b rb S q:=by
 obtain⟨⟨c,a,f,x⟩,g,d,e⟩:=h
 exact⟨⟨c,a,f.drew k,x⟩,g,d,e⟩
def Ring.lt {q:List UInt8} (h:Ring w b rb S q):b<w.heap.size∧rb<w.heap.size:=by
 obtain⟨⟨d,c,a,x⟩,g,e,f⟩:=h
 exact⟨lt_of_block a.hb,lt_of_block a.hrb⟩
def Ziu {q:List UInt8} (h:Ring w b rb S q):
  Calls Tryz.prog 94 #[.pointer (some ⟨b,0,none⟩)] w fun e w'=>e= .returned (.int .i64 q.length)∧w=w':=by
 obtain⟨⟨c,a,d,m,l,i⟩,j,k,g⟩:=h
 exact Zqf w b rb S c a _ d
def Zns {q:List UInt8} (h:Ring w b rb S q):
  Calls Tryz.prog 208 #[.pointer (some ⟨b,0,none⟩)] w fun e w'=>e= .returned (.int .i64 q.length)∧Ring w' b rb S []∧Zg [b] w w':=by
 obtain⟨⟨a,c,k,l,o,m⟩,n,j,g⟩:=h
 refine(ZmU w b rb S a c _ k).mono ?_
 rintro e w' ⟨rfl,d,i⟩
 exact⟨rfl,⟨⟨a,0,d,l,by omega,rfl⟩,by simp,j,g⟩,i⟩
def ZkE (w:World) (sz:Int) (size:Nat) (hsize:size=(max 1 (min sz 4096)).toNat):
  Calls Tryz.prog 163 #[.int .i64 sz] w fun e w'=>∃b rb,e= .returned (.pointer (some ⟨b,0,none⟩))∧Ring w' b rb size []∧Zg [] w w'∧w.heap.size≤b∧w.heap.size≤rb:=by
 refine(Zqn w sz size hsize).mono ?_
 rintro e w' ⟨b,rb,rfl,d,a,g,c,i,h⟩
 exact⟨b,rb,rfl,⟨⟨_,0,d,by simp,by omega,rfl⟩,by simp,by omega,by omega⟩,a,g,c⟩
def Zqk (w:World) (size:Nat) (h1:1≤size) (h2:size≤4096):
  Calls Tryz.prog 163 #[.int .i64 size] w fun e w'=>∃b rb,e= .returned (.pointer (some ⟨b,0,none⟩))∧Ring w' b rb size []∧Zg [] w w'∧w.heap.size≤b∧w.heap.size≤rb:=
 ZkE w size size (by omega)
structure ZdY (w:World) (sb b rb:Nat) (high low:Nat) (state:Int) (paused:Bool) (once:Int) (q:List UInt8):Prop where
 hb:w.heap[sb]? =some (.cells #[.pointer (some ⟨b,0,none⟩), .int .i64 (high:Int), .int .i64 (low:Int), .int .i64 state, .bool paused, .int .u32 once, .int .i32 0, .int .u32 0] 171 (0,0))
 ring:Ring w b rb (high+63) q
 ne:sb≠b∧sb≠rb
 h1:1≤high
 h2:high≤1024
 h3:low<high
 st:1≤state∧state≤3
 room:state=1→paused=false→q.length<high
def ZdY.upd {sb b rb high low:Nat} {state:Int} {paused:Bool} {once:Int} {q:List UInt8} (h:ZdY w sb b rb high low state paused once q) (hu:Zg F w w') (h1:sb∉F) (h2:b∉F) (h3:rb∉F:=by simp):
  ZdY w' sb b rb high low state paused once q:=
 ⟨(hu.block sb (lt_of_block h.hb) h1).trans h.hb,h.ring.upd hu h2 h3,h.ne,h.h1,h.h2,h.h3,h.st,h.room⟩
def ZdY.drewN {sb b rb high low:Nat} {state:Int} {paused:Bool} {once:Int} {q:List UInt8} (h:ZdY w sb b rb high low state paused once q) (k:Nat):
 ZdY (w.drewN k) sb b rb high low state paused once q:=⟨h.hb,h.ring.drewN k,h.ne,h.h1,h.h2,h.h3,h.st,h.room⟩
def ZdY.cells {sb b rb high low:Nat} {state:Int} {paused:Bool} {once:Int} {q:List UInt8} (h:ZdY w sb b rb high low state paused once q):
  w.cell? ⟨sb,0,none⟩=some (.pointer (some ⟨b,0,none⟩))∧w.cell? ⟨sb,1,none⟩=some (.int .i64 (high:Int))∧w.cell? ⟨sb,2,none⟩=some (.int .i64 (low:Int))∧
  w.cell? ⟨sb,3,none⟩=some (.int .i64 state)∧w.cell? ⟨sb,4,none⟩=some (.bool paused)∧w.frozen? ⟨sb,3,none⟩=false∧w.frozen? ⟨sb,4,none⟩=false:=
 ⟨Zf (i:=0) h.hb rfl,Zf (i:=1) h.hb rfl,Zf (i:=2) h.hb rfl,Zf (i:=3) h.hb rfl,Zf (i:=4) h.hb rfl,ZS h.hb,ZS h.hb⟩
def ZlI {sb b rb high low:Nat} {state:Int} {paused:Bool} {once:Int} {q:List UInt8} (h:ZdY w sb b rb high low state paused once q):
  Calls Tryz.prog 37 #[.pointer (some ⟨sb,0,none⟩)] w fun e w'=>e= .returned (.bool paused)∧w=w':=by
 obtain⟨i,g,a,d,j,k,c⟩:=h.cells
 clear h
 go_in
 go_wp2
 go_ret
 exact⟨rfl,rfl⟩
def Zn8 {sb b rb high low:Nat} {state:Int} {paused:Bool} {once:Int} {q:List UInt8} (h:ZdY w sb b rb high low state paused once q):
  Calls Tryz.prog 89 #[.pointer (some ⟨sb,0,none⟩)] w fun e w'=>e= .returned (.bool (decide (state=3∨state=2∧q=[])))∧w=w':=by
 obtain⟨k,m,d,i,l,n,g⟩:=h.cells
 have c:=h.st
 rcases(show state=1∨state=2∨state=3 by omega)with rfl|rfl|rfl
 ·go_in
  go_wp2
  go_ret
  exact⟨rfl,rfl⟩
 ·by_cases a:q=[]
  ·subst a
   go_in
   go_wp2_with(go_at_call 94;refine(Ziu h.ring).mono ?_;rintro e w' ⟨rfl,rfl⟩;simp only[List.length_nil])
   go_ret
   exact⟨rfl,rfl⟩
  ·have j:((q.length:Int)==0)=false:=by simpa using a
   go_in
   go_wp2_with(go_at_call 94;refine(Ziu h.ring).mono ?_;rintro e w' ⟨rfl,rfl⟩)
   go_ret
   refine⟨?_,rfl⟩
   simp[a]
 ·go_in
  go_wp2
  go_ret
  exact⟨rfl,rfl⟩
def ZqH {sb b rb high low:Nat} {state:Int} {paused:Bool} {once:Int} {q:List UInt8} (hs:ZdY w sb b rb high low state paused once q):
  Calls Tryz.prog 88 #[.pointer (some ⟨sb,0,none⟩)] w fun e w'=>e= .returned (.int .i64 (if state=1 then 0 else 12))∧
   ZdY w' sb b rb high low (if state=1 then 2 else state) (if state=1 then false else paused) once q∧Zg [sb] w w':=by
 obtain⟨k,n,g,i,l,o,h⟩:=hs.cells
 have d:=hs.st
 by_cases a:state=1
 ·subst a
  go_in
  go_wp2
  go_ret
  have c:Zg [sb] w ((w.setCell ⟨sb,3,none⟩ (.int .i64 2)).setCell ⟨sb,4,none⟩ (.bool false)):=((Zg.refl _ _).setCell (.inr (by simp)) _).setCell (.inr (by simp)) _
  refine⟨rfl,⟨?_,hs.ring.upd c (by simpa using Ne.symm hs.ne.1) (by simpa using Ne.symm hs.ne.2),hs.ne,hs.h1,hs.h2,hs.h3,by simp,by simp⟩,c⟩
  rw[Zd (Zd hs.hb _)];rfl
 ·have m:(state==1)=false:=by simpa using a
  have j:(state !=1)=true:=by simpa using a
  go_in
  go_wp2
  go_ret
  exact⟨rfl,hs,Zg.refl _ _⟩
def ZqN (w:World) (high low:Int) (H L:Nat) (hH:H=(max 1 (min high 1024)).toNat) (hL:L=(max 0 (min low (H-1))).toNat):
  Calls Tryz.prog 85 #[.int .i64 high, .int .i64 low] w fun e w'=>∃sb b rb,e= .returned (.pointer (some ⟨sb,0,none⟩))∧ZdY w' sb b rb H L 1 false 0 []∧Zg [] w w'∧w.heap.size≤sb∧w.heap.size≤b∧w.heap.size≤rb:=by
 have i:1≤H:=by omega
 have h:H≤1024:=by omega
 have j:L<H:=by omega
 obtain⟨x,hx⟩:=Je ((if(1024:Int)<high then 1024 else high))
 have m:(if(1:Int)<x then x else 1)=H:=by rw[hx];(repeat' split)<;>omega
 have z:=hx.symm
 obtain⟨y,a⟩:=Je ((if(H:Int)-1<low then(H:Int)-1 else low))
 have k:(if(0:Int)<y then y else 0)=L:=by rw[a];(repeat' split)<;>omega
 have r:=a.symm
 have E:min high 1024=x:=by rw[hx];split<;>omega
 have s:max 1 x=(H:Int):=by rw[←m];split<;>omega
 have C:min low ((H:Int)-1)=y:=by rw[a];split<;>omega
 have t:max 0 y=(L:Int):=by rw[←k];split<;>omega
 clear hx a hH hL
 go_in
 go_wp2_with fail
 rw[show(H:Int)-1+64=((H+63:Nat):Int)by omega]
 refine(Zqk _ (H+63) (by omega) (by omega)).mono ?_
 rintro e o ⟨b,rb,rfl,c,g,l,p⟩
 have q:=c.lt
 have n:=D c;have d:=D g;clear c g
 go_wp2_with fail
 go_ret
 exact⟨o.heap.size,b,rb,rfl,⟨Za _,n.upd ((Zg.refl [] _).alloc _) (by simp),by omega,i,h,j,by omega,fun _ _=>by simp;omega⟩,d.alloc _,by have:=d.size;omega,l,p⟩
end Go.Proofs.YtlhapbopmplngaaGreatDoor
