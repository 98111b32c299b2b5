import Derived.Laws.LoneSync
import Derived.Test.YtlhapbopmplngaaGreatDoorS2
import Derived.Test.YtlhapbopmplngaaGreatDoorS3
set_option linter.all false
set_option maxHeartbeats 16000000
set_option maxRecDepth 100000
set_option autoImplicit true
set_option relaxedAutoImplicit true
namespace Go.Proofs.YtlhapbopmplngaaGreatDoor
open Go.RowKit Go.Lk
def ZdG (c:UInt8):Bool:=(decide (97≤c.toNat)&&decide (c.toNat≤122))||(decide (65≤c.toNat)&&decide (c.toNat≤90))
def Zkt (c:UInt8) (w:World):
  Calls Tryz.prog 294 #[.int .u8 (c.toNat:Int)] w fun e w'=>e= .returned (.bool (ZdG c))∧w=w':=by
 rcases(show 97≤c.toNat∧c.toNat≤122∨(122<c.toNat)∨(65≤c.toNat∧c.toNat≤90)∨(90<c.toNat∧c.toNat<97)∨c.toNat<65 by omega)with⟨a,b⟩|a|⟨a,b⟩|⟨a,b⟩|a
 ·have e:ZdG c=true:=by simp[ZdG,a,b]
  rw[e]
  go_in
  go_wp2
  go_ret
  first|exact⟨rfl,rfl⟩|(refine⟨?_,rfl⟩;simp;omega)
 ·have e:ZdG c=false:=by simp[ZdG];omega
  rw[e]
  go_in
  go_wp2
  go_ret
  first|exact⟨rfl,rfl⟩|(refine⟨?_,rfl⟩;simp;omega)
 ·have e:ZdG c=true:=by simp[ZdG,a,b]
  rw[e]
  go_in
  go_wp2
  go_ret
  first|exact⟨rfl,rfl⟩|(refine⟨?_,rfl⟩;simp;omega)
 ·have e:ZdG c=false:=by simp[ZdG];omega
  rw[e]
  go_in
  go_wp2
  go_ret
  first|exact⟨rfl,rfl⟩|(refine⟨?_,rfl⟩;simp;omega)
 ·have e:ZdG c=false:=by simp[ZdG];omega
  rw[e]
  go_in
  go_wp2
  go_ret
  first|exact⟨rfl,rfl⟩|(refine⟨?_,rfl⟩;simp;omega)
def Zof:∀n:Fin 256,decide (Lib.indexByte [33,35,36,37,38,39,42,43,45,46,94,95,96,124,126] (UInt8.ofNat n.val)<0)= !([33,35,36,37,38,39,42,43,45,46,94,95,96,124,126]:List UInt8).contains (UInt8.ofNat n.val):=by decide+kernel
def Zqq (c:UInt8):decide (Lib.indexByte (⟨#[33,35,36,37,38,39,42,43,45,46,94,95,96,124,126]⟩:ByteArray).data.toList ((c.toNat:Int).toNat.toUInt8)<0)= !([33,35,36,37,38,39,42,43,45,46,94,95,96,124,126]:List UInt8).contains c:=by
 rw[show((c.toNat:Int).toNat.toUInt8)=c by simp]
 have:=Zof ⟨c.toNat,c.toNat_lt⟩
 simpa using this
def Zdm {P:Prop}(h:P:=by
 go_wp2_with fail
 go_roundw
 case rel=>exact⟨k+1,by omega,by go_num,by rw[d.out,b.out];simp,trivial⟩
 case measure=>simp[intOf];omega):P:=h
def Zcp (s:List UInt8) (w:World) (hlen:s.length≤1000000):
  Calls Tryz.prog 229 #[.string ⟨s.toArray⟩] w fun e w'=>e= .returned (.bool (Zat s))∧w=w':=by
 go_in
 go_wp2_with fail
 go_loopw[6] (fun v6 wr=>∃(k:Nat),k≤s.length∧v6= .int .i64 k∧(s.take k).all Zlq=true∧wr=w) (fun v6 _=>s.length-(intOf v6).toNat)
 case atStart=>exact⟨0,by omega,rfl,by simp,rfl⟩
 case round=>
  obtain⟨k,I,rfl,ha,rfl⟩:=hrel
  have x:=D ha;clear ha
  by_cases m:k<s.length
  ·have hg:=Zaj s k m
   go_wp2_with fail
   refine(Zkt _ _).mono ?_
   rintro e t ⟨rfl,rfl⟩
   obtain⟨c,g⟩:=Je (s[k])
   rw[←g]at hg⊢
   have d:(s.take (k+1)).all Zlq=Zlq c:=by rw[Xr m,List.all_append,x.out,←g];simp
   have p:Zlq c=false→Zat s=false:=by
    intro h
    unfold Zat
    have:s.all Zlq=false:=by
     rw[Bool.eq_false_iff];intro q
     rw[Xk]at q
     have:=q c (by rw[g];exact List.getElem_mem m)
     rw[h]at this;cases this
    rw[this,Bool.and_false]
   have C:=D p
   clear g p;change Hid _ at d
   have b:Zlq c=(ZdG c||ZcT c||([33,35,36,37,38,39,42,43,45,46,94,95,96,124,126]:List UInt8).contains c):=rfl
   have a:=Zqq c
   obtain⟨H,n⟩:=Je (([33,35,36,37,38,39,42,43,45,46,94,95,96,124,126]:List UInt8).contains c)
   rw[←n]at a b
   obtain⟨lt,j⟩:=Je (ZdG c)
   obtain⟨G,l⟩:=Je (ZcT c)
   rw[←j,←l]at b
   rw[←j]
   have F:=D a
   clear a n j;change Hid _ at b l
   cases lt
   case true=>
    exact Zdm
   case false=>
    go_wp2_with fail
    refine(Zhd _ _).mono ?_
    rintro e t ⟨rfl,rfl⟩
    rw[←l.out]
    cases G
    case true=>
     exact Zdm
    case false=>
     go_wp2_with fail
     refine(Tryz.strings_IndexByte _ _ _).mono ?_
     rintro e t ⟨rfl,rfl⟩
     obtain⟨z,y⟩:∃z:Int,z=Lib.indexByte (⟨#[33,35,36,37,38,39,42,43,45,46,94,95,96,124,126]⟩:ByteArray).data.toList ((c.toNat:Int).toNat.toUInt8):=⟨_,rfl⟩
     have a:=F.out
     rw[←y]at a⊢
     clear y
     cases H
     case true=>
      have E:¬z<0:=by simpa using a
      clear a
      exact Zdm
     case false=>
      have E:z<0:=by simpa using a
      clear a
      have r:=C.out (by rw[b.out];rfl)
      have i:=D r;clear r
      go_wp2
      go_ret
      rw[i.out]
      exact⟨rfl,rfl⟩
  ·obtain rfl:k=s.length:=by omega
   have o:s.all Zlq=true:=by have:=x.out;rwa [Xm]at this
   have i:Zat s=decide (s≠[]):=by unfold Zat;rw[o,Bool.and_true]
   clear o;change Hid _ at i
   go_wp2
   go_ret
   rw[i.out]
   refine⟨?_,rfl⟩
   cases s<;>rfl
def ZrF {α:Type} {p:α→Bool} {l:List α} {m:α} (h1:(l.take k).find? p=none) (h2:l[k]? =some m) (h3:p m=true):l.find? p=some m:=by
 have a:=(Jk h2)
 have e:l=l.take k++(m::l.drop (k+1)):=by
  conv=>lhs;rw[←List.take_append_drop k l]
  rw[List.drop_eq_getElem_cons a,(List.getElem?_eq_some_iff.1 h2).2]
 rw[e,List.find?_append,h1,List.find?_cons_of_pos h3]
 rfl
def Zn6 {α:Type} {p:α→Bool} {l:List α} {m:α} (h1:(l.take k).find? p=none) (h2:l[k]? =some m) (h3:p m=false):(l.take (k+1)).find? p=none:=by
 have a:=(Jk h2)
 rw[Xr a,(List.getElem?_eq_some_iff.1 h2).2,List.find?_append,h1]
 simp[h3]
def ZcL (w:World) {i:Nat} (hi:i<6) (hm:(#[.string ⟨#[68,69,76,69,84,69]⟩, .string ⟨#[71,69,84]⟩, .string ⟨#[72,69,65,68]⟩, .string ⟨#[79,80,84,73,79,78,83]⟩, .string ⟨#[80,79,83,84]⟩, .string ⟨#[80,85,84]⟩]:Array Value)[i]? =some m):
  (Instr.index 351 (.agg #[.string ⟨#[68,69,76,69,84,69]⟩, .string ⟨#[71,69,84]⟩, .string ⟨#[72,69,65,68]⟩, .string ⟨#[79,80,84,73,79,78,83]⟩, .string ⟨#[80,79,83,84]⟩, .string ⟨#[80,85,84]⟩]) (.int .i64 (i:Int))).run Tryz.prog w= .ok m w:=by
 rcases(show i=0∨i=1∨i=2∨i=3∨i=4∨i=5 by omega)with rfl|rfl|rfl|rfl|rfl|rfl<;>
 ·simp only[Xh,Xf,Xg,Option.some.injEq]at hm
  subst hm
  simp[Instr.index,run_underlying Tryz.underlying351,asIntOf,go_sem,Tryz.sizeOf9]
def Zgg (x:Bs) (w:World) (hx:x.length≤1000000):
  Calls Tryz.prog 187 #[.string ⟨x.toArray⟩] w fun e w'=>e= .returned (.string ⟨(Zct x).toArray⟩)∧Zg [] w w':=by
 obtain⟨r,j⟩:=Je (Zct x)
 have C:=D j
 rw[←j]
 clear j
 have G:Hid (∀(m:Bs) (w:World),m.length≤1000000→Calls Tryz.prog 246 #[.string ⟨x.toArray⟩, .string ⟨m.toArray⟩] w fun e w'=>e= .returned (.bool (ZbU x m))∧Zg [] w w'):=D fun m w H=>Zfs x m w hx H
 go_in
 go_wp2_with fail
 go_loopw[6] (fun v6 wr=>∃(k:Nat),k≤6∧v6= .int .i64 k∧(ZdA.take k).find? (fun m=>ZbU x m)=none∧Zg [] w wr) (fun v6 _=>6-(intOf v6).toNat)
 case atStart=>exact⟨0,by omega,rfl,rfl,Zg.refl _ _⟩
 case round=>
  obtain⟨k,K,rfl,o,E⟩:=hrel
  have l:=D o;have z:=D E
  clear o E
  rcases(show k=0∨k=1∨k=2∨k=3∨k=4∨k=5∨k=6 by omega)with rfl|rfl|rfl|rfl|rfl|rfl|rfl
  case inr.inr.inr.inr.inr.inr=>
   have n:r=[]:=by rw[C.out];unfold Zct;rw[show ZdA=ZdA.take 6 from rfl,l.out];rfl
   change Hid _ at n
   rw[show((6:Nat):Int)=6 from rfl]
   go_wp2_with fail
   go_ret
   exact⟨by rw[n.out];rfl,z.out⟩
  case' inl=>
   rw[show((0:Nat):Int)=0 from rfl]
   have a:=ZcL wr (i:=0) (m:= .string ⟨#[68,69,76,69,84,69]⟩) (by omega) rfl
   rw[show((0:Nat):Int)=0 from rfl]at a
   obtain⟨d,c⟩:∃m:Bs,m=[68,69,76,69,84,69]:=⟨_,rfl⟩
  case' inr.inl=>
   rw[show((1:Nat):Int)=1 from rfl]
   have a:=ZcL wr (i:=1) (m:= .string ⟨#[71,69,84]⟩) (by omega) rfl
   rw[show((1:Nat):Int)=1 from rfl]at a
   obtain⟨d,c⟩:∃m:Bs,m=[71,69,84]:=⟨_,rfl⟩
  case' inr.inr.inl=>
   rw[show((2:Nat):Int)=2 from rfl]
   have a:=ZcL wr (i:=2) (m:= .string ⟨#[72,69,65,68]⟩) (by omega) rfl
   rw[show((2:Nat):Int)=2 from rfl]at a
   obtain⟨d,c⟩:∃m:Bs,m=[72,69,65,68]:=⟨_,rfl⟩
  case' inr.inr.inr.inl=>
   rw[show((3:Nat):Int)=3 from rfl]
   have a:=ZcL wr (i:=3) (m:= .string ⟨#[79,80,84,73,79,78,83]⟩) (by omega) rfl
   rw[show((3:Nat):Int)=3 from rfl]at a
   obtain⟨d,c⟩:∃m:Bs,m=[79,80,84,73,79,78,83]:=⟨_,rfl⟩
  case' inr.inr.inr.inr.inl=>
   rw[show((4:Nat):Int)=4 from rfl]
   have a:=ZcL wr (i:=4) (m:= .string ⟨#[80,79,83,84]⟩) (by omega) rfl
   rw[show((4:Nat):Int)=4 from rfl]at a
   obtain⟨d,c⟩:∃m:Bs,m=[80,79,83,84]:=⟨_,rfl⟩
  case' inr.inr.inr.inr.inr.inl=>
   rw[show((5:Nat):Int)=5 from rfl]
   have a:=ZcL wr (i:=5) (m:= .string ⟨#[80,85,84]⟩) (by omega) rfl
   rw[show((5:Nat):Int)=5 from rfl]at a
   obtain⟨d,c⟩:∃m:Bs,m=[80,85,84]:=⟨_,rfl⟩
  all_goals
   have q:=G.out d wr (by rw[c];simp)
   obtain⟨b,g⟩:=Je (ZbU x d)
   rw[←g]at q
   have p:b=true→r=d:=fun h=>by
    rw[C.out];unfold Zct
    rw[ZrF (m:=d) l (by rw[c];rfl) (by rw[←g];exact h)];rfl
   have s:=fun h:b=false=>Zn6 l (m:=d) (by rw[c];rfl) (by rw[←g];exact h)
   have I:=D p;have F:=D s;have Q:=D q;have J:=D c
   clear p s g q
   subst c
   go_wp2_with fail
   refine Q.out.mono ?_
   rintro e L ⟨rfl,t⟩
   have y:=Jt z t;clear t Q
   cases b with
   |true=>
    go_wp2_with fail
    go_ret
    exact⟨by rw[I.out trivial];rfl,y.out⟩
   |false=>
    go_wp2_with fail
    refine⟨⟨_,?_,?_,F.out trivial,y.out⟩,?_⟩
    ·decide
    ·rfl
    ·decide
def Zl3 (x:Bs) (w:World) (hx:x.length≤1000000):
  Calls Tryz.prog 110 #[.string ⟨x.toArray⟩] w fun e w'=>e= .returned (.string ⟨(ZdB x).toArray⟩)∧Zg [] w w':=by
 obtain⟨k,c⟩:=Je (Zct x)
 have q:=Zgg x w hx
 rw[←c]at q
 have Q:=D q
 clear q;change Hid _ at c
 by_cases h:k=[]
 ·have b:ZdB x=x:=by unfold ZdB;rw[←c.out,h];rfl
  rw[b]
  have g:(k==[])=true:=by rw[h];rfl
  clear b h
  go_in
  go_wp2_with fail
  refine Q.out.mono ?_
  rintro e i ⟨rfl,a⟩
  have d:=D a;clear a
  go_wp2_with fail
  go_ret
  exact⟨rfl,d.out⟩
 ·have b:ZdB x=k:=by unfold ZdB;rw[←c.out,if_pos (by simpa using h)]
  rw[b]
  have g:(k==[])=false:=by rw[beq_eq_false_iff_ne];exact h
  clear b
  go_in
  go_wp2_with fail
  refine Q.out.mono ?_
  rintro e i ⟨rfl,a⟩
  have d:=D a;clear a
  go_wp2_with fail
  go_ret
  exact⟨rfl,d.out⟩
def ZkS (x:Bs) (w:World) (hx:x.length≤1000000):
  Calls Tryz.prog 260 #[.string ⟨x.toArray⟩] w fun e w'=>e= .returned (.bool (ZlT x))∧Zg [] w w':=by
 have b:Hid (∀(m:Bs) (w:World),m.length≤1000000→Calls Tryz.prog 246 #[.string ⟨x.toArray⟩, .string ⟨m.toArray⟩] w fun e w'=>e= .returned (.bool (ZbU x m))∧Zg [] w w'):=D fun m w F=>Zfs x m w hx F
 obtain⟨s,j⟩:=Je (ZbU x [67,79,78,78,69,67,84])
 obtain⟨q,g⟩:=Je (ZbU x [84,82,65,67,69])
 obtain⟨G,i⟩:=Je (ZbU x [84,82,65,67,75])
 have r:ZlT x=(s||q||G):=by unfold ZlT;rw[←j,←g,←i]
 rw[r]
 have h:=b.out [67,79,78,78,69,67,84] w (by simp)
 have c:=fun a=>b.out [84,82,65,67,69] a (by simp)
 have d:=fun a=>b.out [84,82,65,67,75] a (by simp)
 rw[←j]at h
 simp only[←g]at c
 simp only[←i]at d
 have C:=D h;have y:=D c;have z:=D d
 clear h c d r j g i b
 go_in
 go_wp2_with fail
 refine C.out.mono ?_
 rintro e a ⟨rfl,k⟩
 have o:=D k;clear k
 cases s with
 |true=>
  go_wp2_with fail
  go_ret
  exact⟨rfl,o.out⟩
 |false=>
 go_wp2_with fail
 refine(y.out a).mono ?_
 rintro e E ⟨rfl,l⟩
 have p:=Jt o l;clear l
 cases q with
 |true=>
  go_wp2_with fail
  go_ret
  exact⟨rfl,p.out⟩
 |false=>
 go_wp2_with fail
 refine(z.out E).mono ?_
 rintro e H ⟨rfl,n⟩
 have t:=Jt p n;clear n
 go_wp2_with fail
 go_ret
 exact⟨rfl,t.out⟩
def ZeC (x:Bs) (w:World) (hx:x.length≤1000000):
  Calls Tryz.prog 179 #[.string ⟨x.toArray⟩] w fun e w'=>e= .returned (.bool (ZfO x))∧Zg [] w w':=by
 obtain⟨k,b⟩:=Je (Zct x)
 have q:=Zgg x w hx
 rw[←b]at q
 obtain⟨j,d⟩:=Je ((k==[71,69,84]))
 obtain⟨h,a⟩:=Je ((k==[72,69,65,68]))
 obtain⟨l,c⟩:=Je ((k==[80,79,83,84]))
 have i:ZfO x=(j||h||l):=by unfold ZfO;rw[←b,←d,←a,←c]
 rw[i]
 have Q:=D q
 have o:=d.symm;have r:=a.symm;have n:=c.symm
 clear q b i d a c
 cases j<;>cases h<;>cases l
 all_goals
  go_in
  go_wp2_with fail
  refine Q.out.mono ?_
  rintro e p ⟨rfl,g⟩
  have m:=D g;clear g
  go_wp2_with fail
  go_ret
  exact⟨rfl,m.out⟩
def ZdH (a b:Nat) (ha:a≤18446744073709551615) (hb:b≤18446744073709551615) (w:World):
  Calls Tryz.prog 123 #[.int .u64 a, .int .u64 b] w fun e w'=>e= .returned (.int .u64 (addT a b:Nat))∧w'=w:=by
 by_cases h:18446744073709551615<a+b
 ·have c:addT a b=18446744073709551615:=by unfold addT;rw[if_pos h]
  rw[c]
  have d:(18446744073709551615:Int)-a<b:=by omega
  go_in
  go_wp2_with fail
  go_ret
  exact⟨rfl,rfl⟩
 ·have c:addT a b=a+b:=by unfold addT;rw[if_neg h]
  rw[c]
  have d:¬((18446744073709551615:Int)-a<b):=by omega
  go_in
  go_wp2_with fail
  go_ret
  exact⟨by first|rfl|(congr 2;omega)|simp,rfl⟩
def Zgf (a:Addr) (x y:Int) (w:World) (hc:w.cell? a=some (.int .u64 x)) (hz:w.frozen? a=false):
  Calls Tryz.prog 95 #[.pointer (some a), .int .u64 y] w fun e w'=>e= .returned (.tuple #[])∧∃n,w'=(w.drewN n).setCell a (.int .u64 y):=by
 have b:=fun(w:World) (h1:w.cell? a=some (.int .u64 x)) (h2:w.frozen? a=false)=>run_call_store (P:= Tryz.prog) Tryz.func167 (by kernel_rfl) (by kernel_rfl) (by kernel_rfl) (by kernel_rfl) (k:= .u64) (y:=y) h1 h2
 have c:=b w hc hz
 have d:=b w.drew (by go_simp) (by go_simp)
 clear b
 go_in
 go_wp2
 try go_region_calls
 all_goals(first|go_end0|skip)
 all_goals first|exact⟨rfl,0,rfl⟩|exact⟨rfl,1,rfl⟩
def Zhm (a:Addr) (x:Int) (w:World) (hc:w.cell? a=some (.int .u64 x)):
  Calls Tryz.prog 135 #[.pointer (some a)] w fun e w'=>e= .returned (.int .u64 x)∧w=w':=by
 have b:=run_call_load (P:= Tryz.prog) Tryz.func210 (by kernel_rfl) (by kernel_rfl) (by kernel_rfl) .u64 (by kernel_rfl) hc
 go_in
 go_wp2
 go_ret
 exact⟨rfl,rfl⟩
def ZdJ (w:World) (b:Nat) (t:Nat):Prop:=w.heap[b]? =some (.cells #[.int .u64 (t:Int)] 179 (0,0))∧t≤18446744073709551615
def Zbm (h:ZdJ w b t):
  Calls Tryz.prog 73 #[.pointer (some ⟨b,0,none⟩)] w fun e w'=>e= .returned (.int .u64 t)∧w'=w:=by
 have a:=Zf (i:=0) h.1 rfl
 simp only[List.getElem_toArray,Xv]at a
 have q:=Zhm ⟨b,0,none⟩ t w a
 clear h a
 go_in
 go_wp2_with fail
 refine q.mono ?_
 rintro e w' ⟨rfl,rfl⟩
 go_wp2_with fail
 go_ret
 exact⟨rfl,rfl⟩
def Zrg (a b:Nat):addT a b≤18446744073709551615:=by unfold addT;split<;>omega
def ZoW (h:ZdJ w b t) (n:Nat) (hn:n≤18446744073709551615):
  Calls Tryz.prog 69 #[.pointer (some ⟨b,0,none⟩), .int .u64 n] w fun e w'=>e= .returned (.int .u64 (addT t n:Nat))∧ZdJ w' b (addT t n)∧Zg [b] w w':=by
 have c:=Zf (i:=0) h.1 rfl
 simp only[List.getElem_toArray,Xv]at c
 have q:=Kf 0 h.1
 have H:=D h
 have p:=Zhm ⟨b,0,none⟩ t w c
 have g:=ZdH t n h.2 hn w
 obtain⟨z,r⟩:=Je (addT t n)
 have l:=Zrg t n
 rw[←r]at g l⊢
 have y:=Zgf ⟨b,0,none⟩ t z w c q
 clear h c q r
 go_in
 go_wp2_with fail
 refine p.mono ?_
 rintro e w' ⟨rfl,rfl⟩
 go_wp2_with fail
 refine g.mono ?_
 rintro e C ⟨rfl,j⟩
 rw[j];clear j C p g
 go_wp2_with fail
 refine y.mono ?_
 rintro e x ⟨rfl,k,d⟩
 obtain⟨o,a⟩:=Je x
 rw[←a]
 have s:o.heap[b]? =some (.cells #[.int .u64 (z:Int)] 179 (0,0)):=by rw[a,d];exact(Zd (w:=w.drewN k) (i:=0) H.out.1 _).trans rfl
 have m:Zg [b] w o:=by rw[a,d];exact((Zg.refl [b] w).drewN k).setCell (.inr (by simp)) _
 clear a d;change Hid _ at s m
 go_wp2_with fail
 go_ret
 exact⟨rfl,⟨s,l⟩,m.out⟩
def Zqh (t:Nat) (ht:t≤18446744073709551615) (w:World):
  Calls Tryz.prog 40 #[.int .u64 t] w fun e w'=>e= .returned (.pointer (some ⟨w.heap.size,0,none⟩))∧ZdJ w' w.heap.size t∧Zg [] w w':=by
 obtain⟨j,g,d,a⟩:=Kc w (.cells #[.int .u64 0] 179)
 have c:=Zf (i:=0) a rfl
 simp only[List.getElem_toArray,Xv]at c
 have q:=Zgf ⟨w.heap.size,0,none⟩ 0 t j c (ZS a)
 clear c;change Hid _ at a d g
 go_in
 go_upto_region 2 with fail
 rw[←g.out]
 go_wp2_with fail
 refine q.mono ?_
 rintro e l ⟨rfl,k,b⟩
 have m:l.heap[w.heap.size]? =some (.cells #[.int .u64 (t:Int)] 179 (0,0)):=by rw[b];exact(Zd (w:=j.drewN k) (i:=0) a _).trans rfl
 have h:Zg [] w l:=by rw[b];exact(d.drewN k).setCell (.inl (Xi _)) _
 clear b;change Hid _ at m h
 go_wp2_with fail
 go_ret
 exact⟨rfl,⟨m,ht⟩,h.out⟩
def ZpE (w:World):
  Calls Tryz.prog 48 #[] w fun e w'=>e= .returned (.pointer (some ⟨w.heap.size,0,none⟩))∧w'.heap[w.heap.size]? =some (.cells #[.slice none 0 0] 199 (0,0))∧Zg [] w w':=by
 obtain⟨d,a,b,c⟩:=Kc w (.cells #[.slice none 0 0] 199)
 change Hid _ at c b a
 go_in
 go_wp2_with fail
 go_ret
 rw[←a.out]
 exact⟨rfl,c.out,b.out⟩
def ZoD (w:World):
  Calls Tryz.prog 45 #[] w fun e w'=>e= .returned (.pointer (some ⟨w.heap.size,0,none⟩))∧w'.heap[w.heap.size]? =some (.cells #[.slice none 0 0] 193 (0,0))∧Zg [] w w':=by
 obtain⟨d,a,b,c⟩:=Kc w (.cells #[.slice none 0 0] 193)
 change Hid _ at c b a
 go_in
 go_wp2_with fail
 go_ret
 rw[←a.out]
 exact⟨rfl,c.out,b.out⟩
def Zmy (w:World):
  Calls Tryz.prog 46 #[] w fun e w'=>e= .returned (.pointer (some ⟨w.heap.size,0,none⟩))∧w'.heap[w.heap.size]? =some (.cells #[.slice none 0 0] 121 (0,0))∧Zg [] w w':=by
 obtain⟨d,a,b,c⟩:=Kc w (.cells #[.slice none 0 0] 121)
 change Hid _ at c b a
 go_in
 go_wp2_with fail
 go_ret
 rw[←a.out]
 exact⟨rfl,c.out,b.out⟩
def Zpl (w:World):
  Calls Tryz.prog 47 #[] w fun e w'=>e= .returned (.pointer (some ⟨w.heap.size,0,none⟩))∧w'.heap[w.heap.size]? =some (.cells #[.slice none 0 0, .int .i64 0] 196 (0,0))∧Zg [] w w':=by
 obtain⟨d,a,b,c⟩:=Kc w (.cells #[.slice none 0 0, .int .i64 0] 196)
 change Hid _ at c b a
 go_in
 go_wp2_with fail
 go_ret
 rw[←a.out]
 exact⟨rfl,c.out,b.out⟩
def Zoh (a:Nat) (w:World):
  Calls Tryz.prog 42 #[.int .u64 a] w fun e w'=>e= .returned (.pointer (some ⟨w.heap.size,0,none⟩))∧w'.heap[w.heap.size]? =some (.cells #[.slice none 0 0, .int .u64 a] 184 (0,0))∧Zg [] w w':=by
 obtain⟨g,b,c,d⟩:=Kc w (.cells #[.slice none 0 0, .int .u64 a] 184)
 change Hid _ at d c b
 go_in
 go_wp2_with fail
 go_ret
 rw[←b.out]
 exact⟨rfl,d.out,c.out⟩
end Go.Proofs.YtlhapbopmplngaaGreatDoor
