import Derived.Test.YtlhapbopmplngaaGreatDoorS4
import Derived.Test.YtlhapbopmplngaaGreatDoorS5
set_option linter.all false
set_option maxHeartbeats 16000000
set_option maxRecDepth 100000
set_option autoImplicit true
set_option relaxedAutoImplicit true
namespace Go.Proofs.YtlhapbopmplngaaGreatDoor
open Go.RowKit Go.Lk
def ZpY:Value→Nat
 | .string b=>b.size
 |_=>0
def Zop:∀n:Fin 256,decide (0≤Lib.indexByte [9,10,13,32] (UInt8.ofNat n.val))=ZaL (UInt8.ofNat n.val):=by decide+kernel
def ZqQ (c:UInt8):decide (0≤Lib.indexByte (⟨#[9,10,13,32]⟩:ByteArray).data.toList ((c.toNat:Int).toNat.toUInt8))=ZaL c:=by
 rw[show((c.toNat:Int).toNat.toUInt8)=c by simp]
 have:=Zop ⟨c.toNat,c.toNat_lt⟩
 simpa using this
def Zhc (c:UInt8) (w:World):
  Calls Tryz.prog 268 #[.int .u8 c.toNat] w fun e w'=>e= .returned (.bool (ZaL c))∧w'=w:=by
 have b:=ZqQ c
 obtain⟨n,a⟩:=Je (Lib.indexByte (⟨#[9,10,13,32]⟩:ByteArray).data.toList ((c.toNat:Int).toNat.toUInt8))
 rw[←a]at b
 have q:= Tryz.strings_IndexByte ⟨#[9,10,13,32]⟩ (c.toNat:Int) w
 rw[←a]at q
 have Q:=D q;have g:=D b
 clear a q b
 rw[←g.out]
 go_in
 go_wp2_with fail
 refine Q.out.mono ?_
 rintro e h ⟨rfl,d⟩
 rw[d];clear d h Q
 go_wp2_with fail
 go_ret
 exact⟨by first|rfl|simp,rfl⟩
def ZaR (x:Bs) (w:World) (hx:x.length≤1000000):
  Calls Tryz.prog 189 #[.string ⟨x.toArray⟩] w fun e w'=>e= .returned (.string ⟨(YL x).toArray⟩)∧w'=w:=by
 obtain⟨r,p⟩:=Je (YL x)
 have F:=D (show r=((x.dropWhile ZaL).reverse.dropWhile ZaL).reverse by rw[p];rfl)
 rw[←p]
 clear p
 go_in
 go_wp2_with fail
 go_loopw[0] (fun v0 wr=>∃(y:Bs),v0= .string ⟨y.toArray⟩∧y.dropWhile ZaL=x.dropWhile ZaL∧y.length≤x.length∧wr=w) (fun v0 _=>ZpY v0)
 case atStart=>exact⟨x,rfl,rfl,Xi _,rfl⟩
 case round=>
  obtain⟨y,rfl,i,o,rfl⟩:=hrel
  have m:=D i;clear i
  have rest:∀I:Bs,I=x.dropWhile ZaL→True:=fun _ _=>trivial
  cases y with
  |nil=>
   have h:r=[]:=by rw[F.out,←m.out];rfl
   clear rest;change Hid _ at h
   go_wp2_with fail
   go_loopw[0] (fun v0 wr2=>v0= .string ⟨#[]⟩∧wr2=wr) (fun v0 _=>ZpY v0)
   case atStart=>exact⟨rfl,rfl⟩
   case round=>
    obtain⟨rfl,rfl⟩:=hrel
    go_wp2_with fail
    go_ret
    exact⟨by rw[h.out];rfl,rfl⟩
  |cons c t=>
   have q:=Zhc c wr
   obtain⟨b,a⟩:=Je (ZaL c)
   rw[←a]at q
   have Q:=D q
   have C:((c::t:Bs)==[])=false:=rfl
   have hg:=Zaj (c::t) 0 (by simp)
   simp only[Xv]at hg
   clear q rest;change Hid _ at a
   go_wp2_with fail
   refine Q.out.mono ?_
   rintro e s ⟨rfl,g⟩
   rw[g];clear g s Q hg
   cases b with
   |true=>
    have H:ByteArray.extract ⟨(c::t).toArray⟩ 1 (t.length+1)=⟨t.toArray⟩:=by
     rw[Lib.extract_eq]
     show(⟨((t).take (t.length+1-1)).toArray⟩:ByteArray)=_
     rw[List.take_of_length_le (by omega)]
    have j:t.dropWhile ZaL=x.dropWhile ZaL:=by rw[←m.out,List.dropWhile_cons_of_pos (by rw[←a.out])]
    change Hid _ at j
    go_wp2_with fail
    refine⟨⟨t,rfl,j.out,by simp at o;omega,by trivial⟩,?_⟩
    simp only[ZpY,ByteArray.size,List.size_toArray,List.length_cons]
    omega
   |false=>
    have hd:x.dropWhile ZaL=c::t:=by rw[←m.out,List.dropWhile_cons_of_neg (by rw[←a.out];simp)]
    have h:=D (show((c::t).reverse.dropWhile ZaL).reverse=r by rw[F.out,hd])
    obtain⟨y,i⟩:=Je (c::t)
    rw[←i]at h o⊢
    clear hd i a m C
    go_wp2_with fail
    go_loopw[0] (fun v0 wr2=>∃(z:Bs),v0= .string ⟨z.toArray⟩∧(z.reverse.dropWhile ZaL).reverse=r∧z.length≤x.length∧wr2=wr) (fun v0 _=>ZpY v0)
    case atStart=>exact⟨y,rfl,h.out,o,rfl⟩
    case round=>
     obtain⟨z,rfl,G,n,rfl⟩:=hrel
     have l:=D G;clear G
     rcases List.eq_nil_or_concat z with rfl|⟨u,d,rfl⟩
     ·have E:r=[]:=by rw[←l.out];rfl
      have k:=D E;clear E
      go_wp2_with fail
      go_ret
      exact⟨by rw[k.out];rfl,rfl⟩
     ·rw[List.concat_eq_append]at l n⊢
      have q:=Zhc d wr
      obtain⟨b,a⟩:=Je (ZaL d)
      rw[←a]at q
      have Q:=D q
      have C:((u++[d]:Bs)==[])=false:=by rw[beq_eq_false_iff_ne];simp
      have hg:=Zaj (u++[d]) u.length (by simp)
      simp only[List.getElem_append_right (Xi _),Nat.sub_self,Xv]at hg
      have J:u.length+1≤1000000:=by simp at n;omega
      clear q;change Hid _ at a
      go_wp2_with fail
      refine Q.out.mono ?_
      rintro e s ⟨rfl,g⟩
      rw[g];clear g s Q hg
      cases b with
      |true=>
       have H:ByteArray.extract ⟨(u++[d]).toArray⟩ 0 u.length=⟨u.toArray⟩:=by
        rw[Lib.extract_eq]
        show(⟨((u++[d]).take u.length).toArray⟩:ByteArray)=_
        rw[List.take_left]
       have j:(u.reverse.dropWhile ZaL).reverse=r:=by rw[←l.out,List.reverse_append,List.reverse_singleton,List.singleton_append,List.dropWhile_cons_of_pos (by rw[←a.out])]
       change Hid _ at j
       go_wp2_with fail
       refine⟨⟨u,rfl,j.out,by simp at n;omega,by trivial⟩,?_⟩
       simp only[ZpY,ByteArray.size,List.size_toArray,Xd,List.length_cons,List.length_nil]
       omega
      |false=>
       have k:r=u++[d]:=by rw[←l.out,List.reverse_append,List.reverse_singleton,List.singleton_append,List.dropWhile_cons_of_neg (by rw[←a.out];simp)];simp
       change Hid _ at k
       go_wp2_with fail
       go_ret
       exact⟨by rw[k.out];rfl,rfl⟩
def Zj5 (x:Bs) (w:World) (hx:x.length≤1000000):
  Calls Tryz.prog 177 #[.string ⟨x.toArray⟩] w fun e w'=>e= .returned (.int .i64 (Zcx x))∧Zg [] w w':=by
 obtain⟨y,j⟩:=Je (Zat x)
 obtain⟨k,h⟩:=Je (ZlT x)
 have s:Zcx x=if !y||decide (32<x.length)||k then 5 else 0:=by unfold Zcx;rw[←j,←h]
 obtain⟨r,b⟩:=Je (Zcx x)
 rw[←b]
 have i:=D (b.trans s)
 have d:=Zcp x w hx
 have c:=fun t=>ZkS x t hx
 rw[←j]at d
 simp only[←h]at c
 have C:=D d;have z:=D c
 clear d c s j h b
 go_in
 go_wp2_with fail
 refine C.out.mono ?_
 rintro e t ⟨rfl,rfl⟩
 cases y with
 |false=>
  have a:r=5:=by rw[i.out];rfl
  change Hid _ at a
  go_wp2_with fail
  go_ret
  exact⟨by rw[a.out];rfl,Zg.refl _ _⟩
 |true=>
 by_cases n:32<x.length
 ·have m:r=5:=by rw[i.out,decide_eq_true n];rfl
  have a:=D m;clear m
  have g:(32:Int)<x.length:=by omega
  go_wp2_with fail
  go_ret
  exact⟨by rw[a.out];rfl,Zg.refl _ _⟩
 ·have l:r=if k then 5 else 0:=by rw[i.out,decide_eq_false n];rfl
  have q:=D l;clear l
  have g:¬((32:Int)<x.length):=by omega
  go_wp2_with fail
  refine(z.out w).mono ?_
  rintro e E ⟨rfl,o⟩
  have p:=D o;clear o
  cases k with
  |true=>
   go_wp2_with fail
   go_ret
   exact⟨by rw[q.out];rfl,p.out⟩
  |false=>
   go_wp2_with fail
   go_ret
   exact⟨by rw[q.out];rfl,p.out⟩
def Zpf (a b:Nat) (hb:b≤18446744073709551615) (w:World):
  Calls Tryz.prog 285 #[.int .u64 a, .int .u64 b] w fun e w'=>e= .returned (.int .u64 (leftT a b:Nat))∧w'=w:=by
 by_cases h:b≤a
 ·have c:leftT a b=0:=by unfold leftT;rw[if_pos h]
  rw[c]
  have d:(b:Int)≤a:=by omega
  go_in
  go_wp2_with fail
  go_ret
  exact⟨rfl,rfl⟩
 ·have c:((leftT a b:Nat):Int)=(b:Int)-a:=by unfold leftT;rw[if_neg h];omega
  rw[c]
  have d:¬((b:Int)≤a):=by omega
  go_in
  go_wp2_with fail
  go_ret
  exact⟨rfl,rfl⟩
def ZcO (x:Bs) (w:World):
  Calls Tryz.prog 174 #[.string ⟨x.toArray⟩] w fun e w'=>e= .returned (.int .i64 (YS x))∧w'=w:=by
 by_cases b:x=[104,116,116,112]
 ·have g:(x==[104,116,116,112])=true:=by rw[b];rfl
  have a:YS x=80:=by unfold YS;rw[if_pos b]
  rw[a]
  clear a b
  go_in
  go_wp2_with fail
  go_ret
  exact⟨rfl,rfl⟩
 ·have g:(x==[104,116,116,112])=false:=by rw[beq_eq_false_iff_ne];exact b
  by_cases c:x=[104,116,116,112,115]
  ·have d:(x==[104,116,116,112,115])=true:=by rw[c];rfl
   have a:YS x=443:=by unfold YS;rw[if_neg b,if_pos c]
   rw[a]
   clear a b c
   go_in
   go_wp2_with fail
   go_ret
   exact⟨rfl,rfl⟩
  ·have d:(x==[104,116,116,112,115])=false:=by rw[beq_eq_false_iff_ne];exact c
   have a:YS x=0:=by unfold YS;rw[if_neg b,if_neg c]
   rw[a]
   clear a b c
   go_in
   go_wp2_with fail
   go_ret
   exact⟨rfl,rfl⟩
def ZmB (c:UInt8):(ZlG c=true∧((97≤(c.toNat:Int)∧(c.toNat:Int)≤122)∨(48≤(c.toNat:Int)∧(c.toNat:Int)≤57)∨(c.toNat:Int)=45))∨(ZlG c=false∧(((c.toNat:Int)<48∧(c.toNat:Int)≠45)∨(57<(c.toNat:Int)∧(c.toNat:Int)<97)∨122<(c.toNat:Int))):=by
 have g:(c==45)=decide (c.toNat=45):=by
  rw[Bool.eq_iff_iff,beq_iff_eq,decide_eq_true_eq]
  exact⟨fun h=>by rw[h];rfl,fun h=>UInt8.toNat_inj.1 h⟩
 unfold ZlG
 rw[g]
 by_cases a:97≤c.toNat<;>by_cases b:c.toNat≤122<;>by_cases d:48≤c.toNat<;>by_cases e:c.toNat≤57<;>by_cases f:c.toNat=45<;>simp[a,b,d,e,f]<;>omega
def ZbX {P:Prop}(h:P:=by
 go_wp2_with fail
 exact⟨⟨k+1,by omega,by go_num,J.out,by trivial⟩,by simp[intOf];omega⟩):P:=h
def Ziw (x:Bs) (w:World) (hx:x.length≤1000000):
  Calls Tryz.prog 309 #[.string ⟨x.toArray⟩] w fun e w'=>e= .returned (.bool (ZdV x))∧w'=w:=by
 obtain⟨r,H⟩:=Je (ZdV x)
 have j:=D H
 rw[←H]
 clear H
 rcases List.eq_nil_or_concat x with rfl|⟨u,d,rfl⟩
 ·have a:r=false:=by rw[j.out];rfl
  have b:=D a;clear a
  go_in
  go_wp2_with fail
  go_ret
  exact⟨by rw[b.out];rfl,rfl⟩
 rw[List.concat_eq_append]at j hx⊢
 obtain⟨s,C⟩:=Je ((u++[d])[0]'(by simp))
 have R:=Zaj (u++[d]) 0 (by simp)
 have V:=Zaj (u++[d]) u.length (by simp)
 simp only[List.getElem_append_right (Xi _),Nat.sub_self,Xv]at V
 rw[←C]at R
 have ab:u.length+1≤1000000:=by simp at hx;omega
 have N:(u++[d]).head? =some s:=by rw[C,List.head?_eq_getElem?,Xa]
 have M:(u++[d]).getLast? =some d:=by simp
 have m:ZdV (u++[d])=(decide (u.length+1≤63)&&(some s !=some (45:UInt8))&&(some d !=some (45:UInt8))&&(u++[d]).all ZlG):=by
  unfold ZdV
  rw[N,M]
  simp
 have F:∀c:UInt8,((c.toNat:Int)==45)=decide (c=45):=fun c=>by
  rw[Bool.eq_iff_iff,beq_iff_eq,decide_eq_true_eq]
  exact⟨fun h=>UInt8.toNat_inj.1 (by show c.toNat=45;omega),fun h=>by rw[h];rfl⟩
 have I:=F s
 have K:=F d
 clear N M C F;change Hid _ at m
 have g1:¬((u.length:Int)+1<1):=by omega
 by_cases ac:63<u.length+1
 ·have a:r=false:=by rw[j.out,m.out,decide_eq_false (by omega)];rfl
  have b:=D a;clear a
  have g:(63:Int)<(u.length:Int)+1:=by omega
  go_in
  go_wp2_with fail
  go_ret
  exact⟨by rw[b.out];rfl,rfl⟩
 have g:¬((63:Int)<(u.length:Int)+1):=by omega
 by_cases i:s=45
 ·have a:r=false:=by rw[j.out,m.out,i];simp
  have b:=D a;clear a
  rw[decide_eq_true i]at I
  clear i
  go_in
  go_wp2_with fail
  go_ret
  exact⟨by rw[b.out];rfl,rfl⟩
 rw[decide_eq_false i]at I
 by_cases hd:d=45
 ·have a:r=false:=by rw[j.out,m.out,hd];simp
  have b:=D a;clear a
  rw[decide_eq_true hd]at K
  clear hd i
  go_in
  go_wp2_with fail
  go_ret
  exact⟨by rw[b.out];rfl,rfl⟩
 rw[decide_eq_false hd]at K
 have z:=D (show r=(u++[d]).all ZlG by rw[j.out,m.out,decide_eq_true (by omega)];simp[i,hd])
 clear i hd j m
 go_in
 go_wp2_with fail
 obtain⟨x,E⟩:=Je (u++[d])
 have aa:x.length=u.length+1:=by rw[E];simp
 rw[←E]at z⊢
 clear E R V I K
 rw[show(u.length:Int)+1=(x.length:Int)by omega]at*
 go_loopw[28] (fun v28 wr=>∃(k:Nat),k≤x.length∧v28= .int .i64 k∧(x.take k).all ZlG=true∧wr=w) (fun v28 _=>x.length-(intOf v28).toNat)
 case atStart=>exact⟨0,by omega,rfl,rfl,rfl⟩
 case round=>
  obtain⟨k,hk,rfl,Q,rfl⟩:=hrel
  have O:=D Q;clear Q
  by_cases G:k<x.length
  ·obtain⟨y,q⟩:=Je (x[k])
   have hg:=Zaj x k G
   rw[←q]at hg
   have T:x.take (k+1)=x.take k++[y]:=by rw[Xr G,q]
   have P:y∈x:=by rw[q];exact List.getElem_mem G
   have Y:=D P
   clear P q;change Hid _ at T
   rcases ZmB y with⟨n,i⟩|⟨n,i⟩
   ·have L:(x.take (k+1)).all ZlG=true:=by rw[T.out,List.all_append,O.out];simp[n]
    have J:=D L
    clear L n
    rcases i with⟨l,t⟩|⟨l,t⟩|l
    ·have p:¬((y.toNat:Int)<97):=by omega
     have o:¬((122:Int)<(y.toNat:Int)):=by omega
     exact ZbX
    ·have p:(y.toNat:Int)<97:=by omega
     have o:¬((y.toNat:Int)<48):=by omega
     have X:¬((57:Int)<(y.toNat:Int)):=by omega
     exact ZbX
    ·have p:(y.toNat:Int)<97:=by omega
     have o:(y.toNat:Int)<48:=by omega
     have X:((y.toNat:Int) !=45)=false:=by rw[l];rfl
     clear l
     exact ZbX
   ·have a:r=false:=by
     rw[z.out,Bool.eq_false_iff]
     intro h
     have:=(Xk.1 h) y Y.out
     rw[n]at this;cases this
    have b:=D a;clear a n
    have X:((y.toNat:Int) !=45)=true:=by rw[bne_iff_ne];omega
    rcases i with⟨l,t⟩|⟨l,t⟩|l
    ·have p:(y.toNat:Int)<97:=by omega
     have o:(y.toNat:Int)<48:=by omega
     clear t
     go_wp2_with fail
     go_ret
     exact⟨by rw[b.out];rfl,by trivial⟩
    ·have p:(y.toNat:Int)<97:=by omega
     have o:¬((y.toNat:Int)<48):=by omega
     have Z:(57:Int)<(y.toNat:Int):=by omega
     go_wp2_with fail
     go_ret
     exact⟨by rw[b.out];rfl,by trivial⟩
    ·have p:¬((y.toNat:Int)<97):=by omega
     have o:(122:Int)<(y.toNat:Int):=by omega
     have n5:¬((y.toNat:Int)<48):=by omega
     have Z:(57:Int)<(y.toNat:Int):=by omega
     go_wp2_with fail
     go_ret
     exact⟨by rw[b.out];rfl,by trivial⟩
  ·have S:k=x.length:=by omega
   have W:r=true:=by rw[z.out];have:=O.out;rw[S,Xm]at this;exact this
   clear S;change Hid _ at W
   go_wp2_with fail
   go_ret
   exact⟨by rw[W.out];rfl,by trivial⟩
end Go.Proofs.YtlhapbopmplngaaGreatDoor
