import Derived.Test.YtlhapbopmplngaaGreatDoorS13
import Derived.Test.YtlhapbopmplngaaGreatDoorS23
set_option linter.all false
set_option maxHeartbeats 16000000
set_option maxRecDepth 100000
set_option autoImplicit true
set_option relaxedAutoImplicit true
namespace Go.Lk
def ZqC (h:Bs×Bs):ZdD h=if 128<(YL h.2).length then false
 else if Yu h.1=[97,99,99,101,112,116]then(YL h.2).all ZdC
 else if Yu h.1=[97,99,99,101,112,116,45,108,97,110,103,117,97,103,101]∨Yu h.1=[99,111,110,116,101,110,116,45,108,97,110,103,117,97,103,101]then(YL h.2).all Zhb
 else if Yu h.1=[99,111,110,116,101,110,116,45,116,121,112,101]then(YL h.2).all ZdC&&ZiX (YL h.2)
 else if Yu h.1=[114,97,110,103,101]then Zfw (YL h.2)
 else false:=rfl
end Go.Lk
namespace Go.Proofs.YtlhapbopmplngaaGreatDoor
open Go.RowKit Go.Lk
def ZlV (h:Bs×Bs) (w:World) (h1:h.1.length≤900000) (h2:h.2.length≤900000) (hE:Env w):
  Calls Tryz.prog 261 #[.agg (ZcD h).toArray] w fun e w'=>e= .returned (.bool (ZdD h))∧Zg [] w w':=by
 obtain⟨r,H⟩:=Je (ZdD h)
 obtain⟨v,hv⟩:=Je (YL h.2)
 obtain⟨n,J⟩:=Je (Yu h.1)
 have aa:v.length≤900000:=by rw[hv];have:=Zav h.2;omega
 have j:=D (show r=if 128<v.length then false
  else if n=[97,99,99,101,112,116]then v.all ZdC
  else if n=[97,99,99,101,112,116,45,108,97,110,103,117,97,103,101]∨n=[99,111,110,116,101,110,116,45,108,97,110,103,117,97,103,101]then v.all Zhb
  else if n=[99,111,110,116,101,110,116,45,116,121,112,101]then v.all ZdC&&ZiX v
  else if n=[114,97,110,103,101]then Zfw v
  else false by rw[H,hv,J];exact ZqC h)
 rw[←H]
 obtain⟨w1,Q,E,C⟩:=Kc w (.cells #[.string ⟨h.1.toArray⟩, .string ⟨h.2.toArray⟩] 260)
 have c0:=Jc 0 C
 have c1:=Jc 1 C
 have G:=ZaR h.2 w1 (by omega)
 rw[←hv]at G
 have I:=YF h.1 w1 (by omega)
 rw[←J]at I
 have K:∀W,Calls Tryz.prog 310 #[.string ⟨v.toArray⟩, .func (.func 311) #[] #[]] W fun e w'=>e= .returned (.bool (v.all ZdC))∧w'=W:=fun W=>Zk9 v ZdC 311 W (by omega) (enters_of Tryz.func311 (by kernel_rfl) rfl) Zpn
 have O:∀W,Calls Tryz.prog 310 #[.string ⟨v.toArray⟩, .func (.func 312) #[] #[]] W fun e w'=>e= .returned (.bool (v.all Zhb))∧w'=W:=fun W=>Zk9 v Zhb 312 W (by omega) (enters_of Tryz.func312 (by kernel_rfl) rfl) Zoz
 have N:∀W,Env W→Calls Tryz.prog 313 #[.string ⟨v.toArray⟩] W fun e w'=>e= .returned (.bool (ZiX v))∧Zg [] W w':=fun W M=>Zls v W (by omega) M
 have L:∀W,Env W→Calls Tryz.prog 314 #[.string ⟨v.toArray⟩] W fun e w'=>e= .returned (.bool (Zfw v))∧Zg [] W w':=fun W M=>Znk v W (by omega) M
 obtain⟨s,S⟩:=Je (v.all ZdC)
 obtain⟨Y,P⟩:=Je (v.all Zhb)
 obtain⟨Z,V⟩:=Je (ZiX v)
 obtain⟨br,R⟩:=Je (Zfw v)
 rw[←S]at K j
 rw[←P]at O j
 rw[←V]at N j
 rw[←R]at L j
 have HE:=D hE
 have Q1:=D G;have X:=D I;have z:=D K;have QW:=D O;have QF:=D N;have QR:=D L
 clear G I K O N L C H hv J S P V R hE;change Hid _ at E Q
 show Calls _ _ #[.agg #[.string ⟨h.1.toArray⟩, .string ⟨h.2.toArray⟩]] w _
 go_in
 go_upto_region 1 with fail
 rw[←Q.out]
 go_wp2_with fail
 refine Q1.out.mono ?_
 rintro e k ⟨rfl,b⟩
 rw[b];clear b k Q1
 by_cases x:128<v.length
 ·have hz:(128:Int)<(v.length:Int):=by omega
  have a:=D (show r=false by rw[j.out,if_pos x])
  clear x
  go_wp2_with fail
  go_ret
  exact⟨by rw[a.out];rfl,E.out⟩
 have hz:¬(128:Int)<(v.length:Int):=by omega
 have o:=D (show r=if n=[97,99,99,101,112,116]then s
  else if n=[97,99,99,101,112,116,45,108,97,110,103,117,97,103,101]∨n=[99,111,110,116,101,110,116,45,108,97,110,103,117,97,103,101]then Y
  else if n=[99,111,110,116,101,110,116,45,116,121,112,101]then s&&Z
  else if n=[114,97,110,103,101]then br
  else false by rw[j.out,if_neg x])
 clear x j
 go_wp2_with fail
 refine X.out.mono ?_
 rintro e q ⟨rfl,T⟩
 have i:=Jt E T;clear T X
 by_cases g:n=[97,99,99,101,112,116]
 ·have a:=D (show r=s by rw[o.out,if_pos g])
  subst g
  go_wp2_with fail
  refine(z.out q).mono ?_
  rintro e k ⟨rfl,b⟩
  rw[b];clear b k z
  go_wp2_with fail
  go_ret
  exact⟨by rw[a.out];rfl,i.out⟩
 by_cases d:n=[97,99,99,101,112,116,45,108,97,110,103,117,97,103,101]∨n=[99,111,110,116,101,110,116,45,108,97,110,103,117,97,103,101]
 ·have a:=D (show r=Y by rw[o.out,if_neg g,if_pos d])
  clear g
  rcases d with rfl|rfl
  all_goals
   go_wp2_with fail
   refine(QW.out q).mono ?_
   rintro e k ⟨rfl,b⟩
   rw[b];clear b k QW
   go_wp2_with fail
   go_ret
   exact⟨by rw[a.out];rfl,i.out⟩
 by_cases m:n=[99,111,110,116,101,110,116,45,116,121,112,101]
 ·have a:=D (show r=(s&&Z)by rw[o.out,if_neg g,if_neg d,if_pos m])
  clear g d
  subst m
  go_wp2_with fail
  refine(z.out q).mono ?_
  rintro e k ⟨rfl,b⟩
  rw[b];clear b k z
  cases s with
  |false=>
   go_wp2_with fail
   go_ret
   exact⟨by rw[a.out];rfl,i.out⟩
  |true=>
   go_wp2_with fail
   refine(QF.out q (HE.upd0 i)).mono ?_
   rintro e w3 ⟨rfl,p⟩
   have F:=Jt i p;clear p QF
   go_wp2_with fail
   go_ret
   exact⟨by rw[a.out];rfl,F.out⟩
 by_cases y:n=[114,97,110,103,101]
 ·have a:=D (show r=br by rw[o.out,if_neg g,if_neg d,if_neg m,if_pos y])
  clear g d m
  subst y
  go_wp2_with fail
  refine(QR.out q (HE.upd0 i)).mono ?_
  rintro e w3 ⟨rfl,p⟩
  have F:=Jt i p;clear p QR
  go_wp2_with fail
  go_ret
  exact⟨by rw[a.out];rfl,F.out⟩
 ·have a:=D (show r=false by rw[o.out,if_neg g,if_neg d,if_neg m,if_neg y])
  rw[not_or]at d
  obtain⟨d,n5⟩:=d
  have l:∀(c:Bs),n≠c→(n==c)=false:=fun c h=>by rw[beq_eq_false_iff_ne];exact h
  have f1:=l _ g
  have f2:=l _ d
  have f3:=l _ m
  have f4:=l _ y
  have f5:=l _ n5
  clear l
  go_wp2_with fail
  go_ret
  exact⟨by rw[a.out];rfl,i.out⟩
end Go.Proofs.YtlhapbopmplngaaGreatDoor
namespace Go.Lk
def Zqe (origin:Bs) (creds:Bool) (l:List (Bs×Bs)):Zfk origin creds l=if(Zc5 l [97,99,99,101,115,115,45,99,111,110,116,114,111,108,45,97,108,108,111,119,45,111,114,105,103,105,110]).2&&(Zc5 l [97,99,99,101,115,115,45,99,111,110,116,114,111,108,45,97,108,108,111,119,45,111,114,105,103,105,110]).1==[42]&& !creds then 0
 else if !(Zc5 l [97,99,99,101,115,115,45,99,111,110,116,114,111,108,45,97,108,108,111,119,45,111,114,105,103,105,110]).2||(Zc5 l [97,99,99,101,115,115,45,99,111,110,116,114,111,108,45,97,108,108,111,119,45,111,114,105,103,105,110]).1 !=origin then 15
 else if creds&&(Zc5 l [97,99,99,101,115,115,45,99,111,110,116,114,111,108,45,97,108,108,111,119,45,99,114,101,100,101,110,116,105,97,108,115]).1 !=[116,114,117,101]then 15 else 0:=rfl
end Go.Lk
namespace Go.Proofs.YtlhapbopmplngaaGreatDoor
open Go.RowKit Go.Lk
def Zf9 {P:Prop}(h:P:=by
 go_wp2_with fail
 refine(m.out s g).mono ?_
 rintro e F ⟨rfl,h⟩
 have k:=Jt g h;clear h m
 by_cases ht:o=[116,114,117,101]
 ·
  have j:=D (show R=0 by rw[a.out,if_pos ht])
  subst ht
  go_wp2_with fail
  go_ret
  exact⟨by rw[j.out];rfl,k.out⟩
 ·
  have j:=D (show R=15 by rw[a.out,if_neg ht])
  have H:(o==([116,114,117,101]:Bs))=false:=by rw[beq_eq_false_iff_ne];exact ht
  clear ht
  go_wp2_with fail
  go_ret
  exact⟨by rw[j.out];rfl,k.out⟩):P:=h
def ZiJ (origin:Bs) (creds:Bool) (l:List (Bs×Bs)) (A:Option Addr) (c:Nat) (w:World) (hA:Zas w A l) (hl:l.length≤1000000) (hf:Zd9 l):
  Calls Tryz.prog 83 #[.string ⟨origin.toArray⟩, .bool creds, .slice A l.length c] w fun e w'=>e= .returned (.int .i64 (Zfk origin creds l))∧Zg [] w w':=by
 obtain⟨R,y⟩:=Je (Zfk origin creds l)
 obtain⟨v,hv⟩:=Je (Zc5 l [97,99,99,101,115,115,45,99,111,110,116,114,111,108,45,97,108,108,111,119,45,111,114,105,103,105,110])
 obtain⟨t,ht⟩:=Je (Zc5 l [97,99,99,101,115,115,45,99,111,110,116,114,111,108,45,97,108,108,111,119,45,99,114,101,100,101,110,116,105,97,108,115])
 have p:=D (show R=if v.2&&v.1==[42]&& !creds then 0 else if !v.2||v.1 !=origin then 15 else if creds&&t.1 !=[116,114,117,101]then 15 else 0 by rw[y,hv,ht];exact Zqe _ _ _)
 rw[←y]
 obtain⟨n,q⟩:=Je l.length
 have r:=ZdP l A c [97,99,99,101,115,115,45,99,111,110,116,114,111,108,45,97,108,108,111,119,45,111,114,105,103,105,110] w hA hl hf (by simp)
 rw[←hv,←q]at r
 have G:∀W,Zg [] w W→Calls Tryz.prog 160 #[.slice A n c, .string ⟨([97,99,99,101,115,115,45,99,111,110,116,114,111,108,45,97,108,108,111,119,45,99,114,101,100,101,110,116,105,97,108,115]:Bs).toArray⟩] W fun e w'=>e= .returned (.tuple #[.string ⟨t.1.toArray⟩, .bool t.2])∧Zg [] W w':=fun W K=>by rw[ht,q];exact ZdP l A c [97,99,99,101,115,115,45,99,111,110,116,114,111,108,45,97,108,108,111,119,45,99,114,101,100,101,110,116,105,97,108,115] W (hA.upd0 K) hl hf (by simp)
 rw[←q]
 have x:=D r;have m:=D G
 clear r G y hv ht hA hf q
 obtain⟨i,I⟩:=v
 obtain⟨o,N⟩:=t
 dsimp only at p x m
 go_in
 go_wp2_with fail
 refine x.out.mono ?_
 rintro e s ⟨rfl,E⟩
 have g:=D E;clear E x
 cases I with
 |false=>
  have a:=D (show R=15 by rw[p.out];rfl)
  go_wp2_with fail
  go_ret
  exact⟨by rw[a.out];rfl,g.out⟩
 |true=>
 have d:=p.out
 clear p
 by_cases ho:i=origin
 case neg=>
  have M:(i==origin)=false:=by rw[beq_eq_false_iff_ne];exact ho
  by_cases b:i=[42]
  ·subst b
   cases creds with
   |true=>
    have a:=D (show R=15 by rw[d,if_neg (by simp),if_pos (by simp[ho])])
    clear d ho
    go_wp2_with fail
    go_ret
    exact⟨by rw[a.out];rfl,g.out⟩
   |false=>
    have a:=D (show R=0 by rw[d,if_pos (by simp)])
    clear d ho
    go_wp2_with fail
    go_ret
    exact⟨by rw[a.out];rfl,g.out⟩
  ·have J:(i==([42]:Bs))=false:=by rw[beq_eq_false_iff_ne];exact b
   have a:=D (show R=15 by rw[d,if_neg (by simp[b]),if_pos (by simp[ho])])
   clear d ho b
   go_wp2_with fail
   go_ret
   exact⟨by rw[a.out];rfl,g.out⟩
 subst ho
 cases creds with
 |false=>
  by_cases b:i=[42]
  ·subst b
   have a:=D (show R=0 by rw[d,if_pos (by simp)])
   clear d
   go_wp2_with fail
   go_ret
   exact⟨by rw[a.out];rfl,g.out⟩
  ·have J:(i==([42]:Bs))=false:=by rw[beq_eq_false_iff_ne];exact b
   have a:=D (show R=0 by rw[d,if_neg (by simp[b]),if_neg (by simp),if_neg (by simp)])
   clear d b
   go_wp2_with fail
   refine(m.out s g).mono ?_
   rintro e F ⟨rfl,h⟩
   have k:=Jt g h;clear h m
   go_wp2_with fail
   go_ret
   exact⟨by rw[a.out];rfl,k.out⟩
 |true=>
  have a:=D (show R=if o=[116,114,117,101]then 0 else 15 by
   rw[d,if_neg (by simp),if_neg (by simp)]
   by_cases b:o=[116,114,117,101]
   ·rw[if_neg (by simp[b]),if_pos b]
   ·rw[if_pos (by simp[b]),if_neg b])
  clear d
  obtain⟨L,C⟩:=Je ((i==([42]:Bs)))
  have z:=C.symm
  clear C
  cases L with
  |true=>
   have hv:i=[42]:=by simpa using z
   subst hv
   clear z
   exact Zf9
  |false=>
   exact Zf9
end Go.Proofs.YtlhapbopmplngaaGreatDoor
