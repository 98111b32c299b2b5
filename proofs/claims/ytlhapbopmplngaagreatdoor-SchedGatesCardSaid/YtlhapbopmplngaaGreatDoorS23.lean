import Derived.Test.YtlhapbopmplngaaGreatDoorS12
import Derived.Test.YtlhapbopmplngaaGreatDoorS22
set_option linter.all false
set_option maxHeartbeats 16000000
set_option maxRecDepth 100000
set_option autoImplicit true
set_option relaxedAutoImplicit true
namespace Go.Proofs.YtlhapbopmplngaaGreatDoor
open Go.RowKit Go.Lk
def ZcD (h:Bs×Bs):List Value:=[.string ⟨h.1.toArray⟩, .string ⟨h.2.toArray⟩]
def Zas (w:World) (A:Option Addr) (l:List (Bs×Bs)):Prop:=∀(j:Nat) h,l[j]? =some h→∃ab ao,A=some ⟨ab,ao,none⟩∧Zb w ab (ao+j*2) (ZcD h)
def Zas.upd (h:Zas w A l) (hu:Zg F w w1) (hF:∀ab ao,A=some ⟨ab,ao,none⟩→ab∉F:=by simp):Zas w1 A l:=fun j x hj=>by
 obtain⟨ab,ao,e,hc⟩:=h j x hj
 exact⟨ab,ao,e,hc.upd hu (hF ab ao e)⟩
def Zas.upd0 (h:Zas w A l) (hu:Zg [] w w1):Zas w1 A l:=h.upd hu
def ZhH:Zu Tryz.prog 260 2=true:=by kernel_rfl
def ZpJ:(Tryz.prog.info? 260).map (fun i=>(i.zero,i.size,i.bytes))=some (some (.agg #[.string ⟨#[]⟩, .string ⟨#[]⟩]),2,32):=by kernel_rfl
def ZeO (x:Bs×Bs):∀u∈ZcD x,u.oneCell'=true:=by intro u hu;unfold ZcD at hu;simp at hu;rcases hu with rfl|rfl<;>rfl
def Zd9 (l:List (Bs×Bs)):Prop:=∀x∈l,x.1.length≤900000∧x.2.length≤900000
def ZhC (h:Bs×Bs) (w:World) (h1:h.1.length≤900000) (h2:h.2.length≤900000):
  Calls Tryz.prog 153 #[.agg (ZcD h).toArray] w fun e w'=>e= .returned (.bool (okH h))∧Zg [] w w':=by
 obtain⟨r,o⟩:=Je (okH h)
 obtain⟨E,m⟩:=Je (Zat h.1)
 obtain⟨v,hv⟩:=Je (YL h.2)
 have L:v.length≤900000:=by rw[hv];have:=Zav h.2;omega
 obtain⟨C,l⟩:=Je (v.any fun c=>([0,10,13]:Bs).contains c)
 have j:=D (show r=(E&&decide (h.1.length≤64)&&decide (v.length≤4096)&& !C)by rw[o,m,l,hv];rfl)
 rw[←o]
 obtain⟨s,y,b,k⟩:=Kc w (.cells #[.string ⟨h.1.toArray⟩, .string ⟨h.2.toArray⟩] 260)
 have M:=Jc 0 k
 have N:=Jc 1 k
 have n:=ZaR h.2 s (by omega)
 rw[←hv]at n
 have q:=Zcp h.1 s (by omega)
 rw[←m]at q
 have p:=Zkg v [0,10,13] (by decide) (by decide) (by decide) (by omega) s
 rw[←l]at p
 have G:=D n;have z:=D q;have K:=D p
 clear n q p k o m hv l;change Hid _ at b y
 show Calls _ _ #[.agg #[.string ⟨h.1.toArray⟩, .string ⟨h.2.toArray⟩]] w _
 go_in
 go_upto_region 1 with fail
 rw[←y.out]
 go_wp2_with fail
 refine G.out.mono ?_
 rintro e F ⟨rfl,g⟩
 rw[g];clear g F G
 go_wp2_with fail
 refine z.out.mono ?_
 rintro e F ⟨rfl,g⟩
 subst g
 clear z
 cases E with
 |false=>
  have a:=D (show r=false by rw[j.out];rfl)
  go_wp2_with fail
  go_ret
  exact⟨by rw[a.out];rfl,b.out⟩
 |true=>
 by_cases d:h.1.length≤64
 ·have I:(h.1.length:Int)≤64:=by omega
  by_cases i:v.length≤4096
  ·have H:(v.length:Int)≤4096:=by omega
   have a:=D (show r= !C by rw[j.out,decide_eq_true d,decide_eq_true i];rfl)
   clear d i
   go_wp2_with fail
   refine K.out.mono ?_
   rintro e O ⟨rfl,x⟩
   have J:=Jt b x;clear x
   go_wp2_with fail
   go_ret
   exact⟨by rw[a.out];rfl,J.out⟩
  ·have H:¬(v.length:Int)≤4096:=by omega
   have a:=D (show r=false by rw[j.out,decide_eq_false i];simp)
   clear d i
   go_wp2_with fail
   go_ret
   exact⟨by rw[a.out];rfl,b.out⟩
 ·have I:¬(h.1.length:Int)≤64:=by omega
  have a:=D (show r=false by rw[j.out,decide_eq_false d];simp)
  clear d
  go_wp2_with fail
  go_ret
  exact⟨by rw[a.out];rfl,b.out⟩
def ZfX (l:List (Bs×Bs)) (A:Option Addr) (c:Nat) (w:World) (hA:Zas w A l) (hl:l.length≤1000000) (hf:Zd9 l):
  Calls Tryz.prog 80 #[.slice A l.length c] w fun e w'=>e= .returned (.int .i64 (ZbW l))∧Zg [] w w':=by
 obtain⟨r,z⟩:=Je (ZbW l)
 have C:=D z
 rw[←z]
 clear z
 have Z:=D hA;have V:=D hf
 clear hA hf
 by_cases o:32<l.length
 ·have X:(32:Int)<(l.length:Int):=by omega
  have a:=D (show r=4 by rw[C.out];unfold ZbW;rw[if_pos o])
  go_in
  go_wp2_with fail
  go_ret
  exact⟨by rw[a.out];rfl,Zg.refl _ _⟩
 have X:¬(32:Int)<(l.length:Int):=by omega
 have E:=D (show r=if l.all okH then 0 else 6 by rw[C.out];unfold ZbW;rw[if_neg o])
 have n:=D ZhH
 clear o C
 go_in
 go_wp2_with fail
 go_loopw[10,4] (fun v10 _ wr=>∃(k:Nat),k≤l.length∧v10= .int .i64 k∧Hid (∀j h,j<k→l[j]? =some h→okH h=true)∧Hid (Zg [] w wr)) (fun v10 _ _=>l.length-(intOf v10).toNat)
 case atStart=>exact⟨0,Xn _,rfl,D (fun j h d=>absurd d (Nat.not_lt_zero _)),D (Zg.refl [] w)⟩
 case round=>
  obtain⟨k,hk,rfl,L,s⟩:=hrel
  by_cases R:k<l.length
  ·obtain⟨x,hx⟩:∃x,l[k]? =some x:=⟨_,Xa R⟩
   obtain⟨ab,ao,rfl,F⟩:=Z.out k x hx
   have P:=D (F.upd s)
   have K:=D hx
   obtain⟨N,O⟩:=V.out x (Xc hx)
   have m:=Za (w:=wr) (.cells #[.string ⟨#[]⟩, .string ⟨#[]⟩] 260 (0,0))
   have W:=D m
   obtain⟨M,g⟩:=Je ((wr.alloc (.cells #[.string ⟨#[]⟩, .string ⟨#[]⟩] 260 (0,0))).setRow wr.heap.size (ZcD x).toArray)
   have G:=Kk g m
   have H:=Kh g
   have T:=D (show Zb M wr.heap.size 0 (ZcD x)from Zb.of_block G)
   have S:=D (show(ZcD x).toArray.all (·.oneCell')=true by rw[Xl,Xk];exact ZeO x)
   have Q:=Jt s H
   have q:=ZhC x M N O
   obtain⟨b,i⟩:=Je (okH x)
   rw[←i]at q
   have Y:=D q
   clear hx F m G H q;change Hid _ at g i
   go_wp2_with(first|refine Js P n ?_|(refine Jo (ZcD x).toArray W n S ?_;rw[←g.out])|refine Js T n ?_)
   refine Y.out.mono ?_
   rintro e w3 ⟨rfl,I⟩
   have J:=Jt Q I;clear I
   cases b with
   |true=>
    go_wp2_with fail
    exact⟨⟨k+1,by omega,by go_num,D (fun j y d p=>by
     by_cases e:j=k
     ·subst e;rw[K.out]at p;cases p;exact i.symm
     ·exact L j y (by omega) p),J⟩,by simp[intOf];omega⟩
   |false=>
    have a:=D (show r=6 by
     rw[E.out,if_neg]
     intro h
     have:=Xk.1 h x (Xc K)
     rw[←i.out]at this;cases this)
    go_wp2_with fail
    go_ret
    exact⟨by rw[a.out];rfl,J.out⟩
  ·obtain rfl:k=l.length:=by omega
   have a:=D (show r=0 by
    rw[E.out,if_pos]
    rw[Xk]
    intro x hx
    obtain⟨j,d⟩:=List.getElem?_of_mem hx
    exact L j x (Jk d) d)
   go_wp2_with fail
   go_ret
   exact⟨by rw[a.out];rfl,s.out⟩
def Zbq (v:Value) (l:List (Bs×Bs)):YD:=Zk 260 2 v (l.map ZcD)
def Yb (v:Value) (l:List (Bs×Bs)):(Zbq v l).Local:=Zc _ _ _ _
def Zbq.hdrs (h:Zbq v l w F):∃A c,v= .slice A l.length c∧l.length≤c∧Zas w A l:=by
 obtain⟨A,c,a,b,e⟩:=h.lies
 rw[Xb]at a b
 refine⟨A,c,a,b,fun j x g=> ?_⟩
 obtain⟨i,f,d⟩:=e j (ZcD x) (by rw[Xe,g];rfl)
 exact⟨i,0,f,by rw[Nat.zero_add];exact d⟩
def ZnW (w:World) (l:List (Bs×Bs)) (e:Ending) (w':World):Prop:=∃(v:Value) (M:List Nat),e= .returned v∧Zbq v l w' M∧(∀k∈M,w.heap.size≤k)∧Zg [] w w'
def ZmI {l:List (Bs×Bs)} {k:Nat} {x:Bs×Bs} (h:l[k]? =some x):Zcy (l.take (k+1))=Zcy (l.take k)++[(Yu x.1,YL x.2)]:=by
 unfold Zcy;rw[ZZ h,Xs];rfl
def ZlH (l:List (Bs×Bs)) (A:Option Addr) (c:Nat) (w:World) (hA:Zas w A l) (hl:l.length≤1000000) (hf:Zd9 l):
  Calls Tryz.prog 113 #[.slice A l.length c] w (ZnW w (Zcy l)):=by
 have HA:=D hA;have HF:=D hf
 have ae:=D ZhH
 clear hA hf
 go_in
 go_wp2_with fail
 go_loopw[8,3,5] (fun v8 v3 _ wr=>∃(k:Nat) (M:List Nat),k≤l.length∧v8= .int .i64 k∧Hid (Zbq v3 (Zcy (l.take k)) wr M)∧Hid (∀q∈M,w.heap.size≤q)∧Hid (Zg [] w wr)) (fun v8 _ _ _=>l.length-(intOf v8).toNat)
 case atStart=>exact⟨0,[],Xn _,rfl,D (ZA _ _ _),D (by simp),D (Zg.refl [] w)⟩
 case round=>
  obtain⟨k,M,hk,rfl,HR,O,R⟩:=hrel
  by_cases aw:k<l.length
  ·obtain⟨x,hx⟩:∃x,l[k]? =some x:=⟨_,Xa aw⟩
   obtain⟨ab,ao,rfl,ad⟩:=HA.out k x hx
   have au:=D (ad.upd R)
   obtain⟨aA,aC⟩:=HF.out x (Xc hx)
   have L:=Za (w:=wr) (.cells #[.string ⟨#[]⟩, .string ⟨#[]⟩] 260 (0,0))
   have HZ:=D L
   obtain⟨E,r⟩:=Je ((wr.alloc (.cells #[.string ⟨#[]⟩, .string ⟨#[]⟩] 260 (0,0))).setRow wr.heap.size (ZcD x).toArray)
   have p:=Kk r L
   have N:=Kh r
   have aq:=D (show(ZcD x).toArray.all (·.oneCell')=true by rw[Xl,Xk];exact ZeO x)
   have av:=Jt R N
   have aB:=D p
   have ay:=D ((Yb _ _).upd HR N)
   have s:=ZmI hx
   have J:∀W,Calls Tryz.prog 173 #[.string ⟨x.1.toArray⟩] W fun e Q=>e= .returned (.string ⟨(Yu x.1).toArray⟩)∧Zg [] W Q:=fun W=>YF x.1 W (by omega)
   have I:∀W,Calls Tryz.prog 189 #[.string ⟨x.2.toArray⟩] W fun e Q=>e= .returned (.string ⟨(YL x.2).toArray⟩)∧Q=W:=fun W=>ZaR x.2 W (by omega)
   obtain⟨S,aa⟩:=Je (Yu x.1)
   obtain⟨P,Y⟩:=Je (YL x.2)
   simp only[←aa]at J s
   simp only[←Y]at I s
   obtain⟨a,o⟩:=Je wr.heap.size
   have ap:=D s;have V:=D J;have T:=D I;have aj:=D o
   have z:E.cell? ⟨a,0,none⟩=some (.string ⟨x.1.toArray⟩):=by rw[o];exact Zf (i:=0) p rfl
   have C:E.cell? ⟨a,1,none⟩=some (.string ⟨x.2.toArray⟩):=by rw[o];exact Zf (i:=1) p rfl
   clear hx ad L p N s J I aa Y;change Hid _ at r
   go_upto_region 5 with(first|refine Js au ae ?_|(refine Jo (ZcD x).toArray HZ ae aq ?_;rw[←r.out]))
   rw[←aj.out]
   clear o
   refine Jr [0,4,8,16,20,13,25,28,33,38,40] (fun W=>W.cell? ⟨a,0,none⟩=some (.string ⟨x.1.toArray⟩)∧W.cell? ⟨a,1,none⟩=some (.string ⟨x.2.toArray⟩)) ⟨z,C⟩ ?_
   repeat first|refine Jn ?_|refine Jf ?_|refine Ju ?_
   refine JE ?_
   simp only[Xu]
   go_wp2_with fail
   refine(V.out _).mono ?_
   rintro e F ⟨rfl,ag⟩
   have b:Zg [] E F:=((Zg.refl [] E).drewN 1).trans ag
   have m:=(Xp (b.block a (Xo _ _ z) (by simp))).trans z
   have g:=(Xp (b.block a (Xo _ _ C) (by simp))).trans C
   have ar:=Jt av b;have an:=D ((Yb _ _).upd ay b)
   clear ag b z C V
   go_wp2_with fail
   refine⟨fun W=>W.cell? ⟨a,0,none⟩=some (.string ⟨x.1.toArray⟩)∧W.cell? ⟨a,1,none⟩=some (.string ⟨x.2.toArray⟩),fun _ h=>h,⟨m,g⟩,?_⟩
   repeat first|refine Jn ?_|refine Jf ?_|refine Ju ?_
   refine JE ?_
   go_wp2_with fail
   refine(T.out _).mono ?_
   rintro e wt ⟨rfl,af⟩
   rw[af];clear af wt T
   go_wp2_with fail
   refine⟨fun W=>W.cell? ⟨a,0,none⟩=some (.string ⟨x.1.toArray⟩)∧W.cell? ⟨a,1,none⟩=some (.string ⟨x.2.toArray⟩),fun _ h=>h,⟨m,g⟩,?_⟩
   repeat first|refine Jn ?_|refine Jf ?_|refine Ju ?_
   refine JE ?_
   go_wp2_with fail
   obtain⟨w3,y⟩:=Je (F.alloc (.cells #[.string ⟨S.toArray⟩, .string ⟨P.toArray⟩] 260))
   rw[←y]
   have d:=Ja y
   have ai:=D (show Zb w3 F.heap.size 0 (ZcD (S,P))by rw[y];exact Zb.of_block (Za _))
   have K:=D ((Yb _ _).upd an d);have ah:=Jt ar d
   have e0:=(Xp (d.block a (Xo _ _ m) (by simp))).trans m
   have e1:=(Xp (d.block a (Xo _ _ g) (by simp))).trans g
   refine⟨fun W=>W.cell? ⟨a,0,none⟩=some (.string ⟨x.1.toArray⟩)∧W.cell? ⟨a,1,none⟩=some (.string ⟨x.2.toArray⟩),fun _ h=>h,⟨e0,e1⟩,?_⟩
   obtain⟨A3,c3,rfl,_,_⟩:=K.hdrs
   have az:(Zcy (l.take k)).length≤1000000:=by unfold Zcy;rw[Xb,List.length_take];omega
   obtain⟨n,H⟩:=Je ((Zcy (l.take k)).length)
   rw[←H]at K az
   have ak:=D H
   rw[←H]
   clear y d m g e0 e1 H
   refine JL ?_
   refine Zm w3 rfl (.tmp 12) (.tmp 20) 33 rfl 260 Tryz.underlying33 ZpJ rfl (by omega) (by omega) (.slice A3 n c3) ((Zcy (l.take k)).map ZcD) M rfl K F.heap.size 1 (ZcD (S,P)) rfl ai rfl (ZeO _) (by rw[Xb,←ak.out];omega) ?_
   intro v' w7 G' ac X Z
   have ax:=D ac;have am:=D X;have al:=D Z
   clear ac X Z
   go_wp2_with fail
   refine⟨fun _=>True,trivial,?_⟩
   repeat first|refine Jn ?_|refine Jf ?_|refine Ju ?_
   refine ZK ?_
   go_wp2_with fail
   have s3:=ah.size
   exact⟨⟨k+1,G',by omega,by go_num,D (by rw[ap.out];unfold Zbq;rw[Xs];exact ax),D (fun q j=>by
    rcases al q j with h|h
    ·exact O q h
    ·omega),D (((ah.weaken (G:=M) (by simp)).trans am (fun q j=> .inr j)).weaken (fun q j=> .inl (O.out q j)))⟩,by simp[intOf];omega⟩
  ·obtain rfl:k=l.length:=by omega
   go_wp2_with fail
   go_ret
   exact⟨_,M,rfl,by have:=HR.out;rw[Xm]at this;exact this,O.out,R.out⟩
end Go.Proofs.YtlhapbopmplngaaGreatDoor
namespace Go.Lk
theorem ZeN (sep:Bs) (m:Nat):∀l:List Bs,(∀x∈l,x.length≤m)→(Lib.join l sep).length≤(m+sep.length)*l.length
 |[],_=>by simp[Lib.join]
 |[x],h=>by have:=h x (by simp);simp[Lib.join];omega
 |x::y::l,h=>by
  have h1:=h x (by simp)
  have h2:=ZeN sep m (y::l) (fun z hz=>h z (by simp[hz]))
  have e:Lib.join (x::y::l) sep=x++sep++Lib.join (y::l) sep:=by simp[Lib.join,List.intercalate]
  rw[e,Xd,Xd]
  rw[List.length_cons]at h2
  rw[List.length_cons,List.length_cons]
  rw[Nat.mul_add (m+sep.length) (l.length+1) 1]
  omega
end Go.Lk
namespace Go.Proofs.YtlhapbopmplngaaGreatDoor
open Go.RowKit Go.Lk
def Znt {l:List (Bs×Bs)} {k:Nat} {x:Bs×Bs} (name:Bs) (h:l[k]? =some x):Zad (l.take (k+1)) name=if ZbU x.1 name then Zad (l.take k) name++[YL x.2]else Zad (l.take k) name:=by
 unfold Zad
 rw[ZZ h,List.filter_append,Xs]
 split
 ·rename_i a;simp[a]
 ·rename_i a;simp[a]
def Zg0 (l:List (Bs×Bs)) (name:Bs):(Zad l name).length≤l.length:=by
 unfold Zad;rw[Xb];exact Xq _ _
def ZoO {name:Bs} (hf:Zd9 l):∀x∈Zad l name,x.length≤900000:=fun x hx=>by
 obtain⟨h,hh,rfl⟩:=List.mem_map.1 hx
 have:=hf h (List.mem_filter.1 hh).1
 have:=Zav h.2
 omega
def ZdP (l:List (Bs×Bs)) (A:Option Addr) (c:Nat) (name:Bs) (w:World) (hA:Zas w A l) (hl:l.length≤1000000) (hf:Zd9 l) (hn:name.length≤900000):
  Calls Tryz.prog 160 #[.slice A l.length c, .string ⟨name.toArray⟩] w fun e w'=>e= .returned (.tuple #[.string ⟨(Zc5 l name).1.toArray⟩, .bool (Zc5 l name).2])∧Zg [] w w':=by
 obtain⟨R,X⟩:=Je (Zc5 l name)
 have ag:=D (show R=(Zff (Zad l name),decide (0<(Zad l name).length))from X)
 rw[←X]
 clear X
 have HA:=D hA;have HF:=D hf
 have ak:=D ZhH
 clear hA hf
 go_in
 go_wp2_with fail
 go_loopw[11,6,8] (fun v11 v6 _ wr=>∃(k:Nat) (M:List Nat),k≤l.length∧v11= .int .i64 k∧Hid (Z9 v6 (Zad (l.take k) name) wr M)∧Hid (∀q∈M,w.heap.size≤q)∧Hid (Zg [] w wr)) (fun v11 _ _ _=>l.length-(intOf v11).toNat)
 case atStart=>exact⟨0,[],Xn _,rfl,D (ZA _ _ _),D (by simp),D (Zg.refl [] w)⟩
 case round=>
  obtain⟨k,M,hk,rfl,HR,N,T⟩:=hrel
  by_cases az:k<l.length
  ·obtain⟨x,hx⟩:∃x,l[k]? =some x:=⟨_,Xa az⟩
   obtain⟨ab,ao,rfl,aj⟩:=HA.out k x hx
   have av:=D (aj.upd T)
   obtain⟨aC,aD⟩:=HF.out x (Xc hx)
   have J:=Za (w:=wr) (.cells #[.string ⟨#[]⟩, .string ⟨#[]⟩] 260 (0,0))
   have HZ:=D J
   obtain⟨W1,j⟩:=Je ((wr.alloc (.cells #[.string ⟨#[]⟩, .string ⟨#[]⟩] 260 (0,0))).setRow wr.heap.size (ZcD x).toArray)
   have E:=Kk j J
   have L:=Kh j
   have au:=D (show(ZcD x).toArray.all (·.oneCell')=true by rw[Xl,Xk];exact ZeO x)
   have aw:=Jt T L
   have ay:=D ((Zl _ _).upd HR L)
   have m:=Znt name hx
   have H:=Zfs x.1 name W1 (by omega) (by omega)
   have y:∀W,Calls Tryz.prog 189 #[.string ⟨x.2.toArray⟩] W fun e w'=>e= .returned (.string ⟨(YL x.2).toArray⟩)∧w'=W:=fun W=>ZaR x.2 W (by omega)
   obtain⟨p,ae⟩:=Je (YL x.2)
   obtain⟨b,hb⟩:=Je (ZbU x.1 name)
   simp only[←ae]at y m
   rw[←hb]at m H
   have ad:=D m;have aa:=D H;have Y:=D y
   have c0:=Jc 0 E
   have S:=Jc 1 E
   clear hx aj J E L m H y ae hb;change Hid _ at j
   go_wp2_with(first|refine Js av ak ?_|(refine Jo (ZcD x).toArray HZ ak au ?_;rw[←j.out]))
   refine aa.out.mono ?_
   rintro e s ⟨rfl,o⟩
   have d1:s.cell? ⟨wr.heap.size,1,none⟩=some (.string ⟨x.2.toArray⟩):=(Xp (o.block wr.heap.size (Xo _ _ S) (by simp))).trans S
   have ah:=Jt aw o;have ac:=D ((Zl _ _).upd ay o)
   clear o c0 S aa
   cases b with
   |false=>
    have P:=D (show Zad (l.take (k+1)) name=Zad (l.take k) name by rw[ad.out];rfl)
    go_wp2_with fail
    exact⟨⟨k+1,M,by omega,by go_num,by rw[P.out];exact ac,N,ah⟩,by simp[intOf];omega⟩
   |true=>
    have P:=D (show Zad (l.take (k+1)) name=Zad (l.take k) name++[p]by rw[ad.out];rfl)
    go_wp2_with fail
    refine(Y.out _).mono ?_
    rintro e wt ⟨rfl,am⟩
    rw[am];clear am wt Y d1
    obtain⟨V,F,d⟩:=Kb s (.cells #[.string ⟨p.toArray⟩] 9)
    have an:=D (show Zb V s.heap.size 0 (Za8 p)by rw[F];exact Zb.of_block (Za _))
    have I:=D ((Zl _ _).upd ac d);have g:=Jt ah d
    obtain⟨A3,c3,rfl,_,_⟩:=I.strs
    have aA:(Zad (l.take k) name).length≤1000000:=by have:=Zg0 (l.take k) name;rw[List.length_take]at this;omega
    obtain⟨n,a⟩:=Je ((Zad (l.take k) name).length)
    rw[←a]at I aA
    have ap:=D a
    rw[←a]
    clear d a;change Hid _ at F
    go_upto_region 7 with(rw[←F.out];refine Zm V rfl (.tmp 19) (.tmp 23) 142 rfl 9 Tryz.underlying142 ZbA rfl (by omega) (by omega) (.slice A3 n c3) ((Zad (l.take k) name).map Za8) M rfl I s.heap.size 1 (Za8 p) rfl an rfl (Zcg _) (by rw[Xb,←ap.out];omega) ?_;intro v' w7 G' ai Z af;have ax:=D ai;have ar:=D Z;have aq:=D af;clear ai Z af)
    go_wp2_with fail
    have s3:=g.size
    exact⟨⟨k+1,G',by omega,by go_num,D (by rw[P.out];unfold Z9;rw[Xs];exact ax),D (fun q i=>by
     rcases aq q i with h|h
     ·exact N q h
     ·omega),D (((g.weaken (G:=M) (by simp)).trans ar (fun q i=> .inr i)).weaken (fun q i=> .inl (N.out q i)))⟩,by simp[intOf];omega⟩
  ·obtain rfl:k=l.length:=by omega
   have r:=HR.out
   rw[Xm]at r
   have aB:=Zg0 l name
   have al:(Zff (Zad l name)).length≤140737488355328:=by
    have:=ZeN [44,32] 900000 (Zad l name) (ZoO HF)
    unfold Zff
    calc (Lib.join (Zad l name) [44,32]).length≤(900000+2)*(Zad l name).length:=this
     _≤(900000+2)*1000000:=Nat.mul_le_mul_left _ (by omega)
     _≤140737488355328:=by omega
   have q:=Znn r (by omega) al
   obtain⟨A3,c3,rfl,_,_⟩:=r.strs
   obtain⟨O,C⟩:=Je (Zff (Zad l name))
   obtain⟨n,a⟩:=Je ((Zad l name).length)
   have HE:=D (show R=(O,decide (0<n))by rw[ag.out,C,a])
   rw[←a]at aB
   rw[←C]at q
   have Q:=D q
   have aE:=D (show(Zad (l.take l.length) name).length=n by rw[Xm,a])
   rw[←a]at Q⊢
   clear q r al C a ag
   go_wp2_with fail
   refine Q.out.mono ?_
   rintro e V ⟨rfl,d⟩
   have g:=Jt T d;clear d
   by_cases h0:0<n
   ·have K:=D (show R=(O,true)by rw[HE.out,decide_eq_true h0])
    have z:(0:Int)<(n:Int):=by omega
    go_wp2_with fail
    go_ret2
    exact⟨by rw[K.out];rfl,g.out⟩
   ·have K:=D (show R=(O,false)by rw[HE.out,decide_eq_false h0])
    have z:¬(0:Int)<(n:Int):=by omega
    go_wp2_with fail
    go_ret2
    exact⟨by rw[K.out];rfl,g.out⟩
end Go.Proofs.YtlhapbopmplngaaGreatDoor
namespace Go.Lk
def Zom (x:Bs):Lib.split (Lib.trimPrefix x [47]) [47]=Zaq x:=by
 unfold Zaq Lib.trimPrefix
 cases x with
 |nil=>rfl
 |cons a l=>
  by_cases h:a=47
  ·subst h
   simp[Lib.hasPrefix]
  ·have:Lib.hasPrefix (a::l) [47]=false:=by
    unfold Lib.hasPrefix;simp[List.isPrefixOf];exact fun e=>h e.symm
   rw[this];simp[h]
def ZmL (c:UInt8) (s:Bs):Lib.split s [c]≠[]:=by
 by_cases h:c∈s
 ·obtain⟨x,r,rfl,hx⟩:=List.eq_append_cons_of_mem h
  rw[ZjL _ _ _ hx];simp
 ·rw[ZjA _ _ h];simp
def YK (ws:List Bs):List Bs:=ws.foldl Zdc []
def Zik {ws:List Bs} {k:Nat} (h:ws[k]? =some x):YK (ws.take (k+1))=Zdc (YK (ws.take k)) x:=by
 unfold YK;rw[ZZ h,List.foldl_append];rfl
def ZpI (st:List Bs) (x:Bs):(Zdc st x).length≤st.length+1:=by
 unfold Zdc;split
 ·simp
 ·rw[List.length_take];omega
 ·omega
def ZgJ (ws:List Bs) (k:Nat):(YK (ws.take k)).length≤k:=by
 induction k with
 |zero=>simp[YK]
 |succ k ih=>
  by_cases h:k<ws.length
  ·rw[Zik (Xa h)]
   have:=ZpI (YK (ws.take k)) ws[k];omega
  ·rw[List.take_of_length_le (by omega)]
   rw[List.take_of_length_le (by omega)]at ih
   omega
def Zph {st:List Bs} {x y:Bs} (h:y∈Zdc st x):y∈st∨y=x:=by
 unfold Zdc at h;split at h
 ·rcases List.mem_append.1 h with h|h
  ·exact .inl h
  ·exact .inr (by simpa using h)
 ·exact .inl (List.mem_of_mem_take h)
 ·exact .inl h
def Zjz {ws:List Bs} {y:Bs} (h:y∈YK ws):y∈ws:=by
 have c:∀(l b:List Bs),y∈l.foldl Zdc b→y∈b∨y∈l:=by
  intro l
  induction l with
  |nil=>intro b h;exact .inl h
  |cons a l ih=>
   intro b h
   rcases ih _ h with h|h
   ·rcases Zph h with h|h
    ·exact .inl h
    ·exact .inr (by simp[h])
   ·exact .inr (by simp[h])
 rcases c ws [] h with h|h
 ·cases h
 ·exact h
def Zql (x:Bs):Zbv x=[47]++Lib.join (if 0<dotsT ((Zaq x).getLastD [])then YK (Zaq x)++[[]]else YK (Zaq x)) [47]:=rfl
end Go.Lk
namespace Go.Proofs.YtlhapbopmplngaaGreatDoor
open Go.RowKit Go.Lk
def clean_few (x:Bs):(Lib.join (if 0<dotsT ((Zaq x).getLastD [])then YK (Zaq x)++[[]]else YK (Zaq x)) [47]).length≤(x.length+1)*(x.length+2):=by
 have b:(Zaq x).length≤x.length+1∧∀y∈Zaq x,y.length≤x.length:=by
  have h:=ZaG 47 _ (if x.head? =some 47 then x.tail else x) (Xi _)
  have c:(if x.head? =some 47 then x.tail else x).length≤x.length:=by split<;>simp
  exact⟨by unfold Zaq;omega,fun y a=>Xj (h.2 y a) c⟩
 have d:(YK (Zaq x)).length≤x.length+1:=by
  have:=ZgJ (Zaq x) (Zaq x).length
  rw[Xm]at this
  omega
 have h:=ZeN [47] x.length (if 0<dotsT ((Zaq x).getLastD [])then YK (Zaq x)++[[]]else YK (Zaq x)) (fun y a=>by
  split at a
  ·rcases List.mem_append.1 a with a|a
   ·exact b.2 y (Zjz a)
   ·rw[Jm a];exact Xn _
  ·exact b.2 y (Zjz a))
 refine Xj h (Nat.mul_le_mul_left _ ?_)
 split
 ·rw[Xd];simp;omega
 ·omega
def Zp5 {k g n cap i:Nat} {xs:List (List Value)} (h:Zk e k (.slice (some ⟨g,0,none⟩) n cap) xs w F) (hi:i≤xs.length):Zk e k (.slice (some ⟨g,0,none⟩) i cap) (xs.take i) w F:=by
 obtain⟨b,c,_,_,a,_,_,_⟩:=h.block
 exact Zgp h hi [] (by have:=Nat.mul_le_mul_right k (Xj hi a);simpa using this) rfl
def ZeK {P:Prop}(h:P:=by
 clear af
 have aa:(⟨#[47]⟩:ByteArray)++⟨J.toArray⟩=⟨([47]++J).toArray⟩:=Zak [47] J
 have HC:=D aa;clear aa
 go_wp2_with fail
 go_ret
 exact⟨by rw[aA.out,←HC.out];rfl,aw.out⟩):P:=h
def Zgc (x:Bs) (w:World) (hx:x.length≤900000) (hE:Env w):
  Calls Tryz.prog 171 #[.string ⟨x.toArray⟩] w fun e w'=>e= .returned (.string ⟨(Zbv x).toArray⟩)∧Zg [] w w':=by
 have q0:= Tryz.strings_TrimPrefix ⟨x.toArray⟩ ⟨#[47]⟩ w
 obtain⟨r,aj⟩:=Je (Lib.trimPrefix x [47])
 have aN:Calls Tryz.prog 256 #[.string ⟨x.toArray⟩, .string ⟨#[47]⟩] w fun e w'=>e= .returned (.string ⟨r.toArray⟩)∧w'=w:=by rw[aj];exact q0
 have aY:r.length≤900000:=by rw[aj];unfold Lib.trimPrefix;split;(rw[List.length_drop];omega);exact hx
 have q:=ZgZ hE r 47 aY
 obtain⟨ws,W⟩:=Je (Lib.split r [47])
 have au:ws=Zaq x:=by rw[W,aj];exact Zom x
 have aH:∀y∈ws,y.length≤900000:=fun y b=>by
  rw[W]at b
  have:=(ZaG 47 r.length r (Xi _)).2 y b
  omega
 have a9:ws.length≤900001:=by rw[W];have:=(ZaG 47 r.length r (Xi _)).1;omega
 have aO:ws≠[]:=by rw[W];exact ZmL 47 r
 rw[←W]at q
 obtain⟨R,hR⟩:=Je (Zbv x)
 have aK:=D (show R=[47]++Lib.join (if 0<dotsT (ws.getLastD [])then YK ws++[[]]else YK ws) [47]by rw[hR,au];rfl)
 have ac:=D (show(Lib.join (if 0<dotsT (ws.getLastD [])then YK ws++[[]]else YK ws) [47]).length≤900000000000 by
  rw[au]
  calc _≤(x.length+1)*(x.length+2):=clean_few x
   _≤900001*900002:=Nat.mul_le_mul (by omega) (by omega)
   _≤900000000000:=by omega)
 rw[←hR]
 have Q0:=D aN;have Q:=D q;have aE:=D aH;have a3:=D aO
 clear q q0 aN W aH au aj hR aO
 go_in
 go_wp2_with fail
 refine Q0.out.mono ?_
 rintro e wt ⟨rfl,aP⟩
 rw[aP];clear aP wt Q0
 go_wp2_with fail
 refine Q.out.mono ?_
 rintro e w1 ⟨rfl,E,aQ⟩
 have aX:=D E;have a1:=D aQ;clear E aQ Q
 go_wp2_with fail
 go_loopw[12,4,6] (fun v12 v4 _ wr=>∃(k:Nat) (M:List Nat),k≤ws.length∧v12= .int .i64 k∧Hid (Z9 v4 (YK (ws.take k)) wr M)∧Hid (∀q∈M,w.heap.size≤q)∧Hid (Zg [] w wr)∧Hid (Y3 wr (some ⟨w.heap.size,0,none⟩) ws)∧Hid (w.heap.size∉M)) (fun v12 _ _ _=>ws.length-(intOf v12).toNat)
 case atStart=>exact⟨0,[],by omega,rfl,D (ZA _ _ _),D (by simp),a1,aX,D (by simp)⟩
 case round=>
  obtain⟨k,M,hk,rfl,HR,X,HU,HS,HN⟩:=hrel
  by_cases aL:k<ws.length
  ·obtain⟨y,b⟩:∃y,ws[k]? =some y:=⟨_,Xa aL⟩
   obtain⟨ab,ao,O,ae⟩:=HS.out k y b
   injection O with O;injection O with o e2 _;subst o e2
   rw[Nat.zero_add]at ae
   have q:=Zhg y wr (by have:=aE.out y (Xc b);omega)
   have aJ:=Zik b
   have aM:dotsT y=0∨dotsT y=1∨dotsT y=2:=by unfold dotsT;split;exact .inr (.inl rfl);split;exact .inr (.inr rfl);exact .inl rfl
   obtain⟨d,hd⟩:=Je (dotsT y)
   have aF:d=0→Zdc (YK (ws.take k)) y=YK (ws.take k)++[y]:=fun h=>by unfold Zdc;rw[←hd,h];rfl
   have aG:d=1→Zdc (YK (ws.take k)) y=YK (ws.take k):=fun h=>by unfold Zdc;rw[←hd,h];rfl
   have aI:d=2→Zdc (YK (ws.take k)) y=(YK (ws.take k)).take ((YK (ws.take k)).length-1):=fun h=>by unfold Zdc;rw[←hd,h];rfl
   rw[←hd]at q aM
   have Q:=D q;have ar:=D aJ;have aT:=D aF;have aV:=D aG;have aW:=D aI
   have ah:=ZgJ ws k
   obtain⟨A,cA,rfl,ay,_⟩:=HR.strs
   obtain⟨n,j⟩:=Je ((YK (ws.take k)).length)
   rw[←j]at HR ah ay
   have s:=D j
   rw[←j]
   clear q aJ b hd aF aG aI j
   go_wp2_with fail
   refine Q.out.mono ?_
   rintro e V ⟨rfl,I⟩
   have P:=Jt HU I;have C:=D ((Zl _ _).upd HR I);have ak:=D (HS.upd0 I)
   clear I ae Q
   rcases aM with rfl|rfl|rfl
   ·have Y:=D (show YK (ws.take (k+1))=YK (ws.take k)++[y]by rw[ar.out,aT.out rfl])
    obtain⟨w3,S,K⟩:=Kb V (.cells #[.string ⟨y.toArray⟩] 9)
    have az:=D (show Zb w3 V.heap.size 0 (Za8 y)by rw[S];exact Zb.of_block (Za _))
    have av:=D ((Zl _ _).upd C K)
    have aR:=D (ak.upd0 K)
    have aD:=Jt P K;have aq:=D S
    clear K S
    go_upto_region 11 with(rw[←aq.out];refine Zm w3 rfl (.tmp 20) (.tmp 22) 142 rfl 9 Tryz.underlying142 ZbA rfl (by omega) (by omega) (.slice A n cA) ((YK (ws.take k)).map Za8) M rfl av V.heap.size 1 (Za8 y) rfl az rfl (Zcg y) (by rw[Xb,←s.out];omega) ?_;intro v' w7 G' ag ad H;have aC:=D ag;have ai:=D ad;have ap:=D H;clear ag ad H)
    go_wp2_with fail
    have a5:w.heap.size<w3.heap.size:=by obtain⟨ab,ao,o,hc⟩:=aR.out k _ (Xa aL);injection o with o;injection o with o _;subst o;exact Xo _ _ hc
    exact⟨⟨k+1,G',by omega,by go_num,D (by rw[Y.out];unfold Z9;rw[Xs];exact aC),D (fun q p=>by
     rcases ap q p with h|h
     ·exact X q h
     ·omega),D (((aD.weaken (G:=M) (by simp)).trans ai (fun q p=> .inr p)).weaken (fun q p=> .inl (X.out q p))),D (aR.upd ai (fun ab ao e=>by injection e with e;injection e with e _;rw[←e];exact HN)),D (fun hm=>by
     rcases ap _ hm with h|h
     ·exact HN h
     ·omega)⟩,by simp[intOf];omega⟩
   ·have Y:=D (show YK (ws.take (k+1))=YK (ws.take k)by rw[ar.out,aV.out rfl])
    go_wp2_with fail
    exact⟨⟨k+1,M,by omega,by go_num,by rw[Y.out];exact C,X,P,ak,HN⟩,by simp[intOf];omega⟩
   ·have Y:=D (show YK (ws.take (k+1))=(YK (ws.take k)).take (n-1)by rw[ar.out,aW.out rfl,s.out])
    by_cases T:n=0
    ·subst T
     have am:YK (ws.take k)=[]:=List.eq_nil_of_length_eq_zero s.symm
     change Hid _ at am
     go_wp2_with fail
     all_goals exact⟨⟨k+1,M,by omega,by go_num,by rw[Y.out,am.out];have:=C.out;rw[am.out]at this;exact D this,X,P,ak,HN⟩,by simp[intOf];omega⟩
    ·obtain⟨m,rfl⟩:∃m,n=m+1:=⟨n-1,by omega⟩
     obtain⟨g,rfl⟩:∃g,A=some ⟨g,0,none⟩:=by
      rcases C.form with⟨e,_⟩|⟨g,a8,_,h1,_⟩
      ·cases e
      ·injection h1 with h1;exact⟨g,h1⟩
     have an:=Zp5 (i:=m) C (by rw[Xb,←s.out];omega)
     rw[←List.map_take]at an
     have a2:=D an;clear an
     clear T
     have aU:((m+1:Nat):Int)-1=(m:Int):=by omega
     go_wp2_with fail
     all_goals exact⟨⟨k+1,M,by omega,by go_num,D (by rw[Y.out];exact a2),X,P,ak,HN⟩,by simp[intOf];omega⟩
  ·obtain rfl:k=ws.length:=by omega
   obtain⟨m,hm⟩:∃m,ws.length=m+1:=⟨ws.length-1,by have:=a3.out;cases ws with|nil=>exact absurd rfl this|cons a l=>simp⟩
   obtain⟨y,b⟩:∃y,ws[m]? =some y:=⟨_,Xa (by omega)⟩
   have al:ws.getLastD []=y:=by
    rw[List.getLastD_eq_getLast?,List.getLast?_eq_getElem?,hm,show m+1-1=m by omega,b];rfl
   obtain⟨ab,ao,O,ae⟩:=HS.out m y b
   injection O with O;injection O with o e2 _;subst o e2
   rw[Nat.zero_add]at ae
   have q:=Zhg y wr (by have:=aE.out y (Xc b);omega)
   obtain⟨d,hd⟩:=Je (dotsT y)
   have Z:=HR.out
   rw[Xm]at Z
   have ah:=ZgJ ws ws.length
   rw[Xm]at ah
   obtain⟨N,E⟩:=Je (YK ws)
   have aS:=D (show R=[47]++Lib.join (if 0<d then N++[[]]else N) [47]by rw[aK.out,al,←hd,←E])
   have c:=ac.out
   rw[al,←hd,←E]at c
   rw[←E]at Z ah
   obtain⟨A,cA,rfl,ay,_⟩:=Z.strs
   obtain⟨n,j⟩:=Je N.length
   rw[←j]at Z ah ay
   have a7:=D (show(YK (ws.take ws.length)).length=n by rw[Xm,←E,j])
   rw[←hd]at q
   have aU:(ws.length:Int)-1=(m:Int):=by omega
   have Q:=D q;have a4:=D Z;have s:=D j;have HJ:=D c;have a6:=D hm
   rw[←j]
   clear q Z hd E al c b hm j aK ac HR
   go_wp2_with fail
   refine Q.out.mono ?_
   rintro e V ⟨rfl,I⟩
   have P:=Jt HU I;have C:=D ((Zl _ _).upd a4 I)
   clear I ae Q
   by_cases T:0<d
   ·have z:(0:Int)<(d:Int):=by omega
    have c:=HJ.out
    have F:=aS.out
    rw[if_pos T]at c F
    have ac:=D c;have a0:=D F
    obtain⟨w3,S,K⟩:=Kb V (.cells #[.string ⟨#[]⟩] 9)
    have az:=D (show Zb w3 V.heap.size 0 (Za8 [])by rw[S];exact Zb.of_block (Za _))
    have av:=D ((Zl _ _).upd C K)
    have aD:=Jt P K;have aq:=D S
    clear K S c F T
    go_upto_region 14 with(rw[←aq.out];refine Zm w3 rfl (.tmp 41) (.tmp 42) 142 rfl 9 Tryz.underlying142 ZbA rfl (by omega) (by omega) (.slice A n cA) (N.map Za8) M rfl av V.heap.size 1 (Za8 []) rfl az rfl (Zcg _) (by rw[Xb,←s.out];omega) ?_;intro v' w7 G' ag ad H;have aC:=D ag;have ai:=D ad;have ap:=D H;clear ag ad H)
    have ax:Z9 v' (N++[[]]) w7 G':=by unfold Z9;rw[Xs];exact aC.out
    have L:=ZcA ax (by rw[Xd,←s.out];simp;omega) [47] (by have:=ac.out;omega)
    obtain⟨J,hJ⟩:=Je (Lib.join (N++[[]]) [47])
    have aB:=a0.out
    have aZ:=ac.out
    rw[←hJ]at L aB aZ
    obtain⟨A7,c7,rfl,_,_⟩:=ax.strs
    obtain⟨n7,H⟩:=Je ((N++[[]]).length)
    rw[←H]at L⊢
    have Q7:=D L;have aA:=D aB
    clear L hJ aB ax H
    go_wp2_with fail
    refine Q7.out.mono ?_
    rintro e w8 ⟨rfl,af⟩
    have aw:=D ((((aD.weaken (G:=M) (by simp)).trans ai (fun q p=> .inr p)).weaken (G:=[]) (fun q p=> .inl (X.out q p))).trans af)
    exact ZeK
   ·have z:¬(0:Int)<(d:Int):=by omega
    have c:=HJ.out
    have F:=aS.out
    rw[if_neg T]at c F
    have L:=ZcA C (by rw[←s.out];omega) [47] (Xj c (by omega))
    obtain⟨J,hJ⟩:=Je (Lib.join N [47])
    rw[←hJ]at L F c
    have Q7:=D L;have aA:=D F
    clear L hJ F T
    go_wp2_with fail
    refine Q7.out.mono ?_
    rintro e w8 ⟨rfl,af⟩
    have aw:=Jt P af
    exact ZeK
end Go.Proofs.YtlhapbopmplngaaGreatDoor
namespace Go.Lk
open Go.RowKit
def Zy (vm vh:Value) (a:Zo):List Value:=[vm,vh, .int .u64 a.age]
end Go.Lk
namespace Go.Proofs.YtlhapbopmplngaaGreatDoor
open Go.RowKit Go.Lk
def Zan.few (h:Zan l):Zd9 l:=fun x hx=>by have:=h.2 x hx;omega
def ZhO (h:Zan l) (name:Bs):(Zc5 l name).1.length≤900000:=by
 unfold Zc5 Zff
 have c:∀x∈Zad l name,x.length≤5000:=fun x hx=>by
  unfold Zad at hx
  obtain⟨y,a,rfl⟩:=List.mem_map.1 hx
  have:=Zav y.2
  have:=h.2 y (List.mem_filter.1 a).1
  omega
 have b:=ZeN [44,32] 5000 (Zad l name) c
 have d:=Zg0 l name
 have e:=h.1
 calc _≤(5000+([44,32]:Bs).length)*(Zad l name).length:=b
  _≤5002*100:=Nat.mul_le_mul (by simp) (by omega)
  _≤900000:=by omega
def Zb6 (h:Z9 v l w M) (hl:l.length≤1000000) (x:Bs):
  Calls Tryz.prog 139 #[v, .string ⟨x.toArray⟩] w fun e w'=>e= .returned (.bool (l.contains x))∧w'=w:=by
 rcases h.form with⟨rfl,m,rfl⟩|⟨g,c,n,b,rfl,r,p,s,o,ht⟩
 ·have i:l=[]:=List.map_eq_nil_iff.1 m
  subst i
  exact Tryz.slices_Contains_string_empty none 0 ⟨x.toArray⟩ w
 ·rw[Xb]at b
  subst b
  have q:= Tryz.slices_Contains_string g 0 l.length c (l.map fun x=>(⟨x.toArray⟩:ByteArray)) ⟨x.toArray⟩ w (by rw[Xb];exact Xi _) (by omega) (fun j a=>by
   rw[Xb]at a
   have:=Zk.liesAt h (j:=j) (cs:=Za8 l[j]) (by rw[Xe,Xa a];rfl) 0 _ rfl
   rw[Nat.mul_one,Nat.add_zero]at this
   rw[Nat.zero_add,this]
   simp[List.getD,a])
  have e:Lib.containsS ((l.map fun x=>(⟨x.toArray⟩:ByteArray)).take l.length) ⟨x.toArray⟩=l.contains x:=by
   rw[List.take_of_length_le (by simp),Bool.eq_iff_iff,Lib.containsS_iff,List.contains_iff_mem]
   constructor
   ·intro hx
    obtain⟨y,d,k⟩:=List.mem_map.1 hx
    have:y=x:=by simpa using k
    exact this▸d
   ·intro hx;exact List.mem_map.2 ⟨x,hx,rfl⟩
  rw[e]at q
  exact q
def ZmW (w:World) (o:Option (List Bs)) (e:Ending) (w':World):Prop:=∃(v:Value) (M:List Nat),e= .returned (.tuple #[v, .bool o.isSome])∧Z9 v (o.getD []) w' M∧(∀k∈M,w.heap.size≤k)∧Zg [] w w'
def Zgj (l:List (Bs×Bs)) (A:Option Addr) (c:Nat) (name:Bs) (w:World) (hA:Zas w A l) (hf:Zan l) (hn:name.length≤900000) (hE:Env w):
  Calls Tryz.prog 297 #[.slice A l.length c, .string ⟨name.toArray⟩] w (ZmW w (Zbp l name)):=by
 obtain⟨R,F⟩:=Je (Zbp l name)
 obtain⟨v,hv⟩:=Je (Zc5 l name)
 obtain⟨ts,i⟩:=Je (ZiW v.1)
 have X:=D (show R=if ts.all Zat then some ts else none by rw[F,i,hv];rfl)
 have j:=ZdP l A c name w hA (by have:=hf.1;omega) (Zan.few hf) hn
 rw[←hv]at j
 have I:v.1.length≤900000:=by rw[hv];exact ZhO hf name
 have Y:∀W,Zg [] w W→Calls Tryz.prog 339 #[.string ⟨v.1.toArray⟩] W (Zdi W ts):=fun W hW=>by rw[i];exact Zk3 v.1 W I (hE.upd0 hW)
 have s:ts.length≤1000000∧∀x∈ts,x.length≤1000000:=by
  have hs:=ZaG 44 v.1.length v.1 (Xi _)
  rw[i]
  unfold ZiW
  refine⟨Xj (Xq _ _) (by rw[Xb];omega),fun x hx=> ?_⟩
  obtain⟨y,a,rfl⟩:=List.mem_map.1 (List.mem_filter.1 hx).1
  have:=Zav y
  have:=hs.2 y a
  omega
 rw[←F]
 obtain⟨n,hn⟩:=Je l.length
 rw[←hn]at j⊢
 have C:=D j;have z:=D Y;have ag:=D s.2
 have aa:=s.1
 clear j Y F hv i I s hA hf hE hn
 obtain⟨v1,v2⟩:=v
 dsimp only at C z
 go_in
 go_wp2_with fail
 refine C.out.mono ?_
 rintro e w2 ⟨rfl,P⟩
 have t:=D P;clear P C
 go_wp2_with fail
 refine(z.out w2 t).mono ?_
 rintro e w3 ⟨v3,M,rfl,p,J,S⟩
 have T:=Jt t S
 have K:=D p
 have ae:=D (show∀k∈M,w.heap.size≤k from fun k V=>by have h1:=J k V;have h2:=t.size;omega)
 obtain⟨A3,c3,rfl,ad,N⟩:=p.strs
 have af:=D N
 obtain⟨tn,r⟩:=Je ts.length
 have H:=D r
 rw[←r]at K aa⊢
 clear S p J N ad z r
 go_wp2_with fail
 go_loopw[21,10] (fun v21 _ wr=>∃(k:Nat),k≤tn∧v21= .int .i64 k∧Hid ((ts.take k).all Zat=true)∧wr=w3) (fun v21 _ _=>tn-(intOf v21).toNat)
 case atStart=>exact⟨0,Xn _,rfl,D rfl,rfl⟩
 case round=>
  obtain⟨k,V,rfl,G,rfl⟩:=hrel
  by_cases ah:k<tn
  ·have g:k<ts.length:=by rw[←H.out];exact ah
   obtain⟨y,a⟩:∃y,ts[k]? =some y:=⟨_,Xa g⟩
   obtain⟨ab,ao,rfl,ai⟩:=af.out k y a
   have o:=Xc a
   have q:=Zcp y wr (ag.out y o)
   obtain⟨b,m⟩:=Je (Zat y)
   rw[←m]at q
   have L:(ts.take (k+1))=ts.take k++[y]:=by rw[Xr g];congr;rw[Xa g]at a;injection a
   have ac:=D (show b=false→R=none from fun E=>by
    rw[X.out,if_neg]
    intro h
    have:=(Xk.1 h) y o
    rw[←m,E]at this;cases this)
   have Z:=D (show b=true→(ts.take (k+1)).all Zat=true from fun E=>by rw[L,List.all_append,G.out];simp[←m,E])
   have Q:=D q
   clear q m L o a g
   go_wp2_with fail
   refine Q.out.mono ?_
   rintro e wt ⟨rfl,O⟩
   rw[←O];clear O wt Q
   cases b with
   |true=>
    have HN:=D (Z.out rfl)
    go_wp2_with fail
    exact⟨⟨k+1,by omega,by go_num,HN,by trivial⟩,by simp[intOf];omega⟩
   |false=>
    have d:=D (ac.out rfl)
    go_wp2_with fail
    go_ret2
    exact⟨_,[],by rw[d.out];rfl,by rw[d.out];exact ZA _ _ _,by simp,T.out⟩
  ·obtain rfl:k=tn:=by omega
   have d:=D (show R=some ts by have h:=G.out;rw[H.out,Xm]at h;rw[X.out,if_pos h])
   go_wp2_with fail
   go_ret2
   exact⟨_,M,by rw[d.out];rfl,by rw[d.out];exact K,ae.out,T.out⟩
structure Zdj (w:World) (a:Zo) (vm vh:Value) (M1 M2:List Nat):Prop where
 ms:Z9 vm a.methods w M1
 hs:Z9 vh a.headers w M2
 ml:a.methods.length≤1000000
 hl:a.headers.length≤1000000
def Zdj.upd0 {vm vh:Value} (h:Zdj w a vm vh M1 M2) (hu:Zg [] w w'):Zdj w' a vm vh M1 M2:=
 ⟨(Zl _ _).upd h.ms hu,(Zl _ _).upd h.hs hu,h.ml,h.hl⟩
def Zoj (a:Zo) (vm vh:Value) (M1 M2:List Nat) (m:Bs) (creds:Bool) (w:World) (h:Zdj w a vm vh M1 M2) (hm:m.length≤1000000):
  Calls Tryz.prog 233 #[.agg (Zy vm vh a).toArray, .string ⟨m.toArray⟩, .bool creds] w fun e w'=>e= .returned (.bool (Zp6 a m creds))∧Zg [] w w':=by
 obtain⟨R,y⟩:=Je (Zp6 a m creds)
 obtain⟨N,n⟩:=Je (ZfO m)
 obtain⟨p,o⟩:=Je (a.methods.contains m)
 obtain⟨C,l⟩:=Je (a.methods.contains [42])
 have k:=D (show R=(N||p||(!creds&&C))by rw[y,n,o,l];rfl)
 rw[←y]
 obtain⟨z,H,g,F⟩:=Kc w (.cells (Zy vm vh a).toArray 263)
 have r:=ZeC m z hm
 rw[←n]at r
 have M:∀W,Zg [] z W→Calls Tryz.prog 139 #[vm, .string ⟨m.toArray⟩] W fun e w'=>e= .returned (.bool p)∧w'=W:=fun W x=>by rw[o];exact Zb6 ((h.upd0 g).upd0 x).ms h.ml m
 have L:∀W,Zg [] z W→Calls Tryz.prog 139 #[vm, .string ⟨#[42]⟩] W fun e w'=>e= .returned (.bool C)∧w'=W:=fun W x=>by rw[l];exact Zb6 ((h.upd0 g).upd0 x).ms h.ml [42]
 have K:=D r;have I:=D M;have J:=D L
 clear r M L y n o l h;change Hid _ at g H F
 go_in
 go_upto_region 1 with fail
 rw[←H.out]
 go_wp2_with fail
 refine K.out.mono ?_
 rintro e s ⟨rfl,d⟩
 have E:=D d;have j:=Jt g d
 have G:=Kv d F
 have O:s.cell? ⟨w.heap.size,0,none⟩=some vm:=Zf (i:=0) G rfl
 clear d G K
 cases N with
 |true=>
  have b:=D (show R=true by rw[k.out];rfl)
  go_wp2_with fail
  go_ret
  exact⟨by rw[b.out];rfl,j.out⟩
 |false=>
 go_wp2_with fail
 refine(I.out s E).mono ?_
 rintro e q ⟨rfl,c⟩
 rw[c];clear c q I
 cases p with
 |true=>
  have b:=D (show R=true by rw[k.out];rfl)
  go_wp2_with fail
  go_ret
  exact⟨by rw[b.out];rfl,j.out⟩
 |false=>
 cases creds with
 |true=>
  have b:=D (show R=false by rw[k.out];rfl)
  go_wp2_with fail
  go_ret
  exact⟨by rw[b.out];rfl,j.out⟩
 |false=>
  have b:=D (show R=C by rw[k.out];rfl)
  go_wp2_with fail
  refine(J.out s E).mono ?_
  rintro e q ⟨rfl,c⟩
  rw[c];clear c q J
  go_wp2_with fail
  go_ret
  exact⟨by rw[b.out];rfl,j.out⟩
def Zka (a:Zo) (vm vh:Value) (M1 M2:List Nat) (m:Bs) (creds:Bool) (w:World) (h:Zdj w a vm vh M1 M2) (hm:m.length≤1000000):
  Calls Tryz.prog 234 #[.agg (Zy vm vh a).toArray, .string ⟨m.toArray⟩, .bool creds] w fun e w'=>e= .returned (.bool (Zcb a m creds))∧Zg [] w w':=by
 obtain⟨R,C⟩:=Je (Zcb a m creds)
 obtain⟨c,p⟩:=Je (Yu m)
 obtain⟨r,q⟩:=Je (a.headers.contains c)
 obtain⟨F,o⟩:=Je (a.headers.contains [42])
 have n:=D (show R=(r||(!creds&&c !=[97,117,116,104,111,114,105,122,97,116,105,111,110]&&F))by rw[C,q,o,p];rfl)
 rw[←C]
 obtain⟨E,J,j,H⟩:=Kc w (.cells (Zy vm vh a).toArray 263)
 have x:=YF m E hm
 rw[←p]at x
 have O:∀W,Zg [] E W→Calls Tryz.prog 139 #[vh, .string ⟨c.toArray⟩] W fun e w'=>e= .returned (.bool r)∧w'=W:=fun W z=>by rw[q];exact Zb6 ((h.upd0 j).upd0 z).hs h.hl c
 have N:∀W,Zg [] E W→Calls Tryz.prog 139 #[vh, .string ⟨#[42]⟩] W fun e w'=>e= .returned (.bool F)∧w'=W:=fun W z=>by rw[o];exact Zb6 ((h.upd0 j).upd0 z).hs h.hl [42]
 have M:=D x;have K:=D O;have L:=D N
 clear x O N C p q o h;change Hid _ at j J H
 go_in
 go_upto_region 1 with fail
 rw[←J.out]
 go_wp2_with fail
 refine M.out.mono ?_
 rintro e y ⟨rfl,g⟩
 have G:=D g;have k:=Jt j g
 have I:=Kv g H
 have Q:y.cell? ⟨w.heap.size,1,none⟩=some vh:=Zf (i:=1) I rfl
 clear g I M
 go_wp2_with fail
 refine(K.out y G).mono ?_
 rintro e s ⟨rfl,d⟩
 rw[d];clear d s K
 cases r with
 |true=>
  have b:=D (show R=true by rw[n.out];rfl)
  go_wp2_with fail
  go_ret
  exact⟨by rw[b.out];rfl,k.out⟩
 |false=>
 cases creds with
 |true=>
  have b:=D (show R=false by rw[n.out];rfl)
  go_wp2_with fail
  go_ret
  exact⟨by rw[b.out];rfl,k.out⟩
 |false=>
 by_cases l:c=[97,117,116,104,111,114,105,122,97,116,105,111,110]
 ·have b:=D (show R=false by rw[n.out,l];rfl)
  subst l
  go_wp2_with fail
  go_ret
  exact⟨by rw[b.out];rfl,k.out⟩
 ·have P:(c==([97,117,116,104,111,114,105,122,97,116,105,111,110]:Bs))=false:=by rw[beq_eq_false_iff_ne];exact l
  have b:=D (show R=F by rw[n.out,bne,P];rfl)
  clear l
  go_wp2_with fail
  refine(L.out y G).mono ?_
  rintro e s ⟨rfl,d⟩
  rw[d];clear d s L
  go_wp2_with fail
  go_ret
  exact⟨by rw[b.out];rfl,k.out⟩
end Go.Proofs.YtlhapbopmplngaaGreatDoor
namespace Go.Lk
def ZgN (tm th:Option (List Bs)) (dg:Nat×Bool):Zo×Int:=match tm with
 |none=>(Zo.zero,5)
 |some ms=>match th with
  |none=>(Zo.zero,6)
  |some hs=>(⟨ms,hs.map Yu,if dg.2 then min dg.1 7200 else 5⟩,0)
def Zl5 (l:List (Bs×Bs)):ZbV l=ZgN (Zbp l [97,99,99,101,115,115,45,99,111,110,116,114,111,108,45,97,108,108,111,119,45,109,101,116,104,111,100,115]) (Zbp l [97,99,99,101,115,115,45,99,111,110,116,114,111,108,45,97,108,108,111,119,45,104,101,97,100,101,114,115]) (Y8 (YL (Zc5 l [97,99,99,101,115,115,45,99,111,110,116,114,111,108,45,109,97,120,45,97,103,101]).1)):=rfl
def Zqy (hs:List Bs) {k:Nat} (h:hs[k]? =some x):((hs.take k).map Yu++hs.drop k).set k (Yu x)=(hs.take (k+1)).map Yu++hs.drop (k+1):=by
 obtain⟨a,hx⟩:=List.getElem?_eq_some_iff.1 h
 have b:((hs.take k).map Yu).length=k:=by rw[Xb,List.length_take];omega
 rw[List.set_append_right _ _ (by omega),b,Nat.sub_self,List.drop_eq_getElem_cons a,List.set_cons_zero,Xr a,hx,Xs,List.append_assoc]
 rfl
end Go.Lk
namespace Go.Proofs.YtlhapbopmplngaaGreatDoor
open Go.RowKit Go.Lk
def ZhM (w:World) (r:Zo×Int) (e:Ending) (w':World):Prop:=∃(vm vh:Value) (M1 M2:List Nat),e= .returned (.tuple #[.agg (Zy vm vh r.1).toArray, .int .i64 r.2])∧Z9 vm r.1.methods w' M1∧Z9 vh r.1.headers w' M2∧(∀k∈M1,w.heap.size≤k)∧(∀k∈M2,w.heap.size≤k)∧Zg [] w w'
def Zbt (vm vh:Value) (a:Zo) (h1:vm.oneCell'=true) (h2:vh.oneCell'=true):(Zy vm vh a).toArray.all (·.oneCell')=true:=by
 rw[Xl,Xk]
 intro x hx
 simp only[Zy,List.mem_cons,List.not_mem_nil,or_false]at hx
 rcases hx with rfl|rfl|rfl
 ·exact h1
 ·exact h2
 ·rfl
def Ze4:Zu Tryz.prog 263 3=true:=by kernel_rfl
def Ze0 (h:Zan l) {name:Bs} {ts:List Bs} (ht:Zbp l name=some ts):ts.length≤1000000∧∀x∈ts,x.length≤900000:=by
 have c:=ZhO h name
 unfold Zbp at ht
 split at ht
 ·injection ht with ht
  have b:=ZaG 44 (Zc5 l name).1.length (Zc5 l name).1 (Xi _)
  rw[←ht]
  unfold ZiW
  refine⟨Xj (Xq _ _) (by rw[Xb];omega),fun x hx=> ?_⟩
  obtain⟨y,a,rfl⟩:=List.mem_map.1 (List.mem_filter.1 hx).1
  have:=Zav y
  have:=b.2 y a
  omega
 ·cases ht
def Zgd {P:Prop}(h:P:=by
 rw[aV.out]
 exact⟨_,_,Y,M2,rfl,aN.out,aG.out,fun q a=>by have:=aC.out q a;have:=H.size;omega,fun q a=>by have:=C.out.1 q a;have:=aj.size;omega,aX.out⟩):P:=h
def Znd (l:List (Bs×Bs)) (A:Option Addr) (c:Nat) (w:World) (hA:Zas w A l) (hf:Zan l) (hE:Env w):
  Calls Tryz.prog 232 #[.slice A l.length c] w (ZhM w (ZbV l)):=by
 obtain⟨R,hR⟩:=Je (ZbV l)
 obtain⟨tm,aF⟩:=Je (Zbp l [97,99,99,101,115,115,45,99,111,110,116,114,111,108,45,97,108,108,111,119,45,109,101,116,104,111,100,115])
 obtain⟨th,av⟩:=Je (Zbp l [97,99,99,101,115,115,45,99,111,110,116,114,111,108,45,97,108,108,111,119,45,104,101,97,100,101,114,115])
 obtain⟨M,ay⟩:=Je (Zc5 l [97,99,99,101,115,115,45,99,111,110,116,114,111,108,45,109,97,120,45,97,103,101])
 obtain⟨tr,ap⟩:=Je (YL M.1)
 obtain⟨dg,aW⟩:=Je (Y8 tr)
 have HR:=D (show R=ZgN tm th dg by rw[hR,aF,av,aW,ap,ay];exact Zl5 l)
 rw[←hR]
 obtain⟨T,bf,H,aT⟩:=Kc w (.cells #[.slice none 0 0, .slice none 0 0, .int .u64 0] 263)
 obtain⟨n,hn⟩:=Je l.length
 have bn:M.1.length≤900000:=by rw[ay];exact ZhO hf _
 have bm:tr.length≤900000:=by rw[ap];have:=Zav M.1;omega
 have q1:∀W,Zg [] T W→Calls Tryz.prog 297 #[.slice A n c, .string ⟨([97,99,99,101,115,115,45,99,111,110,116,114,111,108,45,97,108,108,111,119,45,109,101,116,104,111,100,115]:Bs).toArray⟩] W (ZmW W tm):=fun W P=>by rw[aF,hn];exact Zgj l A c [97,99,99,101,115,115,45,99,111,110,116,114,111,108,45,97,108,108,111,119,45,109,101,116,104,111,100,115] W ((hA.upd0 H).upd0 P) hf (by simp) (hE.upd0 (H.trans P))
 have q2:∀W,Zg [] T W→Calls Tryz.prog 297 #[.slice A n c, .string ⟨([97,99,99,101,115,115,45,99,111,110,116,114,111,108,45,97,108,108,111,119,45,104,101,97,100,101,114,115]:Bs).toArray⟩] W (ZmW W th):=fun W P=>by rw[av,hn];exact Zgj l A c [97,99,99,101,115,115,45,99,111,110,116,114,111,108,45,97,108,108,111,119,45,104,101,97,100,101,114,115] W ((hA.upd0 H).upd0 P) hf (by simp) (hE.upd0 (H.trans P))
 have q3:∀W,Zg [] T W→Calls Tryz.prog 160 #[.slice A n c, .string ⟨([97,99,99,101,115,115,45,99,111,110,116,114,111,108,45,109,97,120,45,97,103,101]:Bs).toArray⟩] W fun e w'=>e= .returned (.tuple #[.string ⟨M.1.toArray⟩, .bool M.2])∧Zg [] W w':=fun W P=>by rw[ay,hn];exact ZdP l A c [97,99,99,101,115,115,45,99,111,110,116,114,111,108,45,109,97,120,45,97,103,101] W ((hA.upd0 H).upd0 P) (by have:=hf.1;omega) (Zan.few hf) (by simp)
 have q4:∀W,Calls Tryz.prog 189 #[.string ⟨M.1.toArray⟩] W fun e w'=>e= .returned (.string ⟨tr.toArray⟩)∧w'=W:=fun W=>by rw[ap];exact ZaR M.1 W (by omega)
 have q5:∀W,Calls Tryz.prog 258 #[.string ⟨tr.toArray⟩] W fun e w'=>e= .returned (.tuple #[.int .u64 (dg.1:Int), .bool dg.2])∧W=w':=fun W=>by rw[aW];exact ZcC tr W (by omega)
 have aD:=D (show∀ts,th=some ts→ts.length≤1000000∧∀x∈ts,x.length≤900000 from fun ts h=>Ze0 hf (av▸h))
 rw[←hn]
 have Q1:=D q1;have Q2:=D q2;have Q3:=D q3;have Q4:=D q4;have Q5:=D q5
 have z:=D Ze4
 clear q1 q2 q3 q4 q5 hR aF av ay ap aW bn bm hA hf hE hn;change Hid _ at H bf aT
 obtain⟨bI,bJ⟩:=M
 obtain⟨aS,bh⟩:=dg
 dsimp only at HR Q3 Q4 Q5
 go_in
 go_upto_region 1 with fail
 rw[←bf.out]
 go_wp2_with fail
 refine(Q1.out T (Zg.refl [] T)).mono ?_
 rintro e w2 ⟨vm,Y,rfl,a6,a3,ar⟩
 have aA:=D ar;have aj:=Jt H ar
 have az:=D a6
 have aC:=D (show∀k∈Y,T.heap.size≤k from a3)
 have aw:=D ((Kv ar aT))
 clear a6 a3 ar Q1
 cases tm with
 |none=>
  have N:=D (show R=(Zo.zero,5)by rw[HR.out];rfl)
  obtain⟨wz,J⟩:=Je (w2.setRow w.heap.size (Zy (.slice none 0 0) (.slice none 0 0) Zo.zero).toArray)
  have aa:=Kk J aw
  have ah:Zg [w.heap.size] w2 wz:=by rw[J];exact(Zg.refl _ _).setRow (.inr (by simp)) _
  have aJ:=D (((aj.weaken (G:=[w.heap.size]) (by simp)).trans ah (fun q a=> .inr a)).weaken (G:=[]) (fun q a=> .inl (by rw[Jm a];exact Xi _)))
  have aP:=D (show(Zy (.slice none 0 0) (.slice none 0 0) Zo.zero).toArray.all (·.oneCell')=true from Zbt _ _ _ rfl rfl)
  clear ah;change Hid _ at aa J
  go_wp2_with(refine Jo (Zy (.slice none 0 0) (.slice none 0 0) Zo.zero).toArray aw z aP ?_;rw[←J.out])
  refine bodyPost_ret (v:= .tuple #[.agg (Zy (.slice none 0 0) (.slice none 0 0) Zo.zero).toArray, .int .i64 5]) (Zj _ Tryz.results232 (b:=w.heap.size) (o:=0) rfl rfl z (Zb.of_block aa)) rfl ?_
  rw[N.out]
  exact⟨_,_,[],[],rfl,ZA _ _ _,ZA _ _ _,by simp,by simp,aJ.out⟩
 |some ms=>
 go_wp2_with fail
 refine(Q2.out w2 aA).mono ?_
 rintro e w3 ⟨vh,M2,rfl,bj,au,al⟩
 have bl:=Jt aA al;have bb:=Jt aj al
 have am:=D ((Zl _ _).upd az al)
 have ak:=D bj
 have C:=D (show(∀k∈M2,w2.heap.size≤k)∧(∀k∈Y,k∉M2)∧w.heap.size∉M2∧w.heap.size∉Y by
  refine⟨au,fun k hk d=> ?_,fun d=> ?_,fun d=> ?_⟩
  ·have:=(Zl _ _).lt az k hk
   have:=au k d;omega
  ·have:=au _ d;have:=(Jg aw);omega
  ·have:=aC.out _ d;have:=(Jg aT);omega)
 have aU:=D ((Kv al aw))
 clear bj au al Q2
 cases th with
 |none=>
  have N:=D (show R=(Zo.zero,6)by rw[HR.out];rfl)
  obtain⟨wz,J⟩:=Je (w3.setRow w.heap.size (Zy (.slice none 0 0) (.slice none 0 0) Zo.zero).toArray)
  have aa:=Kk J aU
  have ah:Zg [w.heap.size] w3 wz:=by rw[J];exact(Zg.refl _ _).setRow (.inr (by simp)) _
  have aJ:=D (((bb.weaken (G:=[w.heap.size]) (by simp)).trans ah (fun q a=> .inr a)).weaken (G:=[]) (fun q a=> .inl (by rw[Jm a];exact Xi _)))
  have aP:=D (show(Zy (.slice none 0 0) (.slice none 0 0) Zo.zero).toArray.all (·.oneCell')=true from Zbt _ _ _ rfl rfl)
  clear ah;change Hid _ at aa J
  go_wp2_with(refine Jo (Zy (.slice none 0 0) (.slice none 0 0) Zo.zero).toArray aU z aP ?_;rw[←J.out])
  refine bodyPost_ret (v:= .tuple #[.agg (Zy (.slice none 0 0) (.slice none 0 0) Zo.zero).toArray, .int .i64 6]) (Zj _ Tryz.results232 (b:=w.heap.size) (o:=0) rfl rfl z (Zb.of_block aa)) rfl ?_
  rw[N.out]
  exact⟨_,_,[],[],rfl,ZA _ _ _,ZA _ _ _,by simp,by simp,aJ.out⟩
 |some hs=>
 have N:=D (show R=(⟨ms,hs.map Yu,if bh then min aS 7200 else 5⟩,0)by rw[HR.out];rfl)
 have bw:=(aD.out hs rfl).1
 have bv:=D (aD.out hs rfl).2
 clear HR aD
 have bt:=ak.strs
 obtain⟨A2,c2,rfl,_,_⟩:=ak.strs
 obtain⟨p,r,rfl,_,_⟩:=am.strs
 clear bt
 obtain⟨hn,ad⟩:=Je hs.length
 obtain⟨m,bc⟩:=Je ms.length
 simp only[Option.getD_some,Option.isSome_some]at ak am az⊢
 rw[←ad]at ak bw⊢
 rw[←bc]at am⊢
 clear az;change Hid _ at ad bc
 go_wp2_with fail
 go_loopw[32,7,8] (fun v32 _ _ wr=>∃(k:Nat),k≤hn∧v32= .int .i64 k∧Hid (Z9 (.slice A2 hn c2) ((hs.take k).map Yu++hs.drop k) wr M2)∧Hid (Zg M2 w3 wr)) (fun v32 _ _ _=>hn-(intOf v32).toNat)
 case atStart=>exact⟨0,Xn _,rfl,D (by simpa using ak.out),D (Zg.refl _ _)⟩
 case round=>
  obtain⟨k,hk,rfl,HL,HU⟩:=hrel
  by_cases bE:k<hn
  ·have a1:k<hs.length:=by rw[←ad.out];exact bE
   obtain⟨y,hy⟩:∃y,hs[k]? =some y:=⟨_,Xa a1⟩
   have ax:((hs.take k).map Yu++hs.drop k)[k]? =some y:=by
    rw[List.getElem?_append_right (by rw[Xb,List.length_take];omega),Xb,List.length_take,List.getElem?_drop]
    rw[show k+(k-min k hs.length)=k by omega];exact hy
   obtain⟨A9,c9,e9,_,a9⟩:=HL.strs
   injection e9 with e9 bz br
   clear bz br
   obtain⟨ab,ao,E,a5⟩:=a9 k y ax
   rw[←e9]at E
   have bD:ao=0:=by
    rcases HL.form with⟨O,_⟩|⟨g7,bF,bG,O,_⟩
    ·injection O with O _ _;rw[O]at E;cases E
    ·injection O with O _ _;rw[O]at E;injection E with E;injection E with _ E _;exact E.symm
   subst bD E
   have q:=YF y wr (by have:=bv.out y (Xc hy);omega)
   have aZ:=D (Zqy hs hy)
   obtain⟨lo,a2⟩:=Je (Yu y)
   rw[←a2]at q aZ
   have Q:=D q
   rw[Nat.zero_add]at a5
   clear q a2 e9 a9 hy a1;change Hid _ at ax
   go_wp2_with fail
   refine Q.out.mono ?_
   rintro e w4 ⟨rfl,aH⟩
   have ac:=(Zl _ _).upd HL aH
   have hg:M2=[ab]:=by
    obtain⟨bK,_,e1,_⟩:=Zk.block ac
    exact e1
   have bu:=ac
   obtain⟨r1,r2⟩:=ZcY (i:=k) (j:=0) (c:=Za8 y) ac (by rw[Xe,ax.out];rfl) (by omega) (.string ⟨lo.toArray⟩)
   have d0:w4.cell? ⟨ab,k,none⟩=some (.string ⟨y.toArray⟩):=by
    have:=Zk.liesAt ac (j:=k) (cs:=Za8 y) (by rw[Xe,ax.out];rfl) 0 _ rfl
    rw[Nat.mul_one,Nat.add_zero]at this;exact this
   have d1:w4.frozen? ⟨ab,k,none⟩=false:=by rw[Nat.mul_one,Nat.add_zero]at r2;exact r2
   rw[Nat.mul_one,Nat.add_zero]at r1
   obtain⟨S,K⟩:=Je (w4.setCell ⟨ab,k,none⟩ (.string ⟨lo.toArray⟩))
   have aB:=D (show Z9 (.slice (some ⟨ab,0,none⟩) hn c2) ((hs.take (k+1)).map Yu++hs.drop (k+1)) S M2 by
    rw[←aZ.out,K]
    unfold Z9
    rw[List.map_set]
    exact r1)
   have aE:=D (show Zg M2 w3 S from HU.trans ((aH.weaken (G:=M2) (by simp)).trans (show Zg M2 w4 S by rw[K,hg];exact(Zg.refl _ _).setCell (.inr (by simp)) _) (fun q a=> .inr a)) (fun q a=> .inr a))
   clear aH ac hg bu r1 r2 a5 Q;change Hid _ at K
   go_wp2_with fail
   rw[←K.out]
   go_roundw
   case rel=>exact⟨k+1,by omega,by go_num,aB,aE⟩
   case measure=>simp[intOf];omega
  ·obtain rfl:k=hn:=by omega
   have aL:=HL.out
   rw[ad.out,Xm,List.drop_length,List.append_nil,←ad.out]at aL
   have aQ:=D aL
   clear aL HL
   have a7:=D ((Kv HU aU C.out.2.2.1))
   have be:=D ((Zl _ _).upd am HU C.out.2.1)
   have bB:=D (show Zg [] w wr from((bb.weaken (G:=M2) (by simp)).trans HU (fun q a=> .inr a)).weaken (fun q a=> .inl (by have:=C.out.1 q a;have:=aj.size;omega)))
   obtain⟨g,a0⟩:=Je (hs.map Yu)
   rw[←a0]at aQ N
   obtain⟨S,K⟩:=Je ((wr.alloc (.cells #[.slice none 0 0, .slice none 0 0, .int .u64 0] 263 (0,0))).setRow wr.heap.size (Zy (.slice p m r) (.slice A2 k c2) ⟨ms,g,5⟩).toArray)
   have bd:=D (Za (w:=wr) (.cells #[.slice none 0 0, .slice none 0 0, .int .u64 0] 263 (0,0)))
   have bq:=D (show S.heap[wr.heap.size]? =some (.cells (Zy (.slice p m r) (.slice A2 k c2) ⟨ms,g,5⟩).toArray 263 (0,0))by rw[K];exact setRow_heap _ _ _ _ _ _ bd)
   have V:=Kh K
   have aB:=D ((Zl _ _).upd aQ V);have bo:=D ((Zl _ _).upd be V)
   have bp:=D ((Kv V a7))
   have aE:=Jt bB V
   have bg:=D (show(Zy (.slice p m r) (.slice A2 k c2) ⟨ms,g,5⟩).toArray.all (·.oneCell')=true from Zbt _ _ _ rfl rfl)
   have bx:=D (show Zg [] T S from(((bl.weaken (G:=M2) (by simp)).trans HU (fun q a=> .inr a)).trans (V.weaken (G:=M2) (by simp)) (fun q a=> .inr a)).weaken (fun q a=> .inl (by have:=C.out.1 q a;have:=aA.size;omega)))
   clear V a0;change Hid _ at K
   go_upto_region 13 with(refine Jo (Zy (.slice p m r) (.slice A2 k c2) ⟨ms,g,5⟩).toArray bd z bg ?_;rw[←K.out])
   simp only[Act.put]
   go_wp2_with fail
   refine(Q3.out S bx).mono ?_
   rintro e Z ⟨rfl,X⟩
   have bi:=Jt aE X
   have ae:=D ((Kv X bq))
   have aR:=D ((Kv X bp))
   have a8:=D ((Zl _ _).upd aB X);have bk:=D ((Zl _ _).upd bo X)
   obtain⟨s,a4⟩:=Je wr.heap.size
   have an:=D (show w.heap.size≤s∧s≠w.heap.size∧w.heap.size≠s∧s∉Y∧s∉M2 by
    have h1:=(Jg a7)
    refine⟨by omega,by omega,by omega,fun d=> ?_,fun d=> ?_⟩
    ·have:=(Zl _ _).lt be s d;omega
    ·have:=(Zl _ _).lt aQ s d;omega)
   rw[←a4]at ae⊢
   clear X a4 Q3
   go_wp2_with fail
   refine(Q4.out Z).mono ?_
   rintro e wt ⟨rfl,af⟩
   rw[af];clear af wt Q4
   go_wp2_with fail
   refine(Q5.out Z).mono ?_
   rintro e wt ⟨rfl,af⟩
   rw[←af];clear af wt Q5
   cases bh with
   |false=>
    have aV:=D (show R=(⟨ms,g,5⟩,0)by rw[N.out];rfl)
    have aI:=ae
    have aM:=bg
    obtain⟨we,L⟩:=Je (Z.setRow w.heap.size (Zy (.slice p m r) (.slice A2 k c2) ⟨ms,g,5⟩).toArray)
    have aO:=D (show we.heap[w.heap.size]? =some (.cells (Zy (.slice p m r) (.slice A2 k c2) ⟨ms,g,5⟩).toArray 263 (0,0))by rw[L];exact setRow_heap _ _ _ _ _ _ aR)
    have I:Zg [w.heap.size] Z we:=by rw[L];exact(Zg.refl _ _).setRow (.inr (by simp)) _
    have aX:=D (((bi.weaken (G:=[w.heap.size]) (by simp)).trans I (fun q a=> .inr a)).weaken (G:=[]) (fun q a=> .inl (by rw[Jm a];exact Xi _)))
    have aG:=D ((Zl _ _).upd a8 I (fun q a d=>C.out.2.2.1 (by rw[←Jm d];exact a)));have aN:=D ((Zl _ _).upd bk I (fun q a d=>C.out.2.2.2 (by rw[←Jm d];exact a)))
    have aY:=D (show Zb Z s 0 (Zy (.slice p m r) (.slice A2 k c2) ⟨ms,g,5⟩)from Zb.of_block aI)
    clear I;change Hid _ at L
    go_wp2_with(first|refine Jl aY z ?_|(refine Jo (Zy (.slice p m r) (.slice A2 k c2) ⟨ms,g,5⟩).toArray aR z aM ?_;rw[←L.out]))
    refine bodyPost_ret (v:= .tuple #[.agg (Zy (.slice p m r) (.slice A2 k c2) ⟨ms,g,5⟩).toArray, .int .i64 0]) (Zj _ Tryz.results232 (b:=w.heap.size) (o:=0) rfl rfl z (Zb.of_block aO)) rfl ?_
    exact Zgd
   |true=>
    obtain⟨F,aK⟩:=Je (min aS 7200)
    have aV:=D (show R=(⟨ms,g,F⟩,0)by rw[N.out,aK];rfl)
    have f2:=Jc 2 ae.out
    have f3:=Kf 2 ae.out
    have bH:(min (aS:Int) 7200)=(F:Int):=by rw[aK];omega
    obtain⟨w7,aq⟩:=Je (Z.setCell ⟨s,2,none⟩ (.int .u64 (F:Int)))
    have aI:=D (show w7.heap[s]? =some (.cells (Zy (.slice p m r) (.slice A2 k c2) ⟨ms,g,F⟩).toArray 263 (0,0))by rw[aq];exact(Zd (i:=2) ae _).trans rfl)
    have ai:=Kd aq
    have ba:=D ((Kv ai aR (by simp;exact an.out.2.2.1)))
    have bA:=D ((Zl _ _).upd a8 ai (fun q a d=>an.out.2.2.2.2 (by rw[←Jm d];exact a)));have bC:=D ((Zl _ _).upd bk ai (fun q a d=>an.out.2.2.2.1 (by rw[←Jm d];exact a)))
    have bs:=D (((bi.weaken (G:=[s]) (by simp)).trans ai (fun q a=> .inr a)).weaken (G:=[]) (fun q a=> .inl (by rw[Jm a];exact an.out.1)))
    have aM:=D (show(Zy (.slice p m r) (.slice A2 k c2) ⟨ms,g,F⟩).toArray.all (·.oneCell')=true from Zbt _ _ _ rfl rfl)
    clear ai aK;change Hid _ at aq
    go_upto_region 17 with fail
    rw[←aq.out]
    obtain⟨we,L⟩:=Je (w7.setRow w.heap.size (Zy (.slice p m r) (.slice A2 k c2) ⟨ms,g,F⟩).toArray)
    have aO:=D (show we.heap[w.heap.size]? =some (.cells (Zy (.slice p m r) (.slice A2 k c2) ⟨ms,g,F⟩).toArray 263 (0,0))by rw[L];exact setRow_heap _ _ _ _ _ _ ba)
    have I:Zg [w.heap.size] w7 we:=by rw[L];exact(Zg.refl _ _).setRow (.inr (by simp)) _
    have aX:=D (((bs.weaken (G:=[w.heap.size]) (by simp)).trans I (fun q a=> .inr a)).weaken (G:=[]) (fun q a=> .inl (by rw[Jm a];exact Xi _)))
    have aG:=D ((Zl _ _).upd bA I (fun q a d=>C.out.2.2.1 (by rw[←Jm d];exact a)));have aN:=D ((Zl _ _).upd bC I (fun q a d=>C.out.2.2.2 (by rw[←Jm d];exact a)))
    have aY:=D (show Zb w7 s 0 (Zy (.slice p m r) (.slice A2 k c2) ⟨ms,g,F⟩)from Zb.of_block aI)
    clear I;change Hid _ at L
    go_wp2_with(first|refine Jl aY z ?_|(refine Jo (Zy (.slice p m r) (.slice A2 k c2) ⟨ms,g,F⟩).toArray ba z aM ?_;rw[←L.out]))
    refine bodyPost_ret (v:= .tuple #[.agg (Zy (.slice p m r) (.slice A2 k c2) ⟨ms,g,F⟩).toArray, .int .i64 0]) (Zj _ Tryz.results232 (b:=w.heap.size) (o:=0) rfl rfl z (Zb.of_block aO)) rfl ?_
    exact Zgd
end Go.Proofs.YtlhapbopmplngaaGreatDoor
