import Derived.Test.YtlhapbopmplngaaGreatDoorS6
import Derived.Test.YtlhapbopmplngaaGreatDoorS7
set_option linter.all false
set_option maxHeartbeats 16000000
set_option maxRecDepth 100000
set_option autoImplicit true
set_option relaxedAutoImplicit true
namespace Go.Proofs.YtlhapbopmplngaaGreatDoor
open Go.RowKit Go.Lk
theorem ZaG (c:UInt8):∀(n:Nat) (s:Bs),s.length≤n→(Lib.split s [c]).length≤s.length+1∧∀x∈Lib.split s [c],x.length≤s.length
 |n,s,hn=>by
  by_cases h:c∈s
  ·obtain⟨x,r,rfl,hx⟩:=List.eq_append_cons_of_mem h
   cases n with
   |zero=>simp at hn
   |succ n=>
    rw[Xd,List.length_cons]at hn
    obtain⟨h1,h2⟩:=ZaG c n r (by omega)
    rw[ZjL _ _ _ hx]
    refine⟨by rw[List.length_cons,Xd,List.length_cons];omega,fun y hy=> ?_⟩
    rw[Xd,List.length_cons]
    rcases List.mem_cons.1 hy with rfl|hy
    ·omega
    ·have:=h2 y hy;omega
  ·rw[ZjA _ _ h]
   exact⟨by simp,fun x hx=>by
     obtain rfl:x=s:=by simpa using hx
     exact Xi _⟩
def Zi0 (x:Bs) (w:World) (hx:x.length≤900000) (hE:Env w):
  Calls Tryz.prog 259 #[.string ⟨x.toArray⟩] w fun e w'=>e= .returned (.bool (Zhj x))∧Zg [] w w':=by
 obtain⟨r,o⟩:=Je (Zhj x)
 have p:=D o
 rw[←o]
 clear o
 by_cases V:253<x.length
 ·have E:r=false:=by rw[p.out];unfold Zhj;rw[decide_eq_false (by omega),Bool.false_and]
  have c:=D E;clear E
  have g:(253:Int)<(x.length:Int):=by omega
  go_in
  go_wp2_with fail
  go_ret
  exact⟨by rw[c.out];rfl,Zg.refl _ _⟩
 have g:¬((253:Int)<(x.length:Int)):=by omega
 have l:=D (show r=(Lib.split x [46]).all ZdV by rw[p.out];unfold Zhj;rw[decide_eq_true (by omega),Bool.true_and])
 have q:=ZgZ hE x 46 hx
 obtain⟨ws,d⟩:=Je (Lib.split x [46])
 have z:∀y∈ws,y.length≤1000000:=fun y a=>by
  rw[d]at a
  have:=(ZaG 46 x.length x (Xi _)).2 y a
  omega
 have W:ws.length≤1000000:=by rw[d];have:=(ZaG 46 x.length x (Xi _)).1;omega
 rw[←d]at q l
 have Q:=D q;have N:=D z
 clear q d z p
 go_in
 go_wp2_with fail
 refine Q.out.mono ?_
 rintro e w1 ⟨rfl,H,F⟩
 have P:=D H;have C:=D F;clear H F Q
 go_wp2_with fail
 go_loopw[11] (fun v11 wr=>∃(k:Nat),k≤ws.length∧v11= .int .i64 k∧(ws.take k).all ZdV=true∧wr=w1) (fun v11 _=>ws.length-(intOf v11).toNat)
 case atStart=>exact⟨0,by omega,rfl,rfl,rfl⟩
 case round=>
  obtain⟨k,X,rfl,t,rfl⟩:=hrel
  have s:=D t;clear t
  by_cases n:k<ws.length
  ·obtain⟨y,a⟩:=Je (ws[k])
   obtain⟨Z,Y,m,O⟩:=P.out k y (by simp[a,n])
   injection m with m;injection m with S R _;subst S R
   rw[Nat.zero_add]at O
   have J:ws.take (k+1)=ws.take k++[y]:=by rw[Xr n,a]
   have j:y∈ws:=by rw[a];exact List.getElem_mem n
   have q:=Ziw y wr (N.out y j)
   obtain⟨b,i⟩:=Je (ZdV y)
   rw[←i]at q
   have Q:=D q;have M:=D j
   clear q j a;change Hid _ at i J
   go_wp2_with fail
   refine Q.out.mono ?_
   rintro e T ⟨rfl,G⟩
   rw[G];clear G T Q
   cases b with
   |true=>
    have L:(ws.take (k+1)).all ZdV=true:=by rw[J.out,List.all_append,s.out];simp[←i.out]
    change Hid _ at L
    go_wp2_with fail
    exact⟨⟨k+1,by omega,by go_num,L.out,by trivial⟩,by simp[intOf];omega⟩
   |false=>
    have c:r=false:=by
     rw[l.out,Bool.eq_false_iff]
     intro h
     have:=(Xk.1 h) y M.out
     rw[←i.out]at this;cases this
    change Hid _ at c
    go_wp2_with fail
    go_ret
    exact⟨by rw[c.out];rfl,C.out⟩
  ·have I:k=ws.length:=by omega
   have K:r=true:=by rw[l.out];have:=s.out;rw[I,Xm]at this;exact this
   clear I;change Hid _ at K
   go_wp2_with fail
   go_ret
   exact⟨by rw[K.out];rfl,C.out⟩
def ZB (o:Zs):List Value:=[.string ⟨o.scheme.toArray⟩, .string ⟨o.host.toArray⟩, .int .i64 o.port]
def ZbC (o:Zs) (w:World) (hh:o.host.length≤900000) (hE:Env w):
  Calls Tryz.prog 176 #[.agg (ZB o).toArray] w fun e w'=>e= .returned (.bool (YY o))∧Zg [] w w':=by
 have Q:=D hE;clear hE
 obtain⟨L,F,g,c⟩:=Kc w (.cells #[.string ⟨o.scheme.toArray⟩, .string ⟨o.host.toArray⟩, .int .i64 o.port] 203)
 have H:=Zf (i:=0) c rfl
 simp only[List.getElem_toArray,Xv]at H
 change Hid _ at g c F
 obtain⟨r,q⟩:=Je (YY o)
 obtain⟨j,k⟩:=Je (YS o.scheme)
 obtain⟨n,l⟩:=Je (Zhj o.host)
 have K:=D (show r=(j !=0&&n&&decide (1≤o.port)&&decide (o.port≤65535))by rw[q,k,l];unfold YY;rfl)
 rw[←q]
 have p:=ZcO o.scheme L
 rw[←k]at p
 have s:=Zi0 o.host L hh (Q.upd0 g)
 rw[←l]at s
 have J:=D p;have G:=D s
 clear q k l p s
 unfold ZB
 go_in
 go_upto_region 1 with fail
 rw[←F.out]
 go_wp2_with fail
 refine J.out.mono ?_
 rintro e O ⟨rfl,y⟩
 rw[y];clear y O J
 have I:=Zf (i:=1) c rfl
 simp only[List.getElem_toArray,Xv,List.getElem_cons_succ]at I
 by_cases hd:j=0
 ·have a:r=false:=by rw[K.out,hd];simp
  have b:=D a;clear a
  have z:(j !=0)=false:=by rw[hd];rfl
  clear hd
  go_wp2_with fail
  go_ret
  exact⟨by rw[b.out];rfl,g.out⟩
 have z:(j !=0)=true:=by rw[bne_iff_ne];exact hd
 have d:=D (show r=(n&&decide (1≤o.port)&&decide (o.port≤65535))by rw[K.out,z,Bool.true_and])
 clear hd
 go_wp2_with fail
 refine G.out.mono ?_
 rintro e R ⟨rfl,m⟩
 have h:=Jt g m
 have E:=Kv m c
 have P:=Zf (i:=2) E rfl
 simp only[List.getElem_toArray,Xv,List.getElem_cons_succ]at P
 clear m E H I G
 cases n with
 |false=>
  have b:r=false:=by rw[d.out];rfl
  change Hid _ at b
  go_wp2_with fail
  go_ret
  exact⟨by rw[b.out];rfl,h.out⟩
 |true=>
 by_cases x:1≤o.port
 ·by_cases N:o.port≤65535
  ·have C:r=true:=by rw[d.out,decide_eq_true x,decide_eq_true N];rfl
   have M:=D C;clear C
   go_wp2_with fail
   go_ret
   exact⟨by rw[M.out];rfl,h.out⟩
  ·have a:r=decide (o.port≤65535):=by rw[d.out,decide_eq_true x];rfl
   have b:=D a;clear a
   go_wp2_with fail
   go_ret
   exact⟨by rw[b.out];rfl,h.out⟩
 ·have a:r=false:=by rw[d.out,decide_eq_false x];simp
  have b:=D a;clear a
  go_wp2_with fail
  go_ret
  exact⟨by rw[b.out];rfl,h.out⟩
def Zlk (x:Bs) (w:World) (hx:x.length≤1000000):
  Calls Tryz.prog 175 #[.string ⟨x.toArray⟩] w fun e w'=>e= .returned (.int .i64 (Zen x))∧w'=w:=by
 obtain⟨r,o⟩:=Je (Zen x)
 have q:=ZcC x w hx
 obtain⟨i,j⟩:=Je (Y8 x)
 have C:i.1≤18446744073709551615:=by rw[j];unfold Y8;split<;>simp<;>omega
 have l:i.2=true→x≠[]:=by
  rw[j];unfold Y8
  split
  ·simp
  ·simp
 have k:=D (show r=if !i.2||decide (5<x.length)||x.head? ==some 48||decide (65535<i.1)then(0:Int)else i.1 by rw[o,j];unfold Zen;rfl)
 rw[←j]at q
 rw[←o]
 have Q:=D q
 clear j o q
 obtain⟨n,F⟩:=i
 simp only at C l
 go_in
 go_wp2_with fail
 refine Q.out.mono ?_
 rintro e G ⟨rfl,rfl⟩
 clear Q
 cases F with
 |false=>
  have b:r=0:=by rw[k.out];rfl
  change Hid _ at b
  go_wp2_with fail
  go_ret
  exact⟨by rw[b.out];rfl,rfl⟩
 |true=>
 have m:=l rfl
 clear l
 by_cases s:5<x.length
 ·have a:r=0:=by rw[k.out,decide_eq_true s];rfl
  have b:=D a;clear a
  have g:(5:Int)<x.length:=by omega
  clear m
  go_wp2_with fail
  go_ret
  exact⟨by rw[b.out];rfl,rfl⟩
 have g:¬((5:Int)<x.length):=by omega
 cases x with
 |nil=>exact absurd rfl m
 |cons c t=>
  clear m
  have hg:=Zaj (c::t) 0 (by simp)
  simp only[Xv]at hg
  have z:((c.toNat:Int)==48)=decide (c=48):=by
   rw[Bool.eq_iff_iff,beq_iff_eq,decide_eq_true_eq]
   exact⟨fun h=>UInt8.toNat_inj.1 (by show c.toNat=48;omega),fun h=>by rw[h];rfl⟩
  by_cases d:c=48
  ·have a:r=0:=by rw[k.out,d];simp
   have b:=D a;clear a
   rw[decide_eq_true d]at z
   clear d
   go_wp2_with fail
   go_ret
   exact⟨by rw[b.out];rfl,rfl⟩
  ·rw[decide_eq_false d]at z
   have p:=D (show r=if 65535<n then(0:Int)else n by
    rw[k.out,decide_eq_false s]
    have e:((c::t).head? ==some (48:UInt8))=false:=by simp[d]
    rw[e];simp)
   clear d k
   by_cases y:65535<n
   ·have a:r=0:=by rw[p.out,if_pos y]
    have b:=D a;clear a
    have E:(65535:Int)<(n:Int):=by omega
    go_wp2_with fail
    go_ret
    exact⟨by rw[b.out];rfl,rfl⟩
   ·have a:r=n:=by rw[p.out,if_neg y]
    have b:=D a;clear a
    have E:¬((65535:Int)<(n:Int)):=by omega
    go_wp2_with fail
    go_ret
    exact⟨by rw[b.out];rfl,rfl⟩
def ZqX (w:World) (os:Array Obj):Zg [] w (Go.Sort.grow w os):=
 ⟨rfl,rfl,rfl,by simp[Go.Sort.grow],fun x hx _=>by simp[Go.Sort.grow,Array.getElem?_append,hx]⟩
def Zpm (n:Int) (h0: -9223372036854775808≤n) (h1:n≤9223372036854775807) (hE:Env w):
  Calls Tryz.prog 181 #[.int .i64 n] w fun e w'=>e= .returned (.string ⟨(Lib.itoa n).toArray⟩)∧Zg [] w w':=
 (Tryz.strconv_Itoa n h0 h1 w hE.tab).mono fun e w' ⟨he,k,os,hw⟩=>⟨he,by subst hw;exact((Zg.refl [] w).drewN k).trans (ZqX _ os)⟩
def ZiM {o:Zs} (h:YY o=true):o.scheme.length≤5∧o.host.length≤253∧1≤o.port∧o.port≤65535:=by
 unfold YY Zhj at h
 simp only[Bool.and_eq_true,decide_eq_true_eq,bne_iff_ne]at h
 refine⟨?_,h.1.1.2.1,h.1.2,h.2⟩
 have:=h.1.1.1
 unfold YS at this
 split at this
 ·rename_i e;rw[e];decide
 ·split at this
  ·rename_i e;rw[e];decide
  ·exact absurd rfl this
def ZdO {P:Prop}(h:P:=by
 intro W g
 clear g
 go_simp
 rw[if_neg (by(try simp);omega)]
 have k:(⟨#[58,47,47]⟩:ByteArray)=⟨([58,47,47]:Bs).toArray⟩:=rfl
 have l:(⟨#[58]⟩:ByteArray)=⟨([58]:Bs).toArray⟩:=rfl
 (try rw[k])
 (try rw[l])
 rw[Zak]
 (try simp)):P:=h
def Zit (o:Zs) (w:World) (hh:o.host.length≤900000) (hE:Env w):
  Calls Tryz.prog 105 #[.agg (ZB o).toArray] w fun e w'=>e= .returned (.string ⟨(Zft o).toArray⟩)∧Zg [] w w':=by
 have L:=D hE;clear hE
 obtain⟨K,G,s,q⟩:=Kc w (.cells #[.string ⟨o.scheme.toArray⟩, .string ⟨o.host.toArray⟩, .int .i64 o.port] 203)
 change Hid _ at s q G
 have R:=D (show Zb K w.heap.size 0 (ZB o)from Zb.of_block q)
 have O:=D (show Zu Tryz.prog 203 (ZB o).length=true from(by kernel_rfl:Zu Tryz.prog 203 3=true))
 obtain⟨b,p⟩:=Je (YY o)
 have E:=ZbC o K hh (L.upd0 s)
 rw[←p]at E
 have J:=D E
 obtain⟨r,F⟩:=Je (Zft o)
 have H:=D (show r=if b then o.scheme++[58,47,47]++o.host++[58]++Lib.itoa o.port else[]by rw[F,p];rfl)
 have M:=D (show b=true→_ from fun h=>ZiM (p.symm.trans h))
 rw[←F]
 clear F E p
 have S:(Value.agg (ZB o).toArray)= .agg #[.string ⟨o.scheme.toArray⟩, .string ⟨o.host.toArray⟩, .int .i64 o.port]:=rfl
 rw[S]
 go_in
 go_upto_region 1 with fail
 rw[←G.out]
 go_wp2_with(refine Jl R O ?_)
 refine J.out.mono ?_
 rintro e w2 ⟨rfl,x⟩
 have C:=Jt s x
 have n:=D ((Kv x q))
 clear x J
 cases b with
 |false=>
  have j:r=[]:=by rw[H.out];rfl
  change Hid _ at j
  go_wp2_with fail
  go_ret
  exact⟨by rw[j.out];rfl,C.out⟩
 |true=>
 obtain⟨T,Y,V,X⟩:=M.out rfl
 have P:=Lib.itoa_length_le o.port (by omega) (by omega)
 have j:=D (show r=o.scheme++[58,47,47]++o.host++[58]++Lib.itoa o.port by rw[H.out];rfl)
 go_upto_region 3 with fail
 have c:=Zf (i:=0) n rfl
 have d:=Zf (i:=1) n rfl
 have a:=Zf (i:=2) n rfl
 simp only[List.getElem_toArray,Xv,List.getElem_cons_succ]at c d a
 refine Jr [0,4,8,12,16,20,24,28,32,37,40,44] (fun W=>W.cell? ⟨w.heap.size,0,none⟩=some (.string ⟨o.scheme.toArray⟩)∧W.cell? ⟨w.heap.size,1,none⟩=some (.string ⟨o.host.toArray⟩)∧W.cell? ⟨w.heap.size,2,none⟩=some (.int .i64 o.port)) ⟨c,d,a⟩ ?_
 clear c d a
 repeat first|refine Jn ?_|refine Jf ?_|refine Ju ?_
 apply ZaF (v:= .string ⟨(o.scheme++[58,47,47]).toArray⟩)
 case ho=>simp only[Xh,Xf,Xg];rfl
 case hg=>rfl
 case hv=>
  exact ZdO
 case ha=>go_simp;rfl
 repeat first|refine Jn ?_|refine Jf ?_|refine Ju ?_
 apply ZaF (v:= .string ⟨(o.scheme++[58,47,47]++o.host).toArray⟩)
 case ho=>simp only[Xh,Xf,Xg];rfl
 case hg=>rfl
 case hv=>
  exact ZdO
 case ha=>go_simp;rfl
 apply ZaF (v:= .string ⟨(o.scheme++[58,47,47]++o.host++[58]).toArray⟩)
 case ho=>simp only[Xh,Xf,Xg];rfl
 case hg=>rfl
 case hv=>
  exact ZdO
 case ha=>go_simp;rfl
 repeat first|refine Jn ?_|refine Jf ?_|refine Ju ?_
 refine JE ?_
 simp only[Xu]
 go_wp2_with fail
 refine(Zpm o.port (by omega) (by omega) (L.upd0 (C.drewN 1))).mono ?_
 rintro e Z ⟨rfl,y⟩
 have Q:=D ((C.drewN 1).trans y)
 have m:=Kv y n
 have c:=Zf (i:=0) m rfl
 have d:=Zf (i:=1) m rfl
 have a:=Zf (i:=2) m rfl
 simp only[List.getElem_toArray,Xv,List.getElem_cons_succ]at c d a
 clear y
 go_wp2_with fail
 refine⟨_,fun _ h=>h,⟨c,d,a⟩,?_⟩
 clear c d a m
 obtain⟨z,I⟩:=Je (Lib.itoa o.port)
 rw[←I]at j P⊢
 clear I
 apply ZaF (v:= .string ⟨(o.scheme++[58,47,47]++o.host++[58]++z).toArray⟩)
 case ho=>simp only[Xh,Xf,Xg];rfl
 case hg=>rfl
 case hv=>
  intro W g
  clear g
  go_simp
  rw[if_neg (by(try simp);omega)]
  rw[Zak]
  (try simp)
 case ha=>go_simp;rfl
 repeat first|refine Jn ?_|refine Jf ?_|refine Ju ?_
 refine ZK ?_
 go_wp2_with fail
 go_ret
 have N:r=o.scheme++58::47::47::(o.host++58::z):=by rw[j.out];simp
 exact⟨by rw[N];rfl,Q.out⟩
def Zcc {P:Prop}(h:P:=by
 go_in
 go_wp2_with fail
 refine Q.out.mono ?_
 rintro e t ⟨rfl,a⟩
 have g:=D a;clear a
 go_wp2_with fail
 go_ret
 exact⟨rfl,g.out⟩):P:=h
def Zhg (x:Bs) (w:World) (hx:x.length≤1000000):
  Calls Tryz.prog 257 #[.string ⟨x.toArray⟩] w fun e w'=>e= .returned (.int .i64 (dotsT x:Nat))∧Zg [] w w':=by
 obtain⟨l,r⟩:=Je (Yu x)
 have q:=YF x w hx
 rw[←r]at q
 have Q:=D q
 have hd:dotsT x=if l=[46]∨l=[37,50,101]then 1 else if l=[46,46]∨l=[46,37,50,101]∨l=[37,50,101,46]∨l=[37,50,101,37,50,101]then 2 else 0:=by rw[r];rfl
 rw[hd]
 clear hd r q
 have d:∀(c:Bs),(l==c)=decide (l=c):=fun c=>by rw[Bool.eq_iff_iff];simp
 have s:=d [46]
 have k:=d [37,50,101]
 have m:=d [46,46]
 have p:=d [46,37,50,101]
 have n:=d [37,50,101,46]
 have o:=d [37,50,101,37,50,101]
 clear d
 by_cases i:l=[46]
 ·rw[if_pos (.inl i)]
  rw[decide_eq_true i]at s
  clear i k m p n o
  exact Zcc
 rw[decide_eq_false i]at s
 by_cases j:l=[37,50,101]
 ·rw[if_pos (.inr j)]
  rw[decide_eq_true j]at k
  clear i j m p n o
  exact Zcc
 rw[decide_eq_false j]at k
 rw[if_neg (by rintro(h|h)<;>contradiction)]
 by_cases b:l=[46,46]∨l=[46,37,50,101]∨l=[37,50,101,46]∨l=[37,50,101,37,50,101]
 ·rw[if_pos b]
  clear m p n o s k i j
  rcases b with rfl|rfl|rfl|rfl
  all_goals
   exact Zcc
 ·rw[if_neg b]
  rw[not_or,not_or,not_or]at b
  obtain⟨b,z,y,C⟩:=b
  rw[decide_eq_false b]at m
  rw[decide_eq_false z]at p
  rw[decide_eq_false y]at n
  rw[decide_eq_false C]at o
  clear i j b z y C
  exact Zcc
theorem Zca:∀(l:List UInt8) (c:UInt8),(Lib.indexByte l c= -1∧l.contains c=false)∨(0≤Lib.indexByte l c∧l.contains c=true)
 |[],c=> .inl ⟨rfl,rfl⟩
 |b::l,c=>by
  unfold Lib.indexByte
  by_cases h:b=c
  ·right
   rw[if_pos (by simpa using h)]
   exact⟨Int.le_refl _,by simp[h]⟩
  ·have hb:(b==c)=false:=by rw[beq_eq_false_iff_ne];exact h
   rw[if_neg (by rw[hb];simp)]
   have hc:(b::l).contains c=l.contains c:=by
    rw[List.contains_cons]
    have:(c==b)=false:=by rw[beq_eq_false_iff_ne];exact fun e=>h e.symm
    rw[this,Bool.false_or]
   rw[hc]
   rcases Zca l c with⟨d,a⟩|⟨d,a⟩
   ·left;rw[d];exact⟨rfl,a⟩
   ·right
    rw[if_neg (by simp;omega)]
    exact⟨by omega,a⟩
def Zd6 (x no:Bs) (w:World) (hx:x.length≤1000000):
  Calls Tryz.prog 170 #[.string ⟨x.toArray⟩, .string ⟨no.toArray⟩] w fun e w'=>e= .returned (.bool (Zel x no))∧w'=w:=by
 obtain⟨r,m⟩:=Je (Zel x no)
 obtain⟨P,n⟩:∃P:UInt8→Bool,P=fun c=>decide (33≤c.toNat)&&decide (c.toNat≤126)&& !no.contains c:=⟨_,rfl⟩
 have G:=D (show r=x.all P by rw[m,n];rfl)
 have g:=D (show∀c,P c=(decide (33≤c.toNat)&&decide (c.toNat≤126)&& !no.contains c)from fun c=>by rw[n])
 rw[←m]
 clear m n
 go_in
 go_wp2_with fail
 go_loopw[8] (fun v8 wr=>∃(k:Nat),k≤x.length∧v8= .int .i64 k∧(x.take k).all P=true∧wr=w) (fun v8 _=>x.length-(intOf v8).toNat)
 case atStart=>exact⟨0,by omega,rfl,rfl,rfl⟩
 case round=>
  obtain⟨k,Z,rfl,C,rfl⟩:=hrel
  have s:=D C;clear C
  by_cases l:k<x.length
  ·obtain⟨y,d⟩:=Je (x[k])
   have hg:=Zaj x k l
   rw[←d]at hg
   have L:x.take (k+1)=x.take k++[y]:=by rw[Xr l,d]
   have z:y∈x:=by rw[d];exact List.getElem_mem l
   have t:P y=false→r=false:=fun o=>by
    rw[G.out,Bool.eq_false_iff]
    intro h
    have:=(Xk.1 h) y z
    rw[o]at this;cases this
   have p:P y=true→(x.take (k+1)).all P=true:=fun o=>by rw[L,List.all_append,s.out];simp[o]
   have i:=D t;have V:=D p
   clear L z d t p
   by_cases M:33≤y.toNat
   ·by_cases E:y.toNat≤126
    ·have T:¬((y.toNat:Int)<33):=by omega
     have X:¬((126:Int)<(y.toNat:Int)):=by omega
     have q:= Tryz.strings_IndexByte ⟨no.toArray⟩ (y.toNat:Int) wr
     have R:((y.toNat:Int).toNat.toUInt8)=y:=by simp
     rw[R]at q
     obtain⟨O,j⟩:=Je (Lib.indexByte (⟨no.toArray⟩:ByteArray).data.toList y)
     rw[←j]at q
     have S:=Zca no y
     have F:O=Lib.indexByte no y:=j
     rw[←F]at S
     have Q:=D q
     clear q j F R
     go_wp2_with fail
     refine Q.out.mono ?_
     rintro e Y ⟨rfl,I⟩
     rw[I];clear I Y Q
     rcases S with⟨N,b⟩|⟨N,b⟩
     ·have H:P y=true:=by rw[g.out,decide_eq_true M,decide_eq_true E,b];rfl
      have W:=D (V.out H)
      have n3:¬((0:Int)≤O):=by omega
      clear H N b
      go_wp2_with fail
      exact⟨⟨k+1,by omega,by go_num,W.out,by trivial⟩,by simp[intOf];omega⟩
     ·have a:=D (i.out (by rw[g.out,b];simp))
      clear b
      go_wp2_with fail
      go_ret
      exact⟨by rw[a.out];rfl,by trivial⟩
    ·have a:=D (i.out (by rw[g.out,decide_eq_false E];simp))
     have T:¬((y.toNat:Int)<33):=by omega
     have X:(126:Int)<(y.toNat:Int):=by omega
     go_wp2_with fail
     go_ret
     exact⟨by rw[a.out];rfl,by trivial⟩
   ·have a:=D (i.out (by rw[g.out,decide_eq_false M];simp))
    have T:(y.toNat:Int)<33:=by omega
    go_wp2_with fail
    go_ret
    exact⟨by rw[a.out];rfl,by trivial⟩
  ·have J:k=x.length:=by omega
   have K:r=true:=by rw[G.out];have:=s.out;rw[J,Xm]at this;exact this
   clear J;change Hid _ at K
   go_wp2_with fail
   go_ret
   exact⟨by rw[K.out];rfl,by trivial⟩
end Go.Proofs.YtlhapbopmplngaaGreatDoor
namespace Go.Lk
open Go Go.RowKit
def JO {P:Program} {Q:Exit→Act→World→Prop} {ops:Array Oper} {i:Nat} {o:Oper} {S:World→Prop} {a a':Act} {x:Operand} {b of:Nat} {cs:List Value}
 (ht:Zu P t cs.length=true) (hb:∀W,S W→Zb W b of cs) (h:Z2 P ops Q r S a' w) (ho:ops[i]? =some o:=by simp only[Xh,Xf,Xg];rfl) (hg:o.guard=none:=by rfl)
 (hop:o.op= .load t x:=by rfl) (hx:a.eval x= .pointer (some ⟨b,of,none⟩):=by rfl) (ha:a.put o.dst (.agg cs.toArray)=a':=by go_simp;rfl):Z2 P ops Q ((i,0)::r) S a w:=
 ZaF (v:= .agg cs.toArray) ho hg (fun W hW=>by
  unfold execOp
  simp only[hop,Sem.run_bind,Sem.run_pure,Result.andThen_ok,hx,Yg W ht (hb W hW)]) ha h
end Go.Lk
namespace Go.Proofs.YtlhapbopmplngaaGreatDoor
open Go.RowKit Go.Lk
def Zfg {P:Prop}(h:P:=by
 go_wp2_with(refine Jl K q ?_)
 refine(I.out _ (G.upd0 d)).mono ?_
 rintro e w3 ⟨rfl,c⟩
 have C:=Jt d c;clear c
 go_wp2_with fail
 go_ret
 exact⟨by rw[n.out];rfl,C.out⟩):P:=h
def Zhl (o:Zs) (w:World) (hh:o.host.length≤900000) (hE:Env w):
  Calls Tryz.prog 112 #[.agg (ZB o).toArray] w fun e w'=>e= .returned (.string ⟨(ZeA o).toArray⟩)∧Zg [] w w':=by
 have G:=D hE;clear hE
 obtain⟨w1,M,p,m⟩:=Kc w (.cells #[.string ⟨o.scheme.toArray⟩, .string ⟨o.host.toArray⟩, .int .i64 o.port] 203)
 change Hid _ at p m M
 have Z:=D (show Zb w1 w.heap.size 0 (ZB o)from Zb.of_block m)
 have q:=D (show Zu Tryz.prog 203 (ZB o).length=true from(by kernel_rfl:Zu Tryz.prog 203 3=true))
 obtain⟨b,l⟩:=Je (YY o)
 have E:=fun(W:World) (g:Env W)=>ZbC o W hh g
 simp only[←l]at E
 have R:=D E
 obtain⟨T,s⟩:=Je (YS o.scheme)
 have x:=fun w=>ZcO o.scheme w
 simp only[←s]at x
 have Q2:=D x
 obtain⟨r,F⟩:=Je (ZeA o)
 have Q:=D (show r=if b&&o.port==T then o.scheme++[58,47,47]++o.host else Zft o by rw[F,l,s];rfl)
 have X:=D (show b=true→_ from fun h=>ZiM (l.symm.trans h))
 rw[←F]
 clear F E l s x
 have e0:(Value.agg (ZB o).toArray)= .agg #[.string ⟨o.scheme.toArray⟩, .string ⟨o.host.toArray⟩, .int .i64 o.port]:=rfl
 rw[e0]
 go_in
 go_upto_region 1 with fail
 rw[←M.out]
 refine Jr [0,6,8,12,16,20,24,29,32,36] (fun W=>Zb W w.heap.size 0 (ZB o)) Z ?_
 refine JO (cs:=ZB o) q.out (fun W g=>g) ?_
 refine JL ?_
 simp only[Xu]
 go_wp2_with fail
 refine(R.out _ (G.upd0 (p.drewN 1))).mono ?_
 rintro e P ⟨rfl,z⟩
 have d:=D ((p.drewN 1).trans z)
 have a:=Kv z m
 have ae:=D a
 have K:=D (show Zb P w.heap.size 0 (ZB o)from Zb.of_block a)
 have J:=fun(W:World) (g:Env W)=>Zit o W hh g
 have I:=D J
 clear z J R
 go_wp2_with fail
 cases b with
 |false=>
  have n:=D (show r=Zft o by rw[Q.out];rfl)
  refine⟨fun _=>True,trivial,?_⟩
  repeat first|refine Jn ?_|refine Jf ?_|refine Ju ?_
  refine JE ?_
  go_wp2_with fail
  refine⟨_,fun _ h=>h,trivial,?_⟩
  repeat first|refine Jn ?_|refine Jf ?_|refine Ju ?_
  refine ZK ?_
  clear a
  exact Zfg
 |true=>
 obtain⟨aa,ad,ab,ac⟩:=X.out rfl
 have k:=Zf (i:=0) a rfl
 have S:=Zf (i:=1) a rfl
 have j:=Zf (i:=2) a rfl
 simp only[List.getElem_toArray,Xv,List.getElem_cons_succ]at k S j
 clear a
 refine⟨fun W=>W.cell? ⟨w.heap.size,0,none⟩=some (.string ⟨o.scheme.toArray⟩)∧W.cell? ⟨w.heap.size,2,none⟩=some (.int .i64 o.port),⟨k,j⟩,?_⟩
 repeat first|refine Jn ?_|refine Jf ?_|refine Ju ?_
 refine JE ?_
 go_wp2_with fail
 refine(Q2.out P).mono ?_
 rintro e wt ⟨rfl,N⟩
 rw[N];clear N wt
 go_wp2_with fail
 refine⟨_,fun _ h=>h,⟨k,j⟩,?_⟩
 repeat first|refine Jn ?_|refine Jf ?_|refine Ju ?_
 refine ZK ?_
 obtain⟨O,y⟩:=Je ((o.port==T))
 have L:=D (show r=if O then o.scheme++[58,47,47]++o.host else Zft o by rw[Q.out,y];simp)
 rw[←y]
 clear y j
 cases O with
 |true=>
  have Y:=D (show r=o.scheme++[58,47,47]++o.host by rw[L.out];rfl)
  have H:(⟨o.scheme.toArray⟩:ByteArray)++⟨#[58,47,47]⟩++⟨o.host.toArray⟩=⟨(o.scheme++[58,47,47]++o.host).toArray⟩:=by
   rw[show(⟨#[58,47,47]⟩:ByteArray)=⟨([58,47,47]:Bs).toArray⟩from rfl,Zak,Zak]
  have V:=D H
  clear H
  go_wp2_with fail
  go_ret
  refine⟨?_,d.out⟩
  rw[Y.out,←V.out];rfl
 |false=>
  have n:=D (show r=Zft o by rw[L.out];rfl)
  clear k S
  exact Zfg
def Zqg (c:Int) (w:World):
  Calls Tryz.prog 334 #[.int .i64 c] w fun e w'=>e= .returned (.int .i64 (Zok c))∧w'=w:=by
 go_in
 go_wp2
 go_ret
 exact⟨rfl,rfl⟩
def Zrt (c:Int):1≤Zok c∧Zok c≤6:=by unfold Zok;omega
def Zm1 (c:Int) (wt ag:Nat) (w:World) (h1:wt≤18446744073709551615) (h2:ag≤18446744073709551615):
  Calls Tryz.prog 284 #[.int .i64 c, .int .u64 wt, .int .u64 ag] w fun e w'=>e= .returned (.int .i64 (Zec c wt ag))∧∃n,w'=w.drewN n:=by
 have q:=Zrt c
 obtain⟨k,a⟩:=Je (Zok c)
 have b:=fun w=>Zqg c w
 simp only[←a]at b q
 obtain⟨m,h⟩:∃m:Nat,m=max ag 1:=⟨_,rfl⟩
 have y:max (ag:Int) 1=m:=by rw[h];omega
 have x:1≤m:=by omega
 obtain⟨d,hd⟩:∃d:Nat,d=min (wt/m) 6:=⟨_,rfl⟩
 have t:d≤6:=by omega
 have j:min ((wt:Int)/(m:Int)) 6=d:=by rw[hd];omega
 obtain⟨r,g⟩:=Je (Zec c wt ag)
 have s:=D (show r=max 1 (k-(d:Int))by rw[g,a,hd,h];rfl)
 rw[←g]
 have p:=D b
 have l:(wt:Int)/(m:Int)≤wt:=Int.ediv_le_self _ (by omega)
 have i:0≤(wt:Int)/(m:Int):=Int.ediv_nonneg (by omega) (by omega)
 have o:=D (show max 1 (wrap64 (k-wrap64 (min (IntKind.u64.wrap ((wt:Int)/(m:Int))) 6)))=r by
  rw[IntWalk.u64_in _ ⟨i,by omega⟩,j,s.out,IntWalk.wrap64_in (d:Int) (by omega),IntWalk.wrap64_in _ (by omega)])
 clear a h hd g b l i j
 go_in
 go_wp2_with fail
 go_quiet ((go_at_call 334;exact Calls.quiet_of_same (p.out _)))
 rw[o.out]
 go_wp2
 go_ret
 exact⟨rfl,_,rfl⟩
def ZH (i:ZL):List Value:=[.int .i64 i.id, .int .i64 i.cls, .int .u64 i.since, .string ⟨i.key.toArray⟩, .int .i64 i.pre]
def Zrb (a b:Nat) (h:b≤18446744073709551615):leftT a b≤18446744073709551615:=by unfold leftT;split<;>omega
def Zh5 (i:ZL) (now ag:Nat) (w:World) (h1:now≤18446744073709551615) (h2:ag≤18446744073709551615) (h3:i.since≤18446744073709551615):
  Calls Tryz.prog 216 #[.agg (ZH i).toArray, .int .u64 now, .int .u64 ag] w fun e w'=>e= .returned (.int .i64 (Zec i.cls (leftT i.since now) ag))∧Zg [] w w':=by
 obtain⟨t,ht⟩:=Je (leftT i.since now)
 have c:t≤18446744073709551615:=by rw[ht];exact Zrb _ _ h1
 have a:=fun w=>Zpf i.since now h1 w
 simp only[←ht]at a
 have b:=fun w=>Zm1 i.cls t ag w c h2
 rw[←ht]
 have d:=D a;have g:=D b
 clear a b ht h1 h2 h3 c
 show Calls _ _ #[.agg #[.int .i64 i.id, .int .i64 i.cls, .int .u64 i.since, .string ⟨i.key.toArray⟩, .int .i64 i.pre], .int .u64 now, .int .u64 ag] w _
 go_in
 go_wp2_with fail
 go_quiet ((first|(go_at_call 285;exact Calls.quiet_of_same (d.out _))|(go_at_call 284;exact Calls.quiet_of (g.out _))))
 go_wp2
 go_ret
 exact⟨rfl,((Zg.refl [] w).alloc _).drewN _⟩
def Zpk (a c:ZL) (now ag:Nat) (x y:Int) (hx:x=Zec a.cls (leftT a.since now) ag) (hy:y=Zec c.cls (leftT c.since now) ag):Zht a c now ag=(decide (x<y)||(x==y&&decide (a.id<c.id))):=by rw[hx,hy];rfl
def Zpp (i j:ZL) (now ag:Nat) (w:World) (h1:now≤18446744073709551615) (h2:ag≤18446744073709551615) (h3:i.since≤18446744073709551615) (h4:j.since≤18446744073709551615):
  Calls Tryz.prog 140 #[.agg (ZH i).toArray, .agg (ZH j).toArray, .int .u64 now, .int .u64 ag] w fun e w'=>e= .returned (.bool (Zht i j now ag))∧Zg [] w w':=by
 obtain⟨x,hx⟩:=Je (Zec i.cls (leftT i.since now) ag)
 obtain⟨y,E⟩:=Je (Zec j.cls (leftT j.since now) ag)
 obtain⟨r,F⟩:=Je (Zht i j now ag)
 have H:=D (F.trans (Zpk i j now ag x y hx E))
 have p:=fun w=>Zh5 i now ag w h1 h2 h3
 have o:=fun w=>Zh5 j now ag w h1 h2 h4
 simp only[←hx]at p
 simp only[←E]at o
 rw[←F]
 have Q:=D p;have P:=D o
 obtain⟨k,b⟩:=Je ((w.alloc (.cells (ZH i).toArray 144)).alloc (.cells (ZH j).toArray 144))
 have M:Zg [] w k:=by rw[b];exact((Zg.refl [] w).alloc _).alloc _
 have l:k.heap[w.heap.size]? =some (.cells (ZH i).toArray 144 (0,0)):=by rw[b,Zz _ (by simp)];exact Za _
 have C:k.heap[w.heap.size+1]? =some (.cells (ZH j).toArray 144 (0,0)):=by
  rw[b];have:=Za (w:=w.alloc (.cells (ZH i).toArray 144)) (.cells (ZH j).toArray 144);simpa using this
 have N:=D (show Zu Tryz.prog 144 5=true by kernel_rfl)
 clear p o hx E F h1 h2 h3 h4;change Hid _ at b M l C
 have G:∀i:ZL,(Value.agg (ZH i).toArray)= .agg #[.int .i64 i.id, .int .i64 i.cls, .int .u64 i.since, .string ⟨i.key.toArray⟩, .int .i64 i.pre]:=fun i=>rfl
 rw[G,G]
 clear G
 go_in
 go_upto_region 1 with fail
 have O:(w.alloc (.cells #[.int .i64 i.id, .int .i64 i.cls, .int .u64 i.since, .string ⟨i.key.toArray⟩, .int .i64 i.pre] 144)).alloc (.cells #[.int .i64 j.id, .int .i64 j.cls, .int .u64 j.since, .string ⟨j.key.toArray⟩, .int .i64 j.pre] 144)=k:=b.symm
 rw[O]
 clear O
 refine Jr [0,4,8,16,20,24,13,29,32,36] (fun W=>Zb W w.heap.size 0 (ZH i)∧Zb W (w.heap.size+1) 0 (ZH j)) ⟨Zb.of_block l,Zb.of_block C⟩ ?_
 refine JO (cs:=ZH i) N.out (fun W I=>I.1) ?_
 repeat first|refine Jn ?_|refine Jf ?_|refine Ju ?_
 refine JO (cs:=ZH j) N.out (fun W I=>I.2) ?_
 repeat first|refine Jn ?_|refine Jf ?_|refine Ju ?_
 refine JE ?_
 go_wp2_with fail
 refine(Q.out _).mono ?_
 rintro e V ⟨rfl,c⟩
 have R:=D ((M.drewN 1).trans c)
 have J:=D ((Kv c l))
 have K:=D ((Kv c C))
 clear c
 go_wp2_with fail
 refine⟨_,fun _ h=>h,⟨Zb.of_block J,Zb.of_block K⟩,?_⟩
 refine JE ?_
 go_wp2_with fail
 refine(P.out _).mono ?_
 rintro e T ⟨rfl,d⟩
 have s:=Jt R d
 have m:=Kv d J
 have n:=Kv d K
 have X:=Jc 0 m
 have Y:=Jc 0 n
 have S:=D (And.intro (Zb.of_block m) (Zb.of_block n))
 clear d m n
 go_wp2_with fail
 refine⟨_,fun _ h=>h,S.out,?_⟩
 repeat first|refine Jn ?_|refine Jf ?_|refine Ju ?_
 refine ZK ?_
 by_cases q:x<y
 ·have L:r=true:=by rw[H.out,decide_eq_true q];rfl
  have a:=D L;clear L
  go_wp2_with fail
  go_ret
  exact⟨by rw[a.out];rfl,s.out⟩
 ·by_cases g:x=y
  ·have z:(x==y)=true:=beq_iff_eq.2 g
   have a:r=decide (i.id<j.id):=by rw[H.out,decide_eq_false q,z];rfl
   clear g;change Hid _ at a
   go_wp2_with fail
   go_ret
   exact⟨by rw[a.out];rfl,s.out⟩
  ·have z:(x==y)=false:=beq_eq_false_iff_ne.2 g
   have a:r=false:=by rw[H.out,decide_eq_false q,z];rfl
   clear g;change Hid _ at a
   go_wp2_with fail
   go_ret
   exact⟨by rw[a.out];rfl,s.out⟩
def ZcJ (x:ZL):∀u∈ZH x,u.oneCell'=true:=by
 intro u a;simp only[ZH,List.mem_cons,List.not_mem_nil,or_false]at a;rcases a with rfl|rfl|rfl|rfl|rfl<;>rfl
def YB (b:Nat) (ag:Nat) (l:List ZL):YD:=Y2 b (fun v=> #[v, .int .u64 ag]) 184 144 5 (l.map ZH)
def ZP (b ag:Nat) (l:List ZL):(YB b ag l).Local:=Zaf _ _ _ _ _ _
def ZoR (x:ZL) (box:Nat) (id:Int) (W:World) (hc:W.cell? ⟨box,0,none⟩=some (.int .i64 id)):
  Calls Tryz.prog 218 #[.agg #[.int .i64 x.id, .int .i64 x.cls, .int .u64 x.since, .string ⟨x.key.toArray⟩, .int .i64 x.pre], .pointer (some ⟨box,0,none⟩)] W fun e w'=>e= .returned (.bool (x.id==id))∧Zg [] W w':=by
 have a:=Zay hc
 have b:box≠W.heap.size:=by omega
 go_in
 go_wp2
 go_ret
 exact⟨rfl,(Zg.refl _ _).alloc _⟩
def Zlj {ag:Nat} (h:YB b ag l w F) (id:Int):
  Calls Tryz.prog 142 #[.pointer (some ⟨b,0,none⟩), .int .i64 id] w fun e w'=>e= .returned (.int .i64 (Y5 (fun o=>o.id==id) l))∧Zg [] w w':=by
 obtain⟨v,G,rfl,C,q,c⟩:=h
 obtain⟨H,n,a,g⟩:=Kc w (.cells #[.int .i64 id] 3)
 have j:=Kv a q
 have y:=Zf (i:=0) j rfl
 simp only[List.getElem_toArray,Xv]at y
 have m:=(Zc _ _ _ _).upd c a
 have d:=Zod ZH (fun o=>o.id==id) 218 #[.pointer (some ⟨w.heap.size,0,none⟩)] m (enters_of Tryz.func218 (by kernel_rfl) rfl) (fun W x _ z=>ZoR x w.heap.size id W (by
  have:=Kv z g
  exact Zf (i:=0) this rfl))
 have p:=D d
 obtain⟨r,c⟩:=Je (Y5 (fun o=>o.id==id) l)
 rw[←c]at p⊢
 clear d g j m c q;change Hid _ at n a
 go_in
 go_upto_region 1 with fail
 rw[←n.out]
 go_wp2_with fail
 refine p.out.mono ?_
 rintro e E ⟨rfl,k⟩
 have s:=Jt a k
 clear k
 go_wp2_with fail
 go_ret
 exact⟨rfl,s.out⟩
def ZfD {l:List ZL} {ag:Nat} (h:YB b ag (l) w F) (hl:l.length≤1000000) (id:Int):
  Calls Tryz.prog 75 #[.pointer (some ⟨b,0,none⟩), .int .i64 id] w fun e w'=>e= .returned (.bool (l.findIdx? (fun o=>o.id==id)).isSome)∧∃F',YB b ag (dropQ l id) w' F'∧Zi w w' F F':=by
 have c:=Zlj h id
 have H:=D h
 cases hq:l.findIdx? (fun o=>o.id==id)with
 |none=>
  rw[Yi hq]at c
  have d:dropQ l id=l:=by unfold dropQ;rw[hq];try simp only[Z7]
  rw[d]
  have z:=D c
  clear hq c d h
  go_in
  go_wp2_with fail
  refine z.out.mono ?_
  rintro e w2 ⟨rfl,a⟩
  have n:=D a
  clear a
  go_wp2_with fail
  go_ret
  exact⟨rfl,F,(ZP _ _ _).upd H n,⟨n.weaken (by simp),fun k Y=> .inl Y⟩⟩
 |some i=>
  rw[YC hq]at c
  have L:=Yv hq
  have d:dropQ l id=l.eraseIdx i:=by unfold dropQ;rw[hq];try simp only[Z7]
  rw[d]
  have z:=D c
  obtain⟨v,G,K,J,O,y⟩:=h
  obtain⟨g,m,rfl⟩:∃g m,v= .slice (some ⟨g,0,none⟩) l.length m:=by
   rcases y.form with⟨_,Q,_⟩|⟨g,m,_,h1,_⟩
   ·rw[List.map_eq_nil_iff]at Q;subst Q;simp at L
   ·exact⟨g,m,by rw[h1,Xb]⟩
  have P:=D O;have M:=D y;have X:=D K;have I:=D J
  clear hq c d O y K J
  go_in
  go_wp2_with fail
  refine z.out.mono ?_
  rintro e w2 ⟨rfl,a⟩
  have n:=D a
  have s:=Kv a P
  have N:=Zf (i:=0) s rfl
  simp only[List.getElem_toArray,Xv,List.getElem_cons_succ]at N
  have E:=(Zc _ _ _ _).upd M a
  have hd:=ZoN.del (by rw[Xb];exact E) (Zde ZcJ l) (i:=i) (by rw[Xb];exact L)
  rw[Xb]at hd
  have HD:=D hd
  clear a E hd;change Hid _ at s
  go_wp2_with fail
  refine HD.out.mono ?_
  rintro e Z ⟨rfl,C,r⟩
  have p:G=[g]:=by obtain⟨_,_,h2,_⟩:=M.block;exact h2
  have q:b≠g:=fun e=>I.out (by rw[p,e];simp)
  have j:=(Kv r s (by simpa using q))
  have c3:=Jc 0 j
  have f3:=Kf 0 j
  have W:=D j;have S:=D C;have R:=D r;have V:=D q
  clear j C r q N;change Hid _ at p
  go_wp2_with fail
  go_ret
  obtain⟨g1,g2⟩:=ZbN (G:=G) (cs:=fun v=> #[v, .int .u64 ag]) (T:= 184) I (Jg P) (Zd (i:=0) W _) ((Zc _ _ _ _).upd S ((Zg.refl [b] Z).setCell (.inr (by simp)) _) (fun x hx=>by
    rw[Jm hx];simpa using V.symm))
   (((n.weaken (G:=b::G) (by simp)).trans R (fun x hx=> .inr (by rw[p.out];simp at hx;simp[hx]))).setCell (.inr (by simp)) _) (fun x hx=> .inl (by rw[p.out];exact hx))
  refine⟨rfl,_,?_,by rw[X.out];exact g2⟩
  unfold YB
  rw[←Y9]
  exact g1
def ZeW {P:Prop}(h:P:=by
 rw[a];clear a
 go_in
 go_upto_region 1 with fail
 rw[p.out]
 go_wp2_with fail
 go_ret
 exact⟨_,rfl,F,s.out⟩):P:=h
def ZgI {b ag:Nat} (h:YB b ag l w F) (hl:l.length≤1000000) (i:ZL):
  Calls Tryz.prog 120 #[.pointer (some ⟨b,0,none⟩), .agg (ZH i).toArray] w (Zir fun w'=>∃F',YB b ag (putQ l i) w' F'∧Zi w w' F F'):=by
 obtain⟨w1,HW,y,O⟩:=Kc w (.cells (ZH i).toArray 144)
 have k0:=Jc 0 O
 have k1:=Jc 1 O
 have h1:=(ZP _ _ _).upd h y
 have hq:=Zlj h1 i.id
 have s:=D (show YB b ag l w1 F∧Zi w w1 F F from⟨h1,y.weaken (by simp),fun k z=> .inl z⟩)
 have N:=D hq
 have av:=D ((ZP _ _ _).lt h)
 have aa:=D (show b<w.heap.size by have ar:=(ZP _ _ _).lt h;obtain⟨v,G,q,_⟩:=h;exact ar b (by rw[q];simp))
 clear hq h1 h;change Hid _ at HW O y
 have e0:Value.agg (ZH i).toArray= .agg #[.int .i64 i.id, .int .i64 i.cls, .int .u64 i.since, .string ⟨i.key.toArray⟩, .int .i64 i.pre]:=rfl
 have p:w.alloc (.cells #[.int .i64 i.id, .int .i64 i.cls, .int .u64 i.since, .string ⟨i.key.toArray⟩, .int .i64 i.pre] 144)=w1:=HW.symm
 rw[e0]
 clear e0;change Hid _ at p
 by_cases g1:i.id<1
 ·have a:putQ l i=l:=by unfold putQ;rw[if_pos (.inl g1)]
  exact ZeW
 by_cases Y:i.cls<1
 ·have a:putQ l i=l:=by unfold putQ;rw[if_pos (.inr (.inl Y))]
  exact ZeW
 by_cases g3:6<i.cls
 ·have a:putQ l i=l:=by unfold putQ;rw[if_pos (.inr (.inr g3))]
  exact ZeW
 have ab:¬(i.id<1∨i.cls<1∨6<i.cls):=by omega
 have P:decide (0≤Y5 (fun o:ZL=>o.id==i.id) l)=l.any fun o=>o.id==i.id:=Zc4 _ _
 obtain⟨r,j⟩:=Je (Y5 (fun o:ZL=>o.id==i.id) l)
 rw[←j]at N P
 have HA:=D P
 have Z:=D ab
 clear j P ab
 by_cases g4:0≤r
 ·have a:putQ l i=l:=by unfold putQ;rw[if_neg Z,if_pos (by rw[←HA.out];exact decide_eq_true g4)]
  rw[a];clear a
  go_in
  go_upto_region 1 with fail
  rw[p.out]
  go_wp2_with fail
  refine N.out.mono ?_
  rintro e d ⟨rfl,g⟩
  have M:=D (show YB b ag l d F∧Zi w d F F from⟨(ZP _ _ _).upd s.out.1 g,(y.trans g).weaken (by simp),fun k z=> .inl z⟩)
  clear g
  go_wp2_with fail
  go_ret
  exact⟨_,rfl,F,M.out⟩
 by_cases g5:128≤l.length
 ·have a:putQ l i=l:=by unfold putQ;rw[if_neg Z,if_neg (by rw[←HA.out];simp;omega),if_pos g5]
  rw[a];clear a
  go_in
  go_upto_region 1 with fail
  rw[p.out]
  go_wp2_with fail
  refine N.out.mono ?_
  rintro e d ⟨rfl,g⟩
  have M:=D (show YB b ag l d F∧Zi w d F F from⟨(ZP _ _ _).upd s.out.1 g,(y.trans g).weaken (by simp),fun k z=> .inl z⟩)
  obtain⟨v,G,q,K,n,j⟩:=M.out.1
  obtain⟨A,c,rfl,hc⟩:=j.form'
  rw[Xb]at hc n
  have C:=Zf (i:=0) n rfl
  simp only[List.getElem_toArray,Xv]at C
  clear g n j q K
  go_wp2_with fail
  go_ret
  exact⟨_,rfl,F,M.out⟩
 have a:putQ l i=l++[i]:=by unfold putQ;rw[if_neg Z,if_neg (by rw[←HA.out];simp;omega),if_neg g5]
 rw[a];clear a
 go_in
 go_upto_region 1 with fail
 rw[p.out]
 go_wp2_with fail
 refine N.out.mono ?_
 rintro e d ⟨rfl,g⟩
 have Q:=Jt y g
 have aq:=(ZP _ _ _).upd s.out.1 g
 obtain⟨v,G,q,K,n,j⟩:=aq
 obtain⟨A,c,rfl,hc⟩:=j.form'
 rw[Xb]at hc n j
 have C:=Zf (i:=0) n rfl
 simp only[List.getElem_toArray,Xv]at C
 have ak:=Kv g O
 have V:=D (show Zb d w.heap.size 0 (ZH i)from Zb.of_block ak)
 have HB:=D n;have HR:=D j;have aj:=D q;have X:=D K
 have ap:=D (show Zu Tryz.prog 144 5=true by kernel_rfl)
 clear g ak q K n j k0 k1
 go_upto_region 9 with fail
 refine Jr [0,4,8,12,16,20,25,29,32,36,42] (fun W=>W.cell? ⟨b,0,none⟩=some (.slice A l.length c)∧Zb W w.heap.size 0 (ZH i)) ⟨C,V.out⟩ ?_
 repeat first|refine Jn ?_|refine Jf ?_|refine Ju ?_
 refine JO (cs:=[.int .i64 i.id, .int .i64 i.cls, .int .u64 i.since, .string ⟨i.key.toArray⟩, .int .i64 i.pre]) ap.out (fun W E=>E.2) ?_
 refine JE ?_
 go_wp2_with fail
 obtain⟨w6,J⟩:=Je ((d.alloc (.cells #[.int .i64 i.id, .int .i64 i.cls, .int .u64 i.since, .string ⟨i.key.toArray⟩, .int .i64 i.pre] 144)).drew)
 rw[←J]
 have m:Zg [] d w6:=by rw[J];exact((Zg.refl [] d).alloc _).drew
 have S:=Kv m HB
 have ae:Zb w6 d.heap.size 0 (ZH i):=by rw[J];exact Zb.of_block (w:=d.alloc _) (Za _)
 have ac:=(Zc _ _ _ _).upd HR m
 have ad:=Jc 0 S
 have an:=D ac;have am:=D ae
 clear ac J ae C;change Hid _ at S m ad
 refine⟨fun W=>W.cell? ⟨b,0,none⟩=some (.slice A l.length c)∧Zb W w.heap.size 0 (ZH i),fun W E=>E,⟨ad,V.upd m⟩,?_⟩
 refine JE ?_
 refine Zm w6 rfl (.tmp 39) (.tmp 41) 182 rfl 144 Tryz.underlying182 ZnD rfl (by omega) (by omega) _ (l.map ZH) G rfl an d.heap.size 1 (ZH i) rfl am rfl (ZcJ i) (by rw[Xb];omega) ?_
 intro v' w7 G' R I ah
 obtain⟨A',c',e7,_⟩:=R.form'
 rw[Xd,Xb,List.length_singleton]at e7
 subst e7
 have L:=Kv I S X
 have c7:=Jc 0 L
 have f7:=Kf 0 L
 have ai:w.heap.size∉G:=by
  intro hm
  have:=av.out w.heap.size (by rw[aj.out];simp[hm])
  omega
 have au:=D R;have ao:=D I;have af:=D ah
 have al:=D ((V.upd m).upd I ai)
 clear R I ah ai;change Hid _ at L
 go_wp2_with fail
 refine⟨fun W=>W.cell? ⟨b,0,none⟩=some (.slice A l.length c)∧Zb W w.heap.size 0 (ZH i),fun W E=>E,⟨c7,al.out⟩,?_⟩
 repeat first|refine Jn ?_|refine Jf ?_|refine Ju ?_
 refine JL ?_
 go_wp2_with fail
 refine Jz ?_
 go_wp2_with fail
 go_ret
 obtain⟨g1,Y⟩:=ZbN (cs:=fun v=> #[v, .int .u64 ag]) (T:= 184) X aa (Zd (i:=0) L _) ((Zc _ _ _ _).upd au ((Zg.refl [b] w7).setCell (.inr (by simp)) _) (fun x hx hm=>by
   rw[Jm hm]at hx
   rcases af b hx with H|H
   ·exact X H
   ·have:=m.size;have:=Q.size;have:=aa.out;omega))
  ((((Q.trans m).weaken (G:=b::G) (by simp)).trans ao (fun x hx=> .inr (by simp[hx]))).setCell (.inr (by simp)) _) (fun x hx=>by
   rcases af x hx with H|H
   ·exact .inl H
   ·right;have:=m.size;have:=Q.size;omega)
 refine⟨_,rfl,_,?_,by rw[aj.out];exact Y⟩
 have e9:(l++[i]).map ZH=l.map ZH++[ZH i]:=by simp
 unfold YB
 rw[e9]
 exact g1
def ZN (h:Yp):List Value:=[.string ⟨h.key.toArray⟩, .int .i64 h.uses]
def ZaC (x:Yp):∀u∈ZN x,u.oneCell'=true:=by
 intro u a;simp only[ZN,List.mem_cons,List.not_mem_nil,or_false]at a;rcases a with rfl|rfl<;>rfl
def Ye (b:Nat) (l:List Yp):YD:=Y2 b (fun v=> #[v, .int .i64 32]) 284 360 2 (l.map ZN)
def Zx (b:Nat) (l:List Yp):(Ye b l).Local:=Zaf _ _ _ _ _ _
def Zke (x:Yp) (box:Nat) (key:Bs) (W:World) (hc:W.cell? ⟨box,0,none⟩=some (.string ⟨key.toArray⟩)):
  Calls Tryz.prog 323 #[.agg #[.string ⟨x.key.toArray⟩, .int .i64 x.uses], .pointer (some ⟨box,0,none⟩)] W fun e w'=>e= .returned (.bool (x.key==key))∧Zg [] W w':=by
 have a:=Zay hc
 have b:box≠W.heap.size:=by omega
 go_in
 go_wp2
 go_ret
 exact⟨rfl,(Zg.refl _ _).alloc _⟩
def ZaX (h:Ye b l w F) (key:Bs):
  Calls Tryz.prog 279 #[.pointer (some ⟨b,0,none⟩), .string ⟨key.toArray⟩] w fun e w'=>e= .returned (.int .i64 (Y5 (fun o=>o.key==key) l))∧Zg [] w w':=by
 obtain⟨v,G,rfl,C,q,c⟩:=h
 obtain⟨H,n,a,g⟩:=Kc w (.cells #[.string ⟨key.toArray⟩] 9)
 have j:=Kv a q
 have y:=Zf (i:=0) j rfl
 simp only[List.getElem_toArray,Xv]at y
 have m:=(Zc _ _ _ _).upd c a
 have d:=ZgS ZN (fun o=>o.key==key) 323 #[.pointer (some ⟨w.heap.size,0,none⟩)] m (enters_of Tryz.func323 (by kernel_rfl) rfl) (fun W x _ z=>Zke x w.heap.size key W (by
  have:=Kv z g
  exact Zf (i:=0) this rfl))
 have p:=D d
 obtain⟨r,c⟩:=Je (Y5 (fun o=>o.key==key) l)
 rw[←c]at p⊢
 clear d g j m c q;change Hid _ at n a
 go_in
 go_upto_region 1 with fail
 rw[←n.out]
 go_wp2_with fail
 refine p.out.mono ?_
 rintro e E ⟨rfl,k⟩
 have s:=Jt a k
 clear k
 go_wp2_with fail
 go_ret
 exact⟨rfl,s.out⟩
def Ziy (x:Yp) (W:World):
  Calls Tryz.prog 292 #[.agg #[.string ⟨x.key.toArray⟩, .int .i64 x.uses]] W fun e w'=>e= .returned (.bool (x.uses==0))∧Zg [] W w':=by
 go_in
 go_wp2
 go_ret
 exact⟨rfl,(Zg.refl _ _).alloc _⟩
def ZoL (h:Ye b l w F) (key:Bs):
  Calls Tryz.prog 228 #[.pointer (some ⟨b,0,none⟩), .string ⟨key.toArray⟩] w fun e w'=>e= .returned (.bool (ZaI l key).isSome)∧Zg [] w w':=by
 have a:=ZaX h key
 have c:decide (0≤Y5 (fun o:Yp=>o.key==key) l)=(ZaI l key).isSome:=by
  unfold Y5 ZaI;cases l.findIdx? (fun o=>o.key==key)<;>simp
 obtain⟨r,g⟩:=Je (Y5 (fun o:Yp=>o.key==key) l)
 rw[←g]at a c
 rw[←c]
 have j:=D a
 clear a h g c
 go_in
 go_wp2_with fail
 refine j.out.mono ?_
 rintro e k ⟨rfl,d⟩
 have i:=D d
 clear d
 go_wp2_with fail
 go_ret
 exact⟨rfl,i.out⟩
def Znv (h:Ye b l w F) (hl:l.length≤1000000) (hus:∀x∈l,0≤x.uses∧x.uses≤1000000) (key:Bs):
  Calls Tryz.prog 206 #[.pointer (some ⟨b,0,none⟩), .string ⟨key.toArray⟩] w (Zir fun w'=>Ye b (Zda l key) w' F∧Zg F w w'):=by
 have m:=ZaX h key
 have H:=D h
 cases hq:l.findIdx? (fun o:Yp=>o.key==key)with
 |none=>
  rw[Yi hq]at m
  have d:Zda l key=l:=by unfold Zda ZaI;rw[hq]
  rw[d]
  have y:=D m
  clear hq m d h hus
  go_in
  go_wp2_with fail
  refine y.out.mono ?_
  rintro e n ⟨rfl,a⟩
  have k:=D a
  clear a
  go_wp2_with fail
  go_ret
  exact⟨_,rfl,(Zx _ _).upd H k,k.weaken (by simp)⟩
 |some i=>
  rw[YC hq]at m
  have P:=Yv hq
  obtain⟨x,hx⟩:∃x,l[i]? =some x:=⟨_,Xa P⟩
  obtain⟨aa,ab⟩:=hus x (Xc hx)
  have y:=D m
  obtain⟨v,G,E,z,K,s⟩:=h
  obtain⟨g,r,rfl⟩:∃g r,v= .slice (some ⟨g,0,none⟩) l.length r:=by
   rcases s.form with⟨_,c,_⟩|⟨g,r,_,X,_⟩
   ·rw[List.map_eq_nil_iff]at c;subst c;simp at P
   ·exact⟨g,r,by rw[X,Xb]⟩
  have HX:=D hx
  have R:=D K;have I:=D s;have O:=D E;have N:=D z
  have q:(l.map ZN)[i]? =some (ZN x):=by rw[Xe,hx];rfl
  by_cases c:x.uses=0
  ·have d:Zda l key=l:=by unfold Zda ZaI;rw[hq];dsimp only;rw[hx];dsimp only;rw[if_pos c]
   rw[d]
   have W:(x.uses==0)=true:=by rw[c];rfl
   have t:=D q
   clear hq m d K s E z hus hx q c
   go_in
   go_wp2_with fail
   refine y.out.mono ?_
   rintro e n ⟨rfl,a⟩
   have k:=D a
   have M:=Kv a R
   have J:=Zf (i:=0) M rfl
   simp only[List.getElem_toArray,Xv]at J
   have p:=(Zc _ _ _ _).upd I a
   have Z:n.cell? ⟨g,i*2+1,none⟩=some (.int .i64 x.uses):=p.liesAt t 1 _ rfl
   clear a M p
   go_wp2_with fail
   go_ret
   exact⟨_,rfl,(Zx _ _).upd H k,k.weaken (by simp)⟩
  ·have d:Zda l key=l.set i ⟨x.key,x.uses-1⟩:=by unfold Zda ZaI;rw[hq];dsimp only;rw[hx];dsimp only;rw[if_neg c]
   rw[d]
   have W:(x.uses==0)=false:=beq_eq_false_iff_ne.2 c
   have t:=D q
   clear hq m d K s E z hus hx q c
   go_in
   go_wp2_with fail
   refine y.out.mono ?_
   rintro e n ⟨rfl,a⟩
   have k:=D a
   have C:=Kv a R
   have J:=Zf (i:=0) C rfl
   simp only[List.getElem_toArray,Xv]at J
   have p:=(Zc _ _ _ _).upd I a
   have Z:n.cell? ⟨g,i*2+1,none⟩=some (.int .i64 x.uses):=p.liesAt t 1 _ rfl
   obtain⟨L,ac⟩:=ZcY p t (j:=1) (by omega) (.int .i64 (x.uses-1))
   have S:l.length=(l.map ZN).length:=by rw[Xb]
   have HS:=D L
   clear a p L S;change Hid _ at C
   go_wp2_with fail
   go_ret
   have Q:G=[g]:=by obtain⟨_,_,Y,_⟩:=I.block;exact Y
   have T:b≠g:=fun e=>N.out (by rw[Q,e];simp)
   have V:Zg F n (n.setCell ⟨g,i*2+1,none⟩ (.int .i64 (x.uses-1))):=(Zg.refl F n).setCell (.inr (by rw[O.out,Q];simp)) _
   refine⟨_,rfl,⟨_,G,O.out,N.out,(Z4 _ (fun e=>T e.symm)).trans C,?_⟩,(k.weaken (by simp)).trans V (fun x hx=> .inr hx)⟩
   rw[List.map_set]
   exact HS.out
def ZbP {P:Program} {Q:Exit→Act→World→Prop} {ops:Array Oper} {i:Nat} {o:Oper} {S:World→Prop} {a a':Act} (ho:ops[i]? =some o) (hg:Region.wanted o (yielded ops a.tmps)=true) (t:TypeId) (x:Operand) (hop:o.op= .load t x) (b of:Nat) (cs:List Value)
  (hx:a.eval x= .pointer (some ⟨b,of,none⟩)) (ht:Zu P t cs.length=true) (hb:∀W,S W→Zb W b of cs) (ha:a.put o.dst (.agg cs.toArray)=a') (h:Z2 P ops Q r S a' w):Z2 P ops Q ((i,0)::r) S a w:=
 ZfN (v:= .agg cs.toArray) ho hg (fun W hW=>by
  unfold execOp
  simp only[hop,Sem.run_bind,Sem.run_pure,Result.andThen_ok,hx,Yg W ht (hb W hW)]) ha h
def Zbn:ZL:=⟨0,0,0,[],0⟩
def Zl0 (l:List ZL) (now ag:Nat) (shut:List Bs) {k:Nat} (h:l[k]? =some x):
  Zac (l.take (k+1)) now ag shut=if shut.contains x.key then Zac (l.take k) now ag shut else match Zac (l.take k) now ag shut with
   |none=>some x
   |some y=>if Zht x y now ag then some x else some y:=by
 rw[ZZ h]
 unfold Zac
 rw[List.foldl_append,List.foldl_cons,List.foldl_nil]
 generalize List.foldl _ none (l.take k)=z
 split
 ·rfl
 ·cases z<;>rfl
def ZmX {l:List ZL} {now ag:Nat} {shut:List Bs} (h:Zac (l.take k) now ag shut=some x):x∈l:=List.mem_of_mem_take (Y1 h)
def ZkU {b ag:Nat} (h:YB b ag l w F) (hl:l.length≤1000000) (now:Nat) (A:Option Addr) (c:Nat) (shut:List Bs) (hs:Y3 w A shut) (hsl:shut.length≤1000000)
  (hnow:now≤18446744073709551615) (hag:ag≤18446744073709551615) (hsi:∀i∈l,i.since≤18446744073709551615):
  Calls Tryz.prog 72 #[.pointer (some ⟨b,0,none⟩), .int .u64 now, .slice A shut.length c] w fun e w'=>e= .returned (.tuple #[.agg (ZH ((Zac l now ag shut).getD Zbn)).toArray, .bool (Zac l now ag shut).isSome])∧Zg [] w w':=by
 obtain⟨v,G,rfl,aL,hb,hr⟩:=h
 obtain⟨Aq,cq,rfl,aG,ak⟩:=hr.lies
 rw[Xb]at aG hb
 have c0:=Zf (i:=0) hb rfl
 have c1:=Zf (i:=1) hb rfl
 simp only[List.getElem_toArray,Xv,List.getElem_cons_succ]at c0 c1
 have a:=D (show Zu Tryz.prog 144 5=true by kernel_rfl)
 have HB:=D hb;have HL:=D ak;have HS:=D hs;have ar:=D hsi
 have aq:=D (Jg hb)
 have Y:=D (fun(W:World) (k:Bs) (hu:Zg [] w W)=>Zkz A c shut k (hs.upd hu) hsl)
 have ay:=D (fun(W:World) (i j:ZL) (h3:i.since≤18446744073709551615) (h4:j.since≤18446744073709551615)=>Zpp i j now ag W hnow hag h3 h4)
 clear hb hr ak hs hsi hnow hag hsl
 go_in
 go_upto_region 4 with fail
 obtain⟨T,M⟩:=Je ((w.alloc (.cells (ZH Zbn).toArray 144)).alloc (.cells (ZH Zbn).toArray 144))
 have af:Zg [] w T:=by rw[M];exact((Zg.refl [] w).alloc _).alloc _
 have an:T.heap[w.heap.size]? =some (.cells (ZH Zbn).toArray 144 (0,0)):=by rw[M,Zz _ (by simp)];exact Za _
 have am:T.heap[w.heap.size+1]? =some (.cells (ZH Zbn).toArray 144 (0,0)):=by
  rw[M];have:=Za (w:=w.alloc (.cells (ZH Zbn).toArray 144)) (.cells (ZH Zbn).toArray 144);simpa using this
 have N:(w.alloc (.cells #[.int .i64 0, .int .i64 0, .int .u64 0, .string ⟨#[]⟩, .int .i64 0] 144)).alloc (.cells #[.int .i64 0, .int .i64 0, .int .u64 0, .string ⟨#[]⟩, .int .i64 0] 144)=T:=M.symm
 rw[N]
 have K:=(af.block b aq (by simp)).trans HB.out
 have aF:=Jc 0 K
 clear M N K c0 c1;change Hid _ at af an am
 go_wp2
 go_loopw[9,21] (fun s9 s21 wr=>∃kk:Nat,kk≤l.length∧s21= .int .i64 kk∧s9= .bool (Zac (l.take kk) now ag shut).isSome∧Hid (Zg [] w wr∧wr.heap[w.heap.size]? =some (.cells (ZH Zbn).toArray 144 (0,0))∧wr.heap[w.heap.size+1]? =some (.cells (ZH ((Zac (l.take kk) now ag shut).getD Zbn)).toArray 144 (0,0)))) (fun _ s21 _=>l.length-(intOf s21).toNat)
 case atStart=>exact⟨0,Xn _,rfl,rfl,D ⟨af,an.out,am.out⟩⟩
 case round=>
  obtain⟨kk,aM,rfl,rfl,q⟩:=hrel
  obtain⟨g,C⟩:=Je (Zac (l.take kk) now ag shut)
  have au:=D C
  rw[←C]at q⊢
  clear aF
  by_cases aK:kk<l.length
  ·obtain⟨x,hx⟩:∃x,l[kk]? =some x:=⟨_,Xa aK⟩
   have av:=Xc hx
   have ae:=Zl0 l now ag shut hx
   rw[←C]at ae
   obtain⟨ab,rfl,ao⟩:=HL.out kk (ZH x) (by rw[Xe,hx];rfl)
   have aA:=D (ao.upd q.out.1)
   have ad:=D ae
   have aD:=D (ar.out x av)
   have aH:=D (show∀y,g=some y→y.since≤18446744073709551615 from fun y hy=>ar.out y (ZmX (C.symm.trans hy)))
   have K:=(q.out.1.block b aq (by simp)).trans HB.out
   obtain⟨O,S⟩:=Je ((wr.alloc (.cells (ZH Zbn).toArray 144)).setRow wr.heap.size (ZH x).toArray)
   have ap:=D (Za (w:=wr) (.cells #[.int .i64 0, .int .i64 0, .int .u64 0, .string ⟨#[]⟩, .int .i64 0] 144 (0,0)))
   have aa:=Kk S ap
   have L:=Kh S
   have d:=Kv L q.out.2.2
   have Q:=Kv L q.out.2.1
   have ac:=Kv L K
   have r:=D aa;have H:=D (q.out.1.trans L);have aE:=D ac
   have HO:=D (show(ZH x).toArray.all (·.oneCell')=true by rw[Xl,Xk];exact ZcJ x)
   have n:=Jc 3 aa
   have p:=Jc 1 ac
   clear hx av ao aa L ac K ae C;change Hid _ at S d Q
   obtain⟨aI,z⟩:=Je (shut.contains x.key)
   go_upto_region 7 with(first|refine Js aA a ?_|(refine Jo (ZH x).toArray ap a HO ?_;have N:(wr.alloc (.cells #[.int .i64 0, .int .i64 0, .int .u64 0, .string ⟨#[]⟩, .int .i64 0] 144)).setRow wr.heap.size (ZH x).toArray=O:=S.symm;rw[N];clear N))
   change Hid _ at z
   cases aI with
   |true=>
    have m:=D (show Zac (l.take (kk+1)) now ag shut=g by rw[ad.out,←z.out];rfl)
    refine Jr [0,4,8,13,16,20,24,28,32,36,40,44,48,52,56,60,64,68,72] (fun W=>W.cell? ⟨wr.heap.size,3,none⟩=some (.string ⟨x.key.toArray⟩)∧W.cell? ⟨b,1,none⟩=some (.int .u64 ag)∧Zb W wr.heap.size 0 (ZH x)∧Zb W (w.heap.size+1) 0 (ZH (g.getD Zbn))) ⟨n,p,Zb.of_block r,Zb.of_block d⟩ ?_
    repeat first|refine Jn ?_|refine Jf ?_|refine Ju ?_
    refine JE ?_
    simp only[Xu]
    go_wp2_with fail
    refine(Y.out _ x.key (H.drewN 1)).mono ?_
    rintro e P ⟨rfl,s⟩
    rw[s,←z.out];clear s P
    go_wp2_with fail
    refine⟨_,fun _ h=>h,⟨n,p,Zb.of_block r,Zb.of_block d⟩,?_⟩
    repeat first|refine Jn ?_|refine Jf ?_|refine Ju ?_
    refine ZK ?_
    clear p n
    go_wp2
    go_roundw
    case rel=>exact⟨kk+1,by omega,by go_num,by rw[m.out],D ⟨H.drewN _,Q.out,by rw[m.out];exact d⟩⟩
    case measure=>simp[intOf];omega
   |false=>
    cases g with
    |none=>
     have m:=D (show Zac (l.take (kk+1)) now ag shut=some x by rw[ad.out,←z.out];rfl)
     refine Jr [0,4,8,13,16,20,24,28,32,36,40,44,48,52,56,60,64,68,72] (fun W=>W.cell? ⟨wr.heap.size,3,none⟩=some (.string ⟨x.key.toArray⟩)∧W.cell? ⟨b,1,none⟩=some (.int .u64 ag)∧Zb W wr.heap.size 0 (ZH x)∧Zb W (w.heap.size+1) 0 (ZH (Zbn))) ⟨n,p,Zb.of_block r,Zb.of_block d⟩ ?_
     repeat first|refine Jn ?_|refine Jf ?_|refine Ju ?_
     refine JE ?_
     simp only[Xu]
     go_wp2_with fail
     refine(Y.out _ x.key (H.drewN 1)).mono ?_
     rintro e P ⟨rfl,s⟩
     rw[s,←z.out];clear s P
     go_wp2_with fail
     refine⟨_,fun _ h=>h,⟨n,p,Zb.of_block r,Zb.of_block d⟩,?_⟩
     repeat first|refine Jn ?_|refine Jf ?_|refine Ju ?_
     refine ZK ?_
     have ai:=D (show Zb (O.drewN 1) wr.heap.size 0 (ZH x)from Zb.of_block r)
     have E:=D (show(O.drewN 1).heap[w.heap.size+1]? =some (.cells (ZH Zbn).toArray 144 (0,0))from d.out)
     clear p n
     have Z:=D (show(O.drewN 1).heap[w.heap.size]? =some (.cells (ZH Zbn).toArray 144 (0,0))from Q.out)
     go_wp2_with(first|refine Jl ai a ?_|refine Jo (ZH x).toArray E a HO ?_)
     go_roundw
     case rel=>
      refine⟨kk+1,by omega,by go_num,by rw[m.out];rfl,D ⟨(H.drewN 1).setRow (.inl (by omega)) _,?_,?_⟩⟩
      ·rw[setRow_other _ _ _ _ (by omega)];exact Z.out
      ·rw[m.out];exact setRow_heap _ _ _ _ _ _ E.out
     case measure=>simp[intOf];omega
    |some y=>
     obtain⟨lt,X⟩:=Je (Zht x y now ag)
     have m:=D (show Zac (l.take (kk+1)) now ag shut=if lt then some x else some y by rw[ad.out,←z.out,X];rfl)
     have aj:=D (ay.out (O.drewN 1) x y aD (aH.out y rfl))
     rw[←X]at aj
     clear X
     refine Jr [0,4,8,13,16,20,24,28,32,36,40,44,48,52,56,60,65,68,72] (fun W=>W.cell? ⟨wr.heap.size,3,none⟩=some (.string ⟨x.key.toArray⟩)∧W.cell? ⟨b,1,none⟩=some (.int .u64 ag)∧Zb W wr.heap.size 0 (ZH x)∧Zb W (w.heap.size+1) 0 (ZH (y))) ⟨n,p,Zb.of_block r,Zb.of_block d⟩ ?_
     repeat first|refine Jn ?_|refine Jf ?_|refine Ju ?_
     refine JE ?_
     simp only[Xu]
     go_wp2_with fail
     refine(Y.out _ x.key (H.drewN 1)).mono ?_
     rintro e P ⟨rfl,s⟩
     rw[s,←z.out];clear s P
     go_wp2_with fail
     refine⟨_,fun _ h=>h,⟨n,p,Zb.of_block r,Zb.of_block d⟩,?_⟩
     repeat first|refine Jn ?_|refine Jf ?_|refine Ju ?_
     apply ZbP (t:= 144) (b:=wr.heap.size) (of:=0) (cs:=ZH x)
     case ho=>simp only[Xh,Xf,Xg];rfl
     case hg=>rfl
     case hop=>rfl
     case hx=>rfl
     case ht=>exact a.out
     case hb=>exact fun W hW=>hW.2.2.1
     case ha=>go_simp;rfl
     apply ZbP (t:= 144) (b:=w.heap.size+1) (of:=0) (cs:=ZH y)
     case ho=>simp only[Xh,Xf,Xg];rfl
     case hg=>rfl
     case hop=>rfl
     case hx=>rfl
     case ht=>exact a.out
     case hb=>exact fun W hW=>hW.2.2.2
     case ha=>go_simp;rfl
     repeat first|refine Jn ?_|refine Jf ?_|refine Ju ?_
     refine JE ?_
     go_wp2_with fail
     refine aj.out.mono ?_
     rintro e J ⟨rfl,I⟩
     have aw:=D ((H.drewN 1).trans I)
     have R:=Kv I r
     have V:=Kv I d
     have ah:=Kv I Q
     have al:=Kv I aE
     have ai:=D (show Zb J wr.heap.size 0 (ZH x)from Zb.of_block R)
     have E:=D (show J.heap[w.heap.size+1]? =some (.cells (ZH y).toArray 144 (0,0))from V)
     have aJ:=D (show J.cell? ⟨wr.heap.size,3,none⟩=some (.string ⟨x.key.toArray⟩)∧J.cell? ⟨b,1,none⟩=some (.int .u64 ag)∧Zb J wr.heap.size 0 (ZH x)∧Zb J (w.heap.size+1) 0 (ZH y)from⟨Zf R rfl,Zf (i:=1) al rfl,Zb.of_block R,Zb.of_block V⟩)
     clear I R V al;change Hid _ at ah
     go_wp2_with fail
     refine⟨_,fun _ h=>h,aJ.out,?_⟩
     repeat first|refine Jn ?_|refine Jf ?_|refine Ju ?_
     refine ZK ?_
     clear p n
     cases lt with
     |true=>
      have Z:=D (ah.out)
      go_wp2_with(first|refine Jl ai a ?_|refine Jo (ZH x).toArray E a HO ?_)
      go_roundw
      case rel=>
       refine⟨kk+1,by omega,by go_num,by rw[m.out];rfl,D ⟨aw.setRow (.inl (by omega)) _,?_,?_⟩⟩
       ·rw[setRow_other _ _ _ _ (by omega)];exact Z.out
       ·rw[m.out];exact setRow_heap _ _ _ _ _ _ E.out
      case measure=>simp[intOf];omega
     |false=>
      go_wp2
      go_roundw
      case rel=>exact⟨kk+1,by omega,by go_num,by rw[m.out];rfl,D ⟨aw,ah.out,by rw[m.out];exact E⟩⟩
      case measure=>simp[intOf];omega
  ·obtain rfl:kk=l.length:=by omega
   rw[Xm]at au
   clear C
   have aB:=D (show Zb wr (w.heap.size+1) 0 (ZH (g.getD Zbn))from Zb.of_block q.out.2.2)
   have ax:=D q.out.2.1
   have aC:=D (show(ZH (g.getD Zbn)).toArray.all (·.oneCell')=true by rw[Xl,Xk];exact ZcJ _)
   go_wp2_with(first|refine Jl aB a ?_|refine Jo (ZH (g.getD Zbn)).toArray ax a aC ?_)
   have az:=setRow_heap wr w.heap.size (ZH Zbn).toArray (ZH (g.getD Zbn)).toArray 144 (0,0) ax.out
   refine bodyPost_ret (v:= .tuple #[.agg (ZH (g.getD Zbn)).toArray, .bool g.isSome]) ?_ ?_ ?_
   ·exact Zj _ (x:=6) (t:= 144) (y:=7) (b:=w.heap.size) (o:=0) rfl rfl rfl a (Zb.of_block az)
   ·rfl
   ·exact⟨by rw[au.out],q.out.1.setRow (.inl (Xi _)) _⟩
end Go.Proofs.YtlhapbopmplngaaGreatDoor
