import Derived.Test.YtlhapbopmplngaaGreatDoorS24
import Derived.Test.YtlhapbopmplngaaGreatDoorS25
set_option linter.all false
set_option maxHeartbeats 16000000
set_option maxRecDepth 100000
set_option autoImplicit true
set_option relaxedAutoImplicit true
namespace Go.Lk
def ZcM (l:List (Bs×Bs)):List Bs:=(l.filter fun h=> !ZdD h).map fun h=>Yu h.1
def ZdF (l:List (Bs×Bs)):List Bs:=(l.filter ZdD).map fun h=>Yu h.1
def Zi6 (l:List (Bs×Bs)):Nat:=((l.filter ZdD).map fun h=>(YL h.2).length).sum
def ZiL (l:List (Bs×Bs)):Zdn l=ZO (ZbB (if 1024<Zi6 l then ZcM l++ZdF l else ZcM l)):=rfl
def Zm8 {l:List (Bs×Bs)} {k:Nat} {x:Bs×Bs} (h:l[k]? =some x):
  ZcM (l.take (k+1))=(if ZdD x then ZcM (l.take k)else ZcM (l.take k)++[Yu x.1])∧ZdF (l.take (k+1))=(if ZdD x then ZdF (l.take k)++[Yu x.1]else ZdF (l.take k))∧Zi6 (l.take (k+1))=if ZdD x then Zi6 (l.take k)+(YL x.2).length else Zi6 (l.take k):=by
 obtain⟨a,hx⟩:=List.getElem?_eq_some_iff.1 h
 have e:l.take (k+1)=l.take k++[x]:=by rw[Xr a,hx]
 unfold ZcM ZdF Zi6
 rw[e,List.filter_append,List.filter_append]
 cases hs:ZdD x<;>simp[hs]
def ZrB {l:List (Bs×Bs)} (hf:∀x∈l,x.2.length≤900000):Zi6 l≤900000*l.length:=by
 induction l with
 |nil=>exact Xi _
 |cons a l ih=>
  have b:=ih (fun x hx=>hf x (by simp[hx]))
  have c:=hf a (by simp)
  have d:=Zav a.2
  unfold Zi6 at b⊢
  rw[List.filter_cons,List.length_cons]
  split
  ·rw[List.map_cons,List.sum_cons];omega
  ·omega
end Go.Lk
namespace Go.Proofs.YtlhapbopmplngaaGreatDoor
open Go.RowKit Go.Lk
def Zh7 (l:List (Bs×Bs)) (A:Option Addr) (c:Nat) (w:World) (hA:Zas w A l) (hl:l.length≤100000) (hf:Zd9 l) (hE:Env w):
  Calls Tryz.prog 180 #[.slice A l.length c] w (Zdi w (Zdn l)):=by
 have HA:=D hA;have HF:=D hf;have HE:=D hE
 have aA:=D ZhH
 clear hA hf hE
 obtain⟨R,hR⟩:=Je (Zdn l)
 have a6:=D (hR.trans (ZiL l))
 rw[←hR]
 clear hR
 go_in
 go_wp2_with fail
 go_loopw[10,3,4,5,7] (fun v10 v3 v4 v5 _ wr=>∃(k:Nat) (MO MS:List Nat) (S:Nat),k≤l.length∧v10= .int .i64 k∧v5= .int .i64 (S:Nat)∧S≤900000000000∧Hid (S=Zi6 (l.take k))∧Hid (Z9 v3 (ZcM (l.take k)) wr MO)∧Hid (Z9 v4 (ZdF (l.take k)) wr MS)∧Hid (∀q∈MO,w.heap.size≤q∧q∉MS)∧Hid (∀q∈MS,w.heap.size≤q)∧Hid (Zg [] w wr)) (fun v10 _ _ _ _ _=>l.length-(intOf v10).toNat)
 case atStart=>exact⟨0,[],[],0,Xn _,rfl,rfl,by omega,D rfl,D (ZA _ _ _),D (ZA _ _ _),D (by simp),D (by simp),D (Zg.refl [] w)⟩
 case round=>
  obtain⟨k,MO,MS,S,hk,rfl,rfl,hS,T,HO,HS,j,ar,HU⟩:=hrel
  by_cases a9:k<l.length
  ·obtain⟨x,hx⟩:∃x,l[k]? =some x:=⟨_,Xa a9⟩
   obtain⟨ab,ao,rfl,aX⟩:=HA.out k x hx
   have aZ:=D (aX.upd HU)
   obtain⟨a0,a2⟩:=HF.out x (Xc hx)
   have aI:=Za (w:=wr) (.cells #[.string ⟨#[]⟩, .string ⟨#[]⟩] 260 (0,0))
   have HZ:=D aI
   obtain⟨W1,al⟩:=Je ((wr.alloc (.cells #[.string ⟨#[]⟩, .string ⟨#[]⟩] 260 (0,0))).setRow wr.heap.size (ZcD x).toArray)
   have az:=Kk al aI
   have aj:=Kh al
   have ba:=D (show Zb W1 wr.heap.size 0 (ZcD x)from Zb.of_block az)
   have a7:=D (show(ZcD x).toArray.all (·.oneCell')=true by rw[Xl,Xk];exact ZeO x)
   have aR:=Jt HU aj
   have N:=D ((Zl _ _).upd HO aj);have an:=D ((Zl _ _).upd HS aj)
   have q:=ZlV x W1 a0 a2 (HE.upd0 (aR.out))
   have ax:=Zm8 hx
   obtain⟨b,hb⟩:=Je (ZdD x)
   rw[←hb]at q ax
   have HQ:=D q;have i:=D ax
   have a3:=D (show Zi6 (l.take (k+1))≤900000000000 by
    have h1:=ZrB (l:=l.take (k+1)) (fun x hx=>(HF.out x (List.mem_of_mem_take hx)).2)
    have h2:(l.take (k+1)).length≤100000:=by rw[List.length_take];omega
    omega)
   clear hx aX aI aj q hb ax HO HS;change Hid _ at al az
   go_wp2_with(first|refine Js aZ aA ?_|(refine Jo (ZcD x).toArray HZ aA a7 ?_;rw[←al.out])|refine Js ba aA ?_)
   refine HQ.out.mono ?_
   rintro e W2 ⟨rfl,ac⟩
   have aV:=Jt aR ac
   have aN:=D ((Zl _ _).upd N ac);have aP:=D ((Zl _ _).upd an ac)
   have ai:=Kv ac az
   obtain⟨vb,aO⟩:=Je wr.heap.size
   rw[←aO]at ai⊢
   have c0:=Jc 0 ai
   have c1:=Jc 1 ai
   clear ac ai aO HQ
   cases b with
   |false=>
    obtain⟨o,F⟩:=Je (Yu x.1)
    rw[←F]at i
    have E:=YF x.1 W2 (by omega)
    rw[←F]at E
    have W:=D E
    clear E F
    go_wp2_with fail
    refine W.out.mono ?_
    rintro e K ⟨rfl,m⟩
    have ad:=Jt aV m
    have av:=D ((Zl _ _).upd aN m);have aD:=D ((Zl _ _).upd aP m)
    clear m W
    obtain⟨w4,I,d⟩:=Kb K (.cells #[.string ⟨o.toArray⟩] 9)
    have aJ:=D (show Zb w4 K.heap.size 0 (Za8 o)by rw[I];exact Zb.of_block (Za _))
    have P:=D ((Zl _ _).upd av d);have O:=D ((Zl _ _).upd aD d)
    have aL:=Jt ad d;have aw:=D I
    have s43:=d.size
    have s30:=ad.size
    obtain⟨AO,a5,rfl,_,_⟩:=P.strs
    obtain⟨n,g⟩:=Je ((ZcM (l.take k)).length)
    rw[←g]at P
    have ak:n≤1000000:=by rw[g];unfold ZcM;rw[Xb];exact Xj (Xq _ _) (by rw[List.length_take];omega)
    have aE:=D g
    rw[←g]
    clear d I g
    go_wp2_with(rw[←aw.out];refine Zm w4 rfl (.tmp 28) (.tmp 32) 142 rfl 9 Tryz.underlying142 ZbA rfl (by omega) (by omega) (.slice AO n a5) ((ZcM (l.take k)).map Za8) MO rfl P K.heap.size 1 (Za8 o) rfl aJ rfl (Zcg o) (by rw[Xb,←aE.out];omega) ?_;intro v' w7 p y C s;have ah:=D y;have H:=D C;have M:=D s;clear y C s)
    exact⟨⟨k+1,p,MS,S,by omega,by go_num,rfl,hS,D (by rw[i.out.2.2,T.out];rfl),D (by rw[i.out.1];unfold Z9;rw[if_neg (by simp),Xs];exact ah),D (by rw[i.out.2.1];exact(Zl _ _).upd O H (fun q a L=>(j.out q L).2 a)),D (fun q a=>by
     rcases M q a with h|h
     ·exact j q h
     ·exact⟨by omega,fun L=>by have:=(Zl _ _).lt O q L;omega⟩),ar,D (((aL.weaken (G:=MO) (by simp)).trans H (fun q a=> .inr a)).weaken (fun q a=> .inl (j.out q a).1))⟩,by simp[intOf];omega⟩
   |true=>
    obtain⟨tv,aF⟩:=Je (YL x.2)
    have bb:tv.length≤900000:=by rw[aF];have:=Zav x.2;omega
    have aB:=ZaR x.2 W2 (by omega)
    rw[←aF]at aB i
    have aY:=D aB
    clear aB aF
    go_wp2_with fail
    refine aY.out.mono ?_
    rintro e wt ⟨rfl,aS⟩
    rw[aS];clear aS wt aY
    have a1:S+tv.length≤900000000000:=by have h:=a3.out;rw[i.out.2.2,←T.out]at h;exact h
    obtain⟨o,F⟩:=Je (Yu x.1)
    rw[←F]at i
    have E:=YF x.1 W2 (by omega)
    rw[←F]at E
    have W:=D E
    clear E F
    go_wp2_with fail
    refine W.out.mono ?_
    rintro e K ⟨rfl,m⟩
    have ad:=Jt aV m
    have av:=D ((Zl _ _).upd aN m);have aD:=D ((Zl _ _).upd aP m)
    clear m W
    obtain⟨w4,I,d⟩:=Kb K (.cells #[.string ⟨o.toArray⟩] 9)
    have aJ:=D (show Zb w4 K.heap.size 0 (Za8 o)by rw[I];exact Zb.of_block (Za _))
    have P:=D ((Zl _ _).upd av d);have O:=D ((Zl _ _).upd aD d)
    have aL:=Jt ad d;have aw:=D I
    have s43:=d.size
    have s30:=ad.size
    obtain⟨AS,a8,rfl,_,_⟩:=O.strs
    obtain⟨n,g⟩:=Je ((ZdF (l.take k)).length)
    rw[←g]at O
    have ak:n≤1000000:=by rw[g];unfold ZdF;rw[Xb];exact Xj (Xq _ _) (by rw[List.length_take];omega)
    have aE:=D g
    rw[←g]
    clear d I g
    go_wp2_with(rw[←aw.out];refine Zm w4 rfl (.tmp 22) (.tmp 26) 142 rfl 9 Tryz.underlying142 ZbA rfl (by omega) (by omega) (.slice AS n a8) ((ZdF (l.take k)).map Za8) MS rfl O K.heap.size 1 (Za8 o) rfl aJ rfl (Zcg o) (by rw[Xb,←aE.out];omega) ?_;intro v' w7 p y C s;have ah:=D y;have H:=D C;have M:=D s;clear y C s)
    exact⟨⟨k+1,MO,p,S+tv.length,by omega,by go_num,by go_num,a1,D (by rw[i.out.2.2,T.out];rfl),D (by rw[i.out.1];exact(Zl _ _).upd P H (fun q a L=>(j.out q a).2 L)),D (by rw[i.out.2.1];unfold Z9;rw[if_pos trivial,Xs];exact ah),D (fun q a=>⟨(j.out q a).1,fun L=>by
     rcases M q L with h|h
     ·exact(j.out q a).2 h
     ·have:=(Zl _ _).lt P q a;omega⟩),D (fun q a=>by
     rcases M q a with h|h
     ·exact ar q h
     ·omega),D (((aL.weaken (G:=MS) (by simp)).trans H (fun q a=> .inr a)).weaken (fun q a=> .inl (ar.out q a)))⟩,by simp[intOf];omega⟩
  ·obtain rfl:k=l.length:=by omega
   have aq:=T.out;have ho:=HO.out;have hs:=HS.out
   rw[Xm]at aq ho hs
   have ap:=D (show R=ZO (ZbB (if 1024<S then ZcM l++ZdF l else ZcM l))by rw[a6.out,←aq])
   have ak:(ZcM l).length≤100000:=by unfold ZcM;rw[Xb];exact Xj (Xq _ _) hl
   have aT:(ZdF l).length≤100000:=by unfold ZdF;rw[Xb];exact Xj (Xq _ _) hl
   obtain⟨r,aQ⟩:=Je (ZcM l)
   obtain⟨Q,aW⟩:=Je (ZdF l)
   rw[←aQ]at ho ak ap
   rw[←aW]at hs aT ap
   obtain⟨AO,cO,rfl,_,_⟩:=ho.strs
   obtain⟨AS,cS,rfl,_,_⟩:=hs.strs
   have N:=D ho;have an:=D hs
   clear aq ho hs aQ aW HO HS T
   obtain⟨on,af⟩:=Je r.length
   obtain⟨sn,am⟩:=Je Q.length
   rw[←af]at N ak⊢
   rw[←am]at an aT⊢
   change Hid _ at af am
   by_cases hz:1024<S
   ·have a4:(1024:Int)<(S:Int):=by omega
    have aK:=D (show R=ZO (ZbB (r++Q))by rw[ap.out,if_pos hz])
    clear hz
    go_upto_region 13 with(refine Zdg wr rfl (.tmp 37) (.tmp 38) 142 rfl 9 Tryz.underlying142 ZbA rfl (by omega) (by omega) (.slice AO on cO) (r.map Za8) MO rfl N (.slice AS sn cS) (Q.map Za8) MS rfl an (fun c hc u hu=>by obtain⟨z,_,rfl⟩:=List.mem_map.1 hc;exact Zcg z u hu) (by rw[Xb,Xb,←af.out,←am.out];omega) ?_;intro v' w7 p y C s;have ah:=D y;have H:=D C;have M:=D s;clear y C s)
    have au:=D (((HU.weaken (G:=MO) (by simp)).trans H (fun q a=> .inr a)).weaken (G:=[]) (fun q a=> .inl (j.out q a).1))
    have J:=D (show∀q∈p,w.heap.size≤q from fun q a=>by
     rcases M q a with h|h
     ·exact(j.out q h).1
     ·have:=HU.size;omega)
    have ay:=D (show Z9 v' (r++Q) w7 p by unfold Z9;rw[Xs];exact ah)
    have V:(r++Q).length≤1000000:=by rw[Xd,←af.out,←am.out];omega
    have Y:=D (ZjC ay V)
    go_wp2_with fail
    refine Y.out.mono ?_
    rintro e w8 ⟨rfl,Z,aa⟩
    have aM:(ZbB (r++Q)).length≤1000000:=by unfold ZbB;rw[List.length_mergeSort];exact V
    have X:=D (Zf7 Z aM)
    have aG:=D (((au.weaken (G:=p) (by simp)).trans aa (fun q a=> .inr a)).weaken (G:=[]) (fun q a=> .inl (J.out q a)))
    clear aa Z Y
    go_wp2_with fail
    refine X.out.mono ?_
    rintro e w9 ⟨v9,rfl,ag,ae⟩
    have aC:=D ag
    have aH:=D (((aG.weaken (G:=p) (by simp)).trans ae (fun q a=> .inr a)).weaken (G:=[]) (fun q a=> .inl (J.out q a)))
    clear ae ag X
    go_wp2_with fail
    go_ret
    exact⟨_,p,rfl,by rw[aK.out];exact aC,J.out,aH.out⟩
   ·have a4:¬(1024:Int)<(S:Int):=by omega
    have aK:=D (show R=ZO (ZbB r)by rw[ap.out,if_neg hz])
    clear hz
    obtain⟨v',aU⟩:=Je (Value.slice AO on cO)
    rw[←aU]at N⊢
    have au:=HU
    have J:=D (show∀q∈MO,w.heap.size≤q from fun q a=>(j.out q a).1)
    have ay:=N
    have V:r.length≤1000000:=by rw[←af.out];omega
    have Y:=D (ZjC ay V)
    clear aU
    go_wp2_with fail
    refine Y.out.mono ?_
    rintro e w8 ⟨rfl,Z,aa⟩
    have aM:(ZbB r).length≤1000000:=by unfold ZbB;rw[List.length_mergeSort];exact V
    have X:=D (Zf7 Z aM)
    have aG:=D (((au.weaken (G:=MO) (by simp)).trans aa (fun q a=> .inr a)).weaken (G:=[]) (fun q a=> .inl (J.out q a)))
    clear aa Z Y
    go_wp2_with fail
    refine X.out.mono ?_
    rintro e w9 ⟨v9,rfl,ag,ae⟩
    have aC:=D ag
    have aH:=D (((aG.weaken (G:=MO) (by simp)).trans ae (fun q a=> .inr a)).weaken (G:=[]) (fun q a=> .inl (J.out q a)))
    clear ae ag X
    go_wp2_with fail
    go_ret
    exact⟨_,MO,rfl,by rw[aK.out];exact aC,J.out,aH.out⟩
end Go.Proofs.YtlhapbopmplngaaGreatDoor
namespace Go.Lk
open Go.RowKit
def Zt (r:Ya) (vh:Value):List Value:=
 [.string ⟨r.method.toArray⟩, .string ⟨r.url.toArray⟩, .string ⟨r.origin.toArray⟩, .int .i64 r.mode, .bool r.creds,vh, .int .i64 r.cls, .int .u64 r.timeout, .int .i64 r.group, .int .i64 r.signal]
end Go.Lk
namespace Go.Proofs.YtlhapbopmplngaaGreatDoor
open Go.RowKit Go.Lk
structure Za5 (w:World) (r:Ya) (vh:Value):Prop where
 m:r.method.length≤900000
 u:r.url.length≤900000
 o:r.origin.length≤900000
 n:r.headers.length≤100000
 few:Zd9 r.headers
 at_:∃A c,vh= .slice A r.headers.length c∧Zas w A r.headers
def Za5.upd0 (h:Za5 w r vh) (hu:Zg [] w w'):Za5 w' r vh:=
 ⟨h.m,h.u,h.o,h.n,h.few,by obtain⟨A,c,h1,h2⟩:=h.at_;exact⟨A,c,h1,h2.upd0 hu⟩⟩
def ZmG (m:Int) (w:World):
  Calls Tryz.prog 178 #[.int .i64 m] w fun e w'=>e= .returned (.bool (m==1||m==2||m==3))∧w'=w:=by
 obtain⟨r,a⟩:=Je ((m==1||m==2||m==3))
 have b:=D a
 rw[←a]
 clear a
 go_in
 go_wp2_with fail
 all_goals
  go_ret
  exact⟨by rw[b.out];first|rfl|simp[*],rfl⟩
def ZjO (r:Ya) (vh:Value) (w:World) (h:Za5 w r vh) (hE:Env w):
  Calls Tryz.prog 100 #[.agg (Zt r vh).toArray] w fun e w'=>e= .returned (.bool (Zfu r))∧Zg [] w w':=by
 obtain⟨R,s⟩:=Je (Zfu r)
 obtain⟨L,o⟩:=Je (ZfO r.method)
 obtain⟨j,d⟩:=Je (Zdn r.headers)
 have J:=D (show R=(L&&j.length==0)by rw[s,o,d];rfl)
 rw[←s]
 obtain⟨O,y,b,l⟩:=Kc w (.cells (Zt r vh).toArray 35)
 have T:=Jc 0 l
 have p:=ZeC r.method O (by have:=h.m;omega)
 rw[←o]at p
 have I:∀W,Zg [] O W→Calls Tryz.prog 180 #[vh] W (Zdi W j):=fun W N=>by
  obtain⟨A,c,rfl,V⟩:=((h.upd0 b).upd0 N).at_
  rw[d];exact Zh7 r.headers A c W V h.n h.few (hE.upd0 (b.trans N))
 have M:=D p;have S:=D I
 have X:=D (show j.length≤1000000 by
  rw[d,ZiL]
  refine Xj (Zd3 _) ?_
  unfold ZbB
  rw[List.length_mergeSort]
  have aa:(ZcM r.headers).length≤100000:=by unfold ZcM;rw[Xb];exact Xj (Xq _ _) h.n
  have Y:(ZdF r.headers).length≤100000:=by unfold ZdF;rw[Xb];exact Xj (Xq _ _) h.n
  split
  ·rw[Xd];omega
  ·omega)
 clear p I s o d h hE;change Hid _ at b y l
 go_in
 go_upto_region 1 with fail
 rw[←y.out]
 go_wp2_with fail
 refine M.out.mono ?_
 rintro e H ⟨rfl,g⟩
 have P:=D g;have F:=Jt b g
 have x:=Kv g l
 have c5:H.cell? ⟨w.heap.size,5,none⟩=some vh:=Zf (i:=5) x rfl
 clear g x M T
 cases L with
 |false=>
  have a:=D (show R=false by rw[J.out];rfl)
  go_wp2_with fail
  go_ret
  exact⟨by rw[a.out];rfl,F.out⟩
 |true=>
 go_wp2_with fail
 refine(S.out H P).mono ?_
 rintro e w3 ⟨v3,M3,rfl,z,_,C⟩
 have E:=Jt F C
 obtain⟨A3,c3,rfl,_,_⟩:=z.strs
 obtain⟨n,q⟩:=Je j.length
 have a:=D (show R=(n==0)by rw[J.out,q];rfl)
 rw[←q]
 clear z C q
 cases n with
 |zero=>
  go_wp2_with fail
  go_ret
  exact⟨by rw[a.out];rfl,E.out⟩
 |succ n=>
  have K:¬((n+1:Nat):Int)=0:=by omega
  have Q:=D (show R=false by rw[a.out];rfl)
  obtain⟨k,G⟩:=Je (n+1)
  rw[←G]at K⊢
  clear G a
  have Z:((k:Int)==0)=false:=by rw[beq_eq_false_iff_ne];exact K
  go_wp2_with fail
  go_ret
  exact⟨by rw[Q.out];first|rfl|simp[*],E.out⟩
end Go.Proofs.YtlhapbopmplngaaGreatDoor
namespace Go.Lk
def Zne (r:Ya):ZbI r=if Zcx r.method !=0 then Zcx r.method
 else if !(r.mode==1||r.mode==2||r.mode==3)then 7
 else if ZbW r.headers !=0 then ZbW r.headers
 else if r.cls<1∨6<r.cls then 8
 else if 600<r.timeout then 9
 else if r.group<0∨r.signal<0 then 2
 else 0:=rfl
end Go.Lk
namespace Go.Proofs.YtlhapbopmplngaaGreatDoor
open Go.RowKit Go.Lk
def Znl (r:Ya) (vh:Value) (w:World) (h:Za5 w r vh) (hE:Env w):
  Calls Tryz.prog 99 #[.agg (Zt r vh).toArray] w fun e w'=>e= .returned (.int .i64 (ZbI r))∧Zg [] w w':=by
 obtain⟨R,M⟩:=Je (ZbI r)
 obtain⟨p,s⟩:=Je (Zcx r.method)
 obtain⟨b,y⟩:=Je (ZbW r.headers)
 obtain⟨o,q⟩:=Je ((r.mode==1||r.mode==2||r.mode==3))
 have L:=D (show R=if p !=0 then p else if !o then 7 else if b !=0 then b
  else if r.cls<1∨6<r.cls then 8 else if 600<r.timeout then 9 else if r.group<0∨r.signal<0 then 2 else 0 by rw[M,s,y,q];exact Zne r)
 rw[←M]
 obtain⟨w1,N,z,x⟩:=Kc w (.cells (Zt r vh).toArray 35)
 have c0:=Jc 0 x
 have J:=Zj5 r.method w1 (by have:=h.m;omega)
 rw[←s]at J
 have Y:∀W,Calls Tryz.prog 178 #[.int .i64 r.mode] W fun e w'=>e= .returned (.bool o)∧w'=W:=fun W=>by rw[q];exact ZmG r.mode W
 have S:∀W,Zg [] w1 W→Calls Tryz.prog 80 #[vh] W fun e w'=>e= .returned (.int .i64 b)∧Zg [] W w':=fun W hW=>by
  obtain⟨A,c,rfl,hA⟩:=((h.upd0 z).upd0 hW).at_
  rw[y];exact ZfX r.headers A c W hA (by have:=h.n;omega) h.few
 have V:=D J;have Q:=D Y;have P:=D S
 clear J S Y M s y q h hE;change Hid _ at z N x
 go_in
 go_upto_region 1 with fail
 rw[←N.out]
 go_wp2_with fail
 refine V.out.mono ?_
 rintro e K ⟨rfl,l⟩
 have aa:=D l;have I:=Jt z l
 have j:=Kv l x
 have c3:=Jc 3 j
 have c5:K.cell? ⟨w.heap.size,5,none⟩=some vh:=Zf (i:=5) j rfl
 clear l V c0;change Hid _ at j
 by_cases T:p=0
 case neg=>
  have a:=D (show R=p by rw[L.out,if_pos (by simpa using T)])
  go_wp2_with fail
  go_ret
  exact⟨by rw[a.out];rfl,I.out⟩
 subst T
 have E:=D (show R=if !o then 7 else if b !=0 then b else if r.cls<1∨6<r.cls then 8 else if 600<r.timeout then 9 else if r.group<0∨r.signal<0 then 2 else 0 by rw[L.out];rfl)
 clear L
 go_wp2_with fail
 refine(Q.out K).mono ?_
 rintro e wt ⟨rfl,O⟩
 rw[O];clear O wt Q
 cases o with
 |false=>
  have a:=D (show R=7 by rw[E.out];rfl)
  go_wp2_with fail
  go_ret
  exact⟨by rw[a.out];rfl,I.out⟩
 |true=>
 have H:=D (show R=if b !=0 then b else if r.cls<1∨6<r.cls then 8 else if 600<r.timeout then 9 else if r.group<0∨r.signal<0 then 2 else 0 by rw[E.out];rfl)
 clear E
 go_wp2_with fail
 refine(P.out K aa).mono ?_
 rintro e w3 ⟨rfl,G⟩
 have d:=Jt I G
 have g:=Kv G j
 have c6:=Jc 6 g
 have c7:=Jc 7 g
 have c8:=Jc 8 g
 have c9:=Jc 9 g
 clear G g c3 c5 P
 by_cases X:b=0
 case neg=>
  have a:=D (show R=b by rw[H.out,if_pos (by simpa using X)])
  go_wp2_with fail
  go_ret
  exact⟨by rw[a.out];rfl,d.out⟩
 subst X
 have k:=D (show R=if r.cls<1∨6<r.cls then 8 else if 600<r.timeout then 9 else if r.group<0∨r.signal<0 then 2 else 0 by rw[H.out];rfl)
 clear H
 by_cases k1:r.cls<1
 ·have a:=D (show R=8 by rw[k.out,if_pos (.inl k1)])
  go_wp2_with fail
  go_ret
  exact⟨by rw[a.out];rfl,d.out⟩
 by_cases k2:6<r.cls
 ·have a:=D (show R=8 by rw[k.out,if_pos (.inr k2)])
  go_wp2_with fail
  go_ret
  exact⟨by rw[a.out];rfl,d.out⟩
 have F:=D (show R=if 600<r.timeout then 9 else if r.group<0∨r.signal<0 then 2 else 0 by rw[k.out,if_neg (by rintro(h|h)<;>contradiction)])
 clear k
 by_cases Z:600<r.timeout
 ·have a:=D (show R=9 by rw[F.out,if_pos Z])
  go_wp2_with fail
  go_ret
  exact⟨by rw[a.out];rfl,d.out⟩
 have C:=D (show R=if r.group<0∨r.signal<0 then 2 else 0 by rw[F.out,if_neg Z])
 clear F
 by_cases k4:r.group<0
 ·have a:=D (show R=2 by rw[C.out,if_pos (.inl k4)])
  go_wp2_with fail
  go_ret
  exact⟨by rw[a.out];rfl,d.out⟩
 by_cases k5:r.signal<0
 ·have a:=D (show R=2 by rw[C.out,if_pos (.inr k5)])
  go_wp2_with fail
  go_ret
  exact⟨by rw[a.out];rfl,d.out⟩
 ·have a:=D (show R=0 by rw[C.out,if_neg (by rintro(h|h)<;>contradiction)])
  go_wp2_with fail
  go_ret
  exact⟨by rw[a.out];rfl,d.out⟩
end Go.Proofs.YtlhapbopmplngaaGreatDoor
