import Derived.Laws.RangeAny
import Derived.Lib.OthersKept
import Derived.WalkMore
import Derived.Test.YtbgbeddbfaopgaaGreatDoorZ8
import Derived.Test.YtbgbeddbfaopgaaGreatDoorZ14
set_option linter.all false
set_option maxHeartbeats 16000000
set_option maxRecDepth 100000
set_option autoImplicit true
set_option relaxedAutoImplicit true
namespace Go.Proofs.YtbgbeddbfaopgaaGreatDoor
open Go.RowKit Go.Lk
theorem Zc4 {P:Prop}(h:P:=by
 have b:=D (show r=([],false)by rw[d.out];rfl)
 go_wp2_with fail
 go_ret2
 exact⟨by rw[b.out];rfl,k.out⟩):P:=h
theorem Zkd (v:Bs) (w:World) (hv:v.length≤1000000) (hE:Env w):
  Calls Tryz.prog 348 #[.string ⟨v.toArray⟩] w fun e w'=>e= .returned (.tuple #[.string ⟨(Zm1 v).1.toArray⟩, .bool (Zm1 v).2])∧Zg [] w w':=by
 obtain⟨r,q⟩:=Je (Zm1 v)
 obtain⟨i,j⟩:=Je (Lib.cut v [59])
 obtain⟨h,l⟩:=Je (YO i.1)
 obtain⟨c,m⟩:=Je (Lib.cut h [47])
 have M:=Zdh v [59]
 rw[←j]at M
 have G:=ZaC i.1
 rw[←l]at G
 have J:=Zdh h [47]
 rw[←m]at J
 have d:=D (show r=if !c.2.2|| !Zaz c.1|| !Zaz c.2.1 then([],false)else(Yx h,true)by rw[q,m,l,j];rfl)
 rw[←q]
 have x:=Zcr hE v [59] hv
 rw[←j]at x
 have O:∀W,Calls Tryz.prog 192 #[.string ⟨i.1.toArray⟩] W fun e w'=>e= .returned (.string ⟨h.toArray⟩)∧w'=W:=fun W=>by rw[l];exact Za4 i.1 W (by omega)
 have S:∀W,Env W→Calls Tryz.prog 171 #[.string ⟨h.toArray⟩, .string ⟨#[47]⟩] W fun e w'=>e= .returned (.tuple #[.string ⟨c.1.toArray⟩, .string ⟨c.2.1.toArray⟩, .bool c.2.2])∧Zg [] W w':=fun W hW=>by rw[m];exact Zcr hW h [47] (by omega)
 obtain⟨V,n⟩:=Je (Zaz c.1)
 obtain⟨Q,o⟩:=Je (Zaz c.2.1)
 have R:∀W,Calls Tryz.prog 231 #[.string ⟨c.1.toArray⟩] W fun e w'=>e= .returned (.bool V)∧W=w':=fun W=>by rw[n];exact Zco c.1 W (by omega)
 have P:∀W,Calls Tryz.prog 231 #[.string ⟨c.2.1.toArray⟩] W fun e w'=>e= .returned (.bool Q)∧W=w':=fun W=>by rw[o];exact Zco c.2.1 W (by omega)
 have y:∀W,Calls Tryz.prog 176 #[.string ⟨h.toArray⟩] W fun e w'=>e= .returned (.string ⟨(Yx h).toArray⟩)∧Zg [] W w':=fun W=>YJ h W (by omega)
 obtain⟨Y,N⟩:=Je (Yx h)
 rw[←N]at y d
 rw[←n,←o]at d
 have HE:=D hE
 have p:=D x;have z:=D O;have E:=D S;have C:=D R;have F:=D P;have s:=D y
 clear q j l m n o N x O S R P y hE M G J
 obtain⟨x1,x2,x3⟩:=i
 obtain⟨y1,y2,Z⟩:=c
 dsimp only at d p z E C F s
 go_enter Tryz.func348,Tryz.ntmps348
 go_wp2_with fail
 refine p.out.mono ?_
 rintro e T ⟨rfl,K⟩
 have I:=D K;clear K p
 go_wp2_with fail
 refine(z.out T).mono ?_
 rintro e g ⟨rfl,a⟩
 rw[a];clear a g z
 go_wp2_with fail
 refine(E.out T (HE.upd0 I)).mono ?_
 rintro e t ⟨rfl,H⟩
 have k:=Jt I H;clear H E
 cases Z with
 |false=>
  exact Zc4
 |true=>
 go_wp2_with fail
 refine(C.out t).mono ?_
 rintro e g ⟨rfl,a⟩
 rw[←a];clear a g C
 cases V with
 |false=>
  exact Zc4
 |true=>
 go_wp2_with fail
 refine(F.out t).mono ?_
 rintro e g ⟨rfl,a⟩
 rw[←a];clear a g F
 cases Q with
 |false=>
  exact Zc4
 |true=>
  have b:=D (show r=(Y,true)by rw[d.out];rfl)
  go_wp2_with fail
  refine(s.out t).mono ?_
  rintro e w3 ⟨rfl,L⟩
  have X:=Jt k L;clear L s
  go_wp2_with fail
  go_ret2
  exact⟨by rw[b.out];rfl,X.out⟩
theorem Zj3 {a b:Bs}:((⟨a.toArray⟩:ByteArray)=⟨b.toArray⟩)↔a=b:=by simp
theorem ZlI (v:Bs) (w:World) (hv:v.length≤1000000) (hE:Env w):
  Calls Tryz.prog 315 #[.string ⟨v.toArray⟩] w fun e w'=>e= .returned (.bool (ZhH v))∧Zg [] w w':=by
 obtain⟨r,d⟩:=Je (ZhH v)
 have q:=Zkd v w hv hE
 obtain⟨s,c⟩:=Je (Zm1 v)
 rw[←c]at q
 have h:=D (show r=(s.1==[97,112,112,108,105,99,97,116,105,111,110,47,120,45,119,119,119,45,102,111,114,109,45,117,114,108,101,110,99,111,100,101,100]||s.1==[109,117,108,116,105,112,97,114,116,47,102,111,114,109,45,100,97,116,97]||s.1==[116,101,120,116,47,112,108,97,105,110])by rw[d,c];rfl)
 rw[←d]
 have Q:=D q
 clear d c q
 obtain⟨x,y⟩:=s
 dsimp only at h Q
 have j:=Zj3 (a:=x) (b:=[97,112,112,108,105,99,97,116,105,111,110,47,120,45,119,119,119,45,102,111,114,109,45,117,114,108,101,110,99,111,100,101,100])
 have l:=Zj3 (a:=x) (b:=[109,117,108,116,105,112,97,114,116,47,102,111,114,109,45,100,97,116,97])
 have k:=Zj3 (a:=x) (b:=[116,101,120,116,47,112,108,97,105,110])
 go_enter Tryz.func315,Tryz.ntmps315
 go_wp2_with fail
 refine Q.out.mono ?_
 rintro e m ⟨rfl,g⟩
 have i:=D g;clear g Q
 clear j l k
 go_wp2_with fail
 all_goals
  go_ret
  exact⟨by rw[h.out];first|rfl|simp[*],i.out⟩
theorem ZdP {P:Prop}(h:P:=by
 have b:=D (show r=false by rw[h.out];rfl)
 go_wp2_with fail
 go_ret
 exact⟨by rw[b.out];rfl,g.out⟩):P:=h
theorem Zmf (v:Bs) (w:World) (hv:v.length≤1000000) (hE:Env w):
  Calls Tryz.prog 316 #[.string ⟨v.toArray⟩] w fun e w'=>e= .returned (.bool (Zfv v))∧Zg [] w w':=by
 obtain⟨r,t⟩:=Je (Zfv v)
 obtain⟨q,k⟩:=Je (([98,121,116,101,115,61]:Bs).isPrefixOf v)
 obtain⟨rest,j⟩:=Je (if q then v.drop 6 else v)
 obtain⟨c,p⟩:=Je (Lib.cut rest [45])
 obtain⟨a,ha⟩:=Je (Zab c.1)
 obtain⟨z,x⟩:=Je (Zab c.2.1)
 have R:rest.length≤v.length:=by rw[j];split<;>simp
 have I:=Zdh rest [45]
 rw[←p]at I
 have y:= Tryz.strings_CutPrefix ⟨v.toArray⟩ ⟨#[98,121,116,101,115,61]⟩ w
 have Q:Lib.hasPrefix (⟨v.toArray⟩:ByteArray).data.toList (⟨#[98,121,116,101,115,61]⟩:ByteArray).data.toList=q:=by rw[k];rfl
 have O:Lib.trimPrefix (⟨v.toArray⟩:ByteArray).data.toList (⟨#[98,121,116,101,115,61]⟩:ByteArray).data.toList=rest:=by rw[j,k];rfl
 rw[Q,O]at y
 have J:∀W,Env W→Calls Tryz.prog 171 #[.string ⟨rest.toArray⟩, .string ⟨#[45]⟩] W fun e w'=>e= .returned (.tuple #[.string ⟨c.1.toArray⟩, .string ⟨c.2.1.toArray⟩, .bool c.2.2])∧Zg [] W w':=fun W X=>by rw[p];exact Zcr X rest [45] (by omega)
 have P:∀W,Calls Tryz.prog 260 #[.string ⟨c.1.toArray⟩] W fun e w'=>e= .returned (.tuple #[.int .u64 (a.1:Int), .bool a.2])∧W=w':=fun W=>by rw[ha];exact ZcJ c.1 W (by omega)
 have M:∀W,Calls Tryz.prog 260 #[.string ⟨c.2.1.toArray⟩] W fun e w'=>e= .returned (.tuple #[.int .u64 (z.1:Int), .bool z.2])∧W=w':=fun W=>by rw[x];exact ZcJ c.2.1 W (by omega)
 have h:=D (show r=if !q|| !c.2.2|| !a.2 then false else(c.2.1==[]||z.2&&decide (a.1≤z.1))by rw[t,x,ha,p,j,k];rfl)
 rw[←t]
 have Y:=D hE
 have K:=D y;have C:=D J;have F:=D P;have E:=D M
 clear t k j p ha x R I y Q O J P M hE
 obtain⟨Z,G,V⟩:=c
 obtain⟨o,T⟩:=a
 obtain⟨n,L⟩:=z
 dsimp only at h C F E
 go_enter Tryz.func316,Tryz.ntmps316
 go_wp2_with fail
 refine K.out.mono ?_
 rintro e i ⟨rfl,d⟩
 rw[d];clear d i K
 go_wp2_with fail
 refine(C.out w Y).mono ?_
 rintro e N ⟨rfl,H⟩
 have g:=D H;clear H C
 go_wp2_with fail
 refine(F.out N).mono ?_
 rintro e i ⟨rfl,d⟩
 rw[←d];clear d i F
 cases q with
 |false=>
  exact ZdP
 |true=>
 cases V with
 |false=>
  exact ZdP
 |true=>
 cases T with
 |false=>
  exact ZdP
 |true=>
 have l:=D (show r=(G==[]||L&&decide (o≤n))by rw[h.out];rfl)
 clear h
 go_wp2_with fail
 refine(E.out N).mono ?_
 rintro e i ⟨rfl,d⟩
 rw[←d];clear d i E
 cases hy:(G==([]:Bs))with
 |true=>
  have S:G=[]:=by simpa using hy
  have b:=D (show r=true by rw[l.out,hy];rfl)
  clear hy
  subst S
  go_wp2_with fail
  go_ret
  exact⟨by rw[b.out];rfl,g.out⟩
 |false=>
 cases L with
 |false=>
  have b:=D (show r=false by rw[l.out,hy];rfl)
  go_wp2_with fail
  go_ret
  exact⟨by rw[b.out];first|rfl|simp[hy],g.out⟩
 |true=>
  by_cases m:o≤n
  ·have b:=D (show r=true by rw[l.out,hy,decide_eq_true m];rfl)
   have s:(o:Int)≤n:=by omega
   go_wp2_with fail
   go_ret
   exact⟨by rw[b.out];first|rfl|simp[hy,m,s],g.out⟩
  ·have b:=D (show r=false by rw[l.out,hy,decide_eq_false m];rfl)
   have s:¬(o:Int)≤n:=by omega
   go_wp2_with fail
   go_ret
   exact⟨by rw[b.out];first|rfl|simp[hy,m,s],g.out⟩
def Zbb (x:Bs):List Value:=[.string ⟨x.toArray⟩]
def Ye (v:Value) (l:List Bs):YG:=Zj 9 1 v (l.map Zbb)
theorem Zm (v:Value) (l:List Bs):(Ye v l).Local:=Zd _ _ _ _
theorem ZbH:(Tryz.prog.info? 9).map (fun i=>(i.zero,i.size,i.bytes))=some (some (.string ⟨#[]⟩),1,16):=by kernel_rfl
theorem Ye.strs (h:Ye v l w F):∃A c,v= .slice A l.length c∧l.length≤c∧Y1 w A l:=by
 obtain⟨A,c,a,b,f⟩:=h.lies1
 rw[Xb]at a b
 refine⟨A,c,a,b,fun j x g=> ?_⟩
 obtain⟨d,i,e⟩:=f j (Zbb x) (by rw[Xe,g];rfl)
 exact⟨d,0,i,by have:=e 0 _ rfl;simpa using this⟩
theorem Zct (x:Bs):∀u∈Zbb x,u.oneCell'=true:=by intro u hu;unfold Zbb at hu;simp at hu;subst hu;rfl
def Zdo (w:World) (l:List Bs) (e:Ending) (w':World):Prop:=∃(v:Value) (M:List Nat),e= .returned v∧Ye v l w' M∧(∀k∈M,w.heap.size≤k)∧Zg [] w w'
theorem Y1.upd0 {ws:List Bs} (h:Y1 w A ws) (hu:Zg [] w w1):Y1 w1 A ws:=h.upd hu (by simp)
def Zev (ws:List Bs):List Bs:=(ws.map YO).filter (fun x=>x !=[])
theorem Zme {ws:List Bs} {k:Nat} (h:ws[k]? =some x):Zev (ws.take (k+1))=if YO x=[]then Zev (ws.take k)else Zev (ws.take k)++[YO x]:=by
 unfold Zev
 rw[ZY h,Xs,List.filter_append]
 split
 ·rename_i a;simp[a]
 ·rename_i a;simp[a]
theorem Zpc (ws:List Bs):(Zev ws).length≤ws.length:=by
 unfold Zev
 exact Xj (Xq _ _) (by rw[Xb];exact Xi _)
theorem Zkn (x:Bs) (w:World) (hx:x.length≤900000) (hE:Env w):
  Calls Tryz.prog 341 #[.string ⟨x.toArray⟩] w (Zdo w (Zie x)):=by
 have q:=Zgy hE x 44 hx
 obtain⟨ws,g⟩:=Je (Lib.split x [44])
 have N:∀y∈ws,y.length≤1000000:=fun y b=>by
  rw[g]at b
  have:=(ZaN 44 x.length x (Xi _)).2 y b
  omega
 have ar:ws.length≤1000000:=by rw[g];have:=(ZaN 44 x.length x (Xi _)).1;omega
 have hl:Zie x=Zev ws:=by rw[g];rfl
 rw[hl]
 rw[←g]at q
 have Q:=D q;have af:=D N
 clear q g N hl
 go_enter Tryz.func341,Tryz.ntmps341
 go_wp2_with fail
 refine Q.out.mono ?_
 rintro e w1 ⟨rfl,ac,S⟩
 have ai:=D ac;have aj:=D S;clear ac S Q
 go_wp2_with fail
 go_loopw[9,3,5] (fun v9 v3 _ wr=>∃(k:Nat) (M:List Nat),k≤ws.length∧v9= .int .i64 k∧Hid (Ye v3 (Zev (ws.take k)) wr M)∧Hid (∀q∈M,w.heap.size≤q)∧Hid (Zg [] w wr)∧Hid (Y1 wr (some ⟨w.heap.size,0,none⟩) ws)∧Hid (w.heap.size∉M)) (fun v9 _ _ _=>ws.length-(intOf v9).toNat)
 case atStart=>exact⟨0,[],by omega,rfl,D (ZD _ _ _),D (by simp),aj,ai,D (by simp)⟩
 case round=>
  obtain⟨k,M,hk,rfl,C,s,I,K,L⟩:=hrel
  by_cases ad:k<ws.length
  ·obtain⟨y,b⟩:∃y,ws[k]? =some y:=⟨_,Xa ad⟩
   obtain⟨ab,ao,H,al⟩:=K.out k y b
   injection H with H;injection H with d e2 _;subst d e2
   rw[Nat.zero_add]at al
   have q:=Za4 y wr (af.out y (Xc b))
   have F:=Zme b
   obtain⟨z,j⟩:=Je (YO y)
   rw[←j]at q F
   have Q:=D q;have P:=D F
   clear q F j b
   go_wp2_with fail
   refine Q.out.mono ?_
   rintro e wt ⟨rfl,Z⟩
   rw[Z];clear Z wt Q
   cases z with
   |nil=>
    have ht:=P.out
    rw[if_pos rfl]at ht
    have p:=D ht;clear ht
    go_wp2_with fail
    exact⟨⟨k+1,M,by omega,by go_num,by rw[p.out];exact C,s,I,K,L⟩,by simp[intOf];omega⟩
   |cons c t=>
    have ht:=P.out
    rw[if_neg (by simp)]at ht
    have p:=D ht;clear ht
    have aa:((c::t:Bs)==[])=false:=rfl
    obtain⟨z,j⟩:=Je (c::t)
    rw[←j]at p aa⊢
    clear j
    obtain⟨J,o⟩:=Je (wr.alloc (.cells #[.string ⟨z.toArray⟩] 9))
    have m:=Ja o
    have ah:=D (show Zb J wr.heap.size 0 (Zbb z)by rw[o];exact Zb.of_block (Za _))
    have E:=D ((Zm _ _).upd C m (by simp))
    have R:=D (K.upd0 m)
    have am:=Jt I m;have ag:=D o
    obtain⟨A,cA,rfl,_,_⟩:=E.strs
    have O:=Zpc (ws.take k)
    rw[List.length_take]at O
    have ae:(Zev (ws.take k)).length≤1000000:=by omega
    obtain⟨n,r⟩:=Je ((Zev (ws.take k)).length)
    rw[←r]at E ae
    have ak:=D r
    rw[←r]
    clear m o r O C
    have ap:(⟨z.toArray⟩:ByteArray).toList.isEmpty=false:=by
     rw[Lib.toList_data]
     show z.isEmpty=false
     cases z with
     |nil=>cases aa
     |cons a l=>rfl
    go_upto_region 8 with(rw[←ag.out];refine Zn J rfl (.tmp 17) (.tmp 19) 169 rfl 9 Tryz.underlying169 ZbH rfl (by omega) (by omega) (.slice A n cA) ((Zev (ws.take k)).map Zbb) M rfl E wr.heap.size 1 (Zbb z) rfl ah rfl (Zct z) (by rw[Xb,←ak.out];omega) ?_;intro v' w7 G' Y T X;have an:=D Y;have W:=D T;have V:=D X;clear Y T X)
    go_wp2_with fail
    have aq:w.heap.size<J.heap.size:=by obtain⟨ab,ao,d,hc⟩:=R.out k _ (Xa ad);injection d with d;injection d with d _;subst d;exact Xo _ _ hc
    exact⟨⟨k+1,G',by omega,by go_num,D (by rw[p.out];unfold Ye;rw[Xs];exact an),D (fun q i=>by
     rcases V q i with h|h
     ·exact s q h
     ·omega),D (((am.weaken (G:=M) (by simp)).trans W (fun q i=> .inr i)).weaken (fun q i=> .inl (s.out q i))),D (R.upd W (fun ab ao e=>by injection e with e;injection e with e _;rw[←e];exact L)),D (fun hm=>by
     rcases V _ hm with h|h
     ·exact L h
     ·omega)⟩,by simp[intOf];omega⟩
  ·obtain rfl:k=ws.length:=by omega
   go_wp2_with fail
   go_ret
   exact⟨_,M,rfl,by have:=C.out;rw[Xm]at this;exact this,s.out,I.out⟩
theorem ZoU (h:Below n w w') (hn:w.heap.size≤n):Zg [] w w':=⟨h.os,h.tape,h.output,h.size,fun k hk _=>h.block k (by omega)⟩
theorem ZcH (h:Ye v l w M) (hl:l.length≤1000000) (sep:Bs) (hj:(Lib.join l sep).length≤140737488355328):
  Calls Tryz.prog 227 #[v, .string ⟨sep.toArray⟩] w fun e w'=>e= .returned (.string ⟨(Lib.join l sep).toArray⟩)∧Zg [] w w':=by
 obtain⟨A,c,rfl,p,d⟩:=h.strs
 cases l with
 |nil=>
  refine(Tryz.strings_Join_none A c ⟨sep.toArray⟩ w).mono ?_
  rintro e w' ⟨rfl,rfl⟩
  exact⟨rfl,Zg.refl _ _⟩
 |cons a l=>
  obtain⟨k,o,rfl,g⟩:=d 0 a rfl
  have q:= Tryz.strings_Join k o c ((a::l).map fun x=>(⟨x.toArray⟩:ByteArray)) ⟨sep.toArray⟩ w (fun j x hj=>by
   rw[Xe]at hj
   obtain⟨y,n,rfl⟩:=Option.map_eq_some_iff.1 hj
   obtain⟨t,s,e,i⟩:=d j y n
   injection e with e;injection e with b r _;subst b r
   exact i) (Xo _ _ g) (by rw[Xb];omega) (by rw[Xb];exact p)
  have b:((a::l).map fun x=>(⟨x.toArray⟩:ByteArray)).map (·.data.toList)=a::l:=by rw[List.map_map];simp[Function.comp_def]
  rw[b,Xb]at q
  refine(q hj).mono ?_
  rintro e w' ⟨rfl,m⟩
  exact⟨rfl,ZoU m (Xi _)⟩
theorem ZlV (h:Ye v l w M) (hl:l.length≤1000000) (hj:(Zfk l).length≤140737488355328):
  Calls Tryz.prog 249 #[v] w fun e w'=>e= .returned (.string ⟨(Zfk l).toArray⟩)∧Zg [] w w':=by
 have q:Calls Tryz.prog 227 #[v, .string ⟨#[44,32]⟩] w fun e w'=>e= .returned (.string ⟨(Zfk l).toArray⟩)∧Zg [] w w':=ZcH h hl [44,32] hj
 obtain⟨r,b⟩:=Je (Zfk l)
 rw[←b]at q⊢
 obtain⟨A,c,rfl,_,_⟩:=h.strs
 have Q:=D q
 clear q b h hj
 go_enter Tryz.func249,Tryz.ntmps249
 go_wp2_with fail
 refine Q.out.mono ?_
 rintro e g ⟨rfl,a⟩
 have d:=D a;clear a
 go_wp2_with fail
 go_ret
 exact⟨rfl,d.out⟩
end Go.Proofs.YtbgbeddbfaopgaaGreatDoor
namespace Go.Lk
open Go
theorem Zk4 {r:Int} (h:128≤r) (hv:Utf8.valid r=true):∃bs:List UInt8,Utf8.encode r=⟨bs.toArray⟩∧2≤bs.length∧bs.length≤4∧∀b∈bs,128≤b.toNat:=by
 have g:r.toNat≤1114111:=by
  unfold Utf8.valid at hv
  simp only[Bool.or_eq_true,Bool.and_eq_true,decide_eq_true_eq]at hv
  omega
 have e:¬r.toNat<128:=by omega
 unfold Utf8.encode
 rw[if_pos hv]
 dsimp only
 rw[if_neg e]
 have c:∀n:Nat,n<256→128≤n→128≤(UInt8.ofNat n).toNat:=fun n e d=>by rw[UInt8.toNat_ofNat'];omega
 split
 ·rename_i d
  refine⟨[_,_],rfl,by simp,by simp,fun b a=> ?_⟩
  simp only[List.mem_cons,List.not_mem_nil,or_false]at a
  rcases a with rfl|rfl<;>exact c _ (by omega) (by omega)
 ·split
  ·rename_i d f
   refine⟨[_,_,_],rfl,by simp,by simp,fun b a=> ?_⟩
   simp only[List.mem_cons,List.not_mem_nil,or_false]at a
   rcases a with rfl|rfl|rfl<;>exact c _ (by omega) (by omega)
  ·refine⟨[_,_,_,_],rfl,by simp,by simp,fun b a=> ?_⟩
   simp only[List.mem_cons,List.not_mem_nil,or_false]at a
   rcases a with rfl|rfl|rfl|rfl<;>exact c _ (by omega) (by omega)
theorem ZhX {l:List UInt8} (h:∀b∈l,b.toNat<128) {c:UInt8} (hc:128≤c.toNat):Lib.indexByte l c= -1:=by
 induction l with
 |nil=>rfl
 |cons a l ih=>
  unfold Lib.indexByte
  have ha:=h a (by simp)
  rw[if_neg (by simp only[beq_iff_eq];rintro rfl;omega),ih (fun b d=>h b (by simp[d]))]
  rfl
end Go.Lk
namespace Go.Proofs.YtbgbeddbfaopgaaGreatDoor
open Go.RowKit Go.Lk
theorem ZgE (cs:Bs) (ha:∀b∈cs,b.toNat<128) (hl:cs.length≤3) (r:Int) (h:128≤r) (he:r≠65533) (hv:Utf8.valid r=true) (w:World):
  Calls Tryz.prog 252 #[.string ⟨cs.toArray⟩, .int .i32 r] w fun e w'=>e= .returned (.int .i64 (-1))∧Zg [] w w':=by
 obtain⟨a,s,T,R,c⟩:=Zk4 h hv
 have aa:∀W:World,(convert 21 9 (.int .i32 r)).run Tryz.prog W= .ok (.string ⟨a.toArray⟩) W:=fun W=>by
  rw[←s]
  simp[convert,Sem.run_bind,run_underlying Tryz.underlying21,run_underlying Tryz.underlying9,Conv.intToString]
 have d:= Tryz.utf8_ValidRune r w
 rw[show Lib.validRune r=true from by unfold Lib.validRune;unfold Utf8.valid at hv;simp only[Bool.or_eq_true,Bool.and_eq_true,decide_eq_true_eq]at hv⊢;omega]at d
 have h1:¬r<128:=by omega
 have ae:(0:Int)≤r:=by omega
 have o:=D d;have M:=D c;have E:=D ha
 obtain⟨L,i⟩:∃L,a.length=L+1:=⟨a.length-1,by omega⟩
 obtain⟨n,g⟩:=Je cs.length
 have I:=D g
 have X:=D i
 have ag:L≤3:=by omega
 have ab:(⟨a.toArray⟩:ByteArray).size=L+1:=by show a.toArray.size=_;rw[List.size_toArray];exact i
 have ac:(⟨cs.toArray⟩:ByteArray).size=n:=by show cs.toArray.size=_;rw[List.size_toArray];exact g.symm
 have ad:n≤3:=by omega
 clear s c d g i ha hv hl T R
 go_enter Tryz.func252,Tryz.ntmps252
 go_wp2_with fail
 refine o.out.mono ?_
 rintro e w1 ⟨rfl,p⟩
 rw[p];clear p w1 o
 go_wp2_with fail
 refine wp_scope_straight ?_
 go_wp2_with fail
 go_loopw[9] (fun v9 wr=>v9= .int .i64 L∧wr=w) (fun v9 _=>0)
 case atStart=>exact⟨by go_num,rfl⟩
 case round=>
  obtain⟨rfl,rfl⟩:=hrel
  by_cases O:L<n
  ·have j:L<cs.length:=by rw[←I.out];exact O
   have l:L<a.length:=by rw[X.out];omega
   have V:=fun W=>Zeu (P:= Tryz.prog) (t:= 9) (k:= .i64) (z:=(L:Int)) Tryz.underlying9 rfl j W
   have Q:=fun W=>Zeu (P:= Tryz.prog) (t:= 9) (k:= .i64) (z:=(L:Int)) Tryz.underlying9 rfl l W
   obtain⟨x,hx⟩:=Je (cs[L])
   obtain⟨y,m⟩:=Je (a[L])
   have af:x.toNat<128:=E.out x (by rw[hx];exact List.getElem_mem j)
   have S:128≤y.toNat:=M.out y (by rw[m];exact List.getElem_mem l)
   rw[←hx]at V
   rw[←m]at Q
   have J:((x.toNat:Int)==(y.toNat:Int))=false:=by rw[beq_eq_false_iff_ne];omega
   clear hx m j l
   go_wp2_with fail
   refine wp_scope_straight ?_
   go_upto_region 6 with fail
   go_quiet (fail)
   generalize hwq:wr.drewN _=wq
   have G:Zg [] wr wq:=by rw[←hwq];exact(Zg.refl [] wr).drewN _
   clear hwq J;change Hid _ at G
   have q:= Tryz.strings_IndexByte ⟨(cs.drop (L+1)).toArray⟩ (y.toNat:Int)
   have H:((y.toNat:Int).toNat.toUInt8)=y:=by simp
   rw[H]at q
   rw[show Lib.indexByte (⟨(cs.drop (L+1)).toArray⟩:ByteArray).data.toList y= -1 from ZhX (fun b c=>E.out b (List.mem_of_mem_drop c)) S]at q
   have F:=D q
   clear q H
   have N:IntKind.i64.wrap ((L:Int)+1)=(L:Int)+1:=IntWalk.i64_in _ (by omega)
   have K:ByteArray.extract ⟨cs.toArray⟩ (L+1) n=⟨(cs.drop (L+1)).toArray⟩:=by
    rw[Lib.extract_eq,I.out]
    show(⟨((cs.drop (L+1)).take (cs.length-(L+1))).toArray⟩:ByteArray)=_
    rw[List.take_of_length_le (by rw[List.length_drop];exact Xi _)]
   go_upto_region 7 with fail
   refine Jr [0,4,8,12,16,20,24,30,32] (fun _=>True) trivial ?_
   repeat first|refine Jn ?_|refine Jf ?_|refine Ju ?_
   apply Zan (v:= .string ⟨(cs.drop (L+1)).toArray⟩)
   case ho=>simp only[Xh,Xf,Xg];rfl
   case hg=>rfl
   case hv=>
    intro W Z
    clear Z
    go_simp
    intro h
    exact absurd (h (by omega)) (by omega)
   case ha=>go_simp;rfl
   repeat first|refine Jn ?_|refine Jf ?_|refine Ju ?_
   clear N K
   refine JL ?_
   go_wp2_with fail
   refine(F.out _).mono ?_
   rintro e Y ⟨rfl,C⟩
   rw[C];clear C Y F
   go_wp2_with fail
   refine⟨fun _=>True,trivial,?_⟩
   repeat first|refine Jn ?_|refine Jf ?_|refine Ju ?_
   refine ZL ?_
   go_wp2_with fail
   rw[Exit.noGoto_ret]
   simp only[Exit.inBlock,Exit.then]
   simp+zetaDelta only[Exit.inBlock,Exit.then]
   rw[Exit.noGoto_ret]
   simp only[Exit.inBlock,Exit.then]
   go_ret
   exact⟨rfl,G.drewN 1⟩
  ·go_wp2_with fail
   rw[Exit.noGoto_ret]
   go_ret
   exact⟨rfl,Zg.refl _ _⟩
theorem Zfy (cs:Bs) (r:Int) (h:128≤r) (he:r≠65533) (hv:Utf8.valid r=false) (w:World):
  Calls Tryz.prog 252 #[.string ⟨cs.toArray⟩, .int .i32 r] w fun e w'=>e= .returned (.int .i64 (-1))∧Zg [] w w':=by
 have a:= Tryz.utf8_ValidRune r w
 rw[show Lib.validRune r=false from by unfold Lib.validRune;unfold Utf8.valid at hv;simp only[Bool.or_eq_false_iff,Bool.and_eq_false_iff,decide_eq_false_iff_not]at hv⊢;omega]at a
 have i:¬r<128:=by omega
 have g:(0:Int)≤r:=by omega
 have c:=D a
 clear a hv
 go_enter Tryz.func252,Tryz.ntmps252
 go_wp2_with fail
 refine c.out.mono ?_
 rintro e d ⟨rfl,b⟩
 rw[b];clear b d c
 go_wp2_with fail
 go_ret
 exact⟨rfl,Zg.refl _ _⟩
theorem ZgT (cs:Bs) (ha:∀b∈cs,b.toNat<128) (w:World):
  Calls Tryz.prog 252 #[.string ⟨cs.toArray⟩, .int .i32 65533] w fun e w'=>e= .returned (.int .i64 (-1))∧Zg [] w w':=by
 have j:=D ha
 clear ha
 go_enter Tryz.func252,Tryz.ntmps252
 go_wp2_with fail
 go_loopw[5,6] (fun _ _ wr=>∃i:Nat,i≤cs.length∧wr=w.iter ⟨cs.toArray⟩ i) (fun _ _ wr=>cs.length-wr.iterPos w.heap.size)
 case atStart=>exact⟨0,Xn _,rfl⟩
 case round=>
  obtain⟨i,l,rfl⟩:=hrel
  by_cases a:i<cs.length
  ·have d:i<(⟨cs.toArray⟩:ByteArray).size:=by simpa[ByteArray.size]using a
   obtain⟨x,hx⟩:=Je (cs[i])
   have h:x.toNat<128:=j.out x (by rw[hx];exact List.getElem_mem a)
   have hg:=Zar cs i a
   rw[←hx]at hg
   have g:=fun c=>run_next_ascii (P:= Tryz.prog) w ⟨cs.toArray⟩ i c d (by rw[hg];exact h)
   simp only[hg]at g
   have k:((x.toNat:Int)==65533)=false:=by rw[beq_eq_false_iff_ne];omega
   clear hg hx d
   go_wp2_with fail
   exact⟨⟨i+1,by omega,rfl⟩,by simp;omega⟩
  ·obtain rfl:i=cs.length:=by omega
   have g:=fun c=>run_next_end (P:= Tryz.prog) w ⟨cs.toArray⟩ cs.length c (by simp[ByteArray.size])
   go_wp2_with fail
   go_ret
   exact⟨rfl,(Zg.refl [] w).alloc _⟩
theorem Zhq (cs:Bs) (ha:∀b∈cs,b.toNat<128) (hl:cs.length≤3) (r:Int) (h:128≤r) (w:World):
  Calls Tryz.prog 252 #[.string ⟨cs.toArray⟩, .int .i32 r] w fun e w'=>e= .returned (.int .i64 (-1))∧Zg [] w w':=by
 by_cases a:r=65533
 ·subst a;exact ZgT cs ha w
 ·cases hv:Utf8.valid r with
  |true=>exact ZgE cs ha hl r h a hv w
  |false=>exact Zfy cs r h a hv w
end Go.Proofs.YtbgbeddbfaopgaaGreatDoor
namespace Go.Lk
open Go
theorem Zgb (cs:List UInt8):∀s:List UInt8,s.any (fun c=>cs.contains c)=decide (0≤Lib.indexAny s cs)
 |[]=>rfl
 |b::l=>by
  have ihl:=Zgb cs l
  have hge:=Lib.indexAny_ge cs l
  unfold Lib.indexAny
  rw[List.any_cons]
  cases hb:cs.contains b with
  |true=>simp
  |false=>
   rw[Bool.false_or,ihl,if_neg (by simp)]
   rw[Bool.eq_iff_iff,decide_eq_true_eq,decide_eq_true_eq]
   split
   ·rename_i h
    have h2:Lib.indexAny l cs= -1:=by simpa using h
    rw[h2]
   ·rename_i h
    have h2:Lib.indexAny l cs≠-1:=by simpa using h
    generalize Lib.indexAny l cs=z at*
    omega
theorem get!_at (s:ByteArray) (i:Nat) (h:i<s.size):s.get! i=s[i]:=by
 simp[ByteArray.get!,getElem!_pos,h]
 rfl
theorem Zk8 (s:ByteArray) (pos:Nat) (h:pos<s.size) (ha:128≤(s[pos]'h).toNat):pos+(Utf8.decode s pos).2≤s.size∧∀(j:Nat) (hj:j<s.size),pos≤j→j<pos+(Utf8.decode s pos).2→128≤(s[j]).toNat:=by
 have l:¬(s.get! (pos+0)).toNat<0x80:=by rw[Nat.add_zero,get!_at s pos h];omega
 have one:∀(j:Nat) (hj:j<s.size),pos≤j→j<pos+1→128≤(s[j]).toNat:=fun j hj a f=>by
  obtain rfl:j=pos:=by omega
  exact ha
 have b:∀k,(decide (pos+k<s.size)&&(s.get! (pos+k)).toNat/64==2)=true→∃h:pos+k<s.size,128≤(s[pos+k]).toNat:=fun k e=>by
  simp only[Bool.and_eq_true,decide_eq_true_eq,beq_iff_eq]at e
  refine⟨e.1,?_⟩
  have:=e.2
  rw[get!_at s _ e.1]at this
  omega
 unfold Utf8.decode
 dsimp only
 rw[if_neg l]
 split
 ·rename_i a
  simp only[Bool.and_eq_true]at a
  obtain⟨i,d⟩:=b 1 (by simpa using a.2)
  split
  ·refine⟨by dsimp only;omega,fun j hj f c=> ?_⟩
   dsimp only at c
   rcases(show j=pos∨j=pos+1 by omega)with rfl|rfl
   ·exact ha
   ·exact d
  ·exact⟨by dsimp only;omega,one⟩
 split
 ·rename_i a
  simp only[Bool.and_eq_true]at a
  obtain⟨i,d⟩:=b 1 (by simpa using a.1.2)
  obtain⟨n,g⟩:=b 2 (by simpa using a.2)
  split
  ·refine⟨by dsimp only;omega,fun j hj f c=> ?_⟩
   dsimp only at c
   rcases(show j=pos∨j=pos+1∨j=pos+2 by omega)with rfl|rfl|rfl
   ·exact ha
   ·exact d
   ·exact g
  ·exact⟨by dsimp only;omega,one⟩
 split
 ·rename_i a
  simp only[Bool.and_eq_true]at a
  obtain⟨i,d⟩:=b 1 (by simpa using a.1.1.2)
  obtain⟨n,g⟩:=b 2 (by simpa using a.1.2)
  obtain⟨o,m⟩:=b 3 (by simpa using a.2)
  split
  ·refine⟨by dsimp only;omega,fun j hj f c=> ?_⟩
   dsimp only at c
   rcases(show j=pos∨j=pos+1∨j=pos+2∨j=pos+3 by omega)with rfl|rfl|rfl|rfl
   ·exact ha
   ·exact d
   ·exact g
   ·exact m
  ·exact⟨by dsimp only;omega,one⟩
 ·exact⟨by dsimp only;omega,one⟩
end Go.Lk
namespace Go.Proofs.YtbgbeddbfaopgaaGreatDoor
open Go.RowKit Go.Lk
theorem Zio (w:World) (k:Nat) (s:ByteArray) (p:Nat):Zg [k] w (w.iterAt k s p):=⟨rfl,rfl,rfl,by simp[World.iterAt],fun x hx hn=>by
 have:k≠x:=by simpa[eq_comm]using hn
 simp[World.iterAt,Array.getElem?_setIfInBounds,this]⟩
theorem Zhr (s cs:Bs) (ha:∀b∈cs,b.toNat<128) (h2:2≤cs.length) (h3:cs.length≤3) (h8:s.length≤8) (w:World):
  Calls Tryz.prog 172 #[.string ⟨s.toArray⟩, .string ⟨cs.toArray⟩] w fun e w'=>e= .returned (.int .i64 (Lib.indexAny s cs))∧Zg [] w w':=by
 have al:(⟨cs.toArray⟩:ByteArray).toList.isEmpty=false:=by
  rw[Lib.toList_data]
  show cs.isEmpty=false
  cases cs with
  |nil=>simp at h2
  |cons _ _=>rfl
 have am:(cs==([]:Bs))=false:=by
  cases cs with
  |nil=>simp at h2
  |cons _ _=>rfl
 have an:((cs.length:Int)==1)=false:=beq_eq_false_iff_ne.2 (by omega)
 have af:¬(8:Int)<(s.length:Int):=by omega
 have R:= Tryz.strings_shouldUseASCIISet (s.length:Int) w
 rw[decide_eq_false af]at R
 have ab:=D R;have HA:=D ha
 clear R ha af
 go_enter Tryz.func172,Tryz.ntmps172
 go_wp2_with fail
 refine ab.out.mono ?_
 rintro e w1 ⟨rfl,ac⟩
 rw[ac];clear ac w1 ab
 go_wp2_with fail
 obtain⟨k0,h⟩:=Je w.heap.size
 have Y:=D h
 have Z:(w.iter ⟨s.toArray⟩ 0).heap[k0]? =some (.stringIter ⟨s.toArray⟩ 0):=by rw[h];exact World.iter_heap _ _ _
 have V:Zg [] w (w.iter ⟨s.toArray⟩ 0):=(Zg.refl [] w).alloc _
 rw[←h]
 clear h;change Hid _ at Z V
 go_loopw[9,10] (fun _ _ wr=>∃i:Nat,i≤s.length∧Hid (wr.heap[k0]? =some (.stringIter ⟨s.toArray⟩ i))∧Hid (Zg [] w wr)∧Hid (Lib.NoAny s cs i)) (fun _ _ wr=>s.length-wr.iterPos k0)
 case atStart=>exact⟨0,Xn _,Z,V,D (Lib.NoAny.zero _ _)⟩
 case round=>
  obtain⟨i,hi,k,O,t⟩:=hrel
  by_cases J:i<s.length
  ·have l:i<(⟨s.toArray⟩:ByteArray).size:=by simpa[ByteArray.size]using J
   obtain⟨x,hx⟩:=Je (s[i])
   have hg:=Zar s i J
   rw[←hx]at hg
   have E:s[i]? =some x:=by rw[hx];simp[J]
   have HX:=D E
   by_cases aj:x.toNat<128
   ·have a:=fun r=>Lib.run_next_ascii_at (P:= Tryz.prog) wr k0 ⟨s.toArray⟩ i r k l (by rw[hg];exact aj)
    simp only[hg]at a
    have g:=D (Lib.iterAt_heap wr k0 ⟨s.toArray⟩ i (i+1) k)
    have m:=D ((O.weaken (G:=[]) (by simp)).trans (Zio wr k0 ⟨s.toArray⟩ (i+1)) (fun q M=> .inl (by rw[Jm M,Y.out];exact Xi _)))
    obtain⟨p,o⟩:=Je (wr.iterAt k0 ⟨s.toArray⟩ (i+1))
    rw[←o]at g m a
    have q:= Tryz.strings_IndexRune_ascii ⟨cs.toArray⟩ (x.toNat:Int) p (by omega) (by omega)
    rw[show((x.toNat:Int).toNat.toUInt8)=x by simp]at q
    have z:=Lib.contains_iff_indexByte cs x
    obtain⟨ix,H⟩:=Je (Lib.indexByte (⟨cs.toArray⟩:ByteArray).data.toList x)
    rw[←H]at q
    have S:Lib.indexByte cs x=ix:=H.symm
    rw[S]at z
    have y:=D q;have T:=D z
    clear hx hg E l o q z H S
    go_wp2_with fail
    refine y.out.mono ?_
    rintro e L ⟨rfl,W⟩
    rw[W];clear W L y a
    by_cases n:(0:Int)≤ix
    ·have HH:=D (Lib.indexAny_hit t HX (by rw[T.out];exact decide_eq_true n))
     go_wp2_with fail
     go_ret
     exact⟨by rw[HH.out]<;>rfl,m.out⟩
    ·have F:=D (t.succ HX (by rw[T.out];exact decide_eq_false n))
     go_wp2_with fail
     exact⟨⟨i+1,by omega,g,m,F⟩,by
      have Q:wr.iterPos k0=i:=by unfold World.iterPos;rw[k.out]
      have N:p.iterPos k0=i+1:=by unfold World.iterPos;rw[g.out]
      rw[Q,N];omega⟩
   ·have X:128≤x.toNat:=by omega
    have a:=fun r=>Lib.run_next_any_at (P:= Tryz.prog) wr k0 ⟨s.toArray⟩ i r k l
    obtain⟨ae,ai⟩:=decode_high ⟨s.toArray⟩ i l (by rw[hg];exact X)
    obtain⟨C,K⟩:=Zk8 ⟨s.toArray⟩ i l (by rw[hg];exact X)
    obtain⟨c,n⟩:=Je ((Utf8.decode ⟨s.toArray⟩ i).1)
    obtain⟨d,hd⟩:=Je ((Utf8.decode ⟨s.toArray⟩ i).2)
    rw[←n]at ae
    rw[←hd]at ai C K
    simp only[←n,←hd]at a
    have ak:i+d≤s.length:=by simpa[ByteArray.size]using C
    have g:=D (Lib.iterAt_heap wr k0 ⟨s.toArray⟩ i (i+d) k)
    have m:=D ((O.weaken (G:=[]) (by simp)).trans (Zio wr k0 ⟨s.toArray⟩ (i+d)) (fun q M=> .inl (by rw[Jm M,Y.out];exact Xi _)))
    obtain⟨p,o⟩:=Je (wr.iterAt k0 ⟨s.toArray⟩ (i+d))
    rw[←o]at g m a
    have F:=D (show Lib.NoAny s cs (i+d)from fun j b hj hb=>by
     by_cases ag:j<i
     ·exact t j b ag hb
     ·obtain⟨ad,rfl⟩:=List.getElem?_eq_some_iff.1 hb
      have:=K j (by simpa[ByteArray.size]using ad) (by omega) (by omega)
      rw[Zar s j ad]at this
      rw[Bool.eq_false_iff]
      intro hm
      have:=HA.out _ (by simpa using hm)
      omega)
    have y:=D (Zhq cs HA h3 (c:Int) (by omega) p)
    clear hx hg E l o n hd C K ae
    go_wp2_with fail
    refine y.out.mono ?_
    rintro e L ⟨rfl,I⟩
    have h:k0<p.heap.size:=(Jg g)
    have aa:=D ((I.block k0 h (by simp)).trans g)
    have ah:=Jt m I
    clear I a h
    go_wp2_with fail
    exact⟨⟨i+d,ak,aa,ah,F⟩,by
     have Q:wr.iterPos k0=i:=by unfold World.iterPos;rw[k.out]
     have N:L.iterPos k0=i+d:=by unfold World.iterPos;rw[aa.out]
     rw[Q,N];omega⟩
  ·obtain rfl:i=s.length:=by omega
   have a:=fun r=>Lib.run_next_end_at (P:= Tryz.prog) wr k0 ⟨s.toArray⟩ s.length r k (by simp[ByteArray.size])
   go_wp2_with fail
   go_ret
   exact⟨by rw[Lib.indexAny_none t.out]<;>rfl,O.out⟩
theorem ZjC (s cs:Bs) (ha:∀b∈cs,b.toNat<128) (h2:2≤cs.length) (h3:cs.length≤3) (hs:s.length≤1000000) (w:World):
  Calls Tryz.prog 172 #[.string ⟨s.toArray⟩, .string ⟨cs.toArray⟩] w fun e w'=>e= .returned (.int .i64 (Lib.indexAny s cs))∧Zg [] w w':=by
 by_cases c:s.length≤8
 ·exact Zhr s cs ha h2 h3 c w
 ·refine(Tryz.strings_IndexAny_long (zero_of_info (t:= 335) (show(Tryz.prog.info? 335).map (fun i=>(i.zero,i.size))=some (some (.agg (Array.replicate 256 (.bool false))),256)by kernel_rfl)).1 ⟨s.toArray⟩ ⟨cs.toArray⟩ w (by simpa[ByteArray.size]using h2) (by simp[ByteArray.size];omega) (by simp[ByteArray.size];omega) (by simp[ByteArray.size];omega) (fun j b a=>ha b (Xc a))).mono ?_
  rintro e w' ⟨rfl,rfl⟩
  exact⟨rfl,((Zg.refl [] w).alloc _).alloc _⟩
theorem Zj2 (s cs:Bs) (ha:∀b∈cs,b.toNat<128) (h2:2≤cs.length) (h3:cs.length≤3) (hs:s.length≤1000000) (w:World):
  Calls Tryz.prog 232 #[.string ⟨s.toArray⟩, .string ⟨cs.toArray⟩] w fun e w'=>e= .returned (.bool (s.any fun c=>cs.contains c))∧Zg [] w w':=by
 have q:=ZjC s cs ha h2 h3 hs w
 have a:=Zgb cs s
 obtain⟨r,g⟩:=Je (Lib.indexAny s cs)
 rw[←g]at q a
 rw[a]
 have Q:=D q
 clear q g a
 go_enter Tryz.func232,Tryz.ntmps232
 go_wp2_with fail
 refine Q.out.mono ?_
 rintro e i ⟨rfl,d⟩
 have h:=D d;clear d
 go_wp2_with fail
 go_ret
 exact⟨rfl,h.out⟩
def Zb0 (h:Bs×Bs):List Value:=[.string ⟨h.1.toArray⟩, .string ⟨h.2.toArray⟩]
def Zay (w:World) (A:Option Addr) (l:List (Bs×Bs)):Prop:=∀(j:Nat) h,l[j]? =some h→∃ab ao,A=some ⟨ab,ao,none⟩∧Zb w ab (ao+j*2) (Zb0 h)
theorem Zay.upd (h:Zay w A l) (hu:Zg F w w1) (hF:∀ab ao,A=some ⟨ab,ao,none⟩→ab∉F):Zay w1 A l:=fun j x hj=>by
 obtain⟨ab,ao,e,hc⟩:=h j x hj
 exact⟨ab,ao,e,hc.upd hu (hF ab ao e)⟩
theorem Zay.upd0 (h:Zay w A l) (hu:Zg [] w w1):Zay w1 A l:=h.upd hu (by simp)
theorem Zhz:Zu Tryz.prog 264 2=true:=by kernel_rfl
theorem ZoY:(Tryz.prog.info? 264).map (fun i=>(i.zero,i.size,i.bytes))=some (some (.agg #[.string ⟨#[]⟩, .string ⟨#[]⟩]),2,32):=by kernel_rfl
theorem ZeO (x:Bs×Bs):∀u∈Zb0 x,u.oneCell'=true:=by intro u hu;unfold Zb0 at hu;simp at hu;rcases hu with rfl|rfl<;>rfl
def Zd3 (l:List (Bs×Bs)):Prop:=∀x∈l,x.1.length≤900000∧x.2.length≤900000
theorem Zhu (h:Bs×Bs) (w:World) (h1:h.1.length≤900000) (h2:h.2.length≤900000):
  Calls Tryz.prog 158 #[.agg (Zb0 h).toArray] w fun e w'=>e= .returned (.bool (okH h))∧Zg [] w w':=by
 obtain⟨r,q⟩:=Je (okH h)
 obtain⟨z,l⟩:=Je (Zaz h.1)
 obtain⟨v,hv⟩:=Je (YO h.2)
 have L:v.length≤900000:=by rw[hv];have:=ZaC h.2;omega
 obtain⟨G,m⟩:=Je (v.any fun c=>([0,10,13]:Bs).contains c)
 have k:=D (show r=(z&&decide (h.1.length≤64)&&decide (v.length≤4096)&& !G)by rw[q,l,m,hv];rfl)
 rw[←q]
 obtain⟨s,i⟩:=Je (w.alloc (.cells #[.string ⟨h.1.toArray⟩, .string ⟨h.2.toArray⟩] 264))
 have b:=Ja i
 have n:=Jh i
 have M:=Jc 0 n
 have N:=Jc 1 n
 have o:=Za4 h.2 s (by omega)
 rw[←hv]at o
 have p:=Zco h.1 s (by omega)
 rw[←l]at p
 have x:=Zj2 v [0,10,13] (by decide) (by decide) (by decide) (by omega) s
 rw[←m]at x
 have F:=D o;have C:=D p;have K:=D x
 clear o p x n q l hv m;change Hid _ at b i
 show Calls _ _ #[.agg #[.string ⟨h.1.toArray⟩, .string ⟨h.2.toArray⟩]] w _
 go_enter Tryz.func158,Tryz.ntmps158
 go_upto_region 1 with fail
 rw[←i.out]
 go_wp2_with fail
 refine F.out.mono ?_
 rintro e E ⟨rfl,g⟩
 rw[g];clear g E F
 go_wp2_with fail
 refine C.out.mono ?_
 rintro e E ⟨rfl,g⟩
 subst g
 clear C
 cases z with
 |false=>
  have a:=D (show r=false by rw[k.out];rfl)
  go_wp2_with fail
  go_ret
  exact⟨by rw[a.out];rfl,b.out⟩
 |true=>
 by_cases d:h.1.length≤64
 ·have J:(h.1.length:Int)≤64:=by omega
  by_cases j:v.length≤4096
  ·have H:(v.length:Int)≤4096:=by omega
   have a:=D (show r= !G by rw[k.out,decide_eq_true d,decide_eq_true j];rfl)
   clear d j
   go_wp2_with fail
   refine K.out.mono ?_
   rintro e O ⟨rfl,y⟩
   have I:=Jt b y;clear y
   go_wp2_with fail
   go_ret
   exact⟨by rw[a.out];rfl,I.out⟩
  ·have H:¬(v.length:Int)≤4096:=by omega
   have a:=D (show r=false by rw[k.out,decide_eq_false j];simp)
   clear d j
   go_wp2_with fail
   go_ret
   exact⟨by rw[a.out];rfl,b.out⟩
 ·have J:¬(h.1.length:Int)≤64:=by omega
  have a:=D (show r=false by rw[k.out,decide_eq_false d];simp)
  clear d
  go_wp2_with fail
  go_ret
  exact⟨by rw[a.out];rfl,b.out⟩
theorem Zgl (l:List (Bs×Bs)) (A:Option Addr) (c:Nat) (w:World) (hA:Zay w A l) (hl:l.length≤1000000) (hf:Zd3 l):
  Calls Tryz.prog 87 #[.slice A l.length c] w fun e w'=>e= .returned (.int .i64 (Zcd l))∧Zg [] w w':=by
 obtain⟨r,s⟩:=Je (Zcd l)
 have E:=D s
 rw[←s]
 clear s
 have V:=D hA;have Z:=D hf
 clear hA hf
 by_cases n:32<l.length
 ·have Y:(32:Int)<(l.length:Int):=by omega
  have a:=D (show r=4 by rw[E.out];unfold Zcd;rw[if_pos n])
  go_enter Tryz.func87,Tryz.ntmps87
  go_wp2_with fail
  go_ret
  exact⟨by rw[a.out];rfl,Zg.refl _ _⟩
 have Y:¬(32:Int)<(l.length:Int):=by omega
 have K:=D (show r=if l.all okH then 0 else 6 by rw[E.out];unfold Zcd;rw[if_neg n])
 have o:=D Zhz
 clear n E
 go_enter Tryz.func87,Tryz.ntmps87
 go_wp2_with fail
 go_loopw[10,4] (fun v10 _ wr=>∃(k:Nat),k≤l.length∧v10= .int .i64 k∧Hid (∀j h,j<k→l[j]? =some h→okH h=true)∧Hid (Zg [] w wr)) (fun v10 _ _=>l.length-(intOf v10).toNat)
 case atStart=>exact⟨0,Xn _,rfl,D (fun j h d=>absurd d (Nat.not_lt_zero _)),D (Zg.refl [] w)⟩
 case round=>
  obtain⟨k,hk,rfl,L,z⟩:=hrel
  by_cases S:k<l.length
  ·obtain⟨x,hx⟩:∃x,l[k]? =some x:=⟨_,Xa S⟩
   obtain⟨ab,ao,rfl,F⟩:=V.out k x hx
   have P:=D (F.upd z (by simp))
   have M:=D hx
   obtain⟨Q,O⟩:=Z.out x (Xc hx)
   have p:=Za (w:=wr) (.cells #[.string ⟨#[]⟩, .string ⟨#[]⟩] 264 (0,0))
   have W:=D p
   obtain⟨m,g⟩:=Je ((wr.alloc (.cells #[.string ⟨#[]⟩, .string ⟨#[]⟩] 264 (0,0))).setRow wr.heap.size (Zb0 x).toArray)
   have G:m.heap[wr.heap.size]? =some (.cells (Zb0 x).toArray 264 (0,0)):=by rw[g];exact setRow_heap _ _ _ _ _ _ p
   have H:Zg [] wr m:=by rw[g];exact((Zg.refl [] wr).alloc _).setRow (.inl (Xi _)) _
   have R:=D (show Zb m wr.heap.size 0 (Zb0 x)from Zb.of_block G)
   have T:=D (show(Zb0 x).toArray.all (·.oneCell')=true by rw[Xl,Xk];exact ZeO x)
   have N:=Jt z H
   have q:=Zhu x m Q O
   obtain⟨b,i⟩:=Je (okH x)
   rw[←i]at q
   have X:=D q
   clear hx F p G H q;change Hid _ at g i
   go_wp2_with(first|refine Js P o ?_|(refine Jo (Zb0 x).toArray W o T ?_;rw[←g.out])|refine Js R o ?_)
   refine X.out.mono ?_
   rintro e w3 ⟨rfl,J⟩
   have I:=Jt N J;clear J
   cases b with
   |true=>
    go_wp2_with fail
    exact⟨⟨k+1,by omega,by go_num,D (fun j y d C=>by
     by_cases e:j=k
     ·subst e;rw[M.out]at C;cases C;exact i.symm
     ·exact L j y (by omega) C),I⟩,by simp[intOf];omega⟩
   |false=>
    have a:=D (show r=6 by
     rw[K.out,if_neg]
     intro h
     have:=Xk.1 h x (Xc M)
     rw[←i.out]at this;cases this)
    go_wp2_with fail
    go_ret
    exact⟨by rw[a.out];rfl,I.out⟩
  ·obtain rfl:k=l.length:=by omega
   have a:=D (show r=0 by
    rw[K.out,if_pos]
    rw[Xk]
    intro x hx
    obtain⟨j,d⟩:=List.getElem?_of_mem hx
    exact L j x (Jk d) d)
   go_wp2_with fail
   go_ret
   exact⟨by rw[a.out];rfl,z.out⟩
end Go.Proofs.YtbgbeddbfaopgaaGreatDoor
namespace Go.Lk
theorem ZpY (h:Bs×Bs):ZdB h=if 128<(YO h.2).length then false
 else if Yx h.1=[97,99,99,101,112,116]then(YO h.2).all ZdD
 else if Yx h.1=[97,99,99,101,112,116,45,108,97,110,103,117,97,103,101]∨Yx h.1=[99,111,110,116,101,110,116,45,108,97,110,103,117,97,103,101]then(YO h.2).all Zhj
 else if Yx h.1=[99,111,110,116,101,110,116,45,116,121,112,101]then(YO h.2).all ZdD&&ZhH (YO h.2)
 else if Yx h.1=[114,97,110,103,101]then Zfv (YO h.2)
 else false:=rfl
end Go.Lk
namespace Go.Proofs.YtbgbeddbfaopgaaGreatDoor
open Go.RowKit Go.Lk
theorem Zk7 (h:Bs×Bs) (w:World) (h1:h.1.length≤900000) (h2:h.2.length≤900000) (hE:Env w):
  Calls Tryz.prog 263 #[.agg (Zb0 h).toArray] w fun e w'=>e= .returned (.bool (ZdB h))∧Zg [] w w':=by
 obtain⟨r,J⟩:=Je (ZdB h)
 obtain⟨v,hv⟩:=Je (YO h.2)
 obtain⟨n,I⟩:=Je (Yx h.1)
 have aa:v.length≤900000:=by rw[hv];have:=ZaC h.2;omega
 have k:=D (show r=if 128<v.length then false
  else if n=[97,99,99,101,112,116]then v.all ZdD
  else if n=[97,99,99,101,112,116,45,108,97,110,103,117,97,103,101]∨n=[99,111,110,116,101,110,116,45,108,97,110,103,117,97,103,101]then v.all Zhj
  else if n=[99,111,110,116,101,110,116,45,116,121,112,101]then v.all ZdD&&ZhH v
  else if n=[114,97,110,103,101]then Zfv v
  else false by rw[J,hv,I];exact ZpY h)
 rw[←J]
 obtain⟨w1,y⟩:=Je (w.alloc (.cells #[.string ⟨h.1.toArray⟩, .string ⟨h.2.toArray⟩] 264))
 have E:=Ja y
 have G:=Jh y
 have c0:=Jc 0 G
 have c1:=Jc 1 G
 have L:=Za4 h.2 w1 (by omega)
 rw[←hv]at L
 have H:=YJ h.1 w1 (by omega)
 rw[←I]at H
 have M:∀W,Calls Tryz.prog 312 #[.string ⟨v.toArray⟩, .func (.func 313) #[] #[]] W fun e w'=>e= .returned (.bool (v.all ZdD))∧w'=W:=fun W=>ZkX v ZdD 313 W (by omega) (enters_of Tryz.func313 (by kernel_rfl) rfl) ZoR
 have P:∀W,Calls Tryz.prog 312 #[.string ⟨v.toArray⟩, .func (.func 314) #[] #[]] W fun e w'=>e= .returned (.bool (v.all Zhj))∧w'=W:=fun W=>ZkX v Zhj 314 W (by omega) (enters_of Tryz.func314 (by kernel_rfl) rfl) ZnS
 have K:∀W,Env W→Calls Tryz.prog 315 #[.string ⟨v.toArray⟩] W fun e w'=>e= .returned (.bool (ZhH v))∧Zg [] W w':=fun W O=>ZlI v W (by omega) O
 have N:∀W,Env W→Calls Tryz.prog 316 #[.string ⟨v.toArray⟩] W fun e w'=>e= .returned (.bool (Zfv v))∧Zg [] W w':=fun W O=>Zmf v W (by omega) O
 obtain⟨q,R⟩:=Je (v.all ZdD)
 obtain⟨bw,T⟩:=Je (v.all Zhj)
 obtain⟨Y,V⟩:=Je (ZhH v)
 obtain⟨br,S⟩:=Je (Zfv v)
 rw[←R]at M k
 rw[←T]at P k
 rw[←V]at K k
 rw[←S]at N k
 have HE:=D hE
 have X:=D L;have Z:=D H;have C:=D M;have QW:=D P;have QF:=D K;have QR:=D N
 clear L H M P K N G J hv I R T V S hE;change Hid _ at E y
 show Calls _ _ #[.agg #[.string ⟨h.1.toArray⟩, .string ⟨h.2.toArray⟩]] w _
 go_enter Tryz.func263,Tryz.ntmps263
 go_upto_region 1 with fail
 rw[←y.out]
 go_wp2_with fail
 refine X.out.mono ?_
 rintro e j ⟨rfl,b⟩
 rw[b];clear b j X
 by_cases x:128<v.length
 ·have hz:(128:Int)<(v.length:Int):=by omega
  have a:=D (show r=false by rw[k.out,if_pos x])
  clear x
  go_wp2_with fail
  go_ret
  exact⟨by rw[a.out];rfl,E.out⟩
 have hz:¬(128:Int)<(v.length:Int):=by omega
 have p:=D (show r=if n=[97,99,99,101,112,116]then q
  else if n=[97,99,99,101,112,116,45,108,97,110,103,117,97,103,101]∨n=[99,111,110,116,101,110,116,45,108,97,110,103,117,97,103,101]then bw
  else if n=[99,111,110,116,101,110,116,45,116,121,112,101]then q&&Y
  else if n=[114,97,110,103,101]then br
  else false by rw[k.out,if_neg x])
 clear x k
 go_wp2_with fail
 refine Z.out.mono ?_
 rintro e s ⟨rfl,Q⟩
 have i:=Jt E Q;clear Q Z
 by_cases g:n=[97,99,99,101,112,116]
 ·have a:=D (show r=q by rw[p.out,if_pos g])
  subst g
  go_wp2_with fail
  refine(C.out s).mono ?_
  rintro e j ⟨rfl,b⟩
  rw[b];clear b j C
  go_wp2_with fail
  go_ret
  exact⟨by rw[a.out];rfl,i.out⟩
 by_cases d:n=[97,99,99,101,112,116,45,108,97,110,103,117,97,103,101]∨n=[99,111,110,116,101,110,116,45,108,97,110,103,117,97,103,101]
 ·have a:=D (show r=bw by rw[p.out,if_neg g,if_pos d])
  clear g
  rcases d with rfl|rfl
  all_goals
   go_wp2_with fail
   refine(QW.out s).mono ?_
   rintro e j ⟨rfl,b⟩
   rw[b];clear b j QW
   go_wp2_with fail
   go_ret
   exact⟨by rw[a.out];rfl,i.out⟩
 by_cases m:n=[99,111,110,116,101,110,116,45,116,121,112,101]
 ·have a:=D (show r=(q&&Y)by rw[p.out,if_neg g,if_neg d,if_pos m])
  clear g d
  subst m
  go_wp2_with fail
  refine(C.out s).mono ?_
  rintro e j ⟨rfl,b⟩
  rw[b];clear b j C
  cases q with
  |false=>
   go_wp2_with fail
   go_ret
   exact⟨by rw[a.out];rfl,i.out⟩
  |true=>
   go_wp2_with fail
   refine(QF.out s (HE.upd0 i)).mono ?_
   rintro e w3 ⟨rfl,o⟩
   have F:=Jt i o;clear o QF
   go_wp2_with fail
   go_ret
   exact⟨by rw[a.out];rfl,F.out⟩
 by_cases z:n=[114,97,110,103,101]
 ·have a:=D (show r=br by rw[p.out,if_neg g,if_neg d,if_neg m,if_pos z])
  clear g d m
  subst z
  go_wp2_with fail
  refine(QR.out s (HE.upd0 i)).mono ?_
  rintro e w3 ⟨rfl,o⟩
  have F:=Jt i o;clear o QR
  go_wp2_with fail
  go_ret
  exact⟨by rw[a.out];rfl,F.out⟩
 ·have a:=D (show r=false by rw[p.out,if_neg g,if_neg d,if_neg m,if_neg z])
  rw[not_or]at d
  obtain⟨d,n5⟩:=d
  have l:∀(c:Bs),n≠c→(n==c)=false:=fun c h=>by rw[beq_eq_false_iff_ne];exact h
  have f1:=l _ g
  have f2:=l _ d
  have f3:=l _ m
  have f4:=l _ z
  have f5:=l _ n5
  clear l
  go_wp2_with fail
  go_ret
  exact⟨by rw[a.out];rfl,i.out⟩
end Go.Proofs.YtbgbeddbfaopgaaGreatDoor
namespace Go.Lk
open Go.RowKit Go.Lib
theorem Znf {α:Type} (f:α→Value) (l:List α):(l.map fun x=>[f x]).flatten=l.map f:=by
 induction l with
 |nil=>rfl
 |cons a l ih=>rw[List.map_cons,List.flatten_cons,ih];rfl
theorem Znq {α:Type} [Inhabited α] (enc:α→Value) {g n cap:Nat} {xs:List (List Value)} {w W2:World} (h:Zj e 1 (.slice (some ⟨g,0,none⟩) n cap) xs w F) (q:Nat) (os:Array Obj) (ds:List α) (m:Nat) (hd:ds.length≤n) (hm:m≤ds.length)
  (hW:W2=Sort.grow (Sort.putRow enc (Sort.ahead w q) g 0 ds.toArray) os):Zj e 1 (.slice (some ⟨g,0,none⟩) m cap) ((ds.take m).map fun u=>[enc u]) W2 F:=by
 obtain⟨d,s,rfl,f,x,r,i,ht⟩:=h.block
 subst s
 rw[Nat.mul_one]at i
 have a:((ds.take m).map fun u=>[enc u]).length=m:=by rw[Xb,List.length_take];omega
 have p:W2.heap[g]? =some (.cells (Sort.putCells enc 0 ds.toArray d) e (0,0)):=by
  have o:=(Jg f)
  rw[hW]
  show((w.heap.modify g _)++os)[g]? =_
  rw[Array.getElem?_append_left (by simpa using o),Array.getElem?_modify,if_pos rfl,f]
  rfl
 refine⟨rfl,fun c t=> ?_,?_, .inr ⟨g,cap,_,by rw[a],Xn _,p,by rw[a];omega,r,?_,?_⟩⟩
 ·obtain⟨u,_,rfl⟩:=List.mem_map.1 t;rfl
 ·rw[Znf,a,Xb,List.length_take];omega
 ·unfold Sort.putCells;rw[Array.size_mapIdx,i,Nat.mul_one]
 ·rw[a,Znf,Nat.mul_one]
  apply List.ext_getElem?
  intro j
  by_cases k:j<m
  ·have b:j<ds.length:=by omega
   have l:j<d.size:=by omega
   rw[List.getElem?_take,if_pos k,Xe,List.getElem?_take,if_pos k,Array.getElem?_toList,Xa b]
   unfold Sort.putCells
   rw[Array.getElem?_mapIdx,Array.getElem?_eq_getElem l]
   simp[b]
  ·rw[List.getElem?_eq_none (by rw[List.length_take];omega),List.getElem?_eq_none (by rw[Xb,List.length_take];omega)]
theorem Zdq {P:Program} (w:World) {ops:Array Oper} {rest:List Oper} {o:Oper} {a:Act} {Q:Exit→Act→World→Prop} (hgd:o.guard=none) (s x:Operand) (t:TypeId)
  (ho:o.op= .call {callee:= .builtin .append,args:= #[s,x],argTypes:= #[t,t]})
  (e:TypeId) {size bytes:Nat} (ht:P.underlying t=some (.slice e)) (hi:(P.info? e).map (fun i=>(i.zero,i.size,i.bytes))=some (some z,size,bytes)) (hzs:z.cells.size=size) (hsz:0<size) (hby:bytes≤200)
  (v:Value) (xs:List (List Value)) (F:List Nat) (hs:a.eval s=v) (hr:Zj e size v xs w F)
  (u:Value) (ys:List (List Value)) (G:List Nat) (hx:a.eval x=u) (hy:Zj e size u ys w G) (h1:∀c∈ys,∀u∈c,u.oneCell'=true) (hl:xs.length+ys.length≤500000000000)
  (h:∀v' w' F',Zj e size v' (xs++ys) w' F'→Zg F w w'→(∀x∈F',x∈F∨w.heap.size≤x)→wpList P ops Q rest (a.put o.dst v') w'):wpList P ops Q (o::rest) a w:=by
 obtain⟨i,y,r,I,J⟩:=info_parts hi
 obtain⟨rfl,m,q⟩:=hr
 have E:=hy.2.1
 obtain⟨A,c,rfl,p,O⟩:=hy.lies
 have n:=hy.2.2.1
 refine ZbR w hgd s x t ho 0 e i z size bytes ht y r I J hzs hsz v xs.length xs.flatten hs q A ys.length c ys.flatten hx n (fun j u b=> ?_) (fun u f=>by obtain⟨c,p,f⟩:=List.mem_flatten.1 f;exact h1 c p u f) (by unfold maxLen;omega) ?_ (Xn _) ?_
 ·rcases hy.form with⟨_,rfl,_⟩|⟨g,T,R,l,rfl,N,S,W,V,H⟩
  ·simp at b
  ·injection l with l _ _
   refine⟨_,l,?_⟩
   rw[add_plain]
   refine Zc N ?_
   rw[Nat.zero_add,←Array.getElem?_toList]
   have C:j<ys.length*size:=by rw[←n];exact(Jk b)
   rw[←H,List.getElem?_take,if_pos C]at b
   exact b
 ·calc (xs.length+ys.length)*bytes≤500000000000*200:=Nat.mul_le_mul (by omega) hby
   _≤140737488355328:=by omega
 ·intro v' w' M K L
  refine h v' w' v'.ownBlock.toList ⟨rfl,fun d hd=> ?_,?_⟩ ((Zg.refl _ w).grown K (fun k m=> .inr (by simp[m]))) (fun x hx=> ?_)
  ·rcases List.mem_append.1 hd with h1|h1
   ·exact m d h1
   ·exact E d h1
  ·rw[Xd,List.flatten_append]
   exact ZhE M (Xn _)
  ·rcases L with ho|ho
   ·rw[ho]at hx;exact .inl hx
   ·rw[ho]at hx;right;simp at hx;omega
theorem Zdv:∀(l:List Bs) (a b:Bs),ZU (l++[a,b])=if a=b then ZU (l++[a])else ZU (l++[a])++[b]
 |[],a,b=>by
  show ZU [a,b]=if a=b then ZU [a]else ZU [a]++[b]
  unfold ZU
  split
  ·rename_i h;rw[h];rfl
  ·rfl
 |[x],a,b=>by
  have ih:=Zdv [] a b
  simp only[List.nil_append]at ih
  show ZU (x::a::[b])=if a=b then ZU (x::a::[])else ZU (x::a::[])++[b]
  rw[ZU,ZU.eq_def (x::a::[])]
  dsimp only
  rw[ih]
  split<;>split<;>rfl
 |x::y::l,a,b=>by
  have ih:=Zdv (y::l) a b
  show ZU (x::y::(l++[a,b]))=if a=b then ZU (x::y::(l++[a]))else ZU (x::y::(l++[a]))++[b]
  rw[ZU,ZU.eq_def (x::y::(l++[a]))]
  dsimp only
  simp only[List.cons_append]at ih
  rw[ih]
  split<;>split<;>rfl
theorem ZfR (zs:List Bs):∀m,m≤zs.length→compactUpTo zs.toArray m=ZU (zs.take m)
 |0,_=>rfl
 |m+1,h=>by
  rw[compactUpTo_succ,ZfR zs m (by omega)]
  have hm:zs.toArray[m]! =zs[m]:=by rw[getElem!_pos zs.toArray m (by simp;omega)];simp
  cases m with
  |zero=>
   have hz:zs.take 1=[zs[0]]:=by
    cases zs with
    |nil=>simp at h
    |cons a l=>rfl
   rw[hm,hz]
   rfl
  |succ k=>
   have c:zs.toArray[k+1-1]! =zs[k]:=by rw[Nat.add_sub_cancel,getElem!_pos zs.toArray k (by simp;omega)];simp
   have d:zs.take (k+1)=zs.take k++[zs[k]]:=Xr (by omega)
   have f:zs.take (k+1+1)=zs.take k++[zs[k],zs[k+1]]:=by rw[Xr (by omega),d,List.append_assoc];rfl
   rw[f,Zdv,d]
   by_cases b:zs[k]=zs[k+1]
   ·rw[if_pos b,keeps_neg (by omega) (by rw[hm,c,b])]
    simp
   ·rw[if_neg b,keeps_pos (by rw[hm,c];exact fun e=>b e.symm),hm]
    simp
theorem ZhZ (zs:List Bs):Lib.compact zs=ZU zs:=by
 unfold Lib.compact
 rw[ZfR zs _ (Xi _),Xm]
theorem Zd1 (zs:List Bs):(ZU zs).length≤zs.length:=by
 rw[←ZhZ]
 unfold Lib.compact compactUpTo
 rw[Xb]
 exact Xj (Xq _ _) (by simp)
end Go.Lk
namespace Go.Proofs.YtbgbeddbfaopgaaGreatDoor
open Go.RowKit Go.Lk
theorem Zii {g n cap:Nat} (h:Ye (.slice (some ⟨g,0,none⟩) n cap) l w F):Sort.Holds encStr w g 0 l.toArray:=by
 obtain⟨d,_,_,c,f,i,e,ht⟩:=h.block
 intro j a
 have b:j<l.length:=by simpa using a
 refine⟨?_,Zk c⟩
 have:=Zj.liesAt h (j:=j) (cs:=Zbb l[j]) (by rw[Xe,Xa b];rfl) 0 _ rfl
 rw[Nat.mul_one,Nat.add_zero]at this
 rw[Nat.zero_add,this,getElem!_pos l.toArray j a]
 simp
theorem Zi1 (h:Ye v l w F) (hl:l.length≤1000000):
  Calls Tryz.prog 264 #[v] w fun e w'=>e= .returned (.tuple #[])∧Ye v (ZbK l) w' F∧Zg F w w':=by
 rcases h.form with⟨rfl,m,rfl⟩|⟨g,c,o,a,rfl,i,q,s,p,ht⟩
 ·refine(Tryz.slices_Sort_string_none none 0 w).mono ?_
  rintro e w' ⟨rfl,rfl⟩
  have j:l=[]:=List.map_eq_nil_iff.1 m
  subst j
  exact⟨rfl,by simpa[ZbK]using h,Zg.refl _ _⟩
 ·rw[Xb]at a
  subst a
  refine(Tryz.slices_Sort_string g 0 c l w (Zii h) (Jg i) (by omega)).mono ?_
  rintro e w' ⟨rfl,n,k,b⟩
  have d:(ZbK l).length=l.length:=by unfold ZbK;exact List.length_mergeSort ..
  have r:=Znq encStr h n k (ZbK l) (ZbK l).length (by omega) (Xi _) b
  rw[Xm,d]at r
  exact⟨rfl,r,by rw[b];exact ZfB _ _ _ _ _ _ _⟩
theorem Zgi (h:Ye v l w F) (hl:l.length≤1000000):
  Calls Tryz.prog 265 #[v] w fun e w'=>∃v',e= .returned v'∧Ye v' (ZU l) w' F∧Zg F w w':=by
 rcases h.form with⟨rfl,j,rfl⟩|⟨g,d,k,b,rfl,n,c,p,o,ht⟩
 ·refine(Tryz.slices_Compact_string_empty none 0 w).mono ?_
  rintro e w' ⟨rfl,rfl⟩
  have i:l=[]:=List.map_eq_nil_iff.1 j
  subst i
  exact⟨_,rfl,h,Zg.refl _ _⟩
 ·rw[Xb]at b c
  subst b
  refine(Tryz.slices_Compact_string g 0 d l w (Zii h) (by omega) c).mono ?_
  rintro e w' ⟨rfl,q,a⟩
  rw[ZhZ]at a⊢
  have m:=Zd1 l
  have r:=Znq (W2:=w') encStr h q #[] (ZU l++List.replicate (l.length-(ZU l).length) []) (ZU l).length (by simp;omega) (by simp) (by rw[a];simp)
  rw[List.take_left]at r
  exact⟨_,rfl,r,by rw[a];have:=ZfB encStr w g 0 q (ZU l++List.replicate (l.length-(ZU l).length) []).toArray #[];simpa using this⟩
end Go.Proofs.YtbgbeddbfaopgaaGreatDoor
