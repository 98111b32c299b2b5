import Derived.Test.YtlhapbopmplngaaGreatDoorS8
import Derived.Test.YtlhapbopmplngaaGreatDoorS12
set_option linter.all false
set_option maxHeartbeats 16000000
set_option maxRecDepth 100000
set_option autoImplicit true
set_option relaxedAutoImplicit true
namespace Go.Lk
def Zdb (s sep:Bs):(Lib.cut s sep).1.length≤s.length∧(Lib.cut s sep).2.1.length≤s.length:=by
 unfold Lib.cut
 split
 ·exact⟨by rw[List.length_take];omega,by rw[List.length_drop];omega⟩
 ·exact⟨Xi _,by simp⟩
end Go.Lk
namespace Go.Proofs.YtlhapbopmplngaaGreatDoor
open Go.RowKit Go.Lk
def Zck (hE:Env w) (s sep:Bs) (hs:s.length≤1000000):
  Calls Tryz.prog 168 #[.string ⟨s.toArray⟩, .string ⟨sep.toArray⟩] w fun e w'=>e= .returned (.tuple #[.string ⟨(Lib.cut s sep).1.toArray⟩, .string ⟨(Lib.cut s sep).2.1.toArray⟩, .bool (Lib.cut s sep).2.2])∧Zg [] w w':=by
 obtain⟨m,a⟩:=hE.m
 refine(Tryz.strings_Cut ⟨s.toArray⟩ ⟨sep.toArray⟩ m w (by simp[ByteArray.size];omega) a).mono ?_
 rintro e w' ⟨rfl,n,rfl⟩
 exact⟨rfl,(Zg.refl [] w).drewN n⟩
def ZaB (o:Zs):∀u∈ZB o,u.oneCell'=true:=by intro u hu;unfold ZB at hu;simp at hu;rcases hu with rfl|rfl|rfl<;>rfl
def ZhG (w:World) (r:Zs×Int) (e:Ending) (w':World):Prop:=e= .returned (.tuple #[.agg (ZB r.1).toArray, .int .i64 r.2])∧Zg [] w w'
def Zev {P:Prop}(h:P:=by
 have aj:=D (F.upd k)
 have ak:=D (show(ZB o).toArray.all (·.oneCell')=true by rw[Xl,Xk];exact ZaB _)
 clear k
 cases ck with
 |false=>
  have g:=D (show R=(Zs.zero,3)by rw[n.out];rfl)
  go_wp2_with(refine Jo (ZB Zs.zero).toArray l a O ?_)
  refine bodyPost_ret (v:= .tuple #[.agg (ZB Zs.zero).toArray, .int .i64 3]) (Zj _ Tryz.results98 (b:=w.heap.size) (o:=0) rfl rfl a (Zb.of_block (setRow_heap _ _ _ _ _ _ l))) rfl ?_
  rw[g.out]
  exact⟨rfl,E.setRow (.inl (Xi _)) _⟩
 |true=>
  have g:=D (show R=(o,0)by rw[n.out];rfl)
  go_wp2_with(first|refine Jl aj a ?_|refine Jo (ZB o).toArray l a ak ?_)
  refine bodyPost_ret (v:= .tuple #[.agg (ZB o).toArray, .int .i64 0]) (Zj _ Tryz.results98 (b:=w.heap.size) (o:=0) rfl rfl a (Zb.of_block (setRow_heap _ _ _ _ _ _ l))) rfl ?_
  rw[g.out]
  exact⟨rfl,E.setRow (.inl (Xi _)) _⟩):P:=h
def Zd4 (x:Bs) (w:World) (hx:x.length≤900000) (hE:Env w):
  Calls Tryz.prog 98 #[.string ⟨x.toArray⟩] w (ZhG w (YX x)):=by
 obtain⟨R,hR⟩:=Je (YX x)
 have al:=D hR
 rw[←hR]
 clear hR
 have V:=D hE;clear hE
 have a:=D (show Zu Tryz.prog 203 3=true by kernel_rfl)
 have O:=D (show(ZB Zs.zero).toArray.all (·.oneCell')=true by rw[Xl,Xk];exact ZaB _)
 obtain⟨w1,ae,aq,Q⟩:=Kc w (.cells #[.string ⟨#[]⟩, .string ⟨#[]⟩, .int .i64 0] 203)
 change Hid _ at ae aq Q
 by_cases L:512<x.length
 ·have hz:(512:Int)<(x.length:Int):=by omega
  have g:=D (show R=(Zs.zero,4)by rw[al.out];unfold YX;rw[if_pos L])
  clear L
  go_in
  go_upto_region 1 with fail
  rw[←ae.out]
  go_wp2_with(refine Jo (ZB Zs.zero).toArray Q a O ?_)
  refine bodyPost_ret (v:= .tuple #[.agg (ZB Zs.zero).toArray, .int .i64 4]) (Zj _ Tryz.results98 (b:=w.heap.size) (o:=0) rfl rfl a (Zb.of_block (setRow_heap _ _ _ _ _ _ Q))) rfl ?_
  rw[g.out]
  exact⟨rfl,aq.setRow (.inl (Xi _)) _⟩
 have hz:¬(512:Int)<(x.length:Int):=by omega
 obtain⟨K,P⟩:=Je (Yu x)
 have q1:=YF x w1 (by omega)
 rw[←P]at q1
 have aK:K.length≤900000:=by rw[P,ZfR];exact hx
 obtain⟨c,Y⟩:=Je (Lib.cut K [58,47,47])
 have an:=Zdb K [58,47,47]
 have ax:∀W,Env W→Calls Tryz.prog 168 #[.string ⟨K.toArray⟩, .string ⟨#[58,47,47]⟩] W fun e w'=>e= .returned (.tuple #[.string ⟨c.1.toArray⟩, .string ⟨c.2.1.toArray⟩, .bool c.2.2])∧Zg [] W w':=fun W hW=>by rw[Y];exact Zck hW K [58,47,47] (by omega)
 rw[←Y]at an
 have y:=D (show R=if !c.2.2 then(Zs.zero,3)else
   (if YY ⟨c.1,(Lib.cut c.2.1 [58]).1,if(Lib.cut c.2.1 [58]).2.2 then Zen (Lib.cut c.2.1 [58]).2.1 else YS c.1⟩then(⟨c.1,(Lib.cut c.2.1 [58]).1,if(Lib.cut c.2.1 [58]).2.2 then Zen (Lib.cut c.2.1 [58]).2.1 else YS c.1⟩,0)else(Zs.zero,3))by
  rw[al.out];unfold YX;rw[if_neg L,←P,←Y])
 have Q1:=D q1;have ay:=D ax;have S:=D an
 clear q1 ax an Y P L al
 go_in
 go_upto_region 1 with fail
 rw[←ae.out]
 go_wp2_with fail
 refine Q1.out.mono ?_
 rintro e w2 ⟨rfl,au⟩
 have aD:=Jt aq au;have aL:=D ((Kv au Q))
 clear au Q1
 go_wp2_with fail
 refine(ay.out w2 (V.upd0 aD)).mono ?_
 rintro e w3 ⟨rfl,av⟩
 have aw:=Jt aD av;have ar:=D ((Kv av aL))
 clear av ay
 obtain⟨d,rest,ok⟩:=c
 dsimp only at y S
 cases ok with
 |false=>
  have g:=D (show R=(Zs.zero,3)by rw[y.out];rfl)
  go_wp2_with(refine Jo (ZB Zs.zero).toArray ar a O ?_)
  refine bodyPost_ret (v:= .tuple #[.agg (ZB Zs.zero).toArray, .int .i64 3]) (Zj _ Tryz.results98 (b:=w.heap.size) (o:=0) rfl rfl a (Zb.of_block (setRow_heap _ _ _ _ _ _ ar))) rfl ?_
  rw[g.out]
  exact⟨rfl,aw.setRow (.inl (Xi _)) _⟩
 |true=>
 obtain⟨h,hh⟩:=Je (Lib.cut rest [58])
 have ab:=Zdb rest [58]
 have q4:=Zck (V.upd0 aw) rest [58] (by have:=S.out.2;omega)
 rw[←hh]at ab q4 y
 obtain⟨m,af⟩:=Je (YS d)
 rw[←af]at y
 have aH:∀W,Calls Tryz.prog 174 #[.string ⟨d.toArray⟩] W fun e w'=>e= .returned (.int .i64 m)∧w'=W:=fun W=>by rw[af];exact ZcO d W
 have Q4:=D q4;have ao:=D ab;have aF:=D aH
 clear q4 ab aH hh af
 go_wp2_with fail
 refine Q4.out.mono ?_
 rintro e z ⟨rfl,ag⟩
 have aG:=Jt aw ag;have aB:=D ((Kv ag ar))
 clear ag Q4
 obtain⟨j,r,C⟩:=h
 dsimp only at y ao
 have am:=D (show R=if YY ⟨d,j,if C then Zen r else m⟩then(⟨d,j,if C then Zen r else m⟩,0)else(Zs.zero,3)by rw[y.out];rfl)
 go_wp2_with fail
 refine(aF.out z).mono ?_
 rintro e wt ⟨rfl,J⟩
 rw[J];clear J wt aF
 have hp:(if C then Zen r else m)=(if C then Zen r else m):=rfl
 clear hp
 obtain⟨Z,M⟩:=Je ((z.alloc (.cells #[.string ⟨#[]⟩, .string ⟨#[]⟩, .int .i64 0] 203 (0,0))).setRow z.heap.size (ZB ⟨d,j,m⟩).toArray)
 have aC:=D (Za (w:=z) (.cells #[.string ⟨#[]⟩, .string ⟨#[]⟩, .int .i64 0] 203 (0,0)))
 have T:=Kk M aC
 have ah:=Kh M
 have aM:=D (show(ZB ⟨d,j,m⟩).toArray.all (·.oneCell')=true by rw[Xl,Xk];exact ZaB _)
 have ac:=D T;have aa:=Jt aG ah;have az:=D ((Kv ah aB))
 have aA:=D (show z.heap.size≠w.heap.size by have:=(Jg aB);omega)
 have c2:=Jc 2 T
 have f2:=Kf 2 T
 have aN:=D (show r.length≤1000000 by have:=ao.out.2;have:=S.out.2;omega)
 have aI:=D (show j.length≤900000 by have h1:=ao.out.1;have h2:=S.out.2;exact Xj h1 (Xj h2 aK))
 clear T ah;change Hid _ at M
 go_upto_region 8 with(refine Jo (ZB ⟨d,j,m⟩).toArray aC a aM ?_;rw[←M.out])
 obtain⟨X,ap⟩:=Je z.heap.size
 rw[←ap]at c2 f2 ac aA⊢
 change Hid _ at ap
 cases C
 case false=>
  obtain⟨o,ho⟩:∃o:Zs,o=⟨d,j,m⟩:=⟨_,rfl⟩
  have n:=D (show R=if YY o then(o,0)else(Zs.zero,3)by rw[am.out,ho];rfl)
  have ai:=D (show o.host.length≤900000 by rw[ho];exact aI)
  have I:=ac
  rw[←ho]at I
  have s:=ZbC o Z ai (V.upd0 aa)
  obtain⟨ck,H⟩:=Je (YY o)
  rw[←H]at s n
  have F:=D (show Zb Z X 0 (ZB o)from Zb.of_block I)
  have Q6:=D s
  clear s H ho c2 f2
  go_wp2_with(refine Jl F a ?_)
  refine Q6.out.mono ?_
  rintro e w7 ⟨rfl,k⟩
  have E:=Jt aa k;have l:=D ((Kv k az))
  exact Zev
 case true=>
  have q5:=Zlk r Z aN.out
  obtain⟨p,hp⟩:=Je (Zen r)
  rw[←hp]at q5 am
  have Q5:=D q5
  clear q5 hp
  go_wp2_with fail
  refine Q5.out.mono ?_
  rintro e wt ⟨rfl,J⟩
  rw[J];clear J wt Q5
  go_upto_region 10 with fail
  obtain⟨w6,N⟩:=Je (Z.setCell ⟨X,2,none⟩ (.int .i64 p))
  have aJ:=D (show w6.heap[X]? =some (.cells (ZB ⟨d,j,p⟩).toArray 203 (0,0))by rw[N];exact(Zd (i:=2) ac _).trans rfl)
  have ad:=Kd N
  have aE:=D ((aa.weaken (G:=[]) (by simp)).trans ad (fun q hq=> .inl (by rw[Jm hq,ap.out];exact aG.size)))
  have aO:=D ((Kv ad az (by simpa using Ne.symm aA)))
  rw[←N]
  clear N ad c2 f2
  obtain⟨o,ho⟩:∃o:Zs,o=⟨d,j,p⟩:=⟨_,rfl⟩
  have n:=D (show R=if YY o then(o,0)else(Zs.zero,3)by rw[am.out,ho];rfl)
  have ai:=D (show o.host.length≤900000 by rw[ho];exact aI)
  have I:=aJ
  rw[←ho]at I
  have s:=ZbC o w6 ai (V.upd0 aE)
  obtain⟨ck,H⟩:=Je (YY o)
  rw[←H]at s n
  have F:=D (show Zb w6 X 0 (ZB o)from Zb.of_block I)
  have Q6:=D s
  clear s H ho
  go_wp2_with(refine Jl F a ?_)
  refine Q6.out.mono ?_
  rintro e w7 ⟨rfl,k⟩
  have E:=Jt aE k;have l:=D ((Kv k aO))
  exact Zev
def ZnV (c:UInt8):((c.toNat:Int).toNat.toUInt8)=c:=by simp
def Zpn (c:UInt8) (w:World):
  Calls Tryz.prog 311 #[.int .u8 c.toNat] w fun e w'=>e= .returned (.bool (ZdC c))∧w'=w:=by
 obtain⟨r,o⟩:=Je (ZdC c)
 have p:=D o
 rw[←o]
 clear o
 by_cases a:c=9
 ·have x:(c.toNat:Int)=9:=by rw[a];rfl
  have b:=D (show r=true by rw[p.out,a];rfl)
  clear a
  go_in
  go_wp2_with fail
  go_ret
  exact⟨by rw[b.out];rfl,rfl⟩
 ·have x:¬(c.toNat:Int)=9:=fun h=>a (by
   have F:c.toNat=(9:UInt8).toNat:=by show c.toNat=9;omega
   exact UInt8.toNat_inj.1 F)
  have k:(c==9)=false:=by rw[beq_eq_false_iff_ne];exact a
  have C:((c.toNat:Int)==9)=false:=by rw[beq_eq_false_iff_ne];exact x
  by_cases j:32≤c.toNat
  ·have z:(32:Int)≤(c.toNat:Int):=by omega
   have q:= Tryz.strings_IndexByte ⟨#[34,40,41,58,60,62,63,64,91,92,93,123,125,127]⟩ (c.toNat:Int) w
   rw[ZnV]at q
   obtain⟨i,m⟩:=Je (Lib.indexByte (⟨#[34,40,41,58,60,62,63,64,91,92,93,123,125,127]⟩:ByteArray).data.toList c)
   rw[←m]at q
   have y:=Zca Zry c
   have t:i=Lib.indexByte Zry c:=m
   rw[←t]at y
   have b:=D (show r= !Zry.contains c by rw[p.out];unfold ZdC;rw[k,decide_eq_true j];rfl)
   have Q:=D q
   clear q m t a k j
   rcases y with⟨n,g⟩|⟨n,g⟩
   ·have l:=D (show r=true by rw[b.out,g];rfl)
    have E:i<0:=by omega
    clear g n
    go_in
    go_wp2_with fail
    refine Q.out.mono ?_
    rintro e s ⟨rfl,d⟩
    rw[d];clear d s Q
    go_wp2_with fail
    go_ret
    exact⟨by rw[l.out];rfl,rfl⟩
   ·have l:=D (show r=false by rw[b.out,g];rfl)
    have E:¬i<0:=by omega
    clear g n
    go_in
    go_wp2_with fail
    refine Q.out.mono ?_
    rintro e s ⟨rfl,d⟩
    rw[d];clear d s Q
    go_wp2_with fail
    go_ret
    exact⟨by rw[l.out,show Value.bool false=Value.bool (decide (i<0))by rw[decide_eq_false (show¬i<0 by omega)]];rfl,rfl⟩
  ·have z:¬(32:Int)≤(c.toNat:Int):=by omega
   have b:=D (show r=false by rw[p.out];unfold ZdC;rw[k,decide_eq_false j];rfl)
   clear a k j
   go_in
   go_wp2_with fail
   go_ret
   exact⟨by rw[b.out,show Value.bool false=Value.bool ((c.toNat:Int)==9)by rw[C]];rfl,rfl⟩
def Zq4:∀n:Fin 256,bits .or .u8 (n.val:Int) 32=((UInt8.ofNat n.val|||32).toNat:Int):=by decide+kernel
def Zsk (c:UInt8):bits .or .u8 (c.toNat:Int) 32=((c|||32).toNat:Int):=by
 have h:=Zq4 ⟨c.toNat,c.toNat_lt⟩
 simp at h
 exact h
def Zoz (c:UInt8) (w:World):
  Calls Tryz.prog 312 #[.int .u8 c.toNat] w fun e w'=>e= .returned (.bool (Zhb c))∧w'=w:=by
 obtain⟨d,hd⟩:∃d:Nat,d=(c|||32).toNat:=⟨_,rfl⟩
 obtain⟨j,g⟩:=Je (([32,42,44,45,46,59,61]:Bs).contains c)
 obtain⟨r,k⟩:=Je (Zhb c)
 have s:=D (show r=((decide (97≤d)&&decide (d≤122))||(decide (48≤c.toNat)&&decide (c.toNat≤57))||j)by rw[k,hd,g];rfl)
 rw[←k]
 have a:=Zsk c
 rw[←hd]at a
 have y:=D a
 clear k hd a
 have q:= Tryz.strings_IndexByte ⟨#[32,42,44,45,46,59,61]⟩ (c.toNat:Int) w
 rw[ZnV]at q
 obtain⟨p,b⟩:=Je (Lib.indexByte (⟨#[32,42,44,45,46,59,61]⟩:ByteArray).data.toList c)
 rw[←b]at q
 have l:=Zca [32,42,44,45,46,59,61] c
 have n:p=Lib.indexByte [32,42,44,45,46,59,61] c:=b
 rw[←n,←g]at l
 have t:=D (show j=decide (0≤p)by
  rcases l with⟨m,i⟩|⟨m,i⟩
  ·rw[i,m];rfl
  ·rw[i,decide_eq_true m])
 have Q:=D q
 clear q b n l g
 go_in
 go_upto_region 2 with fail
 rw[y.out]
 by_cases F:(97:Int)≤d<;>by_cases z:(d:Int)≤122<;>by_cases C:(48:Int)≤c.toNat<;>by_cases E:(c.toNat:Int)≤57<;>
  first
  |(
   have h:=D (show r=true by
    rw[s.out]
    first|rw[decide_eq_true (show 97≤d by omega)]|rw[decide_eq_false (show¬97≤d by omega)]
    first|rw[decide_eq_true (show d≤122 by omega)]|rw[decide_eq_false (show¬d≤122 by omega)]
    first|rw[decide_eq_true (show 48≤c.toNat by omega)]|rw[decide_eq_false (show¬48≤c.toNat by omega)]
    first|rw[decide_eq_true (show c.toNat≤57 by omega)]|rw[decide_eq_false (show¬c.toNat≤57 by omega)]
    exact rfl)
   go_wp2_with fail
   go_ret
   exact⟨by rw[h.out];rfl,rfl⟩)
  |(exfalso;omega)
  |(
   have h:=D (show r=j by
    rw[s.out]
    first|rw[decide_eq_true (show 97≤d by omega)]|rw[decide_eq_false (show¬97≤d by omega)]
    first|rw[decide_eq_true (show d≤122 by omega)]|rw[decide_eq_false (show¬d≤122 by omega)]
    first|rw[decide_eq_true (show 48≤c.toNat by omega)]|rw[decide_eq_false (show¬48≤c.toNat by omega)]
    first|rw[decide_eq_true (show c.toNat≤57 by omega)]|rw[decide_eq_false (show¬c.toNat≤57 by omega)]
    exact rfl)
   go_wp2_with fail
   refine Q.out.mono ?_
   rintro e x ⟨rfl,o⟩
   rw[o];clear o x Q
   go_wp2_with fail
   go_ret
   exact⟨by rw[h.out,t.out];rfl,rfl⟩)
def Zk9 (x:Bs) (P:UInt8→Bool) (g:FuncId) (w:World) (hx:x.length≤1000000) (eg:∀args w,(callFunc g args).run Tryz.prog w= .ok (.enter g args) w)
  (hP:∀(c:UInt8) (W:World),Calls Tryz.prog g #[.int .u8 c.toNat] W fun e w'=>e= .returned (.bool (P c))∧w'=W):
  Calls Tryz.prog 310 #[.string ⟨x.toArray⟩, .func (.func g) #[] #[]] w fun e w'=>e= .returned (.bool (x.all P))∧w'=w:=by
 obtain⟨r,l⟩:=Je (x.all P)
 have t:=D l
 have H:=D hP
 rw[←l]
 clear l hP
 go_in
 go_wp2_with fail
 go_loopw[8] (fun v8 wr=>∃(k:Nat),k≤x.length∧v8= .int .i64 k∧Hid ((x.take k).all P=true)∧wr=w) (fun v8 _=>x.length-(intOf v8).toNat)
 case atStart=>exact⟨0,by omega,rfl,D rfl,rfl⟩
 case round=>
  obtain⟨k,J,rfl,o,rfl⟩:=hrel
  by_cases i:k<x.length
  ·obtain⟨y,a⟩:=Je (x[k])
   have hg:=Zaj x k i
   rw[←a]at hg
   have C:x.take (k+1)=x.take k++[y]:=by rw[Xr i,a]
   have s:y∈x:=by rw[a];exact List.getElem_mem i
   obtain⟨b,d⟩:=Je (P y)
   have p:b=false→r=false:=fun m=>by
    rw[t.out,Bool.eq_false_iff]
    intro h
    have:=(Xk.1 h) y s
    rw[←d,m]at this;cases this
   have n:b=true→(x.take (k+1)).all P=true:=fun m=>by rw[C,List.all_append,o.out];simp[←d,m]
   have F:=D p;have E:=D n
   have q:=H.out y wr
   rw[←d]at q
   have Q:=D q
   clear C s a p n q d
   go_wp2_with fail
   refine Q.out.mono ?_
   rintro e I ⟨rfl,z⟩
   rw[z];clear z I Q
   cases b with
   |true=>
    have G:=D (E.out rfl)
    go_wp2_with fail
    exact⟨⟨k+1,by omega,by go_num,G,by trivial⟩,by simp[intOf];omega⟩
   |false=>
    have j:=D (F.out rfl)
    go_wp2_with fail
    go_ret
    exact⟨by rw[j.out];rfl,by trivial⟩
  ·obtain rfl:k=x.length:=by omega
   have j:=D (show r=true by have h:=o.out;rw[Xm]at h;rw[t.out,h])
   go_wp2_with fail
   go_ret
   exact⟨by rw[j.out];rfl,by trivial⟩
def ZcR {P:Prop}(h:P:=by
 have b:=D (show r=([],false)by rw[d.out];rfl)
 go_wp2_with fail
 go_ret2
 exact⟨by rw[b.out];rfl,k.out⟩):P:=h
def Zj9 (v:Bs) (w:World) (hv:v.length≤1000000) (hE:Env w):
  Calls Tryz.prog 346 #[.string ⟨v.toArray⟩] w fun e w'=>e= .returned (.tuple #[.string ⟨(Znw v).1.toArray⟩, .bool (Znw v).2])∧Zg [] w w':=by
 obtain⟨r,s⟩:=Je (Znw v)
 obtain⟨i,j⟩:=Je (Lib.cut v [59])
 obtain⟨h,m⟩:=Je (YL i.1)
 obtain⟨c,l⟩:=Je (Lib.cut h [47])
 have N:=Zdb v [59]
 rw[←j]at N
 have G:=Zav i.1
 rw[←m]at G
 have H:=Zdb h [47]
 rw[←l]at H
 have d:=D (show r=if !c.2.2|| !Zat c.1|| !Zat c.2.1 then([],false)else(Yu h,true)by rw[s,l,m,j];rfl)
 rw[←s]
 have q:=Zck hE v [59] hv
 rw[←j]at q
 have Q:∀W,Calls Tryz.prog 189 #[.string ⟨i.1.toArray⟩] W fun e w'=>e= .returned (.string ⟨h.toArray⟩)∧w'=W:=fun W=>by rw[m];exact ZaR i.1 W (by omega)
 have P:∀W,Env W→Calls Tryz.prog 168 #[.string ⟨h.toArray⟩, .string ⟨#[47]⟩] W fun e w'=>e= .returned (.tuple #[.string ⟨c.1.toArray⟩, .string ⟨c.2.1.toArray⟩, .bool c.2.2])∧Zg [] W w':=fun W hW=>by rw[l];exact Zck hW h [47] (by omega)
 obtain⟨R,n⟩:=Je (Zat c.1)
 obtain⟨S,o⟩:=Je (Zat c.2.1)
 have V:∀W,Calls Tryz.prog 229 #[.string ⟨c.1.toArray⟩] W fun e w'=>e= .returned (.bool R)∧W=w':=fun W=>by rw[n];exact Zcp c.1 W (by omega)
 have O:∀W,Calls Tryz.prog 229 #[.string ⟨c.2.1.toArray⟩] W fun e w'=>e= .returned (.bool S)∧W=w':=fun W=>by rw[o];exact Zcp c.2.1 W (by omega)
 have t:∀W,Calls Tryz.prog 173 #[.string ⟨h.toArray⟩] W fun e w'=>e= .returned (.string ⟨(Yu h).toArray⟩)∧Zg [] W w':=fun W=>YF h W (by omega)
 obtain⟨Z,J⟩:=Je (Yu h)
 rw[←J]at t d
 rw[←n,←o]at d
 have HE:=D hE
 have z:=D q;have p:=D Q;have C:=D P;have F:=D V;have y:=D O;have E:=D t
 clear s j m l n o J q Q P V O t hE N G H
 obtain⟨x1,x2,x3⟩:=i
 obtain⟨y1,y2,Y⟩:=c
 dsimp only at d z p C F y E
 go_in
 go_wp2_with fail
 refine z.out.mono ?_
 rintro e T ⟨rfl,K⟩
 have I:=D K;clear K z
 go_wp2_with fail
 refine(p.out T).mono ?_
 rintro e g ⟨rfl,a⟩
 rw[a];clear a g p
 go_wp2_with fail
 refine(C.out T (HE.upd0 I)).mono ?_
 rintro e x ⟨rfl,L⟩
 have k:=Jt I L;clear L C
 cases Y with
 |false=>
  exact ZcR
 |true=>
 go_wp2_with fail
 refine(F.out x).mono ?_
 rintro e g ⟨rfl,a⟩
 rw[←a];clear a g F
 cases R with
 |false=>
  exact ZcR
 |true=>
 go_wp2_with fail
 refine(y.out x).mono ?_
 rintro e g ⟨rfl,a⟩
 rw[←a];clear a g y
 cases S with
 |false=>
  exact ZcR
 |true=>
  have b:=D (show r=(Z,true)by rw[d.out];rfl)
  go_wp2_with fail
  refine(E.out x).mono ?_
  rintro e w3 ⟨rfl,M⟩
  have X:=Jt k M;clear M E
  go_wp2_with fail
  go_ret2
  exact⟨by rw[b.out];rfl,X.out⟩
def Zky {a b:Bs}:((⟨a.toArray⟩:ByteArray)=⟨b.toArray⟩)↔a=b:=by simp
def Zls (v:Bs) (w:World) (hv:v.length≤1000000) (hE:Env w):
  Calls Tryz.prog 313 #[.string ⟨v.toArray⟩] w fun e w'=>e= .returned (.bool (ZiX v))∧Zg [] w w':=by
 obtain⟨r,d⟩:=Je (ZiX v)
 have q:=Zj9 v w hv hE
 obtain⟨s,c⟩:=Je (Znw v)
 rw[←c]at q
 have h:=D (show r=(s.1==[97,112,112,108,105,99,97,116,105,111,110,47,120,45,119,119,119,45,102,111,114,109,45,117,114,108,101,110,99,111,100,101,100]||s.1==[109,117,108,116,105,112,97,114,116,47,102,111,114,109,45,100,97,116,97]||s.1==[116,101,120,116,47,112,108,97,105,110])by rw[d,c];rfl)
 rw[←d]
 have Q:=D q
 clear d c q
 obtain⟨x,y⟩:=s
 dsimp only at h Q
 have j:=Zky (a:=x) (b:=[97,112,112,108,105,99,97,116,105,111,110,47,120,45,119,119,119,45,102,111,114,109,45,117,114,108,101,110,99,111,100,101,100])
 have k:=Zky (a:=x) (b:=[109,117,108,116,105,112,97,114,116,47,102,111,114,109,45,100,97,116,97])
 have l:=Zky (a:=x) (b:=[116,101,120,116,47,112,108,97,105,110])
 go_in
 go_wp2_with fail
 refine Q.out.mono ?_
 rintro e m ⟨rfl,g⟩
 have i:=D g;clear g Q
 clear j k l
 go_wp2_with fail
 all_goals
  go_ret
  exact⟨by rw[h.out];first|rfl|simp[*],i.out⟩
def ZdQ {P:Prop}(h:P:=by
 have b:=D (show r=false by rw[h.out];rfl)
 go_wp2_with fail
 go_ret
 exact⟨by rw[b.out];rfl,g.out⟩):P:=h
def Znk (v:Bs) (w:World) (hv:v.length≤1000000) (hE:Env w):
  Calls Tryz.prog 314 #[.string ⟨v.toArray⟩] w fun e w'=>e= .returned (.bool (Zfw v))∧Zg [] w w':=by
 obtain⟨r,y⟩:=Je (Zfw v)
 obtain⟨p,k⟩:=Je (([98,121,116,101,115,61]:Bs).isPrefixOf v)
 obtain⟨rest,j⟩:=Je (if p then v.drop 6 else v)
 obtain⟨c,n⟩:=Je (Lib.cut rest [45])
 obtain⟨a,ha⟩:=Je (Y8 c.1)
 obtain⟨z,C⟩:=Je (Y8 c.2.1)
 have R:rest.length≤v.length:=by rw[j];split<;>simp
 have H:=Zdb rest [45]
 rw[←n]at H
 have x:= Tryz.strings_CutPrefix ⟨v.toArray⟩ ⟨#[98,121,116,101,115,61]⟩ w
 have N:Lib.hasPrefix (⟨v.toArray⟩:ByteArray).data.toList (⟨#[98,121,116,101,115,61]⟩:ByteArray).data.toList=p:=by rw[k];rfl
 have J:Lib.trimPrefix (⟨v.toArray⟩:ByteArray).data.toList (⟨#[98,121,116,101,115,61]⟩:ByteArray).data.toList=rest:=by rw[j,k];rfl
 rw[N,J]at x
 have M:∀W,Env W→Calls Tryz.prog 168 #[.string ⟨rest.toArray⟩, .string ⟨#[45]⟩] W fun e w'=>e= .returned (.tuple #[.string ⟨c.1.toArray⟩, .string ⟨c.2.1.toArray⟩, .bool c.2.2])∧Zg [] W w':=fun W X=>by rw[n];exact Zck X rest [45] (by omega)
 have K:∀W,Calls Tryz.prog 258 #[.string ⟨c.1.toArray⟩] W fun e w'=>e= .returned (.tuple #[.int .u64 (a.1:Int), .bool a.2])∧W=w':=fun W=>by rw[ha];exact ZcC c.1 W (by omega)
 have Q:∀W,Calls Tryz.prog 258 #[.string ⟨c.2.1.toArray⟩] W fun e w'=>e= .returned (.tuple #[.int .u64 (z.1:Int), .bool z.2])∧W=w':=fun W=>by rw[C];exact ZcC c.2.1 W (by omega)
 have h:=D (show r=if !p|| !c.2.2|| !a.2 then false else(c.2.1==[]||z.2&&decide (a.1≤z.1))by rw[y,C,ha,n,j,k];rfl)
 rw[←y]
 have Y:=D hE
 have P:=D x;have t:=D M;have E:=D K;have G:=D Q
 clear y k j n ha C R H x N J M K Q hE
 obtain⟨Z,F,T⟩:=c
 obtain⟨q,V⟩:=a
 obtain⟨o,O⟩:=z
 dsimp only at h t E G
 go_in
 go_wp2_with fail
 refine P.out.mono ?_
 rintro e i ⟨rfl,d⟩
 rw[d];clear d i P
 go_wp2_with fail
 refine(t.out w Y).mono ?_
 rintro e L ⟨rfl,I⟩
 have g:=D I;clear I t
 go_wp2_with fail
 refine(E.out L).mono ?_
 rintro e i ⟨rfl,d⟩
 rw[←d];clear d i E
 cases p with
 |false=>
  exact ZdQ
 |true=>
 cases T with
 |false=>
  exact ZdQ
 |true=>
 cases V with
 |false=>
  exact ZdQ
 |true=>
 have l:=D (show r=(F==[]||O&&decide (q≤o))by rw[h.out];rfl)
 clear h
 go_wp2_with fail
 refine(G.out L).mono ?_
 rintro e i ⟨rfl,d⟩
 rw[←d];clear d i G
 cases hy:(F==([]:Bs))with
 |true=>
  have S:F=[]:=by simpa using hy
  have b:=D (show r=true by rw[l.out,hy];rfl)
  clear hy
  subst S
  go_wp2_with fail
  go_ret
  exact⟨by rw[b.out];rfl,g.out⟩
 |false=>
 cases O with
 |false=>
  have b:=D (show r=false by rw[l.out,hy];rfl)
  go_wp2_with fail
  go_ret
  exact⟨by rw[b.out];first|rfl|simp[hy],g.out⟩
 |true=>
  by_cases m:q≤o
  ·have b:=D (show r=true by rw[l.out,hy,decide_eq_true m];rfl)
   have s:(q:Int)≤o:=by omega
   go_wp2_with fail
   go_ret
   exact⟨by rw[b.out];first|rfl|simp[hy,m,s],g.out⟩
  ·have b:=D (show r=false by rw[l.out,hy,decide_eq_false m];rfl)
   have s:¬(q:Int)≤o:=by omega
   go_wp2_with fail
   go_ret
   exact⟨by rw[b.out];first|rfl|simp[hy,m,s],g.out⟩
end Go.Proofs.YtlhapbopmplngaaGreatDoor
