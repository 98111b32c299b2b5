import Derived.Test.YtlhapbopmplngaaGreatDoorS14
import Derived.Test.YtlhapbopmplngaaGreatDoorS29
set_option linter.all false
set_option maxHeartbeats 16000000
set_option maxRecDepth 100000
set_option autoImplicit true
set_option relaxedAutoImplicit true
namespace Go.Lk
theorem Zfh:∀s:Bs,Lib.indexAny s [47,63]=match s.findIdx? (fun x=>x==47||x==63)with|some i=>(i:Int)|none=> -1
 |[]=>rfl
 |b::l=>by
  have ih:=Zfh l
  unfold Lib.indexAny
  have hc:([47,63]:Bs).contains b=(b==47||b==63):=by rw[Bool.eq_iff_iff];simp
  rw[hc,List.findIdx?_cons]
  cases hb:(b==47||b==63)with
  |true=>rfl
  |false=>
   simp only[Bool.false_eq_true,if_false,ih]
   cases List.findIdx? (fun x=>x==47||x==63) l with
   |none=>rfl
   |some i=>
    simp only[Option.map_some]
    rw[if_neg (by simp)]
    show((i:Int)+1)=((i+1:Nat):Int)
    omega
def ZgY (h:(YX s).2=0):YY (YX s).1=true:=by
 by_cases b:512<s.length
 ·rw[show YX s=(Zs.zero,4)by unfold YX;rw[if_pos b]]at h;exact absurd h (by decide)
 ·have c:∀(a:Bool) (o:Zs),(if !a then(Zs.zero,(3:Int))else if YY o then(o,0)else(Zs.zero,3)).2=0→YY (if !a then(Zs.zero,(3:Int))else if YY o then(o,0)else(Zs.zero,3)).1=true:=by
   intro a o
   cases a with
   |false=>intro h;exact absurd (show(3:Int)=0 from h) (by decide)
   |true=>
    cases hc:YY o with
    |true=>intro _;exact hc
    |false=>intro h;exact absurd (show(3:Int)=0 from h) (by decide)
  revert h
  unfold YX
  rw[if_neg b]
  exact c _ _
def Zm3 (x:Bs):(Zbv x).length≤1+(x.length+1)*(x.length+2):=by
 rw[Zql,Xd]
 have:=Go.Proofs.YtlhapbopmplngaaGreatDoor.clean_few x
 simp only[List.length_cons,List.length_nil]
 omega
end Go.Lk
namespace Go.Proofs.YtlhapbopmplngaaGreatDoor
open Go.RowKit Go.Lk
def ZpS (w:World) (r:Z3×Int) (e:Ending) (w':World):Prop:=e= .returned (.tuple #[.agg (ZW r.1).toArray, .int .i64 r.2])∧Zg [] w w'
def urlOf (scheme rest:Bs) (at_:Nat):Z3×Int:=
 let o:=YX (scheme++[58,47,47]++rest.take at_)
 if o.2 !=0 then(Z3.zero,o.2)else
 let q:=Lib.cut (rest.drop at_) [63]
 if !Zel q.1 Zb8|| !Zel q.2.1 Zbh then(Z3.zero,3)else
 let u:Z3:=⟨o.1,Zbv q.1,if q.2.2 then[63]++q.2.1 else[]⟩
 if 512<(YT u).length then(Z3.zero,4)else(u,0)
def parseT_eq (s0:Bs):ZaJ s0=if 512<s0.length then(Z3.zero,4)else
 if !(Lib.cut (Lib.cut s0 [35]).1 [58,47,47]).2.2 then(Z3.zero,3)else
 urlOf (Lib.cut (Lib.cut s0 [35]).1 [58,47,47]).1 (Lib.cut (Lib.cut s0 [35]).1 [58,47,47]).2.1 (((Lib.cut (Lib.cut s0 [35]).1 [58,47,47]).2.1.findIdx? fun x=>x==47||x==63).getD (Lib.cut (Lib.cut s0 [35]).1 [58,47,47]).2.1.length):=rfl
def Zer {P:Prop}(h:P:=by
 obtain⟨aq,aA⟩:=Je (aN++[58,47,47]++rest.take j)
 have bU:aq.length≤1100:=by rw[aA];simp only[Xd,List.length_take,List.length_cons,List.length_nil];omega
 obtain⟨o,ho⟩:=Je (YX aq)
 have q5:∀W,Env W→Calls Tryz.prog 98 #[.string ⟨aq.toArray⟩] W (ZhG W o):=fun W hW=>by rw[ho];exact Zd4 aq W (by omega) hW
 have bi:o.2=0→o.1.host.length≤253:=fun h=>by rw[ho]at h⊢;exact(Zb5 (ZgY h)).2.1
 obtain⟨q,H⟩:=Je (Lib.cut (rest.drop j) [63])
 have aY:=Zdb (rest.drop j) [63]
 rw[←H]at aY
 have bf:(rest.drop j).length≤512:=by rw[List.length_drop];omega
 have q6:∀W,Env W→Calls Tryz.prog 168 #[.string ⟨(rest.drop j).toArray⟩, .string ⟨#[63]⟩] W fun e w'=>e= .returned (.tuple #[.string ⟨q.1.toArray⟩, .string ⟨q.2.1.toArray⟩, .bool q.2.2])∧Zg [] W w':=fun W hW=>by rw[H];exact Zck hW _ [63] (by omega)
 have aD:=D (show R=if o.2 !=0 then(Z3.zero,o.2)else if !Zel q.1 Zb8|| !Zel q.2.1 Zbh then(Z3.zero,3)else
   if 512<(YT ⟨o.1,Zbv q.1,if q.2.2 then[63]++q.2.1 else[]⟩).length then(Z3.zero,4)else(⟨o.1,Zbv q.1,if q.2.2 then[63]++q.2.1 else[]⟩,0)by rw[ba.out];unfold urlOf;rw[←aA,←ho,←H])
 have a8:ByteArray.extract ⟨rest.toArray⟩ 0 j=⟨(rest.take j).toArray⟩:=by
  rw[Lib.extract_eq]
  show(⟨((rest.drop 0).take (j-0)).toArray⟩:ByteArray)=_
  rw[List.drop_zero,Nat.sub_zero]
 have aB:ByteArray.extract ⟨rest.toArray⟩ j rest.length=⟨(rest.drop j).toArray⟩:=by
  rw[Lib.extract_eq]
  show(⟨((rest.drop j).take (rest.length-j)).toArray⟩:ByteArray)=_
  rw[List.take_of_length_le (by rw[List.length_drop];exact Xi _)]
 have a7:(⟨aN.toArray⟩:ByteArray)++⟨#[58,47,47]⟩++⟨(rest.take j).toArray⟩=⟨aq.toArray⟩:=by
  rw[aA,show(⟨#[58,47,47]⟩:ByteArray)=⟨([58,47,47]:Bs).toArray⟩from rfl,Zak,Zak]
 have bd:(rest.take j).length=j:=by rw[List.length_take];omega
 obtain⟨rd,a5⟩:=Je (rest.drop j)
 obtain⟨rt,bb⟩:=Je (rest.take j)
 rw[←a5]at aB q6
 rw[←bb]at a8 a7 bd
 have Q5:=D q5;have Q6:=D q6;have aS:=D bi;have a0:=D aY;have bg:=D bf
 clear q5 q6 bi H aY bf aA ho ba bb;change Hid _ at aB a5
 go_wp2_with fail
 refine(Q5.out w4 (HE.upd0 bo)).mono ?_
 rintro e w5 ⟨rfl,aU⟩
 have bz:=Jt bo aU;have bx:=D ((Kv aU bB))
 clear aU Q5 a7 a8 bd
 obtain⟨o,oe⟩:=o
 dsimp only at aD aS
 obtain⟨w6,aJ⟩:=Je ((w5.alloc (.cells #[.string ⟨#[]⟩, .string ⟨#[]⟩, .int .i64 0] 203 (0,0))).setRow w5.heap.size (ZB o).toArray)
 have bl:=D (Za (w:=w5) (.cells #[.string ⟨#[]⟩, .string ⟨#[]⟩, .int .i64 0] 203 (0,0)))
 have aX:=Kk aJ bl
 have aZ:=Kh aJ
 have bH:=D (show(ZB o).toArray.all (·.oneCell')=true by rw[Xl,Xk];exact ZaB _)
 have a3:=Jt bz aZ;have a1:=D ((Kv aZ bx))
 clear aZ;change Hid _ at aJ aX
 go_upto_region 11 with(refine Jo (ZB o).toArray bl bs bH ?_;rw[←aJ.out])
 obtain⟨y,bc⟩:=Je w5.heap.size
 rw[←bc]at aX⊢
 clear bc
 by_cases be:oe=0
 case neg=>
  have g:=D (show R=(Z3.zero,oe)by rw[aD.out,if_pos (by simpa using be)])
  go_wp2_with(refine Jo (ZW Z3.zero).toArray a1 d ad ?_)
  refine bodyPost_ret (v:= .tuple #[.agg (ZW Z3.zero).toArray, .int .i64 oe]) (Zj _ Tryz.results97 (b:=w.heap.size) (o:=0) rfl rfl d (Zb.of_block (setRow_heap _ _ _ _ _ _ a1))) rfl ?_
  rw[g.out]
  exact⟨rfl,a3.setRow (.inl (Xi _)) _⟩
 subst be
 have ay:o.host.length≤253:=aS.out rfl
 have ac:=D (show R=if !Zel q.1 Zb8|| !Zel q.2.1 Zbh then(Z3.zero,3)else
   if 512<(YT ⟨o,Zbv q.1,if q.2.2 then[63]++q.2.1 else[]⟩).length then(Z3.zero,4)else(⟨o,Zbv q.1,if q.2.2 then[63]++q.2.1 else[]⟩,0)by rw[aD.out];rfl)
 have bw:=aB.out
 clear aD aS aB
 go_wp2_with fail
 refine(Q6.out w6 (HE.upd0 a3)).mono ?_
 rintro e I ⟨rfl,aG⟩
 have ap:=Jt a3 aG;have aj:=D ((Kv aG a1));have bA:=D ((Kv aG aX))
 clear aG Q6 bw
 obtain⟨Q,T,aH⟩:=q
 dsimp only at ac a0
 obtain⟨bh,a4⟩:=a0.out
 have bV:Q.length≤512:=Xj bh bg.out
 have bT:T.length≤512:=Xj a4 bg.out
 clear bh a4 a0
 obtain⟨b1,bn⟩:=Je (Zel Q Zb8)
 obtain⟨b2,bj⟩:=Je (Zel T Zbh)
 have q7:=Zd6 Q Zb8 I (by omega)
 have q8:=Zd6 T Zbh I (by omega)
 obtain⟨z,aI⟩:=Je (Zbv Q)
 have az:z.length≤300000:=by
  rw[aI]
  calc (Zbv Q).length≤1+(Q.length+1)*(Q.length+2):=Zm3 Q
   _≤1+513*514:=Nat.add_le_add_left (Nat.mul_le_mul (by omega) (by omega)) _
   _≤300000:=by omega
 have q9:∀W,Env W→Calls Tryz.prog 171 #[.string ⟨Q.toArray⟩] W fun e w'=>e= .returned (.string ⟨z.toArray⟩)∧Zg [] W w':=fun W hW=>by rw[aI];exact Zgc Q W (by omega) hW
 rw[←bn]at q7 ac
 rw[←bj]at q8 ac
 rw[←aI]at ac
 have Q7:=D q7;have Q8:=D q8;have Q9:=D q9
 clear q7 q8 q9 bn bj aI
 go_wp2_with fail
 refine Q7.out.mono ?_
 rintro e wt ⟨rfl,ar⟩
 rw[ar];clear ar wt Q7
 cases b1 with
 |false=>
  have g:=D (show R=(Z3.zero,3)by rw[ac.out];rfl)
  go_wp2_with(refine Jo (ZW Z3.zero).toArray aj d ad ?_)
  refine bodyPost_ret (v:= .tuple #[.agg (ZW Z3.zero).toArray, .int .i64 3]) (Zj _ Tryz.results97 (b:=w.heap.size) (o:=0) rfl rfl d (Zb.of_block (setRow_heap _ _ _ _ _ _ aj))) rfl ?_
  rw[g.out]
  exact⟨rfl,ap.setRow (.inl (Xi _)) _⟩
 |true=>
 go_wp2_with fail
 refine Q8.out.mono ?_
 rintro e wt ⟨rfl,ar⟩
 rw[ar];clear ar wt Q8
 cases b2 with
 |false=>
  have g:=D (show R=(Z3.zero,3)by rw[ac.out];rfl)
  go_wp2_with(refine Jo (ZW Z3.zero).toArray aj d ad ?_)
  refine bodyPost_ret (v:= .tuple #[.agg (ZW Z3.zero).toArray, .int .i64 3]) (Zj _ Tryz.results97 (b:=w.heap.size) (o:=0) rfl rfl d (Zb.of_block (setRow_heap _ _ _ _ _ _ aj))) rfl ?_
  rw[g.out]
  exact⟨rfl,ap.setRow (.inl (Xi _)) _⟩
 |true=>
 have aM:=D (show R=if 512<(YT ⟨o,z,if aH then[63]++T else[]⟩).length then(Z3.zero,4)else(⟨o,z,if aH then[63]++T else[]⟩,0)by rw[ac.out];rfl)
 have aK:=D (show Zb I y 0 (ZB o)from Zb.of_block bA)
 have a9:=D (show(ZW ⟨o,z,[]⟩).toArray.all (·.oneCell')=true by rw[Xl,Xk];exact ZaA _)
 clear ac
 go_upto_region 16 with fail
 refine ZaV (.held 0 (.held 1 (.two 2 (.held 3 (.eff 4 (.eff 5 (.nil)))) 4 (.eff 2 (.held 3 (.eff 5 (.nil))))))) (fun W=>Zb W y 0 (ZB o)) (by kernel_rfl) (by kernel_rfl) (fun c a w t v h=>by cases t<;>exact h) aK ?_
 apply Zix (t:= 203) (x:= .tmp 8) (b:=y) (of:=0) (cs:=[.string ⟨o.scheme.toArray⟩, .string ⟨o.host.toArray⟩, .int .i64 o.port])
 case ho=>simp only[Xh,Xf,Xg];rfl
 case hg=>rfl
 case hop=>rfl
 case hx=>rfl
 case hv=>exact fun W hW=>Yg W bs hW
 case ha=>go_simp;rfl
 repeat first|refine JN ?_|refine JF ?_
 apply ZcW
 case ho=>simp only[Xh,Xf,Xg];rfl
 case ho2=>simp only[Xh,Xf,Xg];rfl
 case h=>
  simp only[Xu]
  go_wp2_with fail
  refine(Q9.out _ (HE.upd0 (ap.drewN 1))).mono ?_
  rintro e w8 ⟨rfl,ah⟩
  have aC:Zg [] I w8:=((Zg.refl [] I).drewN 1).trans ah
  have aL:=Jt ap aC;have aF:=D ((Kv aC aj));have an:=D (aK.upd aC)
  clear ah aC Q9
  go_wp2_with fail
  refine⟨fun W=>Zb W y 0 (ZB o),fun _ h=>h,an.out,?_⟩
  repeat first|refine JN ?_|refine JF ?_
  refine JU ?_
  go_wp2_with fail
  obtain⟨w9,bm,S,ak⟩:=Kc w8 (.cells #[.string ⟨#[]⟩, .string ⟨#[]⟩, .int .i64 0, .string ⟨#[]⟩, .string ⟨#[]⟩] 205)
  obtain⟨n,am⟩:=Je w8.heap.size
  have Y:=D (show w.heap.size≤n∧w.heap.size≠n by have:=(Jg aF);omega)
  rw[←bm,←am]
  rw[←am]at ak
  have a2:=Jt aL S;have aV:=D ((Kv S aF));have ax:=D (an.upd S)
  have aW:=D (show y≠n by have:=Xo _ _ (an.out 0 _ rfl);have h2:(⟨y,0+0,none⟩:Addr).block=y:=rfl;rw[h2]at this;omega)
  clear bm S am;change Hid _ at ak
  refine⟨fun W=>Zb W y 0 (ZB o),fun _ h=>h,ax.out,?_⟩
  refine JU ?_
  obtain⟨wA,V⟩:=Je (w9.setRow n (ZW ⟨o,z,[]⟩).toArray)
  have J:=Kk V ak
  have aa:=Kg V
  have aw:=D ((Kv aa aV (by simpa using Y.out.2)))
  have ao:=D ((a2.weaken (G:=[]) (by simp)).trans aa (fun q H=> .inl (by rw[Jm H];exact Y.out.1)))
  have aR:=D (ax.upd aa (by simpa using aW.out))
  clear aa;change Hid _ at J V
  go_wp2_with(refine Jo (ZW ⟨o,z,[]⟩).toArray ak d a9 ?_;rw[←V.out])
  refine⟨fun W=>Zb W y 0 (ZB o),fun _ h=>h,aR.out,Zdu ?_⟩
  cases aH with
  |false=>
   obtain⟨u,m⟩:∃u:Z3,u=⟨o,z,[]⟩:=⟨_,rfl⟩
   have r:=D (show R=if 512<(YT u).length then(Z3.zero,4)else(u,0)by rw[aM.out,m];rfl)
   have ae:=D (show UrlFit u by rw[m];exact⟨Xj ay (by omega),Xj az (by omega),by simp⟩)
   have E:=D (show Zb wA n 0 (ZW u)by rw[m];exact Zb.of_block J)
   have F:=ao;have Z:=aw
   obtain⟨P,au⟩:=Je wA
   rw[←au]at E F Z⊢
   clear au m
   go_upto_region 19 with fail
   obtain⟨C,M⟩:=Je (YT u)
   have p:=Zbd u P ae (HE.upd0 F)
   rw[←M]at p r
   have K:=D p
   clear p M
   go_wp2_with(refine Jl E d ?_)
   refine K.out.mono ?_
   rintro e wD ⟨rfl,l⟩
   have L:=Jt F l;have k:=D ((Kv l Z));have ag:=D (E.upd l)
   have al:=D (show(ZW u).toArray.all (·.oneCell')=true by rw[Xl,Xk];exact ZaA _)
   clear l K
   by_cases N:512<C.length
   ·
    have g:=D (show R=(Z3.zero,4)by rw[r.out,if_pos N])
    have af:(512:Int)<(C.length:Int):=by omega
    go_wp2_with(refine Jo (ZW Z3.zero).toArray k d ad ?_)
    refine bodyPost_ret (v:= .tuple #[.agg (ZW Z3.zero).toArray, .int .i64 4]) (Zj _ Tryz.results97 (b:=w.heap.size) (o:=0) rfl rfl d (Zb.of_block (setRow_heap _ _ _ _ _ _ k))) rfl ?_
    rw[g.out]
    exact⟨rfl,L.setRow (.inl (Xi _)) _⟩
   ·
    have g:=D (show R=(u,0)by rw[r.out,if_neg N])
    have af:¬(512:Int)<(C.length:Int):=by omega
    go_wp2_with(first|refine Jl ag d ?_|refine Jo (ZW u).toArray k d al ?_)
    refine bodyPost_ret (v:= .tuple #[.agg (ZW u).toArray, .int .i64 0]) (Zj _ Tryz.results97 (b:=w.heap.size) (o:=0) rfl rfl d (Zb.of_block (setRow_heap _ _ _ _ _ _ k))) rfl ?_
    rw[g.out]
    exact⟨rfl,L.setRow (.inl (Xi _)) _⟩
  |true=>
   obtain⟨O,X⟩:=Je ([63]++T)
   have aO:(⟨#[63]⟩:ByteArray)++⟨T.toArray⟩=⟨O.toArray⟩:=by rw[X,show(⟨#[63]⟩:ByteArray)=⟨([63]:Bs).toArray⟩from rfl,Zak]
   have aP:O.length≤513:=by rw[X];simp;omega
   obtain⟨P,ab⟩:=Je (wA.setCell ⟨n,4,none⟩ (.string ⟨O.toArray⟩))
   have av:P.heap[n]? =some (.cells (ZW ⟨o,z,O⟩).toArray 205 (0,0)):=by rw[ab];exact(Zd (i:=4) J _).trans rfl
   have ai:=Kd ab
   have k4:=Jc 4 J.out
   have f4:=Kf 4 J.out
   obtain⟨u,m⟩:∃u:Z3,u=⟨o,z,O⟩:=⟨_,rfl⟩
   have r:=D (show R=if 512<(YT u).length then(Z3.zero,4)else(u,0)by rw[aM.out,m,X];rfl)
   have ae:=D (show UrlFit u by rw[m];exact⟨Xj ay (by omega),Xj az (by omega),Xj aP (by omega)⟩)
   have E:=D (show Zb P n 0 (ZW u)by rw[m];exact Zb.of_block av)
   have Z:=D ((Kv ai aw (by simpa using Y.out.2)))
   have F:=D ((ao.weaken (G:=[]) (by simp)).trans ai (fun q H=> .inl (by rw[Jm H];exact Y.out.1)))
   clear X av ai m;change Hid _ at ab
   go_upto_region 19 with fail
   rw[←ab.out]
   clear k4 f4 aO
   obtain⟨C,M⟩:=Je (YT u)
   have p:=Zbd u P ae (HE.upd0 F)
   rw[←M]at p r
   have K:=D p
   clear p M
   go_wp2_with(refine Jl E d ?_)
   refine K.out.mono ?_
   rintro e wD ⟨rfl,l⟩
   have L:=Jt F l;have k:=D ((Kv l Z));have ag:=D (E.upd l)
   have al:=D (show(ZW u).toArray.all (·.oneCell')=true by rw[Xl,Xk];exact ZaA _)
   clear l K
   by_cases N:512<C.length
   ·
    have g:=D (show R=(Z3.zero,4)by rw[r.out,if_pos N])
    have af:(512:Int)<(C.length:Int):=by omega
    go_wp2_with(refine Jo (ZW Z3.zero).toArray k d ad ?_)
    refine bodyPost_ret (v:= .tuple #[.agg (ZW Z3.zero).toArray, .int .i64 4]) (Zj _ Tryz.results97 (b:=w.heap.size) (o:=0) rfl rfl d (Zb.of_block (setRow_heap _ _ _ _ _ _ k))) rfl ?_
    rw[g.out]
    exact⟨rfl,L.setRow (.inl (Xi _)) _⟩
   ·
    have g:=D (show R=(u,0)by rw[r.out,if_neg N])
    have af:¬(512:Int)<(C.length:Int):=by omega
    go_wp2_with(first|refine Jl ag d ?_|refine Jo (ZW u).toArray k d al ?_)
    refine bodyPost_ret (v:= .tuple #[.agg (ZW u).toArray, .int .i64 0]) (Zj _ Tryz.results97 (b:=w.heap.size) (o:=0) rfl rfl d (Zb.of_block (setRow_heap _ _ _ _ _ _ k))) rfl ?_
    rw[g.out]
    exact⟨rfl,L.setRow (.inl (Xi _)) _⟩
 case h2=>
  simp only[Xu]
  go_wp2_with fail
  obtain⟨w8,aE⟩:=Je ((I.drewN 1).alloc (.cells #[.string ⟨#[]⟩, .string ⟨#[]⟩, .int .i64 0, .string ⟨#[]⟩, .string ⟨#[]⟩] 205))
  have aQ:w8.heap[I.heap.size]? =some (.cells #[.string ⟨#[]⟩, .string ⟨#[]⟩, .int .i64 0, .string ⟨#[]⟩, .string ⟨#[]⟩] 205 (0,0)):=by rw[aE];exact Za (w:=I.drewN 1) _
  have ah:Zg [] I w8:=by rw[aE];exact((Zg.refl [] I).drewN 1).alloc _
  obtain⟨n,am⟩:=Je I.heap.size
  have Y:=D (show w.heap.size≤n∧w.heap.size≠n by have:=(Jg aj);omega)
  have aW:=D (show y≠n by have:=Xo _ _ (aK.out 0 _ rfl);have h2:(⟨y,0+0,none⟩:Addr).block=y:=rfl;rw[h2]at this;omega)
  have a6:(I.alloc (.cells #[.string ⟨#[]⟩, .string ⟨#[]⟩, .int .i64 0, .string ⟨#[]⟩, .string ⟨#[]⟩] 205)).drew=w8:=aE.symm
  rw[a6,←am]
  rw[←am]at aQ
  have aL:=Jt ap ah;have aF:=D ((Kv ah aj));have an:=D (aK.upd ah)
  clear aE a6 ah am;change Hid _ at aQ
  refine⟨fun W=>Zb W y 0 (ZB o),fun _ h=>h,an.out,?_⟩
  refine JU ?_
  go_wp2_with fail
  refine(Q9.out _ (HE.upd0 aL)).mono ?_
  rintro e w9 ⟨rfl,S⟩
  have ak:=D ((Kv S aQ))
  have a2:=Jt aL S;have aV:=D ((Kv S aF));have ax:=D (an.upd S)
  clear S Q9
  go_wp2_with fail
  refine⟨fun W=>Zb W y 0 (ZB o),fun _ h=>h,ax.out,?_⟩
  repeat first|refine JN ?_|refine JF ?_
  refine JU ?_
  obtain⟨wA,V⟩:=Je (w9.setRow n (ZW ⟨o,z,[]⟩).toArray)
  have J:=Kk V ak
  have aa:=Kg V
  have aw:=D ((Kv aa aV (by simpa using Y.out.2)))
  have ao:=D ((a2.weaken (G:=[]) (by simp)).trans aa (fun q H=> .inl (by rw[Jm H];exact Y.out.1)))
  have aR:=D (ax.upd aa (by simpa using aW.out))
  clear aa;change Hid _ at J V
  go_wp2_with(refine Jo (ZW ⟨o,z,[]⟩).toArray ak d a9 ?_;rw[←V.out])
  refine⟨fun W=>Zb W y 0 (ZB o),fun _ h=>h,aR.out,Zdu ?_⟩
  cases aH with
  |false=>
   obtain⟨u,m⟩:∃u:Z3,u=⟨o,z,[]⟩:=⟨_,rfl⟩
   have r:=D (show R=if 512<(YT u).length then(Z3.zero,4)else(u,0)by rw[aM.out,m];rfl)
   have ae:=D (show UrlFit u by rw[m];exact⟨Xj ay (by omega),Xj az (by omega),by simp⟩)
   have E:=D (show Zb wA n 0 (ZW u)by rw[m];exact Zb.of_block J)
   have F:=ao;have Z:=aw
   obtain⟨P,au⟩:=Je wA
   rw[←au]at E F Z⊢
   clear au m
   go_upto_region 19 with fail
   obtain⟨C,M⟩:=Je (YT u)
   have p:=Zbd u P ae (HE.upd0 F)
   rw[←M]at p r
   have K:=D p
   clear p M
   go_wp2_with(refine Jl E d ?_)
   refine K.out.mono ?_
   rintro e wD ⟨rfl,l⟩
   have L:=Jt F l;have k:=D ((Kv l Z));have ag:=D (E.upd l)
   have al:=D (show(ZW u).toArray.all (·.oneCell')=true by rw[Xl,Xk];exact ZaA _)
   clear l K
   by_cases N:512<C.length
   ·
    have g:=D (show R=(Z3.zero,4)by rw[r.out,if_pos N])
    have af:(512:Int)<(C.length:Int):=by omega
    go_wp2_with(refine Jo (ZW Z3.zero).toArray k d ad ?_)
    refine bodyPost_ret (v:= .tuple #[.agg (ZW Z3.zero).toArray, .int .i64 4]) (Zj _ Tryz.results97 (b:=w.heap.size) (o:=0) rfl rfl d (Zb.of_block (setRow_heap _ _ _ _ _ _ k))) rfl ?_
    rw[g.out]
    exact⟨rfl,L.setRow (.inl (Xi _)) _⟩
   ·
    have g:=D (show R=(u,0)by rw[r.out,if_neg N])
    have af:¬(512:Int)<(C.length:Int):=by omega
    go_wp2_with(first|refine Jl ag d ?_|refine Jo (ZW u).toArray k d al ?_)
    refine bodyPost_ret (v:= .tuple #[.agg (ZW u).toArray, .int .i64 0]) (Zj _ Tryz.results97 (b:=w.heap.size) (o:=0) rfl rfl d (Zb.of_block (setRow_heap _ _ _ _ _ _ k))) rfl ?_
    rw[g.out]
    exact⟨rfl,L.setRow (.inl (Xi _)) _⟩
  |true=>
   obtain⟨O,X⟩:=Je ([63]++T)
   have aO:(⟨#[63]⟩:ByteArray)++⟨T.toArray⟩=⟨O.toArray⟩:=by rw[X,show(⟨#[63]⟩:ByteArray)=⟨([63]:Bs).toArray⟩from rfl,Zak]
   have aP:O.length≤513:=by rw[X];simp;omega
   obtain⟨P,ab⟩:=Je (wA.setCell ⟨n,4,none⟩ (.string ⟨O.toArray⟩))
   have av:P.heap[n]? =some (.cells (ZW ⟨o,z,O⟩).toArray 205 (0,0)):=by rw[ab];exact(Zd (i:=4) J _).trans rfl
   have ai:=Kd ab
   have k4:=Jc 4 J.out
   have f4:=Kf 4 J.out
   obtain⟨u,m⟩:∃u:Z3,u=⟨o,z,O⟩:=⟨_,rfl⟩
   have r:=D (show R=if 512<(YT u).length then(Z3.zero,4)else(u,0)by rw[aM.out,m,X];rfl)
   have ae:=D (show UrlFit u by rw[m];exact⟨Xj ay (by omega),Xj az (by omega),Xj aP (by omega)⟩)
   have E:=D (show Zb P n 0 (ZW u)by rw[m];exact Zb.of_block av)
   have Z:=D ((Kv ai aw (by simpa using Y.out.2)))
   have F:=D ((ao.weaken (G:=[]) (by simp)).trans ai (fun q H=> .inl (by rw[Jm H];exact Y.out.1)))
   clear X av ai m;change Hid _ at ab
   go_upto_region 19 with fail
   rw[←ab.out]
   clear k4 f4 aO
   obtain⟨C,M⟩:=Je (YT u)
   have p:=Zbd u P ae (HE.upd0 F)
   rw[←M]at p r
   have K:=D p
   clear p M
   go_wp2_with(refine Jl E d ?_)
   refine K.out.mono ?_
   rintro e wD ⟨rfl,l⟩
   have L:=Jt F l;have k:=D ((Kv l Z));have ag:=D (E.upd l)
   have al:=D (show(ZW u).toArray.all (·.oneCell')=true by rw[Xl,Xk];exact ZaA _)
   clear l K
   by_cases N:512<C.length
   ·
    have g:=D (show R=(Z3.zero,4)by rw[r.out,if_pos N])
    have af:(512:Int)<(C.length:Int):=by omega
    go_wp2_with(refine Jo (ZW Z3.zero).toArray k d ad ?_)
    refine bodyPost_ret (v:= .tuple #[.agg (ZW Z3.zero).toArray, .int .i64 4]) (Zj _ Tryz.results97 (b:=w.heap.size) (o:=0) rfl rfl d (Zb.of_block (setRow_heap _ _ _ _ _ _ k))) rfl ?_
    rw[g.out]
    exact⟨rfl,L.setRow (.inl (Xi _)) _⟩
   ·
    have g:=D (show R=(u,0)by rw[r.out,if_neg N])
    have af:¬(512:Int)<(C.length:Int):=by omega
    go_wp2_with(first|refine Jl ag d ?_|refine Jo (ZW u).toArray k d al ?_)
    refine bodyPost_ret (v:= .tuple #[.agg (ZW u).toArray, .int .i64 0]) (Zj _ Tryz.results97 (b:=w.heap.size) (o:=0) rfl rfl d (Zb.of_block (setRow_heap _ _ _ _ _ _ k))) rfl ?_
    rw[g.out]
    exact⟨rfl,L.setRow (.inl (Xi _)) _⟩):P:=h
def Zf6 (x:Bs) (w:World) (hE:Env w):
  Calls Tryz.prog 97 #[.string ⟨x.toArray⟩] w (ZpS w (ZaJ x)):=by
 obtain⟨R,hR⟩:=Je (ZaJ x)
 have bG:=D (hR.trans (parseT_eq x))
 rw[←hR]
 clear hR
 have HE:=D hE;clear hE
 have bs:=D (show Zu Tryz.prog 203 3=true by kernel_rfl)
 have d:=D (show Zu Tryz.prog 205 5=true by kernel_rfl)
 have ad:=D (show(ZW Z3.zero).toArray.all (·.oneCell')=true by rw[Xl,Xk];exact ZaA _)
 obtain⟨w1,bF,br,bu⟩:=Kc w (.cells #[.string ⟨#[]⟩, .string ⟨#[]⟩, .int .i64 0, .string ⟨#[]⟩, .string ⟨#[]⟩] 205)
 change Hid _ at bF br bu
 by_cases bp:512<x.length
 ·have hz:(512:Int)<(x.length:Int):=by omega
  have g:=D (show R=(Z3.zero,4)by rw[bG.out,if_pos bp])
  clear bp
  go_in
  go_upto_region 1 with fail
  rw[←bF.out]
  go_wp2_with(refine Jo (ZW Z3.zero).toArray bu d ad ?_)
  refine bodyPost_ret (v:= .tuple #[.agg (ZW Z3.zero).toArray, .int .i64 4]) (Zj _ Tryz.results97 (b:=w.heap.size) (o:=0) rfl rfl d (Zb.of_block (setRow_heap _ _ _ _ _ _ bu))) rfl ?_
  rw[g.out]
  exact⟨rfl,br.setRow (.inl (Xi _)) _⟩
 have hz:¬(512:Int)<(x.length:Int):=by omega
 obtain⟨s,hs⟩:=Je ((Lib.cut x [35]).1)
 have bO:s.length≤512:=by rw[hs];have:=(Zdb x [35]).1;omega
 have q1:=Zck (HE.upd0 br) x [35] (by omega)
 rw[←hs]at q1
 obtain⟨c,hc⟩:=Je (Lib.cut s [58,47,47])
 have bI:=Zdb s [58,47,47]
 have bK:∀W,Env W→Calls Tryz.prog 168 #[.string ⟨s.toArray⟩, .string ⟨#[58,47,47]⟩] W fun e w'=>e= .returned (.tuple #[.string ⟨c.1.toArray⟩, .string ⟨c.2.1.toArray⟩, .bool c.2.2])∧Zg [] W w':=fun W hW=>by rw[hc];exact Zck hW s [58,47,47] (by omega)
 rw[←hc]at bI
 have bk:=D (show R=if !c.2.2 then(Z3.zero,3)else urlOf c.1 c.2.1 ((c.2.1.findIdx? fun x=>x==47||x==63).getD c.2.1.length)by rw[bG.out,if_neg bp,←hs,←hc])
 have Q1:=D q1;have bM:=D bK;have bC:=D bI
 obtain⟨t1,bQ⟩:=Je ((Lib.cut x [35]).2.1)
 obtain⟨t2,bS⟩:=Je ((Lib.cut x [35]).2.2)
 rw[←bQ,←bS]at Q1
 clear q1 bK bI hc hs bp bG bQ bS
 go_in
 go_upto_region 1 with fail
 rw[←bF.out]
 go_wp2_with fail
 refine Q1.out.mono ?_
 rintro e w2 ⟨rfl,bD⟩
 have bR:=Jt br bD;have bX:=D ((Kv bD bu))
 clear bD Q1
 go_wp2_with fail
 refine(bM.out w2 (HE.upd0 bR)).mono ?_
 rintro e w3 ⟨rfl,bJ⟩
 have bE:=Jt bR bJ;have bv:=D ((Kv bJ bX))
 clear bJ bM
 obtain⟨aN,rest,ok⟩:=c
 dsimp only at bk bC
 obtain⟨bL,bP⟩:=bC.out
 have bY:aN.length≤512:=Xj bL bO
 have bZ:rest.length≤512:=Xj bP bO
 clear bL bP bC
 cases ok with
 |false=>
  have g:=D (show R=(Z3.zero,3)by rw[bk.out];rfl)
  go_wp2_with(refine Jo (ZW Z3.zero).toArray bv d ad ?_)
  refine bodyPost_ret (v:= .tuple #[.agg (ZW Z3.zero).toArray, .int .i64 3]) (Zj _ Tryz.results97 (b:=w.heap.size) (o:=0) rfl rfl d (Zb.of_block (setRow_heap _ _ _ _ _ _ bv))) rfl ?_
  rw[g.out]
  exact⟨rfl,bE.setRow (.inl (Xi _)) _⟩
 |true=>
 have bq:=D (show R=urlOf aN rest ((rest.findIdx? fun x=>x==47||x==63).getD rest.length)by rw[bk.out];rfl)
 have q3:=Zju rest [47,63] (by decide) (by decide) (by decide) (by omega) w3
 rw[Zfh]at q3
 cases hfi:rest.findIdx? (fun x=>x==47||x==63)with
 |some i=>
  rw[hfi]at q3
  have b0:i<rest.length:=(List.findIdx?_eq_some_iff_getElem.1 hfi).1
  obtain⟨j,bN⟩:=Je i
  have ba:=D (show R=urlOf aN rest j by rw[bq.out,hfi,bN];rfl)
  have Q3:=D q3
  subst bN
  have bW:j≤rest.length:=by omega
  clear q3 hfi bq bk
  go_wp2_with fail
  refine Q3.out.mono ?_
  rintro e w4 ⟨rfl,aT⟩
  have bo:=Jt bE aT;have bB:=D ((Kv aT bv))
  clear aT Q3
  go_upto_region 10 with fail
  exact Zer
 |none=>
  rw[hfi]at q3
  obtain⟨j,bt⟩:=Je rest.length
  have ba:=D (show R=urlOf aN rest j by rw[bq.out,hfi,bt];rfl)
  have Q3:=D q3
  have bW:j≤rest.length:=by omega
  clear q3 hfi bq bk;change Hid _ at bt
  go_wp2_with fail
  refine Q3.out.mono ?_
  rintro e w4 ⟨rfl,aT⟩
  have bo:=Jt bE aT;have bB:=D ((Kv aT bv))
  clear aT Q3
  go_upto_region 10 with fail
  rw[←bt.out]
  clear bt
  exact Zer
end Go.Proofs.YtlhapbopmplngaaGreatDoor
