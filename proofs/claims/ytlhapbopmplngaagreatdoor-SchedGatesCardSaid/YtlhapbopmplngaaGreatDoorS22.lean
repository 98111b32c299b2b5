import Derived.Laws.RangeAny
import Derived.Lib.OthersKept
import Derived.WalkMore
import Derived.Test.YtlhapbopmplngaaGreatDoorS8
set_option linter.all false
set_option maxHeartbeats 16000000
set_option maxRecDepth 100000
set_option autoImplicit true
set_option relaxedAutoImplicit true
namespace Go.Proofs.YtlhapbopmplngaaGreatDoor
open Go.RowKit Go.Lk
def Za8 (x:Bs):List Value:=[.string ⟨x.toArray⟩]
def Z9 (v:Value) (l:List Bs):YD:=Zk 9 1 v (l.map Za8)
def Zl (v:Value) (l:List Bs):(Z9 v l).Local:=Zc _ _ _ _
def ZbA:(Tryz.prog.info? 9).map (fun i=>(i.zero,i.size,i.bytes))=some (some (.string ⟨#[]⟩),1,16):=by kernel_rfl
def Z9.strs (h:Z9 v l w F):∃A c,v= .slice A l.length c∧l.length≤c∧Y3 w A l:=by
 obtain⟨A,c,a,b,e⟩:=h.lies1
 rw[Xb]at a b
 refine⟨A,c,a,b,fun j x g=> ?_⟩
 obtain⟨i,f,d⟩:=e j (Za8 x) (by rw[Xe,g];rfl)
 exact⟨i,0,f,by have:=d 0 _ rfl;simpa using this⟩
def Zcg (x:Bs):∀u∈Za8 x,u.oneCell'=true:=by intro u hu;unfold Za8 at hu;simp at hu;subst hu;rfl
def Zdi (w:World) (l:List Bs) (e:Ending) (w':World):Prop:=∃(v:Value) (M:List Nat),e= .returned v∧Z9 v l w' M∧(∀k∈M,w.heap.size≤k)∧Zg [] w w'
def Y3.upd0 {ws:List Bs} (h:Y3 w A ws) (hu:Zg [] w w1):Y3 w1 A ws:=h.upd hu
def ZeY (ws:List Bs):List Bs:=(ws.map YL).filter (fun x=>x !=[])
def Zng {ws:List Bs} {k:Nat} (h:ws[k]? =some x):ZeY (ws.take (k+1))=if YL x=[]then ZeY (ws.take k)else ZeY (ws.take k)++[YL x]:=by
 unfold ZeY
 rw[ZZ h,Xs,List.filter_append]
 split
 ·rename_i a;simp[a]
 ·rename_i a;simp[a]
def Zpt (ws:List Bs):(ZeY ws).length≤ws.length:=by
 unfold ZeY
 exact Xj (Xq _ _) (by rw[Xb];exact Xi _)
def Zk3 (x:Bs) (w:World) (hx:x.length≤900000) (hE:Env w):
  Calls Tryz.prog 339 #[.string ⟨x.toArray⟩] w (Zdi w (ZiW x)):=by
 have q:=ZgZ hE x 44 hx
 obtain⟨ws,g⟩:=Je (Lib.split x [44])
 have N:∀y∈ws,y.length≤1000000:=fun y b=>by
  rw[g]at b
  have:=(ZaG 44 x.length x (Xi _)).2 y b
  omega
 have ar:ws.length≤1000000:=by rw[g];have:=(ZaG 44 x.length x (Xi _)).1;omega
 have hl:ZiW x=ZeY ws:=by rw[g];rfl
 rw[hl]
 rw[←g]at q
 have Q:=D q;have ae:=D N
 clear q g N hl
 go_in
 go_wp2_with fail
 refine Q.out.mono ?_
 rintro e w1 ⟨rfl,S,Y⟩
 have aj:=D S;have al:=D Y;clear S Y Q
 go_wp2_with fail
 go_loopw[9,3,5] (fun v9 v3 _ wr=>∃(k:Nat) (M:List Nat),k≤ws.length∧v9= .int .i64 k∧Hid (Z9 v3 (ZeY (ws.take k)) wr M)∧Hid (∀q∈M,w.heap.size≤q)∧Hid (Zg [] w wr)∧Hid (Y3 wr (some ⟨w.heap.size,0,none⟩) ws)∧Hid (w.heap.size∉M)) (fun v9 _ _ _=>ws.length-(intOf v9).toNat)
 case atStart=>exact⟨0,[],by omega,rfl,D (ZA _ _ _),D (by simp),al,aj,D (by simp)⟩
 case round=>
  obtain⟨k,M,hk,rfl,p,o,K,J,I⟩:=hrel
  by_cases ac:k<ws.length
  ·obtain⟨y,b⟩:∃y,ws[k]? =some y:=⟨_,Xa ac⟩
   obtain⟨ab,ao,C,ah⟩:=J.out k y b
   injection C with C;injection C with d e2 _;subst d e2
   rw[Nat.zero_add]at ah
   have q:=ZaR y wr (ae.out y (Xc b))
   have E:=Zng b
   obtain⟨z,i⟩:=Je (YL y)
   rw[←i]at q E
   have Q:=D q;have T:=D E
   clear q E i b
   go_wp2_with fail
   refine Q.out.mono ?_
   rintro e wt ⟨rfl,Z⟩
   rw[Z];clear Z wt Q
   cases z with
   |nil=>
    have ht:=T.out
    rw[if_pos rfl]at ht
    have r:=D ht;clear ht
    go_wp2_with fail
    exact⟨⟨k+1,M,by omega,by go_num,by rw[r.out];exact p,o,K,J,I⟩,by simp[intOf];omega⟩
   |cons c t=>
    have ht:=T.out
    rw[if_neg (by simp)]at ht
    have r:=D ht;clear ht
    have X:((c::t:Bs)==[])=false:=rfl
    obtain⟨z,i⟩:=Je (c::t)
    rw[←i]at r X⊢
    clear i
    obtain⟨L,H,m⟩:=Kb wr (.cells #[.string ⟨z.toArray⟩] 9)
    have ak:=D (show Zb L wr.heap.size 0 (Za8 z)by rw[H];exact Zb.of_block (Za _))
    have F:=D ((Zl _ _).upd p m)
    have aa:=D (J.upd0 m)
    have an:=Jt K m;have ai:=D H
    obtain⟨A,cA,rfl,_,_⟩:=F.strs
    have ad:=Zpt (ws.take k)
    rw[List.length_take]at ad
    have af:(ZeY (ws.take k)).length≤1000000:=by omega
    obtain⟨n,s⟩:=Je ((ZeY (ws.take k)).length)
    rw[←s]at F af
    have ag:=D s
    rw[←s]
    clear m H s ad p
    have ap:(⟨z.toArray⟩:ByteArray).toList.isEmpty=false:=by
     rw[Lib.toList_data]
     show z.isEmpty=false
     cases z with
     |nil=>cases X
     |cons a l=>rfl
    go_upto_region 8 with(rw[←ai.out];refine Zm L rfl (.tmp 17) (.tmp 19) 142 rfl 9 Tryz.underlying142 ZbA rfl (by omega) (by omega) (.slice A n cA) ((ZeY (ws.take k)).map Za8) M rfl F wr.heap.size 1 (Za8 z) rfl ak rfl (Zcg z) (by rw[Xb,←ag.out];omega) ?_;intro v' w7 G' W P V;have am:=D W;have R:=D P;have O:=D V;clear W P V)
    go_wp2_with fail
    have aq:w.heap.size<L.heap.size:=by obtain⟨ab,ao,d,hc⟩:=aa.out k _ (Xa ac);injection d with d;injection d with d _;subst d;exact Xo _ _ hc
    exact⟨⟨k+1,G',by omega,by go_num,D (by rw[r.out];unfold Z9;rw[Xs];exact am),D (fun q j=>by
     rcases O q j with h|h
     ·exact o q h
     ·omega),D (((an.weaken (G:=M) (by simp)).trans R (fun q j=> .inr j)).weaken (fun q j=> .inl (o.out q j))),D (aa.upd R (fun ab ao e=>by injection e with e;injection e with e _;rw[←e];exact I)),D (fun hm=>by
     rcases O _ hm with h|h
     ·exact I h
     ·omega)⟩,by simp[intOf];omega⟩
  ·obtain rfl:k=ws.length:=by omega
   go_wp2_with fail
   go_ret
   exact⟨_,M,rfl,by have:=p.out;rw[Xm]at this;exact this,o.out,K.out⟩
def Zn7 (h:Below n w w') (hn:w.heap.size≤n):Zg [] w w':=⟨h.os,h.tape,h.output,h.size,fun k hk _=>h.block k (by omega)⟩
def ZcA (h:Z9 v l w M) (hl:l.length≤1000000) (sep:Bs) (hj:(Lib.join l sep).length≤140737488355328):
  Calls Tryz.prog 225 #[v, .string ⟨sep.toArray⟩] w fun e w'=>e= .returned (.string ⟨(Lib.join l sep).toArray⟩)∧Zg [] w w':=by
 obtain⟨A,c,rfl,n,d⟩:=h.strs
 cases l with
 |nil=>
  refine(Tryz.strings_Join_none A c ⟨sep.toArray⟩ w).mono ?_
  rintro e w' ⟨rfl,rfl⟩
  exact⟨rfl,Zg.refl _ _⟩
 |cons a l=>
  obtain⟨r,m,rfl,i⟩:=d 0 a rfl
  have q:= Tryz.strings_Join r m c ((a::l).map fun x=>(⟨x.toArray⟩:ByteArray)) ⟨sep.toArray⟩ w (fun j x hj=>by
   rw[Xe]at hj
   obtain⟨y,k,rfl⟩:=Option.map_eq_some_iff.1 hj
   obtain⟨s,t,e,g⟩:=d j y k
   injection e with e;injection e with b o _;subst b o
   exact g) (Xo _ _ i) (by rw[Xb];omega) (by rw[Xb];exact n)
  have b:((a::l).map fun x=>(⟨x.toArray⟩:ByteArray)).map (·.data.toList)=a::l:=by rw[List.map_map];simp[Function.comp_def]
  rw[b,Xb]at q
  refine(q hj).mono ?_
  rintro e w' ⟨rfl,p⟩
  exact⟨rfl,Zn7 p (Xi _)⟩
def Znn (h:Z9 v l w M) (hl:l.length≤1000000) (hj:(Zff l).length≤140737488355328):
  Calls Tryz.prog 247 #[v] w fun e w'=>e= .returned (.string ⟨(Zff l).toArray⟩)∧Zg [] w w':=by
 have q:Calls Tryz.prog 225 #[v, .string ⟨#[44,32]⟩] w fun e w'=>e= .returned (.string ⟨(Zff l).toArray⟩)∧Zg [] w w':=ZcA h hl [44,32] hj
 obtain⟨r,b⟩:=Je (Zff l)
 rw[←b]at q⊢
 obtain⟨A,c,rfl,_,_⟩:=h.strs
 have Q:=D q
 clear q b h hj
 go_in
 go_wp2_with fail
 refine Q.out.mono ?_
 rintro e g ⟨rfl,a⟩
 have d:=D a;clear a
 go_wp2_with fail
 go_ret
 exact⟨rfl,d.out⟩
end Go.Proofs.YtlhapbopmplngaaGreatDoor
namespace Go.Lk
open Go
def ZkR {r:Int} (h:128≤r) (hv:Utf8.valid r=true):∃bs:List UInt8,Utf8.encode r=⟨bs.toArray⟩∧2≤bs.length∧bs.length≤4∧∀b∈bs,128≤b.toNat:=by
 have g:r.toNat≤1114111:=by
  unfold Utf8.valid at hv
  simp only[Bool.or_eq_true,Bool.and_eq_true,decide_eq_true_eq]at hv
  omega
 have e:¬r.toNat<128:=by omega
 unfold Utf8.encode
 rw[if_pos hv]
 dsimp only
 rw[if_neg e]
 have c:∀n:Nat,n<256→128≤n→128≤(UInt8.ofNat n).toNat:=fun n e d=>by rw[UInt8.toNat_ofNat'];omega
 split
 ·rename_i d
  refine⟨[_,_],rfl,by simp,by simp,fun b a=> ?_⟩
  simp only[List.mem_cons,List.not_mem_nil,or_false]at a
  rcases a with rfl|rfl<;>exact c _ (by omega) (by omega)
 ·split
  ·rename_i d f
   refine⟨[_,_,_],rfl,by simp,by simp,fun b a=> ?_⟩
   simp only[List.mem_cons,List.not_mem_nil,or_false]at a
   rcases a with rfl|rfl|rfl<;>exact c _ (by omega) (by omega)
  ·refine⟨[_,_,_,_],rfl,by simp,by simp,fun b a=> ?_⟩
   simp only[List.mem_cons,List.not_mem_nil,or_false]at a
   rcases a with rfl|rfl|rfl|rfl<;>exact c _ (by omega) (by omega)
def ZhV {l:List UInt8} (h:∀b∈l,b.toNat<128) {c:UInt8} (hc:128≤c.toNat):Lib.indexByte l c= -1:=by
 induction l with
 |nil=>rfl
 |cons a l ih=>
  unfold Lib.indexByte
  have ha:=h a (by simp)
  rw[if_neg (by simp only[beq_iff_eq];rintro rfl;omega),ih (fun b d=>h b (by simp[d]))]
  rfl
end Go.Lk
namespace Go.Proofs.YtlhapbopmplngaaGreatDoor
open Go.RowKit Go.Lk
def ZgW (cs:Bs) (ha:∀b∈cs,b.toNat<128) (hl:cs.length≤3) (r:Int) (h:128≤r) (he:r≠65533) (hv:Utf8.valid r=true) (w:World):
  Calls Tryz.prog 250 #[.string ⟨cs.toArray⟩, .int .i32 r] w fun e w'=>e= .returned (.int .i64 (-1))∧Zg [] w w':=by
 obtain⟨a,p,O,S,c⟩:=ZkR h hv
 have aa:∀W:World,(convert 21 9 (.int .i32 r)).run Tryz.prog W= .ok (.string ⟨a.toArray⟩) W:=fun W=>by
  rw[←p]
  simp[convert,Sem.run_bind,run_underlying Tryz.underlying21,run_underlying Tryz.underlying9,Conv.intToString]
 have d:= Tryz.utf8_ValidRune r w
 rw[show Lib.validRune r=true from by unfold Lib.validRune;unfold Utf8.valid at hv;simp only[Bool.or_eq_true,Bool.and_eq_true,decide_eq_true_eq]at hv⊢;omega]at d
 have h1:¬r<128:=by omega
 have af:(0:Int)≤r:=by omega
 have s:=D d;have J:=D c;have I:=D ha
 obtain⟨L,m⟩:∃L,a.length=L+1:=⟨a.length-1,by omega⟩
 obtain⟨n,l⟩:=Je cs.length
 have G:=D l
 have X:=D m
 have ag:L≤3:=by omega
 have ac:(⟨a.toArray⟩:ByteArray).size=L+1:=by show a.toArray.size=_;rw[List.size_toArray];exact m
 have ab:(⟨cs.toArray⟩:ByteArray).size=n:=by show cs.toArray.size=_;rw[List.size_toArray];exact l.symm
 have ae:n≤3:=by omega
 clear p c d l m ha hv hl O S
 go_in
 go_wp2_with fail
 refine s.out.mono ?_
 rintro e w1 ⟨rfl,C⟩
 rw[C];clear C w1 s
 go_wp2_with fail
 refine wp_scope_straight ?_
 go_wp2_with fail
 go_loopw[9] (fun v9 wr=>v9= .int .i64 L∧wr=w) (fun v9 _=>0)
 case atStart=>exact⟨by go_num,rfl⟩
 case round=>
  obtain⟨rfl,rfl⟩:=hrel
  by_cases V:L<n
  ·have i:L<cs.length:=by rw[←G.out];exact V
   have j:L<a.length:=by rw[X.out];omega
   have N:=fun W=>Zeo (P:= Tryz.prog) (t:= 9) (k:= .i64) (z:=(L:Int)) Tryz.underlying9 rfl i W
   have M:=fun W=>Zeo (P:= Tryz.prog) (t:= 9) (k:= .i64) (z:=(L:Int)) Tryz.underlying9 rfl j W
   obtain⟨x,hx⟩:=Je (cs[L])
   obtain⟨y,g⟩:=Je (a[L])
   have ad:x.toNat<128:=I.out x (by rw[hx];exact List.getElem_mem i)
   have Q:128≤y.toNat:=J.out y (by rw[g];exact List.getElem_mem j)
   rw[←hx]at N
   rw[←g]at M
   have K:((x.toNat:Int)==(y.toNat:Int))=false:=by rw[beq_eq_false_iff_ne];omega
   clear hx g i j
   go_wp2_with fail
   refine wp_scope_straight ?_
   go_upto_region 6 with fail
   go_quiet (fail)
   generalize hwq:wr.drewN _=wq
   have E:Zg [] wr wq:=by rw[←hwq];exact(Zg.refl [] wr).drewN _
   clear hwq K;change Hid _ at E
   have q:= Tryz.strings_IndexByte ⟨(cs.drop (L+1)).toArray⟩ (y.toNat:Int)
   have F:((y.toNat:Int).toNat.toUInt8)=y:=by simp
   rw[F]at q
   rw[show Lib.indexByte (⟨(cs.drop (L+1)).toArray⟩:ByteArray).data.toList y= -1 from ZhV (fun b c=>I.out b (List.mem_of_mem_drop c)) Q]at q
   have H:=D q
   clear q F
   have R:IntKind.i64.wrap ((L:Int)+1)=(L:Int)+1:=IntWalk.i64_in _ (by omega)
   have T:ByteArray.extract ⟨cs.toArray⟩ (L+1) n=⟨(cs.drop (L+1)).toArray⟩:=by
    rw[Lib.extract_eq,G.out]
    show(⟨((cs.drop (L+1)).take (cs.length-(L+1))).toArray⟩:ByteArray)=_
    rw[List.take_of_length_le (by rw[List.length_drop];exact Xi _)]
   go_upto_region 7 with fail
   refine Jr [0,4,8,12,16,20,24,30,32] (fun _=>True) trivial ?_
   repeat first|refine Jn ?_|refine Jf ?_|refine Ju ?_
   apply ZaF (v:= .string ⟨(cs.drop (L+1)).toArray⟩)
   case ho=>simp only[Xh,Xf,Xg];rfl
   case hg=>rfl
   case hv=>
    intro W Z
    clear Z
    go_simp
    intro h
    exact absurd (h (by omega)) (by omega)
   case ha=>go_simp;rfl
   repeat first|refine Jn ?_|refine Jf ?_|refine Ju ?_
   clear R T
   refine JL ?_
   go_wp2_with fail
   refine(H.out _).mono ?_
   rintro e Y ⟨rfl,o⟩
   rw[o];clear o Y H
   go_wp2_with fail
   refine⟨fun _=>True,trivial,?_⟩
   repeat first|refine Jn ?_|refine Jf ?_|refine Ju ?_
   refine ZK ?_
   go_wp2_with fail
   rw[Exit.noGoto_ret]
   simp only[Exit.inBlock,Exit.then]
   simp+zetaDelta only[Exit.inBlock,Exit.then]
   rw[Exit.noGoto_ret]
   simp only[Exit.inBlock,Exit.then]
   go_ret
   exact⟨rfl,E.drewN 1⟩
  ·go_wp2_with fail
   rw[Exit.noGoto_ret]
   go_ret
   exact⟨rfl,Zg.refl _ _⟩
def ZfE (cs:Bs) (r:Int) (h:128≤r) (he:r≠65533) (hv:Utf8.valid r=false) (w:World):
  Calls Tryz.prog 250 #[.string ⟨cs.toArray⟩, .int .i32 r] w fun e w'=>e= .returned (.int .i64 (-1))∧Zg [] w w':=by
 have a:= Tryz.utf8_ValidRune r w
 rw[show Lib.validRune r=false from by unfold Lib.validRune;unfold Utf8.valid at hv;simp only[Bool.or_eq_false_iff,Bool.and_eq_false_iff,decide_eq_false_iff_not]at hv⊢;omega]at a
 have i:¬r<128:=by omega
 have g:(0:Int)≤r:=by omega
 have b:=D a
 clear a hv
 go_in
 go_wp2_with fail
 refine b.out.mono ?_
 rintro e d ⟨rfl,c⟩
 rw[c];clear c d b
 go_wp2_with fail
 go_ret
 exact⟨rfl,Zg.refl _ _⟩
def ZgR (cs:Bs) (ha:∀b∈cs,b.toNat<128) (w:World):
  Calls Tryz.prog 250 #[.string ⟨cs.toArray⟩, .int .i32 65533] w fun e w'=>e= .returned (.int .i64 (-1))∧Zg [] w w':=by
 have j:=D ha
 clear ha
 go_in
 go_wp2_with fail
 go_loopw[5,6] (fun _ _ wr=>∃i:Nat,i≤cs.length∧wr=w.iter ⟨cs.toArray⟩ i) (fun _ _ wr=>cs.length-wr.iterPos w.heap.size)
 case atStart=>exact⟨0,Xn _,rfl⟩
 case round=>
  obtain⟨i,l,rfl⟩:=hrel
  by_cases a:i<cs.length
  ·have d:i<(⟨cs.toArray⟩:ByteArray).size:=by simpa[ByteArray.size]using a
   obtain⟨x,hx⟩:=Je (cs[i])
   have h:x.toNat<128:=j.out x (by rw[hx];exact List.getElem_mem a)
   have hg:=Zaj cs i a
   rw[←hx]at hg
   have g:=fun c=>run_next_ascii (P:= Tryz.prog) w ⟨cs.toArray⟩ i c d (by rw[hg];exact h)
   simp only[hg]at g
   have k:((x.toNat:Int)==65533)=false:=by rw[beq_eq_false_iff_ne];omega
   clear hg hx d
   go_wp2_with fail
   exact⟨⟨i+1,by omega,rfl⟩,by simp;omega⟩
  ·obtain rfl:i=cs.length:=by omega
   have g:=fun c=>run_next_end (P:= Tryz.prog) w ⟨cs.toArray⟩ cs.length c (by simp[ByteArray.size])
   go_wp2_with fail
   go_ret
   exact⟨rfl,(Zg.refl [] w).alloc _⟩
def ZhA (cs:Bs) (ha:∀b∈cs,b.toNat<128) (hl:cs.length≤3) (r:Int) (h:128≤r) (w:World):
  Calls Tryz.prog 250 #[.string ⟨cs.toArray⟩, .int .i32 r] w fun e w'=>e= .returned (.int .i64 (-1))∧Zg [] w w':=by
 by_cases a:r=65533
 ·subst a;exact ZgR cs ha w
 ·cases hv:Utf8.valid r with
  |true=>exact ZgW cs ha hl r h a hv w
  |false=>exact ZfE cs r h a hv w
end Go.Proofs.YtlhapbopmplngaaGreatDoor
namespace Go.Lk
open Go
theorem ZfT (cs:List UInt8):∀s:List UInt8,s.any (fun c=>cs.contains c)=decide (0≤Lib.indexAny s cs)
 |[]=>rfl
 |b::l=>by
  have ihl:=ZfT cs l
  have hge:=Lib.indexAny_ge cs l
  unfold Lib.indexAny
  rw[List.any_cons]
  cases hb:cs.contains b with
  |true=>simp
  |false=>
   rw[Bool.false_or,ihl,if_neg (by simp)]
   rw[Bool.eq_iff_iff,decide_eq_true_eq,decide_eq_true_eq]
   split
   ·rename_i h
    have h2:Lib.indexAny l cs= -1:=by simpa using h
    rw[h2]
   ·rename_i h
    have h2:Lib.indexAny l cs≠-1:=by simpa using h
    generalize Lib.indexAny l cs=z at*
    omega
def get!_at (s:ByteArray) (i:Nat) (h:i<s.size):s.get! i=s[i]:=by
 simp[ByteArray.get!,getElem!_pos,h]
 rfl
def Zl2 (s:ByteArray) (pos:Nat) (h:pos<s.size) (ha:128≤(s[pos]'h).toNat):pos+(Utf8.decode s pos).2≤s.size∧∀(j:Nat) (hj:j<s.size),pos≤j→j<pos+(Utf8.decode s pos).2→128≤(s[j]).toNat:=by
 have l:¬(s.get! (pos+0)).toNat<0x80:=by rw[Nat.add_zero,get!_at s pos h];omega
 have one:∀(j:Nat) (hj:j<s.size),pos≤j→j<pos+1→128≤(s[j]).toNat:=fun j hj a f=>by
  obtain rfl:j=pos:=by omega
  exact ha
 have b:∀k,(decide (pos+k<s.size)&&(s.get! (pos+k)).toNat/64==2)=true→∃h:pos+k<s.size,128≤(s[pos+k]).toNat:=fun k e=>by
  simp only[Bool.and_eq_true,decide_eq_true_eq,beq_iff_eq]at e
  refine⟨e.1,?_⟩
  have:=e.2
  rw[get!_at s _ e.1]at this
  omega
 unfold Utf8.decode
 dsimp only
 rw[if_neg l]
 split
 ·rename_i a
  simp only[Bool.and_eq_true]at a
  obtain⟨i,c⟩:=b 1 (by simpa using a.2)
  split
  ·refine⟨by dsimp only;omega,fun j hj f d=> ?_⟩
   dsimp only at d
   rcases(show j=pos∨j=pos+1 by omega)with rfl|rfl
   ·exact ha
   ·exact c
  ·exact⟨by dsimp only;omega,one⟩
 split
 ·rename_i a
  simp only[Bool.and_eq_true]at a
  obtain⟨i,c⟩:=b 1 (by simpa using a.1.2)
  obtain⟨m,g⟩:=b 2 (by simpa using a.2)
  split
  ·refine⟨by dsimp only;omega,fun j hj f d=> ?_⟩
   dsimp only at d
   rcases(show j=pos∨j=pos+1∨j=pos+2 by omega)with rfl|rfl|rfl
   ·exact ha
   ·exact c
   ·exact g
  ·exact⟨by dsimp only;omega,one⟩
 split
 ·rename_i a
  simp only[Bool.and_eq_true]at a
  obtain⟨i,c⟩:=b 1 (by simpa using a.1.1.2)
  obtain⟨m,g⟩:=b 2 (by simpa using a.1.2)
  obtain⟨o,n⟩:=b 3 (by simpa using a.2)
  split
  ·refine⟨by dsimp only;omega,fun j hj f d=> ?_⟩
   dsimp only at d
   rcases(show j=pos∨j=pos+1∨j=pos+2∨j=pos+3 by omega)with rfl|rfl|rfl|rfl
   ·exact ha
   ·exact c
   ·exact g
   ·exact n
  ·exact⟨by dsimp only;omega,one⟩
 ·exact⟨by dsimp only;omega,one⟩
end Go.Lk
namespace Go.Proofs.YtlhapbopmplngaaGreatDoor
open Go.RowKit Go.Lk
def ZiG (w:World) (k:Nat) (s:ByteArray) (p:Nat):Zg [k] w (w.iterAt k s p):=⟨rfl,rfl,rfl,by simp[World.iterAt],fun x hx hn=>by
 have:k≠x:=by simpa[eq_comm]using hn
 simp[World.iterAt,Array.getElem?_setIfInBounds,this]⟩
def ZhD (s cs:Bs) (ha:∀b∈cs,b.toNat<128) (h2:2≤cs.length) (h3:cs.length≤3) (h8:s.length≤8) (w:World):
  Calls Tryz.prog 169 #[.string ⟨s.toArray⟩, .string ⟨cs.toArray⟩] w fun e w'=>e= .returned (.int .i64 (Lib.indexAny s cs))∧Zg [] w w':=by
 have al:(⟨cs.toArray⟩:ByteArray).toList.isEmpty=false:=by
  rw[Lib.toList_data]
  show cs.isEmpty=false
  cases cs with
  |nil=>simp at h2
  |cons _ _=>rfl
 have an:(cs==([]:Bs))=false:=by
  cases cs with
  |nil=>simp at h2
  |cons _ _=>rfl
 have am:((cs.length:Int)==1)=false:=beq_eq_false_iff_ne.2 (by omega)
 have X:¬(8:Int)<(s.length:Int):=by omega
 have O:= Tryz.strings_shouldUseASCIISet (s.length:Int) w
 rw[decide_eq_false X]at O
 have aa:=D O;have HA:=D ha
 clear O ha X
 go_in
 go_wp2_with fail
 refine aa.out.mono ?_
 rintro e w1 ⟨rfl,af⟩
 rw[af];clear af w1 aa
 go_wp2_with fail
 obtain⟨k0,h⟩:=Je w.heap.size
 have Z:=D h
 have ae:(w.iter ⟨s.toArray⟩ 0).heap[k0]? =some (.stringIter ⟨s.toArray⟩ 0):=by rw[h];exact World.iter_heap _ _ _
 have V:Zg [] w (w.iter ⟨s.toArray⟩ 0):=(Zg.refl [] w).alloc _
 rw[←h]
 clear h;change Hid _ at ae V
 go_loopw[9,10] (fun _ _ wr=>∃i:Nat,i≤s.length∧Hid (wr.heap[k0]? =some (.stringIter ⟨s.toArray⟩ i))∧Hid (Zg [] w wr)∧Hid (Lib.NoAny s cs i)) (fun _ _ wr=>s.length-wr.iterPos k0)
 case atStart=>exact⟨0,Xn _,ae,V,D (Lib.NoAny.zero _ _)⟩
 case round=>
  obtain⟨i,hi,k,L,t⟩:=hrel
  by_cases J:i<s.length
  ·have l:i<(⟨s.toArray⟩:ByteArray).size:=by simpa[ByteArray.size]using J
   obtain⟨x,hx⟩:=Je (s[i])
   have hg:=Zaj s i J
   rw[←hx]at hg
   have I:s[i]? =some x:=by rw[hx];simp[J]
   have HX:=D I
   by_cases ag:x.toNat<128
   ·have a:=fun p=>Lib.run_next_ascii_at (P:= Tryz.prog) wr k0 ⟨s.toArray⟩ i p k l (by rw[hg];exact ag)
    simp only[hg]at a
    have g:=D (Lib.iterAt_heap wr k0 ⟨s.toArray⟩ i (i+1) k)
    have m:=D ((L.weaken (G:=[]) (by simp)).trans (ZiG wr k0 ⟨s.toArray⟩ (i+1)) (fun q R=> .inl (by rw[Jm R,Z.out];exact Xi _)))
    obtain⟨r,o⟩:=Je (wr.iterAt k0 ⟨s.toArray⟩ (i+1))
    rw[←o]at g m a
    have q:= Tryz.strings_IndexRune_ascii ⟨cs.toArray⟩ (x.toNat:Int) r (by omega) (by omega)
    rw[show((x.toNat:Int).toNat.toUInt8)=x by simp]at q
    have z:=Lib.contains_iff_indexByte cs x
    obtain⟨ix,E⟩:=Je (Lib.indexByte (⟨cs.toArray⟩:ByteArray).data.toList x)
    rw[←E]at q
    have S:Lib.indexByte cs x=ix:=E.symm
    rw[S]at z
    have y:=D q;have T:=D z
    clear hx hg I l o q z E S
    go_wp2_with fail
    refine y.out.mono ?_
    rintro e Q ⟨rfl,ab⟩
    rw[ab];clear ab Q y a
    by_cases n:(0:Int)≤ix
    ·have HH:=D (Lib.indexAny_hit t HX (by rw[T.out];exact decide_eq_true n))
     go_wp2_with fail
     go_ret
     exact⟨by rw[HH.out]<;>rfl,m.out⟩
    ·have F:=D (t.succ HX (by rw[T.out];exact decide_eq_false n))
     go_wp2_with fail
     exact⟨⟨i+1,by omega,g,m,F⟩,by
      have N:wr.iterPos k0=i:=by unfold World.iterPos;rw[k.out]
      have M:r.iterPos k0=i+1:=by unfold World.iterPos;rw[g.out]
      rw[N,M];omega⟩
   ·have W:128≤x.toNat:=by omega
    have a:=fun p=>Lib.run_next_any_at (P:= Tryz.prog) wr k0 ⟨s.toArray⟩ i p k l
    obtain⟨ac,ah⟩:=decode_high ⟨s.toArray⟩ i l (by rw[hg];exact W)
    obtain⟨C,K⟩:=Zl2 ⟨s.toArray⟩ i l (by rw[hg];exact W)
    obtain⟨c,n⟩:=Je ((Utf8.decode ⟨s.toArray⟩ i).1)
    obtain⟨d,hd⟩:=Je ((Utf8.decode ⟨s.toArray⟩ i).2)
    rw[←n]at ac
    rw[←hd]at ah C K
    simp only[←n,←hd]at a
    have aj:i+d≤s.length:=by simpa[ByteArray.size]using C
    have g:=D (Lib.iterAt_heap wr k0 ⟨s.toArray⟩ i (i+d) k)
    have m:=D ((L.weaken (G:=[]) (by simp)).trans (ZiG wr k0 ⟨s.toArray⟩ (i+d)) (fun q R=> .inl (by rw[Jm R,Z.out];exact Xi _)))
    obtain⟨r,o⟩:=Je (wr.iterAt k0 ⟨s.toArray⟩ (i+d))
    rw[←o]at g m a
    have F:=D (show Lib.NoAny s cs (i+d)from fun j b hj hb=>by
     by_cases ai:j<i
     ·exact t j b ai hb
     ·obtain⟨Y,rfl⟩:=List.getElem?_eq_some_iff.1 hb
      have:=K j (by simpa[ByteArray.size]using Y) (by omega) (by omega)
      rw[Zaj s j Y]at this
      rw[Bool.eq_false_iff]
      intro hm
      have:=HA.out _ (by simpa using hm)
      omega)
    have y:=D (ZhA cs HA h3 (c:Int) (by omega) r)
    clear hx hg I l o n hd C K ac
    go_wp2_with fail
    refine y.out.mono ?_
    rintro e Q ⟨rfl,H⟩
    have h:k0<r.heap.size:=(Jg g)
    have ad:=D ((H.block k0 h (by simp)).trans g)
    have ak:=Jt m H
    clear H a h
    go_wp2_with fail
    exact⟨⟨i+d,aj,ad,ak,F⟩,by
     have N:wr.iterPos k0=i:=by unfold World.iterPos;rw[k.out]
     have M:Q.iterPos k0=i+d:=by unfold World.iterPos;rw[ad.out]
     rw[N,M];omega⟩
  ·obtain rfl:i=s.length:=by omega
   have a:=fun p=>Lib.run_next_end_at (P:= Tryz.prog) wr k0 ⟨s.toArray⟩ s.length p k (by simp[ByteArray.size])
   go_wp2_with fail
   go_ret
   exact⟨by rw[Lib.indexAny_none t.out]<;>rfl,L.out⟩
def Zju (s cs:Bs) (ha:∀b∈cs,b.toNat<128) (h2:2≤cs.length) (h3:cs.length≤3) (hs:s.length≤1000000) (w:World):
  Calls Tryz.prog 169 #[.string ⟨s.toArray⟩, .string ⟨cs.toArray⟩] w fun e w'=>e= .returned (.int .i64 (Lib.indexAny s cs))∧Zg [] w w':=by
 by_cases a:s.length≤8
 ·exact ZhD s cs ha h2 h3 a w
 ·refine(Tryz.strings_IndexAny_long (zero_of_info (t:= 339) (show(Tryz.prog.info? 339).map (fun i=>(i.zero,i.size))=some (some (.agg (Array.replicate 256 (.bool false))),256)by kernel_rfl)).1 ⟨s.toArray⟩ ⟨cs.toArray⟩ w (by simpa[ByteArray.size]using h2) (by simp[ByteArray.size];omega) (by simp[ByteArray.size];omega) (by simp[ByteArray.size];omega) (fun j b c=>ha b (Xc c))).mono ?_
  rintro e w' ⟨rfl,rfl⟩
  exact⟨rfl,((Zg.refl [] w).alloc _).alloc _⟩
def Zkg (s cs:Bs) (ha:∀b∈cs,b.toNat<128) (h2:2≤cs.length) (h3:cs.length≤3) (hs:s.length≤1000000) (w:World):
  Calls Tryz.prog 230 #[.string ⟨s.toArray⟩, .string ⟨cs.toArray⟩] w fun e w'=>e= .returned (.bool (s.any fun c=>cs.contains c))∧Zg [] w w':=by
 have q:=Zju s cs ha h2 h3 hs w
 have a:=ZfT cs s
 obtain⟨r,g⟩:=Je (Lib.indexAny s cs)
 rw[←g]at q a
 rw[a]
 have Q:=D q
 clear q g a
 go_in
 go_wp2_with fail
 refine Q.out.mono ?_
 rintro e i ⟨rfl,d⟩
 have h:=D d;clear d
 go_wp2_with fail
 go_ret
 exact⟨rfl,h.out⟩
end Go.Proofs.YtlhapbopmplngaaGreatDoor
