import Derived.Test.YtlhapbopmplngaaGreatDoorS18
import Derived.Test.YtlhapbopmplngaaGreatDoorS28
import Derived.Test.YtlhapbopmplngaaGreatDoorS30
set_option linter.all false
set_option maxHeartbeats 16000000
set_option maxRecDepth 100000
set_option autoImplicit true
set_option relaxedAutoImplicit true
namespace Go.Lk
def ZoC (r:Ya):ZaZ r=if(ZaJ r.url).2 !=0 then(ZaJ r.url).2 else if(YX r.origin).2 !=0 then(YX r.origin).2
 else if ZbI r !=0 then ZbI r
 else if(r.mode==1&&(ZaJ r.url).1.origin !=(YX r.origin).1)||(r.mode==2&& !Zfu r)then 7 else 0:=rfl
open Go.RowKit
def ZbM {P:Program} {ops:Array Oper} {rest:List Oper} {o:Oper} {a:Act} {Q:Exit→Act→World→Prop} (hgd:Region.wanted o (yielded ops a.tmps)=true) (t:TypeId) (x:Operand) (ho:o.op= .load t x)
  (b of:Nat) (cs:List Value) (hx:a.eval x= .pointer (some ⟨b,of,none⟩)) (ht:Zu P t cs.length=true) (hb:Zb w b of cs)
  (h:wpList P ops Q rest (a.put o.dst (.agg cs.toArray)) w):wpList P ops Q (o::rest) a w:=
 wpList_step fun K hK=>by
  rw[if_pos hgd]
  unfold Oper.wp execOp
  simp only[ho,Sem.run_bind,Sem.run_pure,Result.andThen_ok,hx,Yg w ht hb]
  exact hK _ _ h
end Go.Lk
namespace Go.Proofs.YtlhapbopmplngaaGreatDoor
open Go.RowKit Go.Lk
def Yh:Zu Tryz.prog 35 10=true:=by kernel_rfl
def Zeq:Zu Tryz.prog 203 3=true:=by kernel_rfl
def ZfP:Zu Tryz.prog 205 5=true:=by kernel_rfl
def Zk5 (a c:Zs):(a !=c)=decide (¬(a.scheme=c.scheme∧a.host=c.host∧a.port=c.port)):=by
 obtain⟨f,u1,e⟩:=a
 obtain⟨d,u2,g⟩:=c
 by_cases i:f=d<;>by_cases b:u1=u2<;>by_cases h:e=g<;>simp[i,b,h,bne]
def ZgU (r:Ya) (vh:Value) (w:World) (h:Za5 w r vh) (hE:Env w):
  Calls Tryz.prog 52 #[.agg (Zt r vh).toArray] w fun e w'=>e= .returned (.int .i64 (ZaZ r))∧Zg [] w w':=by
 obtain⟨R,hR⟩:=Je (ZaZ r)
 obtain⟨u,Z⟩:=Je (ZaJ r.url)
 obtain⟨o,ho⟩:=Je (YX r.origin)
 obtain⟨d,S⟩:=Je (ZbI r)
 obtain⟨g,Q⟩:=Je (Zfu r)
 have C:=D (show R=if u.2 !=0 then u.2 else if o.2 !=0 then o.2 else if d !=0 then d else if(r.mode==1&&u.1.origin !=o.1)||(r.mode==2&& !g)then 7 else 0 by rw[hR,Z,ho,S,Q];exact ZoC r)
 rw[←hR]
 obtain⟨m,ae,a,q⟩:=Kc w (.cells (Zt r vh).toArray 35)
 have c1:=Jc 1 q
 have q1:=Zf6 r.url m (hE.upd0 a)
 rw[←Z]at q1
 have q2:∀W,Zg [] m W→Calls Tryz.prog 98 #[.string ⟨r.origin.toArray⟩] W (ZhG W o):=fun W i=>by rw[ho];exact Zd4 r.origin W h.o (hE.upd0 (a.trans i))
 have q3:∀W,Zg [] m W→Calls Tryz.prog 99 #[.agg (Zt r vh).toArray] W fun e w'=>e= .returned (.int .i64 d)∧Zg [] W w':=fun W i=>by rw[S];exact Znl r vh W ((h.upd0 a).upd0 i) (hE.upd0 (a.trans i))
 have q4:∀W,Zg [] m W→Calls Tryz.prog 100 #[.agg (Zt r vh).toArray] W fun e w'=>e= .returned (.bool g)∧Zg [] W w':=fun W i=>by rw[Q];exact ZjO r vh W ((h.upd0 a).upd0 i) (hE.upd0 (a.trans i))
 have Q1:=D q1;have Q2:=D q2;have Q3:=D q3;have Q4:=D q4
 have af:=D Yh;have ar:=D Zeq;have au:=D ZfP
 have ay:=D (show Tryz.prog.eqGuardType Tryz.prog.depth 203=false by kernel_rfl)
 clear q1 q2 q3 q4 hR Z ho S Q h hE;change Hid _ at a ae q
 obtain⟨b0,Y⟩:=Je w.heap.size
 rw[←Y]at q c1
 change Hid _ at Y
 go_in
 go_upto_region 1 with fail
 rw[←ae.out,←Y.out]
 go_wp2_with fail
 refine Q1.out.mono ?_
 rintro e G ⟨rfl,am⟩
 obtain⟨u,ue⟩:=u
 dsimp only at C
 obtain⟨w3,x⟩:=Je ((G.alloc (.cells #[.string ⟨#[]⟩, .string ⟨#[]⟩, .int .i64 0, .string ⟨#[]⟩, .string ⟨#[]⟩] 205 (0,0))).setRow G.heap.size (ZW u).toArray)
 have ah:=D (Za (w:=G) (.cells #[.string ⟨#[]⟩, .string ⟨#[]⟩, .int .i64 0, .string ⟨#[]⟩, .string ⟨#[]⟩] 205 (0,0)))
 have T:=Kk x ah
 have ab:=Kh x
 have ao:=D (show(ZW u).toArray.all (·.oneCell')=true by rw[Xl,Xk];exact ZaA _)
 have J:Zg [] m w3:=am.trans ab
 have K:=D J
 have X:=Kv J q
 have ax:=D X
 have c2:=Jc 2 X
 clear am ab J X c1 Q1;change Hid _ at x T
 go_upto_region 2 with(refine Jo (ZW u).toArray ah au ao ?_;rw[←x.out])
 obtain⟨F,al⟩:=Je G.heap.size
 rw[←al]at T⊢
 clear al
 by_cases h1:ue=0
 case neg=>
  have b:=D (show R=ue by rw[C.out,if_pos (by simpa using h1)])
  go_wp2_with fail
  go_ret
  exact⟨by rw[b.out];rfl,a.trans K⟩
 subst h1
 have y:=D (show R=if o.2 !=0 then o.2 else if d !=0 then d else if(r.mode==1&&u.origin !=o.1)||(r.mode==2&& !g)then 7 else 0 by rw[C.out];rfl)
 clear C
 go_wp2_with fail
 refine(Q2.out w3 K).mono ?_
 rintro e I ⟨rfl,ag⟩
 obtain⟨o,oe⟩:=o
 dsimp only at y
 obtain⟨w5,p⟩:=Je ((I.alloc (.cells #[.string ⟨#[]⟩, .string ⟨#[]⟩, .int .i64 0] 203 (0,0))).setRow I.heap.size (ZB o).toArray)
 have aj:=D (Za (w:=I) (.cells #[.string ⟨#[]⟩, .string ⟨#[]⟩, .int .i64 0] 203 (0,0)))
 have M:=Kk p aj
 have aa:=Kh p
 have av:=D (show(ZB o).toArray.all (·.oneCell')=true by rw[Xl,Xk];exact ZaB _)
 have n:Zg [] w3 w5:=ag.trans aa
 have L:=Jt K n
 have an:=D ((Kv n ax))
 have aq:=D ((Kv n T))
 clear ag aa n c2 Q2;change Hid _ at p M
 go_upto_region 5 with(refine Jo (ZB o).toArray aj ar av ?_;rw[←p.out])
 obtain⟨z,ak⟩:=Je I.heap.size
 rw[←ak]at M⊢
 clear ak
 by_cases h2:oe=0
 case neg=>
  have b:=D (show R=oe by rw[y.out,if_pos (by simpa using h2)])
  go_wp2_with fail
  go_ret
  exact⟨by rw[b.out];rfl,a.trans L⟩
 subst h2
 have P:=D (show R=if d !=0 then d else if(r.mode==1&&u.origin !=o)||(r.mode==2&& !g)then 7 else 0 by rw[y.out];rfl)
 have ap:=D (show Zb w5 b0 0 (Zt r vh)from Zb.of_block an)
 clear y
 go_wp2_with(refine Jl ap af ?_)
 refine(Q3.out w5 L).mono ?_
 rintro e c ⟨rfl,k⟩
 have j:=Jt L k
 have O:=Kv k an
 have aw:=D (show Zb c b0 0 (Zt r vh)from Zb.of_block O)
 have V:=D (show Zb c z 0 (ZB o)from Zb.of_block ((Kv k M)))
 have N:=D (show Zb c F 0 (ZB u.origin)from Zba (Zb.of_block ((Kv k aq))))
 have c3:=Jc 3 O
 clear k O Q3
 by_cases h3:d=0
 case neg=>
  have b:=D (show R=d by rw[P.out,if_pos (by simpa using h3)])
  go_wp2_with fail
  go_ret
  exact⟨by rw[b.out];rfl,a.trans j⟩
 subst h3
 have s:=D (show R=if(r.mode==1&&u.origin !=o)||(r.mode==2&& !g)then 7 else 0 by rw[P.out];rfl)
 clear P
 obtain⟨H,ai⟩:=Je r.mode
 rw[←ai]at c3 s
 clear ai
 by_cases m1:H=1
 ·subst m1
  have b:=D (show R=if u.origin.scheme=o.scheme∧u.origin.host=o.host∧u.origin.port=o.port then 0 else 7 by
   rw[s.out,Zk5]
   by_cases E:u.origin.scheme=o.scheme∧u.origin.host=o.host∧u.origin.port=o.port
   ·rw[if_pos E,decide_eq_false (not_not_intro E)];rfl
   ·rw[if_neg E,decide_eq_true E];rfl)
  have d0:c.cell? ⟨F,0,none⟩=some (.string ⟨u.origin.scheme.toArray⟩):=N.out 0 _ rfl
  have d1:c.cell? ⟨F,1,none⟩=some (.string ⟨u.origin.host.toArray⟩):=N.out 1 _ rfl
  have d2:c.cell? ⟨F,2,none⟩=some (.int .i64 u.origin.port):=N.out 2 _ rfl
  have d3:c.cell? ⟨z,0,none⟩=some (.string ⟨o.scheme.toArray⟩):=V.out 0 _ rfl
  have d4:c.cell? ⟨z,1,none⟩=some (.string ⟨o.host.toArray⟩):=V.out 1 _ rfl
  have d5:c.cell? ⟨z,2,none⟩=some (.int .i64 o.port):=V.out 2 _ rfl
  go_wp2_with fail
  all_goals
   go_ret
   exact⟨by first|(rw[b.out,if_neg (by simp[*])];rfl)|(rw[b.out,if_pos (by simp[*])];rfl),a.trans j⟩
 have n1:(H==1)=false:=by rw[beq_eq_false_iff_ne];exact m1
 by_cases m2:H=2
 ·subst m2
  have b:=D (show R=if g then 0 else 7 by rw[s.out];cases g<;>rfl)
  clear n1
  go_wp2_with(refine ZbM (by go_simp) 35 (.tmp 1) rfl b0 0 (Zt r vh) rfl af aw ?_)
  refine(Q4.out c j).mono ?_
  rintro e w7 ⟨rfl,ad⟩
  have ac:=Jt j ad
  clear ad Q4
  cases g with
  |true=>
   have l:=D (show R=0 by rw[b.out];rfl)
   go_wp2_with fail
   go_ret
   exact⟨by rw[l.out];rfl,a.trans ac⟩
  |false=>
   have l:=D (show R=7 by rw[b.out];rfl)
   go_wp2_with fail
   go_ret
   exact⟨by rw[l.out];rfl,a.trans ac⟩
 ·have n2:(H==2)=false:=by rw[beq_eq_false_iff_ne];exact m2
  have l:=D (show R=0 by rw[s.out,n1,n2];rfl)
  go_wp2_with fail
  go_ret
  exact⟨by rw[l.out];rfl,a.trans j⟩
end Go.Proofs.YtlhapbopmplngaaGreatDoor
namespace Go.Lk
open Go.RowKit
theorem Zn9 (r:Ya):Yz r=if ZaZ r !=0 then(Z3.zero,Zs.zero,false)else((ZaJ r.url).1,(YX r.origin).1,true):=rfl
section
variable {P:Program} {w:World}
theorem ZbR {fn:Func} {tmps:Array Value} {cs ds:List Value} {b o b2 o2:Nat} {v:Value} (hf:fn.results= #[.cell x t, .cell x2 t2, .tmp y]) (hx:tmps.getD x undef= .pointer (some ⟨b,o,none⟩)) (hx2:tmps.getD x2 undef= .pointer (some ⟨b2,o2,none⟩)) (hy:tmps.getD y undef=v)
  (ht:Zu P t cs.length=true) (hb:Zb w b o cs) (ht2:Zu P t2 ds.length=true) (hb2:Zb w b2 o2 ds):
  (results fn tmps).run P w= .ok (.tuple #[.agg cs.toArray, .agg ds.toArray,v]) w:=by
 have c:=Yg w ht hb
 simp only[Instr.loadAt,Instr.sureAddr,Sem.run_bind,Sem.run_pure,Result.andThen_ok]at c
 have a:=Yg w ht2 hb2
 simp only[Instr.loadAt,Instr.sureAddr,Sem.run_bind,Sem.run_pure,Result.andThen_ok]at a
 have e:tmps[x]?.getD undef= .pointer (some ⟨b,o,none⟩):=by simpa using hx
 have d:tmps[x2]?.getD undef= .pointer (some ⟨b2,o2,none⟩):=by simpa using hx2
 have f:tmps[y]?.getD undef=v:=by simpa using hy
 unfold results
 simp[hf,e,d,f,asAddr,c,a]
end
end Go.Lk
namespace Go.Proofs.YtlhapbopmplngaaGreatDoor
open Go.RowKit Go.Lk
def Zqa (w:World) (p:Z3×Zs×Bool) (e:Ending) (w':World):Prop:=e= .returned (.tuple #[.agg (ZW p.1).toArray, .agg (ZB p.2.1).toArray, .bool p.2.2])∧Zg [] w w'
theorem ZgB (r:Ya) (vh:Value) (w:World) (h:Za5 w r vh) (hE:Env w):
  Calls Tryz.prog 104 #[.agg (Zt r vh).toArray] w (Zqa w (Yz r)):=by
 obtain⟨R,hR⟩:=Je (Yz r)
 obtain⟨u,hu⟩:=Je (ZaJ r.url)
 obtain⟨o,ho⟩:=Je (YX r.origin)
 obtain⟨ec,X⟩:=Je (ZaZ r)
 have HR:=D (show R=if ec !=0 then(Z3.zero,Zs.zero,false)else(u.1,o.1,true)by rw[hR,hu,ho,X];exact Zn9 r)
 rw[←hR]
 obtain⟨g,s⟩:=Je (((w.alloc (.cells (Zt r vh).toArray 35)).alloc (.cells #[.string ⟨#[]⟩, .string ⟨#[]⟩, .int .i64 0, .string ⟨#[]⟩, .string ⟨#[]⟩] 205)).alloc (.cells #[.string ⟨#[]⟩, .string ⟨#[]⟩, .int .i64 0] 203))
 have k:Zg [] w g:=by rw[s];exact(((Zg.refl [] w).alloc _).alloc _).alloc _
 have V:g.heap[w.heap.size]? =some (.cells (Zt r vh).toArray 35 (0,0)):=by rw[s,Zz _ (by simp;omega),Zz _ (by simp)];exact Za _
 have Z:g.heap[w.heap.size+1]? =some (.cells #[.string ⟨#[]⟩, .string ⟨#[]⟩, .int .i64 0, .string ⟨#[]⟩, .string ⟨#[]⟩] 205 (0,0)):=by
  rw[s,Zz _ (by simp)]
  have:=Za (w:=w.alloc (.cells (Zt r vh).toArray 35)) (.cells #[.string ⟨#[]⟩, .string ⟨#[]⟩, .int .i64 0, .string ⟨#[]⟩, .string ⟨#[]⟩] 205 (0,0));simpa using this
 have ai:g.heap[w.heap.size+1+1]? =some (.cells #[.string ⟨#[]⟩, .string ⟨#[]⟩, .int .i64 0] 203 (0,0)):=by
  rw[s]
  have:=Za (w:=(w.alloc (.cells (Zt r vh).toArray 35)).alloc (.cells #[.string ⟨#[]⟩, .string ⟨#[]⟩, .int .i64 0, .string ⟨#[]⟩, .string ⟨#[]⟩] 205)) (.cells #[.string ⟨#[]⟩, .string ⟨#[]⟩, .int .i64 0] 203 (0,0));simpa using this
 have q1:∀W,Zg [] g W→Calls Tryz.prog 52 #[.agg (Zt r vh).toArray] W fun e w'=>e= .returned (.int .i64 ec)∧Zg [] W w':=fun W d=>by rw[X];exact ZgU r vh W ((h.upd0 k).upd0 d) (hE.upd0 (k.trans d))
 have q2:∀W,Zg [] g W→Calls Tryz.prog 97 #[.string ⟨r.url.toArray⟩] W (ZpS W u):=fun W d=>by rw[hu];exact Zf6 r.url W (hE.upd0 (k.trans d))
 have q3:∀W,Zg [] g W→Calls Tryz.prog 98 #[.string ⟨r.origin.toArray⟩] W (ZhG W o):=fun W d=>by rw[ho];exact Zd4 r.origin W h.o (hE.upd0 (k.trans d))
 have Q1:=D q1;have Q2:=D q2;have Q3:=D q3;have ar:=D V
 have aL:=D Yh;have p:=D Zeq;have x:=D ZfP
 have ay:=D (show Zb g w.heap.size 0 (Zt r vh)from Zb.of_block V)
 have aM:=D (show(ZB Zs.zero).toArray.all (·.oneCell')=true by rw[Xl,Xk];exact ZaB _)
 have aP:=D (show(ZW Z3.zero).toArray.all (·.oneCell')=true by rw[Xl,Xk];exact ZaA _)
 clear q1 q2 q3 V hR hu ho X h hE;change Hid _ at k s Z ai
 obtain⟨b0,ab⟩:=Je w.heap.size
 obtain⟨c,ah⟩:=Je (w.heap.size+1)
 obtain⟨b2,ac⟩:=Je (w.heap.size+1+1)
 have y:=D (show w.heap.size≤b0∧w.heap.size≤c∧w.heap.size≤b2∧b0≠c∧b0≠b2∧c≠b2 by omega)
 rw[←ab]at ar ay
 rw[←ah]at Z
 rw[←ac]at ai
 have HB:=D (And.intro ab (And.intro ah ac))
 clear ab ah ac
 go_in
 go_upto_region 1 with fail
 rw[←s.out,←HB.out.2.2,←HB.out.2.1,←HB.out.1]
 go_wp2_with(refine Jl ay aL ?_)
 refine(Q1.out g (Zg.refl [] g)).mono ?_
 rintro e w2 ⟨rfl,I⟩
 have S:=D I
 have ap:=D ((Kv I ar))
 have L:=D ((Kv I Z))
 have aa:=D ((Kv I ai))
 clear I Q1
 by_cases P:ec=0
 case neg=>
  have H:=D (show R=(Z3.zero,Zs.zero,false)by rw[HR.out,if_pos (by simpa using P)])
  obtain⟨j,J⟩:=Je (w2.setRow c (ZW Z3.zero).toArray)
  have au:=Kk J L
  have l:=Kg J
  have aE:=D ((Kv l aa (by simp;exact fun e=>y.out.2.2.2.2.2 e.symm)))
  obtain⟨Q,i⟩:=Je (j.setRow b2 (ZB Zs.zero).toArray)
  have F:=Kk i aE
  have af:=Kg i
  have O:=D ((Kv af au (by simp;exact y.out.2.2.2.2.2)))
  have aS:=D (((((k.trans S).weaken (G:=[c]) (by simp)).trans l (fun q a=> .inr a)).weaken (G:=[c,b2]) (fun q a=> .inr (by simp at a⊢;exact .inl a))).trans (af.weaken (G:=[c,b2]) (fun q a=> .inr (by simp at a⊢;exact .inr a))) (fun q a=> .inr a))
  have aj:=D (aS.weaken (G:=[]) (fun q a=> .inl (by simp at a;have:=y.out;rcases a with rfl|rfl<;>omega)))
  clear au l af;change Hid _ at F J i
  go_wp2_with(first|(refine Jo (ZW Z3.zero).toArray L x aP ?_;rw[←J.out])|(refine Jo (ZB Zs.zero).toArray aE p aM ?_;rw[←i.out]))
  refine bodyPost_ret (v:= .tuple #[.agg (ZW Z3.zero).toArray, .agg (ZB Zs.zero).toArray, .bool false]) (ZbR Tryz.results104 (b:=c) (o:=0) (b2:=b2) (o2:=0) rfl rfl rfl x (Zb.of_block O) p (Zb.of_block F)) rfl ?_
  rw[H.out]
  exact⟨rfl,aj.out⟩
 subst P
 have H:=D (show R=(u.1,o.1,true)by rw[HR.out];rfl)
 have c1:=Jc 1 ap.out
 clear HR
 go_wp2_with fail
 refine(Q2.out w2 S).mono ?_
 rintro e j ⟨rfl,l⟩
 obtain⟨u,ue⟩:=u
 dsimp only at H
 obtain⟨Q,i⟩:=Je ((j.alloc (.cells #[.string ⟨#[]⟩, .string ⟨#[]⟩, .int .i64 0, .string ⟨#[]⟩, .string ⟨#[]⟩] 205 (0,0))).setRow j.heap.size (ZW u).toArray)
 have ax:=D (Za (w:=j) (.cells #[.string ⟨#[]⟩, .string ⟨#[]⟩, .int .i64 0, .string ⟨#[]⟩, .string ⟨#[]⟩] 205 (0,0)))
 have Y:=Kk i ax
 have al:=Kh i
 have ao:=D (show(ZW u).toArray.all (·.oneCell')=true by rw[Xl,Xk];exact ZaA _)
 have z:Zg [] w2 Q:=l.trans al
 have ak:=Jt S z
 have aC:=Kv z ap
 have O:=D ((Kv z L))
 have F:=D ((Kv z aa))
 have c2:=Jc 2 aC
 have aA:=D (show c≠j.heap.size∧b2≠j.heap.size by have P:=l.size;have h2:=(Jg L);have h3:=(Jg aa);omega)
 clear l al z aC c1 Q2;change Hid _ at i Y
 go_upto_region 4 with(refine Jo (ZW u).toArray ax x ao ?_;rw[←i.out])
 obtain⟨ub,aD⟩:=Je j.heap.size
 rw[←aD]at Y aA⊢
 clear aD
 go_wp2_with fail
 refine(Q3.out Q ak).mono ?_
 rintro e m ⟨rfl,ag⟩
 obtain⟨o,oe⟩:=o
 dsimp only at H
 obtain⟨n,K⟩:=Je ((m.alloc (.cells #[.string ⟨#[]⟩, .string ⟨#[]⟩, .int .i64 0] 203 (0,0))).setRow m.heap.size (ZB o).toArray)
 have az:=D (Za (w:=m) (.cells #[.string ⟨#[]⟩, .string ⟨#[]⟩, .int .i64 0] 203 (0,0)))
 have av:=Kk K az
 have an:=Kh K
 have aw:=D (show(ZB o).toArray.all (·.oneCell')=true by rw[Xl,Xk];exact ZaB _)
 have C:Zg [] Q n:=ag.trans an
 have aK:=D ((Kv C O))
 have aO:=D ((Kv C F))
 have am:=D (show Zb n ub 0 (ZW u)from Zb.of_block ((Kv C Y)))
 have T:=D (show Zb n m.heap.size 0 (ZB o)from Zb.of_block av)
 have aQ:=D ((k.trans ak).trans C)
 have aF:=D (show c≠m.heap.size∧b2≠m.heap.size by have P:=ag.size;have h2:=(Jg O);have h3:=(Jg F);omega)
 clear ag av an C c2 Q3;change Hid _ at K
 go_upto_region 5 with(refine Jo (ZB o).toArray az p aw ?_;rw[←K.out])
 obtain⟨ob,aB⟩:=Je m.heap.size
 rw[←aB]at T aF⊢
 clear aB
 obtain⟨w7,N⟩:=Je (n.drew.setRow c (ZW u).toArray)
 have ad:n.drew.heap[c]? =some (.cells #[.string ⟨#[]⟩, .string ⟨#[]⟩, .int .i64 0, .string ⟨#[]⟩, .string ⟨#[]⟩] 205 (0,0)):=aK.out
 have aG:=Kk N ad
 have E:Zg [c] n w7:=by rw[N];exact((Zg.refl [c] n).drewN 1).setRow (.inr (by simp)) _
 have aH:=D ((Kv E aO (by simp;exact fun e=>y.out.2.2.2.2.2 e.symm)))
 have aI:=D (T.upd E (by simp;exact fun e=>aF.out.1 e.symm))
 obtain⟨w8,M⟩:=Je (w7.setRow b2 (ZB o).toArray)
 have aq:=Kk M aH
 have ae:=Kg M
 have aR:=D ((Kv ae aG (by simp;exact y.out.2.2.2.2.2)))
 have aN:=D ((((aQ.weaken (G:=[c]) (by simp)).trans E (fun q a=> .inr a)).weaken (G:=[c,b2]) (fun q a=> .inr (by simp at a⊢;exact .inl a))).trans (ae.weaken (G:=[c,b2]) (fun q a=> .inr (by simp at a⊢;exact .inr a))) (fun q a=> .inr a))
 have aj:=D (aN.weaken (G:=[]) (fun q a=> .inl (by simp at a;have:=y.out;rcases a with rfl|rfl<;>omega)))
 have aJ:=D (am.upd E (by simp;exact fun e=>aA.out.1 e.symm))
 clear aG E ae;change Hid _ at aq N M ad
 refine Jr [0,4,9,14,16] (fun W=>Zb W ub 0 (ZW u)∧Zb W ob 0 (ZB o)) ⟨am,T.out⟩ ?_
 refine JO (cs:=ZW u) x.out (fun W d=>d.1) ?_
 refine JO (cs:=ZB o) p.out (fun W d=>d.2) ?_
 refine JE ?_
 simp only[Xu]
 go_wp2_with(refine Jo (ZW u).toArray ad x ao ?_;rw[←N.out])
 refine⟨fun W=>Zb W ub 0 (ZW u)∧Zb W ob 0 (ZB o),fun _ h=>h,⟨aJ,aI.out⟩,?_⟩
 refine JL ?_
 go_wp2_with(refine Jo (ZB o).toArray aH p aw ?_;rw[←M.out])
 refine⟨fun _=>True,trivial,?_⟩
 repeat first|refine Jn ?_|refine Jf ?_|refine Ju ?_
 refine ZK ?_
 go_wp2_with fail
 refine bodyPost_ret (v:= .tuple #[.agg (ZW u).toArray, .agg (ZB o).toArray, .bool true]) (ZbR Tryz.results104 (b:=c) (o:=0) (b2:=b2) (o2:=0) rfl rfl rfl x (Zb.of_block aR) p (Zb.of_block aq)) rfl ?_
 rw[H.out]
 exact⟨rfl,aj.out⟩
end Go.Proofs.YtlhapbopmplngaaGreatDoor
namespace Go.Lk
def Zo1 (scheme rest:Bs) (at_:Nat):(Go.Proofs.YtlhapbopmplngaaGreatDoor.urlOf scheme rest at_).2=0→(YT (Go.Proofs.YtlhapbopmplngaaGreatDoor.urlOf scheme rest at_).1).length≤512∧(Go.Proofs.YtlhapbopmplngaaGreatDoor.urlOf scheme rest at_).1.origin.host.length≤253:=by
 unfold Go.Proofs.YtlhapbopmplngaaGreatDoor.urlOf
 dsimp only
 have ho:(YX (scheme++[58,47,47]++rest.take at_)).2=0→(YX (scheme++[58,47,47]++rest.take at_)).1.host.length≤253:=fun h=>(Zb5 (ZgY h)).2.1
 generalize YX (scheme++[58,47,47]++rest.take at_)=o at ho⊢
 generalize Lib.cut (rest.drop at_) [63]=q
 by_cases a:o.2=0
 ·rw[if_neg (by simp[a])]
  by_cases b:(!Zel q.1 Zb8|| !Zel q.2.1 Zbh)=true
  ·rw[if_pos b];intro h;exact absurd (show(3:Int)=0 from h) (by decide)
  ·rw[if_neg b]
   obtain⟨u,c⟩:∃u:Z3,u=⟨o.1,Zbv q.1,if q.2.2 then[63]++q.2.1 else[]⟩:=⟨_,rfl⟩
   rw[←c]
   by_cases d:512<(YT u).length
   ·rw[if_pos d];intro h;exact absurd (show(4:Int)=0 from h) (by decide)
   ·rw[if_neg d]
    intro _
    exact⟨by show(YT u).length≤512;omega,by show u.origin.host.length≤253;rw[c];exact ho a⟩
 ·rw[if_pos (by simpa using a)]
  intro h;exact absurd h a
def ZmK (s:Bs) (h:(ZaJ s).2=0):(YT (ZaJ s).1).length≤512∧(ZaJ s).1.origin.host.length≤253:=by
 revert h
 rw[Go.Proofs.YtlhapbopmplngaaGreatDoor.parseT_eq]
 by_cases b:512<s.length
 ·rw[if_pos b];intro h;exact absurd (show(4:Int)=0 from h) (by decide)
 rw[if_neg b]
 by_cases a:(!(Lib.cut (Lib.cut s [35]).1 [58,47,47]).2.2)=true
 ·rw[if_pos a];intro h;exact absurd (show(3:Int)=0 from h) (by decide)
 rw[if_neg a]
 exact Zo1 _ _ _
def ZfF (r:Ya):Go.Proofs.YtlhapbopmplngaaGreatDoor.UrlFit (Yz r).1∧(Yz r).2.1.host.length≤900000:=by
 have c:Go.Proofs.YtlhapbopmplngaaGreatDoor.UrlFit Z3.zero:=⟨by simp[Z3.zero,Zs.zero],by simp[Z3.zero],by simp[Z3.zero]⟩
 unfold Yz
 split
 ·exact⟨c,by simp[Zs.zero]⟩
 ·rename_i h
  have e:ZaZ r=0:=by simpa using h
  obtain⟨_,_,d,b⟩:=Zg6 e
  obtain⟨a,f⟩:=ZmK r.url d
  have g:=(Zb5 (ZgY b)).2.1
  unfold YT at a
  rw[Xd,Xd]at a
  refine⟨⟨?_,?_,?_⟩,?_⟩
  ·show((ZaJ r.url).1.origin.host).length≤_
   omega
  ·show((ZaJ r.url).1.path).length≤_;omega
  ·show((ZaJ r.url).1.query).length≤_;omega
  ·show((YX r.origin).1.host).length≤_;omega
def Zrr (r:Ya):Zek r=if !(Yz r).2.2 then[]else Zft (Yz r).1.origin:=rfl
def ZjI (r:Ya):ZaK r=if ZaZ r !=0 then[]else Zdn r.headers:=rfl
end Go.Lk
namespace Go.Proofs.YtlhapbopmplngaaGreatDoor
open Go.RowKit Go.Lk
def ZgA (r:Ya) (vh:Value) (w:World) (h:Za5 w r vh) (hE:Env w):
  Calls Tryz.prog 147 #[.agg (Zt r vh).toArray] w (Zdi w (ZaK r)):=by
 obtain⟨R,x⟩:=Je (ZaK r)
 obtain⟨I,d⟩:=Je (ZaZ r)
 obtain⟨s,l⟩:=Je (Zdn r.headers)
 have p:=D (show R=if I !=0 then[]else s by rw[x,d,l];exact ZjI r)
 rw[←x]
 obtain⟨y,E,a,g⟩:=Kc w (.cells (Zt r vh).toArray 35)
 have o:=ZgU r vh y (h.upd0 a) (hE.upd0 a)
 rw[←d]at o
 have K:∀W,Zg [] y W→Calls Tryz.prog 180 #[vh] W (Zdi W s):=fun W N=>by
  obtain⟨A,c,rfl,hA⟩:=((h.upd0 a).upd0 N).at_
  rw[l];exact Zh7 r.headers A c W hA h.n h.few (hE.upd0 (a.trans N))
 have M:=D o;have H:=D K;have Q:=D g
 have T:=D Yh
 have P:=D (show Zb y w.heap.size 0 (Zt r vh)from Zb.of_block g)
 clear o K g x d l hE;change Hid _ at a E
 go_in
 go_upto_region 1 with fail
 rw[←E.out]
 go_wp2_with(refine Jl P T ?_)
 refine M.out.mono ?_
 rintro e J ⟨rfl,b⟩
 have O:=D b;have m:=Jt a b
 have z:=Kv b Q
 have Z:J.cell? ⟨w.heap.size,5,none⟩=some vh:=Zf (i:=5) z rfl
 clear b z M
 by_cases q:I=0
 case neg=>
  have j:=D (show R=[]by rw[p.out,if_pos (by simpa using q)])
  go_wp2_with fail
  go_ret
  exact⟨_,[],rfl,by rw[j.out];exact ZA _ _ _,by simp,m.out⟩
 subst q
 have j:=D (show R=s by rw[p.out];rfl)
 clear p
 go_wp2_with fail
 refine(H.out J O).mono ?_
 rintro e w3 ⟨v3,L,rfl,F,C,G⟩
 have V:=D F;have S:=D (show∀k∈L,w.heap.size≤k from fun k Y=>by have q:=C k Y;have h2:=m.size;omega)
 have X:=Jt m G
 clear F C G Z H
 go_wp2_with fail
 go_ret
 exact⟨_,L,rfl,by rw[j.out];exact V,S.out,X.out⟩
def Zrs (r:Ya) (vh:Value) (w:World) (h:Za5 w r vh) (hE:Env w):
  Calls Tryz.prog 55 #[.agg (Zt r vh).toArray] w fun e w'=>e= .returned (.string ⟨(Zek r).toArray⟩)∧Zg [] w w':=by
 obtain⟨S,af,n,E⟩:=Kc w (.cells (Zt r vh).toArray 35)
 have O:=ZgB r vh S (h.upd0 n) (hE.upd0 n)
 obtain⟨p,z⟩:=Je (Yz r)
 rw[←z]at O
 have K:=ZfF r
 rw[←z]at K
 have Q1:=D O;have HE:=D hE;have Z:=D K
 have ao:=D Yh;have ad:=D Zeq;have au:=D ZfP
 have ab:=D E
 have aa:=D (show Zb S w.heap.size 0 (Zt r vh)from Zb.of_block E)
 obtain⟨b0,L⟩:=Je w.heap.size
 rw[←L]at ab aa
 clear O E hE K h;change Hid _ at n af L
 obtain⟨R,Q⟩:=Je (Zek r)
 have y:=D (show R=if !p.2.2 then[]else Zft p.1.origin by rw[Q,z];exact Zrr r)
 rw[←Q]
 clear Q z
 go_in
 go_upto_region 1 with fail
 rw[←af.out,←L.out]
 go_wp2_with(refine Jl aa ao ?_)
 refine Q1.out.mono ?_
 rintro e b ⟨rfl,ah⟩
 obtain⟨u,o,ok⟩:=p
 dsimp only at y Z
 obtain⟨d,c⟩:=Je ((b.alloc (.cells #[.string ⟨#[]⟩, .string ⟨#[]⟩, .int .i64 0, .string ⟨#[]⟩, .string ⟨#[]⟩] 205)).alloc (.cells #[.string ⟨#[]⟩, .string ⟨#[]⟩, .int .i64 0] 203))
 have m:d.heap[b.heap.size]? =some (.cells #[.string ⟨#[]⟩, .string ⟨#[]⟩, .int .i64 0, .string ⟨#[]⟩, .string ⟨#[]⟩] 205 (0,0)):=by rw[c,Zz _ (by simp)];exact Za _
 have F:d.heap[b.heap.size+1]? =some (.cells #[.string ⟨#[]⟩, .string ⟨#[]⟩, .int .i64 0] 203 (0,0)):=by
  rw[c]
  have:=Za (w:=b.alloc (.cells #[.string ⟨#[]⟩, .string ⟨#[]⟩, .int .i64 0, .string ⟨#[]⟩, .string ⟨#[]⟩] 205)) (.cells #[.string ⟨#[]⟩, .string ⟨#[]⟩, .int .i64 0] 203 (0,0));simpa using this
 have ag:Zg [] b d:=by rw[c];exact((Zg.refl [] b).alloc _).alloc _
 have ap:d.heap.size=b.heap.size+2:=by rw[c];simp
 obtain⟨g,M⟩:=Je b.heap.size
 obtain⟨i,I⟩:=Je (b.heap.size+1)
 have W:g≠i∧i≠g:=by omega
 have an:=D M;have am:=D I
 rw[←M]at m
 rw[←I]at F
 obtain⟨w5,l⟩:=Je (d.setRow g (ZW u).toArray)
 have V:=Kk l m
 have N:=Kg l
 have C:=(Kv N F (by simp;exact W.2))
 obtain⟨j,x⟩:=Je (w5.setRow i (ZB o).toArray)
 have aj:=Kk x C
 have H:=Kg x
 have T:=(Kv H V (by simp;exact W.1))
 have Y:Zg [g,i] d j:=(N.weaken (fun q a=> .inr (by simp at a⊢;exact .inl a))).trans (H.weaken (fun q a=> .inr (by simp at a⊢;exact .inr a))) (fun q a=> .inr a)
 have X:Zg [] b j:=((ag.weaken (G:=[g,i]) (by simp)).trans Y (fun q a=> .inr a)).weaken (fun q a=> .inl (by simp at a;omega))
 have k:Zg [] S j:=ah.trans X
 have ak:=D C;have ai:=D T
 have aw:=D k;have J:=Jt n k
 have ax:=D ((Kv k ab))
 have al:=D (show(ZW u).toArray.all (·.oneCell')=true by rw[Xl,Xk];exact ZaA _)
 have av:=D (show(ZB o).toArray.all (·.oneCell')=true by rw[Xl,Xk];exact ZaB _)
 clear ah F ag ap V N C H T Y X k Q1 M I;change Hid _ at c l x m aj
 go_upto_region 2 with(first|(rw[←c.out,←am.out,←an.out];refine Jo (ZW u).toArray m au al ?_;rw[←l.out])|(refine Jo (ZB o).toArray ak ad av ?_;rw[←x.out]))
 cases ok with
 |false=>
  have s:=D (show R=[]by rw[y.out];rfl)
  go_wp2_with fail
  go_ret
  exact⟨by rw[s.out];rfl,J.out⟩
 |true=>
  have s:=D (show R=Zft u.origin by rw[y.out];rfl)
  have P:=Zit u.origin j (by have:=Z.out.1.1;omega) (HE.upd0 J)
  have aq:=D (show Zb j g 0 (ZB u.origin)from Zba (Zb.of_block ai))
  obtain⟨ky,ac⟩:=Je (Zft u.origin)
  rw[←ac]at P s
  have Q2:=D P
  clear P ac y
  go_wp2_with(refine Jl aq ad ?_)
  refine Q2.out.mono ?_
  rintro e w7 ⟨rfl,ae⟩
  have ar:=Jt J ae;clear ae Q2
  go_wp2_with fail
  go_ret
  exact⟨by rw[s.out];rfl,ar.out⟩
def ZjJ (r:Ya) (vh:Value) (w:World) (h:Za5 w r vh) (hE:Env w):
  Calls Tryz.prog 82 #[.agg (Zt r vh).toArray] w fun e w'=>e= .returned (.bool (ZfC r))∧Zg [] w w':=by
 obtain⟨S,ad,s,E⟩:=Kc w (.cells (Zt r vh).toArray 35)
 have P:=ZgB r vh S (h.upd0 s) (hE.upd0 s)
 obtain⟨p,z⟩:=Je (Yz r)
 rw[←z]at P
 have K:=ZfF r
 rw[←z]at K
 have Q1:=D P;have HE:=D hE;have aj:=D K
 have an:=D Yh;have am:=D Zeq;have ap:=D ZfP
 have ab:=D E
 have aa:=D (show Zb S w.heap.size 0 (Zt r vh)from Zb.of_block E)
 obtain⟨b0,L⟩:=Je w.heap.size
 rw[←L]at ab aa
 clear P E hE K h;change Hid _ at s ad L
 obtain⟨R,Q⟩:=Je (ZfC r)
 have y:=D (show R=(p.2.2&&p.1.origin !=p.2.1)by rw[Q,z];rfl)
 rw[←Q]
 clear Q z
 go_in
 go_upto_region 1 with fail
 rw[←ad.out,←L.out]
 go_wp2_with(refine Jl aa an ?_)
 refine Q1.out.mono ?_
 rintro e c ⟨rfl,af⟩
 obtain⟨u,o,ok⟩:=p
 dsimp only at y aj
 obtain⟨j,i⟩:=Je ((c.alloc (.cells #[.string ⟨#[]⟩, .string ⟨#[]⟩, .int .i64 0, .string ⟨#[]⟩, .string ⟨#[]⟩] 205)).alloc (.cells #[.string ⟨#[]⟩, .string ⟨#[]⟩, .int .i64 0] 203))
 have m:j.heap[c.heap.size]? =some (.cells #[.string ⟨#[]⟩, .string ⟨#[]⟩, .int .i64 0, .string ⟨#[]⟩, .string ⟨#[]⟩] 205 (0,0)):=by rw[i,Zz _ (by simp)];exact Za _
 have F:j.heap[c.heap.size+1]? =some (.cells #[.string ⟨#[]⟩, .string ⟨#[]⟩, .int .i64 0] 203 (0,0)):=by
  rw[i]
  have:=Za (w:=c.alloc (.cells #[.string ⟨#[]⟩, .string ⟨#[]⟩, .int .i64 0, .string ⟨#[]⟩, .string ⟨#[]⟩] 205)) (.cells #[.string ⟨#[]⟩, .string ⟨#[]⟩, .int .i64 0] 203 (0,0));simpa using this
 have ae:Zg [] c j:=by rw[i];exact((Zg.refl [] c).alloc _).alloc _
 have ao:j.heap.size=c.heap.size+2:=by rw[i];simp
 obtain⟨g,N⟩:=Je c.heap.size
 obtain⟨d,I⟩:=Je (c.heap.size+1)
 have X:g≠d∧d≠g:=by omega
 have al:=D N;have ak:=D I
 rw[←N]at m
 rw[←I]at F
 obtain⟨w5,l⟩:=Je (j.setRow g (ZW u).toArray)
 have W:=Kk l m
 have O:=Kg l
 have C:=(Kv O F (by simp;exact X.2))
 obtain⟨b,x⟩:=Je (w5.setRow d (ZB o).toArray)
 have T:=Kk x C
 have H:=Kg x
 have V:=(Kv H W (by simp;exact X.1))
 have Z:Zg [g,d] j b:=(O.weaken (fun q a=> .inr (by simp at a⊢;exact .inl a))).trans (H.weaken (fun q a=> .inr (by simp at a⊢;exact .inr a))) (fun q a=> .inr a)
 have Y:Zg [] c b:=((ae.weaken (G:=[g,d]) (by simp)).trans Z (fun q a=> .inr a)).weaken (fun q a=> .inl (by simp at a;omega))
 have k:Zg [] S b:=af.trans Y
 have ah:=D C;have ag:=D V
 have ar:=D k;have ac:=Jt s k
 have au:=D ((Kv k ab))
 have ai:=D (show(ZW u).toArray.all (·.oneCell')=true by rw[Xl,Xk];exact ZaA _)
 have aq:=D (show(ZB o).toArray.all (·.oneCell')=true by rw[Xl,Xk];exact ZaB _)
 clear af F ae ao W O C H V Z Y k Q1 N I;change Hid _ at i l x m T
 go_upto_region 2 with(first|(rw[←i.out,←ak.out,←al.out];refine Jo (ZW u).toArray m ap ai ?_;rw[←l.out])|(refine Jo (ZB o).toArray ah am aq ?_;rw[←x.out]))
 cases ok with
 |false=>
  have n:=D (show R=false by rw[y.out];rfl)
  go_wp2_with fail
  go_ret
  exact⟨by rw[n.out];rfl,ac.out⟩
 |true=>
  have n:=D (show R=decide (¬(u.origin.scheme=o.scheme∧u.origin.host=o.host∧u.origin.port=o.port))by rw[y.out,Zk5];rfl)
  have M:=D (show Zb b g 0 (ZB u.origin)from Zba (Zb.of_block ag))
  have J:=D (show Zb b d 0 (ZB o)from Zb.of_block T)
  have d0:b.cell? ⟨g,0,none⟩=some (.string ⟨u.origin.scheme.toArray⟩):=M.out 0 _ rfl
  have d1:b.cell? ⟨g,1,none⟩=some (.string ⟨u.origin.host.toArray⟩):=M.out 1 _ rfl
  have d2:b.cell? ⟨g,2,none⟩=some (.int .i64 u.origin.port):=M.out 2 _ rfl
  have d3:b.cell? ⟨d,0,none⟩=some (.string ⟨o.scheme.toArray⟩):=J.out 0 _ rfl
  have d4:b.cell? ⟨d,1,none⟩=some (.string ⟨o.host.toArray⟩):=J.out 1 _ rfl
  have d5:b.cell? ⟨d,2,none⟩=some (.int .i64 o.port):=J.out 2 _ rfl
  clear y
  go_wp2_with fail
  all_goals
   go_ret
   exact⟨by first|(rw[n.out,decide_eq_true (by simp[*])];rfl)|(rw[n.out,decide_eq_false (by simp[*])];rfl),ac.out⟩
def Zg1 (r:Ya) (vh:Value) (w:World) (h:Za5 w r vh) (hE:Env w):
  Calls Tryz.prog 144 #[.agg (Zt r vh).toArray] w fun e w'=>e= .returned (.bool (Zdr r))∧Zg [] w w':=by
 obtain⟨R,n⟩:=Je (Zdr r)
 obtain⟨o,k⟩:=Je (ZfC r)
 obtain⟨m,l⟩:=Je (Zfu r)
 have j:=D (show R=(r.mode==3&&o&& !m)by rw[n,k,l];rfl)
 rw[←n]
 obtain⟨d,s,a,g⟩:=Kc w (.cells (Zt r vh).toArray 35)
 have E:∀W,Zg [] d W→Calls Tryz.prog 82 #[.agg (Zt r vh).toArray] W fun e w'=>e= .returned (.bool o)∧Zg [] W w':=fun W c=>by rw[k];exact ZjJ r vh W ((h.upd0 a).upd0 c) (hE.upd0 (a.trans c))
 have F:∀W,Zg [] d W→Calls Tryz.prog 100 #[.agg (Zt r vh).toArray] W fun e w'=>e= .returned (.bool m)∧Zg [] W w':=fun W c=>by rw[l];exact ZjO r vh W ((h.upd0 a).upd0 c) (hE.upd0 (a.trans c))
 have O:=Jc 3 g
 have G:=D E;have C:=D F;have P:=D g
 have x:=D Yh
 have q:=D (show Zb d w.heap.size 0 (Zt r vh)from Zb.of_block g)
 obtain⟨I,z⟩:=Je r.mode
 rw[←z]at O j
 clear E F g n k l h hE z;change Hid _ at a s
 go_in
 go_upto_region 1 with fail
 rw[←s.out]
 by_cases H:I=3
 case neg=>
  have N:(I==3)=false:=by rw[beq_eq_false_iff_ne];exact H
  have b:=D (show R=false by rw[j.out,N];rfl)
  go_wp2_with fail
  go_ret
  exact⟨by rw[b.out];first|rfl|simp[*],a.out⟩
 subst H
 go_wp2_with(refine ZbM (by go_simp) 35 (.tmp 1) rfl w.heap.size 0 (Zt r vh) rfl x q ?_)
 refine(G.out d (Zg.refl [] d)).mono ?_
 rintro e M ⟨rfl,i⟩
 have J:=D i;have p:=Jt a i
 have K:=D (q.upd i)
 clear i G
 cases o with
 |false=>
  have b:=D (show R=false by rw[j.out];rfl)
  go_wp2_with fail
  go_ret
  exact⟨by rw[b.out];rfl,p.out⟩
 |true=>
  have b:=D (show R= !m by rw[j.out];rfl)
  go_wp2_with(refine ZbM (by go_simp) 35 (.tmp 1) rfl w.heap.size 0 (Zt r vh) rfl x K ?_)
  refine(C.out M J).mono ?_
  rintro e Q ⟨rfl,y⟩
  have L:=Jt p y;clear y C
  go_wp2_with fail
  go_ret
  exact⟨by rw[b.out];rfl,L.out⟩
end Go.Proofs.YtlhapbopmplngaaGreatDoor
namespace Go.Lk
def Zq7 (r:Ya):YJ r=if !(Yz r).2.2 then Ya.zero else{r with method:=ZdB r.method,url:=Zgi (Yz r).1,origin:=ZeA (Yz r).2.1,headers:=Zcy r.headers}:=rfl
end Go.Lk
namespace Go.Proofs.YtlhapbopmplngaaGreatDoor
open Go.RowKit Go.Lk
def Zre (w:World) (r:Ya) (e:Ending) (w':World):Prop:=∃(vh:Value) (M:List Nat),e= .returned (.agg (Zt r vh).toArray)∧Zbq vh r.headers w' M∧(∀k∈M,w.heap.size≤k)∧Zg [] w w'
def ZbZ (r:Ya) (vh:Value) (hv:vh.oneCell'=true):(Zt r vh).toArray.all (·.oneCell')=true:=by
 rw[Xl,Xk]
 intro x hx
 simp only[Zt,List.mem_cons,List.not_mem_nil,or_false]at hx
 rcases hx with rfl|rfl|rfl|rfl|rfl|rfl|rfl|rfl|rfl|rfl<;>first|rfl|exact hv
def Zbq.one (h:Zbq v l w F):v.oneCell'=true:=by
 obtain⟨A,c,rfl,_⟩:=h.hdrs
 rfl
def ZeQ (r:Ya) (vh:Value) (w:World) (h:Za5 w r vh) (hE:Env w):
  Calls Tryz.prog 57 #[.agg (Zt r vh).toArray] w (Zre w (YJ r)):=by
 obtain⟨Q,Y⟩:=Je ((w.alloc (.cells (Zt r vh).toArray 35)).alloc (.cells #[.string ⟨#[]⟩, .string ⟨#[]⟩, .string ⟨#[]⟩, .int .i64 0, .bool false, .slice none 0 0, .int .i64 0, .int .u64 0, .int .i64 0, .int .i64 0] 35))
 have V:Zg [] w Q:=by rw[Y];exact((Zg.refl [] w).alloc _).alloc _
 have ax:Q.heap[w.heap.size]? =some (.cells (Zt r vh).toArray 35 (0,0)):=by rw[Y,Zz _ (by simp)];exact Za _
 have aY:Q.heap[w.heap.size+1]? =some (.cells #[.string ⟨#[]⟩, .string ⟨#[]⟩, .string ⟨#[]⟩, .int .i64 0, .bool false, .slice none 0 0, .int .i64 0, .int .u64 0, .int .i64 0, .int .i64 0] 35 (0,0)):=by
  rw[Y]
  have:=Za (w:=w.alloc (.cells (Zt r vh).toArray 35)) (.cells #[.string ⟨#[]⟩, .string ⟨#[]⟩, .string ⟨#[]⟩, .int .i64 0, .bool false, .slice none 0 0, .int .i64 0, .int .u64 0, .int .i64 0, .int .i64 0] 35 (0,0));simpa using this
 change Hid _ at aY
 have q1:=ZgB r vh Q (h.upd0 V) (hE.upd0 V)
 obtain⟨p,hp⟩:=Je (Yz r)
 rw[←hp]at q1
 have aK:=ZfF r
 rw[←hp]at aK
 have Q1:=D q1;have bz:=D V;have HE:=D hE;have az:=D aK
 have L:=D Yh;have bb:=D Zeq;have bi:=D ZfP
 have bh:=D ax
 have bd:=D (show Zb Q w.heap.size 0 (Zt r vh)from Zb.of_block ax)
 obtain⟨j,aZ⟩:=Je w.heap.size
 rw[←aZ]at bh bd
 obtain⟨s,aC⟩:=Je (w.heap.size+1)
 rw[←aC]at aY
 have ay:=D (show w.heap.size≤j∧w.heap.size≤s∧j≠s∧s≠j by omega)
 have T:=D (h.upd0 V)
 clear q1 V ax hE aK h;change Hid _ at Y aZ aC
 obtain⟨R,hR⟩:=Je (YJ r)
 have HR:=D (show R=if !p.2.2 then Ya.zero else{r with method:=ZdB r.method,url:=Zgi p.1,origin:=ZeA p.2.1,headers:=Zcy r.headers}by rw[hR,hp];exact Zq7 r)
 rw[←hR]
 clear hR hp
 go_in
 go_upto_region 1 with fail
 rw[←Y.out,←aC.out,←aZ.out]
 go_wp2_with(refine Jl bd L ?_)
 refine Q1.out.mono ?_
 rintro e x ⟨rfl,bf⟩
 obtain⟨u,o,ok⟩:=p
 dsimp only at HR az
 obtain⟨P,K⟩:=Je ((x.alloc (.cells #[.string ⟨#[]⟩, .string ⟨#[]⟩, .int .i64 0, .string ⟨#[]⟩, .string ⟨#[]⟩] 205)).alloc (.cells #[.string ⟨#[]⟩, .string ⟨#[]⟩, .int .i64 0] 203))
 have J:P.heap[x.heap.size]? =some (.cells #[.string ⟨#[]⟩, .string ⟨#[]⟩, .int .i64 0, .string ⟨#[]⟩, .string ⟨#[]⟩] 205 (0,0)):=by rw[K,Zz _ (by simp)];exact Za _
 have aH:P.heap[x.heap.size+1]? =some (.cells #[.string ⟨#[]⟩, .string ⟨#[]⟩, .int .i64 0] 203 (0,0)):=by
  rw[K]
  have:=Za (w:=x.alloc (.cells #[.string ⟨#[]⟩, .string ⟨#[]⟩, .int .i64 0, .string ⟨#[]⟩, .string ⟨#[]⟩] 205)) (.cells #[.string ⟨#[]⟩, .string ⟨#[]⟩, .int .i64 0] 203 (0,0));simpa using this
 have bc:Zg [] x P:=by rw[K];exact((Zg.refl [] x).alloc _).alloc _
 have bB:P.heap.size=x.heap.size+2:=by rw[K];simp
 obtain⟨E,a0⟩:=Je x.heap.size
 obtain⟨H,aJ⟩:=Je (x.heap.size+1)
 have a5:E≠H∧H≠E:=by omega
 have bA:=D a0;have bF:=D aJ
 rw[←a0]at J
 rw[←aJ]at aH
 obtain⟨w5,ai⟩:=Je (P.setRow E (ZW u).toArray)
 have a4:=Kk ai J
 have aF:=Kg ai
 have ar:=(Kv aF aH (by simp;exact a5.2))
 obtain⟨l,aj⟩:=Je (w5.setRow H (ZB o).toArray)
 have a9:=Kk aj ar
 have aR:=Kg aj
 have a3:=(Kv aR a4 (by simp;exact a5.1))
 have ba:Zg [E,H] P l:=(aF.weaken (fun q d=> .inr (by simp at d⊢;exact .inl d))).trans (aR.weaken (fun q d=> .inr (by simp at d⊢;exact .inr d))) (fun q d=> .inr d)
 have a6:Zg [] x l:=((bc.weaken (G:=[E,H]) (by simp)).trans ba (fun q d=> .inr d)).weaken (fun q d=> .inl (by simp at d;omega))
 have ac:Zg [] Q l:=bf.trans a6
 have bp:=D ar;have bq:=D a3
 have a2:=D ac;have aa:=Jt bz ac
 have af:=D ((Kv ac bh))
 have bs:=D (show(ZW u).toArray.all (·.oneCell')=true by rw[Xl,Xk];exact ZaA _)
 have bD:=D (show(ZB o).toArray.all (·.oneCell')=true by rw[Xl,Xk];exact ZaB _)
 clear bf aH bc bB a4 aF ar aR a3 ba a6 ac Q1 a0 aJ;change Hid _ at K ai aj J a9
 go_upto_region 2 with(first|(rw[←K.out,←bF.out,←bA.out];refine Jo (ZW u).toArray J bi bs ?_;rw[←ai.out])|(refine Jo (ZB o).toArray bp bb bD ?_;rw[←aj.out]))
 have al:=D ((Kv a2 aY))
 have bE:=D (show(Zt Ya.zero (.slice none 0 0)).toArray.all (·.oneCell')=true from ZbZ _ _ rfl)
 cases ok with
 |false=>
  have an:=D (show R=Ya.zero by rw[HR.out];rfl)
  obtain⟨w7,ah⟩:=Je (l.setRow s (Zt Ya.zero (.slice none 0 0)).toArray)
  have be:=Kk ah al
  have X:=Kg ah
  have bu:=D (((aa.weaken (G:=[s]) (by simp)).trans X (fun q d=> .inr d)).weaken (G:=[]) (fun q d=> .inl (by rw[Jm d];exact ay.out.2.1)))
  clear X;change Hid _ at be ah
  go_wp2_with(refine Jo (Zt Ya.zero (.slice none 0 0)).toArray al L bE ?_;rw[←ah.out])
  refine bodyPost_ret (v:= .agg (Zt Ya.zero (.slice none 0 0)).toArray) (Zw _ Tryz.results57 (b:=s) (o:=0) rfl L (Zb.of_block be)) rfl ?_
  rw[an.out]
  exact⟨_,[],rfl,ZA _ _ _,by simp,bu.out⟩
 |true=>
 obtain⟨C,aQ⟩:=Je (ZdB r.method)
 obtain⟨I,aO⟩:=Je (Zgi u)
 obtain⟨O,aG⟩:=Je (ZeA o)
 obtain⟨hs,aW⟩:=Je (Zcy r.headers)
 have an:=D (show R={r with method:=C,url:=I,origin:=O,headers:=hs}by rw[HR.out,aQ,aO,aG,aW];rfl)
 have qn:∀W,Calls Tryz.prog 110 #[.string ⟨r.method.toArray⟩] W fun e w'=>e= .returned (.string ⟨C.toArray⟩)∧Zg [] W w':=fun W=>by rw[aQ];exact Zl3 r.method W (by have:=T.m;omega)
 have qt:∀W,Zg [] l W→Calls Tryz.prog 111 #[.agg (ZW u).toArray] W fun e w'=>e= .returned (.string ⟨I.toArray⟩)∧Zg [] W w':=fun W g=>by rw[aO];exact ZkN u W az.out.1 (HE.upd0 (aa.trans g))
 have qo:∀W,Zg [] l W→Calls Tryz.prog 112 #[.agg (ZB o).toArray] W fun e w'=>e= .returned (.string ⟨O.toArray⟩)∧Zg [] W w':=fun W g=>by rw[aG];exact Zhl o W az.out.2 (HE.upd0 (aa.trans g))
 have qh:∀W,Zg [] l W→Calls Tryz.prog 113 #[vh] W (ZnW W hs):=fun W g=>by
  obtain⟨A,c,rfl,hA⟩:=(T.upd0 (a2.trans g)).at_
  rw[aW];exact ZlH r.headers A c W hA (by have:=T.n;omega) T.few
 have QN:=D qn;have QT:=D qt;have QO:=D qo;have QH:=D qh
 have e0:=Jc 0 af.out
 have e5:l.cell? ⟨j,5,none⟩=some vh:=Zf (i:=5) af rfl
 have bC:=D (show Zb l E 0 (ZW u)from Zb.of_block bq)
 have bG:=D (show Zb l H 0 (ZB o)from Zb.of_block a9)
 obtain⟨S,hS⟩:∃S:World→Prop,S=fun W=>W.cell? ⟨j,0,none⟩=some (.string ⟨r.method.toArray⟩)∧W.cell? ⟨j,5,none⟩=some vh∧Zb W E 0 (ZW u)∧Zb W H 0 (ZB o):=⟨_,rfl⟩
 have N:=D (show∀W W',S W→Zg [] W W'→S W' from fun W W' g hu=>by
  rw[hS]at g⊢
  exact⟨(Xp (hu.block j (Xo _ _ g.1) (by simp))).trans g.1,(Xp (hu.block j (Xo _ _ g.2.1) (by simp))).trans g.2.1,g.2.2.1.upd hu,g.2.2.2.upd hu⟩)
 have aB:=D (show S l by rw[hS];exact⟨e0,e5,bC.out,bG.out⟩)
 have Z:=D hS
 clear qn qt qo qh aQ aO aG aW HR e0 e5 hS
 go_upto_region 4 with fail
 refine ZR [(0,0),(1,0),(3,0),(5,0),(7,0),(8,0),(2,1),(10,0),(4,1),(6,1),(9,1),(11,2),(12,0),(13,2),(14,0),(15,2),(16,0),(17,2)] S (by kernel_rfl) (by kernel_rfl) (fun c a w t v h=>by cases t<;>exact h) (N.out _ _ aB ((Zg.refl [] l).drewN 1)) ?_
 repeat first|refine Jn ?_|refine Jf ?_|refine Ju ?_
 refine Jp (v:= .string ⟨r.method.toArray⟩) ?_ (hv:=by intro W g;rw[Z.out]at g;have d0:=g.1;clear g;go_simp)
 refine JO (cs:=ZW u) bi.out (by intro W g;rw[Z.out]at g;exact g.2.2.1) ?_
 refine JO (cs:=ZB o) bb.out (by intro W g;rw[Z.out]at g;exact g.2.2.2) ?_
 repeat first|refine Jn ?_|refine Jf ?_|refine Ju ?_
 refine Jp (v:=vh) ?_ (hv:=by intro W g;rw[Z.out]at g;have d0:=g.2.1;clear g;go_simp)
 refine JE ?_
 simp only[Xu]
 go_wp2_with fail
 refine(QN.out _).mono ?_
 rintro e w7 ⟨rfl,X⟩
 have au:=D (show Zg [] l w7 from((Zg.refl [] l).drewN 1).trans X)
 have aN:=D (N.out _ _ aB au)
 clear X QN
 go_wp2_with fail
 refine⟨S,fun _ h=>h,aN.out,?_⟩
 repeat first|refine Jn ?_|refine Jf ?_|refine Ju ?_
 refine JE ?_
 go_wp2_with fail
 refine(QT.out w7 au).mono ?_
 rintro e w8 ⟨rfl,aE⟩
 have a8:=Jt au aE
 have aP:=D (N.out _ _ aN aE)
 clear aE QT
 go_wp2_with fail
 refine⟨S,fun _ h=>h,aP.out,?_⟩
 refine JE ?_
 go_wp2_with fail
 refine(QO.out w8 a8).mono ?_
 rintro e w9 ⟨rfl,aM⟩
 have av:=Jt a8 aM
 have aU:=D (N.out _ _ aP aM)
 clear aM QO
 go_wp2_with fail
 refine⟨S,fun _ h=>h,aU.out,?_⟩
 refine JE ?_
 go_wp2_with fail
 refine(QH.out w9 av).mono ?_
 rintro e wa ⟨z,M,rfl,a7,ae,aS⟩
 have ad:Zg [] l wa:=av.trans aS
 have bm:=D (N.out _ _ aU aS)
 have ak:=Kv ad af
 have bg:=Kv ad al
 have aA:=D a7
 have aL:=D (show(∀k∈M,w.heap.size≤k)∧j∉M∧s∉M by
  have h1:=av.size
  have h2:=(Jg af)
  have h3:=(Jg al)
  have h4:=aa.size
  exact⟨fun k hk=>by have:=ae k hk;omega,fun F=>by have:=ae _ F;omega,fun F=>by have:=ae _ F;omega⟩)
 have J:=Jt aa ad
 clear a7 ae aS ad QH;change Hid _ at ak bg
 go_wp2_with fail
 refine⟨S,fun _ h=>h,bm.out,?_⟩
 clear bm aU aP aN aB N Z
 have r0:=Jc 0 ak.out
 have f0:=Kf 0 ak.out
 obtain⟨wb,aq⟩:=Je (wa.setCell ⟨j,0,none⟩ (.string ⟨C.toArray⟩))
 have aI:=D (show wb.heap[j]? =some (.cells (Zt {r with method:=C} vh).toArray 35 (0,0))by rw[aq];exact(Zd (i:=0) ak _).trans rfl)
 have br:=D (show Zg [j] wa wb by rw[aq];exact(Zg.refl _ _).setCell (.inr (by simp)) _)
 change Hid _ at aq
 refine JL ?_
 go_wp2_with fail
 rw[←aq.out]
 clear r0 f0
 refine⟨fun _=>True,trivial,?_⟩
 repeat first|refine Jn ?_|refine Jf ?_|refine Ju ?_
 have r1:=Jc 1 aI.out
 have f1:=Kf 1 aI.out
 obtain⟨wc,ao⟩:=Je (wb.setCell ⟨j,1,none⟩ (.string ⟨I.toArray⟩))
 have aX:=D (show wc.heap[j]? =some (.cells (Zt {r with method:=C,url:=I} vh).toArray 35 (0,0))by rw[ao];exact(Zd (i:=1) aI _).trans rfl)
 have bn:=D (br.trans (show Zg [j] wb wc by rw[ao];exact(Zg.refl _ _).setCell (.inr (by simp)) _) (fun q d=> .inr d))
 change Hid _ at ao
 refine JL ?_
 go_wp2_with fail
 rw[←ao.out]
 clear r1 f1
 refine⟨fun _=>True,trivial,?_⟩
 repeat first|refine Jn ?_|refine Jf ?_|refine Ju ?_
 have r1:=Jc 2 aX.out
 have f1:=Kf 2 aX.out
 obtain⟨wd,am⟩:=Je (wc.setCell ⟨j,2,none⟩ (.string ⟨O.toArray⟩))
 have a1:=D (show wd.heap[j]? =some (.cells (Zt {r with method:=C,url:=I,origin:=O} vh).toArray 35 (0,0))by rw[am];exact(Zd (i:=2) aX _).trans rfl)
 have bo:=D (bn.trans (show Zg [j] wc wd by rw[am];exact(Zg.refl _ _).setCell (.inr (by simp)) _) (fun q d=> .inr d))
 change Hid _ at am
 refine JL ?_
 go_wp2_with fail
 rw[←am.out]
 clear r1 f1
 refine⟨fun _=>True,trivial,?_⟩
 repeat first|refine Jn ?_|refine Jf ?_|refine Ju ?_
 have r1:wd.cell? ⟨j,5,none⟩=some vh:=Zf (i:=5) a1 rfl
 have f1:=Kf 5 a1.out
 obtain⟨A2,c2,rfl,_,_⟩:=aA.hdrs
 obtain⟨hn,bk⟩:=Je hs.length
 rw[←bk]at aA⊢
 obtain⟨A1,c1,bl,_⟩:=T.at_
 have bI:vh.oneCell'=true:=by rw[bl];rfl
 obtain⟨we,ap⟩:=Je (wd.setCell ⟨j,5,none⟩ (.slice A2 hn c2))
 have aT:=D (show we.heap[j]? =some (.cells (Zt {r with method:=C,url:=I,origin:=O,headers:=hs} (.slice A2 hn c2)).toArray 35 (0,0))by rw[ap];exact(Zd (i:=5) a1 _).trans rfl)
 have aw:=D (bo.trans (show Zg [j] wd we by rw[ap];exact(Zg.refl _ _).setCell (.inr (by simp)) _) (fun q d=> .inr d))
 clear bl bk;change Hid _ at ap
 refine JL ?_
 go_wp2_with fail
 rw[←ap.out]
 clear r1 f1
 refine Jz ?_
 obtain⟨y,aV⟩:∃y:Ya,y={r with method:=C,url:=I,origin:=O,headers:=hs}:=⟨_,rfl⟩
 obtain⟨z,ab⟩:=Je (Value.slice A2 hn c2)
 rw[←aV]at aT an
 have HH:=D (show Zbq z y.headers we M by rw[ab,aV];exact(Yb _ _).upd aA aw (fun k hk F=>aL.out.2.1 (by rw[←Jm F];exact hk)))
 rw[←ab]at aT
 have bv:=D (show Zb we j 0 (Zt y z)from Zb.of_block aT)
 have bj:=D ((Kv aw bg (by simp;exact ay.out.2.2.2)))
 have bt:=D (ZbZ y z (by rw[ab];rfl))
 obtain⟨wf,ag⟩:=Je (we.setRow s (Zt y z).toArray)
 have bH:=D (show wf.heap[s]? =some (.cells (Zt y z).toArray 35 (0,0))by rw[ag];exact setRow_heap _ _ _ _ _ _ bj)
 have aD:=Kg ag
 have bx:=D ((Yb _ _).upd HH aD (fun k hk F=>aL.out.2.2 (by rw[←Jm F];exact hk)))
 have bw:=D (show Zg [] w wf from((((J.weaken (G:=[j,s]) (by simp)).trans (aw.weaken (G:=[j,s]) (fun q d=> .inr (by simp at d⊢;exact .inl d))) (fun q d=> .inr d)).trans (aD.weaken (G:=[j,s]) (fun q d=> .inr (by simp at d⊢;exact .inr d))) (fun q d=> .inr d)).weaken (G:=[]) (fun q d=> .inl (by simp at d;have:=ay.out;rcases d with rfl|rfl<;>omega))))
 clear aV ab aD;change Hid _ at ag
 go_wp2_with(first|refine Jl bv L ?_|(refine Jo (Zt y z).toArray bj L bt ?_;rw[←ag.out]))
 refine bodyPost_ret (v:= .agg (Zt y z).toArray) (Zw _ Tryz.results57 (b:=s) (o:=0) rfl L (Zb.of_block bH)) rfl ?_
 rw[an.out]
 exact⟨_,M,rfl,bx.out,aL.out.1,bw.out⟩
end Go.Proofs.YtlhapbopmplngaaGreatDoor
