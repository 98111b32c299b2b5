import Derived.Test.YtbgbeddbfaopgaaGreatDoorZ17
set_option linter.all false
set_option maxHeartbeats 16000000
set_option maxRecDepth 100000
set_option autoImplicit true
set_option relaxedAutoImplicit true
namespace Go.Lk
open Go.RowKit
theorem ZoP (r:Yb):YF r=if Za9 r !=0 then(Z6.zero,Zx.zero,false)else((ZaT r.url).1,(Y5 r.origin).1,true):=rfl
section
variable {P:Program} {w:World}
theorem Zb4 {fn:Func} {tmps:Array Value} {cs ds:List Value} {b o b2 o2:Nat} {v:Value} (hf:fn.results= #[.cell x t, .cell x2 t2, .tmp y]) (hx:tmps.getD x undef= .pointer (some ⟨b,o,none⟩)) (hx2:tmps.getD x2 undef= .pointer (some ⟨b2,o2,none⟩)) (hy:tmps.getD y undef=v)
  (ht:Zu P t cs.length=true) (hb:Zb w b o cs) (ht2:Zu P t2 ds.length=true) (hb2:Zb w b2 o2 ds):
  (results fn tmps).run P w= .ok (.tuple #[.agg cs.toArray, .agg ds.toArray,v]) w:=by
 have c:=Ym w ht hb
 simp only[Instr.loadAt,Instr.sureAddr,Sem.run_bind,Sem.run_pure,Result.andThen_ok]at c
 have a:=Ym w ht2 hb2
 simp only[Instr.loadAt,Instr.sureAddr,Sem.run_bind,Sem.run_pure,Result.andThen_ok]at a
 have e:tmps[x]?.getD undef= .pointer (some ⟨b,o,none⟩):=by simpa using hx
 have d:tmps[x2]?.getD undef= .pointer (some ⟨b2,o2,none⟩):=by simpa using hx2
 have f:tmps[y]?.getD undef=v:=by simpa using hy
 unfold results
 simp[hf,e,d,f,asAddr,c,a]
end
end Go.Lk
namespace Go.Proofs.YtbgbeddbfaopgaaGreatDoor
open Go.RowKit Go.Lk
def Zpz (w:World) (p:Z6×Zx×Bool) (e:Ending) (w':World):Prop:=e= .returned (.tuple #[.agg (ZV p.1).toArray, .agg (Zz p.2.1).toArray, .bool p.2.2])∧Zg [] w w'
theorem Zgz (r:Yb) (vh:Value) (w:World) (h:Za0 w r vh) (hE:Env w):
  Calls Tryz.prog 110 #[.agg (Zv r vh).toArray] w (Zpz w (YF r)):=by
 obtain⟨R,hR⟩:=Je (YF r)
 obtain⟨u,hu⟩:=Je (ZaT r.url)
 obtain⟨o,ho⟩:=Je (Y5 r.origin)
 obtain⟨ec,ap⟩:=Je (Za9 r)
 have HR:=D (show R=if ec !=0 then(Z6.zero,Zx.zero,false)else(u.1,o.1,true)by rw[hR,hu,ho,ap];exact ZoP r)
 rw[←hR]
 obtain⟨j,y⟩:=Je (((w.alloc (.cells (Zv r vh).toArray 43)).alloc (.cells #[.string ⟨#[]⟩, .string ⟨#[]⟩, .int .i64 0, .string ⟨#[]⟩, .string ⟨#[]⟩] 209)).alloc (.cells #[.string ⟨#[]⟩, .string ⟨#[]⟩, .int .i64 0] 207))
 have p:Zg [] w j:=by rw[y];exact(((Zg.refl [] w).alloc _).alloc _).alloc _
 have ae:j.heap[w.heap.size]? =some (.cells (Zv r vh).toArray 43 (0,0)):=by rw[y,ZB _ (by simp;omega),ZB _ (by simp)];exact Za _
 have S:j.heap[w.heap.size+1]? =some (.cells #[.string ⟨#[]⟩, .string ⟨#[]⟩, .int .i64 0, .string ⟨#[]⟩, .string ⟨#[]⟩] 209 (0,0)):=by
  rw[y,ZB _ (by simp)]
  have:=Za (w:=w.alloc (.cells (Zv r vh).toArray 43)) (.cells #[.string ⟨#[]⟩, .string ⟨#[]⟩, .int .i64 0, .string ⟨#[]⟩, .string ⟨#[]⟩] 209 (0,0));simpa using this
 have X:j.heap[w.heap.size+1+1]? =some (.cells #[.string ⟨#[]⟩, .string ⟨#[]⟩, .int .i64 0] 207 (0,0)):=by
  rw[y]
  have:=Za (w:=(w.alloc (.cells (Zv r vh).toArray 43)).alloc (.cells #[.string ⟨#[]⟩, .string ⟨#[]⟩, .int .i64 0, .string ⟨#[]⟩, .string ⟨#[]⟩] 209)) (.cells #[.string ⟨#[]⟩, .string ⟨#[]⟩, .int .i64 0] 207 (0,0));simpa using this
 have q1:∀W,Zg [] j W→Calls Tryz.prog 60 #[.agg (Zv r vh).toArray] W fun e w'=>e= .returned (.int .i64 ec)∧Zg [] W w':=fun W i=>by rw[ap];exact ZgH r vh W ((h.upd0 p).upd0 i) (hE.upd0 (p.trans i (by simp)))
 have q2:∀W,Zg [] j W→Calls Tryz.prog 103 #[.string ⟨r.url.toArray⟩] W (ZqU W u):=fun W i=>by rw[hu];exact Zf6 r.url W (hE.upd0 (p.trans i (by simp)))
 have q3:∀W,Zg [] j W→Calls Tryz.prog 104 #[.string ⟨r.origin.toArray⟩] W (ZhB W o):=fun W i=>by rw[ho];exact ZdX r.origin W h.o (hE.upd0 (p.trans i (by simp)))
 have Q1:=D q1;have Q2:=D q2;have Q3:=D q3;have ah:=D ae
 have aP:=D Yp;have z:=D Zey;have C:=D Zf8
 have aF:=D (show Zb j w.heap.size 0 (Zv r vh)from Zb.of_block ae)
 have aT:=D (show(Zz Zx.zero).toArray.all (·.oneCell')=true by rw[Xl,Xk];exact ZaO _)
 have aS:=D (show(ZV Z6.zero).toArray.all (·.oneCell')=true by rw[Xl,Xk];exact ZaK _)
 clear q1 q2 q3 ae hR hu ho ap h hE;change Hid _ at p y S X
 obtain⟨P,aj⟩:=Je w.heap.size
 obtain⟨a,an⟩:=Je (w.heap.size+1)
 obtain⟨b2,ao⟩:=Je (w.heap.size+1+1)
 have E:=D (show w.heap.size≤P∧w.heap.size≤a∧w.heap.size≤b2∧P≠a∧P≠b2∧a≠b2 by omega)
 rw[←aj]at ah aF
 rw[←an]at S
 rw[←ao]at X
 have HB:=D (And.intro aj (And.intro an ao))
 clear aj an ao
 go_enter Tryz.func110,Tryz.ntmps110
 go_upto_region 1 with fail
 rw[←y.out,←HB.out.2.2,←HB.out.2.1,←HB.out.1]
 go_wp2_with(refine Jl aF aP ?_)
 refine(Q1.out j (Zg.refl [] j)).mono ?_
 rintro e w2 ⟨rfl,I⟩
 have aa:=D I
 have ai:=D ((I.block P (Jg ah) (by simp)).trans ah)
 have M:=D ((I.block a (Jg S) (by simp)).trans S)
 have N:=D ((I.block b2 (Jg X) (by simp)).trans X)
 clear I Q1
 by_cases h1:ec=0
 case neg=>
  have L:=D (show R=(Z6.zero,Zx.zero,false)by rw[HR.out,if_pos (by simpa using h1)])
  obtain⟨d,V⟩:=Je (w2.setRow a (ZV Z6.zero).toArray)
  have ac:d.heap[a]? =some (.cells (ZV Z6.zero).toArray 209 (0,0)):=by rw[V];exact setRow_heap _ _ _ _ _ _ M.out
  have n:Zg [a] w2 d:=by rw[V];exact(Zg.refl _ _).setRow (.inr (by simp)) _
  have aH:=D ((n.block b2 (Jg N) (by simp;exact fun e=>E.out.2.2.2.2.2 e.symm)).trans N)
  obtain⟨m,k⟩:=Je (d.setRow b2 (Zz Zx.zero).toArray)
  have s:m.heap[b2]? =some (.cells (Zz Zx.zero).toArray 207 (0,0)):=by rw[k];exact setRow_heap _ _ _ _ _ _ aH.out
  have af:Zg [b2] d m:=by rw[k];exact(Zg.refl _ _).setRow (.inr (by simp)) _
  have K:=D ((af.block a (Jg ac) (by simp;exact E.out.2.2.2.2.2)).trans ac)
  have aQ:=D (((((p.trans aa (by simp)).weaken (G:=[a]) (by simp)).trans n (fun q c=> .inr c)).weaken (G:=[a,b2]) (fun q c=> .inr (by simp at c⊢;exact .inl c))).trans (af.weaken (G:=[a,b2]) (fun q c=> .inr (by simp at c⊢;exact .inr c))) (fun q c=> .inr c))
  have am:=D (aQ.weaken (G:=[]) (fun q c=> .inl (by simp at c;have:=E.out;rcases c with rfl|rfl<;>omega)))
  clear ac n af;change Hid _ at s V k
  go_wp2_with(first|(refine Jo (ZV Z6.zero).toArray M C aS ?_;rw[←V.out])|(refine Jo (Zz Zx.zero).toArray aH z aT ?_;rw[←k.out]))
  refine bodyPost_ret (v:= .tuple #[.agg (ZV Z6.zero).toArray, .agg (Zz Zx.zero).toArray, .bool false]) (Zb4 Tryz.results110 (b:=a) (o:=0) (b2:=b2) (o2:=0) rfl rfl rfl C (Zb.of_block K) z (Zb.of_block s)) rfl ?_
  rw[L.out]
  exact⟨rfl,am.out⟩
 subst h1
 have L:=D (show R=(u.1,o.1,true)by rw[HR.out];rfl)
 have c1:=Jc 1 ai.out
 clear HR
 go_wp2_with fail
 refine(Q2.out w2 aa).mono ?_
 rintro e d ⟨rfl,n⟩
 obtain⟨u,ue⟩:=u
 dsimp only at L
 obtain⟨m,k⟩:=Je ((d.alloc (.cells #[.string ⟨#[]⟩, .string ⟨#[]⟩, .int .i64 0, .string ⟨#[]⟩, .string ⟨#[]⟩] 209 (0,0))).setRow d.heap.size (ZV u).toArray)
 have aB:=D (Za (w:=d) (.cells #[.string ⟨#[]⟩, .string ⟨#[]⟩, .int .i64 0, .string ⟨#[]⟩, .string ⟨#[]⟩] 209 (0,0)))
 have Z:m.heap[d.heap.size]? =some (.cells (ZV u).toArray 209 (0,0)):=by rw[k];exact setRow_heap _ _ _ _ _ _ aB.out
 have au:Zg [] d m:=by rw[k];exact((Zg.refl [] d).alloc _).setRow (.inl (Xi _)) _
 have az:=D (show(ZV u).toArray.all (·.oneCell')=true by rw[Xl,Xk];exact ZaK _)
 have H:Zg [] w2 m:=n.trans au (by simp)
 have ar:=Jt aa H
 have aA:=(H.block P (Jg ai) (by simp)).trans ai.out
 have K:=D ((H.block a (Jg M) (by simp)).trans M)
 have s:=D ((H.block b2 (Jg N) (by simp)).trans N)
 have c2:=Jc 2 aA
 have aG:=D (show a≠d.heap.size∧b2≠d.heap.size by have h1:=n.size;have h2:=(Jg M);have h3:=(Jg N);omega)
 clear n au H aA c1 Q2;change Hid _ at k Z
 go_upto_region 4 with(refine Jo (ZV u).toArray aB C az ?_;rw[←k.out])
 obtain⟨O,aE⟩:=Je d.heap.size
 rw[←aE]at Z aG⊢
 clear aE
 go_wp2_with fail
 refine(Q3.out m ar).mono ?_
 rintro e g ⟨rfl,ad⟩
 obtain⟨o,oe⟩:=o
 dsimp only at L
 obtain⟨l,Q⟩:=Je ((g.alloc (.cells #[.string ⟨#[]⟩, .string ⟨#[]⟩, .int .i64 0] 207 (0,0))).setRow g.heap.size (Zz o).toArray)
 have aw:=D (Za (w:=g) (.cells #[.string ⟨#[]⟩, .string ⟨#[]⟩, .int .i64 0] 207 (0,0)))
 have aK:l.heap[g.heap.size]? =some (.cells (Zz o).toArray 207 (0,0)):=by rw[Q];exact setRow_heap _ _ _ _ _ _ aw.out
 have aq:Zg [] g l:=by rw[Q];exact((Zg.refl [] g).alloc _).setRow (.inl (Xi _)) _
 have aJ:=D (show(Zz o).toArray.all (·.oneCell')=true by rw[Xl,Xk];exact ZaO _)
 have F:Zg [] m l:=ad.trans aq (by simp)
 have aR:=D ((F.block a (Jg K) (by simp)).trans K)
 have aD:=D ((F.block b2 (Jg s) (by simp)).trans s)
 have av:=D (show Zb l O 0 (ZV u)from Zb.of_block ((F.block O (Jg Z) (by simp)).trans Z))
 have ab:=D (show Zb l g.heap.size 0 (Zz o)from Zb.of_block aK)
 have aN:=D ((p.trans ar (by simp)).trans F (by simp))
 have ay:=D (show a≠g.heap.size∧b2≠g.heap.size by have h1:=ad.size;have h2:=(Jg K);have h3:=(Jg s);omega)
 clear ad aK aq F c2 Q3;change Hid _ at Q
 go_upto_region 5 with(refine Jo (Zz o).toArray aw z aJ ?_;rw[←Q.out])
 obtain⟨ob,ax⟩:=Je g.heap.size
 rw[←ax]at ab ay⊢
 clear ax
 obtain⟨w7,Y⟩:=Je (l.drew.setRow a (ZV u).toArray)
 have ak:l.drew.heap[a]? =some (.cells #[.string ⟨#[]⟩, .string ⟨#[]⟩, .int .i64 0, .string ⟨#[]⟩, .string ⟨#[]⟩] 209 (0,0)):=aR.out
 have ag:w7.heap[a]? =some (.cells (ZV u).toArray 209 (0,0)):=by rw[Y];exact setRow_heap _ _ _ _ _ _ ak
 have J:Zg [a] l w7:=by rw[Y];exact((Zg.refl [a] l).drewN 1).setRow (.inr (by simp)) _
 have aI:=D ((J.block b2 (Jg aD) (by simp;exact fun e=>E.out.2.2.2.2.2 e.symm)).trans aD)
 have aL:=D (ab.upd J (by simp;exact fun e=>ay.out.1 e.symm))
 obtain⟨w8,T⟩:=Je (w7.setRow b2 (Zz o).toArray)
 have aC:w8.heap[b2]? =some (.cells (Zz o).toArray 207 (0,0)):=by rw[T];exact setRow_heap _ _ _ _ _ _ aI.out
 have al:Zg [b2] w7 w8:=by rw[T];exact(Zg.refl _ _).setRow (.inr (by simp)) _
 have aO:=D ((al.block a (Jg ag) (by simp;exact E.out.2.2.2.2.2)).trans ag)
 have aU:=D ((((aN.weaken (G:=[a]) (by simp)).trans J (fun q c=> .inr c)).weaken (G:=[a,b2]) (fun q c=> .inr (by simp at c⊢;exact .inl c))).trans (al.weaken (G:=[a,b2]) (fun q c=> .inr (by simp at c⊢;exact .inr c))) (fun q c=> .inr c))
 have am:=D (aU.weaken (G:=[]) (fun q c=> .inl (by simp at c;have:=E.out;rcases c with rfl|rfl<;>omega)))
 have aM:=D (av.upd J (by simp;exact fun e=>aG.out.1 e.symm))
 clear ag J al;change Hid _ at aC Y T ak
 refine Jr [0,4,9,14,16] (fun W=>Zb W O 0 (ZV u)∧Zb W ob 0 (Zz o)) ⟨av,ab.out⟩ ?_
 apply Zq (t:= 209) (x:= .tmp 5) (b:=O) (of:=0) (cs:=ZV u)
 case ho=>simp only[Xh,Xf,Xg];rfl
 case hg=>rfl
 case hop=>rfl
 case hx=>rfl
 case ht=>exact C.out
 case hb=>exact fun W i=>i.1
 case ha=>go_simp;rfl
 apply Zq (t:= 207) (x:= .tmp 7) (b:=ob) (of:=0) (cs:=Zz o)
 case ho=>simp only[Xh,Xf,Xg];rfl
 case hg=>rfl
 case hop=>rfl
 case hx=>rfl
 case ht=>exact z.out
 case hb=>exact fun W i=>i.2
 case ha=>go_simp;rfl
 refine JE ?_
 simp only[Xu]
 go_wp2_with(refine Jo (ZV u).toArray ak C az ?_;rw[←Y.out])
 refine⟨fun W=>Zb W O 0 (ZV u)∧Zb W ob 0 (Zz o),fun _ h=>h,⟨aM,aL.out⟩,?_⟩
 refine JL ?_
 go_wp2_with(refine Jo (Zz o).toArray aI z aJ ?_;rw[←T.out])
 refine⟨fun _=>True,trivial,?_⟩
 repeat first|refine Jn ?_|refine Jf ?_|refine Ju ?_
 refine ZL ?_
 go_wp2_with fail
 refine bodyPost_ret (v:= .tuple #[.agg (ZV u).toArray, .agg (Zz o).toArray, .bool true]) (Zb4 Tryz.results110 (b:=a) (o:=0) (b2:=b2) (o2:=0) rfl rfl rfl C (Zb.of_block aO) z (Zb.of_block aC)) rfl ?_
 rw[L.out]
 exact⟨rfl,am.out⟩
end Go.Proofs.YtbgbeddbfaopgaaGreatDoor
namespace Go.Lk
theorem Zop (scheme rest:Bs) (at_:Nat):(Go.Proofs.YtbgbeddbfaopgaaGreatDoor.urlOf scheme rest at_).2=0→(YV (Go.Proofs.YtbgbeddbfaopgaaGreatDoor.urlOf scheme rest at_).1).length≤512∧(Go.Proofs.YtbgbeddbfaopgaaGreatDoor.urlOf scheme rest at_).1.origin.host.length≤253:=by
 unfold Go.Proofs.YtbgbeddbfaopgaaGreatDoor.urlOf
 dsimp only
 have ho:(Y5 (scheme++[58,47,47]++rest.take at_)).2=0→(Y5 (scheme++[58,47,47]++rest.take at_)).1.host.length≤253:=fun h=>(Zb6 (ZgO h)).2.1
 generalize Y5 (scheme++[58,47,47]++rest.take at_)=o at ho⊢
 generalize Lib.cut (rest.drop at_) [63]=q
 by_cases a:o.2=0
 ·rw[if_neg (by simp[a])]
  by_cases b:(!Zel q.1 Zch|| !Zel q.2.1 Zbt)=true
  ·rw[if_pos b];intro h;exact absurd (show(3:Int)=0 from h) (by decide)
  ·rw[if_neg b]
   obtain⟨u,d⟩:∃u:Z6,u=⟨o.1,ZbD q.1,if q.2.2 then[63]++q.2.1 else[]⟩:=⟨_,rfl⟩
   rw[←d]
   by_cases c:512<(YV u).length
   ·rw[if_pos c];intro h;exact absurd (show(4:Int)=0 from h) (by decide)
   ·rw[if_neg c]
    intro _
    exact⟨by show(YV u).length≤512;omega,by show u.origin.host.length≤253;rw[d];exact ho a⟩
 ·rw[if_pos (by simpa using a)]
  intro h;exact absurd h a
theorem ZlR (s:Bs) (h:(ZaT s).2=0):(YV (ZaT s).1).length≤512∧(ZaT s).1.origin.host.length≤253:=by
 revert h
 rw[Go.Proofs.YtbgbeddbfaopgaaGreatDoor.parseT_eq]
 by_cases a:512<s.length
 ·rw[if_pos a];intro h;exact absurd (show(4:Int)=0 from h) (by decide)
 rw[if_neg a]
 by_cases b:(!(Lib.cut (Lib.cut s [35]).1 [58,47,47]).2.2)=true
 ·rw[if_pos b];intro h;exact absurd (show(3:Int)=0 from h) (by decide)
 rw[if_neg b]
 exact Zop _ _ _
theorem ZfH (r:Yb):Go.Proofs.YtbgbeddbfaopgaaGreatDoor.UrlFit (YF r).1∧(YF r).2.1.host.length≤900000:=by
 have c:Go.Proofs.YtbgbeddbfaopgaaGreatDoor.UrlFit Z6.zero:=⟨by simp[Z6.zero,Zx.zero],by simp[Z6.zero],by simp[Z6.zero]⟩
 unfold YF
 split
 ·exact⟨c,by simp[Zx.zero]⟩
 ·rename_i h
  have d:Za9 r=0:=by simpa using h
  obtain⟨_,_,e,b⟩:=ZgY d
  obtain⟨a,g⟩:=ZlR r.url e
  have f:=(Zb6 (ZgO b)).2.1
  unfold YV at a
  rw[Xd,Xd]at a
  refine⟨⟨?_,?_,?_⟩,?_⟩
  ·show((ZaT r.url).1.origin.host).length≤_
   omega
  ·show((ZaT r.url).1.path).length≤_;omega
  ·show((ZaT r.url).1.query).length≤_;omega
  ·show((Y5 r.origin).1.host).length≤_;omega
theorem Zrt (r:Yb):Zek r=if !(YF r).2.2 then[]else Zfs (YF r).1.origin:=rfl
theorem Zjp (r:Yb):ZaR r=if Za9 r !=0 then[]else Zdy r.headers:=rfl
end Go.Lk
namespace Go.Proofs.YtbgbeddbfaopgaaGreatDoor
open Go.RowKit Go.Lk
theorem ZgW (r:Yb) (vh:Value) (w:World) (h:Za0 w r vh) (hE:Env w):
  Calls Tryz.prog 152 #[.agg (Zv r vh).toArray] w (Zdo w (ZaR r)):=by
 obtain⟨R,z⟩:=Je (ZaR r)
 obtain⟨K,o⟩:=Je (Za9 r)
 obtain⟨q,m⟩:=Je (Zdy r.headers)
 have x:=D (show R=if K !=0 then[]else q by rw[z,o,m];exact Zjp r)
 rw[←z]
 obtain⟨y,d⟩:=Je (w.alloc (.cells (Zv r vh).toArray 43))
 have a:=Ja d
 have j:=Jh d
 have s:=ZgH r vh y (h.upd0 a) (hE.upd0 a)
 rw[←o]at s
 have I:∀W,Zg [] y W→Calls Tryz.prog 183 #[vh] W (Zdo W q):=fun W O=>by
  obtain⟨A,c,rfl,hA⟩:=((h.upd0 a).upd0 O).at_
  rw[m];exact Zh2 r.headers A c W hA h.n h.few (hE.upd0 (a.trans O (by simp)))
 have J:=D s;have N:=D I;have H:=D j
 have S:=D Yp
 have Q:=D (show Zb y w.heap.size 0 (Zv r vh)from Zb.of_block j)
 clear s I j z o m hE;change Hid _ at a d
 go_enter Tryz.func152,Tryz.ntmps152
 go_upto_region 1 with fail
 rw[←d.out]
 go_wp2_with(refine Jl Q S ?_)
 refine J.out.mono ?_
 rintro e M ⟨rfl,b⟩
 have P:=D b;have g:=Jt a b
 have E:=(b.block w.heap.size (Jg H) (by simp)).trans H.out
 have Y:M.cell? ⟨w.heap.size,5,none⟩=some vh:=Zc (i:=5) E rfl
 clear b E J
 by_cases p:K=0
 case neg=>
  have l:=D (show R=[]by rw[x.out,if_pos (by simpa using p)])
  go_wp2_with fail
  go_ret
  exact⟨_,[],rfl,by rw[l.out];exact ZD _ _ _,by simp,g.out⟩
 subst p
 have l:=D (show R=q by rw[x.out];rfl)
 clear x
 go_wp2_with fail
 refine(N.out M P).mono ?_
 rintro e w3 ⟨v3,L,rfl,G,C,F⟩
 have X:=D G;have V:=D (show∀k∈L,w.heap.size≤k from fun k Z=>by have p:=C k Z;have h2:=g.size;omega)
 have T:=Jt g F
 clear G C F Y N
 go_wp2_with fail
 go_ret
 exact⟨_,L,rfl,by rw[l.out];exact X,V.out,T.out⟩
theorem Zrp (r:Yb) (vh:Value) (w:World) (h:Za0 w r vh) (hE:Env w):
  Calls Tryz.prog 63 #[.agg (Zv r vh).toArray] w fun e w'=>e= .returned (.string ⟨(Zek r).toArray⟩)∧Zg [] w w':=by
 obtain⟨X,y⟩:=Je (w.alloc (.cells (Zv r vh).toArray 43))
 have m:=Ja y
 have O:=Jh y
 have W:=Zgz r vh X (h.upd0 m) (hE.upd0 m)
 obtain⟨p,C⟩:=Je (YF r)
 rw[←C]at W
 have K:=ZfH r
 rw[←C]at K
 have Q1:=D W;have HE:=D hE;have ai:=D K
 have am:=D Yp;have af:=D Zey;have ar:=D Zf8
 have P:=D O
 have ae:=D (show Zb X w.heap.size 0 (Zv r vh)from Zb.of_block O)
 obtain⟨b0,Q⟩:=Je w.heap.size
 rw[←Q]at P ae
 clear W O hE K h;change Hid _ at m y Q
 obtain⟨R,V⟩:=Je (Zek r)
 have F:=D (show R=if !p.2.2 then[]else Zfs p.1.origin by rw[V,C];exact Zrt r)
 rw[←V]
 clear V C
 go_enter Tryz.func63,Tryz.ntmps63
 go_upto_region 1 with fail
 rw[←y.out,←Q.out]
 go_wp2_with(refine Jl ae am ?_)
 refine Q1.out.mono ?_
 rintro e b ⟨rfl,ac⟩
 obtain⟨u,o,ok⟩:=p
 dsimp only at F ai
 obtain⟨g,j⟩:=Je ((b.alloc (.cells #[.string ⟨#[]⟩, .string ⟨#[]⟩, .int .i64 0, .string ⟨#[]⟩, .string ⟨#[]⟩] 209)).alloc (.cells #[.string ⟨#[]⟩, .string ⟨#[]⟩, .int .i64 0] 207))
 have n:g.heap[b.heap.size]? =some (.cells #[.string ⟨#[]⟩, .string ⟨#[]⟩, .int .i64 0, .string ⟨#[]⟩, .string ⟨#[]⟩] 209 (0,0)):=by rw[j,ZB _ (by simp)];exact Za _
 have s:g.heap[b.heap.size+1]? =some (.cells #[.string ⟨#[]⟩, .string ⟨#[]⟩, .int .i64 0] 207 (0,0)):=by
  rw[j]
  have:=Za (w:=b.alloc (.cells #[.string ⟨#[]⟩, .string ⟨#[]⟩, .int .i64 0, .string ⟨#[]⟩, .string ⟨#[]⟩] 209)) (.cells #[.string ⟨#[]⟩, .string ⟨#[]⟩, .int .i64 0] 207 (0,0));simpa using this
 have ah:Zg [] b g:=by rw[j];exact((Zg.refl [] b).alloc _).alloc _
 have aw:g.heap.size=b.heap.size+2:=by rw[j];simp
 obtain⟨c,S⟩:=Je b.heap.size
 obtain⟨d,L⟩:=Je (b.heap.size+1)
 have aa:c≠d∧d≠c:=by omega
 have an:=D S;have ap:=D L
 rw[←S]at n
 rw[←L]at s
 obtain⟨E,z⟩:=Je (g.setRow c (ZV u).toArray)
 have H:E.heap[c]? =some (.cells (ZV u).toArray 209 (0,0)):=by rw[z];exact setRow_heap _ _ _ _ _ _ n
 have N:Zg [c] g E:=by rw[z];exact(Zg.refl _ _).setRow (.inr (by simp)) _
 have I:=(N.block d (Jg s) (by simp;exact aa.2)).trans s
 obtain⟨i,l⟩:=Je (E.setRow d (Zz o).toArray)
 have aj:i.heap[d]? =some (.cells (Zz o).toArray 207 (0,0)):=by rw[l];exact setRow_heap _ _ _ _ _ _ I
 have M:Zg [d] E i:=by rw[l];exact(Zg.refl _ _).setRow (.inr (by simp)) _
 have Z:=(M.block c (Jg H) (by simp;exact aa.1)).trans H
 have ab:Zg [c,d] g i:=(N.weaken (fun q a=> .inr (by simp at a⊢;exact .inl a))).trans (M.weaken (fun q a=> .inr (by simp at a⊢;exact .inr a))) (fun q a=> .inr a)
 have Y:Zg [] b i:=((ah.weaken (G:=[c,d]) (by simp)).trans ab (fun q a=> .inr a)).weaken (fun q a=> .inl (by simp at a;omega))
 have k:Zg [] X i:=ac.trans Y (by simp)
 have ak:=D I;have al:=D Z
 have ax:=D k;have J:=Jt m k
 have ay:=D ((k.block b0 (Jg P) (by simp)).trans P)
 have ao:=D (show(ZV u).toArray.all (·.oneCell')=true by rw[Xl,Xk];exact ZaK _)
 have aq:=D (show(Zz o).toArray.all (·.oneCell')=true by rw[Xl,Xk];exact ZaO _)
 clear ac s ah aw H N I M Z ab Y k Q1 S L;change Hid _ at j z l n aj
 go_upto_region 2 with(first|(rw[←j.out,←ap.out,←an.out];refine Jo (ZV u).toArray n ar ao ?_;rw[←z.out])|(refine Jo (Zz o).toArray ak af aq ?_;rw[←l.out]))
 cases ok with
 |false=>
  have x:=D (show R=[]by rw[F.out];rfl)
  go_wp2_with fail
  go_ret
  exact⟨by rw[x.out];rfl,J.out⟩
 |true=>
  have x:=D (show R=Zfs u.origin by rw[F.out];rfl)
  have T:=ZhS u.origin i (by have:=ai.out.1.1;omega) (HE.upd0 J)
  have av:=D (show Zb i c 0 (Zz u.origin)from Zbi (Zb.of_block al))
  obtain⟨ky,ad⟩:=Je (Zfs u.origin)
  rw[←ad]at T x
  have Q2:=D T
  clear T ad F
  go_wp2_with(refine Jl av af ?_)
  refine Q2.out.mono ?_
  rintro e w7 ⟨rfl,ag⟩
  have au:=Jt J ag;clear ag Q2
  go_wp2_with fail
  go_ret
  exact⟨by rw[x.out];rfl,au.out⟩
theorem ZjE (r:Yb) (vh:Value) (w:World) (h:Za0 w r vh) (hE:Env w):
  Calls Tryz.prog 89 #[.agg (Zv r vh).toArray] w fun e w'=>e= .returned (.bool (ZfJ r))∧Zg [] w w':=by
 obtain⟨X,y⟩:=Je (w.alloc (.cells (Zv r vh).toArray 43))
 have m:=Ja y
 have N:=Jh y
 have W:=Zgz r vh X (h.upd0 m) (hE.upd0 m)
 obtain⟨p,C⟩:=Je (YF r)
 rw[←C]at W
 have J:=ZfH r
 rw[←C]at J
 have Q1:=D W;have HE:=D hE;have aq:=D J
 have aj:=D Yp;have ak:=D Zey;have ap:=D Zf8
 have O:=D N
 have af:=D (show Zb X w.heap.size 0 (Zv r vh)from Zb.of_block N)
 obtain⟨b0,Q⟩:=Je w.heap.size
 rw[←Q]at O af
 clear W N hE J h;change Hid _ at m y Q
 obtain⟨R,V⟩:=Je (ZfJ r)
 have F:=D (show R=(p.2.2&&p.1.origin !=p.2.1)by rw[V,C];rfl)
 rw[←V]
 clear V C
 go_enter Tryz.func89,Tryz.ntmps89
 go_upto_region 1 with fail
 rw[←y.out,←Q.out]
 go_wp2_with(refine Jl af aj ?_)
 refine Q1.out.mono ?_
 rintro e g ⟨rfl,ae⟩
 obtain⟨u,o,ok⟩:=p
 dsimp only at F aq
 obtain⟨i,j⟩:=Je ((g.alloc (.cells #[.string ⟨#[]⟩, .string ⟨#[]⟩, .int .i64 0, .string ⟨#[]⟩, .string ⟨#[]⟩] 209)).alloc (.cells #[.string ⟨#[]⟩, .string ⟨#[]⟩, .int .i64 0] 207))
 have n:i.heap[g.heap.size]? =some (.cells #[.string ⟨#[]⟩, .string ⟨#[]⟩, .int .i64 0, .string ⟨#[]⟩, .string ⟨#[]⟩] 209 (0,0)):=by rw[j,ZB _ (by simp)];exact Za _
 have s:i.heap[g.heap.size+1]? =some (.cells #[.string ⟨#[]⟩, .string ⟨#[]⟩, .int .i64 0] 207 (0,0)):=by
  rw[j]
  have:=Za (w:=g.alloc (.cells #[.string ⟨#[]⟩, .string ⟨#[]⟩, .int .i64 0, .string ⟨#[]⟩, .string ⟨#[]⟩] 209)) (.cells #[.string ⟨#[]⟩, .string ⟨#[]⟩, .int .i64 0] 207 (0,0));simpa using this
 have ag:Zg [] g i:=by rw[j];exact((Zg.refl [] g).alloc _).alloc _
 have ar:i.heap.size=g.heap.size+2:=by rw[j];simp
 obtain⟨b,T⟩:=Je g.heap.size
 obtain⟨c,K⟩:=Je (g.heap.size+1)
 have ab:b≠c∧c≠b:=by omega
 have al:=D T;have an:=D K
 rw[←T]at n
 rw[←K]at s
 obtain⟨E,z⟩:=Je (i.setRow b (ZV u).toArray)
 have H:E.heap[b]? =some (.cells (ZV u).toArray 209 (0,0)):=by rw[z];exact setRow_heap _ _ _ _ _ _ n
 have M:Zg [b] i E:=by rw[z];exact(Zg.refl _ _).setRow (.inr (by simp)) _
 have I:=(M.block c (Jg s) (by simp;exact ab.2)).trans s
 obtain⟨a,l⟩:=Je (E.setRow c (Zz o).toArray)
 have Y:a.heap[c]? =some (.cells (Zz o).toArray 207 (0,0)):=by rw[l];exact setRow_heap _ _ _ _ _ _ I
 have L:Zg [c] E a:=by rw[l];exact(Zg.refl _ _).setRow (.inr (by simp)) _
 have aa:=(L.block b (Jg H) (by simp;exact ab.1)).trans H
 have ac:Zg [b,c] i a:=(M.weaken (fun q d=> .inr (by simp at d⊢;exact .inl d))).trans (L.weaken (fun q d=> .inr (by simp at d⊢;exact .inr d))) (fun q d=> .inr d)
 have Z:Zg [] g a:=((ag.weaken (G:=[b,c]) (by simp)).trans ac (fun q d=> .inr d)).weaken (fun q d=> .inl (by simp at d;omega))
 have k:Zg [] X a:=ae.trans Z (by simp)
 have ah:=D I;have ai:=D aa
 have au:=D k;have ad:=Jt m k
 have av:=D ((k.block b0 (Jg O) (by simp)).trans O)
 have am:=D (show(ZV u).toArray.all (·.oneCell')=true by rw[Xl,Xk];exact ZaK _)
 have ao:=D (show(Zz o).toArray.all (·.oneCell')=true by rw[Xl,Xk];exact ZaO _)
 clear ae s ag ar H M I L aa ac Z k Q1 T K;change Hid _ at j z l n Y
 go_upto_region 2 with(first|(rw[←j.out,←an.out,←al.out];refine Jo (ZV u).toArray n ap am ?_;rw[←z.out])|(refine Jo (Zz o).toArray ah ak ao ?_;rw[←l.out]))
 cases ok with
 |false=>
  have x:=D (show R=false by rw[F.out];rfl)
  go_wp2_with fail
  go_ret
  exact⟨by rw[x.out];rfl,ad.out⟩
 |true=>
  have x:=D (show R=decide (¬(u.origin.scheme=o.scheme∧u.origin.host=o.host∧u.origin.port=o.port))by rw[F.out,ZkQ];rfl)
  have S:=D (show Zb a b 0 (Zz u.origin)from Zbi (Zb.of_block ai))
  have P:=D (show Zb a c 0 (Zz o)from Zb.of_block Y)
  have d0:a.cell? ⟨b,0,none⟩=some (.string ⟨u.origin.scheme.toArray⟩):=S.out 0 _ rfl
  have d1:a.cell? ⟨b,1,none⟩=some (.string ⟨u.origin.host.toArray⟩):=S.out 1 _ rfl
  have d2:a.cell? ⟨b,2,none⟩=some (.int .i64 u.origin.port):=S.out 2 _ rfl
  have d3:a.cell? ⟨c,0,none⟩=some (.string ⟨o.scheme.toArray⟩):=P.out 0 _ rfl
  have d4:a.cell? ⟨c,1,none⟩=some (.string ⟨o.host.toArray⟩):=P.out 1 _ rfl
  have d5:a.cell? ⟨c,2,none⟩=some (.int .i64 o.port):=P.out 2 _ rfl
  clear F
  go_wp2_with fail
  all_goals
   go_ret
   exact⟨by first|(rw[x.out,decide_eq_true (by simp[*])];rfl)|(rw[x.out,decide_eq_false (by simp[*])];rfl),ad.out⟩
theorem ZgX (r:Yb) (vh:Value) (w:World) (h:Za0 w r vh) (hE:Env w):
  Calls Tryz.prog 149 #[.agg (Zv r vh).toArray] w fun e w'=>e= .returned (.bool (Zdz r))∧Zg [] w w':=by
 obtain⟨R,p⟩:=Je (Zdz r)
 obtain⟨o,m⟩:=Je (ZfJ r)
 obtain⟨n,l⟩:=Je (ZfC r)
 have k:=D (show R=(r.mode==3&&o&& !n)by rw[p,m,l];rfl)
 rw[←p]
 obtain⟨d,j⟩:=Je (w.alloc (.cells (Zv r vh).toArray 43))
 have a:=Ja j
 have i:=Jh j
 have G:∀W,Zg [] d W→Calls Tryz.prog 89 #[.agg (Zv r vh).toArray] W fun e w'=>e= .returned (.bool o)∧Zg [] W w':=fun W c=>by rw[m];exact ZjE r vh W ((h.upd0 a).upd0 c) (hE.upd0 (a.trans c (by simp)))
 have C:∀W,Zg [] d W→Calls Tryz.prog 106 #[.agg (Zv r vh).toArray] W fun e w'=>e= .returned (.bool n)∧Zg [] W w':=fun W c=>by rw[l];exact ZjB r vh W ((h.upd0 a).upd0 c) (hE.upd0 (a.trans c (by simp)))
 have N:=Jc 3 i
 have E:=D G;have H:=D C;have P:=D i
 have s:=D Yp
 have q:=D (show Zb d w.heap.size 0 (Zv r vh)from Zb.of_block i)
 obtain⟨F,x⟩:=Je r.mode
 rw[←x]at N k
 clear G C i p m l h hE x;change Hid _ at a j
 go_enter Tryz.func149,Tryz.ntmps149
 go_upto_region 1 with fail
 rw[←j.out]
 by_cases I:F=3
 case neg=>
  have M:(F==3)=false:=by rw[beq_eq_false_iff_ne];exact I
  have b:=D (show R=false by rw[k.out,M];rfl)
  go_wp2_with fail
  go_ret
  exact⟨by rw[b.out];first|rfl|simp[*],a.out⟩
 subst I
 go_wp2_with(refine ZbS (by go_simp) 43 (.tmp 1) rfl w.heap.size 0 (Zv r vh) rfl s q ?_)
 refine(E.out d (Zg.refl [] d)).mono ?_
 rintro e O ⟨rfl,g⟩
 have J:=D g;have z:=Jt a g
 have K:=D (q.upd g (by simp))
 clear g E
 cases o with
 |false=>
  have b:=D (show R=false by rw[k.out];rfl)
  go_wp2_with fail
  go_ret
  exact⟨by rw[b.out];rfl,z.out⟩
 |true=>
  have b:=D (show R= !n by rw[k.out];rfl)
  go_wp2_with(refine ZbS (by go_simp) 43 (.tmp 1) rfl w.heap.size 0 (Zv r vh) rfl s K ?_)
  refine(H.out O J).mono ?_
  rintro e Q ⟨rfl,y⟩
  have L:=Jt z y;clear y H
  go_wp2_with fail
  go_ret
  exact⟨by rw[b.out];rfl,L.out⟩
end Go.Proofs.YtbgbeddbfaopgaaGreatDoor
namespace Go.Lk
theorem Zp5 (r:Yb):YP r=if !(YF r).2.2 then Yb.zero else{r with method:=ZdJ r.method,url:=Zgc (YF r).1,origin:=Zew (YF r).2.1,headers:=ZcF r.headers}:=rfl
end Go.Lk
namespace Go.Proofs.YtbgbeddbfaopgaaGreatDoor
open Go.RowKit Go.Lk
def ZpF (w:World) (r:Yb) (e:Ending) (w':World):Prop:=∃(vh:Value) (M:List Nat),e= .returned (.agg (Zv r vh).toArray)∧Zby vh r.headers w' M∧(∀k∈M,w.heap.size≤k)∧Zg [] w w'
theorem Zb8 (r:Yb) (vh:Value) (hv:vh.oneCell'=true):(Zv r vh).toArray.all (·.oneCell')=true:=by
 rw[Xl,Xk]
 intro x hx
 simp only[Zv,List.mem_cons,List.not_mem_nil,or_false]at hx
 rcases hx with rfl|rfl|rfl|rfl|rfl|rfl|rfl|rfl|rfl|rfl<;>first|rfl|exact hv
theorem Zby.one (h:Zby v l w F):v.oneCell'=true:=by
 obtain⟨A,c,rfl,_⟩:=h.hdrs
 rfl
theorem Zex (r:Yb) (vh:Value) (w:World) (h:Za0 w r vh) (hE:Env w):
  Calls Tryz.prog 65 #[.agg (Zv r vh).toArray] w (ZpF w (YP r)):=by
 obtain⟨V,ac⟩:=Je ((w.alloc (.cells (Zv r vh).toArray 43)).alloc (.cells #[.string ⟨#[]⟩, .string ⟨#[]⟩, .string ⟨#[]⟩, .int .i64 0, .bool false, .slice none 0 0, .int .i64 0, .int .u64 0, .int .i64 0, .int .i64 0] 43))
 have Y:Zg [] w V:=by rw[ac];exact((Zg.refl [] w).alloc _).alloc _
 have aU:V.heap[w.heap.size]? =some (.cells (Zv r vh).toArray 43 (0,0)):=by rw[ac,ZB _ (by simp)];exact Za _
 have ap:V.heap[w.heap.size+1]? =some (.cells #[.string ⟨#[]⟩, .string ⟨#[]⟩, .string ⟨#[]⟩, .int .i64 0, .bool false, .slice none 0 0, .int .i64 0, .int .u64 0, .int .i64 0, .int .i64 0] 43 (0,0)):=by
  rw[ac]
  have:=Za (w:=w.alloc (.cells (Zv r vh).toArray 43)) (.cells #[.string ⟨#[]⟩, .string ⟨#[]⟩, .string ⟨#[]⟩, .int .i64 0, .bool false, .slice none 0 0, .int .i64 0, .int .u64 0, .int .i64 0, .int .i64 0] 43 (0,0));simpa using this
 change Hid _ at ap
 have q1:=Zgz r vh V (h.upd0 Y) (hE.upd0 Y)
 obtain⟨p,hp⟩:=Je (YF r)
 rw[←hp]at q1
 have aR:=ZfH r
 rw[←hp]at aR
 have Q1:=D q1;have bI:=D Y;have HE:=D hE;have aW:=D aR
 have L:=D Yp;have bi:=D Zey;have bl:=D Zf8
 have aH:=D aU
 have bo:=D (show Zb V w.heap.size 0 (Zv r vh)from Zb.of_block aU)
 obtain⟨g,aY⟩:=Je w.heap.size
 rw[←aY]at aH bo
 obtain⟨l,aB⟩:=Je (w.heap.size+1)
 rw[←aB]at ap
 have aV:=D (show w.heap.size≤g∧w.heap.size≤l∧g≠l∧l≠g by omega)
 have ab:=D (h.upd0 Y)
 clear q1 Y aU hE aR h;change Hid _ at ac aY aB
 obtain⟨R,hR⟩:=Je (YP r)
 have HR:=D (show R=if !p.2.2 then Yb.zero else{r with method:=ZdJ r.method,url:=Zgc p.1,origin:=Zew p.2.1,headers:=ZcF r.headers}by rw[hR,hp];exact Zp5 r)
 rw[←hR]
 clear hR hp
 go_enter Tryz.func65,Tryz.ntmps65
 go_upto_region 1 with fail
 rw[←ac.out,←aB.out,←aY.out]
 go_wp2_with(refine Jl bo L ?_)
 refine Q1.out.mono ?_
 rintro e C ⟨rfl,be⟩
 obtain⟨u,o,ok⟩:=p
 dsimp only at HR aW
 obtain⟨J,N⟩:=Je ((C.alloc (.cells #[.string ⟨#[]⟩, .string ⟨#[]⟩, .int .i64 0, .string ⟨#[]⟩, .string ⟨#[]⟩] 209)).alloc (.cells #[.string ⟨#[]⟩, .string ⟨#[]⟩, .int .i64 0] 207))
 have O:J.heap[C.heap.size]? =some (.cells #[.string ⟨#[]⟩, .string ⟨#[]⟩, .int .i64 0, .string ⟨#[]⟩, .string ⟨#[]⟩] 209 (0,0)):=by rw[N,ZB _ (by simp)];exact Za _
 have ar:J.heap[C.heap.size+1]? =some (.cells #[.string ⟨#[]⟩, .string ⟨#[]⟩, .int .i64 0] 207 (0,0)):=by
  rw[N]
  have:=Za (w:=C.alloc (.cells #[.string ⟨#[]⟩, .string ⟨#[]⟩, .int .i64 0, .string ⟨#[]⟩, .string ⟨#[]⟩] 209)) (.cells #[.string ⟨#[]⟩, .string ⟨#[]⟩, .int .i64 0] 207 (0,0));simpa using this
 have bf:Zg [] C J:=by rw[N];exact((Zg.refl [] C).alloc _).alloc _
 have bG:J.heap.size=C.heap.size+2:=by rw[N];simp
 obtain⟨y,aK⟩:=Je C.heap.size
 obtain⟨z,aS⟩:=Je (C.heap.size+1)
 have bd:y≠z∧z≠y:=by omega
 have bJ:=D aK;have bC:=D aS
 rw[←aK]at O
 rw[←aS]at ar
 obtain⟨w5,ak⟩:=Je (J.setRow y (ZV u).toArray)
 have aw:w5.heap[y]? =some (.cells (ZV u).toArray 209 (0,0)):=by rw[ak];exact setRow_heap _ _ _ _ _ _ O
 have aG:Zg [y] J w5:=by rw[ak];exact(Zg.refl _ _).setRow (.inr (by simp)) _
 have ax:=(aG.block z (Jg ar) (by simp;exact bd.2)).trans ar
 obtain⟨s,al⟩:=Je (w5.setRow z (Zz o).toArray)
 have bc:s.heap[z]? =some (.cells (Zz o).toArray 207 (0,0)):=by rw[al];exact setRow_heap _ _ _ _ _ _ ax
 have aL:Zg [z] w5 s:=by rw[al];exact(Zg.refl _ _).setRow (.inr (by simp)) _
 have a9:=(aL.block y (Jg aw) (by simp;exact bd.1)).trans aw
 have ba:Zg [y,z] J s:=(aG.weaken (fun q d=> .inr (by simp at d⊢;exact .inl d))).trans (aL.weaken (fun q d=> .inr (by simp at d⊢;exact .inr d))) (fun q d=> .inr d)
 have a6:Zg [] C s:=((bf.weaken (G:=[y,z]) (by simp)).trans ba (fun q d=> .inr d)).weaken (fun q d=> .inl (by simp at d;omega))
 have ag:Zg [] V s:=be.trans a6 (by simp)
 have bs:=D ax;have bv:=D a9
 have a8:=D ag;have X:=Jt bI ag
 have ae:=D ((ag.block g (Jg aH) (by simp)).trans aH)
 have bw:=D (show(ZV u).toArray.all (·.oneCell')=true by rw[Xl,Xk];exact ZaK _)
 have bB:=D (show(Zz o).toArray.all (·.oneCell')=true by rw[Xl,Xk];exact ZaO _)
 clear be ar bf bG aw aG ax aL a9 ba a6 ag Q1 aK aS;change Hid _ at N ak al O bc
 go_upto_region 2 with(first|(rw[←N.out,←bC.out,←bJ.out];refine Jo (ZV u).toArray O bl bw ?_;rw[←ak.out])|(refine Jo (Zz o).toArray bs bi bB ?_;rw[←al.out]))
 have ad:=D ((a8.block l (Jg ap) (by simp)).trans ap)
 have bL:=D (show(Zv Yb.zero (.slice none 0 0)).toArray.all (·.oneCell')=true from Zb8 _ _ rfl)
 cases ok with
 |false=>
  have av:=D (show R=Yb.zero by rw[HR.out];rfl)
  obtain⟨w7,au⟩:=Je (s.setRow l (Zv Yb.zero (.slice none 0 0)).toArray)
  have bj:w7.heap[l]? =some (.cells (Zv Yb.zero (.slice none 0 0)).toArray 43 (0,0)):=by rw[au];exact setRow_heap _ _ _ _ _ _ ad.out
  have aa:Zg [l] s w7:=by rw[au];exact(Zg.refl _ _).setRow (.inr (by simp)) _
  have bD:=D (((X.weaken (G:=[l]) (by simp)).trans aa (fun q d=> .inr d)).weaken (G:=[]) (fun q d=> .inl (by rw[Jm d];exact aV.out.2.1)))
  clear aa;change Hid _ at bj au
  go_wp2_with(refine Jo (Zv Yb.zero (.slice none 0 0)).toArray ad L bL ?_;rw[←au.out])
  refine bodyPost_ret (v:= .agg (Zv Yb.zero (.slice none 0 0)).toArray) (Zs _ Tryz.results65 (b:=l) (o:=0) rfl L (Zb.of_block bj)) rfl ?_
  rw[av.out]
  exact⟨_,[],rfl,ZD _ _ _,by simp,bD.out⟩
 |true=>
 obtain⟨H,a4⟩:=Je (ZdJ r.method)
 obtain⟨K,aO⟩:=Je (Zgc u)
 obtain⟨Q,aI⟩:=Je (Zew o)
 obtain⟨hs,a5⟩:=Je (ZcF r.headers)
 have av:=D (show R={r with method:=H,url:=K,origin:=Q,headers:=hs}by rw[HR.out,a4,aO,aI,a5];rfl)
 have qn:∀W,Calls Tryz.prog 116 #[.string ⟨r.method.toArray⟩] W fun e w'=>e= .returned (.string ⟨H.toArray⟩)∧Zg [] W w':=fun W=>by rw[a4];exact Zlo r.method W (by have:=ab.m;omega)
 have qt:∀W,Zg [] s W→Calls Tryz.prog 117 #[.agg (ZV u).toArray] W fun e w'=>e= .returned (.string ⟨K.toArray⟩)∧Zg [] W w':=fun W j=>by rw[aO];exact Zld u W aW.out.1 (HE.upd0 (X.trans j (by simp)))
 have qo:∀W,Zg [] s W→Calls Tryz.prog 118 #[.agg (Zz o).toArray] W fun e w'=>e= .returned (.string ⟨Q.toArray⟩)∧Zg [] W w':=fun W j=>by rw[aI];exact Zg3 o W aW.out.2 (HE.upd0 (X.trans j (by simp)))
 have qh:∀W,Zg [] s W→Calls Tryz.prog 119 #[vh] W (Znp W hs):=fun W j=>by
  obtain⟨A,c,rfl,hA⟩:=(ab.upd0 (a8.trans j (by simp))).at_
  rw[a5];exact Zlj r.headers A c W hA (by have:=ab.n;omega) ab.few
 have QN:=D qn;have QT:=D qt;have QO:=D qo;have QH:=D qh
 have e0:=Jc 0 ae.out
 have e5:s.cell? ⟨g,5,none⟩=some vh:=Zc (i:=5) ae rfl
 have bF:=D (show Zb s y 0 (ZV u)from Zb.of_block bv)
 have bE:=D (show Zb s z 0 (Zz o)from Zb.of_block bc)
 obtain⟨S,hS⟩:∃S:World→Prop,S=fun W=>W.cell? ⟨g,0,none⟩=some (.string ⟨r.method.toArray⟩)∧W.cell? ⟨g,5,none⟩=some vh∧Zb W y 0 (ZV u)∧Zb W z 0 (Zz o):=⟨_,rfl⟩
 have P:=D (show∀W W',S W→Zg [] W W'→S W' from fun W W' j hu=>by
  rw[hS]at j⊢
  exact⟨(Xp (hu.block g (Xo _ _ j.1) (by simp))).trans j.1,(Xp (hu.block g (Xo _ _ j.2.1) (by simp))).trans j.2.1,j.2.2.1.upd hu (by simp),j.2.2.2.upd hu (by simp)⟩)
 have aT:=D (show S s by rw[hS];exact⟨e0,e5,bF.out,bE.out⟩)
 have Z:=D hS
 clear qn qt qo qh a4 aO aI a5 HR e0 e5 hS
 go_upto_region 4 with fail
 refine ZX [(0,0),(1,0),(3,0),(5,0),(7,0),(8,0),(2,1),(10,0),(4,1),(6,1),(9,1),(11,2),(12,0),(13,2),(14,0),(15,2),(16,0),(17,2)] S (by kernel_rfl) (by kernel_rfl) (fun c a w t v h=>by cases t<;>exact h) (P.out _ _ aT ((Zg.refl [] s).drewN 1)) ?_
 repeat first|refine Jn ?_|refine Jf ?_|refine Ju ?_
 apply Zan (v:= .string ⟨r.method.toArray⟩)
 case ho=>simp only[Xh,Xf,Xg];rfl
 case hg=>rfl
 case hv=>intro W j;rw[Z.out]at j;have d0:=j.1;clear j;go_simp
 case ha=>go_simp;rfl
 apply Zq (t:= 209) (x:= .tmp 3) (b:=y) (of:=0) (cs:=ZV u)
 case ho=>simp only[Xh,Xf,Xg];rfl
 case hg=>rfl
 case hop=>rfl
 case hx=>rfl
 case ht=>exact bl.out
 case hb=>intro W j;rw[Z.out]at j;exact j.2.2.1
 case ha=>go_simp;rfl
 apply Zq (t:= 207) (x:= .tmp 4) (b:=z) (of:=0) (cs:=Zz o)
 case ho=>simp only[Xh,Xf,Xg];rfl
 case hg=>rfl
 case hop=>rfl
 case hx=>rfl
 case ht=>exact bi.out
 case hb=>intro W j;rw[Z.out]at j;exact j.2.2.2
 case ha=>go_simp;rfl
 repeat first|refine Jn ?_|refine Jf ?_|refine Ju ?_
 apply Zan (v:=vh)
 case ho=>simp only[Xh,Xf,Xg];rfl
 case hg=>rfl
 case hv=>intro W j;rw[Z.out]at j;have d0:=j.2.1;clear j;go_simp
 case ha=>go_simp;rfl
 refine JE ?_
 simp only[Xu]
 go_wp2_with fail
 refine(QN.out _).mono ?_
 rintro e w7 ⟨rfl,aa⟩
 have aA:=D (show Zg [] s w7 from((Zg.refl [] s).drewN 1).trans aa (by simp))
 have aP:=D (P.out _ _ aT aA)
 clear aa QN
 go_wp2_with fail
 refine⟨S,fun _ h=>h,aP.out,?_⟩
 repeat first|refine Jn ?_|refine Jf ?_|refine Ju ?_
 refine JE ?_
 go_wp2_with fail
 refine(QT.out w7 aA).mono ?_
 rintro e w8 ⟨rfl,a0⟩
 have a7:=Jt aA a0
 have aJ:=D (P.out _ _ aP a0)
 clear a0 QT
 go_wp2_with fail
 refine⟨S,fun _ h=>h,aJ.out,?_⟩
 refine JE ?_
 go_wp2_with fail
 refine(QO.out w8 a7).mono ?_
 rintro e w9 ⟨rfl,aX⟩
 have az:=Jt a7 aX
 have aN:=D (P.out _ _ aJ aX)
 clear aX QO
 go_wp2_with fail
 refine⟨S,fun _ h=>h,aN.out,?_⟩
 refine JE ?_
 go_wp2_with fail
 refine(QH.out w9 az).mono ?_
 rintro e wa ⟨F,M,rfl,bb,am,a2⟩
 have ah:Zg [] s wa:=az.trans a2 (by simp)
 have bg:=D (P.out _ _ aN a2)
 have bn:=(ah.block g (Jg ae) (by simp)).trans ae.out
 have bm:=(ah.block l (Jg ad) (by simp)).trans ad.out
 have aZ:=D bn;have bh:=D bm
 have aQ:=D bb
 have aE:=D (show(∀k∈M,w.heap.size≤k)∧g∉M∧l∉M by
  have h1:=az.size
  have h2:=(Jg ae)
  have h3:=(Jg ad)
  have h4:=X.size
  exact⟨fun k hk=>by have:=am k hk;omega,fun I=>by have:=am _ I;omega,fun I=>by have:=am _ I;omega⟩)
 have O:=Jt X ah
 clear bb am a2 ah bn bm QH
 go_wp2_with fail
 refine⟨S,fun _ h=>h,bg.out,?_⟩
 clear bg aN aJ aP aT P Z
 have r0:=Jc 0 aZ.out
 have f0:wa.frozen? ⟨g,0,none⟩=false:=Zk aZ.out
 obtain⟨wb,ao⟩:=Je (wa.setCell ⟨g,0,none⟩ (.string ⟨H.toArray⟩))
 have aM:=D (show wb.heap[g]? =some (.cells (Zv {r with method:=H} vh).toArray 43 (0,0))by rw[ao];exact(Ze (i:=0) aZ _).trans rfl)
 have bu:=D (show Zg [g] wa wb by rw[ao];exact(Zg.refl _ _).setCell (.inr (by simp)) _)
 change Hid _ at ao
 refine JL ?_
 go_wp2_with fail
 rw[←ao.out]
 clear r0 f0
 refine⟨fun _=>True,trivial,?_⟩
 repeat first|refine Jn ?_|refine Jf ?_|refine Ju ?_
 have r1:=Jc 1 aM.out
 have f1:wb.frozen? ⟨g,1,none⟩=false:=Zk aM.out
 obtain⟨wc,aj⟩:=Je (wb.setCell ⟨g,1,none⟩ (.string ⟨K.toArray⟩))
 have a3:=D (show wc.heap[g]? =some (.cells (Zv {r with method:=H,url:=K} vh).toArray 43 (0,0))by rw[aj];exact(Ze (i:=1) aM _).trans rfl)
 have br:=D (bu.trans (show Zg [g] wb wc by rw[aj];exact(Zg.refl _ _).setCell (.inr (by simp)) _) (fun q d=> .inr d))
 change Hid _ at aj
 refine JL ?_
 go_wp2_with fail
 rw[←aj.out]
 clear r1 f1
 refine⟨fun _=>True,trivial,?_⟩
 repeat first|refine Jn ?_|refine Jf ?_|refine Ju ?_
 have r1:=Jc 2 a3.out
 have f1:wc.frozen? ⟨g,2,none⟩=false:=Zk a3.out
 obtain⟨wd,aq⟩:=Je (wc.setCell ⟨g,2,none⟩ (.string ⟨Q.toArray⟩))
 have aC:=D (show wd.heap[g]? =some (.cells (Zv {r with method:=H,url:=K,origin:=Q} vh).toArray 43 (0,0))by rw[aq];exact(Ze (i:=2) a3 _).trans rfl)
 have bt:=D (br.trans (show Zg [g] wc wd by rw[aq];exact(Zg.refl _ _).setCell (.inr (by simp)) _) (fun q d=> .inr d))
 change Hid _ at aq
 refine JL ?_
 go_wp2_with fail
 rw[←aq.out]
 clear r1 f1
 refine⟨fun _=>True,trivial,?_⟩
 repeat first|refine Jn ?_|refine Jf ?_|refine Ju ?_
 have r1:wd.cell? ⟨g,5,none⟩=some vh:=Zc (i:=5) aC rfl
 have f1:wd.frozen? ⟨g,5,none⟩=false:=Zk aC.out
 obtain⟨A2,c2,rfl,_,_⟩:=aQ.hdrs
 obtain⟨hn,bq⟩:=Je hs.length
 rw[←bq]at aQ⊢
 obtain⟨A1,c1,bp,_⟩:=ab.at_
 have bM:vh.oneCell'=true:=by rw[bp];rfl
 obtain⟨T,an⟩:=Je (wd.setCell ⟨g,5,none⟩ (.slice A2 hn c2))
 have aD:=D (show T.heap[g]? =some (.cells (Zv {r with method:=H,url:=K,origin:=Q,headers:=hs} (.slice A2 hn c2)).toArray 43 (0,0))by rw[an];exact(Ze (i:=5) aC _).trans rfl)
 have ay:=D (bt.trans (show Zg [g] wd T by rw[an];exact(Zg.refl _ _).setCell (.inr (by simp)) _) (fun q d=> .inr d))
 clear bp bq;change Hid _ at an
 refine JL ?_
 go_wp2_with fail
 rw[←an.out]
 clear r1 f1
 refine Jz ?_
 obtain⟨E,aF⟩:∃E:Yb,E={r with method:=H,url:=K,origin:=Q,headers:=hs}:=⟨_,rfl⟩
 obtain⟨F,af⟩:=Je (Value.slice A2 hn c2)
 rw[←aF]at aD av
 have HH:=D (show Zby F E.headers T M by rw[af,aF];exact(Yh _ _).upd aQ ay (fun k hk I=>aE.out.2.1 (by rw[←Jm I];exact hk)))
 rw[←af]at aD
 have bz:=D (show Zb T g 0 (Zv E F)from Zb.of_block aD)
 have bk:=D ((ay.block l (Jg bh) (by simp;exact aV.out.2.2.2)).trans bh)
 have bx:=D (Zb8 E F (by rw[af];rfl))
 obtain⟨wf,ai⟩:=Je (T.setRow l (Zv E F).toArray)
 have bK:=D (show wf.heap[l]? =some (.cells (Zv E F).toArray 43 (0,0))by rw[ai];exact setRow_heap _ _ _ _ _ _ bk)
 have a1:Zg [l] T wf:=by rw[ai];exact(Zg.refl _ _).setRow (.inr (by simp)) _
 have bA:=D ((Yh _ _).upd HH a1 (fun k hk I=>aE.out.2.2 (by rw[←Jm I];exact hk)))
 have bH:=D (show Zg [] w wf from((((O.weaken (G:=[g,l]) (by simp)).trans (ay.weaken (G:=[g,l]) (fun q d=> .inr (by simp at d⊢;exact .inl d))) (fun q d=> .inr d)).trans (a1.weaken (G:=[g,l]) (fun q d=> .inr (by simp at d⊢;exact .inr d))) (fun q d=> .inr d)).weaken (G:=[]) (fun q d=> .inl (by simp at d;have:=aV.out;rcases d with rfl|rfl<;>omega))))
 clear aF af a1;change Hid _ at ai
 go_wp2_with(first|refine Jl bz L ?_|(refine Jo (Zv E F).toArray bk L bx ?_;rw[←ai.out]))
 refine bodyPost_ret (v:= .agg (Zv E F).toArray) (Zs _ Tryz.results65 (b:=l) (o:=0) rfl L (Zb.of_block bK)) rfl ?_
 rw[av.out]
 exact⟨_,M,rfl,bA.out,aE.out.1,bH.out⟩
theorem ZoD:(Tryz.prog.info? 178).map (fun i=>(i.zero,i.size,i.bytes))=some (some (.pointer none),1,8):=by kernel_rfl
theorem Zqe (p:Nat→Bool) (g:FuncId) (lb:Array Value) (I:List Nat→YG) (hI:∀d,(I d).Local) {l:List Nat}
  (h:Zj 178 1 v (l.map fun x=>[Value.pointer (some ⟨x,0,none⟩)]) w F) (h0:I [] w G) (hFG:Z8 F G) (eg:∀args w,(callFunc g args).run Tryz.prog w= .ok (.enter g args) w)
  (hp:∀(W:World) (G1:List Nat) (d r:List Nat) (x:Nat),l=d++x::r→I d W G1→Zg (F++G) w W→Calls Tryz.prog g (#[Value.pointer (some ⟨x,0,none⟩)]++lb) W fun e w'=>e= .returned (.bool (p x))∧∃G',I (d++[x]) w' G'∧Zi W w' G1 G'):
  Calls Tryz.prog 303 #[v, .func (.func g) #[] lb] w fun e w'=>e= .returned (.int .i64 (YL p l))∧∃G',I (ZcL p l) w' G'∧Zi w w' G G':=by
 obtain⟨A,c,rfl,hc,J⟩:=h.lies1
 have n:=h.2.1
 have q:=h.le
 have P:=h.foot
 rw[Xb]at hc q⊢
 have HK:=D n;have X:=D hp;have V:=D J;have HI:=D hI;have Z:=D P;have R:=D hFG;have S:=D h0
 have ac:l.length≤9223372036854775807:=by unfold maxLen at q;omega
 clear h n hp J q hI P hFG h0
 go_enter Tryz.func303,Tryz.ntmps303
 go_wp2
 go_loopw[5,8] (fun _ s8 wr=>∃(kk:Nat) (G':List Nat),kk≤l.length∧s8= .int .i64 kk∧Hid (I (l.take kk) wr G'∧Zi w wr G G')∧Hid (∀(j:Nat) (x:Nat),j<kk→l[j]? =some x→p x=false)) (fun _ s8 _=>l.length-(intOf s8).toNat)
 case atStart=>exact⟨0,G,Xn _,rfl,D ⟨S,Zi.refl w G⟩,D (fun j x N=>absurd N (Nat.not_lt_zero _))⟩
 case round=>
  obtain⟨kk,G',ad,rfl,a,i⟩:=hrel
  by_cases z:kk<l.length
  ·obtain⟨x,hx⟩:∃x,l[kk]? =some x:=⟨_,Xa z⟩
   have Q:=Xc hx
   obtain⟨C,rfl,K⟩:=V.out kk [Value.pointer (some ⟨x,0,none⟩)] (by rw[Xe,hx];rfl)
   have M:C∉G:=R.out C (Z.out C rfl)
   have aa:=Zb.one (K.upd a.out.2.upd M) rfl
   have E:=D hx
   have T:=D (X.out wr G' (l.take kk) (l.drop (kk+1)) x (Zcp hx) a.out.1 (a.out.2.upd.weaken (fun k n=> .inr (List.mem_append_right _ n))))
   have Y:=D (ZY hx)
   obtain⟨b,m⟩:=Je (p x)
   clear hx K Q M;change Hid _ at m
   go_wp2_with fail
   refine T.out.mono ?_
   rintro e O ⟨rfl,o,s⟩
   rw[←m.out]
   have L:=D (show I (l.take (kk+1)) O o∧Zi w O G o by rw[Y.out];exact⟨s.1,a.out.2.trans s.2⟩)
   clear s
   cases b with
   |true=>
    go_wp2
    go_ret
    refine⟨?_,o,?_⟩
    ·rw[Zao z (by rw[E.out]) m.symm i.out];rfl
    ·rw[Zgv z E m.symm i.out];exact L.out
   |false=>
    go_wp2
    go_roundw
    case rel=>
     refine⟨kk+1,o,by omega,by go_num,L,D (fun j y N H=> ?_)⟩
     by_cases e:j=kk
     ·subst e;rw[E.out]at H;cases H;exact m.symm
     ·exact i j y (by omega) H
    case measure=>simp[intOf];omega
  ·obtain rfl:kk=l.length:=by omega
   go_wp2
   go_ret
   refine⟨?_,G',?_⟩
   ·rw[YY i.out];rfl
   ·rw[Zfc i.out];rw[Xm]at a;exact a.out
theorem Zqj (p:Nat→Bool) (g:FuncId) (lb:Array Value) (I:List Nat→YG) (hI:∀d,(I d).Local) {l:List Nat}
  (h:Zj 178 1 v (l.map fun x=>[Value.pointer (some ⟨x,0,none⟩)]) w F) (h0:I [] w G) (hFG:Z8 F G) (eg:∀args w,(callFunc g args).run Tryz.prog w= .ok (.enter g args) w)
  (hp:∀(W:World) (G1:List Nat) (d r:List Nat) (x:Nat),l=d++x::r→I d W G1→Zg (F++G) w W→Calls Tryz.prog g (#[Value.pointer (some ⟨x,0,none⟩)]++lb) W fun e w'=>e= .returned (.bool (p x))∧∃G',I (d++[x]) w' G'∧Zi W w' G1 G'):
  Calls Tryz.prog 245 #[v, .func (.func g) #[] lb] w fun e w'=>∃v',e= .returned v'∧Zj 178 1 v' ((l.filter fun x=> !p x).map fun x=>[Value.pointer (some ⟨x,0,none⟩)]) w' F∧∃G',I l w' G'∧Z8 F G'∧Zg (F++G) w w'∧∀k∈G',k∈G∨w.heap.size≤k:=by
 have ei:∀args w,(callFunc 303 args).run Tryz.prog w= .ok (.enter 303 args) w:=enters_of Tryz.func303 (by kernel_rfl) rfl
 have hx:=Zqe p g lb I hI h h0 hFG eg hp
 have ae:=(Zd 178 1 v (l.map fun x=>[Value.pointer (some ⟨x,0,none⟩)])).lt h
 have q:=D hx;have HH:=D h;have K:=D hFG
 cases hq:l.findIdx? p with
 |none=>
  have ag:l.filter (fun x=> !p x)=l:=by
   rw[List.filter_eq_self];intro x hm;rw[List.findIdx?_eq_none_iff]at hq;rw[hq x hm];rfl
  have z:ZcL p l=l:=by unfold ZcL;rw[hq]
  rw[Yo hq,z]at hx
  rw[ag]
  have q:=D hx
  clear hx hq ag z h h0 hFG hp
  go_enter Tryz.func245,Tryz.ntmps245
  go_wp2_with fail
  refine q.out.mono ?_
  rintro e w1 ⟨rfl,G1,H⟩
  have n:=D H;clear H
  go_wp2_with fail
  go_ret
  refine⟨v,rfl,(Zd _ _ _ _).upd HH n.out.2.upd K,G1,n.out.1,?_,n.out.2.upd.weaken (fun k a=> .inr (by simp[a])),n.out.2.new⟩
  intro k a o
  rcases n.out.2.new k o with c|c
  ·exact K k a c
  ·have:=ae k a;omega
 |some i0=>
  have aB:=Yv hq
  obtain⟨vg,cap,rfl,aj⟩:∃vg cap,v= .slice (some ⟨vg,0,none⟩) l.length cap∧F=[vg]:=by
   rcases h.form with⟨_,N,_⟩|⟨g',ax,C,N,e2,_⟩
   ·rw[List.map_eq_nil_iff]at N;subst N;simp at aB
   ·exact⟨g',ax,by rw[N,Xb],e2⟩
  have z:ZcL p l=l.take (i0+1):=by unfold ZcL;rw[hq]
  rw[Yw hq,z]at hx
  have q:=D hx
  have aC:=D (ZbF.start hq)
  have am:=D aj;have HP:=D hp;have HI:=D hI
  have Q:=h.le
  rw[Xb]at Q
  have aO:l.length≤9223372036854775807:=by unfold maxLen at Q;omega
  have aK:((i0:Int)== -1)=false:=beq_eq_false_iff_ne.2 (by omega)
  clear hx hq z h h0 hFG hp aj hI Q
  go_enter Tryz.func245,Tryz.ntmps245
  go_wp2_with fail
  refine q.out.mono ?_
  rintro e w1 ⟨rfl,G1,H⟩
  have n:=D H;clear H
  have aD:=D (show Z8 F G1 from fun k a o=>by
   rcases n.out.2.new k o with c|c
   ·exact K k a c
   ·have:=ae k a;omega)
  have aE:=D ((Zd _ _ _ _).upd HH n.out.2.upd K)
  go_wp2_with fail
  go_loopw[5,6,7] (fun s5 s6 _ wr=>∃(i j:Nat) (dk:List Nat) (G':List Nat),s5= .int .i64 i∧s6= .int .i64 j∧j≤l.length∧i<j∧Hid (ZbF p l j i dk)∧Hid (I (l.take j) wr G'∧Z8 F G'∧Zg (F++G) w wr∧∀k∈G',k∈G∨w.heap.size≤k)∧Hid (Zj 178 1 (.slice (some ⟨vg,0,none⟩) l.length cap) (dk.map fun x=>[Value.pointer (some ⟨x,0,none⟩)]) wr F)) (fun _ s6 _ _=>l.length-(intOf s6).toNat)
  case atStart=>exact⟨i0,i0+1,l,G1,rfl,by go_num,by omega,by omega,aC,D ⟨n.out.1,aD.out,n.out.2.upd.weaken (fun k a=> .inr (by simp[a])),n.out.2.new⟩,aE⟩
  case round=>
   obtain⟨i,j,dk,G',rfl,rfl,aI,aH,s,m,J⟩:=hrel
   by_cases aa:j<l.length
   ·obtain⟨x,hx⟩:∃x,l[j]? =some x:=⟨_,Xa aa⟩
    obtain⟨b,M⟩:=Je (p x)
    have al:(dk.map fun x=>[Value.pointer (some ⟨x,0,none⟩)])[j]? =some [Value.pointer (some ⟨x,0,none⟩)]:=by rw[Xe,s.get,hx];rfl
    have V:=J.liesAt al
    have aq:=Zb.one V rfl
    rw[Nat.mul_one]at aq
    have q:=D hx;have aP:=D V
    clear hx V al;change Hid _ at M
    have av:=D (HP.out wr G' (l.take j) (l.drop (j+1)) x (Zcp q) m.out.1 m.out.2.2.1)
    go_wp2_with fail
    refine av.out.mono ?_
    rintro e L ⟨rfl,O,Y,E⟩
    rw[←ZY q.out]at Y
    rw[←M.out]
    have ad:=(Zd _ _ _ _).upd J E.upd m.out.2.1
    have af:Z8 F O:=fun k a o=>by
     rcases E.new k o with c|c
     ·exact m.out.2.1 k a c
     ·have:=(Zd _ _ _ _).lt J k a;omega
    have ab:Zg (F++G) w L:=m.out.2.2.1.trans E.upd (fun k a=>by rcases m.out.2.2.2 k a with c|c<;>simp[c])
    have ac:∀k∈O,k∈G∨w.heap.size≤k:=fun k a=>by
     rcases E.new k a with c|c
     ·exact m.out.2.2.2 k c
     ·right;have:=m.out.2.2.1.size;omega
    have au:=D ad;have y:=D (And.intro Y (And.intro af (And.intro ab ac)))
    clear aq Y E ad af ab ac
    cases b with
    |true=>
     go_wp2
     go_roundw
     case rel=>exact⟨i,j+1,dk,O,rfl,by go_num,by omega,by omega,D (s.skip q M.symm),y,au⟩
     case measure=>simp[intOf];omega
    |false=>
     have ar:i<(dk.map fun x=>[Value.pointer (some ⟨x,0,none⟩)]).length:=by rw[Xb,s.len];omega
     obtain⟨C,ai,ap,ah⟩:=Ze9 (cs:=[Value.pointer (some ⟨x,0,none⟩)]) au ar rfl
     have S:=D ai;have ao:=D ap;have aw:=D ah
     clear ar ai ap ah
     have aM:L.cell? ⟨vg,i,none⟩=some (C[i]'(by have:=ao.out;simp at this;omega)):=Zc S (Array.getElem?_eq_getElem _)
     have aL:L.frozen? ⟨vg,i,none⟩=false:=Zk S.out
     go_wp2
     go_roundw
     case rel=>
      have ak:=(Zg.refl F L).setCell (p:=⟨vg,i,none⟩) (.inr (by rw[am.out];simp)) (Value.pointer (some ⟨x,0,none⟩))
      refine⟨i+1,j+1,dk.set i x,O,by go_num,by go_num,by omega,by omega,D (s.keep q M.symm),D ⟨(HI.out _).upd y.out.1 ak (fun k a o=>y.out.2.1 k o a),y.out.2.1,y.out.2.2.1.trans ak (fun k a=> .inr (List.mem_append_left _ a)),y.out.2.2.2⟩,D ?_⟩
      rw[List.map_set]
      refine aw _ ?_
      rw[Ze S.out]
      have:=ao.out
      simp at this
      congr 2
      rw[←Array.toArray_toList (xs:=C.setIfInBounds _ _),Array.toList_setIfInBounds]
      congr 1
      exact(ZkZ _ _ _ (by rw[Array.length_toList];omega)).symm
     case measure=>simp[intOf];omega
   ·obtain rfl:j=l.length:=by omega
    obtain⟨T,R⟩:=Zbz (zs:=[.pointer none]) (l.length-i) (by simp) (by simp[Value.oneCell'])
    obtain⟨zs,Z⟩:=Je ((Builtin.zeroCells ([.pointer none]:List Value).toArray (l.length-i)).toList)
    rw[←Z]at T R
    have an:zs.length=(l.length-i)*1:=T
    obtain⟨C,hn,_,hb,hc,hm,hs,_⟩:=J.block
    rw[Xb]at hc
    have aA:=s.len
    have aF:i*1+zs.length≤cap*1:=by rw[an];omega
    have aN:∀ty,(Builtin.clear_ #[77] ty #[.slice (some ⟨vg,i,none⟩) (l.length-i) (cap-i)]).run Tryz.prog wr= .ok (.tuple #[]) (wr.setCells vg i zs):=fun ty=>by
     refine Yn wr _ _ ty _ zs Tryz.underlying77 (fun w=> Tryz.zeroValue178 w) vg _ _ _ (by omega) (by rw[Z];rfl) R (fun t c=> ?_) (fun t c=>Zk hb)
     have aa:i+t<C.size:=by omega
     rw[Zc hb (Array.getElem?_eq_getElem aa)];rfl
    have P:=Zfe J (i:=i) (by rw[Xb];omega) zs aF (by rw[Nat.mul_one])
    rw[←List.map_take,s.done]at P
    have ay:(l.filter fun x=> !p x).length=i:=by rw[←s.done,List.length_take];omega
    have az:=D P
    have X:Zg F wr (wr.setCells vg i zs):=(Zg.refl F wr).setCells (.inr (by rw[am.out];simp)) _ _
    have aJ:i≤cap:=by omega
    have aG:¬cap=i:=by omega
    clear hn hb hs P ay Z an T R aA;change Hid _ at X
    go_wp2
    go_ret
    refine⟨_,rfl,az.out,G',?_,m.out.2.1,m.out.2.2.1.trans X (fun k a=> .inr (List.mem_append_left _ a)),m.out.2.2.2⟩
    have:=m.out.1
    rw[Xm]at this
    exact(HI.out _).upd this X (fun k a o=>m.out.2.1 k o a)
theorem Zmx:(Tryz.prog.info? 220).map (fun i=>(i.zero,i.size,i.bytes))=some (some (.agg #[.int .i64 0, .int .i64 0, .string ⟨#[]⟩]),3,32):=by kernel_rfl
theorem ZhQ:Zu Tryz.prog 220 3=true:=by kernel_rfl
theorem Zo1:(Tryz.prog.info? 220).map (fun i=>(i.size,i.bytes))=some (3,32):=by kernel_rfl
theorem Zn8 {α:Type} (enc:α→List Value) (p:α→Bool) (g:FuncId) (lb:Array Value) {l:List α}
  (h:Zj 220 3 v (l.map enc) w F) (eg:∀args w,(callFunc g args).run Tryz.prog w= .ok (.enter g args) w)
  (hp:∀(W:World) (x:α),x∈l→Zg [] w W→Calls Tryz.prog g (#[.agg (enc x).toArray]++lb) W fun e w'=>e= .returned (.bool (p x))∧Zg [] W w'):
  Calls Tryz.prog 267 #[v, .func (.func g) #[] lb] w fun e w'=>e= .returned (.int .i64 (YL p l))∧Zg [] w w':=by
 obtain⟨A,c,rfl,O,o⟩:=h.lies
 have G:=h.2.1
 have i:=h.le
 rw[Xb]at O i⊢
 have K:=D G;have N:=D hp;have M:=D o
 have P:l.length≤9223372036854775807:=by unfold maxLen at i;omega
 clear h G hp o i
 go_enter Tryz.func267,Tryz.ntmps267
 go_wp2
 go_loopw[5,8] (fun _ s8 wr=>∃kk:Nat,kk≤l.length∧s8= .int .i64 kk∧Hid (Zg [] w wr)∧Hid (∀(j:Nat) (x:α),j<kk→l[j]? =some x→p x=false)) (fun _ s8 _=>l.length-(intOf s8).toNat)
 case atStart=>exact⟨0,Xn _,rfl,D (Zg.refl [] w),D (fun j x C=>absurd C (Nat.not_lt_zero _))⟩
 case round=>
  obtain⟨kk,Q,rfl,d,m⟩:=hrel
  by_cases z:kk<l.length
  ·obtain⟨x,hx⟩:∃x,l[kk]? =some x:=⟨_,Xa z⟩
   have k:=Xc hx
   obtain⟨S,rfl,r⟩:=M.out kk (enc x) (by rw[Xe,hx];rfl)
   have J:=D (r.upd d (by simp))
   have I:=D (show(enc x).length=3 from K.out (enc x) (List.mem_map.2 ⟨x,k,rfl⟩))
   have H:=D (show Zu Tryz.prog 220 (enc x).length=true by rw[I.out];exact ZhQ)
   have E:=D hx
   have L:=D (N.out wr x k d)
   obtain⟨b,a⟩:=Je (p x)
   clear hx r k;change Hid _ at a
   go_wp2_with(refine Js J H ?_)
   refine L.out.mono ?_
   rintro e R ⟨rfl,q⟩
   rw[←a.out]
   have s:=Jt d q
   clear q
   cases b with
   |true=>
    go_wp2
    go_ret
    refine⟨?_,s.out⟩
    rw[Zao z (by rw[E.out]) a.symm m.out];rfl
   |false=>
    go_wp2
    go_roundw
    case rel=>
     refine⟨kk+1,by omega,by go_num,s,D (fun j y C n=> ?_)⟩
     by_cases e:j=kk
     ·subst e;rw[E.out]at n;cases n;exact a.symm
     ·exact m j y (by omega) n
    case measure=>simp[intOf];omega
  ·obtain rfl:kk=l.length:=by omega
   go_wp2
   go_ret
   refine⟨?_,d.out⟩
   rw[YY m.out];rfl
theorem ZnI {g cap i j:Nat} (hj:j=i+1) {xs:List (List Value)} (h:Zj 220 3 (.slice (some ⟨g,0,none⟩) xs.length cap) xs w F) (h1:∀u∈xs.flatten,u.oneCell'=true) (hi:i<xs.length):
  Calls Tryz.prog 206 #[.slice (some ⟨g,0,none⟩) xs.length cap, .int .i64 i, .int .i64 j] w fun e w'=>e= .returned (.slice (some ⟨g,0,none⟩) (xs.length-1:Nat) cap)∧
   Zj 220 3 (.slice (some ⟨g,0,none⟩) (xs.length-1) cap) (xs.eraseIdx i) w' [g]∧Zg [g] w w':=by
 obtain⟨k,_,_,m,o,G,K,ht⟩:=h.block
 obtain⟨T,O,P,ad⟩:=Zcb Zo1
 have Q:=ZG h.2.1
 obtain⟨a,n⟩:=Je ((xs.drop j).flatten)
 have d:a.length=(xs.length-j)*3:=by rw[n,ZG (fun c o=>h.2.1 c (List.mem_of_mem_drop o)),List.length_drop]
 have H:∀t,t<cap*3→(w.drew.cell? ⟨g,t,none⟩).isSome=true∧w.drew.frozen? ⟨g,t,none⟩=false:=fun t h1=>by
  have x:t<k.size:=by omega
  refine⟨?_,Zk (w:=w) m⟩
  show(w.cell? _).isSome=true
  rw[Zc m (Array.getElem?_eq_getElem x)];rfl
 obtain⟨A,hA,M⟩:∃A:Addr,(if cap=j then(some (⟨g,0,none⟩:Addr))else some ⟨g,j*3,none⟩)=some A∧Hid (∀t u,a[t]? =some u→w.drew.cell? (A.add t)=some u):=by
  by_cases e:cap=j
  ·refine⟨⟨g,0,none⟩,by rw[if_pos e],D (fun t u b=> ?_)⟩
   have V:a.length=0:=by rw[d,show xs.length-j=0 by omega,Nat.zero_mul]
   rw[List.length_eq_zero_iff.1 V]at b;simp at b
  ·refine⟨⟨g,j*3,none⟩,by rw[if_neg e],D (fun t u b=> ?_)⟩
   rw[add_plain]
   refine Zc (w:=w) m ?_
   rw[n,←ZaH h.2.1,List.getElem?_drop,←ht,List.getElem?_take]at b
   split at b
   ·simpa using b
   ·cases b
 have s2:Hid (∀u∈a,u.oneCell'=true):=D (fun u b=>h1 u (by rw[n]at b;obtain⟨c,o,b⟩:=List.mem_flatten.1 b;exact List.mem_flatten.2 ⟨c,List.mem_of_mem_drop o,b⟩))
 have s1:Hid (a.length=(xs.length-j)*3):=D d
 have N:xs.length*3≤cap*3:=Nat.mul_le_mul_right _ o
 have s3:Hid (∀t,t<a.length→(w.drew.cell? ⟨g,0+i*3+t,none⟩).isSome=true∧w.drew.frozen? ⟨g,0+i*3+t,none⟩=false):=D (fun t r=>H _ (by rw[d]at r;omega))
 obtain⟨p,s⟩:=Je (w.drew.setCells g (0+i*3) a)
 obtain⟨l,q⟩:∃l:List Value,l=[.int .i64 0, .int .i64 0, .string ⟨#[]⟩]:=⟨_,rfl⟩
 have z:l.length=3:=by rw[q];rfl
 have y:p.heap[g]? =some (.cells (Yl k.toList (0+i*3) a).toArray 220 (0,0)):=by rw[s];exact Ys a (0+i*3) w.drew k m (by rw[d];omega)
 have J:(Yl k.toList (0+i*3) a).length=cap*3:=by rw[YW _ _ _ (by rw[d];simp;omega)];simpa using K
 have ab:∀C,(Builtin.clear_ #[141] C #[.slice (some ⟨g,(i+(xs.length-j))*3,none⟩) (xs.length-(i+(xs.length-j))) (cap-(i+(xs.length-j)))]).run Tryz.prog p= .ok (.tuple #[]) (p.setCells g ((i+(xs.length-j))*3) l):=fun C=>by
  have E:xs.length-(i+(xs.length-j))=1:=by omega
  rw[E]
  refine Yn p _ _ C _ l Tryz.underlying141 (fun w=> Tryz.zeroValue220 w) g _ 1 _ (by omega) (by rw[q];exact ZaQ) (by rw[q];simp[Value.oneCell']) (fun t r=> ?_) (fun t r=>Zk y)
  rw[z]at r
  have x:(i+(xs.length-j))*3+t<(Yl k.toList (0+i*3) a).length:=by rw[J];omega
  rw[Zc y (v:=(Yl k.toList (0+i*3) a)[(i+(xs.length-j))*3+t]) (by rw[Xh,Xa x])];rfl
 have L:Hid (p=w.drew.setCells g (0+i*3) a):=D s
 have I:=D (Zb9 h hi 1 l z rfl)
 rw[←hj,←n]at I
 have Z:i<j:=by omega
 have X:j≤xs.length:=by omega
 have W:¬i=j:=by omega
 have R:=D hj
 have Y:i≤cap:=by omega
 have aa:j≤cap:=by omega
 have ac:cap≤9223372036854775807:=by unfold maxLen at G;exact G
 clear hj s y J q z H m K ht Q d h h1 N G;change Hid _ at n
 go_enter Tryz.func206,Tryz.ntmps206
 go_wp2_with fail
 go_region_law (refine step_append_room rfl (.tmp 22) (.tmp 25) 141 rfl 220 T 3 Tryz.underlying141 O P g 0 i cap (by simp[Act.eval,Act.put]) A (xs.length-j) (cap-j) a (by simp[Act.eval,Act.put]) s1.out M.out s2.out (by omega) s3.out ?_;rw[←L.out])
 go_wp2
 go_ret
 have E:i+(xs.length-j)=xs.length-1:=by have:=R.out;omega
 have S:=I.out
 rw[L.out,Nat.zero_add,E]
 exact⟨rfl,S⟩
theorem ZpM {g cap i:Nat} {xs:List (List Value)} (h:Zj 220 3 (.slice (some ⟨g,0,none⟩) xs.length cap) xs w F) (h1:∀u∈xs.flatten,u.oneCell'=true) (hi:i<xs.length):
 Calls Tryz.prog 206 #[.slice (some ⟨g,0,none⟩) xs.length cap, .int .i64 i, .int .i64 ((i:Int)+1)] w fun e w'=>e= .returned (.slice (some ⟨g,0,none⟩) (xs.length-1:Nat) cap)∧
  Zj 220 3 (.slice (some ⟨g,0,none⟩) (xs.length-1) cap) (xs.eraseIdx i) w' [g]∧Zg [g] w w':=ZnI rfl h h1 hi
end Go.Proofs.YtbgbeddbfaopgaaGreatDoor
