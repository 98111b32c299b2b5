import Derived.Test.YtlhapbopmplngaaGreatDoorS40
import Derived.Test.YtlhapbopmplngaaGreatDoorS41
set_option linter.all false
set_option maxHeartbeats 16000000
set_option maxRecDepth 100000
set_option autoImplicit true
set_option relaxedAutoImplicit true
namespace Go.Proofs.YtlhapbopmplngaaGreatDoor
open Go.RowKit Go.Lk
section
variable {w:World} {b:Nat} {P:Ym} {lk:Option Nat} {s:Ze} {va vp vl:Value} {F:List Nat}
theorem Zh.req (h:Zh w b P lk s va vp vl F) (hfit:ZQ s n m) {i p:Nat} (hp:P.fps[i]? =some p) (hf:s.all[i]? =some f):
  ∃vh,Za5 w f.req vh∧Zb w p 1 (Zt f.req vh)∧∃lb vb,w.heap[p]? =some (.cells (Zau f (lk==some i) vh lb vb).toArray 104 (0,0)):=by
 obtain⟨vh,lb,vb,z,C,d,_,_⟩:=h.fetch hp hf
 have a:=(hfit.fs f (Xc hf)).req
 obtain⟨A,c,r,x,q⟩:=d.hdrs.hdrs
 refine⟨vh,⟨a.m,a.u,a.o,a.h,a.hs,A,c,r,q⟩,fun j v g=> ?_,lb,vb,d.blk⟩
 have l:j<10:=by have:=(Jk g);simpa[Zt]using this
 refine Zf (i:=1+j) d.blk ?_
 have e:∀k:Nat,k<10→(Zau f (lk==some i) vh lb vb).toArray[1+k]? =(Zt f.req vh)[k]? :=by
  intro k y
  rcases k with _|_|_|_|_|_|_|_|_|_|k<;>first|rfl|omega
 rw[e j l];exact g
theorem ZgL (h:Zh w b P lk s va vp vl F) (hE:Env w) (g:Zi w w1 F F1):Env w1:=hE.upd g.upd (fun k hk=>h.two k hk)
theorem Zk4 (h:Zh w b P lk s va vp vl F) (hfit:ZQ s n m) (hE:Env w) {i p:Nat} (hp:P.fps[i]? =some p) (hf:s.all[i]? =some f):
  Calls Tryz.prog 76 #[.pointer (some ⟨b,0,none⟩), .pointer (some ⟨p,0,none⟩)] w fun e w'=>e= .returned (.bool (ZgO s f))∧Zg [] w w':=by
 obtain⟨R,hR⟩:=Je (ZgO s f)
 rw[←hR]
 obtain⟨w1,E⟩:=Je w.drew
 have H:=Jd E
 have I:=h.upd0 H
 have aj:=hE.upd0 H
 obtain⟨g,ai,ak,lb,vb,Z⟩:=I.req hfit hp hf
 have C:=D ai
 obtain⟨S,K⟩:∃S:World→Prop,S=fun W=>W.cell? ⟨p,15,none⟩=some (.bool f.cleared)∧W.cell? ⟨p,1,none⟩=some (.string ⟨f.req.method.toArray⟩)∧W.cell? ⟨b,10,none⟩=some (.pointer (some ⟨P.cache,0,none⟩))∧W.cell? ⟨b,7,none⟩=some (.pointer (some ⟨P.clock,0,none⟩))∧Zb W p 1 (Zt f.req g):=⟨_,rfl⟩
 have ac:=D (show S w1 by rw[K];exact⟨Zf (i:=15) Z rfl,Zf (i:=1) Z rfl,Zf (i:=10) I.blk.1 rfl,Zf (i:=7) I.blk.1 rfl,ak⟩)
 have X:=D (show∀W L,S W→Zg [] W L→S L from fun W L d hu=>by
  rw[K]at d⊢
  have j:∀{x k:Nat} {v:Value},W.cell? ⟨x,k,none⟩=some v→L.cell? ⟨x,k,none⟩=some v:=fun{x k v} j=>(Xp (hu.block x (Xo _ _ j) (by simp))).trans j
  exact⟨j d.1,j d.2.1,j d.2.2.1,j d.2.2.2.1,d.2.2.2.2.upd hu⟩)
 have l:=D K
 have H1:=D I;have ap:=D aj;have ay:=D hfit
 obtain⟨cl,Y⟩:=Je f.cleared
 obtain⟨nd,V⟩:=Je (Zdr f.req)
 obtain⟨cv,O⟩:=Je (ZhI s.cache (Zdh f.req) f.req.method (ZaK f.req) s.now)
 have T:=D (show R=(!cl&&nd&& !cv)by rw[hR,Y,V,O];rfl)
 clear hR h hfit hE hp hf I aj ai ak Z K;change Hid _ at E H Y V O
 go_in
 go_upto_region 1 with fail
 rw[←Y.out]at l
 refine ZR ((0,0)::(1,0)::(2,0)::(3,0)::(4,0)::(5,0)::(6,0)::(7,0)::(8,0)::(9,0)::(10,2)::(11,0)::(12,0)::(13,0)::(14,0)::(15,0)::(16,0)::(17,0)::(18,0)::(19,0)::(20,0)::(22,0)::(23,0)::(24,0)::(25,0)::(26,0)::(27,0)::(28,0)::(29,0)::(30,0)::(32,0)::(33,0)::(34,0)::(35,0)::(21,1)::(31,1)::(36,1)::(37,2)::(38,0)::(39,0)::(40,0)::[]) (fun W=>W.cell? ⟨p,15,none⟩=some (.bool cl)∧W.cell? ⟨p,1,none⟩=some (.string ⟨f.req.method.toArray⟩)∧W.cell? ⟨b,10,none⟩=some (.pointer (some ⟨P.cache,0,none⟩))∧W.cell? ⟨b,7,none⟩=some (.pointer (some ⟨P.clock,0,none⟩))∧Zb W p 1 (Zt f.req g)) (by kernel_rfl) (by kernel_rfl) (fun c a w t v h=>by cases t<;>exact h) (by have q:=ac.out;rw[E.out,l.out]at q;exact q) ?_
 cases cl with
 |true=>
  repeat first|refine Jn ?_|refine Jf ?_|refine Ju ?_
  refine JL ?_
  simp only[Xu]
  rw[←E.out]
  go_wp2_with fail
  refine⟨fun _=>True,trivial,?_⟩
  repeat first|refine Jn ?_|refine Jf ?_|refine Ju ?_
  refine JE ?_
  go_wp2_with fail
  refine⟨_,fun W d=>d,trivial,?_⟩
  refine JE ?_
  go_wp2_with fail
  refine⟨_,fun W d=>d,trivial,?_⟩
  refine JE ?_
  go_wp2_with fail
  refine⟨_,fun W d=>d,trivial,?_⟩
  refine JL ?_
  go_wp2_with fail
  refine⟨fun _=>True,trivial,?_⟩
  repeat first|refine Jn ?_|refine Jf ?_|refine Ju ?_
  refine ZK ?_
  go_wp2_with fail
  go_ret
  exact⟨by rw[T.out];rfl,H.out⟩
 |false=>
  repeat first|refine Jn ?_|refine Jf ?_|refine Ju ?_
  apply ZbP (t:= 35) (x:= .tmp 13) (b:=p) (of:=1) (cs:=Zt f.req g)
  case ho=>simp only[Xh,Xf,Xg];rfl
  case hg=>rfl
  case hop=>rfl
  case hx=>rfl
  case ht=>exact Yh
  case hb=>exact fun W d=>d.2.2.2.2
  case ha=>go_simp;rfl
  refine JL ?_
  simp only[Xu]
  rw[←E.out]
  go_wp2_with fail
  have q1:=Zg1 f.req g w1 C ap.out
  rw[←V.out]at q1
  refine q1.mono ?_
  rintro e w2 ⟨rfl,y⟩
  have af:=D (X.out _ _ ac y)
  have ah:=Jt H y
  have al:=D (ap.upd0 y)
  have aa:=D (C.upd0 y)
  have H2:=D (H1.upd0 y)
  clear q1 y
  cases nd with
  |false=>
   go_wp2_with fail
   refine⟨fun _=>True,trivial,?_⟩
   repeat first|refine Jn ?_|refine Jf ?_|refine Ju ?_
   refine JE ?_
   go_wp2_with fail
   refine⟨_,fun W d=>d,trivial,?_⟩
   refine JE ?_
   go_wp2_with fail
   refine⟨_,fun W d=>d,trivial,?_⟩
   refine JE ?_
   go_wp2_with fail
   refine⟨_,fun W d=>d,trivial,?_⟩
   refine JL ?_
   go_wp2_with fail
   refine⟨fun _=>True,trivial,?_⟩
   repeat first|refine Jn ?_|refine Jf ?_|refine Ju ?_
   refine ZK ?_
   go_wp2_with fail
   go_ret
   exact⟨by rw[T.out];rfl,ah.out⟩
  |true=>
   go_wp2_with fail
   refine⟨fun W=>W.cell? ⟨p,15,none⟩=some (.bool false)∧W.cell? ⟨p,1,none⟩=some (.string ⟨f.req.method.toArray⟩)∧W.cell? ⟨b,10,none⟩=some (.pointer (some ⟨P.cache,0,none⟩))∧W.cell? ⟨b,7,none⟩=some (.pointer (some ⟨P.clock,0,none⟩))∧Zb W p 1 (Zt f.req g),(by have q:=af.out;rw[l.out]at q;exact q),?_⟩
   repeat first|refine Jn ?_|refine Jf ?_|refine Ju ?_
   apply ZbP (t:= 35) (x:= .tmp 24) (b:=p) (of:=1) (cs:=Zt f.req g)
   case ho=>simp only[Xh,Xf,Xg];rfl
   case hg=>rfl
   case hop=>rfl
   case hx=>rfl
   case ht=>exact Yh
   case hb=>exact fun W d=>d.2.2.2.2
   case ha=>go_simp;rfl
   repeat first|refine Jn ?_|refine Jf ?_|refine Ju ?_
   apply ZbP (t:= 35) (x:= .tmp 34) (b:=p) (of:=1) (cs:=Zt f.req g)
   case ho=>simp only[Xh,Xf,Xg];rfl
   case hg=>rfl
   case hop=>rfl
   case hx=>rfl
   case ht=>exact Yh
   case hb=>exact fun W d=>d.2.2.2.2
   case ha=>go_simp;rfl
   repeat first|refine Jn ?_|refine Jf ?_|refine Ju ?_
   refine JE ?_
   go_wp2_with fail
   refine(ZiC f.req g w2 aa al).mono ?_
   rintro e w3 ⟨rfl,z⟩
   have an:=D (X.out _ _ af z)
   have ax:=Jt ah z
   have aw:=D (al.upd0 z)
   have aq:=D (aa.upd0 z)
   have H3:=D (H2.upd0 z)
   clear z
   go_wp2_with fail
   refine⟨_,fun W d=>d,(by have q:=an.out;rw[l.out]at q;exact q),?_⟩
   refine JE ?_
   go_wp2_with fail
   refine(ZgA f.req g w3 aq aw).mono ?_
   rintro e w4 ⟨vn,M,rfl,ao,ar,J⟩
   obtain⟨A4,c4,rfl,_,ae⟩:=ao.strs
   have am:=D (X.out _ _ an J)
   have av:=Jt ax J
   have ag:=D ae
   have H4:=D (H3.upd0 J)
   clear J ao ar ae
   obtain⟨ns,o⟩:=Je (ZaK f.req)
   rw[←o]at ag⊢
   obtain⟨ln,Q⟩:=Je ns.length
   rw[←Q]
   change Hid _ at o Q
   go_wp2_with fail
   refine⟨_,fun W d=>d,(by have q:=am.out;rw[l.out]at q;exact q),?_⟩
   refine JE ?_
   go_wp2_with fail
   refine(Zbm H4.clock.1).mono ?_
   rintro e W ⟨rfl,d⟩
   rw[d]
   clear d W
   go_wp2_with fail
   refine⟨_,fun W d=>d,(by have q:=am.out;rw[l.out]at q;exact q),?_⟩
   refine JL ?_
   go_wp2_with fail
   obtain⟨G,ad,_,_⟩:=H4.cache
   have N:=Zfz (r:=f.req) (fun x hx=>(C.few x hx).1) C.n
   rw[Q.out]
   have q5:=ZkF ad (Zdh f.req) f.req.method (by have:=C.m;omega) A4 c4 ns ag (by rw[o.out];have:=N.1;omega) (fun n hn=>by rw[o.out]at hn;have:=N.2.1 n hn;omega) s.now
   rw[o.out,←O.out,←o.out]at q5
   refine q5.mono ?_
   rintro e w6 ⟨rfl,ab⟩
   have au:=Jt av ab
   clear ab q5 N ad
   go_wp2_with fail
   refine⟨fun _=>True,trivial,?_⟩
   repeat first|refine Jn ?_|refine Jf ?_|refine Ju ?_
   refine ZK ?_
   go_wp2_with fail
   go_ret
   exact⟨by rw[T.out];rfl,au.out⟩
end
section
variable {w:World} {b:Nat} {P:Ym} {lk:Option Nat} {s:Ze} {va vp vl:Value} {F:List Nat}
theorem ZpG (h:Zh w b P lk s va vp vl F) (hfit:ZQ s n m) (hn:n≤900000) (q:Zdz) (id:Int) (hid:1≤id):
  Calls Tryz.prog 148 #[.pointer (some ⟨P.shares,0,none⟩), .agg (Zae q).toArray, .int .i64 id] w fun e w'=>∃(c:Int) (F1:List Nat),e= .returned (.tuple #[.int .i64 (Zag s q id).2.1, .bool (Zag s q id).2.2, .int .i64 c])∧Zh w' b P lk (Zag s q id).1 va vp vl F1∧Zi w w' F F1:=by
 obtain⟨a,G,d,hg,X,M⟩:=h.shares
 have W:a.length=s.shares.length:=by rw[←d,Xb]
 have Y:=hfit.sn
 have x:a.length≤1000000:=by omega
 have L:ZcE a=(s.shares.map (·.members.length)).sum:=by unfold ZcE;rw[←d,List.map_map];rfl
 have Z:=hfit.sh
 have C:∀p∈a,p.2.members.length≤1000000:=fun p I=>by
  have V:p.2∈s.shares:=by rw[←d];exact List.mem_map_of_mem I
  have:=Zf4 V;omega
 have K:a.any (fun p=>p.2.members.contains id)=s.shares.any (fun o=>o.members.contains id):=by rw[←d,List.any_map];rfl
 by_cases j:id<1∨s.shares.any (fun o=>o.members.contains id)=true∨64≤(s.shares.map (·.members.length)).sum
 ·have r:Zag s q id=(s,0,false):=by unfold Zag;rw[if_pos j]
  rw[r]
  refine(Ziv hg x C (by omega) q id hid ?_).mono ?_
  ·rw[K,L]
   rcases j with g|g|g
   ·omega
   ·exact .inl g
   ·exact .inr g
  ·rintro e w' ⟨c,rfl,Q⟩
   exact⟨c,F,rfl,h.upd0 Q,⟨Q.weaken (by simp),fun k T=> .inl T⟩⟩
 ·have N:a.findIdx? (fun p=>p.2.members.contains id)=none:=by
   rw[List.findIdx?_eq_none_iff]
   intro p I
   have g:s.shares.any (fun o=>o.members.contains id)=false:=by
    cases hc:s.shares.any (fun o=>o.members.contains id)with
    |false=>rfl
    |true=>exact absurd (.inr (.inl hc)) j
   rw[←K,List.any_eq_false]at g
   simpa using g p I
  have J:ZcE a<64:=by rw[L];omega
  have O:a.findIdx? (fun p=>p.2.want==q)=s.shares.findIdx? (fun o=>o.want==q):=by rw[←d,List.findIdx?_map];rfl
  cases hq:s.shares.findIdx? (fun o=>o.want==q)with
  |some k=>
   obtain⟨o,ho,_,_⟩:=Zjy hq
   obtain⟨i,R,S⟩:∃i,a[k]? =some i∧i.2=o:=by
    have e:=congrArg (fun l=>l[k]?) d
    rw[ho]at e
    simp only[Xe,Option.map_eq_some_iff]at e
    exact e
   subst S
   have r:Zag s q id=({s with shares:=s.shares.set k {i.2 with members:=i.2.members++[id]}},i.2.num,false):=by
    unfold Zag;rw[if_neg j,hq];dsimp only;rw[ho]
   rw[r]
   refine(Ziq hg x C q id hid N J (O.trans hq) R).mono ?_
   rintro e w' ⟨c,rfl,_,v,F1,y,z⟩
   obtain⟨H,t,E⟩:=M w' _ s.slast _ y z
   rw[List.map_set,d]at t
   exact⟨c,H,rfl,t,E⟩
  |none=>
   have r:Zag s q id=({s with shares:=s.shares++[⟨s.slast+1,q,[id]⟩],slast:=s.slast+1},s.slast+1,true):=by
    unfold Zag;rw[if_neg j,hq]
   rw[r]
   refine(Zh3 hg x C q id hid N J (O.trans hq) hfit.sl.1 (by have:=hfit.sl.2;omega)).mono ?_
   rintro e w' ⟨c,rfl,_,v,F1,y,z⟩
   obtain⟨H,t,E⟩:=M w' _ _ _ y z
   rw[Xs,d]at t
   exact⟨c,H,rfl,t,E⟩
theorem Zh.addPres (h:Zh w b P lk s va vp vl F) {wa:World} {fb:Nat} (hu:Zg [] w wa) (hfb:wa.heap[fb]? =some (.cells (ZbE x).toArray 255 (0,0))) (hn:w.heap.size≤fb):
  ∃G,Zk 152 1 vp (P.qps.map Zc6) wa G∧(∀k∈G,k∈F)∧b∉G∧(∀(i p:Nat) (f:ZC),P.fps[i]? =some p→s.all[i]? =some f→p∉G)∧∀(w1 w2:World) (vp':Value) (G1:List Nat),Zk 152 1 vp' ((P.qps++[fb]).map Zc6) w1 G1→Zi wa w1 G G1→
   w2.heap[b]? =some (.cells (YZ s P va vp' vl).toArray 77 (0,0))→Zg [b] w1 w2→∃F1,Zh w2 b {P with qps:=P.qps++[fb]} lk {s with pres:=s.pres++[x]} va vp' vl F1∧Zi w w2 F F1:=by
 obtain⟨a,n,d⟩:=h.lay
 have A:=Yc b P lk s va vp vl
 have L:=h.lt
 have ab:a.length=15:=by rw[d.len];simp[ZV]
 have o:=Xa (l:=a) (i:=0) (by omega)
 have g:=Xa (l:=a) (i:=2) (by omega)
 have m:=Xa (l:=a) (i:=14) (by omega)
 obtain⟨C,_⟩:=d.lies 0 _ _ rfl o
 have Z:=d.lies 2 _ _ rfl g
 obtain⟨e,y,Q⟩:=d.lies 14 _ _ rfl m
 have aa:fb<wa.heap.size:=(Jg hfb)
 have M:=(Zc _ _ _ _).upd Z hu
 have z:=Xa (l:=a) (i:=13) (by omega)
 have N:∀(i p:Nat) (f:ZC),P.fps[i]? =some p→s.all[i]? =some f→p∉a[2]:=fun i p f hp V j=>by
  obtain⟨ac,G3,e3,_,_,E,h4⟩:=YD.list_get (d.lies 13 _ _ rfl z) (Zfn (lk:=lk) hp V)
  obtain⟨vh,lb,vb,Gh,Gb,rfl,_⟩:=E
  exact d.apart 2 13 _ _ g z (by omega) p j (h4 p (by simp))
 refine⟨a[2],M,fun k c=>by rw[n];exact Zr g c,fun j=>d.apart 0 2 _ _ o g (by omega) b (by rw[C];simp) j,N,fun w1 w2 vp' G1 W hg hb T=> ?_⟩
 have I:=Q.upd (Zbk _ _) hu (fun k _ c=>by cases c)
 have O:Z8 e.flatten [fb]:=fun k c j=>by
  have X:k∈a[14]:=by rw[y];exact c
  have E:=L k (by rw[n];exact Zr m X)
  simp at j;omega
 have Y:=Lays.join I (A1:=ZcI fb x) (F1:=[fb]) ⟨rfl,hfb⟩ O
 have K:YD.list (YI (P.qps++[fb]) (s.pres++[x])) wa (e++[[fb]]).flatten:=⟨_,rfl,by rw[Zlm h.ql];exact Y⟩
 have s0:=d.step A m (A1:=YD.list (YI (P.qps++[fb]) (s.pres++[x]))) (w1:=wa) (F1:=(e++[[fb]]).flatten) K ⟨hu.weaken (by simp),fun k c=>by
  simp only[List.flatten_append,List.mem_append,List.flatten_cons,List.flatten_nil,List.append_nil,List.mem_singleton]at c
  rcases c with c|rfl
  ·exact .inl (by rw[y];exact c)
  ·exact .inr hn⟩
 have q:=ZdR A (YD.list_local (Zbk (P.qps++[fb]) (s.pres++[x]))) 14
 have R:(a.set 14 (e++[[fb]]).flatten)[2]? =some a[2]:=by rw[Xt (by omega),g]
 have s1:=s0.1.step q R W hg
 have J:=ZdR q (Zc 152 1 vp' ((P.qps++[fb]).map Zc6)) 2
 have S:((a.set 14 (e++[[fb]]).flatten).set 2 G1)[0]? =some [b]:=by rw[Xt (by omega),Xt (by omega),o,C]
 have s2:=s1.1.step J S (A1:=Zaz b (YZ s P va vp' vl).toArray 77) ⟨rfl,hb⟩ (Zi.of_upd T)
 have r:Zi w w2 F (((a.set 14 (e++[[fb]]).flatten).set 2 G1).set 0 [b]).flatten:=by rw[n];exact(s0.2.trans s1.2).trans s2.2
 refine⟨(((a.set 14 (e++[[fb]]).flatten).set 2 G1).set 0 [b]).flatten,⟨⟨_,rfl,s2.1⟩,h.fl,?_,fun k c=> ?_⟩,r⟩
 ·show(P.qps++[fb]).length=(s.pres++[x]).length
  rw[Xd,Xd,h.ql];rfl
 ·rcases r.new k c with H|H
  ·exact h.two k H
  ·have h7:=h.two b h.blk.2;have h8:=h.lt b h.blk.2;omega
end
end Go.Proofs.YtlhapbopmplngaaGreatDoor
namespace Go.Lk
theorem Zjo (s:Ze) (q:Zdz) (id:Int):(Zag s q id).1.all=s.all∧(Zag s q id).1.now=s.now∧(Zag s q id).1.pres=s.pres∧(Zag s q id).1.queue=s.queue∧(Zag s q id).1.conf=s.conf:=by
 unfold Zag
 split
 ·exact⟨rfl,rfl,rfl,rfl,rfl⟩
 ·split
  ·split<;>exact⟨rfl,rfl,rfl,rfl,rfl⟩
  ·exact⟨rfl,rfl,rfl,rfl,rfl⟩
theorem Zq8 {s:Ze} {k:Nat} (hf:s.all[k]? =some f) (hid:f.id=(k:Int)+1) (i:ZL) {j:Ze} {n:Int} {fresh:Bool} (hj:Zag s (ZbT f.req) f.id=(j,n,fresh)):
  holdS s f i=(let s1:=ZI {j with all:=j.all.set k {f with state:=goL f.state 3,pre:=n}} 3 f.id n 0 0
   if fresh then{s1 with pres:=s1.pres++[⟨n,f.id,0,f.key⟩],queue:=putQ s1.queue {i with pre:=n,since:=s1.now}}else s1):=by
 unfold holdS
 rw[hj]
 dsimp only
 have a:j.all[k]? =some f:=by
  have:=(Zjo s (ZbT f.req) f.id).1
  rw[hj]at this
  dsimp only at this
  rw[this];exact hf
 have e:=YQ a (fun f=>{f with state:=goL f.state 3,pre:=n})
 rw[←hid]at e
 rw[e]
end Go.Lk
namespace Go.Proofs.YtlhapbopmplngaaGreatDoor
open Go.RowKit Go.Lk
section
variable {w:World} {b:Nat} {P:Ym} {lk:Option Nat} {s:Ze} {va vp vl:Value} {F:List Nat}
theorem Znj (h:Zh w b P lk s va vp vl F) (hfit:ZQ s n m) (hE:Env w) (hn:n≤800000) {k p:Nat} (hp:P.fps[k]? =some p) (hf:s.all[k]? =some f) (hid:f.id=(k:Int)+1) (i:ZL):
  Calls Tryz.prog 77 #[.pointer (some ⟨b,0,none⟩), .pointer (some ⟨p,0,none⟩), .agg #[.int .i64 i.id, .int .i64 i.cls, .int .u64 i.since, .string ⟨i.key.toArray⟩, .int .i64 i.pre]] w (ZjB b P lk (holdS s f i) va w F):=by
 obtain⟨R,hR⟩:=Je (holdS s f i)
 rw[←hR]
 obtain⟨w1,aG,bl⟩:=Kb w (.cells #[.int .i64 i.id, .int .i64 i.cls, .int .u64 i.since, .string ⟨i.key.toArray⟩, .int .i64 i.pre] 144)
 have bB:=h.lt
 obtain⟨L,HL⟩:=Je w.heap.size
 have aO:Own w1 L #[.int .i64 i.id, .int .i64 i.cls, .int .u64 i.since, .string ⟨i.key.toArray⟩, .int .i64 i.pre] 144 F:=⟨by rw[aG,HL];exact Za _,fun hm=>by have:=bB L hm;omega⟩
 obtain⟨w2,S⟩:=Je w1.drew
 have am:Zg [] w w2:=by rw[S];exact bl.drew
 have Y:=h.upd0 am
 have br:=aO.upd0 (show Zg [] w1 w2 by rw[S];exact(Zg.refl [] w1).drew)
 have bk:=hE.upd0 am
 obtain⟨vh,bf,bA,lb,vb,bo⟩:=Y.req hfit hp hf
 have aK:=Jx 14 Y.blk.1
 have x:=Jx 0 bo
 have bT:=D (Zp8 f.req vh w2 bf bk)
 obtain⟨j,HJ⟩:=Je (Zag s (ZbT f.req) f.id)
 have an:=D (Zjo s (ZbT f.req) f.id)
 have O:=D (ZjN hfit (ZbT f.req) f.id)
 rw[←HJ]at an O
 obtain⟨Z,d,jf⟩:=j
 have bu:=D (hR.trans (Zq8 hf hid i HJ.symm))
 dsimp only at an O
 have bz:=D bA
 have H2:=D Y;have b8:=D br;have a0:=D hfit;have y:=D hp;have HF:=D hf;have cf:=D hid
 clear hR bl bB aO Y br bk bf bo hfit h hp hf hid hE bA;change Hid _ at HJ aG S HL am
 go_in
 go_upto_region 1 with fail
 rw[←aG.out,←HL.out]
 refine ZR ((0,0)::(1,0)::(2,0)::(3,0)::(4,0)::(5,0)::(6,0)::(7,0)::(9,0)::(10,0)::(11,0)::(12,0)::(8,1)::(13,2)::(14,0)::(15,0)::(16,0)::(17,0)::(18,0)::(19,0)::(20,0)::[]) (fun W=>W.cell? ⟨b,14,none⟩=some (.pointer (some ⟨P.shares,0,none⟩))∧W.cell? ⟨p,0,none⟩=some (.int .i64 f.id)∧Zb W p 1 (Zt f.req vh)) (by kernel_rfl) (by kernel_rfl) (fun c a w t v h=>by cases t<;>exact h) (by have q:=bz.out;rw[S.out]at aK x q;exact⟨aK,x,q⟩) ?_
 repeat first|refine Jn ?_|refine Jf ?_|refine Ju ?_
 refine JO (cs:=Zt f.req vh) Yh (fun W g=>g.2.2) ?_
 repeat first|refine Jn ?_|refine Jf ?_|refine Ju ?_
 refine JE ?_
 simp only[Xu]
 rw[←S.out]
 go_wp2_with fail
 refine bT.out.mono ?_
 rintro e w3 ⟨rfl,Q⟩
 have T:=H2.upd0 Q
 have H3:=D T
 have bY:=D (b8.upd0 Q)
 have b2:=Jt am Q
 obtain⟨ck,_,_,ch,co,aP⟩:=T.req a0 y HF.out
 have aW:=Jx 14 T.blk.1
 have bj:=Jx 0 aP
 have bM:=D (bz.upd Q)
 clear T Q aP aK x
 go_wp2_with fail
 refine⟨_,fun W g=>g,⟨aW,bj,bM.out⟩,?_⟩
 refine JL ?_
 go_wp2_with fail
 have q4:=ZpG H3 a0 (by omega) (ZbT f.req) f.id (by rw[cf.out];omega)
 rw[←HJ.out]at q4
 refine q4.mono ?_
 rintro e w4 ⟨cj,F4,rfl,h4,g4⟩
 dsimp only at h4⊢
 have ai:Z.all[k]? =some f:=by rw[an.out.1];exact HF.out
 obtain⟨cz,b3,be,aS⟩:=h4.life y ai
 have bS:=D be;have bE:=D aS
 have b5:=D (bY.step g4);have G4:=D (g4.pre0 b2)
 clear q4 h4 g4 be aS aW bj;change Hid _ at ai
 go_wp2_with fail
 refine⟨fun _=>True,trivial,?_⟩
 repeat first|refine Jn ?_|refine Jf ?_|refine Ju ?_
 refine ZK ?_
 go_wp2_with fail
 refine(ZcK bS 3).mono ?_
 rintro e w5 ⟨rfl,bi,bd⟩
 obtain⟨F5,h5,g5⟩:=bE.out w5 _ bi bd
 have av:=ZM (f':={f with state:=goL f.state 3}) ai.out
 obtain⟨ci,cl,cy,bm,_⟩:=h5.fcell y av
 have b0:=Jx 16 bm
 obtain⟨b6,F6,V,g6⟩:=h5.setFCell y av 16 (.int .i64 d) {f with state:=goL f.state 3,pre:=d} (fun _ _ _ _=>rfl) rfl rfl rfl
 rw[List.set_set]at V
 obtain⟨w6,aH⟩:=Je (w5.setCell ⟨p,16,none⟩ (.int .i64 d))
 rw[←aH]at V g6
 have aC:=ZM (f':={f with state:=goL f.state 3,pre:=d}) ai.out
 obtain⟨cA,cB,cx,bg,_⟩:=V.fcell y aC
 have ce:=Jx 0 bg
 have H6:=D V;have G6:=D ((G4.trans g5).trans g6);have bV:=D ((b5.step g5).step g6);have bU:=D aC
 clear h5 g5 V g6 bi bd av bm aC bg b3;change Hid _ at aH
 go_upto_region 4 with fail
 rw[←aH.out]
 go_wp2_with fail
 refine(Y0 H6 (by have:=O.log;dsimp only;omega) _ _ _ _ _ _ _).mono ?_
 rintro e w7 ⟨rfl,cg,F7,h7,g7⟩
 have X:=D h7;have G7:=D (G6.trans g7);have bO:=D (bV.step g7)
 clear h7 g7 b0 b6 ce
 cases jf with
 |false=>
  go_wp2_with fail
  (try simp only[Exit.inBlock,Exit.then])
  first|refine bodyPost_ret (results_none rfl _ _ _) rfl ?_|refine bodyPost_end (results_none rfl _ _ _) rfl ?_
  have er:R=ZI {Z with all:=Z.all.set k {f with state:=goL f.state 3,pre:=d}} 3 f.id d 0 0:=bu.trans rfl
  rw[er]
  exact⟨rfl,P.qps,vp,cg,F7,X.out,G7.out⟩
 |true=>
  obtain⟨l,I⟩:=Je (ZI {Z with all:=Z.all.set k {f with state:=goL f.state 3,pre:=d}} 3 f.id d 0 0)
  have HE:=D (show R={l with pres:=l.pres++[⟨d,f.id,0,f.key⟩],queue:=putQ l.queue {i with pre:=d,since:=l.now}}by rw[bu.out,I];rfl)
  have aw:=D (show l.all[k]? =some {f with state:=goL f.state 3,pre:=d}by rw[I];exact bU)
  have b9:=D (show l.queue.length≤1000000 by rw[I];exact Xj O.q (by omega))
  have bp:=D (show l.pres.length≤900000 by rw[I];exact Xj O.pres (by omega))
  rw[←I]at X
  clear I
  go_upto_region 6 with fail
  obtain⟨w8,al⟩:=Je w7.drew
  have ah:=Jd al
  have r:=X.upd0 ah
  obtain⟨Gv,bn,_⟩:=r.rowPres
  obtain⟨Av,cv,a9,_⟩:=bn.form'
  rw[Xb,r.ql]at a9
  subst a9
  obtain⟨N,HN⟩:=Je l.pres.length
  rw[←HN]at r X bp
  obtain⟨ct,cn,cw,aJ,_⟩:=r.fcell y aw.out
  have ax:=Jx 18 r.blk.1
  have x:=Jx 0 aJ
  have M:=Jx 11 aJ
  obtain⟨z,ar,E⟩:=Kb w8 (.cells #[.int .i64 d, .int .i64 f.id, .int .i64 0, .string ⟨f.key.toArray⟩] 255)
  obtain⟨fb,aj⟩:=Je w8.heap.size
  have aR:z.heap[fb]? =some (.cells (ZbE ⟨d,f.id,0,f.key⟩).toArray 255 (0,0)):=by rw[ar,aj];exact Za _
  obtain⟨G,bs,bh,bw,a5,a2⟩:=r.addPres E aR (by rw[aj];exact Xi _)
  obtain⟨w9,aD,H⟩:=Kb z (.cells #[.pointer (some ⟨fb,0,none⟩)] 152)
  have aV:Zb w9 z.heap.size 0 (Zc6 fb):=by rw[aD];exact Zb.of_block (w:=z.alloc _) (Za _)
  have bx:=(Zc _ _ _ _).upd bs H
  have aB:=(Kv (E.trans H) r.blk.1)
  have a6:=Kv E r.blk.1
  have aT:=Jx 18 a6
  have a1:=Jx 18 aB
  have az:∀(W:World),Zg [] w8 W→W.cell? ⟨p,0,none⟩=some (.int .i64 f.id)∧W.cell? ⟨p,11,none⟩=some (.string ⟨f.key.toArray⟩):=fun W g=>⟨(Xp (g.block p (Xo _ _ x) (by simp))).trans x,(Xp (g.block p (Xo _ _ M) (by simp))).trans M⟩
  have HA:=D (az z E);have J:=D (az w9 (E.trans H))
  have H8:=D r;have cb:=D ah;have bZ:=D bx;have bH:=D aV;have bI:=D a2;have cd:=D bw;have b1:=D aB;have cu:=D bh;have cc:=D (a5 k p _ y aw)
  have bW:=D (bO.upd0 ah)
  have cm:=D (show p∈F7 from(X.fcell y aw).choose_spec.choose_spec.choose_spec.2)
  clear ah r bn aJ E aR bs bh bw a2 a5 aV bx aB a6 az;change Hid _ at al ar aj aD H HN
  refine ZR ((0,0)::(1,0)::(2,0)::(3,0)::(4,0)::(5,0)::(6,0)::(7,0)::(8,0)::(9,0)::(10,0)::(11,0)::(12,0)::(13,0)::(14,0)::(15,1)::(16,1)::(17,1)::(18,0)::(19,0)::(20,2)::[]) (fun W=>W.cell? ⟨b,18,none⟩=some (.slice Av N cv)∧W.cell? ⟨p,0,none⟩=some (.int .i64 f.id)∧W.cell? ⟨p,11,none⟩=some (.string ⟨f.key.toArray⟩)) (by kernel_rfl) (by kernel_rfl) (fun c a w t v h=>by cases t<;>exact h) (by rw[al.out]at ax x M;exact⟨ax,x,M⟩) ?_
  repeat first|refine Jn ?_|refine Jf ?_|refine Ju ?_
  refine JE ?_
  simp only[Xu]
  rw[←al.out]
  go_wp2_with fail
  rw[←ar.out,←aj.out]
  refine⟨_,fun W g=>g,⟨aT,HA.out.1,HA.out.2⟩,?_⟩
  refine JE ?_
  go_wp2_with fail
  rw[←aD.out]
  refine⟨_,fun W g=>g,⟨a1,J.out.1,J.out.2⟩,?_⟩
  refine JE ?_
  refine Zm w9 rfl (.tmp 49) (.tmp 61) 70 rfl 152 Tryz.underlying70 Zpd rfl (by omega) (by omega) _ (P.qps.map Zc6) G rfl bZ z.heap.size 1 (Zc6 fb) rfl bH rfl (by intro u hu;rw[Jm hu];rfl) (by rw[Xb];have h1:=H8.ql;have Y:=bp.out;have T:=HN.out;omega) ?_
  intro v' C G' au K a3
  obtain⟨A',c',aF,_⟩:=au.form'
  rw[Xd,Xb,List.length_singleton]at aF
  have eN:P.qps.length=N:=by rw[H8.ql,HN.out]
  rw[eN]at aF
  subst aF
  have ac:=Kv K b1 cd
  have a8:=Jx 18 ac
  have bX:=Kf 18 ac
  have aI:p∉G:=cc.out
  have aQ:C.cell? ⟨p,0,none⟩=some (.int .i64 f.id)∧C.cell? ⟨p,11,none⟩=some (.string ⟨f.key.toArray⟩):=⟨(Xp (K.block p (Xo _ _ J.out.1) aI)).trans J.out.1,(Xp (K.block p (Xo _ _ J.out.2) aI)).trans J.out.2⟩
  have aZ:=D aQ
  have bG:=D au;have bN:=D K;have bF:=D a3
  clear au K a3 aQ aI eN;change Hid _ at ac
  go_wp2_with fail
  refine⟨_,fun W g=>g,⟨a8,aZ.out.1,aZ.out.2⟩,?_⟩
  repeat first|refine Jn ?_|refine Jf ?_|refine Ju ?_
  refine JL ?_
  go_wp2_with fail
  refine Jz ?_
  obtain⟨ag,ae⟩:=Je (C.setCell ⟨b,18,none⟩ (.slice A' (N+1) c'))
  have aL:Zi z C G G':=⟨(H.weaken (by simp)).trans bN (fun a ha=> .inr ha),fun a ha=>by
   rcases bF a ha with h1|h1
   ·exact .inl h1
   ·exact .inr (by have:=H.size;omega)⟩
  obtain⟨ay,ak,aE⟩:=bI.out C ag (.slice A' (N+1) c') G' (by rw[Xs];exact bG) aL (by rw[ae,Zd ac.out];rfl) (by rw[ae];exact(Zg.refl [b] C).setCell (.inr (by simp)) _)
  have o:=bW.step aE
  have bK:=Jx 7 ak.blk.1
  obtain⟨bq,ad⟩:=Je (ag.setCell ⟨L,4,none⟩ (.int .i64 d))
  obtain⟨ba,ab⟩:=Je (bq.setCell ⟨L,2,none⟩ (.int .u64 (l.now:Int)))
  have ap:=Kd ad
  have ao:=Kd ab
  have aU:Own bq L #[.int .i64 i.id, .int .i64 i.cls, .int .u64 i.since, .string ⟨i.key.toArray⟩, .int .i64 d] 144 ay:=⟨by rw[ad,Zd o.blk];rfl,o.off⟩
  have aM:Own ba L #[.int .i64 i.id, .int .i64 i.cls, .int .u64 l.now, .string ⟨i.key.toArray⟩, .int .i64 d] 144 ay:=⟨by rw[ab,Zd aU.blk];rfl,o.off⟩
  have bb:=(ak.other ap o.off).other ao o.off
  have l4:ag.cell? ⟨L,4,none⟩=some (.int .i64 i.pre):=o.cell rfl
  have bR:=Kf 4 o.blk
  have l2:ag.cell? ⟨L,2,none⟩=some (.int .u64 i.since):=o.cell rfl
  have bQ:=Kf 2 o.blk
  obtain⟨bC,aa⟩:=Je ba.drew
  have af:=Jd aa
  have aA:=bb.upd0 af
  have a4:=aM.upd0 af
  have aq:=Jx 9 aA.blk.1
  have bD:=D (show Zb bC L 0 (ZH {i with pre:=d,since:=l.now})from Zb.of_block a4.blk)
  obtain⟨GQ,a7,_,aN⟩:=aA.queue
  have bP:=D a7;have bL:=D aN
  have ca:=D ak.clock.1
  have bt:=D (show w.heap.size≤L by rw[HL.out];exact Xi _)
  have b4:=D (show Zi w bC F ay from by
   have ga:=(G7.upd0 cb).trans aE
   exact⟨((ga.upd.trans ap (fun a ha=> .inl (by rw[Jm ha];exact bt))).trans ao (fun a ha=> .inl (by rw[Jm ha];exact bt))).trans af,ga.new⟩)
  clear aL ak aE o ap ao aU aM bb af aA a4 a7 aN ax x M aT a1 a8 bX;change Hid _ at ae ad ab aa
  go_upto_region 7 with fail
  rw[←ae.out]
  go_wp2_with fail
  refine(Zbm ca).mono ?_
  rintro e W ⟨rfl,g⟩
  rw[g]
  clear g W
  go_upto_region 8 with fail
  rw[←ad.out,←ab.out]
  refine Jr [0,4,8,12,16,22] (fun W=>W.cell? ⟨b,9,none⟩=some (.pointer (some ⟨P.queue,0,none⟩))∧Zb W L 0 (ZH {i with pre:=d,since:=l.now})) (by have q:=bD.out;rw[aa.out]at aq q;exact⟨aq,q⟩) ?_
  repeat first|refine Jn ?_|refine Jf ?_|refine Ju ?_
  refine JO (cs:=ZH {i with pre:=d,since:=l.now}) Zcf (fun W g=>g.2) ?_
  refine JL ?_
  simp only[Xu]
  rw[←aa.out]
  go_wp2_with fail
  refine(ZgI bP b9 _).mono ?_
  rintro e cC ⟨cq,rfl,cr,aX,aY⟩
  obtain⟨cp,bv,bc⟩:=bL.out _ _ _ aX aY
  have b7:=D bv;have bJ:=D (b4.trans bc)
  clear aX aY bv bc bK l4 bR l2 bQ aq
  go_wp2_with fail
  refine Jz ?_
  go_wp2_with fail
  (try simp only[Exit.inBlock,Exit.then])
  first|refine bodyPost_ret (results_none rfl _ _ _) rfl ?_|refine bodyPost_end (results_none rfl _ _ _) rfl ?_
  rw[HE.out]
  exact⟨rfl,_,_,_,_,b7.out,bJ.out⟩
end
section
variable {w:World} {b:Nat} {P:Ym} {s:Ze} {va vp vl:Value} {F:List Nat}
theorem Zh.addAll (h:Zh w b P none s va vp vl F) {wA wa:World} {cs:Array Value} {FN:List Nat} (huA:Zg [b] w wA) (hbA:wA.heap[b]? =some (.cells cs 77 (0,0))) (hu:Zg [] wA wa) (hfl:Zch p f false wa FN) (hn:∀k∈FN,wA.heap.size≤k):
  ∃G,Zk 90 1 va (P.fps.map Zc6) wa G∧(∀k∈G,k∈F)∧b∉G∧(∀k∈FN,k∉G)∧∀(w1 w2:World) (va':Value) (G1:List Nat),Zk 90 1 va' ((P.fps++[p]).map Zc6) w1 G1→Zi wa w1 G G1→
   w2.heap[b]? =some (.cells (YZ {s with all:=s.all++[f]} {P with fps:=P.fps++[p]} va' vp vl).toArray 77 (0,0))→Zg [b] w1 w2→∃F1,Zh w2 b {P with fps:=P.fps++[p]} none {s with all:=s.all++[f]} va' vp vl F1∧Zi w w2 F F1:=by
 obtain⟨a,L,n⟩:=h.lay
 have J:=Yc b P none s va vp vl
 have z:=h.lt
 have ab:a.length=15:=by rw[n.len];simp[ZV]
 have r:=Xa (l:=a) (i:=0) (by omega)
 have m:=Xa (l:=a) (i:=1) (by omega)
 have I:=Xa (l:=a) (i:=13) (by omega)
 obtain⟨K,_⟩:=n.lies 0 _ _ rfl r
 have s0:=n.step J r (A1:=Zaz b cs 77) (w1:=wA) (F1:=[b]) ⟨rfl,hbA⟩ (by rw[K];exact Zi.of_upd huA)
 have y:=ZdR J (ZcP b cs 77) 0
 have A:(a.set 0 [b])[13]? =some a[13]:=by rw[Xt (by omega),I]
 have H:(a.set 0 [b])[1]? =some a[1]:=by rw[Xt (by omega),m]
 have aa:Zk 90 1 va (P.fps.map Zc6) wA a[1]:=s0.1.lies 1 _ _ rfl H
 have V:=(Zc _ _ _ _).upd aa hu
 have X:YD.list (Zbf P.fps none s.all) wA a[13]:=s0.1.lies 13 _ _ rfl A
 obtain⟨d,E,W⟩:=X
 have ac:=huA.size
 have o:∀(j:Nat) (G:List Nat),a[j]? =some G→∀k∈G,k∈F:=fun j G q k c=>by rw[L];exact Zr q c
 refine⟨a[1],V,o 1 _ m,fun g=>n.apart 0 1 _ _ r m (by omega) b (by rw[K];simp) g,fun k c g=>by have M:=hn k c;have h2:=z k (o 1 _ m k g);omega,fun w1 w2 va' G1 hr hg hb Z=> ?_⟩
 have O:=W.upd (ZcF _ _ _) hu (fun k _ c=>by cases c)
 have T:Z8 d.flatten FN:=fun k c g=>by
  have M:k∈a[13]:=by rw[E];exact c
  have h3:=z k (o 13 _ I k M)
  have h4:=hn k g
  omega
 have q:=Lays.join O (A1:=Zch p f false) (F1:=FN) hfl T
 have S:YD.list (Zbf (P.fps++[p]) none (s.all++[f])) wa (d++[FN]).flatten:=⟨_,rfl,by rw[Zmw h.fl];exact q⟩
 have s1:=s0.1.step y A (A1:=YD.list (Zbf (P.fps++[p]) none (s.all++[f]))) (w1:=wa) (F1:=(d++[FN]).flatten) S ⟨hu.weaken (by simp),fun k c=>by
  simp only[List.flatten_append,List.mem_append,List.flatten_cons,List.flatten_nil,List.append_nil]at c
  rcases c with c|c
  ·exact .inl (by rw[E];exact c)
  ·exact .inr (hn k c)⟩
 have x:=ZdR y (YD.list_local (ZcF (P.fps++[p]) none (s.all++[f]))) 13
 have R:((a.set 0 [b]).set 13 (d++[FN]).flatten)[1]? =some a[1]:=by rw[Xt (by omega),H]
 have s2:=s1.1.step x R hr hg
 have Q:=ZdR x (Zc 90 1 va' ((P.fps++[p]).map Zc6)) 1
 have Y:(((a.set 0 [b]).set 13 (d++[FN]).flatten).set 1 G1)[0]? =some [b]:=by
  rw[Xt (by omega),Xt (by omega),List.getElem?_set_self (by omega)]
 have s3:=s2.1.step Q Y (A1:=Zaz b (YZ {s with all:=s.all++[f]} {P with fps:=P.fps++[p]} va' vp vl).toArray 77) ⟨rfl,hb⟩ (Zi.of_upd Z)
 have C:Zi w w2 F ((((a.set 0 [b]).set 13 (d++[FN]).flatten).set 1 G1).set 0 [b]).flatten:=by rw[L];exact((s0.2.trans s1.2).trans s2.2).trans s3.2
 refine⟨_,⟨⟨_,rfl,?_⟩,?_,h.ql,fun k c=> ?_⟩,C⟩
 ·have e:=s3.1
  exact e
 ·show(P.fps++[p]).length=(s.all++[f]).length
  rw[Xd,Xd,h.fl];rfl
 ·rcases C.new k c with N|N
  ·exact h.two k N
  ·have h7:=h.two b h.blk.2;have h8:=h.lt b h.blk.2;omega
end
def subU (s:Ze) (r:Ya) (bk:List Y4):Ze:=
 {ZI {s with book:=bk,all:=s.all++[⟨(s.all.length:Int)+1,YJ r,Zek r,1,0,0,false,0,0,none,false⟩]} 1 ((s.all.length:Int)+1) 0 0 r.cls with groups:=Zcr s.groups r.group ((s.all.length:Int)+1)}
theorem Zm2 {s:Ze} {t:List Y4×Int} (ht:t=ZbF s.book ((s.all.length:Int)+1) (Zek r) r.group) (h1:ZaZ r=0) (h2:YU s r.group=0) (h3:Zbw s r.signal=0):
  submitS s r=if t.2≠0 then(s,YM t.2)else(if r.cls≠5∧r.cls≠6 then openS (subU s r t.1) ((s.all.length:Int)+1)else subU s r t.1,⟨0,(s.all.length:Int)+1,0,[]⟩):=by
 unfold submitS
 rw[if_neg (by simp[h1]),if_neg (by simp[h2]),if_neg (by simp[h3])]
 dsimp only
 rw[ht]
 unfold ZbF
 rw[if_neg (show¬((s.all.length:Int)+1<1)by omega)]
 by_cases a:s.book.any (fun o=>o.id==(s.all.length:Int)+1)=true
 ·rw[if_pos a,if_pos a]
  exact(if_pos (by simp)).symm
 ·rw[if_neg a,if_neg a]
  unfold cntF
  by_cases b:64≤s.book.length∨24≤(s.book.filter fun o=>o.key==Zek r).length∨32≤(s.book.filter fun o=>o.group==r.group).length
  ·rw[if_pos b,if_pos b]
   exact(if_pos (by simp)).symm
  ·rw[if_neg b,if_neg b]
   refine Eq.trans ?_ (if_neg (by simp)).symm
   rfl
theorem Znf {id:Int} {key:Bs} (h:(ZbF l id key g).2≠0):(ZbF l id key g).1=l:=by
 unfold ZbF at h⊢
 split
 ·rfl
 ·split
  ·rfl
  ·split
   ·rfl
   ·rename_i c b a
    rw[if_neg c,if_neg b,if_neg a]at h
    exact absurd rfl h
theorem Zlb (h:YU s g=0):∃(k:Nat) (x:ZT),g=(k:Int)+1∧s.groups[k]? =some x∧x.torn=false:=by
 unfold YU at h
 split at h
 ·cases h
 ·rename_i a
  split at h
  ·rename_i x hx
   refine⟨(g-1).toNat,x,by omega,hx,?_⟩
   cases ht:x.torn with
   |false=>rfl
   |true=>rw[ht]at h;cases h
  ·cases h
theorem Zmz {gs:List ZT} {k n:Nat} (hx:gs[k]? =some x) (ht:x.torn=false) (hv:∀y∈gs,∀i∈y.members,1≤i∧i≤(n:Int)):Zcr gs ((k:Int)+1) ((n:Int)+1)=gs.set k {x with members:=x.members++[(n:Int)+1]}:=by
 have b:=(Jk hx)
 unfold Zcr
 rw[if_neg (by omega),show((k:Int)+1-1).toNat=k by omega,hx]
 have ho:ofG gs ((n:Int)+1)=none:=by
  unfold ofG
  rw[List.findIdx?_eq_none_iff]
  intro y a
  cases hc:y.members.contains ((n:Int)+1)with
  |false=>rfl
  |true=>
   have:=hv y a _ (List.contains_iff_mem.1 hc)
   omega
 dsimp only
 rw[ho,ht,if_neg (by simp;omega),ZlM (fun y a=>by have:=hv x (Xc hx) y a;omega)]
section
variable {w:World} {b:Nat} {P:Ym} {lk:Option Nat} {s:Ze} {va vp vl:Value} {F:List Nat}
theorem ZmZ (h:Zh w b P lk s va vp vl F) {n k:Nat} (hx:s.groups[k]? =some x) (ht:x.torn=false) (hv:∀y∈s.groups,∀i∈y.members,1≤i∧i≤(n:Int)) (hl:s.groups.length≤1000000) (hm:∀g∈s.groups,g.members.length≤1000000∧g.members.Pairwise (·<·)):
  Calls Tryz.prog 60 #[.pointer (some ⟨P.groups,0,none⟩), .int .i64 ((k:Int)+1), .int .i64 ((n:Int)+1)] w fun e w'=>e= .returned (.int .i64 0)∧∃F1,Zh w' b P lk {s with groups:=Zcr s.groups ((k:Int)+1) ((n:Int)+1)} va vp vl F1∧Zi w w' F F1:=by
 obtain⟨m,G,c,hg,I,r⟩:=h.groups
 have H:m.length=s.groups.length:=by rw[←c,Xb]
 have J:=(Jk hx)
 have a:=Xa (l:=m) (i:=k) (by omega)
 have d:(m[k]'(by omega)).2=x:=by
  have e:=congrArg (fun l=>l[k]?) c
  rw[hx]at e
  simp only[Xe,a,Option.map_some]at e
  exact Option.some.inj e
 have o:∀p∈m,p.2∈s.groups:=fun p a=>by rw[←c];exact List.mem_map.2 ⟨p,a,rfl⟩
 refine(ZnF hg (by omega) (fun p a=>(hm _ (o p a)).1) ((n:Int)+1) (by omega) (by rw[d];exact(hm x (Xc hx)).2) ?_ a (by rw[d];exact ht) (fun y j=>by rw[d]at j;have:=hv x (Xc hx) y j;omega)).mono ?_
 ·rw[List.findIdx?_eq_none_iff]
  intro y j
  cases hc:y.2.members.contains ((n:Int)+1)with
  |false=>rfl
  |true=>
   have:=hv y.2 (o y j) _ (List.contains_iff_mem.1 hc)
   omega
 ·rintro e w' ⟨rfl,v,z,t,C⟩
  obtain⟨F1,q,E⟩:=r w' _ z t C
  refine⟨rfl,F1,?_,E⟩
  rw[Zmz hx ht hv]
  rw[List.map_set,c,d]at q
  exact q
end
structure ZdU (b:Nat) (P:Ym) (va:Value) (w:World) (F:List Nat) (wr:World) (n m T g:Nat) (r0:Ze×Int) (sc:Ze) (shut:List Bs) (c:Int) (vs:Value) (q:List Nat) (vp vl:Value) (F1 M:List Nat):Prop where
 at_:Zh wr b {P with qps:=q} none sc va vp vl F1
 grows:Zi w wr F F1
 r:Zds n m T g r0 sc shut c
 env:Env wr
 sl:Z9 vs shut wr M
 ap:∀k∈F1,k∉M
 mn:∀k∈M,w.heap.size≤k
def Zp9 (b:Nat) (P:Ym) (va:Value) (w:World) (F:List Nat) (n m T:Nat) (r0:Ze×Int) (s3 s4:Value) (wr:World) (g:Nat):Prop:=
 ∃(sc:Ze) (shut:List Bs) (c:Int) (q:List Nat) (vp1 vl1:Value) (F1 M:List Nat),s3= .int .i64 c∧Hid (ZdU b P va w F wr n m T g r0 sc shut c s4 q vp1 vl1 F1 M)
noncomputable def ZrV (b:Nat) (P:Ym) (va:Value) (w:World) (F:List Nat) (n m T:Nat) (r0:Ze×Int) (s3 s4:Value) (wr:World):Nat:=Zjl (Zp9 b P va w F n m T r0 s3 s4 wr)
section
variable {w:World} {b:Nat} {P:Ym} {s:Ze} {va vp vl:Value} {F:List Nat}
theorem ZdU.upd0 {wr:World} {r0:Ze×Int} {sc:Ze} {shut:List Bs} {vs:Value} (h:ZdU b P va w F wr n m T g r0 sc shut c vs q vp vl F1 M) (hu:Zg [] wr w1):ZdU b P va w F w1 n m T g r0 sc shut c vs q vp vl F1 M:=
 ⟨h.at_.upd0 hu,h.grows.upd0 hu,h.r,h.env.upd0 hu,(Zl _ _).upd h.sl hu,h.ap,h.mn⟩
theorem ZdU.next {wr:World} {r0:Ze×Int} {sc sc':Ze} {shut:List Bs} {vs:Value} {q q':List Nat} {vp vl vp' vl':Value} (h:ZdU b P va w F wr n m T g r0 sc shut c vs q vp vl F1 M)
  (h1:Zh w1 b {P with qps:=q'} none sc' va vp' vl' F2) (g1:Zi wr w1 F1 F2) (hr:Zds n m T g' r0 sc' shut c'):ZdU b P va w F w1 n m T g' r0 sc' shut c' vs q' vp' vl' F2 M:=by
 obtain⟨d,a⟩:=YD.frame (Zl _ _) h.sl h.ap g1
 exact⟨h1,h.grows.trans g1,hr,ZgL h.at_ h.env g1,d,a,h.mn⟩
theorem ZfI {P:Prop}(h:P:=by
 refine JU ?_
 refine Jo #[.int .i64 d.id, .int .i64 d.cls, .int .u64 d.since, .string ⟨d.key.toArray⟩, .int .i64 d.pre] aq.out Zcf bn ?_
 obtain⟨Y,ag⟩:=Je (w3.setRow L #[.int .i64 d.id, .int .i64 d.cls, .int .u64 d.since, .string ⟨d.key.toArray⟩, .int .i64 d.pre])
 rw[←ag]
 have aI:Zg [] wr Y:=aN.trans (show Zg [L] w3 Y by rw[ag];exact(Zg.refl _ _).setRow (.inr (by simp)) _) (fun k o=> .inl (by rw[Jm o];exact HL))
 have aG:Own Y L #[.int .i64 d.id, .int .i64 d.cls, .int .u64 d.since, .string ⟨d.key.toArray⟩, .int .i64 d.pre] 144 F1:=⟨by rw[ag];exact setRow_heap _ _ _ _ _ _ aq,fun hm=>by have l:=a1.out L hm;have h2:=HL.out;omega⟩
 have j:=D (ac.upd0 aI)
 have h4:=j.at_
 have aM:=Jx 9 h4.blk.1
 have aF:=Jx 7 h4.blk.1
 have au:=D aG
 clear ag aI aG h4
 refine⟨_,fun W C=>C,⟨aM,aF⟩,?_⟩
 repeat first|refine JN ?_|refine JF ?_
 refine Zdu ?_
 clear Z c7 aM aF aX bi ax a1 aq aN aS ak
 cases fo with
 |none=>
  have e1:fs=false:=aP.out
  subst e1
  have HE:=D (j.r.none K.symm)
  go_wp2_with fail
  go_ret
  rw[HE.out]
  exact⟨rfl,q,aZ,aY,F1,j.at_,j.grows⟩
 |some x1=>
  have e1:fs=true:=aP.out
  subst e1
  obtain rfl:d=x1:=bh.out
  go_upto_region 6 with fail
  obtain⟨w5,aj⟩:=Je Y.drew
  have ae:=Jd aj
  have h5:=j.at_.upd0 ae
  have c8:=Jx 8 h5.blk.1
  have k3:w5.cell? ⟨L,3,none⟩=some (.string ⟨d.key.toArray⟩):=(au.upd0 ae).cell rfl
  obtain⟨GP,aJ,_,_⟩:=h5.pool
  have a8:=D aJ
  clear h5 aJ;change Hid _ at aj ae
  refine Jr [0,4,8,12,16,20,26,28] (fun W=>W.cell? ⟨b,8,none⟩=some (.pointer (some ⟨P.pool,0,none⟩))∧W.cell? ⟨L,3,none⟩=some (.string ⟨d.key.toArray⟩)) (by rw[aj.out]at c8 k3;exact⟨c8,k3⟩) ?_
  repeat first|refine Jn ?_|refine Jf ?_|refine Ju ?_
  refine JL ?_
  simp only[Xu]
  rw[←aj.out]
  go_wp2_with fail
  refine(ZlR a8 d.key).mono ?_
  rintro e X ⟨rfl,aQ⟩
  have av:=Jt ae aQ
  clear aQ c8 k3
  go_wp2_with fail
  refine⟨fun _=>True,trivial,?_⟩
  repeat first|refine Jn ?_|refine Jf ?_|refine Ju ?_
  refine ZK ?_
  cases hcan:Zf1 y.pool d.key with
  |false=>
   obtain⟨x,H,E⟩:=j.r.shut K.symm hcan
   have R:=D H;have S:=D E
   have bb:=D (j.upd0 av)
   have a9:X.cell? ⟨L,3,none⟩=some (.string ⟨d.key.toArray⟩):=(au.upd0 av).cell rfl
   obtain⟨V,N,Q⟩:=Kb X (.cells #[.string ⟨d.key.toArray⟩] 9)
   have a5:=D (show Zb V X.heap.size 0 (Za8 d.key)by rw[N];exact Zb.of_block (w:=X.alloc _) (Za _))
   have z:=D (bb.upd0 Q)
   have a3:=D (show Zk 9 1 (.slice A shut.length ca) (shut.map Za8) V M from z.sl)
   clear H E;change Hid _ at N Q
   go_wp2_with(rw[←N.out];refine Zm V rfl (.tmp 33) (.tmp 36) 142 rfl 9 Tryz.underlying142 ZbA rfl (by omega) (by omega) (.slice A shut.length ca) (shut.map Za8) M rfl a3 X.heap.size 1 (Za8 d.key) rfl a5 rfl (Zcg d.key) (by rw[Xb];have:=bo.out;omega) ?_;intro v' w8 M' aH af ar)
   have I:=D (show ZdU b P va w F w8 n m T x r0 y (shut++[d.key]) c v' q aZ aY F1 M' from
    ⟨z.at_.upd af (fun k o hm=>z.ap k o hm),⟨z.grows.upd.trans af (fun k o=> .inl (z.mn k o)),z.grows.new⟩,S.out,z.env.upd af (fun k o=>by have l:=z.mn k o;have h2:=bp.out;unfold ZnH;omega),by unfold Z9;rw[Xs];exact aH,fun k o hm=>by
     rcases ar k hm with l|l
     ·
      exact z.ap k o l
     ·
      have:=z.at_.lt k o;omega,fun k o=>by
     rcases ar k o with l|l
     ·
      exact z.mn k l
     ·
      have h2:=z.grows.upd.size;omega⟩)
   clear aH af ar a9
   go_wp2_with fail
   refine⟨⟨x,_,_,c,_,_,_,_,_,rfl,I⟩,?_⟩
   have l:=R.out
   refine Nat.lt_of_le_of_lt (ZfJ (k:=x) ⟨_,_,c,_,_,_,_,_,rfl,I⟩) (Nat.lt_of_lt_of_eq (show x<GM by omega) ah)
  |true=>
   go_upto_region 8 with fail
   obtain⟨V,N⟩:=Je X.drew
   have Q:Zg [] Y V:=by rw[N];exact av.drew
   have h7:=j.at_.upd0 Q
   have am:=au.upd0 Q
   have Z:=Jx 9 h7.blk.1
   have k0:V.cell? ⟨L,0,none⟩=some (.int .i64 d.id):=am.cell rfl
   obtain⟨GQ,aw,_,aT⟩:=h7.queue
   have a7:=D aw;have be:=D aT;have a6:=D am
   clear h7 am aw aT;change Hid _ at N Q
   refine Jr [0,4,8,12,16,20,26] (fun W=>W.cell? ⟨b,9,none⟩=some (.pointer (some ⟨P.queue,0,none⟩))∧W.cell? ⟨L,0,none⟩=some (.int .i64 d.id)) (by rw[N.out]at Z k0;exact⟨Z,k0⟩) ?_
   repeat first|refine Jn ?_|refine Jf ?_|refine Ju ?_
   refine JL ?_
   simp only[Xu]
   rw[←N.out]
   go_wp2_with fail
   refine(ZfD a7 (Xj j.r.fit.q (by omega)) d.id).mono ?_
   rintro e w8 ⟨rfl,G8,aO,aK⟩
   obtain⟨F8,h8,g8⟩:=be.out w8 _ _ aO aK
   have hv:=j.r.safe.2.qi d (Y1 K.symm)
   obtain⟨k,o⟩:∃k:Nat,d.id=(k:Int)+1:=⟨(d.id-1).toNat,by omega⟩
   obtain⟨f,hf⟩:∃f,y.all[k]? =some f:=⟨_,Xa (by omega)⟩
   have an:=D (show YN {y with queue:=dropQ y.queue d.id} d.id=some f by rw[o];exact Zb0 (s:={y with queue:=dropQ y.queue ((k:Int)+1)}) hf)
   have aV:f.id=(k:Int)+1:=j.r.safe.1 k f hf
   obtain⟨p,hp⟩:=h8.fp (s:={y with queue:=dropQ y.queue d.id}) hf
   have H8:=D h8;have ao:=D ((show Zi Y V F1 F1 from⟨Q.weaken (by simp),fun k o=> .inl o⟩).trans g8);have ad:=D (a6.step g8);have HK:=D o;have HF:=D hf;have HP:=D hp
   have bd:w8.cell? ⟨L,0,none⟩=some (.int .i64 d.id):=ad.cell rfl
   have bf:w8.cell? ⟨L,4,none⟩=some (.int .i64 d.pre):=ad.cell rfl
   have aL:=D (ZgL j.at_ j.env ao)
   clear h8 g8 aO aK hv o hf hp Z k0;change Hid _ at aV
   go_wp2_with fail
   refine Jz ?_
   go_wp2_with fail
   refine(Yt H8 (by have:=j.r.fit.all;have h2:=ay.out;dsimp only;omega) HP _ HK).mono ?_
   rintro e W ⟨rfl,C⟩
   rw[C]
   clear C W
   by_cases h0:d.pre=0
   ·
    have aD:=D (show({d with pre:=0}:ZL)=d by obtain⟨xi,xc,xs,xk,xp⟩:=d;dsimp only at h0;subst h0;rfl)
    go_wp2_with fail
    refine(Zk4 H8 (j.r.fit.dropQ d.id) aL HP HF).mono ?_
    rintro e w9 ⟨rfl,ab⟩
    have H9:=D (H8.upd0 ab);have G9:=D (ao.upd0 ab);have aE:=D (ad.upd0 ab);have bk:=D (aL.upd0 ab)
    clear ab bd bf
    cases hw:ZgO {y with queue:=dropQ y.queue d.id} f with
    |true=>
     have al:=D (Zb.of_block aE.blk)
     obtain⟨x,H,E⟩:=j.r.held K.symm hcan an ⟨h0,hw⟩
     have R:=D H;have S:=D E
     clear H E hw
     go_wp2_with(refine Jl al Zcf ?_)
     refine(Znj H9 (j.r.fit.dropQ d.id) bk (by have l:=az.out;have h2:=aa.out;omega) HP HF aV {d with pre:=0}).mono ?_
     rintro e aR ⟨rfl,bt,bs,aC,aU,J,O⟩
     rw[aD.out]at J
     have I:=D (j.next J (G9.trans O) S)
     clear J O
     go_wp2_with fail
     refine⟨⟨x,_,shut,c,_,_,_,_,_,rfl,I⟩,?_⟩
     have l:=R.out
     refine Nat.lt_of_le_of_lt (ZfJ (k:=x) ⟨_,shut,c,_,_,_,_,_,rfl,I⟩) (Nat.lt_of_lt_of_eq (show x<GM by omega) ah)
    |false=>
     have al:=D (Zb.of_block aE.blk)
     obtain⟨x,H,E⟩:=j.r.gone K.symm hcan an (by intro hh;rw[hw]at hh;exact absurd hh.2 (by simp))
     have R:=D H;have S:=D E
     clear H E hw
     go_wp2_with(refine Jl al Zcf ?_)
     refine(ZfY H9 (j.r.fit.dropQ d.id) (j.r.safe.dropS d.id) (by have l:=az.out;have h2:=aa.out;omega) ay {d with pre:=0} (fun hp=>absurd hp (by dsimp only;omega)) (by have l:=j.r.safe.2.qi d (Y1 K.symm);exact⟨l.1,l.2.1⟩)).mono ?_
     rintro e aR ⟨rfl,aC,aU,J,O⟩
     rw[aD.out]at J
     have I:=D (j.next J (G9.trans O) S)
     have bj:0≤c∧c≤1000:=by have l:=j.r.c0;have h2:=j.r.ct;have h3:=aa.out;omega
     clear J O
     go_wp2_with fail
     refine⟨⟨x,_,shut,c+1,_,_,_,_,_,by go_num,I⟩,?_⟩
     have l:=R.out
     refine Nat.lt_of_le_of_lt (ZfJ (k:=x) ⟨_,shut,c+1,_,_,_,_,_,by go_num,I⟩) (Nat.lt_of_lt_of_eq (show x<GM by omega) ah)
   ·
    
    have a2:=D (Zb.of_block ad.blk)
    obtain⟨x,H,E⟩:=j.r.gone K.symm hcan an (by intro hh;exact h0 hh.1)
    have R:=D H;have S:=D E
    clear H E
    go_wp2_with(refine Jl a2 Zcf ?_)
    refine(ZfY H8 (j.r.fit.dropQ d.id) (j.r.safe.dropS d.id) (by have l:=az.out;have h2:=aa.out;omega) ay d (fun hp=>by
     obtain⟨p,ba,bg,_⟩:=(j.r.safe.2.qi d (Y1 K.symm)).2.2 (by omega)
     exact⟨p,ba,bg⟩) (by have l:=j.r.safe.2.qi d (Y1 K.symm);exact⟨l.1,l.2.1⟩)).mono ?_
    rintro e aR ⟨rfl,aC,aU,J,O⟩
    have I:=D (j.next J (ao.trans O) S)
    have bj:0≤c∧c≤1000:=by have l:=j.r.c0;have h2:=j.r.ct;have h3:=aa.out;omega
    clear J O
    go_wp2_with fail
    refine⟨⟨x,_,shut,c+1,_,_,_,_,_,by go_num,I⟩,?_⟩
    have l:=R.out
    refine Nat.lt_of_le_of_lt (ZfJ (k:=x) ⟨_,shut,c+1,_,_,_,_,_,by go_num,I⟩) (Nat.lt_of_lt_of_eq (show x<GM by omega) ah)):P:=h
theorem Zgu {P:Prop}(h:P:=by
 refine⟨_,fun W C=>C,a0.out,?_⟩
 refine JU ?_
 go_wp2_with fail
 refine(aX.out _ aA).mono ?_
 rintro e w3 ⟨rfl,aB⟩
 have aN:=Jt aA aB
 have bc:=D (ax.out _ (a4.trans aB))
 have aq:=D ((Kv aB bq))
 clear aB
 go_wp2_with fail
 refine⟨_,fun W C=>C,bc.out,?_⟩
 repeat first|refine JN ?_|refine JF ?_
 exact ZfI):P:=h
theorem ZnC (h:Zh w b P none s va vp vl F) (hfit:ZQ s n m) (hs:Lk.Safe s) (hE:Env w) (hn:n≤700000) (hm:m≤900000):
  Calls Tryz.prog 29 #[.pointer (some ⟨b,0,none⟩)] w (Zcn b P (stepS s).1 (stepS s).2 va w F):=by
 obtain⟨r0,bm⟩:=Je (stepS s)
 rw[←bm]
 obtain⟨T,hT⟩:=Je (3*s.queue.length+1)
 have hq:=hfit.q
 have aa:=D (show T≤1000 by omega)
 have az:=D hn
 have ay:=D hm
 have ac:=D (show ZdU b P va w F w n m T T r0 s [] 0 (.slice none 0 0) P.qps vp vl F []from⟨h,Zi.refl _ _,⟨hfit.mono (by omega) (Xi _),hs,by rw[bm,hT];rfl,by have:=Zse s.queue [];omega,Xi _,Int.le_refl _,by omega,by simp⟩,hE,ZA _ _ _,by simp,by simp⟩)
 have bp:=D (show 2≤w.heap.size by have:=hE.size;omega)
 clear h hfit hs hE hn hm bm hT hq
 go_in
 go_wp2_with fail
 go_loopw[3,4] (fun s3 s4 wr=>∃g,Zp9 b P va w F n m T r0 s3 s4 wr g) (fun s3 s4 wr=>ZrV b P va w F n m T r0 s3 s4 wr)
 case atStart=>exact⟨T,s,[],0,P.qps,vp,vl,F,[],rfl,ac⟩
 case round=>
  clear ac
  obtain⟨GM,ah⟩:=Je (ZrV b P va w F n m T r0 u3 u4 wr)
  have bu:=Zm9 hrel
  have br:GM=Zjl (Zp9 b P va w F n m T r0 u3 u4 wr):=ah
  rw[←br]at bu
  clear hrel br
  obtain⟨y,shut,c,q,aZ,aY,F1,M,rfl,ac⟩:=bu
  change Hid _ at ah
  obtain⟨w1,aS⟩:=Je wr.drew
  have ak:=Jd aS
  have l:=ac.at_.upd0 ak
  have Z:=Jx 9 l.blk.1
  have c7:=Jx 7 l.blk.1
  have ax:=D (show∀(W:World),Zg [] w1 W→W.cell? ⟨b,9,none⟩=some (.pointer (some ⟨P.queue,0,none⟩))∧W.cell? ⟨b,7,none⟩=some (.pointer (some ⟨P.clock,0,none⟩))from fun W hu=>⟨Zf (i:=9) (l.upd0 hu).blk.1 rfl,Zf (i:=7) (l.upd0 hu).blk.1 rfl⟩)
  obtain⟨A,ca,rfl,bx,bv⟩:=ac.sl.strs
  obtain⟨fo,K⟩:=Je (Zac y.queue y.now y.conf.aging shut)
  obtain⟨d,bh⟩:=Je (fo.getD Zbn)
  obtain⟨fs,aP⟩:=Je fo.isSome
  have aX:=D (show∀W,Zg [] wr W→Calls Tryz.prog 72 #[.pointer (some ⟨P.queue,0,none⟩), .int .u64 y.now, .slice A shut.length ca] W (fun e w'=>e= .returned (.tuple #[.agg #[.int .i64 d.id, .int .i64 d.cls, .int .u64 d.since, .string ⟨d.key.toArray⟩, .int .i64 d.pre], .bool fs])∧Zg [] W w')from fun W hu=>by
   obtain⟨G,aw,_,_⟩:=(ac.at_.upd0 hu).queue
   have bA:=ac.r.fit.q
   have bw:=ac.r.fit.conf
   unfold Zbu at bw
   simp only[Bool.and_eq_true,decide_eq_true_eq]at bw
   have bz:=ac.r.sl
   have bB:=aa.out
   have a:=ZkU aw (by omega) y.now A ca shut (bv.upd hu) (by omega) ac.r.fit.now (by omega) ac.r.fit.qs
   rw[←K,←bh,←aP]at a
   exact a)
  have bi:=D (show∀W,Zg [] wr W→Calls Tryz.prog 73 #[.pointer (some ⟨P.clock,0,none⟩)] W (fun e w'=>e= .returned (.int .u64 y.now)∧w'=W)from fun W hu=>Zbm (ac.at_.upd0 hu).clock.1)
  have a1:=D ac.at_.lt
  have bn:=D (show(#[.int .i64 d.id, .int .i64 d.cls, .int .u64 d.since, .string ⟨d.key.toArray⟩, .int .i64 d.pre]:Array Value).all (·.oneCell')=true by rw[Xl,Xk];exact ZcJ d)
  have bo:=D (show shut.length≤1000 by have l:=ac.r.sl;have h2:=aa.out;omega)
  clear l bx bv;change Hid _ at aS ak K bh aP
  go_upto_region 3 with fail
  refine ZaV (.held 0 (.held 1 (.held 2 (.held 3 (.held 4 (.held 5 (.held 6 (.held 7 (.held 9 (.two 8 (.two 10 (.held 11 (.held 12 (.held 13 (.eff 14 (.eff 15 (.held 16 .nil)))))) 14 (.eff 10 (.held 11 (.held 12 (.held 13 (.eff 15 (.held 16 .nil))))))) 14 (.eff 8 (.eff 10 (.held 11 (.held 12 (.held 13 (.eff 15 (.held 16 .nil))))))))))))))))) (fun W=>W.cell? ⟨b,9,none⟩=some (.pointer (some ⟨P.queue,0,none⟩))∧W.cell? ⟨b,7,none⟩=some (.pointer (some ⟨P.clock,0,none⟩))) (by kernel_rfl) (by kernel_rfl) (fun c a w t v h=>by cases t<;>exact h) (by rw[aS.out]at Z c7;exact⟨Z,c7⟩) ?_
  repeat first|refine JN ?_|refine JF ?_
  apply ZcW
  case ho=>simp only[Xh,Xf,Xg];rfl
  case ho2=>simp only[Xh,Xf,Xg];rfl
  case h=>
   simp only[Xu]
   rw[←aS.out]
   go_wp2_with fail
   refine(bi.out _ ak).mono ?_
   rintro e W ⟨rfl,C⟩
   rw[C]
   clear C W
   go_wp2_with fail
   refine⟨_,fun W C=>C,⟨Z,c7⟩,?_⟩
   apply ZcW
   case ho=>simp only[Xh,Xf,Xg];rfl
   case ho2=>simp only[Xh,Xf,Xg];rfl
   case h=>
    go_wp2_with fail
    refine(aX.out _ ak).mono ?_
    rintro e w2 ⟨rfl,ai⟩
    have aA:=Jt ak ai
    have a0:=D (ax.out _ ai)
    have a4:=D ai
    clear ai
    go_wp2_with fail
    refine⟨_,fun W C=>C,a0.out,?_⟩
    repeat first|refine JN ?_|refine JF ?_
    refine JU ?_
    obtain⟨w3,bl⟩:=Je (w2.alloc (.cells #[.int .i64 0, .int .i64 0, .int .u64 0, .string ⟨#[]⟩, .int .i64 0] 144))
    obtain⟨L,hL⟩:=Je w2.heap.size
    have aq:=D (show w3.heap[L]? =some (.cells #[.int .i64 0, .int .i64 0, .int .u64 0, .string ⟨#[]⟩, .int .i64 0] 144 (0,0))by rw[bl,hL];exact Za _)
    have HL:=D (show wr.heap.size≤L by rw[hL];exact aA.size)
    have aN:=D (show Zg [] wr w3 by rw[bl];exact aA.alloc _)
    have bc:=D (ax.out w3 (by rw[bl];exact a4.alloc _))
    go_wp2_with fail
    rw[←bl,←hL]
    clear bl hL
    refine⟨_,fun W C=>C,bc.out,?_⟩
    exact ZfI
   case h2=>
    obtain⟨w2,aW,ai⟩:=Kb w1 (.cells #[.int .i64 0, .int .i64 0, .int .u64 0, .string ⟨#[]⟩, .int .i64 0] 144)
    obtain⟨L,hL⟩:=Je w1.heap.size
    have bq:=D (show w2.heap[L]? =some (.cells #[.int .i64 0, .int .i64 0, .int .u64 0, .string ⟨#[]⟩, .int .i64 0] 144 (0,0))by rw[aW,hL];exact Za _)
    have HL:=D (show wr.heap.size≤L by rw[hL];exact ak.size)
    have aA:=Jt ak ai
    have a4:=D ai
    have a0:=D (ax.out w2 ai)
    clear ai
    go_wp2_with fail
    rw[←aW,←hL]
    clear aW hL
    exact Zgu
  case h2=>
   simp only[Xu]
   rw[←aS.out]
   obtain⟨w2,aW,ai⟩:=Kb w1 (.cells #[.int .i64 0, .int .i64 0, .int .u64 0, .string ⟨#[]⟩, .int .i64 0] 144)
   obtain⟨L,hL⟩:=Je w1.heap.size
   have bq:=D (show w2.heap[L]? =some (.cells #[.int .i64 0, .int .i64 0, .int .u64 0, .string ⟨#[]⟩, .int .i64 0] 144 (0,0))by rw[aW,hL];exact Za _)
   have HL:=D (show wr.heap.size≤L by rw[hL];exact ak.size)
   have aA:=Jt ak ai
   have a4:=D ai
   have a0:=D (ax.out w2 ai)
   clear ai
   go_wp2_with fail
   rw[←aW,←hL]
   clear aW hL
   refine⟨_,fun W C=>C,a0.out,?_⟩
   refine JU ?_
   go_wp2_with fail
   refine(bi.out _ aA).mono ?_
   rintro e W ⟨rfl,C⟩
   rw[C]
   clear C W
   go_wp2_with fail
   exact Zgu
end
end Go.Proofs.YtlhapbopmplngaaGreatDoor
