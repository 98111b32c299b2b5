import Derived.Test.YtbgbeddbfaopgaaGreatDoorZ24
set_option linter.all false
set_option maxHeartbeats 16000000
set_option maxRecDepth 100000
set_option autoImplicit true
set_option relaxedAutoImplicit true
namespace Go.Proofs.YtbgbeddbfaopgaaGreatDoor
open Go.RowKit Go.Lk
def Zbq (a:ZbQ) (vi vh vb vr:Value):List Value:=[.int .i64 a.op, .int .i64 a.id, .int .i64 a.n,vi, .int .u64 a.time, .int .i64 a.status,vh,vb]++Zv a.req vr
section
variable {w:World} {b:Nat} {P:YI} {s:Zf} {va vp vl:Value} {F:List Nat}
theorem ZnA (h:Zh w b P none s va vp vl F) (hfit:ZW s n m) (hn:n≤1000000) (num:Int) {o:ZH} (hk:s.shares.findIdx? (fun o=>o.num==num)=some k) (ho:s.shares[k]? =some o):
  Calls Tryz.prog 164 #[.pointer (some ⟨P.shares,0,none⟩), .int .i64 num] w fun e w'=>∃v M F1,e= .returned v∧Zh w' b P none {s with shares:=s.shares.eraseIdx k} va vp vl F1∧Zi w w' F F1∧Z9 v o.members w' M∧Z8 F1 M∧∀q∈M,q∈F:=by
 obtain⟨G,I,J,z⟩:=h.step3 (k:=11) rfl
 obtain⟨d,c,hg⟩:=I
 have g:d.findIdx? (fun p=>p.2.num==num)=some k:=by rw[←hk,←c,List.findIdx?_map];rfl
 have R:d.length=s.shares.length:=by rw[←c,Xb]
 have S:=hfit.sn
 have x:=Xa (Yv g)
 have E:(d[k]'(Yv g)).2=o:=by
  have e:=congrArg (fun l=>l[k]?) c
  rw[ho]at e
  simp only[Xe,x,Option.map_some]at e
  exact Option.some.inj e
 refine(Zei hg (by omega) num g x).mono ?_
 rintro e w' ⟨rfl,Q,M,K,r,H,y,j,N⟩
 obtain⟨F1,L,O,C⟩:=z w' (Zcl P.shares s.slast ((d.eraseIdx k).map (·.2))) Q {s with shares:=s.shares.eraseIdx k} ⟨_,rfl,K⟩ ⟨N,fun q a=> .inl (y q a)⟩ (by unfold Z0;rw[←Y0,c];rfl) h.fl h.ql
 rw[E]at r
 exact⟨_,M,F1,rfl,L,O,r,fun q a t=>by
  rcases C q a with⟨_,i⟩|i
  ·exact i (j q t)
  ·exact H q i t,fun q a=>J q (j q a)⟩
structure Zfb (b:Nat) (P:YI) (va:Value) (w:World) (F:List Nat) (wr:World) (s:Zf) (es:List Zr) (kk:Nat) (v:Value) (M:List Nat) (vp vl:Value) (F1:List Nat):Prop where
 at_:Zh wr b P none {s with cache:=ZbZ s (es.take kk)} va vp vl F1
 grows:Zi w wr F F1
 row:Zj 272 6 v (es.map Zo) wr M
 ap:Z8 F1 M
theorem Zfb.upd0 {wr w1:World} {es:List Zr} {kk:Nat} (h:Zfb b P va w F wr s es kk v M vp vl F1) (hu:Zg [] wr w1):Zfb b P va w F w1 s es kk v M vp vl F1:=
 ⟨h.at_.upd0 hu,h.grows.upd0 hu,(Zd _ _ _ _).upd h.row hu (by simp),h.ap⟩
structure ZdS (b:Nat) (P:YI) (va:Value) (w:World) (F:List Nat) (wr:World) (n m:Nat) (s0:Zf) (l:List Int) (x:ZM) (fb kk:Nat) (v:Value) (M:List Nat) (sc:Zf) (q:List Nat) (vp vl:Value) (F1:List Nat):Prop where
 at_:Zh wr b {P with qps:=q} none sc va vp vl F1
 grows:Zi w wr F F1
 fit:ZW sc (n+kk) m
 safe:Lk.Safe sc
 res:sc=Zeo x.num s0 (l.take kk)
 len:sc.all.length=s0.all.length
 row:Z9 v l wr M
 ap:Z8 F1 M
 vals:∀x∈l,1≤x∧x≤s0.all.length
 fl:Own wr fb (ZbV x).toArray 259 F1
theorem ZmH (num:Int) (a:Zf) (id:Int):(judgeU num a id).all.length=a.all.length:=by
 unfold judgeU
 dsimp only
 split
 ·show(a.all.modify _ _).length=_;rw[List.length_modify]
 ·show(a.all.modify _ _).length=_;rw[List.length_modify]
theorem ZdS.elem {wr:World} {fb kk:Nat} {sc:Zf}
  (h:ZdS b P va w F wr n m s0 l x fb kk v M sc q vp vl F1) (hk:kk<l.length):∃(i p:Nat) (f:ZE),l[kk]? =some ((i:Int)+1)∧sc.all[i]? =some f∧P.fps[i]? =some p∧∃g c,v= .slice (some ⟨g,0,none⟩) l.length c∧wr.cell? ⟨g,kk,none⟩=some (.int .i64 ((i:Int)+1)):=by
 have hx:=Xa hk
 have hv:=h.vals _ (Xc hx)
 obtain⟨i,o⟩:∃i:Nat,l[kk]=(i:Int)+1:=⟨(l[kk]-1).toNat,by omega⟩
 rw[o]at hx
 have k:i<sc.all.length:=by rw[h.len];omega
 have e:=Xa k
 obtain⟨p,r⟩:=h.at_.fp e
 obtain⟨g,c,d,_,a⟩:=h.row.cell (j:=kk) (i:=0) (c:=Zcy ((i:Int)+1)) (by rw[Xe,hx];rfl) rfl
 rw[Xb]at d
 rw[Nat.mul_one,Nat.add_zero]at a
 exact⟨i,p,_,hx,e,r,g,c,d,a⟩
theorem ZdS.next {wr w1:World} {fb kk:Nat} {sc:Zf} {q q':List Nat} {vp vl vp' vl':Value}
  (h:ZdS b P va w F wr n m s0 l x fb kk v M sc q vp vl F1) {i:Nat} (hx:l[kk]? =some ((i:Int)+1)) (hf:sc.all[i]? =some f)
  (h1:Zh w1 b {P with qps:=q'} none {ZR {sc with all:=sc.all.set i {f with cleared:=true,pre:=0,state:=goL f.state 2}} 6 ((i:Int)+1) x.num 0 0 with queue:=putQ sc.queue (Zbo {f with cleared:=true,pre:=0,state:=goL f.state 2})} va vp' vl' F2) (g:Zi wr w1 F1 F2) (ho:Own w1 fb (ZbV x).toArray 259 F2):
  ZdS b P va w F w1 n m s0 l x fb (kk+1) v M (judgeU x.num sc ((i:Int)+1)) q' vp' vl' F2:=by
 obtain⟨c,a⟩:=YG.frame (ZS v l) h.row h.ap g
 rw[←Zom hf x.num]at h1
 exact⟨h1,h.grows.trans g,h.fit.judgeU _ _,h.safe.judgeU _ _,by rw[Zlb hx,←h.res],by rw[ZmH];exact h.len,c,a,h.vals,ho⟩
theorem Zl6 (r:Yb) (a:Zp) (now:Nat):(ZbM r a now).length≤a.methods.length+a.headers.length+1:=by
 rw[Zit]
 split
 ·simp
 ·rw[←Znu]
  refine Xj (Zkj _ _) ?_
  rw[Xd,Xb,Xb]
  split
  ·simp;omega
  ·omega
theorem ZkU (h:Zh w b P none s va vp vl F) (hfit:ZW s n m) (hs:Lk.Safe s) (hE:Env w) (hn:n≤500000) (hm:m≤10000) {j q:Nat} (hq:P.qps[j]? =some q) (hx:s.pres[j]? =some x) (a:ZbQ) (vi vb vr:Value) (A:Option Addr) (c:Nat) (hA:Zay w A a.headers) (hT:Zaw a.headers):
  Calls Tryz.prog 88 #[.pointer (some ⟨b,0,none⟩), .pointer (some ⟨q,0,none⟩), .agg (Zbq a vi (.slice A a.headers.length c) vb vr).toArray] w (Zjx b P none (judgeS s x a.status a.headers) va w F):=by
 obtain⟨R,hR⟩:=Je (judgeS s x a.status a.headers)
 rw[←hR]
 obtain⟨o0,cQ,bI⟩:=hs.2.shs x (Xc hx)
 obtain⟨k,I⟩:∃k,s.shares.findIdx? (fun o=>o.num==x.num)=some k:=by
  cases hc:s.shares.findIdx? (fun o=>o.num==x.num)with
  |some k=>exact⟨k,rfl⟩
  |none=>rw[List.findIdx?_eq_none_iff]at hc;have:=hc o0 cQ;simp[bI]at this
 obtain⟨o,ho,hop,_⟩:=Zi2 I
 obtain⟨l,S⟩:=Je o.members
 have ae:=hs.2.mem o (Xc ho)
 rw[←S]at ae
 have dx:l.length≤64:=by
  have h1:=Zgg (Xc ho);have r:=hfit.sh;rw[S];omega
 obtain⟨am,au⟩:=Je (l.headD 0)
 have cm:am∈l:=by
  rw[au]
  cases l with
  |nil=>exact absurd rfl ae.1
  |cons a l=>simp
 have br:=ae.2 am cm
 obtain⟨i0,cR⟩:∃i:Nat,am=(i:Int)+1:=⟨(am-1).toNat,by omega⟩
 obtain⟨f,hf⟩:∃f,s.all[i0]? =some f:=⟨_,Xa (by omega)⟩
 obtain⟨jr,an⟩:=Je (Zbs f.req a.status a.headers)
 have bA:=D (show R=if jr.2≠0 then failedS s x 8 jr.2 else Zeo x.num (judgeV s x k l (ZbM f.req jr.1 s.now)) l by
  rw[hR,an,S];exact ZnY I ho (by rw[←S,←au];exact cR) hf _ _)
 have cj:=D (show jr.1.age≤7200 by rw[an];exact Znd _ _ _)
 have aa:=D (show jr.1.methods.length≤1000000∧jr.1.headers.length≤1000000 by rw[an];exact Zl5 (ZiY hT))
 obtain⟨w1,aL⟩:=Je (w.alloc (.cells (Zbq a vi (.slice A a.headers.length c) vb vr).toArray 47))
 obtain⟨bx,bj⟩:=Je w.heap.size
 have cS:=Ja aL
 have bm:w1.heap[bx]? =some (.cells (Zbq a vi (.slice A a.headers.length c) vb vr).toArray 47 (0,0)):=by rw[aL,bj];exact Za _
 obtain⟨w2,aU⟩:=Je w1.drew
 have bi:Zg [] w w2:=by rw[aU];exact cS.drew
 have r:=h.upd0 bi
 have Z:=Jx 14 r.blk.1
 have k0:w2.cell? ⟨q,0,none⟩=some (.int .i64 x.num):=Zc (i:=0) (r.flight hq hx).1 rfl
 obtain⟨gl,G,aS,hg,dj,_⟩:=r.shares
 have aG:gl.findIdx? (fun p=>p.2.num==x.num)=some k:=by rw[←I,←aS,List.findIdx?_map];rfl
 have ds:=hfit.sn
 have c4:gl.length=s.shares.length:=by rw[←aS,Xb]
 have bv:=Xa (Yv aG)
 have bb:(gl[k]'(Yv aG)).2=o:=by
  have e:=congrArg (fun l=>l[k]?) aS
  rw[ho]at e
  simp only[Xe,bv,Option.map_some]at e
  exact Option.some.inj e
 have dJ:=D (show Calls Tryz.prog 159 #[.pointer (some ⟨P.shares,0,none⟩), .int .i64 x.num] w2 (Zkh w2 l)by
  have:=ZcU hg (by omega) x.num aG bv (by rw[bb,←S];omega)
  rw[bb,←S]at this;exact this)
 have H:=D h;have H2:=D r;have cO:=D aU
 have cE:=D ((show Zg [] w1 w2 by rw[aU];exact(Zg.refl [] w1).drew).block bx (Jg bm) (by simp)|>.trans bm)
 have HQ:=D hq;have HX:=D hx;have Q:=D hfit;have HS:=D hs;have HK:=D I;have HO:=D ho;have dG:=D hf;have dO:=D cR;have HE:=D hE
 have a4:=D ae;have da:=D hA;have dw:=D hT
 have d3:=D r.lt
 obtain⟨d6,dT⟩:=Je a.headers.length
 obtain⟨p0,cf⟩:=h.fp hf
 have b5:=D cf
 clear hR h hfit hs hq hx cQ bI I ho hop ae aU r aS hg dj aG ds c4 bv bb hf cm br hE bm hA hT cf;change Hid _ at an aL bi cS bj S au dT
 go_enter Tryz.func88,Tryz.ntmps88
 go_upto_region 1 with fail
 rw[←aL.out,←bj.out]
 refine Jr [0,4,8,12,16,20,24,28,34,36,40,44] (fun W=>W.cell? ⟨b,14,none⟩=some (.pointer (some ⟨P.shares,0,none⟩))∧W.cell? ⟨q,0,none⟩=some (.int .i64 x.num)) (by rw[cO.out]at Z k0;exact⟨Z,k0⟩) ?_
 repeat first|refine Jn ?_|refine Jf ?_|refine Ju ?_
 refine JL ?_
 simp only[Xu]
 rw[←cO.out]
 go_wp2_with fail
 refine dJ.out.mono ?_
 rintro e w3 ⟨v,M,rfl,bG,dc,aE⟩
 obtain⟨g0,cA,rfl,c6,_,k2⟩:=Zdx bG a4.out.1
 rw[←au.out]at k2
 obtain⟨ln,ac⟩:=Je l.length
 rw[←ac]at c6 dx⊢
 have cV:=Jt bi aE
 have cr:=D ((aE.block bx (Jg cE) (by simp)).trans cE)
 have d1:=D aE
 clear bG dc aE Z k0;change Hid _ at ac
 go_wp2_with fail
 refine⟨fun W=>W.cell? ⟨g0,0,none⟩=some (.int .i64 am),k2,?_⟩
 repeat first|refine Jn ?_|refine Jf ?_|refine Ju ?_
 refine ZL ?_
 have H3:=D (H.upd0 cV)
 obtain⟨E,bf,aM,eh,ec,_⟩:=H3.req Q b5 dG.out
 obtain⟨w4,aR⟩:=Je (w3.alloc (.cells #[.string ⟨#[]⟩, .string ⟨#[]⟩, .string ⟨#[]⟩, .int .i64 0, .bool false, .slice none 0 0, .int .i64 0, .int .u64 0, .int .i64 0, .int .i64 0] 43))
 obtain⟨L,aN⟩:=Je w3.heap.size
 have cD:=D (show w4.heap[L]? =some (.cells #[.string ⟨#[]⟩, .string ⟨#[]⟩, .string ⟨#[]⟩, .int .i64 0, .bool false, .slice none 0 0, .int .i64 0, .int .u64 0, .int .i64 0, .int .i64 0] 43 (0,0))by rw[aR,aN];exact Za _)
 obtain⟨w5,aH⟩:=Je (w4.setRow L (Zv f.req E).toArray)
 have a1:=D (show w5.heap[L]? =some (.cells (Zv f.req E).toArray 43 (0,0))by rw[aH];exact setRow_heap _ _ _ _ _ _ cD)
 have ag:Zg [] w3 w5:=(show Zg [] w3 w4 by rw[aR];exact(Zg.refl [] w3).alloc _).trans (show Zg [L] w4 w5 by rw[aH];exact(Zg.refl _ _).setRow (.inr (by simp)) _) (fun k I=> .inl (by rw[Jm I,aN];exact Xi _))
 have bz:=Jt cV ag
 have d0:=D ag
 have a9:=D (bf.upd0 ag)
 have c5:=D (Zb8 f.req E (by obtain⟨A',c',e,_⟩:=bf.at_;rw[e];rfl))
 have db:=D aM
 have a6:=D ((ag.block bx (Jg cr) (by simp)).trans cr)
 have c3:=D (da.upd0 bz)
 clear bf aM ag k2;change Hid _ at aR aH aN
 go_wp2_with fail
 refine(ZaF H3 (by have:=Q.all;omega) b5 _ rfl).mono ?_
 rintro e W ⟨rfl,d⟩
 rw[d]
 clear d W
 go_upto_region 3 with(first|(refine Jl db Yp ?_)|(rw[←aR.out,←aN.out];refine Jo (Zv f.req E).toArray cD Yp c5 ?_;rw[←aH.out]))
 have k5:=Jx 5 a6.out
 have k6:=Jx 6 a6.out
 have dl:=D (show Zb w5 L 0 (Zv f.req E)from Zb.of_block a1)
 have HJ:=D (Zkm f.req E a.status a.headers A c w5 a9 c3 dw (HE.upd0 bz))
 rw[←an.out]at HJ
 obtain⟨z,jc⟩:=jr
 dsimp only at bA cj aa
 go_wp2_with(refine Jl dl Yp ?_)
 refine HJ.out.mono ?_
 rintro e w6 ⟨K,J,M1,M2,rfl,bg,bp,dn,dv,cB⟩
 obtain⟨w7,a0⟩:=Je (w6.alloc (.cells #[.slice none 0 0, .slice none 0 0, .int .u64 0] 267))
 obtain⟨V,aO⟩:=Je w6.heap.size
 have bl:=D (show w7.heap[V]? =some (.cells #[.slice none 0 0, .slice none 0 0, .int .u64 0] 267 (0,0))by rw[a0,aO];exact Za _)
 obtain⟨w8,aI⟩:=Je (w7.setRow V (Zt K J z).toArray)
 have bn:=D (show w8.heap[V]? =some (.cells (Zt K J z).toArray 267 (0,0))by rw[aI];exact setRow_heap _ _ _ _ _ _ bl)
 have aB:Zg [] w6 w8:=(show Zg [] w6 w7 by rw[a0];exact(Zg.refl [] w6).alloc _).trans (show Zg [V] w7 w8 by rw[aI];exact(Zg.refl _ _).setRow (.inr (by simp)) _) (fun k I=> .inl (by rw[Jm I,aO];exact Xi _))
 have a5:=D (cB.trans aB (by simp))
 have bq:=Jt bz a5.out
 have bX:=D (show Zdp w8 z K J M1 M2 from⟨(Zm _ _).upd bg aB (by simp),(Zm _ _).upd bp aB (by simp),aa.out.1,aa.out.2⟩)
 have c8:=D (ZbC K J z (by obtain⟨A',c',e,_⟩:=bg.strs;rw[e];rfl) (by obtain⟨A',c',e,_⟩:=bp.strs;rw[e];rfl))
 have a7:=D ((a5.block L (Jg a1) (by simp)).trans a1)
 clear bg bp dn dv cB aB k5 k6;change Hid _ at a0 aI aO
 go_upto_region 4 with(rw[←a0.out,←aO.out];refine Jo (Zt K J z).toArray bl Ze7 c8 ?_;rw[←aI.out])
 have H8:=D (H.upd0 bq)
 by_cases b3:jc=0
 case neg=>
  have bc:=D (show R=failedS s x 8 jc by rw[bA.out,if_pos b3])
  go_wp2_with fail
  refine(ZjM H8 Q HS (by omega) hm HQ HX 8 jc (by omega)).mono ?_
  rintro e w9 ⟨rfl,q9,dR,dz,F9,O,g9⟩
  have H9:=D O;have G9:=D (g9.pre0 bq)
  clear O g9
  go_wp2_with fail
  (try simp only[Exit.inBlock,Exit.then])
  first|refine bodyPost_ret (results_none rfl _ _ _) rfl ?_|refine bodyPost_end (results_none rfl _ _ _) rfl ?_
  rw[bc.out]
  exact⟨rfl,q9,dR,dz,F9,H9.out,G9.out⟩
 case pos=>
 subst b3
 obtain⟨es,aD⟩:=Je (ZbM f.req z s.now)
 have bc:=D (show R=Zeo x.num (judgeV s x k l es) l by rw[bA.out,if_neg (by simp),aD])
 have dE:=D aD
 obtain⟨w9,aK⟩:=Je w8.drew
 have Y:=Jd aK
 have O:=H8.upd0 Y
 have N:=Jx 7 O.blk.1
 have aV:=D (show Zb w9 L 0 (Zv f.req E)from Zb.of_block ((Y.block L (Jg a7) (by simp)).trans a7))
 have aW:=D (show Zb w9 V 0 (Zt K J z)from Zb.of_block ((Y.block V (Jg bn) (by simp)).trans bn))
 have cg:=Jt bq Y
 have cK:=D (show Calls Tryz.prog 161 #[.agg (Zv f.req E).toArray, .agg (Zt K J z).toArray, .int .u64 s.now] w9 (Znw w9 es)by
  rw[aD]
  exact ZiQ f.req E z K J M1 M2 s.now w9 (a9.upd0 (a5.trans Y (by simp))) (bX.upd0 Y) aa.out.1 aa.out.2 (by have:=cj.out;omega) Q.now (HE.upd0 cg))
 have H9:=D O
 clear aD Y O;change Hid _ at aK
 go_upto_region 6 with fail
 refine Jr [0,4,8,12,16,20,36,25,29,32] (fun W=>W.cell? ⟨b,7,none⟩=some (.pointer (some ⟨P.clock,0,none⟩))∧Zb W L 0 (Zv f.req E)∧Zb W V 0 (Zt K J z)) (by have q1:=aV.out;have q2:=aW.out;rw[aK.out]at N q1 q2;exact⟨N,q1,q2⟩) ?_
 apply Zq (t:= 43) (x:= .tmp 7) (b:=L) (of:=0) (cs:=Zv f.req E)
 case ho=>simp only[Xh,Xf,Xg];rfl
 case hg=>rfl
 case hop=>rfl
 case hx=>rfl
 case ht=>exact Yp
 case hb=>exact fun W d=>d.2.1
 case ha=>go_simp;rfl
 apply Zq (t:= 267) (x:= .tmp 8) (b:=V) (of:=0) (cs:=Zt K J z)
 case ho=>simp only[Xh,Xf,Xg];rfl
 case hg=>rfl
 case hop=>rfl
 case hx=>rfl
 case ht=>exact Ze7
 case hb=>exact fun W d=>d.2.2
 case ha=>go_simp;rfl
 repeat first|refine Jn ?_|refine Jf ?_|refine Ju ?_
 refine JE ?_
 simp only[Xu]
 rw[←aK.out]
 go_wp2_with fail
 refine(Za5 H9.clock.1).mono ?_
 rintro e W ⟨rfl,d⟩
 rw[d]
 clear d W
 go_wp2_with fail
 refine⟨_,fun W d=>d,⟨N,aV.out,aW.out⟩,?_⟩
 refine JE ?_
 go_wp2_with fail
 refine cK.out.mono ?_
 rintro e dg ⟨ve,Me,rfl,aq,cz,ah⟩
 obtain⟨Ae,ce,rfl,cu,dL⟩:=aq.lies
 rw[Xb]at cu aq
 have bw:=H9.upd0 ah
 have cJ:=D (show es.length≤3000000 by rw[dE.out];have h1:=aa.out;have r:=Zl6 f.req z s.now;omega)
 obtain⟨en,al⟩:=Je es.length
 rw[←al]at aq cJ
 rw[Xb,←al]
 have cU:Z8 F Me:=fun y hy hm=>by have h1:=cz y hm;have r:=H9.lt y hy;omega
 have T:=D (show Zfb b P va w F dg s es 0 (.slice Ae en ce) Me vp vl F from⟨bw,(Zi.refl w F).upd0 (cg.trans ah (by simp)),aq,cU⟩)
 have bW:=Jx 7 bw.blk.1
 have bD:=D (aV.upd ah (by simp));have bC:=D (aW.upd ah (by simp))
 clear aq cz cu dL cU bw ah N;change Hid _ at al
 go_wp2_with fail
 refine⟨_,fun W d=>d,⟨bW,bD.out,bC.out⟩,?_⟩
 repeat first|refine Jn ?_|refine Jf ?_|refine Ju ?_
 refine ZL ?_
 clear bD bC aV aW bW cK bn a7 bl a1 a6 a9 bX HJ
 go_wp2_with fail
 go_loopw[11,56] (fun _ s56 wr=>∃(kk:Nat) (vp1 vl1:Value) (F1:List Nat),kk≤en∧s56= .int .i64 kk∧Hid (Zfb b P va w F wr s es kk (.slice Ae en ce) Me vp1 vl1 F1)) (fun _ s56 _=>en-(intOf s56).toNat)
 case atStart=>exact⟨0,vp,vl,F,Xn _,rfl,T⟩
 case round=>
  clear T
  obtain⟨kk,vp1,vl1,F1,dV,rfl,T⟩:=hrel
  by_cases bo:kk<en
  ·obtain⟨y,hy⟩:∃y,es[kk]? =some y:=⟨_,Xa (by rw[←al.out];exact bo)⟩
   obtain⟨ge,dZ,e1,cF⟩:∃ge,∃(_:Unit),Ae=some ⟨ge,0,none⟩∧Zb wr ge (kk*6) (Zo y):=by
    obtain⟨A',c',e,_,aM⟩:=T.row.lies
    injection e with e _ _
    obtain⟨ge,e2,h3⟩:=aM kk (Zo y) (by rw[Xe,hy];rfl)
    exact⟨ge,(),e.trans e2,h3⟩
   subst e1
   have dB:=D cF
   have HY:=D hy
   clear cF hy
   obtain⟨aQ,ax⟩:=Je (wr.alloc (.cells #[.string ⟨#[]⟩, .string ⟨#[]⟩, .bool false, .string ⟨#[]⟩, .string ⟨#[]⟩, .int .u64 0] 272))
   obtain⟨X,aT⟩:=Je wr.heap.size
   have bY:=D (show aQ.heap[X]? =some (.cells #[.string ⟨#[]⟩, .string ⟨#[]⟩, .bool false, .string ⟨#[]⟩, .string ⟨#[]⟩, .int .u64 0] 272 (0,0))by rw[ax,aT];exact Za _)
   obtain⟨aP,aC⟩:=Je (aQ.setRow X (Zo y).toArray)
   have bP:=D (show aP.heap[X]? =some (.cells (Zo y).toArray 272 (0,0))by rw[aC];exact setRow_heap _ _ _ _ _ _ bY)
   have bZ:Zg [] wr aP:=(show Zg [] wr aQ by rw[ax];exact(Zg.refl [] wr).alloc _).trans (show Zg [X] aQ aP by rw[aC];exact(Zg.refl _ _).setRow (.inr (by simp)) _) (fun k I=> .inl (by rw[Jm I,aT];exact Xi _))
   obtain⟨dr,aA⟩:=Je aP.drew
   have ba:=Jd aA
   have aj:=T.upd0 (bZ.trans ba (by simp))
   have ay:=D aj
   have N:=Jx 7 aj.at_.blk.1
   have aX:=Jx 10 aj.at_.blk.1
   have cw:=D (show Zb dr X 0 (Zo y)from Zb.of_block ((ba.block X (Jg bP) (by simp)).trans bP))
   obtain⟨GC,b4,_,bR⟩:=aj.at_.cache
   have dh:=D b4;have c2:=D bR
   have dP:=D (show(Zo y).toArray.all (·.oneCell')=true by rw[Xl,Xk];exact ZbA _)
   clear bZ ba aj b4 bR;change Hid _ at ax aC aA aT
   go_upto_region 9 with(first|(refine Jl dB ZcO ?_)|(rw[←ax.out,←aT.out];refine Jo (Zo y).toArray bY ZcO dP ?_;rw[←aC.out]))
   refine Jr [0,4,8,12,16,20,24,28,32,37,42] (fun W=>W.cell? ⟨b,10,none⟩=some (.pointer (some ⟨P.cache,0,none⟩))∧W.cell? ⟨b,7,none⟩=some (.pointer (some ⟨P.clock,0,none⟩))∧Zb W X 0 (Zo y)) (by have q1:=cw.out;rw[aA.out]at N aX q1;exact⟨aX,N,q1⟩) ?_
   repeat first|refine Jn ?_|refine Jf ?_|refine Ju ?_
   apply Zq (t:= 272) (x:= .tmp 11) (b:=X) (of:=0) (cs:=Zo y)
   case ho=>simp only[Xh,Xf,Xg];rfl
   case hg=>rfl
   case hop=>rfl
   case hx=>rfl
   case ht=>exact ZcO
   case hb=>exact fun W d=>d.2.2
   case ha=>go_simp;rfl
   repeat first|refine Jn ?_|refine Jf ?_|refine Ju ?_
   refine JE ?_
   simp only[Xu]
   rw[←aA.out]
   go_wp2_with fail
   refine(Za5 ay.at_.clock.1).mono ?_
   rintro e W ⟨rfl,d⟩
   rw[d]
   clear d W
   go_wp2_with fail
   refine⟨_,fun W d=>d,⟨aX,N,cw.out⟩,?_⟩
   refine JL ?_
   go_wp2_with fail
   refine(Zpg dh (Xj (ZhT Q _) (by omega)) (by omega) y s.now).mono ?_
   rintro e b2 ⟨vv,rfl,d4,bM,b0⟩
   obtain⟨cd,b7,bh⟩:=c2.out b2 _ _ bM b0
   obtain⟨cL,bJ⟩:=YG.frame (Zd _ _ _ _) ay.row ay.ap bh
   have HN:=D (show Zfb b P va w F b2 s es (kk+1) (.slice (some ⟨ge,0,none⟩) en ce) Me vp1 vl1 cd from⟨by rw[Zko HY.out];exact b7,ay.grows.trans bh,cL,bJ⟩)
   have eg:kk<3000000:=by have:=cJ.out;omega
   clear b7 bh cL bJ bM b0 N aX
   go_wp2_with fail
   refine Jz ?_
   go_wp2_with fail
   exact⟨⟨kk+1,vp1,vl1,cd,by omega,by go_num,HN⟩,by simp[intOf];omega⟩
  ·obtain rfl:kk=en:=by omega
   obtain⟨cc,ai⟩:=Je wr.drew
   have a8:=Jd ai
   have ar:=T.at_.upd0 a8
   rw[al.out,Xm]at ar
   have f0:cc.cell? ⟨q,0,none⟩=some (.int .i64 x.num):=Zc (i:=0) (ar.flight HQ HX).1 rfl
   have f2:cc.cell? ⟨q,2,none⟩=some (.int .i64 x.conn):=Zc (i:=2) (ar.flight HQ HX).1 rfl
   have bL:=D (show ZW {s with cache:=ZbZ s es} n m from{Q.out with ca:=ZhT Q es})
   have dU:=D (show Lk.Safe {s with cache:=ZbZ s es}from HS.out)
   have dM:=D ar;have dK:=D (T.grows.upd0 a8)
   clear a8 ar T;change Hid _ at ai
   go_upto_region 11 with fail
   refine Jr [0,4,8,12,16,20,24,28,32,36,40,46] (fun W=>W.cell? ⟨q,0,none⟩=some (.int .i64 x.num)∧W.cell? ⟨q,2,none⟩=some (.int .i64 x.conn)) (by rw[ai.out]at f0 f2;exact⟨f0,f2⟩) ?_
   repeat first|refine Jn ?_|refine Jf ?_|refine Ju ?_
   refine JL ?_
   simp only[Xu]
   rw[←ai.out]
   go_wp2_with fail
   refine(Zag dM (Xj bL.log (by omega)) _ _ _ _ _ _ _).mono ?_
   rintro e ei ⟨rfl,bO,ea,cY,cC⟩
   have bB:=D (bL.tell 5 ((i0:Int)+1) x.num x.conn 0)
   have dY:=D (dU.tell 5 ((i0:Int)+1) x.num x.conn 0)
   have b6:=D cY;have dW:=D (dK.trans cC)
   clear cY cC f0 f2 ai
   go_wp2_with fail
   refine Jz ?_
   go_wp2_with fail
   refine(Zd4 b6 bB (by omega) HQ (x:=x) HX HS.out.2.pn _).mono ?_
   rintro e bd ⟨rfl,bS,dC,ck,ch,cT,cI⟩
   have az:bd.heap[q]? =some (.cells (ZbV x).toArray 259 (0,0)):=cI.trans (b6.flight HQ HX).1
   obtain⟨cG,af⟩:=Je bd.drew
   have aw:=Jd af
   have ao:=ck.upd0 aw
   have Z:=Jx 14 ao.blk.1
   have k0:cG.cell? ⟨q,0,none⟩=some (.int .i64 x.num):=by rw[af];exact Zc (w:=bd) (i:=0) az rfl
   have bQ:Own cG q (ZbV x).toArray 259 dC:=⟨(aw.block q (Jg az) (by simp)).trans az,cT⟩
   obtain⟨S5,ak⟩:=Je (forgetS (ZR {s with cache:=ZbZ s es} 5 ((i0:Int)+1) x.num x.conn 0) x true)
   have bK:=D (bB.forget x true)
   rw[←ak]at ao bK
   have a2:S5.shares=s.shares:=by rw[ak,(ZbP _ _ _).1];rfl
   have bT:S5.all=s.all:=by rw[ak,ZeQ];rfl
   have cX:=D (ZnA ao bK (by omega) x.num (k:=k) (o:=o) (by rw[a2];exact HK) (by rw[a2];exact HO))
   have b8:=D (show judgeV s x k l es={S5 with shares:=S5.shares.eraseIdx k}by rw[ak,(ZbP _ _ _).1,dO.symm,au.out];rfl)
   have cM:=D (Q.judgeV x HK l es)
   have cl:=D (HS.judgeV (Xc HX) HK l es)
   have d8:=D ao;have dA:=D ((dW.trans ch).upd0 aw);have df:=D bQ
   clear ck ch cT cI az aw ao bQ ak a2;change Hid _ at bT af
   go_upto_region 13 with fail
   refine Jr [0,4,8,12,16,20,24,28,40,33,36] (fun W=>W.cell? ⟨b,14,none⟩=some (.pointer (some ⟨P.shares,0,none⟩))∧W.cell? ⟨q,0,none⟩=some (.int .i64 x.num)) (by rw[af.out]at Z k0;exact⟨Z,k0⟩) ?_
   repeat first|refine Jn ?_|refine Jf ?_|refine Ju ?_
   refine JE ?_
   simp only[Xu]
   rw[←af.out]
   go_wp2_with fail
   refine cX.out.mono ?_
   rintro e cH ⟨v9,M9,ci,rfl,aZ,be,ad,bN,_⟩
   rw[←S.out]at ad
   rw[←b8.out]at aZ
   obtain⟨g9,cA9,rfl,cZ,dy,_⟩:=Zdx ad a4.out.1
   have a3:=df.step be
   have bE:=Jx 14 aZ.blk.1
   have bH:cH.cell? ⟨q,0,none⟩=some (.int .i64 x.num):=a3.cell rfl
   rw[←ac.out]at ad
   rw[←ac.out]
   have bU:=D (show ZdS b P va w F cH (n+1) m (judgeV s x k l es) l x q 0 (.slice (some ⟨g9,0,none⟩) ln cA9) M9 (judgeV s x k l es) (P.qps.eraseIdx j) bS bO ci from
    ⟨aZ,dA.trans be,cM.out,cl.out,rfl,rfl,ad,bN,fun y hy=>by
     have e:(judgeV s x k l es).all=s.all:=by rw[b8.out];exact bT.out
     rw[e];exact a4.out.2 y hy,a3⟩)
   clear aZ be ad bN cZ dy a3 Z k0 cX cM cl
   go_wp2_with fail
   refine⟨_,fun W d=>d,⟨bE,bH⟩,?_⟩
   repeat first|refine Jn ?_|refine Jf ?_|refine Ju ?_
   refine ZL ?_
   clear bE bH
   go_wp2_with fail
   go_loopw[13,14,97] (fun _ _ s97 wq=>∃(kk:Nat) (sc:Zf) (q1:List Nat) (vp1 vl1:Value) (F1:List Nat),s97= .int .i64 kk∧kk≤ln∧Hid (ZdS b P va w F wq (n+1) m (judgeV s x k l es) l x q kk (.slice (some ⟨g9,0,none⟩) ln cA9) M9 sc q1 vp1 vl1 F1)) (fun _ _ s97 _=>ln-(intOf s97).toNat)
   case atStart=>exact⟨0,judgeV s x k l es,P.qps.eraseIdx j,bS,bO,ci,rfl,Xn _,bU⟩
   case round=>
    clear bU
    obtain⟨kk,sc,q1,vp1,vl1,F2,rfl,dV,C⟩:=hrel
    by_cases bo:kk<ln
    ·obtain⟨i,p,g,hx,hg,hp,gg,c1,br,k1⟩:=C.elem (by rw[←ac.out];exact bo)
     injection br with av dS dt
     clear dS
     injection av with av
     injection av with av _ _
     subst av;subst dt
     have h0:=C.at_
     obtain⟨vh,lb,vb,hb,_⟩:=h0.fcell hp hg
     have dH:=Jx 15 hb
     have dp:=Jx 16 hb
     have dI:wr.frozen? ⟨p,15,none⟩=false:=Zk hb
     have di:wr.frozen? ⟨p,16,none⟩=false:=Zk hb
     obtain⟨_,F3,h1,g1⟩:=h0.setFCell hp hg 15 (.bool true) {g with cleared:=true} (fun _ _ _ _=>rfl) rfl rfl rfl
     obtain⟨wa,bt⟩:=Je (wr.setCell ⟨p,15,none⟩ (.bool true))
     rw[←bt]at h1 g1
     have cp:=ZP (f':={g with cleared:=true}) hg
     obtain⟨_,F4,r,g2⟩:=h1.setFCell hp cp 16 (.int .i64 0) {g with cleared:=true,pre:=0} (fun _ _ _ _=>rfl) rfl rfl rfl
     obtain⟨wb,bu⟩:=Je (wa.setCell ⟨p,16,none⟩ (.int .i64 0))
     rw[←bu]at r g2
     rw[List.set_set]at r
     have bs:=ZP (f':={g with cleared:=true,pre:=0}) hg
     obtain⟨d5,dD,ct,bF⟩:=r.life hp bs
     have dm:=D hx;have cy:=D hg;have cW:=D hp
     have ed:=D r;have b1:=D (g1.trans g2);have du:=D ct;have de:=D bF;have ee:=D bs
     clear hx hg hp h0 hb h1 g1 cp r g2 bs ct bF;change Hid _ at bt bu
     go_wp2_with fail
     refine(ZaF C.at_ (by have:=C.fit.all;omega) cW _ rfl).mono ?_
     rintro e W ⟨rfl,d⟩
     rw[d]
     clear d W
     go_upto_region 18 with fail
     rw[←bt.out,←bu.out]
     go_wp2_with fail
     refine(ZcP du 2).mono ?_
     rintro e wc ⟨rfl,b9,cb⟩
     obtain⟨F5,h5,g5⟩:=de.out wc _ b9 cb
     rw[List.set_set]at h5
     have bk:=(C.fl.step b1).step g5
     have q0:wc.cell? ⟨q,0,none⟩=some (.int .i64 x.num):=bk.cell rfl
     have H5:=D h5;have G5:=D (b1.trans g5);have dX:=D bk
     clear b9 cb h5 g5 bk dH dp dI di dD k1
     go_wp2_with fail
     refine(Zag H5 (by have:=C.fit.log;dsimp only;omega) _ _ _ _ _ _ _).mono ?_
     rintro e wd ⟨rfl,ef,F6,h6,g6⟩
     obtain⟨we,aJ⟩:=Je wd.drew
     have aF:=Jd aJ
     have h7:=h6.upd0 aF
     have c9:=Jx 9 h7.blk.1
     have cv:=ZP (f':={g with cleared:=true,pre:=0,state:=goL g.state 2}) cy.out
     have dN:=D (h7.fcell cW cv)
     have H7:=D h7;have G7:=D ((G5.trans g6).upd0 aF);have dq:=D ((dX.step g6).upd0 aF)
     clear h6 g6 aF h7 cv q0;change Hid _ at aJ
     go_upto_region 20 with fail
     refine Jr [0,4,8,12,16,21,26] (fun W=>W.cell? ⟨b,9,none⟩=some (.pointer (some ⟨P.queue,0,none⟩))) (by rw[aJ.out]at c9;exact c9) ?_
     repeat first|refine Jn ?_|refine Jf ?_|refine Ju ?_
     refine JE ?_
     simp only[Xu]
     rw[←aJ.out]
     go_wp2_with fail
     obtain⟨d7,d2,d9,cn,_⟩:=dN.out
     refine(Zis cn).mono ?_
     clear cn
     rintro e wf ⟨rfl,aY⟩
     have h8:=H7.upd0 aY
     have cP:=Jx 9 h8.blk.1
     obtain⟨GQ,co,_,bV⟩:=h8.queue
     have dQ:=D co;have c0:=D bV;have G8:=D (G7.upd0 aY);have dk:=D (dq.upd0 aY)
     clear h8 co bV aY c9
     go_wp2_with fail
     refine⟨_,fun W d=>d,cP,?_⟩
     refine JL ?_
     go_wp2_with fail
     refine(ZgI dQ (Xj C.fit.q (by omega)) _).mono ?_
     rintro e wg ⟨cq,rfl,G9,cx,cN⟩
     obtain⟨F9,O,g9⟩:=c0.out _ _ _ cx cN
     have dd:=D (C.next dm cy O (G8.trans g9) (dk.step g9))
     clear cx cN O g9 cP
     go_wp2_with fail
     refine Jz ?_
     go_wp2_with fail
     exact⟨⟨kk+1,_,_,_,_,_,by go_num,by omega,dd⟩,by simp[intOf];omega⟩
    ·obtain rfl:kk=ln:=by omega
     have dF:=D (show R=sc by rw[bc.out,C.res,ac.out,Xm])
     go_wp2_with fail
     (try simp only[Exit.inBlock,Exit.then])
     first|refine bodyPost_ret (results_none rfl _ _ _) rfl ?_|refine bodyPost_end (results_none rfl _ _ _) rfl ?_
     rw[dF.out]
     exact⟨rfl,q1,vp1,vl1,F2,C.at_,C.grows⟩
end
theorem Zni:Zu Tryz.prog 47 18=true:=by kernel_rfl
section
variable {w:World} {b:Nat} {P:YI} {s:Zf} {va vp vl:Value} {F:List Nat}
theorem Zh.newBody (h:Zh w b P lk s va vp vl F) {i p:Nat} (hp:P.fps[i]? =some p) (hf:s.all[i]? =some f) (st:Za7) {vb':Value} {Gb':List Nat} (hu:Zg [] w w1) (hl:Zbf vb' (some st) w1 Gb') (hn:∀k∈Gb',w.heap.size≤k)
  {w2:World} (hw2:w2=w1.setCell ⟨p,18,none⟩ vb'):
  (∃v0,w1.cell? ⟨p,18,none⟩=some v0)∧w1.frozen? ⟨p,18,none⟩=false∧∃F1,Zh w2 b P lk {s with all:=s.all.set i {f with body:=some st}} va vp vl F1∧Zi w w2 F F1:=by
 obtain⟨o,n,q,l,m,c,j,d⟩:=h.fetch hp hf
 have a:=(hu.block p (Jg c.blk) (by simp)).trans c.blk
 refine⟨⟨_,Zc (i:=18) a rfl⟩,Zk a,?_⟩
 obtain⟨g,e⟩:=c.newBody (some st) hu hl hn (w2:=w2) (by rw[hw2];exact(Zg.refl [p] w1).setCell (.inr (by simp)) _) (by rw[hw2,Ze a];rfl)
 exact d _ _ lk _ _ _ _ _ (fun _ _=>rfl) g e
theorem Zj9 (h:Zh w b P none s va vp vl F) (hfit:ZW s n m) (hs:Lk.Safe s) (hE:Env w) (hn:n≤500000) (hm:m≤10000) (a:ZbQ) (vi vb vr:Value) (A:Option Addr) (c:Nat) (hA:Zay w A a.headers) (hT:Zaw a.headers):
  Calls Tryz.prog 44 #[.pointer (some ⟨b,0,none⟩), .agg (Zbq a vi (.slice A a.headers.length c) vb vr).toArray] w (ZcD b P (answerS s a.id a.status a.headers).1 (answerS s a.id a.status a.headers).2 va w F):=by
 obtain⟨R,J⟩:=Je (answerS s a.id a.status a.headers)
 rw[←J]
 obtain⟨o,Y⟩:=Je (w.alloc (.cells (Zbq a vi (.slice A a.headers.length c) vb vr).toArray 47))
 obtain⟨G,ac⟩:=Je w.heap.size
 have E:=Ja Y
 have ag:o.heap[G]? =some (.cells (Zbq a vi (.slice A a.headers.length c) vb vr).toArray 47 (0,0)):=by rw[Y,ac];exact Za _
 have Q:=h.upd0 E
 have k1:=Jx 1 ag
 have Z:=D (Zhf Q (by have:=hfit.all;omega) (by have:=hfit.pres;omega) a.id)
 have bz:=Zg7 Q a.id
 obtain⟨T,HC⟩:=Je (Zcd a.headers)
 have be:=D (show∀W,Zg [] w W→Calls Tryz.prog 87 #[.slice A a.headers.length c] W (fun e y=>e= .returned (.int .i64 T)∧Zg [] W y)from fun W d=>by
  rw[HC];exact Zgl a.headers A c W (hA.upd0 d) (by have:=hT.1;omega) (Zaw.few hT))
 have H1:=D Q;have bW:=D ag;have bY:=D J;have ak:=D hfit;have HS:=D hs;have HE:=D hE;have a7:=D hA;have aG:=D hT
 have S:=D (show∀W,Zg [] o W→W.cell? ⟨G,5,none⟩=some (.int .i64 a.status)∧W.cell? ⟨G,6,none⟩=some (.slice A a.headers.length c)∧Zb W G 0 (Zbq a vi (.slice A a.headers.length c) vb vr)from fun W d=>by
  have e:=(d.block G (Jg ag) (by simp)).trans ag
  exact⟨Zc (i:=5) e rfl,Zc (i:=6) e rfl,Zb.of_block e⟩)
 obtain⟨l,X⟩:=Je a.status
 clear ag hA hT hE;change Hid _ at Y ac E HC X
 rcases bz with⟨u1,u2⟩|⟨i,f,p,hf,hp,M,aK,u1,u2⟩|⟨j,x,q,hx,hq,M,aK,u1,u2⟩
 ·have L:=D (show R=(s,11)by rw[J];unfold answerS;rw[u1];rfl)
  have HQ:=D (show Calls Tryz.prog 86 #[.pointer (some ⟨b,0,none⟩), .int .i64 a.id] o fun e y=>e= .returned (.tuple #[.pointer none, .pointer none])∧y=o by have q:=Z.out;rw[u2]at q;exact q)
  clear h Q u1 u2 Z J hfit hs
  go_enter Tryz.func44,Tryz.ntmps44
  go_upto_region 1 with fail
  rw[←Y.out,←ac.out]
  go_wp2_with fail
  refine HQ.out.mono ?_
  rintro e W ⟨rfl,d⟩
  rw[d]
  clear d W
  go_wp2_with fail
  go_ret
  rw[L.out]
  exact ZcD.of_same H1 (Zi.refl w F|>.upd0 E)
 ·have am:=hs.1 i f hf
  have L:=D (show R=if f.state≠4 then(s,12)else if T≠0 then(s,T)else if l<200∨599<l then(s,14)else
    if f.req.mode=3∧ZfJ f.req=true∧Zfm f.req.origin f.req.creds a.headers≠0 then(overS s ((i:Int)+1) 8,0)
    else({ZR s 9 ((i:Int)+1) 0 f.conn l with all:=s.all.set i {f with state:=goL f.state 5,body:=some (Ze5 s.conf.high s.conf.low)}},0)by
   rw[J,HC.out,X.out]
   unfold answerS
   rw[u1]
   simp only[Option.isNone_some,Bool.false_and,Bool.false_eq_true,if_false,Option.map_some,Option.some.injEq,decide_eq_true_eq]
   rw[show overS s f.id 8=overS s ((i:Int)+1) 8 by rw[am],show setF (ZR s 9 f.id 0 f.conn a.status) f.id=setF (ZR s 9 ((i:Int)+1) 0 f.conn a.status) ((i:Int)+1)by rw[am],YT (s:=ZR s 9 ((i:Int)+1) 0 f.conn a.status) hf]
   rfl)
  have HQ:=D (show Calls Tryz.prog 86 #[.pointer (some ⟨b,0,none⟩), .int .i64 a.id] o fun e y=>e= .returned (.tuple #[.pointer (some ⟨p,0,none⟩), .pointer none])∧y=o by have q:=Z.out;rw[u2]at q;exact q)
  obtain⟨lb,bK,hl,_⟩:=Q.life hp hf
  have ay:=D (Zed hl)
  obtain⟨st,aH⟩:=Je f.state
  rw[←aH]at L ay
  have HP:=D hp;have HF:=D hf;have bB:=D am
  clear h Q u1 u2 Z J hfit hs am hl hp hf M aK;change Hid _ at aH
  go_enter Tryz.func44,Tryz.ntmps44
  go_upto_region 1 with fail
  rw[←Y.out,←ac.out]
  go_wp2_with fail
  refine HQ.out.mono ?_
  rintro e W ⟨rfl,d⟩
  rw[d]
  clear d W
  have k6:=(S.out o (Zg.refl _ _)).2.1
  by_cases h4:st=4
  case neg=>
   have N:=D (L.trans (if_pos h4))
   go_wp2_with fail
   refine ay.out.mono ?_
   rintro e W ⟨rfl,d⟩
   rw[←d]
   clear d W
   go_wp2_with fail
   go_ret
   rw[N.out]
   exact ZcD.of_same H1 (Zi.refl w F|>.upd0 E)
  case pos=>
   have N:=D (L.trans (if_neg (by omega)))
   subst h4
   go_wp2_with fail
   refine ay.out.mono ?_
   rintro e W ⟨rfl,d⟩
   rw[←d]
   clear d W
   go_wp2_with fail
   refine(be.out o E).mono ?_
   rintro e z ⟨rfl,g⟩
   have ah:=D g
   have C:=Jt E g
   have H:=D (H1.upd0 g)
   have k5:z.cell? ⟨G,5,none⟩=some (.int .i64 l):=by rw[X.out];exact(S.out z g).1
   clear g k1 k6
   by_cases ad:T=0
   case neg=>
    have r:=D (N.trans (if_pos ad))
    go_wp2_with fail
    go_ret
    rw[r.out]
    exact ZcD.of_same H (Zi.refl w F|>.upd0 C)
   case pos=>
   have r:=D (N.trans (if_neg (by omega)))
   subst ad
   by_cases s1:l<200
   ·have O:=D (r.trans (if_pos (.inl s1)))
    go_wp2_with fail
    go_ret
    rw[O.out]
    exact ZcD.of_same H (Zi.refl w F|>.upd0 C)
   by_cases s2:599<l
   ·have O:=D (r.trans (if_pos (.inr s2)))
    go_wp2_with fail
    go_ret
    rw[O.out]
    exact ZcD.of_same H (Zi.refl w F|>.upd0 C)
   have af:=D (r.trans (if_neg (by omega)))
   have g:=ah.out
   obtain⟨I,aA,aX,bX,bQ,bg⟩:=H.req ak HP HF.out
   obtain⟨w4,ao⟩:=Je (z.alloc (.cells #[.string ⟨#[]⟩, .string ⟨#[]⟩, .string ⟨#[]⟩, .int .i64 0, .bool false, .slice none 0 0, .int .i64 0, .int .u64 0, .int .i64 0, .int .i64 0] 43))
   obtain⟨K,al⟩:=Je z.heap.size
   have a5:=D (show w4.heap[K]? =some (.cells #[.string ⟨#[]⟩, .string ⟨#[]⟩, .string ⟨#[]⟩, .int .i64 0, .bool false, .slice none 0 0, .int .i64 0, .int .u64 0, .int .i64 0, .int .i64 0] 43 (0,0))by rw[ao,al];exact Za _)
   obtain⟨w5,ap⟩:=Je (w4.setRow K (Zv f.req I).toArray)
   have ae:w5.heap[K]? =some (.cells (Zv f.req I).toArray 43 (0,0)):=by rw[ap];exact setRow_heap _ _ _ _ _ _ a5.out
   have aq:Zg [] z w5:=(show Zg [] z w4 by rw[ao];exact(Zg.refl [] z).alloc _).trans (show Zg [K] w4 w5 by rw[ap];exact(Zg.refl _ _).setRow (.inr (by simp)) _) (fun k hk=> .inl (by rw[Jm hk,al];exact Xi _))
   have aj:=Jt ah aq
   have aO:=Jt E aj.out
   have bn:=D (aA.upd0 aq)
   have bp:=D (Zb8 f.req I (by obtain⟨A',c',e,_⟩:=aA.at_;rw[e];rfl))
   have bf:=D aX
   have bt:=D (show Zb w5 K 0 (Zv f.req I)from Zb.of_block ae)
   obtain⟨md,aD⟩:=Je f.req.mode
   obtain⟨cx,aL⟩:=Je (ZfJ f.req)
   obtain⟨cc,M⟩:=Je (Zfm f.req.origin f.req.creds a.headers)
   have m3:w5.cell? ⟨K,3,none⟩=some (.int .i64 md):=by rw[aD];exact Zc (i:=3) ae rfl
   have H5:=D (H1.upd0 aj)
   have bC:=D (show Calls Tryz.prog 89 #[.agg (Zv f.req I).toArray] w5 (fun e y=>e= .returned (.bool cx)∧Zg [] w5 y)by rw[aL];exact ZjE f.req I w5 bn (HE.upd0 aO))
   have bs:=D (show∀W,Zg [] w W→Calls Tryz.prog 90 #[.string ⟨f.req.origin.toArray⟩, .bool f.req.creds, .slice A a.headers.length c] W (fun e y=>e= .returned (.int .i64 cc)∧Zg [] W y)from fun W d=>by
    rw[M];exact ZiD f.req.origin f.req.creds a.headers A c W (a7.upd0 d) (by have:=aG.out.1;omega) (Zaw.few aG))
   rw[←aD,←aL,←M]at af
   clear g aA aX bg aq aD aL M;change Hid _ at ao ap al ae
   go_upto_region 15 with(first|(refine Jl bf Yp ?_)|(rw[←ao.out,←al.out];refine Jo (Zv f.req I).toArray a5 Yp bp ?_;rw[←ap.out]))
   dsimp only[Act.put]
   go_cut [72]from 56 to 71 (fun s72 wx=>s72= .bool (decide (md=3∧cx=true∧cc≠0))∧Hid (Zg [] w5 wx))
   case first=>
    by_cases h3:md=3
    case neg=>
     go_wp2_with fail
     go_meet
     exact⟨by simp[h3],D (Zg.refl _ _)⟩
    case pos=>
    subst h3
    go_wp2_with(refine ZbS (by go_simp) 43 (.tmp 8) rfl K 0 (Zv f.req I) rfl Yp bt ?_)
    refine bC.out.mono ?_
    rintro e w6 ⟨rfl,ab⟩
    have aU:=D ab
    cases cx with
    |false=>
     go_wp2_with fail
     go_meet
     exact⟨by simp,aU⟩
    |true=>
     have aF:=(ab.block K (Jg ae) (by simp)).trans ae.out
     have m2:=Jx 2 aF
     have m4:=Jx 4 aF
     have bT:=(S.out w6 (aj.trans ab (by simp))).2.1
     have bA:=D (bs.out w6 (aO.trans ab (by simp)))
     clear aF ab
     go_wp2_with fail
     refine bA.out.mono ?_
     rintro e w7 ⟨rfl,a2⟩
     have aV:=Jt aU a2
     clear a2
     by_cases h0:cc=0
     ·subst h0
      go_wp2_with fail
      go_meet
      exact⟨by simp,aV⟩
     ·go_wp2_with fail
      go_meet
      exact⟨by simp[h0],aV⟩
   case rest=>
    obtain⟨rfl,ar⟩:=hcut
    rename World=>wq
    have a4:=Jt aO ar.out
    have Hq:=D (H5.upd0 ar)
    have kq:=(S.out wq (aj.trans ar (by simp))).1
    rw[←X.out]at kq
    clear k5 m3
    by_cases V:md=3∧cx=true∧cc≠0
    case pos=>
     have aN:=D (af.trans (if_pos V))
     rw[decide_eq_true V]
     clear V
     go_wp2_with fail
     refine(ZfL Hq ak HS (by omega) (by omega) HP HF 8 (by omega)).mono ?_
     rintro e w9 ⟨rfl,q9,aE,aI,F9,h9,g9⟩
     have H9:=D h9;have G9:=D (g9.pre0 a4)
     clear h9 g9
     go_wp2_with fail
     go_ret
     rw[aN.out]
     exact⟨rfl,q9,aE,aI,F9,H9.out,G9.out⟩
    case neg=>
     have aN:=D (af.trans (if_neg V))
     rw[decide_eq_false V]
     clear V
     obtain⟨a0,aa⟩:=Je wq.drew
     have ax:=Jd aa
     have aM:=Hq.upd0 ax
     obtain⟨bL,bR,bV,aC,_⟩:=aM.fcell HP HF.out
     have p0:a0.cell? ⟨p,0,none⟩=some (.int .i64 ((i:Int)+1)):=by rw[←bB.out];exact Zc (i:=0) aC rfl
     have aJ:=Jx 17 aC
     have aP:a0.cell? ⟨G,5,none⟩=some (.int .i64 l):=by rw[aa];exact kq
     have bw:=D aM;have bo:=Jt a4 ax
     clear ax aM aC kq bK;change Hid _ at aa
     go_upto_region 18 with fail
     refine ZX [(0,0),(1,0),(2,0),(3,0),(4,0),(5,0),(6,0),(7,0),(8,0),(9,0),(10,0),(11,0),(12,2)] (fun W=>W.cell? ⟨p,0,none⟩=some (.int .i64 ((i:Int)+1))∧W.cell? ⟨p,17,none⟩=some (.int .i64 f.conn)∧W.cell? ⟨G,5,none⟩=some (.int .i64 l)) (by kernel_rfl) (by kernel_rfl) (fun c a w t v h=>by cases t<;>exact h) (by rw[aa.out]at p0 aJ aP;exact⟨p0,aJ,aP⟩) ?_
     repeat first|refine Jn ?_|refine Jf ?_|refine Ju ?_
     refine JL ?_
     simp only[Xu]
     rw[←aa.out]
     go_wp2_with fail
     refine(Zag bw (Xj ak.log (by omega)) _ _ _ _ _ _ _).mono ?_
     rintro e bO ⟨rfl,bi,bN,a1,a9⟩
     have aW:(ZR s 9 ((i:Int)+1) 0 f.conn l).all[i]? =some f:=HF.out
     obtain⟨bU,bk,aY,aQ⟩:=a1.life HP aW
     have bE:=D aY;have bl:=D aQ;have bJ:=D (a9.pre0 bo)
     clear a1 a9 aW aY aQ p0 aJ aP
     go_wp2_with fail
     refine Jz ?_
     go_wp2_with fail
     refine(ZcP bE 5).mono ?_
     rintro e a3 ⟨rfl,aS,g⟩
     obtain⟨bM,a6,ba⟩:=bl.out a3 _ aS g
     obtain⟨bD,ai⟩:=Je a3.drew
     have aw:=Jd ai
     have an:=a6.upd0 aw
     have aT:=ZP (f':={f with state:=goL f.state 5}) HF.out
     have c2:=Jx 2 an.blk.1
     have c3:=Jx 3 an.blk.1
     have aZ:=D an;have bI:=D ((bJ.trans ba).upd0 aw);have bj:=D aT
     clear aS g a6 ba aw an aT bk;change Hid _ at ai
     go_upto_region 20 with fail
     refine Jr [0,4,8,12,16,20,24,28,32,36,40,45,48,52,58] (fun W=>W.cell? ⟨b,2,none⟩=some (.int .i64 s.conf.high)∧W.cell? ⟨b,3,none⟩=some (.int .i64 s.conf.low)) (by rw[ai.out]at c2 c3;exact⟨c2,c3⟩) ?_
     repeat first|refine Jn ?_|refine Jf ?_|refine Ju ?_
     refine JE ?_
     simp only[Xu]
     rw[←ai.out]
     go_wp2_with fail
     refine(Zqw bD s.conf.high s.conf.low _ _ rfl rfl).mono ?_
     rintro e br ⟨sb,b4,bd,rfl,aR,au,n1,n2,n3⟩
     have aB:=aZ.upd0 au
     have bc:=Jx 2 aB.blk.1
     have bb:=Jx 3 aB.blk.1
     obtain⟨bS,av⟩:=Je (br.setCell ⟨p,18,none⟩ (.pointer (some ⟨sb,0,none⟩)))
     obtain⟨⟨bP,bH⟩,bm,bq,az,a8⟩:=aZ.newBody HP bj (Ze5 s.conf.high s.conf.low) (vb':= .pointer (some ⟨sb,0,none⟩)) (Gb':=[sb,b4,bd]) au ⟨sb,b4,bd,_,_,rfl,rfl,by unfold Ze5;dsimp only;omega,by unfold Ze5;dsimp only;omega,aR,fun e=>by cases e⟩ (fun k hk=>by
      simp only[List.mem_cons,List.not_mem_nil,or_false]at hk
      rcases hk with rfl|rfl|rfl<;>assumption) av
     rw[List.set_set]at az
     have bv:=D az;have bu:=D (bI.trans a8);have bh:=D av
     clear aR au n1 n2 n3 aB av az a8 c2 c3
     go_wp2_with fail
     refine⟨_,fun W d=>d,⟨bc,bb⟩,?_⟩
     repeat first|refine Jn ?_|refine Jf ?_|refine Ju ?_
     refine JL ?_
     go_wp2_with fail
     rw[←bh.out]
     refine Jz ?_
     clear bc bb bH bm
     go_wp2_with fail
     go_ret
     rw[aN.out,show goL 4 5=goL f.state 5 by rw[←aH.out]]
     exact⟨rfl,P.qps,vp,bi,bq,bv.out,bu.out⟩
 ·have L:=D (show R=if T≠0 then(s,T)else if l<200∨599<l then(s,14)else(judgeS s x a.status a.headers,0)by
   rw[J,HC.out,X.out]
   unfold answerS
   rw[u1]
   simp only[Option.isNone_none,Option.isNone_some,Bool.and_false,Bool.false_eq_true,if_false,Option.map_none,reduceCtorEq])
  have HQ:=D (show Calls Tryz.prog 86 #[.pointer (some ⟨b,0,none⟩), .int .i64 a.id] o fun e y=>e= .returned (.tuple #[.pointer none, .pointer (some ⟨q,0,none⟩)])∧y=o by have q:=Z.out;rw[u2]at q;exact q)
  have bG:=D hq;have HX:=D hx
  have N:=L
  clear h Q u1 u2 Z J hfit hs M aK hx hq
  go_enter Tryz.func44,Tryz.ntmps44
  go_upto_region 1 with fail
  rw[←Y.out,←ac.out]
  go_wp2_with fail
  refine HQ.out.mono ?_
  rintro e W ⟨rfl,d⟩
  rw[d]
  clear d W
  have k6:=(S.out o (Zg.refl _ _)).2.1
  go_wp2_with fail
  refine(be.out o E).mono ?_
  rintro e z ⟨rfl,g⟩
  have ah:=D g
  have C:=Jt E g
  have H:=D (H1.upd0 g)
  have k5:z.cell? ⟨G,5,none⟩=some (.int .i64 l):=by rw[X.out];exact(S.out z g).1
  clear g k1 k6
  by_cases ad:T=0
  case neg=>
   have r:=D (N.trans (if_pos ad))
   go_wp2_with fail
   go_ret
   rw[r.out]
   exact ZcD.of_same H (Zi.refl w F|>.upd0 C)
  case pos=>
  have r:=D (N.trans (if_neg (by omega)))
  subst ad
  by_cases s1:l<200
  ·have O:=D (r.trans (if_pos (.inl s1)))
   go_wp2_with fail
   go_ret
   rw[O.out]
   exact ZcD.of_same H (Zi.refl w F|>.upd0 C)
  by_cases s2:599<l
  ·have O:=D (r.trans (if_pos (.inr s2)))
   go_wp2_with fail
   go_ret
   rw[O.out]
   exact ZcD.of_same H (Zi.refl w F|>.upd0 C)
  have af:=D (r.trans (if_neg (by omega)))
  have bF:=D (S.out z ah).2.2
  go_wp2_with(refine Jl bF Zni ?_)
  refine(ZkU H ak HS (HE.upd0 C) hn hm bG HX a vi vb vr A c (a7.upd0 C) aG).mono ?_
  rintro e w9 ⟨rfl,q9,aE,aI,F9,h9,g9⟩
  have H9:=D h9;have G9:=D (g9.pre0 C)
  clear h9 g9 k5
  go_wp2_with fail
  go_ret
  rw[af.out]
  exact⟨rfl,q9,aE,aI,F9,H9.out,G9.out⟩
end
end Go.Proofs.YtbgbeddbfaopgaaGreatDoor
