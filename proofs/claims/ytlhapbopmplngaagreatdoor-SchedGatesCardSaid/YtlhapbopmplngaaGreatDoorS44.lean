import Derived.Test.YtlhapbopmplngaaGreatDoorS42
import Derived.Test.YtlhapbopmplngaaGreatDoorS43
set_option linter.all false
set_option maxHeartbeats 16000000
set_option maxRecDepth 100000
set_option autoImplicit true
set_option relaxedAutoImplicit true
namespace Go.Proofs.YtlhapbopmplngaaGreatDoor
open Go.RowKit Go.Lk
def Zcm (a:ZaY) (vi vh vb vr:Value):List Value:=[.int .i64 a.op, .int .i64 a.id, .int .i64 a.n,vi, .int .u64 a.time, .int .i64 a.status,vh,vb]++Zt a.req vr
section
variable {w:World} {b:Nat} {P:Ym} {s:Ze} {va vp vl:Value} {F:List Nat}
theorem Zpr (h:Zh w b P none s va vp vl F) (hfit:ZQ s n m) (hn:n≤1000000) (num:Int) {o:ZE} (hk:s.shares.findIdx? (fun o=>o.num==num)=some k) (ho:s.shares[k]? =some o):
  Calls Tryz.prog 159 #[.pointer (some ⟨P.shares,0,none⟩), .int .i64 num] w fun e w'=>∃v M F1,e= .returned v∧Zh w' b P none {s with shares:=s.shares.eraseIdx k} va vp vl F1∧Zi w w' F F1∧Z6 v o.members w' M∧Z8 F1 M∧∀q∈M,q∈F:=by
 obtain⟨G,K,E,z⟩:=h.step3 (k:=11) rfl
 obtain⟨d,c,hg⟩:=K
 have g:d.findIdx? (fun p=>p.2.num==num)=some k:=by rw[←hk,←c,List.findIdx?_map];rfl
 have R:d.length=s.shares.length:=by rw[←c,Xb]
 have S:=hfit.sn
 have x:=Xa (Yv g)
 have C:(d[k]'(Yv g)).2=o:=by
  have e:=congrArg (fun l=>l[k]?) c
  rw[ho]at e
  simp only[Xe,x,Option.map_some]at e
  exact Option.some.inj e
 refine(Zei hg (by omega) num g x).mono ?_
 rintro e w' ⟨rfl,L,M,J,r,I,y,j,O⟩
 obtain⟨F1,Q,N,H⟩:=z w' (Zcd P.shares s.slast ((d.eraseIdx k).map (·.2))) L {s with shares:=s.shares.eraseIdx k} ⟨_,rfl,J⟩ ⟨O,fun q a=> .inl (y q a)⟩ (by unfold ZV;rw[←Y9,c];rfl) h.fl h.ql
 rw[C]at r
 exact⟨_,M,F1,rfl,Q,N,r,fun q a t=>by
  rcases H q a with⟨_,i⟩|i
  ·exact i (j q t)
  ·exact I q i t,fun q a=>E q (j q a)⟩
structure Ze9 (b:Nat) (P:Ym) (va:Value) (w:World) (F:List Nat) (wr:World) (s:Ze) (es:List Zp) (kk:Nat) (v:Value) (M:List Nat) (vp vl:Value) (F1:List Nat):Prop where
 at_:Zh wr b P none {s with cache:=ZbJ s (es.take kk)} va vp vl F1
 grows:Zi w wr F F1
 row:Zk 268 6 v (es.map Zn) wr M
 ap:Z8 F1 M
theorem Ze9.upd0 {wr w1:World} {es:List Zp} {kk:Nat} (h:Ze9 b P va w F wr s es kk v M vp vl F1) (hu:Zg [] wr w1):Ze9 b P va w F w1 s es kk v M vp vl F1:=
 ⟨h.at_.upd0 hu,h.grows.upd0 hu,(Zc _ _ _ _).upd h.row hu,h.ap⟩
structure Zd0 (b:Nat) (P:Ym) (va:Value) (w:World) (F:List Nat) (wr:World) (n m:Nat) (s0:Ze) (l:List Int) (x:ZG) (fb kk:Nat) (v:Value) (M:List Nat) (sc:Ze) (q:List Nat) (vp vl:Value) (F1:List Nat):Prop where
 at_:Zh wr b {P with qps:=q} none sc va vp vl F1
 grows:Zi w wr F F1
 fit:ZQ sc (n+kk) m
 safe:Lk.Safe sc
 res:sc=ZeZ x.num s0 (l.take kk)
 len:sc.all.length=s0.all.length
 row:Z6 v l wr M
 ap:Z8 F1 M
 vals:∀x∈l,1≤x∧x≤s0.all.length
 fl:Own wr fb (ZbE x).toArray 255 F1
theorem ZnB (num:Int) (a:Ze) (id:Int):(judgeU num a id).all.length=a.all.length:=by
 unfold judgeU
 dsimp only
 split
 ·show(a.all.modify _ _).length=_;rw[List.length_modify]
 ·show(a.all.modify _ _).length=_;rw[List.length_modify]
theorem Zd0.elem {wr:World} {fb kk:Nat} {sc:Ze}
  (h:Zd0 b P va w F wr n m s0 l x fb kk v M sc q vp vl F1) (hk:kk<l.length):∃(i p:Nat) (f:ZC),l[kk]? =some ((i:Int)+1)∧sc.all[i]? =some f∧P.fps[i]? =some p∧∃g c,v= .slice (some ⟨g,0,none⟩) l.length c∧wr.cell? ⟨g,kk,none⟩=some (.int .i64 ((i:Int)+1)):=by
 have hx:=Xa hk
 have hv:=h.vals _ (Xc hx)
 obtain⟨i,o⟩:∃i:Nat,l[kk]=(i:Int)+1:=⟨(l[kk]-1).toNat,by omega⟩
 rw[o]at hx
 have k:i<sc.all.length:=by rw[h.len];omega
 have a:=Xa k
 obtain⟨p,r⟩:=h.at_.fp a
 obtain⟨g,c,e,_,d⟩:=h.row.cell (j:=kk) (i:=0) (c:=Zcl ((i:Int)+1)) (by rw[Xe,hx];rfl) rfl
 rw[Xb]at e
 rw[Nat.mul_one,Nat.add_zero]at d
 exact⟨i,p,_,hx,a,r,g,c,e,d⟩
theorem Zd0.next {wr w1:World} {fb kk:Nat} {sc:Ze} {q q':List Nat} {vp vl vp' vl':Value}
  (h:Zd0 b P va w F wr n m s0 l x fb kk v M sc q vp vl F1) {i:Nat} (hx:l[kk]? =some ((i:Int)+1)) (hf:sc.all[i]? =some f)
  (h1:Zh w1 b {P with qps:=q'} none {ZI {sc with all:=sc.all.set i {f with cleared:=true,pre:=0,state:=goL f.state 2}} 6 ((i:Int)+1) x.num 0 0 with queue:=putQ sc.queue (Zbj {f with cleared:=true,pre:=0,state:=goL f.state 2})} va vp' vl' F2) (g:Zi wr w1 F1 F2) (ho:Own w1 fb (ZbE x).toArray 255 F2):
  Zd0 b P va w F w1 n m s0 l x fb (kk+1) v M (judgeU x.num sc ((i:Int)+1)) q' vp' vl' F2:=by
 obtain⟨a,c⟩:=YD.frame (ZJ v l) h.row h.ap g
 rw[←ZoE hf x.num]at h1
 exact⟨h1,h.grows.trans g,h.fit.judgeU _ _,h.safe.judgeU _ _,by rw[Zmb hx,←h.res],by rw[ZnB];exact h.len,a,c,h.vals,ho⟩
theorem Zmd (r:Ya) (a:Zo) (now:Nat):(ZbO r a now).length≤a.methods.length+a.headers.length+1:=by
 rw[ZiT]
 split
 ·simp
 ·rw[←ZnX]
  refine Xj (Zks _ _) ?_
  rw[Xd,Xb,Xb]
  split
  ·simp;omega
  ·omega
theorem ZkG (h:Zh w b P none s va vp vl F) (hfit:ZQ s n m) (hs:Lk.Safe s) (hE:Env w) (hn:n≤500000) (hm:m≤10000) {j q:Nat} (hq:P.qps[j]? =some q) (hx:s.pres[j]? =some x) (a:ZaY) (vi vb vr:Value) (A:Option Addr) (c:Nat) (hA:Zas w A a.headers) (hT:Zan a.headers):
  Calls Tryz.prog 81 #[.pointer (some ⟨b,0,none⟩), .pointer (some ⟨q,0,none⟩), .agg (Zcm a vi (.slice A a.headers.length c) vb vr).toArray] w (ZjB b P none (judgeS s x a.status a.headers) va w F):=by
 obtain⟨R,hR⟩:=Je (judgeS s x a.status a.headers)
 rw[←hR]
 obtain⟨o0,b3,bX⟩:=hs.2.shs x (Xc hx)
 obtain⟨k,I⟩:∃k,s.shares.findIdx? (fun o=>o.num==x.num)=some k:=by
  cases hc:s.shares.findIdx? (fun o=>o.num==x.num)with
  |some k=>exact⟨k,rfl⟩
  |none=>rw[List.findIdx?_eq_none_iff]at hc;have:=hc o0 b3;simp[bX]at this
 obtain⟨o,ho,hop,_⟩:=Zjy I
 obtain⟨l,S⟩:=Je o.members
 have ae:=hs.2.mem o (Xc ho)
 rw[←S]at ae
 have df:l.length≤64:=by
  have h1:=Zf4 (Xc ho);have r:=hfit.sh;rw[S];omega
 obtain⟨am,al⟩:=Je (l.headD 0)
 have cz:am∈l:=by
  rw[al]
  cases l with
  |nil=>exact absurd rfl ae.1
  |cons a l=>simp
 have bc:=ae.2 am cz
 obtain⟨i0,cH⟩:∃i:Nat,am=(i:Int)+1:=⟨(am-1).toNat,by omega⟩
 obtain⟨f,hf⟩:∃f,s.all[i0]? =some f:=⟨_,Xa (by omega)⟩
 obtain⟨X,ak⟩:=Je (Zbg f.req a.status a.headers)
 have bq:=D (show R=if X.2≠0 then failedS s x 8 X.2 else ZeZ x.num (judgeV s x k l (ZbO f.req X.1 s.now)) l by
  rw[hR,ak,S];exact ZoY I ho (by rw[←S,←al];exact cH) hf _ _)
 have cN:=D (show X.1.age≤7200 by rw[ak];exact ZmS _ _ _)
 have aa:=D (show X.1.methods.length≤1000000∧X.1.headers.length≤1000000 by rw[ak];exact ZmN (Zj1 hT))
 obtain⟨w1,be,b8⟩:=Kb w (.cells (Zcm a vi (.slice A a.headers.length c) vb vr).toArray 39)
 obtain⟨bx,bp⟩:=Je w.heap.size
 have bt:w1.heap[bx]? =some (.cells (Zcm a vi (.slice A a.headers.length c) vb vr).toArray 39 (0,0)):=by rw[be,bp];exact Za _
 obtain⟨w2,aJ⟩:=Je w1.drew
 have br:Zg [] w w2:=by rw[aJ];exact b8.drew
 have r:=h.upd0 br
 have V:=Jx 14 r.blk.1
 have k0:w2.cell? ⟨q,0,none⟩=some (.int .i64 x.num):=Zf (i:=0) (r.flight hq hx).1 rfl
 obtain⟨gl,G,aH,hg,dL,_⟩:=r.shares
 have aL:gl.findIdx? (fun p=>p.2.num==x.num)=some k:=by rw[←I,←aH,List.findIdx?_map];rfl
 have dN:=hfit.sn
 have cY:gl.length=s.shares.length:=by rw[←aH,Xb]
 have bh:=Xa (Yv aL)
 have bb:(gl[k]'(Yv aL)).2=o:=by
  have e:=congrArg (fun l=>l[k]?) aH
  rw[ho]at e
  simp only[Xe,bh,Option.map_some]at e
  exact Option.some.inj e
 have dJ:=D (show Calls Tryz.prog 154 #[.pointer (some ⟨P.shares,0,none⟩), .int .i64 x.num] w2 (Zgm w2 l)by
  have:=Zc3 hg (by omega) x.num aL bh (by rw[bb,←S];omega)
  rw[bb,←S]at this;exact this)
 have H:=D h;have H2:=D r;have cU:=D aJ
 have dX:=D ((show Zg [] w1 w2 by rw[aJ];exact(Zg.refl [] w1).drew).block bx (Jg bt) (by simp)|>.trans bt)
 have HQ:=D hq;have HX:=D hx;have O:=D hfit;have HS:=D hs;have HK:=D I;have HO:=D ho;have dM:=D hf;have dD:=D cH;have HE:=D hE
 have a3:=D ae;have dc:=D hA;have dC:=D hT
 have eh:=D r.lt
 obtain⟨ec,dI⟩:=Je a.headers.length
 obtain⟨p0,cE⟩:=h.fp hf
 have cC:=D cE
 clear hR h hfit hs hq hx b3 bX I ho hop ae aJ r aH hg dL aL dN cY bh bb hf cz bc hE bt hA hT cE;change Hid _ at ak be br b8 bp S al dI
 go_in
 go_upto_region 1 with fail
 rw[←be.out,←bp.out]
 refine Jr [0,4,8,12,16,20,24,28,34,36,40,44] (fun W=>W.cell? ⟨b,14,none⟩=some (.pointer (some ⟨P.shares,0,none⟩))∧W.cell? ⟨q,0,none⟩=some (.int .i64 x.num)) (by rw[cU.out]at V k0;exact⟨V,k0⟩) ?_
 repeat first|refine Jn ?_|refine Jf ?_|refine Ju ?_
 refine JL ?_
 simp only[Xu]
 rw[←cU.out]
 go_wp2_with fail
 refine dJ.out.mono ?_
 rintro e w3 ⟨v,M,rfl,bR,c6,aS⟩
 obtain⟨g0,cA,rfl,cX,_,k2⟩:=Zdq bR a3.out.1
 rw[←al.out]at k2
 obtain⟨ln,ac⟩:=Je l.length
 rw[←ac]at cX df⊢
 have cd:=Jt br aS
 have dq:=D ((Kv aS dX))
 have dY:=D aS
 clear bR c6 aS V k0;change Hid _ at ac
 go_wp2_with fail
 refine⟨fun W=>W.cell? ⟨g0,0,none⟩=some (.int .i64 am),k2,?_⟩
 repeat first|refine Jn ?_|refine Jf ?_|refine Ju ?_
 refine ZK ?_
 have H3:=D (H.upd0 cd)
 obtain⟨C,bm,aQ,ea,d8,_⟩:=H3.req O cC dM.out
 obtain⟨w4,aG⟩:=Je (w3.alloc (.cells #[.string ⟨#[]⟩, .string ⟨#[]⟩, .string ⟨#[]⟩, .int .i64 0, .bool false, .slice none 0 0, .int .i64 0, .int .u64 0, .int .i64 0, .int .i64 0] 35))
 obtain⟨Y,aF⟩:=Je w3.heap.size
 have b1:=D (show w4.heap[Y]? =some (.cells #[.string ⟨#[]⟩, .string ⟨#[]⟩, .string ⟨#[]⟩, .int .i64 0, .bool false, .slice none 0 0, .int .i64 0, .int .u64 0, .int .i64 0, .int .i64 0] 35 (0,0))by rw[aG,aF];exact Za _)
 obtain⟨w5,aO⟩:=Je (w4.setRow Y (Zt f.req C).toArray)
 have bj:=D (show w5.heap[Y]? =some (.cells (Zt f.req C).toArray 35 (0,0))by rw[aO];exact setRow_heap _ _ _ _ _ _ b1)
 have ad:Zg [] w3 w5:=(show Zg [] w3 w4 by rw[aG];exact(Zg.refl [] w3).alloc _).trans (show Zg [Y] w4 w5 by rw[aO];exact(Zg.refl _ _).setRow (.inr (by simp)) _) (fun k I=> .inl (by rw[Jm I,aF];exact Xi _))
 have bk:=Jt cd ad
 have d1:=D ad
 have a0:=D (bm.upd0 ad)
 have da:=D (ZbZ f.req C (by obtain⟨A',c',e,_⟩:=bm.at_;rw[e];rfl))
 have c4:=D aQ
 have a2:=D ((Kv ad dq))
 have c8:=D (dc.upd0 bk)
 clear bm aQ ad k2;change Hid _ at aG aO aF
 go_wp2_with fail
 refine(Yt H3 (by have:=O.all;omega) cC _ rfl).mono ?_
 rintro e W ⟨rfl,d⟩
 rw[d]
 clear d W
 go_upto_region 3 with(first|(refine Jl c4 Yh ?_)|(rw[←aG.out,←aF.out];refine Jo (Zt f.req C).toArray b1 Yh da ?_;rw[←aO.out]))
 have k5:=Jx 5 a2.out
 have k6:=Jx 6 a2.out
 have dE:=D (show Zb w5 Y 0 (Zt f.req C)from Zb.of_block bj)
 have HJ:=D (ZkA f.req C a.status a.headers A c w5 a0 c8 dC (HE.upd0 bk))
 rw[←ak.out]at HJ
 obtain⟨z,jc⟩:=X
 dsimp only at bq cN aa
 go_wp2_with(refine Jl dE Yh ?_)
 refine HJ.out.mono ?_
 rintro e w6 ⟨K,J,M1,M2,rfl,a8,bl,dw,dl,cK⟩
 obtain⟨w7,aW⟩:=Je (w6.alloc (.cells #[.slice none 0 0, .slice none 0 0, .int .u64 0] 263))
 obtain⟨ab,aI⟩:=Je w6.heap.size
 have bf:=D (show w7.heap[ab]? =some (.cells #[.slice none 0 0, .slice none 0 0, .int .u64 0] 263 (0,0))by rw[aW,aI];exact Za _)
 obtain⟨w8,aM⟩:=Je (w7.setRow ab (Zy K J z).toArray)
 have cL:=D (show w8.heap[ab]? =some (.cells (Zy K J z).toArray 263 (0,0))by rw[aM];exact setRow_heap _ _ _ _ _ _ bf)
 have az:Zg [] w6 w8:=(show Zg [] w6 w7 by rw[aW];exact(Zg.refl [] w6).alloc _).trans (show Zg [ab] w7 w8 by rw[aM];exact(Zg.refl _ _).setRow (.inr (by simp)) _) (fun k I=> .inl (by rw[Jm I,aI];exact Xi _))
 have a4:=D (cK.trans az)
 have bs:=Jt bk a4.out
 have bQ:=D (show Zdj w8 z K J M1 M2 from⟨(Zl _ _).upd a8 az,(Zl _ _).upd bl az,aa.out.1,aa.out.2⟩)
 have c2:=D (Zbt K J z (by obtain⟨A',c',e,_⟩:=a8.strs;rw[e];rfl) (by obtain⟨A',c',e,_⟩:=bl.strs;rw[e];rfl))
 have bT:=D ((Kv a4 bj))
 clear a8 bl dw dl cK az k5 k6;change Hid _ at aW aM aI
 go_upto_region 4 with(rw[←aW.out,←aI.out];refine Jo (Zy K J z).toArray bf Ze4 c2 ?_;rw[←aM.out])
 have H8:=D (H.upd0 bs)
 by_cases cw:jc=0
 case neg=>
  have bn:=D (show R=failedS s x 8 jc by rw[bq.out,if_pos cw])
  go_wp2_with fail
  refine(Zj7 H8 O HS (by omega) hm HQ HX 8 jc (by omega)).mono ?_
  rintro e w9 ⟨rfl,q9,dp,dO,F9,N,g9⟩
  have H9:=D N;have G9:=D (g9.pre0 bs)
  clear N g9
  go_wp2_with fail
  (try simp only[Exit.inBlock,Exit.then])
  first|refine bodyPost_ret (results_none rfl _ _ _) rfl ?_|refine bodyPost_end (results_none rfl _ _ _) rfl ?_
  rw[bn.out]
  exact⟨rfl,q9,dp,dO,F9,H9.out,G9.out⟩
 case pos=>
 subst cw
 obtain⟨es,aK⟩:=Je (ZbO f.req z s.now)
 have bn:=D (show R=ZeZ x.num (judgeV s x k l es) l by rw[bq.out,if_neg (by simp),aK])
 have du:=D aK
 obtain⟨w9,aN⟩:=Je w8.drew
 have T:=Jd aN
 have N:=H8.upd0 T
 have L:=Jx 7 N.blk.1
 have aR:=D (show Zb w9 Y 0 (Zt f.req C)from Zb.of_block ((Kv T bT)))
 have aC:=D (show Zb w9 ab 0 (Zy K J z)from Zb.of_block ((Kv T cL)))
 have ck:=Jt bs T
 have cD:=D (show Calls Tryz.prog 156 #[.agg (Zt f.req C).toArray, .agg (Zy K J z).toArray, .int .u64 s.now] w9 (ZnK w9 es)by
  rw[aK]
  exact Zjd f.req C z K J M1 M2 s.now w9 (a0.upd0 (a4.trans T)) (bQ.upd0 T) aa.out.1 aa.out.2 (by have:=cN.out;omega) O.now (HE.upd0 ck))
 have H9:=D N
 clear aK T N;change Hid _ at aN
 go_upto_region 6 with fail
 refine Jr [0,4,8,12,16,20,36,25,29,32] (fun W=>W.cell? ⟨b,7,none⟩=some (.pointer (some ⟨P.clock,0,none⟩))∧Zb W Y 0 (Zt f.req C)∧Zb W ab 0 (Zy K J z)) (by have q1:=aR.out;have q2:=aC.out;rw[aN.out]at L q1 q2;exact⟨L,q1,q2⟩) ?_
 refine JO (cs:=Zt f.req C) Yh (fun W d=>d.2.1) ?_
 refine JO (cs:=Zy K J z) Ze4 (fun W d=>d.2.2) ?_
 repeat first|refine Jn ?_|refine Jf ?_|refine Ju ?_
 refine JE ?_
 simp only[Xu]
 rw[←aN.out]
 go_wp2_with fail
 refine(Zbm H9.clock.1).mono ?_
 rintro e W ⟨rfl,d⟩
 rw[d]
 clear d W
 go_wp2_with fail
 refine⟨_,fun W d=>d,⟨L,aR.out,aC.out⟩,?_⟩
 refine JE ?_
 go_wp2_with fail
 refine cD.out.mono ?_
 rintro e dv ⟨ve,Me,rfl,ar,cl,af⟩
 obtain⟨Ae,ce,rfl,b2,dz⟩:=ar.lies
 rw[Xb]at b2 ar
 have bi:=H9.upd0 af
 have cG:=D (show es.length≤3000000 by rw[du.out];have h1:=aa.out;have r:=Zmd f.req z s.now;omega)
 obtain⟨en,aq⟩:=Je es.length
 rw[←aq]at ar cG
 rw[Xb,←aq]
 have cO:Z8 F Me:=fun y Z hm=>by have h1:=cl y hm;have r:=H9.lt y Z;omega
 have Q:=D (show Ze9 b P va w F dv s es 0 (.slice Ae en ce) Me vp vl F from⟨bi,(Zi.refl w F).upd0 (ck.trans af),ar,cO⟩)
 have bO:=Jx 7 bi.blk.1
 have bC:=D (aR.upd af);have bz:=D (aC.upd af)
 clear ar cl b2 dz cO bi af L;change Hid _ at aq
 go_wp2_with fail
 refine⟨_,fun W d=>d,⟨bO,bC.out,bz.out⟩,?_⟩
 repeat first|refine Jn ?_|refine Jf ?_|refine Ju ?_
 refine ZK ?_
 clear bC bz aR aC bO cD cL bT bf bj a2 a0 bQ HJ
 go_wp2_with fail
 go_loopw[11,56] (fun _ s56 wr=>∃(kk:Nat) (vp1 vl1:Value) (F1:List Nat),kk≤en∧s56= .int .i64 kk∧Hid (Ze9 b P va w F wr s es kk (.slice Ae en ce) Me vp1 vl1 F1)) (fun _ s56 _=>en-(intOf s56).toNat)
 case atStart=>exact⟨0,vp,vl,F,Xn _,rfl,Q⟩
 case round=>
  clear Q
  obtain⟨kk,vp1,vl1,F1,dW,rfl,Q⟩:=hrel
  by_cases bv:kk<en
  ·obtain⟨y,Z⟩:∃y,es[kk]? =some y:=⟨_,Xa (by rw[←aq.out];exact bv)⟩
   obtain⟨ge,dZ,e1,cm⟩:∃ge,∃(_:Unit),Ae=some ⟨ge,0,none⟩∧Zb wr ge (kk*6) (Zn y):=by
    obtain⟨A',c',e,_,aQ⟩:=Q.row.lies
    injection e with e _ _
    obtain⟨ge,e2,h3⟩:=aQ kk (Zn y) (by rw[Xe,Z];rfl)
    exact⟨ge,(),e.trans e2,h3⟩
   subst e1
   have ds:=D cm
   have HY:=D Z
   clear cm Z
   obtain⟨aD,ax⟩:=Je (wr.alloc (.cells #[.string ⟨#[]⟩, .string ⟨#[]⟩, .bool false, .string ⟨#[]⟩, .string ⟨#[]⟩, .int .u64 0] 268))
   obtain⟨eb,aU⟩:=Je wr.heap.size
   have bK:=D (show aD.heap[eb]? =some (.cells #[.string ⟨#[]⟩, .string ⟨#[]⟩, .bool false, .string ⟨#[]⟩, .string ⟨#[]⟩, .int .u64 0] 268 (0,0))by rw[ax,aU];exact Za _)
   obtain⟨aP,aB⟩:=Je (aD.setRow eb (Zn y).toArray)
   have c3:=D (show aP.heap[eb]? =some (.cells (Zn y).toArray 268 (0,0))by rw[aB];exact setRow_heap _ _ _ _ _ _ bK)
   have bS:Zg [] wr aP:=(show Zg [] wr aD by rw[ax];exact(Zg.refl [] wr).alloc _).trans (show Zg [eb] aD aP by rw[aB];exact(Zg.refl _ _).setRow (.inr (by simp)) _) (fun k I=> .inl (by rw[Jm I,aU];exact Xi _))
   obtain⟨dk,aA⟩:=Je aP.drew
   have a1:=Jd aA
   have ag:=Q.upd0 (bS.trans a1)
   have aw:=D ag
   have L:=Jx 7 ag.at_.blk.1
   have aE:=Jx 10 ag.at_.blk.1
   have b5:=D (show Zb dk eb 0 (Zn y)from Zb.of_block ((Kv a1 c3)))
   obtain⟨GC,ci,_,bJ⟩:=ag.at_.cache
   have dA:=D ci;have dd:=D bJ
   have dS:=D (show(Zn y).toArray.all (·.oneCell')=true by rw[Xl,Xk];exact Zbs _)
   clear bS a1 ag ci bJ;change Hid _ at ax aB aA aU
   go_upto_region 9 with(first|(refine Jl ds ZcH ?_)|(rw[←ax.out,←aU.out];refine Jo (Zn y).toArray bK ZcH dS ?_;rw[←aB.out]))
   refine Jr [0,4,8,12,16,20,24,28,32,37,42] (fun W=>W.cell? ⟨b,10,none⟩=some (.pointer (some ⟨P.cache,0,none⟩))∧W.cell? ⟨b,7,none⟩=some (.pointer (some ⟨P.clock,0,none⟩))∧Zb W eb 0 (Zn y)) (by have q1:=b5.out;rw[aA.out]at L aE q1;exact⟨aE,L,q1⟩) ?_
   repeat first|refine Jn ?_|refine Jf ?_|refine Ju ?_
   refine JO (cs:=Zn y) ZcH (fun W d=>d.2.2) ?_
   repeat first|refine Jn ?_|refine Jf ?_|refine Ju ?_
   refine JE ?_
   simp only[Xu]
   rw[←aA.out]
   go_wp2_with fail
   refine(Zbm aw.at_.clock.1).mono ?_
   rintro e W ⟨rfl,d⟩
   rw[d]
   clear d W
   go_wp2_with fail
   refine⟨_,fun W d=>d,⟨aE,L,b5.out⟩,?_⟩
   refine JL ?_
   go_wp2_with fail
   refine(Zpa dA (Xj (ZhQ O _) (by omega)) (by omega) y s.now).mono ?_
   rintro e cV ⟨vv,rfl,ed,bV,bG⟩
   obtain⟨b6,cc,a9⟩:=dd.out cV _ _ bV bG
   obtain⟨cS,bI⟩:=YD.frame (Zc _ _ _ _) aw.row aw.ap a9
   have HN:=D (show Ze9 b P va w F cV s es (kk+1) (.slice (some ⟨ge,0,none⟩) en ce) Me vp1 vl1 b6 from⟨by rw[ZkX HY.out];exact cc,aw.grows.trans a9,cS,bI⟩)
   have d2:kk<3000000:=by have:=cG.out;omega
   clear cc a9 cS bI bV bG L aE
   go_wp2_with fail
   refine Jz ?_
   go_wp2_with fail
   exact⟨⟨kk+1,vp1,vl1,b6,by omega,by go_num,HN⟩,by simp[intOf];omega⟩
  ·obtain rfl:kk=en:=by omega
   obtain⟨cr,ah⟩:=Je wr.drew
   have a7:=Jd ah
   have ao:=Q.at_.upd0 a7
   rw[aq.out,Xm]at ao
   have f0:cr.cell? ⟨q,0,none⟩=some (.int .i64 x.num):=Zf (i:=0) (ao.flight HQ HX).1 rfl
   have f2:cr.cell? ⟨q,2,none⟩=some (.int .i64 x.conn):=Zf (i:=2) (ao.flight HQ HX).1 rfl
   have bF:=D (show ZQ {s with cache:=ZbJ s es} n m from{O.out with ca:=ZhQ O es})
   have dQ:=D (show Lk.Safe {s with cache:=ZbJ s es}from HS.out)
   have dT:=D ao;have dr:=D (Q.grows.upd0 a7)
   clear a7 ao Q;change Hid _ at ah
   go_upto_region 11 with fail
   refine Jr [0,4,8,12,16,20,24,28,32,36,40,46] (fun W=>W.cell? ⟨q,0,none⟩=some (.int .i64 x.num)∧W.cell? ⟨q,2,none⟩=some (.int .i64 x.conn)) (by rw[ah.out]at f0 f2;exact⟨f0,f2⟩) ?_
   repeat first|refine Jn ?_|refine Jf ?_|refine Ju ?_
   refine JL ?_
   simp only[Xu]
   rw[←ah.out]
   go_wp2_with fail
   refine(Y0 dT (Xj bF.log (by omega)) _ _ _ _ _ _ _).mono ?_
   rintro e eg ⟨rfl,bW,d4,cT,cB⟩
   have bB:=D (bF.tell 5 ((i0:Int)+1) x.num x.conn 0)
   have d0:=D (dQ.tell 5 ((i0:Int)+1) x.num x.conn 0)
   have cp:=D cT;have dh:=D (dr.trans cB)
   clear cT cB f0 f2 ah
   go_wp2_with fail
   refine Jz ?_
   go_wp2_with fail
   refine(Zeb cp bB (by omega) HQ (x:=x) HX HS.out.2.pn _).mono ?_
   rintro e bg ⟨rfl,bP,dn,cM,ch,cI,cR⟩
   have a6:bg.heap[q]? =some (.cells (ZbE x).toArray 255 (0,0)):=cR.trans (cp.flight HQ HX).1
   obtain⟨cj,ai⟩:=Je bg.drew
   have ay:=Jd ai
   have av:=cM.upd0 ay
   have V:=Jx 14 av.blk.1
   have k0:cj.cell? ⟨q,0,none⟩=some (.int .i64 x.num):=by rw[ai];exact Zf (w:=bg) (i:=0) a6 rfl
   have bM:Own cj q (ZbE x).toArray 255 dn:=⟨(Kv ay a6),cI⟩
   obtain⟨S5,an⟩:=Je (forgetS (ZI {s with cache:=ZbJ s es} 5 ((i0:Int)+1) x.num x.conn 0) x true)
   have bD:=D (bB.forget x true)
   rw[←an]at av bD
   have aZ:S5.shares=s.shares:=by rw[an,(ZbK _ _ _).1];rfl
   have bU:S5.all=s.all:=by rw[an,ZeU];rfl
   have cQ:=D (Zpr av bD (by omega) x.num (k:=k) (o:=o) (by rw[aZ];exact HK) (by rw[aZ];exact HO))
   have cJ:=D (show judgeV s x k l es={S5 with shares:=S5.shares.eraseIdx k}by rw[an,(ZbK _ _ _).1,dD.symm,al.out];rfl)
   have b0:=D (O.judgeV x HK l es)
   have ct:=D (HS.judgeV (Xc HX) HK l es)
   have ei:=D av;have dH:=D ((dh.trans ch).upd0 ay);have cZ:=D bM
   clear cM ch cI cR a6 ay av bM an aZ;change Hid _ at bU ai
   go_upto_region 13 with fail
   refine Jr [0,4,8,12,16,20,24,28,40,33,36] (fun W=>W.cell? ⟨b,14,none⟩=some (.pointer (some ⟨P.shares,0,none⟩))∧W.cell? ⟨q,0,none⟩=some (.int .i64 x.num)) (by rw[ai.out]at V k0;exact⟨V,k0⟩) ?_
   repeat first|refine Jn ?_|refine Jf ?_|refine Ju ?_
   refine JE ?_
   simp only[Xu]
   rw[←ai.out]
   go_wp2_with fail
   refine cQ.out.mono ?_
   rintro e cf ⟨v9,M9,b9,rfl,aY,bd,aj,bY,_⟩
   rw[←S.out]at aj
   rw[←cJ.out]at aY
   obtain⟨g9,cA9,rfl,cW,dB,_⟩:=Zdq aj a3.out.1
   have a5:=cZ.step bd
   have bA:=Jx 14 aY.blk.1
   have bH:cf.cell? ⟨q,0,none⟩=some (.int .i64 x.num):=a5.cell rfl
   rw[←ac.out]at aj
   rw[←ac.out]
   have bN:=D (show Zd0 b P va w F cf (n+1) m (judgeV s x k l es) l x q 0 (.slice (some ⟨g9,0,none⟩) ln cA9) M9 (judgeV s x k l es) (P.qps.eraseIdx j) bP bW b9 from
    ⟨aY,dH.trans bd,b0.out,ct.out,rfl,rfl,aj,bY,fun y Z=>by
     have e:(judgeV s x k l es).all=s.all:=by rw[cJ.out];exact bU.out
     rw[e];exact a3.out.2 y Z,a5⟩)
   clear aY bd aj bY cW dB a5 V k0 cQ b0 ct
   go_wp2_with fail
   refine⟨_,fun W d=>d,⟨bA,bH⟩,?_⟩
   repeat first|refine Jn ?_|refine Jf ?_|refine Ju ?_
   refine ZK ?_
   clear bA bH
   go_wp2_with fail
   go_loopw[13,14,97] (fun _ _ s97 wq=>∃(kk:Nat) (sc:Ze) (q1:List Nat) (vp1 vl1:Value) (F1:List Nat),s97= .int .i64 kk∧kk≤ln∧Hid (Zd0 b P va w F wq (n+1) m (judgeV s x k l es) l x q kk (.slice (some ⟨g9,0,none⟩) ln cA9) M9 sc q1 vp1 vl1 F1)) (fun _ _ s97 _=>ln-(intOf s97).toNat)
   case atStart=>exact⟨0,judgeV s x k l es,P.qps.eraseIdx j,bP,bW,b9,rfl,Xn _,bN⟩
   case round=>
    clear bN
    obtain⟨kk,sc,q1,vp1,vl1,F2,rfl,dW,E⟩:=hrel
    by_cases bv:kk<ln
    ·obtain⟨i,p,g,hx,hg,hp,gg,c1,bc,k1⟩:=E.elem (by rw[←ac.out];exact bv)
     injection bc with au dR dG
     clear dR
     injection au with au
     injection au with au _ _
     subst au;subst dG
     have h0:=E.at_
     obtain⟨vh,lb,vb,hb,_⟩:=h0.fcell hp hg
     have dV:=Jx 15 hb
     have dm:=Jx 16 hb
     have dj:=Kf 15 hb
     have dy:=Kf 16 hb
     obtain⟨_,F3,h1,g1⟩:=h0.setFCell hp hg 15 (.bool true) {g with cleared:=true} (fun _ _ _ _=>rfl) rfl rfl rfl
     obtain⟨wa,ba⟩:=Je (wr.setCell ⟨p,15,none⟩ (.bool true))
     rw[←ba]at h1 g1
     have cP:=ZM (f':={g with cleared:=true}) hg
     obtain⟨_,F4,r,g2⟩:=h1.setFCell hp cP 16 (.int .i64 0) {g with cleared:=true,pre:=0} (fun _ _ _ _=>rfl) rfl rfl rfl
     obtain⟨wb,bw⟩:=Je (wa.setCell ⟨p,16,none⟩ (.int .i64 0))
     rw[←bw]at r g2
     rw[List.set_set]at r
     have bo:=ZM (f':={g with cleared:=true,pre:=0}) hg
     obtain⟨d7,dP,cy,bE⟩:=r.life hp bo
     have dt:=D hx;have bZ:=D hg;have cg:=D hp
     have d9:=D r;have cb:=D (g1.trans g2);have di:=D cy;have c5:=D bE;have d3:=D bo
     clear hx hg hp h0 hb h1 g1 cP r g2 bo cy bE;change Hid _ at ba bw
     go_wp2_with fail
     refine(Yt E.at_ (by have:=E.fit.all;omega) cg _ rfl).mono ?_
     rintro e W ⟨rfl,d⟩
     rw[d]
     clear d W
     go_upto_region 18 with fail
     rw[←ba.out,←bw.out]
     go_wp2_with fail
     refine(ZcK di 2).mono ?_
     rintro e wc ⟨rfl,cF,b7⟩
     obtain⟨F5,h5,g5⟩:=c5.out wc _ cF b7
     rw[List.set_set]at h5
     have bu:=(E.fl.step cb).step g5
     have q0:wc.cell? ⟨q,0,none⟩=some (.int .i64 x.num):=bu.cell rfl
     have H5:=D h5;have G5:=D (cb.trans g5);have dx:=D bu
     clear cF b7 h5 g5 bu dV dm dj dy dP k1
     go_wp2_with fail
     refine(Y0 H5 (by have:=E.fit.log;dsimp only;omega) _ _ _ _ _ _ _).mono ?_
     rintro e wd ⟨rfl,ef,F6,h6,g6⟩
     obtain⟨we,aT⟩:=Je wd.drew
     have aX:=Jd aT
     have h7:=h6.upd0 aX
     have c9:=Jx 9 h7.blk.1
     have co:=ZM (f':={g with cleared:=true,pre:=0,state:=goL g.state 2}) bZ.out
     have dK:=D (h7.fcell cg co)
     have H7:=D h7;have G7:=D ((G5.trans g6).upd0 aX);have de:=D ((dx.step g6).upd0 aX)
     clear h6 g6 aX h7 co q0;change Hid _ at aT
     go_upto_region 20 with fail
     refine Jr [0,4,8,12,16,21,26] (fun W=>W.cell? ⟨b,9,none⟩=some (.pointer (some ⟨P.queue,0,none⟩))) (by rw[aT.out]at c9;exact c9) ?_
     repeat first|refine Jn ?_|refine Jf ?_|refine Ju ?_
     refine JE ?_
     simp only[Xu]
     rw[←aT.out]
     go_wp2_with fail
     obtain⟨d6,ee,d5,cv,_⟩:=dK.out
     refine(ZhR cv).mono ?_
     clear cv
     rintro e wf ⟨rfl,aV⟩
     have h8:=H7.upd0 aV
     have cu:=Jx 9 h8.blk.1
     obtain⟨GQ,cx,_,bL⟩:=h8.queue
     have dg:=D cx;have c0:=D bL;have G8:=D (G7.upd0 aV);have dF:=D (de.upd0 aV)
     clear h8 cx bL aV c9
     go_wp2_with fail
     refine⟨_,fun W d=>d,cu,?_⟩
     refine JL ?_
     go_wp2_with fail
     refine(ZgI dg (Xj E.fit.q (by omega)) _).mono ?_
     rintro e wg ⟨cq,rfl,G9,b4,cn⟩
     obtain⟨F9,N,g9⟩:=c0.out _ _ _ b4 cn
     have db:=D (E.next dt bZ N (G8.trans g9) (dF.step g9))
     clear b4 cn N g9 cu
     go_wp2_with fail
     refine Jz ?_
     go_wp2_with fail
     exact⟨⟨kk+1,_,_,_,_,_,by go_num,by omega,db⟩,by simp[intOf];omega⟩
    ·obtain rfl:kk=ln:=by omega
     have dU:=D (show R=sc by rw[bn.out,E.res,ac.out,Xm])
     go_wp2_with fail
     (try simp only[Exit.inBlock,Exit.then])
     first|refine bodyPost_ret (results_none rfl _ _ _) rfl ?_|refine bodyPost_end (results_none rfl _ _ _) rfl ?_
     rw[dU.out]
     exact⟨rfl,q1,vp1,vl1,F2,E.at_,E.grows⟩
end
theorem ZnU:Zu Tryz.prog 39 18=true:=by kernel_rfl
section
variable {w:World} {b:Nat} {P:Ym} {s:Ze} {va vp vl:Value} {F:List Nat}
theorem Zh.newBody (h:Zh w b P lk s va vp vl F) {i p:Nat} (hp:P.fps[i]? =some p) (hf:s.all[i]? =some f) (st:ZaP) {vb':Value} {Gb':List Nat} (hu:Zg [] w w1) (hl:Zao vb' (some st) w1 Gb') (hn:∀k∈Gb',w.heap.size≤k)
  {w2:World} (hw2:w2=w1.setCell ⟨p,18,none⟩ vb'):
  (∃v0,w1.cell? ⟨p,18,none⟩=some v0)∧w1.frozen? ⟨p,18,none⟩=false∧∃F1,Zh w2 b P lk {s with all:=s.all.set i {f with body:=some st}} va vp vl F1∧Zi w w2 F F1:=by
 obtain⟨o,m,l,n,q,c,j,d⟩:=h.fetch hp hf
 have a:=Kv hu c.blk
 refine⟨⟨_,Zf (i:=18) a rfl⟩,ZS a,?_⟩
 obtain⟨g,e⟩:=c.newBody (some st) hu hl hn (w2:=w2) (by rw[hw2];exact(Zg.refl [p] w1).setCell (.inr (by simp)) _) (by rw[hw2,Zd a];rfl)
 exact d _ _ lk _ _ _ _ _ (fun _ _=>rfl) g e
theorem Zkc (h:Zh w b P none s va vp vl F) (hfit:ZQ s n m) (hs:Lk.Safe s) (hE:Env w) (hn:n≤500000) (hm:m≤10000) (a:ZaY) (vi vb vr:Value) (A:Option Addr) (c:Nat) (hA:Zas w A a.headers) (hT:Zan a.headers):
  Calls Tryz.prog 30 #[.pointer (some ⟨b,0,none⟩), .agg (Zcm a vi (.slice A a.headers.length c) vb vr).toArray] w (Zcn b P (answerS s a.id a.status a.headers).1 (answerS s a.id a.status a.headers).2 va w F):=by
 obtain⟨R,I⟩:=Je (answerS s a.id a.status a.headers)
 rw[←I]
 obtain⟨o,ae,E⟩:=Kb w (.cells (Zcm a vi (.slice A a.headers.length c) vb vr).toArray 39)
 obtain⟨H,ad⟩:=Je w.heap.size
 have ap:o.heap[H]? =some (.cells (Zcm a vi (.slice A a.headers.length c) vb vr).toArray 39 (0,0)):=by rw[ae,ad];exact Za _
 have S:=h.upd0 E
 have k1:=Jx 1 ap
 have X:=D (Zhp S (by have:=hfit.all;omega) (by have:=hfit.pres;omega) a.id)
 have bE:=Zhs S a.id
 obtain⟨Q,HC⟩:=Je (ZbW a.headers)
 have a7:=D (show∀W,Zg [] w W→Calls Tryz.prog 80 #[.slice A a.headers.length c] W (fun e y=>e= .returned (.int .i64 Q)∧Zg [] W y)from fun W d=>by
  rw[HC];exact ZfX a.headers A c W (hA.upd0 d) (by have:=hT.1;omega) (Zan.few hT))
 have H1:=D S;have bL:=D ap;have bS:=D I;have ag:=D hfit;have HS:=D hs;have HE:=D hE;have a1:=D hA;have aO:=D hT
 have O:=D (show∀W,Zg [] o W→W.cell? ⟨H,5,none⟩=some (.int .i64 a.status)∧W.cell? ⟨H,6,none⟩=some (.slice A a.headers.length c)∧Zb W H 0 (Zcm a vi (.slice A a.headers.length c) vb vr)from fun W d=>by
  have e:=Kv d ap
  exact⟨Zf (i:=5) e rfl,Zf (i:=6) e rfl,Zb.of_block e⟩)
 obtain⟨l,T⟩:=Je a.status
 clear ap hA hT hE;change Hid _ at ae ad E HC T
 rcases bE with⟨u1,u2⟩|⟨i,f,p,hf,hp,M,ay,u1,u2⟩|⟨j,x,q,hx,hq,M,ay,u1,u2⟩
 ·have L:=D (show R=(s,11)by rw[I];unfold answerS;rw[u1];rfl)
  have HQ:=D (show Calls Tryz.prog 79 #[.pointer (some ⟨b,0,none⟩), .int .i64 a.id] o fun e y=>e= .returned (.tuple #[.pointer none, .pointer none])∧y=o by have q:=X.out;rw[u2]at q;exact q)
  clear h S u1 u2 X I hfit hs
  go_in
  go_upto_region 1 with fail
  rw[←ae.out,←ad.out]
  go_wp2_with fail
  refine HQ.out.mono ?_
  rintro e W ⟨rfl,d⟩
  rw[d]
  clear d W
  go_wp2_with fail
  go_ret
  rw[L.out]
  exact Zcn.of_same H1 (Zi.refl w F|>.upd0 E)
 ·have al:=hs.1 i f hf
  have L:=D (show R=if f.state≠4 then(s,12)else if Q≠0 then(s,Q)else if l<200∨599<l then(s,14)else
    if f.req.mode=3∧ZfC f.req=true∧Zfk f.req.origin f.req.creds a.headers≠0 then(overS s ((i:Int)+1) 8,0)
    else({ZI s 9 ((i:Int)+1) 0 f.conn l with all:=s.all.set i {f with state:=goL f.state 5,body:=some (Ze5 s.conf.high s.conf.low)}},0)by
   rw[I,HC.out,T.out]
   unfold answerS
   rw[u1]
   simp only[Option.isNone_some,Bool.false_and,Bool.false_eq_true,if_false,Option.map_some,Option.some.injEq,decide_eq_true_eq]
   rw[show overS s f.id 8=overS s ((i:Int)+1) 8 by rw[al],show setF (ZI s 9 f.id 0 f.conn a.status) f.id=setF (ZI s 9 ((i:Int)+1) 0 f.conn a.status) ((i:Int)+1)by rw[al],YQ (s:=ZI s 9 ((i:Int)+1) 0 f.conn a.status) hf]
   rfl)
  have HQ:=D (show Calls Tryz.prog 79 #[.pointer (some ⟨b,0,none⟩), .int .i64 a.id] o fun e y=>e= .returned (.tuple #[.pointer (some ⟨p,0,none⟩), .pointer none])∧y=o by have q:=X.out;rw[u2]at q;exact q)
  obtain⟨lb,bB,hl,_⟩:=S.life hp hf
  have aH:=D (Za0 hl)
  obtain⟨st,aK⟩:=Je f.state
  rw[←aK]at L aH
  have HP:=D hp;have HF:=D hf;have bH:=D al
  clear h S u1 u2 X I hfit hs al hl hp hf M ay;change Hid _ at aK
  go_in
  go_upto_region 1 with fail
  rw[←ae.out,←ad.out]
  go_wp2_with fail
  refine HQ.out.mono ?_
  rintro e W ⟨rfl,d⟩
  rw[d]
  clear d W
  have k6:=(O.out o (Zg.refl _ _)).2.1
  by_cases h4:st=4
  case neg=>
   have N:=D (L.trans (if_pos h4))
   go_wp2_with fail
   refine aH.out.mono ?_
   rintro e W ⟨rfl,d⟩
   rw[←d]
   clear d W
   go_wp2_with fail
   go_ret
   rw[N.out]
   exact Zcn.of_same H1 (Zi.refl w F|>.upd0 E)
  case pos=>
   have N:=D (L.trans (if_neg (by omega)))
   subst h4
   go_wp2_with fail
   refine aH.out.mono ?_
   rintro e W ⟨rfl,d⟩
   rw[←d]
   clear d W
   go_wp2_with fail
   refine(a7.out o E).mono ?_
   rintro e z ⟨rfl,g⟩
   have ah:=D g
   have C:=Jt E g
   have G:=D (H1.upd0 g)
   have k5:z.cell? ⟨H,5,none⟩=some (.int .i64 l):=by rw[T.out];exact(O.out z g).1
   clear g k1 k6
   by_cases aa:Q=0
   case neg=>
    have r:=D (N.trans (if_pos aa))
    go_wp2_with fail
    go_ret
    rw[r.out]
    exact Zcn.of_same G (Zi.refl w F|>.upd0 C)
   case pos=>
   have r:=D (N.trans (if_neg (by omega)))
   subst aa
   by_cases s1:l<200
   ·have J:=D (r.trans (if_pos (.inl s1)))
    go_wp2_with fail
    go_ret
    rw[J.out]
    exact Zcn.of_same G (Zi.refl w F|>.upd0 C)
   by_cases s2:599<l
   ·have J:=D (r.trans (if_pos (.inr s2)))
    go_wp2_with fail
    go_ret
    rw[J.out]
    exact Zcn.of_same G (Zi.refl w F|>.upd0 C)
   have ab:=D (r.trans (if_neg (by omega)))
   have g:=ah.out
   obtain⟨K,aD,bc,bP,bU,bk⟩:=G.req ag HP HF.out
   obtain⟨w4,am⟩:=Je (z.alloc (.cells #[.string ⟨#[]⟩, .string ⟨#[]⟩, .string ⟨#[]⟩, .int .i64 0, .bool false, .slice none 0 0, .int .i64 0, .int .u64 0, .int .i64 0, .int .i64 0] 35))
   obtain⟨Y,ak⟩:=Je z.heap.size
   have aY:=D (show w4.heap[Y]? =some (.cells #[.string ⟨#[]⟩, .string ⟨#[]⟩, .string ⟨#[]⟩, .int .i64 0, .bool false, .slice none 0 0, .int .i64 0, .int .u64 0, .int .i64 0, .int .i64 0] 35 (0,0))by rw[am,ak];exact Za _)
   obtain⟨w5,ao⟩:=Je (w4.setRow Y (Zt f.req K).toArray)
   have aj:=Kk ao aY
   have aq:Zg [] z w5:=(show Zg [] z w4 by rw[am];exact(Zg.refl [] z).alloc _).trans (show Zg [Y] w4 w5 by rw[ao];exact(Zg.refl _ _).setRow (.inr (by simp)) _) (fun k hk=> .inl (by rw[Jm hk,ak];exact Xi _))
   have ai:=Jt ah aq
   have az:=Jt E ai.out
   have bj:=D (aD.upd0 aq)
   have bm:=D (ZbZ f.req K (by obtain⟨A',c',e,_⟩:=aD.at_;rw[e];rfl))
   have bl:=D bc
   have bq:=D (show Zb w5 Y 0 (Zt f.req K)from Zb.of_block aj)
   obtain⟨md,aC⟩:=Je f.req.mode
   obtain⟨cx,aA⟩:=Je (ZfC f.req)
   obtain⟨cc,M⟩:=Je (Zfk f.req.origin f.req.creds a.headers)
   have m3:w5.cell? ⟨Y,3,none⟩=some (.int .i64 md):=by rw[aC];exact Zf (i:=3) aj rfl
   have H5:=D (H1.upd0 ai)
   have bK:=D (show Calls Tryz.prog 82 #[.agg (Zt f.req K).toArray] w5 (fun e y=>e= .returned (.bool cx)∧Zg [] w5 y)by rw[aA];exact ZjJ f.req K w5 bj (HE.upd0 az))
   have bC:=D (show∀W,Zg [] w W→Calls Tryz.prog 83 #[.string ⟨f.req.origin.toArray⟩, .bool f.req.creds, .slice A a.headers.length c] W (fun e y=>e= .returned (.int .i64 cc)∧Zg [] W y)from fun W d=>by
    rw[M];exact ZiJ f.req.origin f.req.creds a.headers A c W (a1.upd0 d) (by have:=aO.out.1;omega) (Zan.few aO))
   rw[←aC,←aA,←M]at ab
   clear g aD bc bk aq aC aA M;change Hid _ at am ao ak aj
   go_upto_region 15 with(first|(refine Jl bl Yh ?_)|(rw[←am.out,←ak.out];refine Jo (Zt f.req K).toArray aY Yh bm ?_;rw[←ao.out]))
   dsimp only[Act.put]
   go_cut [72]from 56 to 71 (fun s72 wx=>s72= .bool (decide (md=3∧cx=true∧cc≠0))∧Hid (Zg [] w5 wx))
   case first=>
    by_cases h3:md=3
    case neg=>
     go_wp2_with fail
     go_meet
     exact⟨by simp[h3],D (Zg.refl _ _)⟩
    case pos=>
    subst h3
    go_wp2_with(refine ZbM (by go_simp) 35 (.tmp 8) rfl Y 0 (Zt f.req K) rfl Yh bq ?_)
    refine bK.out.mono ?_
    rintro e w6 ⟨rfl,ac⟩
    have aW:=D ac
    cases cx with
    |false=>
     go_wp2_with fail
     go_meet
     exact⟨by simp,aW⟩
    |true=>
     have aE:=Kv ac aj
     have m2:=Jx 2 aE
     have m4:=Jx 4 aE
     have bY:=(O.out w6 (ai.trans ac)).2.1
     have br:=D (bC.out w6 (az.trans ac))
     clear aE ac
     go_wp2_with fail
     refine br.out.mono ?_
     rintro e w7 ⟨rfl,bb⟩
     have aR:=Jt aW bb
     clear bb
     by_cases h0:cc=0
     ·subst h0
      go_wp2_with fail
      go_meet
      exact⟨by simp,aR⟩
     ·go_wp2_with fail
      go_meet
      exact⟨by simp[h0],aR⟩
   case rest=>
    obtain⟨rfl,ar⟩:=hcut
    rename World=>wq
    have a3:=Jt az ar.out
    have Hq:=D (H5.upd0 ar)
    have kq:=(O.out wq (ai.trans ar)).1
    rw[←T.out]at kq
    clear k5 m3
    by_cases V:md=3∧cx=true∧cc≠0
    case pos=>
     have aJ:=D (ab.trans (if_pos V))
     rw[decide_eq_true V]
     clear V
     go_wp2_with fail
     refine(Zd2 Hq ag HS (by omega) (by omega) HP HF 8 (by omega)).mono ?_
     rintro e w9 ⟨rfl,q9,aI,aG,F9,h9,g9⟩
     have H9:=D h9;have G9:=D (g9.pre0 a3)
     clear h9 g9
     go_wp2_with fail
     go_ret
     rw[aJ.out]
     exact⟨rfl,q9,aI,aG,F9,H9.out,G9.out⟩
    case neg=>
     have aJ:=D (ab.trans (if_neg V))
     rw[decide_eq_false V]
     clear V
     obtain⟨ba,Z⟩:=Je wq.drew
     have av:=Jd Z
     have aP:=Hq.upd0 av
     obtain⟨bN,bR,bV,aB,_⟩:=aP.fcell HP HF.out
     have p0:ba.cell? ⟨p,0,none⟩=some (.int .i64 ((i:Int)+1)):=by rw[←bH.out];exact Zf (i:=0) aB rfl
     have aL:=Jx 17 aB
     have aN:ba.cell? ⟨H,5,none⟩=some (.int .i64 l):=by rw[Z];exact kq
     have bG:=D aP;have bp:=Jt a3 av
     clear av aP aB kq bB;change Hid _ at Z
     go_upto_region 18 with fail
     refine ZR [(0,0),(1,0),(2,0),(3,0),(4,0),(5,0),(6,0),(7,0),(8,0),(9,0),(10,0),(11,0),(12,2)] (fun W=>W.cell? ⟨p,0,none⟩=some (.int .i64 ((i:Int)+1))∧W.cell? ⟨p,17,none⟩=some (.int .i64 f.conn)∧W.cell? ⟨H,5,none⟩=some (.int .i64 l)) (by kernel_rfl) (by kernel_rfl) (fun c a w t v h=>by cases t<;>exact h) (by rw[Z.out]at p0 aL aN;exact⟨p0,aL,aN⟩) ?_
     repeat first|refine Jn ?_|refine Jf ?_|refine Ju ?_
     refine JL ?_
     simp only[Xu]
     rw[←Z.out]
     go_wp2_with fail
     refine(Y0 bG (Xj ag.log (by omega)) _ _ _ _ _ _ _).mono ?_
     rintro e bM ⟨rfl,bg,bO,a6,a8⟩
     have aU:(ZI s 9 ((i:Int)+1) 0 f.conn l).all[i]? =some f:=HF.out
     obtain⟨bT,bo,a2,aS⟩:=a6.life HP aU
     have bs:=D a2;have bf:=D aS;have bw:=D (a8.pre0 bp)
     clear a6 a8 aU a2 aS p0 aL aN
     go_wp2_with fail
     refine Jz ?_
     go_wp2_with fail
     refine(ZcK bs 5).mono ?_
     rintro e a9 ⟨rfl,aQ,g⟩
     obtain⟨bQ,aX,a4⟩:=bf.out a9 _ aQ g
     obtain⟨bt,af⟩:=Je a9.drew
     have au:=Jd af
     have an:=aX.upd0 au
     have aV:=ZM (f':={f with state:=goL f.state 5}) HF.out
     have c2:=Jx 2 an.blk.1
     have c3:=Jx 3 an.blk.1
     have aZ:=D an;have bv:=D ((bw.trans a4).upd0 au);have bn:=D aV
     clear aQ g aX a4 au an aV bo;change Hid _ at af
     go_upto_region 20 with fail
     refine Jr [0,4,8,12,16,20,24,28,32,36,40,45,48,52,58] (fun W=>W.cell? ⟨b,2,none⟩=some (.int .i64 s.conf.high)∧W.cell? ⟨b,3,none⟩=some (.int .i64 s.conf.low)) (by rw[af.out]at c2 c3;exact⟨c2,c3⟩) ?_
     repeat first|refine Jn ?_|refine Jf ?_|refine Ju ?_
     refine JE ?_
     simp only[Xu]
     rw[←af.out]
     go_wp2_with fail
     refine(ZqN bt s.conf.high s.conf.low _ _ rfl rfl).mono ?_
     rintro e bJ ⟨sb,b4,bd,rfl,aT,aw,n1,n2,n3⟩
     have aF:=aZ.upd0 aw
     have a5:=Jx 2 aF.blk.1
     have be:=Jx 3 aF.blk.1
     obtain⟨bX,ax⟩:=Je (bJ.setCell ⟨p,18,none⟩ (.pointer (some ⟨sb,0,none⟩)))
     obtain⟨⟨bW,bu⟩,bh,bz,aM,a0⟩:=aZ.newBody HP bn (Ze5 s.conf.high s.conf.low) (vb':= .pointer (some ⟨sb,0,none⟩)) (Gb':=[sb,b4,bd]) aw ⟨sb,b4,bd,_,_,rfl,rfl,by unfold Ze5;dsimp only;omega,by unfold Ze5;dsimp only;omega,aT,fun e=>by cases e⟩ (fun k hk=>by
      simp only[List.mem_cons,List.not_mem_nil,or_false]at hk
      rcases hk with rfl|rfl|rfl<;>assumption) ax
     rw[List.set_set]at aM
     have bD:=D aM;have bA:=D (bv.trans a0);have bi:=D ax
     clear aT aw n1 n2 n3 aF ax aM a0 c2 c3
     go_wp2_with fail
     refine⟨_,fun W d=>d,⟨a5,be⟩,?_⟩
     repeat first|refine Jn ?_|refine Jf ?_|refine Ju ?_
     refine JL ?_
     go_wp2_with fail
     rw[←bi.out]
     refine Jz ?_
     clear a5 be bu bh
     go_wp2_with fail
     go_ret
     rw[aJ.out,show goL 4 5=goL f.state 5 by rw[←aK.out]]
     exact⟨rfl,P.qps,vp,bg,bz,bD.out,bA.out⟩
 ·have L:=D (show R=if Q≠0 then(s,Q)else if l<200∨599<l then(s,14)else(judgeS s x a.status a.headers,0)by
   rw[I,HC.out,T.out]
   unfold answerS
   rw[u1]
   simp only[Option.isNone_none,Option.isNone_some,Bool.and_false,Bool.false_eq_true,if_false,Option.map_none,reduceCtorEq])
  have HQ:=D (show Calls Tryz.prog 79 #[.pointer (some ⟨b,0,none⟩), .int .i64 a.id] o fun e y=>e= .returned (.tuple #[.pointer none, .pointer (some ⟨q,0,none⟩)])∧y=o by have q:=X.out;rw[u2]at q;exact q)
  have bI:=D hq;have HX:=D hx
  have N:=L
  clear h S u1 u2 X I hfit hs M ay hx hq
  go_in
  go_upto_region 1 with fail
  rw[←ae.out,←ad.out]
  go_wp2_with fail
  refine HQ.out.mono ?_
  rintro e W ⟨rfl,d⟩
  rw[d]
  clear d W
  have k6:=(O.out o (Zg.refl _ _)).2.1
  go_wp2_with fail
  refine(a7.out o E).mono ?_
  rintro e z ⟨rfl,g⟩
  have ah:=D g
  have C:=Jt E g
  have G:=D (H1.upd0 g)
  have k5:z.cell? ⟨H,5,none⟩=some (.int .i64 l):=by rw[T.out];exact(O.out z g).1
  clear g k1 k6
  by_cases aa:Q=0
  case neg=>
   have r:=D (N.trans (if_pos aa))
   go_wp2_with fail
   go_ret
   rw[r.out]
   exact Zcn.of_same G (Zi.refl w F|>.upd0 C)
  case pos=>
  have r:=D (N.trans (if_neg (by omega)))
  subst aa
  by_cases s1:l<200
  ·have J:=D (r.trans (if_pos (.inl s1)))
   go_wp2_with fail
   go_ret
   rw[J.out]
   exact Zcn.of_same G (Zi.refl w F|>.upd0 C)
  by_cases s2:599<l
  ·have J:=D (r.trans (if_pos (.inr s2)))
   go_wp2_with fail
   go_ret
   rw[J.out]
   exact Zcn.of_same G (Zi.refl w F|>.upd0 C)
  have ab:=D (r.trans (if_neg (by omega)))
  have bF:=D (O.out z ah).2.2
  go_wp2_with(refine Jl bF ZnU ?_)
  refine(ZkG G ag HS (HE.upd0 C) hn hm bI HX a vi vb vr A c (a1.upd0 C) aO).mono ?_
  rintro e w9 ⟨rfl,q9,aI,aG,F9,h9,g9⟩
  have H9:=D h9;have G9:=D (g9.pre0 C)
  clear h9 g9 k5
  go_wp2_with fail
  go_ret
  rw[ab.out]
  exact⟨rfl,q9,aI,aG,F9,H9.out,G9.out⟩
end
structure ZlP (w:World) (F:List Nat) (a:ZaY) (Ai:Option Addr) (ci:Nat) (Ah:Option Addr) (ch:Nat) (Ab:Option Addr) (cb:Nat) (vr:Value):Prop where
 ids:ZfH w Ai a.ids
 oi:∀ab ao,Ai=some ⟨ab,ao,none⟩→ab∉F
 hds:Zas w Ah a.headers
 oh:∀ab ao,Ah=some ⟨ab,ao,none⟩→ab∉F
 bts:YW w Ab a.bytes
 ob:∀ab ao,Ab=some ⟨ab,ao,none⟩→ab∉F
 req:Za5 w a.req vr
 orq:∀g o n c,vr= .slice (some ⟨g,o,none⟩) n c→g∉F
end Go.Proofs.YtlhapbopmplngaaGreatDoor
