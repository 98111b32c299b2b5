import Derived.Test.YtlhapbopmplngaaGreatDoorS17
set_option linter.all false
set_option maxHeartbeats 16000000
set_option maxRecDepth 100000
set_option autoImplicit true
set_option relaxedAutoImplicit true
namespace Go.Proofs.YtlhapbopmplngaaGreatDoor
open Go.RowKit Go.Lk
def ZhT (l:List Zbx) (hs:List Yp):(l.filter fun c=> !(!(ZaI hs c.key).isSome))=l.filter fun c=>(ZaI hs c.key).isSome:=by
 congr 1;funext c;exact Bool.not_not _
def YH.setLast {hb:Nat} {Gb Gi Gh:List Nat} (h:YH w b p vb vi hb Gb Gi Gh) (x:Int) (h0:0≤x):YH (w.setCell ⟨b,5,none⟩ (.int .i64 x)) b {p with last:=x} vb vi hb Gb Gi Gh:=by
 have d:Zg [b] w (w.setCell ⟨b,5,none⟩ (.int .i64 x)):=(Zg.refl _ _).setCell (.inr (by simp)) _
 refine⟨by rw[Zd h.blk];rfl,(Zc _ _ _ _).upd h.busy d (fun k a c=> ?_),(Zc _ _ _ _).upd h.idle d (fun k a c=> ?_),(Zx _ _).upd h.hosts d (fun k a c=> ?_),h.nb,h.ni,h.nh,h.bi,h.bh,h.ih,⟨h.ok.tot,h.ok.few,h.ok.hosts,h.ok.uses,h0,h.ok.keep⟩⟩
 ·rw[Jm c]at a;exact h.nb a
 ·rw[Jm c]at a;exact h.ni a
 ·rw[Jm c]at a;exact h.nh a
def ZkP {w6 wd:World} {ab ci hb k x:Nat} {Gb Gi Gh:List Nat} (hP:YH w6 b q vb (.slice (some ⟨ab,0,none⟩) q.idle.length ci) hb Gb Gi Gh) (hX:w6.heap[x]? =some O) (hxl:∀y∈b::(Gb++Gi++Gh),y≠x)
  (hr:Zk 239 3 (.slice (some ⟨ab,0,none⟩) (q.idle.length-1) ci) ((q.idle.map ZY).eraseIdx k) wd [ab]) (hu:Zg [ab] (w6.drewN 1) wd) (hk:k<q.idle.length):
  ∃w8,Hid (w8=wd.setCell ⟨b,1,none⟩ (.slice (some ⟨ab,0,none⟩) (q.idle.length-1) ci))∧wd.heap[x]? =some O∧wd.heap[b]? =some (.cells #[vb, .slice (some ⟨ab,0,none⟩) q.idle.length ci, .int .i64 q.total, .int .u64 q.keep, .pointer (some ⟨hb,0,none⟩), .int .i64 q.last] 175 (0,0))∧
   Hid (YH w8 b {q with idle:=q.idle.eraseIdx k} vb (.slice (some ⟨ab,0,none⟩) (q.idle.length-1) ci) hb Gb Gi Gh)∧Hid (w8.heap[x]? =some O)∧Hid (Zg (b::Gi) w6 w8):=by
 have a:Gi=[ab]:=by obtain⟨_,_,o,_⟩:=hP.idle.block;exact o
 have h:b≠ab:=fun e=>hP.ni (by rw[a,e];simp)
 have l:x≠ab:=fun e=>hxl ab (by rw[a];simp) e.symm
 have j:x≠b:=fun e=>hxl b (by simp) e.symm
 have i:=(hu.block b (Jg hP.blk) (by simpa using h)).trans (show(w6.drewN 1).heap[b]? =_ from hP.blk)
 have f:=(hu.block x (Jg hX) (by simpa using l)).trans (show(w6.drewN 1).heap[x]? =_ from hX)
 obtain⟨w8,d⟩:=Je (wd.setCell ⟨b,1,none⟩ (.slice (some ⟨ab,0,none⟩) (q.idle.length-1) ci))
 have c:=Kd d
 have n:(q.idle.eraseIdx k).length=q.idle.length-1:=List.length_eraseIdx_of_lt hk
 have g:Zg (b::Gi) w6 w8:=(((Zg.refl (b::Gi) w6).drewN 1).trans hu (fun k hk=> .inr (by rw[a];simp at hk;simp[hk]))).trans c (fun k hk=> .inr (by simp at hk;simp[hk]))
 refine⟨w8,d,f,i,D (hP.setIdle (l':=q.idle.eraseIdx k) g (by rw[d,Zd i];rfl) (by rw[a,←Y9];exact(Zc _ _ _ _).upd hr c (fun k hk p=>by simp at hk p;exact h (by omega))) (fun y m=> .inl m) ⟨hP.ok.tot,by have:=hP.ok.few;dsimp only;rw[n];omega,hP.ok.hosts,hP.ok.uses,hP.ok.last,hP.ok.keep⟩),D ((Kv c f (by simpa using j))),g⟩
def ZqO {w ws w96 w9 wz:World} {b hb:Nat} {Gb Gi Gh G' F:List Nat} (hQ:YH ws b q vb vi hb Gb Gi Gh) (hU:Zg F w ws) (hN:∀k∈b::(Gb++Gi++Gh),k∈F∨w.heap.size≤k) (h96:Zg [] ws w96) (hr9:Zk 239 3 v' (q.busy.map ZY++[ZY y]) w9 G')
  (hu9:Zg Gb w96 w9) (hn9:∀k∈G',k∈Gb∨w96.heap.size≤k) (hz:wz=w9.setCell ⟨b,0,none⟩ v') (hb9:w9.heap[b]? =some (.cells #[vb,vi, .int .i64 q.total, .int .u64 q.keep, .pointer (some ⟨hb,0,none⟩), .int .i64 q.last] 175 (0,0))) (ok:Zfx {q with busy:=q.busy++[y]}):
  YO b {q with busy:=q.busy++[y]} wz (b::(G'++Gi++Gh))∧Zi w wz F (b::(G'++Gi++Gh)):=by
 have f:=Kd hz
 have d:∀k∈G',k∈Gb∨ws.heap.size≤k:=fun k hk=>by
  rcases hn9 k hk with a|a
  ·exact .inl a
  ·right;have:=h96.size;omega
 have i:b∉G':=fun e=>by
  rcases d b e with a|a
  ·exact hQ.nb a
  ·have:=hQ.lt b (by simp);omega
 have g:Zg (b::Gb) ws wz:=(((h96.weaken (G:=b::Gb) (by simp)).trans hu9 (fun y c=> .inr (by simp[c]))).trans f (fun y c=> .inr (by simp at c;simp[c])))
 refine⟨⟨_,_,_,_,_,_,rfl,hQ.setBusy (l':=q.busy++[y]) g (by rw[hz,Zd hb9];rfl) (by
  rw[Xs]
  exact(Zc _ _ _ _).upd hr9 f (fun y c e=>by rw[Jm e]at c;exact i c)) d ok⟩,hU.trans g (fun k hk=>(hN k (by simp at hk⊢;rcases hk with h|h<;>simp[h])).symm),fun k hk=> ?_⟩
 simp only[List.mem_cons,List.mem_append]at hk
 rcases hk with hk|(hk|hk)|hk
 ·exact hN k (by simp[hk])
 ·rcases d k hk with a|a
  ·exact hN k (by simp[a])
  ·right;have:=hU.size;omega
 ·exact hN k (by simp[hk])
 ·exact hN k (by simp[hk])
def ZrQ {G_:Prop} (h_:G_:=by
 have r:=Jc 0 HQ.blk
 have s:=Jc 0 HXs
 refine Jr [0,4,8,12,16,20,25,29,32,36,42] (fun W=>W.cell? ⟨b,0,none⟩=some (.slice Ab q.busy.length cb)∧Zb W m 0 (ZY y)∧W.cell? ⟨w.heap.size,0,none⟩=some (.pointer (some ⟨b,0,none⟩))) ⟨r,HLM.out,s⟩ ?_
 repeat first|refine Jn ?_|refine Jf ?_|refine Ju ?_
 refine JO (cs:=[.int .i64 y.num, .string ⟨y.key.toArray⟩, .int .u64 (y.until_:Int)]) HAG.out (fun W d=>d.2.1) ?_
 refine JE ?_
 go_wp2_with fail
 obtain⟨l,e⟩:=Je ((ws.alloc (.cells #[.int .i64 y.num, .string ⟨y.key.toArray⟩, .int .u64 (y.until_:Int)] 239)).drew)
 rw[←e]
 have a:Zg [] ws l:=by rw[e];exact((Zg.refl [] _).alloc _).drew
 have j:=Kv a HQ.blk
 have h:=Kv a HXs
 have G:=D (show Zb l ws.heap.size 0 (ZY y)by rw[e];exact Zb.of_block (w:=ws.alloc _) (Za _))
 have F:=D ((Zc _ _ _ _).upd HQ.busy a)
 have p:=D (HLM.upd a)
 clear e r s;change Hid _ at j h a
 refine⟨fun W=>W.cell? ⟨b,0,none⟩=some (.slice Ab q.busy.length cb)∧Zb W m 0 (ZY y)∧W.cell? ⟨w.heap.size,0,none⟩=some (.pointer (some ⟨b,0,none⟩)),fun W d=>d,⟨Zf (i:=0) j rfl,p.out,Zf h rfl⟩,?_⟩
 refine JE ?_
 refine Zm l rfl _ _ 172 rfl 239 Tryz.underlying172 ZiS rfl (by omega) (by omega) _ (q.busy.map ZY) Gb rfl F ws.heap.size 1 (ZY y) rfl G rfl (ZaE _) (by rw[Xb];omega) ?_
 intro M C O k c x
 obtain⟨I,J,z,_⟩:=k.form'
 rw[Xd,Xb,List.length_singleton]at z
 subst z
 have g:=Kv c j HQ.nb
 have K:=Jc 0 g
 have N:=Kf 0 g
 obtain⟨E,f⟩:=Je (C.setCell ⟨b,0,none⟩ (.slice I (q.busy.length+1) J))
 have o:=D (p.upd c HVG)
 have L:E.cell? ⟨m,0,none⟩=some (.int .i64 y.num):=(o.upd (show Zg [b] C E by rw[f];exact(Zg.refl _ _).setCell (.inr (by simp)) _) (by simpa using Ne.symm HBM)) 0 _ rfl
 have H:=D ((Kv c h HXG))
 have n:=D (ZqO HQ HUS HNS a k c x f g HOK)
 clear g k c x;change Hid _ at f
 go_wp2_with fail
 refine⟨fun W=>W.cell? ⟨b,0,none⟩=some (.slice Ab q.busy.length cb)∧Zb W m 0 (ZY y)∧W.cell? ⟨w.heap.size,0,none⟩=some (.pointer (some ⟨b,0,none⟩)),fun W d=>d,⟨K,o.out,Zf H rfl⟩,?_⟩
 repeat first|refine Jn ?_|refine Jf ?_|refine Ju ?_
 refine JL ?_
 go_wp2_with fail
 refine Jz ?_
 go_wp2_with(rw[←f.out])
 go_ret3
 rw[HTK.out]
 exact⟨rfl,_,n.out.1,n.out.2⟩):G_:=h_
def Zr9 {G_:Prop} (h_:G_:=by
 obtain⟨y,s⟩:∃y:Zbx,y=⟨q0.last+1,key,0⟩:=⟨_,rfl⟩
 have H:=Jc 5 HQ0.blk
 have K:=Jc 0 HX20
 have I:=D (Zdt ⟨b,5,none⟩ q0.last 1 w20 H (ZS HQ0.blk) HQ0.ok.last HL0 (by omega) (by omega))
 obtain⟨l,g⟩:=Je (w20.setCell ⟨b,5,none⟩ (.int .i64 (q0.last+1)))
 obtain⟨q,d⟩:∃q:Zam,q={q0 with last:=q0.last+1}:=⟨_,rfl⟩
 have a:=HQ0.setLast (q0.last+1) (by have:=HQ0.ok.last;omega)
 rw[←g,←d]at a
 have n:=Kd g
 have x:=(Kv n HX20 (fun c=>by simp at c;exact HXL b (by simp) c.symm))
 have C:=D (Za (w:=l) (.cells #[.int .i64 0, .string ⟨#[]⟩, .int .u64 0] 239 (0,0)))
 obtain⟨ws,j⟩:=Je ((l.alloc (.cells #[.int .i64 0, .string ⟨#[]⟩, .int .u64 0] 239 (0,0))).setRow l.heap.size (ZY y).toArray)
 have E:=Kk j C
 have f:=Kh j
 obtain⟨m,c⟩:=Je l.heap.size
 have HQ:=D (a.upd f)
 have HXs:=D ((Kv f x))
 have HLM:=D (show Zb ws m 0 (ZY y)by rw[c];exact Zb.of_block E)
 have HVG:=D (show m∉Gb from fun h=>by have:=a.lt m (by simp[h]);omega)
 have HBM:=D (show b≠m from fun h=>by have:=a.lt b (by simp);omega)
 have HUS:=D (HU0.trans (n.trans_of' f) (fun k G=>(HNS.out k (by simp at G;simp[G])).symm))
 have HOK:=D (show Zfx {q with busy:=q.busy++[y]}from⟨a.ok.tot,by have:=HF0.out;rw[d];simp;omega,a.ok.hosts,a.ok.uses,a.ok.last,a.ok.keep⟩)
 have HTK:=D (show ZaO p key now=({q with busy:=q.busy++[y]},y.num,true,0)by rw[HT0.out,d,s])
 have r:q.busy.length=q0.busy.length:=by rw[d]
 have O:q.busy.length≤32:=by rw[r];exact hql0
 have z:=D (show(ZY y).toArray.all (·.oneCell')=true by rw[Xl,Xk];exact ZaE _)
 have L:=D g;have F:=D j;have M:=D c
 have J:=D (show(ZY y)=[.int .i64 (q0.last+1), .string ⟨key.toArray⟩, .int .u64 0]by rw[s];rfl)
 rw[←r]at HQ
 rw[show ZY y=_ from J.out]at F z
 clear g a n x j E f c d s r
 go_wp2_with fail
 refine I.out.mono ?_
 rintro e N ⟨rfl,o⟩
 rw[←L.out]at o
 rw[o];clear o N H K
 go_upto_region 21 with(refine Jo #[.int .i64 (q0.last+1), .string ⟨key.toArray⟩, .int .u64 0] C.out HAG z ?_;rw[←F.out])
 rw[←M.out]
 have P:=Jc 0 HXs
 go_upto_region 21 with fail
 exact ZrQ):G_:=h_
def Zn1 (h:YO b p w F) (key:Bs) (now:Nat) (hlast:p.last≤1000000000000):
  Calls Tryz.prog 150 #[.pointer (some ⟨b,0,none⟩), .string ⟨key.toArray⟩, .int .u64 now] w fun e w'=>e= .returned (.tuple #[.int .i64 (ZaO p key now).2.1, .bool (ZaO p key now).2.2.1, .int .i64 (ZaO p key now).2.2.2])∧∃F',YO b (ZaO p key now).1 w' F'∧Zi w w' F F':=by
 obtain⟨w1,bF,aL,aD⟩:=Kc w (.cells #[.pointer (some ⟨b,0,none⟩)] 61)
 have h1:=(ZU _ _).upd h aL
 have aB:=ZlR h1 key
 have bE:=(ZU _ _).lt h
 have bZ:=Jc 0 aD
 have a4:b∈F:=by obtain⟨_,_,_,_,_,_,rfl,_⟩:=h;simp
 obtain⟨bS,aX⟩:=Je (Zf1 p key)
 rw[←aX]at aB
 have a9:=D aB;have H1:=D h1;have bO:=D aD;have bq:=D bF;have bk:=D aL;have bX:=D bE;have ar:=D aX;have b4:=D a4;have bG:=D hlast
 clear aB h1 aD bF aL bE aX h a4 hlast
 cases bS with
 |false=>
  have M:=D (ZqR (now:=now) ar.symm)
  rw[M.out]
  go_in
  go_upto_region 1 with fail
  rw[←bq.out]
  go_wp2_with fail
  refine a9.out.mono ?_
  rintro e w2 ⟨rfl,P⟩
  have ax:=D P;clear P
  go_wp2_with fail
  go_ret3
  exact⟨rfl,F,(ZU _ _).upd H1 ax,(bk.trans ax).weaken (by simp),fun k hk=> .inl hk⟩
 |true=>
  go_in
  go_upto_region 1 with fail
  rw[←bq.out]
  go_wp2_with fail
  refine a9.out.mono ?_
  rintro e w2 ⟨rfl,P⟩
  have h2:=(ZU _ _).upd H1 P
  have aI:=Kv P bO
  have cx2:=Jc 0 aI
  have HE:=D (Zhf h2 now)
  have ax:=Jt bk P;have bN:=D aI
  clear P h2 aI bZ
  go_wp2_with fail
  refine HE.out.mono ?_
  rintro e w3 ⟨v3,rfl,H,aZ⟩
  obtain⟨vb,vi,hb,Gb,a,Gh,hF,H⟩:=H
  have aM:w.heap.size∉F:=fun hm=>by have:=bX.out _ hm;omega
  have aW:=Kv aZ bN aM
  have bg:=Jc 0 aW
  have bu:=Jc 4 H.blk
  obtain⟨Z,au⟩:=Je (expireP p now)
  have a2:Z.last=p.last:=by rw[au];rfl
  rw[←au]at H
  have a6:=Zoc H.hosts (Xj H.ok.hosts (by omega)) (fun y hy=>(H.ok.uses y hy).1) key
  have ba:=D a6;have I:=D H;have o:=D hF;have bx:=D aW;have al:=D au;have bK:=D a2
  have ai:=D ((ax.weaken (G:=F) (by simp)).trans aZ (fun k hk=> .inr hk))
  have ae:=D (show∀k∈b::(Gb++a++Gh),k≠w.heap.size from fun k hk e=>by rw[←hF,e]at hk;exact aM hk)
  clear a6 H hF aW aZ au aM cx2 a2
  go_wp2_with fail
  rcases Znc ⟨I.ok.hosts,I.ok.uses⟩ key with⟨hs,Q,bc,bi⟩|Q
  ·have HUS:=D Q
   have hq:=ba.out
   rw[Q]at hq
   dsimp only[Option.getD]at hq
   have HQ:=D hq
   have be:=D (And.intro bc bi)
   clear Q hq bc bi
   refine HQ.out.mono ?_
   rintro e w4 ⟨gone,rfl,d,ac,l⟩
   have r:=I.setHosts (l':=hs) l.upd ac l.new ⟨I.ok.tot,I.ok.few,be.out.1,be.out.2,I.ok.last,I.ok.keep⟩
   have bl:w.heap.size∉Gh:=fun hm=>ae.out _ (by simp[hm]) rfl
   have az:=Kv l.upd bx bl
   have bB:=Jc 0 az
   have aC:∀k∈b::(Gb++a++d),k≠w.heap.size:=fun k hk e=>by
    simp only[List.mem_cons,List.mem_append]at hk
    rcases hk with hk|(hk|hk)|hk
    ·exact ae k (by simp[hk]) e
    ·exact ae k (by simp[hk]) e
    ·exact ae k (by simp[hk]) e
    ·rcases l.new k hk with L|L
     ·exact ae k (by simp[L]) e
     ·have:=ai.size;have:=(Jg bx);omega
   have aA:=Zjn 227 #[.pointer (some ⟨w.heap.size,0,none⟩)] (enters_of Tryz.func227 (by kernel_rfl) rfl) (fun c=> !(ZaI hs c.key).isSome) r (fun W x hu=>
    ZmV x ((Xp (hu.block _ (Jg az) (fun hm=>aC _ (by simp[hm]) rfl))).trans bB)
     (Zf (i:=4) ((Kv hu r.blk r.ni)) rfl) ((Zx _ _).upd r.hosts hu (fun k hk hm=>r.ih k hm hk)))
   rw[ZhT]at aA
   obtain⟨p2,ak⟩:∃p2:Zam,p2={Z with hosts:=hs,idle:=Z.idle.filter fun c=>(ZaI hs c.key).isSome}:=⟨_,rfl⟩
   have a5:Calls Tryz.prog 137 #[.pointer (some ⟨b,0,none⟩), .func (.func 227) #[] #[.pointer (some ⟨w.heap.size,0,none⟩)]] w4 (Zfr fun w'=>∃b0,YH w' b p2 vb b0 hb Gb a d∧Zg (b::a) w4 w'):=by rw[ak];exact aA
   have aa:ZaO p key now=Zjp p2 key:=by rw[ak,al.out];exact Zmn ar.symm (al.out▸HUS.out)
   have bb:p2.last=p.last:=by rw[ak];exact bK.out
   have b3:=D (show(p2.busy.length:Int)<p2.total by
    have:=ar.out;unfold Zf1 at this;have:=(Bool.and_eq_true _ _▸this.symm:_∧_).1;rw[ak,al.out];exact of_decide_eq_true this)
   have bU:=D a5;have M:=D aa;have bz:=D az;have HXL:=D aC;have bV:=D bb
   have b5:=D r.lt
   have aY:=D (ai.trans l.upd (fun k hk=> .inr (by rw[o.out];simp[hk])))
   have Y:=D (show∀k∈b::(Gb++a++d),k∈F∨w.heap.size≤k from fun k hk=>by
    simp only[List.mem_cons,List.mem_append]at hk
    rcases hk with hk|(hk|hk)|hk
    ·exact .inl (by rw[o.out];simp[hk])
    ·exact .inl (by rw[o.out];simp[hk])
    ·exact .inl (by rw[o.out];simp[hk])
    ·rcases l.new k hk with L|L
     ·exact .inl (by rw[o.out];simp[L])
     ·right;have:=ai.size;omega)
   clear ac l r bl az aC aA ak a5 aa bb bg bu
   go_wp2_with fail
   refine bU.out.mono ?_
   rintro e w5 ⟨v5,rfl,b8,N,aG⟩
   have aJ:=(aG.block _ (Jg bz) (fun hm=>by
    rcases List.mem_cons.1 hm with e|hm
    ·exact HXL b (by simp) e.symm
    ·exact HXL _ (show w.heap.size∈b::(Gb++a++d)by simp[hm]) rfl)).trans bz.out
   have bJ:=Jc 0 aJ
   obtain⟨Ai,S,bv,bY,a3⟩:=N.idle.lies
   obtain⟨Ab,cb,bf,bW⟩:=N.busy.form'
   rw[Xb]at bv bf bY bW
   subst bv;subst bf
   have bT:=Jc 1 N.blk
   have a8:=N.ok.few;have a7:=N.ok.tot
   have b9:p2.idle.length≤32:=by omega
   have aU:p2.busy.length≤32:=by omega
   have bR:=D N;have b2:=D aJ;have bA:=D a3
   have aE:=D (aY.trans aG (fun k hk=> .inr (by rw[o.out];simp at hk⊢;rcases hk with h|h<;>simp[h])))
   have br:=D (And.intro a8 a7)
   have b1:=D (show(p2.busy.length:Int)<p2.total from b3.out)
   have HAG:=D (show Zu Tryz.prog 239 3=true by kernel_rfl)
   clear N aJ a3 aG bB a8 a7
   go_wp2_with fail
   go_loopw[11] (fun s11 wr=>∃z:Int,s11= .int .i64 z∧-1≤z∧z<p2.idle.length∧Hid (∀(j:Nat) (y:Zbx),z<j→p2.idle[j]? =some y→(y.key==key)=false)∧Hid (Zg [] w5 wr)) (fun s11 _=>(intOf s11+1).toNat)
   case atStart=>exact⟨(p2.idle.length:Int)-1,rfl,by omega,by omega,D (fun j y hj hy=>by have:=(Jk hy);omega),D (Zg.refl _ _)⟩
   case round=>
    obtain⟨z,rfl,b6,b7,HM,T⟩:=hrel
    clear bT bJ
    have a1:=bR.upd T
    have aR:=Kv T b2
    have aV:=Jc 0 aR
    have aQ:=Jc 1 a1.blk
    have J:=D a1;have aF:=D aR
    clear a1 aR
    by_cases bP:0≤z
    ·obtain⟨K,rfl⟩:=Int.eq_ofNat_of_zero_le bP
     have bt:K<p2.idle.length:=by omega
     obtain⟨x,hx⟩:∃x,p2.idle[K]? =some x:=⟨_,Xa bt⟩
     obtain⟨s,rfl,bo⟩:=bA.out K (ZY x) (by rw[Xe,hx];rfl)
     have bd:=D (bo.upd T)
     have HO:=D (show(ZY x).toArray.all (·.oneCell')=true by rw[Xl,Xk];exact ZaE x)
     have HA:=D (Za (w:=wr) (.cells #[.int .i64 0, .string ⟨#[]⟩, .int .u64 0] 239 (0,0)))
     obtain⟨w6,aw⟩:=Je ((wr.alloc (.cells #[.int .i64 0, .string ⟨#[]⟩, .int .u64 0] 239 (0,0))).setRow wr.heap.size (ZY x).toArray)
     have aS:=Kk aw HA
     have bp:=Kh aw
     have bH:=Jc 1 aS
     have HX:=D hx;have bs:=D aw;have aK:=D aS;have ay:=D bp
     obtain⟨q,hq⟩:=Je ((x.key==key))
     have bw:=D hq
     clear hx bo aw aS bp
     cases q with
     |false=>
      have zq:(x.key==key)=false:=hq.symm
      clear hq
      go_wp2_with(first|refine Js bd HAG ?_|(refine Jo (ZY x).toArray HA HAG HO ?_;rw[←bs.out]))
      go_roundw
      case rel=>
       refine⟨(K:Int)-1,rfl,by omega,by omega,D (fun j y hj hy=> ?_),Jt T ay⟩
       by_cases e:j=K
       ·subst e;rw[HX.out]at hy;cases hy;exact bw.symm
       ·exact HM j y (by omega) hy
      case measure=>simp[intOf]
     |true=>
      have zq:(x.key==key)=true:=hq.symm
      clear hq
      go_upto_region 15 with(first|refine Js bd HAG ?_|(refine Jo (ZY x).toArray HA HAG HO ?_;rw[←bs.out]))
      have aT:=D (J.upd ay)
      have bh:=D ((Kv ay aF))
      have E:=D bt
      obtain⟨m,hm⟩:=Je wr.heap.size
      rw[←hm]
      have HVG:=D (show m∉Gb from fun h=>by have:=J.lt m (by simp[h]);omega)
      have HBM:=D (show b≠m from fun h=>by have:=J.lt b (by simp);omega)
      have aK:=D (show w6.heap[m]? =some (.cells (ZY x).toArray 239 (0,0))by rw[hm];exact aK)
      have bM:=D (show m∉b::a from fun h=>by have:=J.lt m (by simp at h⊢;rcases h with h|h<;>simp[h]);omega)
      clear bH aV aQ hm
      have C:=fun(n:Nat)=>ZgD.del (w:=w6.drewN n) (g:=s) (cap:=S) (xs:=p2.idle.map ZY) (by rw[Xb];exact aT.idle) (Zde ZaE p2.idle) (i:=K) (by rw[Xb];exact E)
      rw[Xb]at C
      have a0:=D C
      have af:=Jc 0 bh
      have ad:=Jc 1 aT.blk
      clear C
      refine Jr [0,4,8,12,16,20,24,28,33,36,40,46] (fun W=>W.cell? ⟨w.heap.size,0,none⟩=some (.pointer (some ⟨b,0,none⟩))∧W.cell? ⟨b,1,none⟩=some (.slice (some ⟨s,0,none⟩) p2.idle.length S)) ⟨af,ad⟩ ?_
      repeat first|refine Jn ?_|refine Jf ?_|refine Ju ?_
      refine JE ?_
      simp only[Xu]
      go_wp2_with fail
      refine(a0.out 1).mono ?_
      rintro e wd ⟨rfl,ag,an⟩
      obtain⟨w8,aj,ao,O,aq,ah,X⟩:=ZkP aT bh HXL ag an E.out
      have am:=Jc 0 ao
      have ap:=Jc 1 O
      have aH:=Kf 1 O
      clear ag an ao O af ad
      go_wp2_with fail
      refine⟨fun W=>W.cell? ⟨w.heap.size,0,none⟩=some (.pointer (some ⟨b,0,none⟩))∧W.cell? ⟨b,1,none⟩=some (.slice (some ⟨s,0,none⟩) p2.idle.length S),fun W h=>h,⟨am,ap⟩,?_⟩
      repeat first|refine Jn ?_|refine Jf ?_|refine Ju ?_
      refine JL ?_
      go_wp2_with fail
      refine Jz ?_
      clear am ap aH
      obtain⟨ws,hws⟩:=Je w8
      rw[←hws]at aq ah X aj
      obtain⟨q,hq⟩:∃q:Zam,q={p2 with idle:=p2.idle.eraseIdx K}:=⟨_,rfl⟩
      obtain⟨y,hy⟩:=Je x
      have R:q.busy=p2.busy:=by rw[hq]
      have HQ:=D (show YH ws b q (.slice Ab q.busy.length cb) _ hb Gb a d by rw[R,hq];exact aq)
      have HXs:=D ah.out
      have HLM:=D (show Zb ws m 0 (ZY y)by rw[hy];exact Zb.of_block ((Kv X aK bM)))
      have HXG:=D (show w.heap.size∉Gb from fun hm=>HXL.out _ (show w.heap.size∈b::(Gb++a++d)by simp[hm]) rfl)
      have HUS:=D (((aE.trans T).trans ay).trans X (fun k hk=>(Y.out k (by simp at hk⊢;rcases hk with h|h<;>simp[h])).symm))
      have HNS:=D (show∀k∈b::(Gb++a++d),k∈F∨w.heap.size≤k from Y.out)
      have HOK:=D (show Zfx {q with busy:=q.busy++[y]}from⟨HQ.ok.tot,by have:=br.out;have:=E.out;rw[hq];dsimp only;rw[Xd,List.length_eraseIdx_of_lt E,List.length_singleton];omega,HQ.ok.hosts,HQ.ok.uses,HQ.ok.last,HQ.ok.keep⟩)
      have HTK:=D (show ZaO p key now=({q with busy:=q.busy++[y]},y.num,false,0)by
       rw[M.out,hq,hy]
       unfold Zjp;rw[show Zjm p2.idle key=some K from Zog HX bw.symm (fun j y hj hy=>HM.out j y (by omega) hy)];dsimp only;rw[HX.out];dsimp only;rw[Z7])
      have hql:q.busy.length≤32:=by rw[R];exact aU
      clear hq hy R hws
      go_upto_region 16 with fail
      rw[←aj.out]
      have cxs:=Jc 0 HXs
      go_upto_region 16 with fail
      exact ZrQ
    ·obtain rfl:z= -1:=by omega
     have bn:=Jc 0 J.blk
     have bD:=Jc 2 J.blk
     have s1:IntKind.i64.wrap ((p2.busy.length:Int)+p2.idle.length)=(p2.busy.length:Int)+p2.idle.length:=IntWalk.i64_in _ (by omega)
     have bC:=D (show Zjm p2.idle key=none from Zmj (fun j y hy=>HM.out j y (by omega) hy))
     have HXG:=D (show w.heap.size∉Gb from fun hm=>HXL.out _ (show w.heap.size∈b::(Gb++a++d)by simp[hm]) rfl)
     have HNS:=D (show∀k∈b::(Gb++a++d),k∈F∨w.heap.size≤k from Y.out)
     have bm:=D (show p2.last≤1000000000000 by have:=bV.out;have:=bG.out;omega)
     by_cases V:p2.total≤(p2.busy.length:Int)+p2.idle.length
     ·have bQ:decide (p2.total≤(p2.busy.length:Int)+p2.idle.length)=true:=decide_eq_true V
      have aP:0<p2.idle.length:=by have:=b1.out;omega
      have av:=D V;have E:=D aP
      obtain⟨s,hg⟩:∃g,Ai=some ⟨g,0,none⟩:=by
       obtain⟨s,e1,_⟩:=bA.out 0 (ZY p2.idle[0]) (by rw[Xe,Xa aP];rfl)
       exact⟨s,e1⟩
      subst hg
      clear V aP
      go_wp2_with fail
      go_quiet (fail)
      generalize hwq:wr.drewN _=wq
      have aO:=D (hwq▸(J.upd ((Zg.refl [] wr).drewN _)):YH wq b p2 _ _ hb Gb a d)
      have bj:=D (show wq.heap[w.heap.size]? =some (.cells #[.pointer (some ⟨b,0,none⟩)] 61 (0,0))by rw[←hwq];exact aF)
      have bL:=D (show Zg [] wr wq by rw[←hwq];exact(Zg.refl [] wr).drewN _)
      clear hwq aV bn aQ bD s1
      go_wp2_with fail
      have C:=fun(n:Nat)=>ZgD.del (w:=wq.drewN n) (g:=s) (cap:=S) (xs:=p2.idle.map ZY) (by rw[Xb];exact aO.idle) (Zde ZaE p2.idle) (i:=0) (by rw[Xb];exact E)
      rw[Xb]at C
      have C:∀n:Nat,Calls Tryz.prog 205 #[.slice (some ⟨s,0,none⟩) p2.idle.length S, .int .i64 0, .int .i64 1] (wq.drewN n) _:=C
      have a0:=D C
      have af:=Jc 0 bj
      have ad:=Jc 1 aO.blk
      clear C
      refine Jr [0,4,8,12,16,21,24,28,34] (fun W=>W.cell? ⟨w.heap.size,0,none⟩=some (.pointer (some ⟨b,0,none⟩))∧W.cell? ⟨b,1,none⟩=some (.slice (some ⟨s,0,none⟩) p2.idle.length S)) ⟨af,ad⟩ ?_
      repeat first|refine Jn ?_|refine Jf ?_|refine Ju ?_
      refine JE ?_
      simp only[Xu]
      go_wp2_with fail
      refine(a0.out 1).mono ?_
      rintro e wd ⟨rfl,ag,an⟩
      obtain⟨w8,aj,ao,O,aq,ah,X⟩:=ZkP aO bj HXL ag an E.out
      have am:=Jc 0 ao
      have ap:=Jc 1 O
      have aH:=Kf 1 O
      clear ag an ao O af ad
      go_wp2_with fail
      refine⟨fun W=>W.cell? ⟨w.heap.size,0,none⟩=some (.pointer (some ⟨b,0,none⟩))∧W.cell? ⟨b,1,none⟩=some (.slice (some ⟨s,0,none⟩) p2.idle.length S),fun W h=>h,⟨am,ap⟩,?_⟩
      repeat first|refine Jn ?_|refine Jf ?_|refine Ju ?_
      refine JL ?_
      go_wp2_with fail
      refine Jz ?_
      clear am ap aH
      obtain⟨w20,hws⟩:=Je w8
      rw[←hws]at aq ah X aj
      obtain⟨q0,hq⟩:∃q:Zam,q={p2 with idle:=p2.idle.eraseIdx 0}:=⟨_,rfl⟩
      have R:q0.busy=p2.busy:=by rw[hq]
      have HQ0:=D (show YH w20 b q0 (.slice Ab q0.busy.length cb) _ hb Gb a d by rw[R,hq];exact aq)
      have HX20:=D ah.out
      have HU0:=D (((aE.trans T).trans bL).trans X (fun k hk=>(Y.out k (by simp at hk⊢;rcases hk with h|h<;>simp[h])).symm))
      have HF0:=D (show(q0.busy.length:Int)+q0.idle.length<q0.total by have:=br.out;have:=E.out;rw[hq];dsimp only;rw[List.length_eraseIdx_of_lt E.out];omega)
      have HT0:=D (show ZaO p key now=({q0 with last:=q0.last+1,busy:=q0.busy++[⟨q0.last+1,key,0⟩]},q0.last+1,true,0)by
       rw[M.out,hq]
       unfold Zjp;rw[bC.out];dsimp only;rw[if_pos (by have:=av.out;push_cast;exact this),Z7])
      have HL0:=D (show q0.last≤1000000000000 by rw[hq];exact bm)
      have hql0:q0.busy.length≤32:=by rw[R];exact aU
      clear hq R hws
      go_upto_region 20 with fail
      rw[←aj.out]
      exact Zr9
     ·have bQ:decide (p2.total≤(p2.busy.length:Int)+p2.idle.length)=false:=decide_eq_false V
      have av:=D V
      clear V
      go_wp2_with fail
      go_quiet (fail)
      generalize hwq:wr.drewN _=w20
      have aN:Zg [] wr w20:=by rw[←hwq];exact(Zg.refl [] wr).drewN _
      obtain⟨q0,hq⟩:∃q:Zam,q=p2:=⟨_,rfl⟩
      have HQ0:=D (show YH w20 b q0 (.slice Ab q0.busy.length cb) _ hb Gb a d by rw[hq];exact J.upd aN)
      have HX20:=D (show w20.heap[w.heap.size]? =some (.cells #[.pointer (some ⟨b,0,none⟩)] 61 (0,0))by rw[←hwq];exact aF)
      have HU0:=D ((aE.trans T).trans aN)
      have HF0:=D (show(q0.busy.length:Int)+q0.idle.length<q0.total by have:=av.out;rw[hq];omega)
      have HT0:=D (show ZaO p key now=({q0 with last:=q0.last+1,busy:=q0.busy++[⟨q0.last+1,key,0⟩]},q0.last+1,true,0)by
       rw[M.out,hq]
       unfold Zjp;rw[bC.out];dsimp only;rw[if_neg (by have:=av.out;push_cast;omega)])
      have HL0:=D (show q0.last≤1000000000000 by rw[hq];exact bm)
      have hql0:q0.busy.length≤32:=by rw[hq];exact aU
      clear hwq aV bn aQ bD s1 hq aN
      go_upto_region 20 with fail
      exact Zr9
  ·have hq:=ba.out
   rw[Q]at hq
   dsimp only[Option.getD]at hq
   have aa:ZaO p key now=(Z,0,false,10):=by rw[al.out];exact Znz ar.symm (al.out▸Q)
   have HQ:=D hq;have M:=D aa
   clear hq aa Q
   refine HQ.out.mono ?_
   rintro e w4 ⟨gone,rfl,d,ac,l⟩
   have r:=I.setHosts (l':=Z.hosts) l.upd ac l.new I.ok
   have bI:=D (show YO b Z w4 (b::(Gb++a++d))from⟨_,_,_,_,_,_,rfl,r⟩)
   have aY:=D (ai.trans l.upd (fun k hk=> .inr (by rw[o.out];simp[hk])))
   have Y:=D l.new
   clear ac l r bg bu
   go_wp2_with fail
   go_ret3
   rw[M.out]
   refine⟨rfl,_,bI.out,aY.out,fun k hk=> ?_⟩
   simp only[List.mem_cons,List.mem_append]at hk
   rcases hk with hk|(hk|hk)|hk
   ·exact .inl (by rw[o.out];simp[hk])
   ·exact .inl (by rw[o.out];simp[hk])
   ·exact .inl (by rw[o.out];simp[hk])
   ·rcases Y k hk with L|L
    ·exact .inl (by rw[o.out];simp[L])
    ·right;have:=ai.size;omega
end Go.Proofs.YtlhapbopmplngaaGreatDoor
