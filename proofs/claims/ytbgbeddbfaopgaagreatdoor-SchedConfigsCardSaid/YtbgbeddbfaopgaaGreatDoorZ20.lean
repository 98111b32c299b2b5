import Derived.LaidEqlPtr
import Derived.Test.YtbgbeddbfaopgaaGreatDoorZ19
set_option linter.all false
set_option maxHeartbeats 16000000
set_option maxRecDepth 100000
set_option autoImplicit true
set_option relaxedAutoImplicit true
namespace Go.Proofs.YtbgbeddbfaopgaaGreatDoor
open Go.RowKit Go.Lk
section
variable {w:World} {b:Nat} {P:YI} {lk:Option Nat} {s:Zf} {va vp vl:Value} {F:List Nat}
theorem Zh.rowAll (h:Zh w b P lk s va vp vl F):∃G,Zj 98 1 va (P.fps.map Zda) w G∧(∀q∈G,q∈F):=by
 obtain⟨G,a,c,_⟩:=h.step (k:=1) rfl
 exact⟨G,a,c⟩
theorem Zh.rowPres (h:Zh w b P lk s va vp vl F):∃G,Zj 178 1 vp (P.qps.map Zda) w G∧(∀q∈G,q∈F):=by
 obtain⟨G,a,c,_⟩:=h.step (k:=2) rfl
 exact⟨G,a,c⟩
theorem Zh.fp (h:Zh w b P lk s va vp vl F) {i:Nat} (hf:s.all[i]? =some f):∃p,P.fps[i]? =some p:=
 ⟨_,Xa (by rw[h.fl];exact(Jk hf))⟩
theorem Zh.qp (h:Zh w b P lk s va vp vl F) {i:Nat} (hf:s.pres[i]? =some x):∃q,P.qps[i]? =some q:=
 ⟨_,Xa (by rw[h.ql];exact(Jk hf))⟩
theorem Ze1 {l:List Nat} (h:Zj e 1 v (l.map Zda) w G) {i p:Nat} (hp:l[i]? =some p):
  ∃g c,v= .slice (some ⟨g,0,none⟩) l.length c∧l.length≤c∧i<l.length∧w.cell? ⟨g,i,none⟩=some (.pointer (some ⟨p,0,none⟩)):=by
 have f:=(Jk hp)
 obtain⟨g,c,d,a,b⟩:=h.cell (j:=i) (i:=0) (c:=Zda p) (u:= .pointer (some ⟨p,0,none⟩)) (by rw[Xe,hp];rfl) rfl
 rw[Xb]at d a
 refine⟨g,c,d,a,f,?_⟩
 rw[Nat.mul_one,Nat.add_zero]at b
 exact b
end
section
variable {w:World} {b:Nat} {P:YI} {lk:Option Nat} {s:Zf} {va vp vl:Value} {F:List Nat}
theorem Zlq (n:Int) (w:World) (h1: -1000≤n) (h2:n≤1000):Calls Tryz.prog 134 #[.int .i64 n] w fun e w'=>e= .returned (.int .i64 (n-6+14))∧w'=w:=by
 have b:IntKind.i64.wrap (n-6)=n-6:=IntWalk.i64_in _ (by omega)
 have a:IntKind.i64.wrap (n-6+14)=n-6+14:=IntWalk.i64_in _ (by omega)
 go_enter Tryz.func134,Tryz.ntmps134
 go_wp2_with fail
 go_ret
 exact⟨by first|rfl|rw[b,a]|(rw[a]),rfl⟩
theorem Zpr (x:Bool) (w:World):Calls Tryz.prog 156 #[.bool x] w fun e w'=>e= .returned (.int .i64 (if x then 1 else 0))∧w'=w:=by
 go_enter Tryz.func156,Tryz.ntmps156
 cases x with
 |true=>go_wp2_with fail;go_ret;exact⟨rfl,rfl⟩
 |false=>go_wp2_with fail;go_ret;exact⟨rfl,rfl⟩
theorem ZaF (h:Zh w b P lk s va vp vl F) (hm:s.all.length≤1000000) {i p:Nat} (hp:P.fps[i]? =some p) (id:Int) (hid:id=(i:Int)+1):
  Calls Tryz.prog 70 #[.pointer (some ⟨b,0,none⟩), .int .i64 id] w fun e w'=>e= .returned (.pointer (some ⟨p,0,none⟩))∧w'=w:=by
 obtain⟨G,a,_⟩:=h.rowAll
 obtain⟨g,c,rfl,d,j,o⟩:=Ze1 a hp
 rw[h.fl]at h d j
 have k:=Jx 17 h.blk.1
 have m:IntKind.i64.wrap (id-1)=i:=by rw[IntWalk.i64_in _ (by omega)];omega
 clear h a
 have n:¬id<1:=by omega
 have l:¬(s.all.length:Int)<id:=by omega
 go_enter Tryz.func70,Tryz.ntmps70
 go_wp2_with fail
 go_ret
 exact⟨rfl,rfl⟩
end
section
variable {w:World} {b:Nat} {P:YI} {lk:Option Nat} {s:Zf} {va vp vl:Value} {F:List Nat}
theorem Zf1 (h:Zh w b P lk s va vp vl F) (hm:s.pres.length≤1000000) {i q:Nat} (hq:P.qps[i]? =some q) (hx:s.pres[i]? =some x) (pre:Int) (hpre:x.num=pre) (hno:∀(j:Nat) (y:ZM),j<i→s.pres[j]? =some y→(y.num==pre)=false):
  Calls Tryz.prog 157 #[.pointer (some ⟨b,0,none⟩), .int .i64 pre] w fun e w'=>e= .returned (.pointer (some ⟨q,0,none⟩))∧w'=w:=by
 obtain⟨G,o,_⟩:=h.rowPres
 obtain⟨g,c,rfl,r,z,_⟩:=Ze1 o hq
 rw[h.ql]at h r z
 obtain⟨n,t⟩:=Je s.pres.length
 rw[←t]at h r z hm
 have O:=Jx 18 h.blk.1
 have M:=D (show∀(k:Nat),k≤i→∃l y,s.pres[k]? =some y∧(k=i→l=q∧y=x)∧w.cell? ⟨g,k,none⟩=some (.pointer (some ⟨l,0,none⟩))∧w.cell? ⟨l,0,none⟩=some (.int .i64 y.num)by
  intro k V
  obtain⟨y,a⟩:∃y,s.pres[k]? =some y:=⟨_,Xa (by have:=(Jk hx);omega)⟩
  obtain⟨l,m⟩:=h.qp a
  obtain⟨W,R,d,_,_,L⟩:=Ze1 o m
  injection d with d _ _;injection d with d;injection d with d;subst d
  exact⟨l,y,a,fun e=>by subst e;rw[hq]at m;rw[hx]at a;exact⟨(Option.some.inj m).symm,(Option.some.inj a).symm⟩,L,Zc (i:=0) (h.flight m a).1 rfl⟩)
 have I:=D hno;have H:=D hpre
 clear h o hq hx t hno hpre
 go_enter Tryz.func157,Tryz.ntmps157
 go_wp2_with fail
 go_loopw[6,12] (fun _ s12 wr=>∃kk:Nat,kk≤i∧s12= .int .i64 kk∧w=wr) (fun _ s12 _=>i-(intOf s12).toNat)
 case atStart=>exact⟨0,Xn _,rfl,rfl⟩
 case round=>
  obtain⟨kk,K,rfl,rfl⟩:=hrel
  obtain⟨l,y,a,p,T,S⟩:=M.out kk K
  have Q:kk<n:=by omega
  have N:=D a;have C:=D p
  clear a p
  by_cases J:kk=i
  ·obtain⟨rfl,rfl⟩:=C.out J
   have E:=H.out
   go_wp2_with fail
   go_ret
   exact⟨rfl,rfl⟩
  ·have E:¬y.num=pre:=by have:=I.out kk y (by omega) N.out;simpa using this
   go_wp2_with fail
   exact⟨⟨kk+1,by omega,by go_num,trivial⟩,by simp[intOf];omega⟩
end
theorem Zhk {α:Type} {p:α→Bool} {l:List α} {k:Nat} {x:α} (hx:l[k]? =some x) (hp:p x=true) (hm:∀(j:Nat) (y:α),j<k→l[j]? =some y→p y=false):l.findIdx? p=some k:=by
 have a:=(Jk hx)
 rw[List.findIdx?_eq_some_iff_getElem]
 refine⟨a,?_,fun j b=> ?_⟩
 ·rw[Xa a]at hx;injection hx with hx;rw[hx];exact hp
 ·have:=hm j l[j] b (Xa (by omega));simp[this]
theorem Zgh {α:Type} {p:α→Bool} {l:List α} (hm:∀(j:Nat) (y:α),j<l.length→l[j]? =some y→p y=false):l.findIdx? p=none:=by
 rw[List.findIdx?_eq_none_iff]
 intro x hx
 obtain⟨i,a,rfl⟩:=List.getElem_of_mem hx
 exact hm i _ a (Xa a)
def ZrK (o:Option Nat):Value:= .pointer (o.map fun p=>⟨p,0,none⟩)
def Zb5 (P:YI) (s:Zf) (conn:Int):Option Nat×Option Nat:=
 if conn<1 then(none,none)else match s.all.findIdx? (fun f=>f.conn==conn)with
 |some i=>(P.fps[i]?,none)
 |none=>match s.pres.findIdx? (fun p=>p.conn==conn)with
  |some i=>(none,P.qps[i]?)
  |none=>(none,none)
section
variable {w:World} {b:Nat} {P:YI} {lk:Option Nat} {s:Zf} {va vp vl:Value} {F:List Nat}
theorem Zhf (h:Zh w b P lk s va vp vl F) (hma:s.all.length≤1000000) (hmp:s.pres.length≤1000000) (conn:Int):
  Calls Tryz.prog 86 #[.pointer (some ⟨b,0,none⟩), .int .i64 conn] w fun e w'=>e= .returned (.tuple #[ZrK (Zb5 P s conn).1,ZrK (Zb5 P s conn).2])∧w'=w:=by
 by_cases T:conn<1
 ·have a:Zb5 P s conn=(none,none):=by unfold Zb5;rw[if_pos T]
  rw[a]
  clear h a
  go_enter Tryz.func86,Tryz.ntmps86
  go_wp2_with fail
  go_ret2
  exact⟨rfl,rfl⟩
 obtain⟨R,L⟩:=Je (Zb5 P s conn)
 have X:=D (show R=match s.all.findIdx? (fun f=>f.conn==conn)with
  |some i=>(P.fps[i]?,none)
  |none=>match s.pres.findIdx? (fun p=>p.conn==conn)with
   |some i=>(none,P.qps[i]?)
   |none=>(none,none)by rw[L];unfold Zb5;rw[if_neg T])
 rw[←L]
 obtain⟨G,C,_⟩:=h.rowAll
 obtain⟨A,c,rfl,S⟩:=C.form'
 rw[Xb,h.fl]at h S C
 obtain⟨G2,z,_⟩:=h.rowPres
 obtain⟨A2,c2,rfl,Q⟩:=z.form'
 rw[Xb,h.ql]at h Q z
 obtain⟨n,N⟩:=Je s.all.length
 obtain⟨n2,I⟩:=Je s.pres.length
 rw[←N]at h C hma
 rw[←I]at h z hmp
 have ac:=Jx 17 h.blk.1
 have ab:=Jx 18 h.blk.1
 have H1:=D (show∀(k:Nat),k<n→∃g p f,A=some ⟨g,0,none⟩∧P.fps[k]? =some p∧s.all[k]? =some f∧w.cell? ⟨g,k,none⟩=some (.pointer (some ⟨p,0,none⟩))∧w.cell? ⟨p,17,none⟩=some (.int .i64 f.conn)by
  intro k hk
  obtain⟨f,r⟩:∃y,s.all[k]? =some y:=⟨_,Xa (by omega)⟩
  obtain⟨p,o⟩:=h.fp r
  obtain⟨O,c',a,_,_,K⟩:=Ze1 C o
  injection a with a _ _
  obtain⟨vh,lb,vb,Gh,Gb,hA,_⟩:=h.fetch o r
  exact⟨O,p,f,a,o,r,K,Zc (i:=17) hA.blk rfl⟩)
 have H2:=D (show∀(k:Nat),k<n2→∃g q x,A2=some ⟨g,0,none⟩∧P.qps[k]? =some q∧s.pres[k]? =some x∧w.cell? ⟨g,k,none⟩=some (.pointer (some ⟨q,0,none⟩))∧w.cell? ⟨q,2,none⟩=some (.int .i64 x.conn)by
  intro k hk
  obtain⟨x,hx⟩:∃y,s.pres[k]? =some y:=⟨_,Xa (by omega)⟩
  obtain⟨q,m⟩:=h.qp hx
  obtain⟨O,c',a,_,_,K⟩:=Ze1 z m
  injection a with a _ _
  exact⟨O,q,x,a,m,hx,K,Zc (i:=2) (h.flight m hx).1 rfl⟩)
 clear h C L z S Q;change Hid _ at N I
 go_enter Tryz.func86,Tryz.ntmps86
 go_wp2_with fail
 go_loopw[7,17] (fun _ s17 wr=>∃kk:Nat,kk≤n∧s17= .int .i64 kk∧w=wr∧Hid (∀(j:Nat) (y:ZE),j<kk→s.all[j]? =some y→(y.conn==conn)=false)) (fun _ s17 _=>n-(intOf s17).toNat)
 case atStart=>exact⟨0,Xn _,rfl,rfl,D (fun j y E=>absurd E (Nat.not_lt_zero _))⟩
 case round=>
  obtain⟨kk,ae,rfl,rfl,M⟩:=hrel
  by_cases aa:kk<n
  ·obtain⟨g,p,f,rfl,o,r,k1,l⟩:=H1.out kk aa
   have HP:=D o;have Y:=D r
   clear o r
   by_cases t:f.conn=conn
   ·go_wp2_with fail
    go_ret2
    refine⟨?_,rfl⟩
    rw[X.out,Zhk Y (by simpa using t) M.out]
    dsimp only
    rw[HP.out]
    rfl
   ·go_wp2_with fail
    exact⟨⟨kk+1,by omega,by go_num,trivial,D (fun j y E d=>by
     by_cases e:j=kk
     ·subst e;rw[Y.out]at d;cases d;simpa using t
     ·exact M j y (by omega) d)⟩,by simp[intOf];omega⟩
  ·obtain rfl:kk=n:=by omega
   have V:=D (show R=match s.pres.findIdx? (fun p=>p.conn==conn)with
    |some i=>(none,P.qps[i]?)
    |none=>(none,none)by
     have H:=M.out
     rw[N.out]at H
     rw[X.out,Zgh H])
   go_wp2_with fail
   go_loopw[9,34] (fun _ s34 wr=>∃kk:Nat,kk≤n2∧s34= .int .i64 kk∧w=wr∧Hid (∀(j:Nat) (y:ZM),j<kk→s.pres[j]? =some y→(y.conn==conn)=false)) (fun _ s34 _=>n2-(intOf s34).toNat)
   case atStart=>exact⟨0,Xn _,rfl,rfl,D (fun j y E=>absurd E (Nat.not_lt_zero _))⟩
   case round=>
    obtain⟨l,ad,rfl,rfl,J⟩:=hrel
    by_cases Z:l<n2
    ·obtain⟨g,q,x,rfl,m,hx,k1,k3⟩:=H2.out l Z
     have HQ:=D m;have W:=D hx
     clear m hx
     by_cases t:x.conn=conn
     ·go_wp2_with fail
      go_ret2
      refine⟨?_,rfl⟩
      rw[V.out,Zhk W (by simpa using t) J.out]
      dsimp only
      rw[HQ.out]
      rfl
     ·go_wp2_with fail
      exact⟨⟨l+1,by omega,by go_num,trivial,D (fun j y E d=>by
       by_cases e:j=l
       ·subst e;rw[W.out]at d;cases d;simpa using t
       ·exact J j y (by omega) d)⟩,by simp[intOf];omega⟩
    ·obtain rfl:l=n2:=by omega
     go_wp2_with fail
     go_ret2
     refine⟨?_,rfl⟩
     have H:=J.out
     rw[I.out]at H
     rw[V.out,Zgh H]
     rfl
end
theorem Zis {w:World} {p:Nat} (h:w.heap[p]? =some (.cells (ZaG f lk vh lb vb).toArray 112 (0,0))):
  Calls Tryz.prog 127 #[.pointer (some ⟨p,0,none⟩)] w fun e w'=>e= .returned (.agg (ZJ (Zbo f)).toArray)∧Zg [] w w':=by
 obtain⟨C,g⟩:=Je (w.alloc (.cells #[.int .i64 0, .int .i64 0, .int .u64 0, .string ⟨#[]⟩, .int .i64 0] 171))
 have j:=Ja g
 have i:=Jh g
 have n:=lt_of_block h
 have a:=(j.block p n (by simp)).trans h
 obtain⟨L,l⟩:=Je w.heap.size
 rw[←l]at i
 have F:=Jx 0 a
 have E:=Jx 7 a
 have y:=Jx 13 a
 have x:=Jx 11 a
 obtain⟨s,c⟩:=Je C.drew
 obtain⟨r,d⟩:=Je (s.setRow L (ZJ (Zbo f)).toArray)
 have k:s.heap[L]? =some (.cells #[.int .i64 0, .int .i64 0, .int .u64 0, .string ⟨#[]⟩, .int .i64 0] 171 (0,0)):=by rw[c];exact i
 have m:r.heap[L]? =some (.cells (ZJ (Zbo f)).toArray 171 (0,0)):=by rw[d];exact setRow_heap _ _ _ _ _ _ k
 have q:Zg [] w r:=by rw[d,c];exact(j.drew).setRow (.inl (by omega)) _
 have z:=D (show(ZJ (Zbo f)).toArray.all (·.oneCell')=true by rw[Xl,Xk];exact ZcR _)
 clear h a i j n;change Hid _ at k m q g c d l
 go_enter Tryz.func127,Tryz.ntmps127
 go_upto_region 1 with fail
 rw[←g.out,←l.out]
 refine Jr [0,4,8,12,16,20,24,28,32,36,40,44,48,52,56,60,64,68,74] (fun W=>W.cell? ⟨p,0,none⟩=some (.int .i64 f.id)∧W.cell? ⟨p,7,none⟩=some (.int .i64 f.req.cls)∧W.cell? ⟨p,13,none⟩=some (.int .u64 (f.since:Int))∧W.cell? ⟨p,11,none⟩=some (.string ⟨f.key.toArray⟩)) ⟨F,E,y,x⟩ ?_
 repeat first|refine Jn ?_|refine Jf ?_|refine Ju ?_
 refine JL ?_
 simp only[Xu]
 rw[←c.out]
 refine Jo (ZJ (Zbo f)).toArray k Zcn z ?_
 rw[←d.out]
 refine Jz ?_
 go_wp2_with fail
 refine bodyPost_ret (v:= .agg (ZJ (Zbo f)).toArray) (Zs _ Tryz.results127 (b:=L) (o:=0) rfl Zcn (Zb.of_block m)) rfl ?_
 exact⟨rfl,q.out⟩
end Go.Proofs.YtbgbeddbfaopgaaGreatDoor
namespace Go.Lk
open Go.RowKit
theorem ZdT {L:List YG} (hL:∀A∈L,A.Local) {A1:YG} (h1:A1.Local) (i:Nat):∀A∈L.set i A1,A.Local:=fun A hA=>by
 rcases List.mem_or_eq_of_mem_set hA with hA|rfl
 ·exact hL A hA
 ·exact h1
theorem Lays.drop_apart {FS:List (List Nat)} (i:Nat) (h:Lays L w FS) (hG:FS[i]? =some G):Z8 (FS.eraseIdx i).flatten G:=fun k hk hm=>by
 obtain⟨j,H,hj,hk⟩:=YK hk
 rw[Zap]at hj
 refine h.apart _ i _ _ hj hG ?_ k hk hm
 split<;>omega
end Go.Lk
namespace Go.Proofs.YtbgbeddbfaopgaaGreatDoor
open Go.RowKit Go.Lk
theorem ZiN {qs:List Nat} {l:List ZM} (j:Nat):YM (qs.eraseIdx j) (l.eraseIdx j)=(YM qs l).eraseIdx j:=by
 apply List.ext_getElem?
 intro k
 unfold YM
 rw[List.getElem?_zipWith,Zap,Zap,Zap,List.getElem?_zipWith]
section
variable {w:World} {b:Nat} {P:YI} {lk:Option Nat} {s:Zf} {va vp vl:Value} {F:List Nat}
theorem Zh.qnd (h:Zh w b P lk s va vp vl F):P.qps.Nodup:=by
 obtain⟨G,m,_,_⟩:=h.step (k:=14) rfl
 obtain⟨d,rfl,c⟩:=m
 have len:d.length=P.qps.length:=by rw[c.len];unfold YM;simp[h.ql]
 have f:∀k:Nat,∀a:k<P.qps.length,d[k]? =some [P.qps[k]]:=fun k a=>by
  have g:k<d.length:=by rw[len];exact a
  have l:s.pres[k]? =some (s.pres[k]'(by have:=h.ql;omega)):=Xa _
  have:=c.lies k _ _ (Zdl (Xa a) l) (Xa g)
  rw[Xa g,this.1]
 unfold List.Nodup
 rw[List.pairwise_iff_getElem]
 intro i j n o p e
 exact c.apart i j _ _ (f i n) (f j o) (by omega) P.qps[i] (by simp) (by rw[e];simp)
theorem Zh.delPres (h:Zh w b P lk s va vp vl F) {j q:Nat} (hq:P.qps[j]? =some q) (hx:s.pres[j]? =some x):
  ∃G,Zj 178 1 vp (P.qps.map Zda) w G∧(∀k∈G,k∈F)∧b∉G∧(∀y∈P.qps,y∉G∧∃cs,w.heap[y]? =some (.cells cs 259 (0,0)))∧b≠q∧∀(w1 w2:World) (vp':Value) (G1:List Nat),Zj 178 1 vp' ((P.qps.eraseIdx j).map Zda) w1 G1→Zi w w1 G G1→
   w2.heap[b]? =some (.cells (Y3 s P va vp' vl).toArray 84 (0,0))→Zg [b] w1 w2→∃F1,Zh w2 b {P with qps:=P.qps.eraseIdx j} lk {s with pres:=s.pres.eraseIdx j} va vp' vl F1∧Zi w w2 F F1∧q∉F1∧w2.heap[q]? =w.heap[q]? :=by
 obtain⟨c,V,f⟩:=h.lay
 have O:=Yi b P lk s va vp vl
 have ai:c.length=15:=by rw[f.len];simp[Z0]
 have p:=Xa (l:=c) (i:=0) (by omega)
 have o:=Xa (l:=c) (i:=2) (by omega)
 have m:=Xa (l:=c) (i:=14) (by omega)
 obtain⟨A,_⟩:=f.lies 0 _ _ rfl p
 have h2:=f.lies 2 _ _ rfl o
 obtain⟨g,C,n⟩:=f.lies 14 _ _ rfl m
 have lq:j<g.length:=by rw[n.len];unfold YM;have:=(Jk hx);simp[h.ql];omega
 have r:=Xa lq
 obtain⟨ac,ae⟩:=n.lies j _ _ (Zdl hq hx) r
 rw[ac]at r
 have z:q∈c[14]:=by rw[C];exact Zw r (by simp)
 have E:b≠q:=fun e=>f.apart 0 14 _ _ p m (by omega) b (by rw[A];simp) (e▸z)
 have N:q∉c[2]:=fun d=>f.apart 2 14 _ _ o m (by omega) q d z
 have K:q<w.heap.size:=(Jg ae)
 have W:∀y∈P.qps,y∉c[2]∧∃cs,w.heap[y]? =some (.cells cs 259 (0,0)):=fun y hy=>by
  obtain⟨k,a⟩:=List.getElem?_of_mem hy
  have aj:=(Jk a)
  have hs:s.pres[k]? =some (s.pres[k]'(by have:=h.ql;omega)):=Xa _
  have ad:k<g.length:=by rw[n.len];unfold YM;simp[h.ql];have:=h.ql;omega
  have I:=Xa ad
  obtain⟨ah,af⟩:=n.lies k _ _ (Zdl a hs) I
  rw[ah]at I
  have Z:y∈c[14]:=by rw[C];exact Zw I (by simp)
  exact⟨fun d=>f.apart 2 14 _ _ o m (by omega) y d Z,_,af⟩
 refine⟨c[2],h2,fun k a=>by rw[V];exact Zw o a,fun d=>f.apart 0 2 _ _ p o (by omega) b (by rw[A];simp) d,W,E,fun w1 w2 vp' G1 hr hg hb R=> ?_⟩
 have J:=n.drop j
 have aa:=n.drop_apart j r
 have X:YG.list (YM (P.qps.eraseIdx j) (s.pres.eraseIdx j)) w (g.eraseIdx j).flatten:=⟨_,rfl,by rw[ZiN];exact J.1⟩
 have s0:=f.step O m (A1:=YG.list (YM (P.qps.eraseIdx j) (s.pres.eraseIdx j))) (w1:=w) (F1:=(g.eraseIdx j).flatten) X ⟨Zg.refl _ _,fun k a=> .inl (by rw[C];exact J.2 k a)⟩
 have L:=ZdT O (YG.list_local (Zbv (P.qps.eraseIdx j) (s.pres.eraseIdx j))) 14
 have ag:(c.set 14 (g.eraseIdx j).flatten)[2]? =some c[2]:=by rw[Xt (by omega),o]
 have s1:=s0.1.step L ag hr hg
 have Y:=ZdT L (Zd 178 1 vp' ((P.qps.eraseIdx j).map Zda)) 2
 have ab:((c.set 14 (g.eraseIdx j).flatten).set 2 G1)[0]? =some [b]:=by rw[Xt (by omega),Xt (by omega),p,A]
 have s2:=s1.1.step Y ab (A1:=ZaL b (Y3 s P va vp' vl).toArray 84) ⟨rfl,hb⟩ (Zi.of_upd R)
 have M:Zi w w2 F (((c.set 14 (g.eraseIdx j).flatten).set 2 G1).set 0 [b]).flatten:=by rw[V];exact(s0.2.trans s1.2).trans s2.2
 refine⟨(((c.set 14 (g.eraseIdx j).flatten).set 2 G1).set 0 [b]).flatten,⟨⟨_,rfl,s2.1⟩,h.fl,?_,fun k a=> ?_⟩,M,fun d=> ?_,?_⟩
 ·show(P.qps.eraseIdx j).length=(s.pres.eraseIdx j).length
  rw[List.length_eraseIdx,List.length_eraseIdx,h.ql]
 ·rcases M.new k a with S|S
  ·exact h.two k S
  ·have h7:=h.two b h.blk.2;have h8:=h.lt b h.blk.2;omega
 ·obtain⟨k,H,a,d⟩:=YK d
  by_cases k0:k=0
  ·subst k0
   rw[List.getElem?_set_self (by simp;omega)]at a
   cases a;simp at d;exact E d.symm
  ·rw[Xt (by omega)]at a
   by_cases k2:k=2
   ·subst k2
    rw[List.getElem?_set_self (by simp;omega)]at a
    cases a
    rcases hg.new q d with T|T
    ·exact N T
    ·omega
   ·rw[Xt (by omega)]at a
    by_cases Q:k=14
    ·subst Q
     rw[List.getElem?_set_self (by omega)]at a
     cases a
     exact aa q d (by simp)
    ·rw[Xt (by omega)]at a
     exact f.apart k 14 _ _ a m Q q d z
 ·rw[R.block q (Nat.lt_of_lt_of_le K hg.upd.size) (by simpa using Ne.symm E),hg.upd.block q K N]
end
end Go.Proofs.YtbgbeddbfaopgaaGreatDoor
namespace Go.Lk
theorem ZjS {l:List Nat} (h:l.Nodup) {j q:Nat} (hq:l[j]? =some q):(l.filter fun x=> !(x==q))=l.eraseIdx j:=by
 induction l generalizing j with
 |nil=>simp at hq
 |cons a l ih=>
  have b:=List.nodup_cons.1 h
  cases j with
  |zero=>
   simp only[Xg,Option.some.injEq]at hq
   subst hq
   rw[List.filter_cons]
   simp only[BEq.rfl,Bool.not_true,Bool.false_eq_true,if_false,List.eraseIdx_cons_zero]
   rw[List.filter_eq_self]
   intro x hx
   have:x≠a:=fun e=>b.1 (e▸hx)
   simp[this]
  |succ j=>
   have ha:a≠q:=fun e=>by
    subst e
    simp only[Xf]at hq
    exact b.1 (Xc hq)
   rw[List.filter_cons]
   simp only[ha,Bool.not_eq_true',if_true,List.eraseIdx_cons_succ,not_false_eq_true,beq_eq_false_iff_ne,ne_eq]
   rw[ih b.2 (by simpa using hq)]
theorem ZlO {s:Zf} {j:Nat} (hn:(s.pres.map (·.num)).Nodup) (hx:s.pres[j]? =some x) (hc:0<x.conn) (keep:Bool):forgetS s x keep={s with pool:=giveP s.pool x.conn s.now keep,pres:=s.pres.eraseIdx j}:=by
 have e:=Zin (k:=(·.num)) hn hx
 rw[Ya]at e
 unfold forgetS
 simp only[if_pos hc]
 rw[e]
theorem Zlu {s:Zf} {j:Nat} (hn:(s.pres.map (·.num)).Nodup) (hx:s.pres[j]? =some x) (hc:¬0<x.conn) (keep:Bool):forgetS s x keep={s with queue:=dropQ s.queue x.item,pres:=s.pres.eraseIdx j}:=by
 have e:=Zin (k:=(·.num)) hn hx
 rw[Ya]at e
 unfold forgetS
 simp only[if_neg hc]
 rw[e]
end Go.Lk
namespace Go.Proofs.YtbgbeddbfaopgaaGreatDoor
open Go.RowKit Go.Lk
theorem ZiS (x q box:Nat) (W:World) {ca cb:Array Value} (hx:W.heap[x]? =some (.cells ca 259 (0,0))) (hq:W.heap[q]? =some (.cells cb 259 (0,0))) (hc:W.cell? ⟨box,0,none⟩=some (.pointer (some ⟨q,0,none⟩))):
  Calls Tryz.prog 246 #[.pointer (some ⟨x,0,none⟩), .pointer (some ⟨box,0,none⟩)] W fun e w'=>e= .returned (.bool (x==q))∧Zg [] W w':=by
 obtain⟨z,a⟩:=Je ((x==q))
 have d: Tryz.prog.underlying 178=some (.pointer 259):= Tryz.underlying178
 have c:(Tryz.prog.info? 259).map (·.size)=some 4:=by kernel_rfl
 obtain⟨j,b,g⟩:=Option.map_eq_some_iff.1 c
 have i:(binOp .eql 178 (.pointer (some ⟨x,0,none⟩)) (.pointer (some ⟨q,0,none⟩))).run Tryz.prog W= .ok (.bool z) W:=by
  by_cases h:x=q
  ·subst h
   rw[a,run_eql_ptr_same W _ d b];simp
  ·rw[a,run_eql_ptr_other W d b (by omega) (by intro e;injection e with e;exact h e) hx hq];simp[h]
 rw[←a]
 clear a hx hq c b g
 go_enter Tryz.func246,Tryz.ntmps246
 go_wp2_with fail
 go_ret
 exact⟨rfl,Zg.refl _ _⟩
def ZrE (b:Nat) (P:YI) (lk:Option Nat) (s:Zf) (va vl:Value) (w:World) (F:List Nat) (j q:Nat) (e:Ending) (w':World):Prop:=
 e= .returned (.tuple #[])∧∃vp' F',Zh w' b {P with qps:=P.qps.eraseIdx j} lk s va vp' vl F'∧Zi w w' F F'∧q∉F'∧w'.heap[q]? =w.heap[q]?
theorem ZeY {P:Prop}(h:P:=by
 go_wp2_with fail
 refine Jz ?_
 obtain⟨G,hr,O,ac,a,aF,ai⟩:=o.delPres c I.out
 have an:w6.cell? ⟨b,18,none⟩=some vp:=Zc (i:=18) o.blk.1 rfl
 have ab:L∉G:=fun J=>Q.out.2 (O L J)
 have hd:=Zqj (fun x=>x==q) 246 #[.pointer (some ⟨L,0,none⟩)] (fun _=>Znn) (fun _=>ZeE) (G:=[]) hr rfl (by intro k _ J;cases J) (fun aC W=>Go.MuLone.run_callFunc_enter Tryz.func246 (by kernel_rfl) rfl _ _)
  (fun W G1 d r y E hI Y=>(ZiS y q L W
   (show W.heap[y]? =some (.cells ((a y (by rw[E];simp)).2.choose) 259 (0,0))from(Y.block y (Array.getElem?_eq_some_iff.1 (a y (by rw[E];simp)).2.choose_spec).1 (by simpa using(a y (by rw[E];simp)).1)).trans (a y (by rw[E];simp)).2.choose_spec)
   (show W.heap[q]? =some (.cells ((a q (Xc c)).2.choose) 259 (0,0))from(Y.block q (Array.getElem?_eq_some_iff.1 (a q (Xc c)).2.choose_spec).1 (by simpa using(a q (Xc c)).1)).trans (a q (Xc c)).2.choose_spec) (Zc (i:=0) ((Y.block L (Jg Q.out.1) (by simpa using ab)).trans Q.out.1) rfl)).mono (by rintro e w' ⟨V,g⟩;exact⟨V,G1,hI,Zi.mk (g.weaken (by simp)) (fun k hk=> .inl hk)⟩))
 rw[ZjS o.qnd c.out]at hd
 have HD:=D hd;have ao:=D ai;have ar:=D ac;have aG:=D O
 clear hd ai hr ac a O ab
 go_upto_region 4 with fail
 go_wp2_with fail
 refine HD.out.mono ?_
 rintro e p ⟨v7,rfl,S,G7,_,_,z,_⟩
 rw[List.append_nil]at z
 have C:=(z.block b (Jg o.blk.1) ar).trans o.blk.1
 have aD:p.cell? ⟨b,18,none⟩=some vp:=Zc (i:=18) C rfl
 have aH:p.frozen? ⟨b,18,none⟩=false:=Zk C
 obtain⟨A7,aj,e7,_⟩:=S.form'
 rw[Xb]at e7
 subst e7
 obtain⟨F8,h8,g8,q8,e8⟩:=ao.out p (p.setCell ⟨b,18,none⟩ (.slice A7 (P.qps.eraseIdx j).length aj)) (.slice A7 (P.qps.eraseIdx j).length aj) G S (Zi.of_upd z) (by rw[Ze C];rfl) ((Zg.refl [b] p).setCell (.inr (by simp)) _)
 have H8:=D h8;have G8:=D ((G6.trans g8));have Q8:=D q8;have E8:=D e8
 clear S z C h8 g8 q8 e8 an
 go_wp2_with fail
 (try simp only[Exit.inBlock,Exit.then])
 first|refine bodyPost_ret (results_none rfl _ _ _) rfl ?_|refine bodyPost_end (results_none rfl _ _ _) rfl ?_
 rw[HE.out]
 exact⟨rfl,_,_,H8.out,G8.out,Q8.out,E8.trans E6⟩):P:=h
theorem Zd4 (h:Zh w b P lk s va vp vl F) (hfit:ZW s n m) (hn:n≤1000000) {j q:Nat} (hq:P.qps[j]? =some q) (hx:s.pres[j]? =some x) (hnd:(s.pres.map (·.num)).Nodup) (keep:Bool):
  Calls Tryz.prog 163 #[.pointer (some ⟨b,0,none⟩), .pointer (some ⟨q,0,none⟩), .bool keep] w (ZrE b P lk (forgetS s x keep) va vl w F j q):=by
 have aI:∀(fn:Fn) (first cap:Array Value) (w:World),(Instr.makeFunc fn first cap).run Tryz.prog w= .ok (.func fn first cap) w:=fun _ _ _ _=>rfl
 obtain⟨R,am⟩:=Je (forgetS s x keep)
 rw[←am]
 obtain⟨w1,ae⟩:=Je (w.alloc (.cells #[.pointer (some ⟨q,0,none⟩)] 178))
 have ag:=Ja ae
 have ad:=Jh ae
 have ax:=h.lt
 obtain⟨L,HL⟩:=Je w.heap.size
 rw[←HL]at ad
 have aA:L∉F:=fun J=>by have:=ax L J;omega
 have V:=h.upd0 ag
 have al:=V.flight hq hx
 have c0:=Jx 0 ad
 have k2:=Jx 2 al.1
 have au:w1.heap[q]? =w.heap[q]? :=ag.block q (ax q al.2.1) (by simp)
 have aB:=D aA;have H1:=D V
 have c:=D hq;have I:=D hx;have az:=D hnd;have ay:=D hfit;have aJ:=D al.2.1
 clear h hfit hq hx hnd ax aA V al;change Hid _ at ae ag ad HL au am
 go_enter Tryz.func163,Tryz.ntmps163
 by_cases hc:0<x.conn
 ·have HE:=D (am.trans (ZlO az I hc keep))
  go_upto_region 1 with fail
  rw[←ae.out,←HL.out]
  go_upto_region 2 with fail
  obtain⟨H,l⟩:=Je w1.drew
  have N:=Jd l
  have g:=H1.upd0 N
  have d8:=Jx 8 g.blk.1
  have d7:=Jx 7 g.blk.1
  have K:H.cell? ⟨L,0,none⟩=some (.pointer (some ⟨q,0,none⟩)):=by rw[l];exact c0
  have M:H.cell? ⟨q,2,none⟩=some (.int .i64 x.conn):=by rw[l];exact k2
  have T:H.heap[L]? =some (.cells #[.pointer (some ⟨q,0,none⟩)] 178 (0,0)):=by rw[l];exact ad.out
  obtain⟨GP,hp,aw,aa⟩:=g.pool
  have H2:=D g;have HP:=D hp;have ap:=D aa;have af:=D l;have av:=Jt ag N
  have aq:=D (show H.heap[q]? =w.heap[q]? by rw[l];exact au)
  clear g hp aa l N aw c0 k2;change Hid _ at T
  refine Jr [0,4,8,12,16,20,24,28,32,36,40,44,52,49,58] (fun W=>W.cell? ⟨b,8,none⟩=some (.pointer (some ⟨P.pool,0,none⟩))∧W.cell? ⟨b,7,none⟩=some (.pointer (some ⟨P.clock,0,none⟩))∧W.cell? ⟨L,0,none⟩=some (.pointer (some ⟨q,0,none⟩))∧W.cell? ⟨q,2,none⟩=some (.int .i64 x.conn)) (by rw[af.out]at d8 d7 K M;exact⟨d8,d7,K,M⟩) ?_
  repeat first|refine Jn ?_|refine Jf ?_|refine Ju ?_
  refine JE ?_
  simp only[Xu]
  rw[←af.out]
  go_wp2_with fail
  refine(Za5 H2.clock.1).mono ?_
  rintro e W ⟨rfl,hW⟩
  rw[hW]
  clear hW W
  go_wp2_with fail
  refine⟨_,fun W hW=>hW,⟨d8,d7,K,M⟩,?_⟩
  refine JL ?_
  go_wp2_with fail
  refine(Zjz HP x.conn s.now keep ay.now).mono ?_
  rintro e w6 ⟨cg,rfl,aE,ak,ah⟩
  obtain⟨F6,Z,X⟩:=ap.out _ _ _ ak ah
  have o:=D Z
  have Q:=D (show w6.heap[L]? =some (.cells #[.pointer (some ⟨q,0,none⟩)] 178 (0,0))∧L∉F6 by
   obtain⟨o1,o2⟩:=X.off (L:=L) (Jg T) aB.out
   exact⟨o1.trans T,o2⟩)
  have E6:=D (show w6.heap[q]? =w.heap[q]? by
   have a1:=(Z.flight c I).1
   have a2:=(H2.flight c I).1
   rw[a1,←a2,aq.out])
  have G6:=D (X.pre0 av)
  clear ak ah Z X d8 d7 K M
  exact ZeY
 ·have HE:=D (am.trans (Zlu az I hc keep))
  go_upto_region 1 with fail
  rw[←ae.out,←HL.out]
  go_upto_region 3 with fail
  obtain⟨H,l⟩:=Je w1.drew
  have N:=Jd l
  have g:=H1.upd0 N
  have d9:=Jx 9 g.blk.1
  have K:H.cell? ⟨L,0,none⟩=some (.pointer (some ⟨q,0,none⟩)):=by rw[l];exact c0
  have M:H.cell? ⟨q,1,none⟩=some (.int .i64 x.item):=Zc (i:=1) (g.flight c I).1 rfl
  have T:H.heap[L]? =some (.cells #[.pointer (some ⟨q,0,none⟩)] 178 (0,0)):=by rw[l];exact ad.out
  obtain⟨GP,hp,aw,aa⟩:=g.queue
  have H2:=D g;have HP:=D hp;have ap:=D aa;have af:=D l;have av:=Jt ag N
  have aq:=D (show H.heap[q]? =w.heap[q]? by rw[l];exact au)
  clear g hp aa l N aw c0 k2;change Hid _ at T
  refine Jr [0,4,8,12,16,20,24,28,34] (fun W=>W.cell? ⟨b,9,none⟩=some (.pointer (some ⟨P.queue,0,none⟩))∧W.cell? ⟨L,0,none⟩=some (.pointer (some ⟨q,0,none⟩))∧W.cell? ⟨q,1,none⟩=some (.int .i64 x.item)) (by rw[af.out]at d9 K M;exact⟨d9,K,M⟩) ?_
  repeat first|refine Jn ?_|refine Jf ?_|refine Ju ?_
  refine JL ?_
  simp only[Xu]
  rw[←af.out]
  go_wp2_with fail
  refine(ZfE HP (Xj ay.q (by omega)) x.item).mono ?_
  rintro e w6 ⟨rfl,aE,ak,ah⟩
  obtain⟨F6,Z,X⟩:=ap.out _ _ _ ak ah
  have o:=D Z
  have Q:=D (show w6.heap[L]? =some (.cells #[.pointer (some ⟨q,0,none⟩)] 178 (0,0))∧L∉F6 by
   obtain⟨o1,o2⟩:=X.off (L:=L) (Jg T) aB.out
   exact⟨o1.trans T,o2⟩)
  have E6:=D (show w6.heap[q]? =w.heap[q]? by
   have a1:=(Z.flight c I).1
   have a2:=(H2.flight c I).1
   rw[a1,←a2,aq.out])
  have G6:=D (X.pre0 av)
  clear ak ah Z X d9 K M
  exact ZeY
theorem ZgD {last:Int} {gl:List (Value×ZH)} (h:YB b last gl w F) (hml:∀p∈gl,p.2.members.length≤1000000) (id:Int) (hq:gl.findIdx? (fun p=>p.2.members.contains id)=none):
  Calls Tryz.prog 212 #[.pointer (some ⟨b,0,none⟩), .int .i64 id] w fun e w'=>e= .returned (.tuple #[.int .i64 0, .bool false, .bool false])∧Zg [] w w':=by
 obtain⟨l,a⟩:=Je (w.alloc (.cells #[.int .i64 id] 3))
 have c:=Ja a
 have g:=Jh a
 have i:=(Z3 _ _ _).upd h c (by simp)
 have q:=Zc3 i hml id
 rw[Yo hq]at q
 have m:l.cell? ⟨w.heap.size,0,none⟩=some (.int .i64 id):=Zc g rfl
 have k:=D q
 clear q hq h i g hml;change Hid _ at a c
 go_enter Tryz.func212,Tryz.ntmps212
 go_upto_region 1 with fail
 rw[←a.out]
 go_wp2_with fail
 refine k.out.mono ?_
 rintro e n ⟨rfl,d⟩
 have j:=Jt c d
 clear d
 go_wp2_with fail
 go_ret3
 exact⟨rfl,j.out⟩
def Zjx (b:Nat) (P:YI) (lk:Option Nat) (s:Zf) (va:Value) (w:World) (F:List Nat) (e:Ending) (w':World):Prop:=
 e= .returned (.tuple #[])∧∃qps' vp' vl' F',Zh w' b {P with qps:=qps'} lk s va vp' vl' F'∧Zi w w' F F'
theorem Zly (h:Zh w b P lk s va vp vl F) (hfit:ZW s n m) (hs:Lk.Safe s) (hn:n≤900000) {i p:Nat} (hp:P.fps[i]? =some p) (hf:s.all[i]? =some f):
  Calls Tryz.prog 140 #[.pointer (some ⟨b,0,none⟩), .pointer (some ⟨p,0,none⟩)] w (Zjx b P lk (leaveS s ((i:Int)+1)) va w F):=by
 obtain⟨R,H⟩:=Je (leaveS s ((i:Int)+1))
 rw[←H]
 have ab:f.id=(i:Int)+1:=hs.1 i f hf
 obtain⟨vh,lb,vb,hb,aI⟩:=h.fcell hp hf
 have aL:=Jx 16 hb
 obtain⟨aN,F1,h1,g1⟩:=h.setFCell hp hf 16 (.int .i64 0) {f with pre:=0} (fun _ _ _ _=>rfl) rfl rfl rfl
 obtain⟨w1,aa⟩:=Je (w.setCell ⟨p,16,none⟩ (.int .i64 0))
 rw[←aa]at h1 g1
 have ac:=ZP (f':={f with pre:=0}) hf
 obtain⟨w2,N⟩:=Je w1.drew
 have O:=Jd N
 have K:=h1.upd0 O
 obtain⟨aM,aP,aR,aA,_⟩:=K.fcell hp ac
 have V:w2.cell? ⟨p,0,none⟩=some (.int .i64 ((i:Int)+1)):=by rw[←ab];exact Zc (i:=0) aA rfl
 have M:=Jx 14 K.blk.1
 obtain⟨J,G,az,hg,aD,au⟩:=K.shares
 have E:J.map (·.2)=s.shares:=az
 have aF:J.length≤1000000:=by have:=congrArg List.length E;rw[Xb]at this;have:=hfit.sn;omega
 have ah:∀q∈J,q.2.members.length≤1000000:=fun q y=>by
  have r:q.2∈s.shares:=by rw[←E];exact List.mem_map_of_mem y
  have:=Zgg r;have:=hfit.sh;omega
 have ay:J.findIdx? (fun q=>q.2.members.contains ((i:Int)+1))=s.shares.findIdx? (fun o=>o.members.contains ((i:Int)+1)):=by
  rw[←E,List.findIdx?_map];rfl
 have H2:=D K;have HP:=D hp;have X:=D hf;have aE:=D ac;have G1:=D g1;have Y:=D hfit;have HS:=D hs
 have HG:=D hg;have aC:=D au;have aw:=D E;have aj:=D ay;have ak:=D ah
 clear h hfit hs hf hp hb aA aI h1 g1 ac K az E hg aD au ay ah;change Hid _ at aa N O H ab
 go_enter Tryz.func140,Tryz.ntmps140
 go_upto_region 1 with fail
 rw[←aa.out]
 refine ZX [(0,0),(1,0),(2,0),(3,0),(4,0),(5,0),(6,0),(7,0),(8,2),(9,0),(10,0),(11,0),(12,0),(13,0),(14,0),(15,0)] (fun W=>W.cell? ⟨b,14,none⟩=some (.pointer (some ⟨P.shares,0,none⟩))∧W.cell? ⟨p,0,none⟩=some (.int .i64 ((i:Int)+1))) (by kernel_rfl) (by kernel_rfl) (fun c a w t v h=>by cases t<;>exact h) (by rw[N.out]at M V;exact⟨M,V⟩) ?_
 repeat first|refine Jn ?_|refine Jf ?_|refine Ju ?_
 refine JL ?_
 simp only[Xu]
 rw[←N.out]
 go_wp2_with fail
 cases y:s.shares.findIdx? (fun o=>o.members.contains ((i:Int)+1))with
 |none=>
  have L:=D (H.trans (Zlw X y))
  refine(ZgD HG ak _ (by rw[aj.out];exact y)).mono ?_
  rintro e w3 ⟨rfl,ai⟩
  have aq:=D ai
  clear ai M V y
  go_wp2_with fail
  refine⟨fun _=>True,trivial,?_⟩
  repeat first|refine Jn ?_|refine Jf ?_|refine Ju ?_
  refine ZL ?_
  go_wp2_with fail
  (try simp only[Exit.inBlock,Exit.then])
  first|refine bodyPost_ret (results_none rfl _ _ _) rfl ?_|refine bodyPost_end (results_none rfl _ _ _) rfl ?_
  rw[L.out]
  exact⟨rfl,P.qps,vp,vl,_,H2.upd0 aq,(G1.upd0 O).upd0 aq⟩
 |some k=>
  obtain⟨o,ho⟩:∃o,s.shares[k]? =some o:=⟨_,Xa (Yv y)⟩
  obtain⟨d,aH,rfl⟩:∃d,J[k]? =some d∧d.2=o:=by
   have e:=congrArg (fun l=>l[k]?) aw.out
   rw[ho]at e
   simp only[Xe,Option.map_eq_some_iff]at e
   exact e
  refine(Zgx HG aF ak _ (by rw[aj.out];exact y) aH).mono ?_
  rintro e w3 ⟨aJ,G3,rfl,am,al,af⟩
  obtain⟨F3,r,g3⟩:=aC.out w3 aJ s.slast G3 am al
  rw[af,aw.out]at r
  have HQ:=D y;have HO:=D ho
  have ar:=D ((G1.upd0 O).trans g3)
  clear y ho am al af M V g3
  by_cases z:0<(d.2.members.filter fun x=> !(x==((i:Int)+1))).length
  ·have L:=D (H.trans (Zlz X HQ HO z))
   rw[if_pos z]at r
   have I:=D r
   have C:(d.2.members.filter fun x=> !(x==((i:Int)+1))).isEmpty=false:=by rw[List.isEmpty_eq_false_iff];intro e;rw[e]at z;simp at z
   rw[C]
   clear r z C
   go_wp2_with fail
   refine⟨fun _=>True,trivial,?_⟩
   repeat first|refine Jn ?_|refine Jf ?_|refine Ju ?_
   refine ZL ?_
   go_wp2_with fail
   (try simp only[Exit.inBlock,Exit.then])
   first|refine bodyPost_ret (results_none rfl _ _ _) rfl ?_|refine bodyPost_end (results_none rfl _ _ _) rfl ?_
   rw[L.out]
   exact⟨rfl,P.qps,vp,vl,_,I.out,ar.out⟩
  ·obtain⟨x0,av,an⟩:=HS.out.2.fl d.2 (Xc HO)
   obtain⟨x,hx⟩:∃x,s.pres.find? (fun p=>p.num==d.2.num)=some x:=by
    cases hc:s.pres.find? (fun p=>p.num==d.2.num)with
    |some x=>exact⟨x,rfl⟩
    |none=>exact absurd (List.find?_eq_none.1 hc x0 av) (by simp[an])
   have L:=D (H.trans (Zli X HQ HO z hx))
   rw[if_neg z]at r
   obtain⟨j,hj,ag,ap⟩:=ZhC hx
   have C:(d.2.members.filter fun x=> !(x==((i:Int)+1))).isEmpty=true:=by rw[List.isEmpty_iff];exact List.eq_nil_of_length_eq_zero (by omega)
   rw[C]
   have T:=D hj;have aB:=D (show x.num=d.2.num by simpa using ag);have aG:=D ap;have I:=D r
   clear r z C av an hx hj ag ap
   go_wp2_with fail
   refine⟨fun _=>True,trivial,?_⟩
   repeat first|refine Jn ?_|refine Jf ?_|refine Ju ?_
   refine ZL ?_
   obtain⟨qk,ax⟩:=I.qp T.out
   have ad:=D ax
   clear ax
   go_upto_region 3 with fail
   go_wp2_with fail
   refine(Zf1 I (Xj Y.pres (by omega)) ad T _ aB aG).mono ?_
   rintro e W ⟨rfl,hW⟩
   rw[hW]
   clear hW W
   go_upto_region 4 with fail
   obtain⟨w4,Q⟩:=Je w3.drew
   have Z:=Jd Q
   have S:=I.upd0 Z
   obtain⟨aQ,aK,aS,ao,_⟩:=S.fcell HP aE.out
   have k0:w4.cell? ⟨p,0,none⟩=some (.int .i64 ((i:Int)+1)):=by rw[←ab.out];exact Zc (i:=0) ao rfl
   have k2:w4.cell? ⟨qk,2,none⟩=some (.int .i64 x.conn):=Zc (i:=2) (S.flight ad T).1 rfl
   have H4:=D S;have G4:=D (ar.upd0 Z)
   clear S Z ao;change Hid _ at Q
   refine ZX [(0,0),(1,0),(2,0),(3,0),(4,0),(5,0),(6,0),(7,0),(8,0),(9,0),(10,0),(11,2)] (fun W=>W.cell? ⟨p,0,none⟩=some (.int .i64 ((i:Int)+1))∧W.cell? ⟨qk,2,none⟩=some (.int .i64 x.conn)) (by kernel_rfl) (by kernel_rfl) (fun c a w t v h=>by cases t<;>exact h) (by rw[Q.out]at k0 k2;exact⟨k0,k2⟩) ?_
   repeat first|refine Jn ?_|refine Jf ?_|refine Ju ?_
   refine JL ?_
   simp only[Xu]
   rw[←Q.out]
   go_wp2_with fail
   refine(Zag H4 (Xj Y.log (by omega)) _ _ _ _ _ _ _).mono ?_
   rintro e w5 ⟨rfl,aT,F5,h5,g5⟩
   have H5:=D h5;have G5:=D (G4.trans g5)
   clear h5 g5 k0 k2
   go_wp2_with fail
   refine Jz ?_
   go_wp2_with fail
   have ae:ZW (ZR {s with all:=s.all.set i {f with pre:=0},shares:=s.shares.eraseIdx k} 7 ((i:Int)+1) d.2.num x.conn 13) (n+1) m:=by
    have a:=Y.setF ((i:Int)+1) (g:=fun f=>{f with pre:=0}) (fun f hf=>hf.upd rfl hf.since hf.body rfl)
    rw[YT X.out]at a
    have c:=a.sharesDel k
    rw[Ya]at c
    exact c.tell _ _ _ _ _
   refine(Zd4 (x:=x) H5 ae (by omega) ad T HS.out.2.pn false).mono ?_
   rintro e w6 ⟨rfl,aO,F6,h6,g6,_,_⟩
   have H6:=D h6;have G6:=D (G5.trans g6)
   clear h6 g6 ae
   go_wp2_with fail
   (try simp only[Exit.inBlock,Exit.then])
   first|refine bodyPost_ret (results_none rfl _ _ _) rfl ?_|refine bodyPost_end (results_none rfl _ _ _) rfl ?_
   rw[L.out]
   exact⟨rfl,_,_,_,_,H6.out,G6.out⟩
end Go.Proofs.YtbgbeddbfaopgaaGreatDoor
namespace Go.Lk
theorem ZW.overU (h:ZW s n m) {i:Nat} (hf:s.all[i]? =some f) (st:Int) (hst:st≠5):ZW (Lk.overU s i f st) (n+1) m:=by
 have b:ZW (Lk.setF s ((i:Int)+1) fun f=>{f with state:=goL f.state st}) n m:=h.setF _ fun f hf=>hf.upd rfl hf.since (fun e=>hf.body (ZcX hst e)) rfl
 rw[YT hf]at b
 have a:=b.tell (st-6+14) ((i:Int)+1) 0 f.conn 0
 exact{a with
  tm:=Xj (Xq _ _) a.tm
  gl:=(ZdQ _ _).symm▸a.gl
  gm:=Zh8 a.gm
  bk:=Xj (Zjk _ _) a.bk
  made:=a.made.trans (by show(_:Int)=((Za2 _ _).length:Nat);rw[ZdQ])}
theorem Safe.overU (h:Safe s) {i:Nat} (hf:s.all[i]? =some f) (st:Int):Safe (Lk.overU s i f st):=by
 have b:Safe (Lk.setF s ((i:Int)+1) fun f=>{f with state:=goL f.state st}):=h.setF _ fun f=>rfl
 rw[YT hf]at b
 have a:=b.tell (st-6+14) ((i:Int)+1) 0 f.conn 0
 exact⟨a.1,(a.2.timers (fun t ht=> .inl ((List.mem_filter.1 ht).1))).groups (fun g hg x hx=>by
  obtain⟨e,c,d⟩:=Zik hg
  exact a.2.grp e c x (d x hx))⟩
theorem ZeQ (s:Zf) (x:ZM) (keep:Bool):(forgetS s x keep).all=s.all:=by
 unfold forgetS
 dsimp only
 split<;>rfl
theorem ZhL {s:Zf} {i:Nat} (hf:s.all[i]? =some f):(leaveS s ((i:Int)+1)).all=s.all.set i {f with pre:=0}:=by
 unfold leaveS
 dsimp only
 rw[YT hf]
 dsimp only
 split
 ·rfl
 ·split
  ·rfl
  ·split
   ·rfl
   ·split
    ·rfl
    ·rw[ZeQ];rfl
theorem Zjo {s0:Zf} {i:Nat} (hf:s0.all[i]? =some f) (st:Int):(overU s0 i f st).all[i]? =some {f with state:=goL f.state st}:=ZP hf
theorem Zjf {s0:Zf} {i:Nat} (hf:s0.all[i]? =some f) (st:Int):∃f',(Zdi s0 i f st).all[i]? =some f'∧f'.ended=f.ended:=by
 have a:=Zjo hf st
 unfold Zdi
 dsimp only
 split
 ·exact⟨_,a,rfl⟩
 ·split
  ·exact⟨_,ZP a,rfl⟩
  ·split
   ·rw[ZhL a]
    exact⟨_,ZP a,rfl⟩
   ·exact⟨_,a,rfl⟩
theorem ZkE {α:Type} {l:List α} {i:Nat} {x:α} (h:l[i]? =some x):l.set i x=l:=by
 apply List.ext_getElem?
 intro j
 rw[List.getElem?_set]
 by_cases e:i=j
 ·subst e;rw[if_pos rfl,if_pos (Jk h),h]
 ·rw[if_neg e]
end Go.Lk
namespace Go.Proofs.YtbgbeddbfaopgaaGreatDoor
open Go.RowKit Go.Lk
theorem ZiU (w:World):Calls Tryz.prog 139 #[.pointer none] w fun e w'=>e= .returned (.bool false)∧Zg [] w w':=by
 obtain⟨c,a⟩:=Je (w.alloc (.cells #[.pointer none] 100))
 have b:=Ja a
 have d:c.cell? ⟨w.heap.size,0,none⟩=some (.pointer none):=by rw[a];exact Zc (i:=0) (Za _) rfl
 change Hid _ at a b
 go_enter Tryz.func139,Tryz.ntmps139
 go_upto_region 1 with fail
 rw[←a.out]
 go_wp2_with fail
 go_ret
 exact⟨rfl,b.out⟩
theorem ZoZ (h:Zbf vb o w G):
  Calls Tryz.prog 139 #[vb] w fun e w'=>∃r,e= .returned (.bool r)∧Zbf vb (o.map ZaZ) w' G∧Zg G w w':=by
 cases o with
 |none=>
  obtain⟨rfl,rfl⟩:=h
  refine(ZiU w).mono ?_
  rintro e w' ⟨rfl,i⟩
  exact⟨_,rfl,⟨rfl,rfl⟩,i⟩
 |some s=>
  obtain⟨x,b,y,H,L,rfl,rfl,q,t,h,l⟩:=h
  by_cases g:s.state=3
  ·rw[if_pos g]at h
   refine(Zhp h).mono ?_
   rintro e w' ⟨rfl,j,i⟩
   obtain⟨n,m⟩:=l g
   have z:ZaZ s=s:=by unfold ZaZ;obtain⟨a,c,d,e,f⟩:=s;simp only at g n m;simp[g,n,m]
   refine⟨_,rfl,?_,i.weaken (by simp)⟩
   show Zbf _ (some (ZaZ s)) w' _
   rw[z]
   exact⟨x,b,y,H,L,rfl,rfl,q,t,by rw[if_pos g];exact j,l⟩
  ·rw[if_neg g]at h
   refine(ZnJ h).mono ?_
   rintro e w' ⟨rfl,j,i⟩
   refine⟨_,rfl,⟨x,b,y,H,L,rfl,rfl,q,t,?_,fun _=>⟨rfl,rfl⟩⟩,i.weaken (fun k p=> .inr (by simp at p⊢;rcases p with h|h<;>simp[h]))⟩
   exact j
structure Zci (w:World) (bf bt bs p b:Nat) (st:Int) (F:List Nat):Prop where
 f:w.heap[bf]? =some (.cells #[.pointer (some ⟨p,0,none⟩)] 98 (0,0))
 t:w.heap[bt]? =some (.cells #[.int .i64 st] 3 (0,0))
 s:w.heap[bs]? =some (.cells #[.pointer (some ⟨b,0,none⟩)] 25 (0,0))
 nf:bf∉F
 nt:bt∉F
 ns:bs∉F
theorem Zci.step {bf bt bs p b:Nat} {st:Int} (h:Zci w bf bt bs p b st F) (g:Zi w w1 F F1):Zci w1 bf bt bs p b st F1:=by
 obtain⟨a,i⟩:=g.off (Jg h.f) h.nf
 obtain⟨e,j⟩:=g.off (Jg h.t) h.nt
 obtain⟨d,c⟩:=g.off (Jg h.s) h.ns
 exact⟨a.trans h.f,e.trans h.t,d.trans h.s,i,j,c⟩
theorem Zci.upd0 {bf bt bs p b:Nat} {st:Int} (h:Zci w bf bt bs p b st F) (hu:Zg [] w w1):Zci w1 bf bt bs p b st F:=
 h.step ⟨hu.weaken (by simp),fun k hk=> .inl hk⟩
theorem Zci.cells {bf bt bs p b:Nat} {st:Int} (h:Zci w bf bt bs p b st F):
  w.cell? ⟨bf,0,none⟩=some (.pointer (some ⟨p,0,none⟩))∧w.cell? ⟨bt,0,none⟩=some (.int .i64 st)∧w.cell? ⟨bs,0,none⟩=some (.pointer (some ⟨b,0,none⟩)):=
 ⟨Zc (i:=0) h.f rfl,Zc (i:=0) h.t rfl,Zc (i:=0) h.s rfl⟩
theorem Zfp {P:Prop}(h:P:=by
 go_upto_region 11 with fail
 obtain⟨J,G⟩:=Je aM.drew
 have H:=Jd G
 have g:=aL.upd0 H
 have d:=aO.upd0 H
 obtain⟨Z,lb,vb,y,_⟩:=g.fcell E X.out
 have C:J.cell? ⟨bt,0,none⟩=some (.int .i64 st):=d.cells.2.1
 have r:J.cell? ⟨bs,0,none⟩=some (.pointer (some ⟨b,0,none⟩)):=d.cells.2.2
 have S:=Jx 8 g.blk.1
 have Q:=Jx 7 g.blk.1
 have M:=D g;have ai:=D d
 clear g d y;change Hid _ at G H
 refine Jr [0,4,8,12,16,20,24,28,32,40,44,37,50] (fun W=>W.cell? ⟨bt,0,none⟩=some (.int .i64 st)∧W.cell? ⟨bs,0,none⟩=some (.pointer (some ⟨b,0,none⟩))∧W.cell? ⟨b,8,none⟩=some (.pointer (some ⟨P.pool,0,none⟩))∧W.cell? ⟨b,7,none⟩=some (.pointer (some ⟨P.clock,0,none⟩))) (by rw[G.out]at C r S Q;exact⟨C,r,S,Q⟩) ?_
 repeat first|refine Jn ?_|refine Jf ?_|refine Ju ?_
 refine JE ?_
 simp only[Xu]
 rw[←G.out]
 go_wp2_with fail
 refine(Za5 M.clock.1).mono ?_
 rintro e W ⟨rfl,z⟩
 rw[z]
 clear z W
 go_wp2_with fail
 refine⟨_,fun W z=>z,⟨C,r,S,Q⟩,?_⟩
 refine JL ?_
 go_wp2_with fail
 obtain⟨GP,aJ,a9,aD⟩:=M.pool
 refine(Zjz aJ f.conn t.now _ b5).mono ?_
 rintro e ah ⟨cg,rfl,cn,aA,az⟩
 obtain⟨bS,V,K⟩:=aD ah _ _ aA az
 have aI:=D V;have aT:=D (ai.step K);have aQ:=D ((aR.upd0 H).trans K)
 clear C r S Q V K aJ a9 aD aA az ai M G H
 go_wp2_with fail
 refine Jz ?_
 obtain⟨cl,cd,aZ,cm,co,aa,_,ar⟩:=aI.fetch E X.out
 have ba:ah.cell? ⟨p,18,none⟩=some aZ:=Zc (i:=18) aa.blk rfl
 have j:=aT.cells.1
 have ac:=D aa;have ao:=D ar
 clear aa ar
 go_upto_region 12 with fail
 go_wp2_with fail
 refine(ZoZ ac.body).mono ?_
 rintro e a1 ⟨rs,rfl,aH,aB⟩
 obtain⟨aK,aF⟩:=ac.setBody (f.body.map ZaZ) aB aH
 obtain⟨cx,ag,af⟩:=ao.out a1 _ (some i) _ _ _ _ _ (fun _ _=>rfl) aK aF
 have ab:=ZP (f':={f with state:=goL f.state st,body:=f.body.map ZaZ}) X.out
 obtain⟨ck,ce,ch,aq,_⟩:=ag.fcell E ab
 have an:=Jx 17 aq
 have aS:=aT.step af
 have cj:=aS.cells.1
 obtain⟨cH,cp,ae,aN⟩:=ag.setFCell E ab 17 (.int .i64 0) {f with state:=goL f.state st,body:=f.body.map ZaZ,conn:=0} (fun _ _ _ _=>rfl) rfl rfl rfl
 rw[List.set_set]at ae
 have a6:=D ae;have a5:=D ((aQ.trans af).trans aN)
 clear ag af ae aN aK aF aH aB ab aq aS j ba ac ao
 go_wp2_with fail
 (try simp only[Exit.inBlock,Exit.then])
 first|refine bodyPost_ret (results_none rfl _ _ _) rfl ?_|refine bodyPost_end (results_none rfl _ _ _) rfl ?_
 rw[T.out]
 exact⟨rfl,P.qps,vp,am,_,a6.out,a5.out⟩):P:=h
theorem Zlk (h:Zh w b P (some i) s va vp vl F) (hfit:ZW s n m) (hs:Lk.Safe s) (hn:n≤800000) (hm:m≤900000) (hp:P.fps[i]? =some p) (hf:s.all[i]? =some f)
  (st:Int) (hst:6≤st∧st≤10) {bf bt bs:Nat} (hbox:Zci w bf bt bs p b st F):
  Calls Tryz.prog 133 #[.pointer (some ⟨bf,0,none⟩), .pointer (some ⟨bt,0,none⟩), .pointer (some ⟨bs,0,none⟩)] w (Zjx b P (some i) (Zdi s i f st) va w F):=by
 obtain⟨R,bh⟩:=Je (Zdi s i f st)
 rw[←bh]
 have aV:=D (hs.1 i f hf)
 have H0:=D h;have B0:=D hbox;have E:=D hp;have HF:=D hf;have N:=D hfit;have HS:=D hs
 have al:=D (ZP (f':={f with state:=goL f.state st}) hf)
 obtain⟨b6,bV,bm,_⟩:=(h.upd0 ((Zg.refl [] w).drew)).life hp hf
 have bo:=D bm
 have ca:=D bV
 obtain⟨fs,O⟩:=Je f.state
 clear h hfit hs hp hf hbox bm bV;change Hid _ at bh O
 go_enter Tryz.func133,Tryz.ntmps133
 go_upto_region 0 with fail
 obtain⟨w1,ad⟩:=Je w.drew
 have aU:=Jd ad
 have g:=H0.upd0 aU
 have d:=B0.upd0 aU
 obtain⟨Z,lb,vb,y,_⟩:=g.fcell E HF.out
 have j:w1.cell? ⟨bf,0,none⟩=some (.pointer (some ⟨p,0,none⟩)):=d.cells.1
 have Y:w1.cell? ⟨p,12,none⟩=some (.pointer (some ⟨b6,0,none⟩)):=by rw[ad];exact ca.out
 have an:=Jx 17 y
 have b4:=D g;have bq:=D d
 clear g d y;change Hid _ at ad aU
 refine Jr [0,4,8,12,20,24,28,32,17,36,40] (fun W=>W.cell? ⟨bf,0,none⟩=some (.pointer (some ⟨p,0,none⟩))∧W.cell? ⟨p,12,none⟩=some (.pointer (some ⟨b6,0,none⟩))∧W.cell? ⟨p,17,none⟩=some (.int .i64 f.conn)) (by rw[ad.out]at j Y an;exact⟨j,Y,an⟩) ?_
 repeat first|refine Jn ?_|refine Jf ?_|refine Ju ?_
 refine JE ?_
 simp only[Xu]
 rw[←ad.out]
 go_wp2_with fail
 have aX:=Zed bo.out
 rw[←ad.out,←O.out]at aX
 refine aX.mono ?_
 rintro e W ⟨rfl,z⟩
 rw[←z]
 clear z W
 go_wp2_with fail
 refine⟨_,fun W z=>z,⟨j,Y,an⟩,?_⟩
 repeat first|refine Jn ?_|refine Jf ?_|refine Ju ?_
 refine ZL ?_
 clear j Y an aX
 go_upto_region 1 with fail
 have B1:=D bq.out;have H1:=D b4.out;have G1:=D (Zi.mk (aU.weaken (by simp)) (fun k hk=> .inl hk):Zi w w1 F F)
 clear bq b4
 obtain⟨bY,bD,bi,br⟩:=(H1.upd0 ((Zg.refl [] w1).drew)).life E HF.out
 have bj:=D bi;have bB:=D br;have bw:=D bD
 clear bi br bD bo ca ad
 obtain⟨w2,aj⟩:=Je w1.drew
 have aw:=Jd aj
 have g:=H1.upd0 aw
 have d:=B1.upd0 aw
 obtain⟨Z,lb,vb,y,_⟩:=g.fcell E HF.out
 have j:w2.cell? ⟨bf,0,none⟩=some (.pointer (some ⟨p,0,none⟩)):=d.cells.1
 have Y:w2.cell? ⟨p,12,none⟩=some (.pointer (some ⟨bY,0,none⟩)):=by rw[aj];exact bw.out
 have C:w2.cell? ⟨bt,0,none⟩=some (.int .i64 st):=d.cells.2.1
 have cF:=D g;have bL:=D d
 clear g d y;change Hid _ at aj aw
 refine Jr [0,4,8,12,16,22] (fun W=>W.cell? ⟨bf,0,none⟩=some (.pointer (some ⟨p,0,none⟩))∧W.cell? ⟨p,12,none⟩=some (.pointer (some ⟨bY,0,none⟩))∧W.cell? ⟨bt,0,none⟩=some (.int .i64 st)) (by rw[aj.out]at j Y C;exact⟨j,Y,C⟩) ?_
 repeat first|refine Jn ?_|refine Jf ?_|refine Ju ?_
 refine JL ?_
 simp only[Xu]
 go_wp2_with fail
 refine(ZcP bj st).mono ?_
 rintro e w3 ⟨rfl,bQ,bR⟩
 obtain⟨F3,h3,g3⟩:=bB.out w3 _ bQ bR
 rw[←aj.out]at g3
 have H3:=D h3;have B3:=D (bL.step g3);have G3:=D ((G1.upd0 aw).trans g3)
 clear j Y C h3 g3 bQ bR bj bB bw bL cF aj aw H1 B1 G1
 go_wp2_with fail
 refine Jz ?_
 go_upto_region 2 with fail
 obtain⟨w4,aC⟩:=Je w3.drew
 have av:=Jd aC
 have g:=H3.upd0 av
 have d:=B3.upd0 av
 obtain⟨Z,lb,vb,y,_⟩:=g.fcell E al.out
 have j:w4.cell? ⟨bf,0,none⟩=some (.pointer (some ⟨p,0,none⟩)):=d.cells.1
 have C:w4.cell? ⟨bt,0,none⟩=some (.int .i64 st):=d.cells.2.1
 have r:w4.cell? ⟨bs,0,none⟩=some (.pointer (some ⟨b,0,none⟩)):=d.cells.2.2
 have I:w4.cell? ⟨p,0,none⟩=some (.int .i64 ((i:Int)+1)):=by rw[←aV.out];exact Zc (i:=0) y rfl
 have cb:=D g;have bp:=D d
 clear g d y;change Hid _ at aC av
 refine ZX [(0,0),(1,0),(3,0),(4,0),(5,0),(6,0),(7,0),(2,1),(8,0),(9,2)] (fun W=>W.cell? ⟨bf,0,none⟩=some (.pointer (some ⟨p,0,none⟩))∧W.cell? ⟨bt,0,none⟩=some (.int .i64 st)∧W.cell? ⟨bs,0,none⟩=some (.pointer (some ⟨b,0,none⟩))∧W.cell? ⟨p,0,none⟩=some (.int .i64 ((i:Int)+1))) (by kernel_rfl) (by kernel_rfl) (fun c a w t v h=>by cases t<;>exact h) (by rw[aC.out]at j C r I;exact⟨j,C,r,I⟩) ?_
 repeat first|refine Jn ?_|refine Jf ?_|refine Ju ?_
 refine JE ?_
 simp only[Xu]
 rw[←aC.out]
 go_wp2_with fail
 refine(Zlq st w4 (by omega) (by omega)).mono ?_
 rintro e W ⟨rfl,z⟩
 rw[z]
 clear z W
 go_wp2_with fail
 refine⟨_,fun W z=>z,⟨j,C,r,I⟩,?_⟩
 repeat first|refine Jn ?_|refine Jf ?_|refine Ju ?_
 refine JL ?_
 go_wp2_with fail
 refine(Zag cb (by have:=N.log;dsimp only;omega) _ _ _ _ _ _ _).mono ?_
 rintro e w5 ⟨rfl,am,F5,h5,g5⟩
 have H5:=D h5;have B5:=D (bp.step g5);have G5:=D ((G3.upd0 av).trans g5)
 clear j C r I h5 g5 bp cb aC av H3 B3 G3
 go_wp2_with fail
 refine Jz ?_
 go_upto_region 3 with fail
 obtain⟨w6,aG⟩:=Je w5.drew
 have ax:=Jd aG
 have g:=H5.upd0 ax
 have d:=B5.upd0 ax
 obtain⟨Z,lb,vb,y,_⟩:=g.fcell E al.out
 have j:w6.cell? ⟨bf,0,none⟩=some (.pointer (some ⟨p,0,none⟩)):=d.cells.1
 have r:w6.cell? ⟨bs,0,none⟩=some (.pointer (some ⟨b,0,none⟩)):=d.cells.2.2
 have a7:=Jx 11 g.blk.1
 have be:=Jx 14 y
 have bT:=D g;have bE:=D d
 clear g d y;change Hid _ at aG ax
 refine Jr [0,4,8,12,16,20,24,28,34] (fun W=>W.cell? ⟨bf,0,none⟩=some (.pointer (some ⟨p,0,none⟩))∧W.cell? ⟨bs,0,none⟩=some (.pointer (some ⟨b,0,none⟩))∧W.cell? ⟨b,11,none⟩=some (.pointer (some ⟨P.wheel,0,none⟩))∧W.cell? ⟨p,14,none⟩=some (.int .i64 f.timer)) (by rw[aG.out]at j r a7 be;exact⟨j,r,a7,be⟩) ?_
 repeat first|refine Jn ?_|refine Jf ?_|refine Ju ?_
 refine JL ?_
 simp only[Xu]
 rw[←aG.out]
 go_wp2_with fail
 obtain⟨GW,bU,cu,bI⟩:=bT.wheel
 refine(Zkf bU (Xj N.tm (by omega)) f.timer).mono ?_
 rintro e w7 ⟨cv,rfl,bG,bK⟩
 obtain⟨F7,h7,g7⟩:=bI w7 _ _ _ bG (Zi.of_upd bK)
 have H7:=D h7;have B7:=D (bE.step g7);have G7:=D ((G5.upd0 ax).trans g7)
 clear j r a7 be h7 g7 bE bT aG ax H5 B5 G5 bU cu bI bG bK
 go_wp2_with fail
 refine Jz ?_
 go_upto_region 4 with fail
 obtain⟨w8,aE⟩:=Je w7.drew
 have ay:=Jd aE
 have g:=H7.upd0 ay
 have d:=B7.upd0 ay
 obtain⟨Z,lb,vb,y,_⟩:=g.fcell E al.out
 have j:w8.cell? ⟨bf,0,none⟩=some (.pointer (some ⟨p,0,none⟩)):=d.cells.1
 have r:w8.cell? ⟨bs,0,none⟩=some (.pointer (some ⟨b,0,none⟩)):=d.cells.2.2
 have bb:=Jx 12 g.blk.1
 have I:w8.cell? ⟨p,0,none⟩=some (.int .i64 ((i:Int)+1)):=by rw[←aV.out];exact Zc (i:=0) y rfl
 have bc:=D g;have bN:=D d
 clear g d y;change Hid _ at aE ay
 refine ZX [(0,0),(1,0),(2,0),(3,0),(4,0),(5,0),(6,0),(7,0),(8,2)] (fun W=>W.cell? ⟨bf,0,none⟩=some (.pointer (some ⟨p,0,none⟩))∧W.cell? ⟨bs,0,none⟩=some (.pointer (some ⟨b,0,none⟩))∧W.cell? ⟨b,12,none⟩=some (.pointer (some ⟨P.groups,0,none⟩))∧W.cell? ⟨p,0,none⟩=some (.int .i64 ((i:Int)+1))) (by kernel_rfl) (by kernel_rfl) (fun c a w t v h=>by cases t<;>exact h) (by rw[aE.out]at j r bb I;exact⟨j,r,bb,I⟩) ?_
 repeat first|refine Jn ?_|refine Jf ?_|refine Ju ?_
 refine JL ?_
 simp only[Xu]
 rw[←aE.out]
 go_wp2_with fail
 obtain⟨L,GG,b0,a0,cE,bM⟩:=bc.groups
 have ak:L.map (·.2)=s.groups:=b0
 have bg:L.length≤1000000:=by have e:=congrArg List.length ak;rw[Xb]at e;have:=N.gl;omega
 have a4:∀q∈L,q.2.members.length≤1000000:=fun q hq=>by
  have h3:q.2∈s.groups:=by rw[←ak];exact List.mem_map_of_mem hq
  have:=(N.gm _ h3).1;omega
 have aW:L.findIdx? (fun q=>q.2.members.contains ((i:Int)+1))=ofG s.groups ((i:Int)+1):=by
  unfold ofG;rw[←ak,List.findIdx?_map];rfl
 have b3:Calls Tryz.prog 136 #[.pointer (some ⟨P.groups,0,none⟩), .int .i64 ((i:Int)+1)] w8 fun e w'=>∃v:Value,e= .returned v∧∃F9,Zh w' b P (some i) {{ZR {s with all:=s.all.set i {f with state:=goL f.state st}} (st-6+14) ((i:Int)+1) 0 f.conn 0 with timers:=s.timers.filter (fun x=>x.id !=f.timer)}with groups:=Za2 s.groups ((i:Int)+1)} va vp am F9∧Zi w8 w' F7 F9:=by
  cases hq:ofG s.groups ((i:Int)+1)with
  |none=>
   refine(ZgA a0 bg a4 _ (by rw[aW];exact hq)).mono ?_
   rintro e w' ⟨rfl,hu⟩
   have e1:Za2 s.groups ((i:Int)+1)=s.groups:=by unfold Za2;rw[hq]
   rw[e1]
   exact⟨_,rfl,_,bc.upd0 hu,Zi.mk (hu.weaken (by simp)) (fun k hk=> .inl hk)⟩
  |some k=>
   have cC:k<L.length:=Yv (aW.trans hq)
   have b7:=Xa cC
   have bZ:s.groups[k]? =some L[k].2:=by rw[←ak,Xe,b7];rfl
   refine(ZgR a0 bg a4 _ (N.gm L[k].2 (Xc bZ)).2 (aW.trans hq) b7).mono ?_
   rintro e w' ⟨rfl,v9,F9,cA,cB⟩
   obtain⟨cJ,cI,cz⟩:=bM w' _ _ cA cB
   refine⟨_,rfl,cJ,?_,cz⟩
   have e1:Za2 s.groups ((i:Int)+1)=(L.set k (v9,{L[k].2 with members:=L[k].2.members.erase ((i:Int)+1)})).map (·.2):=by
    unfold Za2;rw[hq];dsimp only;rw[bZ];dsimp only;rw[List.map_set,ak]
   rw[e1]
   exact cI
 refine b3.mono ?_
 rintro e w9 ⟨cP,rfl,F9,h9,g9⟩
 have H9:=D h9;have B9:=D (bN.step g9);have G9:=D ((G7.upd0 ay).trans g9)
 clear j r bb I h9 g9 bN bc aE ay H7 B7 G7 b0 ak bg a4 aW b3 a0 cE bM
 go_wp2_with fail
 refine Jz ?_
 go_upto_region 5 with fail
 obtain⟨a2,ap⟩:=Je w9.drew
 have au:=Jd ap
 have g:=H9.upd0 au
 have d:=B9.upd0 au
 obtain⟨Z,lb,vb,y,_⟩:=g.fcell E al.out
 have j:a2.cell? ⟨bf,0,none⟩=some (.pointer (some ⟨p,0,none⟩)):=d.cells.1
 have r:a2.cell? ⟨bs,0,none⟩=some (.pointer (some ⟨b,0,none⟩)):=d.cells.2.2
 have a8:=Jx 15 g.blk.1
 have I:a2.cell? ⟨p,0,none⟩=some (.int .i64 ((i:Int)+1)):=by rw[←aV.out];exact Zc (i:=0) y rfl
 have bu:=D g;have bn:=D d
 clear g d y;change Hid _ at ap au
 refine ZX [(0,0),(1,0),(2,0),(3,0),(4,0),(5,0),(6,0),(7,0),(8,2)] (fun W=>W.cell? ⟨bf,0,none⟩=some (.pointer (some ⟨p,0,none⟩))∧W.cell? ⟨bs,0,none⟩=some (.pointer (some ⟨b,0,none⟩))∧W.cell? ⟨b,15,none⟩=some (.pointer (some ⟨P.book,0,none⟩))∧W.cell? ⟨p,0,none⟩=some (.int .i64 ((i:Int)+1))) (by kernel_rfl) (by kernel_rfl) (fun c a w t v h=>by cases t<;>exact h) (by rw[ap.out]at j r a8 I;exact⟨j,r,a8,I⟩) ?_
 repeat first|refine Jn ?_|refine Jf ?_|refine Ju ?_
 refine JL ?_
 simp only[Xu]
 rw[←ap.out]
 go_wp2_with fail
 obtain⟨GB,b9,cw,bz⟩:=bu.book
 refine(ZnM b9 (Xj N.bk (by omega)) _).mono ?_
 rintro e aM ⟨rfl,cK,bO,bA⟩
 obtain⟨cr,a3,bd⟩:=bz aM _ _ bO bA
 have bW:∀(l:List Y8) (id:Int),(Zg5 l id).1=Zhb l id:=fun l id=>by unfold Zg5 Zhb;cases l.findIdx? (fun o=>o.id==id)<;>rfl
 rw[bW]at a3
 obtain⟨t,ht⟩:=Je (overU s i f st)
 have bP:Zh aM b P (some i) t va vp am cr:=by rw[ht];exact a3
 have aP:=D ht
 have aL:=D bP;have aO:=D (bn.step bd);have aR:=D ((G9.upd0 au).trans bd)
 have X:=D (show t.all[i]? =some {f with state:=goL f.state st}by rw[ht];exact al)
 clear j r a8 I a3 bP bd bn bu ap au H9 B9 G9 b9 cw bz bO bA bW ht al
 have b1:=D (show R=if f.state=2 then{t with queue:=dropQ t.queue ((i:Int)+1)}
  else if f.state=4∨f.state=5 then{t with pool:=giveP t.pool f.conn t.now (st==6),all:=t.all.set i {f with state:=goL f.state st,body:=f.body.map ZaZ,conn:=0}}
  else if f.state=3 then leaveS t ((i:Int)+1)
  else t by rw[bh.out,aP.out];rfl)
 have b5:=D (show t.now≤18446744073709551615 by rw[aP.out];exact N.now)
 have cy:=D (show t.queue.length≤1000000 by rw[aP.out];exact Xj N.q (by omega))
 go_wp2_with fail
 refine Jz ?_
 by_cases h2:fs=2
 ·have T:=D (b1.trans (if_pos (by rw[←O.out];exact h2)))
  go_upto_region 8 with fail
  obtain⟨J,G⟩:=Je aM.drew
  have H:=Jd G
  have g:=aL.upd0 H
  have d:=aO.upd0 H
  obtain⟨Z,lb,vb,y,_⟩:=g.fcell E X.out
  have j:J.cell? ⟨bf,0,none⟩=some (.pointer (some ⟨p,0,none⟩)):=d.cells.1
  have r:J.cell? ⟨bs,0,none⟩=some (.pointer (some ⟨b,0,none⟩)):=d.cells.2.2
  have c9:=Jx 9 g.blk.1
  have I:J.cell? ⟨p,0,none⟩=some (.int .i64 ((i:Int)+1)):=by rw[←aV.out];exact Zc (i:=0) y rfl
  have M:=D g;have ai:=D d
  clear g d y;change Hid _ at G H
  refine ZX [(0,0),(1,0),(2,0),(3,0),(4,0),(5,0),(6,0),(7,0),(8,2)] (fun W=>W.cell? ⟨bf,0,none⟩=some (.pointer (some ⟨p,0,none⟩))∧W.cell? ⟨bs,0,none⟩=some (.pointer (some ⟨b,0,none⟩))∧W.cell? ⟨b,9,none⟩=some (.pointer (some ⟨P.queue,0,none⟩))∧W.cell? ⟨p,0,none⟩=some (.int .i64 ((i:Int)+1))) (by kernel_rfl) (by kernel_rfl) (fun c a w t v h=>by cases t<;>exact h) (by rw[G.out]at j r c9 I;exact⟨j,r,c9,I⟩) ?_
  repeat first|refine Jn ?_|refine Jf ?_|refine Ju ?_
  refine JL ?_
  simp only[Xu]
  rw[←G.out]
  go_wp2_with fail
  obtain⟨GQ,b8,cG,bF⟩:=M.queue
  refine(ZfE b8 cy _).mono ?_
  rintro e ah ⟨rfl,cL,bH,bv⟩
  obtain⟨bS,V,K⟩:=bF ah _ _ bH bv
  have aI:=D V;have aQ:=D ((aR.upd0 H).trans K)
  clear j r c9 I V K b8 cG bF bH bv
  go_wp2_with fail
  refine Jz ?_
  go_wp2_with fail
  (try simp only[Exit.inBlock,Exit.then])
  first|refine bodyPost_ret (results_none rfl _ _ _) rfl ?_|refine bodyPost_end (results_none rfl _ _ _) rfl ?_
  rw[T.out]
  exact⟨rfl,P.qps,vp,am,_,aI.out,aQ.out⟩
 have aY:=D (b1.trans (if_neg (by rw[←O.out];exact h2)))
 by_cases h4:fs=4
 ·have T:=D (aY.trans (if_pos (by rw[←O.out];exact .inl h4)))
  exact Zfp
 by_cases h5:fs=5
 ·have T:=D (aY.trans (if_pos (by rw[←O.out];exact .inr h5)))
  exact Zfp
 have bC:=D (aY.trans (if_neg (by rw[←O.out];omega)))
 by_cases h3:fs=3
 ·have T:=D (bC.trans (if_pos (by rw[←O.out];exact h3)))
  have bl:ZW t (n+1) m:=by rw[aP.out];exact N.overU HF st (by omega)
  have bJ:Lk.Safe t:=by rw[aP.out];exact HS.overU HF st
  have cc:=D bl;have ci:=D bJ
  have j:=aO.cells.1
  have r:=aO.cells.2.2
  clear bl bJ
  go_upto_region 15 with fail
  go_wp2_with fail
  refine(Zly aL cc ci (by omega) E X).mono ?_
  rintro e J ⟨rfl,cM,cQ,cO,cN,bX,b2⟩
  have cD:=D bX;have cq:=D (aR.trans b2)
  clear bX b2 j r
  go_wp2_with fail
  (try simp only[Exit.inBlock,Exit.then])
  first|refine bodyPost_ret (results_none rfl _ _ _) rfl ?_|refine bodyPost_end (results_none rfl _ _ _) rfl ?_
  rw[T.out]
  exact⟨rfl,_,_,_,_,cD.out,cq.out⟩
 have T:=D (bC.trans (if_neg (by rw[←O.out];exact h3)))
 go_wp2_with fail
 (try simp only[Exit.inBlock,Exit.then])
 first|refine bodyPost_ret (results_none rfl _ _ _) rfl ?_|refine bodyPost_end (results_none rfl _ _ _) rfl ?_
 rw[T.out]
 exact⟨rfl,P.qps,vp,am,_,aL.out,aR.out⟩
end Go.Proofs.YtbgbeddbfaopgaaGreatDoor
