import Derived.Test.YtlhapbopmplngaaGreatDoorS31
import Derived.Test.YtlhapbopmplngaaGreatDoorS32
set_option linter.all false
set_option maxHeartbeats 16000000
set_option maxRecDepth 100000
set_option autoImplicit true
set_option relaxedAutoImplicit true
namespace Go.Lk
theorem ZdM:∀(l:List Bs) (x:Bs),x∈ZO l→x∈l
 |[],x,h=>h
 |[a],x,h=>h
 |a::b::l,x,h=>by
  unfold ZO at h
  split at h
  ·exact List.mem_cons_of_mem _ (ZdM (b::l) x h)
  ·rcases List.mem_cons.1 h with h|h
   ·exact h▸List.mem_cons_self
   ·exact List.mem_cons_of_mem _ (ZdM (b::l) x h)
def ZmR {l:List (Bs×Bs)} (hf:∀x∈l,x.1.length≤900000) (hl:l.length≤100000):(Zdn l).length≤200000∧∀x∈Zdn l,x.length≤900000:=by
 have i:(ZcM l).length≤100000:=by unfold ZcM;rw[Xb];exact Xj (Xq _ _) hl
 have j:(ZdF l).length≤100000:=by unfold ZdF;rw[Xb];exact Xj (Xq _ _) hl
 have e:∀x∈ZcM l,x.length≤900000:=fun x hx=>by
  unfold ZcM at hx
  obtain⟨h,b,rfl⟩:=List.mem_map.1 hx
  rw[ZfR];exact hf h (List.mem_filter.1 b).1
 have f:∀x∈ZdF l,x.length≤900000:=fun x hx=>by
  unfold ZdF at hx
  obtain⟨h,b,rfl⟩:=List.mem_map.1 hx
  rw[ZfR];exact hf h (List.mem_filter.1 b).1
 rw[ZiL]
 obtain⟨a,c⟩:=Je (if 1024<Zi6 l then ZcM l++ZdF l else ZcM l)
 rw[←c]
 have g:a.length≤200000∧∀x∈a,x.length≤900000:=by
  rw[c]
  split
  ·refine⟨by rw[Xd];omega,fun x hx=> ?_⟩
   rcases List.mem_append.1 hx with hx|hx
   ·exact e x hx
   ·exact f x hx
  ·exact⟨by omega,e⟩
 refine⟨?_,fun x hx=> ?_⟩
 ·have:=Zd3 (ZbB a)
  have k:(ZbB a).length=a.length:=by unfold ZbB;exact List.length_mergeSort ..
  omega
 ·have d:=ZdM _ _ hx
  unfold ZbB at d
  exact g.2 x (List.mem_mergeSort.1 d)
def Zfz {r:Ya} (hf:∀x∈r.headers,x.1.length≤900000) (hl:r.headers.length≤100000):(ZaK r).length≤200000∧(∀x∈ZaK r,x.length≤900000)∧(Lib.join (ZaK r) [44]).length≤140737488355328:=by
 have h:(ZaK r).length≤200000∧∀x∈ZaK r,x.length≤900000:=by
  rw[ZjI]
  split
  ·exact⟨by simp,by simp⟩
  ·exact ZmR hf hl
 refine⟨h.1,h.2,?_⟩
 have a:=ZeN [44] 900000 (ZaK r) h.2
 calc _≤(900000+([44]:Bs).length)*(ZaK r).length:=a
  _≤900001*200000:=Nat.mul_le_mul (by simp) h.1
  _≤140737488355328:=by omega
end Go.Lk
namespace Go.Proofs.YtlhapbopmplngaaGreatDoor
open Go.RowKit Go.Lk
def ZiC (r:Ya) (vh:Value) (w:World) (h:Za5 w r vh) (hE:Env w):
  Calls Tryz.prog 146 #[.agg (Zt r vh).toArray] w fun e w'=>e= .returned (.agg (YG (Zdh r)).toArray)∧Zg [] w w':=by
 obtain⟨c,j⟩:=Je ((w.alloc (.cells (Zt r vh).toArray 35)).alloc (.cells #[.string ⟨#[]⟩, .string ⟨#[]⟩, .bool false] 246))
 have k:Zg [] w c:=by rw[j];exact((Zg.refl [] w).alloc _).alloc _
 have y:c.heap[w.heap.size]? =some (.cells (Zt r vh).toArray 35 (0,0)):=by rw[j,Zz _ (by simp)];exact Za _
 have W:c.heap[w.heap.size+1]? =some (.cells #[.string ⟨#[]⟩, .string ⟨#[]⟩, .bool false] 246 (0,0)):=by
  rw[j]
  have:=Za (w:=w.alloc (.cells (Zt r vh).toArray 35)) (.cells #[.string ⟨#[]⟩, .string ⟨#[]⟩, .bool false] 246 (0,0));simpa using this
 have K:=ZeQ r vh c (h.upd0 k) (hE.upd0 k)
 obtain⟨n,M⟩:=Je (YJ r)
 rw[←M]at K
 have Q1:=D K;have ae:=D k;have HE:=D hE
 have T:=D Yh;have S:=D (show Zu Tryz.prog 246 3=true by kernel_rfl)
 have C:=D y;have F:=D W
 have Q:=D (show Zb c w.heap.size 0 (Zt r vh)from Zb.of_block y)
 obtain⟨p,H⟩:=Je w.heap.size
 obtain⟨a,E⟩:=Je (w.heap.size+1)
 rw[←H]at C Q
 rw[←E]at F
 have aa:=D (show w.heap.size≤p∧w.heap.size≤a∧p≠a∧a≠p by omega)
 have ak:=D (h.upd0 k)
 clear K k y W hE h;change Hid _ at j M H E
 obtain⟨d,z⟩:=Je (Zdh r)
 have ag:=D (show d=⟨n.origin,n.url,n.creds⟩by rw[z,M.out];rfl)
 rw[←z]
 clear z
 go_in
 go_upto_region 1 with fail
 rw[←j.out,←E.out,←H.out]
 go_wp2_with(refine Jl Q T ?_)
 refine Q1.out.mono ?_
 rintro e s ⟨J,Mn,rfl,O,_,I⟩
 have V:=ZbZ n J O.one
 have ac:=D V
 obtain⟨w3,l⟩:=Je ((s.alloc (.cells #[.string ⟨#[]⟩, .string ⟨#[]⟩, .string ⟨#[]⟩, .int .i64 0, .bool false, .slice none 0 0, .int .i64 0, .int .u64 0, .int .i64 0, .int .i64 0] 35 (0,0))).setRow s.heap.size (Zt n J).toArray)
 have P:=D (Za (w:=s) (.cells #[.string ⟨#[]⟩, .string ⟨#[]⟩, .string ⟨#[]⟩, .int .i64 0, .bool false, .slice none 0 0, .int .i64 0, .int .u64 0, .int .i64 0, .int .i64 0] 35 (0,0)))
 have i:=Kk l P
 have N:=Kh l
 have g:Zg [] c w3:=I.trans N
 have ai:=D g;have ah:=Jt ae g
 have al:=D ((Kv g C))
 have X:=D ((Kv g F))
 obtain⟨nb,R⟩:=Je s.heap.size
 have aj:=D (show nb≠a∧nb≠p by have h1:=I.size;have h2:=(Jg F);have h3:=(Jg C);omega)
 clear V N g I O Q1;change Hid _ at l i
 go_upto_region 2 with(refine Jo (Zt n J).toArray P T ac ?_;rw[←l.out])
 rw[←R]at i⊢
 clear R
 have r2:=Jc 2 i.out
 have r1:=Jc 1 i.out
 have r4:=Jc 4 i.out
 obtain⟨w4,m⟩:=Je (w3.setRow a (YG d).toArray)
 have Z:=Kk m X
 have Y:=Kg m
 have af:=D (((ah.weaken (G:=[a]) (by simp)).trans Y (fun q L=> .inr L)).weaken (G:=[]) (fun q L=> .inl (by rw[Jm L];exact aa.out.2.1)))
 have ad:=D (show(YG d).toArray.all (·.oneCell')=true by
  rw[Xl,Xk]
  intro x hx
  simp only[YG,List.mem_cons,List.not_mem_nil,or_false]at hx
  rcases hx with rfl|rfl|rfl<;>rfl)
 have ab:=D (show(#[.string ⟨n.origin.toArray⟩, .string ⟨n.url.toArray⟩, .bool n.creds]:Array Value)=(YG d).toArray by rw[ag.out];rfl)
 clear Y;change Hid _ at Z m
 go_wp2_with(first|(refine Zaw _ rfl 246 (.tmp 2) (.tmp 12) rfl a (YG d).toArray #[.string ⟨#[]⟩, .string ⟨#[]⟩, .bool false] 246 rfl (by rw[←ab.out];rfl) S X rfl ad ?_;rw[←m.out]))
 refine bodyPost_ret (v:= .agg (YG d).toArray) (Zw _ Tryz.results146 (b:=a) (o:=0) rfl S (Zb.of_block Z)) rfl ?_
 exact⟨rfl,af.out⟩
def Zp8 (r:Ya) (vh:Value) (w:World) (h:Za5 w r vh) (hE:Env w):
  Calls Tryz.prog 149 #[.agg (Zt r vh).toArray] w fun e w'=>e= .returned (.agg (Zae (ZbT r)).toArray)∧Zg [] w w':=by
 obtain⟨l,p⟩:=Je ((w.alloc (.cells (Zt r vh).toArray 35)).alloc (.cells #[.string ⟨#[]⟩, .string ⟨#[]⟩, .bool false, .string ⟨#[]⟩, .string ⟨#[]⟩] 252))
 have s:Zg [] w l:=by rw[p];exact((Zg.refl [] w).alloc _).alloc _
 have P:l.heap[w.heap.size]? =some (.cells (Zt r vh).toArray 35 (0,0)):=by rw[p,Zz _ (by simp)];exact Za _
 have an:l.heap[w.heap.size+1]? =some (.cells #[.string ⟨#[]⟩, .string ⟨#[]⟩, .bool false, .string ⟨#[]⟩, .string ⟨#[]⟩] 252 (0,0)):=by
  rw[p]
  have:=Za (w:=w.alloc (.cells (Zt r vh).toArray 35)) (.cells #[.string ⟨#[]⟩, .string ⟨#[]⟩, .bool false, .string ⟨#[]⟩, .string ⟨#[]⟩] 252 (0,0));simpa using this
 have q1:=ZeQ r vh l (h.upd0 s) (hE.upd0 s)
 obtain⟨n,HN⟩:=Je (YJ r)
 rw[←HN]at q1
 have Q1:=D q1;have aK:=D s;have HE:=D hE
 have E:=D Yh;have aw:=D (show Zu Tryz.prog 252 5=true by kernel_rfl)
 have Q:=D P;have aa:=D an
 have au:=D (show Zb l w.heap.size 0 (Zt r vh)from Zb.of_block P)
 obtain⟨z,ab⟩:=Je w.heap.size
 obtain⟨j,R⟩:=Je (w.heap.size+1)
 rw[←ab]at Q au
 rw[←R]at aa
 have aC:=D (show w.heap.size≤z∧w.heap.size≤j∧z≠j∧j≠z by omega)
 have C:=D (h.upd0 s)
 clear q1 s P an hE h;change Hid _ at p HN ab R
 obtain⟨y,Y⟩:=Je (Zdh r)
 obtain⟨ns,H⟩:=Je (ZaK r)
 obtain⟨js,ad⟩:=Je (Lib.join ns [44])
 obtain⟨k,ac⟩:=Je (ZbT r)
 have aI:=D (show k=⟨y,n.method,js⟩by rw[ac,Y,ad,H,HN.out];rfl)
 rw[←ac]
 clear ac
 go_in
 go_upto_region 1 with fail
 rw[←p.out,←R.out,←ab.out]
 go_wp2_with(refine Jl au E ?_)
 refine Q1.out.mono ?_
 rintro e L ⟨vn,Mn,rfl,ag,_,ae⟩
 have am:=ZbZ n vn ag.one
 have aE:=D am
 obtain⟨g,F⟩:=Je ((L.alloc (.cells #[.string ⟨#[]⟩, .string ⟨#[]⟩, .string ⟨#[]⟩, .int .i64 0, .bool false, .slice none 0 0, .int .i64 0, .int .u64 0, .int .i64 0, .int .i64 0] 35 (0,0))).setRow L.heap.size (Zt n vn).toArray)
 have ar:=D (Za (w:=L) (.cells #[.string ⟨#[]⟩, .string ⟨#[]⟩, .string ⟨#[]⟩, .int .i64 0, .bool false, .slice none 0 0, .int .i64 0, .int .u64 0, .int .i64 0, .int .i64 0] 35 (0,0)))
 have Z:=Kk F ar
 have ai:=Kh F
 have m:Zg [] l g:=ae.trans ai
 have ah:=D m;have af:=Jt aK m
 have aG:=D ((Kv m Q))
 have aL:=D ((Kv m aa))
 obtain⟨M,av⟩:=Je L.heap.size
 have aM:=D (show M≠j∧M≠z by have h1:=ae.size;have h2:=(Jg aa);have h3:=(Jg Q);omega)
 clear am ai m ae ag Q1;change Hid _ at F Z
 go_upto_region 2 with(refine Jo (Zt n vn).toArray ar E aE ?_;rw[←F.out])
 rw[←av]at Z⊢
 clear av
 simp only[Act.put]
 have qc:∀W,Zg [] g W→Calls Tryz.prog 146 #[.agg (Zt r vh).toArray] W fun e w'=>e= .returned (.agg (YG y).toArray)∧Zg [] W w':=fun W d=>by rw[Y];exact ZiC r vh W (C.upd0 (ah.trans d)) (HE.upd0 (af.trans d))
 have qn:∀W,Zg [] g W→Calls Tryz.prog 147 #[.agg (Zt r vh).toArray] W (Zdi W ns):=fun W d=>by rw[H];exact ZgA r vh W (C.upd0 (ah.trans d)) (HE.upd0 (af.trans d))
 have O:=Zfz (r:=r) (fun x hx=>(C.few x hx).1) C.n
 rw[←H]at O
 have ak:=D O
 have QC:=D qc;have QN:=D qn
 clear Y H qc qn O;change Hid _ at ad
 obtain⟨S,K⟩:∃S:World→Prop,S=fun W=>W.cell? ⟨M,0,none⟩=some (.string ⟨n.method.toArray⟩)∧Zb W z 0 (Zt r vh):=⟨_,rfl⟩
 have J:=D (show∀W W',S W→Zg [] W W'→S W' from fun W W' d hu=>by
  rw[K]at d⊢
  exact⟨(Xp (hu.block M (Xo _ _ d.1) (by simp))).trans d.1,d.2.upd hu⟩)
 have az:=D (show S g by rw[K];exact⟨Zf (i:=0) Z rfl,Zb.of_block aG⟩)
 have V:=D K
 clear K
 refine ZR [(0,0),(2,0),(3,0),(4,0),(1,1),(5,1),(6,1),(7,0),(8,2)] S (by kernel_rfl) (by kernel_rfl) (fun c a w t v h=>by cases t<;>exact h) (J.out _ _ az ((Zg.refl [] g).drewN 1)) ?_
 refine JO (cs:=Zt r vh) E.out (by intro W d;rw[V.out]at d;exact d.2) ?_
 repeat first|refine Jn ?_|refine Jf ?_|refine Ju ?_
 refine Jp (v:= .string ⟨n.method.toArray⟩) ?_ (hv:=by intro W d;rw[V.out]at d;have d0:=d.1;clear d;go_simp)
 refine JO (cs:=Zt r vh) E.out (by intro W d;rw[V.out]at d;exact d.2) ?_
 refine JE ?_
 simp only[Xu]
 go_wp2_with fail
 refine(QC.out _ ((Zg.refl [] g).drewN 1)).mono ?_
 rintro e w4 ⟨rfl,ap⟩
 have N:=D (show Zg [] g w4 from((Zg.refl [] g).drewN 1).trans ap)
 have ax:=D (J.out _ _ az N)
 clear ap QC
 go_wp2_with fail
 refine⟨S,fun _ h=>h,ax.out,?_⟩
 refine JE ?_
 go_wp2_with fail
 refine(QN.out w4 N).mono ?_
 rintro e w5 ⟨v5,M5,rfl,ao,_,X⟩
 have aB:=Jt N X
 have ay:=D (J.out _ _ ax X)
 have q6:=ZcA ao (by have:=ak.out.1;omega) [44] ak.out.2.2
 rw[←ad.out]at q6
 have Q6:=D q6
 clear X QN ao q6
 go_wp2_with fail
 refine⟨S,fun _ h=>h,ay.out,?_⟩
 refine JE ?_
 go_wp2_with fail
 refine Q6.out.mono ?_
 rintro e w6 ⟨rfl,T⟩
 have aj:=Jt aB T
 have aD:=D (J.out _ _ ay T)
 have aq:=D ((Kv aj aL))
 clear T Q6
 go_wp2_with fail
 refine⟨S,fun _ h=>h,aD.out,?_⟩
 obtain⟨w7,I⟩:=Je (w6.setRow j (Zae k).toArray)
 have aA:=Kk I aq
 have al:=Kg I
 have aF:=D ((((af.trans aj).weaken (G:=[j]) (by simp)).trans al (fun q hq=> .inr hq)).weaken (G:=[]) (fun q hq=> .inl (by rw[Jm hq];exact aC.out.2.1)))
 have aJ:=D (show(Zae k).toArray.all (·.oneCell')=true by
  rw[Xl,Xk]
  intro x hx
  simp only[Zae,YG,List.cons_append,List.nil_append,List.mem_cons,List.not_mem_nil,or_false]at hx
  rcases hx with rfl|rfl|rfl|rfl|rfl<;>rfl)
 have aH:=D (show(#[.string ⟨y.origin.toArray⟩, .string ⟨y.url.toArray⟩, .bool y.creds, .string ⟨n.method.toArray⟩, .string ⟨js.toArray⟩]:Array Value)=(Zae k).toArray by rw[aI.out];rfl)
 clear al;change Hid _ at aA I
 apply ZaF (v:= .agg (Zae k).toArray)
 case ho=>simp only[Xh,Xf,Xg];rfl
 case hg=>rfl
 case hv=>
  intro W d
  clear d
  rw[←aH.out]
  simp only[YG]
  go_simp
 case ha=>go_simp;rfl
 refine JL ?_
 go_wp2_with(refine Jo (Zae k).toArray aq aw aJ ?_;rw[←I.out])
 refine Jz ?_
 go_wp2_with fail
 refine bodyPost_ret (v:= .agg (Zae k).toArray) (Zw _ Tryz.results149 (b:=j) (o:=0) rfl aw (Zb.of_block aA)) rfl ?_
 exact⟨rfl,aF.out⟩
end Go.Proofs.YtlhapbopmplngaaGreatDoor
