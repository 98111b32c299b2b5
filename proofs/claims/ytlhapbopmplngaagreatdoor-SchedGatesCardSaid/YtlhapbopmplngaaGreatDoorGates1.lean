import Derived.ChangeOld
import Derived.SevenTiedAt
import Derived.Stop.Joined
import Derived.Test.YtlhapbopmplngaaGreatDoorCards
import Derived.Test.YtlhapbopmplngaaGreatDoorRows
import Derived.Test.YtlhapbopmplngaaGreatDoorTie
import Derived.Test.YtlhapbopmplngaaGreatDoorS50
set_option linter.all false
set_option maxHeartbeats 16000000
set_option maxRecDepth 100000
set_option autoImplicit true
set_option relaxedAutoImplicit true
namespace Go.Lk
def gg2 (z:Bool):Ze:=(doS aw1 (Ze1 (ZmP [] (if z then 6 else 5)))).1
def gg3 (z:Bool):Ze:=(doS (gg2 z) (Zje 9 0 0 0 0)).1
def gg4 (z:Bool) (t:Int):Ze:=(doS (gg3 z) (Zje 8 0 0 t 0)).1
def gg5 (z l:Bool) (t:Int):Ze×Zal:=doS (gg4 z t) (Zje (if l then 5 else 4) 1 0 0 0)
def gg6 (z l:Bool) (t:Int):Ze×Zal:=doS (gg5 z l t).1 (Zje 9 0 0 0 0)
def gg7 (z l:Bool) (t:Int):Ze×Zal:=doS (gg6 z l t).1 (Zje 4 1 0 0 0)
set_option maxRecDepth 100000
def Zsz (z:Bool) (t:Int):(gg4 z t).all.map Zfd=[⟨1,1,0,0,0,false⟩]:=by cases z<;>kernel_rfl
def Zsv (z:Bool) (t:Int):((gg4 z t).pool.busy.length:Int)=0:=by cases z<;>kernel_rfl
def Zsw (z l:Bool) (t:Int):(gg5 z l t).2.code=0:=by cases z<;>cases l<;>kernel_rfl
def ZsB (z:Bool) (t:Int):(gg5 z true t).2.n=if z then 0 else 1:=by cases z<;>kernel_rfl
def ZsC (z l:Bool) (t:Int):(gg6 z l t).2.n=if l&&z then 0 else 1:=by cases z<;>cases l<;>kernel_rfl
def Zsx (z l:Bool) (t:Int):(gg7 z l t).2.code=if l&&z then 0 else 12:=by cases z<;>cases l<;>kernel_rfl
end Go.Lk
namespace Go.Proofs.YtlhapbopmplngaaGreatDoor
open Go.RowKit Go.Lk
def Zss (T:Zal):T=⟨T.code,T.id,T.n,T.bytes⟩:=rfl
def Zsq {P:Prop}(h:P:=by
 refine(ZiD F (by omega) 9 0 0 0 0 (by decide) (by decide)).mono ?_
 rintro e w8 ⟨v8,F8,rfl,_,a,_,_⟩
 rw[ab.out]at a⊢
 rw[Zss s6.2,ae.out]
 simp only[Bool.and_true,Bool.and_false,Bool.false_and,Bool.true_and,Bool.false_eq_true,if_false,if_true]
 have G:=D a
 clear a
 go_wp2_with fail
 refine(ZiD G (by omega) 4 1 0 0 0 (by decide) (by decide)).mono ?_
 rintro e M ⟨v9,F9,rfl,_,a,_,_⟩
 rw[ah.out]at a⊢
 rw[Zss s7.2,ag.out]
 simp only[Bool.and_true,Bool.and_false,Bool.false_and,Bool.true_and,Bool.false_eq_true,if_false,if_true]
 have g:=D a
 clear a
 go_wp2_with fail
 refine(Zr8 M g.env).mono ?_
 rintro e wg ⟨rfl,k⟩
 have H:=D ((Q.trans g.upd).trans k)
 clear k
 go_wp2_with fail
 go_ret
 exact⟨rfl,H.out⟩):P:=h
def Zsr {P:Prop}(h:P:=by
 go_upto_region 17 with fail
 go_wp2_with fail
 refine(ZiD I (by omega) 4 1 0 0 0 (by decide) (by decide)).mono ?_
 rintro e N ⟨d,F7,rfl,_,a,_,_⟩
 rw[show doS s4 (Zje 4 1 0 0 0)=s5 from aa.out]at a⊢
 rw[Zss s5.2,ad.out]
 have F:=D a
 clear a
 go_wp2_with fail
 exact Zsq):P:=h
def Zsu (z:Bool) (x:Int) (hx: -9223372036854775808≤x∧x≤9223372036854775807) (l:Bool) (w:World) (hE:Env w):Calls Tryz.prog 3 #[.bool z, .int .i64 x, .bool l] w fun e w'=>e= .returned (.bool true)∧Zg [] w w':=by
 have HE:=D hE
 have ar:=D Yj
 obtain⟨t,ht⟩:∃t:Int,t=(low x 1000:Int):=⟨_,rfl⟩
 have aw:0≤t:=by omega
 have aI:t<1000:=by have:=Zsl x 1000 (by omega);omega
 have HT:=D ht
 clear hE ht
 obtain⟨o,ac⟩:=Je (ZmP [] (if z then 6 else 5))
 obtain⟨s2,ak⟩:=Je (gg2 z)
 obtain⟨s3,aq⟩:=Je (gg3 z)
 obtain⟨s4,O⟩:=Je (gg4 z t)
 obtain⟨s5,Z⟩:=Je (gg5 z l t)
 obtain⟨s6,af⟩:=Je (gg6 z l t)
 obtain⟨s7,ao⟩:=Je (gg7 z l t)
 have HG:=D ac
 have ay:=D (show(doS aw1 (Ze1 o)).1=s2 by rw[ak,ac,gg2])
 have aC:=D (show(doS s2 (Zje 9 0 0 0 0)).1=s3 by rw[ak,aq,gg3])
 have av:=D (show(doS s3 (Zje 8 0 0 t 0)).1=s4 by rw[aq,O,gg4])
 have aa:=D (show doS s4 (Zje (if l then 5 else 4) 1 0 0 0)=s5 by rw[O,Z,gg5])
 have ab:=D (show doS s5.1 (Zje 9 0 0 0 0)=s6 by rw[Z,af,gg6])
 have ah:=D (show doS s6.1 (Zje 4 1 0 0 0)=s7 by rw[af,ao,gg7])
 have az:=D (show s4.all.map Zfd=[⟨1,1,0,0,0,false⟩]by rw[O];exact Zsz z t)
 have ax:=D (show(s4.pool.busy.length:Int)=0 by rw[O];exact Zsv z t)
 have ad:=D (show s5.2.code=0 by rw[Z];exact Zsw z l t)
 have aA:=D (show l=true→s5.2.n=if z then 0 else 1 from fun h=>by rw[Z,h];exact ZsB z t)
 have ae:=D (show s6.2.n=if l&&z then 0 else 1 by rw[af];exact ZsC z l t)
 have ag:=D (show s7.2.code=if l&&z then 0 else 12 by rw[ao];exact Zsx z l t)
 have p:=D (show o.headers=[]∧o.method.length≤900000∧o.url.length≤900000∧o.origin.length≤900000∧0≤o.timeout∧o.timeout≤18446744073709551615 by
  rw[ac];exact⟨rfl,by show(ZmP [] 0).method.length≤_;decide,by show(ZmP [] 0).url.length≤_;decide,by show(ZmP [] 0).origin.length≤_;decide,by show(0:Int)≤0;omega,by show(0:Int)≤_;omega⟩)
 clear ac ak aq O Z af ao
 have aH:∀(r:Ya) (v:Value),(Zt r v).length=10:=fun _ _=>rfl
 go_in
 go_wp2_with fail
 refine(Zrd w).mono ?_
 rintro e w1 ⟨rfl,aB⟩
 have Q:=D aB
 clear aB
 go_wp2_with fail
 refine(Zq0 ZjF (by decide) w1 (HE.upd0 Q)).mono ?_
 rintro e w2 ⟨b,F2,rfl,al⟩
 change Run _ _ _ aw1 _ _ at al
 have au:=D al
 clear al
 cases z
 case false=>
  go_upto_region 7 with fail
  go_wp2_with fail
  refine(Zrm [] 5 (by simp) w2).mono ?_
  rw[show ZmP [] 5=o from HG.symm]
  rintro e w3 ⟨rfl,V⟩
  have aj:=D (au.upd0 V)
  clear V
  go_wp2_with fail
  refine(Zri aj (by omega) o p.out.1 p.out.2.1 p.out.2.2.1 p.out.2.2.2.1 p.out.2.2.2.2).mono ?_
  rintro e w4 ⟨v4,F4,rfl,_,a,_,_⟩
  rw[ay.out]at a
  have am:=D a
  clear a
  go_wp2_with fail
  refine(ZiD am (by omega) 9 0 0 0 0 (by decide) (by decide)).mono ?_
  rintro e w5 ⟨v5,F5,rfl,_,a,_,_⟩
  rw[aC.out]at a
  have an:=D a
  clear a
  go_wp2_with fail
  refine(Zsj x 1000 (by omega) (by omega) w5).mono ?_
  rintro e w6 ⟨rfl,rfl⟩
  rw[←HT.out]
  go_wp2_with fail
  refine(ZiD an (by omega) 8 0 0 t 0 (by decide) ⟨aw,by omega⟩).mono ?_
  rintro e w6 ⟨v6,F6,rfl,_,a,_,_⟩
  rw[av.out]at a
  have Y:=D a
  clear a
  go_wp2_with fail
  refine(ZrU Y (by omega)).mono ?_
  rw[az.out]
  rintro e we ⟨ve,Ge,rfl,J,R,ap⟩
  rcases J.form with⟨_,h0,_⟩|⟨g8,aE,aD,rfl,_⟩
  ·simp at h0
  simp only[List.map_cons,List.map_nil,List.length_cons,List.length_nil,Nat.zero_add,Nat.reduceAdd]
  have I:=D (Y.upd0 R)
  have k1:we.cell? ⟨g8,1,none⟩=some (.int .i64 1):=(J.liesAt (j:=0) rfl) 1 _ rfl
  clear J R ap
  go_wp2_with fail
  refine(Zqr I).mono ?_
  rintro e wf ⟨rfl,rfl⟩
  rw[ax.out]
  clear k1
  have aG:∀(W:World) (c i n:Int) (bs:Bs) (v:Value),(Instr.field 31 (.agg (Z1 ⟨c,i,n,bs⟩ v).toArray) 0).run Tryz.prog W= .ok (.int .i64 c) W:=fun _ _ _ _ _ _=>by kernel_rfl
  have aF:∀(W:World) (c i n:Int) (bs:Bs) (v:Value),(Instr.field 31 (.agg (Z1 ⟨c,i,n,bs⟩ v).toArray) 2).run Tryz.prog W= .ok (.int .i64 n) W:=fun _ _ _ _ _ _=>by kernel_rfl
  cases l
  case false=>
   exact Zsr
  case true=>
   go_wp2_with fail
   refine(ZiD I (by omega) 5 1 0 0 0 (by decide) (by decide)).mono ?_
   rintro e q ⟨d,F7,rfl,X,a,_,_⟩
   have P:d.oneCell'=true:=by obtain⟨A,c,rfl,_⟩:=X;rfl
   rw[show doS s4 (Zje 5 1 0 0 0)=s5 from aa.out]at a⊢
   rw[Zss s5.2,ad.out,aA.out (by first|rfl|trivial)]
   simp only[Bool.false_eq_true,if_false,if_true]
   obtain⟨E,S⟩:=Je s5.2.id
   obtain⟨y,T⟩:=Je s5.2.bytes
   rw[←S,←T]
   obtain⟨K,m,u6⟩:=ZfQ a (Z1 ⟨0,E,(1),y⟩ d).toArray rfl
   obtain⟨N,s⟩:=Je ((q.alloc (.cells #[.int .i64 0, .int .i64 0, .int .i64 0, .slice none 0 0] 31)).setRow q.heap.size (Z1 ⟨0,E,(1),y⟩ d).toArray)
   rw[←s]at K m u6
   obtain⟨L,C⟩:=Je q.heap.size
   rw[←C]at m s
   have F:=D K;have HL:=D C
   have HZ:=D (show(q.alloc (.cells #[.int .i64 0, .int .i64 0, .int .i64 0, .slice none 0 0] 31)).heap[L]? =some (.cells #[.int .i64 0, .int .i64 0, .int .i64 0, .slice none 0 0] 31 (0,0))by rw[C];exact Za _)
   have t0:N.cell? ⟨L,0,none⟩=some (.int .i64 0):=m.cell rfl
   have t2:N.cell? ⟨L,2,none⟩=some (.int .i64 (1)):=m.cell rfl
   have ai:=D (YV ⟨0,E,(1),y⟩ d P)
   clear X P a K m u6 C S T;change Hid _ at s
   go_wp2_with(rw[←HL.out];refine Jo (Z1 ⟨0,E,(1),y⟩ d).toArray HZ ar ai ?_;rw[←s.out])
   exact Zsq
 case true=>
  go_upto_region 7 with fail
  go_wp2_with fail
  refine(Zrm [] 6 (by simp) w2).mono ?_
  rw[show ZmP [] 6=o from HG.symm]
  rintro e w3 ⟨rfl,V⟩
  have aj:=D (au.upd0 V)
  clear V
  go_wp2_with fail
  refine(Zri aj (by omega) o p.out.1 p.out.2.1 p.out.2.2.1 p.out.2.2.2.1 p.out.2.2.2.2).mono ?_
  rintro e w4 ⟨v4,F4,rfl,_,a,_,_⟩
  rw[ay.out]at a
  have am:=D a
  clear a
  go_wp2_with fail
  refine(ZiD am (by omega) 9 0 0 0 0 (by decide) (by decide)).mono ?_
  rintro e w5 ⟨v5,F5,rfl,_,a,_,_⟩
  rw[aC.out]at a
  have an:=D a
  clear a
  go_wp2_with fail
  refine(Zsj x 1000 (by omega) (by omega) w5).mono ?_
  rintro e w6 ⟨rfl,rfl⟩
  rw[←HT.out]
  go_wp2_with fail
  refine(ZiD an (by omega) 8 0 0 t 0 (by decide) ⟨aw,by omega⟩).mono ?_
  rintro e w6 ⟨v6,F6,rfl,_,a,_,_⟩
  rw[av.out]at a
  have Y:=D a
  clear a
  go_wp2_with fail
  refine(ZrU Y (by omega)).mono ?_
  rw[az.out]
  rintro e we ⟨ve,Ge,rfl,J,R,ap⟩
  rcases J.form with⟨_,h0,_⟩|⟨g8,aE,aD,rfl,_⟩
  ·simp at h0
  simp only[List.map_cons,List.map_nil,List.length_cons,List.length_nil,Nat.zero_add,Nat.reduceAdd]
  have I:=D (Y.upd0 R)
  have k1:we.cell? ⟨g8,1,none⟩=some (.int .i64 1):=(J.liesAt (j:=0) rfl) 1 _ rfl
  clear J R ap
  go_wp2_with fail
  refine(Zqr I).mono ?_
  rintro e wf ⟨rfl,rfl⟩
  rw[ax.out]
  clear k1
  have aG:∀(W:World) (c i n:Int) (bs:Bs) (v:Value),(Instr.field 31 (.agg (Z1 ⟨c,i,n,bs⟩ v).toArray) 0).run Tryz.prog W= .ok (.int .i64 c) W:=fun _ _ _ _ _ _=>by kernel_rfl
  have aF:∀(W:World) (c i n:Int) (bs:Bs) (v:Value),(Instr.field 31 (.agg (Z1 ⟨c,i,n,bs⟩ v).toArray) 2).run Tryz.prog W= .ok (.int .i64 n) W:=fun _ _ _ _ _ _=>by kernel_rfl
  cases l
  case false=>
   exact Zsr
  case true=>
   go_wp2_with fail
   refine(ZiD I (by omega) 5 1 0 0 0 (by decide) (by decide)).mono ?_
   rintro e q ⟨d,F7,rfl,X,a,_,_⟩
   have P:d.oneCell'=true:=by obtain⟨A,c,rfl,_⟩:=X;rfl
   rw[show doS s4 (Zje 5 1 0 0 0)=s5 from aa.out]at a⊢
   rw[Zss s5.2,ad.out,aA.out (by first|rfl|trivial)]
   simp only[Bool.false_eq_true,if_false,if_true]
   obtain⟨E,S⟩:=Je s5.2.id
   obtain⟨y,T⟩:=Je s5.2.bytes
   rw[←S,←T]
   obtain⟨K,m,u6⟩:=ZfQ a (Z1 ⟨0,E,(0),y⟩ d).toArray rfl
   obtain⟨N,s⟩:=Je ((q.alloc (.cells #[.int .i64 0, .int .i64 0, .int .i64 0, .slice none 0 0] 31)).setRow q.heap.size (Z1 ⟨0,E,(0),y⟩ d).toArray)
   rw[←s]at K m u6
   obtain⟨L,C⟩:=Je q.heap.size
   rw[←C]at m s
   have F:=D K;have HL:=D C
   have HZ:=D (show(q.alloc (.cells #[.int .i64 0, .int .i64 0, .int .i64 0, .slice none 0 0] 31)).heap[L]? =some (.cells #[.int .i64 0, .int .i64 0, .int .i64 0, .slice none 0 0] 31 (0,0))by rw[C];exact Za _)
   have t0:N.cell? ⟨L,0,none⟩=some (.int .i64 0):=m.cell rfl
   have t2:N.cell? ⟨L,2,none⟩=some (.int .i64 (0)):=m.cell rfl
   have ai:=D (YV ⟨0,E,(0),y⟩ d P)
   clear X P a K m u6 C S T;change Hid _ at s
   go_wp2_with(rw[←HL.out];refine Jo (Z1 ⟨0,E,(0),y⟩ d).toArray HZ ar ai ?_;rw[←s.out])
   exact Zsq
def Zst (w:World) (a:Bool) (x:Int) (hx:(Lit.int .i64 x).wf=true) (b:Bool) (hE:Env w):Calls Tryz.prog 3 #[.bool a, .int .i64 x, .bool b] w fun e w'=>e= .returned (.bool true)∧Below w.heap.size w w':=
 (Zsu a x (by have:=bounds_i64 hx;omega) b w hE).mono fun e w' h=>⟨h.1,h.2.below (by simp)⟩
end Go.Proofs.YtlhapbopmplngaaGreatDoor
namespace Go.Proofs.YtlhapbopmplngaaGreatDoor.schedGates
open Go.ChangeShapes Go.WideShapes Go.ChangeAt Go.RowKit Go.Lk
open Go.ChangeMaps (open_string shut_string)
def own:ownKnob Tryz.prog.godebug=none:=by kernel_rfl
def lifted (os:Os) (started:os.Started) (H:Type) (enc:TypeId×Value→H):
  ReturnsInHanded {} Tryz.checked os 3 .any (fun w args=>(Rows.schedGatesSpec.pre enc Tryz.prog Tryz.f3 Rows.schedGatesRow.domain false w args∧laidMetH Tryz.prog Rows.schedGatesRow.laid w)∧sizedMet enc Tryz.prog Tryz.f3 (OpenSpec.ofChange Rows.schedGatesSpec) false w args) (Rows.schedGatesSpec.post enc Tryz.prog Tryz.f3 false true false false):=by
 refine Zfe (C:= Tryz.checked) (X:=fun w _=>laidMetH Tryz.prog Rows.schedGatesRow.laid w) (fun _ _ _ E h=>h.of_heap E) own started (by kernel_rfl) Tryz.func3
  (ChangeSpec.witness_shaped (enc:=enc) (C:= Tryz.checked) (os:=os) (X:=fun w _=>laidMetH Tryz.prog Rows.schedGatesRow.laid w) false (World.laidAll Tryz.prog os Rows.schedGatesRow.laid) #[.bool false, .int .i64 0, .bool false] 8 (World.laidAll_os _ _ _)
   (World.shaped_of_ZipB (by kernel_rfl) (by kernel_rfl)) (by kernel_rfl) (by kernel_rfl) (by kernel_rfl)
   (by rw[MakeChecks.laidMetH_plain _ _ _ (by kernel_rfl)];exact laidMet_laidAll _ (by kernel_rfl) (by kernel_rfl))) ?_
 intro W r args P gs R b n T _ z y _
 have M:Env W:=Zsf z y
 have a:∀(j:Nat) t v,Tryz.f3.params[j]? =some t→args[j]? =some v→Value.okWide Tryz.prog W .any r t v:=b
 have s:=n
 obtain⟨p,q,c,N,rfl,aa,ae⟩:=n
 have m:DataW.TrodAll enc Tryz.prog W 0 (fun _=>true) true Tryz.f3.params.toList args.toList P p:=c
 rw[Tryz.params3]at m a
 obtain⟨l,ad,d0,V,p0,q0,S,rfl,rfl,I,Q⟩:=trodAll_cons m
 obtain⟨o,ac,d1,ab,p1,q1,rfl,rfl,rfl,L,O⟩:=trodAll_cons Q
 obtain⟨i,Y,d2,Z,p2,q2,rfl,rfl,rfl,G,F⟩:=trodAll_cons O
 obtain⟨rfl,rfl,rfl⟩:=trodAll_nil F
 obtain rfl:args= #[l,o,i]:=by cases args;simp_all
 obtain⟨rfl,rfl⟩:=trodVars_none N
 obtain⟨k,rfl,rfl,rfl⟩:=open_bool Tryz.underlying4 (a 0 4 l rfl rfl) I
 obtain⟨J,rfl,rfl,rfl,g⟩:=open_int Tryz.underlying3 (a 1 3 o rfl rfl) L
 obtain⟨d,rfl,rfl,rfl⟩:=open_bool Tryz.underlying4 (a 2 4 i rfl rfl) G
 clear c b
 refine(Zst W k J g d M).mono fun e W' ⟨K,x⟩=> ?_
 subst K
 exact⟨_,rfl,_,_,_,[],_,[],s,trodAll_mk1 (shut_bool Tryz.underlying4 _),(trodAll_cons_mk (shut_bool Tryz.underlying4 k) (trodAll_cons_mk (shut_int Tryz.underlying3 g) (trodAll_cons_mk (shut_bool Tryz.underlying4 d) trodAll_mk0))),rfl,x.frame _,fun h=>by cases h⟩
def Zsp {a b:Bool} (h:a=true) (k:b=true):(a&&b)=true:=by rw[h,k];rfl
def jf0:(Rows.schedGatesRow.wf (OpenSpec.ofChange Rows.schedGatesSpec))=true:=by kernel_rfl
def jf1:(laidOutB Tryz.prog)=true:=by kernel_rfl
def jf2:(mapsRowed Tryz.prog)=true:=by kernel_rfl
def jf3:(Tryz.f3.params.all (Tryz.prog.readableRec ·))=true:=by kernel_rfl
def jf4:(namedTie Tryz.prog Rows.schedGatesRow.named Rows.schedGatesSpec.vars)=true:=by kernel_rfl
def jf5:((Rows.schedGatesRow.stops==[]))=true:=by kernel_rfl
def jf6:((Tryz.prog.stops==[]))=true:=by kernel_rfl
def jf7:((Rows.schedGatesRow.knobs==[]))=true:=by kernel_rfl
def jf8:((Tryz.prog.stopKnobs==[]))=true:=by kernel_rfl
def jf9:((Rows.schedGatesRow.inPlace== Tryz.prog.inPlace 3))=true:=by kernel_rfl
def ZsM:((Rows.schedGatesRow.unfollowed== Tryz.prog.unfollowed 3))=true:=by kernel_rfl
def ZsD:((Rows.schedGatesRow.recurses== Tryz.prog.recurses 3))=true:=by kernel_rfl
def ZsF:((Rows.schedGatesRow.named== Tryz.prog.varsNamed 3))=true:=by kernel_rfl
def ZsR:((Rows.schedGatesRow.maps==(Tryz.f3.params.toList++Rows.schedGatesSpec.plain.varTypes Tryz.prog).any (Tryz.prog.mapsRec ·)))=true:=by kernel_rfl
def ZsP:((Rows.schedGatesRow.ifaces==(Tryz.f3.params.toList++Rows.schedGatesSpec.plain.varTypes Tryz.prog).any (Tryz.prog.ifacesRec ·)))=true:=by kernel_rfl
def ZsK:((Rows.schedGatesRow.mapsOut== Tryz.prog.mapsAmong Tryz.f3.resultTypes.toList))=true:=by kernel_rfl
def ZsH:((Rows.schedGatesRow.loops==(Tryz.f3.params.toList++Rows.schedGatesSpec.plain.varTypes Tryz.prog).any (Tryz.prog.loopsFrom ·)))=true:=by kernel_rfl
def ZsX:((Rows.schedGatesRow.wideKeys==(Tryz.f3.params.toList++Rows.schedGatesSpec.plain.varTypes Tryz.prog++ Tryz.f3.resultTypes.toList).any (Tryz.prog.wideKeysFrom ·)))=true:=by kernel_rfl
def ZsY:(Rows.schedGatesSpec.vars.all (Tryz.prog.varReadable ·))=true:=by kernel_rfl
def ZsW:(Tryz.f3.resultTypes.all (fun t=> Tryz.prog.readableRec t&&decide (t< Tryz.prog.types.size)))=true:=by kernel_rfl
def ZsJ:((Rows.schedGatesRow.ifacesOut== Tryz.f3.resultTypes.toList.any (Tryz.prog.ifacesRec ·)))=true:=by kernel_rfl
def ZsS:((Rows.schedGatesRow.loopsOut== Tryz.f3.resultTypes.toList.any (Tryz.prog.loopsFrom ·)))=true:=by kernel_rfl
def ZsN:((Rows.schedGatesRow.plainKeys== Tryz.prog.plainKeys))=true:=by kernel_rfl
def ZsQ:(Rows.schedGatesRow.shortTexts.isNone)=true:=by kernel_rfl
def ZsG:(Tryz.prog.stopsHeard)=true:=by kernel_rfl
def ZsI:(Tryz.prog.mayEnter)=true:=by kernel_rfl
def ZsV:((Rows.schedGatesRow.lifted== Tryz.prog.liftsFinal))=true:=by kernel_rfl
def ZsU:((Tryz.prog.make==some Rows.schedGatesRow.make))=true:=by kernel_rfl
def ZsT:((Rows.schedGatesRow.pinned==Rows.schedGatesRow.pinnedBy))=true:=by kernel_rfl
def ZsL:((Rows.schedGatesRow.veiled==(Tryz.f3.params.toList++Rows.schedGatesSpec.plain.varTypes Tryz.prog++ Tryz.f3.resultTypes.toList).any (Tryz.prog.veiledRec ·)))=true:=by kernel_rfl
def ZsO:(Rows.schedGatesRow.veiledFits Tryz.prog Tryz.f3.params.toList (Tryz.f3.params.toList++Rows.schedGatesSpec.plain.varTypes Tryz.prog++ Tryz.f3.resultTypes.toList))=true:=by kernel_rfl
def ZsA:joinedFacts Tryz.prog 3 Tryz.f3 Rows.schedGatesSpec Rows.schedGatesRow=true:=by
 unfold joinedFacts
 exact Zsp (Zsp (Zsp (Zsp (Zsp (Zsp (Zsp (Zsp (Zsp (Zsp (Zsp (Zsp (Zsp (Zsp (Zsp (Zsp (Zsp (Zsp (Zsp (Zsp (Zsp (Zsp (Zsp (Zsp (Zsp (Zsp (Zsp (Zsp (Zsp (Zsp (Zsp (jf0) jf1) jf2) jf3) jf4) jf5) jf6) jf7) jf8) jf9) ZsM) ZsD) ZsF) ZsR) ZsP) ZsK) ZsH) ZsX) ZsY) ZsW) ZsJ) ZsS) ZsN) ZsQ) ZsG) ZsI) ZsV) ZsU) (by as_aux_lemma=>kernel_rfl)) ZsT) ZsL) ZsO
def ZsE:Rows.SchedGatesSaid:=
 OpenClaim.holds_of_wide 3 Tryz.f3 rfl rfl rfl rfl rfl rfl rfl ⟨rfl,rfl,rfl,rfl,rfl⟩ rfl rfl rfl rfl rfl (by as_aux_lemma=>kernel_rfl) Tryz.func3 ZsA
  (of_decide_eq_true (by kernel_rfl)) (by unfold Func.isWrapper;first|(rw[if_pos (by decide+kernel)];kernel_rfl)|(rw[if_neg (by decide+kernel)];exact⟨rfl,rfl⟩))
  (fun os started H enc _=>lifted os started H enc)
def Zsy {P:Program} (h:P.funcs.any Func.goes=false) (f:FuncId):P.goes f=false:=by
 unfold Program.goes
 rw[h,Bool.and_false,Bool.or_false,List.any_eq_false]
 intro g _
 cases hg:P.funcs[g]? with
 |none=>simp
 |some fn=>
  have a:=Array.any_eq_false.1 h g (Jg hg)
  rw[(Array.getElem?_eq_some_iff.1 hg).2]at a
  simpa using a
def pf: Tryz.prog.funcs.any Func.goes=false:=by kernel_rfl
def pg:false=Rows.schedGatesRow.goesBy Tryz.prog:=by
 unfold OpenClaim.goesBy Program.goesAt Program.goesFrom
 cases Tryz.prog.funcNamed Rows.schedGatesRow.func with
 |none=>rfl
 |some f=>rw[Option.any_some,Zsy pf];rfl
def pw:Rows.schedGatesRow.wfByText (OpenSpec.ofChange Rows.schedGatesSpec)=true:=by kernel_rfl
def pm: Tryz.prog.mainIs=some (Rows.schedGatesCard.stood.harness.1,Rows.schedGatesCard.stood.harness.2.toList):=by kernel_rfl
def pl:false= Tryz.prog.looks []:=by kernel_rfl
theorem proved:Rows.SchedGatesCardSaid:=
 Claim7.holds_tied_plain_at .later [] Rows.schedGatesCard.laidKinds true Rows.schedGatesCard.stood.harness false ZsE (fun _ h=>by cases h) pw (fun _ h=>by cases h) schedGates_row_tie rfl ⟨rfl,rfl⟩ pm rfl
  (fun f fn hf hfn=>by
   obtain rfl:f= 3:=Option.some.inj ((show Tryz.prog.funcNamed "lockkeeper/lockkeeperlaw26.SchedGates"=some 3 by kernel_rfl).symm.trans hf)|>.symm
   obtain rfl:fn= Tryz.f3:=(Option.some.inj (Tryz.func3.symm.trans hfn)).symm
   exact⟨pl,fun j t ht=>by
    rw[Tryz.params3]at ht
    have hm:t∈[4,3,4]:=by simpa using Array.mem_of_getElem? ht
    have hall:([4,3,4].all fun u=> !Tryz.prog.wantsStandIn u)=true:=by kernel_rfl
    exact(show Tryz.prog.wantsStandIn t=false by simpa using Xk.1 hall t hm)⟩)
  pg
end Go.Proofs.YtlhapbopmplngaaGreatDoor.schedGates
