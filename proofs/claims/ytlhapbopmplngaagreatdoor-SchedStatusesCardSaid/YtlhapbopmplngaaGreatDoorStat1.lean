import Derived.ChangeOld
import Derived.SevenTiedAt
import Derived.Stop.Joined
import Derived.Test.YtlhapbopmplngaaGreatDoorCards
import Derived.Test.YtlhapbopmplngaaGreatDoorRows
import Derived.Test.YtlhapbopmplngaaGreatDoorTie
import Derived.Test.YtlhapbopmplngaaGreatDoorS50
set_option linter.all false
set_option maxHeartbeats 16000000
set_option maxRecDepth 100000
set_option autoImplicit true
set_option relaxedAutoImplicit true
namespace Go.Lk
def sa2:Ze×Zal:=doS aw1 (Ze1 (ZmP [] 1))
def sa3:Ze×Zal:=doS sa2.1 (Zje 9 0 0 0 0)
def sa4:Ze:={sa3.1 with acts:=sa3.1.acts+1}
def Zsu (s:Ze) (id n:Int):doS s (Zje 10 id 0 0 n)=((answerS {s with acts:=s.acts+1} id n []).1,YM (answerS {s with acts:=s.acts+1} id n []).2):=by
 unfold doS
 rw[if_neg (by simp[Zje]),if_neg (by simp[Zje]),if_neg (by simp[Zje]),if_neg (by simp[Zje]),if_neg (by simp[Zje]),if_neg (by simp[Zje]),if_neg (by simp[Zje]),if_neg (by simp[Zje]),if_neg (by simp[Zje]),if_pos (by simp[Zje])]
 rfl
def Zsz:(match Zcv sa4 1 with|(some f,none)=>(f.state==4)&&(f.id==1)&&(f.conn==1)&& !(ZfC f.req)|_=>false)=true:=by kernel_rfl
def ZsB:sa4.log=[⟨2,0,1,1,0,0,1⟩,⟨3,0,8,1,0,1,1⟩]:=by kernel_rfl
def ZsF:sa4.all.map Zfd=[⟨1,4,0,1,0,false⟩]:=by kernel_rfl
def ZsD:(setF sa4 1 fun f=>{f with state:=goL f.state 5,body:=some (Ze5 sa4.conf.high sa4.conf.low)}).all.map Zfd=[⟨1,5,0,1,0,false⟩]:=by kernel_rfl
def Zsv:sa4.acts=4∧sa4.now=0:=⟨by kernel_rfl,by kernel_rfl⟩
def Zsw (n:Int):answerS sa4 1 n []=if n<200∨599<n then(sa4,14)else(setF (ZI sa4 9 1 0 1 n) 1 fun f=>{f with state:=goL f.state 5,body:=some (Ze5 sa4.conf.high sa4.conf.low)},0):=by
 have h:=Zsz
 unfold answerS
 dsimp only
 cases hu:Zcv sa4 1 with
 |mk a c=>
  rw[hu]at h
  cases a with
  |none=>cases h
  |some f=>
   cases c with
   |some _=>cases h
   |none=>
    simp only[Bool.and_eq_true,beq_iff_eq,Bool.not_eq_true']at h
    obtain⟨⟨⟨d,g⟩,e⟩,b⟩:=h
    simp only[Option.isNone_some,Bool.false_and,Option.map_some,d,b]
    rw[if_neg (by simp),if_neg (by simp),if_neg (by simp[ZbW])]
    split
    ·rfl
    ·simp only[g,e]
     simp
def ZsA (n:Int) (h:n<200∨599<n):doS sa3.1 (Zje 10 1 0 0 n)=(sa4,⟨14,0,0,[]⟩):=by
 rw[Zsu]
 show((answerS sa4 1 n []).1,YM (answerS sa4 1 n []).2)=_
 rw[Zsw,if_pos h]
 rfl
def ZsC (n:Int) (h:¬(n<200∨599<n)):doS sa3.1 (Zje 10 1 0 0 n)=(setF (ZI sa4 9 1 0 1 n) 1 fun f=>{f with state:=goL f.state 5,body:=some (Ze5 sa4.conf.high sa4.conf.low)},⟨0,0,0,[]⟩):=by
 rw[Zsu]
 show((answerS sa4 1 n []).1,YM (answerS sa4 1 n []).2)=_
 rw[Zsw,if_neg h]
 rfl
def Zst (n:Int):(setF (ZI sa4 9 1 0 1 n) 1 fun f=>{f with state:=goL f.state 5,body:=some (Ze5 sa4.conf.high sa4.conf.low)}).all.map Zfd=[⟨1,5,0,1,0,false⟩]:=ZsD
def Zss (n:Int):(setF (ZI sa4 9 1 0 1 n) 1 fun f=>{f with state:=goL f.state 5,body:=some (Ze5 sa4.conf.high sa4.conf.low)}).log=[⟨2,0,1,1,0,0,1⟩,⟨3,0,8,1,0,1,1⟩,⟨4,0,9,1,0,1,n⟩]:=by
 show sa4.log++[⟨sa4.acts,sa4.now,9,1,0,1,n⟩]=_
 rw[ZsB,Zsv.1,Zsv.2]
 rfl
end Go.Lk
namespace Go.Proofs.YtlhapbopmplngaaGreatDoor
open Go.RowKit Go.Lk
def Zsr {P:Prop}(h:P:=by
 clear X
 go_wp2_with fail
 by_cases E:n<200∨599<n
 case pos=>
  refine(ZiD Y (by omega) 10 1 0 0 n (by decide) (by decide)).mono ?_
  rintro e a ⟨v6,F6,rfl,⟨C,s,rfl,_,_⟩,m,R,_⟩
  rw[ZsA n E]at m⊢
  dsimp only[List.length_nil]
  obtain⟨y,k,u6⟩:=ZfQ m (Z1 ⟨14,0,0,[]⟩ (.slice C 0 s)).toArray rfl
  obtain⟨w7,d⟩:=Je ((a.alloc (.cells #[.int .i64 0, .int .i64 0, .int .i64 0, .slice none 0 0] 31)).setRow a.heap.size (Z1 ⟨14,0,0,[]⟩ (.slice C 0 s)).toArray)
  rw[←d]at y k u6
  obtain⟨L,i⟩:=Je a.heap.size
  rw[←i]at k d
  have H:=D y;have O:=D k;have P:=D i
  have S:=D (show(a.alloc (.cells #[.int .i64 0, .int .i64 0, .int .i64 0, .slice none 0 0] 31)).heap[L]? =some (.cells #[.int .i64 0, .int .i64 0, .int .i64 0, .slice none 0 0] 31 (0,0))by rw[i];exact Za _)
  have I:=D E
  clear m R y k u6 i E;change Hid _ at d
  go_wp2_with(rw[←P.out];refine Jo (Z1 ⟨14,0,0,[]⟩ (.slice C 0 s)).toArray S Z (YV _ _ rfl) ?_;rw[←d.out])
  refine(ZrU H (by omega)).mono ?_
  rw[show sa4.all.map Zfd=_ from ZsF]
  rintro e w8 ⟨v8,G8,rfl,o,q,K⟩
  rcases o.form with⟨_,z,_⟩|⟨Q,ad,ac,rfl,_⟩
  ·
   simp at z
  have G:=D (H.upd0 q);have M:=D (O.upd0 q);have J:=D o
  clear o q K
  go_wp2_with fail
  refine(run_log G (by omega)).mono ?_
  rw[show sa4.log=_ from ZsB]
  rintro e c ⟨v9,G9,rfl,p,g,_⟩
  rcases p.form with⟨_,z,_⟩|⟨T,ab,aa,rfl,_⟩
  ·
   simp at z
  simp only[List.map_cons,List.map_nil,List.length_cons,List.length_nil,Nat.zero_add,Nat.reduceAdd]
  have r:=D (G.upd0 g)
  have k1:c.cell? ⟨Q,1,none⟩=some (.int .i64 4):=(((Zc _ _ _ _).upd J g).liesAt (j:=0) rfl) 1 _ rfl
  have t0:c.cell? ⟨L,0,none⟩=some (.int .i64 14):=(M.upd0 g).cell rfl
  clear p g
  rcases I with W|q2
  ·
   go_wp2_with fail
   refine(Zr8 c r.env).mono ?_
   rintro e V ⟨rfl,l⟩
   have F:=D ((N.trans r.upd).trans l)
   clear l
   go_wp2_with fail
   go_ret
   exact⟨rfl,F.out⟩
  ·
   by_cases W:n<200
   ·
    exfalso;omega
   ·
    go_wp2_with fail
    refine(Zr8 c r.env).mono ?_
    rintro e V ⟨rfl,l⟩
    have F:=D ((N.trans r.upd).trans l)
    clear l
    go_wp2_with fail
    go_ret
    exact⟨rfl,F.out⟩
 case neg=>
  refine(ZiD Y (by omega) 10 1 0 0 n (by decide) (by decide)).mono ?_
  rintro e a ⟨v6,F6,rfl,⟨C,s,rfl,_,_⟩,m,R,_⟩
  rw[ZsC n E]at m⊢
  dsimp only[List.length_nil]
  obtain⟨y,k,u6⟩:=ZfQ m (Z1 ⟨0,0,0,[]⟩ (.slice C 0 s)).toArray rfl
  obtain⟨w7,d⟩:=Je ((a.alloc (.cells #[.int .i64 0, .int .i64 0, .int .i64 0, .slice none 0 0] 31)).setRow a.heap.size (Z1 ⟨0,0,0,[]⟩ (.slice C 0 s)).toArray)
  rw[←d]at y k u6
  obtain⟨L,i⟩:=Je a.heap.size
  rw[←i]at k d
  have H:=D y;have O:=D k;have P:=D i
  have S:=D (show(a.alloc (.cells #[.int .i64 0, .int .i64 0, .int .i64 0, .slice none 0 0] 31)).heap[L]? =some (.cells #[.int .i64 0, .int .i64 0, .int .i64 0, .slice none 0 0] 31 (0,0))by rw[i];exact Za _)
  have I:=D E
  clear m R y k u6 i E;change Hid _ at d
  go_wp2_with(rw[←P.out];refine Jo (Z1 ⟨0,0,0,[]⟩ (.slice C 0 s)).toArray S Z (YV _ _ rfl) ?_;rw[←d.out])
  refine(ZrU H (by omega)).mono ?_
  rw[show(setF (ZI sa4 9 1 0 1 n) 1 fun f=>{f with state:=goL f.state 5,body:=some (Ze5 sa4.conf.high sa4.conf.low)}).all.map Zfd=_ from(Zst n)]
  rintro e w8 ⟨v8,G8,rfl,o,q,K⟩
  rcases o.form with⟨_,z,_⟩|⟨Q,ad,ac,rfl,_⟩
  ·
   simp at z
  have G:=D (H.upd0 q);have M:=D (O.upd0 q);have J:=D o
  clear o q K
  go_wp2_with fail
  refine(run_log G (by omega)).mono ?_
  rw[show(setF (ZI sa4 9 1 0 1 n) 1 fun f=>{f with state:=goL f.state 5,body:=some (Ze5 sa4.conf.high sa4.conf.low)}).log=_ from(Zss n)]
  rintro e c ⟨v9,G9,rfl,p,g,_⟩
  rcases p.form with⟨_,z,_⟩|⟨T,ab,aa,rfl,_⟩
  ·
   simp at z
  simp only[List.map_cons,List.map_nil,List.length_cons,List.length_nil,Nat.zero_add,Nat.reduceAdd]
  have r:=D (G.upd0 g)
  have k1:c.cell? ⟨Q,1,none⟩=some (.int .i64 5):=(((Zc _ _ _ _).upd J g).liesAt (j:=0) rfl) 1 _ rfl
  have t0:c.cell? ⟨L,0,none⟩=some (.int .i64 0):=(M.upd0 g).cell rfl
  have am:c.cell? ⟨T,16,none⟩=some (.int .i64 9):=(p.liesAt (j:=2) rfl) 2 _ rfl
  have an:c.cell? ⟨T,20,none⟩=some (.int .i64 n):=(p.liesAt (j:=2) rfl) 6 _ rfl
  have W:¬n<200:=fun h=>I.out (.inl h)
  have q2:¬599<n:=fun h=>I.out (.inr h)
  clear p g
  go_wp2_with fail
  refine(Zr8 c r.env).mono ?_
  rintro e V ⟨rfl,l⟩
  have F:=D ((N.trans r.upd).trans l)
  clear l
  go_wp2_with fail
  go_ret
  exact⟨rfl,F.out⟩):P:=h
def Zsx (x:Int) (hx: -9223372036854775808≤x∧x≤9223372036854775807) (w:World) (hE:Env w):Calls Tryz.prog 8 #[.int .i64 x] w fun e w'=>e= .returned (.bool true)∧Zg [] w w':=by
 have HE:=D hE
 have Z:=D Yj
 have ap:=D hx
 clear hE hx
 go_in
 go_wp2_with fail
 refine(Zrd w).mono ?_
 rintro e w1 ⟨rfl,ah⟩
 have N:=D ah
 clear ah
 go_wp2_with fail
 refine(Zq0 ZjF (by decide) w1 (HE.upd0 N)).mono ?_
 rintro e w2 ⟨b,F2,rfl,ae⟩
 change Run _ _ _ aw1 _ _ at ae
 have ak:=D ae
 clear ae
 go_wp2_with fail
 refine(Zrm [] 1 (by simp) w2).mono ?_
 rintro e w3 ⟨rfl,ai⟩
 have ao:=D (ak.upd0 ai)
 clear ai
 go_wp2_with fail
 refine(Zri ao (by omega) (ZmP [] 1) rfl (by decide) (by decide) (by decide) ⟨by decide,by decide⟩).mono ?_
 rintro e w4 ⟨v4,F4,rfl,_,af,_,_⟩
 change Run _ _ _ sa2.1 _ _ at af
 have aj:=D af
 clear af
 go_wp2_with fail
 refine(ZiD aj (by omega) 9 0 0 0 0 (by decide) (by decide)).mono ?_
 rintro e w5 ⟨v5,F5,rfl,_,ag,_,_⟩
 change Run _ _ _ sa3.1 _ _ at ag
 have Y:=D ag
 clear ag
 go_wp2_with fail
 refine(Zsj x 4 (by omega) (by omega) w5).mono ?_
 rintro e a ⟨rfl,rfl⟩
 by_cases hl:0<low x 4
 case pos=>
  have hz:(0:Int)<(low x 4:Int):=by omega
  go_upto_region 8 with fail
  clear hl hz
  go_wp2_with fail
  refine(Zsj x 420 (by omega) (by omega) w5).mono ?_
  rintro e a ⟨rfl,rfl⟩
  obtain⟨n,X⟩:∃n:Int,n=190+(low x 420:Int):=⟨_,rfl⟩
  have al:=Zsl x 420 (by omega)
  go_upto_region 9 with fail
  rw[←X]
  clear al
  exact Zsr
 case neg=>
  have hz:¬(0:Int)<(low x 4:Int):=by omega
  obtain⟨n,X⟩:∃n:Int,n=x:=⟨_,rfl⟩
  go_upto_region 9 with fail
  rw[←X]
  clear hz hl
  exact Zsr
def Zsq (w:World) (x:Int) (hx:(Lit.int .i64 x).wf=true) (hE:Env w):Calls Tryz.prog 8 #[.int .i64 x] w fun e w'=>e= .returned (.bool true)∧Below w.heap.size w w':=
 (Zsx x (by have:=bounds_i64 hx;omega) w hE).mono fun e w' h=>⟨h.1,h.2.below (by simp)⟩
end Go.Proofs.YtlhapbopmplngaaGreatDoor
namespace Go.Proofs.YtlhapbopmplngaaGreatDoor.schedStatuses
open Go.ChangeShapes Go.WideShapes Go.ChangeAt Go.RowKit Go.Lk
open Go.ChangeMaps (open_string shut_string)
def own:ownKnob Tryz.prog.godebug=none:=by kernel_rfl
def lifted (os:Os) (started:os.Started) (H:Type) (enc:TypeId×Value→H):
  ReturnsInHanded {} Tryz.checked os 8 .any (fun w args=>(Rows.schedStatusesSpec.pre enc Tryz.prog Tryz.f8 Rows.schedStatusesRow.domain false w args∧laidMetH Tryz.prog Rows.schedStatusesRow.laid w)∧sizedMet enc Tryz.prog Tryz.f8 (OpenSpec.ofChange Rows.schedStatusesSpec) false w args) (Rows.schedStatusesSpec.post enc Tryz.prog Tryz.f8 false true false false):=by
 refine Zfe (C:= Tryz.checked) (X:=fun w _=>laidMetH Tryz.prog Rows.schedStatusesRow.laid w) (fun _ _ _ y h=>h.of_heap y) own started (by kernel_rfl) Tryz.func8
  (ChangeSpec.witness_shaped (enc:=enc) (C:= Tryz.checked) (os:=os) (X:=fun w _=>laidMetH Tryz.prog Rows.schedStatusesRow.laid w) false (World.laidAll Tryz.prog os Rows.schedStatusesRow.laid) #[.int .i64 0] 8 (World.laidAll_os _ _ _)
   (World.shaped_of_ZipB (by kernel_rfl) (by kernel_rfl)) (by kernel_rfl) (by kernel_rfl) (by kernel_rfl)
   (by rw[MakeChecks.laidMetH_plain _ _ _ (by kernel_rfl)];exact laidMet_laidAll _ (by kernel_rfl) (by kernel_rfl))) ?_
 intro W l args s V J a i L _ z m _
 have r:Env W:=Zsf z m
 have b:∀(j:Nat) t v,Tryz.f8.params[j]? =some t→args[j]? =some v→Value.okWide Tryz.prog W .any l t v:=a
 have o:=i
 obtain⟨p,q,c,F,rfl,O,N⟩:=i
 have k:DataW.TrodAll enc Tryz.prog W 0 (fun _=>true) true Tryz.f8.params.toList args.toList s p:=c
 rw[Tryz.params8]at k b
 obtain⟨d,P,T,M,R,S,K,rfl,rfl,G,x⟩:=trodAll_cons k
 obtain⟨rfl,rfl,rfl⟩:=trodAll_nil x
 obtain rfl:args= #[d]:=by cases args;simp_all
 obtain⟨rfl,rfl⟩:=trodVars_none F
 obtain⟨I,rfl,rfl,rfl,g⟩:=open_int Tryz.underlying3 (b 0 3 d rfl rfl) G
 clear c a
 refine(Zsq W I g r).mono fun e Q ⟨E,n⟩=> ?_
 subst E
 exact⟨_,rfl,_,_,_,[],_,[],o,trodAll_mk1 (shut_bool Tryz.underlying4 _),(trodAll_cons_mk (shut_int Tryz.underlying3 g) trodAll_mk0),rfl,n.frame _,fun h=>by cases h⟩
def Zsp {a b:Bool} (h:a=true) (k:b=true):(a&&b)=true:=by rw[h,k];rfl
def jf0:(Rows.schedStatusesRow.wf (OpenSpec.ofChange Rows.schedStatusesSpec))=true:=by kernel_rfl
def jf1:(laidOutB Tryz.prog)=true:=by kernel_rfl
def jf2:(mapsRowed Tryz.prog)=true:=by kernel_rfl
def jf3:(Tryz.f8.params.all (Tryz.prog.readableRec ·))=true:=by kernel_rfl
def jf4:(namedTie Tryz.prog Rows.schedStatusesRow.named Rows.schedStatusesSpec.vars)=true:=by kernel_rfl
def jf5:((Rows.schedStatusesRow.stops==[]))=true:=by kernel_rfl
def jf6:((Tryz.prog.stops==[]))=true:=by kernel_rfl
def jf7:((Rows.schedStatusesRow.knobs==[]))=true:=by kernel_rfl
def jf8:((Tryz.prog.stopKnobs==[]))=true:=by kernel_rfl
def jf9:((Rows.schedStatusesRow.inPlace== Tryz.prog.inPlace 8))=true:=by kernel_rfl
def ZsT:((Rows.schedStatusesRow.unfollowed== Tryz.prog.unfollowed 8))=true:=by kernel_rfl
def Zs1:((Rows.schedStatusesRow.recurses== Tryz.prog.recurses 8))=true:=by kernel_rfl
def ZsK:((Rows.schedStatusesRow.named== Tryz.prog.varsNamed 8))=true:=by kernel_rfl
def ZsU:((Rows.schedStatusesRow.maps==(Tryz.f8.params.toList++Rows.schedStatusesSpec.plain.varTypes Tryz.prog).any (Tryz.prog.mapsRec ·)))=true:=by kernel_rfl
def ZsY:((Rows.schedStatusesRow.ifaces==(Tryz.f8.params.toList++Rows.schedStatusesSpec.plain.varTypes Tryz.prog).any (Tryz.prog.ifacesRec ·)))=true:=by kernel_rfl
def ZsN:((Rows.schedStatusesRow.mapsOut== Tryz.prog.mapsAmong Tryz.f8.resultTypes.toList))=true:=by kernel_rfl
def ZsS:((Rows.schedStatusesRow.loops==(Tryz.f8.params.toList++Rows.schedStatusesSpec.plain.varTypes Tryz.prog).any (Tryz.prog.loopsFrom ·)))=true:=by kernel_rfl
def ZsX:((Rows.schedStatusesRow.wideKeys==(Tryz.f8.params.toList++Rows.schedStatusesSpec.plain.varTypes Tryz.prog++ Tryz.f8.resultTypes.toList).any (Tryz.prog.wideKeysFrom ·)))=true:=by kernel_rfl
def ZsO:(Rows.schedStatusesSpec.vars.all (Tryz.prog.varReadable ·))=true:=by kernel_rfl
def ZsP:(Tryz.f8.resultTypes.all (fun t=> Tryz.prog.readableRec t&&decide (t< Tryz.prog.types.size)))=true:=by kernel_rfl
def ZsZ:((Rows.schedStatusesRow.ifacesOut== Tryz.f8.resultTypes.toList.any (Tryz.prog.ifacesRec ·)))=true:=by kernel_rfl
def ZsG:((Rows.schedStatusesRow.loopsOut== Tryz.f8.resultTypes.toList.any (Tryz.prog.loopsFrom ·)))=true:=by kernel_rfl
def ZsM:((Rows.schedStatusesRow.plainKeys== Tryz.prog.plainKeys))=true:=by kernel_rfl
def ZsL:(Rows.schedStatusesRow.shortTexts.isNone)=true:=by kernel_rfl
def ZsI:(Tryz.prog.stopsHeard)=true:=by kernel_rfl
def ZsV:(Tryz.prog.mayEnter)=true:=by kernel_rfl
def ZsQ:((Rows.schedStatusesRow.lifted== Tryz.prog.liftsFinal))=true:=by kernel_rfl
def ZsW:((Tryz.prog.make==some Rows.schedStatusesRow.make))=true:=by kernel_rfl
def ZsH:((Rows.schedStatusesRow.pinned==Rows.schedStatusesRow.pinnedBy))=true:=by kernel_rfl
def ZsJ:((Rows.schedStatusesRow.veiled==(Tryz.f8.params.toList++Rows.schedStatusesSpec.plain.varTypes Tryz.prog++ Tryz.f8.resultTypes.toList).any (Tryz.prog.veiledRec ·)))=true:=by kernel_rfl
def ZsR:(Rows.schedStatusesRow.veiledFits Tryz.prog Tryz.f8.params.toList (Tryz.f8.params.toList++Rows.schedStatusesSpec.plain.varTypes Tryz.prog++ Tryz.f8.resultTypes.toList))=true:=by kernel_rfl
def ZsE:joinedFacts Tryz.prog 8 Tryz.f8 Rows.schedStatusesSpec Rows.schedStatusesRow=true:=by
 unfold joinedFacts
 exact Zsp (Zsp (Zsp (Zsp (Zsp (Zsp (Zsp (Zsp (Zsp (Zsp (Zsp (Zsp (Zsp (Zsp (Zsp (Zsp (Zsp (Zsp (Zsp (Zsp (Zsp (Zsp (Zsp (Zsp (Zsp (Zsp (Zsp (Zsp (Zsp (Zsp (Zsp (jf0) jf1) jf2) jf3) jf4) jf5) jf6) jf7) jf8) jf9) ZsT) Zs1) ZsK) ZsU) ZsY) ZsN) ZsS) ZsX) ZsO) ZsP) ZsZ) ZsG) ZsM) ZsL) ZsI) ZsV) ZsQ) ZsW) (by as_aux_lemma=>kernel_rfl)) ZsH) ZsJ) ZsR
def Zs0:Rows.SchedStatusesSaid:=
 OpenClaim.holds_of_wide 8 Tryz.f8 rfl rfl rfl rfl rfl rfl rfl ⟨rfl,rfl,rfl,rfl,rfl⟩ rfl rfl rfl rfl rfl (by as_aux_lemma=>kernel_rfl) Tryz.func8 ZsE
  (of_decide_eq_true (by kernel_rfl)) (by unfold Func.isWrapper;first|(rw[if_pos (by decide+kernel)];kernel_rfl)|(rw[if_neg (by decide+kernel)];exact⟨rfl,rfl⟩))
  (fun os started H enc _=>lifted os started H enc)
def Zsy {P:Program} (h:P.funcs.any Func.goes=false) (f:FuncId):P.goes f=false:=by
 unfold Program.goes
 rw[h,Bool.and_false,Bool.or_false,List.any_eq_false]
 intro g _
 cases hg:P.funcs[g]? with
 |none=>simp
 |some fn=>
  have a:=Array.any_eq_false.1 h g (Jg hg)
  rw[(Array.getElem?_eq_some_iff.1 hg).2]at a
  simpa using a
def pf: Tryz.prog.funcs.any Func.goes=false:=by kernel_rfl
def pg:false=Rows.schedStatusesRow.goesBy Tryz.prog:=by
 unfold OpenClaim.goesBy Program.goesAt Program.goesFrom
 cases Tryz.prog.funcNamed Rows.schedStatusesRow.func with
 |none=>rfl
 |some f=>rw[Option.any_some,Zsy pf];rfl
def pw:Rows.schedStatusesRow.wfByText (OpenSpec.ofChange Rows.schedStatusesSpec)=true:=by kernel_rfl
def pm: Tryz.prog.mainIs=some (Rows.schedStatusesCard.stood.harness.1,Rows.schedStatusesCard.stood.harness.2.toList):=by kernel_rfl
def pl:false= Tryz.prog.looks []:=by kernel_rfl
theorem proved:Rows.SchedStatusesCardSaid:=
 Claim7.holds_tied_plain_at .later [] Rows.schedStatusesCard.laidKinds true Rows.schedStatusesCard.stood.harness false Zs0 (fun _ h=>by cases h) pw (fun _ h=>by cases h) schedStatuses_row_tie rfl ⟨rfl,rfl⟩ pm rfl
  (fun f fn hf hfn=>by
   obtain rfl:f= 8:=Option.some.inj ((show Tryz.prog.funcNamed "lockkeeper/lockkeeperlaw26.SchedStatuses"=some 8 by kernel_rfl).symm.trans hf)|>.symm
   obtain rfl:fn= Tryz.f8:=(Option.some.inj (Tryz.func8.symm.trans hfn)).symm
   exact⟨pl,fun j t ht=>by
    rw[Tryz.params8]at ht
    have hm:t∈[3]:=by simpa using Array.mem_of_getElem? ht
    have hall:([3].all fun u=> !Tryz.prog.wantsStandIn u)=true:=by kernel_rfl
    exact(show Tryz.prog.wantsStandIn t=false by simpa using Xk.1 hall t hm)⟩)
  pg
end Go.Proofs.YtlhapbopmplngaaGreatDoor.schedStatuses
