import Derived.ChangeOld
import Derived.SevenTiedAt
import Derived.Stop.Joined
import Derived.Test.YtlhapbopmplngaaGreatDoorCards
import Derived.Test.YtlhapbopmplngaaGreatDoorRows
import Derived.Test.YtlhapbopmplngaaGreatDoorTie
import Derived.Test.YtlhapbopmplngaaGreatDoorS50
set_option linter.all false
set_option maxHeartbeats 16000000
set_option maxRecDepth 100000
set_option autoImplicit true
set_option relaxedAutoImplicit true
namespace Go.Lk
def tmC (T:Nat):Zcq:={ZjF with total:=1,timeout:=T}
def tmR (q:Int):Ya:={ZmP [] 1 with timeout:=q}
set_option maxRecDepth 100000
def ZsX (r:Ya) (x:Int):Int:=
 if(ZaJ r.url).2 !=0 then(ZaJ r.url).2 else if(YX r.origin).2 !=0 then(YX r.origin).2 else if x !=0 then x
 else if(r.mode==1&&(ZaJ r.url).1.origin !=(YX r.origin).1)||(r.mode==2&& !Zfu r)then 7 else 0
def Zsv (q:Int) (h:¬600<q):ZaZ (tmR q)=0:=by
 have e:ZbI (tmR q)=if 600<q then 9 else 0:=by kernel_rfl
 rw[if_neg h]at e
 have a:ZaZ (tmR q)=ZsX (tmR q) (ZbI (tmR q)):=rfl
 exact(a.trans (congrArg (ZsX (tmR q)) e)).trans (by kernel_rfl)
def Zst (q:Int) (h:¬600<q):Yz (tmR q)=((ZaJ (tmR 0).url).1,(YX (tmR 0).origin).1,true):=by
 unfold Yz;rw[Zsv q h];rfl
def ZsP (q:Int) (h:¬600<q):YJ (tmR q)=tmR q:=by
 unfold YJ;rw[Zst q h];kernel_rfl
def ZsS (q:Int) (h:¬600<q):Zek (tmR q)=Zek (tmR 0):=by
 unfold Zek;rw[Zst q h];kernel_rfl
def ZsL (q:Int) (h:¬600<q):Zdr (tmR q)=false:=by
 have e:ZfC (tmR q)=false:=by unfold ZfC;rw[Zst q h];kernel_rfl
 unfold Zdr;rw[e,Bool.and_false,Bool.false_and]
def ZsW (s:Ze) (r n:Ya) (key:Bs):Ze×Zal:=
 if YU s r.group≠0 then(s,YM (YU s r.group))else
 if Zbw s r.signal≠0 then(s,YM (Zbw s r.signal))else
 let id:Int:=s.all.length+1
 if s.book.any (fun o=>o.id==id)then(s,YM 16)else
 if 64≤s.book.length∨24≤(s.book.filter fun o=>o.key==key).length∨32≤(s.book.filter fun o=>o.group==r.group).length then(s,YM 10)else
 let s1:={s with book:=s.book++[⟨id,r.group,key⟩],all:=s.all++[⟨id,n,key,1,0,0,false,0,0,none,false⟩]}
 let s2:=ZI s1 1 id 0 0 r.cls
 let s3:={s2 with groups:=Zcr s2.groups r.group id}
 (if r.cls≠5∧r.cls≠6 then openS s3 id else s3,⟨0,id,0,[]⟩)
def ZsE (s:Ze) (r:Ya) (h:ZaZ r=0):submitS s r=ZsW s r (YJ r) (Zek r):=by
 unfold submitS ZsW
 rw[if_neg (by simp[h])]
def ZsI {s:Ze} {i:ZL} (hq:s.queue=[i]) (hfirst:Zac [i] s.now s.conf.aging []=some i) (hcan:Zf1 s.pool i.key=true) (hd:dropQ [i] i.id=[]) (hf:YN {s with queue:=[]} i.id=some f) (hw:Zdr f.req=false)
  (he:(departS {s with queue:=[]} i).queue=[]):stepS s=(departS {s with queue:=[]} i,1):=by
 have a:ZgO {s with queue:=[]} f=false:=by unfold ZgO;rw[hw,Bool.and_false,Bool.false_and]
 have b:∀g n,stepF g (departS {s with queue:=[]} i) [] n=(departS {s with queue:=[]} i,n):=fun g n=>by
  cases g with
  |zero=>rfl
  |succ g=>unfold stepF;rw[he];rfl
 unfold stepS
 rw[hq]
 show stepF (3+1) s [] 0=_
 unfold stepF
 rw[hq,hfirst]
 dsimp only
 rw[hcan,hd]
 simp only[Bool.not_true,Bool.false_eq_true,if_false]
 rw[hf]
 dsimp only
 rw[a]
 simp only[Bool.false_eq_true,and_false,if_false]
 exact b 3 _
def ZsM (s:Ze) (r:Ya):doS s (Ze1 r)=submitS {s with acts:=s.acts+1} r:=by kernel_rfl
def ZsK (s:Ze):doS s (Zje 9 0 0 0 0)=((stepS {s with acts:=s.acts+1}).1,⟨0,0,(stepS {s with acts:=s.acts+1}).2,[]⟩):=by kernel_rfl
def tm1 (T k:Nat):Ze:=(doS (ZrR (tmC T)) (Zje 8 0 0 (k:Int) 0)).1
def tmX (T k:Nat) (q:Int):Ze:=(ZsW {tm1 T k with acts:=(tm1 T k).acts+1} (tmR q) (tmR q) (Zek (tmR 0))).1
def tm2 (T k:Nat) (q:Int):Ze:=(doS (tm1 T k) (Ze1 (tmR q))).1
def ZsJ (T k:Nat) (q:Int) (h:¬600<q):tm2 T k q=tmX T k q:=by
 unfold tm2 tmX
 generalize tm1 T k=s
 rw[ZsM,ZsE _ _ (Zsv q h),ZsP q h,ZsS q h]
def tmI (T k:Nat):ZL:=⟨1,1,addT 0 k,Zek (tmR 0),0⟩
def tmD (T k:Nat) (q:Int):Ze:=departS {tmX T k q with acts:=(tmX T k q).acts+1,queue:=[]} (tmI T k)
def tm3 (T k:Nat) (q:Int) (z:Bool):Ze:=if z then(doS (tm2 T k q) (Zje 9 0 0 0 0)).1 else tm2 T k q
def tmY (T k:Nat) (q:Int) (z:Bool):Ze:=if z then tmD T k q else tmX T k q
def ZsV (T k:Nat) (q:Int) (z:Bool) (h:¬600<q):tm3 T k q z=tmY T k q z:=by
 cases z with
 |false=>exact ZsJ T k q h
 |true=>
  show(doS (tm2 T k q) (Zje 9 0 0 0 0)).1=tmD T k q
  rw[ZsJ T k q h]
  have d:(tmX T k q).queue=[tmI T k]:=by kernel_rfl
  have a:Zac [tmI T k] (tmX T k q).now (tmX T k q).conf.aging []=some (tmI T k):=by kernel_rfl
  have e:Zf1 (tmX T k q).pool (tmI T k).key=true:=by kernel_rfl
  have b:dropQ [tmI T k] (tmI T k).id=[]:=by kernel_rfl
  have c:YN {tmX T k q with acts:=(tmX T k q).acts+1,queue:=[]} (tmI T k).id=some ⟨1,tmR q,Zek (tmR 0),2,addT 0 k,1,false,0,0,none,false⟩:=by kernel_rfl
  have f:(departS {tmX T k q with acts:=(tmX T k q).acts+1,queue:=[]} (tmI T k)).queue=[]:=by kernel_rfl
  unfold tmD
  generalize tmX T k q=s at*
  rw[ZsK,ZsI (s:={s with acts:=s.acts+1}) d a e b c (ZsL q h) f]
def tk (r:Ze×Int):Ze×Int:=({r.1 with pool:=expireP r.1.pool r.1.now},r.2)
def Zsu (s:Ze) (n:Nat):tickS s n=tk (lateS s.timers.length {s with now:=addT s.now n} 0):=rfl
def Zsx (s:Ze) (t:Zv) (h:s.timers=[t]):lateS 1 s 0=if s.now<t.due then(s,0)else(overS {s with timers:=[t].filter fun x=>x.id !=t.id} t.tag 10,1):=by
 unfold lateS
 rw[h]
 rfl
def Zsw {s:Ze} {t:Zv} (h:s.timers=[t]) (hn:addT s.now n<t.due):tickS s n=tk ({s with now:=addT s.now n},0):=by
 have e:s.timers.length=1:=by rw[h];rfl
 rw[Zsu,e,Zsx {s with now:=addT s.now n} t h,if_pos hn]
def ZsQ {s:Ze} {n d:Nat} {i g:Int} (h:s.timers=[⟨d,i,g⟩]) (hn:d≤addT s.now n):tickS s n=tk (overS {s with now:=addT s.now n,timers:=[]} g 10,1):=by
 have a:([(⟨d,i,g⟩:Zv)].filter fun x=>x.id !=i)=[]:=by simp
 have e:s.timers.length=1:=by rw[h];rfl
 rw[Zsu,e,Zsx {s with now:=addT s.now n} _ h,if_neg (by show¬addT s.now n<d;omega),a]
def ZsD {s:Ze} (n:Nat) (h:s.timers=[]):(tickS s n).2=0:=by
 have e:s.timers.length=0:=by rw[h];rfl
 rw[Zsu,e];rfl
def Zsq (a c:Nat) (h:a+c≤18446744073709551615):addT a c=a+c:=by unfold addT;rw[if_neg (by omega)]
def tmN (T:Nat) (q:Int):Nat:=if q=0∨(T:Int)<q then T else q.toNat
def ZsB (T k:Nat) (q:Int) (z:Bool):(tmY T k q z).timers=[⟨addT (addT 0 k) (tmN T q),1,1⟩]:=by cases z<;>kernel_rfl
def ZsN (T k:Nat) (q:Int) (z:Bool):(tmY T k q z).now=addT 0 k:=by cases z<;>kernel_rfl
def tmE (T k:Nat) (q A:Int) (z:Bool) (N P:Nat):Ze:=overS {tmY T k q z with acts:=A,now:=N,pool:=expireP (tmY T k q z).pool P,timers:=[]} 1 10
def ZsO (T k:Nat) (q A:Int) (z:Bool) (N P:Nat):(tmE T k q A z N P).all.map Zfd=[⟨1,10,0,0,0,false⟩]:=by cases z<;>kernel_rfl
def ZsH (T k:Nat) (q A:Int) (z:Bool) (N P:Nat):(tk (tmE T k q A z N P,1)).1.pool.busy=[]:=by cases z<;>kernel_rfl
def ZsA (T k:Nat) (q A:Int) (z:Bool) (N P:Nat):(tmE T k q A z N P).timers=[]:=by cases z<;>kernel_rfl
def ZsC (s:Ze) (n:Int):doS s (Zje 8 0 0 n 0)=((tickS {s with acts:=s.acts+1} n.toNat).1,⟨0,0,(tickS {s with acts:=s.acts+1} n.toNat).2,[]⟩):=by kernel_rfl
def tm4 (T k:Nat) (q:Int) (z:Bool):Ze×Zal:=doS (tm3 T k q z) (Zje 8 0 0 ((tmN T q:Int)-1) 0)
def tm5 (T k:Nat) (q:Int) (z:Bool):Ze×Zal:=doS (tm4 T k q z).1 (Zje 8 0 0 1 0)
def ZsF (T k:Nat) (q:Int) (z:Bool) (hT:1≤T) (hT2:T≤600) (hk:k<1000) (hq:0≤q) (hq2:q≤600):
  (tm4 T k q z).2.n=0∧(tm5 T k q z).2.n=1∧(tm5 T k q z).1.all.map Zfd=[⟨1,10,0,0,0,false⟩]∧(tm5 T k q z).1.pool.busy=[]∧∀(n:Int),(doS (tm5 T k q z).1 (Zje 8 0 0 n 0)).2.n=0:=by
 have y:1≤tmN T q:=by unfold tmN;split<;>omega
 have A:tmN T q≤600:=by unfold tmN;split<;>omega
 have x:addT 0 k=k:=by rw[Zsq 0 k (by omega)];omega
 have w:addT k (tmN T q)=k+tmN T q:=Zsq _ _ (by omega)
 have o:addT k (tmN T q-1)=k+tmN T q-1:=by rw[Zsq _ _ (by omega)];omega
 have l:addT (k+tmN T q-1) 1=k+tmN T q:=by rw[Zsq _ _ (by omega)];omega
 have c:=ZsN T k q z
 have a:=ZsB T k q z
 rw[x]at c a
 rw[w]at a
 have e:=ZsO T k q ((tmY T k q z).acts+1+1) z (k+tmN T q) (k+tmN T q-1)
 have f:=ZsH T k q ((tmY T k q z).acts+1+1) z (k+tmN T q) (k+tmN T q-1)
 have j:=ZsA T k q ((tmY T k q z).acts+1+1) z (k+tmN T q) (k+tmN T q-1)
 unfold tm5 tm4
 rw[ZsV T k q z (by omega)]
 unfold tmE at e f j
 generalize tmN T q=n at*
 generalize tmY T k q z=s at*
 have r:((n:Int)-1).toNat=n-1:=by omega
 have p:doS s (Zje 8 0 0 ((n:Int)-1) 0)=((tk ({s with acts:=s.acts+1,now:=k+n-1},0)).1,⟨0,0,0,[]⟩):=by
  have h:=Zsw (s:={s with acts:=s.acts+1}) (n:=n-1) (t:=⟨k+n,1,1⟩) a (by show addT s.now (n-1)<k+n;rw[c,o];omega)
  rw[ZsC,r,h]
  show((tk ({s with acts:=s.acts+1,now:=addT s.now (n-1)},0)).1,_)=_
  rw[c,o];rfl
 have b:doS (doS s (Zje 8 0 0 ((n:Int)-1) 0)).1 (Zje 8 0 0 1 0)=((tk (overS {s with acts:=s.acts+1+1,now:=k+n,pool:=expireP s.pool (k+n-1),timers:=[]} 1 10,1)).1,⟨0,0,1,[]⟩):=by
  rw[p]
  have h:=ZsQ (s:={(tk ({s with acts:=s.acts+1,now:=k+n-1},0)).1 with acts:=s.acts+1+1}) (n:=1) (d:=k+n) (i:=1) (g:=1) a (by show k+n≤addT (k+n-1) 1;rw[l];omega)
  rw[ZsC]
  show((tickS {(tk ({s with acts:=s.acts+1,now:=k+n-1},0)).1 with acts:=s.acts+1+1} 1).1,(⟨0,0,(tickS {(tk ({s with acts:=s.acts+1,now:=k+n-1},0)).1 with acts:=s.acts+1+1} 1).2,[]⟩:Zal))=_
  rw[h]
  show((tk (overS {s with acts:=s.acts+1+1,now:=addT (k+n-1) 1,pool:=expireP s.pool (k+n-1),timers:=[]} 1 10,1)).1,_)=_
  rw[l];rfl
 refine⟨by rw[p],by rw[b],by rw[b];exact e,by rw[b];exact f,fun m=> ?_⟩
 rw[b,ZsC]
 exact ZsD _ j
end Go.Lk
namespace Go.Proofs.YtlhapbopmplngaaGreatDoor
open Go.RowKit Go.Lk
def Zss (T:Zal):T=⟨T.code,T.id,T.n,T.bytes⟩:=rfl
def ZsT (T:Nat) (h1:1≤T) (h2:T≤600):Zbu (tmC T)=true:=by
 unfold Zbu tmC ZjF
 simp
 omega
def ZsR {G_:Prop} (h_:G_:=by
 go_wp2_with fail
 refine(ZiD HR11 (by omega) 8 0 0 ((n:Int)-1) 0 (by decide) ⟨by omega,by omega⟩).mono ?_
 rintro e y ⟨d,aw,rfl,h,a,J,_⟩
 rw[show doS s3 (Zje 8 0 0 ((n:Int)-1) 0)=s4 from HY4.out]at a⊢
 rw[Zss s4.2,HF1.out]
 have g:d.oneCell'=true:=by obtain⟨A,c,rfl,_⟩:=h;rfl
 obtain⟨r,M⟩:=Je s4.2.code
 obtain⟨q,L⟩:=Je s4.2.id
 obtain⟨x,P⟩:=Je s4.2.bytes
 rw[←M,←L,←P]
 obtain⟨H,b,u12⟩:=ZfQ a (Z1 ⟨r,q,0,x⟩ d).toArray rfl
 obtain⟨ax,o⟩:=Je ((y.alloc (.cells #[.int .i64 0, .int .i64 0, .int .i64 0, .slice none 0 0] 31)).setRow y.heap.size (Z1 ⟨r,q,0,x⟩ d).toArray)
 rw[←o]at H b u12
 obtain⟨T,l⟩:=Je y.heap.size
 rw[←l]at b o
 have ai:=D H;have ah:=D l;have aa:=D b;have ap:=D u12
 have ad:=D (show(y.alloc (.cells #[.int .i64 0, .int .i64 0, .int .i64 0, .slice none 0 0] 31)).heap[T]? =some (.cells #[.int .i64 0, .int .i64 0, .int .i64 0, .slice none 0 0] 31 (0,0))by rw[l];exact Za _)
 have aj:=D (YV ⟨r,q,0,x⟩ d g)
 clear h g a H b u12 l M L P;change Hid _ at o
 go_wp2_with(rw[←ah.out];refine Jo (Z1 ⟨r,q,0,x⟩ d).toArray ad HAT aj ?_;rw[←o.out])
 refine(ZiD ai (by omega) 8 0 0 1 0 (by decide) (by decide)).mono ?_
 rintro e z ⟨f,av,rfl,h,a,J,_⟩
 rw[show doS s4.1 (Zje 8 0 0 1 0)=s5 from HY5.out]at a⊢
 have b:=aa.step J
 clear J
 rw[Zss s5.2,HF2.out]
 have g:f.oneCell'=true:=by obtain⟨A,c,rfl,_⟩:=h;rfl
 obtain⟨p,N⟩:=Je s5.2.code
 obtain⟨E,Q⟩:=Je s5.2.id
 obtain⟨w,O⟩:=Je s5.2.bytes
 rw[←N,←Q,←O]
 obtain⟨G,C,u13⟩:=ZfQ a (Z1 ⟨p,E,1,w⟩ f).toArray rfl
 obtain⟨au,k⟩:=Je ((z.alloc (.cells #[.int .i64 0, .int .i64 0, .int .i64 0, .slice none 0 0] 31)).setRow z.heap.size (Z1 ⟨p,E,1,w⟩ f).toArray)
 rw[←k]at G C u13
 obtain⟨V,m⟩:=Je z.heap.size
 rw[←m]at C k
 have K:=D G;have af:=D m;have ab:=D C;have ac:=D u13
 have ag:=D (show(z.alloc (.cells #[.int .i64 0, .int .i64 0, .int .i64 0, .slice none 0 0] 31)).heap[V]? =some (.cells #[.int .i64 0, .int .i64 0, .int .i64 0, .slice none 0 0] 31 (0,0))by rw[m];exact Za _)
 have ae:=D (YV ⟨p,E,1,w⟩ f g)
 clear h g a G C u13 m N Q O;change Hid _ at k
 have Z:=D (b.upd0 ac)
 clear b
 go_wp2_with(rw[←af.out];refine Jo (Z1 ⟨p,E,1,w⟩ f).toArray ag HAT ae ?_;rw[←k.out])
 refine(ZrU K (by omega)).mono ?_
 rw[HF3.out]
 rintro e I ⟨ve,Ge,rfl,F,s,an⟩
 rcases F.form with⟨_,h0,_⟩|⟨g8,ar,aq,rfl,_⟩
 ·simp at h0
 simp only[List.map_cons,List.map_nil,List.length_cons,List.length_nil,Nat.zero_add,Nat.reduceAdd]
 have Y:=D (K.upd0 s)
 have k1:I.cell? ⟨g8,1,none⟩=some (.int .i64 10):=(F.liesAt (j:=0) rfl) 1 _ rfl
 have ak:I.cell? ⟨T,2,none⟩=some (.int .i64 0):=(Z.upd0 s).cell rfl
 have al:I.cell? ⟨V,2,none⟩=some (.int .i64 1):=(ab.upd0 s).cell rfl
 clear F s an
 go_wp2_with fail
 refine(Zqr Y).mono ?_
 rintro e wf ⟨rfl,rfl⟩
 rw[HBU.out]
 clear k1 ak al
 have ao:∀(W:World) (c i n:Int) (bs:Bs) (v:Value),(Instr.field 31 (.agg (Z1 ⟨c,i,n,bs⟩ v).toArray) 2).run Tryz.prog W= .ok (.int .i64 n) W:=fun _ _ _ _ _ _=>by kernel_rfl
 go_wp2_with fail
 refine(ZiD Y (by omega) 8 0 0 9223372036854775808 0 (by decide) (by decide)).mono ?_
 rintro e wg ⟨vg,Fg,rfl,_,a,_,_⟩
 rw[Zss (doS s5.1 (Zje 8 0 0 9223372036854775808 0)).2,HF5.out 9223372036854775808]
 obtain⟨sg,X⟩:=Je (doS s5.1 (Zje 8 0 0 9223372036854775808 0))
 rw[←X]at a⊢
 have R:=D a
 clear a X
 go_wp2_with fail
 refine(Zr8 wg R.env).mono ?_
 rintro e wh ⟨rfl,S⟩
 have am:=D ((HU4.trans R.upd).trans S)
 clear S ao
 go_wp2_with fail
 go_ret
 exact⟨rfl,am.out⟩):G_:=h_
def Zsy {G_:Prop} (h_:G_:=by
 go_wp2_with fail
 refine(Zsj h 1000 (by omega) (by omega) _).mono ?_
 rintro e p ⟨rfl,rfl⟩
 rw[←HK.out]
 go_wp2_with fail
 refine(ZiD HR8 (by omega) 8 0 0 (k:Int) 0 (by decide) ⟨by omega,by omega⟩).mono ?_
 rintro e y ⟨x,C,rfl,_,hr,gr,_⟩
 rw[HY1.out]at hr
 have f:=D hr
 have d:=D (Zb.of_block (HOR.step gr).blk)
 clear hr gr
 go_wp2_with(refine Jl d HAR ?_)
 refine(Zri f (by omega) rl HRL.out.1 HRL.out.2.1 HRL.out.2.2.1 HRL.out.2.2.2.1 HRL.out.2.2.2.2).mono ?_
 rintro e g ⟨s,l,rfl,_,hr,_,_⟩
 rw[HY2.out]at hr
 have a:=D hr
 clear hr
 go_wp2_with fail
 refine(Zsj h 2 (by omega) (by omega) _).mono ?_
 rintro e p ⟨rfl,rfl⟩
 cases hzz:z with
 |false=>
  have m:((low h 2:Int)==1)=false:=by rw[←HZB.out];exact hzz
  have HR11:=D (show Run w4 g b s3 3 l by rw[←HY3f.out hzz];exact a)
  clear hzz
  go_upto_region 15 with fail
  exact ZsR
 |true=>
  have m:((low h 2:Int)==1)=true:=by rw[←HZB.out];exact hzz
  have o:=D (HY3.out hzz)
  clear hzz
  go_wp2_with fail
  refine(ZiD a (by omega) 9 0 0 0 0 (by decide) (by decide)).mono ?_
  rintro e q ⟨w,r,rfl,_,hr,_,_⟩
  rw[o.out]at hr
  have HR11:=D hr
  clear hr
  go_upto_region 15 with fail
  exact ZsR):G_:=h_
def Zsz (t m h:Int) (w:World) (hE:Env w):Calls Tryz.prog 4 #[.int .i64 t, .int .i64 m, .int .i64 h] w fun e w'=>e= .returned (.bool true)∧Zg [] w w':=by
 have HE:=D hE
 have HAT:=D Yj;have HAR:=D Yh
 have al:=D (show Zu Tryz.prog 26 7=true by kernel_rfl)
 obtain⟨T,hT⟩:∃T:Nat,T=1+low m 600:=⟨_,rfl⟩
 have ah:1≤T:=by omega
 have aj:T≤600:=by have:=Zsl m 600 (by omega);omega
 obtain⟨k,hk⟩:∃k:Nat,k=low h 1000:=⟨_,rfl⟩
 have av:k<1000:=by have:=Zsl h 1000 (by omega);omega
 obtain⟨a,ad⟩:∃k:Nat,k=low t 601:=⟨_,rfl⟩
 have aN:a≤600:=by have:=Zsl t 601 (by omega);omega
 obtain⟨z,hz⟩:∃z:Bool,z=((low h 2:Int)==1):=⟨_,rfl⟩
 obtain⟨n,C⟩:∃n:Nat,n=tmN T (a:Int):=⟨_,rfl⟩
 have aL:1≤n:=by rw[C];unfold tmN;split<;>omega
 have aK:n≤600:=by rw[C];unfold tmN;split<;>omega
 obtain⟨f1,f2,f3,f4,f5⟩:=ZsF T k (a:Int) z ah aj av (by omega) (by omega)
 obtain⟨s0,Y⟩:=Je (ZrR (tmC T))
 obtain⟨s1,Z⟩:=Je (tm1 T k)
 obtain⟨s2,P⟩:=Je (tm2 T k (a:Int))
 obtain⟨s3,H⟩:=Je (tm3 T k (a:Int) z)
 obtain⟨s4,N⟩:=Je (tm4 T k (a:Int) z)
 obtain⟨s5,ab⟩:=Je (tm5 T k (a:Int) z)
 rw[←N]at f1
 rw[←ab]at f2 f3 f4 f5
 have HY1:=D (show(doS s0 (Zje 8 0 0 (k:Int) 0)).1=s1 by rw[Y,Z,tm1])
 have HY2:=D (show(doS s1 (Ze1 (tmR (a:Int)))).1=s2 by rw[Z,P,tm2])
 have HY3:=D (show z=true→(doS s2 (Zje 9 0 0 0 0)).1=s3 from fun e=>by rw[P,H,tm3,e];rfl)
 have HY3f:=D (show z=false→s2=s3 from fun e=>by rw[P,H,tm3,e];rfl)
 have HY4:=D (show doS s3 (Zje 8 0 0 ((n:Int)-1) 0)=s4 by rw[H,N,tm4,C])
 have HY5:=D (show doS s4.1 (Zje 8 0 0 1 0)=s5 by rw[N,ab,tm5])
 have HF1:=D f1;have HF2:=D f2;have HF3:=D f3;have HF5:=D f5
 have HBU:=D (show(s5.1.pool.busy.length:Int)=0 by rw[f4];rfl)
 have HT:=D hT;have HK:=D hk;have aq:=D ad;have HZB:=D hz;have HN:=D C
 obtain⟨rl,s⟩:=Je (tmR (a:Int))
 have HRL:=D (show rl.headers=[]∧rl.method.length≤900000∧rl.url.length≤900000∧rl.origin.length≤900000∧0≤rl.timeout∧rl.timeout≤18446744073709551615 by
  rw[s];exact⟨rfl,by show(ZmP [] 1).method.length≤_;decide,by show(ZmP [] 1).url.length≤_;decide,by show(ZmP [] 1).origin.length≤_;decide,by show(0:Int)≤a;omega,by show(a:Int)≤_;omega⟩)
 rw[←s]at HY2
 have HG:=D s
 have ax:=D (ZsT T ah aj)
 have aA:=D Y
 clear hE hT hk ad hz C f1 f2 f3 f4 f5 Y Z P H N ab s
 go_in
 go_wp2_with fail
 refine(Zrd w).mono ?_
 rintro e w1 ⟨rfl,G⟩
 obtain⟨d,o⟩:=Je w1.heap.size
 obtain⟨E,I⟩:=Je ((w1.alloc (.cells #[.int .i64 0, .int .u64 0, .int .i64 0, .int .i64 0, .int .u64 0, .int .i64 0, .int .u64 0] 26)).setRow d (ZaT ZjF).toArray)
 have x:E.heap[d]? =some (.cells (ZaT ZjF).toArray 26 (0,0)):=by rw[I,o];exact setRow_heap _ _ _ _ _ _ (Za _)
 have af:Zg [] w E:=by rw[I];exact(G.alloc _).setRow (.inl (by rw[o];exact G.size)) _
 have aH:=D (show(w1.alloc (.cells #[.int .i64 0, .int .u64 0, .int .i64 0, .int .i64 0, .int .u64 0, .int .i64 0, .int .u64 0] 26)).heap[d]? =some (.cells #[.int .i64 0, .int .u64 0, .int .i64 0, .int .i64 0, .int .u64 0, .int .i64 0, .int .u64 0] 26 (0,0))by rw[o];exact Za _)
 obtain⟨w3,K⟩:=Je (E.setCell ⟨d,0,none⟩ (.int .i64 1))
 have q:=Zd (i:=0) x (.int .i64 1)
 rw[←K]at q
 obtain⟨w4,Q⟩:=Je (w3.setCell ⟨d,6,none⟩ (.int .u64 (T:Int)))
 have ak:w4.heap[d]? =some (.cells (ZaT (tmC T)).toArray 26 (0,0)):=by rw[Q,Zd q];rfl
 have V:w.heap.size≤d:=by rw[o];exact G.size
 have ag:Zg [] w w4:=by rw[Q,K];exact(af.setCell (.inl V) _).setCell (.inl V) _
 have aB:=D o;have aF:=D I;have aC:=D K;have aE:=D Q;have aO:=D x;have ac:=D ak;have HU4:=D ag
 have ay:=D (show(ZaT ZjF).toArray.all (·.oneCell')=true by kernel_rfl)
 have d0:E.cell? ⟨d,0,none⟩=some (.int .i64 6):=Zf (i:=0) x rfl
 have g0:E.frozen? ⟨d,0,none⟩=false:=ZS x
 have d6:w3.cell? ⟨d,6,none⟩=some (.int .u64 60):=Zf (i:=6) q rfl
 have g6:w3.frozen? ⟨d,6,none⟩=false:=ZS q
 clear G o I x af K q Q ak ag V
 go_wp2_with(rw[←aB.out];refine Jo (ZaT ZjF).toArray aH al ay ?_;rw[←aF.out])
 refine(Zsj m 600 (by omega) (by omega) _).mono ?_
 rintro e wx ⟨rfl,rfl⟩
 have az:IntKind.i64.wrap (1+(low m 600:Int))=(T:Int):=by rw[HT.out,IntWalk.i64_in _ ⟨by omega,by have:=Zsl m 600 (by omega);omega⟩];omega
 have ao:IntKind.u64.wrap (T:Int)=(T:Int):=IntWalk.u64_in _ (by omega)
 go_upto_region 3 with(rw[←aC.out])
 rw[←aE.out]
 clear d0 g0 d6 g6 az ao
 have am:=D (show Zb w4 d 0 (ZaT (tmC T))from Zb.of_block ac)
 go_wp2_with(refine Jl am al ?_)
 refine(Zq0 (tmC T) ax w4 (HE.upd0 HU4)).mono ?_
 rintro e w5 ⟨b,F5,rfl,hr⟩
 rw[←aA.out]at hr
 have aa:=D hr
 clear hr
 go_wp2_with fail
 refine(Zrm [] 1 (by simp) w5).mono ?_
 rintro e F ⟨rfl,M⟩
 obtain⟨g,l⟩:=Je F.heap.size
 obtain⟨S,R⟩:=Je ((F.alloc (.cells #[.string ⟨#[]⟩, .string ⟨#[]⟩, .string ⟨#[]⟩, .int .i64 0, .bool false, .slice none 0 0, .int .i64 0, .int .u64 0, .int .i64 0, .int .i64 0] 35)).setRow g (Zt (ZmP [] 1) (.slice none 0 0)).toArray)
 have L:S.heap[g]? =some (.cells (Zt (ZmP [] 1) (.slice none 0 0)).toArray 35 (0,0)):=by rw[R,l];exact setRow_heap _ _ _ _ _ _ (Za _)
 have aG:=D (show(F.alloc (.cells #[.string ⟨#[]⟩, .string ⟨#[]⟩, .string ⟨#[]⟩, .int .i64 0, .bool false, .slice none 0 0, .int .i64 0, .int .u64 0, .int .i64 0, .int .i64 0] 35)).heap[g]? =some (.cells #[.string ⟨#[]⟩, .string ⟨#[]⟩, .string ⟨#[]⟩, .int .i64 0, .bool false, .slice none 0 0, .int .i64 0, .int .u64 0, .int .i64 0, .int .i64 0] 35 (0,0))by rw[l];exact Za _)
 obtain⟨p,O⟩:=Je (S.setCell ⟨g,7,none⟩ (.int .u64 (a:Int)))
 have ae:p.heap[g]? =some (.cells (Zt rl (.slice none 0 0)).toArray 35 (0,0)):=by rw[O,Zd L,HG.out];rfl
 have X:Zg [] F p:=by rw[O,R];exact(((Zg.refl [] F).alloc _).setRow (.inl (by rw[l];exact Xi _)) _).setCell (.inl (by rw[l];exact Xi _)) _
 have HR8:=D ((aa.upd0 M).upd0 X)
 have HOR:=D (show Own p g (Zt rl (.slice none 0 0)).toArray 35 F5 from⟨ae,fun hm=>by have:=(aa.upd0 M).lt _ hm;omega⟩)
 have ai:p.heap[d]? =some (.cells (ZaT (tmC T)).toArray 26 (0,0)):=by
  have h5:=Kv aa.upd ac
  have h6:=Kv M h5
  exact(Kv X h6)
 have aw:=D (show(Zt (ZmP [] 1) (.slice none 0 0)).toArray.all (·.oneCell')=true by kernel_rfl)
 have d7:S.cell? ⟨g,7,none⟩=some (.int .u64 0):=Zf (i:=7) L rfl
 have g7:S.frozen? ⟨g,7,none⟩=false:=ZS L
 have c6:p.cell? ⟨d,6,none⟩=some (.int .u64 (T:Int)):=Zf (i:=6) ai rfl
 have r7:p.cell? ⟨g,7,none⟩=some (.int .u64 (a:Int)):=HOR.cell (by rw[HG.out];rfl)
 have an:=D l;have aD:=D R;have ap:=D O
 clear M l R L O ae X ai
 go_wp2_with(rw[←an.out];refine Jo (Zt (ZmP [] 1) (.slice none 0 0)).toArray aG HAR aw ?_;rw[←aD.out])
 refine(Zsj t 601 (by omega) (by omega) _).mono ?_
 rintro e wx ⟨rfl,rfl⟩
 rw[←aq.out]
 have au:IntKind.u64.wrap (a:Int)=(a:Int):=IntWalk.u64_in _ (by omega)
 go_upto_region 8 with fail
 rw[←ap.out]
 clear d7 g7 au
 have aI:IntKind.u64.wrap (k:Int)=(k:Int):=IntWalk.u64_in _ (by omega)
 have aJ:IntKind.u64.wrap ((n:Int)-1)=(n:Int)-1:=IntWalk.u64_in _ (by omega)
 have s:∀(r:Ya) (v:Value),(Zt r v).length=10:=fun _ _=>rfl
 by_cases hb:0<a∧a<T
 ·have y:decide ((0:Int)<(a:Int))=true:=decide_eq_true (by omega)
  have y2:decide ((a:Int)<(T:Int))=true:=decide_eq_true (by omega)
  have J:=D (show(a:Int)=(n:Int)by rw[HN.out];unfold tmN;rw[if_neg (by omega)];omega)
  obtain⟨ar,aM⟩:=hb
  go_upto_region 11 with fail
  rw[J.out]
  clear y y2 c6 r7
  exact Zsy
 ·have J:=D (show(T:Int)=(n:Int)by rw[HN.out];unfold tmN;split<;>omega)
  by_cases ar:0<a
  ·have y:decide ((0:Int)<(a:Int))=true:=decide_eq_true (by omega)
   have y2:decide ((a:Int)<(T:Int))=false:=decide_eq_false (by omega)
   go_upto_region 11 with fail
   rw[J.out]
   clear y y2 c6 r7
   exact Zsy
  ·have y:decide ((0:Int)<(a:Int))=false:=decide_eq_false (by omega)
   go_upto_region 11 with fail
   rw[J.out]
   clear y c6 r7
   exact Zsy
def Zsr (w:World) (t:Int) (ht:(Lit.int .i64 t).wf=true) (m:Int) (hm:(Lit.int .i64 m).wf=true) (h:Int) (hh:(Lit.int .i64 h).wf=true) (hE:Env w):Calls Tryz.prog 4 #[.int .i64 t, .int .i64 m, .int .i64 h] w fun e w'=>e= .returned (.bool true)∧Below w.heap.size w w':=
 (Zsz t m h w hE).mono fun e w' h=>⟨h.1,h.2.below (by simp)⟩
end Go.Proofs.YtlhapbopmplngaaGreatDoor
namespace Go.Proofs.YtlhapbopmplngaaGreatDoor.schedTimes
open Go.ChangeShapes Go.WideShapes Go.ChangeAt Go.RowKit Go.Lk
open Go.ChangeMaps (open_string shut_string)
def own:ownKnob Tryz.prog.godebug=none:=by kernel_rfl
def lifted (os:Os) (started:os.Started) (H:Type) (enc:TypeId×Value→H):
  ReturnsInHanded {} Tryz.checked os 4 .any (fun w args=>(Rows.schedTimesSpec.pre enc Tryz.prog Tryz.f4 Rows.schedTimesRow.domain false w args∧laidMetH Tryz.prog Rows.schedTimesRow.laid w)∧sizedMet enc Tryz.prog Tryz.f4 (OpenSpec.ofChange Rows.schedTimesSpec) false w args) (Rows.schedTimesSpec.post enc Tryz.prog Tryz.f4 false true false false):=by
 refine Zfe (C:= Tryz.checked) (X:=fun w _=>laidMetH Tryz.prog Rows.schedTimesRow.laid w) (fun _ _ _ P h=>h.of_heap P) own started (by kernel_rfl) Tryz.func4
  (ChangeSpec.witness_shaped (enc:=enc) (C:= Tryz.checked) (os:=os) (X:=fun w _=>laidMetH Tryz.prog Rows.schedTimesRow.laid w) false (World.laidAll Tryz.prog os Rows.schedTimesRow.laid) #[.int .i64 0, .int .i64 0, .int .i64 0] 8 (World.laidAll_os _ _ _)
   (World.shaped_of_ZipB (by kernel_rfl) (by kernel_rfl)) (by kernel_rfl) (by kernel_rfl) (by kernel_rfl)
   (by rw[MakeChecks.laidMetH_plain _ _ _ (by kernel_rfl)];exact laidMet_laidAll _ (by kernel_rfl) (by kernel_rfl))) ?_
 intro W r args S gs T b i Y _ G s _
 have K:Env W:=Zsf G s
 have a:∀(j:Nat) t v,Tryz.f4.params[j]? =some t→args[j]? =some v→Value.okWide Tryz.prog W .any r t v:=b
 have x:=i
 obtain⟨p,q,c,L,rfl,ac,ab⟩:=i
 have o:DataW.TrodAll enc Tryz.prog W 0 (fun _=>true) true Tryz.f4.params.toList args.toList S p:=c
 rw[Tryz.params4]at o a
 obtain⟨l,af,d0,Z,p0,q0,V,rfl,rfl,z,O⟩:=trodAll_cons o
 obtain⟨g,ad,d1,aa,p1,q1,rfl,rfl,rfl,N,M⟩:=trodAll_cons O
 obtain⟨d,ag,d2,ae,p2,q2,rfl,rfl,rfl,J,R⟩:=trodAll_cons M
 obtain⟨rfl,rfl,rfl⟩:=trodAll_nil R
 obtain rfl:args= #[l,g,d]:=by cases args;simp_all
 obtain⟨rfl,rfl⟩:=trodVars_none L
 obtain⟨I,rfl,rfl,rfl,m⟩:=open_int Tryz.underlying3 (a 0 3 l rfl rfl) z
 obtain⟨F,rfl,rfl,rfl,k⟩:=open_int Tryz.underlying3 (a 1 3 g rfl rfl) N
 obtain⟨E,rfl,rfl,rfl,n⟩:=open_int Tryz.underlying3 (a 2 3 d rfl rfl) J
 clear c b
 refine(Zsr W I m F k E n K).mono fun e W' ⟨Q,y⟩=> ?_
 subst Q
 exact⟨_,rfl,_,_,_,[],_,[],x,trodAll_mk1 (shut_bool Tryz.underlying4 _),(trodAll_cons_mk (shut_int Tryz.underlying3 m) (trodAll_cons_mk (shut_int Tryz.underlying3 k) (trodAll_cons_mk (shut_int Tryz.underlying3 n) trodAll_mk0))),rfl,y.frame _,fun h=>by cases h⟩
def Zsp {a b:Bool} (h:a=true) (k:b=true):(a&&b)=true:=by rw[h,k];rfl
def jf0:(Rows.schedTimesRow.wf (OpenSpec.ofChange Rows.schedTimesSpec))=true:=by kernel_rfl
def jf1:(laidOutB Tryz.prog)=true:=by kernel_rfl
def jf2:(mapsRowed Tryz.prog)=true:=by kernel_rfl
def jf3:(Tryz.f4.params.all (Tryz.prog.readableRec ·))=true:=by kernel_rfl
def jf4:(namedTie Tryz.prog Rows.schedTimesRow.named Rows.schedTimesSpec.vars)=true:=by kernel_rfl
def jf5:((Rows.schedTimesRow.stops==[]))=true:=by kernel_rfl
def jf6:((Tryz.prog.stops==[]))=true:=by kernel_rfl
def jf7:((Rows.schedTimesRow.knobs==[]))=true:=by kernel_rfl
def jf8:((Tryz.prog.stopKnobs==[]))=true:=by kernel_rfl
def jf9:((Rows.schedTimesRow.inPlace== Tryz.prog.inPlace 4))=true:=by kernel_rfl
def ZsY:((Rows.schedTimesRow.unfollowed== Tryz.prog.unfollowed 4))=true:=by kernel_rfl
def Zte:((Rows.schedTimesRow.recurses== Tryz.prog.recurses 4))=true:=by kernel_rfl
def Zs3:((Rows.schedTimesRow.named== Tryz.prog.varsNamed 4))=true:=by kernel_rfl
def Zs5:((Rows.schedTimesRow.maps==(Tryz.f4.params.toList++Rows.schedTimesSpec.plain.varTypes Tryz.prog).any (Tryz.prog.mapsRec ·)))=true:=by kernel_rfl
def Zs8:((Rows.schedTimesRow.ifaces==(Tryz.f4.params.toList++Rows.schedTimesSpec.plain.varTypes Tryz.prog).any (Tryz.prog.ifacesRec ·)))=true:=by kernel_rfl
def Zth:((Rows.schedTimesRow.mapsOut== Tryz.prog.mapsAmong Tryz.f4.resultTypes.toList))=true:=by kernel_rfl
def Ztb:((Rows.schedTimesRow.loops==(Tryz.f4.params.toList++Rows.schedTimesSpec.plain.varTypes Tryz.prog).any (Tryz.prog.loopsFrom ·)))=true:=by kernel_rfl
def Ztc:((Rows.schedTimesRow.wideKeys==(Tryz.f4.params.toList++Rows.schedTimesSpec.plain.varTypes Tryz.prog++ Tryz.f4.resultTypes.toList).any (Tryz.prog.wideKeysFrom ·)))=true:=by kernel_rfl
def Zs7:(Rows.schedTimesSpec.vars.all (Tryz.prog.varReadable ·))=true:=by kernel_rfl
def Zta:(Tryz.f4.resultTypes.all (fun t=> Tryz.prog.readableRec t&&decide (t< Tryz.prog.types.size)))=true:=by kernel_rfl
def Zs9:((Rows.schedTimesRow.ifacesOut== Tryz.f4.resultTypes.toList.any (Tryz.prog.ifacesRec ·)))=true:=by kernel_rfl
def Zs1:((Rows.schedTimesRow.loopsOut== Tryz.f4.resultTypes.toList.any (Tryz.prog.loopsFrom ·)))=true:=by kernel_rfl
def Zti:((Rows.schedTimesRow.plainKeys== Tryz.prog.plainKeys))=true:=by kernel_rfl
def ZsZ:(Rows.schedTimesRow.shortTexts.isNone)=true:=by kernel_rfl
def Ztd:(Tryz.prog.stopsHeard)=true:=by kernel_rfl
def Ztg:(Tryz.prog.mayEnter)=true:=by kernel_rfl
def Ztf:((Rows.schedTimesRow.lifted== Tryz.prog.liftsFinal))=true:=by kernel_rfl
def Zs0:((Tryz.prog.make==some Rows.schedTimesRow.make))=true:=by kernel_rfl
def Ztj:((Rows.schedTimesRow.pinned==Rows.schedTimesRow.pinnedBy))=true:=by kernel_rfl
def Zs6:((Rows.schedTimesRow.veiled==(Tryz.f4.params.toList++Rows.schedTimesSpec.plain.varTypes Tryz.prog++ Tryz.f4.resultTypes.toList).any (Tryz.prog.veiledRec ·)))=true:=by kernel_rfl
def Zs2:(Rows.schedTimesRow.veiledFits Tryz.prog Tryz.f4.params.toList (Tryz.f4.params.toList++Rows.schedTimesSpec.plain.varTypes Tryz.prog++ Tryz.f4.resultTypes.toList))=true:=by kernel_rfl
def ZsU:joinedFacts Tryz.prog 4 Tryz.f4 Rows.schedTimesSpec Rows.schedTimesRow=true:=by
 unfold joinedFacts
 exact Zsp (Zsp (Zsp (Zsp (Zsp (Zsp (Zsp (Zsp (Zsp (Zsp (Zsp (Zsp (Zsp (Zsp (Zsp (Zsp (Zsp (Zsp (Zsp (Zsp (Zsp (Zsp (Zsp (Zsp (Zsp (Zsp (Zsp (Zsp (Zsp (Zsp (Zsp (jf0) jf1) jf2) jf3) jf4) jf5) jf6) jf7) jf8) jf9) ZsY) Zte) Zs3) Zs5) Zs8) Zth) Ztb) Ztc) Zs7) Zta) Zs9) Zs1) Zti) ZsZ) Ztd) Ztg) Ztf) Zs0) (by as_aux_lemma=>kernel_rfl)) Ztj) Zs6) Zs2
def Zs4:Rows.SchedTimesSaid:=
 OpenClaim.holds_of_wide 4 Tryz.f4 rfl rfl rfl rfl rfl rfl rfl ⟨rfl,rfl,rfl,rfl,rfl⟩ rfl rfl rfl rfl rfl (by as_aux_lemma=>kernel_rfl) Tryz.func4 ZsU
  (of_decide_eq_true (by kernel_rfl)) (by unfold Func.isWrapper;first|(rw[if_pos (by decide+kernel)];kernel_rfl)|(rw[if_neg (by decide+kernel)];exact⟨rfl,rfl⟩))
  (fun os started H enc _=>lifted os started H enc)
def ZsG {P:Program} (h:P.funcs.any Func.goes=false) (f:FuncId):P.goes f=false:=by
 unfold Program.goes
 rw[h,Bool.and_false,Bool.or_false,List.any_eq_false]
 intro g _
 cases hg:P.funcs[g]? with
 |none=>simp
 |some fn=>
  have a:=Array.any_eq_false.1 h g (Jg hg)
  rw[(Array.getElem?_eq_some_iff.1 hg).2]at a
  simpa using a
def pf: Tryz.prog.funcs.any Func.goes=false:=by kernel_rfl
def pg:false=Rows.schedTimesRow.goesBy Tryz.prog:=by
 unfold OpenClaim.goesBy Program.goesAt Program.goesFrom
 cases Tryz.prog.funcNamed Rows.schedTimesRow.func with
 |none=>rfl
 |some f=>rw[Option.any_some,ZsG pf];rfl
def pw:Rows.schedTimesRow.wfByText (OpenSpec.ofChange Rows.schedTimesSpec)=true:=by kernel_rfl
def pm: Tryz.prog.mainIs=some (Rows.schedTimesCard.stood.harness.1,Rows.schedTimesCard.stood.harness.2.toList):=by kernel_rfl
def pl:false= Tryz.prog.looks []:=by kernel_rfl
theorem proved:Rows.SchedTimesCardSaid:=
 Claim7.holds_tied_plain_at .later [] Rows.schedTimesCard.laidKinds true Rows.schedTimesCard.stood.harness false Zs4 (fun _ h=>by cases h) pw (fun _ h=>by cases h) schedTimes_row_tie rfl ⟨rfl,rfl⟩ pm rfl
  (fun f fn hf hfn=>by
   obtain rfl:f= 4:=Option.some.inj ((show Tryz.prog.funcNamed "lockkeeper/lockkeeperlaw26.SchedTimes"=some 4 by kernel_rfl).symm.trans hf)|>.symm
   obtain rfl:fn= Tryz.f4:=(Option.some.inj (Tryz.func4.symm.trans hfn)).symm
   exact⟨pl,fun j t ht=>by
    rw[Tryz.params4]at ht
    have hm:t∈[3,3,3]:=by simpa using Array.mem_of_getElem? ht
    have hall:([3,3,3].all fun u=> !Tryz.prog.wantsStandIn u)=true:=by kernel_rfl
    exact(show Tryz.prog.wantsStandIn t=false by simpa using Xk.1 hall t hm)⟩)
  pg
end Go.Proofs.YtlhapbopmplngaaGreatDoor.schedTimes
