import Derived.Test.YtlhapbopmplngaaGreatDoorS45
import Derived.Test.YtlhapbopmplngaaGreatDoorS46
set_option linter.all false
set_option maxHeartbeats 16000000
set_option maxRecDepth 100000
set_option autoImplicit true
set_option relaxedAutoImplicit true
namespace Go.Lk
open Go.RowKit
abbrev Zej (k:Int):Prop:=k=1∨k=3∨k=4∨k=5∨k=8∨k=9∨k=10∨k=12
def ZQ.doR (h:ZQ s n m) (hs:Safe s) (ha:ZdS a) (hop:Zej a.op):ZQ (doS s a).1 (n+2*m+800) (m+1):=by
 unfold Zej at hop
 have c:∀{s:Ze} {k j:Nat},ZQ s k j→k≤n+2*m+800→j≤m+1→ZQ s (n+2*m+800) (m+1):=fun h b z=>h.mono b z
 unfold doS
 have b:ZQ {s with acts:=s.acts+1} n m:={h with log:=h.log}
 have e:Safe {s with acts:=s.acts+1}:=hs
 generalize({s with acts:=s.acts+1}:Ze)=s1 at b e⊢
 have d:=c b (by omega) (by omega)
 show ZQ (ite _ _ _:Ze×Zal).1 _ _
 by_cases q:a.op=1
 ·rw[if_pos q]
  split
  ·exact d
  ·rename_i hg
   refine{d with gl:= ?_,gm:= ?_,made:= ?_}
   ·show(s1.groups++[_]).length≤64;rw[Xd];simp;omega
   ·intro x hx
    rcases List.mem_append.1 hx with hx|hx
    ·exact d.gm x hx
    ·rw[Jm hx];exact⟨Xn _,List.Pairwise.nil⟩
   ·show((s1.groups.length:Int)+1)=((s1.groups++[_]).length:Nat);rw[Xd];simp
 rw[if_neg q]
 by_cases A:a.op=2
 ·omega
 rw[if_neg A]
 by_cases i:a.op=3
 ·rw[if_pos i]
  exact c (b.submit e ha.req) (by omega) (by omega)
 rw[if_neg i]
 by_cases r:a.op=4
 ·rw[if_pos r]
  exact c (b.activate _) (by omega) (by omega)
 rw[if_neg r]
 by_cases o:a.op=5
 ·rw[if_pos o]
  exact c (b.load _) (by omega) (by omega)
 rw[if_neg o]
 by_cases C:a.op=6
 ·omega
 rw[if_neg C]
 by_cases E:a.op=7
 ·omega
 rw[if_neg E]
 by_cases p:a.op=8
 ·rw[if_pos p]
  exact c (b.tick _) (by omega) (by omega)
 rw[if_neg p]
 by_cases l:a.op=9
 ·rw[if_pos l]
  exact c b.step (by omega) (by omega)
 rw[if_neg l]
 by_cases f:a.op=10
 ·rw[if_pos f]
  exact c (b.answer _ _ _) (by omega) (by omega)
 rw[if_neg f]
 by_cases y:a.op=11
 ·omega
 rw[if_neg y]
 by_cases g:a.op=12
 ·rw[if_pos g]
  exact c (b.tail _) (by omega) (by omega)
 rw[if_neg g]
 by_cases t:a.op=13
 ·omega
 rw[if_neg t]
 by_cases w:a.op=14
 ·omega
 rw[if_neg w]
 exact d
def Safe.doR (h:Safe s) (a:ZaY) (hop:Zej a.op):Safe (Lk.doS s a).1:=by
 unfold Zej at hop
 unfold Lk.doS
 have b:Safe {s with acts:=s.acts+1}:=h
 generalize({s with acts:=s.acts+1}:Ze)=s0 at b⊢
 dsimp only
 by_cases l:a.op=1
 ·rw[if_pos l]
  split
  ·exact b
  ·refine⟨b.1,b.2.groups (fun g hg=> ?_)⟩
   rcases List.mem_append.1 hg with hg|hg
   ·exact b.2.grp g hg
   ·rw[Jm hg];intro x hx;cases hx
 rw[if_neg l]
 by_cases q:a.op=2
 ·omega
 rw[if_neg q]
 by_cases j:a.op=3
 ·rw[if_pos j];exact b.submitS _
 rw[if_neg j]
 by_cases i:a.op=4
 ·rw[if_pos i];exact b.activateS _
 rw[if_neg i]
 by_cases e:a.op=5
 ·rw[if_pos e];exact b.loadS _
 rw[if_neg e]
 by_cases r:a.op=6
 ·omega
 rw[if_neg r]
 by_cases p:a.op=7
 ·omega
 rw[if_neg p]
 by_cases f:a.op=8
 ·rw[if_pos f];exact b.tickS _
 rw[if_neg f]
 by_cases k:a.op=9
 ·rw[if_pos k];exact b.stepS
 rw[if_neg k]
 by_cases d:a.op=10
 ·rw[if_pos d];exact b.answerS _ _ _
 rw[if_neg d]
 by_cases n:a.op=11
 ·omega
 rw[if_neg n]
 by_cases c:a.op=12
 ·rw[if_pos c];exact b.tailS _
 rw[if_neg c]
 by_cases o:a.op=13
 ·omega
 rw[if_neg o]
 by_cases m:a.op=14
 ·omega
 rw[if_neg m]
 exact b
def Zmr (s:Ze) (a:ZaY) (hop:Zej a.op) (h8:a.op≠8):Zq {s with acts:=s.acts+1} (doS s a).1:=by
 unfold Zej at hop
 unfold doS
 generalize({s with acts:=s.acts+1}:Ze)=s1
 show Zq s1 (ite _ _ _:Ze×Zal).1
 by_cases h:a.op=1
 ·rw[if_pos h]
  split
  ·exact Zq.refl _
  ·exact .of rfl rfl rfl rfl
 rw[if_neg h]
 by_cases m:a.op=2
 ·omega
 rw[if_neg m]
 by_cases e:a.op=3
 ·rw[if_pos e]
  exact Zq.submit _ _
 rw[if_neg e]
 by_cases i:a.op=4
 ·rw[if_pos i]
  exact Zq.activate _ _
 rw[if_neg i]
 by_cases g:a.op=5
 ·rw[if_pos g]
  exact Zq.load _ _
 rw[if_neg g]
 by_cases n:a.op=6
 ·omega
 rw[if_neg n]
 by_cases o:a.op=7
 ·omega
 rw[if_neg o]
 by_cases b:a.op=8
 ·rw[if_pos b]
  exact absurd b h8
 rw[if_neg b]
 by_cases f:a.op=9
 ·rw[if_pos f]
  exact Zq.stepF _ _ _ _
 rw[if_neg f]
 by_cases d:a.op=10
 ·rw[if_pos d]
  exact Zq.answer _ _ _ _
 rw[if_neg d]
 by_cases l:a.op=11
 ·omega
 rw[if_neg l]
 by_cases c:a.op=12
 ·rw[if_pos c]
  exact Zq.tail _ _
 rw[if_neg c]
 by_cases j:a.op=13
 ·omega
 rw[if_neg j]
 by_cases k:a.op=14
 ·omega
 rw[if_neg k]
 exact Zq.refl _
def Zn4 (s:Ze) (a:ZaY) (hop:Zej a.op):(doS s a).1.acts=s.acts+1∧(doS s a).1.conf=s.conf∧s.log<+:(doS s a).1.log:=by
 by_cases b:a.op=8
 ·rw[Zqj s a b]
  have h:=Zot {s with acts:=s.acts+1} a.time.toNat
  exact⟨h.acts,h.conf,h.log⟩
 ·have h:=Zmr s a hop b
  exact⟨h.acts,h.conf,h.log⟩
end Go.Lk
namespace Go.Proofs.YtlhapbopmplngaaGreatDoor
open Go.RowKit Go.Lk
def Zo5 (h:Zh w b P none s va vp vl F) (hfit:ZQ s n m) (hs:Lk.Safe s) (hE:Env w) (hn:n≤500000) (hm:m≤10000) (hac:0≤s.acts∧s.acts≤1000000) (a:ZaY) (hop:Zej a.op) (hafit:ZdS a) {ch:Nat} (ho:ZlP w F a Ai ci Ah ch Ab cb vr):
  Calls Tryz.prog 11 #[.pointer (some ⟨b,0,none⟩), .agg (Zcm a (.slice Ai a.ids.length ci) (.slice Ah a.headers.length ch) (.slice Ab a.bytes.length cb) vr).toArray] w (ZeR b P (doS s a).1 (doS s a).2 w F):=by
 obtain⟨e,c,d,g,L,s1,z⟩:=ZfB (vi:= .slice Ai a.ids.length ci) (vh:= .slice Ah a.headers.length ch) (vb:= .slice Ab a.bytes.length cb) (vr:=vr) h hfit hs hE hn hm hac hafit
 obtain⟨e,c,d,g,L,s1,z⟩:=ZfB (vi:= .slice Ai a.ids.length ci) (vh:= .slice Ah a.headers.length ch) (vb:= .slice Ab a.bytes.length cb) (vr:=vr) h hfit hs hE hn hm hac hafit
 obtain⟨e,c,d,g,L,s1,z⟩:=ZfB (vi:= .slice Ai a.ids.length ci) (vh:= .slice Ah a.headers.length ch) (vb:= .slice Ab a.bytes.length cb) (vr:=vr) h hfit hs hE hn hm hac hafit
 obtain⟨e,c,d,g,L,s1,z⟩:=ZfB (vi:= .slice Ai a.ids.length ci) (vh:= .slice Ah a.headers.length ch) (vb:= .slice Ab a.bytes.length cb) (vr:=vr) h hfit hs hE hn hm hac hafit
 obtain⟨e,c,d,g,L,s1,z⟩:=ZfB (vi:= .slice Ai a.ids.length ci) (vh:= .slice Ah a.headers.length ch) (vb:= .slice Ab a.bytes.length cb) (vr:=vr) h hfit hs hE hn hm hac hafit
 obtain⟨e,c,d,g,L,s1,z⟩:=ZfB (vi:= .slice Ai a.ids.length ci) (vh:= .slice Ah a.headers.length ch) (vb:= .slice Ab a.bytes.length cb) (vr:=vr) h hfit hs hE hn hm hac hafit
 obtain⟨e,c,d,g,L,s1,z⟩:=ZfB (vi:= .slice Ai a.ids.length ci) (vh:= .slice Ah a.headers.length ch) (vb:= .slice Ab a.bytes.length cb) (vr:=vr) h hfit hs hE hn hm hac hafit
 by_cases p:a.op=1
 ·exact Zp4 z p
 by_cases E:a.op=2
 ·unfold Zej at hop;omega
 by_cases r:a.op=3
 ·exact ZoV z ho.req ho.orq r
 by_cases l:a.op=4
 ·exact Zma z l
 by_cases q:a.op=5
 ·exact Zrx z q
 by_cases C:a.op=6
 ·unfold Zej at hop;omega
 by_cases G:a.op=7
 ·unfold Zej at hop;omega
 by_cases o:a.op=8
 ·exact Zrn z o
 by_cases k:a.op=9
 ·exact ZrA z k
 by_cases i:a.op=10
 ·exact ZpF z ho.hds ho.oh i
 by_cases y:a.op=11
 ·unfold Zej at hop;omega
 by_cases j:a.op=12
 ·exact ZrK z j
 by_cases t:a.op=13
 ·unfold Zej at hop;omega
 by_cases x:a.op=14
 ·unfold Zej at hop;omega
 unfold Zej at hop;omega
end Go.Proofs.YtlhapbopmplngaaGreatDoor
