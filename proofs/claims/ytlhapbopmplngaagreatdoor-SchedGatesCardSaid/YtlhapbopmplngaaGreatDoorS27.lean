import Derived.Conc.MuLone
import Derived.Test.YtlhapbopmplngaaGreatDoorS11
import Derived.Test.YtlhapbopmplngaaGreatDoorS25
set_option linter.all false
set_option maxHeartbeats 16000000
set_option maxRecDepth 100000
set_option autoImplicit true
set_option relaxedAutoImplicit true
namespace Go.Proofs.YtlhapbopmplngaaGreatDoor
open Go.RowKit Go.Lk
def Zmt (w:World) (sb b rb S ps pd:Nat) (high low state:Int) (paused:Bool) (x5 x6 x7:Value) (q:List UInt8)
  (hs:w.heap[sb]? =some (.cells #[.pointer (some ⟨b,0,none⟩), .int .i64 high, .int .i64 low, .int .i64 state, .bool paused,x5,x6,x7] 171 (0,0)))
  (hr:Ring w b rb S q) (hps:w.heap[ps]? =some (.cells #[.pointer (some ⟨sb,0,none⟩)] 92 (0,0))) (hpd:w.heap[pd]? =some (.cells #[.bool false] 4 (0,0)))
  (n1:sb≠b) (n2:sb≠rb) (n3:ps≠b) (n4:pd≠b) (n5:pd≠sb) (n6:pd≠ps) (n7:ps≠sb) (n8:ps≠rb) (n9:pd≠rb):
  Calls Tryz.prog 207 #[.pointer (some ⟨ps,0,none⟩), .pointer (some ⟨pd,0,none⟩)] w fun e w'=>e= .returned (.tuple #[])∧
   (w'.heap[sb]? =some (.cells #[.pointer (some ⟨b,0,none⟩), .int .i64 high, .int .i64 low, .int .i64 3, .bool false,x5,x6,x7] 171 (0,0))∧
    Ring w' b rb S []∧w'.heap[pd]? =some (.cells #[.bool true] 4 (0,0))∧Zg [sb,b,pd] w w'):=by
 have n:w.cell? ⟨sb,0,none⟩=_:=Zf (i:=0) hs rfl
 have p:w.cell? ⟨ps,0,none⟩=_:=Zf (i:=0) hps rfl
 go_in
 go_wp2_with fail
 refine(Zns hr).mono ?_
 rintro e a ⟨rfl,l,d⟩
 have c:a.heap[sb]? =_:=(d.block sb (lt_of_block hs) (by simpa using n1)).trans hs
 have k:a.heap[ps]? =_:=(d.block ps (lt_of_block hps) (by simpa using n3)).trans hps
 have j:a.heap[pd]? =_:=(d.block pd (lt_of_block hpd) (by simpa using n4)).trans hpd
 have m:a.cell? ⟨ps,0,none⟩=_:=Zf (i:=0) k rfl
 have H:a.cell? ⟨sb,3,none⟩=_:=Zf (i:=3) c rfl
 have J:a.cell? ⟨sb,4,none⟩=_:=Zf (i:=4) c rfl
 have r:a.cell? ⟨pd,0,none⟩=_:=Zf (i:=0) j rfl
 have E:=Kf 3 c
 have I:=Kf 4 c
 have C:=Kf 0 j
 have s:=D l;have o:=D d
 clear n p k l d;change Hid _ at c j
 go_wp2_with fail
 refine Jr [0,4,8,12,17,20,24,30,34] (fun W=>W.cell? ⟨ps,0,none⟩=some (.pointer (some ⟨sb,0,none⟩))) m ?_
 repeat first|refine Jn ?_|refine Jf ?_|refine Ju ?_
 refine JE ?_
 simp only[Xu]
 go_wp2_with fail
 refine⟨_,fun _ h=>h,?_,?_⟩
 ·have:(a.setCell ⟨sb,3,none⟩ (.int .i64 3)).cell? ⟨ps,0,none⟩=some (.pointer (some ⟨sb,0,none⟩)):=by
   rw[World.cell?_setCell_other _ _ _ _ (by simp[Ne.symm n7])];exact m
  exact this
 repeat first|refine Jn ?_|refine Jf ?_|refine Ju ?_
 refine JL ?_
 go_wp2_with fail
 refine⟨fun _=>True,trivial,?_⟩
 have g:sb≠pd:=Ne.symm n5
 have y:((a.setCell ⟨sb,3,none⟩ (.int .i64 3)).setCell ⟨sb,4,none⟩ (.bool false)).cell? ⟨pd,0,none⟩=some (.bool false):=by
  rw[World.cell?_setCell_other _ _ _ _ (by simp[g]),World.cell?_setCell_other _ _ _ _ (by simp[g])];exact r
 refine JL ?_
 go_wp2
 refine Jz ?_
 go_wp2
 go_end0
 have z:∀x:Addr,True:=fun _=>trivial
 refine⟨rfl,?_,?_,?_,?_⟩
 ·simp only[ZjU]
  rw[Z4 _ n5,Zd (Zd c _)];rfl
 ·refine s.upd (F:=[sb,pd]) ((((Zg.refl _ _).setCell (.inr (by simp)) _).setCell (.inr (by simp)) _).setCell (.inr (by simp)) _).drew (by simp;omega) (by simp;omega)
 ·simp only[ZjU]
  rw[Zd (show((a.setCell ⟨sb,3,none⟩ (.int .i64 3)).setCell ⟨sb,4,none⟩ (.bool false)).heap[pd]? =some (.cells #[.bool false] 4 (0,0))by rw[Z4 _ g,Z4 _ g];exact j)];rfl
 ·exact((((o.weaken (G:=[sb,b,pd]) (by simp)).setCell (.inr (by simp)) _).setCell (.inr (by simp)) _).setCell (.inr (by simp)) _).drew
def ZpN {sb b rb high low:Nat} {state:Int} {paused:Bool} {q:List UInt8} (hs:ZdY w sb b rb high low state paused 0 q):
  Calls Tryz.prog 133 #[.pointer (some ⟨sb,0,none⟩)] w fun e w'=>e= .returned (.bool true)∧ZdY w' sb b rb high low 3 false 1 []∧Zg [sb,b] w w':=by
 have I:∀(fn:Fn) (first cap:Array Value) (w:World),(Instr.makeFunc fn first cap).run Tryz.prog w= .ok (.func fn first cap) w:=fun _ _ _ _=>rfl
 have E:=lt_of_block hs.hb
 have J:=hs.ring.lt
 go_in
 go_wp2_with fail
 obtain⟨W,c⟩:=Je ((w.alloc (.cells #[.pointer (some ⟨sb,0,none⟩)] 92)).alloc (.cells #[.bool false] 4))
 have j:Zg [] w W:=by rw[c];exact((Zg.refl _ _).alloc _).alloc _
 have n:W.heap[w.heap.size]? =some (.cells #[.pointer (some ⟨sb,0,none⟩)] 92 (0,0)):=by rw[c,Zz _ (by simp),Za]
 have o:W.heap[w.heap.size+1]? =some (.cells #[.bool false] 4 (0,0)):=by
  have:=Za (w:=w.alloc (.cells #[.pointer (some ⟨sb,0,none⟩)] 92)) (.cells #[.bool false] 4 (0,0))
  rw[World.size_alloc]at this
  rw[c];exact this
 have K:W.heap.size=w.heap.size+2:=by rw[c];simp
 rw[←c]
 clear c
 have a:=(j.block sb E (by simp)).trans hs.hb
 have r:(W.setCell ⟨sb,6,none⟩ (.int .i32 1)).heap[sb]? =some (.cells #[.pointer (some ⟨b,0,none⟩), .int .i64 (high:Int), .int .i64 (low:Int), .int .i64 state, .bool paused, .int .u32 0, .int .i32 1, .int .u32 0] 171 (0,0)):=by
  rw[Zd a];rfl
 have h:Zg [sb] W (W.setCell ⟨sb,6,none⟩ (.int .i32 1)):=(Zg.refl _ _).setCell (.inr (by simp)) _
 have s:Ring (W.setCell ⟨sb,6,none⟩ (.int .i32 1)) b rb (high+63) q:=(hs.ring.upd j (by simp)).upd h (by simpa using Ne.symm hs.ne.1) (by simpa using Ne.symm hs.ne.2)
 have g:=hs.ne
 have p:=Zmt (W.setCell ⟨sb,6,none⟩ (.int .i32 1)) sb b rb (high+63) w.heap.size (w.heap.size+1) high low state paused (.int .u32 0) (.int .i32 1) (.int .u32 0) q r s
  ((h.block _ (by omega) (by simp;omega)).trans n) ((h.block _ (by omega) (by simp;omega)).trans o) g.1 g.2 (by omega) (by omega) (by omega) (by omega) (by omega) (by omega) (by omega)
 refine(Zdo sb 5 207 #[.pointer (some ⟨w.heap.size,0,none⟩), .pointer (some ⟨w.heap.size+1,0,none⟩)] W _ (Zf (i:=5) a rfl) (Zf (i:=6) a rfl) (ZS a) (ZS a)
  (fun W=>Go.MuLone.run_callFunc_enter Tryz.func207 (by kernel_rfl) rfl _ _) p (fun w' k=>⟨Zf (i:=5) k.1 rfl,Zf (i:=6) k.1 rfl,ZS k.1,ZS k.1⟩)).mono ?_
 rintro e L ⟨rfl,d,⟨C,z,m,y⟩,rfl⟩
 have x:((d.drew.setCell ⟨sb,5,none⟩ (.int .u32 1)).setCell ⟨sb,6,none⟩ (.int .i32 0)).heap[sb]? =some (.cells #[.pointer (some ⟨b,0,none⟩), .int .i64 (high:Int), .int .i64 (low:Int), .int .i64 3, .bool false, .int .u32 1, .int .i32 0, .int .u32 0] 171 (0,0)):=by
  rw[Zd (Zd (show d.drew.heap[sb]? =_ from C) _)];rfl
 have l:Zg [sb] d ((d.drew.setCell ⟨sb,5,none⟩ (.int .u32 1)).setCell ⟨sb,6,none⟩ (.int .i32 0)):=(((Zg.refl [sb] d).drew).setCell (.inr (by simp)) _).setCell (.inr (by simp)) _
 have M:((d.setCell ⟨sb,5,none⟩ (.int .u32 1)).setCell ⟨sb,6,none⟩ (.int .i32 0)).cell? ⟨w.heap.size+1,0,none⟩=some (.bool true):=(Zf (i:=0) ((l.block (w.heap.size+1) (lt_of_block m) (by simp;omega)).trans m) rfl)
 have F:=D z;have H:=D y
 clear C z m y p s r a n o;change Hid _ at x l j h
 go_wp2
 go_ret
 refine⟨rfl,⟨x,F.upd l (by simpa using Ne.symm g.1) (by simpa using Ne.symm g.2),g,hs.h1,hs.h2,hs.h3,by simp,by simp⟩,?_⟩
 refine(((j.weaken (G:=[sb,b]) (by simp)).trans h).trans H ?_).trans l
 simp
def Zhx {sb b rb high low:Nat} {state:Int} {paused:Bool} {q:List UInt8} (hs:ZdY w sb b rb high low state paused 1 q):
  Calls Tryz.prog 133 #[.pointer (some ⟨sb,0,none⟩)] w fun e w'=>e= .returned (.bool false)∧ZdY w' sb b rb high low state paused 1 q∧Zg [] w w':=by
 have d:∀(fn:Fn) (first cap:Array Value) (w:World),(Instr.makeFunc fn first cap).run Tryz.prog w= .ok (.func fn first cap) w:=fun _ _ _ _=>rfl
 have c:=lt_of_block hs.hb
 have g:=hs.ring.lt
 have a:Zg [] w ((w.alloc (.cells #[.pointer (some ⟨sb,0,none⟩)] 92)).alloc (.cells #[.bool false] 4)):=((Zg.refl _ _).alloc _).alloc _
 go_in
 go_wp2_with fail
 refine(ZdK ⟨sb,5,none⟩ 1 rfl _ _ (Zf (i:=5) ((a.block sb c (by simp)).trans hs.hb) rfl)).mono ?_
 rintro e h ⟨rfl,rfl⟩
 go_wp2
 go_ret
 exact⟨rfl,hs.upd a (by simp) (by simp),a⟩
end Go.Proofs.YtlhapbopmplngaaGreatDoor
