/-
  No cell of these rows narrows 'for every input' (looked for: loops, veiled, ifaces, maps, wideKeys, modest, calm, conditions, laid).
  DERIVED. THE GIVEN ROWS OF THIS SEAT. 11 by the template 'for every input the law returns true; each argument reads behind the call as it read before'; 0 by the template 'total and deterministic' (their statements: YtmcbllpkgeihgaaTotals.lean).
  GIVEN WITH THE SEED: the statements are not yours to turn. If you find one false, say at which input.
  Laid BY PROGRAM, IN A SANDBOX (cutbox-rows.mjs): the forced cells as the released guide's own fill.sh prints them over the translation d666f0eff6fbf652… (all of the seat's roots in one cut). By AI agents, Wed Nov 11 2026. No macro, syntax, notation, axiom, sorry.
-/
import Derived.Test.YtmcbllpkgeihgaaChecked
import GoSem.Claim
import GoSem.ClaimJoined
import GoSem.ClaimMapViews
import Derived.JoinedTies
import Derived.KernelRfl
namespace Go.Proofs.Ytmcbllpkgeihgaa
/- THE CELL 'sum', in the pinned program and in every row, IS THE sha256 OF THE DUMP (.gsa) THAT YtmcbllpkgeihgaaProg.lean LOADS. Nothing in Lean hashes anything: it is a label: what it is worth is what the hold of that sum in a sandbox is worth. -/
noncomputable def Try.pinned : Pinned := { name := "ytmcbllpkgeihgaa", sum := "d666f0eff6fbf6520aa5dbf6e65b259645dc1ec71bd6664e3ec400ab79be76ce", checked := Try.checked }
namespace Rows
def none {H : Type} : Left H := { results := [], args := [] }

/-- 'lockkeeperlaw10.RingKeeps': WHATEVER THE INPUT: true; the input reads as it did. -/
def ringKeepsSpec : ChangeSpec := { name := "ringKeeps", fn := fun _ => fun
  | [d1, d2, d3] => { results := [.lit (.bool true)], args := [d1, d2, d3] }
  | _ => none }
def ringKeepsRow : OpenClaim := { program := "ytmcbllpkgeihgaa", sum := "d666f0eff6fbf6520aa5dbf6e65b259645dc1ec71bd6664e3ec400ab79be76ce", func := "lockkeeper/lockkeeperlaw10.RingKeeps", spec := "ringKeeps", apart := false }
def RingKeepsSaid : Prop := ringKeepsRow.holds Try.pinned (OpenSpec.ofChange ringKeepsSpec)

/-- ITS FALSE NEIGHBOUR: 'it returns false'. Refute it at one input. -/
def ringKeepsWrong : ChangeSpec := { name := "ringKeeps", fn := fun _ => fun
  | [d1, d2, d3] => { results := [.lit (.bool false)], args := [d1, d2, d3] }
  | _ => none }
def RingKeepsWrongFalsely : Prop := ringKeepsRow.holds Try.pinned (OpenSpec.ofChange ringKeepsWrong)

/-- 'lockkeeperlaw10.RingPlays': WHATEVER THE INPUT: true; the input reads as it did. -/
def ringPlaysSpec : ChangeSpec := { name := "ringPlays", fn := fun _ => fun
  | [d1, d2] => { results := [.lit (.bool true)], args := [d1, d2] }
  | _ => none }
def ringPlaysRow : OpenClaim := { program := "ytmcbllpkgeihgaa", sum := "d666f0eff6fbf6520aa5dbf6e65b259645dc1ec71bd6664e3ec400ab79be76ce", func := "lockkeeper/lockkeeperlaw10.RingPlays", spec := "ringPlays", apart := false }
def RingPlaysSaid : Prop := ringPlaysRow.holds Try.pinned (OpenSpec.ofChange ringPlaysSpec)

/-- ITS FALSE NEIGHBOUR: 'it returns false'. Refute it at one input. -/
def ringPlaysWrong : ChangeSpec := { name := "ringPlays", fn := fun _ => fun
  | [d1, d2] => { results := [.lit (.bool false)], args := [d1, d2] }
  | _ => none }
def RingPlaysWrongFalsely : Prop := ringPlaysRow.holds Try.pinned (OpenSpec.ofChange ringPlaysWrong)

/-- 'lockkeeperlaw10.RingRooms': WHATEVER THE INPUT: true; the input reads as it did. -/
def ringRoomsSpec : ChangeSpec := { name := "ringRooms", fn := fun _ => fun
  | [d1, d2, d3] => { results := [.lit (.bool true)], args := [d1, d2, d3] }
  | _ => none }
def ringRoomsRow : OpenClaim := { program := "ytmcbllpkgeihgaa", sum := "d666f0eff6fbf6520aa5dbf6e65b259645dc1ec71bd6664e3ec400ab79be76ce", func := "lockkeeper/lockkeeperlaw10.RingRooms", spec := "ringRooms", apart := false }
def RingRoomsSaid : Prop := ringRoomsRow.holds Try.pinned (OpenSpec.ofChange ringRoomsSpec)

/-- ITS FALSE NEIGHBOUR: 'it returns false'. Refute it at one input. -/
def ringRoomsWrong : ChangeSpec := { name := "ringRooms", fn := fun _ => fun
  | [d1, d2, d3] => { results := [.lit (.bool false)], args := [d1, d2, d3] }
  | _ => none }
def RingRoomsWrongFalsely : Prop := ringRoomsRow.holds Try.pinned (OpenSpec.ofChange ringRoomsWrong)

/-- 'lockkeeperlaw11.StreamMarks': WHATEVER THE INPUT: true; the input reads as it did. -/
def streamMarksSpec : ChangeSpec := { name := "streamMarks", fn := fun _ => fun
  | [d1, d2] => { results := [.lit (.bool true)], args := [d1, d2] }
  | _ => none }
def streamMarksRow : OpenClaim := { program := "ytmcbllpkgeihgaa", sum := "d666f0eff6fbf6520aa5dbf6e65b259645dc1ec71bd6664e3ec400ab79be76ce", func := "lockkeeper/lockkeeperlaw11.StreamMarks", spec := "streamMarks", apart := false }
def StreamMarksSaid : Prop := streamMarksRow.holds Try.pinned (OpenSpec.ofChange streamMarksSpec)

/-- ITS FALSE NEIGHBOUR: 'it returns false'. Refute it at one input. -/
def streamMarksWrong : ChangeSpec := { name := "streamMarks", fn := fun _ => fun
  | [d1, d2] => { results := [.lit (.bool false)], args := [d1, d2] }
  | _ => none }
def StreamMarksWrongFalsely : Prop := streamMarksRow.holds Try.pinned (OpenSpec.ofChange streamMarksWrong)

/-- 'lockkeeperlaw11.StreamBytes': WHATEVER THE INPUT: true; the input reads as it did. -/
def streamBytesSpec : ChangeSpec := { name := "streamBytes", fn := fun _ => fun
  | [d1, d2, d3, d4] => { results := [.lit (.bool true)], args := [d1, d2, d3, d4] }
  | _ => none }
def streamBytesRow : OpenClaim := { program := "ytmcbllpkgeihgaa", sum := "d666f0eff6fbf6520aa5dbf6e65b259645dc1ec71bd6664e3ec400ab79be76ce", func := "lockkeeper/lockkeeperlaw11.StreamBytes", spec := "streamBytes", apart := false }
def StreamBytesSaid : Prop := streamBytesRow.holds Try.pinned (OpenSpec.ofChange streamBytesSpec)

/-- ITS FALSE NEIGHBOUR: 'it returns false'. Refute it at one input. -/
def streamBytesWrong : ChangeSpec := { name := "streamBytes", fn := fun _ => fun
  | [d1, d2, d3, d4] => { results := [.lit (.bool false)], args := [d1, d2, d3, d4] }
  | _ => none }
def StreamBytesWrongFalsely : Prop := streamBytesRow.holds Try.pinned (OpenSpec.ofChange streamBytesWrong)

/-- 'lockkeeperlaw23.LifeAll': WHATEVER THE INPUT: true; the input reads as it did. -/
def lifeAllSpec : ChangeSpec := { name := "lifeAll", fn := fun _ => fun
  | [d1, d2] => { results := [.lit (.bool true)], args := [d1, d2] }
  | _ => none }
def lifeAllRow : OpenClaim := { program := "ytmcbllpkgeihgaa", sum := "d666f0eff6fbf6520aa5dbf6e65b259645dc1ec71bd6664e3ec400ab79be76ce", func := "lockkeeper/lockkeeperlaw23.LifeAll", spec := "lifeAll", inPlace := ["sync/atomic.StoreInt64", "sync/atomic.LoadInt64", "sync/atomic.LoadUint32", "(*internal/sync.Mutex).Lock", "internal/race.Disable", "sync/atomic.CompareAndSwapInt32", "internal/race.Enable", "internal/race.Acquire", "(*internal/sync.Mutex).lockSlow", "internal/sync.runtime_canSpin", "internal/sync.runtime_doSpin", "internal/sync.throw", "internal/sync.runtime_nanotime", "internal/sync.runtime_SemacquireMutex", "sync/atomic.AddInt32", "(*internal/sync.Mutex).Unlock", "internal/race.ReleaseMerge", "(*internal/sync.Mutex).unlockSlow", "internal/sync.fatal", "internal/sync.runtime_Semrelease", "sync/atomic.StoreUint32"], unfollowed := true, recurses := true, apart := false }
def LifeAllSaid : Prop := lifeAllRow.holds Try.pinned (OpenSpec.ofChange lifeAllSpec)

/-- ITS FALSE NEIGHBOUR: 'it returns false'. Refute it at one input. -/
def lifeAllWrong : ChangeSpec := { name := "lifeAll", fn := fun _ => fun
  | [d1, d2] => { results := [.lit (.bool false)], args := [d1, d2] }
  | _ => none }
def LifeAllWrongFalsely : Prop := lifeAllRow.holds Try.pinned (OpenSpec.ofChange lifeAllWrong)

/-- 'lockkeeperlaw23.LifeTable': WHATEVER THE INPUT: true; the input reads as it did. -/
def lifeTableSpec : ChangeSpec := { name := "lifeTable", fn := fun _ => fun
  | [] => { results := [.lit (.bool true)], args := [] }
  | _ => none }
def lifeTableRow : OpenClaim := { program := "ytmcbllpkgeihgaa", sum := "d666f0eff6fbf6520aa5dbf6e65b259645dc1ec71bd6664e3ec400ab79be76ce", func := "lockkeeper/lockkeeperlaw23.LifeTable", spec := "lifeTable", inPlace := ["sync/atomic.StoreInt64", "sync/atomic.LoadInt64", "sync/atomic.LoadUint32", "(*internal/sync.Mutex).Lock", "internal/race.Disable", "sync/atomic.CompareAndSwapInt32", "internal/race.Enable", "internal/race.Acquire", "(*internal/sync.Mutex).lockSlow", "internal/sync.runtime_canSpin", "internal/sync.runtime_doSpin", "internal/sync.throw", "internal/sync.runtime_nanotime", "internal/sync.runtime_SemacquireMutex", "sync/atomic.AddInt32", "(*internal/sync.Mutex).Unlock", "internal/race.ReleaseMerge", "(*internal/sync.Mutex).unlockSlow", "internal/sync.fatal", "internal/sync.runtime_Semrelease", "sync/atomic.StoreUint32"], unfollowed := true, recurses := true, apart := false }
def LifeTableSaid : Prop := lifeTableRow.holds Try.pinned (OpenSpec.ofChange lifeTableSpec)

/-- ITS FALSE NEIGHBOUR: 'it returns false'. Refute it at one input. -/
def lifeTableWrong : ChangeSpec := { name := "lifeTable", fn := fun _ => fun
  | [] => { results := [.lit (.bool false)], args := [] }
  | _ => none }
def LifeTableWrongFalsely : Prop := lifeTableRow.holds Try.pinned (OpenSpec.ofChange lifeTableWrong)

/-- 'lockkeeperlaw23.LifePlays': WHATEVER THE INPUT: true; the input reads as it did. -/
def lifePlaysSpec : ChangeSpec := { name := "lifePlays", fn := fun _ => fun
  | [d1, d2] => { results := [.lit (.bool true)], args := [d1, d2] }
  | _ => none }
def lifePlaysRow : OpenClaim := { program := "ytmcbllpkgeihgaa", sum := "d666f0eff6fbf6520aa5dbf6e65b259645dc1ec71bd6664e3ec400ab79be76ce", func := "lockkeeper/lockkeeperlaw23.LifePlays", spec := "lifePlays", inPlace := ["sync/atomic.StoreInt64", "sync/atomic.LoadInt64", "sync/atomic.LoadUint32", "(*internal/sync.Mutex).Lock", "internal/race.Disable", "sync/atomic.CompareAndSwapInt32", "internal/race.Enable", "internal/race.Acquire", "(*internal/sync.Mutex).lockSlow", "internal/sync.runtime_canSpin", "internal/sync.runtime_doSpin", "internal/sync.throw", "internal/sync.runtime_nanotime", "internal/sync.runtime_SemacquireMutex", "sync/atomic.AddInt32", "(*internal/sync.Mutex).Unlock", "internal/race.ReleaseMerge", "(*internal/sync.Mutex).unlockSlow", "internal/sync.fatal", "internal/sync.runtime_Semrelease", "sync/atomic.StoreUint32"], unfollowed := true, recurses := true, apart := false }
def LifePlaysSaid : Prop := lifePlaysRow.holds Try.pinned (OpenSpec.ofChange lifePlaysSpec)

/-- ITS FALSE NEIGHBOUR: 'it returns false'. Refute it at one input. -/
def lifePlaysWrong : ChangeSpec := { name := "lifePlays", fn := fun _ => fun
  | [d1, d2] => { results := [.lit (.bool false)], args := [d1, d2] }
  | _ => none }
def LifePlaysWrongFalsely : Prop := lifePlaysRow.holds Try.pinned (OpenSpec.ofChange lifePlaysWrong)

/-- 'lockkeeperlaw23.LifeOnce': WHATEVER THE INPUT: true; the input reads as it did. -/
def lifeOnceSpec : ChangeSpec := { name := "lifeOnce", fn := fun _ => fun
  | [d] => { results := [.lit (.bool true)], args := [d] }
  | _ => none }
def lifeOnceRow : OpenClaim := { program := "ytmcbllpkgeihgaa", sum := "d666f0eff6fbf6520aa5dbf6e65b259645dc1ec71bd6664e3ec400ab79be76ce", func := "lockkeeper/lockkeeperlaw23.LifeOnce", spec := "lifeOnce", inPlace := ["sync/atomic.StoreInt64", "sync/atomic.LoadInt64", "sync/atomic.LoadUint32", "(*internal/sync.Mutex).Lock", "internal/race.Disable", "sync/atomic.CompareAndSwapInt32", "internal/race.Enable", "internal/race.Acquire", "(*internal/sync.Mutex).lockSlow", "internal/sync.runtime_canSpin", "internal/sync.runtime_doSpin", "internal/sync.throw", "internal/sync.runtime_nanotime", "internal/sync.runtime_SemacquireMutex", "sync/atomic.AddInt32", "(*internal/sync.Mutex).Unlock", "internal/race.ReleaseMerge", "(*internal/sync.Mutex).unlockSlow", "internal/sync.fatal", "internal/sync.runtime_Semrelease", "sync/atomic.StoreUint32"], unfollowed := true, recurses := true, apart := false }
def LifeOnceSaid : Prop := lifeOnceRow.holds Try.pinned (OpenSpec.ofChange lifeOnceSpec)

/-- ITS FALSE NEIGHBOUR: 'it returns false'. Refute it at one input. -/
def lifeOnceWrong : ChangeSpec := { name := "lifeOnce", fn := fun _ => fun
  | [d] => { results := [.lit (.bool false)], args := [d] }
  | _ => none }
def LifeOnceWrongFalsely : Prop := lifeOnceRow.holds Try.pinned (OpenSpec.ofChange lifeOnceWrong)

/-- 'lockkeeperlaw11.StreamPlays': WHATEVER THE INPUT: true; the input reads as it did. -/
def streamPlaysSpec : ChangeSpec := { name := "streamPlays", fn := fun _ => fun
  | [d1, d2, d3] => { results := [.lit (.bool true)], args := [d1, d2, d3] }
  | _ => none }
def streamPlaysRow : OpenClaim := { program := "ytmcbllpkgeihgaa", sum := "d666f0eff6fbf6520aa5dbf6e65b259645dc1ec71bd6664e3ec400ab79be76ce", func := "lockkeeper/lockkeeperlaw11.StreamPlays", spec := "streamPlays", inPlace := ["sync/atomic.LoadUint32", "(*internal/sync.Mutex).Lock", "internal/race.Disable", "sync/atomic.CompareAndSwapInt32", "internal/race.Enable", "internal/race.Acquire", "(*internal/sync.Mutex).lockSlow", "internal/sync.runtime_canSpin", "internal/sync.runtime_doSpin", "internal/sync.throw", "internal/sync.runtime_nanotime", "internal/sync.runtime_SemacquireMutex", "sync/atomic.AddInt32", "(*internal/sync.Mutex).Unlock", "internal/race.ReleaseMerge", "(*internal/sync.Mutex).unlockSlow", "internal/sync.fatal", "internal/sync.runtime_Semrelease", "sync/atomic.StoreUint32"], unfollowed := true, recurses := true, apart := false }
def StreamPlaysSaid : Prop := streamPlaysRow.holds Try.pinned (OpenSpec.ofChange streamPlaysSpec)

/-- ITS FALSE NEIGHBOUR: 'it returns false'. Refute it at one input. -/
def streamPlaysWrong : ChangeSpec := { name := "streamPlays", fn := fun _ => fun
  | [d1, d2, d3] => { results := [.lit (.bool false)], args := [d1, d2, d3] }
  | _ => none }
def StreamPlaysWrongFalsely : Prop := streamPlaysRow.holds Try.pinned (OpenSpec.ofChange streamPlaysWrong)

/-- 'lockkeeperlaw11.StreamStopped': WHATEVER THE INPUT: true; the input reads as it did. -/
def streamStoppedSpec : ChangeSpec := { name := "streamStopped", fn := fun _ => fun
  | [d1, d2] => { results := [.lit (.bool true)], args := [d1, d2] }
  | _ => none }
def streamStoppedRow : OpenClaim := { program := "ytmcbllpkgeihgaa", sum := "d666f0eff6fbf6520aa5dbf6e65b259645dc1ec71bd6664e3ec400ab79be76ce", func := "lockkeeper/lockkeeperlaw11.StreamStopped", spec := "streamStopped", inPlace := ["sync/atomic.LoadUint32", "(*internal/sync.Mutex).Lock", "internal/race.Disable", "sync/atomic.CompareAndSwapInt32", "internal/race.Enable", "internal/race.Acquire", "(*internal/sync.Mutex).lockSlow", "internal/sync.runtime_canSpin", "internal/sync.runtime_doSpin", "internal/sync.throw", "internal/sync.runtime_nanotime", "internal/sync.runtime_SemacquireMutex", "sync/atomic.AddInt32", "(*internal/sync.Mutex).Unlock", "internal/race.ReleaseMerge", "(*internal/sync.Mutex).unlockSlow", "internal/sync.fatal", "internal/sync.runtime_Semrelease", "sync/atomic.StoreUint32"], unfollowed := true, recurses := true, apart := false }
def StreamStoppedSaid : Prop := streamStoppedRow.holds Try.pinned (OpenSpec.ofChange streamStoppedSpec)

/-- ITS FALSE NEIGHBOUR: 'it returns false'. Refute it at one input. -/
def streamStoppedWrong : ChangeSpec := { name := "streamStopped", fn := fun _ => fun
  | [d1, d2] => { results := [.lit (.bool false)], args := [d1, d2] }
  | _ => none }
def StreamStoppedWrongFalsely : Prop := streamStoppedRow.holds Try.pinned (OpenSpec.ofChange streamStoppedWrong)

/- THE SECOND FORM. 'bulk': how many values and letters a reading holds, each counted each time it is reached (what is shared counts as often as it is met; a slice's spare places count too). A statement '..UptoSaid' is the law's where the arguments, and the package variables that the reading takes, are together of bulk at most 1048576: NARROWER than '..Said'. Prove '..Said' where nothing that the law and all that it calls make is longer than what came in: it says more and counts as full. Else prove '..UptoSaid'. A law counts once. -/
mutual
def uptoBulk {H : Type} : DataW H → Nat
  | .lit (.string bytes) => bytes.length + 1
  | .lit _ => 1
  | .nil => 1
  | .ptr d => uptoBulk d + 1
  | .slice elems spare => uptoBulkAll elems + uptoBulkAll spare + 1
  | .agg parts => uptoBulkAll parts + 1
  | .iface _ d => uptoBulk d + 1
  | .map entries => uptoBulkEntries entries + 1
  | .held _ => 1
def uptoBulkAll {H : Type} : List (DataW H) → Nat
  | [] => 0
  | d :: r => uptoBulk d + uptoBulkAll r
def uptoBulkEntries {H : Type} : List (Lit × DataW H) → Nat
  | [] => 0
  | x :: r => uptoBulkEntry x + uptoBulkEntries r
def uptoBulkEntry {H : Type} : Lit × DataW H → Nat
  | (.string bytes, d) => bytes.length + uptoBulk d + 1
  | (_, d) => uptoBulk d + 1
 end
def uptoSmall : (H : Type) → List (DataW H) → Bool := fun _ ds => decide (uptoBulkAll ds ≤ 1048576)
def OpenSpec.upto (s : _root_.Go.ChangeSpec) : _root_.Go.OpenSpec := { _root_.Go.OpenSpec.ofChange s with cond := some uptoSmall }

/-- 'lockkeeperlaw10.RingKeeps', WHERE WHAT IT READS IS OF BULK AT MOST 1048576: true; the input reads as it did. -/
def ringKeepsUptoRow : OpenClaim := { program := "ytmcbllpkgeihgaa", sum := "d666f0eff6fbf6520aa5dbf6e65b259645dc1ec71bd6664e3ec400ab79be76ce", func := "lockkeeper/lockkeeperlaw10.RingKeeps", spec := "ringKeeps", apart := false, narrowed := true }
def RingKeepsUptoSaid : Prop := ringKeepsUptoRow.holds Try.pinned (OpenSpec.upto ringKeepsSpec)

/-- 'lockkeeperlaw10.RingPlays', WHERE WHAT IT READS IS OF BULK AT MOST 1048576: true; the input reads as it did. -/
def ringPlaysUptoRow : OpenClaim := { program := "ytmcbllpkgeihgaa", sum := "d666f0eff6fbf6520aa5dbf6e65b259645dc1ec71bd6664e3ec400ab79be76ce", func := "lockkeeper/lockkeeperlaw10.RingPlays", spec := "ringPlays", apart := false, narrowed := true }
def RingPlaysUptoSaid : Prop := ringPlaysUptoRow.holds Try.pinned (OpenSpec.upto ringPlaysSpec)

/-- 'lockkeeperlaw10.RingRooms', WHERE WHAT IT READS IS OF BULK AT MOST 1048576: true; the input reads as it did. -/
def ringRoomsUptoRow : OpenClaim := { program := "ytmcbllpkgeihgaa", sum := "d666f0eff6fbf6520aa5dbf6e65b259645dc1ec71bd6664e3ec400ab79be76ce", func := "lockkeeper/lockkeeperlaw10.RingRooms", spec := "ringRooms", apart := false, narrowed := true }
def RingRoomsUptoSaid : Prop := ringRoomsUptoRow.holds Try.pinned (OpenSpec.upto ringRoomsSpec)

/-- 'lockkeeperlaw11.StreamMarks', WHERE WHAT IT READS IS OF BULK AT MOST 1048576: true; the input reads as it did. -/
def streamMarksUptoRow : OpenClaim := { program := "ytmcbllpkgeihgaa", sum := "d666f0eff6fbf6520aa5dbf6e65b259645dc1ec71bd6664e3ec400ab79be76ce", func := "lockkeeper/lockkeeperlaw11.StreamMarks", spec := "streamMarks", apart := false, narrowed := true }
def StreamMarksUptoSaid : Prop := streamMarksUptoRow.holds Try.pinned (OpenSpec.upto streamMarksSpec)

/-- 'lockkeeperlaw11.StreamBytes', WHERE WHAT IT READS IS OF BULK AT MOST 1048576: true; the input reads as it did. -/
def streamBytesUptoRow : OpenClaim := { program := "ytmcbllpkgeihgaa", sum := "d666f0eff6fbf6520aa5dbf6e65b259645dc1ec71bd6664e3ec400ab79be76ce", func := "lockkeeper/lockkeeperlaw11.StreamBytes", spec := "streamBytes", apart := false, narrowed := true }
def StreamBytesUptoSaid : Prop := streamBytesUptoRow.holds Try.pinned (OpenSpec.upto streamBytesSpec)

/-- 'lockkeeperlaw23.LifeAll', WHERE WHAT IT READS IS OF BULK AT MOST 1048576: true; the input reads as it did. -/
def lifeAllUptoRow : OpenClaim := { program := "ytmcbllpkgeihgaa", sum := "d666f0eff6fbf6520aa5dbf6e65b259645dc1ec71bd6664e3ec400ab79be76ce", func := "lockkeeper/lockkeeperlaw23.LifeAll", spec := "lifeAll", inPlace := ["sync/atomic.StoreInt64", "sync/atomic.LoadInt64", "sync/atomic.LoadUint32", "(*internal/sync.Mutex).Lock", "internal/race.Disable", "sync/atomic.CompareAndSwapInt32", "internal/race.Enable", "internal/race.Acquire", "(*internal/sync.Mutex).lockSlow", "internal/sync.runtime_canSpin", "internal/sync.runtime_doSpin", "internal/sync.throw", "internal/sync.runtime_nanotime", "internal/sync.runtime_SemacquireMutex", "sync/atomic.AddInt32", "(*internal/sync.Mutex).Unlock", "internal/race.ReleaseMerge", "(*internal/sync.Mutex).unlockSlow", "internal/sync.fatal", "internal/sync.runtime_Semrelease", "sync/atomic.StoreUint32"], unfollowed := true, recurses := true, apart := false, narrowed := true }
def LifeAllUptoSaid : Prop := lifeAllUptoRow.holds Try.pinned (OpenSpec.upto lifeAllSpec)

/-- 'lockkeeperlaw23.LifeTable', WHERE WHAT IT READS IS OF BULK AT MOST 1048576: true; the input reads as it did. -/
def lifeTableUptoRow : OpenClaim := { program := "ytmcbllpkgeihgaa", sum := "d666f0eff6fbf6520aa5dbf6e65b259645dc1ec71bd6664e3ec400ab79be76ce", func := "lockkeeper/lockkeeperlaw23.LifeTable", spec := "lifeTable", inPlace := ["sync/atomic.StoreInt64", "sync/atomic.LoadInt64", "sync/atomic.LoadUint32", "(*internal/sync.Mutex).Lock", "internal/race.Disable", "sync/atomic.CompareAndSwapInt32", "internal/race.Enable", "internal/race.Acquire", "(*internal/sync.Mutex).lockSlow", "internal/sync.runtime_canSpin", "internal/sync.runtime_doSpin", "internal/sync.throw", "internal/sync.runtime_nanotime", "internal/sync.runtime_SemacquireMutex", "sync/atomic.AddInt32", "(*internal/sync.Mutex).Unlock", "internal/race.ReleaseMerge", "(*internal/sync.Mutex).unlockSlow", "internal/sync.fatal", "internal/sync.runtime_Semrelease", "sync/atomic.StoreUint32"], unfollowed := true, recurses := true, apart := false, narrowed := true }
def LifeTableUptoSaid : Prop := lifeTableUptoRow.holds Try.pinned (OpenSpec.upto lifeTableSpec)

/-- 'lockkeeperlaw23.LifePlays', WHERE WHAT IT READS IS OF BULK AT MOST 1048576: true; the input reads as it did. -/
def lifePlaysUptoRow : OpenClaim := { program := "ytmcbllpkgeihgaa", sum := "d666f0eff6fbf6520aa5dbf6e65b259645dc1ec71bd6664e3ec400ab79be76ce", func := "lockkeeper/lockkeeperlaw23.LifePlays", spec := "lifePlays", inPlace := ["sync/atomic.StoreInt64", "sync/atomic.LoadInt64", "sync/atomic.LoadUint32", "(*internal/sync.Mutex).Lock", "internal/race.Disable", "sync/atomic.CompareAndSwapInt32", "internal/race.Enable", "internal/race.Acquire", "(*internal/sync.Mutex).lockSlow", "internal/sync.runtime_canSpin", "internal/sync.runtime_doSpin", "internal/sync.throw", "internal/sync.runtime_nanotime", "internal/sync.runtime_SemacquireMutex", "sync/atomic.AddInt32", "(*internal/sync.Mutex).Unlock", "internal/race.ReleaseMerge", "(*internal/sync.Mutex).unlockSlow", "internal/sync.fatal", "internal/sync.runtime_Semrelease", "sync/atomic.StoreUint32"], unfollowed := true, recurses := true, apart := false, narrowed := true }
def LifePlaysUptoSaid : Prop := lifePlaysUptoRow.holds Try.pinned (OpenSpec.upto lifePlaysSpec)

/-- 'lockkeeperlaw23.LifeOnce', WHERE WHAT IT READS IS OF BULK AT MOST 1048576: true; the input reads as it did. -/
def lifeOnceUptoRow : OpenClaim := { program := "ytmcbllpkgeihgaa", sum := "d666f0eff6fbf6520aa5dbf6e65b259645dc1ec71bd6664e3ec400ab79be76ce", func := "lockkeeper/lockkeeperlaw23.LifeOnce", spec := "lifeOnce", inPlace := ["sync/atomic.StoreInt64", "sync/atomic.LoadInt64", "sync/atomic.LoadUint32", "(*internal/sync.Mutex).Lock", "internal/race.Disable", "sync/atomic.CompareAndSwapInt32", "internal/race.Enable", "internal/race.Acquire", "(*internal/sync.Mutex).lockSlow", "internal/sync.runtime_canSpin", "internal/sync.runtime_doSpin", "internal/sync.throw", "internal/sync.runtime_nanotime", "internal/sync.runtime_SemacquireMutex", "sync/atomic.AddInt32", "(*internal/sync.Mutex).Unlock", "internal/race.ReleaseMerge", "(*internal/sync.Mutex).unlockSlow", "internal/sync.fatal", "internal/sync.runtime_Semrelease", "sync/atomic.StoreUint32"], unfollowed := true, recurses := true, apart := false, narrowed := true }
def LifeOnceUptoSaid : Prop := lifeOnceUptoRow.holds Try.pinned (OpenSpec.upto lifeOnceSpec)

/-- 'lockkeeperlaw11.StreamPlays', WHERE WHAT IT READS IS OF BULK AT MOST 1048576: true; the input reads as it did. -/
def streamPlaysUptoRow : OpenClaim := { program := "ytmcbllpkgeihgaa", sum := "d666f0eff6fbf6520aa5dbf6e65b259645dc1ec71bd6664e3ec400ab79be76ce", func := "lockkeeper/lockkeeperlaw11.StreamPlays", spec := "streamPlays", inPlace := ["sync/atomic.LoadUint32", "(*internal/sync.Mutex).Lock", "internal/race.Disable", "sync/atomic.CompareAndSwapInt32", "internal/race.Enable", "internal/race.Acquire", "(*internal/sync.Mutex).lockSlow", "internal/sync.runtime_canSpin", "internal/sync.runtime_doSpin", "internal/sync.throw", "internal/sync.runtime_nanotime", "internal/sync.runtime_SemacquireMutex", "sync/atomic.AddInt32", "(*internal/sync.Mutex).Unlock", "internal/race.ReleaseMerge", "(*internal/sync.Mutex).unlockSlow", "internal/sync.fatal", "internal/sync.runtime_Semrelease", "sync/atomic.StoreUint32"], unfollowed := true, recurses := true, apart := false, narrowed := true }
def StreamPlaysUptoSaid : Prop := streamPlaysUptoRow.holds Try.pinned (OpenSpec.upto streamPlaysSpec)

/-- 'lockkeeperlaw11.StreamStopped', WHERE WHAT IT READS IS OF BULK AT MOST 1048576: true; the input reads as it did. -/
def streamStoppedUptoRow : OpenClaim := { program := "ytmcbllpkgeihgaa", sum := "d666f0eff6fbf6520aa5dbf6e65b259645dc1ec71bd6664e3ec400ab79be76ce", func := "lockkeeper/lockkeeperlaw11.StreamStopped", spec := "streamStopped", inPlace := ["sync/atomic.LoadUint32", "(*internal/sync.Mutex).Lock", "internal/race.Disable", "sync/atomic.CompareAndSwapInt32", "internal/race.Enable", "internal/race.Acquire", "(*internal/sync.Mutex).lockSlow", "internal/sync.runtime_canSpin", "internal/sync.runtime_doSpin", "internal/sync.throw", "internal/sync.runtime_nanotime", "internal/sync.runtime_SemacquireMutex", "sync/atomic.AddInt32", "(*internal/sync.Mutex).Unlock", "internal/race.ReleaseMerge", "(*internal/sync.Mutex).unlockSlow", "internal/sync.fatal", "internal/sync.runtime_Semrelease", "sync/atomic.StoreUint32"], unfollowed := true, recurses := true, apart := false, narrowed := true }
def StreamStoppedUptoSaid : Prop := streamStoppedUptoRow.holds Try.pinned (OpenSpec.upto streamStoppedSpec)

end Rows
end Go.Proofs.Ytmcbllpkgeihgaa
