-- Acts as data, and how a script tells and reads them. Of no program.
import Derived.Test.YtajoldboafkpdaaDoorTxt
import Derived.Test.YtajoldboafkpdaaDoorOpen
import Derived.Lib.Split
import Derived.Lib.Join
set_option linter.unusedVariables false
set_option linter.unusedSimpArgs false
namespace Go.Lk
open Go.RowKit
abbrev Bs := List UInt8
structure ReqL where
  method : Bs
  url : Bs
  origin : Bs
  mode : Int
  creds : Bool
  headers : List (Bs × Bs)
  cls : Int
  timeout : Int
  group : Int
  signal : Int
structure ActL where
  op : Int
  id : Int
  n : Int
  ids : List Int
  time : Int
  status : Int
  headers : List (Bs × Bs)
  bytes : Bs
  req : ReqL
def ReqL.zero : ReqL := ⟨[], [], [], 0, false, [], 0, 0, 0, 0⟩
def ActL.zero : ActL := ⟨0, 0, 0, [], 0, 0, [], [], ReqL.zero⟩
/-- The word of an act. -/
def opW : List Bs := [[103, 114, 111, 117, 112], [115, 105, 103, 110, 97, 108], [115, 117, 98, 109, 105, 116], [97, 99, 116, 105, 118, 97, 116, 101], [108, 111, 97, 100], [97, 98, 111, 114, 116], [116, 101, 97, 114], [116, 105, 99, 107], [115, 116, 101, 112], [97, 110, 115, 119, 101, 114], [99, 104, 117, 110, 107], [101, 110, 100], [102, 97, 105, 108], [114, 101, 97, 100]]
def opS (n : Int) : Bs := if n < 1 ∨ 14 < n then [] else opW.getD (n - 1).toNat []
/-- Its number: the first whose word it is; 0 where there is none. -/
def opOfS (w : Bs) : Int := match opW.findIdx? (· == w) with | some i => i + 1 | none => 0
/-- A byte of a token. -/
def tokC (c : UInt8) : Bool := (decide (97 ≤ c.toNat) && decide (c.toNat ≤ 122)) || (decide (65 ≤ c.toNat) && decide (c.toNat ≤ 90)) || isDig c || [33, 35, 36, 37, 38, 39, 42, 43, 45, 46, 94, 95, 96, 124, 126].contains c
def tokenS (s : Bs) : Bool := decide (s ≠ []) && s.all tokC
def seenC (c : UInt8) : Bool := decide (33 ≤ c.toNat) && decide (c.toNat ≤ 126)
def textS (s : Bs) : Bool := decide (s ≠ []) && s.all seenC
def hdrW (h : Bs × Bs) : Bs := h.1 ++ 61 :: hexS h.2
/-- What the writer has: its words, and whether all was well. -/
def intsW (l : List Int) : List Bs × Bool := (l.map Lib.itoa, l.all (fun n => decide (0 ≤ n)))
def hdrsW (l : List (Bs × Bs)) : List Bs × Bool := (l.map hdrW, l.all (fun h => tokenS h.1))
def reqW (r : ReqL) : List Bs × Bool :=
  ([r.method, r.url, r.origin] ++ (intsW [r.mode, if r.creds then 1 else 0, r.cls]).1 ++ [Lib.itoa r.timeout] ++ (intsW [r.group, r.signal]).1 ++ (hdrsW r.headers).1,
   textS r.method && textS r.url && textS r.origin && (intsW [r.mode, if r.creds then 1 else 0, r.cls]).2 && (intsW [r.group, r.signal]).2 && (hdrsW r.headers).2)
def actW (a : ActL) : List Bs × Bool :=
  if a.op = 1 ∨ a.op = 9 then ([], true)
  else if a.op = 2 then intsW a.ids
  else if a.op = 3 then reqW a.req
  else if a.op = 8 then ([Lib.itoa a.time], true)
  else if a.op = 10 then ((intsW [a.id, a.status]).1 ++ (hdrsW a.headers).1, (intsW [a.id, a.status]).2 && (hdrsW a.headers).2)
  else if a.op = 11 then ((intsW [a.id]).1 ++ [hexS a.bytes], (intsW [a.id]).2)
  else if a.op = 14 then intsW [a.id, a.n]
  else if a.op = 4 ∨ a.op = 5 ∨ a.op = 6 ∨ a.op = 7 ∨ a.op = 12 ∨ a.op = 13 then intsW [a.id]
  else ([], false)
/-- script.Show: the text, or nothing (api.ErrArg). -/
def showS (a : ActL) : Option Bs := if (actW a).2 then some (Lib.join (opS a.op :: (actW a).1) [32]) else none
/-- A number of a word: -1 where it is none, or too great. -/
def intS (w : Bs) : Int := if !(digitsS w).2 ∨ 9223372036854775807 < (digitsS w).1 then -1 else (digitsS w).1
def hdrS (w : Bs) : Bs × Bs := ((Lib.cut w [61]).1, (unhexS (Lib.cut w [61]).2.1).getD [])
def wd (ws : List Bs) (i : Nat) : Bs := ws.getD i []
def reqS (ws : List Bs) : ReqL :=
  { method := wd ws 0, url := wd ws 1, origin := wd ws 2, mode := intS (wd ws 3), creds := decide (wd ws 4 = [49]), cls := intS (wd ws 5), timeout := (digitsS (wd ws 6)).1,
    group := intS (wd ws 7), signal := intS (wd ws 8), headers := (ws.drop 9).map hdrS }
/-- What the reader makes of the words behind the first, before it is told again. -/
def parseS (op : Int) (ws : List Bs) : ActL :=
  if op = 2 then { ActL.zero with op := op, ids := ws.map intS }
  else if op = 3 then { ActL.zero with op := op, req := reqS ws }
  else if op = 8 then { ActL.zero with op := op, time := (digitsS (wd ws 0)).1 }
  else if op = 10 then { ActL.zero with op := op, id := intS (wd ws 0), status := intS (wd ws 1), headers := (ws.drop 2).map hdrS }
  else if op = 11 then { ActL.zero with op := op, id := intS (wd ws 0), bytes := (unhexS (wd ws 1)).getD [] }
  else if op = 14 then { ActL.zero with op := op, id := intS (wd ws 0), n := intS (wd ws 1) }
  else if op = 4 ∨ op = 5 ∨ op = 6 ∨ op = 7 ∨ op = 12 ∨ op = 13 then { ActL.zero with op := op, id := intS (wd ws 0) }
  else { ActL.zero with op := op }
/-- script.Read: the act, or nothing (api.ErrForm). -/
def readS (s : Bs) : Option ActL :=
  let ws := Lib.split s [32]
  let a := parseS (opOfS (ws.getD 0 [])) (ws.drop 1)
  if showS a = some s then some a else none
theorem readS_shows {s : Bs} {a : ActL} (h : readS s = some a) : showS a = some s := by
  unfold readS at h
  simp only at h
  split at h
  · injection h with h; subst h; assumption
  · cases h
/-- A request as one value. -/
def reqV (r : ReqL) (vh : Value) : Value := .agg #[.string ⟨r.method.toArray⟩, .string ⟨r.url.toArray⟩, .string ⟨r.origin.toArray⟩, .int .i64 r.mode, .bool r.creds, vh, .int .i64 r.cls, .int .u64 r.timeout, .int .i64 r.group, .int .i64 r.signal]
/-- Headers as cells. -/
def HdrR (w : World) (cs : List Value) (h : Bs × Bs) : Prop := cs = [.string ⟨h.1.toArray⟩, .string ⟨h.2.toArray⟩]
/-- A request's ten cells. -/
def ReqR (w : World) (cs : List Value) (r : ReqL) : Prop :=
  ∃ vh, cs = [.string ⟨r.method.toArray⟩, .string ⟨r.url.toArray⟩, .string ⟨r.origin.toArray⟩, .int .i64 r.mode, .bool r.creds, vh, .int .i64 r.cls, .int .u64 r.timeout, .int .i64 r.group, .int .i64 r.signal] ∧ SliceR w 2 (HdrR w) vh r.headers
/-- An act's eighteen cells. -/
def ActR (w : World) (cs : List Value) (a : ActL) : Prop :=
  ∃ vi vh vb cr, cs = [.int .i64 a.op, .int .i64 a.id, .int .i64 a.n, vi, .int .u64 a.time, .int .i64 a.status, vh, vb] ++ cr ∧ SliceR w 1 (fun cs (n : Int) => cs = [.int .i64 n]) vi a.ids ∧ SliceR w 2 (HdrR w) vh a.headers ∧ BytesV w vb a.bytes ∧ ReqR w cr a.req
end Go.Lk
