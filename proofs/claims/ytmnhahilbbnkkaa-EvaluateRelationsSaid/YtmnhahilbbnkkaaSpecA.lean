/-
  Plain functions, no program in sight: the values, columns, rows, bags and relations of chapters 1, 5, 6 and 19, as both texts compute them.
-/
import Derived.Test.YtmnhahilbbnkkaaRep
namespace Go.Proofs.Ytmnhahilbbnkkaa
set_option linter.unusedVariables false
set_option linter.unusedSimpArgs false

def cmpInt (a b : Int) : Int := if a < b then -1 else if b < a then 1 else 0
/-- Bytewise order of strings. -/
def cmpStr (a b : ByteArray) : Int := if Op.bytesLess a.toList b.toList = true then -1 else if a.toList = b.toList then 0 else 1
def cmpVal (a b : Val) : Int := if cmpInt a.kind b.kind ≠ 0 then cmpInt a.kind b.kind else if cmpInt a.num b.num ≠ 0 then cmpInt a.num b.num else cmpStr a.str b.str
def cmpRows : List Val → List Val → Int
  | [], [] => 0
  | [], _ :: _ => -1
  | _ :: _, [] => 1
  | a :: l, b :: m => if cmpVal a b ≠ 0 then cmpVal a b else cmpRows l m

def noStr (s : ByteArray) : Bool := s.toList.isEmpty
def valid (v : Val) : Bool :=
  if v.kind = 0 then (v.num == 0) && noStr v.str
  else if v.kind = 1 then noStr v.str && (v.num == 0 || v.num == 1)
  else if v.kind = 2 then noStr v.str && (decide (-1073741824 ≤ v.num) && decide (v.num ≤ 1073741824))
  else if v.kind = 3 then (v.num == 0) && decide (v.str.size ≤ 64)
  else if v.kind = 4 then noStr v.str && (decide (0 ≤ v.num) && decide (v.num ≤ 575999999))
  else false

/-- A byte of a string, as a number. -/
def byteAt (s : ByteArray) (i : Nat) : Nat := (s.data.toList.getD i 0).toNat
/-- What IsName asks of byte number i. -/
def nameOk (c : Nat) (i : Nat) : Bool := (decide (97 ≤ c) && decide (c ≤ 122)) || (decide (0 < i) && (decide (c = 95) || (decide (48 ≤ c) && decide (c ≤ 57))))
def nameFrom (s : ByteArray) : Nat → Nat → Bool
  | 0, _ => true
  | b + 1, i => nameOk (byteAt s i) i && nameFrom s b (i + 1)
def isName (s : ByteArray) : Bool := decide (s.size ≤ 24) && (nameFrom s s.size 0 && decide (0 < s.size))

/-- The first column with a name, from a number on; -1 if there is none. -/
def indexFrom (name : ByteArray) : Nat → List Col → Int
  | _, [] => -1
  | k, c :: l => if c.name.toList == name.toList then k else indexFrom name (k + 1) l
def index (cols : List Col) (name : ByteArray) : Int := indexFrom name 0 cols

def colErr (cols : List Col) (i : Nat) (c : Col) : Int :=
  if isName c.name = false then 4 else if c.kind < 1 ∨ 4 < c.kind then 7 else if index cols c.name < i then 6 else 0
/-- The first error that is not 0. -/
def firstErr {α : Type} (f : Nat → α → Int) : Nat → List α → Int
  | _, [] => 0
  | k, x :: l => if f k x ≠ 0 then f k x else firstErr f (k + 1) l
def colsErr (cols : List Col) : Int := if cols.length < 1 ∨ 12 < cols.length then 2 else firstErr (colErr cols) 0 cols

def cellErr (c : Col) (v : Val) : Int :=
  if valid v = false then 8 else if (v.kind = 0 ∧ c.nullable = false) ∨ (v.kind ≠ 0 ∧ v.kind ≠ c.kind) then 7 else 0
def rowErr (cols : List Col) (row : List Val) : Int :=
  if row.length ≠ cols.length then 8 else firstErr (fun i v => cellErr (cols.getD i default) v) 0 row

def entErr (x : Ent) : Int :=
  if 12 < x.row.length ∨ x.count < -65536 ∨ 65536 < x.count then 2 else firstErr (fun _ v => if valid v then 0 else 8) 0 x.row
def bagErr1 (b : List Ent) (i : Nat) (x : Ent) : Int :=
  if entErr x ≠ 0 then entErr x else if x.count = 0 then 8 else if 0 < i ∧ 0 ≤ cmpRows (b.getD (i - 1) default).row x.row then 14 else 0
def bagErr (b : List Ent) : Int := if 4096 < b.length then 2 else firstErr (bagErr1 b) 0 b
def isTable (b : List Ent) : Bool := bagErr b == 0 && b.all fun x => decide (0 ≤ x.count)
def relErr (r : Rel) : Int :=
  if colsErr r.columns ≠ 0 then colsErr r.columns else if bagErr r.rows ≠ 0 then bagErr r.rows else if isTable r.rows = false then 8
  else firstErr (fun _ x => rowErr r.columns x.row) 0 r.rows
end Go.Proofs.Ytmnhahilbbnkkaa
