/-
  Part of the proof of a law.
-/
import Derived.Test.YtophekjofpahfaaEvBase
import Derived.Test.YtophekjofpahfaaCFlt
set_option linter.unusedVariables false
set_option linter.unusedSimpArgs false
set_option linter.unusedSectionVars false
/-
  The evaluator: what an operation, a region, a piece of code comes to, on abstract values. Plain definitions, run by the kernel.
-/
namespace Go.Ev
open Go
variable [Glob]
structure St where
  t : List AV
  σ : List Blk
def svc : Value → Option SV
  | .int k n => some (.int k n)
  | .bool b => some (.bool b)
  | .string s => some (.str s.data.toList)
  | .float k b => some (.flt k b)
  | .slice none 0 0 => some .nil
  | .nilIface => some (.ifc true)
  | .agg _ => none
  | .tuple _ => none
  | _ => some .any
def svcs : List Value → Option (List SV)
  | [] => some []
  | v :: l => match svc v, svcs l with
    | some s, some k => some (s :: k)
    | _, _ => none
def avc : Value → AV
  | .agg cs => match svcs cs.toList with
    | some l => .agg l
    | none => .any
  | .tuple _ => .any
  | v => match svc v with
    | some s => .one s
    | none => .any
def St.ov (s : St) : Operand → AV
  | .tmp t => s.t.getD t .any
  | .const v => avc v
  | .global g => .one (.glb g 0)
  | .func f => .one (.func f [])
def setT (t : List AV) (d : Option Tmp) (v : AV) : List AV :=
  match d with
  | some d => t.set d v
  | none => t
def sizeT (P : Program) (t : TypeId) : Option Nat := (P.info? t).map (·.size)
def aggT (P : Program) (t : TypeId) : Option Bool := (P.underlying t).map fun | .struct _ => true | .array _ _ => true | _ => false
def zeroT (P : Program) (t : TypeId) : Option (List SV) := ((P.info? t).bind (·.zero)).bind fun z => svcs z.cells.toList
def ofCells (P : Program) (t : TypeId) (l : List SV) : Option AV :=
  match aggT P t with
  | some true => some (.agg l)
  | some false => match l with
    | [s] => some (.one s)
    | _ => none
  | none => none
def AV.cells : AV → Option (List SV)
  | .one s => some [s]
  | .agg l => some l
  | _ => none
def Row.hasN (r : Row) (i c n : Nat) : Bool := match n with | 0 => true | n + 1 => r.has i (c + n)
def Row.svs (r : Row) (i c n : Nat) : Option (List SV) :=
  match r with
  | .ints k xs => some ((List.range n).map fun o => .int k (xs.getD (i + (c + o)) 0))
  | .mat k _ xss => some ((List.range n).map fun o => .int k ((xss.getD i []).getD (c + o) 0))
  | .recs cks xss => if c + n ≤ cks.length then some ((List.range n).map fun o => (Row.sv (.recs cks xss) i (c + o)).getD .any) else none
def Row.part (r : Row) (i n : Nat) : Row :=
  match r with
  | .ints k xs => .ints k ((xs.drop i).take n)
  | .mat k w xss => .mat k w ((xss.drop i).take n)
  | .recs cks xss => .recs cks ((xss.drop i).take n)
def loadSVs (σ : List Blk) (p : SV) (n : Nat) : Option (Bool × List SV) :=
  match p with
  | .ptr id wd i c =>
    match σ[id]? with
    | some (.cells l) => if wd = 1 then (if i + c + n ≤ l.length then some (true, (l.drop (i + c)).take n) else none) else none
    | some (.row _ r) => if wd = r.width then (r.svs i c n).map (r.hasN i c n, ·) else none
    | _ => none
  | .dptr r i c => (r.svs i c n).map (r.hasN i c n, ·)
  | .glb g c => match globOf Glob.tab g with
    | some l => if c + n ≤ l.length then some (true, (l.drop c).take n) else none
    | none => none
  | _ => none
def asInts : IntKind → List SV → Option (List Int)
  | _, [] => some []
  | k, .int k' n :: l => if k' = k then (asInts k l).map (n :: ·) else none
  | _, _ => none
def kindOf : List SV → Option IntKind
  | .int k _ :: _ => some k
  | _ => none
def Blk.setN (P : Program) (b : Blk) (wd i c : Nat) (l : List SV) : Option (Bool × Blk) :=
  match b with
  | .cells ls => if wd = 1 then (if i + c + l.length ≤ ls.length then some (true, .cells (ls.take (i + c) ++ l ++ ls.drop (i + c + l.length))) else none) else none
  | .row t (.ints k xs) =>
    if wd = 1 then
      match asInts k l with
      | some ys =>
        match ys with
        | [y] => some (decide (i + c < xs.length), .row t (.ints k (xs.set (i + c) y)))
        | ys => if sizeT P t = some ys.length then (if i + c = 0 then some (decide (xs.length = ys.length), .row t (.ints k ys)) else none) else some (decide (i + c + ys.length ≤ xs.length), .row t (.ints k (xs.take (i + c) ++ ys ++ xs.drop (i + c + ys.length))))
      | none => none
    else none
  | .row t (.mat k w xss) =>
    if wd = w then
      match asInts k l with
      | some ys =>
        if ys.length = w ∧ c = 0 then some (decide (i < xss.length), .row t (.mat k w (xss.set i ys)))
        else match ys with
          | [y] => some (decide (c < w) && decide (i < xss.length) && decide ((xss.getD i []).length = w), .row t (.mat k w (xss.set i ((xss.getD i []).set c y))))
          | _ => none
      | none => none
    else none
  | _ => none
def storeSVs (P : Program) (σ : List Blk) (p : SV) (l : List SV) : Option (Bool × List Blk) :=
  match p with
  | .ptr id wd i c =>
    match σ[id]? with
    | some b => (b.setN P wd i c l).map fun (h, b') => (h, σ.set id b')
    | none => none
  | _ => none
def intBin (op : BinOp) (k : IntKind) (x y : Int) : Option (Bool × SV) :=
  match op with
  | .add => some (true, .int k (k.wrap (x + y)))
  | .sub => some (true, .int k (k.wrap (x - y)))
  | .mul => some (true, .int k (k.wrap (x * y)))
  | .quo => some (!decide (y = 0), .int k (k.wrap (x.tdiv y)))
  | .rem => some (!decide (y = 0), .int k (x.tmod y))
  | .eql => some (true, .bool (x == y))
  | .neq => some (true, .bool (x != y))
  | .lss => some (true, .bool (decide (x < y)))
  | .leq => some (true, .bool (decide (x ≤ y)))
  | .gtr => some (true, .bool (decide (x > y)))
  | .geq => some (true, .bool (decide (x ≥ y)))
  | .and => some (true, .int k (k.wrap (BitVec.ofInt k.bits x &&& BitVec.ofInt k.bits y).toNat))
  | _ => none
def shiftBin (op : BinOp) (k : IntKind) (x y : Int) : Option (Bool × SV) :=
  match op with
  | .shl => some (!decide (y < 0), .int k (k.wrap (x * 2 ^ (min y.toNat k.bits))))
  | .shr => some (!decide (y < 0), .int k (x.fdiv (2 ^ (min y.toNat k.bits))))
  | _ => none
def isShift : BinOp → Bool | .shl | .shr => true | _ => false
def evUn (op : UnOp) (x : AV) : Option (Bool × AV) :=
  match op, x with
  | .neg, .one (.int k n) => some (true, .one (.int k (k.wrap (0 - n))))
  | .not, .one (.bool b) => some (true, .one (.bool !b))
  | .neg, .one (.flt k b) => some (true, .one (.flt k (fNeg k b)))
  | _, _ => none
def svLen (σ : List Blk) : SV → Option Nat
  | .nil => some 0
  | .data r => some r.count
  | .own id _ => (σ[id]?).bind fun b => if b.live then some b.count else none
  | .sub _ _ _ n => some n
  | .str s => some s.length
  | _ => none
def svWidth (s : SV) (sz : Nat) : Bool :=
  match s with
  | .data r => r.width == sz
  | .own _ wd => wd == sz
  | .sub _ wd _ _ => wd == sz
  | .nil => true
  | _ => false
def cutSV (σ : List Blk) (x : SV) (l h : Nat) : Option (Bool × SV) :=
  match x with
  | .nil => some (decide (h ≤ 0) && decide (l ≤ h), .nil)
  | .data r => some (decide (h ≤ r.count) && decide (l ≤ h), .data (r.part l (h - l)))
  | .own id wd => match svLen σ (.own id wd) with
    | some n => some (decide (h ≤ n) && decide (l ≤ h), .sub id wd l (h - l))
    | none => none
  | .sub id wd i n => some (decide (h ≤ n) && decide (l ≤ h), .sub id wd (i + l) (h - l))
  | .str s => some (decide (h ≤ s.length) && decide (l ≤ h), .str ((s.drop l).take (h - l)))
  | _ => none
def bound (dflt : Nat) : Option AV → Option (Bool × Nat)
  | none => some (true, dflt)
  | some (.one (.int _ n)) => some (decide (0 ≤ n), n.toNat)
  | _ => none
def roomOf : Blk → Option Nat
  | .cells l => some l.length
  | .row _ (.ints _ xs) => some xs.length
  | _ => none
def arrData (r : Row) (i c n : Nat) : Option (Bool × Row) :=
  match r with
  | .mat k w xss => some (decide (c + n ≤ w) && (decide (i < xss.length) && decide (c + n ≤ (xss.getD i []).length)), .ints k (((xss.getD i []).drop c).take n))
  | _ => none
def strRow : List SV → Option (List (List D))
  | [] => some []
  | .str s :: l => (strRow l).map ([.str s] :: ·)
  | _ => none
def evSlice (P : Program) (σ : List Blk) (t : TypeId) (x : AV) (lo hi mx : Option AV) : Option (Bool × AV) :=
  match mx, P.underlying t, x with
  | none, some (.slice e), .one s =>
    match svLen σ s with
    | some n =>
      match bound 0 lo, bound n hi, sizeT P e with
      | some (c1, l), some (c2, h), some sz => if svWidth s sz then (cutSV σ s l h).map fun (c, v) => (c1 && (c2 && c), .one v) else none
      | _, _, _ => none
    | _ => none
  | none, some .string, .one (.str s) =>
    match bound 0 lo, bound s.length hi with
    | some (c1, l), some (c2, h) => (cutSV σ (.str s) l h).map fun (c, v) => (c1 && (c2 && c), .one v)
    | _, _ => none
  | none, some (.array n e), .one (.ptr id wd i c) =>
    if n ≤ 1048576 then
    match wd, σ[id]?, lo, hi with
    | 1, some (.row _ (.ints _ xs)), none, none => if i + c = 0 then (if sizeT P e = some 1 then some (decide (xs.length = n), .one (.own id 1)) else none) else none
    | 1, some b, _, _ =>
      match roomOf b, bound 0 lo, bound n hi with
      | some q, some (c1, l), some (c2, h) => if sizeT P e = some 1 then some (decide (i + c + n ≤ q) && (c1 && (c2 && (decide (h ≤ n) && decide (l ≤ h)))), .one (.sub id 1 (i + c + l) (h - l))) else none
      | _, _, _ => none
    | _, _, _, _ => none
    else none
  | none, some (.array n e), .one (.dptr r i c) =>
    match lo, hi, sizeT P e with
    | none, none, some 1 => if n ≤ 1048576 then (arrData r i c n).map fun (b, r') => (b, .one (.data r')) else none
    | _, _, _ => none
  | none, some (.array n e), .one (.glb g c) =>
    match lo, hi, sizeT P e, (globOf Glob.tab g).bind fun l => strRow ((l.drop c).take n) with
    | none, none, some 1, some xs => if n ≤ 1048576 ∧ xs.length = n then some (true, .one (.data (.recs [.str] xs))) else none
    | _, _, _, _ => none
  | _, _, _ => none
def evSlice3 (P : Program) (t : TypeId) (x : AV) (lo : Option AV) (hi mx : AV) : Option (Bool × AV) :=
  match P.underlying t, x with
  | some (.slice e), .one (.data r) =>
    match bound 0 lo, bound 0 (some hi), bound 0 (some mx), sizeT P e with
    | some (c1, l), some (c2, h), some (c3, m), some sz => if r.width = sz then some (c1 && (c2 && (c3 && (decide (h ≤ m) && (decide (m ≤ r.count) && decide (l ≤ h))))), .one (.data (r.part l (h - l)))) else none
    | _, _, _, _ => none
  | _, _ => none
end Go.Ev
