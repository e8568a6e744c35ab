/-
  Part of the proof of a law.
-/
import Derived.Test.YtophekjofpahfaaEvDefs
set_option linter.unusedVariables false
set_option linter.unusedSimpArgs false
set_option linter.unusedSectionVars false
/-
  The evaluator: operations that only compute ('evM'), operations that make or write memory or call ('evN').
-/
namespace Go.Ev
open Go
variable [Glob]
def stepN (j sz : Nat) : Nat := if sz = 1 then j else j * sz
def evIndexAddr (P : Program) (σ : List Blk) (t : TypeId) (x ix : AV) : Option (Bool × AV) :=
  match ix, P.underlying t, x with
  | .one (.int _ j), some (.array n e), .one (.ptr id wd i c) =>
    match sizeT P e with
    | some sz => some (decide (0 ≤ j) && decide (j < (n : Int)), .one (if wd = 1 then .ptr id 1 (i + stepN j.toNat sz) c else .ptr id wd i (c + stepN j.toNat sz)))
    | none => none
  | .one (.int _ j), some (.array n e), .one (.dptr r i c) =>
    match sizeT P e with
    | some sz => some (decide (0 ≤ j) && decide (j < (n : Int)), .one (if r.width = 1 then .dptr r (i + stepN j.toNat sz) c else .dptr r i (c + stepN j.toNat sz)))
    | none => none
  | .one (.int _ j), some (.array n e), .one (.glb g c) =>
    match sizeT P e with
    | some sz => some (decide (0 ≤ j) && decide (j < (n : Int)), .one (.glb g (c + stepN j.toNat sz)))
    | none => none
  | .one (.int _ j), some (.slice e), .one s =>
    match svLen σ s, sizeT P e, s with
    | some n, some sz, .data r => if r.width = sz then some (decide (0 ≤ j) && decide (j < (n : Int)), .one (.dptr r j.toNat 0)) else none
    | some n, some sz, .own id wd => if wd = sz then some (decide (0 ≤ j) && decide (j < (n : Int)), .one (.ptr id wd j.toNat 0)) else none
    | some n, some sz, .sub id wd i _ => if wd = sz then some (decide (0 ≤ j) && decide (j < (n : Int)), .one (.ptr id wd (i + j.toNat) 0)) else none
    | _, _, _ => none
  | _, _, _ => none
def evFieldAddr (P : Program) (t : TypeId) (x : AV) (f : Nat) : Option (Bool × AV) :=
  match P.underlying t with
  | some (.struct fs) =>
    match fs[f]? with
    | some fd =>
      match sizeT P fd.type, x with
      | some (_ + 1), .one (.ptr id wd i c) => some (true, .one (.ptr id wd i (c + fd.offset)))
      | some (_ + 1), .one (.dptr r i c) => some (true, .one (.dptr r i (c + fd.offset)))
      | some (_ + 1), .one (.glb g c) => some (true, .one (.glb g (c + fd.offset)))
      | _, _ => none
    | none => none
  | _ => none
def partSV (P : Program) (t : TypeId) (l : List SV) (off : Nat) : Option AV :=
  match aggT P t, sizeT P t with
  | some true, some sz => if off + sz ≤ l.length then some (.agg ((l.drop off).take sz)) else none
  | some false, _ => (l[off]?).map .one
  | _, _ => none
def eqL {α : Type} (g : α → Option Bool) : List α → Option Bool
  | [] => some true
  | [a] => g a
  | a :: l => match g a, eqL g l with
    | some x, some y => some (x && y)
    | _, _ => none
def eqAV (P : Program) : (fuel : Nat) → TypeId → AV → AV → Option Bool
  | 0, _, _, _ => none
  | f + 1, t, x, y =>
    match P.underlying t, x, y with
    | some (.int _), .one (.int k a), .one (.int k' b) => if k = k' then some (a == b) else none
    | some .bool, .one (.bool a), .one (.bool b) => some (a == b)
    | some .string, .one (.str a), .one (.str b) => some (a == b)
    | some (.struct fs), .agg a, .agg b => if P.stoodInHeld t then none else
      eqL (fun fd => if fd.name = "_" then none else match partSV P fd.type a fd.offset, partSV P fd.type b fd.offset with
        | some u, some v => eqAV P f fd.type u v
        | _, _ => none) fs.toList
    | some (.array n e), .agg a, .agg b => match sizeT P e with
      | some sz => eqL (fun i => match partSV P e a (i * sz), partSV P e b (i * sz) with
        | some u, some v => eqAV P f e u v
        | _, _ => none) (List.range n)
      | none => none
    | _, _, _ => none
def evBin (P : Program) (op : BinOp) (xt : TypeId) (x y : AV) : Option (Bool × AV) :=
  match x, y with
  | .one (.int k a), .one (.int k' b) =>
    if isShift op then (shiftBin op k a b).map fun (c, s) => (c, .one s)
    else if k = k' then (intBin op k a b).map fun (c, s) => (c, .one s) else none
  | .one (.str a), .one (.str b) =>
    match op with
    | .add => some (decide (a.length + b.length ≤ 140737488355328), .one (.str (a ++ b)))
    | .eql => some (true, .one (.bool (a == b)))
    | .neq => some (true, .one (.bool (!(a == b))))
    | _ => none
  | .one (.bool a), .one (.bool b) =>
    match op, P.underlying xt with
    | .eql, some .bool => some (true, .one (.bool (a == b)))
    | .neq, some .bool => some (true, .one (.bool (!(a == b))))
    | _, _ => none
  | .one (.flt k a), .one (.flt k' b) =>
    if k = k' then (if isArith op then some (fOk op k a b, .one (.flt k (fVal op k a b))) else if isCmp op then some (true, .one (.bool (fCmp op k a b))) else none) else none
  | .agg a, .agg b =>
    if P.eqGuardType P.depth xt then none
    else
      match op, eqAV P 8 xt (.agg a) (.agg b) with
      | .eql, some e => some (true, .one (.bool e))
      | .neq, some e => some (true, .one (.bool (!e)))
      | _, _ => none
  | _, _ => none
def evField (P : Program) (t : TypeId) (x : AV) (f : Nat) : Option (Bool × AV) :=
  match P.underlying t, x with
  | some (.struct fs), .agg l =>
    match fs[f]? with
    | some fd => (partSV P fd.type l fd.offset).map (true, ·)
    | none => none
  | _, _ => none
def intsOf (l : List SV) : Option (IntKind × List Int) :=
  match kindOf l with
  | some k => (asInts k l).map (k, ·)
  | none => none
def evIndex (P : Program) (t : TypeId) (x ix : AV) : Option (Bool × AV) :=
  match ix, P.underlying t, x with
  | .one (.int _ j), some (.array n e), .agg l =>
    match sizeT P e with
    | some sz => match intsOf l, sz with
      | some (k, xs), 1 => if aggT P e = some false ∧ n ≤ xs.length then some (decide (0 ≤ j) && decide (j < (n : Int)), .one (.int k (xs.getD j.toNat 0))) else none
      | _, _ => (partSV P e l (j.toNat * sz)).map (decide (0 ≤ j) && decide (j < (n : Int)), ·)
    | none => none
  | .one (.int _ j), some .string, .one (.str s) => some (decide (0 ≤ j) && decide (j.toNat < s.length), .one (.int .u8 ((s.getD j.toNat 0).toNat : Int)))
  | _, _, _ => none
def evConvert (P : Program) (src dst : TypeId) (x : AV) : Option (Bool × AV) :=
  match P.underlying src, P.underlying dst, x with
  | some _, some (.int k), .one (.int _ n) => some (true, .one (.int k (k.wrap n)))
  | some _, some .string, .one (.str s) => some (true, .one (.str s))
  | some _, some (.float k), .one (.int _ n) => some (true, .one (.flt k (fOf k n)))
  | some _, some (.int k), .one (.flt s b) => some (fToOk s b k, .one (.int k (fToV s b)))
  | _, _, _ => none
def fillSV (place : Nat → Option (Nat × Nat)) (cells : List SV) : List (Nat × AV) → Option (List SV)
  | [] => some cells
  | (i, v) :: rest =>
    match place i, v.cells with
    | some (off, size), some l => if l.length = size ∧ off + size ≤ cells.length then fillSV place (cells.take off ++ l ++ cells.drop (off + size)) rest else none
    | _, _ => none
def placesT (P : Program) (fs : List Field) : List (Option (Nat × Nat)) := fs.map fun f => (sizeT P f.type).map (f.offset, ·)
def evBuild (P : Program) (t : TypeId) (parts : List (Nat × AV)) : Option (Bool × AV) :=
  match zeroT P t, P.underlying t with
  | some z, some (.struct fs) =>
    if (placesT P fs.toList).all (·.isSome) then (fillSV (fun i => ((placesT P fs.toList)[i]?).getD none) z parts).map fun l => (true, .agg l) else none
  | some z, some (.array _ e) =>
    match sizeT P e with
    | some sz => (fillSV (fun i => some (i * sz, sz)) z parts).map fun l => (true, .agg l)
    | none => none
  | _, _ => none
def capIds : List AV → Option (List Nat)
  | [] => some []
  | .one (.ptr id 1 0 0) :: l => (capIds l).map (id :: ·)
  | _ => none
def evLen (P : Program) (σ : List Blk) (t : TypeId) (x : AV) : Option (Bool × AV) :=
  match P.underlying t, x with
  | some .string, .one (.str s) => some (true, .one (.int .i64 s.length))
  | some (.slice _), .one (.str _) => none
  | some (.slice _), .one s => (svLen σ s).map fun n => (true, .one (.int .i64 n))
  | some (.array n _), _ => some (true, .one (.int .i64 n))
  | some (.map _ _), .one (.mapv id) => match σ[id]? with
    | some (.map _ _ l) => some (true, .one (.int .i64 l.length))
    | _ => none
  | _, _ => none
def maxInt (k : IntKind) : Int → List AV → Option Int
  | x, [] => some x
  | x, .one (.int k' y) :: l => if k' = k then maxInt k (if y > x then y else x) l else none
  | _, _ => none
def minInt (k : IntKind) : Int → List AV → Option Int
  | x, [] => some x
  | x, .one (.int k' y) :: l => if k' = k then minInt k (if y < x then y else x) l else none
  | _, _ => none
def maxFlt (k : FloatKind) : Nat → List AV → Option (Bool × Nat)
  | x, [] => some (true, x)
  | x, .one (.flt k' y) :: l => if k' = k then (maxFlt k (fMaxV k x y) l).map fun (c, n) => (fMaxOk k x y && c, n) else none
  | _, _ => none
def evM (P : Program) (s : St) (o : Op) : Option (Bool × AV) :=
  match o with
  | .move x | .assign x => some (true, s.ov x)
  | .pick c a b => match s.ov c with
    | .one (.bool x) => match x with
      | true => some (true, s.ov a)
      | false => some (true, s.ov b)
    | _ => none
  | .load t a =>
    match s.ov a, sizeT P t with
    | .one p, some n => match aggT P t with
      | some true => (loadSVs s.σ p n).map fun (c, l) => (c, .agg l)
      | some false => match loadSVs s.σ p 1 with
        | some (c, [v]) => some (c, .one v)
        | _ => none
      | none => none
    | _, _ => none
  | .nilCheck x => match s.ov x with
    | .one (.ptr id w i c) => some (true, .one (.ptr id w i c))
    | .one (.dptr r i c) => some (true, .one (.dptr r i c))
    | .one (.glb g c) => some (true, .one (.glb g c))
    | .one (.func f cap) => some (true, .one (.func f cap))
    | _ => none
  | .binOp op xt x y _ => evBin P op xt (s.ov x) (s.ov y)
  | .unOp op _ x => evUn op (s.ov x)
  | .convert src dst x => evConvert P src dst (s.ov x)
  | .makeFunc fn first cap => match fn with
    | .func f => if first.toList.isEmpty then (capIds (cap.toList.map s.ov)).map fun ids => (true, .one (.func f ids)) else none
    | _ => none
  | .slice t x lo hi mx => match mx with
    | none => evSlice P s.σ t (s.ov x) (lo.map s.ov) (hi.map s.ov) none
    | some m => match hi with
      | some h => evSlice3 P t (s.ov x) (lo.map s.ov) (s.ov h) (s.ov m)
      | none => none
  | .fieldAddr t x f => evFieldAddr P t (s.ov x) f
  | .field t x f => evField P t (s.ov x) f
  | .indexAddr t x ix => evIndexAddr P s.σ t (s.ov x) (s.ov ix)
  | .index t x ix => evIndex P t (s.ov x) (s.ov ix)
  | .extract x i => match s.ov x with
    | .tup l => (l[i]?).map fun v => (true, v.av)
    | _ => none
  | .build t parts => evBuild P t (parts.toList.map fun (i, x) => (i, s.ov x))
  | .call { callee := .builtin .len, args, argTypes } =>
    match args.toList, argTypes.toList with
    | [x], t :: _ => evLen P s.σ t (s.ov x)
    | _, _ => none
  | .call { callee := .builtin .max, args, argTypes := _ } =>
    match args.toList.map s.ov with
    | .one (.int k x) :: l => (maxInt k x l).map fun n => (true, .one (.int k n))
    | .one (.flt k x) :: l => (maxFlt k x l).map fun (c, n) => (c, .one (.flt k n))
    | _ => none
  | .call { callee := .builtin .min, args, argTypes := _ } =>
    match args.toList.map s.ov with
    | .one (.int k x) :: l => (minInt k x l).map fun n => (true, .one (.int k n))
    | _ => none
  | _ => none
def movable : Op → Bool
  | .binOp .eql _ _ (.const (.slice none 0 0)) _ => false
  | .binOp .neq _ _ (.const (.slice none 0 0)) _ => false
  | .binOp .eql _ _ (.const .nilIface) _ => false
  | .binOp .neq _ _ (.const .nilIface) _ => false
  | .move _ | .assign _ | .pick .. | .load .. | .nilCheck _ | .binOp .. | .unOp .. | .makeFunc .. | .slice .. | .fieldAddr .. | .field .. | .indexAddr .. | .index .. | .extract .. | .build .. => true
  | .call { callee := .builtin .len, .. } | .call { callee := .builtin .max, .. } | .call { callee := .builtin .min, .. } => true
  | _ => false
def cksT (P : Program) : (fuel : Nat) → TypeId → Option (List CK)
  | 0, _ => none
  | f + 1, t =>
    match P.underlying t with
    | some (.int k) => some [.int k]
    | some .bool => some [.bool]
    | some .string => some [.str]
    | some (.slice e) => match P.underlying e with
      | some (.int k) => some [.sints k]
      | _ => match cksT P f e with
        | some (.int k :: l) => if !l.isEmpty && l.all (· == .int k) then some [.smat k (l.length + 1)] else none
        | _ => none
    | some (.struct fs) => fs.toList.foldr (fun x acc => match cksT P f x.type, acc with | some l, some k => some (l ++ k) | _, _ => none) (some [])
    | some (.array n e) => (cksT P f e).map fun l => (List.replicate n l).flatten
    | _ => none
inductive RKind where
  | ints (k : IntKind)
  | mat (k : IntKind) (w : Nat)
  | recs (cks : List CK)
  | cells
def rkind (P : Program) (e : TypeId) : RKind :=
  match cksT P 6 e with
  | some [.int k] => .ints k
  | some (.int k :: l) => if l.all (· == .int k) then .mat k (l.length + 1) else .recs (.int k :: l)
  | some (c :: l) => .recs (c :: l)
  | _ => .cells
def toD : CK → SV → Option D
  | .int k, .int k' n => if k' = k then some (.int n) else none
  | .bool, .bool b => some (.bool b)
  | .str, .str s => some (.str s)
  | .sints _, .nil => some (.ints [])
  | .sints k, .data (.ints k' xs) => if k' = k then some (.ints xs) else none
  | .smat _ _, .nil => some (.mat [])
  | .smat k w, .data (.mat k' w' xss) => if k' = k ∧ w' = w then some (.mat xss) else none
  | _, _ => none
def toDs : List CK → List SV → Option (List D)
  | [], [] => some []
  | c :: cs, s :: ss => match toD c s, toDs cs ss with
    | some d, some ds => some (d :: ds)
    | _, _ => none
  | _, _ => none
def mapOpt {α β : Type} (f : α → Option β) : List α → Option (List β)
  | [] => some []
  | a :: l => match f a, mapOpt f l with
    | some b, some k => some (b :: k)
    | _, _ => none
def rowOf (P : Program) (e : TypeId) (els : List (List SV)) (cel : Bool := false) : Option Blk :=
  match cel with
  | true => some (.cells els.flatten)
  | false => match rkind P e with
  | .ints k => (asInts k els.flatten).map fun xs => .row e (.ints k xs)
  | .mat k w => if els.all (·.length == w) then (mapOpt (asInts k) els).map fun xss => .row e (.mat k w xss) else none
  | .recs cks => if els.all (·.length == cks.length) then (mapOpt (toDs cks) els).map fun xss => .row e (.recs cks xss) else none
  | .cells => some (.cells els.flatten)
def Blk.width : Blk → Nat
  | .row _ r => r.width
  | _ => 1
def newBlk (P : Program) (t : TypeId) (l : List SV) : Blk :=
  match P.underlying t with
  | some (.array _ _) => match kindOf l with
    | some k => match asInts k l with
      | some xs => .row t (.ints k xs)
      | none => .cells l
    | none => .cells l
  | _ => .cells l
def viewRow (P : Program) (σ : List Blk) (e : TypeId) : SV → Option (Bool × Row)
  | .nil => match rkind P e with
    | .ints k => some (true, .ints k [])
    | .mat k w => some (true, .mat k w [])
    | .recs cks => some (true, .recs cks [])
    | .cells => none
  | .data r => some (true, r)
  | .own id wd => match σ[id]? with
    | some (.row _ r) => if wd = r.width then some (true, r) else none
    | _ => none
  | .sub id wd i n => match σ[id]? with
    | some (.row _ r) => if wd = r.width then some (decide (i + n ≤ r.count), r.part i n) else none
    | some (.cells l) => if wd = 1 then (if i + n ≤ l.length then (match kindOf ((l.drop i).take n) with | some k => (asInts k ((l.drop i).take n)).map fun xs => (true, .ints k xs) | none => none) else none) else none
    | _ => none
  | _ => none
def Row.app : Row → Row → Option Row
  | .ints k xs, .ints k' ys => if k' = k then some (.ints k (xs ++ ys)) else none
  | .mat k w xs, .mat k' w' ys => if k' = k ∧ w' = w then some (.mat k w (xs ++ ys)) else none
  | .recs c xs, .recs c' ys => if c' = c then some (.recs c (xs ++ ys)) else none
  | _, _ => none
end Go.Ev
