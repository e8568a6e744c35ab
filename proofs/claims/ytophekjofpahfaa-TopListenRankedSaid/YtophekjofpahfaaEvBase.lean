/-
  Part of the proof of a law.
-/
import Derived.Calls
import Derived.Laws.World
import Derived.Laws.Sem
import Derived.Laws.Cells
import Derived.Laws.AppendOwn
import Derived.Laws.MakeOwn
import Derived.Laws.Entries
import Derived.Below
import Derived.CallsIn
set_option linter.unusedVariables false
set_option linter.unusedSimpArgs false
set_option linter.unusedSectionVars false
/-
  The abstract values, blocks and rows of the evaluator 'Ev', what they denote in a world, and that this is kept.
-/
namespace Go.Ev
open Go Go.RowKit
inductive CK where
  | int (k : IntKind)
  | bool
  | str
  | sints (k : IntKind)
  | smat (k : IntKind) (w : Nat)
  deriving DecidableEq
inductive D where
  | int (n : Int)
  | bool (b : Bool)
  | str (s : List UInt8)
  | ints (xs : List Int)
  | mat (xss : List (List Int))
  deriving DecidableEq
def D.toInt : D → Int | .int n => n | _ => 0
def D.toBool : D → Bool | .bool b => b | _ => false
def D.toStr : D → List UInt8 | .str s => s | _ => []
def D.toInts : D → List Int | .ints xs => xs | _ => []
def D.toMat : D → List (List Int) | .mat xss => xss | _ => []
inductive Row where
  | ints (k : IntKind) (xs : List Int)
  | mat (k : IntKind) (w : Nat) (xss : List (List Int))
  | recs (cks : List CK) (xss : List (List D))
def Row.count : Row → Nat
  | .ints _ xs => xs.length
  | .mat _ _ xss => xss.length
  | .recs _ xss => xss.length
def Row.width : Row → Nat
  | .ints _ _ => 1
  | .mat _ w _ => w
  | .recs cks _ => cks.length
inductive SV where
  | any
  | int (k : IntKind) (n : Int)
  | bool (b : Bool)
  | str (s : List UInt8)
  | flt (k : FloatKind) (b : Nat)
  | nil
  | data (r : Row)
  | own (id w : Nat)
  | sub (id w i n : Nat)
  | ptr (id w i c : Nat)
  | dptr (r : Row) (i c : Nat)
  | func (f : FuncId) (cap : List Nat)
  | yld (id : Nat)
  | glb (g c : Nat)
  | mapv (id : Nat)
  | ifc (b : Bool)
inductive TV where
  | one (s : SV)
  | agg (l : List SV)
inductive AV where
  | any
  | one (s : SV)
  | agg (l : List SV)
  | tup (l : List TV)
def TV.av : TV → AV | .one s => .one s | .agg l => .agg l
abbrev GJ := (Nat → Prop) → (Nat → Prop) → Option (List (List AV)) → World → Prop
inductive Blk where
  | dead
  | cells (l : List SV)
  | row (t : TypeId) (r : Row)
  | ghost (P : Program) (J : GJ) (D : Nat → Prop) (r : Option (List (List AV)))
  | map (kw vw : Nat) (l : List (List Int × List Int))
  | iter (m kw vw : Nat) (rem : List (List Int × List Int)) (cur : Option (List Int × List Int))
def Blk.live : Blk → Bool | .dead => false | _ => true
def Blk.count : Blk → Nat
  | .dead => 0
  | .cells l => l.length
  | .row _ r => r.count
  | .ghost .. => 0
  | .map .. => 0
  | .iter .. => 0
def Blk.owns (b : Blk) (g k : Nat) : Prop := k = g ∨ match b with
  | .ghost _ _ D _ => D k
  | .iter m _ _ _ _ => k = m
  | _ => False
theorem Blk.owns_self (b : Blk) (g : Nat) : b.owns g g := .inl rfl
def Blk.solid : Blk → Prop | .ghost .. => False | .iter .. => False | _ => True
theorem Blk.owns_solid {b : Blk} (hs : b.solid) {g k : Nat} (h : b.owns g k) : k = g := by
  cases b with
  | ghost => exact hs.elim
  | iter => exact hs.elim
  | _ => exact h.resolve_right (fun h => h)
def mk : CK → D → SV
  | .int k, d => .int k d.toInt
  | .bool, d => .bool d.toBool
  | .str, d => .str d.toStr
  | .sints k, d => .data (.ints k d.toInts)
  | .smat k w, d => .data (.mat k w d.toMat)
def Row.sv (r : Row) (i c : Nat) : Option SV :=
  match r with
  | .ints k xs => some (.int k (xs.getD (i + c) 0))
  | .mat k _ xss => some (.int k ((xss.getD i []).getD c 0))
  | .recs cks xss => (cks[c]?).map fun ck => mk ck ((xss.getD i []).getD c (.int 0))
def Row.has (r : Row) (i c : Nat) : Bool :=
  match r with
  | .ints _ xs => decide (i + c < xs.length)
  | .mat _ w xss => decide (c < w) && decide (i < xss.length)
  | .recs cks xss => decide (c < cks.length) && decide (i < xss.length)
class Glob where
  tab : List (Nat × List SV)
def globOf : List (Nat × List SV) → Nat → Option (List SV)
  | [], _ => none
  | p :: l, g => bif Nat.beq p.1 g then some p.2 else globOf l g
def plainDen : SV → Value → Prop
  | .int k n, u => u = .int k n
  | .bool b, u => u = .bool b
  | .str s, u => u = .string ⟨s.toArray⟩
  | .flt k b, u => u = .float k b
  | .ifc b, u => (b = true ∧ u = .nilIface) ∨ (b = false ∧ ∃ t v, u = .iface t v)
  | .any, u => ∃ n, u = .int .i64 n
  | _, _ => False
def GlobOK [Glob] (m : Nat → Prop) (w : World) : Prop := ∀ (g : Nat) (l : List SV), globOf Glob.tab g = some l → g < w.heap.size ∧ ¬ m g ∧ ∀ (j : Nat) (sv : SV), l[j]? = some sv → (∃ u, w.cell? ⟨g, j, none⟩ = some u ∧ plainDen sv u) ∧ ∃ arr t fr, w.heap[g]? = some (.cells arr t fr) ∧ arr.size = l.length
def IntsAt (w : World) (m : Nat → Prop) (k : IntKind) (xs : List Int) (u : Value) : Prop :=
  ∃ a cap, u = .slice a xs.length cap ∧ xs.length ≤ cap ∧ cap ≤ maxLen ∧
    (xs = [] ∨ ∃ ad, a = some ad ∧ ad.block < w.heap.size ∧ ¬ m ad.block ∧ ∀ (i : Nat) (x : Int), xs[i]? = some x → w.cell? (ad.add i) = some (.int k x))
def MatAt (w : World) (m : Nat → Prop) (k : IntKind) (wd : Nat) (xss : List (List Int)) (u : Value) : Prop :=
  ∃ a cap, u = .slice a xss.length cap ∧ xss.length ≤ cap ∧ cap ≤ maxLen ∧
    (xss = [] ∨ ∃ ad, a = some ad ∧ ad.block < w.heap.size ∧ ¬ m ad.block ∧ ∀ (i : Nat) (xs : List Int), xss[i]? = some xs → ∀ c, c < wd → w.cell? (ad.add (i * wd + c)) = some (.int k (xs.getD c 0)))
def DenC (w : World) (m : Nat → Prop) : CK → D → Value → Prop
  | .int k, d, u => u = .int k d.toInt
  | .bool, d, u => u = .bool d.toBool
  | .str, d, u => u = .string ⟨d.toStr.toArray⟩
  | .sints k, d, u => IntsAt w m k d.toInts u
  | .smat k wd, d, u => MatAt w m k wd d.toMat u
def RowCells (w : World) (m : Nat → Prop) (get : Nat → Option Value) : Row → Prop
  | .ints k xs => ∀ (i : Nat) (x : Int), xs[i]? = some x → get i = some (.int k x)
  | .mat k wd xss => ∀ (i : Nat) (xs : List Int), xss[i]? = some xs → ∀ c, c < wd → get (i * wd + c) = some (.int k (xs.getD c 0))
  | .recs cks xss => ∀ (i : Nat) (xs : List D), xss[i]? = some xs → ∀ (c : Nat) (ck : CK), cks[c]? = some ck → ∃ u, get (i * cks.length + c) = some u ∧ DenC w m ck (xs.getD c (.int 0)) u
def RowAt (w : World) (m : Nat → Prop) (r : Row) (ad : Addr) : Prop :=
  ad.block < w.heap.size ∧ ¬ m ad.block ∧ RowCells w m (fun j => w.cell? (ad.add j)) r
def DenS (w : World) (m : Nat → Prop) (ρ : List (Nat × Nat)) : SV → Value → Prop
  | .any, u => u.oneCell' = true
  | .int k n, u => u = .int k n
  | .bool b, u => u = .bool b
  | .str s, u => u = .string ⟨s.toArray⟩
  | .flt k b, u => u = .float k b
  | .nil, u => u = .slice none 0 0
  | .data r, u => ∃ a cap, u = .slice a r.count cap ∧ r.count ≤ cap ∧ cap ≤ maxLen ∧ (r.count = 0 ∨ ∃ ad, a = some ad ∧ RowAt w m r ad)
  | .own id wd, u => ∃ g n cap t sz, ρ[id]? = some (g, n) ∧ u = .slice (some ⟨g, 0, none⟩) n cap ∧ n ≤ cap ∧ cap ≤ maxLen ∧ w.shape? g = some (t, sz) ∧ cap * wd ≤ sz
  | .sub id wd i n, u => ∃ g x off cap, ρ[id]? = some (g, x) ∧ u = .slice (some ⟨g, off, none⟩) n cap ∧ n ≤ cap ∧ cap ≤ maxLen ∧ (n = 0 ∨ off = i * wd) ∧ (i = 0 → off = 0 ∧ ∃ t sz, w.shape? g = some (t, sz) ∧ cap * wd ≤ sz)
  | .ptr id wd i c, u => ∃ g x, ρ[id]? = some (g, x) ∧ u = .pointer (some ⟨g, i * wd + c, none⟩)
  | .dptr r i c, u => ∃ ad, u = .pointer (some (ad.add (i * r.width + c))) ∧ RowAt w m r ad
  | .func f cap, u => ∃ gs : List (Nat × Nat), cap.map (ρ[·]?) = gs.map some ∧ u = .func (.func f) #[] (gs.map fun g => Value.pointer (some ⟨g.1, 0, none⟩)).toArray
  | .yld id, u => ∃ g x, ρ[id]? = some (g, x) ∧ u = .func (.yield g) #[] #[]
  | .glb g c, u => u = .pointer (some ⟨g, c, none⟩)
  | .mapv id, u => ∃ g x, ρ[id]? = some (g, x) ∧ u = .map (some g)
  | .ifc b, u => (b = true ∧ u = .nilIface) ∨ (b = false ∧ ∃ t v, u = .iface t v)
def All2 {α β : Type} (R : α → β → Prop) : List α → List β → Prop
  | [], [] => True
  | a :: l, b :: k => R a b ∧ All2 R l k
  | _, _ => False
def DenT (w : World) (m : Nat → Prop) (ρ : List (Nat × Nat)) : TV → Value → Prop
  | .one s, u => DenS w m ρ s u
  | .agg l, u => ∃ vs : List Value, u = .agg vs.toArray ∧ All2 (DenS w m ρ) l vs
def Den (w : World) (m : Nat → Prop) (ρ : List (Nat × Nat)) : AV → Value → Prop
  | .any, _ => True
  | .one s, u => DenS w m ρ s u
  | .agg l, u => ∃ vs : List Value, u = .agg vs.toArray ∧ All2 (DenS w m ρ) l vs
  | .tup l, u => ∃ vs : List Value, u = .tuple vs.toArray ∧ All2 (DenT w m ρ) l vs
structure Keep (m m' : Nat → Prop) (w w' : World) : Prop where
  size : w.heap.size ≤ w'.heap.size
  blk : ∀ b, b < w.heap.size → ¬ m b → w'.heap[b]? = w.heap[b]?
  mt : ∀ b, b < w.heap.size → m' b → m b
  shape : ∀ b, b < w.heap.size → w'.shape? b = w.shape? b
structure Proto (P : Program) (l : Nat) (J : GJ) : Prop where
  keep : ∀ (m m' D : Nat → Prop) (r : Option (List (List AV))) (w w' : World), J m D r w → Keep m m' w w' → (∀ k, k = l ∨ D k → w'.heap[k]? = w.heap[k]?) → J m' D r w'
  round : ∀ (m D : Nat → Prop) (x : List AV) (rest : List (List AV)) (w : World) (vals : List Value), J m D (some (x :: rest)) w → (∀ k, m k → k < w.heap.size) → (∀ k, k = l ∨ D k → m k) → All2 (Den w m []) x vals →
    ∃ fn tmps assign body, (Instr.yield l vals.toArray).run P w = .ok (.round l fn tmps assign body) w ∧ ∀ n, RoundIn Fence.wide n P l fn tmps assign body w fun e w' => ∃ (c : Bool) (D' : Nat → Prop), e = .returned (.bool c) ∧
      J (fun k => (m k ∧ ¬ (k = l ∨ D k)) ∨ (k = l ∨ D' k)) D' (if c then some rest else none) w' ∧ (∀ k, D' k → (k < w.heap.size → D k) ∧ k < w'.heap.size) ∧
      w.heap.size ≤ w'.heap.size ∧ (∀ k, k < w.heap.size → ¬ (k = l ∨ D k) → w'.heap[k]? = w.heap[k]?) ∧ (∀ k, k < w.heap.size → w'.shape? k = w.shape? k) ∧ w'.os = w.os ∧ w'.tape = w.tape ∧ w'.output = w.output
def valI (w : Nat) (xs : List Int) : Value := match w with
  | 0 => .int .i64 (xs.getD 0 0)
  | _ => .agg (xs.map (Value.int .i64)).toArray
def wdI (w : Nat) : Nat := match w with | 0 => 1 | n + 1 => n + 1
def EntAt (kw vw : Nat) (e : MapEntry) (x : List Int × List Int) : Prop := e.key = valI kw x.1 ∧ e.val = valI vw x.2 ∧ x.1.length = wdI kw ∧ x.2.length = wdI vw
def MapEs (kw vw : Nat) (es : Array MapEntry) (clock : Nat) (l : List (List Int × List Int)) : Prop :=
  All2 (EntAt kw vw) es.toList l ∧ (es.toList.map (·.born)).Nodup ∧ ∀ e ∈ es.toList, e.born < clock
def unseen (es : Array MapEntry) (seen : Array Nat) : List MapEntry := es.toList.filter fun e => !seen.contains e.born
def DenBlk (w : World) (m : Nat → Prop) (ρ : List (Nat × Nat)) (g : Nat) : Blk → Prop
  | .dead => True
  | .ghost P J D r => J m D r w ∧ Proto P g J
  | .cells l => ∃ arr t, w.heap[g]? = some (.cells arr t (0, 0)) ∧ ∀ (j : Nat) (sv : SV), l[j]? = some sv → ∃ u, arr[j]? = some u ∧ DenS w m ρ sv u
  | .row t r => ∃ arr, w.heap[g]? = some (.cells arr t (0, 0)) ∧ RowCells w m (fun j => arr[j]?) r
  | .map kw vw l => ∃ es clock, w.heap[g]? = some (.map es clock) ∧ MapEs kw vw es clock l
  | .iter mb kw vw rem cur => ∃ es clock seen, w.heap[g]? = some (.mapIter (some mb) clock seen clock) ∧ w.heap[mb]? = some (.map es clock) ∧ (es.toList.map (·.born)).Nodup ∧ (∀ e ∈ es.toList, e.born < clock) ∧
      All2 (EntAt kw vw) (unseen es seen) rem ∧ (∀ x, cur = some x → ∃ (e : MapEntry) (s : Array Nat), e ∈ es.toList ∧ seen = s.push e.born ∧ EntAt kw vw e x)
def LMut (ρ : List (Nat × Nat)) (σ : List Blk) (k : Nat) : Prop := ∃ (id : Nat) (b : Blk) (n g : Nat), σ[id]? = some b ∧ b.live = true ∧ ρ[id]? = some (g, n) ∧ b.owns g k
def Mut (F : Nat → Prop) (ρ : List (Nat × Nat)) (σ : List Blk) (g : Nat) : Prop := F g ∨ LMut ρ σ g
theorem All2.length {α β : Type} {R : α → β → Prop} : ∀ {l : List α} {k : List β}, All2 R l k → l.length = k.length
  | [], [], _ => rfl
  | [], _ :: _, h => h.elim
  | _ :: _, [], h => h.elim
  | _ :: l, _ :: k, h => by simp [All2.length h.2]
theorem All2.get {α β : Type} {R : α → β → Prop} : ∀ {l : List α} {k : List β}, All2 R l k → ∀ {i : Nat} {a : α}, l[i]? = some a → ∃ b, k[i]? = some b ∧ R a b
  | [], [], _, _, _, h => by simp at h
  | [], _ :: _, h, _, _, _ => h.elim
  | _ :: _, [], h, _, _, _ => h.elim
  | x :: l, y :: k, h, 0, a, hi => by simp at hi; subst hi; exact ⟨y, rfl, h.1⟩
  | x :: l, y :: k, h, i + 1, a, hi => All2.get h.2 (by simpa using hi)
theorem All2.mk {α β : Type} {R : α → β → Prop} : ∀ {l : List α} {k : List β}, l.length = k.length → (∀ (i : Nat) (a : α) (b : β), l[i]? = some a → k[i]? = some b → R a b) → All2 R l k
  | [], [], _, _ => trivial
  | [], _ :: _, h, _ => by simp at h
  | _ :: _, [], h, _ => by simp at h
  | x :: l, y :: k, h, H => ⟨H 0 x y rfl rfl, All2.mk (by simpa using h) fun i a b ha hb => H (i + 1) a b (by simpa using ha) (by simpa using hb)⟩
theorem All2.imp {α β : Type} {R S : α → β → Prop} (H : ∀ a b, R a b → S a b) : ∀ {l : List α} {k : List β}, All2 R l k → All2 S l k
  | [], [], _ => trivial
  | [], _ :: _, h => h.elim
  | _ :: _, [], h => h.elim
  | _ :: _, _ :: _, h => ⟨H _ _ h.1, All2.imp H h.2⟩
theorem All2.append {α β : Type} {R : α → β → Prop} : ∀ {l l' : List α} {k k' : List β}, All2 R l k → All2 R l' k' → All2 R (l ++ l') (k ++ k')
  | [], _, [], _, _, h' => h'
  | [], _, _ :: _, _, h, _ => h.elim
  | _ :: _, _, [], _, h, _ => h.elim
  | _ :: _, _, _ :: _, _, h, h' => ⟨h.1, All2.append h.2 h'⟩
theorem All2.map_left {α β γ : Type} {R : α → β → Prop} {S : γ → β → Prop} {f : α → γ} (H : ∀ a b, R a b → S (f a) b) : ∀ {l : List α} {k : List β}, All2 R l k → All2 S (l.map f) k
  | [], [], _ => trivial
  | [], _ :: _, h => h.elim
  | _ :: _, [], h => h.elim
  | _ :: _, _ :: _, h => ⟨H _ _ h.1, All2.map_left H h.2⟩
theorem All2.take {α β : Type} {R : α → β → Prop} : ∀ {l : List α} {k : List β} (n : Nat), All2 R l k → All2 R (l.take n) (k.take n)
  | _, _, 0, _ => by simp [All2]
  | [], [], n + 1, _ => by simp [All2]
  | [], _ :: _, _, h => h.elim
  | _ :: _, [], _, h => h.elim
  | _ :: _, _ :: _, n + 1, h => ⟨h.1, All2.take n h.2⟩
theorem All2.drop {α β : Type} {R : α → β → Prop} : ∀ {l : List α} {k : List β} (n : Nat), All2 R l k → All2 R (l.drop n) (k.drop n)
  | _, _, 0, h => h
  | [], [], n + 1, _ => by simp [All2]
  | [], _ :: _, _, h => h.elim
  | _ :: _, [], _, h => h.elim
  | _ :: _, _ :: _, n + 1, h => All2.drop n h.2
theorem add_block (a : Addr) (n : Nat) : (a.add n).block = a.block := by unfold Addr.add; split <;> rfl
theorem add_add (a : Addr) (i j : Nat) : (a.add i).add j = a.add (i + j) := by
  unfold Addr.add
  by_cases hi : i = 0 <;> by_cases hj : j = 0 <;> simp [hi, hj, Nat.add_assoc]
theorem cell_of_heap {w w' : World} {a : Addr} (h : w'.heap[a.block]? = w.heap[a.block]?) : w'.cell? a = w.cell? a := World.cell?_of_block h
theorem shape_lt {w : World} {g : Nat} {x : TypeId × Nat} (h : w.shape? g = some x) : g < w.heap.size := by
  unfold World.shape? at h
  rcases Nat.lt_or_ge g w.heap.size with hl | hl
  · exact hl
  · rw [Array.getElem?_eq_none hl] at h; simp at h
section
variable {m m' : Nat → Prop} {w w' : World}
theorem Keep.refl (m : Nat → Prop) (w : World) : Keep m m w w := ⟨Nat.le_refl _, fun _ _ _ => rfl, fun _ _ h => h, fun _ _ => rfl⟩
theorem Keep.trans {m'' : Nat → Prop} {w'' : World} (h : Keep m m' w w') (k : Keep m' m'' w' w'') : Keep m m'' w w'' :=
  ⟨Nat.le_trans h.size k.size, fun b hb hm => (k.blk b (Nat.lt_of_lt_of_le hb h.size) fun hm' => hm (h.mt b hb hm')).trans (h.blk b hb hm),
   fun b hb hm => h.mt b hb (k.mt b (Nat.lt_of_lt_of_le hb h.size) hm), fun b hb => (k.shape b (Nat.lt_of_lt_of_le hb h.size)).trans (h.shape b hb)⟩
theorem GlobOK.keep [Glob] (K : Keep m m' w w') (h : GlobOK m w) : GlobOK m' w' := by
  intro g l hl
  obtain ⟨h1, h2, h3⟩ := h g l hl
  refine ⟨Nat.lt_of_lt_of_le h1 K.size, fun hm => h2 (K.mt _ h1 hm), fun j sv hj => ?_⟩
  obtain ⟨⟨u, hu, hd⟩, arr, t, fr, ha, hs⟩ := h3 j sv hj
  exact ⟨⟨u, by rw [cell_of_heap (w := w)]; exact hu; exact K.blk _ h1 h2, hd⟩, arr, t, fr, (K.blk _ h1 h2).trans ha, hs⟩
theorem plainDen.den {ρ : List (Nat × Nat)} {sv : SV} {u : Value} (h : plainDen sv u) : DenS w m ρ sv u := by
  cases sv with
  | int k n => exact h
  | bool b => exact h
  | str s => exact h
  | flt k b => exact h
  | ifc b => exact h
  | any => obtain ⟨n, rfl⟩ := h; rfl
  | _ => exact h.elim
theorem IntsAt.keep {k : IntKind} {xs : List Int} {u : Value} (K : Keep m m' w w') (h : IntsAt w m k xs u) : IntsAt w' m' k xs u := by
  obtain ⟨a, cap, h1, h2, h3, h4⟩ := h
  refine ⟨a, cap, h1, h2, h3, h4.imp_right ?_⟩
  rintro ⟨ad, e, hb, hm, hc⟩
  refine ⟨ad, e, Nat.lt_of_lt_of_le hb K.size, fun hm' => hm (K.mt _ hb hm'), fun i x hx => ?_⟩
  rw [cell_of_heap (w := w)]
  · exact hc i x hx
  · rw [add_block]; exact K.blk _ hb hm
theorem MatAt.keep {k : IntKind} {wd : Nat} {xss : List (List Int)} {u : Value} (K : Keep m m' w w') (h : MatAt w m k wd xss u) : MatAt w' m' k wd xss u := by
  obtain ⟨a, cap, h1, h2, h3, h4⟩ := h
  refine ⟨a, cap, h1, h2, h3, h4.imp_right ?_⟩
  rintro ⟨ad, e, hb, hm, hc⟩
  refine ⟨ad, e, Nat.lt_of_lt_of_le hb K.size, fun hm' => hm (K.mt _ hb hm'), fun i x hx c hc' => ?_⟩
  rw [cell_of_heap (w := w)]
  · exact hc i x hx c hc'
  · rw [add_block]; exact K.blk _ hb hm
theorem DenC.keep {ck : CK} {d : D} {u : Value} (K : Keep m m' w w') (h : DenC w m ck d u) : DenC w' m' ck d u := by
  cases ck with
  | sints k => exact IntsAt.keep K h
  | smat k wd => exact MatAt.keep K h
  | _ => exact h
theorem RowCells.keep {get : Nat → Option Value} {r : Row} (K : Keep m m' w w') (h : RowCells w m get r) : RowCells w' m' get r := by
  cases r with
  | ints k xs => exact h
  | mat k wd xss => exact h
  | recs cks xss =>
    intro i xs hi c ck hc
    obtain ⟨u, hu, hd⟩ := h i xs hi c ck hc
    exact ⟨u, hu, hd.keep K⟩
theorem RowCells.congr {get get' : Nat → Option Value} {r : Row} (h : RowCells w m get r) (H : ∀ j u, get j = some u → get' j = some u) : RowCells w m get' r := by
  cases r with
  | ints k xs => exact fun i x hx => H _ _ (h i x hx)
  | mat k wd xss => exact fun i xs hi c hc => H _ _ (h i xs hi c hc)
  | recs cks xss =>
    intro i xs hi c ck hc
    obtain ⟨u, hu, hd⟩ := h i xs hi c ck hc
    exact ⟨u, H _ _ hu, hd⟩
theorem RowAt.keep {r : Row} {ad : Addr} (K : Keep m m' w w') (h : RowAt w m r ad) : RowAt w' m' r ad := by
  obtain ⟨hb, hm, hc⟩ := h
  refine ⟨Nat.lt_of_lt_of_le hb K.size, fun hm' => hm (K.mt _ hb hm'), (hc.keep K).congr fun j u hj => ?_⟩
  rw [cell_of_heap (w := w)]
  · exact hj
  · rw [add_block]; exact K.blk _ hb hm
theorem DenS.keep {ρ ρ' : List (Nat × Nat)} {sv : SV} {u : Value} (K : Keep m m' w w') (hρ : ∀ (id : Nat) (g : Nat × Nat), ρ[id]? = some g → ρ'[id]? = some g) (h : DenS w m ρ sv u) : DenS w' m' ρ' sv u := by
  cases sv with
  | data r =>
    obtain ⟨a, cap, h1, h2, h3, h4⟩ := h
    exact ⟨a, cap, h1, h2, h3, h4.imp_right fun ⟨ad, e, hr⟩ => ⟨ad, e, hr.keep K⟩⟩
  | own id wd =>
    obtain ⟨g, n, cap, t, sz, h1, h2, h3, h4, h5, h6⟩ := h
    exact ⟨g, n, cap, t, sz, hρ _ _ h1, h2, h3, h4, (K.shape g (shape_lt h5)).trans h5, h6⟩
  | sub id wd i n =>
    obtain ⟨g, x, off, cap, h1, h2, h3, h4, h5, h6⟩ := h
    exact ⟨g, x, off, cap, hρ _ _ h1, h2, h3, h4, h5, fun hi => (h6 hi).imp_right fun ⟨t, sz, a, b⟩ => ⟨t, sz, (K.shape g (shape_lt a)).trans a, b⟩⟩
  | ptr id wd i c =>
    obtain ⟨g, x, h1, h2⟩ := h
    exact ⟨g, x, hρ _ _ h1, h2⟩
  | dptr r i c =>
    obtain ⟨ad, h1, h2⟩ := h
    exact ⟨ad, h1, h2.keep K⟩
  | func f cap =>
    obtain ⟨gs, h1, h2⟩ := h
    refine ⟨gs, ?_, h2⟩
    have : ∀ (cap : List Nat) (gs : List (Nat × Nat)), cap.map (ρ[·]?) = gs.map some → cap.map (ρ'[·]?) = gs.map some := by
      intro cap
      induction cap with
      | nil => intro gs h; simpa using h
      | cons c cap ih =>
        intro gs h
        cases gs with
        | nil => simp at h
        | cons g gs =>
          simp only [List.map_cons, List.cons.injEq] at h ⊢
          exact ⟨hρ _ _ h.1, ih gs h.2⟩
    exact this cap gs h1
  | yld id =>
    obtain ⟨g, x, h1, h2⟩ := h
    exact ⟨g, x, hρ _ _ h1, h2⟩
  | mapv id =>
    obtain ⟨g, x, h1, h2⟩ := h
    exact ⟨g, x, hρ _ _ h1, h2⟩
  | _ => exact h
theorem DenT.keep {ρ ρ' : List (Nat × Nat)} {tv : TV} {u : Value} (K : Keep m m' w w') (hρ : ∀ (id : Nat) (g : Nat × Nat), ρ[id]? = some g → ρ'[id]? = some g) (h : DenT w m ρ tv u) : DenT w' m' ρ' tv u := by
  cases tv with
  | one s => exact DenS.keep K hρ h
  | agg l =>
    obtain ⟨vs, e, hl⟩ := h
    exact ⟨vs, e, hl.imp fun _ _ => DenS.keep K hρ⟩
theorem Den.keep {ρ ρ' : List (Nat × Nat)} {a : AV} {u : Value} (K : Keep m m' w w') (hρ : ∀ (id : Nat) (g : Nat × Nat), ρ[id]? = some g → ρ'[id]? = some g) (h : Den w m ρ a u) : Den w' m' ρ' a u := by
  cases a with
  | any => trivial
  | one s => exact DenS.keep K hρ h
  | agg l =>
    obtain ⟨vs, e, hl⟩ := h
    exact ⟨vs, e, hl.imp fun _ _ => DenS.keep K hρ⟩
  | tup l =>
    obtain ⟨vs, e, hl⟩ := h
    exact ⟨vs, e, hl.imp fun _ _ => DenT.keep K hρ⟩
theorem DenBlk.keep {ρ ρ' : List (Nat × Nat)} {g : Nat} {b : Blk} (K : Keep m m' w w') (hρ : ∀ (id : Nat) (g : Nat × Nat), ρ[id]? = some g → ρ'[id]? = some g) (hh : ∀ k, b.owns g k → w'.heap[k]? = w.heap[k]?)
    (h : DenBlk w m ρ g b) : DenBlk w' m' ρ' g b := by
  have hg := hh g (b.owns_self g)
  cases b with
  | dead => trivial
  | ghost P J D r => exact ⟨h.2.keep m m' D r w w' h.1 K hh, h.2⟩
  | cells l =>
    obtain ⟨arr, t, h1, h2⟩ := h
    refine ⟨arr, t, hg.trans h1, fun j sv hj => ?_⟩
    obtain ⟨u, hu, hd⟩ := h2 j sv hj
    exact ⟨u, hu, hd.keep K hρ⟩
  | row t r =>
    obtain ⟨arr, h1, h2⟩ := h
    exact ⟨arr, hg.trans h1, h2.keep K⟩
  | map kw vw l =>
    obtain ⟨es, clock, h1, h2⟩ := h
    exact ⟨es, clock, hg.trans h1, h2⟩
  | iter mb kw vw rem cur =>
    obtain ⟨es, clock, seen, h1, h2, h3⟩ := h
    exact ⟨es, clock, seen, hg.trans h1, (hh mb (.inr rfl)).trans h2, h3⟩
end
theorem DenS.one {w : World} {m : Nat → Prop} {ρ : List (Nat × Nat)} {sv : SV} {u : Value} (h : DenS w m ρ sv u) : u.oneCell' = true := by
  cases sv with
  | any => exact h
  | data r => obtain ⟨a, cap, rfl, _⟩ := h; rfl
  | own id wd => obtain ⟨g, n, cap, t, sz, _, rfl, _⟩ := h; rfl
  | sub id wd i n => obtain ⟨g, x, off, cap, _, rfl, _⟩ := h; rfl
  | ptr id wd i c => obtain ⟨g, x, _, rfl⟩ := h; rfl
  | dptr r i c => obtain ⟨ad, rfl, _⟩ := h; rfl
  | func f cap => obtain ⟨gs, _, rfl⟩ := h; rfl
  | yld id => obtain ⟨g, x, _, rfl⟩ := h; rfl
  | glb g c => cases h; rfl
  | mapv id => obtain ⟨g, x, _, rfl⟩ := h; rfl
  | ifc b => rcases h with ⟨_, rfl⟩ | ⟨_, t, v, rfl⟩ <;> rfl
  | int k n => cases h; rfl
  | bool b => cases h; rfl
  | str s => cases h; rfl
  | flt k b => cases h; rfl
  | nil => cases h; rfl
end Go.Ev
