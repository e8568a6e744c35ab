/-
  Part of the proof of a law.
-/
import Derived.Test.YtophekjofpahfaaEvKit2
import Derived.JoinedOf
import Derived.ChangeSame
import Derived.Carry
import Derived.SizedLaws
import Derived.OpenShut
import Derived.WideShapes
import Derived.Deep.Slices
import Derived.RowKit
set_option linter.unusedVariables false
set_option linter.unusedSimpArgs false
set_option linter.unusedSectionVars false
/-
  From a row's arguments, read as data, to abstract values; from a law's contract to the row's statement.
-/
namespace Go.Ev
open Go Go.RowKit Go.ChangeShapes Go.WideShapes
variable [Glob]
inductive PD where
  | cell (c : CK)
  | rows (cks : List CK)
def PD.ck : PD → Option CK
  | .cell c => some c
  | .rows [.int k] => some (.sints k)
  | _ => none
def fieldsT (P : Program) (g : TypeId → Option (List PD)) : Nat → List (Nat × TypeId) → Option (List PD)
  | _, [] => some []
  | off, (o, t) :: fs => if o = off then (match g t with
    | some l => if P.cellsOf t = l.length then (fieldsT P g (off + l.length) fs).map (l ++ ·) else none
    | none => none) else none
def pdT (P : Program) : Nat → TypeId → Option (List PD)
  | 0, _ => none
  | f + 1, t => match P.underlying t with
    | some (.int k) => some [.cell (.int k)]
    | some .bool => some [.cell .bool]
    | some .string => some [.cell .str]
    | some (.slice e) => match pdT P f e with
      | some l => match mapOpt PD.ck l with
        | some cks => if P.cellsOf e = cks.length ∧ 0 < cks.length then some [.rows cks] else none
        | none => none
      | none => none
    | some (.struct fs) => match fieldsT P (pdT P f) 0 (fs.toList.map fun x => (x.offset, x.type)) with
      | some l => if P.cellsOf t = l.length then some l else none
      | none => none
    | some (.array n e) => if n ≤ 100 then (match fieldsT P (pdT P f) 0 ((List.range n).map fun i => (i * P.cellsOf e, e)) with
      | some l => if P.cellsOf t = l.length then some l else none
      | none => none) else none
    | _ => none
def okD : CK → D → Prop
  | .int k, .int n => (Lit.int k n).wf = true
  | .bool, .bool _ => True
  | .str, .str s => s.length ≤ maxLen
  | .sints k, .ints xs => xs.length ≤ maxLen ∧ ∀ x ∈ xs, (Lit.int k x).wf = true
  | _, _ => False
def okInts (k : IntKind) (xs : List Int) : Prop := xs.length ≤ maxLen ∧ ∀ x ∈ xs, (Lit.int k x).wf = true
def okMat (k : IntKind) (w : Nat) (xss : List (List Int)) : Prop := xss.length ≤ maxLen ∧ ∀ xs ∈ xss, xs.length = w ∧ ∀ x ∈ xs, (Lit.int k x).wf = true
def okRecs (cks : List CK) (xss : List (List D)) : Prop := xss.length ≤ maxLen ∧ ∀ xs ∈ xss, All2 okD cks xs
def intsCk : List CK → Option (IntKind × Nat)
  | .int k :: l => if l.all (· == .int k) then some (k, l.length) else none
  | _ => none
def OpenR (cks : List CK) (P : SV → Prop) : Prop :=
  match intsCk cks with
  | some (k, 0) => ∃ xs : List Int, okInts k xs ∧ P (.data (.ints k xs))
  | some (k, w + 1) => ∃ xss : List (List Int), okMat k (w + 2) xss ∧ P (.data (.mat k (w + 2) xss))
  | none => ∃ xss : List (List D), okRecs cks xss ∧ P (.data (.recs cks xss))
def Open1 : PD → (SV → Prop) → Prop
  | .cell (.int k), P => ∃ n : Int, (Lit.int k n).wf = true ∧ P (.int k n)
  | .cell .bool, P => ∃ b : Bool, P (.bool b)
  | .cell .str, P => ∃ s : List UInt8, s.length ≤ maxLen ∧ P (.str s)
  | .cell (.sints k), P => ∃ xs : List Int, okInts k xs ∧ P (.data (.ints k xs))
  | .cell (.smat _ _), _ => False
  | .rows cks, P => OpenR cks P
def Opens : List PD → (List SV → Prop) → Prop
  | [], P => P []
  | d :: l, P => Open1 d fun s => Opens l fun r => P (s :: r)
theorem OpenR.mono {cks : List CK} {P Q : SV → Prop} (H : ∀ s, P s → Q s) (h : OpenR cks P) : OpenR cks Q := by
  unfold OpenR at h ⊢
  cases hc : intsCk cks with
  | none => rw [hc] at h; obtain ⟨n, h1, h2⟩ := h; exact ⟨n, h1, H _ h2⟩
  | some p =>
    obtain ⟨k, w⟩ := p
    rw [hc] at h
    cases w with
    | zero => obtain ⟨n, h1, h2⟩ := h; exact ⟨n, h1, H _ h2⟩
    | succ w => obtain ⟨n, h1, h2⟩ := h; exact ⟨n, h1, H _ h2⟩
theorem OpenR.const {cks : List CK} {X : Prop} (h : OpenR cks fun _ => X) : X := by
  unfold OpenR at h
  cases hc : intsCk cks with
  | none => rw [hc] at h; obtain ⟨n, h1, h2⟩ := h; exact h2
  | some p =>
    obtain ⟨k, w⟩ := p
    rw [hc] at h
    cases w with
    | zero => obtain ⟨n, h1, h2⟩ := h; exact h2
    | succ w => obtain ⟨n, h1, h2⟩ := h; exact h2
theorem Open1.const {X : Prop} : ∀ {d : PD}, (Open1 d fun _ => X) → X
  | .cell (.int _), ⟨_, _, h⟩ => h
  | .cell .bool, ⟨_, h⟩ => h
  | .cell .str, ⟨_, _, h⟩ => h
  | .cell (.sints _), ⟨_, _, h⟩ => h
  | .cell (.smat _ _), h => h.elim
  | .rows _, h => OpenR.const h
theorem Open1.mono {P Q : SV → Prop} (H : ∀ s, P s → Q s) : ∀ {d : PD}, Open1 d P → Open1 d Q
  | .cell (.int _), ⟨n, h1, h2⟩ => ⟨n, h1, H _ h2⟩
  | .cell .bool, ⟨n, h2⟩ => ⟨n, H _ h2⟩
  | .cell .str, ⟨n, h1, h2⟩ => ⟨n, h1, H _ h2⟩
  | .cell (.sints _), ⟨n, h1, h2⟩ => ⟨n, h1, H _ h2⟩
  | .cell (.smat _ _), h => h.elim
  | .rows _, h => OpenR.mono H h
theorem Opens.const {X : Prop} : ∀ {l : List PD}, (Opens l fun _ => X) → X
  | [], h => h
  | _ :: _, h => Open1.const (Open1.mono (fun _ h => Opens.const h) h)
theorem Opens.mono : ∀ {l : List PD} {P Q : List SV → Prop}, (∀ r, P r → Q r) → Opens l P → Opens l Q
  | [], _, _, H, h => H _ h
  | _ :: _, _, _, H, h => Open1.mono (fun _ h => Opens.mono (fun _ hr => H _ hr) h) h
theorem Opens.append : ∀ {l l' : List PD} {P : List SV → Prop}, Opens l (fun r => Opens l' fun r' => P (r ++ r')) → Opens (l ++ l') P
  | [], _, _, h => h
  | _ :: _, _, _, h => Open1.mono (fun _ h => Opens.append h) h
section
variable {H : Type} {enc : TypeId × Value → H} {P : Program} {w : World} {base : Nat} {held : Bool} {m : Nat → Prop}
theorem ck_of {d : PD} {c : CK} {u : Value} (hc : d.ck = some c) (h : Open1 d fun s => DenS w m [] s u) : ∃ x, DenC w m c x u ∧ okD c x := by
  cases d with
  | cell c' =>
    cases hc
    cases c with
    | int k => obtain ⟨n, h1, h2⟩ := h; exact ⟨.int n, h2, h1⟩
    | bool => obtain ⟨n, h2⟩ := h; exact ⟨.bool n, h2, trivial⟩
    | str => obtain ⟨n, h1, h2⟩ := h; exact ⟨.str n, h2, h1⟩
    | sints k =>
      obtain ⟨xs, h1, a, cap, e, h3, h4, h5⟩ := h
      refine ⟨.ints xs, ⟨a, cap, e, h3, h4, ?_⟩, h1⟩
      rcases h5 with h5 | ⟨ad, e2, h6, h7, h8⟩
      · exact .inl (List.eq_nil_of_length_eq_zero h5)
      · exact .inr ⟨ad, e2, h6, h7, h8⟩
    | smat k w => exact h.elim
  | rows cks =>
    have hk : ∃ k, cks = [.int k] ∧ c = .sints k := by
      unfold PD.ck at hc
      split at hc
      · rename_i he; cases he
      · rename_i k he; cases he; cases hc; exact ⟨k, rfl, rfl⟩
      · cases hc
    obtain ⟨k, rfl, rfl⟩ := hk
    obtain ⟨xs, h1, a, cap, e, h3, h4, h5⟩ : ∃ xs : List Int, okInts k xs ∧ DenS w m [] (.data (.ints k xs)) u := h
    refine ⟨.ints xs, ⟨a, cap, e, h3, h4, ?_⟩, h1⟩
    rcases h5 with h5 | ⟨ad, e2, h6, h7, h8⟩
    · exact .inl (List.eq_nil_of_length_eq_zero h5)
    · exact .inr ⟨ad, e2, h6, h7, h8⟩
theorem cks_of : ∀ {l : List PD} {cks : List CK} {cs : List Value}, mapOpt PD.ck l = some cks → Opens l (fun r => All2 (DenS w m []) r cs) →
    ∃ ds : List D, All2 okD cks ds ∧ cs.length = cks.length ∧ ∀ (j : Nat) (c : CK), cks[j]? = some c → ∃ u, cs[j]? = some u ∧ DenC w m c (ds.getD j (.int 0)) u
  | [], cks, cs, h, ho => by
    simp only [mapOpt, Option.some.injEq] at h
    subst h
    cases cs with
    | nil => exact ⟨[], trivial, rfl, fun j c hj => by simp at hj⟩
    | cons _ _ => exact ho.elim
  | d :: l, cks, cs, h, ho => by
    unfold mapOpt at h
    cases hd : d.ck with
    | none => rw [hd] at h; cases hm : mapOpt PD.ck l <;> rw [hm] at h <;> cases h
    | some c =>
      rw [hd] at h
      cases hm : mapOpt PD.ck l with
      | none => rw [hm] at h; cases h
      | some cks' =>
        rw [hm] at h
        cases h
        cases cs with
        | nil => exact (Opens.const (l := d :: l) ho).elim
        | cons u cs =>
          have h1 : Open1 d fun s => DenS w m [] s u := Open1.mono (fun s hs => Opens.const (Opens.mono (fun _ hr => hr.1) hs)) ho
          have h2 : Opens l fun r => All2 (DenS w m []) r cs := Open1.const (d := d) (Open1.mono (fun s hs => hs.mono fun r hr => hr.2) ho)
          obtain ⟨x, hx1, hx2⟩ := ck_of hd h1
          obtain ⟨ds, h4, h5, h6⟩ := cks_of hm h2
          refine ⟨x :: ds, ⟨hx2, h4⟩, by simp [h5], fun j c' hj => ?_⟩
          cases j with
          | zero => simp at hj; subst hj; exact ⟨u, rfl, hx1⟩
          | succ j => simp at hj; obtain ⟨u', h7, h8⟩ := h6 j c' hj; exact ⟨u', by simpa using h7, by simpa using h8⟩
theorem All2_okD_length {cks : List CK} {ds : List D} (h : All2 okD cks ds) : ds.length = cks.length := h.length.symm
theorem okD_ints {k : IntKind} : ∀ {l : List CK} {ds : List D}, l.all (· == .int k) = true → All2 okD l ds → (∀ x ∈ ds.map D.toInt, (Lit.int k x).wf = true)
  | [], [], _, _, x, hx => by simp at hx
  | [], _ :: _, _, h, _, _ => h.elim
  | _ :: _, [], _, h, _, _ => h.elim
  | c :: l, d :: ds, ha, h, x, hx => by
    simp only [List.all_cons, Bool.and_eq_true, beq_iff_eq] at ha
    obtain ⟨rfl, ha⟩ := ha
    simp only [List.map_cons, List.mem_cons] at hx
    rcases hx with rfl | hx
    · have := h.1
      cases d <;> simp only [okD] at this
      exact this
    · exact okD_ints ha h.2 x hx
theorem rows_of {cks : List CK} {u : Value} {n cap : Nat} {a : Option Addr} (hu : u = .slice a n cap) (h1 : n ≤ cap) (h2 : cap ≤ maxLen) (hw : 0 < cks.length)
    (h : n = 0 ∨ ∃ ad, a = some ad ∧ ad.block < w.heap.size ∧ ¬ m ad.block ∧ ∀ i, i < n → ∃ ds : List D, All2 okD cks ds ∧ ∀ (c : Nat) (ck : CK), cks[c]? = some ck → ∃ v, w.cell? (ad.add (i * cks.length + c)) = some v ∧ DenC w m ck (ds.getD c (.int 0)) v) :
    OpenR cks fun s => DenS w m [] s u := by
  -- the elements
  obtain ⟨xss, hlen, hok, hcells⟩ : ∃ xss : List (List D), xss.length = n ∧ (∀ xs ∈ xss, All2 okD cks xs) ∧ (n = 0 ∨ ∃ ad, a = some ad ∧ ad.block < w.heap.size ∧ ¬ m ad.block ∧
      RowCells w m (fun j => w.cell? (ad.add j)) (.recs cks xss)) := by
    rcases h with h | ⟨ad, ha, hb, hm, h⟩
    · exact ⟨[], h.symm, fun xs hx => by simp at hx, .inl h⟩
    · obtain ⟨xss, hl, hx⟩ := exists_list n h
      refine ⟨xss, hl, fun xs hxs => ?_, .inr ⟨ad, ha, hb, hm, fun i xs hi c ck hc => ?_⟩⟩
      · obtain ⟨i, hi⟩ := List.getElem?_of_mem hxs
        exact (hx i xs hi).1
      · exact (hx i xs hi).2 c ck hc
  have hn : n ≤ maxLen := by omega
  unfold OpenR
  split
  · rename_i k hk
    have hc : cks = [.int k] := by
      unfold intsCk at hk
      split at hk
      · rename_i k' l
        split at hk
        · simp only [Option.some.injEq, Prod.mk.injEq] at hk
          obtain ⟨rfl, h0⟩ := hk
          rw [List.eq_nil_of_length_eq_zero h0]
        · cases hk
      · cases hk
    subst hc
    refine ⟨xss.map fun xs => (xs.getD 0 (.int 0)).toInt, ⟨by simp; omega, fun x hx => ?_⟩, a, cap, by rw [hu]; simp [Row.count, hlen], by simp [Row.count, hlen]; exact h1, h2, ?_⟩
    · simp only [List.mem_map] at hx
      obtain ⟨xs, hxs, rfl⟩ := hx
      have := hok xs hxs
      match xs, this with
      | [d], this =>
        have h3 := this.1
        cases d <;> simp only [okD] at h3
        exact h3
    · rcases hcells with h0 | ⟨ad, ha, hb, hm, hc⟩
      · exact .inl (by simp [Row.count, hlen, h0])
      · refine .inr ⟨ad, ha, hb, hm, fun i x hx => ?_⟩
        rw [List.getElem?_map] at hx
        cases hxs : xss[i]? with
        | none => rw [hxs] at hx; simp at hx
        | some xs =>
          rw [hxs] at hx
          simp only [Option.map_some, Option.some.injEq] at hx
          subst hx
          obtain ⟨v, hv, hd⟩ := hc i xs hxs 0 (.int k) rfl
          have e : v = .int k _ := hd
          rw [e] at hv
          simpa using hv
  · rename_i k wd hk
    have hc : cks.all (· == .int k) = true ∧ cks.length = wd + 2 := by
      unfold intsCk at hk
      split at hk
      · rename_i k' l
        split at hk
        · rename_i hall
          simp only [Option.some.injEq, Prod.mk.injEq] at hk
          obtain ⟨rfl, h0⟩ := hk
          simp only [List.all_cons, beq_self_eq_true, Bool.true_and, List.length_cons]
          exact ⟨hall, by omega⟩
        · cases hk
      · cases hk
    refine ⟨xss.map fun xs => xs.map D.toInt, ⟨by simp; omega, fun x hx => ?_⟩, a, cap, by rw [hu]; simp [Row.count, hlen], by simp [Row.count, hlen]; exact h1, h2, ?_⟩
    · simp only [List.mem_map] at hx
      obtain ⟨xs, hxs, rfl⟩ := hx
      exact ⟨by simp [All2_okD_length (hok xs hxs), hc.2], okD_ints hc.1 (hok xs hxs)⟩
    · rcases hcells with h0 | ⟨ad, ha, hb, hm, hcl⟩
      · exact .inl (by simp [Row.count, hlen, h0])
      · refine .inr ⟨ad, ha, hb, hm, fun i x hx c hcw => ?_⟩
        rw [List.getElem?_map] at hx
        cases hxs : xss[i]? with
        | none => rw [hxs] at hx; simp at hx
        | some xs =>
          rw [hxs] at hx
          simp only [Option.map_some, Option.some.injEq] at hx
          subst hx
          have hcl' : c < cks.length := by omega
          have hck : cks[c]? = some (.int k) := by
            rw [List.getElem?_eq_getElem hcl']
            have := List.all_eq_true.1 hc.1 _ (List.getElem_mem hcl')
            rw [beq_iff_eq] at this
            rw [this]
          obtain ⟨v, hv, hd⟩ := hcl i xs hxs c (.int k) hck
          have e : v = .int k (xs.getD c (.int 0)).toInt := hd
          have hxl : c < xs.length := by rw [All2_okD_length (hok xs (List.mem_of_getElem? hxs))]; exact hcl'
          rw [e, hc.2] at hv
          rw [hv]
          congr 2
          simp [List.getD, List.getElem?_eq_getElem hxl]
  · refine ⟨xss, ⟨by omega, hok⟩, a, cap, by rw [hu]; simp [Row.count, hlen], by simp [Row.count, hlen]; exact h1, h2, ?_⟩
    rcases hcells with h0 | ⟨ad, ha, hb, hm, hc⟩
    · exact .inl (by simp [Row.count, hlen, h0])
    · exact .inr ⟨ad, ha, hb, hm, hc⟩
end
end Go.Ev
