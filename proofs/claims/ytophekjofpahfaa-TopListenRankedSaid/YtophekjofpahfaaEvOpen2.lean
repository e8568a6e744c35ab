/-
  Part of the proof of a law.
-/
import Derived.Test.YtophekjofpahfaaEvOpen
set_option linter.unusedVariables false
set_option linter.unusedSimpArgs false
set_option linter.unusedSectionVars false
/-
  From a row's arguments, read as data, to abstract values; from a law's contract to the row's statement: second part.
-/
namespace Go.Ev
open Go Go.RowKit Go.ChangeShapes Go.WideShapes
variable [Glob]
theorem cell_lt {w : World} {a : Addr} {v : Value} (h : w.cell? a = some v) : a.block < w.heap.size := by
  rcases Nat.lt_or_ge a.block w.heap.size with hl | hl
  · exact hl
  · exfalso
    unfold World.cell? at h
    have e : w.heap[a.block]? = none := Array.getElem?_eq_none hl
    rw [e] at h
    simp at h
section
variable {H : Type} {enc : TypeId × Value → H} {P : Program} {w : World} {base : Nat} {held : Bool} {m : Nat → Prop}
theorem fields_open {g : TypeId → Option (List PD)} {cs : List Value} : ∀ (fs : List (Nat × TypeId)) (off : Nat) {l : List PD}, fieldsT P g off fs = some l →
    (∀ (j o : Nat) (t : TypeId), fs[j]? = some (o, t) → ∀ l', g t = some l' → Opens l' fun r => All2 (DenS w m []) r ((cs.drop o).take (P.cellsOf t))) → cs.length = off + l.length →
    Opens l fun r => All2 (DenS w m []) r (cs.drop off)
  | [], off, l, h, _, hlen => by
    simp only [fieldsT, Option.some.injEq] at h
    subst h
    simp only [List.length_nil, Nat.add_zero] at hlen
    show All2 _ [] _
    rw [List.drop_eq_nil_of_le (by omega)]
    trivial
  | (o, t) :: fs, off, l, h, H, hlen => by
    unfold fieldsT at h
    split at h
    case isFalse => cases h
    rename_i ho
    subst ho
    split at h
    case h_2 => cases h
    rename_i l1 hg
    split at h
    case isFalse => cases h
    rename_i hc
    cases hr : fieldsT P g (o + l1.length) fs with
    | none => rw [hr] at h; cases h
    | some l2 =>
      rw [hr] at h
      simp only [Option.map_some, Option.some.injEq] at h
      subst h
      rw [List.length_append] at hlen
      have h1 := H 0 o t rfl l1 hg
      have h2 := fields_open fs (o + l1.length) hr (fun j o' t' hj => H (j + 1) o' t' hj) (by omega)
      refine Opens.append (h1.mono fun r hr1 => h2.mono fun r' hr2 => ?_)
      have := hr1.append hr2
      rw [hc, ← List.drop_drop, List.take_append_drop] at this
      exact this
theorem open_pd (hm : ∀ b, ¬ m b) : ∀ (f : Nat) {t : TypeId} {l : List PD} {fuel : Nat} {cs : List Value} {x : DataW H × List MemPlace}, pdT P f t = some l →
    DataW.trod enc P w base (fun _ => true) held fuel t cs = some x → Opens l fun r => All2 (DenS w m []) r cs
  | 0, _, _, _, _, _, h, _ => by cases h
  | f + 1, t, l, fuel, cs, x, h, hx => by
    unfold pdT at h
    split at h
    · rename_i k hu
      cases h
      obtain ⟨n, rfl, _, hw⟩ := DataW.trod_int hu hx
      exact ⟨n, hw, rfl, trivial⟩
    · rename_i hu
      cases h
      obtain ⟨b, rfl, _⟩ := DataW.trod_bool hu hx
      exact ⟨b, rfl, trivial⟩
    · rename_i hu
      cases h
      obtain ⟨s, rfl, _, hs⟩ := DataW.trod_string hu hx
      exact ⟨s.data.toList, by rw [Array.length_toList]; exact hs, by show Value.string s = .string ⟨s.data.toList.toArray⟩; rw [Array.toArray_toList], trivial⟩
    · rename_i e hu
      split at h
      case h_2 => cases h
      rename_i l' hl'
      split at h
      case h_2 => cases h
      rename_i cks hcks
      split at h
      case isFalse => cases h
      rename_i hc
      obtain ⟨hce, hpos⟩ := hc
      cases h
      rcases Go.Deep.open_slice hu hx with ⟨rfl, _⟩ | ⟨a, len, cap, mm, n, Dt, Pl, rfl, hb, hl, hmx, hmm, _, hi⟩
      · exact OpenR.mono (P := fun s => DenS w m [] s (.slice none 0 0)) (Q := fun s => DenS w m [] s (.slice none 0 0) ∧ True) (fun s hs => ⟨hs, trivial⟩) (rows_of (w := w) (m := m) (cks := cks) (u := .slice none 0 0) (n := 0) (cap := 0) (a := none) rfl (Nat.le_refl _) (Nat.zero_le _) hpos (.inl rfl))
      · have hle : len ≤ mm := by rw [hmm]; split <;> omega
        have hel : ∀ i, i < len → ∃ ds : List D, All2 okD cks ds ∧ ∀ (c : Nat) (ck : CK), cks[c]? = some ck → ∃ v, w.cell? (a.add (i * cks.length + c)) = some v ∧ DenC w m ck (ds.getD c (.int 0)) v := by
          intro i hil
          obtain ⟨cs', h1, h2⟩ := hi i (by omega)
          obtain ⟨ds, h3, h4, h5⟩ := cks_of hcks (open_pd hm f hl' h2)
          refine ⟨ds, h3, fun c ck hck => ?_⟩
          obtain ⟨v, h6, h7⟩ := h5 c ck hck
          obtain ⟨_, _, hat⟩ := World.cells?_some h1
          have hcl : c < P.cellsOf e := by rw [hce]; exact (List.getElem?_eq_some_iff.1 hck).1
          have := hat c hcl
          rw [Go.Ev.add_add, hce] at this
          exact ⟨v, this.trans h6, h7⟩
        refine OpenR.mono (P := fun s => DenS w m [] s (.slice (some a) len cap)) (Q := fun s => DenS w m [] s (.slice (some a) len cap) ∧ True) (fun s hs => ⟨hs, trivial⟩) (rows_of (w := w) (m := m) (cks := cks) (u := .slice (some a) len cap) (n := len) (cap := cap) (a := some a) rfl hl hmx hpos ?_)
        rcases Nat.eq_zero_or_pos len with h0 | h0
        · exact .inl h0
        · refine .inr ⟨a, rfl, ?_, hm _, hel⟩
          obtain ⟨ds, _, h5⟩ := hel 0 h0
          obtain ⟨v, h6, _⟩ := h5 0 _ (List.getElem?_eq_getElem hpos)
          have := cell_lt h6
          rwa [add_block] at this
    · rename_i fs hu
      split at h
      case h_2 => cases h
      rename_i l' hf
      split at h
      case isFalse => cases h
      rename_i hc
      cases h
      obtain ⟨xs, n, _, _, hlen, hxl, hat⟩ := DataW.trod_struct hu hx
      have := fields_open (w := w) (m := m) (cs := cs) _ 0 hf (fun j o t' hj l' hg => by
        rw [List.getElem?_map] at hj
        cases hfj : fs.toList[j]? with
        | none => rw [hfj] at hj; cases hj
        | some fd =>
          rw [hfj] at hj
          simp only [Option.map_some, Option.some.injEq, Prod.mk.injEq] at hj
          obtain ⟨rfl, rfl⟩ := hj
          have hfa : fs[j]? = some fd := by simpa using hfj
          have h1 := hat j fd hfa
          have hjl : j < xs.length := by rw [hxl]; exact (Array.getElem?_eq_some_iff.1 hfa).1
          rw [List.getElem?_eq_getElem hjl] at h1
          exact open_pd hm f hg h1) (by omega)
      simpa using this
    · rename_i n e hu
      split at h
      case isFalse => cases h
      split at h
      case h_2 => cases h
      rename_i l' hf
      split at h
      case isFalse => cases h
      rename_i hc
      cases h
      obtain ⟨xs, n', _, _, hlen, hxl, hat⟩ := DataW.trod_array hu hx
      have := fields_open (w := w) (m := m) (cs := cs) _ 0 hf (fun j o t' hj l' hg => by
        rw [List.getElem?_map] at hj
        rcases Nat.lt_or_ge j n with hjn | hjn
        · rw [List.getElem?_range hjn] at hj
          simp only [Option.map_some, Option.some.injEq, Prod.mk.injEq] at hj
          obtain ⟨rfl, rfl⟩ := hj
          have h1 := hat j hjn
          rw [List.getElem?_eq_getElem (by omega)] at h1
          exact open_pd hm f hg h1
        · rw [List.getElem?_eq_none (by simpa using hjn)] at hj
          cases hj) (by omega)
      simpa using this
    · cases h
def argAV : Bool → List SV → AV
  | false, [s] => .one s
  | _, l => .agg l
theorem open_arg (hm : ∀ b, ¬ m b) {f b0 : Nat} {t : TypeId} {v : Value} {d : DataW H} {p : List MemPlace} {l : List PD} {agg : Bool} (hok : Value.okWide P w .any b0 t v) (h : DataW.Trod enc P w base (fun _ => true) held t v d p)
    (hl : pdT P f t = some l) (ha : aggT P t = some agg) : Opens l fun r => Den w m [] (argAV agg r) v := by
  obtain ⟨fuel, hx⟩ := h
  have ho := open_pd hm f hl hx
  cases agg with
  | true =>
    have : ∃ cs, v = .agg cs := by
      unfold Value.okWide at hok
      unfold aggT at ha
      cases hu : P.underlying t with
      | none => rw [hu] at ha; cases ha
      | some td =>
        rw [hu] at ha hok
        cases td <;> first | (simp at ha; done) | (obtain ⟨cs, h, _⟩ := hok; exact ⟨cs, h⟩)
    obtain ⟨cs, rfl⟩ := this
    exact ho.mono fun r hr => ⟨cs.toList, by simp, hr⟩
  | false =>
    have hv : v.cells = #[v] := by
      unfold aggT at ha
      cases f with
      | zero => cases hl
      | succ f =>
        unfold pdT at hl
        split at hl
        · rename_i k hu; obtain ⟨n, rfl⟩ := okWide_int hu hok; rfl
        · rename_i hu; obtain ⟨n, rfl⟩ := okWide_bool hu hok; rfl
        · rename_i hu; obtain ⟨n, rfl⟩ := okWide_string hu hok; rfl
        · rename_i e hu; obtain ⟨n, _, _, rfl⟩ := okWide_slice hu hok; rfl
        · rename_i fs hu; rw [hu] at ha; simp at ha
        · rename_i fs e hu; rw [hu] at ha; simp at ha
        · cases hl
    rw [hv] at ho
    refine ho.mono fun r hr => ?_
    match r, hr with
    | [s], hr => exact hr.1
def argsT (P : Program) : List TypeId → Option (List (Bool × List PD))
  | [] => some []
  | t :: ts => match aggT P t, pdT P 8 t, argsT P ts with
    | some a, some l, some r => some ((a, l) :: r)
    | _, _, _ => none
def OpensA : List (Bool × List PD) → (List AV → Prop) → Prop
  | [], Q => Q []
  | (agg, l) :: r, Q => Opens l fun s => OpensA r fun as => Q (argAV agg s :: as)
theorem OpensA.mono : ∀ {l : List (Bool × List PD)} {P Q : List AV → Prop}, (∀ r, P r → Q r) → OpensA l P → OpensA l Q
  | [], _, _, H, h => H _ h
  | (_, _) :: _, _, _, H, h => Opens.mono (fun _ h => OpensA.mono (fun _ hr => H _ hr) h) h
theorem open_all (hm : ∀ b, ¬ m b) : ∀ {ts : List TypeId} {vs : List Value} {ds : List (DataW H)} {p : List MemPlace} {ls : List (Bool × List PD)}, argsT P ts = some ls → DataW.TrodAll enc P w base (fun _ => true) held ts vs ds p →
    (∀ (j : Nat) t v, ts[j]? = some t → vs[j]? = some v → ∃ b0, Value.okWide P w .any b0 t v) → OpensA ls fun as => All2 (Den w m []) as vs
  | [], [], [], _, ls, h, _, _ => by cases h; trivial
  | t :: ts, v :: vs, d :: ds, p, ls, h, hA, hok => by
    unfold argsT at h
    split at h
    case h_2 => cases h
    rename_i a l r ha hl hr
    cases h
    obtain ⟨p1, q1, h1, h2, _⟩ := hA
    obtain ⟨b0, hok0⟩ := hok 0 t v rfl rfl
    have o1 := open_arg hm hok0 h1 hl ha
    have o2 := open_all hm hr h2 fun j t v ht hv => hok (j + 1) t v ht hv
    exact o1.mono fun s hs => o2.mono fun as has => ⟨hs, has⟩
  | [], [], _ :: _, _, _, _, h, _ => h.elim
  | [], _ :: _, _, _, _, _, h, _ => h.elim
  | _ :: _, [], _, _, _, _, h, _ => h.elim
  | _ :: _, _ :: _, [], _, _, _, h, _ => h.elim
theorem below_all {P : Program} (hl : laidOutB P = true) {W W' : World} (hb : Below W.heap.size W W') : ∀ {ts : List TypeId} {vs : List Value} {ds : List (DataW H)} {p : List MemPlace}, (∀ t ∈ ts, (P.readableRec t && decide (t < P.types.size)) = true) →
    DataW.TrodAll enc P W 0 (fun _ => true) true ts vs ds p → (∀ x ∈ p, x.block < W.heap.size) → DataW.TrodAll enc P W' 0 (fun b => decide (b < W.heap.size)) true ts vs ds p
  | [], [], [], _, _, h, _ => h
  | t :: ts, v :: vs, d :: ds, p, hr, hA, hlt => by
    obtain ⟨p1, q1, h1, h2, rfl⟩ := hA
    have ht := hr t (by simp)
    simp only [Bool.and_eq_true, decide_eq_true_eq] at ht
    exact ⟨p1, q1, Below.trod hl ht.1 ht.2 h1 hb fun x hx => hlt x (by simp [hx]), below_all hl hb (fun t ht => hr t (by simp [ht])) h2 fun x hx => hlt x (by simp [hx]), rfl⟩
  | [], [], _ :: _, _, _, h, _ => h.elim
  | [], _ :: _, _, _, _, h, _ => h.elim
  | _ :: _, [], _, _, _, h, _ => h.elim
  | _ :: _, _ :: _, [], _, _, h, _ => h.elim
end
section
variable {H : Type} {enc : TypeId × Value → H}
theorem law_calls {P : Program} {f : FuncId} {fn : Func} {s : ChangeSpec} {S : Spec} {shapes : List (Bool × List PD)} {bt : TypeId} (laid : laidOutB P = true)
    (hread : ∀ t ∈ fn.params.toList, (P.readableRec t && decide (t < P.types.size)) = true) (hres : fn.resultTypes = #[bt]) (hbt : P.underlying bt = some .bool) (hvars : s.vars = [])
    (hspec : ∀ ds : List (DataW H), ds.length = fn.params.size → s.fn H (ds ++ []) = { results := [.lit (.bool true)], args := ds }) (hS : SpecOK P f S) (hshape : argsT P fn.params.toList = some shapes)
    (hopen : ∀ Q : List AV → Prop, OpensA shapes Q → ∃ as, Q as ∧ S as [] fun a _ => a = .one (.bool true))
    (W : World) (base : Nat) (args : Array Value) (ds gs : List (DataW H)) (before : List MemPlace)
    (hval : ∀ (j : Nat) t v, fn.params[j]? = some t → args[j]? = some v → Value.okWide P W .any base t v) (hW : DataW.Whole enc P fn.params.toList s.vars false W args.toList ds gs before) (hglob : GlobOK (Mut (fun _ => False) [] []) W) :
    Calls P f args W fun e W' => ∃ v, e = .returned v ∧ s.post enc P fn false true false false W args v W' := by
  have hlt := hW.lt
  have hW' := hW
  obtain ⟨p, q, hA, hV, rfl, _, _⟩ := hW
  rw [hvars] at hV
  obtain ⟨rfl, rfl⟩ := trodVars_none hV
  simp only [List.append_nil] at hW' hlt
  have hm : ∀ b, ¬ Mut (fun _ => False) [] [] b := by
    rintro b (h | ⟨id, _, _, _, h, _⟩)
    · exact h
    · simp at h
  have ho := open_all (m := Mut (fun _ => False) [] []) hm hshape hA fun j t v ht hv => ⟨base, hval j t v (by simpa using ht) (by simpa using hv)⟩
  obtain ⟨as, has, hSa⟩ := hopen _ ho
  have hc := hS.sound as [] _ hSa (fun _ => False) [] args.toList W ⟨rfl, fun id b g n h => by simp at h, fun id b g n k h => by simp at h, fun i j b b' g g' n n' k h => by simp at h, hglob⟩ (fun b h => h.elim) has
  rw [Array.toArray_toList] at hc
  refine hc.mono ?_
  rintro e W' ⟨v, a, σ', ρ', rfl, rfl, I, K, hd⟩
  have hv : v = .bool true := hd
  subst hv
  have hb : Below W.heap.size W W' := ⟨I.os, I.tape, I.output, I.size, fun b hb => I.blk b hb (by rintro ⟨id, _, _, _, h, _⟩; simp at h)⟩
  have hlen : ds.length = fn.params.size := by
    have : ∀ (ts : List TypeId) (vs : List Value) (ds : List (DataW H)) (p : List MemPlace), DataW.TrodAll enc P W 0 (fun _ => true) true ts vs ds p → ds.length = ts.length := by
      intro ts
      induction ts with
      | nil => intro vs ds p h; cases vs <;> cases ds <;> first | rfl | exact h.elim
      | cons t ts ih =>
        intro vs ds p h
        cases vs with
        | nil => cases ds <;> exact h.elim
        | cons v vs =>
          cases ds with
          | nil => exact h.elim
          | cons d ds =>
            obtain ⟨_, _, _, h2, _⟩ := h
            simp [ih _ _ _ h2]
    simpa using this _ _ _ _ hA
  have es := hspec ds hlen
  refine ⟨_, rfl, ds, [], p, [], p, [], hW', ?_, ?_, ?_, hb.frame _ , fun h => by cases h⟩
  · rw [es, hres]
    exact trodAll_mk1 (shut_bool hbt _)
  · rw [es]
    exact below_all laid hb hread hA hlt
  · rw [es, hvars]
    rfl
end
end Go.Ev
