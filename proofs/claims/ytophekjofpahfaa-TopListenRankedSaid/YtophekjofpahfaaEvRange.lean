/-
  Part of the proof of a law.
-/
import Derived.Test.YtophekjofpahfaaEvSel
import Derived.RangeFuncIn
set_option linter.unusedVariables false
set_option linter.unusedSimpArgs false
set_option linter.unusedSectionVars false
/-
  Soundness: a loop over a function, its rounds by the evaluator.
-/
namespace Go.Ev
open Go Go.RowKit
variable [Glob]
def jumpOf : Ex → Code
  | .normal => .skip
  | .exit i => .exit i
  | .ret => .ret
theorem wpIn_n {r : Option Nat} {n : Nat} {P : Program} {c : Code} {Q : Exit → Act → World → Prop} {a : Act} {w : World} (h : c.wpIn (wideR r) 0 P Q a w) : c.wpIn (wideR r) n P Q a w :=
  fun b k cs h1 h2 _ => h b k cs h1 h2 (fun _ h => by simp [wideR, Fence.wide] at h)
def Sound (E : Env) (ρ0 : List (Nat × Nat)) (c : Code) : Prop :=
  ∀ (X : XS) (F : Nat → Prop) (w0 : World) (m0 : Nat → Prop) (r : Option Nat) (s : St) (k : Ex → St → Prop) (a : Act) (w : World) (Q : Exit → Act → World → Prop), (∀ d ∈ dsts c, X.fz d = none) → (r = none ∨ noRange c = true) → evCode E c s k → Rel X F w0 m0 ρ0 s a w →
    (∀ (F' : Nat → Prop), (∀ b, F b → F' b) → ∀ e s' a' w', k e s' → Rel X F' w0 m0 ρ0 s' a' w' → Q (toExit e) a' w') → c.wpIn (wideR r) 0 E.P Q a w
section
variable {E : Env} {ρ0 : List (Nat × Nat)} {ins : List Nat} {G : List (List AV) → LSpec} {k : Ex → List AV → List Blk → Prop} {a : Act} {l dblk : Nat} {fn : FuncId} {ps : Array Tmp} {assign body : Code}
abbrev recOf (fn : FuncId) (a : Act) (ps : Array Tmp) (assign body : Code) (dblk : Nat) (st : LoopState) (pe : Option Code) : Loop := { state := st, pending := pe, fn, tmps := a.tmps, params := ps, assign, body, defers := dblk }
def RJ (E : Env) (ρ0 : List (Nat × Nat)) (ins : List Nat) (G : List (List AV) → LSpec) (k : Ex → List AV → List Blk → Prop) (a : Act) (l dblk : Nat) (fn : FuncId) (ps : Array Tmp) (assign body : Code) : GJ := fun m D r w =>
  ∃ (ρ : List (Nat × Nat)) (vs : List AV) (σ : List Blk) (st : LoopState) (pend : Option Code),
    HeapOk (fun b => m b ∧ ¬ LMut ρ σ b) ρ σ w ∧ (∃ q, ρ = ρ0 ++ q) ∧ Slots (Mut (fun b => m b ∧ ¬ LMut ρ σ b) ρ σ) ρ (spread E.n ins vs σ).t a w ∧
    (∀ k, D k ↔ (k = dblk ∨ LMut ρ σ k)) ∧ ¬ LMut ρ σ l ∧ ¬ LMut ρ σ dblk ∧ w.heap[l]? = some (.loop (recOf fn a ps assign body dblk st pend)) ∧ w.heap[dblk]? = some (.deferred (some [])) ∧
    (match r with
     | some rest => st = .ready ∧ pend = none ∧ G rest vs σ k
     | none => st = .done ∧ ∃ e, e ≠ .normal ∧ pend = some (jumpOf e) ∧ k e vs σ)
theorem RJ.keep (m m' D : Nat → Prop) (r : Option (List (List AV))) (w w' : World) (h : RJ E ρ0 ins G k a l dblk fn ps assign body m D r w) (K : Keep m m' w w') (hh : ∀ k, k = l ∨ D k → w'.heap[k]? = w.heap[k]?) :
    RJ E ρ0 ins G k a l dblk fn ps assign body m' D r w' := by
  obtain ⟨ρ, vs, σ, st, pend, H, hp, S, hD, hl, hd, h1, h2, h3⟩ := h
  have hK : Keep (Mut (fun b => m b ∧ ¬ LMut ρ σ b) ρ σ) (Mut (fun b => m' b ∧ ¬ LMut ρ σ b) ρ σ) w w' := by
    refine ⟨K.size, fun b hb hm => K.blk b hb fun h => ?_, ?_, K.shape⟩
    · by_cases hl : LMut ρ σ b
      · exact hm (.inr hl)
      · exact hm (.inl ⟨h, hl⟩)
    · rintro b hb (⟨h, h'⟩ | h)
      · exact .inl ⟨K.mt b hb h, h'⟩
      · exact .inr h
  refine ⟨ρ, vs, σ, st, pend, ⟨H.len, ?_, ?_, H.inj', H.glob.keep hK⟩, hp, S.keep hK (fun _ _ h => h), hD, hl, hd, (hh l (.inl rfl)).trans h1, (hh dblk (.inr ((hD _).2 (.inl rfl)))).trans h2, h3⟩
  · intro id b g n e1 e2 e3
    obtain ⟨a1, a2, a3⟩ := H.live id b g n e1 e2 e3
    exact ⟨a1.keep hK (fun _ _ h => h) fun k hk => hh k (.inr ((hD k).2 (.inr ⟨id, b, n, g, e1, e3, e2, hk⟩))), a2, Nat.lt_of_lt_of_le a3 K.size⟩
  · exact fun id b g n k e1 e2 e3 e4 => Nat.lt_of_lt_of_le (H.lt id b g n k e1 e2 e3 e4) K.size
theorem putPs_slots {m : Nat → Prop} {ρ : List (Nat × Nat)} {w : World} : ∀ (ps : List Tmp) {x : List AV} {vals : List Value} {t : List AV} {tm : Array Value}, x.length = ps.length → All2 (Den w m ρ) x vals → Slots m ρ t { tmps := tm, defers := [] } w →
    Slots m ρ (putPs ps x t) { tmps := (ps.zip vals).foldl (fun t (p, v) => t.setIfInBounds p v) tm, defers := [] } w ∧ ∀ i, i ∉ ps → ((ps.zip vals).foldl (fun t (p, v) => t.setIfInBounds p v) tm)[i]? = tm[i]?
  | [], [], [], t, tm, _, _, S => ⟨S, fun _ _ => rfl⟩
  | [], [], _ :: _, _, _, _, h, _ => h.elim
  | [], _ :: _, _, _, _, h, _, _ => by simp at h
  | _ :: _, [], _, _, _, h, _, _ => by simp at h
  | _ :: _, _ :: _, [], _, _, _, h, _ => h.elim
  | p :: ps, y :: x, v :: vals, t, tm, hl, hA, S => by
    have S' : Slots m ρ (t.set p y) { tmps := tm.setIfInBounds p v, defers := [] } w := Slots.put (d := some p) S hA.1
    obtain ⟨h1, h2⟩ := putPs_slots ps (by simpa using hl) hA.2 S'
    refine ⟨h1, fun i hi => ?_⟩
    simp only [List.mem_cons, not_or] at hi
    simp only [List.zip_cons_cons, List.foldl_cons]
    rw [h2 i hi.2]
    exact Array.getElem?_setIfInBounds_ne (fun e => hi.1 e.symm)
theorem shape_putObj {w : World} {l : Nat} {r r' : Loop} (h : w.heap[l]? = some (.loop r)) (b : Nat) : (w.putObj l (.loop r')).shape? b = w.shape? b := by
  unfold World.shape?
  by_cases hb : b = l
  · subst hb
    rw [World.putObj_heap_same (Array.getElem?_eq_some_iff.1 h).1, h]
  · rw [World.putObj_heap_other hb]
theorem RJ.round (hm0 : ρ0.length = E.m) (hsz : a.tmps.size = E.n) (ha : Sound E ρ0 assign) (hb : Sound E ρ0 body) (hna : noRange assign = true) (hnb : noRange body = true) (hoff : offPs ps.toList assign body ins = true) (hld : l ≠ dblk)
    (step : ∀ x rest vs σ k, G (x :: rest) vs σ k → evRound E ps.toList assign body ins vs σ x fun e vs' σ' => match e with
      | .normal => G rest vs' σ' k
      | e => k e vs' σ')
    (m D : Nat → Prop) (x : List AV) (rest : List (List AV)) (w : World) (vals : List Value) (hJ : RJ E ρ0 ins G k a l dblk fn ps assign body m D (some (x :: rest)) w) (hml : ∀ k, m k → k < w.heap.size) (hDm : ∀ k, k = l ∨ D k → m k) (hA : All2 (Den w m []) x vals) :
    ∃ fn' tmps assign' body', (Instr.yield l vals.toArray).run E.P w = .ok (.round l fn' tmps assign' body') w ∧ ∀ n, RoundIn Fence.wide n E.P l fn' tmps assign' body' w fun e w' => ∃ (c : Bool) (D' : Nat → Prop), e = .returned (.bool c) ∧
      RJ E ρ0 ins G k a l dblk fn ps assign body (fun k => (m k ∧ ¬ (k = l ∨ D k)) ∨ (k = l ∨ D' k)) D' (if c then some rest else none) w' ∧ (∀ k, D' k → (k < w.heap.size → D k) ∧ k < w'.heap.size) ∧
      w.heap.size ≤ w'.heap.size ∧ (∀ k, k < w.heap.size → ¬ (k = l ∨ D k) → w'.heap[k]? = w.heap[k]?) ∧ (∀ k, k < w.heap.size → w'.shape? k = w.shape? k) ∧ w'.os = w.os ∧ w'.tape = w.tape ∧ w'.output = w.output := by
  obtain ⟨ρ, vs, σ, st, pend, H, hp, S, hD, hl, hd, h1, h2, rfl, rfl, hG⟩ := hJ
  have hev := step x rest vs σ k hG
  unfold evRound at hev
  split at hev
  case isFalse => exact hev.elim
  rename_i hxl
  have hvl : vals.toArray.size = ps.size := by rw [List.size_toArray, ← hA.length, hxl]; simp
  have hy := run_yield (P := E.P) (args := vals.toArray) h1 hvl
  refine ⟨_, _, _, _, hy, fun n => roundIn_of_wpIn trivial ?_⟩
  have hll : l < w.heap.size := (Array.getElem?_eq_some_iff.1 h1).1
  have hdl : dblk < w.heap.size := (Array.getElem?_eq_some_iff.1 h2).1
  generalize hF' : (fun b => m b ∧ ¬ LMut ρ σ b) = F' at *
  have hF'i : ∀ b, F' b ↔ m b ∧ ¬ LMut ρ σ b := fun b => by rw [← hF']
  have hI0 : Inv F' w (LMut ρ σ) ρ0 ρ σ w := {
    heap := H
    pre := hp
    os := rfl
    tape := rfl
    output := rfl
    size := Nat.le_refl _
    blk := fun _ _ _ => rfl
    shape := fun _ _ => rfl
    fresh := fun _ h => .inr h
    foreign := fun b hb => hml b ((hF'i b).1 hb).1
    apart := fun g hg h => ((hF'i g).1 h).2 hg }
  have hA' : All2 (Den w (Mut F' ρ σ) ρ) x vals := hA.imp fun y u hd => hd.keep (Keep.same (by
    rintro b _ (hb | hb)
    · exact ((hF'i b).1 hb).1
    · exact hDm b (.inr ((hD b).2 (.inr hb))))) fun id g h => by simp at h
  obtain ⟨S1, hfz⟩ := putPs_slots (tm := a.tmps) ps.toList hxl hA' ⟨S.len, S.get⟩
  have htm : (Array.zip ps vals.toArray).foldl (fun tmps (t, a) => tmps.setIfInBounds t a) a.tmps = (ps.toList.zip vals).foldl (fun t (p, v) => t.setIfInBounds p v) a.tmps := by
    rw [← Array.foldl_toList]
    simp
  simp only [offPs, List.all_eq_true, List.mem_append, Bool.not_eq_true', List.contains_eq_mem, decide_eq_false_iff_not] at hoff
  let X : XS := { fz := fun i => if i ∈ ins then a.tmps[i]? else none, n0 := 0 }
  have hXa : ∀ d ∈ dsts assign, X.fz d = none := fun d hd => if_neg (hoff d (.inr (.inl hd)))
  have hXb : ∀ d ∈ dsts body, X.fz d = none := fun d hd => if_neg (hoff d (.inr (.inr hd)))
  have R1 : Rel X F' w (LMut ρ σ) ρ0 ⟨putPs ps.toList x (spread E.n ins vs σ).t, σ⟩ { tmps := (Array.zip ps vals.toArray).foldl (fun tmps (t, a) => tmps.setIfInBounds t a) a.tmps, defers := [] } w := by
    rw [htm]
    refine ⟨ρ, hI0, S1, ⟨⟨Nat.zero_le _, Nat.zero_le _, fun _ _ => .inl trivial⟩, [], rfl, List.nodup_nil, fun D h => by simp at h⟩, fun i v hv => ?_⟩
    by_cases hi : i ∈ ins
    · rw [show X.fz i = a.tmps[i]? from if_pos hi] at hv
      dsimp only
      rw [hfz i fun hip => hoff i (.inl hip) hi]
      exact hv
    · rw [show X.fz i = none from if_neg hi] at hv
      cases hv
  refine wpIn_n (r := some l) (ha _ _ _ _ _ _ _ _ _ _ hXa (.inr hna) hev R1 ?_)
  rintro F1 hF1 e s2 a1 w1 hk2 R2
  cases e
  case exit => exact hk2.elim
  case ret => exact hk2.elim
  dsimp only at hk2
  obtain ⟨ρ1, I1, S2, side1⟩ := R2
  have hl1 : w1.heap[l]? = some (.loop (recOf fn a ps assign body dblk .ready none)) := (I1.blk l hll hl).trans h1
  have hd1 : w1.heap[dblk]? = some (.deferred (some [])) := (I1.blk dblk hdl hd).trans h2
  refine ⟨_, run_beginRound hl1 rfl, ?_⟩
  have hlF : F1 l := hF1 l ((hF'i l).2 ⟨hDm l (.inl rfl), hl⟩)
  have hdF : F1 dblk := hF1 dblk ((hF'i dblk).2 ⟨hDm dblk (.inr ((hD _).2 (.inl rfl))), hd⟩)
  have hl1' : ¬ LMut ρ1 s2.σ l := fun h => I1.apart l h hlF
  have hd1' : ¬ LMut ρ1 s2.σ dblk := fun h => I1.apart dblk h hdF
  generalize hw2 : w1.putObj l (.loop { recOf fn a ps assign body dblk .ready none with state := .busy }) = w2 at *
  have hs2 : w2.heap.size = w1.heap.size := by rw [← hw2]; simp
  have ho2 : ∀ b, b ≠ l → w2.heap[b]? = w1.heap[b]? := fun b hb => by rw [← hw2]; exact World.putObj_heap_other hb
  have hsh2 : ∀ b, w2.shape? b = w1.shape? b := fun b => by rw [← hw2]; exact shape_putObj hl1 b
  have hl2 : w2.heap[l]? = some (.loop { recOf fn a ps assign body dblk .ready none with state := .busy }) := by rw [← hw2]; exact World.putObj_heap_same (Array.getElem?_eq_some_iff.1 hl1).1
  have hll1 : l < w1.heap.size := (Array.getElem?_eq_some_iff.1 hl1).1
  have hdl1 : dblk < w1.heap.size := (Array.getElem?_eq_some_iff.1 hd1).1
  have K12 : Keep (Mut F1 ρ1 s2.σ) (Mut F1 ρ1 s2.σ) w1 w2 := ⟨by omega, fun b _ hb => ho2 b fun e => hb (.inl (e ▸ hlF)), fun _ _ h => h, fun b _ => hsh2 b⟩
  have I2 : Inv F1 w2 (LMut ρ1 s2.σ) ρ0 ρ1 s2.σ w2 := {
    heap := ⟨I1.heap.len, fun id b g n e1 e2 e3 => by
      obtain ⟨a1, a2, a3⟩ := I1.heap.live id b g n e1 e2 e3
      exact ⟨a1.keep K12 (fun _ _ h => h) fun k hk => ho2 k fun e => hl1' (e ▸ ⟨id, b, n, g, e1, e3, e2, hk⟩), a2, by omega⟩,
      fun id b g n k e1 e2 e3 e4 => by have := I1.heap.lt id b g n k e1 e2 e3 e4; omega, I1.heap.inj', I1.heap.glob.keep K12⟩
    pre := I1.pre
    os := rfl
    tape := rfl
    output := rfl
    size := Nat.le_refl _
    blk := fun _ _ _ => rfl
    shape := fun _ _ => rfl
    fresh := fun _ h => .inr h
    foreign := fun b hb => by have := I1.foreign b hb; omega
    apart := I1.apart }
  have side2 : Side X F1 a1 w2 := by
    obtain ⟨⟨_, Ds, g1, g2, g3⟩, g4⟩ := side1
    refine ⟨⟨⟨Nat.zero_le _, Nat.zero_le _, fun _ _ => .inl trivial⟩, Ds, g1, g2, fun D hD => ⟨(g3 D hD).1, ⟨Nat.zero_le _, .inl trivial⟩, (ho2 D fun e => ?_).trans (g3 D hD).2.2⟩⟩, g4⟩
    have := (g3 D hD).2.2
    rw [e, hl1] at this
    cases this
  refine wpIn_n (r := some l) (hb _ _ _ _ _ s2 _ a1 w2 _ hXb (.inr hnb) hk2 ⟨ρ1, I2, S2.keep K12 (fun _ _ h => h), side2⟩ ?_)
  rintro F3 hF3 e s3 a3 w3 hk3 R3
  split at hk3
  case isFalse => exact hk3.elim
  rename_i hlen
  obtain ⟨ρ3, I3, S3, side3⟩ := R3
  obtain ⟨ρ4, I4, S4, _⟩ := I3.head S3 hm0 hlen ins
  generalize headV E.m ins s3 = vs4 at *
  generalize headB E.m ins s3 = σ4 at *
  have hl3 : w3.heap[l]? = some (.loop { recOf fn a ps assign body dblk .ready none with state := .busy }) := (I4.blk l (by omega) hl1').trans hl2
  have hd3 : w3.heap[dblk]? = some (.deferred (some [])) := (I4.blk dblk (by omega) hd1').trans ((ho2 dblk fun e => hld e.symm).trans hd1)
  have hl4' : ¬ LMut ρ4 σ4 l := fun h => I4.apart l h (hF3 l hlF)
  have hd4' : ¬ LMut ρ4 σ4 dblk := fun h => I4.apart dblk h (hF3 dblk hdF)
  have hfr : ∀ b, LMut ρ4 σ4 b → b < w.heap.size → LMut ρ σ b := fun b h hb => by
    rcases I4.fresh b h with h | h
    · have := I1.size
      omega
    · rcases I1.fresh b h with h | h
      · omega
      · exact h
  have hblk : ∀ b, b < w.heap.size → ¬ (b = l ∨ D b) → w3.heap[b]? = w.heap[b]? := fun b hb hn => by
    have hn1 : ¬ LMut ρ σ b := fun h => hn (.inr ((hD b).2 (.inr h)))
    rw [I4.blk b (by have := I1.size; omega) fun h => ?_, ho2 b fun e => hn (.inl e), I1.blk b hb hn1]
    rcases I1.fresh b h with h | h
    · omega
    · exact hn1 h
  have fin : ∀ (jump : Option Code), (match (if jump.isNone then some rest else none) with
     | some rest => (if jump.isNone then LoopState.ready else .done) = .ready ∧ jump = none ∧ G rest vs4 σ4 k
     | none => (if jump.isNone then LoopState.ready else .done) = .done ∧ ∃ e, e ≠ .normal ∧ jump = some (jumpOf e) ∧ k e vs4 σ4) →
     ∃ v w', (Instr.endRound l jump).run E.P w3 = .ok v w' ∧ ∃ (c : Bool) (D' : Nat → Prop), (Ending.returned v) = .returned (.bool c) ∧
      RJ E ρ0 ins G k a l dblk fn ps assign body (fun k => (m k ∧ ¬ (k = l ∨ D k)) ∨ (k = l ∨ D' k)) D' (if c then some rest else none) w' ∧ (∀ k, D' k → (k < w.heap.size → D k) ∧ k < w'.heap.size) ∧
      w.heap.size ≤ w'.heap.size ∧ (∀ k, k < w.heap.size → ¬ (k = l ∨ D k) → w'.heap[k]? = w.heap[k]?) ∧ (∀ k, k < w.heap.size → w'.shape? k = w.shape? k) ∧ w'.os = w.os ∧ w'.tape = w.tape ∧ w'.output = w.output := by
    intro jump hj
    have hrun := run_endRound (P := E.P) jump hl3
    refine ⟨_, _, hrun, jump.isNone, fun k => k = dblk ∨ LMut ρ4 σ4 k, rfl, ?_⟩
    generalize hw4 : w3.putObj l _ = w4
    have hs4 : w4.heap.size = w3.heap.size := by rw [← hw4]; simp
    have ho4 : ∀ b, b ≠ l → w4.heap[b]? = w3.heap[b]? := fun b hb => by rw [← hw4]; exact World.putObj_heap_other hb
    have hsh4 : ∀ b, w4.shape? b = w3.shape? b := fun b => by rw [← hw4]; exact shape_putObj hl3 b
    have hl4 : w4.heap[l]? = some (.loop (recOf fn a ps assign body dblk (if jump.isNone then .ready else .done) jump)) := by rw [← hw4]; exact World.putObj_heap_same (Array.getElem?_eq_some_iff.1 hl3).1
    have K34 : Keep (Mut F3 ρ4 σ4) (Mut (fun b => ((m b ∧ ¬ (b = l ∨ D b)) ∨ (b = l ∨ (b = dblk ∨ LMut ρ4 σ4 b))) ∧ ¬ LMut ρ4 σ4 b) ρ4 σ4) w3 w4 := by
      refine ⟨by omega, fun b _ hb => ho4 b fun e => hb (.inl (e ▸ hF3 l hlF)), ?_, fun b _ => hsh4 b⟩
      rintro b _ (⟨⟨h, h'⟩ | rfl | rfl | h, hn⟩ | h)
      · exact .inl (hF3 b (hF1 b ((hF'i b).2 ⟨h, fun hx => h' (.inr ((hD b).2 (.inr hx)))⟩)))
      · exact .inl (hF3 _ hlF)
      · exact .inl (hF3 _ hdF)
      · exact absurd h hn
      · exact .inr h
    refine ⟨⟨ρ4, vs4, σ4, (if jump.isNone then .ready else .done), jump, ⟨I4.heap.len, ?_, ?_, I4.heap.inj', I4.heap.glob.keep K34⟩, I4.pre, ⟨?_, ?_⟩, fun _ => Iff.rfl, hl4', hd4', hl4, (ho4 dblk fun e => hld e.symm).trans hd3, hj⟩, ?_, ?_, ?_, ?_, ?_, ?_, ?_⟩
    · intro id b g n e1 e2 e3
      obtain ⟨a1, a2, a3⟩ := I4.heap.live id b g n e1 e2 e3
      exact ⟨a1.keep K34 (fun _ _ h => h) fun k hk => ho4 k fun e => hl4' (e ▸ ⟨id, b, n, g, e1, e3, e2, hk⟩), a2, by omega⟩
    · intro id b g n k e1 e2 e3 e4
      have := I4.heap.lt id b g n k e1 e2 e3 e4
      omega
    · simp [spread, hsz]
    · intro i v hv
      have hi : i < E.n := by
        have := (List.getElem?_eq_some_iff.1 hv).1
        simpa [spread] using this
      by_cases hin : i ∈ ins
      · obtain ⟨u, g1, g2⟩ := S4.get i v hv
        refine ⟨u, ?_, g2.keep K34 fun _ _ h => h⟩
        have h5 : X.fz i = some a.tmps[i] := by
          show (if i ∈ ins then a.tmps[i]? else none) = _
          rw [if_pos hin, Array.getElem?_eq_getElem (by omega)]
        have h6 := side3.2 i _ h5
        rw [g1] at h6
        rw [Array.getElem?_eq_getElem (by omega)]
        exact h6.symm
      · refine ⟨a.tmps[i], Array.getElem?_eq_getElem (by omega), ?_⟩
        simp only [spread, List.getElem?_map, List.getElem?_range hi, Option.map_some, Option.some.injEq] at hv
        split at hv
        · rename_i j hj
          exact absurd (List.mem_of_getElem? (pos_get hj)) hin
        · subst hv; trivial
    · rintro b (rfl | h)
      · exact ⟨fun _ => (hD _).2 (.inl rfl), by have := I1.size; have := I4.size; omega⟩
      · exact ⟨fun hb => (hD _).2 (.inr (hfr b h hb)), by have := LMut.lt I4.heap h; omega⟩
    · have := I1.size; have := I4.size; omega
    · intro b hb hn
      rw [ho4 b fun e => hn (.inl e), hblk b hb hn]
    · intro b hb
      rw [hsh4, I4.shape b (by have := I1.size; omega), hsh2, I1.shape b hb]
    · rw [← hw4]; show w3.os = _; rw [I4.os, ← hw2]; exact I1.os
    · rw [← hw4]; show w3.tape = _; rw [I4.tape, ← hw2]; exact I1.tape
    · rw [← hw4]; show w3.output = _; rw [I4.output, ← hw2]; exact I1.output
  cases e with
  | normal => exact fin none ⟨rfl, rfl, hk3⟩
  | ret => exact fin (some .ret) ⟨rfl, .ret, by simp, rfl, hk3⟩
  | exit id => exact fin (some (.exit id)) ⟨rfl, .exit id, by simp, rfl, hk3⟩
end
end Go.Ev
