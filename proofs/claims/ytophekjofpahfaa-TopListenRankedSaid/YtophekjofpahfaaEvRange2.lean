/-
  Part of the proof of a law.
-/
import Derived.Test.YtophekjofpahfaaEvRange
set_option linter.unusedVariables false
set_option linter.unusedSimpArgs false
set_option linter.unusedSectionVars false
/-
  Soundness: a loop over a function.
-/
namespace Go.Ev
open Go Go.RowKit
variable [Glob]
theorem posS_get {L : List Nat} {i j : Nat} (h : posS L i = some j) : ∃ j', j = j' + 1 ∧ L[j']? = some i := by
  unfold posS at h
  cases hp : pos L i with
  | none => rw [hp] at h; simp at h
  | some j' => rw [hp] at h; simp at h; exact ⟨j', h.symm, pos_get hp⟩
structure RangeOK (E : Env) (f : FuncId) (Sq : SeqSpec) (ps : List Tmp) (assign body : Code) (ins : List Nat) (G : List (List AV) → LSpec) : Prop where
  seq : SpecOK E.P f (seqSpec E.P Sq)
  step : ∀ x rest vs σ k, G (x :: rest) vs σ k → evRound E ps assign body ins vs σ x fun e vs' σ' => match e with
      | .normal => G rest vs' σ' k
      | e => k e vs' σ'
  done : ∀ vs σ k, G [] vs σ k → k .normal vs σ
section
variable {E : Env} {ρ0 : List (Nat × Nat)} {X : XS} {F : Nat → Prop} {w0 w : World} {m0 : Nat → Prop} {s : St} {a : Act} {g : Operand} {ps : Array Tmp} {assign body : Code}
theorem capsDen {m m' : Nat → Prop} {ρ ρ' : List (Nat × Nat)} {h : Nat → Option Nat} (hf : ∀ i j, h i = some j → ∀ g, ρ[i]? = some g → ρ'[j]? = some g) {w w' : World} (K : Keep m m' w w') : ∀ {cap : List Nat} {gs : List (Nat × Nat)}, cap.map (ρ[·]?) = gs.map some →
    All2 (Den w' m' ρ') ((capAV cap).map (mapIdsA h)) (gs.map fun g => Value.pointer (some ⟨g.1, 0, none⟩))
  | [], [], _ => trivial
  | [], _ :: _, h => by simp at h
  | _ :: _, [], h => by simp at h
  | c :: cap, q :: gs, h1 => by
    simp only [List.map_cons, List.cons.injEq] at h1
    refine ⟨?_, capsDen hf K h1.2⟩
    have hd : Den w m ρ (.one (.ptr c 1 0 0)) (Value.pointer (some ⟨q.1, 0, none⟩)) := ⟨q.1, q.2, h1.1, by simp⟩
    exact Den_re hf (.inr fun _ _ h => h) (hd.keep K fun _ _ h => h)
theorem seqSpec_intro {P : Program} {Sq : SeqSpec} {caps : List AV} {lent : List Blk} {xs : List (List AV)} {J : GJ} {D : Nat → Prop} {K : AV → List Blk → Prop} (h : Sq caps lent = some (true, xs))
    (hK : ∀ D' lent', K (.tup []) (.ghost P J D' (some []) :: lent') ∧ K (.tup []) (.ghost P J D' none :: lent')) : seqSpec P Sq (.one (.yld 0) :: caps) (.ghost P J D (some xs) :: lent) K := by
  show (match Sq caps lent with
    | some (c, xs') => cond c (P = P ∧ xs = xs' ∧ ∀ D' lent', K (.tup []) (.ghost P J D' (some []) :: lent') ∧ K (.tup []) (.ghost P J D' none :: lent')) False
    | none => False)
  rw [h]
  exact ⟨rfl, rfl, hK⟩
set_option maxHeartbeats 2000000 in
theorem range_sound (hS : ∀ f S, E.specs f = some S → SpecOK E.P f S) (hm : ρ0.length = E.m) (ha : Sound E ρ0 assign) (hb : Sound E ρ0 body)
    (hR : ∀ f Sq ins G, E.loops (keyOf (.rangeFunc g ps assign body)) = some (.range f Sq ins G) → RangeOK E f Sq ps.toList assign body ins G)
    {k : Ex → St → Prop} {Q : Exit → Act → World → Prop} (h : evCode E (.rangeFunc g ps assign body) s k) (R : Rel X F w0 m0 ρ0 s a w)
    (hQ : ∀ (F' : Nat → Prop), (∀ b, F b → F' b) → ∀ e s' a' w', k e s' → Rel X F' w0 m0 ρ0 s' a' w' → Q (toExit e) a' w') : (Code.rangeFunc g ps assign body).wpIn (wideR none) 0 E.P Q a w := by
  obtain ⟨ρ, I, S, hside⟩ := R
  simp only [evCode] at h
  split at h
  case h_2 => exact h.elim
  rename_i f cap hg
  split at h
  case h_2 => exact h.elim
  rename_i f' Sq ins G hlp
  split at h
  case isFalse => exact h.elim
  rename_i hc
  obtain ⟨rfl, hn, hc⟩ := hc
  simp only [Bool.and_eq_true] at hc
  obtain ⟨hLs, hoff, hna, hnb⟩ := hc
  split at h
  case h_2 => exact h.elim
  rename_i c xs hSq
  obtain ⟨rfl, hG⟩ := cond_pos h
  clear h
  have hRO := hR f' Sq ins G hlp
  have hgd := ops_den S g
  rw [hg] at hgd
  obtain ⟨gs, hgs, hge⟩ := hgd
  obtain ⟨hLn, hLl⟩ : (reach s.σ 64 cap []).Nodup ∧ ∀ i ∈ reach s.σ 64 cap [], i < s.σ.length := reach_ok 64 _ [] (by simp) (by simp)
  generalize reach s.σ 64 cap [] = L at *
  have hlen := I.heap.len
  -- the blocks that are lent to the iterator are taken away
  obtain ⟨Ik, hkM⟩ := I.kill L
  generalize hF1 : (fun b => F b ∨ (LMut ρ s.σ b ∧ ¬ LMut ρ (killAll L s.σ) b)) = F1 at *
  have hF1i : ∀ b, F1 b ↔ F b ∨ (LMut ρ s.σ b ∧ ¬ LMut ρ (killAll L s.σ) b) := fun b => by rw [← hF1]
  obtain ⟨ρ', I', S', hlm⟩ := Inv.head (s := ⟨s.t, killAll L s.σ⟩) Ik (S.anti fun b _ hb => hkM b hb) hm hn ins
  generalize headV E.m ins ⟨s.t, killAll L s.σ⟩ = vs at *
  generalize headB E.m ins ⟨s.t, killAll L s.σ⟩ = σ at *
  have hlmk : ∀ b, LMut ρ' σ b → LMut ρ s.σ b := fun b hb => by
    obtain ⟨id, c, n, g, h1, h2, h3, h4⟩ := hlm b hb
    exact ⟨id, c, n, g, (killAll_live _ _ h1 h2).1, h2, h3, h4⟩
  have hlen' : a.tmps.size = E.n := by rw [← S.len]; exact hn
  refine wpIn_rangeFunc fun fn _ => ?_
  -- the record is laid
  generalize hdb : w.heap.size = db
  generalize hld : db + 1 = l
  generalize hW1 : (w.alloc (.deferred (some []))).alloc (.loop (recOf fn a ps assign body db .ready none)) = W1
  have hs1 : W1.heap.size = l + 1 := by rw [← hW1]; simp; omega
  have hL1 : W1.heap[l]? = some (.loop (recOf fn a ps assign body db .ready none)) := by
    rw [← hW1, ← hld, ← hdb]; have := World.alloc_heap_new (w.alloc (.deferred (some []))) (.loop (recOf fn a ps assign body w.heap.size .ready none)); rwa [World.size_alloc] at this
  have hold : ∀ b, b < w.heap.size → W1.heap[b]? = w.heap[b]? := fun b hb => by
    rw [← hW1]
    show ((w.heap.push _).push _)[b]? = _
    rw [Array.getElem?_push, if_neg (by simp; omega), Array.getElem?_push, if_neg (by omega)]
  have hD1 : W1.heap[db]? = some (.deferred (some [])) := by
    rw [← hW1, ← hdb]
    show ((w.heap.push _).push _)[w.heap.size]? = _
    rw [Array.getElem?_push, if_neg (by simp), Array.getElem?_push, if_pos rfl]
  have hos1 : W1.os = w.os ∧ W1.tape = w.tape ∧ W1.output = w.output := by rw [← hW1]; exact ⟨rfl, rfl, rfl⟩
  let D0 : Nat → Prop := fun b => b = db ∨ LMut ρ' σ b
  let J := RJ E ρ0 ins G (fun e vs σ => k e (spread E.n ins vs σ)) a l db fn ps assign body
  let ρi : List (Nat × Nat) := (l, 0) :: L.map fun i => ρ.getD i (0, 0)
  let σi : List Blk := .ghost E.P J D0 (some xs) :: selS s.σ L
  have hρi : ∀ (i j : Nat) (q : Nat × Nat), posS L i = some j → (ρ[i]? = some q ↔ ρi[j]? = some q) := by
    intro i j q hp
    obtain ⟨j', rfl, hj⟩ := posS_get hp
    have hi := hLl i (List.mem_of_getElem? hj)
    show _ ↔ ((l, 0) :: L.map fun i => ρ.getD i (0, 0))[j' + 1]? = some q
    rw [List.getElem?_cons_succ, List.getElem?_map, hj]
    simp only [Option.map_some, Option.some.injEq]
    rw [List.getElem?_eq_getElem (by omega)]
    simp [List.getD, List.getElem?_eq_getElem (show i < ρ.length by omega)]
  have hσi : ∀ (j : Nat) (b : Blk) (q : Nat × Nat), σi[j + 1]? = some b → ρi[j + 1]? = some q → ∃ i b', i ∈ L ∧ L[j]? = some i ∧ s.σ[i]? = some b' ∧ b = mapIdsB (posS L) b' ∧ ρ[i]? = some q := by
    intro j b q hb hq
    have hb' : (selS s.σ L)[j]? = some b := hb
    have hq' : (L.map fun i => ρ.getD i (0, 0))[j]? = some q := hq
    unfold selS at hb'
    rw [List.getElem?_map] at hb' hq'
    cases hj : L[j]? with
    | none => rw [hj] at hb'; simp at hb'
    | some i =>
      rw [hj] at hb' hq'
      simp only [Option.map_some, Option.some.injEq] at hb' hq'
      have hi := hLl i (List.mem_of_getElem? hj)
      refine ⟨i, s.σ[i], List.mem_of_getElem? hj, rfl, List.getElem?_eq_getElem hi, ?_, ?_⟩
      · rw [← hb']
        simp [List.getElem?_eq_getElem hi]
      · rw [← hq', List.getElem?_eq_getElem (by omega)]
        simp [List.getD, List.getElem?_eq_getElem (show i < ρ.length by omega)]
  -- what the iterator may write
  have hLMi : ∀ b, LMut ρi σi b → (b = l ∨ D0 b) ∨ ∃ i c n q, i ∈ L ∧ s.σ[i]? = some c ∧ c.live = true ∧ ρ[i]? = some (q, n) ∧ c.owns q b := by
    rintro b ⟨j, c, n, q, h1, h2, h3, h4⟩
    cases j with
    | zero =>
      simp only [ρi, σi, List.getElem?_cons_zero, Option.some.injEq, Prod.mk.injEq] at h1 h3
      subst h1
      obtain ⟨rfl, rfl⟩ := h3
      exact .inl h4
    | succ j =>
      obtain ⟨i, b', h5, _, h6, rfl, h7⟩ := hσi j c _ h1 h3
      exact .inr ⟨i, b', n, q, h5, h6, by rw [← (mapIdsB_count (f := posS L) b').2]; exact h2, h7, (mapIdsB_owns b').1 h4⟩
  have hown : ∀ b, (b = l ∨ D0 b) → LMut ρi σi b := fun b hb => ⟨0, _, 0, l, rfl, rfl, rfl, hb⟩
  have hlentN : ∀ i c n q b, i ∈ L → s.σ[i]? = some c → c.live = true → ρ[i]? = some (q, n) → c.owns q b → ¬ LMut ρ' σ b := by
    intro i c n q b h1 h2 h3 h4 h5 h6
    obtain ⟨i', c', n', q', e1, e2, e3, e4⟩ := hlm b h6
    obtain ⟨e5, e6⟩ := killAll_live _ _ e1 e2
    exact e6 ((I.heap.inj' i i' c c' q q' n n' b h2 e5 h3 e2 h4 e3 h5 e4) ▸ h1)
  have hLMw : ∀ b, LMut ρi σi b → b < w.heap.size → LMut ρ s.σ b := by
    intro b hb hlt
    rcases hLMi b hb with (rfl | rfl | h) | ⟨i, c, n, q, h1, h2, h3, h4, h5⟩
    · omega
    · omega
    · exact hlmk b h
    · exact ⟨i, c, n, q, h2, h3, h4, h5⟩
  have hMlt : ∀ b, Mut F ρi σi b → b < W1.heap.size := by
    rintro b (h | h)
    · have := I.foreign b h; omega
    · rcases hLMi b h with (rfl | rfl | h) | ⟨i, c, n, q, h1, h2, h3, h4, h5⟩
      · omega
      · omega
      · have := LMut.lt I.heap (hlmk b h); omega
      · have := I.heap.lt i c q n b h2 h4 h3 h5; omega
  have hKw : ∀ {m m' : Nat → Prop}, (∀ b, b < w.heap.size → m' b → m b) → Keep m m' w W1 := fun hm => ⟨by omega, fun b hb _ => hold b hb, hm, fun b hb => by unfold World.shape?; rw [hold b hb]⟩
  have Kw : Keep (Mut F ρ s.σ) (Mut F ρi σi) w W1 := hKw fun b hb h => h.imp_right fun h => hLMw b h hb
  have hnl : ∀ b, b < w.heap.size → b ≠ l := fun b hb e => by omega
  have hbl : ¬ LMut ρ' σ l := fun h => by have := LMut.lt I.heap (hlmk _ h); omega
  have hbd : ¬ LMut ρ' σ db := fun h => by have := LMut.lt I.heap (hlmk _ h); omega
  have hlne : l ≠ db := by omega
  have hproto : Proto E.P l J := ⟨fun m m' D r w w' h K hh => RJ.keep m m' D r w w' h K hh,
    fun m D x rest w vals hJ hml hDm hA => by
      obtain ⟨q1, q2, q3, q4, q5, q6⟩ := RJ.round hm hlen' ha hb hna hnb hoff hlne hRO.step m D x rest w vals hJ hml hDm hA
      exact ⟨q1, q2, q3, q4, q5, fun n => q6 n⟩⟩
  have hJ1 : J (Mut F ρi σi) D0 (some xs) W1 := by
    have K1 : Keep (Mut F1 ρ' σ) (Mut (fun b => Mut F ρi σi b ∧ ¬ LMut ρ' σ b) ρ' σ) w W1 := hKw fun b hb h => by
      rcases h with ⟨h | h, hn⟩ | h
      · exact .inl ((hF1i b).2 (.inl h))
      · rcases hLMi b h with (rfl | rfl | h') | ⟨i, c, n, q, h1, h2, h3, h4, h5⟩
        · omega
        · omega
        · exact .inr h'
        · refine .inl ((hF1i b).2 (.inr ⟨⟨i, c, n, q, h2, h3, h4, h5⟩, ?_⟩))
          rintro ⟨i', c', n', q', e1, e2, e3, e4⟩
          obtain ⟨e5, e6⟩ := killAll_live _ _ e1 e2
          exact e6 ((I.heap.inj' i i' c c' q q' n n' b h2 e5 h3 e2 h4 e3 h5 e4) ▸ h1)
      · exact .inr h
    refine ⟨ρ', vs, σ, .ready, none, ⟨I'.heap.len, fun id b g n e1 e2 e3 => ?_, fun id b g n k e1 e2 e3 e4 => by have := I'.heap.lt id b g n k e1 e2 e3 e4; omega, I'.heap.inj', I'.heap.glob.keep K1⟩, I'.pre, S'.keep K1 (fun _ _ h => h), fun _ => Iff.rfl, hbl, hbd, hL1, hD1, rfl, rfl, hG⟩
    obtain ⟨a1, a2, a3⟩ := I'.heap.live id b g n e1 e2 e3
    exact ⟨a1.keep K1 (fun _ _ h => h) fun k hk => hold k (I'.heap.lt id b g n k e1 e2 e3 hk), a2, by omega⟩
  have Hi : HeapOk F ρi σi W1 := by
    refine ⟨by simp [ρi, σi, selS], ?_, ?_, ?_, ?_⟩
    · intro j b q n h1 h2 h3
      cases j with
      | zero =>
        simp only [ρi, σi, List.getElem?_cons_zero, Option.some.injEq, Prod.mk.injEq] at h1 h2
        subst h1
        obtain ⟨rfl, rfl⟩ := h2
        exact ⟨⟨hJ1, hproto⟩, rfl, by omega⟩
      | succ j =>
        obtain ⟨i, b', h5, h5', h6, rfl, h7⟩ := hσi j b _ h1 h2
        have hl' : b'.live = true := by rw [← (mapIdsB_count (f := posS L) b').2]; exact h3
        obtain ⟨a1, a2, a3⟩ := I.heap.live i b' q n h6 h7 hl'
        exact ⟨DenBlk_re (fun i j hp g hg => (hρi i j g hp).1 hg) (.inr fun _ _ h => h) (a1.keep Kw (fun _ _ h => h) fun k hk => hold k (I.heap.lt i b' q n k h6 h7 hl' hk)), by rw [(mapIdsB_count b').1, a2], by omega⟩
    · intro j b q n k' h1 h2 h3 h4
      exact hMlt k' (.inr ⟨j, b, n, q, h1, h3, h2, h4⟩)
    · intro i j b b' q q' n n' k' h1 h2 h3 h4 h5 h6 h7 h8
      have one : ∀ (j : Nat) (b : Blk) (q n : Nat), σi[j + 1]? = some b → b.live = true → ρi[j + 1]? = some (q, n) → b.owns q k' → (k' = l ∨ D0 k') → False := by
        intro j b q n e1 e2 e3 e4 e5
        obtain ⟨i, b', g1, _, g2, rfl, g3⟩ := hσi j b _ e1 e3
        have hl' : b'.live = true := by rw [← (mapIdsB_count (f := posS L) b').2]; exact e2
        have ho := (mapIdsB_owns b').1 e4
        have := I.heap.lt i b' q n k' g2 g3 hl' ho
        rcases e5 with rfl | rfl | e5
        · omega
        · omega
        · exact hlentN i b' n q k' g1 g2 hl' g3 ho e5
      cases i with
      | zero =>
        cases j with
        | zero => rfl
        | succ j =>
          exfalso
          simp only [ρi, σi, List.getElem?_cons_zero, Option.some.injEq, Prod.mk.injEq] at h1 h5
          subst h1
          obtain ⟨rfl, rfl⟩ := h5
          exact one j b' q' n' h2 h4 h6 h8 h7
      | succ i =>
        cases j with
        | zero =>
          exfalso
          simp only [ρi, σi, List.getElem?_cons_zero, Option.some.injEq, Prod.mk.injEq] at h2 h6
          subst h2
          obtain ⟨rfl, rfl⟩ := h6
          exact one i b q n h1 h3 h5 h7 h8
        | succ j =>
          obtain ⟨i1, c1, g1, g1', g2, rfl, g3⟩ := hσi i b _ h1 h5
          obtain ⟨i2, c2, g4, g4', g5, rfl, g6⟩ := hσi j b' _ h2 h6
          have e := I.heap.inj' i1 i2 c1 c2 q q' n n' k' g2 g5 (by rw [← (mapIdsB_count (f := posS L) c1).2]; exact h3) (by rw [← (mapIdsB_count (f := posS L) c2).2]; exact h4) g3 g6 ((mapIdsB_owns c1).1 h7) ((mapIdsB_owns c2).1 h8)
          subst e
          have hil := (List.getElem?_eq_some_iff.1 g1').1
          rw [(List.getElem?_inj hil hLn).1 (g1'.trans g4'.symm)]
    · exact I.heap.glob.keep Kw
  have hFi : ∀ b, F b → b < W1.heap.size ∧ ¬ LMut ρi σi b := fun b hb => by
    have h1 := I.foreign b hb
    exact ⟨by omega, fun h => I.apart b (hLMw b h h1) hb⟩
  have hargs : All2 (Den W1 (Mut F ρi σi) ρi) (.one (.yld 0) :: (capAV cap).map (mapIdsA (posS L))) (Value.func (.yield l) #[] #[] :: gs.map fun g => Value.pointer (some ⟨g.1, 0, none⟩)) :=
    ⟨⟨l, 0, rfl, rfl⟩, capsDen (fun i j hp g hg => (hρi i j g hp).1 hg) Kw hgs⟩
  have hspec : seqSpec E.P Sq (.one (.yld 0) :: (capAV cap).map (mapIdsA (posS L))) σi fun _ σ' => ∃ D' lent' r', σ' = .ghost E.P J D' r' :: lent' ∧ (r' = some [] ∨ r' = none) := by
    exact seqSpec_intro hSq fun D' lent' => ⟨⟨D', lent', _, rfl, .inl rfl⟩, ⟨D', lent', _, rfl, .inr rfl⟩⟩
  have hcall := hRO.seq.sound _ _ _ hspec F ρi _ W1 Hi hFi hargs
  obtain ⟨fn', c', hfn, hbody, hname⟩ := hRO.seq.body
  refine ⟨l, [{ target := .collected db, args := #[] }], W1, { target := .fn (.func f') (gs.map fun g => Value.pointer (some ⟨g.1, 0, none⟩)).toArray, args := #[.func (.yield l) #[] #[]] }, W1, f',
    (Value.func (.yield l) #[] #[] :: gs.map fun g => Value.pointer (some ⟨g.1, 0, none⟩)).toArray, W1, ?_, ?_, fun _ _ => trivial, ?_, fun h => by simp [wideR, Fence.wide] at h, callsIn_wideR (hcall.mono ?_)⟩
  · rw [← hW1, ← hld, ← hdb]
    exact run_enterLoop_outer fn a.tmps ps assign body
  · have hcst : ∀ v, a.eval (.const v) = v := fun _ => rfl
    simp [resolve, hge, hcst, Deferred.ofValue]
  · simp only [invoke, callFunc, Sem.run_bind, run_program, hfn, hname, hbody, Result.andThen_ok]
    simp [Sem.run_pure]
  rintro e w3 ⟨v, av, σ3, ρ3, rfl, ⟨D', lent', r', rfl, hr'⟩, I3, K3, _⟩
  -- behind the iterator
  have hρ3 : ρ3[0]? = some (l, 0) := by
    obtain ⟨q, hq⟩ := I3.pre
    rw [hq]
    rfl
  obtain ⟨⟨hJ3, _⟩, _, _⟩ := I3.heap.live 0 _ l 0 rfl hρ3 rfl
  obtain ⟨ρ4, vs4, σ4, st, pend, H4, hp4, S4, hD4, hl4, hd4, hrec, hdef, hrr⟩ := hJ3
  have hst : st ≠ .busy := by
    rcases hr' with rfl | rfl
    · rw [hrr.1]; simp
    · rw [hrr.1]; simp
  have hend := run_endLoop (P := E.P) hrec hst
  refine ⟨pend, _, hend, ?_⟩
  generalize hw4 : w3.putObj l _ = w4
  have hs4 : w4.heap.size = w3.heap.size := by rw [← hw4]; simp
  have ho4 : ∀ b, b ≠ l → w4.heap[b]? = w3.heap[b]? := fun b hb => by rw [← hw4]; exact World.putObj_heap_other hb
  have hsh4 : ∀ b, w4.shape? b = w3.shape? b := fun b => by rw [← hw4]; exact shape_putObj hrec b
  have hown3 : ∀ b, (b = l ∨ D' b) → LMut ρ3 (.ghost E.P J D' r' :: lent') b := fun b hb => ⟨0, _, 0, l, rfl, rfl, hρ3, hb⟩
  have hLM4 : ∀ b, LMut ρ4 σ4 b → LMut ρ3 (.ghost E.P J D' r' :: lent') b := fun b hb => hown3 b (.inr ((hD4 b).2 (.inr hb)))
  have hdl3 : db < w3.heap.size := (Array.getElem?_eq_some_iff.1 hdef).1
  let F4 : Nat → Prop := fun b => F b ∨ b = db
  have K34 : Keep (Mut (fun b => Mut F ρ3 (.ghost E.P J D' r' :: lent') b ∧ ¬ LMut ρ4 σ4 b) ρ4 σ4) (Mut F4 ρ4 σ4) w3 w4 := by
    refine ⟨by omega, fun b _ hb => ho4 b fun e => hb (.inl ⟨.inr (hown3 b (.inl e)), e ▸ hl4⟩), ?_, fun b _ => hsh4 b⟩
    rintro b _ ((h | rfl) | h)
    · exact .inl ⟨.inl h, fun h' => I3.apart b (hLM4 b h') h⟩
    · exact .inl ⟨.inr (hown3 _ (.inr ((hD4 _).2 (.inl rfl)))), hd4⟩
    · exact .inr h
  have hblk : ∀ b, b < w.heap.size → ¬ LMut ρ s.σ b → w4.heap[b]? = w.heap[b]? := fun b hb hn => by
    rw [ho4 b (hnl b hb), I3.blk b (by omega) fun h => hn (hLMw b h hb), hold b hb]
  have I4 : Inv F4 w0 m0 ρ0 ρ4 σ4 w4 := {
    heap := ⟨H4.len, fun id b g n e1 e2 e3 => by
      obtain ⟨a1, a2, a3⟩ := H4.live id b g n e1 e2 e3
      exact ⟨a1.keep K34 (fun _ _ h => h) fun k hk => ho4 k fun e => hl4 (e ▸ ⟨id, b, n, g, e1, e3, e2, hk⟩), a2, by omega⟩,
      fun id b g n k e1 e2 e3 e4 => by have := H4.lt id b g n k e1 e2 e3 e4; omega, H4.inj', H4.glob.keep K34⟩
    pre := hp4
    os := by rw [← hw4]; exact I3.os.trans (hos1.1.trans I.os)
    tape := by rw [← hw4]; exact I3.tape.trans (hos1.2.1.trans I.tape)
    output := by rw [← hw4]; exact I3.output.trans (hos1.2.2.trans I.output)
    size := by have := I.size; have := I3.size; omega
    blk := fun b hb hn => by
      have h1 := I.size
      rw [hblk b (by omega) fun h => ?_, I.blk b hb hn]
      rcases I.fresh b h with h | h
      · omega
      · exact hn h
    shape := fun b hb => by
      have h1 := I.size
      rw [hsh4, I3.shape b (by omega), ← I.shape b hb]
      unfold World.shape?
      rw [hold b (by omega)]
    fresh := fun b hb => by
      have h1 := I.size
      rcases I3.fresh b (hLM4 b hb) with h | h
      · exact .inl (by omega)
      · rcases Nat.lt_or_ge b w.heap.size with hlt | hge
        · exact I.fresh b (hLMw b h hlt)
        · exact .inl (by omega)
    foreign := fun b hb => by
      rcases hb with hb | rfl
      · have := I3.foreign b hb; omega
      · omega
    apart := fun b hb h => by
      rcases h with h | rfl
      · exact I3.apart b (hLM4 b hb) h
      · exact hd4 hb }
  have S4' : Slots (Mut F4 ρ4 σ4) ρ4 (spread E.n ins vs4 σ4).t { a with defers := [{ target := .collected db, args := #[] }] ++ a.defers } w4 :=
    ⟨(S4.keep K34 fun _ _ h => h).len, (S4.keep K34 fun _ _ h => h).get⟩
  have side4 : Side X F4 { a with defers := [{ target := .collected db, args := #[] }] ++ a.defers } w4 := by
    obtain ⟨⟨g0, Ds, g1, g2, g3⟩, g4⟩ := hside
    have h3 := I3.size
    refine ⟨⟨⟨by have := g0.1; omega, by have := g0.2.1; omega, fun b hb => hb.elim (g0.2.2 b) fun e => .inr (by have := g0.2.1; omega)⟩, db :: Ds, by simp [g1], ?_, ?_⟩, g4⟩
    · refine List.nodup_cons.2 ⟨fun hd => ?_, g2⟩
      have := (Array.getElem?_eq_some_iff.1 (g3 db hd).2.2).1
      omega
    · intro D hD
      rcases List.mem_cons.1 hD with rfl | hD
      · exact ⟨.inr rfl, ⟨by have := g0.1; omega, .inr (by have := g0.2.1; omega)⟩, (ho4 D (by omega)).trans hdef⟩
      · obtain ⟨e1, e2, e3⟩ := g3 D hD
        have hlt := (Array.getElem?_eq_some_iff.1 e3).1
        exact ⟨.inl e1, e2, (hblk D hlt fun h => I.apart D h e1).trans e3⟩
  have R4 : Rel X F4 w0 m0 ρ0 (spread E.n ins vs4 σ4) { a with defers := [{ target := .collected db, args := #[] }] ++ a.defers } w4 := ⟨ρ4, I4, S4', side4⟩
  rcases hr' with rfl | rfl
  · obtain ⟨_, rfl, hGe⟩ := hrr
    exact hQ F4 (fun b h => .inl h) .normal _ _ _ (hRO.done _ _ _ hGe) R4
  · obtain ⟨_, e, hne, rfl, hke⟩ := hrr
    cases e with
    | normal => exact absurd rfl hne
    | ret => exact wpIn_ret (hQ F4 (fun b h => .inl h) .ret _ _ _ hke R4)
    | exit id => exact wpIn_exit (hQ F4 (fun b h => .inl h) (.exit id) _ _ _ hke R4)
end
end Go.Ev
