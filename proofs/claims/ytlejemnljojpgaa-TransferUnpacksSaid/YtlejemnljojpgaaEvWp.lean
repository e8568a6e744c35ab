/-
  Soundness, thirteenth part: blocks that stay; loops; code; functions.
-/
import Derived.Test.YtlejemnljojpgaaEvDraw
import Derived.LoopN
namespace Go.Ev
open Go Go.RowKit

def toExit : Ex → Exit
  | .normal => .normal
  | .exit i => .exit i
  | .ret => .ret

theorem reach_front {σ : List Blk} : ∀ (n : Nat) (todo acc : List Nat), ∃ r, reach σ n todo acc = acc ++ r
  | 0, todo, acc => ⟨[], by simp [reach]⟩
  | n + 1, [], acc => ⟨[], by simp [reach]⟩
  | n + 1, id :: todo, acc => by
    simp only [reach]
    split
    · exact reach_front n todo acc
    · split
      · obtain ⟨r, h⟩ := reach_front (σ := σ) n _ (acc ++ [id])
        exact ⟨[id] ++ r, by rw [h, List.append_assoc]⟩
      · exact reach_front n todo acc

section
variable {F : Nat → Prop} {E : Env} {w0 w : World} {m0 : Nat → Prop} {ρ0 ρ : List (Nat × Nat)} {σ : List Blk} {s : St} {a : Act}

/-- The blocks that stay, numbered anew. -/
theorem Inv.sel (I : Inv F w0 m0 ρ0 ρ σ w) (ids : List Nat) : ∃ ρ', Inv F w0 m0 ρ0 ρ' (selB σ (stay ρ0.length σ ids)) w ∧ (∀ i j, pos (stay ρ0.length σ ids) i = some j → ∀ g, ρ[i]? = some g → ρ'[j]? = some g) ∧
    (∀ b, b < w.heap.size → Mut F ρ' (selB σ (stay ρ0.length σ ids)) b → Mut F ρ σ b) := by
  obtain ⟨r, hr⟩ := I.pre
  have hlen := I.heap.len
  have hm : ρ0.length ≤ σ.length := by rw [← hlen, hr]; simp
  obtain ⟨hnd, hlt⟩ : (stay ρ0.length σ ids).Nodup ∧ ∀ i ∈ stay ρ0.length σ ids, i < σ.length := reach_ok 64 _ _ List.nodup_range (fun i hi => by simp at hi; omega)
  obtain ⟨r', hfront⟩ : ∃ r', stay ρ0.length σ ids = List.range ρ0.length ++ r' := reach_front 64 _ _
  generalize stay ρ0.length σ ids = L at *
  have hget : ∀ (j i : Nat) (g : Nat × Nat), L[j]? = some i → (ρ[i]? = some g ↔ (L.map fun i => ρ.getD i (0, 0))[j]? = some g) := by
    intro j i g hj
    have hi := hlt i (List.mem_of_getElem? hj)
    rw [List.getElem?_map, hj]
    simp only [Option.map_some, Option.some.injEq]
    rw [List.getElem?_eq_getElem (by omega)]
    simp [List.getD, List.getElem?_eq_getElem (show i < ρ.length by omega)]
  have hf : ∀ i j, pos L i = some j → ∀ g, ρ[i]? = some g → (L.map fun i => ρ.getD i (0, 0))[j]? = some g := fun i j hp g hg => (hget j i g (pos_get hp)).1 hg
  have hσL : ∀ (j : Nat) (b : Blk), (selB σ L)[j]? = some b → ∃ i b', L[j]? = some i ∧ σ[i]? = some b' ∧ b = mapIdsB (pos L) b' := by
    intro j b hb
    unfold selB at hb
    rw [List.getElem?_map] at hb
    cases hj : L[j]? with
    | none => rw [hj] at hb; simp at hb
    | some i =>
      rw [hj] at hb
      simp at hb
      have hi := hlt i (List.mem_of_getElem? hj)
      refine ⟨i, σ[i], rfl, List.getElem?_eq_getElem hi, ?_⟩
      rw [← hb]
      simp [List.getElem?_eq_getElem hi]
  have lm : ∀ b, LMut (L.map fun i => ρ.getD i (0, 0)) (selB σ L) b → LMut ρ σ b := by
    rintro b ⟨j, b1, n, h1, h2, h3⟩
    obtain ⟨i, b', h4, h5, rfl⟩ := hσL j b1 h1
    exact ⟨i, b', n, h5, by rw [← (mapIdsB_count (f := pos L) b').2]; exact h2, (hget j i _ h4).2 h3⟩
  have hmm : ∀ b, b < w.heap.size → Mut F (L.map fun i => ρ.getD i (0, 0)) (selB σ L) b → Mut F ρ σ b := by
    rintro b _ (h | h)
    · exact .inl h
    · exact .inr (lm b h)
  refine ⟨L.map fun i => ρ.getD i (0, 0), {
    heap := ⟨by simp [selB], ?_, ?_⟩
    pre := ?_
    os := I.os
    tape := I.tape
    output := I.output
    size := I.size
    blk := I.blk
    shape := I.shape
    fresh := fun g hg => I.fresh g (lm g hg)
    foreign := I.foreign }, hf, hmm⟩
  · intro j b g n hb hg hl
    obtain ⟨i, b', h4, h5, rfl⟩ := hσL j b hb
    have hl' : b'.live = true := by rw [← (mapIdsB_count (f := pos L) b').2]; exact hl
    obtain ⟨h6, h7, h8⟩ := I.heap.live i b' g n h5 ((hget j i _ h4).2 hg) hl'
    exact ⟨DenBlk_re hf (.inr hmm) h6, by rw [(mapIdsB_count b').1, h7], h8⟩
  · intro j j' b b' g n n' hb hb' hl hl' hg hg'
    obtain ⟨i, c, h4, h5, rfl⟩ := hσL j b hb
    obtain ⟨i', c', h4', h5', rfl⟩ := hσL j' b' hb'
    have e := I.heap.inj i i' c c' g n n' h5 h5' (by rw [← (mapIdsB_count (f := pos L) c).2]; exact hl) (by rw [← (mapIdsB_count (f := pos L) c').2]; exact hl') ((hget j i _ h4).2 hg) ((hget j' i' _ h4').2 hg')
    subst e
    have hjl := (List.getElem?_eq_some_iff.1 h4).1
    exact (List.getElem?_inj hjl hnd).1 (h4.trans h4'.symm)
  · refine ⟨r'.map fun i => ρ.getD i (0, 0), ?_⟩
    rw [hfront, List.map_append]
    congr 1
    refine List.ext_getElem? fun i => ?_
    rw [List.getElem?_map]
    rcases Nat.lt_or_ge i ρ0.length with h | h
    · rw [List.getElem?_range h, List.getElem?_eq_getElem h]
      simp only [Option.map_some, Option.some.injEq]
      rw [hr, List.getD_eq_getElem?_getD, List.getElem?_append_left h, List.getElem?_eq_getElem h]
      rfl
    · rw [List.getElem?_eq_none (by simpa using h), List.getElem?_eq_none h]
      rfl

/-- At a loop's head. -/
theorem Rel.head (R : Rel F w0 m0 ρ0 s a w) (hm : ρ0.length = E.m) (hn : s.t.length = E.n) (live : List Nat) : Rel F w0 m0 ρ0 (spread E.n live (headV E.m live s) (headB E.m live s)) a w := by
  obtain ⟨ρ, I, S, hd⟩ := R
  obtain ⟨ρ', I', hf, hmm⟩ := I.sel ((liveV live s).flatMap idsA)
  rw [hm] at I' hf hmm
  refine ⟨ρ', I', ⟨by simp [spread, ← S.len, hn], fun i v hv => ?_⟩, hd⟩
  simp only [spread, List.getElem?_map] at hv
  rcases Nat.lt_or_ge i E.n with hi | hi
  · rw [List.getElem?_range hi] at hv
    simp only [Option.map_some, Option.some.injEq] at hv
    obtain ⟨u, h1, h2⟩ := S.get i _ (List.getElem?_eq_getElem (by omega))
    refine ⟨u, h1, ?_⟩
    split at hv
    · rename_i j hj
      have hj' := pos_get hj
      have : (headV E.m live s)[j]? = some (mapIdsA (pos (headL E.m live s)) (s.t[i]'(by omega))) := by
        unfold headV liveV
        rw [List.getElem?_map, List.getElem?_map, hj']
        simp [List.getElem?_eq_getElem (show i < s.t.length by omega)]
      rw [List.getD_eq_getElem?_getD, this] at hv
      simp only [Option.getD_some] at hv
      subst hv
      exact Den_re hf (.inr hmm) h2
    · subst hv
      trivial
  · rw [List.getElem?_eq_none (by simpa using hi)] at hv
    cases hv

/-- What is to be shown of a loop. -/
def LoopOK (E : Env) (b : Code) (ins outs : List Nat) (G : LSpec) : Prop :=
  ∀ (vs : List AV) (σ : List Blk) (k : Ex → List AV → List Blk → Prop), G vs σ k → ∀ (F : Nat → Prop) (w0 : World) (m0 : Nat → Prop) (ρ0 : List (Nat × Nat)) (a : Act) (w : World) (Q : Exit → Act → World → Prop),
    ρ0.length = E.m → Rel F w0 m0 ρ0 (spread E.n ins vs σ) a w →
    (∀ e vs' σ' a' w', k e vs' σ' → Rel F w0 m0 ρ0 (spread E.n outs vs' σ') a' w' → Q (toExit e) a' w') → (Code.loop b).wp E.P Q a w
def LoopHyp (E : Env) (b : Code) : Prop := ∀ ins outs G, E.loops (keyOf b) = some (.spec ins outs G) → LoopOK E b ins outs G

theorem ov_bool {m : Nat → Prop} (S : Slots m ρ s.t a w) {c : Operand} {x : Bool} (h : s.ov c = .one (.bool x)) : a.eval c = .bool x := by
  have := ops_den S c
  rw [h] at this
  exact this

/-- Code. -/
theorem evCode_sound (hS : ∀ f S, E.specs f = some S → SpecOK E.P f S) (hm : ρ0.length = E.m) : ∀ (c : Code), (∀ b ∈ loopsOf c, LoopHyp E b) → ∀ (s : St) (k : Ex → St → Prop) (a : Act) (w : World) (Q : Exit → Act → World → Prop), evCode E c s k → Rel F w0 m0 ρ0 s a w →
    (∀ e s' a' w', k e s' → Rel F w0 m0 ρ0 s' a' w' → Q (toExit e) a' w') → c.wp E.P Q a w
  | .skip, _, s, k, a, w, Q, h, R, hQ => wp_skip (hQ .normal s a w h R)
  | .exit id, _, s, k, a, w, Q, h, R, hQ => wp_exit (hQ (.exit id) s a w h R)
  | .ret, _, s, k, a, w, Q, h, R, hQ => wp_ret (hQ .ret s a w h R)
  | .region id ops draw, _, s, k, a, w, Q, h, R, hQ => by
    simp only [evCode] at h
    cases draw with
    | false =>
      simp only [Bool.false_eq_true, if_false] at h
      refine wp_region ?_
      have := evOps_sound hS (Q := Q) (fun s' a' w' hk R' => hQ .normal s' a' w' hk R') ops.toList 0 s a w (fun i _ => by simp) h R
      simpa [List.range_eq_range'] using this
    | true =>
      simp only [if_true] at h
      split at h
      case isFalse => exact h.elim
      rename_i hc
      simp only [Bool.and_eq_true] at hc
      exact region_draw_sound hS hc.1 hc.2 h R fun s' a' w' hk R' => hQ .normal s' a' w' hk R'
  | .seq x y, hL, s, k, a, w, Q, h, R, hQ => by
    simp only [evCode] at h
    refine wp_seq (evCode_sound hS hm x (fun b hb => hL b (by simp [loopsOf, hb])) s _ a w _ h R fun e s' a' w' hk R' => ?_)
    cases e with
    | normal => exact evCode_sound hS hm y (fun b hb => hL b (by simp [loopsOf, hb])) s' k a' w' Q hk R' hQ
    | exit id => exact hQ _ _ _ _ hk R'
    | ret => exact hQ _ _ _ _ hk R'
  | .cond c x y, hL, s, k, a, w, Q, h, R, hQ => by
    have hx := evCode_sound hS hm x (fun b hb => hL b (by simp [loopsOf, hb]))
    have hy := evCode_sound hS hm y (fun b hb => hL b (by simp [loopsOf, hb]))
    simp only [evCode] at h
    obtain ⟨ρ, I, S, hd⟩ := R
    split at h
    · rename_i b d hb
      have hev := ov_bool S hb
      have hslot : a.tmps[d]? = some (.bool b) := by
        simp only [St.ov] at hb
        exact slot_bool S hb
      have R' : Rel F w0 m0 ρ0 (setB s d b) a w := ⟨ρ, I, S.setB hslot, hd⟩
      cases b
      · exact wp_cond_false hev (hy _ k a w Q h R' hQ)
      · exact wp_cond_true hev (hx _ k a w Q h R' hQ)
    · rename_i b _ hb
      have hev := ov_bool S hb
      cases b
      · exact wp_cond_false hev (hy _ k a w Q h ⟨ρ, I, S, hd⟩ hQ)
      · exact wp_cond_true hev (hx _ k a w Q h ⟨ρ, I, S, hd⟩ hQ)
    · exact h.elim
  | .block id x, hL, s, k, a, w, Q, h, R, hQ => by
    simp only [evCode] at h
    refine wp_block (evCode_sound hS hm x (fun b hb => hL b (by simpa [loopsOf] using hb)) s _ a w _ h R fun e s' a' w' hk R' => ?_)
    cases e with
    | normal => exact hQ _ _ _ _ hk R'
    | ret => exact hQ _ _ _ _ hk R'
    | exit i =>
      dsimp only at hk
      simp only [toExit, Exit.inBlock]
      split at hk
      · rename_i hi
        rw [if_pos hi]
        exact hQ .normal _ _ _ hk R'
      · rename_i hi
        rw [if_neg hi]
        exact hQ (.exit i) _ _ _ hk R'
  | .loop x, hL, s, k, a, w, Q, h, R, hQ => by
    simp only [evCode] at h
    split at h
    · rename_i n hu
      refine wp_loop_rounds n ?_
      have hx := evCode_sound hS hm x (fun b hb => hL b (by simp [loopsOf, hb]))
      clear hu
      induction n generalizing s a w with
      | zero => exact h.elim
      | succ n ih =>
        simp only [rounds] at h
        rw [rounds_succ]
        refine hx s _ a w _ h R fun e s' a' w' hk R' => ?_
        cases e with
        | normal => exact ih _ _ _ R' hk
        | exit id => exact hQ _ _ _ _ hk R'
        | ret => exact hQ _ _ _ _ hk R'
    · rename_i ins outs G hG
      split at h
      case isFalse => exact h.elim
      rename_i hn
      exact hL x (by simp [loopsOf]) ins outs G hG _ _ _ h F w0 m0 ρ0 a w Q hm (R.head hm hn ins) fun e vs' σ' a' w' hk R' => hQ e _ a' w' hk R'
    · exact h.elim
  | .rangeFunc .., _, s, k, a, w, Q, h, R, hQ => by simp only [evCode] at h
  | .scope .., _, s, k, a, w, Q, h, R, hQ => by simp only [evCode] at h
  | .label .., _, s, k, a, w, Q, h, R, hQ => by simp only [evCode] at h
  | .goto .., _, s, k, a, w, Q, h, R, hQ => by simp only [evCode] at h

/-- A loop by its rounds. -/
theorem loopOK_of (hS : ∀ f S, E.specs f = some S → SpecOK E.P f S) {b : Code} (hL : ∀ b' ∈ loopsOf b, LoopHyp E b') {ins outs : List Nat} {G : LSpec} (μ : List AV → List Blk → Nat)
    (step : ∀ vs σ k, G vs σ k → evBody E b ins outs vs σ fun e vs' σ' => match e with
      | .normal => G vs' σ' k ∧ μ vs' σ' < μ vs σ
      | e => k e vs' σ') : LoopOK E b ins outs G := by
  intro vs σ k hG F w0 m0 ρ0 a w Q hm R hQ
  refine wp_loop_rounds (μ vs σ + 1) ?_
  have key : ∀ n vs σ a w, μ vs σ < n → G vs σ k → Rel F w0 m0 ρ0 (spread E.n ins vs σ) a w → Code.rounds E.P b Q n a w := by
    intro n
    induction n with
    | zero => intro vs σ a w h; omega
    | succ n ih =>
      intro vs σ a w hn hG R
      rw [rounds_succ]
      refine evCode_sound hS hm b hL _ _ a w _ (step vs σ k hG) R fun e s' a' w' hk R' => ?_
      split at hk
      case isFalse => exact hk.elim
      rename_i hlen
      cases e with
      | normal => exact ih _ _ _ _ (by have := hk.2; omega) hk.1 (R'.head hm hlen ins)
      | exit id => exact hQ _ _ _ _ _ hk (R'.head hm hlen outs)
      | ret => exact hQ _ _ _ _ _ hk (R'.head hm hlen outs)
  exact key _ vs σ a w (by omega) hG R


/-- A result. -/
theorem resultOf_sound (H : HeapOk F ρ s.σ w) (S : Slots (Mut F ρ s.σ) ρ s.t a w) {r : ResultVar} {v : TV} (h : resultOf E.P s r = some (true, v)) :
    ∃ u, (match r with
      | .tmp t => pure (a.tmps.getD t undef)
      | .cell b t => do loadVar t (← asAddr (a.tmps.getD b undef)) : Sem Value).run E.P w = .ok u w ∧ DenT w (Mut F ρ s.σ) ρ v u := by
  cases r with
  | tmp t =>
    have hd := ops_den S (.tmp t)
    simp only [resultOf] at h
    simp only [St.ov, Act.eval] at hd
    split at h
    · rename_i x hx
      simp only [Option.some.injEq, Prod.mk.injEq, true_and] at h
      subst h
      rw [hx] at hd
      exact ⟨_, by simp, hd⟩
    · rename_i x hx
      simp only [Option.some.injEq, Prod.mk.injEq, true_and] at h
      subst h
      rw [hx] at hd
      exact ⟨_, by simp, hd⟩
    · cases h
  | cell b t =>
    simp only [resultOf] at h
    have go : ∀ x : AV, evM E.P s (.load t (.tmp b)) = some (true, x) → ∃ u, (do loadVar t (← asAddr (a.tmps.getD b undef)) : Sem Value).run E.P w = .ok u w ∧ Den w (Mut F ρ s.σ) ρ x u := by
      intro x hx
      obtain ⟨u, h1, h2⟩ := evM_sound H (o := { (default : Oper) with op := .load t (.tmp b) }) hx (f := a.eval) (fun x _ => ops_den S x)
      refine ⟨u, ?_, h2⟩
      have e : a.eval (.tmp b) = a.tmps.getD b undef := rfl
      simp only [execOp, Instr.loadAt, e] at h1
      generalize a.tmps.getD b undef = y at h1 ⊢
      cases y with
      | pointer p =>
        cases p with
        | none => simp [Instr.sureAddr, Sem.run_bind] at h1
        | some ad =>
          simp only [Instr.sureAddr, asAddr, Sem.run_bind, Sem.run_pure, Result.andThen_ok] at h1 ⊢
          cases hl : (loadVar t ad).run E.P w with
          | ok v w1 => rw [hl] at h1; simp at h1; obtain ⟨rfl, rfl⟩ := h1; rfl
          | halt x w1 => rw [hl] at h1; simp at h1
      | _ => simp [Instr.sureAddr, Sem.run_bind] at h1
    split at h
    · rename_i c x hx
      simp only [Option.some.injEq, Prod.mk.injEq] at h
      obtain ⟨rfl, rfl⟩ := h
      exact go _ hx
    · rename_i c x hx
      simp only [Option.some.injEq, Prod.mk.injEq] at h
      obtain ⟨rfl, rfl⟩ := h
      exact go _ hx
    · cases h

theorem resultsOf_sound (H : HeapOk F ρ s.σ w) (S : Slots (Mut F ρ s.σ) ρ s.t a w) : ∀ {rs : List ResultVar} {l : List TV}, resultsOf E.P s rs = some (true, l) →
    ∃ us : List Value, (rs.mapM fun r => (match r with
      | .tmp t => pure (a.tmps.getD t undef)
      | .cell b t => do loadVar t (← asAddr (a.tmps.getD b undef)) : Sem Value)).run E.P w = .ok us w ∧ All2 (DenT w (Mut F ρ s.σ) ρ) l us
  | [], l, h => by
    simp only [resultsOf, Option.some.injEq, Prod.mk.injEq, true_and] at h
    subst h
    exact ⟨[], by simp, trivial⟩
  | r :: rs, l, h => by
    simp only [resultsOf] at h
    split at h
    · rename_i c v d vs h1 h2
      simp only [Option.some.injEq, Prod.mk.injEq, Bool.and_eq_true] at h
      obtain ⟨⟨rfl, rfl⟩, rfl⟩ := h
      obtain ⟨u, h3, h4⟩ := resultOf_sound H S h1
      obtain ⟨us, h5, h6⟩ := resultsOf_sound H S h2
      refine ⟨u :: us, ?_, h4, h6⟩
      rw [List.mapM_cons]
      simp only [Sem.run_bind, h3, h5, Result.andThen_ok, Sem.run_pure]
    · cases h

theorem All2_replicate {R : AV → Value → Prop} {v : AV} {u : Value} (h : R v u) : ∀ n, All2 R (List.replicate n v) (List.replicate n u)
  | 0 => trivial
  | n + 1 => ⟨h, All2_replicate h n⟩

/-- A function keeps its contract. -/
theorem fnOK (hS : ∀ f S, E.specs f = some S → SpecOK E.P f S) {f : FuncId} {fn : Func} {c : Code} {S : Spec} (hf : E.P.funcs[f]? = some fn) (hb : fn.body = some c) (hname : (fn.name == "runtime.NumGoroutine") = false)
    (hL : ∀ b ∈ loopsOf c, LoopHyp E b) (h : ∀ args σ K, S args σ K → evFn E fn args σ K) : SpecOK E.P f S := by
  refine ⟨⟨fn, c, hf, hb, hname⟩, fun args σ K hK F ρ vals w H hF hA => ?_⟩
  have hev := h args σ K hK
  unfold evFn at hev
  split at hev
  case isFalse => exact hev.elim
  rename_i hm
  rw [hb] at hev
  dsimp only at hev
  refine calls_of_wp hf hb ?_
  have hlen := hA.length
  refine evCode_sound (F := F) (w0 := w) (m0 := LMut ρ σ) (ρ0 := ρ) hS (by rw [H.len, hm]) c hL _ _ _ w _ hev ⟨ρ, {
    heap := H
    pre := ⟨[], by simp⟩
    os := rfl
    tape := rfl
    output := rfl
    size := Nat.le_refl _
    blk := fun _ _ _ => rfl
    shape := fun _ _ => rfl
    fresh := fun _ h => .inr h
    foreign := hF }, ⟨by simp [hlen], fun i v hv => ?_⟩, rfl⟩ fun e s' a' w' hk R => ?_
  · have hA' : All2 (Den w (Mut F ρ σ) ρ) (args ++ List.replicate (fn.ntmps - args.length) .any) (vals ++ List.replicate (fn.ntmps - vals.length) undef) := by
      rw [hlen]
      exact hA.append (All2_replicate trivial _)
    obtain ⟨u, h1, h2⟩ := hA'.get hv
    refine ⟨u, ?_, h2⟩
    simp only [List.size_toArray]
    rw [← h1]
    simp [← Array.getElem?_toList]
  · have fin : evRet E.P fn.results.toList E.m s' K → a'.defers = [] ∧ ∃ v, (results fn a'.tmps).run E.P w' = .ok v w' ∧ ∃ u a σ' ρ', (Ending.returned v) = .returned u ∧ K a σ' ∧ Inv F w (LMut ρ σ) ρ ρ' σ' w' ∧ Keep (Mut F ρ σ) (Mut F ρ' σ') w w' ∧ Den w' (Mut F ρ' σ') ρ' a u := by
      intro hr
      obtain ⟨ρ', I, S', hd⟩ := R
      refine ⟨hd, ?_⟩
      unfold evRet at hr
      split at hr
      case h_2 => exact hr.elim
      rename_i c' l hl
      obtain ⟨rfl, hK'⟩ := cond_pos hr
      obtain ⟨us, h1, h2⟩ := resultsOf_sound I.heap S' hl
      have hrun : (results fn a'.tmps).run E.P w' = .ok (if h : us.toArray.size = 1 then us.toArray[0] else .tuple us.toArray) w' := by
        unfold results
        rw [Array.mapM_eq_mapM_toList]
        simp only [Sem.run_bind, Sem.run_map]
        refine (congrArg (fun r : Result (List Value) => (r.andThen fun a w' => Result.ok a.toArray w').andThen fun a w' => Sem.run E.P (pure (if h : a.size = 1 then a[0] else Value.tuple a)) w') h1).trans ?_
        simp only [Result.andThen_ok, Sem.run_pure]
      obtain ⟨ρ2, I2, hf2, hmm⟩ := I.sel (idsA (packRes l))
      have hmE : ρ.length = E.m := by rw [H.len, hm]
      rw [hmE] at I2 hf2 hmm
      have hden : Den w' (Mut F ρ' s'.σ) ρ' (packRes l) (if h : us.toArray.size = 1 then us.toArray[0] else .tuple us.toArray) := by
        match l, us, h2 with
        | [], [], _ => exact ⟨[], rfl, trivial⟩
        | [v], [u], h2 =>
          simp only [packRes]
          cases v with
          | one s => exact h2.1
          | agg l => exact h2.1
        | v :: v' :: l, u :: u' :: us, h2 =>
          simp only [packRes]
          exact ⟨_, by simp, h2⟩
      refine ⟨_, hrun, _, _, _, ρ2, rfl, hK', I2, ⟨I2.size, fun b hb hm => I2.blk b hb fun hl => hm (.inr hl), ?_, I2.shape⟩, Den_re hf2 (.inr hmm) hden⟩
      rintro b hb (h | h)
      · exact .inl h
      · rcases I2.fresh b h with h | h
        · omega
        · exact .inr h
    cases e with
    | normal => exact fin hk
    | ret => exact fin hk
    | exit id => exact hk.elim

end
end Go.Ev
