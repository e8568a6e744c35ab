/-
  Part of the proof of a law.
-/
import Derived.Test.YtophekjofpahfaaEvPure2
set_option linter.unusedVariables false
set_option linter.unusedSimpArgs false
set_option linter.unusedSectionVars false
/-
  Soundness of 'evM': every operation that only computes.
-/
namespace Go.Ev
open Go Go.RowKit
variable [Glob]
theorem All2_map {α γ δ : Type} {R : γ → δ → Prop} {f : α → γ} {g : α → δ} : ∀ {l : List α}, (∀ a ∈ l, R (f a) (g a)) → All2 R (l.map f) (l.map g)
  | [], _ => trivial
  | a :: l, h => ⟨h a (by simp), All2_map fun b hb => h b (by simp [hb])⟩
theorem capIds_sound {w : World} {m : Nat → Prop} {ρ : List (Nat × Nat)} : ∀ {l : List AV} {ids : List Nat} {vs : List Value}, capIds l = some ids → All2 (Den w m ρ) l vs →
    ∃ gs : List (Nat × Nat), ids.map (ρ[·]?) = gs.map some ∧ vs = gs.map fun g => Value.pointer (some ⟨g.1, 0, none⟩) := by
  intro l
  induction l with
  | nil =>
    intro ids vs h hl
    simp only [capIds, Option.some.injEq] at h
    subst h
    cases vs with
    | nil => exact ⟨[], rfl, rfl⟩
    | cons a l => exact hl.elim
  | cons a l ih =>
    intro ids vs h hl
    cases vs with
    | nil => exact hl.elim
    | cons u vs =>
      obtain ⟨hd, hl⟩ := hl
      unfold capIds at h
      split at h
      · rename_i he; cases he
      · rename_i id l' he
        cases he
        cases hc : capIds l with
        | none => rw [hc] at h; simp at h
        | some k =>
          rw [hc] at h
          simp only [Option.map_some, Option.some.injEq] at h
          subst h
          obtain ⟨gs, h1, h2⟩ := ih hc hl
          obtain ⟨g, y, hg, rfl⟩ := hd
          exact ⟨(g, y) :: gs, by simp [hg, h1], by simp [h2]⟩
      · cases h
section
variable {F : Nat → Prop} {P : Program} {w : World} {ρ : List (Nat × Nat)}
theorem evM_sound {s : St} (H : HeapOk F ρ s.σ w) {o : Oper} {v : AV} (h : evM P s o.op = some (true, v)) {f : Operand → Value}
    (hops : ∀ x ∈ o.op.operands, Den w (Mut F ρ s.σ) ρ (s.ov x) (f x)) : ∃ u, (execOp f o).run P w = .ok (.value u) w ∧ Den w (Mut F ρ s.σ) ρ v u := by
  have lift : ∀ {S : Sem Value} {v : AV}, (∃ u, S.run P w = .ok u w ∧ Den w (Mut F ρ s.σ) ρ v u) →
      ∃ u, (do pure (.value (← S)) : Sem Next).run P w = .ok (.value u) w ∧ Den w (Mut F ρ s.σ) ρ v u := by
    rintro S v ⟨u, h1, h2⟩
    exact ⟨u, by simp [h1], h2⟩
  unfold execOp
  obtain ⟨dst, op, ty, pos, after, guard⟩ := o
  simp only at h hops ⊢
  unfold evM at h
  split at h
  · rename_i x; simp at h; subst h; exact ⟨_, rfl, hops x (by simp [Op.operands])⟩
  · rename_i x; simp at h; subst h; exact ⟨_, rfl, hops x (by simp [Op.operands])⟩
  · rename_i c a b
    have hc := hops c (by simp [Op.operands])
    have ha := hops a (by simp [Op.operands])
    have hb := hops b (by simp [Op.operands])
    split at h
    · rename_i x hx
      rw [hx] at hc
      cases x
      · simp at h
        subst h
        have : f c = .bool false := hc
        exact ⟨_, by simp [this, asBool], hb⟩
      · simp at h
        subst h
        have : f c = .bool true := hc
        exact ⟨_, by simp [this, asBool], ha⟩
    · cases h
  · rename_i t a
    have ha := hops a (by simp [Op.operands])
    split at h
    · rename_i p n hp hn
      rw [hp] at ha
      split at h
      · rename_i hagg
        cases hl : loadSVs s.σ p n with
        | none => rw [hl] at h; simp at h
        | some cl =>
          obtain ⟨c, l⟩ := cl
          rw [hl] at h
          simp at h
          obtain ⟨rfl, rfl⟩ := h
          obtain ⟨ad, hu, vs, hvl, hvs, hd⟩ := loadSVs_sound H hl ha
          refine lift ⟨.agg vs.toArray, ?_, vs, rfl, hd⟩
          have := run_loadCells_list (P := P) (w := w) ad vs (fun j v hj => hvs j v hj)
          rw [hvl] at this
          simp [hu, Instr.loadAt, Instr.sureAddr, loadVar, run_isAgg hagg, run_sizeOf' hn, this]
      · rename_i hagg
        split at h
        · rename_i c v' hl
          simp at h
          obtain ⟨rfl, rfl⟩ := h
          obtain ⟨ad, hu, vs, hvl, hvs, hd⟩ := loadSVs_sound H hl ha
          match vs, hvl, hvs, hd with
          | [u], _, hvs, hd =>
            refine lift ⟨u, ?_, hd.1⟩
            have hc := hvs 0 u rfl
            rw [Addr.add_zero'] at hc
            simp [hu, Instr.loadAt, Instr.sureAddr, loadVar, run_isAgg hagg, run_load, hc]
        · cases h
      · cases h
    · cases h
  · rename_i x
    have hx := hops x (by simp [Op.operands])
    split at h
    · rename_i id wd i c he
      rw [he] at hx
      simp at h; subst h
      obtain ⟨g, y, hg, hu⟩ := hx
      exact ⟨f x, by simp [hu], g, y, hg, hu⟩
    · rename_i r i c he
      rw [he] at hx
      simp at h; subst h
      obtain ⟨ad, hu, hr⟩ := hx
      exact ⟨f x, by simp [hu], ad, hu, hr⟩
    · rename_i g c he
      rw [he] at hx
      simp at h; subst h
      have hx : f x = .pointer (some ⟨g, c, none⟩) := hx
      exact ⟨f x, by simp [hx], hx⟩
    · rename_i g cap he
      rw [he] at hx
      simp at h; subst h
      obtain ⟨gs, h1, hu⟩ := hx
      exact ⟨f x, by simp [hu], gs, h1, hu⟩
    · cases h
  · rename_i op xt x y yt
    exact lift (evBin_sound h (hops x (by simp [Op.operands])) (hops y (by simp [Op.operands])))
  · rename_i op xt x
    exact lift (evUn_sound h (hops x (by simp [Op.operands])))
  · rename_i src dst x
    exact lift (evConvert_sound h (hops x (by simp [Op.operands])))
  · rename_i fn first cap
    split at h
    · rename_i g
      split at h
      · rename_i hf
        have hf0 : first = #[] := by
          rw [List.isEmpty_iff] at hf
          exact Array.toList_inj.1 (by simpa using hf)
        subst hf0
        cases hc : capIds (cap.toList.map s.ov) with
        | none => rw [hc] at h; simp at h
        | some ids =>
          rw [hc] at h
          simp at h
          subst h
          obtain ⟨gs, h1, h2⟩ := capIds_sound hc (All2_map (g := f) fun a ha => hops a (by simp [Op.operands]; simpa using ha))
          refine lift ⟨.func (.func g) #[] (cap.map f), ?_, gs, h1, ?_⟩
          · simp [Instr.makeFunc]
          · congr 1
            rw [← h2]
            exact (Array.toList_inj.1 (by simp))
      · cases h
    · cases h
  · rename_i t x lo hi mx
    have hlo : ∀ a, lo.map s.ov = some a → ∃ u, lo.map f = some u ∧ Den w (Mut F ρ s.σ) ρ a u := by
      intro a ha
      cases lo with
      | none => simp at ha
      | some y => simp at ha; subst ha; exact ⟨f y, rfl, hops y (by simp [Op.operands])⟩
    cases mx with
    | none =>
      refine lift (evSlice_sound H h (hops x (by simp [Op.operands])) hlo (by intro e; simpa using e) ?_ (by intro e; simpa using e) (by intro _; rfl))
      intro a ha
      cases hi with
      | none => simp at ha
      | some y => simp at ha; subst ha; exact ⟨f y, rfl, hops y (by simp [Op.operands])⟩
    | some y =>
      cases hi with
      | none => cases h
      | some z => exact lift (evSlice3_sound h (hops x (by simp [Op.operands])) hlo (by intro e; simpa using e) (hops z (by simp [Op.operands])) (hops y (by simp [Op.operands])))
  · rename_i t x i
    exact lift (evFieldAddr_sound h (hops x (by simp [Op.operands])))
  · rename_i t x i
    exact lift (evField_sound h (hops x (by simp [Op.operands])))
  · rename_i t x i
    exact lift (evIndexAddr_sound H h (hops x (by simp [Op.operands])) (hops i (by simp [Op.operands])))
  · rename_i t x i
    exact lift (evIndex_sound h (hops x (by simp [Op.operands])) (hops i (by simp [Op.operands])))
  · rename_i x i
    have hx := hops x (by simp [Op.operands])
    split at h
    · rename_i l he
      rw [he] at hx
      obtain ⟨vs, hu, hl⟩ := hx
      cases hg : l[i]? with
      | none => rw [hg] at h; simp at h
      | some tv =>
        rw [hg] at h
        simp at h
        subst h
        obtain ⟨u, h1, h2⟩ := hl.get hg
        refine lift ⟨u, by simp [hu, Instr.extract, h1], ?_⟩
        cases tv <;> exact h2
    · cases h
  · rename_i t parts
    have hp : All2 (fun (p : Nat × AV) (q : Nat × Value) => p.1 = q.1 ∧ Den w (Mut F ρ s.σ) ρ p.2 q.2) (parts.toList.map fun (i, x) => (i, s.ov x)) (parts.toList.map fun (i, x) => (i, f x)) :=
      All2_map fun a ha => ⟨rfl, hops a.2 (by simp [Op.operands]; exact ⟨a.1, by simpa using ha⟩)⟩
    obtain ⟨u, h1, h2⟩ := evBuild_sound (w := w) h hp
    refine lift ⟨u, ?_, h2⟩
    rw [← h1]
    congr 2
    exact Array.toList_inj.1 (by simp)
  · rename_i args ts
    split at h
    · rename_i x t l ha ht
      have hx := hops x (by simp [Op.operands, Call.operands]; simpa using (show x ∈ args.toList by rw [ha]; simp))
      obtain ⟨u, h1, h2⟩ := evLen_sound (w := w) (P := P) (ty := ty) (ts := l) H h hx
      refine ⟨u, ?_, h2⟩
      have e1 : args = #[x] := Array.toList_inj.1 (by simpa using ha)
      have e2 : ts = (t :: l).toArray := Array.toList_inj.1 (by simpa using ht)
      subst e1; subst e2
      simp [resolve, invoke, builtin, h1]
    · cases h
  · rename_i args ts
    split at h
    · rename_i k x l ha
      cases hm : maxInt k x l with
      | none => rw [hm] at h; simp at h
      | some n =>
        rw [hm] at h
        simp at h
        subst h
        have hall : All2 (Den w (Mut F ρ s.σ) ρ) (args.toList.map s.ov) (args.toList.map f) := All2_map fun a ha => hops a (by simp [Op.operands, Call.operands]; simpa using ha)
        rw [ha] at hall
        cases hv : args.toList.map f with
        | nil => rw [hv] at hall; exact hall.elim
        | cons u vs =>
          rw [hv] at hall
          obtain ⟨hd, hl⟩ := hall
          cases hd
          refine ⟨.int k n, ?_, rfl⟩
          have := maxInt_sound (P := P) hm hl
          simp [resolve, invoke, builtin, Builtin.max_, hv, this]
    · rename_i k x l ha
      cases hm : maxFlt k x l with
      | none => rw [hm] at h; simp at h
      | some p =>
        obtain ⟨c, n⟩ := p
        rw [hm] at h
        simp only [Option.map_some, Option.some.injEq, Prod.mk.injEq] at h
        obtain ⟨rfl, rfl⟩ := h
        have hall : All2 (Den w (Mut F ρ s.σ) ρ) (args.toList.map s.ov) (args.toList.map f) := All2_map fun a ha => hops a (by simp [Op.operands, Call.operands]; simpa using ha)
        rw [ha] at hall
        cases hv : args.toList.map f with
        | nil => rw [hv] at hall; exact hall.elim
        | cons u vs =>
          rw [hv] at hall
          obtain ⟨hd, hl⟩ := hall
          cases hd
          refine ⟨.float k n, ?_, rfl⟩
          have := maxFlt_sound (P := P) hm hl
          simp [resolve, invoke, builtin, Builtin.max_, hv, this]
    · cases h
  · rename_i args ts
    split at h
    · rename_i k x l ha
      cases hm : minInt k x l with
      | none => rw [hm] at h; simp at h
      | some n =>
        rw [hm] at h
        simp at h
        subst h
        have hall : All2 (Den w (Mut F ρ s.σ) ρ) (args.toList.map s.ov) (args.toList.map f) := All2_map fun a ha => hops a (by simp [Op.operands, Call.operands]; simpa using ha)
        rw [ha] at hall
        cases hv : args.toList.map f with
        | nil => rw [hv] at hall; exact hall.elim
        | cons u vs =>
          rw [hv] at hall
          obtain ⟨hd, hl⟩ := hall
          cases hd
          refine ⟨.int k n, ?_, rfl⟩
          have := minInt_sound (P := P) hm hl
          simp [resolve, invoke, builtin, Builtin.min_, hv, this]
    · cases h
  · cases h
end
end Go.Ev
