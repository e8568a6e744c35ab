/-
  Part of the proof that TopTransferMended holds.
-/
import Derived.Test.YtmailpnpjcpodaaGreatDoorT10
set_option linter.unusedVariables false
set_option linter.unusedSimpArgs false
set_option linter.unusedSectionVars false
namespace Go.Ev
open Go Go.RowKit
variable [Glob]
section
variable {P:Program} {σ e:List Blk}
theorem getE{id:Nat}{b:Blk}(h:σ[id]? = some b):(σ++e)[id]? = some b:=by
 rw[List.getElem?_append_left (List.getElem?_eq_some_iff.1 h).1];exact h
theorem svLen_mono{s:SV}{n:Nat}(h:svLen σ s=some n):svLen (σ++e) s=some n:=by
 cases s<;>simp only[svLen] at h ⊢<;>try exact h
 case own id w=>
  cases hb:σ[id]? with
  |none=>rw[hb] at h;cases h
  |some b=>rw[hb] at h;rw[getE hb];exact h
theorem loadSVs_mono{p:SV}{n:Nat}{r:Bool × List SV}(h:loadSVs σ p n=some r):loadSVs (σ++e) p n=some r:=by
 cases p<;>simp only[loadSVs] at h ⊢<;>try exact h
 case ptr id w i c=>
  cases hb:σ[id]? with
  |none=>rw[hb] at h;cases h
  |some b=>rw[hb] at h;rw[getE hb];exact h
theorem cutSV_mono{x:SV}{l h':Nat}{r:Bool × SV}(h:cutSV σ x l h'=some r):cutSV (σ++e) x l h'=some r:=by
 cases x<;>simp only[cutSV] at h ⊢<;>try exact h
 case own id w=>
  cases hb:svLen σ (.own id w) with
  |none=>rw[hb] at h;cases h
  |some b=>rw[hb] at h;rw[svLen_mono hb];exact h
theorem evLen_mono{t:TypeId}{x:AV}{r:Bool × AV}(h:evLen P σ t x=some r):evLen P (σ++e) t x=some r:=by
 unfold evLen at h ⊢
 split at h
 ·exact h
 ·cases h
 ·rename_i s hs hn
  cases hb:svLen σ s with
  |none=>rw[hb] at h;cases h
  |some n=>rw[hb] at h;rw[svLen_mono hb];exact h
 ·exact h
 ·split at h
  ·rename_i hb
   rw[getElem?_append_some hb]
   exact h
  ·cases h
 ·cases h
theorem evIndexAddr_mono{t:TypeId}{x ix:AV}{r:Bool × AV}(h:evIndexAddr P σ t x ix=some r):evIndexAddr P (σ++e) t x ix=some r:=by
 unfold evIndexAddr at h ⊢
 split at h
 ·exact h
 ·exact h
 ·exact h
 ·rename_i j e' s _
  cases hb:svLen σ s with
  |none=>rw[hb] at h;cases h
  |some n=>rw[hb] at h;rw[svLen_mono hb];exact h
 ·cases h
theorem evSlice_mono{t:TypeId}{x:AV}{lo hi mx:Option AV}{r:Bool × AV}(h:evSlice P σ t x lo hi mx=some r):evSlice P (σ++e) t x lo hi mx=some r:=by
 unfold evSlice at h ⊢
 split at h
 ·rename_i e' s hu
  cases hb:svLen σ s with
  |none=>rw[hb] at h;cases h
  |some n=>
   rw[hb] at h
   rw[svLen_mono hb]
   dsimp only at h ⊢
   split at h
   ·split at h
    ·rename_i c1 l c2 h2 sz _ _ _ hw
     rw[if_pos hw]
     cases hc:cutSV σ s l h2 with
     |none=>rw[hc] at h;cases h
     |some q=>
      rw[hc] at h
      rw[cutSV_mono hc]
      exact h
    ·cases h
   ·cases h
 ·exact h
 ·rename_i n e' id wd i c hu
  split at h
  case isFalse=>cases h
  rename_i hn
  rw[if_pos hn]
  cases hb:σ[id]? with
  |none=>
   rw[hb] at h
   split at h<;>first|cases h|(rename_i hh;cases hh)|(rename_i hh _;cases hh)
  |some b=>
   rw[hb] at h
   rw[getE hb]
   exact h
 ·exact h
 ·exact h
 ·cases h
end
theorem evM_mono{P:Program}{s s':St}{o:Op}{r:Bool × AV}(h:evM P s o=some r)(he: ∃e,s'.σ=s.σ++e)(hx: ∀x ∈ o.operands,s'.ov x=s.ov x):evM P s' o=some r:=by
 obtain⟨e,he⟩:=he
 cases o with
 |move x=>simp only[evM] at h ⊢;rw[hx x (by simp[Op.operands])];exact h
 |assign x=>simp only[evM] at h ⊢;rw[hx x (by simp[Op.operands])];exact h
 |pick c a b=>simp only[evM] at h ⊢;rw[hx c (by simp[Op.operands]),hx a (by simp[Op.operands]),hx b (by simp[Op.operands])];exact h
 |load t a=>
  simp only[evM] at h ⊢
  rw[hx a (by simp[Op.operands]),he]
  split at h
  ·rename_i p n hp hn
   split at h
   ·cases hl:loadSVs s.σ p n with
    |none=>rw[hl] at h;cases h
    |some q=>rw[hl] at h;rw[loadSVs_mono hl];exact h
   ·cases hl:loadSVs s.σ p 1 with
    |none=>rw[hl] at h;cases h
    |some q=>rw[hl] at h;rw[loadSVs_mono hl];exact h
   ·cases h
  ·cases h
 |nilCheck x=>simp only[evM] at h ⊢;rw[hx x (by simp[Op.operands])];exact h
 |binOp op xt x y _=>simp only[evM] at h ⊢;rw[hx x (by simp[Op.operands]),hx y (by simp[Op.operands])];exact h
 |unOp op _ x=>simp only[evM] at h ⊢;rw[hx x (by simp[Op.operands])];exact h
 |convert src dst x=>simp only[evM] at h ⊢;rw[hx x (by simp[Op.operands])];exact h
 |makeFunc fn first cap=>
  simp only[evM] at h ⊢
  rw[show cap.toList.map s'.ov=cap.toList.map s.ov from List.map_congr_left fun x hm=>hx x (by simp[Op.operands];first|exact .inr (.inr (by simpa using hm))|exact .inr (by simpa using hm)|simpa using hm)]
  exact h
 |slice t x lo hi mx=>
  cases mx with
  |none=>
   simp only[evM] at h ⊢
   rw[hx x (by simp[Op.operands]),he]
   rw[show lo.map s'.ov=lo.map s.ov from by cases lo with|none=>rfl|some y=>simp[hx y (by simp[Op.operands])],show hi.map s'.ov=hi.map s.ov from by cases hi with|none=>rfl|some y=>simp[hx y (by simp[Op.operands])]]
   exact evSlice_mono h
  |some y=>
   cases hi with
   |none=>cases h
   |some z=>
    simp only[evM] at h ⊢
    rw[hx x (by simp[Op.operands]),hx y (by simp[Op.operands]),hx z (by simp[Op.operands])]
    rw[show lo.map s'.ov=lo.map s.ov from by cases lo with|none=>rfl|some y=>simp[hx y (by simp[Op.operands])]]
    exact h
 |fieldAddr t x f=>simp only[evM] at h ⊢;rw[hx x (by simp[Op.operands])];exact h
 |field t x f=>simp only[evM] at h ⊢;rw[hx x (by simp[Op.operands])];exact h
 |indexAddr t x ix=>simp only[evM] at h ⊢;rw[hx x (by simp[Op.operands]),hx ix (by simp[Op.operands]),he];exact evIndexAddr_mono h
 |index t x ix=>simp only[evM] at h ⊢;rw[hx x (by simp[Op.operands]),hx ix (by simp[Op.operands])];exact h
 |extract x i=>simp only[evM] at h ⊢;rw[hx x (by simp[Op.operands])];exact h
 |build t parts=>
  simp only[evM] at h ⊢
  have e1:(parts.toList.map fun p=>(p.1,s'.ov p.2))=parts.toList.map fun p=>(p.1,s.ov p.2):=List.map_congr_left fun p hm=>by
   rw[hx p.2 (by simp[Op.operands];exact⟨p.1,by simpa using hm⟩)]
  rw[e1]
  exact h
 |call c=>
  obtain⟨callee,args,ts⟩:=c
  have hargs:args.toList.map s'.ov=args.toList.map s.ov:=List.map_congr_left fun x hm=>hx x (by simp[Op.operands,Call.operands];first|exact .inr (by simpa using hm)|simpa using hm)
  cases callee with
  |value f=>simp[evM] at h
  |invoke r m=>simp[evM] at h
  |builtin b=>
   cases b<;>first
    |(simp only[evM] at h;cases h;done)
    |(simp only[evM] at h ⊢;rw[hargs];exact h;done)
    |skip
   simp only[evM] at h ⊢
   split at h
   ·rename_i x t _ ha ht
    rw[ha] at hargs
    simp only[List.map_cons,List.map_nil,List.cons.injEq,and_true] at hargs
    rw[hargs,he]
    exact evLen_mono h
   ·cases h
 |_=>simp only[evM] at h;cases h
end Go.Ev
