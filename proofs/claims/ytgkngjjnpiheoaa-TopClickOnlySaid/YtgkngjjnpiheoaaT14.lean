/-
  Part of the proof that TopClickOnly holds.
-/
import Derived.Test.YtgkngjjnpiheoaaT13
import Derived.RangeFuncLeaves
set_option linter.unusedVariables false
set_option linter.unusedSimpArgs false
set_option linter.unusedSectionVars false
namespace Go.Ev
open Go Go.RowKit
variable [Glob]
def LoopOK(E:Env)(b:Code)(ins outs:List Nat)(G:LSpec):Prop:= ∀(vs:List AV) (σ:List Blk) (k:Ex→List AV→List Blk→Prop),G vs σ k→ ∀(X:XS) (F:Nat→Prop) (w0:World) (m0:Nat→Prop) (ρ0:List (Nat × Nat)) (r:Option Nat) (a:Act) (w:World) (Q:Exit→Act→World→Prop),(∀d ∈ dsts b,X.fz d=none)→(r=none∨noRange b=true)→ρ0.length=E.m→Rel X F w0 m0 ρ0 (spread E.n ins vs σ) a w→ (∀(F':Nat→Prop),(∀b,F b→F' b)→ ∀e vs' σ' a' w',k e vs' σ'→Rel X F' w0 m0 ρ0 (spread E.n outs vs' σ') a' w'→Q (toExit e) a' w')→(Code.loop b).wpIn (wideR r) 0 E.P Q a w
def RangeHyp(E:Env):Code→Prop
 |.rangeFunc g ps assign body=> ∀f Sq ins G,E.loops (keyOf (.rangeFunc g ps assign body))=some (.range f Sq ins G)→RangeOK E f Sq ps.toList assign body ins G
 |_=>True
def FrmHyp(E:Env)(b:Code):Prop:= ∀m ins outs G,E.loops (keyOf b)=some (.frm m ins outs G)→LoopOK { E with m:=m } b ins outs G
def LoopHyp(E:Env)(b:Code):Prop:=(∀ins outs G,E.loops (keyOf b)=some (.spec ins outs G)→LoopOK E b ins outs G)∧RangeHyp E b∧FrmHyp E b
section
variable {F:Nat→Prop} {E:Env} {w0 w:World} {m0:Nat→Prop} {ρ0 ρ:List (Nat × Nat)} {σ:List Blk} {s:St} {a:Act}
theorem ov_bool{m:Nat→Prop}(S:Slots m ρ s.t a w){c:Operand}{x:Bool}(h:s.ov c= .one (.bool x)):a.eval c= .bool x:=by
 have:=ops_den S c
 rw[h] at this
 exact this
theorem dsts_region{id:Nat}{ops:Array Oper}{draw:Bool}{X:XS}(h: ∀d ∈ dsts (.region id ops draw),X.fz d=none): ∀o ∈ ops.toList,Off X o:=fun o ho d hd=>
 h d (by simp only[dsts,List.mem_filterMap];exact⟨o,ho,hd⟩)
set_option maxHeartbeats 1000000 in
theorem frm_sound{x:Code}{m:Nat}{ins outs:List Nat}{G:LSpec}{X:XS}{r:Option Nat}{k:Ex→St→Prop}{Q:Exit→Act→World→Prop}(hL:LoopOK { E with m:=m } x ins outs G)(hn:s.t.length=E.n)(hLm:(frmL ins s).length=m)
  (h:G (frmV ins s) (selB s.σ (frmL ins s)) fun e vs σ=>k e (frmS E.n (dsts x) outs (frmL ins s) s vs σ)) (hX: ∀d ∈ dsts x,X.fz d=none) (hr:r=none∨noRange x=true) (R:Rel X F w0 m0 ρ0 s a w)
  (hQ: ∀(F':Nat→Prop),(∀b,F b→F' b)→ ∀e s' a' w',k e s'→Rel X F' w0 m0 ρ0 s' a' w'→Q (toExit e) a' w'):(Code.loop x).wpIn (wideR r) 0 E.P Q a w:=by
 obtain⟨ρ,I,S,hside⟩:=R
 unfold frmV at h
 have hLok:(frmL ins s).Nodup∧ ∀i ∈ frmL ins s,i<s.σ.length:=reach_ok 64 _ [] (by simp) (by simp)
 generalize frmL ins s=L at *
 obtain⟨hnd,hLlt⟩:=hLok
 have hlen:=I.heap.len
 generalize hρL:(L.map fun i=>ρ.getD i (0,0))=ρL at *
 have hρLget: ∀(j i:Nat) (g:Nat × Nat),L[j]? = some i→(ρ[i]? = some g↔ρL[j]? = some g):=by
  intro j i g hj
  have hi:=hLlt i (List.mem_of_getElem? hj)
  rw[← hρL,List.getElem?_map,hj]
  simp only[Option.map_some,Option.some.injEq]
  rw[List.getElem?_eq_getElem (by omega)]
  simp[List.getD,List.getElem?_eq_getElem (show i<ρ.length by omega)]
 have hf: ∀i j,pos L i=some j→ ∀g,ρ[i]? = some g→ρL[j]? = some g:=fun i j hp g hg=>(hρLget j i g (pos_get hp)).1 hg
 have hσL: ∀(j:Nat) (b:Blk),(selB s.σ L)[j]? = some b→ ∃i b',L[j]? = some i∧s.σ[i]? = some b'∧b=mapIdsB (pos L) b':=by
  intro j b hb
  unfold selB at hb
  rw[List.getElem?_map] at hb
  cases hj:L[j]? with
  |none=>rw[hj] at hb;simp at hb
  |some i=>
   rw[hj] at hb
   simp at hb
   have hi:=hLlt i (List.mem_of_getElem? hj)
   refine⟨i,s.σ[i],rfl,List.getElem?_eq_getElem hi,?_⟩
   rw[← hb]
   simp[List.getElem?_eq_getElem hi]
 have lm': ∀b,LMut ρL (selB s.σ L) b→ ∃i b' n g,i ∈ L∧s.σ[i]? = some b'∧b'.live=true∧ρ[i]? = some (g,n)∧b'.owns g b:=by
  rintro b ⟨j,b1,n,g,h1,h2,h3,h6⟩
  obtain⟨i,b',h4,h5,rfl⟩:=hσL j b1 h1
  exact⟨i,b',n,g,List.mem_of_getElem? h4,h5,by rw[← (mapIdsB_count (f:=pos L) b').2];exact h2,(hρLget j i _ h4).2 h3,(mapIdsB_owns b').1 h6⟩
 have lm: ∀b,LMut ρL (selB s.σ L) b→LMut ρ s.σ b:=fun b hb=>by
  obtain⟨i,b',n,g,_,h1,h2,h3,h4⟩:=lm' b hb
  exact⟨i,b',n,g,h1,h2,h3,h4⟩
 let F0:Nat→Prop:=fun b=>Mut F ρ s.σ b∧b<w.heap.size∧¬LMut ρL (selB s.σ L) b
 have hm: ∀b,b<w.heap.size→Mut F0 ρL (selB s.σ L) b→Mut F ρ s.σ b:=by
  rintro b _ (h|h)
  ·exact h.1
  ·exact .inr (lm b h)
 have HL:HeapOk F0 ρL (selB s.σ L) w:=by
  refine⟨by simp[← hρL,selB],?_,?_,?_,I.heap.glob.keep (Keep.same hm)⟩
  ·intro j b g n hb hg hl
   obtain⟨i,b',h4,h5,rfl⟩:=hσL j b hb
   have hl':b'.live=true:=by rw[← (mapIdsB_count (f:=pos L) b').2];exact hl
   obtain⟨h6,h7,h8⟩:=I.heap.live i b' g n h5 ((hρLget j i _ h4).2 hg) hl'
   exact⟨DenBlk_re hf (.inr hm) h6,by rw[(mapIdsB_count b').1,h7],h8⟩
  ·intro j b g n k hb hg hl hk
   obtain⟨i,b',h4,h5,rfl⟩:=hσL j b hb
   have hl':b'.live=true:=by rw[← (mapIdsB_count (f:=pos L) b').2];exact hl
   exact I.heap.lt i b' g n k h5 ((hρLget j i _ h4).2 hg) hl' ((mapIdsB_owns b').1 hk)
  ·intro j j' b b' g g' n n' k hb hb' hl hl' hg hg' hk hk'
   obtain⟨i,c,h4,h5,rfl⟩:=hσL j b hb
   obtain⟨i',c',h4',h5',rfl⟩:=hσL j' b' hb'
   have e:=I.heap.inj' i i' c c' g g' n n' k h5 h5' (by rw[← (mapIdsB_count (f:=pos L) c).2];exact hl) (by rw[← (mapIdsB_count (f:=pos L) c').2];exact hl') ((hρLget j i _ h4).2 hg) ((hρLget j' i' _ h4').2 hg') ((mapIdsB_owns c).1 hk) ((mapIdsB_owns c').1 hk')
   subst e
   have hjl:=(List.getElem?_eq_some_iff.1 h4).1
   exact(List.getElem?_inj hjl hnd).1 (h4.trans h4'.symm)
 have hLl:ρL.length=L.length:=by simp[← hρL]
 have IL:Inv F0 w (LMut ρL (selB s.σ L)) ρL ρL (selB s.σ L) w:=
  { heap:=HL,pre:=⟨[],by simp⟩,os:=rfl,tape:=rfl,output:=rfl,size:=Nat.le_refl _,blk:=fun _ _ _=>rfl,shape:=fun _ _=>rfl,fresh:=fun _ h=> .inr h,foreign:=fun b hb=>hb.2.1,apart:=fun b hb h=>h.2.2 hb }
 have SL:Slots (Mut F0 ρL (selB s.σ L)) ρL (spread E.n ins ((liveV ins s).map (mapIdsA (pos L))) (selB s.σ L)).t a w:=by
  refine⟨by simp[spread,← S.len,hn],fun i v hv=> ?_⟩
  simp only[spread,List.getElem?_map] at hv
  rcases Nat.lt_or_ge i E.n with hi|hi
  ·rw[List.getElem?_range hi] at hv
   simp only[Option.map_some,Option.some.injEq] at hv
   obtain⟨u,h1,h2⟩:=S.get i _ (List.getElem?_eq_getElem (by omega))
   refine⟨u,h1,?_⟩
   split at hv
   ·rename_i j hj
    have hj':=pos_get hj
    have:((liveV ins s).map (mapIdsA (pos L)))[j]? = some (mapIdsA (pos L) (s.t[i]'(by omega))):=by
     unfold liveV
     rw[List.getElem?_map,List.getElem?_map,hj']
     simp[List.getElem?_eq_getElem (show i<s.t.length by omega)]
    rw[List.getD_eq_getElem?_getD,this] at hv
    simp only[Option.getD_some] at hv
    subst hv
    exact Den_re hf (.inr hm) h2
   ·subst hv
    trivial
  ·rw[List.getElem?_eq_none (by simpa using hi)] at hv
   cases hv
 obtain⟨⟨hs0,Ds0,hs1,hs2,hs3⟩,hs4⟩:=hside
 refine hL _ _ _ h { fz:=fun i=>if i ∈ dsts x then none else a.tmps[i]?,n0:=X.n0,n1:=w.heap.size,old:=F0,mks:=fun D=>F D∧(X.mks D∨X.n1≤D) } F0 w (LMut ρL (selB s.σ L)) ρL r a w Q (fun d hd=>if_pos hd) hr (by rw[hLl];exact hLm) ⟨ρL,IL,SL,⟨⟨⟨hs0.1,Nat.le_refl _,fun b hb=> .inl hb⟩,Ds0,hs1,hs2,fun D hD=>⟨⟨.inl (hs3 D hD).1,I.foreign D (hs3 D hD).1,fun hl=>I.apart D (lm D hl) (hs3 D hD).1⟩,⟨(hs3 D hD).2.1.1,.inl ⟨(hs3 D hD).1,(hs3 D hD).2.1.2⟩⟩,(hs3 D hD).2.2⟩⟩,fun i v hv=> ?_⟩⟩ ?_
 ·dsimp only at hv
  split at hv
  ·cases hv
  ·exact hv
 rintro F' hF' e vs' σ' a' w' hk ⟨ρ',I',S',⟨⟨hd0,Ds,hd1,hd2,hd3⟩,hd4⟩⟩
 have I':Inv F' w (LMut ρL (selB s.σ L)) ρL ρ' σ' w':=I'
 have S':Slots (Mut F' ρ' σ') ρ' (spread E.n outs vs' σ').t a' w':=S'
 obtain⟨r',hpre⟩:=I'.pre
 have hσ'l:σ'.length=L.length+r'.length:=by rw[← I'.heap.len,hpre,List.length_append,hLl]
 have hb: ∀j i,backId s.σ.length L j=some i→ ∀g,ρ'[j]? = some g→(ρ++r')[i]? = some g:=by
  intro j i hji g hg
  unfold backId at hji
  split at hji
  ·rename_i i' hj
   simp only[Option.some.injEq] at hji
   subst hji
   have hjl:=(List.getElem?_eq_some_iff.1 hj).1
   rw[hpre,List.getElem?_append_left (by omega)] at hg
   exact getElem?_append_some ((hρLget j i' g hj).2 hg)
  ·rename_i hj
   simp only[Option.some.injEq] at hji
   have hjl:L.length≤j:=by
    rcases Nat.lt_or_ge j L.length with h|h
    ·rw[List.getElem?_eq_getElem h] at hj;cases hj
    ·exact h
   rw[hpre,List.getElem?_append_right (by omega),hLl] at hg
   rw[List.getElem?_append_right (by omega),← hg]
   congr 1
   omega
 have hmg: ∀(i:Nat) (b:Blk) (g n:Nat),(merge s.σ L σ')[i]? = some b→b.live=true→(ρ++r')[i]? = some (g,n)→
   (i ∉ L∧s.σ[i]? = some b∧ρ[i]? = some (g,n))∨(∃j b',backId s.σ.length L j=some i∧σ'[j]? = some b'∧b=mapIdsB (backId s.σ.length L) b'∧b'.live=true∧ρ'[j]? = some (g,n)):=by
  intro i b g n h1 h2 h3
  rcases merge_get hnd (by omega) h1 with⟨h4,h5⟩|⟨j,b',h4,h5,h6⟩
  ·refine .inl ⟨h4,h5,?_⟩
   have:=(List.getElem?_eq_some_iff.1 h5).1
   rwa [List.getElem?_append_left (by omega)] at h3
  ·refine .inr ⟨j,b',h4,h5,h6,by rw[h6] at h2;rw[← (mapIdsB_count (f:=backId s.σ.length L) b').2];exact h2,?_⟩
   have hjl:j<ρ'.length:=by rw[I'.heap.len];exact(List.getElem?_eq_some_iff.1 h5).1
   have:=hb j i h4 _ (List.getElem?_eq_getElem hjl)
   rw[h3] at this
   simp only[Option.some.injEq] at this
   rw[List.getElem?_eq_getElem hjl,this]
 have hLM: ∀k,LMut (ρ++r') (merge s.σ L σ') k→(∃i b n g,i ∉ L∧s.σ[i]? = some b∧b.live=true∧ρ[i]? = some (g,n)∧b.owns g k)∨LMut ρ' σ' k:=by
  rintro k ⟨i,b,n,g,h1,h2,h3,ho⟩
  rcases hmg i b g n h1 h2 h3 with⟨h4,h5,h6⟩|⟨j,b',h4,h5,h6,h7,h8⟩
  ·exact .inl ⟨i,b,n,g,h4,h5,h2,h6,ho⟩
  ·subst h6
   exact .inr ⟨j,b',n,g,h5,h7,h8,(mapIdsB_owns b').1 ho⟩
 have hold: ∀(i:Nat) (b:Blk) (g n k:Nat),i ∉ L→s.σ[i]? = some b→b.live=true→ρ[i]? = some (g,n)→b.owns g k→k<w.heap.size∧¬LMut ρL (selB s.σ L) k:=by
  intro i b g n k h1 h2 h3 h4 ho
  refine⟨I.heap.lt i b g n k h2 h4 h3 ho,fun hl=> ?_⟩
  obtain⟨i',b',n',g',h5,h6,h7,h8,h9⟩:=lm' k hl
  exact h1 ((I.heap.inj' i i' b b' g g' n n' k h2 h6 h3 h7 h4 h8 ho h9) ▸ h5)
 let F2:Nat→Prop:=fun b=>F b∨(F' b∧w.heap.size≤b)
 have K:Keep (Mut F ρ s.σ) (Mut F2 (ρ++r') (merge s.σ L σ')) w w':=by
  refine⟨I'.size,fun b hb hm=>I'.blk b hb fun hl=>hm (.inr (lm b hl)),?_,I'.shape⟩
  rintro b hb ((h|h)|h)
  ·exact .inl h
  ·have:=h.2;omega
  ·rcases hLM b h with⟨i,c,n,g,h1,h2,h3,h4,h5⟩|h
   ·exact .inr ⟨i,c,n,g,h2,h3,h4,h5⟩
   ·rcases I'.fresh b h with h|h
    ·omega
    ·exact .inr (lm b h)
 have hre: ∀b,b<w'.heap.size→Mut F2 (ρ++r') (merge s.σ L σ') b→Mut F' ρ' σ' b:=by
  intro b _ hb
  rcases hb with(h|h)|h
  ·exact .inl (hF' b ⟨.inl h,I.foreign b h,fun hl=>I.apart b (lm b hl) h⟩)
  ·exact .inl h.1
  ·rcases hLM b h with⟨i,c,n,g,h1,h2,h3,h4,h5⟩|h
   ·obtain⟨h6,h7⟩:=hold i c g n b h1 h2 h3 h4 h5
    exact .inl (hF' b ⟨.inr ⟨i,c,n,g,h2,h3,h4,h5⟩,h6,h7⟩)
   ·exact .inr h
 refine hQ F2 (fun b h=> .inl h) e _ a' w' hk ⟨ρ++r',⟨⟨by rw[show(frmS E.n (dsts x) outs L s vs' σ').σ=merge s.σ L σ' from rfl,merge_length,List.length_append];omega,?_,?_,?_,I.heap.glob.keep K⟩,?_,I'.os.trans I.os,I'.tape.trans I.tape,I'.output.trans I.output,Nat.le_trans I.size I'.size,?_,?_,?_,?_,?_⟩,⟨?_,?_⟩,⟨⟨⟨?_,?_,?_⟩,Ds,hd1,hd2,?_⟩,?_⟩⟩
 ·intro i b g n h1 h2 h3
  rcases hmg i b g n h1 h3 h2 with⟨h4,h5,h6⟩|⟨j,b',h4,h5,h6,h7,h8⟩
  ·obtain⟨h11,h12,h13⟩:=I.heap.live i b g n h5 h6 h3
   exact⟨h11.keep K (fun _ _ h=>getElem?_append_some h) (fun k hk=>by
    obtain⟨h9,h10⟩:=hold i b g n k h4 h5 h3 h6 hk
    exact I'.blk k h9 h10),h12,Nat.lt_of_lt_of_le h13 I'.size⟩
  ·obtain⟨h11,h12,h13⟩:=I'.heap.live j b' g n h5 h8 h7
   subst h6
   exact⟨DenBlk_re hb (.inr hre) h11,by rw[(mapIdsB_count b').1,h12],h13⟩
 ·intro i b g n k h1 h2 h3 hk
  rcases hmg i b g n h1 h3 h2 with⟨h4,h5,h6⟩|⟨j,b',h4,h5,h6,h7,h8⟩
  ·exact Nat.lt_of_lt_of_le (I.heap.lt i b g n k h5 h6 h3 hk) I'.size
  ·subst h6
   exact I'.heap.lt j b' g n k h5 h8 h7 ((mapIdsB_owns b').1 hk)
 ·intro i i' b b' g g' n n' k h1 h1' h2 h2' h3 h3' hk hk'
  rcases hmg i b g n h1 h2 h3 with⟨h4,h5,h6⟩|⟨j,c,h4,h5,h6,h7,h8⟩<;>rcases hmg i' b' g' n' h1' h2' h3' with⟨h4',h5',h6'⟩|⟨j',c',h4',h5',h6',h7',h8'⟩
  ·exact I.heap.inj' i i' b b' g g' n n' k h5 h5' h2 h2' h6 h6' hk hk'
  ·exfalso
   subst h6'
   obtain⟨h9,h10⟩:=hold i b g n k h4 h5 h2 h6 hk
   rcases I'.fresh k ⟨j',c',n',g',h5',h7',h8',(mapIdsB_owns c').1 hk'⟩ with h|h
   ·omega
   ·exact h10 h
  ·exfalso
   subst h6
   obtain⟨h9,h10⟩:=hold i' b' g' n' k h4' h5' h2' h6' hk'
   rcases I'.fresh k ⟨j,c,n,g,h5,h7,h8,(mapIdsB_owns c).1 hk⟩ with h|h
   ·omega
   ·exact h10 h
  ·subst h6;subst h6'
   have e:=I'.heap.inj' j j' c c' g g' n n' k h5 h5' h7 h7' h8 h8' ((mapIdsB_owns c).1 hk) ((mapIdsB_owns c').1 hk')
   subst e
   rw[h4] at h4'
   exact Option.some.inj h4'
 ·obtain⟨q,hq⟩:=I.pre
  exact⟨q++r',by rw[hq,List.append_assoc]⟩
 ·intro b hb hm
  rw[I'.blk b (Nat.lt_of_lt_of_le hb I.size),I.blk b hb hm]
  intro hl
  rcases I.fresh b (lm b hl) with h|h
  ·omega
  ·exact hm h
 ·intro b hb
  rw[I'.shape b (Nat.lt_of_lt_of_le hb I.size),I.shape b hb]
 ·intro k hg
  rcases hLM k hg with⟨i,c,n,g,h1,h2,h3,h4,h5⟩|h
  ·exact I.fresh k ⟨i,c,n,g,h2,h3,h4,h5⟩
  ·rcases I'.fresh k h with h|h
   ·exact .inl (Nat.le_trans I.size h)
   ·exact I.fresh k (lm k h)
 ·rintro b (hb|hb)
  ·exact Nat.lt_of_lt_of_le (I.foreign b hb) I'.size
  ·exact I'.foreign b hb.1
 ·intro k hg hF
  rcases hLM k hg with⟨i,c,n,g,h1,h2,h3,h4,h5⟩|h
  ·rcases hF with hF|hF
   ·exact I.apart k ⟨i,c,n,g,h2,h3,h4,h5⟩ hF
   ·have:=I.heap.lt i c g n k h2 h4 h3 h5
    have:=hF.2
    omega
  ·exact I'.apart k h (hF.elim (fun hF=>hF' k ⟨.inl hF,I.foreign k hF,fun hl=>I.apart k (lm k hl) hF⟩) fun h=>h.1)
 ·rw[← S'.len]
  simp[frmS,spread]
 ·intro i v hv
  simp only[frmS,List.getElem?_map] at hv
  rcases Nat.lt_or_ge i E.n with hi|hi
  ·rw[List.getElem?_range hi] at hv
   simp only[Option.map_some,Option.some.injEq] at hv
   have hil:i<(spread E.n outs vs' σ').t.length:=by simpa [spread] using hi
   obtain⟨u,h1,h2⟩:=S'.get i _ (List.getElem?_eq_getElem hil)
   split at hv
   ·rename_i j hj
    refine⟨u,h1,?_⟩
    have e:(spread E.n outs vs' σ').t[i]=vs'.getD j .any:=by simp[spread,hj]
    rw[e] at h2
    subst hv
    exact Den_re hb (.inr hre) h2
   ·split at hv
    ·subst hv
     exact⟨u,h1,trivial⟩
    ·rename_i hc
     have hc':i ∉ dsts x:=by simpa using hc
     have hit:i<s.t.length:=by omega
     obtain⟨u',h1',h2'⟩:=S.get i _ (List.getElem?_eq_getElem hit)
     have:=hd4 i u' (by dsimp only;rw[if_neg hc'];exact h1')
     refine⟨u',this,?_⟩
     rw[List.getD_eq_getElem?_getD,List.getElem?_eq_getElem hit] at hv
     subst hv
     exact h2'.keep K fun _ _ h=>getElem?_append_some h
  ·rw[List.getElem?_eq_none (by simpa using hi)] at hv
   cases hv
 ·exact Nat.le_trans hs0.1 I'.size
 ·exact Nat.le_trans hs0.2.1 I'.size
 ·rintro b (hb|hb)
  ·exact hs0.2.2 b hb
  ·exact .inr (Nat.le_trans hs0.2.1 hb.2)
 ·intro D hD
  obtain⟨e1,⟨e2,e3⟩,e4⟩:=hd3 D hD
  rcases e3 with e3|e3
  ·exact⟨.inl e3.1,⟨e2,e3.2⟩,e4⟩
  ·exact⟨.inr ⟨e1,e3⟩,⟨e2,.inr (Nat.le_trans hs0.2.1 e3)⟩,e4⟩
 ·intro i v hv
  have h1:=hs4 i v hv
  refine hd4 i v ?_
  dsimp only
  rw[if_neg (fun hd=> ?_)]
  ·exact h1
  ·rw[hX i hd] at hv;cases hv
theorem evCode_sound(hS: ∀f S,E.specs f=some S→SpecOK E.P f S)(hm:ρ0.length=E.m): ∀(c:Code),(∀b ∈ loopsOf c,LoopHyp E b)→Sound E ρ0 c
 |.skip,_=>fun X F w0 m0 r s k a w Q _ _ h R hQ=>wpIn_skip (hQ _ (fun _ h=>h) .normal s a w h R)
 |.exit id,_=>fun X F w0 m0 r s k a w Q _ _ h R hQ=>wpIn_exit (hQ _ (fun _ h=>h) (.exit id) s a w h R)
 |.ret,_=>fun X F w0 m0 r s k a w Q _ _ h R hQ=>wpIn_ret (hQ _ (fun _ h=>h) .ret s a w h R)
 |.region id ops draw,_=>fun X F w0 m0 r s k a w Q hX _ h R hQ=>by
  simp only[evCode] at h
  have hX':=dsts_region hX
  cases draw with
  |false=>
   simp only[Bool.false_eq_true,if_false] at h
   refine wpIn_region ?_
   have:=evOps_sound (r:=r) hS (Q:=Q) (fun s' a' w' hk R'=>hQ _ (fun _ h=>h) .normal s' a' w' hk R') ops.toList 0 s a w (fun i _=>by simp) hX' h R
   simpa [List.range_eq_range'] using this
  |true=>
   simp only[if_true] at h
   split at h
   case isFalse=>exact h.elim
   rename_i hc
   simp only[Bool.and_eq_true] at hc
   exact region_draw_sound hS hc.1 hc.2 h hX' R fun s' a' w' hk R'=>hQ _ (fun _ h=>h) .normal s' a' w' hk R'
 |.seq x y,hL=>fun X F w0 m0 r s k a w Q hX hr h R hQ=>by
  simp only[evCode] at h
  have hx:=evCode_sound hS hm x (fun b hb=>hL b (by simp[loopsOf,hb]))
  have hy:=evCode_sound hS hm y (fun b hb=>hL b (by simp[loopsOf,hb]))
  have hr1:r=none∨noRange x=true:=hr.imp_right fun h=>(Bool.and_eq_true _ _ ▸ (show(noRange x&&noRange y)=true from h):noRange x=true∧noRange y=true).1
  have hr2:r=none∨noRange y=true:=hr.imp_right fun h=>(Bool.and_eq_true _ _ ▸ (show(noRange x&&noRange y)=true from h):noRange x=true∧noRange y=true).2
  refine wpIn_seq (hx _ _ _ _ _ s _ a w _ (fun d hd=>hX d (by simp[dsts,hd])) hr1 h R fun F' hF e s' a' w' hk R'=> ?_)
  cases e with
  |normal=>exact hy _ _ _ _ _ s' k a' w' Q (fun d hd=>hX d (by simp[dsts,hd])) hr2 hk R' fun F2 hF2=>hQ F2 fun b h=>hF2 b (hF b h)
  |exit id=>exact hQ F' hF _ _ _ _ hk R'
  |ret=>exact hQ F' hF _ _ _ _ hk R'
 |.cond c x y,hL=>fun X F w0 m0 r s k a w Q hX hr h R hQ=>by
  have hx:=evCode_sound hS hm x (fun b hb=>hL b (by simp[loopsOf,hb]))
  have hy:=evCode_sound hS hm y (fun b hb=>hL b (by simp[loopsOf,hb]))
  have hr1:r=none∨noRange x=true:=hr.imp_right fun h=>(Bool.and_eq_true _ _ ▸ (show(noRange x&&noRange y)=true from h):noRange x=true∧noRange y=true).1
  have hr2:r=none∨noRange y=true:=hr.imp_right fun h=>(Bool.and_eq_true _ _ ▸ (show(noRange x&&noRange y)=true from h):noRange x=true∧noRange y=true).2
  have hX1: ∀d ∈ dsts x,X.fz d=none:=fun d hd=>hX d (by simp[dsts,hd])
  have hX2: ∀d ∈ dsts y,X.fz d=none:=fun d hd=>hX d (by simp[dsts,hd])
  simp only[evCode] at h
  obtain⟨ρ,I,S,hd⟩:=R
  split at h
  ·rename_i b d hb
   have hev:=ov_bool S hb
   have hslot:a.tmps[d]? = some (.bool b):=by
    simp only[St.ov] at hb
    exact slot_bool S hb
   have R':Rel _ F _ _ ρ0 (setB s d b) a w:=⟨ρ,I,S.setB hslot,hd⟩
   cases b
   ·exact wpIn_cond_false hev (hy _ _ _ _ _ _ k a w Q hX2 hr2 h R' hQ)
   ·exact wpIn_cond_true hev (hx _ _ _ _ _ _ k a w Q hX1 hr1 h R' hQ)
  ·rename_i b _ hb
   have hev:=ov_bool S hb
   cases b
   ·exact wpIn_cond_false hev (hy _ _ _ _ _ _ k a w Q hX2 hr2 h ⟨ρ,I,S,hd⟩ hQ)
   ·exact wpIn_cond_true hev (hx _ _ _ _ _ _ k a w Q hX1 hr1 h ⟨ρ,I,S,hd⟩ hQ)
  ·exact h.elim
 |.block id x,hL=>fun X F w0 m0 r s k a w Q hX hr h R hQ=>by
  simp only[evCode] at h
  have hx:=evCode_sound hS hm x (fun b hb=>hL b (by simpa [loopsOf] using hb))
  refine wpIn_block (hx _ _ _ _ _ s _ a w _ (fun d hd=>hX d (by simpa [dsts] using hd)) (show r=none∨noRange x=true from hr) h R fun F' hF e s' a' w' hk R'=> ?_)
  cases e with
  |normal=>exact hQ F' hF _ _ _ _ hk R'
  |ret=>exact hQ F' hF _ _ _ _ hk R'
  |exit i=>
   dsimp only at hk
   simp only[toExit,Exit.inBlock]
   split at hk
   ·rename_i hi
    rw[if_pos hi]
    exact hQ F' hF .normal _ _ _ hk R'
   ·rename_i hi
    rw[if_neg hi]
    exact hQ F' hF (.exit i) _ _ _ hk R'
 |.loop x,hL=>fun X F w0 m0 r s k a w Q hX hr h R hQ=>by
  simp only[evCode] at h
  have hX': ∀d ∈ dsts x,X.fz d=none:=fun d hd=>hX d (by simpa [dsts] using hd)
  have hr':r=none∨noRange x=true:=hr
  split at h
  ·rename_i n hu
   refine wpIn_loop_rounds n ?_
   have hx:=evCode_sound hS hm x (fun b hb=>hL b (by simp[loopsOf,hb]))
   clear hu
   have key: ∀(n:Nat) (F1:Nat→Prop),(∀b,F b→F1 b)→ ∀s a w,rounds (evCode E x) k n s→Rel X F1 w0 m0 ρ0 s a w→Code.roundsIn (wideR r) 0 E.P x Q n a w:=by
    intro n
    induction n with
    |zero=>intro F1 _ s a w h;exact h.elim
    |succ n ih=>
     intro F1 hF1 s a w h R
     simp only[rounds] at h
     rw[roundsIn_succ]
     refine hx _ _ _ _ _ s _ a w _ hX' hr' h R fun F' hF e s' a' w' hk R'=> ?_
     cases e with
     |normal=>exact ih F' (fun b h=>hF b (hF1 b h)) _ _ _ hk R'
     |exit id=>exact hQ F' (fun b h=>hF b (hF1 b h)) _ _ _ _ hk R'
     |ret=>exact hQ F' (fun b h=>hF b (hF1 b h)) _ _ _ _ hk R'
   exact key n F (fun _ h=>h) s a w h R
  ·rename_i ins outs G hG
   split at h
   case isFalse=>exact h.elim
   rename_i hn
   exact(hL x (by simp[loopsOf])).1 ins outs G hG _ _ _ h _ _ _ _ _ _ a w Q hX' hr' hm (R.head hm hn ins) fun F' hF e vs' σ' a' w' hk R'=>hQ F' hF e _ a' w' hk R'
  ·rename_i m ins outs G hG
   split at h
   case isFalse=>exact h.elim
   rename_i hn
   exact frm_sound ((hL x (by simp[loopsOf])).2.2 m ins outs G hG) hn.1 hn.2 h hX' hr' R hQ
  ·exact h.elim
 |.rangeFunc g ps assign body,hL=>fun X F w0 m0 r s k a w Q hX hr h R hQ=>by
  have hr0:=hr.resolve_right (by simp[noRange])
  subst hr0
  exact range_sound hS hm (evCode_sound hS hm assign (fun b hb=>hL b (by simp[loopsOf,hb]))) (evCode_sound hS hm body (fun b hb=>hL b (by simp[loopsOf,hb]))) (hL (.rangeFunc g ps assign body) (by simp[loopsOf])).2.1 h R hQ
 |.scope ..,_=>fun X F w0 m0 r s k a w Q _ _ h R hQ=>by simp only[evCode] at h
 |.label ..,_=>fun X F w0 m0 r s k a w Q _ _ h R hQ=>by simp only[evCode] at h
 |.goto ..,_=>fun X F w0 m0 r s k a w Q _ _ h R hQ=>by simp only[evCode] at h
 |.refuse ..,_=>fun X F w0 m0 r s k a w Q _ _ h R hQ=>by simp only[evCode] at h
theorem loopOK_of(hS: ∀f S,E.specs f=some S→SpecOK E.P f S){b:Code}(hL: ∀b' ∈ loopsOf b,LoopHyp E b'){ins outs:List Nat}{G:LSpec}(μ:List AV→List Blk→Nat)
  (step: ∀vs σ k,G vs σ k→evBody E b ins outs vs σ fun e vs' σ'=>match e with
   |.normal=>G vs' σ' k∧μ vs' σ'<μ vs σ
   |e=>k e vs' σ'):LoopOK E b ins outs G:=by
 intro vs σ k hG X F w0 m0 ρ0 r a w Q hX hr hm R hQ
 refine wpIn_loop_rounds (μ vs σ+1) ?_
 have key: ∀n (F1:Nat→Prop),(∀b,F b→F1 b)→ ∀vs σ a w,μ vs σ<n→G vs σ k→Rel X F1 w0 m0 ρ0 (spread E.n ins vs σ) a w→Code.roundsIn (wideR r) 0 E.P b Q n a w:=by
  intro n
  induction n with
  |zero=>intro F1 _ vs σ a w h;omega
  |succ n ih=>
   intro F1 hF1 vs σ a w hn hG R
   rw[roundsIn_succ]
   refine evCode_sound hS hm b hL _ _ _ _ _ _ _ a w _ hX hr (step vs σ k hG) R fun F' hF e s' a' w' hk R'=> ?_
   split at hk
   case isFalse=>exact hk.elim
   rename_i hlen
   cases e with
   |normal=>exact ih F' (fun b h=>hF b (hF1 b h)) _ _ _ _ (by have:=hk.2;omega) hk.1 (R'.head hm hlen ins)
   |exit id=>exact hQ F' (fun b h=>hF b (hF1 b h)) _ _ _ _ _ hk (R'.head hm hlen outs)
   |ret=>exact hQ F' (fun b h=>hF b (hF1 b h)) _ _ _ _ _ hk (R'.head hm hlen outs)
 exact key _ F (fun _ h=>h) vs σ a w (by omega) hG R
theorem resultOf_sound(H:HeapOk F ρ s.σ w)(S:Slots (Mut F ρ s.σ) ρ s.t a w){r:ResultVar}{v:TV}(h:resultOf E.P s r=some (true,v)):
  ∃u,(match r with
   |.tmp t=>pure (a.tmps.getD t undef)
   |.cell b t=>do loadVar t (← asAddr (a.tmps.getD b undef)):Sem Value).run E.P w= .ok u w∧DenT w (Mut F ρ s.σ) ρ v u:=by
 cases r with
 |tmp t=>
  have hd:=ops_den S (.tmp t)
  simp only[resultOf] at h
  simp only[St.ov,Act.eval] at hd
  split at h
  ·rename_i x hx
   simp only[Option.some.injEq,Prod.mk.injEq,true_and] at h
   subst h
   rw[hx] at hd
   exact⟨_,by simp,hd⟩
  ·rename_i x hx
   simp only[Option.some.injEq,Prod.mk.injEq,true_and] at h
   subst h
   rw[hx] at hd
   exact⟨_,by simp,hd⟩
  ·cases h
 |cell b t=>
  simp only[resultOf] at h
  have go: ∀x:AV,evM E.P s (.load t (.tmp b))=some (true,x)→ ∃u,(do loadVar t (← asAddr (a.tmps.getD b undef)):Sem Value).run E.P w= .ok u w∧Den w (Mut F ρ s.σ) ρ x u:=by
   intro x hx
   obtain⟨u,h1,h2⟩:=evM_sound H (o:={ (default:Oper) with op:= .load t (.tmp b) }) hx (f:=a.eval) (fun x _=>ops_den S x)
   refine⟨u,?_,h2⟩
   have e:a.eval (.tmp b)=a.tmps.getD b undef:=rfl
   simp only[execOp,Instr.loadAt,e] at h1
   generalize a.tmps.getD b undef=y at h1 ⊢
   cases y with
   |pointer p=>
    cases p with
    |none=>simp[Instr.sureAddr,Sem.run_bind] at h1
    |some ad=>
     simp only[Instr.sureAddr,asAddr,Sem.run_bind,Sem.run_pure,Result.andThen_ok] at h1 ⊢
     cases hl:(loadVar t ad).run E.P w with
     |ok v w1=>rw[hl] at h1;simp at h1;obtain⟨rfl,rfl⟩:=h1;rfl
     |halt x w1=>rw[hl] at h1;simp at h1
   |_=>simp[Instr.sureAddr,Sem.run_bind] at h1
  split at h
  ·rename_i c x hx
   simp only[Option.some.injEq,Prod.mk.injEq] at h
   obtain⟨rfl,rfl⟩:=h
   exact go _ hx
  ·rename_i c x hx
   simp only[Option.some.injEq,Prod.mk.injEq] at h
   obtain⟨rfl,rfl⟩:=h
   exact go _ hx
  ·cases h
theorem resultsOf_sound(H:HeapOk F ρ s.σ w)(S:Slots (Mut F ρ s.σ) ρ s.t a w): ∀{rs:List ResultVar} {l:List TV},resultsOf E.P s rs=some (true,l)→
  ∃us:List Value,(rs.mapM fun r=>(match r with
   |.tmp t=>pure (a.tmps.getD t undef)
   |.cell b t=>do loadVar t (← asAddr (a.tmps.getD b undef)):Sem Value)).run E.P w= .ok us w∧All2 (DenT w (Mut F ρ s.σ) ρ) l us
 |[],l,h=>by
  simp only[resultsOf,Option.some.injEq,Prod.mk.injEq,true_and] at h
  subst h
  exact⟨[],by simp,trivial⟩
 |r::rs,l,h=>by
  simp only[resultsOf] at h
  split at h
  ·rename_i c v d vs h1 h2
   simp only[Option.some.injEq,Prod.mk.injEq,Bool.and_eq_true] at h
   obtain⟨⟨rfl,rfl⟩,rfl⟩:=h
   obtain⟨u,h3,h4⟩:=resultOf_sound H S h1
   obtain⟨us,h5,h6⟩:=resultsOf_sound H S h2
   refine⟨u::us,?_,h4,h6⟩
   rw[List.mapM_cons]
   simp only[Sem.run_bind,h3,h5,Result.andThen_ok,Sem.run_pure]
  ·cases h
theorem All2_replicate{R:AV→Value→Prop}{v:AV}{u:Value}(h:R v u): ∀n,All2 R (List.replicate n v) (List.replicate n u)
 |0=>trivial
 |n+1=>⟨h,All2_replicate h n⟩
theorem leaves_marks{P:Program}{fn:Func}{tmps:Array Value}{R:Ending→World→Prop}: ∀(Ds:List Nat) (w:World),Ds.Nodup→(∀D ∈ Ds,w.heap[D]? = some (.deferred (some [])))→
  (∀w',w'.heap.size=w.heap.size→(∀b,b ∉ Ds→w'.heap[b]? = w.heap[b]?)→(∀b,w'.shape? b=w.shape? b)→w'.os=w.os→w'.tape=w.tape→w'.output=w.output→ ∃v,(results fn tmps).run P w'= .ok v w'∧R (.returned v) w')→
  LeavesInM (wideR none) 0 P fn tmps R (Ds.map fun D=>{ target:= .collected D,args := #[] }) .returning w
 |[],w,_,_,h=>h w rfl (fun _ _=>rfl) (fun _=>rfl) rfl rfl rfl
 |D::Ds,w,hn,hd,h=>by
  have hD:=hd D (by simp)
  have hlt:=(Array.getElem?_eq_some_iff.1 hD).1
  refine⟨by simp,.inl ⟨D,_,rfl,run_takeDeferred hD,?_⟩⟩
  have hn':=List.nodup_cons.1 hn
  have ho: ∀b,b≠D→(w.putObj D (.deferred none)).heap[b]? = w.heap[b]? := fun b hb=>World.putObj_heap_other hb
  have hsh: ∀b,(w.putObj D (.deferred none)).shape? b=w.shape? b:=fun b=>by
   unfold World.shape?
   by_cases hb:b=D
   ·subst hb
    rw[World.putObj_heap_same hlt,hD]
   ·rw[ho b hb]
  refine leaves_marks Ds _ hn'.2 (fun D' hD'=>(ho D' fun e=>hn'.1 (e ▸ hD')).trans (hd D' (by simp[hD']))) fun w' h1 h2 h3 h4 h5 h6=>h w' (h1.trans (by simp)) (fun b hb=> ?_) (fun b=>(h3 b).trans (hsh b)) h4 h5 h6
  simp only[List.mem_cons,not_or] at hb
  exact(h2 b hb.2).trans (ho b hb.1)
theorem fnOK(hS: ∀f S,E.specs f=some S→SpecOK E.P f S){f:FuncId}{fn:Func}{c:Code}{S:Spec}(hf:E.P.funcs[f]? = some fn)(hb:fn.body=some c) (hname:(fn.name == "runtime.NumGoroutine")=false)
  (hL: ∀b ∈ loopsOf c,LoopHyp E b) (h: ∀args σ K,S args σ K→evFn E fn args σ K):SpecOK E.P f S:=by
 refine⟨⟨fn,c,hf,hb,hname⟩,fun args σ K hK F ρ vals w H hF hA=> ?_⟩
 have hev:=h args σ K hK
 unfold evFn at hev
 split at hev
 case isFalse=>exact hev.elim
 rename_i hm
 rw[hb] at hev
 dsimp only at hev
 refine(callsIn_wide (n:=0)).1 (callsIn_of_wp_marks (F:=wideR none) hf hb trivial ?_ rfl)
 have hlen:=hA.length
 refine evCode_sound (ρ0:=ρ) hS (by rw[H.len,hm]) c hL { fz:=fun _=>none,n0:=w.heap.size } F w (LMut ρ σ) none _ _ _ w _ (fun _ _=>rfl) (.inl rfl) hev ⟨ρ,{
  heap:=H
  pre:=⟨[],by simp⟩
  os:=rfl
  tape:=rfl
  output:=rfl
  size:=Nat.le_refl _
  blk:=fun _ _ _=>rfl
  shape:=fun _ _=>rfl
  fresh:=fun _ h=> .inr h
  foreign:=fun b hb=>(hF b hb).1
  apart:=fun g hg h=>(hF g h).2 hg },⟨by simp[hlen],fun i v hv=> ?_⟩,Side.start _⟩ fun F' hFF e s' a' w' hk R=> ?_
 ·have hA':All2 (Den w (Mut F ρ σ) ρ) (args++List.replicate (fn.ntmps-args.length) .any) (vals++List.replicate (fn.ntmps-vals.length) undef):=by
   rw[hlen]
   exact hA.append (All2_replicate trivial _)
  obtain⟨u,h1,h2⟩:=hA'.get hv
  refine⟨u,?_,h2⟩
  simp only[List.size_toArray]
  rw[← h1]
  simp[← Array.getElem?_toList]
 ·have fin:evRet E.P fn.results.toList E.m s' K→LeavesInM (wideR none) 0 E.P fn a'.tmps (fun e w'=> ∃v a σ' ρ',e= .returned v∧K a σ'∧Inv F w (LMut ρ σ) ρ ρ' σ' w'∧Keep (Mut F ρ σ) (Mut F ρ' σ') w w'∧Den w' (Mut F ρ' σ') ρ' a v) a'.defers .returning w':=by
   intro hr
   obtain⟨ρ',I0,S0,⟨⟨_,Ds,hds,hnd,hDs⟩,_⟩⟩:=R
   rw[hds]
   refine leaves_marks Ds w' hnd (fun D hD=>(hDs D hD).2.2) fun w2 hsz hblk hsh hos ht ho=> ?_
   have hup: ∀b,Mut F ρ' s'.σ b→Mut F' ρ' s'.σ b:=fun b h=>h.imp_left (hFF b)
   have K2:Keep (Mut F' ρ' s'.σ) (Mut F' ρ' s'.σ) w' w2:=⟨by omega,fun b _ hb=>hblk b fun h=>hb (.inl (hDs b h).1),fun _ _ h=>h,fun b _=>hsh b⟩
   have hown: ∀b,LMut ρ' s'.σ b→w2.heap[b]? = w'.heap[b]? := fun b hb=>hblk b fun h=>I0.apart b hb (hDs b h).1
   have K2':Keep (Mut F' ρ' s'.σ) (Mut F ρ' s'.σ) w' w2:=⟨by omega,K2.blk,fun b _ h=>hup b h,fun b _=>hsh b⟩
   have I:Inv F w (LMut ρ σ) ρ ρ' s'.σ w2:={
    heap:=⟨I0.heap.len,fun id b g n e1 e2 e3=>by
     obtain⟨a1,a2,a3⟩:=I0.heap.live id b g n e1 e2 e3
     exact⟨a1.keep K2' (fun _ _ h=>h) fun k hk=>hown k ⟨id,b,n,g,e1,e3,e2,hk⟩,a2,by omega⟩,fun id b g n k e1 e2 e3 e4=>by have:=I0.heap.lt id b g n k e1 e2 e3 e4;omega,I0.heap.inj',I0.heap.glob.keep K2'⟩
    pre:=I0.pre
    os:=hos.trans I0.os
    tape:=ht.trans I0.tape
    output:=ho.trans I0.output
    size:=by have:=I0.size;omega
    blk:=fun b hb hn=>(hblk b fun h=>by have:=(hDs b h).2.1.1;dsimp only at this;omega).trans (I0.blk b hb hn)
    shape:=fun b hb=>(hsh b).trans (I0.shape b hb)
    fresh:=I0.fresh
    foreign:=fun b hb=>by have:=I0.foreign b (hFF b hb);omega
    apart:=fun g hg h=>I0.apart g hg (hFF g h) }
   have S':Slots (Mut F ρ' s'.σ) ρ' s'.t a' w2:=S0.keep K2' fun _ _ h=>h
   unfold evRet at hr
   split at hr
   case h_2=>exact hr.elim
   rename_i c' l hl
   obtain⟨rfl,hK'⟩:=cond_pos hr
   obtain⟨us,h1,h2⟩:=resultsOf_sound I.heap S' hl
   have hrun:(results fn a'.tmps).run E.P w2= .ok (if h:us.toArray.size=1 then us.toArray[0] else .tuple us.toArray) w2:=by
    unfold results
    rw[Array.mapM_eq_mapM_toList]
    simp only[Sem.run_bind,Sem.run_map]
    refine(congrArg (fun r:Result (List Value)=>(r.andThen fun a w'=>Result.ok a.toArray w').andThen fun a w'=>Sem.run E.P (pure (if h:a.size=1 then a[0] else Value.tuple a)) w') h1).trans ?_
    simp only[Result.andThen_ok,Sem.run_pure]
   obtain⟨ρ2,I2,hf2,hmm⟩:=I.sel (idsA (packRes l))
   have hmE:ρ.length=E.m:=by rw[H.len,hm]
   rw[hmE] at I2 hf2 hmm
   have hden:Den w2 (Mut F ρ' s'.σ) ρ' (packRes l) (if h:us.toArray.size=1 then us.toArray[0] else .tuple us.toArray):=by
    match l,us,h2 with
    |[],[],_=>exact⟨[],rfl,trivial⟩
    |[v],[u],h2=>
     simp only[packRes]
     cases v with
     |one s=>exact h2.1
     |agg l=>exact h2.1
    |v::v'::l,u::u'::us,h2=>
     simp only[packRes]
     exact⟨_,by simp,h2⟩
   refine⟨_,hrun,_,_,_,ρ2,rfl,hK',I2,⟨I2.size,fun b hb hm=>I2.blk b hb fun hl=>hm (.inr hl),?_,I2.shape⟩,Den_re hf2 (.inr hmm) hden⟩
   rintro b hb (h|h)
   ·exact .inl h
   ·rcases I2.fresh b h with h|h
    ·omega
    ·exact .inr h
  cases e with
  |normal=>exact fin hk
  |ret=>exact fin hk
  |exit id=>exact hk.elim
end
end Go.Ev
namespace Go.Ev
open Go
variable [Glob]
def spOf:List (FuncId × Spec)→FuncId→Option Spec
 |[],_=>none
 |p::l,f=>bif Nat.beq p.1 f then some p.2 else spOf l f
def lpOf:List (Nat × LoopBy)→Nat→Option LoopBy
 |[],_=>none
 |p::l,f=>bif Nat.beq p.1 f then some p.2 else lpOf l f
def AllOK(P:Program):List (FuncId × Spec)→Prop
 |[]=>True
 |p::l=>SpecOK P p.1 p.2∧AllOK P l
theorem AllOK.nil{P:Program}:AllOK P []:=trivial
theorem AllOK.cons{P:Program}{f:FuncId}{S:Spec}{l:List (FuncId × Spec)}(h:SpecOK P f S)(hl:AllOK P l):AllOK P ((f,S)::l):=⟨h,hl⟩
theorem spOf_ok{P:Program}: ∀{l:List (FuncId × Spec)},AllOK P l→ ∀f S,spOf l f=some S→SpecOK P f S
 |[],_,f,S,h=>by simp[spOf] at h
 |p::l,H,f,S,h=>by
  simp only[spOf] at h
  cases hb:Nat.beq p.1 f with
  |true=>
   rw[hb] at h
   have e:=Nat.eq_of_beq_eq_true hb
   simp only[cond_true,Option.some.injEq] at h
   subst e;subst h
   exact H.1
  |false=>rw[hb] at h;exact spOf_ok H.2 f S h
def envOf(P:Program)(l:List (FuncId × Spec))(lps:List (Nat × LoopBy))(n m:Nat)(ds:List Nat:=[])(cs:List Nat:=[]):Env:=⟨P,spOf l,lpOf lps,n,m,fun f=>ds.any (Nat.beq f),fun t=>cs.any (Nat.beq t)⟩
def lb(fn:Func)(i:Nat):Code:=(loopsOf (fn.body.getD .skip)).getD i .skip
theorem noLoops{E:Env}{fn:Func}(h:(loopsOf (fn.body.getD .skip)).length=0): ∀b ∈ loopsOf (fn.body.getD .skip),LoopHyp E b:=by
 rw[List.length_eq_zero_iff] at h
 rw[h]
 intro b hb
 cases hb
theorem theLoops{E:Env}{fn:Func}{n:Nat}(h:(loopsOf (fn.body.getD .skip)).length=n)(H: ∀i,i<n→LoopHyp E (lb fn i)): ∀b ∈ loopsOf (fn.body.getD .skip),LoopHyp E b:=by
 intro b hb
 obtain⟨i,hi⟩:=List.getElem?_of_mem hb
 have hl:=(List.getElem?_eq_some_iff.1 hi).1
 have:=H i (by omega)
 unfold lb at this
 rw[List.getD_eq_getElem?_getD,hi] at this
 exact this
theorem noInner{E:Env}{b:Code}(h:(loopsOf b).length=0): ∀b' ∈ loopsOf b,LoopHyp E b':=by
 rw[List.length_eq_zero_iff] at h
 rw[h]
 intro b hb
 cases hb
theorem rangeHyp_no{E:Env}{b:Code}(h: ∀f Sq ins G,E.loops (keyOf b)≠some (.range f Sq ins G)):RangeHyp E b:=by
 cases b with
 |rangeFunc g ps assign body=>exact fun f Sq ins G h'=>absurd h' (h f Sq ins G)
 |_=>trivial
theorem frmHyp_no{E:Env}{b:Code}(h: ∀m ins outs G,E.loops (keyOf b)≠some (.frm m ins outs G)):FrmHyp E b:=fun m ins outs G h'=>absurd h' (h m ins outs G)
theorem loopHyp_of{E:Env}{b:Code}{key:Nat}{ins outs:List Nat}{G:LSpec}(hk:keyOf b=key)(hl:E.loops key=some (.spec ins outs G))(h:LoopOK E b ins outs G):LoopHyp E b:=by
 refine⟨fun ins' outs' G' h'=> ?_,rangeHyp_no fun f Sq ins G h'=> ?_,frmHyp_no fun m ins outs G h'=> ?_⟩
 ·rw[hk,hl] at h'
  cases h'
  exact h
 ·rw[hk,hl] at h'
  cases h'
 ·rw[hk,hl] at h'
  cases h'
theorem loopHyp_none{E:Env}{b:Code}{key n:Nat}(hk:keyOf b=key)(hl:E.loops key=some (.unroll n)):LoopHyp E b:=by
 refine⟨fun ins' outs' G' h'=> ?_,rangeHyp_no fun f Sq ins G h'=> ?_,frmHyp_no fun m ins outs G h'=> ?_⟩
 ·rw[hk,hl] at h'
  cases h'
 ·rw[hk,hl] at h'
  cases h'
 ·rw[hk,hl] at h'
  cases h'
def rangePs:Code→List Tmp|.rangeFunc _ ps _ _=>ps.toList|_=>[]
def rangeAssign:Code→Code|.rangeFunc _ _ a _=>a|_=> .skip
def rangeBody:Code→Code|.rangeFunc _ _ _ b=>b|_=> .skip
def isRange:Code→Bool|.rangeFunc .. => true|_=>false
theorem loopHyp_range{E:Env}{b:Code}{key:Nat}{f:FuncId}{Sq:SeqSpec}{ins:List Nat}{G:List (List AV)→LSpec}(hb:isRange b=true)(hk:keyOf b=key)(hl:E.loops key=some (.range f Sq ins G))(h:RangeOK E f Sq (rangePs b) (rangeAssign b) (rangeBody b) ins G):LoopHyp E b:=by
 cases b with
 |rangeFunc g ps assign body=>
  refine⟨fun ins' outs' G' h'=> ?_,fun f' Sq' ins' G' h'=> ?_,frmHyp_no fun m ins outs G h'=> ?_⟩
  ·rw[hk,hl] at h'
   cases h'
  ·rw[hk,hl] at h'
   cases h'
   exact h
  ·rw[hk,hl] at h'
   cases h'
 |_=>simp[isRange] at hb
theorem specOKc{P:Program}{l:List (FuncId × Spec)}{lps:List (Nat × LoopBy)}{n m:Nat}(ds cs:List Nat){f:FuncId}{fn:Func}{S:Spec}(hS:AllOK P l)(hf:P.funcs[f]? = some fn)(hb:fn.body.isSome=true) (hname:(fn.name == "runtime.NumGoroutine")=false)
  (hL: ∀b ∈ loopsOf (fn.body.getD .skip),LoopHyp (envOf P l lps n m ds cs) b) (h: ∀args σ K,S args σ K→evFn (envOf P l lps n m ds cs) fn args σ K):SpecOK P f S:=by
 obtain⟨c,hc⟩:=Option.isSome_iff_exists.1 hb
 rw[hc] at hL
 exact fnOK (E:=envOf P l lps n m ds cs) (spOf_ok hS) hf hc hname hL h
theorem specOKd{P:Program}{l:List (FuncId × Spec)}{lps:List (Nat × LoopBy)}{n m:Nat}(ds:List Nat){f:FuncId}{fn:Func}{S:Spec}(hS:AllOK P l)(hf:P.funcs[f]? = some fn)(hb:fn.body.isSome=true) (hname:(fn.name == "runtime.NumGoroutine")=false) (hL: ∀b ∈ loopsOf (fn.body.getD .skip),LoopHyp (envOf P l lps n m ds) b) (h: ∀args σ K,S args σ K→evFn (envOf P l lps n m ds) fn args σ K):SpecOK P f S:= specOKc (n:=n) (m:=m) ds [] hS hf hb hname hL h
theorem specOK{P:Program}{l:List (FuncId × Spec)}{lps:List (Nat × LoopBy)}{n m:Nat}{f:FuncId}{fn:Func}{S:Spec}(hS:AllOK P l)(hf:P.funcs[f]? = some fn)(hb:fn.body.isSome=true) (hname:(fn.name == "runtime.NumGoroutine")=false) (hL: ∀b ∈ loopsOf (fn.body.getD .skip),LoopHyp (envOf P l lps n m) b) (h: ∀args σ K,S args σ K→evFn (envOf P l lps n m) fn args σ K):SpecOK P f S:= specOKd (n:=n) (m:=m) [] hS hf hb hname hL h
theorem loopOK{P:Program}{l:List (FuncId × Spec)}{lps:List (Nat × LoopBy)}{n m:Nat}{ds cs:List Nat}(hS:AllOK P l){b:Code}(hL: ∀b' ∈ loopsOf b,LoopHyp (envOf P l lps n m ds cs) b'){ins outs:List Nat}{G:LSpec}(μ:List AV→List Blk→Nat)
  (step: ∀vs σ k,G vs σ k→evBody (envOf P l lps n m ds cs) b ins outs vs σ fun e vs' σ'=>match e with
   |.normal=>G vs' σ' k∧μ vs' σ'<μ vs σ
   |e=>k e vs' σ'):LoopOK (envOf P l lps n m ds cs) b ins outs G:=
 loopOK_of (spOf_ok hS) hL μ step
theorem wrap_id{n:Int}(h1: -9223372036854775808≤n)(h2:n<9223372036854775808):IntKind.i64.wrap n=n:=by
 have e1:(2:Int)^IntKind.i64.bits=18446744073709551616:=by decide
 have e2:(2:Int)^(IntKind.i64.bits-1)=9223372036854775808:=by decide
 have e3:IntKind.i64.signed=true:=rfl
 unfold IntKind.wrap
 simp only[e1,e2,e3,Bool.true_and,decide_eq_true_eq]
 split<;>omega
theorem getD_of_lt{α:Type}{l:List α}{i:Nat}{d:α}(h:i<l.length):l.getD i d=l[i]:=by simp[List.getD,h]
theorem drop_step{α:Type}{l:List α}{i:Nat}(d:α)(h:i<l.length):l.drop i=l.getD i d::l.drop (i+1):=by
 rw[getD_of_lt h]
 exact List.drop_eq_getElem_cons h
end Go.Ev
namespace Go.Ev
open Go
variable [Glob]
theorem SpecOK.weak{P:Program}{f:FuncId}{S S1:Spec}(h1:SpecOK P f S1)(h: ∀args σ K,S args σ K→S1 args σ K):SpecOK P f S:= ⟨h1.body,fun args σ K hK=>h1.sound args σ K (h args σ K hK)⟩
end Go.Ev
