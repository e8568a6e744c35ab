/-
  Part of the proof that TopClickOnly holds.
-/
import Derived.Test.YtgkngjjnpiheoaaT05
import Derived.RangeFuncRecord
set_option linter.unusedVariables false
set_option linter.unusedSimpArgs false
set_option linter.unusedSectionVars false
namespace Go.Ev
open Go Go.RowKit
variable [Glob]
theorem mapOpt_ids{ρ ρ':List (Nat × Nat)}{f:Nat→Option Nat}(hf: ∀i j,f i=some j→ ∀g,ρ[i]? = some g→ρ'[j]? = some g): ∀{cap c:List Nat} {gs:List (Nat × Nat)},mapOpt f cap=some c→
  cap.map (ρ[·]?)=gs.map some→c.map (ρ'[·]?)=gs.map some
 |[],c,gs,h,hg=>by
  simp only[mapOpt,Option.some.injEq] at h
  subst h
  simpa using hg
 |i::cap,c,gs,h,hg=>by
  simp only[mapOpt] at h
  split at h
  ·rename_i j k hj hk
   simp only[Option.some.injEq] at h
   subst h
   cases gs with
   |nil=>simp at hg
   |cons g gs=>
    simp only[List.map_cons,List.cons.injEq] at hg ⊢
    exact⟨hf i j hj g hg.1,mapOpt_ids hf hk hg.2⟩
  ·cases h
section
variable {w:World} {m m':Nat→Prop} {ρ ρ':List (Nat × Nat)} {f:Nat→Option Nat}
theorem Keep.same(hm: ∀b,b<w.heap.size→m' b→m b):Keep m m' w w:=⟨Nat.le_refl _,fun _ _ _=>rfl,hm,fun _ _=>rfl⟩
theorem DenS_re(hf: ∀i j,f i=some j→ ∀g,ρ[i]? = some g→ρ'[j]? = some g){s:SV}(hm:plainS s=true∨ ∀b,b<w.heap.size→m' b→m b){u:Value}(h:DenS w m ρ s u):DenS w m' ρ' (mapIds f s) u:=by
 have hone:=h.one
 cases s with
 |own id wd=>
  obtain⟨g,n,cap,t,sz,h1,h2⟩:=h
  simp only[mapIds]
  split
  ·rename_i j hj
   exact⟨g,n,cap,t,sz,hf _ _ hj _ h1,h2⟩
  ·exact hone
 |sub id wd i n=>
  obtain⟨g,x,off,cap,h1,h2⟩:=h
  simp only[mapIds]
  split
  ·rename_i j hj
   exact⟨g,x,off,cap,hf _ _ hj _ h1,h2⟩
  ·exact hone
 |ptr id wd i c=>
  obtain⟨g,x,h1,h2⟩:=h
  simp only[mapIds]
  split
  ·rename_i j hj
   exact⟨g,x,hf _ _ hj _ h1,h2⟩
  ·exact hone
 |func g cap=>
  obtain⟨gs,h1,h2⟩:=h
  simp only[mapIds]
  split
  ·rename_i c hc
   exact⟨gs,mapOpt_ids hf hc h1,h2⟩
  ·exact hone
 |yld id=>
  obtain⟨g,x,h1,h2⟩:=h
  simp only[mapIds]
  split
  ·rename_i j hj
   exact⟨g,x,hf _ _ hj _ h1,h2⟩
  ·exact hone
 |mapv id=>
  obtain⟨g,x,h1,h2⟩:=h
  simp only[mapIds]
  split
  ·rename_i j hj
   exact⟨g,x,hf _ _ hj _ h1,h2⟩
  ·exact hone
 |data r=>
  rcases hm with hm|hm
  ·simp[plainS] at hm
  ·exact DenS.keep (ρ:=ρ) (ρ':=ρ) (sv:= .data r) (Keep.same hm) (fun _ _ h=>h) h
 |dptr r i c=>
  rcases hm with hm|hm
  ·simp[plainS] at hm
  ·exact DenS.keep (ρ:=ρ) (ρ':=ρ) (sv:= .dptr r i c) (Keep.same hm) (fun _ _ h=>h) h
 |_=>exact h
theorem all2_re(hf: ∀i j,f i=some j→ ∀g,ρ[i]? = some g→ρ'[j]? = some g): ∀{l:List SV} {vs:List Value},(l.all plainS=true∨ ∀b,b<w.heap.size→m' b→m b)→All2 (DenS w m ρ) l vs→All2 (DenS w m' ρ') (l.map (mapIds f)) vs
 |[],[],_,_=>trivial
 |[],_::_,_,h=>h.elim
 |_::_,[],_,h=>h.elim
 |_::_,_::_,hm,h=>by
  refine⟨DenS_re hf ?_ h.1,all2_re hf ?_ h.2⟩
  ·exact hm.imp_left fun h=>by simp only[List.all_cons,Bool.and_eq_true] at h;exact h.1
  ·exact hm.imp_left fun h=>by simp only[List.all_cons,Bool.and_eq_true] at h;exact h.2
theorem DenT_re(hf: ∀i j,f i=some j→ ∀g,ρ[i]? = some g→ρ'[j]? = some g){s:TV}(hm:plainTV s=true∨ ∀b,b<w.heap.size→m' b→m b){u:Value}(h:DenT w m ρ s u):DenT w m' ρ' (mapIdsT f s) u:=by
 cases s with
 |one s=>exact DenS_re hf hm h
 |agg l=>
  obtain⟨vs,e,hl⟩:=h
  exact⟨vs,e,all2_re hf hm hl⟩
theorem all2T_re(hf: ∀i j,f i=some j→ ∀g,ρ[i]? = some g→ρ'[j]? = some g): ∀{l:List TV} {vs:List Value},(l.all plainTV=true∨ ∀b,b<w.heap.size→m' b→m b)→All2 (DenT w m ρ) l vs→All2 (DenT w m' ρ') (l.map (mapIdsT f)) vs
 |[],[],_,_=>trivial
 |[],_::_,_,h=>h.elim
 |_::_,[],_,h=>h.elim
 |_::_,_::_,hm,h=>by
  refine⟨DenT_re hf ?_ h.1,all2T_re hf ?_ h.2⟩
  ·exact hm.imp_left fun h=>by simp only[List.all_cons,Bool.and_eq_true] at h;exact h.1
  ·exact hm.imp_left fun h=>by simp only[List.all_cons,Bool.and_eq_true] at h;exact h.2
theorem Den_re(hf: ∀i j,f i=some j→ ∀g,ρ[i]? = some g→ρ'[j]? = some g){a:AV}(hm:plainA a=true∨ ∀b,b<w.heap.size→m' b→m b){u:Value}(h:Den w m ρ a u):Den w m' ρ' (mapIdsA f a) u:=by
 cases a with
 |any=>trivial
 |one s=>exact DenS_re hf hm h
 |agg l=>
  obtain⟨vs,e,hl⟩:=h
  exact⟨vs,e,all2_re hf hm hl⟩
 |tup l=>
  obtain⟨vs,e,hl⟩:=h
  exact⟨vs,e,all2T_re hf hm hl⟩
theorem DenBlk_re(hf: ∀i j,f i=some j→ ∀g,ρ[i]? = some g→ρ'[j]? = some g){b:Blk}(hm:plainB b=true∨ ∀b,b<w.heap.size→m' b→m b){g:Nat}(h:DenBlk w m ρ g b):DenBlk w m' ρ' g (mapIdsB f b):=by
 cases b with
 |dead=>trivial
 |ghost P J D r=>
  rcases hm with hm|hm
  ·simp[plainB] at hm
  ·exact⟨h.2.keep m m' D r w w h.1 (Keep.same hm) fun _ _=>rfl,h.2⟩
 |cells l=>
  obtain⟨arr,t,h1,h2⟩:=h
  refine⟨arr,t,h1,fun j sv hj=> ?_⟩
  rw[List.getElem?_map] at hj
  cases hl:l[j]? with
  |none=>rw[hl] at hj;simp at hj
  |some s=>
   rw[hl] at hj
   simp at hj
   subst hj
   obtain⟨u,hu,hd⟩:=h2 j s hl
   refine⟨u,hu,DenS_re hf ?_ hd⟩
   exact hm.imp_left fun h=>by
    simp only[plainB,List.all_eq_true] at h
    exact h s (List.mem_of_getElem? hl)
 |row t r=>
  obtain⟨arr,h1,h2⟩:=h
  refine⟨arr,h1,?_⟩
  rcases hm with hm|hm
  ·cases r with
   |ints k xs=>exact h2
   |mat k wd xss=>exact h2
   |recs cks xss=>
    intro i xs hi c ck hc
    obtain⟨u,hu,hd⟩:=h2 i xs hi c ck hc
    refine⟨u,hu,?_⟩
    simp only[plainB,List.all_eq_true] at hm
    have:=hm ck (List.mem_of_getElem? hc)
    cases ck with
    |sints k=>simp at this
    |smat k w=>simp at this
    |_=>exact hd
  ·exact h2.keep (Keep.same hm)
 |map kw vw l=>exact h
 |iter mb kw vw rem cur=>exact h
theorem mapIdsB_count(b:Blk):(mapIdsB f b).count=b.count∧(mapIdsB f b).live=b.live:=by
 cases b<;>simp[mapIdsB,Blk.count,Blk.live]
theorem mapIdsB_owns(b:Blk){g k:Nat}:(mapIdsB f b).owns g k↔b.owns g k:=by
 cases b<;>simp[mapIdsB,Blk.owns]
end
theorem reach_ok{σ:List Blk}: ∀(n:Nat) (todo acc:List Nat),acc.Nodup→(∀i ∈ acc,i<σ.length)→(reach σ n todo acc).Nodup∧ ∀i ∈ reach σ n todo acc,i<σ.length
 |0,todo,acc,h1,h2=>⟨h1,h2⟩
 |n+1,[],acc,h1,h2=>⟨h1,h2⟩
 |n+1,id::todo,acc,h1,h2=>by
  simp only[reach]
  split
  ·exact reach_ok n todo acc h1 h2
  ·rename_i hc
   split
   ·rename_i b hb
    refine reach_ok n _ _ ?_ ?_
    ·rw[List.nodup_append]
     refine⟨h1,by simp,fun a ha b hb=> ?_⟩
     simp at hb
     subst hb
     rintro rfl
     simp at hc
     exact hc ha
    ·intro i hi
     rcases List.mem_append.1 hi with hi|hi
     ·exact h2 i hi
     ·simp at hi
      subst hi
      exact(List.getElem?_eq_some_iff.1 hb).1
   ·exact reach_ok n todo acc h1 h2
theorem pos_get: ∀{L:List Nat} {i j:Nat},pos L i=some j→L[j]? = some i
 |[],i,j,h=>by simp[pos,List.idxOf?] at h
 |a::L,i,j,h=>by
  unfold pos List.idxOf? at h
  rw[List.findIdx?_cons] at h
  split at h
  ·rename_i he
   simp at h
   subst h
   simpa using he
  ·cases hx:List.findIdx? (fun x=>x==i) L with
   |none=>rw[hx] at h;simp at h
   |some k=>
    rw[hx] at h
    simp at h
    subst h
    have:=pos_get (L:=L) (i:=i) (j:=k) hx
    simpa using this
theorem putAt_length: ∀(σ:List Blk) (L:List Nat) (bs:List Blk),(putAt σ L bs).length=σ.length
 |σ,[],bs=>by cases bs<;>rfl
 |σ,i::L,[]=>rfl
 |σ,i::L,b::bs=>by simp only[putAt];rw[putAt_length];simp
theorem putAt_notin: ∀(σ:List Blk) (L:List Nat) (bs:List Blk) (i:Nat),i ∉ L→(putAt σ L bs)[i]? = σ[i]?
 |σ,[],bs,i,_=>by cases bs<;>rfl
 |σ,k::L,[],i,_=>rfl
 |σ,k::L,b::bs,i,h=>by
  simp only[List.mem_cons,not_or] at h
  simp only[putAt]
  rw[putAt_notin _ L bs i h.2,List.getElem?_set_ne (fun e=>h.1 e.symm)]
theorem putAt_in: ∀(σ:List Blk) (L:List Nat) (bs:List Blk) (i j:Nat) (b:Blk),L.Nodup→L[j]? = some i→bs[j]? = some b→i<σ.length→(putAt σ L bs)[i]? = some b
 |σ,[],bs,i,j,b,_,h,_,_=>by simp at h
 |σ,k::L,[],i,j,b,_,_,h,_=>by simp at h
 |σ,k::L,c::bs,i,0,b,hn,h1,h2,hi=>by
  simp at h1 h2
  subst h1;subst h2
  simp only[putAt]
  rw[putAt_notin _ L bs k (List.nodup_cons.1 hn).1,List.getElem?_set_self hi]
 |σ,k::L,c::bs,i,j+1,b,hn,h1,h2,hi=>by
  simp only[putAt]
  exact putAt_in _ L bs i j b (List.nodup_cons.1 hn).2 (by simpa using h1) (by simpa using h2) (by simpa using hi)
theorem merge_get{σ σ':List Blk}{L:List Nat}(hn:L.Nodup)(hlen:L.length≤σ'.length){i:Nat}{b:Blk}(h:(merge σ L σ')[i]? = some b):
  (i ∉ L∧σ[i]? = some b)∨(∃j b',backId σ.length L j=some i∧σ'[j]? = some b'∧b=mapIdsB (backId σ.length L) b'):=by
 unfold merge at h
 rcases Nat.lt_or_ge i σ.length with hi|hi
 ·rw[List.getElem?_append_left (by rw[putAt_length];exact hi)] at h
  by_cases hm:i ∈ L
  ·obtain⟨j,hj⟩:=List.getElem?_of_mem hm
   have hjl:=(List.getElem?_eq_some_iff.1 hj).1
   have hjs:j<σ'.length:=by omega
   have hb:((σ'.take L.length).map (mapIdsB (backId σ.length L)))[j]? = some (mapIdsB (backId σ.length L) σ'[j]):=by
    rw[List.getElem?_map,List.getElem?_take_of_lt hjl,List.getElem?_eq_getElem hjs];rfl
   rw[putAt_in σ L _ i j _ hn hj hb hi] at h
   cases h
   exact .inr ⟨j,_,by simp[backId,hj],List.getElem?_eq_getElem hjs,rfl⟩
  ·rw[putAt_notin _ _ _ _ hm] at h
   exact .inl ⟨hm,h⟩
 ·rw[List.getElem?_append_right (by rw[putAt_length];exact hi),putAt_length,List.getElem?_map,List.getElem?_drop] at h
  cases hb:σ'[L.length+(i-σ.length)]? with
  |none=>rw[hb] at h;simp at h
  |some b'=>
   rw[hb] at h
   simp at h
   refine .inr ⟨L.length+(i-σ.length),b',?_,hb,h.symm⟩
   simp only[backId]
   rw[List.getElem?_eq_none (by omega)]
   simp only[Option.some.injEq]
   omega
theorem merge_length{σ σ':List Blk}{L:List Nat}:(merge σ L σ').length=σ.length+(σ'.length-L.length):=by
 simp[merge,putAt_length]
theorem killAll_length: ∀(V:List Nat) (σ:List Blk),(killAll V σ).length=σ.length
 |[],_=>rfl
 |i::V,σ=>by simp[killAll,killAll_length V]
theorem killAll_live: ∀(V:List Nat) (σ:List Blk) {i:Nat} {b:Blk},(killAll V σ)[i]? = some b→b.live=true→σ[i]? = some b∧i ∉ V
 |[],_,_,_,h,_=>⟨h,by simp⟩
 |j::V,σ,i,b,h,hl=>by
  obtain⟨h1,h2⟩:=killAll_live V _ h hl
  by_cases hi:i=j
  ·subst hi
   have hil:=(List.getElem?_eq_some_iff.1 h1).1
   simp only[List.length_set] at hil
   rw[List.getElem?_set_self hil] at h1
   cases h1
   simp[Blk.live] at hl
  ·rw[List.getElem?_set_ne (fun e=>hi e.symm)] at h1
   exact⟨h1,by simp[hi,h2]⟩
def HasBody(P:Program)(f:FuncId):Prop:= ∃fn c,P.funcs[f]? = some fn∧fn.body=some c∧(fn.name == "runtime.NumGoroutine")=false
structure SpecOK(P:Program)(f:FuncId)(S:Spec):Prop where
 body:HasBody P f
 sound: ∀(args:List AV) (σ:List Blk) (K:AV→List Blk→Prop),S args σ K→
  ∀(F:Nat→Prop) (ρ:List (Nat × Nat)) (vals:List Value) (w:World),HeapOk F ρ σ w→(∀b,F b→b<w.heap.size∧¬LMut ρ σ b)→All2 (Den w (Mut F ρ σ) ρ) args vals→
  Calls P f vals.toArray w fun e w'=> ∃v a σ' ρ',e= .returned v∧K a σ'∧Inv F w (LMut ρ σ) ρ ρ' σ' w'∧Keep (Mut F ρ σ) (Mut F ρ' σ') w w'∧Den w' (Mut F ρ' σ') ρ' a v
section
variable {F F':Nat→Prop} {P:Program} {w:World} {ρ ρL:List (Nat × Nat)} {σ σL:List Blk} {f:Nat→Option Nat}
theorem viewS_sound(H:HeapOk F ρ σ w)(hf: ∀i j,f i=some j→ ∀g,ρ[i]? = some g→ρL[j]? = some g){m':Nat→Prop}(hm: ∀b,b<w.heap.size→m' b→Mut F ρ σ b){t:TypeId}{s s':SV}{u:Value}
  (hv: ∀id ∈ idsV σ s,∀g n,ρ[id]? = some (g,n)→¬m' g) (h:viewS P σ t s=some (true,s')) (hd:DenS w (Mut F ρ σ) ρ s u):DenS w m' ρL (mapIds f s') u:=by
 have row: ∀e (r:Row) (s:SV),(∀id ∈ idsV σ s,∀g n,ρ[id]? = some (g,n)→¬m' g)→(idsS s=idsV σ s)→viewRow P σ e s=some (true,r)→DenS w (Mut F ρ σ) ρ s u→DenS w m' ρL (mapIds f (.data r)) u:=by
  intro e r s hv he hr hd
  obtain⟨a,cap,h1,h2,h3,h4⟩:=viewRow_sound H hr hd
  refine⟨a,cap,h1,h2,h3,h4.imp_right ?_⟩
  rintro ⟨ad,h5,h6,h7,h8⟩
  refine⟨ad,h5,h7,fun hm'=> ?_,h6.keep (Keep.same hm)⟩
  obtain⟨id,n,hid,hρ⟩:=h8 (hm _ h7 hm')
  exact hv id (he ▸ hid) _ n hρ hm'
 have same: ∀s,DenS w (Mut F ρ σ) ρ s u→DenS w m' ρL (mapIds f s) u:=fun s hd=>DenS_re hf (.inr hm) hd
 unfold viewS at h
 split at h
 ·rename_i id wd e _
  cases hic:isCells σ id with
  |true=>
   rw[hic] at h
   simp at h
   subst h
   exact same _ hd
  |false=>
   rw[hic] at h
   dsimp only at h
   cases hr:viewRow P σ e (.own id wd) with
   |none=>rw[hr] at h;simp at h
   |some p=>
    obtain⟨c,r⟩:=p
    rw[hr] at h
    simp at h
    obtain⟨rfl,rfl⟩:=h
    exact row e r _ hv (by simp[idsS,idsV,hic]) hr hd
 ·rename_i e _
  cases hr:viewRow P σ e .nil with
  |none=>rw[hr] at h;simp at h
  |some p=>
   obtain⟨c,r⟩:=p
   rw[hr] at h
   simp at h
   obtain⟨rfl,rfl⟩:=h
   exact row e r _ hv rfl hr hd
 ·rename_i id wd i n e _
  cases hr:viewRow P σ e (.sub id wd i n) with
  |none=>rw[hr] at h;simp at h
  |some p=>
   obtain⟨c,r⟩:=p
   rw[hr] at h
   simp at h
   obtain⟨rfl,rfl⟩:=h
   exact row e r _ hv rfl hr hd
 ·simp at h
  subst h
  exact same _ hd
theorem viewSs_sound(H:HeapOk F ρ σ w)(hf: ∀i j,f i=some j→ ∀g,ρ[i]? = some g→ρL[j]? = some g){m':Nat→Prop}(hm: ∀b,b<w.heap.size→m' b→Mut F ρ σ b): ∀{ts:List TypeId} {l l':List SV} {vs:List Value},(∀id ∈ l.flatMap (idsV σ),∀g n,ρ[id]? = some (g,n)→¬m' g)→viewSs P σ ts l=some (true,l')→All2 (DenS w (Mut F ρ σ) ρ) l vs→All2 (DenS w m' ρL) (l'.map (mapIds f)) vs
 |[],[],l',vs,_,h,hl=>by
  simp only[viewSs,Option.some.injEq,Prod.mk.injEq,true_and] at h
  subst h
  cases vs with
  |nil=>trivial
  |cons a l=>exact hl.elim
 |[],_::_,l',vs,_,h,_=>by simp[viewSs] at h
 |_::_,[],l',vs,_,h,_=>by simp[viewSs] at h
 |t::ts,s::l,l',vs,hv,h,hl=>by
  cases vs with
  |nil=>exact hl.elim
  |cons u vs=>
   simp only[viewSs] at h
   split at h
   ·rename_i c v d k h1 h2
    simp only[Option.some.injEq,Prod.mk.injEq,Bool.and_eq_true] at h
    obtain⟨⟨rfl,rfl⟩,rfl⟩:=h
    exact⟨viewS_sound H hf hm (fun id hid=>hv id (by simp[hid])) h1 hl.1,viewSs_sound H hf hm (fun id hid=>hv id (by simp only[List.flatMap_cons,List.mem_append];exact .inr hid)) h2 hl.2⟩
   ·cases h
theorem viewA_sound(H:HeapOk F ρ σ w)(hf: ∀i j,f i=some j→ ∀g,ρ[i]? = some g→ρL[j]? = some g){m':Nat→Prop}(hm: ∀b,b<w.heap.size→m' b→Mut F ρ σ b){t:TypeId}{a a':AV}{u:Value}
  (hv: ∀id ∈ idsVA σ a,∀g n,ρ[id]? = some (g,n)→¬m' g) (h:viewA P σ t a=some (true,a')) (hd:Den w (Mut F ρ σ) ρ a u):Den w m' ρL (mapIdsA f a') u:=by
 unfold viewA at h
 split at h
 ·rename_i s
  cases hs:viewS P σ t s with
  |none=>rw[hs] at h;simp at h
  |some p=>
   obtain⟨c,v⟩:=p
   rw[hs] at h
   simp at h
   obtain⟨rfl,rfl⟩:=h
   exact viewS_sound H hf hm hv hs hd
 ·rename_i l
  split at h
  ·rename_i ts _
   cases hs:viewSs P σ ts l with
   |none=>rw[hs] at h;simp at h
   |some p=>
    obtain⟨c,v⟩:=p
    rw[hs] at h
    simp at h
    obtain⟨rfl,rfl⟩:=h
    obtain⟨vs,e,hl⟩:=hd
    exact⟨vs,e,viewSs_sound H hf hm hv hs hl⟩
  ·cases h
 ·simp at h
  subst h
  exact Den_re hf (.inr hm) hd
theorem viewAs_sound(H:HeapOk F ρ σ w)(hf: ∀i j,f i=some j→ ∀g,ρ[i]? = some g→ρL[j]? = some g){m':Nat→Prop}(hm: ∀b,b<w.heap.size→m' b→Mut F ρ σ b): ∀{ts:List TypeId} {l l':List AV} {vs:List Value},(∀id ∈ l.flatMap (idsVA σ),∀g n,ρ[id]? = some (g,n)→¬m' g)→viewAs P σ ts l=some (true,l')→All2 (Den w (Mut F ρ σ) ρ) l vs→All2 (Den w m' ρL) (l'.map (mapIdsA f)) vs
 |[],[],l',vs,_,h,hl=>by
  simp only[viewAs,Option.some.injEq,Prod.mk.injEq,true_and] at h
  subst h
  cases vs with
  |nil=>trivial
  |cons a l=>exact hl.elim
 |[],_::_,l',vs,_,h,_=>by simp[viewAs] at h
 |_::_,[],l',vs,_,h,_=>by simp[viewAs] at h
 |t::ts,s::l,l',vs,hv,h,hl=>by
  cases vs with
  |nil=>exact hl.elim
  |cons u vs=>
   simp only[viewAs] at h
   split at h
   ·rename_i c v d k h1 h2
    simp only[Option.some.injEq,Prod.mk.injEq,Bool.and_eq_true] at h
    obtain⟨⟨rfl,rfl⟩,rfl⟩:=h
    exact⟨viewA_sound H hf hm (fun id hid=>hv id (by simp[hid])) h1 hl.1,viewAs_sound H hf hm (fun id hid=>hv id (by simp only[List.flatMap_cons,List.mem_append];exact .inr hid)) h2 hl.2⟩
   ·cases h
end
section
variable {F:Nat→Prop} {E:Env} {w0 w:World} {m0:Nat→Prop} {ρ0 ρ:List (Nat × Nat)} {s:St}
theorem cond_pos{c:Bool}{p:Prop}(h:cond c p False):c=true∧p:=by cases c;exact h.elim;exact⟨rfl,h⟩
theorem evCall_sound(hS: ∀f S,E.specs f=some S→SpecOK E.P f S)(I:Inv F w0 m0 ρ0 ρ s.σ w){f:FuncId}{ts:List TypeId}{args cap:List AV}{vals vcap:List Value}{k:AV→List Blk→Prop}
  (h:evCall E s f ts args cap k) (ha:All2 (Den w (Mut F ρ s.σ) ρ) args vals) (hc:All2 (Den w (Mut F ρ s.σ) ρ) cap vcap):
  Calls E.P f (vals++vcap).toArray w fun e w'=> ∃v,e= .returned v∧Done F w0 m0 ρ0 ρ s.σ w (∃c args',viewAs E.P s.σ ts args=some (c,args')∧(lent s.σ (args'++cap)).isEmpty=true∧((args.flatMap (idsVA s.σ)).isEmpty=true∨resPl E f=true)) k v w':=by
 unfold evCall at h
 split at h
 case h_2=>exact h.elim
 rename_i S c args' hSf hview
 split at h
 case isFalse=>exact h.elim
 rename_i hV
 obtain⟨hct,h⟩:=cond_pos h
 subst hct
 generalize hLdef:lent s.σ (args'++cap)=L at *
 have hLok:L.Nodup∧ ∀i ∈ L,i<s.σ.length:=by
  rw[← hLdef]
  exact reach_ok 64 _ [] (by simp) (by simp)
 obtain⟨hnd,hLlt⟩:=hLok
 have hlen:=I.heap.len
 generalize hρL:(L.map fun i=>ρ.getD i (0,0))=ρL at *
 have hρLget: ∀(j i:Nat) (g:Nat × Nat),L[j]? = some i→(ρ[i]? = some g↔ρL[j]? = some g):=by
  intro j i g hj
  have hi:=hLlt i (List.mem_of_getElem? hj)
  rw[← hρL,List.getElem?_map,hj]
  simp only[Option.map_some,Option.some.injEq]
  rw[List.getElem?_eq_getElem (by omega)]
  simp[List.getD,List.getElem?_eq_getElem (show i<ρ.length by omega)]
 have hf: ∀i j,pos L i=some j→ ∀g,ρ[i]? = some g→ρL[j]? = some g:=fun i j hp g hg=>(hρLget j i g (pos_get hp)).1 hg
 have hσL: ∀(j:Nat) (b:Blk),(selB s.σ L)[j]? = some b→ ∃i b',L[j]? = some i∧s.σ[i]? = some b'∧b=mapIdsB (pos L) b':=by
  intro j b hb
  unfold selB at hb
  rw[List.getElem?_map] at hb
  cases hj:L[j]? with
  |none=>rw[hj] at hb;simp at hb
  |some i=>
   rw[hj] at hb
   simp at hb
   have hi:=hLlt i (List.mem_of_getElem? hj)
   refine⟨i,s.σ[i],rfl,List.getElem?_eq_getElem hi,?_⟩
   rw[← hb]
   simp[List.getElem?_eq_getElem hi]
 have lm': ∀b,LMut ρL (selB s.σ L) b→ ∃i b' n g,i ∈ L∧s.σ[i]? = some b'∧b'.live=true∧ρ[i]? = some (g,n)∧b'.owns g b:=by
  rintro b ⟨j,b1,n,g,h1,h2,h3,h6⟩
  obtain⟨i,b',h4,h5,rfl⟩:=hσL j b1 h1
  exact⟨i,b',n,g,List.mem_of_getElem? h4,h5,by rw[← (mapIdsB_count (f:=pos L) b').2];exact h2,(hρLget j i _ h4).2 h3,(mapIdsB_owns b').1 h6⟩
 have lm: ∀b,LMut ρL (selB s.σ L) b→LMut ρ s.σ b:=fun b hb=>by
  obtain⟨i,b',n,g,_,h1,h2,h3,h4⟩:=lm' b hb
  exact⟨i,b',n,g,h1,h2,h3,h4⟩
 generalize hVdef:args.flatMap (idsVA s.σ)=V at *
 have hVl: ∀id ∈ V,id ∉ L∧ ∃b,s.σ[id]? = some b∧b.live=true:=by
  intro id hid
  have:=List.all_eq_true.1 hV id hid
  simp only[Bool.and_eq_true,Bool.not_eq_true'] at this
  refine⟨by simpa using this.1,?_⟩
  unfold liveAt at this
  cases hb:s.σ[id]? with
  |none=>rw[hb] at this;simp at this
  |some b=>rw[hb] at this;exact⟨b,rfl,this.2⟩
 let F':Nat→Prop:=fun b=>Mut F ρ s.σ b∧b<w.heap.size∧¬LMut ρL (selB s.σ L) b∧¬∃id n,id ∈ V∧ρ[id]? = some (b,n)
 have hm: ∀b,b<w.heap.size→Mut F' ρL (selB s.σ L) b→Mut F ρ s.σ b:=by
  rintro b _ (h|h)
  ·exact h.1
  ·exact .inr (lm b h)
 have hv: ∀id ∈ V,∀g n,ρ[id]? = some (g,n)→¬Mut F' ρL (selB s.σ L) g:=by
  rintro id hid g n hg (h|h)
  ·exact h.2.2.2 ⟨id,n,hid,hg⟩
  ·obtain⟨hnL,b,hb,hbl⟩:=hVl id hid
   obtain⟨i,b',n',g',hi,h1,h2,h3,h4⟩:=lm' g h
   exact hnL ((I.heap.inj' id i b b' g g' n n' g hb h1 hbl h2 hg h3 (b.owns_self g) h4) ▸ hi)
 have HL:HeapOk F' ρL (selB s.σ L) w:=by
  refine⟨by simp[← hρL,selB],?_,?_,?_,I.heap.glob.keep (Keep.same hm)⟩
  ·intro j b g n hb hg hl
   obtain⟨i,b',h4,h5,rfl⟩:=hσL j b hb
   have hl':b'.live=true:=by rw[← (mapIdsB_count (f:=pos L) b').2];exact hl
   obtain⟨h6,h7,h8⟩:=I.heap.live i b' g n h5 ((hρLget j i _ h4).2 hg) hl'
   exact⟨DenBlk_re hf (.inr hm) h6,by rw[(mapIdsB_count b').1,h7],h8⟩
  ·intro j b g n k hb hg hl hk
   obtain⟨i,b',h4,h5,rfl⟩:=hσL j b hb
   have hl':b'.live=true:=by rw[← (mapIdsB_count (f:=pos L) b').2];exact hl
   exact I.heap.lt i b' g n k h5 ((hρLget j i _ h4).2 hg) hl' ((mapIdsB_owns b').1 hk)
  ·intro j j' b b' g g' n n' k hb hb' hl hl' hg hg' hk hk'
   obtain⟨i,c,h4,h5,rfl⟩:=hσL j b hb
   obtain⟨i',c',h4',h5',rfl⟩:=hσL j' b' hb'
   have e:=I.heap.inj' i i' c c' g g' n n' k h5 h5' (by rw[← (mapIdsB_count (f:=pos L) c).2];exact hl) (by rw[← (mapIdsB_count (f:=pos L) c').2];exact hl') ((hρLget j i _ h4).2 hg) ((hρLget j' i' _ h4').2 hg') ((mapIdsB_owns c).1 hk) ((mapIdsB_owns c').1 hk')
   subst e
   have hjl:=(List.getElem?_eq_some_iff.1 h4).1
   exact(List.getElem?_inj hjl hnd).1 (h4.trans h4'.symm)
 have hA:All2 (Den w (Mut F' ρL (selB s.σ L)) ρL) ((args'++cap).map (mapIdsA (pos L))) (vals++vcap):=by
  rw[List.map_append]
  refine(viewAs_sound I.heap hf hm (by rw[hVdef];exact hv) hview ha).append ?_
  exact hc.map_left fun a u hd=>Den_re hf (.inr hm) hd
 refine((hS f S hSf).sound _ _ _ h F' ρL _ w HL (fun b hb=>⟨hb.2.1,hb.2.2.1⟩) hA).mono ?_
 rintro e w' ⟨v,a,σ',ρ',rfl,hk,I',K1,hd⟩
 refine⟨v,rfl,?_⟩
 obtain⟨σ2,hσ2,hk2⟩: ∃σ2,((σ2=merge s.σ L σ'∧(V.isEmpty=true∨(plainA a=true∧σ'.all plainB=true)))∨((L.isEmpty&&resPl E f)=false∧V.isEmpty=false∧σ2=killAll V (merge s.σ L σ')))∧k (mapIdsA (backId s.σ.length L) a) σ2:=by
  split at hk
  ·rename_i hc
   exact⟨_,.inl ⟨rfl,by simpa only[Bool.or_eq_true,Bool.and_eq_true] using hc⟩,hk⟩
  ·split at hk
   ·exact hk.elim
   ·rename_i hn hc
    simp only[Bool.or_eq_true,not_or,Bool.not_eq_true] at hn
    exact⟨_,.inr ⟨by simpa only[Bool.not_eq_true] using hc,hn.1,rfl⟩,hk⟩
 clear hk
 have h2len:σ2.length=(merge s.σ L σ').length:=by
  rcases hσ2 with⟨rfl,_⟩|⟨_,_,rfl⟩
  ·rfl
  ·exact killAll_length _ _
 have h2get: ∀(i:Nat) (b:Blk),σ2[i]? = some b→b.live=true→(merge s.σ L σ')[i]? = some b∧(i ∉ V∨(V.isEmpty=true∨(plainA a=true∧σ'.all plainB=true))):=by
  intro i b h1 h2
  rcases hσ2 with⟨rfl,h⟩|⟨_,_,rfl⟩
  ·exact⟨h1,.inr h⟩
  ·obtain⟨h3,h4⟩:=killAll_live _ _ h1 h2
   exact⟨h3,.inl h4⟩
 obtain⟨r,hpre⟩:=I'.pre
 have hLl:ρL.length=L.length:=by simp[← hρL]
 have hσ'l:σ'.length=L.length+r.length:=by rw[← I'.heap.len,hpre,List.length_append,hLl]
 have hb: ∀j i,backId s.σ.length L j=some i→ ∀g,ρ'[j]? = some g→(ρ++r)[i]? = some g:=by
  intro j i hji g hg
  unfold backId at hji
  split at hji
  ·rename_i i' hj
   simp only[Option.some.injEq] at hji
   subst hji
   have hjl:=(List.getElem?_eq_some_iff.1 hj).1
   rw[hpre,List.getElem?_append_left (by omega)] at hg
   exact getElem?_append_some ((hρLget j i' g hj).2 hg)
  ·rename_i hj
   simp only[Option.some.injEq] at hji
   have hjl:L.length≤j:=by
    rcases Nat.lt_or_ge j L.length with h|h
    ·rw[List.getElem?_eq_getElem h] at hj;cases hj
    ·exact h
   rw[hpre,List.getElem?_append_right (by omega),hLl] at hg
   rw[List.getElem?_append_right (by omega),← hg]
   congr 1
   omega
 have hmg: ∀(i:Nat) (b:Blk) (g n:Nat),σ2[i]? = some b→b.live=true→(ρ++r)[i]? = some (g,n)→
   (i ∉ L∧s.σ[i]? = some b∧ρ[i]? = some (g,n)∧(i ∉ V∨(V.isEmpty=true∨(plainA a=true∧σ'.all plainB=true))))∨(∃j b',backId s.σ.length L j=some i∧σ'[j]? = some b'∧b=mapIdsB (backId s.σ.length L) b'∧b'.live=true∧ρ'[j]? = some (g,n)):=by
  intro i b g n h1 h2 h3
  obtain⟨h1,hx⟩:=h2get i b h1 h2
  rcases merge_get hnd (by omega) h1 with⟨h4,h5⟩|⟨j,b',h4,h5,h6⟩
  ·refine .inl ⟨h4,h5,?_,hx⟩
   have:=(List.getElem?_eq_some_iff.1 h5).1
   rwa [List.getElem?_append_left (by omega)] at h3
  ·refine .inr ⟨j,b',h4,h5,h6,by rw[h6] at h2;rw[← (mapIdsB_count (f:=backId s.σ.length L) b').2];exact h2,?_⟩
   have hjl:j<ρ'.length:=by rw[I'.heap.len];exact(List.getElem?_eq_some_iff.1 h5).1
   have:=hb j i h4 _ (List.getElem?_eq_getElem hjl)
   rw[h3] at this
   simp only[Option.some.injEq] at this
   rw[List.getElem?_eq_getElem hjl,this]
 have hLM: ∀k,LMut (ρ++r) σ2 k→(∃i b n g,i ∉ L∧s.σ[i]? = some b∧b.live=true∧ρ[i]? = some (g,n)∧b.owns g k∧(i ∉ V∨(V.isEmpty=true∨(plainA a=true∧σ'.all plainB=true))))∨LMut ρ' σ' k:=by
  rintro k ⟨i,b,n,g,h1,h2,h3,ho⟩
  rcases hmg i b g n h1 h2 h3 with⟨h4,h5,h6,hx⟩|⟨j,b',h4,h5,h6,h7,h8⟩
  ·exact .inl ⟨i,b,n,g,h4,h5,h2,h6,ho,hx⟩
  ·subst h6
   exact .inr ⟨j,b',n,g,h5,h7,h8,(mapIdsB_owns b').1 ho⟩
 have hold: ∀(i:Nat) (b:Blk) (g n k:Nat),i ∉ L→s.σ[i]? = some b→b.live=true→ρ[i]? = some (g,n)→b.owns g k→k<w.heap.size∧¬LMut ρL (selB s.σ L) k:=by
  intro i b g n k h1 h2 h3 h4 ho
  refine⟨I.heap.lt i b g n k h2 h4 h3 ho,fun hl=> ?_⟩
  obtain⟨i',b',n',g',h5,h6,h7,h8,h9⟩:=lm' k hl
  exact h1 ((I.heap.inj' i i' b b' g g' n n' k h2 h6 h3 h7 h4 h8 ho h9) ▸ h5)
 have K:Keep (Mut F ρ s.σ) (Mut F (ρ++r) σ2) w w':=by
  refine⟨I'.size,fun b hb hm=>I'.blk b hb fun hl=>hm (.inr (lm b hl)),?_,I'.shape⟩
  rintro b hb (h|h)
  ·exact .inl h
  ·rcases hLM b h with⟨i,c,n,g,h1,h2,h3,h4,h5,_⟩|h
   ·exact .inr ⟨i,c,n,g,h2,h3,h4,h5⟩
   ·rcases I'.fresh b h with h|h
    ·omega
    ·exact .inr (lm b h)
 have hre:¬(plainA a=true∧σ'.all plainB=true)→ ∀b,b<w'.heap.size→Mut F (ρ++r) σ2 b→Mut F' ρ' σ' b:=by
  intro hnp b _ hb
  rcases hb with h|h
  ·have h1:=I.foreign b h
   refine .inl ⟨.inl h,h1,fun hl=>I.apart b (lm b hl) h,?_⟩
   rintro ⟨id,n,hid,hr⟩
   obtain⟨_,c,hc,hcl⟩:=hVl id hid
   exact I.apart b (.solid hc hcl hr) h
  ·rcases hLM b h with⟨i,c,n,g,h1,h2,h3,h4,h5,hx⟩|h
   ·obtain⟨h6,h7⟩:=hold i c g n b h1 h2 h3 h4 h5
    refine .inl ⟨.inr ⟨i,c,n,g,h2,h3,h4,h5⟩,h6,h7,?_⟩
    rintro ⟨id,n',hid,hr⟩
    obtain⟨_,c',hc,hcl⟩:=hVl id hid
    have e:=I.heap.inj' i id c c' g b n n' b h2 hc h3 hcl h4 hr h5 (c'.owns_self b)
    subst e
    rcases hx with hx|hx|hx
    ·exact hx hid
    ·rw[List.isEmpty_iff] at hx
     rw[hx] at hid
     simp at hid
    ·exact hnp hx
   ·exact .inr h
 have hreA:plainA a=true∨ ∀b,b<w'.heap.size→Mut F (ρ++r) σ2 b→Mut F' ρ' σ' b:=by
  by_cases hp:plainA a=true∧σ'.all plainB=true
  ·exact .inl hp.1
  ·exact .inr (hre hp)
 have hreB: ∀b' ∈ σ',plainB b'=true∨ ∀b,b<w'.heap.size→Mut F (ρ++r) σ2 b→Mut F' ρ' σ' b:=fun b' hb'=>by
  by_cases hp:plainA a=true∧σ'.all plainB=true
  ·exact .inl (List.all_eq_true.1 hp.2 b' hb')
  ·exact .inr (hre hp)
 refine⟨_,_,ρ++r,hk2,?_,⟨r,rfl⟩,K,Den_re hb hreA hd,?_⟩
 case refine_2=>
  rintro ⟨c2,args2,h1,h2,h3⟩
  rw[hview] at h1
  simp only[Option.some.injEq,Prod.mk.injEq] at h1
  obtain⟨_,rfl⟩:=h1
  rw[hLdef,List.isEmpty_iff] at h2
  rcases hσ2 with⟨rfl,_⟩|⟨hne,hne2,_⟩
  ·refine⟨⟨_,by rw[h2];rfl⟩,fun b hb=>I'.blk b hb fun hl=> ?_⟩
   obtain⟨i,_,_,_,hi,_⟩:=lm' b hl
   rw[h2] at hi
   simp at hi
  ·rw[h2] at hne
   rcases h3 with h3|h3
   ·rw[hne2] at h3;cases h3
   ·rw[h3] at hne
    simp at hne
 refine⟨⟨by rw[h2len,merge_length,List.length_append];omega,?_,?_,?_,I.heap.glob.keep K⟩,?_,I'.os.trans I.os,I'.tape.trans I.tape,I'.output.trans I.output,Nat.le_trans I.size I'.size,?_,?_,?_,fun b hb=>Nat.lt_of_lt_of_le (I.foreign b hb) I'.size,?_⟩
 ·intro i b g n h1 h2 h3
  rcases hmg i b g n h1 h3 h2 with⟨h4,h5,h6,_⟩|⟨j,b',h4,h5,h6,h7,h8⟩
  ·obtain⟨h11,h12,h13⟩:=I.heap.live i b g n h5 h6 h3
   exact⟨h11.keep K (fun _ _ h=>getElem?_append_some h) (fun k hk=>by
    obtain⟨h9,h10⟩:=hold i b g n k h4 h5 h3 h6 hk
    exact I'.blk k h9 h10),h12,Nat.lt_of_lt_of_le h13 I'.size⟩
  ·obtain⟨h11,h12,h13⟩:=I'.heap.live j b' g n h5 h8 h7
   subst h6
   exact⟨DenBlk_re hb (hreB b' (List.mem_of_getElem? h5)) h11,by rw[(mapIdsB_count b').1,h12],h13⟩
 ·intro i b g n k h1 h2 h3 hk
  rcases hmg i b g n h1 h3 h2 with⟨h4,h5,h6,_⟩|⟨j,b',h4,h5,h6,h7,h8⟩
  ·exact Nat.lt_of_lt_of_le (I.heap.lt i b g n k h5 h6 h3 hk) I'.size
  ·subst h6
   exact I'.heap.lt j b' g n k h5 h8 h7 ((mapIdsB_owns b').1 hk)
 ·intro i i' b b' g g' n n' k h1 h1' h2 h2' h3 h3' hk hk'
  rcases hmg i b g n h1 h2 h3 with⟨h4,h5,h6,_⟩|⟨j,c,h4,h5,h6,h7,h8⟩<;>rcases hmg i' b' g' n' h1' h2' h3' with⟨h4',h5',h6',_⟩|⟨j',c',h4',h5',h6',h7',h8'⟩
  ·exact I.heap.inj' i i' b b' g g' n n' k h5 h5' h2 h2' h6 h6' hk hk'
  ·exfalso
   subst h6'
   obtain⟨h9,h10⟩:=hold i b g n k h4 h5 h2 h6 hk
   rcases I'.fresh k ⟨j',c',n',g',h5',h7',h8',(mapIdsB_owns c').1 hk'⟩ with h|h
   ·omega
   ·exact h10 h
  ·exfalso
   subst h6
   obtain⟨h9,h10⟩:=hold i' b' g' n' k h4' h5' h2' h6' hk'
   rcases I'.fresh k ⟨j,c,n,g,h5,h7,h8,(mapIdsB_owns c).1 hk⟩ with h|h
   ·omega
   ·exact h10 h
  ·subst h6;subst h6'
   have e:=I'.heap.inj' j j' c c' g g' n n' k h5 h5' h7 h7' h8 h8' ((mapIdsB_owns c).1 hk) ((mapIdsB_owns c').1 hk')
   subst e
   rw[h4] at h4'
   exact Option.some.inj h4'
 ·obtain⟨r0,hr0⟩:=I.pre
  exact⟨r0++r,by rw[hr0,List.append_assoc]⟩
 ·intro b hb hm
  rw[I'.blk b (Nat.lt_of_lt_of_le hb I.size),I.blk b hb hm]
  intro hl
  rcases I.fresh b (lm b hl) with h|h
  ·omega
  ·exact hm h
 ·intro b hb
  rw[I'.shape b (Nat.lt_of_lt_of_le hb I.size),I.shape b hb]
 ·intro k hg
  rcases hLM k hg with⟨i,c,n,g,h1,h2,h3,h4,h5,_⟩|h
  ·exact I.fresh k ⟨i,c,n,g,h2,h3,h4,h5⟩
  ·rcases I'.fresh k h with h|h
   ·exact .inl (Nat.le_trans I.size h)
   ·exact I.fresh k (lm k h)
 ·intro k hg hF
  rcases hLM k hg with⟨i,c,n,g,h1,h2,h3,h4,h5,_⟩|h
  ·exact I.apart k ⟨i,c,n,g,h2,h3,h4,h5⟩ hF
  ·rcases I'.fresh k h with h|h
   ·have:=I.foreign k hF
    omega
   ·exact I.apart k (lm k h) hF
end
end Go.Ev
namespace Go.Ev
open Go Go.RowKit
variable [Glob]
theorem mapIds_none{s:SV}(f:Nat→Option Nat)(h:idsS s=[]):mapIds f s=s:=by
 cases s<;>simp_all [idsS,mapIds,mapOpt]
theorem mapIds_nones(f:Nat→Option Nat): ∀{l:List SV},l.flatMap idsS=[]→l.map (mapIds f)=l
 |[],_=>rfl
 |s::l,h=>by
  simp only[List.flatMap_cons,List.append_eq_nil_iff] at h
  rw[List.map_cons,mapIds_none f h.1,mapIds_nones f h.2]
theorem mapIdsT_none{s:TV}(f:Nat→Option Nat)(h:idsT s=[]):mapIdsT f s=s:=by
 cases s with
 |one s=>simp only[mapIdsT,mapIds_none f (show idsS s=[] from h)]
 |agg l=>simp only[mapIdsT,mapIds_nones f (show l.flatMap idsS=[] from h)]
theorem mapIdsT_nones(f:Nat→Option Nat): ∀{l:List TV},l.flatMap idsT=[]→l.map (mapIdsT f)=l
 |[],_=>rfl
 |s::l,h=>by
  simp only[List.flatMap_cons,List.append_eq_nil_iff] at h
  rw[List.map_cons,mapIdsT_none f h.1,mapIdsT_nones f h.2]
theorem mapIdsA_none{a:AV}(f:Nat→Option Nat)(h:idsA a=[]):mapIdsA f a=a:=by
 cases a with
 |any=>rfl
 |one s=>simp only[mapIdsA,mapIds_none f (show idsS s=[] from h)]
 |agg l=>simp only[mapIdsA,mapIds_nones f (show l.flatMap idsS=[] from h)]
 |tup l=>simp only[mapIdsA,mapIdsT_nones f (show l.flatMap idsT=[] from h)]
theorem mapIdsA_nones(f:Nat→Option Nat): ∀{l:List AV},l.flatMap idsA=[]→l.map (mapIdsA f)=l
 |[],_=>rfl
 |s::l,h=>by
  simp only[List.flatMap_cons,List.append_eq_nil_iff] at h
  rw[List.map_cons,mapIdsA_none f h.1,mapIdsA_nones f h.2]
theorem killAll_other: ∀(V:List Nat) (σ:List Blk) {i:Nat},i ∉ V→(killAll V σ)[i]? = σ[i]?
 |[],_,_,_=>rfl
 |j::V,σ,i,h=>by
  simp only[List.mem_cons,not_or] at h
  simp only[killAll]
  rw[killAll_other V _ h.2,List.getElem?_set_ne (fun e=>h.1 e.symm)]
theorem solidAt_get{σ:List Blk}{i:Nat}(h:solidAt σ i=true): ∃b,σ[i]? = some b∧b.live=true∧b.solid:=by
 unfold solidAt at h
 split at h
 ·rename_i l hl;exact⟨_,hl,rfl,trivial⟩
 ·rename_i t r hl;exact⟨_,hl,rfl,trivial⟩
 ·cases h
section
variable {F:Nat→Prop} {E:Env} {w0 w:World} {m0:Nat→Prop} {ρ0 ρ:List (Nat × Nat)} {s:St}
theorem evYield_sound(I:Inv F w0 m0 ρ0 ρ s.σ w){id:Nat}{ts:List TypeId}{args:List AV}{vals:List Value}{k:AV→List Blk→Prop}(h:evYield E s id ts args k)(ha:All2 (Den w (Mut F ρ s.σ) ρ) args vals)
  {g x:Nat} (hg:ρ[id]? = some (g,x)):
  ∃fn tmps assign body,(Instr.yield g vals.toArray).run E.P w= .ok (.round g fn tmps assign body) w∧ ∀n,RoundIn Fence.wide n E.P g fn tmps assign body w fun e w'=> ∃v,e= .returned v∧Done F w0 m0 ρ0 ρ s.σ w False k v w':=by
 unfold evYield at h
 split at h
 case h_2=>exact h.elim
 rename_i P J D L c args' hσ hview
 split at h
 case isFalse=>exact h.elim
 rename_i hV
 obtain⟨rfl,rfl,hL,hk⟩:=cond_pos h
 clear h
 simp only[Bool.and_eq_true,List.isEmpty_iff] at hV
 obtain⟨hids,hV⟩:=hV
 generalize hVdef:args.flatMap (idsVA s.σ)=V at *
 have hVs: ∀i ∈ V,∃b,s.σ[i]? = some b∧b.live=true∧b.solid:=fun i hi=>solidAt_get (List.all_eq_true.1 hV i hi)
 have hidV:id ∉ V:=fun hi=>by
  obtain⟨b,h1,_,h2⟩:=hVs id hi
  rw[hσ] at h1
  cases h1
  exact h2
 obtain⟨⟨hJ,hpro⟩,hcnt,hglt⟩:=I.heap.live id _ g x hσ hg rfl
 generalize hσ1:killAll V s.σ=σ1 at *
 have h1len:σ1.length=s.σ.length:=by rw[← hσ1];exact killAll_length _ _
 have h1get: ∀(i:Nat) (b:Blk),σ1[i]? = some b→b.live=true→s.σ[i]? = some b∧i ∉ V:=fun i b h1 h2=>by
  rw[← hσ1] at h1
  exact killAll_live _ _ h1 h2
 have h1id:σ1[id]? = some (.ghost E.P J D (some L)):=by rw[← hσ1,killAll_other _ _ hidV,hσ]
 have h1LM: ∀k,LMut ρ σ1 k→LMut ρ s.σ k:=by
  rintro k ⟨i,b,n,g',h1,h2,h3,h4⟩
  exact⟨i,b,n,g',(h1get i b h1 h2).1,h2,h3,h4⟩
 have h1M: ∀k,Mut F ρ σ1 k→Mut F ρ s.σ k:=fun k hk=>hk.imp_right (h1LM k)
 have hMlt: ∀k,Mut F ρ σ1 k→k<w.heap.size:=by
  rintro k (h|⟨i,b,n,g',h1,h2,h3,h4⟩)
  ·exact I.foreign k h
  ·exact I.heap.lt i b g' n k (h1get i b h1 h2).1 h3 h2 h4
 have hown: ∀k,k=g∨D k→LMut ρ σ1 k:=fun k hk=>⟨id,_,x,g,h1id,rfl,hg,hk⟩
 have hA:All2 (Den w (Mut F ρ σ1) []) args' vals:=by
  have:=viewAs_sound (f:=fun _=>none) (ρL:=[]) I.heap (fun _ _ h=>by cases h) (m':=Mut F ρ σ1) (fun b _ hb=>h1M b hb) (ts:=ts) (l:=args) (l':=args') (vs:=vals) (by
   rw[hVdef]
   rintro i hi g' n hr (h|⟨j,b,n',g2,h1,h2,h3,h4⟩)
   ·obtain⟨b,hb,hbl,_⟩:=hVs i hi
    exact I.apart g' (.solid hb hbl hr) h
   ·obtain⟨b',hb,hbl,_⟩:=hVs i hi
    obtain⟨h5,h6⟩:=h1get j b h1 h2
    exact h6 ((I.heap.inj' i j b' b g' g2 n n' g' hb h5 hbl h2 hr h3 (b'.owns_self g') h4) ▸ hi)) hview ha
  rwa [mapIdsA_nones _ hids] at this
 have hJ1:J (Mut F ρ σ1) D (some (args'::L.tail)) w:=by
  rw[← hL]
  exact hpro.keep _ _ _ _ w w hJ (Keep.same fun b _ hb=>h1M b hb) fun _ _=>rfl
 obtain⟨fn,tmps,assign,body,hrun,hround⟩:=hpro.round (Mut F ρ σ1) D args' L.tail w vals hJ1 hMlt (fun k hk=> .inr (hown k hk)) hA
 refine⟨fn,tmps,assign,body,hrun,fun n=>(hround n).mono ?_⟩
 rintro e w' ⟨c,D',rfl,hJ',hD',hsz,hblk,hsh,hos,ht,ho⟩
 refine⟨_,rfl,.one (.bool c),σ1.set id (.ghost E.P J D' (if c then some L.tail else none)),ρ,?_,?_,⟨[],by simp⟩,?_,rfl,False.elim⟩
 ·cases c
  ·exact(hk D').2
  ·exact(hk D').1
 all_goals
  have hidl:id<σ1.length:=(List.getElem?_eq_some_iff.1 h1id).1
  have hset: ∀(i:Nat) (b:Blk),(σ1.set id (.ghost E.P J D' (if c then some L.tail else none)))[i]? = some b→(i=id∧b= .ghost E.P J D' (if c then some L.tail else none))∨(i≠id∧σ1[i]? = some b):=by
   intro i b h
   by_cases hi:i=id
   ·subst hi
    rw[List.getElem?_set_self hidl] at h
    cases h
    exact .inl ⟨rfl,rfl⟩
   ·rw[List.getElem?_set_ne (fun e=>hi e.symm)] at h
    exact .inr ⟨hi,h⟩
  have hLM: ∀k,LMut ρ (σ1.set id (.ghost E.P J D' (if c then some L.tail else none))) k→(LMut ρ σ1 k∧¬(k=g∨D k))∨k=g∨D' k:=by
   rintro k ⟨i,b,n,g',h1,h2,h3,h4⟩
   rcases hset i b h1 with⟨rfl,rfl⟩|⟨hi,h1⟩
   ·rw[hg] at h3;cases h3
    exact .inr h4
   ·refine .inl ⟨⟨i,b,n,g',h1,h2,h3,h4⟩,fun hk=> ?_⟩
    exact hi (I.heap.inj' i id b _ g' g n x k (h1get i b h1 h2).1 hσ h2 rfl h3 hg h4 hk)
  have hLM2: ∀k,LMut ρ (σ1.set id (.ghost E.P J D' (if c then some L.tail else none))) k→LMut ρ σ1 k∨w.heap.size≤k:=by
   intro k hk
   rcases hLM k hk with⟨h,_⟩|rfl|h
   ·exact .inl h
   ·exact .inl (hown _ (.inl rfl))
   ·rcases Nat.lt_or_ge k w.heap.size with hlt|hge
    ·exact .inl (hown _ (.inr ((hD' k h).1 hlt)))
    ·exact .inr hge
  have K:Keep (Mut F ρ s.σ) (Mut F ρ (σ1.set id (.ghost E.P J D' (if c then some L.tail else none)))) w w':=by
   refine⟨hsz,fun b hb hm=>hblk b hb fun hk=>hm (.inr (h1LM b (hown b hk))),?_,hsh⟩
   rintro b hb (h|h)
   ·exact .inl h
   ·rcases hLM2 b h with h|h
    ·exact .inr (h1LM b h)
    ·omega
 ·refine⟨⟨by rw[List.length_set,h1len,I.heap.len],?_,?_,?_,I.heap.glob.keep K⟩,I.pre,hos.trans I.os,ht.trans I.tape,ho.trans I.output,Nat.le_trans I.size hsz,?_,?_,?_,fun b hb=>Nat.lt_of_lt_of_le (I.foreign b hb) hsz,?_⟩
  ·intro i b g' n h1 h3 h2
   rcases hset i b h1 with⟨rfl,rfl⟩|⟨hi,h1⟩
   ·rw[hg] at h3;cases h3
    refine⟨⟨hpro.keep _ _ _ _ w' w' hJ' (Keep.same ?_) fun _ _=>rfl,hpro⟩,hcnt,by omega⟩
    rintro b _ (h|h)
    ·refine .inl ⟨.inl h,fun hk=>I.apart b (h1LM b (hown b hk)) h⟩
    ·exact(hLM b h).imp_left fun h=>⟨.inr h.1,h.2⟩
   ·obtain⟨h5,_⟩:=h1get i b h1 h2
    obtain⟨h6,h7,h8⟩:=I.heap.live i b g' n h5 h3 h2
    refine⟨h6.keep K (fun _ _ h=>h) fun k hk=>hblk k (I.heap.lt i b g' n k h5 h3 h2 hk) fun hk'=> ?_,h7,by omega⟩
    exact hi (I.heap.inj' i id b _ g' g n x k h5 hσ h2 rfl h3 hg hk hk')
  ·intro i b g' n k h1 h3 h2 hk
   rcases hset i b h1 with⟨rfl,rfl⟩|⟨hi,h1⟩
   ·rw[hg] at h3;cases h3
    rcases hk with rfl|hk
    ·omega
    ·exact(hD' k hk).2
   ·have:=I.heap.lt i b g' n k (h1get i b h1 h2).1 h3 h2 hk
    omega
  ·intro i j bi bj g1 g2 n n' k hi hj hli hlj hri hrj hki hkj
   have one: ∀(i:Nat) (b:Blk) (g' n:Nat),i≠id→σ1[i]? = some b→b.live=true→ρ[i]? = some (g',n)→b.owns g' k→(k=g∨D' k)→False:=by
    intro i b g' n hne h1 h2 h3 h4 h5
    obtain⟨h6,_⟩:=h1get i b h1 h2
    have hlt:=I.heap.lt i b g' n k h6 h3 h2 h4
    exact hne (I.heap.inj' i id b _ g' g n x k h6 hσ h2 rfl h3 hg h4 (h5.imp_right fun h=>(hD' k h).1 hlt))
   rcases hset i bi hi with⟨rfl,rfl⟩|⟨hnei,hi'⟩<;>rcases hset j bj hj with⟨rfl,rfl⟩|⟨hnej,hj'⟩
   ·rfl
   ·rw[hg] at hri;cases hri
    exact(one j bj g2 n' hnej hj' hlj hrj hkj hki).elim
   ·rw[hg] at hrj;cases hrj
    exact(one i bi g1 n hnei hi' hli hri hki hkj).elim
   ·exact I.heap.inj' i j bi bj g1 g2 n n' k (h1get i bi hi' hli).1 (h1get j bj hj' hlj).1 hli hlj hri hrj hki hkj
  ·intro b hb hm
   rw[hblk b (Nat.lt_of_lt_of_le hb I.size),I.blk b hb hm]
   intro hk
   rcases I.fresh b (h1LM b (hown b hk)) with h|h
   ·omega
   ·exact hm h
  ·intro b hb
   rw[hsh b (Nat.lt_of_lt_of_le hb I.size),I.shape b hb]
  ·intro k hk
   rcases hLM2 k hk with h|h
   ·exact I.fresh k (h1LM k h)
   ·exact .inl (Nat.le_trans I.size h)
  ·intro k hk hF
   rcases hLM2 k hk with h|h
   ·exact I.apart k (h1LM k h) hF
   ·have:=I.foreign k hF
    omega
 ·exact K
end
end Go.Ev
