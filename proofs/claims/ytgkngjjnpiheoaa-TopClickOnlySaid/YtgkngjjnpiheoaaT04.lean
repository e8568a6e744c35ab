/-
  Part of the proof that TopClickOnly holds.
-/
import Derived.Test.YtgkngjjnpiheoaaT03
import Derived.Laws.CopyRow
import Derived.Laws.Tables
import Derived.Laws.Append
set_option linter.unusedVariables false
set_option linter.unusedSimpArgs false
set_option linter.unusedSectionVars false
namespace Go.Ev
open Go Go.RowKit
variable [Glob]
structure Inv(F:Nat→Prop)(w0:World)(m0:Nat→Prop)(ρ0 ρ:List (Nat × Nat))(σ:List Blk)(w:World):Prop where
 heap:HeapOk F ρ σ w
 pre: ∃r,ρ=ρ0++r
 os:w.os=w0.os
 tape:w.tape=w0.tape
 output:w.output=w0.output
 size:w0.heap.size≤w.heap.size
 blk: ∀b,b<w0.heap.size→¬m0 b→w.heap[b]? = w0.heap[b]?
 shape: ∀b,b<w0.heap.size→w.shape? b=w0.shape? b
 fresh: ∀g,LMut ρ σ g→w0.heap.size≤g∨m0 g
 foreign: ∀b,F b→b<w.heap.size
 apart: ∀g,LMut ρ σ g→¬F g
theorem newBlk_solid(P:Program)(t:TypeId)(l:List SV):(newBlk P t l).solid:=by
 unfold newBlk
 repeat' split
 all_goals trivial
theorem rowOf_solid{P:Program}{e:TypeId}{els:List (List SV)}{cel:Bool}{b:Blk}(h:rowOf P e els cel=some b):b.solid:=by
 unfold rowOf at h
 split at h
 ·cases h;trivial
 split at h
 ·cases hx:asInts _ els.flatten<;>rw[hx] at h<;>cases h;trivial
 ·split at h
  ·cases hx:mapOpt (asInts _) els<;>rw[hx] at h<;>cases h;trivial
  ·cases h
 ·split at h
  ·cases hx:mapOpt (toDs _) els<;>rw[hx] at h<;>cases h;trivial
  ·cases h
 ·cases h;trivial
theorem setN_solid{P:Program}{b b':Blk}{wd i c:Nat}{l:List SV}{h:Bool}(hs:b.setN P wd i c l=some (h,b')):b.solid∧b'.solid:=by
 refine⟨?_,?_⟩
 ·cases b with
  |ghost=>simp[Blk.setN] at hs
  |iter=>simp[Blk.setN] at hs
  |_=>trivial
 ·unfold Blk.setN at hs
  repeat' split at hs
  all_goals first|(cases hs;done)|(simp only[Option.some.injEq,Prod.mk.injEq] at hs;obtain⟨_,rfl⟩:=hs;trivial)
theorem copyTo_solid{b b':Blk}{wd i n:Nat}{k:IntKind}{ys:List Int}{h:Bool}(hs:b.copyTo wd i n k ys=some (h,b')):b.solid∧b'.solid:=by
 refine⟨?_,?_⟩
 ·cases b with
  |ghost=>simp[Blk.copyTo] at hs
  |iter=>simp[Blk.copyTo] at hs
  |_=>trivial
 ·unfold Blk.copyTo at hs
  split at hs
  ·split at hs
   ·simp only[Option.some.injEq,Prod.mk.injEq] at hs;obtain⟨_,rfl⟩:=hs;trivial
   ·cases hs
  ·split at hs
   ·cases hx:overC k ys 0 _<;>rw[hx] at hs<;>cases hs;trivial
   ·cases hs
  ·cases hs
theorem getElem?_append_some{α:Type}{l r:List α}{i:Nat}{a:α}(h:l[i]? = some a):(l++r)[i]? = some a:=by
 rw[List.getElem?_append_left (List.getElem?_eq_some_iff.1 h).1];exact h
section
variable {F:Nat→Prop} {w0 w w':World} {m0:Nat→Prop} {ρ0 ρ:List (Nat × Nat)} {σ:List Blk}
theorem getElem?_snoc{α:Type}{l:List α}{b a:α}{i:Nat}(h:(l++[b])[i]? = some a):l[i]? = some a∨(i=l.length∧b=a):=by
 rcases Nat.lt_or_ge i l.length with hl|hl
 ·rw[List.getElem?_append_left hl] at h;exact .inl h
 ·rw[List.getElem?_append_right hl] at h
  cases hi:i-l.length with
  |zero=>rw[hi] at h;simp at h;exact .inr ⟨by omega,h⟩
  |succ n=>rw[hi] at h;simp at h
theorem Inv.other(I:Inv F w0 m0 ρ0 ρ σ w){o:Obj}(hw:w'.heap=w.heap.push o)(hos:w'.os=w.os)(ht:w'.tape=w.tape)(ho:w'.output=w.output):
  Keep (Mut F ρ σ) (Mut F ρ σ) w w'∧Inv F w0 m0 ρ0 ρ σ w':=by
 have hold: ∀k,k<w.heap.size→w'.heap[k]? = w.heap[k]? := by
  intro k hk
  rw[hw,Array.getElem?_push,if_neg (by omega)]
 have K:Keep (Mut F ρ σ) (Mut F ρ σ) w w':=⟨by rw[hw];simp,fun k hk _=>hold k hk,fun _ _ h=>h,fun k hk=>by simp only[World.shape?,hold k hk]⟩
 have hup: ∀k,k<w.heap.size→k<w'.heap.size:=fun k hk=>Nat.lt_of_lt_of_le hk K.size
 refine⟨K,⟨I.heap.len,?_,fun i b g n k h1 h2 h3 h4=>hup k (I.heap.lt i b g n k h1 h2 h3 h4),I.heap.inj',I.heap.glob.keep K⟩,I.pre,by rw[hos,I.os],by rw[ht,I.tape],by rw[ho,I.output],by rw[hw];have:=I.size;simp;omega,?_,?_,I.fresh,fun b hb=>hup b (I.foreign b hb),I.apart⟩
 ·intro id c g x hc hr hl
  obtain⟨hd,hn,hg⟩:=I.heap.live id c g x hc hr hl
  exact⟨hd.keep K (fun _ _ h=>h) fun k hk=>hold k (I.heap.lt id c g x k hc hr hl hk),hn,hup g hg⟩
 ·intro b hb hm
  rw[hold b (Nat.lt_of_lt_of_le hb I.size),I.blk b hb hm]
 ·intro b hb
  rw[K.shape b (Nat.lt_of_lt_of_le hb I.size),I.shape b hb]
theorem grow{σ1:List Blk}(I:Inv F w0 m0 ρ0 ρ σ w)(h1:σ1.length=σ.length)(h2: ∀(i:Nat) (b:Blk),σ1[i]? = some b→b.live=true→σ[i]? = some b)
  {o:Obj} (hw:w'.heap=w.heap.push o) (hos:w'.os=w.os) (ht:w'.tape=w.tape) (ho:w'.output=w.output) {b:Blk} {n:Nat} (hs:b.solid):
  Keep (Mut F ρ σ) (Mut F (ρ++[(w.heap.size,n)]) (σ1++[b])) w w'∧
  (DenBlk w' (Mut F (ρ++[(w.heap.size,n)]) (σ1++[b])) (ρ++[(w.heap.size,n)]) w.heap.size b→b.count=n→Inv F w0 m0 ρ0 (ρ++[(w.heap.size,n)]) (σ1++[b]) w'):=by
 have hlen:=I.heap.len
 have hold: ∀k,k<w.heap.size→w'.heap[k]? = w.heap[k]? := by
  intro k hk
  rw[hw,Array.getElem?_push,if_neg (by omega)]
 have hup: ∀k,k<w.heap.size→k<w'.heap.size:=fun k hk=>by rw[hw];simp;omega
 have hset: ∀(i:Nat) (c:Blk) (g x:Nat),(σ1++[b])[i]? = some c→c.live=true→(ρ++[(w.heap.size,n)])[i]? = some (g,x)→
   (i<σ.length∧σ[i]? = some c∧ρ[i]? = some (g,x))∨(i=σ.length∧c=b∧g=w.heap.size∧x=n):=by
  intro i c g x hc hl hr
  rcases getElem?_snoc hr with hr|⟨e1,e2⟩
  ·rcases getElem?_snoc hc with hc|⟨e,_⟩
   ·exact .inl ⟨by have:=(List.getElem?_eq_some_iff.1 hr).1;omega,h2 i c hc hl,hr⟩
   ·have:=(List.getElem?_eq_some_iff.1 hr).1
    omega
  ·simp only[Prod.mk.injEq] at e2
   rcases getElem?_snoc hc with hc|⟨_,e⟩
   ·have:=(List.getElem?_eq_some_iff.1 hc).1
    omega
   ·exact .inr ⟨by omega,e.symm,e2.1.symm,e2.2.symm⟩
 have hLM: ∀k,LMut (ρ++[(w.heap.size,n)]) (σ1++[b]) k→LMut ρ σ k∨k=w.heap.size:=by
  rintro k ⟨id,c,x,g,hc,hl,hr,ho⟩
  rcases hset id c g x hc hl hr with⟨_,h3,h4⟩|⟨_,rfl,rfl,_⟩
  ·exact .inl ⟨id,c,x,g,h3,hl,h4,ho⟩
  ·exact .inr (Blk.owns_solid hs ho)
 have K:Keep (Mut F ρ σ) (Mut F (ρ++[(w.heap.size,n)]) (σ1++[b])) w w':=by
  refine⟨by rw[hw];simp,fun k hk _=>hold k hk,?_,fun k hk=>by simp only[World.shape?,hold k hk]⟩
  rintro k hk (hF|h)
  ·exact .inl hF
  ·rcases hLM k h with h|h
   ·exact .inr h
   ·omega
 refine⟨K,fun hd hc=> ?_⟩
 refine⟨⟨by simp[hlen,h1],?_,?_,?_,I.heap.glob.keep K⟩,?_,by rw[hos,I.os],by rw[ht,I.tape],by rw[ho,I.output],by rw[hw];have:=I.size;simp;omega,?_,?_,?_,fun b hb=>hup b (I.foreign b hb),?_⟩
 ·intro id c g x hc' hr hl
  rcases hset id c g x hc' hl hr with⟨_,h3,h4⟩|⟨_,rfl,rfl,rfl⟩
  ·obtain⟨hd',hn,hg⟩:=I.heap.live id c g x h3 h4 hl
   exact⟨hd'.keep K (fun id g h=>getElem?_append_some h) fun k hk=>hold k (I.heap.lt id c g x k h3 h4 hl hk),hn,hup g hg⟩
  ·exact⟨hd,hc,by rw[hw];simp⟩
 ·intro id c g x k hc' hr hl hk
  rcases hset id c g x hc' hl hr with⟨_,h3,h4⟩|⟨_,rfl,rfl,rfl⟩
  ·exact hup k (I.heap.lt id c g x k h3 h4 hl hk)
  ·rw[Blk.owns_solid hs hk,hw];simp
 ·intro i j bi bj g g' x y k hi hj hli hlj hri hrj hki hkj
  rcases hset i bi g x hi hli hri with⟨_,h3,h4⟩|⟨e1,rfl,rfl,rfl⟩<;>rcases hset j bj g' y hj hlj hrj with⟨_,h5,h6⟩|⟨e2,rfl,rfl,rfl⟩
  ·exact I.heap.inj' i j bi bj g g' x y k h3 h5 hli hlj h4 h6 hki hkj
  ·have:=I.heap.lt i bi g x k h3 h4 hli hki
   have:=Blk.owns_solid hs hkj
   omega
  ·have:=I.heap.lt j bj g' y k h5 h6 hlj hkj
   have:=Blk.owns_solid hs hki
   omega
  ·omega
 ·obtain⟨r,hr⟩:=I.pre
  exact⟨r++[(w.heap.size,n)],by rw[hr,List.append_assoc]⟩
 ·intro k hk hne
  rw[hold k (Nat.lt_of_lt_of_le hk I.size),I.blk k hk hne]
 ·intro k hk
  rw[← I.shape k hk]
  simp only[World.shape?,hold k (Nat.lt_of_lt_of_le hk I.size)]
 ·intro g hg
  rcases hLM g hg with h|h
  ·exact I.fresh g h
  ·have:=I.size
   exact .inl (by omega)
 ·intro g hg hF
  rcases hLM g hg with h|h
  ·exact I.apart g h hF
  ·have:=I.foreign g hF
   omega
theorem wrote(I:Inv F w0 m0 ρ0 ρ σ w){id:Nat}{b b':Blk}{g n:Nat}(hb:σ[id]? = some b)(hl:b.live=true)(hr:ρ[id]? = some (g,n))
  (hold: ∀k,k≠g→w'.heap[k]? = w.heap[k]?) (hsz:w'.heap.size=w.heap.size) (hsh:w'.shape? g=w.shape? g) (hos:w'.os=w.os) (ht:w'.tape=w.tape) (ho:w'.output=w.output)
  (hl':b'.live=true) (hs:b.solid) (hs':b'.solid):
  Keep (Mut F ρ σ) (Mut F ρ (σ.set id b')) w w'∧(DenBlk w' (Mut F ρ (σ.set id b')) ρ g b'→b'.count=n→Inv F w0 m0 ρ0 ρ (σ.set id b') w'):=by
 have hmg':LMut ρ σ g:= .solid hb hl hr
 have hmg:Mut F ρ σ g:= .inr hmg'
 have hset: ∀(i:Nat) (c:Blk),(σ.set id b')[i]? = some c→(i=id∧c=b')∨(i≠id∧σ[i]? = some c):=by
  intro i c h
  by_cases hi:i=id
  ·subst hi
   rw[List.getElem?_set_self (List.getElem?_eq_some_iff.1 hb).1] at h
   cases h
   exact .inl ⟨rfl,rfl⟩
  ·rw[List.getElem?_set_ne (fun e=>hi e.symm)] at h
   exact .inr ⟨hi,h⟩
 have hLM: ∀k,LMut ρ (σ.set id b') k→LMut ρ σ k:=by
  rintro k ⟨i,c,x,g',hc,hlc,hrc,ho⟩
  rcases hset i c hc with⟨rfl,rfl⟩|⟨_,hc⟩
  ·rw[hr] at hrc;cases hrc
   rw[Blk.owns_solid hs' ho];exact hmg'
  ·exact⟨i,c,x,g',hc,hlc,hrc,ho⟩
 have K:Keep (Mut F ρ σ) (Mut F ρ (σ.set id b')) w w':=by
  refine⟨by omega,fun k hk hm=>hold k fun e=>hm (e ▸ hmg),?_,fun k hk=> ?_⟩
  ·rintro k hk (hF|h)
   ·exact .inl hF
   ·exact .inr (hLM k h)
  ·by_cases hk':k=g
   ·subst hk';exact hsh
   ·simp only[World.shape?,hold k hk']
 refine⟨K,fun hd hc=> ?_⟩
 have hgs:g<w.heap.size:=(I.heap.live id b g n hb hr hl).2.2
 have hno: ∀(i:Nat) (c:Blk) (g' x k:Nat),i≠id→σ[i]? = some c→c.live=true→ρ[i]? = some (g',x)→c.owns g' k→k≠g:=fun i c g' x k hi h1 h2 h3 h4 e=>
  hi (I.heap.inj' i id c b g' g x n k h1 hb h2 hl h3 hr h4 (.inl e))
 refine⟨⟨by simp[I.heap.len],?_,?_,?_,I.heap.glob.keep K⟩,I.pre,by rw[hos,I.os],by rw[ht,I.tape],by rw[ho,I.output],by have:=I.size;omega,?_,?_,fun g hg=>I.fresh g (hLM g hg),fun b hb=>by have:=I.foreign b hb;omega,fun g hg=>I.apart g (hLM g hg)⟩
 ·intro i c g' x hc' hr' hlc
  rcases hset i c hc' with⟨rfl,rfl⟩|⟨hne,hc'⟩
  ·rw[hr] at hr';cases hr'
   exact⟨hd,hc,by omega⟩
  ·obtain⟨hd',hn,hg'⟩:=I.heap.live i c g' x hc' hr' hlc
   exact⟨hd'.keep K (fun _ _ h=>h) fun k hk=>hold k (hno i c g' x k hne hc' hlc hr' hk),hn,by omega⟩
 ·intro i c g' x k hc' hr' hlc hk
  rcases hset i c hc' with⟨rfl,rfl⟩|⟨hne,hc'⟩
  ·rw[hr] at hr';cases hr'
   rw[Blk.owns_solid hs' hk];omega
  ·have:=I.heap.lt i c g' x k hc' hr' hlc hk
   omega
 ·intro i j bi bj g1 g2 x y k hi hj hli hlj hri hrj hki hkj
  rcases hset i bi hi with⟨rfl,rfl⟩|⟨hnei,hi'⟩<;>rcases hset j bj hj with⟨rfl,rfl⟩|⟨hnej,hj'⟩
  ·rfl
  ·rw[hr] at hri;cases hri
   exact absurd (Blk.owns_solid hs' hki) (hno j bj g2 y k hnej hj' hlj hrj hkj)
  ·rw[hr] at hrj;cases hrj
   exact absurd (Blk.owns_solid hs' hkj) (hno i bi g1 x k hnei hi' hli hri hki)
  ·exact I.heap.inj' i j bi bj g1 g2 x y k hi' hj' hli hlj hri hrj hki hkj
 ·intro k hk hne
  by_cases hkg:k=g
  ·subst hkg
   rcases I.fresh k hmg' with h|h
   ·omega
   ·exact absurd h hne
  ·rw[hold k hkg,I.blk k hk hne]
 ·intro k hk
  rw[← I.shape k hk]
  by_cases hkg:k=g
  ·subst hkg;exact hsh
  ·simp only[World.shape?,hold k hkg]
theorem reuse(I:Inv F w0 m0 ρ0 ρ σ w){id:Nat}{b b':Blk}{g n n':Nat}(hb:σ[id]? = some b)(hl:b.live=true)(hr:ρ[id]? = some (g,n))
  (hold: ∀k,k≠g→w'.heap[k]? = w.heap[k]?) (hsz:w'.heap.size=w.heap.size) (hsh:w'.shape? g=w.shape? g) (hos:w'.os=w.os) (ht:w'.tape=w.tape) (ho:w'.output=w.output) (hs':b'.solid):
  Keep (Mut F ρ σ) (Mut F (ρ++[(g,n')]) (σ.set id .dead++[b'])) w w'∧
  (DenBlk w' (Mut F (ρ++[(g,n')]) (σ.set id .dead++[b'])) (ρ++[(g,n')]) g b'→b'.count=n'→Inv F w0 m0 ρ0 (ρ++[(g,n')]) (σ.set id .dead++[b']) w'):=by
 have hlen:=I.heap.len
 have hgs:g<w.heap.size:=(I.heap.live id b g n hb hr hl).2.2
 have hmg':LMut ρ σ g:= .solid hb hl hr
 have hmg:Mut F ρ σ g:= .inr hmg'
 have hset: ∀(i:Nat) (c:Blk) (g' x:Nat),(σ.set id .dead++[b'])[i]? = some c→c.live=true→(ρ++[(g,n')])[i]? = some (g',x)→
   (i≠id∧σ[i]? = some c∧ρ[i]? = some (g',x))∨(i=σ.length∧c=b'∧g'=g∧x=n'):=by
  intro i c g' x hc hlc hrc
  rcases getElem?_snoc hc with hc|⟨e1,e2⟩
  ·have hil:=(List.getElem?_eq_some_iff.1 hc).1
   simp only[List.length_set] at hil
   rcases getElem?_snoc hrc with hrc|⟨e,_⟩
   ·by_cases hi:i=id
    ·subst hi
     rw[List.getElem?_set_self hil] at hc
     cases hc
     simp[Blk.live] at hlc
    ·rw[List.getElem?_set_ne (fun e=>hi e.symm)] at hc
     exact .inl ⟨hi,hc,hrc⟩
   ·omega
  ·simp only[List.length_set] at e1
   rcases getElem?_snoc hrc with hrc|⟨e,e3⟩
   ·have:=(List.getElem?_eq_some_iff.1 hrc).1
    omega
   ·simp only[Prod.mk.injEq] at e3
    exact .inr ⟨e1,e2.symm,e3.1.symm,e3.2.symm⟩
 have hLM: ∀k,LMut (ρ++[(g,n')]) (σ.set id .dead++[b']) k→LMut ρ σ k:=by
  rintro k ⟨i,c,x,g',hc,hlc,hrc,ho⟩
  rcases hset i c g' x hc hlc hrc with⟨_,h1,h2⟩|⟨_,rfl,rfl,_⟩
  ·exact⟨i,c,x,g',h1,hlc,h2,ho⟩
  ·rw[Blk.owns_solid hs' ho];exact hmg'
 have hno: ∀(i:Nat) (c:Blk) (g' x k:Nat),i≠id→σ[i]? = some c→c.live=true→ρ[i]? = some (g',x)→c.owns g' k→k≠g:=fun i c g' x k hi h1 h2 h3 h4 e=>
  hi (I.heap.inj' i id c b g' g x n k h1 hb h2 hl h3 hr h4 (.inl e))
 have K:Keep (Mut F ρ σ) (Mut F (ρ++[(g,n')]) (σ.set id .dead++[b'])) w w':=by
  refine⟨by omega,fun k hk hm=>hold k fun e=>hm (e ▸ hmg),?_,fun k hk=> ?_⟩
  ·rintro k hk (hF|h)
   ·exact .inl hF
   ·exact .inr (hLM k h)
  ·by_cases hk':k=g
   ·subst hk';exact hsh
   ·simp only[World.shape?,hold k hk']
 refine⟨K,fun hd hc=> ?_⟩
 refine⟨⟨by simp[hlen],?_,?_,?_,I.heap.glob.keep K⟩,?_,by rw[hos,I.os],by rw[ht,I.tape],by rw[ho,I.output],by have:=I.size;omega,?_,?_,fun g hg=>I.fresh g (hLM g hg),fun b hb=>by have:=I.foreign b hb;omega,fun g hg=>I.apart g (hLM g hg)⟩
 ·intro i c g' x hc' hr' hlc
  rcases hset i c g' x hc' hlc hr' with⟨hne,h1,h2⟩|⟨_,rfl,rfl,rfl⟩
  ·obtain⟨hd',hn,hg'⟩:=I.heap.live i c g' x h1 h2 hlc
   exact⟨hd'.keep K (fun _ _ h=>getElem?_append_some h) fun k hk=>hold k (hno i c g' x k hne h1 hlc h2 hk),hn,by omega⟩
  ·exact⟨hd,hc,by omega⟩
 ·intro i c g' x k hc' hr' hlc hk
  rcases hset i c g' x hc' hlc hr' with⟨hne,h1,h2⟩|⟨_,rfl,rfl,rfl⟩
  ·have:=I.heap.lt i c g' x k h1 h2 hlc hk
   omega
  ·rw[Blk.owns_solid hs' hk];omega
 ·intro i j bi bj g1 g2 x y k hi hj hli hlj hri hrj hki hkj
  rcases hset i bi g1 x hi hli hri with⟨hnei,h1,h2⟩|⟨e1,rfl,rfl,_⟩<;>rcases hset j bj g2 y hj hlj hrj with⟨hnej,h4,h5⟩|⟨e2,rfl,rfl,_⟩
  ·exact I.heap.inj' i j bi bj g1 g2 x y k h1 h4 hli hlj h2 h5 hki hkj
  ·exact absurd (Blk.owns_solid hs' hkj) (hno i bi g1 x k hnei h1 hli h2 hki)
  ·exact absurd (Blk.owns_solid hs' hki) (hno j bj g2 y k hnej h4 hlj h5 hkj)
  ·omega
 ·obtain⟨r,hr'⟩:=I.pre
  exact⟨r++[(g,n')],by rw[hr',List.append_assoc]⟩
 ·intro k hk hne
  by_cases hkg:k=g
  ·subst hkg
   rcases I.fresh k hmg' with h|h
   ·omega
   ·exact absurd h hne
  ·rw[hold k hkg,I.blk k hk hne]
 ·intro k hk
  rw[← I.shape k hk]
  by_cases hkg:k=g
  ·subst hkg;exact hsh
  ·simp only[World.shape?,hold k hkg]
end
section
variable {F:Nat→Prop} {w:World} {m:Nat→Prop}
theorem RowCells.list {get : Nat → Option Value} : ∀ {r : Row}, RowCells w m get r → ∃ vs : List Value, vs.length = r.count * r.width ∧ ∀ (j : Nat) (v : Value), vs[j]? = some v → get j = some v ∧ v.oneCell' = true := by
  intro r h
  obtain ⟨vs, h1, h2⟩ := exists_list (p := fun j v => get j = some v ∧ v.oneCell' = true) (r.count * r.width) (by
    intro j hj
    cases r with
    | ints k xs =>
      simp only [Row.count, Row.width, Nat.mul_one] at hj
      exact ⟨_, h j _ (List.getElem?_eq_getElem hj), rfl⟩
    | mat k wd xss =>
      simp only [Row.count, Row.width] at hj
      have hw : 0 < wd := by rcases Nat.eq_zero_or_pos wd with h0 | h0; · subst h0; simp at hj
                             · exact h0
      have hi : j / wd < xss.length := by rw [Nat.div_lt_iff_lt_mul hw]; exact hj
      have := h (j / wd) _ (List.getElem?_eq_getElem hi) (j % wd) (Nat.mod_lt _ hw)
      rw [Nat.div_add_mod'] at this
      exact ⟨_, this, rfl⟩
    | recs cks xss =>
      simp only [Row.count, Row.width] at hj
      have hw : 0 < cks.length := by rcases Nat.eq_zero_or_pos cks.length with h0 | h0; · rw [h0] at hj; simp at hj
                                     · exact h0
      have hi : j / cks.length < xss.length := by rw [Nat.div_lt_iff_lt_mul hw]; exact hj
      obtain ⟨u, hu, hd⟩ := h (j / cks.length) _ (List.getElem?_eq_getElem hi) (j % cks.length) _ (List.getElem?_eq_getElem (Nat.mod_lt _ hw))
      rw [Nat.div_add_mod'] at hu
      exact ⟨u, hu, DenS.one (ρ := []) (DenS_mk hd)⟩)
  exact ⟨vs, h1, h2⟩
theorem RowCells.congrN{get get':Nat→Option Value}{r:Row}(h:RowCells w m get r)(H: ∀j,j<r.count*r.width→get' j=get j):RowCells w m get' r:=by
 cases r with
 |ints k xs=>
  simp only[Row.count,Row.width,Nat.mul_one] at H
  intro i x hx
  rw[H i (List.getElem?_eq_some_iff.1 hx).1];exact h i x hx
 |mat k wd xss=>
  simp only[Row.count,Row.width] at H
  intro i xs hi c hc
  have:(i+1)*wd≤xss.length*wd:=Nat.mul_le_mul_right _ (List.getElem?_eq_some_iff.1 hi).1
  rw[Nat.add_mul] at this
  rw[H (i*wd+c) (by omega)];exact h i xs hi c hc
 |recs cks xss=>
  simp only[Row.count,Row.width] at H
  intro i xs hi c ck hc
  have:(i+1)*cks.length≤xss.length*cks.length:=Nat.mul_le_mul_right _ (List.getElem?_eq_some_iff.1 hi).1
  rw[Nat.add_mul] at this
  have hcl:=(List.getElem?_eq_some_iff.1 hc).1
  rw[H (i*cks.length+c) (by omega)];exact h i xs hi c ck hc
theorem Row.app_count{r r' r2:Row}(h:r.app r'=some r2):r2.count=r.count+r'.count∧r2.width=r.width∧r'.width=r.width:=by
 cases r<;>cases r'<;>simp only[Row.app] at h
 all_goals first|(cases h;done)|skip
 all_goals split at h
 all_goals first|(cases h;done)|skip
 ·cases h;simp[Row.count,Row.width]
 ·rename_i he;cases h;simp[Row.count,Row.width,he.2]
 ·rename_i he;cases h;simp[Row.count,Row.width,he]
theorem RowCells.app{get get1 get2:Nat→Option Value}{r r' r2:Row}(h:r.app r'=some r2)(h1:RowCells w m get1 r)(h2:RowCells w m get2 r')
  (e1: ∀j,j<r.count*r.width→get j=get1 j) (e2: ∀j,j<r'.count*r.width→get (r.count*r.width+j)=get2 j):RowCells w m get r2:=by
 cases r<;>cases r'<;>simp only[Row.app] at h
 all_goals first|(cases h;done)|skip
 all_goals split at h
 all_goals first|(cases h;done)|skip
 ·rename_i k xs k' ys hk
  subst hk
  cases h
  simp only[Row.count,Row.width,Nat.mul_one] at e1 e2
  intro i x hx
  rcases Nat.lt_or_ge i xs.length with hl|hl
  ·rw[List.getElem?_append_left hl] at hx
   rw[e1 i hl];exact h1 i x hx
  ·rw[List.getElem?_append_right hl] at hx
   have hlt:=(List.getElem?_eq_some_iff.1 hx).1
   have:=e2 (i-xs.length) hlt
   rw[show xs.length+(i-xs.length)=i from by omega] at this
   rw[this];exact h2 _ x hx
 ·rename_i k wd xs k' wd' ys hk
  obtain⟨rfl,rfl⟩:=hk
  cases h
  simp only[Row.count,Row.width] at e1 e2
  intro i x hx c hc
  rcases Nat.lt_or_ge i xs.length with hl|hl
  ·rw[List.getElem?_append_left hl] at hx
   rw[e1 (i*wd'+c) (by
    have:(i+1)*wd'≤xs.length*wd':=Nat.mul_le_mul_right _ hl
    rw[Nat.add_mul] at this;omega)]
   exact h1 i x hx c hc
  ·rw[List.getElem?_append_right hl] at hx
   have hlt:=(List.getElem?_eq_some_iff.1 hx).1
   have:=e2 ((i-xs.length)*wd'+c) (by
    have:(i-xs.length+1)*wd'≤ys.length*wd':=Nat.mul_le_mul_right _ hlt
    rw[Nat.add_mul] at this;omega)
   rw[show xs.length*wd'+((i-xs.length)*wd'+c)=i*wd'+c from by rw[← Nat.add_assoc,← Nat.add_mul];congr 2;omega] at this
   rw[this];exact h2 _ x hx c hc
 ·rename_i cks xs cks' ys hk
  subst hk
  cases h
  simp only[Row.count,Row.width] at e1 e2
  intro i x hx c ck hc
  have hcl:=(List.getElem?_eq_some_iff.1 hc).1
  rcases Nat.lt_or_ge i xs.length with hl|hl
  ·rw[List.getElem?_append_left hl] at hx
   rw[e1 (i*cks'.length+c) (by
    have:(i+1)*cks'.length≤xs.length*cks'.length:=Nat.mul_le_mul_right _ hl
    rw[Nat.add_mul] at this;omega)]
   exact h1 i x hx c ck hc
  ·rw[List.getElem?_append_right hl] at hx
   have hlt:=(List.getElem?_eq_some_iff.1 hx).1
   have:=e2 ((i-xs.length)*cks'.length+c) (by
    have:(i-xs.length+1)*cks'.length≤ys.length*cks'.length:=Nat.mul_le_mul_right _ hlt
    rw[Nat.add_mul] at this;omega)
   rw[show xs.length*cks'.length+((i-xs.length)*cks'.length+c)=i*cks'.length+c from by rw[← Nat.add_assoc,← Nat.add_mul];congr 2;omega] at this
   rw[this];exact h2 _ x hx c ck hc
end
end Go.Ev
namespace Go.Ev
open Go Go.RowKit
variable [Glob]
def Prefix(w w':World):Prop:= ∀b,b<w.heap.size→w'.heap[b]? = w.heap[b]?
def Done(F:Nat→Prop)(w0:World)(m0:Nat→Prop)(ρ0 ρ:List (Nat × Nat))(σ:List Blk)(w:World)(c:Prop)(k:AV→List Blk→Prop)(u:Value)(w':World):Prop:= ∃v σ' ρ',k v σ'∧Inv F w0 m0 ρ0 ρ' σ' w'∧(∃r,ρ'=ρ++r)∧Keep (Mut F ρ σ) (Mut F ρ' σ') w w'∧Den w' (Mut F ρ' σ') ρ' v u∧(c→(∃e,σ'=σ++e)∧Prefix w w')
theorem Prefix_push{w w':World}{o:Obj}(h:w'.heap=w.heap.push o):Prefix w w':=fun b hb=>by
 rw[h,Array.getElem?_push,if_neg (by omega)]
theorem asInts_sound{w:World}{m:Nat→Prop}{ρ:List (Nat × Nat)}{k:IntKind}: ∀{l:List SV} {xs:List Int} {vs:List Value},asInts k l=some xs→All2 (DenS w m ρ) l vs→
  xs.length=l.length∧vs=xs.map (Value.int k)
 |[],xs,vs,h,hl=>by
  simp only[asInts,Option.some.injEq] at h
  subst h
  cases vs with
  |nil=>exact⟨rfl,rfl⟩
  |cons a l=>exact hl.elim
 |s::l,xs,vs,h,hl=>by
  cases vs with
  |nil=>exact hl.elim
  |cons u vs=>
   obtain⟨hd,hl⟩:=hl
   unfold asInts at h
   split at h
   ·rename_i he;cases he
   ·rename_i k' n l' he
    cases he
    split at h
    ·rename_i hk
     subst hk
     cases hx:asInts k' l with
     |none=>rw[hx] at h;simp at h
     |some ys=>
      rw[hx] at h
      simp at h
      subst h
      cases hd
      obtain⟨h1,h2⟩:=asInts_sound hx hl
      exact⟨by simp[h1],by simp[h2]⟩
    ·cases h
   ·cases h
section
variable {F:Nat→Prop} {w:World} {m:Nat→Prop} {ρ:List (Nat × Nat)} {P:Program}
theorem newBlk_sound{t:TypeId}{l:List SV}{vs:List Value}{g:Nat}(hg:w.heap[g]? = some (.cells vs.toArray t (0,0)))(hl:All2 (DenS w m ρ) l vs):
  DenBlk w m ρ g (newBlk P t l)∧(newBlk P t l).count=l.length∧(newBlk P t l).live=true:=by
 have hcells:DenBlk w m ρ g (.cells l):=⟨_,t,hg,fun j sv hj=>by
  obtain⟨u,hu,hd⟩:=hl.get hj
  exact⟨u,by simpa using hu,hd⟩⟩
 unfold newBlk
 split
 ·split
  ·split
   ·rename_i xs hx
    obtain⟨h1,h2⟩:=asInts_sound hx hl
    refine⟨⟨_,hg,fun i x hi=> ?_⟩,h1,rfl⟩
    simp[h2,hi]
   ·exact⟨hcells,rfl,rfl⟩
  ·exact⟨hcells,rfl,rfl⟩
 ·exact⟨hcells,rfl,rfl⟩
theorem flatten_get{α:Type}{wd:Nat}: ∀{l:List (List α)},(∀x ∈ l,x.length=wd)→ ∀{i c:Nat} {x:List α},l[i]? = some x→c<wd→l.flatten[i*wd+c]? = x[c]?
 |[],_,i,c,x,h,_=>by simp at h
 |y::l,H,0,c,x,h,hc=>by
  simp at h
  subst h
  have:=H y (by simp)
  simp only[List.flatten_cons,Nat.zero_mul,Nat.zero_add]
  rw[List.getElem?_append_left (by omega)]
 |y::l,H,i+1,c,x,h,hc=>by
  have hy:=H y (by simp)
  simp only[List.flatten_cons]
  rw[List.getElem?_append_right (by rw[hy,Nat.add_mul];omega)]
  rw[show(i+1)*wd+c-y.length=i*wd+c from by rw[hy,Nat.add_mul];omega]
  exact flatten_get (fun z hz=>H z (by simp[hz])) (by simpa using h) hc
theorem mapOpt_get{α β:Type}{f:α→Option β}: ∀{l:List α} {k:List β},mapOpt f l=some k→k.length=l.length∧ ∀(i:Nat) (b:β),k[i]? = some b→ ∃a,l[i]? = some a∧f a=some b
 |[],k,h=>by simp only[mapOpt,Option.some.injEq] at h;subst h;exact⟨rfl,fun i b h=>by simp at h⟩
 |a::l,k,h=>by
  simp only[mapOpt] at h
  split at h
  ·rename_i b k' hb hk
   simp only[Option.some.injEq] at h
   subst h
   obtain⟨h1,h2⟩:=mapOpt_get hk
   refine⟨by simp[h1],fun i c hc=> ?_⟩
   cases i with
   |zero=>simp at hc;subst hc;exact⟨a,rfl,hb⟩
   |succ i=>exact h2 i c (by simpa using hc)
  ·cases h
theorem toD_sound{c:CK}{s:SV}{d:D}{u:Value}(h:toD c s=some d)(hd:DenS w m ρ s u):DenC w m c d u:=by
 unfold toD at h
 split at h
 ·split at h
  ·rename_i hk;subst hk;cases h;cases hd;rfl
  ·cases h
 ·cases h;cases hd;rfl
 ·cases h;cases hd;rfl
 ·cases h;cases hd;exact⟨none,0,rfl,Nat.le_refl _,Nat.zero_le _,.inl rfl⟩
 ·split at h
  ·rename_i hk
   subst hk
   cases h
   obtain⟨a,cap,h1,h2,h3,h4⟩:=hd
   refine⟨a,cap,h1,h2,h3,?_⟩
   rcases h4 with h4|⟨ad,h5,h6,h7,h8⟩
   ·exact .inl (List.eq_nil_of_length_eq_zero h4)
   ·exact .inr ⟨ad,h5,h6,h7,fun i x hx=>h8 i x hx⟩
  ·cases h
 ·cases h;cases hd;exact⟨none,0,rfl,Nat.le_refl _,Nat.zero_le _,.inl rfl⟩
 ·split at h
  ·rename_i hk
   obtain⟨rfl,rfl⟩:=hk
   cases h
   obtain⟨a,cap,h1,h2,h3,h4⟩:=hd
   refine⟨a,cap,h1,h2,h3,?_⟩
   rcases h4 with h4|⟨ad,h5,h6,h7,h8⟩
   ·exact .inl (List.eq_nil_of_length_eq_zero h4)
   ·exact .inr ⟨ad,h5,h6,h7,fun i x hx=>h8 i x hx⟩
  ·cases h
 ·cases h
theorem toDs_sound: ∀{cs:List CK} {l:List SV} {ds:List D} {vs:List Value},toDs cs l=some ds→All2 (DenS w m ρ) l vs→
  ∀(c:Nat) (ck:CK),cs[c]? = some ck→ ∃u,vs[c]? = some u∧DenC w m ck (ds.getD c (.int 0)) u
 |[],l,ds,vs,h,hl,c,ck,hc=>by simp at hc
 |k::cs,[],ds,vs,h,hl,c,ck,hc=>by simp[toDs] at h
 |k::cs,s::l,ds,vs,h,hl,c,ck,hc=>by
  cases vs with
  |nil=>exact hl.elim
  |cons u vs=>
   simp only[toDs] at h
   split at h
   ·rename_i d ds' hd hds
    simp only[Option.some.injEq] at h
    subst h
    cases c with
    |zero=>simp at hc;subst hc;exact⟨u,rfl,toD_sound hd hl.1⟩
    |succ c=>
     obtain⟨u',h1,h2⟩:=toDs_sound hds hl.2 c ck (by simpa using hc)
     exact⟨u',by simpa using h1,by simpa using h2⟩
   ·cases h
theorem all2_flatten{R:SV→Value→Prop}: ∀{els:List (List SV)} {vss:List (List Value)},All2 (All2 R) els vss→All2 R els.flatten vss.flatten
 |[],[],_=>trivial
 |[],_::_,h=>h.elim
 |_::_,[],h=>h.elim
 |_::_,_::_,h=>by
  simp only[List.flatten_cons]
  exact h.1.append (all2_flatten h.2)
theorem rowOf_sound{e:TypeId}{els:List (List SV)}{vss:List (List Value)}{cel:Bool}{b:Blk}{g:Nat}{sz:Nat}(h:rowOf P e els cel=some b)(hw:b.width=sz)(hsz: ∀x ∈ els,x.length=sz)
  (hg:w.heap[g]? = some (.cells vss.flatten.toArray e (0,0))) (hl:All2 (All2 (DenS w m ρ)) els vss):
  DenBlk w m ρ g b∧b.count=els.length∧b.live=true:=by
 have hvl: ∀x ∈ vss,x.length=sz:=by
  intro x hx
  obtain⟨i,hi⟩:=List.getElem?_of_mem hx
  have hlt:i<els.length:=by rw[hl.length];exact(List.getElem?_eq_some_iff.1 hi).1
  obtain⟨y,hy1,hy2⟩:=hl.get (List.getElem?_eq_getElem hlt)
  rw[hi] at hy1
  cases hy1
  rw[← hy2.length]
  exact hsz _ (List.getElem_mem hlt)
 have cells:some (Blk.cells els.flatten)=some b→DenBlk w m ρ g b∧b.count=els.length∧b.live=true:=by
  intro h
  simp only[Option.some.injEq] at h
  subst h
  simp only[Blk.width] at hw
  refine⟨⟨_,e,hg,fun j sv hj=> ?_⟩,?_,rfl⟩
  ·obtain⟨u,hu,hd⟩:=(all2_flatten hl).get hj
   exact⟨u,by simpa using hu,hd⟩
  ·subst hw
   have: ∀(els:List (List SV)),(∀x ∈ els,x.length=1)→els.flatten.length=els.length:=by
    intro els
    induction els with
    |nil=>intro _;rfl
    |cons a l ih=>intro H;simp[H a (by simp),ih (fun x hx=>H x (by simp[hx]))];omega
   exact this els hsz
 unfold rowOf at h
 split at h
 ·exact cells h
 split at h
 ·rename_i k hk
  cases hx:asInts k els.flatten with
  |none=>rw[hx] at h;simp at h
  |some xs=>
   rw[hx] at h
   simp at h
   subst h
   simp only[Blk.width,Row.width] at hw
   obtain⟨h1,h2⟩:=asInts_sound hx (all2_flatten hl)
   refine⟨⟨_,hg,fun i x hi=>by simp[h2,hi]⟩,?_,rfl⟩
   simp only[Blk.count,Row.count,h1]
   subst hw
   have: ∀(els:List (List SV)),(∀x ∈ els,x.length=1)→els.flatten.length=els.length:=by
    intro els
    induction els with
    |nil=>intro _;rfl
    |cons a l ih=>intro H;simp[H a (by simp),ih (fun x hx=>H x (by simp[hx]))];omega
   exact this els hsz
 ·rename_i k wd hk
  split at h
  ·rename_i hall
   cases hx:mapOpt (asInts k) els with
   |none=>rw[hx] at h;simp at h
   |some xss=>
    rw[hx] at h
    simp at h
    subst h
    simp only[Blk.width,Row.width] at hw
    subst hw
    obtain⟨h1,h2⟩:=mapOpt_get hx
    refine⟨⟨_,hg,fun i xs hi c hc=> ?_⟩,h1,rfl⟩
    obtain⟨a,ha,hf⟩:=h2 i xs hi
    obtain⟨vs,hv1,hv2⟩:=hl.get ha
    obtain⟨h3,h4⟩:=asInts_sound hf hv2
    have hcl:c<xs.length:=by rw[h3,hsz a (List.mem_of_getElem? ha)];exact hc
    have:=flatten_get hvl hv1 hc
    simp[this,h4,List.getD,List.getElem?_eq_getElem hcl]
  ·cases h
 ·rename_i cks hk
  split at h
  ·rename_i hall
   cases hx:mapOpt (toDs cks) els with
   |none=>rw[hx] at h;simp at h
   |some xss=>
    rw[hx] at h
    simp at h
    subst h
    simp only[Blk.width,Row.width] at hw
    subst hw
    obtain⟨h1,h2⟩:=mapOpt_get hx
    refine⟨⟨_,hg,fun i xs hi c ck hc=> ?_⟩,h1,rfl⟩
    obtain⟨a,ha,hf⟩:=h2 i xs hi
    obtain⟨vs,hv1,hv2⟩:=hl.get ha
    obtain⟨u,h3,h4⟩:=toDs_sound hf hv2 c ck hc
    have:=flatten_get hvl hv1 (List.getElem?_eq_some_iff.1 hc).1
    exact⟨u,by simp[this,h3],h4⟩
  ·cases h
 ·exact cells h
theorem fill_all{sz:Nat}: ∀(vs:List Value) (j:Nat) (cells:List Value),(∀v ∈ vs,v.cells.size=sz)→cells.length=(j+vs.length)*sz→
  Instr.fill (fun i=>some (i*sz,sz)) cells.toArray ((vs.zipIdx j).map fun p=>(p.2,p.1))=some (cells.take (j*sz)++(vs.map (·.cells.toList)).flatten).toArray
 |[],j,cells,_,h=>by
  have h':cells.length=j*sz:=by simpa using h
  have e:cells.take (j*sz)=cells:=List.take_of_length_le (by rw[h'];exact Nat.le_refl _)
  simp[Instr.fill,e]
 |v::vs,j,cells,hv,h=>by
  have hsz:v.cells.size=sz:=hv v (by simp)
  simp only[List.length_cons] at h
  simp only[List.zipIdx_cons,List.map_cons,Instr.fill]
  have hle:j*sz+sz≤cells.length:=by
   rw[h,show j+(vs.length+1)=(j+1)+vs.length from by omega,Nat.add_mul,Nat.add_mul];omega
  rw[if_neg (by simp only[Bool.or_eq_true,decide_eq_true_eq,ne_eq,List.size_toArray];omega)]
  have e:=toArray_setIfInBounds_fold cells (j*sz) v.cells.toList 0 (by simp only[Array.length_toList];omega)
  simp only[Nat.add_zero,Array.length_toList,hsz] at e
  have hfold:(v.cells.zipIdx.foldl (fun(cs:Array Value) (p:Value × Nat)=>cs.setIfInBounds (j*sz+p.2) p.1) cells.toArray)=
    (cells.take (j*sz)++v.cells.toList++cells.drop (j*sz+sz)).toArray:=by
   rw[← Array.foldl_toList,Array.toList_zipIdx]
   simpa using e
  have ih:=fill_all vs (j+1) (cells.take (j*sz)++v.cells.toList++cells.drop (j*sz+sz)) (fun x hx=>hv x (by simp[hx])) (by
   simp only[List.length_append,List.length_take,List.length_drop,Array.length_toList,hsz]
   rw[show j+1+vs.length=j+(vs.length+1) from by omega,← h]
   omega)
  have hz:(cells.take (j*sz)++v.cells.toList++cells.drop (j*sz+sz)).take ((j+1)*sz)=cells.take (j*sz)++v.cells.toList:=by
   rw[List.take_append_of_le_length (by simp only[List.length_append,List.length_take,Array.length_toList,hsz];rw[Nat.add_mul];omega)]
   rw[List.take_of_length_le (by simp only[List.length_append,List.length_take,Array.length_toList,hsz];rw[Nat.add_mul];omega)]
  rw[hz] at ih
  have e2:(v.cells.zipIdx.foldl (fun(cs:Array Value) (x:Value × Nat)=>match x with|(c,k)=>cs.setIfInBounds (j*sz+k) c) cells.toArray)=
    (cells.take (j*sz)++v.cells.toList++cells.drop (j*sz+sz)).toArray:=by rw[← hfold]
  rw[e2,ih]
  simp
end
section
variable {F:Nat→Prop} {E:Env} {w0 w:World} {m0:Nat→Prop} {ρ0 ρ:List (Nat × Nat)} {s:St}
theorem Keep_ext{w':World}{m m':Nat→Prop}{ρ:List (Nat × Nat)}(K:Keep m m' w w'){r:List (Nat × Nat)}{l:List SV}{vs:List Value}(h:All2 (DenS w m ρ) l vs):All2 (DenS w' m' (ρ++r)) l vs:= h.imp fun _ _ hd=>hd.keep K fun _ _ hx=>getElem?_append_some hx
theorem newVar_done(I:Inv F w0 m0 ρ0 ρ s.σ w){t:TypeId}{l:List SV}{vs:List Value}{k:AV→List Blk→Prop}(hk:k (.one (.ptr s.σ.length 1 0 0)) (s.σ++[newBlk E.P t l]))
  (hl:All2 (DenS w (Mut F ρ s.σ) ρ) l vs):Done F w0 m0 ρ0 ρ s.σ w True k (.pointer (some ⟨w.heap.size,0,none⟩)) (w.alloc (.cells vs.toArray t)):=by
 obtain⟨K,hI⟩:=grow (w':=w.alloc (.cells vs.toArray t)) (o:= .cells vs.toArray t) (n:=l.length) I rfl (fun i b h _=>h) rfl rfl rfl rfl (b:=newBlk E.P t l) (newBlk_solid _ _ _)
 have hg:(w.alloc (.cells vs.toArray t)).heap[w.heap.size]? = some (.cells vs.toArray t (0,0)):=heap_alloc_new w _
 obtain⟨h1,h2,h3⟩:=newBlk_sound (P:=E.P) hg (Keep_ext K hl)
 refine⟨_,_,_,hk,hI h1 h2,⟨_,rfl⟩,K,⟨w.heap.size,l.length,?_,rfl⟩,fun _=>⟨⟨_,rfl⟩,Prefix_push rfl⟩⟩
 rw[← I.heap.len]
 simp
theorem evAlloc_sound(I:Inv F w0 m0 ρ0 ρ s.σ w){t:TypeId}{z:List SV}{k:AV→List Blk→Prop}(hz:zeroT E.P t=some z)(hk:k (.one (.ptr s.σ.length 1 0 0)) (s.σ++[newBlk E.P t z])):
  ∃u w',(Instr.alloc t true (.tuple #[])).run E.P w= .ok u w'∧Done F w0 m0 ρ0 ρ s.σ w True k u w':=by
 obtain⟨v,h1,h2⟩:=run_zeroT (w:=w) hz
 refine⟨_,_,?_,newVar_done I hk (svcs_sound h2)⟩
 simp[Instr.alloc,h1,newVar,newRow]
theorem evBox_sound(I:Inv F w0 m0 ρ0 ρ s.σ w){t:TypeId}{x:AV}{vx:Value}{z:List SV}{k:AV→List Blk→Prop}(hz:x.cells=some z)(hx:Den w (Mut F ρ s.σ) ρ x vx)
  (hk:k (.one (.ptr s.σ.length 1 0 0)) (s.σ++[newBlk E.P t z])):
  ∃u w',(Instr.box t vx).run E.P w= .ok u w'∧Done F w0 m0 ρ0 ρ s.σ w True k u w':=by
 refine⟨_,_,?_,newVar_done (E:=E) I hk (Den_agg_cells hz hx)⟩
 simp[Instr.box,newVar,newRow]
theorem mapParts_sound{f:Operand→Value}: ∀{parts:List (Nat × Operand)} {j:Nat} {els:List (List SV)},mapParts s parts j=some els→(∀p ∈ parts,Den w (Mut F ρ s.σ) ρ (s.ov p.2) (f p.2))→
  parts.map (fun p=>(p.1,f p.2))=((parts.map fun p=>f p.2).zipIdx j).map (fun p=>(p.2,p.1))∧All2 (All2 (DenS w (Mut F ρ s.σ) ρ)) els (parts.map fun p=>(f p.2).cells.toList)
 |[],j,els,h,_=>by simp only[mapParts,Option.some.injEq] at h;subst h;exact⟨rfl,trivial⟩
 |(i,x)::parts,j,els,h,H=>by
  simp only[mapParts] at h
  split at h
  ·rename_i hij
   subst hij
   split at h
   ·rename_i c k hc hk
    simp only[Option.some.injEq] at h
    subst h
    obtain⟨h1,h2⟩:=mapParts_sound hk fun p hp=>H p (by simp[hp])
    exact⟨by simp[h1],Den_agg_cells hc (H (_,x) (by simp)),h2⟩
   ·cases h
  ·cases h
theorem run_zeros{e:TypeId}{sz n:Nat}{z:List SV}(hz:zeroT E.P e=some z):
  ∃zs:Array Value,((n*sz=0∧zs = #[])∨(n*sz≠0∧ ∃v,(zeroValue e).run E.P w= .ok v w∧zs=v.cells))∧((Array.range (n*sz)).map (zs[· % zs.size]!)).size=n*sz:=by
 obtain⟨v,h1,h2⟩:=run_zeroT (w:=w) hz
 by_cases h0:n*sz=0
 ·exact⟨#[],.inl ⟨h0,rfl⟩,by simp⟩
 ·exact⟨v.cells,.inr ⟨h0,v,h1,rfl⟩,by simp⟩
theorem evBuildSlice_core{σ:List Blk}(I:Inv F w0 m0 ρ0 ρ σ w){t e:TypeId}{len sz:Nat}{parts:Array (Nat × Operand)}{els:List (List SV)}{z:List SV}{cel:Bool}{b:Blk}{k:AV→List Blk→Prop}{f:Operand→Value}
  (hu:E.P.underlying t=some (.slice e)) (hp:parts.toList.map (fun p=>(p.1,f p.2))=((parts.toList.map fun p=>f p.2).zipIdx 0).map (fun p=>(p.2,p.1))) (hels:All2 (All2 (DenS w (Mut F ρ σ) ρ)) els (parts.toList.map fun p=>(f p.2).cells.toList)) (hs:sizeT E.P e=some sz) (hz:zeroT E.P e=some z) (hlen:els.length=len)
  (hall:els.all (·.length==sz)=true) (hbig:len*sz≤16777216) (hlb:len≤16777216) (hr:rowOf E.P e els cel=some b) (hw:b.width=sz)
  (hk:k (.one (.own σ.length sz)) (σ++[b])):
  ∃u w',(Instr.buildSlice t len (parts.map fun(i,x)=>(i,f x))).run E.P w= .ok u w'∧Done F w0 m0 ρ0 ρ σ w True k u w':=by
 have hsz: ∀x ∈ els,x.length=sz:=by simpa using hall
 have hvl: ∀v ∈ (parts.toList.map fun p=>f p.2),v.cells.size=sz:=by
  intro v hv
  obtain⟨i,hi⟩:=List.getElem?_of_mem hv
  have hl1:=hels.length
  have hlt:i<els.length:=by
   rw[hl1]
   have:=(List.getElem?_eq_some_iff.1 hi).1
   simpa using this
  obtain⟨y,hy1,hy2⟩:=hels.get (List.getElem?_eq_getElem hlt)
  have h3:=hy2.length
  rw[hsz _ (List.getElem_mem hlt)] at h3
  simp only[List.getElem?_map] at hi hy1
  cases hpi:parts.toList[i]? with
  |none=>rw[hpi] at hi;simp at hi
  |some q=>
   rw[hpi] at hi hy1
   simp at hi hy1
   rw[← hi]
   rw[← hy1] at h3
   simpa using h3.symm
 have hpl:(parts.toList.map fun p=>f p.2).length=len:=by
  have:=hels.length
  simp at this
  simp
  omega
 obtain⟨zs,hz1,hz2⟩:=run_zeros (E:=E) (w:=w) (n:=len) (sz:=sz) hz
 have hfill:=fill_all (sz:=sz) (parts.toList.map fun p=>f p.2) 0 ((Array.range (len*sz)).map (zs[· % zs.size]!)).toList hvl (by rw[Array.length_toList,hz2,hpl];simp)
 simp only[Nat.zero_mul,List.take_zero,List.nil_append] at hfill
 rw[← hp] at hfill
 have hfl:(List.map (fun x=>x.cells.toList) (parts.toList.map fun p=>f p.2))=parts.toList.map fun p=>(f p.2).cells.toList:=by simp
 rw[hfl] at hfill
 obtain⟨K,hI⟩:=grow (w':=w.alloc (.cells (parts.toList.map fun p=>(f p.2).cells.toList).flatten.toArray e)) (o:= .cells (parts.toList.map fun p=>(f p.2).cells.toList).flatten.toArray e) (n:=len) I rfl (fun i b h _=>h) rfl rfl rfl rfl (b:=b) (rowOf_solid hr)
 have hg:(w.alloc (.cells (parts.toList.map fun p=>(f p.2).cells.toList).flatten.toArray e)).heap[w.heap.size]? = some (.cells (parts.toList.map fun p=>(f p.2).cells.toList).flatten.toArray e (0,0)):=heap_alloc_new w _
 obtain⟨h1,h2,h3⟩:=rowOf_sound (P:=E.P) hr hw hsz hg (hels.imp fun _ _=>Keep_ext K)
 refine⟨_,_,?_,_,_,_,hk,hI h1 (by rw[h2,hlen]),⟨_,rfl⟩,K,⟨w.heap.size,len,len,e,(parts.toList.map fun p=>(f p.2).cells.toList).flatten.length,?_,rfl,Nat.le_refl _,?_,?_,?_⟩,fun _=>⟨⟨_,rfl⟩,Prefix_push rfl⟩⟩
 ·simp only[Instr.buildSlice,Sem.run_bind,run_underlying hu,Result.andThen_ok,run_sizeOf' hs]
  rw[if_neg (by omega)]
  have e2:(parts.map fun(x:Nat × Operand)=>match x with|(i,x)=>(i,f x)).toList=parts.toList.map (fun p=>(p.1,f p.2)):=by simp
  rw[Array.toArray_toList,← e2] at hfill
  rcases hz1 with⟨h0,rfl⟩|⟨h0,v,h0',rfl⟩
  ·rw[if_pos h0]
   simp only[Sem.run_bind,Sem.run_pure,Result.andThen_ok]
   rw[hfill]
   simp[newRow]
  ·rw[if_neg h0]
   simp only[Sem.run_bind,Sem.run_pure,Result.andThen_ok,h0']
   rw[hfill]
   simp[newRow]
 ·rw[← I.heap.len];simp
 ·unfold maxLen;omega
 ·unfold World.shape?;rw[hg]
  simp
 ·have:=all2_flatten hels
  have h4:=this.length
  have: ∀(els:List (List SV)),(∀x ∈ els,x.length=sz)→els.flatten.length=els.length*sz:=by
   intro els
   induction els with
   |nil=>intro _;simp
   |cons a l ih=>intro H;simp only[List.flatten_cons,List.length_append,List.length_cons,H a (by simp),ih (fun x hx=>H x (by simp[hx])),Nat.add_mul];omega
  rw[← h4,this els hsz,hlen]
  exact Nat.le_refl _
theorem evBuildSlice_sound(I:Inv F w0 m0 ρ0 ρ s.σ w){t e:TypeId}{len sz:Nat}{parts:Array (Nat × Operand)}{els:List (List SV)}{z:List SV}{cel:Bool}{b:Blk}{k:AV→List Blk→Prop}{f:Operand→Value}
  (hu:E.P.underlying t=some (.slice e)) (hm:mapParts s parts.toList 0=some els) (hs:sizeT E.P e=some sz) (hz:zeroT E.P e=some z) (hlen:els.length=len)
  (hall:els.all (·.length==sz)=true) (hbig:len*sz≤16777216) (hlb:len≤16777216) (hr:rowOf E.P e els cel=some b) (hw:b.width=sz)
  (hk:k (.one (.own s.σ.length sz)) (s.σ++[b])) (hops: ∀p ∈ parts.toList,Den w (Mut F ρ s.σ) ρ (s.ov p.2) (f p.2)):
  ∃u w',(Instr.buildSlice t len (parts.map fun(i,x)=>(i,f x))).run E.P w= .ok u w'∧Done F w0 m0 ρ0 ρ s.σ w True k u w':=by
 obtain⟨hp,hels⟩:=mapParts_sound hm hops
 exact evBuildSlice_core I hu hp hels hs hz hlen hall hbig hlb hr hw hk
end
end Go.Ev
