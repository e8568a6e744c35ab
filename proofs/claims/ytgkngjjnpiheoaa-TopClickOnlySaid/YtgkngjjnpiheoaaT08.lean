/-
  Part of the proof that TopClickOnly holds.
-/
import Derived.Test.YtgkngjjnpiheoaaT07
import Derived.Maps.RangeRun
set_option linter.unusedVariables false
set_option linter.unusedSimpArgs false
set_option linter.unusedSectionVars false
namespace Go.Ev
open Go Go.RowKit
variable [Glob]
section
variable {F:Nat→Prop} {w0 w w':World} {m0:Nat→Prop} {ρ0 ρ:List (Nat × Nat)} {σ:List Blk}
theorem wroteO(I:Inv F w0 m0 ρ0 ρ σ w){id:Nat}{b b':Blk}{g n:Nat}(hb:σ[id]? = some b)(hl:b.live=true)(hr:ρ[id]? = some (g,n))
  (hold: ∀k,k≠g→w'.heap[k]? = w.heap[k]?) (hsz:w'.heap.size=w.heap.size) (hsh:w'.shape? g=w.shape? g) (hos:w'.os=w.os) (ht:w'.tape=w.tape) (ho:w'.output=w.output)
  (hl':b'.live=true) (hown: ∀k,b'.owns g k→b.owns g k):
  Keep (Mut F ρ σ) (Mut F ρ (σ.set id b')) w w'∧(DenBlk w' (Mut F ρ (σ.set id b')) ρ g b'→b'.count=n→Inv F w0 m0 ρ0 ρ (σ.set id b') w'):=by
 have hmg':LMut ρ σ g:= .solid hb hl hr
 have hmg:Mut F ρ σ g:= .inr hmg'
 have hset: ∀(i:Nat) (c:Blk),(σ.set id b')[i]? = some c→(i=id∧c=b')∨(i≠id∧σ[i]? = some c):=by
  intro i c h
  by_cases hi:i=id
  ·subst hi
   rw[List.getElem?_set_self (List.getElem?_eq_some_iff.1 hb).1] at h
   cases h
   exact .inl ⟨rfl,rfl⟩
  ·rw[List.getElem?_set_ne (fun e=>hi e.symm)] at h
   exact .inr ⟨hi,h⟩
 have hLM: ∀k,LMut ρ (σ.set id b') k→LMut ρ σ k:=by
  rintro k ⟨i,c,x,g',hc,hlc,hrc,ho⟩
  rcases hset i c hc with⟨rfl,rfl⟩|⟨_,hc⟩
  ·rw[hr] at hrc;cases hrc
   exact⟨i,b,n,g,hb,hl,hr,hown _ ho⟩
  ·exact⟨i,c,x,g',hc,hlc,hrc,ho⟩
 have K:Keep (Mut F ρ σ) (Mut F ρ (σ.set id b')) w w':=by
  refine⟨by omega,fun k hk hm=>hold k fun e=>hm (e ▸ hmg),?_,fun k hk=> ?_⟩
  ·rintro k hk (hF|h)
   ·exact .inl hF
   ·exact .inr (hLM k h)
  ·by_cases hk':k=g
   ·subst hk';exact hsh
   ·simp only[World.shape?,hold k hk']
 refine⟨K,fun hd hc=> ?_⟩
 have hgs:g<w.heap.size:=(I.heap.live id b g n hb hr hl).2.2
 have hno: ∀(i:Nat) (c:Blk) (g' x k:Nat),i≠id→σ[i]? = some c→c.live=true→ρ[i]? = some (g',x)→c.owns g' k→k≠g:=fun i c g' x k hi h1 h2 h3 h4 e=>
  hi (I.heap.inj' i id c b g' g x n k h1 hb h2 hl h3 hr h4 (.inl e))
 refine⟨⟨by simp[I.heap.len],?_,?_,?_,I.heap.glob.keep K⟩,I.pre,by rw[hos,I.os],by rw[ht,I.tape],by rw[ho,I.output],by have:=I.size;omega,?_,?_,fun g hg=>I.fresh g (hLM g hg),fun b hb=>by have:=I.foreign b hb;omega,fun g hg=>I.apart g (hLM g hg)⟩
 ·intro i c g' x hc' hr' hlc
  rcases hset i c hc' with⟨rfl,rfl⟩|⟨hne,hc'⟩
  ·rw[hr] at hr';cases hr'
   exact⟨hd,hc,by omega⟩
  ·obtain⟨hd',hn,hg'⟩:=I.heap.live i c g' x hc' hr' hlc
   exact⟨hd'.keep K (fun _ _ h=>h) fun k hk=>hold k (hno i c g' x k hne hc' hlc hr' hk),hn,by omega⟩
 ·intro i c g' x k hc' hr' hlc hk
  rcases hset i c hc' with⟨rfl,rfl⟩|⟨hne,hc'⟩
  ·rw[hr] at hr';cases hr'
   have:=I.heap.lt i b g n k hb hr hl (hown _ hk)
   omega
  ·have:=I.heap.lt i c g' x k hc' hr' hlc hk
   omega
 ·intro i j bi bj g1 g2 x y k hi hj hli hlj hri hrj hki hkj
  rcases hset i bi hi with⟨rfl,rfl⟩|⟨hnei,hi'⟩<;>rcases hset j bj hj with⟨rfl,rfl⟩|⟨hnej,hj'⟩
  ·rfl
  ·rw[hr] at hri;cases hri
   exact I.heap.inj' i j b bj g g2 n y k hb hj' hl hlj hr hrj (hown _ hki) hkj
  ·rw[hr] at hrj;cases hrj
   exact I.heap.inj' i j bi b g1 g x n k hi' hb hli hl hri hr hki (hown _ hkj)
  ·exact I.heap.inj' i j bi bj g1 g2 x y k hi' hj' hli hlj hri hrj hki hkj
 ·intro k hk hne
  by_cases hkg:k=g
  ·subst hkg
   rcases I.fresh k hmg' with h|h
   ·omega
   ·exact absurd h hne
  ·rw[hold k hkg,I.blk k hk hne]
 ·intro k hk
  rw[← I.shape k hk]
  by_cases hkg:k=g
  ·subst hkg;exact hsh
  ·simp only[World.shape?,hold k hkg]
theorem growOver(I:Inv F w0 m0 ρ0 ρ σ w){id mb n:Nat}{b0 b:Blk}(hb0:σ[id]? = some b0)(hl0:b0.live=true)(hr0:ρ[id]? = some (mb,n))(hs0:b0.solid)
  {o:Obj} (hw:w'.heap=w.heap.push o) (hos:w'.os=w.os) (ht:w'.tape=w.tape) (ho:w'.output=w.output) {x:Nat} (hown: ∀k,b.owns w.heap.size k→k=w.heap.size∨k=mb):
  Keep (Mut F ρ σ) (Mut F (ρ++[(w.heap.size,x)]) (σ.set id .dead++[b])) w w'∧
  (DenBlk w' (Mut F (ρ++[(w.heap.size,x)]) (σ.set id .dead++[b])) (ρ++[(w.heap.size,x)]) w.heap.size b→b.count=x→Inv F w0 m0 ρ0 (ρ++[(w.heap.size,x)]) (σ.set id .dead++[b]) w'):=by
 have hlen:=I.heap.len
 have hold: ∀k,k<w.heap.size→w'.heap[k]? = w.heap[k]? := by
  intro k hk
  rw[hw,Array.getElem?_push,if_neg (by omega)]
 have hup: ∀k,k<w.heap.size→k<w'.heap.size:=fun k hk=>by rw[hw];simp;omega
 have hmbs:mb<w.heap.size:=(I.heap.live id b0 mb n hb0 hr0 hl0).2.2
 have hmL:LMut ρ σ mb:= .solid hb0 hl0 hr0
 have hset: ∀(i:Nat) (c:Blk) (g y:Nat),(σ.set id .dead++[b])[i]? = some c→c.live=true→(ρ++[(w.heap.size,x)])[i]? = some (g,y)→
   (i≠id∧σ[i]? = some c∧ρ[i]? = some (g,y))∨(i=σ.length∧c=b∧g=w.heap.size∧y=x):=by
  intro i c g y hc hlc hrc
  rcases getElem?_snoc hc with hc|⟨e1,e2⟩
  ·have hil:=(List.getElem?_eq_some_iff.1 hc).1
   simp only[List.length_set] at hil
   rcases getElem?_snoc hrc with hrc|⟨e,_⟩
   ·by_cases hi:i=id
    ·subst hi
     rw[List.getElem?_set_self hil] at hc
     cases hc
     simp[Blk.live] at hlc
    ·rw[List.getElem?_set_ne (fun e=>hi e.symm)] at hc
     exact .inl ⟨hi,hc,hrc⟩
   ·omega
  ·simp only[List.length_set] at e1
   rcases getElem?_snoc hrc with hrc|⟨e,e3⟩
   ·have:=(List.getElem?_eq_some_iff.1 hrc).1
    omega
   ·simp only[Prod.mk.injEq] at e3
    exact .inr ⟨e1,e2.symm,e3.1.symm,e3.2.symm⟩
 have hLM: ∀k,LMut (ρ++[(w.heap.size,x)]) (σ.set id .dead++[b]) k→LMut ρ σ k∨k=w.heap.size:=by
  rintro k ⟨i,c,y,g,hc,hlc,hrc,ho⟩
  rcases hset i c g y hc hlc hrc with⟨_,h3,h4⟩|⟨_,rfl,rfl,_⟩
  ·exact .inl ⟨i,c,y,g,h3,hlc,h4,ho⟩
  ·rcases hown k ho with h|h
   ·exact .inr h
   ·exact .inl (h ▸ hmL)
 have K:Keep (Mut F ρ σ) (Mut F (ρ++[(w.heap.size,x)]) (σ.set id .dead++[b])) w w':=by
  refine⟨by rw[hw];simp,fun k hk _=>hold k hk,?_,fun k hk=>by simp only[World.shape?,hold k hk]⟩
  rintro k hk (hF|h)
  ·exact .inl hF
  ·rcases hLM k h with h|h
   ·exact .inr h
   ·omega
 have hno: ∀(i:Nat) (c:Blk) (g' y k:Nat),i≠id→σ[i]? = some c→c.live=true→ρ[i]? = some (g',y)→c.owns g' k→k≠mb:=fun i c g' y k hi h1 h2 h3 h4 e=>
  hi (I.heap.inj' i id c b0 g' mb y n k h1 hb0 h2 hl0 h3 hr0 h4 (.inl e))
 refine⟨K,fun hd hc=> ?_⟩
 refine⟨⟨by simp[hlen],?_,?_,?_,I.heap.glob.keep K⟩,?_,by rw[hos,I.os],by rw[ht,I.tape],by rw[ho,I.output],by rw[hw];have:=I.size;simp;omega,?_,?_,?_,fun b hb=>hup b (I.foreign b hb),?_⟩
 ·intro i c g y hc' hr hl
  rcases hset i c g y hc' hl hr with⟨_,h3,h4⟩|⟨_,rfl,rfl,rfl⟩
  ·obtain⟨hd',hn,hg⟩:=I.heap.live i c g y h3 h4 hl
   exact⟨hd'.keep K (fun id g h=>getElem?_append_some h) fun k hk=>hold k (I.heap.lt i c g y k h3 h4 hl hk),hn,hup g hg⟩
  ·exact⟨hd,hc,by rw[hw];simp⟩
 ·intro i c g y k hc' hr hl hk
  rcases hset i c g y hc' hl hr with⟨_,h3,h4⟩|⟨_,rfl,rfl,rfl⟩
  ·exact hup k (I.heap.lt i c g y k h3 h4 hl hk)
  ·rcases hown k hk with h|h
   ·rw[h,hw];simp
   ·rw[h];exact hup mb hmbs
 ·intro i j bi bj g g' y z k hi hj hli hlj hri hrj hki hkj
  rcases hset i bi g y hi hli hri with⟨hni,h3,h4⟩|⟨e1,rfl,rfl,rfl⟩<;>rcases hset j bj g' z hj hlj hrj with⟨hnj,h5,h6⟩|⟨e2,rfl,rfl,rfl⟩
  ·exact I.heap.inj' i j bi bj g g' y z k h3 h5 hli hlj h4 h6 hki hkj
  ·have hlt:=I.heap.lt i bi g y k h3 h4 hli hki
   rcases hown k hkj with h|h
   ·omega
   ·exact absurd h (hno i bi g y k hni h3 hli h4 hki)
  ·have hlt:=I.heap.lt j bj g' z k h5 h6 hlj hkj
   rcases hown k hki with h|h
   ·omega
   ·exact absurd h (hno j bj g' z k hnj h5 hlj h6 hkj)
  ·omega
 ·obtain⟨r,hr⟩:=I.pre
  exact⟨r++[(w.heap.size,x)],by rw[hr,List.append_assoc]⟩
 ·intro k hk hne
  rw[hold k (Nat.lt_of_lt_of_le hk I.size),I.blk k hk hne]
 ·intro k hk
  rw[← I.shape k hk]
  simp only[World.shape?,hold k (Nat.lt_of_lt_of_le hk I.size)]
 ·intro g hg
  rcases hLM g hg with h|h
  ·exact I.fresh g h
  ·have:=I.size
   exact .inl (by omega)
 ·intro g hg hF
  rcases hLM g hg with h|h
  ·exact I.apart g h hF
  ·have:=I.foreign g hF
   omega
end
section
variable {w:World} {m:Nat→Prop} {ρ:List (Nat × Nat)} {P:Program}
theorem den_mints{wd:Nat}{a:AV}{xs:List Int}{u:Value}(h:mintsOf wd a=some xs)(hd:Den w m ρ a u):u=valI wd xs∧xs.length=wdI wd:=by
 unfold mintsOf at h
 split at h
 ·split at h
  ·rename_i h0
   subst h0
   cases h
   exact⟨hd,rfl⟩
  ·cases h
 ·rename_i l
  obtain⟨vs,rfl,hl⟩:=hd
  split at h
  ·rename_i ys hy
   split at h
   ·rename_i hc
    cases h
    obtain⟨h1,rfl⟩:=asInts_sound hy hl
    obtain⟨hc1,hc2⟩:=hc
    cases wd with
    |zero=>omega
    |succ n=>exact⟨rfl,hc1⟩
   ·cases h
  ·cases h
 ·cases h
theorem den_cells{n:Nat}{xs:List Int}(h:xs.length=n):All2 (DenS w m ρ) ((List.range n).map fun i=>SV.int .i64 (xs.getD i 0)) (xs.map (Value.int .i64)):=by
 refine All2.mk (by simp[h]) fun i a b ha hb=> ?_
 rw[List.getElem?_map] at ha hb
 have hi:i<n:=by
  rcases Nat.lt_or_ge i n with hi|hi
  ·exact hi
  ·rw[List.getElem?_eq_none (by simpa using hi)] at ha;simp at ha
 rw[List.getElem?_range hi] at ha
 rw[List.getElem?_eq_getElem (by omega)] at hb
 simp only[Option.map_some,Option.some.injEq] at ha hb
 subst ha hb
 show Value.int .i64 _=_
 rw[List.getD,List.getElem?_eq_getElem (by omega)]
 rfl
theorem den_avI{wd:Nat}{xs:List Int}(h:xs.length=wdI wd):Den w m ρ (avI wd xs) (valI wd xs):=by
 cases wd with
 |zero=>rfl
 |succ n=>exact⟨_,rfl,den_cells h⟩
theorem den_tvI{wd:Nat}{xs:List Int}(h:xs.length=wdI wd):DenT w m ρ (tvI wd xs) (valI wd xs):=by
 cases wd with
 |zero=>rfl
 |succ n=>exact⟨_,rfl,den_cells h⟩
theorem zeros_all{k:IntKind}: ∀{l:List SV} {vs:List Value},zeros k l=true→All2 (DenS w m ρ) l vs→vs=List.replicate l.length (.int k 0)
 |[],[],_,_=>rfl
 |[],_::_,_,h=>h.elim
 |_::_,[],_,h=>h.elim
 |s::l,u::vs,h,hl=>by
  unfold zeros at h
  split at h
  ·rename_i he;cases he
  ·rename_i k' n l' he
   cases he
   simp only[Bool.and_eq_true,decide_eq_true_eq,beq_iff_eq] at h
   obtain⟨rfl,rfl,h⟩:=h
   rw[zeros_all h hl.2]
   have:u= .int k' 0:=hl.1
   rw[this];rfl
  ·cases h
theorem zero_elem{et:TypeId}{vw:Nat}(h:elemT P et=some vw): ∃z,(zeroValue et).run P w= .ok z w∧Den w m ρ (avI vw []) z∧DenT w m ρ (tvI vw []) z:=by
 unfold elemT at h
 cases hi:P.info? et with
 |none=>rw[hi] at h;simp at h
 |some i=>
  rw[hi] at h
  simp only[Option.bind_some] at h
  split at h
  ·rename_i hz
   cases h
   exact⟨.int .i64 0,by simp[zeroValue,typeInfo,hi,hz],rfl,rfl⟩
  ·rename_i cs hz
   split at h
   ·rename_i z hs
    split at h
    ·rename_i hc
     cases h
     simp only[Bool.and_eq_true,Bool.not_eq_true',List.isEmpty_eq_false_iff] at hc
     obtain⟨hc1,hc2⟩:=hc
     have hall:=zeros_all (w:=w) (m:=m) (ρ:=ρ) hc1 (svcs_sound hs)
     have hl:0<z.length:=List.length_pos_iff.2 hc2
     have hcs:cs=(List.replicate z.length (Value.int .i64 0)).toArray:=by rw[← hall]
     obtain⟨n,hn⟩: ∃n,z.length=n+1:=⟨z.length-1,by omega⟩
     have hcell:All2 (DenS w m ρ) ((List.range (n+1)).map fun i=>SV.int .i64 (([]:List Int).getD i 0)) (List.replicate (n+1) (Value.int .i64 0)):=by
      refine All2.mk (by simp) fun i a b ha hb=> ?_
      rw[List.getElem?_map] at ha
      have hb':=List.eq_of_mem_replicate (List.mem_of_getElem? hb)
      cases hr:(List.range (n+1))[i]? with
      |none=>rw[hr] at ha;simp at ha
      |some j=>
       rw[hr] at ha
       simp only[Option.map_some,Option.some.injEq,List.getD_nil] at ha
       subst ha
       exact hb'
     refine⟨.agg cs,by simp[zeroValue,typeInfo,hi,hz],?_,?_⟩
     ·rw[hn,hcs,hn];exact⟨_,rfl,hcell⟩
     ·rw[hn,hcs,hn];exact⟨_,rfl,hcell⟩
    ·cases h
   ·cases h
  ·cases h
theorem keyT_cases{kt:TypeId}{kw:Nat}(h:keyT P kt=some kw):(kw=0∧P.underlying kt=some (.int .i64))∨
  (kw=2∧ ∃f g,P.underlying kt=some (.struct #[f,g])∧P.underlying f.type=some (.int .i64)∧P.underlying g.type=some (.int .i64)∧f.name ≠ "_" ∧ g.name ≠ "_" ∧ f.offset=0∧g.offset=1∧P.stoodInHeld kt=false):=by
 unfold keyT at h
 split at h
 ·rename_i hu;cases h;exact .inl ⟨rfl,hu⟩
 ·rename_i fs hu
  split at h
  ·rename_i f g hfs
   split at h
   ·rename_i hf hg
    split at h
    ·rename_i hc
     cases h
     obtain⟨c1,c2,c3,c4,c5⟩:=hc
     refine .inr ⟨rfl,f,g,?_,hf,hg,c1,c2,c3,c4,c5⟩
     rw[hu]
     congr 2
     rw[← Array.toList_inj,hfs]
    ·cases h
   ·cases h
  ·cases h
 ·cases h
theorem aggT_int{t:TypeId}{k:IntKind}(h:P.underlying t=some (.int k)):aggT P t=some false:=by simp[aggT,h]
theorem run_eqKey{kt:TypeId}{kw:Nat}(h:keyT P kt=some kw){a b:List Int}(ha:a.length=wdI kw)(hb:b.length=wdI kw):(Op.equal kt (valI kw a) (valI kw b)).run P w= .ok (a==b) w:=by
 rcases keyT_cases h with⟨rfl,hu⟩|⟨rfl,f,g,hu,hf,hg,c1,c2,c3,c4,c5⟩
 ·match a,b,ha,hb with
  |[x],[y],_,_=>
   show(Op.equalIn (9999+1) kt (.int .i64 x) (.int .i64 y)).run P w=_
   rw[run_equalIn_int w 9999 kt .i64 .i64 x y hu]
   congr 1
   by_cases e:x=y
   ·subst e;simp
   ·rw[beq_eq_false_iff_ne.2 e,beq_eq_false_iff_ne.2 (fun h=>e (by simpa using h))]
 ·match a,b,ha,hb with
  |[x,x'],[y,y'],_,_=>
   have he:eqAV P 2 kt (.agg [.int .i64 x,.int .i64 x']) (.agg [.int .i64 y,.int .i64 y'])=some (x==y&&x'==y'):=by
    simp[eqAV,hu,c1,c2,c3,c4,c5,eqL,partSV,aggT_int hf,aggT_int hg,hf,hg]
   have h1:=eqAV_sound (P:=P) (w:=w) (m:=fun _=>False) (ρ:=[]) 2 kt _ _ _ (.agg #[.int .i64 x,.int .i64 x']) (.agg #[.int .i64 y,.int .i64 y']) he ⟨_,rfl,rfl,rfl,trivial⟩ ⟨_,rfl,rfl,rfl,trivial⟩ 10000 (by decide)
   show(Op.equalIn 10000 kt (.agg #[.int .i64 x,.int .i64 x']) (.agg #[.int .i64 y,.int .i64 y'])).run P w=_
   rw[h1]
   congr 1
   by_cases e:x=y<;>by_cases e':x'=y'<;>simp[e,e']
theorem run_part_int{t:TypeId}{cs:Array Value}{off:Nat}{v:Value}{k:IntKind}(h:P.underlying t=some (.int k))(hv:cs[off]? = some v):(part t cs off).run P w= .ok v w:=by
 simp[part,isAgg,run_underlying h,hv]
theorem run_checkInt{t:TypeId}{k:IntKind}(h:P.underlying t=some (.int k))(e:Bool)(n:Nat)(v:Int):(Instr.checkKey e (n+1) t (.int k v)).run P w= .ok () w:=by
 simp[Instr.checkKey,run_underlying h]
theorem run_checkKeyI{kt:TypeId}{kw:Nat}(h:keyT P kt=some kw){a:List Int}(ha:a.length=wdI kw)(e:Bool):(Instr.checkKey e 10000 kt (valI kw a)).run P w= .ok () w:=by
 rcases keyT_cases h with⟨rfl,hu⟩|⟨rfl,f,g,hu,hf,hg,c1,c2,c3,c4,c5⟩
 ·exact run_checkInt hu e 9999 _
 ·match a,ha with
  |[x,x'],_=>
   show(Instr.checkKey e (9998+1+1) kt (.agg #[.int .i64 x,.int .i64 x'])).run P w=_
   rw[Instr.checkKey]
   have p1:(part f.type #[Value.int .i64 x,.int .i64 x'] f.offset).run P w= .ok (.int .i64 x) w:=run_part_int hf (by rw[c3];rfl)
   have p2:(part g.type #[Value.int .i64 x,.int .i64 x'] g.offset).run P w= .ok (.int .i64 x') w:=run_part_int hg (by rw[c4];rfl)
   simp[run_underlying hu,c1,c2,p1,p2,run_checkInt hf,run_checkInt hg,Result.andThen]
end
def fidx(k:List Int):List (List Int × List Int)→Nat→Option (Nat × List Int)
 |[],_=>none
 |x::l,i=>bif k==x.1 then some (i,x.2) else fidx k l (i+1)
theorem fidx_none{k v:List Int}: ∀{l:List (List Int × List Int)} {i:Nat},fidx k l i=none→aget l k=none∧aset l k v=l++[(k,v)]
 |[],_,_=>⟨rfl,rfl⟩
 |x::l,i,h=>by
  simp only[fidx] at h
  cases hk:k==x.1 with
  |true=>rw[hk] at h;cases h
  |false=>
   rw[hk,cond_false] at h
   obtain⟨h1,h2⟩:=fidx_none (v:=v) h
   simp only[aget,aset,hk,cond_false,h1,h2]
   exact⟨trivial,rfl⟩
theorem fidx_some{k v:List Int}: ∀{l:List (List Int × List Int)} {i j:Nat} {y:List Int},fidx k l i=some (j,y)→i≤j∧l[j-i]? = some (k,y)∧aget l k=some y∧aset l k v=l.set (j-i) (k,v)
 |[],_,_,_,h=>by cases h
 |x::l,i,j,y,h=>by
  simp only[fidx] at h
  cases hk:k==x.1 with
  |true=>
   rw[hk,cond_true] at h
   cases h
   have e:k=x.1:=by simpa using hk
   simp only[aget,aset,hk,cond_true,Nat.sub_self]
   refine⟨Nat.le_refl _,?_,trivial,rfl⟩
   rw[e];rfl
  |false=>
   rw[hk,cond_false] at h
   obtain⟨h1,h2,h3,h4⟩:=fidx_some (v:=v) h
   have e:j-i=(j-(i+1))+1:=by omega
   simp only[aget,aset,hk,cond_false,h3,h4]
   refine⟨by omega,?_,trivial,?_⟩
   ·rw[e];simpa using h2
   ·rw[e];rfl
section
variable {w:World} {P:Program}
theorem run_findAsking{kt:TypeId}{kw vw:Nat}(h:keyT P kt=some kw){k:List Int}(hk:k.length=wdI kw): ∀{es:List MapEntry} {l:List (List Int × List Int)} {i:Nat},All2 (EntAt kw vw) es l→
  (Instr.findAsking kt (valI kw k) es i).run P w= .ok ((fidx k l i).map fun p=>(p.1,valI vw p.2)) w
 |[],[],_,_=>rfl
 |[],_::_,_,h=>h.elim
 |_::_,[],_,h=>h.elim
 |e::es,x::l,i,hl=>by
  obtain⟨⟨e1,e2,e3,e4⟩,hl⟩:=hl
  simp only[Instr.findAsking,Sem.run_bind,e1,run_eqKey (w:=w) h hk e3,Result.andThen_ok,fidx]
  cases k==x.1 with
  |true=>simp[e2]
  |false=>
   simp only[cond_false,Bool.false_eq_true,if_false]
   exact run_findAsking h hk hl
theorem find_now{vw:Nat}{k:List Int}(hk:k.length=1): ∀{es:List MapEntry} {l:List (List Int × List Int)} {i:Nat},All2 (EntAt 0 vw) es l→
  Instr.findNow (.int .i64) (valI 0 k) es i=some ((fidx k l i).map fun p=>(p.1,valI vw p.2))
 |[],[],_,_=>rfl
 |[],_::_,_,h=>h.elim
 |_::_,[],_,h=>h.elim
 |e::es,x::l,i,hl=>by
  obtain⟨⟨e1,e2,e3,e4⟩,hl⟩:=hl
  match k,hk,x,e1,e3 with
  |[a],_,([b],y),e1,_=>
   have e5:([a]==[b])=(a==b):=by
    by_cases e:a=b
    ·subst e;simp
    ·rw[beq_eq_false_iff_ne.2 e,beq_eq_false_iff_ne.2 (fun h=>e (by simpa using h))]
   have e6:Instr.sameNow (.int .i64) (valI 0 [a]) e.key=some (a==b):=by
    rw[e1]
    show(if IntKind.i64=IntKind.i64 then some (a==b) else none)=_
    rw[if_pos rfl]
   unfold Instr.findNow
   rw[e6]
   simp only[fidx,e5]
   cases hab:a==b with
   |true=>simp[e2]
   |false=>
    simp only[cond_false]
    exact find_now (k:=[a]) rfl hl
theorem find_now2{fs:Array Field}{k:List Int}{es:List MapEntry}:Instr.findNow (.struct fs) (valI 2 k) es 0=if es=[] then some none else none:=by
 cases es with
 |nil=>rfl
 |cons e es=>
  have:Instr.sameNow (.struct fs) (valI 2 k) e.key=none:=rfl
  unfold Instr.findNow
  rw[this]
  simp
theorem run_findKeyI{kt:TypeId}{kw vw:Nat}(h:keyT P kt=some kw){k:List Int}(hk:k.length=wdI kw){es:List MapEntry}{l:List (List Int × List Int)}(hl:All2 (EntAt kw vw) es l):
  (Instr.findKey kt (valI kw k) es).run P w= .ok ((fidx k l 0).map fun p=>(p.1,valI vw p.2)) w:=by
 rcases keyT_cases h with⟨rfl,hu⟩|⟨rfl,f,g,hu,_⟩
 ·simp only[Instr.findKey,Sem.run_bind,run_underlying hu,Result.andThen_ok,find_now hk hl]
  rfl
 ·simp only[Instr.findKey,Sem.run_bind,run_underlying hu,Result.andThen_ok]
  rw[find_now2]
  cases es with
  |nil=>
   cases l with
   |nil=>rfl
   |cons _ _=>exact hl.elim
  |cons e es=>
   simp only[List.cons_ne_nil,if_false]
   exact run_findAsking h hk hl
theorem sameBitsI{kw:Nat}(hkw:kw=0∨kw=2){k:List Int}(hk:k.length=wdI kw):Instr.sameBits 10000 (valI kw k) (valI kw k)=true:=by
 rcases hkw with rfl|rfl
 ·show(IntKind.i64==IntKind.i64&&(k.getD 0 0)==(k.getD 0 0))=true
  simp
 ·match k,hk with
  |[x,x'],_=>
   show Instr.sameBits (9999+1) (.agg #[.int .i64 x,.int .i64 x']) (.agg #[.int .i64 x,.int .i64 x'])=true
   simp[Instr.sameBits]
theorem mapT_spec{t:TypeId}{kw vw:Nat}(h:mapT P t=some (kw,vw)): ∃kt et,P.underlying t=some (.map kt et)∧keyT P kt=some kw∧elemT P et=some vw:=by
 unfold mapT at h
 split at h
 ·rename_i kt et hu
  split at h
  ·rename_i a b h1 h2
   cases h
   exact⟨kt,et,hu,h1,h2⟩
  ·cases h
 ·cases h
theorem run_lookupI{t:TypeId}{kw vw g:Nat}(ht:mapT P t=some (kw,vw)){es:Array MapEntry}{clock:Nat}{l:List (List Int × List Int)}(hg:w.heap[g]? = some (.map es clock))(hl:All2 (EntAt kw vw) es.toList l)
  {k:List Int} (hk:k.length=wdI kw) (ok:Bool) {m:Nat→Prop} {ρ:List (Nat × Nat)}: ∃v,(Instr.lookup t (.map (some g)) (valI kw k) ok).run P w= .ok (if ok then .tuple #[v,.bool (ahas l k)] else v) w∧Den w m ρ (avI vw (agetD l k)) v∧DenT w m ρ (tvI vw (agetD l k)) v:=by
 obtain⟨kt,et,hu,h1,h2⟩:=mapT_spec ht
 obtain⟨z,hz,hz1,hz2⟩:=zero_elem (w:=w) (m:=m) (ρ:=ρ) h2
 cases hf:fidx k l 0 with
 |none=>
  obtain⟨ha,_⟩:=fidx_none (v:=[]) hf
  refine⟨z,?_,?_,?_⟩
  ·simp only[Instr.lookup,Sem.run_bind,run_underlying hu,Result.andThen_ok,MapKept.run_getObj_map hg,Sem.run_pure,run_checkKeyI h1 hk,run_findKeyI h1 hk hl,hf,Option.map_none,hz]
   simp[ahas,ha]
  ·simpa [agetD,ha] using hz1
  ·simpa [agetD,ha] using hz2
 |some p=>
  obtain⟨j,y⟩:=p
  obtain⟨_,hj,ha,_⟩:=fidx_some (v:=[]) hf
  have hy:y.length=wdI vw:=by
   obtain⟨e,he,hE⟩: ∃e,es.toList[j-0]? = some e∧EntAt kw vw e (k,y):=by
    have hlen:=hl.length
    have hlt:j-0<es.toList.length:=by rw[hlen];exact(List.getElem?_eq_some_iff.1 hj).1
    obtain⟨b,hb,hE⟩:=hl.get (List.getElem?_eq_getElem hlt)
    rw[hj] at hb
    cases hb
    exact⟨_,List.getElem?_eq_getElem hlt,hE⟩
   exact hE.2.2.2
  refine⟨valI vw y,?_,?_,?_⟩
  ·simp only[Instr.lookup,Sem.run_bind,run_underlying hu,Result.andThen_ok,MapKept.run_getObj_map hg,Sem.run_pure,run_checkKeyI h1 hk,run_findKeyI h1 hk hl,hf,Option.map_some]
   simp[ahas,ha]
  ·simpa [agetD,ha] using den_avI (w:=w) (m:=m) (ρ:=ρ) hy
  ·simpa [agetD,ha] using den_tvI (w:=w) (m:=m) (ρ:=ρ) hy
theorem run_updateI{t:TypeId}{kw vw g:Nat}(ht:mapT P t=some (kw,vw)){es:Array MapEntry}{clock:Nat}{l:List (List Int × List Int)}(hg:w.heap[g]? = some (.map es clock))(hl:MapEs kw vw es clock l)
  {k v:List Int} (hk:k.length=wdI kw) (hv:v.length=wdI vw): ∃es' clock',(Instr.mapUpdate t (.map (some g)) (valI kw k) (valI vw v)).run P w= .ok () { w with heap:=w.heap.setIfInBounds g (.map es' clock') }∧MapEs kw vw es' clock' (aset l k v):=by
 obtain⟨kt,et,hu,h1,h2⟩:=mapT_spec ht
 obtain⟨hl1,hl2,hl3⟩:=hl
 have hkw:kw=0∨kw=2:=by rcases keyT_cases h1 with⟨h,_⟩|⟨h,_⟩<;>omega
 cases hf:fidx k l 0 with
 |none=>
  obtain⟨_,ha⟩:=fidx_none (v:=v) hf
  refine⟨es.push { key:=valI kw k,val:=valI vw v,born:=clock },clock+1,?_,?_,?_,?_⟩
  ·simp only[Instr.mapUpdate,Sem.run_bind,run_underlying hu,Result.andThen_ok,MapKept.run_getObj_map hg,run_checkKeyI h1 hk,run_findKeyI h1 hk hl1,hf,Option.map_none,MapKept.run_setObj_map _ hg]
  ·rw[ha,Array.toList_push]
   exact All2.append hl1 ⟨⟨rfl,rfl,hk,hv⟩,trivial⟩
  ·rw[Array.toList_push,List.map_append,List.nodup_append]
   refine⟨hl2,by simp,fun a ha b hb=> ?_⟩
   simp only[List.map_cons,List.map_nil,List.mem_singleton] at hb
   subst hb
   obtain⟨e,he,rfl⟩:=List.mem_map.1 ha
   exact Nat.ne_of_lt (hl3 e he)
  ·intro e he
   rw[Array.toList_push,List.mem_append] at he
   rcases he with he|he
   ·exact Nat.lt_succ_of_lt (hl3 e he)
   ·simp only[List.mem_singleton] at he
    subst he
    exact Nat.lt_succ_self _
 |some p=>
  obtain⟨j,y⟩:=p
  obtain⟨_,hj,_,ha⟩:=fidx_some (v:=v) hf
  rw[Nat.sub_zero] at hj ha
  have hlen:=hl1.length
  have hlt:j<es.toList.length:=by rw[hlen];exact(List.getElem?_eq_some_iff.1 hj).1
  have hlt':j<es.size:=by simpa using hlt
  obtain⟨b,hb,hE⟩:=hl1.get (List.getElem?_eq_getElem hlt)
  rw[hj] at hb
  cases hb
  have hkey:es[j].key=valI kw k:=by simpa using hE.1
  have hgetkey:((es[j]?).map (·.key)).getD (valI kw k)=valI kw k:=by rw[Array.getElem?_eq_getElem hlt'];simpa using hkey
  refine⟨es.modify j fun e=>{ e with key:=valI kw k,val:=valI vw v },clock,?_,?_,?_,?_⟩
  ·simp only[Instr.mapUpdate,Sem.run_bind,run_underlying hu,Result.andThen_ok,MapKept.run_getObj_map hg,run_checkKeyI h1 hk,run_findKeyI h1 hk hl1,hf,Option.map_some,hgetkey,Instr.keyThatStays,sameBitsI hkw hk,if_true,Sem.run_pure,MapKept.run_setObj_map _ hg]
  ·rw[ha]
   refine All2.mk (by simp[hlen]) fun i a b hi hb=> ?_
   rw[Array.getElem?_toList,Array.getElem?_modify] at hi
   by_cases hij:j=i
   ·subst hij
    rw[if_pos rfl,Array.getElem?_eq_getElem hlt'] at hi
    rw[List.getElem?_set_self (by omega)] at hb
    simp only[Option.map_some,Option.some.injEq] at hi
    cases hb
    subst hi
    exact⟨rfl,rfl,hk,hv⟩
   ·rw[if_neg hij] at hi
    rw[List.getElem?_set_ne hij] at hb
    rw[← Array.getElem?_toList] at hi
    obtain⟨b',hb',hE'⟩:=hl1.get hi
    rw[hb] at hb'
    cases hb'
    exact hE'
  ·have:(es.modify j fun e=>{ e with key:=valI kw k,val:=valI vw v }).toList.map (·.born)=es.toList.map (·.born):=by
    apply List.ext_getElem?
    intro i
    rw[List.getElem?_map,List.getElem?_map,Array.getElem?_toList,Array.getElem?_toList,Array.getElem?_modify]
    by_cases hij:j=i
    ·subst hij;rw[if_pos rfl,Option.map_map];rfl
    ·rw[if_neg hij]
   rw[this];exact hl2
  ·intro e he
   obtain⟨i,hi⟩:=List.mem_iff_getElem?.1 he
   rw[Array.getElem?_toList,Array.getElem?_modify] at hi
   by_cases hij:j=i
   ·subst hij
    rw[if_pos rfl,Array.getElem?_eq_getElem hlt'] at hi
    simp only[Option.map_some,Option.some.injEq] at hi
    subst hi
    exact hl3 es[j] (by simp)
   ·rw[if_neg hij,← Array.getElem?_toList] at hi
    exact hl3 e (List.mem_of_getElem? hi)
end
theorem heap_set_same{w:World}{g:Nat}{o:Obj}(h:g<w.heap.size):({ w with heap:=w.heap.setIfInBounds g o }:World).heap[g]? = some o:=by
 show(w.heap.setIfInBounds g o)[g]? = some o
 rw[Array.getElem?_setIfInBounds,if_pos rfl,if_pos h]
theorem heap_set_other{w:World}{g k:Nat}{o:Obj}(h:k≠g):({ w with heap:=w.heap.setIfInBounds g o }:World).heap[k]? = w.heap[k]? := by
 show(w.heap.setIfInBounds g o)[k]? = w.heap[k]?
 rw[Array.getElem?_setIfInBounds,if_neg (fun e=>h e.symm)]
section
variable {F:Nat→Prop} {E:Env} {w0 w:World} {m0:Nat→Prop} {ρ0 ρ:List (Nat × Nat)} {s:St} {k:AV→List Blk→Prop}
theorem evMakeMap_sound(I:Inv F w0 m0 ρ0 ρ s.σ w){t:TypeId}{kw vw:Nat}(hk:k (.one (.mapv s.σ.length)) (s.σ++[.map kw vw []])):
  ∃u w',(Instr.makeMap t none).run E.P w= .ok u w'∧Done F w0 m0 ρ0 ρ s.σ w True k u w':=by
 obtain⟨K,hI⟩:=grow (n:=0) (b:= .map kw vw []) (w':=w.alloc (.map #[] 0)) I rfl (fun i b h _=>h) rfl rfl rfl rfl trivial
 refine⟨.map (some w.heap.size),w.alloc (.map #[] 0),rfl,_,_,_,hk,hI ⟨#[],0,by show(w.heap.push _)[w.heap.size]? = _;simp,trivial,by simp,by simp⟩ rfl,⟨_,rfl⟩,K,⟨w.heap.size,0,?_,rfl⟩,fun _=>⟨⟨_,rfl⟩,Prefix_push rfl⟩⟩
 rw[← I.heap.len];simp
theorem evMapUpdate_sound(I:Inv F w0 m0 ρ0 ρ s.σ w){t:TypeId}{kw vw id:Nat}{l:List (List Int × List Int)}{ak av:AV}{um uk uv:Value}{a b:List Int}(ht:mapT E.P t=some (kw,vw))(hb:s.σ[id]? = some (.map kw vw l))
  (hm:Den w (Mut F ρ s.σ) ρ (.one (.mapv id)) um) (ha:mintsOf kw ak=some a) (hav:mintsOf vw av=some b) (hka:Den w (Mut F ρ s.σ) ρ ak uk) (hva:Den w (Mut F ρ s.σ) ρ av uv) (hk:k .any (s.σ.set id (.map kw vw (aset l a b)))):
  ∃w',(Instr.mapUpdate t um uk uv).run E.P w= .ok () w'∧Done F w0 m0 ρ0 ρ s.σ w False k undef w':=by
 obtain⟨g,n,hg,rfl⟩:=hm
 obtain⟨⟨es,clock,h1,h2⟩,hn,hlt⟩:=I.heap.live id _ g n hb hg rfl
 obtain⟨rfl,hla⟩:=den_mints ha hka
 obtain⟨rfl,hlb⟩:=den_mints hav hva
 obtain⟨es',clock',hrun,hes⟩:=run_updateI (w:=w) ht h1 h2 hla hlb
 obtain⟨K,hI⟩:=wroteO (b':= .map kw vw (aset l a b)) (w':={ w with heap:=w.heap.setIfInBounds g (.map es' clock') }) I hb rfl hg (fun k hk=>heap_set_other hk) (by simp) (by simp only[World.shape?,heap_set_same hlt,h1]) rfl rfl rfl rfl (fun k hk=>hk)
 exact⟨_,hrun,_,_,ρ,hk,hI ⟨es',clock',heap_set_same hlt,hes⟩ hn,⟨[],by simp⟩,K,trivial,fun h=>h.elim⟩
theorem evLookup_sound(I:Inv F w0 m0 ρ0 ρ s.σ w){t:TypeId}{kw vw id:Nat}{l:List (List Int × List Int)}{ak:AV}{um uk:Value}{a:List Int}{ok:Bool}(ht:mapT E.P t=some (kw,vw))(hb:s.σ[id]? = some (.map kw vw l))
  (hm:Den w (Mut F ρ s.σ) ρ (.one (.mapv id)) um) (ha:mintsOf kw ak=some a) (hka:Den w (Mut F ρ s.σ) ρ ak uk) (hk:k (if ok then .tup [tvI vw (agetD l a),.one (.bool (ahas l a))] else avI vw (agetD l a)) s.σ):
  ∃u w',(Instr.lookup t um uk ok).run E.P w= .ok u w'∧Done F w0 m0 ρ0 ρ s.σ w True k u w':=by
 obtain⟨g,n,hg,rfl⟩:=hm
 obtain⟨⟨es,clock,h1,h2⟩,hn,hlt⟩:=I.heap.live id _ g n hb hg rfl
 obtain⟨rfl,hla⟩:=den_mints ha hka
 obtain⟨v,hrun,d1,d2⟩:=run_lookupI (w:=w) (m:=Mut F ρ s.σ) (ρ:=ρ) ht h1 h2.1 hla ok
 refine⟨_,w,hrun,_,_,ρ,hk,I,⟨[],by simp⟩,Keep.refl _ _,?_,fun _=>⟨⟨[],by simp⟩,fun _ _=>rfl⟩⟩
 cases ok with
 |true=>exact⟨[v,.bool _],rfl,d2,rfl,trivial⟩
 |false=>exact d1
theorem unseen_nil(es:Array MapEntry):unseen es #[]=es.toList:=by
 unfold unseen
 rw[List.filter_eq_self]
 intro a _
 simp
theorem evRangeMap_sound(I:Inv F w0 m0 ρ0 ρ s.σ w){t:TypeId}{kw vw id:Nat}{l:List (List Int × List Int)}{um:Value}(ht:mapT E.P t=some (kw,vw))(hb:s.σ[id]? = some (.map kw vw l))
  (hm:Den w (Mut F ρ s.σ) ρ (.one (.mapv id)) um) (hk: ∀m,k (.one (.ptr s.σ.length 1 0 0)) (s.σ.set id .dead++[.iter m kw vw l none])):
  ∃u w',(Instr.range t um).run E.P w= .ok u w'∧Done F w0 m0 ρ0 ρ s.σ w False k u w':=by
 obtain⟨g,n,hg,rfl⟩:=hm
 obtain⟨⟨es,clock,h1,h2⟩,hn,hlt⟩:=I.heap.live id _ g n hb hg rfl
 obtain⟨kt,et,hu,_⟩:=mapT_spec ht
 obtain⟨K,hI⟩:=growOver (b:= .iter g kw vw l none) (x:=0) (w':=w.alloc (.mapIter (some g) clock #[] clock)) I hb rfl hg trivial rfl rfl rfl rfl (fun k hk=>hk)
 refine⟨.pointer (some ⟨w.heap.size,0,none⟩),w.alloc (.mapIter (some g) clock #[] clock),?_,_,_,_,hk g,hI ⟨es,clock,#[],?_,?_,h2.2.1,h2.2.2,?_,fun x hx=>by cases hx⟩ rfl,⟨_,rfl⟩,K,⟨w.heap.size,0,?_,rfl⟩,fun h=>h.elim⟩
 ·simp only[Instr.range,Sem.run_bind,run_underlying hu,Result.andThen_ok,MapKept.run_getObj_map h1]
  rfl
 ·show(w.heap.push _)[w.heap.size]? = _
  simp
 ·show(w.heap.push _)[g]? = _
  rw[Array.getElem?_push,if_neg (by omega)];exact h1
 ·rw[unseen_nil];exact h2.1
 ·rw[← I.heap.len];simp
theorem left_unseen(es:Array MapEntry)(seen:Array Nat):(leftOf es seen).toList=unseen es seen:=by
 unfold leftOf unseen
 rw[Array.toList_filter]
theorem filter_erase: ∀{L:List MapEntry} {i:Nat} {e:MapEntry},(L.map (·.born)).Nodup→L[i]? = some e→L.filter (fun x=>x.born != e.born)=L.eraseIdx i
 |[],i,e,_,h=>by simp at h
 |x::L,0,e,hn,h=>by
  simp at h
  subst h
  simp only[List.map_cons,List.nodup_cons] at hn
  rw[List.filter_cons,bne_self_eq_false]
  simp only[Bool.false_eq_true,if_false,List.eraseIdx_cons_zero]
  rw[List.filter_eq_self]
  intro a ha
  rw[bne_iff_ne]
  intro e
  exact hn.1 (List.mem_map.2 ⟨a,ha,e⟩)
 |x::L,i+1,e,hn,h=>by
  simp only[List.map_cons,List.nodup_cons] at hn
  simp only[List.getElem?_cons_succ] at h
  have hne:(x.born != e.born)=true:=by
   rw[bne_iff_ne]
   intro h'
   exact hn.1 (List.mem_map.2 ⟨e,List.mem_of_getElem? h,h'.symm⟩)
  rw[List.filter_cons,hne]
  simp only[if_true,List.eraseIdx_cons_succ]
  rw[filter_erase hn.2 h]
theorem unseen_push(es:Array MapEntry)(seen:Array Nat)(hn:(es.toList.map (·.born)).Nodup){i:Nat}{e:MapEntry}(h:(unseen es seen)[i]? = some e):unseen es (seen.push e.born)=(unseen es seen).eraseIdx i:=by
 have h1:unseen es (seen.push e.born)=(unseen es seen).filter (fun x=>x.born != e.born):=by
  unfold unseen
  rw[List.filter_filter]
  congr 1
  funext x
  simp only[Array.contains_push,bne,Bool.not_or]
  rw[Bool.and_comm]
  try congr 1
  try rw[beq_comm_nat]
 rw[h1]
 exact filter_erase (List.Nodup.sublist (List.Sublist.map _ List.filter_sublist) hn) h
where
 beq_comm_nat {a b:Nat}:(!(a==b))=(!(b==a)):=by
  by_cases h:a=b
  ·subst h;rfl
  ·rw[beq_eq_false_iff_ne.2 h,beq_eq_false_iff_ne.2 (fun e=>h e.symm)]
theorem all2_erase{α β:Type}{R:α→β→Prop}: ∀{l:List α} {k:List β} (i:Nat),All2 R l k→All2 R (l.eraseIdx i) (k.eraseIdx i)
 |[],[],_,_=>trivial
 |[],_::_,_,h=>h.elim
 |_::_,[],_,h=>h.elim
 |_::_,_::_,0,h=>h.2
 |_::_,_::_,i+1,h=>⟨h.1,all2_erase i h.2⟩
theorem evNext_sound(I:Inv F w0 m0 ρ0 ρ s.σ w){kw vw id mb:Nat}{rem:List (List Int × List Int)}{cur:Option (List Int × List Int)}{ui:Value}{ty:TypeId}(hb:s.σ[id]? = some (.iter mb kw vw rem cur))
  (hm:Den w (Mut F ρ s.σ) ρ (.one (.ptr id 1 0 0)) ui) (hk0:rem=[]→k (.tup [.one (.bool false)]) s.σ)
  (hk1: ∀(i:Nat) (x:List Int × List Int),rem[i]? = some x→k (.tup [.one (.bool true),tvI kw x.1,tvI vw x.2]) (s.σ.set id (.iter mb kw vw (rem.eraseIdx i) (some x)))):
  ∃u w',(Instr.next ui false ty).run E.P w= .ok u w'∧Done F w0 m0 ρ0 ρ s.σ w False k u w':=by
 obtain⟨g,n,hg,rfl⟩:=hm
 obtain⟨⟨es,clock,seen,h1,h2,h3,h4,h5,h6⟩,hn,hlt⟩:=I.heap.live id _ g n hb hg rfl
 rcases run_next_at (P:=E.P) w ty g mb clock clock seen es clock h1 h2 h4 (Nat.le_refl _) with⟨hl,hrun⟩|⟨e,he,w1,hw1,hrun⟩
 ·have h0:unseen es seen=[]:=by rw[← left_unseen];exact List.eq_nil_of_length_eq_zero (by simpa using hl)
  rw[h0] at h5
  have hr:rem=[]:=by cases rem with
   |nil=>rfl
   |cons _ _=>exact h5.elim
  exact⟨_,w,hrun,_,_,ρ,hk0 hr,I,⟨[],by simp⟩,Keep.refl _ _,⟨[.bool false],rfl,rfl,trivial⟩,fun h=>h.elim⟩
 ·rw[left_unseen] at he
  obtain⟨i,hi⟩:=List.mem_iff_getElem?.1 he
  have hrl:i<rem.length:=by rw[← h5.length];exact(List.getElem?_eq_some_iff.1 hi).1
  obtain⟨x,hx,hE⟩:=h5.get hi
  have hheap:w1.heap=w.heap:=by rcases hw1 with rfl|rfl<;>rfl
  have hos:w1.os=w.os:=by rcases hw1 with rfl|rfl<;>rfl
  have htp:w1.tape=w.tape:=by rcases hw1 with rfl|rfl<;>rfl
  have hout:w1.output=w.output:=by rcases hw1 with rfl|rfl<;>rfl
  have hsame:(Go.ChangeMaps.setBlock w1 g (.mapIter (some mb) clock (seen.push e.born) clock)).heap[g]? = some (.mapIter (some mb) clock (seen.push e.born) clock):=by
   show(w1.heap.setIfInBounds g _)[g]? = _
   rw[hheap,Array.getElem?_setIfInBounds,if_pos rfl,if_pos hlt]
  have hoth: ∀k,k≠g→(Go.ChangeMaps.setBlock w1 g (.mapIter (some mb) clock (seen.push e.born) clock)).heap[k]? = w.heap[k]? := by
   intro k hk
   show(w1.heap.setIfInBounds g _)[k]? = _
   rw[hheap,Array.getElem?_setIfInBounds,if_neg (fun e=>hk e.symm)]
  obtain⟨K,hI⟩:=wroteO (b':= .iter mb kw vw (rem.eraseIdx i) (some x)) (w':=Go.ChangeMaps.setBlock w1 g (.mapIter (some mb) clock (seen.push e.born) clock)) I hb rfl hg hoth
   (by show(w1.heap.setIfInBounds g _).size=_;rw[hheap];simp) (by simp only[World.shape?,hsame,h1]) hos htp hout rfl (fun k hk=>hk)
  have hne:mb≠g:=by
   intro e
   rw[e,h1] at h2
   cases h2
  refine⟨_,_,hrun,_,_,ρ,hk1 i x hx,hI ⟨es,clock,seen.push e.born,hsame,(hoth mb hne).trans h2,h3,h4,?_,?_⟩ hn,⟨[],by simp⟩,K,?_,fun h=>h.elim⟩
  ·rw[unseen_push es seen h3 hi]
   exact all2_erase i h5
  ·intro y hy
   cases hy
   exact⟨e,seen,(List.mem_filter.1 he).1,rfl,hE⟩
  ·refine⟨[.bool true,e.key,e.val],rfl,rfl,?_,?_,trivial⟩
   ·rw[hE.1];exact den_tvI hE.2.2.1
   ·rw[hE.2.1];exact den_tvI hE.2.2.2
theorem evEntry_sound(I:Inv F w0 m0 ρ0 ρ s.σ w){kw vw id mb:Nat}{rem:List (List Int × List Int)}{x:List Int × List Int}{ui:Value}(hb:s.σ[id]? = some (.iter mb kw vw rem (some x)))
  (hm:Den w (Mut F ρ s.σ) ρ (.one (.ptr id 1 0 0)) ui) (hk:k (.tup [tvI kw x.1,tvI vw x.2]) s.σ):
  ∃u w',(Instr.entry ui).run E.P w= .ok u w'∧Done F w0 m0 ρ0 ρ s.σ w True k u w':=by
 obtain⟨g,n,hg,rfl⟩:=hm
 obtain⟨⟨es,clock,seen,h1,h2,h3,h4,h5,h6⟩,hn,hlt⟩:=I.heap.live id _ g n hb hg rfl
 obtain⟨e,sn,he,hs,hE⟩:=h6 x rfl
 subst hs
 have hrun:=run_entry_at (P:=E.P) w g mb clock sn es clock e h1 h2 he h3
 refine⟨_,w,hrun,_,_,ρ,hk,I,⟨[],by simp⟩,Keep.refl _ _,⟨[e.key,e.val],rfl,?_,?_,trivial⟩,fun _=>⟨⟨[],by simp⟩,fun _ _=>rfl⟩⟩
 ·rw[hE.1];exact den_tvI hE.2.2.1
 ·rw[hE.2.1];exact den_tvI hE.2.2.2
end
end Go.Ev
