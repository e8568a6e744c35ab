/-
  Part of the proof that TopClickOnly holds.
-/
import Derived.Test.YtgkngjjnpiheoaaT06
import Derived.Laws.IdiomCopy
set_option linter.unusedVariables false
set_option linter.unusedSimpArgs false
set_option linter.unusedSectionVars false
namespace Go.Ev
open Go Go.RowKit
variable [Glob]
section
variable {F:Nat→Prop} {P:Program} {w:World} {m:Nat→Prop} {ρ:List (Nat × Nat)}
theorem overC_get{k:IntKind}{ys:List Int}: ∀{l:List SV} {j:Nat} {r:List SV},overC k ys j l=some r→r.length=l.length∧ ∀(o:Nat) (sv:SV),r[o]? = some sv→ ∃a,l[o]? = some (.int k a)∧sv= .int k (bif decide (j+o<ys.length) then ys.getD (j+o) 0 else a)
 |[],j,r,h=>by
  simp only[overC,Option.some.injEq] at h
  subst h
  exact⟨rfl,fun o sv h=>by simp at h⟩
 |s::l,j,r,h=>by
  cases s with
  |int k' a=>
   simp only[overC] at h
   split at h
   ·rename_i hk
    subst hk
    cases hr:overC k' ys (j+1) l with
    |none=>rw[hr] at h;simp at h
    |some r'=>
     rw[hr] at h
     simp only[Option.map_some,Option.some.injEq] at h
     subst h
     obtain⟨h1,h2⟩:=overC_get hr
     refine⟨by simp[h1],fun o sv ho=> ?_⟩
     cases o with
     |zero=>
      simp only[List.getElem?_cons_zero,Option.some.injEq] at ho
      exact⟨a,rfl,ho.symm⟩
     |succ o=>
      simp only[List.getElem?_cons_succ] at ho
      obtain⟨b,h3,h4⟩:=h2 o sv ho
      refine⟨b,by simpa using h3,?_⟩
      rw[h4,show j+1+o=j+(o+1) by omega]
   ·cases h
  |_=>simp[overC] at h
theorem copyTo_sound{b b':Blk}{wd i n g:Nat}{k:IntKind}{ys:List Int}{cs:List Value}(h:b.copyTo wd i n k ys=some (true,b'))(hb:DenBlk w m ρ g b)(hcs:cs.length=min ys.length n)
  (hv: ∀(j:Nat) (y:Int),j<n→ys[j]? = some y→cs[j]? = some (.int k y)):
  b.live=true∧b'.live=true∧b'.count=b.count∧wd=1∧ ∃arr t,w.heap[g]? = some (.cells arr t (0,0))∧i+cs.length≤arr.size∧
   ∀(w':World) (m':Nat→Prop),w'.heap[g]? = some (.cells (splice arr i cs) t (0,0))→Keep m m' w w'→DenBlk w' m' ρ g b':=by
 unfold Blk.copyTo at h
 split at h
 ·rename_i t k' xs
  split at h
  ·rename_i hc
   obtain⟨hw,rfl⟩:=hc
   simp only[Option.some.injEq,Prod.mk.injEq,decide_eq_true_eq] at h
   obtain⟨hin,rfl⟩:=h
   obtain⟨arr,ha,hc⟩:=hb
   have hsz:xs.length≤arr.size:=by
    rcases Nat.eq_zero_or_pos xs.length with h0|h0
    ·omega
    ·have:=hc (xs.length-1) _ (List.getElem?_eq_getElem (by omega))
     have:=(Array.getElem?_eq_some_iff.1 this).1
     omega
   have hfit:i+cs.length≤arr.size:=by omega
   refine⟨rfl,rfl,by simp[Blk.count,Row.count];omega,hw,arr,t,ha,hfit,fun w' m' hg K=>⟨_,hg,fun j x hj=> ?_⟩⟩
   dsimp only
   rw[List.append_assoc] at hj
   rcases Nat.lt_or_ge j i with h1|h1
   ·rw[List.getElem?_append_left (by simp;omega),List.getElem?_take_of_lt h1] at hj
    rw[splice_out hfit (.inl h1)]
    exact hc j x hj
   ·rw[List.getElem?_append_right (by simp;omega)] at hj
    have e:j-(xs.take i).length=j-i:=by simp;omega
    rw[e] at hj
    rcases Nat.lt_or_ge (j-i) (min ys.length n) with h2|h2
    ·rw[List.getElem?_append_left (by simp;omega),List.getElem?_take_of_lt (by omega)] at hj
     have h3:=hv (j-i) x (by omega) hj
     have:=splice_in hfit (j:=j-i) (by omega)
     rw[← h3,← this]
     congr 1;omega
    ·rw[List.getElem?_append_right (by simp;omega),List.getElem?_drop] at hj
     rw[splice_out hfit (.inr (by omega))]
     have e2:i+min ys.length n+(j-i-(List.take n ys).length)=j:=by simp;omega
     rw[e2] at hj
     exact hc j x hj
  ·cases h
 ·rename_i l
  split at h
  ·rename_i hc
   obtain⟨hw,hin⟩:=hc
   cases hov:overC k ys 0 ((l.drop i).take n) with
   |none=>rw[hov] at h;simp at h
   |some r=>
    rw[hov] at h
    simp only[Option.map_some,Option.some.injEq,Prod.mk.injEq,true_and] at h
    subst h
    obtain⟨hrl,hr⟩:=overC_get hov
    obtain⟨arr,t,ha,hc⟩:=hb
    have hrl':r.length=n:=by rw[hrl];simp;omega
    have hsz:l.length≤arr.size:=by
     rcases Nat.eq_zero_or_pos l.length with h0|h0
     ·omega
     ·obtain⟨u,hu,_⟩:=hc (l.length-1) _ (List.getElem?_eq_getElem (by omega))
      have:=(Array.getElem?_eq_some_iff.1 hu).1
      omega
    have hfit:i+cs.length≤arr.size:=by omega
    refine⟨rfl,rfl,by simp[Blk.count];omega,hw,arr,t,ha,hfit,fun w' m' hg K=>⟨_,t,hg,fun j sv hj=> ?_⟩⟩
    rw[List.append_assoc] at hj
    rcases Nat.lt_or_ge j i with h1|h1
    ·rw[List.getElem?_append_left (by simp;omega),List.getElem?_take_of_lt h1] at hj
     obtain⟨u,hu,hd⟩:=hc j sv hj
     exact⟨u,by rw[splice_out hfit (.inl h1)];exact hu,hd.keep K fun _ _ h=>h⟩
    ·rw[List.getElem?_append_right (by simp;omega)] at hj
     have e:j-(l.take i).length=j-i:=by simp;omega
     rw[e] at hj
     rcases Nat.lt_or_ge (j-i) n with h2|h2
     ·rw[List.getElem?_append_left (by omega)] at hj
      obtain⟨a,h3,rfl⟩:=hr _ _ hj
      rw[List.getElem?_take_of_lt h2,List.getElem?_drop,show i+(j-i)=j by omega] at h3
      obtain⟨u,hu,hd⟩:=hc j _ h3
      simp only[Nat.zero_add]
      by_cases h4:j-i<ys.length
      ·have h5:=hv (j-i) (ys[j-i]) h2 (List.getElem?_eq_getElem h4)
       refine⟨.int k ys[j-i],?_,?_⟩
       ·have:=splice_in hfit (j:=j-i) (by omega)
        rw[← h5,← this]
        congr 1;omega
       ·show Value.int k ys[j-i]= .int k _
        simp[h4,List.getD]
      ·refine⟨u,by rw[splice_out hfit (.inr (by omega))];exact hu,?_⟩
       have e3:u= .int k a:=hd
       show u= .int k _
       simp[h4,e3]
     ·rw[List.getElem?_append_right (by omega),List.getElem?_drop] at hj
      rw[show i+n+(j-i-r.length)=j by omega] at hj
      obtain⟨u,hu,hd⟩:=hc j sv hj
      exact⟨u,by rw[splice_out hfit (.inr (by omega))];exact hu,hd.keep K fun _ _ h=>h⟩
  ·cases h
 ·cases h
end
section
variable {F:Nat→Prop} {E:Env} {w0 w:World} {m0:Nat→Prop} {ρ0 ρ:List (Nat × Nat)} {s:St}
theorem evCopy_sound(I:Inv F w0 m0 ρ0 ρ s.σ w){t u ty:TypeId}{d x:SV}{vd vx:Value}{k:AV→List Blk→Prop}(h:evCopy E.P s.σ t d x k)
  (hd:DenS w (Mut F ρ s.σ) ρ d vd) (hx:DenS w (Mut F ρ s.σ) ρ x vx):
  ∃v w',(Builtin.copy_ #[t,u] ty #[vd,vx]).run E.P w= .ok v w'∧Done F w0 m0 ρ0 ρ s.σ w False k v w':=by
 unfold evCopy at h
 split at h
 case h_2=>exact h.elim
 rename_i e ht
 split at h
 case h_2=>exact h.elim
 rename_i c kd ys hs hv
 have hsz:(E.P.info? e).map (·.size)=some 1:=hs
 have key: ∀(id wd i n:Nat) (b:Blk) (c2:Bool) (b':Blk) (g x' off cap:Nat),c=true→s.σ[id]? = some b→b.copyTo wd i n kd ys=some (true,b')→ρ[id]? = some (g,x')→(n=0∨off=i)→
   vd= .slice (some ⟨g,off,none⟩) n cap→k (.one (.int .i64 ((min ys.length n:Nat):Int))) (s.σ.set id b')→
   ∃v w',(Builtin.copy_ #[t,u] ty #[vd,vx]).run E.P w= .ok v w'∧Done F w0 m0 ρ0 ρ s.σ w False k v w':=by
  rintro id wd i n b c2 b' g x' off cap rfl hb hcp hg hoff rfl hk
  obtain⟨a,cap',rfl,h1,h2,h3⟩:=viewRow_sound I.heap hv hx
  have hlive:b.live=true:=by
   cases b with
   |dead=>simp[Blk.copyTo] at hcp
   |_=>rfl
  obtain⟨hden,hcnt,hlt⟩:=I.heap.live id b g x' hb hg hlive
  simp only[Row.count] at h1 h3
  obtain⟨cs,hcs,hcv,hsrc,hone⟩: ∃cs:List Value,cs.length=min ys.length n∧(∀(j:Nat) (y:Int),j<n→ys[j]? = some y→cs[j]? = some (.int kd y))∧
    (cs.length=0∨ ∃ad,a=some ad∧ ∀(j:Nat) (v:Value),cs[j]? = some v→w.cell? (ad.add j)=some v)∧ ∀v ∈ cs,v.oneCell'=true:=by
   refine⟨(ys.take n).map (.int kd),by simp;omega,fun j y hj hy=>by simp[List.getElem?_take_of_lt hj,hy],?_,by simp only[List.mem_map];rintro v ⟨y,_,rfl⟩;rfl⟩
   rcases h3 with h3|⟨ad,rfl,hr,_,_⟩
   ·left;rw[List.length_map,List.length_take];omega
   ·refine .inr ⟨ad,rfl,fun j v hj=> ?_⟩
    rw[List.getElem?_map] at hj
    cases hy:(ys.take n)[j]? with
    |none=>rw[hy] at hj;simp at hj
    |some y=>
     rw[hy] at hj
     simp at hj
     subst hj
     refine hr j y ?_
     have hjn:j<n:=by have:=(List.getElem?_eq_some_iff.1 hy).1;simp at this;omega
     rwa [List.getElem?_take_of_lt hjn] at hy
  obtain⟨_,hl',hc',hw1,arr,t',ha,hfit,hd'⟩:=copyTo_sound hcp hden hcs hcv
  obtain⟨K,hI⟩:=wrote (w':=w.setRow g (splice arr i cs)) I hb hlive hg (fun k hk=>setRow_other w g k _ hk) (by simp) (by
   unfold World.shape?;rw[setRow_heap w g arr _ t' (0,0) ha,ha];simp[splice_size hfit]) rfl rfl rfl hl' (copyTo_solid hcp).1 (copyTo_solid hcp).2
  refine⟨.int .i64 ((min ys.length n:Nat):Int),w.setRow g (splice arr i cs),?_,_,_,ρ,hk,hI (hd' _ _ (setRow_heap w g arr _ t' (0,0) ha) K) (by rw[hc',hcnt]),⟨[],by simp⟩,K,rfl,False.elim⟩
  have hgo:goInt (cs.length:Int)= .int .i64 ((min ys.length n:Nat):Int):=by rw[hcs];rfl
  by_cases h0:cs.length=0
  ·have hnil:cs=[]:=List.eq_nil_of_length_eq_zero h0
   have hself:splice arr i cs=arr:=by rw[hnil];simp[splice]
   rw[hself,setRow_self w g arr t' (0,0) ha,← hgo]
   rw[hnil]
   exact run_copy_none (P:=E.P) w t u ty e _ _ n cap ys.length cap' ht hsz (by show min ys.length n=0;rw[← hcs];exact h0)
  ·rcases hsrc with h|⟨ad,rfl,hsrc⟩
   ·exact absurd h h0
   ·have hoff':off=i:=hoff.resolve_left fun h=>h0 (by rw[hcs,h];exact Nat.min_zero _)
    subst hoff'
    rw[← hgo]
    exact run_copy_row (P:=E.P) w t u ty e g off n cap ad ys.length cap' arr t' cs ht hsz ha hcs hsrc hfit hone
 split at h
 ·
  rename_i id wd
  split at h
  case h_2=>exact h.elim
  rename_i b hb
  split at h
  case h_2=>exact h.elim
  rename_i c2 b' hcp
  obtain⟨hcc,hk⟩:=cond_pos h
  simp only[Bool.and_eq_true] at hcc
  obtain⟨rfl,rfl⟩:=hcc
  obtain⟨g,n,cap,t',sz,hg,rfl,hnc,hcm,hsh,hcs⟩:=hd
  have hlive:b.live=true:=by
   cases b with
   |dead=>simp[Blk.copyTo] at hcp
   |_=>rfl
  obtain⟨hden,hcnt,hlt⟩:=I.heap.live id b g n hb hg hlive
  subst hcnt
  exact key id wd 0 b.count b true b' g _ 0 cap rfl hb hcp hg (.inr rfl) rfl hk
 ·rename_i id wd i n
  split at h
  case h_2=>exact h.elim
  rename_i b hb
  split at h
  case h_2=>exact h.elim
  rename_i c2 b' hcp
  obtain⟨hcc,hk⟩:=cond_pos h
  simp only[Bool.and_eq_true] at hcc
  obtain⟨rfl,rfl⟩:=hcc
  obtain⟨g,x',off,cap,hg,rfl,h2,h3,h4,-⟩:=hd
  have hw:wd=1:=by
   unfold Blk.copyTo at hcp
   split at hcp
   ·split at hcp
    ·rename_i hc;exact hc.1
    ·cases hcp
   ·split at hcp
    ·rename_i hc;exact hc.1
    ·cases hcp
   ·cases hcp
  subst hw
  exact key id 1 i n b true b' g x' off cap rfl hb hcp hg (h4.imp_right fun h=>by omega) rfl hk
 ·
  obtain⟨rfl,hk⟩:=cond_pos h
  cases hd
  obtain⟨a,cap',rfl,h1,h2,h3⟩:=viewRow_sound I.heap hv hx
  exact⟨_,w,run_copy_none (P:=E.P) w t u ty e _ _ 0 0 _ cap' ht hsz (Nat.min_zero _),_,_,ρ,hk,I,⟨[],by simp⟩,Keep.refl _ _,rfl,False.elim⟩
 ·exact h.elim
end
end Go.Ev
