/-
  Part of the proof that TopClickOnly holds.
-/
import Derived.Test.YtgkngjjnpiheoaaT04
set_option linter.unusedVariables false
set_option linter.unusedSimpArgs false
set_option linter.unusedSectionVars false
namespace Go.Ev
open Go Go.RowKit
variable [Glob]
def splice(arr:Array Value)(off:Nat)(vs:List Value):Array Value:=(arr.toList.take off++vs++arr.toList.drop (off+vs.length)).toArray
theorem splice_size{arr:Array Value}{off:Nat}{vs:List Value}(h:off+vs.length≤arr.size):(splice arr off vs).size=arr.size:=by
 simp[splice];omega
theorem splice_in{arr:Array Value}{off:Nat}{vs:List Value}(h:off+vs.length≤arr.size){j:Nat}(h2:j<vs.length):(splice arr off vs)[off+j]? = vs[j]? := by
 simp only[splice,List.getElem?_toArray,List.append_assoc]
 rw[List.getElem?_append_right (by simp;omega),List.getElem?_append_left (by simp;omega)]
 congr 1
 simp;omega
theorem splice_out{arr:Array Value}{off:Nat}{vs:List Value}(h:off+vs.length≤arr.size){j:Nat}(h2:j<off∨off+vs.length≤j):(splice arr off vs)[j]? = arr[j]? := by
 simp only[splice,List.getElem?_toArray,List.append_assoc]
 rcases h2 with h2|h2
 ·rw[List.getElem?_append_left (by simp;omega),List.getElem?_take_of_lt h2];simp
 ·rw[List.getElem?_append_right (by simp;omega),List.getElem?_append_right (by simp;omega),List.getElem?_drop]
  simp only[List.length_take,Array.length_toList,Array.getElem?_toList]
  congr 1
  omega
section
variable {F:Nat→Prop} {P:Program} {w:World} {m:Nat→Prop} {ρ:List (Nat × Nat)}
theorem setN_sound{b b':Blk}{wd i c g:Nat}{l:List SV}{vs:List Value}(h:b.setN P wd i c l=some (true,b'))(hb:DenBlk w m ρ g b)(hl:All2 (DenS w m ρ) l vs):
  b.live=true∧b'.live=true∧b'.count=b.count∧ ∃arr t,w.heap[g]? = some (.cells arr t (0,0))∧i*wd+c+vs.length≤arr.size∧
   ∀(w':World) (m':Nat→Prop),w'.heap[g]? = some (.cells (splice arr (i*wd+c) vs) t (0,0))→Keep m m' w w'→DenBlk w' m' ρ g b':=by
 have hlen:=hl.length
 unfold Blk.setN at h
 split at h
 ·rename_i ls
  split at h
  ·rename_i hwd
   subst hwd
   split at h
   ·rename_i hle
    simp only[Option.some.injEq,Prod.mk.injEq,true_and] at h
    subst h
    obtain⟨arr,t,ha,hc⟩:=hb
    have hsz:ls.length≤arr.size:=by
     rcases Nat.eq_zero_or_pos ls.length with h0|h0
     ·omega
     ·obtain⟨u,hu,_⟩:=hc (ls.length-1) _ (List.getElem?_eq_getElem (by omega))
      have:=(Array.getElem?_eq_some_iff.1 hu).1
      omega
    have hfit:i*1+c+vs.length≤arr.size:=by omega
    refine⟨rfl,rfl,by simp[Blk.count];omega,arr,t,ha,hfit,fun w' m' hg K=>⟨_,t,hg,fun j sv hj=> ?_⟩⟩
    rw[List.append_assoc] at hj
    rcases Nat.lt_or_ge j (i+c) with h1|h1
    ·rw[List.getElem?_append_left (by simp;omega),List.getElem?_take_of_lt h1] at hj
     obtain⟨u,hu,hd⟩:=hc j sv hj
     exact⟨u,by rw[splice_out hfit (.inl (by omega))];exact hu,hd.keep K fun _ _ h=>h⟩
    ·rw[List.getElem?_append_right (by simp;omega)] at hj
     have e:j-(ls.take (i+c)).length=j-(i+c):=by simp;omega
     rw[e] at hj
     rcases Nat.lt_or_ge (j-(i+c)) l.length with h2|h2
     ·rw[List.getElem?_append_left h2] at hj
      obtain⟨u,hu,hd⟩:=hl.get hj
      refine⟨u,?_,hd.keep K fun _ _ h=>h⟩
      have:=splice_in hfit (j:=j-(i+c)) (by omega)
      rw[← hu,← this]
      congr 1;omega
     ·rw[List.getElem?_append_right h2,List.getElem?_drop] at hj
      rw[show i+c+l.length+(j-(i+c)-l.length)=j from by omega] at hj
      obtain⟨u,hu,hd⟩:=hc j sv hj
      exact⟨u,by rw[splice_out hfit (.inr (by omega))];exact hu,hd.keep K fun _ _ h=>h⟩
   ·cases h
  ·cases h
 ·rename_i t k xs
  split at h
  ·rename_i hwd
   subst hwd
   split at h
   ·rename_i ys hys
    obtain⟨h1,h2⟩:=asInts_sound hys hl
    obtain⟨arr,ha,hc⟩:=hb
    have hsz:xs.length≤arr.size:=by
     rcases Nat.eq_zero_or_pos xs.length with h0|h0
     ·omega
     ·have:=hc (xs.length-1) _ (List.getElem?_eq_getElem (by omega))
      have:=(Array.getElem?_eq_some_iff.1 this).1
      omega
    split at h
    ·rename_i y
     simp at h
     obtain⟨h3,rfl⟩:=h
     have hv1:vs.length=1:=by simp[h2]
     have hfit:i*1+c+vs.length≤arr.size:=by omega
     refine⟨rfl,rfl,by simp[Blk.count,Row.count],arr,t,ha,hfit,fun w' m' hg K=>⟨_,hg,fun j x hj=> ?_⟩⟩
     dsimp only
     by_cases hji:j=i+c
     ·subst hji
      rw[List.getElem?_set_self h3] at hj
      cases hj
      have:=splice_in hfit (j:=0) (by omega)
      rw[show i*1+c+0=i+c from by omega] at this
      rw[this,h2]
      rfl
     ·rw[List.getElem?_set_ne (fun e=>hji e.symm)] at hj
      rw[splice_out hfit (by omega)]
      exact hc j x hj
    ·split at h
     case isFalse=>
      simp at h
      obtain⟨h3,rfl⟩:=h
      have hvl:vs.length=ys.length:=by simp[h2]
      have hfit:i*1+c+vs.length≤arr.size:=by omega
      refine⟨rfl,rfl,by simp only[Blk.count,Row.count,List.length_append,List.length_take,List.length_drop];omega,arr,t,ha,hfit,fun w' m' hg K=>⟨_,hg,fun j x hj=> ?_⟩⟩
      dsimp only
      rcases Nat.lt_or_ge j (i+c) with h4|h4
      ·rw[List.getElem?_append_left (by simp;omega),List.getElem?_take_of_lt h4] at hj
       rw[splice_out hfit (.inl (by omega))]
       exact hc j x hj
      ·rw[List.getElem?_append_right (by simp;omega)] at hj
       have e:j-(xs.take (i+c)).length=j-(i+c):=by simp;omega
       rw[e] at hj
       rcases Nat.lt_or_ge (j-(i+c)) ys.length with h5|h5
       ·rw[List.getElem?_append_left h5] at hj
        have:=splice_in hfit (j:=j-(i+c)) (by omega)
        rw[show i*1+c+(j-(i+c))=j from by omega] at this
        rw[this,h2]
        simp[hj]
       ·rw[List.getElem?_append_right h5,List.getElem?_drop] at hj
        rw[show i+c+ys.length+(j-(i+c)-ys.length)=j from by omega] at hj
        rw[splice_out hfit (.inr (by omega))]
        exact hc j x hj
     split at h
     ·rename_i hic
      simp at h
      obtain⟨h3,rfl⟩:=h
      have hfit:i*1+c+vs.length≤arr.size:=by omega
      refine⟨rfl,rfl,by simp[Blk.count,Row.count,h3],arr,t,ha,hfit,fun w' m' hg K=>⟨_,hg,fun j x hj=> ?_⟩⟩
      dsimp only
      have hjl:=(List.getElem?_eq_some_iff.1 hj).1
      have:=splice_in hfit (j:=j) (by omega)
      rw[show i*1+c+j=j from by omega] at this
      rw[this,h2]
      simp[hj]
     ·cases h
   ·cases h
  ·cases h
 ·rename_i t k wd' xss
  split at h
  ·rename_i hwd
   subst hwd
   split at h
   ·rename_i ys hys
    obtain⟨h1,h2⟩:=asInts_sound hys hl
    obtain⟨arr,ha,hc⟩:=hb
    have hmul: ∀a b:Nat,a<b→a*wd+wd≤b*wd:=fun a b hab=>by
     have:(a+1)*wd≤b*wd:=Nat.mul_le_mul_right _ hab
     rw[Nat.add_mul] at this;omega
    have hsz:0<wd→xss.length*wd≤arr.size:=by
     intro hw0
     rcases Nat.eq_zero_or_pos xss.length with h0|h0
     ·rw[h0];omega
     ·have:=hc (xss.length-1) _ (List.getElem?_eq_getElem (by omega)) (wd-1) (by omega)
      have:=(Array.getElem?_eq_some_iff.1 this).1
      have e:xss.length*wd=(xss.length-1)*wd+wd:=by
       rw[← Nat.succ_mul];congr 1;omega
      omega
    split at h
    ·rename_i hcw
     simp at h
     obtain⟨h3,rfl⟩:=h
     obtain⟨hyw,hc0⟩:=hcw
     subst hc0
     have hvl:vs.length=wd:=by omega
     have hfit:i*wd+0+vs.length≤arr.size:=by
      rcases Nat.eq_zero_or_pos wd with h0|h0
      ·subst h0;omega
      ·have:=hmul i xss.length h3
       have:=hsz h0
       omega
     refine⟨rfl,rfl,by simp[Blk.count,Row.count],arr,t,ha,hfit,fun w' m' hg K=>⟨_,hg,fun j zs hj d hd=> ?_⟩⟩
     dsimp only
     by_cases hji:j=i
     ·subst hji
      rw[List.getElem?_set_self h3] at hj
      cases hj
      have:=splice_in hfit (j:=d) (by omega)
      rw[show j*wd+0+d=j*wd+d from by omega] at this
      rw[this,h2]
      simp[List.getD,List.getElem?_eq_getElem (show d<ys.length by omega)]
     ·rw[List.getElem?_set_ne (fun e=>hji e.symm)] at hj
      rw[splice_out hfit]
      ·exact hc j zs hj d hd
      ·rcases Nat.lt_or_gt_of_ne hji with h4|h4
       ·left;have:=hmul j i h4;omega
       ·right;have:=hmul i j h4;omega
    ·split at h
     ·rename_i y
      simp at h
      obtain⟨⟨⟨h3,h4⟩,h5⟩,rfl⟩:=h
      have hv1:vs.length=1:=by simp[h2]
      have hfit:i*wd+c+vs.length≤arr.size:=by
       have:=hmul i xss.length h4
       have:=hsz (by omega)
       omega
      refine⟨rfl,rfl,by simp[Blk.count,Row.count],arr,t,ha,hfit,fun w' m' hg K=>⟨_,hg,fun j zs hj d hd=> ?_⟩⟩
      dsimp only
      have hold:=hc i _ (List.getElem?_eq_getElem h4) d hd
      dsimp only at hold
      have hgd:xss[i]?.getD []=xss[i]:=by simp[List.getElem?_eq_getElem h4]
      by_cases hji:j=i
      ·subst hji
       rw[List.getElem?_set_self h4] at hj
       cases hj
       by_cases hdc:d=c
       ·subst hdc
        have:=splice_in hfit (j:=0) (by omega)
        rw[Nat.add_zero] at this
        rw[this,h2]
        simp[List.getD,h5,h3]
       ·rw[splice_out hfit (by omega),hold]
        simp[List.getD,List.getElem?_set_ne (fun e=>hdc e.symm),hgd]
      ·rw[List.getElem?_set_ne (fun e=>hji e.symm)] at hj
       rw[splice_out hfit]
       ·exact hc j zs hj d hd
       ·rcases Nat.lt_or_gt_of_ne hji with h6|h6
        ·left;have:=hmul j i h6;omega
        ·right;have:=hmul i j h6;omega
     ·cases h
   ·cases h
  ·cases h
 ·cases h
end
section
variable {F:Nat→Prop} {E:Env} {w0 w:World} {m0:Nat→Prop} {ρ0 ρ:List (Nat × Nat)} {s:St}
theorem evStore_sound(I:Inv F w0 m0 ρ0 ρ s.σ w){t:TypeId}{p:SV}{x:AV}{vp vx:Value}{l:List SV}{sz:Nat}{σ':List Blk}{k:AV→List Blk→Prop}
  (hp:DenS w (Mut F ρ s.σ) ρ p vp) (hx:Den w (Mut F ρ s.σ) ρ x vx) (hl:x.cells=some l) (hs:sizeT E.P t=some sz) (hlen:l.length=sz) (h:storeSVs E.P s.σ p l=some (true,σ')) (hk:k .any σ'):
  ∃w',(Instr.storeAt t vp vx).run E.P w= .ok () w'∧Done F w0 m0 ρ0 ρ s.σ w False k undef w':=by
 have hcells:=Den_agg_cells hl hx
 unfold storeSVs at h
 split at h
 ·rename_i id wd i c
  obtain⟨g,n,hg,rfl⟩:=hp
  split at h
  ·rename_i b hb
   cases hset:b.setN E.P wd i c l with
   |none=>rw[hset] at h;simp at h
   |some q=>
    obtain⟨h',b'⟩:=q
    rw[hset] at h
    simp at h
    obtain⟨rfl,rfl⟩:=h
    have hlive:b.live=true:=by
     cases b with
     |dead=>simp[Blk.setN] at hset
     |_=>rfl
    obtain⟨hd,hcnt,hlt⟩:=I.heap.live id b g n hb hg hlive
    obtain⟨_,hl',hc',arr,t',ha,hfit,hden⟩:=setN_sound hset hd hcells
    obtain⟨K,hI⟩:=wrote (w':=w.setRow g (splice arr (i*wd+c) vx.cells.toList)) I hb hlive hg (fun k hk=>setRow_other w g k _ hk) (by simp) (by
     unfold World.shape?;rw[setRow_heap w g arr _ t' (0,0) ha,ha];simp[splice_size hfit]) rfl rfl rfl hl' (setN_solid hset).1 (setN_solid hset).2
    refine⟨w.setRow g (splice arr (i*wd+c) vx.cells.toList),?_,.any,_,ρ,hk,hI (hden _ _ (setRow_heap w g arr _ t' (0,0) ha) K) (by rw[hc',hcnt]),⟨[],by simp⟩,K,trivial,False.elim⟩
    have h1: ∀v ∈ vx.cells.toList,v.oneCell'=true:=by
     intro v hv
     obtain⟨j,hj⟩:=List.getElem?_of_mem hv
     have hjl:j<l.length:=by rw[hcells.length];exact(List.getElem?_eq_some_iff.1 hj).1
     obtain⟨u,hu,hd⟩:=hcells.get (List.getElem?_eq_getElem hjl)
     rw[hj] at hu
     cases hu
     exact hd.one
    have hst:=run_storeCells_at E.P g (i*wd+c) t' vx.cells.toList 0 arr w ha (by simpa using hfit) h1
    have hvs:vx.cells.size=sz:=by have:=hcells.length;simp at this;omega
    simp only[Nat.add_zero] at hst
    simp[Instr.storeAt,Instr.sureAddr,storeVar,run_sizeOf' hs,hvs,hst,splice]
  ·cases h
 ·cases h
end
end Go.Ev
namespace Go.Ev
open Go Go.RowKit
variable [Glob]
section
variable {F:Nat→Prop} {P:Program} {w:World} {ρ:List (Nat × Nat)} {σ:List Blk}
theorem kindOf_ints{k:IntKind}{xs:List Int}{l:List SV}(h:asInts k l=some xs):xs.length=l.length:=by
 induction l generalizing xs with
 |nil=>simp only[asInts,Option.some.injEq] at h;subst h;rfl
 |cons s l ih=>
  unfold asInts at h
  split at h
  ·rename_i he;cases he
  ·rename_i he
   cases he
   split at h
   ·rename_i hk
    subst hk
    cases hx:asInts _ l with
    |none=>rw[hx] at h;simp at h
    |some ys=>rw[hx] at h;simp at h;subst h;simp[ih hx]
   ·cases h
  ·cases h
theorem viewRow_sound(H:HeapOk F ρ σ w){e:TypeId}{s:SV}{r:Row}{u:Value}(h:viewRow P σ e s=some (true,r))(hd:DenS w (Mut F ρ σ) ρ s u):
  ∃a cap,u= .slice a r.count cap∧r.count≤cap∧cap≤maxLen∧(r.count=0∨ ∃ad,a=some ad∧RowCells w (Mut F ρ σ) (fun j=>w.cell? (ad.add j)) r∧ad.block<w.heap.size∧
   (Mut F ρ σ ad.block→ ∃id n,id ∈ idsS s∧ρ[id]? = some (ad.block,n))):=by
 have nilcase: ∀r:Row,r.count=0→u= .slice none 0 0→ ∃a cap,u= .slice a r.count cap∧r.count≤cap∧cap≤maxLen∧(r.count=0∨ ∃ad,a=some ad∧RowCells w (Mut F ρ σ) (fun j=>w.cell? (ad.add j)) r∧ad.block<w.heap.size∧
   (Mut F ρ σ ad.block→ ∃id n,id ∈ idsS s∧ρ[id]? = some (ad.block,n))):=by
  intro r h0 e
  exact⟨none,0,by rw[h0];exact e,by omega,Nat.zero_le _,.inl h0⟩
 unfold viewRow at h
 split at h
 ·cases hd
  split at h
  ·cases h;exact nilcase _ rfl rfl
  ·cases h;exact nilcase _ rfl rfl
  ·cases h;exact nilcase _ rfl rfl
  ·cases h
 ·cases h
  obtain⟨a,cap,h1,h2,h3,h4⟩:=hd
  refine⟨a,cap,h1,h2,h3,h4.imp_right ?_⟩
  rintro ⟨ad,h5,h6,h7,h8⟩
  exact⟨ad,h5,h8,h6,fun hm=>absurd hm h7⟩
 ·rename_i id wd
  split at h
  ·rename_i t r' hb
   split at h
   ·cases h
    obtain⟨g,n,cap,t',sz,hg,rfl,h1,h2,h3,h4⟩:=hd
    obtain⟨⟨arr,ha,hc⟩,hn,hlt⟩:=H.live id _ g n hb hg rfl
    simp only[Blk.count] at hn
    subst hn
    refine⟨_,cap,rfl,h1,h2,.inr ⟨_,rfl,hc.congr fun j v hj=> ?_,hlt,fun _=>⟨id,_,by simp[idsS],hg⟩⟩⟩
    rw[lit_add,cell_of_row w g _ arr t (0,0) ha]
    simpa using hj
   ·cases h
  ·cases h
 ·rename_i id wd i n
  split at h
  ·rename_i t r' hb
   split at h
   ·rename_i hw
    simp at h
    obtain⟨h1,rfl⟩:=h
    obtain⟨g,x,off,cap,hg,rfl,h2,h3,h4⟩:=hd
    obtain⟨⟨arr,ha,hc⟩,hn,hlt⟩:=H.live id _ g x hb hg rfl
    have hcnt:=part_count h1
    refine⟨some ⟨g,off,none⟩,cap,by rw[hcnt],by omega,h3,?_⟩
    rw[hcnt]
    rcases h4 with h4|h4
    ·exact .inl h4
    ·refine .inr ⟨_,rfl,(RowCells_part hc).congr fun j v hj=> ?_,hlt,fun _=>⟨id,_,by simp[idsS],hg⟩⟩
     rw[lit_add,cell_of_row w g _ arr t (0,0) ha,h4,hw]
     exact hj
   ·cases h
  ·rename_i l hb
   split at h
   ·rename_i hw
    subst hw
    split at h
    ·rename_i hle
     split at h
     ·rename_i k hk
      cases hx:asInts k ((l.drop i).take n) with
      |none=>rw[hx] at h;simp at h
      |some xs=>
       rw[hx] at h
       simp at h
       subst h
       obtain⟨g,x,off,cap,hg,rfl,h2,h3,h4⟩:=hd
       obtain⟨⟨arr,t,ha,hc⟩,hn,hlt⟩:=H.live id _ g x hb hg rfl
       have hxl:xs.length=n:=by rw[kindOf_ints hx];simp;omega
       refine⟨some ⟨g,off,none⟩,cap,by simp[Row.count,hxl],by simp[Row.count];omega,h3,?_⟩
       rcases h4 with h4|h4
       ·exact .inl (by show xs.length=0;omega)
       ·refine .inr ⟨_,rfl,?_,hlt,fun _=>⟨id,_,by simp[idsS],hg⟩⟩
        have HH: ∀o,o<n→ ∃v,arr[i+o]? = some v∧ ∃sv,l[i+o]? = some sv∧DenS w (Mut F ρ σ) ρ sv v:=by
         intro o ho
         have hlt':i+o<l.length:=by omega
         obtain⟨v,hv,hd⟩:=hc (i+o) l[i+o] (List.getElem?_eq_getElem hlt')
         exact⟨v,hv,_,List.getElem?_eq_getElem hlt',hd⟩
        obtain⟨vs,hvl,hvs⟩:=exists_list n HH
        have hall:All2 (DenS w (Mut F ρ σ) ρ) ((l.drop i).take n) vs:=All2.mk (by simp;omega) fun o a b ha' hb'=>by
         obtain⟨_,sv,hs,hd⟩:=hvs o b hb'
         have ho:o<n:=by rw[← hvl];exact(List.getElem?_eq_some_iff.1 hb').1
         rw[List.getElem?_take_of_lt ho,List.getElem?_drop,hs] at ha'
         cases ha'
         exact hd
        obtain⟨_,h6⟩:=asInts_sound hx hall
        intro o y hy
        have hvo:vs[o]? = some (.int k y):=by rw[h6];simp[hy]
        have:=(hvs o _ hvo).1
        dsimp only
        rw[lit_add,cell_of_row w g _ arr t (0,0) ha,h4]
        simpa using this
     ·cases h
    ·cases h
   ·cases h
  ·cases h
 ·cases h
theorem append_types{t u e:TypeId}{ty:TypeId}{i:TypeInfo}{v x:Value}(ht:P.underlying t=some (.slice e))(hu:P.underlying u=some (.slice e))(hi:P.info? e=some i):
  (Builtin.append_ #[t,u] ty #[v,x]).run P w=(Builtin.append_ #[t,t] ty #[v,x]).run P w:=by
 unfold Builtin.append_
 cases v<;>simp[run_underlying ht,run_underlying hu,sizeOf,typeInfo,hi]
theorem info_of{e:TypeId}{by_ sz:Nat}{z:List SV}(hb:bytesT P e=some by_)(hs:sizeT P e=some sz)(hz:zeroT P e=some z):
  ∃i v,P.info? e=some i∧i.bytes=by_∧i.size=sz∧i.zero=some v∧svcs v.cells.toList=some z:=by
 unfold bytesT at hb
 unfold sizeT at hs
 unfold zeroT at hz
 cases hi:P.info? e with
 |none=>rw[hi] at hb;simp at hb
 |some i=>
  rw[hi] at hb hs hz
  simp only[Option.map_some,Option.some.injEq,Option.bind_some] at hb hs hz
  cases hv:i.zero with
  |none=>rw[hv] at hz;simp at hz
  |some v=>
   rw[hv] at hz
   exact⟨i,v,rfl,hb,hs,hv,hz⟩
theorem svcs_length{l:List Value}{k:List SV}(h:svcs l=some k):l.length=k.length:=by
 have:=(svcs_sound (w:=default) (m:=fun _=>False) (ρ:=[]) h).length
 omega
end
section
variable {F:Nat→Prop} {E:Env} {w0 w:World} {m0:Nat→Prop} {ρ0 ρ:List (Nat × Nat)} {s:St}
theorem evAppend_sound(I:Inv F w0 m0 ρ0 ρ s.σ w){t u ty e:TypeId}{x y:SV}{vx vy:Value}{k:AV→List Blk→Prop}(h:evAppend E.P s.σ t x y k)(ht:E.P.underlying t=some (.slice e))(hu:E.P.underlying u=some (.slice e))
  (hx:DenS w (Mut F ρ s.σ) ρ x vx) (hy:DenS w (Mut F ρ s.σ) ρ y vy):
  ∃v w',(Builtin.append_ #[t,u] ty #[vx,vy]).run E.P w= .ok v w'∧Done F w0 m0 ρ0 ρ s.σ w False k v w':=by
 unfold evAppend at h
 rw[ht] at h
 dsimp only at h
 split at h
 case h_2=>exact h.elim
 rename_i by_ sz z c r' hb hs hz hv
 split at h
 case isFalse=>exact h.elim
 rename_i hzw
 obtain⟨hzl,hrw⟩:=hzw
 obtain⟨i,zv,hi,hib,his,hiz,hzc⟩:=info_of hb hs hz
 rw[append_types ht hu hi]
 have hzs:zv.cells.size=i.size:=by have:=svcs_length hzc;simp at this;omega
 have app: ∀(id wd g n0 cap:Nat) (ty2:TypeId) (sz':Nat) (r r1 r2:Row),c=true→s.σ[id]? = some (.row e r)→ρ[id]? = some (g,n0)→r1.app r'=some r2→wd=r1.width→r1.width=r'.width→
   (∀arr:Array Value,RowCells w (Mut F ρ s.σ) (fun j=>arr[j]?) r→RowCells w (Mut F ρ s.σ) (fun j=>arr[j]?) r1)→r1.count≤cap→cap≤maxLen→w.shape? g=some (ty2,sz')→cap*wd≤sz'→
   (r2.count*by_≤140737488355328∧r2.count≤140737488355328)→k (.one (.own s.σ.length wd)) ((s.σ.set id .dead)++[.row e r2])→
   ∃v w',(Builtin.append_ #[t,t] ty #[.slice (some ⟨g,0,none⟩) r1.count cap,vy]).run E.P w= .ok v w'∧Done F w0 m0 ρ0 ρ s.σ w False k v w':=by
  intro id wd g n0 cap ty2 sz' r r1 r2 hct hbk hg happ hwd hww hpart hnc hcm hsh hcs hc' hkk
  subst hct
  obtain⟨hcnt2,hw2,hw2'⟩:=Row.app_count happ
  obtain⟨⟨arr,ha,hrc⟩,hn,hlt⟩:=I.heap.live id _ g n0 hbk hg rfl
  have hrc1:=hpart arr hrc
  have hsz':sz'=arr.size:=by
   unfold World.shape? at hsh
   rw[ha] at hsh
   simp at hsh
   exact hsh.2.symm
  subst hsz'
  have hwi:wd=i.size:=by omega
  obtain⟨olds,ho1,ho2⟩:=hrc1.list
  have holds: ∀(j:Nat) (v:Value),olds[j]? = some v→w.cell? ((⟨g,0,none⟩:Addr).add j)=some v:=by
   intro j v hj
   rw[lit_add,cell_of_row w g _ arr e (0,0) ha]
   simpa using(ho2 j v hj).1
  obtain⟨a,cap',rfl,h1,h2,h3⟩:=viewRow_sound I.heap hv hy
  obtain⟨news,hn1,hn2,hnew⟩: ∃news:List Value,news.length=r'.count*r'.width∧(∀(j:Nat) (v:Value),news[j]? = some v→v.oneCell'=true)∧
    (RowCells w (Mut F ρ s.σ) (fun j=>news[j]?) r'∧(r'.count=0∨ ∃ad,a=some ad∧ ∀(j:Nat) (v:Value),news[j]? = some v→w.cell? (ad.add j)=some v)):=by
   rcases h3 with h3|⟨ad,rfl,hr,hadb,_⟩
   ·refine⟨[],by simp[h3],fun j v hj=>by simp at hj,?_,.inl h3⟩
    cases r' with
    |ints k xs=>intro i x hx;simp[Row.count] at h3;subst h3;simp at hx
    |mat k wd xss=>intro i x hx;simp[Row.count] at h3;subst h3;simp at hx
    |recs cks xss=>intro i x hx;simp[Row.count] at h3;subst h3;simp at hx
   ·obtain⟨news,hn1,hn2⟩:=hr.list
    refine⟨news,hn1,fun j v hj=>(hn2 j v hj).2,hr.congrN fun j hj=> ?_,.inr ⟨ad,rfl,fun j v hj=>(hn2 j v hj).1⟩⟩
    have hjl:j<news.length:=by omega
    rw[List.getElem?_eq_getElem hjl]
    exact((hn2 j _ (List.getElem?_eq_getElem hjl)).1).symm
  obtain⟨hnr,hsrc⟩:=hnew
  have hnl:news.length=r'.count*i.size:=by rw[hn1];congr 1;omega
  have hol:olds.length=r1.count*i.size:=by rw[ho1];congr 1;omega
  have holdr:RowCells w (Mut F ρ s.σ) (fun j=>olds[j]?) r1:=hrc1.congrN fun j hj=>by
   have hjl:j<olds.length:=by omega
   rw[List.getElem?_eq_getElem hjl]
   exact((ho2 j _ (List.getElem?_eq_getElem hjl)).1).symm
  by_cases hroom:r1.count+r'.count≤cap
  ·
   have hfit:r1.count*i.size+news.length≤arr.size:=by
    rw[hnl,← Nat.add_mul]
    exact Nat.le_trans (Nat.mul_le_mul_right _ hroom) (by rw[← hwi];exact hcs)
   have hrun:(Builtin.append_ #[t,t] ty #[.slice (some ⟨g,0,none⟩) r1.count cap,.slice a r'.count cap']).run E.P w=
     .ok (.slice (some ⟨g,0,none⟩) (r1.count+r'.count) cap) (w.setRow g (splice arr (r1.count*i.size) news)):=by
    rcases hsrc with h0|⟨ad,rfl,hc⟩
    ·have hnil:news=[]:=List.eq_nil_of_length_eq_zero (by rw[hn1,h0];simp)
     subst hnil
     have hself:splice arr (r1.count*i.size) []=arr:=by simp[splice]
     rw[hself,setRow_self w g arr e (0,0) ha,h0]
     cases a<;>simp[Builtin.append_,run_underlying ht,sizeOf,typeInfo,hi,Builtin.lenOf,Builtin.firstCells,loadCells,loadCellsFrom,hnc,storeCells]
    ·exact run_append_room (P:=E.P) w t ty e i ht hi g r1.count cap arr ha ad r'.count cap' news hnl hc (fun u hu=>by
      obtain⟨j,hj⟩:=List.getElem?_of_mem hu
      exact hn2 j u hj) hroom hfit
   have hg':=setRow_heap w g arr (splice arr (r1.count*i.size) news) e (0,0) ha
   obtain⟨K,hI⟩:=reuse (b':= .row e r2) (n':=r2.count) (w':=w.setRow g (splice arr (r1.count*i.size) news)) I hbk rfl hg (fun k hk=>setRow_other w g k _ hk) (by simp) (by
    unfold World.shape?;rw[hg',ha];simp[splice_size hfit]) rfl rfl rfl trivial
   refine⟨_,_,hrun,_,_,_,hkk,hI ⟨_,hg',?_⟩ rfl,⟨_,rfl⟩,K,⟨g,r2.count,cap,e,arr.size,?_,by rw[hcnt2],by omega,hcm,?_,hcs⟩,False.elim⟩
   ·refine RowCells.app happ (holdr.keep K) (hnr.keep K) (fun j hj=> ?_) (fun j hj=> ?_)
    ·rw[splice_out hfit (.inl (by rw[← hol,ho1];exact hj))]
     have hjl:j<olds.length:=by omega
     rw[List.getElem?_eq_getElem hjl]
     exact(ho2 j _ (List.getElem?_eq_getElem hjl)).1
    ·have hjj:j<news.length:=by first|(rw[hn1];exact hj)|(rw[hn1,hw2'];exact hj)
     have:=splice_in hfit (j:=j) hjj
     rw[← this]
     congr 2
     rw[← ho1,hol]
   ·rw[← I.heap.len];simp
   ·unfold World.shape?;rw[hg'];simp[splice_size hfit]
  ·
   have hm0:r'.count≠0:=by omega
   rcases hsrc with h0|⟨ad,rfl,hc⟩
   ·exact absurd h0 hm0
   ·have hrun:=run_append_grow (P:=E.P) w t ty e i zv ht hi hiz ⟨g,0,none⟩ r1.count cap olds hol holds ad r'.count cap' news hnl hc (by omega) (by omega) (growslice_fits (by omega) (by rw[hib,← hcnt2];exact hc'.1))
    have hge:=grownCap_ge w (r1.count+r'.count) cap e
    have hcm':grownCap w (r1.count+r'.count) cap e≤maxLen:=grownCap_le_maxLen w _ cap e (by unfold maxLen;omega)
    obtain⟨K,hI⟩:=grow (σ1:=s.σ.set id .dead) (n:=r2.count) (b:= .row e r2) (w':=w.drew.alloc (.cells (olds.toArray++news.toArray++Builtin.zeroCells zv.cells (grownCap w (r1.count+r'.count) cap e-(r1.count+r'.count))) e)) I (by simp) (fun j b hj hl=>by
     by_cases hji:j=id
     ·subst hji
      rw[List.getElem?_set_self (List.getElem?_eq_some_iff.1 hbk).1] at hj
      cases hj
      simp[Blk.live] at hl
     ·rwa [List.getElem?_set_ne (fun e=>hji e.symm)] at hj) rfl rfl rfl rfl trivial
    have hg':(w.drew.alloc (.cells (olds.toArray++news.toArray++Builtin.zeroCells zv.cells (grownCap w (r1.count+r'.count) cap e-(r1.count+r'.count))) e)).heap[w.heap.size]? = some (.cells (olds.toArray++news.toArray++Builtin.zeroCells zv.cells (grownCap w (r1.count+r'.count) cap e-(r1.count+r'.count))) e (0,0)):=heap_alloc_new w.drew _
    refine⟨_,_,hrun,_,_,_,hkk,hI ⟨_,hg',?_⟩ rfl,⟨_,rfl⟩,K,⟨w.heap.size,r2.count,_,e,_,?_,by rw[hcnt2],by omega,hcm',by unfold World.shape?;rw[hg'],?_⟩,False.elim⟩
    ·refine RowCells.app happ (holdr.keep K) (hnr.keep K) (fun j hj=> ?_) (fun j hj=> ?_)
     ·have hjl:j<olds.length:=by omega
      rw[Array.getElem?_append_left (by simp;omega),Array.getElem?_append_left (by simpa using hjl),List.getElem?_toArray,List.getElem?_eq_getElem hjl]
     ·have hjl:j<news.length:=by first|(rw[hn1];exact hj)|(rw[hn1,hw2'];exact hj)
      rw[← ho1]
      simp[Array.getElem?_append,hjl]
    ·rw[← I.heap.len];simp
    ·simp only[Array.size_append,List.size_toArray,size_zeroCells,hzs,hol,hnl,hwi,← Nat.add_mul]
     apply Nat.mul_le_mul_right
     omega
 split at h
 ·
  cases hx
  cases c
  ·simp at h
  ·simp only[Bool.true_and] at h
   cases hc:decide (r'.count*by_≤140737488355328∧r'.count≤140737488355328) with
   |false=>rw[hc] at h;exact h.elim
   |true=>
    rw[hc] at h
    simp only[cond_true] at h
    simp only[decide_eq_true_eq] at hc
    obtain⟨a,cap,rfl,h1,h2,h3⟩:=viewRow_sound I.heap hv hy
    cases h0:decide (r'.count=0) with
    |true=>
     rw[h0] at h
     simp only[decide_eq_true_eq] at h0
     refine⟨.slice none 0 0,w,?_,_,_,ρ,h,I,⟨[],by simp⟩,Keep.refl _ _,rfl,False.elim⟩
     rw[h0]
     cases a<;>simp[Builtin.append_,run_underlying ht,sizeOf,typeInfo,hi,Builtin.lenOf,Builtin.firstCells,loadCells,loadCellsFrom]
    |false=>
     rw[h0] at h
     simp only[decide_eq_false_iff_not] at h0
     rcases h3 with h3|⟨ad,rfl,hr,hadb,_⟩
     ·exact absurd h3 h0
     ·obtain⟨news,hn1,hn2⟩:=hr.list
      have hrun:=run_append_nil (P:=E.P) w t ty e i zv ht hi hiz ad r'.count cap news (by rw[hn1,hrw,his]) (fun j v hj=>(hn2 j v hj).1) (by omega) (by omega) (by rw[hib];omega)
      have hge:=grownCap_ge w r'.count 0 e
      have hcm:grownCap w r'.count 0 e≤maxLen:=grownCap_le_maxLen w r'.count 0 e (by unfold maxLen;omega)
      obtain⟨K,hI⟩:=grow (n:=r'.count) (b:= .row e r') (w':=w.drew.alloc (.cells (news.toArray++Builtin.zeroCells zv.cells (grownCap w r'.count 0 e-r'.count)) e)) I rfl (fun i b h _=>h) rfl rfl rfl rfl trivial
      have hg:(w.drew.alloc (.cells (news.toArray++Builtin.zeroCells zv.cells (grownCap w r'.count 0 e-r'.count)) e)).heap[w.heap.size]? = some (.cells (news.toArray++Builtin.zeroCells zv.cells (grownCap w r'.count 0 e-r'.count)) e (0,0)):=heap_alloc_new w.drew _
      refine⟨_,_,hrun,_,_,_,h,hI ⟨_,hg,(hr.keep K).congrN fun j hj=> ?_⟩ rfl,⟨_,rfl⟩,K,⟨w.heap.size,r'.count,_,e,_,?_,rfl,hge,hcm,by unfold World.shape?;rw[hg],?_⟩,False.elim⟩
      ·have hjl:j<news.length:=by omega
       simp only[Array.getElem?_append,List.size_toArray,hjl,if_true]
       rw[List.getElem?_toArray,List.getElem?_eq_getElem hjl]
       exact((hn2 j _ (List.getElem?_eq_getElem hjl)).1).symm
      ·rw[← I.heap.len];simp
      ·simp only[Array.size_append,List.size_toArray,size_zeroCells,hzs,hn1,his,hrw,← Nat.add_mul]
       apply Nat.mul_le_mul_right
       omega
 ·rename_i id wd
  split at h
  case h_2=>exact h.elim
  rename_i t' r hbk
  split at h
  case h_2=>exact h.elim
  rename_i r2 happ
  split at h
  case isFalse=>exact h.elim
  rename_i hcond
  obtain⟨rfl,hwd,hww⟩:=hcond
  cases c
  ·simp at h
  ·simp only[Bool.true_and] at h
   cases hc:decide (r2.count*by_≤140737488355328∧r2.count≤140737488355328) with
   |false=>rw[hc] at h;exact h.elim
   |true=>
    rw[hc] at h
    simp only[cond_true] at h
    simp only[decide_eq_true_eq] at hc
    obtain⟨g,n,cap,ty2,sz',hg,rfl,hnc,hcm,hsh,hcs⟩:=hx
    obtain⟨-,hn,-⟩:=I.heap.live id _ g n hbk hg rfl
    simp only[Blk.count] at hn
    subst hn
    exact app id wd g _ cap ty2 sz' r r r2 rfl hbk hg happ hwd hww (fun _ h=>h) hnc hcm hsh hcs hc h
 ·rename_i id wd i0 n0'
  split at h
  case h_2=>exact h.elim
  rename_i t' r hbk
  split at h
  case h_2=>exact h.elim
  rename_i r2 happ
  split at h
  case isFalse=>exact h.elim
  rename_i hcond
  obtain⟨rfl,hwd,hww,rfl⟩:=hcond
  cases c
  ·simp at h
  ·simp only[Bool.true_and] at h
   cases hm:decide (n0'≤r.count) with
   |false=>rw[hm] at h;exact h.elim
   |true=>
    rw[hm] at h
    simp only[Bool.true_and] at h
    cases hc:decide (r2.count*by_≤140737488355328∧r2.count≤140737488355328) with
    |false=>rw[hc] at h;exact h.elim
    |true=>
     rw[hc] at h
     simp only[cond_true] at h
     simp only[decide_eq_true_eq] at hc hm
     obtain⟨g,n,off,cap,hg,rfl,hnc,hcm,-,hfst⟩:=hx
     obtain⟨rfl,ty2,sz',hsh,hcs⟩:=hfst rfl
     have hpc:(r.part 0 n0').count=n0':=part_count (by omega)
     have:=app id wd g n cap ty2 sz' r (r.part 0 n0') r2 rfl hbk hg happ (by rw[part_width];exact hwd) (by rw[part_width];exact hww) (fun arr h=>(RowCells_part (i:=0) (n:=n0') h).congr fun j u hj=>by simpa using hj) (by omega) hcm hsh hcs hc h
     rw[hpc] at this
     exact this
 ·exact h.elim
end
end Go.Ev
