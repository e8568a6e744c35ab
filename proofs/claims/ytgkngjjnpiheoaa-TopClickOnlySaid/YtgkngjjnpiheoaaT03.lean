/-
  Part of the proof that TopClickOnly holds.
-/
import Derived.Test.YtgkngjjnpiheoaaT02
set_option linter.unusedVariables false
set_option linter.unusedSimpArgs false
set_option linter.unusedSectionVars false
namespace Go.Ev
open Go Go.RowKit
variable [Glob]
section
variable {F:Nat→Prop} {P:Program} {w:World} {ρ:List (Nat × Nat)} {σ:List Blk}
theorem lit_add(b o n:Nat):(⟨b,o,none⟩:Addr).add n=⟨b,o+n,none⟩:=Addr.add_lit b o n
theorem stepN_eq(j sz:Nat):stepN j sz=j*sz:=by unfold stepN;split<;>simp_all
theorem evFieldAddr_sound{m:Nat→Prop}{t:TypeId}{x v:AV}{f:Nat}{vx:Value}(h:evFieldAddr P t x f=some (true,v))(hx:Den w m ρ x vx):
  ∃u,(Instr.fieldAt t vx f).run P w= .ok u w∧Den w m ρ v u:=by
 unfold evFieldAddr at h
 split at h
 ·rename_i fs hu
  split at h
  ·rename_i fd hf
   split at h
   ·rename_i n id wd i c hs
    simp at h
    subst h
    obtain⟨g,y,hg,rfl⟩:=hx
    refine⟨.pointer (some ⟨g,i*wd+(c+fd.offset),none⟩),?_,g,y,hg,rfl⟩
    simp[Instr.fieldAt,run_underlying hu,hf,Instr.sureAddr,fieldPlace,run_sizeOf' hs,lit_add,Nat.add_assoc]
   ·rename_i n r i c hs
    simp at h
    subst h
    obtain⟨ad,rfl,hr⟩:=hx
    refine⟨.pointer (some (ad.add (i*r.width+(c+fd.offset)))),?_,ad,rfl,hr⟩
    simp[Instr.fieldAt,run_underlying hu,hf,Instr.sureAddr,fieldPlace,run_sizeOf' hs,add_add,Nat.add_assoc]
   ·rename_i n g c hs
    simp at h
    subst h
    cases hx
    refine⟨.pointer (some ⟨g,c+fd.offset,none⟩),?_,rfl⟩
    simp[Instr.fieldAt,run_underlying hu,hf,Instr.sureAddr,fieldPlace,run_sizeOf' hs,lit_add]
   ·cases h
  ·cases h
 ·cases h
theorem evIndexAddr_sound(H:HeapOk F ρ σ w){t:TypeId}{x ix v:AV}{vx vi:Value}(h:evIndexAddr P σ t x ix=some (true,v))(hx:Den w (Mut F ρ σ) ρ x vx)(hi:Den w (Mut F ρ σ) ρ ix vi):
  ∃u,(Instr.indexAt t vx vi).run P w= .ok u w∧Den w (Mut F ρ σ) ρ v u:=by
 unfold evIndexAddr at h
 split at h
 ·rename_i k j n e id wd i c hu
  cases hi
  split at h
  ·rename_i sz hs
   simp at h
   obtain⟨⟨h1,h2⟩,rfl⟩:=h
   obtain⟨g,y,hg,rfl⟩:=hx
   refine⟨.pointer (some ((⟨g,i*wd+c,none⟩:Addr).add (j.toNat*sz))),?_,?_⟩
   ·simp[Instr.indexAt,asIntOf,run_underlying hu,Instr.sureAddr,h1,h2,run_sizeOf' hs]
   ·rw[lit_add,stepN_eq]
    split
    ·rename_i hw
     subst hw
     exact⟨g,y,hg,by congr 3;omega⟩
    ·exact⟨g,y,hg,by congr 3;omega⟩
  ·cases h
 ·rename_i k j n e r i c hu
  cases hi
  split at h
  ·rename_i sz hs
   simp at h
   obtain⟨⟨h1,h2⟩,rfl⟩:=h
   obtain⟨ad,rfl,hr⟩:=hx
   refine⟨.pointer (some ((ad.add (i*r.width+c)).add (j.toNat*sz))),?_,?_⟩
   ·simp[Instr.indexAt,asIntOf,run_underlying hu,Instr.sureAddr,h1,h2,run_sizeOf' hs]
   ·rw[add_add,stepN_eq]
    split
    ·rename_i hw
     refine⟨ad,?_,hr⟩
     rw[hw]
     congr 3;omega
    ·exact⟨ad,by congr 3;omega,hr⟩
  ·cases h
 ·rename_i k j n e g c hu
  cases hi
  split at h
  ·rename_i sz hs
   simp at h
   obtain⟨⟨h1,h2⟩,rfl⟩:=h
   cases hx
   refine⟨.pointer (some ((⟨g,c,none⟩:Addr).add (j.toNat*sz))),?_,?_⟩
   ·simp[Instr.indexAt,asIntOf,run_underlying hu,Instr.sureAddr,h1,h2,run_sizeOf' hs]
   ·rw[lit_add,stepN_eq]
    rfl
  ·cases h
 ·rename_i k j e s hu
  cases hi
  split at h
  ·rename_i n sz r hs hl
   split at h
   ·rename_i hw
    simp at h
    obtain⟨⟨h1,h2⟩,rfl⟩:=h
    cases hl
    obtain⟨a,cap,rfl,hc1,hc2,hc3⟩:=hx
    rcases hc3 with hc3|⟨ad,rfl,hr⟩
    ·omega
    ·refine⟨.pointer (some (ad.add (j.toNat*sz))),?_,ad,by rw[hw,Nat.add_zero],hr⟩
     simp[Instr.indexAt,asIntOf,run_underlying hu,h1,h2,run_sizeOf' hs]
   ·cases h
  ·rename_i n sz id wd hs hl
   split at h
   ·rename_i hw
    simp at h
    obtain⟨⟨h1,h2⟩,rfl⟩:=h
    obtain⟨a,cap,e1⟩:=svLen_slice (m:=Mut F ρ σ) H hl hx (by intro t;simp)
    obtain⟨g,y,cap',t',sz',hg,e2,_⟩:=hx
    rw[e1] at e2
    cases e2
    subst e1
    refine⟨.pointer (some ((⟨g,0,none⟩:Addr).add (j.toNat*sz))),?_,g,_,hg,by rw[lit_add,hw];congr 3;omega⟩
    simp[Instr.indexAt,asIntOf,run_underlying hu,h1,h2,run_sizeOf' hs]
   ·cases h
  ·rename_i n sz id wd i k' hs hl
   split at h
   ·rename_i hw
    simp at h
    obtain⟨⟨h1,h2⟩,rfl⟩:=h
    cases hl
    obtain⟨g,y,off,cap',hg,rfl,hc1,hc2,hc3,-⟩:=hx
    have ho:off=i*wd:=by rcases hc3 with h0|h0<;>omega
    subst ho
    refine⟨.pointer (some ((⟨g,i*wd,none⟩:Addr).add (j.toNat*sz))),?_,g,y,hg,by rw[lit_add,hw,Nat.add_mul,Nat.add_zero]⟩
    simp[Instr.indexAt,asIntOf,run_underlying hu,h1,h2,run_sizeOf' hs]
   ·cases h
  ·cases h
 ·cases h
theorem toArray_setIfInBounds_fold(vs:List Value)(off:Nat): ∀(cs:List Value) (j:Nat),off+j+cs.length≤vs.length→
  ((cs.zipIdx j).foldl (fun(a:Array Value) (p:Value × Nat)=>a.setIfInBounds (off+p.2) p.1) vs.toArray)=(vs.take (off+j)++cs++vs.drop (off+j+cs.length)).toArray
 |[],j,h=>by simp
 |c::cs,j,h=>by
  simp only[List.length_cons] at h
  simp only[List.zipIdx_cons,List.foldl_cons]
  have e:vs.toArray.setIfInBounds (off+j) c=(vs.set (off+j) c).toArray:=by simp
  rw[e,toArray_setIfInBounds_fold (vs.set (off+j) c) off cs (j+1) (by simp;omega)]
  congr 1
  rw[show off+(j+1)=off+j+1 from by omega]
  rw[List.take_add_one,List.take_set_of_le (Nat.le_refl _)]
  rw[List.getElem?_set_self (by omega)]
  rw[List.drop_set_of_lt (by omega)]
  simp only[Option.toList_some,List.append_assoc,List.singleton_append,List.length_cons]
  rw[show off+j+1+cs.length=off+j+(cs.length+1) from by omega]
theorem fillSV_sound{m:Nat→Prop}{place:Nat→Option (Nat × Nat)}: ∀{parts:List (Nat × AV)} {vparts:List (Nat × Value)} {cells l:List SV} {vs:List Value},fillSV place cells parts=some l→All2 (fun(p:Nat × AV) (q:Nat × Value)=>p.1=q.1∧Den w m ρ p.2 q.2) parts vparts→All2 (DenS w m ρ) cells vs→
  ∃us:List Value,Instr.fill place vs.toArray vparts=some us.toArray∧All2 (DenS w m ρ) l us
 |[],vparts,cells,l,vs,h,hp,hc=>by
  cases vparts with
  |nil=>simp only[fillSV,Option.some.injEq] at h;subst h;exact⟨vs,rfl,hc⟩
  |cons a l=>exact hp.elim
 |(i,a)::parts,vparts,cells,l,vs,h,hp,hc=>by
  cases vparts with
  |nil=>exact hp.elim
  |cons q vparts=>
   obtain⟨i',v⟩:=q
   obtain⟨⟨hi,hd⟩,hp⟩:=hp
   simp only at hi hd
   subst hi
   simp only[fillSV] at h
   split at h
   ·rename_i off size k hpl hk
    split at h
    ·rename_i hle
     have hcells:=Den_agg_cells hk hd
     have hlen:=hcells.length
     have hsz:v.cells.size=size:=by rw[← hle.1,hlen];simp
     have hvl:vs.length=cells.length:=hc.length.symm
     have e:=toArray_setIfInBounds_fold vs off v.cells.toList 0 (by simp only[Array.length_toList];omega)
     simp only[Nat.add_zero] at e
     have hfold:(v.cells.zipIdx.foldl (fun(cs:Array Value) (p:Value × Nat)=>cs.setIfInBounds (off+p.2) p.1) vs.toArray)=
       (vs.take off++v.cells.toList++vs.drop (off+size)).toArray:=by
      rw[← hsz]
      rw[← Array.foldl_toList,Array.toList_zipIdx]
      simpa using e
     obtain⟨us,h1,h2⟩:=fillSV_sound h hp (((hc.take off).append hcells).append (hc.drop (off+size)))
     refine⟨us,?_,h2⟩
     simp only[Instr.fill,hpl]
     rw[if_neg]
     ·rw[← h1]
      congr 1
     ·simp only[Bool.or_eq_true,decide_eq_true_eq,ne_eq,List.size_toArray]
      omega
    ·cases h
   ·cases h
theorem run_zeroT{t:TypeId}{z:List SV}(h:zeroT P t=some z): ∃v,(zeroValue t).run P w= .ok v w∧svcs v.cells.toList=some z:=by
 unfold zeroT at h
 cases hi:P.info? t with
 |none=>rw[hi] at h;simp at h
 |some i=>
  rw[hi] at h
  simp only[Option.bind_some] at h
  cases hz:i.zero with
  |none=>rw[hz] at h;simp at h
  |some v=>
   rw[hz] at h
   exact⟨v,by simp[zeroValue,typeInfo,hi,hz],h⟩
theorem mapM_places: ∀{fs:List Field},(placesT P fs).all (·.isSome)=true→
  ∃ps:List (Nat × Nat),(fs.mapM fun f=>do pure (f.offset,← sizeOf f.type):Sem (List (Nat × Nat))).run P w= .ok ps w∧ ∀i:Nat,(((placesT P fs)[i]?).getD none)=ps[i]?
 |[],_=>⟨[],rfl,fun i=>by simp[placesT]⟩
 |f::fs,h=>by
  simp only[placesT,List.map_cons,List.all_cons,Bool.and_eq_true] at h
  obtain⟨ps,h1,h2⟩:=mapM_places (fs:=fs) h.2
  cases hs:sizeT P f.type with
  |none=>rw[hs] at h;simp at h
  |some n=>
   refine⟨(f.offset,n)::ps,?_,fun i=> ?_⟩
   ·simp only[List.mapM_cons,Sem.run_bind,run_sizeOf' hs,Result.andThen_ok,Sem.run_pure]
    simp only[Result.andThen_ok,h1] at *
   ·cases i with
    |zero=>simp[placesT,hs]
    |succ i=>simpa [placesT] using h2 i
theorem mapM_places'{fs:Array Field}(h:(placesT P fs.toList).all (·.isSome)=true):
  ∃ps:List (Nat × Nat),(fs.mapM fun f=>do pure (f.offset,← sizeOf f.type):Sem (Array (Nat × Nat))).run P w= .ok ps.toArray w∧ ∀i:Nat,(((placesT P fs.toList)[i]?).getD none)=ps[i]? := by
 obtain⟨ps,h1,h2⟩:=mapM_places (w:=w) h
 refine⟨ps,?_,h2⟩
 rw[Array.mapM_eq_mapM_toList]
 rw[Sem.run_map,h1]
 rfl
theorem evBuild_sound{m:Nat→Prop}{t:TypeId}{parts:List (Nat × AV)}{vparts:List (Nat × Value)}{v:AV}(h:evBuild P t parts=some (true,v))
  (hp:All2 (fun(p:Nat × AV) (q:Nat × Value)=>p.1=q.1∧Den w m ρ p.2 q.2) parts vparts):
  ∃u,(Instr.build t vparts.toArray).run P w= .ok u w∧Den w m ρ v u:=by
 unfold evBuild at h
 split at h
 ·rename_i z fs hz hu
  split at h
  ·rename_i hall
   obtain⟨zv,h1,h2⟩:=run_zeroT (w:=w) hz
   obtain⟨ps,h3,h4⟩:=mapM_places' (w:=w) hall
   cases hf:fillSV (fun i=>((placesT P fs.toList)[i]?).getD none) z parts with
   |none=>rw[hf] at h;simp at h
   |some l=>
    rw[hf] at h
    simp at h
    subst h
    obtain⟨us,h5,h6⟩:=fillSV_sound hf hp (svcs_sound (w:=w) (m:=m) (ρ:=ρ) h2)
    have hpl:(fun i=>((placesT P fs.toList)[i]?).getD none)=(fun i:Nat=>ps.toArray[i]?):=by
     funext i;rw[h4];simp
    rw[hpl] at h5
    refine⟨.agg us.toArray,?_,us,rfl,h6⟩
    simp only[Instr.build,Sem.run_bind,h1,run_underlying hu,Result.andThen_ok]
    rw[h3]
    simp only[Result.andThen_ok]
    have e:zv.cells.toList.toArray=zv.cells:=by simp
    rw[e] at h5
    simp only[h5]
    rfl
  ·cases h
 ·rename_i z n e hz hu
  split at h
  ·rename_i sz hs
   obtain⟨zv,h1,h2⟩:=run_zeroT (w:=w) hz
   cases hf:fillSV (fun i=>some (i*sz,sz)) z parts with
   |none=>rw[hf] at h;simp at h
   |some l=>
    rw[hf] at h
    simp at h
    subst h
    obtain⟨us,h5,h6⟩:=fillSV_sound hf hp (svcs_sound (w:=w) (m:=m) (ρ:=ρ) h2)
    refine⟨.agg us.toArray,?_,us,rfl,h6⟩
    have e:zv.cells.toList.toArray=zv.cells:=by simp
    rw[e] at h5
    simp[Instr.build,h1,run_underlying hu,run_sizeOf' hs,h5]
  ·cases h
 ·cases h
theorem bound_sound{m:Nat→Prop}{d:Nat}{o:Option AV}{vo:Option Value}{l:Nat}(h:bound d o=some (true,l))
  (ho: ∀a,o=some a→ ∃u,vo=some u∧Den w m ρ a u) (hn:o=none→vo=none):
  (vo=none∧l=d)∨(∃(k:IntKind) (n:Int),vo=some (.int k n)∧0≤n∧n.toNat=l):=by
 unfold bound at h
 split at h
 ·simp at h;exact .inl ⟨hn rfl,h.symm⟩
 ·rename_i k n
  simp at h
  obtain⟨u,h1,h2⟩:=ho _ rfl
  cases h2
  exact .inr ⟨k,n,h1,h.1,h.2⟩
 ·cases h
theorem run_bound{k:IntKind}{n:Int}{y:Nat}{c:BoundsCode}(h0:0≤n)(h1:n.toNat≤y):(Instr.sliceBound (.int k n) y c).run P w= .ok n.toNat w:=by
 simp[Instr.sliceBound,asIntOf,h0,(show n≤(y:Int) by omega)]
theorem run_bounds{b:Bool}{len cap l h:Nat}{lo hi:Option Value}(hle:h≤cap)(hlh:l≤h)
  (hlo:(lo=none∧l=0)∨(∃(k:IntKind) (n:Int),lo=some (.int k n)∧0≤n∧n.toNat=l))
  (hhi:(hi=none∧h=len)∨(∃(k:IntKind) (n:Int),hi=some (.int k n)∧0≤n∧n.toNat=h)):
  (Instr.sliceBounds b len cap lo hi none).run P w= .ok (l,h,cap) w:=by
 rcases hlo with⟨rfl,rfl⟩|⟨k,n,rfl,h0,rfl⟩<;>rcases hhi with⟨rfl,rfl⟩|⟨k',n',rfl,h0',rfl⟩
 ·simp[Instr.sliceBounds]
 ·simp[Instr.sliceBounds,run_bound h0' hle]
 ·simp[Instr.sliceBounds,run_bound h0 hlh]
 ·simp[Instr.sliceBounds,run_bound h0' hle,run_bound h0 hlh]
theorem RowCells_part{m:Nat→Prop}{get:Nat→Option Value}{r:Row}{i n:Nat}(h:RowCells w m get r):RowCells w m (fun j=>get (i*r.width+j)) (r.part i n):=by
 cases r with
 |ints k xs=>
  intro j x hx
  simp only[List.getElem?_take] at hx
  split at hx
  ·rw[List.getElem?_drop] at hx
   simpa [Row.width] using h (i+j) x hx
  ·cases hx
 |mat k wd xss=>
  intro j xs hx c hc
  simp only[List.getElem?_take] at hx
  split at hx
  ·rw[List.getElem?_drop] at hx
   have:=h (i+j) xs hx c hc
   simp only[Row.width]
   rw[← this]
   congr 1
   rw[Nat.add_mul];omega
  ·cases hx
 |recs cks xss=>
  intro j xs hx c ck hc
  simp only[List.getElem?_take] at hx
  split at hx
  ·rw[List.getElem?_drop] at hx
   obtain⟨u,h1,h2⟩:=h (i+j) xs hx c ck hc
   refine⟨u,?_,h2⟩
   rw[← h1]
   simp only[Row.width]
   congr 1
   rw[Nat.add_mul];omega
  ·cases hx
theorem part_count{r:Row}{i n:Nat}(h:i+n≤r.count):(r.part i n).count=n:=by
 cases r<;>simp[Row.part,Row.count] at *<;>omega
theorem part_width(r:Row)(i n:Nat):(r.part i n).width=r.width:=by cases r<;>rfl
theorem cutSV_sound{x v:SV}{n l h sz:Nat}{a:Option Addr}{cap:Nat}(hc:cutSV σ x l h=some (true,v))(hw:svWidth x sz=true)
  (hx:DenS w (Mut F ρ σ) ρ x (.slice a n cap)) (hn:svLen σ x=some n):
  h≤cap∧l≤h∧DenS w (Mut F ρ σ) ρ v (.slice (if cap=l then a else a.map (·.add (l*sz))) (h-l) (cap-l)):=by
 cases x with
 |nil=>
  cases hx
  simp[cutSV] at hc
  obtain⟨⟨h1,h2⟩,rfl⟩:=hc
  subst h1
  obtain rfl:l=0:=by omega
  exact⟨by omega,by omega,by simp[DenS]⟩
 |data r=>
  simp[cutSV] at hc
  obtain⟨⟨h1,h2⟩,rfl⟩:=hc
  simp only[svWidth,beq_iff_eq] at hw
  obtain⟨a',cap',e,hc1,hc2,hc3⟩:=hx
  cases e
  refine⟨by omega,h2,_,cap-l,by rw[part_count (by omega)],?_,by omega,?_⟩
  ·rw[part_count (by omega)];omega
  ·rcases Nat.eq_zero_or_pos (h-l) with h0|h0
   ·exact .inl (by rw[part_count (by omega)];exact h0)
   ·right
    rcases hc3 with hc3|⟨ad,rfl,hb,hm,hr⟩
    ·omega
    ·rw[if_neg (by omega)]
     refine⟨_,rfl,by rw[add_block];exact hb,by rw[add_block];exact hm,?_⟩
     refine(RowCells_part (i:=l) (n:=h-l) hr).congr fun j u hj=> ?_
     rw[← hj,add_add,hw]
 |own id wd=>
  simp only[cutSV,hn] at hc
  simp at hc
  obtain⟨⟨h1,h2⟩,rfl⟩:=hc
  simp only[svWidth,beq_iff_eq] at hw
  subst hw
  obtain⟨g,y,cap',t,sz',hg,e,hc1,hc2,hs,hsz⟩:=hx
  cases e
  refine⟨by omega,h2,?_⟩
  by_cases hcl:cap=l
  ·rw[if_pos hcl]
   exact⟨g,_,0,_,hg,rfl,by omega,by omega,.inl (by omega),fun _=>⟨rfl,t,sz',hs,Nat.le_trans (Nat.mul_le_mul_right _ (Nat.sub_le _ _)) hsz⟩⟩
  ·rw[if_neg hcl]
   exact⟨g,_,l*wd,cap-l,hg,by simp[lit_add],by omega,by omega,.inr rfl,fun hl=>⟨by rw[hl,Nat.zero_mul],t,sz',hs,Nat.le_trans (Nat.mul_le_mul_right _ (Nat.sub_le _ _)) hsz⟩⟩
 |sub id wd i k=>
  simp only[svLen,Option.some.injEq] at hn
  subst hn
  simp[cutSV] at hc
  obtain⟨⟨h1,h2⟩,rfl⟩:=hc
  simp only[svWidth,beq_iff_eq] at hw
  subst hw
  obtain⟨g,y,off,cap',hg,e,hc1,hc2,hc3,hc4⟩:=hx
  cases e
  refine⟨by omega,h2,?_⟩
  by_cases hcl:cap=l
  ·rw[if_pos hcl]
   exact⟨g,_,off,_,hg,rfl,by omega,by omega,.inl (by omega),fun h0=>by
    obtain⟨a1,t,sz',a2,a3⟩:=hc4 (by omega)
    exact⟨a1,t,sz',a2,Nat.le_trans (Nat.mul_le_mul_right _ (Nat.sub_le _ _)) a3⟩⟩
  ·rw[if_neg hcl]
   refine⟨g,_,off+l*wd,cap-l,hg,by simp[lit_add],by omega,by omega,?_,fun h0=>by
    obtain⟨a1,t,sz',a2,a3⟩:=hc4 (by omega)
    exact⟨by rw[a1,show l=0 by omega];simp,t,sz',a2,Nat.le_trans (Nat.mul_le_mul_right _ (Nat.sub_le _ _)) a3⟩⟩
   rcases hc3 with h0|h0
   ·left;omega
   ·right;rw[h0,Nat.add_mul]
 |_=>simp[svWidth] at hw
theorem room_shape(H:HeapOk F ρ σ w){id g n q:Nat}{b:Blk}(hb:σ[id]? = some b)(hg:ρ[id]? = some (g,n))(hq:roomOf b=some q): ∃t sz,w.shape? g=some (t,sz)∧q≤sz:=by
 cases b with
 |cells l=>
  cases hq
  obtain⟨⟨arr,t,ha,hc⟩,-,-⟩:=H.live id _ g n hb hg rfl
  refine⟨t,arr.size,by simp[World.shape?,ha],?_⟩
  rcases Nat.eq_zero_or_pos l.length with h0|h0
  ·omega
  ·obtain⟨u,hu,-⟩:=hc (l.length-1) _ (List.getElem?_eq_getElem (by omega))
   have:=(Array.getElem?_eq_some_iff.1 hu).1
   omega
 |row t r=>
  cases r with
  |ints k xs=>
   cases hq
   obtain⟨⟨arr,ha,hc⟩,-,-⟩:=H.live id _ g n hb hg rfl
   refine⟨t,arr.size,by simp[World.shape?,ha],?_⟩
   rcases Nat.eq_zero_or_pos xs.length with h0|h0
   ·omega
   ·have:=hc (xs.length-1) _ (List.getElem?_eq_getElem (by omega))
    have:=(Array.getElem?_eq_some_iff.1 this).1
    omega
  |_=>cases hq
 |_=>cases hq
theorem evSlice_sound(H:HeapOk F ρ σ w){t:TypeId}{x v:AV}{lo hi mx:Option AV}{vx:Value}{vlo vhi vmx:Option Value}(h:evSlice P σ t x lo hi mx=some (true,v))
  (hx:Den w (Mut F ρ σ) ρ x vx) (hl1: ∀a,lo=some a→ ∃u,vlo=some u∧Den w (Mut F ρ σ) ρ a u) (hl2:lo=none→vlo=none)
  (hh1: ∀a,hi=some a→ ∃u,vhi=some u∧Den w (Mut F ρ σ) ρ a u) (hh2:hi=none→vhi=none) (hm2:mx=none→vmx=none):
  ∃u,(Instr.sliceAt t vx vlo vhi vmx).run P w= .ok u w∧Den w (Mut F ρ σ) ρ v u:=by
 unfold evSlice at h
 split at h
 ·rename_i e s hu
  have hm:=hm2 rfl
  subst hm
  split at h
  ·rename_i n hn
   split at h
   ·rename_i c1 l c2 hh sz hb1 hb2 hs
    split at h
    ·rename_i hw
     cases hcut:cutSV σ s l hh with
     |none=>rw[hcut] at h;simp at h
     |some cv=>
      obtain⟨c,v'⟩:=cv
      rw[hcut] at h
      simp at h
      obtain⟨⟨rfl,rfl,rfl⟩,rfl⟩:=h
      have hns: ∀t,s≠ .str t:=by rintro t rfl;simp[svWidth] at hw
      obtain⟨a,cap,rfl⟩:=svLen_slice H hn hx hns
      obtain⟨h1,h2,h3⟩:=cutSV_sound hcut hw hx hn
      have hbs:=run_bounds (P:=P) (w:=w) (b:=true) (len:=n) h1 h2 (bound_sound hb1 hl1 hl2) (bound_sound hb2 hh1 hh2)
      refine⟨_,?_,h3⟩
      simp[Instr.sliceAt,Instr.slice,run_underlying hu,hbs,run_sizeOf' hs]
    ·cases h
   ·cases h
  ·cases h
 ·rename_i s hu
  have hm:=hm2 rfl
  subst hm
  cases hx
  split at h
  ·rename_i c1 l c2 hh hb1 hb2
   simp[cutSV] at h
   obtain⟨⟨rfl,rfl,h1,h2⟩,rfl⟩:=h
   have hbs:=run_bounds (P:=P) (w:=w) (b:=false) (len:=s.length) (cap:=s.length) h1 h2 (bound_sound hb1 hl1 hl2) (bound_sound hb2 hh1 hh2)
   refine⟨.string ((⟨s.toArray⟩:ByteArray).extract l hh),?_,?_⟩
   ·have hsz:(⟨s.toArray⟩:ByteArray).size=s.length:=by show s.toArray.size=_;simp
    simp[Instr.sliceAt,Instr.slice,run_underlying hu,hsz,hbs]
   ·show _=Value.string _
    congr 1
    apply ByteArray.ext
    simp
  ·cases h
 ·rename_i n e id wd i c hu
  have hm:=hm2 rfl
  subst hm
  obtain⟨g,y,hg,rfl⟩:=hx
  split at h
  case isFalse=>cases h
  rename_i hsmall
  have hmx:n≤maxLen:=Nat.le_trans hsmall (by unfold maxLen;omega)
  split at h
  ·rename_i t' k xs hb
   have e1:=hl2 rfl
   have e2:=hh2 rfl
   subst e1;subst e2
   split at h
   ·rename_i hic
    split at h
    ·rename_i hs
     simp at h
     obtain⟨hn,rfl⟩:=h
     obtain⟨⟨arr,ha,hc⟩,hcnt,_⟩:=H.live id _ g y hb hg rfl
     simp only[Blk.count,Row.count] at hcnt
     have hi0:i=0:=by omega
     have hc0:c=0:=by omega
     subst hi0;subst hc0
     have hsz:xs.length≤arr.size:=by
      rcases Nat.eq_zero_or_pos xs.length with h0|h0
      ·omega
      ·have hlt:xs.length-1<xs.length:=by omega
       have:=hc (xs.length-1) _ (List.getElem?_eq_getElem hlt)
       have:=(Array.getElem?_eq_some_iff.1 this).1
       omega
     have hbs:=run_bounds (P:=P) (w:=w) (b:=false) (len:=n) (cap:=n) (l:=0) (h:=n) (Nat.le_refl _) (Nat.zero_le _) (.inl ⟨rfl,rfl⟩) (.inl ⟨rfl,rfl⟩)
     refine⟨.slice (some ⟨g,0,none⟩) n n,?_,g,n,n,t',arr.size,by rw[hg,← hcnt,hn],rfl,Nat.le_refl _,?_,?_,by omega⟩
     ·simp only[Instr.sliceAt,Sem.run_bind,run_underlying hu,Result.andThen_ok,Instr.sureAddr,Sem.run_pure,hbs,run_sizeOf' hs]
      simp[lit_add]
     ·exact hmx
     ·simp[World.shape?,ha]
    ·cases h
   ·cases h
  ·rename_i b hb hne
   split at h
   ·rename_i q c1 l c2 hh hq hb1 hb2
    split at h
    ·rename_i hs
     simp at h
     obtain⟨⟨hroom,rfl,rfl,h1,h2⟩,rfl⟩:=h
     obtain⟨t',sz',hsh,hsz⟩:=room_shape H hb hg hq
     have hbs:=run_bounds (P:=P) (w:=w) (b:=false) (len:=n) (cap:=n) h1 h2 (bound_sound hb1 hl1 hl2) (bound_sound hb2 hh1 hh2)
     by_cases hnl:n=l
     ·refine⟨.slice (some ⟨g,i*1+c,none⟩) (hh-l) (n-l),?_,g,y,i*1+c,n-l,hg,rfl,by omega,?_,.inl (by omega),fun h0=>⟨by omega,t',sz',hsh,by omega⟩⟩
      ·simp only[Instr.sliceAt,Sem.run_bind,run_underlying hu,Result.andThen_ok,Instr.sureAddr,Sem.run_pure,hbs,run_sizeOf' hs]
       simp[hnl]
      ·omega
     ·refine⟨.slice (some ⟨g,i*1+c+l,none⟩) (hh-l) (n-l),?_,g,y,i*1+c+l,n-l,hg,rfl,by omega,?_,.inr (by omega),fun h0=>⟨by omega,t',sz',hsh,by omega⟩⟩
      ·simp only[Instr.sliceAt,Sem.run_bind,run_underlying hu,Result.andThen_ok,Instr.sureAddr,Sem.run_pure,hbs,run_sizeOf' hs]
       simp[hnl,lit_add]
      ·omega
    ·cases h
   ·cases h
  ·cases h
 ·rename_i n e r i c hu
  have hm:=hm2 rfl
  subst hm
  obtain⟨ad,rfl,hr⟩:=hx
  split at h
  case h_2=>cases h
  rename_i hs
  have e1:=hl2 rfl
  have e2:=hh2 rfl
  subst e1;subst e2
  split at h
  case isFalse=>cases h
  rename_i hsmall
  cases hd:arrData r i c n with
  |none=>rw[hd] at h;simp at h
  |some q=>
   obtain⟨b,r'⟩:=q
   rw[hd] at h
   simp at h
   obtain⟨rfl,rfl⟩:=h
   unfold arrData at hd
   split at hd
   case h_2=>cases hd
   rename_i k wd xss
   simp only[Option.some.injEq,Prod.mk.injEq,Bool.and_eq_true,decide_eq_true_eq] at hd
   obtain⟨⟨h1,h2,h3⟩,rfl⟩:=hd
   obtain⟨r1,r2,r3⟩:=hr
   have hbs:=run_bounds (P:=P) (w:=w) (b:=false) (len:=n) (cap:=n) (l:=0) (h:=n) (Nat.le_refl _) (Nat.zero_le _) (.inl ⟨rfl,rfl⟩) (.inl ⟨rfl,rfl⟩)
   have hlen:(((xss.getD i []).drop c).take n).length=n:=by rw[List.length_take,List.length_drop];omega
   refine⟨.slice (some (ad.add (i*wd+c))) n n,?_,some (ad.add (i*wd+c)),n,by simp only[Row.count];rw[hlen],by simp only[Row.count];omega,Nat.le_trans hsmall (by unfold maxLen;omega),.inr ⟨_,rfl,by rw[add_block];exact r1,by rw[add_block];exact r2,fun j x hj=> ?_⟩⟩
   ·simp only[Instr.sliceAt,Sem.run_bind,run_underlying hu,Result.andThen_ok,Instr.sureAddr,Sem.run_pure,hbs,run_sizeOf' hs]
    simp[Row.width,Addr.add_zero']
   ·have hjn:j<n:=by rw[← hlen];exact(List.getElem?_eq_some_iff.1 hj).1
    rw[List.getElem?_take_of_lt hjn,List.getElem?_drop] at hj
    have:=r3 i _ (show xss[i]? = some (xss.getD i []) by rw[List.getD_eq_getElem?_getD,List.getElem?_eq_getElem h2];rfl) (c+j) (by omega)
    rw[List.getD_eq_getElem?_getD,hj] at this
    dsimp only
    rw[add_add,Nat.add_assoc]
    exact this
 ·rename_i n e g c hu
  have hm:=hm2 rfl
  subst hm
  cases hx
  split at h
  case h_2=>cases h
  rename_i xs hs hg
  have e1:=hl2 rfl
  have e2:=hh2 rfl
  subst e1;subst e2
  split at h
  case isFalse=>cases h
  rename_i hsmall
  obtain⟨hsmall,hxl⟩:=hsmall
  simp at h
  subst h
  cases hgl:globOf Glob.tab g with
  |none=>rw[hgl] at hg;cases hg
  |some l=>
   rw[hgl] at hg
   obtain⟨g1,g2,g3⟩:=H.glob g l hgl
   have key: ∀(l':List SV) (ys:List (List D)),strRow l'=some ys→ys.length=l'.length∧ ∀(j:Nat) (y:List D),ys[j]? = some y→ ∃s,l'[j]? = some (.str s)∧y=[.str s]:=by
    intro l'
    induction l' with
    |nil=>intro ys h;simp[strRow] at h;subst h;simp
    |cons a l' ih=>
     intro ys h
     unfold strRow at h
     split at h
     ·rename_i he;cases he
     ·rename_i s l2 he
      cases he
      cases hy:strRow l' with
      |none=>rw[hy] at h;simp at h
      |some ys'=>
       rw[hy] at h
       simp at h
       subst h
       obtain⟨i1,i2⟩:=ih ys' hy
       refine⟨by simp[i1],fun j y hj=> ?_⟩
       cases j with
       |zero=>simp at hj;exact⟨s,rfl,hj.symm⟩
       |succ j=>simpa using i2 j y (by simpa using hj)
     ·cases h
   obtain⟨k1,k2⟩:=key _ _ hg
   have hbs:=run_bounds (P:=P) (w:=w) (b:=false) (len:=n) (cap:=n) (l:=0) (h:=n) (Nat.le_refl _) (Nat.zero_le _) (.inl ⟨rfl,rfl⟩) (.inl ⟨rfl,rfl⟩)
   refine⟨.slice (some ⟨g,c,none⟩) n n,?_,some ⟨g,c,none⟩,n,by simp only[Row.count];rw[hxl],by simp only[Row.count];omega,Nat.le_trans hsmall (by unfold maxLen;omega),.inr ⟨_,rfl,g1,g2,fun j xs' hj c' ck hc'=> ?_⟩⟩
   ·simp only[Instr.sliceAt,Sem.run_bind,run_underlying hu,Result.andThen_ok,Instr.sureAddr,Sem.run_pure,hbs,run_sizeOf' hs]
    simp[Addr.add_zero']
   ·obtain⟨st,hs1,rfl⟩:=k2 j xs' hj
    have hjn:j<n:=by rw[← hxl];exact(List.getElem?_eq_some_iff.1 hj).1
    rw[List.getElem?_take_of_lt hjn,List.getElem?_drop] at hs1
    obtain⟨⟨u,hu1,hu2⟩,_⟩:=g3 _ _ hs1
    cases c' with
    |zero=>
     simp at hc'
     subst hc'
     refine⟨u,?_,hu2⟩
     dsimp only
     rw[lit_add]
     simpa using hu1
    |succ c'=>simp at hc'
 ·cases h
theorem evSlice3_sound{m:Nat→Prop}{t:TypeId}{x v:AV}{lo:Option AV}{hi mx:AV}{vx vh vm:Value}{vlo:Option Value}(h:evSlice3 P t x lo hi mx=some (true,v))
  (hx:Den w m ρ x vx) (hl1: ∀a,lo=some a→ ∃u,vlo=some u∧Den w m ρ a u) (hl2:lo=none→vlo=none) (hh:Den w m ρ hi vh) (hmx:Den w m ρ mx vm):
  ∃u,(Instr.sliceAt t vx vlo (some vh) (some vm)).run P w= .ok u w∧Den w m ρ v u:=by
 unfold evSlice3 at h
 split at h
 case h_2=>cases h
 rename_i e r hu
 split at h
 case h_2=>cases h
 rename_i c1 l c2 h' c3 mm sz hb1 hb2 hb3 hs
 split at h
 case isFalse=>cases h
 rename_i hw
 simp only[Option.some.injEq,Prod.mk.injEq,Bool.and_eq_true,decide_eq_true_eq] at h
 obtain⟨⟨rfl,rfl,rfl,h1,h2,h3⟩,rfl⟩:=h
 obtain⟨a,cap,rfl,hc1,hc2,hc3⟩:=hx
 have b1:=bound_sound (w:=w) (ρ:=ρ) (m:=m) hb1 hl1 hl2
 have b2:=bound_sound (w:=w) (ρ:=ρ) (m:=m) (vo:=some vh) hb2 (fun a ha=>by cases ha;exact⟨vh,rfl,hh⟩) (fun e=>by cases e)
 have b3:=bound_sound (w:=w) (ρ:=ρ) (m:=m) (vo:=some vm) hb3 (fun a ha=>by cases ha;exact⟨vm,rfl,hmx⟩) (fun e=>by cases e)
 have hbs:(Instr.sliceBounds true r.count cap vlo (some vh) (some vm)).run P w= .ok (l,h',mm) w:=by
  rcases b2 with⟨e,_⟩|⟨k2,n2,e2,p2,q2⟩
  ·cases e
  rcases b3 with⟨e,_⟩|⟨k3,n3,e3,p3,q3⟩
  ·cases e
  cases e2;cases e3
  subst q2;subst q3
  rcases b1 with⟨rfl,rfl⟩|⟨k1,n1,rfl,p1,rfl⟩
  ·simp[Instr.sliceBounds,run_bound p3 (show n3.toNat≤cap by omega),run_bound p2 h1]
  ·simp[Instr.sliceBounds,run_bound p3 (show n3.toNat≤cap by omega),run_bound p2 h1,run_bound p1 h3]
 refine⟨.slice (if mm=l then a else a.map (·.add (l*sz))) (h'-l) (mm-l),?_,_,mm-l,by rw[part_count (by omega)],?_,by omega,?_⟩
 ·simp[Instr.sliceAt,Instr.slice,run_underlying hu,hbs,run_sizeOf' hs]
 ·rw[part_count (by omega)];omega
 ·rcases Nat.eq_zero_or_pos (h'-l) with h0|h0
  ·exact .inl (by rw[part_count (by omega)];exact h0)
  ·right
   rcases hc3 with hc3|⟨ad,rfl,hb,hm,hr⟩
   ·omega
   ·rw[if_neg (by omega)]
    refine⟨_,rfl,by rw[add_block];exact hb,by rw[add_block];exact hm,?_⟩
    refine(RowCells_part (i:=l) (n:=h'-l) hr).congr fun j u hj=> ?_
    rw[← hj,add_add,hw]
end
end Go.Ev
namespace Go.Ev
open Go Go.RowKit
variable [Glob]
theorem All2_map{α γ δ:Type}{R:γ→δ→Prop}{f:α→γ}{g:α→δ}: ∀{l:List α},(∀a ∈ l,R (f a) (g a))→All2 R (l.map f) (l.map g)
 |[],_=>trivial
 |a::l,h=>⟨h a (by simp),All2_map fun b hb=>h b (by simp[hb])⟩
theorem capIds_sound{w:World}{m:Nat→Prop}{ρ:List (Nat × Nat)}: ∀{l:List AV} {ids:List Nat} {vs:List Value},capIds l=some ids→All2 (Den w m ρ) l vs→
  ∃gs:List (Nat × Nat),ids.map (ρ[·]?)=gs.map some∧vs=gs.map fun g=>Value.pointer (some ⟨g.1,0,none⟩):=by
 intro l
 induction l with
 |nil=>
  intro ids vs h hl
  simp only[capIds,Option.some.injEq] at h
  subst h
  cases vs with
  |nil=>exact⟨[],rfl,rfl⟩
  |cons a l=>exact hl.elim
 |cons a l ih=>
  intro ids vs h hl
  cases vs with
  |nil=>exact hl.elim
  |cons u vs=>
   obtain⟨hd,hl⟩:=hl
   unfold capIds at h
   split at h
   ·rename_i he;cases he
   ·rename_i id l' he
    cases he
    cases hc:capIds l with
    |none=>rw[hc] at h;simp at h
    |some k=>
     rw[hc] at h
     simp only[Option.map_some,Option.some.injEq] at h
     subst h
     obtain⟨gs,h1,h2⟩:=ih hc hl
     obtain⟨g,y,hg,rfl⟩:=hd
     exact⟨(g,y)::gs,by simp[hg,h1],by simp[h2]⟩
   ·cases h
section
variable {F:Nat→Prop} {P:Program} {w:World} {ρ:List (Nat × Nat)}
theorem evM_sound{s:St}(H:HeapOk F ρ s.σ w){o:Oper}{v:AV}(h:evM P s o.op=some (true,v)){f:Operand→Value}
  (hops: ∀x ∈ o.op.operands,Den w (Mut F ρ s.σ) ρ (s.ov x) (f x)): ∃u,(execOp f o).run P w= .ok (.value u) w∧Den w (Mut F ρ s.σ) ρ v u:=by
 have lift: ∀{S:Sem Value} {v:AV},(∃u,S.run P w= .ok u w∧Den w (Mut F ρ s.σ) ρ v u)→
   ∃u,(do pure (.value (← S)):Sem Next).run P w= .ok (.value u) w∧Den w (Mut F ρ s.σ) ρ v u:=by
  rintro S v ⟨u,h1,h2⟩
  exact⟨u,by simp[h1],h2⟩
 unfold execOp
 obtain⟨dst,op,ty,pos,after,guard⟩:=o
 simp only at h hops ⊢
 unfold evM at h
 split at h
 ·rename_i x;simp at h;subst h;exact⟨_,rfl,hops x (by simp[Op.operands])⟩
 ·rename_i x;simp at h;subst h;exact⟨_,rfl,hops x (by simp[Op.operands])⟩
 ·rename_i c a b
  have hc:=hops c (by simp[Op.operands])
  have ha:=hops a (by simp[Op.operands])
  have hb:=hops b (by simp[Op.operands])
  split at h
  ·rename_i x hx
   rw[hx] at hc
   cases x
   ·simp at h
    subst h
    have:f c= .bool false:=hc
    exact⟨_,by simp[this,asBool],hb⟩
   ·simp at h
    subst h
    have:f c= .bool true:=hc
    exact⟨_,by simp[this,asBool],ha⟩
  ·cases h
 ·rename_i t a
  have ha:=hops a (by simp[Op.operands])
  split at h
  ·rename_i p n hp hn
   rw[hp] at ha
   split at h
   ·rename_i hagg
    cases hl:loadSVs s.σ p n with
    |none=>rw[hl] at h;simp at h
    |some cl=>
     obtain⟨c,l⟩:=cl
     rw[hl] at h
     simp at h
     obtain⟨rfl,rfl⟩:=h
     obtain⟨ad,hu,vs,hvl,hvs,hd⟩:=loadSVs_sound H hl ha
     refine lift ⟨.agg vs.toArray,?_,vs,rfl,hd⟩
     have:=run_loadCells_list (P:=P) (w:=w) ad vs (fun j v hj=>hvs j v hj)
     rw[hvl] at this
     simp[hu,Instr.loadAt,Instr.sureAddr,loadVar,run_isAgg hagg,run_sizeOf' hn,this]
   ·rename_i hagg
    split at h
    ·rename_i c v' hl
     simp at h
     obtain⟨rfl,rfl⟩:=h
     obtain⟨ad,hu,vs,hvl,hvs,hd⟩:=loadSVs_sound H hl ha
     match vs,hvl,hvs,hd with
     |[u],_,hvs,hd=>
      refine lift ⟨u,?_,hd.1⟩
      have hc:=hvs 0 u rfl
      rw[Addr.add_zero'] at hc
      simp[hu,Instr.loadAt,Instr.sureAddr,loadVar,run_isAgg hagg,run_load,hc]
    ·cases h
   ·cases h
  ·cases h
 ·rename_i x
  have hx:=hops x (by simp[Op.operands])
  split at h
  ·rename_i id wd i c he
   rw[he] at hx
   simp at h;subst h
   obtain⟨g,y,hg,hu⟩:=hx
   exact⟨f x,by simp[hu],g,y,hg,hu⟩
  ·rename_i r i c he
   rw[he] at hx
   simp at h;subst h
   obtain⟨ad,hu,hr⟩:=hx
   exact⟨f x,by simp[hu],ad,hu,hr⟩
  ·rename_i g c he
   rw[he] at hx
   simp at h;subst h
   have hx:f x= .pointer (some ⟨g,c,none⟩):=hx
   exact⟨f x,by simp[hx],hx⟩
  ·rename_i g cap he
   rw[he] at hx
   simp at h;subst h
   obtain⟨gs,h1,hu⟩:=hx
   exact⟨f x,by simp[hu],gs,h1,hu⟩
  ·cases h
 ·rename_i op xt x y yt
  exact lift (evBin_sound h (hops x (by simp[Op.operands])) (hops y (by simp[Op.operands])))
 ·rename_i op xt x
  exact lift (evUn_sound h (hops x (by simp[Op.operands])))
 ·rename_i src dst x
  exact lift (evConvert_sound h (hops x (by simp[Op.operands])))
 ·rename_i fn first cap
  split at h
  ·rename_i g
   split at h
   ·rename_i hf
    have hf0:first = #[]:=by
     rw[List.isEmpty_iff] at hf
     exact Array.toList_inj.1 (by simpa using hf)
    subst hf0
    cases hc:capIds (cap.toList.map s.ov) with
    |none=>rw[hc] at h;simp at h
    |some ids=>
     rw[hc] at h
     simp at h
     subst h
     obtain⟨gs,h1,h2⟩:=capIds_sound hc (All2_map (g:=f) fun a ha=>hops a (by simp[Op.operands];simpa using ha))
     refine lift ⟨.func (.func g) #[] (cap.map f),?_,gs,h1,?_⟩
     ·simp[Instr.makeFunc]
     ·congr 1
      rw[← h2]
      exact(Array.toList_inj.1 (by simp))
   ·cases h
  ·cases h
 ·rename_i t x lo hi mx
  have hlo: ∀a,lo.map s.ov=some a→ ∃u,lo.map f=some u∧Den w (Mut F ρ s.σ) ρ a u:=by
   intro a ha
   cases lo with
   |none=>simp at ha
   |some y=>simp at ha;subst ha;exact⟨f y,rfl,hops y (by simp[Op.operands])⟩
  cases mx with
  |none=>
   refine lift (evSlice_sound H h (hops x (by simp[Op.operands])) hlo (by intro e;simpa using e) ?_ (by intro e;simpa using e) (by intro _;rfl))
   intro a ha
   cases hi with
   |none=>simp at ha
   |some y=>simp at ha;subst ha;exact⟨f y,rfl,hops y (by simp[Op.operands])⟩
  |some y=>
   cases hi with
   |none=>cases h
   |some z=>exact lift (evSlice3_sound h (hops x (by simp[Op.operands])) hlo (by intro e;simpa using e) (hops z (by simp[Op.operands])) (hops y (by simp[Op.operands])))
 ·rename_i t x i
  exact lift (evFieldAddr_sound h (hops x (by simp[Op.operands])))
 ·rename_i t x i
  exact lift (evField_sound h (hops x (by simp[Op.operands])))
 ·rename_i t x i
  exact lift (evIndexAddr_sound H h (hops x (by simp[Op.operands])) (hops i (by simp[Op.operands])))
 ·rename_i t x i
  exact lift (evIndex_sound h (hops x (by simp[Op.operands])) (hops i (by simp[Op.operands])))
 ·rename_i x i
  have hx:=hops x (by simp[Op.operands])
  split at h
  ·rename_i l he
   rw[he] at hx
   obtain⟨vs,hu,hl⟩:=hx
   cases hg:l[i]? with
   |none=>rw[hg] at h;simp at h
   |some tv=>
    rw[hg] at h
    simp at h
    subst h
    obtain⟨u,h1,h2⟩:=hl.get hg
    refine lift ⟨u,by simp[hu,Instr.extract,h1],?_⟩
    cases tv<;>exact h2
  ·cases h
 ·rename_i t parts
  have hp:All2 (fun(p:Nat × AV) (q:Nat × Value)=>p.1=q.1∧Den w (Mut F ρ s.σ) ρ p.2 q.2) (parts.toList.map fun(i,x)=>(i,s.ov x)) (parts.toList.map fun(i,x)=>(i,f x)):=
   All2_map fun a ha=>⟨rfl,hops a.2 (by simp[Op.operands];exact⟨a.1,by simpa using ha⟩)⟩
  obtain⟨u,h1,h2⟩:=evBuild_sound (w:=w) h hp
  refine lift ⟨u,?_,h2⟩
  rw[← h1]
  congr 2
  exact Array.toList_inj.1 (by simp)
 ·rename_i args ts
  split at h
  ·rename_i x t l ha ht
   have hx:=hops x (by simp[Op.operands,Call.operands];simpa using(show x ∈ args.toList by rw[ha];simp))
   obtain⟨u,h1,h2⟩:=evLen_sound (w:=w) (P:=P) (ty:=ty) (ts:=l) H h hx
   refine⟨u,?_,h2⟩
   have e1:args = #[x]:=Array.toList_inj.1 (by simpa using ha)
   have e2:ts=(t::l).toArray:=Array.toList_inj.1 (by simpa using ht)
   subst e1;subst e2
   simp[resolve,invoke,builtin,h1]
  ·cases h
 ·rename_i args ts
  split at h
  ·rename_i k x l ha
   cases hm:maxInt k x l with
   |none=>rw[hm] at h;simp at h
   |some n=>
    rw[hm] at h
    simp at h
    subst h
    have hall:All2 (Den w (Mut F ρ s.σ) ρ) (args.toList.map s.ov) (args.toList.map f):=All2_map fun a ha=>hops a (by simp[Op.operands,Call.operands];simpa using ha)
    rw[ha] at hall
    cases hv:args.toList.map f with
    |nil=>rw[hv] at hall;exact hall.elim
    |cons u vs=>
     rw[hv] at hall
     obtain⟨hd,hl⟩:=hall
     cases hd
     refine⟨.int k n,?_,rfl⟩
     have:=maxInt_sound (P:=P) hm hl
     simp[resolve,invoke,builtin,Builtin.max_,hv,this]
  ·rename_i k x l ha
   cases hm:maxFlt k x l with
   |none=>rw[hm] at h;simp at h
   |some p=>
    obtain⟨c,n⟩:=p
    rw[hm] at h
    simp only[Option.map_some,Option.some.injEq,Prod.mk.injEq] at h
    obtain⟨rfl,rfl⟩:=h
    have hall:All2 (Den w (Mut F ρ s.σ) ρ) (args.toList.map s.ov) (args.toList.map f):=All2_map fun a ha=>hops a (by simp[Op.operands,Call.operands];simpa using ha)
    rw[ha] at hall
    cases hv:args.toList.map f with
    |nil=>rw[hv] at hall;exact hall.elim
    |cons u vs=>
     rw[hv] at hall
     obtain⟨hd,hl⟩:=hall
     cases hd
     refine⟨.float k n,?_,rfl⟩
     have:=maxFlt_sound (P:=P) hm hl
     simp[resolve,invoke,builtin,Builtin.max_,hv,this]
  ·cases h
 ·rename_i args ts
  split at h
  ·rename_i k x l ha
   cases hm:minInt k x l with
   |none=>rw[hm] at h;simp at h
   |some n=>
    rw[hm] at h
    simp at h
    subst h
    have hall:All2 (Den w (Mut F ρ s.σ) ρ) (args.toList.map s.ov) (args.toList.map f):=All2_map fun a ha=>hops a (by simp[Op.operands,Call.operands];simpa using ha)
    rw[ha] at hall
    cases hv:args.toList.map f with
    |nil=>rw[hv] at hall;exact hall.elim
    |cons u vs=>
     rw[hv] at hall
     obtain⟨hd,hl⟩:=hall
     cases hd
     refine⟨.int k n,?_,rfl⟩
     have:=minInt_sound (P:=P) hm hl
     simp[resolve,invoke,builtin,Builtin.min_,hv,this]
  ·cases h
 ·cases h
end
end Go.Ev
