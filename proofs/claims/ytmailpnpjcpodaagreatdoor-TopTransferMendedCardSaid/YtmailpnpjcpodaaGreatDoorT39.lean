/-
  Part of the proof that TopTransferMended holds.
-/
import Derived.Test.YtmailpnpjcpodaaGreatDoorT34
set_option linter.unusedVariables false
set_option linter.unusedSimpArgs false
set_option linter.unusedSectionVars false
namespace Go.Ev
open Go Go.Proofs
set_option maxRecDepth 20000
def thereJ(x:Int):Int→Nat→List Int
 |_,0=>[]
 |i,c+1=>bif bitB x i then thereJ x (i+1) c else i::thereJ x (i+1) c
theorem lostJ_mem(x:Int): ∀(c:Nat) (j y:Int),y ∈ lostJ x j c↔j≤y∧y<j+c∧bitB x y=true
 |0,j,y=>by simp[lostJ];omega
 |c+1,j,y=>by
  unfold lostJ
  cases hb:bitB x j with
  |true=>
   rw[cond_true,List.mem_cons,lostJ_mem x c (j+1) y]
   constructor
   ·rintro (rfl|⟨h1,h2,h3⟩)
    ·exact⟨by omega,by omega,hb⟩
    ·exact⟨by omega,by omega,h3⟩
   ·rintro ⟨h1,h2,h3⟩
    by_cases e:y=j
    ·exact .inl e
    ·exact .inr ⟨by omega,by omega,h3⟩
  |false=>
   rw[cond_false,lostJ_mem x c (j+1) y]
   constructor
   ·rintro ⟨h1,h2,h3⟩
    exact⟨by omega,by omega,h3⟩
   ·rintro ⟨h1,h2,h3⟩
    have:y≠j:=fun e=>by rw[e,hb] at h3;cases h3
    exact⟨by omega,by omega,h3⟩
theorem lostJ_lost(x:Int): ∀(c:Nat) (j last:Int),0≤j→last<j→lostF (j+c) last (lostJ x j c)=0
 |0,_,_,_,_=>rfl
 |c+1,j,last,h0,hl=>by
  unfold lostJ
  have e:j+((c+1:Nat):Int)=(j+1)+(c:Int):=by omega
  cases bitB x j with
  |false=>rw[cond_false,e];exact lostJ_lost x c (j+1) last (by omega) (by omega)
  |true=>
   rw[cond_true]
   unfold lostF withinG
   rw[decide_eq_true h0,decide_eq_true (show j≤j+((c+1:Nat):Int)-1 by omega),decide_eq_true (show j>last from hl),e]
   exact lostJ_lost x c (j+1) j (by omega) (by omega)
theorem lostJ_len(x:Int): ∀(c:Nat) (j:Int),(lostJ x j c).length≤c
 |0,_=>Nat.le_refl _
 |c+1,j=>by
  unfold lostJ
  have:=lostJ_len x c (j+1)
  cases bitB x j with
  |true=>rw[cond_true,List.length_cons];omega
  |false=>rw[cond_false];omega
theorem kept_there(x:Int)(Q:List Int): ∀(c:Nat) (j:Int),(∀y,j≤y→y<j+c→memB y Q=bitB x y)→keptJ Q j c=thereJ x j c
 |0,_,_=>rfl
 |c+1,j,h=>by
  unfold keptJ thereJ
  rw[h j (by omega) (by omega),kept_there x Q c (j+1) (fun y h1 h2=>h y (by omega) (by omega))]
theorem kept_lost(x:Int)(c:Nat):keptJ (lostJ x 0 c) 0 c=thereJ x 0 c:=by
 refine kept_there x _ c 0 fun y h1 h2=> ?_
 cases hb:bitB x y with
 |true=>exact Pl.memB_iff.2 ((lostJ_mem x c 0 y).2 ⟨h1,h2,hb⟩)
 |false=>exact Pl.memB_no fun hm=>by have:=((lostJ_mem x c 0 y).1 hm).2.2;rw[hb] at this;cases this
theorem dataE_all{X:List (List Int)}{c:Int}(h:dataE X c=0):0<X.length∧X.length≤12∧X.all okRow=true∧1≤c∧c≤4:=dataE_ok (by rw[h];rfl)
theorem rows_get(X:List (List Int)): ∀(c:Nat) (j:Int) (k:Nat),k<c→(rowsF X j c).getD k []=colsF X (j+k) 0 8
 |0,_,_,h=>by omega
 |c+1,j,0,_=>by rw[show j+((0:Nat):Int)=j by omega];rfl
 |c+1,j,k+1,h=>by
  rw[show j+((k+1:Nat):Int)=(j+1)+(k:Int) by omega,← rows_get X c (j+1) k (by omega)]
  rfl
theorem cols_get(X:List (List Int))(j:Int): ∀(c a k:Nat),k<c→(colsF X j a c).getD k 0=parR [] j (a+k) 0 0 X
 |0,_,_,h=>by omega
 |c+1,a,0,_=>rfl
 |c+1,a,k+1,h=>by
  rw[show a+(k+1)=(a+1)+k by omega,← cols_get X j c (a+1) k (by omega)]
  rfl
theorem parFr_iff(O P:List (List Int))(j:Int): ∀(f s:Nat),parFr O P j f s=true ↔ ∀k,s≤k→k<s+f→parR [] j k 0 0 O=(P.getD j.toNat []).getD k 0
 |0,s=>by unfold parFr;constructor<;>intro _<;>first|(intro k h1 h2;omega)|rfl
 |f+1,s=>by
  unfold parFr parAt
  rw[Bool.and_eq_true,parFr_iff O P j f (s+1),beq_iff_eq]
  constructor
  ·rintro ⟨h1,h2⟩ k h3 h4
   by_cases e:k=s
   ·rw[e];exact h1
   ·exact h2 k (by omega) (by omega)
  ·intro h
   exact⟨h s (by omega) (by omega),fun k h1 h2=>h k (by omega) (by omega)⟩
theorem parOk_iff{O P:List (List Int)}{j:Int}:parOk O P j=true ↔ ∀k,k<8→parR [] j k 0 0 O=(P.getD j.toNat []).getD k 0:=by
 unfold parOk
 rw[parFr_iff]
 exact⟨fun h k hk=>h k (by omega) (by omega),fun h k _ hk=>h k (by omega)⟩
theorem keptB_all{L:List Int}: ∀{l:List (List Int)} {i:Int},(∀k:Nat,k<l.length→memB (i+k) L=false→okRow (l.getD k [])=true)→keptB L i l=true
 |[],_,_=>rfl
 |xs::l,i,h=>by
  unfold keptB
  rw[Bool.and_eq_true]
  refine⟨?_,keptB_all fun k hk hm=>h (k+1) (by simpa using hk) (by rw[show i+((k+1:Nat):Int)=i+1+(k:Int) by omega];exact hm)⟩
  cases hm:memB i L with
  |true=>rfl
  |false=>exact h 0 (by simp) (by rw[show i+((0:Nat):Int)=i by omega];exact hm)
theorem keptR_all{L:List Int}: ∀{l:List (List Int)} {i:Int},(∀k:Nat,k<l.length→memB (i+k) L=false→resRow (l.getD k [])=true)→keptR L i l=true
 |[],_,_=>rfl
 |xs::l,i,h=>by
  unfold keptR
  rw[Bool.and_eq_true]
  refine⟨?_,keptR_all fun k hk hm=>h (k+1) (by simpa using hk) (by rw[show i+((k+1:Nat):Int)=i+1+(k:Int) by omega];exact hm)⟩
  cases hm:memB i L with
  |true=>rfl
  |false=>exact h 0 (by simp) (by rw[show i+((0:Nat):Int)=i by omega];exact hm)
theorem gro_of{D P:List (List Int)}{L Q:List Int}(g:Gro D P L Q):groE D P L Q=0:=by
 have hd0:=g.d0
 have hd1:=g.d1
 have hp0:=g.p0
 have hp1:=g.p1
 unfold groE
 rw[decide_eq_true (show(D.length:Int)>0 by omega),decide_eq_true (show(P.length:Int)>0 by omega),decide_eq_true (show(D.length:Int)≤12 by omega),decide_eq_true (show(P.length:Int)≤4 by omega),g.lL,g.lQ,g.kb,g.kr]
 rfl
structure Grp(X D P:List (List Int))(L U S:List Int):Prop where
 g:okG D P L U
 gr:Gro D P L U
 x8:X.all len8=true
 xo:X.all okRow=true
 out:Pl.sameOut L D X
 kep:keptJ U 0 P.length=S
 par: ∀q ∈ S,∀k,k<8→(P.getD q.toNat []).getD k 0=parR [] q k 0 0 X
theorem Grp.sS{X D P:List (List Int)}{L U S:List Int}(h:Grp X D P L U S):lostF 4 (-1) S=0:=by
 have:=h.gr.p1
 rw[← h.kep]
 refine Pl.lost_wider (show(P.length:Int)≤4 by omega) ?_
 have:=keptJ_lost U P.length 0 (-1) (by decide) (by decide)
 rw[Int.zero_add] at this
 exact this
theorem Grp.s4{X D P:List (List Int)}{L U S:List Int}(h:Grp X D P L U S):S.length≤4:=by
 have:=keptJ_len U P.length 0
 have:=h.gr.p1
 rw[← h.kep];omega
theorem Grp.lost{X D P:List (List Int)}{L U S:List Int}(h:Grp X D P L U S)(hl:S.length<L.length):resE D P L U=28∧resV D P L U=[]:=by
 have e:resE D P L U=28:=by
  unfold resE
  rw[gro_of h.gr,h.kep,decide_eq_true hl];rfl
 exact⟨e,by unfold resV;rw[e];rfl⟩
theorem Grp.res{X D P:List (List Int)}{L U S:List Int}(h:Grp X D P L U S)(hl:L.length≤S.length):resF D P L S 8 0 D=X:=by
 by_cases h0:L.length=0
 ·have:L=[]:=List.length_eq_zero_iff.1 h0
  subst this
  rw[resF_nil]
  refine List.ext_getElem h.out.1 fun k h1 h2=> ?_
  have:=h.out.2 k rfl
  rw[List.getD_eq_getElem?_getD,List.getElem?_eq_getElem h1,List.getD_eq_getElem?_getD,List.getElem?_eq_getElem h2] at this
  exact this
 ·have hs:=h.s4
  exact Pl.restored_eq (by omega) h.gr.d1 h.gr.lL h.sS hl h.out h.g.2.2.2.2.1 h.x8 h.xo fun q hq k hk=>h.par q hq k hk
theorem Grp.fine{X D P:List (List Int)}{L U S:List Int}(h:Grp X D P L U S)(hl:L.length≤S.length):resE D P L U=0∧resV D P L U=X:=by
 have hr:=h.res hl
 have e:resE D P L U=0:=by
  unfold resE
  rw[gro_of h.gr,h.kep,hr,decide_eq_false (by omega)]
  have b1:L.all (rowOk X)=true:=by
   rw[List.all_eq_true]
   intro i hi
   have:=Pl.lost_mem h.gr.lL i hi
   have hlen:=h.out.1
   unfold rowOk
   refine List.all_eq_true.1 h.xo _ ?_
   rw[List.getD_eq_getElem?_getD,List.getElem?_eq_getElem (by omega)]
   exact List.getElem_mem _
  have b2:S.all (parOk X P)=true:=by
   rw[List.all_eq_true]
   intro q hq
   exact parOk_iff.2 fun k hk=>(h.par q hq k hk).symm
  rw[b1,b2];rfl
 refine⟨e,?_⟩
 unfold resV
 rw[e,h.kep,hr];rfl
theorem grp_of {X D : List (List Int)} {c : Int} (lost par : Int) (he : dataE X c = 0) (x8 : X.all len8 = true) (dl : D.length = X.length) (d8 : D.all len8 = true) (dget : ∀ k : Nat, memB (k : Int) (lostJ lost 0 X.length) = false → D.getD k [] = X.getD k []) : Grp X D (parM X c) (lostJ lost 0 X.length) (lostJ par 0 c.toNat) (thereJ par 0 c.toNat) := by
  obtain ⟨d0, d1, xo, c0, c1⟩ := dataE_all he
  have hpl : (parM X c).length = c.toNat := rowsF_length X c.toNat 0
  have hl1 := lostJ_len lost X.length 0
  have hl2 := lostJ_len par c.toNat 0
  have p8 : (parM X c).all len8 = true := rowsF_len8 X c.toNat 0
  have prow : ∀ k : Nat, k < c.toNat → ∀ a, a < 8 → ((parM X c).getD k []).getD a 0 = parR [] (k : Int) a 0 0 X := fun k hk a ha => by
    have e1 : (parM X c).getD k [] = colsF X (0 + (k : Int)) 0 8 := rows_get X c.toNat 0 k hk
    rw [e1, Int.zero_add, cols_get X (k : Int) 8 0 a ha, Nat.zero_add]
  have hkep : keptJ (lostJ par 0 c.toNat) 0 c.toNat = thereJ par 0 c.toNat := kept_lost par c.toNat
  exact {
    g := ⟨by omega, by omega, by omega, by omega, d8, p8⟩
    gr := { d0 := by omega, d1 := by omega, p0 := by omega, p1 := by omega,lL := by rw [dl]; have := lostJ_lost lost X.length 0 (-1) (by decide) (by decide); rw [Int.zero_add] at this; exact this,lQ := by rw [hpl]; have := lostJ_lost par c.toNat 0 (-1) (by decide) (by decide); rw [Int.zero_add] at this; exact this,kb := keptB_all fun k hk hm => by
              rw [Int.zero_add] at hm
              rw [dget k hm]
              refine List.all_eq_true.1 xo _ ?_
              rw [List.getD_eq_getElem?_getD, List.getElem?_eq_getElem (by omega)]
              exact List.getElem_mem _,kr := keptR_all fun k hk hm => by
              have e1 : (parM X c).getD k [] = colsF X (0 + (k : Int)) 0 8 := rows_get X c.toNat 0 k (by omega)
              have l8 : ((parM X c).getD k []).length = 8 := Pl.row_len (rowsF_len8 X c.toNat 0) (show k < (rowsF X 0 c.toNat).length by have : (rowsF X 0 c.toNat).length = c.toNat := rowsF_length X c.toNat 0; omega)
              unfold resRow
              rw [List.all_eq_true]
              intro z hz
              obtain ⟨a, ha, rfl⟩ := List.getElem_of_mem hz
              have := prow k (by omega) a (by omega)
              rw [Pl.getD_elem ha] at this
              rw [this]
              exact resG_iff.2 (Pl.parR_rng [] (k : Int) a X 0 0 (by omega)) }
    x8 := x8
    xo := xo
    out := ⟨dl, fun k hk => dget k hk⟩
    kep := by rw [hpl]; exact hkep
    par := fun q hq k hk => by
      rw [← hkep] at hq
      obtain ⟨q0, q1, q2⟩ := keptJ_mem _ c.toNat 0 q hq
      rw [prow q.toNat (by omega) k hk, show ((q.toNat : Nat) : Int) = q by omega] }
theorem there_len(x:Int): ∀(c:Nat) (j:Int),(thereJ x j c).length+(lostJ x j c).length=c
 |0,_=>rfl
 |c+1,j=>by
  have:=there_len x c (j+1)
  simp only[thereJ,lostJ]
  cases bitB x j with
  |true=>rw[cond_true,cond_true,List.length_cons];omega
  |false=>rw[cond_false,cond_false,List.length_cons];omega
theorem ls_lost(x:Int): ∀(l:List (List Int)) (i:Int),lsJ x i l=lostJ x i l.length
 |[],_=>rfl
 |b::r,i=>by
  simp only[lsJ,List.length_cons,lostJ]
  rw[ls_lost x r (i+1)]
def rowI(ch c:Int)(cs:List (List Int))(i:Nat):List Int:=blkRow (c+i) ch (cs.getD i [])
theorem blkRows_get(ch:Int): ∀(cs:List (List Int)) (c:Int) (i:Nat),i<cs.length→(blkRows ch c cs)[i]? = some (rowI ch c cs i)
 |[],_,i,h=>by simp at h
 |p::cs,c,0,_=>by simp[blkRows,rowI]
 |p::cs,c,i+1,h=>by
  have:=blkRows_get ch cs (c+1) i (by simpa using h)
  simp only[blkRows,List.getElem?_cons_succ,this,rowI,List.getD_cons_succ]
  rw[show c+1+(i:Int)=c+((i+1:Nat):Int) by omega]
theorem blkRows_mem{ch c:Int}{cs:List (List Int)}{a:List Int}(h:a ∈ blkRows ch c cs): ∃i,i<cs.length∧a=rowI ch c cs i:=by
 obtain⟨i,hi⟩:=List.getElem?_of_mem h
 have hl:=(List.getElem?_eq_some_iff.1 hi).1
 rw[(blkRows_len ch cs c).1] at hl
 rw[blkRows_get ch cs c i hl] at hi
 exact⟨i,hl,(Option.some.inj hi).symm⟩
theorem rowI_cnt(ch c:Int)(cs:List (List Int))(i:Nat):cnt (rowI ch c cs i)=c+i:=rfl
theorem rowI_ch(ch c:Int)(cs:List (List Int))(i:Nat):(rowI ch c cs i).getD 1 0=ch:=rfl
theorem rowI_sam(ch c:Int)(cs:List (List Int))(i:Nat):samX (rowI ch c cs i)=pad8 (cs.getD i []):=rfl
theorem rowI_sum(ch c:Int)(cs:List (List Int))(i:Nat):sumB (rowI ch c cs i)=true:=beq_self_eq_true _
theorem rowI_len(ch c:Int)(cs:List (List Int))(i:Nat):len11 (rowI ch c cs i)=true:=rfl
theorem news_mem{Q:List Int→Prop}(hQ: ∀a b,Q a→Q b→sameK a b=true→b=a)(hs: ∀a,Q a→sumB a=true): ∀(A N:List (List Int)),(∀a ∈ N,Q a)→(∀a ∈ A,Q a)→ ∀x,x ∈ newsF N A↔x ∈ N∨x ∈ A
 |[],N,_,_,x=>by simp[newsF]
 |a::A,N,hN,hA,x=>by
  have ha:=hA a (by simp)
  have e:nxG N a=N∧a ∈ N∨nxG N a=N++[a]:=by
   unfold nxG kdG
   rw[hs a ha]
   cases hf:N.find? (sameK a) with
   |none=>exact .inr rfl
   |some y=>
    have hy:=List.mem_of_find?_eq_some hf
    have:=hQ a y ha (hN y hy) (List.find?_some hf)
    subst this
    refine .inl ⟨?_,hy⟩
    simp
  rw[newsF]
  rcases e with⟨e,hm⟩|e
  ·rw[e,news_mem hQ hs A N hN (fun b hb=>hA b (by simp[hb]))]
   simp only[List.mem_cons]
   constructor
   ·rintro (h|h)
    ·exact .inl h
    ·exact .inr (.inr h)
   ·rintro (h|rfl|h)
    ·exact .inl h
    ·exact .inl hm
    ·exact .inr h
  ·rw[e,news_mem hQ hs A (N++[a]) (fun b hb=>by
    rcases List.mem_append.1 hb with hb|hb
    ·exact hN b hb
    ·simp at hb;rw[hb];exact ha) (fun b hb=>hA b (by simp[hb]))]
   simp only[List.mem_append,List.mem_cons,List.not_mem_nil,or_false]
   exact or_assoc
structure Cut(x:List Int)(ch c:Int)(cs:List (List Int))(n:Nat):Prop where
 ecs:cs=chunkC x n
 en:n=countN x
 len:cs.length=n
 lo:1≤n
 hi:n≤13
 xl:x.length≤8*n
 hch:0≤ch∧ch≤3
 hc:0≤c∧c+n≤65536
 sam: ∀p ∈ cs,p.all sampleG=true
theorem cut_of{x:List Int}{ch c:Int}(h:cutE x ch c=0)(h0:1≤x.length)(h1:x.length≤100):Cut x ch c (chunkC x (countN x)) (countN x):=by
 obtain⟨e1,e2,e3,e4,e5⟩:=cutE_ok h
 obtain⟨f1,f2⟩:=chunk_facts x.length x (by omega)
 exact⟨rfl,rfl,f1,by unfold countN;omega,by unfold countN;omega,by unfold countN;omega,e3,⟨e4,e5⟩,fun p hp=>(f2 e2 p hp).1⟩
section
variable {x:List Int} {ch c:Int} {cs:List (List Int)} {n:Nat}
theorem Cut.con(C:Cut x ch c cs n){i:Nat}(hi:i<n):conB (rowI ch c cs i)=true:=by
 have hp:(cs.getD i []).all sampleG=true:=by
  rw[List.getD_eq_getElem?_getD,List.getElem?_eq_getElem (by rw[C.len];exact hi)]
  exact C.sam _ (List.getElem_mem _)
 have:=cut_content (c:=c+i) C.hch (by have:=C.hc;omega) hp
 unfold conB
 rw[rowI_sam]
 exact this
theorem Cut.own(C:Cut x ch c cs n){A:List (List Int)}(hA: ∀a ∈ A,∃i,i<n∧a=rowI ch c cs i)(y:List Int):y ∈ ownB A ch↔y ∈ A:=by
 unfold ownB chB
 rw[List.mem_filter,news_mem (Q:=fun a=> ∃i,i<n∧a=rowI ch c cs i) (fun a b ⟨i,_,ha⟩ ⟨j,_,hb⟩ hk=>by
  subst ha;subst hb
  unfold sameK at hk
  simp only[Bool.and_eq_true,beq_iff_eq] at hk
  have:c+(j:Int)=c+(i:Int):=hk.2
  rw[show j=i by omega]) (fun a ⟨i,_,ha⟩=>by subst ha;exact rowI_sum ch c cs i) A [] (fun a ha=>by simp at ha) hA]
 constructor
 ·rintro ⟨h|h,_⟩
  ·simp at h
  ·exact h
 ·intro h
  obtain⟨i,_,rfl⟩:=hA y h
  exact⟨.inr h,by rw[rowI_ch];simp⟩
end
end Go.Ev
namespace Go.Ev
open Go Go.Proofs
set_option maxRecDepth 20000
def padR(P:List Int)(n:Nat):List Int:=P++List.replicate (8*n-P.length) 0
theorem range_flatMap(g:List Int→List Int): ∀l:List (List Int),(List.range l.length).flatMap (fun i=>g (l.getD i []))=l.flatMap g
 |[]=>rfl
 |x::l=>by
  rw[List.length_cons,List.range_succ_eq_map,List.flatMap_cons,List.flatMap_map,List.flatMap_cons]
  congr 1
  exact range_flatMap g l
theorem pad8_of{p:List Int}(h:p.length=8):pad8 p=p:=by
 match p,h with
 |[_,_,_,_,_,_,_,_],_=>rfl
theorem pad8_short{p:List Int}(h:p.length≤8):pad8 p=p++List.replicate (8-p.length) 0:=by
 match p,h with
 |[],_=>rfl
 |[_],_=>rfl
 |[_,_],_=>rfl
 |[_,_,_],_=>rfl
 |[_,_,_,_],_=>rfl
 |[_,_,_,_,_],_=>rfl
 |[_,_,_,_,_,_],_=>rfl
 |[_,_,_,_,_,_,_],_=>rfl
 |[_,_,_,_,_,_,_,_],_=>rfl
theorem chunk_pad: ∀(m:Nat) (x:List Int),x.length≤8*m→(chunkC x m).flatMap pad8=padR x m
 |0,x,h=>by
  have:x=[]:=List.length_eq_zero_iff.1 (by omega)
  subst this;rfl
 |m+1,x,h=>by
  rw[chunkC,List.flatMap_cons,chunk_pad m (x.drop 8) (by rw[List.length_drop];omega)]
  unfold padR
  by_cases hx:8≤x.length
  ·rw[pad8_of (by rw[List.length_take];omega),← List.append_assoc,List.take_append_drop,List.length_drop]
   congr 2
   omega
  ·rw[List.take_of_length_le (by omega),pad8_short (by omega),List.drop_eq_nil_of_le (by omega),List.append_assoc]
   congr 1
   simp only[List.nil_append,List.length_nil,Nat.sub_zero,List.replicate_append_replicate]
   congr 1
   omega
theorem flat_get: ∀(n:Nat) (g:Nat→List Int),(∀i,(g i).length=8)→ ∀i k,i<n→k<8→((List.range n).flatMap g).getD (8*i+k) 0=(g i).getD k 0
 |0,_,_,i,_,h,_=>by omega
 |n+1,g,hg,0,k,_,hk=>by
  rw[List.range_succ_eq_map,List.flatMap_cons,Nat.mul_zero,Nat.zero_add,List.getD_eq_getElem?_getD,List.getElem?_append_left (by rw[hg];exact hk),← List.getD_eq_getElem?_getD]
 |n+1,g,hg,i+1,k,hi,hk=>by
  have ih:=flat_get n (fun i=>g (i+1)) (fun i=>hg (i+1)) i k (by omega) hk
  rw[List.range_succ_eq_map,List.flatMap_cons,List.flatMap_map,List.getD_eq_getElem?_getD,List.getElem?_append_right (by rw[hg];omega),hg,show 8*(i+1)+k-8=8*i+k by omega,← List.getD_eq_getElem?_getD]
  exact ih
theorem Cut.pad{x:List Int}{ch c:Int}{cs:List (List Int)}{n:Nat}(C:Cut x ch c cs n):(List.range n).flatMap (fun i=>pad8 (cs.getD i []))=padR x n:=by
 have:=range_flatMap pad8 cs
 rw[C.len] at this
 rw[this,C.ecs,chunk_pad n x C.xl]
section
variable {x:List Int} {ch c:Int} {cs:List (List Int)} {n:Nat}
theorem rows_len:(blkRows ch c cs).length=cs.length:=(blkRows_len ch cs c).1
theorem rows_at{i:Nat}(h:i<cs.length):(blkRows ch c cs).getD i []=rowI ch c cs i:=by
 rw[List.getD,blkRows_get ch cs c i h];rfl
theorem Cut.okT(C:Cut x ch c cs n)(h12:n≤12):okTm (blkRows ch c cs) n:=by
 refine⟨by rw[rows_len,C.len],by rw[rows_len,C.len];exact C.lo,by rw[rows_len,C.len];exact h12,(blkRows_len ch cs c).2,List.all_eq_true.2 fun b hb=> ?_⟩
 obtain⟨i,hi,rfl⟩:=blkRows_mem hb
 rw[C.len] at hi
 have h1:=C.con hi
 have h2:=rowI_sum ch c cs i
 unfold conB at h1
 unfold sumB at h2
 unfold goodX blockE
 rw[h1,cond_true]
 have e:(rowI ch c cs i).getD 10 0=sumG ((rowI ch c cs i).getD 0 0) ((rowI ch c cs i).getD 1 0) (samX (rowI ch c cs i)):=eq_of_beq h2
 rw[e,bne_self_eq_false];rfl
theorem Cut.sam_at(C:Cut x ch c cs n){i:Nat}(hi:i<n):((blkRows ch c cs).map samX).getD i []=pad8 (cs.getD i []):=by
 have h:i<cs.length:=by rw[C.len];exact hi
 rw[List.getD,List.getElem?_map,blkRows_get ch cs c i h];rfl
theorem Cut.sam8(C:Cut x ch c cs n):((blkRows ch c cs).map samX).all len8=true:=by
 rw[List.all_eq_true]
 intro y hy
 obtain⟨b,_,rfl⟩:=List.mem_map.1 hy
 rfl
theorem Cut.dataE(C:Cut x ch c cs n)(h12:n≤12){cnt:Int}(h1:1≤cnt)(h4:cnt≤4):dataE ((blkRows ch c cs).map samX) cnt=0:=by
 have hl:((blkRows ch c cs).map samX).length=n:=by rw[List.length_map,rows_len,C.len]
 have hlo:=C.lo
 have hok:((blkRows ch c cs).map samX).all okRow=true:=by
  rw[List.all_eq_true]
  intro y hy
  obtain⟨b,hb,rfl⟩:=List.mem_map.1 hy
  obtain⟨i,hi,rfl⟩:=blkRows_mem hb
  rw[rowI_sam]
  refine pad_ok (C.sam _ ?_)
  rw[List.getD_eq_getElem?_getD,List.getElem?_eq_getElem hi]
  exact List.getElem_mem _
 unfold Ev.dataE withinG
 rw[hl,hok,decide_eq_true (show(n:Int)>0 by omega),decide_eq_true (show(n:Int)≤12 by omega),decide_eq_true h1,decide_eq_true h4]
 rfl
theorem Cut.at_x(C:Cut x ch c cs n){j:Nat}(hj:j<x.length):(((blkRows ch c cs).map samX).getD (j/8) []).getD (j%8) 0=x.getD j 0:=by
 have hxl:=C.xl
 rw[C.sam_at (show j/8<n by omega)]
 have h1:=flat_get n (fun i=>pad8 (cs.getD i [])) (fun i=>rfl) (j/8) (j%8) (by omega) (by omega)
 rw[← h1,C.pad,show 8*(j/8)+j%8=j by omega]
 unfold padR
 rw[List.getD_eq_getElem?_getD,List.getElem?_append_left hj,← List.getD_eq_getElem?_getD]
end
theorem kp_sub(x:Int): ∀(l:List (List Int)) (i:Int),(kpJ x i l).Sublist l
 |[],_=>List.Sublist.refl _
 |b::r,i=>by
  simp only[kpJ]
  cases bitB x i with
  |true=>exact(kp_sub x r (i+1)).cons b
  |false=>exact(kp_sub x r (i+1)).cons_cons b
theorem kp_mem(x:Int): ∀(l:List (List Int)) (i:Int) (y:List Int),y ∈ kpJ x i l ↔ ∃k:Nat,k<l.length∧bitB x (i+k)=false∧y=l.getD k []
 |[],i,y=>by simp[kpJ]
 |b::r,i,y=>by
  have ih:=kp_mem x r (i+1) y
  have hs: ∀k:Nat,i+1+(k:Int)=i+((k+1:Nat):Int):=fun k=>by omega
  have h0:i+((0:Nat):Int)=i:=by omega
  simp only[kpJ]
  cases hb:bitB x i with
  |true=>
   rw[cond_true,ih]
   constructor
   ·rintro ⟨k,hk,e,rfl⟩
    exact⟨k+1,by simpa using hk,by rw[← hs];exact e,rfl⟩
   ·rintro ⟨k,hk,e,rfl⟩
    cases k with
    |zero=>rw[h0,hb] at e;cases e
    |succ k=>exact⟨k,by simpa using hk,by rw[hs];exact e,rfl⟩
  |false=>
   rw[cond_false,List.mem_cons,ih]
   constructor
   ·rintro (rfl|⟨k,hk,e,rfl⟩)
    ·exact⟨0,by simp,by rw[h0];exact hb,rfl⟩
    ·exact⟨k+1,by simpa using hk,by rw[← hs];exact e,rfl⟩
   ·rintro ⟨k,hk,e,rfl⟩
    cases k with
    |zero=>exact .inl rfl
    |succ k=>exact .inr ⟨k,by simpa using hk,by rw[hs];exact e,rfl⟩
theorem dt_len(x:Int): ∀(l:List (List Int)) (i:Int) (D:List (List Int)),(dtJ x i l D).length=D.length
 |[],_,_=>rfl
 |b::r,i,D=>by
  simp only[dtJ]
  rw[dt_len x r (i+1)]
  cases bitB x i with
  |true=>rfl
  |false=>rw[cond_false,List.length_set]
theorem dt_len8(x:Int): ∀(l:List (List Int)) (i:Int) (D:List (List Int)),D.all len8=true→(dtJ x i l D).all len8=true
 |[],_,_,h=>h
 |b::r,i,D,h=>by
  simp only[dtJ]
  refine dt_len8 x r (i+1) _ ?_
  cases bitB x i with
  |true=>exact h
  |false=>
   rw[cond_false,List.all_eq_true]
   intro y hy
   rcases List.mem_or_eq_of_mem_set hy with hy|rfl
   ·exact List.all_eq_true.1 h y hy
   ·rfl
theorem dt_get(x:Int): ∀(l:List (List Int)) (i:Nat) (D:List (List Int)),i+l.length≤D.length→ ∀k:Nat,(dtJ x i l D).getD k []=if i≤k∧k<i+l.length∧bitB x k=false then samX (l.getD (k-i) []) else D.getD k []
 |[],i,D,_,k=>by
  rw[if_neg (by simp only[List.length_nil];omega)];rfl
 |b::r,i,D,h,k=>by
  rw[List.length_cons] at h
  simp only[dtJ]
  have hlen:(bif bitB x (i:Int) then D else D.set ((i:Int)).toNat (samX b)).length=D.length:=by
   cases bitB x (i:Int) with
   |true=>rfl
   |false=>rw[cond_false,List.length_set]
  have ih:=dt_get x r (i+1) (bif bitB x (i:Int) then D else D.set ((i:Int)).toNat (samX b)) (by rw[hlen];omega) k
  rw[show(i:Int)+1=((i+1:Nat):Int) by omega,ih,List.length_cons]
  have ei:((i:Int)).toNat=i:=by omega
  rw[ei]
  by_cases h1:i+1≤k∧k<i+1+r.length∧bitB x k=false
  ·rw[if_pos h1,if_pos ⟨by omega,by omega,h1.2.2⟩,show k-i=(k-(i+1))+1 by omega,List.getD_cons_succ]
  ·rw[if_neg h1]
   by_cases hk:k=i
   ·subst hk
    cases hb:bitB x (k:Int) with
    |true=>rw[cond_true,if_neg (fun e=>by cases e.2.2)]
    |false=>
     rw[cond_false,if_pos ⟨by omega,by omega,rfl⟩,Nat.sub_self,List.getD_cons_zero,List.getD_eq_getElem?_getD,List.getElem?_set_self (by omega)];rfl
   ·rw[if_neg (fun e=>h1 ⟨by omega,by omega,e.2.2⟩)]
    cases bitB x (i:Int) with
    |true=>rfl
    |false=>rw[cond_false,List.getD_eq_getElem?_getD,List.getElem?_set_ne (by omega),← List.getD_eq_getElem?_getD]
theorem rep_len8(n:Nat):(List.replicate n [(0:Int),0,0,0,0,0,0,0]).all len8=true:=by
 rw[List.all_eq_true]
 intro y hy
 rw[List.eq_of_mem_replicate hy];rfl
theorem Cut.grp{x:List Int}{ch c:Int}{cs:List (List Int)}{n:Nat}(C:Cut x ch c cs n)(h12:n≤12){cnt:Int}(h1:1≤cnt)(h4:cnt≤4)(lost par:Int):
  Grp ((blkRows ch c cs).map samX) (dtJ lost 0 (blkRows ch c cs) (List.replicate n [0,0,0,0,0,0,0,0])) (parM ((blkRows ch c cs).map samX) cnt) (lsJ lost 0 (blkRows ch c cs)) (lostJ par 0 cnt.toNat) (thereJ par 0 cnt.toNat):=by
 have hl:((blkRows ch c cs).map samX).length=n:=by rw[List.length_map,rows_len,C.len]
 have hl2:(blkRows ch c cs).length=n:=by rw[rows_len,C.len]
 rw[ls_lost,hl2,← hl]
 have hd:(dtJ lost 0 (blkRows ch c cs) (List.replicate ((blkRows ch c cs).map samX).length [0,0,0,0,0,0,0,0])).length=((blkRows ch c cs).map samX).length:=by rw[dt_len,List.length_replicate]
 refine grp_of lost par (C.dataE h12 h1 h4) C.sam8 hd (dt_len8 lost _ 0 _ (rep_len8 _)) fun k hk=> ?_
 have hg:=dt_get lost (blkRows ch c cs) 0 (List.replicate ((blkRows ch c cs).map samX).length [0,0,0,0,0,0,0,0]) (by rw[List.length_replicate,hl,hl2];omega) k
 rw[show((0:Nat):Int)=0 from rfl] at hg
 rw[hg]
 by_cases hkn:k<n
 ·have hb:bitB lost k=false:=by
   cases e:bitB lost (k:Int) with
   |false=>rfl
   |true=>
    rw[Pl.memB_iff.2 ((lostJ_mem lost ((blkRows ch c cs).map samX).length 0 (k:Int)).2 ⟨by omega,by rw[hl];omega,e⟩)] at hk
    cases hk
  rw[if_pos ⟨by omega,by rw[hl2];omega,hb⟩,Nat.sub_zero,List.getD_eq_getElem?_getD (l:=(blkRows ch c cs).map samX),List.getElem?_map,List.getD_eq_getElem?_getD]
  rw[List.getElem?_eq_getElem (by rw[hl2];exact hkn)];rfl
 ·rw[if_neg (by rw[hl2];omega),List.getD_eq_getElem?_getD,List.getElem?_eq_none (by rw[List.length_replicate,hl];omega),List.getD_eq_getElem?_getD,List.getElem?_eq_none (by rw[hl];omega)]
end Go.Ev
namespace Go.Ev
open Go Go.Proofs
set_option maxRecDepth 20000
theorem lostJ_add(x:Int)(q:Nat): ∀(p:Nat) (i:Int),lostJ x i (p+q)=lostJ x i p++lostJ x (i+p) q
 |0,i=>by
  rw[Nat.zero_add,show i+((0:Nat):Int)=i by omega];rfl
 |p+1,i=>by
  have ih:=lostJ_add x q p (i+1)
  rw[show i+1+(p:Int)=i+((p+1:Nat):Int) by omega] at ih
  rw[show p+1+q=(p+q)+1 by omega]
  simp only[lostJ]
  rw[ih]
  cases bitB x i<;>rfl
theorem misR(lk:Int→Option (List Int))(x c:Int): ∀(m:Nat) (i:Int),(∀j:Nat,j<m→(lk (c+(i+j))).isSome= !bitB x (i+j))→misG lk m (c+i)=(lostJ x i m).map fun y=>c+y
 |0,_,_=>rfl
 |m+1,i,h=>by
  have h0:=h 0 (by omega)
  rw[show i+((0:Nat):Int)=i by omega] at h0
  have ih:=misR lk x c m (i+1) fun j hj=>by
   have:=h (j+1) (by omega)
   rw[show i+1+(j:Int)=i+((j+1:Nat):Int) by omega]
   exact this
  rw[show c+(i+1)=c+i+1 by omega] at ih
  simp only[misG,lostJ]
  rw[h0,ih]
  cases bitB x i<;>rfl
theorem ms_filter(c:Int)(T:List (List Int)): ∀L:List Int,msJ c T L=(L.filter (betw c T)).map fun y=>c+y
 |[]=>rfl
 |x::r=>by
  simp only[msJ]
  rw[ms_filter c T r,List.filter_cons]
  cases betw c T x<;>rfl
section
variable {x:List Int} {ch c:Int} {cs:List (List Int)} {n:Nat}
theorem Cut.mis(C:Cut x ch c cs n)(h12:n≤12)(lost:Int){T:List (List Int)}(hT:T=kpJ lost 0 (blkRows ch c cs))(h1:1≤T.length):okBs T∧rcE T ch=0∧msM T ch=msJ c T (lsJ lost 0 (blkRows ch c cs)):=by
 have hl:(blkRows ch c cs).length=n:=by rw[rows_len,C.len]
 have hsub:T.Sublist (blkRows ch c cs):=by rw[hT];exact kp_sub lost _ 0
 have hA: ∀a ∈ T,∃i:Nat,i<n∧a=rowI ch c cs i∧bitB lost i=false:=fun a ha=>by
  rw[hT,kp_mem] at ha
  obtain⟨k,hk,hb,rfl⟩:=ha
  rw[hl] at hk
  exact⟨k,hk,rows_at (by rw[C.len];exact hk),by rw[Int.zero_add] at hb;exact hb⟩
 have hA': ∀a ∈ T,∃i,i<n∧a=rowI ch c cs i:=fun a ha=>by
  obtain⟨i,hi,e,_⟩:=hA a ha
  exact⟨i,hi,e⟩
 have hin: ∀i:Nat,i<n→bitB lost i=false→rowI ch c cs i ∈ T:=fun i hi hb=>by
  rw[hT,kp_mem]
  exact⟨i,by rw[hl];exact hi,by rw[Int.zero_add];exact hb,(rows_at (by rw[C.len];exact hi)).symm⟩
 have hlen:T.length≤12:=by have:=hsub.length_le;omega
 have hpw:T.Pairwise fun a b=>cnt a<cnt b:=by
  refine List.Pairwise.sublist hsub ?_
  rw[List.pairwise_iff_getElem]
  intro i j hi hj hij
  have e1:(blkRows ch c cs)[i]=rowI ch c cs i:=by
   have:=blkRows_get ch cs c i (by rw[rows_len] at hi;exact hi)
   rw[List.getElem?_eq_getElem hi] at this
   exact Option.some.inj this
  have e2:(blkRows ch c cs)[j]=rowI ch c cs j:=by
   have:=blkRows_get ch cs c j (by rw[rows_len] at hj;exact hj)
   rw[List.getElem?_eq_getElem hj] at this
   exact Option.some.inj this
  rw[e1,e2,rowI_cnt,rowI_cnt];omega
 have hord: ∀i j:Nat,i≤j→j<T.length→cnt (T.getD i [])≤cnt (T.getD j []):=fun i j hij hj=>by
  by_cases e:i=j
  ·rw[e];exact Int.le_refl _
  ·have:=(List.pairwise_iff_getElem.1 hpw) i j (by omega) hj (by omega)
   rw[getD_of_lt (show i<T.length by omega),getD_of_lt hj]
   omega
 have hget: ∀y ∈ T,∃k:Nat,k<T.length∧y=T.getD k []:=fun y hy=>by
  obtain⟨k,hk,e⟩:=List.getElem_of_mem hy
  exact⟨k,hk,by rw[getD_of_lt hk];exact e.symm⟩
 have m0:T.getD 0 [] ∈ T:=by rw[getD_of_lt (show 0<T.length by omega)];exact List.getElem_mem _
 have m1:T.getD (T.length-1) [] ∈ T:=by rw[getD_of_lt (show T.length-1<T.length by omega)];exact List.getElem_mem _
 obtain⟨a,ha,ea,ba⟩:=hA _ m0
 obtain⟨b,hb,eb,bb⟩:=hA _ m1
 have ca:cnt (T.getD 0 [])=c+a:=by rw[ea,rowI_cnt]
 have cb:cnt (T.getD (T.length-1) [])=c+b:=by rw[eb,rowI_cnt]
 have hlo: ∀y ∈ T,c+a≤cnt y:=fun y hy=>by
  obtain⟨k,hk,e⟩:=hget y hy
  rw[e,← ca];exact hord 0 k (by omega) hk
 have hhi: ∀y ∈ T,cnt y≤c+b:=fun y hy=>by
  obtain⟨k,hk,e⟩:=hget y hy
  rw[e,← cb];exact hord k (T.length-1) (by omega) (by omega)
 have hab:a≤b:=by
  have:=hlo _ m1
  rw[cb] at this;omega
 have hown:=C.own hA'
 have hne:ownB T ch≠[]:=by intro e;have:=(hown _).2 m0;rw[e] at this;simp at this
 have hmin:cmin (ownB T ch)=c+a:=by
  have h:=cmin_le ((hown _).2 m0)
  rw[ca] at h
  obtain⟨y,hy,ey⟩:=cmin_mem hne
  have:=hlo y ((hown y).1 hy)
  omega
 have hmax:cmax (ownB T ch)=c+b:=by
  have h:=le_cmax ((hown _).2 m1)
  rw[cb] at h
  obtain⟨y,hy,ey⟩:=cmax_mem hne
  have:=hhi y ((hown y).1 hy)
  omega
 have hok:okBs T:=⟨by omega,List.all_eq_true.2 fun y hy=>by obtain⟨i,_,rfl⟩:=hA' y hy;exact rowI_len ch c cs i⟩
 have hcon:T.all conB=true:=List.all_eq_true.2 fun y hy=>by obtain⟨i,hi,rfl⟩:=hA' y hy;exact C.con hi
 have hrc:rcE T ch=0:=by
  unfold rcE
  have hb0:bsE T=0:=by unfold bsE;rw[decide_eq_true (show(T.length:Int)≤40 by omega),hcon];rfl
  have hw:withinG ch 0 3=true:=by
   have:=C.hch
   unfold withinG
   simp only[this,decide_true,Bool.and_self]
  rw[hb0,hw]
  show spanE (ownB T ch)=0
  unfold spanE
  have he:(ownB T ch).isEmpty=false:=by
   cases ho:ownB T ch with
   |nil=>exact absurd ho hne
   |cons _ _=>rfl
  rw[he,hmin,hmax,decide_eq_true (by omega)];rfl
 refine⟨hok,hrc,?_⟩
 have hlk: ∀j:Nat,j<b-a+1→(lkO (ownB T ch) (c+((a:Int)+j))).isSome= !bitB lost ((a:Int)+j):=fun j hj=>by
  have ej:((a:Int)+(j:Int))=((a+j:Nat):Int):=by omega
  rw[ej]
  unfold lkO
  rw[Option.isSome_map]
  cases hbt:bitB lost ((a+j:Nat):Int) with
  |false=>
   have hm:=(hown _).2 (hin (a+j) (by omega) hbt)
   rw[Bool.not_false,List.find?_isSome]
   exact⟨_,hm,by rw[rowI_cnt];exact beq_self_eq_true _⟩
  |true=>
   rw[Bool.not_true]
   cases ho:(ownB T ch).find? (fun y=>cnt y==c+((a+j:Nat):Int)) with
   |none=>rfl
   |some y=>
    exfalso
    have hy:=(hown y).1 (List.mem_of_find?_eq_some ho)
    have hc2:=List.find?_some (p:=fun y=>cnt y==c+((a+j:Nat):Int)) ho
    obtain⟨i,hi,rfl,hbi⟩:=hA y hy
    rw[rowI_cnt] at hc2
    have:=beq_iff_eq.1 hc2
    have e:i=a+j:=by omega
    rw[e,hbt] at hbi
    cases hbi
 unfold msM misO
 rw[hrc,hmin,hmax,ls_lost,hl,show(c+(b:Int)-(c+a)+1).toNat=b-a+1 by omega]
 show misG (lkO (ownB T ch)) (b-a+1) (c+a)=_
 rw[misR _ lost c (b-a+1) a hlk,ms_filter]
 congr 1
 have hbt: ∀y:Int,betw c T y=(decide (c+y>c+a)&&decide (c+y<c+b)):=fun y=>by
  unfold betw
  rw[decide_eq_true (show(T.length:Int)>0 by omega),Bool.true_and,show(T.getD 0 []).getD 0 0=c+a from ca,show(T.getD (T.length-1) []).getD 0 0=c+b from cb]
 have e1:n=a+((b-a+1)+(n-b-1)):=by omega
 have e2:lostJ lost 0 n=lostJ lost 0 a++(lostJ lost (0+(a:Int)) (b-a+1)++lostJ lost (0+(a:Int)+((b-a+1:Nat):Int)) (n-b-1)):=by
  rw[← lostJ_add lost (n-b-1) (b-a+1),← lostJ_add lost (b-a+1+(n-b-1)) a,← e1]
 rw[e2,List.filter_append,List.filter_append]
 have f1:(lostJ lost 0 a).filter (betw c T)=[]:=by
  rw[List.filter_eq_nil_iff]
  intro y hy
  have:=(lostJ_mem lost a 0 y).1 hy
  rw[hbt,decide_eq_false (show¬c+y>c+a by omega)];simp
 have f3:(lostJ lost (0+(a:Int)+((b-a+1:Nat):Int)) (n-b-1)).filter (betw c T)=[]:=by
  rw[List.filter_eq_nil_iff]
  intro y hy
  have:=(lostJ_mem lost (n-b-1) _ y).1 hy
  rw[hbt,decide_eq_false (show¬c+y<c+b by omega)];simp
 have f2:(lostJ lost (0+(a:Int)) (b-a+1)).filter (betw c T)=lostJ lost (0+(a:Int)) (b-a+1):=by
  rw[List.filter_eq_self]
  intro y hy
  obtain⟨y0,y1,yb⟩:=(lostJ_mem lost (b-a+1) _ y).1 hy
  have na:y≠a:=fun e=>by rw[e,ba] at yb;cases yb
  have nb:y≠b:=fun e=>by rw[e,bb] at yb;cases yb
  rw[hbt,decide_eq_true (show c+y>c+a by omega),decide_eq_true (show c+y<c+b by omega)];rfl
 rw[f1,f2,f3,List.nil_append,List.append_nil,Int.zero_add]
end
end Go.Ev
