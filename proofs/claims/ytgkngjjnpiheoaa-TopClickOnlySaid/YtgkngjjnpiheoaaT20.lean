/-
  Part of the proof that TopClickOnly holds.
-/
import Derived.Test.YtgkngjjnpiheoaaT18
import Derived.Test.YtgkngjjnpiheoaaT19
set_option linter.unusedVariables false
set_option linter.unusedSimpArgs false
set_option linter.unusedSectionVars false
namespace Go.Ev
open Go Go.Proofs
attribute [local irreducible] evFn evBody evRound
set_option maxRecDepth 20000
theorem all_at{p:Int→Bool}{l:List Int}{i:Nat}(h:l.all p=true)(hi:i<l.length):p (l.getD i 0)=true:=by
 rw[getD_of_lt hi]
 exact List.all_eq_true.1 h _ (List.getElem_mem hi)
theorem sampleG_iff{n:Int}:sampleG n=true ↔ -32767≤n∧n≤32767:=by unfold sampleG withinG;simp
theorem greatG_iff{n:Int}:greatG n=true ↔ -65534≤n∧n≤65534:=by unfold greatG withinG;simp
theorem room8{L:List Int}{v:Int}(h:L.length≤1000):decide ((L++[v]).length*8≤140737488355328∧(L++[v]).length≤140737488355328)=true:=decide_eq_true (by rw[List.length_append];simp only[List.length_cons,List.length_nil];omega)
theorem snoc_app{α:Type}(l m:List α)(a:α):l++a::m=(l++[a])++m:=by simp
theorem len_snoc{α:Type}(l:List α)(a:α):(l++[a]).length=l.length+1:=by simp
theorem okcpi:SpecOK Try.prog 10 copyIntsS:=by
 refine specOK (n:=6) (m:=0) (lps:=[]) .nil Try.func10 (by kernel_rfl) (by kernel_rfl) (noLoops (by kernel_rfl)) fun args σ K h=> ?_
 unfold copyIntsS at h
 split at h
 rotate_right
 ·exact h.elim
 ·rename_i l
  rw[excpi l K]
  rw[decide_eq_true (by omega),cond_true]
  exact h.2
theorem okcln:SpecOK Try.prog 36 cloneS:=by
 refine specOK (n:=8) (m:=0) (lps:=[]) .nil Try.func36 (by kernel_rfl) (by kernel_rfl) (noLoops (by kernel_rfl)) fun args σ K h=> ?_
 unfold cloneS at h
 split at h
 rotate_right
 ·exact h.elim
 ·rename_i l
  rw[excln l K]
  rw[decide_eq_false (show¬l.length=0 by omega),cond_false,decide_eq_true (by omega),cond_true]
  exact h.2
theorem okcph:SpecOK Try.prog 9 copyHumS:=by
 refine specOK (n:=11) (m:=0) (lps:=[]) (.cons okcpi .nil) Try.func9 (by kernel_rfl) (by kernel_rfl) (noLoops (by kernel_rfl)) fun args σ K h=> ?_
 unfold copyHumS at h
 split at h
 rotate_right
 ·exact h.elim
 ·rename_i p hh t
  rw[excph p hh t K]
  exact h
theorem cmb_at{p hh tm n i:Int}{t x:List Int}(h:cmbI p hh t tm n x i)(hi:i<n):IntKind.i64.wrap (i+hh)=i+hh∧0≤(i+hh).tmod p∧(i+hh).tmod p<(t.length:Int)∧
  IntKind.i64.wrap (x.getD i.toNat 0+IntKind.i64.wrap (tm*t.getD ((i+hh).tmod p).toNat 0))=x.getD i.toNat 0+tm*humV p hh t i∧
  cmbF p hh t tm i (x.drop i.toNat)=(x.getD i.toNat 0+tm*humV p hh t i)::cmbF p hh t tm (i+1) (x.drop (i+1).toNat)∧cmbI p hh t tm n x (i+1):=by
 have h':=h
 obtain⟨h1,h2,h3,h4,h5,h6,h7,h8,h9,h10,h11,h12⟩:=h'
 have e1:(i+hh).tmod p=(i+hh)%p:=Int.tmod_eq_emod_of_nonneg (by omega)
 have e2:=Int.emod_nonneg (i+hh) (show p≠0 by omega)
 have e3:=Int.emod_lt_of_pos (i+hh) (show 0<p by omega)
 have e4:=sampleG_iff.1 (all_at h4 (show i.toNat<x.length by omega))
 have e5:=greatG_iff.1 (all_at h10 (show((i+hh).tmod p).toNat<t.length by omega))
 refine⟨wrap_id (by omega) (by omega),by omega,by omega,?_,?_,⟨h1,h2,h3,h4,h5,h6,h7,h8,h9,h10,by omega,by omega⟩⟩
 ·show _=x.getD i.toNat 0+tm*t.getD ((i+hh).tmod p).toNat 0
  rcases h1 with rfl|rfl
  ·rw[Int.one_mul,wrap_id (n:=t.getD _ 0) (by omega) (by omega),wrap_id (by omega) (by omega)]
  ·rw[show(-1:Int)*t.getD ((i+hh).tmod p).toNat 0= - t.getD ((i+hh).tmod p).toNat 0 by omega,wrap_id (n:= - t.getD _ 0) (by omega) (by omega),wrap_id (by omega) (by omega)]
 ·rw[drop_step 0 (show i.toNat<x.length by omega),show(i+1).toNat=i.toNat+1 by omega]
  rfl
theorem lokcmb_0:LoopOK Ecmb (lb Try.f20 0) [2,3,9,21,22,23] [6,7,9] cmbL:=by
 refine loopOK (.cons okchh (.cons okerr (.cons okfst (.cons oksiz .nil)))) (noInner (by kernel_rfl)) (fun vs σ=>match vs,σ with
  |[.one (.int .i64 _),.one (.ptr 0 1 0 0),.one .nil,.one (.data (.ints .i64 _)),.one (.int .i64 n),.one (.int .i64 i)],[.cells [.int .i64 _,.int .i64 _,.data (.ints .i64 _)]]=>(n-i).toNat
  |[.one (.int .i64 _),.one (.ptr 0 1 0 0),.one (.own 1 1),.one (.data (.ints .i64 _)),.one (.int .i64 n),.one (.int .i64 i)],[.cells [.int .i64 _,.int .i64 _,.data (.ints .i64 _)],.row 3 (.ints .i64 _)]=>(n-i).toNat
  |_,_=>0) fun vs σ k h=> ?_
 unfold cmbL at h
 split at h
 rotate_right
 ·exact h.elim
 ·rename_i tm x n i p hh t
  rw[excmbl0a tm x n i p hh t _]
  obtain⟨⟨hI,hi0⟩,hk⟩:=h
  have hI':=hI
  obtain⟨h1,h2,h3,h4,h5,h6,h7,h8,h9,h10,h11,h12⟩:=hI'
  by_cases hi:i<n
  ·obtain⟨a1,a2,a3,a4,a5,a6⟩:=cmb_at hI hi
   rw[a5] at hk
   rw[a1,decide_eq_true hi,decide_eq_true h11,decide_eq_true (show i<(x.length:Int) by omega),decide_eq_true (show i.toNat+0<x.length by omega),decide_eq_false (show¬p=0 by omega),decide_eq_true a2,decide_eq_true a3,decide_eq_true (show((i+hh).tmod p).toNat+0<t.length by omega),Nat.add_zero,Nat.add_zero,a4,wrap_id (n:=i+1) (by omega) (by omega)]
   simp only[Bool.and_self,Bool.not_false,cond_true]
   refine⟨⟨by decide,by decide⟩,?_⟩
   change bif !sampleG (x.getD i.toNat 0+tm*humV p hh t i) then _ else _
   cases hp:sampleG (x.getD i.toNat 0+tm*humV p hh t i) with
   |false=>
    rw[List.all_cons,hp,Bool.false_and,cond_false] at hk
    exact hk _ _
   |true=>
    rw[List.all_cons,hp,Bool.true_and,show x.isEmpty=false by cases x with|nil=>simp at h2;omega|cons a l=>rfl] at hk
    refine⟨⟨⟨a6,by rw[List.length_singleton];omega,by omega⟩,?_⟩,by show(n-(i+1)).toNat<(n-i).toNat;omega⟩
    cases hq:(cmbF p hh t tm (i+1) (x.drop (i+1).toNat)).all sampleG<;>rw[hq] at hk<;>exact hk
  ·rw[decide_eq_false hi]
   rw[List.drop_eq_nil_of_le (by omega),show cmbF p hh t tm i []=[] from rfl,show x.isEmpty=true by cases x with|nil=>rfl|cons a l=>simp at h2;omega] at hk
   exact hk
 ·rename_i tm x n i p hh t out
  rw[excmbl0b tm x n i p hh t out _]
  obtain⟨⟨hI,ho,hi1⟩,hk⟩:=h
  have hI':=hI
  obtain⟨h1,h2,h3,h4,h5,h6,h7,h8,h9,h10,h11,h12⟩:=hI'
  by_cases hi:i<n
  ·obtain⟨a1,a2,a3,a4,a5,a6⟩:=cmb_at hI hi
   rw[a5,snoc_app] at hk
   rw[a1,decide_eq_true hi,decide_eq_true h11,decide_eq_true (show i<(x.length:Int) by omega),decide_eq_true (show i.toNat+0<x.length by omega),decide_eq_false (show¬p=0 by omega),decide_eq_true a2,decide_eq_true a3,decide_eq_true (show((i+hh).tmod p).toNat+0<t.length by omega),Nat.add_zero,Nat.add_zero,a4,wrap_id (n:=i+1) (by omega) (by omega),room8 (by omega)]
   simp only[Bool.and_self,Bool.not_false,cond_true]
   refine⟨⟨by decide,by decide⟩,?_⟩
   change bif !sampleG (x.getD i.toNat 0+tm*humV p hh t i) then _ else _
   cases hp:sampleG (x.getD i.toNat 0+tm*humV p hh t i) with
   |false=>
    rw[List.all_cons,hp,Bool.false_and,cond_false] at hk
    exact hk _ _
   |true=>
    rw[List.all_cons,hp,Bool.true_and] at hk
    exact⟨⟨⟨a6,by rw[len_snoc];omega,by omega⟩,hk⟩,by show(n-(i+1)).toNat<(n-i).toNat;omega⟩
  ·rw[decide_eq_false hi]
   rw[List.drop_eq_nil_of_le (by omega),show cmbF p hh t tm i []=[] from rfl,List.append_nil] at hk
   exact hk
theorem humE_zero{p hh:Int}{t:List Int}(h:humE p hh t=0):1≤p∧p≤64∧0≤hh∧hh<p∧(t.length:Int)=p∧t.all greatG=true:=by
 unfold humE at h
 cases h1:withinG p 1 64 with
 |false=>rw[h1] at h;simp at h
 |true=>
  cases h2:withinG hh 0 (p-1) with
  |false=>rw[h1,h2] at h;simp at h
  |true=>
   cases h3:(t.length:Int)==p with
   |false=>rw[h1,h2,h3] at h;simp at h
   |true=>
    cases h4:t.all greatG with
    |false=>rw[h1,h2,h3,h4] at h;simp at h
    |true=>
     simp only[withinG,Bool.and_eq_true,decide_eq_true_eq] at h1 h2
     exact⟨h1.1,h1.2,h2.1,by omega,eq_of_beq h3,rfl⟩
theorem errE_zero{l:List Int}(h:errE l=0):l.length≤200∧l.all sampleG=true:=by
 unfold errE at h
 by_cases h1:(l.length:Int)≤200
 ·cases h2:l.all sampleG with
  |false=>rw[decide_eq_true h1,h2] at h;simp at h
  |true=>exact⟨by omega,rfl⟩
 ·rw[decide_eq_false h1] at h;simp at h
theorem firstE_zero{e:Int}{l:List Int}(h:firstE (e::l)=0):e=0∧firstE l=0:=by
 unfold firstE at h
 cases h1:e==0 with
 |false=>rw[h1] at h;exact absurd h (by simpa using h1)
 |true=>rw[h1] at h;exact⟨eq_of_beq h1,h⟩
theorem okcmb:SpecOK Try.prog 20 cmbS:=by
 refine specOK (n:=52) (m:=0) (lps:=[(6,.spec [2,3,9,21,22,23] [6,7,9] cmbL)]) (.cons okchh (.cons okerr (.cons okfst (.cons oksiz .nil)))) Try.func20 (by kernel_rfl) (by kernel_rfl) (theLoops (n:=1) (by kernel_rfl) fun i hi=> ?_) fun args σ K h=> ?_
 ·match i,hi with
  |0,_=>exact loopHyp_of (key:=6) (by kernel_rfl) rfl lokcmb_0
 unfold cmbS at h
 split at h
 rotate_right
 ·exact h.elim
 ·rename_i p hh t x tm
  rw[excmb p hh t x tm K]
  obtain⟨⟨h1,h2,h3⟩,hk⟩:=h
  refine⟨h1,h2,by simp,?_⟩
  unfold cmbE at hk
  cases he:firstE [humE p hh t,errE x]==0 with
  |false=>
   rw[show(firstE [humE p hh t,errE x]!=0)=true from congrArg not he]
   rw[he,cond_false,he] at hk
   exact hk
  |true=>
   rw[show(firstE [humE p hh t,errE x]!=0)=false from congrArg not he]
   rw[he,cond_true] at hk
   obtain⟨f1,f2⟩:=firstE_zero (eq_of_beq he)
   obtain⟨f3,_⟩:=firstE_zero f2
   obtain⟨g1,g2,g3,g4,g5,g6⟩:=humE_zero f1
   obtain⟨g7,g8⟩:=errE_zero f3
   refine⟨⟨⟨h3,rfl,g7,g8,g1,g2,g3,g4,g5,g6,by decide,by omega⟩,rfl⟩,?_⟩
   cases hq:(cmbF p hh t tm 0 x).all sampleG with
   |false=>rw[hq] at hk;exact fun _ _=>hk
   |true=>rw[hq] at hk;exact hk
theorem okadd:SpecOK Try.prog 8 addedS:=by
 refine specOK (n:=11) (m:=0) (lps:=[]) (.cons okcmb .nil) Try.func8 (by kernel_rfl) (by kernel_rfl) (noLoops (by kernel_rfl)) fun args σ K h=> ?_
 unfold addedS at h
 split at h
 rotate_right
 ·exact h.elim
 ·rename_i p hh t x
  rw[exadd p hh t x K]
  exact⟨⟨h.1.1,h.1.2,.inl rfl⟩,h.2⟩
theorem okrem:SpecOK Try.prog 12 removedS:=by
 refine specOK (n:=11) (m:=0) (lps:=[]) (.cons okcmb .nil) Try.func12 (by kernel_rfl) (by kernel_rfl) (noLoops (by kernel_rfl)) fun args σ K h=> ?_
 unfold removedS at h
 split at h
 rotate_right
 ·exact h.elim
 ·rename_i p hh t x
  rw[exrem p hh t x K]
  exact⟨⟨h.1.1,h.1.2,.inr rfl⟩,h.2⟩
theorem difA_step{x y:List Int}{i:Int}(h0:0≤i)(h:i<x.length)(h':i<y.length):difA i (x.drop i.toNat) (y.drop i.toNat)=bif x.getD i.toNat 0 != y.getD i.toNat 0 then i::difA (i+1) (x.drop (i+1).toNat) (y.drop (i+1).toNat) else difA (i+1) (x.drop (i+1).toNat) (y.drop (i+1).toNat):=by
 rw[drop_step 0 (show i.toNat<x.length by omega),drop_step 0 (show i.toNat<y.length by omega),show(i+1).toNat=i.toNat+1 by omega]
 rfl
theorem loktou_0:LoopOK Etou (lb Try.f16 0) [0,1,7,25,26] [7] touL:=by
 refine loopOK (.cons okerr (.cons okunl (.cons okfst .nil))) (noInner (by kernel_rfl)) (fun vs σ=>match vs,σ with
  |[.one (.data (.ints .i64 _)),.one (.data (.ints .i64 _)),.one .nil,.one (.int .i64 n),.one (.int .i64 i)],[]=>(n-i).toNat
  |[.one (.data (.ints .i64 _)),.one (.data (.ints .i64 _)),.one (.own 0 1),.one (.int .i64 n),.one (.int .i64 i)],[.row 3 (.ints .i64 _)]=>(n-i).toNat
  |_,_=>0) fun vs σ k h=> ?_
 unfold touL at h
 split at h
 rotate_right
 ·exact h.elim
 ·rename_i x y n i
  rw[extoul0a x y n i _]
  obtain⟨⟨h1,h2,h3,h4,h5⟩,hk⟩:=h
  by_cases hi:i<n
  ·rw[difA_step h4 (by omega) (by omega)] at hk
   rw[decide_eq_true hi,decide_eq_true h4,decide_eq_true (show i<(x.length:Int) by omega),decide_eq_true (show i.toNat+0<x.length by omega),decide_eq_true (show i<(y.length:Int) by omega),decide_eq_true (show i.toNat+0<y.length by omega),Nat.add_zero,wrap_id (n:=i+1) (by omega) (by omega)]
   simp only[Bool.and_self,cond_true]
   cases hp:x.getD i.toNat 0 != y.getD i.toNat 0 with
   |false=>rw[hp] at hk;exact⟨⟨⟨h1,h2,h3,by omega,by omega⟩,hk⟩,by show(n-(i+1)).toNat<(n-i).toNat;omega⟩
   |true=>rw[hp] at hk;exact⟨⟨⟨h1,h2,h3,by omega,by omega,by rw[List.length_singleton];omega⟩,hk⟩,by show(n-(i+1)).toNat<(n-i).toNat;omega⟩
  ·rw[decide_eq_false hi]
   rw[List.drop_eq_nil_of_le (by omega)] at hk
   exact hk
 ·rename_i x y n i out
  rw[extoul0b x y n i out _]
  obtain⟨⟨h1,h2,h3,h4,h5,h6⟩,hk⟩:=h
  by_cases hi:i<n
  ·rw[difA_step h4 (by omega) (by omega)] at hk
   rw[decide_eq_true hi,decide_eq_true h4,decide_eq_true (show i<(x.length:Int) by omega),decide_eq_true (show i.toNat+0<x.length by omega),decide_eq_true (show i<(y.length:Int) by omega),decide_eq_true (show i.toNat+0<y.length by omega),Nat.add_zero,wrap_id (n:=i+1) (by omega) (by omega),room8 (by omega)]
   simp only[Bool.and_self,cond_true]
   cases hp:x.getD i.toNat 0 != y.getD i.toNat 0 with
   |false=>rw[hp] at hk;exact⟨⟨⟨h1,h2,h3,by omega,by omega,by omega⟩,hk⟩,by show(n-(i+1)).toNat<(n-i).toNat;omega⟩
   |true=>rw[hp,cond_true,snoc_app] at hk;exact⟨⟨⟨h1,h2,h3,by omega,by omega,by rw[len_snoc];omega⟩,hk⟩,by show(n-(i+1)).toNat<(n-i).toNat;omega⟩
  ·rw[decide_eq_false hi]
   rw[List.drop_eq_nil_of_le (by omega),show difA i [] (y.drop i.toNat)=[] from rfl,List.append_nil] at hk
   exact hk
theorem oktou:SpecOK Try.prog 16 touS:=by
 refine specOK (n:=44) (m:=0) (lps:=[(6,.spec [0,1,7,25,26] [7] touL)]) (.cons okerr (.cons okunl (.cons okfst .nil))) Try.func16 (by kernel_rfl) (by kernel_rfl) (theLoops (n:=1) (by kernel_rfl) fun i hi=> ?_) fun args σ K h=> ?_
 ·match i,hi with
  |0,_=>exact loopHyp_of (key:=6) (by kernel_rfl) rfl loktou_0
 unfold touS at h
 split at h
 rotate_right
 ·exact h.elim
 ·rename_i x y
  rw[extou x y K]
  obtain⟨⟨h1,h2⟩,hk⟩:=h
  refine⟨h1,h2,by simp,?_⟩
  change bif touE x y != 0 then _ else _
  cases he:touE x y==0 with
  |false=>
   rw[show(touE x y != 0)=true from congrArg not he]
   rw[he] at hk
   exact hk
  |true=>
   rw[show(touE x y != 0)=false from congrArg not he]
   rw[he] at hk
   obtain⟨f1,f2⟩:=firstE_zero (eq_of_beq he)
   obtain⟨f3,f4⟩:=firstE_zero f2
   obtain⟨f5,_⟩:=firstE_zero f4
   obtain⟨g7,g8⟩:=errE_zero f1
   have hl:x.length=y.length:=by
    cases hh:(x.length:Int)==(y.length:Int) with
    |false=>rw[hh] at f5;exact absurd f5 (by decide)
    |true=>have:=eq_of_beq hh;omega
   exact⟨⟨rfl,hl,g7,by decide,by omega⟩,hk⟩
theorem okaddD:SpecOK Try.prog 8 addedDS:=by
 refine okadd.froze fun args σ K h=> ?_
 unfold addedDS at h
 split at h
 rotate_right
 ·exact h.elim
 rename_i p hh t x
 obtain⟨h1,hk⟩:=h
 refine⟨rfl,h1,?_⟩
 unfold cmbR at hk
 cases he:cmbE p hh t 1 x==0 with
 |false=>rw[he] at hk;refine⟨_,?_,hk⟩;exact⟨.inr ⟨_,rfl,rfl⟩,rfl,trivial⟩
 |true=>
  rw[he,eq_of_beq he] at hk
  cases hx:x.isEmpty with
  |true=>
   rw[List.isEmpty_iff.1 hx] at hk
   refine⟨_,?_,hk⟩;exact⟨.inr ⟨_,rfl,rfl⟩,rfl,trivial⟩
  |false=>refine⟨_,?_,hk⟩;exact⟨⟨_,_,rfl,rfl,rfl⟩,rfl,trivial⟩
theorem okremD:SpecOK Try.prog 12 removedDS:=by
 refine okrem.froze fun args σ K h=> ?_
 unfold removedDS at h
 split at h
 rotate_right
 ·exact h.elim
 rename_i p hh t x
 obtain⟨h1,hk⟩:=h
 refine⟨rfl,h1,?_⟩
 unfold cmbR at hk
 cases he:cmbE p hh t (-1) x==0 with
 |false=>rw[he] at hk;refine⟨_,?_,hk⟩;exact⟨.inr ⟨_,rfl,rfl⟩,rfl,trivial⟩
 |true=>
  rw[he,eq_of_beq he] at hk
  cases hx:x.isEmpty with
  |true=>
   rw[List.isEmpty_iff.1 hx] at hk
   refine⟨_,?_,hk⟩;exact⟨.inr ⟨_,rfl,rfl⟩,rfl,trivial⟩
  |false=>refine⟨_,?_,hk⟩;exact⟨⟨_,_,rfl,rfl,rfl⟩,rfl,trivial⟩
theorem oktouD:SpecOK Try.prog 16 touDS:=by
 refine oktou.froze fun args σ K h=> ?_
 unfold touDS at h
 split at h
 rotate_right
 ·exact h.elim
 rename_i x y
 obtain⟨h1,hk⟩:=h
 refine⟨rfl,h1,?_⟩
 unfold touR at hk
 cases he:touE x y==0 with
 |false=>rw[he] at hk;refine⟨_,?_,hk⟩;exact⟨.inr ⟨_,rfl,rfl⟩,rfl,trivial⟩
 |true=>
  rw[he,eq_of_beq he] at hk
  cases hx:(difA 0 x y).isEmpty with
  |true=>
   rw[List.isEmpty_iff.1 hx] at hk
   refine⟨_,?_,hk⟩;exact⟨.inr ⟨_,rfl,rfl⟩,rfl,trivial⟩
  |false=>refine⟨_,?_,hk⟩;exact⟨⟨_,_,rfl,rfl,rfl⟩,rfl,trivial⟩
end Go.Ev
namespace Go.Ev
open Go Go.Proofs
attribute [local irreducible] evFn evBody evRound
set_option maxRecDepth 20000
theorem okrul:SpecOK Try.prog 33 rulesS:=by
 refine specOK (n:=48) (m:=0) (lps:=[]) (.cons okwic (.cons okunl (.cons okfst .nil))) Try.func33 (by kernel_rfl) (by kernel_rfl) (noLoops (by kernel_rfl)) fun args σ K h=> ?_
 unfold rulesS at h
 split at h
 rotate_right
 ·exact h.elim
 ·rename_i kd w th jo mo pe
  obtain⟨hr,h⟩:=h
  rcases hr with⟨rfl,rfl,rfl,rfl,rfl,rfl⟩|⟨rfl,rfl,rfl,rfl,rfl,rfl⟩
  ·rw[exrul0 K];exact⟨by decide,h⟩
  ·rw[exrul1 K];exact⟨by decide,h⟩
theorem okthr:SpecOK Try.prog 17 theRulesS:=by
 refine specOK (n:=2) (m:=0) (lps:=[]) .nil Try.func17 (by kernel_rfl) (by kernel_rfl) (noLoops (by kernel_rfl)) fun args σ K h=> ?_
 unfold theRulesS at h
 split at h
 rotate_right
 ·exact h.elim
 ·skip
  rw[exthr  K]
  exact h
theorem okdet:SpecOK Try.prog 54 detectorS:=by
 refine specOK (n:=12) (m:=0) (lps:=[]) .nil Try.func54 (by kernel_rfl) (by kernel_rfl) (noLoops (by kernel_rfl)) fun args σ K h=> ?_
 unfold detectorS at h
 split at h
 rotate_right
 ·exact h.elim
 ·rename_i kd w th jo mo pe
  rw[exdet kd w th jo mo pe K]
  exact h
theorem okcur:SpecOK Try.prog 99 curveS:=by
 refine specOK (n:=28) (m:=0) (lps:=[]) (.cons okwic .nil) Try.func99 (by kernel_rfl) (by kernel_rfl) (noLoops (by kernel_rfl)) fun args σ K h=> ?_
 unfold curveS at h
 split at h
 rotate_right
 ·exact h.elim
 ·rename_i x i
  rw[excur x i K]
  obtain⟨⟨⟨h1,h2⟩,h3,h4⟩,h⟩:=h
  unfold curveG at h
  rw[wrap_id (n:=(x.length:Int)-2) (by omega) (by omega)]
  cases hw:withinG i 1 ((x.length:Int)-2) with
  |false=>rw[hw] at h;exact h
  |true=>
   rw[hw,cond_true] at h
   have hb:1≤i∧i≤(x.length:Int)-2:=by simpa [withinG] using hw
   have b1:=sampleG_iff.1 (all_at h2 (show(i-1).toNat<x.length by omega))
   have b2:=sampleG_iff.1 (all_at h2 (show i.toNat<x.length by omega))
   have b3:=sampleG_iff.1 (all_at h2 (show(i+1).toNat<x.length by omega))
   rw[Bool.not_true,cond_false,wrap_id (n:=i-1) (by omega) (by omega),wrap_id (n:=i+1) (by omega) (by omega),decide_eq_true (show 0≤i-1 by omega),decide_eq_true (show i-1<(x.length:Int) by omega),decide_eq_true (show(i-1).toNat+0<x.length by omega),decide_eq_true (show 0≤i by omega),decide_eq_true (show i<(x.length:Int) by omega),decide_eq_true (show i.toNat+0<x.length by omega),decide_eq_true (show 0≤i+1 by omega),decide_eq_true (show i+1<(x.length:Int) by omega),decide_eq_true (show(i+1).toNat+0<x.length by omega)]
   simp only[Bool.and_self,cond_true,Nat.add_zero]
   rw[wrap_id (n:=2*x.getD i.toNat 0) (by omega) (by omega),wrap_id (n:=x.getD (i-1).toNat 0-2*x.getD i.toNat 0) (by omega) (by omega),wrap_id (by omega) (by omega)]
   exact h
theorem okcud:SpecOK Try.prog 98 curvesS:=by
 refine specOK (n:=11) (m:=0) (lps:=[]) (.cons okcur (.cons okszc .nil)) Try.func98 (by kernel_rfl) (by kernel_rfl) (noLoops (by kernel_rfl)) fun args σ K h=> ?_
 unfold curvesS at h
 split at h
 rotate_right
 ·exact h.elim
 ·rename_i x i
  rw[excud x i K]
  exact h
theorem oknan:SpecOK Try.prog 96 nanS:=by
 refine specOK (n:=6) (m:=0) (lps:=[]) .nil Try.func96 (by kernel_rfl) (by kernel_rfl) (noLoops (by kernel_rfl)) fun args σ K h=> ?_
 unfold nanS at h
 split at h
 rotate_right
 ·exact h.elim
 ·rename_i a
  rw[exnan a K]
  rw[bne_self_eq_false]
  exact h
theorem okles:SpecOK Try.prog 86 lessS:=by
 refine specOK (n:=17) (m:=0) (lps:=[]) (.cons oknan .nil) Try.func86 (by kernel_rfl) (by kernel_rfl) (noLoops (by kernel_rfl)) fun args σ K h=> ?_
 unfold lessS at h
 split at h
 rotate_right
 ·exact h.elim
 ·rename_i a b
  rw[exles a b K]
  exact h
theorem okle6:SpecOK Try.prog 90 lenS:=by
 refine specOK (n:=25) (m:=0) (lps:=[]) .nil Try.func90 (by kernel_rfl) (by kernel_rfl) (noLoops (by kernel_rfl)) fun args σ K h=> ?_
 unfold lenS at h
 split at h
 rotate_right
 ·exact h.elim
 ·rename_i n
  obtain⟨hn,h⟩:=h
  rcases hn with rfl|rfl
  ·rw[exle62 K];exact h _
  ·rw[exle63 K];exact h _
theorem oklen:SpecOK Try.prog 79 lenS:=by
 refine specOK (n:=8) (m:=0) (lps:=[]) (.cons okle6 .nil) Try.func79 (by kernel_rfl) (by kernel_rfl) (noLoops (by kernel_rfl)) fun args σ K h=> ?_
 unfold lenS at h
 split at h
 rotate_right
 ·exact h.elim
 ·rename_i n
  rw[exlen n K]
  exact h
theorem isG2(x y:Int):isG [x,y]=bif decide (y<x) then[y,x] else[x,y]:=rfl
theorem isG3(x y z:Int):isG [x,y,z]=bif decide (y<x) then(bif decide (z<x) then(bif decide (z<y) then[z,y,x] else[y,z,x]) else[y,x,z]) else(bif decide (z<y) then(bif decide (z<x) then[z,x,y] else[x,z,y]) else[x,y,z]):=by
 show insJ (bif decide (y<x) then[y,x,z] else[x,y,z]) 2=_
 cases decide (y<x)<;>rfl
theorem okins:SpecOK Try.prog 80 insS:=by
 refine specOK (n:=49) (m:=1) (lps:=[(1,.unroll 4),(4,.unroll 4)]) (.cons okles .nil) Try.func80 (by kernel_rfl) (by kernel_rfl) (theLoops (n:=2) (by kernel_rfl) fun i hi=> ?_) fun args σ K h=> ?_
 ·match i,hi with
  |0,_=>exact loopHyp_none (key:=1) (n:=4) (by kernel_rfl) rfl
  |1,_=>exact loopHyp_none (key:=4) (n:=4) (by kernel_rfl) rfl
 unfold insS at h
 split at h
 rotate_right
 ·exact h.elim
 ·rename_i a b x y
  obtain⟨⟨rfl,rfl⟩,h⟩:=h
  rw[exins2 x y K]
  rw[isG2] at h
  revert h
  cases decide (y<x)<;>exact fun h=>h
 ·rename_i a b x y z
  obtain⟨⟨rfl,rfl⟩,h⟩:=h
  rw[exins3 x y z K]
  rw[isG3] at h
  revert h
  cases decide (y<x)<;>cases decide (z<x)<;>cases decide (z<y)<;>exact fun h=>h
theorem okpdq:SpecOK Try.prog 78 pdqS:=by
 refine specOK (n:=134) (m:=1) (lps:=[(2,.unroll 1)]) (.cons okins (.cons okles .nil)) Try.func78 (by kernel_rfl) (by kernel_rfl) (theLoops (n:=1) (by kernel_rfl) fun i hi=> ?_) fun args σ K h=> ?_
 ·match i,hi with
  |0,_=>exact loopHyp_none (key:=2) (n:=1) (by kernel_rfl) rfl
 unfold pdqS at h
 split at h
 rotate_right
 ·exact h.elim
 ·rename_i a b lim x y
  obtain⟨⟨rfl,rfl⟩,h⟩:=h
  rw[expdq2 x y lim K]
  exact⟨⟨rfl,rfl⟩,h⟩
 ·rename_i a b lim x y z
  obtain⟨⟨rfl,rfl⟩,h⟩:=h
  rw[expdq3 x y z lim K]
  exact⟨⟨rfl,rfl⟩,h⟩
theorem oksrt:SpecOK Try.prog 75 sortS:=by
 refine specOK (n:=11) (m:=1) (lps:=[]) (.cons oklen (.cons okpdq .nil)) Try.func75 (by kernel_rfl) (by kernel_rfl) (noLoops (by kernel_rfl)) fun args σ K h=> ?_
 unfold sortS at h
 split at h
 rotate_right
 ·exact h.elim
 ·rename_i x y
  rw[exsrt2 x y K]
  exact⟨.inl (by show IntKind.u64.wrap ((2:Nat):Int)=2;decide),fun r=>⟨⟨rfl,rfl⟩,h⟩⟩
 ·rename_i x y z
  rw[exsrt3 x y z K]
  exact⟨.inr (by show IntKind.u64.wrap ((3:Nat):Int)=3;decide),fun r=>⟨⟨rfl,rfl⟩,h⟩⟩
theorem okvls:SpecOK Try.prog 73 valuesS:=by
 refine specOK (n:=4) (m:=0) (lps:=[]) .nil Try.func73 (by kernel_rfl) (by kernel_rfl) (noLoops (by kernel_rfl)) fun args σ K h=> ?_
 unfold valuesS at h
 split at h
 rotate_right
 ·exact h.elim
 ·rename_i l
  rw[exvls l K]
  exact h
theorem lokval:LoopOK Eval1 (lb Try.f76 0) [0,5,6,7] [] valL:=by
 refine loopOK .nil (noInner (by kernel_rfl)) (fun vs σ=>match vs,σ with
  |[_,.one (.data (.ints .i64 x)),_,.one (.int .i64 i)],[_,_]=>x.length-i.toNat
  |_,_=>0) fun vs σ k h=> ?_
 unfold valL at h
 split at h
 rotate_right
 ·exact h.elim
 rename_i x n i P J D L l
 rw[exvall x l n i P J D L _]
 obtain⟨⟨h1,h2,h3,h4,h5⟩,h⟩:=h
 by_cases hi:i<n
 ·rw[drop_step 0 (show i.toNat<x.length by omega),show i.toNat+1=(i+1).toNat by omega] at h5
  rw[decide_eq_true hi,decide_eq_true h4,decide_eq_true (show i<(x.length:Int) by omega),decide_eq_true (show i.toNat+0<x.length by omega),wrap_id (n:=i+1) (by omega) (by omega),Nat.add_zero]
  simp only[Bool.and_self,cond_true]
  subst h5
  exact⟨h1,rfl,fun D'=>⟨⟨⟨⟨h1,h2,h3,by omega,rfl⟩,h⟩,by show x.length-(i+1).toNat<x.length-i.toNat;omega⟩,(h D').2⟩⟩
 ·rw[List.drop_eq_nil_of_le (by omega)] at h5
  rw[decide_eq_false hi]
  subst h5
  exact(h D).1
theorem okval:SpecOK Try.prog 76 (seqSpec Try.prog valSq):=by
 refine specOK (n:=16) (m:=2) (lps:=[(1,.spec [0,5,6,7] [] valL)]) .nil Try.func76 (by kernel_rfl) (by kernel_rfl) (theLoops (n:=1) (by kernel_rfl) fun i hi=> ?_) fun args σ K h=> ?_
 ·match i,hi with
  |0,_=>exact loopHyp_of (key:=1) (by kernel_rfl) rfl lokval
 unfold seqSpec at h
 split at h
 rotate_right
 ·exact h.elim
 rename_i caps P J D L lent
 split at h
 rotate_right
 ·exact h.elim
 rename_i c xs hsq
 unfold valSq at hsq
 split at hsq
 rotate_right
 ·cases hsq
 rename_i l
 simp only[Option.some.injEq,Prod.mk.injEq] at hsq
 obtain⟨rfl,rfl⟩:=hsq
 have h':cond (decide (l.length≤12)) (P=Try.prog∧L=vlsI l∧ ∀(D':Nat→Prop) (lent':List Blk),K (.tup []) (.ghost Try.prog J D' (some [])::lent')∧K (.tup []) (.ghost Try.prog J D' none::lent')) False:=h
 obtain⟨hc,h2,h3,h4⟩:=cond_pos h'
 have hl:=of_decide_eq_true hc
 subst h2;subst h3
 rw[exval l _ J D _ K]
 exact⟨⟨rfl,rfl,hl,by decide,rfl⟩,fun D'=>h4 D' _⟩
theorem unI_cons{x:List AV}{rest:List (List AV)}(h:(x::rest)=vlsI (unI (x::rest))): ∃a,x=[.one (.int .i64 a)]∧unI (x::rest)=a::unI rest∧rest=vlsI (unI rest):=by
 cases hu:unI (x::rest) with
 |nil=>rw[hu] at h;cases h
 |cons a l=>
  rw[hu] at h
  have h':x::rest=[.one (.int .i64 a)]::vlsI l:=h
  simp only[List.cons.injEq] at h'
  obtain⟨rfl,rfl⟩:=h'
  exact⟨a,rfl,by rw[unI_vls],by rw[unI_vls]⟩
theorem rokaps_0:RangeOK Eaps 76 valSq (rangePs (lb Try.f77 0)) (rangeAssign (lb Try.f77 0)) (rangeBody (lb Try.f77 0)) [2] apsGL:=by
 refine⟨okval,fun x rest vs σ k h=> ?_,fun vs σ k h=> ?_⟩
 ·unfold apsGL at h
  split at h
  ·obtain⟨h1,h⟩:=h
   obtain⟨a,rfl,h2,h3⟩:=unI_cons h1
   rw[exapsr0 a]
   rw[h2] at h
   refine⟨h3,?_⟩
   match hu:unI rest,h with
   |[b],h=>exact h
   |[b,c],h=>exact h
   |[],h=>exact h.elim
   |_::_::_::_,h=>exact h.elim
  ·rename_i x1
   obtain⟨h1,h⟩:=h
   obtain⟨a,rfl,h2,h3⟩:=unI_cons h1
   rw[exapsr1 x1 a]
   rw[h2] at h
   refine⟨h3,?_⟩
   match hu:unI rest,h with
   |[],h=>exact h
   |[b],h=>exact h
   |_::_::_,h=>exact h.elim
  ·rename_i x1 y1
   obtain⟨h1,h⟩:=h
   obtain⟨a,rfl,h2,h3⟩:=unI_cons h1
   rw[exapsr2 x1 y1 a]
   rw[h2] at h
   refine⟨h3,?_⟩
   match hu:unI rest,h with
   |[],h=>exact h
   |_::_,h=>exact h.elim
  ·rename_i x1 y1 z1
   obtain⟨h1,h⟩:=h
   obtain⟨a,rfl,h2,h3⟩:=unI_cons h1
   rw[h2] at h
   exact h.elim
  ·exact h.elim
 ·unfold apsGL at h
  split at h
  ·exact h.2.elim
  ·exact h.2.elim
  ·exact h.2
  ·exact h.2
  ·exact h.elim
theorem okaps:SpecOK Try.prog 77 apsS:=by
 refine specOKc (n:=13) (m:=1) (lps:=[(1000002,.range 76 valSq [2] apsGL)]) [] [3] .nil Try.func77 (by kernel_rfl) (by kernel_rfl) (theLoops (n:=1) (by kernel_rfl) fun i hi=> ?_) fun args σ K h=> ?_
 ·match i,hi with
  |0,_=>exact loopHyp_range (key:=1000002) (by kernel_rfl) (by kernel_rfl) rfl rokaps_0
 unfold apsS at h
 split at h
 rotate_right
 ·exact h.elim
 ·rename_i x y
  rw[exaps2 x y K]
  exact⟨rfl,h⟩
 ·rename_i x y z
  rw[exaps3 x y z K]
  exact⟨rfl,h⟩
theorem okcol:SpecOK Try.prog 74 collectS:=by
 refine specOKc (n:=5) (m:=1) (lps:=[]) [] [3] (.cons okaps .nil) Try.func74 (by kernel_rfl) (by kernel_rfl) (noLoops (by kernel_rfl)) fun args σ K h=> ?_
 unfold collectS at h
 split at h
 rotate_right
 ·exact h.elim
 ·rename_i x y
  rw[excol2 x y K]
  exact h
 ·rename_i x y z
  rw[excol3 x y z K]
  exact h
theorem okstd:SpecOK Try.prog 72 sortedS:=by
 refine specOK (n:=9) (m:=1) (lps:=[]) (.cons okcol (.cons oksrt .nil)) Try.func72 (by kernel_rfl) (by kernel_rfl) (noLoops (by kernel_rfl)) fun args σ K h=> ?_
 unfold sortedS at h
 split at h
 rotate_right
 ·exact h.elim
 ·rename_i x y
  rw[exstd2 x y K]
  exact h
 ·rename_i x y z
  rw[exstd3 x y z K]
  exact h
theorem okmed:SpecOK Try.prog 71 medianS:=by
 refine specOK (n:=38) (m:=0) (lps:=[]) (.cons okvls (.cons okstd (.cons okszc .nil))) Try.func71 (by kernel_rfl) (by kernel_rfl) (noLoops (by kernel_rfl)) fun args σ K h=> ?_
 unfold medianS at h
 split at h
 rotate_right
 ·exact h.elim
 ·rename_i w x i
  obtain⟨⟨rfl,rfl,h3,h4⟩,h⟩:=h
  have:i=0∨i=1∨i=2∨i=3∨i=4:=by omega
  rcases this with rfl|rfl|rfl|rfl|rfl
  ·rw[exmed0 K];exact h
  ·rw[exmed1 K];exact h
  ·rw[exmed2 K];exact h
  ·rw[exmed3 K];exact h
  ·rw[exmed4 K];exact h
theorem devA_step{kd n i:Int}{x:List Int}(h:i<n):devA kd x i (n-i).toNat=devG kd x i::devA kd x (i+1) (n-(i+1)).toNat:=by
 rw[show(n-i).toNat=(n-(i+1)).toNat+1 by omega]
 rfl
theorem devA_end{kd n i:Int}{x:List Int}(h:¬i<n):devA kd x i (n-i).toNat=[]:=by
 rw[show(n-i).toNat=0 by omega]
 rfl
theorem noEmp{x:List Int}(h:0<(x.length:Int)):x.isEmpty=false:=by cases x with|nil=>simp at h|cons a l=>rfl
theorem lokdev_0:LoopOK Edev (lb Try.f49 0) [1,5,6,11,12] [6] devL:=by
 refine loopOK (.cons okdet (.cons okmed (.cons okcud .nil))) (noInner (by kernel_rfl)) (fun vs σ=>match vs,σ with
  |[.one (.data (.ints .i64 _)),.one (.ifv 102 []),.one .nil,.one (.int .i64 n),.one (.int .i64 i)],[]=>(n-i).toNat
  |[.one (.data (.ints .i64 _)),.one (.ifv 102 []),.one (.own 0 1),.one (.int .i64 n),.one (.int .i64 i)],[.row 3 (.ints .i64 _)]=>(n-i).toNat
  |[.one (.data (.ints .i64 _)),.one (.ifv 100 [_]),.one .nil,.one (.int .i64 n),.one (.int .i64 i)],[]=>(n-i).toNat
  |[.one (.data (.ints .i64 _)),.one (.ifv 100 [_]),.one (.own 0 1),.one (.int .i64 n),.one (.int .i64 i)],[.row 3 (.ints .i64 _)]=>(n-i).toNat
  |_,_=>0) fun vs σ k h=> ?_
 unfold devL at h
 split at h
 rotate_right
 ·exact h.elim
 ·rename_i x n i
  rw[exdevl0a x n i _]
  obtain⟨⟨⟨h1,h2,h3,h4⟩,hi0⟩,hk⟩:=h
  obtain⟨h5,h6⟩:=id h1
  by_cases hi:i<n
  ·rw[devA_step hi,noEmp (by omega)] at hk
   rw[decide_eq_true hi,cond_true,wrap_id (n:=i+1) (by omega) (by omega)]
   exact⟨⟨h1,h3,by omega⟩,⟨⟨⟨h1,h2,by omega,by omega⟩,by rw[List.length_singleton];omega,by omega⟩,hk⟩,by show(n-(i+1)).toNat<(n-i).toNat;omega⟩
  ·rw[decide_eq_false hi]
   rw[show x.isEmpty=true by cases x with|nil=>rfl|cons a l=>simp at h2;omega] at hk
   exact hk
 ·rename_i x n i out
  rw[exdevl0b x n i out _]
  obtain⟨⟨⟨h1,h2,h3,h4⟩,ho,hi1⟩,hk⟩:=h
  obtain⟨h5,h6⟩:=id h1
  by_cases hi:i<n
  ·rw[devA_step hi,snoc_app] at hk
   rw[decide_eq_true hi,cond_true,wrap_id (n:=i+1) (by omega) (by omega),room8 (by omega)]
   exact⟨⟨h1,h3,by omega⟩,⟨⟨⟨h1,h2,by omega,by omega⟩,by rw[len_snoc];omega,by omega⟩,hk⟩,by show(n-(i+1)).toNat<(n-i).toNat;omega⟩
  ·rw[decide_eq_false hi]
   rw[devA_end hi,List.append_nil] at hk
   exact hk
 ·rename_i x w n i
  rw[exdevl0c x w n i _]
  obtain⟨⟨⟨h1,h2,h3,h4⟩,hw,hx,hi0⟩,hk⟩:=h
  obtain⟨h5,h6⟩:=id h1
  have hl:(x.length:Int)=5:=by rw[hx];rfl
  rw[devA_step (by omega)] at hk
  rw[decide_eq_true (show i<n by omega),cond_true,wrap_id (n:=i+1) (by omega) (by omega)]
  rw[show exX.getD i.toNat 0=devG 0 x i by rw[hx];rfl]
  exact⟨⟨hw,hx,h3,by omega⟩,⟨⟨⟨h1,h2,by omega,by omega⟩,hw,hx,by rw[List.length_singleton];omega,by omega⟩,hk⟩,by show(n-(i+1)).toNat<(n-i).toNat;omega⟩
 ·rename_i x w n i out
  rw[exdevl0d x w n i out _]
  obtain⟨⟨⟨h1,h2,h3,h4⟩,hw,hx,ho,hi1⟩,hk⟩:=h
  obtain⟨h5,h6⟩:=id h1
  have hl:(x.length:Int)=5:=by rw[hx];rfl
  by_cases hi:i<n
  ·rw[devA_step hi,snoc_app] at hk
   rw[decide_eq_true hi,cond_true,wrap_id (n:=i+1) (by omega) (by omega),room8 (by omega)]
   rw[show exX.getD i.toNat 0=devG 0 x i by rw[hx];rfl]
   exact⟨⟨hw,hx,h3,by omega⟩,⟨⟨⟨h1,h2,by omega,by omega⟩,hw,hx,by rw[len_snoc];omega,by omega⟩,hk⟩,by show(n-(i+1)).toNat<(n-i).toNat;omega⟩
  ·rw[decide_eq_false hi]
   rw[devA_end hi,List.append_nil] at hk
   exact hk
theorem okdev:SpecOK Try.prog 49 devsS:=by
 refine specOK (n:=24) (m:=0) (lps:=[(4,.spec [1,5,6,11,12] [6] devL)]) (.cons okdet (.cons okmed (.cons okcud .nil))) Try.func49 (by kernel_rfl) (by kernel_rfl) (theLoops (n:=1) (by kernel_rfl) fun i hi=> ?_) fun args σ K h=> ?_
 ·match i,hi with
  |0,_=>exact loopHyp_of (key:=4) (by kernel_rfl) rfl lokdev_0
 unfold devsS at h
 split at h
 rotate_right
 ·exact h.elim
 ·rename_i kd w th jo mo pe x
  rw[exdev kd w th jo mo pe x K]
  obtain⟨⟨hr,hx,h0⟩,h⟩:=h
  rw[Int.sub_zero,Int.toNat_natCast]
  rcases hr with⟨rfl,rfl,rfl,rfl,rfl,rfl⟩|⟨rfl,rfl,rfl,rfl,rfl,rfl⟩
  ·have e:=h0 rfl
   rw[show x.isEmpty=false by rw[e];rfl] at h
   exact⟨⟨⟨hx,rfl,by decide,by omega⟩,rfl,e,rfl⟩,h⟩
  ·exact⟨⟨⟨hx,rfl,by decide,by omega⟩,rfl⟩,h⟩
theorem okdevD:SpecOK Try.prog 49 devsDS:=by
 refine okdev.froze fun args σ K h=> ?_
 unfold devsDS at h
 split at h
 rotate_right
 ·exact h.elim
 rename_i kd w th jo mo pe x
 obtain⟨h1,hk⟩:=h
 refine⟨rfl,h1,?_⟩
 cases hx:x.isEmpty with
 |true=>refine⟨_,?_,hk⟩;exact .inr ⟨_,by rw[List.isEmpty_iff.1 hx];rfl,rfl⟩
 |false=>refine⟨_,?_,hk⟩;exact⟨_,_,rfl,rfl,rfl⟩
end Go.Ev
namespace Go.Ev
open Go Go.Proofs
attribute [local irreducible] evFn evBody evRound
set_option maxRecDepth 20000
theorem devA_len(kd:Int)(x:List Int): ∀(c:Nat) (i:Int),(devA kd x i c).length=c
 |0,_=>rfl
 |c+1,i=>by show(devA kd x (i+1) c).length+1=c+1;rw[devA_len kd x c]
theorem okRb_of{kd w th jo mo pe:Int}{x:List Int}(h:okRb kd w th jo mo pe x=true):okR kd w th jo mo pe∧okX x∧(kd=0→x=exX)∧0≤th∧jo=2:=by
 unfold okRb at h
 simp only[Bool.and_eq_true,Bool.or_eq_true,beq_iff_eq,decide_eq_true_eq] at h
 obtain⟨h,h1,h2⟩:=h
 rcases h with⟨⟨⟨⟨⟨⟨a,b⟩,c⟩,d⟩,e⟩,f⟩,g⟩|⟨⟨⟨⟨⟨a,b⟩,c⟩,d⟩,e⟩,f⟩
 ·exact⟨.inl ⟨a,b,c,d,e,f⟩,⟨h1,h2⟩,fun _=>g,by omega,d⟩
 ·exact⟨.inr ⟨a,b,c,d,e,f⟩,⟨h1,h2⟩,fun h0=>by omega,by omega,d⟩
theorem okRb_mk{kd w th jo mo pe:Int}{x:List Int}(h:okR kd w th jo mo pe)(hx:okX x)(h0:kd=0→x=exX):okRb kd w th jo mo pe x=true:=by
 unfold okRb
 simp only[Bool.and_eq_true,Bool.or_eq_true,beq_iff_eq,decide_eq_true_eq]
 refine⟨?_,hx.1,hx.2⟩
 rcases h with⟨a,b,c,d,e,f⟩|⟨a,b,c,d,e,f⟩
 ·exact .inl ⟨⟨⟨⟨⟨⟨a,b⟩,c⟩,d⟩,e⟩,f⟩,h0 a⟩
 ·exact .inr ⟨⟨⟨⟨⟨a,b⟩,c⟩,d⟩,e⟩,f⟩
theorem lokru1:LoopOK Eru1 (lb Try.f48 0) [0,1,4,9,10,11] [0,4] runL:=by
 refine loopOK (.cons okdevD .nil) (noInner (by kernel_rfl)) (fun vs σ=>match vs,σ with
  |[_,_,_,_,.one (.int .i64 n),.one (.int .i64 i)],_=>(n-i).toNat
  |_,_=>0) fun vs σ k h=> ?_
 unfold runL at h
 split at h
 rotate_right
 ·exact h.elim
 ·rename_i d n i P J D L kd w th jo mo pe x
  rw[exru1la]
  obtain⟨⟨h1,⟨h2,h3,h4,h5,h6,h7⟩,h8⟩,hk⟩:=h
  by_cases hi:i<n
  ·rw[drop_step 0 (show i.toNat<d.length by omega),show i.toNat+1=(i+1).toNat by omega] at h8 hk
   rw[decide_eq_true hi,decide_eq_true h4,decide_eq_true (show i<(d.length:Int) by omega),decide_eq_true (show i.toNat+0<d.length by omega),wrap_id (n:=i+1) (by omega) (by omega)]
   simp only[Bool.and_self,cond_true,Nat.add_zero]
   cases hd:decide (d.getD i.toNat 0≤th) with
   |true=>
    simp only[runF,lstF,hd,cond_true] at h8 hk
    exact⟨⟨⟨h1,⟨h2,h3,by omega,by omega,h6,h7⟩,h8⟩,hk⟩,by show(n-(i+1)).toNat<(n-i).toNat;omega⟩
   |false=>
    simp only[runF,lstF,hd,cond_false] at h8 hk
    have hp:=of_decide_eq_false hd
    rw[cond_false,decide_eq_true (show d.getD i.toNat 0>0 by omega),cond_true]
    exact⟨⟨⟨h1,⟨h2,h3,by omega,by omega,h6,h7⟩,by omega,by omega,h8⟩,hk⟩,by show(n-(i+1)).toNat<(n-i).toNat;omega⟩
  ·rw[List.drop_eq_nil_of_le (by omega)] at h8 hk
   rw[decide_eq_false hi]
   subst h8
   exact hk.1 rfl D
 ·rename_i d n i P J D L kd w th jo mo pe x lo hi pk dv
  rw[exru1lb]
  obtain⟨⟨h1,⟨h2,h3,h4,h5,h6,h7⟩,g1,g2,h8⟩,hk⟩:=h
  by_cases hi':i<n
  ·rw[drop_step 0 (show i.toNat<d.length by omega),show i.toNat+1=(i+1).toNat by omega] at h8 hk
   rw[decide_eq_true hi',decide_eq_true h4,decide_eq_true (show i<(d.length:Int) by omega),decide_eq_true (show i.toNat+0<d.length by omega),wrap_id (n:=i+1) (by omega) (by omega),wrap_id (n:=i-hi) (by omega) (by omega),wrap_id (n:=jo+1) (by omega) (by omega)]
   simp only[Bool.and_self,cond_true,Nat.add_zero]
   cases hd:decide (d.getD i.toNat 0≤th) with
   |true=>
    simp only[runF,lstF,hd,cond_true] at h8 hk
    exact⟨⟨⟨h1,⟨h2,h3,by omega,by omega,h6,h7⟩,g1,by omega,h8⟩,hk⟩,by show(n-(i+1)).toNat<(n-i).toNat;omega⟩
   |false=>
    simp only[runF,lstF,hd,cond_false,List.getD_cons_zero,List.getD_cons_succ] at h8 hk
    have hp:=of_decide_eq_false hd
    rw[cond_false]
    cases hf:decide (i-hi>jo+1) with
    |true=>
     simp only[hf,cond_true] at h8 hk
     rw[cond_true,decide_eq_true (show d.getD i.toNat 0>0 by omega)]
     rw[List.map_cons] at h8
     subst h8
     exact⟨h1,rfl,fun D'=>⟨⟨⟨⟨h1,⟨h2,h3,by omega,by omega,h6,h7⟩,by omega,by omega,rfl⟩,hk⟩,by show(n-(i+1)).toNat<(n-i).toNat;omega⟩,hk.2.2 D' lo hi pk dv⟩⟩
    |false=>
     simp only[hf,cond_false] at h8 hk
     rw[cond_false]
     cases hq:decide (d.getD i.toNat 0>dv) with
     |true=>
      simp only[hq,cond_true] at h8 hk
      exact⟨⟨⟨h1,⟨h2,h3,by omega,by omega,h6,h7⟩,by omega,by omega,h8⟩,hk⟩,by show(n-(i+1)).toNat<(n-i).toNat;omega⟩
     |false=>
      simp only[hq,cond_false] at h8 hk
      exact⟨⟨⟨h1,⟨h2,h3,by omega,by omega,h6,h7⟩,by omega,by omega,h8⟩,hk⟩,by show(n-(i+1)).toNat<(n-i).toNat;omega⟩
  ·rw[List.drop_eq_nil_of_le (by omega)] at h8 hk
   rw[decide_eq_false hi']
   subst h8
   exact hk.2.1 _ rfl D
theorem okru1:SpecOK Try.prog 48 (seqSpec Try.prog runSq):=by
 refine specOK (n:=75) (m:=3) (lps:=[(2,.spec [0,1,4,9,10,11] [0,4] runL)]) (.cons okdevD .nil) Try.func48 (by kernel_rfl) (by kernel_rfl) (theLoops (n:=1) (by kernel_rfl) fun i hi=> ?_) fun args σ K h=> ?_
 ·match i,hi with
  |0,_=>exact loopHyp_of (key:=2) (by kernel_rfl) rfl lokru1
 unfold seqSpec at h
 split at h
 rotate_right
 ·exact h.elim
 rename_i caps P J D L lent
 split at h
 rotate_right
 ·exact h.elim
 rename_i c xs hsq
 unfold runSq at hsq
 split at hsq
 rotate_right
 ·cases hsq
 rename_i kd w th jo mo pe x
 simp only[Option.some.injEq,Prod.mk.injEq] at hsq
 obtain⟨rfl,rfl⟩:=hsq
 have h':cond (okRb kd w th jo mo pe x) (P=Try.prog∧L=(runsG kd th jo x).map itemR∧ ∀(D':Nat→Prop) (lent':List Blk),K (.tup []) (.ghost Try.prog J D' (some [])::lent')∧K (.tup []) (.ghost Try.prog J D' none::lent')) False:=h
 obtain⟨hc,h2,h3,h4⟩:=cond_pos h'
 obtain⟨e1,e2,e3,e4,e5⟩:=okRb_of hc
 subst h2;subst h3
 rw[exru1]
 refine⟨⟨e1,e2,e3⟩,⟨rfl,⟨rfl,by rw[devA_len];exact e2.1,by decide,by omega,e4,e5⟩,rfl⟩,fun _ D'=>(h4 D' _).1,fun r _ D'=>⟨rfl,rfl,fun D''=>h4 D'' _⟩,fun D' _ _ _ _=>(h4 D' _).2⟩
theorem okrun:SpecOK Try.prog 34 runsS:=by
 refine specOK (n:=6) (m:=0) (lps:=[]) .nil Try.func34 (by kernel_rfl) (by kernel_rfl) (noLoops (by kernel_rfl)) fun args σ K h=> ?_
 unfold runsS at h
 split at h
 rotate_right
 ·exact h.elim
 ·rename_i kd w th jo mo pe x
  rw[exrun kd w th jo mo pe x K]
  exact h
theorem okisc:SpecOK Try.prog 35 isClickS:=by
 refine specOK (n:=15) (m:=0) (lps:=[]) .nil Try.func35 (by kernel_rfl) (by kernel_rfl) (noLoops (by kernel_rfl)) fun args σ K h=> ?_
 unfold isClickS at h
 split at h
 rotate_right
 ·exact h.elim
 ·rename_i kd w th jo mo pe lo hi pk dv
  rw[exisc kd w th jo mo pe lo hi pk dv K]
  rw[wrap_id (n:=hi-lo) (by omega) (by omega)]
  exact h.2
theorem list4{r:List Int}(h:r.length=4):[r.getD 0 0,r.getD 1 0,r.getD 2 0,r.getD 3 0]=r:=
 match r,h with
 |[_,_,_,_],_=>rfl
theorem okRun_of{mo:Int}{r:List Int}(h:okRun mo r=true):r.length=4∧0≤r.getD 0 0∧r.getD 0 0≤r.getD 1 0∧r.getD 1 0≤1000∧r.getD 1 0-r.getD 0 0<mo:=by
 unfold okRun at h
 simpa only[Bool.and_eq_true,decide_eq_true_eq] using h
theorem room32{L:List (List Int)}{v:List Int}(h:L.length≤1000):decide ((L++[v]).length*32≤140737488355328∧(L++[v]).length≤140737488355328)=true:=decide_eq_true (by rw[List.length_append];simp only[List.length_cons,List.length_nil];omega)
theorem rokcho_0:RangeOK Echo 48 runSq (rangePs (lb Try.f22 0)) (rangeAssign (lb Try.f22 0)) (rangeBody (lb Try.f22 0)) [3,5,9] choGL:=by
 refine⟨okru1,fun it rest vs σ k h=> ?_,fun vs σ k h=> ?_⟩
 ·unfold choGL at h
  split at h
  ·rename_i kd w th jo mo pe c
   obtain⟨rs,hrs,⟨hc,ha,hl⟩,h⟩:=h
   cases rs with
   |nil=>simp at hrs
   |cons r rs=>
    simp only[List.map_cons,List.cons.injEq] at hrs
    obtain⟨rfl,rfl⟩:=hrs
    rw[List.all_cons,Bool.and_eq_true] at ha
    obtain⟨a1,a2,a3,a4,a5⟩:=okRun_of ha.1
    unfold itemR
    rw[exchor0]
    rw[hc,decide_eq_true a5,list4 a1]
    refine⟨⟨a2,a3,a4⟩,?_⟩
    simp only[List.length_cons] at hl
    rw[hc] at h
    exact⟨rs,rfl,⟨rfl,ha.2,by simp only[List.length_cons,List.length_nil];omega⟩,h⟩
  ·rename_i kd w th jo mo pe c out
   obtain⟨rs,hrs,⟨hc,ha,hl⟩,h⟩:=h
   cases rs with
   |nil=>simp at hrs
   |cons r rs=>
    simp only[List.map_cons,List.cons.injEq] at hrs
    obtain⟨rfl,rfl⟩:=hrs
    rw[List.all_cons,Bool.and_eq_true] at ha
    obtain⟨a1,a2,a3,a4,a5⟩:=okRun_of ha.1
    simp only[List.length_cons] at hl
    unfold itemR
    rw[exchor1]
    rw[hc,decide_eq_true a5,list4 a1,room32 (by omega)]
    refine⟨⟨a2,a3,a4⟩,?_⟩
    rw[hc,snoc_app] at h
    exact⟨rs,rfl,⟨rfl,ha.2,by rw[len_snoc];omega⟩,h⟩
  ·exact h.elim
 ·unfold choGL at h
  split at h
  ·obtain⟨rs,hrs,_,h⟩:=h
   cases rs with
   |nil=>exact h
   |cons p cs=>simp at hrs
  ·obtain⟨rs,hrs,_,h⟩:=h
   cases rs with
   |nil=>rw[List.append_nil] at h;exact h
   |cons p cs=>simp at hrs
  ·exact h.elim
theorem firstE_0(e:Int):firstE [0,e]=e:=by
 show(bif e==0 then 0 else e)=e
 cases h:e==0 with
 |true=>exact(eq_of_beq h).symm
 |false=>rfl
theorem okcho:SpecOK Try.prog 22 choS:=by
 refine specOK (n:=34) (m:=0) (lps:=[(1000006,.range 48 runSq [3,5,9] choGL)]) (.cons okrul (.cons okerr (.cons okfst (.cons okrun (.cons okisc .nil))))) Try.func22 (by kernel_rfl) (by kernel_rfl) (theLoops (n:=1) (by kernel_rfl) fun i hi=> ?_) fun args σ K h=> ?_
 ·match i,hi with
  |0,_=>exact loopHyp_range (key:=1000006) (by kernel_rfl) (by kernel_rfl) rfl rokcho_0
 unfold choS at h
 split at h
 rotate_right
 ·exact h.elim
 ·rename_i kd w th jo mo pe x c
  rw[excho kd w th jo mo pe x c K]
  obtain⟨⟨hc,h1,h2,h3,h4⟩,h⟩:=h
  refine⟨h1,h2,by simp,?_⟩
  rw[firstE_0]
  cases he:errE x==0 with
  |false=>
   rw[show(errE x != 0)=true from congrArg not he]
   rw[he] at h
   exact h
  |true=>
   rw[show(errE x != 0)=false from congrArg not he]
   rw[he] at h
   have e0:=eq_of_beq he
   obtain⟨x1,x2⟩:=errE_zero e0
   obtain⟨r1,r2⟩:=h4 e0
   rw[okRb_mk h1 ⟨x1,x2⟩ h3]
   exact⟨_,rfl,⟨hc,r1,r2⟩,h⟩
theorem okclk:SpecOK Try.prog 13 clkS:=by
 refine specOK (n:=11) (m:=0) (lps:=[]) (.cons okcho .nil) Try.func13 (by kernel_rfl) (by kernel_rfl) (noLoops (by kernel_rfl)) fun args σ K h=> ?_
 unfold clkS at h
 split at h
 rotate_right
 ·exact h.elim
 ·rename_i kd w th jo mo pe x
  rw[exclk kd w th jo mo pe x K]
  exact⟨⟨rfl,h.1⟩,h.2⟩
theorem okclkD:SpecOK Try.prog 13 clkDS:=by
 refine okclk.froze fun args σ K h=> ?_
 unfold clkDS at h
 split at h
 rotate_right
 ·exact h.elim
 rename_i kd w th jo mo pe x
 obtain⟨h1,hk⟩:=h
 refine⟨rfl,h1,?_⟩
 unfold clkR at hk
 cases he:errE x==0 with
 |false=>rw[he] at hk;refine⟨_,?_,hk⟩;exact⟨.inr ⟨_,rfl,rfl⟩,rfl,trivial⟩
 |true=>
  rw[he,eq_of_beq he] at hk
  cases hx:(runsG kd th jo x).isEmpty with
  |true=>
   rw[List.isEmpty_iff.1 hx] at hk
   refine⟨_,?_,hk⟩;exact⟨.inr ⟨_,rfl,rfl⟩,rfl,trivial⟩
  |false=>refine⟨_,?_,hk⟩;exact⟨⟨_,_,rfl,rfl,rfl⟩,rfl,trivial⟩
end Go.Ev
