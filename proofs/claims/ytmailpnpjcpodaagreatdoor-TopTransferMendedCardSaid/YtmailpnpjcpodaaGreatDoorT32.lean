/-
  Part of the proof that TopTransferMended holds.
-/
import Derived.Test.YtmailpnpjcpodaaGreatDoorT31
import Derived.Lib.Split
import Derived.Lib.AtoiTie
import Derived.Lib.Strings
import Derived.Lib.Join
import Derived.Sort.Grow
import Derived.Deep.Draws
set_option linter.unusedVariables false
set_option linter.unusedSimpArgs false
set_option linter.unusedSectionVars false
namespace Go.Ev
open Go
theorem index_has(c:UInt8)(s:List UInt8):Lib.index s [c]=if hasB c s=true then((bef c s).length:Int) else -1:=by
 induction s with
 |nil=>rfl
 |cons x s ih=>
  unfold Lib.index hasB bef
  have hp:[c].isPrefixOf (x::s)=(c==x):=by simp[List.isPrefixOf]
  rw[hp]
  by_cases h:x=c
  ·rw[if_pos (by simp[h]),if_pos h,if_pos h,if_pos rfl];rfl
  ·rw[if_neg (by simp[Ne.symm h]),if_neg h,if_neg h,ih]
   by_cases k:hasB c s=true
   ·have e:¬(((bef c s).length:Int) == -1)=true:=by
     intro e;have:=eq_of_beq e;omega
    rw[if_pos k,if_pos k,if_neg e,List.length_cons]
    omega
   ·rw[if_neg k,if_neg k,if_pos (by rfl)]
theorem cut_one(c:UInt8)(s:List UInt8):Lib.cut s [c]=(bef c s,aft c s,hasB c s):=by
 unfold Lib.cut
 rw[index_has]
 cases k:hasB c s with
 |true=>
  rw[if_pos rfl,if_pos (by omega)]
  simp only[Int.toNat_natCast,List.length_cons,List.length_nil,Nat.zero_add]
  rw[take_bef,drop_bef k]
 |false=>
  rw[if_neg Bool.false_ne_true,if_neg (by decide),bef_no k,aft_no k]
theorem splitK_one(c:UInt8): ∀(n:Nat) (s:List UInt8),Lib.countFrom [c] n s≤n→Lib.splitK [c] 0 (Lib.countFrom [c] n s) s=if s.length<n then pcs c s else Lib.splitK [c] 0 (Lib.countFrom [c] n s) s
 |0,s,_=>by rw[if_neg (by omega)]
 |n+1,s,_=>by
  by_cases hl:s.length<n+1
  ·rw[if_pos hl]
   unfold Lib.countFrom
   rw[index_has]
   cases k:hasB c s with
   |true=>
    have e:¬(((bef c s).length:Int) == -1)=true:=by
     intro e;have:=eq_of_beq e;omega
    have hlen:=aft_len k
    rw[if_pos rfl,if_neg e,Nat.add_comm 1,Lib.splitK,index_has,k,if_pos rfl,if_neg e]
    simp only[Int.toNat_natCast,List.length_cons,List.length_nil,Nat.zero_add,Nat.add_zero]
    rw[take_bef,drop_bef k,pcs_has k]
    have hc:Lib.countFrom [c] n (aft c s)≤n:=by
     have: ∀(n:Nat) (s:List UInt8),Lib.countFrom [c] n s≤n:=by
      intro n
      induction n with
      |zero=>intro s;simp[Lib.countFrom]
      |succ n ih=>
       intro s
       unfold Lib.countFrom
       split
       ·omega
       ·have:=ih (s.drop ((Lib.index s [c]).toNat+[c].length));omega
     exact this n _
    rw[splitK_one c n (aft c s) hc,if_pos (by omega)]
   |false=>
    rw[if_neg Bool.false_ne_true,if_pos (by rfl),pcs_no k];rfl
  ·rw[if_neg hl]
theorem split_one(c:UInt8)(s:List UInt8):Lib.split s [c]=pcs c s:=by
 unfold Lib.split Lib.count
 have hc:Lib.countFrom [c] (s.length+1) s≤s.length+1:=by
  have: ∀(n:Nat) (s:List UInt8),Lib.countFrom [c] n s≤n:=by
   intro n
   induction n with
   |zero=>intro s;simp[Lib.countFrom]
   |succ n ih=>
    intro s
    unfold Lib.countFrom
    split
    ·omega
    ·have:=ih (s.drop ((Lib.index s [c]).toNat+[c].length));omega
  exact this _ _
 rw[splitK_one c _ _ hc,if_pos (by omega)]
end Go.Ev
namespace Go.Ev
open Go
def atoB(s:List UInt8):Bool:=match Lib.atoiAll s with|.ok _=>true|_=>false
def atoV(s:List UInt8):Int:=match Lib.atoiAll s with|.ok v=>v|.range=>Lib.atoiSat s|_=>0
def tpG(s:List UInt8):List UInt8:=Lib.trimPrefix s [45]
def dN:List UInt8→Nat→Nat
 |[],n=>n
 |b::l,n=>dN l (10*n+(b.toNat-48))
theorem dgB_iff{b:UInt8}:dgB b=true↔48≤b.toNat∧b.toNat≤57:=by
 unfold dgB
 rw[Bool.and_eq_true,decide_eq_true_eq,decide_eq_true_eq]
theorem digN_dN: ∀{l:List UInt8} {n:Nat},digB l=true→digN l (n:Int)=(dN l n:Nat)
 |[],n,_=>rfl
 |b::l,n,h=>by
  unfold digB at h
  rw[Bool.and_eq_true] at h
  have hb:=dgB_iff.1 h.1
  show digN l (10*(n:Int)+((b.toNat:Int)-48))=dN l (10*n+(b.toNat-48))
  rw[← digN_dN h.2]
  congr 1
  omega
theorem dN_append: ∀(l m:List UInt8) (n:Nat),dN (l++m) n=dN m (dN l n)
 |[],_,_=>rfl
 |b::l,m,n=>dN_append l m _
theorem digB_append: ∀(l m:List UInt8),digB (l++m)=(digB l&&digB m)
 |[],m=>rfl
 |b::l,m=>by
  show(dgB b&&digB (l++m))=(dgB b&&digB l&&digB m)
  rw[digB_append l m,Bool.and_assoc]
theorem dN_pos: ∀{l:List UInt8} {n:Nat},1≤n→1≤dN l n
 |[],n,h=>h
 |b::l,n,h=>dN_pos (l:=l) (n:=10*n+(b.toNat-48)) (by omega)
theorem ofNat_byte{b:UInt8}{d:Nat}(h:b.toNat=d):UInt8.ofNat d=b:=by
 subst h
 exact UInt8.ofNat_toNat
theorem dec_zero:Lib.decDigits 0=[48]:=Lib.decDigits_one (i:=0) (by decide)
theorem dec_of: ∀(k:Nat) (l:List UInt8),l.length=k→digB l=true→l≠[]→(l.head? = some 48→l.length=1)→Lib.decDigits (dN l 0)=l:=by
 intro k
 induction k with
 |zero=>intro l hl _ h0;exact absurd (List.length_eq_zero_iff.1 hl) h0
 |succ k ih=>
  intro l hl hd h0 hh
  obtain⟨l',b,rfl⟩: ∃l' b,l=l'++[b]:=⟨l.dropLast,l.getLast h0,(List.dropLast_concat_getLast h0).symm⟩
  rw[digB_append,Bool.and_eq_true] at hd
  have hb:dgB b=true:=by
   have:=hd.2
   unfold digB digB at this
   rw[Bool.and_eq_true] at this
   exact this.1
  have hb2:=dgB_iff.1 hb
  rw[dN_append]
  show Lib.decDigits (10*dN l' 0+(b.toNat-48))=_
  by_cases h1:l'=[]
  ·subst h1
   rw[Lib.decDigits,dif_pos (show 10*dN [] 0+(b.toNat-48)<10 by show 10*0+_<10;omega)]
   show[UInt8.ofNat (48+(10*0+(b.toNat-48)))]=[b]
   rw[ofNat_byte (b:=b) (by omega)]
  ·have hp:1≤dN l' 0:=by
    cases l' with
    |nil=>exact absurd rfl h1
    |cons x l'=>
     have hx:x≠48:=by
      rintro rfl
      have:=hh rfl
      simp at this
     have hxd:=hd.1
     unfold digB at hxd
     rw[Bool.and_eq_true] at hxd
     have hx2:=dgB_iff.1 hxd.1
     have:x.toNat≠48:=fun e=>hx (UInt8.toNat_inj.1 e)
     exact dN_pos (l:=l') (n:=10*0+(x.toNat-48)) (by omega)
   rw[Lib.decDigits,dif_neg (by omega)]
   rw[show(10*dN l' 0+(b.toNat-48))/10=dN l' 0 by omega,show 48+(10*dN l' 0+(b.toNat-48))%10=b.toNat by omega,ofNat_byte (b:=b) rfl]
   rw[ih l' (by rw[List.length_append,List.length_singleton] at hl;omega) hd.1 h1 fun hz=> ?_]
   exfalso
   cases l' with
   |nil=>exact h1 rfl
   |cons x l'=>
    have:=hh (by simpa using hz)
    simp at this
theorem dec_facts(m:Nat):digB (Lib.decDigits m)=true∧dN (Lib.decDigits m) 0=m∧Lib.decDigits m≠[]∧((Lib.decDigits m).head? = some 48→m=0):=by
 induction m using Nat.strongRecOn with
 |ind m ih=>
  have hbyte: ∀d,d<10→(UInt8.ofNat (48+d)).toNat=48+d:=fun d hd=>by
   rw[UInt8.toNat_ofNat'];omega
  rw[Lib.decDigits]
  by_cases h:m<10
  ·rw[dif_pos h]
   refine⟨?_,?_,List.cons_ne_nil _ _,fun h0=> ?_⟩
   ·show(dgB _&&true)=true
    rw[dgB_iff.2 (by rw[hbyte m h];omega)];rfl
   ·show 10*0+((UInt8.ofNat (48+m)).toNat-48)=m
    rw[hbyte m h];omega
   ·have e:=Option.some.inj h0
    have:(UInt8.ofNat (48+m)).toNat=48:=by rw[e];rfl
    rw[hbyte m h] at this;omega
  ·rw[dif_neg h]
   obtain⟨i1,i2,i3,i4⟩:=ih (m/10) (by omega)
   refine⟨?_,?_,by simp,fun h0=> ?_⟩
   ·rw[digB_append,i1,Bool.true_and]
    show(dgB _&&true)=true
    rw[dgB_iff.2 (by rw[hbyte (m%10) (by omega)];omega)];rfl
   ·rw[dN_append,i2]
    show 10*(m/10)+((UInt8.ofNat (48+m%10)).toNat-48)=m
    rw[hbyte (m%10) (by omega)];omega
   ·exfalso
    have:(Lib.decDigits (m/10)).head? = some 48:=by
     cases hq:Lib.decDigits (m/10) with
     |nil=>exact absurd hq i3
     |cons x l=>rw[hq] at h0;simpa using h0
    have:=i4 this
    omega
theorem decFrom_dN: ∀{l:List UInt8} {n:Nat},digB l=true→Lib.decFrom n l=some (dN l n)
 |[],n,_=>rfl
 |b::l,n,h=>by
  unfold digB at h
  rw[Bool.and_eq_true] at h
  have hb:=dgB_iff.1 h.1
  have hv:Lib.digitVal b=some (b.toNat-48):=by unfold Lib.digitVal;rw[if_pos hb]
  unfold Lib.decFrom
  rw[hv]
  show Lib.decFrom (n*10+(b.toNat-48)) l=some (dN l (10*n+(b.toNat-48)))
  rw[decFrom_dN h.2,Nat.mul_comm]
theorem decNat_dN{l:List UInt8}(h:digB l=true)(h0:l≠[]):Lib.decNat l=some (dN l 0):=by
 unfold Lib.decNat
 rw[if_neg (by simpa using h0),decFrom_dN h]
theorem numB_iff{s:List UInt8}{d:Int}:numB s d=true↔s.length≠numAt s∧(s.length:Int)-numAt s≤d∧¬(s.getD (numAt s) 0=48∧1<s.length)∧digB (s.drop (numAt s))=true:=by
 unfold numB
 simp only[Bool.and_eq_true,Bool.not_eq_true',Bool.or_eq_false_iff,decide_eq_false_iff_not,Bool.and_eq_false_iff,beq_eq_false_iff_ne]
 constructor
 ·rintro ⟨⟨h1,h2,h3⟩,h4⟩
  exact⟨h1,by omega,fun h=>h3.elim (fun e=>e h.1) (fun e=>e h.2),h4⟩
 ·rintro ⟨h1,h2,h3,h4⟩
  refine⟨⟨h1,by omega,?_⟩,h4⟩
  by_cases e:s.getD (numAt s) 0=48
  ·exact .inr fun h=>h3 ⟨e,h⟩
  ·exact .inl e
theorem getD_head{l:List UInt8}(h:l≠[]):l.head? = some (l.getD 0 0):=by
 cases l with
 |nil=>exact absurd rfl h
 |cons x l=>rfl
theorem num_facts{s:List UInt8}(h:numB s 6=true):itoG (numV s 6)=s∧Lib.atoiAll s= .ok (numV s 6)∧(tpG s).length≤6∧ -1000000<numV s 6∧numV s 6<1000000:=by
 have hv:numV s 6=numW s:=by unfold numV;rw[h];rfl
 rw[hv]
 obtain⟨h1,h2,h3,h4⟩:=numB_iff.1 h
 match s,h1,h2,h3,h4 with
 |[],h1,_,_,_=>exact absurd rfl h1
 |b::r,h1,h2,h3,h4=>
  have hlt: ∀l:List UInt8,digB l=true→l.length≤6→dN l 0<1000000:=fun l hd hl=>by
   have e:=digN_dN (l:=l) (n:=0) hd
   have:=decFrom_dN (l:=l) (n:=0) hd
   have h5:=Lib.decFrom_lt l 0 _ this
   have h6:10^l.length≤10^6:=Nat.pow_le_pow_right (by decide) hl
   omega
  by_cases hb:b=45
  ·subst hb
   have ha:numAt (45::r)=1:=by simp[numAt]
   rw[ha] at h1 h2 h3 h4
   rw[show List.drop 1 (45::r)=r from rfl] at h4
   have hr:r≠[]:=by rintro rfl;exact h1 rfl
   have hrl:r.length≤6:=by simp only[List.length_cons] at h2;omega
   have hz:r.head? ≠ some 48:=by
    rw[getD_head hr]
    intro e
    have e2:=Option.some.inj e
    exact h3 ⟨e2,by have:=List.length_pos_iff.2 hr;simp only[List.length_cons];omega⟩
   have hdec:=dec_of r.length r rfl h4 hr fun e=>absurd e hz
   have hpos:1≤dN r 0:=by
    rcases Nat.eq_zero_or_pos (dN r 0) with e|e
    ·exfalso
     rw[e] at hdec
     apply hz
     rw[← hdec,dec_zero];rfl
    ·exact e
   have hw:numW (45::r)= -(dN r 0:Int):=by
    unfold numW
    rw[ha]
    show -digN r 0=_
    rw[show(0:Int)=((0:Nat):Int) from rfl,digN_dN h4]
   have hl:=hlt r h4 hrl
   refine⟨?_,?_,?_,by rw[hw];omega,by rw[hw];omega⟩
   ·rw[hw]
    unfold itoG Lib.itoa
    rw[if_pos (by omega),Int.natAbs_neg,Int.natAbs_natCast,hdec]
   ·rw[Lib.atoiAll_short _ (by simp only[List.length_cons];omega)]
    simp only[Lib.atoi,beq_self_eq_true,if_true]
    rw[decNat_dN h4 hr,hw];rfl
   ·unfold tpG Lib.trimPrefix
    rw[if_pos (by show(45==45&&List.isPrefixOf [] r)=true;simp)]
    exact hrl
  ·have ha:numAt (b::r)=0:=by
    unfold numAt
    rw[if_neg]
    simpa using hb
   rw[ha] at h1 h2 h3 h4
   rw[show List.drop 0 (b::r)=b::r from rfl] at h4
   have hrl:(b::r).length≤6:=by omega
   have hdec:=dec_of (b::r).length (b::r) rfl h4 (List.cons_ne_nil _ _) fun e=>by
    have e2:b=48:=Option.some.inj e
    by_cases hq:1<(b::r).length
    ·exact absurd ⟨e2,hq⟩ h3
    ·simp only[List.length_cons] at hq ⊢;omega
   have hw:numW (b::r)=(dN (b::r) 0:Int):=by
    unfold numW
    rw[ha]
    show digN (b::r) 0=_
    rw[show(0:Int)=((0:Nat):Int) from rfl,digN_dN h4]
   have hl:=hlt (b::r) h4 hrl
   have hbd:dgB b=true:=by
    unfold digB at h4
    rw[Bool.and_eq_true] at h4
    exact h4.1
   have hb43:b≠43:=by
    rintro rfl
    exact absurd hbd (by decide)
   refine⟨?_,?_,?_,by rw[hw];omega,by rw[hw];omega⟩
   ·rw[hw]
    unfold itoG Lib.itoa
    rw[if_neg (by omega),Int.toNat_natCast,hdec]
   ·rw[Lib.atoiAll_short _ (by omega)]
    have q1:(b==45)=false:=by simpa using hb
    have q2:(b==43)=false:=by simpa using hb43
    simp only[Lib.atoi,q1,q2,Bool.false_eq_true,if_false]
    rw[decNat_dN h4 (List.cons_ne_nil _ _),hw];rfl
   ·unfold tpG Lib.trimPrefix
    rw[if_neg (by show¬(45==b&&List.isPrefixOf [] r)=true;simp[Ne.symm hb])]
    exact hrl
theorem num_of{v:Int}{s:List UInt8}(he:itoG v=s)(hl:(tpG s).length≤6):numB s 6=true∧numV s 6=v:=by
 have key:numB s 6=true→numW s=v→numB s 6=true∧numV s 6=v:=fun h1 h2=>⟨h1,by unfold numV;rw[h1];exact h2⟩
 unfold itoG Lib.itoa at he
 by_cases hv:v<0
 ·rw[if_pos hv] at he
  obtain⟨f1,f2,f3,f4⟩:=dec_facts v.natAbs
  generalize Lib.decDigits v.natAbs=l at *
  subst he
  have ha:numAt (45::l)=1:=by simp[numAt]
  have ht:tpG (45::l)=l:=by
   unfold tpG Lib.trimPrefix
   rw[if_pos (by show(45==45&&List.isPrefixOf [] l)=true;simp)];rfl
  rw[ht] at hl
  refine key (numB_iff.2 ⟨?_,?_,?_,?_⟩) ?_
  ·rw[ha]
   have:=List.length_pos_iff.2 f3
   simp only[List.length_cons];omega
  ·rw[ha];simp only[List.length_cons];omega
  ·rw[ha]
   rintro ⟨e,_⟩
   have:=f4 (by rw[getD_head f3];exact congrArg some e)
   omega
  ·rw[ha];exact f1
  ·unfold numW
   rw[ha]
   show -digN l 0=v
   rw[show(0:Int)=((0:Nat):Int) from rfl,digN_dN f1,f2]
   omega
 ·rw[if_neg hv] at he
  obtain⟨f1,f2,f3,f4⟩:=dec_facts v.toNat
  have hs1:v.toNat=0→Lib.decDigits v.toNat=[48]:=fun e=>by rw[e,dec_zero]
  generalize Lib.decDigits v.toNat=l at *
  subst he
  cases l with
  |nil=>exact absurd rfl f3
  |cons b r=>
   have hbd:dgB b=true:=by
    unfold digB at f1
    rw[Bool.and_eq_true] at f1
    exact f1.1
   have hb:b≠45:=by
    rintro rfl
    exact absurd hbd (by decide)
   have ha:numAt (b::r)=0:=by
    unfold numAt
    rw[if_neg]
    simpa using hb
   have ht:tpG (b::r)=b::r:=by
    unfold tpG Lib.trimPrefix
    rw[if_neg (by show¬(45==b&&List.isPrefixOf [] r)=true;simp[Ne.symm hb])]
   rw[ht] at hl
   refine key (numB_iff.2 ⟨?_,?_,?_,?_⟩) ?_
   ·rw[ha];simp
   ·rw[ha];omega
   ·rw[ha]
    rintro ⟨e,h1⟩
    have e2:b=48:=e
    have:=hs1 (f4 (by rw[e2];rfl))
    rw[this] at h1
    exact absurd h1 (by decide)
   ·rw[ha];exact f1
   ·unfold numW
    rw[ha]
    show digN (b::r) 0=v
    rw[show(0:Int)=((0:Nat):Int) from rfl,digN_dN f1,f2]
    omega
def nmB(s:List UInt8)(below:Bool):Bool:=atoB s&&(itoG (atoV s)==s&&((below||decide (atoV s≥0))&&decide (((tpG s).length:Int)≤6)))
theorem nmB_eq(s:List UInt8)(below:Bool):nmB s below=(numB s 6&&(below||decide (numV s 6≥0))):=by
 cases h:numB s 6 with
 |true=>
  obtain⟨h1,h2,h3,h4,h5⟩:=num_facts h
  have hb:atoB s=true:=by unfold atoB;rw[h2]
  have hv:atoV s=numV s 6:=by unfold atoV;rw[h2]
  unfold nmB
  rw[hb,hv,h1,decide_eq_true (show((tpG s).length:Int)≤6 by omega)]
  simp
 |false=>
  rw[Bool.false_and,Bool.eq_false_iff]
  intro hn
  unfold nmB at hn
  simp only[Bool.and_eq_true,decide_eq_true_eq] at hn
  obtain⟨_,h2,_,h4⟩:=hn
  have:=(num_of (eq_of_beq h2) (by omega)).1
  rw[h] at this
  cases this
theorem nmB_val{s:List UInt8}{below:Bool}(h:nmB s below=true):numB s 6=true∧atoV s=numV s 6∧(below=true∨0≤numV s 6):=by
 rw[nmB_eq,Bool.and_eq_true] at h
 obtain⟨h1,h2,h3,h4,h5⟩:=num_facts h.1
 refine⟨h.1,by unfold atoV;rw[h2],?_⟩
 have:=h.2
 rw[Bool.or_eq_true,decide_eq_true_eq] at this
 exact this.imp id id
end Go.Ev
namespace Go.Ev
open Go Go.Proofs
set_option maxRecDepth 20000
def strcutS:Spec:=fun args σ K=>match args,σ with
 |[.one (.str s),.one (.str [c])],[]=>s.length≤1000000∧K (.tup [.one (.str (bef c s)),.one (.str (aft c s)),.one (.bool (hasB c s))]) []
 |_,_=>False
def itoaS:Spec:=fun args σ K=>match args,σ with
 |[.one (.int .i64 n)],[]=>(-9223372036854775808≤n∧n≤9223372036854775807)∧K (.one (.str (itoG n))) []
 |_,_=>False
def atoiS:Spec:=fun args σ K=>match args,σ with
 |[.one (.str s)],[]=>s.length≤1000000∧K (.tup [.one (.int .i64 (atoV s)),.one (.ifc (atoB s))]) []
 |_,_=>False
def one1(s:List UInt8):List D:=[.str s]
def splitS:Spec:=fun args σ K=>match args,σ with
 |[.one (.str s),.one (.str [c])],[]=>s.length≤1000000∧K (.one (.data (.recs [.str] ((pcs c s).map one1)))) []
 |_,_=>False
def strG(d:List D):List UInt8:=(d.getD 0 (.int 0)).toStr
def joinG(c:UInt8)(l:List (List D)):List UInt8:=Lib.join (l.map strG) [c]
def joinS:Spec:=fun args σ K=>match args,σ with
 |[.one (.data (.recs [.str] l)),.one (.str [c])],[]=>(1≤l.length∧l.length≤1000∧(joinG c l).length≤140737488355328)∧K (.one (.str (joinG c l))) []
 |_,_=>False
def tpS:Spec:=fun args σ K=>match args,σ with
 |[.one (.str s),.one (.str [45])],[]=>K (.one (.str (tpG s))) []
 |_,_=>False
def numberS:Spec:=fun args σ K=>match args,σ with
 |[.one (.str s),.one (.bool b)],[]=>s.length≤1000000∧K (.tup [.one (.int .i64 (atoV s)),.one (.bool (nmB s b))]) []
 |_,_=>False
def decL:LSpec:=fun vs σ k=>match vs,σ with
 |[.one (.int .i64 n),.one (.str s),.one (.str g)],[]=>((digF n++s).length≤1000∧ -9223372036854775808≤n∧n≤9223372036854775807)∧k (.exit 0) [.one (.str (digF n++s)),.one (.str g)] []
 |_,_=>False
def decS:Spec:=fun args σ K=>match args,σ with
 |[.one (.int .i64 n)],[]=>(-9223372036854775808≤n∧n≤9223372036854775807)∧K (.one (.str (itoG n))) []
 |_,_=>False
noncomputable abbrev Edec:Env:=envOf Tryz.prog [(99,sizeS)] [(6,.spec [0,3,4] [3,4] decL)] 27 0
noncomputable abbrev Enmb:Env:=envOf Tryz.prog [(94,atoiS),(37,itoaS),(95,tpS)] [] 35 0
end Go.Ev
namespace Go.Ev
open Go Go.Proofs
set_option maxRecDepth 100000
theorem exdec(n:Int)(K:AV→List Blk→Prop):evFn Edec Tryz.f53 [.one (.int .i64 n)] [] K=(bif n==0 then K (.one (.str [(48:UInt8)])) [] else bif decide (n<0) then((digF n++[]).length≤1000∧(-9223372036854775808:Int)≤n∧n≤9223372036854775807)∧bif decide (1+(digF n++[]).length≤140737488355328) then K (.one (.str ((45:UInt8)::(digF n++[])))) [] else False else((digF n++[]).length≤1000∧(-9223372036854775808:Int)≤n∧n≤9223372036854775807)∧bif decide (0+(digF n++[]).length≤140737488355328) then K (.one (.str (digF n++[]))) [] else False):=by kernel_rfl
theorem exdecl0a(n:Int)(s g:List UInt8)(K:Ex→List AV→List Blk→Prop):evBody Edec (lb Tryz.f53 0) [0,3,4] [3,4] [.one (.int .i64 n),.one (.str s),.one (.str g)] [] K=(bif n != 0 then bif decide ([UInt8.ofNat (IntKind.u8.wrap (IntKind.i64.wrap (48+sizeG (n.tmod 10)))).toNat].length+s.length≤140737488355328) then K .normal [.one (.int .i64 (IntKind.i64.wrap (n.tdiv 10))),.one (.str (UInt8.ofNat (IntKind.u8.wrap (IntKind.i64.wrap (48+sizeG (n.tmod 10)))).toNat::s)),.one (.str g)] [] else False else K (.exit 0) [.one (.str s),.one (.str g)] []):=by kernel_rfl
theorem exnmb(s:List UInt8)(b:Bool)(K:AV→List Blk→Prop):evFn Enmb Tryz.f40 [.one (.str s),.one (.bool b)] [] K=(s.length≤1000000∧bif atoB s then((-9223372036854775808:Int)≤atoV s∧atoV s≤9223372036854775807)∧bif itoG (atoV s)==s then bif b then K (AV.tup [.one (.int .i64 (atoV s)),.one (.bool (decide ((↑(tpG s).length:Int)≤6)))]) [] else bif decide (atoV s≥0) then K (AV.tup [.one (.int .i64 (atoV s)),.one (.bool (decide ((↑(tpG s).length:Int)≤6)))]) [] else K (AV.tup [.one (.int .i64 (atoV s)),.one (.bool false)]) [] else K (AV.tup [.one (.int .i64 (atoV s)),.one (.bool false)]) [] else K (AV.tup [.one (.int .i64 (atoV s)),.one (.bool false)]) []):=by kernel_rfl
end Go.Ev
namespace Go.Ev
open Go Go.Proofs
set_option maxRecDepth 20000
def jnR:Bool→List Int→List UInt8
 |_,[]=>[]
 |f,x::r=>(bif f then[] else[32])++itoG x++jnR false r
def i64B(n:Int):Prop:= -9223372036854775808≤n∧n≤9223372036854775807
def jnL:LSpec:=fun vs σ k=>match vs,σ with
 |[.one (.data (.ints .i64 l)),.one (.str s),.one (.int .i64 i)],[]=>(l.length≤1000∧0≤i∧s.length≤22*i.toNat∧ ∀x ∈ l,i64B x)∧k (.exit 0) [.one (.str (s++jnR (i==0) (l.drop i.toNat)))] []
 |_,_=>False
def jnS:Spec:=fun args σ K=>match args,σ with
 |[.one (.data (.ints .i64 l))],[]=>(l.length≤1000∧ ∀x ∈ l,i64B x)∧K (.one (.str (jnR true l))) []
 |_,_=>False
def fldS:Spec:=fun args σ K=>match args,σ with
 |[.one (.ptr 0 1 0 0)],[.cells [.int .i64 c,.int .i64 ch,.int .i64 x0,.int .i64 x1,.int .i64 x2,.int .i64 x3,.int .i64 x4,.int .i64 x5,.int .i64 x6,.int .i64 x7,.int .i64 sm]]=>K (.tup [.one (.own 1 1),.one (.own 2 1)]) [.cells [.int .i64 c,.int .i64 ch,.int .i64 x0,.int .i64 x1,.int .i64 x2,.int .i64 x3,.int .i64 x4,.int .i64 x5,.int .i64 x6,.int .i64 x7,.int .i64 sm],.cells [.ptr 0 1 0 0,.ptr 0 1 0 1,.ptr 0 1 0 2,.ptr 0 1 1 2,.ptr 0 1 2 2,.ptr 0 1 3 2,.ptr 0 1 4 2,.ptr 0 1 5 2,.ptr 0 1 6 2,.ptr 0 1 7 2,.ptr 0 1 0 10],.row 4 (.recs [.bool] [[.bool false],[.bool false],[.bool true],[.bool true],[.bool true],[.bool true],[.bool true],[.bool true],[.bool true],[.bool true],[.bool false]])]
 |_,_=>False
def all64(l:List Int):Prop:= ∀x ∈ l,i64B x
def fmbG(l:List Int):List UInt8:=joinG 32 (l.map fun x=>[.str (itoG x)])
def fmbS:Spec:=fun args σ K=>match args,σ with
 |[.agg [.int .i64 c,.int .i64 ch,.int .i64 x0,.int .i64 x1,.int .i64 x2,.int .i64 x3,.int .i64 x4,.int .i64 x5,.int .i64 x6,.int .i64 x7,.int .i64 sm]],[]=>all64 [c,ch,x0,x1,x2,x3,x4,x5,x6,x7,sm]∧K (.one (.str (fmbG [c,ch,x0,x1,x2,x3,x4,x5,x6,x7,sm]))) []
 |_,_=>False
def pcI(s:List UInt8)(i:Nat):List UInt8:=(pcs 32 s).getD i []
def nbB(s:List UInt8)(i:Nat):Bool:=numB (pcI s i) 6&&(decide (2≤i)&&decide (i≤9)||decide (numV (pcI s i) 6≥0))
def nbV(s:List UInt8)(i:Nat):Int:=numV (pcI s i) 6
def nbA(s:List UInt8):Bool:=(pcs 32 s).length==11&&(nbB s 0&&(nbB s 1&&(nbB s 2&&(nbB s 3&&(nbB s 4&&(nbB s 5&&(nbB s 6&&(nbB s 7&&(nbB s 8&&(nbB s 9&&nbB s 10))))))))))
def pbE(s:List UInt8):Int:=bif nbA s then blockE (nbV s 0) (nbV s 1) [nbV s 2,nbV s 3,nbV s 4,nbV s 5,nbV s 6,nbV s 7,nbV s 8,nbV s 9] (nbV s 10) else 7
def pbV(s:List UInt8)(i:Nat):Int:=bif pbE s==0 then nbV s i else 0
def pabS:Spec:=fun args σ K=>match args,σ with
 |[.one (.str s)],[]=>s.length≤1000000∧K (.tup [.agg [.int .i64 (pbV s 0),.int .i64 (pbV s 1),.int .i64 (pbV s 2),.int .i64 (pbV s 3),.int .i64 (pbV s 4),.int .i64 (pbV s 5),.int .i64 (pbV s 6),.int .i64 (pbV s 7),.int .i64 (pbV s 8),.int .i64 (pbV s 9),.int .i64 (pbV s 10)],.one (.int .i64 (pbE s))]) []
 |_,_=>False
noncomputable abbrev Ejn:Env:=envOf Tryz.prog [(53,decS)] [(3,.spec [0,3,4] [3] jnL)] 23 0
noncomputable abbrev Efld:Env:=envOf Tryz.prog [] [(3,.unroll 9)] 41 1 [] [85]
noncomputable abbrev Efmb:Env:=envOf Tryz.prog [(36,fldS),(37,itoaS),(38,joinS)] [(4,.unroll 12)] 28 0 [] [85]
noncomputable abbrev Epab:Env:=envOf Tryz.prog [(36,fldS),(39,splitS),(40,numberS),(24,blockS)] [(7,.unroll 12)] 58 0 [] [85]
end Go.Ev
namespace Go.Ev
open Go Go.Proofs
set_option maxRecDepth 100000
theorem exjn(l:List Int)(K:AV→List Blk→Prop):evFn Ejn Tryz.f43 [.one (.data (.ints .i64 l))] [] K=((l.length≤1000∧(0:Int)≤(0:Int)∧0≤0∧ ∀(x:Int),x ∈ l→(-9223372036854775808:Int)≤x∧x≤9223372036854775807)∧K (.one (.str (jnR true l))) []):=by kernel_rfl
theorem exjnl0a(l:List Int)(s:List UInt8)(i:Int)(K:Ex→List AV→List Blk→Prop):evBody Ejn (lb Tryz.f43 0) [0,3,4] [3] [.one (.data (.ints .i64 l)),.one (.str s),.one (.int .i64 i)] [] K=(bif decide (i<(↑l.length:Int)) then bif decide (i>0) then bif decide (s.length+1≤140737488355328) then bif decide (0≤i)&&decide (i<(↑l.length:Int)) then bif decide (i.toNat+0<l.length) then((-9223372036854775808:Int)≤l.getD (i.toNat+0) 0∧l.getD (i.toNat+0) (0:Int)≤(9223372036854775807:Int))∧bif decide ((s++[(32:UInt8)]).length+(itoG (l.getD (i.toNat+0) 0)).length≤140737488355328) then K .normal [.one (.data (Row.ints .i64 l)),.one (.str (s++[(32:UInt8)]++itoG (l.getD (i.toNat+0) 0))),.one (.int .i64 (IntKind.i64.wrap (i+1)))] [] else False else False else False else False else bif decide (0≤i)&&decide (i<(↑l.length:Int)) then bif decide (i.toNat+0<l.length) then((-9223372036854775808:Int)≤l.getD (i.toNat+0) 0∧l.getD (i.toNat+0) (0:Int)≤(9223372036854775807:Int))∧bif decide (s.length+(itoG (l.getD (i.toNat+0) 0)).length≤140737488355328) then K .normal [.one (.data (Row.ints .i64 l)),.one (.str (s++itoG (l.getD (i.toNat+0) 0))),.one (.int .i64 (IntKind.i64.wrap (i+1)))] [] else False else False else False else K (.exit 0) [.one (.str s)] []):=by kernel_rfl
theorem exfld(c ch x0 x1 x2 x3 x4 x5 x6 x7 sm:Int)(K:AV→List Blk→Prop):evFn Efld Tryz.f36 [.one (.ptr 0 1 0 0)] [.cells [.int .i64 c,.int .i64 ch,.int .i64 x0,.int .i64 x1,.int .i64 x2,.int .i64 x3,.int .i64 x4,.int .i64 x5,.int .i64 x6,.int .i64 x7,.int .i64 sm]] K=((K (AV.tup [.one (.own 1 1),.one (.own 2 1)]) [Blk.cells [SV.int .i64 c,SV.int .i64 ch,SV.int .i64 x0,SV.int .i64 x1,SV.int .i64 x2,SV.int .i64 x3,SV.int .i64 x4,SV.int .i64 x5,SV.int .i64 x6,SV.int .i64 x7,SV.int .i64 sm],Blk.cells [SV.ptr 0 1 0 0,SV.ptr 0 1 0 1,SV.ptr 0 1 0 2,SV.ptr 0 1 1 2,SV.ptr 0 1 2 2,SV.ptr 0 1 3 2,SV.ptr 0 1 4 2,SV.ptr 0 1 5 2,SV.ptr 0 1 6 2,SV.ptr 0 1 7 2,SV.ptr 0 1 0 10],Blk.row 4 (Row.recs [CK.bool] [[D.bool false],[D.bool false],[D.bool true],[D.bool true],[D.bool true],[D.bool true],[D.bool true],[D.bool true],[D.bool true],[D.bool true],[D.bool false]])]∧K (AV.tup [.one (.own 1 1),.one (.own 2 1)]) [Blk.cells [SV.int .i64 c,SV.int .i64 ch,SV.int .i64 x0,SV.int .i64 x1,SV.int .i64 x2,SV.int .i64 x3,SV.int .i64 x4,SV.int .i64 x5,SV.int .i64 x6,SV.int .i64 x7,SV.int .i64 sm],Blk.cells [SV.ptr 0 1 0 0,SV.ptr 0 1 0 1,SV.ptr 0 1 0 2,SV.ptr 0 1 1 2,SV.ptr 0 1 2 2,SV.ptr 0 1 3 2,SV.ptr 0 1 4 2,SV.ptr 0 1 5 2,SV.ptr 0 1 6 2,SV.ptr 0 1 7 2,SV.ptr 0 1 0 10],Blk.row 4 (Row.recs [CK.bool] [[D.bool false],[D.bool false],[D.bool true],[D.bool true],[D.bool true],[D.bool true],[D.bool true],[D.bool true],[D.bool true],[D.bool true],[D.bool false]])])∧K (AV.tup [.one (.own 1 1),.one (.own 2 1)]) [Blk.cells [SV.int .i64 c,SV.int .i64 ch,SV.int .i64 x0,SV.int .i64 x1,SV.int .i64 x2,SV.int .i64 x3,SV.int .i64 x4,SV.int .i64 x5,SV.int .i64 x6,SV.int .i64 x7,SV.int .i64 sm],Blk.cells [SV.ptr 0 1 0 0,SV.ptr 0 1 0 1,SV.ptr 0 1 0 2,SV.ptr 0 1 1 2,SV.ptr 0 1 2 2,SV.ptr 0 1 3 2,SV.ptr 0 1 4 2,SV.ptr 0 1 5 2,SV.ptr 0 1 6 2,SV.ptr 0 1 7 2,SV.ptr 0 1 0 10],Blk.row 4 (Row.recs [CK.bool] [[D.bool false],[D.bool false],[D.bool true],[D.bool true],[D.bool true],[D.bool true],[D.bool true],[D.bool true],[D.bool true],[D.bool true],[D.bool false]])]):=by kernel_rfl
theorem exfmb(c ch x0 x1 x2 x3 x4 x5 x6 x7 sm:Int)(K:AV→List Blk→Prop):evFn Efmb Tryz.f7 [.agg [.int .i64 c,.int .i64 ch,.int .i64 x0,.int .i64 x1,.int .i64 x2,.int .i64 x3,.int .i64 x4,.int .i64 x5,.int .i64 x6,.int .i64 x7,.int .i64 sm]] [] K=(((-9223372036854775808:Int)≤c∧c≤9223372036854775807)∧((-9223372036854775808:Int)≤ch∧ch≤9223372036854775807)∧((-9223372036854775808:Int)≤x0∧x0≤9223372036854775807)∧((-9223372036854775808:Int)≤x1∧x1≤9223372036854775807)∧((-9223372036854775808:Int)≤x2∧x2≤9223372036854775807)∧((-9223372036854775808:Int)≤x3∧x3≤9223372036854775807)∧((-9223372036854775808:Int)≤x4∧x4≤9223372036854775807)∧((-9223372036854775808:Int)≤x5∧x5≤9223372036854775807)∧((-9223372036854775808:Int)≤x6∧x6≤9223372036854775807)∧((-9223372036854775808:Int)≤x7∧x7≤9223372036854775807)∧((-9223372036854775808:Int)≤sm∧sm≤9223372036854775807)∧(1≤[[D.str (itoG c)],[D.str (itoG ch)],[D.str (itoG x0)],[D.str (itoG x1)],[D.str (itoG x2)],[D.str (itoG x3)],[D.str (itoG x4)],[D.str (itoG x5)],[D.str (itoG x6)],[D.str (itoG x7)],[D.str (itoG sm)]].length∧[[D.str (itoG c)],[D.str (itoG ch)],[D.str (itoG x0)],[D.str (itoG x1)],[D.str (itoG x2)],[D.str (itoG x3)],[D.str (itoG x4)],[D.str (itoG x5)],[D.str (itoG x6)],[D.str (itoG x7)],[D.str (itoG sm)]].length≤1000∧(joinG (32:UInt8) [[D.str (itoG c)],[D.str (itoG ch)],[D.str (itoG x0)],[D.str (itoG x1)],[D.str (itoG x2)],[D.str (itoG x3)],[D.str (itoG x4)],[D.str (itoG x5)],[D.str (itoG x6)],[D.str (itoG x7)],[D.str (itoG sm)]]).length≤140737488355328)∧K (.one (.str (joinG (32:UInt8) [[D.str (itoG c)],[D.str (itoG ch)],[D.str (itoG x0)],[D.str (itoG x1)],[D.str (itoG x2)],[D.str (itoG x3)],[D.str (itoG x4)],[D.str (itoG x5)],[D.str (itoG x6)],[D.str (itoG x7)],[D.str (itoG sm)]]))) []):=by kernel_rfl
theorem expab(s:List UInt8)(K:AV→List Blk→Prop):evFn Epab Tryz.f8 [.one (.str s)] [] K=(s.length≤1000000∧bif (↑(List.map one1 (pcs (32:UInt8) s)).length:Int)!=(↑[SV.ptr [Blk.cells [SV.int .i64 0,SV.int .i64 0,SV.int .i64 0,SV.int .i64 0,SV.int .i64 0,SV.int .i64 0,SV.int .i64 0,SV.int .i64 0,SV.int .i64 0,SV.int .i64 0,SV.int .i64 0]].length 1 0 0,SV.ptr [Blk.cells [SV.int .i64 0,SV.int .i64 0,SV.int .i64 0,SV.int .i64 0,SV.int .i64 0,SV.int .i64 0,SV.int .i64 0,SV.int .i64 0,SV.int .i64 0,SV.int .i64 0,SV.int .i64 0]].length 1 0 1,SV.ptr [Blk.cells [SV.int .i64 0,SV.int .i64 0,SV.int .i64 0,SV.int .i64 0,SV.int .i64 0,SV.int .i64 0,SV.int .i64 0,SV.int .i64 0,SV.int .i64 0,SV.int .i64 0,SV.int .i64 0]].length 1 0 2,SV.ptr [Blk.cells [SV.int .i64 0,SV.int .i64 0,SV.int .i64 0,SV.int .i64 0,SV.int .i64 0,SV.int .i64 0,SV.int .i64 0,SV.int .i64 0,SV.int .i64 0,SV.int .i64 0,SV.int .i64 0]].length 1 1 2,SV.ptr [Blk.cells [SV.int .i64 0,SV.int .i64 0,SV.int .i64 0,SV.int .i64 0,SV.int .i64 0,SV.int .i64 0,SV.int .i64 0,SV.int .i64 0,SV.int .i64 0,SV.int .i64 0,SV.int .i64 0]].length 1 2 2,SV.ptr [Blk.cells [SV.int .i64 0,SV.int .i64 0,SV.int .i64 0,SV.int .i64 0,SV.int .i64 0,SV.int .i64 0,SV.int .i64 0,SV.int .i64 0,SV.int .i64 0,SV.int .i64 0,SV.int .i64 0]].length 1 3 2,SV.ptr [Blk.cells [SV.int .i64 0,SV.int .i64 0,SV.int .i64 0,SV.int .i64 0,SV.int .i64 0,SV.int .i64 0,SV.int .i64 0,SV.int .i64 0,SV.int .i64 0,SV.int .i64 0,SV.int .i64 0]].length 1 4 2,SV.ptr [Blk.cells [SV.int .i64 0,SV.int .i64 0,SV.int .i64 0,SV.int .i64 0,SV.int .i64 0,SV.int .i64 0,SV.int .i64 0,SV.int .i64 0,SV.int .i64 0,SV.int .i64 0,SV.int .i64 0]].length 1 5 2,SV.ptr [Blk.cells [SV.int .i64 0,SV.int .i64 0,SV.int .i64 0,SV.int .i64 0,SV.int .i64 0,SV.int .i64 0,SV.int .i64 0,SV.int .i64 0,SV.int .i64 0,SV.int .i64 0,SV.int .i64 0]].length 1 6 2,SV.ptr [Blk.cells [SV.int .i64 0,SV.int .i64 0,SV.int .i64 0,SV.int .i64 0,SV.int .i64 0,SV.int .i64 0,SV.int .i64 0,SV.int .i64 0,SV.int .i64 0,SV.int .i64 0,SV.int .i64 0]].length 1 7 2,SV.ptr [Blk.cells [SV.int .i64 0,SV.int .i64 0,SV.int .i64 0,SV.int .i64 0,SV.int .i64 0,SV.int .i64 0,SV.int .i64 0,SV.int .i64 0,SV.int .i64 0,SV.int .i64 0,SV.int .i64 0]].length 1 0 10].length:Int) then K (AV.tup [TV.agg [SV.int .i64 0,SV.int .i64 0,SV.int .i64 0,SV.int .i64 0,SV.int .i64 0,SV.int .i64 0,SV.int .i64 0,SV.int .i64 0,SV.int .i64 0,SV.int .i64 0,SV.int .i64 0],.one (.int .i64 7)]) [] else bif decide ((0:Int)≤(0:Int))&&decide (0<(↑(List.map one1 (pcs (32:UInt8) s)).length:Int)) then bif decide (0<1)&&decide (0<(List.map one1 (pcs (32:UInt8) s)).length) then(((List.map one1 (pcs (32:UInt8) s)).getD 0 []).getD 0 (D.int 0)).toStr.length≤1000000∧bif !nmB (((List.map one1 (pcs (32:UInt8) s)).getD 0 []).getD 0 (D.int 0)).toStr false then K (AV.tup [TV.agg [SV.int .i64 0,SV.int .i64 0,SV.int .i64 0,SV.int .i64 0,SV.int .i64 0,SV.int .i64 0,SV.int .i64 0,SV.int .i64 0,SV.int .i64 0,SV.int .i64 0,SV.int .i64 0],.one (.int .i64 7)]) [] else bif decide ((0:Int)≤(1:Int))&&decide (1<(↑(List.map one1 (pcs (32:UInt8) s)).length:Int)) then bif decide (0<1)&&decide (1<(List.map one1 (pcs (32:UInt8) s)).length) then(((List.map one1 (pcs (32:UInt8) s)).getD 1 []).getD 0 (D.int 0)).toStr.length≤1000000∧bif !nmB (((List.map one1 (pcs (32:UInt8) s)).getD 1 []).getD 0 (D.int 0)).toStr false then K (AV.tup [TV.agg [SV.int .i64 0,SV.int .i64 0,SV.int .i64 0,SV.int .i64 0,SV.int .i64 0,SV.int .i64 0,SV.int .i64 0,SV.int .i64 0,SV.int .i64 0,SV.int .i64 0,SV.int .i64 0],.one (.int .i64 7)]) [] else bif decide ((0:Int)≤(2:Int))&&decide (2<(↑(List.map one1 (pcs (32:UInt8) s)).length:Int)) then bif decide (0<1)&&decide (2<(List.map one1 (pcs (32:UInt8) s)).length) then(((List.map one1 (pcs (32:UInt8) s)).getD 2 []).getD 0 (D.int 0)).toStr.length≤1000000∧bif !nmB (((List.map one1 (pcs (32:UInt8) s)).getD 2 []).getD 0 (D.int 0)).toStr true then K (AV.tup [TV.agg [SV.int .i64 0,SV.int .i64 0,SV.int .i64 0,SV.int .i64 0,SV.int .i64 0,SV.int .i64 0,SV.int .i64 0,SV.int .i64 0,SV.int .i64 0,SV.int .i64 0,SV.int .i64 0],.one (.int .i64 7)]) [] else bif decide ((0:Int)≤(3:Int))&&decide (3<(↑(List.map one1 (pcs (32:UInt8) s)).length:Int)) then bif decide (0<1)&&decide (3<(List.map one1 (pcs (32:UInt8) s)).length) then(((List.map one1 (pcs (32:UInt8) s)).getD 3 []).getD 0 (D.int 0)).toStr.length≤1000000∧bif !nmB (((List.map one1 (pcs (32:UInt8) s)).getD 3 []).getD 0 (D.int 0)).toStr true then K (AV.tup [TV.agg [SV.int .i64 0,SV.int .i64 0,SV.int .i64 0,SV.int .i64 0,SV.int .i64 0,SV.int .i64 0,SV.int .i64 0,SV.int .i64 0,SV.int .i64 0,SV.int .i64 0,SV.int .i64 0],.one (.int .i64 7)]) [] else bif decide ((0:Int)≤(4:Int))&&decide (4<(↑(List.map one1 (pcs (32:UInt8) s)).length:Int)) then bif decide (0<1)&&decide (4<(List.map one1 (pcs (32:UInt8) s)).length) then(((List.map one1 (pcs (32:UInt8) s)).getD 4 []).getD 0 (D.int 0)).toStr.length≤1000000∧bif !nmB (((List.map one1 (pcs (32:UInt8) s)).getD 4 []).getD 0 (D.int 0)).toStr true then K (AV.tup [TV.agg [SV.int .i64 0,SV.int .i64 0,SV.int .i64 0,SV.int .i64 0,SV.int .i64 0,SV.int .i64 0,SV.int .i64 0,SV.int .i64 0,SV.int .i64 0,SV.int .i64 0,SV.int .i64 0],.one (.int .i64 7)]) [] else bif decide ((0:Int)≤(5:Int))&&decide (5<(↑(List.map one1 (pcs (32:UInt8) s)).length:Int)) then bif decide (0<1)&&decide (5<(List.map one1 (pcs (32:UInt8) s)).length) then(((List.map one1 (pcs (32:UInt8) s)).getD 5 []).getD 0 (D.int 0)).toStr.length≤1000000∧bif !nmB (((List.map one1 (pcs (32:UInt8) s)).getD 5 []).getD 0 (D.int 0)).toStr true then K (AV.tup [TV.agg [SV.int .i64 0,SV.int .i64 0,SV.int .i64 0,SV.int .i64 0,SV.int .i64 0,SV.int .i64 0,SV.int .i64 0,SV.int .i64 0,SV.int .i64 0,SV.int .i64 0,SV.int .i64 0],.one (.int .i64 7)]) [] else bif decide ((0:Int)≤(6:Int))&&decide (6<(↑(List.map one1 (pcs (32:UInt8) s)).length:Int)) then bif decide (0<1)&&decide (6<(List.map one1 (pcs (32:UInt8) s)).length) then(((List.map one1 (pcs (32:UInt8) s)).getD 6 []).getD 0 (D.int 0)).toStr.length≤1000000∧bif !nmB (((List.map one1 (pcs (32:UInt8) s)).getD 6 []).getD 0 (D.int 0)).toStr true then K (AV.tup [TV.agg [SV.int .i64 0,SV.int .i64 0,SV.int .i64 0,SV.int .i64 0,SV.int .i64 0,SV.int .i64 0,SV.int .i64 0,SV.int .i64 0,SV.int .i64 0,SV.int .i64 0,SV.int .i64 0],.one (.int .i64 7)]) [] else bif decide ((0:Int)≤(7:Int))&&decide (7<(↑(List.map one1 (pcs (32:UInt8) s)).length:Int)) then bif decide (0<1)&&decide (7<(List.map one1 (pcs (32:UInt8) s)).length) then(((List.map one1 (pcs (32:UInt8) s)).getD 7 []).getD 0 (D.int 0)).toStr.length≤1000000∧bif !nmB (((List.map one1 (pcs (32:UInt8) s)).getD 7 []).getD 0 (D.int 0)).toStr true then K (AV.tup [TV.agg [SV.int .i64 0,SV.int .i64 0,SV.int .i64 0,SV.int .i64 0,SV.int .i64 0,SV.int .i64 0,SV.int .i64 0,SV.int .i64 0,SV.int .i64 0,SV.int .i64 0,SV.int .i64 0],.one (.int .i64 7)]) [] else bif decide ((0:Int)≤(8:Int))&&decide (8<(↑(List.map one1 (pcs (32:UInt8) s)).length:Int)) then bif decide (0<1)&&decide (8<(List.map one1 (pcs (32:UInt8) s)).length) then(((List.map one1 (pcs (32:UInt8) s)).getD 8 []).getD 0 (D.int 0)).toStr.length≤1000000∧bif !nmB (((List.map one1 (pcs (32:UInt8) s)).getD 8 []).getD 0 (D.int 0)).toStr true then K (AV.tup [TV.agg [SV.int .i64 0,SV.int .i64 0,SV.int .i64 0,SV.int .i64 0,SV.int .i64 0,SV.int .i64 0,SV.int .i64 0,SV.int .i64 0,SV.int .i64 0,SV.int .i64 0,SV.int .i64 0],.one (.int .i64 7)]) [] else bif decide ((0:Int)≤(9:Int))&&decide (9<(↑(List.map one1 (pcs (32:UInt8) s)).length:Int)) then bif decide (0<1)&&decide (9<(List.map one1 (pcs (32:UInt8) s)).length) then(((List.map one1 (pcs (32:UInt8) s)).getD 9 []).getD 0 (D.int 0)).toStr.length≤1000000∧bif !nmB (((List.map one1 (pcs (32:UInt8) s)).getD 9 []).getD 0 (D.int 0)).toStr true then K (AV.tup [TV.agg [SV.int .i64 0,SV.int .i64 0,SV.int .i64 0,SV.int .i64 0,SV.int .i64 0,SV.int .i64 0,SV.int .i64 0,SV.int .i64 0,SV.int .i64 0,SV.int .i64 0,SV.int .i64 0],.one (.int .i64 7)]) [] else bif decide ((0:Int)≤(10:Int))&&decide (10<(↑(List.map one1 (pcs (32:UInt8) s)).length:Int)) then bif decide (0<1)&&decide (10<(List.map one1 (pcs (32:UInt8) s)).length) then(((List.map one1 (pcs (32:UInt8) s)).getD 10 []).getD 0 (D.int 0)).toStr.length≤1000000∧bif !nmB (((List.map one1 (pcs (32:UInt8) s)).getD 10 []).getD 0 (D.int 0)).toStr false then K (AV.tup [TV.agg [SV.int .i64 0,SV.int .i64 0,SV.int .i64 0,SV.int .i64 0,SV.int .i64 0,SV.int .i64 0,SV.int .i64 0,SV.int .i64 0,SV.int .i64 0,SV.int .i64 0,SV.int .i64 0],.one (.int .i64 7)]) [] else bif blockE (atoV (((List.map one1 (pcs (32:UInt8) s)).getD 0 []).getD 0 (D.int 0)).toStr) (atoV (((List.map one1 (pcs (32:UInt8) s)).getD 1 []).getD 0 (D.int 0)).toStr) [atoV (((List.map one1 (pcs (32:UInt8) s)).getD 2 []).getD 0 (D.int 0)).toStr,atoV (((List.map one1 (pcs (32:UInt8) s)).getD 3 []).getD 0 (D.int 0)).toStr,atoV (((List.map one1 (pcs (32:UInt8) s)).getD 4 []).getD 0 (D.int 0)).toStr,atoV (((List.map one1 (pcs (32:UInt8) s)).getD 5 []).getD 0 (D.int 0)).toStr,atoV (((List.map one1 (pcs (32:UInt8) s)).getD 6 []).getD 0 (D.int 0)).toStr,atoV (((List.map one1 (pcs (32:UInt8) s)).getD 7 []).getD 0 (D.int 0)).toStr,atoV (((List.map one1 (pcs (32:UInt8) s)).getD 8 []).getD 0 (D.int 0)).toStr,atoV (((List.map one1 (pcs (32:UInt8) s)).getD 9 []).getD 0 (D.int 0)).toStr] (atoV (((List.map one1 (pcs (32:UInt8) s)).getD 10 []).getD 0 (D.int 0)).toStr)!=0 then K (AV.tup [TV.agg [SV.int .i64 0,SV.int .i64 0,SV.int .i64 0,SV.int .i64 0,SV.int .i64 0,SV.int .i64 0,SV.int .i64 0,SV.int .i64 0,SV.int .i64 0,SV.int .i64 0,SV.int .i64 0],.one (.int .i64 (blockE (atoV (((List.map one1 (pcs (32:UInt8) s)).getD 0 []).getD 0 (D.int 0)).toStr) (atoV (((List.map one1 (pcs (32:UInt8) s)).getD 1 []).getD 0 (D.int 0)).toStr) [atoV (((List.map one1 (pcs (32:UInt8) s)).getD 2 []).getD 0 (D.int 0)).toStr,atoV (((List.map one1 (pcs (32:UInt8) s)).getD 3 []).getD 0 (D.int 0)).toStr,atoV (((List.map one1 (pcs (32:UInt8) s)).getD 4 []).getD 0 (D.int 0)).toStr,atoV (((List.map one1 (pcs (32:UInt8) s)).getD 5 []).getD 0 (D.int 0)).toStr,atoV (((List.map one1 (pcs (32:UInt8) s)).getD 6 []).getD 0 (D.int 0)).toStr,atoV (((List.map one1 (pcs (32:UInt8) s)).getD 7 []).getD 0 (D.int 0)).toStr,atoV (((List.map one1 (pcs (32:UInt8) s)).getD 8 []).getD 0 (D.int 0)).toStr,atoV (((List.map one1 (pcs (32:UInt8) s)).getD 9 []).getD 0 (D.int 0)).toStr] (atoV (((List.map one1 (pcs (32:UInt8) s)).getD 10 []).getD 0 (D.int 0)).toStr)))]) [] else K (AV.tup [TV.agg [SV.int .i64 (atoV (((List.map one1 (pcs (32:UInt8) s)).getD 0 []).getD 0 (D.int 0)).toStr),SV.int .i64 (atoV (((List.map one1 (pcs (32:UInt8) s)).getD 1 []).getD 0 (D.int 0)).toStr),SV.int .i64 (atoV (((List.map one1 (pcs (32:UInt8) s)).getD 2 []).getD 0 (D.int 0)).toStr),SV.int .i64 (atoV (((List.map one1 (pcs (32:UInt8) s)).getD 3 []).getD 0 (D.int 0)).toStr),SV.int .i64 (atoV (((List.map one1 (pcs (32:UInt8) s)).getD 4 []).getD 0 (D.int 0)).toStr),SV.int .i64 (atoV (((List.map one1 (pcs (32:UInt8) s)).getD 5 []).getD 0 (D.int 0)).toStr),SV.int .i64 (atoV (((List.map one1 (pcs (32:UInt8) s)).getD 6 []).getD 0 (D.int 0)).toStr),SV.int .i64 (atoV (((List.map one1 (pcs (32:UInt8) s)).getD 7 []).getD 0 (D.int 0)).toStr),SV.int .i64 (atoV (((List.map one1 (pcs (32:UInt8) s)).getD 8 []).getD 0 (D.int 0)).toStr),SV.int .i64 (atoV (((List.map one1 (pcs (32:UInt8) s)).getD 9 []).getD 0 (D.int 0)).toStr),SV.int .i64 (atoV (((List.map one1 (pcs (32:UInt8) s)).getD 10 []).getD 0 (D.int 0)).toStr)],.one (.int .i64 0)]) [] else False else False else False else False else False else False else False else False else False else False else False else False else False else False else False else False else False else False else False else False else False else False):=by kernel_rfl
end Go.Ev
namespace Go.Ev
open Go
variable [Glob]
structure Grows(w w':World):Prop where
 os:w'.os=w.os
 tape:w'.tape=w.tape
 output:w'.output=w.output
 size:w.heap.size≤w'.heap.size
 blk: ∀b,b<w.heap.size→w'.heap[b]? = w.heap[b]?
 shape: ∀b,b<w.heap.size→w'.shape? b=w.shape? b
theorem Grows.refl(w:World):Grows w w:=⟨rfl,rfl,rfl,Nat.le_refl _,fun _ _=>rfl,fun _ _=>rfl⟩
theorem Grows.trans{w w' w'':World}(h:Grows w w')(k:Grows w' w''):Grows w w'':= ⟨k.os.trans h.os,k.tape.trans h.tape,k.output.trans h.output,Nat.le_trans h.size k.size,fun b hb=>(k.blk b (Nat.lt_of_lt_of_le hb h.size)).trans (h.blk b hb),fun b hb=>(k.shape b (Nat.lt_of_lt_of_le hb h.size)).trans (h.shape b hb)⟩
theorem Grows.drewN(w:World)(n:Nat):Grows w (w.drewN n):=⟨rfl,rfl,rfl,Nat.le_refl _,fun _ _=>rfl,fun _ _=>rfl⟩
theorem Grows.grow(w:World)(os:Array Obj):Grows w (Go.Sort.grow w os):=by
 refine⟨rfl,rfl,rfl,?_,fun b hb=> ?_,fun b hb=> ?_⟩
 ·show w.heap.size≤(w.heap++os).size
  rw[Array.size_append];omega
 ·show(w.heap++os)[b]? = _
  rw[Array.getElem?_append_left hb]
 ·show(match (w.heap++os)[b]? with|_=>_)=_
  unfold World.shape?
  show _=_
  have:(Go.Sort.grow w os).heap[b]? = w.heap[b]? := by
   show(w.heap++os)[b]? = _
   rw[Array.getElem?_append_left hb]
  first|rw[this]|simp[this]
theorem SpecOK.lib {P : Program} {f : FuncId} {S : Spec} (hb : HasBody P f)
    (h : ∀ args σ K, S args σ K → σ = [] ∧ ∀ (m : Nat → Prop) (vals : List Value) (w : World), GlobOK m w → All2 (Den w m []) args vals →
      Calls P f vals.toArray w fun e w' => ∃ v a, e = .returned v ∧ K a [] ∧ Grows w w' ∧ Den w' m [] a v) : SpecOK P f S := by
  refine ⟨hb, fun args σ K hK F ρ vals w H hF ha => ?_⟩
  obtain ⟨rfl, hS⟩ := h args σ K hK
  have hρ : ρ = [] := List.length_eq_zero_iff.1 H.len
  subst hρ
  refine (hS (Mut F [] []) vals w H.glob ha).mono ?_
  rintro e w' ⟨v, a, h1, h2, g, hd⟩
  refine ⟨v, a, [], [], h1, h2, ?_, ⟨g.size, fun b hb _ => g.blk b hb, fun _ _ h => h, g.shape⟩, hd⟩
  exact { heap := ⟨rfl, fun id b g n h => by simp at h, fun id b g n k h => by simp at h, fun i j b b' g g' n n' k h => by simp at h, H.glob.keep ⟨g.size, fun b hb _ => g.blk b hb, fun _ _ h => h, g.shape⟩⟩,pre := ⟨[], rfl⟩, os := g.os, tape := g.tape, output := g.output, size := g.size, blk := fun b hb _ => g.blk b hb, shape := g.shape, fresh := fun g hg => (lmut_nil hg).elim, foreign := fun b hb => Nat.lt_of_lt_of_le (hF b hb).1 g.size, apart := fun g hg => (lmut_nil hg).elim }
theorem Grows.of_heap{w w':World}(h1:w'.os=w.os)(h2:w'.tape=w.tape)(h3:w'.output=w.output)(h4:w.heap.size≤w'.heap.size)(h5: ∀b,b<w.heap.size→w'.heap[b]? = w.heap[b]?):Grows w w':=by
 refine⟨h1,h2,h3,h4,h5,fun b hb=> ?_⟩
 unfold World.shape?
 rw[h5 b hb]
theorem Grows.of_below{w w':World}(h:RowKit.Below w.heap.size w w'):Grows w w':=Grows.of_heap h.os h.tape h.output h.size h.block
theorem SpecOK.lib2 {P : Program} {f : FuncId} {S : Spec} (hb : HasBody P f)
    (h : ∀ args σ K, S args σ K → σ = [] ∧ ∀ (m : Nat → Prop) (vals : List Value) (w : World), GlobOK m w → (∀ b, m b → b < w.heap.size) → All2 (Den w m []) args vals →
      Calls P f vals.toArray w fun e w' => ∃ v a, e = .returned v ∧ K a [] ∧ Grows w w' ∧ Den w' m [] a v) : SpecOK P f S := by
  refine ⟨hb, fun args σ K hK F ρ vals w H hF ha => ?_⟩
  obtain ⟨rfl, hS⟩ := h args σ K hK
  have hρ : ρ = [] := List.length_eq_zero_iff.1 H.len
  subst hρ
  refine (hS (Mut F [] []) vals w H.glob (fun b hb => hb.elim (fun h => (hF b h).1) fun h => (lmut_nil h).elim) ha).mono ?_
  rintro e w' ⟨v, a, h1, h2, g, hd⟩
  refine ⟨v, a, [], [], h1, h2, ?_, ⟨g.size, fun b hb _ => g.blk b hb, fun _ _ h => h, g.shape⟩, hd⟩
  exact { heap := ⟨rfl, fun id b g n h => by simp at h, fun id b g n k h => by simp at h, fun i j b b' g g' n n' k h => by simp at h, H.glob.keep ⟨g.size, fun b hb _ => g.blk b hb, fun _ _ h => h, g.shape⟩⟩,pre := ⟨[], rfl⟩, os := g.os, tape := g.tape, output := g.output, size := g.size, blk := fun b hb _ => g.blk b hb, shape := g.shape, fresh := fun g hg => (lmut_nil hg).elim, foreign := fun b hb => Nat.lt_of_lt_of_le (hF b hb).1 g.size, apart := fun g hg => (lmut_nil hg).elim }
end Go.Ev
