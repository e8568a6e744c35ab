/-
  Part of the proof that TopTransferMended holds.
-/
import Derived.Test.YtmailpnpjcpodaaGreatDoorT26
set_option linter.unusedVariables false
set_option linter.unusedSimpArgs false
set_option linter.unusedSectionVars false
namespace Go.Ev.Pl
open Go Go.Proofs Go.Ev
set_option maxRecDepth 20000
def fN(n:Nat)(k:Nat→Bool):Bool:=match n with|0=>k 0|m+1=>k (m+1)
theorem fN_eq(n:Nat)(k:Nat→Bool):fN n k=k n:=by cases n<;>rfl
def fL:List Nat→(List Nat→Bool)→Bool
 |[],k=>k []
 |x::l,k=>fN x fun y=>fL l fun m=>k (y::m)
theorem fL_eq: ∀(l:List Nat) (k:List Nat→Bool),fL l k=k l
 |[],_=>rfl
 |x::l,k=>by show fN x _=_;rw[fN_eq,fL_eq l]
def fM:List (List Nat)→(List (List Nat)→Bool)→Bool
 |[],k=>k []
 |x::l,k=>fL x fun y=>fM l fun m=>k (y::m)
theorem fM_eq: ∀(l:List (List Nat)) (k:List (List Nat)→Bool),fM l k=k l
 |[],_=>rfl
 |x::l,k=>by show fL x _=_;rw[fL_eq,fM_eq l]
def invN(a:Nat):Nat→Nat→(Nat→Bool)→Bool
 |0,out,k=>k out
 |c+1,out,k=>fN ((out*out%65537)*a%65537) fun o=>invN a c o k
def scN(R:List Nat)(s:Nat):List Nat:=R.map fun x=>x*s%65537
def elN:List Nat→List Nat→Nat→List Nat
 |p::P,r::R,b=>(r+(65537-b*p%65537))%65537::elN P R b
 |_,_,_=>[]
def othN(P:List Nat)(c:Nat):Nat→List (List Nat)→List (List Nat)
 |_,[]=>[]
 |r,R::l=>(bif r==c then P else elN P R (R.getD c 0))::othN P c (r+1) l
def pivN:Nat→Nat→List (List Nat)→Bool
 |0,_,_=>true
 |f+1,c,rows=>fN ((rows.getD c []).getD c 0) fun p=>bif p==0 then false else invN p 16 1 fun s=>fL (scN (rows.getD c []) s) fun P=>fM (othN P c 0 rows) fun rows'=>pivN f (c+1) rows'
def tabN:List Nat:=[0,1,32769,21846,49153,26215,10923,18725,57345,7282,45876,5958,38230,15124,42131,30584]
def incN(k:List Nat→Bool):Nat→Nat→Nat→List Nat→Bool
 |_,_,0,acc=>k acc
 |_,0,_+1,_=>true
 |a,m+1,n+1,acc=>incN k (a+1) m n (acc++[a])&&incN k (a+1) m (n+1) acc
def facN(L K:List Nat):List (List Nat):=K.map fun j=>L.map fun i=>tabN.getD (4+i-j) 0
def chkN(n:Nat):Bool:=incN (fun L=>fL L fun L=>incN (fun K=>fL K fun K=>fM (facN L K) fun M=>pivN n 0 M) 0 4 n []) 0 12 n []
theorem chk1:chkN 1=true:=by decide +kernel
theorem chk2:chkN 2=true:=by decide +kernel
theorem chk3:chkN 3=true:=by decide +kernel
theorem chk4:chkN 4=true:=by decide +kernel
def toR(R:List Nat):List Int:=R.map fun(x:Nat)=>(x:Int)
def toM(M:List (List Nat)):List (List Int):=M.map toR
theorem getD_toR(R:List Nat)(i:Nat):(toR R).getD i 0=((R.getD i 0:Nat):Int):=by
 unfold toR
 simp only[List.getD_eq_getElem?_getD,List.getElem?_map]
 cases R[i]?<;>rfl
theorem getD_toM(M:List (List Nat))(i:Nat):(toM M).getD i []=toR (M.getD i []):=by
 unfold toM
 simp only[List.getD_eq_getElem?_getD,List.getElem?_map]
 cases M[i]?<;>rfl
theorem invN_eq(a:Nat)(k:Nat→Bool): ∀(c out:Nat),invN a c out k=k (refInvG (a:Int) c (out:Int)).toNat
 |0,out=>by unfold invN refInvG;rw[Int.toNat_natCast]
 |c+1,out=>by
  show fN _ _=_
  rw[fN_eq,invN_eq a k c]
  have e:refInvG (a:Int) (c+1) (out:Int)=refInvG (a:Int) c (((out:Int)*(out:Int)).tmod 65537*(a:Int) |>.tmod 65537):=rfl
  rw[e]
  congr 3
theorem refInv_nn(a:Nat): ∀(c out:Nat),0≤refInvG (a:Int) c (out:Int)
 |0,out=>by unfold refInvG;omega
 |c+1,out=>by
  have:=refInv_nn a c ((out*out%65537)*a%65537)
  unfold refInvG
  exact this
theorem sc_nat(R:List Nat)(s:Nat):scR (toR R) (s:Int)=toR (scN R s):=by
 unfold scR toR scN
 rw[List.map_map,List.map_map]
 refine List.map_congr_left fun x _=> ?_
 show modG ((x:Int)*(s:Int))=((x*s%65537:Nat):Int)
 rw[modG_emod];omega
theorem el_nat: ∀(P R:List Nat) (b:Nat),elR (toR P) (toR R) (b:Int)=toR (elN P R b)
 |[],_,_=>rfl
 |_::_,[],_=>rfl
 |p::P,r::R,b=>by
  show modG ((r:Int)-modG ((b:Int)*(p:Int)))::elR (toR P) (toR R) (b:Int)=(((r+(65537-b*p%65537))%65537:Nat):Int)::toR (elN P R b)
  rw[el_nat P R b,modG_emod,modG_emod]
  congr 1
  have e:(b:Int)*(p:Int)=((b*p:Nat):Int):=by omega
  rw[e]
  generalize b*p=z
  omega
theorem oth_nat(P:List Nat)(c:Nat): ∀(l:List (List Nat)) (r:Nat),othN P c r l=(List.range l.length).map fun i=>bif (r+i)==c then P else elN P (l.getD i []) ((l.getD i []).getD c 0)
 |[],_=>rfl
 |R::l,r=>by
  unfold othN
  rw[oth_nat P c l (r+1),List.length_cons,List.range_succ_eq_map,List.map_cons,List.map_map]
  congr 1
  refine List.map_congr_left fun i _=> ?_
  show(bif (r+1+i)==c then P else _)=(bif (r+(i+1))==c then P else _)
  rw[show r+1+i=r+(i+1) by omega]
  rfl
theorem stp_nat(c:Nat)(M:List (List Nat))(s:Nat)(hs:invG ((M.getD c []).getD c 0:Nat)=(s:Int)):stp c (toM M)=toM (othN (scN (M.getD c []) s) c 0 M):=by
 unfold stp
 rw[oth_nat]
 unfold toM
 rw[List.length_map,List.map_map]
 refine List.map_congr_left fun i _=> ?_
 have e1: ∀i,(M.map toR).getD i []=toR (M.getD i []):=getD_toM M
 rw[e1,e1,getD_toR,getD_toR,hs,sc_nat,el_nat]
 show _=toR (bif (0+i)==c then _ else _)
 rw[Nat.zero_add]
 cases (i==c)<;>rfl
theorem elN_lt: ∀(P R:List Nat) (b:Nat),∀x ∈ elN P R b,x<65537
 |[],_,_=>by intro x hx;cases hx
 |_::_,[],_=>by intro x hx;cases hx
 |p::P,r::R,b=>by
  intro x hx
  unfold elN at hx
  rcases List.mem_cons.1 hx with h|h
  ·rw[h];exact Nat.mod_lt _ (by decide)
  ·exact elN_lt P R b x h
theorem scN_lt(R:List Nat)(s:Nat): ∀x ∈ scN R s,x<65537:=by
 intro x hx
 obtain⟨y,_,rfl⟩:=List.mem_map.1 hx
 exact Nat.mod_lt _ (by decide)
theorem oth_lt(P:List Nat)(hP: ∀x ∈ P,x<65537)(c:Nat): ∀(l:List (List Nat)) (r:Nat),∀R ∈ othN P c r l,∀x ∈ R,x<65537
 |[],_=>by intro R hR;cases hR
 |R0::l,r=>by
  intro R hR
  unfold othN at hR
  rcases List.mem_cons.1 hR with h|h
  ·rw[h]
   cases (r==c) with
   |true=>exact hP
   |false=>exact elN_lt P R0 _
  ·exact oth_lt P hP c l (r+1) R h
theorem getD_lt{M:List (List Nat)}(h: ∀R ∈ M,∀x ∈ R,x<65537)(i j:Nat):(M.getD i []).getD j 0<65537:=by
 simp only[List.getD_eq_getElem?_getD]
 cases hi:M[i]? with
 |none=>simp
 |some R=>
  simp only[Option.getD_some]
  cases hj:R[j]? with
  |none=>simp
  |some x=>exact h R (List.mem_of_getElem? hi) x (List.mem_of_getElem? hj)
theorem pivN_sound: ∀(f c:Nat) (M:List (List Nat)),(∀R ∈ M,∀x ∈ R,x<65537)→pivN f c M=true→pivF f c (toM M)
 |0,_,_,_,_=>trivial
 |f+1,c,M,hM,h=>by
  unfold pivN at h
  rw[fN_eq] at h
  have hlt:=getD_lt hM c c
  cases hp:((M.getD c []).getD c 0==0) with
  |true=>rw[hp] at h;cases h
  |false=>
   rw[hp,cond_false,invN_eq,fL_eq,fM_eq] at h
   have hr:invG (((M.getD c []).getD c 0:Nat):Int)=refInvG (((M.getD c []).getD c 0:Nat):Int) 16 1:=(inv_ref ⟨by omega,by omega⟩).1
   have hn:=refInv_nn ((M.getD c []).getD c 0) 16 1
   have hs:invG (((M.getD c []).getD c 0:Nat):Int)=(((refInvG (((M.getD c []).getD c 0:Nat):Int) 16 ((1:Nat):Int)).toNat:Nat):Int):=by
    rw[hr,Int.toNat_of_nonneg hn];rfl
   refine⟨?_,?_⟩
   ·rw[getD_toM,getD_toR]
    have:(M.getD c []).getD c 0≠0:=by simpa using hp
    omega
   ·rw[stp_nat c M _ hs]
    exact pivN_sound f (c+1) _ (oth_lt _ (scN_lt _ _) c M 0) h
theorem take_getD{R:List Int}{n c:Nat}(h:c<n):(R.take n).getD c 0=R.getD c 0:=by
 simp only[List.getD_eq_getElem?_getD,List.getElem?_take,if_pos h]
theorem map_take_getD(rows:List (List Int))(n i:Nat):(rows.map (List.take n)).getD i []=(rows.getD i []).take n:=by
 simp only[List.getD_eq_getElem?_getD,List.getElem?_map]
 cases rows[i]? with
 |none=>simp
 |some R=>rfl
theorem scR_take(R:List Int)(s:Int)(n:Nat):(scR R s).take n=scR (R.take n) s:=by
 unfold scR;rw[List.map_take]
theorem elR_take: ∀(P R:List Int) (b:Int) (n:Nat),(elR P R b).take n=elR (P.take n) (R.take n) b
 |_,_,_,0=>by simp[elR]
 |[],_,_,n+1=>rfl
 |_::_,[],_,n+1=>rfl
 |p::P,r::R,b,n+1=>by
  show modG _::(elR P R b).take n=modG _::elR (P.take n) (R.take n) b
  rw[elR_take P R b n]
theorem stp_take{n c:Nat}(h:c<n)(rows:List (List Int)):(stp c rows).map (List.take n)=stp c (rows.map (List.take n)):=by
 unfold stp
 rw[List.map_map,List.length_map]
 refine List.map_congr_left fun i _=> ?_
 rw[map_take_getD,map_take_getD,take_getD h,take_getD h]
 show(bif i==c then _ else _:List Int).take n=_
 cases (i==c) with
 |true=>exact scR_take _ _ _
 |false=>rw[cond_false,cond_false,elR_take,scR_take]
theorem pivF_take{n:Nat}: ∀(f c:Nat) (rows:List (List Int)),c+f≤n→pivF f c (rows.map (List.take n))→pivF f c rows
 |0,_,_,_,_=>trivial
 |f+1,c,rows,hc,h=>by
  obtain⟨h1,h2⟩:=h
  rw[map_take_getD,take_getD (by omega)] at h1
  rw[← stp_take (by omega)] at h2
  exact⟨h1,pivF_take f (c+1) _ (by omega) h2⟩
theorem inc_sound(k:List Nat→Bool): ∀(m a n:Nat) (acc:List Nat) (l:List Int),incN k a m n acc=true→lostF ((a:Int)+m) ((a:Int)-1) l=0→l.length=n→ ∃ln:List Nat,l=toR ln∧(∀x ∈ ln,x<a+m)∧k (acc++ln)=true
 |m,a,0,acc,l,h,hl,hn=>by
  refine⟨[],?_,by simp,?_⟩
  ·rw[List.length_eq_zero_iff.1 hn];rfl
  ·rw[List.append_nil]
   unfold incN at h
   exact h
 |0,a,n+1,acc,[],h,hl,hn=>by simp at hn
 |0,a,n+1,acc,x::l,h,hl,hn=>by
  unfold lostF withinG at hl
  have:((decide (0≤x)&&decide (x≤(a:Int)+(0:Nat)-1))&&decide (x>(a:Int)-1))=false:=by
   rw[Bool.eq_false_iff];intro hh;simp at hh;omega
  cases h1:(decide (0≤x)&&decide (x≤(a:Int)+(0:Nat)-1)) with
  |false=>rw[h1] at hl;simp at hl
  |true=>
   rw[h1,Bool.true_and] at this
   rw[h1,this] at hl;simp at hl
 |m+1,a,n+1,acc,[],h,hl,hn=>by simp at hn
 |m+1,a,n+1,acc,x::l,h,hl,hn=>by
  unfold incN at h
  rw[Bool.and_eq_true] at h
  have eb:(a:Int)+((m+1:Nat):Int)=((a+1:Nat):Int)+(m:Int):=by omega
  rw[eb] at hl
  by_cases hx:x=(a:Int)
  ·subst hx
   have hl2:lostF (((a+1:Nat):Int)+(m:Int)) (((a+1:Nat):Int)-1) l=0:=by
    unfold lostF withinG at hl
    rw[decide_eq_true (by omega:(0:Int)≤(a:Int)),decide_eq_true (by omega:(a:Int)≤((a+1:Nat):Int)+(m:Int)-1),decide_eq_true (by omega:(a:Int)>(a:Int)-1)] at hl
    have e2:((a+1:Nat):Int)-1=(a:Int):=by omega
    rw[e2];exact hl
   obtain⟨ln,h1,h2,h3⟩:=inc_sound k m (a+1) n (acc++[a]) l h.1 hl2 (by simpa using hn)
   refine⟨a::ln,by rw[h1];rfl,?_,?_⟩
   ·intro y hy
    rcases List.mem_cons.1 hy with e|e
    ·omega
    ·have:=h2 y e;omega
   ·rw[List.append_assoc] at h3;exact h3
  ·have hl2:lostF (((a+1:Nat):Int)+(m:Int)) (((a+1:Nat):Int)-1) (x::l)=0:=by
    unfold lostF at hl ⊢
    cases hw:withinG x 0 (((a+1:Nat):Int)+(m:Int)-1) with
    |false=>rw[hw] at hl;simp at hl
    |true=>
     rw[hw,cond_true] at hl
     rw[cond_true]
     cases hd:decide (x>(a:Int)-1) with
     |false=>rw[hd] at hl;simp at hl
     |true=>
      rw[hd,cond_true] at hl
      have:x>(a:Int)-1:=of_decide_eq_true hd
      rw[decide_eq_true (by omega:x>((a+1:Nat):Int)-1),cond_true]
      exact hl
   obtain⟨ln,h1,h2,h3⟩:=inc_sound k m (a+1) (n+1) acc (x::l) h.2 hl2 hn
   exact⟨ln,h1,fun y hy=>by have:=h2 y hy;omega,h3⟩
theorem tab_ok: ∀d:Fin 16,d.val≠0→refInvG ((d.val:Nat):Int) 16 1=((tabN.getD d.val 0:Nat):Int):=by decide +kernel
theorem fac_tab{x y:Nat}(hx:x<12)(hy:y<4):facG (x:Int) (y:Int)=((tabN.getD (4+x-y) 0:Nat):Int):=by
 unfold facG
 have e:(4:Int)+(x:Int)-(y:Int)=((4+x-y:Nat):Int):=by omega
 rw[e]
 have h:=tab_ok ⟨4+x-y,by omega⟩ (by show 4+x-y≠0;omega)
 rw[modG_small (by omega) (by omega),(inv_ref ⟨by omega,by omega⟩).1]
 exact h
theorem tab_lt(d:Nat):tabN.getD d 0<65537:=by
 by_cases h:d<16
 ·have: ∀d:Fin 16,tabN.getD d.val 0<65537:=by decide
  exact this ⟨d,h⟩
 ·have:tabN.getD d 0=0:=by
   rw[List.getD_eq_getElem?_getD,List.getElem?_eq_none (by unfold tabN;simp;omega)];rfl
  omega
theorem fac_rows{ln kn:List Nat}(hl: ∀x ∈ ln,x<12)(hk: ∀y ∈ kn,y<4):(toR kn).map (facs (toR ln))=toM (facN ln kn):=by
 unfold toM facN facs toR
 rw[List.map_map,List.map_map]
 refine List.map_congr_left fun y hy=> ?_
 show(ln.map fun(x:Nat)=>(x:Int)).map (fun i=>facG i (y:Int))=(ln.map fun i=>tabN.getD (4+i-y) 0).map (fun(x:Nat)=>(x:Int))
 rw[List.map_map,List.map_map]
 refine List.map_congr_left fun x hx=> ?_
 exact fac_tab (hl x hx) (hk y hy)
theorem piv_ok{n:Nat}{L K:List Int}{rows:List (List Int)}(hn:1≤n∧n≤4)(hL:lostF 12 (-1) L=0)(hK:lostF 4 (-1) K=0)(lL:L.length=n)(lK:K.length=n)(hr:rows.map (List.take n)=K.map (facs L)):pivF n 0 rows:=by
 have hc:chkN n=true:=by
  have:n=1∨n=2∨n=3∨n=4:=by omega
  rcases this with rfl|rfl|rfl|rfl
  ·exact chk1
  ·exact chk2
  ·exact chk3
  ·exact chk4
 unfold chkN at hc
 obtain⟨ln,e1,b1,h1⟩:=inc_sound _ 12 0 n [] L hc hL lL
 rw[fL_eq,List.nil_append] at h1
 obtain⟨kn,e2,b2,h2⟩:=inc_sound _ 4 0 n [] K h1 hK lK
 rw[fL_eq,List.nil_append,fM_eq] at h2
 refine pivF_take (n:=n) n 0 rows (by omega) ?_
 rw[hr,e1,e2,fac_rows (fun x hx=>by have:=b1 x hx;omega) (fun y hy=>by have:=b2 y hy;omega)]
 refine pivN_sound n 0 _ ?_ h2
 intro R hR x hx
 obtain⟨y,_,rfl⟩:=List.mem_map.1 hR
 obtain⟨z,_,rfl⟩:=List.mem_map.1 hx
 exact tab_lt _
end Go.Ev.Pl
namespace Go.Ev.Pl
open Go Go.Proofs Go.Ev
set_option maxRecDepth 20000
def dotI:List Int→List Int→Int
 |r::R,y::Y=>r*y+dotI R Y
 |_,_=>0
theorem mod_add_mul(a b c:Int):(a%65537*c+b)%65537=(a*c+b)%65537:=by
 rw[Int.add_emod,Int.mul_emod,Int.emod_emod,← Int.mul_emod,← Int.add_emod]
theorem mod_cong{a b c d:Int}(h1:a%65537=b%65537)(h2:c%65537=d%65537):(a+c)%65537=(b+d)%65537:=by
 rw[Int.add_emod,h1,h2,← Int.add_emod]
theorem dot_sc: ∀(R Y:List Int) (s:Int),dotI (scR R s) Y%65537=(s*dotI R Y)%65537
 |[],Y,s=>by cases Y<;>simp[scR,dotI]
 |_::_,[],s=>by simp[scR,dotI]
 |r::R,y::Y,s=>by
  show(modG (r*s)*y+dotI (scR R s) Y)%65537=(s*(r*y+dotI R Y))%65537
  rw[modG_emod,mod_add_mul,Int.mul_add]
  refine mod_cong ?_ (dot_sc R Y s)
  rw[Int.mul_comm r s,Int.mul_assoc]
theorem dot_el: ∀(P R Y:List Int) (b:Int),P.length=R.length→dotI (elR P R b) Y%65537=(dotI R Y-b*dotI P Y)%65537
 |[],[],Y,b,_=>by cases Y<;>simp[elR,dotI]
 |p::P,r::R,[],b,_=>by simp[elR,dotI]
 |p::P,r::R,y::Y,b,h=>by
  show(modG (r-modG (b*p))*y+dotI (elR P R b) Y)%65537=(r*y+dotI R Y-b*(p*y+dotI P Y))%65537
  rw[modG_emod,modG_emod,mod_add_mul]
  have e:r*y+dotI R Y-b*(p*y+dotI P Y)=(r-b*p)*y+(dotI R Y-b*dotI P Y):=by
   rw[Int.mul_add,Int.sub_mul,Int.mul_assoc];omega
  rw[e]
  refine mod_cong ?_ (dot_el P R Y b (by simpa using h))
  rw[Int.mul_emod,Int.sub_emod_emod,← Int.mul_emod]
 |[],_::_,_,_,h=>by simp at h
 |_::_,[],_,_,h=>by simp at h
theorem stp_get{c r:Nat}{rows:List (List Int)}(h:r<rows.length):(stp c rows).getD r []=bif r==c then scR (rows.getD c []) (invG ((rows.getD c []).getD c 0)) else elR (scR (rows.getD c []) (invG ((rows.getD c []).getD c 0))) (rows.getD r []) ((rows.getD r []).getD c 0):=by
 unfold stp
 rw[List.getD_eq_getElem?_getD,List.getElem?_map,List.getElem?_range h]
 rfl
def Eqn(Y R:List Int):Prop:=dotI R Y%65537=0
theorem mul_mod0(s:Int){z:Int}(h:z%65537=0):(s*z)%65537=0:=by
 rw[Int.mul_emod,h];simp
theorem stp_eqn{c:Nat}{rows:List (List Int)}{Y:List Int}(hok:okSol rows)(hc:c<rows.length)(h: ∀r,r<rows.length→Eqn Y (rows.getD r []))(r:Nat)(hr:r<(stp c rows).length):Eqn Y ((stp c rows).getD r []):=by
 have hl:(stp c rows).length=rows.length:=by simp[stp]
 rw[hl] at hr
 have lc:(rows.getD c []).length=rows.length+1:=(hok _ (by rw[List.getD_eq_getElem?_getD,List.getElem?_eq_getElem hc];exact List.getElem_mem hc)).1
 have lr:(rows.getD r []).length=rows.length+1:=(hok _ (by rw[List.getD_eq_getElem?_getD,List.getElem?_eq_getElem hr];exact List.getElem_mem hr)).1
 rw[stp_get hr]
 unfold Eqn
 cases (r==c) with
 |true=>rw[cond_true,dot_sc];exact mul_mod0 _ (h c hc)
 |false=>
  rw[cond_false,dot_el _ _ _ _ (by unfold scR;rw[List.length_map,lc,lr]),Int.sub_emod,h r hr,Int.mul_emod,dot_sc,mul_mod0 _ (h c hc)]
  simp
def UnitTo(c:Nat)(rows:List (List Int)):Prop:= ∀d,d<c→ ∀r,r<rows.length→(rows.getD r []).getD d 0=if r=d then 1 else 0
theorem getD_sc(R:List Int)(s:Int)(i:Nat):(scR R s).getD i 0=if i<R.length then modG (R.getD i 0*s) else 0:=by
 unfold scR
 rw[List.getD_eq_getElem?_getD,List.getElem?_map]
 by_cases h:i<R.length
 ·rw[List.getD_eq_getElem?_getD,List.getElem?_eq_getElem h,if_pos h];rfl
 ·rw[List.getElem?_eq_none (by omega),if_neg h];rfl
theorem getD_el: ∀(P R:List Int) (b:Int) (i:Nat),P.length=R.length→i<R.length→(elR P R b).getD i 0=modG (R.getD i 0-modG (b*P.getD i 0))
 |[],[],_,i,_,h=>by simp at h
 |p::P,r::R,b,0,_,_=>rfl
 |p::P,r::R,b,i+1,h,hi=>by
  show(elR P R b).getD i 0=_
  rw[getD_el P R b i (by simpa using h) (by simpa using hi)]
  rfl
 |[],_::_,_,_,h,_=>by simp at h
 |_::_,[],_,_,h,_=>by simp at h
theorem resRow_get{R:List Int}(h:resRow R=true)(i:Nat):0≤R.getD i 0∧R.getD i 0<65537:=by
 by_cases hi:i<R.length
 ·rw[List.getD_eq_getElem?_getD,List.getElem?_eq_getElem hi]
  have:=List.all_eq_true.1 h _ (List.getElem_mem hi)
  unfold resG withinG at this
  simp at this ⊢
  omega
 ·rw[List.getD_eq_getElem?_getD,List.getElem?_eq_none (by omega)];simp
theorem stp_unit{c:Nat}{rows:List (List Int)}(hok:okSol rows)(hc:c<rows.length)(hp:(rows.getD c []).getD c 0≠0)(h:UnitTo c rows):UnitTo (c+1) (stp c rows):=by
 intro d hd r hr
 have hl:(stp c rows).length=rows.length:=by simp[stp]
 rw[hl] at hr
 have mem: ∀{i},i<rows.length→rows.getD i [] ∈ rows:=fun{i} hi=>by rw[List.getD_eq_getElem?_getD,List.getElem?_eq_getElem hi];exact List.getElem_mem hi
 obtain⟨lc,qc⟩:=hok _ (mem hc)
 obtain⟨lr,qr⟩:=hok _ (mem hr)
 obtain⟨p0,p1⟩:=resRow_get qc c
 obtain⟨m1,m2,m3⟩:=inv_mul (a:=(rows.getD c []).getD c 0) (by omega) p1
 rw[stp_get hr]
 have ls:(scR (rows.getD c []) (invG ((rows.getD c []).getD c 0))).length=rows.length+1:=by unfold scR;rw[List.length_map,lc]
 by_cases hrc:r=c
 ·subst hrc
  rw[beq_self_eq_true,cond_true,getD_sc,if_pos (by omega),modG_emod]
  by_cases hdr:d=r
  ·subst hdr
   rw[if_pos rfl];exact m1
  ·rw[h d (by omega) r hr,if_neg (fun e=>hdr e.symm)];simp
 ·have hb:(r==c)=false:=by simpa using hrc
  rw[hb,cond_false,getD_el _ _ _ _ (by rw[ls,lr]) (by omega),getD_sc,if_pos (by omega)]
  by_cases hdc:d=c
  ·subst hdc
   rw[modG_emod (_*invG _),m1,Int.mul_one,if_neg hrc]
   obtain⟨r0,r1⟩:=resRow_get qr d
   rw[modG_small r0 r1,Int.sub_self];decide
  ·rw[h d (by omega) c hc,if_neg (fun e=>hdc e.symm),Int.zero_mul]
   have z:modG 0=0:=by decide
   rw[z,Int.mul_zero,z,Int.sub_zero]
   obtain⟨r0,r1⟩:=resRow_get qr d
   rw[modG_small r0 r1]
   exact h d (by omega) r hr
theorem solF_unit(Y:List Int): ∀(f c:Nat) (rows:List (List Int)),okSol rows→c+f=rows.length→pivF f c rows→UnitTo c rows→(∀r,r<rows.length→Eqn Y (rows.getD r []))→UnitTo (c+f) (solF f c rows)∧(∀r,r<rows.length→Eqn Y ((solF f c rows).getD r []))
 |0,c,rows,hok,hc,hp,hu,he=>⟨hu,he⟩
 |f+1,c,rows,hok,hc,hp,hu,he=>by
  have hl:(stp c rows).length=rows.length:=by simp[stp]
  have h:=solF_unit Y f (c+1) (stp c rows) (stp_ok hok (by omega)) (by omega) hp.2 (stp_unit hok (by omega) hp.1 hu) (stp_eqn hok (by omega) he)
  rw[hl,show c+1+f=c+(f+1) by omega] at h
  exact h
theorem dot_unit: ∀(R x:List Int) (b:Int) (k r:Nat),R.length=x.length→(∀d,d<R.length→R.getD d 0=if r=k+d then 1 else 0)→dotI (R++[b]) (x++[-1])=(if k≤r∧r<k+R.length then x.getD (r-k) 0 else 0)-b
 |[],[],b,k,r,_,_=>by simp[dotI]
 |a::R,y::x,b,k,r,hl,h=>by
  show a*y+dotI (R++[b]) (x++[-1])=_
  have h0:a=if r=k+0 then 1 else 0:=h 0 (by simp)
  have hn: ∀d,d<R.length→R.getD d 0=if r=(k+1)+d then 1 else 0:=fun d hd=>by
   have:=h (d+1) (by simpa using hd)
   rw[show k+1+d=k+(d+1) by omega]
   exact this
  rw[dot_unit R x b (k+1) r (by simpa using hl) hn]
  by_cases hrk:r=k
  ·subst hrk
   rw[if_pos (by omega)] at h0
   rw[h0,if_neg (by omega),if_pos ⟨by omega,by simp⟩]
   simp
   omega
  ·rw[if_neg (by omega)] at h0
   rw[h0,Int.zero_mul,Int.zero_add]
   by_cases hin:k+1≤r∧r<k+1+R.length
   ·rw[if_pos hin,if_pos ⟨by omega,by rw[List.length_cons];omega⟩,show r-k=(r-(k+1))+1 by omega]
    rfl
   ·rw[if_neg hin,if_neg (by rw[List.length_cons];omega)]
 |[],_::_,_,_,_,h,_=>by simp at h
 |_::_,[],_,_,_,h,_=>by simp at h
theorem solV_eq{rows:List (List Int)}{x:List Int}(hok:okSol rows)(hp:pivF rows.length 0 rows)(hx:x.length=rows.length)(hr: ∀v ∈ x,0≤v∧v<65537)(he: ∀r,r<rows.length→Eqn (x++[-1]) (rows.getD r [])):solV rows=x:=by
 obtain⟨hu,hq⟩:=solF_unit (x++[-1]) rows.length 0 rows hok (by omega) hp (fun d hd=>by omega) he
 obtain⟨ho,hl⟩:=solF_ok rows.length 0 rows hok (by omega)
 unfold solV
 refine List.ext_getElem (by rw[List.length_map,hl,hx]) fun i h1 h2=> ?_
 have hi:i<rows.length:=by omega
 rw[List.getElem_map]
 have eg:(solF rows.length 0 rows)[i]'(by omega)=(solF rows.length 0 rows).getD i []:=by rw[List.getD_eq_getElem?_getD,List.getElem?_eq_getElem (by omega)];rfl
 rw[eg]
 have hm:(solF rows.length 0 rows).getD i [] ∈ solF rows.length 0 rows:=by rw[← eg];exact List.getElem_mem _
 obtain⟨lT,rT⟩:=ho _ hm
 rw[hl] at lT
 have hqi:=hq i hi
 have hui: ∀d,d<rows.length→((solF rows.length 0 rows).getD i []).getD d 0=if i=d then 1 else 0:=fun d hd=>hu d (by omega) i (by omega)
 generalize (solF rows.length 0 rows).getD i []=T at *
 have hT:T=T.take rows.length++[T.getD rows.length 0]:=by
  conv=>lhs;rw[← List.take_append_drop rows.length T]
  congr 1
  have hd:(T.drop rows.length).length=1:=by rw[List.length_drop];omega
  rw[List.getD_eq_getElem?_getD]
  match hz:T.drop rows.length,hd with
  |[z],_=>
   have:T[rows.length]? = (T.drop rows.length)[0]? := by rw[List.getElem?_drop];rfl
   rw[this,hz];rfl
 unfold Eqn at hqi
 rw[hT,dot_unit (T.take rows.length) x _ 0 i (by rw[List.length_take];omega) ?_] at hqi
 ·rw[List.length_take,if_pos ⟨by omega,by omega⟩,Nat.sub_zero] at hqi
  obtain⟨t0,t1⟩:=resRow_get rT rows.length
  have ex:x.getD i 0=x[i]'h2:=by rw[List.getD_eq_getElem?_getD,List.getElem?_eq_getElem h2];rfl
  rw[ex] at hqi
  obtain⟨x0,x1⟩:=hr _ (List.getElem_mem h2)
  omega
 ·intro d hd
  rw[List.length_take] at hd
  rw[Nat.zero_add,← hui d (by omega)]
  simp only[List.getD_eq_getElem?_getD,List.getElem?_take]
  rw[if_pos (by omega)]
end Go.Ev.Pl
namespace Go.Ev.Pl
open Go Go.Proofs Go.Ev
set_option maxRecDepth 20000
theorem lost_mem: ∀{L:List Int} {c last:Int},lostF c last L=0→ ∀x ∈ L,last<x∧0≤x∧x≤c-1
 |[],_,_,_=>by intro x hx;cases hx
 |y::L,c,last,h=>by
  unfold lostF withinG at h
  cases h1:(decide (0≤y)&&decide (y≤c-1)) with
  |false=>rw[h1] at h;simp at h
  |true=>
   rw[h1,cond_true] at h
   cases h2:decide (y>last) with
   |false=>rw[h2] at h;simp at h
   |true=>
    rw[h2,cond_true] at h
    have e2:=of_decide_eq_true h2
    rw[Bool.and_eq_true,decide_eq_true_eq,decide_eq_true_eq] at h1
    intro x hx
    rcases List.mem_cons.1 hx with e|e
    ·subst e;exact⟨e2,h1.1,h1.2⟩
    ·obtain⟨q1,q2,q3⟩:=lost_mem h x e
     exact⟨by omega,q2,q3⟩
theorem lost_tail{L:List Int}{c last y:Int}(h:lostF c last (y::L)=0):lostF c y L=0:=by
 unfold lostF at h
 cases h1:withinG y 0 (c-1) with
 |false=>rw[h1] at h;simp at h
 |true=>
  rw[h1,cond_true] at h
  cases h2:decide (y>last) with
  |false=>rw[h2] at h;simp at h
  |true=>rw[h2,cond_true] at h;exact h
theorem lost_last{L:List Int}{c last last':Int}(h:lostF c last L=0)(hm: ∀x ∈ L,last'<x):lostF c last' L=0:=by
 cases L with
 |nil=>rfl
 |cons y L=>
  have ht:=lost_tail h
  obtain⟨_,h2,h3⟩:=lost_mem h y (List.mem_cons_self ..)
  unfold lostF withinG
  rw[decide_eq_true h2,decide_eq_true h3,decide_eq_true (hm y (List.mem_cons_self ..))]
  exact ht
theorem memB_iff{v:Int}{l:List Int}:memB v l=true↔v ∈ l:=by
 unfold memB
 rw[List.any_eq_true]
 constructor
 ·rintro ⟨x,hx,e⟩
  rw[eq_of_beq e];exact hx
 ·intro h
  exact⟨v,h,beq_self_eq_true v⟩
theorem memB_no{v:Int}{l:List Int}(h:v ∉ l):memB v l=false:=by
 cases hb:memB v l with
 |false=>rfl
 |true=>exact absurd (memB_iff.1 hb) h
def sumP(ws:List Int)(j:Int)(a:Nat):Int→List (List Int)→Int
 |_,[]=>0
 |i,xs::l=>(bif memB i ws then 0 else facG i j*(xs.getD a 0+32768))+sumP ws j a (i+1) l
theorem parR_sum(ws:List Int)(j:Int)(a:Nat): ∀(l:List (List Int)) (out i:Int),parR ws j a out i l%65537=(out+sumP ws j a i l)%65537
 |[],out,i=>by simp[parR,sumP]
 |xs::l,out,i=>by
  unfold parR sumP
  rw[parR_sum ws j a l]
  cases memB i ws with
  |true=>simp
  |false=>
   rw[cond_false,cond_false,modG_emod,modG_emod,modG_emod]
   generalize facG i j=z
   generalize xs.getD a 0+32768=y
   generalize sumP ws j a (i+1) l=t
   rw[← Int.add_assoc]
   refine mod_cong ?_ rfl
   rw[Int.emod_emod]
   rw[Int.add_emod,Int.emod_emod,Int.mul_emod,Int.emod_emod,← Int.mul_emod,← Int.add_emod]
theorem parR_rng(ws:List Int)(j:Int)(a:Nat): ∀(l:List (List Int)) (out i:Int),(0≤out∧out<65537)→0≤parR ws j a out i l∧parR ws j a out i l<65537
 |[],out,i,h=>h
 |xs::l,out,i,h=>by
  unfold parR
  refine parR_rng ws j a l _ _ ?_
  cases memB i ws with
  |true=>exact h
  |false=>exact modG_range _
theorem sumP_skip{i0:Int}(L:List Int)(j:Int)(a:Nat): ∀(l:List (List Int)) (i:Int),i0<i→sumP (i0::L) j a i l=sumP L j a i l
 |[],_,_=>rfl
 |xs::l,i,h=>by
  unfold sumP
  rw[sumP_skip L j a l (i+1) (by omega)]
  have:memB i (i0::L)=memB i L:=by
   unfold memB
   rw[List.any_cons]
   have:(i==i0)=false:=by simp;omega
   rw[this,Bool.false_or]
  rw[this]
def colL(L:List Int)(i:Int)(a:Nat)(l:List (List Int)):List Int:=L.map fun k=>(l.getD (k-i).toNat []).getD a 0+32768
theorem colL_next{L:List Int}{i:Int}{a:Nat}{xs:List Int}{l:List (List Int)}(h: ∀x ∈ L,i<x):colL L i a (xs::l)=colL L (i+1) a l:=by
 unfold colL
 refine List.map_congr_left fun k hk=> ?_
 have:=h k hk
 rw[show(k-i).toNat=(k-(i+1)).toNat+1 by omega]
 rfl
theorem sum_split(j:Int)(a:Nat): ∀(l:List (List Int)) (i:Int) (L:List Int),lostF (i+l.length) (i-1) L=0→sumP [] j a i l=sumP L j a i l+dotI (facs L j) (colL L i a l)
 |l,i,[],_=>by
  unfold facs colL
  rw[List.map_nil,List.map_nil]
  unfold dotI
  omega
 |[],i,x::L,h=>by
  obtain⟨h1,h2,h3⟩:=lost_mem h x (List.mem_cons_self ..)
  simp at h3;omega
 |xs::l,i,x::L,h=>by
  obtain⟨h1,h2,h3⟩:=lost_mem h x (List.mem_cons_self ..)
  have el:i+((xs::l).length:Int)=(i+1)+(l.length:Int):=by rw[List.length_cons];omega
  rw[el] at h
  by_cases hx:x=i
  ·subst hx
   have ht:=lost_tail h
   have hm:=lost_mem ht
   have ih:=sum_split j a l (x+1) L (by rw[show x+1-1=x by omega];exact ht)
   have m1:memB x (x::L)=true:=memB_iff.2 (List.mem_cons_self ..)
   have m2:memB x []=false:=rfl
   unfold sumP
   rw[m1,m2,cond_true,cond_false,sumP_skip L j a l (x+1) (by omega),ih]
   have ec:colL (x::L) x a (xs::l)=(xs.getD a 0+32768)::colL L (x+1) a l:=by
    rw[← colL_next (xs:=xs) (fun y hy=>(hm y hy).1)]
    unfold colL
    rw[List.map_cons,Int.sub_self]
    rfl
   rw[ec]
   show _=0+sumP L j a (x+1) l+(facG x j*(xs.getD a 0+32768)+dotI (facs L j) (colL L (x+1) a l))
   omega
  ·have hm:=lost_mem h
   have hgt: ∀y ∈ x::L,i<y:=by
    intro y hy
    rcases List.mem_cons.1 hy with e|e
    ·subst e;omega
    ·have:=(lost_mem (lost_tail h) y e).1;omega
   have ih:=sum_split j a l (i+1) (x::L) (lost_last h (fun y hy=>by have:=hgt y hy;omega))
   have m1:memB i (x::L)=false:=memB_no fun hi=>by have:=hgt i hi;omega
   have m2:memB i []=false:=rfl
   unfold sumP
   rw[m1,m2,cond_false,ih,colL_next hgt]
   omega
theorem sumP_same{L:List Int}(j:Int)(a:Nat): ∀(l l':List (List Int)) (i:Int),l.length=l'.length→(∀k:Nat,memB (i+k) L=false→(l.getD k []).getD a 0=(l'.getD k []).getD a 0)→sumP L j a i l=sumP L j a i l'
 |[],[],_,_,_=>rfl
 |xs::l,ys::l',i,hl,h=>by
  unfold sumP
  rw[sumP_same j a l l' (i+1) (by simpa using hl) (fun k hk=>by
   have:=h (k+1) (by rw[show i+((k+1:Nat):Int)=i+1+(k:Int) by omega];exact hk)
   exact this)]
  cases hb:memB i L with
  |true=>rfl
  |false=>
   have:=h 0 (by rw[show i+((0:Nat):Int)=i by omega];exact hb)
   have e:xs.getD a 0=ys.getD a 0:=this
   rw[e]
 |[],_::_,_,h,_=>by simp at h
 |_::_,[],_,h,_=>by simp at h
theorem dot_append: ∀(R x:List Int) (b:Int),R.length=x.length→dotI (R++[b]) (x++[-1])=dotI R x-b
 |[],[],b,_=>by simp[dotI]
 |r::R,y::x,b,h=>by
  show r*y+dotI (R++[b]) (x++[-1])=r*y+dotI R x-b
  rw[dot_append R x b (by simpa using h)];omega
 |[],_::_,_,h=>by simp at h
 |_::_,[],_,h=>by simp at h
theorem sol_rows{L K x:List Int}(c:Int→Int)(hn:1≤L.length∧L.length≤4)(hL:lostF 12 (-1) L=0)(hK:lostF 4 (-1) K=0)(lK:K.length=L.length)(hc: ∀j ∈ K,0≤c j∧c j<65537)(lx:x.length=L.length)(hx: ∀v ∈ x,0≤v∧v<65537)
  (he: ∀j ∈ K,(dotI (facs L j) x-c j)%65537=0):solV (K.map fun j=>facs L j++[c j])=x:=by
 have lf: ∀j,(facs L j).length=L.length:=fun j=>List.length_map _
 have lr:(K.map fun j=>facs L j++[c j]).length=L.length:=by rw[List.length_map,lK]
 refine solV_eq ?_ ?_ (by rw[lr,lx]) hx ?_
 ·intro R hR
  obtain⟨j,hj,rfl⟩:=List.mem_map.1 hR
  refine⟨by rw[lr,List.length_append,lf];rfl,?_⟩
  unfold resRow
  rw[List.all_append,Bool.and_eq_true]
  refine⟨List.all_eq_true.2 fun z hz=> ?_,?_⟩
  ·obtain⟨i,_,rfl⟩:=List.mem_map.1 hz
   exact resG_iff.2 (facG_range i j)
  ·rw[List.all_cons,resG_iff.2 (hc j hj)];rfl
 ·rw[lr]
  refine piv_ok hn hL hK rfl lK ?_
  rw[List.map_map]
  refine List.map_congr_left fun j _=> ?_
  show(facs L j++[c j]).take L.length=facs L j
  rw[← lf j,List.take_left']
  rfl
 ·intro r hr
  rw[lr] at hr
  have hr2:r<K.length:=by omega
  have e:(K.map fun j=>facs L j++[c j]).getD r []=facs L K[r]++[c K[r]]:=by
   rw[List.getD_eq_getElem?_getD,List.getElem?_map,List.getElem?_eq_getElem hr2];rfl
  rw[e]
  unfold Eqn
  rw[dot_append _ _ _ (by rw[lf,lx])]
  exact he _ (List.getElem_mem hr2)
theorem colL_len(L:List Int)(i:Int)(a:Nat)(l:List (List Int)):(colL L i a l).length=L.length:=List.length_map _
def sameOut(L:List Int)(O O':List (List Int)):Prop:=O.length=O'.length∧ ∀k:Nat,memB (k:Int) L=false→O.getD k []=O'.getD k []
theorem par_eqn{O D P:List (List Int)}{L:List Int}{j:Int}{a:Nat}(hL:lostF D.length (-1) L=0)(hs:sameOut L O D)(hp:(P.getD j.toNat []).getD a 0=parR [] j a 0 0 O):(dotI (facs L j) (colL L 0 a O)-rhsF D P L j a)%65537=0:=by
 unfold rhsF
 have h1:=parR_sum [] j a O 0 0
 have h2:=parR_sum L j a D 0 0
 have h3:=sum_split j a O 0 L (by rw[Int.zero_add,hs.1];exact hL)
 have h4:=sumP_same (L:=L) j a O D 0 hs.1 (fun k hk=>by rw[Int.zero_add] at hk;rw[hs.2 k hk])
 rw[modG_emod,modG_emod,hp]
 omega
theorem getD_set{O:List (List Int)}{i k:Nat}{x:List Int}(h:i<O.length):(O.set i x).getD k []=if k=i then x else O.getD k []:=by
 simp only[List.getD_eq_getElem?_getD,List.getElem?_set]
 by_cases e:i=k
 ·subst e;simp[h]
 ·rw[if_neg e,if_neg (fun q=>e q.symm)]
theorem putF_len: ∀(L V:List Int) (a:Nat) (O:List (List Int)),(putF O a L V).length=O.length
 |[],_,_,_=>by simp[putF]
 |_::_,[],_,_=>by simp[putF]
 |i::L,v::V,a,O=>by unfold putF;rw[putF_len L V a,List.length_set]
theorem putF_out: ∀(L V:List Int) (a:Nat) (O:List (List Int)),(∀x ∈ L,0≤x∧x<O.length)→ ∀k:Nat,memB (k:Int) L=false→(putF O a L V).getD k []=O.getD k []
 |[],_,_,_,_,_,_=>by simp[putF]
 |_::_,[],_,_,_,_,_=>by simp[putF]
 |i::L,v::V,a,O,hi,k,hk=>by
  unfold putF
  have h0:=hi i (List.mem_cons_self ..)
  have hk2:memB (k:Int) L=false∧(k:Int)≠i:=by
   unfold memB at hk ⊢
   rw[List.any_cons,Bool.or_eq_false_iff] at hk
   exact⟨hk.2,by simpa using hk.1⟩
  rw[putF_out L V a _ (fun x hx=>by rw[List.length_set];exact hi x (List.mem_cons_of_mem _ hx)) k hk2.1,getD_set (by omega),if_neg (by have:=hk2.2;omega)]
theorem putF_in(T:List (List Int)): ∀(L:List Int) (a:Nat) (O:List (List Int)),(∀x ∈ L,0≤x∧x<O.length)→ ∀k:Nat,memB (k:Int) L=true→(putF O a L (colL L 0 a T)).getD k []=(O.getD k []).set a ((T.getD k []).getD a 0)
 |[],_,_,_,_,hk=>by cases hk
 |i::L,a,O,hi,k,hk=>by
  have h0:=hi i (List.mem_cons_self ..)
  have ev:(T.getD (i-0).toNat []).getD a 0+32768-32768=(T.getD i.toNat []).getD a 0:=by rw[Int.sub_zero];omega
  show(putF (O.set i.toNat ((O.getD i.toNat []).set a ((T.getD (i-0).toNat []).getD a 0+32768-32768))) a L (colL L 0 a T)).getD k []=_
  rw[ev]
  have hi2: ∀x ∈ L,0≤x∧x<((O.set i.toNat ((O.getD i.toNat []).set a ((T.getD i.toNat []).getD a 0))).length:Int):=fun x hx=>by rw[List.length_set];exact hi x (List.mem_cons_of_mem _ hx)
  cases hb:memB (k:Int) L with
  |true=>
   rw[putF_in T L a _ hi2 k hb,getD_set (by omega)]
   by_cases e:k=i.toNat
   ·rw[if_pos e,e,List.set_set]
   ·rw[if_neg e]
  |false=>
   have e:k=i.toNat:=by
    have:=memB_iff.1 hk
    rcases List.mem_cons.1 this with h|h
    ·omega
    ·rw[memB_iff.2 h] at hb;cases hb
   rw[putF_out L _ a _ hi2 k hb,getD_set (by omega),if_pos e,e]
theorem len8_set{x:List Int}(a:Nat)(v:Int)(h:len8 x=true):len8 (x.set a v)=true:=by unfold len8 at h ⊢;rw[List.length_set];exact h
theorem putF_len8: ∀(L V:List Int) (a:Nat) (O:List (List Int)),O.all len8=true→(∀x ∈ L,0≤x∧x<O.length)→(putF O a L V).all len8=true
 |[],_,_,_,h,_=>by simpa [putF] using h
 |_::_,[],_,_,h,_=>by simpa [putF] using h
 |i::L,v::V,a,O,h,hi=>by
  unfold putF
  have h0:=hi i (List.mem_cons_self ..)
  refine putF_len8 L V a _ ?_ (fun x hx=>by rw[List.length_set];exact hi x (List.mem_cons_of_mem _ hx))
  rw[List.all_eq_true]
  intro x hx
  rcases List.mem_or_eq_of_mem_set hx with e|e
  ·exact List.all_eq_true.1 h x e
  ·rw[e]
   refine len8_set _ _ (List.all_eq_true.1 h _ ?_)
   rw[List.getD_eq_getElem?_getD,List.getElem?_eq_getElem (by omega)]
   exact List.getElem_mem _
theorem resF_out{D P:List (List Int)}{L K:List Int}: ∀(f a:Nat) (O:List (List Int)),(∀x ∈ L,0≤x∧x<O.length)→sameOut L (resF D P L K f a O) O
 |0,_,_,_=>⟨rfl,fun _ _=>rfl⟩
 |f+1,a,O,hi=>by
  have h:=resF_out (D:=D) (P:=P) (L:=L) (K:=K) f (a+1) (putF O a L (solV (eqsF D P L K a))) (fun x hx=>by rw[putF_len];exact hi x hx)
  exact⟨by show(resF D P L K f (a+1) _).length=_;rw[h.1,putF_len],fun k hk=>by show(resF D P L K f (a+1) _).getD k []=_;rw[h.2 k hk,putF_out _ _ _ _ hi k hk]⟩
theorem resF_len8{D P:List (List Int)}{L K:List Int}: ∀(f a:Nat) (O:List (List Int)),O.all len8=true→(∀x ∈ L,0≤x∧x<O.length)→(resF D P L K f a O).all len8=true
 |0,_,_,h,_=>h
 |f+1,a,O,h,hi=>resF_len8 f (a+1) _ (putF_len8 _ _ _ _ h hi) (fun x hx=>by rw[putF_len];exact hi x hx)
theorem getD_elem{R:List Int}{b:Nat}(h:b<R.length):R.getD b 0=R[b]:=by rw[List.getD_eq_getElem?_getD,List.getElem?_eq_getElem h];rfl
theorem getD_set1{R:List Int}{a b:Nat}{v:Int}(h:a<R.length):(R.set a v).getD b 0=if b=a then v else R.getD b 0:=by
 simp only[List.getD_eq_getElem?_getD,List.getElem?_set]
 by_cases e:a=b
 ·subst e;simp[h]
 ·rw[if_neg e,if_neg (fun q=>e q.symm)]
theorem row_len{O:List (List Int)}(h:O.all len8=true){k:Nat}(hk:k<O.length):(O.getD k []).length=8:=by
 have:=List.all_eq_true.1 h (O.getD k []) (by rw[List.getD_eq_getElem?_getD,List.getElem?_eq_getElem hk];exact List.getElem_mem hk)
 simpa [len8] using this
theorem resF_in{D P T:List (List Int)}{L K:List Int}(hsol: ∀a,a<8→solV (eqsF D P L K a)=colL L 0 a T)(hT:T.all len8=true)(hi: ∀x ∈ L,0≤x∧x<T.length):
  ∀(f a:Nat) (O:List (List Int)),a+f=8→sameOut L O T→O.all len8=true→(∀k:Nat,memB (k:Int) L=true→ ∀b,b<a→(O.getD k []).getD b 0=(T.getD k []).getD b 0)→resF D P L K f a O=T
 |0,a,O,ha,hs,h8,hb=>by
  show O=T
  refine List.ext_getElem hs.1 fun k h1 h2=> ?_
  have e1:O[k]=O.getD k []:=by rw[List.getD_eq_getElem?_getD,List.getElem?_eq_getElem h1];rfl
  have e2:T[k]=T.getD k []:=by rw[List.getD_eq_getElem?_getD,List.getElem?_eq_getElem h2];rfl
  rw[e1,e2]
  cases hm:memB (k:Int) L with
  |false=>exact hs.2 k hm
  |true=>
   have l1:=row_len h8 h1
   have l2:=row_len hT h2
   refine List.ext_getElem (by omega) fun b q1 q2=> ?_
   have:=hb k hm b (by omega)
   rw[getD_elem q1,getD_elem q2] at this
   exact this
 |f+1,a,O,ha,hs,h8,hb=>by
  have hiO: ∀x ∈ L,0≤x∧x<(O.length:Int):=fun x hx=>by rw[hs.1];exact hi x hx
  show resF D P L K f (a+1) (putF O a L (solV (eqsF D P L K a)))=T
  rw[hsol a (by omega)]
  refine resF_in hsol hT hi f (a+1) _ (by omega) ⟨by rw[putF_len];exact hs.1,fun k hk=>by rw[putF_out _ _ _ _ hiO k hk];exact hs.2 k hk⟩ (putF_len8 _ _ _ _ h8 hiO) ?_
  intro k hk b hba
  rw[putF_in T L a O hiO k hk]
  have hkl:k<O.length:=by
   have:=(hiO _ (memB_iff.1 hk)).2;omega
  have l1:=row_len h8 hkl
  rw[getD_set1 (by omega)]
  by_cases e:b=a
  ·rw[if_pos e,e]
  ·rw[if_neg e]
   exact hb k hk b (by omega)
theorem rhsF_rng(D P:List (List Int))(L:List Int)(j:Int)(a:Nat):0≤rhsF D P L j a∧rhsF D P L j a<65537:=modG_range _
theorem colL_rng{L:List Int}{a:Nat}{T:List (List Int)}(hT:T.all okRow=true)(hi: ∀x ∈ L,0≤x∧x<T.length): ∀v ∈ colL L 0 a T,0≤v∧v<65537:=by
 intro v hv
 obtain⟨k,hk,rfl⟩:=List.mem_map.1 hv
 obtain⟨k0,k1⟩:=hi k hk
 have:=okRow_get (List.all_eq_true.1 hT (T.getD (k-0).toNat []) (by rw[List.getD_eq_getElem?_getD,List.getElem?_eq_getElem (by omega)];exact List.getElem_mem _)) a
 omega
theorem lost_take{L:List Int}: ∀{c last:Int} (n:Nat),lostF c last L=0→lostF c last (L.take n)=0:=by
 induction L with
 |nil=>intro c last n _;simp[lostF]
 |cons y L ih=>
  intro c last n h
  cases n with
  |zero=>simp[lostF]
  |succ n=>
   have ht:=lost_tail h
   obtain⟨h1,h2,h3⟩:=lost_mem h y (List.mem_cons_self ..)
   show lostF c last (y::L.take n)=0
   unfold lostF withinG
   rw[decide_eq_true h2,decide_eq_true h3,decide_eq_true (show y>last from h1)]
   exact ih n ht
theorem lost_wider{L:List Int}: ∀{c c' last:Int},c≤c'→lostF c last L=0→lostF c' last L=0:=by
 induction L with
 |nil=>intro c c' last _ _;rfl
 |cons y L ih=>
  intro c c' last hc h
  have ht:=lost_tail h
  obtain⟨h1,h2,h3⟩:=lost_mem h y (List.mem_cons_self ..)
  unfold lostF withinG
  rw[decide_eq_true h2,decide_eq_true (show y≤c'-1 by omega),decide_eq_true (show y>last from h1)]
  exact ih hc ht
theorem eqs_sol{D P T:List (List Int)}{L K:List Int}{a:Nat}(hn:1≤L.length∧L.length≤4)(hD:D.length≤12)(hL:lostF D.length (-1) L=0)(hK:lostF 4 (-1) K=0)(lK:K.length=L.length)(hs:sameOut L T D)(hT:T.all okRow=true)(hp: ∀j ∈ K,(P.getD j.toNat []).getD a 0=parR [] j a 0 0 T):solV (K.map fun j=>eqR D P L j a)=colL L 0 a T:=by
 have hm:=lost_mem hL
 have hi: ∀x ∈ L,0≤x∧x<(T.length:Int):=fun x hx=>by have:=hm x hx;rw[hs.1];omega
 exact sol_rows (c:=fun j=>rhsF D P L j a) hn (lost_wider (by omega) hL) hK lK (fun j _=>rhsF_rng D P L j a) (colL_len L 0 a T) (colL_rng hT hi) fun j hj=>par_eqn hL hs (hp j hj)
theorem restored_eq{D P T:List (List Int)}{L K:List Int}(hn:1≤L.length∧L.length≤4)(hD:D.length≤12)(hL:lostF D.length (-1) L=0)(hK:lostF 4 (-1) K=0)(lK:L.length≤K.length)(hs:sameOut L D T)(h8:D.all len8=true)(hT8:T.all len8=true)(hT:T.all okRow=true)(hp: ∀j ∈ K,∀a,a<8→(P.getD j.toNat []).getD a 0=parR [] j a 0 0 T):resF D P L K 8 0 D=T:=by
 have hs':sameOut L T D:=⟨hs.1.symm,fun k hk=>(hs.2 k hk).symm⟩
 have hm:=lost_mem hL
 have hi: ∀x ∈ L,0≤x∧x<(T.length:Int):=fun x hx=>by have:=hm x hx;rw[← hs.1];omega
 refine resF_in (fun a ha=> ?_) hT8 hi 8 0 D rfl hs h8 (fun k hk b hb=>by omega)
 exact eqs_sol hn hD hL (lost_take _ hK) (by rw[List.length_take];omega) hs' hT fun j hj=>hp j (List.mem_of_mem_take hj) a ha
end Go.Ev.Pl
