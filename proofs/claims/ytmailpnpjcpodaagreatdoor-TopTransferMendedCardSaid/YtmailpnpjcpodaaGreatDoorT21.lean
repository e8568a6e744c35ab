/-
  Part of the proof that TopTransferMended holds.
-/
import Derived.Test.YtmailpnpjcpodaaGreatDoorT20
set_option linter.unusedVariables false
set_option linter.unusedSimpArgs false
set_option linter.unusedSectionVars false
namespace Go.Ev
open Go Go.Proofs
set_option maxRecDepth 100000
theorem exkd(l:List (List Int))(P:Program)(J:GJ)(D:Nat→Prop)(L:List (List AV))(K:AV→List Blk→Prop):evFn Ekd Tryz.f129 [.one (.yld 0),.one (.ptr 1 1 0 0)] [.ghost P J D (some L),.cells [.data (.mat .i64 11 l)]] K=((P=Tryz.prog∧(↑l.length:Int)=(↑l.length:Int)∧okBs l∧l.all conB=true∧(0:Int)≤(0:Int)∧0≤(↑l.length:Int)∧ ∃N,(↑N.length:Int)≤0∧N.all len11=true∧[]=List.map entX N∧L=kdI N l)∧ ∀(D':Nat→Prop),K (AV.tup []) [Blk.ghost P J D' (some []),Blk.cells [SV.data (Row.mat .i64 11 l)]]∧K (AV.tup []) [Blk.ghost P J D' none,Blk.cells [SV.data (Row.mat .i64 11 l)]]):=by kernel_rfl
def exkda_x0(n i:Int)(l l':List (List Int))(M:List (List Int × List Int))(P:Program)(J:GJ)(D:Nat→Prop)(L:List (List AV))(K:Ex→List AV→List Blk→Prop):Prop:=(
 bif ahas M [(l.getD i.toNat []).getD (1:Nat) (0:Int),(l.getD i.toNat []).getD (0:Nat) (0:Int)] then
  P=Ekd.P∧
   (L=
     [AV.one (SV.int IntKind.i64 (2:Int)),AV.agg
        [SV.int IntKind.i64 ((l.getD i.toNat []).getD (0:Nat) (0:Int)),SV.int IntKind.i64 ((l.getD i.toNat []).getD (1:Nat) (0:Int)),SV.int IntKind.i64 ((l.getD i.toNat []).getD (2:Nat) (0:Int)),SV.int IntKind.i64 ((l.getD i.toNat []).getD (3:Nat) (0:Int)),SV.int IntKind.i64 ((l.getD i.toNat []).getD (4:Nat) (0:Int)),SV.int IntKind.i64 ((l.getD i.toNat []).getD (5:Nat) (0:Int)),SV.int IntKind.i64 ((l.getD i.toNat []).getD (6:Nat) (0:Int)),SV.int IntKind.i64 ((l.getD i.toNat []).getD (7:Nat) (0:Int)),SV.int IntKind.i64 ((l.getD i.toNat []).getD (8:Nat) (0:Int)),SV.int IntKind.i64 ((l.getD i.toNat []).getD (9:Nat) (0:Int)),SV.int IntKind.i64 ((l.getD i.toNat []).getD (10:Nat) (0:Int))]] ::
      match L with
      |[]=>[]
      |head :: tl0 => tl0)∧
    ∀(D':Nat→Prop),K Ex.normal
       [AV.one (SV.yld (0:Nat)),AV.one (SV.mapv (2:Nat)),AV.one (SV.data (Row.mat IntKind.i64 (11:Nat) l)),AV.one (SV.int IntKind.i64 n),AV.one (SV.int IntKind.i64 (IntKind.i64.wrap (i+(1:Int))))]
       [Blk.ghost P J D'
         (some
          (match L with
          |[]=>[]
          |head :: tl0 => tl0)),Blk.cells [SV.data (Row.mat IntKind.i64 (11:Nat) l')],Blk.map (2:Nat) (11:Nat) M]∧
      K Ex.ret [] [Blk.ghost P J D' none,Blk.cells [SV.data (Row.mat IntKind.i64 (11:Nat) l')]]
 else
  P=Ekd.P∧
   (L=
     [AV.one (SV.int IntKind.i64 (0:Int)),AV.agg
        [SV.int IntKind.i64 ((l.getD i.toNat []).getD (0:Nat) (0:Int)),SV.int IntKind.i64 ((l.getD i.toNat []).getD (1:Nat) (0:Int)),SV.int IntKind.i64 ((l.getD i.toNat []).getD (2:Nat) (0:Int)),SV.int IntKind.i64 ((l.getD i.toNat []).getD (3:Nat) (0:Int)),SV.int IntKind.i64 ((l.getD i.toNat []).getD (4:Nat) (0:Int)),SV.int IntKind.i64 ((l.getD i.toNat []).getD (5:Nat) (0:Int)),SV.int IntKind.i64 ((l.getD i.toNat []).getD (6:Nat) (0:Int)),SV.int IntKind.i64 ((l.getD i.toNat []).getD (7:Nat) (0:Int)),SV.int IntKind.i64 ((l.getD i.toNat []).getD (8:Nat) (0:Int)),SV.int IntKind.i64 ((l.getD i.toNat []).getD (9:Nat) (0:Int)),SV.int IntKind.i64 ((l.getD i.toNat []).getD (10:Nat) (0:Int))]] ::
      match L with
      |[]=>[]
      |head :: tl0 => tl0)∧
    ∀(D':Nat→Prop),K Ex.normal
       [AV.one (SV.yld (0:Nat)),AV.one (SV.mapv (2:Nat)),AV.one (SV.data (Row.mat IntKind.i64 (11:Nat) l)),AV.one (SV.int IntKind.i64 n),AV.one (SV.int IntKind.i64 (IntKind.i64.wrap (i+(1:Int))))]
       [Blk.ghost P J D'
         (some
          (match L with
          |[]=>[]
          |head :: tl0 => tl0)),Blk.cells [SV.data (Row.mat IntKind.i64 (11:Nat) l')],Blk.map (2:Nat) (11:Nat)
         (aset M [(l.getD i.toNat []).getD (1:Nat) (0:Int),(l.getD i.toNat []).getD (0:Nat) (0:Int)]
          [(l.getD i.toNat []).getD (0:Nat) (0:Int),(l.getD i.toNat []).getD (1:Nat) (0:Int),(l.getD i.toNat []).getD (2:Nat) (0:Int),(l.getD i.toNat []).getD (3:Nat) (0:Int),(l.getD i.toNat []).getD (4:Nat) (0:Int),(l.getD i.toNat []).getD (5:Nat) (0:Int),(l.getD i.toNat []).getD (6:Nat) (0:Int),(l.getD i.toNat []).getD (7:Nat) (0:Int),(l.getD i.toNat []).getD (8:Nat) (0:Int),(l.getD i.toNat []).getD (9:Nat) (0:Int),(l.getD i.toNat []).getD (10:Nat) (0:Int)])]∧
      K Ex.ret [] [Blk.ghost P J D' none,Blk.cells [SV.data (Row.mat IntKind.i64 (11:Nat) l')]])
theorem exkda(n i:Int)(l l':List (List Int))(M:List (List Int × List Int))(P:Program)(J:GJ)(D:Nat→Prop)(L:List (List AV))(K:Ex→List AV→List Blk→Prop):evBody Ekd (lb Tryz.f129 0) [0,3,11,12,13] [] [.one (.yld 0),.one (.mapv 2),.one (.data (.mat .i64 11 l)),.one (.int .i64 n),.one (.int .i64 i)] [.ghost P J D (some L),.cells [.data (.mat .i64 11 l')],.map 2 11 M] K=(bif decide (i<n) then bif decide (0≤i)&&decide (i<(↑l.length:Int)) then bif decide (10<11)&&decide (i.toNat<l.length) then contentG ((l.getD i.toNat []).getD 0 0) ((l.getD i.toNat []).getD 1 0) [(l.getD i.toNat []).getD 2 0,(l.getD i.toNat []).getD 3 0,(l.getD i.toNat []).getD 4 0,(l.getD i.toNat []).getD 5 0,(l.getD i.toNat []).getD 6 0,(l.getD i.toNat []).getD 7 0,(l.getD i.toNat []).getD 8 0,(l.getD i.toNat []).getD 9 0]=true∧bif (l.getD i.toNat []).getD 10 0 != sumG ((l.getD i.toNat []).getD 0 0) ((l.getD i.toNat []).getD 1 0) [(l.getD i.toNat []).getD 2 0,(l.getD i.toNat []).getD 3 0,(l.getD i.toNat []).getD 4 0,(l.getD i.toNat []).getD 5 0,(l.getD i.toNat []).getD 6 0,(l.getD i.toNat []).getD 7 0,(l.getD i.toNat []).getD 8 0,(l.getD i.toNat []).getD 9 0] then P=Ekd.P∧(L=[.one (.int .i64 3),AV.agg [SV.int .i64 ((l.getD i.toNat []).getD 0 0),SV.int .i64 ((l.getD i.toNat []).getD 1 0),SV.int .i64 ((l.getD i.toNat []).getD 2 0),SV.int .i64 ((l.getD i.toNat []).getD 3 0),SV.int .i64 ((l.getD i.toNat []).getD 4 0),SV.int .i64 ((l.getD i.toNat []).getD 5 0),SV.int .i64 ((l.getD i.toNat []).getD 6 0),SV.int .i64 ((l.getD i.toNat []).getD 7 0),SV.int .i64 ((l.getD i.toNat []).getD 8 0),SV.int .i64 ((l.getD i.toNat []).getD 9 0),SV.int .i64 ((l.getD i.toNat []).getD 10 0)]]::match L with|[]=>[]|head :: tl0 => tl0)∧ ∀(D':Nat→Prop),K .normal [.one (.yld 0),.one (.mapv 2),.one (.data (Row.mat .i64 11 l)),.one (.int .i64 n),.one (.int .i64 (IntKind.i64.wrap (i+1)))] [Blk.ghost P J D' (some (match L with|[]=>[]|head :: tl0 => tl0)),Blk.cells [SV.data (Row.mat .i64 11 l')],Blk.map 2 11 M]∧K .ret [] [Blk.ghost P J D' none,Blk.cells [SV.data (Row.mat .i64 11 l')]] else bif ahas M [(l.getD i.toNat []).getD 1 0,(l.getD i.toNat []).getD 0 0] then bif (agetD M [(l.getD i.toNat []).getD 1 0,(l.getD i.toNat []).getD 0 0]).getD 0 0==(l.getD i.toNat []).getD 0 0&&((agetD M [(l.getD i.toNat []).getD 1 0,(l.getD i.toNat []).getD 0 0]).getD 1 0==(l.getD i.toNat []).getD 1 0&&((agetD M [(l.getD i.toNat []).getD 1 0,(l.getD i.toNat []).getD 0 0]).getD 2 0==(l.getD i.toNat []).getD 2 0&&((agetD M [(l.getD i.toNat []).getD 1 0,(l.getD i.toNat []).getD 0 0]).getD 3 0==(l.getD i.toNat []).getD 3 0&&((agetD M [(l.getD i.toNat []).getD 1 0,(l.getD i.toNat []).getD 0 0]).getD 4 0==(l.getD i.toNat []).getD 4 0&&((agetD M [(l.getD i.toNat []).getD 1 0,(l.getD i.toNat []).getD 0 0]).getD 5 0==(l.getD i.toNat []).getD 5 0&&((agetD M [(l.getD i.toNat []).getD 1 0,(l.getD i.toNat []).getD 0 0]).getD 6 0==(l.getD i.toNat []).getD 6 0&&((agetD M [(l.getD i.toNat []).getD 1 0,(l.getD i.toNat []).getD 0 0]).getD 7 0==(l.getD i.toNat []).getD 7 0&&((agetD M [(l.getD i.toNat []).getD 1 0,(l.getD i.toNat []).getD 0 0]).getD 8 0==(l.getD i.toNat []).getD 8 0&&(agetD M [(l.getD i.toNat []).getD 1 0,(l.getD i.toNat []).getD 0 0]).getD 9 0==(l.getD i.toNat []).getD 9 0))))))&&(agetD M [(l.getD i.toNat []).getD 1 0,(l.getD i.toNat []).getD 0 0]).getD 10 0==(l.getD i.toNat []).getD 10 0)) then P=Ekd.P∧(L=[.one (.int .i64 1),AV.agg [SV.int .i64 ((l.getD i.toNat []).getD 0 0),SV.int .i64 ((l.getD i.toNat []).getD 1 0),SV.int .i64 ((l.getD i.toNat []).getD 2 0),SV.int .i64 ((l.getD i.toNat []).getD 3 0),SV.int .i64 ((l.getD i.toNat []).getD 4 0),SV.int .i64 ((l.getD i.toNat []).getD 5 0),SV.int .i64 ((l.getD i.toNat []).getD 6 0),SV.int .i64 ((l.getD i.toNat []).getD 7 0),SV.int .i64 ((l.getD i.toNat []).getD 8 0),SV.int .i64 ((l.getD i.toNat []).getD 9 0),SV.int .i64 ((l.getD i.toNat []).getD 10 0)]]::match L with|[]=>[]|head :: tl0 => tl0)∧ ∀(D':Nat→Prop),K .normal [.one (.yld 0),.one (.mapv 2),.one (.data (Row.mat .i64 11 l)),.one (.int .i64 n),.one (.int .i64 (IntKind.i64.wrap (i+1)))] [Blk.ghost P J D' (some (match L with|[]=>[]|head :: tl0 => tl0)),Blk.cells [SV.data (Row.mat .i64 11 l')],Blk.map 2 11 M]∧K .ret [] [Blk.ghost P J D' none,Blk.cells [SV.data (Row.mat .i64 11 l')]] else exkda_x0 n i l l' M P J D L K else exkda_x0 n i l l' M P J D L K else False else False else K (.exit 0) [] [Blk.ghost P J D (some L),Blk.cells [SV.data (Row.mat .i64 11 l')]]):=by kernel_rfl
theorem excpb(l:List (List Int))(K:AV→List Blk→Prop):evFn Ecpb Tryz.f28 [.one (.data (.mat .i64 11 l))] [] K=(bif decide (l.length*88≤140737488355328∧l.length≤140737488355328) then K (.one (.own 0 11)) [Blk.row 24 (Row.mat .i64 11 l)] else False):=by kernel_rfl
theorem exe11(l:List (List Int))(K:AV→List Blk→Prop):evFn Ee11 Tryz.f128 [.one (.data (.mat .i64 11 l)),.one (.func 88 [])] [] K=((okBs l∧(0:Int)≤(0:Int)∧(↑l.length:Int)=(↑l.length:Int))∧bif l.all conB then K (.one (.int .i64 0)) [] else K (.one (.int .i64 2)) []):=by kernel_rfl
theorem exe11l0a(l:List (List Int))(n i:Int)(K:Ex→List AV→List Blk→Prop):evBody Ee11 (lb Tryz.f128 0) [1,8,9,10] [4] [.one (.func 88 []),.one (.data (.mat .i64 11 l)),.one (.int .i64 n),.one (.int .i64 i)] [] K=(bif decide (i<n) then bif decide (0≤i)&&decide (i<(↑l.length:Int)) then bif decide (10<11)&&decide (i.toNat<l.length) then bif (bif contentG ((l.getD i.toNat []).getD 0 0) ((l.getD i.toNat []).getD 1 0) [(l.getD i.toNat []).getD 2 0,(l.getD i.toNat []).getD 3 0,(l.getD i.toNat []).getD 4 0,(l.getD i.toNat []).getD 5 0,(l.getD i.toNat []).getD 6 0,(l.getD i.toNat []).getD 7 0,(l.getD i.toNat []).getD 8 0,(l.getD i.toNat []).getD 9 0] then(0:Int) else(2:Int))!=0 then K .ret [.one (.int .i64 (bif contentG ((l.getD i.toNat []).getD 0 0) ((l.getD i.toNat []).getD 1 0) [(l.getD i.toNat []).getD 2 0,(l.getD i.toNat []).getD 3 0,(l.getD i.toNat []).getD 4 0,(l.getD i.toNat []).getD 5 0,(l.getD i.toNat []).getD 6 0,(l.getD i.toNat []).getD 7 0,(l.getD i.toNat []).getD 8 0,(l.getD i.toNat []).getD 9 0] then(0:Int) else(2:Int)))] [] else K .normal [.one (.func (88:FuncId) []),.one (.data (Row.mat .i64 11 l)),.one (.int .i64 n),.one (.int .i64 (IntKind.i64.wrap (i+1)))] [] else False else False else K (.exit 0) [AV.any] []):=by kernel_rfl
theorem exbse(l:List (List Int))(K:AV→List Blk→Prop):evFn Ebse Tryz.f108 [.one (.data (.mat .i64 11 l))] [] K=(okBs l∧[bif decide ((↑l.length:Int)≤40) then(0:Int) else(8:Int),bif l.all conB then(0:Int) else(2:Int)].length≤1000∧K (.one (.int .i64 (firstE [bif decide ((↑l.length:Int)≤40) then(0:Int) else(8:Int),bif l.all conB then(0:Int) else(2:Int)]))) []):=by kernel_rfl
theorem exknd(l:List (List Int))(K:AV→List Blk→Prop):evFn Eknd Tryz.f109 [.one (.data (.mat .i64 11 l))] [] K=(K (.one (.func 129 [0])) [Blk.cells [SV.data (Row.mat .i64 11 l)]]):=by kernel_rfl
end Go.Ev
namespace Go.Ev
open Go
variable [Glob]
def frzS(σ:List Blk):SV→SV→Prop
 |.own id wd,s'=> ∃t r,σ[id]? = some (.row t r)∧wd=r.width∧s'= .data r
 |.sub id wd i n,s'=> ∃t r,σ[id]? = some (.row t r)∧wd=r.width∧i+n≤r.count∧s'= .data (r.part i n)
 |.nil,s'=>s'= .nil∨ ∃r,r.count=0∧s'= .data r
 |.data r,s'=>s'= .data r
 |.int k n,s'=>s'= .int k n
 |.bool b,s'=>s'= .bool b
 |.str s,s'=>s'= .str s
 |.flt k b,s'=>s'= .flt k b
 |_,_=>False
def frzT(σ:List Blk):TV→TV→Prop
 |.one s,.one s'=>frzS σ s s'
 |.agg l,.agg l'=>All2 (frzS σ) l l'
 |_,_=>False
def frzA(σ:List Blk):AV→AV→Prop
 |.one s,.one s'=>frzS σ s s'
 |.agg l,.agg l'=>All2 (frzS σ) l l'
 |.tup l,.tup l'=>All2 (frzT σ) l l'
 |_,_=>False
section
variable {F:Nat→Prop} {ρ:List (Nat × Nat)} {σ:List Blk} {w:World}
theorem lmut_nil{b:Nat}(h:LMut [] [] b):False:=by
 obtain⟨id,c,n,g,h1,_⟩:=h
 simp at h1
theorem frzS_den(H:HeapOk F ρ σ w)(ap: ∀g,LMut ρ σ g→¬F g){s s':SV}{u:Value}(h:frzS σ s s')(hd:DenS w (Mut F ρ σ) ρ s u):DenS w (Mut F [] []) [] s' u:=by
 have hmm: ∀b,Mut F [] [] b→Mut F ρ σ b:=fun b hb=>hb.elim .inl fun hb=>(lmut_nil hb).elim
 cases s with
 |own id wd=>
  obtain⟨t,r,h1,h2,rfl⟩:=h
  obtain⟨a,cap,e1,e2,e3,e4⟩:=viewRow_sound (P:=default) (e:=0) H (r:=r) (s:= .own id wd) (by simp only[viewRow,h1];rw[if_pos h2]) hd
  refine⟨a,cap,e1,e2,e3,e4.imp_right ?_⟩
  rintro ⟨ad,h5,h6,h7,h8⟩
  refine⟨ad,h5,h7,fun hm=> ?_,h6.keep (Keep.same fun b _ hb=>hmm b hb)⟩
  obtain⟨i,n,hi,hρ⟩:=h8 (hmm _ hm)
  simp only[idsS,List.mem_singleton] at hi
  subst hi
  exact ap _ (LMut.solid h1 rfl hρ) (hm.resolve_right lmut_nil)
 |sub id wd i n=>
  obtain⟨t,r,h1,h2,h3,rfl⟩:=h
  obtain⟨a,cap,e1,e2,e3,e4⟩:=viewRow_sound (P:=default) (e:=0) H (r:=r.part i n) (s:= .sub id wd i n) (by simp only[viewRow,h1];rw[if_pos h2,decide_eq_true h3]) hd
  refine⟨a,cap,e1,e2,e3,e4.imp_right ?_⟩
  rintro ⟨ad,h5,h6,h7,h8⟩
  refine⟨ad,h5,h7,fun hm=> ?_,h6.keep (Keep.same fun b _ hb=>hmm b hb)⟩
  obtain⟨i',n',hi,hρ⟩:=h8 (hmm _ hm)
  simp only[idsS,List.mem_singleton] at hi
  subst hi
  exact ap _ (LMut.solid h1 rfl hρ) (hm.resolve_right lmut_nil)
 |nil=>
  rcases h with rfl|⟨r,hr,rfl⟩
  ·exact hd
  ·exact⟨none,0,by rw[hr];exact hd,by omega,Nat.zero_le _,.inl hr⟩
 |data r=>
  cases h
  obtain⟨a,cap,e1,e2,e3,e4⟩:=hd
  refine⟨a,cap,e1,e2,e3,e4.imp_right ?_⟩
  rintro ⟨ad,h5,h6,h7,h8⟩
  exact⟨ad,h5,h6,fun hm=>h7 (hmm _ hm),h8.keep (Keep.same fun b _ hb=>hmm b hb)⟩
 |int k n=>cases h;exact hd
 |bool b=>cases h;exact hd
 |str s=>cases h;exact hd
 |flt k b=>cases h;exact hd
 |_=>exact h.elim
theorem All2.frz{α β γ:Type}{R:α→β→Prop}{S:α→γ→Prop}{T:γ→β→Prop}(H: ∀a c b,S a c→R a b→T c b): ∀{l:List α} {m:List γ} {k:List β},All2 S l m→All2 R l k→All2 T m k
 |[],[],[],_,_=>trivial
 |[],[],_::_,_,h=>h.elim
 |[],_::_,_,h,_=>h.elim
 |_::_,[],_,h,_=>h.elim
 |_::_,_::_,[],_,h=>h.elim
 |_::_,_::_,_::_,h,h'=>⟨H _ _ _ h.1 h'.1,All2.frz H h.2 h'.2⟩
theorem frzA_den(H:HeapOk F ρ σ w)(ap: ∀g,LMut ρ σ g→¬F g){a a':AV}{u:Value}(h:frzA σ a a')(hd:Den w (Mut F ρ σ) ρ a u):Den w (Mut F [] []) [] a' u:=by
 have hS: ∀a c b,frzS σ a c→DenS w (Mut F ρ σ) ρ a b→DenS w (Mut F [] []) [] c b:=fun a c b h hd=>frzS_den H ap h hd
 have hT: ∀a c b,frzT σ a c→DenT w (Mut F ρ σ) ρ a b→DenT w (Mut F [] []) [] c b:=by
  intro a c b h hd
  cases a with
  |one s=>cases c with
   |one s'=>exact hS _ _ _ h hd
   |agg l=>exact h.elim
  |agg l=>cases c with
   |one s'=>exact h.elim
   |agg l'=>
    obtain⟨vs,e,hl⟩:=hd
    exact⟨vs,e,All2.frz hS h hl⟩
 cases a with
 |any=>exact h.elim
 |one s=>cases a' with
  |one s'=>exact hS _ _ _ h hd
  |_=>exact h.elim
 |agg l=>cases a' with
  |agg l'=>
   obtain⟨vs,e,hl⟩:=hd
   exact⟨vs,e,All2.frz hS h hl⟩
  |_=>exact h.elim
 |tup l=>cases a' with
  |tup l'=>
   obtain⟨vs,e,hl⟩:=hd
   exact⟨vs,e,All2.frz hT h hl⟩
  |_=>exact h.elim
end
theorem SpecOK.froze {P : Program} {f : FuncId} {S S1 : Spec} (h1 : SpecOK P f S1) (h : ∀ args σ K, S args σ K → σ = [] ∧ S1 args [] fun a σ' => ∃ a', frzA σ' a a' ∧ K a' []) : SpecOK P f S := by
  refine ⟨h1.body, fun args σ K hK F ρ vals w H hF ha => ?_⟩
  obtain ⟨rfl, hS⟩ := h args σ K hK
  have hρ : ρ = [] := List.length_eq_zero_iff.1 H.len
  subst hρ
  refine (h1.sound args [] _ hS F [] vals w H hF ha).mono ?_
  rintro e w' ⟨v, a, σ', ρ', h2, ⟨a', h3, h4⟩, I, hk, hd⟩
  have hmm : ∀ b, Mut F [] [] b → Mut F ρ' σ' b := fun b hb => hb.elim .inl fun hb => (lmut_nil hb).elim
  refine ⟨v, a', [], [], h2, h4, ?_, ⟨hk.size, hk.blk, fun _ _ h => h, hk.shape⟩, frzA_den I.heap I.apart h3 hd⟩
  exact { heap := ⟨rfl, fun id b g n h => by simp at h, fun id b g n k h => by simp at h, fun i j b b' g g' n n' k h => by simp at h, I.heap.glob.keep (Keep.same fun b _ hb => hmm b hb)⟩,pre := ⟨[], rfl⟩, os := I.os, tape := I.tape, output := I.output, size := I.size, blk := I.blk, shape := I.shape, fresh := fun g hg => (lmut_nil hg).elim, foreign := I.foreign, apart := fun g hg => (lmut_nil hg).elim }
theorem frzS_int{σ:List Blk}(k:IntKind)(n:Int):frzS σ (.int k n) (.int k n):=rfl
end Go.Ev
namespace Go.Ev
open Go Go.Proofs
attribute [local irreducible] evFn evBody evRound
set_option maxRecDepth 20000
theorem row11{l:List (List Int)}{n:Nat}(h:n<l.length)(h8:l.all len11=true): ∃xs,xs.length=11∧l.drop n=xs::l.drop (n+1)∧l.getD n []=xs∧xs ∈ l:=by
 refine⟨l[n],?_,List.drop_eq_getElem_cons h,by simp[List.getD,h],List.getElem_mem h⟩
 have:=List.all_eq_true.1 h8 _ (List.getElem_mem h)
 unfold len11 at this
 simpa using this
theorem eta11{x:List Int}(h:x.length=11):[x.getD 0 0,x.getD 1 0,x.getD 2 0,x.getD 3 0,x.getD 4 0,x.getD 5 0,x.getD 6 0,x.getD 7 0,x.getD 8 0,x.getD 9 0,x.getD 10 0]=x:=by
 match x,h with
 |[_,_,_,_,_,_,_,_,_,_,_],_=>rfl
theorem aget_ent(x:List Int): ∀N:List (List Int),aget (N.map entX) [x.getD 1 0,x.getD 0 0]=N.find? (sameK x)
 |[]=>rfl
 |y::N=>by
  rw[List.map_cons,aget,aget_ent x N,List.find?_cons]
  have e:([x.getD 1 0,x.getD 0 0]==(entX y).1)=sameK x y:=by
   unfold entX sameK
   rw[Bool.eq_iff_iff]
   simp only[beq_iff_eq,Bool.and_eq_true,List.cons.injEq,and_true]
   constructor
   ·rintro ⟨h1,h2⟩;exact⟨h1.symm,h2.symm⟩
   ·rintro ⟨h1,h2⟩;exact⟨h1.symm,h2.symm⟩
  rw[e]
  cases sameK x y<;>rfl
theorem aset_ent{x:List Int}: ∀{N:List (List Int)},N.find? (sameK x)=none→aset (N.map entX) [x.getD 1 0,x.getD 0 0] x=(N++[x]).map entX
 |[],_=>rfl
 |y::N,h=>by
  rw[List.find?_cons] at h
  have e:([x.getD 1 0,x.getD 0 0]==(entX y).1)=sameK x y:=by
   unfold entX sameK
   rw[Bool.eq_iff_iff]
   simp only[beq_iff_eq,Bool.and_eq_true,List.cons.injEq,and_true]
   constructor
   ·rintro ⟨h1,h2⟩;exact⟨h1.symm,h2.symm⟩
   ·rintro ⟨h1,h2⟩;exact⟨h1.symm,h2.symm⟩
  cases hs:sameK x y with
  |true=>rw[hs] at h;cases h
  |false=>
   rw[hs] at h
   rw[List.map_cons,aset,e,hs,cond_false,aset_ent h];rfl
theorem okcpb:SpecOK Tryz.prog 28 copyBS:=by
 refine specOK (n:=6) (m:=0) (lps:=[]) .nil Tryz.func28 (by kernel_rfl) (by kernel_rfl) (noLoops (by kernel_rfl)) fun args σ K h=> ?_
 unfold copyBS at h
 split at h
 rotate_right
 ·exact h.elim
 rename_i l
 rw[excpb l K]
 obtain⟨h1,h⟩:=h
 rw[decide_eq_true (by omega)]
 exact h
theorem loke11_0:LoopOK Ee11 (lb Tryz.f128 0) [1,8,9,10] [4] each11L:=by
 refine loopOK (.cons ok78 .nil) (noInner (by kernel_rfl)) (fun vs σ=>match vs,σ with
  |[.one (.func 88 []),.one (.data (.mat .i64 11 l)),.one (.int .i64 _),.one (.int .i64 i)],[]=>(l.length-i).toNat
  |_,_=>0) fun vs σ k h=> ?_
 unfold each11L at h
 split at h
 rotate_right
 ·exact h.elim
 ·rename_i l n i
  rw[exe11l0a l n i _]
  obtain⟨⟨⟨h1,h2⟩,h3,rfl⟩,h⟩:=h
  by_cases hi:i<(l.length:Int)
  ·have hw:IntKind.i64.wrap (i+1)=i+1:=wrap_id (by omega) (by omega)
   have hi':i.toNat<l.length:=by omega
   obtain⟨x,hx,hd,hg,_⟩:=row11 hi' h2
   rw[hd,List.all_cons,show i.toNat+1=(i+1).toNat by omega] at h
   rw[decide_eq_true hi,decide_eq_true h3,decide_eq_true hi',hw,hg]
   have hmu:((l.length:Int)-(i+1)).toNat<((l.length:Int)-i).toNat:=by omega
   have e:contentG (x.getD 0 0) (x.getD 1 0) [x.getD 2 0,x.getD 3 0,x.getD 4 0,x.getD 5 0,x.getD 6 0,x.getD 7 0,x.getD 8 0,x.getD 9 0]=conB x:=rfl
   rw[e]
   cases hc:conB x with
   |true=>rw[hc,Bool.true_and] at h;exact⟨⟨⟨⟨h1,h2⟩,by omega,rfl⟩,h⟩,hmu⟩
   |false=>rw[hc] at h;exact h
  ·rw[decide_eq_false hi]
   rw[List.drop_eq_nil_of_le (by omega)] at h
   exact h
theorem oke11:SpecOK Tryz.prog 128 each11S:=by
 refine specOK (n:=21) (m:=0) (lps:=[(2,.spec [1,8,9,10] [4] each11L)]) (.cons ok78 .nil) Tryz.func128 (by kernel_rfl) (by kernel_rfl) (theLoops (n:=1) (by kernel_rfl) fun i hi=> ?_) fun args σ K h=> ?_
 ·match i,hi with
  |0,_=>exact loopHyp_of (key:=2) (by kernel_rfl) rfl loke11_0
 unfold each11S at h
 split at h
 rotate_right
 ·exact h.elim
 rename_i l
 rw[exe11 l K]
 obtain⟨h1,h⟩:=h
 refine And.intro ⟨h1,by decide,rfl⟩ ?_
 cases hc:l.all conB<;>rw[hc] at h<;>exact h
theorem okbse:SpecOK Tryz.prog 108 bsS:=by
 refine specOK (n:=11) (m:=0) (lps:=[]) (.cons ok70 (.cons oke11 (.cons ok69 .nil))) Tryz.func108 (by kernel_rfl) (by kernel_rfl) (noLoops (by kernel_rfl)) fun args σ K h=> ?_
 unfold bsS at h
 split at h
 rotate_right
 ·exact h.elim
 rename_i l
 rw[exbse l K]
 obtain⟨h1,h⟩:=h
 refine And.intro h1 (And.intro (by simp) ?_)
 unfold bsE at h
 cases h2:decide ((l.length:Int)≤40)<;>cases h3:l.all conB<;>rw[h2] at h<;>(try rw[h3] at h)<;>exact h
theorem okknd:SpecOK Tryz.prog 109 kindsS:=by
 refine specOK (n:=4) (m:=0) (lps:=[]) .nil Tryz.func109 (by kernel_rfl) (by kernel_rfl) (noLoops (by kernel_rfl)) fun args σ K h=> ?_
 unfold kindsS at h
 split at h
 rotate_right
 ·exact h.elim
 rename_i l
 rw[exknd l K]
 exact h
theorem lokkd:LoopOK Ekd (lb Tryz.f129 0) [0,3,11,12,13] [] kdL:=by
 refine loopOK (.cons ok79 .nil) (noInner (by kernel_rfl)) (fun vs σ=>match vs,σ with
  |[_,_,.one (.data (.mat .i64 11 l)),_,.one (.int .i64 i)],_=>l.length-i.toNat
  |_,_=>0) fun vs σ k h=> ?_
 unfold kdL at h
 split at h
 rotate_right
 ·exact h.elim
 rename_i l n i P J D L l' M
 rw[exkda n i l l' M P J D L _]
 obtain⟨⟨rfl,rfl,⟨b1,b2⟩,hc,hi0,hin,N,hN,hN11,rfl,hL⟩,h⟩:=h
 by_cases hi:i<(l.length:Int)
 ·have hw:IntKind.i64.wrap (i+1)=i+1:=wrap_id (by omega) (by omega)
  have hi':i.toNat<l.length:=by omega
  obtain⟨x,hx,hd,hg,hm⟩:=row11 hi' b2
  have hcx:=List.all_eq_true.1 hc _ hm
  rw[hd,show i.toNat+1=(i+1).toNat by omega] at hL
  have hmu:l.length-(i+1).toNat<l.length-i.toNat:=by omega
  rw[decide_eq_true hi,decide_eq_true hi0,decide_eq_true hi',hw,hg]
  simp only[show decide (10<11)=true by decide,Bool.and_self,cond_true]
  refine And.intro hcx ?_
  have es:(x.getD 10 0 != sumG (x.getD 0 0) (x.getD 1 0) [x.getD 2 0,x.getD 3 0,x.getD 4 0,x.getD 5 0,x.getD 6 0,x.getD 7 0,x.getD 8 0,x.getD 9 0])= !sumB x:=rfl
  rw[es]
  have eh:ahas (N.map entX) [x.getD 1 0,x.getD 0 0]=(N.find? (sameK x)).isSome:=by unfold ahas;rw[aget_ent]
  have eg:agetD (N.map entX) [x.getD 1 0,x.getD 0 0]=(N.find? (sameK x)).getD []:=by unfold agetD;rw[aget_ent]
  subst hL
  cases hs:sumB x with
  |false=>
   have hk:kdG N x=3:=by unfold kdG;rw[hs];rfl
   have hn:nxG N x=N:=by unfold nxG;rw[hk];rfl
   refine⟨rfl,by rw[kdI,hk];rfl,fun D'=>⟨⟨⟨⟨rfl,rfl,⟨b1,b2⟩,hc,by omega,by omega,N,by omega,hN11,rfl,by rw[kdI,hn]⟩,h⟩,hmu⟩,(h D').2⟩⟩
  |true=>
   rw[eh,eg,Bool.not_true,cond_false]
   cases hf:N.find? (sameK x) with
   |none=>
    have hk:kdG N x=0:=by unfold kdG;rw[hs,hf];rfl
    have hn:nxG N x=N++[x]:=by unfold nxG;rw[hk];rfl
    rw[Option.isSome_none,cond_false]
    unfold exkda_x0
    rw[hg,hw,eh,hf,Option.isSome_none,cond_false,eta11 hx,aset_ent hf]
    refine⟨rfl,by rw[kdI,hk];rfl,fun D'=>⟨⟨⟨⟨rfl,rfl,⟨b1,b2⟩,hc,by omega,by omega,N++[x],by simp;omega,?_,rfl,by rw[kdI,hn]⟩,h⟩,hmu⟩,(h D').2⟩⟩
    rw[List.all_append,hN11]
    simp[len11,hx]
   |some y=>
    have hy:y.length=11:=by
     have:=List.all_eq_true.1 hN11 _ (List.mem_of_find?_eq_some hf)
     unfold len11 at this
     simpa using this
    rw[Option.isSome_some,cond_true,Option.getD_some,eq11 hy hx]
    cases hyx:y==x with
    |true=>
     have hk:kdG N x=1:=by unfold kdG;rw[hs,hf];show cond (y==x) _ _=_;rw[hyx];rfl
     have hn:nxG N x=N:=by unfold nxG;rw[hk];rfl
     refine⟨rfl,by rw[kdI,hk];rfl,fun D'=>⟨⟨⟨⟨rfl,rfl,⟨b1,b2⟩,hc,by omega,by omega,N,by omega,hN11,rfl,by rw[kdI,hn]⟩,h⟩,hmu⟩,(h D').2⟩⟩
    |false=>
     have hk:kdG N x=2:=by unfold kdG;rw[hs,hf];show cond (y==x) _ _=_;rw[hyx];rfl
     have hn:nxG N x=N:=by unfold nxG;rw[hk];rfl
     rw[cond_false]
     unfold exkda_x0
     rw[hg,hw,eh,hf,Option.isSome_some,cond_true]
     refine⟨rfl,by rw[kdI,hk];rfl,fun D'=>⟨⟨⟨⟨rfl,rfl,⟨b1,b2⟩,hc,by omega,by omega,N,by omega,hN11,rfl,by rw[kdI,hn]⟩,h⟩,hmu⟩,(h D').2⟩⟩
 ·have hL':L=[]:=by rw[hL,List.drop_eq_nil_of_le (by omega)];rfl
  subst hL'
  rw[decide_eq_false hi]
  exact(h D).1
theorem okkd:SpecOK Tryz.prog 129 (seqSpec Tryz.prog kdSq):=by
 refine specOK (n:=52) (m:=2) (lps:=[(2,.spec [0,3,11,12,13] [] kdL)]) (.cons ok79 .nil) Tryz.func129 (by kernel_rfl) (by kernel_rfl) (theLoops (n:=1) (by kernel_rfl) fun i hi=> ?_) fun args σ K h=> ?_
 ·match i,hi with
  |0,_=>exact loopHyp_of (key:=2) (by kernel_rfl) rfl lokkd
 ·unfold seqSpec at h
  split at h
  ·rename_i caps P J D L lent
   split at h
   ·rename_i c xs hsq
    unfold kdSq at hsq
    split at hsq
    ·rename_i l
     simp only[Option.some.injEq,Prod.mk.injEq] at hsq
     obtain⟨rfl,rfl⟩:=hsq
     have h':cond (decide (l.length≤1000)&&(l.all len11&&l.all conB)) (P=Tryz.prog∧L=kdI [] l∧ ∀(D':Nat→Prop) (lent':List Blk),K (.tup []) (.ghost Tryz.prog J D' (some [])::lent')∧K (.tup []) (.ghost Tryz.prog J D' none::lent')) False:=h
     obtain⟨hc,h2,h3,h4⟩:=cond_pos h'
     simp only[Bool.and_eq_true,decide_eq_true_eq] at hc
     obtain⟨c1,c2,c3⟩:=hc
     subst h2;subst h3
     rw[exkd l _ J D _ K]
     exact⟨⟨rfl,rfl,⟨c1,c2⟩,c3,by decide,by omega,[],by decide,rfl,rfl,rfl⟩,fun D'=>h4 D' _⟩
    ·cases hsq
   ·exact h.elim
  ·exact h.elim
end Go.Ev
namespace Go.Ev
open Go Go.Proofs
attribute [local irreducible] evFn evBody evRound
set_option maxRecDepth 20000
def newsF:List (List Int)→List (List Int)→List (List Int)
 |N,[]=>N
 |N,x::l=>newsF (nxG N x) l
theorem kdI_nil{N l:List (List Int)}(h:kdI N l=[]):l=[]:=by
 cases l with
 |nil=>rfl
 |cons x l=>simp[kdI] at h
theorem kdI_cons{N l:List (List Int)}{x:List AV}{rest:List (List AV)}(h:x::rest=kdI N l): ∃y l',l=y::l'∧x=it2 (kdG N y) y∧rest=kdI (nxG N y) l':=by
 cases l with
 |nil=>simp[kdI] at h
 |cons y l'=>
  simp only[kdI,List.cons.injEq] at h
  exact⟨y,l',rfl,h.1,h.2⟩
end Go.Ev
namespace Go.Ev
open Go Go.Proofs
set_option maxRecDepth 20000
def cnt(x:List Int):Int:=x.getD 0 0
def chB(ch:Int)(N:List (List Int)):List (List Int):=N.filter fun x=>x.getD 1 0==ch
def ownB(l:List (List Int))(ch:Int):List (List Int):=chB ch (newsF [] l)
def entS(x:List Int):List Int × List Int:=([x.getD 0 0],samX x)
def cmin:List (List Int)→Int
 |[]=>0
 |x::l=>l.foldl (fun a y=>if cnt y<a then cnt y else a) (cnt x)
def cmax:List (List Int)→Int
 |[]=>0
 |x::l=>l.foldl (fun a y=>if cnt y>a then cnt y else a) (cnt x)
def spanE(o:List (List Int)):Int:=bif o.isEmpty then 12 else bif decide (cmax o-cmin o<60) then 0 else 8
def rcE(l:List (List Int))(ch:Int):Int:=bif bsE l==0 then(bif withinG ch 0 3 then spanE (ownB l ch) else 2) else bsE l
def mapE(o:List (List Int)):List (List Int × List Int):=o.map entS
def rcGL:List (List AV)→LSpec:=fun items vs σ k=>match vs,σ with
 |[.one (.ptr 0 1 0 0),.one (.ptr 1 1 0 0),.one (.ptr 2 1 0 0)],[.cells [.int .i64 ch],.cells [.any,.int .i64 z,.int .i64 w],.cells [.mapv 3,.int .i64 a,.int .i64 b],.map 0 8 M]=> ∃N l,items=kdI N l∧(z=0∧w=0∧l.all len11=true∧N.length+l.length≤1000∧l.all conB=true)∧M=mapE (chB ch N)∧a=cmin (chB ch N)∧b=cmax (chB ch N)∧
   k .normal [.one (.ptr 0 1 0 0),.one (.ptr 1 1 0 0),.one (.ptr 2 1 0 0)] [.cells [.int .i64 ch],.cells [.any,.int .i64 0,.int .i64 0],.cells [.mapv 3,.int .i64 (cmin (chB ch (newsF N l))),.int .i64 (cmax (chB ch (newsF N l)))],.map 0 8 (mapE (chB ch (newsF N l)))]
 |_,_=>False
def recvS:Spec:=fun args σ K=>match args,σ with
 |[.one (.data (.mat .i64 11 l)),.one (.int .i64 ch)],[]=>okBs l∧bif rcE l ch==0 then K (.tup [.agg [.mapv 0,.int .i64 (cmin (ownB l ch)),.int .i64 (cmax (ownB l ch))],.one (.int .i64 0)]) [.map 0 8 (mapE (ownB l ch))]
   else ∀(a b:Int) (M:List (List Int × List Int)),K (.tup [.agg [.mapv 0,.int .i64 a,.int .i64 b],.one (.int .i64 (rcE l ch))]) [.map 0 8 M]
 |_,_=>False
def lkO(o:List (List Int))(n:Int):Option (List Int):=(o.find? fun x=>cnt x==n).map samX
def misG(lk:Int→Option (List Int)):Nat→Int→List Int
 |0,_=>[]
 |n+1,c=>bif (lk c).isSome then misG lk n (c+1) else c::misG lk n (c+1)
def misO(o:List (List Int)):List Int:=misG (lkO o) (cmax o-cmin o+1).toNat (cmin o)
def okSt(o:List (List Int))(a b c:Int)(M:List (List Int × List Int)):Prop:=M=mapE o∧o.all len11=true∧(-1000000≤a∧a≤b∧b≤1000000∧b-a<60∧a≤c∧c≤b+1)
def misL:LSpec:=fun vs σ k=>match vs,σ with
 |[.one (.ptr 0 1 0 0),.one .nil,.one (.int .i64 c)],[.cells [.mapv 1,.int .i64 a,.int .i64 b],.map 0 8 M]=> ∃o,okSt o a b c M∧bif (misG (lkO o) (b-c+1).toNat c).isEmpty then k (.exit 0) [.one .nil] [.cells [.mapv 1,.int .i64 a,.int .i64 b],.map 0 8 M] else k (.exit 0) [.one (.own 2 1)] [.cells [.mapv 1,.int .i64 a,.int .i64 b],.map 0 8 M,.row 3 (.ints .i64 (misG (lkO o) (b-c+1).toNat c))]
 |[.one (.ptr 0 1 0 0),.one (.own 2 1),.one (.int .i64 c)],[.cells [.mapv 1,.int .i64 a,.int .i64 b],.map 0 8 M,.row 3 (.ints .i64 S)]=> ∃o,(okSt o a b c M∧1≤S.length∧S.length≤(c-a).toNat)∧k (.exit 0) [.one (.own 2 1)] [.cells [.mapv 1,.int .i64 a,.int .i64 b],.map 0 8 M,.row 3 (.ints .i64 (S++misG (lkO o) (b-c+1).toNat c))]
 |_,_=>False
def misS:Spec:=fun args σ K=>match args,σ with
 |[.one (.data (.mat .i64 11 l)),.one (.int .i64 ch)],[]=>okBs l∧bif rcE l ch==0 then(bif (misO (ownB l ch)).isEmpty then K (.tup [.one .nil,.one (.int .i64 0)]) [] else K (.tup [.one (.own 0 1),.one (.int .i64 0)]) [.row 3 (.ints .i64 (misO (ownB l ch)))])
   else K (.tup [.one .nil,.one (.int .i64 (rcE l ch))]) []
 |_,_=>False
def msM(l:List (List Int))(ch:Int):List Int:=bif rcE l ch==0 then misO (ownB l ch) else[]
def misDS:Spec:=fun args σ K=>match args,σ with
 |[.one (.data (.mat .i64 11 l)),.one (.int .i64 ch)],[]=>okBs l∧K (.tup [.one (.data (.ints .i64 (msM l ch))),.one (.int .i64 (rcE l ch))]) []
 |_,_=>False
noncomputable abbrev Ercv:Env:=envOf Tryz.prog [(108,bsS),(61,channelS),(49,firstS),(109,kindsS),(50,unlessS)] [(1000006,.range 129 kdSq [3,4,6] rcGL)] 77 0
noncomputable abbrev Emis:Env:=envOf Tryz.prog [(77,recvS)] [(6,.frm 2 [6,8,9] [8] misL)] 43 0
noncomputable abbrev EmisF2:Env:=envOf Tryz.prog [(77,recvS)] [(6,.frm 2 [6,8,9] [8] misL)] 43 2
end Go.Ev
namespace Go.Ev
open Go Go.Proofs
set_option maxRecDepth 100000
theorem exrcvr(q y0 y1 y2 y3 y4 y5 y6 y7 y8 y9 y10 ch a b z w:Int)(M:List (List Int × List Int))(K:Ex→List AV→List Blk→Prop):evRound Ercv (rangePs (lb Tryz.f77 0)) (rangeAssign (lb Tryz.f77 0)) (rangeBody (lb Tryz.f77 0)) [3,4,6] [.one (.ptr 0 1 0 0),.one (.ptr 1 1 0 0),.one (.ptr 2 1 0 0)] [.cells [.int .i64 ch],.cells [.any,.int .i64 z,.int .i64 w],.cells [.mapv 3,.int .i64 a,.int .i64 b],.map 0 8 M] [.one (.int .i64 q),.agg [.int .i64 y0,.int .i64 y1,.int .i64 y2,.int .i64 y3,.int .i64 y4,.int .i64 y5,.int .i64 y6,.int .i64 y7,.int .i64 y8,.int .i64 y9,.int .i64 y10]] K=(bif q != 0 then K .normal [.one (.ptr 0 1 0 0),.one (.ptr 1 1 0 0),.one (.ptr 2 1 0 0)] [Blk.cells [SV.int .i64 ch],Blk.cells [SV.any,SV.int .i64 z,SV.int .i64 w],Blk.cells [SV.mapv 3,SV.int .i64 a,SV.int .i64 b],Blk.map 0 8 M] else bif y1 != ch then K .normal [.one (.ptr 0 1 0 0),.one (.ptr 1 1 0 0),.one (.ptr 2 1 0 0)] [Blk.cells [SV.int .i64 ch],Blk.cells [SV.any,SV.int .i64 z,SV.int .i64 w],Blk.cells [SV.mapv 3,SV.int .i64 a,SV.int .i64 b],Blk.map 0 8 M] else bif (↑M.length:Int)==0 then K .normal [.one (.ptr 0 1 0 0),.one (.ptr 1 1 0 0),.one (.ptr 2 1 0 0)] [Blk.cells [SV.int .i64 ch],Blk.cells [SV.any,SV.int .i64 z,SV.int .i64 w],Blk.cells [SV.mapv 3,SV.int .i64 (if y0<y0 then y0 else y0),SV.int .i64 (if y0>y0 then y0 else y0)],Blk.map 0 8 (aset M [y0] [y2,y3,y4,y5,y6,y7,y8,y9])] else K .normal [.one (.ptr 0 1 0 0),.one (.ptr 1 1 0 0),.one (.ptr 2 1 0 0)] [Blk.cells [SV.int .i64 ch],Blk.cells [SV.any,SV.int .i64 z,SV.int .i64 w],Blk.cells [SV.mapv 3,SV.int .i64 (if y0<a then y0 else a),SV.int .i64 (if y0>b then y0 else b)],Blk.map 0 8 (aset M [y0] [y2,y3,y4,y5,y6,y7,y8,y9])]):=by kernel_rfl
theorem exrcv(l:List (List Int))(ch:Int)(K:AV→List Blk→Prop):evFn Ercv Tryz.f77 [.one (.data (.mat .i64 11 l)),.one (.int .i64 ch)] [] K=(okBs l∧[bsE l,bif withinG ch 0 3 then(0:Int) else(2:Int)].length≤1000∧bif firstE [bsE l,bif withinG ch 0 3 then(0:Int) else(2:Int)]!=0 then K (AV.tup [TV.agg [SV.mapv 0,SV.int .i64 0,SV.int .i64 0],.one (.int .i64 (firstE [bsE l,bif withinG ch 0 3 then(0:Int) else(2:Int)]))]) [Blk.map 0 8 []] else bif decide (l.length≤1000)&&(l.all len11&&l.all conB) then ∃N l_1,kdI [] l=kdI N l_1∧((0:Int)=(0:Int)∧(0:Int)=(0:Int)∧l_1.all len11=true∧N.length+l_1.length≤1000∧l_1.all conB=true)∧[]=mapE (chB ch N)∧0=cmin (chB ch N)∧0=cmax (chB ch N)∧[bif decide ((↑(mapE (chB ch (newsF N l_1))).length:Int)>0) then(0:Int) else(12:Int),bif decide (IntKind.i64.wrap (cmax (chB ch (newsF N l_1))-cmin (chB ch (newsF N l_1)))<60) then(0:Int) else(8:Int)].length≤1000∧K (AV.tup [TV.agg [SV.mapv 0,SV.int .i64 (cmin (chB ch (newsF N l_1))),SV.int .i64 (cmax (chB ch (newsF N l_1)))],.one (.int .i64 (firstE [bif decide ((↑(mapE (chB ch (newsF N l_1))).length:Int)>0) then(0:Int) else(12:Int),bif decide (IntKind.i64.wrap (cmax (chB ch (newsF N l_1))-cmin (chB ch (newsF N l_1)))<60) then(0:Int) else(8:Int)]))]) [Blk.map 0 8 (mapE (chB ch (newsF N l_1)))] else False):=by kernel_rfl
theorem exmis(l:List (List Int))(ch:Int)(K:AV→List Blk→Prop):evFn Emis Tryz.f27 [.one (.data (.mat .i64 11 l)),.one (.int .i64 ch)] [] K=(okBs l∧bif rcE l ch==0 then ∃o,okSt o (cmin (ownB l ch)) (cmax (ownB l ch)) (cmin (ownB l ch)) (mapE (ownB l ch))∧bif (misG (lkO o) (cmax (ownB l ch)-cmin (ownB l ch)+1).toNat (cmin (ownB l ch))).isEmpty then K (AV.tup [.one .nil,.one (.int .i64 0)]) [] else K (AV.tup [.one (.own 0 1),.one (.int .i64 0)]) [Blk.row 3 (Row.ints .i64 (misG (lkO o) (cmax (ownB l ch)-cmin (ownB l ch)+1).toNat (cmin (ownB l ch))))] else ∀(a b:Int) (M:List (List Int × List Int)),bif rcE l ch != 0 then K (AV.tup [.one .nil,.one (.int .i64 (rcE l ch))]) [] else ∃o,okSt o a b a M∧bif (misG (lkO o) (b-a+1).toNat a).isEmpty then K (AV.tup [.one .nil,.one (.int .i64 0)]) [] else K (AV.tup [.one (.own 0 1),.one (.int .i64 0)]) [Blk.row 3 (Row.ints .i64 (misG (lkO o) (b-a+1).toNat a))]):=by kernel_rfl
theorem exmisl0a(c a b:Int)(M:List (List Int × List Int))(K:Ex→List AV→List Blk→Prop):evBody EmisF2 (lb Tryz.f27 0) [6,8,9] [8] [.one (.ptr 0 1 0 0),.one .nil,.one (.int .i64 c)] [.cells [.mapv 1,.int .i64 a,.int .i64 b],.map 0 8 M] K=(bif decide (c≤b) then bif !ahas M [c] then K .normal [.one (.ptr 0 1 0 0),.one (.own 2 1),.one (.int .i64 (IntKind.i64.wrap (c+1)))] [Blk.cells [SV.mapv 1,SV.int .i64 a,SV.int .i64 b],Blk.map 0 8 M,Blk.row 3 (Row.ints .i64 [c])] else K .normal [.one (.ptr 0 1 0 0),.one .nil,.one (.int .i64 (IntKind.i64.wrap (c+1)))] [Blk.cells [SV.mapv 1,SV.int .i64 a,SV.int .i64 b],Blk.map 0 8 M] else K (.exit 0) [.one .nil] [Blk.cells [SV.mapv 1,SV.int .i64 a,SV.int .i64 b],Blk.map 0 8 M]):=by kernel_rfl
theorem exmisl0b(c a b:Int)(M:List (List Int × List Int))(S:List Int)(K:Ex→List AV→List Blk→Prop):evBody EmisF2 (lb Tryz.f27 0) [6,8,9] [8] [.one (.ptr 0 1 0 0),.one (.own 2 1),.one (.int .i64 c)] [.cells [.mapv 1,.int .i64 a,.int .i64 b],.map 0 8 M,.row 3 (.ints .i64 S)] K=(bif decide (c≤b) then bif !ahas M [c] then bif decide ((S++[c]).length*8≤140737488355328∧(S++[c]).length≤140737488355328) then K .normal [.one (.ptr 0 1 0 0),.one (.own 2 1),.one (.int .i64 (IntKind.i64.wrap (c+1)))] [Blk.cells [SV.mapv 1,SV.int .i64 a,SV.int .i64 b],Blk.map 0 8 M,Blk.row 3 (Row.ints .i64 (S++[c]))] else False else K .normal [.one (.ptr 0 1 0 0),.one (.own 2 1),.one (.int .i64 (IntKind.i64.wrap (c+1)))] [Blk.cells [SV.mapv 1,SV.int .i64 a,SV.int .i64 b],Blk.map 0 8 M,Blk.row 3 (Row.ints .i64 S)] else K (.exit 0) [.one (.own 2 1)] [Blk.cells [SV.mapv 1,SV.int .i64 a,SV.int .i64 b],Blk.map 0 8 M,Blk.row 3 (Row.ints .i64 S)]):=by kernel_rfl
end Go.Ev
