import Derived.Test.YtcjmpafkcmlhbaaGreatDoorQAB
namespace Go.Proofs.YtcjmpafkcmlhbaaGreatDoor
set_option linter.all false
set_option maxHeartbeats 40000000
set_option maxRecDepth 100000
section
theorem step_enough (E:Env) (S:Self) (k:Nat) (h:Enough E S k):Enough E (step E S) (k+1):=by
 refine⟨fun f n g hp hk=>?_,fun a m b s o acc word n g hn hk=>rowsB_good h a m b s o acc word n g hn hk⟩
 obtain⟨ho,hp⟩:=hp
 show Good E.l.length (low f n) (stepT E S f n g)
 cases f with
 | one o =>
  cases o with
  | expr=>exact h.t .expr n g (pre_le rfl hp) (by simp only [rk] at hk ⊢;omega)
  | typ=>exact h.t .typ n g (pre_le rfl hp) (by simp only [rk] at hk ⊢;omega)
  | call=>exact Good.bad
  | _ =>
   simp only [rk] at hk
   simp only [strict,if_true,if_false,Bool.false_eq_true] at hp
   simp only [low,lazy',if_true,if_false,Bool.false_eq_true]
   simp only [stepT,fileB,fileImportsB,fnB,signatureB,groupB,importSpecB,constSpecB,valueSpecB,paramsB,tparamsB,tparamB,namesB,namesMoreB,unionMoreB,rowB,membersB,typeNameB,fieldB,elemB,exprsMoreB,typesMoreB,dotB,callB,indexB,sliceB,elementsB,elementB,valueB,blockB,declaredB,startedB,returnedB,branchB,clausesB,clausesMoreB,casedB,selectsB,overallB,stmtsMoreB,fileDeclsB,typB,paramB,typeSpecB,operandB,unaryB,primMoreB,restB,stmtB,ifsB,forsB,wrapT,equalsB,tilde,after,leaf,only,ifsTail,forsTail,ite_andThen,ok_andThen,bad_andThen,andThen_assoc]
   repeat' first|exact Good.bad|(refine Good.ok ?_ ?_ <;> omega)|rw [ok_andThen]|rw [bad_andThen]|exact (name_good _).low (by omega)|exact (str_good _).low (by omega)|(refine Good.ite (fun hc=>?_) (fun hc=>?_) <;> first|(have hx:=is_lt hc)|(have hx:=or2_lt hc)|(have hx:=or3_lt hc)|(have hx:=or4_lt hc)|(have hx:=or5_lt hc)|(have hx:=and_lt hc)|(have hx:=and_lt' hc)|(have hx:=literal_lt hc)|(have hx:=assigns_lt hc)|skip)|(refine Good.andThen (want_good _ _ _) (fun _ m h1 h2=>?_))|(refine name_then (fun _ hc=>?_);have hx:=lt_of_named hc)|(refine Good.andThen (str_good _) (fun _ m h1 h2=>?_))|(refine Good.andThen (tag_good (by omega)) (fun _ m h1 h2=>?_))|(refine Good.andThen (rows_good h _ _ _ _ _ _ _ _ _ (by omega)) (fun _ m h1 h2=>?_))|(refine Good.andThen (h.t _ _ _ (by first|exact pre_le rfl (by omega)|exact pre_lt (by omega)) (by simp only [rk];omega)) (fun _ m h1 h2=>?_);(first|replace h1:=low_more rfl h1|replace h1:=low_same h1))|(refine Good.low (h.t _ _ _ (by first|exact pre_le rfl (by omega)|exact pre_lt (by omega)) (by simp only [rk];omega)) ?_;first|exact low_ge (by omega)|(rw [low_more' rfl];omega))|(split <;> first|(rename_i hc;have hx:=is_lt hc)|skip)
 | exprs =>
  refine Good.andThen (h.t .expr n g (pre_le rfl hp) (by simp only [rk] at hk ⊢;omega)) (fun x m h1 h2=>?_)
  have h1:=low_more rfl h1
  exact (h.t (.exprsMore [x]) m g (pre_le rfl h2) (by simp only [rk] at hk ⊢;omega)).low (low_ge h1)
 | types =>
  refine Good.andThen (h.t .typ n g (pre_le rfl hp) (by simp only [rk] at hk ⊢;omega)) (fun x m h1 h2=>?_)
  have h1:=low_more rfl h1
  exact (h.t (.typesMore [x]) m g (pre_le rfl h2) (by simp only [rk] at hk ⊢;omega)).low (low_ge h1)
 | expr=>exact h.t (.binary 1) n g (pre_le rfl hp) (by simp only [rk] at hk ⊢;omega)
 | binary least =>
  refine Good.andThen (h.t .unary n g (pre_le rfl hp) (by simp only [rk] at hk ⊢;omega)) (fun x m h1 h2=>?_)
  have h1:=low_more rfl h1
  exact (h.t (.binMore least n x) m g (pre_le rfl h2 ho) (by simp only [rk] at hk ⊢;omega)).low (low_ge h1)
 | binMore least fr x=>exact binMore_good h n least fr x g (of_decide_eq_true ho) hp hk
 | primary =>
  refine Good.andThen (h.t .operand n g (pre_le rfl hp) (by simp only [rk] at hk ⊢;omega)) (fun x m h1 h2=>?_)
  have h1:=low_more rfl h1
  exact (h.t (.primMore n x) m g (pre_le rfl h2) (by simp only [rk] at hk ⊢;omega)).low (low_ge h1)
 | indexMore fr x acc=>exact indexMore_good h n fr x acc g hp hk
 | stmts=>exact h.t (.stmtsMore []) n false (pre_le rfl hp) (by simp only [rk] at hk ⊢;omega)
 | simple =>
  refine Good.andThen (h.t .exprs n g (pre_le rfl hp) (by simp only [rk] at hk ⊢;omega)) (fun x m h1 h2=>?_)
  have h1:=low_more rfl h1
  exact (h.t (.rest n x) m g (pre_le rfl h2) (by simp only [rk] at hk ⊢;omega)).low (low_ge h1)
 | switches=>exact switches_good h n g hp hk
 | _ =>
   simp only [rk] at hk
   simp only [strict,if_true,if_false,Bool.false_eq_true] at hp
   simp only [low,lazy',if_true,if_false,Bool.false_eq_true]
   simp only [stepT,fileB,fileImportsB,fnB,signatureB,groupB,importSpecB,constSpecB,valueSpecB,paramsB,tparamsB,tparamB,namesB,namesMoreB,unionMoreB,rowB,membersB,typeNameB,fieldB,elemB,exprsMoreB,typesMoreB,dotB,callB,indexB,sliceB,elementsB,elementB,valueB,blockB,declaredB,startedB,returnedB,branchB,clausesB,clausesMoreB,casedB,selectsB,overallB,stmtsMoreB,fileDeclsB,typB,paramB,typeSpecB,operandB,unaryB,primMoreB,restB,stmtB,ifsB,forsB,wrapT,equalsB,tilde,after,leaf,only,ifsTail,forsTail,ite_andThen,ok_andThen,bad_andThen,andThen_assoc]
   repeat' first|exact Good.bad|(refine Good.ok ?_ ?_ <;> omega)|rw [ok_andThen]|rw [bad_andThen]|exact (name_good _).low (by omega)|exact (str_good _).low (by omega)|(refine Good.ite (fun hc=>?_) (fun hc=>?_) <;> first|(have hx:=is_lt hc)|(have hx:=or2_lt hc)|(have hx:=or3_lt hc)|(have hx:=or4_lt hc)|(have hx:=or5_lt hc)|(have hx:=and_lt hc)|(have hx:=and_lt' hc)|(have hx:=literal_lt hc)|(have hx:=assigns_lt hc)|skip)|(refine Good.andThen (want_good _ _ _) (fun _ m h1 h2=>?_))|(refine name_then (fun _ hc=>?_);have hx:=lt_of_named hc)|(refine Good.andThen (str_good _) (fun _ m h1 h2=>?_))|(refine Good.andThen (tag_good (by omega)) (fun _ m h1 h2=>?_))|(refine Good.andThen (rows_good h _ _ _ _ _ _ _ _ _ (by omega)) (fun _ m h1 h2=>?_))|(refine Good.andThen (h.t _ _ _ (by first|exact pre_le rfl (by omega)|exact pre_lt (by omega)) (by simp only [rk];omega)) (fun _ m h1 h2=>?_);(first|replace h1:=low_more rfl h1|replace h1:=low_same h1))|(refine Good.low (h.t _ _ _ (by first|exact pre_le rfl (by omega)|exact pre_lt (by omega)) (by simp only [rk];omega)) ?_;first|exact low_ge (by omega)|(rw [low_more' rfl];omega))|(split <;> first|(rename_i hc;have hx:=is_lt hc)|skip)
theorem enough (E:Env):∀ k,Enough E (spec E k) k
 | 0=>⟨fun _ _ _ _ h=>by omega,fun _ _ _ _ _ _ _ _ _ _ h=>by omega⟩
 | k+1=>step_enough E (spec E k) k (enough E k)
theorem ends (E:Env) (f:F) (hf:pre E f 0) (g:Bool):(spec E (20*E.l.length+20)).t f 0 g≠.out :=
 ((enough E (20*E.l.length+20)).t f 0 g hf (by have:rk f≤12:=by { cases f <;> exact Nat.le_of_ble_eq_true rfl };omega)).1
end
end Go.Proofs.YtcjmpafkcmlhbaaGreatDoor
