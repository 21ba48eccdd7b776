import Derived.Test.YtbemddpmohoooaaGreatDoorQ7
set_option linter.unusedVariables false
set_option linter.unusedSimpArgs false
set_option linter.unusedSectionVars false
set_option maxHeartbeats 128000000
set_option maxRecDepth 100000
namespace Go.Proofs.YtbemddpmohoooaaGreatDoor
open PShelfFormats RowKit YtbemddpmohoooaaGreatDoorW.PrintWords YtbemddpmohoooaaGreatDoorW.PrintLast YtbemddpmohoooaaGreatDoorW.PrintMore
def Rule (X:List UInt8) (t:S42) (next:List Bs) (ok:Bool):Prop:=larderref23_rule.f 0 (B X) t.f0 t.f1 t.f2 t.f3 t.f4=some (next,ok)
theorem B_eq (a b:List UInt8):((B a).toList=b)=(a=b):=by rw[B_toList]
theorem is_B (t:S42) (m:List UInt8):larderref23_is.f 0 t.f0 t.f1 t.f2 t.f3 t.f4 [⟨m.toArray⟩]=some (decide (isM t m)):=by
 unfold larderref23_is.f;rw[if_pos (by simp)];simp only[List.any_cons,List.any_nil,Bool.or_false,lit_toList];rfl
theorem is_B2 (t:S42) (m n:List UInt8):larderref23_is.f 0 t.f0 t.f1 t.f2 t.f3 t.f4 [⟨m.toArray⟩,⟨n.toArray⟩]=some (decide (isM t m) || decide (isM t n)):=by
 unfold larderref23_is.f;rw[if_pos (by simp)];simp only[List.any_cons,List.any_nil,Bool.or_false,lit_toList];rfl
theorem ite_some {α:Type} {c:Prop} [Decidable c] {a b:α}:(if c then some a else some b)=some (if c then a else b):=by split<;>rfl
theorem ite_pair {α β:Type} {c:Prop} [Decidable c] {a b:α} {d:β}:(if c then(a,d)else(b,d))=(if c then a else b,d):=by split<;>rfl
theorem only {t:S42} {n:List UInt8} (h:isM t n):(¬t.f2=57)∧(¬t.f2=110)∧∀m,m≠n→isM t m=False:=
 ⟨by rw[h.1];decide,by rw[h.1];decide,fun m d=>eq_false (fun q=>d (q.2.symm.trans h.2))⟩
theorem rMaps (t:S42):Rule [77,97,112,115] t (if isM t [109,97,112]then [B [109,97,112],B [78,65,77,69],B [59],B [77,97,112,115]]else []) true:=by
 unfold Rule;simp(decide:=true) only[larderref23_rule.f,is_B,is_B2,B_eq,ite_some,ite_pair,if_true,if_false,Option.bind_some,decide_eq_true_eq]
 first|done|rfl
theorem rAfter (t:S42):Rule [65,102,116,101,114] t (if isM t [91]then [B [91],B [69,120,112,114],B [93],B [61],B [69,120,112,114],B [59]]else [B [61],B [69,120,112,114],B [59]]) true:=by
 unfold Rule;simp(decide:=true) only[larderref23_rule.f,is_B,is_B2,B_eq,ite_some,ite_pair,if_true,if_false,Option.bind_some,decide_eq_true_eq]
 first|done|rfl
theorem rItems (t:S42):Rule [73,116,101,109,115] t (if isM t [59]then [B [59]]else [B [69,120,112,114],B [77,111,114,101]]) true:=by
 unfold Rule;simp(decide:=true) only[larderref23_rule.f,is_B,is_B2,B_eq,ite_some,ite_pair,if_true,if_false,Option.bind_some,decide_eq_true_eq]
 first|done|rfl
theorem rMore (t:S42):Rule [77,111,114,101] t (if isM t [44]then [B [44],B [69,120,112,114],B [77,111,114,101]]else [B [59]]) true:=by
 unfold Rule;simp(decide:=true) only[larderref23_rule.f,is_B,is_B2,B_eq,ite_some,ite_pair,if_true,if_false,Option.bind_some,decide_eq_true_eq]
 first|done|rfl
theorem rElse (t:S42):Rule [69,108,115,101] t (if isM t [101,108,115,101]then [B [101,108,115,101],B [79,116,104,101,114]]else []) true:=by
 unfold Rule;simp(decide:=true) only[larderref23_rule.f,is_B,is_B2,B_eq,ite_some,ite_pair,if_true,if_false,Option.bind_some,decide_eq_true_eq]
 first|done|rfl
theorem rOther (t:S42):Rule [79,116,104,101,114] t (if isM t [105,102]then [B [105,102],B [69,120,112,114],B [66,108,111,99,107],B [69,108,115,101]]else [B [66,108,111,99,107]]) true:=by
 unfold Rule;simp(decide:=true) only[larderref23_rule.f,is_B,is_B2,B_eq,ite_some,ite_pair,if_true,if_false,Option.bind_some,decide_eq_true_eq]
 first|done|rfl
theorem rBlock (t:S42):Rule [66,108,111,99,107] t [B [123],B [83,116,109,116,115],B [125]] true:=by
 unfold Rule;simp(decide:=true) only[larderref23_rule.f,is_B,is_B2,B_eq,ite_some,ite_pair,if_true,if_false,Option.bind_some,decide_eq_true_eq]
 first|done|rfl
theorem rStmts (t:S42):Rule [83,116,109,116,115] t (if t.f2=36∨isM t [125]then []else [B [83,116,109,116],B [83,116,109,116,115]]) true:=by
 unfold Rule;simp(decide:=true) only[larderref23_rule.f,is_B,is_B2,B_eq,ite_some,ite_pair,if_true,if_false,Option.bind_some,decide_eq_true_eq];by_cases h:t.f2=36<;>simp only[h,true_or,false_or,if_true,if_false]<;>rfl
theorem rStmt_name (t:S42) (h:t.f2=110):Rule [83,116,109,116] t [B [78,65,77,69],B [65,102,116,101,114]] true:=by
 unfold Rule;simp(decide:=true) only[larderref23_rule.f,larderref23_stmt.f,h,is_B,is_B2,B_eq,ite_some,ite_pair,if_true,if_false,Option.bind_some,decide_eq_true_eq]
 first|done|rfl
theorem rStmt_delete (t:S42) (h:isM t [100,101,108,101,116,101]):Rule [83,116,109,116] t [B [100,101,108,101,116,101],B [78,65,77,69],B [91],B [69,120,112,114],B [93],B [59]] true:=by
 unfold Rule;simp(decide:=true) only[larderref23_rule.f,larderref23_stmt.f,h.1,h.2,is_B,is_B2,B_eq,ite_some,ite_pair,if_true,if_false,Option.bind_some,decide_eq_true_eq]
 first|done|rfl
theorem rStmt_clear (t:S42) (h:isM t [99,108,101,97,114]):Rule [83,116,109,116] t [B [99,108,101,97,114],B [78,65,77,69],B [59]] true:=by
 unfold Rule;simp(decide:=true) only[larderref23_rule.f,larderref23_stmt.f,h.1,h.2,is_B,is_B2,B_eq,ite_some,ite_pair,if_true,if_false,Option.bind_some,decide_eq_true_eq]
 first|done|rfl
theorem rStmt_print (t:S42) (h:isM t [112,114,105,110,116]):Rule [83,116,109,116] t [B [112,114,105,110,116],B [73,116,101,109,115]] true:=by
 unfold Rule;simp(decide:=true) only[larderref23_rule.f,larderref23_stmt.f,h.1,h.2,is_B,is_B2,B_eq,ite_some,ite_pair,if_true,if_false,Option.bind_some,decide_eq_true_eq]
 first|done|rfl
theorem rStmt_if (t:S42) (h:isM t [105,102]):Rule [83,116,109,116] t [B [105,102],B [69,120,112,114],B [66,108,111,99,107],B [69,108,115,101]] true:=by
 unfold Rule;simp(decide:=true) only[larderref23_rule.f,larderref23_stmt.f,h.1,h.2,is_B,is_B2,B_eq,ite_some,ite_pair,if_true,if_false,Option.bind_some,decide_eq_true_eq]
 first|done|rfl
theorem rStmt_while (t:S42) (h:isM t [119,104,105,108,101]):Rule [83,116,109,116] t [B [119,104,105,108,101],B [69,120,112,114],B [66,108,111,99,107]] true:=by
 unfold Rule;simp(decide:=true) only[larderref23_rule.f,larderref23_stmt.f,h.1,h.2,is_B,is_B2,B_eq,ite_some,ite_pair,if_true,if_false,Option.bind_some,decide_eq_true_eq]
 first|done|rfl
theorem rStmt_for (t:S42) (h:isM t [102,111,114]):Rule [83,116,109,116] t [B [102,111,114],B [78,65,77,69],B [44],B [78,65,77,69],B [105,110],B [78,65,77,69],B [66,108,111,99,107]] true:=by
 unfold Rule;simp(decide:=true) only[larderref23_rule.f,larderref23_stmt.f,h.1,h.2,is_B,is_B2,B_eq,ite_some,ite_pair,if_true,if_false,Option.bind_some,decide_eq_true_eq]
 first|done|rfl
theorem rStmt_break (t:S42) (h:isM t [98,114,101,97,107]):Rule [83,116,109,116] t [B [98,114,101,97,107],B [59]] true:=by
 unfold Rule;simp(decide:=true) only[larderref23_rule.f,larderref23_stmt.f,h.1,h.2,is_B,is_B2,B_eq,ite_some,ite_pair,if_true,if_false,Option.bind_some,decide_eq_true_eq]
 first|done|rfl
theorem rStmt_continue (t:S42) (h:isM t [99,111,110,116,105,110,117,101]):Rule [83,116,109,116] t [B [99,111,110,116,105,110,117,101],B [59]] true:=by
 unfold Rule;simp(decide:=true) only[larderref23_rule.f,larderref23_stmt.f,h.1,h.2,is_B,is_B2,B_eq,ite_some,ite_pair,if_true,if_false,Option.bind_some,decide_eq_true_eq]
 first|done|rfl
theorem rStmt_no (t:S42) (h0:t.f2≠110) (h1:¬isM t [100,101,108,101,116,101]) (h2:¬isM t [99,108,101,97,114]) (h3:¬isM t [112,114,105,110,116]) (h4:¬isM t [105,102]) (h5:¬isM t [119,104,105,108,101]) (h6:¬isM t [102,111,114]) (h7:¬isM t [98,114,101,97,107]) (h8:¬isM t [99,111,110,116,105,110,117,101]):Rule [83,116,109,116] t [] false:=by
 unfold Rule;simp(decide:=true) only[larderref23_rule.f,larderref23_stmt.f,is_B,is_B2,B_eq,ite_some,ite_pair,if_true,if_false,Option.bind_some,decide_eq_true_eq];by_cases hm:t.f2=109
 · simp only[isM,hm,true_and]at h1 h2 h3 h4 h5 h6 h7 h8
   simp[hm,h1,h2,h3,h4,h5,h6,h7,h8]
 · simp[h0,hm]
theorem rExpr (t:S42):Rule [69,120,112,114] t [B [76,101,118,101,108,49]] true:=by
 unfold Rule;simp(decide:=true) only[larderref23_rule.f,larderref23_expr.f,is_B,is_B2,B_eq,ite_some,ite_pair,if_true,if_false,Option.bind_some,decide_eq_true_eq]
 first|done|rfl
theorem rKey (t:S42):Rule [75,101,121] t (if isM t [91]then [B [91],B [69,120,112,114],B [93]]else []) true:=by
 unfold Rule;simp(decide:=true) only[larderref23_rule.f,larderref23_expr.f,is_B,is_B2,B_eq,ite_some,ite_pair,if_true,if_false,Option.bind_some,decide_eq_true_eq]
 first|done|rfl
theorem rLevel1 (t:S42):Rule [76,101,118,101,108,49] t [B [76,101,118,101,108,50],B [82,101,115,116,49]] true:=by
 unfold Rule;simp(decide:=true) only[larderref23_rule.f,larderref23_expr.f,is_B,is_B2,B_eq,ite_some,ite_pair,if_true,if_false,Option.bind_some,decide_eq_true_eq]
 first|done|rfl
theorem rRest1 (t:S42):Rule [82,101,115,116,49] t (if t.f2=109∧rank0 t.f0.toList=0 then [t.f0,B [76,101,118,101,108,50],B [82,101,115,116,49]]else []) true:=by
 unfold Rule;simp(decide:=true) only[larderref23_rule.f,larderref23_expr.f,is_B,is_B2,B_eq,ite_some,ite_pair,if_true,if_false,Option.bind_some,decide_eq_true_eq]
 first|done|rfl
theorem rLevel2 (t:S42):Rule [76,101,118,101,108,50] t [B [76,101,118,101,108,51],B [82,101,115,116,50]] true:=by
 unfold Rule;simp(decide:=true) only[larderref23_rule.f,larderref23_expr.f,is_B,is_B2,B_eq,ite_some,ite_pair,if_true,if_false,Option.bind_some,decide_eq_true_eq]
 first|done|rfl
theorem rRest2 (t:S42):Rule [82,101,115,116,50] t (if t.f2=109∧rank0 t.f0.toList=1 then [t.f0,B [76,101,118,101,108,51],B [82,101,115,116,50]]else []) true:=by
 unfold Rule;simp(decide:=true) only[larderref23_rule.f,larderref23_expr.f,is_B,is_B2,B_eq,ite_some,ite_pair,if_true,if_false,Option.bind_some,decide_eq_true_eq]
 first|done|rfl
theorem rLevel3 (t:S42):Rule [76,101,118,101,108,51] t [B [76,101,118,101,108,52],B [82,101,115,116,51]] true:=by
 unfold Rule;simp(decide:=true) only[larderref23_rule.f,larderref23_expr.f,is_B,is_B2,B_eq,ite_some,ite_pair,if_true,if_false,Option.bind_some,decide_eq_true_eq]
 first|done|rfl
theorem rRest3 (t:S42):Rule [82,101,115,116,51] t (if t.f2=109∧rank0 t.f0.toList=2 then [t.f0,B [76,101,118,101,108,52]]else []) true:=by
 unfold Rule;simp(decide:=true) only[larderref23_rule.f,larderref23_expr.f,is_B,is_B2,B_eq,ite_some,ite_pair,if_true,if_false,Option.bind_some,decide_eq_true_eq]
 first|done|rfl
theorem rLevel4 (t:S42):Rule [76,101,118,101,108,52] t [B [76,101,118,101,108,53],B [82,101,115,116,52]] true:=by
 unfold Rule;simp(decide:=true) only[larderref23_rule.f,larderref23_expr.f,is_B,is_B2,B_eq,ite_some,ite_pair,if_true,if_false,Option.bind_some,decide_eq_true_eq]
 first|done|rfl
theorem rRest4 (t:S42):Rule [82,101,115,116,52] t (if t.f2=109∧rank0 t.f0.toList=3 then [t.f0,B [76,101,118,101,108,53],B [82,101,115,116,52]]else []) true:=by
 unfold Rule;simp(decide:=true) only[larderref23_rule.f,larderref23_expr.f,is_B,is_B2,B_eq,ite_some,ite_pair,if_true,if_false,Option.bind_some,decide_eq_true_eq]
 first|done|rfl
theorem rLevel5 (t:S42):Rule [76,101,118,101,108,53] t [B [76,101,118,101,108,54],B [82,101,115,116,53]] true:=by
 unfold Rule;simp(decide:=true) only[larderref23_rule.f,larderref23_expr.f,is_B,is_B2,B_eq,ite_some,ite_pair,if_true,if_false,Option.bind_some,decide_eq_true_eq]
 first|done|rfl
theorem rRest5 (t:S42):Rule [82,101,115,116,53] t (if t.f2=109∧rank0 t.f0.toList=4 then [t.f0,B [76,101,118,101,108,54],B [82,101,115,116,53]]else []) true:=by
 unfold Rule;simp(decide:=true) only[larderref23_rule.f,larderref23_expr.f,is_B,is_B2,B_eq,ite_some,ite_pair,if_true,if_false,Option.bind_some,decide_eq_true_eq]
 first|done|rfl
theorem rLevel6_num (t:S42) (h:t.f2=57):Rule [76,101,118,101,108,54] t [B [78,85,77,66,69,82]] true:=by
 unfold Rule;simp(decide:=true) only[larderref23_rule.f,larderref23_expr.f,larderref23_prim.f,h,is_B,is_B2,B_eq,ite_some,ite_pair,if_true,if_false,Option.bind_some,decide_eq_true_eq]
 first|done|rfl
theorem rLevel6_name (t:S42) (h:t.f2=110):Rule [76,101,118,101,108,54] t [B [78,65,77,69],B [75,101,121]] true:=by
 unfold Rule;simp(decide:=true) only[larderref23_rule.f,larderref23_expr.f,larderref23_prim.f,h,is_B,is_B2,B_eq,ite_some,ite_pair,if_true,if_false,Option.bind_some,decide_eq_true_eq]
 first|done|rfl
theorem rLevel6_minus (t:S42) (h:isM t [45]):Rule [76,101,118,101,108,54] t [t.f0,B [76,101,118,101,108,54]] true:=by
 unfold Rule;obtain⟨a1,a2,nx⟩:=only h;simp(decide:=true) only[larderref23_rule.f,larderref23_expr.f,larderref23_prim.f,a1,a2,nx,h,Bool.true_or,Bool.or_true,Bool.or_false,decide_true,decide_false,is_B,is_B2,B_eq,ite_some,ite_pair,if_true,if_false,Option.bind_some,decide_eq_true_eq]
 first|done|rfl
theorem rLevel6_not (t:S42) (h:isM t [33]):Rule [76,101,118,101,108,54] t [t.f0,B [76,101,118,101,108,54]] true:=by
 unfold Rule;obtain⟨a1,a2,nx⟩:=only h;simp(decide:=true) only[larderref23_rule.f,larderref23_expr.f,larderref23_prim.f,a1,a2,nx,h,Bool.true_or,Bool.or_true,Bool.or_false,decide_true,decide_false,is_B,is_B2,B_eq,ite_some,ite_pair,if_true,if_false,Option.bind_some,decide_eq_true_eq]
 first|done|rfl
theorem rLevel6_has (t:S42) (h:isM t [104,97,115]):Rule [76,101,118,101,108,54] t [B [104,97,115],B [78,65,77,69],B [91],B [69,120,112,114],B [93]] true:=by
 unfold Rule;obtain⟨a1,a2,nx⟩:=only h;simp(decide:=true) only[larderref23_rule.f,larderref23_expr.f,larderref23_prim.f,a1,a2,nx,h,Bool.true_or,Bool.or_true,Bool.or_false,decide_true,decide_false,is_B,is_B2,B_eq,ite_some,ite_pair,if_true,if_false,Option.bind_some,decide_eq_true_eq]
 first|done|rfl
theorem rLevel6_len (t:S42) (h:isM t [108,101,110]):Rule [76,101,118,101,108,54] t [B [108,101,110],B [78,65,77,69]] true:=by
 unfold Rule;obtain⟨a1,a2,nx⟩:=only h;simp(decide:=true) only[larderref23_rule.f,larderref23_expr.f,larderref23_prim.f,a1,a2,nx,h,Bool.true_or,Bool.or_true,Bool.or_false,decide_true,decide_false,is_B,is_B2,B_eq,ite_some,ite_pair,if_true,if_false,Option.bind_some,decide_eq_true_eq]
 first|done|rfl
theorem rLevel6_par (t:S42) (h:isM t [40]):Rule [76,101,118,101,108,54] t [B [40],B [69,120,112,114],B [41]] true:=by
 unfold Rule;obtain⟨a1,a2,nx⟩:=only h;simp(decide:=true) only[larderref23_rule.f,larderref23_expr.f,larderref23_prim.f,a1,a2,nx,h,Bool.true_or,Bool.or_true,Bool.or_false,decide_true,decide_false,is_B,is_B2,B_eq,ite_some,ite_pair,if_true,if_false,Option.bind_some,decide_eq_true_eq]
 first|done|rfl
theorem rLevel6_no (t:S42) (a1:¬t.f2=57) (a2:¬t.f2=110) (n45:¬isM t [45]) (n33:¬isM t [33]) (nhas:¬isM t [104,97,115]) (nlen:¬isM t [108,101,110]) (npar:¬isM t [40]):Rule [76,101,118,101,108,54] t ([]:List Bs) false:=by
 unfold Rule;simp(decide:=true) only[larderref23_rule.f,larderref23_expr.f,larderref23_prim.f,is_B,is_B2,B_eq,ite_some,ite_pair,if_true,if_false,Option.bind_some,decide_eq_true_eq];simp[*]
def WF (l:List S42):Prop:=∃init t,l=init++[t]∧(t.f2=36∨t.f2=63)
theorem WF.ne {l:List S42} (h:WF l):l≠[]:=by
 obtain⟨i,t,rfl,_⟩:=h;simp
theorem WF.cons {l:List S42} (h:WF l):l=hd l::l.tail:=by
 cases l with
 |nil=>exact absurd rfl h.ne
 |cons a l=>rfl
theorem WF.tail {l:List S42} (h:WF l) (h1:(hd l).f2≠36) (h2:(hd l).f2≠63):WF l.tail:=by
 obtain⟨i,t,rfl,ht⟩:=h;cases i with
 |nil=>
  exfalso;have e:(hd ([]++[t]))=t:=rfl;rw[e]at h1 h2;rcases ht with q|q
  · exact h1 q
  · exact h2 q
 |cons a i=>exact⟨i,t,rfl,ht⟩
def MX:Nat:=8796093022208
def SimAt {α:Type} (R ex:List S42) (N:Nat) (o:Out α) (Xs:List Bs) (l:List S42):Prop:=
 WF l→∀(st:List Bs) (i:Nat),R.drop i=l++ex→st.length+Xs.length+N<MX→
  match o with
  |none=>True
  |some (.error e)=>∃j:Nat,∃h:j<R.length,R[j].f1=e.1∧F R (st++Xs.reverse) i ((j:Int),e.2)
  |some (.ok x)=>WF x.2∧∃i',R.drop i'=x.2++ex∧∀r,F R st i' r→F R (st++Xs.reverse) i r
theorem SimAt.weaken {α:Type} {R ex:List S42} {N N':Nat} {o:Out α} {Xs:List Bs} {l:List S42} (h:SimAt R ex N o Xs l) (hN:N≤N'):SimAt R ex N' o Xs l:=
 fun hw st i hd hs=>h hw st i hd (by omega)
theorem SimAt.pok {α:Type} {R ex:List S42} {N:Nat} (x:α) (l:List S42):SimAt R ex N (some (.ok (x,l))) [] l:=
 fun hw st i hd hs=>⟨hw,i,hd,fun r h=>by simpa using h⟩
theorem SimAt.bind {α β:Type} {R ex:List S42} {N:Nat} {p:P α} {q:α→P β} {Xs Ys:List Bs} {l:List S42}
 (h1:SimAt R ex N (p l) Xs l) (h2:∀x l',WF l'→SimAt R ex N (q x l') Ys l'):SimAt R ex N (pbind p q l) (Xs++Ys) l:=by
 intro hw st i hd hs;have e:st++(Xs++Ys).reverse=(st++Ys.reverse)++Xs.reverse:=by simp
 have k1:=h1 hw (st++Ys.reverse) i hd (by simp at hs⊢;omega);rw[e];unfold pbind;cases hp:p l with
 |none=>exact trivial
 |some o=>
  rw[hp]at k1;cases o with
  |error e=>exact k1
  |ok x=>
   obtain⟨x,l1⟩:=x;obtain⟨hw1,i1,hd1,k1⟩:=k1;have k2:=h2 x l1 hw1 hw1 st i1 hd1 (by simp at hs⊢;omega);show match q x l1 with|none=>True|some (.error e)=>_|some (.ok x)=>_
   cases hq:q x l1 with
   |none=>exact trivial
   |some o=>
    rw[hq]at k2;cases o with
    |error e=>
     obtain⟨j,hj,hl,k2⟩:=k2;exact⟨j,hj,hl,k1 _ k2⟩
    |ok y=>
     obtain⟨hw2,i2,hd2,k2⟩:=k2;exact⟨hw2,i2,hd2,fun r hr=>k1 _ (k2 r hr)⟩
theorem drop_get {R ex l:List S42} {i:Nat} (hw:WF l) (hd1:R.drop i=l++ex):∃h:i<R.length,R[i]=hd l∧R.drop (i+1)=l.tail++ex:=by
 have hi:i<R.length:=by
  rcases Nat.lt_or_ge i R.length with h|h
  · exact h
  · rw[List.drop_of_length_le h]at hd1
    have:=congrArg List.length hd1;rw[hw.cons]at this;simp at this
 refine⟨hi,?_⟩;rw[List.drop_eq_getElem_cons hi,hw.cons]at hd1;simp only[List.cons_append]at hd1;injection hd1 with a b
 exact⟨a,b⟩
theorem SimAt.growl {α:Type} {R ex:List S42} {N:Nat} {o:Out α} {X:List UInt8} {next Ys:List Bs} {l:List S42} (hR:R.length<1000000000)
 (hX:X∈things) (hr:Rule X (hd l) next true) (hn:next.length≤8) (h:SimAt R ex N o (next++Ys) l):SimAt R ex (N+8) o (B X::Ys) l:=by
 intro hw st i hd1 hs;have k:=h hw st i hd1 (by simp at hs⊢;omega);obtain⟨hi,hg,_⟩:=drop_get hw hd1;rw[List.reverse_append,← List.append_assoc]at k;rw[List.reverse_cons,← List.append_assoc]
 have T:∀r,F R (st++Ys.reverse++next.reverse) i r→F R (st++Ys.reverse++[B X]) i r:=by
  intro r hF;refine F_turn R _ (B X) i r (by unfold MX at hs;simp at hs⊢;omega) hi ?_ ?_ hR
  · intro _
    refine⟨next,true,?_,by omega,fun _=>⟨by unfold MX at hs;simp at hs⊢;omega,hF⟩,fun q=>by cases q⟩;rw[hg];exact⟨0,hr⟩
  · intro q
    rw[B_toList]at q;exact absurd hX q
 cases o with
 |none=>exact trivial
 |some o=>
  cases o with
  |error e=>
   obtain⟨j,hj,hl,k⟩:=k;exact⟨j,hj,hl,T _ k⟩
  |ok x=>
   obtain⟨hw1,i1,hd2,k⟩:=k;exact⟨hw1,i1,hd2,fun r q=>T _ (k r q)⟩
theorem SimAt.grow {α:Type} {R ex:List S42} {N:Nat} {o:Out α} {X:List UInt8} {next:List Bs} {l:List S42} (hR:R.length<1000000000)
 (hX:X∈things) (hr:Rule X (hd l) next true) (hn:next.length≤8) (h:SimAt R ex N o next l):SimAt R ex (N+8) o [B X] l:=
 SimAt.growl hR hX hr hn (by rwa [List.append_nil])
theorem SimAt.no {α:Type} {R ex:List S42} {N:Nat} {X:List UInt8} {Xs:List Bs} {l:List S42} (hR:R.length<1000000000)
 (hX:X∈things) (hr:Rule X (hd l) [] false):SimAt R ex N (some (.error ((hd l).f1,230)):Out α) (B X::Xs) l:=by
 intro hw st i hd1 hs;obtain⟨hi,hg,_⟩:=drop_get hw hd1;refine⟨i,hi,by rw[hg],?_⟩;rw[List.reverse_cons,← List.append_assoc];refine F_turn R _ (B X) i _ (by unfold MX at hs;simp at hs⊢;omega) hi ?_ ?_ hR
 · intro _
   refine⟨[],false,?_,by simp,(fun q=>by cases q),fun _=>rfl⟩;rw[hg];exact⟨0,hr⟩
 · intro q
   rw[B_toList]at q;exact absurd hX q
theorem SimAt.take {α:Type} {R ex:List S42} {N:Nat} {o:Out α} {X:Bs} {Xs:List Bs} {l:List S42} (hR:R.length<1000000000)
 (hX:X.toList ∉ things) (hm:larderref23_matches.f X (hd l).f0 (hd l).f1 (hd l).f2 (hd l).f3 (hd l).f4=some true) (hn:X.toList≠[78,85,77,66,69,82])
 (h1:(hd l).f2≠36) (h2:(hd l).f2≠63) (h:SimAt R ex N o Xs l.tail):SimAt R ex N o (X::Xs) l:=by
 intro hw st i hd1 hs;obtain⟨hi,hg,hd2⟩:=drop_get hw hd1;have k:=h (hw.tail h1 h2) st (i+1) hd2 (by simp at hs⊢;omega);rw[List.reverse_cons,← List.append_assoc]
 have T:∀r,F R (st++Xs.reverse) (i+1) r→F R (st++Xs.reverse++[X]) i r:=by
  intro r hF;refine F_turn R _ X i r (by unfold MX at hs;simp at hs⊢;omega) hi (fun q=>absurd q hX) ?_ hR;intro _;refine⟨true,by rw[hg];exact hm,(fun q=>by cases q),fun _=>⟨fun _=>hF,fun q=>absurd q hn⟩⟩
 cases o with
 |none=>exact trivial
 |some o=>
  cases o with
  |error e=>
   obtain⟨j,hj,hl,k⟩:=k;exact⟨j,hj,hl,T _ k⟩
  |ok x=>
   obtain⟨hw1,i1,hd3,k⟩:=k;exact⟨hw1,i1,hd3,fun r q=>T _ (k r q)⟩
theorem SimAt.miss {α:Type} {R ex:List S42} {N:Nat} {X:Bs} {Xs:List Bs} {l:List S42} (hR:R.length<1000000000)
 (hX:X.toList ∉ things) (hm:larderref23_matches.f X (hd l).f0 (hd l).f1 (hd l).f2 (hd l).f3 (hd l).f4=some false):SimAt R ex N (some (.error ((hd l).f1,230)):Out α) (X::Xs) l:=by
 intro hw st i hd1 hs;obtain⟨hi,hg,_⟩:=drop_get hw hd1;refine⟨i,hi,by rw[hg],?_⟩;rw[List.reverse_cons,← List.append_assoc];refine F_turn R _ X i _ (by unfold MX at hs;simp at hs⊢;omega) hi (fun q=>absurd q hX) ?_ hR;intro _;exact⟨false,by rw[hg];exact hm,fun _=>rfl,fun q=>by cases q⟩
def plainMark (m:List UInt8):Prop:=m ∉ things∧m≠[78,65,77,69]∧m≠[78,85,77,66,69,82]∧m≠[69,78,68]
instance (m:List UInt8):Decidable (plainMark m):=by unfold plainMark;exact inferInstance
theorem matches_mark {m:List UInt8} (hm:plainMark m) (t:S42):larderref23_matches.f (B m) t.f0 t.f1 t.f2 t.f3 t.f4=some (decide (isM t m)):=by
 unfold larderref23_matches.f;obtain⟨_,h1,h2,h3⟩:=hm;simp only[B_eq,if_neg h1,if_neg h2,if_neg h3];by_cases e:t.f2=109
 · simp only[if_pos e,B_toList]
   congr 1;by_cases q:t.f0.toList=m
   · have:isM t m:=⟨e,q⟩
     simp[this,q]
   · have:¬isM t m:=fun a=>q a.2
     simp[this,q]
 · have:¬isM t m:=fun a=>e a.1
   simp[e,this]
theorem SimAt.tok {R ex:List S42} {N:Nat} (hR:R.length<1000000000) {m:List UInt8} (hm:plainMark m) (l:List S42):SimAt R ex N (ptok m l) [B m] l:=by
 unfold ptok;by_cases h:isM (hd l) m
 · rw[if_pos h]
   refine SimAt.take hR (by rw[B_toList];exact hm.1) (by rw[matches_mark hm,decide_eq_true h]) (by rw[B_toList];exact hm.2.2.1) (by rw[h.1];decide) (by rw[h.1];decide) ?_;exact SimAt.pok _ _
 · rw[if_neg h]
   exact SimAt.miss hR (by rw[B_toList];exact hm.1) (by rw[matches_mark hm,decide_eq_false h])
theorem SimAt.here {α:Type} {R ex:List S42} {N:Nat} {o:Out α} {Xs:List Bs} (hR:R.length<1000000000) {m:List UInt8} (hm:plainMark m) {l:List S42} (h:isM (hd l) m) (k:SimAt R ex N o Xs l.tail):SimAt R ex N o (B m::Xs) l:=
 SimAt.take hR (by rw[B_toList];exact hm.1) (by rw[matches_mark hm,decide_eq_true h]) (by rw[B_toList];exact hm.2.2.1) (by rw[h.1];decide) (by rw[h.1];decide) k
theorem SimAt.name {R ex:List S42} {N:Nat} (hR:R.length<1000000000) (l:List S42):SimAt R ex N (pname l) [B [78,65,77,69]] l:=by
 unfold pname
 have hm:larderref23_matches.f (B [78,65,77,69]) (hd l).f0 (hd l).f1 (hd l).f2 (hd l).f3 (hd l).f4=some ((hd l).f2==110):=by
  unfold larderref23_matches.f;simp only[B_eq,if_true]
 by_cases h:(hd l).f2=110
 · rw[if_pos h]
   refine SimAt.take hR (by rw[B_toList];decide) (by rw[hm,h];rfl) (by rw[B_toList];decide) (by rw[h];decide) (by rw[h];decide) ?_;exact SimAt.pok _ _
 · rw[if_neg h]
   exact SimAt.miss hR (by rw[B_toList];decide) (by rw[hm];simp[h])
def NumOk (t:S42):Prop:=t.f2=57→Ev (fun k=>larderref23_great.f k t.f0) (numOf t.f0.toList).isNone
theorem SimAt.num {R ex:List S42} {N:Nat} (hR:R.length<1000000000) (l:List S42) (h:(hd l).f2=57) (hn:∀t∈R,NumOk t):SimAt R ex N (pnum l) [B [78,85,77,66,69,82]] l:=by
 intro hw st i hd1 hs;obtain⟨hi,hg,hd2⟩:=drop_get hw hd1;have hgr:=hn _ (List.getElem_mem hi);rw[NumOk,hg]at hgr;have hgr:=hgr h
 have T:∀r,((numOf (hd l).f0.toList).isNone=true→r=((i:Int),161))→((numOf (hd l).f0.toList).isNone=false→F R st (i+1) r)→F R (st++[B [78,85,77,66,69,82]]) i r:=by
  intro r h1 h2;refine F_turn R st _ i r (by unfold MX at hs;simp at hs;omega) hi ?_ ?_ hR
  · intro q;rw[B_toList]at q;exact absurd q (by decide)
  · intro _
    refine⟨true,?_,(fun q=>by cases q),fun _=>⟨fun q=>absurd (B_toList _) q,fun _=>⟨_,by rw[hg];exact hgr,h1,h2⟩⟩⟩;rw[hg];unfold larderref23_matches.f;simp(decide:=true) only[B_eq,if_true,if_false,h]
 unfold pnum;cases hv:numOf (hd l).f0.toList with
 |none=>
  refine⟨i,hi,by rw[hg],?_⟩;exact T _ (fun _=>rfl) (fun q=>by rw[hv]at q;cases q)
 |some v=>
  refine⟨hw.tail (by rw[h];decide) (by rw[h];decide),i+1,hd2,?_⟩;intro r hF;exact T _ (fun q=>by rw[hv]at q;cases q) (fun _=>hF)
def lv:Nat→List UInt8
 |1=>[76,101,118,101,108,49]|2=>[76,101,118,101,108,50]|3=>[76,101,118,101,108,51]
 |4=>[76,101,118,101,108,52]|5=>[76,101,118,101,108,53]|_=>[76,101,118,101,108,54]
def rs:Nat→List UInt8
 |1=>[82,101,115,116,49]|2=>[82,101,115,116,50]|3=>[82,101,115,116,51]|4=>[82,101,115,116,52]|_=>[82,101,115,116,53]
theorem low_cases {low:Nat} (h:low<5):low=0∨low=1∨low=2∨low=3∨low=4:=by omega
theorem lv_rule {low:Nat} (h:low<5) (t:S42):lv (low+1)∈things∧Rule (lv (low+1)) t [B (lv (low+2)),B (rs (low+1))] true:=by
 rcases low_cases h with rfl|rfl|rfl|rfl|rfl
 · exact⟨by decide,rLevel1 t⟩
 · exact⟨by decide,rLevel2 t⟩
 · exact⟨by decide,rLevel3 t⟩
 · exact⟨by decide,rLevel4 t⟩
 · exact⟨by decide,rLevel5 t⟩
theorem rs_rule {low:Nat} (h:low<5) (t:S42):rs (low+1)∈things∧Rule (rs (low+1)) t (if t.f2=109∧rank0 t.f0.toList=(low:Int)then(if low=2 then [t.f0,B (lv (low+2))]else [t.f0,B (lv (low+2)),B (rs (low+1))])else []) true:=by
 rcases low_cases h with rfl|rfl|rfl|rfl|rfl
 · exact⟨by decide,rRest1 t⟩
 · exact⟨by decide,rRest2 t⟩
 · exact⟨by decide,rRest3 t⟩
 · exact⟨by decide,rRest4 t⟩
 · exact⟨by decide,rRest5 t⟩
theorem rank_plain {m:List UInt8} {low:Nat} (h:rank0 m=(low:Int)):plainMark m:=by
 have hm:m∈[[124,124],[38,38],[61,61],[33,61],[60],[60,61],[62],[62,61],[43],[45],[42],[47],[37]]:=by
  unfold rank0 at h;simp only[List.mem_cons,List.not_mem_nil,or_false];split at h
  · simp_all
  split at h
  · simp_all
  split at h
  · rename_i q;rcases q with q|q|q|q|q|q<;>simp[q]
  split at h
  · rename_i q;rcases q with q|q<;>simp[q]
  split at h
  · rename_i q;rcases q with q|q|q<;>simp[q]
  · omega
 revert hm;generalize m=m;intro hm;simp only[List.mem_cons,List.not_mem_nil,or_false]at hm;rcases hm with rfl|rfl|rfl|rfl|rfl|rfl|rfl|rfl|rfl|rfl|rfl|rfl|rfl<;>decide
theorem B_self {x:Bs} {m:List UInt8} (h:x.toList=m):x=B m:=bt_lit.mp h
theorem SimAt.hereO {α:Type} {R ex:List S42} {N:Nat} {o:Out α} {Xs:List Bs} (hR:R.length<1000000000) {l:List S42} (hm:plainMark (hd l).f0.toList) (h:(hd l).f2=109) (k:SimAt R ex N o Xs l.tail):SimAt R ex N o ((hd l).f0::Xs) l:=by
 have e:(hd l).f0=B (hd l).f0.toList:=B_self rfl;have q:SimAt R ex N o (B (hd l).f0.toList::Xs) l:=SimAt.here hR hm ⟨h,rfl⟩ k
 rwa [← e]at q
section
variable {R ex:List S42} (hR:R.length<1000000000) (hn:∀t∈R,NumOk t)
include hR hn
theorem sim_expr:∀(k:Nat),
 (∀low,low≤5→∀l,SimAt R ex (16*k) (pExpr k low l) [B (lv (low+1))] l)∧
 (∀low,low<5→∀x l,SimAt R ex (16*k) (pLoop k low x l) [B (rs (low+1))] l)∧
 (∀l,SimAt R ex (16*k) (pUn k l) [B (lv 6)] l)∧
 (∀l,SimAt R ex (16*k) (pKey k l) [B [91],B [69,120,112,114],B [93]] l)
 |0=>⟨fun low _ l hw st i _ _=>by rw[pExpr];exact trivial,fun low _ x l hw st i _ _=>by rw[pLoop];exact trivial,fun l hw st i _ _=>by rw[pUn];exact trivial,fun l hw st i _ _=>by rw[pKey];exact trivial⟩
 |k+1=>by
  obtain⟨ih1,ih2,ih3,ih4⟩:=sim_expr k;have hE:∀l,SimAt R ex (16*k+8) (pExpr k 0 l) [B [69,120,112,114]] l:=fun l=>SimAt.grow hR (by decide) (rExpr _) (by simp) (ih1 0 (by omega) l)
  refine⟨?_,?_,?_,?_⟩
  · intro low hlow l
    rw[pExpr];by_cases h5:low=5
    · subst h5
      rw[if_pos rfl];exact(ih3 l).weaken (by omega)
    · rw[if_neg h5]
      have hlt:low<5:=by omega
      refine(SimAt.grow hR (lv_rule hlt (hd l)).1 (lv_rule hlt (hd l)).2 (by simp) ?_:SimAt R ex (16*k+8) _ _ _).weaken (by omega);exact SimAt.bind (Xs:=[B (lv (low+2))]) (ih1 (low+1) (by omega) l) (fun x l' _=>ih2 low hlt x l')
  · intro low hlt x l
    rw[pLoop];dsimp only;have hru:=rs_rule hlt (hd l);by_cases hc:(hd l).f2=109∧rank0 (hd l).f0.toList=(low:Int)
    · rw[if_pos hc]at hru⊢
      have hpm:=rank_plain hc.2;refine(SimAt.grow (N:=16*k+8) hR hru.1 hru.2 (by split<;>simp) ?_).weaken (by omega);by_cases h2:low=2
      · rw[if_pos h2]
        refine SimAt.hereO hR hpm hc.1 ?_;refine(SimAt.bind (Xs:=[B (lv (low+2))]) (Ys:=[]) (ih1 (low+1) (by omega) _) (fun y l' _=> ?_)).weaken (by omega);simp only[if_pos h2];exact SimAt.pok _ _
      · rw[if_neg h2]
        refine SimAt.hereO hR hpm hc.1 ?_;refine(SimAt.bind (Xs:=[B (lv (low+2))]) (Ys:=[B (rs (low+1))]) (ih1 (low+1) (by omega) _) (fun y l' _=> ?_)).weaken (by omega);simp only[if_neg h2];exact ih2 low hlt _ l'
    · rw[if_neg hc]at hru⊢
      refine(SimAt.grow (N:=16*k+8) hR hru.1 hru.2 (by simp) ?_).weaken (by omega);exact SimAt.pok _ _
  · intro l
    have h6:(lv 6)∈things:=by decide
    have hK:∀l,SimAt R ex (16*k) (pKey k l) [B [91],B [69,120,112,114],B [93]] l:=ih4;rw[pUn];dsimp only;by_cases c1:isM (hd l) [45]
    · rw[if_pos c1]
      have eB:(hd l).f0=B [45]:=B_self c1.2;have hr:=rLevel6_minus (hd l) c1;rw[eB]at hr;refine(SimAt.grow (N:=16*k+8) hR h6 hr (by simp) ?_).weaken (by omega);refine SimAt.here hR (by decide) c1 ?_;exact(SimAt.bind (Xs:=[B (lv 6)]) (Ys:=[]) (ih3 _) (fun y l' _=>SimAt.pok _ _)).weaken (by omega)
    rw[if_neg c1];by_cases c2:isM (hd l) [33]
    · rw[if_pos c2]
      have eB:(hd l).f0=B [33]:=B_self c2.2;have hr:=rLevel6_not (hd l) c2;rw[eB]at hr;refine(SimAt.grow (N:=16*k+8) hR h6 hr (by simp) ?_).weaken (by omega);refine SimAt.here hR (by decide) c2 ?_;exact(SimAt.bind (Xs:=[B (lv 6)]) (Ys:=[]) (ih3 _) (fun y l' _=>SimAt.pok _ _)).weaken (by omega)
    rw[if_neg c2];by_cases c3:(hd l).f2=57
    · rw[if_pos c3]
      refine(SimAt.grow (N:=16*k+8) hR h6 (rLevel6_num (hd l) c3) (by simp) ?_).weaken (by omega);exact SimAt.num hR l c3 hn
    rw[if_neg c3];by_cases c4:isM (hd l) [40]
    · rw[if_pos c4]
      refine(SimAt.grow (N:=16*k+8) hR h6 (rLevel6_par (hd l) c4) (by simp) ?_).weaken (by omega);refine SimAt.here hR (by decide) c4 ?_;refine SimAt.bind (Xs:=[B [69,120,112,114]]) (Ys:=[B [41]]) (hE _) (fun x l' _=> ?_);exact SimAt.bind (Xs:=[B [41]]) (Ys:=[]) (SimAt.tok hR (by decide) l') (fun _ l' _=>SimAt.pok _ _)
    rw[if_neg c4];by_cases c5:isM (hd l) [104,97,115]
    · rw[if_pos c5]
      refine(SimAt.grow (N:=16*k+8) hR h6 (rLevel6_has (hd l) c5) (by simp) ?_).weaken (by omega);refine SimAt.here hR (by decide) c5 ?_;refine SimAt.bind (Xs:=[B [78,65,77,69]]) (SimAt.name hR _) (fun s l' _=> ?_);exact(SimAt.bind (Ys:=[]) (hK l') (fun _ l' _=>SimAt.pok _ _)).weaken (by omega)
    rw[if_neg c5];by_cases c6:isM (hd l) [108,101,110]
    · rw[if_pos c6]
      refine(SimAt.grow (N:=16*k+8) hR h6 (rLevel6_len (hd l) c6) (by simp) ?_).weaken (by omega);refine SimAt.here hR (by decide) c6 ?_;exact SimAt.bind (Xs:=[B [78,65,77,69]]) (Ys:=[]) (SimAt.name hR _) (fun s l' _=>SimAt.pok _ _)
    rw[if_neg c6];by_cases c7:(hd l).f2=110
    · refine(SimAt.grow (N:=16*k+8) hR h6 (rLevel6_name (hd l) c7) (by simp) ?_).weaken (by omega)
      refine SimAt.bind (Xs:=[B [78,65,77,69]]) (Ys:=[B [75,101,121]]) (SimAt.name hR _) (fun s l' _=> ?_);have hrk:=rKey (hd l');by_cases c8:isM (hd l') [91]
      · rw[if_pos c8]at hrk⊢
        refine SimAt.grow (N:=16*k) hR (by decide) hrk (by simp) ?_;exact SimAt.bind (Ys:=[]) (hK l') (fun _ l' _=>SimAt.pok _ _)
      · rw[if_neg c8]at hrk⊢
        exact SimAt.grow (N:=16*k) hR (by decide) hrk (by simp) (SimAt.pok _ _)
    · have e:pbind pname (fun s l1=>if isM (hd l1) [91]then pbind (pKey k) (fun x=>pok (xIndex s x)) l1 else some (.ok (xName s,l1))) l=some (.error ((hd l).f1,230)):=by
       unfold pbind pname pfail;rw[if_neg c7]
      rw[e];exact SimAt.no hR h6 (rLevel6_no (hd l) c3 c7 c1 c2 c5 c6 c4)
  · intro l
    rw[pKey];refine SimAt.bind (Xs:=[B [91]]) (Ys:=[B [69,120,112,114],B [93]]) (SimAt.tok hR (by decide) l) (fun _ l' _=> ?_);refine SimAt.bind (Xs:=[B [69,120,112,114]]) (Ys:=[B [93]]) ((hE _).weaken (by omega)) (fun x l' _=> ?_);exact SimAt.bind (Xs:=[B [93]]) (Ys:=[]) (SimAt.tok hR (by decide) l') (fun _ l' _=>SimAt.pok _ _)
end
end Go.Proofs.YtbemddpmohoooaaGreatDoor
