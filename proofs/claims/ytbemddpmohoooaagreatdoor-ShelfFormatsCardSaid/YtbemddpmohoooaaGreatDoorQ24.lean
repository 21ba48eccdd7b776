import Derived.Test.YtbemddpmohoooaaGreatDoorQ23
set_option linter.unusedVariables false
set_option linter.unusedSimpArgs false
set_option linter.unusedSectionVars false
set_option maxHeartbeats 128000000
set_option maxRecDepth 100000
namespace Go.Proofs.YtbemddpmohoooaaGreatDoor
open PShelfFormats RowKit YtbemddpmohoooaaGreatDoorW.PrintWords YtbemddpmohoooaaGreatDoorW.PrintLast YtbemddpmohoooaaGreatDoorW.PrintMore
def kExpr:Bs:=B [69,120,112,114]
def kName:Bs:=B [78,65,77,69]
def kBlock:Bs:=B [66,108,111,99,107]
def kStmts:Bs:=B [83,116,109,116,115]
def kStmt:Bs:=B [83,116,109,116]
def kElse:Bs:=B [69,108,115,101]
def kEnd:Bs:=B [69,78,68]
def kMaps:Bs:=B [77,97,112,115]
theorem pStmt_bad (k:Nat) (l:List S42) (h0:(hd l).f2≠110) (h1:¬isM (hd l) [100,101,108,101,116,101]) (h2:¬isM (hd l) [99,108,101,97,114]) (h3:¬isM (hd l) [112,114,105,110,116]) (h4:¬isM (hd l) [105,102]) (h5:¬isM (hd l) [119,104,105,108,101]) (h6:¬isM (hd l) [102,111,114]) (h7:¬isM (hd l) [98,114,101,97,107]) (h8:¬isM (hd l) [99,111,110,116,105,110,117,101]):
 pStmt (k+1) l=some (.error ((hd l).f1,230)):=by
 rw[pStmt];dsimp only;rw[if_neg h0,if_neg h1,if_neg h2,if_neg h3,if_neg h4,if_neg h5,if_neg h6,if_neg h7];unfold pbind ptok pfail;rw[if_neg h8]
theorem not_word {t:S42} {m n:List UInt8} (h:isM t m) (d:m≠n):¬isM t n:=fun q=>d (h.2.symm.trans q.2)
theorem not_mark {t:S42} {n:List UInt8} (h:t.f2≠109):¬isM t n:=fun q=>h q.1
theorem pStmt_end (k:Nat) (l:List S42) (h:(hd l).f2=36∨isM (hd l) [125]):pStmt k l=none∨pStmt k l=some (.error ((hd l).f1,230)):=by
 cases k with
 |zero=>exact Or.inl (by rw[pStmt])
 |succ k=>
  refine Or.inr ?_;rcases h with h|h
  · have e:(hd l).f2≠109:=by rw[h];decide
    exact pStmt_bad k l (by rw[h];decide) (not_mark e) (not_mark e) (not_mark e) (not_mark e) (not_mark e) (not_mark e) (not_mark e) (not_mark e)
  · exact pStmt_bad k l (by rw[h.1];decide) (not_word h (by decide)) (not_word h (by decide)) (not_word h (by decide)) (not_word h (by decide)) (not_word h (by decide)) (not_word h (by decide)) (not_word h (by decide)) (not_word h (by decide))
section
variable {R ex:List S42} (hR:R.length<1000000000) (hn:∀t∈R,NumOk t)
include hR hn
theorem sim_e (k:Nat) (l:List S42):SimAt R ex (16*k+8) (pExpr k 0 l) [kExpr] l:=
 SimAt.grow hR (by decide) (rExpr _) (by simp) ((sim_expr hR hn k).1 0 (by omega) l)
theorem sim_key (k:Nat) (l:List S42):SimAt R ex (16*k) (pKey k l) [B [91],kExpr,B [93]] l:=(sim_expr hR hn k).2.2.2 l
theorem sim_set (k:Nat) (l:List S42):SimAt R ex (16*k+16) (pSet k l) [kName,B [65,102,116,101,114]] l:=by
 unfold pSet;refine SimAt.bind (Xs:=[kName]) (SimAt.name hR l) (fun s l1 _=> ?_);have hr:=rAfter (hd l1);by_cases c:isM (hd l1) [91]
 · rw[if_pos c]at hr⊢
   refine SimAt.grow (N:=16*k+8) hR (by decide) hr (by simp) ?_;refine SimAt.bind (Xs:=[B [91],kExpr,B [93]]) ((sim_key hR hn k _).weaken (by omega)) (fun x l2 _=> ?_);refine SimAt.bind (Xs:=[B [61]]) (SimAt.tok hR (by decide) _) (fun _ l3 _=> ?_);refine SimAt.bind (Xs:=[kExpr]) (sim_e hR hn k _) (fun y l4 _=> ?_);exact SimAt.bind (Xs:=[B [59]]) (Ys:=[]) (SimAt.tok hR (by decide) _) (fun _ l3 _=>SimAt.pok _ _)
 · rw[if_neg c]at hr⊢
   refine SimAt.grow (N:=16*k+8) hR (by decide) hr (by simp) ?_;refine SimAt.bind (Xs:=[B [61]]) (SimAt.tok hR (by decide) _) (fun _ l3 _=> ?_);refine SimAt.bind (Xs:=[kExpr]) (sim_e hR hn k _) (fun y l4 _=> ?_);exact SimAt.bind (Xs:=[B [59]]) (Ys:=[]) (SimAt.tok hR (by decide) _) (fun _ l3 _=>SimAt.pok _ _)
theorem sim_items:∀(k:Nat) (xs:List S80) (l:List S42),SimAt R ex (16*k+8) (pItems k xs l) [B [77,111,114,101]] l
 |0,xs,l=>fun _ _ _ _ _=>by rw[pItems];exact trivial
 |k+1,xs,l=>by
  rw[pItems];dsimp only;have hr:=rMore (hd l);by_cases c:isM (hd l) [59]
  · have c2:¬isM (hd l) [44]:=fun q=>absurd (c.2.symm.trans q.2) (by decide)
    rw[if_neg c2]at hr;rw[if_pos c];refine(SimAt.grow (N:=16*k+8) hR (by decide) hr (by simp) ?_).weaken (by omega);exact SimAt.here hR (by decide) c (SimAt.pok _ _)
  · rw[if_neg c]
    by_cases c2:isM (hd l) [44]
    · rw[if_pos c2]at hr
      refine(SimAt.grow (N:=16*k+8) hR (by decide) hr (by simp) ?_).weaken (by omega);refine SimAt.bind (Xs:=[B [44]]) (SimAt.tok hR (by decide) _) (fun _ l3 _=> ?_);refine SimAt.bind (Xs:=[kExpr]) (sim_e hR hn k _) (fun y l4 _=> ?_);exact sim_items k _ _
    · rw[if_neg c2]at hr
      refine(SimAt.grow (N:=16*k+8) hR (by decide) hr (by simp) ?_).weaken (by omega)
      have e:pbind (ptok [44]) (fun _=>pbind (pExpr k 0) (fun x=>pItems k (xs++[x]))) l=some (.error ((hd l).f1,230)):=by
       unfold pbind ptok pfail;rw[if_neg c2]
      rw[e];exact SimAt.miss hR (by rw[B_toList];decide) (by rw[matches_mark (by decide),decide_eq_false c])
theorem sim_print (k:Nat) (l:List S42):SimAt R ex (16*k+16) (pPrint k l) [B [73,116,101,109,115]] l:=by
 unfold pPrint;have hr:=rItems (hd l);by_cases c:isM (hd l) [59]
 · rw[if_pos c]at hr⊢
   refine SimAt.grow (N:=16*k+8) hR (by decide) hr (by simp) ?_;exact SimAt.here hR (by decide) c (SimAt.pok _ _)
 · rw[if_neg c]at hr⊢
   refine SimAt.grow (N:=16*k+8) hR (by decide) hr (by simp) ?_;refine SimAt.bind (Xs:=[kExpr]) (sim_e hR hn k _) (fun y l4 _=> ?_);exact sim_items hR hn k _ _
theorem sim_stmt:∀(k:Nat),
 (∀l,SimAt R ex (32*k+32) (pStmt k l) [kStmt] l)∧
 (∀l,SimAt R ex (32*k+32) (pCond k l) [kExpr,kBlock,kElse] l)∧
 (∀l,SimAt R ex (32*k+32) (pBlock k l) [kBlock] l)∧
 (∀xs l,SimAt R ex (32*k+32) (pBody k xs l) [kStmts,B [125]] l)
 |0=>⟨fun l hw st i _ _=>by rw[pStmt];exact trivial,fun l hw st i _ _=>by rw[pCond];exact trivial,fun l hw st i _ _=>by rw[pBlock];exact trivial,fun xs l hw st i _ _=>by rw[pBody];exact trivial⟩
 |k+1=>by
  obtain⟨ih1,ih2,ih3,ih4⟩:=sim_stmt k;have hE:∀l,SimAt R ex (32*k+32) (pExpr k 0 l) [kExpr] l:=fun l=>(sim_e hR hn k l).weaken (by omega)
  have hT:∀(m:List UInt8),plainMark m→∀l,SimAt R ex (32*k+32) (ptok m l) [B m] l:=fun m hm l=>SimAt.tok hR hm l
  have hN:∀l,SimAt R ex (32*k+32) (pname l) [kName] l:=fun l=>SimAt.name hR l
  have hS:kStmt=B [83,116,109,116]:=rfl;refine⟨?_,?_,?_,?_⟩
  · intro l
    by_cases c0:(hd l).f2=110
    · rw[pStmt]
      dsimp only;rw[if_pos c0];refine(SimAt.grow (N:=32*k+32) hR (by decide) (rStmt_name _ c0) (by simp) ?_).weaken (by omega);exact(sim_set hR hn k l).weaken (by omega)
    by_cases c1:isM (hd l) [100,101,108,101,116,101]
    · rw[pStmt]
      dsimp only;rw[if_neg c0,if_pos c1];refine(SimAt.grow (N:=32*k+32) hR (by decide) (rStmt_delete _ c1) (by simp) ?_).weaken (by omega);refine SimAt.here hR (by decide) c1 ?_;refine SimAt.bind (Xs:=[kName]) (hN _) (fun s l1 _=> ?_);refine SimAt.bind (Xs:=[B [91],kExpr,B [93]]) ((sim_key hR hn k _).weaken (by omega)) (fun x l2 _=> ?_);exact SimAt.bind (Xs:=[B [59]]) (Ys:=[]) (hT _ (by decide) _) (fun _ l3 _=>SimAt.pok _ _)
    by_cases c2:isM (hd l) [99,108,101,97,114]
    · rw[pStmt]
      dsimp only;rw[if_neg c0,if_neg c1,if_pos c2];refine(SimAt.grow (N:=32*k+32) hR (by decide) (rStmt_clear _ c2) (by simp) ?_).weaken (by omega);refine SimAt.here hR (by decide) c2 ?_;refine SimAt.bind (Xs:=[kName]) (hN _) (fun s l1 _=> ?_);exact SimAt.bind (Xs:=[B [59]]) (Ys:=[]) (hT _ (by decide) _) (fun _ l3 _=>SimAt.pok _ _)
    by_cases c3:isM (hd l) [112,114,105,110,116]
    · rw[pStmt]
      dsimp only;rw[if_neg c0,if_neg c1,if_neg c2,if_pos c3];refine(SimAt.grow (N:=32*k+32) hR (by decide) (rStmt_print _ c3) (by simp) ?_).weaken (by omega);refine SimAt.here hR (by decide) c3 ?_;exact(sim_print hR hn k _).weaken (by omega)
    by_cases c4:isM (hd l) [105,102]
    · rw[pStmt]
      dsimp only;rw[if_neg c0,if_neg c1,if_neg c2,if_neg c3,if_pos c4];refine(SimAt.grow (N:=32*k+32) hR (by decide) (rStmt_if _ c4) (by simp) ?_).weaken (by omega);refine SimAt.here hR (by decide) c4 ?_;exact ih2 _
    by_cases c5:isM (hd l) [119,104,105,108,101]
    · rw[pStmt]
      dsimp only;rw[if_neg c0,if_neg c1,if_neg c2,if_neg c3,if_neg c4,if_pos c5];refine(SimAt.grow (N:=32*k+32) hR (by decide) (rStmt_while _ c5) (by simp) ?_).weaken (by omega);refine SimAt.here hR (by decide) c5 ?_;refine SimAt.bind (Xs:=[kExpr]) (hE _) (fun x l1 _=> ?_);exact SimAt.bind (Xs:=[kBlock]) (Ys:=[]) (ih3 _) (fun b l2 _=>SimAt.pok _ _)
    by_cases c6:isM (hd l) [102,111,114]
    · rw[pStmt]
      dsimp only;rw[if_neg c0,if_neg c1,if_neg c2,if_neg c3,if_neg c4,if_neg c5,if_pos c6];refine(SimAt.grow (N:=32*k+32) hR (by decide) (rStmt_for _ c6) (by simp) ?_).weaken (by omega);refine SimAt.here hR (by decide) c6 ?_;refine SimAt.bind (Xs:=[kName]) (hN _) (fun a l1 _=> ?_);refine SimAt.bind (Xs:=[B [44]]) (hT _ (by decide) _) (fun _ l1 _=> ?_);refine SimAt.bind (Xs:=[kName]) (hN _) (fun b l1 _=> ?_);refine SimAt.bind (Xs:=[B [105,110]]) (hT _ (by decide) _) (fun _ l1 _=> ?_);refine SimAt.bind (Xs:=[kName]) (hN _) (fun s l1 _=> ?_);exact SimAt.bind (Xs:=[kBlock]) (Ys:=[]) (ih3 _) (fun b l2 _=>SimAt.pok _ _)
    by_cases c7:isM (hd l) [98,114,101,97,107]
    · rw[pStmt]
      dsimp only;rw[if_neg c0,if_neg c1,if_neg c2,if_neg c3,if_neg c4,if_neg c5,if_neg c6,if_pos c7];refine(SimAt.grow (N:=32*k+32) hR (by decide) (rStmt_break _ c7) (by simp) ?_).weaken (by omega);refine SimAt.here hR (by decide) c7 ?_;exact SimAt.bind (Xs:=[B [59]]) (Ys:=[]) (hT _ (by decide) _) (fun _ l3 _=>SimAt.pok _ _)
    by_cases c8:isM (hd l) [99,111,110,116,105,110,117,101]
    · rw[pStmt]
      dsimp only;rw[if_neg c0,if_neg c1,if_neg c2,if_neg c3,if_neg c4,if_neg c5,if_neg c6,if_neg c7];refine(SimAt.grow (N:=32*k+32) hR (by decide) (rStmt_continue _ c8) (by simp) ?_).weaken (by omega);refine SimAt.bind (Xs:=[B [99,111,110,116,105,110,117,101]]) (hT _ (by decide) _) (fun _ l1 _=> ?_);exact SimAt.bind (Xs:=[B [59]]) (Ys:=[]) (hT _ (by decide) _) (fun _ l3 _=>SimAt.pok _ _)
    · rw[pStmt_bad k l c0 c1 c2 c3 c4 c5 c6 c7 c8]
      exact SimAt.no hR (by decide) (rStmt_no _ c0 c1 c2 c3 c4 c5 c6 c7 c8)
  · intro l
    rw[pCond];refine SimAt.bind (Xs:=[kExpr]) ((hE _).weaken (by omega)) (fun x l1 _=> ?_);refine SimAt.bind (Xs:=[kBlock]) ((ih3 _).weaken (by omega)) (fun b l2 _=> ?_);have hr:=rElse (hd l2);by_cases c:isM (hd l2) [101,108,115,101]
    · rw[if_pos c]at hr⊢
      refine(SimAt.grow (N:=32*k+48) hR (by decide) hr (by simp) ?_).weaken (by omega);refine SimAt.here hR (by decide) c ?_;have hr2:=rOther (hd l2.tail);by_cases c2:isM (hd l2.tail) [105,102]
      · rw[if_pos c2]at hr2⊢
        refine(SimAt.grow (N:=32*k+40) hR (by decide) hr2 (by simp) ?_);refine SimAt.here hR (by decide) c2 ?_;exact SimAt.bind (Xs:=[kExpr,kBlock,kElse]) (Ys:=[]) ((ih2 _).weaken (by omega)) (fun b l2 _=>SimAt.pok _ _)
      · rw[if_neg c2]at hr2⊢
        refine(SimAt.grow (N:=32*k+40) hR (by decide) hr2 (by simp) ?_);exact SimAt.bind (Xs:=[kBlock]) (Ys:=[]) ((ih3 _).weaken (by omega)) (fun b l2 _=>SimAt.pok _ _)
    · rw[if_neg c]at hr⊢
      refine(SimAt.grow (N:=32*k+48) hR (by decide) hr (by simp) ?_).weaken (by omega);exact SimAt.pok _ _
  · intro l
    rw[pBlock];refine(SimAt.grow (N:=32*k+32) hR (by decide) (rBlock _) (by simp) ?_).weaken (by omega);refine SimAt.bind (Xs:=[B [123]]) (hT _ (by decide) _) (fun _ l1 _=> ?_);exact ih4 [] _
  · intro xs l
    rw[pBody];dsimp only;have hr:=rStmts (hd l);by_cases c:isM (hd l) [125]
    · rw[if_pos (Or.inr c)]at hr
      rw[if_pos c];refine(SimAt.growl (N:=32*k+32) hR (by decide) hr (by simp) ?_).weaken (by omega);exact SimAt.here hR (by decide) c (SimAt.pok _ _)
    · rw[if_neg c]
      by_cases c2:(hd l).f2=36
      · rw[if_pos (Or.inl c2)]at hr
        refine(SimAt.growl (N:=32*k+32) hR (by decide) hr (by simp) ?_).weaken (by omega);rcases pStmt_end k l (Or.inl c2)with e|e
        · have e2:pbind (pStmt k) (fun s=>pBody k (xs++[s])) l=none:=by unfold pbind;rw[e]
          rw[e2];exact fun _ _ _ _ _=>trivial
        · have e2:pbind (pStmt k) (fun s=>pBody k (xs++[s])) l=some (.error ((hd l).f1,230)):=by unfold pbind;rw[e]
          rw[e2];exact SimAt.miss hR (by rw[B_toList];decide) (by rw[matches_mark (by decide),decide_eq_false c])
      · rw[if_neg (fun q=>q.elim c2 c)]at hr
        refine(SimAt.growl (N:=32*k+32) hR (by decide) hr (by simp) ?_).weaken (by omega);exact SimAt.bind (Xs:=[kStmt]) (Ys:=[kStmts,B [125]]) (ih1 l) (fun s l1 _=>ih4 _ l1)
theorem sim_maps:∀(k:Nat) (xs:List Bs) (l:List S42),SimAt R ex (32*k+32) (pMaps k xs l) [kMaps] l
 |0,xs,l=>fun _ _ _ _ _=>by rw[pMaps];exact trivial
 |k+1,xs,l=>by
  rw[pMaps];dsimp only;have hr:=rMaps (hd l);by_cases c:isM (hd l) [109,97,112]
  · rw[if_pos c]at hr⊢
    refine(SimAt.grow (N:=32*k+32) hR (by decide) hr (by simp) ?_).weaken (by omega);refine SimAt.here hR (by decide) c ?_;refine SimAt.bind (Xs:=[kName]) (SimAt.name hR _) (fun s l1 _=> ?_);refine SimAt.bind (Xs:=[B [59]]) (Ys:=[kMaps]) (SimAt.tok hR (by decide) _) (fun _ l1 _=> ?_);exact sim_maps k _ _
  · rw[if_neg c]at hr⊢
    exact(SimAt.grow (N:=32*k+32) hR (by decide) hr (by simp) (SimAt.pok _ _)).weaken (by omega)
theorem SimAt.done {α:Type} {N:Nat} (x:α) (l:List S42) (h:(hd l).f2=36):WF l→∀(st:List Bs) (i:Nat),R.drop i=l++ex→st.length+2+N<MX→∀r,F R st (i+1) r→F R (st++[kEnd]) i r:=by
 intro hw st i hd1 hs r hF;obtain⟨hi,hg,hd2⟩:=drop_get hw hd1;refine F_turn R st _ i r (by unfold MX at hs;omega) hi ?_ ?_ hR
 · intro q;unfold kEnd at q;rw[B_toList]at q;exact absurd q (by decide)
 · intro _
   refine⟨true,?_,(fun q=>by cases q),fun _=>⟨fun _=>hF,fun q=> ?_⟩⟩
   · rw[hg]
     unfold larderref23_matches.f kEnd;simp(decide:=true) only[B_eq,if_true,if_false,h]
   · unfold kEnd at q;rw[B_toList]at q;exact absurd q (by decide)
def TopAt {α:Type} (R ex:List S42) (N:Nat) (o:Out α) (Xs:List Bs) (l:List S42):Prop:=
 WF l→∀(i:Nat),R.drop i=l++ex→Xs.length+N<MX→
  match o with
  |none=>True
  |some (.error e)=>∃j:Nat,∃h:j<R.length,R[j].f1=e.1∧F R Xs.reverse i ((j:Int),e.2)
  |some (.ok x)=>WF x.2∧(hd x.2).f2=36∧(∃i',R.drop i'=x.2++ex)∧F R Xs.reverse i (-1,0)
theorem sim_top:∀(k:Nat) (xs:List S62) (l:List S42),TopAt R ex (32*k+64) (pTop k xs l) [kStmts,kEnd] l
 |0,xs,l=>fun _ _ _ _=>by rw[pTop];exact trivial
 |k+1,xs,l=>by
  intro hw i hd1 hs;have hr:=rStmts (hd l);rw[pTop];dsimp only;by_cases c:(hd l).f2=36
  · rw[if_pos (Or.inl c)]at hr
    rw[if_pos c];refine⟨hw,c,⟨i,hd1⟩,?_⟩;have h1:SimAt R ex 32 (some (.ok ((),l)):Out Unit) [kStmts] l:=(SimAt.grow (N:=8) hR (by decide) hr (by simp) (SimAt.pok _ _)).weaken (by omega);obtain⟨_,i',hd2,h2⟩:=h1 hw [kEnd] i hd1 (by simp at hs⊢;omega);have h3:=SimAt.done hR hn (N:=0) (ex:=ex) () l c hw [] i' hd2 (by decide) (-1,0) (F_end _ _);exact h2 _ h3
  · rw[if_neg c]
    by_cases c2:isM (hd l) [125]
    · rw[if_pos (Or.inr c2)]at hr
      rcases pStmt_end k l (Or.inr c2)with e|e
      · have e2:pbind (pStmt k) (fun s=>pTop k (xs++[s])) l=none:=by unfold pbind;rw[e]
        rw[e2];exact trivial
      · have e2:pbind (pStmt k) (fun s=>pTop k (xs++[s])) l=some (.error ((hd l).f1,230)):=by unfold pbind;rw[e]
        rw[e2]
        have hm:larderref23_matches.f kEnd (hd l).f0 (hd l).f1 (hd l).f2 (hd l).f3 (hd l).f4=some false:=by
         unfold larderref23_matches.f kEnd;simp(decide:=true) only[B_eq,if_true,if_false,c2.1]
        have h1:SimAt R ex 32 (some (.error ((hd l).f1,230)):Out Unit) [kStmts,kEnd] l:=by
         refine(SimAt.growl (N:=8) hR (by decide) hr (by simp) ?_).weaken (by omega);exact SimAt.miss hR (by unfold kEnd;rw[B_toList];decide) hm
        have h2:=h1 hw [] i hd1 (by simp at hs⊢;omega);simpa using h2
    · rw[if_neg (fun q=>q.elim c c2)]at hr
      have h1:SimAt R ex (32*k+48) (pStmt k l) [kStmt] l:=((sim_stmt hR hn k).1 l).weaken (by omega);have k1:=h1 hw [kEnd,kStmts] i hd1 (by simp at hs⊢;omega)
      have G:∀r,F R [kEnd,kStmts,kStmt] i r→F R [kEnd,kStmts] i r:=by
       intro r hF;obtain⟨hi,hg,_⟩:=drop_get hw hd1;refine F_turn R [kEnd] kStmts i r (by decide) hi ?_ ?_ hR
       · intro _
         refine⟨[kStmt,kStmts],true,?_,by simp,fun _=>⟨by simp,hF⟩,fun q=>by cases q⟩;rw[hg];exact⟨0,hr⟩
       · intro q
         unfold kStmts at q;rw[B_toList]at q;exact absurd (by decide) q
      unfold pbind;cases hp:pStmt k l with
      |none=>exact trivial
      |some o=>
       rw[hp]at k1;cases o with
       |error e=>
        obtain⟨j,hj,hl,k1⟩:=k1;exact⟨j,hj,hl,G _ (by simpa using k1)⟩
       |ok x=>
        obtain⟨s,l1⟩:=x;obtain⟨hw1,i1,hd2,k1⟩:=k1;have k2:=sim_top k (xs++[s]) l1 hw1 i1 hd2 (by simp at hs⊢;omega);dsimp only;cases hq:pTop k (xs++[s]) l1 with
        |none=>exact trivial
        |some o=>
         rw[hq]at k2;cases o with
         |error e=>
          obtain⟨j,hj,hl,k2⟩:=k2;exact⟨j,hj,hl,G _ (by simpa using k1 _ k2)⟩
         |ok y=>
          obtain⟨hw2,c2,i2,k2⟩:=k2;exact⟨hw2,c2,i2,G _ (by simpa using k1 _ k2)⟩
end
theorem Fault_ev {R l ex:List S42} (hR:R.length<1000000000) (hn:∀t∈R,NumOk t) (hw:WF l) (he:R=l++ex) (k:Nat) (hk:k<1000000000):
 match pProg k l with
 |none=>True
 |some (.error e)=>∃j:Nat,∃h:j<R.length,R[j].f1=e.1∧F R [kEnd,kStmts,kMaps] 0 ((j:Int),e.2)
 |some (.ok x)=>WF x.2∧(hd x.2).f2=36∧(∃i',R.drop i'=x.2++ex)∧F R [kEnd,kStmts,kMaps] 0 (-1,0):=by
 have h1:=sim_maps (ex:=ex) hR hn k [] l hw [kEnd,kStmts] 0 (by rw[List.drop_zero,he]) (by unfold MX;simp;omega);unfold pProg pbind;cases hp:pMaps k [] l with
 |none=>exact trivial
 |some o=>
  rw[hp]at h1;cases o with
  |error e=>
   obtain⟨j,hj,hl,k1⟩:=h1;exact⟨j,hj,hl,k1⟩
  |ok x=>
   obtain⟨m,l1⟩:=x;obtain⟨hw1,i1,hd2,k1⟩:=h1;have k2:=sim_top (ex:=ex) hR hn k [] l1 hw1 i1 hd2 (by unfold MX;simp;omega);dsimp only;cases hq:pTop k [] l1 with
   |none=>exact trivial
   |some o=>
    rw[hq]at k2;cases o with
    |error e=>
     obtain⟨j,hj,hl,k2⟩:=k2;exact⟨j,hj,hl,k1 _ k2⟩
    |ok y=>
     obtain⟨hw2,c2,i2,k2⟩:=k2;exact⟨hw2,c2,i2,k1 _ k2⟩
theorem mem_tw (p:UInt8→Bool):∀(l:List UInt8) (b:UInt8),b∈l.takeWhile p→p b=true
 |[],b,h=>by simp at h
 |c::l,b,h=>by
  by_cases q:p c=true
  · rw[List.takeWhile_cons_of_pos q]at h
    rcases List.mem_cons.mp h with rfl|h
    · exact q
    · exact mem_tw p l b h
  · rw[List.takeWhile_cons_of_neg q]at h;simp at h
def tEnd (line:Int):S42:=⟨e0,line,36,0,0⟩
def tokAt (n:Nat) (c:UInt8) (r:List UInt8) (line:Int):S42:=if 8192≤n then {tokOf c r line with f2:=63}else tokOf c r line
def nl (l:List UInt8):Int:=((l.count 10:Nat):Int)
def lex:Nat→Bool→Nat→Int→List UInt8→List S42
 |0,_,_,line,_=>[tEnd line]
 |k+1,b,n,line,l=>
  match l.drop (blk b l)with
  |[]=>[tEnd (line+nl (l.take (blk b l)))]
  |c::r=>tokAt n c r (line+nl (l.take (blk b l)))::lex k false (n+1) (line+nl (l.take (blk b l))) ((c::r).drop (tokT c r).1.length)
theorem tokT_len (c:UInt8) (r:List UInt8):1≤(tokT c r).1.length∧(tokT c r).1.length≤r.length+1:=by
 have h1:=len_tw digU (c::r);have h2:=len_tw inU (c::r);rw[List.length_cons]at h1 h2;unfold tokT;split
 · rename_i hd
   refine⟨?_,h1⟩;rw[List.takeWhile_cons_of_pos hd,List.length_cons];omega
 · split
   · rename_i hl
     have hi:inU c=true:=by rw[inU,hl,Bool.true_or]
     have h3:1≤((c::r).takeWhile inU).length:=by rw[List.takeWhile_cons_of_pos hi,List.length_cons];omega
     split
     · exact⟨h3,h2⟩
     · exact⟨h3,h2⟩
   · split
     · simp;omega
     · split<;>simp
theorem tokT_sort (c:UInt8) (r:List UInt8):(tokT c r).2=57∨(tokT c r).2=109∨(tokT c r).2=110∨(tokT c r).2=63:=by
 unfold tokT
 repeat' split
 all_goals simp
theorem tokAt_line (n:Nat) (c:UInt8) (r:List UInt8) (line:Int):(tokAt n c r line).f1=line:=by unfold tokAt;split<;>rfl
theorem tokAt_text (n:Nat) (c:UInt8) (r:List UInt8) (line:Int):(tokAt n c r line).f0=B (tokT c r).1:=by unfold tokAt;split<;>rfl
theorem tokAt_sort (n:Nat) (c:UInt8) (r:List UInt8) (line:Int):(tokAt n c r line).f2=if 8192≤n then 63 else(tokT c r).2:=by
 unfold tokAt;split<;>rfl
theorem lex_fuel:∀(k k':Nat) (b:Bool) (n:Nat) (line:Int) (l:List UInt8),l.length<k→l.length<k'→lex k b n line l=lex k' b n line l
 |0,_,_,_,_,_,h,_=>absurd h (Nat.not_lt_zero _)
 |_+1,0,_,_,_,_,_,h=>absurd h (Nat.not_lt_zero _)
 |k+1,k'+1,b,n,line,l,h1,h2=>by
  rw[lex,lex];generalize hr:l.drop (blk b l)=r;cases r with
  |nil=>rfl
  |cons c r=>
   dsimp only;have h3:=congrArg List.length hr;rw[List.length_drop,List.length_cons]at h3;have h4:=tokT_len c r;rw[lex_fuel k k' false (n+1) _ ((c::r).drop (tokT c r).1.length) (by rw[List.length_drop,List.length_cons];omega) (by rw[List.length_drop,List.length_cons];omega)]
theorem nl_cons (c:UInt8) (l:List UInt8):nl (c::l)=(if c=10 then 1 else 0)+nl l:=by
 unfold nl;rw[List.count_cons];by_cases h:c=10
 · simp[h];omega
 · simp[h]
theorem lex_step {k:Nat} {b b':Bool} {n:Nat} {line:Int} {c:UInt8} {l:List UInt8} (h:blk b (c::l)=blk b' l+1):lex (k+1) b n line (c::l)=lex (k+1) b' n (line+if c=10 then 1 else 0) l:=by
 rw[lex,lex,h,List.drop_succ_cons,List.take_succ_cons,nl_cons];rw[← Int.add_assoc]
theorem lex_rem {k:Nat} {b b':Bool} {n:Nat} {line:Int} {l:List UInt8} (h:blk b l=blk b' l):lex k b n line l=lex k b' n line l:=by
 cases k with
 |zero=>rfl
 |succ k=>rw[lex,lex,h]
theorem lex_nil (k:Nat) (b:Bool) (n:Nat) (line:Int):lex (k+1) b n line []=[tEnd line]:=by
 have:blk b []=0:=by cases b<;>rfl
 rw[lex,this];simp[nl]
theorem lex_tok {k:Nat} {n:Nat} {line:Int} {c:UInt8} {r:List UInt8} (h:blk false (c::r)=0):lex (k+1) false n line (c::r)=tokAt n c r line::lex k false (n+1) line ((c::r).drop (tokT c r).1.length):=by
 rw[lex,h];have:nl []=0:=rfl;simp only[List.drop_zero,List.take_zero,this,Int.add_zero]
theorem lex_blank (k:Nat) (n:Nat) (line:Int) (l:List UInt8):∀c r,l.drop (blk false l)=c::r→lex (k+1) false n line l=tokAt n c r (line+nl (l.take (blk false l)))::lex k false (n+1) (line+nl (l.take (blk false l))) ((c::r).drop (tokT c r).1.length):=fun c r h=>by
 rw[lex,h]
theorem lex_blank_end (k:Nat) (n:Nat) (line:Int) (l:List UInt8) (h:l.drop (blk false l)=[]):lex (k+1) false n line l=[tEnd (line+nl (l.take (blk false l)))]:=by
 rw[lex,h]
theorem lex_wf:∀(k:Nat) (b:Bool) (n:Nat) (line:Int) (l:List UInt8),WF (lex k b n line l)
 |0,_,_,line,_=>⟨[],tEnd line,rfl,.inl rfl⟩
 |k+1,b,n,line,l=>by
  rw[lex];split
  · exact⟨[],_,rfl,.inl rfl⟩
  · obtain⟨i,t,h,q⟩:=lex_wf k false (n+1) (line+nl (l.take (blk b l))) _
    exact⟨_::i,t,by rw[h];rfl,q⟩
theorem lex_len:∀(k:Nat) (b:Bool) (n:Nat) (line:Int) (l:List UInt8),(lex k b n line l).length≤k+1
 |0,_,_,line,_=>by simp[lex]
 |k+1,b,n,line,l=>by
  rw[lex];split
  · simp
  · rw[List.length_cons];have:=lex_len k false (n+1) (line+nl (l.take (blk b l)));exact Nat.succ_le_succ (this _)
theorem tok_ok (n:Nat) (c:UInt8) (r:List UInt8) (line:Int) (hr:r.length<900000000):TokOk (tokAt n c r line):=by
 have hs:=tokT_sort c r;have hlo:∀m:List UInt8,-1≤sideOf m∧sideOf m≤1:=fun m=>by unfold sideOf;split<;>(try split)<;>omega
 have h4: -1≤(tokOf c r line).f4∧(tokOf c r line).f4≤1:=by
  show-1≤(if _ then _ else _)∧(if _ then _ else _)≤_;split
  · exact hlo _
  · omega
 unfold tokAt;split
 · exact⟨fun h=>absurd h (by intro h;simp[tEnd]at h),fun h=>absurd h (by intro h;simp[tEnd]at h),h4.1,h4.2,fun h=>absurd h (by intro h;simp[tEnd]at h),fun h=>absurd h (by intro h;simp[tEnd]at h)⟩
 · refine⟨fun h=> ?_,fun h=> ?_,h4.1,h4.2,fun h=> ?_,fun h=> ?_⟩
   · have h:(tokT c r).2=109:=h
     exact⟨by show(if _ then _ else _)=_;rw[if_pos h];show _=rank0 (B _).toList+1;rw[B_toList],by show(if _ then _ else _)=_;rw[if_pos h];show _=sideOf (B _).toList;rw[B_toList]⟩
   · have h:(tokT c r).2=110∨(tokT c r).2=57∨(tokT c r).2=36:=h
     have h2:¬(tokT c r).2=109:=by omega
     exact⟨by show(if _ then _ else _)=_;rw[if_neg h2],by show(if _ then _ else _)=_;rw[if_neg h2]⟩
   · have h:(tokT c r).2=110:=h
     show(B (tokT c r).1).toList ∉ noName;rw[B_toList]
     have hT:(tokT c r).1=(c::r).takeWhile inU∧letU c=true∧(c::r).takeWhile inU ∉ wordsL:=by
      unfold tokT at h⊢;split at h
      · exact absurd h (by intro h;simp[tEnd]at h)
      · rename_i hd
        rw[if_neg hd];split at h
        · rename_i hl
          rw[if_pos hl];split at h
          · exact absurd h (by intro h;simp[tEnd]at h)
          · rename_i hw
            rw[if_neg hw];exact⟨rfl,hl,hw⟩
        · split at h
          · exact absurd h (by intro h;simp[tEnd]at h)
          · split at h<;>exact absurd h (by intro h;simp[tEnd]at h)
     obtain⟨e,hl,hw⟩:=hT;rw[e];have hi:inU c=true:=by rw[inU,hl,Bool.true_or]
     rw[List.takeWhile_cons_of_pos hi]at hw⊢;have N:∀m∈noName,m∈wordsL∨m=[45]∨m=[33]∨m=[40]:=by decide
     intro q;rcases N _ q with q|q|q|q
     · exact hw q
     · injection q with q;rw[q]at hl;revert hl;decide
     · injection q with q;rw[q]at hl;revert hl;decide
     · injection q with q;rw[q]at hl;revert hl;decide
   · have h:(tokT c r).2=57:=h
     have hT:(tokT c r).1=(c::r).takeWhile digU∧digU c=true:=by
      unfold tokT at h⊢;split at h
      · rename_i hd
        rw[if_pos hd];exact⟨rfl,hd⟩
      · split at h
        · split at h<;>exact absurd h (by intro h;simp[tEnd]at h)
        · split at h
          · exact absurd h (by intro h;simp[tEnd]at h)
          · split at h<;>exact absurd h (by intro h;simp[tEnd]at h)
     obtain⟨e,hd⟩:=hT;have hlen:=len_tw digU (c::r);rw[List.length_cons]at hlen
     have e2:(tokOf c r line).f0.toList=(c::r).takeWhile digU:=by
      show(B (tokT c r).1).toList=_;rw[B_toList,e]
     rw[e2];refine⟨by rw[List.takeWhile_cons_of_pos hd];simp,?_,?_⟩
     · rw[← toList_len,e2];omega
     · intro b hb
       have:=mem_tw digU _ b hb;exact of_decide_eq_true this
theorem end_ok (line:Int):TokOk (tEnd line):=
 ⟨fun h=>absurd h (by intro h;simp[tEnd]at h),fun _=>⟨rfl,rfl⟩,by simp[tEnd],by simp[tEnd],fun h=>absurd h (by intro h;simp[tEnd]at h),fun h=>absurd h (by intro h;simp[tEnd]at h)⟩
theorem lex_ok:∀(k:Nat) (b:Bool) (n:Nat) (line:Int) (l:List UInt8),l.length<900000000→∀t∈lex k b n line l,TokOk t
 |0,_,_,line,_,_,t,ht=>by
  rw[lex]at ht;rw[List.mem_singleton.mp ht];exact end_ok _
 |k+1,b,n,line,l,hl,t,ht=>by
  rw[lex]at ht;generalize hr:l.drop (blk b l)=r at ht;cases r with
  |nil=>rw[List.mem_singleton.mp ht];exact end_ok _
  |cons c r=>
   have h3:=congrArg List.length hr;rw[List.length_drop,List.length_cons]at h3;rcases List.mem_cons.mp ht with rfl|ht
   · exact tok_ok _ _ _ _ (by omega)
   · exact lex_ok k false _ _ _ (by rw[List.length_drop,List.length_cons];omega) t ht
theorem foldl_val:∀(l:List UInt8) (a:Nat),l.foldl (fun n b=>10*n+(b.toNat-48)) a=a*10^l.length+valN l
 |[],a=>by simp[valN]
 |c::l,a=>by
  have h:=foldl_val l (10*a+(c.toNat-48));have h2:=foldl_val l (10*0+(c.toNat-48));unfold valN;rw[List.foldl_cons,List.foldl_cons,h,h2,List.length_cons,Nat.pow_succ];rw[Nat.add_mul,Nat.mul_zero,Nat.zero_add,← Nat.add_assoc];congr 2;rw[Nat.mul_comm 10 a,Nat.mul_assoc,Nat.mul_comm 10]
theorem valN_cons (c:UInt8) (l:List UInt8):valN (c::l)=(c.toNat-48)*10^l.length+valN l:=by
 show(c::l).foldl _ 0=_;rw[List.foldl_cons,foldl_val,Nat.mul_zero,Nat.zero_add]
def Digs (l:List UInt8):Prop:=∀b∈l,48≤b.toNat∧b.toNat≤57
theorem Digs.tail {c:UInt8} {l:List UInt8} (h:Digs (c::l)):Digs l:=fun b hb=>h b (List.mem_cons_of_mem _ hb)
theorem valN_lt:∀(l:List UInt8),Digs l→valN l<10^l.length
 |[],_=>by simp[valN]
 |c::l,h=>by
  have h1:=valN_lt l h.tail;have h2:=h c List.mem_cons_self;rw[valN_cons,List.length_cons,Nat.pow_succ];have:(c.toNat-48)*10^l.length≤9*10^l.length:=Nat.mul_le_mul_right _ (by omega);omega
theorem valN_ge (c:UInt8) (l:List UInt8) (h:Digs (c::l)) (hc:c≠48):10^l.length≤valN (c::l):=by
 have h2:=h c List.mem_cons_self;have h3:c.toNat≠48:=fun q=>hc (UInt8.toNat_inj.mp q)
 rw[valN_cons];have:1*10^l.length≤(c.toNat-48)*10^l.length:=Nat.mul_le_mul_right _ (by omega);omega
theorem bytesLess_val:∀(a b:List UInt8),a.length=b.length→Digs a→Digs b→Op.bytesLess a b=decide (valN a<valN b)
 |[],[],_,_,_=>by simp[Op.bytesLess]
 |[],b::y,h,_,_=>by simp at h
 |a::x,[],h,_,_=>by simp at h
 |a::x,b::y,h,ha,hb=>by
  have hl:x.length=y.length:=by simpa using h
  have ih:=bytesLess_val x y hl ha.tail hb.tail;have va:=valN_lt x ha.tail;have vb:=valN_lt y hb.tail;have a1:=ha a List.mem_cons_self;have b1:=hb b List.mem_cons_self;rw[Op.bytesLess,ih,valN_cons,valN_cons,hl];rw[hl]at va;by_cases h1:a.toNat<b.toNat
  · have e:a<b:=UInt8.lt_iff_toNat_lt.mpr h1
    have h2:(a.toNat-48+1)*10^y.length≤(b.toNat-48)*10^y.length:=Nat.mul_le_mul_right _ (by omega);rw[Nat.add_mul,Nat.one_mul]at h2;rw[decide_eq_true e,Bool.true_or,decide_eq_true (by omega)]
  · have e:¬a<b:=fun q=>h1 (UInt8.lt_iff_toNat_lt.mp q)
    rw[decide_eq_false e,Bool.false_or];by_cases h2:a=b
    · subst h2
      simp only[beq_self_eq_true,Bool.true_and];exact decide_eq_decide.mpr ⟨fun q=>by omega,fun q=>by omega⟩
    · have h3:a.toNat≠b.toNat:=fun q=>h2 (UInt8.toNat_inj.mp q)
      have h4:(b.toNat-48+1)*10^y.length≤(a.toNat-48)*10^y.length:=Nat.mul_le_mul_right _ (by omega);rw[Nat.add_mul,Nat.one_mul]at h4;rw[show(a==b)=false from by simpa using h2,Bool.false_and];exact(decide_eq_false (by omega)).symm
theorem great_ev:∀(n:Nat) (s:Bs),s.size≤n→s.size<1000000000→Digs s.toList→Ev (fun k=>larderref23_great.l0 k s) (numOf s.toList).isNone
 |n,s,hn,hs,hd=>by
  have hl:=toList_len s
  have E:∀(h:s.size=0∨s.size=1∨∃c l,s.toList=c::l∧c≠48),Ev (fun _:Nat=>if(s.size:Int)>19 then(some true)else(if(s.size:Int)=19 then(some (Op.bytesLess ([57,50,50,51,51,55,50,48,51,54,56,53,52,55,55,53,56,48,55]:List UInt8) s.toList))else(some false))) (numOf s.toList).isNone:=by
   intro h;have hv:=valN_lt _ hd;rw[hl]at hv;by_cases h19:(s.size:Int)>19
   · simp only[if_pos h19]
     rcases h with h|h|⟨c,l,h,hc⟩
     · omega
     · omega
     · have hg:=valN_ge c l (by rw[← h];exact hd) hc
       have hll:l.length+1=s.size:=by rw[← hl,h,List.length_cons]
       have hp:10^19≤10^l.length:=Nat.pow_le_pow_right (by omega) (by omega)
       have:(numOf s.toList).isNone=true:=by
        unfold numOf;rw[h,if_neg (by omega)];rfl
       rw[this];exact Ev.const _
   · simp only[if_neg h19]
     by_cases h20:(s.size:Int)=19
     · simp only[if_pos h20]
       have hb:=bytesLess_val ([57,50,50,51,51,55,50,48,51,54,56,53,52,55,55,53,56,48,55]:List UInt8) s.toList (by rw[hl];simp;omega) (by intro b hb;revert b;decide) hd;have hm:valN ([57,50,50,51,51,55,50,48,51,54,56,53,52,55,55,53,56,48,55]:List UInt8)=9223372036854775807:=by decide
       rw[hm]at hb;rw[hb]
       have:(numOf s.toList).isNone=decide (9223372036854775807<valN s.toList):=by
        unfold numOf;by_cases q:valN s.toList≤9223372036854775807
        · rw[if_pos q,decide_eq_false (by omega)];rfl
        · rw[if_neg q,decide_eq_true (by omega)];rfl
       rw[this];exact Ev.const _
     · simp only[if_neg h20]
       have hp:10^s.size≤10^18:=Nat.pow_le_pow_right (by omega) (by omega)
       have:(numOf s.toList).isNone=false:=by
        unfold numOf;rw[if_pos (by omega)];rfl
       rw[this];exact Ev.const _
  refine Ev.step (fun k=>by rw[larderref23_great.l0]) ?_;by_cases h1:(s.size:Int)>1
  · have h0:(0:Int)<(s.size:Int):=by omega
    have h11:(1:Int)≤(s.size:Int):=by omega
    simp only[if_pos h1,if_pos h0,if_pos h11];generalize hL:s.toList=L at*;cases L with
    |nil=>simp at hl;omega
    |cons c l=>
     have hb0:bt s 0=(c.toNat:Int):=by
      have:=bt_list s 0 (by rw[hL,List.length_cons];omega);simp only[hL,List.getElem_cons_zero]at this;exact this
     rw[hb0];by_cases hc:((c.toNat:Nat):Int)=48
     · simp only[if_pos hc]
       have hc2:c=48:=UInt8.toNat_inj.mp (by show c.toNat=48;omega);subst hc2;have hx:(s.extract 1 s.size).toList=l:=by rw[ext_drop,hL];rfl
       have hxs:(s.extract 1 s.size).size=s.size-1:=by rw[← toList_len,hx];rw[List.length_cons]at hl;omega
       have hv:valN (48::l)=valN l:=by rw[valN_cons];simp
       have hN:numOf (48::l)=numOf l:=by unfold numOf;rw[hv]
       cases n with
       |zero=>omega
       |succ n=>
        have:=great_ev n (s.extract 1 s.size) (by omega) (by omega) (by rw[hx];exact hd.tail);rw[hx]at this;rw[hN];exact this
     · simp only[if_neg hc]
       exact E (.inr (.inr ⟨c,l,rfl,fun q=>hc (by rw[q];rfl)⟩))
  · simp only[if_neg h1]
    exact E (by omega)
theorem tok_num {t:S42} (h:TokOk t):NumOk t:=fun h57=>by
 obtain⟨h1,h2,h3⟩:=h.num h57;exact great_ev t.f0.size t.f0 (Nat.le_refl _) (by omega) h3
def Er {α:Type} (p:P α):Prop:=∀l e,p l=some (.error e)→e.2=230∨e.2=161
theorem er_bind {α β:Type} {a:P α} {f:α→P β} (h1:Er a) (h2:∀x,Er (f x)):Er (pbind a f):=by
 intro l e h;unfold pbind at h;cases ha:a l with
 |none=>rw[ha]at h;cases h
 |some o=>
  rw[ha]at h;cases o with
  |error e2=>injection h with h;injection h with h;subst h;exact h1 l _ ha
  |ok x=>exact h2 x.1 x.2 e h
theorem er_ok {α:Type} (x:α):Er (pok x):=fun l e h=>by cases h
theorem er_fail {α:Type}:Er (pfail 230:P α):=fun l e h=>by injection h with h;injection h with h;subst h;exact .inl rfl
theorem er_tok (m:List UInt8):Er (ptok m):=fun l e h=>by
 unfold ptok at h;split at h
 · cases h
 · exact er_fail l e h
theorem er_name:Er pname:=fun l e h=>by
 unfold pname at h;split at h
 · cases h
 · exact er_fail l e h
theorem er_num:Er pnum:=fun l e h=>by
 unfold pnum at h;split at h
 · injection h with h;injection h with h;subst h;exact .inr rfl
 · cases h
theorem er_expr:∀(k:Nat),(∀low,Er (pExpr k low))∧(∀low x,Er (pLoop k low x))∧Er (pUn k)∧Er (pKey k)
 |0=>⟨fun low l e h=>(by rw[pExpr]at h;cases h),fun low x l e h=>(by rw[pLoop]at h;cases h),fun l e h=>(by rw[pUn]at h;cases h),fun l e h=>(by rw[pKey]at h;cases h)⟩
 |k+1=>by
  obtain⟨i1,i2,i3,i4⟩:=er_expr k;refine⟨fun low l e h=> ?_,fun low x l e h=> ?_,fun l e h=> ?_,fun l e h=> ?_⟩
  · rw[pExpr]at h
    split at h
    · exact i3 l e h
    · exact er_bind (i1 _) (fun x=>i2 _ x) l e h
  · rw[pLoop]at h
    dsimp only at h;split at h
    · refine er_bind (i1 _) (fun y=> ?_) _ e h
      split
      · exact er_ok _
      · exact i2 _ _
    · cases h
  · rw[pUn]at h
    dsimp only at h;split at h
    · exact er_bind i3 (fun x=>er_ok _) _ e h
    split at h
    · exact er_bind i3 (fun x=>er_ok _) _ e h
    split at h
    · exact er_num l e h
    split at h
    · exact er_bind (i1 _) (fun x=>er_bind (er_tok _) (fun _=>er_ok _)) _ e h
    split at h
    · exact er_bind er_name (fun x=>er_bind i4 (fun _=>er_ok _)) _ e h
    split at h
    · exact er_bind er_name (fun x=>er_ok _) _ e h
    · refine er_bind er_name (fun x l e h=> ?_) _ e h
      split at h
      · exact er_bind i4 (fun x=>er_ok _) _ e h
      · cases h
  · rw[pKey]at h
    exact er_bind (er_tok _) (fun _=>er_bind (i1 _) (fun x=>er_bind (er_tok _) (fun _=>er_ok _))) _ e h
theorem er_items:∀(k:Nat) (xs:List S80),Er (pItems k xs)
 |0,xs=>fun l e h=>by rw[pItems]at h;cases h
 |k+1,xs=>fun l e h=>by
  rw[pItems]at h;dsimp only at h;split at h
  · cases h
  · exact er_bind (er_tok _) (fun _=>er_bind ((er_expr k).1 0) (fun x=>er_items k _)) _ e h
theorem er_stmt:∀(k:Nat),Er (pStmt k)∧Er (pCond k)∧Er (pBlock k)∧∀xs,Er (pBody k xs)
 |0=>⟨fun l e h=>(by rw[pStmt]at h;cases h),fun l e h=>(by rw[pCond]at h;cases h),fun l e h=>(by rw[pBlock]at h;cases h),fun xs l e h=>(by rw[pBody]at h;cases h)⟩
 |k+1=>by
  obtain⟨i1,i2,i3,i4⟩:=er_stmt k;obtain⟨j1,j2,j3,j4⟩:=er_expr k;refine⟨fun l e h=> ?_,fun l e h=> ?_,fun l e h=> ?_,fun xs l e h=> ?_⟩
  · rw[pStmt]at h
    dsimp only at h;split at h
    · unfold pSet at h
      refine er_bind er_name (fun x l e h=> ?_) _ e h;split at h
      · exact er_bind j4 (fun x=>er_bind (er_tok _) (fun _=>er_bind (j1 _) (fun y=>er_bind (er_tok _) (fun _=>er_ok _)))) _ e h
      · exact er_bind (er_tok _) (fun _=>er_bind (j1 _) (fun y=>er_bind (er_tok _) (fun _=>er_ok _))) _ e h
    split at h
    · exact er_bind er_name (fun x=>er_bind j4 (fun _=>er_bind (er_tok _) (fun _=>er_ok _))) _ e h
    split at h
    · exact er_bind er_name (fun x=>er_bind (er_tok _) (fun _=>er_ok _)) _ e h
    split at h
    · unfold pPrint at h
      split at h
      · cases h
      · exact er_bind (j1 _) (fun x=>er_items _ _) _ e h
    split at h
    · exact i2 _ e h
    split at h
    · exact er_bind (j1 _) (fun x=>er_bind i3 (fun _=>er_ok _)) _ e h
    split at h
    · exact er_bind er_name (fun a=>er_bind (er_tok _) (fun _=>er_bind er_name (fun b=>er_bind (er_tok _) (fun _=>er_bind er_name (fun s=>er_bind i3 (fun c=>er_ok _)))))) _ e h
    split at h
    · exact er_bind (er_tok _) (fun _=>er_ok _) _ e h
    · exact er_bind (er_tok _) (fun _=>er_bind (er_tok _) (fun _=>er_ok _)) _ e h
  · rw[pCond]at h
    refine er_bind (j1 _) (fun x=>er_bind i3 (fun b l e h=> ?_)) _ e h;split at h
    · split at h
      · exact er_bind i2 (fun c=>er_ok _) _ e h
      · exact er_bind i3 (fun c=>er_ok _) _ e h
    · cases h
  · rw[pBlock]at h
    exact er_bind (er_tok _) (fun _=>i4 _) _ e h
  · rw[pBody]at h
    dsimp only at h;split at h
    · cases h
    · exact er_bind i1 (fun s=>i4 _) _ e h
theorem er_top:∀(k:Nat) (xs:List S62),Er (pTop k xs)
 |0,xs=>fun l e h=>by rw[pTop]at h;cases h
 |k+1,xs=>fun l e h=>by
  rw[pTop]at h;dsimp only at h;split at h
  · cases h
  · exact er_bind (er_stmt k).1 (fun s=>er_top k _) _ e h
theorem er_maps:∀(k:Nat) (xs:List Bs),Er (pMaps k xs)
 |0,xs=>fun l e h=>by rw[pMaps]at h;cases h
 |k+1,xs=>fun l e h=>by
  rw[pMaps]at h;dsimp only at h;split at h
  · exact er_bind er_name (fun s=>er_bind (er_tok _) (fun _=>er_maps k _)) _ e h
  · cases h
theorem er_prog (k:Nat):Er (pProg k):=er_bind (er_maps k []) (fun m=>er_bind (er_top k []) (fun s=>er_ok _))
theorem lex_end:∀(k:Nat) (b:Bool) (n:Nat) (line:Int) (l:List UInt8) (p q:List S42) (t:S42),lex k b n line l=p++t::q→t.f2=36→q=[]
 |0,b,n,line,l,p,q,t,h,ht=>by
  rw[lex]at h;cases p with
  |nil=>injection h with h1 h2;exact h2.symm
  |cons a p=>injection h with h1 h2;exact absurd h2 (by simp)
 |k+1,b,n,line,l,p,q,t,h,ht=>by
  rw[lex]at h;split at h
  · cases p with
    |nil=>injection h with h1 h2;exact h2.symm
    |cons a p=>injection h with h1 h2;exact absurd h2 (by simp)
  · rename_i c r hr
    cases p with
    |nil=>
     injection h with h1 h2
     rw[← h1,tokAt_sort]at ht;split at ht
     · omega
     · rcases tokT_sort c r with q|q|q|q<;>omega
    |cons a p=>
     injection h with h1 h2
     exact lex_end k _ _ _ _ p q t h2 ht
theorem tokT_name {c:UInt8} {r:List UInt8} (h:(tokT c r).2=110) (hr:r.length<1048576):NameS (B (tokT c r).1):=by
 have hT:(tokT c r).1=(c::r).takeWhile inU∧letU c=true∧(c::r).takeWhile inU ∉ wordsL:=by
  unfold tokT at h⊢;split at h
  · exact absurd h (by intro h;simp at h)
  · rename_i hd
    rw[if_neg hd];split at h
    · rename_i hl
      rw[if_pos hl];split at h
      · exact absurd h (by intro h;simp at h)
      · rename_i hw
        rw[if_neg hw];exact⟨rfl,hl,hw⟩
    · split at h
      · exact absurd h (by intro h;simp at h)
      · split at h<;>exact absurd h (by intro h;simp at h)
 obtain⟨h1,h2,h3⟩:=hT;have hi:inU c=true:=by rw[inU,h2,Bool.true_or]
 rw[h1];refine⟨?_,?_,?_,?_,?_⟩
 · rw[B_toList,List.takeWhile_cons_of_pos hi];simp
 · intro c' r' hc
   rw[B_toList,List.takeWhile_cons_of_pos hi]at hc;injection hc with hc _
   rw[← hc];exact h2
 · intro b hb
   rw[B_toList]at hb;exact mem_tw inU (c::r) b hb
 · rw[B_toList];exact h3
 · have:=len_tw inU (c::r)
   rw[List.length_cons]at this;rw[← toList_len,B_toList];omega
theorem lex_tn:∀(k:Nat) (b:Bool) (n:Nat) (line:Int) (l:List UInt8),l.length≤1048576→TN (lex k b n line l)
 |0,b,n,line,l,hl=>by
  intro t ht h;rw[lex,List.mem_singleton]at ht;subst ht;exact absurd h (by simp[tEnd])
 |k+1,b,n,line,l,hl=>by
  rw[lex];split
  · intro t ht h
    rw[List.mem_singleton]at ht;subst ht;exact absurd h (by simp[tEnd])
  · rename_i c r hr
    have hlen:=congrArg List.length hr;rw[List.length_drop,List.length_cons]at hlen;intro t ht h;rcases List.mem_cons.mp ht with rfl|ht
    · rw[tokAt_sort]at h
      split at h
      · omega
      · rw[tokAt_text];exact tokT_name h (by omega)
    · exact lex_tn k false (n+1) _ _ (by rw[List.length_drop,List.length_cons];omega) t ht h
def DkPost (w:World) (l:List S42) (e:Ending) (w':World):Prop:=
 ∃A c,e= .returned (.slice A l.length c)∧l.length≤c∧k42.N 42 w' w.heap.size (fun k=>w.heap.size≤k) (.slice A l.length c) l∧Turn (fun _=>False) w w'
theorem heap_five {w:World} {b t:Nat} {v0 v1 v2 v3 v4:Value} (h:w.heap[b]? =some (.cells #[v0,v1,v2,v3,v4] t (0,0))):w.cell? ⟨b,0,none⟩=some v0∧w.cell? ⟨b,1,none⟩=some v1∧w.cell? ⟨b,2,none⟩=some v2∧w.cell? ⟨b,3,none⟩=some v3∧w.cell? ⟨b,4,none⟩=some v4∧∀i,w.frozen? ⟨b,i,none⟩=false:=
 ⟨by simp[World.cell?,h],by simp[World.cell?,h],by simp[World.cell?,h],by simp[World.cell?,h],by simp[World.cell?,h],fun i=>by simp[World.frozen?,h]⟩
def DkLoop (s:Bs) (ALL:List S42) (w:World) (b:Bool) (kq:Nat) (v3 v4 v5:Value) (W:World):Prop:=
 ∃(i:Nat) (xs:List S42) (A:Option Addr) (c:Nat) (line:Int),v5= .int .i64 (i:Int)∧v3= .slice A xs.length c∧v4= .int .i64 line∧i≤s.size∧s.size<kq+i∧
  ALL=xs++lex (s.size-i+1) b xs.length line (s.toList.drop i)∧0≤line∧line≤i+1∧xs.length≤i∧
  k42.N 42 W w.heap.size (fun k=>w.heap.size≤k) (.slice A xs.length c) xs∧Turn (fun _=>False) w W
theorem lex_one {s:Bs} {i:Nat} {d:UInt8} (hlt:i<s.size) (hd:s.toList.drop i=d::s.toList.drop (i+1)) {b b':Bool} {n:Nat} {line:Int} (h:blk b (s.toList.drop i)=blk b' (s.toList.drop (i+1))+1):
 lex (s.size-i+1) b n line (s.toList.drop i)=lex (s.size-(i+1)+1) b' n (line+if d=10 then 1 else 0) (s.toList.drop (i+1)):=by
 rw[hd]at h⊢;rw[lex_step h];exact lex_fuel _ _ _ _ _ _ (by rw[List.length_drop,toList_len];omega) (by rw[List.length_drop,toList_len];omega)
theorem slashes {d:UInt8} {l:List UInt8} (h:Lib.hasPrefix (d::l) [47,47]=true):d=47∧∃t,l=47::t:=by
 rw[Lib.hasPrefix]at h;cases l with
 |nil=>simp at h
 |cons e t=>simp at h;exact⟨h.1.symm,t,by rw[← h.2]⟩
theorem u8_ne {c d:UInt8} (h:c≠d):(((c.toNat:Nat):Int)==((d.toNat:Nat):Int))=false:=by rw[beq_eq_false_iff_ne];exact fun z=>h (UInt8.toNat_inj.mp (by omega))
theorem dk_done {w W:World} {ALL ys:List S42} {v:Value} (h:ALL=ys) (N1:k42.N 42 W w.heap.size (fun k=>w.heap.size≤k) v ys) (T:Turn (fun _=>False) w W):DkPost w ALL (.returned v) W:=by
 obtain⟨A,c,rfl⟩:=Kd.N_slice N1;subst h;exact⟨A,c,rfl,(Kd.N_reads' N1).2.1,N1,T⟩
theorem dtokens_call (s:Bs) (hs:s.size<900000000) (w:World):Calls Tryz.prog 10 #[.string s] w (DkPost w (lex (s.size+1) false 0 1 s.toList)):=by
 generalize hALL:lex (s.size+1) false 0 1 s.toList=ALL;replace hALL:=η hALL;go_enter Tryz.func10,Tryz.ntmps10;go_wp2_with fail
 go_loopg [3,4,5] (s.size+1) (fun kq v3 v4 v5 W=>DkLoop s ALL w false kq v3 v4 v5 W)
 case atStart=>exact⟨0,[],none,0,1,rfl,rfl,rfl,by omega,by omega,by rw[List.drop_zero,Nat.sub_zero,List.nil_append,List.length_nil,hALL.out],by omega,by omega,by simp,Kd.N_nil _ _ _ _ _,Turn.refl _ _⟩
 case round=>
  clear hALL;obtain⟨i,xs,A,c,line,rfl,rfl,rfl,hi,hkq,hst,hl0,hl1,hx,N1,T⟩:=hrel;have hlen:=toList_len s;replace N1:=η N1;replace T:=η T;by_cases hlt:i<s.size
  · have hlt2:i<s.toList.length:=by omega
    have c1:(i:Int)<(s.size:Int):=by omega
    have hb:=bt_int s i hlt2;have hdr:s.toList.drop i=s.toList[i]::s.toList.drop (i+1):=List.drop_eq_getElem_cons hlt2;generalize s.toList[i]=d at*;by_cases hbl:isBl d=true
    · have h1:=lex_one (n:=xs.length) (line:=line) hlt hdr (b:=false) (b':=false) (by rw[hdr];exact blk_bl hbl)
      rw[h1]at hst;replace hst:=η hst
      have k4:d.toNat=10∨d.toNat=32∨d.toNat=9∨d.toNat=13:=by
       simp only[isBl,Bool.or_eq_true,beq_iff_eq]at hbl;rcases hbl with((h|h)|h)|h<;>subst h<;>decide
      have kd10:d.toNat=10→d=10:=fun h=>UInt8.toNat_inj.mp h
      have kdn:d.toNat≠10→d≠10:=fun h z=>h (by rw[z];rfl)
      replace kd10:=η kd10;replace kdn:=η kdn;clear hdr hbl hlt2 hlen h1;rcases k4 with k|k|k|k
      · simp only[k]at hb
        have hst2:=hst.out;rw[if_pos (kd10.out k)]at hst2;replace hst2:=η hst2;replace hkq:=η hkq;clear k hst kd10 kdn hlt;go_wp2;go_roundg (s.size-i)
        case measure=>have:=hkq.out;omega
        case rel=>exact⟨i+1,xs,A,c,line+1,by simp,rfl,rfl,by omega,by omega,hst2.out,by omega,by omega,by omega,N1.out,T.out⟩
      all_goals
       simp only[k]at hb;have hst2:=hst.out;rw[if_neg (kdn.out (by omega)),Int.add_zero]at hst2;replace hst2:=η hst2;replace hkq:=η hkq;clear k hst kd10 kdn hlt;go_wp2;go_roundg (s.size-i)
       case measure=>have:=hkq.out;omega
       case rel=>exact⟨i+1,xs,A,c,line,by simp,rfl,rfl,by omega,by omega,hst2.out,by omega,by omega,by omega,N1.out,T.out⟩
    · have hbl:isBl d=false:=by simpa using hbl
      have kn:d≠32∧d≠9∧d≠13∧d≠10:=by
       refine⟨?_,?_,?_,?_⟩<;>(rintro rfl;revert hbl;decide)
      have n32:(((d.toNat:Nat):Int)==32)=false:=u8_ne kn.1;have n9:(((d.toNat:Nat):Int)==9)=false:=u8_ne kn.2.1;have n13:(((d.toNat:Nat):Int)==13)=false:=u8_ne kn.2.2.1;have n10:(((d.toNat:Nat):Int)==10)=false:=u8_ne kn.2.2.2;clear kn;cases hp:Lib.hasPrefix (d::s.toList.drop (i+1)) [47,47]with
      |true=>
       obtain⟨rfl,t,hdr1⟩:=slashes hp;obtain⟨e1,e2⟩:=slash hbl hp;rw[← hdr]at e1;rw[lex_rem e1]at hst;have hlt3:i+1<s.size:=by have:=congrArg List.length hdr1;rw[List.length_drop,List.length_cons]at this;omega
       have hb1:=bt_int s (i+1) (by omega)
       have hd1:s.toList[i+1]=47:=by
        have:=List.drop_eq_getElem_cons (show i+1<s.toList.length by omega);rw[hdr1]at this;injection this with this
        exact this.symm
       have e47:(((47:UInt8).toNat:Nat):Int)=47:=rfl;simp only[hd1,e47]at hb1;simp only[e47]at hb;have c2:(i:Int)+1<(s.size:Int):=by omega
       replace hst:=η hst;clear e1 e2 hp hdr1 hdr hd1 hbl n10 n32 n9 n13 e47;go_upto_region 18 with fail
       clear c2 hb1;have hb47:=η hb;clear hb c1;go_loopg [5] (s.size+1) (fun kq5 v5 W=>∃j:Nat,v5= .int .i64 (j:Int)∧i≤j∧j≤s.size∧s.size<kq5+j∧W=wr∧ALL=xs++lex (s.size-j+1) true xs.length line (s.toList.drop j))
       case atStart=>exact⟨i,rfl,by omega,by omega,by omega,rfl,hst.out⟩
       case round=>
        clear hst;obtain⟨j,rfl,hij,hj,hkj,hwr,hst⟩:=hrel;subst hwr;by_cases hltj:j<s.size
        · have hltj2:j<s.toList.length:=by omega
          have c1:(j:Int)<(s.size:Int):=by omega
          have hb:=bt_int s j hltj2;have hdr:s.toList.drop j=s.toList[j]::s.toList.drop (j+1):=List.drop_eq_getElem_cons hltj2;generalize s.toList[j]=f at*;by_cases hf:f=10
          · subst hf
            have e10:(((10:UInt8).toNat:Nat):Int)=10:=rfl;simp only[e10]at hb;have hbk:blk true (s.toList.drop j)=blk false (s.toList.drop j):=by rw[hdr];rfl
            rw[lex_rem hbk]at hst
            have hne:i<j:=by
             rcases Nat.lt_or_eq_of_le hij with h|h
             · exact h
             · subst h
               have h1:=hb47.out hlt;have h2:=hb hlt;omega
            clear hb47 e10 hdr hbk hltj2 hlen hltj hlt;replace hst:=η hst;go_wp2;go_roundg (s.size-j+1)
            case measure=>omega
            case rel=>exact⟨j,xs,A,c,line,rfl,rfl,rfl,by omega,by omega,hst.out,by omega,by omega,by omega,N1.out,T.out⟩
          · have h1:=lex_one (n:=xs.length) (line:=line) hltj hdr (b:=true) (b':=true) (by rw[hdr,blk,if_neg (by simpa using hf)])
            rw[h1,if_neg hf,Int.add_zero]at hst;have n10:(((f.toNat:Nat):Int)==10)=false:=u8_ne hf;clear hb47 hdr h1 hltj2 hlen hltj hlt;replace hst:=η hst;go_wp2;go_roundg (s.size-j)
            case measure=>omega
            case rel=>exact⟨j+1,by simp,by omega,by omega,by omega,rfl,hst.out⟩
        · have hj2:j=s.size:=by omega
          have hbk:blk true (s.toList.drop j)=blk false (s.toList.drop j):=by rw[List.drop_of_length_le (by omega)];rfl
          rw[lex_rem hbk]at hst;have c1:¬(j:Int)<(s.size:Int):=by omega
          replace hst:=η hst;clear hb47 hbk hltj hj2;clear hlen;go_wp2;go_roundg (s.size-j+1)
          case measure=>omega
          case rel=>exact⟨j,xs,A,c,line,rfl,rfl,rfl,by omega,by omega,hst.out,by omega,by omega,by omega,N1.out,T.out⟩
      |false=>
       rw[hdr,lex_tok (blk_stop hbl hp)]at hst;have hXe:(s.extract i s.size).toList=d::s.toList.drop (i+1):=by rw[ext_drop,hdr]
       have hXs:(s.extract i s.size).size=s.size-i:=by rw[← toList_len,ext_drop,List.length_drop,hlen]
       have TC:=η (show ∀w:World,Calls Tryz.prog 26 #[.string (s.extract i s.size)] w (fun e w'=>e= .returned (.agg #[.string (tokOf d (s.toList.drop (i+1)) 0).f0,.int .i64 (tokOf d (s.toList.drop (i+1)) 0).f1,.int .u8 (tokOf d (s.toList.drop (i+1)) 0).f2,.int .i64 (tokOf d (s.toList.drop (i+1)) 0).f3,.int .i64 (tokOf d (s.toList.drop (i+1)) 0).f4])∧Below w.heap.size w w') from fun w=>dtoken_call (s.extract i s.size) d _ hXe (by omega) w)
       have hcv:tokAt xs.length d (s.toList.drop (i+1)) line=⟨(tokOf d (s.toList.drop (i+1)) 0).f0,line,if 8192≤xs.length then 63 else(tokOf d (s.toList.drop (i+1)) 0).f2,(tokOf d (s.toList.drop (i+1)) 0).f3,(tokOf d (s.toList.drop (i+1)) 0).f4⟩:=by
        unfold tokAt;split<;>rfl
       have htl:=tokT_len d (s.toList.drop (i+1));rw[List.length_drop,hlen]at htl;have hr1:(tokOf d (s.toList.drop (i+1)) 0).f0.size=(tokT d (s.toList.drop (i+1))).1.length:=by show(B _).size=_;rw[← toList_len,B_toList]
       have hnx:lex (s.size-i) false (xs.length+1) line ((d::s.toList.drop (i+1)).drop (tokT d (s.toList.drop (i+1))).1.length)=lex (s.size-(i+(tokT d (s.toList.drop (i+1))).1.length)+1) false (xs.length+1) line (s.toList.drop (i+(tokT d (s.toList.drop (i+1))).1.length)):=by
        rw[← hdr,List.drop_drop];exact lex_fuel _ _ _ _ _ _ (by rw[List.length_drop,hlen];omega) (by rw[List.length_drop,hlen];omega)
       rw[hnx,← hr1]at hst;rw[← hr1]at htl
       have h47:d=47→i+1<s.size→∃z:Int,(∀h:i+1<s.size,((s[i+1]'h).toNat:Int)=z)∧(z==47)=false:=by
        rintro rfl h;refine⟨_,bt_int s (i+1) (by omega),u8_ne (d:=47) (fun q=> ?_)⟩;rw[List.drop_eq_getElem_cons (show i+1<s.toList.length by omega),q]at hp;exact absurd hp (by simp[Lib.hasPrefix])
       have n47:d≠47→(((d.toNat:Nat):Int)==47)=false:=u8_ne;have y47:d=47→((d.toNat:Nat):Int)=47:=fun h=>by rw[h];rfl
       generalize tokAt xs.length d (s.toList.drop (i+1)) line=tK at*;generalize hr1v:(tokOf d (s.toList.drop (i+1)) 0).f0=r1 at*;generalize(tokOf d (s.toList.drop (i+1)) 0).f1=r2 at*;generalize(tokOf d (s.toList.drop (i+1)) 0).f2=r3 at*;generalize(tokOf d (s.toList.drop (i+1)) 0).f3=r4 at*;generalize(tokOf d (s.toList.drop (i+1)) 0).f4=r5 at*;clear hnx hXe hXs hdr hp hbl hr1 hr1v hlt2;generalize hci:((d.toNat:Nat):Int)=ci at*
       have w3:(d=47∧i+1<s.size)∨(d=47∧¬i+1<s.size)∨d≠47:=by
        by_cases h1:d=47
        · by_cases h2:i+1<s.size
          · exact .inl ⟨h1,h2⟩
          · exact .inr (.inl ⟨h1,h2⟩)
        · exact .inr (.inr h1)
       replace hst:=η hst;replace hcv:=η hcv;replace htl:=η htl;replace hkq:=η hkq;replace hl1:=η hl1;replace hi:=η hi;have hxx:xs.length<1000000000:=by omega
       replace hx:=η hx;have hsz:s.size<900000000:=hs;clear hlen hci hlt;rcases w3 with⟨h1,h2⟩|⟨h1,h2⟩|h1
       · obtain⟨z,hb1,hz⟩:=h47 h1 h2
         have hci:ci=47:=y47 h1;subst hci;have c2:(i:Int)+1<(s.size:Int):=by omega
         clear h47 n47 y47 h1 h2 n10 n32 n9 n13;by_cases q:8192≤xs.length
         · rw[if_pos q]at hcv
           have q1:(8192:Int)≤(xs.length:Int):=by omega
           clear q;go_upto_region 10 with(first|(go_at_call 26;refine(TC.out _).mono ?_;rintro e w2 ⟨rfl,H2⟩;have T2:Turn (fun _=>False) _ w2:=Turn.of_below H2 (Nat.le_refl _);have N2:=η (Kd.N_step N1.out (fun k hk hlt=>T2.block k hlt (fun z=>z)));have X2:=η (T.out.then T2 (fun i hi=>hi.elim));clear T2 H2))
           have hgb:w.heap.size≤w2.heap.size:=X2.out.size;have B3:=η (alloc_new w2 (.cells #[.string r1,.int .i64 line,.int .u8 63,.int .i64 r4,.int .i64 r5] 42));have N3:=η (Kd.N_alloc N2.out (.cells #[.string r1,.int .i64 line,.int .u8 63,.int .i64 r4,.int .i64 r5] 42));have X3:=η (X2.out.alloc (.cells #[.string r1,.int .i64 line,.int .u8 63,.int .i64 r4,.int .i64 r5] 42));have hg3:w2.heap.size<(w2.alloc (.cells #[.string r1,.int .i64 line,.int .u8 63,.int .i64 r4,.int .i64 r5] 42)).heap.size:=by simp
           generalize w2.alloc (.cells #[.string r1,.int .i64 line,.int .u8 63,.int .i64 r4,.int .i64 r5] 42)=w3 at*;obtain⟨b0,b1,b2,b3,b4,bf⟩:=heap_five B3.out;go_upto_region 11 with(at_builtin;refine Kd.N_append k42 (w0:=w3) (W:=w3) w.heap.size rfl (.tmp 25) (.tmp 27) 37 42 _ 48 rfl Tryz.underlying37 info42 rfl (by decide) (by decide) (.slice A xs.length c) xs tK [.string r1,.int .i64 line,.int .u8 63,.int .i64 r4,.int .i64 r5] (fun k=>w.heap.size≤k) (fun k=>False) rfl rfl (by rw[hcv.out];exact k42_mkF _ _ _) (fun k hk=>hk.elim) (fun k hk=>by omega) N3.out (Below.refl _ _) (by omega) (by omega) ?_;intro v1 w5 N5 hb5 hg5 hat5)
           have T5:Turn (fun k=>w.heap.size≤k) w3 w5:=Turn.of_grown hg5 (fun k hk=> .inl (N3.out.1 k hk));have T6:Turn (fun k=>(Value.slice A xs.length c).ownBlock=some k) w3 w5:=Turn.of_grown hg5 (fun k hk=> .inl hk);have B5:=T6.heap B3.out (fun hk=>by have:=Kd.N_lt N2.out _ hk;omega);have X5:=η (X3.out.then T5 (fun i hi=> .inr hi));clear b0 b1 b2 b3 b4 bf T5 T6 hb5 hg5 hat5 N3 X3 B3 N2 X2;obtain⟨b0,b1,b2,b3,b4,bf⟩:=heap_five B5;clear B5;obtain⟨A',c',hv1⟩:=Kd.N_slice N5;have hv2:v1= .slice A' (xs.length+1) c':=by rw[hv1];simp
           clear hv1;subst hv2;have N6:=η N5;clear N5;have hn1:(i:Int)+(r1.size:Int)<1000000000:=by have:=htl.out;have:=hi.out;omega
           have hn0:(0:Int)≤(i:Int)+(r1.size:Int):=by omega
           go_wp2_with fail
           go_roundg (s.size-(i+r1.size)+1)
           case measure=>have:=htl.out;have:=hkq.out;have:=hi.out;omega
           case rel=>
            have h2:=htl.out;have h3:=hkq.out;have h4:=hi.out;have h5:=hl1.out;have h6:=hx.out;refine⟨i+r1.size,xs++[tK],A',c',line,by simp,by simp,rfl,by omega,by omega,?_,by omega,by omega,by simp;omega,?_,X5.out⟩
            · rw[hst.out];simp
            · have e:(xs++[tK]).length=xs.length+1:=by simp
              rw[e];exact N6.out
         · rw[if_neg q]at hcv
           have q1:¬(8192:Int)≤(xs.length:Int):=by omega
           clear q;go_upto_region 10 with(first|(go_at_call 26;refine(TC.out _).mono ?_;rintro e w2 ⟨rfl,H2⟩;have T2:Turn (fun _=>False) _ w2:=Turn.of_below H2 (Nat.le_refl _);have N2:=η (Kd.N_step N1.out (fun k hk hlt=>T2.block k hlt (fun z=>z)));have X2:=η (T.out.then T2 (fun i hi=>hi.elim));clear T2 H2))
           have hgb:w.heap.size≤w2.heap.size:=X2.out.size;have B3:=η (alloc_new w2 (.cells #[.string r1,.int .i64 line,.int .u8 r3,.int .i64 r4,.int .i64 r5] 42));have N3:=η (Kd.N_alloc N2.out (.cells #[.string r1,.int .i64 line,.int .u8 r3,.int .i64 r4,.int .i64 r5] 42));have X3:=η (X2.out.alloc (.cells #[.string r1,.int .i64 line,.int .u8 r3,.int .i64 r4,.int .i64 r5] 42));have hg3:w2.heap.size<(w2.alloc (.cells #[.string r1,.int .i64 line,.int .u8 r3,.int .i64 r4,.int .i64 r5] 42)).heap.size:=by simp
           generalize w2.alloc (.cells #[.string r1,.int .i64 line,.int .u8 r3,.int .i64 r4,.int .i64 r5] 42)=w3 at*;obtain⟨b0,b1,b2,b3,b4,bf⟩:=heap_five B3.out;go_upto_region 11 with(at_builtin;refine Kd.N_append k42 (w0:=w3) (W:=w3) w.heap.size rfl (.tmp 25) (.tmp 27) 37 42 _ 48 rfl Tryz.underlying37 info42 rfl (by decide) (by decide) (.slice A xs.length c) xs tK [.string r1,.int .i64 line,.int .u8 r3,.int .i64 r4,.int .i64 r5] (fun k=>w.heap.size≤k) (fun k=>False) rfl rfl (by rw[hcv.out];exact k42_mkF _ _ _) (fun k hk=>hk.elim) (fun k hk=>by omega) N3.out (Below.refl _ _) (by omega) (by omega) ?_;intro v1 w5 N5 hb5 hg5 hat5)
           have T5:Turn (fun k=>w.heap.size≤k) w3 w5:=Turn.of_grown hg5 (fun k hk=> .inl (N3.out.1 k hk));have T6:Turn (fun k=>(Value.slice A xs.length c).ownBlock=some k) w3 w5:=Turn.of_grown hg5 (fun k hk=> .inl hk);have B5:=T6.heap B3.out (fun hk=>by have:=Kd.N_lt N2.out _ hk;omega);have X5:=η (X3.out.then T5 (fun i hi=> .inr hi));clear b0 b1 b2 b3 b4 bf T5 T6 hb5 hg5 hat5 N3 X3 B3 N2 X2;obtain⟨b0,b1,b2,b3,b4,bf⟩:=heap_five B5;clear B5;obtain⟨A',c',hv1⟩:=Kd.N_slice N5;have hv2:v1= .slice A' (xs.length+1) c':=by rw[hv1];simp
           clear hv1;subst hv2;have N6:=η N5;clear N5;have hn1:(i:Int)+(r1.size:Int)<1000000000:=by have:=htl.out;have:=hi.out;omega
           have hn0:(0:Int)≤(i:Int)+(r1.size:Int):=by omega
           go_wp2_with fail
           go_roundg (s.size-(i+r1.size)+1)
           case measure=>have:=htl.out;have:=hkq.out;have:=hi.out;omega
           case rel=>
            have h2:=htl.out;have h3:=hkq.out;have h4:=hi.out;have h5:=hl1.out;have h6:=hx.out;refine⟨i+r1.size,xs++[tK],A',c',line,by simp,by simp,rfl,by omega,by omega,?_,by omega,by omega,by simp;omega,?_,X5.out⟩
            · rw[hst.out];simp
            · have e:(xs++[tK]).length=xs.length+1:=by simp
              rw[e];exact N6.out
       · have hci:ci=47:=y47 h1
         subst hci;have c2:¬(i:Int)+1<(s.size:Int):=by omega
         clear h47 n47 y47 h1 h2 n10 n32 n9 n13;by_cases q:8192≤xs.length
         · rw[if_pos q]at hcv
           have q1:(8192:Int)≤(xs.length:Int):=by omega
           clear q;go_upto_region 10 with(first|(go_at_call 26;refine(TC.out _).mono ?_;rintro e w2 ⟨rfl,H2⟩;have T2:Turn (fun _=>False) _ w2:=Turn.of_below H2 (Nat.le_refl _);have N2:=η (Kd.N_step N1.out (fun k hk hlt=>T2.block k hlt (fun z=>z)));have X2:=η (T.out.then T2 (fun i hi=>hi.elim));clear T2 H2))
           have hgb:w.heap.size≤w2.heap.size:=X2.out.size;have B3:=η (alloc_new w2 (.cells #[.string r1,.int .i64 line,.int .u8 63,.int .i64 r4,.int .i64 r5] 42));have N3:=η (Kd.N_alloc N2.out (.cells #[.string r1,.int .i64 line,.int .u8 63,.int .i64 r4,.int .i64 r5] 42));have X3:=η (X2.out.alloc (.cells #[.string r1,.int .i64 line,.int .u8 63,.int .i64 r4,.int .i64 r5] 42));have hg3:w2.heap.size<(w2.alloc (.cells #[.string r1,.int .i64 line,.int .u8 63,.int .i64 r4,.int .i64 r5] 42)).heap.size:=by simp
           generalize w2.alloc (.cells #[.string r1,.int .i64 line,.int .u8 63,.int .i64 r4,.int .i64 r5] 42)=w3 at*;obtain⟨b0,b1,b2,b3,b4,bf⟩:=heap_five B3.out;go_upto_region 11 with(at_builtin;refine Kd.N_append k42 (w0:=w3) (W:=w3) w.heap.size rfl (.tmp 25) (.tmp 27) 37 42 _ 48 rfl Tryz.underlying37 info42 rfl (by decide) (by decide) (.slice A xs.length c) xs tK [.string r1,.int .i64 line,.int .u8 63,.int .i64 r4,.int .i64 r5] (fun k=>w.heap.size≤k) (fun k=>False) rfl rfl (by rw[hcv.out];exact k42_mkF _ _ _) (fun k hk=>hk.elim) (fun k hk=>by omega) N3.out (Below.refl _ _) (by omega) (by omega) ?_;intro v1 w5 N5 hb5 hg5 hat5)
           have T5:Turn (fun k=>w.heap.size≤k) w3 w5:=Turn.of_grown hg5 (fun k hk=> .inl (N3.out.1 k hk));have T6:Turn (fun k=>(Value.slice A xs.length c).ownBlock=some k) w3 w5:=Turn.of_grown hg5 (fun k hk=> .inl hk);have B5:=T6.heap B3.out (fun hk=>by have:=Kd.N_lt N2.out _ hk;omega);have X5:=η (X3.out.then T5 (fun i hi=> .inr hi));clear b0 b1 b2 b3 b4 bf T5 T6 hb5 hg5 hat5 N3 X3 B3 N2 X2;obtain⟨b0,b1,b2,b3,b4,bf⟩:=heap_five B5;clear B5;obtain⟨A',c',hv1⟩:=Kd.N_slice N5;have hv2:v1= .slice A' (xs.length+1) c':=by rw[hv1];simp
           clear hv1;subst hv2;have N6:=η N5;clear N5;have hn1:(i:Int)+(r1.size:Int)<1000000000:=by have:=htl.out;have:=hi.out;omega
           have hn0:(0:Int)≤(i:Int)+(r1.size:Int):=by omega
           go_wp2_with fail
           go_roundg (s.size-(i+r1.size)+1)
           case measure=>have:=htl.out;have:=hkq.out;have:=hi.out;omega
           case rel=>
            have h2:=htl.out;have h3:=hkq.out;have h4:=hi.out;have h5:=hl1.out;have h6:=hx.out;refine⟨i+r1.size,xs++[tK],A',c',line,by simp,by simp,rfl,by omega,by omega,?_,by omega,by omega,by simp;omega,?_,X5.out⟩
            · rw[hst.out];simp
            · have e:(xs++[tK]).length=xs.length+1:=by simp
              rw[e];exact N6.out
         · rw[if_neg q]at hcv
           have q1:¬(8192:Int)≤(xs.length:Int):=by omega
           clear q;go_upto_region 10 with(first|(go_at_call 26;refine(TC.out _).mono ?_;rintro e w2 ⟨rfl,H2⟩;have T2:Turn (fun _=>False) _ w2:=Turn.of_below H2 (Nat.le_refl _);have N2:=η (Kd.N_step N1.out (fun k hk hlt=>T2.block k hlt (fun z=>z)));have X2:=η (T.out.then T2 (fun i hi=>hi.elim));clear T2 H2))
           have hgb:w.heap.size≤w2.heap.size:=X2.out.size;have B3:=η (alloc_new w2 (.cells #[.string r1,.int .i64 line,.int .u8 r3,.int .i64 r4,.int .i64 r5] 42));have N3:=η (Kd.N_alloc N2.out (.cells #[.string r1,.int .i64 line,.int .u8 r3,.int .i64 r4,.int .i64 r5] 42));have X3:=η (X2.out.alloc (.cells #[.string r1,.int .i64 line,.int .u8 r3,.int .i64 r4,.int .i64 r5] 42));have hg3:w2.heap.size<(w2.alloc (.cells #[.string r1,.int .i64 line,.int .u8 r3,.int .i64 r4,.int .i64 r5] 42)).heap.size:=by simp
           generalize w2.alloc (.cells #[.string r1,.int .i64 line,.int .u8 r3,.int .i64 r4,.int .i64 r5] 42)=w3 at*;obtain⟨b0,b1,b2,b3,b4,bf⟩:=heap_five B3.out;go_upto_region 11 with(at_builtin;refine Kd.N_append k42 (w0:=w3) (W:=w3) w.heap.size rfl (.tmp 25) (.tmp 27) 37 42 _ 48 rfl Tryz.underlying37 info42 rfl (by decide) (by decide) (.slice A xs.length c) xs tK [.string r1,.int .i64 line,.int .u8 r3,.int .i64 r4,.int .i64 r5] (fun k=>w.heap.size≤k) (fun k=>False) rfl rfl (by rw[hcv.out];exact k42_mkF _ _ _) (fun k hk=>hk.elim) (fun k hk=>by omega) N3.out (Below.refl _ _) (by omega) (by omega) ?_;intro v1 w5 N5 hb5 hg5 hat5)
           have T5:Turn (fun k=>w.heap.size≤k) w3 w5:=Turn.of_grown hg5 (fun k hk=> .inl (N3.out.1 k hk));have T6:Turn (fun k=>(Value.slice A xs.length c).ownBlock=some k) w3 w5:=Turn.of_grown hg5 (fun k hk=> .inl hk);have B5:=T6.heap B3.out (fun hk=>by have:=Kd.N_lt N2.out _ hk;omega);have X5:=η (X3.out.then T5 (fun i hi=> .inr hi));clear b0 b1 b2 b3 b4 bf T5 T6 hb5 hg5 hat5 N3 X3 B3 N2 X2;obtain⟨b0,b1,b2,b3,b4,bf⟩:=heap_five B5;clear B5;obtain⟨A',c',hv1⟩:=Kd.N_slice N5;have hv2:v1= .slice A' (xs.length+1) c':=by rw[hv1];simp
           clear hv1;subst hv2;have N6:=η N5;clear N5;have hn1:(i:Int)+(r1.size:Int)<1000000000:=by have:=htl.out;have:=hi.out;omega
           have hn0:(0:Int)≤(i:Int)+(r1.size:Int):=by omega
           go_wp2_with fail
           go_roundg (s.size-(i+r1.size)+1)
           case measure=>have:=htl.out;have:=hkq.out;have:=hi.out;omega
           case rel=>
            have h2:=htl.out;have h3:=hkq.out;have h4:=hi.out;have h5:=hl1.out;have h6:=hx.out;refine⟨i+r1.size,xs++[tK],A',c',line,by simp,by simp,rfl,by omega,by omega,?_,by omega,by omega,by simp;omega,?_,X5.out⟩
            · rw[hst.out];simp
            · have e:(xs++[tK]).length=xs.length+1:=by simp
              rw[e];exact N6.out
       · have n47:=n47 h1
         clear h47 y47 h1;by_cases q:8192≤xs.length
         · rw[if_pos q]at hcv
           have q1:(8192:Int)≤(xs.length:Int):=by omega
           clear q;go_upto_region 10 with(first|(go_at_call 26;refine(TC.out _).mono ?_;rintro e w2 ⟨rfl,H2⟩;have T2:Turn (fun _=>False) _ w2:=Turn.of_below H2 (Nat.le_refl _);have N2:=η (Kd.N_step N1.out (fun k hk hlt=>T2.block k hlt (fun z=>z)));have X2:=η (T.out.then T2 (fun i hi=>hi.elim));clear T2 H2))
           have hgb:w.heap.size≤w2.heap.size:=X2.out.size;have B3:=η (alloc_new w2 (.cells #[.string r1,.int .i64 line,.int .u8 63,.int .i64 r4,.int .i64 r5] 42));have N3:=η (Kd.N_alloc N2.out (.cells #[.string r1,.int .i64 line,.int .u8 63,.int .i64 r4,.int .i64 r5] 42));have X3:=η (X2.out.alloc (.cells #[.string r1,.int .i64 line,.int .u8 63,.int .i64 r4,.int .i64 r5] 42));have hg3:w2.heap.size<(w2.alloc (.cells #[.string r1,.int .i64 line,.int .u8 63,.int .i64 r4,.int .i64 r5] 42)).heap.size:=by simp
           generalize w2.alloc (.cells #[.string r1,.int .i64 line,.int .u8 63,.int .i64 r4,.int .i64 r5] 42)=w3 at*;obtain⟨b0,b1,b2,b3,b4,bf⟩:=heap_five B3.out;go_upto_region 11 with(at_builtin;refine Kd.N_append k42 (w0:=w3) (W:=w3) w.heap.size rfl (.tmp 25) (.tmp 27) 37 42 _ 48 rfl Tryz.underlying37 info42 rfl (by decide) (by decide) (.slice A xs.length c) xs tK [.string r1,.int .i64 line,.int .u8 63,.int .i64 r4,.int .i64 r5] (fun k=>w.heap.size≤k) (fun k=>False) rfl rfl (by rw[hcv.out];exact k42_mkF _ _ _) (fun k hk=>hk.elim) (fun k hk=>by omega) N3.out (Below.refl _ _) (by omega) (by omega) ?_;intro v1 w5 N5 hb5 hg5 hat5)
           have T5:Turn (fun k=>w.heap.size≤k) w3 w5:=Turn.of_grown hg5 (fun k hk=> .inl (N3.out.1 k hk));have T6:Turn (fun k=>(Value.slice A xs.length c).ownBlock=some k) w3 w5:=Turn.of_grown hg5 (fun k hk=> .inl hk);have B5:=T6.heap B3.out (fun hk=>by have:=Kd.N_lt N2.out _ hk;omega);have X5:=η (X3.out.then T5 (fun i hi=> .inr hi));clear b0 b1 b2 b3 b4 bf T5 T6 hb5 hg5 hat5 N3 X3 B3 N2 X2;obtain⟨b0,b1,b2,b3,b4,bf⟩:=heap_five B5;clear B5;obtain⟨A',c',hv1⟩:=Kd.N_slice N5;have hv2:v1= .slice A' (xs.length+1) c':=by rw[hv1];simp
           clear hv1;subst hv2;have N6:=η N5;clear N5;have hn1:(i:Int)+(r1.size:Int)<1000000000:=by have:=htl.out;have:=hi.out;omega
           have hn0:(0:Int)≤(i:Int)+(r1.size:Int):=by omega
           go_wp2_with fail
           go_roundg (s.size-(i+r1.size)+1)
           case measure=>have:=htl.out;have:=hkq.out;have:=hi.out;omega
           case rel=>
            have h2:=htl.out;have h3:=hkq.out;have h4:=hi.out;have h5:=hl1.out;have h6:=hx.out;refine⟨i+r1.size,xs++[tK],A',c',line,by simp,by simp,rfl,by omega,by omega,?_,by omega,by omega,by simp;omega,?_,X5.out⟩
            · rw[hst.out];simp
            · have e:(xs++[tK]).length=xs.length+1:=by simp
              rw[e];exact N6.out
         · rw[if_neg q]at hcv
           have q1:¬(8192:Int)≤(xs.length:Int):=by omega
           clear q;go_upto_region 10 with(first|(go_at_call 26;refine(TC.out _).mono ?_;rintro e w2 ⟨rfl,H2⟩;have T2:Turn (fun _=>False) _ w2:=Turn.of_below H2 (Nat.le_refl _);have N2:=η (Kd.N_step N1.out (fun k hk hlt=>T2.block k hlt (fun z=>z)));have X2:=η (T.out.then T2 (fun i hi=>hi.elim));clear T2 H2))
           have hgb:w.heap.size≤w2.heap.size:=X2.out.size;have B3:=η (alloc_new w2 (.cells #[.string r1,.int .i64 line,.int .u8 r3,.int .i64 r4,.int .i64 r5] 42));have N3:=η (Kd.N_alloc N2.out (.cells #[.string r1,.int .i64 line,.int .u8 r3,.int .i64 r4,.int .i64 r5] 42));have X3:=η (X2.out.alloc (.cells #[.string r1,.int .i64 line,.int .u8 r3,.int .i64 r4,.int .i64 r5] 42));have hg3:w2.heap.size<(w2.alloc (.cells #[.string r1,.int .i64 line,.int .u8 r3,.int .i64 r4,.int .i64 r5] 42)).heap.size:=by simp
           generalize w2.alloc (.cells #[.string r1,.int .i64 line,.int .u8 r3,.int .i64 r4,.int .i64 r5] 42)=w3 at*;obtain⟨b0,b1,b2,b3,b4,bf⟩:=heap_five B3.out;go_upto_region 11 with(at_builtin;refine Kd.N_append k42 (w0:=w3) (W:=w3) w.heap.size rfl (.tmp 25) (.tmp 27) 37 42 _ 48 rfl Tryz.underlying37 info42 rfl (by decide) (by decide) (.slice A xs.length c) xs tK [.string r1,.int .i64 line,.int .u8 r3,.int .i64 r4,.int .i64 r5] (fun k=>w.heap.size≤k) (fun k=>False) rfl rfl (by rw[hcv.out];exact k42_mkF _ _ _) (fun k hk=>hk.elim) (fun k hk=>by omega) N3.out (Below.refl _ _) (by omega) (by omega) ?_;intro v1 w5 N5 hb5 hg5 hat5)
           have T5:Turn (fun k=>w.heap.size≤k) w3 w5:=Turn.of_grown hg5 (fun k hk=> .inl (N3.out.1 k hk));have T6:Turn (fun k=>(Value.slice A xs.length c).ownBlock=some k) w3 w5:=Turn.of_grown hg5 (fun k hk=> .inl hk);have B5:=T6.heap B3.out (fun hk=>by have:=Kd.N_lt N2.out _ hk;omega);have X5:=η (X3.out.then T5 (fun i hi=> .inr hi));clear b0 b1 b2 b3 b4 bf T5 T6 hb5 hg5 hat5 N3 X3 B3 N2 X2;obtain⟨b0,b1,b2,b3,b4,bf⟩:=heap_five B5;clear B5;obtain⟨A',c',hv1⟩:=Kd.N_slice N5;have hv2:v1= .slice A' (xs.length+1) c':=by rw[hv1];simp
           clear hv1;subst hv2;have N6:=η N5;clear N5;have hn1:(i:Int)+(r1.size:Int)<1000000000:=by have:=htl.out;have:=hi.out;omega
           have hn0:(0:Int)≤(i:Int)+(r1.size:Int):=by omega
           go_wp2_with fail
           go_roundg (s.size-(i+r1.size)+1)
           case measure=>have:=htl.out;have:=hkq.out;have:=hi.out;omega
           case rel=>
            have h2:=htl.out;have h3:=hkq.out;have h4:=hi.out;have h5:=hl1.out;have h6:=hx.out;refine⟨i+r1.size,xs++[tK],A',c',line,by simp,by simp,rfl,by omega,by omega,?_,by omega,by omega,by simp;omega,?_,X5.out⟩
            · rw[hst.out];simp
            · have e:(xs++[tK]).length=xs.length+1:=by simp
              rw[e];exact N6.out
  · have hi2:i=s.size:=by omega
    have c1:¬(i:Int)<(s.size:Int):=by omega
    rw[List.drop_of_length_le (by omega),lex_nil]at hst;replace hst:=η hst;have hxx:xs.length<1000000000:=by omega
    clear hlt hlen hi hkq hi2;go_wp2_with(at_builtin;refine Kd.N_append k42 (w0:=wr) (W:=wr) w.heap.size rfl (.tmp 83) (.tmp 86) 37 42 _ 48 rfl Tryz.underlying37 info42 rfl (by decide) (by decide) (.slice A xs.length c) xs (tEnd line) [.string ⟨#[]⟩,.int .i64 line,.int .u8 36,.int .i64 0,.int .i64 0] (fun k=>w.heap.size≤k) (fun k=>False) rfl rfl (k42_mkF _ _ _) (fun k hk=>hk.elim) (fun k hk=>by have:=T.out.size;omega) N1.out (Below.refl _ _) T.out.size (by omega) ?_;intro v1 w5 N5 hb5 hg5 hat5)
    have T5:Turn (fun k=>w.heap.size≤k) wr w5:=Turn.of_grown hg5 (fun k hk=> .inl (N1.out.1 k hk));have hD:=dk_done hst.out N5 (T.out.then T5 (fun i hi=> .inr hi));clear N1 T hst;go_ret;exact hD
end Go.Proofs.YtbemddpmohoooaaGreatDoor
