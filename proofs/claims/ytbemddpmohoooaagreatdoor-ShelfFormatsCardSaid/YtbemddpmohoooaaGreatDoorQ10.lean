import Derived.Test.YtbemddpmohoooaaGreatDoorQ8
import Derived.Test.YtbemddpmohoooaaGreatDoorQ9
import Derived.Below
import Derived.Deep.Draws
import Derived.Laws.AppendOwn
import Derived.Lib.Hide
import Derived.WalkLawsBesides
import Derived.Outline
set_option linter.unusedVariables false
set_option linter.unusedSimpArgs false
set_option linter.unusedSectionVars false
set_option maxHeartbeats 128000000
set_option maxRecDepth 100000
namespace Go.Proofs.YtbemddpmohoooaaGreatDoor
open PShelfFormats
theorem pbind_some {α β:Type} {a:P α} {f:α→P β} {l:List S42} (h1:(a l).isSome=true) (h2:∀x l1,a l=some (.ok (x,l1))→(f x l1).isSome=true):(pbind a f l).isSome=true:=by
 unfold pbind;cases ha:a l with
 |none=>rw[ha]at h1;cases h1
 |some o=>
  cases o with
  |error e=>rfl
  |ok x=>exact h2 x.1 x.2 ha
theorem ptok_some (m:List UInt8) (l:List S42):(ptok m l).isSome=true:=by
 unfold ptok pfail;split<;>rfl
theorem pname_some (l:List S42):(pname l).isSome=true:=by
 unfold pname pfail;split<;>rfl
theorem pnum_some (l:List S42):(pnum l).isSome=true:=by
 unfold pnum pfail;split<;>rfl
theorem tail_len {l:List S42} (h:(hd l).f2≠0):l.length=l.tail.length+1:=by
 rw[hd_cons h];rfl
theorem Toks.tl {l:List S42} (h:Toks l):Toks l.tail:=by
 cases l with
 |nil=>exact h
 |cons a l=>exact h.cons.2
theorem ptok_len {m:List UInt8} {l l2:List S42} {u:Unit} (h:ptok m l=some (.ok (u,l2))) (ht:Toks l):l.length=l2.length+1∧Toks l2:=by
 obtain⟨t,rfl,_⟩:=ptok_ok h;exact⟨rfl,ht.cons.2⟩
theorem pname_len {l l2:List S42} {s:Bs} (h:pname l=some (.ok (s,l2))) (ht:Toks l):l.length=l2.length+1∧Toks l2:=by
 obtain⟨t,rfl,_⟩:=pname_ok h;exact⟨rfl,ht.cons.2⟩
theorem cut_len {c l':List S42} {low:Int} {x:S80} (h:Cut low c x) (ht:Toks (c++l')):l'.length<(c++l').length∧Toks l':=by
 have:=List.length_pos_iff.mpr h.ne;exact⟨by simp;omega,ht.tail⟩
theorem pExpr_len {k low:Nat} {l l':List S42} {x:S80} (hl:low≤5) (h:pExpr k low l=some (.ok (x,l'))) (ht:Toks l):l'.length<l.length∧Toks l':=by
 obtain⟨c,rfl,hc⟩:=(cut_expr k).1 low l x l' hl h ht;exact cut_len hc ht
theorem pKey_len {k:Nat} {l l':List S42} {x:S80} (h:pKey k l=some (.ok (x,l'))) (ht:Toks l):l'.length<l.length∧Toks l':=by
 obtain⟨a,c,b,rfl,_,_,_⟩:=cut_key h ht
 exact⟨by simp;omega,by have:Toks ((a::(c++[b]))++l'):=by simpa using ht
                        exact this.tail⟩
theorem ttl_expr:∀(k:Nat),
 (∀(low:Nat) l,low≤5→Toks l→10*l.length+7-low≤k→(pExpr k low l).isSome=true)∧
 (∀(low:Nat) x l,low<5→Toks l→10*l.length+1≤k→(pLoop k low x l).isSome=true)∧
 (∀l,Toks l→10*l.length+1≤k→(pUn k l).isSome=true)∧
 (∀l,Toks l→10*l.length+1≤k→(pKey k l).isSome=true)
 |0=>⟨fun low l h1 _ h=>by omega,fun low x l _ _ h=>by omega,fun l _ h=>by omega,fun l _ h=>by omega⟩
 |k+1=>by
  obtain⟨ih1,ih2,ih3,ih4⟩:=ttl_expr k;refine⟨?_,?_,?_,?_⟩
  · intro low l hl ht hk
    rw[pExpr];by_cases h5:low=5
    · rw[if_pos h5];exact ih3 l ht (by omega)
    · rw[if_neg h5]
      refine pbind_some (ih1 (low+1) l (by omega) ht (by omega)) (fun x l1 e=> ?_);obtain⟨q1,q2⟩:=pExpr_len (by omega) e ht;exact ih2 low x l1 (by omega) q2 (by omega)
  · intro low x l hl ht hk
    rw[pLoop];dsimp only;by_cases hc:(hd l).f2=109∧rank0 (hd l).f0.toList=(low:Int)
    · rw[if_pos hc]
      have hln:=tail_len (l:=l) (by rw[hc.1];decide);refine pbind_some (ih1 (low+1) l.tail (by omega) ht.tl (by omega)) (fun y l1 e=> ?_);obtain⟨q1,q2⟩:=pExpr_len (by omega) e ht.tl;by_cases h2:low=2
      · rw[if_pos h2];rfl
      · rw[if_neg h2];exact ih2 low _ l1 hl q2 (by omega)
    · rw[if_neg hc];rfl
  · intro l ht hk
    rw[pUn];dsimp only;by_cases c1:isM (hd l) [45]
    · rw[if_pos c1]
      have hln:=tail_len (l:=l) (by rw[c1.1];decide);exact pbind_some (ih3 _ ht.tl (by omega)) (fun _ _ _=>rfl)
    rw[if_neg c1];by_cases c2:isM (hd l) [33]
    · rw[if_pos c2]
      have hln:=tail_len (l:=l) (by rw[c2.1];decide);exact pbind_some (ih3 _ ht.tl (by omega)) (fun _ _ _=>rfl)
    rw[if_neg c2];by_cases c3:(hd l).f2=57
    · rw[if_pos c3];exact pnum_some l
    rw[if_neg c3];by_cases c4:isM (hd l) [40]
    · rw[if_pos c4]
      have hln:=tail_len (l:=l) (by rw[c4.1];decide);exact pbind_some (ih1 0 _ (by omega) ht.tl (by omega)) (fun _ _ _=>pbind_some (ptok_some _ _) (fun _ _ _=>rfl))
    rw[if_neg c4];by_cases c5:isM (hd l) [104,97,115]
    · rw[if_pos c5]
      have hln:=tail_len (l:=l) (by rw[c5.1];decide);refine pbind_some (pname_some _) (fun s l1 e=> ?_);obtain⟨q1,q2⟩:=pname_len e ht.tl;exact pbind_some (ih4 _ q2 (by omega)) (fun _ _ _=>rfl)
    rw[if_neg c5];by_cases c6:isM (hd l) [108,101,110]
    · rw[if_pos c6];exact pbind_some (pname_some _) (fun _ _ _=>rfl)
    rw[if_neg c6];refine pbind_some (pname_some _) (fun s l1 e=> ?_);obtain⟨q1,q2⟩:=pname_len e ht;by_cases c8:isM (hd l1) [91]
    · rw[if_pos c8];exact pbind_some (ih4 _ q2 (by omega)) (fun _ _ _=>rfl)
    · rw[if_neg c8];rfl
  · intro l ht hk
    rw[pKey];refine pbind_some (ptok_some _ _) (fun _ l1 e=> ?_);obtain⟨q1,q2⟩:=ptok_len e ht;exact pbind_some (ih1 0 _ (by omega) q2 (by omega)) (fun _ _ _=>pbind_some (ptok_some _ _) (fun _ _ _=>rfl))
theorem ttl_e {k:Nat} {l:List S42} (ht:Toks l) (hk:10*l.length+7≤k):(pExpr k 0 l).isSome=true:=(ttl_expr k).1 0 l (by omega) ht (by omega)
theorem ttl_key {k:Nat} {l:List S42} (ht:Toks l) (hk:10*l.length+1≤k):(pKey k l).isSome=true:=(ttl_expr k).2.2.2 l ht hk
theorem ttl_items:∀(k:Nat) (xs:List S80) (l:List S42),Toks l→10*l.length+8≤k→(pItems k xs l).isSome=true
 |0,xs,l,_,h=>by omega
 |k+1,xs,l,ht,hk=>by
  rw[pItems];dsimp only;by_cases c:isM (hd l) [59]
  · rw[if_pos c];rfl
  · rw[if_neg c]
    refine pbind_some (ptok_some _ _) (fun _ l1 e=> ?_);obtain⟨q1,q2⟩:=ptok_len e ht;refine pbind_some (ttl_e q2 (by omega)) (fun x l2 e2=> ?_);obtain⟨q3,q4⟩:=pExpr_len (by omega) e2 q2;exact ttl_items k _ l2 q4 (by omega)
theorem stm_len {k:Nat} {l l':List S42} {s:S62} (h:pStmt k l=some (.ok (s,l'))) (ht:Toks l):l'.length<l.length∧Toks l':=by
 obtain⟨c,rfl,hc⟩:=(stm_of k).1 l s l' h ht;refine⟨?_,ht.tail⟩
 have:c≠[]:=by
  cases hc with
  |ifs c s hc=>cases hc<;>simp
  |_=>simp
 have:=List.length_pos_iff.mpr this;simp;omega
theorem blk_len {k:Nat} {l l':List S42} {s:List S62} (h:pBlock k l=some (.ok (s,l'))) (ht:Toks l):l'.length<l.length∧Toks l':=by
 obtain⟨c,rfl,hc⟩:=(stm_of k).2.2.1 l s l' h ht;refine⟨?_,ht.tail⟩;cases hc;simp;omega
theorem ttl_stmt:∀(k:Nat),
 (∀l,Toks l→10*l.length+20≤k→(pStmt k l).isSome=true)∧
 (∀l,Toks l→10*l.length+20≤k→(pCond k l).isSome=true)∧
 (∀l,Toks l→10*l.length+20≤k→(pBlock k l).isSome=true)∧
 (∀xs l,Toks l→10*l.length+21≤k→(pBody k xs l).isSome=true)
 |0=>⟨fun l _ h=>by omega,fun l _ h=>by omega,fun l _ h=>by omega,fun xs l _ h=>by omega⟩
 |k+1=>by
  obtain⟨ih1,ih2,ih3,ih4⟩:=ttl_stmt k;refine⟨?_,?_,?_,?_⟩
  · intro l ht hk
    rw[pStmt];dsimp only;by_cases c0:(hd l).f2=110
    · rw[if_pos c0]
      unfold pSet;refine pbind_some (pname_some _) (fun s l1 e=> ?_);obtain⟨q1,q2⟩:=pname_len e ht;by_cases c1:isM (hd l1) [91]
      · rw[if_pos c1]
        refine pbind_some (ttl_key q2 (by omega)) (fun x l2 e2=> ?_);obtain⟨q3,q4⟩:=pKey_len e2 q2;refine pbind_some (ptok_some _ _) (fun _ l3 e3=> ?_);obtain⟨q5,q6⟩:=ptok_len e3 q4;exact pbind_some (ttl_e q6 (by omega)) (fun _ _ _=>pbind_some (ptok_some _ _) (fun _ _ _=>rfl))
      · rw[if_neg c1]
        refine pbind_some (ptok_some _ _) (fun _ l3 e3=> ?_);obtain⟨q5,q6⟩:=ptok_len e3 q2;exact pbind_some (ttl_e q6 (by omega)) (fun _ _ _=>pbind_some (ptok_some _ _) (fun _ _ _=>rfl))
    rw[if_neg c0];by_cases c1:isM (hd l) [100,101,108,101,116,101]
    · rw[if_pos c1]
      have hln:=tail_len (l:=l) (by rw[c1.1];decide);refine pbind_some (pname_some _) (fun s l1 e=> ?_);obtain⟨q1,q2⟩:=pname_len e ht.tl;exact pbind_some (ttl_key q2 (by omega)) (fun _ _ _=>pbind_some (ptok_some _ _) (fun _ _ _=>rfl))
    rw[if_neg c1];by_cases c2:isM (hd l) [99,108,101,97,114]
    · rw[if_pos c2];exact pbind_some (pname_some _) (fun _ _ _=>pbind_some (ptok_some _ _) (fun _ _ _=>rfl))
    rw[if_neg c2];by_cases c3:isM (hd l) [112,114,105,110,116]
    · rw[if_pos c3]
      have hln:=tail_len (l:=l) (by rw[c3.1];decide);unfold pPrint;by_cases c:isM (hd l.tail) [59]
      · rw[if_pos c];rfl
      · rw[if_neg c]
        refine pbind_some (ttl_e ht.tl (by omega)) (fun x l2 e2=> ?_);obtain⟨q3,q4⟩:=pExpr_len (by omega) e2 ht.tl;exact ttl_items k _ l2 q4 (by omega)
    rw[if_neg c3];by_cases c4:isM (hd l) [105,102]
    · rw[if_pos c4]
      have hln:=tail_len (l:=l) (by rw[c4.1];decide);exact ih2 _ ht.tl (by omega)
    rw[if_neg c4];by_cases c5:isM (hd l) [119,104,105,108,101]
    · rw[if_pos c5]
      have hln:=tail_len (l:=l) (by rw[c5.1];decide);refine pbind_some (ttl_e ht.tl (by omega)) (fun x l2 e2=> ?_);obtain⟨q3,q4⟩:=pExpr_len (by omega) e2 ht.tl;exact pbind_some (ih3 l2 q4 (by omega)) (fun _ _ _=>rfl)
    rw[if_neg c5];by_cases c6:isM (hd l) [102,111,114]
    · rw[if_pos c6]
      have hln:=tail_len (l:=l) (by rw[c6.1];decide);refine pbind_some (pname_some _) (fun _ l1 e=> ?_);obtain⟨q1,q2⟩:=pname_len e ht.tl;refine pbind_some (ptok_some _ _) (fun _ l2 e=> ?_);obtain⟨q3,q4⟩:=ptok_len e q2;refine pbind_some (pname_some _) (fun _ l3 e=> ?_);obtain⟨q5,q6⟩:=pname_len e q4;refine pbind_some (ptok_some _ _) (fun _ l4 e=> ?_);obtain⟨q7,q8⟩:=ptok_len e q6;refine pbind_some (pname_some _) (fun _ l5 e=> ?_);obtain⟨q9,q10⟩:=pname_len e q8;exact pbind_some (ih3 l5 q10 (by omega)) (fun _ _ _=>rfl)
    rw[if_neg c6];by_cases c7:isM (hd l) [98,114,101,97,107]
    · rw[if_pos c7];exact pbind_some (ptok_some _ _) (fun _ _ _=>rfl)
    rw[if_neg c7];exact pbind_some (ptok_some _ _) (fun _ _ _=>pbind_some (ptok_some _ _) (fun _ _ _=>rfl))
  · intro l ht hk
    rw[pCond];refine pbind_some (ttl_e ht (by omega)) (fun x l1 e=> ?_);obtain⟨q1,q2⟩:=pExpr_len (by omega) e ht;refine pbind_some (ih3 l1 q2 (by omega)) (fun b l2 e2=> ?_);obtain⟨q3,q4⟩:=blk_len e2 q2;by_cases c:isM (hd l2) [101,108,115,101]
    · rw[if_pos c]
      have hln:=tail_len (l:=l2) (by rw[c.1];decide);by_cases c2:isM (hd l2.tail) [105,102]
      · rw[if_pos c2]
        have hln2:=tail_len (l:=l2.tail) (by rw[c2.1];decide);exact pbind_some (ih2 _ q4.tl.tl (by omega)) (fun _ _ _=>rfl)
      · rw[if_neg c2]
        exact pbind_some (ih3 _ q4.tl (by omega)) (fun _ _ _=>rfl)
    · rw[if_neg c];rfl
  · intro l ht hk
    rw[pBlock];refine pbind_some (ptok_some _ _) (fun _ l1 e=> ?_);obtain⟨q1,q2⟩:=ptok_len e ht;exact ih4 [] l1 q2 (by omega)
  · intro xs l ht hk
    rw[pBody];dsimp only;by_cases c:isM (hd l) [125]
    · rw[if_pos c];rfl
    · rw[if_neg c]
      refine pbind_some (ih1 l ht (by omega)) (fun s l1 e=> ?_);obtain⟨q1,q2⟩:=stm_len e ht;exact ih4 _ l1 q2 (by omega)
theorem ttl_top:∀(k:Nat) (xs:List S62) (l:List S42),Toks l→10*l.length+21≤k→(pTop k xs l).isSome=true
 |0,xs,l,_,h=>by omega
 |k+1,xs,l,ht,hk=>by
  rw[pTop];dsimp only;by_cases c:(hd l).f2=36
  · rw[if_pos c];rfl
  · rw[if_neg c]
    refine pbind_some ((ttl_stmt k).1 l ht (by omega)) (fun s l1 e=> ?_);obtain⟨q1,q2⟩:=stm_len e ht;exact ttl_top k _ l1 q2 (by omega)
theorem maps_len:∀(k:Nat) (xs:List Bs) (l:List S42),Toks l→10*l.length+21≤k→(pMaps k xs l).isSome=true∧∀s l',pMaps k xs l=some (.ok (s,l'))→l'.length≤l.length∧Toks l'
 |0,xs,l,_,h=>by omega
 |k+1,xs,l,ht,hk=>by
  rw[pMaps];dsimp only;by_cases c:isM (hd l) [109,97,112]
  · rw[if_pos c]
    have hln:=tail_len (l:=l) (by rw[c.1];decide);constructor
    · refine pbind_some (pname_some _) (fun _ l1 e=> ?_)
      obtain⟨q1,q2⟩:=pname_len e ht.tl;refine pbind_some (ptok_some _ _) (fun _ l2 e=> ?_);obtain⟨q3,q4⟩:=ptok_len e q2;exact(maps_len k _ l2 q4 (by omega)).1
    · intro s l' h
      obtain⟨_,l1,e1,e2⟩:=pbind_ok h;obtain⟨q1,q2⟩:=pname_len e1 ht.tl;obtain⟨_,l2,e3,e4⟩:=pbind_ok e2;obtain⟨q3,q4⟩:=ptok_len e3 q2;obtain⟨q5,q6⟩:=(maps_len k _ l2 q4 (by omega)).2 s l' e4;exact⟨by omega,q6⟩
  · rw[if_neg c]
    refine⟨rfl,?_⟩;intro s l' h;injection h with h;injection h with h;injection h with z1 z2
    subst z2;exact⟨Nat.le_refl _,ht⟩
theorem ttl_prog {l:List S42} (ht:Toks l):(pProg (10*l.length+21) l).isSome=true:=by
 unfold pProg;obtain⟨h1,h2⟩:=maps_len (10*l.length+21) [] l ht (Nat.le_refl _);refine pbind_some h1 (fun m l1 e=> ?_);obtain⟨q1,q2⟩:=h2 m l1 e;exact pbind_some (ttl_top _ _ l1 q2 (by omega)) (fun _ _ _=>rfl)
inductive Maps:List S42→List Bs→Prop
 |nil:Maps [] []
 |cons (m n b:S42) (r:List S42) (xs:List Bs):isM m [109,97,112]→n.f2=110→isM b [59]→Maps r xs→Maps (m::n::b::r) (n.f0::xs)
theorem maps_of:∀(k:Nat) (xs:List Bs) (l:List S42) (s:List Bs) (l':List S42),pMaps k xs l=some (.ok (s,l'))→∃c zs,l=c++l'∧¬isM (hd l') [109,97,112]∧Maps c zs∧s=xs++zs
 |0,xs,l,s,l',h=>by rw[pMaps]at h;cases h
 |k+1,xs,l,s,l',h=>by
  rw[pMaps]at h;dsimp only at h;by_cases c:isM (hd l) [109,97,112]
  · rw[if_pos c]at h
    have el:=isM_cons c;obtain⟨_,l1,e1,e2⟩:=pbind_ok h;obtain⟨n,e3,hn,rfl⟩:=pname_ok e1;obtain⟨_,l2,e4,e5⟩:=pbind_ok e2;obtain⟨b,rfl,hb⟩:=ptok_ok e4;obtain⟨c2,zs,rfl,h4,hm,rfl⟩:=maps_of k _ l2 s l' e5;exact⟨hd l::n::b::c2,n.f0::zs,by rw[e3]at el;exact el,h4,Maps.cons _ n b c2 zs c hn hb hm,by simp⟩
  · rw[if_neg c]at h
    injection h with h;injection h with h;injection h with z1 z2
    subst z1;subst z2;exact⟨[],[],rfl,c,Maps.nil,by simp⟩
open RowKit
structure Turn (F:Nat→Prop) (w w':World):Prop where
 os:w'.os=w.os
 tape:w'.tape=w.tape
 output:w'.output=w.output
 size:w.heap.size≤w'.heap.size
 block:∀k,k<w.heap.size→¬F k→w'.heap[k]? =w.heap[k]?
theorem Turn.refl (F:Nat→Prop) (w:World):Turn F w w:=⟨rfl,rfl,rfl,Nat.le_refl _,fun _ _ _=>rfl⟩
theorem Turn.trans {F:Nat→Prop} {a b c:World} (h:Turn F a b) (k:Turn (fun i=>F i∨a.heap.size≤i) b c):Turn F a c:=
 ⟨k.os.trans h.os,k.tape.trans h.tape,k.output.trans h.output,Nat.le_trans h.size k.size,
  fun i hi hF=>(k.block i (Nat.lt_of_lt_of_le hi h.size) (fun hh=>hh.elim hF (fun hh=>by omega))).trans (h.block i hi hF)⟩
theorem Turn.mono {F G:Nat→Prop} {a b:World} (h:Turn F a b) (k:∀i,i<a.heap.size→F i→G i):Turn G a b:=
 ⟨h.os,h.tape,h.output,h.size,fun i hi hG=>h.block i hi (fun hF=>hG (k i hi hF))⟩
theorem Turn.then {F G:Nat→Prop} {a b c:World} (h:Turn F a b) (k:Turn G b c) (hG:∀i,G i→F i∨a.heap.size≤i):Turn F a c:=
 h.trans (k.mono fun i _ hi=>hG i hi)
theorem Turn.of_below {F:Nat→Prop} {a b:World} {n:Nat} (h:Below n a b) (hn:a.heap.size≤n):Turn F a b:=
 ⟨h.os,h.tape,h.output,h.size,fun i hi _=>h.block i (by omega)⟩
theorem Turn.of_grown {F:Nat→Prop} {a b:World} {row:Option Nat} (h:a.grownBy b row) (hr:∀k,row=some k→F k∨a.heap.size≤k):Turn F a b:=
 ⟨h.os,h.tape,h.output,h.size,fun i hi hF=>h.block i hi (fun e=>by rcases hr i e.symm with h|h;exact hF h;omega)⟩
theorem Turn.below {F:Nat→Prop} {a b:World} {n:Nat} (h:Turn F a b) (hF:∀k,F k→n≤k) (hn:n≤a.heap.size):Below n a b:=
 ⟨h.os,h.tape,h.output,h.size,fun i hi=>h.block i (by omega) (fun hf=>by have:=hF i hf;omega)⟩
theorem Turn.alloc {F:Nat→Prop} {a b:World} (h:Turn F a b) (o:Obj):Turn F a (b.alloc o):=
 h.trans (Turn.of_below (Below.alloc (Below.refl b.heap.size b) (Nat.le_refl _) o) (Nat.le_refl _))
theorem Turn.drew {F:Nat→Prop} {a b:World} (h:Turn F a b):Turn F a b.drew:=⟨h.os,h.tape,h.output,h.size,h.block⟩
theorem Turn.setCell {F:Nat→Prop} {a b:World} (h:Turn F a b) (p:Addr) (v:Value) (hp:F p.block∨a.heap.size≤p.block):Turn F a (b.setCell p v):=by
 have e:=Below.heap_setCell b p v;refine⟨?_,?_,?_,?_,fun i hi hF=> ?_⟩
 · rw[show(b.setCell p v).os=b.os from rfl];exact h.os
 · rw[show(b.setCell p v).tape=b.tape from rfl];exact h.tape
 · rw[show(b.setCell p v).output=b.output from rfl];exact h.output
 · have:=h.size;simpa using this
 · rw[e i (fun hh=>by subst hh;rcases hp with hp|hp;exact hF hp;omega)]
   exact h.block i hi hF
theorem Turn.heap {F:Nat→Prop} {a b:World} (h:Turn F a b) {k:Nat} {o:Obj} (hk:a.heap[k]? =some o) (hF:¬F k):b.heap[k]? =some o:=
 (h.block k (Array.getElem?_eq_some_iff.1 hk).1 hF).trans hk
theorem Turn.cell {F:Nat→Prop} {a b:World} (h:Turn F a b) {p:Addr} {v:Value} (hk:a.cell? p=some v) (hF:¬F p.block):b.cell? p=some v:=by
 have:=h.block p.block (World.block_lt_of_cell? a p hk) hF;simpa[World.cell?,this]using hk
theorem alloc_new (w:World) (o:Obj):(w.alloc o).heap[w.heap.size]? =some o:=by
 show(w.heap.push o)[w.heap.size]? =_;rw[Array.getElem?_push,if_pos rfl]
theorem alloc_old {w:World} {k:Nat} {x:Obj} (h:w.heap[k]? =some x) (o:Obj):(w.alloc o).heap[k]? =some x:=by
 show(w.heap.push o)[k]? =_;rw[Array.getElem?_push,if_neg (by have:=(Array.getElem?_eq_some_iff.1 h).1;omega)];exact h
def kd (s:Int):Int:=if s=109 then 4 else if s=110 then 2 else if s=57 then 3 else if s=36 then 1 else 0
theorem kd_eq {s:Int}:(kd s=4↔s=109)∧(kd s=2↔s=110)∧(kd s=3↔s=57)∧(kd s=1↔s=36):=by
 unfold kd;refine⟨?_,?_,?_,?_⟩<;>(repeat' split)<;>omega
def Taken (t:S42):Prop:=t.f2=109∨t.f2=110∨t.f2=57
instance (t:S42):Decidable (Taken t):=by unfold Taken;exact inferInstance
def stop:List S42→List S42
 |[]=>[]
 |t::l=>if Taken t then t::stop l else [t]
theorem stop_hd {l:List S42} (h:l≠[]):∃r,stop l=hd l::r:=by
 cases l with
 |nil=>exact absurd rfl h
 |cons t l=>
  unfold stop;split
  · exact⟨_,rfl⟩
  · exact⟨_,rfl⟩
theorem stop_tl {l:List S42} (h:WF l) (ht:Taken (hd l)):stop l=hd l::stop l.tail∧l.tail≠[]:=by
 have h1:=h.cons;have h2:=h.tail (by rcases ht with e|e|e<;>(rw[e];decide)) (by rcases ht with e|e|e<;>(rw[e];decide));refine⟨?_,h2.ne⟩
 conv=>lhs;rw[h1]
 rw[stop,if_pos ht]
def TokAt (w:World) (b o:Nat) (t:S42):Prop:=
 w.cell? ⟨b,o,none⟩=some (.int .i64 (kd t.f2))∧w.cell? ⟨b,o+1,none⟩=some (.string t.f0)∧w.cell? ⟨b,o+2,none⟩=some (.int .i64 t.f1)
structure Rd (w:World) (n g:Nat) (l:List S42):Prop where
 wf:WF l
 gn:g<n
 tk:Toks l
 er:5<n∧g≠5∧∃ev,w.cell? ⟨5,0,none⟩=some ev∧(ev= .nilIface∨∃te pe,ev= .iface te pe)
 mem:∃b o c,b<n∧b≠g∧w.heap[g]? =some (.cells #[.slice (some ⟨b,o,none⟩) (stop l).length c] 55 (0,0))∧(stop l).length≤c∧(stop l).length≤1000000∧∀i t,(stop l)[i]? =some t→TokAt w b (o+3*i) t
theorem set_field {w:World} {b i:Nat} {cs cs':Array Value} {t:TypeId} (h:w.heap[b]? =some (.cells cs t (0,0))) (v:Value) (e:cs.setIfInBounds i v=cs'):(w.setCell ⟨b,i,none⟩ v).heap[b]? =some (.cells cs' t (0,0)):=by
 rw[heap_setCell_same w b i cs t v h,e]
theorem cell_same {w W:World} {p:Addr} (h:W.heap[p.block]? =w.heap[p.block]?):W.cell? p=w.cell? p:=by simp[World.cell?,h]
theorem Rd.move {w W:World} {n g:Nat} {l:List S42} (h:Rd w n g l) (hs:∀k,k<n→W.heap[k]? =w.heap[k]?):Rd W n g l:=by
 obtain⟨h1,h2,h0,⟨e1,e2,ev,e3,e4⟩,b,o,c,hb,hbg,hg,hc,hm,ht⟩:=h;refine⟨h1,h2,h0,⟨e1,e2,ev,(cell_same (hs 5 e1)).trans e3,e4⟩,b,o,c,hb,hbg,(hs g h2).trans hg,hc,hm,fun i t hi=> ?_⟩;obtain⟨a0,a1,a2⟩:=ht i t hi;exact⟨(cell_same (hs b hb)).trans a0,(cell_same (hs b hb)).trans a1,(cell_same (hs b hb)).trans a2⟩
theorem Rd.turn {w W:World} {n g:Nat} {l:List S42} {F:Nat→Prop} (h:Rd w n g l) (hT:Turn F w W) (hn:n≤w.heap.size) (hF:∀k,F k→n≤k):Rd W n g l:=
 h.move fun k hk=>hT.block k (by omega) (fun hk2=>by have:=hF k hk2;omega)
theorem Rd.head {w:World} {n g:Nat} {l:List S42} (h:Rd w n g l):∃b o m c,b<n∧b≠g∧w.heap[g]? =some (.cells #[.slice (some ⟨b,o,none⟩) (m+1) c] 55 (0,0))∧m+1≤c∧m≤1000000∧TokAt w b o (hd l)∧
 (Taken (hd l)→1<c∧∀W:World,(∀k,k<n→W.heap[k]? =w.heap[k]?)→Rd (W.setCell ⟨g,0,none⟩ (.slice (some ⟨b,o+3,none⟩) m (c-1))) n g l.tail):=by
 obtain⟨h1,h2,h0,⟨x1,x2,ev,x3,x4⟩,b,o,c,hb,hbg,hg,hc,hm,ht⟩:=h;obtain⟨r,hr⟩:=stop_hd h1.ne;have hlen:(stop l).length=r.length+1:=by rw[hr];rfl
 rw[hlen]at hg hc hm;refine⟨b,o,r.length,c,hb,hbg,hg,hc,by omega,by simpa using ht 0 (hd l) (by rw[hr];rfl),fun hT=> ?_⟩;obtain⟨e1,e2⟩:=stop_tl h1 hT;have hwf:=h1.tail (by rcases hT with e|e|e<;>(rw[e];decide)) (by rcases hT with e|e|e<;>(rw[e];decide));have er:r=stop l.tail:=by rw[hr]at e1;exact(List.cons.inj e1).2
 obtain⟨r2,hr2⟩:=stop_hd e2;have h2r:1≤r.length:=by rw[er,hr2];simp
 refine⟨by omega,fun W hW=>⟨hwf,h2,h0.tl,⟨x1,x2,ev,(cell_same ((Below.heap_setCell W ⟨g,0,none⟩ _ 5 (Ne.symm x2)).trans (hW 5 x1))).trans x3,x4⟩,b,o+3,c-1,hb,hbg,?_,by rw[← er];omega,by rw[← er];omega,fun i t hi=> ?_⟩⟩
 · rw[← er]
   have hg':=(hW g h2).trans hg;exact set_field hg' _ rfl
 · have h3:=ht (i+1) t (by rw[hr,List.getElem?_cons_succ,er];exact hi)
   have e:o+3*(i+1)=o+3+3*i:=by omega
   rw[e]at h3;have hk:(W.setCell ⟨g,0,none⟩ (.slice (some ⟨b,o+3,none⟩) r.length (c-1))).heap[b]? =w.heap[b]? :=(Below.heap_setCell W ⟨g,0,none⟩ _ b hbg).trans (hW b hb);exact⟨(cell_same hk).trans h3.1,(cell_same hk).trans h3.2.1,(cell_same hk).trans h3.2.2⟩
theorem info59:(Tryz.prog.info? 59).map (fun i=>(i.zero,i.size,i.bytes))=some (some (.agg #[.int .i64 0,.string ⟨#[]⟩,.int .i64 0]),3,32):=by kernel_rfl
theorem cut1 (b o m c:Nat) (hc:1<c) (hm:m≤1000000) (hmc:m+1≤c) (W:World):(Instr.slice 52 (.slice (some ⟨b,o,none⟩) (m+1) c) (some (.int .i64 1)) none none).run Tryz.prog W= .ok (.slice (some ⟨b,o+3,none⟩) m (c-1)) W:=by
 obtain⟨i0,hi,hz0,hz1,hz2⟩:=info_parts info59;have hel:Tryz.prog.elem 52=59:=by simp[Program.elem,Tryz.underlying52]
 have hu:Tryz.prog.underlying 52=some (.slice (Tryz.prog.elem 52)):=by rw[hel];exact Tryz.underlying52
 rw[Go.run_slice_l W 52 (some ⟨b,o,none⟩) (m+1) c hu .i64 1 (by omega) (by omega),hel];have e1:sizeOf 59=sizeOf 59:=rfl;simp[sizeOf,typeInfo,hi,hz1,sliced,Result.andThen,Addr.add,show ¬(c=1) by omega,show ¬(1=c) by omega]
end Go.Proofs.YtbemddpmohoooaaGreatDoor
