import Derived.Test.YtbemddpmohoooaaGreatDoorQ14
set_option linter.unusedVariables false
set_option linter.unusedSimpArgs false
set_option linter.unusedSectionVars false
set_option maxHeartbeats 128000000
set_option maxRecDepth 100000
namespace Go.Proofs.YtbemddpmohoooaaGreatDoor
open PShelfFormats RowKit
def TabAt (w:World) (b:Nat) (cs:Array Value):Prop:=∀i v,cs[i]? =some v→w.cell? ⟨b,i,none⟩=some v
theorem TabAt.turn {F:Nat→Prop} {w w':World} {b:Nat} {cs:Array Value} (h:TabAt w b cs) (t:Turn F w w') (hF:¬F b):TabAt w' b cs:=fun i v e=>t.cell (h i v e) hF
def wordCs:Array Value:=#[.string ⟨#[109,97,112]⟩,.string ⟨#[100,101,108,101,116,101]⟩,.string ⟨#[99,108,101,97,114]⟩,.string ⟨#[112,114,105,110,116]⟩,.string ⟨#[105,102]⟩,.string ⟨#[101,108,115,101]⟩,.string ⟨#[119,104,105,108,101]⟩,.string ⟨#[102,111,114]⟩,.string ⟨#[105,110]⟩,.string ⟨#[98,114,101,97,107]⟩,.string ⟨#[99,111,110,116,105,110,117,101]⟩,.string ⟨#[104,97,115]⟩,.string ⟨#[108,101,110]⟩]
def WordsAt (w:World):Prop:=TabAt w 1 wordCs
theorem WordsAt.cells {w:World} (h:WordsAt w):w.cell? ⟨1,0,none⟩=some (.string ⟨#[109,97,112]⟩)∧w.cell? ⟨1,1,none⟩=some (.string ⟨#[100,101,108,101,116,101]⟩)∧w.cell? ⟨1,2,none⟩=some (.string ⟨#[99,108,101,97,114]⟩)∧w.cell? ⟨1,3,none⟩=some (.string ⟨#[112,114,105,110,116]⟩)∧w.cell? ⟨1,4,none⟩=some (.string ⟨#[105,102]⟩)∧w.cell? ⟨1,5,none⟩=some (.string ⟨#[101,108,115,101]⟩)∧w.cell? ⟨1,6,none⟩=some (.string ⟨#[119,104,105,108,101]⟩)∧w.cell? ⟨1,7,none⟩=some (.string ⟨#[102,111,114]⟩)∧w.cell? ⟨1,8,none⟩=some (.string ⟨#[105,110]⟩)∧w.cell? ⟨1,9,none⟩=some (.string ⟨#[98,114,101,97,107]⟩)∧w.cell? ⟨1,10,none⟩=some (.string ⟨#[99,111,110,116,105,110,117,101]⟩)∧w.cell? ⟨1,11,none⟩=some (.string ⟨#[104,97,115]⟩)∧w.cell? ⟨1,12,none⟩=some (.string ⟨#[108,101,110]⟩):=
 ⟨h 0 _ rfl,h 1 _ rfl,h 2 _ rfl,h 3 _ rfl,h 4 _ rfl,h 5 _ rfl,h 6 _ rfl,h 7 _ rfl,h 8 _ rfl,h 9 _ rfl,h 10 _ rfl,h 11 _ rfl,h 12 _ rfl⟩
theorem WordsAt.turn {F:Nat→Prop} {w w':World} (h:WordsAt w) (t:Turn F w w') (hF:¬F 1):WordsAt w':=TabAt.turn h t hF
theorem WordsAt.lt {w:World} (h:WordsAt w):1<w.heap.size:=World.block_lt_of_cell? w _ h.cells.1
theorem under122:Tryz.prog.underlying 122=some (.array 13 9):=by kernel_rfl
theorem run_index_words (cs:Array Value) (i:Nat) (x:Value) (hi:i<13) (h:cs[i]? =some x) (w:World):Sem.run Tryz.prog (Instr.index 122 (.agg cs) (.int .i64 (i:Int))) w= .ok x w:=by
 show(Instr.index 122 (.agg cs) (.int .i64 (i:Int))).run Tryz.prog w=_;have hn:(0≤(i:Int)∧(i:Int)<13):=by omega
 simp[Instr.index,run_underlying under122,asIntOf,hn,hi,h,go_sem]
theorem isWord_call (s:Bs) (w:World) (hw:WordsAt w):Calls Tryz.prog 78 #[.string s] w fun e w'=>e= .returned (.bool (decide (s.toList∈wordsL)))∧w'=w:=by
 have hyes:∀m:List UInt8,(m==s.toList)=true→m∈wordsL→s.toList∈wordsL:=fun m h hm=>by rw[beq_iff_eq]at h;rw[← h];exact hm
 have hno:(((([109,97,112]:List UInt8))==s.toList)=false∧((([100,101,108,101,116,101]:List UInt8))==s.toList)=false∧((([99,108,101,97,114]:List UInt8))==s.toList)=false∧((([112,114,105,110,116]:List UInt8))==s.toList)=false∧((([105,102]:List UInt8))==s.toList)=false∧((([101,108,115,101]:List UInt8))==s.toList)=false∧((([119,104,105,108,101]:List UInt8))==s.toList)=false∧((([102,111,114]:List UInt8))==s.toList)=false∧((([105,110]:List UInt8))==s.toList)=false∧((([98,114,101,97,107]:List UInt8))==s.toList)=false∧((([99,111,110,116,105,110,117,101]:List UInt8))==s.toList)=false∧((([104,97,115]:List UInt8))==s.toList)=false∧((([108,101,110]:List UInt8))==s.toList)=false)→s.toList ∉ wordsL:=by
  rintro⟨n0,n1,n2,n3,n4,n5,n6,n7,n8,n9,n10,n11,n12⟩ h;simp only[wordsL,List.mem_cons,List.not_mem_nil,or_false]at h;rcases h with h|h|h|h|h|h|h|h|h|h|h|h|h
  · rw[h]at n0;simp at n0
  · rw[h]at n1;simp at n1
  · rw[h]at n2;simp at n2
  · rw[h]at n3;simp at n3
  · rw[h]at n4;simp at n4
  · rw[h]at n5;simp at n5
  · rw[h]at n6;simp at n6
  · rw[h]at n7;simp at n7
  · rw[h]at n8;simp at n8
  · rw[h]at n9;simp at n9
  · rw[h]at n10;simp at n10
  · rw[h]at n11;simp at n11
  · rw[h]at n12;simp at n12
 generalize hr:decide (s.toList∈wordsL)=r;have hyes:∀m:List UInt8,(m==s.toList)=true→m∈wordsL→r=true:=fun m h hm=>by rw[← hr];exact decide_eq_true (hyes m h hm)
 have hno:=fun h=>hr.symm.trans (decide_eq_false (hno h))
 clear hr;obtain⟨e0,e1,e2,e3,e4,e5,e6,e7,e8,e9,e10,e11,e12⟩:=hw.cells;clear hw;go_enter Tryz.func78,Tryz.ntmps78;go_wp2;go_loopg [6] 13 (fun kq v6 W=>∃i:Nat,v6= .int .i64 (i:Int)∧i+kq=13∧W=w∧∀j,j<i→(wordsL.getD j []==s.toList)=false)
 case atStart=>exact⟨0,rfl,rfl,rfl,fun j hj=>absurd hj (Nat.not_lt_zero j)⟩
 case round=>
  obtain⟨i,rfl,hk,hwr,hj⟩:=hrel;subst hwr;clear e0 e1 e2 e3 e4 e5 e6 e7 e8 e9 e10 e11 e12;have hj:=η hj;have hi:i≤13:=by omega
  rcases(show i=0∨i=1∨i=2∨i=3∨i=4∨i=5∨i=6∨i=7∨i=8∨i=9∨i=10∨i=11∨i=12∨i=13 by omega)with rfl|rfl|rfl|rfl|rfl|rfl|rfl|rfl|rfl|rfl|rfl|rfl|rfl|rfl
  · clear hi
    have hx:∀w,Sem.run Tryz.prog (Instr.index 122 (.agg #[.string ⟨#[109,97,112]⟩,.string ⟨#[100,101,108,101,116,101]⟩,.string ⟨#[99,108,101,97,114]⟩,.string ⟨#[112,114,105,110,116]⟩,.string ⟨#[105,102]⟩,.string ⟨#[101,108,115,101]⟩,.string ⟨#[119,104,105,108,101]⟩,.string ⟨#[102,111,114]⟩,.string ⟨#[105,110]⟩,.string ⟨#[98,114,101,97,107]⟩,.string ⟨#[99,111,110,116,105,110,117,101]⟩,.string ⟨#[104,97,115]⟩,.string ⟨#[108,101,110]⟩]) (.int .i64 0)) w= .ok (.string ⟨#[109,97,112]⟩) w:=run_index_words _ 0 _ (by omega) (by rfl);by_cases c:(([109,97,112]:List UInt8)==s.toList)=true
    · obtain rfl:=hyes _ c (by decide)
      clear hyes hno hj hk;go_wp2;go_ret;exact⟨rfl,rfl⟩
    replace c:=Bool.eq_false_iff.mpr c;clear hyes hno;go_wp2;go_roundg 12
    case measure=>omega
    case rel=>exact⟨1,rfl,by omega,rfl,fun j h=>(Nat.lt_succ_iff_lt_or_eq.mp h).elim (hj.out j) (fun h=>by rw[h];exact c)⟩
  · clear hi
    have hx:∀w,Sem.run Tryz.prog (Instr.index 122 (.agg #[.string ⟨#[109,97,112]⟩,.string ⟨#[100,101,108,101,116,101]⟩,.string ⟨#[99,108,101,97,114]⟩,.string ⟨#[112,114,105,110,116]⟩,.string ⟨#[105,102]⟩,.string ⟨#[101,108,115,101]⟩,.string ⟨#[119,104,105,108,101]⟩,.string ⟨#[102,111,114]⟩,.string ⟨#[105,110]⟩,.string ⟨#[98,114,101,97,107]⟩,.string ⟨#[99,111,110,116,105,110,117,101]⟩,.string ⟨#[104,97,115]⟩,.string ⟨#[108,101,110]⟩]) (.int .i64 1)) w= .ok (.string ⟨#[100,101,108,101,116,101]⟩) w:=run_index_words _ 1 _ (by omega) (by rfl);by_cases c:(([100,101,108,101,116,101]:List UInt8)==s.toList)=true
    · obtain rfl:=hyes _ c (by decide)
      clear hyes hno hj hk;go_wp2;go_ret;exact⟨rfl,rfl⟩
    replace c:=Bool.eq_false_iff.mpr c;clear hyes hno;go_wp2;go_roundg 11
    case measure=>omega
    case rel=>exact⟨2,rfl,by omega,rfl,fun j h=>(Nat.lt_succ_iff_lt_or_eq.mp h).elim (hj.out j) (fun h=>by rw[h];exact c)⟩
  · clear hi
    have hx:∀w,Sem.run Tryz.prog (Instr.index 122 (.agg #[.string ⟨#[109,97,112]⟩,.string ⟨#[100,101,108,101,116,101]⟩,.string ⟨#[99,108,101,97,114]⟩,.string ⟨#[112,114,105,110,116]⟩,.string ⟨#[105,102]⟩,.string ⟨#[101,108,115,101]⟩,.string ⟨#[119,104,105,108,101]⟩,.string ⟨#[102,111,114]⟩,.string ⟨#[105,110]⟩,.string ⟨#[98,114,101,97,107]⟩,.string ⟨#[99,111,110,116,105,110,117,101]⟩,.string ⟨#[104,97,115]⟩,.string ⟨#[108,101,110]⟩]) (.int .i64 2)) w= .ok (.string ⟨#[99,108,101,97,114]⟩) w:=run_index_words _ 2 _ (by omega) (by rfl);by_cases c:(([99,108,101,97,114]:List UInt8)==s.toList)=true
    · obtain rfl:=hyes _ c (by decide)
      clear hyes hno hj hk;go_wp2;go_ret;exact⟨rfl,rfl⟩
    replace c:=Bool.eq_false_iff.mpr c;clear hyes hno;go_wp2;go_roundg 10
    case measure=>omega
    case rel=>exact⟨3,rfl,by omega,rfl,fun j h=>(Nat.lt_succ_iff_lt_or_eq.mp h).elim (hj.out j) (fun h=>by rw[h];exact c)⟩
  · clear hi
    have hx:∀w,Sem.run Tryz.prog (Instr.index 122 (.agg #[.string ⟨#[109,97,112]⟩,.string ⟨#[100,101,108,101,116,101]⟩,.string ⟨#[99,108,101,97,114]⟩,.string ⟨#[112,114,105,110,116]⟩,.string ⟨#[105,102]⟩,.string ⟨#[101,108,115,101]⟩,.string ⟨#[119,104,105,108,101]⟩,.string ⟨#[102,111,114]⟩,.string ⟨#[105,110]⟩,.string ⟨#[98,114,101,97,107]⟩,.string ⟨#[99,111,110,116,105,110,117,101]⟩,.string ⟨#[104,97,115]⟩,.string ⟨#[108,101,110]⟩]) (.int .i64 3)) w= .ok (.string ⟨#[112,114,105,110,116]⟩) w:=run_index_words _ 3 _ (by omega) (by rfl);by_cases c:(([112,114,105,110,116]:List UInt8)==s.toList)=true
    · obtain rfl:=hyes _ c (by decide)
      clear hyes hno hj hk;go_wp2;go_ret;exact⟨rfl,rfl⟩
    replace c:=Bool.eq_false_iff.mpr c;clear hyes hno;go_wp2;go_roundg 9
    case measure=>omega
    case rel=>exact⟨4,rfl,by omega,rfl,fun j h=>(Nat.lt_succ_iff_lt_or_eq.mp h).elim (hj.out j) (fun h=>by rw[h];exact c)⟩
  · clear hi
    have hx:∀w,Sem.run Tryz.prog (Instr.index 122 (.agg #[.string ⟨#[109,97,112]⟩,.string ⟨#[100,101,108,101,116,101]⟩,.string ⟨#[99,108,101,97,114]⟩,.string ⟨#[112,114,105,110,116]⟩,.string ⟨#[105,102]⟩,.string ⟨#[101,108,115,101]⟩,.string ⟨#[119,104,105,108,101]⟩,.string ⟨#[102,111,114]⟩,.string ⟨#[105,110]⟩,.string ⟨#[98,114,101,97,107]⟩,.string ⟨#[99,111,110,116,105,110,117,101]⟩,.string ⟨#[104,97,115]⟩,.string ⟨#[108,101,110]⟩]) (.int .i64 4)) w= .ok (.string ⟨#[105,102]⟩) w:=run_index_words _ 4 _ (by omega) (by rfl);by_cases c:(([105,102]:List UInt8)==s.toList)=true
    · obtain rfl:=hyes _ c (by decide)
      clear hyes hno hj hk;go_wp2;go_ret;exact⟨rfl,rfl⟩
    replace c:=Bool.eq_false_iff.mpr c;clear hyes hno;go_wp2;go_roundg 8
    case measure=>omega
    case rel=>exact⟨5,rfl,by omega,rfl,fun j h=>(Nat.lt_succ_iff_lt_or_eq.mp h).elim (hj.out j) (fun h=>by rw[h];exact c)⟩
  · clear hi
    have hx:∀w,Sem.run Tryz.prog (Instr.index 122 (.agg #[.string ⟨#[109,97,112]⟩,.string ⟨#[100,101,108,101,116,101]⟩,.string ⟨#[99,108,101,97,114]⟩,.string ⟨#[112,114,105,110,116]⟩,.string ⟨#[105,102]⟩,.string ⟨#[101,108,115,101]⟩,.string ⟨#[119,104,105,108,101]⟩,.string ⟨#[102,111,114]⟩,.string ⟨#[105,110]⟩,.string ⟨#[98,114,101,97,107]⟩,.string ⟨#[99,111,110,116,105,110,117,101]⟩,.string ⟨#[104,97,115]⟩,.string ⟨#[108,101,110]⟩]) (.int .i64 5)) w= .ok (.string ⟨#[101,108,115,101]⟩) w:=run_index_words _ 5 _ (by omega) (by rfl);by_cases c:(([101,108,115,101]:List UInt8)==s.toList)=true
    · obtain rfl:=hyes _ c (by decide)
      clear hyes hno hj hk;go_wp2;go_ret;exact⟨rfl,rfl⟩
    replace c:=Bool.eq_false_iff.mpr c;clear hyes hno;go_wp2;go_roundg 7
    case measure=>omega
    case rel=>exact⟨6,rfl,by omega,rfl,fun j h=>(Nat.lt_succ_iff_lt_or_eq.mp h).elim (hj.out j) (fun h=>by rw[h];exact c)⟩
  · clear hi
    have hx:∀w,Sem.run Tryz.prog (Instr.index 122 (.agg #[.string ⟨#[109,97,112]⟩,.string ⟨#[100,101,108,101,116,101]⟩,.string ⟨#[99,108,101,97,114]⟩,.string ⟨#[112,114,105,110,116]⟩,.string ⟨#[105,102]⟩,.string ⟨#[101,108,115,101]⟩,.string ⟨#[119,104,105,108,101]⟩,.string ⟨#[102,111,114]⟩,.string ⟨#[105,110]⟩,.string ⟨#[98,114,101,97,107]⟩,.string ⟨#[99,111,110,116,105,110,117,101]⟩,.string ⟨#[104,97,115]⟩,.string ⟨#[108,101,110]⟩]) (.int .i64 6)) w= .ok (.string ⟨#[119,104,105,108,101]⟩) w:=run_index_words _ 6 _ (by omega) (by rfl);by_cases c:(([119,104,105,108,101]:List UInt8)==s.toList)=true
    · obtain rfl:=hyes _ c (by decide)
      clear hyes hno hj hk;go_wp2;go_ret;exact⟨rfl,rfl⟩
    replace c:=Bool.eq_false_iff.mpr c;clear hyes hno;go_wp2;go_roundg 6
    case measure=>omega
    case rel=>exact⟨7,rfl,by omega,rfl,fun j h=>(Nat.lt_succ_iff_lt_or_eq.mp h).elim (hj.out j) (fun h=>by rw[h];exact c)⟩
  · clear hi
    have hx:∀w,Sem.run Tryz.prog (Instr.index 122 (.agg #[.string ⟨#[109,97,112]⟩,.string ⟨#[100,101,108,101,116,101]⟩,.string ⟨#[99,108,101,97,114]⟩,.string ⟨#[112,114,105,110,116]⟩,.string ⟨#[105,102]⟩,.string ⟨#[101,108,115,101]⟩,.string ⟨#[119,104,105,108,101]⟩,.string ⟨#[102,111,114]⟩,.string ⟨#[105,110]⟩,.string ⟨#[98,114,101,97,107]⟩,.string ⟨#[99,111,110,116,105,110,117,101]⟩,.string ⟨#[104,97,115]⟩,.string ⟨#[108,101,110]⟩]) (.int .i64 7)) w= .ok (.string ⟨#[102,111,114]⟩) w:=run_index_words _ 7 _ (by omega) (by rfl);by_cases c:(([102,111,114]:List UInt8)==s.toList)=true
    · obtain rfl:=hyes _ c (by decide)
      clear hyes hno hj hk;go_wp2;go_ret;exact⟨rfl,rfl⟩
    replace c:=Bool.eq_false_iff.mpr c;clear hyes hno;go_wp2;go_roundg 5
    case measure=>omega
    case rel=>exact⟨8,rfl,by omega,rfl,fun j h=>(Nat.lt_succ_iff_lt_or_eq.mp h).elim (hj.out j) (fun h=>by rw[h];exact c)⟩
  · clear hi
    have hx:∀w,Sem.run Tryz.prog (Instr.index 122 (.agg #[.string ⟨#[109,97,112]⟩,.string ⟨#[100,101,108,101,116,101]⟩,.string ⟨#[99,108,101,97,114]⟩,.string ⟨#[112,114,105,110,116]⟩,.string ⟨#[105,102]⟩,.string ⟨#[101,108,115,101]⟩,.string ⟨#[119,104,105,108,101]⟩,.string ⟨#[102,111,114]⟩,.string ⟨#[105,110]⟩,.string ⟨#[98,114,101,97,107]⟩,.string ⟨#[99,111,110,116,105,110,117,101]⟩,.string ⟨#[104,97,115]⟩,.string ⟨#[108,101,110]⟩]) (.int .i64 8)) w= .ok (.string ⟨#[105,110]⟩) w:=run_index_words _ 8 _ (by omega) (by rfl);by_cases c:(([105,110]:List UInt8)==s.toList)=true
    · obtain rfl:=hyes _ c (by decide)
      clear hyes hno hj hk;go_wp2;go_ret;exact⟨rfl,rfl⟩
    replace c:=Bool.eq_false_iff.mpr c;clear hyes hno;go_wp2;go_roundg 4
    case measure=>omega
    case rel=>exact⟨9,rfl,by omega,rfl,fun j h=>(Nat.lt_succ_iff_lt_or_eq.mp h).elim (hj.out j) (fun h=>by rw[h];exact c)⟩
  · clear hi
    have hx:∀w,Sem.run Tryz.prog (Instr.index 122 (.agg #[.string ⟨#[109,97,112]⟩,.string ⟨#[100,101,108,101,116,101]⟩,.string ⟨#[99,108,101,97,114]⟩,.string ⟨#[112,114,105,110,116]⟩,.string ⟨#[105,102]⟩,.string ⟨#[101,108,115,101]⟩,.string ⟨#[119,104,105,108,101]⟩,.string ⟨#[102,111,114]⟩,.string ⟨#[105,110]⟩,.string ⟨#[98,114,101,97,107]⟩,.string ⟨#[99,111,110,116,105,110,117,101]⟩,.string ⟨#[104,97,115]⟩,.string ⟨#[108,101,110]⟩]) (.int .i64 9)) w= .ok (.string ⟨#[98,114,101,97,107]⟩) w:=run_index_words _ 9 _ (by omega) (by rfl);by_cases c:(([98,114,101,97,107]:List UInt8)==s.toList)=true
    · obtain rfl:=hyes _ c (by decide)
      clear hyes hno hj hk;go_wp2;go_ret;exact⟨rfl,rfl⟩
    replace c:=Bool.eq_false_iff.mpr c;clear hyes hno;go_wp2;go_roundg 3
    case measure=>omega
    case rel=>exact⟨10,rfl,by omega,rfl,fun j h=>(Nat.lt_succ_iff_lt_or_eq.mp h).elim (hj.out j) (fun h=>by rw[h];exact c)⟩
  · clear hi
    have hx:∀w,Sem.run Tryz.prog (Instr.index 122 (.agg #[.string ⟨#[109,97,112]⟩,.string ⟨#[100,101,108,101,116,101]⟩,.string ⟨#[99,108,101,97,114]⟩,.string ⟨#[112,114,105,110,116]⟩,.string ⟨#[105,102]⟩,.string ⟨#[101,108,115,101]⟩,.string ⟨#[119,104,105,108,101]⟩,.string ⟨#[102,111,114]⟩,.string ⟨#[105,110]⟩,.string ⟨#[98,114,101,97,107]⟩,.string ⟨#[99,111,110,116,105,110,117,101]⟩,.string ⟨#[104,97,115]⟩,.string ⟨#[108,101,110]⟩]) (.int .i64 10)) w= .ok (.string ⟨#[99,111,110,116,105,110,117,101]⟩) w:=run_index_words _ 10 _ (by omega) (by rfl);by_cases c:(([99,111,110,116,105,110,117,101]:List UInt8)==s.toList)=true
    · obtain rfl:=hyes _ c (by decide)
      clear hyes hno hj hk;go_wp2;go_ret;exact⟨rfl,rfl⟩
    replace c:=Bool.eq_false_iff.mpr c;clear hyes hno;go_wp2;go_roundg 2
    case measure=>omega
    case rel=>exact⟨11,rfl,by omega,rfl,fun j h=>(Nat.lt_succ_iff_lt_or_eq.mp h).elim (hj.out j) (fun h=>by rw[h];exact c)⟩
  · clear hi
    have hx:∀w,Sem.run Tryz.prog (Instr.index 122 (.agg #[.string ⟨#[109,97,112]⟩,.string ⟨#[100,101,108,101,116,101]⟩,.string ⟨#[99,108,101,97,114]⟩,.string ⟨#[112,114,105,110,116]⟩,.string ⟨#[105,102]⟩,.string ⟨#[101,108,115,101]⟩,.string ⟨#[119,104,105,108,101]⟩,.string ⟨#[102,111,114]⟩,.string ⟨#[105,110]⟩,.string ⟨#[98,114,101,97,107]⟩,.string ⟨#[99,111,110,116,105,110,117,101]⟩,.string ⟨#[104,97,115]⟩,.string ⟨#[108,101,110]⟩]) (.int .i64 11)) w= .ok (.string ⟨#[104,97,115]⟩) w:=run_index_words _ 11 _ (by omega) (by rfl);by_cases c:(([104,97,115]:List UInt8)==s.toList)=true
    · obtain rfl:=hyes _ c (by decide)
      clear hyes hno hj hk;go_wp2;go_ret;exact⟨rfl,rfl⟩
    replace c:=Bool.eq_false_iff.mpr c;clear hyes hno;go_wp2;go_roundg 1
    case measure=>omega
    case rel=>exact⟨12,rfl,by omega,rfl,fun j h=>(Nat.lt_succ_iff_lt_or_eq.mp h).elim (hj.out j) (fun h=>by rw[h];exact c)⟩
  · clear hi
    have hx:∀w,Sem.run Tryz.prog (Instr.index 122 (.agg #[.string ⟨#[109,97,112]⟩,.string ⟨#[100,101,108,101,116,101]⟩,.string ⟨#[99,108,101,97,114]⟩,.string ⟨#[112,114,105,110,116]⟩,.string ⟨#[105,102]⟩,.string ⟨#[101,108,115,101]⟩,.string ⟨#[119,104,105,108,101]⟩,.string ⟨#[102,111,114]⟩,.string ⟨#[105,110]⟩,.string ⟨#[98,114,101,97,107]⟩,.string ⟨#[99,111,110,116,105,110,117,101]⟩,.string ⟨#[104,97,115]⟩,.string ⟨#[108,101,110]⟩]) (.int .i64 12)) w= .ok (.string ⟨#[108,101,110]⟩) w:=run_index_words _ 12 _ (by omega) (by rfl);by_cases c:(([108,101,110]:List UInt8)==s.toList)=true
    · obtain rfl:=hyes _ c (by decide)
      clear hyes hno hj hk;go_wp2;go_ret;exact⟨rfl,rfl⟩
    replace c:=Bool.eq_false_iff.mpr c;clear hyes hno;go_wp2;go_roundg 0
    case measure=>omega
    case rel=>exact⟨13,rfl,by omega,rfl,fun j h=>(Nat.lt_succ_iff_lt_or_eq.mp h).elim (hj.out j) (fun h=>by rw[h];exact c)⟩
  · obtain rfl:=hno ⟨hj.out 0 (by omega),hj.out 1 (by omega),hj.out 2 (by omega),hj.out 3 (by omega),hj.out 4 (by omega),hj.out 5 (by omega),hj.out 6 (by omega),hj.out 7 (by omega),hj.out 8 (by omega),hj.out 9 (by omega),hj.out 10 (by omega),hj.out 11 (by omega),hj.out 12 (by omega)⟩
    clear hyes hno hj hi hk;go_wp2;go_ret;exact⟨rfl,rfl⟩
open YtbemddpmohoooaaGreatDoorW.PrintWords
theorem pdigit_call (c:UInt8) (w:World):Calls Tryz.prog 76 #[.int .u8 ((c.toNat:Nat):Int)] w fun e w'=>e= .returned (.bool (digU c))∧w'=w:=by
 have h:digU c=decide (48≤((c.toNat:Nat):Int)∧((c.toNat:Nat):Int)≤57):=decide_eq_decide.mpr ⟨fun h=>by omega,fun h=>by omega⟩;rw[h];clear h;generalize((c.toNat:Nat):Int)=x;by_cases h1:48≤x
 · by_cases h2:x≤57
   · rw[decide_eq_true ⟨h1,h2⟩]
     go_enter Tryz.func76,Tryz.ntmps76;go_wp2;go_ret;exact⟨rfl,rfl⟩
   · rw[decide_eq_false (fun h=>h2 h.2)]
     have h3:57<x:=by omega
     go_enter Tryz.func76,Tryz.ntmps76;go_wp2;go_ret;exact⟨rfl,rfl⟩
 · rw[decide_eq_false (fun h=>h1 h.1)]
   have h3:x<48:=by omega
   go_enter Tryz.func76,Tryz.ntmps76;go_wp2;go_ret;exact⟨rfl,rfl⟩
theorem pletter_call (c:UInt8) (w:World):Calls Tryz.prog 77 #[.int .u8 ((c.toNat:Nat):Int)] w fun e w'=>e= .returned (.bool (letU c))∧w'=w:=by
 have h:letU c=decide (97≤((c.toNat:Nat):Int)∧((c.toNat:Nat):Int)≤122∨65≤((c.toNat:Nat):Int)∧((c.toNat:Nat):Int)≤90∨((c.toNat:Nat):Int)=95):=decide_eq_decide.mpr ⟨fun h=>by omega,fun h=>by omega⟩;rw[h];clear h;generalize((c.toNat:Nat):Int)=x;by_cases h1:97≤x
 · by_cases h2:x≤122
   · rw[decide_eq_true (.inl ⟨h1,h2⟩)]
     go_enter Tryz.func77,Tryz.ntmps77;go_wp2;go_ret;exact⟨rfl,rfl⟩
   · rw[decide_eq_false (by omega)]
     have h3:65≤x:=by omega
     have h4:¬x≤90:=by omega
     have h5:(x==95)=false:=by rw[beq_eq_false_iff_ne];omega
     go_enter Tryz.func77,Tryz.ntmps77;go_wp2;go_ret;exact⟨rfl,rfl⟩
 · by_cases h2:65≤x
   · by_cases h3:x≤90
     · rw[decide_eq_true (by omega)]
       go_enter Tryz.func77,Tryz.ntmps77;go_wp2;go_ret;exact⟨rfl,rfl⟩
     · by_cases h5:x=95
       · subst h5
         go_enter Tryz.func77,Tryz.ntmps77;go_wp2;go_ret;exact⟨rfl,rfl⟩
       · rw[decide_eq_false (by omega)]
         have h6:(x==95)=false:=by rw[beq_eq_false_iff_ne];omega
         clear h5;go_enter Tryz.func77,Tryz.ntmps77;go_wp2;go_ret;exact⟨rfl,rfl⟩
   · rw[decide_eq_false (by omega)]
     have h6:(x==95)=false:=by rw[beq_eq_false_iff_ne];omega
     go_enter Tryz.func77,Tryz.ntmps77;go_wp2;go_ret;exact⟨rfl,rfl⟩
abbrev box59:Obj:= .cells #[.int .i64 0,.string ⟨#[]⟩,.int .i64 0] 59
theorem heap3 {w:World} {b t:Nat} {v0 v1 v2:Value} (h:w.heap[b]? =some (.cells #[v0,v1,v2] t (0,0))):w.cell? ⟨b,0,none⟩=some v0∧w.cell? ⟨b,1,none⟩=some v1∧w.cell? ⟨b,2,none⟩=some v2∧∀i,w.frozen? ⟨b,i,none⟩=false:=
 ⟨by simp[World.cell?,h],by simp[World.cell?,h],by simp[World.cell?,h],fun i=>by simp[World.frozen?,h]⟩
theorem set3 {w:World} {b t:Nat} {a0 a1 a2:Value} (h:w.heap[b]? =some (.cells #[a0,a1,a2] t (0,0))) (v0 v1 v2:Value):
 (((w.setCell ⟨b,0,none⟩ v0).setCell ⟨b,1,none⟩ v1).setCell ⟨b,2,none⟩ v2).heap[b]? =some (.cells #[v0,v1,v2] t (0,0))∧
   Turn (fun k=>k=b) w (((w.setCell ⟨b,0,none⟩ v0).setCell ⟨b,1,none⟩ v1).setCell ⟨b,2,none⟩ v2):=
 ⟨set_field (set_field (set_field h v0 rfl) v1 rfl) v2 rfl,turn_at (turn_at (turn_at (Turn.refl _ _) 0 v0) 1 v1) 2 v2⟩
theorem ret59 {fn:Func} {R:Ending→World→Prop} {tmps:Array Value} {w:World} {b:Nat} {a0 a1 a2 v0 v1 v2:Value} (t:Tmp) (hr:fn.results=#[.cell t 59]) (ht:tmps[t]? =some (.pointer (some ⟨b,0,none⟩)))
 (h:w.heap[b]? =some (.cells #[a0,a1,a2] 59 (0,0))) (hR:∀W:World,W.heap[b]? =some (.cells #[v0,v1,v2] 59 (0,0))→Turn (fun k=>k=b) w W→R (.returned (.agg #[v0,v1,v2])) W):
 bodyPost Tryz.prog fn R Exit.ret {tmps:=tmps,defers:=[]} (((w.setCell ⟨b,0,none⟩ v0).setCell ⟨b,1,none⟩ v1).setCell ⟨b,2,none⟩ v2):=by
 obtain⟨s1,s2⟩:=set3 h v0 v1 v2;have hR:=hR _ s1 s2;generalize(((w.setCell ⟨b,0,none⟩ v0).setCell ⟨b,1,none⟩ v1).setCell ⟨b,2,none⟩ v2)=W at*;obtain⟨b0,b1,b2,bf⟩:=heap3 s1;exact bodyPost_ret (v:= .agg #[v0,v1,v2]) (by simp[results,hr,ht,go_sem,b0,b1,b2]) rfl hR
def FsPost (t:List UInt8×Int) (w:World) (e:Ending) (w':World):Prop:=e= .returned (.agg #[.int .i64 (kd t.2),.string (B t.1),.int .i64 0])∧Turn (fun _=>False) w w'
theorem bt_int (s:Bs) (i:Nat) (hlt:i<s.toList.length):∀h:i<s.size,((s[i]'h).toNat:Int)=((s.toList[i]).toNat:Int):=fun h=>by have:=bt_at s (i:Int) h;rw[bt_list s i hlt]at this;exact this
theorem first_digit (s:Bs) (c:UInt8) (r:List UInt8) (hx:s.toList=c::r) (hs:s.size<1000000000) (w:World) (hd:digU c=true):Calls Tryz.prog 39 #[.string s] w (FsPost (tokT c r) w):=by
 have hlen:=toList_len s;have hs0:(0:Int)<(s.size:Int):=by rw[← hlen,hx,List.length_cons];omega
 have hb0:∀h:0<s.size,((s[0]'h).toNat:Int)=((c.toNat:Nat):Int):=fun h=>by
  have:=bt_int s 0 (by rw[hx,List.length_cons];omega) h;simp only[hx,List.getElem_cons_zero]at this;exact this
 have hT:tokT c r=(s.toList.takeWhile digU,57):=by rw[hx];simp[tokT,hd]
 rw[hT];have hk:kd 57=3:=by decide
 have hle:=len_tw digU s.toList;have htk:=take_tw digU s.toList;generalize hm:(s.toList.takeWhile digU).length=m;rw[hm]at hle htk;have T0:=η ((Turn.refl (fun _=>False) w).alloc box59);have HB:=η (alloc_new w box59);have hB:B (s.toList.takeWhile digU)=s.extract 0 m:=by rw[ext_B,htk]
 unfold FsPost;dsimp only;rw[hB,hk];replace hm:=η hm;clear hT hx hB htk hk;go_enter Tryz.func39,Tryz.ntmps39;go_upto_region 3 with(first|(go_at_call 76;refine(pdigit_call c _).mono ?_;rintro e w' ⟨rfl,rfl⟩;rw[hd]))
 clear hb0 hs0 hd;generalize w.alloc (.cells #[.int .i64 0,.string ⟨#[]⟩,.int .i64 0] 59)=W0 at*;go_loopg [3] s.size (fun kq v3 W=>∃i:Nat,v3= .int .i64 (i:Int)∧i≤s.size∧s.size≤kq+i∧W=W0∧i+((s.toList.drop i).takeWhile digU).length=m)
 case atStart=>exact⟨0,rfl,by omega,by omega,rfl,by rw[List.drop_zero,Nat.zero_add];exact hm.out⟩
 case round=>
  obtain⟨i,rfl,h1,h2,hwr,h3⟩:=hrel;subst hwr;obtain⟨b0,b1,b2,bf⟩:=heap3 HB.out;by_cases hlt:i<s.size
  · have hlt2:i<s.toList.length:=by omega
    have c1:(i:Int)<(s.size:Int):=by omega
    have hb:=bt_int s i hlt2;rw[List.drop_eq_getElem_cons hlt2]at h3;generalize s.toList[i]=d at*;cases hd:digU d with
    |true=>
     rw[List.takeWhile_cons_of_pos hd,List.length_cons]at h3;replace h3:=η h3;clear hle hlen hlt hlt2;go_wp2_with(first|(go_at_call 76;refine(pdigit_call d _).mono ?_;rintro e w' ⟨rfl,rfl⟩;rw[hd]))
     go_roundg (s.size-(i+1))
     case measure=>omega
     case rel=>exact⟨i+1,by simp,by omega,by omega,rfl,by have:=h3.out;omega⟩
    |false=>
     rw[List.takeWhile_cons_of_neg (by rw[hd];decide)]at h3;have h3:m=i:=by simp at h3;omega
     subst h3;clear hle hlen hlt hlt2;go_wp2_with(first|(go_at_call 76;refine(pdigit_call d _).mono ?_;rintro e w' ⟨rfl,rfl⟩;rw[hd]))
     refine ret59 2 rfl rfl HB.out (fun W _ s2=>⟨rfl,T0.out.then s2 (fun i hi=> .inr (by omega))⟩)
  · rw[List.drop_of_length_le (by omega)]at h3
    have h3:m=s.size:=by simp at h3;omega
    have hi:i=s.size:=by omega
    subst h3;subst hi;clear hlen hle h2 hlt;go_wp2;refine ret59 2 rfl rfl HB.out (fun W _ s2=>⟨by simp,T0.out.then s2 (fun i hi=> .inr (by omega))⟩)
theorem first_letter (s:Bs) (c:UInt8) (r:List UInt8) (hx:s.toList=c::r) (hs:s.size<1000000000) (w:World) (hw:WordsAt w) (hd:digU c=false) (hl:letU c=true):Calls Tryz.prog 39 #[.string s] w (FsPost (tokT c r) w):=by
 have hlen:=toList_len s;have hs0:(0:Int)<(s.size:Int):=by rw[← hlen,hx,List.length_cons];omega
 have hb0:∀h:0<s.size,((s[0]'h).toNat:Int)=((c.toNat:Nat):Int):=fun h=>by
  have:=bt_int s 0 (by rw[hx,List.length_cons];omega) h;simp only[hx,List.getElem_cons_zero]at this;exact this
 have hT:tokT c r=if s.toList.takeWhile inU∈wordsL then(s.toList.takeWhile inU,109)else(s.toList.takeWhile inU,110):=by rw[hx];simp[tokT,hd,hl]
 have hk:kd 109=4:=by decide
 have hk2:kd 110=2:=by decide
 have hle:=len_tw inU s.toList;have htk:=take_tw inU s.toList;generalize hm:(s.toList.takeWhile inU).length=m;rw[hm]at hle htk;have T0:=η ((Turn.refl (fun _=>False) w).alloc box59);have HB:=η (alloc_new w box59);have HW:=η (hw.turn ((Turn.refl (fun _=>False) w).alloc box59) (fun z=>z));have hB:B (s.toList.takeWhile inU)=s.extract 0 m:=by rw[ext_B,htk]
 have hBL:(s.extract 0 m).toList=s.toList.takeWhile inU:=by rw[ext_take,htk]
 have hBS:m=s.size→s.extract 0 m=s:=fun e=>by subst e;simp
 replace hm:=η hm;generalize hbw:decide (s.toList.takeWhile inU∈wordsL)=bw
 have hF:∀W:World,Turn (fun _=>False) w W→FsPost (tokT c r) w (.returned (.agg #[.int .i64 (if bw=true then 4 else 2),.string (s.extract 0 m),.int .i64 0])) W:=fun W T=>by
  refine⟨?_,T⟩;rw[hT];cases bw with
  |true=>rw[if_pos (of_decide_eq_true hbw)];dsimp only;rw[hB,hk];rfl
  |false=>rw[if_neg (of_decide_eq_false hbw)];dsimp only;rw[hB,hk2];rfl
 have hw1:decide ((s.extract 0 m).toList∈wordsL)=bw:=by rw[hBL];exact hbw
 clear hx htk hw hbw hBL hB hT hk hk2;generalize hR:FsPost (tokT c r) w=R;rw[hR]at hF;clear hR;replace hw1:=η hw1;replace hF:=η hF;go_enter Tryz.func39,Tryz.ntmps39;go_upto_region 7 with(first|(go_at_call 76;refine(pdigit_call c _).mono ?_;rintro e w' ⟨rfl,rfl⟩;rw[hd])|(go_at_call 77;refine(pletter_call c _).mono ?_;rintro e w' ⟨rfl,rfl⟩;rw[hl]))
 clear hb0 hs0 hd hl;generalize w.alloc (.cells #[.int .i64 0,.string ⟨#[]⟩,.int .i64 0] 59)=W0 at*;go_loopg [3] s.size (fun kq v3 W=>∃i:Nat,v3= .int .i64 (i:Int)∧i≤s.size∧s.size≤kq+i∧W=W0∧i+((s.toList.drop i).takeWhile inU).length=m)
 case atStart=>exact⟨0,rfl,by omega,by omega,rfl,by rw[List.drop_zero,Nat.zero_add];exact hm.out⟩
 case round=>
  obtain⟨i,rfl,h1,h2,hwr,h3⟩:=hrel;subst hwr;obtain⟨b0,b1,b2,bf⟩:=heap3 HB.out;by_cases hlt:i<s.size
  · have hlt2:i<s.toList.length:=by omega
    have c1:(i:Int)<(s.size:Int):=by omega
    have hb:=bt_int s i hlt2;rw[List.drop_eq_getElem_cons hlt2]at h3;generalize s.toList[i]=d at*;by_cases hd:inU d=true
    · rw[List.takeWhile_cons_of_pos hd,List.length_cons]at h3
      replace h3:=η h3;clear hle hlen hlt hlt2 hBS;cases hl:letU d with
      |true=>
       go_wp2_with(first|(go_at_call 77;refine(pletter_call d _).mono ?_;rintro e w' ⟨rfl,rfl⟩;rw[hl]))
       go_roundg (s.size-(i+1))
       case measure=>omega
       case rel=>exact⟨i+1,by simp,by omega,by omega,rfl,by have:=h3.out;omega⟩
      |false=>
       have hd2:digU d=true:=by rw[inU,hl,Bool.false_or]at hd;exact hd
       clear hd;go_wp2_with(first|(go_at_call 77;refine(pletter_call d _).mono ?_;rintro e w' ⟨rfl,rfl⟩;rw[hl])|(go_at_call 76;refine(pdigit_call d _).mono ?_;rintro e w' ⟨rfl,rfl⟩;rw[hd2]))
       go_roundg (s.size-(i+1))
       case measure=>omega
       case rel=>exact⟨i+1,by simp,by omega,by omega,rfl,by have:=h3.out;omega⟩
    · rw[List.takeWhile_cons_of_neg hd]at h3
      have h3:m=i:=by simp at h3;omega
      subst h3;have hd1:letU d=false:=by cases q:letU d<;>simp[inU,q]at hd⊢
      have hd2:digU d=false:=by cases q:digU d<;>simp[inU,q]at hd⊢
      clear hle hlen hlt hlt2 hd hBS;cases bw with
      |true=>
       go_wp2_with(first|(go_at_call 77;refine(pletter_call d _).mono ?_;rintro e w' ⟨rfl,rfl⟩;rw[hd1])|(go_at_call 76;refine(pdigit_call d _).mono ?_;rintro e w' ⟨rfl,rfl⟩;rw[hd2])|(go_at_call 78;refine(isWord_call _ _ HW.out).mono ?_;rintro e w' ⟨rfl,rfl⟩;rw[hw1.out]))
       refine ret59 2 rfl rfl HB.out (fun W _ s2=>hF.out W (T0.out.then s2 (fun i hi=> .inr (by omega))))
      |false=>
       go_wp2_with(first|(go_at_call 77;refine(pletter_call d _).mono ?_;rintro e w' ⟨rfl,rfl⟩;rw[hd1])|(go_at_call 76;refine(pdigit_call d _).mono ?_;rintro e w' ⟨rfl,rfl⟩;rw[hd2])|(go_at_call 78;refine(isWord_call _ _ HW.out).mono ?_;rintro e w' ⟨rfl,rfl⟩;rw[hw1.out]))
       refine ret59 2 rfl rfl HB.out (fun W _ s2=>hF.out W (T0.out.then s2 (fun i hi=> .inr (by omega))))
  · rw[List.drop_of_length_le (by omega)]at h3
    have h3:m=s.size:=by simp at h3;omega
    have hi:i=s.size:=by omega
    have hF2:=η hF.out;rw[hBS h3]at hF2;have hw2:=hw1.out;rw[hBS h3]at hw2;replace hw2:=η hw2;subst h3;subst hi;clear hlen hle h2 hlt hBS;cases bw with
    |true=>
     go_wp2_with(first|(go_at_call 78;refine(isWord_call _ _ HW.out).mono ?_;rintro e w' ⟨rfl,rfl⟩;rw[hw2.out]))
     refine ret59 2 rfl rfl HB.out (fun W _ s2=>hF2.out W (T0.out.then s2 (fun i hi=> .inr (by omega))))
    |false=>
     go_wp2_with(first|(go_at_call 78;refine(isWord_call _ _ HW.out).mono ?_;rintro e w' ⟨rfl,rfl⟩;rw[hw2.out]))
     refine ret59 2 rfl rfl HB.out (fun W _ s2=>hF2.out W (T0.out.then s2 (fun i hi=> .inr (by omega))))
open YtbemddpmohoooaaGreatDoorW
theorem dword (s:Bs) (w:World):Calls Tryz.prog 55 #[.string s] w fun e w'=>e= .returned (.bool (decide (s.toList∈wordsL)))∧Below w.heap.size w w':=by
 have C0:=η (lit_cells w wordsL);go_enter Tryz.func55,Tryz.ntmps55;go_wp2_with fail
 have HB:=η (Below.alloc (Below.refl w.heap.size w) (Nat.le_refl _) (.cells (wordsL.map (fun b=>Value.string ⟨b.toArray⟩)).toArray 9));change Code.wp _ _ _ _ (w.alloc (.cells (wordsL.map (fun b=>Value.string ⟨b.toArray⟩)).toArray 9));have hwl:wordsL.length=13:=rfl;generalize World.alloc _ _=W at*;generalize hlw:wordsL=l at*;replace hlw:=η hlw;go_loopg [4] 14 (fun kq v4 w'=>∃j:Nat,v4= .int .i64 (j:Int)∧j≤13∧13<kq+j∧s.toList ∉ l.take j∧W=w')
 case atStart=>exact⟨0,rfl,by omega,by omega,by simp,rfl⟩
 case round=>
  obtain⟨j,rfl,g1,g2,gn,hwr⟩:=hrel;subst hwr;by_cases hj:j<13
  · have c2:(j:Int)<13:=by omega
    have hj':j<l.length:=by omega
    have hx:=C0.out j hj';have hm:(⟨l[j].toArray⟩:Bs).toList=l[j]:=lit_toList _;have hmem:l[j]∈l:=List.getElem_mem hj';have hst:l.take (j+1)=l.take j++[l[j]]:=(List.take_append_getElem hj').symm;generalize l[j]=rj at*;generalize(⟨rj.toArray⟩:Bs)=m at*;subst hm;clear hj' hwl;by_cases he:m.toList=s.toList
    · have e1:(m.toList==s.toList)=true:=by rw[he];exact beq_self_eq_true _
      have er:decide (s.toList∈wordsL)=true:=decide_eq_true (by rw[hlw.out];exact he▸hmem);clear C0 he gn hst hmem g1 g2 hj;go_wp2;go_ret;exact⟨by rw[er];rfl,HB.out⟩
    · have e1:(m.toList==s.toList)=false:=beq_eq_false_iff_ne.mpr he
      have gn':=η (show s.toList ∉ l.take (j+1) by rw[hst];simp[gn,Ne.symm he]);clear hst hmem;go_wp2;go_roundg (13-j)
      case measure=>omega
      case rel=>exact⟨j+1,by simp,by omega,by omega,gn'.out,rfl⟩
  · have c2:¬(j:Int)<13:=by omega
    have er:decide (s.toList∈wordsL)=false:=decide_eq_false (by rw[hlw.out];rw[List.take_of_length_le (by omega)]at gn;exact gn);obtain rfl:j=13:=by omega
    clear C0 gn g1 g2 hj hwl;go_wp2;go_ret;exact⟨rfl,HB.out⟩
theorem dmark {s:Bs} {c:UInt8} {r:List UInt8} (hx:s.toList=c::r) (w:World):Calls Tryz.prog 56 #[.string s] w fun e w'=>e= .returned (.int .i64 (if(c::r).take 2∈twosL then 2 else if c∈onesL then 1 else 0))∧Below w.heap.size w w':=by
 have hxs:=η hx;have C0:=η (lit_cells w twosL);have hlen:=toList_len s;have hsx:s.size=r.length+1:=by rw[← hlen,hx,List.length_cons]
 generalize ht2:(c::r).take 2=t2;replace ht2:=η ht2;go_enter Tryz.func56,Tryz.ntmps56;go_upto_region 3 with fail
 have HB:=η (Below.alloc (Below.refl w.heap.size w) (Nat.le_refl _) (.cells (twosL.map (fun b=>Value.string ⟨b.toArray⟩)).toArray 9));change Code.wp _ _ _ _ (w.alloc (.cells (twosL.map (fun b=>Value.string ⟨b.toArray⟩)).toArray 9));have hWl:w.heap.size<(w.alloc (.cells (twosL.map (fun b=>Value.string ⟨b.toArray⟩)).toArray 9)).heap.size:=by simp
 generalize World.alloc _ _=W at*;have htw:twosL.length=6:=rfl;generalize hlw:twosL=l at*;replace hlw:=η hlw
 have hb0:∀h:0<s.size,((s[0]'h).toNat:Int)=((c.toNat:Nat):Int):=fun h=>by
  have:=bt_int s 0 (by rw[hx,List.length_cons];omega) h;simp only[hx,List.getElem_cons_zero]at this;exact this
 go_loopg [4] 7 (fun kq v4 w'=>∃j:Nat,v4= .int .i64 (j:Int)∧j≤6∧6<kq+j∧t2 ∉ l.take j∧Below W.heap.size W w')
 case atStart=>exact⟨0,rfl,by omega,by omega,by simp,Below.refl _ _⟩
 case round=>
  obtain⟨j,rfl,g1,g2,gn,hwr⟩:=hrel;replace hwr:=η hwr;by_cases hj:j<6
  · have c2:(j:Int)<6:=by omega
    have hj':j<l.length:=by omega
    have hx:=(hwr.out.cell (p:=⟨w.heap.size,j,none⟩) hWl).trans (C0.out j hj');have hm:(⟨l[j].toArray⟩:Bs).toList=l[j]:=lit_toList _;have hmem:l[j]∈l:=List.getElem_mem hj';have hst:l.take (j+1)=l.take j++[l[j]]:=(List.take_append_getElem hj').symm;generalize l[j]=rj at*;generalize(⟨rj.toArray⟩:Bs)=m at*;subst hm;clear hj' htw;by_cases hs:1<s.size
    · have c1:(1:Int)<(s.size:Int):=by omega
      have c3:(2:Int)≤(s.size:Int):=by omega
      have ex:(s.extract 0 2).toList=t2:=by rw[← ht2.out,ext_take,hxs.out]
      clear hsx hlen;go_upto_region 5 with fail
      refine sr 12 (S:=fun W'=>W'.cell? ⟨w.heap.size,j,none⟩=some (.string m)) (ds:=[]) (by simpa using hx) ?_;intro hH;refine pu 0 14 ?_;refine pu 1 15 ?_;refine pu 2 16 ?_;refine pu 3 17 ?_;refine pu 4 18 ?_;refine pu 5 19 ?_;refine pu 6 20 ?_;refine pu 7 21 ?_;refine pu 8 22 ?_;refine tk 9 23 hH ?_;refine pu 10 24 ?_;refine pu 11 25 ?_;refine PrintLast.done_ (by kernel_rfl) ?_;have hwr2:=η (show Below W.heap.size W wr.drew from hwr.out.drew);clear hH hx hwr;generalize wr.drew=w2 at*
      try rw[ex]
      by_cases he:m.toList=t2
      · have e1:(t2==m.toList)=true:=by rw[he];exact beq_self_eq_true _
        have er:t2∈twosL:=by rw[hlw.out];exact he▸hmem
        clear C0 he gn hst hmem g1 g2 hj ex;rw[e1];go_wp2;go_ret;exact⟨by first|rfl|(rw[if_pos er];rfl),HB.out.trans (hwr2.out.mono HB.out.size)⟩
      · have e1:(t2==m.toList)=false:=beq_eq_false_iff_ne.mpr (Ne.symm he)
        have gn':=η (show t2 ∉ l.take (j+1) by rw[hst];simp only[List.mem_append,List.mem_singleton,not_or];exact⟨gn,Ne.symm he⟩);clear hst hmem ex;rw[e1];go_wp2;go_roundg (6-j)
        case measure=>omega
        case rel=>exact⟨j+1,by simp,by omega,by omega,gn'.out,hwr2.out⟩
    · have c1:¬(1:Int)<(s.size:Int):=by omega
      have gn':=η (show t2 ∉ l.take (j+1) from fun q=>by
       have q2:=(by decide:∀m∈twosL,m.length=2) t2 (by rw[hlw.out];exact List.mem_of_mem_take q);rw[← ht2.out,List.length_take,List.length_cons]at q2;omega)
      clear hst hmem gn hsx hlen;go_upto_region 5 with fail
      refine sr 12 (S:=fun W'=>W'.cell? ⟨w.heap.size,j,none⟩=some (.string m)) (ds:=[]) (by simpa using hx) ?_;intro hH;refine pu 0 14 ?_;refine pu 1 15 ?_;refine pu 2 16 ?_;refine pu 3 17 ?_;refine pu 4 18 ?_ (hy:=Or.inr ⟨by rfl,by rfl⟩);refine pu 5 19 ?_ (hy:=Or.inr ⟨by rfl,by rfl⟩);refine pu 6 20 ?_ (hy:=Or.inr ⟨by rfl,by rfl⟩);refine pu 7 21 ?_ (hy:=Or.inr ⟨by rfl,by rfl⟩);refine pu 8 22 ?_ (hy:=Or.inr ⟨by rfl,by rfl⟩);refine pu 9 23 ?_ (hy:=Or.inr ⟨by rfl,by rfl⟩);refine pu 10 24 ?_ (hy:=Or.inr ⟨by rfl,by rfl⟩);refine pu 11 25 ?_;refine PrintLast.done_ (by kernel_rfl) ?_;have hwr2:=η (show Below W.heap.size W wr.drew from hwr.out.drew);clear hH hx hwr;generalize wr.drew=w2 at*;go_wp2;go_roundg (6-j)
      case measure=>omega
      case rel=>exact⟨j+1,by simp,by omega,by omega,gn'.out,hwr2.out⟩
  · have c2:¬(j:Int)<6:=by omega
    have er:Hid (t2 ∉ twosL):=η (by rw[hlw.out];rw[List.take_of_length_le (by omega)]at gn;exact gn);obtain rfl:j=6:=by omega
    clear C0 gn g1 g2 hj htw hlw;go_upto_region 9 with fail
    have hot:(⟨#[59,44,61,91,93,40,41,123,125,60,62,43,45,42,47,37,33]⟩:Bs).toList=onesL:=lit_toList onesL;have hos:(⟨#[59,44,61,91,93,40,41,123,125,60,62,43,45,42,47,37,33]⟩:Bs).size=17:=rfl;generalize(⟨#[59,44,61,91,93,40,41,123,125,60,62,43,45,42,47,37,33]⟩:Bs)=o at*;have hs0:(0:Int)<(s.size:Int):=by omega
    have hs1:0<s.size:=by omega
    clear hsx hlen;go_loopg [6] 18 (fun kq v6 w'=>∃i:Nat,v6= .int .i64 (i:Int)∧i≤17∧17<kq+i∧c ∉ onesL.take i∧Below W.heap.size W w')
    case atStart=>exact⟨0,rfl,by omega,by omega,by simp,hwr.out⟩
    case round=>
     clear hwr;obtain⟨i,rfl,g1,g2,gn,hwr⟩:=hrel;replace hwr:=η hwr;by_cases hi:i<17
     · have c3:(i:Int)<17:=by omega
       have hi':i<o.toList.length:=by rw[hot];exact hi
       have hb1:=bt_int o i hi';have hmem:o.toList[i]∈o.toList:=List.getElem_mem hi';have hst:o.toList.take (i+1)=o.toList.take i++[o.toList[i]]:=(List.take_append_getElem hi').symm;simp only[hot]at hst hb1 hmem;generalize onesL[i]=d at*;have hi2:i<o.size:=by omega
       have hi3:(i:Int)<(o.size:Int):=by omega
       go_upto_region 11 with fail
       refine sr 6 (S:=fun _=>True) (ds:=[]) trivial ?_;intro hH;refine pu 0 32 ?_;refine pu 1 33 ?_;refine pu 2 34 ?_;refine pu 3 35 ?_;refine pu 4 36 ?_;refine pu 5 37 ?_;refine PrintLast.done_ (by kernel_rfl) ?_;have hwr2:=η (show Below W.heap.size W wr.drew from hwr.out.drew);clear hwr;generalize wr.drew=w2 at*;by_cases he:c=d
       · have e1:(((c.toNat:Nat):Int)==((d.toNat:Nat):Int))=true:=by rw[he];exact beq_self_eq_true _
         have eo:c∈onesL:=he▸hmem;rw[e1];clear hst hmem gn g1 g2 he hi hi' hi2 hi3 hb1 hb0 hx hH;go_wp2;go_ret;exact⟨rfl,HB.out.trans (hwr2.out.mono HB.out.size)⟩
       · have e1:(((c.toNat:Nat):Int)==((d.toNat:Nat):Int))=false:=beq_eq_false_iff_ne.mpr (fun q=>he (UInt8.toNat_inj.mp (by omega)))
         have gn':=η (show c ∉ onesL.take (i+1) by rw[hst];simp only[List.mem_append,List.mem_singleton,not_or];exact⟨gn,he⟩);rw[e1];clear hst hmem hb1 hb0 hx hH;go_wp2;go_roundg (17-i)
         case measure=>omega
         case rel=>exact⟨i+1,by simp,by omega,by omega,gn'.out,hwr2.out⟩
     · have c3:¬(i:Int)<17:=by omega
       have eo:c ∉ onesL:=by rw[List.take_of_length_le (show onesL.length≤i by show 17≤i;omega)]at gn;exact gn
       obtain rfl:i=17:=by omega
       clear gn g1 g2 hi hb0 hx;go_wp2;go_ret;exact⟨rfl,HB.out.trans (hwr.out.mono HB.out.size)⟩
abbrev box42:Obj:= .cells #[.string ⟨#[]⟩,.int .i64 0,.int .u8 0,.int .i64 0,.int .i64 0] 42
theorem ddig (c:UInt8) (w:World):Calls Tryz.prog 53 #[.int .u8 ((c.toNat:Nat):Int)] w fun e w'=>e= .returned (.bool (digU c))∧Below w.heap.size w w':=
 (larderref23_digit.calls _ _ w (digit_ev c)).mono (fun e w' z=>⟨z.1,z.2.below⟩)
theorem dlet (c:UInt8) (w:World):Calls Tryz.prog 54 #[.int .u8 ((c.toNat:Nat):Int)] w fun e w'=>e= .returned (.bool (letU c))∧Below w.heap.size w w':=
 (larderref23_letter.calls _ _ w (letter_ev c)).mono (fun e w' z=>⟨z.1,z.2.below⟩)
theorem ret42 {fn:Func} {R:Ending→World→Prop} {tmps:Array Value} {w:World} {b:Nat} {a0 a1 a2 a3 a4 v0 v1 v2 v3 v4:Value} (hr:fn.results=#[.cell 2 42]) (ht:tmps[2]? =some (.pointer (some ⟨b,0,none⟩)))
 (h:w.heap[b]? =some (.cells #[a0,a1,a2,a3,a4] 42 (0,0))) (hR:∀W:World,Turn (fun k=>k=b) w W→R (.returned (.agg #[v0,v1,v2,v3,v4])) W):
 bodyPost Tryz.prog fn R Exit.ret {tmps:=tmps,defers:=[]} (((((w.setCell ⟨b,0,none⟩ v0).setCell ⟨b,1,none⟩ v1).setCell ⟨b,2,none⟩ v2).setCell ⟨b,3,none⟩ v3).setCell ⟨b,4,none⟩ v4):=by
 obtain⟨s1,s2⟩:=set5 h v0 v1 v2 v3 v4;have hR:=hR _ s2;generalize(((((w.setCell ⟨b,0,none⟩ v0).setCell ⟨b,1,none⟩ v1).setCell ⟨b,2,none⟩ v2).setCell ⟨b,3,none⟩ v3).setCell ⟨b,4,none⟩ v4)=W at*;obtain⟨b0,b1,b2,b3,b4,bf⟩:=heap5 s1;exact bodyPost_ret (v:= .agg #[v0,v1,v2,v3,v4]) (by simp[results,hr,ht,go_sem,b0,b1,b2,b3,b4]) rfl hR
def DKP (t:S42) (w:World) (e:Ending) (w':World):Prop:=e= .returned (.agg #[.string t.f0,.int .i64 t.f1,.int .u8 t.f2,.int .i64 t.f3,.int .i64 t.f4])∧Below w.heap.size w w'
theorem bt_i (s:Bs) (i:Nat) (hlt:i<s.toList.length):∀h:i<s.size,((s[i]'h).toNat:Int)=((s.toList[i]).toNat:Int):=fun h=>by have:=bt_at s (i:Int) h;rw[bt_list s i hlt]at this;exact this
theorem dtok_digit (s:Bs) (c:UInt8) (r:List UInt8) (hx:s.toList=c::r) (hs:s.size<1000000000) (w:World) (hd:digU c=true):Calls Tryz.prog 26 #[.string s] w (DKP (tokOf c r 0) w):=by
 have hlen:=toList_len s;have hs0:(0:Int)<(s.size:Int):=by rw[← hlen,hx,List.length_cons];omega
 have hb0:∀h:0<s.size,((s[0]'h).toNat:Int)=((c.toNat:Nat):Int):=fun h=>by
  have:=bt_i s 0 (by rw[hx,List.length_cons];omega) h;simp only[hx,List.getElem_cons_zero]at this;exact this
 have hT:tokT c r=(s.toList.takeWhile digU,57):=by rw[hx];simp[tokT,hd]
 have hle:=len_tw digU s.toList;have htk:=take_tw digU s.toList;generalize hm:(s.toList.takeWhile digU).length=m;rw[hm]at hle htk;have B0:=η (Below.alloc (Below.refl w.heap.size w) (Nat.le_refl _) box42);have HB:=η (alloc_new w box42);have hB:B (s.toList.takeWhile digU)=s.extract 0 m:=by rw[ext_B,htk]
 unfold DKP tokOf;rw[hT];dsimp only;rw[hB,if_neg (by decide),if_neg (by decide)];replace hm:=η hm;clear hT hx hB htk;go_enter Tryz.func26,Tryz.ntmps26;go_upto_region 2 with fail
 generalize w.alloc (.cells #[.string ⟨#[]⟩,.int .i64 0,.int .u8 0,.int .i64 0,.int .i64 0] 42)=W0 at*;go_upto_region 3 with(first|(go_at_call 53;refine(ddig c _).mono ?_;rintro e w1 ⟨rfl,H1⟩;have X1:=η H1;clear H1;rw[hd]))
 clear hb0 hs0 hd;have HB1:=η (hp_keep HB.out X1.out);have B1:=η (below_step B0.out X1.out);clear HB B0 X1;go_loopg [3] s.size (fun kq v3 W=>∃i:Nat,v3= .int .i64 (i:Int)∧i≤s.size∧s.size≤kq+i∧Below w1.heap.size w1 W∧i+((s.toList.drop i).takeWhile digU).length=m)
 case atStart=>exact⟨0,rfl,by omega,by omega,Below.refl _ _,by rw[List.drop_zero,Nat.zero_add];exact hm.out⟩
 case round=>
  obtain⟨i,rfl,h1,h2,hwr,h3⟩:=hrel;have HBr:=hp_keep HB1.out hwr;have Br:=below_step B1.out hwr;by_cases hlt:i<s.size
  · have hlt2:i<s.toList.length:=by omega
    have c1:(i:Int)<(s.size:Int):=by omega
    have hb:=bt_i s i hlt2;rw[List.drop_eq_getElem_cons hlt2]at h3;generalize s.toList[i]=d at*;cases hd:digU d with
    |true=>
     rw[List.takeWhile_cons_of_pos hd,List.length_cons]at h3;replace h3:=η h3;replace hwr:=η hwr;clear hle hlen hlt hlt2 HBr Br;go_wp2_with(first|(go_at_call 53;refine(ddig d _).mono ?_;rintro e w2 ⟨rfl,H2⟩;have X2:=η (hwr.out.trans (H2.mono hwr.out.size));clear H2;rw[hd]))
     go_roundg (s.size-(i+1))
     case measure=>omega
     case rel=>exact⟨i+1,by simp,by omega,by omega,X2.out,by have:=h3.out;omega⟩
    |false=>
     rw[List.takeWhile_cons_of_neg (by rw[hd];decide)]at h3;have h3:m=i:=by simp at h3;omega
     subst h3;replace HBr:=η HBr;replace Br:=η Br;clear hle hlen hlt hlt2 hwr;go_wp2_with(first|(go_at_call 53;refine(ddig d _).mono ?_;rintro e w2 ⟨rfl,H2⟩;have X2:=η H2;clear H2;obtain⟨q0,q1,q2,q3,q4,qf⟩:=heap5 (hp_keep HBr.out X2.out);rw[hd]))
     refine ret42 rfl rfl (hp_keep HBr.out X2.out) (fun W s2=>⟨rfl,?_⟩);exact(below_step Br.out X2.out).trans (s2.below (fun k hk=>by omega) (below_step Br.out X2.out).size)
  · rw[List.drop_of_length_le (by omega)]at h3
    have h3:m=s.size:=by simp at h3;omega
    have hi:i=s.size:=by omega
    subst h3;subst hi;obtain⟨q0,q1,q2,q3,q4,qf⟩:=heap5 HBr;replace HBr:=η HBr;replace Br:=η Br;clear hlen hle h2 hlt hwr;go_wp2;refine ret42 rfl rfl HBr.out (fun W s2=>⟨by simp,?_⟩);exact Br.out.trans (s2.below (fun k hk=>by omega) Br.out.size)
theorem dtok_letter (s:Bs) (c:UInt8) (r:List UInt8) (hx:s.toList=c::r) (hs:s.size<1000000000) (w:World) (hd:digU c=false) (hl:letU c=true):Calls Tryz.prog 26 #[.string s] w (DKP (tokOf c r 0) w):=by
 have hlen:=toList_len s;have hs0:(0:Int)<(s.size:Int):=by rw[← hlen,hx,List.length_cons];omega
 have hb0:∀h:0<s.size,((s[0]'h).toNat:Int)=((c.toNat:Nat):Int):=fun h=>by
  have:=bt_i s 0 (by rw[hx,List.length_cons];omega) h;simp only[hx,List.getElem_cons_zero]at this;exact this
 have hT:tokT c r=if s.toList.takeWhile inU∈wordsL then(s.toList.takeWhile inU,109)else(s.toList.takeWhile inU,110):=by rw[hx];simp[tokT,hd,hl]
 have hle:=len_tw inU s.toList;have htk:=take_tw inU s.toList;have hm0:0<(s.toList.takeWhile inU).length:=by rw[hx,List.takeWhile_cons_of_pos (by rw[inU,hl,Bool.true_or]),List.length_cons];omega
 generalize hm:(s.toList.takeWhile inU).length=m;rw[hm]at hle htk hm0;have B0:=η (Below.alloc (Below.refl w.heap.size w) (Nat.le_refl _) box42);have HB:=η (alloc_new w box42);have hB:B (s.toList.takeWhile inU)=s.extract 0 m:=by rw[ext_B,htk]
 have hBL:(s.extract 0 m).toList=s.toList.takeWhile inU:=by rw[ext_take,htk]
 generalize hbw:decide (s.toList.takeWhile inU∈wordsL)=bw
 have hF:Hid (∀w':World,Below w.heap.size w w'→DKP (tokOf c r 0) w (.returned (.agg #[.string (s.extract 0 m),.int .i64 0,.int .u8 (if bw=true then 109 else 110),.int .i64 0,.int .i64 0])) w'):=η fun w' H=>by
  refine⟨?_,H⟩;have hnot:∀m∈wordsL,rank0 m+1=0∧sideOf m=0:=by decide
  unfold tokOf;rw[hT];cases bw with
  |true=>
   have hw:=of_decide_eq_true hbw;rw[if_pos hw];dsimp only;rw[if_pos rfl,if_pos rfl,(hnot _ hw).1,(hnot _ hw).2,hB];rfl
  |false=>
   rw[if_neg (of_decide_eq_false hbw)];dsimp only;rw[if_neg (by decide),if_neg (by decide),hB];rfl
 have hw1:decide ((s.extract 0 m).toList∈wordsL)=bw:=by rw[hBL];exact hbw
 replace hm:=η hm;replace hw1:=η hw1;clear hT hx hB htk hBL hbw;generalize DKP (tokOf c r 0) w=R at*;go_enter Tryz.func26,Tryz.ntmps26;go_upto_region 2 with fail
 generalize w.alloc (.cells #[.string ⟨#[]⟩,.int .i64 0,.int .u8 0,.int .i64 0,.int .i64 0] 42)=W0 at*;go_upto_region 6 with(first|(go_at_call 53;refine(ddig c _).mono ?_;rintro e w1 ⟨rfl,H1⟩;have X1:=η H1;clear H1;rw[hd]))
 clear hb0 hs0 hd hl;have HB1:=η (hp_keep HB.out X1.out);have B1:=η (below_step B0.out X1.out);clear HB B0 X1;go_loopg [3] s.size (fun kq v3 W=>∃i:Nat,v3= .int .i64 (i:Int)∧i≤s.size∧s.size≤kq+i∧Below w1.heap.size w1 W∧i+((s.toList.drop i).takeWhile inU).length=m)
 case atStart=>exact⟨0,rfl,by omega,by omega,Below.refl _ _,by rw[List.drop_zero,Nat.zero_add];exact hm.out⟩
 case round=>
  obtain⟨i,rfl,h1,h2,hwr,h3⟩:=hrel;replace hwr:=η hwr;by_cases hlt:i<s.size
  · have hlt2:i<s.toList.length:=by omega
    have c1:(i:Int)<(s.size:Int):=by omega
    have hb:=bt_i s i hlt2;rw[List.drop_eq_getElem_cons hlt2]at h3;generalize s.toList[i]=d at*;by_cases hd:inU d=true
    · rw[List.takeWhile_cons_of_pos hd,List.length_cons]at h3
      replace h3:=η h3;clear hle hlen hlt hlt2 hm0;cases hl:letU d with
      |true=>
       go_wp2_with(first|(go_at_call 54;refine(dlet d _).mono ?_;rintro e w2 ⟨rfl,H2⟩;have X2:=η (hwr.out.trans (H2.mono hwr.out.size));clear H2;rw[hl]))
       go_roundg (s.size-(i+1))
       case measure=>omega
       case rel=>exact⟨i+1,by simp,by omega,by omega,X2.out,by have:=h3.out;omega⟩
      |false=>
       have hd2:digU d=true:=by rw[inU,hl,Bool.false_or]at hd;exact hd
       clear hd;go_wp2_with(first|(go_at_call 54;refine(dlet d _).mono ?_;rintro e w2 ⟨rfl,H2⟩;have X2:=η (hwr.out.trans (H2.mono hwr.out.size));clear H2;rw[hl])|(go_at_call 53;refine(ddig d _).mono ?_;rintro e w3 ⟨rfl,H3⟩;have X3:=η (X2.out.trans (H3.mono X2.out.size));clear H3;rw[hd2]))
       go_roundg (s.size-(i+1))
       case measure=>omega
       case rel=>exact⟨i+1,by simp,by omega,by omega,X3.out,by have:=h3.out;omega⟩
    · rw[List.takeWhile_cons_of_neg hd]at h3
      have h3:m=i:=by simp at h3;omega
      subst h3;have hd1:letU d=false:=by cases q:letU d<;>simp[inU,q]at hd⊢
      have hd2:digU d=false:=by cases q:digU d<;>simp[inU,q]at hd⊢
      have hm1:(0:Int)<(m:Int):=by omega
      clear hle hlen hlt hlt2 hd;cases bw
      all_goals
       go_wp2_with(first|(go_at_call 54;refine(dlet d _).mono ?_;rintro e w2 ⟨rfl,H2⟩;have X2:=η (hwr.out.trans (H2.mono hwr.out.size));clear H2;rw[hd1])|(go_at_call 53;refine(ddig d _).mono ?_;rintro e w3 ⟨rfl,H3⟩;have X3:=η (X2.out.trans (H3.mono X2.out.size));clear H3;rw[hd2])|(go_at_call 55;refine(dword _ _).mono ?_;rintro e w4 ⟨rfl,H4⟩;have X4:=η (X3.out.trans (H4.mono X3.out.size));clear H4;obtain⟨q0,q1,q2,q3,q4,qf⟩:=heap5 (hp_keep HB1.out X4.out);rw[hw1.out]))
       refine ret42 rfl rfl (hp_keep HB1.out X4.out) (fun W s2=>hF.out W ?_);exact(below_step B1.out X4.out).trans (s2.below (fun k hk=>by omega) (below_step B1.out X4.out).size)
  · rw[List.drop_of_length_le (by omega)]at h3
    have h3:m=i:=by simp at h3;omega
    subst h3;have c1:¬(m:Int)<(s.size:Int):=by omega
    have hm1:(0:Int)<(m:Int):=by omega
    clear hlen hle h2 hlt;cases bw
    all_goals
     go_wp2_with(first|(go_at_call 55;refine(dword _ _).mono ?_;rintro e w4 ⟨rfl,H4⟩;have X4:=η (hwr.out.trans (H4.mono hwr.out.size));clear H4;obtain⟨q0,q1,q2,q3,q4,qf⟩:=heap5 (hp_keep HB1.out X4.out);rw[hw1.out]))
     refine ret42 rfl rfl (hp_keep HB1.out X4.out) (fun W s2=>hF.out W ?_);exact(below_step B1.out X4.out).trans (s2.below (fun k hk=>by omega) (below_step B1.out X4.out).size)
theorem dside (c:UInt8) (w:World):Calls Tryz.prog 58 #[.int .u8 ((c.toNat:Nat):Int)] w fun e w'=>e= .returned (.int .i64 (sideOf [c]))∧Below w.heap.size w w':=by
 obtain⟨k,hk⟩:=(side_ev ((c.toNat:Nat):Int)).get;rw[side_eq]at hk;exact(larderref23_side.calls k _ _ w hk).mono (fun e w' z=>⟨z.1,z.2.below⟩)
theorem dtok_mark (s:Bs) (c:UInt8) (r:List UInt8) (hx:s.toList=c::r) (hs:s.size<1000000000) (w:World) (hd:digU c=false) (hl:letU c=false):Calls Tryz.prog 26 #[.string s] w (DKP (tokOf c r 0) w):=by
 have hlen:=toList_len s;have hsx:s.size=r.length+1:=by rw[← hlen,hx,List.length_cons]
 have hs0:(0:Int)<(s.size:Int):=by omega
 have hs1:(1:Int)≤(s.size:Int):=by omega
 have hs2:0<s.size:=by omega
 have hb0:∀h:0<s.size,((s[0]'h).toNat:Int)=((c.toNat:Nat):Int):=fun h=>by
  have:=bt_i s 0 (by rw[hx,List.length_cons];omega) h;simp only[hx,List.getElem_cons_zero]at this;exact this
 have hT:tokT c r=if(c::r).take 2∈twosL then((c::r).take 2,109)else if c∈onesL then([c],109)else([c],63):=by simp[tokT,hd,hl]
 have B0:=η (Below.alloc (Below.refl w.heap.size w) (Nat.le_refl _) box42);have HB:=η (alloc_new w box42);have MC:=η (fun w'=>dmark hx w')
 have hcase:∃n:Nat,(if(c::r).take 2∈twosL then(2:Int)else if c∈onesL then 1 else 0)=(n:Int)∧((n=2∧(2:Int)≤(s.size:Int)∧tokOf c r 0=⟨s.extract 0 2,0,109,rank0 (s.extract 0 2).toList+1,sideOf [c]⟩)∨(n=1∧tokOf c r 0=⟨s.extract 0 1,0,109,rank0 (s.extract 0 1).toList+1,sideOf [c]⟩)∨(n=0∧tokOf c r 0=⟨s.extract 0 1,0,63,0,0⟩)):=by
  unfold tokOf;rw[hT];have x1:(s.extract 0 1).toList=[c]:=by rw[ext_take,hx];rfl
  have x2:(s.extract 0 2).toList=(c::r).take 2:=by rw[ext_take,hx]
  have e1:s.extract 0 1=B [c]:=bt_lit.mp x1;have e2:s.extract 0 2=B ((c::r).take 2):=bt_lit.mp x2;by_cases t2:(c::r).take 2∈twosL
  · have T:∀m∈twosL,m.length=2∧sideOf [m.headD 0]=0∧sideOf m=0:=by decide
    obtain⟨h1,h2,h3⟩:=T _ t2;have h2':sideOf [c]=0:=h2;simp only[if_pos t2];refine⟨2,rfl,.inl ⟨rfl,by simp at h1;omega,?_⟩⟩;rw[if_pos trivial,if_pos trivial,x2,e2,h3,h2']
  · by_cases t1:c∈onesL
    · simp only[if_neg t2,if_pos t1]
      refine⟨1,rfl,.inr (.inl ⟨rfl,?_⟩)⟩;rw[if_pos trivial,if_pos trivial,x1,e1]
    · simp only[if_neg t2,if_neg t1]
      refine⟨0,rfl,.inr (.inr ⟨rfl,?_⟩)⟩;rw[if_neg (by decide),if_neg (by decide),e1]
 obtain⟨n,hn,hcase⟩:=hcase;rw[hn]at MC;have RC:=η (fun w'=>drank (s.extract 0 n) w');have SD:=η (fun w'=>dside c w');unfold DKP;clear hx hlen hn hsx;rcases hcase with⟨rfl,h2,hq⟩|⟨rfl,hq⟩|⟨rfl,hq⟩
 all_goals
  rw[hq];clear hT hq;go_enter Tryz.func26,Tryz.ntmps26;go_upto_region 2 with fail
  generalize w.alloc (.cells #[.string ⟨#[]⟩,.int .i64 0,.int .u8 0,.int .i64 0,.int .i64 0] 42)=W0 at*;go_upto_region 6 with(first|(go_at_call 53;refine(ddig c _).mono ?_;rintro e w1 ⟨rfl,H1⟩;have X1:=η H1;clear H1;rw[hd]))
  have HB1:=η (hp_keep HB.out X1.out);have B1:=η (below_step B0.out X1.out);clear HB B0 X1;go_loopg [3] 1 (fun kq v3 W=>v3= .int .i64 0∧Below w1.heap.size w1 W)
  case atStart=>exact⟨rfl,Below.refl _ _⟩
  case round=>
   obtain⟨rfl,hwr⟩:=hrel;replace hwr:=η hwr;go_upto_region 14 with(first|(go_at_call 54;refine(dlet c _).mono ?_;rintro e w2 ⟨rfl,H2⟩;have X2:=η (hwr.out.trans (H2.mono hwr.out.size));clear H2;rw[hl])|(go_at_call 53;refine(ddig c _).mono ?_;rintro e w3 ⟨rfl,H3⟩;have X3:=η (X2.out.trans (H3.mono X2.out.size));clear H3;rw[hd])|(go_at_call 56;refine(MC.out _).mono ?_;rintro e w4 ⟨rfl,H4⟩;have X4:=η (X3.out.trans (H4.mono X3.out.size));clear H4;obtain⟨q0,q1,q2,q3,q4,qf⟩:=heap5 (hp_keep HB1.out X4.out)))
   first
   |refine ret42 rfl rfl (hp_keep HB1.out X4.out) (fun W s2=>⟨rfl,?_⟩)
    exact(below_step B1.out X4.out).trans (s2.below (fun k hk=>by omega) (below_step B1.out X4.out).size)
   |clear q0 q1 q2 q3 q4 qf
    refine sr 12 (S:=fun _=>True) (ds:=[11]) trivial ?_;intro hH;have X5:=η (X4.out.drew);generalize w4.drew=wA at*;refine pu 0 63 ?_;refine pu 1 64 ?_;refine pu 2 65 ?_;refine pu 3 66 ?_;refine pu 4 67 ?_;refine pu 5 68 ?_;refine pu 7 70 ?_;refine pu 8 71 ?_;refine on 6 69 (fun K hK=> ?_);refine PrintLast.goes_ Tryz.func57 (by kernel_rfl) (by kernel_rfl) #[_] (by rfl) (by rfl) (by rfl) (by simp[Act.eval];rfl) ?_;refine(RC.out wA).mono ?_;rintro e w5 ⟨rfl,H5⟩;have X6:=η (X5.out.trans (H5.mono X5.out.size));refine⟨_,rfl,hK.out _ _ trivial (fun hH=> ?_)⟩;clear hK K;refine nm 69 ?_;refine on 9 72 (fun K hK=> ?_);refine PrintLast.goes_ Tryz.func58 (by kernel_rfl) (by kernel_rfl) #[_] (by rfl) (by rfl) (by rfl) (by simp[Act.eval];rfl) ?_;refine(SD.out w5).mono ?_;rintro e w6 ⟨rfl,H6⟩;have X7:=η (X6.out.trans (H6.mono X6.out.size));refine⟨_,rfl,hK.out _ _ trivial (fun hH=> ?_)⟩;clear hK K;refine nm 72 ?_;refine pu 10 73 ?_;have HB7:=η (hp_keep HB1.out X7.out);have B7:=η (below_step B1.out X7.out);refine la 11 (fun K hK=> ?_);obtain⟨q0,q1,q2,q3,q4,qf⟩:=heap5 HB7.out;generalize hgx:s.extract 0 _=ex at*;refine PrintLast.skip_ (w1:=((((w6.setCell ⟨w.heap.size,0,none⟩ (.string ex)).setCell ⟨w.heap.size,1,none⟩ (.int .i64 0)).setCell ⟨w.heap.size,2,none⟩ (.int .u8 109)).setCell ⟨w.heap.size,3,none⟩ (.int .i64 (rank0 ex.toList+1))).setCell ⟨w.heap.size,4,none⟩ (.int .i64 (sideOf [c]))) (by rfl) (by rfl) (by go_simp) ?_;refine hK.out _ _ ?_;clear hK K;refine PrintLast.done_ (by kernel_rfl) ?_;go_wp2_with fail
    refine ret42 rfl rfl HB7.out (fun W s2=>⟨by rw[hgx],?_⟩);exact B7.out.trans (s2.below (fun k hk=>by omega) B7.out.size)
theorem dtoken_call (s:Bs) (c:UInt8) (r:List UInt8) (hx:s.toList=c::r) (hs:s.size<1000000000) (w:World):Calls Tryz.prog 26 #[.string s] w (DKP (tokOf c r 0) w):=by
 cases hd:digU c with
 |true=>exact dtok_digit s c r hx hs w hd
 |false=>
  cases hl:letU c with
  |true=>exact dtok_letter s c r hx hs w hd hl
  |false=>exact dtok_mark s c r hx hs w hd hl
theorem under114:Tryz.prog.underlying 114=some (.array 6 9):=by kernel_rfl
theorem run_index_twos (cs:Array Value) (i:Nat) (x:Value) (hi:i<6) (h:cs[i]? =some x) (w:World):Sem.run Tryz.prog (Instr.index 114 (.agg cs) (.int .i64 (i:Int))) w= .ok x w:=by
 show(Instr.index 114 (.agg cs) (.int .i64 (i:Int))).run Tryz.prog w=_;have hn:(0≤(i:Int)∧(i:Int)<6):=by omega
 simp[Instr.index,run_underlying under114,asIntOf,hn,hi,h,go_sem]
theorem prefix_two (l:List UInt8) (a b:UInt8):Lib.hasPrefix l [a,b]=decide (l.take 2=[a,b]):=by
 have:=Lib.hasPrefix_of_take l [a,b];rw[← this];simp only[List.length_cons,List.length_nil,Nat.zero_add,Nat.reduceAdd];by_cases h:l.take 2=[a,b]
 · have h2:2≤l.length:=by have:=congrArg List.length h;simp at this;omega
   rw[h,decide_eq_true h2];simp
 · rw[decide_eq_false h];simp[h]
theorem indexByte_mem (l:List UInt8) (c:UInt8):0≤Lib.indexByte l c↔c∈l:=by
 induction l with
 |nil=>simp[Lib.indexByte]
 |cons b l ih=>
  rw[Lib.indexByte];have hge:=Lib.indexByte_ge l c;by_cases e:b=c
  · simp[e]
  · have e2:¬c=b:=fun q=>e q.symm
    rw[if_neg (by simpa using e)];simp only[List.mem_cons,e2,false_or];rw[← ih];by_cases q:Lib.indexByte l c= -1
    · simp[q]
    · rw[if_neg (by simpa using q)];omega
theorem first_mark (s:Bs) (c:UInt8) (r:List UInt8) (hx:s.toList=c::r) (hs:s.size<1000000000) (w:World) (hd:digU c=false) (hl:letU c=false):Calls Tryz.prog 39 #[.string s] w (FsPost (tokT c r) w):=by
 have hlen:=toList_len s;have hs0:(0:Int)<(s.size:Int):=by rw[← hlen,hx,List.length_cons];omega
 have hs1:(1:Int)≤(s.size:Int):=by omega
 have hb0:∀h:0<s.size,((s[0]'h).toNat:Int)=((c.toNat:Nat):Int):=fun h=>by
  have:=bt_int s 0 (by rw[hx,List.length_cons];omega) h;simp only[hx,List.getElem_cons_zero]at this;exact this
 have hT:tokT c r=if s.toList.take 2∈twosL then(s.toList.take 2,109)else if c∈onesL then([c],109)else([c],63):=by rw[hx];simp[tokT,hd,hl]
 have hk:kd 109=4:=by decide
 have hk2:kd 63=0:=by decide
 have T0:=η ((Turn.refl (fun _=>False) w).alloc box59);have HB:=η (alloc_new w box59);have hone:B [c]=s.extract 0 1:=by rw[ext_B,hx];rfl
 have hyes:∀m:List UInt8,s.toList.take 2=m→m∈twosL→Hid (∀W:World,Turn (fun _=>False) w W→FsPost (tokT c r) w (.returned (.agg #[.int .i64 4,.string (B m),.int .i64 0])) W):=fun m h hm=>η fun W T=>by
  refine⟨?_,T⟩;rw[hT,if_pos (by rw[h];exact hm)];dsimp only;rw[h,hk]
 generalize hbo:decide (c∈onesL)=bo
 have hno:s.toList.take 2 ∉ twosL→Hid (∀W:World,Turn (fun _=>False) w W→FsPost (tokT c r) w (.returned (.agg #[.int .i64 (if bo=true then 4 else 0),.string (s.extract 0 1),.int .i64 0])) W):=fun h=>η fun W T=>by
  refine⟨?_,T⟩;rw[hT,if_neg h];cases bo with
  |true=>rw[if_pos (of_decide_eq_true hbo)];dsimp only;rw[hone,hk];rfl
  |false=>rw[if_neg (of_decide_eq_false hbo)];dsimp only;rw[hone,hk2];rfl
 have hix:∃z:Int,Lib.indexByte (⟨#[59,44,61,91,93,40,41,123,125,60,62,43,45,42,47,37,33]⟩:Bs).data.toList ((c.toNat:Nat):Int).toNat.toUInt8=z∧(bo=true→0≤z)∧(bo=false→z<0):=by
  refine⟨_,rfl,?_⟩;have e:((c.toNat:Nat):Int).toNat.toUInt8=c:=by rw[Int.toNat_natCast];exact UInt8.ofNat_toNat
  rw[e];have:=indexByte_mem onesL c;refine⟨fun h=> ?_,fun h=> ?_⟩
  · rw[h]at hbo;exact this.mpr (of_decide_eq_true hbo)
  · rw[h]at hbo
    have h2:=of_decide_eq_false hbo;exact Int.not_le.mp (fun q=>h2 (this.mp q))
 obtain⟨z,hz,hz1,hz2⟩:=hix;replace hz:=η hz
 have hout:s.toList.take 2 ∉ twosL↔(s.toList.take 2≠[124,124]∧s.toList.take 2≠[38,38]∧s.toList.take 2≠[61,61]∧s.toList.take 2≠[33,61]∧s.toList.take 2≠[60,61]∧s.toList.take 2≠[62,61]):=by
  simp only[twosL,List.mem_cons,List.not_mem_nil,or_false,not_or]
 have hpre:∀a b:UInt8,Lib.hasPrefix s.data.toList [a,b]=decide (s.toList.take 2=[a,b]):=fun a b=>by rw[← Lib.toList_data];exact prefix_two _ a b
 generalize s.toList.take 2=two at*;generalize hR:FsPost (tokT c r) w=R;simp only[hR]at hyes hno;clear hR hx hlen hT hk hk2 hone hbo;go_enter Tryz.func39,Tryz.ntmps39;go_upto_region 13 with(first|(go_at_call 76;refine(pdigit_call c _).mono ?_;rintro e w' ⟨rfl,rfl⟩;rw[hd])|(go_at_call 77;refine(pletter_call c _).mono ?_;rintro e w' ⟨rfl,rfl⟩;rw[hl]))
 clear hd hl;generalize w.alloc (.cells #[.int .i64 0,.string ⟨#[]⟩,.int .i64 0] 59)=W0 at*;go_loopg [61] 6 (fun kq v W=>∃i:Nat,v= .int .i64 (i:Int)∧i+kq=6∧W=W0∧∀j,j<i→two≠twosL.getD j [])
 case atStart=>exact⟨0,rfl,rfl,rfl,fun j hj=>absurd hj (Nat.not_lt_zero j)⟩
 case round=>
  obtain⟨i,rfl,hkq,hwr,hj⟩:=hrel;subst hwr;obtain⟨b0,b1,b2,bf⟩:=heap3 HB.out;have hi:i≤6:=by omega
  rcases(show i=0∨i=1∨i=2∨i=3∨i=4∨i=5∨i=6 by omega)with rfl|rfl|rfl|rfl|rfl|rfl|rfl
  · clear hi
    have hx:∀w,Sem.run Tryz.prog (Instr.index 114 (.agg #[.string ⟨#[124,124]⟩,.string ⟨#[38,38]⟩,.string ⟨#[61,61]⟩,.string ⟨#[33,61]⟩,.string ⟨#[60,61]⟩,.string ⟨#[62,61]⟩]) (.int .i64 0)) w= .ok (.string ⟨#[124,124]⟩) w:=run_index_twos _ 0 _ (by omega) (by rfl);by_cases q:two=[124,124]
    · have hp:=(hpre 124 124).trans (decide_eq_true q)
      have hF:=hyes _ q (by decide);clear hyes hno hout hpre hj q hz1 hz2 hb0 hs0 hs1;replace hp:=η hp;go_wp2_with(first|(go_at_call 71;refine(Tryz.strings_HasPrefix _ _ _).mono ?_;rintro e w' ⟨rfl,rfl⟩;rw[hp.out]))
      refine ret59 2 rfl rfl HB.out (fun W _ s2=>hF.out W (T0.out.then s2 (fun i hi=> .inr (by omega))))
    · have hp:=(hpre 124 124).trans (decide_eq_false q)
      replace hp:=η hp;replace hj:=η hj;replace q:=η q;clear hyes hno hout hpre hz1 hz2 hb0 hs0 hs1;go_wp2_with(first|(go_at_call 71;refine(Tryz.strings_HasPrefix _ _ _).mono ?_;rintro e w' ⟨rfl,rfl⟩;rw[hp.out]))
      go_roundg 5
      case measure=>omega
      case rel=>exact⟨1,rfl,by omega,rfl,fun j h=>(Nat.lt_succ_iff_lt_or_eq.mp h).elim (hj.out j) (fun h=>by rw[h];exact q.out)⟩
  · clear hi
    have hx:∀w,Sem.run Tryz.prog (Instr.index 114 (.agg #[.string ⟨#[124,124]⟩,.string ⟨#[38,38]⟩,.string ⟨#[61,61]⟩,.string ⟨#[33,61]⟩,.string ⟨#[60,61]⟩,.string ⟨#[62,61]⟩]) (.int .i64 1)) w= .ok (.string ⟨#[38,38]⟩) w:=run_index_twos _ 1 _ (by omega) (by rfl);by_cases q:two=[38,38]
    · have hp:=(hpre 38 38).trans (decide_eq_true q)
      have hF:=hyes _ q (by decide);clear hyes hno hout hpre hj q hz1 hz2 hb0 hs0 hs1;replace hp:=η hp;go_wp2_with(first|(go_at_call 71;refine(Tryz.strings_HasPrefix _ _ _).mono ?_;rintro e w' ⟨rfl,rfl⟩;rw[hp.out]))
      refine ret59 2 rfl rfl HB.out (fun W _ s2=>hF.out W (T0.out.then s2 (fun i hi=> .inr (by omega))))
    · have hp:=(hpre 38 38).trans (decide_eq_false q)
      replace hp:=η hp;replace hj:=η hj;replace q:=η q;clear hyes hno hout hpre hz1 hz2 hb0 hs0 hs1;go_wp2_with(first|(go_at_call 71;refine(Tryz.strings_HasPrefix _ _ _).mono ?_;rintro e w' ⟨rfl,rfl⟩;rw[hp.out]))
      go_roundg 4
      case measure=>omega
      case rel=>exact⟨2,rfl,by omega,rfl,fun j h=>(Nat.lt_succ_iff_lt_or_eq.mp h).elim (hj.out j) (fun h=>by rw[h];exact q.out)⟩
  · clear hi
    have hx:∀w,Sem.run Tryz.prog (Instr.index 114 (.agg #[.string ⟨#[124,124]⟩,.string ⟨#[38,38]⟩,.string ⟨#[61,61]⟩,.string ⟨#[33,61]⟩,.string ⟨#[60,61]⟩,.string ⟨#[62,61]⟩]) (.int .i64 2)) w= .ok (.string ⟨#[61,61]⟩) w:=run_index_twos _ 2 _ (by omega) (by rfl);by_cases q:two=[61,61]
    · have hp:=(hpre 61 61).trans (decide_eq_true q)
      have hF:=hyes _ q (by decide);clear hyes hno hout hpre hj q hz1 hz2 hb0 hs0 hs1;replace hp:=η hp;go_wp2_with(first|(go_at_call 71;refine(Tryz.strings_HasPrefix _ _ _).mono ?_;rintro e w' ⟨rfl,rfl⟩;rw[hp.out]))
      refine ret59 2 rfl rfl HB.out (fun W _ s2=>hF.out W (T0.out.then s2 (fun i hi=> .inr (by omega))))
    · have hp:=(hpre 61 61).trans (decide_eq_false q)
      replace hp:=η hp;replace hj:=η hj;replace q:=η q;clear hyes hno hout hpre hz1 hz2 hb0 hs0 hs1;go_wp2_with(first|(go_at_call 71;refine(Tryz.strings_HasPrefix _ _ _).mono ?_;rintro e w' ⟨rfl,rfl⟩;rw[hp.out]))
      go_roundg 3
      case measure=>omega
      case rel=>exact⟨3,rfl,by omega,rfl,fun j h=>(Nat.lt_succ_iff_lt_or_eq.mp h).elim (hj.out j) (fun h=>by rw[h];exact q.out)⟩
  · clear hi
    have hx:∀w,Sem.run Tryz.prog (Instr.index 114 (.agg #[.string ⟨#[124,124]⟩,.string ⟨#[38,38]⟩,.string ⟨#[61,61]⟩,.string ⟨#[33,61]⟩,.string ⟨#[60,61]⟩,.string ⟨#[62,61]⟩]) (.int .i64 3)) w= .ok (.string ⟨#[33,61]⟩) w:=run_index_twos _ 3 _ (by omega) (by rfl);by_cases q:two=[33,61]
    · have hp:=(hpre 33 61).trans (decide_eq_true q)
      have hF:=hyes _ q (by decide);clear hyes hno hout hpre hj q hz1 hz2 hb0 hs0 hs1;replace hp:=η hp;go_wp2_with(first|(go_at_call 71;refine(Tryz.strings_HasPrefix _ _ _).mono ?_;rintro e w' ⟨rfl,rfl⟩;rw[hp.out]))
      refine ret59 2 rfl rfl HB.out (fun W _ s2=>hF.out W (T0.out.then s2 (fun i hi=> .inr (by omega))))
    · have hp:=(hpre 33 61).trans (decide_eq_false q)
      replace hp:=η hp;replace hj:=η hj;replace q:=η q;clear hyes hno hout hpre hz1 hz2 hb0 hs0 hs1;go_wp2_with(first|(go_at_call 71;refine(Tryz.strings_HasPrefix _ _ _).mono ?_;rintro e w' ⟨rfl,rfl⟩;rw[hp.out]))
      go_roundg 2
      case measure=>omega
      case rel=>exact⟨4,rfl,by omega,rfl,fun j h=>(Nat.lt_succ_iff_lt_or_eq.mp h).elim (hj.out j) (fun h=>by rw[h];exact q.out)⟩
  · clear hi
    have hx:∀w,Sem.run Tryz.prog (Instr.index 114 (.agg #[.string ⟨#[124,124]⟩,.string ⟨#[38,38]⟩,.string ⟨#[61,61]⟩,.string ⟨#[33,61]⟩,.string ⟨#[60,61]⟩,.string ⟨#[62,61]⟩]) (.int .i64 4)) w= .ok (.string ⟨#[60,61]⟩) w:=run_index_twos _ 4 _ (by omega) (by rfl);by_cases q:two=[60,61]
    · have hp:=(hpre 60 61).trans (decide_eq_true q)
      have hF:=hyes _ q (by decide);clear hyes hno hout hpre hj q hz1 hz2 hb0 hs0 hs1;replace hp:=η hp;go_wp2_with(first|(go_at_call 71;refine(Tryz.strings_HasPrefix _ _ _).mono ?_;rintro e w' ⟨rfl,rfl⟩;rw[hp.out]))
      refine ret59 2 rfl rfl HB.out (fun W _ s2=>hF.out W (T0.out.then s2 (fun i hi=> .inr (by omega))))
    · have hp:=(hpre 60 61).trans (decide_eq_false q)
      replace hp:=η hp;replace hj:=η hj;replace q:=η q;clear hyes hno hout hpre hz1 hz2 hb0 hs0 hs1;go_wp2_with(first|(go_at_call 71;refine(Tryz.strings_HasPrefix _ _ _).mono ?_;rintro e w' ⟨rfl,rfl⟩;rw[hp.out]))
      go_roundg 1
      case measure=>omega
      case rel=>exact⟨5,rfl,by omega,rfl,fun j h=>(Nat.lt_succ_iff_lt_or_eq.mp h).elim (hj.out j) (fun h=>by rw[h];exact q.out)⟩
  · clear hi
    have hx:∀w,Sem.run Tryz.prog (Instr.index 114 (.agg #[.string ⟨#[124,124]⟩,.string ⟨#[38,38]⟩,.string ⟨#[61,61]⟩,.string ⟨#[33,61]⟩,.string ⟨#[60,61]⟩,.string ⟨#[62,61]⟩]) (.int .i64 5)) w= .ok (.string ⟨#[62,61]⟩) w:=run_index_twos _ 5 _ (by omega) (by rfl);by_cases q:two=[62,61]
    · have hp:=(hpre 62 61).trans (decide_eq_true q)
      have hF:=hyes _ q (by decide);clear hyes hno hout hpre hj q hz1 hz2 hb0 hs0 hs1;replace hp:=η hp;go_wp2_with(first|(go_at_call 71;refine(Tryz.strings_HasPrefix _ _ _).mono ?_;rintro e w' ⟨rfl,rfl⟩;rw[hp.out]))
      refine ret59 2 rfl rfl HB.out (fun W _ s2=>hF.out W (T0.out.then s2 (fun i hi=> .inr (by omega))))
    · have hp:=(hpre 62 61).trans (decide_eq_false q)
      replace hp:=η hp;replace hj:=η hj;replace q:=η q;clear hyes hno hout hpre hz1 hz2 hb0 hs0 hs1;go_wp2_with(first|(go_at_call 71;refine(Tryz.strings_HasPrefix _ _ _).mono ?_;rintro e w' ⟨rfl,rfl⟩;rw[hp.out]))
      go_roundg 0
      case measure=>omega
      case rel=>exact⟨6,rfl,by omega,rfl,fun j h=>(Nat.lt_succ_iff_lt_or_eq.mp h).elim (hj.out j) (fun h=>by rw[h];exact q.out)⟩
  · have hF:=hno (hout.mpr ⟨hj 0 (by omega),hj 1 (by omega),hj 2 (by omega),hj 3 (by omega),hj 4 (by omega),hj 5 (by omega)⟩)
    clear hyes hno hout hpre hj hi hkq;cases bo with
    |true=>
     have hz1:=hz1 rfl;clear hz2;go_wp2_with(first|(go_at_call 72;refine(Tryz.strings_IndexByte _ _ _).mono ?_;rintro e w' ⟨rfl,rfl⟩;rw[hz.out]))
     refine ret59 2 rfl rfl HB.out (fun W _ s2=>hF.out W (T0.out.then s2 (fun i hi=> .inr (by omega))))
    |false=>
     have hz2:=hz2 rfl;clear hz1;go_wp2_with(first|(go_at_call 72;refine(Tryz.strings_IndexByte _ _ _).mono ?_;rintro e w' ⟨rfl,rfl⟩;rw[hz.out]))
     refine ret59 2 rfl rfl HB.out (fun W _ s2=>hF.out W (T0.out.then s2 (fun i hi=> .inr (by omega))))
theorem first_call (s:Bs) (c:UInt8) (r:List UInt8) (hx:s.toList=c::r) (hs:s.size<1000000000) (w:World) (hw:WordsAt w):Calls Tryz.prog 39 #[.string s] w (FsPost (tokT c r) w):=by
 cases hd:digU c with
 |true=>exact first_digit s c r hx hs w hd
 |false=>
  cases hl:letU c with
  |true=>exact first_letter s c r hx hs w hw hd hl
  |false=>exact first_mark s c r hx hs w hd hl
theorem let_dig {c:UInt8} (h:letU c=true):digU c=false:=by
 unfold letU at h;unfold digU;rw[decide_eq_true_eq]at h;rw[decide_eq_false_iff_not];omega
theorem dname_call {s:Bs} (h:NameS s) (w:World):Calls Tryz.prog 32 #[.string s] w fun e w'=>e= .returned (.bool true)∧Below w.heap.size w w':=by
 have hlen:=toList_len s;have e0:(s.toList==[])=false:=beq_eq_false_iff_ne.mpr h.ne
 obtain⟨c,r,hx⟩:∃c r,s.toList=c::r:=by
  cases hc:s.toList with
  |nil=>exact absurd hc h.ne
  |cons c r=>exact⟨c,r,rfl⟩
 have hd:digU c=false:=by simpa using(show ¬digU c=true by rw[let_dig (h.hd c r hx)];decide)
 have hw:decide (s.toList∈wordsL)=false:=decide_eq_false h.nw;have hp:0<s.size:=by rw[← hlen,hx];simp
 have b0:=bt_i s 0 (by omega);rw[List.getElem_of_eq hx (by omega)]at b0;simp only[List.getElem_cons_zero]at b0;have c0:(0:Int)<(s.size:Int):=by omega
 have hal:=η h.al;have hsz:=h.sz;clear h hx;go_enter Tryz.func32,Tryz.ntmps32;go_upto_region 4 with(first|(go_at_call 53;refine(ddig c _).mono ?_;rintro e w1 ⟨rfl,H1⟩;have X1:=η H1;clear H1;rw[hd])|(go_at_call 55;refine(dword s _).mono ?_;rintro e w2 ⟨rfl,H2⟩;have X2:=η (below_step X1.out H2);clear H2;rw[hw]))
 clear b0 e0 hd hw;go_loopg [3] (s.size+1) (fun kq v3 W=>∃i:Nat,v3= .int .i64 (i:Int)∧i≤s.size∧s.size<kq+i∧Below w.heap.size w W)
 case atStart=>exact⟨0,rfl,by omega,by omega,X2.out⟩
 case round=>
  obtain⟨i,rfl,h1,h2,hwr⟩:=hrel;replace hwr:=η hwr;clear X1 X2;by_cases hlt:i<s.size
  · have c1:(i:Int)<(s.size:Int):=by omega
    have hb:=bt_i s i (by omega);have hu:=hal.out _ (List.getElem_mem (show i<s.toList.length by omega));generalize s.toList[i]=d at*;unfold inU at hu;clear hlen;cases hl:letU d with
    |true=>
     go_wp2_with(first|(go_at_call 54;refine(dlet d _).mono ?_;rintro e w2 ⟨rfl,H2⟩;have X2:=η (below_step hwr.out H2);clear H2;rw[hl]))
     go_roundg (s.size-i)
     case measure=>omega
     case rel=>exact⟨i+1,by simp,by omega,by omega,X2.out⟩
    |false=>
     have hd:digU d=true:=by rw[hl]at hu;simpa using hu
     clear hu;go_wp2_with(first|(go_at_call 54;refine(dlet d _).mono ?_;rintro e w2 ⟨rfl,H2⟩;have X2:=η (below_step hwr.out H2);clear H2;rw[hl])|(go_at_call 53;refine(ddig d _).mono ?_;rintro e w3 ⟨rfl,H3⟩;have X3:=η (below_step X2.out H3);clear H3;rw[hd]))
     go_roundg (s.size-i)
     case measure=>omega
     case rel=>exact⟨i+1,by simp,by omega,by omega,X3.out⟩
  · have c1:¬(i:Int)<(s.size:Int):=by omega
    go_wp2;go_ret;exact⟨rfl,hwr.out⟩
theorem isName_call (s:Bs) (h:NameS s) (w:World) (hw:WordsAt w):Calls Tryz.prog 48 #[.string s] w fun e w'=>e= .returned (.bool true)∧w'=w:=by
 have hlen:=toList_len s
 obtain⟨c,r,hx⟩:∃c r,s.toList=c::r:=by
  cases hc:s.toList with
  |nil=>exact absurd hc h.ne
  |cons c r=>exact⟨c,r,rfl⟩
 have hl:=h.hd c r hx;have hs:=h.sz;have hal:=η h.al;have hnw:decide (s.toList∈wordsL)=false:=decide_eq_false h.nw;have hne:(s.toList==([]:List UInt8))=false:=by rw[hx];rfl
 have hs0:(0:Int)<(s.size:Int):=by rw[← hlen,hx,List.length_cons];omega
 have hb0:∀h:0<s.size,((s[0]'h).toNat:Int)=((c.toNat:Nat):Int):=fun h=>by
  have:=bt_int s 0 (by rw[hx,List.length_cons];omega) h;simp only[hx,List.getElem_cons_zero]at this;exact this
 replace hw:=η hw;replace hnw:=η hnw;clear h hx;go_enter Tryz.func48,Tryz.ntmps48;go_upto_region 3 with(first|(go_at_call 77;refine(pletter_call c _).mono ?_;rintro e w' ⟨rfl,rfl⟩;rw[hl]))
 clear hb0 hs0 hl hne;go_upto_region 4 with fail
 go_loopg [3,14] (s.size+1) (fun kq v3 v14 W=>∃i:Nat,v14= .int .i64 (i:Int)∧i≤s.size∧s.size<kq+i∧W=w')
 case atStart=>exact⟨0,rfl,by omega,by omega,rfl⟩
 case round=>
  obtain⟨i,rfl,h1,h2,hwr⟩:=hrel;subst hwr;by_cases hlt:i<s.size
  · have hlt2:i<s.toList.length:=by omega
    have c1:(i:Int)<(s.size:Int):=by omega
    have hb:=bt_int s i hlt2;have hd:=hal.out _ (List.getElem_mem hlt2);generalize s.toList[i]=d at*;replace hal:=η hal.out;clear hlen hlt hlt2;cases hl:letU d with
    |true=>
     clear hd;go_wp2_with(first|(go_at_call 77;refine(pletter_call d _).mono ?_;rintro e w' ⟨rfl,rfl⟩;rw[hl]))
     go_roundg (s.size-i)
     case measure=>omega
     case rel=>exact⟨i+1,by simp,by omega,by omega,rfl⟩
    |false=>
     have hd2:digU d=true:=by rw[inU,hl,Bool.false_or]at hd;exact hd
     clear hd;go_wp2_with(first|(go_at_call 77;refine(pletter_call d _).mono ?_;rintro e w' ⟨rfl,rfl⟩;rw[hl])|(go_at_call 76;refine(pdigit_call d _).mono ?_;rintro e w' ⟨rfl,rfl⟩;rw[hd2]))
     go_roundg (s.size-i)
     case measure=>omega
     case rel=>exact⟨i+1,by simp,by omega,by omega,rfl⟩
  · have c1:¬(i:Int)<(s.size:Int):=by omega
    clear hlen h1 h2 hlt hal hs;go_wp2_with(first|(go_at_call 78;refine(isWord_call _ _ hw.out).mono ?_;rintro e w' ⟨rfl,rfl⟩;rw[hnw.out]))
    go_ret;exact⟨rfl,rfl⟩
def Nmd (s:Bs) (must:Bool):Prop:=if must=true then NameS s else s=e0
theorem named_call (s:Bs) (must:Bool) (h:Nmd s must) (w:World) (hw:WordsAt w):Calls Tryz.prog 97 #[.string s,.bool must] w fun e w'=>e= .returned (.bool true)∧w'=w:=by
 cases must with
 |true=>
  have C:=η (isName_call s h w hw);clear h hw;go_enter Tryz.func97,Tryz.ntmps97;go_wp2_with(first|(go_at_call 48;refine C.out.mono ?_;rintro e w' ⟨rfl,rfl⟩))
  go_ret;exact⟨rfl,rfl⟩
 |false=>
  have he:s.toList=([]:List UInt8):=by
   rw[show s=e0 from h];unfold e0;rw[Lib.toList_data]
  clear hw h;go_enter Tryz.func97,Tryz.ntmps97;go_wp2;go_ret;exact⟨rfl,rfl⟩
end Go.Proofs.YtbemddpmohoooaaGreatDoor
