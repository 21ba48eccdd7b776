import Derived.Test.YtbemddpmohoooaaGreatDoorQ10
import Derived.Deep.LoopGhost
set_option linter.unusedVariables false
set_option linter.unusedSimpArgs false
set_option linter.unusedSectionVars false
set_option maxHeartbeats 128000000
set_option maxRecDepth 100000
namespace Go.Proofs.YtbemddpmohoooaaGreatDoor
open PShelfFormats RowKit
theorem Rd.cells {w:World} {n g:Nat} {l:List S42} (h:Rd w n g l):∃b o m c,b<n∧b≠g∧m+1≤c∧m≤1000000∧w.cell? ⟨g,0,none⟩=some (.slice (some ⟨b,o,none⟩) (m+1) c)∧(∀i,w.frozen? ⟨g,i,none⟩=false)∧
 w.cell? ⟨b,o,none⟩=some (.int .i64 (kd (hd l).f2))∧w.cell? ⟨b,o+1,none⟩=some (.string (hd l).f0)∧w.cell? ⟨b,o+2,none⟩=some (.int .i64 (hd l).f1)∧
 (Taken (hd l)→1<c∧∀W:World,(∀k,k<n→W.heap[k]? =w.heap[k]?)→Rd (W.setCell ⟨g,0,none⟩ (.slice (some ⟨b,o+3,none⟩) m (c-1))) n g l.tail):=by
 obtain⟨b,o,m,c,h1,h2,h3,h4,h5,h6,h7⟩:=h.head;exact⟨b,o,m,c,h1,h2,h4,h5,by simp[World.cell?,h3],fun i=>by simp[World.frozen?,h3],h6.1,h6.2.1,h6.2.2,h7⟩
theorem is_call {w:World} {n g:Nat} {l:List S42} (h:Rd w n g l) (m:Bs):Calls Tryz.prog 40 #[.pointer (some ⟨g,0,none⟩),.string m] w fun e w'=>e= .returned (.bool (decide (isM (hd l) m.toList)))∧w=w':=by
 obtain⟨b,o,q,c,h1,h2,h3,h4,c0,f0,t0,t1,t2,_⟩:=h.cells;have h5:0<q+1:=by omega
 by_cases k4:(hd l).f2=109
 · have k5:(kd (hd l).f2==4)=true:=by rw[beq_iff_eq];exact kd_eq.1.2 k4
   by_cases k6:(hd l).f0.toList=m.toList
   · have k7:((hd l).f0.toList==m.toList)=true:=by rw[beq_iff_eq];exact k6
     rw[decide_eq_true (show isM (hd l) m.toList from⟨k4,k6⟩)];clear k4 k6 h;generalize kd (hd l).f2=kk at*;go_enter Tryz.func40,Tryz.ntmps40;go_wp2;go_ret;exact⟨rfl,rfl⟩
   · have k7:((hd l).f0.toList==m.toList)=false:=by rw[beq_eq_false_iff_ne];exact k6
     rw[decide_eq_false (show ¬isM (hd l) m.toList from fun q=>k6 q.2)];clear k4 k6 h;generalize kd (hd l).f2=kk at*;go_enter Tryz.func40,Tryz.ntmps40;go_wp2;go_ret;exact⟨rfl,rfl⟩
 · have k5:(kd (hd l).f2==4)=false:=by rw[beq_eq_false_iff_ne];exact fun q=>k4 (kd_eq.1.1 q)
   rw[decide_eq_false (show ¬isM (hd l) m.toList from fun q=>k4 q.1)];clear k4 h;generalize kd (hd l).f2=kk at*;go_enter Tryz.func40,Tryz.ntmps40;go_wp2;go_ret;exact⟨rfl,rfl⟩
abbrev pv (line err:Int):List PanicEntry:=[{v:= .iface 49 (.agg #[.int .i64 line,.int .i64 err]),recovered:=false}]
theorem fail_call {w:World} {n g:Nat} {l:List S42} (h:Rd w n g l) (e:Int):Calls Tryz.prog 41 #[.pointer (some ⟨g,0,none⟩),.int .i64 e] w fun e' w'=>e'= .panicked (pv (hd l).f1 e)∧w=w':=by
 obtain⟨b,o,q,c,h1,h2,h3,h4,c0,f0,t0,t1,t2,_⟩:=h.cells;have h5:0<q+1:=by omega
 clear h;go_enter Tryz.func41,Tryz.ntmps41;go_wp2;exact⟨rfl,rfl,rfl⟩
theorem same_below {w W:World} {n:Nat} (h:W=w):∀k,k<n→W.heap[k]? =w.heap[k]? :=fun _ _=>by rw[h]
theorem same_alloc (w:World) (n:Nat) (hn:n≤w.heap.size) (o:Obj):∀k,k<n→(w.alloc o).heap[k]? =w.heap[k]? :=fun k hk=>by
 show(w.heap.push o)[k]? =_;rw[Array.getElem?_push,if_neg (by omega)]
theorem turn_g {w:World} (g:Nat) (v:Value):Turn (fun k=>k=g) w (w.setCell ⟨g,0,none⟩ v):=(Turn.refl _ _).setCell _ _ (.inl rfl)
def GotPost (w:World) (n g:Nat) (l:List S42) (e:Ending) (w':World):Prop:=e= .returned (.bool true)∧Rd w' n g l.tail∧Turn (fun k=>k=g) w w'
theorem got_no {w:World} {n g:Nat} {l:List S42} (h:Rd w n g l) (m:Bs) (hm:¬isM (hd l) m.toList):Calls Tryz.prog 18 #[.pointer (some ⟨g,0,none⟩),.string m] w fun e w'=>e= .returned (.bool false)∧w=w':=by
 have hc:=is_call h m;rw[decide_eq_false hm]at hc;have HC:=η hc;clear hc h;go_enter Tryz.func18,Tryz.ntmps18;go_wp2_with fail
 refine HC.out.mono ?_;rintro e w' ⟨rfl,rfl⟩;go_wp2_with fail
 go_ret;exact⟨rfl,rfl⟩
theorem got_yes {w:World} {n g:Nat} {l:List S42} (h:Rd w n g l) (m:Bs) (hm:isM (hd l) m.toList):Calls Tryz.prog 18 #[.pointer (some ⟨g,0,none⟩),.string m] w (GotPost w n g l):=by
 obtain⟨b,o,q,c,h1,h2,h3,h4,c0,f0,t0,t1,t2,hn⟩:=h.cells;obtain⟨hc1,hn⟩:=hn (.inl hm.1);have hcut:=cut1 b o q c hc1 h4 h3;have HN:=η hn;have hc:=is_call h m;rw[decide_eq_true hm]at hc;have HC:=η hc;clear hc h hm hn;go_enter Tryz.func18,Tryz.ntmps18;go_wp2_with fail
 refine HC.out.mono ?_;rintro e w' ⟨rfl,rfl⟩;go_wp2_with fail
 go_ret;exact⟨rfl,HN.out w (same_below rfl),turn_g g _⟩
def NamePost (w:World) (n g:Nat) (l:List S42) (e:Ending) (w':World):Prop:=e= .returned (.string (hd l).f0)∧Rd w' n g l.tail∧Turn (fun k=>k=g) w w'
theorem name_yes {w:World} {n g:Nat} {l:List S42} (h:Rd w n g l) (hn0:n≤w.heap.size) (hm:(hd l).f2=110):Calls Tryz.prog 19 #[.pointer (some ⟨g,0,none⟩)] w (NamePost w n g l):=by
 obtain⟨b,o,q,c,h1,h2,h3,h4,c0,f0,t0,t1,t2,hn⟩:=h.cells;have hgs:g<w.heap.size:=Nat.lt_of_lt_of_le h.gn hn0;obtain⟨hc1,hn⟩:=hn (.inr (.inl hm));have hcut:=cut1 b o q c hc1 h4 h3;have h5:0<q+1:=by omega
 have k5:(kd (hd l).f2 !=2)=false:=by rw[kd_eq.2.1.2 hm];rfl
 have HN:=η ((hn w (same_below rfl)).move (same_alloc _ n (by simpa using hn0) (.cells #[.int .i64 (kd (hd l).f2),.string (hd l).f0,.int .i64 (hd l).f1] 59)));clear h hm hn;generalize kd (hd l).f2=kk at*;go_enter Tryz.func19,Tryz.ntmps19;go_wp2_with fail
 go_ret;exact⟨rfl,HN.out,(turn_g g _).alloc _⟩
theorem name_no {w:World} {n g:Nat} {l:List S42} (h:Rd w n g l) (hn0:n≤w.heap.size) (hm:(hd l).f2≠110):Calls Tryz.prog 19 #[.pointer (some ⟨g,0,none⟩)] w fun e' w'=>e'= .panicked (pv (hd l).f1 230)∧Turn (fun k=>k=g) w w':=by
 obtain⟨b,o,q,c,h1,h2,h3,h4,c0,f0,t0,t1,t2,hn⟩:=h.cells;have h5:0<q+1:=by omega
 have k5:(kd (hd l).f2 !=2)=true:=by rw[bne_iff_ne];exact fun q=>hm (kd_eq.2.1.1 q)
 have HC:=η (fail_call (h.move (same_alloc w n hn0 (.cells #[.int .i64 (kd (hd l).f2),.string (hd l).f0,.int .i64 (hd l).f1] 59))) 230);have HT:=η ((Turn.refl (fun k=>k=g) w).alloc (.cells #[.int .i64 (kd (hd l).f2),.string (hd l).f0,.int .i64 (hd l).f1] 59));clear h hm hn;generalize kd (hd l).f2=kk at*;go_enter Tryz.func19,Tryz.ntmps19;go_wp2_with fail
 refine HC.out.mono ?_;rintro e w' ⟨rfl,rfl⟩;go_wp2_with fail
 exact⟨rfl,rfl,HT.out⟩
def SkipPost (w:World) (n g:Nat) (l:List S42) (e:Ending) (w':World):Prop:=e= .returned (.tuple #[])∧Rd w' n g l∧Turn (fun k=>k=g) w w'
theorem skip_yes {w:World} {n g:Nat} {l:List S42} (h:Rd w n g l) (m:Bs) (bs:Nat) (hb:w.cell? ⟨bs,0,none⟩=some (.string m)) (hm:isM (hd l) m.toList):Calls Tryz.prog 20 #[.pointer (some ⟨g,0,none⟩),.slice (some ⟨bs,0,none⟩) 1 1] w (SkipPost w n g l.tail):=by
 obtain⟨b,o,q,c,h1,h2,h3,h4,c0,f0,t0,t1,t2,hn⟩:=h.cells;obtain⟨hc1,hn⟩:=hn (.inl hm.1);have hcut:=cut1 b o q c hc1 h4 h3;have HN:=η hn;have hc:=is_call h m;rw[decide_eq_true hm]at hc;have HC:=η hc;clear hc h hm hn;go_enter Tryz.func20,Tryz.ntmps20;go_wp2_with fail
 refine wp_loop_rounds 2 ?_;rw[rounds_succ];go_wp2_with fail
 refine HC.out.mono ?_;rintro e w' ⟨rfl,rfl⟩;go_wp2_with fail
 rw[rounds_succ];go_wp2_with fail
 first|(go_end0)|refine bodyPost_ret (results_none rfl _ _ _) rfl ?_
 exact⟨rfl,HN.out w (same_below rfl),turn_g g _⟩
theorem skip_no {w:World} {n g:Nat} {l:List S42} (h:Rd w n g l) (m:Bs) (bs k:Nat) (hk:k<100) (hb:w.cell? ⟨bs,0,none⟩=some (.string m)) (hm:¬isM (hd l) m.toList):Calls Tryz.prog 20 #[.pointer (some ⟨g,0,none⟩),.slice (some ⟨bs,0,none⟩) (k+1) (k+1)] w fun e w'=>e= .panicked (pv (hd l).f1 230)∧w=w':=by
 have hc:=is_call h m;rw[decide_eq_false hm]at hc;have HC:=η hc;have HD:=η (fail_call h 230);have hk1:0<k+1:=by omega
 have hk2:(0:Int)<(k:Int)+1:=by omega
 clear hc h hm;go_enter Tryz.func20,Tryz.ntmps20;go_wp2_with fail
 refine wp_loop_rounds 1 ?_;rw[rounds_succ];go_wp2_with fail
 refine HC.out.mono ?_;rintro e w' ⟨rfl,rfl⟩;go_wp2_with fail
 refine HD.out.mono ?_;rintro e w' ⟨rfl,rfl⟩;go_wp2_with fail
 exact⟨rfl,rfl,rfl⟩
theorem skip2_no {w:World} {n g:Nat} {l:List S42} (h:Rd w n g l) (m1 m2:Bs) (bs:Nat) (hbg:bs≠g) (hb1:w.cell? ⟨bs,0,none⟩=some (.string m1)) (hb2:w.cell? ⟨bs,1,none⟩=some (.string m2)) (hm1:isM (hd l) m1.toList) (hm2:¬isM (hd l.tail) m2.toList):
 Calls Tryz.prog 20 #[.pointer (some ⟨g,0,none⟩),.slice (some ⟨bs,0,none⟩) 2 2] w fun e w'=>e= .panicked (pv (hd l.tail).f1 230)∧Turn (fun k=>k=g) w w':=by
 obtain⟨b,o,q,c,h1,h2,h3,h4,c0,f0,t0,t1,t2,hn⟩:=h.cells;obtain⟨hc1,hn⟩:=hn (.inl hm1.1);have hcut:=cut1 b o q c hc1 h4 h3;have hn:=hn w (same_below rfl);have hc:=is_call h m1;rw[decide_eq_true hm1]at hc;have HC:=η hc;have hc2:=is_call hn m2;rw[decide_eq_false hm2]at hc2;have HC2:=η hc2;have HD:=η (fail_call hn 230);have hb3:(w.setCell ⟨g,0,none⟩ (.slice (some ⟨b,o+3,none⟩) q (c-1))).cell? ⟨bs,1,none⟩=some (.string m2):=(cell_same (Below.heap_setCell w ⟨g,0,none⟩ _ bs hbg)).trans hb2;clear hc h hm1 hm2 hn hc2;go_enter Tryz.func20,Tryz.ntmps20;go_wp2_with fail
 refine wp_loop_rounds 2 ?_;rw[rounds_succ];go_wp2_with fail
 refine HC.out.mono ?_;rintro e w' ⟨rfl,rfl⟩;go_wp2_with fail
 rw[rounds_succ];go_wp2_with fail
 refine HC2.out.mono ?_;rintro e w' ⟨rfl,rfl⟩;go_wp2_with fail
 refine HD.out.mono ?_;rintro e w' ⟨rfl,rfl⟩;go_wp2_with fail
 exact⟨rfl,rfl,turn_g g _⟩
theorem skip2_yes {w:World} {n g:Nat} {l:List S42} (h:Rd w n g l) (m1 m2:Bs) (bs:Nat) (hbg:bs≠g) (hb1:w.cell? ⟨bs,0,none⟩=some (.string m1)) (hb2:w.cell? ⟨bs,1,none⟩=some (.string m2)) (hm1:isM (hd l) m1.toList) (hm2:isM (hd l.tail) m2.toList):
 Calls Tryz.prog 20 #[.pointer (some ⟨g,0,none⟩),.slice (some ⟨bs,0,none⟩) 2 2] w (SkipPost w n g l.tail.tail):=by
 obtain⟨b,o,q,c,h1,h2,h3,h4,c0,f0,t0,t1,t2,hn⟩:=h.cells;obtain⟨hc1,hn⟩:=hn (.inl hm1.1);have hcut:=cut1 b o q c hc1 h4 h3;have hn:=hn w (same_below rfl);have hc:=is_call h m1;rw[decide_eq_true hm1]at hc;have HC:=η hc;have hc2:=is_call hn m2;rw[decide_eq_true hm2]at hc2;have HC2:=η hc2;have hb3:(w.setCell ⟨g,0,none⟩ (.slice (some ⟨b,o+3,none⟩) q (c-1))).cell? ⟨bs,1,none⟩=some (.string m2):=(cell_same (Below.heap_setCell w ⟨g,0,none⟩ _ bs hbg)).trans hb2;have T1:=η (turn_g (w:=w) g (.slice (some ⟨b,o+3,none⟩) q (c-1)));clear hc h hm1 hc2 t0 t1 t2;generalize hw1:w.setCell ⟨g,0,none⟩ (.slice (some ⟨b,o+3,none⟩) q (c-1))=w1 at*;obtain⟨b',o',q',c',h1',h2',h3',h4',c0',f0',t0',t1',t2',hn'⟩:=hn.cells;obtain⟨hc1',hn'⟩:=hn' (.inl hm2.1);have hcut':=cut1 b' o' q' c' hc1' h4' h3';have HN:=η (hn' w1 (same_below rfl));have HW:=η hw1;clear hn hn' hw1 hm2;go_enter Tryz.func20,Tryz.ntmps20;go_wp2_with fail
 refine wp_loop_rounds 3 ?_;rw[rounds_succ];go_wp2_with fail
 refine HC.out.mono ?_;rintro e w' ⟨rfl,rfl⟩;go_wp2_with fail
 rw[HW.out];rw[rounds_succ];go_wp2_with fail
 refine HC2.out.mono ?_;rintro e w' ⟨rfl,rfl⟩;go_wp2_with fail
 rw[rounds_succ];go_wp2_with fail
 refine bodyPost_ret (results_none rfl _ _ _) rfl ?_;exact⟨rfl,HN.out,T1.out.setCell _ _ (.inl rfl)⟩
def StepPost {α:Type} (val:α→Value) (w:World) (n g:Nat) (o:Except (Int×Int) (α×List S42)) (e:Ending) (w':World):Prop:=
 match o with
 | .ok (x,l')=>e= .returned (val x)∧Rd w' n g l'∧Turn (fun k=>k=g) w w'
 | .error er=>e= .panicked (pv er.1 er.2)∧Turn (fun k=>k=g) w w'
theorem isM_lit {t:S42} {m:List UInt8} (h:isM t m):isM t (⟨m.toArray⟩:Bs).toList:=by rw[lit_toList];exact h
theorem notM_lit {t:S42} {m:List UInt8} (h:¬isM t m):¬isM t (⟨m.toArray⟩:Bs).toList:=by rw[lit_toList];exact h
theorem skip_tok {w:World} {n g:Nat} {l:List S42} {o:Except (Int×Int) (Unit×List S42)} (m:List UInt8) (h:ptok m l=some o) (R:Rd w n g l) (bs:Nat) (hb:w.cell? ⟨bs,0,none⟩=some (.string ⟨m.toArray⟩)):
 Calls Tryz.prog 20 #[.pointer (some ⟨g,0,none⟩),.slice (some ⟨bs,0,none⟩) 1 1] w (StepPost (fun _:Unit=> .tuple #[]) w n g o):=by
 unfold ptok at h;by_cases c:isM (hd l) m
 · rw[if_pos c]at h
   obtain rfl:=Option.some.inj h;exact skip_yes R _ bs hb (isM_lit c)
 · rw[if_neg c]at h
   obtain rfl:=Option.some.inj h;exact(skip_no R _ bs 0 (by omega) hb (notM_lit c)).mono fun e w' q=>⟨q.1,q.2▸Turn.refl _ _⟩
theorem name_tok {w:World} {n g:Nat} {l:List S42} {o:Except (Int×Int) (Bs×List S42)} (h:pname l=some o) (R:Rd w n g l) (hn:n≤w.heap.size):
 Calls Tryz.prog 19 #[.pointer (some ⟨g,0,none⟩)] w (StepPost Value.string w n g o):=by
 unfold pname at h;by_cases c:(hd l).f2=110
 · rw[if_pos c]at h
   obtain rfl:=Option.some.inj h;exact name_yes R hn c
 · rw[if_neg c]at h
   obtain rfl:=Option.some.inj h;exact name_no R hn c
theorem pbind_cases {α β:Type} {a:P α} {f:α→P β} {l:List S42} {o:Except (Int×Int) (β×List S42)} (h:pbind a f l=some o):
 (∃er,a l=some (.error er)∧o= .error er)∨∃x l1,a l=some (.ok (x,l1))∧f x l1=some o:=by
 unfold pbind at h;cases ha:a l with
 |none=>rw[ha]at h;cases h
 |some q=>
  rw[ha]at h;cases q with
  |error er=>exact .inl ⟨er,rfl,(Option.some.inj h).symm⟩
  |ok y=>exact .inr ⟨y.1,y.2,rfl,h⟩
theorem heap5 {w:World} {b t:Nat} {v0 v1 v2 v3 v4:Value} (h:w.heap[b]? =some (.cells #[v0,v1,v2,v3,v4] t (0,0))):
 w.cell? ⟨b,0,none⟩=some v0∧w.cell? ⟨b,1,none⟩=some v1∧w.cell? ⟨b,2,none⟩=some v2∧w.cell? ⟨b,3,none⟩=some v3∧w.cell? ⟨b,4,none⟩=some v4∧∀i,w.frozen? ⟨b,i,none⟩=false:=
 ⟨by simp[World.cell?,h],by simp[World.cell?,h],by simp[World.cell?,h],by simp[World.cell?,h],by simp[World.cell?,h],fun i=>by simp[World.frozen?,h]⟩
theorem eqb (x y:List UInt8):(x==y)=decide (x=y):=by by_cases h:x=y<;>simp[h]
theorem rank_call (s:Bs) (w:World):Calls Tryz.prog 80 #[.string s] w fun e w'=>e= .returned (.int .i64 (rank0 s.toList))∧w=w':=by
 unfold rank0;generalize hx:s.toList=x;by_cases a1:x=[124,124]
 · have q1:(s.toList==([124,124]:List UInt8))=true:=by rw[beq_iff_eq,hx];exact a1
   rw[if_pos a1];clear hx a1;go_enter Tryz.func80,Tryz.ntmps80;go_wp2;go_ret;exact⟨rfl,rfl⟩
 have q1:(s.toList==([124,124]:List UInt8))=false:=by rw[beq_eq_false_iff_ne,hx];exact a1
 rw[if_neg a1];clear a1;by_cases a2:x=[38,38]
 · have q2:(s.toList==([38,38]:List UInt8))=true:=by rw[beq_iff_eq,hx];exact a2
   rw[if_pos a2];clear hx a2;go_enter Tryz.func80,Tryz.ntmps80;go_wp2;go_ret;exact⟨rfl,rfl⟩
 have q2:(s.toList==([38,38]:List UInt8))=false:=by rw[beq_eq_false_iff_ne,hx];exact a2
 rw[if_neg a2];clear a2;have p3:(s.toList==([61,61]:List UInt8))=decide (x=[61,61]):=by rw[hx];exact eqb _ _
 have p4:(s.toList==([33,61]:List UInt8))=decide (x=[33,61]):=by rw[hx];exact eqb _ _
 have p5:(s.toList==([60]:List UInt8))=decide (x=[60]):=by rw[hx];exact eqb _ _
 have p6:(s.toList==([60,61]:List UInt8))=decide (x=[60,61]):=by rw[hx];exact eqb _ _
 have p7:(s.toList==([62]:List UInt8))=decide (x=[62]):=by rw[hx];exact eqb _ _
 have p8:(s.toList==([62,61]:List UInt8))=decide (x=[62,61]):=by rw[hx];exact eqb _ _
 have p9:(s.toList==([43]:List UInt8))=decide (x=[43]):=by rw[hx];exact eqb _ _
 have p10:(s.toList==([45]:List UInt8))=decide (x=[45]):=by rw[hx];exact eqb _ _
 have p11:(s.toList==([42]:List UInt8))=decide (x=[42]):=by rw[hx];exact eqb _ _
 have p12:(s.toList==([47]:List UInt8))=decide (x=[47]):=by rw[hx];exact eqb _ _
 have p13:(s.toList==([37]:List UInt8))=decide (x=[37]):=by rw[hx];exact eqb _ _
 clear hx;by_cases a3:x=[61,61]∨x=[33,61]∨x=[60]∨x=[60,61]∨x=[62]∨x=[62,61]
 · rw[if_pos a3]
   rcases a3 with rfl|rfl|rfl|rfl|rfl|rfl
   all_goals
    first|change _=true at p3|change _=false at p3
    first|change _=true at p4|change _=false at p4
    first|change _=true at p5|change _=false at p5
    first|change _=true at p6|change _=false at p6
    first|change _=true at p7|change _=false at p7
    first|change _=true at p8|change _=false at p8
    go_enter Tryz.func80,Tryz.ntmps80;go_wp2;go_ret;exact⟨rfl,rfl⟩
 rw[if_neg a3];simp only[not_or]at a3;obtain⟨b3,b4,b5,b6,b7,b8⟩:=a3;rw[decide_eq_false b3]at p3;rw[decide_eq_false b4]at p4;rw[decide_eq_false b5]at p5;rw[decide_eq_false b6]at p6;rw[decide_eq_false b7]at p7;rw[decide_eq_false b8]at p8;clear b3 b4 b5 b6 b7 b8;by_cases a4:x=[43]∨x=[45]
 · rw[if_pos a4]
   rcases a4 with rfl|rfl
   all_goals
    first|change _=true at p9|change _=false at p9
    first|change _=true at p10|change _=false at p10
    go_enter Tryz.func80,Tryz.ntmps80;go_wp2;go_ret;exact⟨rfl,rfl⟩
 rw[if_neg a4];simp only[not_or]at a4;obtain⟨b3,b4⟩:=a4;rw[decide_eq_false b3]at p9;rw[decide_eq_false b4]at p10;clear b3 b4;by_cases a5:x=[42]∨x=[47]∨x=[37]
 · rw[if_pos a5]
   rcases a5 with rfl|rfl|rfl
   all_goals
    first|change _=true at p11|change _=false at p11
    first|change _=true at p12|change _=false at p12
    first|change _=true at p13|change _=false at p13
    go_enter Tryz.func80,Tryz.ntmps80;go_wp2;go_ret;exact⟨rfl,rfl⟩
 rw[if_neg a5];simp only[not_or]at a5;obtain⟨b3,b4,b5⟩:=a5;rw[decide_eq_false b3]at p11;rw[decide_eq_false b4]at p12;rw[decide_eq_false b5]at p13;clear b3 b4 b5;go_enter Tryz.func80,Tryz.ntmps80;go_wp2;go_ret;exact⟨rfl,rfl⟩
open YtbemddpmohoooaaGreatDoorW.PrintWords
def VX (w:World) (ok:Nat→Prop) (x:S80) (A:Option Addr) (c:Nat):Prop:=x.f4.length≤c∧Kd.F k80 w ok A x.f4.length x.f4
def ExPost (w:World) (n g:Nat) (o:Except (Int×Int) (S80×List S42)) (e:Ending) (w':World):Prop:=
 match o with
 | .ok (x,l')=>∃A c,e= .returned (.agg #[.int .i64 x.f0,.int .i64 x.f1,.string x.f2,.string x.f3,.slice A x.f4.length c])∧VX w' (fun k=>w.heap.size≤k) x A c∧Rd w' n g l'∧Turn (fun k=>k=g) w w'
 | .error er=>e= .panicked (pv er.1 er.2)∧Turn (fun k=>k=g) w w'
def ExAt (k:Nat):Prop:=∀(low:Nat) (l:List S42) (o:Except (Int×Int) (S80×List S42)) (w:World) (n g:Nat),pExpr k low l=some o→low≤5→Rd w n g l→n≤w.heap.size→Calls Tryz.prog 46 #[.pointer (some ⟨g,0,none⟩),.int .i64 (low:Int)] w (ExPost w n g o)
def UnAt (k:Nat):Prop:=∀(l:List S42) (o:Except (Int×Int) (S80×List S42)) (w:World) (n g:Nat),pUn k l=some o→Rd w n g l→n≤w.heap.size→Calls Tryz.prog 79 #[.pointer (some ⟨g,0,none⟩)] w (ExPost w n g o)
def KeyAt (k:Nat):Prop:=∀(l:List S42) (o:Except (Int×Int) (S80×List S42)) (w:World) (n g:Nat),pKey k l=some o→Rd w n g l→n≤w.heap.size→Calls Tryz.prog 43 #[.pointer (some ⟨g,0,none⟩)] w (ExPost w n g o)
theorem VX.turn {w W:World} {ok:Nat→Prop} {x:S80} {A:Option Addr} {c:Nat} {F:Nat→Prop} (h:VX w ok x A c) (hT:Turn F w W) (hF:∀k,F k→¬ok k):VX W ok x A c:=
 ⟨h.1,Kd.F_step h.2 (fun k hk hlt=>hT.block k hlt (fun q=>hF k q hk))⟩
theorem VX.al {w:World} {ok:Nat→Prop} {x:S80} {A:Option Addr} {c:Nat} (h:VX w ok x A c) (o:Obj):VX (w.alloc o) ok x A c:=⟨h.1,Kd.F_alloc h.2 o⟩
theorem VX.old {w:World} {ok ok':Nat→Prop} {x:S80} {A:Option Addr} {c:Nat} (h:VX w ok x A c) (hm:∀k,ok k→k<w.heap.size→ok' k):VX w ok' x A c:=⟨h.1,Kd.F_mono (Kd.F_bound h.2) (fun k hk=>hm k hk.1 hk.2)⟩
theorem VX.mono {w:World} {ok ok':Nat→Prop} {x:S80} {A:Option Addr} {c:Nat} (h:VX w ok x A c) (hm:∀k,ok k→ok' k):VX w ok' x A c:=⟨h.1,Kd.F_mono h.2 hm⟩
def cx (x:S80) (A:Option Addr) (c:Nat):List Value:=[.int .i64 x.f0,.int .i64 x.f1,.string x.f2,.string x.f3,.slice A x.f4.length c]
theorem VX.FK {w:World} {ok:Nat→Prop} {x:S80} {A:Option Addr} {c:Nat} (h:VX w ok x A c):Kd.FK k80 w ok x (cx x A c):=k80_mkF w ok x h.1 h.2
theorem lit_F {α:Type} {d:Kd α} {w:World} {ok ok':Nat→Prop} {xs:List α} {rows:List (List Value)} {cs:Array Value} {e:Nat} (hl:rows.length=xs.length) (hm:xs.length≤1000000)
 (hr:∀(j:Nat) (x:α) (c:List Value),xs[j]? =some x→rows[j]? =some c→Kd.FK d w ok x c) (hc:∀(j:Nat) (c:List Value) (i:Nat) (u:Value),rows[j]? =some c→c[i]? =some u→cs[j*d.sz+i]? =some u) (h2:∀k,(ok k∧k<w.heap.size)∨k=w.heap.size→ok' k):
 Kd.F d (w.alloc (.cells cs e)) ok' (some ⟨w.heap.size,0,none⟩) xs.length xs:=fun W hW=>by
 have hb:=(hW w.heap.size (h2 _ (.inr rfl)) (by simp)).trans (alloc_new w _);refine⟨rfl,by omega,fun _=>⟨_,rfl,fun j p hj=> ?_⟩⟩;obtain⟨c,hjc⟩:∃c,rows[j]? =some c:=⟨_,List.getElem?_eq_getElem (by have:=(List.getElem?_eq_some_iff.1 hj).1;omega)⟩;have hK:d.K W p c:=hr j p c hj hjc W (fun k hk hlt=>(hW k (h2 k (.inl ⟨hk,hlt⟩)) (by simp;omega)).trans (same_alloc w w.heap.size (Nat.le_refl _) _ k hlt));refine⟨c,d.K_len hK,hK,fun i u hu=> ?_⟩;have hq:=hc j c i u hjc hu;rw[add_at,Nat.zero_add];simp[World.cell?,hb,hq]
theorem lit1 {w:World} {ok ok':Nat→Prop} {x:S80} {A:Option Addr} {c:Nat} (h:VX w ok x A c) (h2:∀k,(ok k∧k<w.heap.size)∨k=w.heap.size→ok' k):
 Kd.F k80 (w.alloc (.cells #[.int .i64 x.f0,.int .i64 x.f1,.string x.f2,.string x.f3,.slice A x.f4.length c] 80)) ok' (some ⟨w.heap.size,0,none⟩) 1 [x]:=by
 refine lit_F (xs:=[x]) (rows:=[cx x A c]) rfl (by simp) (fun j y c' hj hc=> ?_) (fun j c' i u hc hu=> ?_) h2
 · rcases j with _|j
   · obtain rfl:=Option.some.inj hj
     obtain rfl:=Option.some.inj hc;exact h.FK
   · simp at hj
 · rcases j with _|j
   · obtain rfl:=Option.some.inj hc
     rcases i with _|_|_|_|_|i<;>first|exact hu|(simp[cx]at hu)
   · simp at hc
theorem lit2 {w:World} {ok ok':Nat→Prop} {x y:S80} {A A':Option Addr} {c c':Nat} (h:VX w ok x A c) (h':VX w ok y A' c') (h2:∀k,(ok k∧k<w.heap.size)∨k=w.heap.size→ok' k):
 Kd.F k80 (w.alloc (.cells #[.int .i64 x.f0,.int .i64 x.f1,.string x.f2,.string x.f3,.slice A x.f4.length c,.int .i64 y.f0,.int .i64 y.f1,.string y.f2,.string y.f3,.slice A' y.f4.length c'] 80)) ok' (some ⟨w.heap.size,0,none⟩) 2 [x,y]:=by
 refine lit_F (xs:=[x,y]) (rows:=[cx x A c,cx y A' c']) rfl (by simp) (fun j z q hj hc=> ?_) (fun j q i u hc hu=> ?_) h2
 · rcases j with _|_|j
   · obtain rfl:=Option.some.inj hj
     obtain rfl:=Option.some.inj hc;exact h.FK
   · obtain rfl:=Option.some.inj hj
     obtain rfl:=Option.some.inj hc;exact h'.FK
   · simp at hj
 · rcases j with _|_|j
   · obtain rfl:=Option.some.inj hc
     rcases i with _|_|_|_|_|i<;>first|exact hu|(simp[cx]at hu)
   · obtain rfl:=Option.some.inj hc
     rcases i with _|_|_|_|_|i<;>first|exact hu|(simp[cx]at hu)
   · simp at hc
theorem turn_at {a w:World} {b:Nat} (h:Turn (fun k=>k=b) a w) (i:Nat) (v:Value):Turn (fun k=>k=b) a (w.setCell ⟨b,i,none⟩ v):=h.setCell _ _ (.inl rfl)
theorem set5 {w:World} {b t:Nat} {a0 a1 a2 a3 a4:Value} (h:w.heap[b]? =some (.cells #[a0,a1,a2,a3,a4] t (0,0))) (v0 v1 v2 v3 v4:Value):
 (((((w.setCell ⟨b,0,none⟩ v0).setCell ⟨b,1,none⟩ v1).setCell ⟨b,2,none⟩ v2).setCell ⟨b,3,none⟩ v3).setCell ⟨b,4,none⟩ v4).heap[b]? =some (.cells #[v0,v1,v2,v3,v4] t (0,0))∧
   Turn (fun k=>k=b) w (((((w.setCell ⟨b,0,none⟩ v0).setCell ⟨b,1,none⟩ v1).setCell ⟨b,2,none⟩ v2).setCell ⟨b,3,none⟩ v3).setCell ⟨b,4,none⟩ v4):=
 ⟨set_field (set_field (set_field (set_field (set_field h v0 rfl) v1 rfl) v2 rfl) v3 rfl) v4 rfl,turn_at (turn_at (turn_at (turn_at (turn_at (Turn.refl _ _) 0 v0) 1 v1) 2 v2) 3 v3) 4 v4⟩
theorem ret80 {fn:Func} {R:Ending→World→Prop} {tmps:Array Value} {w:World} {b:Nat} {a0 a1 a2 a3 a4 v0 v1 v2 v3 v4:Value} (t:Tmp) (hr:fn.results=#[.cell t 80]) (ht:tmps[t]? =some (.pointer (some ⟨b,0,none⟩)))
 (h:w.heap[b]? =some (.cells #[a0,a1,a2,a3,a4] 80 (0,0))) (hR:∀W:World,W.heap[b]? =some (.cells #[v0,v1,v2,v3,v4] 80 (0,0))→Turn (fun k=>k=b) w W→R (.returned (.agg #[v0,v1,v2,v3,v4])) W):
 bodyPost Tryz.prog fn R Exit.ret {tmps:=tmps,defers:=[]} (((((w.setCell ⟨b,0,none⟩ v0).setCell ⟨b,1,none⟩ v1).setCell ⟨b,2,none⟩ v2).setCell ⟨b,3,none⟩ v3).setCell ⟨b,4,none⟩ v4):=by
 obtain⟨s1,s2⟩:=set5 h v0 v1 v2 v3 v4;have hR:=hR _ s1 s2;generalize(((((w.setCell ⟨b,0,none⟩ v0).setCell ⟨b,1,none⟩ v1).setCell ⟨b,2,none⟩ v2).setCell ⟨b,3,none⟩ v3).setCell ⟨b,4,none⟩ v4)=W at*;obtain⟨b0,b1,b2,b3,b4,bf⟩:=heap5 s1;exact bodyPost_ret (v:= .agg #[v0,v1,v2,v3,v4]) (by simp[results,hr,ht,go_sem,b0,b1,b2,b3,b4]) rfl hR
theorem Rd.al {w:World} {n g:Nat} {l:List S42} (h:Rd w n g l) (hn:n≤w.heap.size) (o:Obj):Rd (w.alloc o) n g l:=h.move (same_alloc w n hn o)
abbrev box80:Obj:= .cells #[.int .i64 0,.int .i64 0,.string ⟨#[]⟩,.string ⟨#[]⟩,.slice none 0 0] 80
theorem key_step (k:Nat) (IH:ExAt k):KeyAt (k+1):=by
 intro l o w n g h R hn;have hg:=Nat.lt_of_lt_of_le R.gn hn;have R1:=(R.al hn box80).al (by simp;omega) (.cells #[.string ⟨#[91]⟩] 9);have T0:=η (((Turn.refl (fun k=>k=g) w).alloc box80).alloc (.cells #[.string ⟨#[91]⟩] 9));have HB:((w.alloc box80).alloc (.cells #[.string ⟨#[91]⟩] 9)).heap[w.heap.size]? =some box80:=alloc_old (alloc_new w box80) _;have HB:=η HB;rw[pKey]at h;have RR:=η R1;have H:=pbind_cases h;clear R R1 h;go_enter Tryz.func43,Tryz.ntmps43;go_wp2_with fail
 rcases H with⟨er,h1,rfl⟩|⟨_,l1,h1,h2⟩
 · refine(skip_tok [91] h1 RR.out _ (by simp)).mono ?_
   rintro e w1 ⟨rfl,T1⟩;go_wp2_with fail
   exact⟨rfl,rfl,T0.out.then T1 (fun i hi=> .inl hi)⟩
 · refine(skip_tok [91] h1 RR.out _ (by simp)).mono ?_
   rintro e w1 ⟨rfl,R2,T1⟩;have H2:=pbind_cases h2;have hs1:=T1.size;simp at hs1;have B1:=T1.heap HB.out (fun q=>by omega);clear h1 h2;go_wp2_with fail
   rcases H2 with⟨er,h1,rfl⟩|⟨x,l2,h1,h2⟩
   · refine(IH 0 l1 _ w1 n g h1 (by omega) R2 (by omega)).mono ?_
     rintro e w2 ⟨rfl,T2⟩;go_wp2_with fail
     exact⟨rfl,rfl,(T0.out.then T1 (fun i hi=> .inl hi)).then T2 (fun i hi=> .inl hi)⟩
   · refine(IH 0 l1 _ w1 n g h1 (by omega) R2 (by omega)).mono ?_
     rintro e w2 ⟨A,c,rfl,V,R3,T2⟩;go_wp2_with fail
     have hs2:=T2.size;have B2:=alloc_old (alloc_old (T2.heap B1 (fun q=>by omega)) (.cells #[.int .i64 x.f0,.int .i64 x.f1,.string x.f2,.string x.f3,.slice A x.f4.length c] 80)) (.cells #[.string ⟨#[93]⟩] 9);have C2:=alloc_old (alloc_new w2 (.cells #[.int .i64 x.f0,.int .i64 x.f1,.string x.f2,.string x.f3,.slice A x.f4.length c] 80)) (.cells #[.string ⟨#[93]⟩] 9);have R4:=(R3.al (by omega) (.cells #[.int .i64 x.f0,.int .i64 x.f1,.string x.f2,.string x.f3,.slice A x.f4.length c] 80)).al (by simp;omega) (.cells #[.string ⟨#[93]⟩] 9);have H3:=pbind_cases h2;have TT:=η ((((T0.out.then T1 (fun i hi=> .inl hi)).then T2 (fun i hi=> .inl hi)).alloc (.cells #[.int .i64 x.f0,.int .i64 x.f1,.string x.f2,.string x.f3,.slice A x.f4.length c] 80)).alloc (.cells #[.string ⟨#[93]⟩] 9));clear h1 h2;rcases H3 with⟨er,h1,rfl⟩|⟨_,l3,h1,h2⟩
     · refine(skip_tok [93] h1 R4 _ (by simp)).mono ?_
       rintro e w3 ⟨rfl,T3⟩;go_wp2_with fail
       exact⟨rfl,rfl,TT.out.then T3 (fun i hi=> .inl hi)⟩
     · refine(skip_tok [93] h1 R4 _ (by simp)).mono ?_
       rintro e w3 ⟨rfl,R5,T3⟩;obtain rfl:o= .ok (x,l3):=(Option.some.inj h2).symm;have hs3:=T3.size;simp at hs3;have B3:=η (T3.heap B2 (fun q=>by omega));obtain⟨b0,b1,b2,b3,b4,bf⟩:=heap5 B3.out;obtain⟨c0,c1,c2,c3,c4,cf⟩:=heap5 (T3.heap C2 (fun q=>by omega));clear B1 B2 C2 h1 h2 cf;go_wp2_with fail
       refine ret80 2 rfl rfl B3.out (fun W s1 s2=> ?_);have V2:=((V.al (.cells #[.int .i64 x.f0,.int .i64 x.f1,.string x.f2,.string x.f3,.slice A x.f4.length c] 80)).al (.cells #[.string ⟨#[93]⟩] 9)).turn T3 (fun k hk=>by omega);exact⟨A,c,rfl,(V2.turn s2 (fun k hk=>by omega)).mono (fun k hk=>by omega),R5.turn s2 (by omega) (fun k hk=>by omega),(TT.out.then T3 (fun i hi=> .inl hi)).then s2 (fun i hi=> .inr (by omega))⟩
end Go.Proofs.YtbemddpmohoooaaGreatDoor
