import Derived.Test.YtbemddpmohoooaaGreatDoorQ10
import Derived.Lib.ItoaNum
set_option linter.unusedVariables false
set_option linter.unusedSimpArgs false
set_option linter.unusedSectionVars false
set_option maxHeartbeats 128000000
set_option maxRecDepth 100000
namespace Go.Proofs.YtbemddpmohoooaaGreatDoor.PShelfFormats
open RowKit YtbemddpmohoooaaGreatDoorW.PrintWords YtbemddpmohoooaaGreatDoorW.PrintLast YtbemddpmohoooaaGreatDoorW.PrintMore
def larderref23_digit.f (a0:Int):Option (Bool):=if a0≥48 then(some (decide (a0≤57)))else(some false)
theorem larderref23_digit.calls (a0:Int) (r:Bool) (w:World) (h:larderref23_digit.f a0=some r):
 Calls Tryz.prog 53 #[.int .u8 a0] w fun e w'=>e= .returned (.bool r)∧Drawn0 w w':=by
 have H:(if a0≥48 then(some (decide (a0≤57)))else(some false))=some r:=h;clear h;by_cases c2:a0≥48
 · rw[if_pos c2]at H
   have c2b0:decide (48≤a0)=true:=decide_eq_true c2;clear c2;obtain rfl:=Option.some.inj H;go_enter Tryz.func53,Tryz.ntmps53;go_wp2;go_ret;exact⟨by first|rfl|(simp;done)|(simp[*];done),by repeat(first|exact Drawn0.refl _|apply Drawn0.step)⟩
 · rw[if_neg c2]at H
   have c2b0:decide (48≤a0)=false:=decide_eq_false c2;clear c2;obtain rfl:=Option.some.inj H;go_enter Tryz.func53,Tryz.ntmps53;go_wp2;go_ret;exact⟨by first|rfl|(simp;done)|(simp[*];done),by repeat(first|exact Drawn0.refl _|apply Drawn0.step)⟩
def larderref23_letter.f (a0:Int):Option (Bool):=if a0≥97 then(if a0≤122 then(some true)else(if a0≥65 then(if a0≤90 then(some true)else(some (a0==95)))else(some (a0==95))))else(if a0≥65 then(if a0≤90 then(some true)else(some (a0==95)))else(some (a0==95)))
theorem larderref23_letter.calls (a0:Int) (r:Bool) (w:World) (h:larderref23_letter.f a0=some r):
 Calls Tryz.prog 54 #[.int .u8 a0] w fun e w'=>e= .returned (.bool r)∧Drawn0 w w':=by
 have H:(if a0≥97 then(if a0≤122 then(some true)else(if a0≥65 then(if a0≤90 then(some true)else(some (a0==95)))else(some (a0==95))))else(if a0≥65 then(if a0≤90 then(some true)else(some (a0==95)))else(some (a0==95))))=some r:=h;clear h;by_cases c2:a0≥97
 · rw[if_pos c2]at H
   have c2b0:decide (97≤a0)=true:=decide_eq_true c2;clear c2;by_cases c3:a0≤122
   · rw[if_pos c3]at H
     have c3b0:decide (a0≤122)=true:=decide_eq_true c3;clear c3;obtain rfl:=Option.some.inj H;go_enter Tryz.func54,Tryz.ntmps54;go_wp2;go_ret;exact⟨by first|rfl|(simp;done)|(simp[*];done),by repeat(first|exact Drawn0.refl _|apply Drawn0.step)⟩
   · rw[if_neg c3]at H
     have c3b0:decide (a0≤122)=false:=decide_eq_false c3;clear c3;by_cases c4:a0≥65
     · rw[if_pos c4]at H
       have c4b0:decide (65≤a0)=true:=decide_eq_true c4;clear c4;by_cases c5:a0≤90
       · rw[if_pos c5]at H
         have c5b0:decide (a0≤90)=true:=decide_eq_true c5;clear c5;obtain rfl:=Option.some.inj H;go_enter Tryz.func54,Tryz.ntmps54;go_wp2;go_ret;exact⟨by first|rfl|(simp;done)|(simp[*];done),by repeat(first|exact Drawn0.refl _|apply Drawn0.step)⟩
       · rw[if_neg c5]at H
         have c5b0:decide (a0≤90)=false:=decide_eq_false c5;clear c5;obtain rfl:=Option.some.inj H;go_enter Tryz.func54,Tryz.ntmps54;go_wp2;go_ret;exact⟨by first|rfl|(simp;done)|(simp[*];done),by repeat(first|exact Drawn0.refl _|apply Drawn0.step)⟩
     · rw[if_neg c4]at H
       have c4b0:decide (65≤a0)=false:=decide_eq_false c4;clear c4;obtain rfl:=Option.some.inj H;go_enter Tryz.func54,Tryz.ntmps54;go_wp2;go_ret;exact⟨by first|rfl|(simp;done)|(simp[*];done),by repeat(first|exact Drawn0.refl _|apply Drawn0.step)⟩
 · rw[if_neg c2]at H
   have c2b0:decide (97≤a0)=false:=decide_eq_false c2;clear c2;by_cases c6:a0≥65
   · rw[if_pos c6]at H
     have c6b0:decide (65≤a0)=true:=decide_eq_true c6;clear c6;by_cases c7:a0≤90
     · rw[if_pos c7]at H
       have c7b0:decide (a0≤90)=true:=decide_eq_true c7;clear c7;obtain rfl:=Option.some.inj H;go_enter Tryz.func54,Tryz.ntmps54;go_wp2;go_ret;exact⟨by first|rfl|(simp;done)|(simp[*];done),by repeat(first|exact Drawn0.refl _|apply Drawn0.step)⟩
     · rw[if_neg c7]at H
       have c7b0:decide (a0≤90)=false:=decide_eq_false c7;clear c7;obtain rfl:=Option.some.inj H;go_enter Tryz.func54,Tryz.ntmps54;go_wp2;go_ret;exact⟨by first|rfl|(simp;done)|(simp[*];done),by repeat(first|exact Drawn0.refl _|apply Drawn0.step)⟩
   · rw[if_neg c6]at H
     have c6b0:decide (65≤a0)=false:=decide_eq_false c6;clear c6;obtain rfl:=Option.some.inj H;go_enter Tryz.func54,Tryz.ntmps54;go_wp2;go_ret;exact⟨by first|rfl|(simp;done)|(simp[*];done),by repeat(first|exact Drawn0.refl _|apply Drawn0.step)⟩
def larderref23_side.j0:Nat→Int→Bool→Option (Int)
 |0,_,_=>none
 |k+1,x0,x12=>if x12=true then(some 1)else(if x0=41 then(some (-1))else(if x0=93 then(some (-1))else(if x0=125 then(some (-1))else(some 0))))
def larderref23_side.f (k:Nat) (a0:Int):Option (Int):=if a0=40 then(larderref23_side.j0 k a0 true)else(if a0=91 then(larderref23_side.j0 k a0 true)else(larderref23_side.j0 k a0 (a0==123)))
theorem larderref23_side.calls (k:Nat) (a0:Int) (r:Int) (w:World) (h:larderref23_side.f k a0=some r):
 Calls Tryz.prog 58 #[.int .u8 a0] w fun e w'=>e= .returned (.int .i64 r)∧Drawn0 w w':=by
 have H:(if a0=40 then(larderref23_side.j0 k a0 true)else(if a0=91 then(larderref23_side.j0 k a0 true)else(larderref23_side.j0 k a0 (a0==123))))=some r:=h;clear h;have HC2:=Aside0.mk H;clear H;go_enter Tryz.func58,Tryz.ntmps58;go_upto_region 1 with(fail)
 go_cut [12] (fun v12 wc=>∃(kq:Nat) (x12_1:Bool),v12= .bool x12_1∧Aside0 (larderref23_side.j0 kq a0 x12_1=some r)∧Aside0 (kq≤k)∧Drawn0 w wc)
 case first=>
  have H:=HC2.out;clear HC2;by_cases c3:a0=40
  · rw[if_pos c3]at H
    have c3b0:(a0==40)=true:=beq_iff_eq.mpr c3;have c3b1:(a0 !=40)=false:=bne_eq_false_iff_eq.mpr c3;clear c3
    (first|rw[c3b0]|(simp only[i64_w,i32_w];rw[c3b0])|skip)
    have H':=Aside0.mk H;clear H;go_wp2;go_meet
    case rel=>exact⟨_,(true),(by first|rfl|(simp;done)|(simp[*];done)),H',⟨by first|omega|exact Nat.le_refl _⟩,by repeat(first|exact Drawn0.refl _|apply Drawn0.step)⟩
  · rw[if_neg c3]at H
    have c3b0:(a0==40)=false:=beq_eq_false_iff_ne.mpr c3;have c3b1:(a0 !=40)=true:=bne_iff_ne.mpr c3
    (first|rw[c3b0]|(simp only[i64_w,i32_w];rw[c3b0])|skip)
    by_cases c4:a0=91
    · rw[if_pos c4]at H
      have c4b0:(a0==91)=true:=beq_iff_eq.mpr c4;have c4b1:(a0 !=91)=false:=bne_eq_false_iff_eq.mpr c4;clear c4;have H':=Aside0.mk H;clear H;go_wp2;go_meet
      case rel=>exact⟨_,(true),(by first|rfl|(simp;done)|(simp[*];done)),H',⟨by first|omega|exact Nat.le_refl _⟩,by repeat(first|exact Drawn0.refl _|apply Drawn0.step)⟩
    · rw[if_neg c4]at H
      have c4b0:(a0==91)=false:=beq_eq_false_iff_ne.mpr c4;have c4b1:(a0 !=91)=true:=bne_iff_ne.mpr c4;have H':=Aside0.mk H;clear H;go_wp2;go_meet
      case rel=>exact⟨_,((a0==123)),(by first|rfl|(simp;done)|(simp[*];done)),H',⟨by first|omega|exact Nat.le_refl _⟩,by repeat(first|exact Drawn0.refl _|apply Drawn0.step)⟩
 case rest=>
  clear HC2
  try clear p2
  try clear c3
  try clear c3b0
  try clear c3b1
  try clear c4
  try clear c4b0
  try clear c4b1
  obtain⟨kq,x12_1,rfl,HA,HJ1,⟨mc1,rfl⟩⟩:=hcut;cases kq with
  |zero=>exact absurd HA.out (by simp[larderref23_side.j0])
  |succ kj1=>
   have H:=HA.out;clear HA;simp only[larderref23_side.j0]at H;by_cases c5:x12_1=true
   · subst c5
     have H1:(some 1)=some r:=by rw[if_pos rfl]at H;exact H
     clear H;have H:=H1;clear H1;obtain rfl:=Option.some.inj H;go_wp2;go_ret;exact⟨by first|rfl|(simp;done)|(simp[*];done),by repeat(first|exact Drawn0.refl _|apply Drawn0.step)⟩
   · replace c5:=Bool.eq_false_iff.mpr c5
     subst c5;have H1:(if a0=41 then(some (-1))else(if a0=93 then(some (-1))else(if a0=125 then(some (-1))else(some 0))))=some r:=by rw[if_neg (show ¬(false=true) by decide)]at H;exact H
     clear H;have H:=H1;clear H1;by_cases c6:a0=41
     · rw[if_pos c6]at H
       have c6b0:(a0==41)=true:=beq_iff_eq.mpr c6;have c6b1:(a0 !=41)=false:=bne_eq_false_iff_eq.mpr c6;clear c6;obtain rfl:=Option.some.inj H;go_wp2;go_ret;exact⟨by first|rfl|(simp;done)|(simp[*];done),by repeat(first|exact Drawn0.refl _|apply Drawn0.step)⟩
     · rw[if_neg c6]at H
       have c6b0:(a0==41)=false:=beq_eq_false_iff_ne.mpr c6;have c6b1:(a0 !=41)=true:=bne_iff_ne.mpr c6;by_cases c7:a0=93
       · rw[if_pos c7]at H
         have c7b0:(a0==93)=true:=beq_iff_eq.mpr c7;have c7b1:(a0 !=93)=false:=bne_eq_false_iff_eq.mpr c7;clear c7;obtain rfl:=Option.some.inj H;go_wp2;go_ret;exact⟨by first|rfl|(simp;done)|(simp[*];done),by repeat(first|exact Drawn0.refl _|apply Drawn0.step)⟩
       · rw[if_neg c7]at H
         have c7b0:(a0==93)=false:=beq_eq_false_iff_ne.mpr c7;have c7b1:(a0 !=93)=true:=bne_iff_ne.mpr c7;by_cases c8:a0=125
         · rw[if_pos c8]at H
           have c8b0:(a0==125)=true:=beq_iff_eq.mpr c8;have c8b1:(a0 !=125)=false:=bne_eq_false_iff_eq.mpr c8;clear c8;obtain rfl:=Option.some.inj H;go_wp2;go_ret;exact⟨by first|rfl|(simp;done)|(simp[*];done),by repeat(first|exact Drawn0.refl _|apply Drawn0.step)⟩
         · rw[if_neg c8]at H
           have c8b0:(a0==125)=false:=beq_eq_false_iff_ne.mpr c8;have c8b1:(a0 !=125)=true:=bne_iff_ne.mpr c8;obtain rfl:=Option.some.inj H;go_wp2;go_ret;exact⟨by first|rfl|(simp;done)|(simp[*];done),by repeat(first|exact Drawn0.refl _|apply Drawn0.step)⟩
end Go.Proofs.YtbemddpmohoooaaGreatDoor.PShelfFormats
namespace Go.Proofs.YtbemddpmohoooaaGreatDoor
open PShelfFormats RowKit YtbemddpmohoooaaGreatDoorW.PrintWords YtbemddpmohoooaaGreatDoorW.PrintLast YtbemddpmohoooaaGreatDoorW.PrintMore
def letU (c:UInt8):Bool:=decide (97≤c.toNat∧c.toNat≤122∨65≤c.toNat∧c.toNat≤90∨c.toNat=95)
def digU (c:UInt8):Bool:=decide (48≤c.toNat∧c.toNat≤57)
def inU (c:UInt8):Bool:=letU c || digU c
def wordsL:List (List UInt8):=[[109,97,112],[100,101,108,101,116,101],[99,108,101,97,114],[112,114,105,110,116],[105,102],[101,108,115,101],[119,104,105,108,101],[102,111,114],[105,110],[98,114,101,97,107],[99,111,110,116,105,110,117,101],[104,97,115],[108,101,110]]
def twosL:List (List UInt8):=[[124,124],[38,38],[61,61],[33,61],[60,61],[62,61]]
def onesL:List UInt8:=[59,44,61,91,93,40,41,123,125,60,62,43,45,42,47,37,33]
def tokT (c:UInt8) (r:List UInt8):List UInt8×Int:=
 if digU c=true then((c::r).takeWhile digU,57)
 else if letU c=true then(if(c::r).takeWhile inU∈wordsL then((c::r).takeWhile inU,109)else((c::r).takeWhile inU,110))
 else if(c::r).take 2∈twosL then((c::r).take 2,109)
 else if c∈onesL then([c],109)else([c],63)
def tokOf (c:UInt8) (r:List UInt8) (line:Int):S42:=
 ⟨B (tokT c r).1,line,(tokT c r).2,if(tokT c r).2=109 then rank0 (tokT c r).1+1 else 0,if(tokT c r).2=109 then sideOf (tokT c r).1 else 0⟩
theorem toList_len (s:Bs):s.toList.length=s.size:=by rw[Lib.toList_data];rfl
theorem bt_list (s:Bs) (i:Nat) (h:i<s.toList.length):bt s (i:Int)=((s.toList[i]).toNat:Int):=by
 have h2:i<s.size:=by rw[← toList_len];exact h
 unfold bt;rw[Int.toNat_natCast,dif_pos h2];congr 1;simp only[Lib.toList_data];rfl
theorem ext_take (s:Bs) (n:Nat):(s.extract 0 n).toList=s.toList.take n:=by rw[Lib.extract_toList,List.drop_zero,Nat.sub_zero,Lib.toList_data]
theorem ext_drop (s:Bs) (n:Nat):(s.extract n s.size).toList=s.toList.drop n:=by
 rw[Lib.extract_toList,Lib.toList_data,List.take_of_length_le (by simp)]
theorem ext_B (s:Bs) (n:Nat):s.extract 0 n=B (s.toList.take n):=bt_lit.mp (ext_take s n)
theorem digit_ev (c:UInt8):larderref23_digit.f ((c.toNat:Nat):Int)=some (digU c):=by
 unfold larderref23_digit.f digU;split
 · congr 1
   exact decide_eq_decide.mpr ⟨fun h=>⟨by omega,by omega⟩,fun h=>by omega⟩
 · congr 1
   exact(decide_eq_false (by omega)).symm
theorem letter_ev (c:UInt8):larderref23_letter.f ((c.toNat:Nat):Int)=some (letU c):=by
 unfold larderref23_letter.f letU
 repeat' split
 all_goals(congr 1;first|exact(decide_eq_true (by omega)).symm|(rw[Bool.eq_iff_iff,beq_iff_eq,decide_eq_true_eq];omega))
theorem side_ev (c:Int):Ev (fun k=>larderref23_side.f k c) (if c=40∨c=91∨c=123 then 1 else if c=41∨c=93∨c=125 then-1 else 0):=by
 have J:∀b:Bool,(b=true↔(c=40∨c=91∨c=123))→Ev (fun k=>larderref23_side.j0 k c b) (if c=40∨c=91∨c=123 then 1 else if c=41∨c=93∨c=125 then-1 else 0):=by
  intro b hb;refine Ev.step (fun k=>by rw[larderref23_side.j0]) ?_;by_cases h:b=true
  · simp only[if_pos h,if_pos (hb.mp h)];exact Ev.const _
  · have h2:¬(c=40∨c=91∨c=123):=fun q=>h (hb.mpr q)
    simp only[if_neg h,if_neg h2];by_cases h3:c=41
    · simp only[if_pos h3,h3,true_or,if_true];exact Ev.const _
    simp only[if_neg h3,h3,false_or];by_cases h4:c=93
    · simp only[if_pos h4,h4,true_or,if_true];exact Ev.const _
    simp only[if_neg h4,h4,false_or];by_cases h5:c=125
    · simp only[if_pos h5,h5,if_true];exact Ev.const _
    simp only[if_neg h5];exact Ev.const _
 unfold larderref23_side.f;by_cases h1:c=40
 · simp only[if_pos h1];exact J true (by simp[h1])
 by_cases h2:c=91
 · simp only[if_neg h1,if_pos h2];exact J true (by simp[h2])
 simp only[if_neg h1,if_neg h2];exact J _ (by simp[h1,h2])
theorem side_eq (c:UInt8):(if((c.toNat:Nat):Int)=40∨((c.toNat:Nat):Int)=91∨((c.toNat:Nat):Int)=123 then(1:Int)else if((c.toNat:Nat):Int)=41∨((c.toNat:Nat):Int)=93∨((c.toNat:Nat):Int)=125 then-1 else 0)=sideOf [c]:=by
 have e:∀m:UInt8,(((c.toNat:Nat):Int)=(m.toNat:Int))↔[c]=[m]:=fun m=>⟨fun h=>by rw[UInt8.toNat_inj.mp (by omega:c.toNat=m.toNat)],fun h=>by injection h with h;rw[h]⟩
 unfold sideOf;simp only[← e];rfl
theorem take_tw (p:UInt8→Bool):∀(l:List UInt8),l.take (l.takeWhile p).length=l.takeWhile p
 |[]=>rfl
 |c::l=>by
  by_cases h:p c=true
  · rw[List.takeWhile_cons_of_pos h,List.length_cons,List.take_succ_cons,take_tw p l]
  · rw[List.takeWhile_cons_of_neg h];rfl
theorem len_tw (p:UInt8→Bool) (l:List UInt8):(l.takeWhile p).length≤l.length:=by
 have:=congrArg List.length (take_tw p l);rw[List.length_take]at this;omega
structure NameS (s:Bs):Prop where
 ne:s.toList≠[]
 hd:∀c r,s.toList=c::r→letU c=true
 al:∀b∈s.toList,inU b=true
 nw:s.toList ∉ wordsL
 sz:s.size≤1048576
def TokN (t:S42):Prop:=t.f2=110→NameS t.f0
def TN (l:List S42):Prop:=∀t∈l,TokN t
theorem TN.cons {t:S42} {l:List S42} (h:TN (t::l)):TokN t∧TN l:=⟨h t List.mem_cons_self,fun x hx=>h x (List.mem_cons_of_mem _ hx)⟩
theorem TN.tl {l:List S42} (h:TN l):TN l.tail:=fun x hx=>h x (List.mem_of_mem_tail hx)
def digs (n:Int):List UInt8:=Lib.decDigits n.toNat
def wrap (x:S80) (low:Int) (t:List UInt8):List UInt8:=if x.f0=7∧rank0 x.f3.toList<low then [40]++t++[41]else t
def lowL (r:Int):Int:=if r=2 then 3 else r
inductive EX:S80→List UInt8→Nat→Prop
 |num (n:Int):0≤n→n<9223372036854775808→EX (xNum n) (digs n) 1
 |name (s:Bs):NameS s→EX (xName s) s.toList 1
 |index (s:Bs) (x:S80) (t:List UInt8) (m:Nat):NameS s→EX x t m→EX (xIndex s x) (s.toList++[91]++t++[93]) (m+1)
 |has (s:Bs) (x:S80) (t:List UInt8) (m:Nat):NameS s→EX x t m→EX (xHas s x) ([104,97,115,32]++s.toList++[91]++t++[93]) (m+1)
 |len (s:Bs):NameS s→EX (xLen s) ([108,101,110,32]++s.toList) 1
 |un (o:Bs) (x:S80) (t:List UInt8) (m:Nat):o.toList=[45]∨o.toList=[33]→EX x t m→EX (xUn o x) (o.toList++wrap x 5 t) (m+1)
 |bin (o:Bs) (x y:S80) (t u:List UInt8) (m n:Nat) (r:Nat):rank0 o.toList=(r:Int)→EX x t m→EX y u n→EX (xBin o x y) (wrap x (lowL r) t++[32]++o.toList++[32]++wrap y (r+1) u) (m+n+1)
theorem numOf_range {s:List UInt8} {n:Int} (h:numOf s=some n):0≤n∧n<9223372036854775808:=by
 unfold numOf at h;split at h
 · injection h with h;omega
 · cases h
theorem pname_tn {l l2:List S42} {s:Bs} (h:pname l=some (.ok (s,l2))) (ht:TN l):NameS s∧TN l2∧l.length=l2.length+1:=by
 obtain⟨t,rfl,h2,rfl⟩:=pname_ok h;exact⟨ht.cons.1 h2,ht.cons.2,rfl⟩
theorem ptok_tn {m:List UInt8} {l l2:List S42} {u:Unit} (h:ptok m l=some (.ok (u,l2))) (ht:TN l):TN l2∧l.length=l2.length+1:=by
 obtain⟨t,rfl,h2⟩:=ptok_ok h;exact⟨ht.cons.2,rfl⟩
theorem fr_expr:∀(k:Nat),
 (∀(low:Nat) l x l',pExpr k low l=some (.ok (x,l'))→TN l→∃t m,EX x t m∧m+l'.length≤l.length∧TN l')∧
 (∀(low:Nat) x0 l x l' t0 m0,pLoop k low x0 l=some (.ok (x,l'))→TN l→EX x0 t0 m0→∃t m,EX x t m∧m+l'.length≤m0+l.length∧TN l')∧
 (∀l x l',pUn k l=some (.ok (x,l'))→TN l→∃t m,EX x t m∧m+l'.length≤l.length∧TN l')∧
 (∀l x l',pKey k l=some (.ok (x,l'))→TN l→∃t m,EX x t m∧m+1+l'.length≤l.length∧TN l')
 |0=>⟨fun low l x l' h=>(by rw[pExpr]at h;cases h),fun low x0 l x l' t0 m0 h=>(by rw[pLoop]at h;cases h),fun l x l' h=>(by rw[pUn]at h;cases h),fun l x l' h=>(by rw[pKey]at h;cases h)⟩
 |k+1=>by
  obtain⟨ih1,ih2,ih3,ih4⟩:=fr_expr k;refine⟨?_,?_,?_,?_⟩
  · intro low l x l' h ht
    rw[pExpr]at h;by_cases h5:low=5
    · subst h5
      rw[if_pos rfl]at h;exact ih3 l x l' h ht
    · rw[if_neg h5]at h
      obtain⟨x0,l1,e1,e2⟩:=pbind_ok h;obtain⟨t0,m0,q1,q2,q3⟩:=ih1 (low+1) l x0 l1 e1 ht;obtain⟨t,m,p1,p2,p3⟩:=ih2 low x0 l1 x l' t0 m0 e2 q3 q1;exact⟨t,m,p1,by omega,p3⟩
  · intro low x0 l x l' t0 m0 h ht hx
    rw[pLoop]at h;dsimp only at h;by_cases hc:(hd l).f2=109∧rank0 (hd l).f0.toList=(low:Int)
    · rw[if_pos hc]at h
      have hl:=tail_len (l:=l) (by rw[hc.1];decide);obtain⟨y,l1,e1,e2⟩:=pbind_ok h;obtain⟨u,n,q1,q2,q3⟩:=ih1 (low+1) l.tail y l1 e1 ht.tl;have hnew:=EX.bin (hd l).f0 x0 y t0 u m0 n low hc.2 hx q1;by_cases h2:low=2
      · simp only[if_pos h2]at e2
        obtain⟨rfl,rfl⟩:=pok_ok e2;exact⟨_,_,hnew,by omega,q3⟩
      · simp only[if_neg h2]at e2
        obtain⟨t,m,p1,p2,p3⟩:=ih2 low _ l1 x l' _ _ e2 q3 hnew;exact⟨t,m,p1,by omega,p3⟩
    · rw[if_neg hc]at h
      injection h with h;injection h with h;injection h with h1 h2
      subst h1;subst h2;exact⟨t0,m0,hx,Nat.le_refl _,ht⟩
  · intro l x l' h ht
    rw[pUn]at h;dsimp only at h;by_cases c1:isM (hd l) [45]
    · rw[if_pos c1]at h
      have hl:=tail_len (l:=l) (by rw[c1.1];decide);obtain⟨x0,l1,e1,e2⟩:=pbind_ok h;obtain⟨rfl,rfl⟩:=pok_ok e2;obtain⟨t,m,q1,q2,q3⟩:=ih3 _ _ _ e1 ht.tl;exact⟨_,_,.un _ _ _ _ (.inl (by rw[Lib.toList_data])) q1,by omega,q3⟩
    rw[if_neg c1]at h;by_cases c2:isM (hd l) [33]
    · rw[if_pos c2]at h
      have hl:=tail_len (l:=l) (by rw[c2.1];decide);obtain⟨x0,l1,e1,e2⟩:=pbind_ok h;obtain⟨rfl,rfl⟩:=pok_ok e2;obtain⟨t,m,q1,q2,q3⟩:=ih3 _ _ _ e1 ht.tl;exact⟨_,_,.un _ _ _ _ (.inr (by rw[Lib.toList_data])) q1,by omega,q3⟩
    rw[if_neg c2]at h;by_cases c3:(hd l).f2=57
    · rw[if_pos c3]at h
      have hl:=tail_len (l:=l) (by rw[c3];decide);unfold pnum at h;cases hv:numOf (hd l).f0.toList with
      |none=>rw[hv]at h;unfold pfail at h;injection h with h;cases h
      |some v=>
       rw[hv]at h;injection h with h;injection h with h;injection h with h1 h2
       subst h1;subst h2;exact⟨_,_,.num v (numOf_range hv).1 (numOf_range hv).2,by omega,ht.tl⟩
    rw[if_neg c3]at h;by_cases c4:isM (hd l) [40]
    · rw[if_pos c4]at h
      have hl:=tail_len (l:=l) (by rw[c4.1];decide);obtain⟨x0,l1,e1,e2⟩:=pbind_ok h;obtain⟨_,l2,e3,e4⟩:=pbind_ok e2;obtain⟨rfl,rfl⟩:=pok_ok e4;obtain⟨t,m,q1,q2,q3⟩:=ih1 0 _ _ _ e1 ht.tl;obtain⟨p1,p2⟩:=ptok_tn e3 q3;exact⟨t,m,q1,by omega,p1⟩
    rw[if_neg c4]at h;by_cases c5:isM (hd l) [104,97,115]
    · rw[if_pos c5]at h
      have hl:=tail_len (l:=l) (by rw[c5.1];decide);obtain⟨s,l1,e1,e2⟩:=pbind_ok h;obtain⟨x0,l2,e3,e4⟩:=pbind_ok e2;obtain⟨rfl,rfl⟩:=pok_ok e4;obtain⟨r1,r2,r3⟩:=pname_tn e1 ht.tl;obtain⟨t,m,q1,q2,q3⟩:=ih4 _ _ _ e3 r2;exact⟨_,_,.has s x0 t m r1 q1,by omega,q3⟩
    rw[if_neg c5]at h;by_cases c6:isM (hd l) [108,101,110]
    · rw[if_pos c6]at h
      have hl:=tail_len (l:=l) (by rw[c6.1];decide);obtain⟨s,l1,e1,e2⟩:=pbind_ok h;obtain⟨rfl,rfl⟩:=pok_ok e2;obtain⟨r1,r2,r3⟩:=pname_tn e1 ht.tl;exact⟨_,_,.len s r1,by omega,r2⟩
    rw[if_neg c6]at h;obtain⟨s,l1,e1,e2⟩:=pbind_ok h;obtain⟨r1,r2,r3⟩:=pname_tn e1 ht;by_cases c7:isM (hd l1) [91]
    · rw[if_pos c7]at e2
      obtain⟨x0,l2,e3,e4⟩:=pbind_ok e2;obtain⟨rfl,rfl⟩:=pok_ok e4;obtain⟨t,m,q1,q2,q3⟩:=ih4 _ _ _ e3 r2;exact⟨_,_,.index s x0 t m r1 q1,by omega,q3⟩
    · rw[if_neg c7]at e2
      injection e2 with h;injection h with h;injection h with h1 h2
      subst h1;subst h2;exact⟨_,_,.name s r1,by omega,r2⟩
  · intro l x l' h ht
    rw[pKey]at h;obtain⟨_,l1,e1,e2⟩:=pbind_ok h;obtain⟨x0,l2,e3,e4⟩:=pbind_ok e2;obtain⟨_,l3,e5,e6⟩:=pbind_ok e4;obtain⟨rfl,rfl⟩:=pok_ok e6;obtain⟨p1,p2⟩:=ptok_tn e1 ht;obtain⟨t,m,q1,q2,q3⟩:=ih1 0 _ _ _ e3 p1;obtain⟨p3,p4⟩:=ptok_tn e5 q3;exact⟨t,m,q1,by omega,p3⟩
def tabL (d:Nat):List UInt8:=List.replicate (min d 8) 9
inductive EXs:List S80→List (List UInt8)→Nat→Prop
 |nil:EXs [] [] 0
 |cons (x:S80) (t:List UInt8) (m:Nat) (xs:List S80) (ts:List (List UInt8)) (n:Nat):EX x t m→EXs xs ts n→EXs (x::xs) (t::ts) (m+n)
def sepL:List (List UInt8)→List UInt8
 |[]=>[]
 |t::ts=>[32]++t++(match ts with|[]=>[]|_=>[44]++sepL ts)
def hIf (t:List UInt8):List UInt8:=[105,102,32]++t++[32,123]
mutual
inductive SX:S62→(Nat→List (List UInt8))→Nat→Prop
 |set (s:Bs) (x:S80) (t:List UInt8) (m:Nat):NameS s→EX x t m→SX {st 1 with f1:=s,f4:=[x]} (fun d=>[tabL d++s.toList++[32,61,32]++t++[59]]) (m+1)
 |put (s:Bs) (x y:S80) (t u:List UInt8) (m n:Nat):NameS s→EX x t m→EX y u n→SX {st 2 with f1:=s,f4:=[x,y]} (fun d=>[tabL d++s.toList++[91]++t++[93,32,61,32]++u++[59]]) (m+n+1)
 |del (s:Bs) (x:S80) (t:List UInt8) (m:Nat):NameS s→EX x t m→SX {st 3 with f1:=s,f4:=[x]} (fun d=>[tabL d++[100,101,108,101,116,101,32]++s.toList++[91]++t++[93,59]]) (m+1)
 |clr (s:Bs):NameS s→SX {st 4 with f1:=s} (fun d=>[tabL d++[99,108,101,97,114,32]++s.toList++[59]]) 1
 |prt (xs:List S80) (ts:List (List UInt8)) (m:Nat):EXs xs ts m→SX {st 5 with f4:=xs} (fun d=>[tabL d++[112,114,105,110,116]++sepL ts++[59]]) (m+1)
 |ifs (s:S62) (h:List UInt8) (ls:Nat→List (List UInt8)) (m:Nat):CX s h ls m→SX s (fun d=>(tabL d++h)::ls d) m
 |whl (x:S80) (t:List UInt8) (b:List S62) (bs:Nat→List (List UInt8)) (m n:Nat):EX x t m→SXs b bs n→SX {st 7 with f4:=[x],f5:=b} (fun d=>(tabL d++[119,104,105,108,101,32]++t++[32,123])::(bs (d+1)++[tabL d++[125]])) (m+n+2)
 |rng (s a c:Bs) (b:List S62) (bs:Nat→List (List UInt8)) (n:Nat):NameS s→NameS a→NameS c→SXs b bs n→SX {st 8 with f1:=s,f2:=a,f3:=c,f5:=b} (fun d=>(tabL d++[102,111,114,32]++a.toList++[44,32]++c.toList++[32,105,110,32]++s.toList++[32,123])::(bs (d+1)++[tabL d++[125]])) (n+4)
 |brk:SX (st 9) (fun d=>[tabL d++[98,114,101,97,107,59]]) 1
 |cnt:SX (st 10) (fun d=>[tabL d++[99,111,110,116,105,110,117,101,59]]) 1
inductive CX:S62→List UInt8→(Nat→List (List UInt8))→Nat→Prop
 |one (x:S80) (t:List UInt8) (b:List S62) (bs:Nat→List (List UInt8)) (m n:Nat):EX x t m→SXs b bs n→CX {st 6 with f4:=[x],f5:=b} (hIf t) (fun d=>bs (d+1)++[tabL d++[125]]) (m+n+1)
 |els (x:S80) (t:List UInt8) (b:List S62) (bs:Nat→List (List UInt8)) (e:List S62) (es:Nat→List (List UInt8)) (m n k:Nat):EX x t m→SXs b bs n→e≠[]→(∀c,e=[c]→c.f0≠6)→SXs e es k→
   CX {st 6 with f4:=[x],f5:=b,f6:=e} (hIf t) (fun d=>bs (d+1)++((tabL d++[125,32,101,108,115,101,32,123])::(es (d+1)++[tabL d++[125]]))) (m+n+k+2)
 |eif (x:S80) (t:List UInt8) (b:List S62) (bs:Nat→List (List UInt8)) (c:S62) (h:List UInt8) (ls:Nat→List (List UInt8)) (m n k:Nat):EX x t m→SXs b bs n→CX c h ls k→
   CX {st 6 with f4:=[x],f5:=b,f6:=[c]} (hIf t) (fun d=>bs (d+1)++((tabL d++[125,32,101,108,115,101,32]++h)::ls d)) (m+n+k+1)
inductive SXs:List S62→(Nat→List (List UInt8))→Nat→Prop
 |nil:SXs [] (fun _=>[]) 0
 |cons (s:S62) (ls:Nat→List (List UInt8)) (m:Nat) (r:List S62) (rs:Nat→List (List UInt8)) (n:Nat):SX s ls m→SXs r rs n→SXs (s::r) (fun d=>ls d++rs d) (m+n)
end
theorem sx_if {s:S62} {ls:Nat→List (List UInt8)} {m:Nat} (h:SX s ls m) (h6:s.f0=6):∃h ls,CX s h ls m:=by
 cases h with
 |ifs s h ls m hc=>exact⟨h,ls,hc⟩
 |_=>simp[st]at h6
theorem sxs_one {c:S62} {ls:Nat→List (List UInt8)} {m:Nat} (h:SXs [c] ls m):∃ls',SX c ls' m:=by
 cases h with
 |cons s ls m r rs n h1 h2=>cases h2;exact⟨_,h1⟩
theorem sxs_app {a b:List S62} {ass bs:Nat→List (List UInt8)} {m n:Nat} (h1:SXs a ass m) (h2:SXs b bs n):∃cs,SXs (a++b) cs (m+n):=by
 induction a generalizing ass m with
 |nil=>cases h1;exact⟨_,by rw[Nat.zero_add];exact h2⟩
 |cons x r ih=>
  cases h1 with
  |cons s ls m1 r rs n1 q1 q2=>
   obtain⟨cs,hc⟩:=ih q2;exact⟨_,by rw[Nat.add_assoc];exact .cons x ls m1 _ cs _ q1 hc⟩
theorem exs_app {a b:List S80} {ass bs:List (List UInt8)} {m n:Nat} (h1:EXs a ass m) (h2:EXs b bs n):EXs (a++b) (ass++bs) (m+n):=by
 induction h1 with
 |nil=>rw[Nat.zero_add];exact h2
 |cons x t m xs ts n' q1 q2 ih=>rw[Nat.add_assoc];exact .cons x t m _ _ _ q1 ih
theorem fr_items:∀(k:Nat) (xs:List S80) (l:List S42) (s:S62) (l':List S42) (ts:List (List UInt8)) (m:Nat),pItems k xs l=some (.ok (s,l'))→TN l→EXs xs ts m→∃ls n,SX s ls n∧n+l'.length≤m+l.length∧TN l'
 |0,xs,l,s,l',_,_,h,_,_=>by rw[pItems]at h;cases h
 |k+1,xs,l,s,l',ts,m,h,ht,hx=>by
  rw[pItems]at h;dsimp only at h;by_cases c:isM (hd l) [59]
  · rw[if_pos c]at h
    have hl:=tail_len (l:=l) (by rw[c.1];decide);injection h with h;injection h with h;injection h with h1 h2
    subst h1;subst h2;exact⟨_,_,.prt xs ts m hx,by omega,ht.tl⟩
  · rw[if_neg c]at h
    obtain⟨_,l1,e1,e2⟩:=pbind_ok h;obtain⟨x,l2,e3,e4⟩:=pbind_ok e2;obtain⟨p1,p2⟩:=ptok_tn e1 ht;obtain⟨t,n,q1,q2,q3⟩:=(fr_expr k).1 0 _ _ _ e3 p1;obtain⟨ls,n2,r1,r2,r3⟩:=fr_items k (xs++[x]) l2 s l' (ts++[t]) (m+(n+0)) e4 q3 (exs_app hx (.cons x t n [] [] 0 q1 .nil));exact⟨ls,n2,r1,by omega,r3⟩
theorem fr_stmt:∀(k:Nat),
 (∀l s l',pStmt k l=some (.ok (s,l'))→TN l→∃ls m,SX s ls m∧m+l'.length≤l.length∧TN l')∧
 (∀l s l',pCond k l=some (.ok (s,l'))→TN l→∃h ls m,CX s h ls m∧m+l'.length≤l.length∧TN l')∧
 (∀l s l',pBlock k l=some (.ok (s,l'))→TN l→∃ls m,SXs s ls m∧m+2+l'.length≤l.length∧TN l')∧
 (∀xs l s l' ass m,pBody k xs l=some (.ok (s,l'))→TN l→SXs xs ass m→∃ls n,SXs s ls n∧n+1+l'.length≤m+l.length∧TN l')
 |0=>⟨fun l s l' h=>(by rw[pStmt]at h;cases h),fun l s l' h=>(by rw[pCond]at h;cases h),fun l s l' h=>(by rw[pBlock]at h;cases h),fun xs l s l' _ _ h=>(by rw[pBody]at h;cases h)⟩
 |k+1=>by
  obtain⟨ih1,ih2,ih3,ih4⟩:=fr_stmt k;have iE:=(fr_expr k).1 0;have iK:=(fr_expr k).2.2.2;refine⟨?_,?_,?_,?_⟩
  · intro l s l' h ht
    rw[pStmt]at h;dsimp only at h;by_cases c0:(hd l).f2=110
    · rw[if_pos c0]at h
      unfold pSet at h;obtain⟨nm,l1,e1,e2⟩:=pbind_ok h;obtain⟨n1,n2,n3⟩:=pname_tn e1 ht;by_cases c1:isM (hd l1) [91]
      · rw[if_pos c1]at e2
        obtain⟨x,l2,e3,e4⟩:=pbind_ok e2;obtain⟨t,m,q1,q2,q3⟩:=iK _ _ _ e3 n2;obtain⟨_,l3,e5,e6⟩:=pbind_ok e4;obtain⟨p1,p2⟩:=ptok_tn e5 q3;obtain⟨y,l4,e7,e8⟩:=pbind_ok e6;obtain⟨u,n,r1,r2,r3⟩:=iE _ _ _ e7 p1;obtain⟨_,l5,e9,e10⟩:=pbind_ok e8;obtain⟨p3,p4⟩:=ptok_tn e9 r3;obtain⟨rfl,rfl⟩:=pok_ok e10;exact⟨_,_,.put nm x y t u m n n1 q1 r1,by omega,p3⟩
      · rw[if_neg c1]at e2
        obtain⟨_,l3,e5,e6⟩:=pbind_ok e2;obtain⟨p1,p2⟩:=ptok_tn e5 n2;obtain⟨y,l4,e7,e8⟩:=pbind_ok e6;obtain⟨u,n,r1,r2,r3⟩:=iE _ _ _ e7 p1;obtain⟨_,l5,e9,e10⟩:=pbind_ok e8;obtain⟨p3,p4⟩:=ptok_tn e9 r3;obtain⟨rfl,rfl⟩:=pok_ok e10;exact⟨_,_,.set nm y u n n1 r1,by omega,p3⟩
    rw[if_neg c0]at h;by_cases c1:isM (hd l) [100,101,108,101,116,101]
    · have hl:=tail_len (l:=l) (by rw[c1.1];decide)
      rw[if_pos c1]at h;obtain⟨nm,l1,e1,e2⟩:=pbind_ok h;obtain⟨n1,n2,n3⟩:=pname_tn e1 ht.tl;obtain⟨x,l2,e4,e5⟩:=pbind_ok e2;obtain⟨t,m,q1,q2,q3⟩:=iK _ _ _ e4 n2;obtain⟨_,l5,e9,e10⟩:=pbind_ok e5;obtain⟨p3,p4⟩:=ptok_tn e9 q3;obtain⟨rfl,rfl⟩:=pok_ok e10;exact⟨_,_,.del nm x t m n1 q1,by omega,p3⟩
    rw[if_neg c1]at h;by_cases c2:isM (hd l) [99,108,101,97,114]
    · have hl:=tail_len (l:=l) (by rw[c2.1];decide)
      rw[if_pos c2]at h;obtain⟨nm,l1,e1,e2⟩:=pbind_ok h;obtain⟨n1,n2,n3⟩:=pname_tn e1 ht.tl;obtain⟨_,l5,e9,e10⟩:=pbind_ok e2;obtain⟨p3,p4⟩:=ptok_tn e9 n2;obtain⟨rfl,rfl⟩:=pok_ok e10;exact⟨_,_,.clr nm n1,by omega,p3⟩
    rw[if_neg c2]at h;by_cases c3:isM (hd l) [112,114,105,110,116]
    · have hl:=tail_len (l:=l) (by rw[c3.1];decide)
      rw[if_pos c3]at h;unfold pPrint at h;by_cases c:isM (hd l.tail) [59]
      · rw[if_pos c]at h
        have hl2:=tail_len (l:=l.tail) (by rw[c.1];decide);injection h with h;injection h with h;injection h with h1 h2
        subst h1;subst h2;exact⟨_,_,.prt [] [] 0 .nil,by omega,ht.tl.tl⟩
      · rw[if_neg c]at h
        obtain⟨x,l2,e3,e4⟩:=pbind_ok h;obtain⟨t,m,q1,q2,q3⟩:=iE _ _ _ e3 ht.tl;obtain⟨ls,n,r1,r2,r3⟩:=fr_items k [x] l2 s l' [t] (m+0) e4 q3 (.cons x t m [] [] 0 q1 .nil);exact⟨ls,n,r1,by omega,r3⟩
    rw[if_neg c3]at h;by_cases c4:isM (hd l) [105,102]
    · have hl:=tail_len (l:=l) (by rw[c4.1];decide)
      rw[if_pos c4]at h;obtain⟨hh,ls,m,q1,q2,q3⟩:=ih2 l.tail s l' h ht.tl;exact⟨_,_,.ifs s hh ls m q1,by omega,q3⟩
    rw[if_neg c4]at h;by_cases c5:isM (hd l) [119,104,105,108,101]
    · have hl:=tail_len (l:=l) (by rw[c5.1];decide)
      rw[if_pos c5]at h;obtain⟨x,l2,e3,e4⟩:=pbind_ok h;obtain⟨t,m,q1,q2,q3⟩:=iE _ _ _ e3 ht.tl;obtain⟨b,l3,e6,e7⟩:=pbind_ok e4;obtain⟨bs,n,r1,r2,r3⟩:=ih3 _ _ _ e6 q3;obtain⟨rfl,rfl⟩:=pok_ok e7;exact⟨_,_,.whl x t b bs m n q1 r1,by omega,r3⟩
    rw[if_neg c5]at h;by_cases c6:isM (hd l) [102,111,114]
    · have hl:=tail_len (l:=l) (by rw[c6.1];decide)
      rw[if_pos c6]at h;obtain⟨s1,l1,e1,e2⟩:=pbind_ok h;obtain⟨a1,a2,a3⟩:=pname_tn e1 ht.tl;obtain⟨_,l2,e4,e5⟩:=pbind_ok e2;obtain⟨p1,p2⟩:=ptok_tn e4 a2;obtain⟨s2,l3,e6,e7⟩:=pbind_ok e5;obtain⟨b1,b2,b3⟩:=pname_tn e6 p1;obtain⟨_,l4,e8,e9⟩:=pbind_ok e7;obtain⟨p3,p4⟩:=ptok_tn e8 b2;obtain⟨s3,l5,e10,e11⟩:=pbind_ok e9;obtain⟨d1,d2,d3⟩:=pname_tn e10 p3;obtain⟨bl,l6,e12,e13⟩:=pbind_ok e11;obtain⟨bs,n,r1,r2,r3⟩:=ih3 _ _ _ e12 d2;obtain⟨rfl,rfl⟩:=pok_ok e13;exact⟨_,_,.rng s3 s1 s2 bl bs n d1 a1 b1 r1,by omega,r3⟩
    rw[if_neg c6]at h;by_cases c7:isM (hd l) [98,114,101,97,107]
    · have hl:=tail_len (l:=l) (by rw[c7.1];decide)
      rw[if_pos c7]at h;obtain⟨_,l5,e9,e10⟩:=pbind_ok h;obtain⟨p3,p4⟩:=ptok_tn e9 ht.tl;obtain⟨rfl,rfl⟩:=pok_ok e10;exact⟨_,_,.brk,by omega,p3⟩
    rw[if_neg c7]at h;obtain⟨_,l1,e1,e2⟩:=pbind_ok h;obtain⟨p1,p2⟩:=ptok_tn e1 ht;obtain⟨_,l5,e9,e10⟩:=pbind_ok e2;obtain⟨p3,p4⟩:=ptok_tn e9 p1;obtain⟨rfl,rfl⟩:=pok_ok e10;exact⟨_,_,.cnt,by omega,p3⟩
  · intro l s l' h ht
    rw[pCond]at h;obtain⟨x,l1,e1,e2⟩:=pbind_ok h;obtain⟨t,m,q1,q2,q3⟩:=iE _ _ _ e1 ht;obtain⟨b,l2,e3,e4⟩:=pbind_ok e2;obtain⟨bs,n,r1,r2,r3⟩:=ih3 _ _ _ e3 q3;by_cases z1:isM (hd l2) [101,108,115,101]
    · rw[if_pos z1]at e4
      have hl:=tail_len (l:=l2) (by rw[z1.1];decide);by_cases z2:isM (hd l2.tail) [105,102]
      · rw[if_pos z2]at e4
        have hl2:=tail_len (l:=l2.tail) (by rw[z2.1];decide);obtain⟨s2,l3,e5,e6⟩:=pbind_ok e4;obtain⟨hh,ls,k2,w1,w2,w3⟩:=ih2 _ _ _ e5 r3.tl.tl;obtain⟨rfl,rfl⟩:=pok_ok e6;exact⟨_,_,_,.eif x t b bs s2 hh ls m n k2 q1 r1 w1,by omega,w3⟩
      · rw[if_neg z2]at e4
        obtain⟨b2,l3,e5,e6⟩:=pbind_ok e4;obtain⟨es,k2,w1,w2,w3⟩:=ih3 _ _ _ e5 r3.tl;obtain⟨rfl,rfl⟩:=pok_ok e6;by_cases he:b2=[]
        · subst he
          cases w1;exact⟨_,_,_,.one x t b bs m n q1 r1,by omega,w3⟩
        by_cases hs:∃c,b2=[c]∧c.f0=6
        · obtain⟨c,rfl,hc6⟩:=hs
          obtain⟨ls',hsx⟩:=sxs_one w1;obtain⟨hh,ls,hcx⟩:=sx_if hsx hc6;exact⟨_,_,_,.eif x t b bs c hh ls m n k2 q1 r1 hcx,by omega,w3⟩
        · exact⟨_,_,_,.els x t b bs b2 es m n k2 q1 r1 he (fun c hc h6=>hs ⟨c,hc,h6⟩) w1,by omega,w3⟩
    · rw[if_neg z1]at e4
      injection e4 with e4;injection e4 with e4;injection e4 with z1 z2
      subst z1;subst z2;exact⟨_,_,_,.one x t b bs m n q1 r1,by omega,r3⟩
  · intro l s l' h ht
    rw[pBlock]at h;obtain⟨_,l1,e1,e2⟩:=pbind_ok h;obtain⟨p1,p2⟩:=ptok_tn e1 ht;obtain⟨ls,n,r1,r2,r3⟩:=ih4 [] l1 s l' _ _ e2 p1 .nil;exact⟨ls,n,r1,by omega,r3⟩
  · intro xs l s l' ass m h ht hx
    rw[pBody]at h;dsimp only at h;by_cases q1:isM (hd l) [125]
    · rw[if_pos q1]at h
      have hl:=tail_len (l:=l) (by rw[q1.1];decide);injection h with h;injection h with h;injection h with z1 z2
      subst z1;subst z2;exact⟨ass,m,hx,by omega,ht.tl⟩
    · rw[if_neg q1]at h
      obtain⟨s1,l1,e1,e2⟩:=pbind_ok h;obtain⟨ls,n,r1,r2,r3⟩:=ih1 _ _ _ e1 ht;obtain⟨cs,hcs⟩:=sxs_app hx (.cons s1 ls n [] (fun _=>[]) 0 r1 .nil);obtain⟨ls2,n2,w1,w2,w3⟩:=ih4 _ l1 s l' _ _ e2 r3 hcs;exact⟨ls2,n2,w1,by omega,w3⟩
theorem fr_top:∀(k:Nat) (xs:List S62) (l:List S42) (s:List S62) (l':List S42) (ass:Nat→List (List UInt8)) (m:Nat),pTop k xs l=some (.ok (s,l'))→TN l→SXs xs ass m→∃ls n,SXs s ls n∧n+l'.length≤m+l.length
 |0,xs,l,s,l',_,_,h,_,_=>by rw[pTop]at h;cases h
 |k+1,xs,l,s,l',ass,m,h,ht,hx=>by
  rw[pTop]at h;dsimp only at h;by_cases c:(hd l).f2=36
  · rw[if_pos c]at h
    injection h with h;injection h with h;injection h with z1 z2
    subst z1;subst z2;exact⟨ass,m,hx,by omega⟩
  · rw[if_neg c]at h
    obtain⟨s1,l1,e1,e2⟩:=pbind_ok h;obtain⟨ls,n,r1,r2,r3⟩:=(fr_stmt k).1 _ _ _ e1 ht;obtain⟨cs,hcs⟩:=sxs_app hx (.cons s1 ls n [] (fun _=>[]) 0 r1 .nil);obtain⟨ls2,n2,w1,w2⟩:=fr_top k _ l1 s l' _ _ e2 r3 hcs;exact⟨ls2,n2,w1,by omega⟩
theorem fr_maps:∀(k:Nat) (xs:List Bs) (l:List S42) (s:List Bs) (l':List S42),pMaps k xs l=some (.ok (s,l'))→TN l→(∀x∈xs,NameS x)→(∀x∈s,NameS x)∧s.length+l'.length≤xs.length+l.length∧TN l'
 |0,xs,l,s,l',h,_,_=>by rw[pMaps]at h;cases h
 |k+1,xs,l,s,l',h,ht,hx=>by
  rw[pMaps]at h;dsimp only at h;by_cases c:isM (hd l) [109,97,112]
  · rw[if_pos c]at h
    have hl:=tail_len (l:=l) (by rw[c.1];decide);obtain⟨nm,l1,e1,e2⟩:=pbind_ok h;obtain⟨n1,n2,n3⟩:=pname_tn e1 ht.tl;obtain⟨_,l2,e4,e5⟩:=pbind_ok e2;obtain⟨p1,p2⟩:=ptok_tn e4 n2;obtain⟨r1,r2,r3⟩:=fr_maps k (xs++[nm]) l2 s l' e5 p1 (fun x hxx=>(List.mem_append.mp hxx).elim (hx x) (fun q=>by rw[List.mem_singleton.mp q];exact n1));exact⟨r1,by simp at r2;omega,r3⟩
  · rw[if_neg c]at h
    injection h with h;injection h with h;injection h with z1 z2
    subst z1;subst z2;exact⟨hx,Nat.le_refl _,ht⟩
theorem fr_prog {k:Nat} {l:List S42} {ms:List Bs} {ss:List S62} {l':List S42} (h:pProg k l=some (.ok ((ms,ss),l'))) (ht:TN l):(∀x∈ms,NameS x)∧∃ls n,SXs ss ls n∧ms.length+n≤l.length:=by
 unfold pProg at h;obtain⟨m1,l1,e1,e2⟩:=pbind_ok h;obtain⟨s1,l2,e3,e4⟩:=pbind_ok e2;obtain⟨z,rfl⟩:=pok_ok e4;injection z with z1 z2
 subst z1;subst z2;obtain⟨r1,r2,r3⟩:=fr_maps _ _ _ _ _ e1 ht (fun x hx=>absurd hx List.not_mem_nil);obtain⟨ls,n,w1,w2⟩:=fr_top _ _ _ _ _ _ _ e3 r3 .nil;exact⟨r1,ls,n,w1,by simp at r2;omega⟩
end Go.Proofs.YtbemddpmohoooaaGreatDoor
namespace Go.Proofs.YtbemddpmohoooaaGreatDoor.PShelfFormats
open RowKit YtbemddpmohoooaaGreatDoorW.PrintWords YtbemddpmohoooaaGreatDoorW.PrintLast YtbemddpmohoooaaGreatDoorW.PrintMore
def larderref23_none.l0:Nat→List Bs→Int→Option (Bool)
 |0,_,_=>none
 |k+1,x0,x3=>if x3<(x0.length:Int)then(if 0≤x3 then(if(rdOf ByteArray.empty x0 x3).toList=([]:List UInt8)then(larderref23_none.l0 k x0 (wrap64 (x3+1)))else(some false))else(none))else(some true)
def larderref23_none.f (k:Nat) (l0:List Bs):Option (Bool):=larderref23_none.l0 k l0 0
theorem larderref23_none.calls (k:Nat) (A0:Option Addr) (c0:Nat) (l0:List Bs) (r:Bool) (w:World) (hr0:Kd.C Kd.string w A0 l0.length l0) (hc0:l0.length≤c0) (h:larderref23_none.f k l0=some r):
 Calls Tryz.prog 66 #[.slice A0 l0.length c0] w fun e w'=>e= .returned (.bool r)∧Drawn0 w w':=by
 have HR0:=Aside0.mk hr0;have HC0:=Aside0.mk hc0;clear hr0 hc0;have H:(larderref23_none.l0 k l0 0)=some r:=h;clear h;have H':=Aside0.mk H;clear H;go_enter Tryz.func66,Tryz.ntmps66;go_wp2;go_loopg [3] k (fun kq v3 w'=>∃(x3_1:Int),v3= .int .i64 x3_1∧Aside0 (larderref23_none.l0 kq l0 x3_1=some r)∧Aside0 (kq≤k)∧Drawn0 w w')
 case atStart=>exact⟨(0),(by first|rfl|(simp;done)|(simp[*];done)),H',⟨Nat.le_refl _⟩,by repeat(first|exact Drawn0.refl _|apply Drawn0.step)⟩
 case round=>
  clear H';obtain⟨x3_1,rfl,HA,HK1,⟨m1,rfl⟩⟩:=hrel;cases gk with
  |zero=>exact absurd HA.out (by simp[larderref23_none.l0])
  |succ k1=>
   have H:=HA.out;clear HA;simp only[larderref23_none.l0]at H;by_cases c2:x3_1<(l0.length:Int)
   · rw[if_pos c2]at H
     have c2b0:decide (x3_1<(l0.length:Int))=true:=decide_eq_true c2;clear c2;by_cases c3:0≤x3_1
     · rw[if_pos c3]at H
       have c3b0:decide (0≤x3_1)=true:=decide_eq_true c3;clear c3;by_cases c4:(rdOf ByteArray.empty l0 x3_1).toList=([]:List UInt8)
       · rw[if_pos c4]at H
         have c4b0:((rdOf ByteArray.empty l0 x3_1).toList==([]:List UInt8))=true:=beq_iff_eq.mpr c4;have c4b1:((rdOf ByteArray.empty l0 x3_1).toList !=([]:List UInt8))=false:=bne_eq_false_iff_eq.mpr c4;clear c4;have H':=Aside0.mk H;clear H;have p618:0≤(x3_1:Int):=of_decide_eq_true (by first|(with_reducible assumption)|assumption);have q618:x3_1<(l0.length:Int):=of_decide_eq_true (by first|(with_reducible assumption)|assumption);obtain⟨ad618,e618,hx618_0⟩:=Kd.at_string HR0.out x3_1 p618 q618;cases e618;replace p618:=eq_true p618;replace q618:=eq_true q618;go_wp2;go_roundg k1
         case measure=>have:=HK1.out;omega
         case rel=>exact⟨(wrap64 (x3_1+1)),(by first|rfl|(simp;done)|(simp[*];done)),H',⟨by have:=HK1.out;omega⟩,by repeat(first|exact Drawn0.refl _|apply Drawn0.step)⟩
       · rw[if_neg c4]at H
         have c4b0:((rdOf ByteArray.empty l0 x3_1).toList==([]:List UInt8))=false:=beq_eq_false_iff_ne.mpr c4;have c4b1:((rdOf ByteArray.empty l0 x3_1).toList !=([]:List UInt8))=true:=bne_iff_ne.mpr c4;obtain rfl:=Option.some.inj H;have p618:0≤(x3_1:Int):=of_decide_eq_true (by first|(with_reducible assumption)|assumption);have q618:x3_1<(l0.length:Int):=of_decide_eq_true (by first|(with_reducible assumption)|assumption);obtain⟨ad618,e618,hx618_0⟩:=Kd.at_string HR0.out x3_1 p618 q618;cases e618;replace p618:=eq_true p618;replace q618:=eq_true q618;go_wp2;go_ret;exact⟨by first|rfl|(simp;done)|(simp[*];done),by repeat(first|exact Drawn0.refl _|apply Drawn0.step)⟩
     · rw[if_neg c3]at H
       exact absurd H (by simp)
   · rw[if_neg c2]at H
     have c2b0:decide (x3_1<(l0.length:Int))=false:=decide_eq_false c2;clear c2;obtain rfl:=Option.some.inj H;go_wp2;go_ret;exact⟨by first|rfl|(simp;done)|(simp[*];done),by repeat(first|exact Drawn0.refl _|apply Drawn0.step)⟩
def larderref23_Digits.f:Nat→Int→Option (Bs)
 |0,_=>none
 |k+1,a0=>if a0<10 then(some (strOfNums (([(wrap64 (48+a0)) % 256]:List Int))))else((larderref23_Digits.f k (wrap64 (Int.tdiv a0 10))).bind fun t644=>((larderref23_Digits.f k (Int.tmod a0 10)).bind fun t645=>(if t644.size+t645.size≤9223372036854775807 then(some (t644++t645))else(none))))
theorem larderref23_Digits.calls (k:Nat):∀(a0:Int) (r:Bs) (w:World) (h:larderref23_Digits.f k a0=some r),
 Calls Tryz.prog 90 #[.int .i64 a0] w fun e w'=>e= .returned (.string r)∧Below w.heap.size w w':=by
 induction k using Nat.strongRecOn with
 |_ k ih=>
 intro a0 r w h;cases k with
 |zero=>exact absurd h (by simp[larderref23_Digits.f])
 |succ k=>
 simp only[larderref23_Digits.f]at h;have HB:=Aside0.mk (Below.refl w.heap.size w);have H:(if a0<10 then(some (strOfNums (([(wrap64 (48+a0)) % 256]:List Int))))else((larderref23_Digits.f k (wrap64 (Int.tdiv a0 10))).bind fun t644=>((larderref23_Digits.f k (Int.tmod a0 10)).bind fun t645=>(if t644.size+t645.size≤9223372036854775807 then(some (t644++t645))else(none)))))=some r:=h;clear h;by_cases c2:a0<10
 · rw[if_pos c2]at H
   have c2b0:decide (a0<10)=true:=decide_eq_true c2;clear c2;obtain⟨y641,hy641⟩:∃y_:List Int,y_=(([(wrap64 (48+a0)) % 256]:List Int)):=⟨_,rfl⟩;replace H:(some (strOfNums y641))=some r:=by first|(rw[hy641];with_reducible exact H)|(have H2_:=(Option.bind_some _ _).symm.trans H;rw[hy641];with_reducible exact H2_)|(have H2_:=(Option.bind_some _ _).symm.trans H;with_reducible exact H2_)|with_reducible exact H|(rw[hy641];exact H)|exact H
   have Ny641:=Aside0.mk hy641;clear hy641;obtain rfl:=Option.some.inj H;go_enter Tryz.func90,Tryz.ntmps90;go_wp2_with(first|((with_reducible refine gate_dst (N:=8) rfl ?_);refine Kd.R_lit (Kd.int .u8) _ 5 ?hg (N:=8) ?hd (xs:=([(wrap64 (48+a0)) % 256]:List Int)) (inner:=[.int .u8 ((wrap64 (48+a0)) % 256)]) (ok:=fun _=>True) (okp:=fun _=>True) ?hr ?hp (fun _ hk=>hk) trivial (Below.refl _ _) (Nat.le_refl _) (by simp) ?_;(case hd=>rfl);(case hg=>rfl);(case hr=>first|(go_simp;done)|(go_simp;rfl));(case hp=>exact(Reps.one (show Kd.M (Kd.int .u8) _ _ _ ((wrap64 (48+a0)) % 256) [.int .u8 ((wrap64 (48+a0)) % 256)] from rfl) (Reps.none _ _)));intro v642 w3 ho4 hb hg_ hnew_;clear hg_ hnew_;(first|rw[← Ny641.out]at ho4|(simp only[Int.reduceToNat]at ho4;rw[← Ny641.out]at ho4));have n0_:=Aside0.mk (Kd.R_lower ho4 (below_size (by repeat(first|(with_reducible first|exact HB.out|apply below_alloc|apply pw_below_drewN|apply below_drew1)|exact HB.out))));have n1_:=Aside0.mk (below_step (by repeat(first|(with_reducible first|exact HB.out|apply below_alloc|apply pw_below_drewN|apply below_drew1)|exact HB.out)) hb);clear HB;have HO643:=n0_;have HB:=n1_;clear n0_ n1_;clear hb ho4;have hcv5:=own_string (P:=Tryz.prog) Tryz.underlying46 Tryz.underlying5 Tryz.underlying9 (Kd.own_of_R HO643.out)))
   go_ret;exact⟨by first|rfl|(simp[errW_none,errW_some]<;>rfl)|(simp[*,errW_none,errW_some]<;>rfl),by repeat(first|(with_reducible first|exact HB.out|apply below_alloc|apply pw_below_drewN|apply below_drew1)|exact HB.out)⟩
 · rw[if_neg c2]at H
   have c2b0:decide (a0<10)=false:=decide_eq_false c2;clear c2;replace H:=Option.bind_eq_some_iff.mp H;obtain⟨t644,A60,H⟩:=H;replace H:((larderref23_Digits.f k (Int.tmod a0 10)).bind fun t645=>(if t644.size+t645.size≤9223372036854775807 then(some (t644++t645))else(none)))=some r:=H;have A6:=Aside0.mk A60;clear A60;replace H:=Option.bind_eq_some_iff.mp H;obtain⟨t645,A70,H⟩:=H;replace H:(if t644.size+t645.size≤9223372036854775807 then(some (t644++t645))else(none))=some r:=H;have A7:=Aside0.mk A70;clear A70;by_cases c8:t644.size+t645.size≤9223372036854775807
   · rw[if_pos c8]at H
     have c8b0:=eq_true c8;have c8b1:decide (t644.size+t645.size≤9223372036854775807)=true:=decide_eq_true c8
     try have c8b2:(9223372036854775807<t644.size+t645.size)=False:=eq_false (Nat.not_lt.2 c8)
     obtain rfl:=Option.some.inj H;go_enter Tryz.func90,Tryz.ntmps90;go_wp2_with(first|((with_reducible refine gate_callee (f:=90) rfl ?_);refine goesL_ (some 12) rfl rfl Tryz.func90 (by kernel_rfl) rfl #[.int .i64 (wrap64 (Int.tdiv a0 10))] rfl (by(try simp only[List.map_toArray,List.map_cons,List.map_nil]);first|done|rfl|(simp only[List.length_drop,List.length_take];rfl)) ?_;(with_reducible refine(ih k (by omega) (wrap64 (Int.tdiv a0 10)) t644 _ A6.out).mono ?_);rintro e w9 ⟨rfl,hb⟩;refine⟨_,rfl,?_⟩;have n0_:=Aside0.mk (below_step (by repeat(first|(with_reducible first|exact HB.out|apply below_alloc|apply pw_below_drewN|apply below_drew1)|exact HB.out)) hb);clear HB;have HB:=n0_;clear n0_;(try clear hb);(try clear hb2);(try clear hk);(try clear hi))|((with_reducible refine gate_callee (f:=90) rfl ?_);refine goesL_ (some 15) rfl rfl Tryz.func90 (by kernel_rfl) rfl #[.int .i64 (Int.tmod a0 10)] rfl (by(try simp only[List.map_toArray,List.map_cons,List.map_nil]);first|done|rfl|(simp only[List.length_drop,List.length_take];rfl)) ?_;(with_reducible refine(ih k (by omega) (Int.tmod a0 10) t645 _ A7.out).mono ?_);rintro e w10 ⟨rfl,hb⟩;refine⟨_,rfl,?_⟩;have n0_:=Aside0.mk (below_step (by repeat(first|(with_reducible first|exact HB.out|apply below_alloc|apply pw_below_drewN|apply below_drew1)|exact HB.out)) hb);clear HB;have HB:=n0_;clear n0_;(try clear hb);(try clear hb2);(try clear hk);(try clear hi)))
     go_ret;exact⟨by first|rfl|(simp[errW_none,errW_some]<;>rfl)|(simp[*,errW_none,errW_some]<;>rfl),by repeat(first|(with_reducible first|exact HB.out|apply below_alloc|apply pw_below_drewN|apply below_drew1)|exact HB.out)⟩
   · rw[if_neg c8]at H
     exact absurd H (by simp)
def larderref23_tabs.l0:Nat→Int→Bs→Int→Option (Bs)
 |0,_,_,_=>none
 |k+1,x0,x3,x4=>if x4<x0 then(if x4<8 then(if x3.size+1≤9223372036854775807 then(larderref23_tabs.l0 k x0 (x3++(⟨#[9]⟩:Bs)) (wrap64 (x4+1)))else(none))else(some x3))else(some x3)
def larderref23_tabs.f (k:Nat) (a0:Int):Option (Bs):=larderref23_tabs.l0 k a0 (⟨#[]⟩:Bs) 0
theorem larderref23_tabs.calls (k:Nat) (a0:Int) (r:Bs) (w:World) (h:larderref23_tabs.f k a0=some r):
 Calls Tryz.prog 67 #[.int .i64 a0] w fun e w'=>e= .returned (.string r)∧Drawn0 w w':=by
 have H:(larderref23_tabs.l0 k a0 (⟨#[]⟩:Bs) 0)=some r:=h;clear h;have H':=Aside0.mk H;clear H;go_enter Tryz.func67,Tryz.ntmps67;go_wp2;go_loopg [3,4] k (fun kq v3 v4 w'=>∃(x3_1:Bs) (x4_1:Int),v3= .string x3_1∧v4= .int .i64 x4_1∧Aside0 (larderref23_tabs.l0 kq a0 x3_1 x4_1=some r)∧Aside0 (kq≤k)∧Drawn0 w w')
 case atStart=>exact⟨((⟨#[]⟩:Bs)),(0),(by first|rfl|(simp;done)|(simp[*];done)),(by first|rfl|(simp;done)|(simp[*];done)),H',⟨Nat.le_refl _⟩,by repeat(first|exact Drawn0.refl _|apply Drawn0.step)⟩
 case round=>
  clear H';obtain⟨x3_1,x4_1,rfl,rfl,HA,HK1,⟨m1,rfl⟩⟩:=hrel;cases gk with
  |zero=>exact absurd HA.out (by simp[larderref23_tabs.l0])
  |succ k1=>
   have H:=HA.out;clear HA;simp only[larderref23_tabs.l0]at H;by_cases c2:x4_1<a0
   · rw[if_pos c2]at H
     have c2b0:decide (x4_1<a0)=true:=decide_eq_true c2;clear c2;by_cases c3:x4_1<8
     · rw[if_pos c3]at H
       have c3b0:decide (x4_1<8)=true:=decide_eq_true c3;clear c3;by_cases c4:x3_1.size+1≤9223372036854775807
       · rw[if_pos c4]at H
         have c4b0:=eq_true c4;have c4b1:decide (x3_1.size+1≤9223372036854775807)=true:=decide_eq_true c4
         try have c4b2:(9223372036854775807<x3_1.size+1)=False:=eq_false (Nat.not_lt.2 c4)
         have H':=Aside0.mk H;clear H;go_wp2;go_roundg k1
         case measure=>have:=HK1.out;omega
         case rel=>exact⟨(x3_1++(⟨#[9]⟩:Bs)),(wrap64 (x4_1+1)),(by first|rfl|(simp;done)|(simp[*];done)),(by first|rfl|(simp;done)|(simp[*];done)),H',⟨by have:=HK1.out;omega⟩,by repeat(first|exact Drawn0.refl _|apply Drawn0.step)⟩
       · rw[if_neg c4]at H
         exact absurd H (by simp)
     · rw[if_neg c3]at H
       have c3b0:decide (x4_1<8)=false:=decide_eq_false c3;clear c3;obtain rfl:=Option.some.inj H;go_wp2;go_ret;exact⟨by first|rfl|(simp;done)|(simp[*];done),by repeat(first|exact Drawn0.refl _|apply Drawn0.step)⟩
   · rw[if_neg c2]at H
     have c2b0:decide (x4_1<a0)=false:=decide_eq_false c2;clear c2;obtain rfl:=Option.some.inj H;go_wp2;go_ret;exact⟨by first|rfl|(simp;done)|(simp[*];done),by repeat(first|exact Drawn0.refl _|apply Drawn0.step)⟩
end Go.Proofs.YtbemddpmohoooaaGreatDoor.PShelfFormats
