import Derived.Test.YtbemddpmohoooaaGreatDoorQ20
import Derived.Test.YtbemddpmohoooaaGreatDoorQ23
set_option linter.unusedVariables false
set_option linter.unusedSimpArgs false
set_option linter.unusedSectionVars false
set_option maxHeartbeats 128000000
set_option maxRecDepth 100000
namespace Go.Proofs.YtbemddpmohoooaaGreatDoor
open PShelfFormats RowKit YtbemddpmohoooaaGreatDoorW YtbemddpmohoooaaGreatDoorW.PrintWords
theorem dnone_call (a b:Bs) (W:World):Calls Tryz.prog 66 #[.slice (some ⟨W.heap.size,0,none⟩) 2 2] (W.alloc (.cells #[.string a,.string b] 9)) fun e w'=>e= .returned (.bool (decide (a.toList=[])&&decide (b.toList=[])))∧Below W.heap.size W w':=by
 obtain⟨k,hk⟩:=(none_any a b).get;exact(larderref23_none.calls k _ _ [a,b] _ _ (lit_C W [a,b] (by simp)) (Nat.le_refl _) hk).mono (fun e w' z=>⟨z.1,(Below.alloc (Below.refl W.heap.size W) (Nat.le_refl _) _).trans (z.2.below.mono (by simp))⟩)
inductive XD:Int→Int→Bs→Bs→Nat→Prop
 |num (n:Int):0≤n→XD 1 n e0 e0 0
 |name (s:Bs):NameS s→XD 2 0 s e0 0
 |index (s:Bs):NameS s→XD 3 0 s e0 1
 |has (s:Bs):NameS s→XD 4 0 s e0 1
 |len (s:Bs):NameS s→XD 5 0 s e0 0
 |neg:XD 6 0 e0 ⟨#[45]⟩ 1
 |not:XD 6 0 e0 ⟨#[33]⟩ 1
 |bin (o:Bs):0<rank0 o.toList+1→XD 7 0 e0 o 2
theorem xd_walk {K num:Int} {s o:Bs} {m:Nat} (h:XD K num s o m) (W:World) (A:Option Addr) (c:Nat):
 Calls Tryz.prog 35 #[.agg #[.int .i64 K,.int .i64 num,.string s,.string o,.slice A m c]] W fun e w'=>e= .returned (.bool true)∧Below W.heap.size W w':=by
 have E0:e0.toList=([]:List UInt8):=e0_list;have NC:=η (fun(hs:NameS s) (w':World)=>dname_call hs w');have RC:=η (fun(w':World)=>drank_call w' o);have ON:=η (fun(w':World)=>dnone_call s o w');go_enter Tryz.func35,Tryz.ntmps35;go_upto_region 1 with(first|((with_reducible refine gate_dst (N:=1) rfl ?_);refine bxE (N:=1) (cs:=#[.int .i64 K,.int .i64 num,.string s,.string o,.slice A m c]) (t:=80) ?_;intro g hg w4 hbox hb4))
 subst hg;obtain⟨e0,e1,e2,e3,e4,ef⟩:=hp5 hbox;have B4:=η hb4;clear hbox hb4;cases h
 all_goals
  go_wp2_with(first|(go_at_call 32;refine(NC.out (by assumption) _).mono ?_;rintro e_ w5 ⟨rfl,H5⟩;have B5:=η (below_step B4.out H5);clear H5)|(go_at_call 57;refine(RC.out _).mono ?_;rintro e_ w5 ⟨rfl,H5⟩;have B5:=η (below_step B4.out H5);clear H5)|(go_at_call 66;refine(ON.out _).mono ?_;rintro e_ w5 ⟨rfl,H5⟩;have B5:=η (below_step B4.out H5);clear H5))
  go_ret
  first
  |exact⟨rfl,B5.out⟩
  |exact⟨rfl,B4.out⟩
  |exact⟨by simp[E0, *],B5.out⟩
theorem ex_true {x:S80} {t:List UInt8} {m:Nat} (h:EX x t m) (W:World) (A:Option Addr) (c:Nat):Calls Tryz.prog 35 #[.agg (c80 x A c)] W fun e w'=>e= .returned (.bool true)∧Below W.heap.size W w':=by
 cases h with
 |num n h0 h1=>exact xd_walk (.num n h0) W A c
 |name s hs=>exact xd_walk (.name s hs) W A c
 |index s x t m hs hx=>exact xd_walk (.index s hs) W A c
 |has s x t m hs hx=>exact xd_walk (.has s hs) W A c
 |len s hs=>exact xd_walk (.len s hs) W A c
 |un o x t m ho hx=>
  rcases ho with q|q
  · obtain rfl:o=⟨#[45]⟩:=bt_lit.mp q
    exact xd_walk .neg W A c
  · obtain rfl:o=⟨#[33]⟩:=bt_lit.mp q
    exact xd_walk .not W A c
 |bin o x y t u m n r hr hx hy=>exact xd_walk (.bin o (by rw[hr];omega)) W A c
inductive SD:Int→Bs→Bs→Bs→Nat→Nat→Nat→Prop
 |set (s:Bs):NameS s→SD 1 s e0 e0 1 0 0
 |put (s:Bs):NameS s→SD 2 s e0 e0 2 0 0
 |del (s:Bs):NameS s→SD 3 s e0 e0 1 0 0
 |clr (s:Bs):NameS s→SD 4 s e0 e0 0 0 0
 |prt (m:Nat):SD 5 e0 e0 e0 m 0 0
 |if0:SD 6 e0 e0 e0 1 0 0
 |if1 (b e:Nat):((b:Int)==0)=false→SD 6 e0 e0 e0 1 b e
 |if2 (e:Nat):((e:Int)==0)=false→SD 6 e0 e0 e0 1 0 e
 |wh0:SD 7 e0 e0 e0 1 0 0
 |wh1 (b:Nat):((b:Int)==0)=false→SD 7 e0 e0 e0 1 b 0
 |rg0 (s a c:Bs):NameS s→NameS a→NameS c→SD 8 s a c 0 0 0
 |rg1 (s a c:Bs) (b:Nat):NameS s→NameS a→NameS c→((b:Int)==0)=false→SD 8 s a c 0 b 0
 |brk:SD 9 e0 e0 e0 0 0 0
 |cnt:SD 10 e0 e0 e0 0 0 0
theorem sd_walk {K:Int} {s1 s2 s3:Bs} {m nb ne:Nat} (h:SD K s1 s2 s3 m nb ne) (W:World) (A4:Option Addr) (c4:Nat) (A5:Option Addr) (c5:Nat) (A6:Option Addr) (c6:Nat):
 Calls Tryz.prog 34 #[.agg #[.int .i64 K,.string s1,.string s2,.string s3,.slice A4 m c4,.slice A5 nb c5,.slice A6 ne c6]] W fun e w'=>e= .returned (.bool true)∧Below W.heap.size W w':=by
 have E0:e0.toList=([]:List UInt8):=e0_list;have NC:=η (fun(s:Bs) (hs:NameS s) (w':World)=>dname_call hs w');have ON:=η (fun(w':World)=>dnone_call s2 s3 w');go_enter Tryz.func34,Tryz.ntmps34;go_upto_region 1 with(first|((with_reducible refine gate_dst (N:=1) rfl ?_);refine bxE (N:=1) (cs:=#[.int .i64 K,.string s1,.string s2,.string s3,.slice A4 m c4,.slice A5 nb c5,.slice A6 ne c6]) (t:=62) ?_;intro g hg w4 hbox hb4))
 subst hg;have KX:=η (fun(W':World) (H:Below w4.heap.size w4 W')=>hp_keep hbox H);obtain⟨e0,e1,e2,e3,e4,e5,e6,ef⟩:=heap7 hbox;have B4:=η hb4;have X:=η (Below.refl w4.heap.size w4);clear hbox hb4;cases h
 all_goals
  go_wp2_with(first|(go_at_call 32;refine(NC.out _ (by assumption) _).mono ?_;rintro e_ w5 ⟨rfl,H5⟩;replace X:=η (X.out.trans (H5.mono X.out.size));clear e0 e1 e2 e3 e4 e5 e6 ef H5;obtain⟨e0,e1,e2,e3,e4,e5,e6,ef⟩:=heap7 (KX.out w5 X.out))|(go_at_call 66;refine(ON.out _).mono ?_;rintro e_ w5 ⟨rfl,H5⟩;replace X:=η (X.out.trans (H5.mono X.out.size));clear e0 e1 e2 e3 e4 e5 e6 ef H5;obtain⟨e0,e1,e2,e3,e4,e5,e6,ef⟩:=heap7 (KX.out w5 X.out)))
  go_ret
  first
  |exact⟨rfl,B4.out.trans (X.out.mono B4.out.size)⟩
  |exact⟨by simp[E0],B4.out.trans (X.out.mono B4.out.size)⟩
theorem sd_if:∀(b e:Nat),SD 6 e0 e0 e0 1 b e
 |0,0=> .if0
 |0,e+1=> .if2 _ (by rw[beq_eq_false_iff_ne];omega)
 |b+1,e=> .if1 _ _ (by rw[beq_eq_false_iff_ne];omega)
theorem sd_wh:∀(b:Nat),SD 7 e0 e0 e0 1 b 0
 |0=> .wh0
 |b+1=> .wh1 _ (by rw[beq_eq_false_iff_ne];omega)
theorem sd_rg {s a c:Bs} (hs:NameS s) (ha:NameS a) (hc:NameS c):∀(b:Nat),SD 8 s a c 0 b 0
 |0=> .rg0 _ _ _ hs ha hc
 |b+1=> .rg1 _ _ _ _ hs ha hc (by rw[beq_eq_false_iff_ne];omega)
theorem sx_true {s:S62} {ls:Nat→List (List UInt8)} {m:Nat} (h:SX s ls m) (W:World) (A4:Option Addr) (c4:Nat) (A5:Option Addr) (c5:Nat) (A6:Option Addr) (c6:Nat):Calls Tryz.prog 34 #[.agg (c62 s A4 c4 A5 c5 A6 c6)] W fun e w'=>e= .returned (.bool true)∧Below W.heap.size W w':=by
 cases h with
 |set s x t m hs hx=>exact sd_walk (.set s hs) W A4 c4 A5 c5 A6 c6
 |put s x y t u m n hs hx hy=>exact sd_walk (.put s hs) W A4 c4 A5 c5 A6 c6
 |del s x t m hs hx=>exact sd_walk (.del s hs) W A4 c4 A5 c5 A6 c6
 |clr s hs=>exact sd_walk (.clr s hs) W A4 c4 A5 c5 A6 c6
 |prt xs ts m hx=>exact sd_walk (.prt xs.length) W A4 c4 A5 c5 A6 c6
 |ifs s h ls m hc=>
  cases hc with
  |one x t b bs m n hx hb=>exact sd_walk (sd_if b.length 0) W A4 c4 A5 c5 A6 c6
  |els x t b bs e es m n k hx hb he1 he2 he=>exact sd_walk (sd_if b.length e.length) W A4 c4 A5 c5 A6 c6
  |eif x t b bs c h ls m n k hx hb hc=>exact sd_walk (sd_if b.length 1) W A4 c4 A5 c5 A6 c6
 |whl x t b bs m n hx hb=>exact sd_walk (sd_wh b.length) W A4 c4 A5 c5 A6 c6
 |rng s a c b bs n hs ha hc hb=>exact sd_walk (sd_rg hs ha hc b.length) W A4 c4 A5 c5 A6 c6
 |brk=>exact sd_walk .brk W A4 c4 A5 c5 A6 c6
 |cnt=>exact sd_walk .cnt W A4 c4 A5 c5 A6 c6
end Go.Proofs.YtbemddpmohoooaaGreatDoor
