import Derived.Test.YtbemddpmohoooaaGreatDoorQ29
import Derived.Test.YtbemddpmohoooaaGreatDoorQ31
import Derived.Test.YtbemddpmohoooaaGreatDoorQ33
set_option linter.unusedVariables false
set_option linter.unusedSimpArgs false
set_option linter.unusedSectionVars false
set_option maxHeartbeats 128000000
set_option maxRecDepth 100000
namespace Go.Proofs.YtbemddpmohoooaaGreatDoor
open PShelfFormats RowKit YtbemddpmohoooaaGreatDoorW YtbemddpmohoooaaGreatDoorW.PrintWords
theorem Wrt.alloc {b:Nat} {x y:World} (h:Wrt b x y) (o:Obj):Wrt b x (y.alloc o):=Turn.alloc h o
theorem Wrt.drew {b:Nat} {x y:World} (h:Wrt b x y):Wrt b x y.drew:=Turn.drew h
theorem WR.step {W w:World} {b:Nat} {o:List UInt8} {d:Nat} (h:WR W b o d) (hb:Below W.heap.size W w):WR w b o d:=by
 obtain⟨p,v,h⟩:=h;exact⟨p,v,h.step hb⟩
theorem row_str {w:World} {g:Nat} (l:List Bs) (hl:l.length≤1000000) (h:w.heap[g]? =some (.cells (l.map Value.string).toArray 9 (0,0))):Kd.C Kd.string w (some ⟨g,0,none⟩) l.length l:=by
 refine⟨rfl,by omega,fun hp=>⟨_,rfl,fun i x hx=>⟨[.string x],rfl,rfl,fun j u hu=> ?_⟩⟩⟩;rcases j with _|j
 · obtain rfl:=Option.some.inj hu
   have e:Kd.string.sz=1:=rfl;rw[addr_add,e,Nat.mul_one,Nat.zero_add,Nat.add_zero];simp[World.cell?,h,hx]
 · simp at hu
theorem lit_line {W:World} {b:Nat} {o:List UInt8} {d:Nat} (R:WR W b o d) (hd:d<1000000000) (ps:List Bs) (hps:ps.length≤1000) (hn:o.length+(texts ps).length+10≤140737488355328):
 Calls Tryz.prog 23 #[.pointer (some ⟨b,0,none⟩),.slice (some ⟨W.heap.size,0,none⟩) ps.length ps.length] (W.alloc (.cells (ps.map Value.string).toArray 9)) fun e w'=>e= .returned (.tuple #[])∧WR w' b (o++tabL d++texts ps++[10]) d∧Wrt b W w':=by
 have hbl:=R.lt;have hB:Below W.heap.size W (W.alloc (.cells (ps.map Value.string).toArray 9)):=Below.alloc (Below.refl _ _) (Nat.le_refl _) _;refine(line_call (R.step hB) hd ps _ _ (by omega) (fun w' H=>row_str ps (by omega) (H.keep (alloc_new W _) (by omega) (by decide))) hn).mono ?_;rintro e w' ⟨rfl,h1,h2⟩;exact⟨rfl,h1,(Wrt.of_below hB).trans h2 hbl⟩
def PS (D:Nat) (s:S62) (ls:Nat→List (List UInt8)):Prop:=∀(V W:World) (b:Nat) (o:List UInt8) (d:Nat) (A4:Option Addr) (c4:Nat) (A5:Option Addr) (c5:Nat) (A6:Option Addr) (c6:Nat),
 Lib.TabIs Tryz.prog V "internal/strconv.uint64pow10" .u64 Lib.pow10Tab→Below V.heap.size V W→V.heap.size≤b→WR W b o d→VC V s A4 c4 A5 c5 A6 c6→d≤D→o.length+(flat (ls d)).length+1000≤140737488355328→
 Calls Tryz.prog 52 #[.pointer (some ⟨b,0,none⟩),.agg (c62 s A4 c4 A5 c5 A6 c6)] W fun e w'=>e= .returned (.tuple #[])∧WR w' b (o++flat (ls d)) d∧Wrt b W w'
def PBk (D:Nat) (l:List S62) (bs:Nat→List (List UInt8)):Prop:=∀(V W:World) (b:Nat) (o:List UInt8) (d:Nat) (A:Option Addr) (c:Nat),
 Lib.TabIs Tryz.prog V "internal/strconv.uint64pow10" .u64 Lib.pow10Tab→Below V.heap.size V W→V.heap.size≤b→WR W b o d→l.length≤c→Kd.C k62 V A l.length l→d≤D→o.length+(flat (bs (d+1))).length+1000≤140737488355328→
 Calls Tryz.prog 86 #[.pointer (some ⟨b,0,none⟩),.slice A l.length c] W fun e w'=>e= .returned (.tuple #[])∧WR w' b (o++flat (bs (d+1))) d∧Wrt b W w'
noncomputable def pow10G:Nat:=(Tryz.prog.globalNamed "internal/strconv.uint64pow10").getD 0
theorem uint64pow10_is:Tryz.prog.globalNamed "internal/strconv.uint64pow10" =some pow10G:=by
 obtain⟨g,h⟩:=uint64pow10_no;unfold pow10G;rw[h];rfl
theorem ps_set (D:Nat) (hD:D≤16000000) (s:Bs) (x:S80) (t:List UInt8) (m:Nat) (hs:s.size≤1048576) (hx:EX x t m) (hm:m≤8000000):PS D ({st 1 with f1:=s,f4:=[x]}) (fun d=>[tabL d++s.toList++[32,61,32]++t++[59]]):=by
 intro V W b o d A4 c4 A5 c5 A6 c6 ht hV hVb R VV hd hn;obtain⟨ad,A1,c1,eA,hc,hl1,hC1⟩:=first80 VV.g4;obtain rfl:=eA;have hexl:=ex_len hx;have TX:=η (fun W' (H:Below V.heap.size V W')=>ptext_call hx W' A1 c1 (Joins.tab_stays uint64pow10_is ht H (Nat.le_refl _)) hl1 (Kd.C_below hC1 H) (by omega));replace hc:=η hc;have hbl:=R.lt;replace R:=η R;replace hn:=η hn;have HT:=η ht;replace VV:=η VV;clear ht;go_enter Tryz.func52,Tryz.ntmps52;go_upto_region 1 with(first|((with_reducible refine gate_dst (N:=3) rfl ?_);refine bxE (N:=3) (cs:=c62 ({st 1 with f1:=s,f4:=[x]}) (some ad) c4 A5 c5 A6 c6) (t:=62) ?_;intro g hg w4 hbox hb4))
 have hb4l:b<w4.heap.size:=Nat.lt_of_lt_of_le hbl hb4.size;have hne:g≠b:=by omega
 have hV4:Below V.heap.size V w4:=hV.trans (hb4.mono hV.size);have R4:=η (R.out.step hb4);have XW:=η (Wrt.of_below (b:=b) hb4);have K0:=η (heap7c hbox).1
 have SC:=η (show ∀W',Wrt b w4 W'→W'.cell? ⟨g,1,none⟩=some (.string s)∧W'.cell? ⟨g,4,none⟩=some (.slice (some ad) 1 c4)∧W'.cell? ad=some (.int .i64 x.f0)∧W'.cell? ⟨ad.block,ad.off+1,none⟩=some (.int .i64 x.f1)∧W'.cell? ⟨ad.block,ad.off+2,none⟩=some (.string x.f2)∧W'.cell? ⟨ad.block,ad.off+3,none⟩=some (.string x.f3)∧W'.cell? ⟨ad.block,ad.off+4,none⟩=some (.slice A1 x.f4.length c1) from fun W' H=>by
  obtain⟨q0,q1,q2,q3,q4,q5,q6,qf⟩:=heap7c (H.keep hbox hne (by decide));exact⟨q1,q4,hc.out W' (Wrt.low hV4 hVb H)⟩)
 have VB:=η (fun W' (H:Wrt b w4 W')=>Wrt.low hV4 hVb H);replace hbl:=η hbl;replace hb4l:=η hb4l;subst hg;clear hbox hb4 hV hV4 hVb hne R;have k0:=K0.out;go_upto_region 4 with fail
 clear k0 K0;have hd9:d<1000000000:=by omega
 have SD:=η (SC.out w4.drew (Wrt.refl b w4).drew);have CC:=η (TX.out w4.drew (VB.out w4.drew (Wrt.refl b w4).drew));clear TX;have LLF:=η (fun(w9:World) (R9:WR w9 b o d)=>lit_line R9 hd9 [s,(⟨#[32,61,32]⟩:Bs),B t,(⟨#[59]⟩:Bs)] (by simp only[List.length_cons,List.length_nil];omega) (by have:=hn.out;simp only[texts,flat,List.length_append,List.length_cons,List.length_nil,B_toList,lit_toList]at*;omega))
 go_region_held3 (fun x'=>x'.cell? ⟨W.heap.size,1,none⟩=some (.string s)∧x'.cell? ⟨W.heap.size,4,none⟩=some (.slice (some ad) 1 c4)∧x'.cell? ad=some (.int .i64 x.f0)∧x'.cell? ⟨ad.block,ad.off+1,none⟩=some (.int .i64 x.f1)∧x'.cell? ⟨ad.block,ad.off+2,none⟩=some (.string x.f2)∧x'.cell? ⟨ad.block,ad.off+3,none⟩=some (.string x.f3)∧x'.cell? ⟨ad.block,ad.off+4,none⟩=some (.slice A1 x.f4.length c1))
  ((first|exact SD.out|exact SE.out|exact SF.out|exact SG.out _ (Wrt.alloc (Wrt.refl _ _) _)|exact SG.out _ (Wrt.drew (Wrt.alloc (Wrt.refl _ _) _))))
  ((first|(go_at_call 83;refine CC.out.mono ?_;rintro e_ w9 ⟨rfl,H9⟩;have X9:=η ((Wrt.refl b w4).drew.trans (Wrt.of_below H9) hb4l.out);have SE:=η (SC.out w9 X9.out);have SG:=η (fun W' H=>SC.out W' (X9.out.trans H hb4l.out));have R9:=η (R4.out.step (Below.trans (Below.refl _ _).drew H9));have LL:=η (LLF.out w9 R9.out);clear H9)|(go_at_call 23;refine LL.out.mono ?_;rintro e_ w11 ⟨rfl,R11,H11⟩;have X11:=η (X9.out.trans H11 hb4l.out);replace R11:=η R11;have SF:=η (SC.out w11 X11.out);clear H11)))
 clear SC VB SD SE SG SF CC LL R9 X9;go_wp2_with fail
 go_end0;refine⟨rfl,?_,XW.out.trans X11.out hbl.out⟩;refine cast (congrArg (fun l=>WR _ b l d) ?_) R11.out;simp[flat,texts,B_toList,lit_toList]
theorem ps_del (D:Nat) (hD:D≤16000000) (s:Bs) (x:S80) (t:List UInt8) (m:Nat) (hs:s.size≤1048576) (hx:EX x t m) (hm:m≤8000000):PS D ({st 3 with f1:=s,f4:=[x]}) (fun d=>[tabL d++[100,101,108,101,116,101,32]++s.toList++[91]++t++[93,59]]):=by
 intro V W b o d A4 c4 A5 c5 A6 c6 ht hV hVb R VV hd hn;obtain⟨ad,A1,c1,eA,hc,hl1,hC1⟩:=first80 VV.g4;obtain rfl:=eA;have hexl:=ex_len hx;have TX:=η (fun W' (H:Below V.heap.size V W')=>ptext_call hx W' A1 c1 (Joins.tab_stays uint64pow10_is ht H (Nat.le_refl _)) hl1 (Kd.C_below hC1 H) (by omega));replace hc:=η hc;have hbl:=R.lt;replace R:=η R;replace hn:=η hn;have HT:=η ht;replace VV:=η VV;clear ht;go_enter Tryz.func52,Tryz.ntmps52;go_upto_region 1 with(first|((with_reducible refine gate_dst (N:=3) rfl ?_);refine bxE (N:=3) (cs:=c62 ({st 3 with f1:=s,f4:=[x]}) (some ad) c4 A5 c5 A6 c6) (t:=62) ?_;intro g hg w4 hbox hb4))
 have hb4l:b<w4.heap.size:=Nat.lt_of_lt_of_le hbl hb4.size;have hne:g≠b:=by omega
 have hV4:Below V.heap.size V w4:=hV.trans (hb4.mono hV.size);have R4:=η (R.out.step hb4);have XW:=η (Wrt.of_below (b:=b) hb4);have K0:=η (heap7c hbox).1
 have SC:=η (show ∀W',Wrt b w4 W'→W'.cell? ⟨g,1,none⟩=some (.string s)∧W'.cell? ⟨g,4,none⟩=some (.slice (some ad) 1 c4)∧W'.cell? ad=some (.int .i64 x.f0)∧W'.cell? ⟨ad.block,ad.off+1,none⟩=some (.int .i64 x.f1)∧W'.cell? ⟨ad.block,ad.off+2,none⟩=some (.string x.f2)∧W'.cell? ⟨ad.block,ad.off+3,none⟩=some (.string x.f3)∧W'.cell? ⟨ad.block,ad.off+4,none⟩=some (.slice A1 x.f4.length c1) from fun W' H=>by
  obtain⟨q0,q1,q2,q3,q4,q5,q6,qf⟩:=heap7c (H.keep hbox hne (by decide));exact⟨q1,q4,hc.out W' (Wrt.low hV4 hVb H)⟩)
 have VB:=η (fun W' (H:Wrt b w4 W')=>Wrt.low hV4 hVb H);replace hbl:=η hbl;replace hb4l:=η hb4l;subst hg;clear hbox hb4 hV hV4 hVb hne R;have k0:=K0.out;go_upto_region 8 with fail
 clear k0 K0;have hd9:d<1000000000:=by omega
 have SD:=η (SC.out w4.drew (Wrt.refl b w4).drew);have CC:=η (TX.out w4.drew (VB.out w4.drew (Wrt.refl b w4).drew));clear TX;have LLF:=η (fun(w9:World) (R9:WR w9 b o d)=>lit_line R9 hd9 [(⟨#[100,101,108,101,116,101,32]⟩:Bs),s,(⟨#[91]⟩:Bs),B t,(⟨#[93,59]⟩:Bs)] (by simp only[List.length_cons,List.length_nil];omega) (by have:=hn.out;simp only[texts,flat,List.length_append,List.length_cons,List.length_nil,B_toList,lit_toList]at*;omega))
 go_region_held3 (fun x'=>x'.cell? ⟨W.heap.size,1,none⟩=some (.string s)∧x'.cell? ⟨W.heap.size,4,none⟩=some (.slice (some ad) 1 c4)∧x'.cell? ad=some (.int .i64 x.f0)∧x'.cell? ⟨ad.block,ad.off+1,none⟩=some (.int .i64 x.f1)∧x'.cell? ⟨ad.block,ad.off+2,none⟩=some (.string x.f2)∧x'.cell? ⟨ad.block,ad.off+3,none⟩=some (.string x.f3)∧x'.cell? ⟨ad.block,ad.off+4,none⟩=some (.slice A1 x.f4.length c1))
  ((first|exact SD.out|exact SE.out|exact SF.out|exact SG.out _ (Wrt.alloc (Wrt.refl _ _) _)|exact SG.out _ (Wrt.drew (Wrt.alloc (Wrt.refl _ _) _))))
  ((first|(go_at_call 83;refine CC.out.mono ?_;rintro e_ w9 ⟨rfl,H9⟩;have X9:=η ((Wrt.refl b w4).drew.trans (Wrt.of_below H9) hb4l.out);have SE:=η (SC.out w9 X9.out);have SG:=η (fun W' H=>SC.out W' (X9.out.trans H hb4l.out));have R9:=η (R4.out.step (Below.trans (Below.refl _ _).drew H9));have LL:=η (LLF.out w9 R9.out);clear H9)|(go_at_call 23;refine LL.out.mono ?_;rintro e_ w11 ⟨rfl,R11,H11⟩;have X11:=η (X9.out.trans H11 hb4l.out);replace R11:=η R11;have SF:=η (SC.out w11 X11.out);clear H11)))
 clear SC VB SD SE SG SF CC LL R9 X9;go_wp2_with fail
 go_end0;refine⟨rfl,?_,XW.out.trans X11.out hbl.out⟩;refine cast (congrArg (fun l=>WR _ b l d) ?_) R11.out;simp[flat,texts,B_toList,lit_toList]
theorem ps_clr (D:Nat) (hD:D≤16000000) (s:Bs) (hs:s.size≤1048576):PS D ({st 4 with f1:=s}) (fun d=>[tabL d++[99,108,101,97,114,32]++s.toList++[59]]):=by
 intro V W b o d A4 c4 A5 c5 A6 c6 ht hV hVb R VV hd hn;have hbl:=R.lt;replace R:=η R;replace hn:=η hn;have HT:=η ht;replace VV:=η VV;clear ht;go_enter Tryz.func52,Tryz.ntmps52;go_upto_region 1 with(first|((with_reducible refine gate_dst (N:=3) rfl ?_);refine bxE (N:=3) (cs:=c62 ({st 4 with f1:=s}) A4 c4 A5 c5 A6 c6) (t:=62) ?_;intro g hg w4 hbox hb4))
 have hb4l:b<w4.heap.size:=Nat.lt_of_lt_of_le hbl hb4.size;have hne:g≠b:=by omega
 have hV4:Below V.heap.size V w4:=hV.trans (hb4.mono hV.size);have R4:=η (R.out.step hb4);have XW:=η (Wrt.of_below (b:=b) hb4);have K0:=η (heap7c hbox).1
 have SC:=η (show ∀W',Wrt b w4 W'→W'.cell? ⟨g,1,none⟩=some (.string s) from fun W' H=>by
  obtain⟨q0,q1,q2,q3,q4,q5,q6,qf⟩:=heap7c (H.keep hbox hne (by decide));exact q1)
 have VB:=η (fun W' (H:Wrt b w4 W')=>Wrt.low hV4 hVb H);replace hbl:=η hbl;replace hb4l:=η hb4l;subst hg;clear hbox hb4 hV hV4 hVb hne R;have k0:=K0.out;go_upto_region 10 with fail
 clear k0 K0;have hd9:d<1000000000:=by omega
 have R0:=R4;have X0:=η (Wrt.refl b w4);obtain z0_0:=SC.out w4 (Wrt.refl b w4);have LL1:=η (fun(w9:World) (R9:WR w9 b (o) d)=>lit_line R9 hd9 [(⟨#[99,108,101,97,114,32]⟩:Bs),s,(⟨#[59]⟩:Bs)] (by simp only[List.length_cons,List.length_nil];omega) (by have:=hn.out;simp only[texts,flat,flat_app,List.length_append,List.length_cons,List.length_nil,B_toList,lit_toList,List.append_assoc]at*;omega));clear hn;go_wp2_with(first|(go_at_call 23;refine(LL1.out w4 R0.out).mono ?_;rintro e_ w1' ⟨rfl,R9,H9⟩;have X1:=η (X0.out.trans H9 hb4l.out);have R1:=η R9;obtain z0_1:=SC.out w1' X1.out;clear H9 R9))
 go_end0;refine⟨rfl,?_,XW.out.trans X1.out hbl.out⟩;refine cast (congrArg (fun l=>WR _ b l d) ?_) R1.out;simp[flat,flat_app,texts,B_toList,lit_toList]
theorem ps_brk (D:Nat) (hD:D≤16000000):PS D (st 9) (fun d=>[tabL d++[98,114,101,97,107,59]]):=by
 intro V W b o d A4 c4 A5 c5 A6 c6 ht hV hVb R VV hd hn;have hbl:=R.lt;replace R:=η R;replace hn:=η hn;have HT:=η ht;replace VV:=η VV;clear ht;go_enter Tryz.func52,Tryz.ntmps52;go_upto_region 1 with(first|((with_reducible refine gate_dst (N:=3) rfl ?_);refine bxE (N:=3) (cs:=c62 (st 9) A4 c4 A5 c5 A6 c6) (t:=62) ?_;intro g hg w4 hbox hb4))
 have hb4l:b<w4.heap.size:=Nat.lt_of_lt_of_le hbl hb4.size;have hne:g≠b:=by omega
 have hV4:Below V.heap.size V w4:=hV.trans (hb4.mono hV.size);have R4:=η (R.out.step hb4);have XW:=η (Wrt.of_below (b:=b) hb4);have K0:=η (heap7c hbox).1
 have SC:=η (show ∀W',Wrt b w4 W'→W'.cell? ⟨g,0,none⟩=some (.int .i64 9) from fun W' H=>by
  obtain⟨q0,q1,q2,q3,q4,q5,q6,qf⟩:=heap7c (H.keep hbox hne (by decide));exact q0)
 have VB:=η (fun W' (H:Wrt b w4 W')=>Wrt.low hV4 hVb H);replace hbl:=η hbl;replace hb4l:=η hb4l;subst hg;clear hbox hb4 hV hV4 hVb hne R;have k0:=K0.out;go_upto_region 32 with fail
 clear k0 K0;have hd9:d<1000000000:=by omega
 have R0:=R4;have X0:=η (Wrt.refl b w4);obtain z0_0:=SC.out w4 (Wrt.refl b w4);have LL1:=η (fun(w9:World) (R9:WR w9 b (o) d)=>lit_line R9 hd9 [(⟨#[98,114,101,97,107,59]⟩:Bs)] (by simp only[List.length_cons,List.length_nil];omega) (by have:=hn.out;simp only[texts,flat,flat_app,List.length_append,List.length_cons,List.length_nil,B_toList,lit_toList,List.append_assoc]at*;omega));clear hn;go_wp2_with(first|(go_at_call 23;refine(LL1.out w4 R0.out).mono ?_;rintro e_ w1' ⟨rfl,R9,H9⟩;have X1:=η (X0.out.trans H9 hb4l.out);have R1:=η R9;obtain z0_1:=SC.out w1' X1.out;clear H9 R9))
 go_end0;refine⟨rfl,?_,XW.out.trans X1.out hbl.out⟩;refine cast (congrArg (fun l=>WR _ b l d) ?_) R1.out;simp[flat,flat_app,texts,B_toList,lit_toList]
theorem ps_cnt (D:Nat) (hD:D≤16000000):PS D (st 10) (fun d=>[tabL d++[99,111,110,116,105,110,117,101,59]]):=by
 intro V W b o d A4 c4 A5 c5 A6 c6 ht hV hVb R VV hd hn;have hbl:=R.lt;replace R:=η R;replace hn:=η hn;have HT:=η ht;replace VV:=η VV;clear ht;go_enter Tryz.func52,Tryz.ntmps52;go_upto_region 1 with(first|((with_reducible refine gate_dst (N:=3) rfl ?_);refine bxE (N:=3) (cs:=c62 (st 10) A4 c4 A5 c5 A6 c6) (t:=62) ?_;intro g hg w4 hbox hb4))
 have hb4l:b<w4.heap.size:=Nat.lt_of_lt_of_le hbl hb4.size;have hne:g≠b:=by omega
 have hV4:Below V.heap.size V w4:=hV.trans (hb4.mono hV.size);have R4:=η (R.out.step hb4);have XW:=η (Wrt.of_below (b:=b) hb4);have K0:=η (heap7c hbox).1
 have SC:=η (show ∀W',Wrt b w4 W'→W'.cell? ⟨g,0,none⟩=some (.int .i64 10) from fun W' H=>by
  obtain⟨q0,q1,q2,q3,q4,q5,q6,qf⟩:=heap7c (H.keep hbox hne (by decide));exact q0)
 have VB:=η (fun W' (H:Wrt b w4 W')=>Wrt.low hV4 hVb H);replace hbl:=η hbl;replace hb4l:=η hb4l;subst hg;clear hbox hb4 hV hV4 hVb hne R;have k0:=K0.out;go_upto_region 2 with fail
 clear k0 K0;have hd9:d<1000000000:=by omega
 have R0:=R4;have X0:=η (Wrt.refl b w4);obtain z0_0:=SC.out w4 (Wrt.refl b w4);have LL1:=η (fun(w9:World) (R9:WR w9 b (o) d)=>lit_line R9 hd9 [(⟨#[99,111,110,116,105,110,117,101,59]⟩:Bs)] (by simp only[List.length_cons,List.length_nil];omega) (by have:=hn.out;simp only[texts,flat,flat_app,List.length_append,List.length_cons,List.length_nil,B_toList,lit_toList,List.append_assoc]at*;omega));clear hn;go_wp2_with(first|(go_at_call 23;refine(LL1.out w4 R0.out).mono ?_;rintro e_ w1' ⟨rfl,R9,H9⟩;have X1:=η (X0.out.trans H9 hb4l.out);have R1:=η R9;obtain z0_1:=SC.out w1' X1.out;clear H9 R9))
 go_end0;refine⟨rfl,?_,XW.out.trans X1.out hbl.out⟩;refine cast (congrArg (fun l=>WR _ b l d) ?_) R1.out;simp[flat,flat_app,texts,B_toList,lit_toList]
theorem ps_rng (D:Nat) (hD:D≤16000000) (s a c:Bs) (hs:s.size≤1048576) (ha:a.size≤1048576) (hc:c.size≤1048576) (l:List S62) (bs:Nat→List (List UInt8)) (hb:PBk D l bs):PS D ({st 8 with f1:=s,f2:=a,f3:=c,f5:=l}) (fun d=>(tabL d++[102,111,114,32]++a.toList++[44,32]++c.toList++[32,105,110,32]++s.toList++[32,123])::(bs (d+1)++[tabL d++[125]])):=by
 intro V W b o d A4 c4 A5 c5 A6 c6 ht hV hVb R VV hd hn;have hVb2:=hVb;have l5:=VV.l5;have g5:=η VV.g5;have hbl:=R.lt;replace R:=η R;replace hn:=η hn;have HT:=η ht;replace VV:=η VV;clear ht;go_enter Tryz.func52,Tryz.ntmps52;go_upto_region 1 with(first|((with_reducible refine gate_dst (N:=3) rfl ?_);refine bxE (N:=3) (cs:=c62 ({st 8 with f1:=s,f2:=a,f3:=c,f5:=l}) A4 c4 A5 c5 A6 c6) (t:=62) ?_;intro g hg w4 hbox hb4))
 have hb4l:b<w4.heap.size:=Nat.lt_of_lt_of_le hbl hb4.size;have hne:g≠b:=by omega
 have hV4:Below V.heap.size V w4:=hV.trans (hb4.mono hV.size);have R4:=η (R.out.step hb4);have XW:=η (Wrt.of_below (b:=b) hb4);have K0:=η (heap7c hbox).1
 have SC:=η (show ∀W',Wrt b w4 W'→W'.cell? ⟨g,1,none⟩=some (.string s)∧W'.cell? ⟨g,2,none⟩=some (.string a)∧W'.cell? ⟨g,3,none⟩=some (.string c)∧W'.cell? ⟨g,5,none⟩=some (.slice A5 l.length c5) from fun W' H=>by
  obtain⟨q0,q1,q2,q3,q4,q5,q6,qf⟩:=heap7c (H.keep hbox hne (by decide));exact⟨q1,q2,q3,q5⟩)
 have VB:=η (fun W' (H:Wrt b w4 W')=>Wrt.low hV4 hVb H);replace hbl:=η hbl;replace hb4l:=η hb4l;subst hg;clear hbox hb4 hV hV4 hVb hne R;have k0:=K0.out;go_upto_region 28 with fail
 clear k0 K0;have hd9:d<1000000000:=by omega
 have R0:=R4;have X0:=η (Wrt.refl b w4);obtain⟨z0_0,z1_0,z2_0,z3_0⟩:=SC.out w4 (Wrt.refl b w4);have LL1:=η (fun(w9:World) (R9:WR w9 b (o) d)=>lit_line R9 hd9 [(⟨#[102,111,114,32]⟩:Bs),a,(⟨#[44,32]⟩:Bs),c,(⟨#[32,105,110,32]⟩:Bs),s,(⟨#[32,123]⟩:Bs)] (by simp only[List.length_cons,List.length_nil];omega) (by have:=hn.out;simp only[texts,flat,flat_app,List.length_append,List.length_cons,List.length_nil,B_toList,lit_toList,List.append_assoc]at*;omega));have BK2:=η (fun(w9:World) (R9:WR w9 b (o++tabL d++texts [(⟨#[102,111,114,32]⟩:Bs),a,(⟨#[44,32]⟩:Bs),c,(⟨#[32,105,110,32]⟩:Bs),s,(⟨#[32,123]⟩:Bs)]++[10]) d) (X9:Wrt b w4 w9)=>hb V w9 b _ d A5 c5 HT.out (VB.out _ X9) hVb2 R9 l5 g5.out hd (by have:=hn.out;simp only[texts,flat,flat_app,List.length_append,List.length_cons,List.length_nil,B_toList,lit_toList,List.append_assoc]at*;omega));have LL3:=η (fun(w9:World) (R9:WR w9 b (o++tabL d++texts [(⟨#[102,111,114,32]⟩:Bs),a,(⟨#[44,32]⟩:Bs),c,(⟨#[32,105,110,32]⟩:Bs),s,(⟨#[32,123]⟩:Bs)]++[10]++flat (bs (d+1))) d)=>lit_line R9 hd9 [(⟨#[125]⟩:Bs)] (by simp only[List.length_cons,List.length_nil];omega) (by have:=hn.out;simp only[texts,flat,flat_app,List.length_append,List.length_cons,List.length_nil,B_toList,lit_toList,List.append_assoc]at*;omega));clear hn;go_wp2_with(first|(go_at_call 23;refine(LL3.out w2' R2.out).mono ?_;rintro e_ w3' ⟨rfl,R9,H9⟩;have X3:=η (X2.out.trans H9 hb4l.out);have R3:=η R9;obtain⟨z0_3,z1_3,z2_3,z3_3⟩:=SC.out w3' X3.out;clear H9 R9)|(go_at_call 86;refine(BK2.out w1' R1.out X1.out).mono ?_;rintro e_ w2' ⟨rfl,R9,H9⟩;have X2:=η (X1.out.trans H9 hb4l.out);have R2:=η R9;obtain⟨z0_2,z1_2,z2_2,z3_2⟩:=SC.out w2' X2.out;clear H9 R9)|(go_at_call 23;refine(LL1.out w4 R0.out).mono ?_;rintro e_ w1' ⟨rfl,R9,H9⟩;have X1:=η (X0.out.trans H9 hb4l.out);have R1:=η R9;obtain⟨z0_1,z1_1,z2_1,z3_1⟩:=SC.out w1' X1.out;clear H9 R9))
 go_end0;refine⟨rfl,?_,XW.out.trans X3.out hbl.out⟩;refine cast (congrArg (fun l=>WR _ b l d) ?_) R3.out;simp[flat,flat_app,texts,B_toList,lit_toList]
theorem ps_whl (D:Nat) (hD:D≤16000000) (x:S80) (t:List UInt8) (m:Nat) (hx:EX x t m) (hm:m≤8000000) (l:List S62) (bs:Nat→List (List UInt8)) (hb:PBk D l bs):PS D ({st 7 with f4:=[x],f5:=l}) (fun d=>(tabL d++[119,104,105,108,101,32]++t++[32,123])::(bs (d+1)++[tabL d++[125]])):=by
 intro V W b o d A4 c4 A5 c5 A6 c6 ht hV hVb R VV hd hn;obtain⟨ad,A1,c1,eA,hc,hl1,hC1⟩:=first80 VV.g4;obtain rfl:=eA;have hexl:=ex_len hx;have TX:=η (fun W' (H:Below V.heap.size V W')=>ptext_call hx W' A1 c1 (Joins.tab_stays uint64pow10_is ht H (Nat.le_refl _)) hl1 (Kd.C_below hC1 H) (by omega));replace hc:=η hc;have hVb2:=hVb;have l5:=VV.l5;have g5:=η VV.g5;have hbl:=R.lt;replace R:=η R;replace hn:=η hn;have HT:=η ht;replace VV:=η VV;clear ht;go_enter Tryz.func52,Tryz.ntmps52;go_upto_region 1 with(first|((with_reducible refine gate_dst (N:=3) rfl ?_);refine bxE (N:=3) (cs:=c62 ({st 7 with f4:=[x],f5:=l}) (some ad) c4 A5 c5 A6 c6) (t:=62) ?_;intro g hg w4 hbox hb4))
 have hb4l:b<w4.heap.size:=Nat.lt_of_lt_of_le hbl hb4.size;have hne:g≠b:=by omega
 have hV4:Below V.heap.size V w4:=hV.trans (hb4.mono hV.size);have R4:=η (R.out.step hb4);have XW:=η (Wrt.of_below (b:=b) hb4);have K0:=η (heap7c hbox).1
 have SC:=η (show ∀W',Wrt b w4 W'→W'.cell? ⟨g,4,none⟩=some (.slice (some ad) 1 c4)∧W'.cell? ⟨g,5,none⟩=some (.slice A5 l.length c5)∧W'.cell? ad=some (.int .i64 x.f0)∧W'.cell? ⟨ad.block,ad.off+1,none⟩=some (.int .i64 x.f1)∧W'.cell? ⟨ad.block,ad.off+2,none⟩=some (.string x.f2)∧W'.cell? ⟨ad.block,ad.off+3,none⟩=some (.string x.f3)∧W'.cell? ⟨ad.block,ad.off+4,none⟩=some (.slice A1 x.f4.length c1) from fun W' H=>by
  obtain⟨q0,q1,q2,q3,q4,q5,q6,qf⟩:=heap7c (H.keep hbox hne (by decide));exact⟨q4,q5,hc.out W' (Wrt.low hV4 hVb H)⟩)
 have VB:=η (fun W' (H:Wrt b w4 W')=>Wrt.low hV4 hVb H);replace hbl:=η hbl;replace hb4l:=η hb4l;subst hg;clear hbox hb4 hV hV4 hVb hne R;have k0:=K0.out;go_upto_region 24 with fail
 clear k0 K0;have hd9:d<1000000000:=by omega
 have R0:=R4;have X0:=η (Wrt.refl b w4);obtain⟨z0_0,z1_0,z2_0,z3_0,z4_0,z5_0,z6_0⟩:=SC.out w4 (Wrt.refl b w4);have LL2:=η (fun(w9:World) (R9:WR w9 b (o) d)=>lit_line R9 hd9 [(⟨#[119,104,105,108,101,32]⟩:Bs),B t,(⟨#[32,123]⟩:Bs)] (by simp only[List.length_cons,List.length_nil];omega) (by have:=hn.out;simp only[texts,flat,flat_app,List.length_append,List.length_cons,List.length_nil,B_toList,lit_toList,List.append_assoc]at*;omega));have BK3:=η (fun(w9:World) (R9:WR w9 b (o++tabL d++texts [(⟨#[119,104,105,108,101,32]⟩:Bs),B t,(⟨#[32,123]⟩:Bs)]++[10]) d) (X9:Wrt b w4 w9)=>hb V w9 b _ d A5 c5 HT.out (VB.out _ X9) hVb2 R9 l5 g5.out hd (by have:=hn.out;simp only[texts,flat,flat_app,List.length_append,List.length_cons,List.length_nil,B_toList,lit_toList,List.append_assoc]at*;omega));have LL4:=η (fun(w9:World) (R9:WR w9 b (o++tabL d++texts [(⟨#[119,104,105,108,101,32]⟩:Bs),B t,(⟨#[32,123]⟩:Bs)]++[10]++flat (bs (d+1))) d)=>lit_line R9 hd9 [(⟨#[125]⟩:Bs)] (by simp only[List.length_cons,List.length_nil];omega) (by have:=hn.out;simp only[texts,flat,flat_app,List.length_append,List.length_cons,List.length_nil,B_toList,lit_toList,List.append_assoc]at*;omega));clear hn;go_wp2_with(first|(go_at_call 23;refine(LL4.out w3' R3.out).mono ?_;rintro e_ w4' ⟨rfl,R9,H9⟩;have X4:=η (X3.out.trans H9 hb4l.out);have R4:=η R9;obtain⟨z0_4,z1_4,z2_4,z3_4,z4_4,z5_4,z6_4⟩:=SC.out w4' X4.out;clear H9 R9)|(go_at_call 86;refine(BK3.out w2' R2.out X2.out).mono ?_;rintro e_ w3' ⟨rfl,R9,H9⟩;have X3:=η (X2.out.trans H9 hb4l.out);have R3:=η R9;obtain⟨z0_3,z1_3,z2_3,z3_3,z4_3,z5_3,z6_3⟩:=SC.out w3' X3.out;clear H9 R9)|(go_at_call 23;refine(LL2.out w1' R1.out).mono ?_;rintro e_ w2' ⟨rfl,R9,H9⟩;have X2:=η (X1.out.trans H9 hb4l.out);have R2:=η R9;obtain⟨z0_2,z1_2,z2_2,z3_2,z4_2,z5_2,z6_2⟩:=SC.out w2' X2.out;clear H9 R9)|(go_at_call 83;refine(TX.out w4 (VB.out _ X0.out)).mono ?_;rintro e_ w1' ⟨rfl,H9⟩;have X1:=η (X0.out.trans (Wrt.of_below H9) hb4l.out);have R1:=η (R0.out.step H9);obtain⟨z0_1,z1_1,z2_1,z3_1,z4_1,z5_1,z6_1⟩:=SC.out w1' X1.out;clear H9))
 go_end0;refine⟨rfl,?_,XW.out.trans X4.out hbl.out⟩;refine cast (congrArg (fun l=>WR _ b l d) ?_) R4.out;simp[flat,flat_app,texts,B_toList,lit_toList]
theorem ps_put (D:Nat) (hD:D≤16000000) (s:Bs) (x y:S80) (t u:List UInt8) (m n:Nat) (hs:s.size≤1048576) (hx:EX x t m) (hy:EX y u n) (hm:m≤8000000) (hn0:n≤8000000):PS D ({st 2 with f1:=s,f4:=[x,y]}) (fun d=>[tabL d++s.toList++[91]++t++[93,32,61,32]++u++[59]]):=by
 intro V W b o d A4 c4 A5 c5 A6 c6 ht hV hVb R VV hd hn;obtain⟨ad,A1,c1,A2,c2,eA,hc,hl1,hC1,hl2,hC2⟩:=two80 VV.g4;obtain rfl:=eA;have hexl:=ex_len hx;have heyl:=ex_len hy;have TX:=η (fun W' (H:Below V.heap.size V W')=>ptext_call hx W' A1 c1 (Joins.tab_stays uint64pow10_is ht H (Nat.le_refl _)) hl1 (Kd.C_below hC1 H) (by omega));have TY:=η (fun W' (H:Below V.heap.size V W')=>ptext_call hy W' A2 c2 (Joins.tab_stays uint64pow10_is ht H (Nat.le_refl _)) hl2 (Kd.C_below hC2 H) (by omega));replace hc:=η hc;have hbl:=R.lt;replace R:=η R;replace hn:=η hn;have HT:=η ht;replace VV:=η VV;clear ht;go_enter Tryz.func52,Tryz.ntmps52;go_upto_region 1 with(first|((with_reducible refine gate_dst (N:=3) rfl ?_);refine bxE (N:=3) (cs:=c62 ({st 2 with f1:=s,f4:=[x,y]}) (some ad) c4 A5 c5 A6 c6) (t:=62) ?_;intro g hg w4 hbox hb4))
 have hb4l:b<w4.heap.size:=Nat.lt_of_lt_of_le hbl hb4.size;have hne:g≠b:=by omega
 have hV4:Below V.heap.size V w4:=hV.trans (hb4.mono hV.size);have R4:=η (R.out.step hb4);have XW:=η (Wrt.of_below (b:=b) hb4);have K0:=η (heap7c hbox).1
 have SC:=η (show ∀W',Wrt b w4 W'→W'.cell? ⟨g,1,none⟩=some (.string s)∧W'.cell? ⟨g,4,none⟩=some (.slice (some ad) 2 c4)∧W'.cell? ad=some (.int .i64 x.f0)∧W'.cell? ⟨ad.block,ad.off+1,none⟩=some (.int .i64 x.f1)∧W'.cell? ⟨ad.block,ad.off+2,none⟩=some (.string x.f2)∧W'.cell? ⟨ad.block,ad.off+3,none⟩=some (.string x.f3)∧W'.cell? ⟨ad.block,ad.off+4,none⟩=some (.slice A1 x.f4.length c1)∧W'.cell? ⟨ad.block,ad.off+5,none⟩=some (.int .i64 y.f0)∧W'.cell? ⟨ad.block,ad.off+5+1,none⟩=some (.int .i64 y.f1)∧W'.cell? ⟨ad.block,ad.off+5+2,none⟩=some (.string y.f2)∧W'.cell? ⟨ad.block,ad.off+5+3,none⟩=some (.string y.f3)∧W'.cell? ⟨ad.block,ad.off+5+4,none⟩=some (.slice A2 y.f4.length c2) from fun W' H=>by
  obtain⟨q0,q1,q2,q3,q4,q5,q6,qf⟩:=heap7c (H.keep hbox hne (by decide));exact⟨q1,q4,hc.out W' (Wrt.low hV4 hVb H)⟩)
 have VB:=η (fun W' (H:Wrt b w4 W')=>Wrt.low hV4 hVb H);replace hbl:=η hbl;replace hb4l:=η hb4l;subst hg;clear hbox hb4 hV hV4 hVb hne R;have k0:=K0.out;go_upto_region 6 with fail
 clear k0 K0;have hd9:d<1000000000:=by omega
 have SD:=η (SC.out w4.drew (Wrt.refl b w4).drew);have CC:=η (TX.out w4.drew (VB.out w4.drew (Wrt.refl b w4).drew));clear TX;have LLF:=η (fun(w9:World) (R9:WR w9 b o d)=>lit_line R9 hd9 [s,(⟨#[91]⟩:Bs),B t,(⟨#[93,32,61,32]⟩:Bs),B u,(⟨#[59]⟩:Bs)] (by simp only[List.length_cons,List.length_nil];omega) (by have:=hn.out;simp only[texts,flat,List.length_append,List.length_cons,List.length_nil,B_toList,lit_toList]at*;omega))
 go_region_held3 (fun x'=>x'.cell? ⟨W.heap.size,1,none⟩=some (.string s)∧x'.cell? ⟨W.heap.size,4,none⟩=some (.slice (some ad) 2 c4)∧x'.cell? ad=some (.int .i64 x.f0)∧x'.cell? ⟨ad.block,ad.off+1,none⟩=some (.int .i64 x.f1)∧x'.cell? ⟨ad.block,ad.off+2,none⟩=some (.string x.f2)∧x'.cell? ⟨ad.block,ad.off+3,none⟩=some (.string x.f3)∧x'.cell? ⟨ad.block,ad.off+4,none⟩=some (.slice A1 x.f4.length c1)∧x'.cell? ⟨ad.block,ad.off+5,none⟩=some (.int .i64 y.f0)∧x'.cell? ⟨ad.block,ad.off+5+1,none⟩=some (.int .i64 y.f1)∧x'.cell? ⟨ad.block,ad.off+5+2,none⟩=some (.string y.f2)∧x'.cell? ⟨ad.block,ad.off+5+3,none⟩=some (.string y.f3)∧x'.cell? ⟨ad.block,ad.off+5+4,none⟩=some (.slice A2 y.f4.length c2))
  ((first|exact SD.out|exact SE.out|exact SH.out|exact SF.out|exact SG.out _ (Wrt.alloc (Wrt.refl _ _) _)|exact SG.out _ (Wrt.drew (Wrt.alloc (Wrt.refl _ _) _))))
  ((first|(go_at_call 83;refine CC.out.mono ?_;rintro e_ w8 ⟨rfl,H9⟩;have X8:=η ((Wrt.refl b w4).drew.trans (Wrt.of_below H9) hb4l.out);have SE:=η (SC.out w8 X8.out);have R8:=η (R4.out.step (Below.trans (Below.refl _ _).drew H9));have CD:=η (TY.out w8 (VB.out w8 X8.out));clear H9)|(go_at_call 83;refine CD.out.mono ?_;rintro e_ w9 ⟨rfl,H9⟩;have X9:=η (X8.out.trans (Wrt.of_below H9) hb4l.out);have SH:=η (SC.out w9 X9.out);have SG:=η (fun W' H=>SC.out W' (X9.out.trans H hb4l.out));have R9:=η (R8.out.step H9);have LL:=η (LLF.out w9 R9.out);clear H9)|(go_at_call 23;refine LL.out.mono ?_;rintro e_ w11 ⟨rfl,R11,H11⟩;have X11:=η (X9.out.trans H11 hb4l.out);replace R11:=η R11;have SF:=η (SC.out w11 X11.out);clear H11)))
 clear SC VB SD SE SG SF CC LL R9 X9;go_wp2_with fail
 go_end0;refine⟨rfl,?_,XW.out.trans X11.out hbl.out⟩;refine cast (congrArg (fun l=>WR _ b l d) ?_) R11.out;simp[flat,texts,B_toList,lit_toList]
theorem no_strs {W:World} {base:Nat} (hb:base≤W.heap.size):Kd.N Kd.string 9 (W.alloc (.cells #[] 9)) base (fun k=>base≤k) (.slice (some ⟨W.heap.size,0,none⟩) 0 0) []:=
 Kd.R_N (Kd.R_of_own (own_lit_of (enc:=Value.string) W base 9 [] hb (by simp)) (fun k hk=>by
  have:W.heap.size=k:=by simpa[Value.ownBlock]using hk
  omega))
theorem exs_split:∀{xs:List S80} {ts:List (List UInt8)} {m:Nat},EXs xs ts m→xs.length=ts.length∧∀(i:Nat) x,xs[i]? =some x→∃t k,ts[i]? =some t∧EX x t k∧k≤m
 |_,_,_,.nil=>⟨rfl,fun i x h=>by simp at h⟩
 |_,_,_,.cons x t m xs ts n h1 h2=>by
  obtain⟨e,f⟩:=exs_split h2;refine⟨by simp[e],fun i y h=> ?_⟩;rcases i with _|i
  · obtain rfl:x=y:=by simpa using h
    exact⟨t,m,by simp,h1,by omega⟩
  · obtain⟨t',k,q1,q2,q3⟩:=f i y (by simpa using h)
    exact⟨t',k,by simpa using q1,q2,by omega⟩
theorem N_at {α:Type} {dd:Kd α} {e:TypeId} {w:World} {base:Nat} {ok:Nat→Prop} {A:Option Addr} {n c:Nat} {xs:List α} (h:Kd.N dd e w base ok (.slice A n c) xs) (hx:0<n):∃g,A=some ⟨g,0,none⟩:=by
 obtain⟨_,rows,hl,hR,hf⟩:=h;obtain⟨_,inner,ho,hr⟩:=hR;rcases ho.2 with⟨hv,hz⟩|⟨g,cap,cur,hv,_⟩
 · injection hv with h1 h2 h3;omega
 · injection hv with h1 h2 h3;exact⟨g,h1⟩
theorem join_len (ts:List (List UInt8)):(ts≠[]→sepL ts=[32]++Lib.join ts [44,32]):=by
 intro h;induction ts with
 |nil=>exact absurd rfl h
 |cons t r ih=>
  cases r with
  |nil=>simp[sepL,Lib.join_one]
  |cons u q=>
   have:=ih (by simp);rw[sepL,this]<;>simp[Lib.join,List.intercalate,List.intersperse]
def PLoop (w4:World) (ts:List (List UInt8)) (kq:Nat) (v4 v66:Value) (W:World):Prop:=∃(j:Nat) (A:Option Addr) (c:Nat) (l:List Bs),l=(ts.take j).map B∧v4= .slice A l.length c∧v66= .int .i64 (j:Int)∧Kd.N Kd.string 9 W w4.heap.size (fun k=>w4.heap.size≤k) (.slice A l.length c) l∧j≤ts.length∧ts.length-j<kq∧Below w4.heap.size w4 W
theorem ps_prt (D:Nat) (hD:D≤16000000) (xs:List S80) (ts:List (List UInt8)) (m:Nat) (hx:EXs xs ts m) (hm:m≤8000000):PS D ({st 5 with f4:=xs}) (fun d=>[tabL d++[112,114,105,110,116]++sepL ts++[59]]):=by
 intro V W b o d A4 c4 A5 c5 A6 c6 ht hV hVb R VV hd hn;obtain⟨hxl,hxi⟩:=exs_split hx;have hxm:xs.length≤8000000:=by have:=exs_len hx;omega
 have hbl:=R.lt;replace R:=η R;replace hn:=η hn;have HT:=η ht;replace VV:=η VV;clear ht;replace hxl:=η hxl;replace hxi:=η hxi;clear hx;go_enter Tryz.func52,Tryz.ntmps52;go_upto_region 1 with(first|((with_reducible refine gate_dst (N:=3) rfl ?_);refine bxE (N:=3) (cs:=c62 ({st 5 with f4:=xs}) A4 c4 A5 c5 A6 c6) (t:=62) ?_;intro g hg w4 hbox hb4))
 have hb4l:b<w4.heap.size:=Nat.lt_of_lt_of_le hbl hb4.size;have hne:g≠b:=by omega
 have hV4:Below V.heap.size V w4:=hV.trans (hb4.mono hV.size);have R4:=η (R.out.step hb4);have XW:=η (Wrt.of_below (b:=b) hb4);have K0:=η (heap7c hbox).1
 have SC:=η (show ∀W',Wrt b w4 W'→W'.cell? ⟨g,4,none⟩=some (.slice A4 xs.length c4) from fun W' H=>by
  obtain⟨q0,q1,q2,q3,q4,q5,q6,qf⟩:=heap7c (H.keep hbox hne (by decide));exact q4)
 have VB:=η (fun W' (H:Wrt b w4 W')=>Wrt.low hV4 hVb H);replace hbl:=η hbl;replace hb4l:=η hb4l;subst hg;clear hbox hb4 hV hV4 hVb hne R;have k0:=K0.out;go_upto_region 13 with fail
 clear k0 K0;have hd9:d<1000000000:=by omega
 have N5:=η (no_strs (W:=w4) (base:=w4.heap.size) (Nat.le_refl _));have B5:=η (Below.alloc (Below.refl w4.heap.size w4) (Nat.le_refl _) (.cells #[] 9));generalize w4.alloc (.cells #[] 9)=w5 at*;have q4:=SC.out w5 (Wrt.of_below B5.out);go_upto_region 14 with fail
 clear q4;go_loopg [4,6,66] (ts.length+1) (fun kq v4 v6 v66 W=>PLoop w4 ts kq v4 v66 W)
 case atStart=>exact⟨0,_,0,[],rfl,rfl,rfl,N5.out,Nat.zero_le _,by omega,B5.out⟩
 case round=>
  obtain⟨j,A6',c6',l,hl,rfl,rfl,N6,hj,hkq,HB⟩:=hrel;replace HB:=η HB;replace N6:=η N6;have hjI:(0:Int)≤(j:Int):=by omega
  have hj1:(j:Int)<1000000000:=by have:=hxl.out;omega
  by_cases hlt:j<ts.length
  · have hltI:(j:Int)<(xs.length:Int):=by have:=hxl.out;omega
    obtain⟨x,hxj⟩:∃x,xs[j]? =some x:=⟨_,List.getElem?_eq_getElem (by have:=hxl.out;omega)⟩;obtain⟨t,k,htj,hEX,hkm⟩:=hxi.out j x hxj;have HVB:=η (VB.out wr (Wrt.of_below HB.out));obtain⟨ad,A1,c1,eA,z0,z1,z2,z3,z4,l4,g4⟩:=at_T80 (Kd.C_below VV.out.g4 HVB.out) (j:Int) hjI hltI
    have hrd:rd_T80 xs (j:Int)=x:=by
     unfold rd_T80;rw[Int.toNat_natCast,List.getD_eq_getElem?_getD,hxj];simp
    rw[hrd]at z0 z1 z2 z3 z4 l4 g4;have eA':A4=some ad:=eA;obtain rfl:=eA';have g4':=η g4;have hexl:=ex_len hEX;have hms:ts.length-j<gk:=by omega
    have hll:=η (show l.length≤8000000 by rw[hl,List.length_map,List.length_take];have:=hxl.out;omega);have REL:=η (show ∀A' c' W',Kd.N Kd.string 9 W' w4.heap.size (fun k=>w4.heap.size≤k) (.slice A' (l++[B t]).length c') (l++[B t])→Below w4.heap.size w4 W'→PLoop w4 ts (ts.length-j) (.slice A' (l++[B t]).length c') (.int .i64 ((j:Int)+1)) W' from fun A' c' W' q1 q2=>⟨j+1,A',c',l++[B t],by rw[hl,List.take_add_one,htj];simp,rfl,by simp,q1,by omega,by omega,q2⟩);replace hkm:=η (show k≤8000000 by omega);clear hrd g4 hl hxj htj;generalize(j:Int)=J at*;go_upto_region 16 with fail
    have e5:=heap5 (alloc_new wr (.cells #[.int .i64 x.f0,.int .i64 x.f1,.string x.f2,.string x.f3,.slice A1 x.f4.length c1] 80));have h7:=Below.alloc (Below.refl wr.heap.size wr) (Nat.le_refl _) (.cells #[.int .i64 x.f0,.int .i64 x.f1,.string x.f2,.string x.f3,.slice A1 x.f4.length c1] 80);have HB7:=η (below_step HB.out h7);have N7:=η (Kd.N_below N6.out h7);have TC:=η (ptext_call hEX _ A1 c1 (Joins.tab_stays uint64pow10_is HT.out (HVB.out.trans (h7.mono HVB.out.size)) (Nat.le_refl _)) l4 (Kd.C_below g4'.out h7) (by have:=hkm.out;omega));clear h7 z0 z1 z2 z3 z4 g4' N6;generalize wr.alloc (.cells #[.int .i64 x.f0,.int .i64 x.f1,.string x.f2,.string x.f3,.slice A1 x.f4.length c1] 80)=w7 at*;obtain⟨e0,e1,e2,e3,e4,ef⟩:=e5;clear ef;go_wp2_with(first|(go_at_call 83;refine TC.out.mono ?_;rintro e_ w8 ⟨rfl,H8⟩;have HB8:=η (below_step HB7.out H8);have N8:=η (Kd.N_below N7.out H8);clear H8)|(at_builtin;refine Kd.N_append Kd.string (w0:=w4) (W:=w8) w4.heap.size rfl (.tmp 70) (.tmp 73) 28 9 (.string ⟨#[]⟩) 16 rfl Tryz.underlying28 info9 rfl (by decide) (by decide) (.slice A6' l.length c6') l (B t) [.string (B t)] (fun k=>w4.heap.size≤k) (fun k=>False) rfl rfl (fun _ _=>rfl) (fun k hk=>hk.elim) (fun k hk=>by have:=HB8.out.size;omega) N8.out HB8.out HB8.out.size (by have:=hll.out;omega) ?_;intro v1 w9 N9 hb9 hg9 hat9;obtain⟨A9,c9,hv1⟩:=Kd.N_slice N9;subst hv1;have NN:=η N9;have HB9:=η hb9;clear N9 hb9 hg9 hat9))
    go_roundg (ts.length-j)
    case measure=>exact hms
    case rel=>
     have q:=REL.out _ _ _ NN.out HB9.out;simpa using q
  · have hje:j=ts.length:=by omega
    rw[hje,List.take_length]at hl;have hnI:¬(j:Int)<(xs.length:Int):=by have:=hxl.out;omega
    have Rr:=η (R4.out.step HB.out);have Xr:=η (Wrt.of_below (b:=b) HB.out);cases ts with
    |nil=>
     have e0:l=[]:=hl;subst e0;have LL:=η (lit_line Rr.out hd9 [(⟨#[112,114,105,110,116,59]⟩:Bs)] (by simp only[List.length_cons,List.length_nil];omega) (by have:=hn.out;simp only[texts,flat,sepL,List.length_append,List.length_cons,List.length_nil,B_toList,lit_toList]at*;omega));clear hje hl hj hkq hlt N6 hjI hj1;generalize(j:Int)=J at*;go_wp2_with(first|(go_at_call 23;refine LL.out.mono ?_;rintro e_ w11 ⟨rfl,R11,H11⟩;have X11:=η (Xr.out.trans H11 hb4l.out);replace R11:=η R11;clear H11))
     go_end0;refine⟨rfl,?_,XW.out.trans X11.out hbl.out⟩;refine cast (congrArg (fun l=>WR _ b l d) ?_) R11.out;simp[flat,texts,sepL,B_toList,lit_toList]
    |cons t0 tr=>
     obtain⟨g6,eA6⟩:=N_at N6.out (by rw[hl];simp);obtain rfl:=eA6;have hg6:=Kd.N_lt N6.out g6 (by simp[Value.ownBlock]);obtain⟨_,hlc,hC6⟩:=Kd.N_reads' N6.out;have hjl:sepL (t0::tr)=[32]++Lib.join (t0::tr) [44,32]:=join_len (t0::tr) (by simp);have hlm:l.length≤8000000:=by rw[hl,List.length_map,← hxl.out];exact hxm
     have hj0:Lib.join (l.map (·.data.toList)) (⟨#[44,32]⟩:Bs).data.toList=Lib.join (t0::tr) [44,32]:=by
      rw[hl];congr 1;rw[List.map_map];have:((fun x:Bs=>x.data.toList) ∘ B)=id:=by funext z;simp[B]
      rw[this,List.map_id]
     have JC:=η (Tryz.strings_Join g6 0 c6' l ⟨#[44,32]⟩ wr (fun k y hk=>by
      obtain⟨ad,eA,hc⟩:=str_c hC6 (k:Int) (by omega) y (by rw[Int.toNat_natCast];exact hk);obtain rfl:=Option.some.inj eA;have:=hc wr (Below.refl _ _);cases k with
      |zero=>simpa[Addr.add]using this
      |succ k=>simpa[Addr.add]using this) hg6 (by omega) hlc (by rw[hj0];have:=hn.out;simp only[flat,hjl,List.length_append,List.length_cons,List.length_nil]at*;omega))
     rw[hj0]at JC;have LLF:=η (fun(w9:World) (R9:WR w9 b o d)=>lit_line R9 hd9 [(⟨#[112,114,105,110,116,32]⟩:Bs),B (Lib.join (t0::tr) [44,32]),(⟨#[59]⟩:Bs)] (by simp only[List.length_cons,List.length_nil];omega) (by have:=hn.out;simp only[texts,flat,hjl,List.length_append,List.length_cons,List.length_nil,B_toList,lit_toList]at*;omega));have hl0:¬l=[]:=by rw[hl];simp
     have hl1:¬(l.length:Int)=0:=by rw[hl];simp;omega
     replace hjl:=η hjl;clear hje hl hj hkq hlt N6 hjI hj1 hC6 hj0 hlc hlm;generalize(j:Int)=J at*;generalize hjn:Lib.join (t0::tr) [44,32]=jn at*;replace hjn:=η hjn;go_wp2_with(first|(go_at_call 84;refine JC.out.mono ?_;rintro e_ w9 ⟨rfl,H9⟩;have X9:=η (Xr.out.trans (Wrt.of_below H9) hb4l.out);have LL:=η (LLF.out w9 (Rr.out.step H9));clear H9)|(go_at_call 23;refine LL.out.mono ?_;rintro e_ w11 ⟨rfl,R11,H11⟩;have X11:=η (X9.out.trans H11 hb4l.out);replace R11:=η R11;clear H11))
     go_end0;refine⟨rfl,?_,XW.out.trans X11.out hbl.out⟩;refine cast (congrArg (fun l=>WR _ b l d) ?_) R11.out;simp[flat,texts,hjl.out,B_toList,lit_toList]
inductive PAll (D:Nat):List S62→(Nat→List (List UInt8))→Prop
 |nil:PAll D [] (fun _=>[])
 |cons (s:S62) (ls:Nat→List (List UInt8)) (r:List S62) (rs:Nat→List (List UInt8)):PS D s ls→PAll D r rs→PAll D (s::r) (fun d=>ls d++rs d)
def PSs (D:Nat) (l:List S62) (ls:Nat→List (List UInt8)):Prop:=∀(V W:World) (b:Nat) (o:List UInt8) (d:Nat) (A:Option Addr) (c:Nat),
 Lib.TabIs Tryz.prog V "internal/strconv.uint64pow10" .u64 Lib.pow10Tab→Below V.heap.size V W→V.heap.size≤b→WR W b o d→l.length≤c→Kd.C k62 V A l.length l→d≤D→o.length+(flat (ls d)).length+1000≤140737488355328→
 Calls Tryz.prog 24 #[.pointer (some ⟨b,0,none⟩),.slice A l.length c] W fun e w'=>e= .returned (.tuple #[])∧WR w' b (o++flat (ls d)) d∧Wrt b W w'
def SsLoop (D:Nat) (l:List S62) (tx:List UInt8) (d b:Nat) (W:World) (kq:Nat) (v8:Value) (w:World):Prop:=
 ∃(p r:List S62) (o:List UInt8) (rs:Nat→List (List UInt8)),v8= .int .i64 (p.length:Int)∧l=p++r∧PAll D r rs∧tx=o++flat (rs d)∧r.length<kq∧WR w b o d∧Wrt b W w
theorem pss_all {D:Nat} {l:List S62} {ls:Nat→List (List UInt8)} (hA:PAll D l ls) (hlm:l.length≤8000000):PSs D l ls:=by
 intro V W b o d A c ht hV hVb R hl hC hd hn;have hbl:=R.lt;have L0:=η (show SsLoop D l (o++flat (ls d)) d b W (l.length+1) (.int .i64 0) W from⟨[],l,o,ls,rfl,rfl,hA,rfl,by omega,R,Wrt.refl _ _⟩);have hn2:=η (show(o++flat (ls d)).length+1000≤140737488355328 by rw[List.length_append];omega);generalize o++flat (ls d)=tx at*;replace hC:=η hC;replace hl:=η hl;clear hA R hn;go_enter Tryz.func24,Tryz.ntmps24;go_wp2_with fail
 go_loopg [5,8] (l.length+1) (fun kq v5 v8 w=>SsLoop D l tx d b W kq v8 w)
 case atStart=>exact L0.out
 case round=>
  clear L0;obtain⟨p,r,o1,rs,rfl,hp,hr,htx,hk,R1,X1⟩:=hrel;cases hr with
  |nil=>
   have e2:p.length=l.length:=by rw[hp];simp
   have hnl:¬(p.length:Int)<(l.length:Int):=by omega
   have R2:=η (show WR wr b tx d by rw[htx];simpa[flat]using R1);have X2:=η X1;clear hp htx e2 R1 X1;go_wp2_with fail
   go_end0;exact⟨rfl,R2.out,X2.out⟩
  |cons s ls1 r rs h1 h2=>
   have hpl:l.length=p.length+(r.length+1):=by rw[hp];simp
   have hlt:(p.length:Int)<(l.length:Int):=by omega
   have hp0:(0:Int)≤(p.length:Int):=by omega
   have hp1:(p.length:Int)<1000000000:=by omega
   have hVr:=Wrt.low hV hVb X1;obtain⟨ad,A4,c4,A5,c5,A6,c6,eA,y0,y1,y2,y3,y4,y5,y6,l4,g4,l5,g5,l6,g6⟩:=at_T62 hC.out (p.length:Int) hp0 hlt
   have hrd:rd_T62 l (p.length:Int)=s:=by
    unfold rd_T62;rw[Int.toNat_natCast,List.getD_eq_getElem?_getD,hp];simp
   rw[hrd]at y0 y1 y2 y3 y4 y5 y6 l4 g4 l5 g5 l6 g6;subst eA;have tc:∀{p:Addr} {v:Value},V.cell? p=some v→wr.cell? p=some v:=fun hv=>((Turn.of_below (F:=fun _=>False) hVr (Nat.le_refl _)).cell hv (fun z=>z))
   have z0:=tc y0;have z1:=tc y1;have z2:=tc y2;have z3:=tc y3;have z4:=tc y4;have z5:=tc y5;have z6:=tc y6;have hbw:=R1.lt
   have LC:=η (fun(w':World) (H:Below wr.heap.size wr w')=>h1 V w' b o1 d A4 c4 A5 c5 A6 c6 ht (hVr.trans (H.mono hVr.size)) hVb (R1.step H) ⟨l4,g4,l5,g5,l6,g6⟩ hd (by
    have:=hn2.out;rw[htx]at this;simp only[flat_app,List.length_append]at this;omega))
   have REL:=η (show ∀(w':World),WR w' b (o1++flat (ls1 d)) d→Wrt b wr w'→SsLoop D l tx d b W (r.length+1) (.int .i64 ((p.length:Int)+1)) w' from
    fun w' q1 q2=>⟨p++[s],r,o1++flat (ls1 d),rs,by simp,by rw[hp];simp,h2,by rw[htx,flat_app,List.append_assoc],by omega,q1,X1.trans q2 hbl⟩)
   have hmeas:r.length+1<gk:=by simp only[List.length_cons]at hk;omega
   clear hp htx hrd hpl hk h1 h2 y0 y1 y2 y3 y4 y5 y6 tc X1 R1 l4 g4 l5 g5 l6 g6 hV hVr ht;replace hlm:=η hlm;generalize(p.length:Int)=pl at*;go_upto_region 3 with fail
   have e7:=heap7c (alloc_new wr (.cells (c62 s A4 c4 A5 c5 A6 c6) 62));have h7:=η (Below.alloc (Below.refl wr.heap.size wr) (Nat.le_refl _) (.cells (c62 s A4 c4 A5 c5 A6 c6) 62));have L7:=η (LC.out _ h7.out);clear LC z0 z1 z2 z3 z4 z5 z6;generalize wr.alloc (.cells (c62 s A4 c4 A5 c5 A6 c6) 62)=w7 at*;obtain⟨e0,e1,e2,e3,e4,e5,e6,ef⟩:=e7;clear ef;go_wp2_with(first|(go_at_call 52;refine L7.out.mono ?_;rintro e_ w8 ⟨rfl,R8,H8⟩;have R9:=η R8;have X9:=η (Wrt.trans (Wrt.of_below h7.out) H8 hbw);clear R8 H8))
   go_roundg (r.length+1)
   case measure=>exact hmeas
   case rel=>
    have q:=REL.out _ R9.out X9.out;simpa using q
theorem WR.dep {W:World} {b:Nat} {o:List UInt8} {d:Nat} (h:WR W b o d) (e:Nat):WR (W.setCell ⟨b,2,none⟩ (.int .i64 (e:Int))) b o e:=by
 obtain⟨p,v,h⟩:=h;exact⟨p,v,by have:=set_field (i:=2) h.hb (.int .i64 (e:Int)) rfl;simpa using this,h.hp,set_own h.own h.ne _,h.ne,.inr ⟨rfl,rfl⟩⟩
theorem WR.fz {W:World} {b:Nat} {o:List UInt8} {d:Nat} (h:WR W b o d) (i:Nat):W.frozen? ⟨b,i,none⟩=false:=by
 obtain⟨p,v,h⟩:=h;exact h.fz i
theorem Wrt.put (W:World) (b i:Nat) (v:Value):Wrt b W (W.setCell ⟨b,i,none⟩ v):=(turn_at (Turn.refl (fun k=>k=b) W) i v).mono (fun k _ hk=>⟨by omega,.inl hk⟩)
theorem pbk_of {D:Nat} {l:List S62} {bs:Nat→List (List UInt8)} (h:PSs (D+1) l bs) (hD:D≤16000000):PBk D l bs:=by
 intro V W b o d A c ht hV hVb R hl hC hd hn;have c2:=R.c2;have hbl:=R.lt;have f2:=R.fz 2;have k1:IntKind.i64.wrap ((d:Int)+1)=((d+1:Nat):Int):=by rw[IntKind.wrap_i64];omega
 have R1:=η (R.dep (d+1));have X1:=η (Wrt.put W b 2 (.int .i64 ((d+1:Nat):Int)));have SC:=η (h V _ b o (d+1) A c ht (Wrt.low hV hVb X1.out) hVb R1.out hl hC (by omega) hn);clear R hl hC hn h;have k2:IntKind.i64.wrap (((d+1:Nat):Int)-1)=(d:Int):=by rw[IntKind.wrap_i64];omega
 have ND:=η (show ∀w',WR w' b (o++flat (bs (d+1))) (d+1)→WR (w'.setCell ⟨b,2,none⟩ (.int .i64 (d:Int))) b (o++flat (bs (d+1))) d from fun w' R=>R.dep d);have C2:=η (fun(w':World) (o':List UInt8) (R:WR w' b o' (d+1))=>R.c2);generalize((d+1:Nat):Int)=E at*;generalize(d:Int)=D0 at*;go_enter Tryz.func86,Tryz.ntmps86;go_upto_region 1 with fail
 generalize W.setCell ⟨b,2,none⟩ (.int .i64 E)=w1 at*;clear c2 f2;go_wp2_with(first|(go_at_call 24;refine SC.out.mono ?_;rintro e_ w2 ⟨rfl,R2,H2⟩;have c2:=C2.out _ _ R2;have f2:=R2.fz 2;have R3:=η (ND.out _ R2);have X3:=η (X1.out.trans H2 hbl);clear R2 H2))
 go_end0;exact⟨rfl,R3.out,Wrt.trans X3.out (Wrt.put _ _ _ _) hbl⟩
inductive CT (D:Nat):Nat→S62→(Nat→List (List UInt8))→Prop
 |one (s:S62):s.f6=[]→CT D 0 s (fun d=>[tabL d++[125]])
 |els (s:S62) (es:Nat→List (List UInt8)):s.f6≠[]→(∀c,s.f6=[c]→c.f0≠6)→PBk D s.f6 es→CT D 0 s (fun d=>(tabL d++[125,32,101,108,115,101,32,123])::(es (d+1)++[tabL d++[125]]))
 |eif (s c:S62) (x:S80) (t:List UInt8) (m n:Nat) (bs tl:Nat→List (List UInt8)):s.f6=[c]→c.f0=6→c.f4=[x]→EX x t m→m≤8000000→PBk D c.f5 bs→CT D n c tl→
   CT D (n+1) s (fun d=>(tabL d++[125,32,101,108,115,101,32]++hIf t)::(bs (d+1)++tl d))
theorem first62 {W:World} {A:Option Addr} {n:Nat} {s:S62} {xs:List S62} (h:Kd.C k62 W A n (s::xs)):∃ad A4 c4 A5 c5 A6 c6,A=some ad∧(∀W',Below W.heap.size W W'→W'.cell? ad=some (.int .i64 s.f0)∧W'.cell? ⟨ad.block,ad.off+1,none⟩=some (.string s.f1)∧W'.cell? ⟨ad.block,ad.off+2,none⟩=some (.string s.f2)∧
 W'.cell? ⟨ad.block,ad.off+3,none⟩=some (.string s.f3)∧W'.cell? ⟨ad.block,ad.off+4,none⟩=some (.slice A4 s.f4.length c4)∧W'.cell? ⟨ad.block,ad.off+5,none⟩=some (.slice A5 s.f5.length c5)∧W'.cell? ⟨ad.block,ad.off+6,none⟩=some (.slice A6 s.f6.length c6))∧VC W s A4 c4 A5 c5 A6 c6:=by
 have hn:n=(s::xs).length:=h.1.symm;obtain⟨ad,A4,c4,A5,c5,A6,c6,rfl,e0,e1,e2,e3,e4,e5,e6,l4,g4,l5,g5,l6,g6⟩:=at_T62 h 0 (by omega) (by rw[hn];simp);have e:ad.add ((0:Int).toNat*7)=ad:=by unfold Addr.add;simp
 rw[e]at e0 e1 e2 e3 e4 e5 e6;have hb:∀{W':World} {p:Addr} {v:Value},Below W.heap.size W W'→W.cell? p=some v→W'.cell? p=some v:=fun H hv=>((Turn.of_below (F:=fun _=>False) H (Nat.le_refl _)).cell hv (fun z=>z))
 exact⟨ad,A4,c4,A5,c5,A6,c6,rfl,fun W' H=>⟨hb H e0,hb H e1,hb H e2,hb H e3,hb H e4,hb H e5,hb H e6⟩,l4,g4,l5,g5,l6,g6⟩
theorem WR.far {W W':World} {b g t:Nat} {o:List UInt8} {d:Nat} {cs:Array Value} {fr:Nat×Nat} (h:WR W b o d) (T:Turn (fun k=>k=g) W W') (hg:W.heap[g]? =some (.cells cs t fr)) (hgb:g≠b) (ht:t≠5:=by decide):WR W' b o d:=by
 obtain⟨p,v,h⟩:=h;refine⟨p,v,T.heap h.hb (fun e=>hgb e.symm),h.hp,own_move h.own (fun k hk=>T.block k (h.own.lt k hk).2 (fun e=> ?_)),h.ne,h.ty⟩;obtain⟨cells,hc⟩:=own_typed h.own k hk;rw[e,hg]at hc;injection hc with hc
 injection hc with q1 q2
 exact ht q2
def CLoop (D:Nat) (V W:World) (b d:Nat) (full:List UInt8) (kq:Nat) (w:World):Prop:=
 ∃(s:S62) (A4:Option Addr) (c4:Nat) (A5:Option Addr) (c5:Nat) (A6:Option Addr) (c6:Nat) (n:Nat) (tl:Nat→List (List UInt8)) (o:List UInt8),w.heap[W.heap.size]? =some (.cells (c62 s A4 c4 A5 c5 A6 c6) 62 (0,0))∧VC V s A4 c4 A5 c5 A6 c6∧CT D n s tl∧WR w b o d∧full=o++flat (tl d)∧n<kq∧Wrt b W w
theorem cond_call {D:Nat} (hD:D≤16000000) {s:S62} {x:S80} {t:List UInt8} {m:Nat} (h4:s.f4=[x]) (hx:EX x t m) (hm:m≤8000000) {bs:Nat→List (List UInt8)} (hb:PBk D s.f5 bs) {n:Nat} {tl:Nat→List (List UInt8)} (hT:CT D n s tl) (V W:World) (b:Nat) (o:List UInt8) (d:Nat) (A4:Option Addr) (c4:Nat) (A5:Option Addr) (c5:Nat) (A6:Option Addr) (c6:Nat)
 (ht:Lib.TabIs Tryz.prog V "internal/strconv.uint64pow10" .u64 Lib.pow10Tab) (hV:Below V.heap.size V W) (hVb:V.heap.size≤b) (R:WR W b o d) (VV:VC V s A4 c4 A5 c5 A6 c6) (hd:d≤D) (hn:o.length+(flat ((tabL d++hIf t)::(bs (d+1)++tl d))).length+1000≤140737488355328):
 Calls Tryz.prog 85 #[.pointer (some ⟨b,0,none⟩),.agg (c62 s A4 c4 A5 c5 A6 c6)] W fun e w'=>e= .returned (.tuple #[])∧WR w' b (o++flat ((tabL d++hIf t)::(bs (d+1)++tl d))) d∧Wrt b W w':=by
 have g4:=VV.g4;rw[h4]at g4;obtain⟨ad,A1,c1,eA,hc,hl1,hC1⟩:=first80 g4;obtain rfl:=eA;have hexl:=ex_len hx;have TX:=η (fun W' (H:Below V.heap.size V W')=>ptext_call hx W' A1 c1 (Joins.tab_stays uint64pow10_is ht H (Nat.le_refl _)) hl1 (Kd.C_below hC1 H) (by omega));replace hc:=η hc;have hl4:s.f4.length=1:=by rw[h4];rfl
 have hbl:=R.lt;have hVb2:=hVb;have hd9:d<1000000000:=by omega
 replace R:=η R;replace hn:=η hn;have HT:=η ht;replace VV:=η VV;have HTl:=η hT;clear ht g4 hC1 hT h4;replace hl4:=η hl4;go_enter Tryz.func85,Tryz.ntmps85;go_upto_region 1 with(first|((with_reducible refine gate_dst (N:=3) rfl ?_);refine bxE (N:=3) (cs:=c62 s (some ad) c4 A5 c5 A6 c6) (t:=62) ?_;intro g hg w4 hbox hb4))
 have hb4l:b<w4.heap.size:=Nat.lt_of_lt_of_le hbl hb4.size;have hne:g≠b:=by omega
 have hV4:Below V.heap.size V w4:=hV.trans (hb4.mono hV.size);have R0:=η (R.out.step hb4);have XW:=η (Wrt.of_below (b:=b) hb4);have X0:=η (Wrt.refl b w4);have HK:=η (fun(W':World) (H:Wrt b w4 W')=>H.keep hbox hne (by decide));rw[hg]at HK
 have SC:=η (show ∀W',Wrt b w4 W'→W'.cell? ⟨W.heap.size,4,none⟩=some (.slice (some ad) 1 c4)∧W'.cell? ⟨W.heap.size,5,none⟩=some (.slice A5 s.f5.length c5)∧W'.cell? ad=some (.int .i64 x.f0)∧W'.cell? ⟨ad.block,ad.off+1,none⟩=some (.int .i64 x.f1)∧W'.cell? ⟨ad.block,ad.off+2,none⟩=some (.string x.f2)∧W'.cell? ⟨ad.block,ad.off+3,none⟩=some (.string x.f3)∧W'.cell? ⟨ad.block,ad.off+4,none⟩=some (.slice A1 x.f4.length c1) from fun W' H=>by
  obtain⟨q0,q1,q2,q3,q4,q5,q6,qf⟩:=heap7c (HK.out W' H);rw[hl4.out]at q4;exact⟨q4,q5,hc.out W' (Wrt.low hV4 hVb H)⟩)
 have VB:=η (fun W' (H:Wrt b w4 W')=>Wrt.low hV4 hVb H);subst hg;clear hbox hb4 hV4 hne R;have LL2:=η (fun(w9:World) (R9:WR w9 b o d)=>lit_line R9 hd9 [(⟨#[105,102,32]⟩:Bs),B t,(⟨#[32,123]⟩:Bs)] (by simp only[List.length_cons,List.length_nil];omega) (by have:=hn.out;simp only[hIf,texts,flat,flat_app,List.length_append,List.length_cons,List.length_nil,B_toList,lit_toList,List.append_assoc]at*;omega));have BK3:=η (fun(w9:World) (R9:WR w9 b (o++tabL d++texts [(⟨#[105,102,32]⟩:Bs),B t,(⟨#[32,123]⟩:Bs)]++[10]) d) (X9:Wrt b w4 w9)=>hb V w9 b _ d A5 c5 HT.out (VB.out _ X9) hVb2 R9 VV.out.l5 VV.out.g5 hd (by have:=hn.out;simp only[hIf,texts,flat,flat_app,List.length_append,List.length_cons,List.length_nil,B_toList,lit_toList,List.append_assoc]at*;omega));have HTX:=η (show o++flat ((tabL d++hIf t)::(bs (d+1)++tl d))=(o++tabL d++texts [(⟨#[105,102,32]⟩:Bs),B t,(⟨#[32,123]⟩:Bs)]++[10]++flat (bs (d+1)))++flat (tl d) by simp[hIf,flat,flat_app,texts,B_toList,lit_toList]);have HN:=η (show(o++flat ((tabL d++hIf t)::(bs (d+1)++tl d))).length+1000≤140737488355328 by have:=hn.out;rw[List.length_append];omega);clear hn;generalize hF:o++flat ((tabL d++hIf t)::(bs (d+1)++tl d))=full at*;replace hF:=η hF;obtain⟨z0,z1,z2,z3,z4,z5,z6⟩:=SC.out w4 X0.out;go_upto_region 3 with(first|(go_at_call 86;refine(BK3.out w2' R2.out X2.out).mono ?_;rintro e_ w3' ⟨rfl,R9,H9⟩;have X3:=η (X2.out.trans H9 hb4l);have R3:=η R9;clear H9 R9)|(go_at_call 23;refine(LL2.out w1' R1.out).mono ?_;rintro e_ w2' ⟨rfl,R9,H9⟩;have X2:=η (X1.out.trans H9 hb4l);have R2:=η R9;obtain⟨p0,p1,p2,p3,p4,p5,p6⟩:=SC.out w2' X2.out;clear H9 R9)|(go_at_call 83;refine(TX.out w4 (VB.out _ X0.out)).mono ?_;rintro e_ w1' ⟨rfl,H9⟩;have X1:=η (X0.out.trans (Wrt.of_below H9) hb4l);have R1:=η (R0.out.step H9);clear H9))
 have L0:=η (show CLoop D V W b d full (n+1) w3' from⟨s,some ad,c4,A5,c5,A6,c6,n,tl,_,HK.out _ X3.out,VV.out,HTl.out,R3.out,HTX.out,by omega,XW.out.trans X3.out hbl⟩);clear z0 z1 z2 z3 z4 z5 z6 p0 p1 p2 p3 p4 p5 p6 X3 R3 HTX HK VV HTl XW X0 X1 X2 R0 R1 R2 SC VB LL2 BK3 TX hc hl4 hexl hl1;have hm9:=hm;clear hx hm hb;go_loopg [27] (n+1) (fun kq v27 w=>CLoop D V W b d full kq w)
 case atStart=>exact L0.out
 case round=>
  clear L0;obtain⟨q,B4,k4,B5,k5,B6,k6,n1,tl1,o1,hbx,VQ,hCT,R1,hfu,hkq,X1⟩:=hrel;have hbw:=R1.lt;have hgw:W.heap.size<wr.heap.size:=(Array.getElem?_eq_some_iff.mp hbx).1;have hgb:W.heap.size≠b:=by omega
  have hVr:=Wrt.low hV hVb X1;have hN9:=HN.out;rw[hfu]at hN9;have KB:=η (fun(w':World) (H:Wrt b wr w')=>heap7c (H.keep hbx hgb (by decide)));have VBr:=η (fun(w':World) (H:Wrt b wr w')=>Wrt.low hVr hVb H);obtain⟨e0,e1,e2,e3,e4,e5,e6,ef⟩:=heap7c hbx;cases hCT with
  |one _ h6=>
   have hl6:q.f6.length=0:=by rw[h6];rfl
   rw[hl6]at e6;have LL:=η (lit_line R1 hd9 [(⟨#[125]⟩:Bs)] (by simp only[List.length_cons,List.length_nil];omega) (by simp only[hIf,texts,flat,flat_app,List.length_append,List.length_cons,List.length_nil,B_toList,lit_toList,List.append_assoc]at*;omega));replace hfu:=η hfu;replace X1:=η X1;replace hl6:=η hl6;clear h6 VQ KB VBr hVr hN9 hbx R1;go_wp2_with(first|(go_at_call 23;refine LL.out.mono ?_;rintro e_ w2 ⟨rfl,R9,H9⟩;have X2:=η (X1.out.trans H9 hbl);have R2:=η R9;clear H9 R9))
   go_end0;refine⟨rfl,?_,X2.out⟩;rw[hF.out,hfu.out];refine cast (congrArg (fun l=>WR _ b l d) ?_) R2.out;simp[flat,texts,B_toList,lit_toList]
  |els _ es h6 h7 hE=>
   have LL:=η (lit_line R1 hd9 [(⟨#[125,32,101,108,115,101,32,123]⟩:Bs)] (by simp only[List.length_cons,List.length_nil];omega) (by simp only[hIf,texts,flat,flat_app,List.length_append,List.length_cons,List.length_nil,B_toList,lit_toList,List.append_assoc]at*;omega));have BK:=η (fun(w9:World) (R9:WR w9 b (o1++tabL d++texts [(⟨#[125,32,101,108,115,101,32,123]⟩:Bs)]++[10]) d) (X9:Wrt b wr w9)=>hE V w9 b _ d B6 k6 HT.out (VBr.out _ X9) hVb2 R9 VQ.l6 VQ.g6 hd (by simp only[hIf,texts,flat,flat_app,List.length_append,List.length_cons,List.length_nil,B_toList,lit_toList,List.append_assoc]at*;omega));have L3:=η (fun(w9:World) (R9:WR w9 b (o1++tabL d++texts [(⟨#[125,32,101,108,115,101,32,123]⟩:Bs)]++[10]++flat (es (d+1))) d)=>lit_line R9 hd9 [(⟨#[125]⟩:Bs)] (by simp only[List.length_cons,List.length_nil];omega) (by simp only[hIf,texts,flat,flat_app,List.length_append,List.length_cons,List.length_nil,B_toList,lit_toList,List.append_assoc]at*;omega));replace hfu:=η hfu;have X1':=η X1;have g6:=VQ.g6;have hlp:0<q.f6.length:=List.length_pos_iff.mpr h6;have hlpI:(0:Int)<(q.f6.length:Int):=by omega
   have E6:=η (fun(w':World) (H:Wrt b wr w')=>(KB.out w' H).2.2.2.2.2.2.1)
   have hcase:(∃ad2,B6=some ad2∧(q.f6.length:Int)=1∧∃z:Int,z≠6∧∀w',Wrt b wr w'→w'.cell? ad2=some (.int .i64 z))∨¬(q.f6.length:Int)=1:=by
    rcases hq:q.f6 with _|⟨c,_|⟨c2,r⟩⟩
    · exact absurd hq h6
    · left
      rw[hq]at g6;obtain⟨ad2,a4,b4,a5,b5,a6,b6,eA,hcc,_⟩:=first62 g6;exact⟨ad2,eA,by simp,c.f0,h7 c hq,fun w' H=>(hcc w' (VBr.out w' H)).1⟩
    · right
      simp;omega
   clear h6 h7 VQ KB VBr hVr hN9 hbx R1 g6 X1 hE;rcases hcase with⟨ad2,rfl,hl1,zz,hz,hcz⟩|hl1
   · have hl2:q.f6.length=1:=by omega
     have hz':¬zz=6:=hz;have y0:=hcz wr (Wrt.refl _ _);rw[hl2]at e6 E6 BK;replace hcz:=η hcz;clear hl1 hl2 hlp hlpI hz;go_wp2_with(first|(go_at_call 86;refine(BK.out w2 R2.out X2.out).mono ?_;rintro e_ w3 ⟨rfl,R9,H9⟩;have X3:=η (X2.out.trans H9 hbw);have L4:=η (L3.out w3 R9);clear H9 R9)|(go_at_call 23;refine L4.out.mono ?_;rintro e_ w4' ⟨rfl,R9,H9⟩;have X4:=η (X3.out.trans H9 hbw);have R4:=η R9;clear H9 R9)|(go_at_call 23;refine LL.out.mono ?_;rintro e_ w2 ⟨rfl,R9,H9⟩;have X2:=η H9;have R2:=η R9;have e6_2:=E6.out w2 H9;clear H9 R9))
     go_end0;refine⟨rfl,?_,X1'.out.trans X4.out hbl⟩;rw[hF.out,hfu.out];refine cast (congrArg (fun l=>WR _ b l d) ?_) R4.out;simp[flat,flat_app,texts,B_toList,lit_toList]
   · replace E6:=E6
     have hl2:¬q.f6.length=1:=by omega
     go_wp2_with(first|(go_at_call 86;refine(BK.out w2 R2.out X2.out).mono ?_;rintro e_ w3 ⟨rfl,R9,H9⟩;have X3:=η (X2.out.trans H9 hbw);have L4:=η (L3.out w3 R9);clear H9 R9)|(go_at_call 23;refine L4.out.mono ?_;rintro e_ w4' ⟨rfl,R9,H9⟩;have X4:=η (X3.out.trans H9 hbw);have R4:=η R9;clear H9 R9)|(go_at_call 23;refine LL.out.mono ?_;rintro e_ w2 ⟨rfl,R9,H9⟩;have X2:=η H9;have R2:=η R9;have e6_2:=E6.out w2 H9;clear H9 R9))
     go_end0;refine⟨rfl,?_,X1'.out.trans X4.out hbl⟩;rw[hF.out,hfu.out];refine cast (congrArg (fun l=>WR _ b l d) ?_) R4.out;simp[flat,flat_app,texts,B_toList,lit_toList]
  |eif _ c x2 t2 m2 n2 bs2 tl2 h6 h7 h8 h9 h10 h11 h12=>
   have g6:=VQ.g6;rw[h6]at g6;obtain⟨ad2,a4,b4,a5,b5,a6,b6,eA,hcc,VC2⟩:=first62 g6;obtain rfl:=eA;obtain⟨y0,y1,y2,y3,y4,y5,y6⟩:=hcc wr hVr;have g4:=VC2.g4;rw[h8]at g4;obtain⟨ad,A1,c1,eA,hc,hl1,hC1⟩:=first80 g4;obtain rfl:=eA;have hexl:=ex_len h9;have hl4:=η (show c.f4.length=1 by rw[h8];rfl);have hl6:q.f6.length=1:=by rw[h6];rfl
   rw[hl6]at e6;have hk6:=VQ.l6;rw[h7]at y0;clear hl6;have hVr2:=η hVr;have HB0:=η hbx;have R1':=η R1;have X1':=η X1;have hfu2:=η hfu;have hN2:=η hN9;have H7:=η h7;clear h6 h8 VQ KB VBr hVr hN9 hbx R1 X1 hfu h7 g6 g4 hcc;go_upto_region 5 with fail
   have s7:=set7 HB0.out (.int .i64 6) (.string c.f1) (.string c.f2) (.string c.f3) (.slice (some ad) c.f4.length b4) (.slice a5 c.f5.length b5) (.slice a6 c.f6.length b6);unfold set7w at s7;have R7:=η (R1'.out.far s7.2 HB0.out hgb);have X7:=η (show Wrt b W _ from X1'.out.then s7.2 (fun i hi=> .inr (by omega)))
   have HBX:=η (show(((((((wr.setCell ⟨W.heap.size,0,none⟩ (.int .i64 6)).setCell ⟨W.heap.size,1,none⟩ (.string c.f1)).setCell ⟨W.heap.size,2,none⟩ (.string c.f2)).setCell ⟨W.heap.size,3,none⟩ (.string c.f3)).setCell ⟨W.heap.size,4,none⟩ (.slice (some ad) c.f4.length b4)).setCell ⟨W.heap.size,5,none⟩ (.slice a5 c.f5.length b5)).setCell ⟨W.heap.size,6,none⟩ (.slice a6 c.f6.length b6)).heap[W.heap.size]? =some (.cells (c62 c (some ad) b4 a5 b5 a6 b6) 62 (0,0)) by
    rw[show c62 c (some ad) b4 a5 b5 a6 b6=#[.int .i64 6,.string c.f1,.string c.f2,.string c.f3,.slice (some ad) c.f4.length b4,.slice a5 c.f5.length b5,.slice a6 c.f6.length b6] by unfold c62;rw[H7.out]];exact s7.1)
   clear s7 y0 y1 y2 y3 y4 y5 y6 e0 e1 e2 e3 e4 e5 e6 ef;generalize hw7:(((((((wr.setCell ⟨W.heap.size,0,none⟩ (.int .i64 6)).setCell ⟨W.heap.size,1,none⟩ (.string c.f1)).setCell ⟨W.heap.size,2,none⟩ (.string c.f2)).setCell ⟨W.heap.size,3,none⟩ (.string c.f3)).setCell ⟨W.heap.size,4,none⟩ (.slice (some ad) c.f4.length b4)).setCell ⟨W.heap.size,5,none⟩ (.slice a5 c.f5.length b5)).setCell ⟨W.heap.size,6,none⟩ (.slice a6 c.f6.length b6))=w7 at*;replace hw7:=η hw7;have hb7:=η R7.out.lt;have VB7:=η (fun(w':World) (H:Wrt b w7 w')=>Wrt.low hV hVb (X7.out.trans H hbl))
   have SC:=η (show ∀W',Wrt b w7 W'→W'.cell? ⟨W.heap.size,4,none⟩=some (.slice (some ad) 1 b4)∧W'.cell? ⟨W.heap.size,5,none⟩=some (.slice a5 c.f5.length b5)∧W'.cell? ad=some (.int .i64 x2.f0)∧W'.cell? ⟨ad.block,ad.off+1,none⟩=some (.int .i64 x2.f1)∧W'.cell? ⟨ad.block,ad.off+2,none⟩=some (.string x2.f2)∧W'.cell? ⟨ad.block,ad.off+3,none⟩=some (.string x2.f3)∧W'.cell? ⟨ad.block,ad.off+4,none⟩=some (.slice A1 x2.f4.length c1) from fun W' H=>by
    obtain⟨q0,q1,q2,q3,q4,q5,q6,qf⟩:=heap7c (s:=c) (A4:=some ad) (c4:=b4) (A5:=a5) (c5:=b5) (A6:=a6) (c6:=b6) (H.keep (x:=w7) HBX.out hgb (by decide));rw[hl4.out]at q4;exact⟨q4,q5,hc W' (VB7.out W' H)⟩)
   have TX:=η (fun W' (H:Wrt b w7 W')=>ptext_call h9 W' A1 c1 (Joins.tab_stays uint64pow10_is HT.out (VB7.out W' H) (Nat.le_refl _)) hl1 (Kd.C_below hC1 (VB7.out W' H)) (by omega));have hN9:=hN2.out;have LL:=η (fun(w9:World) (R9:WR w9 b o1 d)=>lit_line R9 hd9 [(⟨#[125,32,101,108,115,101,32,105,102,32]⟩:Bs),B t2,(⟨#[32,123]⟩:Bs)] (by simp only[List.length_cons,List.length_nil];omega) (by simp only[hIf,texts,flat,flat_app,List.length_append,List.length_cons,List.length_nil,B_toList,lit_toList,List.append_assoc]at hN9⊢;omega));have BK:=η (fun(w9:World) (R9:WR w9 b (o1++tabL d++texts [(⟨#[125,32,101,108,115,101,32,105,102,32]⟩:Bs),B t2,(⟨#[32,123]⟩:Bs)]++[10]) d) (X9:Wrt b w7 w9)=>h11 V w9 b _ d a5 b5 HT.out (VB7.out _ X9) hVb2 R9 VC2.l5 VC2.g5 hd (by simp only[hIf,texts,flat,flat_app,List.length_append,List.length_cons,List.length_nil,B_toList,lit_toList,List.append_assoc]at hN9⊢;omega));have REL:=η (show ∀w',WR w' b (o1++tabL d++texts [(⟨#[125,32,101,108,115,101,32,105,102,32]⟩:Bs),B t2,(⟨#[32,123]⟩:Bs)]++[10]++flat (bs2 (d+1))) d→Wrt b w7 w'→CLoop D V W b d full (n2+1) w' from fun w' q1 q2=>⟨c,some ad,b4,a5,b5,a6,b6,n2,tl2,_,q2.keep HBX.out hgb (by decide),VC2,h12,q1,by rw[hfu2.out];simp[hIf,flat,flat_app,texts,B_toList,lit_toList],by omega,X7.out.trans q2 hbl⟩);obtain⟨z0,z1,z2,z3,z4,z5,z6⟩:=SC.out w7 (Wrt.refl _ _);clear hN9 h11 h12 VC2 hc hC1 hl1 h9;go_wp2_with(first|(go_at_call 86;refine(BK.out w9 R9.out X9.out).mono ?_;rintro e_ w10 ⟨rfl,Ra,H9⟩;have X10:=η (X9.out.trans H9 hb7.out);have R10:=η Ra;clear H9 Ra)|(go_at_call 23;refine(LL.out w8 R8.out).mono ?_;rintro e_ w9 ⟨rfl,Ra,H9⟩;have X9:=η (X8.out.trans H9 hb7.out);have R9:=η Ra;obtain⟨p0,p1,p2,p3,p4,p5,p6⟩:=SC.out w9 X9.out;clear H9 Ra)|(go_at_call 83;refine(TX.out w7 (Wrt.refl _ _)).mono ?_;rintro e_ w8 ⟨rfl,H9⟩;have X8:=η (Wrt.of_below (b:=b) H9);have R8:=η (R7.out.step H9);clear H9))
   go_roundg (n2+1)
   case measure=>exact hkq
   case rel=>exact REL.out _ R10.out X10.out
theorem ps_ifs (D:Nat) (hD:D≤16000000) {s:S62} (h0:s.f0=6) {x:S80} {t:List UInt8} {m:Nat} (h4:s.f4=[x]) (hx:EX x t m) (hm:m≤8000000) {bs:Nat→List (List UInt8)} (hb:PBk D s.f5 bs) {n:Nat} {tl:Nat→List (List UInt8)} (hT:CT D n s tl):
 PS D s (fun d=>(tabL d++hIf t)::(bs (d+1)++tl d)):=by
 intro V W b o d A4 c4 A5 c5 A6 c6 ht hV hVb R VV hd hn;have hbl:=R.lt;have CC:=η (fun(w':World) (H:Below W.heap.size W w')=>cond_call hD h4 hx hm hb hT V w' b o d A4 c4 A5 c5 A6 c6 ht (hV.trans (H.mono hV.size)) hVb (R.step H) VV hd hn);clear ht R VV hn hT hb hx;obtain⟨s0,s1,s2,s3,s4,s5,s6⟩:=s;have h0':s0=6:=h0;subst h0';clear h0 h4;go_enter Tryz.func52,Tryz.ntmps52;go_upto_region 1 with(first|((with_reducible refine gate_dst (N:=3) rfl ?_);refine bxE (N:=3) (cs:=c62 ⟨6,s1,s2,s3,s4,s5,s6⟩ A4 c4 A5 c5 A6 c6) (t:=62) ?_;intro g hg w4 hbox hb4))
 have C4:=η (CC.out w4 hb4);have B4:=η hb4;subst hg;obtain⟨e0,e1,e2,e3,e4,e5,e6,ef⟩:=heap7c hbox;clear CC hbox hb4 ef;go_wp2_with(first|(go_at_call 85;refine C4.out.mono ?_;rintro e_ w9 ⟨rfl,R9,H9⟩;have RR:=η R9;have XX:=η ((Wrt.of_below (b:=b) B4.out).trans H9 hbl);clear R9 H9))
 go_end0;exact⟨rfl,RR.out,XX.out⟩
theorem ps_ind:∀(N:Nat),(∀D s ls m,m≤N→SX s ls m→D+m≤16000000→m≤8000000→PS D s ls)∧
 (∀D s h ls m,m≤N→CX s h ls m→D+m≤16000000→m≤8000000→∃x t k n bs tl,s.f0=6∧s.f4=[x]∧EX x t k∧k≤8000000∧PBk D s.f5 bs∧CT D n s tl∧h=hIf t∧ls=fun d=>bs (d+1)++tl d)∧
 (∀D l ls n,n≤N→SXs l ls n→D+n≤16000000→n≤8000000→PAll D l ls)
 |0=>by
  refine⟨fun D s ls m hm h=> ?_,fun D s h ls m hm hc=> ?_,fun D l ls n hn h=> ?_⟩
  · have:=sx_pos h;omega
  · cases hc<;>omega
  · intro _ _
    cases h with
    |nil=>exact .nil
    |cons s ls m r rs n h1 h2=>have:=sx_pos h1;omega
 |N+1=>by
  obtain⟨i1,i2,i3⟩:=ps_ind N
  have BK:∀D l bs n,n≤N→SXs l bs n→D+1+n≤16000000→n≤8000000→PBk D l bs:=fun D l bs n hn h h1 h2=>
   pbk_of (pss_all (i3 (D+1) l bs n hn h h1 h2) (by have:=sxs_cnt h;omega)) (by omega)
  have C:∀D s h ls m,m≤N+1→CX s h ls m→D+m≤16000000→m≤8000000→∃x t k n bs tl,s.f0=6∧s.f4=[x]∧EX x t k∧k≤8000000∧PBk D s.f5 bs∧CT D n s tl∧h=hIf t∧ls=fun d=>bs (d+1)++tl d:=by
   intro D s h ls m hm hc h1 h2;cases hc with
   |one x t b bs m n hx hb=>
    have:=ex_pos hx;exact⟨x,t,m,0,bs,_,rfl,rfl,hx,by omega,BK D b bs n (by omega) hb (by omega) (by omega),.one _ rfl,rfl,rfl⟩
   |els x t b bs e es m n k hx hb he1 he2 he=>
    have:=ex_pos hx;exact⟨x,t,m,0,bs,_,rfl,rfl,hx,by omega,BK D b bs n (by omega) hb (by omega) (by omega),.els _ es he1 he2 (BK D e es k (by omega) he (by omega) (by omega)),rfl,rfl⟩
   |eif x t b bs c h ls m n k hx hb hc=>
    have:=ex_pos hx;obtain⟨x2,t2,k2,n2,bs2,tl2,q0,q1,q2,q3,q4,q5,rfl,rfl⟩:=i2 D c h ls k (by omega) hc (by omega) (by omega);exact⟨x,t,m,n2+1,bs,_,rfl,rfl,hx,by omega,BK D b bs n (by omega) hb (by omega) (by omega),.eif _ c x2 t2 k2 n2 bs2 tl2 rfl q0 q1 q2 q3 q4 q5,rfl,rfl⟩
  have S:∀D s ls m,m≤N+1→SX s ls m→D+m≤16000000→m≤8000000→PS D s ls:=by
   intro D s ls m hm h h1 h2;cases h with
   |set s x t m hs hx=>exact ps_set D (by omega) s x t m hs.sz hx (by omega)
   |put s x y t u m n hs hx hy=>exact ps_put D (by omega) s x y t u m n hs.sz hx hy (by omega) (by omega)
   |del s x t m hs hx=>exact ps_del D (by omega) s x t m hs.sz hx (by omega)
   |clr s hs=>exact ps_clr D (by omega) s hs.sz
   |prt xs ts m hx=>exact ps_prt D (by omega) xs ts m hx (by omega)
   |ifs s h ls m hc=>
    obtain⟨x2,t2,k2,n2,bs2,tl2,q0,q1,q2,q3,q4,q5,rfl,rfl⟩:=C D s h ls m hm hc h1 h2;exact ps_ifs D (by omega) q0 q1 q2 q3 q4 q5
   |whl x t b bs m n hx hb=>exact ps_whl D (by omega) x t m hx (by omega) b bs (BK D b bs n (by omega) hb (by omega) (by omega))
   |rng s a c b bs n hs ha hc hb=>exact ps_rng D (by omega) s a c hs.sz ha.sz hc.sz b bs (BK D b bs n (by omega) hb (by omega) (by omega))
   |brk=>exact ps_brk D (by omega)
   |cnt=>exact ps_cnt D (by omega)
  refine⟨S,C,?_⟩;intro D l;induction l with
  |nil=>intro ls n _ h _ _;cases h;exact .nil
  |cons s r ih=>
   intro ls n hn h h1 h2;cases h with
   |cons s ls m r rs n q1 q2=>exact .cons s ls r rs (S D s ls m (by omega) q1 (by omega) (by omega)) (ih rs n (by omega) q2 (by omega) (by omega))
def MLoop (W:World) (b:Nat) (ms:List Bs) (kq:Nat) (v14:Value) (w:World):Prop:=∃j:Nat,v14= .int .i64 (j:Int)∧WR w b (mapsL (ms.take j)) 0∧j≤ms.length∧ms.length-j<kq∧Wrt b W w
theorem pprint_call (ms:List Bs) (hms:∀x∈ms,NameS x) (hml:ms.length≤8000000) (ss:List S62) (ls:Nat→List (List UInt8)) (n:Nat) (h:SXs ss ls n) (hn:n≤8000000) (W:World) (A:Option Addr) (c:Nat) (A':Option Addr) (c':Nat) (ht:Lib.TabIs Tryz.prog W "internal/strconv.uint64pow10" .u64 Lib.pow10Tab)
 (hlc:ms.length≤c) (hC:Kd.C Kd.string W A ms.length ms) (hl:ss.length≤c') (hS:Kd.C k62 W A' ss.length ss)
 (FC:∀W',Below W.heap.size W W'→Calls Tryz.prog 22 #[.agg #[.slice A ms.length c,.slice A' ss.length c']] W' fun e w'=>e= .returned (.bool true)∧Below W'.heap.size W' w'):
 Calls Tryz.prog 9 #[.agg #[.slice A ms.length c,.slice A' ss.length c']] W fun e w'=>e= .returned (.string (B (mapsL ms++flat (ls 0))))∧Below W.heap.size W w':=by
 have hmb:=mapsL_len ms hms;have hfb:=flat_len h 0;have SS:=η (pss_all ((ps_ind n).2.2 0 ss ls n (Nat.le_refl _) h (by omega) hn) (by have:=sxs_cnt h;omega));have hbound:=η (show(mapsL ms).length+(flat (ls 0)).length+10000000≤140737488355328 by omega);replace hC:=η hC;replace hS:=η hS;replace hms:=η hms;replace ht:=η ht;replace FC:=η FC;clear hmb hfb h;go_enter Tryz.func9,Tryz.ntmps9;go_upto_region 1 with(first|((with_reducible refine gate_dst (N:=1) rfl ?_);refine bxE (N:=1) (cs:=#[.slice A ms.length c,.slice A' ss.length c']) (t:=31) ?_;intro g hg w4 hbox hb4))
 have C4:=η (FC.out w4 hb4)
 have BB:=η (show ∀W',Below w4.heap.size w4 W'→W'.cell? ⟨g,0,none⟩=some (.slice A ms.length c)∧W'.cell? ⟨g,1,none⟩=some (.slice A' ss.length c') from fun W' H=>by
  obtain⟨q0,q1,qf⟩:=heap_two ((Turn.new H).heap hbox (fun z=>z));exact⟨q0,q1⟩)
 have B4:=η hb4;subst hg;obtain⟨q0,q1⟩:=BB.out w4 (Below.refl _ _);clear hbox hb4 FC;go_upto_region 3 with(first|(go_at_call 22;refine C4.out.mono ?_;rintro e_ w5 ⟨rfl,H5⟩;have B5:=η (below_step B4.out H5);have BC:=η (fun W' H=>BB.out W' (below_step H5 H));clear H5))
 clear q0 q1 BB C4 B4;go_upto_region 4 with(first|((with_reducible refine gate_dst (N:=10) rfl ?_);refine bxE (N:=10) (cs:=#[.pointer none,.slice none 0 0,.int .i64 0]) (t:=69) ?_;intro b hg w6 hbox hb6))
 have R6:=η (show WR w6 b [] 0 from⟨.pointer none,.slice none 0 0,⟨by simpa using hbox,.inl rfl,World.ownsRow_nil _ _ _ _,by simp[Value.ownBlock],.inr ⟨rfl,rfl⟩⟩⟩);have hWb:=η (show W.heap.size≤b by rw[hg];exact B5.out.size);have BC6:=η (fun(W':World) (H:Wrt b w6 W')=>BC.out W' (hb6.trans (H.below (show b≤w6.heap.size by rw[hg];exact hb6.size) |>.mono (by rw[hg];exact Nat.le_refl _))));have BV:=η (fun(W':World) (H:Wrt b w6 W')=>Wrt.low (B5.out.trans (hb6.mono B5.out.size)) hWb.out H);have hbl:=η R6.out.lt;clear hbox hb6;subst hg;generalize w5.heap.size=b at*;obtain⟨q0,q1⟩:=BC6.out w6 (Wrt.refl _ _);go_upto_region 5 with fail
 go_loopg [5,14] (ms.length+1) (fun kq v5 v14 w=>MLoop w6 b ms kq v14 w)
 case atStart=>exact⟨0,rfl,by simpa[mapsL]using R6.out,Nat.zero_le _,by omega,Wrt.refl _ _⟩
 case round=>
  obtain⟨j,rfl,R1,hj,hkq,X1⟩:=hrel;have hp0:(0:Int)≤(j:Int):=by omega
  have hp1:(j:Int)<1000000000:=by omega
  have hmt:=take_le ms;have hb9:=hbound.out;by_cases hlt:j<ms.length
  · have hltI:(j:Int)<(ms.length:Int):=by omega
    obtain⟨y,hy⟩:∃y,ms[j]? =some y:=⟨_,List.getElem?_eq_getElem hlt⟩;obtain⟨ad,eA,hc⟩:=str_c hC.out (j:Int) hp0 y (by rw[Int.toNat_natCast];exact hy);obtain rfl:=eA;have z0:=hc wr (BV.out wr X1);have htake:mapsL (ms.take (j+1))=mapsL (ms.take j)++([109,97,112,32]++y.toList++[59,10]):=by rw[List.take_add_one,hy,Option.toList_some,mapsL_app];simp[mapsL]
    have LL:=η (lit_line R1 (by decide) [(⟨#[109,97,112,32]⟩:Bs),y,(⟨#[59]⟩:Bs)] (by simp only[List.length_cons,List.length_nil];omega) (by
     have h1:=hmt (j+1);rw[htake]at h1;simp only[texts,List.length_append,List.length_cons,List.length_nil,lit_toList]at h1⊢;omega))
    have hms2:ms.length-j<gk:=by omega
    have REL:=η (show ∀w',WR w' b (mapsL (ms.take j)++tabL 0++texts [(⟨#[109,97,112,32]⟩:Bs),y,(⟨#[59]⟩:Bs)]++[10]) 0→Wrt b wr w'→MLoop w6 b ms (ms.length-j) (.int .i64 ((j:Int)+1)) w' from fun w' q1 q2=>⟨j+1,by simp,by rw[htake];simpa[texts,tabL,lit_toList]using q1,by omega,by omega,X1.trans q2 hbl.out⟩);clear hc hy htake R1 X1 hj hkq hlt hmt hb9;generalize(j:Int)=J at*;go_wp2_with(first|(go_at_call 23;refine LL.out.mono ?_;rintro e_ w2 ⟨rfl,R2,X2⟩;have HR2:=η R2;have HX2:=η X2;clear R2 X2))
    go_roundg (ms.length-j)
    case measure=>exact hms2
    case rel=>
     have q:=REL.out _ HR2.out HX2.out;simpa using q
  · have hlt2:¬(j:Int)<(ms.length:Int):=by omega
    have hje:j=ms.length:=by omega
    rw[hje,List.take_length]at R1;have HX:=η X1;have S9:=η (SS.out W wr b _ 0 A' c' ht.out (BV.out wr X1) hWb.out R1 hl hS.out (Nat.le_refl _) (by omega));obtain⟨p0,p1⟩:=BC6.out wr X1;clear hje R1 X1 hj hkq hlt hmt hb9;go_wp2_with(first|(go_at_call 24;refine S9.out.mono ?_;rintro e_ w2 ⟨rfl,R2,X2⟩;have HR2:=η R2;have HX2:=η (HX.out.trans X2 hbl.out);clear R2 X2)|(go_at_call 25;obtain⟨pp,vv,BD2⟩:=HR2.out;refine(strB_call BD2).mono ?_;rintro e_ w3 ⟨rfl,H3⟩;have B3:=η ((BV.out w2 HX2.out).trans (H3.mono hWb.out));clear H3))
    go_ret;exact⟨rfl,B3.out⟩
def FS (s:S62):Prop:=∀(V W:World) (A4:Option Addr) (c4:Nat) (A5:Option Addr) (c5:Nat) (A6:Option Addr) (c6:Nat),GA V→Below V.heap.size V W→VC V s A4 c4 A5 c5 A6 c6→
 Calls Tryz.prog 81 #[.agg (c62 s A4 c4 A5 c5 A6 c6)] W fun e w'=>e= .returned (.bool true)∧Below W.heap.size W w'
def FSs (l:List S62):Prop:=∀(V W:World) (A:Option Addr) (c:Nat),GA V→Below V.heap.size V W→l.length≤c→Kd.C k62 V A l.length l→
 Calls Tryz.prog 49 #[.slice A l.length c] W fun e w'=>e= .returned (.bool true)∧Below W.heap.size W w'
def FsLoop (l:List S62) (W:World) (kq:Nat) (v7:Value) (w:World):Prop:=∃(p r:List S62),v7= .int .i64 (p.length:Int)∧l=p++r∧(∀s∈r,FS s)∧r.length<kq∧Below W.heap.size W w
theorem fss_all {l:List S62} (hA:∀s∈l,FS s) (hlm:l.length≤8000000):FSs l:=by
 intro V W A c hG hV hl hC;have L0:=η (show FsLoop l W (l.length+1) (.int .i64 0) W from⟨[],l,rfl,rfl,hA,by omega,Below.refl _ _⟩);replace hC:=η hC;replace hl:=η hl;replace hG:=η hG;replace hV:=η hV;clear hA;go_enter Tryz.func49,Tryz.ntmps49;go_wp2_with fail
 go_loopg [4,7] (l.length+1) (fun kq v4 v7 w=>FsLoop l W kq v7 w)
 case atStart=>exact L0.out
 case round=>
  clear L0;obtain⟨p,r,rfl,hp,hr,hk,X1⟩:=hrel;cases r with
  |nil=>
   have hnl:¬(p.length:Int)<(l.length:Int):=by rw[hp];simp
   have X2:=η X1;clear hp hr X1;go_wp2_with fail
   go_ret;exact⟨rfl,X2.out⟩
  |cons s r=>
   have hpl:l.length=p.length+(r.length+1):=by rw[hp];simp
   have hlt:(p.length:Int)<(l.length:Int):=by omega
   have hp0:(0:Int)≤(p.length:Int):=by omega
   have hp1:(p.length:Int)<1000000000:=by omega
   have hVr:=hV.out.trans (X1.mono hV.out.size);obtain⟨ad,A4,c4,A5,c5,A6,c6,eA,y0,y1,y2,y3,y4,y5,y6,l4,g4,l5,g5,l6,g6⟩:=at_T62 hC.out (p.length:Int) hp0 hlt
   have hrd:rd_T62 l (p.length:Int)=s:=by
    unfold rd_T62;rw[Int.toNat_natCast,List.getD_eq_getElem?_getD,hp];simp
   rw[hrd]at y0 y1 y2 y3 y4 y5 y6 l4 g4 l5 g5 l6 g6;subst eA;have tc:∀{p:Addr} {v:Value},V.cell? p=some v→wr.cell? p=some v:=fun hv=>((Turn.of_below (F:=fun _=>False) hVr (Nat.le_refl _)).cell hv (fun z=>z))
   have z0:=tc y0;have z1:=tc y1;have z2:=tc y2;have z3:=tc y3;have z4:=tc y4;have z5:=tc y5;have z6:=tc y6;have LC:=η (fun(w':World) (H:Below wr.heap.size wr w')=>hr s (List.mem_cons_self ..) V w' A4 c4 A5 c5 A6 c6 hG.out (hVr.trans (H.mono hVr.size)) ⟨l4,g4,l5,g5,l6,g6⟩)
   have REL:=η (show ∀(w':World),Below wr.heap.size wr w'→FsLoop l W (r.length+1) (.int .i64 ((p.length:Int)+1)) w' from
    fun w' q2=>⟨p++[s],r,by simp,by rw[hp];simp,fun x hx=>hr x (List.mem_cons_of_mem _ hx),by omega,X1.trans (q2.mono X1.size)⟩)
   have hmeas:r.length+1<gk:=by simp only[List.length_cons]at hk;omega
   clear hp hrd hpl hk hr y0 y1 y2 y3 y4 y5 y6 tc X1 l4 g4 l5 g5 l6 g6 hVr;replace hlm:=η hlm;generalize(p.length:Int)=pl at*;go_upto_region 4 with fail
   have e7:=heap7c (alloc_new wr (.cells (c62 s A4 c4 A5 c5 A6 c6) 62));have h7:=η (Below.alloc (Below.refl wr.heap.size wr) (Nat.le_refl _) (.cells (c62 s A4 c4 A5 c5 A6 c6) 62));have L7:=η (LC.out _ h7.out);clear LC z0 z1 z2 z3 z4 z5 z6;generalize wr.alloc (.cells (c62 s A4 c4 A5 c5 A6 c6) 62)=w7 at*;obtain⟨e0,e1,e2,e3,e4,e5,e6,ef⟩:=e7;clear ef;go_wp2_with(first|(go_at_call 81;refine L7.out.mono ?_;rintro e_ w8 ⟨rfl,H8⟩;have X9:=η (below_step h7.out H8);clear H8))
   go_roundg (r.length+1)
   case measure=>exact hmeas
   case rel=>
    have q:=REL.out _ X9.out;simpa using q
def FpLoop (ms:List Bs) (w1:World) (kq:Nat) (v8:Value) (w:World):Prop:=∃j:Nat,v8= .int .i64 (j:Int)∧w=w1∧j≤ms.length∧ms.length-j<kq
theorem formed_of {ms:List Bs} (hms:∀x∈ms,NameS x) (hml:ms.length≤8000000) {ss:List S62} (hs:FSs ss) (V W:World) (A:Option Addr) (c:Nat) (A':Option Addr) (c':Nat) (hG:GA V) (hV:Below V.heap.size V W)
 (hlc:ms.length≤c) (hC:Kd.C Kd.string V A ms.length ms) (hl:ss.length≤c') (hS:Kd.C k62 V A' ss.length ss):
 Calls Tryz.prog 22 #[.agg #[.slice A ms.length c,.slice A' ss.length c']] W fun e w'=>e= .returned (.bool true)∧Below W.heap.size W w':=by
 have SC:=η (fun(w':World) (H:Below V.heap.size V w')=>hs V w' A' c' hG H hl hS);have NC:=η (fun(x:Bs) (hx:x∈ms) (w':World) (H:Below V.heap.size V w')=>isName_call x (hms x hx) w' (hG.step H hG.lt).ws);replace hC:=η hC;replace hV:=η hV;clear hs hms hG hS;go_enter Tryz.func22,Tryz.ntmps22;go_upto_region 1 with(first|((with_reducible refine gate_dst (N:=1) rfl ?_);refine bxE (N:=1) (cs:=#[.slice A ms.length c,.slice A' ss.length c']) (t:=31) ?_;intro g hg w4 hbox hb4))
 have V4:=η (hV.out.trans (hb4.mono hV.out.size));have B4:=η hb4;subst hg;obtain⟨q0,q1,qf⟩:=heap_two hbox;clear hbox hb4 qf;have H4:=η (show(0:Nat)=0 from rfl);go_upto_region 2 with fail
 go_loopg [4,8] (ms.length+1) (fun kq v4 v8 w=>FpLoop ms w4 kq v8 w)
 case atStart=>exact⟨0,rfl,rfl,Nat.zero_le _,by omega⟩
 case round=>
  obtain⟨j,rfl,hw,hj,hkq⟩:=hrel;subst hw;by_cases hlt:j<ms.length
  · have hltI:(j:Int)<(ms.length:Int):=by omega
    have hp0:(0:Int)≤(j:Int):=by omega
    have hp1:(j:Int)<1000000000:=by omega
    obtain⟨y,hy⟩:∃y,ms[j]? =some y:=⟨_,List.getElem?_eq_getElem hlt⟩;obtain⟨ad,eA,hc⟩:=str_c hC.out (j:Int) hp0 y (by rw[Int.toNat_natCast];exact hy);obtain rfl:=eA;have z0:=hc wr V4.out;have N1:=η (NC.out y (List.mem_of_getElem? hy) wr V4.out);have REL:=η (show FpLoop ms wr (ms.length-j) (.int .i64 ((j:Int)+1)) wr from⟨j+1,by simp,rfl,by omega,by omega⟩);have hms2:ms.length-j<gk:=by omega
    clear hc hy hj hkq hlt;generalize(j:Int)=J at*;go_wp2_with(first|(go_at_call 48;refine N1.out.mono ?_;rintro e_ w2 ⟨rfl,rfl⟩))
    go_roundg (ms.length-j)
    case measure=>exact hms2
    case rel=>simpa using REL.out
  · have hlt2:¬(j:Int)<(ms.length:Int):=by omega
    have S9:=η (SC.out wr V4.out);clear hj hkq hlt;go_wp2_with(first|(go_at_call 49;refine S9.out.mono ?_;rintro e_ w2 ⟨rfl,H2⟩;have B2:=η (below_step B4.out H2);clear H2))
    go_ret;exact⟨rfl,B2.out⟩
end Go.Proofs.YtbemddpmohoooaaGreatDoor
