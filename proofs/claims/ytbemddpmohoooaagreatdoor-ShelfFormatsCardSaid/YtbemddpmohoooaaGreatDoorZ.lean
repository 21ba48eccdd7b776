/- For every text, the format that the program writes, or the line and the error, is the document's: ShelfFormats returns true for every string. No condition of ours; the package-level variables are tied to the program's text by the given tie. -/
import Derived.Test.YtbemddpmohoooaaGreatDoorQ30
import Derived.Test.YtbemddpmohoooaaGreatDoorQ35
import Derived.Test.YtbemddpmohoooaaGreatDoorRows
import Derived.Test.YtbemddpmohoooaaGreatDoorCards
import Derived.Test.YtbemddpmohoooaaGreatDoorTie
import Derived.WalkKit
import Derived.ProofKit
import Derived.OpenShut
import Derived.ChangeOld
import Derived.Below
import Derived.LaidMore
import Derived.Lib.LaidTab
import Derived.Stop.Joined
import Derived.SevenTiedAt
set_option linter.unusedVariables false
set_option linter.unusedSimpArgs false
set_option linter.unusedSectionVars false
set_option maxHeartbeats 128000000
set_option maxRecDepth 100000
namespace Go.Proofs.YtbemddpmohoooaaGreatDoor
open PShelfFormats RowKit YtbemddpmohoooaaGreatDoorW YtbemddpmohoooaaGreatDoorW.PrintWords
theorem sc_if:∀(b e:Nat),SC 6 1 1 false true false b e
 |0,0=> .if0
 |b+1,0=> .if1 _ (by omega)
 |0,e+1=> .if2 _ (by omega)
 |b+1,e+1=> .if3 _ _ (by omega) (by omega)
theorem sc_wh:∀(b:Nat),SC 7 1 1 false true false b 0
 |0=> .wh0
 |b+1=> .wh1 _ (by omega)
theorem sc_rg:∀(b:Nat),SC 8 0 0 true true true b 0
 |0=> .rg0
 |b+1=> .rg1 _ (by omega)
theorem exs_fx:∀{xs:List S80} {ts:List (List UInt8)} {m:Nat},EXs xs ts m→∀x∈xs,FX x
 |_,_,_,.nil,x,h=>by cases h
 |_,_,_,.cons y t m xs ts n h1 h2,x,h=>by
  rcases List.mem_cons.mp h with rfl|h
  · exact fe_all h1
  · exact exs_fx h2 x h
theorem no_s:FSs []:=fss_all (fun s h=>by cases h) (by decide)
theorem fs_ind:∀(N:Nat),(∀s ls m,m≤N→SX s ls m→m≤8000000→FS s)∧(∀s h ls m,m≤N→CX s h ls m→m≤8000000→FS s)∧(∀l ls n,n≤N→SXs l ls n→n≤8000000→∀s∈l,FS s)
 |0=>by
  refine⟨fun s ls m hm h=> ?_,fun s h ls m hm hc=> ?_,fun l ls n hn h=> ?_⟩
  · have:=sx_pos h;omega
  · cases hc<;>omega
  · intro _ s hs
    cases h with
    |nil=>cases hs
    |cons s ls m r rs n h1 h2=>have:=sx_pos h1;omega
 |N+1=>by
  obtain⟨i1,i2,i3⟩:=fs_ind N;have BK:∀l bs n,n≤N→SXs l bs n→n≤8000000→FSs l:=fun l bs n hn h h2=>fss_all (i3 l bs n hn h h2) (by have:=sxs_cnt h;omega)
  have C:∀s h ls m,m≤N+1→CX s h ls m→m≤8000000→FS s:=by
   intro s h ls m hm hc h2;cases hc with
   |one x t b bs m n hx hb=>
    have:=ex_pos hx;exact fs_walk 6 1 1 b.length 0 false true false e0 e0 e0 [x] b [] (sc_if _ _) nmd_no nmd_no nmd_no rfl (by decide) rfl rfl (one_x (fe_all hx)) (BK b bs n (by omega) hb (by omega)) no_s
   |els x t b bs e es m n k hx hb he1 he2 he=>
    have:=ex_pos hx;exact fs_walk 6 1 1 b.length e.length false true false e0 e0 e0 [x] b e (sc_if _ _) nmd_no nmd_no nmd_no rfl (by decide) rfl rfl (one_x (fe_all hx)) (BK b bs n (by omega) hb (by omega)) (BK e es k (by omega) he (by omega))
   |eif x t b bs c h ls m n k hx hb hc=>
    have:=ex_pos hx;refine fs_walk 6 1 1 b.length 1 false true false e0 e0 e0 [x] b [c] (sc_if _ _) nmd_no nmd_no nmd_no rfl (by decide) rfl rfl (one_x (fe_all hx)) (BK b bs n (by omega) hb (by omega)) (fss_all (fun s hs=> ?_) (by simp));rw[List.mem_singleton.mp hs];exact i2 c h ls k (by omega) hc (by omega)
  have S:∀s ls m,m≤N+1→SX s ls m→m≤8000000→FS s:=by
   intro s ls m hm h h2;cases h with
   |set s x t m hs hx=>exact fs_walk 1 1 1 0 0 true false false s e0 e0 [x] [] [] .set (nmd_yes hs) nmd_no nmd_no rfl (by decide) rfl rfl (one_x (fe_all hx)) no_s no_s
   |put s x y t u m n hs hx hy=>
    refine fs_walk 2 2 2 0 0 true false false s e0 e0 [x,y] [] [] .put (nmd_yes hs) nmd_no nmd_no rfl (by decide) rfl rfl (fun z hz=> ?_) no_s no_s;rcases List.mem_cons.mp hz with rfl|hz
    · exact fe_all hx
    · rw[List.mem_singleton.mp hz];exact fe_all hy
   |del s x t m hs hx=>exact fs_walk 3 1 1 0 0 true false false s e0 e0 [x] [] [] .del (nmd_yes hs) nmd_no nmd_no rfl (by decide) rfl rfl (one_x (fe_all hx)) no_s no_s
   |clr s hs=>exact fs_walk 4 0 0 0 0 true false false s e0 e0 [] [] [] .clr (nmd_yes hs) nmd_no nmd_no rfl (by decide) rfl rfl no_x no_s no_s
   |prt xs ts m hx=>exact fs_walk 5 (-1) xs.length 0 0 false false false e0 e0 e0 xs [] [] (.prt _) nmd_no nmd_no nmd_no rfl (by have:=(exs_len hx).2;omega) rfl rfl (exs_fx hx) no_s no_s
   |ifs s h ls m hc=>exact C s h ls m hm hc h2
   |whl x t b bs m n hx hb=>exact fs_walk 7 1 1 b.length 0 false true false e0 e0 e0 [x] b [] (sc_wh _) nmd_no nmd_no nmd_no rfl (by decide) rfl rfl (one_x (fe_all hx)) (BK b bs n (by omega) hb (by omega)) no_s
   |rng s a c b bs n hs ha hc hb=>exact fs_walk 8 0 0 b.length 0 true true true s a c [] b [] (sc_rg _) (nmd_yes hs) (nmd_yes ha) (nmd_yes hc) rfl (by decide) rfl rfl no_x (BK b bs n (by omega) hb (by omega)) no_s
   |brk=>exact fs_walk 9 0 0 0 0 false false false e0 e0 e0 [] [] [] .brk nmd_no nmd_no nmd_no rfl (by decide) rfl rfl no_x no_s no_s
   |cnt=>exact fs_walk 10 0 0 0 0 false false false e0 e0 e0 [] [] [] .cnt nmd_no nmd_no nmd_no rfl (by decide) rfl rfl no_x no_s no_s
  refine⟨S,C,?_⟩;intro l;induction l with
  |nil=>intro ls n _ h _ s hs;cases hs
  |cons s r ih=>
   intro ls n hn h h2 z hz;cases h with
   |cons s ls m r rs n q1 q2=>
    rcases List.mem_cons.mp hz with rfl|hz
    · exact S z ls m (by omega) q1 (by omega)
    · exact ih rs n (by omega) q2 (by omega) z hz
theorem formed_prog (ms:List Bs) (hms:∀x∈ms,NameS x) (hml:ms.length≤8000000) (ss:List S62) (ls:Nat→List (List UInt8)) (n:Nat) (h:SXs ss ls n) (hn:n≤8000000) (V W:World) (A:Option Addr) (c:Nat) (A':Option Addr) (c':Nat) (hG:GA V) (hV:Below V.heap.size V W)
 (hlc:ms.length≤c) (hC:Kd.C Kd.string V A ms.length ms) (hl:ss.length≤c') (hS:Kd.C k62 V A' ss.length ss):
 Calls Tryz.prog 22 #[.agg #[.slice A ms.length c,.slice A' ss.length c']] W fun e w'=>e= .returned (.bool true)∧Below W.heap.size W w':=
 formed_of hms hml (fss_all ((fs_ind n).2.2 ss ls n (Nat.le_refl _) h hn) (by have:=sxs_cnt h;omega)) V W A c A' c' hG hV hlc hC hl hS
theorem parse_long (s:Bs) (hs:1048576<s.size) (hs2:s.size<9223372036854775808) (w:World):Calls Tryz.prog 8 #[.string s] w (ParsePost w (.error (0,230))):=by
 have c1:(1048576:Int)<(s.size:Int):=by omega
 obtain⟨bp,hbp⟩:∃b,b=w.heap.size:=⟨_,rfl⟩;obtain⟨bl,hbl⟩:∃b,b=w.heap.size+1:=⟨_,rfl⟩;obtain⟨be,hbe⟩:∃b,b=w.heap.size+1+1:=⟨_,rfl⟩;have T0:=η ((((Turn.refl (fun _=>False) w).alloc (bP (.slice none 0 0) (.slice none 0 0))).alloc (.cells #[.int .i64 0] 3)).alloc (.cells #[.int .i64 0] 24));have BP:=alloc_old (alloc_old (alloc_new w (bP (.slice none 0 0) (.slice none 0 0))) (.cells #[.int .i64 0] 3)) (.cells #[.int .i64 0] 24);have BL:=alloc_old (alloc_new (w.alloc (bP (.slice none 0 0) (.slice none 0 0))) (.cells #[.int .i64 0] 3)) (.cells #[.int .i64 0] 24);have BE:=alloc_new ((w.alloc (bP (.slice none 0 0) (.slice none 0 0))).alloc (.cells #[.int .i64 0] 3)) (.cells #[.int .i64 0] 24);rw[show(w.alloc (bP (.slice none 0 0) (.slice none 0 0))).heap.size=bl by simp;omega]at BL;rw[show((w.alloc (bP (.slice none 0 0) (.slice none 0 0))).alloc (.cells #[.int .i64 0] 3)).heap.size=be by simp;omega]at BE;rw[← hbp]at BP;replace BP:=η BP;replace BL:=η BL;replace BE:=η BE;have E1:=η hbp;have E2:=η hbl;have E3:=η hbe;clear hbp hbl hbe;go_enter_defers Tryz.func8,Tryz.ntmps8;go_upto_region 2 with fail
 rw[← E3.out,← E2.out,← E1.out];generalize((w.alloc (bP (.slice none 0 0) (.slice none 0 0))).alloc (.cells #[.int .i64 0] 3)).alloc (.cells #[.int .i64 0] 24)=w0 at*;have hb:w.heap.size≤bp∧bp<bl∧bl<be:=by have:=E1.out;have:=E2.out;have:=E3.out;omega
 obtain⟨p0,p1,pf⟩:=heap2 BP.out;obtain⟨l0,lf⟩:=heap1 BL.out;obtain⟨e0,ef⟩:=heap1 BE.out;go_wp2_with fail
 obtain⟨P1,s2⟩:=set2 BP.out (.slice none 0 0) (.slice none 0 0);have L1:=s2.heap BL.out (fun z=>by omega);have E4:=s2.heap BE.out (fun z=>by omega);have X1:=T0.out.then s2 (fun i hi=> .inr (by omega));clear p0 p1 pf l0 lf e0 ef s2;generalize(w0.setCell ⟨bp,0,none⟩ (.slice none 0 0)).setCell ⟨bp,1,none⟩ (.slice none 0 0)=w1 at*;have L2:=set_field (i:=0) L1 (.int .i64 0) rfl;have T2:=turn_at (Turn.refl (fun k=>k=bl) w1) 0 (.int .i64 0);have P2:=T2.heap P1 (fun z=>by omega);have E5:=T2.heap E4 (fun z=>by omega);have X2:=X1.then T2 (fun i hi=> .inr (by omega));generalize w1.setCell ⟨bl,0,none⟩ (.int .i64 0)=w2 at*;have E6:=set_field (i:=0) E5 (.int .i64 230) rfl;have T3:=turn_at (Turn.refl (fun k=>k=be) w2) 0 (.int .i64 230);have P3:=T3.heap P2 (fun z=>by omega);have L3:=T3.heap L2 (fun z=>by omega);have X3:=X2.then T3 (fun i hi=> .inr (by omega));generalize w2.setCell ⟨be,0,none⟩ (.int .i64 230)=w3 at*;obtain⟨p0,p1,pf⟩:=heap2 P3;obtain⟨l0,lf⟩:=heap1 L3;obtain⟨e0,ef⟩:=heap1 E6;exact⟨.tuple #[.agg #[.slice none 0 0,.slice none 0 0],.int .i64 0,.int .i64 230],by simp[results,Tryz.results8,go_sem,p0,p1,l0,e0],X3,rfl⟩
theorem pformat_call {o:PrgO} {t:Bs} {a b:Int} (h:FR o t a b) (s:Bs) (w:World) (hG:GA w) (ht:Lib.TabIs Tryz.prog w "internal/strconv.uint64pow10" .u64 Lib.pow10Tab) (PC:Calls Tryz.prog 8 #[.string s] w (ParsePost w o)):
 Calls Tryz.prog 5 #[.string s] w fun e w'=>e= .returned (.tuple #[.string t,.int .i64 a,.int .i64 b])∧Below w.heap.size w w':=by
 have P0:=η PC;have G0:=η hG;have T0:=η ht;clear PC hG ht;cases h with
 |err a b hb=>
  have c2:(b==0)=false:=beq_eq_false_iff_ne.mpr hb;have c3:(b !=0)=true:=bne_iff_ne.mpr hb;clear hb;go_enter Tryz.func5,Tryz.ntmps5;go_upto_region 2 with(first|(go_at_call 8;refine P0.out.mono ?_;rintro e_ w1 ⟨T1,rfl⟩;have B1:=η T1.low;clear T1))
  have B2:=η (Below.alloc B1.out B1.out.size (.cells #[.slice none 0 0,.slice none 0 0] 31));generalize w1.alloc (.cells #[.slice none 0 0,.slice none 0 0] 31)=w2 at*;go_wp2_with fail
  refine bodyPost_ret (results_tmp3 rfl _ _ _) rfl ?_;exact⟨rfl,B2.out⟩
 |ok ms ss l' ls n hms hml hss hn=>
  go_enter Tryz.func5,Tryz.ntmps5;go_upto_region 2 with(first|(go_at_call 8;refine P0.out.mono ?_;rintro e_ w1 ⟨T1,A,c,A',c',rfl,l1,F1,l2,F2⟩;have B1:=η T1.low;clear T1))
  have B2:=η (Below.alloc B1.out B1.out.size (.cells #[.slice A ms.length c,.slice A' ss.length c'] 31));have H2:=η (alloc_new w1 (.cells #[.slice A ms.length c,.slice A' ss.length c'] 31));have C2:=Kd.F_now (Kd.F_alloc F1 (.cells #[.slice A ms.length c,.slice A' ss.length c'] 31));have G2:=Kd.F_now (Kd.F_alloc F2 (.cells #[.slice A ms.length c,.slice A' ss.length c'] 31));have GA2:=G0.out.step B2.out G0.out.lt;have D:=η (pprint_call ms hms hml ss ls n hss hn _ A c A' c' (Joins.tab_stays uint64pow10_is T0.out B2.out (Nat.le_refl _)) l1 C2 l2 G2 (fun W' H=>formed_prog ms hms hml ss ls n hss hn _ W' A c A' c' GA2 H l1 C2 l2 G2));clear C2 G2 F1 F2 hms hss GA2;generalize w1.alloc (.cells #[.slice A ms.length c,.slice A' ss.length c'] 31)=w2 at*;obtain⟨e0,e1,ef⟩:=heap_two H2.out;go_wp2_with(first|(go_at_call 9;refine D.out.mono ?_;rintro e_ w3 ⟨rfl,H3⟩;have B3:=η (below_step B2.out H3);clear H3))
  refine bodyPost_ret (results_tmp3 rfl _ _ _) rfl ?_;exact⟨rfl,B3.out⟩
theorem law_of {t:Bs} {a b:Int} (s:Bs) (w:World) (DC:Calls Tryz.prog 4 #[.string s] w fun e w'=>e= .returned (.tuple #[.string t,.int .i64 a,.int .i64 b])∧Below w.heap.size w w')
 (PC:∀W,Below w.heap.size w W→Calls Tryz.prog 5 #[.string s] W fun e w'=>e= .returned (.tuple #[.string t,.int .i64 a,.int .i64 b])∧Below W.heap.size W w'):
 Calls Tryz.prog 3 #[.string s] w fun e w'=>e= .returned (.bool true)∧Below w.heap.size w w':=by
 have h1:(t.toList==t.toList)=true:=beq_self_eq_true _;have h2:(a==a)=true:=beq_self_eq_true _;have h3:(b==b)=true:=beq_self_eq_true _;replace DC:=η DC;replace PC:=η PC;go_enter Tryz.func3,Tryz.ntmps3;go_wp2_with(first|(go_at_call 4;refine DC.out.mono ?_;rintro e_ w1 ⟨rfl,H1⟩;have B1:=η H1;have P1:=η (PC.out w1 H1);clear H1)|(go_at_call 5;refine P1.out.mono ?_;rintro e_ w2 ⟨rfl,H2⟩;have B2:=η (below_step B1.out H2);clear H2))
 go_ret;exact⟨by simp,B2.out⟩
theorem both_parse (s:Bs) (hs:s.size<9223372036854775808) (w:World) (hG:GA w) (te:TypeId) (pe:Value) (hev:w.cell? ⟨5,0,none⟩=some (.iface te pe)):
 ∃o t a b,FR o t a b∧(Calls Tryz.prog 6 #[.string s] w (ParsePost w o))∧∀W,Below w.heap.size w W→Calls Tryz.prog 8 #[.string s] W (ParsePost W o):=by
 by_cases h:s.size≤1048576
 · have ht:=toks_ok s h
   have hl:(toks s).length≤1048578:=by have:=lex_len (s.size+1) false 0 1 s.toList;unfold toks;omega
   obtain⟨o,ho⟩:=Option.isSome_iff_exists.mp (ttl_prog ht)
   have hp:∀W,Below w.heap.size w W→Calls Tryz.prog 8 #[.string s] W (ParsePost W o):=fun W H=>by
    have g:=hG.step H hG.lt;have h5:=World.block_lt_of_cell? w _ hev;have e5:W.cell? ⟨5,0,none⟩=some (.iface te pe):=(Turn.new H).cell hev (fun z=>z);exact parse_call s (toks s) _ o W h ho (fun W' T=>tokens_call s h W' (g.ws.turn T (fun z=>z))) (lex_wf _ _ _ _ _) ht (by have:=stop_len (s.size+1) false 0 1 s.toList;unfold toks;omega) _ (Nat.lt_of_lt_of_le h5 H.size) e5 (.inr ⟨te,pe,rfl⟩)
   have hd:=dparse_call s h o ho w;cases o with
   |error e=>
    obtain⟨a,b⟩:=e;have he:b≠0:=by rcases er_prog _ _ _ ho with q|q<;>simp only at q<;>omega
    exact⟨_,_,_,_,.err a b he,hd,hp⟩
   |ok x=>
    obtain⟨⟨ms,ss⟩,l'⟩:=x;obtain⟨h1,ls,n,h2,h3⟩:=fr_prog ho (lex_tn _ _ _ _ _ (by rw[toList_len];exact h));exact⟨_,_,_,_,.ok ms ss l' ls n h1 (by omega) h2 (by omega),hd,hp⟩
 · exact⟨_,_,_,_,.err 0 230 (by decide),dparse_long s (by omega) hs w,fun W _=>parse_long s (by omega) hs W⟩
theorem law_call (s:Bs) (hs:s.size<9223372036854775808) (w:World) (hG:GA w) (ht:Lib.TabIs Tryz.prog w "internal/strconv.uint64pow10" .u64 Lib.pow10Tab) (te:TypeId) (pe:Value) (hev:w.cell? ⟨5,0,none⟩=some (.iface te pe)):
 Calls Tryz.prog 3 #[.string s] w fun e w'=>e= .returned (.bool true)∧Below w.heap.size w w':=by
 obtain⟨o,t,a,b,hF,hd,hp⟩:=both_parse s hs w hG te pe hev;exact law_of s w (dformat_call hF s w hd) (fun W H=>pformat_call hF s W (hG.step H hG.lt) (Joins.tab_stays uint64pow10_is ht H (Nat.le_refl _)) (hp W H))
#print axioms law_call
end Go.Proofs.YtbemddpmohoooaaGreatDoor
namespace Go.Proofs.YtbemddpmohoooaaGreatDoor.Shelf
open Go.ChangeShapes Go.WideShapes Go.ChangeAt RowKit
theorem own:ownKnob Tryz.prog.godebug=none:=by kernel_rfl
theorem laidOut:laidOutB Tryz.prog=true:=by kernel_rfl
abbrev laid8:List (String×DataW Unit):=[("math/bits.deBruijn32tab",Rows.laid_math_bits_deBruijn32tab),("math/bits.deBruijn64tab",Rows.laid_math_bits_deBruijn64tab),("internal/strconv.uint64pow10",Rows.laid_internal_strconv_uint64pow10),("strconv.ErrRange",Rows.laid_strconv_ErrRange),("strconv.ErrSyntax",Rows.laid_strconv_ErrSyntax),("larder/lang.exprForms",Rows.laid_larder_lang_exprForms),("larder/lang.stmtForms",Rows.laid_larder_lang_stmtForms),("larder/lang.words",Rows.laid_larder_lang_words)]
theorem door_met (os:Os) (args:Array Value):laidMetH Tryz.prog laid8 ((World.doorLaid Tryz.prog 4000 os).forCall (fun _ _=>0) ⟨#[],args,[]⟩).memory:=
 laidMetH_of_parts3 (fuel:=8) (laidMet_of_run' 8 (by kernel_rfl) (by kernel_rfl)) (by kernel_rfl) (by kernel_rfl)
theorem gPow:Tryz.prog.globalNamed "internal/strconv.uint64pow10" =some 6:=by kernel_rfl
theorem tPow:(Tryz.prog.globals[6]?).map (·.type)=some 164:=by kernel_rfl
theorem tErr:(Tryz.prog.globals[5]?).map (·.type)=some 95:=by kernel_rfl
theorem n143:Tryz.prog.cellsOf 143=1:=by kernel_rfl
theorem n164:Tryz.prog.cellsOf 164=20:=by kernel_rfl
theorem err_laid {W:World} {rest:List (String×DataW Unit)} (h:laidMet Tryz.prog (("strconv.ErrRange",Rows.laid_strconv_ErrRange)::rest) W):∃te pe,W.cell? ⟨5,0,none⟩=some (.iface te pe):=by
 obtain⟨cs,fuel,p,hc,hd⟩:=laid_head gErr tErr h;obtain⟨f2,u,v,rfl,_⟩:=iface_of_trod Tryz.underlying95 hd;exact⟨u,v,hc 0⟩
theorem pow_laid {W:World} {rest:List (String×DataW Unit)} (h:laidMet Tryz.prog (("internal/strconv.uint64pow10",Rows.laid_internal_strconv_uint64pow10)::rest) W):Lib.TabIs Tryz.prog W "internal/strconv.uint64pow10" .u64 Lib.pow10Tab:=
 Lib.tabIs_of_head (zs:=Lib.pow10Tab) gPow tPow Tryz.underlying164 Tryz.underlying143 n143 n164 (by rw[show(Lib.tabData .u64 Lib.pow10Tab:DataW Unit)=Rows.laid_internal_strconv_uint64pow10 by kernel_rfl];exact h)
theorem of_laid {W:World} (h:laidMetH Tryz.prog laid8 W):GA W∧Lib.TabIs Tryz.prog W "internal/strconv.uint64pow10" .u64 Lib.pow10Tab∧∃te pe,W.cell? ⟨5,0,none⟩=some (.iface te pe):=by
 rw[MakeChecks.laidMetH_plain _ _ _ (by kernel_rfl)]at h
 exact⟨⟨words_laid (laidMet.filter (fun x=>x.1== "larder/lang.words") h),ef_laid (laidMet.filter (fun x=>x.1== "larder/lang.exprForms") h),sf_laid (laidMet.filter (fun x=>x.1== "larder/lang.stmtForms") h)⟩,
  pow_laid (laidMet.filter (fun x=>x.1== "internal/strconv.uint64pow10") h),err_laid (laidMet.filter (fun x=>x.1== "strconv.ErrRange") h)⟩
theorem lifted (os:Os) (started:os.Started) (H:Type) (enc:TypeId×Value→H):
 ReturnsInHanded {} Tryz.checked os 3 .any (fun w args=>(Rows.shelfFormatsSpec.pre enc Tryz.prog Tryz.f3 [] false w args∧laidMetH Tryz.prog laid8 w)∧sizedMet enc Tryz.prog Tryz.f3 (OpenSpec.ofChange Rows.shelfFormatsSpec) false w args)
  (Rows.shelfFormatsSpec.post enc Tryz.prog Tryz.f3 false true false false):=by
 refine returnsInHanded_of_change_and (C:=Tryz.checked) (X:=fun w _=>laidMetH Tryz.prog laid8 w) (fun _ _ _ hh h=>h.of_heap hh) own started (by kernel_rfl) Tryz.func3
  (ChangeSpec.witness_shaped (enc:=enc) (C:=Tryz.checked) (os:=os) (X:=fun w _=>laidMetH Tryz.prog laid8 w) false (World.doorLaid Tryz.prog 4000 os) #[.string ⟨#[]⟩] 8 rfl (World.shaped_of_RefB (by kernel_rfl) (by kernel_rfl)) (by kernel_rfl) (by kernel_rfl) (by kernel_rfl) (door_met os _)) ?_
 intro W base args ds gs before hval0 hW _ hsz0 hL _;have hval:∀(j:Nat) t v,Tryz.f3.params[j]? =some t→args[j]? =some v→Value.okWide Tryz.prog W .any base t v:=hval0;have hW':=hW;obtain⟨p,q,hA0,hV,rfl,hfz,hnd⟩:=hW;have hA:DataW.TrodAll enc Tryz.prog W 0 (fun _=>true) true Tryz.f3.params.toList args.toList ds p:=hA0;rw[Tryz.params3]at hA hval;obtain⟨v0,vs0,d0,ds0,p0,q0,hargs,rfl,rfl,h0,r0⟩:=trodAll_cons hA;obtain⟨rfl,rfl,rfl⟩:=trodAll_nil r0;obtain rfl:args=#[v0]:=by cases args;simp_all
 obtain⟨rfl,rfl⟩:=trodVars_none hV;obtain⟨s,rfl⟩:=okWide_string Tryz.underlying9 (hval 0 9 v0 rfl rfl);have k0:=h0;have lt0:∀x∈p0,x.block<W.heap.size:=by obtain⟨m,hm⟩:=k0;exact DataW.trod_lt m _ _ _ hm
 have hs:s.size<9223372036854775808:=by
  obtain⟨m,hm⟩:=h0;obtain⟨s2,e,_,hs2⟩:=DataW.trod_string Tryz.underlying9 hm;have e2:s=s2:=by simpa[Value.cells]using e
  rw[e2];unfold maxLen at hs2;omega
 obtain⟨GA0,TP,te,pe,ER⟩:=of_laid hL;clear hA0 hval0 hsz0;refine(law_call s hs W GA0 TP te pe ER).mono fun e W' ⟨he,bel⟩=> ?_
 subst he;exact⟨_,rfl,_,_,_,[],_,[],hW',trodAll_mk1 (shut_bool Tryz.underlying4 _),(trodAll_cons_mk (Below.trod laidOut (by kernel_rfl) (of_decide_eq_true (by kernel_rfl)) k0 bel lt0) trodAll_mk0),rfl,bel.frame _,fun h=>by cases h⟩
theorem over:Rows.shelfFormatsRow.holds Tryz.pinned (OpenSpec.ofChange Rows.shelfFormatsSpec):=
 OpenClaim.holds_of_wide 3 Tryz.f3 rfl rfl rfl rfl rfl rfl rfl ⟨rfl,rfl,rfl,rfl,rfl⟩ rfl rfl rfl rfl rfl (by kernel_rfl) Tryz.func3 (by kernel_rfl)
  (of_decide_eq_true (by kernel_rfl)) (by unfold Func.isWrapper;first|(rw[if_pos (by decide+kernel)];kernel_rfl)|(rw[if_neg (by decide+kernel)];exact⟨rfl,rfl⟩))
  (fun os started H enc _=>lifted os started H enc)
theorem card:Rows.ShelfFormatsCardSaid:=
 Claim7.holds_tied_plain_at .later [] [.data,.data,.data,.sentinel,.sentinel,.data,.data,.data] true (true,"25777640c29dd7408f9e28d13e7740434a1971711041cea07078faf43c76a6ec") true
  over (fun _ h=>by cases h) (by kernel_rfl) (fun _ h=>by cases h) shelfFormats_row_tie rfl ⟨rfl,rfl⟩ (by kernel_rfl) rfl
  (fun f fn hf hfn=>by
    obtain rfl:f=3:=Option.some.inj ((show Tryz.prog.funcNamed "larder/larderlaw29.ShelfFormats" =some 3 by kernel_rfl).symm.trans hf) |>.symm
    obtain rfl:fn=Tryz.f3:=(Option.some.inj (Tryz.func3.symm.trans hfn)).symm
    exact⟨by kernel_rfl,fun j t ht=>by
     rw[Tryz.params3]at ht;have hm:t∈[9]:=by simpa using Array.mem_of_getElem? ht
     have hall:([9].all fun u=> !Tryz.prog.wantsStandIn u)=true:=by kernel_rfl
     exact(show Tryz.prog.wantsStandIn t=false by simpa using List.all_eq_true.1 hall t hm)⟩)
  (by kernel_rfl)
end Go.Proofs.YtbemddpmohoooaaGreatDoor.Shelf
namespace Go.Proofs.YtbemddpmohoooaaGreatDoor
theorem shelfFormats_holds:Rows.ShelfFormatsCardSaid:=Shelf.card
#print axioms shelfFormats_holds
end Go.Proofs.YtbemddpmohoooaaGreatDoor
