import Derived.Test.YtbemddpmohoooaaGreatDoorQ18
set_option linter.unusedVariables false
set_option linter.unusedSimpArgs false
set_option linter.unusedSectionVars false
set_option maxHeartbeats 128000000
set_option maxRecDepth 100000
namespace Go.Proofs.YtbemddpmohoooaaGreatDoor
open PShelfFormats RowKit YtbemddpmohoooaaGreatDoorW YtbemddpmohoooaaGreatDoorW.PrintWords
theorem two80 {W:World} {A:Option Addr} {n:Nat} {x y:S80} (h:Kd.C k80 W A n [x,y]):∃ad A1 c1 A2 c2,A=some ad∧(∀W',Below W.heap.size W W'→W'.cell? ad=some (.int .i64 x.f0)∧W'.cell? ⟨ad.block,ad.off+1,none⟩=some (.int .i64 x.f1)∧W'.cell? ⟨ad.block,ad.off+2,none⟩=some (.string x.f2)∧W'.cell? ⟨ad.block,ad.off+3,none⟩=some (.string x.f3)∧W'.cell? ⟨ad.block,ad.off+4,none⟩=some (.slice A1 x.f4.length c1)∧W'.cell? ⟨ad.block,ad.off+5,none⟩=some (.int .i64 y.f0)∧W'.cell? ⟨ad.block,ad.off+5+1,none⟩=some (.int .i64 y.f1)∧W'.cell? ⟨ad.block,ad.off+5+2,none⟩=some (.string y.f2)∧W'.cell? ⟨ad.block,ad.off+5+3,none⟩=some (.string y.f3)∧W'.cell? ⟨ad.block,ad.off+5+4,none⟩=some (.slice A2 y.f4.length c2))∧x.f4.length≤c1∧Kd.C k80 W A1 x.f4.length x.f4∧y.f4.length≤c2∧Kd.C k80 W A2 y.f4.length y.f4:=by
 have hn:n=2:=h.1.symm;obtain⟨ad,A1,c1,rfl,hc,hl1,hC1⟩:=first80 h;obtain⟨ad2,A2,c2,e,e0,e1,e2,e3,e4,l4,g4⟩:=at_T80 h 1 (by omega) (by omega);obtain rfl:=Option.some.inj e;have e:ad.add ((1:Int).toNat*5)=⟨ad.block,ad.off+5,none⟩:=rfl;rw[e]at e0 e1 e2 e3 e4;have hb:∀{W':World} {p:Addr} {v:Value},Below W.heap.size W W'→W.cell? p=some v→W'.cell? p=some v:=fun H hv=>((Turn.of_below (F:=fun _=>False) H (Nat.le_refl _)).cell hv (fun z=>z))
 refine⟨ad,A1,c1,A2,c2,rfl,fun W' H=> ?_,hl1,hC1,l4,g4⟩;obtain⟨q0,q1,q2,q3,q4⟩:=hc W' H;exact⟨q0,q1,q2,q3,q4,hb H e0,hb H e1,hb H e2,hb H e3,hb H e4⟩
def lvl (x:S80):Int:=if x.f0=7 then rank0 x.f3.toList+1 else 6
theorem level_call {W:World} {x:S80} {A:Option Addr} {c:Nat} (hl:x.f4.length≤c) (hC:Kd.C k80 W A x.f4.length x.f4):
 Calls Tryz.prog 92 #[.agg (c80 x A c)] W fun e w'=>e= .returned (.int .i64 (lvl x))∧Below W.heap.size W w':=by
 have D:=η (drank x.f3);unfold lvl c80;clear hl hC;generalize x.f4.length=n;cases h:(x.f0==7);rw[if_neg (fun z=>by rw[beq_iff_eq.mpr z]at h;cases h)];rotate_left 1;rw[if_pos (eq_of_beq h)]
 all_goals
  go_enter Tryz.func92,Tryz.ntmps92;go_upto_region 1 with(first|((with_reducible refine gate_dst (N:=1) rfl ?_);refine bxE (N:=1) (cs:=#[.int .i64 x.f0,.int .i64 x.f1,.string x.f2,.string x.f3,.slice A n c]) (t:=80) ?_;intro g hg w4 hbox hb4))
  subst hg;have B4:=η hb4;obtain⟨e0,e1,e2,e3,e4,ef⟩:=hp5 hbox;clear hbox hb4;go_wp2_with(first|(go_at_call 57;refine(D.out _).mono ?_;rintro e w5 ⟨rfl,H5⟩;have B5:=η (below_step B4.out H5);clear H5))
  go_ret
  first|exact⟨rfl,B5.out⟩|exact⟨rfl,B4.out⟩
theorem drank_call (W:World) (s:Bs):Calls Tryz.prog 57 #[.string s] W fun e w'=>e= .returned (.int .i64 (rank0 s.toList+1))∧Below W.heap.size W w':=drank s W
theorem wrap_l (x:S80) (t:List UInt8) (r:Int) (hr:r<5):(if(decide (lvl x<r+1) || (lvl x==r+1&&r+1==3))=true then [40]++t++[41]else t)=wrap x (lowL r) t:=by
 unfold wrap lvl lowL;by_cases h:x.f0=7
 · simp only[if_pos h,h,true_and,if_true,Bool.or_eq_true,decide_eq_true_eq,Bool.and_eq_true,beq_iff_eq]
   by_cases h2:r=2
   · subst h2
     simp only[if_true];by_cases h3:rank0 x.f3.toList<3
     · rw[if_pos h3,if_pos (by omega)]
     · rw[if_neg h3,if_neg (by omega)]
   · simp only[if_neg h2]
     by_cases h3:rank0 x.f3.toList<r
     · rw[if_pos h3,if_pos (by omega)]
     · rw[if_neg h3,if_neg (by omega)]
 · simp only[if_neg h,h,false_and,if_false,Bool.or_eq_true,decide_eq_true_eq,Bool.and_eq_true,beq_iff_eq]
   rw[if_neg (by omega)]
theorem wrap_r (x:S80) (t:List UInt8) (r:Int) (hr:r<5):(if decide (lvl x≤r+1)=true then [40]++t++[41]else t)=wrap x (r+1) t:=by
 unfold wrap lvl;simp only[decide_eq_true_eq];by_cases h:x.f0=7
 · simp only[if_pos h,h,true_and,if_true]
   by_cases h3:rank0 x.f3.toList<r+1
   · rw[if_pos h3,if_pos (by omega)]
   · rw[if_neg h3,if_neg (by omega)]
 · simp only[if_neg h,h,false_and,if_false]
   rw[if_neg (by omega)]
theorem text_bin_a (o:Bs) (x y:S80) (t u:List UInt8) (r:Int) (hx:DT x t) (hy:DT y u) (hr:rank0 o.toList=r) (hr0:0≤r) (hr1:r<5) (ho:o.size≤2) (ht:t.length<100000000000000) (hu:u.length<100000000000000) (R L:Int) (hR:R=r+1) (hL:L=lvl x) (M:Int) (hM:M=lvl y)
 (β:Bool) (hβ:β=true∧decide (L<R)=true∨β=false∧decide (L<R)=false∧(L==R)=false∨β=true∧decide (L<R)=false∧(L==R)=true∧(R==3)=true∨β=false∧decide (L<R)=false∧(L==R)=true∧(R==3)=false):DT (xBin o x y) ((if β=true then [40]++t++[41]else t)++[32]++o.toList++[32]++(if decide (M≤R)=true then [40]++u++[41]else u)):=by
 intro W A c hl hC;obtain⟨ad,A1,c1,A2,c2,rfl,hc,hl1,hC1,hl2,hC2⟩:=two80 hC;replace hc:=η hc;replace hC1:=η hC1;replace hC2:=η hC2;clear hC hl;have WC1:=η (fun W (hC:Kd.C k80 W A1 x.f4.length x.f4)=>within_call hx (by omega) β W A1 c1 hl1 hC);have WC2:=η (fun W (hC:Kd.C k80 W A2 y.f4.length y.f4)=>within_call hy (by omega) (decide (M≤R)) W A2 c2 hl2 hC);have LC1:=η (fun W (hC:Kd.C k80 W A1 x.f4.length x.f4)=>level_call hl1 hC);have LC2:=η (fun W (hC:Kd.C k80 W A2 y.f4.length y.f4)=>level_call hl2 hC);have RC:=η (fun W=>drank_call W o);rw[hr,← hR]at RC;rw[← hL]at LC1;rw[← hM]at LC2;generalize hs1:(if β=true then [40]++t++[41]else t)=t1 at*;generalize hs2:(if decide (M≤R)=true then [40]++u++[41]else u)=u1 at*;have hl1':t1.length<100000000000003:=by rw[← hs1];split<;>(try simp)<;>omega
 have hl2':u1.length<100000000000003:=by rw[← hs2];split<;>(try simp)<;>omega
 have z1:¬9223372036854775807<(B t1).size+1:=no_big (by rw[B_size];omega);have z2:¬9223372036854775807<(B t1).size+1+o.size:=no_big (by rw[B_size];omega);have z3:¬9223372036854775807<(B t1).size+1+o.size+1:=no_big (by rw[B_size];omega);have z4:¬9223372036854775807<(B t1).size+1+o.size+1+(B u1).size:=no_big (by rw[B_size,B_size];omega);replace hx:=η hx;replace hy:=η hy;replace hs1:=η hs1;replace hs2:=η hs2;replace hr:=η hr;replace hR:=η hR;replace hL:=η hL;replace hM:=η hM;rcases hβ with⟨rfl,h1⟩|⟨rfl,h1,h2⟩|⟨rfl,h1,h2,h3⟩|⟨rfl,h1,h2,h3⟩
 all_goals
  go_enter Tryz.func68,Tryz.ntmps68;go_upto_region 1 with(first|((with_reducible refine gate_dst (N:=1) rfl ?_);refine bxE (N:=1) (cs:=c80 (xBin o x y) (some ad) c) (t:=80) ?_;intro g hg w4 hbox hb))
  have SC:=η (show ∀W',Below w4.heap.size w4 W'→W'.cell? ⟨W.heap.size,3,none⟩=some (.string o)∧W'.cell? ⟨W.heap.size,4,none⟩=some (.slice (some ad) 2 c)∧W'.cell? ad=some (.int .i64 x.f0)∧W'.cell? ⟨ad.block,ad.off+1,none⟩=some (.int .i64 x.f1)∧W'.cell? ⟨ad.block,ad.off+2,none⟩=some (.string x.f2)∧W'.cell? ⟨ad.block,ad.off+3,none⟩=some (.string x.f3)∧W'.cell? ⟨ad.block,ad.off+4,none⟩=some (.slice A1 x.f4.length c1)∧W'.cell? ⟨ad.block,ad.off+5,none⟩=some (.int .i64 y.f0)∧W'.cell? ⟨ad.block,ad.off+5+1,none⟩=some (.int .i64 y.f1)∧W'.cell? ⟨ad.block,ad.off+5+2,none⟩=some (.string y.f2)∧W'.cell? ⟨ad.block,ad.off+5+3,none⟩=some (.string y.f3)∧W'.cell? ⟨ad.block,ad.off+5+4,none⟩=some (.slice A2 y.f4.length c2) from fun W' H=>by
   obtain⟨q0,q1,q2,q3,q4,qf⟩:=heap5 ((Turn.new H).heap hbox (fun z=>z));rw[hg]at q2 q3 q4;exact⟨q3,q4,hc.out W' (below_step hb H)⟩)
  subst hg;obtain⟨e0,e1,e2,e3,e4,ef⟩:=heap5 hbox;have B4:=η hb;clear hb hbox;go_upto_region 15 with(first|(go_at_call 57;refine(RC.out _).mono ?_;rintro e w5 ⟨rfl,H5⟩;have S5:=η (fun W' H=>SC.out W' (below_step H5 H));have B5:=η (below_step B4.out H5);clear H5))
  clear e0 e1 e2 e3 e4 ef SC RC B4;obtain⟨e3,e4,x0,x1,x2,x3,x4,y0,y1,y2,y3,y4⟩:=S5.out w5 (Below.refl _ _);have C1:=η (LC1.out w5 (Kd.C_below hC1.out B5.out));clear LC1;go_upto_region 16 with(first|(go_at_call 92;refine C1.out.mono ?_;rintro e w6 ⟨rfl,H6⟩;have S6:=η (fun W' H=>S5.out W' (below_step H6 H));have B6:=η (below_step B5.out H6);clear H6))
  clear e3 e4 x0 x1 x2 x3 x4 y0 y1 y2 y3 y4 S5 B5 C1;obtain⟨e3,e4,x0,x1,x2,x3,x4,y0,y1,y2,y3,y4⟩:=S6.out w6 (Below.refl _ _);have C2:=η (LC2.out w6 (Kd.C_below hC2.out B6.out));clear LC2;go_upto_region 17 with(first|(go_at_call 92;refine C2.out.mono ?_;rintro e w7 ⟨rfl,H7⟩;have S7:=η (fun W' H=>S6.out W' (below_step H7 H));have B7:=η (below_step B6.out H7);clear H7))
  clear e3 e4 x0 x1 x2 x3 x4 y0 y1 y2 y3 y4 S6 B6 C2;have SD:=η (S7.out w7.drew (Below.refl _ _).drew);have CC:=η (WC1.out w7.drew (Kd.C_below hC1.out B7.out.drew));have B8:=η B7.out.drew;have S8:=η (fun W' H=>S7.out W' (below_step (Below.refl w7.heap.size w7).drew H));clear WC1 S7 B7;refine sr 32 (S:=fun x'=>x'.cell? ⟨W.heap.size,3,none⟩=some (.string o)∧x'.cell? ⟨W.heap.size,4,none⟩=some (.slice (some ad) 2 c)∧x'.cell? ad=some (.int .i64 x.f0)∧x'.cell? ⟨ad.block,ad.off+1,none⟩=some (.int .i64 x.f1)∧x'.cell? ⟨ad.block,ad.off+2,none⟩=some (.string x.f2)∧x'.cell? ⟨ad.block,ad.off+3,none⟩=some (.string x.f3)∧x'.cell? ⟨ad.block,ad.off+4,none⟩=some (.slice A1 x.f4.length c1)∧x'.cell? ⟨ad.block,ad.off+5,none⟩=some (.int .i64 y.f0)∧x'.cell? ⟨ad.block,ad.off+5+1,none⟩=some (.int .i64 y.f1)∧x'.cell? ⟨ad.block,ad.off+5+2,none⟩=some (.string y.f2)∧x'.cell? ⟨ad.block,ad.off+5+3,none⟩=some (.string y.f3)∧x'.cell? ⟨ad.block,ad.off+5+4,none⟩=some (.slice A2 y.f4.length c2)) (ds:=([]:List Nat)) SD.out ?_;generalize w7.drew=wA at*;intro hH;refine pu 0 76 ?_;refine tk 1 77 hH ?_;refine pu 2 78 ?_;refine tk 3 79 hH ?_;refine pu 4 80 ?_;refine pu 5 81 ?_;refine pu 6 82 ?_;refine pu 7 83 ?_
 · refine pu 8 84 ?_ (hy:=Or.inr ⟨by rfl,by rfl⟩)
   refine pu 9 85 ?_ (hy:=Or.inr ⟨by rfl,by rfl⟩);refine pu 10 86 ?_ (hy:=Or.inr ⟨by rfl,by rfl⟩);refine pu 11 87 ?_ (hy:=Or.inr ⟨by rfl,by rfl⟩);refine pu 12 88 ?_ (hy:=Or.inr ⟨by rfl,by rfl⟩);refine pu 13 89 ?_ (hy:=Or.inr ⟨by rfl,by rfl⟩);refine pu 14 90 ?_ (hy:=Or.inr ⟨by rfl,by rfl⟩);refine pu 15 91 ?_;refine pu 18 94 ?_;refine tk 19 95 hH ?_;refine pu 22 98 ?_;refine tk 23 99 hH ?_;refine pu 24 100 ?_;refine tk 25 101 hH ?_;refine pu 26 102 ?_;refine pu 27 103 ?_;refine pu 28 104 ?_;refine on 16 92 (fun K hK=> ?_);refine PrintLast.goes_ Tryz.func91 (by kernel_rfl) (by kernel_rfl) #[.agg (c80 x A1 c1),.bool true] (by rfl) (by rfl) (by rfl) (by simp[Act.eval]) ?_;refine CC.out.mono ?_;rintro e w9 ⟨rfl,H9⟩;have S9:=η (fun W' H=>S8.out W' (below_step H9 H));have B9:=η (below_step B8.out H9);refine⟨_,rfl,hK.out _ _ (S9.out w9 (Below.refl _ _)) (fun hH=> ?_)⟩;clear hK K;refine nm 92 ?_;refine pu 17 93 ?_;refine pu 20 96 ?_;refine pu 21 97 ?_;refine on 29 105 (fun K hK=> ?_);refine PrintLast.goes_ Tryz.func91 (by kernel_rfl) (by kernel_rfl) #[.agg (c80 y A2 c2),.bool (decide (M≤R))] (by rfl) (by rfl) (by rfl) (by simp[Act.eval]) ?_;refine(WC2.out w9 (Kd.C_below hC2.out B9.out)).mono ?_;rintro e w10 ⟨rfl,H10⟩;have B10:=η (below_step B9.out H10);refine⟨_,rfl,hK.out _ _ (S9.out w10 H10) (fun hH=> ?_)⟩;clear hK K;refine nm 105 ?_;refine pu 30 106 ?_;refine pu 31 2 ?_;refine PrintLast.done_ (by kernel_rfl) ?_;go_wp2_with fail
   go_ret;exact⟨str_eq (by simp[toList_app,B_toList,lit_toList]),B10.out⟩
 · refine pu 8 84 ?_
   refine pu 9 85 ?_;refine pu 10 86 ?_;refine pu 11 87 ?_;refine pu 12 88 ?_ (hy:=Or.inr ⟨by rfl,by rfl⟩);refine pu 13 89 ?_ (hy:=Or.inr ⟨by rfl,by rfl⟩);refine pu 14 90 ?_;refine pu 15 91 ?_;refine pu 18 94 ?_;refine tk 19 95 hH ?_;refine pu 22 98 ?_;refine tk 23 99 hH ?_;refine pu 24 100 ?_;refine tk 25 101 hH ?_;refine pu 26 102 ?_;refine pu 27 103 ?_;refine pu 28 104 ?_;refine on 16 92 (fun K hK=> ?_);refine PrintLast.goes_ Tryz.func91 (by kernel_rfl) (by kernel_rfl) #[.agg (c80 x A1 c1),.bool false] (by rfl) (by rfl) (by rfl) (by simp[Act.eval]) ?_;refine CC.out.mono ?_;rintro e w9 ⟨rfl,H9⟩;have S9:=η (fun W' H=>S8.out W' (below_step H9 H));have B9:=η (below_step B8.out H9);refine⟨_,rfl,hK.out _ _ (S9.out w9 (Below.refl _ _)) (fun hH=> ?_)⟩;clear hK K;refine nm 92 ?_;refine pu 17 93 ?_;refine pu 20 96 ?_;refine pu 21 97 ?_;refine on 29 105 (fun K hK=> ?_);refine PrintLast.goes_ Tryz.func91 (by kernel_rfl) (by kernel_rfl) #[.agg (c80 y A2 c2),.bool (decide (M≤R))] (by rfl) (by rfl) (by rfl) (by simp[Act.eval]) ?_;refine(WC2.out w9 (Kd.C_below hC2.out B9.out)).mono ?_;rintro e w10 ⟨rfl,H10⟩;have B10:=η (below_step B9.out H10);refine⟨_,rfl,hK.out _ _ (S9.out w10 H10) (fun hH=> ?_)⟩;clear hK K;refine nm 105 ?_;refine pu 30 106 ?_;refine pu 31 2 ?_;refine PrintLast.done_ (by kernel_rfl) ?_;go_wp2_with fail
   go_ret;exact⟨str_eq (by simp[toList_app,B_toList,lit_toList]),B10.out⟩
 · refine pu 8 84 ?_
   refine pu 9 85 ?_;refine pu 10 86 ?_;refine pu 11 87 ?_;refine pu 12 88 ?_;refine pu 13 89 ?_;refine pu 14 90 ?_;refine pu 15 91 ?_;refine pu 18 94 ?_;refine tk 19 95 hH ?_;refine pu 22 98 ?_;refine tk 23 99 hH ?_;refine pu 24 100 ?_;refine tk 25 101 hH ?_;refine pu 26 102 ?_;refine pu 27 103 ?_;refine pu 28 104 ?_;refine on 16 92 (fun K hK=> ?_);refine PrintLast.goes_ Tryz.func91 (by kernel_rfl) (by kernel_rfl) #[.agg (c80 x A1 c1),.bool true] (by rfl) (by rfl) (by rfl) (by simp[Act.eval]) ?_;refine CC.out.mono ?_;rintro e w9 ⟨rfl,H9⟩;have S9:=η (fun W' H=>S8.out W' (below_step H9 H));have B9:=η (below_step B8.out H9);refine⟨_,rfl,hK.out _ _ (S9.out w9 (Below.refl _ _)) (fun hH=> ?_)⟩;clear hK K;refine nm 92 ?_;refine pu 17 93 ?_;refine pu 20 96 ?_;refine pu 21 97 ?_;refine on 29 105 (fun K hK=> ?_);refine PrintLast.goes_ Tryz.func91 (by kernel_rfl) (by kernel_rfl) #[.agg (c80 y A2 c2),.bool (decide (M≤R))] (by rfl) (by rfl) (by rfl) (by simp[Act.eval]) ?_;refine(WC2.out w9 (Kd.C_below hC2.out B9.out)).mono ?_;rintro e w10 ⟨rfl,H10⟩;have B10:=η (below_step B9.out H10);refine⟨_,rfl,hK.out _ _ (S9.out w10 H10) (fun hH=> ?_)⟩;clear hK K;refine nm 105 ?_;refine pu 30 106 ?_;refine pu 31 2 ?_;refine PrintLast.done_ (by kernel_rfl) ?_;go_wp2_with fail
   go_ret;exact⟨str_eq (by simp[toList_app,B_toList,lit_toList]),B10.out⟩
 · refine pu 8 84 ?_
   refine pu 9 85 ?_;refine pu 10 86 ?_;refine pu 11 87 ?_;refine pu 12 88 ?_;refine pu 13 89 ?_;refine pu 14 90 ?_;refine pu 15 91 ?_;refine pu 18 94 ?_;refine tk 19 95 hH ?_;refine pu 22 98 ?_;refine tk 23 99 hH ?_;refine pu 24 100 ?_;refine tk 25 101 hH ?_;refine pu 26 102 ?_;refine pu 27 103 ?_;refine pu 28 104 ?_;refine on 16 92 (fun K hK=> ?_);refine PrintLast.goes_ Tryz.func91 (by kernel_rfl) (by kernel_rfl) #[.agg (c80 x A1 c1),.bool false] (by rfl) (by rfl) (by rfl) (by simp[Act.eval]) ?_;refine CC.out.mono ?_;rintro e w9 ⟨rfl,H9⟩;have S9:=η (fun W' H=>S8.out W' (below_step H9 H));have B9:=η (below_step B8.out H9);refine⟨_,rfl,hK.out _ _ (S9.out w9 (Below.refl _ _)) (fun hH=> ?_)⟩;clear hK K;refine nm 92 ?_;refine pu 17 93 ?_;refine pu 20 96 ?_;refine pu 21 97 ?_;refine on 29 105 (fun K hK=> ?_);refine PrintLast.goes_ Tryz.func91 (by kernel_rfl) (by kernel_rfl) #[.agg (c80 y A2 c2),.bool (decide (M≤R))] (by rfl) (by rfl) (by rfl) (by simp[Act.eval]) ?_;refine(WC2.out w9 (Kd.C_below hC2.out B9.out)).mono ?_;rintro e w10 ⟨rfl,H10⟩;have B10:=η (below_step B9.out H10);refine⟨_,rfl,hK.out _ _ (S9.out w10 H10) (fun hH=> ?_)⟩;clear hK K;refine nm 105 ?_;refine pu 30 106 ?_;refine pu 31 2 ?_;refine PrintLast.done_ (by kernel_rfl) ?_;go_wp2_with fail
   go_ret;exact⟨str_eq (by simp[toList_app,B_toList,lit_toList]),B10.out⟩
theorem text_bin (o:Bs) (x y:S80) (t u:List UInt8) (r:Nat) (hx:DT x t) (hy:DT y u) (hr:rank0 o.toList=(r:Int)) (ho:o.size≤2) (ht:t.length<100000000000000) (hu:u.length<100000000000000):DT (xBin o x y) (wrap x (lowL r) t++[32]++o.toList++[32]++wrap y (r+1) u):=by
 have h5:(r:Int)<5:=by rw[← hr];exact rank0_lt _
 rw[← wrap_l x t r h5,← wrap_r y u r h5];cases q1:decide (lvl x<(r:Int)+1)with
 |true=>
  have:=text_bin_a o x y t u r hx hy hr (by omega) h5 ho ht hu _ _ rfl rfl _ rfl _ (.inl ⟨rfl,q1⟩);rw[Bool.true_or];exact this
 |false=>
  cases q2:(lvl x==(r:Int)+1)with
  |false=>
   have:=text_bin_a o x y t u r hx hy hr (by omega) h5 ho ht hu _ _ rfl rfl _ rfl _ (.inr (.inl ⟨rfl,q1,q2⟩));rw[Bool.false_or,Bool.false_and];exact this
  |true=>
   cases q3:((r:Int)+1==3)with
   |true=>
    have:=text_bin_a o x y t u r hx hy hr (by omega) h5 ho ht hu _ _ rfl rfl _ rfl _ (.inr (.inr (.inl ⟨rfl,q1,q2,q3⟩)));exact this
   |false=>
    have:=text_bin_a o x y t u r hx hy hr (by omega) h5 ho ht hu _ _ rfl rfl _ rfl _ (.inr (.inr (.inr ⟨rfl,q1,q2,q3⟩)));exact this
theorem wrap_len (x:S80) (low:Int) (t:List UInt8):(wrap x low t).length≤t.length+2:=by
 unfold wrap;split<;>simp
theorem op_size {o:Bs} {r:Nat} (h:rank0 o.toList=(r:Int)):o.size≤2:=by
 rw[← toList_len];unfold rank0 at h;split at h
 · rename_i q;rw[q];decide
 split at h
 · rename_i q;rw[q];decide
 split at h
 · rename_i q;rcases q with q|q|q|q|q|q<;>(rw[q];decide)
 split at h
 · rename_i q;rcases q with q|q<;>(rw[q];decide)
 split at h
 · rename_i q;rcases q with q|q|q<;>(rw[q];decide)
 · omega
theorem ex_len {x:S80} {t:List UInt8} {m:Nat} (h:EX x t m):t.length≤m*1048700:=by
 induction h with
 |num n h0 h1=>have:=dec_len n.toNat (by omega);unfold digs;omega
 |name s hs=>rw[toList_len];have:=hs.sz;omega
 |index s x t m hs h ih=>simp only[List.length_append,List.length_cons,List.length_nil,toList_len];have:=hs.sz;omega
 |has s x t m hs h ih=>simp only[List.length_append,List.length_cons,List.length_nil,toList_len];have:=hs.sz;omega
 |len s hs=>simp only[List.length_append,List.length_cons,List.length_nil,toList_len];have:=hs.sz;omega
 |un o x t m ho h ih=>
  have h1:=wrap_len x 5 t;have h2:o.toList.length≤1:=by rcases ho with q|q<;>(rw[q];decide)
  simp only[List.length_append];omega
 |bin o x y t u m n r hr hx hy ih1 ih2=>
  have h1:=wrap_len x (lowL r) t;have h2:=wrap_len y (r+1) u;have h3:=op_size hr;rw[← toList_len]at h3;simp only[List.length_append,List.length_cons,List.length_nil];omega
theorem text_call {x:S80} {t:List UInt8} {m:Nat} (h:EX x t m):m≤8000000→DT x t:=by
 induction h with
 |num n h0 h1=>exact fun _=>text_num n h0 h1
 |name s hs=>exact fun _=>text_name s
 |index s x t m hs h ih=>exact fun hm=>text_index s x t (ih (by omega)) (by have:=ex_len h;omega) hs.sz
 |has s x t m hs h ih=>exact fun hm=>text_has s x t (ih (by omega)) (by have:=ex_len h;omega) hs.sz
 |len s hs=>exact fun _=>text_len s hs.sz
 |un o x t m ho h ih=>exact fun hm=>text_un o x t (ih (by omega)) (by have:=ex_len h;omega) (by rw[← toList_len];rcases ho with q|q<;>(rw[q];decide))
 |bin o x y t u m n r hr hx hy ih1 ih2=>exact fun hm=>text_bin o x y t u r (ih1 (by omega)) (ih2 (by omega)) hr (op_size hr) (by have:=ex_len hx;omega) (by have:=ex_len hy;omega)
theorem none_any (a b:Bs):Ev (fun k=>larderref23_none.f k [a,b]) (decide (a.toList=[])&&decide (b.toList=[])):=⟨3,fun k hk=>by
 obtain⟨k,rfl⟩:∃j,k=j+3:=⟨k-3,by omega⟩;have h0:rdOf ByteArray.empty [a,b] 0=a:=rfl;have h1:rdOf ByteArray.empty [a,b] 1=b:=rfl;have w1:wrap64 1=1:=wrap_id (by omega) (by omega);have w2:wrap64 2=2:=wrap_id (by omega) (by omega);by_cases qa:a.toList=[]
 · by_cases qb:b.toList=[]
   · simp[larderref23_none.f,larderref23_none.l0,h0,h1,w1,w2,qa,qb]
   · simp[larderref23_none.f,larderref23_none.l0,h0,h1,w1,w2,qa,qb]
 · simp[larderref23_none.f,larderref23_none.l0,h0,h1,w1,w2,qa]⟩
theorem e0_list:e0.toList=([]:List UInt8):=by unfold e0;rw[Lib.toList_data]
theorem tabs_l0:∀(n:Nat) (d i:Nat) (s:List UInt8),min d 8-i≤n→i≤min d 8→d<1000000000→s.length=i→Ev (fun k=>larderref23_tabs.l0 k (d:Int) (B s) (i:Int)) (B (s++List.replicate (min d 8-i) 9))
 |n,d,i,s,hn,hi,hd,hs=>by
  refine Ev.step (g:=fun k=>if(i:Int)<(d:Int)then(if(i:Int)<8 then(if(B s).size+1≤9223372036854775807 then(larderref23_tabs.l0 k (d:Int) (B s++(⟨#[9]⟩:Bs)) (wrap64 ((i:Int)+1)))else(none))else(some (B s)))else(some (B s))) (fun k=>by rw[larderref23_tabs.l0]) ?_;by_cases h:i<d∧i<8
  · have h1:(i:Int)<(d:Int):=by omega
    have h2:(i:Int)<8:=by omega
    have h3:(B s).size+1≤9223372036854775807:=by rw[B_size];omega
    simp only[if_pos h1,if_pos h2,if_pos h3];have e1:B s++(⟨#[9]⟩:Bs)=B (s++[9]):=B_app s [9];have e2:wrap64 ((i:Int)+1)=((i+1:Nat):Int):=by rw[wrap_id (by omega) (by omega)];omega
    rw[e1,e2];have e3:min d 8-i=(min d 8-(i+1))+1:=by omega
    rw[e3,List.replicate_succ]
    match n,hn with
    |0,hn=>omega
    |n+1,hn=>
     have:=tabs_l0 n d (i+1) (s++[9]) (by omega) (by omega) hd (by simp[hs]);simpa using this
  · have e3:min d 8-i=0:=by omega
    rw[e3,List.replicate_zero,List.append_nil];by_cases h1:(i:Int)<(d:Int)
    · have h2:¬(i:Int)<8:=by omega
      simp only[if_pos h1,if_neg h2];exact Ev.const _
    · simp only[if_neg h1]
      exact Ev.const _
theorem tabs_call (d:Nat) (hd:d<1000000000) (W:World):Calls Tryz.prog 67 #[.int .i64 (d:Int)] W fun e w'=>e= .returned (.string (B (tabL d)))∧Below W.heap.size W w':=by
 obtain⟨k,hk⟩:=(tabs_l0 (min d 8) d 0 [] (by omega) (by omega) hd rfl).get;refine(larderref23_tabs.calls k (d:Int) (B (tabL d)) W (by have h2:=hk;simp at h2;exact h2)).mono ?_;rintro e w' ⟨rfl,h⟩;exact⟨rfl,h.below⟩
theorem tab_len (d:Nat):(tabL d).length≤8:=by unfold tabL;simp;omega
abbrev c62 (s:S62) (A4:Option Addr) (c4:Nat) (A5:Option Addr) (c5:Nat) (A6:Option Addr) (c6:Nat):Array Value:=#[.int .i64 s.f0,.string s.f1,.string s.f2,.string s.f3,.slice A4 s.f4.length c4,.slice A5 s.f5.length c5,.slice A6 s.f6.length c6]
structure VC (W:World) (s:S62) (A4:Option Addr) (c4:Nat) (A5:Option Addr) (c5:Nat) (A6:Option Addr) (c6:Nat):Prop where
 l4:s.f4.length≤c4
 g4:Kd.C k80 W A4 s.f4.length s.f4
 l5:s.f5.length≤c5
 g5:Kd.C k62 W A5 s.f5.length s.f5
 l6:s.f6.length≤c6
 g6:Kd.C k62 W A6 s.f6.length s.f6
theorem VC.below {W W':World} {s:S62} {A4:Option Addr} {c4:Nat} {A5:Option Addr} {c5:Nat} {A6:Option Addr} {c6:Nat} (h:VC W s A4 c4 A5 c5 A6 c6) (hb:Below W.heap.size W W'):VC W' s A4 c4 A5 c5 A6 c6:=
 ⟨h.l4,Kd.C_below h.g4 hb,h.l5,Kd.C_below h.g5 hb,h.l6,Kd.C_below h.g6 hb⟩
def LPost (w:World) (ls:List (List UInt8)) (e:Ending) (w':World):Prop:=
 ∃A c,e= .returned (.slice A (ls.map B).length c)∧Kd.N Kd.string 9 w' w.heap.size (fun k=>w.heap.size≤k) (.slice A (ls.map B).length c) (ls.map B)∧Below w.heap.size w w'
def DLine (N:Nat):Prop:=∀s ls m,m≤N→SX s ls m→∀(d:Nat) (W:World) A4 c4 A5 c5 A6 c6,d+m≤16000000→m≤8000000→VC W s A4 c4 A5 c5 A6 c6→Calls Tryz.prog 36 #[.agg (c62 s A4 c4 A5 c5 A6 c6),.int .i64 (d:Int)] W (LPost W (ls d))
def DCase (N:Nat):Prop:=∀s h ls m,m≤N→CX s h ls m→∀(d:Nat) (W:World) A4 c4 A5 c5 A6 c6,d+m≤16000000→m≤8000000→VC W s A4 c4 A5 c5 A6 c6→Calls Tryz.prog 69 #[.agg (c62 s A4 c4 A5 c5 A6 c6),.int .i64 (d:Int)] W (LPost W ((tabL d++h)::ls d))
def DLns (N:Nat):Prop:=∀l ls n,n≤N→SXs l ls n→∀(d:Nat) (W:World) A c,d+n≤16000000→n≤8000000→l.length≤c→Kd.C k62 W A l.length l→Calls Tryz.prog 15 #[.slice A l.length c,.int .i64 (d:Int)] W (LPost W (ls d))
theorem ex_pos {x:S80} {t:List UInt8} {m:Nat} (h:EX x t m):1≤m:=by cases h<;>omega
theorem sx_pos {s:S62} {ls:Nat→List (List UInt8)} {m:Nat} (h:SX s ls m):1≤m:=by
 cases h with
 |ifs s h ls m hc=>cases hc<;>omega
 |_=>omega
theorem sxs_cnt {l:List S62} {ls:Nat→List (List UInt8)} {n:Nat} (h:SXs l ls n):l.length≤n:=by
 induction l generalizing ls n with
 |nil=>simp
 |cons s r ih=>
  cases h with
  |cons s ls m r rs n h1 h2=>have:=sx_pos h1;have:=ih h2;simp;omega
theorem lens:∀(N:Nat),(∀s ls m,SX s ls m→m≤N→∀d,(ls d).length≤2*m)∧(∀s h ls m,CX s h ls m→m≤N→∀d,(ls d).length+1≤2*m)∧(∀l ls n,SXs l ls n→n≤N→∀d,(ls d).length≤2*n)
 |0=>by
  refine⟨fun s ls m h hm=> ?_,fun s h ls m hc hm=> ?_,fun l ls n h hn=> ?_⟩
  · have:=sx_pos h;omega
  · cases hc<;>omega
  · cases h with
    |nil=>intro d;simp
    |cons s ls m r rs n h1 h2=>have:=sx_pos h1;omega
 |N+1=>by
  obtain⟨i1,i2,i3⟩:=lens N
  have C:∀s h ls m,CX s h ls m→m≤N+1→∀d,(ls d).length+1≤2*m:=by
   intro s h ls m hc hm;cases hc with
   |one x t b bs m n hx hb=>intro d;have:=i3 _ _ _ hb (by omega) (d+1);have:=ex_pos hx;simp;omega
   |els x t b bs e es m n k hx hb _ _ he=>intro d;have:=i3 _ _ _ hb (by omega) (d+1);have:=i3 _ _ _ he (by omega) (d+1);have:=ex_pos hx;simp;omega
   |eif x t b bs c h ls m n k hx hb hc=>intro d;have:=i3 _ _ _ hb (by omega) (d+1);have:=i2 _ _ _ _ hc (by omega) d;have:=ex_pos hx;simp;omega
  have S:∀s ls m,SX s ls m→m≤N+1→∀d,(ls d).length≤2*m:=by
   intro s ls m h hm;cases h with
   |set s x t m _ hx=>intro d;simp;omega
   |put s x y t u m n _ _ _=>intro d;simp;omega
   |del s x t m _ _=>intro d;simp;omega
   |clr s _=>intro d;simp
   |prt xs ts m _=>intro d;simp;omega
   |ifs s h ls m hc=>intro d;have:=C _ _ _ _ hc hm d;simp;omega
   |whl x t b bs m n hx hb=>intro d;have:=i3 _ _ _ hb (by omega) (d+1);have:=ex_pos hx;simp;omega
   |rng s a c b bs n _ _ _ hb=>intro d;have:=i3 _ _ _ hb (by omega) (d+1);simp;omega
   |brk=>intro d;simp
   |cnt=>intro d;simp
  refine⟨S,C,?_⟩;intro l;induction l with
  |nil=>intro ls n h hn d;cases h;simp
  |cons s r ih=>
   intro ls n h hn d;cases h with
   |cons s ls m r rs n h1 h2=>have:=S _ _ _ h1 (by omega) d;have:=ih _ _ h2 (by omega) d;simp;omega
theorem sxs_len {l:List S62} {ls:Nat→List (List UInt8)} {n:Nat} (h:SXs l ls n) (d:Nat):(ls d).length≤2*n:=(lens n).2.2 _ _ _ h (Nat.le_refl _) d
theorem cx_len {s:S62} {hh:List UInt8} {ls:Nat→List (List UInt8)} {n:Nat} (h:CX s hh ls n) (d:Nat):(ls d).length+1≤2*n:=(lens n).2.1 _ _ _ _ h (Nat.le_refl _) d
def LsLoop (l:List S62) (ls:Nat→List (List UInt8)) (d N:Nat) (w:World) (kq:Nat) (v5 v6:Value) (W:World):Prop:=
 ∃(p r:List S62) (xs:List Bs) (rs:Nat→List (List UInt8)) (n:Nat) (A:Option Addr) (c:Nat),v5= .slice A xs.length c∧v6= .int .i64 (p.length:Int)∧l=p++r∧SXs r rs n∧(ls d).map B=xs++(rs d).map B∧n≤N∧r.length<kq∧
  Kd.N Kd.string 9 W w.heap.size (fun k=>w.heap.size≤k) (.slice A xs.length c) xs∧Below w.heap.size w W
theorem dlns_step (N:Nat) (LN:DLine N):DLns N:=by
 intro l ls n hn h d w A c hd hm hl hC;have hcnt:=sxs_cnt h;have hlen:=sxs_len h d;have L0:=η (show LsLoop l ls d n w (l.length+1) (.slice none 0 0) (.int .i64 0) w from⟨[],l,[],ls,n,none,0,rfl,rfl,rfl,h,rfl,Nat.le_refl _,by omega,Kd.N_nil _ _ _ _ _,Below.refl _ _⟩);clear h;replace hC:=η hC;replace hl:=η hl;have hxl:((ls d).map B).length≤16000000:=by rw[List.length_map];omega
 replace hxl:=η hxl;have hll:l.length≤8000000:=by omega
 clear hlen;go_enter Tryz.func15,Tryz.ntmps15;go_wp2_with fail
 go_loopg [5,6] (l.length+1) (fun kq v5 v6 W=>LsLoop l ls d n w kq v5 v6 W)
 case atStart=>exact L0.out
 case round=>
  clear L0;obtain⟨p,r,xs,rs,n1,A1,c1,rfl,rfl,hp,hr,hxs,hn1,hk,N1,B1⟩:=hrel;replace N1:=η N1;replace B1:=η B1;cases hr with
  |nil=>
   have e1:xs=(ls d).map B:=by rw[hxs];simp
   have e2:p.length=l.length:=by rw[hp];simp
   have hnl:¬(p.length:Int)<(l.length:Int):=by omega
   subst e1;clear hp hxs e2;go_wp2_with fail
   go_ret;exact⟨A1,c1,by simp,N1.out,B1.out⟩
  |cons s ls1 m r rs n2 h1 h2=>
   have hpl:l.length=p.length+(r.length+1):=by rw[hp];simp
   have hlt:(p.length:Int)<(l.length:Int):=by omega
   have hp0:(0:Int)≤(p.length:Int):=by omega
   have hp1:(p.length:Int)<1000000000:=by omega
   obtain⟨ad,A4,c4,A5,c5,A6,c6,eA,z0,z1,z2,z3,z4,z5,z6,l4,g4,l5,g5,l6,g6⟩:=at_T62 (Kd.C_below hC.out B1.out) (p.length:Int) hp0 hlt
   have hrd:rd_T62 l (p.length:Int)=s:=by
    unfold rd_T62;rw[Int.toNat_natCast,List.getD_eq_getElem?_getD,hp];simp
   rw[hrd]at z0 z1 z2 z3 z4 z5 z6 l4 g4 l5 g5 l6 g6;subst eA;have LC:=η (LN s ls1 m (by omega) h1 d wr A4 c4 A5 c5 A6 c6 (by omega) (by omega) ⟨l4,g4,l5,g5,l6,g6⟩);have hxs2:(ls d).map B=(xs++(ls1 d).map B)++(rs d).map B:=by rw[hxs];simp
   have hsz:xs.length+((ls1 d).map B).length≤16000000:=by have:=hxl.out;rw[hxs2]at this;simp at this⊢;omega
   have REL:=η (show ∀(A':Option Addr) (c':Nat) (W:World),Kd.N Kd.string 9 W w.heap.size (fun k=>w.heap.size≤k) (.slice A' (xs++(ls1 d).map B).length c') (xs++(ls1 d).map B)→Below w.heap.size w W→LsLoop l ls d n w (r.length+1) (.slice A' (xs++(ls1 d).map B).length c') (.int .i64 ((p.length:Int)+1)) W from
    fun A' c' W q1 q2=>⟨p++[s],r,xs++(ls1 d).map B,rs,n2,A',c',rfl,by simp,by rw[hp];simp,h2,hxs2,by omega,by omega,q1,q2⟩)
   have hmeas:r.length+1<gk:=by simp only[List.length_cons]at hk;omega
   clear hp hxs hxs2 hrd hpl hk h1 h2;replace hll:=η hll;generalize(p.length:Int)=pl at*;generalize hys:(ls1 d).map B=ys at*;unfold LPost at LC;rw[hys]at LC;clear hys;go_wp2_with(first|(go_at_call 36;refine LC.out.mono ?_;rintro e w2 ⟨A2,c2,rfl,N2,B2⟩;have B3:=η (below_step B1.out B2);have M2:=η (Kd.N_step N1.out (fun k hk hlt=>B2.block k hlt));have F2:=η (Kd.F_bound (Kd.N_F N2));have hs2:=B2.size;clear N2 B2)|(at_builtin;refine Kd.N_append_rows Kd.string (w0:=w) (W:=w2) w.heap.size rfl (.tmp 13) (.tmp 19) 28 9 (.string ⟨#[]⟩) 16 rfl Tryz.underlying28 info9 rfl (by decide) (by decide) (.slice A1 xs.length c1) xs ys A2 ys.length c2 (fun k=>w.heap.size≤k) (fun k=>wr.heap.size≤k∧k<w2.heap.size) rfl rfl M2.out F2.out (fun k hk=>⟨by have:=B1.out.size;omega,fun q=>by have:=Kd.N_lt N1.out k q.symm;omega⟩) (fun k hk=>by have:=B3.out.size;omega) B3.out B3.out.size (by omega) ?_;intro v1 w5 N5 hb5 hg5 hat5;obtain⟨A5',c5',hv1⟩:=Kd.N_slice N5;subst hv1;have N6:=η N5;have B6:=η hb5;clear N5 hb5 hg5 hat5))
   go_roundg (r.length+1)
   case measure=>exact hmeas
   case rel=>
    have q:=REL.out A5' c5' _ N6.out B6.out;simpa using q
theorem lit_str {W:World} {base:Nat} (hb:base≤W.heap.size) (x:Bs):Kd.N Kd.string 9 (W.alloc (.cells #[.string x] 9)) base (fun k=>base≤k) (.slice (some ⟨W.heap.size,0,none⟩) 1 1) [x]:=
 Kd.R_N (Kd.R_of_own (own_lit_of (enc:=Value.string) W base 9 [x] hb (by simp)) (fun k hk=>by
  have:W.heap.size=k:=by simpa[Value.ownBlock]using hk
  omega))
theorem dbody_call (N:Nat) (LS:DLns N) (h e:Bs) (hh:h.size<100000000000000) (he:e.size<1000) (l:List S62) (ls:Nat→List (List UInt8)) (n:Nat) (hn:n≤N) (hs:SXs l ls n) (d:Nat) (w:World) (A:Option Addr) (c:Nat) (hd:d+1+n≤16000000) (hn8:n≤8000000) (hl:l.length≤c) (hC:Kd.C k62 w A l.length l):
 Calls Tryz.prog 70 #[.string h,.slice A l.length c,.string e,.int .i64 (d:Int)] w (LPost w ((tabL d++h.toList++[32,123])::(ls (d+1)++[tabL d++e.toList]))):=by
 have TB:=η (tabs_call d (by omega));have LC:=η (fun W C=>LS l ls n hn hs (d+1) W A c hd hn8 hl C);have hlen:=η (sxs_len hs (d+1));have ht:=tab_len d;have z1:¬9223372036854775807<(B (tabL d)).size+h.size:=no_big (by rw[B_size];omega);have z2:¬9223372036854775807<(B (tabL d)).size+h.size+2:=no_big (by rw[B_size];omega);have z3:¬9223372036854775807<(B (tabL d)).size+e.size:=no_big (by rw[B_size];omega);have e1:((d+1:Nat):Int)=(d:Int)+1:=by simp
 rw[e1]at LC;have hd0:(0:Int)≤(d:Int):=by omega
 have hd1:(d:Int)<100000000:=by omega
 have H1:B (tabL d)++h++⟨#[32,123]⟩=B (tabL d++h.toList++[32,123]):=bt_inj.mp (by simp[toList_app,B_toList,lit_toList]);have H2:B (tabL d)++e=B (tabL d++e.toList):=bt_inj.mp (by simp[toList_app,B_toList,lit_toList]);replace H1:=η H1;replace H2:=η H2;generalize ls (d+1)=ls1 at*;generalize B (tabL d)=tb at*;replace hC:=η hC;clear e1 hs hd ht;generalize(d:Int)=D at*;go_enter Tryz.func70,Tryz.ntmps70;go_upto_region 2 with(first|(go_at_call 67;refine(TB.out _).mono ?_;rintro e w1 ⟨rfl,B1⟩;have HB1:=η B1;clear B1))
 have N2:=η (lit_str (W:=w1) (base:=w.heap.size) HB1.out.size (tb++h++⟨#[32,123]⟩));have HB2:=η (Below.alloc HB1.out HB1.out.size (.cells #[.string (tb++h++⟨#[32,123]⟩)] 9));generalize htx:tb++h++⟨#[32,123]⟩=tx at*;generalize w1.alloc (.cells #[.string tx] 9)=w2 at*;have L2:=η (LC.out w2 (Kd.C_below hC.out HB2.out));clear LC HB1;unfold LPost at L2;generalize hys:ls1.map B=ys at*;have hy:=η (show ys.length≤16000000 by rw[← hys,List.length_map];have:=hlen.out;omega);replace hys:=η hys;replace htx:=η htx;go_upto_region 3 with(first|(go_at_call 15;refine L2.out.mono ?_;rintro e w3 ⟨A3,c3,rfl,N3,B3⟩;have HB3:=η (below_step HB2.out B3);have M3:=η (Kd.N_step N2.out (fun k hk hlt=>B3.block k hlt));have F3:=η (Kd.F_bound (Kd.N_F N3));clear N3 B3)|(at_builtin;refine Kd.N_append_rows Kd.string (w0:=w) (W:=w3) w.heap.size rfl (.tmp 16) (.tmp 20) 28 9 (.string ⟨#[]⟩) 16 rfl Tryz.underlying28 info9 rfl (by decide) (by decide) (.slice (some ⟨w1.heap.size,0,none⟩) 1 1) [tx] ys A3 ys.length c3 (fun k=>w.heap.size≤k) (fun k=>w2.heap.size≤k∧k<w3.heap.size) rfl rfl M3.out F3.out (fun k hk=>⟨by have:=HB2.out.size;omega,fun q=>by have:=Kd.N_lt N2.out k q.symm;omega⟩) (fun k hk=>by have:=HB3.out.size;omega) HB3.out HB3.out.size (by have:=hy.out;simp;omega) ?_;intro v1 w4 N5 hb5 hg5 hat5;obtain⟨A4,c4,hv1⟩:=Kd.N_slice N5;subst hv1;have N4:=η N5;have HB4:=η hb5;clear N5 hb5 hg5 hat5))
 clear L2 N2 HB2;go_wp2_with(first|(go_at_call 67;refine(TB.out _).mono ?_;rintro e w5 ⟨rfl,B5⟩;have HB5:=η (below_step HB4.out B5);have N5:=η (Kd.N_step N4.out (fun k hk hlt=>B5.block k hlt));clear B5)|(at_builtin;refine Kd.N_append Kd.string (w0:=w) (W:=w5) w.heap.size rfl (.tmp 22) (.tmp 27) 28 9 (.string ⟨#[]⟩) 16 rfl Tryz.underlying28 info9 rfl (by decide) (by decide) (.slice A4 ([tx]++ys).length c4) ([tx]++ys) (tb++e) [.string (tb++e)] (fun k=>w.heap.size≤k) (fun k=>False) rfl rfl (fun _ _=>rfl) (fun k hk=>hk.elim) (fun k hk=>by have:=HB5.out.size;omega) N5.out HB5.out HB5.out.size (by have:=hy.out;simp;omega) ?_;intro v1 w6 N6 hb6 hg6 hat6;obtain⟨A6,c6,hv1⟩:=Kd.N_slice N6;subst hv1;have N7:=η N6;have HB7:=η hb6;clear N6 hb6 hg6 hat6))
 go_ret
 have e1:((tabL d++h.toList++[32,123])::(ls1++[tabL d++e.toList])).map B=[tx]++ys++[tb++e]:=by
  rw[H1.out,H2.out,← hys.out];simp
 unfold LPost;rw[e1];exact⟨A6,c6,by simp,N7.out,HB7.out⟩
end Go.Proofs.YtbemddpmohoooaaGreatDoor
