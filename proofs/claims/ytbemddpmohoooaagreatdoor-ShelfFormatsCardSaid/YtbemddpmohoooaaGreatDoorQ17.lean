import Derived.Test.YtbemddpmohoooaaGreatDoorQ15
import Derived.Maps.AppendAt
set_option linter.unusedVariables false
set_option linter.unusedSimpArgs false
set_option linter.unusedSectionVars false
set_option maxHeartbeats 128000000
set_option maxRecDepth 100000
namespace Go.Proofs.YtbemddpmohoooaaGreatDoor
open PShelfFormats RowKit YtbemddpmohoooaaGreatDoorW YtbemddpmohoooaaGreatDoorW.PrintWords
def PrLoop (o:Except (Int×Int) (S62×List S42)) (w:World) (n g b2 b3 kq:Nat) (W:World):Prop:=
 ∃(xs:List S80) (gv cap:Nat) (l:List S42),pItems kq xs l=some o∧xs.length+l.length≤1000000000∧Rd W n g l∧n≤W.heap.size∧b3<W.heap.size∧Turn (fun k=>k=g) w W∧
  W.heap[b3]? =some (.cells #[.int .i64 5,.string ⟨#[]⟩,.string ⟨#[]⟩,.string ⟨#[]⟩,.slice (some ⟨gv,0,none⟩) xs.length cap,.slice none 0 0,.slice none 0 0] 62)∧W.heap[b2]? =some box62∧EN W w.heap.size b2 b3 (.slice (some ⟨gv,0,none⟩) xs.length cap) xs
theorem print_call (k:Nat) (l:List S42) (o:Except (Int×Int) (S62×List S42)) (w:World) (n g:Nat) (h:pPrint k l=some o) (R:Rd w n g l) (hn:n≤w.heap.size):
 Calls Tryz.prog 44 #[.pointer (some ⟨g,0,none⟩)] w (StPost w n g o):=by
 have hg:=Nat.lt_of_lt_of_le R.gn hn;have hlen:=R.tk.1;have htk:=R.tk;obtain⟨b2,hb2⟩:∃b,b=w.heap.size:=⟨_,rfl⟩;obtain⟨b3,hb3⟩:∃b,b=w.heap.size+1:=⟨_,rfl⟩;have h2w:b2≤w.heap.size∧w.heap.size≤b2:=by omega
 have hb23:b2<b3:=by omega
 have hgb:g<b2:=by omega
 have X6:=η (((Turn.refl (fun k=>k=g) w).alloc box62).alloc (.cells #[.int .i64 5,.string ⟨#[]⟩,.string ⟨#[]⟩,.string ⟨#[]⟩,.slice none 0 0,.slice none 0 0,.slice none 0 0] 62));have B6:((w.alloc box62).alloc (.cells #[.int .i64 5,.string ⟨#[]⟩,.string ⟨#[]⟩,.string ⟨#[]⟩,.slice none 0 0,.slice none 0 0,.slice none 0 0] 62)).heap[(w.alloc box62).heap.size]? =some (.cells #[.int .i64 5,.string ⟨#[]⟩,.string ⟨#[]⟩,.string ⟨#[]⟩,.slice none 0 0,.slice none 0 0,.slice none 0 0] 62):=alloc_new _ _;have B26:((w.alloc box62).alloc (.cells #[.int .i64 5,.string ⟨#[]⟩,.string ⟨#[]⟩,.string ⟨#[]⟩,.slice none 0 0,.slice none 0 0,.slice none 0 0] 62)).heap[w.heap.size]? =some box62:=alloc_old (alloc_new w box62) _;have N6:=η (EN.nil ((w.alloc box62).alloc (.cells #[.int .i64 5,.string ⟨#[]⟩,.string ⟨#[]⟩,.string ⟨#[]⟩,.slice none 0 0,.slice none 0 0,.slice none 0 0] 62)) w.heap.size b2 b3);have R6:=(R.al hn box62).al (by simp;omega) (.cells #[.int .i64 5,.string ⟨#[]⟩,.string ⟨#[]⟩,.string ⟨#[]⟩,.slice none 0 0,.slice none 0 0,.slice none 0 0] 62);have hn6:n≤((w.alloc box62).alloc (.cells #[.int .i64 5,.string ⟨#[]⟩,.string ⟨#[]⟩,.string ⟨#[]⟩,.slice none 0 0,.slice none 0 0,.slice none 0 0] 62)).heap.size:=by simp;omega
 have hb6:b3<((w.alloc box62).alloc (.cells #[.int .i64 5,.string ⟨#[]⟩,.string ⟨#[]⟩,.string ⟨#[]⟩,.slice none 0 0,.slice none 0 0,.slice none 0 0] 62)).heap.size:=by simp;omega
 rw[show(w.alloc box62).heap.size=b3 by simp;omega]at B6;rw[← hb2]at B26;have B6:=η B6;have B26:=η B26;have E2:=η hb2;have E3:=η hb3;clear R hb2 hb3;go_enter Tryz.func44,Tryz.ntmps44;go_upto_region 2 with fail
 rw[← E2.out];rw[show b2+1=b3 by rw[E2.out,E3.out]];generalize(w.alloc box62).alloc (.cells #[.int .i64 5,.string ⟨#[]⟩,.string ⟨#[]⟩,.string ⟨#[]⟩,.slice none 0 0,.slice none 0 0,.slice none 0 0] 62)=w6 at*;unfold pPrint at h;by_cases c:isM (hd l) [59]
 · rw[if_pos c]at h
   obtain rfl:=Option.some.inj h;have G1:=η (got_yes R6 ⟨#[59]⟩ (isM_lit c));clear h c htk hlen;go_wp2_with fail
   refine G1.out.mono ?_;rintro e w7 ⟨rfl,R7,T7⟩;have hs7:=T7.size;have B7:=η (T7.heap B6.out (fun z=>by omega));have B27:=η (T7.heap B26.out (fun z=>by omega));have N7:=η (EN.turn N6.out T7 (fun k hk=>by omega));have X7:=η (X6.out.then T7 (fun i hi=> .inl hi));have hn7:n≤w7.heap.size:=by omega
   have hb7:b3<w7.heap.size:=by omega
   clear X6 B6 B26 N6 R6 hn6 hb6 hs7 T7;have X6:=X7;have B6:=B7;have B26:=B27;have N6:=N7;have R6:=R7;have hn6:=hn7;have hb6:=hb7;clear X7 B7 B27 N7 R7 hn7 hb7;obtain⟨e0,e1,e2,e3,e4,e5,e6,ef⟩:=heap7 B6.out;obtain⟨d0,d1,d2,d3,d4,d5,d6,df⟩:=heap7 B26.out;clear ef;go_wp2_with fail
   refine ret62 2 rfl rfl B26.out (fun W s1 s2=> ?_);have R8:=R6.turn s2 (by omega) (fun k hk=>by omega);have X8:=X6.out.then s2 (fun i hi=> .inr (by omega));have G4:=Kd.F_step (Kd.N_F N6.out) (fun k hk hlt=>s2.block k hlt (fun q=>hk.2.1 q));have L4:=(Kd.N_reads' N6.out).2.1;exact⟨_,_,none,0,none,0,rfl,⟨L4,Kd.F_mono G4 (fun k hk=>hk.1),Nat.le_refl _,Kd.F_nil _ _ _,Nat.le_refl _,Kd.F_nil _ _ _⟩,R8,X8⟩
 · rw[if_neg c]at h
   have G1:=η (got_no R6 ⟨#[59]⟩ (notM_lit c));have H2:=pbind_cases h;have HL:=η (show(0:Nat)≤0 from Nat.le_refl _);clear h c;go_wp2_with fail
   refine G1.out.mono ?_;rintro e w7 ⟨rfl,rfl⟩;clear G1;go_upto_region 4 with fail
   have XX:=η (X6.out.drew);have BB:w6.drew.heap[b3]? =some (.cells #[.int .i64 5,.string ⟨#[]⟩,.string ⟨#[]⟩,.string ⟨#[]⟩,.slice none 0 0,.slice none 0 0,.slice none 0 0] 62):=B6.out;have BB:=η BB;have B2B:w6.drew.heap[b2]? =some box62:=B26.out;have B2B:=η B2B;have NN:EN w6.drew w.heap.size b2 b3 (.slice none 0 0) ([]:List S80):=N6.out;have NN:=η NN;have RD:Rd w6.drew n g l:=R6.move (fun _ _=>rfl);have hnd:n≤w6.drew.heap.size:=hn6;have hb3:b3<w6.drew.heap.size:=hb6;clear X6 B6 B26 N6 R6 hn6 hb6;refine sr 8 (S:=fun W=>W.cell? ⟨b3,4,none⟩=some (.slice none 0 0)) (ds:=[7]) (heap7 BB.out).2.2.2.2.1 ?_;generalize w6.drew=wA at*;intro hH;refine pu 0 8 ?_;refine tk 1 9 hH ?_;refine pu 2 10 ?_;refine on 3 11 (fun K hK=> ?_);rcases H2 with⟨er,h1,rfl⟩|⟨x,l1,h1,h2⟩
   · refine callp_ Tryz.func46 (by kernel_rfl) (by kernel_rfl) #[.pointer (some ⟨g,0,none⟩),.int .i64 0] (by rfl) (by rfl) (by simp[Act.eval]) ?_
     refine(ex_at k 0 l _ _ n g h1 (by omega) RD hnd).mono ?_;rintro e w3 ⟨rfl,T3⟩;exact⟨_,rfl,rfl,rfl,XX.out.then T3 (fun i hi=> .inl hi)⟩
   refine PrintLast.goes_ Tryz.func46 (by kernel_rfl) (by kernel_rfl) #[.pointer (some ⟨g,0,none⟩),.int .i64 0] (by rfl) (by rfl) (by rfl) (by simp[Act.eval]) ?_;refine(ex_at k 0 l _ _ n g h1 (by omega) RD hnd).mono ?_;rintro e w3 ⟨A,c,rfl,V3,R3,T3⟩;obtain⟨q1,q2⟩:=pExpr_len (by omega) h1 htk;have hs3:=T3.size;have B3:=η (T3.heap BB.out (fun z=>by omega));have B23:=η (T3.heap B2B.out (fun z=>by omega));have N3:=η (NN.out.turn T3 (fun k hk=>by omega));have X3:=XX.out.then T3 (fun i hi=> .inl hi);refine⟨_,rfl,hK.out _ _ (heap7 B3.out).2.2.2.2.1 (fun hH=> ?_)⟩;clear hK K;refine nm 11 ?_;refine on 4 12 (fun K hK=> ?_);refine PrintLast.value_ (w1:=w3.alloc (bx x A c)) (v:= .slice (some ⟨w3.heap.size,0,none⟩) 1 1) (by rfl) (by rfl) (by go_simp) ?_;refine hK.out _ _ (heap7 (alloc_old B3.out _)).2.2.2.2.1 (fun hH=> ?_);clear hK K;refine nm 12 ?_;refine on 5 13 (fun K hK=> ?_)
   refine Kd.N_append_step k80 w.heap.size (by simp[Region.wanted]) (.tmp 9) (.tmp 12) 60 80 (.agg #[(.int .i64 0),(.int .i64 0),(.string ⟨#[]⟩),(.string ⟨#[]⟩),(.slice none 0 0)]) 72 rfl Tryz.underlying60 info80 rfl (by decide) (by decide)
    (.slice none 0 0) ([]:List S80) x (cx x A c) (fun k=>w.heap.size≤k∧k≠b2∧k≠b3) (fun k=>wA.heap.size≤k∧k<w3.heap.size) rfl rfl (V3.old (fun k hk hlt=>⟨hk,hlt⟩)).FK (fun k hk=>⟨by omega,fun q=>by have:=Kd.N_lt NN.out k q.symm;omega⟩) (fun k hk=>by omega)
    N3.out (Below.refl _ _) (by omega) (by have:=HL.out;simp only[List.length_nil,List.length_append,List.length_cons]at*;omega) ?_
   intro v1 w5 N1 hb5 hg5 hat5;obtain⟨g5,cap5,hv1,hgb5,hgl5,_⟩:=Kd.N_form N1 (by simp);subst hv1;have T5:Turn (fun k=>(w.heap.size≤k∧k≠b2∧k≠b3)) w3 w5:=Turn.of_grown hg5 (fun k hk=> .inl (N3.out.1 k hk));have hs5:=T5.size;have B5:=η (T5.heap B3.out (fun z=>z.2.2 rfl));have B25:=η (T5.heap B23.out (fun z=>z.2.1 rfl));refine hK.out _ _ (heap7 B5.out).2.2.2.2.1 (fun hH=> ?_);clear hK K;refine nm 13 ?_;refine pu 6 14 ?_;refine la 7 (fun K hK=> ?_);obtain⟨e0,e1,e2,e3,e4,e5,e6,ef⟩:=heap7 B5.out;refine PrintLast.skip_ (w1:=w5.setCell ⟨b3,4,none⟩ (.slice (some ⟨g5,0,none⟩) (([]:List S80)++[x]).length cap5)) (by rfl) (by rfl) (by go_simp) ?_;refine hK.out _ _ ?_;refine PrintLast.done_ (by kernel_rfl) ?_;clear hK K hH;have T6:Turn (fun k=>k=b3) w5 (w5.setCell ⟨b3,4,none⟩ (.slice (some ⟨g5,0,none⟩) (([]:List S80)++[x]).length cap5)):=turn_at (Turn.refl _ _) 4 _;have B6:=η (set_field (i:=4) B5.out (.slice (some ⟨g5,0,none⟩) (([]:List S80)++[x]).length cap5) rfl);have B26:=η (T6.heap B25.out (fun z=>by omega));have N6:=η (EN.turn (b:=b2) (b':=b3) N1 T6 (fun k hk=>by omega));have R5:=R3.turn T5 (by omega) (fun k hk=>by omega);have R6:=R5.turn T6 (by omega) (fun k hk=>by omega);have X6:=η ((X3.then T5 (fun i hi=> .inr hi.1)).then T6 (fun i hi=> .inr (by omega)));have hs6:(w5.setCell ⟨b3,4,none⟩ (.slice (some ⟨g5,0,none⟩) (([]:List S80)++[x]).length cap5)).heap.size=w5.heap.size:=by simp
   have hn6:n≤(w5.setCell ⟨b3,4,none⟩ (.slice (some ⟨g5,0,none⟩) (([]:List S80)++[x]).length cap5)).heap.size:=by omega
   have hb6:b3<(w5.setCell ⟨b3,4,none⟩ (.slice (some ⟨g5,0,none⟩) (([]:List S80)++[x]).length cap5)).heap.size:=by omega
   clear e0 e1 e2 e3 e4 e5 e6 ef hat5 hg5 hb5 N1 N3 B3 B23 B5 B25 R3 R5 T3 T5 T6 X3 hs3 hs5 hs6 RD hnd XX BB B2B NN hb3 V3;generalize w5.setCell ⟨b3,4,none⟩ (.slice (some ⟨g5,0,none⟩) (([]:List S80)++[x]).length cap5)=w6 at*;clear hgl5 hgb5;go_wp2_with fail
   have L0:PrLoop o w n g b2 b3 k w6:=⟨[x],g5,cap5,l1,h2,by simp;omega,R6,hn6,hb6,X6.out,B6.out,B26.out,N6.out⟩;clear HL h1 h2 q1 q2 htk hlen X6 B6 B26 N6 R6 hn6 hb6;go_loopg [15] k (fun kq v15 W=>PrLoop o w n g b2 b3 kq W)
   case atStart=>exact L0
   case round=>
    clear L0;obtain⟨xs,gv,cap,l,hp,hl,R6,hn6,hb6,X6,B6,B26,N6⟩:=hrel;have X6:=η X6;have B6:=η B6;have B26:=η B26;have N6:=η N6;have HL:=η hl;have htk:=R6.tk;clear hl;cases gk with
    |zero=>rw[pItems]at hp;cases hp
    |succ kq=>
     rw[pItems]at hp;dsimp only at hp;by_cases c:isM (hd l) [59]
     · rw[if_pos c]at hp
       obtain rfl:=Option.some.inj hp;have G1:=η (got_yes R6 ⟨#[59]⟩ (isM_lit c));clear hp c htk HL;go_wp2_with fail
       refine G1.out.mono ?_;rintro e w7 ⟨rfl,R7,T7⟩;have hs7:=T7.size;have B7:=η (T7.heap B6.out (fun z=>by omega));have B27:=η (T7.heap B26.out (fun z=>by omega));have N7:=η (EN.turn N6.out T7 (fun k hk=>by omega));have X7:=η (X6.out.then T7 (fun i hi=> .inl hi));have hn7:n≤w7.heap.size:=by omega
       have hb7:b3<w7.heap.size:=by omega
       clear X6 B6 B26 N6 R6 hn6 hb6 hs7 T7;have X6:=X7;have B6:=B7;have B26:=B27;have N6:=N7;have R6:=R7;have hn6:=hn7;have hb6:=hb7;clear X7 B7 B27 N7 R7 hn7 hb7;obtain⟨e0,e1,e2,e3,e4,e5,e6,ef⟩:=heap7 B6.out;obtain⟨d0,d1,d2,d3,d4,d5,d6,df⟩:=heap7 B26.out;clear ef;go_wp2_with fail
       refine ret62 2 rfl rfl B26.out (fun W s1 s2=> ?_);have R8:=R6.turn s2 (by omega) (fun k hk=>by omega);have X8:=X6.out.then s2 (fun i hi=> .inr (by omega));have G4:=Kd.F_step (Kd.N_F N6.out) (fun k hk hlt=>s2.block k hlt (fun q=>hk.2.1 q));have L4:=(Kd.N_reads' N6.out).2.1;exact⟨_,_,none,0,none,0,rfl,⟨L4,Kd.F_mono G4 (fun k hk=>hk.1),Nat.le_refl _,Kd.F_nil _ _ _,Nat.le_refl _,Kd.F_nil _ _ _⟩,R8,X8⟩
     · rw[if_neg c]at hp
       have G1:=η (got_no R6 ⟨#[59]⟩ (notM_lit c));clear c;go_wp2_with fail
       refine G1.out.mono ?_;rintro e w7 ⟨rfl,rfl⟩;clear G1;have H3:=pbind_cases hp;clear hp;go_wp2_with fail
       rcases H3 with⟨er,h1,rfl⟩|⟨_,l2,h1,hp⟩
       · refine(skip_tok [44] h1 (R6.al hn6 (.cells #[.string ⟨#[44]⟩] 9)) _ (by simp)).mono ?_
         rintro e w7 ⟨rfl,T7⟩;go_wp2_with fail
         exact⟨rfl,rfl,(X6.out.alloc _).then T7 (fun i hi=> .inl hi)⟩
       refine(skip_tok [44] h1 (R6.al hn6 (.cells #[.string ⟨#[44]⟩] 9)) _ (by simp)).mono ?_;rintro e w7 ⟨rfl,R7,T7⟩;obtain⟨q1,q2⟩:=ptok_len h1 htk;have hs7:=T7.size;simp at hs7;have B7:=η (T7.heap (alloc_old B6.out (.cells #[.string ⟨#[44]⟩] 9)) (fun z=>by omega));have B27:=η (T7.heap (alloc_old B26.out (.cells #[.string ⟨#[44]⟩] 9)) (fun z=>by omega));have N7:=η (EN.turn (Kd.N_alloc N6.out (.cells #[.string ⟨#[44]⟩] 9)) T7 (fun k hk=>by omega));have X7:=η ((X6.out.alloc (.cells #[.string ⟨#[44]⟩] 9)).then T7 (fun i hi=> .inl hi));have hn7:n≤w7.heap.size:=by omega
       have hb7:b3<w7.heap.size:=by omega
       clear X6 B6 B26 N6 R6 hn6 hb6 hs7 T7 h1;have X6:=X7;have B6:=B7;have B26:=B27;have N6:=N7;have R6:=R7;have hn6:=hn7;have hb6:=hb7;clear X7 B7 B27 N7 R7 hn7 hb7;go_upto_region 7 with fail
       have H4:=pbind_cases hp;clear hp;have XX:=η (X6.out.drew);have BB:w7.drew.heap[b3]? =some (.cells #[.int .i64 5,.string ⟨#[]⟩,.string ⟨#[]⟩,.string ⟨#[]⟩,.slice (some ⟨gv,0,none⟩) xs.length cap,.slice none 0 0,.slice none 0 0] 62):=B6.out;have BB:=η BB;have B2B:w7.drew.heap[b2]? =some box62:=B26.out;have B2B:=η B2B;have NN:EN w7.drew w.heap.size b2 b3 (.slice (some ⟨gv,0,none⟩) xs.length cap) xs:=N6.out;have NN:=η NN;have RD:Rd w7.drew n g l2:=R6.move (fun _ _=>rfl);have hnd:n≤w7.drew.heap.size:=hn6;have hb3:b3<w7.drew.heap.size:=hb6;clear X6 B6 B26 N6 R6 hn6 hb6;refine sr 8 (S:=fun W=>W.cell? ⟨b3,4,none⟩=some (.slice (some ⟨gv,0,none⟩) xs.length cap)) (ds:=[7]) (heap7 BB.out).2.2.2.2.1 ?_;generalize w7.drew=wA at*;intro hH;refine pu 0 21 ?_;refine tk 1 22 hH ?_;refine pu 2 23 ?_;refine on 3 24 (fun K hK=> ?_);rcases H4 with⟨er,h1,rfl⟩|⟨y,l3,h1,h2⟩
       · refine callp_ Tryz.func46 (by kernel_rfl) (by kernel_rfl) #[.pointer (some ⟨g,0,none⟩),.int .i64 0] (by rfl) (by rfl) (by simp[Act.eval]) ?_
         refine(ex_at kq 0 l2 _ _ n g h1 (by omega) RD hnd).mono ?_;rintro e w3 ⟨rfl,T3⟩;exact⟨_,rfl,rfl,rfl,XX.out.then T3 (fun i hi=> .inl hi)⟩
       refine PrintLast.goes_ Tryz.func46 (by kernel_rfl) (by kernel_rfl) #[.pointer (some ⟨g,0,none⟩),.int .i64 0] (by rfl) (by rfl) (by rfl) (by simp[Act.eval]) ?_;refine(ex_at kq 0 l2 _ _ n g h1 (by omega) RD hnd).mono ?_;rintro e w3 ⟨A,c,rfl,V3,R3,T3⟩;obtain⟨q3,q4⟩:=pExpr_len (by omega) h1 q2;have hs3:=T3.size;have B3:=η (T3.heap BB.out (fun z=>by omega));have B23:=η (T3.heap B2B.out (fun z=>by omega));have N3:=η (NN.out.turn T3 (fun k hk=>by omega));have X3:=XX.out.then T3 (fun i hi=> .inl hi);refine⟨_,rfl,hK.out _ _ (heap7 B3.out).2.2.2.2.1 (fun hH=> ?_)⟩;clear hK K;refine nm 24 ?_;refine on 4 25 (fun K hK=> ?_);refine PrintLast.value_ (w1:=w3.alloc (bx y A c)) (v:= .slice (some ⟨w3.heap.size,0,none⟩) 1 1) (by rfl) (by rfl) (by go_simp) ?_;refine hK.out _ _ (heap7 (alloc_old B3.out _)).2.2.2.2.1 (fun hH=> ?_);clear hK K;refine nm 25 ?_;refine on 5 26 (fun K hK=> ?_)
       refine Kd.N_append_step k80 w.heap.size (by simp[Region.wanted]) (.tmp 22) (.tmp 25) 60 80 (.agg #[(.int .i64 0),(.int .i64 0),(.string ⟨#[]⟩),(.string ⟨#[]⟩),(.slice none 0 0)]) 72 rfl Tryz.underlying60 info80 rfl (by decide) (by decide)
        (.slice (some ⟨gv,0,none⟩) xs.length cap) xs y (cx y A c) (fun k=>w.heap.size≤k∧k≠b2∧k≠b3) (fun k=>wA.heap.size≤k∧k<w3.heap.size) rfl rfl (V3.old (fun k hk hlt=>⟨hk,hlt⟩)).FK (fun k hk=>⟨by omega,fun q=>by have:=Kd.N_lt NN.out k q.symm;omega⟩) (fun k hk=>by omega)
        N3.out (Below.refl _ _) (by omega) (by have:=HL.out;simp only[List.length_nil,List.length_append,List.length_cons]at*;omega) ?_
       intro v1 w5 N1 hb5 hg5 hat5;obtain⟨g5,cap5,hv1,hgb5,hgl5,_⟩:=Kd.N_form N1 (by simp);subst hv1;have T5:Turn (fun k=>(w.heap.size≤k∧k≠b2∧k≠b3)) w3 w5:=Turn.of_grown hg5 (fun k hk=> .inl (N3.out.1 k hk));have hs5:=T5.size;have B5:=η (T5.heap B3.out (fun z=>z.2.2 rfl));have B25:=η (T5.heap B23.out (fun z=>z.2.1 rfl));refine hK.out _ _ (heap7 B5.out).2.2.2.2.1 (fun hH=> ?_);clear hK K;refine nm 26 ?_;refine pu 6 27 ?_;refine la 7 (fun K hK=> ?_);obtain⟨e0,e1,e2,e3,e4,e5,e6,ef⟩:=heap7 B5.out;refine PrintLast.skip_ (w1:=w5.setCell ⟨b3,4,none⟩ (.slice (some ⟨g5,0,none⟩) (xs++[y]).length cap5)) (by rfl) (by rfl) (by go_simp) ?_;refine hK.out _ _ ?_;refine PrintLast.done_ (by kernel_rfl) ?_;clear hK K hH;have T6:Turn (fun k=>k=b3) w5 (w5.setCell ⟨b3,4,none⟩ (.slice (some ⟨g5,0,none⟩) (xs++[y]).length cap5)):=turn_at (Turn.refl _ _) 4 _;have B6:=η (set_field (i:=4) B5.out (.slice (some ⟨g5,0,none⟩) (xs++[y]).length cap5) rfl);have B26:=η (T6.heap B25.out (fun z=>by omega));have N6:=η (EN.turn (b:=b2) (b':=b3) N1 T6 (fun k hk=>by omega));have R5:=R3.turn T5 (by omega) (fun k hk=>by omega);have R6:=R5.turn T6 (by omega) (fun k hk=>by omega);have X6:=η ((X3.then T5 (fun i hi=> .inr hi.1)).then T6 (fun i hi=> .inr (by omega)));have hs6:(w5.setCell ⟨b3,4,none⟩ (.slice (some ⟨g5,0,none⟩) (xs++[y]).length cap5)).heap.size=w5.heap.size:=by simp
       have hn6:n≤(w5.setCell ⟨b3,4,none⟩ (.slice (some ⟨g5,0,none⟩) (xs++[y]).length cap5)).heap.size:=by omega
       have hb6:b3<(w5.setCell ⟨b3,4,none⟩ (.slice (some ⟨g5,0,none⟩) (xs++[y]).length cap5)).heap.size:=by omega
       clear e0 e1 e2 e3 e4 e5 e6 ef hat5 hg5 hb5 N1 N3 B3 B23 B5 B25 R3 R5 T3 T5 T6 X3 hs3 hs5 hs6 RD hnd XX BB B2B NN hb3 V3;generalize w5.setCell ⟨b3,4,none⟩ (.slice (some ⟨g5,0,none⟩) (xs++[y]).length cap5)=w6 at*;clear hgl5 hgb5;go_wp2_with fail
       go_roundg kq
       case measure=>omega
       case rel=>
        exact⟨xs++[y],g5,cap5,l3,h2,by have:=HL.out;simp;omega,R6,hn6,hb6,X6.out,B6.out,B26.out,N6.out⟩
def BkPost (w:World) (n g:Nat) (o:Except (Int×Int) (List S62×List S42)) (e:Ending) (w':World):Prop:=
 match o with
 | .ok (ss,l')=>∃A c,e= .returned (.slice A ss.length c)∧ss.length≤c∧Kd.F k62 w' (fun k=>w.heap.size≤k) A ss.length ss∧Rd w' n g l'∧Turn (fun k=>k=g) w w'
 | .error er=>e= .panicked (pv er.1 er.2)∧Turn (fun k=>k=g) w w'
def StAt (k:Nat):Prop:=∀(l:List S42) (o:Except (Int×Int) (S62×List S42)) (w:World) (n g:Nat),pStmt k l=some o→Rd w n g l→n≤w.heap.size→Calls Tryz.prog 21 #[.pointer (some ⟨g,0,none⟩)] w (StPost w n g o)
def CoAt (k:Nat):Prop:=∀(l:List S42) (o:Except (Int×Int) (S62×List S42)) (w:World) (n g:Nat),pCond k l=some o→Rd w n g l→n≤w.heap.size→Calls Tryz.prog 45 #[.pointer (some ⟨g,0,none⟩)] w (StPost w n g o)
def BkAt (k:Nat):Prop:=∀(l:List S42) (o:Except (Int×Int) (List S62×List S42)) (w:World) (n g:Nat),pBlock k l=some o→Rd w n g l→n≤w.heap.size→Calls Tryz.prog 47 #[.pointer (some ⟨g,0,none⟩)] w (BkPost w n g o)
abbrev SN (W:World) (n0:Nat) (v:Value) (xs:List S62):Prop:=Kd.N k62 62 W n0 (fun k=>n0≤k) v xs
theorem SN.turn {W W':World} {n0:Nat} {v:Value} {xs:List S62} {F:Nat→Prop} (h:SN W n0 v xs) (T:Turn F W W') (hF:∀k,F k→k<n0):SN W' n0 v xs:=
 Kd.N_step h (fun k hk hlt=>T.block k hlt (fun q=>by have:=hF k q;omega))
theorem info62:(Tryz.prog.info? 62).map (fun i=>(i.zero,i.size,i.bytes))=some (some (.agg #[.int .i64 0,.string ⟨#[]⟩,.string ⟨#[]⟩,.string ⟨#[]⟩,.slice none 0 0,.slice none 0 0,.slice none 0 0]),7,128):=by kernel_rfl
def BkLoop (o:Except (Int×Int) (List S62×List S42)) (w:World) (n g kq:Nat) (v:Value) (W:World):Prop:=
 ∃(xs:List S62) (A:Option Addr) (c:Nat) (l:List S42),v= .slice A xs.length c∧pBody kq xs l=some o∧xs.length+l.length≤1000000000∧Rd W n g l∧w.heap.size≤W.heap.size∧Turn (fun k=>k=g) w W∧SN W w.heap.size (.slice A xs.length c) xs
theorem block_step (k:Nat) (ST:∀j,j≤k→StAt j):BkAt (k+1):=by
 intro l o w n g h R hn;have hg:=Nat.lt_of_lt_of_le R.gn hn;have hlen:=R.tk.1;have htk:=R.tk;rw[pBlock]at h;have H:=pbind_cases h;have R1:=R.al hn (.cells #[.string ⟨#[123]⟩] 9);have T0:=η ((Turn.refl (fun k=>k=g) w).alloc (.cells #[.string ⟨#[123]⟩] 9));have HN:=η hn;have STH:=η ST;clear R h hn ST;go_enter Tryz.func47,Tryz.ntmps47;go_wp2_with fail
 rcases H with⟨er,h1,rfl⟩|⟨_,l1,h1,h2⟩
 · refine(skip_tok [123] h1 R1 _ (by simp)).mono ?_
   rintro e w1 ⟨rfl,T1⟩;go_wp2_with fail
   exact⟨rfl,rfl,T0.out.then T1 (fun i hi=> .inl hi)⟩
 refine(skip_tok [123] h1 R1 _ (by simp)).mono ?_;rintro e w1 ⟨rfl,R2,T1⟩;obtain⟨q1,q2⟩:=ptok_len h1 htk;have hs1:=T1.size;simp at hs1;go_wp2_with fail
 have L0:BkLoop o w n g k (.slice none 0 0) w1:=⟨[],none,0,l1,rfl,h2,by simp;omega,R2,by omega,T0.out.then T1 (fun i hi=> .inl hi),Kd.N_nil _ _ _ _ _⟩;clear h1 h2 q1 q2 htk hlen R1 R2 T1 T0 hs1;go_loopg [3] k (fun kq v3 W=>BkLoop o w n g kq v3 W∧kq≤k)
 case atStart=>exact⟨L0,Nat.le_refl _⟩
 case round=>
  clear L0;obtain⟨⟨xs,A,c,l,rfl,hp,hl,R,hw,T,N1⟩,hk⟩:=hrel;have T:=η T;have N1:=η N1;have HL:=η hl;have htk:=R.tk;clear hl;cases gk with
  |zero=>rw[pBody]at hp;cases hp
  |succ kq=>
   rw[pBody]at hp;dsimp only at hp;by_cases c1:isM (hd l) [125]
   · rw[if_pos c1]at hp
     obtain rfl:=Option.some.inj hp;have G1:=η (got_yes R ⟨#[125]⟩ (isM_lit c1));clear hp c1 htk HL;go_wp2_with fail
     refine G1.out.mono ?_;rintro e w7 ⟨rfl,R7,T7⟩;go_wp2_with fail
     go_ret;have N7:=N1.out.turn T7 (fun k hk=>by omega);exact⟨A,c,rfl,(Kd.N_reads' N7).2.1,Kd.N_F N7,R7,T.out.then T7 (fun i hi=> .inl hi)⟩
   · rw[if_neg c1]at hp
     have G1:=η (got_no R ⟨#[125]⟩ (notM_lit c1));have H:=pbind_cases hp;clear c1 hp;go_wp2_with fail
     refine G1.out.mono ?_;rintro e w7 ⟨rfl,rfl⟩;clear G1;go_wp2_with fail
     rcases H with⟨er,h1,rfl⟩|⟨s,l2,h1,h2⟩
     · refine(STH.out kq (by omega) l _ _ n g h1 R (Nat.le_trans HN.out hw)).mono ?_
       rintro e w2 ⟨rfl,T2⟩;go_wp2_with fail
       exact⟨rfl,rfl,T.out.then T2 (fun i hi=> .inl hi)⟩
     refine(STH.out kq (by omega) l _ _ n g h1 R (Nat.le_trans HN.out hw)).mono ?_;rintro e w2 ⟨A4,c4,A5,c5,A6,c6,rfl,V,R2,T2⟩;obtain⟨q1,q2⟩:=stm_len h1 htk;have hs2:=T2.size;have N2:=η (N1.out.turn T2 (fun k hk=>by omega));have X2:=η (T.out.then T2 (fun i hi=> .inl hi));go_wp2_with(at_builtin;refine Kd.N_append k62 (w0:=w2) (W:=w2) w.heap.size rfl (.tmp 10) (.tmp 13) 29 62 _ 128 rfl Tryz.underlying29 info62 rfl (by decide) (by decide) (.slice A xs.length c) xs s [.int .i64 s.f0,.string s.f1,.string s.f2,.string s.f3,.slice A4 s.f4.length c4,.slice A5 s.f5.length c5,.slice A6 s.f6.length c6] (fun k=>w.heap.size≤k) (fun k=>wr.heap.size≤k) rfl rfl V.FK (fun k hk=>⟨by omega,fun q=>by have:=Kd.N_lt N1.out k q.symm;omega⟩) (fun k hk=>by omega) N2.out (Below.refl _ _) (by omega) (by have:=HL.out;omega) ?_;intro v1 w5 N5 hb5 hg5 hat5)
     have T5:Turn (fun k=>w.heap.size≤k) w2 w5:=Turn.of_grown hg5 (fun k hk=> .inl (N2.out.1 k hk));obtain⟨A',c',hv1⟩:=Kd.N_slice N5;go_roundg kq
     case measure=>omega
     case rel=>
      exact⟨⟨xs++[s],A',c',l2,hv1,h2,by have:=HL.out;simp;omega,R2.turn T5 (by have:=HN.out;omega) (fun k hk=>by have:=HN.out;omega),by have:=T5.size;omega,X2.out.then T5 (fun i hi=> .inr hi),hv1▸N5⟩,by omega⟩
theorem drop_pre (p c:List S42):(p++c).drop p.length=c:=by simp
theorem dblock_step (n:Nat) (ST:DStms n):DBlk (n+1):=by
 intro c l hn h p r W b o cp ht D;cases h with
 |mk a c z l ha hc hz=>
  simp only[List.length_cons,List.length_append,List.length_nil]at hn;have htc:Toks c:=by have:=ht.tail.app.1.cons.2.app.1;exact this
  have hpass:=(stm_pass c.length).2.2.2 c l (Nat.le_refl _) hc htc;have hlen:(p++(a::(c++[z])++r)).length=p.length+(c.length+2+r.length):=by simp;omega
  have hle:=D.len;rw[hlen]at hle
  have hu:unt ms125 0 (p.length+1) ((p++(a::(c++[z])++r)).drop (p.length+1))=some (p.length+1+c.length):=by
   have e:p++(a::(c++[z])++r)=(p++[a])++(c++z::r):=by simp
   have e2:p.length+1=(p++[a]).length:=by simp
   rw[e,e2,drop_pre];exact unt_at hpass hz (by decide) _
  obtain⟨o',c',hcut,D'⟩:=D.seg (p++[a]) c (z::r) (by simp) ((p.length:Int)+1) ((p.length+1+c.length:Nat):Int) (by simp) (by simp);have B1:=η (alloc_new W (.cells #[.string ⟨#[125]⟩] 9));have D1:=D.below (below_alloc (Below.refl _ _) (.cells #[.string ⟨#[125]⟩] 9));have D2:=D'.below (below_alloc (Below.refl _ _) (.cells #[.string ⟨#[125]⟩] 9));have T1:=η ((Turn.refl (fun _=>False) W).alloc (.cells #[.string ⟨#[125]⟩] 9));have UC:=η (until_call D1 ht.small ms125 (by decide) (p.length+1) (p.length+1+c.length) (by rw[hlen];omega) hu ((p.length:Int)+1) (by simp) W.heap.size B1.out 1 rfl);have SC:=η (fun W (D:DR W b o' c' c)=>ST c l (by omega) hc W b o' c' htc D);have hj:((p.length+(a::(c++[z])).length:Nat):Int)=((p.length+1+c.length:Nat):Int)+1:=by simp;omega
  have hb:((p.length+1+c.length:Nat):Int)<1000000000:=by omega
  have hb0:(0:Int)≤((p.length+1+c.length:Nat):Int):=by omega
  have hb1:(p.length:Int)<1000000000:=by omega
  have hp0:(0:Int)≤(p.length:Int):=by omega
  unfold DbPost;rw[hj];generalize((p.length+1+c.length:Nat):Int)=j at*;generalize(p.length:Int)=pl at*;generalize p++(a::(c++[z])++r)=tk at*;generalize tk.length=tl at*;clear hu D D' hlen hle hj;replace D2:=η D2;clear D1;go_enter Tryz.func65,Tryz.ntmps65;go_wp2_with(first|(go_at_call 62;refine UC.out.mono ?_;rintro e w2 ⟨rfl,H2⟩;have T2:Turn (fun _=>False) _ w2:=Turn.of_below H2 (Nat.le_refl _);have D3:=D2.out.turn T2;have X2:=η (T1.out.then T2 (fun i hi=>hi.elim));clear T2 H2)|(go_at_call 13;refine(SC.out _ D3).mono ?_;rintro e w3 ⟨A,cc,rfl,hcc,F3,T3⟩))
  go_ret2;exact⟨A,cc,rfl,hcc,Kd.F_mono F3 (fun k hk=>Nat.le_trans X2.out.size hk),X2.out.then T3 (fun i hi=>hi.elim)⟩
def DsLoop (c:List S42) (l:List S62) (w:World) (kq:Nat) (v3 v4:Value) (W:World):Prop:=
 ∃(p r:List S42) (xs ys:List S62) (A:Option Addr) (cp:Nat),v3= .slice A xs.length cp∧v4= .int .i64 (p.length:Int)∧c=p++r∧Stms r ys∧l=xs++ys∧r.length<kq∧xs.length≤p.length∧
  k62.N 62 W w.heap.size (fun k=>w.heap.size≤k) (.slice A xs.length cp) xs∧Turn (fun _=>False) w W
theorem stm_pos {c:List S42} {s:S62} (h:Stm c s):1≤c.length:=by
 obtain⟨t,r,rfl,_⟩:=stm_head h;simp
theorem dstms_step (n:Nat) (ON:DOne n):DStms n:=by
 intro c l hn h w b o cp ht D;have hle:=D.len;have LS:DsLoop c l w (c.length+1) (.slice none 0 0) (.int .i64 0) w:=⟨[],c,[],l,none,0,rfl,rfl,rfl,h,rfl,by omega,by simp,Kd.N_nil _ _ _ _ _,Turn.refl _ _⟩;replace LS:=η LS;clear h;replace D:=η D;replace ht:=η ht;go_enter Tryz.func13,Tryz.ntmps13;go_wp2_with fail
 go_loopg [3,4] (c.length+1) (fun kq v3 v4 W=>DsLoop c l w kq v3 v4 W)
 case atStart=>exact LS.out
 case round=>
  clear LS;obtain⟨p,r,xs,ys,A,ca,rfl,rfl,hc,hst,hl,hkq,hxl,N1,T⟩:=hrel;replace N1:=η N1;replace T:=η T;replace D:=η (D.out.turn T.out);have hcl:c.length=p.length+r.length:=by rw[hc,List.length_append]
  cases hst with
  |nil=>
   rw[List.append_nil]at hc hl;have c1:¬(p.length:Int)<(c.length:Int):=by rw[hc];omega
   have hD:DtPost w l (.returned (.slice A xs.length ca)) wr:=by
    rw[hl];exact⟨A,ca,rfl,(Kd.N_reads' N1.out).2.1,Kd.N_F N1.out,T.out⟩
   clear hc hl N1 T D hcl hle;go_wp2_with fail
   go_ret;exact hD
  |cons c1 s r1 l1 h1 h2=>
   have hpos:=stm_pos h1;have hc1:(p.length:Int)<(c.length:Int):=by rw[List.length_append]at hcl;omega
   rw[List.length_append]at hcl hkq;have OC:=η (ON c1 s (by omega) h1 p r1 wr b o cp (by rw[← hc];exact ht.out) (stms_noelse h2) (by rw[← hc];exact D.out));rw[← hc]at OC;have hp1:(p.length:Int)<1000000000:=by omega
   have hj1:((p.length:Int)+(c1.length:Int))<1000000000:=by omega
   have hj0:(0:Int)≤((p.length:Int)+(c1.length:Int)):=by omega
   have hp0:(0:Int)≤(p.length:Int):=by omega
   have REL:Hid (∀(A':Option Addr) (c':Nat) (W:World),k62.N 62 W w.heap.size (fun k=>w.heap.size≤k) (.slice A' (xs.length+1) c') (xs++[s])→Turn (fun _=>False) w W→DsLoop c l w (r1.length+1) (.slice A' (xs.length+1) c') (.int .i64 ((p.length:Int)+(c1.length:Int))) W):=η fun A' c' W hN hT=>
    ⟨p++c1,r1,xs++[s],l1,A',c',by simp,by simp,by rw[hc,List.append_assoc],h2,by rw[hl];simp,by omega,by simp;omega,(by simp:(xs++[s]).length=xs.length+1)▸hN,hT⟩
   have hxs:xs.length<1000000000:=by omega
   have hms:r1.length+1<gk:=by omega
   clear hc hl hcl h1 h2 hkq hxl hle;go_upto_region 5 with(first|(go_at_call 31;refine OC.out.mono ?_;rintro e w2 ⟨A4,c4,A5,c5,A6,c6,rfl,V,T2⟩;have N2:=η (Kd.N_step N1.out (fun k hk hlt=>T2.block k hlt (fun z=>z)));have X2:=η (T.out.then T2 (fun i hi=>hi.elim));have hs2:=T2.size;clear T2))
   have B3:=η (alloc_new w2 (bst s A4 c4 A5 c5 A6 c6));have N3:=η (Kd.N_alloc N2.out (bst s A4 c4 A5 c5 A6 c6));have X3:=η (X2.out.alloc (bst s A4 c4 A5 c5 A6 c6));have V3:=η (V.al (bst s A4 c4 A5 c5 A6 c6));have hg3:w2.heap.size<(w2.alloc (bst s A4 c4 A5 c5 A6 c6)).heap.size:=by simp
   have hT:=T.out.size;generalize w2.alloc (.cells #[.int .i64 s.f0,.string s.f1,.string s.f2,.string s.f3,.slice A4 s.f4.length c4,.slice A5 s.f5.length c5,.slice A6 s.f6.length c6] 62)=w3 at*;obtain⟨e0,e1,e2,e3,e4,e5,e6,ef⟩:=heap7 B3.out;clear N2 X2 V OC;go_upto_region 6 with(at_builtin;refine Kd.N_append k62 (w0:=w3) (W:=w3) w.heap.size rfl (.tmp 17) (.tmp 19) 29 62 _ 128 rfl Tryz.underlying29 info62 rfl (by decide) (by decide) (.slice A xs.length ca) xs s [.int .i64 s.f0,.string s.f1,.string s.f2,.string s.f3,.slice A4 s.f4.length c4,.slice A5 s.f5.length c5,.slice A6 s.f6.length c6] (fun k=>w.heap.size≤k) (fun k=>wr.heap.size≤k) rfl rfl V3.out.FK (fun k hk=>⟨by omega,fun q=>by have:=Kd.N_lt N1.out k q.symm;omega⟩) (fun k hk=>by omega) N3.out (Below.refl _ _) (by omega) (by omega) ?_;intro v1 w5 N5 hb5 hg5 hat5)
   have T5:Turn (fun k=>w.heap.size≤k) w3 w5:=Turn.of_grown hg5 (fun k hk=> .inl (N3.out.1 k hk));have X5:=η (X3.out.then T5 (fun i hi=> .inr hi));obtain⟨A',c',hv1⟩:=Kd.N_slice N5;have hv2:v1= .slice A' (xs.length+1) c':=by rw[hv1];simp
   clear hv1;subst hv2;have N6:=η N5;clear N5 T5 hb5 hg5 hat5 e0 e1 e2 e3 e4 e5 e6 ef;go_wp2_with fail
   go_roundg (r1.length+1)
   case measure=>exact hms
   case rel=>exact REL.out A' c' w5 N6.out X5.out
theorem row_turn {α:Type} {d:Kd α} {w W:World} {ok:Nat→Prop} {A:Option Addr} {m:Nat} {xs:List α} {F:Nat→Prop} (h:Kd.F d w ok A m xs) (T:Turn F w W) (hF:∀k,F k→¬ok k):Kd.F d W ok A m xs:=
 Kd.F_step h (fun k hk hlt=>T.block k hlt (fun q=>hF k q hk))
theorem row_old {α:Type} {d:Kd α} {w:World} {ok ok':Nat→Prop} {A:Option Addr} {m:Nat} {xs:List α} (h:Kd.F d w ok A m xs) (hm:∀k,ok k→k<w.heap.size→ok' k):Kd.F d w ok' A m xs:=
 Kd.F_mono (Kd.F_bound h) (fun k hk=>hm k hk.1 hk.2)
theorem lit1s {w:World} {ok ok':Nat→Prop} {s:S62} {A4:Option Addr} {c4:Nat} {A5:Option Addr} {c5:Nat} {A6:Option Addr} {c6:Nat} (h:VS w ok s A4 c4 A5 c5 A6 c6) (h2:∀k,(ok k∧k<w.heap.size)∨k=w.heap.size→ok' k):
 Kd.F k62 (w.alloc (bst s A4 c4 A5 c5 A6 c6)) ok' (some ⟨w.heap.size,0,none⟩) 1 [s]:=by
 refine lit_F (xs:=[s]) (rows:=[[.int .i64 s.f0,.string s.f1,.string s.f2,.string s.f3,.slice A4 s.f4.length c4,.slice A5 s.f5.length c5,.slice A6 s.f6.length c6]]) rfl (by simp) (fun j y c' hj hc=> ?_) (fun j c' i u hc hu=> ?_) h2
 · rcases j with _|j
   · obtain rfl:=Option.some.inj hj
     obtain rfl:=Option.some.inj hc;exact h.FK
   · simp at hj
 · rcases j with _|j
   · obtain rfl:=Option.some.inj hc
     rcases i with _|_|_|_|_|_|_|i<;>first|exact hu|(simp at hu)
   · simp at hc
abbrev bIf (L:Nat) (A5:Option Addr) (n5 c5:Nat) (A6:Option Addr) (n6 c6:Nat):Obj:= .cells #[.int .i64 6,.string ⟨#[]⟩,.string ⟨#[]⟩,.string ⟨#[]⟩,.slice (some ⟨L,0,none⟩) 1 1,.slice A5 n5 c5,.slice A6 n6 c6] 62
theorem cond_fin {w W W2:World} {n g b2 b3 L:Nat} {x:S80} {b e:List S62} {A5:Option Addr} {c5:Nat} {A6:Option Addr} {c6:Nat} {l:List S42} (hn:n≤w.heap.size) (h2:w.heap.size≤b2)
 (G4:Kd.F k80 W (fun k=>w.heap.size≤k∧k≠b2∧k≠b3) (some ⟨L,0,none⟩) 1 [x]) (l5:b.length≤c5) (G5:Kd.F k62 W (fun k=>w.heap.size≤k∧k≠b2∧k≠b3) A5 b.length b)
 (l6:e.length≤c6) (G6:Kd.F k62 W (fun k=>w.heap.size≤k∧k≠b2∧k≠b3) A6 e.length e) (R:Rd W n g l) (T:Turn (fun k=>k=g) w W) (s2:Turn (fun k=>k=b2) W W2):
 StPost w n g (.ok ({st 6 with f4:=[x],f5:=b,f6:=e},l)) (.returned (.agg #[.int .i64 6,.string ⟨#[]⟩,.string ⟨#[]⟩,.string ⟨#[]⟩,.slice (some ⟨L,0,none⟩) 1 1,.slice A5 b.length c5,.slice A6 e.length c6])) W2:=
 ⟨_,1,A5,c5,A6,c6,rfl,⟨Nat.le_refl _,Kd.F_mono (row_turn G4 s2 (fun k hk q=>q.2.1 hk)) (fun k hk=>hk.1),l5,Kd.F_mono (row_turn G5 s2 (fun k hk q=>q.2.1 hk)) (fun k hk=>hk.1),l6,Kd.F_mono (row_turn G6 s2 (fun k hk q=>q.2.1 hk)) (fun k hk=>hk.1)⟩,
   R.turn s2 (Nat.le_trans hn T.size) (fun k hk=>by omega),T.then s2 (fun i hi=> .inr (by omega))⟩
theorem cond_step (k:Nat) (BK:BkAt k) (CO:CoAt k):CoAt (k+1):=by
 intro l o w n g h R hn;have hg:=Nat.lt_of_lt_of_le R.gn hn;rw[pCond]at h;have H:=pbind_cases h;have R0:=R.al hn box62;have T0:=η ((Turn.refl (fun k=>k=g) w).alloc box62);have HB:=η (alloc_new w box62);have HS:=η (show(w.alloc box62).heap.size=w.heap.size+1 by simp);clear R h;go_enter Tryz.func45,Tryz.ntmps45;go_wp2_with fail
 generalize w.alloc box62=w0 at*;obtain⟨b2,hb2⟩:∃b,b=w.heap.size:=⟨_,rfl⟩;rw[← hb2]at HB HS;rw[← hb2];have hw0:b2<w0.heap.size:=by have:=HS.out;omega
 have h2w:b2≤w.heap.size∧w.heap.size≤b2:=by omega
 have hwn:n≤w0.heap.size:=by have:=HS.out;omega
 have hgb:g<b2:=by omega
 clear hb2;rcases H with⟨er,h1,rfl⟩|⟨x,l1,h1,h2⟩
 · refine(ex_at k 0 l _ _ n g h1 (by omega) R0 hwn).mono ?_
   rintro e w1 ⟨rfl,T1⟩;go_wp2_with fail
   exact⟨rfl,rfl,T0.out.then T1 (fun i hi=> .inl hi)⟩
 refine(ex_at k 0 l _ _ n g h1 (by omega) R0 hwn).mono ?_;rintro e w1 ⟨A,c,rfl,V1,R1,T1⟩;have hs1:=T1.size;have B1:=η (T1.heap HB.out (fun z=>by omega));have X1:=T0.out.then T1 (fun i hi=> .inl hi);have H2:=pbind_cases h2;obtain⟨L,hL⟩:∃b,b=w1.heap.size:=⟨_,rfl⟩;obtain⟨b3,he3⟩:∃b,b=w1.heap.size+1:=⟨_,rfl⟩;have X6:=η ((X1.alloc (bx x A c)).alloc (bIf w1.heap.size none 0 0 none 0 0));have R6:=(R1.al (by omega) (bx x A c)).al (by simp;omega) (bIf w1.heap.size none 0 0 none 0 0);have B6:((w1.alloc (bx x A c)).alloc (bIf w1.heap.size none 0 0 none 0 0)).heap[(w1.alloc (bx x A c)).heap.size]? =some (bIf w1.heap.size none 0 0 none 0 0):=alloc_new _ _;have B26:=η (alloc_old (alloc_old B1.out (bx x A c)) (bIf w1.heap.size none 0 0 none 0 0));have G4:=η (Kd.F_alloc (lit1 (ok':=fun k=>w.heap.size≤k∧k≠b2∧k≠b3) V1 (fun k hk=>by omega)) (bIf w1.heap.size none 0 0 none 0 0));have hn6:n≤((w1.alloc (bx x A c)).alloc (bIf w1.heap.size none 0 0 none 0 0)).heap.size:=by simp;omega
 have hb6:b3<((w1.alloc (bx x A c)).alloc (bIf w1.heap.size none 0 0 none 0 0)).heap.size:=by simp;omega
 rw[show(w1.alloc (bx x A c)).heap.size=b3 by simp;omega,← hL]at B6;have hb23:b2<b3:=by omega
 go_upto_region 2 with fail
 rw[← he3,← hL];rw[← hL]at X6 R6 B26 G4 hn6 hb6;have B6:=η B6;clear h1 h2 he3 hL R1 T1 hs1 B1 X1 V1 HB T0 R0;generalize(w1.alloc (bx x A c)).alloc (bIf L none 0 0 none 0 0)=w6 at*;go_wp2_with fail
 rcases H2 with⟨er,h1,rfl⟩|⟨b,l2,h1,h2⟩
 · refine(BK l1 _ _ n g h1 R6 hn6).mono ?_
   rintro e w3 ⟨rfl,T3⟩;go_wp2_with fail
   exact⟨rfl,rfl,X6.out.then T3 (fun i hi=> .inl hi)⟩
 refine(BK l1 _ _ n g h1 R6 hn6).mono ?_;rintro e w3 ⟨A5,c5,rfl,L5,G5,R3,T3⟩;have hs3:=T3.size;have B3:=η (T3.heap B6.out (fun z=>by omega));have B23:=η (T3.heap B26.out (fun z=>by omega));have G43:=row_turn G4.out T3 (fun k hk=>by omega);have G53:=row_old (ok':=fun k=>w.heap.size≤k∧k≠b2∧k≠b3) G5 (fun k hk _=>by have:=X6.out.size;omega);have X3:=X6.out.then T3 (fun i hi=> .inl hi);obtain⟨e0,e1,e2,e3,e4,e5,e6,ef⟩:=heap7 B3.out;go_upto_region 3 with fail
 have T4:Turn (fun k=>k=b3) w3 (w3.setCell ⟨b3,5,none⟩ (.slice A5 b.length c5)):=turn_at (Turn.refl _ _) 5 _;have B4:(w3.setCell ⟨b3,5,none⟩ (.slice A5 b.length c5)).heap[b3]? =some (bIf L A5 b.length c5 none 0 0):=set_field (i:=5) B3.out (.slice A5 b.length c5) rfl;have B4:=η B4;have B24:=η (T4.heap B23.out (fun z=>by omega));have G44:=η (row_turn G43 T4 (fun k hk=>by omega));have G54:=η (row_turn G53 T4 (fun k hk=>by omega));have R4:=R3.turn T4 (by omega) (fun k hk=>by omega);have X4:=η (X3.then T4 (fun i hi=> .inr (by omega)));have hn4:n≤(w3.setCell ⟨b3,5,none⟩ (.slice A5 b.length c5)).heap.size:=by simp;omega
 have hb4:b3<(w3.setCell ⟨b3,5,none⟩ (.slice A5 b.length c5)).heap.size:=by simp;omega
 clear e0 e1 e2 e3 e4 e5 e6 ef T3 hs3 B3 B23 G43 G53 X3 R3 G5 h1 X6 B6 B26 G4 hn6 hb6 T4 R6;generalize w3.setCell ⟨b3,5,none⟩ (.slice A5 b.length c5)=w4 at*;by_cases c1:isM (hd l2) [101,108,115,101]
 · rw[if_pos c1]at h2
   have G1:=η (got_yes R4 ⟨#[101,108,115,101]⟩ (isM_lit c1));clear c1;go_wp2_with fail
   refine G1.out.mono ?_;rintro e w5 ⟨rfl,R5,T5⟩;have hs5:=T5.size;have B5:=η (T5.heap B4.out (fun z=>by omega));have B25:=η (T5.heap B24.out (fun z=>by omega));have G45:=η (row_turn G44.out T5 (fun k hk=>by omega));have G55:=η (row_turn G54.out T5 (fun k hk=>by omega));have X5:=η (X4.out.then T5 (fun i hi=> .inl hi));clear G1 T5 B4 B24 G44 G54 X4 R4;go_wp2_with fail
   by_cases c2:isM (hd l2.tail) [105,102]
   · rw[if_pos c2]at h2
     have G1:=η (got_yes R5 ⟨#[105,102]⟩ (isM_lit c2));have H3:=pbind_cases h2;clear c2 h2;refine G1.out.mono ?_;rintro e w6 ⟨rfl,R6,T6⟩;have hs6:=T6.size;have B6:=η (T6.heap B5.out (fun z=>by omega));have B26:=η (T6.heap B25.out (fun z=>by omega));have G46:=η (row_turn G45.out T6 (fun k hk=>by omega));have G56:=η (row_turn G55.out T6 (fun k hk=>by omega));have X6:=η (X5.out.then T6 (fun i hi=> .inl hi));clear G1 T6 B5 B25 G45 G55 X5 R5;go_wp2_with fail
     rcases H3 with⟨er,h1,rfl⟩|⟨s,l3,h1,h2⟩
     · refine(CO l2.tail.tail _ _ n g h1 R6 (by omega)).mono ?_
       rintro e w7 ⟨rfl,T7⟩;go_wp2_with fail
       exact⟨rfl,rfl,X6.out.then T7 (fun i hi=> .inl hi)⟩
     refine(CO l2.tail.tail _ _ n g h1 R6 (by omega)).mono ?_;rintro e w7 ⟨q4,d4,q5,d5,q6,d6,rfl,V,R7,T7⟩;obtain rfl:=Option.some.inj h2;have hs7:=T7.size;have B7:=η (T7.heap B6.out (fun z=>by omega));have B27:=η (T7.heap B26.out (fun z=>by omega));have G47:=η (row_turn G46.out T7 (fun k hk=>by omega));have G57:=η (row_turn G56.out T7 (fun k hk=>by omega));have X7:=η (X6.out.then T7 (fun i hi=> .inl hi));obtain⟨e0,e1,e2,e3,e4,e5,e6,ef⟩:=heap7 B7.out;have hlt:b3<w7.heap.size:=by omega
     have hb36:b3<w6.heap.size:=(Array.getElem?_eq_some_iff.1 B6.out).1;go_upto_region 7 with fail
     have T8:Turn (fun k=>k=b3) w7 (w7.setCell ⟨b3,6,none⟩ (.slice (some ⟨w7.heap.size,0,none⟩) 1 1)):=turn_at (Turn.refl _ _) 6 _;have hsz:(w7.setCell ⟨b3,6,none⟩ (.slice (some ⟨w7.heap.size,0,none⟩) 1 1)).heap.size=w7.heap.size:=by simp
     have B8:((w7.setCell ⟨b3,6,none⟩ (.slice (some ⟨w7.heap.size,0,none⟩) 1 1)).alloc (bst s q4 d4 q5 d5 q6 d6)).heap[b3]? =some (bIf L A5 b.length c5 (some ⟨w7.heap.size,0,none⟩) 1 1):=alloc_old (set_field (i:=6) B7.out _ rfl) _;have B28:=η (alloc_old (T8.heap B27.out (fun z=>by omega)) (bst s q4 d4 q5 d5 q6 d6));have G48:=η (Kd.F_alloc (row_turn G47.out T8 (fun k hk=>by omega)) (bst s q4 d4 q5 d5 q6 d6));have G58:=η (Kd.F_alloc (row_turn G57.out T8 (fun k hk=>by omega)) (bst s q4 d4 q5 d5 q6 d6));have G68:=lit1s (ok':=fun k=>w.heap.size≤k∧k≠b2∧k≠b3) (V.turn T8 (fun k hk=>by omega)) (fun k hk=>by have:=X6.out.size;omega);rw[hsz]at G68;have G68:=η G68;have R8:=(R7.turn T8 (by omega) (fun k hk=>by omega)).al (by omega) (bst s q4 d4 q5 d5 q6 d6);have X8:=η ((X7.out.then T8 (fun i hi=> .inr (by omega))).alloc (bst s q4 d4 q5 d5 q6 d6));clear e0 e1 e2 e3 e4 e5 e6 ef T7 hs7 B7 B27 G47 G57 X7 R7 V h1 h2 X6 B6 B26 G46 G56 hs6 T8 hsz hlt R6;generalize(w7.setCell ⟨b3,6,none⟩ (.slice (some ⟨w7.heap.size,0,none⟩) 1 1)).alloc (bst s q4 d4 q5 d5 q6 d6)=w8 at*;generalize w7.heap.size=M at*;obtain⟨e0,e1,e2,e3,e4,e5,e6,ef⟩:=heap7 B8;obtain⟨d0,d1,d2,d3,d4,d5,d6,df⟩:=heap7 B28.out;clear ef B8;go_wp2_with fail
     exact ret62 2 rfl rfl B28.out (fun W s1 s2=>cond_fin (e:=[s]) hn h2w.2 G48.out L5 G58.out (Nat.le_refl _) G68.out R8 X8.out s2)
   · rw[if_neg c2]at h2
     have G1:=η (got_no R5 ⟨#[105,102]⟩ (notM_lit c2));have H3:=pbind_cases h2;clear c2 h2;refine G1.out.mono ?_;rintro e w6 ⟨rfl,rfl⟩;clear G1;go_wp2_with fail
     rcases H3 with⟨er,h1,rfl⟩|⟨s,l3,h1,h2⟩
     · refine(BK l2.tail _ _ n g h1 R5 (by omega)).mono ?_
       rintro e w7 ⟨rfl,T7⟩;go_wp2_with fail
       exact⟨rfl,rfl,X5.out.then T7 (fun i hi=> .inl hi)⟩
     refine(BK l2.tail _ _ n g h1 R5 (by omega)).mono ?_;rintro e w7 ⟨A6,c6,rfl,L6,G6,R7,T7⟩;obtain rfl:=Option.some.inj h2;have hs7:=T7.size;have B7:=η (T7.heap B5.out (fun z=>by omega));have B27:=η (T7.heap B25.out (fun z=>by omega));have G47:=η (row_turn G45.out T7 (fun k hk=>by omega));have G57:=η (row_turn G55.out T7 (fun k hk=>by omega));have G67:=row_old (ok':=fun k=>w.heap.size≤k∧k≠b2∧k≠b3) G6 (fun k hk _=>by have:=X5.out.size;omega);have X7:=η (X5.out.then T7 (fun i hi=> .inl hi));obtain⟨e0,e1,e2,e3,e4,e5,e6,ef⟩:=heap7 B7.out;go_upto_region 9 with fail
     have T8:Turn (fun k=>k=b3) w7 (w7.setCell ⟨b3,6,none⟩ (.slice A6 s.length c6)):=turn_at (Turn.refl _ _) 6 _;have B8:(w7.setCell ⟨b3,6,none⟩ (.slice A6 s.length c6)).heap[b3]? =some (bIf L A5 b.length c5 A6 s.length c6):=set_field (i:=6) B7.out _ rfl;have B28:=η (T8.heap B27.out (fun z=>by omega));have G48:=η (row_turn G47.out T8 (fun k hk=>by omega));have G58:=η (row_turn G57.out T8 (fun k hk=>by omega));have G68:=η (row_turn G67 T8 (fun k hk=>by omega));have R8:=R7.turn T8 (by omega) (fun k hk=>by omega);have X8:=η (X7.out.then T8 (fun i hi=> .inr (by omega)));clear e0 e1 e2 e3 e4 e5 e6 ef T7 hs7 B7 B27 G47 G57 G67 G6 X7 R7 h1 h2 X5 B5 B25 G45 G55 T8 R5;generalize w7.setCell ⟨b3,6,none⟩ (.slice A6 s.length c6)=w8 at*;obtain⟨e0,e1,e2,e3,e4,e5,e6,ef⟩:=heap7 B8;obtain⟨d0,d1,d2,d3,d4,d5,d6,df⟩:=heap7 B28.out;clear ef B8;go_wp2_with fail
     exact ret62 2 rfl rfl B28.out (fun W s1 s2=>cond_fin hn h2w.2 G48.out L5 G58.out L6 G68.out R8 X8.out s2)
 · rw[if_neg c1]at h2
   obtain rfl:=Option.some.inj h2;have G1:=η (got_no R4 ⟨#[101,108,115,101]⟩ (notM_lit c1));clear c1 h2;go_wp2_with fail
   refine G1.out.mono ?_;rintro e w5 ⟨rfl,rfl⟩;obtain⟨e0,e1,e2,e3,e4,e5,e6,ef⟩:=heap7 B4.out;obtain⟨d0,d1,d2,d3,d4,d5,d6,df⟩:=heap7 B24.out;clear ef;go_wp2_with fail
   exact ret62 2 rfl rfl B24.out (fun W s1 s2=>cond_fin (e:=[]) hn h2w.2 G44.out L5 G54.out (Nat.le_refl _) (Kd.F_nil _ _ _) R4 X4.out s2)
section
variable {P:Program} {ops:Array Oper} {o:Oper} {a:Act} {Q:Exit→Act→World→Prop} {K:Act→World→Prop}
theorem step_append_at {W:World} (base:Nat) (hw:Region.wanted o (yielded ops a.tmps)=true) (s x:Operand) (t e:TypeId) (z:Value) (size bytes:Nat)
 (ho:o.op= .call {callee:= .builtin .append,args:=#[s,x],argTypes:=#[t,t]})
 (ht:P.underlying t=some (.slice e)) (hinfo:(P.info? e).map (fun i=>(i.zero,i.size,i.bytes))=some (some z,size,bytes)) (hz:z.cells.size=size) (hs0:0<size) (hb0:0<bytes)
 (v:Value) (n:Nat) (xs ys:List Value) (b:Nat) (hs:a.eval s=v) (hx:a.eval x= .slice (some ⟨b,0,none⟩) 1 1) (hys:ys.length=size) (h1:∀u∈ys,u.oneCell'=true) (hbk:W.heap[b]? =some (.cells ys.toArray e (0,0)))
 (HO:W.ownsRow base e size v n xs) (hbase:base≤W.heap.size) (hl:(n+1)*bytes≤140737488355328)
 (h:∀v1 w1,w1.ownsRow base e size v1 (n+1) (xs++ys)→W.grownBy w1 v.ownBlock→(v1.ownBlock=v.ownBlock∨∃b,v1.ownBlock=some b∧W.heap.size≤b)→K (a.put o.dst v1) w1):
 if Region.wanted o (yielded ops a.tmps)=true then Oper.wp P o a W K Q else K (a.put o.dst undef) W:=by
 obtain⟨i0,hi,hzz⟩:=Option.map_eq_some_iff.1 hinfo;simp only[Prod.mk.injEq]at hzz;obtain⟨hz0,hz1,hz2⟩:=hzz;have hlen:n+1≤140737488355328:=Nat.le_trans (Nat.le_mul_of_pos_right _ hb0) hl;rw[if_pos hw]
 obtain⟨v1,w1,hr,hown,hg,_,hat⟩:=run_append_own_at (P:=P) W base t o.type e i0 z size bytes ht hi hz0 hz1 hz2 hz hs0 v n xs HO ⟨b,0,none⟩ 1 1 ys (by rw[hys];simp)
  (by simpa using World.news_of_block (cs:=ys.toArray) (t:=e) (fr:=(0,0)) hbk) h1 (by simp only[maxLen];omega) hl hbase
 unfold Oper.wp execOp;simp only[ho,resolve,invoke,builtin,Sem.run_bind,Sem.run_pure,Result.andThen_ok,List.map_toArray,List.map_cons,List.map_nil,hs,hx,hr];refine h v1 w1 hown hg ?_;rcases hat with hat|hat
 · exact .inl hat
 · exact .inr ⟨_,hat,Nat.le_refl _⟩
theorem N_append_at {α:Type} (d:Kd α) {W:World} (base:Nat) (hw:Region.wanted o (yielded ops a.tmps)=true) (s x:Operand) (t e:TypeId) (z:Value) (bytes:Nat)
 (ho:o.op= .call {callee:= .builtin .append,args:=#[s,x],argTypes:=#[t,t]})
 (ht:P.underlying t=some (.slice e)) (hinfo:(P.info? e).map (fun i=>(i.zero,i.size,i.bytes))=some (some z,d.sz,bytes)) (hz:z.cells.size=d.sz) (hs0:0<d.sz) (hb0:0<bytes)
 (v:Value) (xs:List α) (p:α) (cs:List Value) (b:Nat) (ok okp:Nat→Prop) (hs:a.eval s=v) (hx:a.eval x= .slice (some ⟨b,0,none⟩) 1 1) (hbk:W.heap[b]? =some (.cells cs.toArray e (0,0)))
 (hp:Kd.FK d W okp p cs) (hokp:∀k,okp k→ok k∧some k≠v.ownBlock) (hfresh:∀k,W.heap.size≤k→ok k)
 (HO:Kd.N d e W base ok v xs) (hbase:base≤W.heap.size) (hl:(xs.length+1)*bytes≤140737488355328)
 (h:∀v1 w1,Kd.N d e w1 base ok v1 (xs++[p])→W.grownBy w1 v.ownBlock→(v1.ownBlock=v.ownBlock∨∃b,v1.ownBlock=some b∧W.heap.size≤b)→K (a.put o.dst v1) w1):
 if Region.wanted o (yielded ops a.tmps)=true then Oper.wp P o a W K Q else K (a.put o.dst undef) W:=by
 obtain⟨h0,rows,hlr,hR,hf⟩:=HO;obtain⟨r0,inner,hown,hr⟩:=Kd.raw_any hR;refine step_append_at base hw s x t e z d.sz bytes ho ht hinfo hz hs0 hb0 v rows.length inner cs b hs hx (d.K_len (Kd.FK_now hp)) (d.K_one (Kd.FK_now hp)) hbk hown hbase (by rw[hlr];exact hl) ?_;intro v1 w1 hown1 hg1 hat1
 exact h v1 w1 (Kd.N_appended h0 hlr hf (ys:=[p]) (news:=[cs]) rfl (fun j y c hy hc=>by
  rcases j with _|j
  · simp only[List.getElem?_cons_zero,Option.some.injEq]at hy hc
    rw[← hy,← hc];exact hp
  · simp at hy) hokp hfresh (Kd.R_appended (d:=Kd.raw d.sz) (ok:=fun _=>True) (okp:=fun _=>False) r0 hr (Kd.FK_raw hp) (fun _ hk=>hk.elim) (fun _ _=>trivial) hown1 hg1 hat1) hg1 hat1) hg1 hat1
theorem N_store_step {α:Type} (d:Kd α) {W:World} (hw:Region.wanted o (yielded ops a.tmps)=true) (hN:o.dst=none) (t:TypeId) (p x:Operand) (ho:o.op= .store t p x) (e base:Nat) {g n cap o':Nat} (i:Nat) (xs:List α) (x':α) (u:Value) (seg:List Value) (ok okp:Nat→Prop)
 (haddr:a.eval p= .pointer (some ⟨g,o',none⟩)) (hoff:o'=i*d.sz) (hx:a.eval x=u) (hu:u.cells.toList=seg) (ht:(P.info? t).map (·.size)=some d.sz)
 (HO:Kd.N d e W base ok (.slice (some ⟨g,0,none⟩) n cap) xs) (hi:i<n) (hp:Kd.FK d W okp x' seg) (hokp:∀k,okp k→ok k∧k≠g)
 (h:∀w1,Kd.N d e w1 base ok (.slice (some ⟨g,0,none⟩) n cap) (xs.set i x')→W.grownBy w1 (some g)→K a w1):
 if Region.wanted o (yielded ops a.tmps)=true then Oper.wp P o a W K Q else K (a.put none undef) W:=by
 have hsl:seg.length=d.sz:=d.K_len (Kd.FK_now hp);have hn:=(Kd.N_reads' HO).1;obtain⟨q,hq⟩:∃q,xs[i]? =some q:=⟨_,List.getElem?_eq_getElem (by omega)⟩;obtain⟨c,hcl,_,hcc,_⟩:=Kd.N_elem HO q (i:Int) (by omega) (by omega);simp only[Int.toNat_natCast]at hcc
 have hM:Kd.FK d W okp x' (c.take 0++seg++c.drop (0+seg.length)):=by
  rw[List.take_zero,List.nil_append,Nat.zero_add,List.drop_of_length_le (by omega),List.append_nil];exact hp
 obtain⟨hrow,hg⟩:=Kd.N_seg HO (i:Int) (by omega) (by omega) (j:=0) (seg:=seg) hcl (by simpa using hcc) (by omega) hM hokp;simp only[Int.toNat_natCast,Nat.add_zero]at hrow hg;subst hoff;rw[if_pos hw]
 have hrun:(Instr.storeAt t (.pointer (some ⟨g,i*d.sz,none⟩)) u).run P W= .ok () (W.setCells g (i*d.sz) seg):=by
  obtain⟨_,rows,hlr,hR,_⟩:=HO;obtain⟨_,inner,hown,hr⟩:=hR;rcases hown.2 with⟨hv,_⟩|⟨g',cap',cur,hv,hb,hh,hnc,hcm,hcs,_⟩
  · cases hv
  injection hv with ha _ hc
  injection ha with ha
  injection ha with hg'
  subst hg';subst hc;have e0:cur.size=cap*d.sz:=hcs;refine run_store_run t u seg hh hu (by rw[hsl];exact ht) ?_ (d.K_one (Kd.FK_now hp));have h2:i*d.sz+d.sz≤n*d.sz:=by rw[← Nat.succ_mul];exact Nat.mul_le_mul_right _ hi
  have h3:n*d.sz≤cap*d.sz:=Nat.mul_le_mul_right _ (by omega);omega
 unfold Oper.wp execOp;simp only[ho,haddr,hx,Sem.run_bind,Sem.run_pure,Result.andThen_ok,hrun];show K (a.put o.dst undef) _;rw[hN];exact h _ hrow hg
end
end Go.Proofs.YtbemddpmohoooaaGreatDoor
