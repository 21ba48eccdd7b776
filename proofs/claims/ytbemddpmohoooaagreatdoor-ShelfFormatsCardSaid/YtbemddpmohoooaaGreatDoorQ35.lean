import Derived.Test.YtbemddpmohoooaaGreatDoorQ34
set_option linter.unusedVariables false
set_option linter.unusedSimpArgs false
set_option linter.unusedSectionVars false
set_option maxHeartbeats 128000000
set_option maxRecDepth 100000
namespace Go.Proofs.YtbemddpmohoooaaGreatDoor
open PShelfFormats RowKit YtbemddpmohoooaaGreatDoorW YtbemddpmohoooaaGreatDoorW.PrintWords
inductive SC:Int→Int→Nat→Bool→Bool→Bool→Nat→Nat→Prop
 |set:SC 1 1 1 true false false 0 0
 |put:SC 2 2 2 true false false 0 0
 |del:SC 3 1 1 true false false 0 0
 |clr:SC 4 0 0 true false false 0 0
 |prt (m:Nat):SC 5 (-1) m false false false 0 0
 |if0:SC 6 1 1 false true false 0 0
 |if1 (b:Nat):(0:Int)<(b:Int)→SC 6 1 1 false true false b 0
 |if2 (e:Nat):(0:Int)<(e:Int)→SC 6 1 1 false true false 0 e
 |if3 (b e:Nat):(0:Int)<(b:Int)→(0:Int)<(e:Int)→SC 6 1 1 false true false b e
 |wh0:SC 7 1 1 false true false 0 0
 |wh1 (b:Nat):(0:Int)<(b:Int)→SC 7 1 1 false true false b 0
 |rg0:SC 8 0 0 true true true 0 0
 |rg1 (b:Nat):(0:Int)<(b:Int)→SC 8 0 0 true true true b 0
 |brk:SC 9 0 0 false false false 0 0
 |cnt:SC 10 0 0 false false false 0 0
theorem SC.forms {K P:Int} {m nb ne:Nat} {N Bd Bt:Bool} (h:SC K P m N Bd Bt nb ne) {w:World} (g:GA w):
 w.cell? ⟨2,K.toNat*4,none⟩=some (.int .i64 P)∧w.cell? ⟨2,K.toNat*4+1,none⟩=some (.bool N)∧w.cell? ⟨2,K.toNat*4+2,none⟩=some (.bool Bd)∧w.cell? ⟨2,K.toNat*4+3,none⟩=some (.bool Bt):=by
 cases h<;>exact⟨g.sf _ _ rfl,g.sf _ _ rfl,g.sf _ _ rfl,g.sf _ _ rfl⟩
theorem fs_walk (K P:Int) (m nb ne:Nat) (N Bd Bt:Bool) (s1 s2 s3:Bs) (xs:List S80) (b e:List S62) (hc:SC K P m N Bd Bt nb ne) (h1:Nmd s1 N) (h2:Nmd s2 Bt) (h3:Nmd s3 Bt)
 (hxl:xs.length=m) (hm8:m≤8000000) (hbl:b.length=nb) (hel:e.length=ne) (hx:∀x∈xs,FX x) (hB:FSs b) (hE:FSs e):FS ⟨K,s1,s2,s3,xs,b,e⟩:=by
 intro V W A4 c4 A5 c5 A6 c6 hG hV VV;obtain⟨l4,g4,l5,g5,l6,g6⟩:=VV;have hl:xs.length≤c4:=l4;have hC:Kd.C k80 V A4 xs.length xs:=g4;have BC:=η (fun(w':World) (H:Below V.heap.size V w')=>hB V w' A5 c5 hG H l5 g5);have EC:=η (fun(w':World) (H:Below V.heap.size V w')=>hE V w' A6 c6 hG H l6 g6);have NC:=η (fun(w':World) (g:WordsAt w')=>named_call s1 N h1 w' g);have KC:=η (fun(w':World) (g:WordsAt w')=>named_call s2 Bt h2 w' g);have LC3:=η (fun(w':World) (g:WordsAt w')=>named_call s3 Bt h3 w' g);have L0:=η (show ∀w5,FeLoop xs w5 (m+1) (.int .i64 0) w5 from fun w5=>⟨[],xs,rfl,rfl,hx,by omega,Below.refl _ _⟩);have LS:=η hxl;have FM:=η (fun(w':World) (g:GA w')=>hc.forms g);have GW:=η (fun(w':World) (H:Below V.heap.size V w')=>hG.step H hG.lt);have GV:=η hG;replace hV:=η hV;rw[hxl]at hC hl;rw[hbl]at BC;rw[hel]at EC;replace hC:=η hC;replace hl:=η hl;replace hm8:=η hm8;show Calls Tryz.prog 81 #[.agg #[.int .i64 K,.string s1,.string s2,.string s3,.slice A4 xs.length c4,.slice A5 b.length c5,.slice A6 e.length c6]] W _;rw[hxl,hbl,hel];clear hxl hbl hel hG h1 h2 h3 hx hB hE l4 g4 l5 g5 l6 g6;go_enter Tryz.func81,Tryz.ntmps81;go_upto_region 1 with(first|((with_reducible refine gate_dst (N:=1) rfl ?_);refine bxE (N:=1) (cs:=#[.int .i64 K,.string s1,.string s2,.string s3,.slice A4 m c4,.slice A5 nb c5,.slice A6 ne c6]) (t:=62) ?_;intro g hg w4 hbox hb4))
 have V4:=η (hV.out.trans (hb4.mono hV.out.size));have G4:=η (GW.out w4 V4.out);obtain⟨g0,g1,g2,g3⟩:=FM.out w4 G4.out;obtain⟨e0,e1,e2,e3,e4,e5,e6,ef⟩:=heap7 hbox;have x5:=heap7 (alloc_old hbox (.cells #[.int .i64 P,.bool N,.bool Bd,.bool Bt] 127));have f5:=heap4 (alloc_new w4 (.cells #[.int .i64 P,.bool N,.bool Bd,.bool Bt] 127));have B5:=η (hb4.alloc hb4.size (.cells #[.int .i64 P,.bool N,.bool Bd,.bool Bt] 127));have V5:=η (V4.out.alloc V4.out.size (.cells #[.int .i64 P,.bool N,.bool Bd,.bool Bt] 127));have KX:=η (show ∀w',Below (w4.alloc (.cells #[.int .i64 P,.bool N,.bool Bd,.bool Bt] 127)).heap.size (w4.alloc (.cells #[.int .i64 P,.bool N,.bool Bd,.bool Bt] 127)) w'→w'.heap[g]? =some (.cells #[.int .i64 K,.string s1,.string s2,.string s3,.slice A4 m c4,.slice A5 nb c5,.slice A6 ne c6] 62 (0,0)) from fun w' H=>(Turn.new H).heap (alloc_old hbox _) (fun z=>z));generalize hw5:w4.alloc (.cells #[.int .i64 P,.bool N,.bool Bd,.bool Bt] 127)=w5 at x5 f5 B5 V5 KX;replace hw5:=η hw5;replace x5:=η x5;replace f5:=η f5;have G5:=η (GW.out w5 V5.out).ws;clear hbox hb4 FM V4 G4 GW;subst hg;cases hc
 all_goals
  simp only[Int.reduceToNat,Int.toNat_one,Nat.reduceMul,Nat.reduceAdd]at g0 g1 g2 g3;go_upto_region 4 with fail
  rw[hw5.out];clear e0 e1 e2 e3 e4 e5 e6 ef g0 g1 g2 g3 hw5;obtain⟨e0,e1,e2,e3,e4,e5,e6,ef⟩:=x5.out;obtain⟨g0,g1,g2,g3,gf⟩:=f5.out;clear ef gf x5 f5;generalize w4.heap.size=b5 at*;go_upto_region 9 with(first|(go_at_call 97;refine(NC.out _ G5.out).mono ?_;rintro e_ w' ⟨rfl,h⟩;obtain rfl:=h.symm;clear NC)|(go_at_call 97;refine(KC.out _ G5.out).mono ?_;rintro e_ w' ⟨rfl,h⟩;obtain rfl:=h.symm;clear KC)|(go_at_call 97;refine(LC3.out _ G5.out).mono ?_;rintro e_ w' ⟨rfl,h⟩;obtain rfl:=h.symm;clear LC3))
  clear e0 e1 e2 e3 e5 e6 g0 g1 g2 g3;go_loopg [5,76] (xs.length+1) (fun kq v5 v76 w=>FeLoop xs w5 kq v76 w)
  case atStart=>
   rw[LS.out];exact L0.out w5
  case round=>
   clear e4 L0;obtain⟨p,r,rfl,hp,hr,hk,X1⟩:=hrel;cases r with
   |nil=>
    have hpl:xs.length=p.length:=by rw[hp];simp
    have hnl:¬(p.length:Int)<(xs.length:Int):=by omega
    rw[LS.out]at hnl;have X2:=η (Below.trans B5.out (X1.mono B5.out.size));have V2:=η (V5.out.trans (X1.mono V5.out.size));obtain⟨e0,e1,e2,e3,e4,e5,e6,ef⟩:=heap7 (KX.out _ X1);have C1:=η (BC.out wr V2.out)
    have EX6:=η (show ∀w',Below wr.heap.size wr w'→w'.cell? ⟨W.heap.size,6,none⟩=wr.cell? ⟨W.heap.size,6,none⟩ from fun w' H=>by
     rw[e6];exact(heap7 (KX.out _ (X1.trans (H.mono X1.size)))).2.2.2.2.2.2.1)
    clear hp hr X1 hpl e0 e1 e2 e3 e4 ef KX BC;go_wp2_with(first|(go_at_call 49;refine C1.out.mono ?_;rintro e_ w8 ⟨rfl,H8⟩;have X8:=η (below_step X2.out H8);have C2:=η (EC.out w8 (V2.out.trans (H8.mono V2.out.size)));have e6:=(EX6.out w8 H8).trans e6;clear C1 H8 X2 V2 EX6)|(go_at_call 49;refine C2.out.mono ?_;rintro e_ w9 ⟨rfl,H9⟩;have X9:=η (below_step X8.out H9);clear H9 X8 C2))
    go_ret;exact⟨rfl,X9.out⟩
   |cons x r=>
    have hpl:xs.length=p.length+(r.length+1):=by rw[hp];simp
    have hlm:=LS.out;have hm9:=hm8.out
    try(exfalso;omega)
    all_goals
     have hlt:(p.length:Int)<(xs.length:Int):=by omega
     have hp0:(0:Int)≤(p.length:Int):=by omega
     have hp1:(p.length:Int)<1000000000:=by omega
     rw[LS.out]at hlt;have hVr:=V5.out.trans (X1.mono V5.out.size);obtain⟨ad,A1,c1,eA,y0,y1,y2,y3,y4,l4,g4⟩:=at_T80 hC.out (p.length:Int) hp0 hlt
     have hrd:rd_T80 xs (p.length:Int)=x:=by
      unfold rd_T80;rw[Int.toNat_natCast,List.getD_eq_getElem?_getD,hp];simp
     rw[hrd]at y0 y1 y2 y3 y4 l4 g4;subst eA;have tc:∀{p:Addr} {v:Value},V.cell? p=some v→wr.cell? p=some v:=fun hv=>((Turn.of_below (F:=fun _=>False) hVr (Nat.le_refl _)).cell hv (fun z=>z))
     have z0:=tc y0;have z1:=tc y1;have z2:=tc y2;have z3:=tc y3;have z4:=tc y4;have LC:=η (fun(w':World) (H:Below wr.heap.size wr w')=>hr x (List.mem_cons_self ..) V w' A1 c1 GV.out (hVr.trans (H.mono hVr.size)) l4 g4)
     have REL:=η (show ∀(w':World),Below wr.heap.size wr w'→FeLoop xs w5 (r.length+1) (.int .i64 ((p.length:Int)+1)) w' from
      fun w' q2=>⟨p++[x],r,by simp,by rw[hp];simp,fun y hy=>hr y (List.mem_cons_of_mem _ hy),by omega,X1.trans (q2.mono X1.size)⟩)
     have hmeas:r.length+1<gk:=by simp only[List.length_cons]at hk;omega
     clear hp hrd hpl hk hr y0 y1 y2 y3 y4 tc X1 l4 g4 hVr hlm hm9;generalize(p.length:Int)=pl at*;go_upto_region 11 with fail
     have e7:=heap5 (alloc_new wr (.cells #[.int .i64 x.f0,.int .i64 x.f1,.string x.f2,.string x.f3,.slice A1 x.f4.length c1] 80));have h7:=η (Below.alloc (Below.refl wr.heap.size wr) (Nat.le_refl _) (.cells #[.int .i64 x.f0,.int .i64 x.f1,.string x.f2,.string x.f3,.slice A1 x.f4.length c1] 80));have L7:=η (LC.out _ h7.out);clear LC z0 z1 z2 z3 z4;generalize wr.alloc (.cells #[.int .i64 x.f0,.int .i64 x.f1,.string x.f2,.string x.f3,.slice A1 x.f4.length c1] 80)=w7 at*;obtain⟨e0,e1,e2,e3,e4,ef⟩:=e7;clear ef;go_wp2_with(first|(go_at_call 98;refine L7.out.mono ?_;rintro e_ w8 ⟨rfl,H8⟩;have X9:=η (below_step h7.out H8);clear H8))
     go_roundg (r.length+1)
     case measure=>exact hmeas
     case rel=>
      have q:=REL.out _ X9.out;simpa using q
end Go.Proofs.YtbemddpmohoooaaGreatDoor
