import Derived.Test.YtbemddpmohoooaaGreatDoorQ13
import Derived.Test.YtbemddpmohoooaaGreatDoorQ14
import Derived.StillTailTactics
set_option linter.unusedVariables false
set_option linter.unusedSimpArgs false
set_option linter.unusedSectionVars false
set_option maxHeartbeats 128000000
set_option maxRecDepth 100000
namespace Go.Proofs.YtbemddpmohoooaaGreatDoor
open PShelfFormats RowKit YtbemddpmohoooaaGreatDoorW.PrintWords
theorem ix0:∀w,(Instr.index 123 (.agg #[.string ⟨#[45]⟩,.string ⟨#[33]⟩]) (.int .i64 0)).run Tryz.prog w= .ok (.string ⟨#[45]⟩) w:=fun _=>by kernel_rfl
theorem ix1:∀w,(Instr.index 123 (.agg #[.string ⟨#[45]⟩,.string ⟨#[33]⟩]) (.int .i64 1)).run Tryz.prog w= .ok (.string ⟨#[33]⟩) w:=fun _=>by kernel_rfl
theorem ret80_one {fn:Func} {R:Ending→World→Prop} {tmps:Array Value} {w:World} {b:Nat} {a0 a1 a2 a3 a4:Value} {ok ok':Nat→Prop} {x y:S80} {A:Option Addr} {c:Nat} (t:Tmp) (hr:fn.results=#[.cell t 80]) (ht:tmps[t]? =some (.pointer (some ⟨b,0,none⟩)))
 (h:w.heap[b]? =some (.cells #[a0,a1,a2,a3,a4] 80 (0,0))) (V:VX w ok x A c) (hb:¬ok b) (hy:y.f4=[x]) (hok:∀k,(ok k∧k<w.heap.size)∨k=w.heap.size→ok' k)
 (hR:∀W:World,VX W ok' y (some ⟨w.heap.size,0,none⟩) 1→Turn (fun k=>k=b) w W→R (.returned (.agg #[.int .i64 y.f0,.int .i64 y.f1,.string y.f2,.string y.f3,.slice (some ⟨w.heap.size,0,none⟩) y.f4.length 1])) W):
 bodyPost Tryz.prog fn R Exit.ret {tmps:=tmps,defers:=[]} ((((((w.setCell ⟨b,0,none⟩ (.int .i64 y.f0)).setCell ⟨b,1,none⟩ (.int .i64 y.f1)).setCell ⟨b,2,none⟩ (.string y.f2)).setCell ⟨b,3,none⟩ (.string y.f3)).setCell ⟨b,4,none⟩ (.slice (some ⟨w.heap.size,0,none⟩) 1 1)).alloc (bx x A c)):=by
 obtain⟨s1,s2⟩:=set5 h (.int .i64 y.f0) (.int .i64 y.f1) (.string y.f2) (.string y.f3) (.slice (some ⟨w.heap.size,0,none⟩) 1 1);have h1:=V.turn s2 (fun k hk=>by rw[hk];exact hb);have hsz:(((((w.setCell ⟨b,0,none⟩ (.int .i64 y.f0)).setCell ⟨b,1,none⟩ (.int .i64 y.f1)).setCell ⟨b,2,none⟩ (.string y.f2)).setCell ⟨b,3,none⟩ (.string y.f3)).setCell ⟨b,4,none⟩ (.slice (some ⟨w.heap.size,0,none⟩) 1 1)).heap.size=w.heap.size:=by simp
 have h2:=lit1 (ok':=ok') h1 (by rw[hsz];exact hok);rw[hsz,← hy]at h2;have hV:VX _ ok' y (some ⟨w.heap.size,0,none⟩) 1:=⟨by rw[hy];simp,by rw[hy]at h2⊢;exact h2⟩;have hR:=hR _ hV (s2.alloc _);have s1:=alloc_old s1 (bx x A c);rw[hy]at hR;generalize((((((w.setCell ⟨b,0,none⟩ (.int .i64 y.f0)).setCell ⟨b,1,none⟩ (.int .i64 y.f1)).setCell ⟨b,2,none⟩ (.string y.f2)).setCell ⟨b,3,none⟩ (.string y.f3)).setCell ⟨b,4,none⟩ (.slice (some ⟨w.heap.size,0,none⟩) 1 1)).alloc (bx x A c))=W at*;obtain⟨b0,b1,b2,b3,b4,bf⟩:=heap5 s1;exact bodyPost_ret (v:= .agg #[.int .i64 y.f0,.int .i64 y.f1,.string y.f2,.string y.f3,.slice (some ⟨w.heap.size,0,none⟩) 1 1]) (by simp[results,hr,ht,go_sem,b0,b1,b2,b3,b4]) rfl hR
theorem VX.nil {w:World} {ok:Nat→Prop} {x:S80} (hx:x.f4=[]):VX w ok x none 0:=⟨by rw[hx];exact Nat.le_refl _,by rw[hx];exact Kd.F_nil _ _ _⟩
theorem un_neg (k:Nat) (UN:UnAt k) (l:List S42) (o:Except (Int×Int) (S80×List S42)) (w:World) (n g:Nat) (hm:isM (hd l) [45]) (h:pbind (pUn k) (fun x=>pok (xUn ⟨#[45]⟩ x)) l.tail=some o) (R:Rd w n g l) (hn:n≤w.heap.size):
 Calls Tryz.prog 79 #[.pointer (some ⟨g,0,none⟩)] w (ExPost w n g o):=by
 have hg:=Nat.lt_of_lt_of_le R.gn hn;have T0:=η ((Turn.refl (fun k=>k=g) w).alloc box80);have HB:=η (alloc_new w box80);have G1:=η (got_yes (R.al hn box80) ⟨#[45]⟩ (isM_lit hm));have H:=pbind_cases h;have j0:=ix0;have j1:=ix1;clear R h hm;go_enter Tryz.func79,Tryz.ntmps79;go_wp2_with fail
 refine wp_loop_rounds 1 ?_;rw[rounds_succ];go_wp2_with fail
 refine G1.out.mono ?_;rintro e w1 ⟨rfl,R1,T1⟩;have hs1:=T1.size;simp at hs1;have B1:=η (T1.heap HB.out (fun z=>by omega));go_wp2_with fail
 rcases H with⟨er,h1,rfl⟩|⟨x,l2,h1,h2⟩
 · refine(UN l.tail _ w1 n g h1 R1 (by omega)).mono ?_
   rintro e w2 ⟨rfl,T2⟩;go_wp2_with fail
   exact⟨rfl,rfl,(T0.out.then T1 (fun i hi=> .inl hi)).then T2 (fun i hi=> .inl hi)⟩
 refine(UN l.tail _ w1 n g h1 R1 (by omega)).mono ?_;rintro e w2 ⟨A,c,rfl,V,R2,T2⟩;obtain rfl:=Option.some.inj h2;have hs2:=T2.size;have B2:=η (T2.heap B1.out (fun z=>by omega));obtain⟨b0,b1,b2,b3,b4,bf⟩:=heap5 B2.out;have hlt:w.heap.size<w2.heap.size:=by omega
 clear h1 h2;go_wp2_with fail
 refine ret80_one (y:=xUn ⟨#[45]⟩ x) (ok':=fun k=>w.heap.size≤k) 2 rfl rfl B2.out V (show ¬w1.heap.size≤w.heap.size by omega) rfl (fun k hk=>by omega) (fun W V' s2=> ?_);exact⟨_,_,rfl,V',R2.turn s2 (by omega) (fun k hk=>by omega),((T0.out.then T1 (fun i hi=> .inl hi)).then T2 (fun i hi=> .inl hi)).then s2 (fun i hi=> .inr (by omega))⟩
theorem un_not (k:Nat) (UN:UnAt k) (l:List S42) (o:Except (Int×Int) (S80×List S42)) (w:World) (n g:Nat) (hm0:¬isM (hd l) [45]) (hm:isM (hd l) [33]) (h:pbind (pUn k) (fun x=>pok (xUn ⟨#[33]⟩ x)) l.tail=some o) (R:Rd w n g l) (hn:n≤w.heap.size):
 Calls Tryz.prog 79 #[.pointer (some ⟨g,0,none⟩)] w (ExPost w n g o):=by
 have hg:=Nat.lt_of_lt_of_le R.gn hn;have T0:=η ((Turn.refl (fun k=>k=g) w).alloc box80);have HB:=η (alloc_new w box80);have G1:=η (got_yes (R.al hn box80) ⟨#[33]⟩ (isM_lit hm));have H:=pbind_cases h;have j0:=ix0;have j1:=ix1;have N1:=η (got_no (R.al hn box80) ⟨#[45]⟩ (notM_lit hm0));clear R h hm hm0;go_enter Tryz.func79,Tryz.ntmps79;go_wp2_with fail
 refine wp_loop_rounds 2 ?_;rw[rounds_succ];go_wp2_with fail
 refine N1.out.mono ?_;rintro e w' ⟨rfl,rfl⟩;go_wp2_with fail
 rw[rounds_succ];go_wp2_with fail
 refine G1.out.mono ?_;rintro e w1 ⟨rfl,R1,T1⟩;have hs1:=T1.size;simp at hs1;have B1:=η (T1.heap HB.out (fun z=>by omega));go_wp2_with fail
 rcases H with⟨er,h1,rfl⟩|⟨x,l2,h1,h2⟩
 · refine(UN l.tail _ w1 n g h1 R1 (by omega)).mono ?_
   rintro e w2 ⟨rfl,T2⟩;go_wp2_with fail
   exact⟨rfl,rfl,(T0.out.then T1 (fun i hi=> .inl hi)).then T2 (fun i hi=> .inl hi)⟩
 refine(UN l.tail _ w1 n g h1 R1 (by omega)).mono ?_;rintro e w2 ⟨A,c,rfl,V,R2,T2⟩;obtain rfl:=Option.some.inj h2;have hs2:=T2.size;have B2:=η (T2.heap B1.out (fun z=>by omega));obtain⟨b0,b1,b2,b3,b4,bf⟩:=heap5 B2.out;have hlt:w.heap.size<w2.heap.size:=by omega
 clear h1 h2;go_wp2_with fail
 refine ret80_one (y:=xUn ⟨#[33]⟩ x) (ok':=fun k=>w.heap.size≤k) 2 rfl rfl B2.out V (show ¬w1.heap.size≤w.heap.size by omega) rfl (fun k hk=>by omega) (fun W V' s2=> ?_);exact⟨_,_,rfl,V',R2.turn s2 (by omega) (fun k hk=>by omega),((T0.out.then T1 (fun i hi=> .inl hi)).then T2 (fun i hi=> .inl hi)).then s2 (fun i hi=> .inr (by omega))⟩
theorem un_num (k:Nat) (l:List S42) (o:Except (Int×Int) (S80×List S42)) (w:World) (n g:Nat) (hm1:¬isM (hd l) [45]) (hm2:¬isM (hd l) [33]) (hm3:(hd l).f2=57) (h:pnum l=some o) (R:Rd w n g l) (hn:n≤w.heap.size):
 Calls Tryz.prog 79 #[.pointer (some ⟨g,0,none⟩)] w (ExPost w n g o):=by
 have hg:=Nat.lt_of_lt_of_le R.gn hn;have T0:=η ((Turn.refl (fun k=>k=g) w).alloc box80);have HB:=η (alloc_new w box80);have HS:=η (show(w.alloc box80).heap.size=w.heap.size+1 by simp);have R0:=R.al hn box80;have N1:=η (got_no R0 ⟨#[45]⟩ (notM_lit hm1));have N2:=η (got_no R0 ⟨#[33]⟩ (notM_lit hm2));obtain⟨b,ofs,q,cc,z1,z2,z3,z4,c0,f0,t0,t1,t2,hadv⟩:=R0.cells;have z5:0<q+1:=by omega
 obtain⟨y1,hadv⟩:=hadv (.inr (.inr hm3));have hcut:=cut1 b ofs q cc y1 z4 z3;have k3:(kd (hd l).f2==3)=true:=by rw[beq_iff_eq];exact kd_eq.2.2.1.2 hm3
 obtain⟨u1,u2,u3⟩:=(R0.tk.2 (hd l) (by have:=R0.wf.cons;rw[this];exact List.mem_cons_self)).num hm3;obtain⟨_,_,ev,ev1,ev2⟩:=R0.er;have HADV:=η hadv;have HF:=η (fail_call R0 161);have HR0:=η R0;unfold pnum at h;obtain⟨nv,hnv⟩:∃v,v=numOf (hd l).f0.toList:=⟨_,rfl⟩;rw[← hnv]at h;have HO:=η h;have NO:=η (fun v (e:nv=some v)=>num_ok (w:=w.alloc box80) u1 u2 u3 (hnv.symm.trans e));have NR:=η (fun(e:nv=none)=>num_range (w:=w.alloc box80) u1 u2 u3 (hnv.symm.trans e) ev1 ev2);clear hnv hadv u1 u2 u3 ev1 ev2 R0;generalize kd (hd l).f2=kk at*;have j0:=ix0;have j1:=ix1;clear R h hm1 hm2 hm3;go_enter Tryz.func79,Tryz.ntmps79;go_wp2_with fail
 generalize w.alloc box80=w0 at*;obtain⟨b2,hb2⟩:∃b,b=w.heap.size:=⟨_,rfl⟩;rw[← hb2]at HB HS;rw[← hb2];have HB2:=η hb2;have hw0:b2<w0.heap.size:=by have:=HS.out;omega
 have hwn:n≤w0.heap.size:=by have:=HS.out;omega
 have hgb:g<b2:=by omega
 clear hb2;refine wp_loop_rounds 3 ?_;rw[rounds_succ];go_wp2_with fail
 refine N1.out.mono ?_;rintro e w' ⟨rfl,rfl⟩;go_wp2_with fail
 rw[rounds_succ];go_wp2_with fail
 refine N2.out.mono ?_;rintro e w' ⟨rfl,rfl⟩;go_wp2_with fail
 rw[rounds_succ];go_wp2_with fail
 cases nv with
 |none=>
  refine(NR.out rfl).mono ?_;rintro e w1 ⟨v,p,rfl,T1⟩;have hs1:=T1.size;have R1:=HR0.out.turn T1 hwn (fun _ z=>z.elim);have HF2:=η (fail_call R1 161);go_wp2_with fail
  refine HF2.out.mono ?_;rintro e w' ⟨rfl,rfl⟩;go_wp2_with fail
  obtain rfl:=Option.some.inj HO.out;exact⟨rfl,rfl,T0.out.then (T1.mono (G:=fun k=>k=g) (fun _ _ z=>z.elim)) (fun i hi=> .inl hi)⟩
 |some v=>
  refine(NO.out v rfl).mono ?_;rintro e w1 ⟨rfl,T1⟩;have hs1:=T1.size;have B1:=η (T1.heap HB.out (fun z=>z));have c0:=T1.cell c0 (fun z=>z)
  have f1:∀i,w1.frozen? ⟨g,i,none⟩=false:=fun i=>by
   have:=f0 i;have e:=T1.block g (by omega) (fun z=>z);simpa[World.frozen?,e]using this
  obtain⟨d0,d1,d2,d3,d4,df⟩:=heap5 B1.out;have hne:g≠b2:=by omega
  clear f0;go_wp2_with fail
  obtain rfl:=Option.some.inj HO.out;have B2:=(turn_g (w:=w1) g (.slice (some ⟨b,ofs+3,none⟩) q (cc-1))).heap B1.out (fun z=>by omega);have R2:=HADV.out w1 (fun k hk=>T1.block k (by omega) (fun z=>z));have T2:=(T0.out.then (T1.mono (G:=fun k=>k=g) (fun _ _ z=>z.elim)) (fun i hi=> .inl hi)).then (turn_g (w:=w1) g (.slice (some ⟨b,ofs+3,none⟩) q (cc-1))) (fun i hi=> .inl hi);have hsz:(w1.setCell ⟨g,0,none⟩ (.slice (some ⟨b,ofs+3,none⟩) q (cc-1))).heap.size=w1.heap.size:=by simp
  generalize w1.setCell ⟨g,0,none⟩ (.slice (some ⟨b,ofs+3,none⟩) q (cc-1))=w2 at*;have h1:=HB2.out;exact ret80 2 rfl rfl B2 (fun W s1 s2=>⟨none,0,rfl,VX.nil rfl,R2.turn s2 (by omega) (fun k hk=>by omega),T2.then s2 (fun i hi=> .inr (by omega))⟩)
theorem un_par (k:Nat) (l:List S42) (o:Except (Int×Int) (S80×List S42)) (w:World) (n g:Nat) (IH:ExAt k) (hm1:¬isM (hd l) [45]) (hm2:¬isM (hd l) [33]) (hm3:(hd l).f2≠57) (hm4:isM (hd l) [40]) (h:pbind (pExpr k 0) (fun x=>pbind (ptok [41]) (fun _=>pok x)) l.tail=some o) (R:Rd w n g l) (hn:n≤w.heap.size):
 Calls Tryz.prog 79 #[.pointer (some ⟨g,0,none⟩)] w (ExPost w n g o):=by
 have hg:=Nat.lt_of_lt_of_le R.gn hn;have T0:=η ((Turn.refl (fun k=>k=g) w).alloc box80);have HB:=η (alloc_new w box80);have HS:=η (show(w.alloc box80).heap.size=w.heap.size+1 by simp);have R0:=R.al hn box80;have N1:=η (got_no R0 ⟨#[45]⟩ (notM_lit hm1));have N2:=η (got_no R0 ⟨#[33]⟩ (notM_lit hm2));obtain⟨b,ofs,q,cc,z1,z2,z3,z4,c0,f0,t0,t1,t2,hadv⟩:=R0.cells;have z5:0<q+1:=by omega
 have k3:(kd (hd l).f2==3)=false:=by rw[beq_eq_false_iff_ne];exact fun z=>hm3 (kd_eq.2.2.1.1 z)
 generalize kd (hd l).f2=kk at*;have G1:=η (got_yes R0 ⟨#[40]⟩ (isM_lit hm4));have H:=pbind_cases h;clear hadv R0;have j0:=ix0;have j1:=ix1;clear R h hm1 hm2 hm3 hm4;go_enter Tryz.func79,Tryz.ntmps79;go_wp2_with fail
 generalize w.alloc box80=w0 at*;obtain⟨b2,hb2⟩:∃b,b=w.heap.size:=⟨_,rfl⟩;rw[← hb2]at HB HS;rw[← hb2];have HB2:=η hb2;have hw0:b2<w0.heap.size:=by have:=HS.out;omega
 have hwn:n≤w0.heap.size:=by have:=HS.out;omega
 have hgb:g<b2:=by omega
 clear hb2;refine wp_loop_rounds 3 ?_;rw[rounds_succ];go_wp2_with fail
 refine N1.out.mono ?_;rintro e w' ⟨rfl,rfl⟩;go_wp2_with fail
 rw[rounds_succ];go_wp2_with fail
 refine N2.out.mono ?_;rintro e w' ⟨rfl,rfl⟩;go_wp2_with fail
 rw[rounds_succ];go_wp2_with fail
 refine G1.out.mono ?_;rintro e w1 ⟨rfl,R1,T1⟩;have hs1:=T1.size;have B1:=η (T1.heap HB.out (fun z=>by omega));have X1:=T0.out.then T1 (fun i hi=> .inl hi);go_wp2_with fail
 rcases H with⟨er,h1,rfl⟩|⟨x,l2,h1,h2⟩
 · refine(IH 0 l.tail _ w1 n g h1 (by omega) R1 (by omega)).mono ?_
   rintro e w2 ⟨rfl,T2⟩;go_wp2_with fail
   exact⟨rfl,rfl,X1.then T2 (fun i hi=> .inl hi)⟩
 refine(IH 0 l.tail _ w1 n g h1 (by omega) R1 (by omega)).mono ?_;rintro e w2 ⟨A,c,rfl,V,R2,T2⟩;have hs2:=T2.size;have H2:=pbind_cases h2;have B2:=η (alloc_old (alloc_old (T2.heap B1.out (fun z=>by omega)) (bx x A c)) (.cells #[.string ⟨#[41]⟩] 9));have C2:=η (alloc_old (alloc_new w2 (bx x A c)) (.cells #[.string ⟨#[41]⟩] 9));have R3:=(R2.al (by omega) (bx x A c)).al (by simp;omega) (.cells #[.string ⟨#[41]⟩] 9);have V3:=(V.al (bx x A c)).al (.cells #[.string ⟨#[41]⟩] 9);have X2:=((X1.then T2 (fun i hi=> .inl hi)).alloc (bx x A c)).alloc (.cells #[.string ⟨#[41]⟩] 9);clear h1 h2;go_wp2_with fail
 rcases H2 with⟨er,h1,rfl⟩|⟨_,l3,h1,h2⟩
 · refine(skip_tok [41] h1 R3 _ (by simp)).mono ?_
   rintro e w3 ⟨rfl,T3⟩;go_wp2_with fail
   exact⟨rfl,rfl,X2.then T3 (fun i hi=> .inl hi)⟩
 refine(skip_tok [41] h1 R3 _ (by simp)).mono ?_;rintro e w3 ⟨rfl,R4,T3⟩;obtain rfl:=Option.some.inj h2;have hs3:=T3.size;simp at hs3;have B3:=η (T3.heap B2.out (fun z=>by omega));obtain⟨d0,d1,d2,d3,d4,df⟩:=heap5 B3.out;obtain⟨c0,c1,c2,c3,c4,cf⟩:=heap5 (T3.heap C2.out (fun z=>by omega));clear h1 h2 cf;go_wp2_with fail
 have h1:=HB2.out;exact ret80 2 rfl rfl B3.out (fun W s1 s2=>⟨A,c,rfl,((V3.turn T3 (fun k hk=>by omega)).turn s2 (fun k hk=>by omega)).mono (fun k hk=>by omega),R4.turn s2 (by omega) (fun k hk=>by omega),(X2.then T3 (fun i hi=> .inl hi)).then s2 (fun i hi=> .inr (by omega))⟩)
theorem un_has (k:Nat) (l:List S42) (o:Except (Int×Int) (S80×List S42)) (w:World) (n g:Nat) (KEY:KeyAt k) (hm1:¬isM (hd l) [45]) (hm2:¬isM (hd l) [33]) (hm3:(hd l).f2≠57) (hm4:¬isM (hd l) [40]) (hm5:isM (hd l) [104,97,115]) (h:pbind pname (fun s=>pbind (pKey k) (fun x=>pok (xHas s x))) l.tail=some o) (R:Rd w n g l) (hn:n≤w.heap.size):
 Calls Tryz.prog 79 #[.pointer (some ⟨g,0,none⟩)] w (ExPost w n g o):=by
 have hg:=Nat.lt_of_lt_of_le R.gn hn;have T0:=η ((Turn.refl (fun k=>k=g) w).alloc box80);have HB:=η (alloc_new w box80);have HS:=η (show(w.alloc box80).heap.size=w.heap.size+1 by simp);have R0:=R.al hn box80;have N1:=η (got_no R0 ⟨#[45]⟩ (notM_lit hm1));have N2:=η (got_no R0 ⟨#[33]⟩ (notM_lit hm2));obtain⟨b,ofs,q,cc,z1,z2,z3,z4,c0,f0,t0,t1,t2,hadv⟩:=R0.cells;have z5:0<q+1:=by omega
 have k3:(kd (hd l).f2==3)=false:=by rw[beq_eq_false_iff_ne];exact fun z=>hm3 (kd_eq.2.2.1.1 z)
 generalize kd (hd l).f2=kk at*;have N3:=η (got_no R0 ⟨#[40]⟩ (notM_lit hm4));have G1:=η (got_yes R0 ⟨#[104,97,115]⟩ (isM_lit hm5));have H:=pbind_cases h;clear hadv R0;have j0:=ix0;have j1:=ix1;clear R h hm1 hm2 hm3 hm4 hm5;go_enter Tryz.func79,Tryz.ntmps79;go_wp2_with fail
 generalize w.alloc box80=w0 at*;obtain⟨b2,hb2⟩:∃b,b=w.heap.size:=⟨_,rfl⟩;rw[← hb2]at HB HS;rw[← hb2];have HB2:=η hb2;have hw0:b2<w0.heap.size:=by have:=HS.out;omega
 have hwn:n≤w0.heap.size:=by have:=HS.out;omega
 have hgb:g<b2:=by omega
 clear hb2;refine wp_loop_rounds 3 ?_;rw[rounds_succ];go_wp2_with fail
 refine N1.out.mono ?_;rintro e w' ⟨rfl,rfl⟩;go_wp2_with fail
 rw[rounds_succ];go_wp2_with fail
 refine N2.out.mono ?_;rintro e w' ⟨rfl,rfl⟩;go_wp2_with fail
 rw[rounds_succ];go_wp2_with fail
 refine N3.out.mono ?_;rintro e w' ⟨rfl,rfl⟩;go_wp2_with fail
 refine G1.out.mono ?_;rintro e w1 ⟨rfl,R1,T1⟩;have hs1:=T1.size;have B1:=η (T1.heap HB.out (fun z=>by omega));have X1:=T0.out.then T1 (fun i hi=> .inl hi);go_wp2_with fail
 rcases H with⟨er,h1,rfl⟩|⟨s,l2,h1,h2⟩
 · refine(name_tok h1 R1 (by omega)).mono ?_
   rintro e w2 ⟨rfl,T2⟩;go_wp2_with fail
   exact⟨rfl,rfl,X1.then T2 (fun i hi=> .inl hi)⟩
 refine(name_tok h1 R1 (by omega)).mono ?_;rintro e w2 ⟨rfl,R2,T2⟩;have hs2:=T2.size;have B2:=η (T2.heap B1.out (fun z=>by omega));have X2:=X1.then T2 (fun i hi=> .inl hi);have H2:=pbind_cases h2;clear h1 h2;go_wp2_with fail
 rcases H2 with⟨er,h1,rfl⟩|⟨x,l3,h1,h2⟩
 · refine(KEY l2 _ w2 n g h1 R2 (by omega)).mono ?_
   rintro e w3 ⟨rfl,T3⟩;go_wp2_with fail
   exact⟨rfl,rfl,X2.then T3 (fun i hi=> .inl hi)⟩
 refine(KEY l2 _ w2 n g h1 R2 (by omega)).mono ?_;rintro e w3 ⟨A,c,rfl,V,R3,T3⟩;obtain rfl:=Option.some.inj h2;have hs3:=T3.size;have B3:=η (T3.heap B2.out (fun z=>by omega));obtain⟨d0,d1,d2,d3,d4,df⟩:=heap5 B3.out;have hlt:b2<w3.heap.size:=by omega
 clear h1 h2;go_wp2_with fail
 have h1:=HB2.out;refine ret80_one (y:=xHas s x) (ok':=fun k=>w.heap.size≤k) 2 rfl rfl B3.out V (show ¬w2.heap.size≤b2 by omega) rfl (fun k hk=>by omega) (fun W V' s2=> ?_);exact⟨_,_,rfl,V',R3.turn s2 (by omega) (fun k hk=>by omega),(X2.then T3 (fun i hi=> .inl hi)).then s2 (fun i hi=> .inr (by omega))⟩
theorem un_len (k:Nat) (l:List S42) (o:Except (Int×Int) (S80×List S42)) (w:World) (n g:Nat) (hm1:¬isM (hd l) [45]) (hm2:¬isM (hd l) [33]) (hm3:(hd l).f2≠57) (hm4:¬isM (hd l) [40]) (hm5:¬isM (hd l) [104,97,115]) (hm6:isM (hd l) [108,101,110]) (h:pbind pname (fun s=>pok (xLen s)) l.tail=some o) (R:Rd w n g l) (hn:n≤w.heap.size):
 Calls Tryz.prog 79 #[.pointer (some ⟨g,0,none⟩)] w (ExPost w n g o):=by
 have hg:=Nat.lt_of_lt_of_le R.gn hn;have T0:=η ((Turn.refl (fun k=>k=g) w).alloc box80);have HB:=η (alloc_new w box80);have HS:=η (show(w.alloc box80).heap.size=w.heap.size+1 by simp);have R0:=R.al hn box80;have N1:=η (got_no R0 ⟨#[45]⟩ (notM_lit hm1));have N2:=η (got_no R0 ⟨#[33]⟩ (notM_lit hm2));obtain⟨b,ofs,q,cc,z1,z2,z3,z4,c0,f0,t0,t1,t2,hadv⟩:=R0.cells;have z5:0<q+1:=by omega
 have k3:(kd (hd l).f2==3)=false:=by rw[beq_eq_false_iff_ne];exact fun z=>hm3 (kd_eq.2.2.1.1 z)
 generalize kd (hd l).f2=kk at*;have N3:=η (got_no R0 ⟨#[40]⟩ (notM_lit hm4));have N4:=η (got_no R0 ⟨#[104,97,115]⟩ (notM_lit hm5));have G1:=η (got_yes R0 ⟨#[108,101,110]⟩ (isM_lit hm6));have H:=pbind_cases h;clear hadv R0;have j0:=ix0;have j1:=ix1;clear R h hm1 hm2 hm3 hm4 hm5 hm6;go_enter Tryz.func79,Tryz.ntmps79;go_wp2_with fail
 generalize w.alloc box80=w0 at*;obtain⟨b2,hb2⟩:∃b,b=w.heap.size:=⟨_,rfl⟩;rw[← hb2]at HB HS;rw[← hb2];have HB2:=η hb2;have hw0:b2<w0.heap.size:=by have:=HS.out;omega
 have hwn:n≤w0.heap.size:=by have:=HS.out;omega
 have hgb:g<b2:=by omega
 clear hb2;refine wp_loop_rounds 3 ?_;rw[rounds_succ];go_wp2_with fail
 refine N1.out.mono ?_;rintro e w' ⟨rfl,rfl⟩;go_wp2_with fail
 rw[rounds_succ];go_wp2_with fail
 refine N2.out.mono ?_;rintro e w' ⟨rfl,rfl⟩;go_wp2_with fail
 rw[rounds_succ];go_wp2_with fail
 refine N3.out.mono ?_;rintro e w' ⟨rfl,rfl⟩;go_wp2_with fail
 refine N4.out.mono ?_;rintro e w' ⟨rfl,rfl⟩;go_wp2_with fail
 refine G1.out.mono ?_;rintro e w1 ⟨rfl,R1,T1⟩;have hs1:=T1.size;have B1:=η (T1.heap HB.out (fun z=>by omega));have X1:=T0.out.then T1 (fun i hi=> .inl hi);go_wp2_with fail
 rcases H with⟨er,h1,rfl⟩|⟨s,l2,h1,h2⟩
 · refine(name_tok h1 R1 (by omega)).mono ?_
   rintro e w2 ⟨rfl,T2⟩;go_wp2_with fail
   exact⟨rfl,rfl,X1.then T2 (fun i hi=> .inl hi)⟩
 refine(name_tok h1 R1 (by omega)).mono ?_;rintro e w2 ⟨rfl,R2,T2⟩;have hs2:=T2.size;have B2:=η (T2.heap B1.out (fun z=>by omega));have X2:=X1.then T2 (fun i hi=> .inl hi);obtain rfl:=Option.some.inj h2;obtain⟨d0,d1,d2,d3,d4,df⟩:=heap5 B2.out;clear h1 h2;go_wp2_with fail
 have h1:=HB2.out;exact ret80 2 rfl rfl B2.out (fun W s1 s2=>⟨none,0,rfl,VX.nil rfl,R2.turn s2 (by omega) (fun k hk=>by omega),X2.then s2 (fun i hi=> .inr (by omega))⟩)
theorem un_name (k:Nat) (l:List S42) (o:Except (Int×Int) (S80×List S42)) (w:World) (n g:Nat) (KEY:KeyAt k) (hm1:¬isM (hd l) [45]) (hm2:¬isM (hd l) [33]) (hm3:(hd l).f2≠57) (hm4:¬isM (hd l) [40]) (hm5:¬isM (hd l) [104,97,115]) (hm6:¬isM (hd l) [108,101,110]) (h:pbind pname (fun s l1=>if isM (hd l1) [91]then pbind (pKey k) (fun x=>pok (xIndex s x)) l1 else some (.ok (xName s,l1))) l=some o) (R:Rd w n g l) (hn:n≤w.heap.size):
 Calls Tryz.prog 79 #[.pointer (some ⟨g,0,none⟩)] w (ExPost w n g o):=by
 have hg:=Nat.lt_of_lt_of_le R.gn hn;have T0:=η ((Turn.refl (fun k=>k=g) w).alloc box80);have HB:=η (alloc_new w box80);have HS:=η (show(w.alloc box80).heap.size=w.heap.size+1 by simp);have R0:=R.al hn box80;have N1:=η (got_no R0 ⟨#[45]⟩ (notM_lit hm1));have N2:=η (got_no R0 ⟨#[33]⟩ (notM_lit hm2));obtain⟨b,ofs,q,cc,z1,z2,z3,z4,c0,f0,t0,t1,t2,hadv⟩:=R0.cells;have z5:0<q+1:=by omega
 have k3:(kd (hd l).f2==3)=false:=by rw[beq_eq_false_iff_ne];exact fun z=>hm3 (kd_eq.2.2.1.1 z)
 generalize kd (hd l).f2=kk at*;have N3:=η (got_no R0 ⟨#[40]⟩ (notM_lit hm4));have N4:=η (got_no R0 ⟨#[104,97,115]⟩ (notM_lit hm5));have N5:=η (got_no R0 ⟨#[108,101,110]⟩ (notM_lit hm6));have R1:=R0;have H:=pbind_cases h;clear hadv;have j0:=ix0;have j1:=ix1;clear R h hm1 hm2 hm3 hm4 hm5 hm6;go_enter Tryz.func79,Tryz.ntmps79;go_wp2_with fail
 generalize w.alloc box80=w0 at*;obtain⟨b2,hb2⟩:∃b,b=w.heap.size:=⟨_,rfl⟩;rw[← hb2]at HB HS;rw[← hb2];have HB2:=η hb2;have hw0:b2<w0.heap.size:=by have:=HS.out;omega
 have hwn:n≤w0.heap.size:=by have:=HS.out;omega
 have hgb:g<b2:=by omega
 clear hb2;refine wp_loop_rounds 3 ?_;rw[rounds_succ];go_wp2_with fail
 refine N1.out.mono ?_;rintro e w' ⟨rfl,rfl⟩;go_wp2_with fail
 rw[rounds_succ];go_wp2_with fail
 refine N2.out.mono ?_;rintro e w' ⟨rfl,rfl⟩;go_wp2_with fail
 rw[rounds_succ];go_wp2_with fail
 refine N3.out.mono ?_;rintro e w' ⟨rfl,rfl⟩;go_wp2_with fail
 refine N4.out.mono ?_;rintro e w' ⟨rfl,rfl⟩;go_wp2_with fail
 refine N5.out.mono ?_;rintro e w' ⟨rfl,rfl⟩;go_wp2_with fail
 have X1:=T0.out;have B1:=HB;clear R0;rcases H with⟨er,h1,rfl⟩|⟨s,l2,h1,h2⟩
 · refine(name_tok h1 R1 (by omega)).mono ?_
   rintro e w2 ⟨rfl,T2⟩;go_wp2_with fail
   exact⟨rfl,rfl,X1.then T2 (fun i hi=> .inl hi)⟩
 refine(name_tok h1 R1 (by omega)).mono ?_;rintro e w2 ⟨rfl,R2,T2⟩;have hs2:=T2.size;have B2:=η (T2.heap B1.out (fun z=>by omega));have X2:=X1.then T2 (fun i hi=> .inl hi);by_cases c:isM (hd l2) [91]
 · rw[if_pos c]at h2
   have H2:=pbind_cases h2;have IS:=is_call R2 ⟨#[91]⟩;rw[decide_eq_true (isM_lit c)]at IS;have IS:=η IS;clear h1 h2 c;go_wp2_with fail
   refine IS.out.mono ?_;rintro e w' ⟨rfl,rfl⟩;go_wp2_with fail
   rcases H2 with⟨er,h1,rfl⟩|⟨x,l3,h1,h2⟩
   · refine(KEY l2 _ w2 n g h1 R2 (by omega)).mono ?_
     rintro e w3 ⟨rfl,T3⟩;go_wp2_with fail
     exact⟨rfl,rfl,X2.then T3 (fun i hi=> .inl hi)⟩
   refine(KEY l2 _ w2 n g h1 R2 (by omega)).mono ?_;rintro e w3 ⟨A,c,rfl,V,R3,T3⟩;obtain rfl:=Option.some.inj h2;have hs3:=T3.size;have B3:=η (T3.heap B2.out (fun z=>by omega));obtain⟨d0,d1,d2,d3,d4,df⟩:=heap5 B3.out;have hlt:b2<w3.heap.size:=by omega
   clear h1 h2;go_wp2_with fail
   have h1:=HB2.out;refine ret80_one (y:=xIndex s x) (ok':=fun k=>w.heap.size≤k) 2 rfl rfl B3.out V (show ¬w2.heap.size≤b2 by omega) rfl (fun k hk=>by omega) (fun W V' s2=> ?_);exact⟨_,_,rfl,V',R3.turn s2 (by omega) (fun k hk=>by omega),(X2.then T3 (fun i hi=> .inl hi)).then s2 (fun i hi=> .inr (by omega))⟩
 · rw[if_neg c]at h2
   obtain rfl:=Option.some.inj h2;have IS:=is_call R2 ⟨#[91]⟩;rw[decide_eq_false (notM_lit c)]at IS;have IS:=η IS;obtain⟨d0,d1,d2,d3,d4,df⟩:=heap5 B2.out;clear h1 h2 c;go_wp2_with fail
   refine IS.out.mono ?_;rintro e w' ⟨rfl,rfl⟩;go_wp2_with fail
   have h1:=HB2.out;exact ret80 2 rfl rfl B2.out (fun W s1 s2=>⟨none,0,rfl,VX.nil rfl,R2.turn s2 (by omega) (fun k hk=>by omega),X2.then s2 (fun i hi=> .inr (by omega))⟩)
theorem un_step (k:Nat) (IH:ExAt k) (UN:UnAt k) (KEY:KeyAt k):UnAt (k+1):=by
 intro l o w n g h R hn;rw[pUn]at h;dsimp only at h;by_cases c1:isM (hd l) [45]
 · rw[if_pos c1]at h;exact un_neg k UN l o w n g c1 h R hn
 rw[if_neg c1]at h;by_cases c2:isM (hd l) [33]
 · rw[if_pos c2]at h;exact un_not k UN l o w n g c1 c2 h R hn
 rw[if_neg c2]at h;by_cases c3:(hd l).f2=57
 · rw[if_pos c3]at h;exact un_num k l o w n g c1 c2 c3 h R hn
 rw[if_neg c3]at h;by_cases c4:isM (hd l) [40]
 · rw[if_pos c4]at h;exact un_par k l o w n g IH c1 c2 c3 c4 h R hn
 rw[if_neg c4]at h;by_cases c5:isM (hd l) [104,97,115]
 · rw[if_pos c5]at h;exact un_has k l o w n g KEY c1 c2 c3 c4 c5 h R hn
 rw[if_neg c5]at h;by_cases c6:isM (hd l) [108,101,110]
 · rw[if_pos c6]at h;exact un_len k l o w n g c1 c2 c3 c4 c5 c6 h R hn
 rw[if_neg c6]at h;exact un_name k l o w n g KEY c1 c2 c3 c4 c5 c6 h R hn
theorem expr_all:∀k,(∀j,j≤k→ExAt j)∧UnAt k∧KeyAt k
 |0=>by
  refine⟨fun j hj=> ?_,fun l o w n g h=> ?_,fun l o w n g h=> ?_⟩
  · obtain rfl:j=0:=by omega
    intro low l o w n g h;rw[pExpr]at h;cases h
  · rw[pUn]at h;cases h
  · rw[pKey]at h;cases h
 |k+1=>by
  obtain⟨h1,h2,h3⟩:=expr_all k;refine⟨fun j hj=> ?_,un_step k (h1 k (Nat.le_refl _)) h2 h3,key_step k (h1 k (Nat.le_refl _))⟩;by_cases e:j=k+1
  · subst e
    intro low l o w n g h hl R hn;rw[pExpr]at h;by_cases h5:low=5
    · rw[if_pos h5]at h
      subst h5;exact expr_five k h2 l o w n g h R hn
    · rw[if_neg h5]at h
      exact expr_low k h1 low (by omega) l o w n g h R hn
  · exact h1 j (by omega)
theorem ex_at (k:Nat):ExAt k:=(expr_all k).1 k (Nat.le_refl _)
theorem key_at (k:Nat):KeyAt k:=(expr_all k).2.2
open YtbemddpmohoooaaGreatDoorW
abbrev box62:Obj:= .cells #[.int .i64 0,.string ⟨#[]⟩,.string ⟨#[]⟩,.string ⟨#[]⟩,.slice none 0 0,.slice none 0 0,.slice none 0 0] 62
abbrev bst (s:S62) (A4:Option Addr) (c4:Nat) (A5:Option Addr) (c5:Nat) (A6:Option Addr) (c6:Nat):Obj:=
 .cells #[.int .i64 s.f0,.string s.f1,.string s.f2,.string s.f3,.slice A4 s.f4.length c4,.slice A5 s.f5.length c5,.slice A6 s.f6.length c6] 62
structure VS (w:World) (ok:Nat→Prop) (s:S62) (A4:Option Addr) (c4:Nat) (A5:Option Addr) (c5:Nat) (A6:Option Addr) (c6:Nat):Prop where
 l4:s.f4.length≤c4
 g4:Kd.F k80 w ok A4 s.f4.length s.f4
 l5:s.f5.length≤c5
 g5:Kd.F k62 w ok A5 s.f5.length s.f5
 l6:s.f6.length≤c6
 g6:Kd.F k62 w ok A6 s.f6.length s.f6
def StPost (w:World) (n g:Nat) (o:Except (Int×Int) (S62×List S42)) (e:Ending) (w':World):Prop:=
 match o with
 | .ok (s,l')=>∃A4 c4 A5 c5 A6 c6,e= .returned (.agg #[.int .i64 s.f0,.string s.f1,.string s.f2,.string s.f3,.slice A4 s.f4.length c4,.slice A5 s.f5.length c5,.slice A6 s.f6.length c6])∧VS w' (fun k=>w.heap.size≤k) s A4 c4 A5 c5 A6 c6∧Rd w' n g l'∧Turn (fun k=>k=g) w w'
 | .error er=>e= .panicked (pv er.1 er.2)∧Turn (fun k=>k=g) w w'
section
variable {w W:World} {ok ok':Nat→Prop} {s:S62} {A4:Option Addr} {c4:Nat} {A5:Option Addr} {c5:Nat} {A6:Option Addr} {c6:Nat}
theorem VS.turn {F:Nat→Prop} (h:VS w ok s A4 c4 A5 c5 A6 c6) (hT:Turn F w W) (hF:∀k,F k→¬ok k):VS W ok s A4 c4 A5 c5 A6 c6:=
 have hm:∀k,ok k→k<w.heap.size→W.heap[k]? =w.heap[k]? :=fun k hk hlt=>hT.block k hlt (fun q=>hF k q hk)
 ⟨h.l4,Kd.F_step h.g4 hm,h.l5,Kd.F_step h.g5 hm,h.l6,Kd.F_step h.g6 hm⟩
theorem VS.al (h:VS w ok s A4 c4 A5 c5 A6 c6) (o:Obj):VS (w.alloc o) ok s A4 c4 A5 c5 A6 c6:=⟨h.l4,Kd.F_alloc h.g4 o,h.l5,Kd.F_alloc h.g5 o,h.l6,Kd.F_alloc h.g6 o⟩
theorem VS.mono (h:VS w ok s A4 c4 A5 c5 A6 c6) (hm:∀k,ok k→ok' k):VS w ok' s A4 c4 A5 c5 A6 c6:=⟨h.l4,Kd.F_mono h.g4 hm,h.l5,Kd.F_mono h.g5 hm,h.l6,Kd.F_mono h.g6 hm⟩
theorem VS.old (h:VS w ok s A4 c4 A5 c5 A6 c6) (hm:∀k,ok k→k<w.heap.size→ok' k):VS w ok' s A4 c4 A5 c5 A6 c6:=
 ⟨h.l4,Kd.F_mono (Kd.F_bound h.g4) (fun k hk=>hm k hk.1 hk.2),h.l5,Kd.F_mono (Kd.F_bound h.g5) (fun k hk=>hm k hk.1 hk.2),h.l6,Kd.F_mono (Kd.F_bound h.g6) (fun k hk=>hm k hk.1 hk.2)⟩
theorem VS.FK (h:VS w ok s A4 c4 A5 c5 A6 c6):Kd.FK k62 w ok s [.int .i64 s.f0,.string s.f1,.string s.f2,.string s.f3,.slice A4 s.f4.length c4,.slice A5 s.f5.length c5,.slice A6 s.f6.length c6]:=k62_mkF w ok s h.l4 h.g4 h.l5 h.g5 h.l6 h.g6
end
theorem heap7 {w:World} {b t:Nat} {v0 v1 v2 v3 v4 v5 v6:Value} (h:w.heap[b]? =some (.cells #[v0,v1,v2,v3,v4,v5,v6] t (0,0))):
 w.cell? ⟨b,0,none⟩=some v0∧w.cell? ⟨b,1,none⟩=some v1∧w.cell? ⟨b,2,none⟩=some v2∧w.cell? ⟨b,3,none⟩=some v3∧w.cell? ⟨b,4,none⟩=some v4∧w.cell? ⟨b,5,none⟩=some v5∧w.cell? ⟨b,6,none⟩=some v6∧∀i,w.frozen? ⟨b,i,none⟩=false:=
 ⟨by simp[World.cell?,h],by simp[World.cell?,h],by simp[World.cell?,h],by simp[World.cell?,h],by simp[World.cell?,h],by simp[World.cell?,h],by simp[World.cell?,h],fun i=>by simp[World.frozen?,h]⟩
abbrev set7w (w:World) (b:Nat) (v0 v1 v2 v3 v4 v5 v6:Value):World:=
 ((((((w.setCell ⟨b,0,none⟩ v0).setCell ⟨b,1,none⟩ v1).setCell ⟨b,2,none⟩ v2).setCell ⟨b,3,none⟩ v3).setCell ⟨b,4,none⟩ v4).setCell ⟨b,5,none⟩ v5).setCell ⟨b,6,none⟩ v6
theorem set7 {w:World} {b t:Nat} {a0 a1 a2 a3 a4 a5 a6:Value} (h:w.heap[b]? =some (.cells #[a0,a1,a2,a3,a4,a5,a6] t (0,0))) (v0 v1 v2 v3 v4 v5 v6:Value):
 (set7w w b v0 v1 v2 v3 v4 v5 v6).heap[b]? =some (.cells #[v0,v1,v2,v3,v4,v5,v6] t (0,0))∧Turn (fun k=>k=b) w (set7w w b v0 v1 v2 v3 v4 v5 v6):=by
 obtain⟨s1,s2⟩:(((((w.setCell ⟨b,0,none⟩ v0).setCell ⟨b,1,none⟩ v1).setCell ⟨b,2,none⟩ v2).setCell ⟨b,3,none⟩ v3).setCell ⟨b,4,none⟩ v4).heap[b]? =some (.cells #[v0,v1,v2,v3,v4,a5,a6] t (0,0))∧
  Turn (fun k=>k=b) w (((((w.setCell ⟨b,0,none⟩ v0).setCell ⟨b,1,none⟩ v1).setCell ⟨b,2,none⟩ v2).setCell ⟨b,3,none⟩ v3).setCell ⟨b,4,none⟩ v4):=
  ⟨set_field (set_field (set_field (set_field (set_field h v0 rfl) v1 rfl) v2 rfl) v3 rfl) v4 rfl,turn_at (turn_at (turn_at (turn_at (turn_at (Turn.refl _ _) 0 v0) 1 v1) 2 v2) 3 v3) 4 v4⟩
 unfold set7w;generalize(((((w.setCell ⟨b,0,none⟩ v0).setCell ⟨b,1,none⟩ v1).setCell ⟨b,2,none⟩ v2).setCell ⟨b,3,none⟩ v3).setCell ⟨b,4,none⟩ v4)=W at*;have s3:=set_field (i:=5) s1 v5 rfl;have s4:=turn_at s2 5 v5;generalize W.setCell ⟨b,5,none⟩ v5=W2 at*;exact⟨set_field s3 v6 rfl,turn_at s4 6 v6⟩
theorem ret62 {fn:Func} {R:Ending→World→Prop} {tmps:Array Value} {w:World} {b:Nat} {a0 a1 a2 a3 a4 a5 a6 v0 v1 v2 v3 v4 v5 v6:Value} (t:Tmp) (hr:fn.results=#[.cell t 62]) (ht:tmps[t]? =some (.pointer (some ⟨b,0,none⟩)))
 (h:w.heap[b]? =some (.cells #[a0,a1,a2,a3,a4,a5,a6] 62 (0,0))) (hR:∀W:World,W.heap[b]? =some (.cells #[v0,v1,v2,v3,v4,v5,v6] 62 (0,0))→Turn (fun k=>k=b) w W→R (.returned (.agg #[v0,v1,v2,v3,v4,v5,v6])) W):
 bodyPost Tryz.prog fn R Exit.ret {tmps:=tmps,defers:=[]} (set7w w b v0 v1 v2 v3 v4 v5 v6):=by
 obtain⟨s1,s2⟩:=set7 h v0 v1 v2 v3 v4 v5 v6;have hR:=hR _ s1 s2;generalize set7w w b v0 v1 v2 v3 v4 v5 v6=W at*;obtain⟨b0,b1,b2,b3,b4,b5,b6,bf⟩:=heap7 s1;exact bodyPost_ret (v:= .agg #[v0,v1,v2,v3,v4,v5,v6]) (by simp[results,hr,ht,go_sem,b0,b1,b2,b3,b4,b5,b6]) rfl hR
section
variable {P:Program} {ops:Array Oper} {Q:Exit→Act→World→Prop} {K:Act→World→Prop}
theorem callp_ {oi:Oper} {N:Option Tmp} {a:Act} {w:World} {f:FuncId} {fn:Func} {ars:Array Operand} {ts:Array TypeId} (hf:P.funcs[f]? =some fn) (hname:(fn.name== "runtime.NumGoroutine")=false) (hb:fn.body.isSome=true) (args:Array Value)
 (hw:Region.wanted oi (yielded ops a.tmps)=true) (hop:oi.op= .call {callee:= .value (.func f),args:=ars,argTypes:=ts}) (hargs:ars.map a.eval=args)
 (h:Calls P f args w fun e w'=>∃c,e= .panicked c∧Q (.panic c) a w'):if Region.wanted oi (yielded ops a.tmps)=true then Oper.wp P oi a w K Q else K (a.put N undef) w:=by
 rw[if_pos hw];have he:=Go.Proofs.YtbemddpmohoooaaGreatDoorW.PrintLast.enters_ hf hname hb args w
 have hrun:(execOp a.eval oi).run P w= .ok (.enter f args) w:=by
  unfold execOp;simp[hop,resolve,Deferred.ofValue,invoke,Act.eval,hargs,he]
 unfold Oper.wp;rw[hrun,Oper.upon_enter];refine h.mono fun e w'' hh=> ?_
 obtain⟨v,rfl,hk⟩:=hh;exact hk
end
abbrev EN (W:World) (n0 b b':Nat) (v:Value) (xs:List S80):Prop:=Kd.N k80 80 W n0 (fun k=>n0≤k∧k≠b∧k≠b') v xs
theorem EN.turn {W W':World} {n0 b b':Nat} {v:Value} {xs:List S80} {F:Nat→Prop} (h:EN W n0 b b' v xs) (T:Turn F W W') (hF:∀k,F k→k<n0∨k=b∨k=b'):EN W' n0 b b' v xs:=
 Kd.N_step h (fun k hk hlt=>T.block k hlt (fun q=>by have:=hF k q;omega))
theorem EN.nil (W:World) (n0 b b':Nat):EN W n0 b b' (.slice none 0 0) []:=Kd.N_nil _ _ _ _ _
theorem set_call (k:Nat) (l:List S42) (o:Except (Int×Int) (S62×List S42)) (w:World) (n g:Nat) (h:pSet k l=some o) (R:Rd w n g l) (hn:n≤w.heap.size):
 Calls Tryz.prog 42 #[.pointer (some ⟨g,0,none⟩)] w (StPost w n g o):=by
 have hg:=Nat.lt_of_lt_of_le R.gn hn;have T0:=η ((Turn.refl (fun k=>k=g) w).alloc box62);have HB:=η (alloc_new w box62);have HS:=η (show(w.alloc box62).heap.size=w.heap.size+1 by simp);have R0:=R.al hn box62;have H:=pbind_cases h;have HL:=η (show(0:Nat)≤0 from Nat.le_refl _);clear R h;go_enter Tryz.func42,Tryz.ntmps42;go_wp2_with fail
 generalize w.alloc box62=w0 at*;obtain⟨b2,hb2⟩:∃b,b=w.heap.size:=⟨_,rfl⟩;rw[← hb2]at HB HS;rw[← hb2];have hw0:b2<w0.heap.size:=by have:=HS.out;omega
 have h2w:b2≤w.heap.size∧w.heap.size≤b2:=by omega
 have hwn:n≤w0.heap.size:=by have:=HS.out;omega
 have hgb:g<b2:=by omega
 clear hb2;rcases H with⟨er,h1,rfl⟩|⟨s,l1,h1,h2⟩
 · refine(name_tok h1 R0 (by omega)).mono ?_
   rintro e w2 ⟨rfl,T2⟩;go_wp2_with fail
   exact⟨rfl,rfl,T0.out.then T2 (fun i hi=> .inl hi)⟩
 refine(name_tok h1 R0 (by omega)).mono ?_;rintro e w1 ⟨rfl,R1,T1⟩;have hs1:=T1.size;have B1:=η (T1.heap HB.out (fun z=>by omega));have X1:=T0.out.then T1 (fun i hi=> .inl hi);obtain⟨b3,he3⟩:∃b,b=w1.heap.size:=⟨_,rfl⟩;have hb23:b2<b3:=by omega
 by_cases c:isM (hd l1) [91]
 · rw[if_pos c]at h2
   have H2:=pbind_cases h2;have IS:=is_call (R1.al (by omega) (.cells #[.int .i64 1,.string s,.string ⟨#[]⟩,.string ⟨#[]⟩,.slice none 0 0,.slice none 0 0,.slice none 0 0] 62)) ⟨#[91]⟩;rw[decide_eq_true (isM_lit c)]at IS;have IS:=η IS;clear h1 h2 c;go_wp2_with fail
   refine IS.out.mono ?_;rintro e w' ⟨rfl,rfl⟩;go_wp2_with fail
   clear IS;rw[← he3];have XX:=η ((X1.alloc (.cells #[.int .i64 2,.string s,.string ⟨#[]⟩,.string ⟨#[]⟩,.slice none 0 0,.slice none 0 0,.slice none 0 0] 62)).drew);have BB:(w1.alloc (.cells #[.int .i64 2,.string s,.string ⟨#[]⟩,.string ⟨#[]⟩,.slice none 0 0,.slice none 0 0,.slice none 0 0] 62)).drew.heap[w1.heap.size]? =some (.cells #[.int .i64 2,.string s,.string ⟨#[]⟩,.string ⟨#[]⟩,.slice none 0 0,.slice none 0 0,.slice none 0 0] 62):=alloc_new w1 _;have BB:=η BB;have B2B:(w1.alloc (.cells #[.int .i64 2,.string s,.string ⟨#[]⟩,.string ⟨#[]⟩,.slice none 0 0,.slice none 0 0,.slice none 0 0] 62)).drew.heap[b2]? =some box62:=alloc_old B1.out _;have B2B:=η B2B;have NN:=η (EN.nil (w1.alloc (.cells #[.int .i64 2,.string s,.string ⟨#[]⟩,.string ⟨#[]⟩,.slice none 0 0,.slice none 0 0,.slice none 0 0] 62)).drew w.heap.size b2 b3);have RD:Rd (w1.alloc (.cells #[.int .i64 2,.string s,.string ⟨#[]⟩,.string ⟨#[]⟩,.slice none 0 0,.slice none 0 0,.slice none 0 0] 62)).drew n g l1:=(R1.al (by omega) (.cells #[.int .i64 2,.string s,.string ⟨#[]⟩,.string ⟨#[]⟩,.slice none 0 0,.slice none 0 0,.slice none 0 0] 62)).move (fun _ _=>rfl)
   have hsz:(w1.alloc (.cells #[.int .i64 2,.string s,.string ⟨#[]⟩,.string ⟨#[]⟩,.slice none 0 0,.slice none 0 0,.slice none 0 0] 62)).drew.heap.size=w1.heap.size+1:=by
    show(w1.alloc _).heap.size=_;simp
   have hnd:n≤(w1.alloc (.cells #[.int .i64 2,.string s,.string ⟨#[]⟩,.string ⟨#[]⟩,.slice none 0 0,.slice none 0 0,.slice none 0 0] 62)).drew.heap.size:=by omega
   have hb3:b3<(w1.alloc (.cells #[.int .i64 2,.string s,.string ⟨#[]⟩,.string ⟨#[]⟩,.slice none 0 0,.slice none 0 0,.slice none 0 0] 62)).drew.heap.size:=by omega
   rw[← he3]at BB;have HB3:=η he3;clear hsz he3 R1 T1 hs1 B1 X1 HB;refine sr 8 (S:=fun W=>W.cell? ⟨b3,4,none⟩=some (.slice none 0 0)) (ds:=[7]) (heap7 BB.out).2.2.2.2.1 ?_;generalize(w1.alloc (.cells #[.int .i64 2,.string s,.string ⟨#[]⟩,.string ⟨#[]⟩,.slice none 0 0,.slice none 0 0,.slice none 0 0] 62)).drew=wA at*;intro hH;refine pu 0 10 ?_;refine tk 1 11 hH ?_;refine pu 2 12 ?_;refine on 3 13 (fun K hK=> ?_);rcases H2 with⟨er,h1,rfl⟩|⟨x,l2,h1,h2⟩
   · refine callp_ Tryz.func43 (by kernel_rfl) (by kernel_rfl) #[.pointer (some ⟨g,0,none⟩)] (by rfl) (by rfl) (by simp[Act.eval]) ?_
     refine(key_at k l1 _ _ n g h1 RD hnd).mono ?_;rintro e w3 ⟨rfl,T3⟩;exact⟨_,rfl,rfl,rfl,XX.out.then T3 (fun i hi=> .inl hi)⟩
   refine PrintLast.goes_ Tryz.func43 (by kernel_rfl) (by kernel_rfl) #[.pointer (some ⟨g,0,none⟩)] (by rfl) (by rfl) (by rfl) (by simp[Act.eval]) ?_;refine(key_at k l1 _ _ n g h1 RD hnd).mono ?_;rintro e w3 ⟨A,c,rfl,V3,R3,T3⟩;have hs3:=T3.size;have B3:=η (T3.heap BB.out (fun z=>by omega));have B23:=η (T3.heap B2B.out (fun z=>by omega));have N3:=η (NN.out.turn T3 (fun k hk=>by omega));have X3:=XX.out.then T3 (fun i hi=> .inl hi);refine⟨_,rfl,hK.out _ _ (heap7 B3.out).2.2.2.2.1 (fun hH=> ?_)⟩;clear hK K;refine nm 13 ?_;refine on 4 14 (fun K hK=> ?_);refine PrintLast.value_ (w1:=w3.alloc (bx x A c)) (v:= .slice (some ⟨w3.heap.size,0,none⟩) 1 1) (by rfl) (by rfl) (by go_simp) ?_;refine hK.out _ _ (heap7 (alloc_old B3.out _)).2.2.2.2.1 (fun hH=> ?_);clear hK K;refine nm 14 ?_;refine on 5 15 (fun K hK=> ?_)
   refine Kd.N_append_step k80 w.heap.size (by simp[Region.wanted]) (.tmp 11) (.tmp 14) 60 80 (.agg #[(.int .i64 0),(.int .i64 0),(.string ⟨#[]⟩),(.string ⟨#[]⟩),(.slice none 0 0)]) 72 rfl Tryz.underlying60 info80 rfl (by decide) (by decide)
    (.slice none 0 0) ([]:List S80) x (cx x A c) (fun k=>w.heap.size≤k∧k≠b2∧k≠b3) (fun k=>wA.heap.size≤k∧k<w3.heap.size) rfl rfl (V3.old (fun k hk hlt=>⟨hk,hlt⟩)).FK (fun k hk=>⟨by omega,fun q=>by have:=Kd.N_lt NN.out k q.symm;omega⟩) (fun k hk=>by omega)
    N3.out (Below.refl _ _) (by omega) (by have:=HL.out;simp only[List.length_nil,List.length_append,List.length_cons]at*;omega) ?_
   intro v1 w5 N1 hb5 hg5 hat5;obtain⟨g5,cap5,hv1,hgb5,hgl5,_⟩:=Kd.N_form N1 (by simp);subst hv1;have T5:Turn (fun k=>(w.heap.size≤k∧k≠b2∧k≠b3)) w3 w5:=Turn.of_grown hg5 (fun k hk=> .inl (N3.out.1 k hk));have hs5:=T5.size;have B5:=η (T5.heap B3.out (fun z=>z.2.2 rfl));have B25:=η (T5.heap B23.out (fun z=>z.2.1 rfl));refine hK.out _ _ (heap7 B5.out).2.2.2.2.1 (fun hH=> ?_);clear hK K;refine nm 15 ?_;refine pu 6 16 ?_;refine la 7 (fun K hK=> ?_);obtain⟨e0,e1,e2,e3,e4,e5,e6,ef⟩:=heap7 B5.out;refine PrintLast.skip_ (w1:=w5.setCell ⟨b3,4,none⟩ (.slice (some ⟨g5,0,none⟩) (([]:List S80)++[x]).length cap5)) (by rfl) (by rfl) (by go_simp) ?_;refine hK.out _ _ ?_;refine PrintLast.done_ (by kernel_rfl) ?_;clear hK K hH;have T6:Turn (fun k=>k=b3) w5 (w5.setCell ⟨b3,4,none⟩ (.slice (some ⟨g5,0,none⟩) (([]:List S80)++[x]).length cap5)):=turn_at (Turn.refl _ _) 4 _;have B6:=η (set_field (i:=4) B5.out (.slice (some ⟨g5,0,none⟩) (([]:List S80)++[x]).length cap5) rfl);have B26:=η (T6.heap B25.out (fun z=>by omega));have N6:=η (EN.turn (b:=b2) (b':=b3) N1 T6 (fun k hk=>by omega));have R5:=R3.turn T5 (by omega) (fun k hk=>by omega);have R6:=R5.turn T6 (by omega) (fun k hk=>by omega);have X6:=η ((X3.then T5 (fun i hi=> .inr hi.1)).then T6 (fun i hi=> .inr (by omega)));have hs6:(w5.setCell ⟨b3,4,none⟩ (.slice (some ⟨g5,0,none⟩) (([]:List S80)++[x]).length cap5)).heap.size=w5.heap.size:=by simp
   have hn6:n≤(w5.setCell ⟨b3,4,none⟩ (.slice (some ⟨g5,0,none⟩) (([]:List S80)++[x]).length cap5)).heap.size:=by omega
   have hb6:b3<(w5.setCell ⟨b3,4,none⟩ (.slice (some ⟨g5,0,none⟩) (([]:List S80)++[x]).length cap5)).heap.size:=by omega
   clear e0 e1 e2 e3 e4 e5 e6 ef hat5 hg5 hb5 N1 N3 B3 B23 B5 B25 R3 R5 T3 T5 T6 X3 hs3 hs5 hs6 RD hnd XX BB B2B NN hb3 V3;generalize w5.setCell ⟨b3,4,none⟩ (.slice (some ⟨g5,0,none⟩) (([]:List S80)++[x]).length cap5)=w6 at*;clear hgl5 hgb5;have H3:=pbind_cases h2;clear h2;go_wp2_with fail
   rcases H3 with⟨er,h1,rfl⟩|⟨_,l3,h1,h2⟩
   · refine(skip_tok [61] h1 (R6.al hn6 (.cells #[.string ⟨#[61]⟩] 9)) _ (by simp)).mono ?_
     rintro e w7 ⟨rfl,T7⟩;go_wp2_with fail
     exact⟨rfl,rfl,(X6.out.alloc _).then T7 (fun i hi=> .inl hi)⟩
   refine(skip_tok [61] h1 (R6.al hn6 (.cells #[.string ⟨#[61]⟩] 9)) _ (by simp)).mono ?_;rintro e w7 ⟨rfl,R7,T7⟩;have hs7:=T7.size;simp at hs7;have B7:=η (T7.heap (alloc_old B6.out (.cells #[.string ⟨#[61]⟩] 9)) (fun z=>by omega));have B27:=η (T7.heap (alloc_old B26.out (.cells #[.string ⟨#[61]⟩] 9)) (fun z=>by omega));have N7:=η (EN.turn (Kd.N_alloc N6.out (.cells #[.string ⟨#[61]⟩] 9)) T7 (fun k hk=>by omega));have X7:=η ((X6.out.alloc (.cells #[.string ⟨#[61]⟩] 9)).then T7 (fun i hi=> .inl hi));have hn7:n≤w7.heap.size:=by omega
   have hb7:b3<w7.heap.size:=by omega
   clear X6 B6 B26 N6 R6 hn6 hb6 hs7 T7 h1;have X6:=X7;have B6:=B7;have B26:=B27;have N6:=N7;have R6:=R7;have hn6:=hn7;have hb6:=hb7;clear X7 B7 B27 N7 R7 hn7 hb7;go_wp2_with fail
   have H4:=pbind_cases h2;clear h2;have XX:=η (X6.out.drew);have BB:w7.drew.heap[b3]? =some (.cells #[.int .i64 2,.string s,.string ⟨#[]⟩,.string ⟨#[]⟩,.slice (some ⟨g5,0,none⟩) (([]:List S80)++[x]).length cap5,.slice none 0 0,.slice none 0 0] 62):=B6.out;have BB:=η BB;have B2B:w7.drew.heap[b2]? =some box62:=B26.out;have B2B:=η B2B;have NN:EN w7.drew w.heap.size b2 b3 (.slice (some ⟨g5,0,none⟩) (([]:List S80)++[x]).length cap5) ([x]:List S80):=N6.out;have NN:=η NN;have RD:Rd w7.drew n g l3:=R6.move (fun _ _=>rfl);have hnd:n≤w7.drew.heap.size:=hn6;have hb3:b3<w7.drew.heap.size:=hb6;clear X6 B6 B26 N6 R6 hn6 hb6;refine sr 8 (S:=fun W=>W.cell? ⟨b3,4,none⟩=some (.slice (some ⟨g5,0,none⟩) (([]:List S80)++[x]).length cap5)) (ds:=[7]) (heap7 BB.out).2.2.2.2.1 ?_;generalize w7.drew=wA at*;intro hH;refine pu 0 20 ?_;refine tk 1 21 hH ?_;refine pu 2 22 ?_;refine on 3 23 (fun K hK=> ?_);rcases H4 with⟨er,h1,rfl⟩|⟨y,l4,h1,h2⟩
   · refine callp_ Tryz.func46 (by kernel_rfl) (by kernel_rfl) #[.pointer (some ⟨g,0,none⟩),.int .i64 0] (by rfl) (by rfl) (by simp[Act.eval]) ?_
     refine(ex_at k 0 l3 _ _ n g h1 (by omega) RD hnd).mono ?_;rintro e w3 ⟨rfl,T3⟩;exact⟨_,rfl,rfl,rfl,XX.out.then T3 (fun i hi=> .inl hi)⟩
   refine PrintLast.goes_ Tryz.func46 (by kernel_rfl) (by kernel_rfl) #[.pointer (some ⟨g,0,none⟩),.int .i64 0] (by rfl) (by rfl) (by rfl) (by simp[Act.eval]) ?_;refine(ex_at k 0 l3 _ _ n g h1 (by omega) RD hnd).mono ?_;rintro e w3 ⟨A,c,rfl,V3,R3,T3⟩;have hs3:=T3.size;have B3:=η (T3.heap BB.out (fun z=>by omega));have B23:=η (T3.heap B2B.out (fun z=>by omega));have N3:=η (NN.out.turn T3 (fun k hk=>by omega));have X3:=XX.out.then T3 (fun i hi=> .inl hi);refine⟨_,rfl,hK.out _ _ (heap7 B3.out).2.2.2.2.1 (fun hH=> ?_)⟩;clear hK K;refine nm 23 ?_;refine on 4 24 (fun K hK=> ?_);refine PrintLast.value_ (w1:=w3.alloc (bx y A c)) (v:= .slice (some ⟨w3.heap.size,0,none⟩) 1 1) (by rfl) (by rfl) (by go_simp) ?_;refine hK.out _ _ (heap7 (alloc_old B3.out _)).2.2.2.2.1 (fun hH=> ?_);clear hK K;refine nm 24 ?_;refine on 5 25 (fun K hK=> ?_)
   refine Kd.N_append_step k80 w.heap.size (by simp[Region.wanted]) (.tmp 21) (.tmp 24) 60 80 (.agg #[(.int .i64 0),(.int .i64 0),(.string ⟨#[]⟩),(.string ⟨#[]⟩),(.slice none 0 0)]) 72 rfl Tryz.underlying60 info80 rfl (by decide) (by decide)
    (.slice (some ⟨g5,0,none⟩) (([]:List S80)++[x]).length cap5) ([x]:List S80) y (cx y A c) (fun k=>w.heap.size≤k∧k≠b2∧k≠b3) (fun k=>wA.heap.size≤k∧k<w3.heap.size) rfl rfl (V3.old (fun k hk hlt=>⟨hk,hlt⟩)).FK (fun k hk=>⟨by omega,fun q=>by have:=Kd.N_lt NN.out k q.symm;omega⟩) (fun k hk=>by omega)
    N3.out (Below.refl _ _) (by omega) (by have:=HL.out;simp only[List.length_nil,List.length_append,List.length_cons]at*;omega) ?_
   intro v1 w5 N1 hb5 hg5 hat5;obtain⟨g5,cap5,hv1,hgb5,hgl5,_⟩:=Kd.N_form N1 (by simp);subst hv1;have T5:Turn (fun k=>(w.heap.size≤k∧k≠b2∧k≠b3)) w3 w5:=Turn.of_grown hg5 (fun k hk=> .inl (N3.out.1 k hk));have hs5:=T5.size;have B5:=η (T5.heap B3.out (fun z=>z.2.2 rfl));have B25:=η (T5.heap B23.out (fun z=>z.2.1 rfl));refine hK.out _ _ (heap7 B5.out).2.2.2.2.1 (fun hH=> ?_);clear hK K;refine nm 25 ?_;refine pu 6 26 ?_;refine la 7 (fun K hK=> ?_);obtain⟨e0,e1,e2,e3,e4,e5,e6,ef⟩:=heap7 B5.out;refine PrintLast.skip_ (w1:=w5.setCell ⟨b3,4,none⟩ (.slice (some ⟨g5,0,none⟩) (([x]:List S80)++[y]).length cap5)) (by rfl) (by rfl) (by go_simp) ?_;refine hK.out _ _ ?_;refine PrintLast.done_ (by kernel_rfl) ?_;clear hK K hH;have T6:Turn (fun k=>k=b3) w5 (w5.setCell ⟨b3,4,none⟩ (.slice (some ⟨g5,0,none⟩) (([x]:List S80)++[y]).length cap5)):=turn_at (Turn.refl _ _) 4 _;have B6:=η (set_field (i:=4) B5.out (.slice (some ⟨g5,0,none⟩) (([x]:List S80)++[y]).length cap5) rfl);have B26:=η (T6.heap B25.out (fun z=>by omega));have N6:=η (EN.turn (b:=b2) (b':=b3) N1 T6 (fun k hk=>by omega));have R5:=R3.turn T5 (by omega) (fun k hk=>by omega);have R6:=R5.turn T6 (by omega) (fun k hk=>by omega);have X6:=η ((X3.then T5 (fun i hi=> .inr hi.1)).then T6 (fun i hi=> .inr (by omega)));have hs6:(w5.setCell ⟨b3,4,none⟩ (.slice (some ⟨g5,0,none⟩) (([x]:List S80)++[y]).length cap5)).heap.size=w5.heap.size:=by simp
   have hn6:n≤(w5.setCell ⟨b3,4,none⟩ (.slice (some ⟨g5,0,none⟩) (([x]:List S80)++[y]).length cap5)).heap.size:=by omega
   have hb6:b3<(w5.setCell ⟨b3,4,none⟩ (.slice (some ⟨g5,0,none⟩) (([x]:List S80)++[y]).length cap5)).heap.size:=by omega
   clear e0 e1 e2 e3 e4 e5 e6 ef hat5 hg5 hb5 N1 N3 B3 B23 B5 B25 R3 R5 T3 T5 T6 X3 hs3 hs5 hs6 RD hnd XX BB B2B NN hb3 V3;generalize w5.setCell ⟨b3,4,none⟩ (.slice (some ⟨g5,0,none⟩) (([x]:List S80)++[y]).length cap5)=w6 at*;clear hgl5 hgb5;have H3:=pbind_cases h2;clear h2;go_wp2_with fail
   rcases H3 with⟨er,h1,rfl⟩|⟨_,l5,h1,h2⟩
   · refine(skip_tok [59] h1 (R6.al hn6 (.cells #[.string ⟨#[59]⟩] 9)) _ (by simp)).mono ?_
     rintro e w7 ⟨rfl,T7⟩;go_wp2_with fail
     exact⟨rfl,rfl,(X6.out.alloc _).then T7 (fun i hi=> .inl hi)⟩
   refine(skip_tok [59] h1 (R6.al hn6 (.cells #[.string ⟨#[59]⟩] 9)) _ (by simp)).mono ?_;rintro e w7 ⟨rfl,R7,T7⟩;have hs7:=T7.size;simp at hs7;have B7:=η (T7.heap (alloc_old B6.out (.cells #[.string ⟨#[59]⟩] 9)) (fun z=>by omega));have B27:=η (T7.heap (alloc_old B26.out (.cells #[.string ⟨#[59]⟩] 9)) (fun z=>by omega));have N7:=η (EN.turn (Kd.N_alloc N6.out (.cells #[.string ⟨#[59]⟩] 9)) T7 (fun k hk=>by omega));have X7:=η ((X6.out.alloc (.cells #[.string ⟨#[59]⟩] 9)).then T7 (fun i hi=> .inl hi));have hn7:n≤w7.heap.size:=by omega
   have hb7:b3<w7.heap.size:=by omega
   clear X6 B6 B26 N6 R6 hn6 hb6 hs7 T7 h1;have X6:=X7;have B6:=B7;have B26:=B27;have N6:=N7;have R6:=R7;have hn6:=hn7;have hb6:=hb7;clear X7 B7 B27 N7 R7 hn7 hb7;obtain rfl:=Option.some.inj h2;obtain⟨e0,e1,e2,e3,e4,e5,e6,ef⟩:=heap7 B6.out;obtain⟨d0,d1,d2,d3,d4,d5,d6,df⟩:=heap7 B26.out;clear ef;go_wp2_with fail
   refine ret62 2 rfl rfl B26.out (fun W s1 s2=> ?_);have R8:=R6.turn s2 (by omega) (fun k hk=>by omega);have X8:=X6.out.then s2 (fun i hi=> .inr (by omega));have G4:=Kd.F_step (Kd.N_F N6.out) (fun k hk hlt=>s2.block k hlt (fun q=>hk.2.1 q));have L4:=(Kd.N_reads' N6.out).2.1;exact⟨_,_,none,0,none,0,rfl,⟨L4,Kd.F_mono G4 (fun k hk=>hk.1),Nat.le_refl _,Kd.F_nil _ _ _,Nat.le_refl _,Kd.F_nil _ _ _⟩,R8,X8⟩
 · rw[if_neg c]at h2
   have IS:=is_call (R1.al (by omega) (.cells #[.int .i64 1,.string s,.string ⟨#[]⟩,.string ⟨#[]⟩,.slice none 0 0,.slice none 0 0,.slice none 0 0] 62)) ⟨#[91]⟩;rw[decide_eq_false (notM_lit c)]at IS;have IS:=η IS;clear h1 c;go_wp2_with fail
   refine IS.out.mono ?_;rintro e w' ⟨rfl,rfl⟩;go_upto_region 5 with fail
   clear IS;have X6:=η (X1.alloc (.cells #[.int .i64 1,.string s,.string ⟨#[]⟩,.string ⟨#[]⟩,.slice none 0 0,.slice none 0 0,.slice none 0 0] 62));have B6:(w1.alloc (.cells #[.int .i64 1,.string s,.string ⟨#[]⟩,.string ⟨#[]⟩,.slice none 0 0,.slice none 0 0,.slice none 0 0] 62)).heap[w1.heap.size]? =some (.cells #[.int .i64 1,.string s,.string ⟨#[]⟩,.string ⟨#[]⟩,.slice none 0 0,.slice none 0 0,.slice none 0 0] 62):=alloc_new w1 _;have B26:=η (alloc_old B1.out (.cells #[.int .i64 1,.string s,.string ⟨#[]⟩,.string ⟨#[]⟩,.slice none 0 0,.slice none 0 0,.slice none 0 0] 62));have N6:=η (EN.nil (w1.alloc (.cells #[.int .i64 1,.string s,.string ⟨#[]⟩,.string ⟨#[]⟩,.slice none 0 0,.slice none 0 0,.slice none 0 0] 62)) w.heap.size b2 b3);have R6:=R1.al (by omega) (.cells #[.int .i64 1,.string s,.string ⟨#[]⟩,.string ⟨#[]⟩,.slice none 0 0,.slice none 0 0,.slice none 0 0] 62);have hn6:n≤(w1.alloc (.cells #[.int .i64 1,.string s,.string ⟨#[]⟩,.string ⟨#[]⟩,.slice none 0 0,.slice none 0 0,.slice none 0 0] 62)).heap.size:=by simp;omega
   have hb6:b3<(w1.alloc (.cells #[.int .i64 1,.string s,.string ⟨#[]⟩,.string ⟨#[]⟩,.slice none 0 0,.slice none 0 0,.slice none 0 0] 62)).heap.size:=by simp;omega
   rw[← he3]at B6;rw[← he3];have B6:=η B6;have HB3:=η he3;clear he3 R1 T1 hs1 B1 X1;generalize w1.alloc (.cells #[.int .i64 1,.string s,.string ⟨#[]⟩,.string ⟨#[]⟩,.slice none 0 0,.slice none 0 0,.slice none 0 0] 62)=w6 at*;have H3:=pbind_cases h2;clear h2;go_wp2_with fail
   rcases H3 with⟨er,h1,rfl⟩|⟨_,l3,h1,h2⟩
   · refine(skip_tok [61] h1 (R6.al hn6 (.cells #[.string ⟨#[61]⟩] 9)) _ (by simp)).mono ?_
     rintro e w7 ⟨rfl,T7⟩;go_wp2_with fail
     exact⟨rfl,rfl,(X6.out.alloc _).then T7 (fun i hi=> .inl hi)⟩
   refine(skip_tok [61] h1 (R6.al hn6 (.cells #[.string ⟨#[61]⟩] 9)) _ (by simp)).mono ?_;rintro e w7 ⟨rfl,R7,T7⟩;have hs7:=T7.size;simp at hs7;have B7:=η (T7.heap (alloc_old B6.out (.cells #[.string ⟨#[61]⟩] 9)) (fun z=>by omega));have B27:=η (T7.heap (alloc_old B26.out (.cells #[.string ⟨#[61]⟩] 9)) (fun z=>by omega));have N7:=η (EN.turn (Kd.N_alloc N6.out (.cells #[.string ⟨#[61]⟩] 9)) T7 (fun k hk=>by omega));have X7:=η ((X6.out.alloc (.cells #[.string ⟨#[61]⟩] 9)).then T7 (fun i hi=> .inl hi));have hn7:n≤w7.heap.size:=by omega
   have hb7:b3<w7.heap.size:=by omega
   clear X6 B6 B26 N6 R6 hn6 hb6 hs7 T7 h1;have X6:=X7;have B6:=B7;have B26:=B27;have N6:=N7;have R6:=R7;have hn6:=hn7;have hb6:=hb7;clear X7 B7 B27 N7 R7 hn7 hb7;go_wp2_with fail
   have H4:=pbind_cases h2;clear h2;have XX:=η (X6.out.drew);have BB:w7.drew.heap[b3]? =some (.cells #[.int .i64 1,.string s,.string ⟨#[]⟩,.string ⟨#[]⟩,.slice none 0 0,.slice none 0 0,.slice none 0 0] 62):=B6.out;have BB:=η BB;have B2B:w7.drew.heap[b2]? =some box62:=B26.out;have B2B:=η B2B;have NN:EN w7.drew w.heap.size b2 b3 (.slice none 0 0) ([]:List S80):=N6.out;have NN:=η NN;have RD:Rd w7.drew n g l3:=R6.move (fun _ _=>rfl);have hnd:n≤w7.drew.heap.size:=hn6;have hb3:b3<w7.drew.heap.size:=hb6;clear X6 B6 B26 N6 R6 hn6 hb6;refine sr 8 (S:=fun W=>W.cell? ⟨b3,4,none⟩=some (.slice none 0 0)) (ds:=[7]) (heap7 BB.out).2.2.2.2.1 ?_;generalize w7.drew=wA at*;intro hH;refine pu 0 20 ?_;refine tk 1 21 hH ?_;refine pu 2 22 ?_;refine on 3 23 (fun K hK=> ?_);rcases H4 with⟨er,h1,rfl⟩|⟨y,l4,h1,h2⟩
   · refine callp_ Tryz.func46 (by kernel_rfl) (by kernel_rfl) #[.pointer (some ⟨g,0,none⟩),.int .i64 0] (by rfl) (by rfl) (by simp[Act.eval]) ?_
     refine(ex_at k 0 l3 _ _ n g h1 (by omega) RD hnd).mono ?_;rintro e w3 ⟨rfl,T3⟩;exact⟨_,rfl,rfl,rfl,XX.out.then T3 (fun i hi=> .inl hi)⟩
   refine PrintLast.goes_ Tryz.func46 (by kernel_rfl) (by kernel_rfl) #[.pointer (some ⟨g,0,none⟩),.int .i64 0] (by rfl) (by rfl) (by rfl) (by simp[Act.eval]) ?_;refine(ex_at k 0 l3 _ _ n g h1 (by omega) RD hnd).mono ?_;rintro e w3 ⟨A,c,rfl,V3,R3,T3⟩;have hs3:=T3.size;have B3:=η (T3.heap BB.out (fun z=>by omega));have B23:=η (T3.heap B2B.out (fun z=>by omega));have N3:=η (NN.out.turn T3 (fun k hk=>by omega));have X3:=XX.out.then T3 (fun i hi=> .inl hi);refine⟨_,rfl,hK.out _ _ (heap7 B3.out).2.2.2.2.1 (fun hH=> ?_)⟩;clear hK K;refine nm 23 ?_;refine on 4 24 (fun K hK=> ?_);refine PrintLast.value_ (w1:=w3.alloc (bx y A c)) (v:= .slice (some ⟨w3.heap.size,0,none⟩) 1 1) (by rfl) (by rfl) (by go_simp) ?_;refine hK.out _ _ (heap7 (alloc_old B3.out _)).2.2.2.2.1 (fun hH=> ?_);clear hK K;refine nm 24 ?_;refine on 5 25 (fun K hK=> ?_)
   refine Kd.N_append_step k80 w.heap.size (by simp[Region.wanted]) (.tmp 21) (.tmp 24) 60 80 (.agg #[(.int .i64 0),(.int .i64 0),(.string ⟨#[]⟩),(.string ⟨#[]⟩),(.slice none 0 0)]) 72 rfl Tryz.underlying60 info80 rfl (by decide) (by decide)
    (.slice none 0 0) ([]:List S80) y (cx y A c) (fun k=>w.heap.size≤k∧k≠b2∧k≠b3) (fun k=>wA.heap.size≤k∧k<w3.heap.size) rfl rfl (V3.old (fun k hk hlt=>⟨hk,hlt⟩)).FK (fun k hk=>⟨by omega,fun q=>by have:=Kd.N_lt NN.out k q.symm;omega⟩) (fun k hk=>by omega)
    N3.out (Below.refl _ _) (by omega) (by have:=HL.out;simp only[List.length_nil,List.length_append,List.length_cons]at*;omega) ?_
   intro v1 w5 N1 hb5 hg5 hat5;obtain⟨g5,cap5,hv1,hgb5,hgl5,_⟩:=Kd.N_form N1 (by simp);subst hv1;have T5:Turn (fun k=>(w.heap.size≤k∧k≠b2∧k≠b3)) w3 w5:=Turn.of_grown hg5 (fun k hk=> .inl (N3.out.1 k hk));have hs5:=T5.size;have B5:=η (T5.heap B3.out (fun z=>z.2.2 rfl));have B25:=η (T5.heap B23.out (fun z=>z.2.1 rfl));refine hK.out _ _ (heap7 B5.out).2.2.2.2.1 (fun hH=> ?_);clear hK K;refine nm 25 ?_;refine pu 6 26 ?_;refine la 7 (fun K hK=> ?_);obtain⟨e0,e1,e2,e3,e4,e5,e6,ef⟩:=heap7 B5.out;refine PrintLast.skip_ (w1:=w5.setCell ⟨b3,4,none⟩ (.slice (some ⟨g5,0,none⟩) (([]:List S80)++[y]).length cap5)) (by rfl) (by rfl) (by go_simp) ?_;refine hK.out _ _ ?_;refine PrintLast.done_ (by kernel_rfl) ?_;clear hK K hH;have T6:Turn (fun k=>k=b3) w5 (w5.setCell ⟨b3,4,none⟩ (.slice (some ⟨g5,0,none⟩) (([]:List S80)++[y]).length cap5)):=turn_at (Turn.refl _ _) 4 _;have B6:=η (set_field (i:=4) B5.out (.slice (some ⟨g5,0,none⟩) (([]:List S80)++[y]).length cap5) rfl);have B26:=η (T6.heap B25.out (fun z=>by omega));have N6:=η (EN.turn (b:=b2) (b':=b3) N1 T6 (fun k hk=>by omega));have R5:=R3.turn T5 (by omega) (fun k hk=>by omega);have R6:=R5.turn T6 (by omega) (fun k hk=>by omega);have X6:=η ((X3.then T5 (fun i hi=> .inr hi.1)).then T6 (fun i hi=> .inr (by omega)));have hs6:(w5.setCell ⟨b3,4,none⟩ (.slice (some ⟨g5,0,none⟩) (([]:List S80)++[y]).length cap5)).heap.size=w5.heap.size:=by simp
   have hn6:n≤(w5.setCell ⟨b3,4,none⟩ (.slice (some ⟨g5,0,none⟩) (([]:List S80)++[y]).length cap5)).heap.size:=by omega
   have hb6:b3<(w5.setCell ⟨b3,4,none⟩ (.slice (some ⟨g5,0,none⟩) (([]:List S80)++[y]).length cap5)).heap.size:=by omega
   clear e0 e1 e2 e3 e4 e5 e6 ef hat5 hg5 hb5 N1 N3 B3 B23 B5 B25 R3 R5 T3 T5 T6 X3 hs3 hs5 hs6 RD hnd XX BB B2B NN hb3 V3;generalize w5.setCell ⟨b3,4,none⟩ (.slice (some ⟨g5,0,none⟩) (([]:List S80)++[y]).length cap5)=w6 at*;clear hgl5 hgb5;have H3:=pbind_cases h2;clear h2;go_wp2_with fail
   rcases H3 with⟨er,h1,rfl⟩|⟨_,l5,h1,h2⟩
   · refine(skip_tok [59] h1 (R6.al hn6 (.cells #[.string ⟨#[59]⟩] 9)) _ (by simp)).mono ?_
     rintro e w7 ⟨rfl,T7⟩;go_wp2_with fail
     exact⟨rfl,rfl,(X6.out.alloc _).then T7 (fun i hi=> .inl hi)⟩
   refine(skip_tok [59] h1 (R6.al hn6 (.cells #[.string ⟨#[59]⟩] 9)) _ (by simp)).mono ?_;rintro e w7 ⟨rfl,R7,T7⟩;have hs7:=T7.size;simp at hs7;have B7:=η (T7.heap (alloc_old B6.out (.cells #[.string ⟨#[59]⟩] 9)) (fun z=>by omega));have B27:=η (T7.heap (alloc_old B26.out (.cells #[.string ⟨#[59]⟩] 9)) (fun z=>by omega));have N7:=η (EN.turn (Kd.N_alloc N6.out (.cells #[.string ⟨#[59]⟩] 9)) T7 (fun k hk=>by omega));have X7:=η ((X6.out.alloc (.cells #[.string ⟨#[59]⟩] 9)).then T7 (fun i hi=> .inl hi));have hn7:n≤w7.heap.size:=by omega
   have hb7:b3<w7.heap.size:=by omega
   clear X6 B6 B26 N6 R6 hn6 hb6 hs7 T7 h1;have X6:=X7;have B6:=B7;have B26:=B27;have N6:=N7;have R6:=R7;have hn6:=hn7;have hb6:=hb7;clear X7 B7 B27 N7 R7 hn7 hb7;obtain rfl:=Option.some.inj h2;obtain⟨e0,e1,e2,e3,e4,e5,e6,ef⟩:=heap7 B6.out;obtain⟨d0,d1,d2,d3,d4,d5,d6,df⟩:=heap7 B26.out;clear ef;go_wp2_with fail
   refine ret62 2 rfl rfl B26.out (fun W s1 s2=> ?_);have R8:=R6.turn s2 (by omega) (fun k hk=>by omega);have X8:=X6.out.then s2 (fun i hi=> .inr (by omega));have G4:=Kd.F_step (Kd.N_F N6.out) (fun k hk hlt=>s2.block k hlt (fun q=>hk.2.1 q));have L4:=(Kd.N_reads' N6.out).2.1;exact⟨_,_,none,0,none,0,rfl,⟨L4,Kd.F_mono G4 (fun k hk=>hk.1),Nat.le_refl _,Kd.F_nil _ _ _,Nat.le_refl _,Kd.F_nil _ _ _⟩,R8,X8⟩
theorem addr_add (b o m:Nat):(⟨b,o,none⟩:Addr).add m=⟨b,o+m,none⟩:=by
 unfold Addr.add;by_cases h:m=0
 · subst h;simp
 · simp[h]
structure DR (W:World) (b o c:Nat) (l:List S42):Prop where
 cap:l.length≤c
 len:l.length≤900000000
 row:Kd.C k42 W (some ⟨b,o,none⟩) l.length l
theorem DR.below {W W':World} {b o c:Nat} {l:List S42} (h:DR W b o c l) (hb:Below W.heap.size W W'):DR W' b o c l:=⟨h.cap,h.len,Kd.C_below h.row hb⟩
theorem DR.turn {W W':World} {b o c:Nat} {l:List S42} (h:DR W b o c l) (hb:Turn (fun _=>False) W W'):DR W' b o c l:=h.below (hb.below (fun _ z=>z.elim) (Nat.le_refl _))
theorem DR.at {W:World} {b o c:Nat} {l:List S42} (h:DR W b o c l) {i:Nat} {t:S42} (ht:l[i]? =some t):
 W.cell? ⟨b,o+i*5,none⟩=some (.string t.f0)∧W.cell? ⟨b,o+i*5+1,none⟩=some (.int .i64 t.f1)∧W.cell? ⟨b,o+i*5+2,none⟩=some (.int .u8 t.f2)∧W.cell? ⟨b,o+i*5+3,none⟩=some (.int .i64 t.f3)∧W.cell? ⟨b,o+i*5+4,none⟩=some (.int .i64 t.f4):=by
 have hi:=(List.getElem?_eq_some_iff.mp ht).1;obtain⟨ad,e,e0,e1,e2,e3,e4⟩:=at_T42 h.row (i:Int) (by omega) (by omega);obtain rfl:=Option.some.inj e
 have hr:rd_T42 l (i:Int)=t:=by
  unfold rd_T42;rw[Int.toNat_natCast,List.getD_eq_getElem?_getD,ht];rfl
 rw[hr,Int.toNat_natCast,addr_add]at e0 e1 e2 e3 e4;exact⟨e0,e1,e2,e3,e4⟩
theorem info42s:∃i,Tryz.prog.info? 42=some i∧i.size=5:=by
 obtain⟨i,h,h2⟩:=Option.map_eq_some_iff.mp info42;injection h2 with h2 h3
 injection h3 with h3 h4
 exact⟨i,h,h3⟩
theorem DR.seg {W:World} {b o c:Nat} {l:List S42} (h:DR W b o c l) (p s q:List S42) (e:l=p++(s++q)) (lo hi:Int) (hlo:lo=p.length) (hhi:hi=p.length+s.length):
 ∃o' c',(∀W':World,Sem.run Tryz.prog (Instr.slice 37 (.slice (some ⟨b,o,none⟩) l.length c) (some (.int .i64 lo)) (some (.int .i64 hi)) none) W'= .ok (.slice (some ⟨b,o',none⟩) s.length c') W')∧DR W b o' c' s:=by
 obtain⟨i,hi42,hsz⟩:=info42s;subst e;have hl:(p++(s++q)).length=p.length+(s.length+q.length):=by simp
 have hcap:=h.cap;have hlen:=h.len;rw[hl]at hcap hlen;have hc:=cut_mid (P:=Tryz.prog) 37 42 .i64 .i64 Tryz.underlying37 hi42 5 hsz (some ⟨b,o,none⟩) (p++(s++q)).length c lo hi (by omega) (by omega) (by omega) (by omega);have hC:=Kd.C_drop (m:=p.length) (c:=c) (Kd.C_take (m:=p.length+s.length) h.row (by omega)) (by rw[List.length_take];omega) (by rw[List.length_take];omega)
 have hs:((p++(s++q)).take (p.length+s.length)).drop p.length=s:=by
  rw[List.take_append,List.drop_append];simp
 rw[hs]at hC;have e1:lo.toNat=p.length:=by omega
 have e2:hi.toNat-lo.toNat=s.length:=by omega
 rw[e2,e1]at hc;by_cases hcp:c=p.length
 · rw[if_pos hcp]at hc hC
   exact⟨o,_,hc,⟨by omega,by omega,hC⟩⟩
 · rw[if_neg hcp]at hc hC
   have k5:k42.sz=5:=rfl;have ea:Option.map (fun x:Addr=>x.add (p.length*5)) (some ⟨b,o,none⟩)=some ⟨b,o+p.length*5,none⟩:=by rw[Option.map_some,addr_add]
   rw[k5]at hC;rw[ea]at hc hC;exact⟨o+p.length*5,_,hc,⟨by omega,by omega,hC⟩⟩
theorem str_row {W:World} {g:Nat} {xs:List Bs} (hg:W.heap[g]? =some (.cells (xs.map Value.string).toArray 9 (0,0))) (hx:xs.length≤1000000):Kd.C Kd.string W (some ⟨g,0,none⟩) xs.length xs:=by
 refine⟨rfl,by omega,fun hp=>⟨⟨g,0,none⟩,rfl,fun i x hx=>⟨[.string x],rfl,rfl,fun j u hu=> ?_⟩⟩⟩;rcases j with _|j
 · obtain rfl:=Option.some.inj hu
   rw[addr_add];have e:Kd.string.sz=1:=rfl;rw[e,Nat.mul_one,Nat.zero_add,Nat.add_zero];show(match W.heap[g]? with|some (.cells cs _ _)=>cs[i]? |_=>none)=_;rw[hg];simp[hx]
 · simp at hu
theorem is_ms (t:S42) (ms:List (List UInt8)) (h:ms.length<1000000):larderref23_is.f 0 t.f0 t.f1 t.f2 t.f3 t.f4 (ms.map B)=some (ms.any (fun m=>decide (isM t m))):=by
 unfold larderref23_is.f;rw[if_pos (by simp;omega),List.any_map];congr 2;funext m;show decide (t.f2=109∧t.f0.toList=(B m).toList)=_;rw[B_toList];rfl
theorem until_call {W:World} {b o c:Nat} {l:List S42} (D:DR W b o c l) (hs:Small l) (ms:List (List UInt8)) (hms:ms.length<1000000) (i j:Nat) (hi:i≤l.length) (hu:unt ms 0 i (l.drop i)=some j) (z:Int) (hz:z=(i:Int)) (g:Nat)
 (hg:W.heap[g]? =some (.cells ((ms.map B).map Value.string).toArray 9 (0,0))) (n:Nat) (hn:n=ms.length):
 Calls Tryz.prog 62 #[.slice (some ⟨b,o,none⟩) l.length c,.int .i64 z,.slice (some ⟨g,0,none⟩) n n] W fun e w'=>e= .returned (.int .i64 (j:Int))∧Below W.heap.size W w':=by
 subst hz;subst hn;have HR:=η D.row;have HS:=η (str_row (xs:=ms.map B) hg (by simp;omega));have hc:=η hs.2;have hlen:=hs.1;clear D hs hg;go_enter Tryz.func62,Tryz.ntmps62;go_upto_region 2 with fail
 go_loopg [1,7] (l.length+1) (fun kq v1 v7 w'=>∃(p:Nat) (d:Int),v1= .int .i64 (p:Int)∧v7= .int .i64 d∧p≤l.length∧l.length<kq+p∧ -(p:Int)≤d∧d≤p∧unt ms d p (l.drop p)=some j∧Below W.heap.size W w')
 case atStart=>exact⟨i,0,rfl,rfl,hi,by omega,by omega,by omega,hu,Below.refl _ _⟩
 case round=>
  clear hu hi;obtain⟨p,d,rfl,rfl,hp,hk,hd0,hd1,hu,hwr⟩:=hrel
  have hlt:p<l.length:=by
   rcases Nat.lt_or_ge p l.length with z|z
   · exact z
   · rw[List.drop_of_length_le z,unt]at hu;cases hu
  have c1:(p:Int)<(l.length:Int):=by omega
  obtain⟨ad,e,y0,y1,y2,y3,y4⟩:=at_T42 (Kd.C_below HR.out hwr) (p:Int) (by omega) c1;cases e;rw[rd_at l p hlt]at y0 y1 y2 y3 y4;simp only[Int.toNat_natCast,addr_add]at y0 y1 y2 y3 y4;have hm:=hc.out _ (List.getElem_mem hlt);rw[List.drop_eq_getElem_cons hlt,unt]at hu;have IC:=η (is_ms l[p] ms hms);generalize l[p]=t at*;generalize ms.any (fun m=>decide (isM t m))=q at*
  have IS:=η (fun(w':World) (H:Below W.heap.size W w')=>by
   have q:=larderref23_is.calls 0 t.f0 t.f1 t.f2 t.f3 t.f4 (some ⟨g,0,none⟩) ms.length (ms.map B) q w' (Kd.C_below HS.out H) (by simp) IC.out;rw[List.length_map]at q;exact q)
  replace hwr:=η hwr;have ew:IntKind.i64.wrap ((p:Int)+1)=((p+1:Nat):Int):=(YtbemddpmohoooaaGreatDoorW.PrintLast.i64_w _).trans ((wrap_id (by omega) (by omega)).trans (by omega));have ed:IntKind.i64.wrap (d+t.f4)=d+t.f4:=(YtbemddpmohoooaaGreatDoorW.PrintLast.i64_w _).trans (wrap_id (by omega) (by omega));clear IC;by_cases h0:0<d
  · rw[if_neg (fun q=>by omega)]at hu
    replace hu:=η hu;go_wp2;go_roundg (l.length-p)
    case measure=>omega
    case rel=>exact⟨p+1,d+t.f4,by first|rfl|rw[ew],by first|rfl|rw[ed],by omega,by omega,by omega,by omega,hu.out,hwr.out⟩
  · cases q with
    |true=>
     rw[if_pos ⟨by omega,rfl⟩]at hu;obtain rfl:=Option.some.inj hu;go_wp2_with(first|(go_at_call 12;refine(IS.out _ hwr.out).mono ?_;rintro e w2 ⟨rfl,H2⟩;have X2:=η (below_step hwr.out H2);clear H2))
     go_ret;exact⟨rfl,X2.out⟩
    |false=>
     rw[if_neg (fun q=>by cases q.2)]at hu;replace hu:=η hu;have IY:=η (fun(w':World) (H:Below wr.heap.size wr w')=>And.intro ((H.cell (World.block_lt_of_cell? wr _ y4)).trans y4) trivial);go_wp2_with(first|(go_at_call 12;refine(IS.out _ hwr.out).mono ?_;rintro e w2 ⟨rfl,H2⟩;have X2:=η (below_step hwr.out H2);have y5:=(IY.out w2 H2).1;clear H2))
     go_roundg (l.length-p)
     case measure=>omega
     case rel=>exact⟨p+1,d+t.f4,by first|rfl|rw[ew],by first|rfl|rw[ed],by omega,by omega,by omega,by omega,hu.out,X2.out⟩
theorem is_call1 {W:World} (t:S42) (m:List UInt8) (g:Nat) (hg:W.heap[g]? =some (.cells #[.string (B m)] 9 (0,0))):
 Calls Tryz.prog 12 #[.agg #[.string t.f0,.int .i64 t.f1,.int .u8 t.f2,.int .i64 t.f3,.int .i64 t.f4],.slice (some ⟨g,0,none⟩) 1 1] W fun e w'=>e= .returned (.bool (decide (isM t m)))∧Below W.heap.size W w':=by
 obtain⟨k,hk⟩:∃k,larderref23_is.f k t.f0 t.f1 t.f2 t.f3 t.f4 [⟨m.toArray⟩]=some (decide (isM t m)):=⟨0,is_B t m⟩;exact larderref23_is.calls k _ _ _ _ _ (some ⟨g,0,none⟩) 1 [B m] _ W (str_row (xs:=[B m]) hg (by simp)) (by simp) hk
def DsPost (w:World) (s:S62) (j:Nat) (e:Ending) (w':World):Prop:=
 ∃A4 c4 A5 c5 A6 c6,e= .returned (.tuple #[.agg #[.int .i64 s.f0,.string s.f1,.string s.f2,.string s.f3,.slice A4 s.f4.length c4,.slice A5 s.f5.length c5,.slice A6 s.f6.length c6],.int .i64 (j:Int)])∧VS w' (fun k=>w.heap.size≤k) s A4 c4 A5 c5 A6 c6∧Turn (fun _=>False) w w'
def DbPost (w:World) (l:List S62) (j:Nat) (e:Ending) (w':World):Prop:=
 ∃A c,e= .returned (.tuple #[.slice A l.length c,.int .i64 (j:Int)])∧l.length≤c∧Kd.F k62 w' (fun k=>w.heap.size≤k) A l.length l∧Turn (fun _=>False) w w'
def DtPost (w:World) (l:List S62) (e:Ending) (w':World):Prop:=
 ∃A c,e= .returned (.slice A l.length c)∧l.length≤c∧Kd.F k62 w' (fun k=>w.heap.size≤k) A l.length l∧Turn (fun _=>False) w w'
def DOne (n:Nat):Prop:=∀(c:List S42) (s:S62),c.length≤n→Stm c s→∀(p r:List S42) (W:World) (b o cp:Nat),Toks (p++(c++r))→NoElse r→DR W b o cp (p++(c++r))→
 Calls Tryz.prog 31 #[.slice (some ⟨b,o,none⟩) (p++(c++r)).length cp,.int .i64 (p.length:Int)] W (DsPost W s (p.length+c.length))
def DCond (n:Nat):Prop:=∀(c:List S42) (s:S62),c.length≤n→Cond c s→∀(p r:List S42) (W:World) (b o cp:Nat),Toks (p++(c++r))→NoElse r→DR W b o cp (p++(c++r))→
 Calls Tryz.prog 64 #[.slice (some ⟨b,o,none⟩) (p++(c++r)).length cp,.int .i64 (p.length:Int)] W (DsPost W s (p.length+c.length))
def DBlk (n:Nat):Prop:=∀(c:List S42) (l:List S62),c.length≤n→Blk c l→∀(p r:List S42) (W:World) (b o cp:Nat),Toks (p++(c++r))→DR W b o cp (p++(c++r))→
 Calls Tryz.prog 65 #[.slice (some ⟨b,o,none⟩) (p++(c++r)).length cp,.int .i64 (p.length:Int)] W (DbPost W l (p.length+c.length))
def DStms (n:Nat):Prop:=∀(c:List S42) (l:List S62),c.length≤n→Stms c l→∀(W:World) (b o cp:Nat),Toks c→DR W b o cp c→
 Calls Tryz.prog 13 #[.slice (some ⟨b,o,none⟩) c.length cp] W (DtPost W l)
end Go.Proofs.YtbemddpmohoooaaGreatDoor
