import Derived.Test.YtbemddpmohoooaaGreatDoorQ17
import Derived.Defers
import Derived.Recover
import Derived.BigRegion
set_option linter.unusedVariables false
set_option linter.unusedSimpArgs false
set_option linter.unusedSectionVars false
set_option maxHeartbeats 128000000
set_option maxRecDepth 100000
namespace Go.Proofs.YtbemddpmohoooaaGreatDoor
open PShelfFormats RowKit YtbemddpmohoooaaGreatDoorW YtbemddpmohoooaaGreatDoorW.PrintWords
theorem st_fin {w W W2:World} {n g b2:Nat} {s:S62} {A4:Option Addr} {c4:Nat} {A5:Option Addr} {c5:Nat} {A6:Option Addr} {c6:Nat} {l:List S42} {ok:Nat→Prop} (hn:n≤w.heap.size) (h2:w.heap.size≤b2) (V:VS W ok s A4 c4 A5 c5 A6 c6) (hok:∀k,ok k→w.heap.size≤k∧k≠b2)
 (R:Rd W n g l) (T:Turn (fun k=>k=g) w W) (s2:Turn (fun k=>k=b2) W W2):
 StPost w n g (.ok (s,l)) (.returned (.agg #[.int .i64 s.f0,.string s.f1,.string s.f2,.string s.f3,.slice A4 s.f4.length c4,.slice A5 s.f5.length c5,.slice A6 s.f6.length c6])) W2:=
 ⟨A4,c4,A5,c5,A6,c6,rfl,(V.turn s2 (fun k hk q=>(hok k q).2 hk)).mono (fun k hk=>(hok k hk).1),R.turn s2 (Nat.le_trans hn T.size) (fun k hk=>by omega),T.then s2 (fun i hi=> .inr (by omega))⟩
theorem VS.bare {w:World} {ok:Nat→Prop} {s:S62} (h4:s.f4=[]) (h5:s.f5=[]) (h6:s.f6=[]):VS w ok s none 0 none 0 none 0:=
 ⟨by rw[h4];exact Nat.le_refl _,by rw[h4];exact Kd.F_nil _ _ _,by rw[h5];exact Nat.le_refl _,by rw[h5];exact Kd.F_nil _ _ _,by rw[h6];exact Nat.le_refl _,by rw[h6];exact Kd.F_nil _ _ _⟩
theorem st_set (k:Nat) (l:List S42) (o:Except (Int×Int) (S62×List S42)) (w:World) (n g:Nat) (hk0:(hd l).f2=110) (h:pSet k l=some o) (R:Rd w n g l) (hn:n≤w.heap.size):
 Calls Tryz.prog 21 #[.pointer (some ⟨g,0,none⟩)] w (StPost w n g o):=by
 have hg:=Nat.lt_of_lt_of_le R.gn hn;have T0:=η ((Turn.refl (fun k=>k=g) w).alloc box62);have HB:=η (alloc_new w box62);have HS:=η (show(w.alloc box62).heap.size=w.heap.size+1 by simp);have R0:=R.al hn box62;obtain⟨b,ofs,q,cc,z1,z2,z3,z4,c0,f0,t0,t1,t2,hadv⟩:=R0.cells;have z5:0<q+1:=by omega
 have k3:(kd (hd l).f2==2)=true:=by rw[beq_iff_eq];exact kd_eq.2.1.2 hk0
 generalize kd (hd l).f2=kk at*;have H:=η h;clear R h hk0 hadv;go_enter Tryz.func21,Tryz.ntmps21;go_upto_region 1 with fail
 generalize w.alloc box62=w0 at*;obtain⟨b2,hb2⟩:∃b,b=w.heap.size:=⟨_,rfl⟩;rw[← hb2]at HB HS;rw[← hb2];have hw0:b2<w0.heap.size:=by have:=HS.out;omega
 have h2w:b2≤w.heap.size∧w.heap.size≤b2:=by omega
 have hwn:n≤w0.heap.size:=by have:=HS.out;omega
 have hgb:g<b2:=by omega
 clear hb2;go_wp2_with fail
 have X1:=T0;have B1:=HB;clear c0 t0 t1 t2 f0;refine(set_call k l o _ n g H.out R0 hwn).mono ?_;rintro e w2 hp;cases o with
 |error er=>
  obtain⟨rfl,T2⟩:=hp;go_wp2_with fail
  exact⟨rfl,rfl,X1.out.then T2 (fun i hi=> .inl hi)⟩
 |ok y=>
  obtain⟨s,l2⟩:=y;obtain⟨A4,c4,A5,c5,A6,c6,rfl,V,R2,T2⟩:=hp;have hs2:=T2.size;have B2:=η (T2.heap B1.out (fun z=>by omega));obtain⟨d0,d1,d2,d3,d4,d5,d6,df⟩:=heap7 B2.out;go_wp2_with fail
  exact ret62 2 rfl rfl B2.out (fun W s1 s2=>st_fin hn h2w.2 V (fun k hk=>by omega) R2 (X1.out.then T2 (fun i hi=> .inl hi)) s2)
theorem st_print (k:Nat) (l:List S42) (o:Except (Int×Int) (S62×List S42)) (w:World) (n g:Nat) (hk0:(hd l).f2≠110) (hm0:¬isM (hd l) [100,101,108,101,116,101]) (hm1:¬isM (hd l) [99,108,101,97,114]) (hm:isM (hd l) [112,114,105,110,116]) (h:pPrint k l.tail=some o) (R:Rd w n g l) (hn:n≤w.heap.size):
 Calls Tryz.prog 21 #[.pointer (some ⟨g,0,none⟩)] w (StPost w n g o):=by
 have hg:=Nat.lt_of_lt_of_le R.gn hn;have T0:=η ((Turn.refl (fun k=>k=g) w).alloc box62);have HB:=η (alloc_new w box62);have HS:=η (show(w.alloc box62).heap.size=w.heap.size+1 by simp);have R0:=R.al hn box62;obtain⟨b,ofs,q,cc,z1,z2,z3,z4,c0,f0,t0,t1,t2,hadv⟩:=R0.cells;have z5:0<q+1:=by omega
 have k3:(kd (hd l).f2==2)=false:=by rw[beq_eq_false_iff_ne];exact fun z=>hk0 (kd_eq.2.1.1 z)
 generalize kd (hd l).f2=kk at*;have N0:=η (got_no R0 ⟨#[100,101,108,101,116,101]⟩ (notM_lit hm0));have N1:=η (got_no R0 ⟨#[99,108,101,97,114]⟩ (notM_lit hm1));have G1:=η (got_yes R0 ⟨#[112,114,105,110,116]⟩ (isM_lit hm));have H:=η h;clear hm R h hk0 hadv hm0 hm1;go_enter Tryz.func21,Tryz.ntmps21;go_upto_region 1 with fail
 generalize w.alloc box62=w0 at*;obtain⟨b2,hb2⟩:∃b,b=w.heap.size:=⟨_,rfl⟩;rw[← hb2]at HB HS;rw[← hb2];have hw0:b2<w0.heap.size:=by have:=HS.out;omega
 have h2w:b2≤w.heap.size∧w.heap.size≤b2:=by omega
 have hwn:n≤w0.heap.size:=by have:=HS.out;omega
 have hgb:g<b2:=by omega
 clear hb2;go_wp2_with fail
 refine N0.out.mono ?_;rintro e w' ⟨rfl,rfl⟩;go_wp2_with fail
 refine N1.out.mono ?_;rintro e w' ⟨rfl,rfl⟩;go_wp2_with fail
 refine G1.out.mono ?_;rintro e w1 ⟨rfl,R1,T1⟩;have hs1:=T1.size;have B1:=η (T1.heap HB.out (fun z=>by omega));have X1:=η (T0.out.then T1 (fun i hi=> .inl hi));clear G1 T1 c0 t0 t1 t2 f0;go_wp2_with fail
 refine(print_call k l.tail o _ n g H.out R1 (by omega)).mono ?_;rintro e w2 hp;cases o with
 |error er=>
  obtain⟨rfl,T2⟩:=hp;go_wp2_with fail
  exact⟨rfl,rfl,X1.out.then T2 (fun i hi=> .inl hi)⟩
 |ok y=>
  obtain⟨s,l2⟩:=y;obtain⟨A4,c4,A5,c5,A6,c6,rfl,V,R2,T2⟩:=hp;have hs2:=T2.size;have B2:=η (T2.heap B1.out (fun z=>by omega));obtain⟨d0,d1,d2,d3,d4,d5,d6,df⟩:=heap7 B2.out;go_wp2_with fail
  exact ret62 2 rfl rfl B2.out (fun W s1 s2=>st_fin hn h2w.2 V (fun k hk=>by omega) R2 (X1.out.then T2 (fun i hi=> .inl hi)) s2)
theorem st_if (k:Nat) (l:List S42) (o:Except (Int×Int) (S62×List S42)) (w:World) (n g:Nat) (CO:CoAt k) (hk0:(hd l).f2≠110) (hm0:¬isM (hd l) [100,101,108,101,116,101]) (hm1:¬isM (hd l) [99,108,101,97,114]) (hm2:¬isM (hd l) [112,114,105,110,116]) (hm:isM (hd l) [105,102]) (h:pCond k l.tail=some o) (R:Rd w n g l) (hn:n≤w.heap.size):
 Calls Tryz.prog 21 #[.pointer (some ⟨g,0,none⟩)] w (StPost w n g o):=by
 have hg:=Nat.lt_of_lt_of_le R.gn hn;have T0:=η ((Turn.refl (fun k=>k=g) w).alloc box62);have HB:=η (alloc_new w box62);have HS:=η (show(w.alloc box62).heap.size=w.heap.size+1 by simp);have R0:=R.al hn box62;obtain⟨b,ofs,q,cc,z1,z2,z3,z4,c0,f0,t0,t1,t2,hadv⟩:=R0.cells;have z5:0<q+1:=by omega
 have k3:(kd (hd l).f2==2)=false:=by rw[beq_eq_false_iff_ne];exact fun z=>hk0 (kd_eq.2.1.1 z)
 generalize kd (hd l).f2=kk at*;have N0:=η (got_no R0 ⟨#[100,101,108,101,116,101]⟩ (notM_lit hm0));have N1:=η (got_no R0 ⟨#[99,108,101,97,114]⟩ (notM_lit hm1));have N2:=η (got_no R0 ⟨#[112,114,105,110,116]⟩ (notM_lit hm2));have G1:=η (got_yes R0 ⟨#[105,102]⟩ (isM_lit hm));have H:=η h;clear hm R h hk0 hadv hm0 hm1 hm2;go_enter Tryz.func21,Tryz.ntmps21;go_upto_region 1 with fail
 generalize w.alloc box62=w0 at*;obtain⟨b2,hb2⟩:∃b,b=w.heap.size:=⟨_,rfl⟩;rw[← hb2]at HB HS;rw[← hb2];have hw0:b2<w0.heap.size:=by have:=HS.out;omega
 have h2w:b2≤w.heap.size∧w.heap.size≤b2:=by omega
 have hwn:n≤w0.heap.size:=by have:=HS.out;omega
 have hgb:g<b2:=by omega
 clear hb2;go_wp2_with fail
 refine N0.out.mono ?_;rintro e w' ⟨rfl,rfl⟩;go_wp2_with fail
 refine N1.out.mono ?_;rintro e w' ⟨rfl,rfl⟩;go_wp2_with fail
 refine N2.out.mono ?_;rintro e w' ⟨rfl,rfl⟩;go_wp2_with fail
 refine G1.out.mono ?_;rintro e w1 ⟨rfl,R1,T1⟩;have hs1:=T1.size;have B1:=η (T1.heap HB.out (fun z=>by omega));have X1:=η (T0.out.then T1 (fun i hi=> .inl hi));clear G1 T1 c0 t0 t1 t2 f0;go_wp2_with fail
 refine(CO l.tail o _ n g H.out R1 (by omega)).mono ?_;rintro e w2 hp;cases o with
 |error er=>
  obtain⟨rfl,T2⟩:=hp;go_wp2_with fail
  exact⟨rfl,rfl,X1.out.then T2 (fun i hi=> .inl hi)⟩
 |ok y=>
  obtain⟨s,l2⟩:=y;obtain⟨A4,c4,A5,c5,A6,c6,rfl,V,R2,T2⟩:=hp;have hs2:=T2.size;have B2:=η (T2.heap B1.out (fun z=>by omega));obtain⟨d0,d1,d2,d3,d4,d5,d6,df⟩:=heap7 B2.out;go_wp2_with fail
  exact ret62 2 rfl rfl B2.out (fun W s1 s2=>st_fin hn h2w.2 V (fun k hk=>by omega) R2 (X1.out.then T2 (fun i hi=> .inl hi)) s2)
theorem st_delete (k:Nat) (l:List S42) (o:Except (Int×Int) (S62×List S42)) (w:World) (n g:Nat) (hk0:(hd l).f2≠110) (hm:isM (hd l) [100,101,108,101,116,101]) (h:pbind pname (fun s=>pbind (pKey k) (fun x=>pbind (ptok [59]) (fun _=>pok {st 3 with f1:=s,f4:=[x]}))) l.tail=some o) (R:Rd w n g l) (hn:n≤w.heap.size):
 Calls Tryz.prog 21 #[.pointer (some ⟨g,0,none⟩)] w (StPost w n g o):=by
 have hg:=Nat.lt_of_lt_of_le R.gn hn;have T0:=η ((Turn.refl (fun k=>k=g) w).alloc box62);have HB:=η (alloc_new w box62);have HS:=η (show(w.alloc box62).heap.size=w.heap.size+1 by simp);have R0:=R.al hn box62;obtain⟨b,ofs,q,cc,z1,z2,z3,z4,c0,f0,t0,t1,t2,hadv⟩:=R0.cells;have z5:0<q+1:=by omega
 have k3:(kd (hd l).f2==2)=false:=by rw[beq_eq_false_iff_ne];exact fun z=>hk0 (kd_eq.2.1.1 z)
 generalize kd (hd l).f2=kk at*;have G1:=η (got_yes R0 ⟨#[100,101,108,101,116,101]⟩ (isM_lit hm));have H:=pbind_cases h;clear hm R h hk0 hadv;go_enter Tryz.func21,Tryz.ntmps21;go_upto_region 1 with fail
 generalize w.alloc box62=w0 at*;obtain⟨b2,hb2⟩:∃b,b=w.heap.size:=⟨_,rfl⟩;rw[← hb2]at HB HS;rw[← hb2];have hw0:b2<w0.heap.size:=by have:=HS.out;omega
 have h2w:b2≤w.heap.size∧w.heap.size≤b2:=by omega
 have hwn:n≤w0.heap.size:=by have:=HS.out;omega
 have hgb:g<b2:=by omega
 clear hb2;go_wp2_with fail
 refine G1.out.mono ?_;rintro e w1 ⟨rfl,R1,T1⟩;have hs1:=T1.size;have B1:=η (T1.heap HB.out (fun z=>by omega));have X1:=η (T0.out.then T1 (fun i hi=> .inl hi));clear G1 T1 c0 t0 t1 t2 f0;go_wp2_with fail
 rcases H with⟨er,h1,rfl⟩|⟨s,l2,h1,h2⟩
 · refine(name_tok h1 R1 (by omega)).mono ?_
   rintro e w2 ⟨rfl,T2⟩;go_wp2_with fail
   exact⟨rfl,rfl,X1.out.then T2 (fun i hi=> .inl hi)⟩
 refine(name_tok h1 R1 (by omega)).mono ?_;rintro e w2 ⟨rfl,R2,T2⟩;have H2:=pbind_cases h2;clear h2;have hs2:=T2.size;have B12:=η (T2.heap B1.out (fun z=>by omega));have X12:=X1.out.then T2 (fun i hi=> .inl hi);obtain⟨b3,he3⟩:∃b,b=w2.heap.size:=⟨_,rfl⟩;have X:=η (X12.alloc (.cells #[.int .i64 3,.string s,.string ⟨#[]⟩,.string ⟨#[]⟩,.slice none 0 0,.slice none 0 0,.slice none 0 0] 62));have BX:(w2.alloc (.cells #[.int .i64 3,.string s,.string ⟨#[]⟩,.string ⟨#[]⟩,.slice none 0 0,.slice none 0 0,.slice none 0 0] 62)).heap[w2.heap.size]? =some (.cells #[.int .i64 3,.string s,.string ⟨#[]⟩,.string ⟨#[]⟩,.slice none 0 0,.slice none 0 0,.slice none 0 0] 62):=alloc_new w2 _;have B2:=η (alloc_old B12.out (.cells #[.int .i64 3,.string s,.string ⟨#[]⟩,.string ⟨#[]⟩,.slice none 0 0,.slice none 0 0,.slice none 0 0] 62));have R:=R2.al (by omega) (.cells #[.int .i64 3,.string s,.string ⟨#[]⟩,.string ⟨#[]⟩,.slice none 0 0,.slice none 0 0,.slice none 0 0] 62);have hnw:n≤(w2.alloc (.cells #[.int .i64 3,.string s,.string ⟨#[]⟩,.string ⟨#[]⟩,.slice none 0 0,.slice none 0 0,.slice none 0 0] 62)).heap.size:=by simp;omega
 have hbw:b3<(w2.alloc (.cells #[.int .i64 3,.string s,.string ⟨#[]⟩,.string ⟨#[]⟩,.slice none 0 0,.slice none 0 0,.slice none 0 0] 62)).heap.size:=by simp;omega
 have hb23:b2<b3:=by omega
 rw[← he3]at BX;have BX:=η BX;clear h1 R2 T2 hs2 B12 X12 B1 X1;go_upto_region 5 with fail
 rw[← he3];clear he3;generalize w2.alloc (.cells #[.int .i64 3,.string s,.string ⟨#[]⟩,.string ⟨#[]⟩,.slice none 0 0,.slice none 0 0,.slice none 0 0] 62)=w3 at*;clear w2;go_wp2_with fail
 rcases H2 with⟨er,h1,rfl⟩|⟨x,l3,h1,h2⟩
 · refine(key_at k l2 _ _ n g h1 R hnw).mono ?_
   rintro e w4 ⟨rfl,T4⟩;go_wp2_with fail
   exact⟨rfl,rfl,X.out.then T4 (fun i hi=> .inl hi)⟩
 refine(key_at k l2 _ _ n g h1 R hnw).mono ?_;rintro e w4 ⟨A,c,rfl,V,Rn,T4⟩;have H3:=pbind_cases h2;have hs4:=T4.size;clear R;have R:=Rn;clear Rn;have Xn:=η (X.out.then T4 (fun i hi=> .inl hi));have B2n:=η (T4.heap B2.out (fun z=>by omega));have BXn:=η (T4.heap BX.out (fun z=>by omega));clear X;have X:=Xn;clear Xn;clear B2;have B2:=B2n;clear B2n;clear BX;have BX:=BXn;clear BXn;obtain⟨e0,e1,e2,e3,e4,e5,e6,ef⟩:=heap7 BX.out;have hlt:b3<w4.heap.size:=by omega
 go_upto_region 6 with fail
 clear e0 e1 e2 e3 e4 e5 e6 ef;have T5:Turn (fun k=>k=b3) w4 (w4.setCell ⟨b3,4,none⟩ (.slice (some ⟨w4.heap.size,0,none⟩) 1 1)):=turn_at (Turn.refl _ _) 4 _;have hsz:(w4.setCell ⟨b3,4,none⟩ (.slice (some ⟨w4.heap.size,0,none⟩) 1 1)).heap.size=w4.heap.size:=by simp
 have BXn:=η (alloc_old (set_field (i:=4) BX.out (.slice (some ⟨w4.heap.size,0,none⟩) 1 1) rfl) (bx x A c));have G4:=lit1 (ok':=fun k=>w.heap.size≤k∧k≠b2∧k≠b3) (V.turn T5 (fun k hk=>by omega)) (fun k hk=>by have:=X.out.size;omega);rw[hsz]at G4;have G4:=η G4;have Rn:=(R.turn T5 (by omega) (fun k hk=>by omega)).al (by omega) (bx x A c);clear BX;have BX:=BXn;clear BXn;clear R;have R:=Rn;clear Rn;have Xn:=η (X.out.then T5 (fun i hi=> .inr (by omega)));have B2n:=η (T5.heap B2.out (fun z=>by omega));clear X;have X:=Xn;clear Xn;clear B2;have B2:=B2n;clear B2n;have Xn:=η (X.out.alloc (bx x A c));have B2n:=η (alloc_old B2.out (bx x A c));have hnwn:n≤((w4.setCell ⟨b3,4,none⟩ (.slice (some ⟨w4.heap.size,0,none⟩) 1 1)).alloc (bx x A c)).heap.size:=by simp;omega
 have hbwn:b3<((w4.setCell ⟨b3,4,none⟩ (.slice (some ⟨w4.heap.size,0,none⟩) 1 1)).alloc (bx x A c)).heap.size:=by simp;omega
 clear X;have X:=Xn;clear Xn;clear B2;have B2:=B2n;clear B2n;clear hnw hbw T5 T4 hs4 h1 h2 hlt hsz V;have hnw:=hnwn;have hbw:=hbwn;clear hnwn hbwn;generalize(w4.setCell ⟨b3,4,none⟩ (.slice (some ⟨w4.heap.size,0,none⟩) 1 1)).alloc (bx x A c)=w5 at*;generalize w4.heap.size=L at*;clear w4;go_wp2_with fail
 rcases H3 with⟨er,h1,rfl⟩|⟨_,l4,h1,h⟩
 · refine(skip_tok [59] h1 (R.al hnw (.cells #[.string ⟨#[59]⟩] 9)) _ (by simp)).mono ?_
   rintro e w4 ⟨rfl,T4⟩;go_wp2_with fail
   exact⟨rfl,rfl,(X.out.alloc _).then T4 (fun i hi=> .inl hi)⟩
 refine(skip_tok [59] h1 (R.al hnw (.cells #[.string ⟨#[59]⟩] 9)) _ (by simp)).mono ?_;rintro e w4 ⟨rfl,Rn,T4⟩;have hs4:=T4.size;simp at hs4;have Xn:=η (X.out.alloc (.cells #[.string ⟨#[59]⟩] 9));have B2n:=η (alloc_old B2.out (.cells #[.string ⟨#[59]⟩] 9));have BXn:=η (alloc_old BX.out (.cells #[.string ⟨#[59]⟩] 9));have G4n:=η (Kd.F_alloc G4.out (.cells #[.string ⟨#[59]⟩] 9));clear R;have R:=Rn;clear Rn;clear X;have X:=Xn;clear Xn;clear B2;have B2:=B2n;clear B2n;clear BX;have BX:=BXn;clear BXn;clear G4;have G4:=G4n;clear G4n;have Xn:=η (X.out.then T4 (fun i hi=> .inl hi));have B2n:=η (T4.heap B2.out (fun z=>by omega));have BXn:=η (T4.heap BX.out (fun z=>by omega));have G4n:=η (row_turn G4.out T4 (fun k hk=>by omega));clear X;have X:=Xn;clear Xn;clear B2;have B2:=B2n;clear B2n;clear BX;have BX:=BXn;clear BXn;clear G4;have G4:=G4n;clear G4n;have hnwn:n≤w4.heap.size:=by omega
 have hbwn:b3<w4.heap.size:=by omega
 clear hnw hbw T4 hs4 h1;have hnw:=hnwn;have hbw:=hbwn;clear hnwn hbwn;obtain rfl:=Option.some.inj h;obtain⟨e0,e1,e2,e3,e4,e5,e6,ef⟩:=heap7 BX.out;obtain⟨d0,d1,d2,d3,d4,d5,d6,df⟩:=heap7 B2.out;clear ef;go_wp2_with fail
 exact ret62 2 rfl rfl B2.out (fun W s1 s2=>st_fin (ok:=fun k=>w.heap.size≤k∧k≠b2∧k≠b3) hn h2w.2 ⟨Nat.le_refl _,G4.out,Nat.le_refl _,Kd.F_nil _ _ _,Nat.le_refl _,Kd.F_nil _ _ _⟩ (fun k hk=>⟨hk.1,hk.2.1⟩) R X.out s2)
theorem st_clear (k:Nat) (l:List S42) (o:Except (Int×Int) (S62×List S42)) (w:World) (n g:Nat) (hk0:(hd l).f2≠110) (hm0:¬isM (hd l) [100,101,108,101,116,101]) (hm:isM (hd l) [99,108,101,97,114]) (h:pbind pname (fun s=>pbind (ptok [59]) (fun _=>pok {st 4 with f1:=s})) l.tail=some o) (R:Rd w n g l) (hn:n≤w.heap.size):
 Calls Tryz.prog 21 #[.pointer (some ⟨g,0,none⟩)] w (StPost w n g o):=by
 have hg:=Nat.lt_of_lt_of_le R.gn hn;have T0:=η ((Turn.refl (fun k=>k=g) w).alloc box62);have HB:=η (alloc_new w box62);have HS:=η (show(w.alloc box62).heap.size=w.heap.size+1 by simp);have R0:=R.al hn box62;obtain⟨b,ofs,q,cc,z1,z2,z3,z4,c0,f0,t0,t1,t2,hadv⟩:=R0.cells;have z5:0<q+1:=by omega
 have k3:(kd (hd l).f2==2)=false:=by rw[beq_eq_false_iff_ne];exact fun z=>hk0 (kd_eq.2.1.1 z)
 generalize kd (hd l).f2=kk at*;have N0:=η (got_no R0 ⟨#[100,101,108,101,116,101]⟩ (notM_lit hm0));have G1:=η (got_yes R0 ⟨#[99,108,101,97,114]⟩ (isM_lit hm));have H:=pbind_cases h;clear hm R h hk0 hadv hm0;go_enter Tryz.func21,Tryz.ntmps21;go_upto_region 1 with fail
 generalize w.alloc box62=w0 at*;obtain⟨b2,hb2⟩:∃b,b=w.heap.size:=⟨_,rfl⟩;rw[← hb2]at HB HS;rw[← hb2];have hw0:b2<w0.heap.size:=by have:=HS.out;omega
 have h2w:b2≤w.heap.size∧w.heap.size≤b2:=by omega
 have hwn:n≤w0.heap.size:=by have:=HS.out;omega
 have hgb:g<b2:=by omega
 clear hb2;go_wp2_with fail
 refine N0.out.mono ?_;rintro e w' ⟨rfl,rfl⟩;go_wp2_with fail
 refine G1.out.mono ?_;rintro e w1 ⟨rfl,R1,T1⟩;have hs1:=T1.size;have B1:=η (T1.heap HB.out (fun z=>by omega));have X1:=η (T0.out.then T1 (fun i hi=> .inl hi));clear G1 T1 c0 t0 t1 t2 f0;go_wp2_with fail
 rcases H with⟨er,h1,rfl⟩|⟨s,l2,h1,h2⟩
 · refine(name_tok h1 R1 (by omega)).mono ?_
   rintro e w2 ⟨rfl,T2⟩;go_wp2_with fail
   exact⟨rfl,rfl,X1.out.then T2 (fun i hi=> .inl hi)⟩
 refine(name_tok h1 R1 (by omega)).mono ?_;rintro e w2 ⟨rfl,R2,T2⟩;have H2:=pbind_cases h2;clear h2;have hs2:=T2.size;have B12:=η (T2.heap B1.out (fun z=>by omega));have X12:=X1.out.then T2 (fun i hi=> .inl hi);obtain⟨b3,he3⟩:∃b,b=w2.heap.size:=⟨_,rfl⟩;have X:=η (X12.alloc (.cells #[.int .i64 4,.string s,.string ⟨#[]⟩,.string ⟨#[]⟩,.slice none 0 0,.slice none 0 0,.slice none 0 0] 62));have BX:(w2.alloc (.cells #[.int .i64 4,.string s,.string ⟨#[]⟩,.string ⟨#[]⟩,.slice none 0 0,.slice none 0 0,.slice none 0 0] 62)).heap[w2.heap.size]? =some (.cells #[.int .i64 4,.string s,.string ⟨#[]⟩,.string ⟨#[]⟩,.slice none 0 0,.slice none 0 0,.slice none 0 0] 62):=alloc_new w2 _;have B2:=η (alloc_old B12.out (.cells #[.int .i64 4,.string s,.string ⟨#[]⟩,.string ⟨#[]⟩,.slice none 0 0,.slice none 0 0,.slice none 0 0] 62));have R:=R2.al (by omega) (.cells #[.int .i64 4,.string s,.string ⟨#[]⟩,.string ⟨#[]⟩,.slice none 0 0,.slice none 0 0,.slice none 0 0] 62);have hnw:n≤(w2.alloc (.cells #[.int .i64 4,.string s,.string ⟨#[]⟩,.string ⟨#[]⟩,.slice none 0 0,.slice none 0 0,.slice none 0 0] 62)).heap.size:=by simp;omega
 have hbw:b3<(w2.alloc (.cells #[.int .i64 4,.string s,.string ⟨#[]⟩,.string ⟨#[]⟩,.slice none 0 0,.slice none 0 0,.slice none 0 0] 62)).heap.size:=by simp;omega
 have hb23:b2<b3:=by omega
 rw[← he3]at BX;have BX:=η BX;clear h1 R2 T2 hs2 B12 X12 B1 X1;go_upto_region 10 with fail
 rw[← he3];clear he3;generalize w2.alloc (.cells #[.int .i64 4,.string s,.string ⟨#[]⟩,.string ⟨#[]⟩,.slice none 0 0,.slice none 0 0,.slice none 0 0] 62)=w3 at*;clear w2;go_wp2_with fail
 rcases H2 with⟨er,h1,rfl⟩|⟨_,l3,h1,h⟩
 · refine(skip_tok [59] h1 (R.al hnw (.cells #[.string ⟨#[59]⟩] 9)) _ (by simp)).mono ?_
   rintro e w4 ⟨rfl,T4⟩;go_wp2_with fail
   exact⟨rfl,rfl,(X.out.alloc _).then T4 (fun i hi=> .inl hi)⟩
 refine(skip_tok [59] h1 (R.al hnw (.cells #[.string ⟨#[59]⟩] 9)) _ (by simp)).mono ?_;rintro e w4 ⟨rfl,Rn,T4⟩;have hs4:=T4.size;simp at hs4;have Xn:=η (X.out.alloc (.cells #[.string ⟨#[59]⟩] 9));have B2n:=η (alloc_old B2.out (.cells #[.string ⟨#[59]⟩] 9));have BXn:=η (alloc_old BX.out (.cells #[.string ⟨#[59]⟩] 9));clear R;have R:=Rn;clear Rn;clear X;have X:=Xn;clear Xn;clear B2;have B2:=B2n;clear B2n;clear BX;have BX:=BXn;clear BXn;have Xn:=η (X.out.then T4 (fun i hi=> .inl hi));have B2n:=η (T4.heap B2.out (fun z=>by omega));have BXn:=η (T4.heap BX.out (fun z=>by omega));clear X;have X:=Xn;clear Xn;clear B2;have B2:=B2n;clear B2n;clear BX;have BX:=BXn;clear BXn;have hnwn:n≤w4.heap.size:=by omega
 have hbwn:b3<w4.heap.size:=by omega
 clear hnw hbw T4 hs4 h1;have hnw:=hnwn;have hbw:=hbwn;clear hnwn hbwn;obtain rfl:=Option.some.inj h;obtain⟨e0,e1,e2,e3,e4,e5,e6,ef⟩:=heap7 BX.out;obtain⟨d0,d1,d2,d3,d4,d5,d6,df⟩:=heap7 B2.out;clear ef;go_wp2_with fail
 exact ret62 2 rfl rfl B2.out (fun W s1 s2=>st_fin (ok:=fun k=>w.heap.size≤k∧k≠b2∧k≠b3) hn h2w.2 (VS.bare rfl rfl rfl) (fun k hk=>⟨hk.1,hk.2.1⟩) R X.out s2)
theorem st_break (k:Nat) (l:List S42) (o:Except (Int×Int) (S62×List S42)) (w:World) (n g:Nat) (hk0:(hd l).f2≠110) (hm0:¬isM (hd l) [100,101,108,101,116,101]) (hm1:¬isM (hd l) [99,108,101,97,114]) (hm2:¬isM (hd l) [112,114,105,110,116]) (hm3:¬isM (hd l) [105,102]) (hm4:¬isM (hd l) [119,104,105,108,101]) (hm5:¬isM (hd l) [102,111,114]) (hm:isM (hd l) [98,114,101,97,107]) (h:pbind (ptok [59]) (fun _=>pok (st 9)) l.tail=some o) (R:Rd w n g l) (hn:n≤w.heap.size):
 Calls Tryz.prog 21 #[.pointer (some ⟨g,0,none⟩)] w (StPost w n g o):=by
 have hg:=Nat.lt_of_lt_of_le R.gn hn;have T0:=η ((Turn.refl (fun k=>k=g) w).alloc box62);have HB:=η (alloc_new w box62);have HS:=η (show(w.alloc box62).heap.size=w.heap.size+1 by simp);have R0:=R.al hn box62;obtain⟨b,ofs,q,cc,z1,z2,z3,z4,c0,f0,t0,t1,t2,hadv⟩:=R0.cells;have z5:0<q+1:=by omega
 have k3:(kd (hd l).f2==2)=false:=by rw[beq_eq_false_iff_ne];exact fun z=>hk0 (kd_eq.2.1.1 z)
 generalize kd (hd l).f2=kk at*;have N0:=η (got_no R0 ⟨#[100,101,108,101,116,101]⟩ (notM_lit hm0));have N1:=η (got_no R0 ⟨#[99,108,101,97,114]⟩ (notM_lit hm1));have N2:=η (got_no R0 ⟨#[112,114,105,110,116]⟩ (notM_lit hm2));have N3:=η (got_no R0 ⟨#[105,102]⟩ (notM_lit hm3));have N4:=η (got_no R0 ⟨#[119,104,105,108,101]⟩ (notM_lit hm4));have N5:=η (got_no R0 ⟨#[102,111,114]⟩ (notM_lit hm5));have G1:=η (got_yes R0 ⟨#[98,114,101,97,107]⟩ (isM_lit hm));have H:=pbind_cases h;clear hm R h hk0 hadv hm0 hm1 hm2 hm3 hm4 hm5;go_enter Tryz.func21,Tryz.ntmps21;go_upto_region 1 with fail
 generalize w.alloc box62=w0 at*;obtain⟨b2,hb2⟩:∃b,b=w.heap.size:=⟨_,rfl⟩;rw[← hb2]at HB HS;rw[← hb2];have hw0:b2<w0.heap.size:=by have:=HS.out;omega
 have h2w:b2≤w.heap.size∧w.heap.size≤b2:=by omega
 have hwn:n≤w0.heap.size:=by have:=HS.out;omega
 have hgb:g<b2:=by omega
 clear hb2;go_wp2_with fail
 refine N0.out.mono ?_;rintro e w' ⟨rfl,rfl⟩;go_wp2_with fail
 refine N1.out.mono ?_;rintro e w' ⟨rfl,rfl⟩;go_wp2_with fail
 refine N2.out.mono ?_;rintro e w' ⟨rfl,rfl⟩;go_wp2_with fail
 refine N3.out.mono ?_;rintro e w' ⟨rfl,rfl⟩;go_wp2_with fail
 refine N4.out.mono ?_;rintro e w' ⟨rfl,rfl⟩;go_wp2_with fail
 refine N5.out.mono ?_;rintro e w' ⟨rfl,rfl⟩;go_wp2_with fail
 refine G1.out.mono ?_;rintro e w1 ⟨rfl,R1,T1⟩;have hs1:=T1.size;have B1:=η (T1.heap HB.out (fun z=>by omega));have X1:=η (T0.out.then T1 (fun i hi=> .inl hi));clear G1 T1 c0 t0 t1 t2 f0;go_wp2_with fail
 rcases H with⟨er,h1,rfl⟩|⟨_,l2,h1,h2⟩
 · refine(skip_tok [59] h1 (R1.al (by omega) (.cells #[.string ⟨#[59]⟩] 9)) _ (by simp)).mono ?_
   rintro e w4 ⟨rfl,T4⟩;go_wp2_with fail
   exact⟨rfl,rfl,(X1.out.alloc _).then T4 (fun i hi=> .inl hi)⟩
 refine(skip_tok [59] h1 (R1.al (by omega) (.cells #[.string ⟨#[59]⟩] 9)) _ (by simp)).mono ?_;rintro e w4 ⟨rfl,R4,T4⟩;obtain rfl:=Option.some.inj h2;have hs4:=T4.size;simp at hs4;have B4:=η (T4.heap (alloc_old B1.out (.cells #[.string ⟨#[59]⟩] 9)) (fun z=>by omega));obtain⟨d0,d1,d2,d3,d4,d5,d6,df⟩:=heap7 B4.out;go_wp2_with fail
 exact ret62 2 rfl rfl B4.out (fun W s1 s2=>st_fin (ok:=fun _=>False) hn h2w.2 (VS.bare (s:=st 9) rfl rfl rfl) (fun k hk=>hk.elim) R4 ((X1.out.alloc _).then T4 (fun i hi=> .inl hi)) s2)
theorem st_continue (k:Nat) (l:List S42) (o:Except (Int×Int) (S62×List S42)) (w:World) (n g:Nat) (hk0:(hd l).f2≠110) (hm0:¬isM (hd l) [100,101,108,101,116,101]) (hm1:¬isM (hd l) [99,108,101,97,114]) (hm2:¬isM (hd l) [112,114,105,110,116]) (hm3:¬isM (hd l) [105,102]) (hm4:¬isM (hd l) [119,104,105,108,101]) (hm5:¬isM (hd l) [102,111,114]) (hm6:¬isM (hd l) [98,114,101,97,107]) (h:pbind (ptok [99,111,110,116,105,110,117,101]) (fun _=>pbind (ptok [59]) (fun _=>pok (st 10))) l=some o) (R:Rd w n g l) (hn:n≤w.heap.size):
 Calls Tryz.prog 21 #[.pointer (some ⟨g,0,none⟩)] w (StPost w n g o):=by
 have hg:=Nat.lt_of_lt_of_le R.gn hn;have T0:=η ((Turn.refl (fun k=>k=g) w).alloc box62);have HB:=η (alloc_new w box62);have HS:=η (show(w.alloc box62).heap.size=w.heap.size+1 by simp);have R0:=R.al hn box62;obtain⟨b,ofs,q,cc,z1,z2,z3,z4,c0,f0,t0,t1,t2,hadv⟩:=R0.cells;have z5:0<q+1:=by omega
 have k3:(kd (hd l).f2==2)=false:=by rw[beq_eq_false_iff_ne];exact fun z=>hk0 (kd_eq.2.1.1 z)
 generalize kd (hd l).f2=kk at*;have N0:=η (got_no R0 ⟨#[100,101,108,101,116,101]⟩ (notM_lit hm0));have N1:=η (got_no R0 ⟨#[99,108,101,97,114]⟩ (notM_lit hm1));have N2:=η (got_no R0 ⟨#[112,114,105,110,116]⟩ (notM_lit hm2));have N3:=η (got_no R0 ⟨#[105,102]⟩ (notM_lit hm3));have N4:=η (got_no R0 ⟨#[119,104,105,108,101]⟩ (notM_lit hm4));have N5:=η (got_no R0 ⟨#[102,111,114]⟩ (notM_lit hm5));have N6:=η (got_no R0 ⟨#[98,114,101,97,107]⟩ (notM_lit hm6));have H:=pbind_cases h;clear R h hk0 hadv hm0 hm1 hm2 hm3 hm4 hm5 hm6;go_enter Tryz.func21,Tryz.ntmps21;go_upto_region 1 with fail
 generalize w.alloc box62=w0 at*;obtain⟨b2,hb2⟩:∃b,b=w.heap.size:=⟨_,rfl⟩;rw[← hb2]at HB HS;rw[← hb2];have hw0:b2<w0.heap.size:=by have:=HS.out;omega
 have h2w:b2≤w.heap.size∧w.heap.size≤b2:=by omega
 have hwn:n≤w0.heap.size:=by have:=HS.out;omega
 have hgb:g<b2:=by omega
 clear hb2;go_wp2_with fail
 refine N0.out.mono ?_;rintro e w' ⟨rfl,rfl⟩;go_wp2_with fail
 refine N1.out.mono ?_;rintro e w' ⟨rfl,rfl⟩;go_wp2_with fail
 refine N2.out.mono ?_;rintro e w' ⟨rfl,rfl⟩;go_wp2_with fail
 refine N3.out.mono ?_;rintro e w' ⟨rfl,rfl⟩;go_wp2_with fail
 refine N4.out.mono ?_;rintro e w' ⟨rfl,rfl⟩;go_wp2_with fail
 refine N5.out.mono ?_;rintro e w' ⟨rfl,rfl⟩;go_wp2_with fail
 refine N6.out.mono ?_;rintro e w' ⟨rfl,rfl⟩;go_wp2_with fail
 have X1:=T0;have B1:=HB;clear c0 t0 t1 t2 f0;have RA:=R0.al hwn (.cells #[.string ⟨#[99,111,110,116,105,110,117,101]⟩,.string ⟨#[59]⟩] 9);have XA:=X1.out.alloc (.cells #[.string ⟨#[99,111,110,116,105,110,117,101]⟩,.string ⟨#[59]⟩] 9);have BA:=η (alloc_old B1.out (.cells #[.string ⟨#[99,111,110,116,105,110,117,101]⟩,.string ⟨#[59]⟩] 9));have q0:(w0.alloc (.cells #[.string ⟨#[99,111,110,116,105,110,117,101]⟩,.string ⟨#[59]⟩] 9)).cell? ⟨w0.heap.size,0,none⟩=some (.string ⟨#[99,111,110,116,105,110,117,101]⟩):=by simp
 have q1:(w0.alloc (.cells #[.string ⟨#[99,111,110,116,105,110,117,101]⟩,.string ⟨#[59]⟩] 9)).cell? ⟨w0.heap.size,1,none⟩=some (.string ⟨#[59]⟩):=by simp
 rcases H with⟨er,h1,rfl⟩|⟨_,l1,h1,h2⟩
 · unfold ptok at h1
   by_cases c:isM (hd l) [99,111,110,116,105,110,117,101]
   · rw[if_pos c]at h1;cases h1
   · rw[if_neg c]at h1
     obtain rfl:=Except.error.inj (Option.some.inj h1);refine(skip_no RA ⟨#[99,111,110,116,105,110,117,101]⟩ w0.heap.size 1 (by omega) q0 (notM_lit c)).mono ?_;rintro e w4 ⟨rfl,rfl⟩;go_wp2_with fail
     exact⟨rfl,rfl,XA⟩
 unfold ptok at h1;by_cases c:isM (hd l) [99,111,110,116,105,110,117,101]
 · rw[if_pos c]at h1
   obtain⟨-,rfl⟩:=Prod.mk.inj (Except.ok.inj (Option.some.inj h1));rcases pbind_cases h2 with⟨er,h3,rfl⟩|⟨_,l2,h3,h4⟩
   · unfold ptok at h3
     by_cases c':isM (hd l.tail) [59]
     · rw[if_pos c']at h3;cases h3
     · rw[if_neg c']at h3
       obtain rfl:=Except.error.inj (Option.some.inj h3);refine(skip2_no RA ⟨#[99,111,110,116,105,110,117,101]⟩ ⟨#[59]⟩ w0.heap.size (by omega) q0 q1 (isM_lit c) (notM_lit c')).mono ?_;rintro e w4 ⟨rfl,T4⟩;go_wp2_with fail
       exact⟨rfl,rfl,XA.then T4 (fun i hi=> .inl hi)⟩
   · unfold ptok at h3
     by_cases c':isM (hd l.tail) [59]
     · rw[if_pos c']at h3
       obtain⟨-,rfl⟩:=Prod.mk.inj (Except.ok.inj (Option.some.inj h3));obtain rfl:=Option.some.inj h4;refine(skip2_yes RA ⟨#[99,111,110,116,105,110,117,101]⟩ ⟨#[59]⟩ w0.heap.size (by omega) q0 q1 (isM_lit c) (isM_lit c')).mono ?_;rintro e w4 ⟨rfl,R4,T4⟩;have B4:=η (T4.heap BA.out (fun z=>by omega));obtain⟨d0,d1,d2,d3,d4,d5,d6,df⟩:=heap7 B4.out;clear q0 q1 h1 h2 h3 h4 c c';go_wp2_with fail
       exact ret62 2 rfl rfl B4.out (fun W s1 s2=>st_fin (ok:=fun _=>False) hn h2w.2 (VS.bare (s:=st 10) rfl rfl rfl) (fun k hk=>hk.elim) R4 (XA.then T4 (fun i hi=> .inl hi)) s2)
     · rw[if_neg c']at h3;cases h3
 · rw[if_neg c]at h1;cases h1
theorem st_for (k:Nat) (l:List S42) (o:Except (Int×Int) (S62×List S42)) (w:World) (n g:Nat) (BK:BkAt k) (hk0:(hd l).f2≠110) (hm0:¬isM (hd l) [100,101,108,101,116,101]) (hm1:¬isM (hd l) [99,108,101,97,114]) (hm2:¬isM (hd l) [112,114,105,110,116]) (hm3:¬isM (hd l) [105,102]) (hm4:¬isM (hd l) [119,104,105,108,101]) (hm:isM (hd l) [102,111,114]) (h:pbind pname (fun a=>pbind (ptok [44]) (fun _=>pbind pname (fun b=>pbind (ptok [105,110]) (fun _=>pbind pname (fun s=>pbind (pBlock k) (fun c=>pok {st 8 with f1:=s,f2:=a,f3:=b,f5:=c})))))) l.tail=some o) (R:Rd w n g l) (hn:n≤w.heap.size):
 Calls Tryz.prog 21 #[.pointer (some ⟨g,0,none⟩)] w (StPost w n g o):=by
 have hg:=Nat.lt_of_lt_of_le R.gn hn;have T0:=η ((Turn.refl (fun k=>k=g) w).alloc box62);have HB:=η (alloc_new w box62);have HS:=η (show(w.alloc box62).heap.size=w.heap.size+1 by simp);have R0:=R.al hn box62;obtain⟨b,ofs,q,cc,z1,z2,z3,z4,c0,f0,t0,t1,t2,hadv⟩:=R0.cells;have z5:0<q+1:=by omega
 have k3:(kd (hd l).f2==2)=false:=by rw[beq_eq_false_iff_ne];exact fun z=>hk0 (kd_eq.2.1.1 z)
 generalize kd (hd l).f2=kk at*;have N0:=η (got_no R0 ⟨#[100,101,108,101,116,101]⟩ (notM_lit hm0));have N1:=η (got_no R0 ⟨#[99,108,101,97,114]⟩ (notM_lit hm1));have N2:=η (got_no R0 ⟨#[112,114,105,110,116]⟩ (notM_lit hm2));have N3:=η (got_no R0 ⟨#[105,102]⟩ (notM_lit hm3));have N4:=η (got_no R0 ⟨#[119,104,105,108,101]⟩ (notM_lit hm4));have G1:=η (got_yes R0 ⟨#[102,111,114]⟩ (isM_lit hm));have H:=pbind_cases h;clear hm R h hk0 hadv hm0 hm1 hm2 hm3 hm4;go_enter Tryz.func21,Tryz.ntmps21;go_upto_region 1 with fail
 generalize w.alloc box62=w0 at*;obtain⟨b2,hb2⟩:∃b,b=w.heap.size:=⟨_,rfl⟩;rw[← hb2]at HB HS;rw[← hb2];have hw0:b2<w0.heap.size:=by have:=HS.out;omega
 have h2w:b2≤w.heap.size∧w.heap.size≤b2:=by omega
 have hwn:n≤w0.heap.size:=by have:=HS.out;omega
 have hgb:g<b2:=by omega
 clear hb2;go_wp2_with fail
 refine N0.out.mono ?_;rintro e w' ⟨rfl,rfl⟩;go_wp2_with fail
 refine N1.out.mono ?_;rintro e w' ⟨rfl,rfl⟩;go_wp2_with fail
 refine N2.out.mono ?_;rintro e w' ⟨rfl,rfl⟩;go_wp2_with fail
 refine N3.out.mono ?_;rintro e w' ⟨rfl,rfl⟩;go_wp2_with fail
 refine N4.out.mono ?_;rintro e w' ⟨rfl,rfl⟩;go_wp2_with fail
 refine G1.out.mono ?_;rintro e w1 ⟨rfl,R1,T1⟩;have hs1:=T1.size;have B1:=η (T1.heap HB.out (fun z=>by omega));have X1:=η (T0.out.then T1 (fun i hi=> .inl hi));clear G1 T1 c0 t0 t1 t2 f0;go_wp2_with fail
 rcases H with⟨er,h1,rfl⟩|⟨a,l2,h1,h2⟩
 · refine(name_tok h1 R1 (by omega)).mono ?_
   rintro e w2 ⟨rfl,T2⟩;go_wp2_with fail
   exact⟨rfl,rfl,X1.out.then T2 (fun i hi=> .inl hi)⟩
 refine(name_tok h1 R1 (by omega)).mono ?_;rintro e w2 ⟨rfl,R2,T2⟩;have H2:=pbind_cases h2;clear h2;have hs2:=T2.size;have B12:=η (T2.heap B1.out (fun z=>by omega));have X12:=X1.out.then T2 (fun i hi=> .inl hi);obtain⟨b3,he3⟩:∃b,b=w2.heap.size:=⟨_,rfl⟩;have X:=η (X12.alloc (.cells #[.int .i64 8,.string ⟨#[]⟩,.string a,.string ⟨#[]⟩,.slice none 0 0,.slice none 0 0,.slice none 0 0] 62));have BX:(w2.alloc (.cells #[.int .i64 8,.string ⟨#[]⟩,.string a,.string ⟨#[]⟩,.slice none 0 0,.slice none 0 0,.slice none 0 0] 62)).heap[w2.heap.size]? =some (.cells #[.int .i64 8,.string ⟨#[]⟩,.string a,.string ⟨#[]⟩,.slice none 0 0,.slice none 0 0,.slice none 0 0] 62):=alloc_new w2 _;have B2:=η (alloc_old B12.out (.cells #[.int .i64 8,.string ⟨#[]⟩,.string a,.string ⟨#[]⟩,.slice none 0 0,.slice none 0 0,.slice none 0 0] 62));have R:=R2.al (by omega) (.cells #[.int .i64 8,.string ⟨#[]⟩,.string a,.string ⟨#[]⟩,.slice none 0 0,.slice none 0 0,.slice none 0 0] 62);have hnw:n≤(w2.alloc (.cells #[.int .i64 8,.string ⟨#[]⟩,.string a,.string ⟨#[]⟩,.slice none 0 0,.slice none 0 0,.slice none 0 0] 62)).heap.size:=by simp;omega
 have hbw:b3<(w2.alloc (.cells #[.int .i64 8,.string ⟨#[]⟩,.string a,.string ⟨#[]⟩,.slice none 0 0,.slice none 0 0,.slice none 0 0] 62)).heap.size:=by simp;omega
 have hb23:b2<b3:=by omega
 rw[← he3]at BX;have BX:=η BX;clear h1 R2 T2 hs2 B12 X12 B1 X1;go_upto_region 21 with fail
 rw[← he3];clear he3;generalize w2.alloc (.cells #[.int .i64 8,.string ⟨#[]⟩,.string a,.string ⟨#[]⟩,.slice none 0 0,.slice none 0 0,.slice none 0 0] 62)=w3 at*;clear w2;go_wp2_with fail
 rcases H2 with⟨er,h1,rfl⟩|⟨_,l3,h1,h⟩
 · refine(skip_tok [44] h1 (R.al hnw (.cells #[.string ⟨#[44]⟩] 9)) _ (by simp)).mono ?_
   rintro e w4 ⟨rfl,T4⟩;go_wp2_with fail
   exact⟨rfl,rfl,(X.out.alloc _).then T4 (fun i hi=> .inl hi)⟩
 refine(skip_tok [44] h1 (R.al hnw (.cells #[.string ⟨#[44]⟩] 9)) _ (by simp)).mono ?_;rintro e w4 ⟨rfl,Rn,T4⟩;have hs4:=T4.size;simp at hs4;have Xn:=η (X.out.alloc (.cells #[.string ⟨#[44]⟩] 9));have B2n:=η (alloc_old B2.out (.cells #[.string ⟨#[44]⟩] 9));have BXn:=η (alloc_old BX.out (.cells #[.string ⟨#[44]⟩] 9));clear R;have R:=Rn;clear Rn;clear X;have X:=Xn;clear Xn;clear B2;have B2:=B2n;clear B2n;clear BX;have BX:=BXn;clear BXn;have Xn:=η (X.out.then T4 (fun i hi=> .inl hi));have B2n:=η (T4.heap B2.out (fun z=>by omega));have BXn:=η (T4.heap BX.out (fun z=>by omega));clear X;have X:=Xn;clear Xn;clear B2;have B2:=B2n;clear B2n;clear BX;have BX:=BXn;clear BXn;have hnwn:n≤w4.heap.size:=by omega
 have hbwn:b3<w4.heap.size:=by omega
 clear hnw hbw T4 hs4 h1;have hnw:=hnwn;have hbw:=hbwn;clear hnwn hbwn;have H3:=pbind_cases h;clear h;go_wp2_with fail
 rcases H3 with⟨er,h1,rfl⟩|⟨b,l4,h1,h⟩
 · refine(name_tok h1 R hnw).mono ?_
   rintro e w2 ⟨rfl,T2⟩;go_wp2_with fail
   exact⟨rfl,rfl,X.out.then T2 (fun i hi=> .inl hi)⟩
 refine(name_tok h1 R hnw).mono ?_;rintro e w4 ⟨rfl,Rn,T4⟩;have hs4:=T4.size;clear R;have R:=Rn;clear Rn;have Xn:=η (X.out.then T4 (fun i hi=> .inl hi));have B2n:=η (T4.heap B2.out (fun z=>by omega));have BXn:=η (T4.heap BX.out (fun z=>by omega));clear X;have X:=Xn;clear Xn;clear B2;have B2:=B2n;clear B2n;clear BX;have BX:=BXn;clear BXn;have hnwn:n≤w4.heap.size:=by omega
 have hbwn:b3<w4.heap.size:=by omega
 clear hnw hbw T4 hs4 h1;have hnw:=hnwn;have hbw:=hbwn;clear hnwn hbwn;have H4:=pbind_cases h;clear h;obtain⟨e0,e1,e2,e3,e4,e5,e6,ef⟩:=heap7 BX.out;go_upto_region 23 with fail
 clear e0 e1 e2 e3 e4 e5 e6 ef;have T5:Turn (fun k=>k=b3) w4 (w4.setCell ⟨b3,3,none⟩ (.string b)):=turn_at (Turn.refl _ _) 3 _;have BXn:=η (set_field (i:=3) BX.out (.string b) rfl);have Rn:=R.turn T5 hnw (fun k hk=>by omega);have hnwn:n≤(w4.setCell ⟨b3,3,none⟩ (.string b)).heap.size:=by simp;omega
 have hbwn:b3<(w4.setCell ⟨b3,3,none⟩ (.string b)).heap.size:=by simp;omega
 clear BX;have BX:=BXn;clear BXn;clear R;have R:=Rn;clear Rn;have Xn:=η (X.out.then T5 (fun i hi=> .inr (by omega)));have B2n:=η (T5.heap B2.out (fun z=>by omega));clear X;have X:=Xn;clear Xn;clear B2;have B2:=B2n;clear B2n;clear hnw hbw T5;have hnw:=hnwn;have hbw:=hbwn;clear hnwn hbwn;generalize w4.setCell ⟨b3,3,none⟩ (.string b)=w5 at*;go_wp2_with fail
 rcases H4 with⟨er,h1,rfl⟩|⟨_,l5,h1,h⟩
 · refine(skip_tok [105,110] h1 (R.al hnw (.cells #[.string ⟨#[105,110]⟩] 9)) _ (by simp)).mono ?_
   rintro e w4 ⟨rfl,T4⟩;go_wp2_with fail
   exact⟨rfl,rfl,(X.out.alloc _).then T4 (fun i hi=> .inl hi)⟩
 refine(skip_tok [105,110] h1 (R.al hnw (.cells #[.string ⟨#[105,110]⟩] 9)) _ (by simp)).mono ?_;rintro e w4 ⟨rfl,Rn,T4⟩;have hs4:=T4.size;simp at hs4;have Xn:=η (X.out.alloc (.cells #[.string ⟨#[105,110]⟩] 9));have B2n:=η (alloc_old B2.out (.cells #[.string ⟨#[105,110]⟩] 9));have BXn:=η (alloc_old BX.out (.cells #[.string ⟨#[105,110]⟩] 9));clear R;have R:=Rn;clear Rn;clear X;have X:=Xn;clear Xn;clear B2;have B2:=B2n;clear B2n;clear BX;have BX:=BXn;clear BXn;have Xn:=η (X.out.then T4 (fun i hi=> .inl hi));have B2n:=η (T4.heap B2.out (fun z=>by omega));have BXn:=η (T4.heap BX.out (fun z=>by omega));clear X;have X:=Xn;clear Xn;clear B2;have B2:=B2n;clear B2n;clear BX;have BX:=BXn;clear BXn;have hnwn:n≤w4.heap.size:=by omega
 have hbwn:b3<w4.heap.size:=by omega
 clear hnw hbw T4 hs4 h1;have hnw:=hnwn;have hbw:=hbwn;clear hnwn hbwn;have H5:=pbind_cases h;clear h;go_wp2_with fail
 rcases H5 with⟨er,h1,rfl⟩|⟨s,l6,h1,h⟩
 · refine(name_tok h1 R hnw).mono ?_
   rintro e w2 ⟨rfl,T2⟩;go_wp2_with fail
   exact⟨rfl,rfl,X.out.then T2 (fun i hi=> .inl hi)⟩
 refine(name_tok h1 R hnw).mono ?_;rintro e w4 ⟨rfl,Rn,T4⟩;have hs4:=T4.size;clear R;have R:=Rn;clear Rn;have Xn:=η (X.out.then T4 (fun i hi=> .inl hi));have B2n:=η (T4.heap B2.out (fun z=>by omega));have BXn:=η (T4.heap BX.out (fun z=>by omega));clear X;have X:=Xn;clear Xn;clear B2;have B2:=B2n;clear B2n;clear BX;have BX:=BXn;clear BXn;have hnwn:n≤w4.heap.size:=by omega
 have hbwn:b3<w4.heap.size:=by omega
 clear hnw hbw T4 hs4 h1;have hnw:=hnwn;have hbw:=hbwn;clear hnwn hbwn;have H6:=pbind_cases h;clear h;obtain⟨e0,e1,e2,e3,e4,e5,e6,ef⟩:=heap7 BX.out;go_upto_region 25 with fail
 clear e0 e1 e2 e3 e4 e5 e6 ef;have T5:Turn (fun k=>k=b3) w4 (w4.setCell ⟨b3,1,none⟩ (.string s)):=turn_at (Turn.refl _ _) 1 _;have BXn:=η (set_field (i:=1) BX.out (.string s) rfl);have Rn:=R.turn T5 hnw (fun k hk=>by omega);have hnwn:n≤(w4.setCell ⟨b3,1,none⟩ (.string s)).heap.size:=by simp;omega
 have hbwn:b3<(w4.setCell ⟨b3,1,none⟩ (.string s)).heap.size:=by simp;omega
 clear BX;have BX:=BXn;clear BXn;clear R;have R:=Rn;clear Rn;have Xn:=η (X.out.then T5 (fun i hi=> .inr (by omega)));have B2n:=η (T5.heap B2.out (fun z=>by omega));clear X;have X:=Xn;clear Xn;clear B2;have B2:=B2n;clear B2n;clear hnw hbw T5;have hnw:=hnwn;have hbw:=hbwn;clear hnwn hbwn;generalize w4.setCell ⟨b3,1,none⟩ (.string s)=w6 at*;go_wp2_with fail
 rcases H6 with⟨er,h1,rfl⟩|⟨cb,l7,h1,h⟩
 · refine(BK l6 _ _ n g h1 R hnw).mono ?_
   rintro e w4 ⟨rfl,T4⟩;go_wp2_with fail
   exact⟨rfl,rfl,X.out.then T4 (fun i hi=> .inl hi)⟩
 refine(BK l6 _ _ n g h1 R hnw).mono ?_;rintro e w4 ⟨A5,c5,rfl,L5,G5,Rn,T4⟩;obtain rfl:=Option.some.inj h;have hs4:=T4.size;have G5:=η (row_old (ok':=fun k=>w.heap.size≤k∧k≠b2∧k≠b3) G5 (fun k hk _=>by have:=X.out.size;omega));clear R;have R:=Rn;clear Rn;have Xn:=η (X.out.then T4 (fun i hi=> .inl hi));have B2n:=η (T4.heap B2.out (fun z=>by omega));have BXn:=η (T4.heap BX.out (fun z=>by omega));clear X;have X:=Xn;clear Xn;clear B2;have B2:=B2n;clear B2n;clear BX;have BX:=BXn;clear BXn;have hnwn:n≤w4.heap.size:=by omega
 have hbwn:b3<w4.heap.size:=by omega
 clear hnw hbw T4 hs4 h1;have hnw:=hnwn;have hbw:=hbwn;clear hnwn hbwn h;obtain⟨e0,e1,e2,e3,e4,e5,e6,ef⟩:=heap7 BX.out;go_upto_region 26 with fail
 clear e0 e1 e2 e3 e4 e5 e6 ef;have T5:Turn (fun k=>k=b3) w4 (w4.setCell ⟨b3,5,none⟩ (.slice A5 cb.length c5)):=turn_at (Turn.refl _ _) 5 _;have BXn:=η (set_field (i:=5) BX.out (.slice A5 cb.length c5) rfl);have Rn:=R.turn T5 hnw (fun k hk=>by omega);have hnwn:n≤(w4.setCell ⟨b3,5,none⟩ (.slice A5 cb.length c5)).heap.size:=by simp;omega
 have hbwn:b3<(w4.setCell ⟨b3,5,none⟩ (.slice A5 cb.length c5)).heap.size:=by simp;omega
 clear BX;have BX:=BXn;clear BXn;clear R;have R:=Rn;clear Rn;have Xn:=η (X.out.then T5 (fun i hi=> .inr (by omega)));have B2n:=η (T5.heap B2.out (fun z=>by omega));have G5n:=η (row_turn G5.out T5 (fun k hk=>by omega));clear X;have X:=Xn;clear Xn;clear B2;have B2:=B2n;clear B2n;clear G5;have G5:=G5n;clear G5n;clear hnw hbw T5;have hnw:=hnwn;have hbw:=hbwn;clear hnwn hbwn;generalize w4.setCell ⟨b3,5,none⟩ (.slice A5 cb.length c5)=w7 at*;obtain⟨e0,e1,e2,e3,e4,e5,e6,ef⟩:=heap7 BX.out;obtain⟨d0,d1,d2,d3,d4,d5,d6,df⟩:=heap7 B2.out;clear ef;go_wp2_with fail
 exact ret62 2 rfl rfl B2.out (fun W s1 s2=>st_fin (ok:=fun k=>w.heap.size≤k∧k≠b2∧k≠b3) hn h2w.2 ⟨Nat.le_refl _,Kd.F_nil _ _ _,L5,G5.out,Nat.le_refl _,Kd.F_nil _ _ _⟩ (fun k hk=>⟨hk.1,hk.2.1⟩) R X.out s2)
theorem st_while (k:Nat) (l:List S42) (o:Except (Int×Int) (S62×List S42)) (w:World) (n g:Nat) (BK:BkAt k) (hk0:(hd l).f2≠110) (hm0:¬isM (hd l) [100,101,108,101,116,101]) (hm1:¬isM (hd l) [99,108,101,97,114]) (hm2:¬isM (hd l) [112,114,105,110,116]) (hm3:¬isM (hd l) [105,102]) (hm:isM (hd l) [119,104,105,108,101]) (h:pbind (pExpr k 0) (fun x=>pbind (pBlock k) (fun b=>pok {st 7 with f4:=[x],f5:=b})) l.tail=some o) (R:Rd w n g l) (hn:n≤w.heap.size):
 Calls Tryz.prog 21 #[.pointer (some ⟨g,0,none⟩)] w (StPost w n g o):=by
 have hg:=Nat.lt_of_lt_of_le R.gn hn;have T0:=η ((Turn.refl (fun k=>k=g) w).alloc box62);have HB:=η (alloc_new w box62);have HS:=η (show(w.alloc box62).heap.size=w.heap.size+1 by simp);have R0:=R.al hn box62;obtain⟨b,ofs,q,cc,z1,z2,z3,z4,c0,f0,t0,t1,t2,hadv⟩:=R0.cells;have z5:0<q+1:=by omega
 have k3:(kd (hd l).f2==2)=false:=by rw[beq_eq_false_iff_ne];exact fun z=>hk0 (kd_eq.2.1.1 z)
 generalize kd (hd l).f2=kk at*;have N0:=η (got_no R0 ⟨#[100,101,108,101,116,101]⟩ (notM_lit hm0));have N1:=η (got_no R0 ⟨#[99,108,101,97,114]⟩ (notM_lit hm1));have N2:=η (got_no R0 ⟨#[112,114,105,110,116]⟩ (notM_lit hm2));have N3:=η (got_no R0 ⟨#[105,102]⟩ (notM_lit hm3));have G1:=η (got_yes R0 ⟨#[119,104,105,108,101]⟩ (isM_lit hm));have H:=pbind_cases h;clear hm R h hk0 hadv hm0 hm1 hm2 hm3;go_enter Tryz.func21,Tryz.ntmps21;go_upto_region 1 with fail
 generalize w.alloc box62=w0 at*;obtain⟨b2,hb2⟩:∃b,b=w.heap.size:=⟨_,rfl⟩;rw[← hb2]at HB HS;rw[← hb2];have hw0:b2<w0.heap.size:=by have:=HS.out;omega
 have h2w:b2≤w.heap.size∧w.heap.size≤b2:=by omega
 have hwn:n≤w0.heap.size:=by have:=HS.out;omega
 have hgb:g<b2:=by omega
 clear hb2;go_wp2_with fail
 refine N0.out.mono ?_;rintro e w' ⟨rfl,rfl⟩;go_wp2_with fail
 refine N1.out.mono ?_;rintro e w' ⟨rfl,rfl⟩;go_wp2_with fail
 refine N2.out.mono ?_;rintro e w' ⟨rfl,rfl⟩;go_wp2_with fail
 refine N3.out.mono ?_;rintro e w' ⟨rfl,rfl⟩;go_wp2_with fail
 refine G1.out.mono ?_;rintro e w1 ⟨rfl,R1,T1⟩;have hs1:=T1.size;have B1:=η (T1.heap HB.out (fun z=>by omega));have X1:=η (T0.out.then T1 (fun i hi=> .inl hi));clear G1 T1 c0 t0 t1 t2 f0;go_wp2_with fail
 rcases H with⟨er,h1,rfl⟩|⟨x,l2,h1,h2⟩
 · refine(ex_at k 0 l.tail _ _ n g h1 (by omega) R1 (by omega)).mono ?_
   rintro e w2 ⟨rfl,T2⟩;go_wp2_with fail
   exact⟨rfl,rfl,X1.out.then T2 (fun i hi=> .inl hi)⟩
 refine(ex_at k 0 l.tail _ _ n g h1 (by omega) R1 (by omega)).mono ?_;rintro e w2 ⟨A,c,rfl,V,R2,T2⟩;have H2:=pbind_cases h2;have hs2:=T2.size;have B2:=η (T2.heap B1.out (fun z=>by omega));have X2:=X1.out.then T2 (fun i hi=> .inl hi);obtain⟨b3,he3⟩:∃b,b=w2.heap.size:=⟨_,rfl⟩;have Xn:=η ((X2.alloc (bx x A c)).drew);have BX:(w2.alloc (bx x A c)).drew.heap[w2.heap.size]? =some (bx x A c):=alloc_new w2 _;have B2n:(w2.alloc (bx x A c)).drew.heap[b2]? =some box62:=alloc_old B2.out (bx x A c);have Vn:VX (w2.alloc (bx x A c)).drew (fun k=>w1.heap.size≤k∧k<w2.heap.size) x A c:=⟨V.1,Kd.F_drew (Kd.F_alloc (row_old V.2 (fun k hk hlt=>⟨hk,hlt⟩)) _)⟩;have R:Rd (w2.alloc (bx x A c)).drew n g l2:=(R2.al (by omega) (bx x A c)).move (fun _ _=>rfl)
 have hsz:(w2.alloc (bx x A c)).drew.heap.size=w2.heap.size+1:=by
  show(w2.alloc _).heap.size=_;simp
 have hnw:n≤(w2.alloc (bx x A c)).drew.heap.size:=by omega
 have hbw:b3<(w2.alloc (bx x A c)).drew.heap.size:=by omega
 have hb23:b2<b3:=by omega
 have hb1:b2<w1.heap.size:=(Array.getElem?_eq_some_iff.1 B1.out).1;go_upto_region 18 with fail
 rw[← he3];rw[← he3]at BX Vn;have BX:=η BX;have Bn:=η B2n;have HX1:=X1.out.size;clear h1 h2 hsz R2 T2 hs2 B2 B2n X2 V he3 B1 X1 R1;have B2:=Bn;have X:=Xn;clear Bn Xn;refine sr 6 (S:=fun W=>W.cell? ⟨b3,0,none⟩=some (.int .i64 x.f0)∧W.cell? ⟨b3,1,none⟩=some (.int .i64 x.f1)∧W.cell? ⟨b3,2,none⟩=some (.string x.f2)∧W.cell? ⟨b3,3,none⟩=some (.string x.f3)∧W.cell? ⟨b3,4,none⟩=some (.slice A x.f4.length c)) (ds:=[4,5]) ⟨(heap5 BX.out).1,(heap5 BX.out).2.1,(heap5 BX.out).2.2.1,(heap5 BX.out).2.2.2.1,(heap5 BX.out).2.2.2.2.1⟩ ?_;generalize(w2.alloc (bx x A c)).drew=w3 at*;intro hH;refine pu 2 58 ?_;refine tk 0 56 hH ?_;refine PrintLast.two_ (i:=1) (j:=3) (Ni:=some 57) (Nj:=some 59) #[true,true,true,false,false,false] #[true,false,true,true,false,false] rfl rfl rfl rfl (by kernel_rfl) (by decide) (by decide) (fun K hK=> ?_) (fun K hK=> ?_)
 · have G4:=lit1 (ok':=fun k=>w.heap.size≤k∧k≠b2) Vn (fun k hk=>by omega)
   refine PrintLast.value_ (w1:=w3.alloc (bx x A c)) (v:= .slice (some ⟨w3.heap.size,0,none⟩) 1 1) (by rfl) (by rfl) (by go_simp) ?_;have BXa:=alloc_old BX.out (bx x A c);have B2a:=alloc_old B2.out (bx x A c);have Ra:=R.al hnw (bx x A c);have Xa:=X.out.alloc (bx x A c);have hna:n≤(w3.alloc (bx x A c)).heap.size:=by simp;omega
   have hba:b3<(w3.alloc (bx x A c)).heap.size:=by simp;omega
   refine hK.out _ _ ⟨(heap5 BXa).1,(heap5 BXa).2.1,(heap5 BXa).2.2.1,(heap5 BXa).2.2.2.1,(heap5 BXa).2.2.2.2.1⟩ (fun hH=> ?_);clear hK K;refine nm 57 ?_;generalize w3.alloc (bx x A c)=w4 at*;generalize w3.heap.size=L at*;refine on 3 59 (fun K hK=> ?_);rcases H2 with⟨er,h1,rfl⟩|⟨cb,l3,h1,h2⟩
   · refine callp_ Tryz.func47 (by kernel_rfl) (by kernel_rfl) #[.pointer (some ⟨g,0,none⟩)] (by rfl) (by rfl) (by simp[Act.eval]) ?_
     refine(BK l2 _ _ n g h1 Ra hna).mono ?_;rintro e w5 ⟨rfl,T5⟩;exact⟨_,rfl,rfl,rfl,Xa.then T5 (fun i hi=> .inl hi)⟩
   refine PrintLast.goes_ Tryz.func47 (by kernel_rfl) (by kernel_rfl) #[.pointer (some ⟨g,0,none⟩)] (by rfl) (by rfl) (by rfl) (by simp[Act.eval]) ?_;refine(BK l2 _ _ n g h1 Ra hna).mono ?_;rintro e w5 ⟨A5,c5,rfl,L5,G5,R4,T5⟩;obtain rfl:=Option.some.inj h2;have BX5:=T5.heap BXa (fun z=>by omega);refine⟨_,rfl,hK.out _ _ ⟨(heap5 BX5).1,(heap5 BX5).2.1,(heap5 BX5).2.2.1,(heap5 BX5).2.2.2.1,(heap5 BX5).2.2.2.2.1⟩ (fun hH=> ?_)⟩;clear hK K;refine nm 59 ?_;have B2:=η (T5.heap B2a (fun z=>by omega));have hs4:=Xa.size;have G4:=row_turn G4 T5 (fun k hk=>by omega);have G5:=row_old (ok':=fun k=>w.heap.size≤k∧k≠b2) G5 (fun k hk _=>by omega);have X:=η (Xa.then T5 (fun i hi=> .inl hi));clear Xa B2a BXa BX5 T5 Ra R BX;refine pu 4 60 ?_;refine la 5 (fun K hK=> ?_);obtain⟨d0,d1,d2,d3,d4,d5,d6,df⟩:=heap7 B2.out;refine PrintLast.skip_ (w1:=(set7w w5 b2 (.int .i64 7) (.string ⟨#[]⟩) (.string ⟨#[]⟩) (.string ⟨#[]⟩) (.slice (some ⟨L,0,none⟩) 1 1) (.slice A5 cb.length c5) (.slice none 0 0))) (by rfl) (by rfl) (by go_simp) ?_;refine hK.out _ _ ?_;refine PrintLast.done_ (by kernel_rfl) ?_;clear hK K;clear d0 d1 d2 d3 d4 d5 d6 df hH;go_wp2_with fail
   exact ret62 2 rfl rfl B2.out (fun W s1 s2=>st_fin (ok:=fun k=>w.heap.size≤k∧k≠b2) hn h2w.2 ⟨Nat.le_refl _,G4,L5,G5,Nat.le_refl _,Kd.F_nil _ _ _⟩ (fun k hk=>hk) R4 X.out s2)
 · rcases H2 with⟨er,h1,rfl⟩|⟨cb,l3,h1,h2⟩
   · refine callp_ Tryz.func47 (by kernel_rfl) (by kernel_rfl) #[.pointer (some ⟨g,0,none⟩)] (by rfl) (by rfl) (by simp[Act.eval]) ?_
     refine(BK l2 _ _ n g h1 R hnw).mono ?_;rintro e w5 ⟨rfl,T5⟩;exact⟨_,rfl,rfl,rfl,X.out.then T5 (fun i hi=> .inl hi)⟩
   refine PrintLast.goes_ Tryz.func47 (by kernel_rfl) (by kernel_rfl) #[.pointer (some ⟨g,0,none⟩)] (by rfl) (by rfl) (by rfl) (by simp[Act.eval]) ?_;refine(BK l2 _ _ n g h1 R hnw).mono ?_;rintro e w5 ⟨A5,c5,rfl,L5,G5,R4,T5⟩;obtain rfl:=Option.some.inj h2;have BX5:=T5.heap BX.out (fun z=>by omega);refine⟨_,rfl,hK.out _ _ ⟨(heap5 BX5).1,(heap5 BX5).2.1,(heap5 BX5).2.2.1,(heap5 BX5).2.2.2.1,(heap5 BX5).2.2.2.2.1⟩ (fun hH=> ?_)⟩;clear hK K;refine nm 59 ?_;refine on 1 57 (fun K hK=> ?_);have hs4:=X.out.size;have G4:=lit1 (ok':=fun k=>w.heap.size≤k∧k≠b2) ((⟨Vn.1,row_turn Vn.2 T5 (fun k hk=>by omega)⟩:VX w5 (fun k=>w1.heap.size≤k∧k<b3) x A c)) (fun k hk=>by have:=T5.size;omega);refine PrintLast.value_ (w1:=w5.alloc (bx x A c)) (v:= .slice (some ⟨w5.heap.size,0,none⟩) 1 1) (by rfl) (by rfl) (by go_simp) ?_;have BX6:=alloc_old BX5 (bx x A c);refine hK.out _ _ ⟨(heap5 BX6).1,(heap5 BX6).2.1,(heap5 BX6).2.2.1,(heap5 BX6).2.2.2.1,(heap5 BX6).2.2.2.2.1⟩ (fun hH=> ?_);clear hK K;refine nm 57 ?_;have B2:=η (alloc_old (T5.heap B2.out (fun z=>by omega)) (bx x A c));have G5:=Kd.F_alloc (row_old (ok':=fun k=>w.heap.size≤k∧k≠b2) G5 (fun k hk _=>by omega)) (bx x A c);have R4:=R4.al (by have:=T5.size;omega) (bx x A c);have X:=η ((X.out.then T5 (fun i hi=> .inl hi)).alloc (bx x A c));clear BX5 BX6 T5 R BX;generalize w5.alloc (bx x A c)=w6 at*;generalize w5.heap.size=L at*;refine pu 4 60 ?_;refine la 5 (fun K hK=> ?_);obtain⟨d0,d1,d2,d3,d4,d5,d6,df⟩:=heap7 B2.out;refine PrintLast.skip_ (w1:=(set7w w6 b2 (.int .i64 7) (.string ⟨#[]⟩) (.string ⟨#[]⟩) (.string ⟨#[]⟩) (.slice (some ⟨L,0,none⟩) 1 1) (.slice A5 cb.length c5) (.slice none 0 0))) (by rfl) (by rfl) (by go_simp) ?_;refine hK.out _ _ ?_;refine PrintLast.done_ (by kernel_rfl) ?_;clear hK K;clear d0 d1 d2 d3 d4 d5 d6 df hH;go_wp2_with fail
   exact ret62 2 rfl rfl B2.out (fun W s1 s2=>st_fin (ok:=fun k=>w.heap.size≤k∧k≠b2) hn h2w.2 ⟨Nat.le_refl _,G4,L5,G5,Nat.le_refl _,Kd.F_nil _ _ _⟩ (fun k hk=>hk) R4 X.out s2)
theorem st_step (k:Nat) (CO:CoAt k) (BK:BkAt k):StAt (k+1):=by
 intro l o w n g h R hn;rw[pStmt]at h;dsimp only at h;by_cases c0:(hd l).f2=110
 · rw[if_pos c0]at h;exact st_set k l o w n g c0 h R hn
 rw[if_neg c0]at h;by_cases c1:isM (hd l) [100,101,108,101,116,101]
 · rw[if_pos c1]at h;exact st_delete k l o w n g c0 c1 h R hn
 rw[if_neg c1]at h;by_cases c2:isM (hd l) [99,108,101,97,114]
 · rw[if_pos c2]at h;exact st_clear k l o w n g c0 c1 c2 h R hn
 rw[if_neg c2]at h;by_cases c3:isM (hd l) [112,114,105,110,116]
 · rw[if_pos c3]at h;exact st_print k l o w n g c0 c1 c2 c3 h R hn
 rw[if_neg c3]at h;by_cases c4:isM (hd l) [105,102]
 · rw[if_pos c4]at h;exact st_if k l o w n g CO c0 c1 c2 c3 c4 h R hn
 rw[if_neg c4]at h;by_cases c5:isM (hd l) [119,104,105,108,101]
 · rw[if_pos c5]at h;exact st_while k l o w n g BK c0 c1 c2 c3 c4 c5 h R hn
 rw[if_neg c5]at h;by_cases c6:isM (hd l) [102,111,114]
 · rw[if_pos c6]at h;exact st_for k l o w n g BK c0 c1 c2 c3 c4 c5 c6 h R hn
 rw[if_neg c6]at h;by_cases c7:isM (hd l) [98,114,101,97,107]
 · rw[if_pos c7]at h;exact st_break k l o w n g c0 c1 c2 c3 c4 c5 c6 c7 h R hn
 rw[if_neg c7]at h;exact st_continue k l o w n g c0 c1 c2 c3 c4 c5 c6 c7 h R hn
theorem stmt_all:∀k,(∀j,j≤k→StAt j)∧CoAt k∧BkAt k
 |0=>by
  refine⟨fun j hj=> ?_,fun l o w n g h=> ?_,fun l o w n g h=> ?_⟩
  · obtain rfl:j=0:=by omega
    intro l o w n g h;rw[pStmt]at h;cases h
  · rw[pCond]at h;cases h
  · rw[pBlock]at h;cases h
 |k+1=>by
  obtain⟨h1,h2,h3⟩:=stmt_all k;refine⟨fun j hj=> ?_,cond_step k h3 h2,block_step k h1⟩;by_cases e:j=k+1
  · subst e;exact st_step k h2 h3
  · exact h1 j (by omega)
theorem stmt_at (k:Nat):StAt k:=(stmt_all k).1 k (Nat.le_refl _)
theorem frame16 (a b c x:Value):(#[a,b,c]++((Array.replicate 19 undef).setIfInBounds 3 x).setIfInBounds 0 x:Array Value)=
 #[a,b,c,x,undef,undef,x,undef,undef,undef,undef,undef,undef,undef,undef,undef,undef,undef,undef,undef,undef,undef]:=by
 apply Array.ext';simp[List.replicate_succ]
theorem heap2 {w:World} {b t:Nat} {v0 v1:Value} (h:w.heap[b]? =some (.cells #[v0,v1] t (0,0))):w.cell? ⟨b,0,none⟩=some v0∧w.cell? ⟨b,1,none⟩=some v1∧∀i,w.frozen? ⟨b,i,none⟩=false:=
 ⟨by simp[World.cell?,h],by simp[World.cell?,h],fun i=>by simp[World.frozen?,h]⟩
theorem heap1 {w:World} {b t:Nat} {v0:Value} (h:w.heap[b]? =some (.cells #[v0] t (0,0))):w.cell? ⟨b,0,none⟩=some v0∧∀i,w.frozen? ⟨b,i,none⟩=false:=
 ⟨by simp[World.cell?,h],fun i=>by simp[World.frozen?,h]⟩
theorem catch_idle (bp bl be:Nat) (w:World):
 CallsD Tryz.prog 16 #[.pointer (some ⟨bp,0,none⟩),.pointer (some ⟨bl,0,none⟩),.pointer (some ⟨be,0,none⟩)] .returning w fun e u' w'=>e= .returned (.tuple #[])∧u'= .returning∧w'=w:=by
 refine callsD_of_wpS Tryz.func16 rfl fun c₀ cs hu=> ?_
 apply wpS_seq;apply wpS_region;simp[wpOpsS,go_sem,recoverD,hu,Tryz.ntmps16,Exit.thenS];refine wpS_of_wp ?_;generalize hQ:(fun e a' w'=>bodyPostS _ _ _ _ _ e a' _ w')=Q;have HQ:=η hQ;have HU:=η hu;clear hQ hu;rw[frame16];go_wp2_with fail
 rw[← HQ.out];refine⟨rfl,.returning,?_,.tuple #[],by simp[results,Tryz.results16],rfl,rfl,rfl⟩;have:=HU.out;cases c₀
 simp_all
theorem catch_panicking (bp bl be:Nat) (line err:Int) (older:List PanicEntry) (w:World) (A B C D E F:Value) (hp:w.heap[bp]? =some (.cells #[A,B] 31 (0,0))) (hl:w.heap[bl]? =some (.cells #[C] 3 (0,0))) (he:w.heap[be]? =some (.cells #[D] 24 (0,0))) (h1:bp≠bl) (h2:bp≠be) (h3:bl≠be):
 CallsD Tryz.prog 16 #[.pointer (some ⟨bp,0,none⟩),.pointer (some ⟨bl,0,none⟩),.pointer (some ⟨be,0,none⟩)] (.panicking ({v:= .iface 49 (.agg #[.int .i64 line,.int .i64 err]),recovered:=false}::older)) w fun e u' w'=>
  e= .returned (.tuple #[])∧u'= .panicking ({v:= .iface 49 (.agg #[.int .i64 line,.int .i64 err]),recovered:=true}::older)∧
   w'.heap[bp]? =some (.cells #[.slice none 0 0,.slice none 0 0] 31 (0,0))∧w'.heap[bl]? =some (.cells #[.int .i64 line] 3 (0,0))∧w'.heap[be]? =some (.cells #[.int .i64 err] 24 (0,0))∧Turn (fun k=>k=bp∨k=bl∨k=be) w w':=by
 have hta:∀w,(Instr.typeAssert (.iface 49 (.agg #[.int .i64 line,.int .i64 err])) 20 49 true).run Tryz.prog w= .ok (.tuple #[.agg #[.int .i64 line,.int .i64 err],.bool true]) w:=fun _=>by kernel_rfl
 have a0:w.cell? ⟨bp,0,none⟩=some A:=by simp[World.cell?,hp]
 have a1:w.cell? ⟨bp,1,none⟩=some B:=by simp[World.cell?,hp]
 have c0:w.cell? ⟨bl,0,none⟩=some C:=by simp[World.cell?,hl]
 have d0:w.cell? ⟨be,0,none⟩=some D:=by simp[World.cell?,he]
 have f0:∀i,w.frozen? ⟨bp,i,none⟩=false:=fun i=>by simp[World.frozen?,hp]
 have f1:∀i,w.frozen? ⟨bl,i,none⟩=false:=fun i=>by simp[World.frozen?,hl]
 have f2:∀i,w.frozen? ⟨be,i,none⟩=false:=fun i=>by simp[World.frozen?,he]
 have s0:=(Array.getElem?_eq_some_iff.1 hp).1;have s1:=(Array.getElem?_eq_some_iff.1 hl).1;have s2:=(Array.getElem?_eq_some_iff.1 he).1;have HP:=η hp;have HL:=η hl;have HE:=η he;clear hp hl he;refine callsD_of_wpS Tryz.func16 rfl fun c₀ cs hu=> ?_
 apply wpS_seq;apply wpS_region;simp[wpOpsS,go_sem,recoverD,hu,Tryz.ntmps16,Exit.thenS];refine wpS_of_wp ?_;generalize hQ:(fun e a' w'=>bodyPostS _ _ _ _ _ e a' _ w')=Q;have HQ:=η hQ;have HU:=η hu;clear hQ hu;rw[frame16];go_wp2_with fail
 go_outline;have B49:=alloc_new w (.cells #[.int .i64 line,.int .i64 err] 49);have k0:(w.alloc (.cells #[.int .i64 line,.int .i64 err] 49)).cell? ⟨w.heap.size,0,none⟩=some (.int .i64 line):=(heap2 B49).1;have k1:(w.alloc (.cells #[.int .i64 line,.int .i64 err] 49)).cell? ⟨w.heap.size,1,none⟩=some (.int .i64 err):=(heap2 B49).2.1;have HPA:=η (alloc_old HP.out (.cells #[.int .i64 line,.int .i64 err] 49));have HLA:=η (alloc_old HL.out (.cells #[.int .i64 line,.int .i64 err] 49));have HEA:=η (alloc_old HE.out (.cells #[.int .i64 line,.int .i64 err] 49));have TA:=η ((Turn.refl (fun k=>k=bp∨k=bl∨k=be) w).alloc (.cells #[.int .i64 line,.int .i64 err] 49));have sz:(w.alloc (.cells #[.int .i64 line,.int .i64 err] 49)).heap.size=w.heap.size+1:=by simp
 have t0:bp<(w.alloc (.cells #[.int .i64 line,.int .i64 err] 49)).heap.size:=by omega
 clear B49 sz a0 a1 c0 d0 f0 f1 f2;obtain⟨bf,hbf⟩:∃b,b=w.heap.size:=⟨_,rfl⟩;have n0:bf≠bp:=by omega
 have n1:bf≠bl:=by omega
 have n2:bf≠be:=by omega
 rw[← hbf]at k0 k1;rw[← hbf];clear hbf s0 s1 s2;generalize w.alloc (.cells #[.int .i64 line,.int .i64 err] 49)=w1 at*;have a0:w1.cell? ⟨bp,0,none⟩=some A:=by simp[World.cell?,HPA.out]
 have a1:w1.cell? ⟨bp,1,none⟩=some B:=by simp[World.cell?,HPA.out]
 have c0:w1.cell? ⟨bl,0,none⟩=some C:=by simp[World.cell?,HLA.out]
 have d0:w1.cell? ⟨be,0,none⟩=some D:=by simp[World.cell?,HEA.out]
 have f0:∀i,w1.frozen? ⟨bp,i,none⟩=false:=fun i=>by simp[World.frozen?,HPA.out]
 have f1:∀i,w1.frozen? ⟨bl,i,none⟩=false:=fun i=>by simp[World.frozen?,HLA.out]
 have f2:∀i,w1.frozen? ⟨be,i,none⟩=false:=fun i=>by simp[World.frozen?,HEA.out]
 go_region
 all_goals
  rw[← HQ.out];refine⟨rfl,_,rfl,.tuple #[],by simp[results,Tryz.results16],rfl,rfl,?_,?_,?_,?_⟩
  · refine(Below.heap_setCell _ _ _ _ h2).trans ((Below.heap_setCell _ _ _ _ h1).trans ?_)
    exact set_field (set_field HPA.out (.slice none 0 0) rfl) (.slice none 0 0) rfl
  · refine(Below.heap_setCell _ _ _ _ h3).trans ?_
    exact set_field (((Below.heap_setCell _ _ _ _ (Ne.symm h1)).trans (Below.heap_setCell _ _ _ _ (Ne.symm h1))).trans HLA.out) _ rfl
  · refine set_field (((Below.heap_setCell _ _ _ _ (Ne.symm h3)).trans ((Below.heap_setCell _ _ _ _ (Ne.symm h2)).trans (Below.heap_setCell _ _ _ _ (Ne.symm h2)))).trans HEA.out) _ rfl
  · exact((((TA.out.setCell _ _ (.inl (.inl rfl))).setCell _ _ (.inl (.inl rfl))).setCell _ _ (.inl (.inr (.inl rfl)))).setCell _ _ (.inl (.inr (.inr rfl)))).drew
def TkPost (w:World) (l:List S42) (e:Ending) (w':World):Prop:=
 ∃b c,e= .returned (.slice (some ⟨b,0,none⟩) (stop l).length c)∧(stop l).length≤c∧w.heap.size≤b∧b<w'.heap.size∧(∀i t,(stop l)[i]? =some t→TokAt w' b (3*i) t)∧Turn (fun _=>False) w w'
def ParsePost (w:World) (o:Except (Int×Int) ((List Bs×List S62)×List S42)) (e:Ending) (w':World):Prop:=
 Turn (fun _=>False) w w'∧match o with
 | .ok (x,_)=>∃A c A' c',e= .returned (.tuple #[.agg #[.slice A x.1.length c,.slice A' x.2.length c'],.int .i64 0,.int .i64 0])∧x.1.length≤c∧Kd.F Kd.string w' (fun k=>w.heap.size≤k) A x.1.length x.1∧x.2.length≤c'∧Kd.F k62 w' (fun k=>w.heap.size≤k) A' x.2.length x.2
 | .error er=>e= .returned (.tuple #[.agg #[.slice none 0 0,.slice none 0 0],.int .i64 er.1,.int .i64 er.2])
abbrev bP (v u:Value):Obj:= .cells #[v,u] 31
theorem Rd.put {w:World} {n g bp:Nat} {l:List S42} {A B:Value} (h:Rd w n g l) (hp:w.heap[bp]? =some (.cells #[A,B] 31 (0,0))) (h5:bp≠5) (i:Nat) (v:Value):Rd (w.setCell ⟨bp,i,none⟩ v) n g l:=by
 obtain⟨h1,h2,h0,⟨e1,e2,ev,e3,e4⟩,b,o,c,hb,hbg,hg,hc,hm,ht⟩:=h
 have hgb:g≠bp:=by
  rintro rfl;rw[hp]at hg;cases hg
 have hbb:b≠bp:=by
  rintro rfl;obtain⟨r,hr⟩:=stop_hd h1.ne;have:=(ht 0 (hd l) (by rw[hr];rfl)).2.2;simp[World.cell?,hp]at this
 have hs:∀k,k≠bp→(w.setCell ⟨bp,i,none⟩ v).heap[k]? =w.heap[k]? :=fun k hk=>Below.heap_setCell w ⟨bp,i,none⟩ v k hk
 refine⟨h1,h2,h0,⟨e1,e2,ev,(cell_same (hs 5 (Ne.symm h5))).trans e3,e4⟩,b,o,c,hb,hbg,(hs g hgb).trans hg,hc,hm,fun i t hi=> ?_⟩;obtain⟨a0,a1,a2⟩:=ht i t hi;exact⟨(cell_same (hs b hbb)).trans a0,(cell_same (hs b hbb)).trans a1,(cell_same (hs b hbb)).trans a2⟩
theorem two_last {P:Program} {ops:Array Oper} {Q:Exit→Act→World→Prop} {md:Region.Mode} {S:World→Prop} {ds:List Nat} {i j:Nat} {oi oj:Oper} {fuel:Nat} {l:Array Bool} {a:Act} {w:World} (li lj:Array Bool) (hi:ops[i]? =some oi) (hj:ops[j]? =some oj) (hNi:oi.dst=none) (hNj:oj.dst=none)
 (hc:(Region.ready md ops l==[i,j]&&l.setIfInBounds i true==li&&l.setIfInBounds j true==lj)=true) (hdi:i∈ds) (hdj:j∈ds)
 (h1:∀K:Act→World→Prop,Shut (∀a' w',PrintLast.wpAnyLast P md ops Q S ds fuel li a' w'→K a' w')→if Region.wanted oi (yielded ops a.tmps)=true then Oper.wp P oi a w K Q else K (a.put none undef) w)
 (h2:∀K:Act→World→Prop,Shut (∀a' w',PrintLast.wpAnyLast P md ops Q S ds fuel lj a' w'→K a' w')→if Region.wanted oj (yielded ops a.tmps)=true then Oper.wp P oj a w K Q else K (a.put none undef) w):
 PrintLast.wpAnyLast P md ops Q S ds (fuel+1) l a w:=by
 rw[← hNi]at h1;rw[← hNj]at h2;simp only[Bool.and_eq_true,beq_iff_eq]at hc;obtain⟨⟨h3,h4⟩,h5⟩:=hc;subst h4;subst h5;exact PrintLast.wpAnyLast_ready h3 (by simp) (PrintLast.AllReadyL.cons_last hi hdi (fun K hK=>h1 K hK) (PrintLast.AllReadyL.cons_last hj hdj (fun K hK=>h2 K hK) PrintLast.AllReadyL.nil))
theorem leaves_congr {P:Program} {fn:Func} {R:Ending→World→Prop} {t1 t2:Array Value} (h:results fn t1=results fn t2):∀(ds:List Deferred) (u:FrameMode) (w:World),Leaves P fn t1 R ds u w→Leaves P fn t2 R ds u w
 |[],.returning,w,⟨v,h1,h2⟩=>⟨v,h▸h1,h2⟩
 |[],.panicking c,w,h1=>h1
 |[],.run,_,h1=>h1.elim
 |d::ds,u,w,⟨h0,fv,cap,f,args,h1,h2,h3⟩=>⟨h0,fv,cap,f,args,h1,h2,h3.mono fun e u' w' q=>by
   cases e with
   |returned _=>exact leaves_congr h ds _ _ q
   |panicked _=>exact leaves_congr h ds _ _ q
   |outgrown=>exact q⟩
theorem panic8 {R:Ending→World→Prop} {c:List PanicEntry} {a:Act} {v:Value} {w:World} (t:Tmp) (ht:t≠2∧t≠3∧t≠4) (h:bodyPostD Tryz.prog Tryz.f8 R (.panic c) (a.put (some t) v) w):bodyPostD Tryz.prog Tryz.f8 R (.panic c) a w:=by
 refine leaves_congr ?_ _ _ _ h;unfold results;simp[Tryz.results8,Act.put,Array.getElem?_setIfInBounds_ne,ht.1,ht.2.1,ht.2.2,Array.getD_eq_getD_getElem?]
theorem door_panic {w W:World} {o:Except (Int×Int) ((List Bs×List S62)×List S42)} {tmps:Array Value} {bp bl be:Nat} {er:Int×Int} {A B C D:Value} (h2:tmps[2]? =some (.pointer (some ⟨bp,0,none⟩))) (h3:tmps[3]? =some (.pointer (some ⟨bl,0,none⟩))) (h4:tmps[4]? =some (.pointer (some ⟨be,0,none⟩)))
 (hP:W.heap[bp]? =some (bP A B)) (hL:W.heap[bl]? =some (.cells #[C] 3 (0,0))) (hE:W.heap[be]? =some (.cells #[D] 24 (0,0))) (hb:w.heap.size≤bp∧bp<bl∧bl<be) (T:Turn (fun _=>False) w W) (ho:o= .error er):
 bodyPostD Tryz.prog Tryz.f8 (ParsePost w o) (Exit.panic (pv er.1 er.2)) {tmps:=tmps,defers:=[{target:=Target.fn (Fn.func 16) #[.pointer (some ⟨bp,0,none⟩),.pointer (some ⟨bl,0,none⟩),.pointer (some ⟨be,0,none⟩)],args:=#[]}]} W:=by
 subst ho;refine leaves_cons (f:=16) (args:=#[.pointer (some ⟨bp,0,none⟩),.pointer (some ⟨bl,0,none⟩),.pointer (some ⟨be,0,none⟩)]) (by simp) (by simp[go_sem]) ?_;refine(catch_panicking bp bl be er.1 er.2 [] W A B C D undef undef hP hL hE (by omega) (by omega) (by omega)).mono ?_;rintro e u' w' ⟨rfl,rfl,q1,q2,q3,T2⟩;obtain⟨p0,p1,_⟩:=heap2 q1;obtain⟨l0,_⟩:=heap1 q2;obtain⟨e0,_⟩:=heap1 q3;have T3:Turn (fun _=>False) w w':=T.then T2 (fun i hi=> .inr (by omega));have h2':tmps[2]?.getD undef= .pointer (some ⟨bp,0,none⟩):=by rw[h2];rfl
 have h3':tmps[3]?.getD undef= .pointer (some ⟨bl,0,none⟩):=by rw[h3];rfl
 have h4':tmps[4]?.getD undef= .pointer (some ⟨be,0,none⟩):=by rw[h4];rfl
 simp[Leaves,settle,results,Tryz.results8,go_sem,h2',h3',h4',p0,p1,l0,e0,ParsePost,T3]
def Rest (k:Nat) (o:Except (Int×Int) ((List Bs×List S62)×List S42)) (o1:Except (Int×Int) (List Bs×List S42)):Prop:=
 match o1 with
 | .error er=>o= .error er
 | .ok (m,l1)=>pbind (pTop k []) (fun s=>pok (m,s)) l1=some o
def PmLoop (o1:Except (Int×Int) (List Bs×List S42)) (w:World) (n g bp bl be kq:Nat) (W:World):Prop:=
 ∃(xs:List Bs) (A:Option Addr) (c:Nat) (l':List S42),pMaps kq xs l'=some o1∧xs.length+l'.length≤1000000000∧Rd W n g l'∧n≤W.heap.size∧Turn (fun _=>False) w W∧W.heap[bp]? =some (bP (.slice A xs.length c) (.slice none 0 0))∧
  W.heap[bl]? =some (.cells #[.int .i64 0] 3 (0,0))∧W.heap[be]? =some (.cells #[.int .i64 0] 24 (0,0))∧Kd.N Kd.string 9 W n (fun k=>n≤k) (.slice A xs.length c) xs
def Rest2 (ms:List Bs) (o:Except (Int×Int) ((List Bs×List S62)×List S42)) (o2:Except (Int×Int) (List S62×List S42)):Prop:=
 match o2 with
 | .error er=>o= .error er
 | .ok (ss,_)=>∃l1,o= .ok ((ms,ss),l1)
def PtLoop (o2:Except (Int×Int) (List S62×List S42)) (w:World) (n g bp bl be kq m:Nat) (ms:List Bs) (A:Option Addr) (c:Nat) (W:World):Prop:=
 ∃(ys:List S62) (A':Option Addr) (c2:Nat) (l2:List S42),pTop kq ys l2=some o2∧ys.length+l2.length≤1000000000∧Rd W n g l2∧m≤W.heap.size∧Turn (fun _=>False) w W∧W.heap[bp]? =some (bP (.slice A ms.length c) (.slice A' ys.length c2))∧
  W.heap[bl]? =some (.cells #[.int .i64 0] 3 (0,0))∧W.heap[be]? =some (.cells #[.int .i64 0] 24 (0,0))∧Kd.N Kd.string 9 W n (fun k=>n≤k∧k<m) (.slice A ms.length c) ms∧Kd.N k62 62 W m (fun k=>m≤k) (.slice A' ys.length c2) ys
structure Mid where
 bz:Nat
 s:S62
 A4:Option Addr
 c4:Nat
 A5:Option Addr
 c5:Nat
 A6:Option Addr
 c6:Nat
 l3:List S42
structure MidF (o2:Except (Int×Int) (List S62×List S42)) (w:World) (n g bp bl be kq m:Nat) (ms:List Bs) (ys:List S62) (A A':Option Addr) (c c2:Nat) (l2:List S42) (q:Mid) (W:World):Prop where
 hp:pTop kq (ys++[q.s]) q.l3=some o2
 ln:ys.length+l2.length≤1000000000
 lt:q.l3.length<l2.length
 R:Rd W n g q.l3
 sz:m≤W.heap.size
 ml:n≤m
 X:Turn (fun _=>False) w W
 BP:W.heap[bp]? =some (bP (.slice A ms.length c) (.slice A' ys.length c2))
 BL:W.heap[bl]? =some (.cells #[.int .i64 0] 3 (0,0))
 BE:W.heap[be]? =some (.cells #[.int .i64 0] 24 (0,0))
 NM:Kd.N Kd.string 9 W n (fun k=>n≤k∧k<m) (.slice A ms.length c) ms
 NS:Kd.N k62 62 W m (fun k=>m≤k) (.slice A' ys.length c2) ys
 BZ:W.heap[q.bz]? =some (.cells #[.int .i64 0,.string ⟨#[]⟩,.string ⟨#[]⟩,.string ⟨#[]⟩,.slice none 0 0,.slice none 0 0,.slice none 0 0] 62 (0,0))
 V:VS W (fun k=>m≤k∧some k≠(Value.slice A' ys.length c2).ownBlock) q.s q.A4 q.c4 q.A5 q.c5 q.A6 q.c6
theorem zFK {W:World} {ok:Nat→Prop}:Kd.FK k62 W ok z62 [.int .i64 0,.string ⟨#[]⟩,.string ⟨#[]⟩,.string ⟨#[]⟩,.slice none 0 0,.slice none 0 0,.slice none 0 0]:=
 k62_mkF W ok z62 (Nat.le_refl _) (Kd.F_nil _ _ _) (Nat.le_refl _) (Kd.F_nil _ _ _) (Nat.le_refl _) (Kd.F_nil _ _ _)
theorem parse_call (s:Bs) (l:List S42) (k:Nat) (o:Except (Int×Int) ((List Bs×List S62)×List S42)) (w:World) (hs:s.size≤1048576) (ho:pProg k l=some o)
 (HT:∀W,Turn (fun _=>False) w W→Calls Tryz.prog 17 #[.string s] W (TkPost W l)) (hw:WF l) (ht:Toks l) (hl:(stop l).length≤1000000) (ev:Value) (h5:5<w.heap.size) (hev:w.cell? ⟨5,0,none⟩=some ev) (hev2:ev= .nilIface∨∃te pe,ev= .iface te pe):
 Calls Tryz.prog 8 #[.string s] w (ParsePost w o):=by
 have hmf:∀(fn:Fn) (first cap:Array Value) (w:World),(Instr.makeFunc fn first cap).run Tryz.prog w= .ok (.func fn first cap) w:=fun _ _ _ _=>rfl
 have hs1:¬(1048576:Int)<(s.size:Int):=by omega
 have hs2:(s.size:Int)≤1048576:=by omega
 have HTH:=η HT;have T0:=η ((((Turn.refl (fun _=>False) w).alloc (bP (.slice none 0 0) (.slice none 0 0))).alloc (.cells #[.int .i64 0] 3)).alloc (.cells #[.int .i64 0] 24));obtain⟨bp,hbp⟩:∃b,b=w.heap.size:=⟨_,rfl⟩;obtain⟨bl,hbl⟩:∃b,b=w.heap.size+1:=⟨_,rfl⟩;obtain⟨be,hbe⟩:∃b,b=w.heap.size+1+1:=⟨_,rfl⟩;have BP:=alloc_old (alloc_old (alloc_new w (bP (.slice none 0 0) (.slice none 0 0))) (.cells #[.int .i64 0] 3)) (.cells #[.int .i64 0] 24);have BL:=alloc_old (alloc_new (w.alloc (bP (.slice none 0 0) (.slice none 0 0))) (.cells #[.int .i64 0] 3)) (.cells #[.int .i64 0] 24);have BE:=alloc_new ((w.alloc (bP (.slice none 0 0) (.slice none 0 0))).alloc (.cells #[.int .i64 0] 3)) (.cells #[.int .i64 0] 24);rw[show(w.alloc (bP (.slice none 0 0) (.slice none 0 0))).heap.size=bl by simp;omega]at BL;rw[show((w.alloc (bP (.slice none 0 0) (.slice none 0 0))).alloc (.cells #[.int .i64 0] 3)).heap.size=be by simp;omega]at BE;rw[← hbp]at BP;have hsz:(((w.alloc (bP (.slice none 0 0) (.slice none 0 0))).alloc (.cells #[.int .i64 0] 3)).alloc (.cells #[.int .i64 0] 24)).heap.size=be+1:=by simp;omega
 have HSZ:=η hsz;have BP:=η BP;have BL:=η BL;have BE:=η BE;have E1:=η hbp;have E2:=η hbl;have E3:=η hbe;have HEV:=η hev;have HOP:=η ho;clear HT hsz hbp hbl hbe hev ho hs;go_enter_defers Tryz.func8,Tryz.ntmps8;go_upto_region 4 with fail
 rw[← E3.out,← E2.out,← E1.out];generalize((w.alloc (bP (.slice none 0 0) (.slice none 0 0))).alloc (.cells #[.int .i64 0] 3)).alloc (.cells #[.int .i64 0] 24)=w0 at*;have hb:w.heap.size≤bp∧bp<bl∧bl<be:=by have:=E1.out;have:=E2.out;have:=E3.out;omega
 have hbE:w0.heap.size=be+1:=HSZ.out;have HBE:=η hbE;have hb0:be<w0.heap.size:=by omega
 clear hbE;go_wp2_with fail
 refine(HTH.out _ T0.out).mono ?_;rintro e w1 ⟨b,c,rfl,q1,q2,q3,q4,T1⟩;have hs3:=T1.size;go_wp2_with fail
 obtain⟨g,hgg⟩:∃b,b=w1.heap.size:=⟨_,rfl⟩;have hng:g<g+1:=by omega
 obtain⟨r0,hr0⟩:=stop_hd hw.ne
 have RG:Rd (w1.alloc (.cells #[.slice (some ⟨b,0,none⟩) (stop l).length c] 55)) (g+1) g l:=by
  refine⟨hw,hng,ht,⟨by omega,by omega,ev,?_,hev2⟩,b,0,c,by omega,by omega,?_,q1,hl,fun i t hi=> ?_⟩
  · exact((((Turn.alloc T1 _).cell ((T0.out).cell HEV.out (fun z=>z)) (fun z=>z))))
  · rw[hgg];exact alloc_new w1 _
  · obtain⟨a0,a1,a2⟩:=q4 i t hi
    have hs:(w1.alloc (.cells #[.slice (some ⟨b,0,none⟩) (stop l).length c] 55)).heap[b]? =w1.heap[b]? :=same_alloc w1 w1.heap.size (Nat.le_refl _) _ b q3;rw[Nat.zero_add];exact⟨(cell_same hs).trans a0,(cell_same hs).trans a1,(cell_same hs).trans a2⟩
 have X0:Turn (fun _=>False) w (w1.alloc (.cells #[.slice (some ⟨b,0,none⟩) (stop l).length c] 55)):=(T0.out.then T1 (fun i hi=>hi.elim)).alloc _
 have L0:PmLoop ((pMaps k [] l).getD (.error (0,0))) w (g+1) g bp bl be k (w1.alloc (.cells #[.slice (some ⟨b,0,none⟩) (stop l).length c] 55)):=by
  refine⟨[],none,0,l,?_,by simp;exact Nat.le_of_lt ht.1,RG,by simp;omega,X0,alloc_old (T1.heap BP.out (fun z=>z)) _,alloc_old (T1.heap BL.out (fun z=>z)) _,alloc_old (T1.heap BE.out (fun z=>z)) _,Kd.N_nil _ _ _ _ _⟩;have:=HOP.out;unfold pProg pbind at this;cases hq:pMaps k [] l with
  |none=>rw[hq]at this;cases this
  |some q=>rfl
 have HO1:Hid (Rest k o ((pMaps k [] l).getD (.error (0,0)))):=by
  refine η ?_;have:=HOP.out;unfold pProg at this;rcases pbind_cases this with⟨er,h1,h2⟩|⟨x,l1,h1,h2⟩
  · rw[h1];exact h2
  · rw[h1];exact h2
 have hgb:be<g:=by omega
 rw[← hgg];clear X0 RG r0 hr0 q1 q2 q3 q4 hs3 T1 hng hw ht hl hev2 HEV HOP T0 BP BL BE HSZ HBE hb0 HTH E1 E2 E3;generalize w1.alloc (.cells #[.slice (some ⟨b,0,none⟩) (stop l).length c] 55)=w2 at*;generalize(pMaps k [] l).getD (.error (0,0))=o1 at*;obtain⟨n,hnn⟩:∃n,n=g+1:=⟨_,rfl⟩;rw[← hnn]at L0;have hgn:g<n:=by omega
 have hb5:bp≠5:=by omega
 clear hgg hnn;go_loopg [15] k (fun kq v15 W=>PmLoop o1 w n g bp bl be kq W)
 case atStart=>exact L0
 case round=>
  clear L0;obtain⟨xs,A,c',l',hp,hl,R,hnw,X,BP,BL,BE,NM⟩:=hrel;have X:=η X;have BP:=η BP;have BL:=η BL;have BE:=η BE;have NM:=η NM;have HL:=η hl;have htk:=R.tk;clear hl;cases gk with
  |zero=>rw[pMaps]at hp;cases hp
  |succ kq=>
   rw[pMaps]at hp;dsimp only at hp;by_cases c1:isM (hd l') [109,97,112]
   · rw[if_pos c1]at hp
     have hln:=tail_len (l:=l') (by rw[c1.1];decide);have G1:=η (got_yes R ⟨#[109,97,112]⟩ (isM_lit c1));have H:=pbind_cases hp;clear c1 hp;go_wp2_with fail
     refine G1.out.mono ?_;rintro e w7 ⟨rfl,R7,T7⟩;have hs7:=T7.size;have hnwn:n≤w7.heap.size:=by omega
     have Xn:=η (X.out.then T7 (fun i hi=> .inr (by omega)));have BPn:=η (T7.heap BP.out (fun z=>by omega));have BLn:=η (T7.heap BL.out (fun z=>by omega));have BEn:=η (T7.heap BE.out (fun z=>by omega));have NMn:=η (Kd.N_step NM.out (fun k hk hlt=>T7.block k hlt (fun z=>by omega)));clear X;have X:=Xn;clear Xn;clear BP;have BP:=BPn;clear BPn;clear BL;have BL:=BLn;clear BLn;clear BE;have BE:=BEn;clear BEn;clear NM;have NM:=NMn;clear NMn;clear hnw R T7 hs7 G1;have hnw:=hnwn;clear hnwn;go_upto_region 6 with fail
     have Xn:=η X.out.drew;have BPn:w7.drew.heap[bp]? =some (bP (.slice A xs.length c') (.slice none 0 0)):=BP.out;have BPn:=η BPn;have BLn:w7.drew.heap[bl]? =some (.cells #[.int .i64 0] 3 (0,0)):=BL.out;have BLn:=η BLn;have BEn:w7.drew.heap[be]? =some (.cells #[.int .i64 0] 24 (0,0)):=BE.out;have BEn:=η BEn;have NMn:=η (Kd.N_drew NM.out);have R:Rd w7.drew n g l'.tail:=R7.move (fun _ _=>rfl);have hnwn:n≤w7.drew.heap.size:=hnw;clear X;have X:=Xn;clear Xn;clear BP;have BP:=BPn;clear BPn;clear BL;have BL:=BLn;clear BLn;clear BE;have BE:=BEn;clear BEn;clear NM;have NM:=NMn;clear NMn;clear hnw R7;have hnw:=hnwn;clear hnwn;refine sr 8 (S:=fun W=>W.cell? ⟨bp,0,none⟩=some (.slice A xs.length c')) (ds:=[7]) (heap2 BP.out).1 ?_;generalize w7.drew=wA at*;intro hH;refine pu 0 17 ?_ (hQ:=by exact fun _ _ _ h=>panic8 17 (by decide) h);refine tk 1 18 hH ?_ (hQ:=by exact fun _ _ _ h=>panic8 18 (by decide) h);refine pu 2 19 ?_ (hQ:=by exact fun _ _ _ h=>panic8 19 (by decide) h);refine on 3 20 (fun K hK=> ?_);rcases H with⟨er,h1,rfl⟩|⟨s',l2,h1,h2⟩
     · refine callp_ Tryz.func19 (by kernel_rfl) (by kernel_rfl) #[.pointer (some ⟨g,0,none⟩)] (by rfl) (by rfl) (by simp[Act.eval]) ?_
       refine(name_tok h1 R hnw).mono ?_;rintro e w3 ⟨rfl,T3⟩;exact⟨_,rfl,door_panic rfl rfl rfl (T3.heap BP.out (fun z=>by omega)) (T3.heap BL.out (fun z=>by omega)) (T3.heap BE.out (fun z=>by omega)) hb (X.out.then T3 (fun i hi=> .inr (by omega))) HO1.out⟩
     refine PrintLast.goes_ Tryz.func19 (by kernel_rfl) (by kernel_rfl) #[.pointer (some ⟨g,0,none⟩)] (by rfl) (by rfl) (by rfl) (by simp[Act.eval]) ?_;refine(name_tok h1 R hnw).mono ?_;rintro e w3 ⟨rfl,R3,T3⟩;obtain⟨q1,q2⟩:=pname_len h1 htk.tl;have hs3:=T3.size;have hnwn:n≤w3.heap.size:=by omega
     have Xn:=η (X.out.then T3 (fun i hi=> .inr (by omega)));have BPn:=η (T3.heap BP.out (fun z=>by omega));have BLn:=η (T3.heap BL.out (fun z=>by omega));have BEn:=η (T3.heap BE.out (fun z=>by omega));have NMn:=η (Kd.N_step NM.out (fun k hk hlt=>T3.block k hlt (fun z=>by omega)));clear X;have X:=Xn;clear Xn;clear BP;have BP:=BPn;clear BPn;clear BL;have BL:=BLn;clear BLn;clear BE;have BE:=BEn;clear BEn;clear NM;have NM:=NMn;clear NMn;clear hnw R T3 h1;have hnw:=hnwn;clear hnwn;refine⟨_,rfl,hK.out _ _ (heap2 BP.out).1 (fun hH=> ?_)⟩;clear hK K;refine nm 20 ?_;refine on 4 21 (fun K hK=> ?_);refine PrintLast.value_ (w1:=w3.alloc (.cells #[.string s'] 9)) (v:= .slice (some ⟨w3.heap.size,0,none⟩) 1 1) (by rfl) (by rfl) (by go_simp) ?_;refine hK.out _ _ (heap2 (alloc_old BP.out _)).1 (fun hH=> ?_);clear hK K;refine nm 21 ?_;refine on 5 22 (fun K hK=> ?_)
     refine Kd.N_append_step Kd.string n (by simp[Region.wanted]) (.tmp 18) (.tmp 21) 28 9 (.string ⟨#[]⟩) 16 rfl Tryz.underlying28 info9 rfl (by decide) (by decide)
      (.slice A xs.length c') xs s' [.string s'] (fun k=>n≤k) (fun k=>False) rfl rfl (fun _ _=>rfl) (fun k hk=>hk.elim) (fun k hk=>by omega)
      NM.out (Below.refl _ _) (by omega) (by have:=HL.out;omega) ?_
     intro v1 w5 N1 hb5' hg5 hat5;obtain⟨g5,cap5,hv1,hgb5,hgl5,_⟩:=Kd.N_form N1 (by simp);subst hv1;have T5:Turn (fun k=>n≤k) w3 w5:=Turn.of_grown hg5 (fun k hk=> .inl (NM.out.1 k hk));have hs5:=T5.size;have hnwn:n≤w5.heap.size:=by omega
     have Xn:=η (X.out.then T5 (fun i hi=> .inr (by omega)));have BPn:=η (T5.heap BP.out (fun z=>by omega));have BLn:=η (T5.heap BL.out (fun z=>by omega));have BEn:=η (T5.heap BE.out (fun z=>by omega));clear X;have X:=Xn;clear Xn;clear BP;have BP:=BPn;clear BPn;clear BL;have BL:=BLn;clear BLn;clear BE;have BE:=BEn;clear BEn;have R5:=R3.turn T5 hnw (fun k hk=>hk);clear hnw R3 T5 NM hat5 hg5 hb5';have hnw:=hnwn;clear hnwn;refine hK.out _ _ (heap2 BP.out).1 (fun hH=> ?_);clear hK K;refine nm 22 ?_;refine pu 6 23 ?_ (hQ:=by exact fun _ _ _ h=>panic8 23 (by decide) h);refine la 7 (fun K hK=> ?_);obtain⟨e0,e1,ef⟩:=heap2 BP.out;refine PrintLast.skip_ (w1:=w5.setCell ⟨bp,0,none⟩ (.slice (some ⟨g5,0,none⟩) (xs++[s']).length cap5)) (by rfl) (by rfl) (by go_simp) ?_;refine hK.out _ _ ?_;refine PrintLast.done_ (by kernel_rfl) ?_;clear hK K hH;have T6:Turn (fun k=>k=bp) w5 (w5.setCell ⟨bp,0,none⟩ (.slice (some ⟨g5,0,none⟩) (xs++[s']).length cap5)):=turn_at (Turn.refl _ _) 0 _;have BPn:=η (set_field (i:=0) BP.out (.slice (some ⟨g5,0,none⟩) (xs++[s']).length cap5) rfl);have R6:=R5.put BP.out hb5 0 (.slice (some ⟨g5,0,none⟩) (xs++[s']).length cap5);have Xn:=η (X.out.then T6 (fun i hi=> .inr (by omega)));have BLn:=η (T6.heap BL.out (fun z=>by omega));have BEn:=η (T6.heap BE.out (fun z=>by omega));have NM:=η (Kd.N_step N1 (fun k hk hlt=>T6.block k hlt (fun z=>by omega)));have hnwn:n≤(w5.setCell ⟨bp,0,none⟩ (.slice (some ⟨g5,0,none⟩) (xs++[s']).length cap5)).heap.size:=by simp;omega
     clear X;have X:=Xn;clear Xn;clear BP;have BP:=BPn;clear BPn;clear BL;have BL:=BLn;clear BLn;clear BE;have BE:=BEn;clear BEn;clear hnw R5 T6 N1 e0 e1 ef hgb5 hgl5;have hnw:=hnwn;clear hnwn;generalize w5.setCell ⟨bp,0,none⟩ (.slice (some ⟨g5,0,none⟩) (xs++[s']).length cap5)=w6 at*;have H3:=pbind_cases h2;clear h2;go_wp2_with fail
     rcases H3 with⟨er,h1,rfl⟩|⟨_,l3,h1,h2⟩
     · refine(skip_tok [59] h1 (R6.al hnw (.cells #[.string ⟨#[59]⟩] 9)) _ (by simp)).mono ?_
       rintro e w8 ⟨rfl,T8⟩;go_wp2_with fail
       exact door_panic rfl rfl rfl (T8.heap (alloc_old BP.out _) (fun z=>by omega)) (T8.heap (alloc_old BL.out _) (fun z=>by omega)) (T8.heap (alloc_old BE.out _) (fun z=>by omega)) hb ((X.out.alloc _).then T8 (fun i hi=> .inr (by omega))) HO1.out
     refine(skip_tok [59] h1 (R6.al hnw (.cells #[.string ⟨#[59]⟩] 9)) _ (by simp)).mono ?_;rintro e w8 ⟨rfl,R8,T8⟩;obtain⟨q3,q4⟩:=ptok_len h1 q2;have hs8:=T8.size;simp at hs8;have Xn:=η (X.out.alloc (.cells #[.string ⟨#[59]⟩] 9));have BPn:=η (alloc_old BP.out (.cells #[.string ⟨#[59]⟩] 9));have BLn:=η (alloc_old BL.out (.cells #[.string ⟨#[59]⟩] 9));have BEn:=η (alloc_old BE.out (.cells #[.string ⟨#[59]⟩] 9));have NMn:=η (Kd.N_alloc NM.out (.cells #[.string ⟨#[59]⟩] 9));clear X;have X:=Xn;clear Xn;clear BP;have BP:=BPn;clear BPn;clear BL;have BL:=BLn;clear BLn;clear BE;have BE:=BEn;clear BEn;clear NM;have NM:=NMn;clear NMn;have Xn:=η (X.out.then T8 (fun i hi=> .inr (by omega)));have BPn:=η (T8.heap BP.out (fun z=>by omega));have BLn:=η (T8.heap BL.out (fun z=>by omega));have BEn:=η (T8.heap BE.out (fun z=>by omega));have NMn:=η (Kd.N_step NM.out (fun k hk hlt=>T8.block k hlt (fun z=>by omega)));clear X;have X:=Xn;clear Xn;clear BP;have BP:=BPn;clear BPn;clear BL;have BL:=BLn;clear BLn;clear BE;have BE:=BEn;clear BEn;clear NM;have NM:=NMn;clear NMn;go_wp2_with fail
     go_roundg kq
     case measure=>omega
     case rel=>
      exact⟨xs++[s'],_,_,l3,h2,by have:=HL.out;simp;omega,R8,by omega,X.out,BP.out,BL.out,BE.out,NM.out⟩
   · rw[if_neg c1]at hp
     have G1:=η (got_no R ⟨#[109,97,112]⟩ (notM_lit c1));obtain rfl:=Option.some.inj hp;have HO2:=HO1.out;clear c1 hp HO1;obtain⟨ms,hms⟩:∃ms,ms=xs:=⟨_,rfl⟩;rw[← hms]at BP NM HO2
     have hR2:Rest2 ms o ((pTop k [] l').getD (.error (0,0)))∧(pTop k [] l').isSome=true:=by
      have h2:pbind (pTop k []) (fun s=>pok (ms,s)) l'=some o:=HO2;rcases pbind_cases h2 with⟨er,h1,h2⟩|⟨x,l1,h1,h2⟩
      · rw[h1];exact⟨h2,rfl⟩
      · rw[h1];exact⟨⟨l1,(Option.some.inj h2).symm⟩,rfl⟩
     obtain⟨m,hm⟩:∃m,m=wr.heap.size:=⟨_,rfl⟩
     have L0:PtLoop ((pTop k [] l').getD (.error (0,0))) w n g bp bl be k m ms A c' wr:=by
      refine⟨[],none,0,l',?_,by simp;exact Nat.le_of_lt htk.1,R,by omega,X.out,BP.out,BL.out,BE.out,Kd.N_mono (Kd.N_bound NM.out) (fun k hk=>⟨hk.1,by omega⟩),Kd.N_nil _ _ _ _ _⟩;have:=hR2.2;cases hq:pTop k [] l' with
      |none=>rw[hq]at this;cases this
      |some q=>rfl
     have hnm:n≤m:=by omega
     have HO2:=η hR2.1;clear hR2 hm hms HL htk NM;have hwb:w.heap.size≤bp:=hb.1;go_wp2_with fail
     refine G1.out.mono ?_;rintro e w7 ⟨rfl,rfl⟩;clear G1 R X BP BL BE hnw;generalize(pTop k [] l').getD (.error (0,0))=o2 at*;go_wp2_with fail
     go_loopg [27] k (fun kq v27 W=>PtLoop o2 w n g bp bl be kq m ms A c' W)
     case atStart=>exact L0
     case round=>
      clear L0;obtain⟨ys,A',c2,l2,hp,hl,R,hmw,X,BP,BL,BE,NM,NS⟩:=hrel;have X:=η X;have BP:=η BP;have BL:=η BL;have BE:=η BE;have NM:=η NM;have NS:=η NS;have HL:=η hl;have htk:=R.tk;clear hl;cases gk with
      |zero=>rw[pTop]at hp;cases hp
      |succ kq=>
       rw[pTop]at hp;dsimp only at hp;by_cases ch:(hd l2).f2=36
       · rw[if_pos ch]at hp
         obtain rfl:=Option.some.inj hp;have G1:=trivial;obtain⟨b,ofs,q,cc,z1,z2,z3,z4,c0,f0,t0,t1,t2,hadv⟩:=R.cells;have z5:0<q+1:=by omega
         have k1:(kd (hd l2).f2 !=1)=false:=by rw[kd_eq.2.2.2.2 ch];rfl
         have HO2':=η HO2.out;clear hadv hp ch HL htk;generalize kd (hd l2).f2=kk at*;obtain⟨p0,p1,pf⟩:=heap2 BP.out;obtain⟨lc0,lf⟩:=heap1 BL.out;obtain⟨ec0,ef⟩:=heap1 BE.out;go_wp2_with fail
         refine leaves_cons (f:=16) (args:=#[.pointer (some ⟨bp,0,none⟩),.pointer (some ⟨bl,0,none⟩),.pointer (some ⟨be,0,none⟩)]) (by simp) (by simp[go_sem]) ?_;refine(catch_idle bp bl be _).mono ?_;rintro e u' w' ⟨rfl,rfl,rfl⟩;have T1:=turn_at (turn_at (Turn.refl (fun k=>k=bp) wr) 0 (.slice A ms.length c')) 1 (.slice A' ys.length c2);have P1:=set_field (i:=1) (set_field (i:=0) BP.out (.slice A ms.length c') rfl) (.slice A' ys.length c2) rfl;have L1:=T1.heap BL.out (fun z=>by omega);have E1:=T1.heap BE.out (fun z=>by omega);generalize(wr.setCell ⟨bp,0,none⟩ (.slice A ms.length c')).setCell ⟨bp,1,none⟩ (.slice A' ys.length c2)=w5 at*;have T2:=turn_at (Turn.refl (fun k=>k=bl) w5) 0 (.int .i64 0);have P2:=T2.heap P1 (fun z=>by omega);have L2:=set_field (i:=0) L1 (.int .i64 0) rfl;have E2:=T2.heap E1 (fun z=>by omega);generalize w5.setCell ⟨bl,0,none⟩ (.int .i64 0)=w6 at*;have T3:=turn_at (Turn.refl (fun k=>k=be) w6) 0 (.int .i64 0);have P3:=T3.heap P2 (fun z=>by omega);have L3:=T3.heap L2 (fun z=>by omega);have E3:=set_field (i:=0) E2 (.int .i64 0) rfl;generalize w6.setCell ⟨be,0,none⟩ (.int .i64 0)=w7 at*;have NM1:=Kd.N_step NM.out (fun k hk hlt=>T1.block k hlt (fun z=>by omega));have NM2:=Kd.N_step NM1 (fun k hk hlt=>T2.block k hlt (fun z=>by omega));have NM3:=Kd.N_step NM2 (fun k hk hlt=>T3.block k hlt (fun z=>by omega));have NS1:=Kd.N_step NS.out (fun k hk hlt=>T1.block k hlt (fun z=>by omega));have NS2:=Kd.N_step NS1 (fun k hk hlt=>T2.block k hlt (fun z=>by omega));have NS3:=Kd.N_step NS2 (fun k hk hlt=>T3.block k hlt (fun z=>by omega));have TX:=((X.out.then T1 (fun i hi=> .inr (by omega))).then T2 (fun i hi=> .inr (by omega))).then T3 (fun i hi=> .inr (by omega));obtain⟨p0,p1,_⟩:=heap2 P3;obtain⟨lc0,_⟩:=heap1 L3;obtain⟨ec0,_⟩:=heap1 E3
         have FIN:ParsePost w o (.returned (.tuple #[.agg #[.slice A ms.length c',.slice A' ys.length c2],.int .i64 0,.int .i64 0])) w7:=by
          refine⟨TX,?_⟩;obtain⟨lz,hz⟩:=HO2'.out;rw[hz];exact⟨A,c',A',c2,rfl,(Kd.N_reads' NM3).2.1,Kd.F_mono (Kd.N_F NM3) (fun k hk=>by omega),(Kd.N_reads' NS3).2.1,Kd.F_mono (Kd.N_F NS3) (fun k hk=>by omega)⟩
         clear T1 T2 T3 P1 P2 P3 L1 L2 L3 E1 E2 E3 TX NM1 NM2 NM3 NS1 NS2 NS3 pf lf ef;simp[Leaves,settle,results,Tryz.results8,go_sem,p0,p1,lc0,ec0];exact FIN
       · rw[if_neg ch]at hp
         have H:=pbind_cases hp;obtain⟨b,ofs,q0,cc,z1,z2,z3,z4,c0,f0,t0,t1,t2,hadv⟩:=R.cells;have z5:0<q0+1:=by omega
         have k1:(kd (hd l2).f2 !=1)=true:=by rw[bne_iff_ne];exact fun z=>ch (kd_eq.2.2.2.1 z)
         clear hadv hp ch;generalize kd (hd l2).f2=kk at*;go_upto_region 9 with fail
         clear c0 f0 t0 t1 t2 z1 z2 z3 z4 z5 k1;have Xn:=η X.out.drew;have BPn:wr.drew.heap[bp]? =some (bP (.slice A ms.length c') (.slice A' ys.length c2)):=BP.out;have BPn:=η BPn;have BLn:wr.drew.heap[bl]? =some (.cells #[.int .i64 0] 3 (0,0)):=BL.out;have BLn:=η BLn;have BEn:wr.drew.heap[be]? =some (.cells #[.int .i64 0] 24 (0,0)):=BE.out;have BEn:=η BEn;have NMn:=η (Kd.N_drew NM.out);have NSn:=η (Kd.N_drew NS.out);have Rn:Rd wr.drew n g l2:=R.move (fun _ _=>rfl);have hmwn:m≤wr.drew.heap.size:=hmw;clear X;have X:=Xn;clear Xn;clear BP;have BP:=BPn;clear BPn;clear BL;have BL:=BLn;clear BLn;clear BE;have BE:=BEn;clear BEn;clear NM;have NM:=NMn;clear NMn;clear NS;have NS:=NSn;clear NSn;clear R;have R:=Rn;clear Rn;clear hmw;have hmw:=hmwn;clear hmwn;refine sr 11 (S:=fun W=>W.cell? ⟨bp,1,none⟩=some (.slice A' ys.length c2)) (ds:=[8,10]) (heap2 BP.out).2.1 ?_;generalize wr.drew=wA at*;intro hH;refine pu 0 35 ?_ (hQ:=by exact fun _ _ _ h=>panic8 35 (by decide) h);refine tk 1 36 hH ?_ (hQ:=by exact fun _ _ _ h=>panic8 36 (by decide) h);refine pu 2 37 ?_ (hQ:=by exact fun _ _ _ h=>panic8 37 (by decide) h);refine pu 4 39 ?_ (hQ:=by exact fun _ _ _ h=>panic8 39 (by decide) h);refine PrintLast.join_ 5 #[true,true,true,true,true,true,false,false,false,false,false] (fun q:Mid=>[(38,.agg #[.int .i64 q.s.f0,.string q.s.f1,.string q.s.f2,.string q.s.f3,.slice q.A4 q.s.f4.length q.c4,.slice q.A5 q.s.f5.length q.c5,.slice q.A6 q.s.f6.length q.c6]),(40,.slice (some ⟨q.bz,0,none⟩) 1 1)]) (fun q W'=>MidF o2 w n g bp bl be kq m ms ys A A' c' c2 l2 q W'∧W'.cell? ⟨bp,1,none⟩=some (.slice A' ys.length c2)) ?_ ?_
         · rintro q w4 ⟨HM,hH⟩
           have hzc:=HM.BZ;have hml:=HM.ml;refine PrintLast.norm_ (a':= ?_) ?_ ?_;rotate_left
           · show PrintLast.putAll _ _=_
             simp only[PrintLast.putAll,Act.put,sLs];rfl
           refine on 6 41 (fun K hK=> ?_)
           refine N_append_at k62 m (by simp[Region.wanted]) (.tmp 36) (.tmp 40) 29 62 (.agg #[.int .i64 0,.string ⟨#[]⟩,.string ⟨#[]⟩,.string ⟨#[]⟩,.slice none 0 0,.slice none 0 0,.slice none 0 0]) 128 rfl Tryz.underlying29 info62 rfl (by decide) (by decide)
            (.slice A' ys.length c2) ys z62 [.int .i64 0,.string ⟨#[]⟩,.string ⟨#[]⟩,.string ⟨#[]⟩,.slice none 0 0,.slice none 0 0,.slice none 0 0] q.bz (fun k=>m≤k) (fun k=>False) rfl rfl HM.BZ zFK (fun k hk=>hk.elim) (fun k hk=>by have:=HM.sz;omega) HM.NS HM.sz (by have:=HM.ln;omega) ?_
           intro v1 w5 N1 hg5 hat5;obtain⟨g5,cap5,hv1,hgb5,hgl5,_⟩:=Kd.N_form N1 (by simp);subst hv1;have T5:Turn (fun k=>m≤k) w4 w5:=Turn.of_grown hg5 (fun k hk=> .inl (HM.NS.1 k hk));have hs5:=T5.size;have hsz:=HM.sz;have BP:=η (T5.heap HM.BP (fun z=>by omega));have BL:=η (T5.heap HM.BL (fun z=>by omega));have BE:=η (T5.heap HM.BE (fun z=>by omega));have X:=η (HM.X.then T5 (fun i hi=> .inr (by omega)));have NM:=η (Kd.N_step HM.NM (fun k hk hlt=>T5.block k hlt (fun z=>by omega)));have R:=HM.R.turn T5 (by omega) (fun k hk=>by omega);have TO:Turn (fun k=>(Value.slice A' ys.length c2).ownBlock=some k) w4 w5:=Turn.of_grown hg5 (fun k hk=> .inl hk)
           have VQ:=η ((HM.V.old (ok':=fun k=>(m≤k∧k≠g5)∧some k≠(Value.slice A' ys.length c2).ownBlock) (fun k hk hlt=>⟨⟨hk.1,fun e=>by
            rcases hat5 with h|⟨b,h,hle⟩
            · exact hk.2 (by rw[← h,e];rfl)
            · simp[Value.ownBlock]at h;omega⟩,hk.2⟩)).turn TO (fun k hk z=>z.2 hk.symm))
           refine hK.out _ _ (heap2 BP.out).2.1 (fun hH=> ?_);clear hK K TO T5 hat5 hg5;refine nm 41 ?_;refine PrintLast.pure_ (i:=7) (N:=some 42) (v:= ?_) (a':= ?_) #[true,true,true,true,true,true,true,true,false,false,false] rfl rfl (by kernel_rfl) (fun _ _ _ h=>panic8 42 (by decide) h) (Or.inl ⟨by rfl,?_⟩) ?_ ?_;rotate_left
           · intro w'
             go_simp;rw[if_pos (by omega)]
           rotate_left
           · simp only[Act.put,sLs]
             rfl
           refine pu 9 43 ?_ (hQ:=by exact fun _ _ _ h=>panic8 43 (by decide) h);have hset:(ys++[z62]).set ys.length q.s=ys++[q.s]:=by simp
           have hlen2:(ys++[z62]).length=(ys++[q.s]).length:=by simp
           rw[hlen2]at N1;have QP:=η HM.hp;have QN:=η HM.ln;have QL:=η HM.lt;have NN:=η N1;have hw5:m≤w5.heap.size:=by omega
           clear N1 HM hzc hs5;refine two_last (i:=8) (j:=10) #[true,true,true,true,true,true,true,true,true,true,false] #[true,true,true,true,true,true,true,true,false,true,true] rfl rfl rfl rfl (by kernel_rfl) (by decide) (by decide) (fun K hK=> ?_) (fun K hK=> ?_)
           · refine N_store_step k62 (by simp[Region.wanted]) rfl 62 (.tmp 42) (.tmp 38) rfl 62 m ys.length (ys++[z62]) q.s (.agg #[.int .i64 q.s.f0,.string q.s.f1,.string q.s.f2,.string q.s.f3,.slice q.A4 q.s.f4.length q.c4,.slice q.A5 q.s.f5.length q.c5,.slice q.A6 q.s.f6.length q.c6]) _ (fun k=>m≤k) (fun k=>(m≤k∧k≠g5)∧some k≠(Value.slice A' ys.length c2).ownBlock) rfl rfl rfl rfl (by kernel_rfl) NN.out (by simp) VQ.out.FK (fun k hk=>hk.1) ?_
             intro w6 N2 hg6;rw[hset]at N2;have T6:Turn (fun k=>k=g5) w5 w6:=Turn.of_grown hg6 (fun k hk=> .inl (Option.some.inj hk).symm);have hs6:=T6.size;have BP6:=η (T6.heap BP.out (fun z=>by omega));have BL6:=η (T6.heap BL.out (fun z=>by omega));have BE6:=η (T6.heap BE.out (fun z=>by omega));have X6:=η (X.out.then T6 (fun i hi=> .inr (by omega)));have NM6:=η (Kd.N_step NM.out (fun k hk hlt=>T6.block k hlt (fun z=>by omega)));have R6:=R.turn T6 (by omega) (fun k hk=>by omega);refine hK.out _ _ ?_;clear hK K hg6;refine la 10 (fun K hK=> ?_);obtain⟨e0,e1,ef⟩:=heap2 BP6.out;refine PrintLast.skip_ (w1:=w6.setCell ⟨bp,1,none⟩ (.slice (some ⟨g5,0,none⟩) (ys++[q.s]).length cap5)) (by rfl) (by rfl) (by go_simp) ?_;refine hK.out _ _ ?_;refine PrintLast.done_ (by kernel_rfl) ?_;clear hK K hH e0 e1 ef;have T7:Turn (fun k=>k=bp) w6 (w6.setCell ⟨bp,1,none⟩ (.slice (some ⟨g5,0,none⟩) (ys++[q.s]).length cap5)):=turn_at (Turn.refl _ _) 1 _;have BP7:=set_field (i:=1) BP6.out (.slice (some ⟨g5,0,none⟩) (ys++[q.s]).length cap5) rfl;have R7:=R6.put BP6.out hb5 1 (.slice (some ⟨g5,0,none⟩) (ys++[q.s]).length cap5);have X7:=X6.out.then T7 (fun i hi=> .inr (by omega));have BL7:=T7.heap BL6.out (fun z=>by omega);have BE7:=T7.heap BE6.out (fun z=>by omega);have NM7:=Kd.N_step NM6.out (fun k hk hlt=>T7.block k hlt (fun z=>by omega));have NS7:=Kd.N_step N2 (fun k hk hlt=>T7.block k hlt (fun z=>by omega));have hm7:m≤(w6.setCell ⟨bp,1,none⟩ (.slice (some ⟨g5,0,none⟩) (ys++[q.s]).length cap5)).heap.size:=by simp;omega
             go_wp2_with fail
             go_roundg kq
             case measure=>omega
             case rel=>
              exact⟨ys++[q.s],_,_,q.l3,QP.out,by have:=QN.out;have:=QL.out;simp;omega,R7,hm7,X7,BP7,BL7,BE7,NM7,NS7⟩
           · obtain⟨e0,e1,ef⟩:=heap2 BP.out
             refine PrintLast.skip_ (w1:=w5.setCell ⟨bp,1,none⟩ (.slice (some ⟨g5,0,none⟩) (ys++[q.s]).length cap5)) (by rfl) (by rfl) (by go_simp) ?_;refine hK.out _ _ ?_;clear hK K e0 e1 ef;have T7:Turn (fun k=>k=bp) w5 (w5.setCell ⟨bp,1,none⟩ (.slice (some ⟨g5,0,none⟩) (ys++[q.s]).length cap5)):=turn_at (Turn.refl _ _) 1 _;have BP7:=η (set_field (i:=1) BP.out (.slice (some ⟨g5,0,none⟩) (ys++[q.s]).length cap5) rfl);have R7:=R.put BP.out hb5 1 (.slice (some ⟨g5,0,none⟩) (ys++[q.s]).length cap5);have X7:=η (X.out.then T7 (fun i hi=> .inr (by omega)));have BL7:=η (T7.heap BL.out (fun z=>by omega));have BE7:=η (T7.heap BE.out (fun z=>by omega));have NM7:=η (Kd.N_step NM.out (fun k hk hlt=>T7.block k hlt (fun z=>by omega)));have NS7:=η (Kd.N_step NN.out (fun k hk hlt=>T7.block k hlt (fun z=>by omega)));have VQ7:=η (VQ.out.turn T7 (fun k hk z=>by omega));have hm7:m≤(w5.setCell ⟨bp,1,none⟩ (.slice (some ⟨g5,0,none⟩) (ys++[q.s]).length cap5)).heap.size:=by simp;omega
             clear T7 X BP BL BE NM NN VQ R;generalize w5.setCell ⟨bp,1,none⟩ (.slice (some ⟨g5,0,none⟩) (ys++[q.s]).length cap5)=w6 at*;refine la 8 (fun K hK=> ?_);refine N_store_step k62 (by simp[Region.wanted]) rfl 62 (.tmp 42) (.tmp 38) rfl 62 m ys.length (ys++[z62]) q.s (.agg #[.int .i64 q.s.f0,.string q.s.f1,.string q.s.f2,.string q.s.f3,.slice q.A4 q.s.f4.length q.c4,.slice q.A5 q.s.f5.length q.c5,.slice q.A6 q.s.f6.length q.c6]) _ (fun k=>m≤k) (fun k=>(m≤k∧k≠g5)∧some k≠(Value.slice A' ys.length c2).ownBlock) rfl rfl rfl rfl (by kernel_rfl) NS7.out (by simp) VQ7.out.FK (fun k hk=>hk.1) ?_;intro w8 N2 hg6;rw[hset]at N2;have T6:Turn (fun k=>k=g5) w6 w8:=Turn.of_grown hg6 (fun k hk=> .inl (Option.some.inj hk).symm);have hs6:=T6.size;have BP6:=T6.heap BP7.out (fun z=>by omega);have BL6:=T6.heap BL7.out (fun z=>by omega);have BE6:=T6.heap BE7.out (fun z=>by omega);have X6:=X7.out.then T6 (fun i hi=> .inr (by omega));have NM6:=Kd.N_step NM7.out (fun k hk hlt=>T6.block k hlt (fun z=>by omega));have R6:=R7.turn T6 (by omega) (fun k hk=>by omega);refine hK.out _ _ ?_;refine PrintLast.done_ (by kernel_rfl) ?_;clear hK K hg6;go_wp2_with fail
             go_roundg kq
             case measure=>omega
             case rel=>
              exact⟨ys++[q.s],_,_,q.l3,QP.out,by have:=QN.out;have:=QL.out;simp;omega,R6,by omega,X6,BP6,BL6,BE6,NM6,N2⟩
         · intro TAIL
           refine PrintLast.two_ (i:=3) (j:=5) (Ni:=some 38) (Nj:=some 40) #[true,true,true,true,true,false,false,false,false,false,false] #[true,true,true,false,true,true,false,false,false,false,false] rfl rfl rfl rfl (by kernel_rfl) (by decide) (by decide) (fun K hK=> ?_) (fun K hK=> ?_)
           · rcases H with⟨er,h1,rfl⟩|⟨sq,l3,h1,h2⟩
             · refine callp_ Tryz.func21 (by kernel_rfl) (by kernel_rfl) #[.pointer (some ⟨g,0,none⟩)] (by rfl) (by rfl) (by simp[Act.eval]) ?_
               refine(stmt_at kq l2 _ _ n g h1 R (by omega)).mono ?_;rintro e w3 ⟨rfl,T3⟩;exact⟨_,rfl,door_panic rfl rfl rfl (T3.heap BP.out (fun z=>by omega)) (T3.heap BL.out (fun z=>by omega)) (T3.heap BE.out (fun z=>by omega)) hb (X.out.then T3 (fun i hi=> .inr (by omega))) HO2.out⟩
             refine PrintLast.goes_ Tryz.func21 (by kernel_rfl) (by kernel_rfl) #[.pointer (some ⟨g,0,none⟩)] (by rfl) (by rfl) (by rfl) (by simp[Act.eval]) ?_;refine(stmt_at kq l2 _ _ n g h1 R (by omega)).mono ?_;rintro e w3 ⟨A4,c4,A5,c5,A6,c6,rfl,V,R3,T3⟩;obtain⟨q1,q2⟩:=stm_len h1 htk;have hs3:=T3.size;have BP3:=T3.heap BP.out (fun z=>by omega);refine⟨_,rfl,hK.out _ _ (heap2 BP3).2.1 (fun hH=> ?_)⟩;clear hK K;refine nm 38 ?_;refine on 5 40 (fun K hK=> ?_);refine PrintLast.value_ (w1:=w3.alloc (.cells #[.int .i64 0,.string ⟨#[]⟩,.string ⟨#[]⟩,.string ⟨#[]⟩,.slice none 0 0,.slice none 0 0,.slice none 0 0] 62)) (v:= .slice (some ⟨w3.heap.size,0,none⟩) 1 1) (by rfl) (by rfl) (by go_simp) ?_;refine hK.out _ _ (heap2 (alloc_old BP3 _)).2.1 (fun hH=> ?_);clear hK K;refine PrintLast.norm_ ?_ (TAIL ⟨w3.heap.size,sq,A4,c4,A5,c5,A6,c6,l3⟩ _ ⟨⟨h2,HL.out,q1,R3.al (by omega) _,by simp;omega,hnm,(X.out.then T3 (fun i hi=> .inr (by omega))).alloc _,alloc_old BP3 _,alloc_old (T3.heap BL.out (fun z=>by omega)) _,alloc_old (T3.heap BE.out (fun z=>by omega)) _,Kd.N_alloc (Kd.N_step NM.out (fun k hk hlt=>T3.block k hlt (fun z=>by omega))) _,Kd.N_alloc (Kd.N_step NS.out (fun k hk hlt=>T3.block k hlt (fun z=>by omega))) _,alloc_new w3 _,?_⟩,hH⟩)
             · show Act.put _ (some 40) _=PrintLast.putAll _ _
               simp only[PrintLast.putAll,Act.put,sLs]
             · exact(V.al _).mono (fun k hk=>⟨by omega,fun z=>by have:=Kd.N_lt NS.out k z.symm;omega⟩)
           · refine PrintLast.value_ (w1:=wA.alloc (.cells #[.int .i64 0,.string ⟨#[]⟩,.string ⟨#[]⟩,.string ⟨#[]⟩,.slice none 0 0,.slice none 0 0,.slice none 0 0] 62)) (v:= .slice (some ⟨wA.heap.size,0,none⟩) 1 1) (by rfl) (by rfl) (by go_simp) ?_
             have BPa:=alloc_old BP.out (.cells #[.int .i64 0,.string ⟨#[]⟩,.string ⟨#[]⟩,.string ⟨#[]⟩,.slice none 0 0,.slice none 0 0,.slice none 0 0] 62);have BLa:=alloc_old BL.out (.cells #[.int .i64 0,.string ⟨#[]⟩,.string ⟨#[]⟩,.string ⟨#[]⟩,.slice none 0 0,.slice none 0 0,.slice none 0 0] 62);have BEa:=alloc_old BE.out (.cells #[.int .i64 0,.string ⟨#[]⟩,.string ⟨#[]⟩,.string ⟨#[]⟩,.slice none 0 0,.slice none 0 0,.slice none 0 0] 62);have BZa:=alloc_new wA (.cells #[.int .i64 0,.string ⟨#[]⟩,.string ⟨#[]⟩,.string ⟨#[]⟩,.slice none 0 0,.slice none 0 0,.slice none 0 0] 62);have Ra:=R.al (by omega) (.cells #[.int .i64 0,.string ⟨#[]⟩,.string ⟨#[]⟩,.string ⟨#[]⟩,.slice none 0 0,.slice none 0 0,.slice none 0 0] 62);have Xa:=X.out.alloc (.cells #[.int .i64 0,.string ⟨#[]⟩,.string ⟨#[]⟩,.string ⟨#[]⟩,.slice none 0 0,.slice none 0 0,.slice none 0 0] 62);have NMa:=Kd.N_alloc NM.out (.cells #[.int .i64 0,.string ⟨#[]⟩,.string ⟨#[]⟩,.string ⟨#[]⟩,.slice none 0 0,.slice none 0 0,.slice none 0 0] 62);have NSa:=Kd.N_alloc NS.out (.cells #[.int .i64 0,.string ⟨#[]⟩,.string ⟨#[]⟩,.string ⟨#[]⟩,.slice none 0 0,.slice none 0 0,.slice none 0 0] 62);have hna:n≤(wA.alloc (.cells #[.int .i64 0,.string ⟨#[]⟩,.string ⟨#[]⟩,.string ⟨#[]⟩,.slice none 0 0,.slice none 0 0,.slice none 0 0] 62)).heap.size:=by simp;omega
             have hma:m≤(wA.alloc (.cells #[.int .i64 0,.string ⟨#[]⟩,.string ⟨#[]⟩,.string ⟨#[]⟩,.slice none 0 0,.slice none 0 0,.slice none 0 0] 62)).heap.size:=by simp;omega
             have hla:wA.heap.size≤(wA.alloc (.cells #[.int .i64 0,.string ⟨#[]⟩,.string ⟨#[]⟩,.string ⟨#[]⟩,.slice none 0 0,.slice none 0 0,.slice none 0 0] 62)).heap.size:=by simp
             refine hK.out _ _ (heap2 BPa).2.1 (fun hH=> ?_);clear hK K;refine nm 40 ?_;generalize wA.alloc (.cells #[.int .i64 0,.string ⟨#[]⟩,.string ⟨#[]⟩,.string ⟨#[]⟩,.slice none 0 0,.slice none 0 0,.slice none 0 0] 62)=wB at*;refine on 3 38 (fun K hK=> ?_);rcases H with⟨er,h1,rfl⟩|⟨sq,l3,h1,h2⟩
             · refine callp_ Tryz.func21 (by kernel_rfl) (by kernel_rfl) #[.pointer (some ⟨g,0,none⟩)] (by rfl) (by rfl) (by simp[Act.eval]) ?_
               refine(stmt_at kq l2 _ _ n g h1 Ra hna).mono ?_;rintro e w3 ⟨rfl,T3⟩;exact⟨_,rfl,door_panic rfl rfl rfl (T3.heap BPa (fun z=>by omega)) (T3.heap BLa (fun z=>by omega)) (T3.heap BEa (fun z=>by omega)) hb (Xa.then T3 (fun i hi=> .inr (by omega))) HO2.out⟩
             refine PrintLast.goes_ Tryz.func21 (by kernel_rfl) (by kernel_rfl) #[.pointer (some ⟨g,0,none⟩)] (by rfl) (by rfl) (by rfl) (by simp[Act.eval]) ?_;refine(stmt_at kq l2 _ _ n g h1 Ra hna).mono ?_;rintro e w3 ⟨A4,c4,A5,c5,A6,c6,rfl,V,R3,T3⟩;obtain⟨q1,q2⟩:=stm_len h1 htk;have hs3:=T3.size;have hm3:m≤w3.heap.size:=Nat.le_trans hma hs3;have BZ3:=T3.heap BZa (fun z=>by omega);have BP3:=T3.heap BPa (fun z=>by omega);refine⟨_,rfl,hK.out _ _ (heap2 BP3).2.1 (fun hH=> ?_)⟩;clear hK K;refine PrintLast.norm_ ?_ (TAIL ⟨wA.heap.size,sq,A4,c4,A5,c5,A6,c6,l3⟩ _ ⟨⟨h2,HL.out,q1,R3,hm3,hnm,Xa.then T3 (fun i hi=> .inr (by omega)),BP3,T3.heap BLa (fun z=>by omega),T3.heap BEa (fun z=>by omega),Kd.N_step NMa (fun k hk hlt=>T3.block k hlt (fun z=>by omega)),Kd.N_step NSa (fun k hk hlt=>T3.block k hlt (fun z=>by omega)),BZ3,?_⟩,hH⟩)
             · show Act.put _ (some 38) _=PrintLast.putAll _ _
               simp only[PrintLast.putAll,Act.put,sLs]
             · exact V.mono (fun k hk=>⟨by omega,fun z=>by have:=Kd.N_lt NSa k z.symm;omega⟩)
end Go.Proofs.YtbemddpmohoooaaGreatDoor
