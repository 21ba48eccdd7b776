import Derived.Test.YtbemddpmohoooaaGreatDoorQ21
import Derived.Test.YtbemddpmohoooaaGreatDoorQ22
import Derived.Test.YtbemddpmohoooaaGreatDoorQ24
set_option linter.unusedVariables false
set_option linter.unusedSimpArgs false
set_option linter.unusedSectionVars false
set_option maxHeartbeats 128000000
set_option maxRecDepth 100000
namespace Go.Proofs.YtbemddpmohoooaaGreatDoor
open PShelfFormats RowKit
theorem dcond_step (n:Nat) (BK:DBlk n) (CO:DCond n):DCond (n+1):=by
 intro cs s hn h p r W b o cp ht hno D;cases h with
 |one i c x bb l hi hc hb=>
  simp only[List.length_cons,List.length_append]at hn;have e:p++(i::(c++bb)++r)=p++(i::(c++(bb++r))):=by simp
  have e2:p.length+(i::(c++bb)).length=p.length+(1+c.length+bb.length):=by simp;omega
  rw[e2];rw[e]at ht D⊢;cases r with
  |nil=>exact dcond_nil n BK i c x bb l [] (by omega) hi hc hb rfl p W b o cp ht D
  |cons t q=>
   have hne:¬isM t wElse:=by
    rcases hno with h|h
    · cases h
    · exact h
   exact dcond_no n BK i c x bb l (t::q) (by omega) hi hc hb t q rfl hne p W b o cp ht D
 |els i c x bb l e b2 l2 hi hc hb he hb2=>
  simp only[List.length_cons,List.length_append]at hn;have e1:p++(i::(c++(bb++e::b2))++r)=p++(i::(c++(bb++e::(b2++r)))):=by simp
  have e2:p.length+(i::(c++(bb++e::b2))).length=p.length+(1+c.length+bb.length+1+b2.length):=by simp;omega
  rw[e2];rw[e1]at ht D⊢;exact dcond_els n BK i c x bb l (e::(b2++r)) (by omega) hi hc hb e b2 l2 r rfl he (by omega) hb2 p W b o cp ht D
 |eif i c x bb l e cc s2 hi hc hb he hcc=>
  simp only[List.length_cons,List.length_append]at hn;have e1:p++(i::(c++(bb++e::cc))++r)=p++(i::(c++(bb++e::(cc++r)))):=by simp
  have e2:p.length+(i::(c++(bb++e::cc))).length=p.length+(1+c.length+bb.length+1+cc.length):=by simp;omega
  rw[e2];rw[e1]at ht D⊢;exact dcond_eif n BK CO i c x bb l (e::(cc++r)) (by omega) hi hc hb e cc s2 r rfl he (by omega) hcc hno p W b o cp ht D
open YtbemddpmohoooaaGreatDoorW YtbemddpmohoooaaGreatDoorW.PrintWords
theorem done_brk (t z:S42) (h1:isM t wBreak) (p r:List S42) (w:World) (b o cp:Nat) (D:DR w b o cp (p++([t,z]++r))):
 Calls Tryz.prog 31 #[.slice (some ⟨b,o,none⟩) (p++([t,z]++r)).length cp,.int .i64 (p.length:Int)] w (DsPost w (st 9) (p.length+2)):=by
 have hlen:(p++([t,z]++r)).length=p.length+(2+r.length):=by simp;omega
 have hle:=D.len;rw[hlen]at hle;have hp0:(0:Int)≤(p.length:Int):=by omega
 have hp1:(p.length:Int)<1000000000:=by omega
 have hpl:(p.length:Int)<((p++([t,z]++r)).length:Int):=by rw[hlen];omega
 obtain⟨t0,t1,t2,t3,t4⟩:=D.at (i:=p.length) (t:=t) (by simp);rw[h1.1]at t2;have hx:t.f0.toList=wBreak:=h1.2;have qDelete:(t.f0.toList==([100,101,108,101,116,101]:List UInt8))=false:=by rw[hx];rfl
 have qClear:(t.f0.toList==([99,108,101,97,114]:List UInt8))=false:=by rw[hx];rfl
 have qPrint:(t.f0.toList==([112,114,105,110,116]:List UInt8))=false:=by rw[hx];rfl
 have qIf:(t.f0.toList==([105,102]:List UInt8))=false:=by rw[hx];rfl
 have qWhile:(t.f0.toList==([119,104,105,108,101]:List UInt8))=false:=by rw[hx];rfl
 have qFor:(t.f0.toList==([102,111,114]:List UInt8))=false:=by rw[hx];rfl
 have qBreak:(t.f0.toList==([98,114,101,97,107]:List UInt8))=true:=by rw[hx];rfl
 clear hx;generalize p++([t,z]++r)=tK at*;have HB:=η (alloc_new w box62);have T0:=η ((Turn.refl (fun _=>False) w).alloc box62);have hj:((p.length+2:Nat):Int)=(p.length:Int)+2:=by simp
 unfold DsPost;rw[hj];clear hlen hle hj h1;go_enter Tryz.func31,Tryz.ntmps31;go_upto_region 1 with fail
 have u0:=T0.out.cell t0 (fun z=>z);have u2:=T0.out.cell t2 (fun z=>z);clear t0 t1 t2 t3 t4;generalize w.alloc (.cells #[.int .i64 0,.string ⟨#[]⟩,.string ⟨#[]⟩,.string ⟨#[]⟩,.slice none 0 0,.slice none 0 0,.slice none 0 0] 62)=w1 at*;obtain⟨r0,r1,r2,r3,r4,r5,r6,rf⟩:=heap7 HB.out;go_wp2_with fail
 clear r0 r1 r2 r3 r4 r5 r6 rf u0 u2;obtain⟨s1,s2⟩:=set7 HB.out (.int .i64 9) (.string ⟨#[]⟩) (.string ⟨#[]⟩) (.string ⟨#[]⟩) (.slice none 0 0) (.slice none 0 0) (.slice none 0 0);have X8:=T0.out.then s2 (fun i hi=> .inr (by omega));clear s2;unfold set7w at*;generalize(((((((w1.setCell ⟨w.heap.size,0,none⟩ (.int .i64 9)).setCell ⟨w.heap.size,1,none⟩ (.string ⟨#[]⟩)).setCell ⟨w.heap.size,2,none⟩ (.string ⟨#[]⟩)).setCell ⟨w.heap.size,3,none⟩ (.string ⟨#[]⟩)).setCell ⟨w.heap.size,4,none⟩ (.slice none 0 0)).setCell ⟨w.heap.size,5,none⟩ (.slice none 0 0)).setCell ⟨w.heap.size,6,none⟩ (.slice none 0 0))=w8 at*;refine ret62t 4 5 rfl rfl rfl (b:=w.heap.size) s1 ⟨none,0,none,0,none,0,rfl,VS.bare rfl rfl rfl,X8⟩
theorem done_cnt (t z:S42) (h1:isM t wContinue) (p r:List S42) (w:World) (b o cp:Nat) (D:DR w b o cp (p++([t,z]++r))):
 Calls Tryz.prog 31 #[.slice (some ⟨b,o,none⟩) (p++([t,z]++r)).length cp,.int .i64 (p.length:Int)] w (DsPost w (st 10) (p.length+2)):=by
 have hlen:(p++([t,z]++r)).length=p.length+(2+r.length):=by simp;omega
 have hle:=D.len;rw[hlen]at hle;have hp0:(0:Int)≤(p.length:Int):=by omega
 have hp1:(p.length:Int)<1000000000:=by omega
 have hpl:(p.length:Int)<((p++([t,z]++r)).length:Int):=by rw[hlen];omega
 obtain⟨t0,t1,t2,t3,t4⟩:=D.at (i:=p.length) (t:=t) (by simp);rw[h1.1]at t2;have hx:t.f0.toList=wContinue:=h1.2;have qDelete:(t.f0.toList==([100,101,108,101,116,101]:List UInt8))=false:=by rw[hx];rfl
 have qClear:(t.f0.toList==([99,108,101,97,114]:List UInt8))=false:=by rw[hx];rfl
 have qPrint:(t.f0.toList==([112,114,105,110,116]:List UInt8))=false:=by rw[hx];rfl
 have qIf:(t.f0.toList==([105,102]:List UInt8))=false:=by rw[hx];rfl
 have qWhile:(t.f0.toList==([119,104,105,108,101]:List UInt8))=false:=by rw[hx];rfl
 have qFor:(t.f0.toList==([102,111,114]:List UInt8))=false:=by rw[hx];rfl
 have qBreak:(t.f0.toList==([98,114,101,97,107]:List UInt8))=false:=by rw[hx];rfl
 clear hx;generalize p++([t,z]++r)=tK at*;have HB:=η (alloc_new w box62);have T0:=η ((Turn.refl (fun _=>False) w).alloc box62);have hj:((p.length+2:Nat):Int)=(p.length:Int)+2:=by simp
 unfold DsPost;rw[hj];clear hlen hle hj h1;go_enter Tryz.func31,Tryz.ntmps31;go_upto_region 1 with fail
 have u0:=T0.out.cell t0 (fun z=>z);have u2:=T0.out.cell t2 (fun z=>z);clear t0 t1 t2 t3 t4;generalize w.alloc (.cells #[.int .i64 0,.string ⟨#[]⟩,.string ⟨#[]⟩,.string ⟨#[]⟩,.slice none 0 0,.slice none 0 0,.slice none 0 0] 62)=w1 at*;obtain⟨r0,r1,r2,r3,r4,r5,r6,rf⟩:=heap7 HB.out;go_wp2_with fail
 clear r0 r1 r2 r3 r4 r5 r6 rf u0 u2;obtain⟨s1,s2⟩:=set7 HB.out (.int .i64 10) (.string ⟨#[]⟩) (.string ⟨#[]⟩) (.string ⟨#[]⟩) (.slice none 0 0) (.slice none 0 0) (.slice none 0 0);have X8:=T0.out.then s2 (fun i hi=> .inr (by omega));clear s2;unfold set7w at*;generalize(((((((w1.setCell ⟨w.heap.size,0,none⟩ (.int .i64 10)).setCell ⟨w.heap.size,1,none⟩ (.string ⟨#[]⟩)).setCell ⟨w.heap.size,2,none⟩ (.string ⟨#[]⟩)).setCell ⟨w.heap.size,3,none⟩ (.string ⟨#[]⟩)).setCell ⟨w.heap.size,4,none⟩ (.slice none 0 0)).setCell ⟨w.heap.size,5,none⟩ (.slice none 0 0)).setCell ⟨w.heap.size,6,none⟩ (.slice none 0 0))=w8 at*;refine ret62t 4 5 rfl rfl rfl (b:=w.heap.size) s1 ⟨none,0,none,0,none,0,rfl,VS.bare rfl rfl rfl,X8⟩
theorem done_clr (t n z:S42) (h1:isM t wClear) (p r:List S42) (w:World) (b o cp:Nat) (tK:List S42) (htk:tK=p++([t,n,z]++r)) (D:DR w b o cp tK):
 Calls Tryz.prog 31 #[.slice (some ⟨b,o,none⟩) tK.length cp,.int .i64 (p.length:Int)] w (DsPost w {st 4 with f1:=n.f0} (p.length+3)):=by
 have htl:tK.length=p.length+(3+r.length):=by rw[htk];simp;omega
 have hle:=D.len;rw[htl]at hle;have hp0:(0:Int)≤(p.length:Int):=by omega
 have hp1:(p.length:Int)<1000000000:=by omega
 have hp2:(0:Int)≤(p.length:Int)+1:=by omega
 have a0:=D.at (i:=p.length) (t:=t) (by rw[htk];simp);have n0:p.length=((p.length:Int)).toNat:=by omega
 rw[n0]at a0;have l0:(p.length:Int)<(tK.length:Int):=by rw[htl];omega
 clear n0;have a1:=D.at (i:=p.length+1) (t:=n) (by rw[htk];simp);have n1:p.length+1=((p.length:Int)+1).toNat:=by omega
 rw[n1]at a1;have l1:(p.length:Int)+1<(tK.length:Int):=by rw[htl];omega
 clear n1;have hj:((p.length+3:Nat):Int)=(p.length:Int)+3:=by simp
 unfold DsPost;rw[hj];clear htl hle hj htk D;generalize(p.length:Int)=pl at*;obtain⟨t0,t1,t2,t3,t4⟩:=a0;obtain⟨m0,m1,m2,m3,m4⟩:=a1;rw[h1.1]at t2;have hx:t.f0.toList=wClear:=h1.2;have qDelete:(t.f0.toList==([100,101,108,101,116,101]:List UInt8))=false:=by rw[hx];rfl
 have qClear:(t.f0.toList==([99,108,101,97,114]:List UInt8))=true:=by rw[hx];rfl
 clear hx;have HB:=η (alloc_new w box62);have T0:=η ((Turn.refl (fun _=>False) w).alloc box62);clear h1;go_enter Tryz.func31,Tryz.ntmps31;go_upto_region 1 with fail
 have u0:=T0.out.cell t0 (fun z=>z);have u2:=T0.out.cell t2 (fun z=>z);have u3:=T0.out.cell m0 (fun z=>z);clear t0 t1 t2 t3 t4 m0 m1 m2 m3 m4;generalize w.alloc (.cells #[.int .i64 0,.string ⟨#[]⟩,.string ⟨#[]⟩,.string ⟨#[]⟩,.slice none 0 0,.slice none 0 0,.slice none 0 0] 62)=w1 at*;obtain⟨r0,r1,r2,r3,r4,r5,r6,rf⟩:=heap7 HB.out;go_wp2_with fail
 clear r0 r1 r2 r3 r4 r5 r6 rf u0 u2 u3;obtain⟨s1,s2⟩:=set7 HB.out (.int .i64 4) (.string n.f0) (.string ⟨#[]⟩) (.string ⟨#[]⟩) (.slice none 0 0) (.slice none 0 0) (.slice none 0 0);have X8:=T0.out.then s2 (fun i hi=> .inr (by omega));clear s2;unfold set7w at*;generalize(((((((w1.setCell ⟨w.heap.size,0,none⟩ (.int .i64 4)).setCell ⟨w.heap.size,1,none⟩ (.string n.f0)).setCell ⟨w.heap.size,2,none⟩ (.string ⟨#[]⟩)).setCell ⟨w.heap.size,3,none⟩ (.string ⟨#[]⟩)).setCell ⟨w.heap.size,4,none⟩ (.slice none 0 0)).setCell ⟨w.heap.size,5,none⟩ (.slice none 0 0)).setCell ⟨w.heap.size,6,none⟩ (.slice none 0 0))=w8 at*;refine ret62t 4 5 rfl rfl rfl (b:=w.heap.size) s1 ⟨none,0,none,0,none,0,rfl,VS.bare rfl rfl rfl,X8⟩
theorem done_set (t:S42) (h1:t.f2=110) (s:S62) (j:Nat) (p q:List S42) (w:World) (b o cp:Nat) (tK:List S42) (htk:tK=p++t::q) (D:DR w b o cp tK) (CC:∀W,DR W b o cp tK→Calls Tryz.prog 61 #[.slice (some ⟨b,o,none⟩) tK.length cp,.int .i64 (p.length:Int)] W (DsPost W s j)):
 Calls Tryz.prog 31 #[.slice (some ⟨b,o,none⟩) tK.length cp,.int .i64 (p.length:Int)] w (DsPost w s j):=by
 have htl:tK.length=p.length+(1+q.length):=by rw[htk];simp;omega
 have hle:=D.len;rw[htl]at hle;have hp0:(0:Int)≤(p.length:Int):=by omega
 have hp1:(p.length:Int)<1000000000:=by omega
 have a0:=D.at (i:=p.length) (t:=t) (by rw[htk];simp);have n0:p.length=((p.length:Int)).toNat:=by omega
 rw[n0]at a0;have l0:(p.length:Int)<(tK.length:Int):=by rw[htl];omega
 clear n0;unfold DsPost at CC⊢;replace D:=η D;clear htl hle htk;generalize(p.length:Int)=pl at*;generalize(j:Int)=J at*;obtain⟨t0,t1,t2,t3,t4⟩:=a0;rw[h1]at t2;have HB:=η (alloc_new w box62);have T0:=η ((Turn.refl (fun _=>False) w).alloc box62);go_enter Tryz.func31,Tryz.ntmps31;go_upto_region 1 with fail
 have u0:=T0.out.cell t0 (fun z=>z);have u2:=T0.out.cell t2 (fun z=>z);have hw1:w.heap.size<(w.alloc box62).heap.size:=by simp
 clear t0 t1 t2 t3 t4;generalize w.alloc (.cells #[.int .i64 0,.string ⟨#[]⟩,.string ⟨#[]⟩,.string ⟨#[]⟩,.slice none 0 0,.slice none 0 0,.slice none 0 0] 62)=w1 at*;have C1:=η (CC w1 (D.out.turn T0.out));clear CC;go_wp2_with(first|(go_at_call 61;refine C1.out.mono ?_;rintro e w2 ⟨A4,c4,A5,c5,A6,c6,rfl,V2,T2⟩;have X2:=η (T0.out.then T2 (fun i hi=>hi.elim));have B2:=η (T2.heap HB.out (fun z=>z));have VH:=η V2;obtain⟨r0,r1,r2,r3,r4,r5,r6,rf⟩:=heap7 B2.out;clear V2 T2))
 clear u0 u2;obtain⟨s1,s2⟩:=set7 B2.out (.int .i64 s.f0) (.string s.f1) (.string s.f2) (.string s.f3) (.slice A4 s.f4.length c4) (.slice A5 s.f5.length c5) (.slice A6 s.f6.length c6);have X8:=X2.out.then s2 (fun i hi=> .inr (by omega));have V8:=(VH.out.mono (ok':=fun k=>w.heap.size≤k∧k≠w.heap.size) (fun k hk=>by omega)).turn s2 (fun k hk q=>q.2 hk);clear s2;unfold set7w at*;generalize(((((((w2.setCell ⟨w.heap.size,0,none⟩ (.int .i64 s.f0)).setCell ⟨w.heap.size,1,none⟩ (.string s.f1)).setCell ⟨w.heap.size,2,none⟩ (.string s.f2)).setCell ⟨w.heap.size,3,none⟩ (.string s.f3)).setCell ⟨w.heap.size,4,none⟩ (.slice A4 s.f4.length c4)).setCell ⟨w.heap.size,5,none⟩ (.slice A5 s.f5.length c5)).setCell ⟨w.heap.size,6,none⟩ (.slice A6 s.f6.length c6))=w8 at*;refine ret62t 4 5 rfl rfl rfl (b:=w.heap.size) s1 ⟨A4,c4,A5,c5,A6,c6,rfl,(V8.mono (fun k hk=>hk.1)),X8⟩
theorem done_if (t:S42) (h1:isM t wIf) (s:S62) (j:Nat) (p q:List S42) (w:World) (b o cp:Nat) (tK:List S42) (htk:tK=p++t::q) (D:DR w b o cp tK) (CC:∀W,DR W b o cp tK→Calls Tryz.prog 64 #[.slice (some ⟨b,o,none⟩) tK.length cp,.int .i64 (p.length:Int)] W (DsPost W s j)):
 Calls Tryz.prog 31 #[.slice (some ⟨b,o,none⟩) tK.length cp,.int .i64 (p.length:Int)] w (DsPost w s j):=by
 have htl:tK.length=p.length+(1+q.length):=by rw[htk];simp;omega
 have hle:=D.len;rw[htl]at hle;have hp0:(0:Int)≤(p.length:Int):=by omega
 have hp1:(p.length:Int)<1000000000:=by omega
 have a0:=D.at (i:=p.length) (t:=t) (by rw[htk];simp);have n0:p.length=((p.length:Int)).toNat:=by omega
 rw[n0]at a0;have l0:(p.length:Int)<(tK.length:Int):=by rw[htl];omega
 clear n0;unfold DsPost at CC⊢;replace D:=η D;clear htl hle htk;generalize(p.length:Int)=pl at*;generalize(j:Int)=J at*;obtain⟨t0,t1,t2,t3,t4⟩:=a0;rw[h1.1]at t2;have hx:t.f0.toList=wIf:=h1.2;have qDelete:(t.f0.toList==([100,101,108,101,116,101]:List UInt8))=false:=by rw[hx];rfl
 have qClear:(t.f0.toList==([99,108,101,97,114]:List UInt8))=false:=by rw[hx];rfl
 have qPrint:(t.f0.toList==([112,114,105,110,116]:List UInt8))=false:=by rw[hx];rfl
 have qIf:(t.f0.toList==([105,102]:List UInt8))=true:=by rw[hx];rfl
 clear hx;clear h1;have HB:=η (alloc_new w box62);have T0:=η ((Turn.refl (fun _=>False) w).alloc box62);go_enter Tryz.func31,Tryz.ntmps31;go_upto_region 1 with fail
 have u0:=T0.out.cell t0 (fun z=>z);have u2:=T0.out.cell t2 (fun z=>z);have hw1:w.heap.size<(w.alloc box62).heap.size:=by simp
 clear t0 t1 t2 t3 t4;generalize w.alloc (.cells #[.int .i64 0,.string ⟨#[]⟩,.string ⟨#[]⟩,.string ⟨#[]⟩,.slice none 0 0,.slice none 0 0,.slice none 0 0] 62)=w1 at*;have C1:=η (CC w1 (D.out.turn T0.out));clear CC;go_wp2_with(first|(go_at_call 64;refine C1.out.mono ?_;rintro e w2 ⟨A4,c4,A5,c5,A6,c6,rfl,V2,T2⟩;have X2:=η (T0.out.then T2 (fun i hi=>hi.elim));have B2:=η (T2.heap HB.out (fun z=>z));have VH:=η V2;obtain⟨r0,r1,r2,r3,r4,r5,r6,rf⟩:=heap7 B2.out;clear V2 T2))
 clear u0 u2;obtain⟨s1,s2⟩:=set7 B2.out (.int .i64 s.f0) (.string s.f1) (.string s.f2) (.string s.f3) (.slice A4 s.f4.length c4) (.slice A5 s.f5.length c5) (.slice A6 s.f6.length c6);have X8:=X2.out.then s2 (fun i hi=> .inr (by omega));have V8:=(VH.out.mono (ok':=fun k=>w.heap.size≤k∧k≠w.heap.size) (fun k hk=>by omega)).turn s2 (fun k hk q=>q.2 hk);clear s2;unfold set7w at*;generalize(((((((w2.setCell ⟨w.heap.size,0,none⟩ (.int .i64 s.f0)).setCell ⟨w.heap.size,1,none⟩ (.string s.f1)).setCell ⟨w.heap.size,2,none⟩ (.string s.f2)).setCell ⟨w.heap.size,3,none⟩ (.string s.f3)).setCell ⟨w.heap.size,4,none⟩ (.slice A4 s.f4.length c4)).setCell ⟨w.heap.size,5,none⟩ (.slice A5 s.f5.length c5)).setCell ⟨w.heap.size,6,none⟩ (.slice A6 s.f6.length c6))=w8 at*;refine ret62t 4 5 rfl rfl rfl (b:=w.heap.size) s1 ⟨A4,c4,A5,c5,A6,c6,rfl,(V8.mono (fun k hk=>hk.1)),X8⟩
theorem done_rng (t a m b2 i2 n:S42) (kk:List S42) (l:List S62) (h1:isM t wFor) (hkl:Blk kk l) (N:Nat) (BK:DBlk N) (hkn:kk.length≤N) (p r:List S42) (w:World) (b o cp:Nat) (tK:List S42) (htk:tK=p++(t::a::m::b2::i2::n::kk++r)) (ht:Toks tK) (D:DR w b o cp tK):
 Calls Tryz.prog 31 #[.slice (some ⟨b,o,none⟩) tK.length cp,.int .i64 (p.length:Int)] w (DsPost w {st 8 with f1:=n.f0,f2:=a.f0,f3:=b2.f0,f5:=l} (p.length+(6+kk.length))):=by
 have htl:tK.length=p.length+(6+kk.length+r.length):=by rw[htk];simp;omega
 have hle:=D.len;rw[htl]at hle;have hp0:(0:Int)≤(p.length:Int):=by omega
 have hp1:(p.length:Int)<1000000000:=by omega
 have hp2:(0:Int)≤(p.length:Int)+1:=by omega
 have hp3:(0:Int)≤(p.length:Int)+3:=by omega
 have hp5:(0:Int)≤(p.length:Int)+5:=by omega
 have a0:=D.at (i:=p.length) (t:=t) (by rw[htk];simp);have n0:p.length=((p.length:Int)).toNat:=by omega
 rw[n0]at a0;have l0:(p.length:Int)<(tK.length:Int):=by rw[htl];omega
 clear n0;have a1:=D.at (i:=p.length+1) (t:=a) (by rw[htk];simp);have n1:p.length+1=((p.length:Int)+1).toNat:=by omega
 rw[n1]at a1;have l1:(p.length:Int)+1<(tK.length:Int):=by rw[htl];omega
 clear n1;have a3:=D.at (i:=p.length+3) (t:=b2) (by rw[htk];simp);have n3:p.length+3=((p.length:Int)+3).toNat:=by omega
 rw[n3]at a3;have l3:(p.length:Int)+3<(tK.length:Int):=by rw[htl];omega
 clear n3;have a5:=D.at (i:=p.length+5) (t:=n) (by rw[htk];simp);have n5:p.length+5=((p.length:Int)+5).toNat:=by omega
 rw[n5]at a5;have l5:(p.length:Int)+5<(tK.length:Int):=by rw[htl];omega
 clear n5;have e1:tK=(p++[t,a,m,b2,i2,n])++(kk++r):=by rw[htk];simp
 have ep:((p++[t,a,m,b2,i2,n]).length:Int)=(p.length:Int)+6:=by simp
 have ek:(((p++[t,a,m,b2,i2,n]).length+kk.length:Nat):Int)=((p.length+(6+kk.length):Nat):Int):=by simp;omega
 have BC:=η (fun W (D:DR W b o cp ((p++[t,a,m,b2,i2,n])++(kk++r)))=>BK kk l hkn hkl (p++[t,a,m,b2,i2,n]) r W b o cp (by rw[← e1];exact ht) D);unfold DbPost at BC;rw[← e1,ep,ek]at BC;unfold DsPost;replace D:=η D;clear htl hle htk e1 ep ek;generalize((p.length+(6+kk.length):Nat):Int)=J at*;generalize(p.length:Int)=pl at*;obtain⟨t0,t1,t2,t3,t4⟩:=a0;rw[h1.1]at t2;have hx:t.f0.toList=wFor:=h1.2;have qDelete:(t.f0.toList==([100,101,108,101,116,101]:List UInt8))=false:=by rw[hx];rfl
 have qClear:(t.f0.toList==([99,108,101,97,114]:List UInt8))=false:=by rw[hx];rfl
 have qPrint:(t.f0.toList==([112,114,105,110,116]:List UInt8))=false:=by rw[hx];rfl
 have qIf:(t.f0.toList==([105,102]:List UInt8))=false:=by rw[hx];rfl
 have qWhile:(t.f0.toList==([119,104,105,108,101]:List UInt8))=false:=by rw[hx];rfl
 have qFor:(t.f0.toList==([102,111,114]:List UInt8))=true:=by rw[hx];rfl
 clear hx;clear h1;have HB:=η (alloc_new w box62);have T0:=η ((Turn.refl (fun _=>False) w).alloc box62);go_enter Tryz.func31,Tryz.ntmps31;go_upto_region 1 with fail
 have u0:=T0.out.cell t0 (fun z=>z);have u2:=T0.out.cell t2 (fun z=>z);have hw1:w.heap.size<(w.alloc box62).heap.size:=by simp
 clear t0 t1 t2 t3 t4;generalize w.alloc (.cells #[.int .i64 0,.string ⟨#[]⟩,.string ⟨#[]⟩,.string ⟨#[]⟩,.slice none 0 0,.slice none 0 0,.slice none 0 0] 62)=w1 at*;have C1:=η (BC.out w1 (D.out.turn T0.out));clear BC;go_upto_region 25 with(first|(go_at_call 65;refine C1.out.mono ?_;rintro e w2 ⟨A5,c5,rfl,l5,G5,T2⟩;have X2:=η (T0.out.then T2 (fun i hi=>hi.elim));have B2:=η (T2.heap HB.out (fun z=>z));have GH:=η G5;clear T2 G5))
 clear u0 u2;have v1:=X2.out.cell a1.1 (fun z=>z);have v3:=X2.out.cell a3.1 (fun z=>z);have v5:=X2.out.cell a5.1 (fun z=>z);clear a1 a3 a5;obtain⟨r0,r1,r2,r3,r4,r5,r6,rf⟩:=heap7 B2.out;go_region;clear v1 v3 v5 r0 r1 r2 r3 r4 r5 r6 rf;go_wp2_with fail
 obtain⟨s1,s2⟩:=set7 B2.out (.int .i64 8) (.string n.f0) (.string a.f0) (.string b2.f0) (.slice none 0 0) (.slice A5 l.length c5) (.slice none 0 0);have X8:=X2.out.then s2 (fun i hi=> .inr (by omega));have G8:=row_turn (Kd.F_mono (ok':=fun k=>w.heap.size≤k∧k≠w.heap.size) GH.out (fun k hk=>by omega)) s2 (fun k hk q=>q.2 hk);clear s2;unfold set7w at*;generalize(((((((w2.setCell ⟨w.heap.size,0,none⟩ (.int .i64 8)).setCell ⟨w.heap.size,1,none⟩ (.string n.f0)).setCell ⟨w.heap.size,2,none⟩ (.string a.f0)).setCell ⟨w.heap.size,3,none⟩ (.string b2.f0)).setCell ⟨w.heap.size,4,none⟩ (.slice none 0 0)).setCell ⟨w.heap.size,5,none⟩ (.slice A5 l.length c5)).setCell ⟨w.heap.size,6,none⟩ (.slice none 0 0))=w8 at*;refine ret62t 4 5 rfl rfl rfl (b:=w.heap.size) s1 ⟨none,0,A5,c5,none,0,rfl,⟨Nat.le_refl _,Kd.F_nil _ _ _,l5,Kd.F_drew (Kd.F_mono G8 (fun k hk=>hk.1)),Nat.le_refl _,Kd.F_nil _ _ _⟩,X8.drew⟩
theorem done_whl (t:S42) (c:List S42) (x:S80) (kk:List S42) (l:List S62) (h1:isM t wWhile) (hc:Cut 0 c x) (hkl:Blk kk l) (N:Nat) (BK:DBlk N) (hkn:kk.length≤N) (p r:List S42) (w:World) (b o cp:Nat) (tK:List S42) (htk:tK=p++(t::(c++kk)++r)) (ht:Toks tK) (D:DR w b o cp tK):
 Calls Tryz.prog 31 #[.slice (some ⟨b,o,none⟩) tK.length cp,.int .i64 (p.length:Int)] w (DsPost w {st 7 with f4:=[x],f5:=l} (p.length+(1+c.length+kk.length))):=by
 obtain⟨a,bt,hbb,ha⟩:=blk_head hkl;have hkl1:1≤kk.length:=by rw[hbb];simp
 have htl:tK.length=p.length+(1+c.length+kk.length+r.length):=by rw[htk];simp;omega
 have hle:=D.len;rw[htl]at hle;have hp0:(0:Int)≤(p.length:Int):=by omega
 have hp1:(p.length:Int)<1000000000:=by omega
 have htt:Toks (t::(c++kk)++r):=by rw[htk]at ht;exact ht.tail
 have hu1:unt [[123]] 0 p.length (tK.drop p.length)=some (p.length+(1+c.length)):=by
  have e:tK=p++(([t]++c)++a::(bt++r)):=by rw[htk,hbb];simp
  rw[e,drop_pre,unt_at (Pass.app (Pass.tok htt.app.1.cons.1 h1 (by decide) (by decide)) (hc.pass (by decide))) ha (by decide) _];simp;omega
 obtain⟨o',c',hcut,D'⟩:=D.seg (p++[t]) c (kk++r) (by rw[htk];simp) ((p.length:Int)+1) ((p.length+(1+c.length):Nat):Int) (by simp) (by simp;omega);have a0:=D.at (i:=p.length) (t:=t) (by rw[htk];simp);have n0:p.length=((p.length:Int)).toNat:=by omega
 rw[n0]at a0;have l0:(p.length:Int)<(tK.length:Int):=by rw[htl];omega
 clear n0;have e1:tK=(p++t::c)++(kk++r):=by rw[htk];simp
 have ep:((p++t::c).length:Int)=((p.length+(1+c.length):Nat):Int):=by simp;omega
 have ek:(((p++t::c).length+kk.length:Nat):Int)=((p.length+(1+c.length+kk.length):Nat):Int):=by simp;omega
 have BC:=η (fun W (D:DR W b o cp ((p++t::c)++(kk++r)))=>BK kk l hkn hkl (p++t::c) r W b o cp (by rw[← e1];exact ht) D);unfold DbPost at BC;rw[← e1,ep,ek]at BC;have TC:=η (fun W (D:DR W b o' c' c)=>tree_call D hc);have U1:=η (fun W (D:DR W b o cp tK) g hg=>until_call D ht.small [[123]] (by decide) p.length (p.length+(1+c.length)) (by omega) hu1 (p.length:Int) rfl g hg 1 rfl);have hJ:(0:Int)≤((p.length+(1+c.length):Nat):Int)∧((p.length+(1+c.length):Nat):Int)<1000000000:=by omega
 unfold DsPost;replace D:=η D;clear htl hle htk e1 ep ek hu1 htt hbb;generalize((p.length+(1+c.length+kk.length):Nat):Int)=KK at*;generalize((p.length+(1+c.length):Nat):Int)=J at*;generalize(p.length:Int)=pl at*;obtain⟨hJ0,hJ1⟩:=hJ;obtain⟨t0,t1,t2,t3,t4⟩:=a0;rw[h1.1]at t2;have hx:t.f0.toList=wWhile:=h1.2;have qDelete:(t.f0.toList==([100,101,108,101,116,101]:List UInt8))=false:=by rw[hx];rfl
 have qClear:(t.f0.toList==([99,108,101,97,114]:List UInt8))=false:=by rw[hx];rfl
 have qPrint:(t.f0.toList==([112,114,105,110,116]:List UInt8))=false:=by rw[hx];rfl
 have qIf:(t.f0.toList==([105,102]:List UInt8))=false:=by rw[hx];rfl
 have qWhile:(t.f0.toList==([119,104,105,108,101]:List UInt8))=true:=by rw[hx];rfl
 clear hx;clear h1;have HB:=η (alloc_new w box62);have T0:=η ((Turn.refl (fun _=>False) w).alloc box62);go_enter Tryz.func31,Tryz.ntmps31;go_upto_region 1 with fail
 have u0:=T0.out.cell t0 (fun z=>z);have u2:=T0.out.cell t2 (fun z=>z);have hw1:w.heap.size<(w.alloc box62).heap.size:=by simp
 clear t0 t1 t2 t3 t4;generalize w.alloc (.cells #[.int .i64 0,.string ⟨#[]⟩,.string ⟨#[]⟩,.string ⟨#[]⟩,.slice none 0 0,.slice none 0 0,.slice none 0 0] 62)=w1 at*;have C1:=η (U1.out _ (D.out.turn (T0.out.alloc (.cells #[.string ⟨#[123]⟩] 9))) w1.heap.size (alloc_new w1 _));clear U1;go_upto_region 21 with(first|(go_at_call 62;refine C1.out.mono ?_;rintro e w2 ⟨rfl,H2⟩;have X2:=η ((T0.out.alloc _).then (Turn.new H2) (fun i hi=>hi.elim));have B2:=η ((Turn.new H2).heap (alloc_old HB.out _) (fun z=>z));have hs2:=H2.size;clear H2))
 clear u0 u2 C1;simp at hs2;have C2:=η (BC.out w2 (D.out.turn X2.out));clear BC;go_upto_region 22 with(first|(go_at_call 65;refine C2.out.mono ?_;rintro e w3 ⟨A5,c5,rfl,l5,G5,T3⟩;have X3:=η (X2.out.then T3 (fun i hi=>hi.elim));have B3:=η (T3.heap B2.out (fun z=>z));have GH:=η G5;have hs3:=T3.size;clear T3 G5))
 clear C2 X2 B2;have C3:=η (TC.out w3 (D'.turn X3.out));clear TC D';go_wp2_with(first|(go_at_call 63;refine C3.out.mono ?_;rintro e w4 ⟨A4,c4,rfl,V4,H4⟩;have X4:=η (X3.out.then (Turn.new H4) (fun i hi=>hi.elim));have B4:=η ((Turn.new H4).heap B3.out (fun z=>z));have hs4:=H4.size;have VH:=η V4;have G4:=η (row_turn GH.out (Turn.new H4) (fun k hk=>hk.elim));obtain⟨r0,r1,r2,r3,r4,r5,r6,rf⟩:=heap7 (alloc_old B4.out (.cells #[.int .i64 x.f0,.int .i64 x.f1,.string x.f2,.string x.f3,.slice A4 x.f4.length c4] 80));clear H4 V4))
 have B5:=η (alloc_old B4.out (.cells #[.int .i64 x.f0,.int .i64 x.f1,.string x.f2,.string x.f3,.slice A4 x.f4.length c4] 80));have X5:=η (X4.out.alloc (.cells #[.int .i64 x.f0,.int .i64 x.f1,.string x.f2,.string x.f3,.slice A4 x.f4.length c4] 80));have L5:=η (lit1 (ok':=fun k=>w.heap.size≤k∧k≠w.heap.size) VH.out (fun k hk=>by omega));have G5:=η (Kd.F_alloc G4.out (.cells #[.int .i64 x.f0,.int .i64 x.f1,.string x.f2,.string x.f3,.slice A4 x.f4.length c4] 80));clear r0 r1 r2 r3 r4 r5 r6 rf;obtain⟨s1,s2⟩:=set7 B5.out (.int .i64 7) (.string ⟨#[]⟩) (.string ⟨#[]⟩) (.string ⟨#[]⟩) (.slice (some ⟨w4.heap.size,0,none⟩) 1 1) (.slice A5 l.length c5) (.slice none 0 0);have X8:=X5.out.then s2 (fun i hi=> .inr (by omega));have L8:=row_turn L5.out s2 (fun k hk q=>q.2 hk);have G8:=row_turn (Kd.F_mono (ok':=fun k=>w.heap.size≤k∧k≠w.heap.size) G5.out (fun k hk=>by omega)) s2 (fun k hk q=>q.2 hk);clear s2;unfold set7w at*;generalize((((((((w4.alloc (.cells #[.int .i64 x.f0,.int .i64 x.f1,.string x.f2,.string x.f3,.slice A4 x.f4.length c4] 80)).setCell ⟨w.heap.size,0,none⟩ (.int .i64 7)).setCell ⟨w.heap.size,1,none⟩ (.string ⟨#[]⟩)).setCell ⟨w.heap.size,2,none⟩ (.string ⟨#[]⟩)).setCell ⟨w.heap.size,3,none⟩ (.string ⟨#[]⟩)).setCell ⟨w.heap.size,4,none⟩ (.slice (some ⟨w4.heap.size,0,none⟩) 1 1)).setCell ⟨w.heap.size,5,none⟩ (.slice A5 l.length c5)).setCell ⟨w.heap.size,6,none⟩ (.slice none 0 0))=w8 at*;refine ret62t 4 5 rfl rfl rfl (b:=w.heap.size) s1 ⟨some ⟨w4.heap.size,0,none⟩,1,A5,c5,none,0,rfl,⟨Nat.le_refl _,Kd.F_mono L8 (fun k hk=>hk.1),l5,Kd.F_mono G8 (fun k hk=>hk.1),Nat.le_refl _,Kd.F_nil _ _ _⟩,X8⟩
theorem done_del (t n k:S42) (c:List S42) (s z:S42) (x:S80) (h1:isM t wDelete) (h2:n.f2=110) (h3:isM k [91]) (hc:Cut 0 c x) (h4:isM s [93]) (h5:isM z [59]) (p r:List S42) (w:World) (b o cp:Nat) (tK:List S42) (htk:tK=p++(t::n::k::(c++[s,z])++r)) (ht:Toks tK) (D:DR w b o cp tK):
 Calls Tryz.prog 31 #[.slice (some ⟨b,o,none⟩) tK.length cp,.int .i64 (p.length:Int)] w (DsPost w {st 3 with f1:=n.f0,f4:=[x]} (p.length+(c.length+5))):=by
 have htl:tK.length=p.length+(c.length+5+r.length):=by rw[htk];simp;omega
 have hle:=D.len;rw[htl]at hle;have hp0:(0:Int)≤(p.length:Int):=by omega
 have hp1:(p.length:Int)<1000000000:=by omega
 have hp2:(0:Int)≤(p.length:Int)+1:=by omega
 have htt:Toks (t::n::k::(c++[s,z])++r):=by rw[htk]at ht;exact ht.tail
 have hts:=htt.app.1.cons.2.cons.2.cons.2.tail
 have hu1:unt [[59]] 0 p.length (tK.drop p.length)=some (p.length+(c.length+4)):=by
  have e:tK=p++(([t]++([n]++(k::(c++[s]))))++z::r):=by rw[htk];simp
  rw[e,drop_pre,unt_at (Pass.app (Pass.tok htt.app.1.cons.1 h1 (by decide) (by decide)) (Pass.app (Pass.nam htt.app.1.cons.2.cons.1 h2) (Pass.brk htt.app.1.cons.2.cons.2.cons.1 hts.cons.1 h3 h4 (by decide) (by decide) (by decide) (hc.pass (by decide))))) h5 (by decide) _];simp
 obtain⟨o',c',hcut,D'⟩:=D.seg (p++[t,n,k]) c (s::z::r) (by rw[htk];simp) ((p.length:Int)+3) (((p.length+(c.length+4):Nat):Int)-1) (by simp) (by simp;omega);have a0:=D.at (i:=p.length) (t:=t) (by rw[htk];simp);have n0:p.length=((p.length:Int)).toNat:=by omega
 rw[n0]at a0;have l0:(p.length:Int)<(tK.length:Int):=by rw[htl];omega
 clear n0;have a1:=D.at (i:=p.length+1) (t:=n) (by rw[htk];simp);have n1:p.length+1=((p.length:Int)+1).toNat:=by omega
 rw[n1]at a1;have l1:(p.length:Int)+1<(tK.length:Int):=by rw[htl];omega
 clear n1;have TC:=η (fun W (D:DR W b o' c' c)=>tree_call D hc);have U1:=η (fun W (D:DR W b o cp tK) g hg=>until_call D ht.small [[59]] (by decide) p.length (p.length+(c.length+4)) (by omega) hu1 (p.length:Int) rfl g hg 1 rfl);have hJ:(0:Int)≤((p.length+(c.length+4):Nat):Int)-1∧((p.length+(c.length+4):Nat):Int)<1000000000:=by omega
 have hj:((p.length+(c.length+5):Nat):Int)=((p.length+(c.length+4):Nat):Int)+1:=by omega
 unfold DsPost;rw[hj];replace D:=η D;clear htl hle htk hu1 htt hts hj;generalize((p.length+(c.length+4):Nat):Int)=J at*;generalize(p.length:Int)=pl at*;obtain⟨hJ0,hJ1⟩:=hJ;have g1:IntKind.i64.wrap (pl+1)=pl+1:=by rw[IntKind.wrap_i64];omega
 have g2:IntKind.i64.wrap (pl+3)=pl+3:=by rw[IntKind.wrap_i64];omega
 have g3:IntKind.i64.wrap (J-1)=J-1:=by rw[IntKind.wrap_i64];omega
 have g4:IntKind.i64.wrap (J+1)=J+1:=by rw[IntKind.wrap_i64];omega
 obtain⟨t0,t1,t2,t3,t4⟩:=a0;obtain⟨m0,m1,m2,m3,m4⟩:=a1;rw[h1.1]at t2;have hx:t.f0.toList=wDelete:=h1.2;have qDelete:(t.f0.toList==([100,101,108,101,116,101]:List UInt8))=true:=by rw[hx];rfl
 clear hx;clear h1;have HB:=η (alloc_new w box62);have T0:=η ((Turn.refl (fun _=>False) w).alloc box62);go_enter Tryz.func31,Tryz.ntmps31;go_upto_region 1 with fail
 have u0:=T0.out.cell t0 (fun z=>z);have u2:=T0.out.cell t2 (fun z=>z);have u3:=T0.out.cell m0 (fun z=>z);have hw1:w.heap.size<(w.alloc box62).heap.size:=by simp
 clear t0 t1 t2 t3 t4 m0 m1 m2 m3 m4;generalize w.alloc (.cells #[.int .i64 0,.string ⟨#[]⟩,.string ⟨#[]⟩,.string ⟨#[]⟩,.slice none 0 0,.slice none 0 0,.slice none 0 0] 62)=w1 at*;have C1:=η (U1.out _ (D.out.turn (T0.out.alloc (.cells #[.string ⟨#[59]⟩] 9))) w1.heap.size (alloc_new w1 _));clear U1;have X1:=η (Turn.refl (fun _=>False) w1);go_upto_region 6 with(first|(go_at_call 62;refine C1.out.mono ?_;rintro e w2 ⟨rfl,H2⟩;have Y2:=η ((X1.out.alloc (.cells #[.string ⟨#[59]⟩] 9)).then (Turn.new H2) (fun i hi=>hi.elim));have B2:=η (Y2.out.heap HB.out (fun z=>z));have hs2:=Y2.out.size;clear H2))
 clear u0 u2 C1;have X2:=η (T0.out.then Y2.out (fun i hi=>hi.elim));have v3:=Y2.out.cell u3 (fun z=>z);have HC:=η (show ∀W:World,Turn (fun _=>False) w2 W→W.cell? ⟨b,o+(pl+1).toNat*5,none⟩=some (.string n.f0) from fun W T=>T.cell v3 (fun z=>z));have TD2:=η ((Turn.refl (fun _=>False) w2).drew);have C4:=η (TC.out w2.drew ((D'.turn X2.out).turn TD2.out));clear TC D' u3 v3 D Y2 X1 HB T0;refine sr 19 (S:=fun W=>W.cell? ⟨b,o+(pl+1).toNat*5,none⟩=some (.string n.f0)) (ds:=[17]) (HC.out _ TD2.out) ?_;have BA:=η (show w2.drew.heap[w.heap.size]? =some box62 from B2.out);have HCA:=η (fun W (T:Turn (fun _=>False) w2.drew W)=>HC.out W (TD2.out.then T (fun i hi=>hi.elim)));have XA:=η (X2.out.drew);have hsA:w2.heap.size≤w2.drew.heap.size:=TD2.out.size;clear B2 X2 HC TD2;generalize w2.drew=wA at*;intro hH;refine pu 0 36 ?_;refine pu 1 37 ?_;refine pu 2 38 ?_;refine pu 3 39 ?_;refine pu 4 40 ?_;refine tk 5 41 hH ?_;refine pu 6 42 ?_;refine pu 7 43 ?_;refine pu 8 44 ?_;refine pu 9 45 ?_;refine pu 10 46 ?_;refine pu 11 47 ?_;refine pu 15 51 ?_;refine pu 16 52 ?_;refine on 12 48 (fun K hK=> ?_);refine PrintLast.goes_ Tryz.func63 (by kernel_rfl) (by kernel_rfl) #[.slice (some ⟨b,o',none⟩) c.length c'] (by rfl) (by rfl) (by rfl) (by simp[Act.eval]) ?_;refine C4.out.mono ?_;rintro e w4 ⟨A4,c4,rfl,V4,H4⟩;have T4:=Turn.new H4;have hs4:=T4.size;have B4:=η (T4.heap BA.out (fun z=>z));have X4:=η (XA.out.then T4 (fun i hi=>hi.elim));have VH:=η V4;refine⟨_,rfl,hK.out _ _ (HCA.out _ T4) (fun hH=> ?_)⟩;clear hK K;refine nm 48 ?_;refine on 13 49 (fun K hK=> ?_);refine PrintLast.value_ (w1:=w4.alloc (.cells #[.int .i64 x.f0,.int .i64 x.f1,.string x.f2,.string x.f3,.slice A4 x.f4.length c4] 80)) (v:= .slice (some ⟨w4.heap.size,0,none⟩) 1 1) (by rfl) (by rfl) (by go_simp) ?_;refine hK.out _ _ (HCA.out _ (T4.alloc _)) (fun hH=> ?_);clear hK K;have B7:=η (alloc_old B4.out (.cells #[.int .i64 x.f0,.int .i64 x.f1,.string x.f2,.string x.f3,.slice A4 x.f4.length c4] 80));have X7:=η (X4.out.alloc (.cells #[.int .i64 x.f0,.int .i64 x.f1,.string x.f2,.string x.f3,.slice A4 x.f4.length c4] 80));have L7:=η (lit1 (ok':=fun k=>w.heap.size≤k∧k≠w.heap.size) VH.out (fun k hk=>by omega));have hs7:w4.heap.size<(w4.alloc (.cells #[.int .i64 x.f0,.int .i64 x.f1,.string x.f2,.string x.f3,.slice A4 x.f4.length c4] 80)).heap.size:=by simp
 generalize w4.alloc (.cells #[.int .i64 x.f0,.int .i64 x.f1,.string x.f2,.string x.f3,.slice A4 x.f4.length c4] 80)=w7 at*;refine nm 49 ?_;refine pu 14 50 ?_;refine la 17 (fun K hK=> ?_);obtain⟨q0,q1,q2,q3,q4,q5,q6,qf⟩:=heap7 B7.out;refine PrintLast.skip_ (w1:=set7w w7 w.heap.size (.int .i64 3) (.string n.f0) (.string ⟨#[]⟩) (.string ⟨#[]⟩) (.slice (some ⟨w4.heap.size,0,none⟩) 1 1) (.slice none 0 0) (.slice none 0 0)) (by rfl) (by rfl) (by go_simp) ?_;refine hK.out _ _ ?_;clear hK K hH q0 q1 q2 q3 q4 q5 q6 qf;obtain⟨s1,s2⟩:=set7 B7.out (.int .i64 3) (.string n.f0) (.string ⟨#[]⟩) (.string ⟨#[]⟩) (.slice (some ⟨w4.heap.size,0,none⟩) 1 1) (.slice none 0 0) (.slice none 0 0);have X8:=X7.out.then s2 (fun i hi=> .inr (by omega));have L8:=row_turn L7.out s2 (fun k hk q=>q.2 hk);clear s2;generalize set7w w7 w.heap.size (.int .i64 3) (.string n.f0) (.string ⟨#[]⟩) (.string ⟨#[]⟩) (.slice (some ⟨w4.heap.size,0,none⟩) 1 1) (.slice none 0 0) (.slice none 0 0)=w8 at*;refine pu 18 5 ?_;refine PrintLast.done_ (by kernel_rfl) ?_;go_wp2_with fail
 refine ret62t 4 5 rfl rfl rfl (b:=w.heap.size) s1 ⟨some ⟨w4.heap.size,0,none⟩,1,none,0,none,0,rfl,⟨Nat.le_refl _,Kd.F_mono L8 (fun k hk=>hk.1),Nat.le_refl _,Kd.F_nil _ _ _,Nat.le_refl _,Kd.F_nil _ _ _⟩,X8⟩
inductive PL:List S42→List S80→Prop
 |fin (b:S42):isM b [59]→PL [b] []
 |hop (a b:S42):¬isM a [59]→isM b [59]→PL [a,b] []
 |more (a:S42) (c:List S42) (x:S80) (r:List S42) (zs:List S80):¬isM a [59]→Cut 0 c x→More r zs→PL (a::(c++r)) (x::zs)
def ms4459:List (List UInt8):=[[44],[59]]
theorem pl_more {r:List S42} {zs:List S80} (h:More r zs):PL r zs:=by
 cases h with
 |fin b hb=>exact .fin b hb
 |more a c x r xs ha hc hr=>exact .more a c x r xs (fun q=>by have:=ha.2.symm.trans q.2;revert this;decide) hc hr
theorem more_head {r:List S42} {zs:List S80} (h:More r zs):∃t q m,r=t::q∧isM t m∧m∈ms4459:=by
 cases h with
 |fin b hb=>exact⟨b,[],[59],rfl,hb,by decide⟩
 |more a c x r xs ha hc hr=>exact⟨a,c++r,[44],rfl,ha,by decide⟩
theorem pl_head {r:List S42} {zs:List S80} (h:PL r zs):∃a q,r=a::q:=by
 cases h with
 |fin b hb=>exact⟨b,[],rfl⟩
 |hop a b _ _=>exact⟨a,[b],rfl⟩
 |more a c x r xs ha hc hr=>exact⟨a,_,rfl⟩
theorem pl_fin {a:S42} {q:List S42} {zs:List S80} (h:PL (a::q) zs) (ha:isM a [59]):q=[]∧zs=[]:=by
 cases h with
 |fin b hb=>exact⟨rfl,rfl⟩
 |hop a b h1 _=>exact absurd ha h1
 |more a c x r xs h1 hc hr=>exact absurd ha h1
theorem pl_go {a:S42} {q:List S42} {zs:List S80} (h:PL (a::q) zs) (ha:¬isM a [59]):∃c t q2 m,q=c++t::q2∧Pass ms4459 c∧isM t m∧m∈ms4459∧((c=[]∧PL (t::q2) zs)∨∃x zs2,Cut 0 c x∧zs=x::zs2∧PL (t::q2) zs2):=by
 cases h with
 |fin b hb=>exact absurd hb ha
 |hop a b _ hb=>exact⟨[],b,[],[59],rfl,Pass.nil _,hb,by decide,.inl ⟨rfl,.fin b hb⟩⟩
 |more a c x r zs h1 hc hr=>
  obtain⟨t,q2,m,rfl,ht,hm⟩:=more_head hr;exact⟨c,t,q2,m,rfl,hc.pass (by decide),ht,hm,.inr ⟨x,zs,hc,rfl,pl_more hr⟩⟩
def DpLoop (tK r:List S42) (ys:List S80) (w:World) (b2 b3 kq:Nat) (v1:Value) (W:World):Prop:=
 ∃(p c:List S42) (xs zs:List S80) (A:Option Addr) (cap:Nat),v1= .int .i64 (p.length:Int)∧tK=p++(c++r)∧PL c zs∧ys=xs++zs∧c.length<kq∧xs.length≤p.length∧b3<W.heap.size∧Turn (fun _=>False) w W∧
  W.heap[b3]? =some (.cells #[.int .i64 5,.string ⟨#[]⟩,.string ⟨#[]⟩,.string ⟨#[]⟩,.slice A xs.length cap,.slice none 0 0,.slice none 0 0] 62)∧W.heap[b2]? =some box62∧EN W w.heap.size b2 b3 (.slice A xs.length cap) xs
theorem done_prt (t:S42) (h1:isM t wPrint) (c0:List S42) (ys:List S80) (hpl0:PL (t::c0) ys) (p r:List S42) (w:World) (b o cp:Nat) (tK:List S42) (htk:tK=p++(t::c0++r)) (ht:Toks tK) (D:DR w b o cp tK):
 Calls Tryz.prog 31 #[.slice (some ⟨b,o,none⟩) tK.length cp,.int .i64 (p.length:Int)] w (DsPost w {st 5 with f4:=ys} (p.length+(t::c0).length)):=by
 have htl:tK.length=p.length+(c0.length+1+r.length):=by rw[htk];simp;omega
 have hle:=D.len;have hle2:=hle;rw[htl]at hle;have hp0:(0:Int)≤(p.length:Int):=by omega
 have hp1:(p.length:Int)<1000000000:=by omega
 have a0:=D.at (i:=p.length) (t:=t) (by rw[htk];simp);have n0:p.length=((p.length:Int)).toNat:=by omega
 rw[n0]at a0;have l0:(p.length:Int)<(tK.length:Int):=by rw[htl];omega
 clear n0;have hend:tK.length-r.length=p.length+(t::c0).length:=by simp only[List.length_cons];omega
 unfold DsPost;rw[← hend];replace D:=η D
 have L0:=η (show ∀(b2 b3:Nat) (W:World),b3<W.heap.size→Turn (fun _=>False) w W→W.heap[b3]? =some (.cells #[.int .i64 5,.string ⟨#[]⟩,.string ⟨#[]⟩,.string ⟨#[]⟩,.slice none 0 0,.slice none 0 0,.slice none 0 0] 62)→W.heap[b2]? =some box62→DpLoop tK r ys w b2 b3 (tK.length+1) (.int .i64 (p.length:Int)) W from
  fun b2 b3 W q1 q2 q3 q4=>⟨p,t::c0,[],ys,none,0,rfl,htk,hpl0,rfl,by simp only[List.length_cons];omega,by simp,q1,q2,q3,q4,EN.nil _ _ _ _⟩)
 clear htl hle htk hend hpl0;generalize(p.length:Int)=pl at*;obtain⟨t0,t1,t2,t3,t4⟩:=a0;rw[h1.1]at t2;have hx:t.f0.toList=wPrint:=h1.2;have qDelete:(t.f0.toList==([100,101,108,101,116,101]:List UInt8))=false:=by rw[hx];rfl
 have qClear:(t.f0.toList==([99,108,101,97,114]:List UInt8))=false:=by rw[hx];rfl
 have qPrint:(t.f0.toList==([112,114,105,110,116]:List UInt8))=true:=by rw[hx];rfl
 clear hx;clear h1;have HB:=η (alloc_new w box62);have T0:=η ((Turn.refl (fun _=>False) w).alloc box62);go_enter Tryz.func31,Tryz.ntmps31;go_upto_region 1 with fail
 have u0:=T0.out.cell t0 (fun z=>z);have u2:=T0.out.cell t2 (fun z=>z);have hw1:w.heap.size<(w.alloc box62).heap.size:=by simp
 clear t0 t1 t2 t3 t4;generalize w.alloc (.cells #[.int .i64 0,.string ⟨#[]⟩,.string ⟨#[]⟩,.string ⟨#[]⟩,.slice none 0 0,.slice none 0 0,.slice none 0 0] 62)=w1 at*;go_upto_region 11 with fail
 clear u0 u2;have L1:=L0.out w.heap.size w1.heap.size (w1.alloc (.cells #[.int .i64 5,.string ⟨#[]⟩,.string ⟨#[]⟩,.string ⟨#[]⟩,.slice none 0 0,.slice none 0 0,.slice none 0 0] 62)) (by simp) (T0.out.alloc _) (alloc_new w1 _) (alloc_old HB.out _);replace L1:=η L1;clear HB T0 L0;have HW1:=η hw1;clear hw1;generalize w1.alloc (.cells #[.int .i64 5,.string ⟨#[]⟩,.string ⟨#[]⟩,.string ⟨#[]⟩,.slice none 0 0,.slice none 0 0,.slice none 0 0] 62)=wS at*;go_loopg [1,8] (tK.length+1) (fun kq v1 v8 W=>DpLoop tK r ys w w.heap.size w1.heap.size kq v1 W)
 case atStart=>exact L1.out
 case round=>
  clear L1 wS;obtain⟨p,c,xs,zs,A,cap,rfl,htk,hpl,hys,hck,hxp,hb6,X6,B6,B26,N6⟩:=hrel;obtain⟨a,c1,rfl⟩:=pl_head hpl;have htl:tK.length=p.length+(c1.length+1+r.length):=by rw[htk];simp;omega
  have hle:p.length+(c1.length+1+r.length)≤900000000:=by omega
  have hp0:(0:Int)≤(p.length:Int):=by omega
  have hp1:(p.length:Int)<1000000000:=by omega
  have D6:=η (D.out.turn X6);have a0:=D6.out.at (i:=p.length) (t:=a) (by rw[htk];simp);have n0:p.length=((p.length:Int)).toNat:=by omega
  rw[n0]at a0;have l0:(p.length:Int)<(tK.length:Int):=by omega
  clear n0;obtain⟨y0,y1,y2,y3,y4⟩:=a0;replace X6:=η X6;replace B6:=η B6;replace B26:=η B26;replace N6:=η N6;have IC:=η (is_call1 (W:=wr.alloc (.cells #[.string ⟨#[59]⟩] 9)) a [59] wr.heap.size (alloc_new _ _))
  have hend:isM a [59]→tK.length-r.length=p.length+1∧ys=xs:=fun q=>by
   obtain⟨rfl,rfl⟩:=pl_fin hpl q;simp at htl hys;exact⟨by omega,hys⟩
  replace hend:=η hend;have hgo:=η (fun q=>pl_go hpl q);clear hpl;replace htk:=η htk;replace hys:=η hys;replace hck:=η hck;replace htl:=η htl;replace hle:=η hle;obtain⟨pl,hpl⟩:∃x,x=(p.length:Int):=⟨_,rfl⟩;rw[← hpl]at hp0 hp1 l0 y0 y1 y2 y3 y4⊢;replace hpl:=η hpl;obtain⟨dm,hdm⟩:∃d,d=decide (isM a [59]):=⟨_,rfl⟩;rw[← hdm]at IC;replace hdm:=η hdm;go_upto_region 11 with fail
  cases dm with
  |true=>
   have hq:isM a [59]:=of_decide_eq_true hdm.out.symm;obtain⟨he,hy⟩:=hend.out hq;replace he:=η he;replace hy:=η hy;clear hgo hend hq;go_upto_region 16 with(first|(go_at_call 12;refine IC.out.mono ?_;rintro e w7 ⟨rfl,H7⟩;have T7:=Turn.new H7;have X7:=η ((X6.out.alloc (.cells #[.string ⟨#[59]⟩] 9)).then T7 (fun i hi=>hi.elim));have B7:=η (T7.heap (alloc_old B6.out (.cells #[.string ⟨#[59]⟩] 9)) (fun z=>z));have B27:=η (T7.heap (alloc_old B26.out (.cells #[.string ⟨#[59]⟩] 9)) (fun z=>z));have N7:=η (EN.turn (Kd.N_alloc N6.out (.cells #[.string ⟨#[59]⟩] 9)) T7 (fun k hk=>hk.elim));clear T7 H7))
   clear IC X6 B6 B26 N6 y0 y1 y2 y3 y4 l0;obtain⟨r0,r1,r2,r3,r4,r5,r6,rf⟩:=heap7 B7.out;obtain⟨d0,d1,d2,d3,d4,d5,d6,df⟩:=heap7 B27.out;clear rf;go_wp2_with fail
   clear r0 r1 r2 r3 r4 r5 r6 d0 d1 d2 d3 d4 d5 d6 df;have eJ:((tK.length-r.length:Nat):Int)=pl+1:=by have:=he.out;have:=hpl.out;omega
   rw[eJ];obtain rfl:=hy.out;obtain⟨s1,s2⟩:=set7 B27.out (.int .i64 5) (.string ⟨#[]⟩) (.string ⟨#[]⟩) (.string ⟨#[]⟩) (.slice A ys.length cap) (.slice none 0 0) (.slice none 0 0);have X8:=X7.out.then s2 (fun i hi=> .inr (by omega));have G8:=Kd.F_step (Kd.N_F N7.out) (fun k hk hlt=>s2.block k hlt (fun q=>hk.2.1 q));clear s2;unfold set7w at*;generalize(((((((w7.setCell ⟨w.heap.size,0,none⟩ (.int .i64 5)).setCell ⟨w.heap.size,1,none⟩ (.string ⟨#[]⟩)).setCell ⟨w.heap.size,2,none⟩ (.string ⟨#[]⟩)).setCell ⟨w.heap.size,3,none⟩ (.string ⟨#[]⟩)).setCell ⟨w.heap.size,4,none⟩ (.slice A ys.length cap)).setCell ⟨w.heap.size,5,none⟩ (.slice none 0 0)).setCell ⟨w.heap.size,6,none⟩ (.slice none 0 0))=w8 at*;refine ret62t 4 5 rfl rfl rfl (b:=w.heap.size) s1 ⟨A,cap,none,0,none,0,rfl,⟨(Kd.N_reads' N7.out).2.1,Kd.F_mono G8 (fun k hk=>hk.1),Nat.le_refl _,Kd.F_nil _ _ _,Nat.le_refl _,Kd.F_nil _ _ _⟩,X8⟩
  |false=>
   have hq:¬isM a [59]:=of_decide_eq_false hdm.out.symm;obtain⟨c,t,q2,m,hc1,hpass,htm,hmm,hcase⟩:=hgo.out hq;clear hgo hend hq
   have hu1:unt ms4459 0 (p.length+1) (tK.drop (p.length+1))=some (p.length+1+c.length):=by
    have e:tK=(p++[a])++(c++t::(q2++r)):=by rw[htk.out,hc1];simp
    have e2:p.length+1=(p++[a]).length:=by simp
    rw[e,e2,drop_pre];exact unt_at hpass htm hmm _
   have hl1:=htl.out;rw[hc1]at hl1;simp only[List.length_append,List.length_cons]at hl1;have hck2:=hck.out;rw[hc1]at hck2;simp only[List.length_append,List.length_cons]at hck2;have U1:=η (fun W (D:DR W b o cp tK) g hg=>until_call D ht.small ms4459 (by decide) (p.length+1) (p.length+1+c.length) (by omega) hu1 (pl+1) (by rw[hpl.out];simp) g hg 2 rfl);have hJ:((p.length+1+c.length:Nat):Int)=pl+1+(c.length:Int):=by rw[hpl.out];simp
   rw[hJ]at U1;clear hu1 hJ;have hcl:pl+1+(c.length:Int)<1000000000:=by have:=hpl.out;have:=hle2;omega
   have hc0:(0:Int)≤(c.length:Int):=by omega
   have g1:IntKind.i64.wrap (pl+1)=pl+1:=by rw[IntKind.wrap_i64];omega
   replace hc1:=η hc1;replace hcase:=η hcase;clear hpass htm hmm hdm hl1;go_upto_region 12 with(first|(go_at_call 12;refine IC.out.mono ?_;rintro e w7 ⟨rfl,H7⟩;have T7:=Turn.new H7;have X7:=η ((X6.out.alloc (.cells #[.string ⟨#[59]⟩] 9)).then T7 (fun i hi=>hi.elim));have B7:=η (T7.heap (alloc_old B6.out (.cells #[.string ⟨#[59]⟩] 9)) (fun z=>z));have B27:=η (T7.heap (alloc_old B26.out (.cells #[.string ⟨#[59]⟩] 9)) (fun z=>z));have N7:=η (EN.turn (Kd.N_alloc N6.out (.cells #[.string ⟨#[59]⟩] 9)) T7 (fun k hk=>hk.elim));have hs7:=T7.size;clear T7 H7))
   simp at hs7;have hb7:w1.heap.size<w7.heap.size:=by omega
   clear IC X6 B6 B26 N6 y0 y1 y2 y3 y4 l0 hs7 hb6;have C1:=η (U1.out _ (D.out.turn (X7.out.alloc (.cells #[.string ⟨#[44]⟩,.string ⟨#[59]⟩] 9))) w7.heap.size (alloc_new w7 _));clear U1;go_upto_region 13 with(first|(go_at_call 62;refine C1.out.mono ?_;rintro e w8 ⟨rfl,H8⟩;have T8:=Turn.new H8;have X8:=η ((X7.out.alloc (.cells #[.string ⟨#[44]⟩,.string ⟨#[59]⟩] 9)).then T8 (fun i hi=>hi.elim));have B8:=η (T8.heap (alloc_old B7.out (.cells #[.string ⟨#[44]⟩,.string ⟨#[59]⟩] 9)) (fun z=>z));have B28:=η (T8.heap (alloc_old B27.out (.cells #[.string ⟨#[44]⟩,.string ⟨#[59]⟩] 9)) (fun z=>z));have N8:=η (EN.turn (Kd.N_alloc N7.out (.cells #[.string ⟨#[44]⟩,.string ⟨#[59]⟩] 9)) T8 (fun k hk=>hk.elim));have hs8:=T8.size;clear T8 H8))
   simp at hs8;have hb8:w1.heap.size<w8.heap.size:=by omega
   clear C1 X7 B7 B27 N7 hs8 hb7 D6;rcases hcase.out with⟨rfl,hpl2⟩|⟨x,zs2,hcut0,hzs,hpl2⟩
   · have REL:=η (show DpLoop tK r ys w w.heap.size w1.heap.size (q2.length+2) (.int .i64 (pl+1)) w8 from⟨p++[a],t::q2,xs,zs,A,cap,(by rw[hpl.out];simp),(by rw[htk.out,hc1.out];simp),hpl2,hys.out,by simp,by simp;omega,hb8,X8.out,B8.out,B28.out,N8.out⟩)
     clear X8 B8 B28 N8;simp only[List.length_nil,Int.ofNat_zero,Int.add_zero,Int.cast_ofNat_Int]at*;go_wp2_with fail
     go_roundg (q2.length+2)
     case measure=>omega
     case rel=>exact REL.out
   · have hcn:1≤c.length:=List.length_pos_iff.mpr hcut0.ne
     have hgt:pl+1<pl+1+(c.length:Int):=by omega
     obtain⟨o',c',hcut,D'⟩:=D.out.seg (p++[a]) c (t::(q2++r)) (by rw[htk.out,hc1.out];simp) (pl+1) (pl+1+(c.length:Int)) (by rw[hpl.out];simp) (by rw[hpl.out];simp);have TC:=η (tree_call (D'.turn X8.out.drew) hcut0)
     have REL:=η (show ∀(A':Option Addr) (cap':Nat) (W:World),w1.heap.size<W.heap.size→Turn (fun _=>False) w W→W.heap[w1.heap.size]? =some (.cells #[.int .i64 5,.string ⟨#[]⟩,.string ⟨#[]⟩,.string ⟨#[]⟩,.slice A' (xs++[x]).length cap',.slice none 0 0,.slice none 0 0] 62)→W.heap[w.heap.size]? =some box62→EN W w.heap.size w.heap.size w1.heap.size (.slice A' (xs++[x]).length cap') (xs++[x])→DpLoop tK r ys w w.heap.size w1.heap.size (q2.length+2) (.int .i64 (pl+1+(c.length:Int))) W from
      fun A' cap' W q1 q2' q3 q4 q5=>⟨p++a::c,t::q2,xs++[x],zs2,A',cap',(by rw[hpl.out];simp;omega),(by rw[htk.out,hc1.out];simp),hpl2,(by rw[hys.out,hzs];simp),by simp,by simp;omega,q1,q2',q3,q4,q5⟩)
     clear D' hpl2 hzs;go_upto_region 14 with fail
     have XX:=η (X8.out.drew);have BB:w8.drew.heap[w1.heap.size]? =some (.cells #[.int .i64 5,.string ⟨#[]⟩,.string ⟨#[]⟩,.string ⟨#[]⟩,.slice A xs.length cap,.slice none 0 0,.slice none 0 0] 62):=B8.out;have BB:=η BB;have B2B:w8.drew.heap[w.heap.size]? =some box62:=B28.out;have B2B:=η B2B;have NN:EN w8.drew w.heap.size w.heap.size w1.heap.size (.slice A xs.length cap) xs:=N8.out;have NN:=η NN;have hb3:w1.heap.size<w8.drew.heap.size:=hb8;clear X8 B8 B28 N8 hb8;refine sr 12 (S:=fun W=>W.cell? ⟨w1.heap.size,4,none⟩=some (.slice A xs.length cap)) (ds:=[11]) (heap7 BB.out).2.2.2.2.1 ?_;generalize w8.drew=wA at*;intro hH;refine pu 0 83 ?_;refine tk 1 84 hH ?_;refine pu 2 85 ?_;refine pu 3 86 ?_;refine pu 4 87 ?_;refine pu 5 88 ?_;refine pu 6 89 ?_;refine on 7 90 (fun K hK=> ?_);refine PrintLast.goes_ Tryz.func63 (by kernel_rfl) (by kernel_rfl) #[.slice (some ⟨b,o',none⟩) c.length c'] (by rfl) (by rfl) (by rfl) (by simp[Act.eval]) ?_;refine TC.out.mono ?_;rintro e w3 ⟨A4,c4,rfl,V3,H3⟩;have T3:=Turn.new H3;have hs3:=T3.size;have B3:=η (T3.heap BB.out (fun z=>z));have B23:=η (T3.heap B2B.out (fun z=>z));have N3:=η (NN.out.turn T3 (fun k hk=>hk.elim));have X3:=XX.out.then T3 (fun i hi=>hi.elim);refine⟨_,rfl,hK.out _ _ (heap7 B3.out).2.2.2.2.1 (fun hH=> ?_)⟩;clear hK K;refine nm 90 ?_;refine on 8 91 (fun K hK=> ?_);refine PrintLast.value_ (w1:=w3.alloc (bx x A4 c4)) (v:= .slice (some ⟨w3.heap.size,0,none⟩) 1 1) (by rfl) (by rfl) (by go_simp) ?_;refine hK.out _ _ (heap7 (alloc_old B3.out _)).2.2.2.2.1 (fun hH=> ?_);clear hK K;refine nm 91 ?_;refine on 9 92 (fun K hK=> ?_);have hW1:=HW1.out;have hleo:=hle.out
     refine Kd.N_append_step k80 w.heap.size (by simp[Region.wanted]) (.tmp 84) (.tmp 91) 60 80 (.agg #[(.int .i64 0),(.int .i64 0),(.string ⟨#[]⟩),(.string ⟨#[]⟩),(.slice none 0 0)]) 72 rfl Tryz.underlying60 info80 rfl (by decide) (by decide)
      (.slice A xs.length cap) xs x (cx x A4 c4) (fun k=>w.heap.size≤k∧k≠w.heap.size∧k≠w1.heap.size) (fun k=>wA.heap.size≤k∧k<w3.heap.size) rfl rfl (V3.old (fun k hk hlt=>⟨hk,hlt⟩)).FK (fun k hk=>⟨by omega,fun q=>by have:=Kd.N_lt NN.out k q.symm;omega⟩) (fun k hk=>by omega)
      N3.out (Below.refl _ _) (by omega) (by omega) ?_
     intro v1 w5 N1 hb5 hg5 hat5;obtain⟨g5,cap5,hv1,hgb5,hgl5,_⟩:=Kd.N_form N1 (by simp);subst hv1;have T5:Turn (fun k=>(w.heap.size≤k∧k≠w.heap.size∧k≠w1.heap.size)) w3 w5:=Turn.of_grown hg5 (fun k hk=> .inl (N3.out.1 k hk));have hs5:=T5.size;have B5:=η (T5.heap B3.out (fun z=>z.2.2 rfl));have B25:=η (T5.heap B23.out (fun z=>z.2.1 rfl));refine hK.out _ _ (heap7 B5.out).2.2.2.2.1 (fun hH=> ?_);clear hK K;refine nm 92 ?_;refine pu 10 93 ?_;refine la 11 (fun K hK=> ?_);obtain⟨e0,e1,e2,e3,e4,e5,e6,ef⟩:=heap7 B5.out;refine PrintLast.skip_ (w1:=w5.setCell ⟨w1.heap.size,4,none⟩ (.slice (some ⟨g5,0,none⟩) (xs++[x]).length cap5)) (by rfl) (by rfl) (by go_simp) ?_;refine hK.out _ _ ?_;refine PrintLast.done_ (by kernel_rfl) ?_;clear hK K hH;have T6:Turn (fun k=>k=w1.heap.size) w5 (w5.setCell ⟨w1.heap.size,4,none⟩ (.slice (some ⟨g5,0,none⟩) (xs++[x]).length cap5)):=turn_at (Turn.refl _ _) 4 _;have B6:=η (set_field (i:=4) B5.out (.slice (some ⟨g5,0,none⟩) (xs++[x]).length cap5) rfl);have B26:=η (T6.heap B25.out (fun z=>by omega));have N6:=η (EN.turn (b:=w.heap.size) (b':=w1.heap.size) N1 T6 (fun k hk=>by omega));have X6:=η ((X3.then T5 (fun i hi=> .inr hi.1)).then T6 (fun i hi=> .inr (by omega)));have hs6:(w5.setCell ⟨w1.heap.size,4,none⟩ (.slice (some ⟨g5,0,none⟩) (xs++[x]).length cap5)).heap.size=w5.heap.size:=by simp
     have hb6:w1.heap.size<(w5.setCell ⟨w1.heap.size,4,none⟩ (.slice (some ⟨g5,0,none⟩) (xs++[x]).length cap5)).heap.size:=by omega
     clear e0 e1 e2 e3 e4 e5 e6 ef hat5 hg5 hb5 N1 N3 B3 B23 B5 B25 T3 T5 T6 X3 hs3 hs5 hs6 XX BB B2B NN hb3 V3;have RL:=η (REL.out _ _ _ hb6 X6.out B6.out B26.out N6.out);clear REL X6 B6 B26 N6;generalize w5.setCell ⟨w1.heap.size,4,none⟩ (.slice (some ⟨g5,0,none⟩) (xs++[x]).length cap5)=w6 at*;clear hgl5 hgb5;go_wp2_with fail
     go_roundg (q2.length+2)
     case measure=>omega
     case rel=>exact RL.out
theorem print_no {t:S42} (h:isM t wPrint):¬isM t [59]:=fun q=>by have:=h.2.symm.trans q.2;revert this;decide
theorem cond_head {c:List S42} {s:S62} (h:Cond c s):∃t q,c=t::q∧isM t wIf:=by
 cases h with
 |one i c x b l hi hc hb=>exact⟨i,_,rfl,hi⟩
 |els i c x b l e b2 l2 hi hc hb he hb2=>exact⟨i,_,rfl,hi⟩
 |eif i c x b l e r s hi hc hb he hr=>exact⟨i,_,rfl,hi⟩
theorem done_step (n:Nat) (BK:DBlk n) (CO:DCond (n+1)):DOne (n+1):=by
 intro c s hn h p r W b o cp ht hno D;cases h with
 |set a q c bb x h1 h2 h3 h4=>
  refine done_set a h1 _ _ p (q::(c++[bb])++r) W b o cp _ rfl D (fun W' D'=> ?_);exact dset_set a q c bb x h1 h2 h3 h4 p r W' b o cp ht D'
 |put a k c s q c2 bb x y h1 h2 h3 h4 h5 h6 h7=>
  refine done_set a h1 _ _ p (k::(c++s::q::(c2++[bb]))++r) W b o cp _ rfl D (fun W' D'=> ?_);exact dset_put a k c s q c2 bb x y h1 h2 h3 h4 h5 h6 h7 p r W' b o cp ht D'
 |del d a k c s bb x h1 h2 h3 h4 h5 h6=>
  have e:(d::a::k::(c++[s,bb])).length=c.length+5:=by simp
  rw[e];exact done_del d a k c s bb x h1 h2 h3 h4 h5 h6 p r W b o cp _ rfl ht D
 |clr d a bb h1 h2 h3=>exact done_clr d a bb h1 p r W b o cp _ rfl D
 |prt0 a bb h1 h2=>exact done_prt a h1 [bb] [] (.hop a bb (print_no h1) h2) p r W b o cp _ rfl ht D
 |prt a c x r' xs h1 h2 h3=>exact done_prt a h1 (c++r') (x::xs) (.more a c x r' xs (print_no h1) h2 h3) p r W b o cp _ rfl ht D
 |ifs c s hc=>
  obtain⟨t,q,rfl,hi⟩:=cond_head hc;exact done_if t hi _ _ p (q++r) W b o cp _ rfl D (fun W' D'=>CO _ s hn hc p r W' b o cp ht hno D')
 |whl a c x bb l h1 h2 h3=>
  have e:(a::(c++bb)).length=1+c.length+bb.length:=by simp;omega
  rw[e]at hn⊢;exact done_whl a c x bb l h1 h2 h3 n BK (by omega) p r W b o cp _ rfl ht D
 |rng f a m b2 i n2 k l h1 h2 h3 h4 h5 h6 h7=>
  have e:(f::a::m::b2::i::n2::k).length=6+k.length:=by simp;omega
  rw[e]at hn⊢;exact done_rng f a m b2 i n2 k l h1 h7 n BK (by omega) p r W b o cp _ rfl ht D
 |brk a bb h1 h2=>exact done_brk a bb h1 p r W b o cp D
 |cnt a bb h1 h2=>exact done_cnt a bb h1 p r W b o cp D
theorem d_ind:∀(n:Nat),DBlk n∧DCond n∧DOne n
 |0=>by
  refine⟨fun c l hn h=> ?_,fun c s hn h=> ?_,fun c s hn h=> ?_⟩
  · obtain⟨a,r,rfl,_⟩:=blk_head h
    simp at hn
  · obtain⟨t,q,rfl,_⟩:=cond_head h
    simp at hn
  · have:=stm_pos h
    omega
 |n+1=>by
  obtain⟨h1,h2,h3⟩:=d_ind n;have b:=dblock_step n (dstms_step n h3);have c:=dcond_step n h1 h2;exact⟨b,c,done_step n h1 c⟩
theorem dstms_call {c:List S42} {l:List S62} (h:Stms c l) (ht:Toks c) {W:World} {b o cp:Nat} (D:DR W b o cp c):Calls Tryz.prog 13 #[.slice (some ⟨b,o,none⟩) c.length cp] W (DtPost W l):=
 dstms_step c.length (d_ind c.length).2.2 c l (Nat.le_refl _) h W b o cp ht D
open YtbemddpmohoooaaGreatDoorW.PrintLast
theorem drop_rev {α:Type} (s next:List α) {q:Nat} (h:q<next.length):s++(next.drop (q+1)).reverse++[next[q]]=s++(next.drop q).reverse:=by
 rw[List.drop_eq_getElem_cons h,List.reverse_cons,List.append_assoc]
theorem dfault {A0:Option Addr} {c0:Nat} {l0:List S42} {r:Int×Int} (hl:l0.length<1000000000) (w:World) (hr0:Kd.C k42 w A0 l0.length l0) (h:F l0 [B [69,78,68],B [83,116,109,116,115],B [77,97,112,115]] 0 r):
 Calls Tryz.prog 11 #[.slice A0 l0.length c0] w fun e w'=>e= .returned (.tuple #[.int .i64 r.1,.int .i64 r.2])∧Below w.heap.size w w':=by
 obtain⟨k,h⟩:=h;replace h:=η h;have HR0:=η hr0;clear hr0;have HO:=η (lit_row w (Nat.le_refl _) [B [69,78,68],B [83,116,109,116,115],B [77,97,112,115]] (by simp));have HB:=η (bal (Below.refl w.heap.size w) (.cells (List.map Value.string [B [69,78,68],B [83,116,109,116,115],B [77,97,112,115]]).toArray 9));go_enter Tryz.func11,Tryz.ntmps11;go_upto_region 3 with fail
 change Code.wp _ _ _ _ (w.alloc (.cells (List.map Value.string [B [69,78,68],B [83,116,109,116,115],B [77,97,112,115]]).toArray 9));generalize World.alloc _ _=W at*;go_loopg [4,5] k (fun kq v4 v5 w'=>∃(st:List Bs) (i:Nat),v5= .int .i64 (i:Int)∧FF l0 r kq st i∧kq≤k∧Kd.R Kd.string 9 w' w.heap.size (fun _=>True) v4 st∧Below w.heap.size w w')
 case atStart=>exact⟨_,0,rfl,h.out,Nat.le_refl _,HO.out,HB.out⟩
 case round=>
  clear h HO HB;obtain⟨st,i,rfl,HA,hk,HO,HB⟩:=hrel;replace HB:=η HB;cases gk with
  |zero=>exact HA.elim
  |succ k1=>
   obtain⟨A4,c4,rfl⟩:=Kd.R_slice HO;rcases HA with⟨rfl,rfl⟩|⟨s,X,rfl,hsl,hi,HA⟩
   · clear HO
     go_wp2;go_ret2;exact⟨rfl,HB.out⟩
   · replace HA:=η HA
     have hm:(s++[X]).length=s.length+1:=by simp
     obtain⟨ad,e,hx⟩:=Kd.at_string (Kd.R_reads' HO).2.2 (s.length:Int) (by omega) (by rw[hm];omega);cases e;have hrd:rdOf ByteArray.empty (s++[X]) (s.length:Int)=X:=by simp[rdOf]
     rw[hrd,Int.toNat_natCast]at hx
     have HO2:=η (show Kd.R Kd.string 9 wr w.heap.size (fun _=>True) (.slice (some ad) s.length c4) s from by
      have z:=Kd.R_take (m:=s.length) HO (by omega)
      rwa [List.take_left' rfl]at z)
     obtain⟨i0,hi0,_,_,_⟩:=info_parts info9;have hcut:=cut_to (P:=Tryz.prog) 28 9 .i64 Tryz.underlying28 hi0 (some ad) (s++[X]).length c4 (s.length:Int) (by omega) (by rw[hm];omega) (Kd.R_reads' HO).2.1;rw[Int.toNat_natCast]at hcut;generalize(s++[X]).length=m at*;have c1:(0:Int)<(m:Int):=by omega
     have c2:(s.length:Int)<(m:Int):=by omega
     have c3:IntKind.i64.wrap ((m:Int)-1)=(s.length:Int):=(i64_w _).trans ((wrap_id (by omega) (by omega)).trans (by omega));have c5:(s.length:Int)≤(m:Int):=by omega
     have c6:(i:Int)<(l0.length:Int):=by omega
     have hi2:=η hi;obtain⟨a0,e0,y0,y1,y2,y3,y4⟩:=at_T42 HR0.out (i:Int) (by omega) c6;cases e0;have hr4:rd_T42 l0 (i:Int)=l0[i]:=rd_get l0 i hi;rw[hr4]at y0 y1 y2 y3 y4;generalize l0[i]=t at*;simp only[Int.toNat_natCast]at y0 y1 y2 y3 y4;have KY:=η (fun(W':World) (H:Below w.heap.size w W')=>And.intro ((H.cell (World.block_lt_of_cell? w _ y0)).trans y0) (And.intro ((H.cell (World.block_lt_of_cell? w _ y1)).trans y1) (And.intro ((H.cell (World.block_lt_of_cell? w _ y2)).trans y2) (And.intro ((H.cell (World.block_lt_of_cell? w _ y3)).trans y3) ((H.cell (World.block_lt_of_cell? w _ y4)).trans y4)))));replace hl:=η hl;replace hk:=η hk;replace hsl:=η hsl;clear hr4 hm hi0 HO y0 y1 y2 y3 y4 hi hrd;rcases HA.out with⟨hX,n,next,ok,hru,hb,hgo⟩|⟨hX,mm,hmat,hb,hgo⟩
     · have dX:decide (X.toList∈things)=true:=decide_eq_true hX
       replace hru:=η hru;replace hb:=η hb;replace hgo:=η hgo;clear HA hX;cases ok with
       |false=>
        replace hb:=η (hb.out rfl);go_wp2_with(first|(go_at_call 27;refine(dgrows X _).mono ?_;rintro e w5 ⟨rfl,H5⟩;have HO5:=η (Kd.R_below HO2.out H5);have HB5:=η (below_step HB.out H5);obtain⟨y0,y1,y2,y3,y4⟩:=KY.out w5 HB5.out;clear H5 hx;rw[dX])|(go_at_call 28;refine(larderref23_rule.calls n X t.f0 t.f1 t.f2 t.f3 t.f4 next false _ hru.out).mono ?_;rintro e w6 ⟨v6,rfl,R6,H6⟩;have HB6:=η (below_step HB5.out H6);clear H6 R6 y0 y1 y2 y3 y4))
        go_ret2;exact⟨by rw[hb.out];rfl,HB6.out⟩
       |true=>
        obtain⟨hn,hs2,hF⟩:=hgo.out rfl;replace hs2:=η hs2;replace hF:=η hF;clear hb hgo;go_upto_region 11 with(first|(go_at_call 27;refine(dgrows X _).mono ?_;rintro e w5 ⟨rfl,H5⟩;have HO5:=η (Kd.R_below HO2.out H5);have HB5:=η (below_step HB.out H5);obtain⟨y0,y1,y2,y3,y4⟩:=KY.out w5 HB5.out;clear H5 hx;rw[dX])|(go_at_call 28;refine(larderref23_rule.calls n X t.f0 t.f1 t.f2 t.f3 t.f4 next true _ hru.out).mono ?_;rintro e w6 ⟨v6,rfl,R6,H6⟩;have HO6:=η (Kd.R_elder' HO5.out (Kd.R_base R6) H6);have HN6:=η (Kd.R_lower (Kd.R_new' R6 (Kd.R_lt HO5.out)) HB5.out.size);have HB6:=η (below_step HB5.out H6);clear H6 R6 y0 y1 y2 y3 y4;obtain⟨A7,c7,rfl⟩:=Kd.R_slice HN6.out))
        go_loopg [4,9] (next.length+1) (fun kq v4 v9 w'=>∃(p:Nat) (x:Int),v9= .int .i64 x∧x=(p:Int)-1∧p≤next.length∧p<kq∧Kd.R Kd.string 9 w' w.heap.size (fun k=>some k≠(.slice A7 next.length c7:Value).ownBlock) v4 (s++(next.drop p).reverse)∧Kd.R Kd.string 9 w' w.heap.size (fun k=>some k≠(v4:Value).ownBlock) (.slice A7 next.length c7) next∧Below w.heap.size w w')
        case atStart=>exact⟨next.length,_,rfl,by first|rfl|exact(i64_w _).trans (wrap_id (by omega) (by omega)),Nat.le_refl _,by omega,by simpa using Kd.R_mono HO6.out (fun _ hk=>hk.2),Kd.R_mono HN6.out (fun _ hk=>hk.2),HB6.out⟩
        case round=>
         obtain⟨p,x,rfl,hxp,hp1,hp2,HO7,HN7,HB7⟩:=hrel;replace HB7:=η HB7;cases p with
         |zero=>
          obtain rfl:x= -1:=by omega
          have HO8:=η (show Kd.R Kd.string 9 wr w.heap.size (fun _=>True) u4 (s++next.reverse) from by simpa using Kd.R_mono HO7 (fun _ _=>trivial));clear HO7 HN7 hn hp1 hp2 hxp;go_wp2;go_roundg k1
          case measure=>omega
          case rel=>exact⟨_,i,rfl,hF.out,by have:=hk.out;omega,HO8.out,HB7.out⟩
         |succ q=>
          obtain rfl:x=(q:Int):=by omega
          have hq:q<next.length:=by omega
          have d1:(q:Int)<(next.length:Int):=by omega
          have d2:IntKind.i64.wrap ((q:Int)-1)=(q:Int)-1:=(i64_w _).trans (wrap_id (by omega) (by omega));obtain⟨ad7,e7,hx7⟩:=Kd.at_string (Kd.R_reads' HN7).2.2 (q:Int) (by omega) d1;cases e7;have hrd:rdOf ByteArray.empty next (q:Int)=next[q]:=by simp[rdOf,hq]
          rw[hrd,Int.toNat_natCast]at hx7;have hdr:=η (drop_rev s next hq)
          have hlen:(s++(next.drop (q+1)).reverse).length<8796093022208:=by
           have:=hs2.out;simp;omega
          generalize next[q]=Y at*
          generalize s++(next.drop (q+1)).reverse=S at*;replace HO7:=η HO7;replace HN7:=η HN7;replace hlen:=η hlen;replace hxp:=η hxp;clear hrd;go_wp2_with(first|((with_reducible refine gate_builtin (b:= .append) (xs:=#[.tmp 46,.tmp 51]) rfl ?_);at_builtin;refine Kd.R_append Kd.string (w0:=w) w.heap.size rfl (.tmp 46) (.tmp 51) 28 9 (.string ⟨#[]⟩) 16 rfl Tryz.underlying28 info9 rfl (by decide) (by omega) u4 S Y [.string Y] (fun k_=>some k_≠(.slice (some ad7) next.length c7:Value).ownBlock) (fun _=>False) rfl rfl ?aP (fun _ hk=>hk.elim) ?aF ?aO ?aB ?aS ?aL ?_;(case aP=>exact rfl);(case aB=>exact HB7.out);(case aF=>exact(fun k_ hk=>Kd.fresh' (Kd.R_lt HN7.out) k_ hk));(case aO=>exact HO7.out);(case aS=>exact HB7.out.size);(case aL=>have:=hlen.out;omega);intro v8 w8 ho hb hg hat;have HN8:=η (Kd.R_after (ok:=(fun _=>True)) (Kd.R_mono HN7.out (fun _ hk=>⟨trivial,hk⟩)) hg hat);have HB8:=η hb;have HO8:=η ho;clear ho hb hg hat))
          go_roundg (q+1)
          case measure=>omega
          case rel=>exact⟨q,_,rfl,by first|rfl|exact d2,by omega,by omega,by rw[← hdr.out];exact HO8.out,Kd.R_mono HN8.out (fun _ hk=>hk.2),HB8.out⟩
     · have dX:decide (X.toList∈things)=false:=decide_eq_false hX
       replace hmat:=η hmat;replace hb:=η hb;clear HA hX;cases mm with
       |false=>
        replace hb:=η (hb.out rfl);go_wp2_with(first|(go_at_call 27;refine(dgrows X _).mono ?_;rintro e w5 ⟨rfl,H5⟩;have HO5:=η (Kd.R_below HO2.out H5);have HB5:=η (below_step HB.out H5);obtain⟨y0,y1,y2,y3,y4⟩:=KY.out w5 HB5.out;clear H5 hx;rw[dX])|(go_at_call 29;refine(larderref23_matches.calls X t.f0 t.f1 t.f2 t.f3 t.f4 false _ hmat.out).mono ?_;rintro e w6 ⟨rfl,H6⟩;have HB6:=η (below_step HB5.out H6);clear H6 y0 y1 y2 y3 y4))
        go_ret2;exact⟨by rw[hb.out];rfl,HB6.out⟩
       |true=>
        obtain⟨g,hg1,hg2,hg3,hg4⟩:=hgo rfl;replace hg3:=η hg3;replace hg4:=η hg4;have c7:IntKind.i64.wrap ((i:Int)+1)=((i+1:Nat):Int):=(i64_w _).trans ((wrap_id (by omega) (by have:=hl.out;omega)).trans (by omega));clear hb hgo;cases bX:(X.toList==[78,85,77,66,69,82])with
        |false=>
         obtain rfl:=hg2 (fun z=>by rw[beq_iff_eq.mpr z]at bX;cases bX);replace hg4:=η (hg4.out rfl);clear hg1 hg2 hg3;go_wp2_with(first|(go_at_call 27;refine(dgrows X _).mono ?_;rintro e w5 ⟨rfl,H5⟩;have HO5:=η (Kd.R_below HO2.out H5);have HB5:=η (below_step HB.out H5);obtain⟨y0,y1,y2,y3,y4⟩:=KY.out w5 HB5.out;clear H5 hx;rw[dX])|(go_at_call 29;refine(larderref23_matches.calls X t.f0 t.f1 t.f2 t.f3 t.f4 true _ hmat.out).mono ?_;rintro e w6 ⟨rfl,H6⟩;have HO6:=η (Kd.R_below HO5.out H6);have HB6:=η (below_step HB5.out H6);clear H6 y0 y1 y2 y3 y4;obtain⟨y0,y1,y2,y3,y4⟩:=KY.out w6 HB6.out))
         go_roundg k1
         case measure=>omega
         case rel=>exact⟨s,i+1,by first|rfl|(rw[c7]),hg4.out,by have:=hk.out;omega,HO6.out,HB6.out⟩
        |true=>
         obtain⟨n,hg1⟩:=hg1 (eq_of_beq bX);replace hg1:=η hg1;clear hg2;cases g with
         |true=>
          replace hg3:=η (hg3.out rfl);go_wp2_with(first|(go_at_call 27;refine(dgrows X _).mono ?_;rintro e w5 ⟨rfl,H5⟩;have HO5:=η (Kd.R_below HO2.out H5);have HB5:=η (below_step HB.out H5);obtain⟨y0,y1,y2,y3,y4⟩:=KY.out w5 HB5.out;clear H5 hx;rw[dX])|(go_at_call 29;refine(larderref23_matches.calls X t.f0 t.f1 t.f2 t.f3 t.f4 true _ hmat.out).mono ?_;rintro e w6 ⟨rfl,H6⟩;have HO6:=η (Kd.R_below HO5.out H6);have HB6:=η (below_step HB5.out H6);clear H6 y0 y1 y2 y3 y4;obtain⟨y0,y1,y2,y3,y4⟩:=KY.out w6 HB6.out)|(go_at_call 30;refine(larderref23_great.calls n t.f0 true _ hg1.out).mono ?_;rintro e w7 ⟨rfl,H7d⟩;have H7:=H7d.below;clear H7d;have HB7:=η (below_step HB6.out H7)))
          go_ret2;exact⟨by rw[hg3.out];rfl,HB7.out⟩
         |false=>
          replace hg4:=η (hg4.out rfl);go_wp2_with(first|(go_at_call 27;refine(dgrows X _).mono ?_;rintro e w5 ⟨rfl,H5⟩;have HO5:=η (Kd.R_below HO2.out H5);have HB5:=η (below_step HB.out H5);obtain⟨y0,y1,y2,y3,y4⟩:=KY.out w5 HB5.out;clear H5 hx;rw[dX])|(go_at_call 29;refine(larderref23_matches.calls X t.f0 t.f1 t.f2 t.f3 t.f4 true _ hmat.out).mono ?_;rintro e w6 ⟨rfl,H6⟩;have HO6:=η (Kd.R_below HO5.out H6);have HB6:=η (below_step HB5.out H6);clear H6 y0 y1 y2 y3 y4;obtain⟨y0,y1,y2,y3,y4⟩:=KY.out w6 HB6.out)|(go_at_call 30;refine(larderref23_great.calls n t.f0 false _ hg1.out).mono ?_;rintro e w7 ⟨rfl,H7d⟩;have H7:=H7d.below;clear H7d;have HO7:=η (Kd.R_below HO6.out H7);have HB7:=η (below_step HB6.out H7)))
          go_roundg k1
          case measure=>omega
          case rel=>exact⟨s,i+1,by first|rfl|(rw[c7]),hg4.out,by have:=hk.out;omega,HO7.out,HB7.out⟩
theorem heap_two {w:World} {b t:Nat} {v0 v1:Value} (h:w.heap[b]? =some (.cells #[v0,v1] t (0,0))):w.cell? ⟨b,0,none⟩=some v0∧w.cell? ⟨b,1,none⟩=some v1∧∀i,w.frozen? ⟨b,i,none⟩=false:=
 ⟨by simp[World.cell?,h],by simp[World.cell?,h],fun i=>by simp[World.frozen?,h]⟩
theorem ret31 {fn:Func} {R:Ending→World→Prop} {tmps:Array Value} {w:World} {b:Nat} {v0 v1 l e:Value} (hr:fn.results=#[.cell 2 31,.tmp 3,.tmp 4]) (ht:tmps[2]? =some (.pointer (some ⟨b,0,none⟩))) (hl:tmps[3]? =some l) (he:tmps[4]? =some e)
 (h:w.heap[b]? =some (.cells #[v0,v1] 31 (0,0))) (hR:R (.returned (.tuple #[.agg #[v0,v1],l,e])) w):
 bodyPost Tryz.prog fn R Exit.ret {tmps:=tmps,defers:=[]} w:=by
 obtain⟨b0,b1,bf⟩:=heap_two h;exact bodyPost_ret (v:= .tuple #[.agg #[v0,v1],l,e]) (by simp[results,hr,ht,hl,he,go_sem,b0,b1]) rfl hR
theorem set2 {w:World} {b t:Nat} {a0 a1:Value} (h:w.heap[b]? =some (.cells #[a0,a1] t (0,0))) (v0 v1:Value):
 ((w.setCell ⟨b,0,none⟩ v0).setCell ⟨b,1,none⟩ v1).heap[b]? =some (.cells #[v0,v1] t (0,0))∧Turn (fun k=>k=b) w ((w.setCell ⟨b,0,none⟩ v0).setCell ⟨b,1,none⟩ v1):=
 ⟨set_field (i:=1) (set_field (i:=0) h v0 rfl) v1 rfl,turn_at (turn_at (Turn.refl _ _) 0 v0) 1 v1⟩
theorem fault_call {W:World} {g c:Nat} {l:List S42} (D:DR W g 0 c l) (hl:l.length<1000000000) {r:Int×Int} (h:F l [kEnd,kStmts,kMaps] 0 r):
 Calls Tryz.prog 11 #[.slice (some ⟨g,0,none⟩) l.length c] W fun e w'=>e= .returned (.tuple #[.int .i64 r.1,.int .i64 r.2])∧Below W.heap.size W w':=dfault hl W D.row h
theorem dparse_long (s:Bs) (hs:1048576<s.size) (hs2:s.size<9223372036854775808) (w:World):Calls Tryz.prog 6 #[.string s] w (ParsePost w (.error (0,230))):=by
 have c1:(1048576:Int)<(s.size:Int):=by omega
 have HB:=η (alloc_new w (.cells #[.slice none 0 0,.slice none 0 0] 31));have T0:=η ((Turn.refl (fun _=>False) w).alloc (.cells #[.slice none 0 0,.slice none 0 0] 31));go_enter Tryz.func6,Tryz.ntmps6;go_upto_region 2 with fail
 generalize w.alloc (.cells #[.slice none 0 0,.slice none 0 0] 31)=w1 at*;obtain⟨e0,e1,ef⟩:=heap_two HB.out;go_wp2_with fail
 obtain⟨s1,s2⟩:=set2 HB.out (.slice none 0 0) (.slice none 0 0);exact ret31 rfl rfl rfl rfl (b:=w.heap.size) s1 ⟨T0.out.then s2 (fun i hi=> .inr (by omega)),rfl⟩
theorem DR.same {W W':World} {b c:Nat} {l:List S42} (h:DR W b 0 c l) (hb:W'.heap[b]? =W.heap[b]?):DR W' b 0 c l:=by
 obtain⟨h1,h2,h3,h4,h5⟩:=h;refine⟨h1,h2,h3,h4,fun hp=> ?_⟩;obtain⟨ad,e,f⟩:=h5 hp;obtain rfl:=Option.some.inj e;refine⟨_,rfl,fun i x hx=> ?_⟩;obtain⟨cs,hn,hK,hc⟩:=f i x hx;refine⟨cs,hn,?_,fun j u hu=> ?_⟩
 · rw[k42_open hK];exact k42_mk W' x
 · have:=hc j u hu
   rw[addr_add]at this⊢;exact(cell_same hb).trans this
def DmLoop (l rest:List S42) (ms:List Bs) (w:World) (b8 b2 g:Nat) (ob:Obj) (kq:Nat) (v9:Value) (W:World):Prop:=
 W.heap[g]? =some ob∧
 ∃(p c:List S42) (xs zs:List Bs) (A:Option Addr) (cap:Nat),v9= .int .i64 (p.length:Int)∧l=p++(c++rest)∧Maps c zs∧ms=xs++zs∧c.length<kq∧xs.length≤p.length∧b8<W.heap.size∧Turn (fun _=>False) w W∧
  W.heap[b8]? =some (.cells #[.slice A xs.length cap,.slice none 0 0] 31)∧W.heap[b2]? =some (.cells #[.slice none 0 0,.slice none 0 0] 31)∧Kd.N Kd.string 9 W w.heap.size (fun k=>w.heap.size≤k∧k≠b2∧k≠b8∧k≠g) (.slice A xs.length cap) xs
theorem dparse_err (s:Bs) (hs:s.size≤1048576) (l:List S42) (hl:l=lex (s.size+1) false 0 1 s.toList) (j:Nat) (t:S42) (hj:l[j]? =some t) (err:Int) (he:err≠0) (hF:F l [kEnd,kStmts,kMaps] 0 ((j:Int),err)) (w:World):Calls Tryz.prog 6 #[.string s] w (ParsePost w (.error (t.f1,err))):=by
 have c1:¬(1048576:Int)<(s.size:Int):=by omega
 have c2:(err==0)=false:=beq_eq_false_iff_ne.mpr he;have c3:(err !=0)=true:=bne_iff_ne.mpr he;have HB:=η (alloc_new w (.cells #[.slice none 0 0,.slice none 0 0] 31));have T0:=η ((Turn.refl (fun _=>False) w).alloc (.cells #[.slice none 0 0,.slice none 0 0] 31));have TK:=η (dtokens_call s (by omega));rw[← hl]at TK;have hll:l.length≤900000000:=by rw[hl];have:=lex_len (s.size+1) false 0 1 s.toList;omega
 have hjl:=(List.getElem?_eq_some_iff.mp hj).1;have FC:=η (fun W g c (D:DR W g 0 c l)=>fault_call D (by omega) hF);have DT:=η (fun W g c (D:DR W g 0 c l)=>D.at hj);have hj0:(0:Int)≤(j:Int):=by omega
 have hj1:(j:Int)<(l.length:Int):=by omega
 have n0:j=((j:Int)).toNat:=by omega
 rw[n0]at DT;simp only[Nat.zero_add]at DT;clear n0 hF hj hl he;replace hll:=η hll;have hne:Hid (l≠[]):=fun e=>by rw[e]at hj1;simp at hj1;omega
 generalize(j:Int)=J at*;go_enter Tryz.func6,Tryz.ntmps6;go_upto_region 3 with fail
 have hw1:=η (show w.heap.size<(w.alloc (.cells #[.slice none 0 0,.slice none 0 0] 31)).heap.size by simp);generalize w.alloc (.cells #[.slice none 0 0,.slice none 0 0] 31)=w1 at*;go_upto_region 4 with(first|(go_at_call 10;refine(TK.out _).mono ?_;rintro e w2 ⟨A,c,rfl,hc,N2,T2⟩;obtain⟨g,cap,hv,hg1,hg2,_⟩:=Kd.N_form N2 (by have:=hne;cases l with|nil=>exact absurd rfl this|cons a r=>simp);injection hv with hv1 hv2 hv3;subst hv1;have D2:=η (show DR w2 g 0 c l from⟨hc,hll.out,(Kd.N_reads' N2).2.2⟩);have X2:=η (T0.out.then T2 (fun i hi=>hi.elim));have B2:=η (T2.heap HB.out (fun z=>z));have hg0:=η (show w.heap.size<g from Nat.lt_of_lt_of_le hw1.out hg1);clear N2 T2 hg1 hg2 hv2 hv3))
 have F2:=η (FC.out w2 g c D2.out);clear FC TK HB;go_upto_region 6 with(first|(go_at_call 11;refine F2.out.mono ?_;rintro e w3 ⟨rfl,H3⟩;have T3:=Turn.new H3;have D3:=η (D2.out.turn T3);have X3:=η (X2.out.then T3 (fun i hi=>hi.elim));have B3:=η (T3.heap B2.out (fun z=>z));clear T3 H3))
 clear F2 D2 X2 B2;obtain⟨t0,t1,t2,t3,t4⟩:=DT.out w3 g c D3.out;obtain⟨e0,e1,ef⟩:=heap_two B3.out;obtain⟨s1,s2⟩:=set2 B3.out (.slice none 0 0) (.slice none 0 0);have t1':=s2.cell t1 (by have:=hg0.out;show ¬(g=w.heap.size);omega);go_region;go_wp2_with fail
 have X4:=(X3.out.then s2 (fun i hi=> .inr (by omega)));clear s2 t0 t1 t2 t3 t4 e0 e1 ef t1';generalize(w3.setCell ⟨w.heap.size,0,none⟩ (.slice none 0 0)).setCell ⟨w.heap.size,1,none⟩ (.slice none 0 0)=w4 at*;exact ret31 rfl rfl rfl rfl (b:=w.heap.size) s1 ⟨X4.drew,rfl⟩
theorem dparse_ok (s:Bs) (hs:s.size≤1048576) (l:List S42) (hl:l=lex (s.size+1) false 0 1 s.toList) (ht:Toks l) (mc c2:List S42) (z:S42) (ms:List Bs) (ss:List S62) (hlc:l=mc++(c2++[z])) (hm:Maps mc ms) (hnm:¬isM (hd (c2++[z])) [109,97,112]) (hst:Stms c2 ss)
 (J:Int) (hF:F l [kEnd,kStmts,kMaps] 0 (J,0)) (l':List S42) (w:World):Calls Tryz.prog 6 #[.string s] w (ParsePost w (.ok ((ms,ss),l'))):=by
 have c1:¬(1048576:Int)<(s.size:Int):=by omega
 have HB:=η (alloc_new w (.cells #[.slice none 0 0,.slice none 0 0] 31));have T0:=η ((Turn.refl (fun _=>False) w).alloc (.cells #[.slice none 0 0,.slice none 0 0] 31));have TK:=η (dtokens_call s (by omega));rw[← hl]at TK;have hll:l.length≤900000000:=by rw[hl];have:=lex_len (s.size+1) false 0 1 s.toList;omega
 have FC:=η (fun W g c (D:DR W g 0 c l)=>fault_call D (by omega) hF);have hcl:l.length=mc.length+(c2.length+1):=by rw[hlc];simp
 clear hl hF;replace hcl:=η hcl;replace hll:=η hll;replace hlc:=η hlc;have hne:Hid (l≠[]):=fun e=>by have:=hcl.out;rw[e]at this;simp at this
 replace ht:=η ht;go_enter Tryz.func6,Tryz.ntmps6;go_upto_region 3 with fail
 have hw1:=η (show w.heap.size<(w.alloc (.cells #[.slice none 0 0,.slice none 0 0] 31)).heap.size by simp);generalize w.alloc (.cells #[.slice none 0 0,.slice none 0 0] 31)=w1 at*;go_upto_region 4 with(first|(go_at_call 10;refine(TK.out _).mono ?_;rintro e w2 ⟨A,c,rfl,hc,N2,T2⟩;obtain⟨g,cap,hv,hg1,hg2,cells,hcells⟩:=Kd.N_form N2 (by have:=hne;cases l with|nil=>exact absurd rfl this|cons a r=>simp);injection hv with hv1 hv2 hv3;subst hv1;have D2:=η (show DR w2 g 0 c l from⟨hc,hll.out,(Kd.N_reads' N2).2.2⟩);have X2:=η (T0.out.then T2 (fun i hi=>hi.elim));have B2:=η (T2.heap HB.out (fun z=>z));have hg0:=η (show w.heap.size<g from Nat.lt_of_lt_of_le hw1.out hg1);have GO2:=η hcells;clear N2 T2 hg1 hg2 hv2 hv3 hcells))
 have F2:=η (FC.out w2 g c D2.out);clear FC TK HB;go_upto_region 7 with(first|(go_at_call 11;refine F2.out.mono ?_;rintro e w3 ⟨rfl,H3⟩;have T3:=Turn.new H3;have D3:=η (D2.out.turn T3);have X3:=η (X2.out.then T3 (fun i hi=>hi.elim));have B3:=η (T3.heap B2.out (fun z=>z));have GO3:=η (T3.heap GO2.out (fun z=>z));clear T3 H3))
 clear F2 D2 X2 B2 GO2;go_upto_region 9 with fail
 have B4:=η (alloc_old B3.out (.cells #[.slice none 0 0,.slice none 0 0] 31));have P4:=η (alloc_new w3 (.cells #[.slice none 0 0,.slice none 0 0] 31));have X4:=η (X3.out.alloc (.cells #[.slice none 0 0,.slice none 0 0] 31));have D4:=η (D3.out.turn ((Turn.refl (fun _=>False) w3).alloc (.cells #[.slice none 0 0,.slice none 0 0] 31)));have GO4:=η (alloc_old GO3.out (.cells #[.slice none 0 0,.slice none 0 0] 31));have hgb:=η (show g<w3.heap.size from(Array.getElem?_eq_some_iff.mp GO3.out).1);have hs4:=η (show w3.heap.size<(w3.alloc (.cells #[.slice none 0 0,.slice none 0 0] 31)).heap.size by simp);have hb28:=η (show w.heap.size<w3.heap.size from(Array.getElem?_eq_some_iff.mp B3.out).1);obtain⟨b8,hb8⟩:∃b,b=w3.heap.size:=⟨_,rfl⟩;rw[← hb8]at P4 hs4 hb28 hgb⊢;clear hb8;generalize w3.alloc (.cells #[.slice none 0 0,.slice none 0 0] 31)=w4 at*;clear B3 X3 D3 GO3;generalize(.cells cells 42:Obj)=ob at*;have L0:=η (show DmLoop l (c2++[z]) ms w b8 w.heap.size g ob (l.length+1) (.int .i64 0) w4 from⟨GO4.out,[],mc,[],ms,none,0,rfl,hlc.out,hm,rfl,by have:=hcl.out;omega,by simp,hs4.out,X4.out,P4.out,B4.out,Kd.N_nil _ _ _ _ _⟩);have DZ:=η (show ∀W:World,W.heap[g]? =some ob→DR W g 0 c l from fun W h=>D4.out.same (by rw[h,GO4.out]));clear hm X4 P4 B4 hs4 GO4;go_loopg [9] (l.length+1) (fun kq v9 W=>DmLoop l (c2++[z]) ms w b8 w.heap.size g ob kq v9 W)
 case atStart=>exact L0.out
 case round=>
  clear L0 w4 D4;obtain⟨GO6,p,mq,xs,zs,A,cap,rfl,hlp,hmp,hms,hck,hxp,hb6,X6,B6,B26,N6⟩:=hrel;have hb6:=η hb6;have X6:=η X6;have B6:=η B6;have B26:=η B26;have N6:=η N6;have D6:=η (DZ.out wr GO6);have GO6:=η GO6;have hll2:=hll.out;have hlpl:l.length=p.length+(mq.length+(c2.length+1)):=by rw[hlp];simp
  have hp1:(p.length:Int)<1000000000:=by omega
  have hp0:(0:Int)≤(p.length:Int):=by omega
  have l0:(p.length:Int)<(l.length:Int):=by omega
  have hxl:xs.length≤900000000:=by omega
  obtain⟨pl,hpl⟩:∃x,x=(p.length:Int):=⟨_,rfl⟩;have n0:p.length=pl.toNat:=by omega
  replace hlpl:=η hlpl;cases hmp with
  |nil=>
   obtain⟨a,q,ea⟩:∃a q,c2++[z]=a::q:=by cases c2 with|nil=>exact⟨z,[],rfl⟩|cons a r=>exact⟨a,r++[z],rfl⟩
   have hna:¬isM a [109,97,112]:=by rw[ea]at hnm;exact hnm
   obtain⟨y0,y1,y2,y3,y4⟩:=D6.out.at (i:=p.length) (t:=a) (by rw[hlp,ea];simp);have IC:=η (is_call1 (W:=wr.alloc (.cells #[.string ⟨#[109,97,112]⟩] 9)) a [109,97,112] wr.heap.size (alloc_new _ _));rw[decide_eq_false hna]at IC;have eb:l=p++(c2++[z]):=by rw[hlp];simp
   have hte:Toks c2:=by have:=ht.out;rw[eb]at this;exact this.tail.app.1
   obtain⟨o',c',hcut,D'⟩:=D6.out.seg p c2 [z] eb pl ((l.length:Int)-1) hpl (by have:=hlpl.out;simp at this;omega);replace D':=η D';rw[List.append_nil]at hms;replace hms:=η hms;have g1:IntKind.i64.wrap ((l.length:Int)-1)=(l.length:Int)-1:=by rw[IntKind.wrap_i64];omega
   rw[← hpl]at hp0 hp1 l0⊢;rw[n0]at y0 y1 y2 y3 y4;simp only[Nat.zero_add]at y0 y1 y2 y3 y4;clear hlp ea eb hck hna hnm n0 hxl hxp;replace hpl:=η hpl;go_upto_region 12 with(first|(go_at_call 12;refine IC.out.mono ?_;rintro e w7 ⟨rfl,H7⟩;have T7:=Turn.new H7;have X7:=η ((X6.out.alloc (.cells #[.string ⟨#[109,97,112]⟩] 9)).then T7 (fun i hi=>hi.elim));have B7:=η (T7.heap (alloc_old B6.out (.cells #[.string ⟨#[109,97,112]⟩] 9)) (fun z=>z));have B27:=η (T7.heap (alloc_old B26.out (.cells #[.string ⟨#[109,97,112]⟩] 9)) (fun z=>z));have N7:=η (Kd.N_step (Kd.N_alloc N6.out (.cells #[.string ⟨#[109,97,112]⟩] 9)) (fun k hk hlt=>T7.block k hlt (fun z=>z)));have hs7:=T7.size;have GO7:=η (T7.heap (alloc_old GO6.out (.cells #[.string ⟨#[109,97,112]⟩] 9)) (fun z=>z));have D7:=η (DZ.out w7 GO7.out);have TW7:=η (((Turn.refl (fun _=>False) wr).alloc (.cells #[.string ⟨#[109,97,112]⟩] 9)).then T7 (fun i hi=>hi.elim));clear T7 H7))
   clear IC X6 B6 B26 N6 y0 y1 y2 y3 y4 l0 hs7;have SC:=η (dstms_call hst hte (show DR w7 g o' c' c2 from D'.out.turn TW7.out));go_upto_region 13 with(first|(go_at_call 13;refine SC.out.mono ?_;rintro e w8 ⟨A5,c5,rfl,l5,F5,T8⟩;have X8:=η (X7.out.then T8 (fun i hi=>hi.elim));have B8:=η (T8.heap B7.out (fun z=>z));have B28:=η (T8.heap B27.out (fun z=>z));have N8:=η (Kd.N_step N7.out (fun k hk hlt=>T8.block k hlt (fun z=>z)));have hl5:=η l5;have hF5:=η (Kd.F_mono (ok':=fun k=>w.heap.size≤k∧k≠w.heap.size∧k≠b8) F5 (fun k hk=>by have:=X7.out.size;have:=hb6.out;have:=hb28.out;have:=TW7.out.size;omega));obtain⟨r0,r1,rf⟩:=heap_two B8.out;clear T8 F5 l5))
   clear SC B7 B27 X7 N7 r0 r1 rf D' hcut;have T9:Turn (fun k=>k=b8) w8 (w8.setCell ⟨b8,1,none⟩ (.slice A5 ss.length c5)):=turn_at (Turn.refl _ _) 1 _;have B9:=η (set_field (i:=1) B8.out (.slice A5 ss.length c5) rfl);have B29:=η (T9.heap B28.out (fun z=>by have:=hb28.out;omega));have X9:=η (X8.out.then T9 (fun i hi=> .inr (by have:=hb28.out;omega)));have N9:=η (Kd.N_step N8.out (fun k hk hlt=>T9.block k hlt (fun z=>hk.2.2.1 z)));have F9:=η (Kd.F_step hF5.out (fun k hk hlt=>T9.block k hlt (fun z=>hk.2.2 z)));clear X8 B8 B28 N8 hF5 T9;generalize w8.setCell ⟨b8,1,none⟩ (.slice A5 ss.length c5)=w9 at*;obtain⟨r0,r1,rf⟩:=heap_two B9.out;obtain⟨d0,d1,df⟩:=heap_two B29.out;clear rf;go_wp2_with fail
   clear r0 r1 d0 d1 df;obtain⟨s1,s2⟩:=set2 B29.out (.slice A xs.length cap) (.slice A5 ss.length c5);have X10:=X9.out.then s2 (fun i hi=> .inr (by omega));have G1:=Kd.F_step (Kd.N_F N9.out) (fun k hk hlt=>s2.block k hlt (fun z=>hk.2.1 z));have G2:=Kd.F_step F9.out (fun k hk hlt=>s2.block k hlt (fun z=>hk.2.1 z));have L1:=(Kd.N_reads' N9.out).2.1;obtain rfl:=hms.out;clear s2;generalize(w9.setCell ⟨w.heap.size,0,none⟩ (.slice A ms.length cap)).setCell ⟨w.heap.size,1,none⟩ (.slice A5 ss.length c5)=w10 at*;exact ret31 rfl rfl rfl rfl (b:=w.heap.size) s1 ⟨X10,A,cap,A5,c5,rfl,L1,Kd.F_mono G1 (fun k hk=>hk.1),hl5.out,Kd.F_mono G2 (fun k hk=>hk.1)⟩
  |cons m n b r zs h1 h2 h3 hr=>
   obtain⟨y0,y1,y2,y3,y4⟩:=D6.out.at (i:=p.length) (t:=m) (by rw[hlp];simp);have IC:=η (is_call1 (W:=wr.alloc (.cells #[.string ⟨#[109,97,112]⟩] 9)) m [109,97,112] wr.heap.size (alloc_new _ _));rw[decide_eq_true h1]at IC
   have HN:=η (show ∀W:World,W.heap[g]? =some ob→W.cell? ⟨g,(pl+1).toNat*5,none⟩=some (.string n.f0) from fun W h=>by
    have q:=((DZ.out W h).at (i:=p.length+1) (t:=n) (by rw[hlp];simp)).1;rw[show p.length+1=(pl+1).toNat by omega,Nat.zero_add]at q;exact q)
   have l1:pl+1<(l.length:Int):=by have:=hlpl.out;simp only[List.length_cons]at this;omega
   have g1:IntKind.i64.wrap (pl+1)=pl+1:=by rw[IntKind.wrap_i64];omega
   have l2:(0:Int)≤pl+1:=by omega
   have g3:IntKind.i64.wrap (pl+3)=pl+3:=by rw[IntKind.wrap_i64];omega
   have REL:=η (show ∀(A':Option Addr) (cap':Nat) (W:World),W.heap[g]? =some ob→b8<W.heap.size→Turn (fun _=>False) w W→W.heap[b8]? =some (.cells #[.slice A' (xs++[n.f0]).length cap',.slice none 0 0] 31)→W.heap[w.heap.size]? =some (.cells #[.slice none 0 0,.slice none 0 0] 31)→Kd.N Kd.string 9 W w.heap.size (fun k=>w.heap.size≤k∧k≠w.heap.size∧k≠b8∧k≠g) (.slice A' (xs++[n.f0]).length cap') (xs++[n.f0])→DmLoop l (c2++[z]) ms w b8 w.heap.size g ob (r.length+1) (.int .i64 (pl+3)) W from
    fun A' cap' W q0 q1 q2 q3 q4 q5=>⟨q0,p++[m,n,b],r,xs++[n.f0],zs,A',cap',by rw[hpl];simp,by rw[hlp];simp,hr,by rw[hms];simp,by omega,by simp;omega,q1,q2,q3,q4,q5⟩)
   have hmeas:r.length+1<gk:=by simp only[List.length_cons]at hck;omega
   have hlx:=η hxl;rw[← hpl]at hp0 hp1 l0⊢;rw[n0]at y0 y1 y2 y3 y4;simp only[Nat.zero_add]at y0 y1 y2 y3 y4;clear hlp hck hnm n0 hxl hxp hms hpl hlpl hr hcl hlc;go_upto_region 10 with(first|(go_at_call 12;refine IC.out.mono ?_;rintro e w7 ⟨rfl,H7⟩;have T7:=Turn.new H7;have X7:=η ((X6.out.alloc (.cells #[.string ⟨#[109,97,112]⟩] 9)).then T7 (fun i hi=>hi.elim));have B7:=η (T7.heap (alloc_old B6.out (.cells #[.string ⟨#[109,97,112]⟩] 9)) (fun z=>z));have B27:=η (T7.heap (alloc_old B26.out (.cells #[.string ⟨#[109,97,112]⟩] 9)) (fun z=>z));have N7:=η (Kd.N_step (Kd.N_alloc N6.out (.cells #[.string ⟨#[109,97,112]⟩] 9)) (fun k hk hlt=>T7.block k hlt (fun z=>z)));have hs7:=T7.size;have GO7:=η (T7.heap (alloc_old GO6.out (.cells #[.string ⟨#[109,97,112]⟩] 9)) (fun z=>z));have D7:=η (DZ.out w7 GO7.out);have TW7:=η (((Turn.refl (fun _=>False) wr).alloc (.cells #[.string ⟨#[109,97,112]⟩] 9)).then T7 (fun i hi=>hi.elim));clear T7 H7))
   have hb7:b8<w7.heap.size:=by have:=hb6.out;simp at hs7;omega
   clear IC X6 B6 B26 N6 y0 y1 y2 y3 y4 l0 hs7 hb6 D6 D7 GO6 TW7;have XX:=η (X7.out.drew);have BB:=η (show w7.drew.heap[b8]? =some (.cells #[.slice A xs.length cap,.slice none 0 0] 31) from B7.out);have B2B:=η (show w7.drew.heap[w.heap.size]? =some (.cells #[.slice none 0 0,.slice none 0 0] 31) from B27.out);have NN:=η (show Kd.N Kd.string 9 w7.drew w.heap.size (fun k=>w.heap.size≤k∧k≠w.heap.size∧k≠b8∧k≠g) (.slice A xs.length cap) xs from N7.out);have GG:=η (show w7.drew.heap[g]? =some ob from GO7.out);have hbd:b8<w7.drew.heap.size:=hb7;clear X7 B7 B27 N7 GO7 hb7;refine sr 12 (S:=fun W=>W.cell? ⟨b8,0,none⟩=some (.slice A xs.length cap)∧W.cell? ⟨g,(pl+1).toNat*5,none⟩=some (.string n.f0)) (ds:=[11]) ⟨(heap_two BB.out).1,HN.out _ GG.out⟩ ?_;generalize w7.drew=wA at*;intro hH;refine pu 0 36 ?_;refine tk 1 37 hH ?_;refine pu 2 38 ?_;refine pu 3 39 ?_;refine pu 4 40 ?_;refine pu 5 41 ?_;refine pu 6 42 ?_;refine tk 7 43 hH ?_;refine on 8 44 (fun K hK=> ?_);refine PrintLast.value_ (w1:=wA.alloc (.cells #[.string n.f0] 9)) (v:= .slice (some ⟨wA.heap.size,0,none⟩) 1 1) (by rfl) (by rfl) (by go_simp) ?_;refine hK.out _ _ ⟨(heap_two (alloc_old BB.out _)).1,HN.out _ (alloc_old GG.out _)⟩ (fun hH=> ?_);clear hK K;refine nm 44 ?_;refine on 9 45 (fun K hK=> ?_);have hb28':=hb28.out;have hgb':=hgb.out
   refine Kd.N_append_step Kd.string w.heap.size (by simp[Region.wanted]) (.tmp 37) (.tmp 44) 28 9 (.string ⟨#[]⟩) 16 rfl Tryz.underlying28 info9 rfl (by decide) (by decide)
    (.slice A xs.length cap) xs n.f0 [.string n.f0] (fun k=>w.heap.size≤k∧k≠w.heap.size∧k≠b8∧k≠g) (fun k=>False) rfl rfl (fun _ _=>rfl) (fun k hk=>hk.elim) (fun k hk=>by omega)
    NN.out (Below.refl _ _) (by omega) (by have:=hlx.out;omega) ?_
   intro v1 w5 N1 hb5' hg5 hat5;obtain⟨g5,cap5,hv1,hgb5,hgl5,_⟩:=Kd.N_form N1 (by simp);subst hv1;have T5:Turn (fun k=>w.heap.size≤k∧k≠w.heap.size∧k≠b8∧k≠g) wA w5:=Turn.of_grown hg5 (fun k hk=> .inl (NN.out.1 k hk));have hs5:=T5.size;have B5:=η (T5.heap BB.out (fun z=>z.2.2.1 rfl));have B25:=η (T5.heap B2B.out (fun z=>z.2.1 rfl));have G5:=η (T5.heap GG.out (fun z=>z.2.2.2 rfl));refine hK.out _ _ ⟨(heap_two B5.out).1,HN.out _ G5.out⟩ (fun hH=> ?_);clear hK K;refine nm 45 ?_;refine pu 10 46 ?_;refine la 11 (fun K hK=> ?_);obtain⟨e0,e1,ef⟩:=heap_two B5.out;refine PrintLast.skip_ (w1:=w5.setCell ⟨b8,0,none⟩ (.slice (some ⟨g5,0,none⟩) (xs++[n.f0]).length cap5)) (by rfl) (by rfl) (by go_simp) ?_;refine hK.out _ _ ?_;refine PrintLast.done_ (by kernel_rfl) ?_;clear hK K hH;have T6:Turn (fun k=>k=b8) w5 (w5.setCell ⟨b8,0,none⟩ (.slice (some ⟨g5,0,none⟩) (xs++[n.f0]).length cap5)):=turn_at (Turn.refl _ _) 0 _;have B6:=η (set_field (i:=0) B5.out (.slice (some ⟨g5,0,none⟩) (xs++[n.f0]).length cap5) rfl);have B26:=η (T6.heap B25.out (fun z=>by omega));have G6:=η (T6.heap G5.out (fun z=>by omega));have N6:=η (Kd.N_step N1 (fun k hk hlt=>T6.block k hlt (fun z=>hk.2.2.1 z)));have X6:=η ((XX.out.then T5 (fun i hi=> .inr hi.1)).then T6 (fun i hi=> .inr (by omega)));have hb6:b8<(w5.setCell ⟨b8,0,none⟩ (.slice (some ⟨g5,0,none⟩) (xs++[n.f0]).length cap5)).heap.size:=by simp;omega
   have RL:=η (REL.out _ _ _ G6.out hb6 X6.out B6.out B26.out N6.out);clear e0 e1 ef hat5 hg5 hb5' N1 B5 B25 T5 T6 hs5 XX BB B2B NN GG G5 G6 REL X6 B6 B26 N6 hb6;generalize w5.setCell ⟨b8,0,none⟩ (.slice (some ⟨g5,0,none⟩) (xs++[n.f0]).length cap5)=w6 at*;clear hgl5 hgb5;go_wp2_with fail
   go_roundg (r.length+1)
   case measure=>omega
   case rel=>exact RL.out
def toks (s:Bs):List S42:=lex (s.size+1) false 0 1 s.toList
theorem toks_ok (s:Bs) (hs:s.size≤1048576):Toks (toks s):=⟨by have:=lex_len (s.size+1) false 0 1 s.toList;unfold toks;omega,lex_ok _ _ _ _ _ (by rw[toList_len];omega)⟩
theorem dparse_call (s:Bs) (hs:s.size≤1048576) (o:Except (Int×Int) ((List Bs×List S62)×List S42)) (ho:pProg (10*(toks s).length+21) (toks s)=some o) (w:World):Calls Tryz.prog 6 #[.string s] w (ParsePost w o):=by
 have ht:=toks_ok s hs;have hl:(toks s).length≤1048578:=by have:=lex_len (s.size+1) false 0 1 s.toList;unfold toks;omega
 have F:=Fault_ev (R:=toks s) (l:=toks s) (ex:=[]) ht.1 (fun t h=>tok_num (ht.2 t h)) (lex_wf _ _ _ _ _) (by simp) (10*(toks s).length+21) (by omega);have he:=er_prog (10*(toks s).length+21) (toks s);have hp:=ho;rw[ho]at F;cases o with
 |error e=>
  obtain⟨j,hj,h1,h2⟩:=F;have:=dparse_err s hs (toks s) rfl j (toks s)[j] (List.getElem?_eq_getElem hj) e.2 (by rcases he e ho with q|q<;>omega) h2 w;rw[h1]at this;exact this
 |ok x=>
  obtain⟨⟨ms,ss⟩,l'⟩:=x;obtain⟨h1,h2,_,h4⟩:=F;unfold pProg at hp;obtain⟨m1,l1,e1,e2⟩:=pbind_ok hp;obtain⟨s1,l2,e3,e4⟩:=pbind_ok e2;obtain⟨z,rfl⟩:=pok_ok e4;injection z with z1 z2
  subst z1;subst z2;obtain⟨mc,zs,q1,q2,q3,rfl⟩:=maps_of _ _ _ _ _ e1;have ht1:Toks l1:=by have:=ht;rw[q1]at this;exact this.tail
  obtain⟨c2,ys,rfl,q5,q6,rfl⟩:=top_of _ _ _ _ _ e3 ht1;cases l2 with
  |nil=>exact absurd q5 (by decide)
  |cons z q=>
   have hq:q=[]:=lex_end _ _ _ _ _ (mc++c2) q z (by rw[List.append_assoc];exact q1) q5;subst hq;exact dparse_ok s hs (toks s) rfl ht mc c2 z _ _ q1 q3 q2 q6 (-1) h4 _ w
end Go.Proofs.YtbemddpmohoooaaGreatDoor
