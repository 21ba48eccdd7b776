import Derived.Test.YtbemddpmohoooaaGreatDoorQ16
import Derived.Test.YtbemddpmohoooaaGreatDoorQ17
import Derived.BigRegion
import Derived.Deep.RegionHeld3
set_option linter.unusedVariables false
set_option linter.unusedSimpArgs false
set_option linter.unusedSectionVars false
set_option maxHeartbeats 128000000
set_option maxRecDepth 100000
namespace Go.Proofs.YtbemddpmohoooaaGreatDoor
open PShelfFormats RowKit YtbemddpmohoooaaGreatDoorW.PrintWords
theorem ret62t {fn:Func} {R:Ending→World→Prop} {tmps:Array Value} {w:World} {b:Nat} {v0 v1 v2 v3 v4 v5 v6 j:Value} (t u:Tmp) (hr:fn.results=#[.cell t 62,.tmp u]) (ht:tmps[t]? =some (.pointer (some ⟨b,0,none⟩))) (hu:tmps[u]? =some j)
 (h:w.heap[b]? =some (.cells #[v0,v1,v2,v3,v4,v5,v6] 62 (0,0))) (hR:R (.returned (.tuple #[.agg #[v0,v1,v2,v3,v4,v5,v6],j])) w):
 bodyPost Tryz.prog fn R Exit.ret {tmps:=tmps,defers:=[]} w:=by
 obtain⟨b0,b1,b2,b3,b4,b5,b6,bf⟩:=heap7 h;exact bodyPost_ret (v:= .tuple #[.agg #[v0,v1,v2,v3,v4,v5,v6],j]) (by simp[results,hr,ht,hu,go_sem,b0,b1,b2,b3,b4,b5,b6]) rfl hR
theorem Turn.new {w W:World} (h:Below w.heap.size w W):Turn (fun _=>False) w W:=Turn.of_below h (Nat.le_refl _)
theorem dset_set (n q:S42) (c:List S42) (z:S42) (x:S80) (h1:n.f2=110) (h2:isM q [61]) (h3:Cut 0 c x) (h4:isM z [59]) (p r:List S42) (w:World) (b o cp:Nat) (ht:Toks (p++(n::q::(c++[z])++r))) (D:DR w b o cp (p++(n::q::(c++[z])++r))):
 Calls Tryz.prog 61 #[.slice (some ⟨b,o,none⟩) (p++(n::q::(c++[z])++r)).length cp,.int .i64 (p.length:Int)] w (DsPost w {st 1 with f1:=n.f0,f4:=[x]} (p.length+(n::q::(c++[z])).length)):=by
 have htc:=ht.tail.app.1;have hlen:(p++(n::q::(c++[z])++r)).length=p.length+(c.length+3+r.length):=by simp;omega
 have hle:=D.len;rw[hlen]at hle
 have hu1:unt [[59]] 0 p.length ((p++(n::q::(c++[z])++r)).drop p.length)=some (p.length+(c.length+2)):=by
  have e:p++(n::q::(c++[z])++r)=p++((n::q::c)++z::r):=by simp
  rw[e,drop_pre];exact unt_at (Pass.app (c1:=[n]) (Pass.nam htc.cons.1 h1) (Pass.app (c1:=[q]) (Pass.tok htc.cons.2.cons.1 h2 (by decide) (by decide)) (h3.pass (by decide)))) h4 (by decide) _
 have hu2:unt [[61]] 0 p.length ((p++(n::q::(c++[z])++r)).drop p.length)=some (p.length+1):=by
  have e:p++(n::q::(c++[z])++r)=p++([n]++q::(c++[z]++r)):=by simp
  rw[e,drop_pre];exact unt_at (Pass.nam htc.cons.1 h1) h2 (by decide) _
 obtain⟨o',c',hcut,D'⟩:=D.seg (p++[n,q]) c (z::r) (by simp) (((p.length+1:Nat):Int)+1) ((p.length+(c.length+2):Nat):Int) (by simp;omega) (by simp;omega);obtain⟨t0,t1,t2,t3,t4⟩:=D.at (i:=p.length) (t:=n) (by simp);have hj:((p.length+(n::q::(c++[z])).length:Nat):Int)=(p.length:Int)+((c.length:Int)+1+1)+1:=by simp;omega
 have hcl:(p.length:Int)+(c.length:Int)+3<1000000000:=by omega
 have hp0:(0:Int)≤(p.length:Int):=by omega
 have hp1:(p.length:Int)<((p++(n::q::(c++[z])++r)).length:Int):=by rw[hlen];omega
 have TC:=η (fun W (D:DR W b o' c' c)=>tree_call D h3);have U1:=η (fun W (D:DR W b o cp (p++(n::q::(c++[z])++r))) g hg=>until_call D ht.small [[59]] (by decide) p.length (p.length+(c.length+2)) (by rw[hlen];omega) hu1 (p.length:Int) rfl g hg 1 rfl);have U2:=η (fun W (D:DR W b o cp (p++(n::q::(c++[z])++r))) g hg=>until_call D ht.small [[61]] (by decide) p.length (p.length+1) (by rw[hlen];omega) hu2 (p.length:Int) rfl g hg 1 rfl);unfold DsPost;rw[hj];push_cast at hcut;push_cast at U1 U2;generalize p++(n::q::(c++[z])++r)=tK at*;clear hj;replace D:=η D;have HB:=η (alloc_new w box62);have T0:=η ((Turn.refl (fun _=>False) w).alloc box62);clear hlen hle hu1 hu2 htc;go_enter Tryz.func61,Tryz.ntmps61;go_upto_region 1 with fail
 have hw1:w.heap.size<(w.alloc box62).heap.size:=by simp
 generalize w.alloc (.cells #[.int .i64 0,.string ⟨#[]⟩,.string ⟨#[]⟩,.string ⟨#[]⟩,.slice none 0 0,.slice none 0 0,.slice none 0 0] 62)=w1 at*;have C1:=η (U1.out _ (D.out.turn (T0.out.alloc (.cells #[.string ⟨#[59]⟩] 9))) w1.heap.size (alloc_new w1 _));go_upto_region 2 with(first|(go_at_call 62;refine C1.out.mono ?_;rintro e w2 ⟨rfl,H2⟩;have X2:=η ((T0.out.alloc _).then (Turn.new H2) (fun i hi=>hi.elim));have B2:=η ((Turn.new H2).heap (alloc_old HB.out _) (fun z=>z));have hs2:=H2.size;clear H2))
 have C2:=η (U2.out _ (D.out.turn (X2.out.alloc (.cells #[.string ⟨#[61]⟩] 9))) w2.heap.size (alloc_new w2 _));clear C1 U1 U2;go_upto_region 3 with(first|(go_at_call 62;refine C2.out.mono ?_;rintro e w3 ⟨rfl,H3⟩;have X3:=η ((X2.out.alloc _).then (Turn.new H3) (fun i hi=>hi.elim));have B3:=η ((Turn.new H3).heap (alloc_old B2.out _) (fun z=>z));have hs3:=H3.size;clear H3))
 clear C2 X2 B2;simp at hs2 hs3;have C3:=η (TC.out w3 (Turn.refl (fun _=>False) w3 |> fun _=>D'.turn X3.out));clear TC;go_upto_region 5 with(first|(go_at_call 63;refine C3.out.mono ?_;rintro e w4 ⟨A4,c4,rfl,V4,H4⟩;have X4:=η (X3.out.then (Turn.new H4) (fun i hi=>hi.elim));have B4:=η ((Turn.new H4).heap B3.out (fun z=>z));have hs4:=H4.size;have VH:=η V4;clear H4 V4))
 have BX:=η (alloc_new w4 (bx x A4 c4));have B5:=η (alloc_old B4.out (bx x A4 c4));have X5:=η (X4.out.alloc (bx x A4 c4));have V5:=η (VH.out.al (bx x A4 c4));have t5:(w4.alloc (bx x A4 c4)).cell? ⟨b,o+p.length*5,none⟩=some (.string n.f0):=X5.out.cell t0 (fun z=>z);have hs5:w4.heap.size<(w4.alloc (bx x A4 c4)).heap.size:=by simp
 generalize w4.alloc (.cells #[.int .i64 x.f0,.int .i64 x.f1,.string x.f2,.string x.f3,.slice A4 x.f4.length c4] 80)=w5 at*;clear C3 X4 B4 VH X3 B3 t0 t1 t2 t3 t4;obtain⟨x0,x1,x2,x3,x4,xf⟩:=heap5 BX.out;obtain⟨r0,r1,r2,r3,r4,r5,r6,rf⟩:=heap7 B5.out;have B6:=alloc_old B5.out (.cells #[.int .i64 x.f0,.int .i64 x.f1,.string x.f2,.string x.f3,.slice A4 x.f4.length c4] 80);have t6:(w5.alloc (.cells #[.int .i64 x.f0,.int .i64 x.f1,.string x.f2,.string x.f3,.slice A4 x.f4.length c4] 80)).cell? ⟨b,o+p.length*5,none⟩=some (.string n.f0):=(Turn.refl (fun _=>False) w5).alloc _ |>.cell t5 (fun z=>z)
 obtain⟨q0,q1,q2,q3,q4,q5,q6,qf⟩:=heap7 B6;clear B6;go_region;clear q0 q1 q2 q3 q4 q5 q6 qf t6 r0 r1 r2 r3 r4 r5 r6 rf x0 x1 x2 x3 x4 xf t5 D' hcut hp0 hp1 ht D;go_wp2_with fail
 obtain⟨s1,s2⟩:=set7 (alloc_old B5.out (.cells #[.int .i64 x.f0,.int .i64 x.f1,.string x.f2,.string x.f3,.slice A4 x.f4.length c4] 80)) (.int .i64 1) (.string n.f0) (.string ⟨#[]⟩) (.string ⟨#[]⟩) (.slice (some ⟨w5.heap.size,0,none⟩) 1 1) (.slice none 0 0) (.slice none 0 0);have L1:=lit1 (ok':=fun k=>w.heap.size≤k∧k≠w.heap.size) V5.out (by intro k hk;omega);have L2:=row_turn L1 s2 (fun k hk q=>q.2 hk);have X7:=(X5.out.alloc (.cells #[.int .i64 x.f0,.int .i64 x.f1,.string x.f2,.string x.f3,.slice A4 x.f4.length c4] 80)).then s2 (fun i hi=> .inr (by omega));unfold set7w at s1 X7 L2;clear s2 L1 BX B5 X5 V5;generalize((((((((w5.alloc (.cells #[.int .i64 x.f0,.int .i64 x.f1,.string x.f2,.string x.f3,.slice A4 x.f4.length c4] 80)).setCell ⟨w.heap.size,0,none⟩ (.int .i64 1)).setCell ⟨w.heap.size,1,none⟩ (.string n.f0)).setCell ⟨w.heap.size,2,none⟩ (.string ⟨#[]⟩)).setCell ⟨w.heap.size,3,none⟩ (.string ⟨#[]⟩)).setCell ⟨w.heap.size,4,none⟩ (.slice (some ⟨w5.heap.size,0,none⟩) 1 1)).setCell ⟨w.heap.size,5,none⟩ (.slice none 0 0)).setCell ⟨w.heap.size,6,none⟩ (.slice none 0 0))=W7 at*;refine ret62t 4 5 rfl rfl rfl (b:=w.heap.size) s1 ⟨some ⟨w5.heap.size,0,none⟩,1,none,0,none,0,rfl,⟨Nat.le_refl _,Kd.F_drew (Kd.F_mono L2 (fun k hk=>hk.1)),Nat.le_refl _,Kd.F_nil _ _ _,Nat.le_refl _,Kd.F_nil _ _ _⟩,X7.drew⟩
open YtbemddpmohoooaaGreatDoorW
theorem B_app (a b:List UInt8):B a++B b=B (a++b):=by
 apply bt_inj.mp;rw[B_toList,Lib.toList_data,ByteArray.data_append];simp[B]
abbrev c80 (x:S80) (A:Option Addr) (c:Nat):Array Value:=#[.int .i64 x.f0,.int .i64 x.f1,.string x.f2,.string x.f3,.slice A x.f4.length c]
def DT (x:S80) (t:List UInt8):Prop:=∀(W:World) (A:Option Addr) (c:Nat),x.f4.length≤c→Kd.C k80 W A x.f4.length x.f4→
 Calls Tryz.prog 68 #[.agg (c80 x A c)] W fun e w'=>e= .returned (.string (B t))∧Below W.heap.size W w'
theorem B_size (l:List UInt8):(B l).size=l.length:=by simp[B,ByteArray.size]
theorem no_big {n:Nat} (h:n<9223372036854775808):¬9223372036854775807<n:=by omega
theorem within_call {x:S80} {t:List UInt8} (h:DT x t) (ht:t.length<1000000000000000) (br:Bool) (W:World) (A:Option Addr) (c:Nat) (hl:x.f4.length≤c) (hC:Kd.C k80 W A x.f4.length x.f4):
 Calls Tryz.prog 91 #[.agg (c80 x A c),.bool br] W fun e w'=>e= .returned (.string (B (if br=true then [40]++t++[41]else t)))∧Below W.heap.size W w':=by
 replace h:=η h;replace hC:=η hC;have hl:=η hl;have z1:¬9223372036854775807<1+(B t).size:=no_big (by rw[B_size];omega);have z2:¬9223372036854775807<1+(B t).size+1:=no_big (by rw[B_size];omega);go_enter Tryz.func91,Tryz.ntmps91;go_upto_region 1 with(first|((with_reducible refine gate_dst (N:=2) rfl ?_);refine bxE (N:=2) (cs:=c80 x A c) (t:=80) ?_;intro g hg w4 hbox hb))
 have C4:=η (h.out w4 A c hl.out (Kd.C_below hC.out hb));have B4:=η hb;subst hg;obtain⟨e0,e1,e2,e3,e4,ef⟩:=heap5 hbox;clear hb;cases br with
 |true=>
  go_wp2_with(first|(go_at_call 68;refine C4.out.mono ?_;rintro e w5 ⟨rfl,H5⟩;have B5:=η (below_step B4.out H5);clear H5))
  go_ret;refine⟨?_,B5.out⟩;show Ending.returned (.string (B [40]++B t++B [41]))=_;rw[B_app,B_app];rfl
 |false=>
  go_wp2_with(first|(go_at_call 68;refine C4.out.mono ?_;rintro e w5 ⟨rfl,H5⟩;have B5:=η (below_step B4.out H5);clear H5))
  go_ret;exact⟨rfl,B5.out⟩
theorem first80 {W:World} {A:Option Addr} {n:Nat} {x:S80} {xs:List S80} (h:Kd.C k80 W A n (x::xs)):∃ad A4 c4,A=some ad∧(∀W',Below W.heap.size W W'→W'.cell? ad=some (.int .i64 x.f0)∧W'.cell? ⟨ad.block,ad.off+1,none⟩=some (.int .i64 x.f1)∧W'.cell? ⟨ad.block,ad.off+2,none⟩=some (.string x.f2)∧
 W'.cell? ⟨ad.block,ad.off+3,none⟩=some (.string x.f3)∧W'.cell? ⟨ad.block,ad.off+4,none⟩=some (.slice A4 x.f4.length c4))∧x.f4.length≤c4∧Kd.C k80 W A4 x.f4.length x.f4:=by
 have hn:n=(x::xs).length:=h.1.symm;obtain⟨ad,A4,c4,rfl,e0,e1,e2,e3,e4,l4,g4⟩:=at_T80 h 0 (by omega) (by rw[hn];simp);have e:ad.add ((0:Int).toNat*5)=ad:=by unfold Addr.add;simp
 rw[e]at e0 e1 e2 e3 e4;have hb:∀{W':World} {p:Addr} {v:Value},Below W.heap.size W W'→W.cell? p=some v→W'.cell? p=some v:=fun H hv=>((Turn.of_below (F:=fun _=>False) H (Nat.le_refl _)).cell hv (fun z=>z))
 exact⟨ad,A4,c4,rfl,fun W' H=>⟨hb H e0,hb H e1,hb H e2,hb H e3,hb H e4⟩,l4,g4⟩
theorem rank0_lt (s:List UInt8):rank0 s<5:=by
 unfold rank0
 repeat' split
 all_goals omega
theorem B_own (s:Bs):s=B s.toList:=bt_lit.mp rfl
theorem dec_len (n:Nat) (h:n<9223372036854775808):(Lib.decDigits n).length≤20:=by
 have G:∀(k n:Nat),n<10^(k+1)→(Lib.decDigits n).length≤k+1:=by
  intro k;induction k with
  |zero=>intro n hn;rw[Lib.decDigits,dif_pos (by omega)];simp
  |succ k ih=>
   intro n hn;rw[Lib.decDigits];split
   · simp
   · have:=ih (n / 10) (by rw[Nat.pow_succ]at hn;omega)
     simp only[List.length_append,List.length_cons,List.length_nil];omega
 exact G 19 n (by omega)
theorem toList_app (a b:Bs):(a++b).toList=a.toList++b.toList:=by
 rw[Lib.toList_data,Lib.toList_data,Lib.toList_data,ByteArray.data_append];simp
theorem str_eq {a:Bs} {l:List UInt8} (h:a.toList=l):Ending.returned (.string a)=Ending.returned (.string (B l)):=by
 rw[← h,← B_own]
theorem digit_str (n:Nat) (h:n<10):strOfNums [(wrap64 (48+(n:Int))) % 256]=B [UInt8.ofNat (48+n)]:=by
 have e:wrap64 (48+(n:Int)) % 256=((UInt8.ofNat (48+n)).toNat:Int):=by
  rw[wrap_id (by omega) (by omega),UInt8.toNat_ofNat'];omega
 rw[e];unfold strOfNums B;simp only[List.map_cons,List.map_nil,Int.toNat_natCast,UInt8.ofNat_toNat]
theorem digs_nat:∀(m n:Nat),n≤m→n<9223372036854775808→Ev (fun k=>larderref23_Digits.f k (n:Int)) (B (Lib.decDigits n))
 |m,n,hm,h1=>by
  refine Ev.step (g:=fun k=>if(n:Int)<10 then(some (strOfNums (([(wrap64 (48+(n:Int))) % 256]:List Int))))else((larderref23_Digits.f k (wrap64 (Int.tdiv (n:Int) 10))).bind fun t644=>((larderref23_Digits.f k (Int.tmod (n:Int) 10)).bind fun t645=>(if t644.size+t645.size≤9223372036854775807 then(some (t644++t645))else(none))))) (fun k=>by rw[larderref23_Digits.f]) ?_;by_cases h9:n<10
  · have h9':(n:Int)<10:=by omega
    simp only[if_pos h9'];rw[Lib.decDigits,dif_pos h9,digit_str n h9];exact Ev.const _
  · have h9':¬(n:Int)<10:=by omega
    simp only[if_neg h9']
    have e1:wrap64 (Int.tdiv (n:Int) 10)=((n / 10:Nat):Int):=by
     rw[Int.tdiv_eq_ediv_of_nonneg (by omega),wrap_id (by omega) (by omega)];omega
    have e2:Int.tmod (n:Int) 10=((n % 10:Nat):Int):=by
     rw[Int.tmod_eq_emod_of_nonneg (by omega)];omega
    rw[e1,e2]
    match m,hm with
    |0,hm=>omega
    |m+1,hm=>
     refine Ev.bind (digs_nat m (n / 10) (by omega) (by omega)) ?_;refine Ev.bind (digs_nat m (n % 10) (by omega) (by omega)) ?_
     have e3:Lib.decDigits n=Lib.decDigits (n / 10)++Lib.decDigits (n % 10):=by
      rw[Lib.decDigits,dif_neg h9,Lib.decDigits_one (show n % 10<10 by omega)]
     have l1:=Lib.decDigits_length (n / 10);have l2:=Lib.decDigits_length (n % 10);have k1:=dec_len (n / 10) (by omega);have k2:=dec_len (n % 10) (by omega);have hs:(B (Lib.decDigits (n / 10))).size+(B (Lib.decDigits (n % 10))).size≤9223372036854775807:=by rw[B_size,B_size];omega
     simp only[if_pos hs];rw[B_app,← e3];exact Ev.const _
theorem digs_ev (n:Int) (h0:0≤n) (h1:n<9223372036854775808):Ev (fun k=>larderref23_Digits.f k n) (B (digs n)):=by
 have:=digs_nat n.toNat n.toNat (Nat.le_refl _) (by omega);rw[show((n.toNat:Nat):Int)=n by omega]at this;exact this
theorem text_un (o:Bs) (x:S80) (t:List UInt8) (h:DT x t) (ht:t.length<100000000000000) (ho:o.size≤2):DT (xUn o x) (o.toList++wrap x 5 t):=by
 intro W A c hl hC;obtain⟨ad,A1,c1,rfl,hc,hl1,hC1⟩:=first80 hC;replace hc:=η hc;replace hC1:=η hC1;clear hC hl
 have hs:(if(x.f0==7)=true then [40]++t++[41]else t)=wrap x 5 t:=by
  unfold wrap;have:=rank0_lt x.f3.toList;by_cases q:x.f0=7
  · rw[if_pos (beq_iff_eq.mpr q),if_pos ⟨q,this⟩]
  · rw[if_neg (fun z=>q (beq_iff_eq.mp z)),if_neg (fun z=>q z.1)]
 have WC:=η (fun W (hC:Kd.C k80 W A1 x.f4.length x.f4)=>within_call h (by omega) (x.f0==7) W A1 c1 hl1 hC);rw[hs]at WC;clear hs;generalize hs:wrap x 5 t=u at*;have hu:u.length≤t.length+2:=by rw[← hs];unfold wrap;split<;>simp
 have z1:¬9223372036854775807<o.size+(B u).size:=no_big (by rw[B_size];omega);go_enter Tryz.func68,Tryz.ntmps68;go_upto_region 1 with(first|((with_reducible refine gate_dst (N:=1) rfl ?_);refine bxE (N:=1) (cs:=c80 (xUn o x) (some ad) c) (t:=80) ?_;intro g hg w4 hbox hb))
 have SC:=η (show ∀W',Below w4.heap.size w4 W'→W'.cell? ⟨W.heap.size,3,none⟩=some (.string o)∧W'.cell? ⟨W.heap.size,4,none⟩=some (.slice (some ad) 1 c)∧W'.cell? ad=some (.int .i64 x.f0)∧W'.cell? ⟨ad.block,ad.off+1,none⟩=some (.int .i64 x.f1)∧W'.cell? ⟨ad.block,ad.off+2,none⟩=some (.string x.f2)∧W'.cell? ⟨ad.block,ad.off+3,none⟩=some (.string x.f3)∧W'.cell? ⟨ad.block,ad.off+4,none⟩=some (.slice A1 x.f4.length c1) from fun W' H=>by
  obtain⟨q0,q1,q2,q3,q4,qf⟩:=heap5 ((Turn.new H).heap hbox (fun z=>z));rw[hg]at q2 q3 q4;exact⟨q3,q4,hc.out W' (below_step hb H)⟩)
 subst hg;obtain⟨e0,e1,e2,e3,e4,ef⟩:=heap5 hbox;have B4:=η (hb.drew);have SD:=η (SC.out w4.drew (Below.refl _ _).drew);have CC:=η (WC.out w4.drew (Kd.C_below hC1.out hb.drew));clear hbox hb WC;go_upto_region 13 with fail
 go_region_held3 (fun x'=>x'.cell? ⟨W.heap.size,3,none⟩=some (.string o)∧x'.cell? ⟨W.heap.size,4,none⟩=some (.slice (some ad) 1 c)∧x'.cell? ad=some (.int .i64 x.f0)∧x'.cell? ⟨ad.block,ad.off+1,none⟩=some (.int .i64 x.f1)∧x'.cell? ⟨ad.block,ad.off+2,none⟩=some (.string x.f2)∧x'.cell? ⟨ad.block,ad.off+3,none⟩=some (.string x.f3)∧x'.cell? ⟨ad.block,ad.off+4,none⟩=some (.slice A1 x.f4.length c1))
  ((first|exact SD.out|exact SE.out))
  ((first|(go_at_call 91;refine CC.out.mono ?_;rintro e w5 ⟨rfl,H5⟩;have SE:=η (SC.out w5 (below_step (Below.refl _ _).drew H5));have B5:=η (below_step B4.out H5);clear H5)))
 clear SE SD SC;go_wp2_with fail
 go_ret;refine⟨?_,B5.out⟩;exact str_eq (by simp[toList_app,B_toList,lit_toList])
theorem text_index (s:Bs) (x:S80) (t:List UInt8) (h:DT x t) (ht:t.length<100000000000000) (hs:s.size≤1048576):DT (xIndex s x) (s.toList++[91]++t++[93]):=by
 intro W A c hl hC;obtain⟨ad,A1,c1,rfl,hc,hl1,hC1⟩:=first80 hC;replace hc:=η hc;replace hC1:=η hC1;clear hC hl;have WC:=η (fun W (hC:Kd.C k80 W A1 x.f4.length x.f4)=>h W A1 c1 hl1 hC);have z1:¬9223372036854775807<s.size+1:=no_big (by omega);have z2:¬9223372036854775807<s.size+1+(B t).size:=no_big (by rw[B_size];omega);have z3:¬9223372036854775807<s.size+1+(B t).size+1:=no_big (by rw[B_size];omega);go_enter Tryz.func68,Tryz.ntmps68;go_upto_region 1 with(first|((with_reducible refine gate_dst (N:=1) rfl ?_);refine bxE (N:=1) (cs:=c80 (xIndex s x) (some ad) c) (t:=80) ?_;intro g hg w4 hbox hb))
 have SC:=η (show ∀W',Below w4.heap.size w4 W'→W'.cell? ⟨W.heap.size,2,none⟩=some (.string s)∧W'.cell? ⟨W.heap.size,4,none⟩=some (.slice (some ad) 1 c)∧W'.cell? ad=some (.int .i64 x.f0)∧W'.cell? ⟨ad.block,ad.off+1,none⟩=some (.int .i64 x.f1)∧W'.cell? ⟨ad.block,ad.off+2,none⟩=some (.string x.f2)∧W'.cell? ⟨ad.block,ad.off+3,none⟩=some (.string x.f3)∧W'.cell? ⟨ad.block,ad.off+4,none⟩=some (.slice A1 x.f4.length c1) from fun W' H=>by
  obtain⟨q0,q1,q2,q3,q4,qf⟩:=heap5 ((Turn.new H).heap hbox (fun z=>z));rw[hg]at q2 q3 q4;exact⟨q2,q4,hc.out W' (below_step hb H)⟩)
 subst hg;obtain⟨e0,e1,e2,e3,e4,ef⟩:=heap5 hbox;have B4:=η (hb.drew);have SD:=η (SC.out w4.drew (Below.refl _ _).drew);have CC:=η (WC.out w4.drew (Kd.C_below hC1.out hb.drew));clear hbox hb WC;go_upto_region 7 with fail
 go_region_held3 (fun x'=>x'.cell? ⟨W.heap.size,2,none⟩=some (.string s)∧x'.cell? ⟨W.heap.size,4,none⟩=some (.slice (some ad) 1 c)∧x'.cell? ad=some (.int .i64 x.f0)∧x'.cell? ⟨ad.block,ad.off+1,none⟩=some (.int .i64 x.f1)∧x'.cell? ⟨ad.block,ad.off+2,none⟩=some (.string x.f2)∧x'.cell? ⟨ad.block,ad.off+3,none⟩=some (.string x.f3)∧x'.cell? ⟨ad.block,ad.off+4,none⟩=some (.slice A1 x.f4.length c1))
  ((first|exact SD.out|exact SE.out))
  ((first|(go_at_call 68;refine CC.out.mono ?_;rintro e w5 ⟨rfl,H5⟩;have SE:=η (SC.out w5 (below_step (Below.refl _ _).drew H5));have B5:=η (below_step B4.out H5);clear H5)))
 clear SE SD SC;go_wp2_with fail
 go_ret;refine⟨?_,B5.out⟩;exact str_eq (by simp[toList_app,B_toList,lit_toList])
theorem text_has (s:Bs) (x:S80) (t:List UInt8) (h:DT x t) (ht:t.length<100000000000000) (hs:s.size≤1048576):DT (xHas s x) ([104,97,115,32]++s.toList++[91]++t++[93]):=by
 intro W A c hl hC;obtain⟨ad,A1,c1,rfl,hc,hl1,hC1⟩:=first80 hC;replace hc:=η hc;replace hC1:=η hC1;clear hC hl;have WC:=η (fun W (hC:Kd.C k80 W A1 x.f4.length x.f4)=>h W A1 c1 hl1 hC);have z0:¬9223372036854775807<4+s.size:=no_big (by omega);have z1:¬9223372036854775807<4+s.size+1:=no_big (by omega);have z2:¬9223372036854775807<4+s.size+1+(B t).size:=no_big (by rw[B_size];omega);have z3:¬9223372036854775807<4+s.size+1+(B t).size+1:=no_big (by rw[B_size];omega);go_enter Tryz.func68,Tryz.ntmps68;go_upto_region 1 with(first|((with_reducible refine gate_dst (N:=1) rfl ?_);refine bxE (N:=1) (cs:=c80 (xHas s x) (some ad) c) (t:=80) ?_;intro g hg w4 hbox hb))
 have SC:=η (show ∀W',Below w4.heap.size w4 W'→W'.cell? ⟨W.heap.size,2,none⟩=some (.string s)∧W'.cell? ⟨W.heap.size,4,none⟩=some (.slice (some ad) 1 c)∧W'.cell? ad=some (.int .i64 x.f0)∧W'.cell? ⟨ad.block,ad.off+1,none⟩=some (.int .i64 x.f1)∧W'.cell? ⟨ad.block,ad.off+2,none⟩=some (.string x.f2)∧W'.cell? ⟨ad.block,ad.off+3,none⟩=some (.string x.f3)∧W'.cell? ⟨ad.block,ad.off+4,none⟩=some (.slice A1 x.f4.length c1) from fun W' H=>by
  obtain⟨q0,q1,q2,q3,q4,qf⟩:=heap5 ((Turn.new H).heap hbox (fun z=>z));rw[hg]at q2 q3 q4;exact⟨q2,q4,hc.out W' (below_step hb H)⟩)
 subst hg;obtain⟨e0,e1,e2,e3,e4,ef⟩:=heap5 hbox;have B4:=η (hb.drew);have SD:=η (SC.out w4.drew (Below.refl _ _).drew);have CC:=η (WC.out w4.drew (Kd.C_below hC1.out hb.drew));clear hbox hb WC;go_upto_region 9 with fail
 go_region_held3 (fun x'=>x'.cell? ⟨W.heap.size,2,none⟩=some (.string s)∧x'.cell? ⟨W.heap.size,4,none⟩=some (.slice (some ad) 1 c)∧x'.cell? ad=some (.int .i64 x.f0)∧x'.cell? ⟨ad.block,ad.off+1,none⟩=some (.int .i64 x.f1)∧x'.cell? ⟨ad.block,ad.off+2,none⟩=some (.string x.f2)∧x'.cell? ⟨ad.block,ad.off+3,none⟩=some (.string x.f3)∧x'.cell? ⟨ad.block,ad.off+4,none⟩=some (.slice A1 x.f4.length c1))
  ((first|exact SD.out|exact SE.out))
  ((first|(go_at_call 68;refine CC.out.mono ?_;rintro e w5 ⟨rfl,H5⟩;have SE:=η (SC.out w5 (below_step (Below.refl _ _).drew H5));have B5:=η (below_step B4.out H5);clear H5)))
 clear SE SD SC;go_wp2_with fail
 go_ret;refine⟨?_,B5.out⟩;exact str_eq (by simp[toList_app,B_toList,lit_toList])
theorem text_num (n:Int) (h0:0≤n) (h1:n<9223372036854775808):DT (xNum n) (digs n):=by
 intro W A c hl hC;obtain⟨k,hk⟩:=(digs_ev n h0 h1).get;have DC:=η (fun W=>larderref23_Digits.calls k n (B (digs n)) W hk);clear hk;go_enter Tryz.func68,Tryz.ntmps68;go_upto_region 1 with(first|((with_reducible refine gate_dst (N:=1) rfl ?_);refine bxE (N:=1) (cs:=c80 (xNum n) A c) (t:=80) ?_;intro g hg w4 hbox hb))
 subst hg;obtain⟨e0,e1,e2,e3,e4,ef⟩:=heap5 hbox;have B4:=η hb;clear hbox hb;go_wp2_with(first|(go_at_call 90;refine(DC.out _).mono ?_;rintro e w5 ⟨rfl,H5⟩;have B5:=η (below_step B4.out H5);clear H5))
 go_ret;exact⟨rfl,B5.out⟩
theorem text_name (s:Bs):DT (xName s) (s.toList):=by
 intro W A c hl hC;go_enter Tryz.func68,Tryz.ntmps68;go_upto_region 1 with(first|((with_reducible refine gate_dst (N:=1) rfl ?_);refine bxE (N:=1) (cs:=c80 (xName s) A c) (t:=80) ?_;intro g hg w4 hbox hb))
 subst hg;obtain⟨e0,e1,e2,e3,e4,ef⟩:=heap5 hbox;have B4:=η hb;clear hbox hb;go_wp2_with fail
 go_ret;exact⟨by rw[← B_own];rfl,B4.out⟩
theorem text_len (s:Bs) (hs:s.size≤1048576):DT (xLen s) ([108,101,110,32]++s.toList):=by
 intro W A c hl hC;have z0:¬9223372036854775807<4+s.size:=no_big (by omega);go_enter Tryz.func68,Tryz.ntmps68;go_upto_region 1 with(first|((with_reducible refine gate_dst (N:=1) rfl ?_);refine bxE (N:=1) (cs:=c80 (xLen s) A c) (t:=80) ?_;intro g hg w4 hbox hb))
 subst hg;obtain⟨e0,e1,e2,e3,e4,ef⟩:=heap5 hbox;have B4:=η hb;clear hbox hb;go_wp2_with fail
 go_ret;refine⟨?_,B4.out⟩;exact str_eq (by simp[toList_app,B_toList,lit_toList,xLen])
end Go.Proofs.YtbemddpmohoooaaGreatDoor
