import Derived.Test.YtbemddpmohoooaaGreatDoorQ29
set_option linter.unusedVariables false
set_option linter.unusedSimpArgs false
set_option linter.unusedSectionVars false
set_option maxHeartbeats 128000000
set_option maxRecDepth 100000
namespace Go.Proofs.YtbemddpmohoooaaGreatDoor
open PShelfFormats RowKit YtbemddpmohoooaaGreatDoorW.PrintWords
def conv (t:S42):S59:=⟨kd t.f2,t.f0,t.f1⟩
def TkLoop (ALL:List S42) (w:World) (kq:Nat) (v0 v3 v4:Value) (W:World):Prop:=
 ∃(txt:Bs) (xs:List S42) (A:Option Addr) (c:Nat) (line:Int),v0= .string txt∧v3= .slice A xs.length c∧v4= .int .i64 line∧txt.size<kq∧
  stop ALL=xs++stop (lex (txt.size+1) false xs.length line txt.toList)∧0≤line∧line+txt.size≤1048578∧xs.length+txt.size≤1048578∧xs.length≤8192∧
  k59.N 59 W w.heap.size (fun k=>w.heap.size≤k) (.slice A xs.length c) (xs.map conv)∧Turn (fun _=>False) w W∧WordsAt W
theorem nl_range (l:List UInt8):0≤nl l∧nl l≤l.length:=by
 unfold nl;have:=List.count_le_length (a:=(10:UInt8)) (l:=l);omega
theorem tk_done {w W:World} {ALL ys:List S42} {v:Value} (h:stop ALL=ys) (hne:0<ys.length) (N1:k59.N 59 W w.heap.size (fun k=>w.heap.size≤k) v (ys.map conv)) (T:Turn (fun _=>False) w W):TkPost w ALL (.returned v) W:=by
 obtain⟨g,cap,rfl,h1,h2,_⟩:=Kd.N_form N1 (by rw[List.length_map];exact hne);obtain⟨h3,h4,hC⟩:=Kd.N_reads' N1;rw[List.length_map]at h3 h4 hC⊢;refine⟨g,cap,by rw[h],by rw[h];exact h4,h1,h2,fun i t ht=> ?_,T⟩;rw[h]at ht;have hi:=(List.getElem?_eq_some_iff.mp ht).1;obtain⟨ad,e,e0,e1,e2⟩:=at_T59 hC (i:Int) (by omega) (by omega);obtain rfl:=Option.some.inj e
 have hr:rd_T59 (ys.map conv) (i:Int)=conv t:=by
  unfold rd_T59;rw[Int.toNat_natCast,List.getD_eq_getElem?_getD,List.getElem?_map,ht];rfl
 rw[hr,Int.toNat_natCast]at e0 e1 e2;have ha:∀m:Nat,(⟨g,0,none⟩:Addr).add m=⟨g,m,none⟩:=fun m=>by simp[Addr.add];omega
 rw[ha,Nat.mul_comm]at e0 e1 e2;exact⟨e0,e1,e2⟩
theorem tokens_call (s:Bs) (hs:s.size≤1048576) (w:World) (hw:WordsAt w):Calls Tryz.prog 17 #[.string s] w (TkPost w (lex (s.size+1) false 0 1 s.toList)):=by
 have hw1:1<w.heap.size:=hw.lt;generalize hALL:lex (s.size+1) false 0 1 s.toList=ALL;replace hALL:=η hALL;go_enter Tryz.func17,Tryz.ntmps17;go_wp2_with fail
 go_loopg [0,3,4] (s.size+1) (fun kq v0 v3 v4 W=>TkLoop ALL w kq v0 v3 v4 W)
 case atStart=>exact⟨s,[],none,0,1,rfl,rfl,rfl,by omega,by rw[List.nil_append,List.length_nil,hALL.out],by omega,by omega,by simp;omega,by simp,Kd.N_nil _ _ _ _ _,Turn.refl _ _,hw⟩
 case round=>
  clear hALL hs;obtain⟨txt,xs,A,c,line,rfl,rfl,rfl,hkq,hst,hl0,hl1,hx1,hx2,N1,T,HW⟩:=hrel;have hlen:=toList_len txt;have hm:=blk_le false txt.toList;have hd0:(txt.extract (blk false txt.toList) txt.size).toList=txt.toList.drop (blk false txt.toList):=ext_drop _ _
  have ht0:(Lib.countByte (txt.extract 0 (blk false txt.toList)).data.toList 10:Int)=nl (txt.toList.take (blk false txt.toList)):=by
   rw[← Lib.toList_data,ext_take];rfl
  have hr0:=nl_range (txt.toList.take (blk false txt.toList));rw[List.length_take]at hr0;have hdl:(txt.toList.drop (blk false txt.toList)).length=txt.size-blk false txt.toList:=by rw[List.length_drop,hlen]
  have LB:=lex_blank txt.size xs.length line txt.toList;have LE:=lex_blank_end txt.size xs.length line txt.toList;have BC:=η (blanks_call txt wr (by omega));generalize nl (txt.toList.take (blk false txt.toList))=z at*;generalize blk false txt.toList=m at*;generalize txt.toList.drop m=rest at*;have hm1:(m:Int)≤(txt.size:Int):=by omega
  have hm0:(0:Int)≤(m:Int):=by omega
  have hz1:0≤line+z:=by omega
  have hz2:line+z<1000000000:=by omega
  replace hr0:=η hr0;replace ht0:=η ht0;replace hd0:=η hd0;replace hst:=η hst;replace N1:=η N1;replace T:=η T;replace HW:=η HW;replace LB:=η LB;replace LE:=η LE;replace hdl:=η hdl;replace hl1:=η hl1;replace hx1:=η hx1;clear hlen hm;go_upto_region 6 with(first|(go_at_call 37;refine BC.out.mono ?_;rintro e w' ⟨rfl,rfl⟩)|(go_at_call 38;refine(Tryz.strings_Count_one _ 10 _).mono ?_;rintro e w' ⟨rfl,rfl⟩;rw[ht0.out]))
  generalize txt.extract m txt.size=X at*;have hXl:=toList_len X;rw[hd0.out]at hXl;cases rest with
  |nil=>
   have hE:=LE.out rfl;have hX0:X.toList=[]:=hd0.out;have hst2:stop ALL=xs++[tEnd (line+z)]:=by rw[hst.out,hE];rfl
   clear hXl LB LE hst hE hd0 hl1 hx1 hr0 ht0 hdl;replace hst2:=η hst2;replace hX0:=η hX0;have hq:(X.toList==([]:List UInt8))=true:=by rw[hX0.out];rfl
   go_wp2_with(at_builtin;refine Kd.N_append k59 (w0:=w') (W:=w') w.heap.size rfl (.tmp 20) (.tmp 23) 52 59 _ 32 rfl Tryz.underlying52 info59 rfl (by decide) (by decide) (.slice A xs.length c) (xs.map conv) (conv (tEnd (line+z))) [.int .i64 1,.string ⟨#[]⟩,.int .i64 (line+z)] (fun k=>w.heap.size≤k) (fun k=>False) rfl rfl (k59_mkF _ _ _) (fun k hk=>hk.elim) (fun k hk=>by have:=T.out.size;omega) N1.out (Below.refl _ _) T.out.size (by simp;omega) ?_;intro v1 w5 N5 hb5 hg5 hat5)
   have T5:Turn (fun k=>w.heap.size≤k) w' w5:=Turn.of_grown hg5 (fun k hk=> .inl (N1.out.1 k hk));have hD:=tk_done hst2.out (by simp) (by rw[List.map_append];exact N5) (T.out.then T5 (fun i hi=> .inr hi));clear N1 T HW BC;go_ret;exact hD
  |cons d r=>
   have hE:=LB.out d r rfl;have hX0:X.toList=d::r:=hd0.out;have hst2:stop ALL=xs++stop (tokAt xs.length d r (line+z)::lex txt.size false (xs.length+1) (line+z) (List.drop (tokT d r).fst.length (d::r))):=by rw[hst.out,hE]
   have htl:=tokT_len d r;rw[List.length_cons]at hXl;have hts:X.size≤txt.size:=by have:=hdl.out;rw[List.length_cons]at this;omega
   have hsm:line+z+(X.size:Int)≤1048578:=by have:=hdl.out;rw[List.length_cons]at this;have:=hr0.out;have:=hl1.out;omega
   have hxs2:X.size<1000000000:=by have:=hx1.out;omega
   clear LB LE hst hE hd0 hr0 ht0 hdl BC;replace hst2:=η hst2;replace hX0:=η hX0;have hq:(X.toList==([]:List UInt8))=false:=by rw[hX0.out];rfl
   have FC:=η (first_call X d r hX0.out hxs2 w' HW.out);replace hXl:=η hXl;replace hsm:=η hsm;replace htl:=η htl;replace hts:=η hts;go_upto_region 9 with(first|(go_at_call 39;refine FC.out.mono ?_;rintro e w2 ⟨rfl,T2⟩;have N2:=η (Kd.N_step N1.out (fun k hk hlt=>T2.block k hlt (fun z=>z)));have X2:=η (T.out.then T2 (fun i hi=>hi.elim));have W2:=η (HW.out.turn T2 (fun z=>z));clear T2))
   have hgb:w.heap.size≤w2.heap.size:=X2.out.size;have hg1:1<w2.heap.size:=W2.out.lt
   have hkv:kd (tokAt xs.length d r (line+z)).f2=if xs.length=8192 then 0 else kd (tokT d r).2:=by
    rw[tokAt_sort];by_cases q:xs.length=8192
    · rw[if_pos q,if_pos (by omega)];rfl
    · rw[if_neg q,if_neg (by omega)]
   have HK:∃(kv:Int) (TL:List S42),kd (tokAt xs.length d r (line+z)).f2=kv∧stop ALL=xs++stop (tokAt xs.length d r (line+z)::TL)∧(kv≠0→xs.length+1≤8192∧TL=lex txt.size false (xs.length+1) (line+z) (List.drop (tokT d r).fst.length (d::r))):=by
    refine⟨_,_,rfl,hst2.out,fun h=>⟨?_,rfl⟩⟩;rw[hkv]at h;by_cases q:xs.length=8192
    · rw[if_pos q]at h;exact absurd rfl h
    · omega
   obtain⟨kv,TL,hk1,hst3,hTL⟩:=HK
   have hTk:stop (tokAt xs.length d r (line+z)::TL)=if kv=0 then [tokAt xs.length d r (line+z)]else tokAt xs.length d r (line+z)::stop TL:=by
    rw[stop];have:=kd_eq (s:=(tokAt xs.length d r (line+z)).f2)
    have hkz:kv=0↔¬Taken (tokAt xs.length d r (line+z)):=by
     rw[← hk1]
     have h36:(tokAt xs.length d r (line+z)).f2≠36:=by
      rw[tokAt_sort];have:=tokT_sort d r;split<;>omega
     unfold Taken kd
     repeat' split
     all_goals omega
    by_cases q:kv=0
    · rw[if_pos q,if_neg (hkz.mp q)]
    · rw[if_neg q,if_pos (by by_cases h:Taken (tokAt xs.length d r (line+z));exact h;exact absurd (hkz.mpr h) q)]
   rw[hTk]at hst3
   have hcv:conv (tokAt xs.length d r (line+z))=⟨kv,B (tokT d r).1,line+z⟩:=by
    unfold conv
    rw[hk1,tokAt_text,tokAt_line]
   rw[hk1]at hkv;generalize tokAt xs.length d r (line+z)=tk at*;clear hTk hk1 hst2 FC N1 T HW;replace hst3:=η hst3;replace hTL:=η hTL;replace hcv:=η hcv;by_cases q:xs.length=8192
   · rw[if_pos q]at hkv
     have q1:((xs.length:Int)==8192)=true:=by rw[beq_iff_eq];omega
     subst hkv;replace q:=η q;go_upto_region 12 with fail
     have B3:=η (alloc_new w2 (.cells #[.int .i64 0,.string (B (tokT d r).1),.int .i64 (line+z)] 59));have N3:=η (Kd.N_alloc N2.out (.cells #[.int .i64 0,.string (B (tokT d r).1),.int .i64 (line+z)] 59));have X3:=η (X2.out.alloc (.cells #[.int .i64 0,.string (B (tokT d r).1),.int .i64 (line+z)] 59));have W3:=η (W2.out.turn ((Turn.refl (fun _=>False) w2).alloc (.cells #[.int .i64 0,.string (B (tokT d r).1),.int .i64 (line+z)] 59)) (fun z=>z));have hg3:w2.heap.size<(w2.alloc (.cells #[.int .i64 0,.string (B (tokT d r).1),.int .i64 (line+z)] 59)).heap.size:=by simp
     generalize w2.alloc (.cells #[.int .i64 0,.string (B (tokT d r).1),.int .i64 (line+z)] 59)=w3 at*;obtain⟨b0,b1,b2,bf⟩:=heap3 B3.out;go_upto_region 13 with(at_builtin;refine Kd.N_append k59 (w0:=w3) (W:=w3) w.heap.size rfl (.tmp 33) (.tmp 35) 52 59 _ 32 rfl Tryz.underlying52 info59 rfl (by decide) (by decide) (.slice A xs.length c) (xs.map conv) (conv tk) [.int .i64 0,.string (B (tokT d r).1),.int .i64 (line+z)] (fun k=>w.heap.size≤k) (fun k=>False) rfl rfl (by rw[hcv.out];exact k59_mkF _ _ _) (fun k hk=>hk.elim) (fun k hk=>by omega) N3.out (Below.refl _ _) (by omega) (by simp;omega) ?_;intro v1 w5 N5 hb5 hg5 hat5)
     have T5:Turn (fun k=>w.heap.size≤k) w3 w5:=Turn.of_grown hg5 (fun k hk=> .inl (N3.out.1 k hk));have T6:Turn (fun k=>(Value.slice A xs.length c).ownBlock=some k) w3 w5:=Turn.of_grown hg5 (fun k hk=> .inl hk);have B5:=T6.heap B3.out (fun hk=>by have:=Kd.N_lt N2.out _ hk;omega);have W5:=η (W3.out.turn T5 (fun hk=>by omega));have X5:=η (X3.out.then T5 (fun i hi=> .inr hi));clear b0 b1 b2 bf T5 T6 hb5 hg5 hat5 N3 X3 W3 B3 N2 X2 W2;obtain⟨b0,b1,b2,bf⟩:=heap3 B5;clear B5;have hst4:stop ALL=xs++[tk]:=hst3.out;have hD:=tk_done hst4 (by simp) (by rw[List.map_append];exact N5) X5.out;clear hst3 hst4 N5 W5 X5 hTL hcv;go_wp2_with fail
     go_ret;exact hD
   · rw[if_neg q]at hkv
     have q1:((xs.length:Int)==8192)=false:=by rw[beq_eq_false_iff_ne];omega
     replace q:=η q;rw[← hkv];clear hkv;by_cases kz:kv=0
     · subst kz
       go_upto_region 12 with fail
       have B3:=η (alloc_new w2 (.cells #[.int .i64 0,.string (B (tokT d r).1),.int .i64 (line+z)] 59));have N3:=η (Kd.N_alloc N2.out (.cells #[.int .i64 0,.string (B (tokT d r).1),.int .i64 (line+z)] 59));have X3:=η (X2.out.alloc (.cells #[.int .i64 0,.string (B (tokT d r).1),.int .i64 (line+z)] 59));have W3:=η (W2.out.turn ((Turn.refl (fun _=>False) w2).alloc (.cells #[.int .i64 0,.string (B (tokT d r).1),.int .i64 (line+z)] 59)) (fun z=>z));have hg3:w2.heap.size<(w2.alloc (.cells #[.int .i64 0,.string (B (tokT d r).1),.int .i64 (line+z)] 59)).heap.size:=by simp
       generalize w2.alloc (.cells #[.int .i64 0,.string (B (tokT d r).1),.int .i64 (line+z)] 59)=w3 at*;obtain⟨b0,b1,b2,bf⟩:=heap3 B3.out;go_upto_region 13 with(at_builtin;refine Kd.N_append k59 (w0:=w3) (W:=w3) w.heap.size rfl (.tmp 33) (.tmp 35) 52 59 _ 32 rfl Tryz.underlying52 info59 rfl (by decide) (by decide) (.slice A xs.length c) (xs.map conv) (conv tk) [.int .i64 0,.string (B (tokT d r).1),.int .i64 (line+z)] (fun k=>w.heap.size≤k) (fun k=>False) rfl rfl (by rw[hcv.out];exact k59_mkF _ _ _) (fun k hk=>hk.elim) (fun k hk=>by omega) N3.out (Below.refl _ _) (by omega) (by simp;omega) ?_;intro v1 w5 N5 hb5 hg5 hat5)
       have T5:Turn (fun k=>w.heap.size≤k) w3 w5:=Turn.of_grown hg5 (fun k hk=> .inl (N3.out.1 k hk));have T6:Turn (fun k=>(Value.slice A xs.length c).ownBlock=some k) w3 w5:=Turn.of_grown hg5 (fun k hk=> .inl hk);have B5:=T6.heap B3.out (fun hk=>by have:=Kd.N_lt N2.out _ hk;omega);have W5:=η (W3.out.turn T5 (fun hk=>by omega));have X5:=η (X3.out.then T5 (fun i hi=> .inr hi));clear b0 b1 b2 bf T5 T6 hb5 hg5 hat5 N3 X3 W3 B3 N2 X2 W2;obtain⟨b0,b1,b2,bf⟩:=heap3 B5;clear B5;have hst4:stop ALL=xs++[tk]:=hst3.out;have hD:=tk_done hst4 (by simp) (by rw[List.map_append];exact N5) X5.out;clear hst3 hst4 N5 W5 X5 hTL hcv;go_wp2_with fail
       go_ret;exact hD
     · replace kz:=η kz
       go_upto_region 12 with fail
       have B3:=η (alloc_new w2 (.cells #[.int .i64 kv,.string (B (tokT d r).1),.int .i64 (line+z)] 59));have N3:=η (Kd.N_alloc N2.out (.cells #[.int .i64 kv,.string (B (tokT d r).1),.int .i64 (line+z)] 59));have X3:=η (X2.out.alloc (.cells #[.int .i64 kv,.string (B (tokT d r).1),.int .i64 (line+z)] 59));have W3:=η (W2.out.turn ((Turn.refl (fun _=>False) w2).alloc (.cells #[.int .i64 kv,.string (B (tokT d r).1),.int .i64 (line+z)] 59)) (fun z=>z));have hg3:w2.heap.size<(w2.alloc (.cells #[.int .i64 kv,.string (B (tokT d r).1),.int .i64 (line+z)] 59)).heap.size:=by simp
       generalize w2.alloc (.cells #[.int .i64 kv,.string (B (tokT d r).1),.int .i64 (line+z)] 59)=w3 at*;obtain⟨b0,b1,b2,bf⟩:=heap3 B3.out;go_upto_region 13 with(at_builtin;refine Kd.N_append k59 (w0:=w3) (W:=w3) w.heap.size rfl (.tmp 33) (.tmp 35) 52 59 _ 32 rfl Tryz.underlying52 info59 rfl (by decide) (by decide) (.slice A xs.length c) (xs.map conv) (conv tk) [.int .i64 kv,.string (B (tokT d r).1),.int .i64 (line+z)] (fun k=>w.heap.size≤k) (fun k=>False) rfl rfl (by rw[hcv.out];exact k59_mkF _ _ _) (fun k hk=>hk.elim) (fun k hk=>by omega) N3.out (Below.refl _ _) (by omega) (by simp;omega) ?_;intro v1 w5 N5 hb5 hg5 hat5)
       have T5:Turn (fun k=>w.heap.size≤k) w3 w5:=Turn.of_grown hg5 (fun k hk=> .inl (N3.out.1 k hk));have T6:Turn (fun k=>(Value.slice A xs.length c).ownBlock=some k) w3 w5:=Turn.of_grown hg5 (fun k hk=> .inl hk);have B5:=T6.heap B3.out (fun hk=>by have:=Kd.N_lt N2.out _ hk;omega);have W5:=η (W3.out.turn T5 (fun hk=>by omega));have X5:=η (X3.out.then T5 (fun i hi=> .inr hi));clear b0 b1 b2 bf T5 T6 hb5 hg5 hat5 N3 X3 W3 B3 N2 X2 W2;obtain⟨b0,b1,b2,bf⟩:=heap3 B5;clear B5;have kz:=kz.out;have hst4:stop ALL=xs++tk::stop TL:=by have:=hst3.out;rw[if_neg kz]at this;exact this
       obtain⟨hx9,hTL2⟩:=hTL.out kz;have hbs:(((B (tokT d r).1).size:Nat):Int)≤(X.size:Int):=by have h1:=toList_len (B (tokT d r).1);rw[B_toList]at h1;have:=htl.out;have:=hXl.out;omega
       have hbl:(B (tokT d r).1).size=(tokT d r).1.length:=by rw[← toList_len,B_toList]
       have hb0:(0:Int)≤(((B (tokT d r).1).size:Nat):Int):=by omega
       have kz1:(kv==0)=false:=by rw[beq_eq_false_iff_ne];exact kz
       have hXt:(X.extract (B (tokT d r).1).size X.size).toList=List.drop (tokT d r).1.length (d::r):=by rw[ext_drop,hbl,hX0.out]
       have hX2:(X.extract (B (tokT d r).1).size X.size).size=X.size-(tokT d r).1.length:=by rw[← toList_len,hXt,List.length_drop,List.length_cons,hXl.out]
       obtain⟨A',c',hv1⟩:=Kd.N_slice N5;have hv2:v1= .slice A' (xs.length+1) c':=by rw[hv1];simp
       clear hv1;subst hv2
       have hTL3:stop ALL=(xs++[tk])++stop (lex ((X.extract (B (tokT d r).1).size X.size).size+1) false (xs++[tk]).length (line+z) (X.extract (B (tokT d r).1).size X.size).toList):=by
        rw[hst4,hTL2,hXt,hX2];have h1:=htl.out;have h2:=hXl.out;have h3:=hts.out;rw[lex_fuel txt.size (X.size-(tokT d r).1.length+1) false (xs.length+1) (line+z) (List.drop (tokT d r).1.length (d::r)) (by rw[List.length_drop,List.length_cons];omega) (by rw[List.length_drop,List.length_cons];omega)];simp
       have hrel2:∀kq,(X.extract (B (tokT d r).1).size X.size).size<kq→TkLoop ALL w kq (.string (X.extract (B (tokT d r).1).size X.size)) (.slice A' (xs.length+1) c') (.int .i64 (line+z)) w5:=fun kq hk=>by
        have h1:=htl.out;have h2:=hXl.out;have h3:=hts.out;have h4:=hl1.out;have h5:=hx1.out;refine⟨_,xs++[tk],A',c',line+z,rfl,by simp,rfl,hk,hTL3,hz1,?_,?_,by simp;omega,?_,X5.out,W5.out⟩
        · rw[hX2]
          have h6:=hsm.out;omega
        · rw[hX2];simp;omega
        · rw[List.map_append]
          have e:(xs++[tk]).length=xs.length+1:=by simp
          rw[e];exact N5
       have hmz:(X.extract (B (tokT d r).1).size X.size).size+1<gk:=by have h1:=htl.out;have h2:=hXl.out;have h3:=hts.out;rw[hX2];omega
       clear hst4 hTL3 hXt hX2 hTL2 hTL hcv hbl hst3 N5 X5 W5;replace hmz:=η hmz;go_wp2_with fail
       go_roundg ((X.extract (B (tokT d r).1).size X.size).size+1)
       case measure=>exact hmz.out
       case rel=>exact hrel2 _ (Nat.lt_succ_self _)
open YtbemddpmohoooaaGreatDoorW
abbrev PrgO:=Except (Int×Int) ((List Bs×List S62)×List S42)
theorem stop_len:∀(k:Nat) (b:Bool) (n:Nat) (line:Int) (l:List UInt8),(stop (lex k b n line l)).length≤(8192-n)+1
 |0,b,n,line,l=>by rw[lex];unfold stop;split<;>simp[stop]
 |k+1,b,n,line,l=>by
  rw[lex];split
  · unfold stop;split<;>simp[stop]
  · rename_i c r _
    rw[stop];split
    · rename_i ht
      have hn:n<8192:=by
       by_cases q:n<8192
       · exact q
       · have e:=tokAt_sort n c r (line+nl (l.take (blk b l)))
         rw[if_pos (by omega)]at e;unfold Taken at ht;rw[e]at ht;simp at ht
      have ih:=stop_len k false (n+1) (line+nl (l.take (blk b l))) ((c::r).drop (tokT c r).1.length);rw[List.length_cons];omega
    · simp
inductive FR:PrgO→Bs→Int→Int→Prop
 |ok (ms:List Bs) (ss:List S62) (l':List S42) (ls:Nat→List (List UInt8)) (n:Nat):(∀x∈ms,NameS x)→ms.length≤8000000→SXs ss ls n→n≤8000000→FR (.ok ((ms,ss),l')) (B (mapsL ms++flat (ls 0))) 0 0
 |err (a b:Int):b≠0→FR (.error (a,b)) e0 a b
theorem Turn.low {w w':World} (h:Turn (fun _=>False) w w'):Below w.heap.size w w':=h.below (fun _ z=>z.elim) (Nat.le_refl _)
theorem dformat_call {o:PrgO} {t:Bs} {a b:Int} (h:FR o t a b) (s:Bs) (w:World) (PC:Calls Tryz.prog 6 #[.string s] w (ParsePost w o)):
 Calls Tryz.prog 4 #[.string s] w fun e w'=>e= .returned (.tuple #[.string t,.int .i64 a,.int .i64 b])∧Below w.heap.size w w':=by
 have P0:=η PC;clear PC;cases h with
 |err a b hb=>
  have c2:(b==0)=false:=beq_eq_false_iff_ne.mpr hb;have c3:(b !=0)=true:=bne_iff_ne.mpr hb;clear hb;go_enter Tryz.func4,Tryz.ntmps4;go_upto_region 2 with(first|(go_at_call 6;refine P0.out.mono ?_;rintro e_ w1 ⟨T1,rfl⟩;have B1:=η T1.low;clear T1))
  have B2:=η (Below.alloc B1.out B1.out.size (.cells #[.slice none 0 0,.slice none 0 0] 31));generalize w1.alloc (.cells #[.slice none 0 0,.slice none 0 0] 31)=w2 at*;go_wp2_with fail
  refine bodyPost_ret (results_tmp3 rfl _ _ _) rfl ?_;exact⟨rfl,B2.out⟩
 |ok ms ss l' ls n hms hml hss hn=>
  go_enter Tryz.func4,Tryz.ntmps4;go_upto_region 2 with(first|(go_at_call 6;refine P0.out.mono ?_;rintro e_ w1 ⟨T1,A,c,A',c',rfl,l1,F1,l2,F2⟩;have B1:=η T1.low;clear T1))
  have B2:=η (Below.alloc B1.out B1.out.size (.cells #[.slice A ms.length c,.slice A' ss.length c'] 31));have H2:=η (alloc_new w1 (.cells #[.slice A ms.length c,.slice A' ss.length c'] 31));have C2:=Kd.F_now (Kd.F_alloc F1 (.cells #[.slice A ms.length c,.slice A' ss.length c'] 31));have G2:=Kd.F_mono (Kd.F_bound (Kd.F_alloc F2 (.cells #[.slice A ms.length c,.slice A' ss.length c'] 31))) (fun k hk=>hk.2);have D:=η (dprint_call ms hms hml ss ls n hss hn _ A c A' c' l1 C2 l2 G2);clear C2 G2 F1 F2 hms hss;generalize w1.alloc (.cells #[.slice A ms.length c,.slice A' ss.length c'] 31)=w2 at*;obtain⟨e0,e1,ef⟩:=heap_two H2.out;go_wp2_with(first|(go_at_call 7;refine D.out.mono ?_;rintro e_ w3 ⟨rfl,H3⟩;have B3:=η (below_step B2.out H3);clear H3))
  refine bodyPost_ret (results_tmp3 rfl _ _ _) rfl ?_;exact⟨rfl,B3.out⟩
end Go.Proofs.YtbemddpmohoooaaGreatDoor
