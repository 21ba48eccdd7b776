import Derived.Test.YtbemddpmohoooaaGreatDoorQ28
set_option linter.unusedVariables false
set_option linter.unusedSimpArgs false
set_option linter.unusedSectionVars false
set_option maxHeartbeats 128000000
set_option maxRecDepth 100000
namespace Go.Proofs.YtbemddpmohoooaaGreatDoor
open PShelfFormats RowKit YtbemddpmohoooaaGreatDoorW YtbemddpmohoooaaGreatDoorW.PrintWords
def flat:List (List UInt8)→List UInt8
 |[]=>[]
 |l::r=>l++[10]++flat r
theorem flat_app (a b:List (List UInt8)):flat (a++b)=flat a++flat b:=by
 induction a with
 |nil=>rfl
 |cons x r ih=>simp[flat,ih]
def mapsL:List Bs→List UInt8
 |[]=>[]
 |m::r=>[109,97,112,32]++m.toList++[59,10]++mapsL r
theorem mapsL_app (a b:List Bs):mapsL (a++b)=mapsL a++mapsL b:=by
 induction a with
 |nil=>rfl
 |cons x r ih=>simp[mapsL,ih]
theorem mapsL_len (ms:List Bs) (h:∀x∈ms,NameS x):(mapsL ms).length≤ms.length*1048600:=by
 induction ms with
 |nil=>simp[mapsL]
 |cons x r ih=>
  have h1:=(h x List.mem_cons_self).sz;have h2:=ih (fun y hy=>h y (List.mem_cons_of_mem _ hy));simp only[mapsL,List.length_append,List.length_cons,List.length_nil,toList_len];omega
theorem flats:∀(N:Nat),(∀s ls m,SX s ls m→m≤N→∀d,(flat (ls d)).length≤m*1049000)∧(∀s h ls m,CX s h ls m→m≤N→∀d,(flat (ls d)).length+h.length+20≤m*1049000)∧(∀l ls n,SXs l ls n→n≤N→∀d,(flat (ls d)).length≤n*1049000)
 |0=>by
  refine⟨fun s ls m h hm=> ?_,fun s h ls m hc hm=> ?_,fun l ls n h hn=> ?_⟩
  · have:=sx_pos h;omega
  · cases hc<;>omega
  · cases h with
    |nil=>intro d;simp[flat]
    |cons s ls m r rs n h1 h2=>have:=sx_pos h1;omega
 |N+1=>by
  obtain⟨i1,i2,i3⟩:=flats N
  have C:∀s h ls m,CX s h ls m→m≤N+1→∀d,(flat (ls d)).length+h.length+20≤m*1049000:=by
   intro s h ls m hc hm;cases hc with
   |one x t b bs m n hx hb=>intro d;have:=i3 _ _ _ hb (by omega) (d+1);have:=ex_pos hx;have:=ex_len hx;have:=tab_len d;simp[flat_app,flat,hIf];omega
   |els x t b bs e es m n k hx hb _ _ he=>intro d;have:=i3 _ _ _ hb (by omega) (d+1);have:=i3 _ _ _ he (by omega) (d+1);have:=ex_pos hx;have:=ex_len hx;have:=tab_len d;simp[flat_app,flat,hIf];omega
   |eif x t b bs c h ls m n k hx hb hc=>intro d;have:=i3 _ _ _ hb (by omega) (d+1);have:=i2 _ _ _ _ hc (by omega) d;have:=ex_pos hx;have:=ex_len hx;have:=tab_len d;simp[flat_app,flat,hIf];omega
  have S:∀s ls m,SX s ls m→m≤N+1→∀d,(flat (ls d)).length≤m*1049000:=by
   intro s ls m h hm;cases h with
   |set s x t m hs hx=>intro d;have:=ex_len hx;have:=hs.sz;have:=tab_len d;simp[flat,toList_len];omega
   |put s x y t u m n hs hx hy=>intro d;have:=ex_len hx;have:=ex_len hy;have:=hs.sz;have:=tab_len d;simp[flat,toList_len];omega
   |del s x t m hs hx=>intro d;have:=ex_len hx;have:=hs.sz;have:=tab_len d;simp[flat,toList_len];omega
   |clr s hs=>intro d;have:=hs.sz;have:=tab_len d;simp[flat,toList_len];omega
   |prt xs ts m hx=>intro d;have:=exs_len hx;have:=tab_len d;simp[flat];omega
   |ifs s h ls m hc=>intro d;have:=C _ _ _ _ hc hm d;have:=tab_len d;simp[flat];omega
   |whl x t b bs m n hx hb=>intro d;have:=i3 _ _ _ hb (by omega) (d+1);have:=ex_pos hx;have:=ex_len hx;have:=tab_len d;simp[flat_app,flat];omega
   |rng s a c b bs n hs ha hc hb=>intro d;have:=i3 _ _ _ hb (by omega) (d+1);have:=hs.sz;have:=ha.sz;have:=hc.sz;have:=tab_len d;simp[flat_app,flat,toList_len];omega
   |brk=>intro d;have:=tab_len d;simp[flat];omega
   |cnt=>intro d;have:=tab_len d;simp[flat];omega
  refine⟨S,C,?_⟩;intro l;induction l with
  |nil=>intro ls n h hn d;cases h;simp[flat]
  |cons s r ih=>
   intro ls n h hn d;cases h with
   |cons s ls m r rs n h1 h2=>have:=S _ _ _ h1 (by omega) d;have:=ih _ _ h2 (by omega) d;simp only[flat_app,List.length_append];omega
theorem flat_len {l:List S62} {ls:Nat→List (List UInt8)} {n:Nat} (h:SXs l ls n) (d:Nat):(flat (ls d)).length≤n*1049000:=(flats n).2.2 _ _ _ h (Nat.le_refl _) d
theorem flat_mem {ls:List (List UInt8)} {l:List UInt8} (h:l∈ls):l.length≤(flat ls).length:=by
 induction ls with
 |nil=>simp at h
 |cons a r ih=>
  simp only[flat,List.length_append,List.length_cons,List.length_nil];rcases List.mem_cons.mp h with rfl|h
  · omega
  · have:=ih h;omega
def ints (l:List UInt8):List Int:=l.map fun b=>(b.toNat:Int)
theorem ints_app (a b:List UInt8):ints (a++b)=ints a++ints b:=by simp[ints]
theorem ints_len (l:List UInt8):(ints l).length=l.length:=by simp[ints]
theorem bytes_F (W:World) (s:Bs) (hs:s.size≤9223372036854775807):Kd.F (Kd.int .u8) (Lib.bytesWorld W 5 s) (fun k=>k=W.heap.size) (some ⟨W.heap.size,0,none⟩) (ints s.toList).length (ints s.toList):=by
 intro W' hW;have hl:(ints s.toList).length=s.size:=by rw[ints_len,toList_len]
 refine⟨rfl,by omega,fun hp=>⟨_,rfl,fun i x hx=>⟨[.int .u8 x],rfl,rfl,fun j u hu=> ?_⟩⟩⟩;rcases j with _|j
 · obtain rfl:=Option.some.inj hu
   rw[addr_add];have e:(Kd.int .u8).sz=1:=rfl;rw[e,Nat.mul_one,Nat.zero_add,Nat.add_zero];have hi:=(List.getElem?_eq_some_iff.mp hx).1;have hb:=hW W.heap.size rfl (by rw[Lib.bytesWorld_size];omega);rw[cell_same hb,Lib.bytesWorld_cell W 5 s i (by omega)];simp only[ints,List.getElem?_map]at hx;obtain⟨b,hb1,hb2⟩:=Option.map_eq_some_iff.mp hx;rw[← hb2,← Lib.toList_data,List.getD_eq_getElem?_getD,hb1];rfl
 · simp at hu
theorem conv_bytes (s:Bs) (W:World):(convert 9 46 (.string s)).run Tryz.prog W= .ok (.slice (some ⟨W.heap.size,0,none⟩) s.size (grownCap W s.size 0 5)) (Lib.bytesWorld W 5 s):=print_bytes (P:=Tryz.prog) 9 46 5 Tryz.underlying9 Tryz.underlying46 Tryz.underlying5 s W
theorem conv_back {W:World} {base:Nat} {ok:Nat→Prop} {A:Option Addr} {c:Nat} {o:List UInt8} (h:Kd.N (Kd.int .u8) 5 W base ok (.slice A (ints o).length c) (ints o)):(convert 46 9 (.slice A (ints o).length c)).run Tryz.prog W= .ok (.string (B o)) W:=by
 obtain⟨hn,_,hC⟩:=Kd.N_reads' h;rcases Nat.eq_zero_or_pos o.length with h0|hp
 · have:o=[]:=List.length_eq_zero_iff.mp h0
   subst this;have e:(ints []).length=0:=rfl;rw[e];cases A with
   |none=>
    have hz:=Kd.N_slice h;rw[run_convert_bytes_string (P:=Tryz.prog) W 46 9 5 none 0 c Tryz.underlying46 Tryz.underlying5 Tryz.underlying9];rfl
   |some ad=>exact run_convert_bytes_back W 46 9 5 ad c [] Tryz.underlying46 Tryz.underlying5 Tryz.underlying9 (fun j hj=>absurd hj (Nat.not_lt_zero j))
 · obtain⟨ad,e,f⟩:=hC.2.2 (by rw[ints_len];exact hp)
   subst e;rw[ints_len];refine run_convert_bytes_back W 46 9 5 ad c o Tryz.underlying46 Tryz.underlying5 Tryz.underlying9 (fun j hj=> ?_);obtain⟨cs,hl,hK,hc⟩:=f j ((o[j].toNat:Nat):Int) (by simp[ints,hj]);obtain rfl:cs=[.int .u8 ((o[j].toNat:Nat):Int)]:=hK;have:=hc 0 _ rfl;have e:(Kd.int .u8).sz=1:=rfl;rw[e,Nat.mul_one,Nat.add_zero]at this;exact this
def L1Loop (w4:World) (ms:List Bs) (kq:Nat) (v3 v4:Value) (W:World):Prop:=∃(j:Nat) (o:List UInt8) (A:Option Addr) (c:Nat),v3= .slice A (ints o).length c∧v4= .int .i64 (j:Int)∧Kd.N (Kd.int .u8) 5 W w4.heap.size (fun k=>w4.heap.size≤k) (.slice A (ints o).length c) (ints o)∧o=mapsL (ms.take j)∧j≤ms.length∧ms.length-j<kq∧Below w4.heap.size w4 W
def L2Loop (w4:World) (A5:Option Addr) (c5:Nat) (lb:List Bs) (h0:List UInt8) (ls:List (List UInt8)) (kq:Nat) (v3 v6:Value) (W:World):Prop:=∃(j:Nat) (o:List UInt8) (A:Option Addr) (c:Nat),v3= .slice A (ints o).length c∧v6= .int .i64 (j:Int)∧Kd.N (Kd.int .u8) 5 W w4.heap.size (fun k=>w4.heap.size≤k) (.slice A (ints o).length c) (ints o)∧o=h0++flat (ls.take j)∧j≤ls.length∧ls.length-j<kq∧Below w4.heap.size w4 W∧Kd.N Kd.string 9 W w4.heap.size (fun k=>some k=(Value.slice A5 lb.length c5).ownBlock) (.slice A5 lb.length c5) lb
theorem take_le (ms:List Bs) (j:Nat):(mapsL (ms.take j)).length≤(mapsL ms).length:=by
 have:=mapsL_app (ms.take j) (ms.drop j);rw[List.take_append_drop]at this;rw[this,List.length_append];omega
theorem flat_le (ls:List (List UInt8)) (j:Nat):(flat (ls.take j)).length≤(flat ls).length:=by
 have:=flat_app (ls.take j) (ls.drop j);rw[List.take_append_drop]at this;rw[this,List.length_append];omega
theorem dprint_call (ms:List Bs) (hms:∀x∈ms,NameS x) (hml:ms.length≤8000000) (ss:List S62) (ls:Nat→List (List UInt8)) (n:Nat) (h:SXs ss ls n) (hn:n≤8000000) (w:World) (A:Option Addr) (c:Nat) (A':Option Addr) (c':Nat) (hlc:ms.length≤c) (hC:Kd.C Kd.string w A ms.length ms) (hl:ss.length≤c') (hF:Kd.F k62 w (fun k=>k<w.heap.size) A' ss.length ss):
 Calls Tryz.prog 7 #[.agg #[.slice A ms.length c,.slice A' ss.length c']] w fun e w'=>e= .returned (.string (B (mapsL ms++flat (ls 0))))∧Below w.heap.size w w':=by
 have FC:=η (fun(W:World) (H:Below w.heap.size w W)=>formed_call ms hms hml ss ls n h hn W A c A' c' hlc (Kd.C_below hC H) hl (Kd.F_mono (Kd.F_step hF (fun k hk _=>H.block k hk)) (fun k hk=>Nat.lt_of_lt_of_le hk H.size)));have LC:=η (fun(W:World) (H:Below w.heap.size w W)=>dlines_call h hn hl (Kd.F_now (Kd.F_step hF (fun k hk _=>H.block k hk))));have hmb:=mapsL_len ms hms;have hfb:=flat_len h 0;have hlb:=sxs_len h 0;generalize ls 0=lines at*;have hfb2:(mapsL ms).length+(flat lines).length≤17000000000000:=by omega
 replace hfb2:=η hfb2;replace hms:=η hms;replace hC:=η hC;clear hmb hfb h hF;go_enter Tryz.func7,Tryz.ntmps7;go_upto_region 1 with(first|((with_reducible refine gate_dst (N:=1) rfl ?_);refine bxE (N:=1) (cs:=#[.slice A ms.length c,.slice A' ss.length c']) (t:=31) ?_;intro g hg w4 hbox hb))
 have SC:=η (show ∀W',Below w4.heap.size w4 W'→W'.cell? ⟨w.heap.size,0,none⟩=some (.slice A ms.length c)∧W'.cell? ⟨w.heap.size,1,none⟩=some (.slice A' ss.length c') from fun W' H=>by
  obtain⟨q0,q1,qf⟩:=heap_two ((Turn.new H).heap hbox (fun z=>z));rw[hg]at q0 q1;exact⟨q0,q1⟩)
 subst hg;have B4:=η hb;clear hbox hb;obtain⟨q0,q1⟩:=SC.out w4 (Below.refl _ _);have F4:=η (FC.out w4 B4.out);go_upto_region 5 with(first|(go_at_call 14;refine F4.out.mono ?_;rintro e_ w5 ⟨rfl,H5⟩;have B5:=η H5;clear H5))
 clear q0 q1 F4 FC;go_loopg [3,4] (ms.length+1) (fun kq v3 v4 W=>L1Loop w4 ms kq v3 v4 W)
 case atStart=>exact⟨0,[],none,0,rfl,rfl,Kd.N_nil _ _ _ _ _,rfl,Nat.zero_le _,by omega,B5.out⟩
 case round=>
  obtain⟨j,o,A1,cp,rfl,rfl,N1,ho,hj,hkq,HB⟩:=hrel;obtain⟨q0,q1⟩:=SC.out wr HB;replace HB:=η HB;replace N1:=η N1;by_cases hlt:j<ms.length
  · have hltI:(j:Int)<(ms.length:Int):=by omega
    have hp0:(0:Int)≤(j:Int):=by omega
    have hp1:(j:Int)<1000000000:=by omega
    obtain⟨y,hy⟩:∃y,ms[j]? =some y:=⟨_,List.getElem?_eq_getElem hlt⟩;have hyn:=(hms.out y (List.mem_of_getElem? hy)).sz;obtain⟨ad,eA,hc⟩:=str_c hC.out (j:Int) hp0 y (by rw[Int.toNat_natCast];exact hy);obtain rfl:=eA;have z0:=hc wr (below_step B4.out HB.out);have y1:¬9223372036854775807<4+y.size:=no_big (by omega);have y2:¬9223372036854775807<4+y.size+2:=no_big (by omega);obtain⟨tx,htx⟩:∃tx,tx=(⟨#[109,97,112,32]⟩:Bs)++y++(⟨#[59,10]⟩:Bs):=⟨_,rfl⟩;have htl:tx.toList=[109,97,112,32]++y.toList++[59,10]:=by rw[htx];simp[toList_app,lit_toList]
    have hts:tx.size=4+y.size+2:=by rw[← toList_len,htl];simp[toList_len];omega
    obtain⟨tn,htn⟩:∃tn,tn=(ints tx.toList).length:=⟨_,rfl⟩;have kb:∀W:World,(convert 9 46 (.string ((⟨#[109,97,112,32]⟩:Bs)++y++(⟨#[59,10]⟩:Bs)))).run Tryz.prog W= .ok (.slice (some ⟨W.heap.size,0,none⟩) tn (grownCap W tn 0 5)) (Lib.bytesWorld W 5 tx):=fun W=>by rw[htn,ints_len,toList_len,← htx];exact conv_bytes tx W
    have FB:=η (show Kd.F (Kd.int .u8) (Lib.bytesWorld wr 5 tx) (fun k=>k=wr.heap.size) (some ⟨wr.heap.size,0,none⟩) tn (ints tx.toList) by rw[htn];exact bytes_F wr tx (by omega));have HBB:=η (bytes_below HB.out HB.out.size 5 tx);have NB:=η (Kd.N_below N1.out (show Below wr.heap.size wr (Lib.bytesWorld wr 5 tx) from bytes_below (Below.refl _ _) (Nat.le_refl _) 5 tx));have hsz5:=η (Lib.bytesWorld_size wr 5 tx);have htake:mapsL (ms.take (j+1))=o++tx.toList:=by rw[List.take_add_one,hy,Option.toList_some,mapsL_app,← ho,htl];simp[mapsL]
    have hoL:(ints o).length+tn≤140000000000000:=by
     have h1:=take_le ms (j+1);rw[htake,List.length_append]at h1;have:=hfb2.out;rw[htn,ints_len,ints_len];omega
    have REL:=η (show ∀(A':Option Addr) (c':Nat) (W:World),Kd.N (Kd.int .u8) 5 W w4.heap.size (fun k=>w4.heap.size≤k) (.slice A' (ints o++ints tx.toList).length c') (ints o++ints tx.toList)→Below w4.heap.size w4 W→L1Loop w4 ms (ms.length-j) (.slice A' (ints o++ints tx.toList).length c') (.int .i64 ((j:Int)+1)) W from
     fun A' c' W q1 q2=>⟨j+1,o++tx.toList,A',c',by rw[ints_app],by simp,by rw[ints_app];exact q1,htake.symm,by omega,by omega,q2⟩)
    have hms2:ms.length-j<gk:=by omega
    clear hc hy htx htl hts htake ho hyn hj;replace htn:=η htn;generalize ints o=xs at*;generalize hys:ints tx.toList=ys at*;replace hys:=η hys;generalize(j:Int)=pl at*;go_wp2_with(at_builtin;refine Kd.N_append_rows (Kd.int .u8) (w0:=w4) (W:=Lib.bytesWorld wr 5 tx) w4.heap.size rfl (.tmp 17) (.tmp 25) 46 5 (.int .u8 0) 1 rfl Tryz.underlying46 info5 rfl (by decide) (by decide) (.slice A1 xs.length cp) xs ys (some ⟨wr.heap.size,0,none⟩) tn (grownCap wr tn 0 5) (fun k=>w4.heap.size≤k) (fun k=>k=wr.heap.size) rfl rfl NB.out FB.out (fun k hk=>⟨by have:=HB.out.size;omega,fun q=>by have:=Kd.N_lt N1.out k q.symm;omega⟩) (fun k hk=>by have:=HBB.out.size;omega) HBB.out HBB.out.size (by omega) ?_;intro v1 w5 N5 hb5 hg5 hat5;obtain⟨A5',c5',hv1⟩:=Kd.N_slice N5;subst hv1;have N6:=η N5;have HB6:=η hb5;clear N5 hb5 hg5 hat5)
    go_roundg (ms.length-j)
    case measure=>exact hms2
    case rel=>
     have q:=REL.out _ _ _ N6.out HB6.out;simpa using q
  · have hlt2:¬(j:Int)<(ms.length:Int):=by omega
    have hje:j=ms.length:=by omega
    rw[hje,List.take_length]at ho;have L5:=η (LC.out wr (below_step B4.out HB.out));unfold LPost at L5;obtain⟨lb,hlbd⟩:∃lb,lb=lines.map B:=⟨_,rfl⟩;rw[← hlbd]at L5;have hll:lb.length=lines.length:=by rw[hlbd,List.length_map]
    have hlbs:lb.length≤16000000:=by omega
    have L2:=η (show ∀(wl:World) A5 c5,Below wr.heap.size wr wl→Kd.N Kd.string 9 wl wr.heap.size (fun k=>wr.heap.size≤k) (.slice A5 lb.length c5) lb→L2Loop w4 A5 c5 lb (mapsL ms) lines (lb.length+1) (.slice A1 (ints o).length cp) (.int .i64 0) wl from fun wl A5 c5 H NL=>⟨0,o,A1,cp,rfl,rfl,Kd.N_below N1.out H,by rw[ho];simp[flat],Nat.zero_le _,by omega,below_step HB.out H,N_tight (Kd.N_lower NL HB.out.size)⟩);have hwo:=η (below_step B4.out HB.out);replace hlbd:=η hlbd;replace hll:=η hll;clear hje ho hj hkq N1 HB LC hlb;obtain⟨wo,rfl⟩:∃wo:World,wo=wr:=⟨_,rfl⟩;generalize ints o=xs0 at*;go_upto_region 10 with(first|(go_at_call 15;refine L5.out.mono ?_;rintro e_ wl ⟨A5,c5,rfl,N5,H5⟩;have NL:=η N5;have HW:=η H5;clear N5 H5))
    have L20:=η (L2.out wl A5 c5 HW.out NL.out);clear q0 q1 L5 L2 hlt hlt2;go_loopg [3,6] (lb.length+1) (fun kq v3 v6 W=>L2Loop w4 A5 c5 lb (mapsL ms) lines kq v3 v6 W)
    case atStart=>exact L20.out
    case round=>
     clear L20;obtain⟨j,o,A1,cp,rfl,rfl,N1,ho,hj,hkq,HB,HL⟩:=hrel;replace HB:=η HB;replace HL:=η HL;replace N1:=η N1;have hlln:=hll.out;by_cases hlt:j<lb.length
     · have hltI:(j:Int)<(lb.length:Int):=by omega
       have hp0:(0:Int)≤(j:Int):=by omega
       have hp1:(j:Int)<1000000000:=by omega
       obtain⟨g5,cc5,hv5,hg5,hg5b,cells5,hcells5⟩:=Kd.N_form HL.out (by omega);obtain⟨hv5a,hv5c⟩:A5=some ⟨g5,0,none⟩∧c5=cc5:=by injection hv5 with z1 z2 z3;exact⟨z1,z3⟩
       subst hv5a;subst hv5c;obtain⟨l,hl1⟩:∃l,lines[j]? =some l:=⟨_,List.getElem?_eq_getElem (by omega)⟩;have hlm:=flat_mem (List.mem_of_getElem? hl1)
       have z0:wr.cell? ⟨g5,(j:Int).toNat,none⟩=some (.string (B l)):=by
        have q:=str_at HL.out j (by omega)
        have e:lb[j]=B l:=by
         have:lb[j]? =some (B l):=by rw[hlbd.out,List.getElem?_map,hl1];rfl
         rw[List.getElem?_eq_getElem hlt]at this;exact Option.some.inj this
        rw[e]at q;exact q
       have hb2:=hfb2.out;have y1:¬9223372036854775807<(B l).size+1:=no_big (by rw[B_size];omega);obtain⟨tx,htx⟩:∃tx,tx=B l++(⟨#[10]⟩:Bs):=⟨_,rfl⟩;have htl:tx.toList=l++[10]:=by rw[htx];simp[toList_app,lit_toList,B_toList]
       have hts:tx.size=l.length+1:=by rw[← toList_len,htl];simp
       obtain⟨tn,htn⟩:∃tn,tn=(ints tx.toList).length:=⟨_,rfl⟩;have kb:∀W:World,(convert 9 46 (.string (B l++(⟨#[10]⟩:Bs)))).run Tryz.prog W= .ok (.slice (some ⟨W.heap.size,0,none⟩) tn (grownCap W tn 0 5)) (Lib.bytesWorld W 5 tx):=fun W=>by rw[htn,ints_len,toList_len,← htx];exact conv_bytes tx W
       have FB:=η (show Kd.F (Kd.int .u8) (Lib.bytesWorld wr 5 tx) (fun k=>k=wr.heap.size) (some ⟨wr.heap.size,0,none⟩) tn (ints tx.toList) by rw[htn];exact bytes_F wr tx (by omega));have HBB:=η (bytes_below HB.out HB.out.size 5 tx);have HLB:=η (Kd.N_below HL.out (show Below wr.heap.size wr (Lib.bytesWorld wr 5 tx) from bytes_below (Below.refl _ _) (Nat.le_refl _) 5 tx));have hc9:=η (show(Lib.bytesWorld wr 5 tx).heap[g5]? =some (.cells cells5 9 (0,0)) from(Lib.bytesWorld_at_old wr 5 tx g5 hg5b).trans hcells5);have NB:=η (Kd.N_below N1.out (show Below wr.heap.size wr (Lib.bytesWorld wr 5 tx) from bytes_below (Below.refl _ _) (Nat.le_refl _) 5 tx));have htake:mapsL ms++flat (lines.take (j+1))=o++tx.toList:=by rw[List.take_add_one,hl1,Option.toList_some,flat_app,← List.append_assoc,← ho,htl];simp[flat]
       have hoL:(ints o).length+tn≤140000000000000:=by
        have h1:=flat_le lines (j+1);have h2:=congrArg List.length htake;rw[List.length_append,List.length_append]at h2;rw[htn,ints_len,ints_len];omega
       have hA9:=η (show some g5≠(Value.slice A1 (ints o).length cp).ownBlock from Kd.N_ne NB.out hc9.out (by decide))
       have REL:=η (show ∀(A':Option Addr) (c':Nat) (W:World),Kd.N (Kd.int .u8) 5 W w4.heap.size (fun k=>w4.heap.size≤k) (.slice A' (ints o++ints tx.toList).length c') (ints o++ints tx.toList)→Below w4.heap.size w4 W→(Lib.bytesWorld wr 5 tx).grownBy W (Value.slice A1 (ints o).length cp).ownBlock→L2Loop w4 (some ⟨g5,0,none⟩) c5 lb (mapsL ms) lines (lb.length-j) (.slice A' (ints o++ints tx.toList).length c') (.int .i64 ((j:Int)+1)) W from
        fun A' c' W q1 q2 q3=>⟨j+1,o++tx.toList,A',c',by rw[ints_app],by simp,by rw[ints_app];exact q1,htake.symm,by omega,by omega,q2,Kd.N_grown HLB.out q3 (fun k hk=>by rw[show k=g5 by have z:some k=some g5:=hk;injection z];exact hA9.out)⟩)
       have hms2:lb.length-j<gk:=by omega
       clear htx htl hts htake ho hj hlm hl1 hlln hb2 hcells5 hv5 hA9;replace htn:=η htn;generalize ints o=xs at*;generalize hys:ints tx.toList=ys at*;replace hys:=η hys;generalize(j:Int)=pl at*;go_wp2_with(at_builtin;refine Kd.N_append_rows (Kd.int .u8) (w0:=w4) (W:=Lib.bytesWorld wr 5 tx) w4.heap.size rfl (.tmp 36) (.tmp 42) 46 5 (.int .u8 0) 1 rfl Tryz.underlying46 info5 rfl (by decide) (by decide) (.slice A1 xs.length cp) xs ys (some ⟨wr.heap.size,0,none⟩) tn (grownCap wr tn 0 5) (fun k=>w4.heap.size≤k) (fun k=>k=wr.heap.size) rfl rfl NB.out FB.out (fun k hk=>⟨by have:=HB.out.size;omega,fun q=>by have:=Kd.N_lt N1.out k q.symm;omega⟩) (fun k hk=>by have:=HBB.out.size;omega) HBB.out HBB.out.size (by omega) ?_;intro v1 w5 N5 hb5 hg5 hat5;obtain⟨A5',c5',hv1⟩:=Kd.N_slice N5;subst hv1;have N6:=η N5;have HB6:=η hb5;have HG6:=η hg5;clear N5 hb5 hg5 hat5)
       go_roundg (lb.length-j)
       case measure=>exact hms2
       case rel=>
        have q:=REL.out _ _ _ N6.out HB6.out HG6.out;simpa using q
     · have hlt2:¬(j:Int)<(lb.length:Int):=by omega
       have hje:j=lines.length:=by omega
       rw[hje,List.take_length]at ho;have kc:∀W:World,Below wr.heap.size wr W→(convert 46 9 (.slice A1 (ints o).length cp)).run Tryz.prog W= .ok (.string (B o)) W:=fun W H=>conv_back (Kd.N_below N1.out H)
       have kc1:=kc wr (Below.refl _ _);have HF:=η (below_step B4.out HB.out);replace ho:=η ho;clear kc hje hj hkq HL N1;generalize ints o=xs at*;go_wp2_with fail
       go_ret;exact⟨by rw[← ho.out];rfl,HF.out⟩
end Go.Proofs.YtbemddpmohoooaaGreatDoor
