import Derived.Test.YtbemddpmohoooaaGreatDoorQ18
import Derived.Test.YtbemddpmohoooaaGreatDoorQ23
import Derived.Test.YtbemddpmohoooaaGreatDoorRows
import Derived.Lib.LaidTab
import Derived.Lib.SmallJoins
import Derived.LaidSub
import Derived.LaidMore
import Derived.OpenShut
import Derived.Stop.Joined
set_option linter.unusedVariables false
set_option linter.unusedSimpArgs false
set_option linter.unusedSectionVars false
set_option maxHeartbeats 128000000
set_option maxRecDepth 100000
namespace Go.Proofs.YtbemddpmohoooaaGreatDoor
open PShelfFormats RowKit YtbemddpmohoooaaGreatDoorW YtbemddpmohoooaaGreatDoorW.PrintWords
def eForms:Array Value:=#[.int .i64 0,.bool false,.bool false,.bool false,.int .i64 0,.bool false,.bool false,.bool false,.int .i64 0,.bool true,.bool false,.bool false,.int .i64 1,.bool true,.bool false,.bool false,.int .i64 1,.bool true,.bool false,.bool false,.int .i64 0,.bool true,.bool false,.bool false,.int .i64 1,.bool false,.bool false,.bool false,.int .i64 2,.bool false,.bool false,.bool false]
def sForms:Array Value:=#[.int .i64 0,.bool false,.bool false,.bool false,.int .i64 1,.bool true,.bool false,.bool false,.int .i64 2,.bool true,.bool false,.bool false,.int .i64 1,.bool true,.bool false,.bool false,.int .i64 0,.bool true,.bool false,.bool false,.int .i64 (-1),.bool false,.bool false,.bool false,.int .i64 1,.bool false,.bool true,.bool false,.int .i64 1,.bool false,.bool true,.bool false,.int .i64 0,.bool true,.bool true,.bool true,.int .i64 0,.bool false,.bool false,.bool false,.int .i64 0,.bool false,.bool false,.bool false]
theorem TabAt.same {w w':World} {b:Nat} {cs:Array Value} (h:TabAt w b cs) (e:w'.heap[b]? =w.heap[b]?):TabAt w' b cs:=fun i v q=>by
 have:=h i v q;simpa[World.cell?,e]using this
theorem heap4 {w:World} {b t:Nat} {v0 v1 v2 v3:Value} (h:w.heap[b]? =some (.cells #[v0,v1,v2,v3] t (0,0))):w.cell? ⟨b,0,none⟩=some v0∧w.cell? ⟨b,1,none⟩=some v1∧w.cell? ⟨b,2,none⟩=some v2∧w.cell? ⟨b,3,none⟩=some v3∧∀i,w.frozen? ⟨b,i,none⟩=false:=
 ⟨by simp[World.cell?,h],by simp[World.cell?,h],by simp[World.cell?,h],by simp[World.cell?,h],fun i=>by simp[World.frozen?,h]⟩
structure GA (w:World):Prop where
 ws:WordsAt w
 ef:TabAt w 3 eForms
 sf:TabAt w 2 sForms
theorem GA.lt {w:World} (h:GA w):3<w.heap.size:=World.block_lt_of_cell? w _ (h.ef 0 _ rfl)
theorem GA.step {w w':World} {n:Nat} (h:GA w) (b:Below n w w') (hn:3<n):GA w':=
 ⟨h.ws.same (b.block 1 (by omega)),h.ef.same (b.block 3 hn),h.sf.same (b.block 2 (by omega))⟩
def FX (x:S80):Prop:=∀(V W:World) (A:Option Addr) (c:Nat),GA V→Below V.heap.size V W→x.f4.length≤c→Kd.C k80 V A x.f4.length x.f4→
 Calls Tryz.prog 98 #[.agg (c80 x A c)] W fun e w'=>e= .returned (.bool true)∧Below W.heap.size W w'
def FeLoop (l:List S80) (w5:World) (kq:Nat) (v76:Value) (w:World):Prop:=∃(p r:List S80),v76= .int .i64 (p.length:Int)∧l=p++r∧(∀x∈r,FX x)∧r.length<kq∧Below w5.heap.size w5 w
inductive FC:Int→Int→Int→Nat→Bool→Bs→Prop
 |n0:FC 1 0 0 0 false e0
 |n1 (n:Int):(n==0)=false→(n !=0)=true→¬n<0→FC 1 n 0 0 false e0
 |name:FC 2 0 0 0 true e0
 |index:FC 3 0 1 1 true e0
 |has:FC 4 0 1 1 true e0
 |len:FC 5 0 0 0 true e0
 |neg:FC 6 0 1 1 false ⟨#[45]⟩
 |not:FC 6 0 1 1 false ⟨#[33]⟩
 |bin (o:Bs):(o.toList==([]:List UInt8))=false→0≤rank0 o.toList→FC 7 0 2 2 false o
theorem FC.forms {K num P:Int} {m:Nat} {N:Bool} {o:Bs} (h:FC K num P m N o) {w:World} (g:GA w):
 w.cell? ⟨3,K.toNat*4,none⟩=some (.int .i64 P)∧w.cell? ⟨3,K.toNat*4+1,none⟩=some (.bool N)∧w.cell? ⟨3,K.toNat*4+2,none⟩=some (.bool false)∧w.cell? ⟨3,K.toNat*4+3,none⟩=some (.bool false):=by
 cases h<;>exact⟨g.ef _ _ rfl,g.ef _ _ rfl,g.ef _ _ rfl,g.ef _ _ rfl⟩
theorem fe_walk (K num P:Int) (m:Nat) (N:Bool) (s o:Bs) (l:List S80) (hc:FC K num P m N o) (hs:Nmd s N) (hll:l.length=m) (hx:∀x∈l,FX x):FX ⟨K,num,s,o,l⟩:=by
 intro V W A c hG hV hl hC;have E0:e0.toList=([]:List UInt8):=by unfold e0;rw[Lib.toList_data]
 change l.length≤c at hl;change Kd.C k80 V A l.length l at hC;have NC:=η (fun(w':World) (g:WordsAt w')=>named_call s N hs w' g);have L0:=η (show ∀w5,FeLoop l w5 (m+1) (.int .i64 0) w5 from fun w5=>⟨[],l,rfl,rfl,hx,by omega,Below.refl _ _⟩);have LS:=η hll;have FM:=η (fun(w':World) (g:GA w')=>hc.forms g);have GW:=η (fun(w':World) (H:Below V.heap.size V w')=>hG.step H hG.lt);have GV:=η hG;replace hV:=η hV;rw[hll]at hC hl;replace hC:=η hC;replace hl:=η hl;show Calls Tryz.prog 98 #[.agg #[.int .i64 K,.int .i64 num,.string s,.string o,.slice A l.length c]] W _;rw[hll];clear hll hG hs hx;go_enter Tryz.func98,Tryz.ntmps98;go_upto_region 1 with(first|((with_reducible refine gate_dst (N:=1) rfl ?_);refine bxE (N:=1) (cs:=#[.int .i64 K,.int .i64 num,.string s,.string o,.slice A m c]) (t:=80) ?_;intro g hg w4 hbox hb4))
 have V4:=η (hV.out.trans (hb4.mono hV.out.size));have B4:=η hb4;have G4:=η (GW.out w4 V4.out);obtain⟨g0,g1,g2,g3⟩:=FM.out w4 G4.out;obtain⟨e0,e1,e2,e3,e4,ef⟩:=heap5 hbox;have x5:=heap5 (alloc_old hbox (.cells #[.int .i64 P,.bool N,.bool false,.bool false] 127));have f5:=heap4 (alloc_new w4 (.cells #[.int .i64 P,.bool N,.bool false,.bool false] 127));have B5:=η (hb4.alloc hb4.size (.cells #[.int .i64 P,.bool N,.bool false,.bool false] 127));have V5:=η (V4.out.alloc V4.out.size (.cells #[.int .i64 P,.bool N,.bool false,.bool false] 127));generalize hw5:w4.alloc (.cells #[.int .i64 P,.bool N,.bool false,.bool false] 127)=w5 at x5 f5 B5 V5;replace hw5:=η hw5;replace x5:=η x5;replace f5:=η f5;have G5:=η (GW.out w5 V5.out).ws;clear hbox hb4 FM V4 B4 G4 GW;subst hg;cases hc
 all_goals
  simp only[Int.reduceToNat,Int.toNat_one,Nat.reduceMul,Nat.reduceAdd]at g0 g1 g2 g3;go_upto_region 4 with fail
  rw[hw5.out];clear e0 e1 e2 e3 e4 ef g0 g1 g2 g3 hw5;obtain⟨e0,e1,e2,e3,e4,ef⟩:=x5.out;obtain⟨g0,g1,g2,g3,gf⟩:=f5.out;clear ef gf x5 f5;generalize w4.heap.size=b5 at*;go_upto_region 13 with(first|(go_at_call 80;refine(rank_call o _).mono ?_;rintro e_ w' ⟨rfl,rfl⟩)|(go_at_call 97;refine(NC.out _ G5.out).mono ?_;rintro e_ w' ⟨rfl,h⟩;obtain rfl:=h.symm))
  clear e0 e1 e2 e3 g0 g1 g2 g3 NC;go_loopg [6,76] (l.length+1) (fun kq v6 v76 w=>FeLoop l w5 kq v76 w)
  case atStart=>
   rw[LS.out];exact L0.out w5
  case round=>
   clear e4 L0;obtain⟨p,r,rfl,hp,hr,hk,X1⟩:=hrel;cases r with
   |nil=>
    have hpl:l.length=p.length:=by rw[hp];simp
    have hnl:¬(p.length:Int)<(l.length:Int):=by omega
    rw[LS.out]at hnl;have X2:=η (Below.trans B5.out (X1.mono B5.out.size));clear hp hr X1 hpl;go_wp2_with fail
    go_ret;exact⟨rfl,X2.out⟩
   |cons x r=>
    have hpl:l.length=p.length+(r.length+1):=by rw[hp];simp
    have hlm:=LS.out
    try(exfalso;omega)
    all_goals
     have hlt:(p.length:Int)<(l.length:Int):=by omega
     have hp0:(0:Int)≤(p.length:Int):=by omega
     have hp1:(p.length:Int)<1000000000:=by omega
     rw[LS.out]at hlt;have hVr:=V5.out.trans (X1.mono V5.out.size);obtain⟨ad,A1,c1,eA,y0,y1,y2,y3,y4,l4,g4⟩:=at_T80 hC.out (p.length:Int) hp0 hlt
     have hrd:rd_T80 l (p.length:Int)=x:=by
      unfold rd_T80;rw[Int.toNat_natCast,List.getD_eq_getElem?_getD,hp];simp
     rw[hrd]at y0 y1 y2 y3 y4 l4 g4;subst eA;have tc:∀{p:Addr} {v:Value},V.cell? p=some v→wr.cell? p=some v:=fun hv=>((Turn.of_below (F:=fun _=>False) hVr (Nat.le_refl _)).cell hv (fun z=>z))
     have z0:=tc y0;have z1:=tc y1;have z2:=tc y2;have z3:=tc y3;have z4:=tc y4;have LC:=η (fun(w':World) (H:Below wr.heap.size wr w')=>hr x (List.mem_cons_self ..) V w' A1 c1 GV.out (hVr.trans (H.mono hVr.size)) l4 g4)
     have REL:=η (show ∀(w':World),Below wr.heap.size wr w'→FeLoop l w5 (r.length+1) (.int .i64 ((p.length:Int)+1)) w' from
      fun w' q2=>⟨p++[x],r,by simp,by rw[hp];simp,fun y hy=>hr y (List.mem_cons_of_mem _ hy),by omega,X1.trans (q2.mono X1.size)⟩)
     have hmeas:r.length+1<gk:=by simp only[List.length_cons]at hk;omega
     clear hp hrd hpl hk hr y0 y1 y2 y3 y4 tc X1 l4 g4 hVr hlm;generalize(p.length:Int)=pl at*;go_upto_region 15 with fail
     have e7:=heap5 (alloc_new wr (.cells #[.int .i64 x.f0,.int .i64 x.f1,.string x.f2,.string x.f3,.slice A1 x.f4.length c1] 80));have h7:=η (Below.alloc (Below.refl wr.heap.size wr) (Nat.le_refl _) (.cells #[.int .i64 x.f0,.int .i64 x.f1,.string x.f2,.string x.f3,.slice A1 x.f4.length c1] 80));have L7:=η (LC.out _ h7.out);clear LC z0 z1 z2 z3 z4;generalize wr.alloc (.cells #[.int .i64 x.f0,.int .i64 x.f1,.string x.f2,.string x.f3,.slice A1 x.f4.length c1] 80)=w7 at*;obtain⟨e0,e1,e2,e3,e4,ef⟩:=e7;clear ef;go_wp2_with(first|(go_at_call 98;refine L7.out.mono ?_;rintro e_ w8 ⟨rfl,H8⟩;have X9:=η (below_step h7.out H8);clear H8))
     go_roundg (r.length+1)
     case measure=>exact hmeas
     case rel=>
      have q:=REL.out _ X9.out;simpa using q
theorem nmd_yes {s:Bs} (h:NameS s):Nmd s true:=by unfold Nmd;rw[if_pos rfl];exact h
theorem nmd_no:Nmd e0 false:=by unfold Nmd;rw[if_neg (by decide)]
theorem no_x:∀x∈([]:List S80),FX x:=fun x h=>by cases h
theorem one_x {x:S80} (h:FX x):∀y∈[x],FX y:=fun y hy=>by rw[List.mem_singleton.mp hy];exact h
theorem fe_all {x:S80} {t:List UInt8} {m:Nat} (h:EX x t m):FX x:=by
 induction h with
 |num n h0 h1=>
  by_cases q:n=0
  · subst q
    exact fe_walk 1 0 0 0 false e0 e0 [] .n0 nmd_no rfl no_x
  · exact fe_walk 1 n 0 0 false e0 e0 [] (.n1 n (beq_eq_false_iff_ne.mpr q) (bne_iff_ne.mpr q) (by omega)) nmd_no rfl no_x
 |name s hs=>exact fe_walk 2 0 0 0 true s e0 [] .name (nmd_yes hs) rfl no_x
 |index s x t m hs hx ih=>exact fe_walk 3 0 1 1 true s e0 [x] .index (nmd_yes hs) rfl (one_x ih)
 |has s x t m hs hx ih=>exact fe_walk 4 0 1 1 true s e0 [x] .has (nmd_yes hs) rfl (one_x ih)
 |len s hs=>exact fe_walk 5 0 0 0 true s e0 [] .len (nmd_yes hs) rfl no_x
 |un o x t m ho hx ih=>
  rcases ho with q|q
  · obtain rfl:o=⟨#[45]⟩:=bt_lit.mp q
    exact fe_walk 6 0 1 1 false e0 _ [x] .neg nmd_no rfl (one_x ih)
  · obtain rfl:o=⟨#[33]⟩:=bt_lit.mp q
    exact fe_walk 6 0 1 1 false e0 _ [x] .not nmd_no rfl (one_x ih)
 |bin o x y t u m n r hr hx hy ih1 ih2=>
  refine fe_walk 7 0 2 2 false e0 o [x,y] (.bin o ?_ (by rw[hr];omega)) nmd_no rfl (fun z hz=> ?_)
  · rw[beq_eq_false_iff_ne]
    intro q;rw[q]at hr;have:rank0 []= -1:=by decide
    omega
  · rcases List.mem_cons.mp hz with rfl|hz
    · exact ih1
    · rw[List.mem_singleton.mp hz];exact ih2
open Go.ChangeShapes Go.WideShapes Go.ChangeAt
abbrev trd (P:Program) (W:World) (fuel:Nat) (t:TypeId) (cs:List Value):=DataW.trod (H:=Unit) (fun _=>()) P W 0 (fun _=>true) false fuel t cs
theorem laid_head {P:Program} {W:World} {name:String} {d:DataW Unit} {rest:List (String×DataW Unit)} {g:Nat} {t:TypeId} (hg:P.globalNamed name=some g) (hty:(P.globals[g]?).map (·.type)=some t)
 (h:laidMet P ((name,d)::rest) W):∃cs fuel p,(∀i,W.cell? ⟨g,i,none⟩=cs[i]?)∧trd P W fuel t cs=some (d,p):=by
 obtain⟨ps,⟨g',t',cs,fuel,p,q,hg',ht',hvar,hd,_,_⟩,_⟩:=h;obtain rfl:=Option.some.inj (hg.symm.trans hg');obtain rfl:=Option.some.inj (hty.symm.trans ht');refine⟨cs.toList,fuel,p,fun i=> ?_,hd⟩;have:=World.var?_cell hg hvar i;rw[this];simp
theorem rows_flat {α:Type} (n:Nat) (hn:0<n):∀(rows:List (List α)) (cs:List α),cs.length=n*rows.length→(∀i r,rows[i]? =some r→(cs.drop (i*n)).take n=r)→cs=rows.flatten
 |[],cs,h,_=>by simpa using h
 |r::rows,cs,h,hr=>by
  have h0:=hr 0 r rfl;simp only[Nat.zero_mul,List.drop_zero]at h0
  have ih:=rows_flat n hn rows (cs.drop n) (by rw[List.length_drop,h,List.length_cons,Nat.mul_add];omega) (fun i q hq=>by
   have:=hr (i+1) q (by simpa using hq);rw[List.drop_drop,← this,Nat.add_mul,Nat.one_mul,Nat.add_comm])
  rw[List.flatten_cons,← ih,← h0,List.take_append_drop]
def litV:DataW Unit→Value
 | .lit (.int k n)=> .int k n
 | .lit (.bool b)=> .bool b
 | .lit (.string l)=> .string ⟨l.toArray⟩
 |_=>undef
def litVs:DataW Unit→List Value
 | .agg l=>l.map litV
 |_=>[]
theorem n3:Tryz.prog.cellsOf 3=1:=by kernel_rfl
theorem n4:Tryz.prog.cellsOf 4=1:=by kernel_rfl
theorem n9:Tryz.prog.cellsOf 9=1:=by kernel_rfl
theorem n127:Tryz.prog.cellsOf 127=4:=by kernel_rfl
theorem n137:Tryz.prog.cellsOf 137=32:=by kernel_rfl
theorem n128:Tryz.prog.cellsOf 128=44:=by kernel_rfl
theorem n122:Tryz.prog.cellsOf 122=13:=by kernel_rfl
variable {W:World} {fuel:Nat} {cs:List Value}
theorem int_cell {t:TypeId} {k:IntKind} {y:DataW Unit×List MemPlace} (ht:Tryz.prog.underlying t=some (.int k)) (h:trd Tryz.prog W fuel t cs=some y):cs=[litV y.1]:=by
 obtain⟨n,rfl,rfl,_⟩:=DataW.trod_int ht h;rfl
theorem bool_cell {t:TypeId} {y:DataW Unit×List MemPlace} (ht:Tryz.prog.underlying t=some .bool) (h:trd Tryz.prog W fuel t cs=some y):cs=[litV y.1]:=by
 obtain⟨n,rfl,rfl⟩:=DataW.trod_bool ht h;rfl
theorem str_cell {t:TypeId} {y:DataW Unit×List MemPlace} (ht:Tryz.prog.underlying t=some .string) (h:trd Tryz.prog W fuel t cs=some y):cs=[litV y.1]:=by
 obtain⟨n,rfl,rfl,_⟩:=DataW.trod_string ht h;rfl
theorem four_of {l:List Value} {a b c d:Value} (hl:l.length=4) (h0:(l.drop 0).take 1=[a]) (h1:(l.drop 1).take 1=[b]) (h2:(l.drop 2).take 1=[c]) (h3:(l.drop 3).take 1=[d]):l=[a,b,c,d]:=by
 match l,hl with
 |[x,y,z,u],_=>simp_all
theorem form_cells {y:DataW Unit×List MemPlace} (h:trd Tryz.prog W fuel 127 cs=some y):cs=litVs y.1:=by
 obtain⟨y0,y1,y2,y3,n,rfl,hl,q0,q1,q2,q3⟩:=Joins.trod_struct4 Tryz.underlying127 h;simp only[n3,n4]at q0 q1 q2 q3;exact four_of (hl.trans n127) (int_cell Tryz.underlying3 q0) (bool_cell Tryz.underlying4 q1) (bool_cell Tryz.underlying4 q2) (bool_cell Tryz.underlying4 q3)
theorem forms_cells {t:TypeId} {n:Nat} (ht:Tryz.prog.underlying t=some (.array n 127)) (hn:Tryz.prog.cellsOf t=4*n) {ds:List (DataW Unit)} {p:List MemPlace} (h:trd Tryz.prog W fuel t cs=some (.agg ds,p)):cs=(ds.map litVs).flatten:=by
 obtain⟨xs,m,_,hx,hl,hxl,hf⟩:=DataW.trod_array ht h;have e:ds=xs.map (·.1):=DataW.agg.inj (congrArg Prod.fst hx);clear hx;subst e;refine rows_flat 4 (by decide) _ cs (by rw[hl,hn,List.length_map,List.length_map,hxl]) (fun i r hr=> ?_);rw[List.getElem?_map,List.getElem?_map,Option.map_map,Option.map_eq_some_iff]at hr;obtain⟨y,hy,rfl⟩:=hr;have hi:i<n:=by rw[← hxl];exact(List.getElem?_eq_some_iff.mp hy).1
 have:=hf i hi;rw[n127,hy]at this;exact form_cells this
theorem strs_cells {t:TypeId} {n:Nat} (ht:Tryz.prog.underlying t=some (.array n 9)) (hn:Tryz.prog.cellsOf t=n) {ds:List (DataW Unit)} {p:List MemPlace} (h:trd Tryz.prog W fuel t cs=some (.agg ds,p)):cs=(ds.map (fun d=>[litV d])).flatten:=by
 obtain⟨xs,m,_,hx,hl,hxl,hf⟩:=DataW.trod_array ht h;have e:ds=xs.map (·.1):=DataW.agg.inj (congrArg Prod.fst hx);clear hx;subst e;refine rows_flat 1 (by decide) _ cs (by rw[hl,hn,List.length_map,List.length_map,hxl,Nat.one_mul]) (fun i r hr=> ?_);rw[List.getElem?_map,List.getElem?_map,Option.map_map,Option.map_eq_some_iff]at hr;obtain⟨y,hy,rfl⟩:=hr;have hi:i<n:=by rw[← hxl];exact(List.getElem?_eq_some_iff.mp hy).1
 have:=hf i hi;rw[n9,hy]at this;exact str_cell Tryz.underlying9 this
theorem gWords:Tryz.prog.globalNamed "larder/lang.words" =some 1:=by kernel_rfl
theorem gSf:Tryz.prog.globalNamed "larder/lang.stmtForms" =some 2:=by kernel_rfl
theorem gEf:Tryz.prog.globalNamed "larder/lang.exprForms" =some 3:=by kernel_rfl
theorem gErr:Tryz.prog.globalNamed "strconv.ErrRange" =some 5:=by kernel_rfl
theorem tWords:(Tryz.prog.globals[1]?).map (·.type)=some 122:=by kernel_rfl
theorem tSf:(Tryz.prog.globals[2]?).map (·.type)=some 128:=by kernel_rfl
theorem tEf:(Tryz.prog.globals[3]?).map (·.type)=some 137:=by kernel_rfl
theorem words_laid {rest:List (String×DataW Unit)} (h:laidMet Tryz.prog (("larder/lang.words",Rows.laid_larder_lang_words)::rest) W):WordsAt W:=by
 obtain⟨cs,fuel,p,hc,hd⟩:=laid_head gWords tWords h;have:=strs_cells Tryz.underlying122 n122 hd;subst this;exact fun i v e=>(hc i).trans (by rw[← Array.getElem?_toList]at e;exact e)
theorem ef_laid {rest:List (String×DataW Unit)} (h:laidMet Tryz.prog (("larder/lang.exprForms",Rows.laid_larder_lang_exprForms)::rest) W):TabAt W 3 eForms:=by
 obtain⟨cs,fuel,p,hc,hd⟩:=laid_head gEf tEf h;have:=forms_cells Tryz.underlying137 n137 hd;subst this;exact fun i v e=>(hc i).trans (by rw[← Array.getElem?_toList]at e;exact e)
theorem sf_laid {rest:List (String×DataW Unit)} (h:laidMet Tryz.prog (("larder/lang.stmtForms",Rows.laid_larder_lang_stmtForms)::rest) W):TabAt W 2 sForms:=by
 obtain⟨cs,fuel,p,hc,hd⟩:=laid_head gSf tSf h;have:=forms_cells Tryz.underlying128 n128 hd;subst this;exact fun i v e=>(hc i).trans (by rw[← Array.getElem?_toList]at e;exact e)
end Go.Proofs.YtbemddpmohoooaaGreatDoor
