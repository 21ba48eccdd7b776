import Derived.Test.YtbemddpmohoooaaGreatDoorQ4
import Derived.Laws.Cover1
set_option linter.unusedVariables false
set_option linter.unusedSimpArgs false
set_option linter.unusedSectionVars false
set_option maxHeartbeats 128000000
set_option maxRecDepth 100000
namespace Go.Proofs.YtbemddpmohoooaaGreatDoor.PShelfFormats
open RowKit YtbemddpmohoooaaGreatDoorW YtbemddpmohoooaaGreatDoorW.PrintWords
def larderref23_stmt.f (a0_0:Bs) (a0_1:Int) (a0_2:Int) (a0_3:Int) (a0_4:Int):Option (List Bs×Bool):=if a0_2=110 then(some ((([(⟨#[78,65,77,69]⟩:Bs),(⟨#[65,102,116,101,114]⟩:Bs)]:List Bs)),true))else(if a0_2=109 then(if a0_0.toList=([100,101,108,101,116,101]:List UInt8)then(some ((([(⟨#[100,101,108,101,116,101]⟩:Bs),(⟨#[78,65,77,69]⟩:Bs),(⟨#[91]⟩:Bs),(⟨#[69,120,112,114]⟩:Bs),(⟨#[93]⟩:Bs),(⟨#[59]⟩:Bs)]:List Bs)),true))else(if a0_0.toList=([99,108,101,97,114]:List UInt8)then(some ((([(⟨#[99,108,101,97,114]⟩:Bs),(⟨#[78,65,77,69]⟩:Bs),(⟨#[59]⟩:Bs)]:List Bs)),true))else(if a0_0.toList=([112,114,105,110,116]:List UInt8)then(some ((([(⟨#[112,114,105,110,116]⟩:Bs),(⟨#[73,116,101,109,115]⟩:Bs)]:List Bs)),true))else(if a0_0.toList=([105,102]:List UInt8)then(some ((([(⟨#[105,102]⟩:Bs),(⟨#[69,120,112,114]⟩:Bs),(⟨#[66,108,111,99,107]⟩:Bs),(⟨#[69,108,115,101]⟩:Bs)]:List Bs)),true))else(if a0_0.toList=([119,104,105,108,101]:List UInt8)then(some ((([(⟨#[119,104,105,108,101]⟩:Bs),(⟨#[69,120,112,114]⟩:Bs),(⟨#[66,108,111,99,107]⟩:Bs)]:List Bs)),true))else(if a0_0.toList=([102,111,114]:List UInt8)then(some ((([(⟨#[102,111,114]⟩:Bs),(⟨#[78,65,77,69]⟩:Bs),(⟨#[44]⟩:Bs),(⟨#[78,65,77,69]⟩:Bs),(⟨#[105,110]⟩:Bs),(⟨#[78,65,77,69]⟩:Bs),(⟨#[66,108,111,99,107]⟩:Bs)]:List Bs)),true))else(if a0_0.toList=([98,114,101,97,107]:List UInt8)then(some ((([(⟨#[98,114,101,97,107]⟩:Bs),(⟨#[59]⟩:Bs)]:List Bs)),true))else(if a0_0.toList=([99,111,110,116,105,110,117,101]:List UInt8)then(some ((([(⟨#[99,111,110,116,105,110,117,101]⟩:Bs),(⟨#[59]⟩:Bs)]:List Bs)),true))else(some (([]:List Bs),false))))))))))else(some (([]:List Bs),false)))
theorem larderref23_stmt.calls (a0_0:Bs) (a0_1:Int) (a0_2:Int) (a0_3:Int) (a0_4:Int) (r1:List Bs) (r2:Bool) (w:World) (h:larderref23_stmt.f a0_0 a0_1 a0_2 a0_3 a0_4=some (r1,r2)):
 Calls Tryz.prog 59 #[.agg #[.string a0_0,.int .i64 a0_1,.int .u8 a0_2,.int .i64 a0_3,.int .i64 a0_4]] w fun e w'=>∃v0_:Value,e= .returned (.tuple #[v0_,.bool r2])∧Kd.R Kd.string 9 w' w.heap.size (fun _=>True) v0_ r1∧Below w.heap.size w w':=by
 unfold larderref23_stmt.f at h;simp only[← beq_iff_eq (α:=Int),← beq_iff_eq (α:=List UInt8)]at h
 repeat' (replace h:=ite_b h;rcases h with⟨c,h⟩|⟨c,h⟩)
 all_goals
  simp only[Option.some.injEq,Prod.mk.injEq]at h;obtain⟨rfl,rfl⟩:=h;go_enter Tryz.func59,Tryz.ntmps59;go_upto_region 1 with(first|((with_reducible refine gate_dst (N:=1) rfl ?_);refine bxE (N:=1) (cs:=#[.string a0_0,.int .i64 a0_1,.int .u8 a0_2,.int .i64 a0_3,.int .i64 a0_4]) (t:=42) ?_;intro g hg w4 hbox hb4))
  subst hg;have B4:=η hb4;obtain⟨e0,e1,e2,e3,e4,ef⟩:=hp5 hbox;clear hbox hb4;go_wp2_with fail
  go_ret2
  first
  |exact⟨_,rfl,lit_row w4 B4.out.size _ (by decide),B4.out.alloc B4.out.size _⟩
  |exact⟨_,rfl,Kd.R_nil _ _ _ _ _,B4.out⟩
def larderref23_prim.f (k:Nat) (a0_0:Bs) (a0_1:Int) (a0_2:Int) (a0_3:Int) (a0_4:Int):Option (List Bs×Bool):=if a0_2=57 then(some ((([(⟨#[78,85,77,66,69,82]⟩:Bs)]:List Bs)),true))else(if a0_2=110 then(some ((([(⟨#[78,65,77,69]⟩:Bs),(⟨#[75,101,121]⟩:Bs)]:List Bs)),true))else((larderref23_is.f k a0_0 a0_1 a0_2 a0_3 a0_4 (([(⟨#[45]⟩:Bs),(⟨#[33]⟩:Bs)]:List Bs))).bind fun t198=>(if t198=true then(some ((([a0_0,(⟨#[76,101,118,101,108,54]⟩:Bs)]:List Bs)),true))else((larderref23_is.f k a0_0 a0_1 a0_2 a0_3 a0_4 (([(⟨#[104,97,115]⟩:Bs)]:List Bs))).bind fun t205=>(if t205=true then(some ((([(⟨#[104,97,115]⟩:Bs),(⟨#[78,65,77,69]⟩:Bs),(⟨#[91]⟩:Bs),(⟨#[69,120,112,114]⟩:Bs),(⟨#[93]⟩:Bs)]:List Bs)),true))else((larderref23_is.f k a0_0 a0_1 a0_2 a0_3 a0_4 (([(⟨#[108,101,110]⟩:Bs)]:List Bs))).bind fun t212=>(if t212=true then(some ((([(⟨#[108,101,110]⟩:Bs),(⟨#[78,65,77,69]⟩:Bs)]:List Bs)),true))else((larderref23_is.f k a0_0 a0_1 a0_2 a0_3 a0_4 (([(⟨#[40]⟩:Bs)]:List Bs))).bind fun t219=>(if t219=true then(some ((([(⟨#[40]⟩:Bs),(⟨#[69,120,112,114]⟩:Bs),(⟨#[41]⟩:Bs)]:List Bs)),true))else(some (([]:List Bs),false)))))))))))
theorem larderref23_prim.calls (k:Nat) (a0_0:Bs) (a0_1:Int) (a0_2:Int) (a0_3:Int) (a0_4:Int) (r1:List Bs) (r2:Bool) (w:World) (h:larderref23_prim.f k a0_0 a0_1 a0_2 a0_3 a0_4=some (r1,r2)):
 Calls Tryz.prog 87 #[.agg #[.string a0_0,.int .i64 a0_1,.int .u8 a0_2,.int .i64 a0_3,.int .i64 a0_4]] w fun e w'=>∃v0_:Value,e= .returned (.tuple #[v0_,.bool r2])∧Kd.R Kd.string 9 w' w.heap.size (fun _=>True) v0_ r1∧Below w.heap.size w w':=by
 unfold larderref23_prim.f at h;simp only[← beq_iff_eq (α:=Int),← beq_iff_eq (α:=List UInt8)]at h
 repeat' (first|(replace h:=ite_b h;first|(rcases h with(⟨rfl,h⟩|⟨rfl,h⟩))|(rcases h with(⟨c,h⟩|⟨c,h⟩)))|(replace h:=Option.bind_eq_some_iff.mp h;obtain⟨t,q,h⟩:=h;replace q:=η q;(try dsimp only at h)))
 all_goals
  simp only[Option.some.injEq,Prod.mk.injEq]at h;obtain⟨rfl,rfl⟩:=h;go_enter Tryz.func87,Tryz.ntmps87;go_upto_region 1 with(first|((with_reducible refine gate_dst (N:=1) rfl ?_);refine bxE (N:=1) (cs:=#[.string a0_0,.int .i64 a0_1,.int .u8 a0_2,.int .i64 a0_3,.int .i64 a0_4]) (t:=42) ?_;intro g hg w4 hbox hb4))
  subst hg;have KX:=η (fun(W':World) (H:Below w4.heap.size w4 W')=>hp_keep hbox H);have X:=η (Below.refl w4.heap.size w4);have B4:=η hb4;obtain⟨e0,e1,e2,e3,e4,ef⟩:=hp5 hbox;clear hbox hb4;go_wp2_with(first|(go_at_call 12;(with_reducible first|refine(is1 (by with_reducible assumption) _).mono ?_|refine(is2 (by with_reducible assumption) _).mono ?_);rintro e_ w5 ⟨rfl,H5⟩;replace X:=η (X.out.trans (H5.mono X.out.size));clear e0 e1 e2 e3 e4 ef H5;obtain⟨e0,e1,e2,e3,e4,ef⟩:=hp5 (KX.out w5 X.out)))
  go_ret2
  first
  |exact⟨_,rfl,lit_row _ (Nat.le_trans B4.out.size X.out.size) _ (by simp),Below.alloc (B4.out.trans (X.out.mono B4.out.size)) (Nat.le_trans B4.out.size X.out.size) _⟩
  |exact⟨_,rfl,Kd.R_nil _ _ _ _ _,B4.out.trans (X.out.mono B4.out.size)⟩
end Go.Proofs.YtbemddpmohoooaaGreatDoor.PShelfFormats
namespace Go.Proofs.YtbemddpmohoooaaGreatDoor
open PShelfFormats RowKit YtbemddpmohoooaaGreatDoorW YtbemddpmohoooaaGreatDoorW.PrintWords
def rkRow:Nat→List (List UInt8)
 |0=>[[124,124]]|1=>[[38,38]]|2=>[[61,61],[33,61],[60],[60,61],[62],[62,61]]|3=>[[43],[45]]|_=>[[42],[47],[37]]
def NoRk (s:List UInt8) (n:Nat):Prop:=∀i<n,s ∉ rkRow i
theorem rk_some (s:List UInt8) {i:Nat} (hi:i<5) (hm:s∈rkRow i):rank0 s=(i:Int):=
 (by decide:∀i<5,∀m∈rkRow i,rank0 m=(i:Int)) i hi s hm
theorem rk_none (s:List UInt8) (z:NoRk s 5):rank0 s= -1:=by
 have z0:=z 0 (by decide);have z1:=z 1 (by decide);have z2:=z 2 (by decide);have z3:=z 3 (by decide);have z4:=z 4 (by decide);simp only[rkRow,List.mem_cons,List.not_mem_nil,or_false,not_or]at z0 z1 z2 z3 z4;simp[rank0,z0,z1,z2,z3,z4]
def rkW (w:World):World:=(((((w.alloc (.cells #[.string ⟨#[124,124]⟩] 9)).alloc (.cells #[.string ⟨#[38,38]⟩] 9)).alloc (.cells #[.string ⟨#[61,61]⟩,.string ⟨#[33,61]⟩,.string ⟨#[60]⟩,.string ⟨#[60,61]⟩,.string ⟨#[62]⟩,.string ⟨#[62,61]⟩] 9)).alloc (.cells #[.string ⟨#[43]⟩,.string ⟨#[45]⟩] 9)).alloc (.cells #[.string ⟨#[42]⟩,.string ⟨#[47]⟩,.string ⟨#[37]⟩] 9)).alloc (.cells #[.slice (some ⟨w.heap.size,0,none⟩) 1 1,.slice (some ⟨w.heap.size+1,0,none⟩) 1 1,.slice (some ⟨w.heap.size+1+1,0,none⟩) 6 6,.slice (some ⟨w.heap.size+1+1+1,0,none⟩) 2 2,.slice (some ⟨w.heap.size+1+1+1+1,0,none⟩) 3 3] 28)
theorem rkW_below (w:World):Below w.heap.size w (rkW w):=by
 unfold rkW
 repeat(first|exact Below.refl _ _|refine Below.alloc ?_ (by simp;try omega) _)
theorem rkW_cells (w:World):∀i<5,(rkW w).cell? ⟨w.heap.size+1+1+1+1+1,i,none⟩=some (.slice (some ⟨w.heap.size+i,0,none⟩) (rkRow i).length (rkRow i).length)∧∀j (h:j<(rkRow i).length),(rkW w).cell? ⟨w.heap.size+i,j,none⟩=some (.string ⟨(rkRow i)[j].toArray⟩):=by
 have hp:∀(v:World) x,(v.alloc x).heap=v.heap.push x:=fun _ _=>rfl
 have hh:∀i<5,(rkW w).heap[w.heap.size+i]? =some (.cells ((rkRow i).map (fun l=>Value.string ⟨l.toArray⟩)).toArray 9):=by
  intro i hi
  match i,hi with
  |0,_|1,_|3,_|4,_|2,_=>simp only[rkW,hp,Array.getElem?_push,Array.size_push,Nat.add_assoc,Nat.reduceAdd]<;>simp[rkRow]
 intro i hi;refine⟨?_,fun j h=>by simp[World.cell?,hh i hi,h]⟩
 match i,hi with
 |0,_|1,_|3,_|4,_|2,_=>simp only[rkW,World.cell?,hp,Array.getElem?_push,Array.size_push,Nat.add_assoc,Nat.reduceAdd]<;>simp[rkRow]
theorem drank (s:Bs) (w:World):Calls Tryz.prog 57 #[.string s] w fun e w'=>e= .returned (.int .i64 (rank0 s.toList+1))∧Below w.heap.size w w':=by
 go_enter Tryz.func57,Tryz.ntmps57;go_wp2_with fail
 generalize hW:World.alloc _ _=W at*;have HB:=η (show Below w.heap.size w W from(show rkW w=W from hW)▸rkW_below w);have CX:=η (show ∀i<5,W.cell? ⟨w.heap.size+1+1+1+1+1,i,none⟩=some (.slice (some ⟨w.heap.size+i,0,none⟩) (rkRow i).length (rkRow i).length)∧∀j (h:j<(rkRow i).length),W.cell? ⟨w.heap.size+i,j,none⟩=some (.string ⟨(rkRow i)[j].toArray⟩) from(show rkW w=W from hW)▸rkW_cells w);clear hW;generalize w.heap.size+1+1+1+1+1=bo at*;go_loopg [4] 6 (fun kq v4 w'=>∃i:Nat,v4= .int .i64 (i:Int)∧i≤5∧5<kq+i∧NoRk s.toList i∧W=w')
 case atStart=>exact⟨0,rfl,by omega,by omega,fun i hi=>absurd hi (by omega),rfl⟩
 case round=>
  obtain⟨i,rfl,h1,h2,hn,hwr⟩:=hrel;subst hwr;by_cases hi:i<5
  · have c1:(i:Int)<5:=by omega
    obtain⟨hc,hs⟩:=CX.out i hi;replace hs:=η hs;have RS:=η (rk_some s.toList hi)
    have RN:=η (fun(h:s.toList ∉ rkRow i)=>show NoRk s.toList (i+1) from fun x hx=>by
     rcases Nat.lt_succ_iff_lt_or_eq.mp hx with h'|rfl
     · exact hn x h'
     · exact h)
    have hrl:(rkRow i).length<7:=(by decide:∀i<5,(rkRow i).length<7) i hi;generalize rkRow i=row at*;clear CX hn;go_upto_region 6 with fail
    go_loopg [5] (row.length+1) (fun kq v5 w'=>∃j:Nat,v5= .int .i64 (j:Int)∧j≤row.length∧row.length<kq+j∧s.toList ∉ row.take j∧W=w')
    case atStart=>exact⟨0,rfl,by omega,by omega,fun hm=>absurd hm (by simp),rfl⟩
    case round=>
     obtain⟨j,rfl,g1,g2,gn,hwr⟩:=hrel;subst hwr;by_cases hj:j<row.length
     · have c2:(j:Int)<(row.length:Int):=by omega
       have hx:=hs.out j hj;have hm:(⟨row[j].toArray⟩:Bs).toList=row[j]:=lit_toList _;have hmem:row[j]∈row:=List.getElem_mem hj;have hst:row.take (j+1)=row.take j++[row[j]]:=(List.take_append_getElem hj).symm;generalize row[j]=rj at*;generalize(⟨rj.toArray⟩:Bs)=m at*;subst hm;by_cases he:m.toList=s.toList
       · have e1:(m.toList==s.toList)=true:=by rw[he];exact beq_self_eq_true _
         have er:=RS.out (he▸hmem);clear hs RS RN he gn hst hmem g1 g2 h1 h2 hj;go_wp2;go_ret;exact⟨by rw[er];rfl,HB.out⟩
       · have e1:(m.toList==s.toList)=false:=beq_eq_false_iff_ne.mpr he
         have gn':=η (show s.toList ∉ row.take (j+1) by rw[hst];simp[gn,Ne.symm he]);clear hst hmem;go_wp2;go_roundg (row.length-j)
         case measure=>omega
         case rel=>exact⟨j+1,by simp,by omega,by omega,gn'.out,rfl⟩
     · have c2:¬(j:Int)<(row.length:Int):=by omega
       have gn':=η (RN.out (by rw[List.take_of_length_le (by omega)]at gn;exact gn));clear hs RS RN gn g1 g2 hj;go_wp2;go_roundg (5-i)
       case measure=>omega
       case rel=>exact⟨i+1,by simp,by omega,by omega,gn'.out,rfl⟩
  · have c1:¬(i:Int)<5:=by omega
    obtain rfl:i=5:=by omega
    have er:=rk_none s.toList hn;clear CX hn hi h1 h2;go_wp2;go_ret;exact⟨by first|rfl|(rw[er];rfl)|simp[er],HB.out⟩
end Go.Proofs.YtbemddpmohoooaaGreatDoor
namespace Go.Proofs.YtbemddpmohoooaaGreatDoor.PShelfFormats
open RowKit YtbemddpmohoooaaGreatDoorW YtbemddpmohoooaaGreatDoorW.PrintWords
theorem pack1 (W:World) (x:Int):(convert 46 9 (.slice (some ⟨W.heap.size,0,none⟩) 1 1)).run Tryz.prog (W.alloc (.cells #[.int .u8 x] 5))= .ok (.string (strOfNums [x])) (W.alloc (.cells #[.int .u8 x] 5)):=
 own_string (P:=Tryz.prog) Tryz.underlying46 Tryz.underlying5 Tryz.underlying9 (own_lit_of (enc:=Value.int .u8) W W.heap.size 5 [x] (Nat.le_refl _) (by simp))
theorem pack2 (W:World) (x y:Int):(convert 46 9 (.slice (some ⟨W.heap.size+1,0,none⟩) 1 1)).run Tryz.prog ((W.alloc (.cells #[.int .u8 x] 5)).alloc (.cells #[.int .u8 y] 5))= .ok (.string (strOfNums [y])) ((W.alloc (.cells #[.int .u8 x] 5)).alloc (.cells #[.int .u8 y] 5)):=by
 have h:=pack1 (W.alloc (.cells #[.int .u8 x] 5)) y
 rwa [show(W.alloc (.cells #[.int .u8 x] 5)).heap.size=W.heap.size+1 by simp]at h
theorem bal {w w':World} (h:Below w.heap.size w w') (x:Obj):Below w.heap.size w (w'.alloc x):=h.alloc h.size x
theorem row2 {W:World} {b:Nat} (o1 o2:Obj) (h:b≤W.heap.size) (xs:List Bs) (hx:xs.length≤9223372036854775807):Kd.R Kd.string 9 (((W.alloc o1).alloc o2).alloc (.cells (xs.map Value.string).toArray 9)) b (fun _=>True) (.slice (some ⟨W.heap.size+1+1,0,none⟩) xs.length xs.length) xs:=by
 have e:((W.alloc o1).alloc o2).heap.size=W.heap.size+1+1:=by simp
 have r:=lit_row ((W.alloc o1).alloc o2) (b:=b) (by omega) xs hx
 rwa [e]at r
theorem wfacts {a0:Bs} {l:List UInt8} (h:a0.toList=l):a0.size=l.length∧∀i (hi:i<l.length),∀h:i<a0.size,((a0[i]'h).toNat:Int)=(l[i].toNat:Int):=by
 subst h;have e:a0.toList.length=a0.size:=by rw[Lib.toList_data];rfl
 refine⟨e.symm,fun i hi h=> ?_⟩;congr 2;simp[Lib.toList_data,ByteArray.getElem_eq_getElem_data]
def larderref23_expr.f (k:Nat) (a0:Bs) (a1_0:Bs) (a1_1:Int) (a1_2:Int) (a1_3:Int) (a1_4:Int):Option (List Bs×Bool):=
 if a0.toList=([69,120,112,114]:List UInt8)then some ([(⟨#[76,101,118,101,108,49]⟩:Bs)],true)
 else if a0.toList=([75,101,121]:List UInt8)then(larderref23_is.f k a1_0 a1_1 a1_2 a1_3 a1_4 [(⟨#[91]⟩:Bs)]).bind fun t=>if t=true then some ([(⟨#[91]⟩:Bs),(⟨#[69,120,112,114]⟩:Bs),(⟨#[93]⟩:Bs)],true)else some ([],true)
 else if a0.toList=([76,101,118,101,108,54]:List UInt8)then larderref23_prim.f k a1_0 a1_1 a1_2 a1_3 a1_4
 else if a0.toList=([76,101,118,101,108,49]:List UInt8)then some ([(⟨#[76,101,118,101,108,50]⟩:Bs),(⟨#[82,101,115,116,49]⟩:Bs)],true)
 else if a0.toList=([76,101,118,101,108,50]:List UInt8)then some ([(⟨#[76,101,118,101,108,51]⟩:Bs),(⟨#[82,101,115,116,50]⟩:Bs)],true)
 else if a0.toList=([76,101,118,101,108,51]:List UInt8)then some ([(⟨#[76,101,118,101,108,52]⟩:Bs),(⟨#[82,101,115,116,51]⟩:Bs)],true)
 else if a0.toList=([76,101,118,101,108,52]:List UInt8)then some ([(⟨#[76,101,118,101,108,53]⟩:Bs),(⟨#[82,101,115,116,52]⟩:Bs)],true)
 else if a0.toList=([76,101,118,101,108,53]:List UInt8)then some ([(⟨#[76,101,118,101,108,54]⟩:Bs),(⟨#[82,101,115,116,53]⟩:Bs)],true)
 else if a0.toList=([82,101,115,116,49]:List UInt8)then some (if a1_2=109∧rank0 a1_0.toList=0 then [a1_0,(⟨#[76,101,118,101,108,50]⟩:Bs),a0]else [],true)
 else if a0.toList=([82,101,115,116,50]:List UInt8)then some (if a1_2=109∧rank0 a1_0.toList=1 then [a1_0,(⟨#[76,101,118,101,108,51]⟩:Bs),a0]else [],true)
 else if a0.toList=([82,101,115,116,51]:List UInt8)then some (if a1_2=109∧rank0 a1_0.toList=2 then [a1_0,(⟨#[76,101,118,101,108,52]⟩:Bs)]else [],true)
 else if a0.toList=([82,101,115,116,52]:List UInt8)then some (if a1_2=109∧rank0 a1_0.toList=3 then [a1_0,(⟨#[76,101,118,101,108,53]⟩:Bs),a0]else [],true)
 else if a0.toList=([82,101,115,116,53]:List UInt8)then some (if a1_2=109∧rank0 a1_0.toList=4 then [a1_0,(⟨#[76,101,118,101,108,54]⟩:Bs),a0]else [],true)
 else none
theorem ex_bin (x:Int) (hx:x=49∨x=50∨x=51∨x=52∨x=53) {a0:Bs} (q0:(a0.toList==[69,120,112,114])=false) (q1:(a0.toList==[75,101,121])=false) (q2:(a0.toList==[76,101,118,101,108,54])=false)
 (hs:a0.size=6) (b0:∀h:0<a0.size,((a0[0]'h).toNat:Int)=76) (b5:∀h:5<a0.size,((a0[5]'h).toNat:Int)=x) (a1_0:Bs) (a1_1:Int) (a1_2:Int) (a1_3:Int) (a1_4:Int) (w:World):
 Calls Tryz.prog 60 #[.string a0,.agg #[.string a1_0,.int .i64 a1_1,.int .u8 a1_2,.int .i64 a1_3,.int .i64 a1_4]] w fun e w'=>∃v0_:Value,e= .returned (.tuple #[v0_,.bool true])∧Kd.R Kd.string 9 w' w.heap.size (fun _=>True) v0_ [(⟨#[76,101,118,101,108]⟩:Bs)++strOfNums [x+1],(⟨#[82,101,115,116]⟩:Bs)++strOfNums [x]]∧Below w.heap.size w w':=by
 have P1:=pack1;have P2:=pack2;have hz:∀y:Int,(strOfNums [y]).size=1:=fun y=>rfl
 rcases hx with rfl|rfl|rfl|rfl|rfl
 all_goals
  go_enter Tryz.func60,Tryz.ntmps60;go_upto_region 1 with(first|((with_reducible refine gate_dst (N:=3) rfl ?_);refine bxE (N:=3) (cs:=#[.string a1_0,.int .i64 a1_1,.int .u8 a1_2,.int .i64 a1_3,.int .i64 a1_4]) (t:=42) ?_;intro g hg w4 hbox hb4))
  subst hg;have X:=η hbox;have B4:=η hb4;clear hbox hb4;go_upto_region 8 with fail
  go_wp2_with fail
  go_ret2;exact⟨_,rfl,row2 _ _ B4.out.size _ (by simp),bal (bal (bal B4.out _) _) _⟩
theorem ex_rest (x:Int) (hx:x=49∨x=50∨x=51∨x=52∨x=53) {a0:Bs} (q0:(a0.toList==[69,120,112,114])=false) (q1:(a0.toList==[75,101,121])=false) (q2:(a0.toList==[76,101,118,101,108,54])=false)
 (hs:a0.size=5) (b0:∀h:0<a0.size,((a0[0]'h).toNat:Int)=82) (b4:∀h:4<a0.size,((a0[4]'h).toNat:Int)=x) (a1_0:Bs) (a1_1:Int) (a1_2:Int) (a1_3:Int) (a1_4:Int) (w:World):
 Calls Tryz.prog 60 #[.string a0,.agg #[.string a1_0,.int .i64 a1_1,.int .u8 a1_2,.int .i64 a1_3,.int .i64 a1_4]] w fun e w'=>∃v0_:Value,e= .returned (.tuple #[v0_,.bool true])∧Kd.R Kd.string 9 w' w.heap.size (fun _=>True) v0_ (if a1_2=109∧rank0 a1_0.toList=x-49 then(if x=51 then [a1_0,(⟨#[76,101,118,101,108]⟩:Bs)++strOfNums [x+1]]else [a1_0,(⟨#[76,101,118,101,108]⟩:Bs)++strOfNums [x+1],a0])else [])∧Below w.heap.size w w':=by
 have P1:=pack1;have hz:∀y:Int,(strOfNums [y]).size=1:=fun y=>rfl
 obtain⟨t,ht⟩:∃t,t=rank0 a1_0.toList+1:=⟨_,rfl⟩;have D:=η (drank a1_0);rw[← ht]at D;replace ht:=η ht;cases s1:(a1_2==109)<;>cases r1:(t==x-48)
 rotate_left 3
 · rw[if_pos ⟨eq_of_beq s1,by have:=eq_of_beq r1;have:=ht.out;omega⟩]
   rcases hx with rfl|rfl|rfl|rfl|rfl
   all_goals
    simp only[Int.reduceSub]at r1;go_enter Tryz.func60,Tryz.ntmps60;go_upto_region 1 with(first|((with_reducible refine gate_dst (N:=3) rfl ?_);refine bxE (N:=3) (cs:=#[.string a1_0,.int .i64 a1_1,.int .u8 a1_2,.int .i64 a1_3,.int .i64 a1_4]) (t:=42) ?_;intro g hg w4 hbox hb4))
    subst hg;have X:=η hbox;have B4:=η hb4;clear hbox hb4;go_upto_region 13 with fail
    generalize hw:World.alloc w4 _=w6;have X6:=η (show w6.heap[w.heap.size]? =some (.cells #[.string a1_0,.int .i64 a1_1,.int .u8 a1_2,.int .i64 a1_3,.int .i64 a1_4] 42 (0,0)) from hw▸hp_alloc X.out _);have B6:=η (show Below w.heap.size w w6 from hw▸bal B4.out _);clear hw X B4;obtain⟨e0,e1,e2,e3,e4,ef⟩:=hp5 X6.out;go_wp2_with(first|(go_at_call 57;refine(D.out _).mono ?_;rintro e_ w7 ⟨rfl,H7⟩;have X7:=η (hp_keep X6.out H7);have B7:=η (below_step B6.out H7);clear H7 e0 e1 e2 e3 e4 ef;obtain⟨e0,e1,e2,e3,e4,ef⟩:=hp5 X7.out))
    go_ret2
    first
    |exact⟨_,rfl,lit_row _ B7.out.size [a1_0,(⟨#[76,101,118,101,108]⟩:Bs)++strOfNums [52]] (by simp),bal B7.out _⟩
    |exact⟨_,rfl,lit_row _ B7.out.size [_,_,_] (by simp),bal B7.out _⟩
 all_goals
  rw[if_neg (fun z=>by first|(rw[beq_iff_eq.mpr z.1]at s1;cases s1;done)|(rw[show(t==x-48)=true from beq_iff_eq.mpr (by have:=z.2;have:=ht.out;omega)]at r1;cases r1))];rcases hx with rfl|rfl|rfl|rfl|rfl
  all_goals
   simp only[Int.reduceSub]at r1;go_enter Tryz.func60,Tryz.ntmps60;go_upto_region 1 with(first|((with_reducible refine gate_dst (N:=3) rfl ?_);refine bxE (N:=3) (cs:=#[.string a1_0,.int .i64 a1_1,.int .u8 a1_2,.int .i64 a1_3,.int .i64 a1_4]) (t:=42) ?_;intro g hg w4 hbox hb4))
   subst hg;have X:=η hbox;have B4:=η hb4;clear hbox hb4;go_upto_region 13 with fail
   generalize hw:World.alloc w4 _=w6;have X6:=η (show w6.heap[w.heap.size]? =some (.cells #[.string a1_0,.int .i64 a1_1,.int .u8 a1_2,.int .i64 a1_3,.int .i64 a1_4] 42 (0,0)) from hw▸hp_alloc X.out _);have B6:=η (show Below w.heap.size w w6 from hw▸bal B4.out _);clear hw X B4;obtain⟨e0,e1,e2,e3,e4,ef⟩:=hp5 X6.out;go_wp2_with(first|(go_at_call 57;refine(D.out _).mono ?_;rintro e_ w7 ⟨rfl,H7⟩;have X7:=η (hp_keep X6.out H7);have B7:=η (below_step B6.out H7);clear H7 e0 e1 e2 e3 e4 ef;obtain⟨e0,e1,e2,e3,e4,ef⟩:=hp5 X7.out))
   go_ret2
   first
   |exact⟨_,rfl,Kd.R_nil _ _ _ _ _,B7.out⟩
   |exact⟨_,rfl,Kd.R_nil _ _ _ _ _,B6.out⟩
theorem ex_lv (x:Int) (hx:x=49∨x=50∨x=51∨x=52∨x=53) {a0:Bs} {l:List UInt8} {X Y:Bs} (ha:a0.toList=l) (hl:l.length=6∧l.map (fun c=>(c.toNat:Int))=[76,101,118,101,108,x]) (e1:(⟨#[76,101,118,101,108]⟩:Bs)++strOfNums [x+1]=X) (e2:(⟨#[82,101,115,116]⟩:Bs)++strOfNums [x]=Y)
 (hq:(l==[69,120,112,114])=false∧(l==[75,101,121])=false∧(l==[76,101,118,101,108,54])=false) (a1_0:Bs) (a1_1:Int) (a1_2:Int) (a1_3:Int) (a1_4:Int) (w:World):
 Calls Tryz.prog 60 #[.string a0,.agg #[.string a1_0,.int .i64 a1_1,.int .u8 a1_2,.int .i64 a1_3,.int .i64 a1_4]] w fun e w'=>∃v0_:Value,e= .returned (.tuple #[v0_,.bool true])∧Kd.R Kd.string 9 w' w.heap.size (fun _=>True) v0_ [X,Y]∧Below w.heap.size w w':=by
 subst ha e1 e2;obtain⟨hs,hb⟩:=wfacts (a0:=a0) rfl;have g:∀i (hi:i<a0.toList.length),(a0.toList[i].toNat:Int)=(a0.toList.map (fun c=>(c.toNat:Int)))[i]'(by simpa using hi):=fun i hi=>by simp
 have b0:=hb 0 (by omega);have b5:=hb 5 (by omega);rw[g]at b0 b5;simp only[hl.2]at b0 b5;exact ex_bin x hx hq.1 hq.2.1 hq.2.2 (by omega) b0 b5 a1_0 a1_1 a1_2 a1_3 a1_4 w
theorem ex_rs (x:Int) (hx:x=49∨x=50∨x=51∨x=52∨x=53) {a0:Bs} {l:List UInt8} {X:Bs} (ha:a0.toList=l) (hl:l.length=5∧l.map (fun c=>(c.toNat:Int))=[82,101,115,116,x]) (e1:(⟨#[76,101,118,101,108]⟩:Bs)++strOfNums [x+1]=X)
 (hq:(l==[69,120,112,114])=false∧(l==[75,101,121])=false∧(l==[76,101,118,101,108,54])=false) (a1_0:Bs) (a1_1:Int) (a1_2:Int) (a1_3:Int) (a1_4:Int) (w:World):
 Calls Tryz.prog 60 #[.string a0,.agg #[.string a1_0,.int .i64 a1_1,.int .u8 a1_2,.int .i64 a1_3,.int .i64 a1_4]] w fun e w'=>∃v0_:Value,e= .returned (.tuple #[v0_,.bool true])∧Kd.R Kd.string 9 w' w.heap.size (fun _=>True) v0_ (if a1_2=109∧rank0 a1_0.toList=x-49 then(if x=51 then [a1_0,X]else [a1_0,X,a0])else [])∧Below w.heap.size w w':=by
 subst ha e1;obtain⟨hs,hb⟩:=wfacts (a0:=a0) rfl;have g:∀i (hi:i<a0.toList.length),(a0.toList[i].toNat:Int)=(a0.toList.map (fun c=>(c.toNat:Int)))[i]'(by simpa using hi):=fun i hi=>by simp
 have b0:=hb 0 (by omega);have b4:=hb 4 (by omega);rw[g]at b0 b4;simp only[hl.2]at b0 b4;exact ex_rest x hx hq.1 hq.2.1 hq.2.2 (by omega) b0 b4 a1_0 a1_1 a1_2 a1_3 a1_4 w
theorem larderref23_expr.calls (k:Nat) (a0:Bs) (a1_0:Bs) (a1_1:Int) (a1_2:Int) (a1_3:Int) (a1_4:Int) (r1:List Bs) (r2:Bool) (w:World) (h:larderref23_expr.f k a0 a1_0 a1_1 a1_2 a1_3 a1_4=some (r1,r2)):
 Calls Tryz.prog 60 #[.string a0,.agg #[.string a1_0,.int .i64 a1_1,.int .u8 a1_2,.int .i64 a1_3,.int .i64 a1_4]] w fun e w'=>∃v0_:Value,e= .returned (.tuple #[v0_,.bool r2])∧Kd.R Kd.string 9 w' w.heap.size (fun _=>True) v0_ r1∧Below w.heap.size w w':=by
 unfold larderref23_expr.f at h;simp only[← beq_iff_eq (α:=List UInt8)]at h;replace h:=ite_b h;rcases h with⟨c0,h⟩|⟨c0,h⟩
 ·
  simp only[Option.some.injEq,Prod.mk.injEq]at h;obtain⟨rfl,rfl⟩:=h;go_enter Tryz.func60,Tryz.ntmps60;go_upto_region 1 with(first|((with_reducible refine gate_dst (N:=3) rfl ?_);refine bxE (N:=3) (cs:=#[.string a1_0,.int .i64 a1_1,.int .u8 a1_2,.int .i64 a1_3,.int .i64 a1_4]) (t:=42) ?_;intro g hg w4 hbox hb4))
  subst hg;have X:=η hbox;have B4:=η hb4;clear hbox hb4;obtain⟨e0,e1,e2,e3,e4,ef⟩:=hp5 X.out;go_wp2;go_ret2;exact⟨_,rfl,lit_row _ B4.out.size _ (by simp),bal B4.out _⟩
 replace h:=ite_b h;rcases h with⟨c1,h⟩|⟨c1,h⟩
 · replace h:=Option.bind_eq_some_iff.mp h
   obtain⟨t,q,h⟩:=h;replace q:=η q;replace h:=ite_b h;rcases h with⟨rfl,h⟩|⟨rfl,h⟩
   all_goals
    simp only[Option.some.injEq,Prod.mk.injEq]at h;obtain⟨rfl,rfl⟩:=h;go_enter Tryz.func60,Tryz.ntmps60;go_upto_region 1 with(first|((with_reducible refine gate_dst (N:=3) rfl ?_);refine bxE (N:=3) (cs:=#[.string a1_0,.int .i64 a1_1,.int .u8 a1_2,.int .i64 a1_3,.int .i64 a1_4]) (t:=42) ?_;intro g hg w4 hbox hb4))
    subst hg;have X:=η hbox;have B4:=η hb4;clear hbox hb4;obtain⟨e0,e1,e2,e3,e4,ef⟩:=hp5 X.out;go_wp2_with(first|(go_at_call 12;(with_reducible refine(is1 (by with_reducible assumption) _).mono ?_);rintro e_ w5 ⟨rfl,H5⟩;have B5:=η (below_step B4.out H5)))
    go_ret2
    first
    |exact⟨_,rfl,lit_row _ B5.out.size _ (by simp),bal B5.out _⟩
    |exact⟨_,rfl,Kd.R_nil _ _ _ _ _,B5.out⟩
 replace h:=ite_b h;rcases h with⟨c2,h⟩|⟨c2,h⟩
 · replace h:=η h
   obtain⟨hs,hb⟩:=wfacts (eq_of_beq c2);have b5:∀h:5<a0.size,((a0[5]'h).toNat:Int)=54:=hb 5 (by decide);clear hb;have hs:a0.size=6:=hs;have P1:=pack1;go_enter Tryz.func60,Tryz.ntmps60;go_upto_region 1 with(first|((with_reducible refine gate_dst (N:=3) rfl ?_);refine bxE (N:=3) (cs:=#[.string a1_0,.int .i64 a1_1,.int .u8 a1_2,.int .i64 a1_3,.int .i64 a1_4]) (t:=42) ?_;intro g hg w4 hbox hb4))
   subst hg;have X:=η hbox;have B4:=η hb4;clear hbox hb4;go_upto_region 9 with fail
   generalize hw:World.alloc w4 _=w6;have X6:=η (show w6.heap[w.heap.size]? =some (.cells #[.string a1_0,.int .i64 a1_1,.int .u8 a1_2,.int .i64 a1_3,.int .i64 a1_4] 42 (0,0)) from hw▸hp_alloc X.out _);have B6:=η (show Below w.heap.size w w6 from hw▸bal B4.out _);clear hw X B4;obtain⟨e0,e1,e2,e3,e4,ef⟩:=hp5 X6.out;go_wp2_with(first|(go_at_call 87;refine(larderref23_prim.calls k _ _ _ _ _ _ _ _ h.out).mono ?_;rintro e_ w7 ⟨v7,rfl,R7,H7⟩;have RR:=η R7;have HH:=η H7;clear R7 H7))
   go_ret2;exact⟨_,rfl,Kd.R_lower RR.out B6.out.size,below_step B6.out HH.out⟩
 replace h:=ite_b h;rcases h with⟨c,h⟩|⟨_,h⟩
 · simp only[Option.some.injEq,Prod.mk.injEq]at h
   obtain⟨rfl,rfl⟩:=h;exact ex_lv 49 (by decide) (eq_of_beq c) (by decide) (by decide+kernel) (by decide+kernel) (by decide) a1_0 a1_1 a1_2 a1_3 a1_4 w
 replace h:=ite_b h;rcases h with⟨c,h⟩|⟨_,h⟩
 · simp only[Option.some.injEq,Prod.mk.injEq]at h
   obtain⟨rfl,rfl⟩:=h;exact ex_lv 50 (by decide) (eq_of_beq c) (by decide) (by decide+kernel) (by decide+kernel) (by decide) a1_0 a1_1 a1_2 a1_3 a1_4 w
 replace h:=ite_b h;rcases h with⟨c,h⟩|⟨_,h⟩
 · simp only[Option.some.injEq,Prod.mk.injEq]at h
   obtain⟨rfl,rfl⟩:=h;exact ex_lv 51 (by decide) (eq_of_beq c) (by decide) (by decide+kernel) (by decide+kernel) (by decide) a1_0 a1_1 a1_2 a1_3 a1_4 w
 replace h:=ite_b h;rcases h with⟨c,h⟩|⟨_,h⟩
 · simp only[Option.some.injEq,Prod.mk.injEq]at h
   obtain⟨rfl,rfl⟩:=h;exact ex_lv 52 (by decide) (eq_of_beq c) (by decide) (by decide+kernel) (by decide+kernel) (by decide) a1_0 a1_1 a1_2 a1_3 a1_4 w
 replace h:=ite_b h;rcases h with⟨c,h⟩|⟨_,h⟩
 · simp only[Option.some.injEq,Prod.mk.injEq]at h
   obtain⟨rfl,rfl⟩:=h;exact ex_lv 53 (by decide) (eq_of_beq c) (by decide) (by decide+kernel) (by decide+kernel) (by decide) a1_0 a1_1 a1_2 a1_3 a1_4 w
 replace h:=ite_b h;rcases h with⟨c,h⟩|⟨_,h⟩
 · simp only[Option.some.injEq,Prod.mk.injEq]at h
   obtain⟨rfl,rfl⟩:=h;exact ex_rs 49 (by decide) (eq_of_beq c) (by decide) (by decide+kernel) (by decide) a1_0 a1_1 a1_2 a1_3 a1_4 w
 replace h:=ite_b h;rcases h with⟨c,h⟩|⟨_,h⟩
 · simp only[Option.some.injEq,Prod.mk.injEq]at h
   obtain⟨rfl,rfl⟩:=h;exact ex_rs 50 (by decide) (eq_of_beq c) (by decide) (by decide+kernel) (by decide) a1_0 a1_1 a1_2 a1_3 a1_4 w
 replace h:=ite_b h;rcases h with⟨c,h⟩|⟨_,h⟩
 · simp only[Option.some.injEq,Prod.mk.injEq]at h
   obtain⟨rfl,rfl⟩:=h;exact ex_rs 51 (by decide) (eq_of_beq c) (by decide) (by decide+kernel) (by decide) a1_0 a1_1 a1_2 a1_3 a1_4 w
 replace h:=ite_b h;rcases h with⟨c,h⟩|⟨_,h⟩
 · simp only[Option.some.injEq,Prod.mk.injEq]at h
   obtain⟨rfl,rfl⟩:=h;exact ex_rs 52 (by decide) (eq_of_beq c) (by decide) (by decide+kernel) (by decide) a1_0 a1_1 a1_2 a1_3 a1_4 w
 replace h:=ite_b h;rcases h with⟨c,h⟩|⟨_,h⟩
 · simp only[Option.some.injEq,Prod.mk.injEq]at h
   obtain⟨rfl,rfl⟩:=h;exact ex_rs 53 (by decide) (eq_of_beq c) (by decide) (by decide+kernel) (by decide) a1_0 a1_1 a1_2 a1_3 a1_4 w
 exact absurd h (by simp)
def larderref23_rule.f (k:Nat) (a0:Bs) (a1_0:Bs) (a1_1:Int) (a1_2:Int) (a1_3:Int) (a1_4:Int):Option (List Bs×Bool):=if a0.toList=([77,97,112,115]:List UInt8)then((larderref23_is.f k a1_0 a1_1 a1_2 a1_3 a1_4 (([(⟨#[109,97,112]⟩:Bs)]:List Bs))).bind fun t258=>(if t258=true then(some ((([(⟨#[109,97,112]⟩:Bs),(⟨#[78,65,77,69]⟩:Bs),(⟨#[59]⟩:Bs),(⟨#[77,97,112,115]⟩:Bs)]:List Bs)),true))else(some (([]:List Bs),true))))else(if a0.toList=([83,116,109,116,115]:List UInt8)then(if a1_2=36 then(some (([]:List Bs),true))else((larderref23_is.f k a1_0 a1_1 a1_2 a1_3 a1_4 (([(⟨#[125]⟩:Bs)]:List Bs))).bind fun t265=>(if t265=true then(some (([]:List Bs),true))else(some ((([(⟨#[83,116,109,116]⟩:Bs),(⟨#[83,116,109,116,115]⟩:Bs)]:List Bs)),true)))))else(if a0.toList=([83,116,109,116]:List UInt8)then((larderref23_stmt.f a1_0 a1_1 a1_2 a1_3 a1_4).bind fun bt269=>(some (bt269.1,bt269.2)))else(if a0.toList=([65,102,116,101,114]:List UInt8)then((larderref23_is.f k a1_0 a1_1 a1_2 a1_3 a1_4 (([(⟨#[91]⟩:Bs)]:List Bs))).bind fun t276=>(if t276=true then(some ((([(⟨#[91]⟩:Bs),(⟨#[69,120,112,114]⟩:Bs),(⟨#[93]⟩:Bs),(⟨#[61]⟩:Bs),(⟨#[69,120,112,114]⟩:Bs),(⟨#[59]⟩:Bs)]:List Bs)),true))else(some ((([(⟨#[61]⟩:Bs),(⟨#[69,120,112,114]⟩:Bs),(⟨#[59]⟩:Bs)]:List Bs)),true))))else(if a0.toList=([73,116,101,109,115]:List UInt8)then((larderref23_is.f k a1_0 a1_1 a1_2 a1_3 a1_4 (([(⟨#[59]⟩:Bs)]:List Bs))).bind fun t286=>(if t286=true then(some ((([(⟨#[59]⟩:Bs)]:List Bs)),true))else(some ((([(⟨#[69,120,112,114]⟩:Bs),(⟨#[77,111,114,101]⟩:Bs)]:List Bs)),true))))else(if a0.toList=([77,111,114,101]:List UInt8)then((larderref23_is.f k a1_0 a1_1 a1_2 a1_3 a1_4 (([(⟨#[44]⟩:Bs)]:List Bs))).bind fun t296=>(if t296=true then(some ((([(⟨#[44]⟩:Bs),(⟨#[69,120,112,114]⟩:Bs),(⟨#[77,111,114,101]⟩:Bs)]:List Bs)),true))else(some ((([(⟨#[59]⟩:Bs)]:List Bs)),true))))else(if a0.toList=([66,108,111,99,107]:List UInt8)then(some ((([(⟨#[123]⟩:Bs),(⟨#[83,116,109,116,115]⟩:Bs),(⟨#[125]⟩:Bs)]:List Bs)),true))else(if a0.toList=([69,108,115,101]:List UInt8)then((larderref23_is.f k a1_0 a1_1 a1_2 a1_3 a1_4 (([(⟨#[101,108,115,101]⟩:Bs)]:List Bs))).bind fun t309=>(if t309=true then(some ((([(⟨#[101,108,115,101]⟩:Bs),(⟨#[79,116,104,101,114]⟩:Bs)]:List Bs)),true))else(some (([]:List Bs),true))))else(if a0.toList=([79,116,104,101,114]:List UInt8)then((larderref23_is.f k a1_0 a1_1 a1_2 a1_3 a1_4 (([(⟨#[105,102]⟩:Bs)]:List Bs))).bind fun t316=>(if t316=true then(some ((([(⟨#[105,102]⟩:Bs),(⟨#[69,120,112,114]⟩:Bs),(⟨#[66,108,111,99,107]⟩:Bs),(⟨#[69,108,115,101]⟩:Bs)]:List Bs)),true))else(some ((([(⟨#[66,108,111,99,107]⟩:Bs)]:List Bs)),true))))else((larderref23_expr.f k a0 a1_0 a1_1 a1_2 a1_3 a1_4).bind fun bt323=>(some (bt323.1,bt323.2)))))))))))
theorem st_c {t0:Bs} {t1 t2 t3 t4:Int} {p:List Bs×Bool} (h:Hid (larderref23_stmt.f t0 t1 t2 t3 t4=some p)) (W:World):
 Calls Tryz.prog 59 #[.agg #[.string t0,.int .i64 t1,.int .u8 t2,.int .i64 t3,.int .i64 t4]] W fun e w'=>∃v0_:Value,e= .returned (.tuple #[v0_,.bool p.2])∧Kd.R Kd.string 9 w' W.heap.size (fun _=>True) v0_ p.1∧Below W.heap.size W w':=larderref23_stmt.calls t0 t1 t2 t3 t4 p.1 p.2 W h
theorem ex_c {k:Nat} {s t0:Bs} {t1 t2 t3 t4:Int} {p:List Bs×Bool} (h:Hid (larderref23_expr.f k s t0 t1 t2 t3 t4=some p)) (W:World):
 Calls Tryz.prog 60 #[.string s,.agg #[.string t0,.int .i64 t1,.int .u8 t2,.int .i64 t3,.int .i64 t4]] W fun e w'=>∃v0_:Value,e= .returned (.tuple #[v0_,.bool p.2])∧Kd.R Kd.string 9 w' W.heap.size (fun _=>True) v0_ p.1∧Below W.heap.size W w':=larderref23_expr.calls k s t0 t1 t2 t3 t4 p.1 p.2 W h
theorem larderref23_rule.calls (k:Nat) (a0:Bs) (a1_0:Bs) (a1_1:Int) (a1_2:Int) (a1_3:Int) (a1_4:Int) (r1:List Bs) (r2:Bool) (w:World) (h:larderref23_rule.f k a0 a1_0 a1_1 a1_2 a1_3 a1_4=some (r1,r2)):
 Calls Tryz.prog 28 #[.string a0,.agg #[.string a1_0,.int .i64 a1_1,.int .u8 a1_2,.int .i64 a1_3,.int .i64 a1_4]] w fun e w'=>∃v0_:Value,e= .returned (.tuple #[v0_,.bool r2])∧Kd.R Kd.string 9 w' w.heap.size (fun _=>True) v0_ r1∧Below w.heap.size w w':=by
 unfold larderref23_rule.f at h;simp only[← beq_iff_eq (α:=Int),← beq_iff_eq (α:=List UInt8)]at h
 repeat' (first|(replace h:=ite_b h;first|(rcases h with(⟨rfl,h⟩|⟨rfl,h⟩))|(rcases h with(⟨c,h⟩|⟨c,h⟩)))|(replace h:=Option.bind_eq_some_iff.mp h;obtain⟨t,q,h⟩:=h;replace q:=η q;(try dsimp only at h)))
 all_goals
  simp only[Option.some.injEq,Prod.mk.injEq]at h;obtain⟨rfl,rfl⟩:=h;go_enter Tryz.func28,Tryz.ntmps28;go_upto_region 1 with(first|((with_reducible refine gate_dst (N:=3) rfl ?_);refine bxE (N:=3) (cs:=#[.string a1_0,.int .i64 a1_1,.int .u8 a1_2,.int .i64 a1_3,.int .i64 a1_4]) (t:=42) ?_;intro g hg w4 hbox hb4))
  subst hg;have KX:=η (fun(W':World) (H:Below w4.heap.size w4 W')=>hp_keep hbox H);have X:=η (Below.refl w4.heap.size w4);have B4:=η hb4;obtain⟨e0,e1,e2,e3,e4,ef⟩:=hp5 hbox;clear hbox hb4;go_wp2_with(first|(go_at_call 12;(with_reducible first|refine(is1 (by with_reducible assumption) _).mono ?_|refine(is2 (by with_reducible assumption) _).mono ?_);rintro e_ w5 ⟨rfl,H5⟩;replace X:=η (X.out.trans (H5.mono X.out.size));clear e0 e1 e2 e3 e4 ef H5;obtain⟨e0,e1,e2,e3,e4,ef⟩:=hp5 (KX.out w5 X.out))|(go_at_call 59;(with_reducible refine(st_c (by with_reducible assumption) _).mono ?_);rintro e_ w5 ⟨v5,rfl,R5,H5⟩;have RR:=η R5;have HH:=η H5;clear R5 H5)|(go_at_call 60;(with_reducible refine(ex_c (by with_reducible assumption) _).mono ?_);rintro e_ w5 ⟨v5,rfl,R5,H5⟩;have RR:=η R5;have HH:=η H5;clear R5 H5))
  go_ret2
  first
  |exact⟨_,rfl,Kd.R_lower RR.out B4.out.size,below_step B4.out HH.out⟩
  |exact⟨_,rfl,lit_row _ (Nat.le_trans B4.out.size X.out.size) _ (by simp),Below.alloc (B4.out.trans (X.out.mono B4.out.size)) (Nat.le_trans B4.out.size X.out.size) _⟩
  |exact⟨_,rfl,Kd.R_nil _ _ _ _ _,B4.out.trans (X.out.mono B4.out.size)⟩
open YtbemddpmohoooaaGreatDoorW.PrintLast YtbemddpmohoooaaGreatDoorW.PrintMore
def larderref23_matches.f (a0:Bs) (a1_0:Bs) (a1_1:Int) (a1_2:Int) (a1_3:Int) (a1_4:Int):Option (Bool):=if a0.toList=([78,65,77,69]:List UInt8)then(some (a1_2==110))else(if a0.toList=([78,85,77,66,69,82]:List UInt8)then(some (a1_2==57))else(if a0.toList=([69,78,68]:List UInt8)then(some (a1_2==36))else(if a1_2=109 then(some (a1_0.toList==a0.toList))else(some false))))
theorem larderref23_matches.calls (a0:Bs) (a1_0:Bs) (a1_1:Int) (a1_2:Int) (a1_3:Int) (a1_4:Int) (r:Bool) (w:World) (h:larderref23_matches.f a0 a1_0 a1_1 a1_2 a1_3 a1_4=some r):
 Calls Tryz.prog 29 #[.string a0,.agg #[.string a1_0,.int .i64 a1_1,.int .u8 a1_2,.int .i64 a1_3,.int .i64 a1_4]] w fun e w'=>e= .returned (.bool r)∧Below w.heap.size w w':=by
 unfold larderref23_matches.f at h;simp only[← beq_iff_eq (α:=Int),← beq_iff_eq (α:=List UInt8)]at h
 repeat' (replace h:=ite_b h;rcases h with⟨c,h⟩|⟨c,h⟩)
 all_goals
  obtain rfl:=Option.some.inj h;clear h;go_enter Tryz.func29,Tryz.ntmps29;go_upto_region 1 with(first|((with_reducible refine gate_dst (N:=3) rfl ?_);refine bxE (N:=3) (cs:=#[.string a1_0,.int .i64 a1_1,.int .u8 a1_2,.int .i64 a1_3,.int .i64 a1_4]) (t:=42) ?_;intro g hg w4 hbox hb4))
  subst hg;have B4:=η hb4;obtain⟨e0,e1,e2,e3,e4,ef⟩:=hp5 hbox;clear hbox hb4;go_wp2_with fail
  go_ret;exact⟨by first|rfl|simp[*],B4.out⟩
theorem less_flip:∀(a b:List UInt8),Op.bytesLess b a= !(Op.bytesLess a b || a==b)
 |[],[]=>by simp[Op.bytesLess]
 |_::_,[]=>by simp[Op.bytesLess]
 |[],_::_=>by simp[Op.bytesLess]
 |x::a,y::b=>by
  rw[Op.bytesLess,Op.bytesLess,less_flip a b];rcases Nat.lt_trichotomy x.toNat y.toNat with h|h|h
  · have h1:x<y:=h
    have h2:¬y<x:=fun q=>Nat.lt_asymm h q
    have h3:x≠y:=fun q=>by subst q;exact Nat.lt_irrefl _ h
    have h4:y≠x:=fun q=>h3 q.symm
    simp[h1,h2,h4]
  · have h3:x=y:=UInt8.toNat_inj.mp h
    subst h3;simp
  · have h1:y<x:=h
    have h2:¬x<y:=fun q=>Nat.lt_asymm h q
    have h3:x≠y:=fun q=>by subst q;exact Nat.lt_irrefl _ h
    have h4:y≠x:=fun q=>h3 q.symm
    simp[h1,h2,h3]
theorem gtr_str (t:TypeId) (a b:Bs):binOp .gtr t (.string a) (.string b)=pure (.bool (Op.bytesLess b.toList a.toList)):=by
 rw[binOp_string_gtr,less_flip a.toList b.toList]
attribute [local go_sem high] gtr_str
def larderref23_great.l0:Nat→Bs→Option (Bool)
 |0,_=>none
 |k+1,x0=>if(x0.size:Int)>1 then(if 0<(x0.size:Int)then(if(bt x0 0)=48 then(if 1≤(x0.size:Int)then(larderref23_great.l0 k (x0.extract 1 x0.size))else(none))else(if(x0.size:Int)>19 then(some true)else(if(x0.size:Int)=19 then(some (Op.bytesLess ([57,50,50,51,51,55,50,48,51,54,56,53,52,55,55,53,56,48,55]:List UInt8) x0.toList))else(some false))))else(none))else(if(x0.size:Int)>19 then(some true)else(if(x0.size:Int)=19 then(some (Op.bytesLess ([57,50,50,51,51,55,50,48,51,54,56,53,52,55,55,53,56,48,55]:List UInt8) x0.toList))else(some false)))
def larderref23_great.f (k:Nat) (a0:Bs):Option (Bool):=larderref23_great.l0 k a0
theorem larderref23_great.calls (k:Nat) (a0:Bs) (r:Bool) (w:World) (h:larderref23_great.f k a0=some r):
 Calls Tryz.prog 30 #[.string a0] w fun e w'=>e= .returned (.bool r)∧Drawn0 w w':=by
 have H:(larderref23_great.l0 k a0)=some r:=h;clear h;have H':=Aside0.mk H;clear H;go_enter Tryz.func30,Tryz.ntmps30;go_wp2;go_loopg [0] k (fun kq v0 w'=>∃(x0_1:Bs),v0= .string x0_1∧Aside0 (larderref23_great.l0 kq x0_1=some r)∧Aside0 (kq≤k)∧Drawn0 w w')
 case atStart=>exact⟨(a0),(by first|rfl|(simp;done)|(simp[*];done)),H',⟨Nat.le_refl _⟩,by repeat(first|exact Drawn0.refl _|apply Drawn0.step)⟩
 case round=>
  clear H';obtain⟨x0_1,rfl,HA,HK1,⟨m1,rfl⟩⟩:=hrel;cases gk with
  |zero=>exact absurd HA.out (by simp[larderref23_great.l0])
  |succ k1=>
   have H:=HA.out;clear HA;simp only[larderref23_great.l0]at H;by_cases c2:(x0_1.size:Int)>1
   · rw[if_pos c2]at H
     have c2b0:decide (1<(x0_1.size:Int))=true:=decide_eq_true c2;have c2b1:decide (1<x0_1.size)=true:=decide_eq_true (by omega);clear c2;by_cases c3:0<(x0_1.size:Int)
     · rw[if_pos c3]at H
       have c3b0:decide (0<(x0_1.size:Int))=true:=decide_eq_true c3;have c3b1:decide (0<x0_1.size)=true:=decide_eq_true (by omega);clear c3;by_cases c5:(bt x0_1 0)=48
       · rw[if_pos c5]at H
         have c5b0:((bt x0_1 0)==48)=true:=beq_iff_eq.mpr c5;have c5b1:((bt x0_1 0) !=48)=false:=bne_eq_false_iff_eq.mpr c5;clear c5;by_cases c6:1≤(x0_1.size:Int)
         · rw[if_pos c6]at H
           have c6b0:=eq_true c6;have c6b1:decide (1≤(x0_1.size:Int))=true:=decide_eq_true c6;clear c6;have H':=Aside0.mk H;clear H;have p4:0≤(0:Int):=(by omega);have q4:0<x0_1.size:=(by have:(0:Int)<(x0_1.size:Int):=of_decide_eq_true (by first|(with_reducible assumption)|assumption);omega);have hx4:∀h:0<x0_1.size,((x0_1[0]'h).toNat:Int)=bt x0_1 0:=bt_at x0_1 0;clear p4;have qi4:(0<(x0_1.size:Int))=True:=eq_true (of_decide_eq_true (by first|(with_reducible assumption)|assumption));replace q4:=eq_true q4;go_wp2;go_roundg k1
           case measure=>have:=HK1.out;omega
           case rel=>exact⟨(x0_1.extract 1 x0_1.size),(by first|rfl|(simp;done)|(simp[*];done)),H',⟨by have:=HK1.out;omega⟩,by repeat(first|exact Drawn0.refl _|apply Drawn0.step)⟩
         · rw[if_neg c6]at H
           exact absurd H (by simp)
       · rw[if_neg c5]at H
         have c5b0:((bt x0_1 0)==48)=false:=beq_eq_false_iff_ne.mpr c5;have c5b1:((bt x0_1 0) !=48)=true:=bne_iff_ne.mpr c5;by_cases c7:(x0_1.size:Int)>19
         · rw[if_pos c7]at H
           have c7b0:decide (19<(x0_1.size:Int))=true:=decide_eq_true c7;have c7b1:decide (19<x0_1.size)=true:=decide_eq_true (by omega);clear c7;obtain rfl:=Option.some.inj H;have p4:0≤(0:Int):=(by omega);have q4:0<x0_1.size:=(by have:(0:Int)<(x0_1.size:Int):=of_decide_eq_true (by first|(with_reducible assumption)|assumption);omega);have hx4:∀h:0<x0_1.size,((x0_1[0]'h).toNat:Int)=bt x0_1 0:=bt_at x0_1 0;clear p4;have qi4:(0<(x0_1.size:Int))=True:=eq_true (of_decide_eq_true (by first|(with_reducible assumption)|assumption));replace q4:=eq_true q4;go_wp2;go_ret;exact⟨by first|rfl|(simp;done)|(simp[*];done),by repeat(first|exact Drawn0.refl _|apply Drawn0.step)⟩
         · rw[if_neg c7]at H
           have c7b0:decide (19<(x0_1.size:Int))=false:=decide_eq_false c7;have c7b1:decide (19<x0_1.size)=false:=decide_eq_false (by omega);clear c7;by_cases c8:(x0_1.size:Int)=19
           · rw[if_pos c8]at H
             have c8b0:((x0_1.size:Int)==19)=true:=beq_iff_eq.mpr c8;have c8b1:((x0_1.size:Int) !=19)=false:=bne_eq_false_iff_eq.mpr c8;clear c8;obtain rfl:=Option.some.inj H;have p4:0≤(0:Int):=(by omega);have q4:0<x0_1.size:=(by have:(0:Int)<(x0_1.size:Int):=of_decide_eq_true (by first|(with_reducible assumption)|assumption);omega);have hx4:∀h:0<x0_1.size,((x0_1[0]'h).toNat:Int)=bt x0_1 0:=bt_at x0_1 0;clear p4;have qi4:(0<(x0_1.size:Int))=True:=eq_true (of_decide_eq_true (by first|(with_reducible assumption)|assumption));replace q4:=eq_true q4;go_wp2;go_ret;exact⟨by first|rfl|(simp;done)|(simp[*];done),by repeat(first|exact Drawn0.refl _|apply Drawn0.step)⟩
           · rw[if_neg c8]at H
             have c8b0:((x0_1.size:Int)==19)=false:=beq_eq_false_iff_ne.mpr c8;have c8b1:((x0_1.size:Int) !=19)=true:=bne_iff_ne.mpr c8;obtain rfl:=Option.some.inj H;have p4:0≤(0:Int):=(by omega);have q4:0<x0_1.size:=(by have:(0:Int)<(x0_1.size:Int):=of_decide_eq_true (by first|(with_reducible assumption)|assumption);omega);have hx4:∀h:0<x0_1.size,((x0_1[0]'h).toNat:Int)=bt x0_1 0:=bt_at x0_1 0;clear p4;have qi4:(0<(x0_1.size:Int))=True:=eq_true (of_decide_eq_true (by first|(with_reducible assumption)|assumption));replace q4:=eq_true q4;go_wp2;go_ret;exact⟨by first|rfl|(simp;done)|(simp[*];done),by repeat(first|exact Drawn0.refl _|apply Drawn0.step)⟩
     · rw[if_neg c3]at H
       exact absurd H (by simp)
   · rw[if_neg c2]at H
     have c2b0:decide (1<(x0_1.size:Int))=false:=decide_eq_false c2;have c2b1:decide (1<x0_1.size)=false:=decide_eq_false (by omega);clear c2;by_cases c9:(x0_1.size:Int)>19
     · rw[if_pos c9]at H
       have c9b0:decide (19<(x0_1.size:Int))=true:=decide_eq_true c9;have c9b1:decide (19<x0_1.size)=true:=decide_eq_true (by omega);clear c9;obtain rfl:=Option.some.inj H;go_wp2;go_ret;exact⟨by first|rfl|(simp;done)|(simp[*];done),by repeat(first|exact Drawn0.refl _|apply Drawn0.step)⟩
     · rw[if_neg c9]at H
       have c9b0:decide (19<(x0_1.size:Int))=false:=decide_eq_false c9;have c9b1:decide (19<x0_1.size)=false:=decide_eq_false (by omega);clear c9;by_cases c10:(x0_1.size:Int)=19
       · rw[if_pos c10]at H
         have c10b0:((x0_1.size:Int)==19)=true:=beq_iff_eq.mpr c10;have c10b1:((x0_1.size:Int) !=19)=false:=bne_eq_false_iff_eq.mpr c10;clear c10;obtain rfl:=Option.some.inj H;go_wp2;go_ret;exact⟨by first|rfl|(simp;done)|(simp[*];done),by repeat(first|exact Drawn0.refl _|apply Drawn0.step)⟩
       · rw[if_neg c10]at H
         have c10b0:((x0_1.size:Int)==19)=false:=beq_eq_false_iff_ne.mpr c10;have c10b1:((x0_1.size:Int) !=19)=true:=bne_iff_ne.mpr c10;obtain rfl:=Option.some.inj H;go_wp2;go_ret;exact⟨by first|rfl|(simp;done)|(simp[*];done),by repeat(first|exact Drawn0.refl _|apply Drawn0.step)⟩
end Go.Proofs.YtbemddpmohoooaaGreatDoor.PShelfFormats
