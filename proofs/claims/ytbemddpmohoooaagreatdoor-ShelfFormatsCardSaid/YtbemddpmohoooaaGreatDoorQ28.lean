import Derived.Test.YtbemddpmohoooaaGreatDoorQ26
import Derived.Test.YtbemddpmohoooaaGreatDoorQ27
set_option linter.unusedVariables false
set_option linter.unusedSimpArgs false
set_option linter.unusedSectionVars false
set_option maxHeartbeats 128000000
set_option maxRecDepth 100000
namespace Go.Proofs.YtbemddpmohoooaaGreatDoor
open PShelfFormats RowKit YtbemddpmohoooaaGreatDoorW YtbemddpmohoooaaGreatDoorW.PrintWords
theorem str_c {w:World} {A:Option Addr} {n:Nat} {xs:List Bs} (h:Kd.C Kd.string w A n xs) (pl:Int) (h0:0≤pl) (x:Bs) (hx:xs[pl.toNat]? =some x):∃ad,A=some ad∧∀W:World,Below w.heap.size w W→W.cell? (ad.add pl.toNat)=some (.string x):=by
 have hn:n=xs.length:=h.1.symm;have hl:=(List.getElem?_eq_some_iff.mp hx).1;obtain⟨ad,c,rfl,_,hK,hc⟩:=Kd.C_get h ByteArray.empty pl h0 (by omega);rw[List.getD_eq_getElem?_getD,hx]at hK;obtain rfl:c=[.string x]:=hK;have:=hc 0 _ rfl;have e:Kd.string.sz=1:=rfl;rw[e,Nat.mul_one,Nat.add_zero]at this;exact⟨ad,rfl,fun W H=>(Turn.of_below (F:=fun _=>False) H (Nat.le_refl _)).cell this (fun z=>z)⟩
theorem part_calls {w:World} {r:List Value} {m:Nat} {q:S82} {A4:Option Addr} {c4:Nat} {A5:Option Addr} {c5:Nat} {A6:Option Addr} {c6:Nat} {A11:Option Addr} {c11:Nat} (h:RowAt w r m q A4 c4 A5 c5 A6 c6 A11 c11) (W:World) (H:Below w.heap.size w W):
 (q.f2=true∧Calls Tryz.prog 34 #[.agg (c62 q.f0 A4 c4 A5 c5 A6 c6)] W fun e w'=>e= .returned (.bool true)∧Below W.heap.size W w')∨(q.f2=false∧Calls Tryz.prog 35 #[.agg (c80 q.f1 A11 c11)] W fun e w'=>e= .returned (.bool true)∧Below W.heap.size W w'):=by
 have hm:∀k,k<w.heap.size→k<w.heap.size→W.heap[k]? =w.heap[k]? :=fun k hk _=>H.block k hk
 rcases h.po with⟨h1,_,ls,h2⟩|⟨h1,_,t,h2⟩
 · exact .inl ⟨h1,sx_true h2 W A4 c4 A5 c5 A6 c6⟩
 · exact .inr ⟨h1,ex_true h2 W A11 c11⟩
def FmLoop (w4:World) (N:Nat) (kq:Nat) (v3:Value) (W:World):Prop:=∃j:Nat,v3= .int .i64 (j:Int)∧j≤N∧N-j<kq∧Below w4.heap.size w4 W
theorem formed_call (ms:List Bs) (hms:∀x∈ms,NameS x) (hml:ms.length≤8000000) (ss:List S62) (ls:Nat→List (List UInt8)) (n:Nat) (h:SXs ss ls n) (hn:n≤8000000) (w:World) (A:Option Addr) (c:Nat) (A':Option Addr) (c':Nat) (hlc:ms.length≤c) (hC:Kd.C Kd.string w A ms.length ms) (hl:ss.length≤c') (hF:Kd.F k62 w (fun k=>k<w.heap.size) A' ss.length ss):
 Calls Tryz.prog 14 #[.agg #[.slice A ms.length c,.slice A' ss.length c']] w fun e w'=>e= .returned (.bool true)∧Below w.heap.size w w':=by
 have PC:=η (fun(W:World) (H:Below w.heap.size w W)=>parts_call ss ls n h hn W A ms.length c A' c' hl (Kd.F_mono (Kd.F_step hF (fun k hk _=>H.block k hk)) (fun k hk=>Nat.lt_of_lt_of_le hk H.size)));replace hms:=η hms;replace hC:=η hC;clear h hF;go_enter Tryz.func14,Tryz.ntmps14;go_upto_region 2 with(first|((with_reducible refine gate_dst (N:=1) rfl ?_);refine bxE (N:=1) (cs:=#[.slice A ms.length c,.slice A' ss.length c']) (t:=31) ?_;intro g hg w4 hbox hb))
 have SC:=η (show ∀W',Below w4.heap.size w4 W'→W'.cell? ⟨w.heap.size,0,none⟩=some (.slice A ms.length c)∧W'.cell? ⟨w.heap.size,1,none⟩=some (.slice A' ss.length c') from fun W' H=>by
  obtain⟨q0,q1,qf⟩:=heap_two ((Turn.new H).heap hbox (fun z=>z));rw[hg]at q0 q1;exact⟨q0,q1⟩)
 subst hg;have B4:=η hb;clear hbox hb;go_loopg [3] (ms.length+1) (fun kq v3 W=>FmLoop w4 ms.length kq v3 W)
 case atStart=>exact⟨0,rfl,Nat.zero_le _,by omega,Below.refl _ _⟩
 case round=>
  obtain⟨j,rfl,hj,hkq,HB⟩:=hrel;obtain⟨q0,q1⟩:=SC.out wr HB;replace HB:=η HB;by_cases hlt:j<ms.length
  · have hltI:(j:Int)<(ms.length:Int):=by omega
    have hp0:(0:Int)≤(j:Int):=by omega
    have hp1:(j:Int)<1000000000:=by omega
    obtain⟨y,hy⟩:∃y,ms[j]? =some y:=⟨_,List.getElem?_eq_getElem hlt⟩;have hyn:=hms.out y (List.mem_of_getElem? hy);obtain⟨ad,eA,hc⟩:=str_c hC.out (j:Int) hp0 y (by rw[Int.toNat_natCast];exact hy);obtain rfl:=eA;have z0:=hc wr (below_step B4.out HB.out);have NC:=η (dname_call hyn wr);have REL:=η (show ∀W:World,Below w4.heap.size w4 W→FmLoop w4 ms.length (ms.length-j) (.int .i64 ((j:Int)+1)) W from fun W H=>⟨j+1,by simp,by omega,by omega,H⟩);have hms2:ms.length-j<gk:=by omega
    clear hc hy;generalize(j:Int)=pl at*;go_wp2_with(first|(go_at_call 32;refine NC.out.mono ?_;rintro e_ w5 ⟨rfl,H5⟩;have HB5:=η (below_step HB.out H5);clear H5))
    go_roundg (ms.length-j)
    case measure=>exact hms2
    case rel=>exact REL.out _ HB5.out
  · have hlt2:¬(j:Int)<(ms.length:Int):=by omega
    have P5:=η (PC.out wr (below_step B4.out HB.out));clear hj hkq;obtain⟨wo,rfl⟩:∃wo:World,wo=wr:=⟨_,rfl⟩;go_upto_region 8 with(first|(go_at_call 33;refine P5.out.mono ?_;rintro e_ wp ⟨A1,cp,rows,mws,rfl,N1,hpr,hrn,H1⟩;have HP:=η (below_step (below_step B4.out HB.out) H1);have HPR:=η hpr;have HW1:=η H1;have NP:=η N1;have hw0:=η (below_step B4.out HB.out);clear H1 N1 hpr))
    clear q0 q1 P5 hlt hlt2;go_loopg [5] (rows.length+1) (fun kq v5 W=>FmLoop wp rows.length kq v5 W)
    case atStart=>exact⟨0,rfl,Nat.zero_le _,by omega,Below.refl _ _⟩
    case round=>
     obtain⟨i,rfl,hi,hkq,HB2⟩:=hrel;replace HB2:=η HB2;by_cases hlt:i<rows.length
     · obtain⟨m,hm,q,A4,c4,A5,c5,A6,c6,A11,c11,hq⟩:=HPR.out.2 i rows[i] (List.getElem?_eq_getElem hlt)
       have N1:=η (Kd.N_below NP.out HB2.out);obtain⟨g1,cp1,hv1,hg1,hg1b,cells1,hcells1⟩:=Kd.N_form N1.out (by omega);obtain⟨hv1a,hv1c⟩:A1=some ⟨g1,0,none⟩∧cp=cp1:=by injection hv1 with z1 z2 z3;exact⟨z1,z3⟩
       subst hv1a;subst hv1c;obtain⟨cr,hcl,hK,hcc,_⟩:=Kd.N_elem N1.out [] (i:Int) (by omega) (by omega)
       have hce:cr=rowL q A4 c4 A5 c5 A6 c6 A11 c11:=by
        have:=(Kd.FK_now hK).1;rw[List.getD_eq_getElem?_getD,Int.toNat_natCast,List.getElem?_eq_getElem hlt]at this;rw[this,← hq.e];rfl
       subst hce;have e15:(Kd.raw 15).sz=15:=rfl;rw[e15]at hcc;have hltI:(i:Int)<(rows.length:Int):=by omega
       have hp0:(0:Int)≤(i:Int):=by omega
       have hp1:(i:Int)<1000000000:=by omega
       have REL:=η (show ∀W:World,Below wp.heap.size wp W→FmLoop wp rows.length (rows.length-i) (.int .i64 ((i:Int)+1)) W from fun W H=>⟨i+1,by simp,by omega,by omega,H⟩);have hms2:rows.length-i<gk:=by omega
       have hpc:=part_calls hq wr (below_step HW1.out HB2.out);replace hq:=η hq;generalize(i:Int)=pl at*;have y0:wr.cell? ⟨g1,pl.toNat*15,none⟩=some (.int .i64 q.f0.f0):=hcc 0 _ rfl;have y1:wr.cell? ⟨g1,pl.toNat*15+1,none⟩=some (.string q.f0.f1):=hcc 1 _ rfl;have y2:wr.cell? ⟨g1,pl.toNat*15+2,none⟩=some (.string q.f0.f2):=hcc 2 _ rfl;have y3:wr.cell? ⟨g1,pl.toNat*15+3,none⟩=some (.string q.f0.f3):=hcc 3 _ rfl;have y4:wr.cell? ⟨g1,pl.toNat*15+4,none⟩=some (.slice A4 q.f0.f4.length c4):=hcc 4 _ rfl;have y5:wr.cell? ⟨g1,pl.toNat*15+5,none⟩=some (.slice A5 q.f0.f5.length c5):=hcc 5 _ rfl;have y6:wr.cell? ⟨g1,pl.toNat*15+6,none⟩=some (.slice A6 q.f0.f6.length c6):=hcc 6 _ rfl;have y7:wr.cell? ⟨g1,pl.toNat*15+7,none⟩=some (.int .i64 q.f1.f0):=hcc 7 _ rfl;have y8:wr.cell? ⟨g1,pl.toNat*15+8,none⟩=some (.int .i64 q.f1.f1):=hcc 8 _ rfl;have y9:wr.cell? ⟨g1,pl.toNat*15+9,none⟩=some (.string q.f1.f2):=hcc 9 _ rfl;have y10:wr.cell? ⟨g1,pl.toNat*15+10,none⟩=some (.string q.f1.f3):=hcc 10 _ rfl;have y11:wr.cell? ⟨g1,pl.toNat*15+11,none⟩=some (.slice A11 q.f1.f4.length c11):=hcc 11 _ rfl;have y12:wr.cell? ⟨g1,pl.toNat*15+12,none⟩=some (.bool q.f2):=hcc 12 _ rfl;have y13:wr.cell? ⟨g1,pl.toNat*15+13,none⟩=some (.int .i64 q.f3):=hcc 13 _ rfl;have y14:wr.cell? ⟨g1,pl.toNat*15+14,none⟩=some (.bool q.f4):=hcc 14 _ rfl;clear hcc hK hcl hv1 hm;rcases hpc with⟨e12,PK⟩|⟨e12,PK⟩
       · rw[e12]at y12
         replace PK:=η PK;go_wp2_with(first|(go_at_call 34;refine PK.out.mono ?_;rintro e_ w7 ⟨rfl,H7⟩;have HB7:=η (below_step HB2.out H7);have z12:=(Turn.new H7).cell y12 (fun z=>z);clear H7))
         go_roundg (rows.length-i)
         case measure=>exact hms2
         case rel=>exact REL.out _ HB7.out
       · rw[e12]at y12
         replace PK:=η PK;go_wp2_with(first|(go_at_call 35;refine PK.out.mono ?_;rintro e_ w7 ⟨rfl,H7⟩;have HB7:=η (below_step HB2.out H7);clear H7))
         go_roundg (rows.length-i)
         case measure=>exact hms2
         case rel=>exact REL.out _ HB7.out
     · have hlt2:¬(i:Int)<(rows.length:Int):=by omega
       have HF:=η (below_step HP.out HB2.out);go_wp2_with fail
       go_ret;exact⟨rfl,HF.out⟩
end Go.Proofs.YtbemddpmohoooaaGreatDoor
