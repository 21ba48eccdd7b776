import Derived.Test.YtbemddpmohoooaaGreatDoorQ28
import Derived.Test.YtbemddpmohoooaaGreatDoorQ32
set_option linter.unusedVariables false
set_option linter.unusedSimpArgs false
set_option linter.unusedSectionVars false
set_option maxHeartbeats 128000000
set_option maxRecDepth 100000
namespace Go.Proofs.YtbemddpmohoooaaGreatDoor
open PShelfFormats RowKit YtbemddpmohoooaaGreatDoorW YtbemddpmohoooaaGreatDoorW.PrintWords
def WR (W:World) (b:Nat) (o:List UInt8) (d:Nat):Prop:=∃p v,BD W b 69 [.int .i64 (d:Int)] o p v
theorem WR.c2 {W:World} {b:Nat} {o:List UInt8} {d:Nat} (h:WR W b o d):W.cell? ⟨b,2,none⟩=some (.int .i64 (d:Int)):=by
 obtain⟨p,v,h⟩:=h;simp[World.cell?,h.hb]
theorem WR.lt {W:World} {b:Nat} {o:List UInt8} {d:Nat} (h:WR W b o d):b<W.heap.size:=by
 obtain⟨p,v,h⟩:=h;exact h.lt
theorem WR.str {W:World} {b:Nat} {o:List UInt8} {d:Nat} (h:WR W b o d) (s:Bs) (hlen:o.length+s.size≤140737488355328):
 Calls Tryz.prog 51 #[.pointer (some ⟨b,0,none⟩),.string s] W fun e w'=>e= .returned (.tuple #[.int .i64 s.size,.nilIface])∧WR w' b (o++s.toList) d∧Wrt b W w':=by
 obtain⟨p,v,h⟩:=h;exact(wstr_call h s hlen).mono (fun e w' z=>⟨z.1,by obtain⟨v',q⟩:=z.2.1;exact⟨_,_,q⟩,z.2.2⟩)
theorem WR.byte {W:World} {b:Nat} {o:List UInt8} {d:Nat} (h:WR W b o d) (c:UInt8) (ci:Int) (hci:ci=(c.toNat:Int)) (hlen:o.length+1≤140737488355328):
 Calls Tryz.prog 50 #[.pointer (some ⟨b,0,none⟩),.int .u8 ci] W fun e w'=>e= .returned .nilIface∧WR w' b (o++[c]) d∧Wrt b W w':=by
 obtain⟨p,v,h⟩:=h;exact(wbyte_call h c ci hci hlen).mono (fun e w' z=>⟨z.1,by obtain⟨v',q⟩:=z.2.1;exact⟨_,_,q⟩,z.2.2⟩)
def texts:List Bs→List UInt8
 |[]=>[]
 |s::r=>s.toList++texts r
theorem texts_app (a b:List Bs):texts (a++b)=texts a++texts b:=by
 induction a with
 |nil=>rfl
 |cons x r ih=>simp[texts,ih]
theorem texts_le (ms:List Bs) (j:Nat):(texts (ms.take j)).length≤(texts ms).length:=by
 have:=texts_app (ms.take j) (ms.drop j);rw[List.take_append_drop]at this;rw[this,List.length_append];omega
def T1Loop (W:World) (b:Nat) (o:List UInt8) (d n:Nat) (kq:Nat) (v11:Value) (w:World):Prop:=∃j:Nat,v11= .int .i64 (j:Int)∧WR w b (o++List.replicate j 9) d∧j≤n∧n-j<kq∧Wrt b W w
def T2Loop (W:World) (b:Nat) (o:List UInt8) (d:Nat) (ps:List Bs) (kq:Nat) (v20:Value) (w:World):Prop:=∃j:Nat,v20= .int .i64 (j:Int)∧WR w b (o++texts (ps.take j)) d∧j≤ps.length∧ps.length-j<kq∧Wrt b W w
theorem line_call {W:World} {b:Nat} {o:List UInt8} {d:Nat} (h:WR W b o d) (hd:d<1000000000) (ps:List Bs) (A:Option Addr) (c:Nat) (hl:ps.length≤1000000) (hP:∀w',Wrt b W w'→Kd.C Kd.string w' A ps.length ps) (hn:o.length+(texts ps).length+10≤140737488355328):
 Calls Tryz.prog 23 #[.pointer (some ⟨b,0,none⟩),.slice A ps.length c] W fun e w'=>e= .returned (.tuple #[])∧WR w' b (o++tabL d++texts ps++[10]) d∧Wrt b W w':=by
 have c2:=h.c2;have hbl:=h.lt;have hd0:(0:Int)≤(d:Int):=by omega
 have hd1:(d:Int)<1000000000:=by omega
 replace hP:=η hP;replace h:=η h;replace hn:=η hn;go_enter Tryz.func23,Tryz.ntmps23;go_wp2;obtain⟨n,hn1⟩:∃n:Nat,(n:Int)=min (d:Int) 8:=⟨min d 8,by omega⟩;have hn8:n≤8:=by omega
 have hT:=η (show tabL d=List.replicate n 9 by unfold tabL;congr 1;omega);rw[← hn1];clear hn1;go_loopg [11] (n+1) (fun kq v11 w=>T1Loop W b o d n kq v11 w)
 case atStart=>exact⟨0,rfl,by simpa using h.out,Nat.zero_le _,by omega,Wrt.refl _ _⟩
 case round=>
  obtain⟨j,rfl,R1,hj,hkq,X1⟩:=hrel;have hp0:(0:Int)≤(j:Int):=by omega
  have hp1:(j:Int)<1000000000:=by omega
  by_cases hlt:j<n
  · have hltI:(j:Int)<(n:Int):=by omega
    have CB:=η (R1.byte 9 9 rfl (by have:=hn.out;simp only[List.length_append,List.length_replicate];omega));have X1':=η X1;have hms:n-j<gk:=by omega
    have REL:=η (show ∀w',WR w' b (o++List.replicate j 9++[9]) d→Wrt b wr w'→T1Loop W b o d n (n-j) (.int .i64 ((j:Int)+1)) w' from fun w' q1 q2=>⟨j+1,by simp,by rw[List.replicate_succ',← List.append_assoc];exact q1,by omega,by omega,X1.trans q2 hbl⟩);clear R1 X1 hj hkq hlt;generalize(j:Int)=J at*;go_wp2_with(first|(go_at_call 50;refine CB.out.mono ?_;rintro e w2 ⟨rfl,R2,X2⟩;have HR2:=η R2;have HX2:=η X2;clear R2 X2))
    go_roundg (n-j)
    case measure=>exact hms
    case rel=>
     have q:=REL.out _ HR2.out HX2.out;simpa using q
  · have hlt2:¬(j:Int)<(n:Int):=by omega
    have hje:j=n:=by omega
    have R2:=η (show WR wr b (o++tabL d) d by rw[hT.out,← hje];exact R1);have HX:=η X1;clear hje hj hkq R1 X1 hlt;obtain⟨wo,rfl⟩:∃wo:World,wo=wr:=⟨_,rfl⟩;obtain⟨gk0,rfl⟩:∃gk0:Nat,gk0=gk:=⟨_,rfl⟩;go_upto_region 5 with fail
    clear hlt2 hp0 hp1;go_loopg [5,20] (ps.length+1) (fun kq v5 v20 w=>T2Loop wo b (o++tabL d) d ps kq v20 w)
    case atStart=>exact⟨0,rfl,by simpa[texts]using R2.out,Nat.zero_le _,by omega,Wrt.refl _ _⟩
    case round=>
     obtain⟨i,rfl,R3,hi,hkq,X3⟩:=hrel;have hp0:(0:Int)≤(i:Int):=by omega
     have hp1:(i:Int)<1000000000:=by omega
     have hY:=Wrt.trans HX.out X3 hbl;have htl:=tab_len d;by_cases hlt:i<ps.length
     · have hltI:(i:Int)<(ps.length:Int):=by omega
       obtain⟨y,hy⟩:∃y,ps[i]? =some y:=⟨_,List.getElem?_eq_getElem hlt⟩;obtain⟨ad,eA,hc⟩:=str_c (hP.out wr hY) (i:Int) hp0 y (by rw[Int.toNat_natCast];exact hy);obtain rfl:=eA;have z0:=hc wr (Below.refl _ _);have htake:texts (ps.take (i+1))=texts (ps.take i)++y.toList:=by rw[List.take_add_one,hy,Option.toList_some,texts_app];simp[texts]
       have CB:=η (R3.str y (by
        have h1:=texts_le ps (i+1);rw[htake,List.length_append]at h1;have:=hn.out;simp only[List.length_append,toList_len]at*;omega))
       have hms:ps.length-i<gk:=by omega
       have REL:=η (show ∀w',WR w' b (o++tabL d++texts (ps.take i)++y.toList) d→Wrt b wr w'→T2Loop wo b (o++tabL d) d ps (ps.length-i) (.int .i64 ((i:Int)+1)) w' from fun w' q1 q2=>⟨i+1,by simp,by rw[htake,← List.append_assoc];exact q1,by omega,by omega,X3.trans q2 (R2.out.lt)⟩);clear hc hy htake R3 X3 hi hkq hlt hY htl;generalize(i:Int)=J at*;go_wp2_with(first|(go_at_call 51;refine CB.out.mono ?_;rintro e w2 ⟨rfl,R2',X2⟩;have HR2:=η R2';have HX2:=η X2;clear R2' X2))
       go_roundg (ps.length-i)
       case measure=>exact hms
       case rel=>
        have q:=REL.out _ HR2.out HX2.out;simpa using q
     · have hlt2:¬(i:Int)<(ps.length:Int):=by omega
       have hje:i=ps.length:=by omega
       rw[hje,List.take_length]at R3;have CB:=η (R3.byte 10 10 rfl (by have:=hn.out;simp only[List.length_append]at*;omega));have HX3:=η hY;clear hje R3 X3 hi hkq hlt hY htl;go_wp2_with(first|(go_at_call 50;refine CB.out.mono ?_;rintro e w2 ⟨rfl,R2',X2⟩;have HR2:=η R2';have HX2:=η X2;clear R2' X2))
       go_end0;exact⟨rfl,HR2.out,Wrt.trans HX3.out HX2.out hbl⟩
end Go.Proofs.YtbemddpmohoooaaGreatDoor
