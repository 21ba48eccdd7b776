import Derived.Test.YtbemddpmohoooaaGreatDoorQ2
import Derived.Test.YtbemddpmohoooaaGreatDoorQ3
import Derived.Test.YtbemddpmohoooaaGreatDoorProg
import Derived.Below
import Derived.Deep.Draws
import Derived.Deep.AppendLies
import Derived.Maps.AppendAt
import Derived.OwnWalk
import Derived.Laws.BytesArg
import Derived.Laws.MakeOwn
import Derived.Laws.OwnMore
import Derived.Deep.OwnRows
import Derived.Tactics
import Derived.Lib.ConvBytes
import Derived.Laws.Slices
import Derived.WalkKit
import Derived.KernelRfl
import Derived.RowKit3
import Derived.Deep.LoopGhost
import Derived.Deep.QuietTactic
import Derived.BigQuiet
import Derived.WideLaws
import Derived.Deep.DeepCutAuto
import Derived.Deep.CutBlock
import Derived.Deep.RegionHeld3
import Derived.Laws.Rows
import Derived.Lib.AppendStr
import Derived.ArgAppend
import Derived.Laws.IdiomCopy
import Derived.OrdersHeld
import Derived.Laws.BitsLemmas
import Derived.RowKit
import Derived.Lib.Hide
import Derived.Lib.Strings
set_option linter.unusedVariables false
set_option linter.unusedSimpArgs false
set_option linter.unusedSectionVars false
set_option maxHeartbeats 128000000
set_option maxRecDepth 100000
namespace Go.Proofs.YtbemddpmohoooaaGreatDoor
open RowKit YtbemddpmohoooaaGreatDoorW
variable {P:Program} {ops:Array Oper} {Q:Exit→Act→World→Prop} {md:Region.Mode} {S:World→Prop} {ds:List Nat}
theorem pu (i n:Nat) {oi:Oper} {v:Value} {fuel:Nat} {l:Array Bool} {a a':Act} {w:World} (h:PrintLast.wpAnyLast P md ops Q S ds fuel (l.setIfInBounds i true) a' w)
 (hi:ops[i]? =some oi:=by rfl) (hN:oi.dst=some n:=by rfl) (hc:PrintLast.anyB md ops l (l.setIfInBounds i true) i=true:=by kernel_rfl) (hQ:∀c a w,Q (.panic c) (a.put oi.dst v) w→Q (.panic c) a w:=by exact fun _ _ _ h=>h)
 (hy:Yields P ops oi v a:=by exact Or.inl ⟨by rfl,by intro w';go_simp;with_reducible rfl⟩)
 (ha:a.put (some n) v=a':=by simp only[Act.put,List.setIfInBounds_toArray,List.set_cons_zero,List.set_cons_succ];rfl):PrintLast.wpAnyLast P md ops Q S ds (fuel+1) l a w:=
 PrintLast.pure_ _ hi hN hc hQ hy ha h
theorem tk (i n:Nat) {oi:Oper} {v:Value} {fuel:Nat} {l:Array Bool} {a a':Act} {w:World} (hS:S w) (h:PrintLast.wpAnyLast P md ops Q S ds fuel (l.setIfInBounds i true) a' w)
 (hi:ops[i]? =some oi:=by rfl) (hN:oi.dst=some n:=by rfl) (hc:PrintLast.takeB md ops ds l (l.setIfInBounds i true) i=true:=by kernel_rfl) (hQ:∀c a w,Q (.panic c) (a.put oi.dst v) w→Q (.panic c) a w:=by exact fun _ _ _ h=>h)
 (hy:YieldsIf P ops S oi v a:=by exact Or.inl ⟨by rfl,by intro w' hw;(try dsimp only at hw);go_simp;with_reducible rfl⟩)
 (ha:a.put (some n) v=a':=by simp only[Act.put,List.setIfInBounds_toArray,List.set_cons_zero,List.set_cons_succ];rfl):PrintLast.wpAnyLast P md ops Q S ds (fuel+1) l a w:=
 PrintLast.take_ _ hi hN hc hQ hy hS ha h
variable {P:Program} {ops:Array Oper} {Q:Exit→Act→World→Prop} {md:Region.Mode} {S:World→Prop} {ds:List Nat}
theorem sr {id:Nat} (n:Nat) {a:Act} {w:World} (hS:S w.drew) (h:S w.drew→PrintLast.wpAnyLast P .any ops Q S ds n (Array.replicate n false) a w.drew) (hm:P.follows .mixedOrders=true:=by kernel_rfl) (hn:ops.size=n:=by rfl):(Code.region id ops true).wp P Q a w:=
 PrintLast.start_ _ hm hn rfl hS h
theorem on (i n:Nat) {oi:Oper} {fuel:Nat} {l:Array Bool} {a:Act} {w:World}
 (h:∀K:Act→World→Prop,Shut (∀a' w',S w'→(S w'→PrintLast.wpAnyLast P md ops Q S ds fuel (l.setIfInBounds i true) a' w')→K a' w')→if Region.wanted oi (yielded ops a.tmps)=true then Oper.wp P oi a w K Q else K (a.put (some n) undef) w)
 (hi:ops[i]? =some oi:=by rfl) (hN:oi.dst=some n:=by rfl) (hc:PrintLast.readyB md ops l (l.setIfInBounds i true) i=true:=by kernel_rfl) (hd:i ∉ ds:=by decide):PrintLast.wpAnyLast P md ops Q S ds (fuel+1) l a w:=
 PrintLast.one_ _ hi hN hc hd h
theorem la (i:Nat) {oi:Oper} {fuel:Nat} {l:Array Bool} {a:Act} {w:World}
 (h:∀K:Act→World→Prop,Shut (∀a' w',PrintLast.wpAnyLast P md ops Q S ds fuel (l.setIfInBounds i true) a' w'→K a' w')→if Region.wanted oi (yielded ops a.tmps)=true then Oper.wp P oi a w K Q else K (a.put none undef) w)
 (hi:ops[i]? =some oi:=by rfl) (hN:oi.dst=none:=by rfl) (hc:PrintLast.readyB md ops l (l.setIfInBounds i true) i=true:=by kernel_rfl) (hd:i∈ds:=by decide):PrintLast.wpAnyLast P md ops Q S ds (fuel+1) l a w:=
 PrintLast.last_ _ hi hN hc hd h
theorem nm (n:Nat) {v:Value} {fuel:Nat} {l:Array Bool} {a a':Act} {w:World} (h:PrintLast.wpAnyLast P md ops Q S ds fuel l a' w)
 (ha:a.put (some n) v=a':=by simp only[Act.put,List.setIfInBounds_toArray,List.set_cons_zero,List.set_cons_succ];rfl):PrintLast.wpAnyLast P md ops Q S ds fuel l (a.put (some n) v) w:=PrintLast.norm_ ha h
end Go.Proofs.YtbemddpmohoooaaGreatDoor
namespace Go.Proofs.YtbemddpmohoooaaGreatDoorW.PrintWords
theorem Reps.one {α:Type} {R:α→List Value→Prop} {ps:List α} {cs:List Value} {p:α} {v:Value} (hp:R p [v]) (h:Reps R 1 ps cs):Reps R 1 (p::ps) (v::cs):=by
 refine⟨by simp[h.1],fun j q hq=> ?_⟩;cases j with
 |zero=>
  simp only[List.getElem?_cons_zero,Option.some.injEq]at hq;subst hq;simpa using hp
 |succ j=>
  simp only[List.getElem?_cons_succ]at hq;have h1:=h.2 j q hq;simpa[Nat.mul_one]using h1
end Go.Proofs.YtbemddpmohoooaaGreatDoorW.PrintWords
namespace Go.Proofs.YtbemddpmohoooaaGreatDoor.PShelfFormats
open RowKit YtbemddpmohoooaaGreatDoorW.PrintWords YtbemddpmohoooaaGreatDoorW.PrintLast YtbemddpmohoooaaGreatDoorW.PrintMore
theorem info5:(Tryz.prog.info? 5).map (fun i=>(i.zero,i.size,i.bytes))=some (some (.int .u8 0),1,1):=by kernel_rfl
theorem info9:(Tryz.prog.info? 9).map (fun i=>(i.zero,i.size,i.bytes))=some (some (.string ⟨#[]⟩),1,16):=by kernel_rfl
theorem info42:(Tryz.prog.info? 42).map (fun i=>(i.zero,i.size,i.bytes))=some (some (.agg #[(.string ⟨#[]⟩),(.int .i64 0),(.int .u8 0),(.int .i64 0),(.int .i64 0)]),5,48):=by kernel_rfl
theorem info80:(Tryz.prog.info? 80).map (fun i=>(i.zero,i.size,i.bytes))=some (some (.agg #[(.int .i64 0),(.int .i64 0),(.string ⟨#[]⟩),(.string ⟨#[]⟩),(.slice none 0 0)]),5,72):=by kernel_rfl
structure S42 where
 f0:Bs
 f1:Int
 f2:Int
 f3:Int
 f4:Int
def z42:S42:=⟨(⟨#[]⟩:Bs),(0:Int),(0:Int),(0:Int),(0:Int)⟩
def k42:Kd S42:=Kd.iso (Kd.pair Kd.string (Kd.pair (Kd.int .i64) (Kd.pair (Kd.int .u8) (Kd.pair (Kd.int .i64) (Kd.int .i64))))) (fun x:S42=>(x.f0,x.f1,x.f2,x.f3,x.f4))
theorem k42_open {w:World} {x:S42} {cs:List Value} (h:k42.K w x cs):cs=[.string x.f0,.int .i64 x.f1,.int .u8 x.f2,.int .i64 x.f3,.int .i64 x.f4]:=by
 obtain⟨_,_,rfl,rfl,⟨_,_,rfl,rfl,⟨_,_,rfl,rfl,⟨_,_,rfl,rfl,rfl⟩⟩⟩⟩:=h;exact rfl
theorem k42_mk (w:World) (x:S42):k42.K w x [.string x.f0,.int .i64 x.f1,.int .u8 x.f2,.int .i64 x.f3,.int .i64 x.f4]:=⟨[.string x.f0],[.int .i64 x.f1,.int .u8 x.f2,.int .i64 x.f3,.int .i64 x.f4],rfl,rfl,⟨[.int .i64 x.f1],[.int .u8 x.f2,.int .i64 x.f3,.int .i64 x.f4],rfl,rfl,⟨[.int .u8 x.f2],[.int .i64 x.f3,.int .i64 x.f4],rfl,rfl,⟨[.int .i64 x.f3],[.int .i64 x.f4],rfl,rfl,rfl⟩⟩⟩⟩
theorem k42_mkF (W:World) (ok:Nat→Prop) (x:S42):Kd.FK k42 W ok x [.string x.f0,.int .i64 x.f1,.int .u8 x.f2,.int .i64 x.f3,.int .i64 x.f4]:=fun W2 _=>k42_mk W2 x
def rd_T42 (xs:List S42) (i:Int):S42:=xs.getD i.toNat z42
theorem at_T42 {w:World} {A:Option Addr} {n:Nat} {xs:List S42} (h:Kd.C k42 w A n xs) (i:Int) (h0:0≤i) (h1:i<n):∃ad,A=some ad∧w.cell? (ad.add (i.toNat*5))=some (.string (rd_T42 xs i).f0)∧w.cell? ⟨(ad.add (i.toNat*5)).block,(ad.add (i.toNat*5)).off+1,none⟩=some (.int .i64 (rd_T42 xs i).f1)∧w.cell? ⟨(ad.add (i.toNat*5)).block,(ad.add (i.toNat*5)).off+2,none⟩=some (.int .u8 (rd_T42 xs i).f2)∧w.cell? ⟨(ad.add (i.toNat*5)).block,(ad.add (i.toNat*5)).off+3,none⟩=some (.int .i64 (rd_T42 xs i).f3)∧w.cell? ⟨(ad.add (i.toNat*5)).block,(ad.add (i.toNat*5)).off+4,none⟩=some (.int .i64 (rd_T42 xs i).f4):=by
 obtain⟨ad,c,e,_,hK,hc0⟩:=Kd.C_get h z42 i h0 h1;have hc:∀j u,c[j]? =some u→w.cell? (ad.add (i.toNat*5+j))=some u:=hc0;obtain rfl:=k42_open hK;exact⟨ad,e,hc 0 _ rfl,by rw[← add_field _ _ 1 (by omega)];exact hc 1 _ rfl,by rw[← add_field _ _ 2 (by omega)];exact hc 2 _ rfl,by rw[← add_field _ _ 3 (by omega)];exact hc 3 _ rfl,by rw[← add_field _ _ 4 (by omega)];exact hc 4 _ rfl⟩
structure S80 where
 f0:Int
 f1:Int
 f2:Bs
 f3:Bs
 f4:(List S80)
def z80:S80:=⟨(0:Int),(0:Int),(⟨#[]⟩:Bs),(⟨#[]⟩:Bs),([]:List S80)⟩
def F80 (d:Kd S80):Kd S80:=Kd.iso (Kd.pair (Kd.int .i64) (Kd.pair (Kd.int .i64) (Kd.pair Kd.string (Kd.pair Kd.string (Kd.slice 80 d))))) (fun x:S80=>(x.f0,x.f1,x.f2,x.f3,x.f4))
theorem mono80:Kd.Mono F80:=Kd.mono_iso _ (Kd.mono_pair (Kd.mono_const _) (Kd.mono_pair (Kd.mono_const _) (Kd.mono_pair (Kd.mono_const _) (Kd.mono_pair (Kd.mono_const _) (Kd.mono_slice 80 Kd.mono_id)))))
theorem sub80:Kd.Sub F80 [80]:=Kd.sub_iso _ (Kd.sub_pair (Kd.sub_const _ (by decide)) (Kd.sub_pair (Kd.sub_const _ (by decide)) (Kd.sub_pair (Kd.sub_const _ (by decide)) (Kd.sub_pair (Kd.sub_const _ (by decide)) (Kd.sub_slice 80 (by decide) Kd.sub_id)))))
theorem sz80:∀n,(Kd.upto F80 5 [80] n).sz=5:=Kd.upto_sz (fun _=>rfl)
def k80:Kd S80:=Kd.fix F80 5 [80] sz80 (Kd.upto_E sub80)
theorem k80_open {w:World} {x:S80} {cs:List Value} (h:k80.K w x cs):∃A4 c4,cs=[.int .i64 x.f0,.int .i64 x.f1,.string x.f2,.string x.f3,.slice A4 x.f4.length c4]∧x.f4.length≤c4∧k80.C w A4 x.f4.length x.f4:=by
 obtain⟨n,h⟩:=h;cases n with
 |zero=>exact h.elim
 |succ n=>
  obtain⟨_,_,rfl,rfl,⟨_,_,rfl,rfl,⟨_,_,rfl,rfl,⟨_,_,rfl,rfl,⟨A4,c4,rfl,l4,g4⟩⟩⟩⟩⟩:=h;exact⟨A4,c4,rfl,l4,Kd.fix_C g4⟩
theorem k80_mk (w:World) (x:S80) {A4:Option Addr} {c4:Nat} (l4:x.f4.length≤c4) (g4:k80.C w A4 x.f4.length x.f4):k80.K w x [.int .i64 x.f0,.int .i64 x.f1,.string x.f2,.string x.f3,.slice A4 x.f4.length c4]:=by
 obtain⟨n4,q4⟩:=Kd.fix_C_back mono80 g4;have r4:=Kd.upto_C_le mono80 sz80 (show n4≤n4 by omega) q4;exact⟨n4+1,⟨[.int .i64 x.f0],[.int .i64 x.f1,.string x.f2,.string x.f3,.slice A4 x.f4.length c4],rfl,rfl,⟨[.int .i64 x.f1],[.string x.f2,.string x.f3,.slice A4 x.f4.length c4],rfl,rfl,⟨[.string x.f2],[.string x.f3,.slice A4 x.f4.length c4],rfl,rfl,⟨[.string x.f3],[.slice A4 x.f4.length c4],rfl,rfl,⟨A4,c4,rfl,l4,r4⟩⟩⟩⟩⟩⟩
theorem k80_openF {W:World} {ok:Nat→Prop} {x:S80} {cs:List Value} (h:Kd.FK k80 W ok x cs):∃A4 c4,cs=[.int .i64 x.f0,.int .i64 x.f1,.string x.f2,.string x.f3,.slice A4 x.f4.length c4]∧x.f4.length≤c4∧Kd.F k80 W ok A4 x.f4.length x.f4:=by
 obtain⟨A4,c4,rfl,l4,_⟩:=k80_open (Kd.FK_now h);exact⟨A4,c4,rfl,l4,(fun W' hW=>by obtain⟨A4_,c4_,he,l4_,g4_⟩:=k80_open (h W' hW);injection (Option.some.inj (show some (Value.slice A4 x.f4.length c4)=some (Value.slice A4_ x.f4.length c4_) from congrArg (fun l=>l[4]?) he))with ha_ _ _;rw[ha_];exact g4_)⟩
theorem k80_mkF (W:World) (ok:Nat→Prop) (x:S80) {A4:Option Addr} {c4:Nat} (l4:x.f4.length≤c4) (g4:Kd.F k80 W ok A4 x.f4.length x.f4):Kd.FK k80 W ok x [.int .i64 x.f0,.int .i64 x.f1,.string x.f2,.string x.f3,.slice A4 x.f4.length c4]:=fun W2 hW=>k80_mk W2 x l4 (g4 W2 hW)
def rd_T80 (xs:List S80) (i:Int):S80:=xs.getD i.toNat z80
theorem at_T80 {w:World} {A:Option Addr} {n:Nat} {xs:List S80} (h:Kd.C k80 w A n xs) (i:Int) (h0:0≤i) (h1:i<n):∃ad A4 c4,A=some ad∧w.cell? (ad.add (i.toNat*5))=some (.int .i64 (rd_T80 xs i).f0)∧w.cell? ⟨(ad.add (i.toNat*5)).block,(ad.add (i.toNat*5)).off+1,none⟩=some (.int .i64 (rd_T80 xs i).f1)∧w.cell? ⟨(ad.add (i.toNat*5)).block,(ad.add (i.toNat*5)).off+2,none⟩=some (.string (rd_T80 xs i).f2)∧w.cell? ⟨(ad.add (i.toNat*5)).block,(ad.add (i.toNat*5)).off+3,none⟩=some (.string (rd_T80 xs i).f3)∧w.cell? ⟨(ad.add (i.toNat*5)).block,(ad.add (i.toNat*5)).off+4,none⟩=some (.slice A4 (rd_T80 xs i).f4.length c4)∧(rd_T80 xs i).f4.length≤c4∧k80.C w A4 (rd_T80 xs i).f4.length (rd_T80 xs i).f4:=by
 obtain⟨ad,c,e,_,hK,hc0⟩:=Kd.C_get h z80 i h0 h1;have hc:∀j u,c[j]? =some u→w.cell? (ad.add (i.toNat*5+j))=some u:=hc0;obtain⟨A4,c4,rfl,l4,g4⟩:=k80_open hK;exact⟨ad,A4,c4,e,hc 0 _ rfl,by rw[← add_field _ _ 1 (by omega)];exact hc 1 _ rfl,by rw[← add_field _ _ 2 (by omega)];exact hc 2 _ rfl,by rw[← add_field _ _ 3 (by omega)];exact hc 3 _ rfl,by rw[← add_field _ _ 4 (by omega)];exact hc 4 _ rfl,l4,g4⟩
structure S62 where
 f0:Int
 f1:Bs
 f2:Bs
 f3:Bs
 f4:(List S80)
 f5:(List S62)
 f6:(List S62)
def z62:S62:=⟨(0:Int),(⟨#[]⟩:Bs),(⟨#[]⟩:Bs),(⟨#[]⟩:Bs),([]:List S80),([]:List S62),([]:List S62)⟩
def F62 (d:Kd S62):Kd S62:=Kd.iso (Kd.pair (Kd.int .i64) (Kd.pair Kd.string (Kd.pair Kd.string (Kd.pair Kd.string (Kd.pair (Kd.slice 80 k80) (Kd.pair (Kd.slice 62 d) (Kd.slice 62 d))))))) (fun x:S62=>(x.f0,x.f1,x.f2,x.f3,x.f4,x.f5,x.f6))
theorem mono62:Kd.Mono F62:=Kd.mono_iso _ (Kd.mono_pair (Kd.mono_const _) (Kd.mono_pair (Kd.mono_const _) (Kd.mono_pair (Kd.mono_const _) (Kd.mono_pair (Kd.mono_const _) (Kd.mono_pair (Kd.mono_const _) (Kd.mono_pair (Kd.mono_slice 62 Kd.mono_id) (Kd.mono_slice 62 Kd.mono_id)))))))
theorem sub62:Kd.Sub F62 [62,80]:=Kd.sub_iso _ (Kd.sub_pair (Kd.sub_const _ (by decide)) (Kd.sub_pair (Kd.sub_const _ (by decide)) (Kd.sub_pair (Kd.sub_const _ (by decide)) (Kd.sub_pair (Kd.sub_const _ (by decide)) (Kd.sub_pair (Kd.sub_const _ (by decide)) (Kd.sub_pair (Kd.sub_slice 62 (by decide) Kd.sub_id) (Kd.sub_slice 62 (by decide) Kd.sub_id)))))))
theorem sz62:∀n,(Kd.upto F62 7 [62,80] n).sz=7:=Kd.upto_sz (fun _=>rfl)
def k62:Kd S62:=Kd.fix F62 7 [62,80] sz62 (Kd.upto_E sub62)
theorem k62_open {w:World} {x:S62} {cs:List Value} (h:k62.K w x cs):∃A4 c4 A5 c5 A6 c6,cs=[.int .i64 x.f0,.string x.f1,.string x.f2,.string x.f3,.slice A4 x.f4.length c4,.slice A5 x.f5.length c5,.slice A6 x.f6.length c6]∧x.f4.length≤c4∧k80.C w A4 x.f4.length x.f4∧x.f5.length≤c5∧k62.C w A5 x.f5.length x.f5∧x.f6.length≤c6∧k62.C w A6 x.f6.length x.f6:=by
 obtain⟨n,h⟩:=h;cases n with
 |zero=>exact h.elim
 |succ n=>
  obtain⟨_,_,rfl,rfl,⟨_,_,rfl,rfl,⟨_,_,rfl,rfl,⟨_,_,rfl,rfl,⟨_,_,rfl,⟨A4,c4,rfl,l4,g4⟩,⟨_,_,rfl,⟨A5,c5,rfl,l5,g5⟩,⟨A6,c6,rfl,l6,g6⟩⟩⟩⟩⟩⟩⟩:=h;exact⟨A4,c4,A5,c5,A6,c6,rfl,l4,g4,l5,Kd.fix_C g5,l6,Kd.fix_C g6⟩
theorem k62_mk (w:World) (x:S62) {A4:Option Addr} {c4:Nat} (l4:x.f4.length≤c4) (g4:k80.C w A4 x.f4.length x.f4) {A5:Option Addr} {c5:Nat} (l5:x.f5.length≤c5) (g5:k62.C w A5 x.f5.length x.f5) {A6:Option Addr} {c6:Nat} (l6:x.f6.length≤c6) (g6:k62.C w A6 x.f6.length x.f6):k62.K w x [.int .i64 x.f0,.string x.f1,.string x.f2,.string x.f3,.slice A4 x.f4.length c4,.slice A5 x.f5.length c5,.slice A6 x.f6.length c6]:=by
 obtain⟨n5,q5⟩:=Kd.fix_C_back mono62 g5;obtain⟨n6,q6⟩:=Kd.fix_C_back mono62 g6;have r5:=Kd.upto_C_le mono62 sz62 (show n5≤(max n5 n6) by omega) q5;have r6:=Kd.upto_C_le mono62 sz62 (show n6≤(max n5 n6) by omega) q6;exact⟨(max n5 n6)+1,⟨[.int .i64 x.f0],[.string x.f1,.string x.f2,.string x.f3,.slice A4 x.f4.length c4,.slice A5 x.f5.length c5,.slice A6 x.f6.length c6],rfl,rfl,⟨[.string x.f1],[.string x.f2,.string x.f3,.slice A4 x.f4.length c4,.slice A5 x.f5.length c5,.slice A6 x.f6.length c6],rfl,rfl,⟨[.string x.f2],[.string x.f3,.slice A4 x.f4.length c4,.slice A5 x.f5.length c5,.slice A6 x.f6.length c6],rfl,rfl,⟨[.string x.f3],[.slice A4 x.f4.length c4,.slice A5 x.f5.length c5,.slice A6 x.f6.length c6],rfl,rfl,⟨[.slice A4 x.f4.length c4],[.slice A5 x.f5.length c5,.slice A6 x.f6.length c6],rfl,⟨A4,c4,rfl,l4,g4⟩,⟨[.slice A5 x.f5.length c5],[.slice A6 x.f6.length c6],rfl,⟨A5,c5,rfl,l5,r5⟩,⟨A6,c6,rfl,l6,r6⟩⟩⟩⟩⟩⟩⟩⟩
theorem k62_openF {W:World} {ok:Nat→Prop} {x:S62} {cs:List Value} (h:Kd.FK k62 W ok x cs):∃A4 c4 A5 c5 A6 c6,cs=[.int .i64 x.f0,.string x.f1,.string x.f2,.string x.f3,.slice A4 x.f4.length c4,.slice A5 x.f5.length c5,.slice A6 x.f6.length c6]∧x.f4.length≤c4∧Kd.F k80 W ok A4 x.f4.length x.f4∧x.f5.length≤c5∧Kd.F k62 W ok A5 x.f5.length x.f5∧x.f6.length≤c6∧Kd.F k62 W ok A6 x.f6.length x.f6:=by
 obtain⟨A4,c4,A5,c5,A6,c6,rfl,l4,_,l5,_,l6,_⟩:=k62_open (Kd.FK_now h);exact⟨A4,c4,A5,c5,A6,c6,rfl,l4,(fun W' hW=>by obtain⟨A4_,c4_,A5_,c5_,A6_,c6_,he,l4_,g4_,l5_,g5_,l6_,g6_⟩:=k62_open (h W' hW);injection (Option.some.inj (show some (Value.slice A4 x.f4.length c4)=some (Value.slice A4_ x.f4.length c4_) from congrArg (fun l=>l[4]?) he))with ha_ _ _;rw[ha_];exact g4_),l5,(fun W' hW=>by obtain⟨A4_,c4_,A5_,c5_,A6_,c6_,he,l4_,g4_,l5_,g5_,l6_,g6_⟩:=k62_open (h W' hW);injection (Option.some.inj (show some (Value.slice A5 x.f5.length c5)=some (Value.slice A5_ x.f5.length c5_) from congrArg (fun l=>l[5]?) he))with ha_ _ _;rw[ha_];exact g5_),l6,(fun W' hW=>by obtain⟨A4_,c4_,A5_,c5_,A6_,c6_,he,l4_,g4_,l5_,g5_,l6_,g6_⟩:=k62_open (h W' hW);injection (Option.some.inj (show some (Value.slice A6 x.f6.length c6)=some (Value.slice A6_ x.f6.length c6_) from congrArg (fun l=>l[6]?) he))with ha_ _ _;rw[ha_];exact g6_)⟩
theorem k62_mkF (W:World) (ok:Nat→Prop) (x:S62) {A4:Option Addr} {c4:Nat} (l4:x.f4.length≤c4) (g4:Kd.F k80 W ok A4 x.f4.length x.f4) {A5:Option Addr} {c5:Nat} (l5:x.f5.length≤c5) (g5:Kd.F k62 W ok A5 x.f5.length x.f5) {A6:Option Addr} {c6:Nat} (l6:x.f6.length≤c6) (g6:Kd.F k62 W ok A6 x.f6.length x.f6):Kd.FK k62 W ok x [.int .i64 x.f0,.string x.f1,.string x.f2,.string x.f3,.slice A4 x.f4.length c4,.slice A5 x.f5.length c5,.slice A6 x.f6.length c6]:=fun W2 hW=>k62_mk W2 x l4 (g4 W2 hW) l5 (g5 W2 hW) l6 (g6 W2 hW)
def rd_T62 (xs:List S62) (i:Int):S62:=xs.getD i.toNat z62
theorem at_T62 {w:World} {A:Option Addr} {n:Nat} {xs:List S62} (h:Kd.C k62 w A n xs) (i:Int) (h0:0≤i) (h1:i<n):∃ad A4 c4 A5 c5 A6 c6,A=some ad∧w.cell? (ad.add (i.toNat*7))=some (.int .i64 (rd_T62 xs i).f0)∧w.cell? ⟨(ad.add (i.toNat*7)).block,(ad.add (i.toNat*7)).off+1,none⟩=some (.string (rd_T62 xs i).f1)∧w.cell? ⟨(ad.add (i.toNat*7)).block,(ad.add (i.toNat*7)).off+2,none⟩=some (.string (rd_T62 xs i).f2)∧w.cell? ⟨(ad.add (i.toNat*7)).block,(ad.add (i.toNat*7)).off+3,none⟩=some (.string (rd_T62 xs i).f3)∧w.cell? ⟨(ad.add (i.toNat*7)).block,(ad.add (i.toNat*7)).off+4,none⟩=some (.slice A4 (rd_T62 xs i).f4.length c4)∧w.cell? ⟨(ad.add (i.toNat*7)).block,(ad.add (i.toNat*7)).off+5,none⟩=some (.slice A5 (rd_T62 xs i).f5.length c5)∧w.cell? ⟨(ad.add (i.toNat*7)).block,(ad.add (i.toNat*7)).off+6,none⟩=some (.slice A6 (rd_T62 xs i).f6.length c6)∧(rd_T62 xs i).f4.length≤c4∧k80.C w A4 (rd_T62 xs i).f4.length (rd_T62 xs i).f4∧(rd_T62 xs i).f5.length≤c5∧k62.C w A5 (rd_T62 xs i).f5.length (rd_T62 xs i).f5∧(rd_T62 xs i).f6.length≤c6∧k62.C w A6 (rd_T62 xs i).f6.length (rd_T62 xs i).f6:=by
 obtain⟨ad,c,e,_,hK,hc0⟩:=Kd.C_get h z62 i h0 h1;have hc:∀j u,c[j]? =some u→w.cell? (ad.add (i.toNat*7+j))=some u:=hc0;obtain⟨A4,c4,A5,c5,A6,c6,rfl,l4,g4,l5,g5,l6,g6⟩:=k62_open hK;exact⟨ad,A4,c4,A5,c5,A6,c6,e,hc 0 _ rfl,by rw[← add_field _ _ 1 (by omega)];exact hc 1 _ rfl,by rw[← add_field _ _ 2 (by omega)];exact hc 2 _ rfl,by rw[← add_field _ _ 3 (by omega)];exact hc 3 _ rfl,by rw[← add_field _ _ 4 (by omega)];exact hc 4 _ rfl,by rw[← add_field _ _ 5 (by omega)];exact hc 5 _ rfl,by rw[← add_field _ _ 6 (by omega)];exact hc 6 _ rfl,l4,g4,l5,g5,l6,g6⟩
structure S82 where
 f0:S62
 f1:S80
 f2:Bool
 f3:Int
 f4:Bool
structure S59 where
 f0:Int
 f1:Bs
 f2:Int
def z59:S59:=⟨(0:Int),(⟨#[]⟩:Bs),(0:Int)⟩
def k59:Kd S59:=Kd.iso (Kd.pair (Kd.int .i64) (Kd.pair Kd.string (Kd.int .i64))) (fun x:S59=>(x.f0,x.f1,x.f2))
theorem k59_open {w:World} {x:S59} {cs:List Value} (h:k59.K w x cs):cs=[.int .i64 x.f0,.string x.f1,.int .i64 x.f2]:=by
 obtain⟨_,_,rfl,rfl,⟨_,_,rfl,rfl,rfl⟩⟩:=h;exact rfl
theorem k59_mk (w:World) (x:S59):k59.K w x [.int .i64 x.f0,.string x.f1,.int .i64 x.f2]:=⟨[.int .i64 x.f0],[.string x.f1,.int .i64 x.f2],rfl,rfl,⟨[.string x.f1],[.int .i64 x.f2],rfl,rfl,rfl⟩⟩
theorem k59_mkF (W:World) (ok:Nat→Prop) (x:S59):Kd.FK k59 W ok x [.int .i64 x.f0,.string x.f1,.int .i64 x.f2]:=fun W2 _=>k59_mk W2 x
def rd_T59 (xs:List S59) (i:Int):S59:=xs.getD i.toNat z59
theorem at_T59 {w:World} {A:Option Addr} {n:Nat} {xs:List S59} (h:Kd.C k59 w A n xs) (i:Int) (h0:0≤i) (h1:i<n):∃ad,A=some ad∧w.cell? (ad.add (i.toNat*3))=some (.int .i64 (rd_T59 xs i).f0)∧w.cell? ⟨(ad.add (i.toNat*3)).block,(ad.add (i.toNat*3)).off+1,none⟩=some (.string (rd_T59 xs i).f1)∧w.cell? ⟨(ad.add (i.toNat*3)).block,(ad.add (i.toNat*3)).off+2,none⟩=some (.int .i64 (rd_T59 xs i).f2):=by
 obtain⟨ad,c,e,_,hK,hc0⟩:=Kd.C_get h z59 i h0 h1;have hc:∀j u,c[j]? =some u→w.cell? (ad.add (i.toNat*3+j))=some u:=hc0;obtain rfl:=k59_open hK;exact⟨ad,e,hc 0 _ rfl,by rw[← add_field _ _ 1 (by omega)];exact hc 1 _ rfl,by rw[← add_field _ _ 2 (by omega)];exact hc 2 _ rfl⟩
end Go.Proofs.YtbemddpmohoooaaGreatDoor.PShelfFormats
namespace Go.Proofs.YtbemddpmohoooaaGreatDoor
open PShelfFormats
abbrev Out (α:Type):Type:=Option (Except (Int×Int) (α×List S42))
abbrev P (α:Type):Type:=List S42→Out α
def pok {α:Type} (x:α):P α:=fun l=>some (.ok (x,l))
def pbind {α β:Type} (a:P α) (f:α→P β):P β:=fun l=>
 match a l with
 |none=>none
 |some (.error e)=>some (.error e)
 |some (.ok (x,l1))=>f x l1
def hd (l:List S42):S42:=l.headD z42
def isM (t:S42) (m:List UInt8):Prop:=t.f2=109∧t.f0.toList=m
instance (t:S42) (m:List UInt8):Decidable (isM t m):=by unfold isM;exact inferInstance
def pfail {α:Type} (e:Int):P α:=fun l=>some (.error ((hd l).f1,e))
def ptok (m:List UInt8):P Unit:=fun l=>if isM (hd l) m then some (.ok ((),l.tail))else pfail 230 l
def pname:P Bs:=fun l=>if(hd l).f2=110 then some (.ok ((hd l).f0,l.tail))else pfail 230 l
def rank0 (s:List UInt8):Int:=
 if s=[124,124]then 0 else if s=[38,38]then 1
 else if s=[61,61]∨s=[33,61]∨s=[60]∨s=[60,61]∨s=[62]∨s=[62,61]then 2
 else if s=[43]∨s=[45]then 3
 else if s=[42]∨s=[47]∨s=[37]then 4 else-1
def valN (s:List UInt8):Nat:=s.foldl (fun n b=>10*n+(b.toNat-48)) 0
def numOf (s:List UInt8):Option Int:=if valN s≤9223372036854775807 then some (valN s:Int)else none
def e0:Bs:=⟨#[]⟩
def xNum (n:Int):S80:=⟨1,n,e0,e0,[]⟩
def xName (s:Bs):S80:=⟨2,0,s,e0,[]⟩
def xIndex (s:Bs) (x:S80):S80:=⟨3,0,s,e0,[x]⟩
def xHas (s:Bs) (x:S80):S80:=⟨4,0,s,e0,[x]⟩
def xLen (s:Bs):S80:=⟨5,0,s,e0,[]⟩
def xUn (o:Bs) (x:S80):S80:=⟨6,0,e0,o,[x]⟩
def xBin (o:Bs) (x y:S80):S80:=⟨7,0,e0,o,[x,y]⟩
def pnum:P S80:=fun l=>match numOf (hd l).f0.toList with
 |none=>pfail 161 l
 |some n=>some (.ok (xNum n,l.tail))
mutual
def pExpr:Nat→Nat→P S80
 |0,_=>fun _=>none
 |k+1,low=>if low=5 then pUn k else pbind (pExpr k (low+1)) (pLoop k low)
def pLoop:Nat→Nat→S80→P S80
 |0,_,_=>fun _=>none
 |k+1,low,x=>fun l=>
  if(hd l).f2=109∧rank0 (hd l).f0.toList=(low:Int)then
   pbind (pExpr k (low+1)) (fun y=>if low=2 then pok (xBin (hd l).f0 x y)else pLoop k low (xBin (hd l).f0 x y)) l.tail
  else some (.ok (x,l))
def pUn:Nat→P S80
 |0=>fun _=>none
 |k+1=>fun l=>
  if isM (hd l) [45]then pbind (pUn k) (fun x=>pok (xUn ⟨#[45]⟩ x)) l.tail
  else if isM (hd l) [33]then pbind (pUn k) (fun x=>pok (xUn ⟨#[33]⟩ x)) l.tail
  else if(hd l).f2=57 then pnum l
  else if isM (hd l) [40]then pbind (pExpr k 0) (fun x=>pbind (ptok [41]) (fun _=>pok x)) l.tail
  else if isM (hd l) [104,97,115]then pbind pname (fun s=>pbind (pKey k) (fun x=>pok (xHas s x))) l.tail
  else if isM (hd l) [108,101,110]then pbind pname (fun s=>pok (xLen s)) l.tail
  else pbind pname (fun s l1=>if isM (hd l1) [91]then pbind (pKey k) (fun x=>pok (xIndex s x)) l1 else some (.ok (xName s,l1))) l
def pKey:Nat→P S80
 |0=>fun _=>none
 |k+1=>pbind (ptok [91]) (fun _=>pbind (pExpr k 0) (fun x=>pbind (ptok [93]) (fun _=>pok x)))
end
def st (kind:Int):S62:=⟨kind,e0,e0,e0,[],[],[]⟩
def pSet (k:Nat):P S62:=
 pbind pname (fun s l=>if isM (hd l) [91]
  then pbind (pKey k) (fun x=>pbind (ptok [61]) (fun _=>pbind (pExpr k 0) (fun y=>pbind (ptok [59]) (fun _=>pok {st 2 with f1:=s,f4:=[x,y]})))) l
  else pbind (ptok [61]) (fun _=>pbind (pExpr k 0) (fun y=>pbind (ptok [59]) (fun _=>pok {st 1 with f1:=s,f4:=[y]}))) l)
def pItems:Nat→List S80→P S62
 |0,_=>fun _=>none
 |k+1,xs=>fun l=>
  if isM (hd l) [59]then some (.ok ({st 5 with f4:=xs},l.tail))
  else pbind (ptok [44]) (fun _=>pbind (pExpr k 0) (fun x=>pItems k (xs++[x]))) l
def pPrint (k:Nat):P S62:=fun l=>
 if isM (hd l) [59]then some (.ok (st 5,l.tail))else pbind (pExpr k 0) (fun x=>pItems k [x]) l
mutual
def pStmt:Nat→P S62
 |0=>fun _=>none
 |k+1=>fun l=>
  if(hd l).f2=110 then pSet k l
  else if isM (hd l) [100,101,108,101,116,101]then
   pbind pname (fun s=>pbind (pKey k) (fun x=>pbind (ptok [59]) (fun _=>pok {st 3 with f1:=s,f4:=[x]}))) l.tail
  else if isM (hd l) [99,108,101,97,114]then pbind pname (fun s=>pbind (ptok [59]) (fun _=>pok {st 4 with f1:=s})) l.tail
  else if isM (hd l) [112,114,105,110,116]then pPrint k l.tail
  else if isM (hd l) [105,102]then pCond k l.tail
  else if isM (hd l) [119,104,105,108,101]then
   pbind (pExpr k 0) (fun x=>pbind (pBlock k) (fun b=>pok {st 7 with f4:=[x],f5:=b})) l.tail
  else if isM (hd l) [102,111,114]then
   pbind pname (fun a=>pbind (ptok [44]) (fun _=>pbind pname (fun b=>pbind (ptok [105,110]) (fun _=>
    pbind pname (fun s=>pbind (pBlock k) (fun c=>pok {st 8 with f1:=s,f2:=a,f3:=b,f5:=c})))))) l.tail
  else if isM (hd l) [98,114,101,97,107]then pbind (ptok [59]) (fun _=>pok (st 9)) l.tail
  else pbind (ptok [99,111,110,116,105,110,117,101]) (fun _=>pbind (ptok [59]) (fun _=>pok (st 10))) l
def pCond:Nat→P S62
 |0=>fun _=>none
 |k+1=>pbind (pExpr k 0) (fun x=>pbind (pBlock k) (fun b l=>
   if isM (hd l) [101,108,115,101]then
    (if isM (hd l.tail) [105,102]then pbind (pCond k) (fun c=>pok {st 6 with f4:=[x],f5:=b,f6:=[c]}) l.tail.tail
     else pbind (pBlock k) (fun c=>pok {st 6 with f4:=[x],f5:=b,f6:=c}) l.tail)
   else some (.ok ({st 6 with f4:=[x],f5:=b},l))))
def pBlock:Nat→P (List S62)
 |0=>fun _=>none
 |k+1=>pbind (ptok [123]) (fun _=>pBody k [])
def pBody:Nat→List S62→P (List S62)
 |0,_=>fun _=>none
 |k+1,xs=>fun l=>
  if isM (hd l) [125]then some (.ok (xs,l.tail))else pbind (pStmt k) (fun s=>pBody k (xs++[s])) l
end
def pMaps:Nat→List Bs→P (List Bs)
 |0,_=>fun _=>none
 |k+1,xs=>fun l=>
  if isM (hd l) [109,97,112]then pbind pname (fun s=>pbind (ptok [59]) (fun _=>pMaps k (xs++[s]))) l.tail
  else some (.ok (xs,l))
def pTop:Nat→List S62→P (List S62)
 |0,_=>fun _=>none
 |k+1,xs=>fun l=>
  if(hd l).f2=36 then some (.ok (xs,l))else pbind (pStmt k) (fun s=>pTop k (xs++[s])) l
def pProg (k:Nat):P (List Bs×List S62):=pbind (pMaps k []) (fun m=>pbind (pTop k []) (fun s=>pok (m,s)))
open RowKit YtbemddpmohoooaaGreatDoorW YtbemddpmohoooaaGreatDoorW.PrintWords
theorem lit_toList (l:List UInt8):(⟨l.toArray⟩:Bs).toList=l:=by rw[Lib.toList_data]
theorem lit_cells (w:World) (l:List (List UInt8)):∀j (h:j<l.length),(w.alloc (.cells (l.map (fun b=>Value.string ⟨b.toArray⟩)).toArray 9)).cell? ⟨w.heap.size,j,none⟩=some (.string ⟨l[j].toArray⟩):=fun j h=>by
 have hp:∀(v:World) x,(v.alloc x).heap=v.heap.push x:=fun _ _=>rfl
 simp only[World.cell?,hp,Array.getElem?_push]<;>simp[h]
def things:List (List UInt8):=[[77,97,112,115],[83,116,109,116,115],[83,116,109,116],[65,102,116,101,114],[73,116,101,109,115],[77,111,114,101],[66,108,111,99,107],[69,108,115,101],[79,116,104,101,114],[69,120,112,114],[75,101,121],[76,101,118,101,108,49],[76,101,118,101,108,50],[76,101,118,101,108,51],[76,101,118,101,108,52],[76,101,118,101,108,53],[76,101,118,101,108,54],[82,101,115,116,49],[82,101,115,116,50],[82,101,115,116,51],[82,101,115,116,52],[82,101,115,116,53]]
theorem dgrows (s:Bs) (w:World):Calls Tryz.prog 27 #[.string s] w fun e w'=>e= .returned (.bool (decide (s.toList∈things)))∧Below w.heap.size w w':=by
 have C0:=η (lit_cells w things);go_enter Tryz.func27,Tryz.ntmps27;go_wp2_with fail
 have HB:=η (Below.alloc (Below.refl w.heap.size w) (Nat.le_refl _) (.cells (things.map (fun b=>Value.string ⟨b.toArray⟩)).toArray 9));change Code.wp _ _ _ _ (w.alloc (.cells (things.map (fun b=>Value.string ⟨b.toArray⟩)).toArray 9));have hwl:things.length=22:=rfl;generalize World.alloc _ _=W at*;generalize hlw:things=l at*;replace hlw:=η hlw;go_loopg [4] 23 (fun kq v4 w'=>∃j:Nat,v4= .int .i64 (j:Int)∧j≤22∧22<kq+j∧s.toList ∉ l.take j∧W=w')
 case atStart=>exact⟨0,rfl,by omega,by omega,by simp,rfl⟩
 case round=>
  obtain⟨j,rfl,g1,g2,gn,hwr⟩:=hrel;subst hwr;by_cases hj:j<22
  · have c2:(j:Int)<22:=by omega
    have hj':j<l.length:=by omega
    have hx:=C0.out j hj';have hm:(⟨l[j].toArray⟩:Bs).toList=l[j]:=lit_toList _;have hmem:l[j]∈l:=List.getElem_mem hj';have hst:l.take (j+1)=l.take j++[l[j]]:=(List.take_append_getElem hj').symm;generalize l[j]=rj at*;generalize(⟨rj.toArray⟩:Bs)=m at*;subst hm;clear hj' hwl;by_cases he:m.toList=s.toList
    · have e1:(m.toList==s.toList)=true:=by rw[he];exact beq_self_eq_true _
      have er:decide (s.toList∈things)=true:=decide_eq_true (by rw[hlw.out];exact he▸hmem);clear C0 he gn hst hmem g1 g2 hj;go_wp2;go_ret;exact⟨by rw[er];rfl,HB.out⟩
    · have e1:(m.toList==s.toList)=false:=beq_eq_false_iff_ne.mpr he
      have gn':=η (show s.toList ∉ l.take (j+1) by rw[hst];simp[gn,Ne.symm he]);clear hst hmem;go_wp2;go_roundg (22-j)
      case measure=>omega
      case rel=>exact⟨j+1,by simp,by omega,by omega,gn'.out,rfl⟩
  · have c2:¬(j:Int)<22:=by omega
    have er:decide (s.toList∈things)=false:=decide_eq_false (by rw[hlw.out];rw[List.take_of_length_le (by omega)]at gn;exact gn);obtain rfl:j=22:=by omega
    clear C0 gn g1 g2 hj hwl;go_wp2;go_ret;exact⟨rfl,HB.out⟩
end Go.Proofs.YtbemddpmohoooaaGreatDoor
namespace Go.Proofs.YtbemddpmohoooaaGreatDoor.PShelfFormats
open RowKit YtbemddpmohoooaaGreatDoorW YtbemddpmohoooaaGreatDoorW.PrintWords
theorem hp5 {w:World} {b t:Nat} {v0 v1 v2 v3 v4:Value} (h:w.heap[b]? =some (.cells #[v0,v1,v2,v3,v4] t (0,0))):
 w.cell? ⟨b,0,none⟩=some v0∧w.cell? ⟨b,1,none⟩=some v1∧w.cell? ⟨b,2,none⟩=some v2∧w.cell? ⟨b,3,none⟩=some v3∧w.cell? ⟨b,4,none⟩=some v4∧∀i,w.frozen? ⟨b,i,none⟩=false:=
 ⟨by simp[World.cell?,h],by simp[World.cell?,h],by simp[World.cell?,h],by simp[World.cell?,h],by simp[World.cell?,h],fun i=>by simp[World.frozen?,h]⟩
theorem hp_keep {w w':World} {b:Nat} {o:Obj} (h:w.heap[b]? =some o) (H:Below w.heap.size w w'):w'.heap[b]? =some o:=(H.block b (Array.getElem?_eq_some_iff.mp h).1).trans h
def larderref23_is.f (k:Nat) (a0_0:Bs) (a0_1:Int) (a0_2:Int) (a0_3:Int) (a0_4:Int) (l1:List Bs):Option Bool:=
 if l1.length+k<9223372036854775808+k then some (l1.any (fun m=>decide (a0_2=109∧a0_0.toList=m.toList)))else none
theorem larderref23_is.calls (k:Nat) (a0_0:Bs) (a0_1:Int) (a0_2:Int) (a0_3:Int) (a0_4:Int) (A1:Option Addr) (c1:Nat) (l1:List Bs) (r:Bool) (w:World) (hr1:Kd.C Kd.string w A1 l1.length l1) (hc1:l1.length≤c1) (h:larderref23_is.f k a0_0 a0_1 a0_2 a0_3 a0_4 l1=some r):
 Calls Tryz.prog 12 #[.agg #[.string a0_0,.int .i64 a0_1,.int .u8 a0_2,.int .i64 a0_3,.int .i64 a0_4],.slice A1 l1.length c1] w fun e w'=>e= .returned (.bool r)∧Below w.heap.size w w':=by
 unfold larderref23_is.f at h
 have hlen:l1.length<9223372036854775808:=by
  rcases Nat.lt_or_ge l1.length 9223372036854775808 with z|z
  · exact z
  · rw[if_neg (by omega)]at h;exact absurd h (by simp)
 rw[if_pos (by omega)]at h;replace h:=η (Option.some.inj h);replace hr1:=η hr1;go_enter Tryz.func12,Tryz.ntmps12;go_upto_region 1 with(first|((with_reducible refine gate_dst (N:=2) rfl ?_);refine bxE (N:=2) (cs:=#[.string a0_0,.int .i64 a0_1,.int .u8 a0_2,.int .i64 a0_3,.int .i64 a0_4]) (t:=42) ?_;intro g hg w4 hbox hb4))
 subst hg;have X:=η hbox;have B4:=η hb4;clear hbox hb4;go_upto_region 2 with fail
 go_loopg [5] (l1.length+1) (fun kq v5 w'=>∃i:Nat,v5= .int .i64 (i:Int)∧i≤l1.length∧l1.length<kq+i∧(∀m∈l1.take i,¬(a0_2=109∧a0_0.toList=m.toList))∧Below w4.heap.size w4 w')
 case atStart=>exact⟨0,rfl,by omega,by omega,by simp,Below.refl _ _⟩
 case round=>
  obtain⟨i,rfl,h1,h2,hn,hwr⟩:=hrel;obtain⟨e0,e1,e2,e3,e4,ef⟩:=hp5 (hp_keep X.out hwr);have HB:=η (B4.out.trans (hwr.mono B4.out.size));replace hwr:=η hwr;by_cases hi:i<l1.length
  · have c1:(i:Int)<(l1.length:Int):=by omega
    obtain⟨ad,e,hx⟩:=Kd.at_string hr1.out (i:Int) (by omega) c1;cases e;replace hx:=(HB.out.cell (World.block_lt_of_cell? w _ hx)).trans hx;have hrd:rdOf ByteArray.empty l1 (i:Int)=l1[i]:=by simp[rdOf,hi]
    rw[hrd,Int.toNat_natCast]at hx;have hmem:=η (List.getElem_mem hi);have hst:=List.take_append_getElem hi;clear hrd;generalize l1[i]=m at*
    have NX:=(fun(z:¬(a0_2=109∧a0_0.toList=m.toList))=>show ∀m∈l1.take (i+1),¬(a0_2=109∧a0_0.toList=m.toList) from fun x hx=>by
     rw[← hst]at hx;rcases List.mem_append.mp hx with u|u
     · exact hn x u
     · rw[List.mem_singleton.mp u];exact z)
    clear hst hn HB;cases s1:(a0_2==109)with
    |false=>
     go_upto_region 4 with fail
     refine sr 12 (S:=fun W'=>W'.cell? ⟨w.heap.size,0,none⟩=some (.string a0_0)∧W'.cell? ⟨w.heap.size,2,none⟩=some (.int .u8 a0_2)∧W'.cell? (ad.add i)=some (.string m)) (ds:=[]) (by simpa using⟨e0,e2,hx⟩) ?_;intro hH;refine pu 0 12 ?_;refine tk 1 13 hH ?_;refine pu 2 14 ?_;refine pu 3 15 ?_;refine pu 4 16 ?_ (hy:=Or.inr ⟨by rfl,by rfl⟩);refine pu 5 17 ?_ (hy:=Or.inr ⟨by rfl,by rfl⟩);refine pu 6 18 ?_ (hy:=Or.inr ⟨by rfl,by rfl⟩);refine pu 7 19 ?_ (hy:=Or.inr ⟨by rfl,by rfl⟩);refine pu 8 20 ?_ (hy:=Or.inr ⟨by rfl,by rfl⟩);refine pu 9 21 ?_ (hy:=Or.inr ⟨by rfl,by rfl⟩);refine pu 10 22 ?_ (hy:=Or.inr ⟨by rfl,by rfl⟩);refine pu 11 23 ?_;refine PrintLast.done_ (by kernel_rfl) ?_;have hwr2:=η (Below.drew hwr.out);clear hH hwr hx e0 e1 e2 e3 e4 ef;generalize wr.drew=w2 at*;have gn:=η (NX (fun u=>absurd (beq_iff_eq.mpr u.1) (by rw[s1];decide)));clear NX;go_wp2;go_roundg (l1.length-i)
     case measure=>omega
     case rel=>exact⟨i+1,by simp,by omega,by omega,gn.out,hwr2.out⟩
    |true=>
     go_upto_region 4 with fail
     refine sr 12 (S:=fun W'=>W'.cell? ⟨w.heap.size,0,none⟩=some (.string a0_0)∧W'.cell? ⟨w.heap.size,2,none⟩=some (.int .u8 a0_2)∧W'.cell? (ad.add i)=some (.string m)) (ds:=[]) (by simpa using⟨e0,e2,hx⟩) ?_;intro hH;refine pu 0 12 ?_;refine tk 1 13 hH ?_;refine pu 2 14 ?_;refine pu 3 15 ?_;refine pu 4 16 ?_;refine tk 5 17 hH ?_;refine pu 6 18 ?_;refine pu 7 19 ?_;refine pu 8 20 ?_;refine tk 9 21 hH ?_;refine pu 10 22 ?_;refine pu 11 23 ?_;refine PrintLast.done_ (by kernel_rfl) ?_;have hwr2:=η (Below.drew hwr.out);clear hH hwr hx e0 e1 e2 e3 e4 ef;generalize wr.drew=w2 at*;cases q1:(a0_0.toList==m.toList)with
     |false=>
      have gn:=η (NX (fun u=>absurd (beq_iff_eq.mpr u.2) (by rw[q1];decide)));clear NX;go_wp2;go_roundg (l1.length-i)
      case measure=>omega
      case rel=>exact⟨i+1,by simp,by omega,by omega,gn.out,hwr2.out⟩
     |true=>
      have er:r=true:=by rw[← h.out];exact List.any_eq_true.mpr ⟨m,hmem.out,decide_eq_true ⟨eq_of_beq s1,eq_of_beq q1⟩⟩
      subst er;clear NX h1 h2;go_wp2;go_ret;exact⟨rfl,B4.out.trans (hwr2.out.mono B4.out.size)⟩
  · have er:r=false:=by
     rw[← h.out,List.take_of_length_le (by omega)]at*;exact List.any_eq_false.mpr (fun x hx=>by simpa using hn x hx)
    have c1:¬(i:Int)<(l1.length:Int):=by omega
    subst er;clear hn h1 h2;go_wp2;go_ret;exact⟨rfl,by repeat(first|exact HB.out|apply pw_below_drewN|apply below_drew1)⟩
theorem lit_row (W:World) {b:Nat} (hb:b≤W.heap.size) (xs:List Bs) (hx:xs.length≤9223372036854775807):Kd.R Kd.string 9 (W.alloc (.cells (xs.map Value.string).toArray 9)) b (fun _=>True) (.slice (some ⟨W.heap.size,0,none⟩) xs.length xs.length) xs:=
 Kd.R_of_own (own_lit_of (enc:=Value.string) W b 9 xs hb hx) (fun _ _=>trivial)
theorem hp_alloc {w:World} {b:Nat} {o:Obj} (h:w.heap[b]? =some o) (x:Obj):(w.alloc x).heap[b]? =some o:=hp_keep h (Below.alloc (Below.refl _ _) (Nat.le_refl _) x)
theorem ite_b {α:Type} {x:Bool} {a b r:α} (h:(if x=true then a else b)=r):(x=true∧a=r)∨(x=false∧b=r):=by
 cases x with
 |true=>exact .inl ⟨rfl,by simpa using h⟩
 |false=>exact .inr ⟨rfl,by simpa using h⟩
theorem lit_C (W:World) (xs:List Bs) (hx:xs.length≤9223372036854775807):Kd.C Kd.string (W.alloc (.cells (xs.map Value.string).toArray 9)) (some ⟨W.heap.size,0,none⟩) xs.length xs:=
 (Kd.R_reads' (lit_row W (Nat.le_refl _) xs hx)).2.2
theorem is_lit {k:Nat} {t0:Bs} {t1 t2 t3 t4:Int} {ms:List Bs} {b:Bool} (h:Hid (larderref23_is.f k t0 t1 t2 t3 t4 ms=some b)) (W:World) (hx:ms.length≤9223372036854775807:=by decide):
 Calls Tryz.prog 12 #[.agg #[.string t0,.int .i64 t1,.int .u8 t2,.int .i64 t3,.int .i64 t4],.slice (some ⟨W.heap.size,0,none⟩) ms.length ms.length] (W.alloc (.cells (ms.map Value.string).toArray 9)) fun e w'=>e= .returned (.bool b)∧Below W.heap.size W w':=
 (larderref23_is.calls k t0 t1 t2 t3 t4 _ _ ms b _ (lit_C W ms hx) (Nat.le_refl _) h.out).mono (fun e w' z=>⟨z.1,(Below.alloc (Below.refl W.heap.size W) (Nat.le_refl _) _).trans (z.2.mono (by simp))⟩)
theorem is1 {k:Nat} {t0:Bs} {t1 t2 t3 t4:Int} {m:Bs} {b:Bool} (h:Hid (larderref23_is.f k t0 t1 t2 t3 t4 [m]=some b)) (W:World):
 Calls Tryz.prog 12 #[.agg #[.string t0,.int .i64 t1,.int .u8 t2,.int .i64 t3,.int .i64 t4],.slice (some ⟨W.heap.size,0,none⟩) 1 1] (W.alloc (.cells #[.string m] 9)) fun e w'=>e= .returned (.bool b)∧Below W.heap.size W w':=is_lit h W (by simp)
theorem is2 {k:Nat} {t0:Bs} {t1 t2 t3 t4:Int} {m n:Bs} {b:Bool} (h:Hid (larderref23_is.f k t0 t1 t2 t3 t4 [m,n]=some b)) (W:World):
 Calls Tryz.prog 12 #[.agg #[.string t0,.int .i64 t1,.int .u8 t2,.int .i64 t3,.int .i64 t4],.slice (some ⟨W.heap.size,0,none⟩) 2 2] (W.alloc (.cells #[.string m,.string n] 9)) fun e w'=>e= .returned (.bool b)∧Below W.heap.size W w':=is_lit h W (by simp)
end Go.Proofs.YtbemddpmohoooaaGreatDoor.PShelfFormats
