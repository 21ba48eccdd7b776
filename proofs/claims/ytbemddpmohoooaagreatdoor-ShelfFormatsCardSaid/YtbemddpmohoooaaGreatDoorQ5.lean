import Derived.Test.YtbemddpmohoooaaGreatDoorQ4
import Derived.Lib.Strings
set_option linter.unusedVariables false
set_option linter.unusedSimpArgs false
set_option linter.unusedSectionVars false
set_option maxHeartbeats 128000000
set_option maxRecDepth 100000
namespace Go.Proofs.YtbemddpmohoooaaGreatDoor
open PShelfFormats RowKit YtbemddpmohoooaaGreatDoorW.PrintWords YtbemddpmohoooaaGreatDoorW.PrintLast YtbemddpmohoooaaGreatDoorW.PrintMore
def Ev {α:Type} (f:Nat→Option α) (r:α):Prop:=∃K,∀k,K≤k→f k=some r
theorem Ev.bind {α β:Type} {f:Nat→Option α} {g:Nat→α→Option β} {x:α} {r:β} (h:Ev f x) (h2:Ev (fun k=>g k x) r):Ev (fun k=>(f k).bind (g k)) r:=by
 obtain⟨K,h⟩:=h;obtain⟨K2,h2⟩:=h2;exact⟨max K K2,fun k hk=>by show(f k).bind (g k)=some r;rw[h k (by omega)];exact h2 k (by omega)⟩
theorem Ev.step {α:Type} {f g:Nat→Option α} {r:α} (e:∀k,f (k+1)=g k) (h:Ev g r):Ev f r:=by
 obtain⟨K,h⟩:=h;refine⟨K+1,fun k hk=> ?_⟩;cases k with
 |zero=>omega
 |succ k=>rw[e];exact h k (by omega)
theorem Ev.const {α:Type} (r:α):Ev (fun _=>some r) r:=⟨0,fun _ _=>rfl⟩
theorem Ev.get {α:Type} {f:Nat→Option α} {r:α} (h:Ev f r):∃k,f k=some r:=by
 obtain⟨K,h⟩:=h;exact⟨K,h K (Nat.le_refl _)⟩
theorem bt_inj {a b:Bs}:a.toList=b.toList↔a=b:=by
 rw[Lib.toList_data,Lib.toList_data];constructor
 · intro h
   cases a with
   |mk a=>cases b with
    |mk b=>
     have h2:a.toList=b.toList:=h;rw[Array.toList_inj.mp h2]
 · rintro rfl;rfl
theorem bt_lit {a:Bs} {l:List UInt8}:a.toList=l↔a=⟨l.toArray⟩:=by
 rw[← bt_inj];constructor
 · intro h;rw[h,Lib.toList_data]
 · intro h;rw[h,Lib.toList_data]
theorem wrap_id {i:Int} (h0: -9223372036854775808≤i) (h1:i<9223372036854775808):wrap64 i=i:=by unfold wrap64;omega
theorem is_ev (t:S42) (xs:List Bs) (hx:xs.length<1000000):Ev (fun k=>larderref23_is.f k t.f0 t.f1 t.f2 t.f3 t.f4 xs) (xs.any (fun m=>decide (isM t m.toList))):=
 ⟨0,fun k _=>by dsimp only;unfold larderref23_is.f;rw[if_pos (by omega)];rfl⟩
def spl (r:Int):Int→Bool→Nat→Int→List S42→Int
 |_,_,_,a,[]=>a
 |d,pe,i,a,t::l=>spl r (d+t.f4) (decide (t.f2≠109∨t.f4<0)) (i+1) (if d=0∧pe=true∧t.f3=r then(i:Int)else a) l
def peAt (c:List S42) (i:Nat):Bool:=decide (0<i∧((rd_T42 c ((i:Int)-1)).f2≠109∨(rd_T42 c ((i:Int)-1)).f4<0))
theorem rd_at (R:List S42) (i:Nat) (h:i<R.length):rd_T42 R (i:Int)=R[i]:=by simp[rd_T42,h]
end Go.Proofs.YtbemddpmohoooaaGreatDoor
namespace Go.Proofs.YtbemddpmohoooaaGreatDoor.PShelfFormats
open RowKit YtbemddpmohoooaaGreatDoorW.PrintWords YtbemddpmohoooaaGreatDoorW.PrintLast YtbemddpmohoooaaGreatDoorW.PrintMore
def larderref23_split.f (k:Nat) (l0:List S42) (a1:Int):Option Int:=if(∀t∈l0,-1≤t.f4∧t.f4≤1)∧l0.length+k<1000000000+k then some (spl a1 0 false 0 (-1) l0)else none
theorem larderref23_split.calls (k:Nat) (A0:Option Addr) (c0:Nat) (l0:List (S42)) (a1:Int) (r:Int) (w:World) (hr0:Kd.C k42 w A0 l0.length l0) (hc0:l0.length≤c0) (h:larderref23_split.f k l0 a1=some r):
 Calls Tryz.prog 88 #[.slice A0 l0.length c0,.int .i64 a1] w fun e w'=>e= .returned (.int .i64 r)∧Drawn0 w w':=by
 have hcl:(∀t∈l0,-1≤t.f4∧t.f4≤1)∧l0.length+k<1000000000+k:=by
  by_cases z:(∀t∈l0,-1≤t.f4∧t.f4≤1)∧l0.length+k<1000000000+k
  · exact z
  · unfold larderref23_split.f at h;rw[if_neg z]at h;cases h
 unfold larderref23_split.f at h;rw[if_pos hcl]at h;obtain⟨hc,hlen⟩:=hcl;replace h:=η (Option.some.inj h);replace hc:=η hc;have HR:=η hr0;clear hr0 hc0;go_enter Tryz.func88,Tryz.ntmps88;go_upto_region 4 with fail
 go_loopg [5,6,7] (l0.length+1) (fun kq v5 v6 v7 w'=>∃(i:Nat) (a d:Int),v5= .int .i64 a∧v6= .int .i64 d∧v7= .int .i64 (i:Int)∧i≤l0.length∧l0.length<kq+i∧ -(i:Int)≤d∧d≤i∧spl a1 d (peAt l0 i) i a (l0.drop i)=r∧w=w')
 case atStart=>exact⟨0,-1,0,rfl,rfl,rfl,by omega,by omega,by omega,by omega,h.out,rfl⟩
 case round=>
  clear h;obtain⟨i,a,d,rfl,rfl,rfl,hi,hk,hd0,hd1,hs,hwr⟩:=hrel;subst hwr;by_cases hlt:i<l0.length
  · obtain⟨x,hx⟩:∃x:Int,x=(i:Int):=⟨_,rfl⟩
    have c1:x<(l0.length:Int):=by omega
    have g4:(0:Int)≤x:=by omega
    obtain⟨ad,e,y0,y1,y2,y3,y4⟩:=at_T42 HR.out x g4 c1;cases e;have hm:=hc.out _ (List.getElem_mem hlt)
    have ep:peAt l0 (i+1)=decide (l0[i].f2≠109∨l0[i].f4<0):=by
     unfold peAt;rw[show((i+1:Nat):Int)-1=(i:Int) by omega,rd_at l0 i hlt];simp
    rw[List.drop_eq_getElem_cons hlt,spl,← ep]at hs;rw[show rd_T42 l0 x=l0[i] by rw[hx];exact rd_at l0 i hlt]at y0 y1 y2 y3 y4;have ed:IntKind.i64.wrap (d+l0[i].f4)=d+l0[i].f4:=(i64_w _).trans (wrap_id (by omega) (by omega));have g2:IntKind.i64.wrap (x+1)=((i+1:Nat):Int):=(i64_w _).trans ((wrap_id (by omega) (by omega)).trans (by omega));generalize l0[i]=t at*;have NX:=η (fun(a':Int) (ha:a'=if d=0∧peAt l0 i=true∧t.f3=a1 then x else a)=>show spl a1 (d+t.f4) (peAt l0 (i+1)) (i+1) a' (l0.drop (i+1))=r from by rw[ha,hx];exact hs);rw[← hx];clear hs ep y0 y1 y2;cases i with
    |zero=>
     have hp:¬(d=0∧peAt l0 0=true∧t.f3=a1):=fun z=>by have:=z.2.1;unfold peAt at this;simp at this
     have n:=η (NX.out a (if_neg hp).symm);have g0:¬(0:Int)<x:=by omega
     replace hx:=η hx;clear NX hp;cases q0:(d==0)
     all_goals
      go_wp2;go_roundg l0.length
      case measure=>omega
      case rel=>exact⟨1,a,d+t.f4,rfl,by first|rfl|rw[ed],by first|rfl|rw[g2],by omega,by omega,by have:=hx.out;omega,by have:=hx.out;omega,n.out,rfl⟩
    |succ j=>
     obtain⟨ad2,e2,z0,z1,z2,z3,z4⟩:=at_T42 HR.out (j:Int) (by omega) (by omega);cases e2;simp only[Int.toNat_natCast]at z2 z4
     have hpe:peAt l0 (j+1)=decide ((rd_T42 l0 (j:Int)).f2≠109∨(rd_T42 l0 (j:Int)).f4<0):=by
      unfold peAt;rw[show((j+1:Nat):Int)-1=(j:Int) by omega];simp
     rw[hpe]at NX;generalize rd_T42 l0 (j:Int)=u at*;have g0:(0:Int)<x:=by omega
     have g1:IntKind.i64.wrap (x-1)=(j:Int):=(i64_w _).trans ((wrap_id (by omega) (by omega)).trans (by omega));have g3:(j:Int)<(l0.length:Int):=by omega
     replace hx:=η hx;clear z0 z1 z3 hpe;cases q0:(d==0)<;>cases q3:(t.f3==a1)<;>cases q2:(u.f2==109)<;>cases q4:decide (u.f4<0)
     all_goals
      have q5:(u.f2 !=109)= !(u.f2==109):=rfl;rw[q2]at q5;simp only[Bool.not_true,Bool.not_false]at q5
      first
      |have n:=η (NX.out x (by rw[if_pos];exact⟨eq_of_beq q0,by rw[decide_eq_true_eq];first|exact Or.inr (of_decide_eq_true q4)|exact Or.inl (beq_eq_false_iff_ne.mp q2),eq_of_beq q3⟩))
      |have n:=η (NX.out a (by rw[if_neg];rintro⟨p0,p1,p2⟩;first|(rw[beq_iff_eq.mpr p0]at q0;cases q0;done)|(rw[beq_iff_eq.mpr p2]at q3;cases q3;done)|exact(of_decide_eq_true p1).elim (fun p=>p (eq_of_beq q2)) (fun p=>absurd (decide_eq_true p) (by rw[q4];decide))))
      replace NX:=η trivial;go_wp2;go_roundg (l0.length-(j+1))
      case measure=>omega
      case rel=>exact⟨j+1+1,_,d+t.f4,rfl,by first|rfl|rw[ed],by first|rfl|rw[g2],by omega,by omega,by have:=hx.out;omega,by have:=hx.out;omega,n.out,rfl⟩
  · have c1:¬(i:Int)<(l0.length:Int):=by omega
    rw[List.drop_of_length_le (by omega),spl]at hs;subst hs;go_wp2;go_ret;exact⟨rfl,Drawn0.refl _⟩
def larderref23_value.l0:Nat→Bs→Int→Int→Option (Int)
 |0,_,_,_=>none
 |k+1,x0,x3,x4=>if x4<(x0.size:Int)then(if 0≤x4 then(larderref23_value.l0 k x0 (wrap64 ((wrap64 (10*x3))+(((bt x0 x4)-48) % 256))) (wrap64 (x4+1)))else(none))else(some x3)
def larderref23_value.f (k:Nat) (a0:Bs):Option (Int):=larderref23_value.l0 k a0 0 0
theorem larderref23_value.calls (k:Nat) (a0:Bs) (r:Int) (w:World) (h:larderref23_value.f k a0=some r):
 Calls Tryz.prog 89 #[.string a0] w fun e w'=>e= .returned (.int .i64 r)∧Drawn0 w w':=by
 have H:(larderref23_value.l0 k a0 0 0)=some r:=h;clear h;have H':=Aside0.mk H;clear H;go_enter Tryz.func89,Tryz.ntmps89;go_wp2;go_loopg [3,4] k (fun kq v3 v4 w'=>∃(x3_1:Int) (x4_1:Int),v3= .int .i64 x3_1∧v4= .int .i64 x4_1∧Aside0 (larderref23_value.l0 kq a0 x3_1 x4_1=some r)∧Aside0 (kq≤k)∧Drawn0 w w')
 case atStart=>exact⟨(0),(0),(by first|rfl|(simp;done)|(simp[*];done)),(by first|rfl|(simp;done)|(simp[*];done)),H',⟨Nat.le_refl _⟩,by repeat(first|exact Drawn0.refl _|apply Drawn0.step)⟩
 case round=>
  clear H';obtain⟨x3_1,x4_1,rfl,rfl,HA,HK1,⟨m1,rfl⟩⟩:=hrel;cases gk with
  |zero=>exact absurd HA.out (by simp[larderref23_value.l0])
  |succ k1=>
   have H:=HA.out;clear HA;simp only[larderref23_value.l0]at H;by_cases c2:x4_1<(a0.size:Int)
   · rw[if_pos c2]at H
     have c2b0:decide (x4_1<(a0.size:Int))=true:=decide_eq_true c2;clear c2;by_cases c3:0≤x4_1
     · rw[if_pos c3]at H
       have c3b0:decide (0≤x4_1)=true:=decide_eq_true c3;clear c3;have H':=Aside0.mk H;clear H;have p4:0≤(x4_1:Int):=of_decide_eq_true (by first|(with_reducible assumption)|assumption);have q4:x4_1<(a0.size:Int):=of_decide_eq_true (by first|(with_reducible assumption)|assumption);have hx4:=bt_at a0 x4_1;replace p4:=eq_true p4;replace q4:=eq_true q4;go_wp2;go_roundg k1
       case measure=>have:=HK1.out;omega
       case rel=>exact⟨(wrap64 ((wrap64 (10*x3_1))+(((bt a0 x4_1)-48) % 256))),(wrap64 (x4_1+1)),(by first|rfl|(simp;done)|(simp[*];done)),(by first|rfl|(simp;done)|(simp[*];done)),H',⟨by have:=HK1.out;omega⟩,by repeat(first|exact Drawn0.refl _|apply Drawn0.step)⟩
     · rw[if_neg c3]at H
       exact absurd H (by simp)
   · rw[if_neg c2]at H
     have c2b0:decide (x4_1<(a0.size:Int))=false:=decide_eq_false c2;clear c2;obtain rfl:=Option.some.inj H;go_wp2;go_ret;exact⟨by first|rfl|(simp;done)|(simp[*];done),by repeat(first|exact Drawn0.refl _|apply Drawn0.step)⟩
open Go.Proofs.YtbemddpmohoooaaGreatDoor
mutual
def larderref23_tree.l0:Nat→List (S42)→Int→Option (Int×Int×Bs×Bs×(List (S80)))
 |0,_,_=>none
 |k+1,x0,x3=>if x3≤5 then((larderref23_split.f k x0 x3).bind fun t363=>(if t363≥0 then(if 0≤t363 then(if t363<(x0.length:Int)then(if t363≤(x0.length:Int)then((larderref23_tree.f k (x0.take (t363:Int).toNat)).bind fun bt369=>(if 0≤(wrap64 (t363+1))then(if(wrap64 (t363+1))≤(x0.length:Int)then((larderref23_tree.f k (x0.drop ((wrap64 (t363+1)):Int).toNat)).bind fun bt380=>(some (7,0,(⟨#[]⟩:Bs),(rd_T42 x0 t363).f0,(([(⟨bt369.1,bt369.2.1,bt369.2.2.1,bt369.2.2.2.1,bt369.2.2.2.2⟩:S80),(⟨bt380.1,bt380.2.1,bt380.2.2.1,bt380.2.2.2.1,bt380.2.2.2.2⟩:S80)]:List (S80))))))else(none))else(none)))else(none))else(none))else(none))else(larderref23_tree.l0 k x0 (wrap64 (x3+1)))))else(if 0<(x0.length:Int)then(if((rd_T42 x0 0).f2)=57 then((larderref23_value.f k ((rd_T42 x0 0).f0)).bind fun t392=>(some (1,t392,(⟨#[]⟩:Bs),(⟨#[]⟩:Bs),([]:List (S80)))))else(if((rd_T42 x0 0).f0).toList=([45]:List UInt8)then(larderref23_tree.j1 k x0 (x0.length:Int) true)else(larderref23_tree.j1 k x0 (x0.length:Int) (((rd_T42 x0 0).f0).toList==([33]:List UInt8)))))else(none))
def larderref23_tree.j1:Nat→List (S42)→Int→Bool→Option (Int×Int×Bs×Bs×(List (S80)))
 |0,_,_,_=>none
 |k+1,x0,x5,x45=>if x45=true then(if 0<(x0.length:Int)then(if 1≤(x0.length:Int)then((larderref23_tree.f k (x0.drop 1)).bind fun bt400=>(some (6,0,(⟨#[]⟩:Bs),(rd_T42 x0 0).f0,(([(⟨bt400.1,bt400.2.1,bt400.2.2.1,bt400.2.2.2.1,bt400.2.2.2.2⟩:S80)]:List (S80))))))else(none))else(none))else(if 0<(x0.length:Int)then(if((rd_T42 x0 0).f0).toList=([40]:List UInt8)then(if 1≤(wrap64 (x5-1))then(if(wrap64 (x5-1))≤(x0.length:Int)then((larderref23_tree.f k ((x0.take ((wrap64 (x5-1)):Int).toNat).drop 1)).bind fun bt415=>(some (bt415.1,bt415.2.1,bt415.2.2.1,bt415.2.2.2.1,bt415.2.2.2.2)))else(none))else(none))else(if((rd_T42 x0 0).f0).toList=([104,97,115]:List UInt8)then(if 1<(x0.length:Int)then(if 3≤(wrap64 (x5-1))then(if(wrap64 (x5-1))≤(x0.length:Int)then((larderref23_tree.f k ((x0.take ((wrap64 (x5-1)):Int).toNat).drop 3)).bind fun bt428=>(some (4,0,(rd_T42 x0 1).f0,(⟨#[]⟩:Bs),(([(⟨bt428.1,bt428.2.1,bt428.2.2.1,bt428.2.2.2.1,bt428.2.2.2.2⟩:S80)]:List (S80))))))else(none))else(none))else(none))else(if((rd_T42 x0 0).f0).toList=([108,101,110]:List UInt8)then(if 1<(x0.length:Int)then(some (5,0,(rd_T42 x0 1).f0,(⟨#[]⟩:Bs),([]:List (S80))))else(none))else(if x5>1 then(if 2≤(wrap64 (x5-1))then(if(wrap64 (x5-1))≤(x0.length:Int)then((larderref23_tree.f k ((x0.take ((wrap64 (x5-1)):Int).toNat).drop 2)).bind fun bt445=>(some (3,0,(rd_T42 x0 0).f0,(⟨#[]⟩:Bs),(([(⟨bt445.1,bt445.2.1,bt445.2.2.1,bt445.2.2.2.1,bt445.2.2.2.2⟩:S80)]:List (S80))))))else(none))else(none))else(some (2,0,(rd_T42 x0 0).f0,(⟨#[]⟩:Bs),([]:List (S80))))))))else(none))
def larderref23_tree.f:Nat→List (S42)→Option (Int×Int×Bs×Bs×(List (S80)))
 |0,_=>none
 |k+1,l0=>larderref23_tree.l0 k l0 1
end
end Go.Proofs.YtbemddpmohoooaaGreatDoor.PShelfFormats
