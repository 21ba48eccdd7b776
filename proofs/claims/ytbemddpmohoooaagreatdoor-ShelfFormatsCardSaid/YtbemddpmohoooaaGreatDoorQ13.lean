import Derived.Test.YtbemddpmohoooaaGreatDoorQ12
set_option linter.unusedVariables false
set_option linter.unusedSimpArgs false
set_option linter.unusedSectionVars false
set_option maxHeartbeats 128000000
set_option maxRecDepth 100000
namespace Go.Proofs.YtbemddpmohoooaaGreatDoor
open PShelfFormats RowKit YtbemddpmohoooaaGreatDoorW.PrintWords
abbrev bx (x:S80) (A:Option Addr) (c:Nat):Obj:= .cells #[.int .i64 x.f0,.int .i64 x.f1,.string x.f2,.string x.f3,.slice A x.f4.length c] 80
def ExLoop (low:Nat) (o:Except (Int×Int) (S80×List S42)) (w:World) (n g b4 b5 kq:Nat) (W:World):Prop:=
 ∃x l A c,pLoop kq low x l=some o∧W.heap[b4]? =some box80∧W.heap[b5]? =some (bx x A c)∧VX W (fun k=>w.heap.size≤k∧k≠b4∧k≠b5) x A c∧Rd W n g l∧Turn (fun k=>k=g) w W
theorem expr_five (k:Nat) (UN:UnAt k) (l:List S42) (o:Except (Int×Int) (S80×List S42)) (w:World) (n g:Nat) (h:pUn k l=some o) (R:Rd w n g l) (hn:n≤w.heap.size):
 Calls Tryz.prog 46 #[.pointer (some ⟨g,0,none⟩),.int .i64 5] w (ExPost w n g o):=by
 have hg:=Nat.lt_of_lt_of_le R.gn hn;have R1:=R.al hn box80;have T0:=η ((Turn.refl (fun k=>k=g) w).alloc box80);have HB:=η (alloc_new w box80);have HU:=η (UN l o (w.alloc box80) n g h R1 (by simp;omega));clear R R1 h;go_enter Tryz.func46,Tryz.ntmps46;go_wp2_with fail
 refine HU.out.mono ?_;rintro e w1 hp;cases o with
 |error er=>
  obtain⟨rfl,T1⟩:=hp;go_wp2_with fail
  exact⟨rfl,rfl,T0.out.then T1 (fun i hi=> .inl hi)⟩
 |ok y=>
  obtain⟨x,l1⟩:=y;obtain⟨A,c,rfl,V,R2,T1⟩:=hp;have hs1:=T1.size;simp at hs1;have B1:=η (T1.heap HB.out (fun q=>by omega));obtain⟨b0,b1,b2,b3,b4,bf⟩:=heap5 B1.out;go_wp2_with fail
  refine ret80 4 rfl rfl B1.out (fun W s1 s2=> ?_);have V1:=V.turn s2 (fun k hk=>by simp at*;omega);exact⟨A,c,rfl,V1.mono (fun k hk=>by simp at hk;omega),R2.turn s2 (by omega) (fun k hk=>by omega),(T0.out.then T1 (fun i hi=> .inl hi)).then s2 (fun i hi=> .inr (by omega))⟩
abbrev binW (w:World) (b5:Nat) (x:S80) (A:Option Addr) (c:Nat) (y:S80) (A':Option Addr) (c':Nat) (s:Bs):World:=
 ((((((w.setCell ⟨b5,0,none⟩ (.int .i64 7)).setCell ⟨b5,1,none⟩ (.int .i64 0)).setCell ⟨b5,2,none⟩ (.string ⟨#[]⟩)).setCell ⟨b5,3,none⟩ (.string s)).setCell ⟨b5,4,none⟩ (.slice (some ⟨w.heap.size+1,0,none⟩) 2 2)).alloc (bx y A' c')).alloc
   (.cells #[.int .i64 x.f0,.int .i64 x.f1,.string x.f2,.string x.f3,.slice A x.f4.length c,.int .i64 y.f0,.int .i64 y.f1,.string y.f2,.string y.f3,.slice A' y.f4.length c'] 80)
theorem bin_world {w:World} {b5:Nat} {okx oky ok:Nat→Prop} {x y:S80} {A A':Option Addr} {c c':Nat} {a0 a1 a2 a3 a4:Value} (hx:VX w okx x A c) (hy:VX w oky y A' c') (h5:w.heap[b5]? =some (.cells #[a0,a1,a2,a3,a4] 80 (0,0))) (s:Bs)
 (hok:∀k,okx k∨oky k∨k=w.heap.size+1→ok k) (hb:¬okx b5∧¬oky b5):
 (binW w b5 x A c y A' c' s).heap[b5]? =some (bx (xBin s x y) (some ⟨w.heap.size+1,0,none⟩) 2)∧Turn (fun k=>k=b5) w (binW w b5 x A c y A' c' s)∧VX (binW w b5 x A c y A' c' s) ok (xBin s x y) (some ⟨w.heap.size+1,0,none⟩) 2:=by
 obtain⟨s1,s2⟩:=set5 h5 (.int .i64 7) (.int .i64 0) (.string ⟨#[]⟩) (.string s) (.slice (some ⟨w.heap.size+1,0,none⟩) 2 2);have hx1:=(hx.turn s2 (fun k hk=>by rw[hk];exact hb.1)).al (bx y A' c');have hy1:=(hy.turn s2 (fun k hk=>by rw[hk];exact hb.2)).al (bx y A' c');refine⟨alloc_old (alloc_old s1 _) _,(s2.alloc _).alloc _,by simp[xBin],?_⟩
 have h:=lit2 (ok':=ok) (hx1.mono (ok':=fun k=>okx k∨oky k) (fun k hk=> .inl hk)) (hy1.mono (ok':=fun k=>okx k∨oky k) (fun k hk=> .inr hk)) (fun k hk=>hok k (by
  rcases hk with hk|hk
  · rcases hk.1 with hk|hk
    · exact .inl hk
    · exact .inr (.inl hk)
  · simp at hk;exact .inr (.inr hk)))
 simp at h;exact h
theorem expr_fin {w W W2:World} {n g b4 b5:Nat} {x:S80} {l:List S42} {A:Option Addr} {c:Nat} (hn:n≤w.heap.size) (h4:w.heap.size≤b4) (V:VX W (fun k=>w.heap.size≤k∧k≠b4∧k≠b5) x A c) (R:Rd W n g l) (T:Turn (fun k=>k=g) w W)
 (s2:Turn (fun k=>k=b4) W W2):ExPost w n g (.ok (x,l)) (.returned (.agg #[.int .i64 x.f0,.int .i64 x.f1,.string x.f2,.string x.f3,.slice A x.f4.length c])) W2:=
 ⟨A,c,rfl,(V.turn s2 (fun k hk=>by omega)).mono (fun k hk=>hk.1),R.turn s2 (Nat.le_trans hn T.size) (fun k hk=>by omega),T.then s2 (fun i hi=> .inr (by omega))⟩
theorem expr_low (k:Nat) (IH:∀j,j≤k→ExAt j) (low:Nat) (hl5:low<5) (l:List S42) (o:Except (Int×Int) (S80×List S42)) (w:World) (n g:Nat) (h:pbind (pExpr k (low+1)) (pLoop k low) l=some o) (R:Rd w n g l) (hn:n≤w.heap.size):
 Calls Tryz.prog 46 #[.pointer (some ⟨g,0,none⟩),.int .i64 (low:Int)] w (ExPost w n g o):=by
 have hg:=Nat.lt_of_lt_of_le R.gn hn;have R1:=R.al hn box80;have T0:=η ((Turn.refl (fun k=>k=g) w).alloc box80);have HB:=η (alloc_new w box80);have hl0:((low:Int)==5)=false:=by rw[beq_eq_false_iff_ne];omega
 have H:=pbind_cases h;have hlb:(low:Int)<5:=by omega
 have hlc:(0:Int)≤(low:Int):=by omega
 have ec:((low:Int)+1)=((low+1:Nat):Int):=by omega
 have EC:=η ec;have RR:=η R1;have IHH:=η IH;clear R R1 h ec IH;go_enter Tryz.func46,Tryz.ntmps46;go_wp2_with fail
 rw[EC.out];rcases H with⟨er,h1,rfl⟩|⟨x,l1,h1,h2⟩
 · refine(IHH.out k (Nat.le_refl _) (low+1) l _ _ n g h1 (by omega) RR.out (by simp;omega)).mono ?_
   rintro e w1 ⟨rfl,T1⟩;go_wp2_with fail
   exact⟨rfl,rfl,T0.out.then T1 (fun i hi=> .inl hi)⟩
 refine(IHH.out k (Nat.le_refl _) (low+1) l _ _ n g h1 (by omega) RR.out (by simp;omega)).mono ?_;rintro e w1 ⟨A,c,rfl,V,R2,T1⟩;have hs1:=T1.size;simp at hs1;have B1:=η (T1.heap HB.out (fun q=>by omega));go_wp2_with fail
 have L0:ExLoop low o w n g w.heap.size w1.heap.size k (w1.alloc (bx x A c)):=
  ⟨x,l1,A,c,h2,alloc_old B1.out _,alloc_new w1 _,(V.old (fun k hk hlt=>by simp at hk;omega)).al _,R2.al (by omega) _,(T0.out.then T1 (fun i hi=> .inl hi)).alloc _⟩
 obtain⟨b4,hb4⟩:∃b,b=w.heap.size:=⟨_,rfl⟩;obtain⟨b5,hb5⟩:∃b,b=w1.heap.size:=⟨_,rfl⟩;rw[← hb4,← hb5]at L0;rw[← hb4,← hb5];have h45:b4<b5:=by omega
 have HN:=η hn;have H4:=η (show w.heap.size≤b4 by omega);have HG:=η hg;clear V R2 T1 hs1 B1 h1 h2 RR HB T0 hb4 hb5 hn hg;generalize w1.alloc (bx x A c)=w2 at*;go_loopg [16] k (fun kq v16 W=>ExLoop low o w n g b4 b5 kq W∧kq≤k)
 case atStart=>exact⟨L0,Nat.le_refl _⟩
 case round=>
  clear L0;obtain⟨⟨x,l,A,c,hp,B4,B5,V,R,T⟩,hk⟩:=hrel;cases gk with
  |zero=>rw[pLoop]at hp;cases hp
  |succ kq=>
   rw[pLoop]at hp;dsimp only at hp;obtain⟨b,ofs,q,cc,z1,z2,z3,z4,c0,f0,t0,t1,t2,hadv⟩:=R.cells;have z5:0<q+1:=by omega
   have B4:=η B4;have B5:=η B5;by_cases k1:(hd l).f2=109
   · have k2:(kd (hd l).f2==4)=true:=by rw[beq_iff_eq];exact kd_eq.1.2 k1
     have RC:=η (rank_call (hd l).f0);by_cases k3:rank0 (hd l).f0.toList=(low:Int)
     · rw[if_pos ⟨k1,k3⟩]at hp
       have k4:(rank0 (hd l).f0.toList==(low:Int))=true:=by rw[beq_iff_eq];exact k3
       obtain⟨y1,hadv⟩:=hadv (.inl k1);have hcut:=cut1 b ofs q cc y1 z4 z3;have R1:=hadv wr (same_below rfl);have T1:=turn_g (w:=wr) g (.slice (some ⟨b,ofs+3,none⟩) q (cc-1));have B4:=η (T1.heap B4.out (fun z=>by have:=HG.out;have:=H4.out;omega));have B5:=η (T1.heap B5.out (fun z=>by have:=HG.out;have:=H4.out;omega));have V1:=V.turn T1 (fun k hk=>by have:=HG.out;have:=H4.out;omega);have T1:=T.then T1 (fun i hi=> .inl hi);have HP:=pbind_cases hp;clear hp k1 k3 hadv R T V y1;generalize kd (hd l).f2=kk at*;generalize rank0 (hd l).f0.toList=rr at*;go_wp2_with fail
       refine(RC.out _).mono ?_;rintro e w' ⟨rfl,rfl⟩;go_wp2_with fail
       generalize wr.setCell ⟨g,0,none⟩ (.slice (some ⟨b,ofs+3,none⟩) q (cc-1))=w3 at*;have hs3:=T1.size;rw[EC.out];rcases HP with⟨er,h1,rfl⟩|⟨y,l2,h1,h2⟩
       · refine(IHH.out kq (by omega) (low+1) l.tail _ _ n g h1 (by omega) R1 (Nat.le_trans HN.out hs3)).mono ?_
         rintro e w4 ⟨rfl,T2⟩;go_wp2_with fail
         exact⟨rfl,rfl,T1.then T2 (fun i hi=> .inl hi)⟩
       refine(IHH.out kq (by omega) (low+1) l.tail _ _ n g h1 (by omega) R1 (Nat.le_trans HN.out hs3)).mono ?_;rintro e w4 ⟨A',c',rfl,V',R2,T2⟩;have hs4:=T2.size;have B4:=η (T2.heap B4.out (fun z=>by have:=HG.out;have:=H4.out;omega));have B5':=η (T2.heap B5.out (fun z=>by have:=HG.out;have:=H4.out;omega));obtain⟨e0,e1,e2,e3,e4,ef⟩:=heap5 B5'.out;have h5s:b5<w4.heap.size:=(Array.getElem?_eq_some_iff.1 B5'.out).1;have H2:=η h2;clear h1 h2 c0 t0 t1 t2 hcut f0;have h53:b5<w3.heap.size:=(Array.getElem?_eq_some_iff.1 B5.out).1;have BW:=bin_world (ok:=fun k=>w.heap.size≤k∧k≠b4∧k≠b5) (V1.turn T2 (fun k hk=>by have:=HG.out;omega)) V' B5'.out (hd l).f0 (fun k hk=>by have:=H4.out;omega) ⟨by simp,by omega⟩;by_cases hl2:low=2
       · have hl3:((low:Int)==2)=true:=by rw[beq_iff_eq];omega
         have HL2:=η hl2;clear hl2;go_upto_region 10 with fail
         change Code.wp _ _ _ _ (binW w4 b5 x A c y A' c' (hd l).f0);obtain⟨B6,T3,V3⟩:=BW
         obtain rfl:o= .ok (xBin (hd l).f0 x y,l2):=by
          have:=H2.out;rw[if_pos HL2.out]at this;exact(Option.some.inj this).symm
         have B7:=η (T3.heap B4.out (fun z=>by omega));have R3:=R2.turn T3 (Nat.le_trans HN.out (Nat.le_trans hs3 hs4)) (fun k hk=>by have:=HN.out;have:=H4.out;omega);have T4:=(T1.then T2 (fun i hi=> .inl hi)).then T3 (fun i hi=> .inr (by have:=H4.out;omega));clear hs4 h5s e0 e1 e2 e3 e4 ef;generalize binW w4 b5 x A c y A' c' (hd l).f0=W5 at*;generalize w4.heap.size+1=bn at*;obtain⟨e0,e1,e2,e3,e4,ef⟩:=heap5 B6;obtain⟨d0,d1,d2,d3,d4,df⟩:=heap5 B7.out;clear B6;go_wp2_with fail
         exact ret80 4 rfl rfl B7.out (fun W s1 s2=>expr_fin HN.out H4.out V3 R3 T4 s2)
       · have hl3:((low:Int)==2)=false:=by rw[beq_eq_false_iff_ne];omega
         go_wp2_with fail
         obtain⟨B6,T3,V3⟩:=BW;go_roundg kq
         case measure=>omega
         case rel=>
          refine⟨⟨xBin (hd l).f0 x y,l2,_,_,?_,T3.heap B4.out (fun z=>by omega),B6,V3,R2.turn T3 (Nat.le_trans HN.out (Nat.le_trans hs3 hs4)) (fun k hk=>by have:=HN.out;have:=H4.out;omega),(T1.then T2 (fun i hi=> .inl hi)).then T3 (fun i hi=> .inr (by have:=H4.out;omega))⟩,by omega⟩;have:=H2.out
          rwa [if_neg hl2]at this
     · rw[if_neg (fun z=>k3 z.2)]at hp
       have k4:(rank0 (hd l).f0.toList==(low:Int))=false:=by rw[beq_eq_false_iff_ne];exact k3
       obtain rfl:=Option.some.inj hp;clear hp k1 k3;generalize kd (hd l).f2=kk at*;generalize rank0 (hd l).f0.toList=rr at*;go_wp2_with fail
       refine(RC.out _).mono ?_;rintro e w' ⟨rfl,rfl⟩;obtain⟨e0,e1,e2,e3,e4,ef⟩:=heap5 B5.out;obtain⟨d0,d1,d2,d3,d4,df⟩:=heap5 B4.out;go_wp2_with fail
       exact ret80 4 rfl rfl B4.out (fun W s1 s2=>expr_fin HN.out H4.out V R T s2)
   · rw[if_neg (fun z=>k1 z.1)]at hp
     have k2:(kd (hd l).f2==4)=false:=by rw[beq_eq_false_iff_ne];exact fun z=>k1 (kd_eq.1.1 z)
     obtain rfl:=Option.some.inj hp;obtain⟨e0,e1,e2,e3,e4,ef⟩:=heap5 B5.out;obtain⟨d0,d1,d2,d3,d4,df⟩:=heap5 B4.out;clear hp k1;generalize kd (hd l).f2=kk at*;go_wp2_with fail
     exact ret80 4 rfl rfl B4.out (fun W s1 s2=>expr_fin HN.out H4.out V R T s2)
end Go.Proofs.YtbemddpmohoooaaGreatDoor
