import Derived.Test.YtbemddpmohoooaaGreatDoorQ20
import Derived.Test.YtbemddpmohoooaaGreatDoorQ25
set_option linter.unusedVariables false
set_option linter.unusedSimpArgs false
set_option linter.unusedSectionVars false
set_option maxHeartbeats 128000000
set_option maxRecDepth 100000
namespace Go.Proofs.YtbemddpmohoooaaGreatDoor
open PShelfFormats RowKit YtbemddpmohoooaaGreatDoorW YtbemddpmohoooaaGreatDoorW.PrintWords
theorem info82:(Tryz.prog.info? 82).map (fun i=>(i.zero,i.size,i.bytes))=some (some (.agg #[.int .i64 0,.string ⟨#[]⟩,.string ⟨#[]⟩,.string ⟨#[]⟩,.slice none 0 0,.slice none 0 0,.slice none 0 0,.int .i64 0,.int .i64 0,.string ⟨#[]⟩,.string ⟨#[]⟩,.slice none 0 0,.bool false,.int .i64 0,.bool false]),15,224):=by kernel_rfl
def rowL (q:S82) (A4:Option Addr) (c4:Nat) (A5:Option Addr) (c5:Nat) (A6:Option Addr) (c6:Nat) (A11:Option Addr) (c11:Nat):List Value:=
 [.int .i64 q.f0.f0,.string q.f0.f1,.string q.f0.f2,.string q.f0.f3,.slice A4 q.f0.f4.length c4,.slice A5 q.f0.f5.length c5,.slice A6 q.f0.f6.length c6,.int .i64 q.f1.f0,.int .i64 q.f1.f1,.string q.f1.f2,.string q.f1.f3,.slice A11 q.f1.f4.length c11,.bool q.f2,.int .i64 q.f3,.bool q.f4]
def PO (q:S82) (m:Nat):Prop:=(q.f2=true∧q.f1=z80∧∃ls,SX q.f0 ls m)∨(q.f2=false∧q.f0=z62∧∃t,EX q.f1 t m)
structure RowAt (w:World) (r:List Value) (m:Nat) (q:S82) (A4:Option Addr) (c4:Nat) (A5:Option Addr) (c5:Nat) (A6:Option Addr) (c6:Nat) (A11:Option Addr) (c11:Nat):Prop where
 e:r=rowL q A4 c4 A5 c5 A6 c6 A11 c11
 l4:q.f0.f4.length≤c4
 g4:Kd.F k80 w (fun k=>k<w.heap.size) A4 q.f0.f4.length q.f0.f4
 l5:q.f0.f5.length≤c5
 g5:Kd.F k62 w (fun k=>k<w.heap.size) A5 q.f0.f5.length q.f0.f5
 l6:q.f0.f6.length≤c6
 g6:Kd.F k62 w (fun k=>k<w.heap.size) A6 q.f0.f6.length q.f0.f6
 l11:q.f1.f4.length≤c11
 g11:Kd.F k80 w (fun k=>k<w.heap.size) A11 q.f1.f4.length q.f1.f4
 po:PO q m
def RowOk (w:World) (r:List Value) (m:Nat):Prop:=∃q A4 c4 A5 c5 A6 c6 A11 c11,RowAt w r m q A4 c4 A5 c5 A6 c6 A11 c11
theorem RowOk.len {w:World} {r:List Value} {m:Nat} (h:RowOk w r m):r.length=15∧∀u∈r,u.oneCell'=true:=by
 obtain⟨q,A4,c4,A5,c5,A6,c6,A11,c11,h⟩:=h;rw[h.e];exact⟨rfl,by intro u hu;simp only[rowL,List.mem_cons,List.not_mem_nil,or_false]at hu;rcases hu with rfl|rfl|rfl|rfl|rfl|rfl|rfl|rfl|rfl|rfl|rfl|rfl|rfl|rfl|rfl<;>rfl⟩
theorem RowOk.FK {w:World} {r:List Value} {m:Nat} (h:RowOk w r m) (W:World) (ok:Nat→Prop):Kd.FK (Kd.raw 15) W ok r r:=fun _ _=>⟨rfl,h.len.1,h.len.2⟩
def PR (w:World) (rows:List (List Value)) (ms:List Nat):Prop:=rows.length=ms.length∧∀(i:Nat) (r:List Value),rows[i]? =some r→∃m,ms[i]? =some m∧RowOk w r m
theorem PR.nil (w:World):PR w [] []:=⟨rfl,fun i r h=>by simp at h⟩
theorem PR.snoc {w:World} {rows:List (List Value)} {ms:List Nat} {r:List Value} {m:Nat} (h:PR w rows ms) (hr:RowOk w r m):PR w (rows++[r]) (ms++[m]):=by
 obtain⟨h1,h2⟩:=h;refine⟨by simp[h1],fun i x hx=> ?_⟩;rw[List.getElem?_append]at hx⊢;by_cases q:i<rows.length
 · rw[if_pos q]at hx
   rw[if_pos (by omega)];exact h2 i x hx
 · rw[if_neg q]at hx
   rw[if_neg (by omega),← h1];have h0:i-rows.length=0:=by have:=(List.getElem?_eq_some_iff.mp hx).1;simp at this;omega
   rw[h0]at hx⊢;obtain rfl:=Option.some.inj hx;exact⟨m,rfl,hr⟩
theorem kidx {w:World} {A:Option Addr} {n:Nat} {l:List S80} (hF:Kd.F k80 w (fun k=>k<w.heap.size) A n l) (pl:Int) (h0:0≤pl) (y:S80) (hy:l[pl.toNat]? =some y):∃ad A4 c4,A=some ad∧(∀W:World,Below w.heap.size w W→W.cell? (ad.add (pl.toNat*5))=some (.int .i64 y.f0)∧W.cell? ⟨(ad.add (pl.toNat*5)).block,(ad.add (pl.toNat*5)).off+1,none⟩=some (.int .i64 y.f1)∧
 W.cell? ⟨(ad.add (pl.toNat*5)).block,(ad.add (pl.toNat*5)).off+2,none⟩=some (.string y.f2)∧W.cell? ⟨(ad.add (pl.toNat*5)).block,(ad.add (pl.toNat*5)).off+3,none⟩=some (.string y.f3)∧W.cell? ⟨(ad.add (pl.toNat*5)).block,(ad.add (pl.toNat*5)).off+4,none⟩=some (.slice A4 y.f4.length c4))∧
 y.f4.length≤c4∧Kd.F k80 w (fun k=>k<w.heap.size) A4 y.f4.length y.f4:=by
 have hn:n=l.length:=((Kd.F_now hF).1).symm;have hl:=(List.getElem?_eq_some_iff.mp hy).1;obtain⟨ad,c,rfl,_,hK,hc,_⟩:=Kd.F_get hF z80 pl h0 (by omega);rw[List.getD_eq_getElem?_getD,hy]at hK;obtain⟨A4,c4,rfl,l4,g4⟩:=k80_openF hK;have e5:k80.sz=5:=rfl;rw[e5]at hc;have hb:∀{W':World} {p:Addr} {v:Value},Below w.heap.size w W'→w.cell? p=some v→W'.cell? p=some v:=fun H hv=>((Turn.of_below (F:=fun _=>False) H (Nat.le_refl _)).cell hv (fun z=>z))
 exact⟨ad,A4,c4,rfl,fun W H=>⟨hb H (hc 0 _ rfl),hb H (by rw[← add_field _ _ 1 (by omega)];exact hc 1 _ rfl),hb H (by rw[← add_field _ _ 2 (by omega)];exact hc 2 _ rfl),hb H (by rw[← add_field _ _ 3 (by omega)];exact hc 3 _ rfl),hb H (by rw[← add_field _ _ 4 (by omega)];exact hc 4 _ rfl)⟩,l4,g4⟩
theorem kids {w:World} {A:Option Addr} {n:Nat} {l:List S62} (hF:Kd.F k62 w (fun k=>k<w.heap.size) A n l) (pl:Int) (h0:0≤pl) (y:S62) (hy:l[pl.toNat]? =some y):∃ad A4 c4 A5 c5 A6 c6,A=some ad∧(∀W:World,Below w.heap.size w W→W.cell? (ad.add (pl.toNat*7))=some (.int .i64 y.f0)∧W.cell? ⟨(ad.add (pl.toNat*7)).block,(ad.add (pl.toNat*7)).off+1,none⟩=some (.string y.f1)∧
 W.cell? ⟨(ad.add (pl.toNat*7)).block,(ad.add (pl.toNat*7)).off+2,none⟩=some (.string y.f2)∧W.cell? ⟨(ad.add (pl.toNat*7)).block,(ad.add (pl.toNat*7)).off+3,none⟩=some (.string y.f3)∧W.cell? ⟨(ad.add (pl.toNat*7)).block,(ad.add (pl.toNat*7)).off+4,none⟩=some (.slice A4 y.f4.length c4)∧
 W.cell? ⟨(ad.add (pl.toNat*7)).block,(ad.add (pl.toNat*7)).off+5,none⟩=some (.slice A5 y.f5.length c5)∧W.cell? ⟨(ad.add (pl.toNat*7)).block,(ad.add (pl.toNat*7)).off+6,none⟩=some (.slice A6 y.f6.length c6))∧
 y.f4.length≤c4∧Kd.F k80 w (fun k=>k<w.heap.size) A4 y.f4.length y.f4∧y.f5.length≤c5∧Kd.F k62 w (fun k=>k<w.heap.size) A5 y.f5.length y.f5∧y.f6.length≤c6∧Kd.F k62 w (fun k=>k<w.heap.size) A6 y.f6.length y.f6:=by
 have hn:n=l.length:=((Kd.F_now hF).1).symm;have hl:=(List.getElem?_eq_some_iff.mp hy).1;obtain⟨ad,c,rfl,_,hK,hc,_⟩:=Kd.F_get hF z62 pl h0 (by omega);rw[List.getD_eq_getElem?_getD,hy]at hK;obtain⟨A4,c4,A5,c5,A6,c6,rfl,l4,g4,l5,g5,l6,g6⟩:=k62_openF hK;have e7:k62.sz=7:=rfl;rw[e7]at hc;have hb:∀{W':World} {p:Addr} {v:Value},Below w.heap.size w W'→w.cell? p=some v→W'.cell? p=some v:=fun H hv=>((Turn.of_below (F:=fun _=>False) H (Nat.le_refl _)).cell hv (fun z=>z))
 exact⟨ad,A4,c4,A5,c5,A6,c6,rfl,fun W H=>⟨hb H (hc 0 _ rfl),hb H (by rw[← add_field _ _ 1 (by omega)];exact hc 1 _ rfl),hb H (by rw[← add_field _ _ 2 (by omega)];exact hc 2 _ rfl),hb H (by rw[← add_field _ _ 3 (by omega)];exact hc 3 _ rfl),hb H (by rw[← add_field _ _ 4 (by omega)];exact hc 4 _ rfl),hb H (by rw[← add_field _ _ 5 (by omega)];exact hc 5 _ rfl),hb H (by rw[← add_field _ _ 6 (by omega)];exact hc 6 _ rfl)⟩,l4,g4,l5,g5,l6,g6⟩
theorem ex_kids {x:S80} {t:List UInt8} {m:Nat} (h:EX x t m):∃ms:List Nat,ms.length=x.f4.length∧(∀(i:Nat) y,x.f4[i]? =some y→∃m,ms[i]? =some m∧∃t,EX y t m)∧ms.sum+1≤m:=by
 have O:∀{x:S80} {t:List UInt8} {m:Nat},EX x t m→∀(i:Nat) y,[x][i]? =some y→∃k,[m][i]? =some k∧∃t,EX y t k:=fun h i y hy=>by
  rcases i with _|i
  · obtain rfl:=Option.some.inj hy;exact⟨_,rfl,_,h⟩
  · simp at hy
 cases h with
 |num n h0 h1=>exact⟨[],rfl,fun i y h=>by simp[xNum]at h,by simp⟩
 |name s hs=>exact⟨[],rfl,fun i y h=>by simp[xName]at h,by simp⟩
 |len s hs=>exact⟨[],rfl,fun i y h=>by simp[xLen]at h,by simp⟩
 |index s x t m hs hx=>exact⟨[m],rfl,O hx,by simp⟩
 |has s x t m hs hx=>exact⟨[m],rfl,O hx,by simp⟩
 |un o x t m ho hx=>exact⟨[m],rfl,O hx,by simp⟩
 |bin o x y t u m n r hr hx hy=>
  refine⟨[m,n],rfl,fun i z hz=> ?_,by simp⟩;rcases i with _|_|i
  · obtain rfl:=Option.some.inj hz;exact⟨_,rfl,_,hx⟩
  · obtain rfl:=Option.some.inj hz;exact⟨_,rfl,_,hy⟩
  · simp[xBin]at hz
theorem exs_kids {xs:List S80} {ts:List (List UInt8)} {m:Nat} (h:EXs xs ts m):∃ms:List Nat,ms.length=xs.length∧(∀(i:Nat) y,xs[i]? =some y→∃m,ms[i]? =some m∧∃t,EX y t m)∧ms.sum=m:=by
 induction h with
 |nil=>exact⟨[],rfl,fun i y h=>by simp at h,rfl⟩
 |cons x t m xs ts n hx h ih=>
  obtain⟨ms,h1,h2,h3⟩:=ih;refine⟨m::ms,by simp[h1],fun i y hy=> ?_,by simp[h3]⟩;rcases i with _|i
  · obtain rfl:=Option.some.inj hy;exact⟨m,rfl,t,hx⟩
  · exact h2 i y hy
theorem sxs_kids {l:List S62} {ls:Nat→List (List UInt8)} {n:Nat} (h:SXs l ls n):∃ms:List Nat,ms.length=l.length∧(∀(i:Nat) y,l[i]? =some y→∃m,ms[i]? =some m∧∃ls,SX y ls m)∧ms.sum=n:=by
 induction l generalizing ls n with
 |nil=>cases h;exact⟨[],rfl,fun i y h=>by simp at h,rfl⟩
 |cons s r ih=>
  cases h with
  |cons s ls m r rs n h1 h2=>
   obtain⟨ms,g1,g2,g3⟩:=ih h2;refine⟨m::ms,by simp[g1],fun i y hy=> ?_,by simp[g3]⟩;rcases i with _|i
   · obtain rfl:=Option.some.inj hy;exact⟨m,rfl,ls,h1⟩
   · exact g2 i y hy
def SK (s:S62) (m:Nat):Prop:=∃m1 m2 m3:List Nat,m1.length=s.f4.length∧(∀(i:Nat) y,s.f4[i]? =some y→∃m,m1[i]? =some m∧∃t,EX y t m)∧m2.length=s.f5.length∧(∀(i:Nat) y,s.f5[i]? =some y→∃m,m2[i]? =some m∧∃ls,SX y ls m)∧m3.length=s.f6.length∧(∀(i:Nat) y,s.f6[i]? =some y→∃m,m3[i]? =some m∧∃ls,SX y ls m)∧m1.sum+m2.sum+m3.sum+1≤m
theorem sx_kids {s:S62} {ls:Nat→List (List UInt8)} {m:Nat} (h:SX s ls m):SK s m:=by
 have O:∀{x:S80} {t:List UInt8} {m:Nat},EX x t m→∀(i:Nat) y,[x][i]? =some y→∃k,[m][i]? =some k∧∃t,EX y t k:=fun h i y hy=>by
  rcases i with _|i
  · obtain rfl:=Option.some.inj hy;exact⟨_,rfl,_,h⟩
  · simp at hy
 have N1:∀(i:Nat) (y:S80),([]:List S80)[i]? =some y→∃m,([]:List Nat)[i]? =some m∧∃t,EX y t m:=fun i y h=>by simp at h
 have N2:∀(i:Nat) (y:S62),([]:List S62)[i]? =some y→∃m,([]:List Nat)[i]? =some m∧∃ls,SX y ls m:=fun i y h=>by simp at h
 cases h with
 |set s x t m hs hx=>exact⟨[m],[],[],rfl,O hx,rfl,N2,rfl,N2,by simp⟩
 |put s x y t u m n hs hx hy=>
  refine⟨[m,n],[],[],rfl,fun i z hz=> ?_,rfl,N2,rfl,N2,by simp⟩;rcases i with _|_|i
  · obtain rfl:=Option.some.inj hz;exact⟨_,rfl,_,hx⟩
  · obtain rfl:=Option.some.inj hz;exact⟨_,rfl,_,hy⟩
  · simp at hz
 |del s x t m hs hx=>exact⟨[m],[],[],rfl,O hx,rfl,N2,rfl,N2,by simp⟩
 |clr s hs=>exact⟨[],[],[],rfl,N1,rfl,N2,rfl,N2,by simp⟩
 |prt xs ts m hx=>
  obtain⟨ms,h1,h2,h3⟩:=exs_kids hx;exact⟨ms,[],[],h1,h2,rfl,N2,rfl,N2,by simp;omega⟩
 |ifs s h ls m hc=>
  cases hc with
  |one x t b bs m n hx hb=>
   obtain⟨ms,h1,h2,h3⟩:=sxs_kids hb;exact⟨[m],ms,[],rfl,O hx,h1,h2,rfl,N2,by simp;omega⟩
  |els x t b bs e es m n k hx hb q1 q2 he=>
   obtain⟨ms,h1,h2,h3⟩:=sxs_kids hb;obtain⟨ks,g1,g2,g3⟩:=sxs_kids he;exact⟨[m],ms,ks,rfl,O hx,h1,h2,g1,g2,by simp;omega⟩
  |eif x t b bs c h ls m n k hx hb hc=>
   obtain⟨ms,h1,h2,h3⟩:=sxs_kids hb
   exact⟨[m],ms,[k],rfl,O hx,h1,h2,rfl,fun i z hz=>by
    rcases i with _|i
    · obtain rfl:=Option.some.inj hz;exact⟨_,rfl,_,.ifs _ _ _ _ hc⟩
    · simp at hz,by simp;omega⟩
 |whl x t b bs m n hx hb=>
  obtain⟨ms,h1,h2,h3⟩:=sxs_kids hb;exact⟨[m],ms,[],rfl,O hx,h1,h2,rfl,N2,by simp;omega⟩
 |rng s a c b bs n hs ha hc hb=>
  obtain⟨ms,h1,h2,h3⟩:=sxs_kids hb;exact⟨[],ms,[],rfl,N1,h1,h2,rfl,N2,by simp;omega⟩
 |brk=>exact⟨[],[],[],rfl,N1,rfl,N2,rfl,N2,by simp⟩
 |cnt=>exact⟨[],[],[],rfl,N1,rfl,N2,rfl,N2,by simp⟩
theorem po_kids {q:S82} {m:Nat} (h:PO q m):∃m0 m1 m2 m3:List Nat,m0.length=q.f1.f4.length∧(∀(i:Nat) y,q.f1.f4[i]? =some y→∃m,m0[i]? =some m∧∃t,EX y t m)∧m1.length=q.f0.f4.length∧(∀(i:Nat) y,q.f0.f4[i]? =some y→∃m,m1[i]? =some m∧∃t,EX y t m)∧
 m2.length=q.f0.f5.length∧(∀(i:Nat) y,q.f0.f5[i]? =some y→∃m,m2[i]? =some m∧∃ls,SX y ls m)∧m3.length=q.f0.f6.length∧(∀(i:Nat) y,q.f0.f6[i]? =some y→∃m,m3[i]? =some m∧∃ls,SX y ls m)∧m0.sum+m1.sum+m2.sum+m3.sum+1≤m:=by
 rcases h with⟨_,h1,ls,h2⟩|⟨_,h1,t,h2⟩
 · obtain⟨m1,m2,m3,a,b,c,d,e,f,g⟩:=sx_kids h2
   exact⟨[],m1,m2,m3,by rw[h1];rfl,fun i y hy=>by rw[h1]at hy;simp[z80]at hy,a,b,c,d,e,f,by simp;omega⟩
 · obtain⟨m0,a,b,c⟩:=ex_kids h2
   exact⟨m0,[],[],[],a,b,by rw[h1];rfl,fun i y hy=>by rw[h1]at hy;simp[z62]at hy,by rw[h1];rfl,fun i y hy=>by rw[h1]at hy;simp[z62]at hy,by rw[h1];rfl,fun i y hy=>by rw[h1]at hy;simp[z62]at hy,by simp;omega⟩
def PtPost (w:World) (n:Nat) (e:Ending) (w':World):Prop:=
 ∃A c rows ms,e= .returned (.slice A rows.length c)∧Kd.N (Kd.raw 15) 82 w' w.heap.size (fun k=>w.heap.size≤k) (.slice A rows.length c) rows∧PR w rows ms∧rows.length≤n∧Below w.heap.size w w'
def P1Loop (w w4:World) (k0:List Nat) (N:Nat) (kq:Nat) (v3 v4:Value) (W:World):Prop:=
 ∃(j:Nat) (rows:List (List Value)) (A:Option Addr) (c:Nat),v3= .slice A rows.length c∧v4= .int .i64 (j:Int)∧Kd.N (Kd.raw 15) 82 W w4.heap.size (fun k=>w4.heap.size≤k) (.slice A rows.length c) rows∧PR w rows (k0.take j)∧rows.length=j∧j≤N∧N-j<kq∧Below w4.heap.size w4 W
def P2Loop (w w4:World) (n:Nat) (kq:Nat) (v3 v5:Value) (W:World):Prop:=
 ∃(i:Nat) (rows:List (List Value)) (ms:List Nat) (A:Option Addr) (c:Nat),v3= .slice A rows.length c∧v5= .int .i64 (i:Int)∧Kd.N (Kd.raw 15) 82 W w4.heap.size (fun k=>w4.heap.size≤k) (.slice A rows.length c) rows∧PR w rows ms∧i≤ms.length∧i+(ms.drop i).sum≤n∧(ms.drop i).sum<kq∧Below w4.heap.size w4 W
def KLoop (w w4:World) (b6:Nat) (ob:Obj) (ms km:List Nat) (kq:Nat) (v3 vj:Value) (W:World):Prop:=
 ∃(j:Nat) (rows:List (List Value)) (A:Option Addr) (c:Nat),v3= .slice A rows.length c∧vj= .int .i64 (j:Int)∧Kd.N (Kd.raw 15) 82 W w4.heap.size (fun k=>w4.heap.size≤k∧k≠b6) (.slice A rows.length c) rows∧PR w rows (ms++km.take j)∧j≤km.length∧km.length-j<kq∧W.heap[b6]? =some ob∧b6<W.heap.size∧Below w4.heap.size w4 W
theorem po_pos {q:S82} {m:Nat} (h:PO q m):1≤m:=by
 rcases h with⟨_,_,ls,h⟩|⟨_,_,t,h⟩
 · exact sx_pos h
 · exact ex_pos h
theorem pr_len {w:World}:∀{rows:List (List Value)} {ms:List Nat},PR w rows ms→∀i,i≤ms.length→ms.length≤i+(ms.drop i).sum:=by
 intro rows ms h i hi
 have G:∀l:List Nat,(∀m∈l,1≤m)→l.length≤l.sum:=by
  intro l;induction l with
  |nil=>intro _;simp
  |cons a r ih=>intro hl;have:=hl a List.mem_cons_self;have:=ih (fun m hm=>hl m (List.mem_cons_of_mem _ hm));simp;omega
 have:=G (ms.drop i) (fun m hm=>by
  obtain⟨j,hj,e⟩:=List.getElem_of_mem (List.mem_of_mem_drop hm);have hjr:j<rows.length:=by rw[h.1];exact hj
  obtain⟨m2,h2,q,_,_,_,_,_,_,_,_,hq⟩:=h.2 j rows[j] (List.getElem?_eq_getElem hjr);rw[List.getElem?_eq_getElem hj]at h2;obtain rfl:=Option.some.inj h2;rw[← e];exact po_pos hq.po)
 rw[List.length_drop]at this;omega
theorem h15 {W:World} {b:Nat} {q:S82} {A4:Option Addr} {c4:Nat} {A5:Option Addr} {c5:Nat} {A6:Option Addr} {c6:Nat} {A11:Option Addr} {c11:Nat} (h:W.heap[b]? =some (.cells (rowL q A4 c4 A5 c5 A6 c6 A11 c11).toArray 82:Obj)):W.cell? ⟨b,0,none⟩=some (.int .i64 q.f0.f0)∧W.cell? ⟨b,4,none⟩=some (.slice A4 q.f0.f4.length c4)∧W.cell? ⟨b,5,none⟩=some (.slice A5 q.f0.f5.length c5)∧W.cell? ⟨b,6,none⟩=some (.slice A6 q.f0.f6.length c6)∧W.cell? ⟨b,11,none⟩=some (.slice A11 q.f1.f4.length c11)∧W.cell? ⟨b,13,none⟩=some (.int .i64 q.f3)∧W.cell? ⟨b,14,none⟩=some (.bool q.f4):=
 ⟨by simp[World.cell?,h,rowL],by simp[World.cell?,h,rowL],by simp[World.cell?,h,rowL],by simp[World.cell?,h,rowL],by simp[World.cell?,h,rowL],by simp[World.cell?,h,rowL],by simp[World.cell?,h,rowL]⟩
theorem pos_sum:∀l:List Nat,(∀(i m:Nat),l[i]? =some m→1≤m)→l.length≤l.sum
 |[],_=>by simp
 |a::r,h=>by
  have h0:=h 0 a rfl;have ih:=pos_sum r (fun i m hm=>h (i+1) m hm);simp;omega
theorem pos_x {l:List S80} {ms:List Nat} (hl:ms.length=l.length) (h:∀(i:Nat) y,l[i]? =some y→∃m,ms[i]? =some m∧∃t,EX y t m):ms.length≤ms.sum:=pos_sum ms (fun i m hm=>by
 have hi:=(List.getElem?_eq_some_iff.mp hm).1;obtain⟨m2,h2,t,h3⟩:=h i _ (List.getElem?_eq_getElem (by omega));rw[hm]at h2;obtain rfl:=Option.some.inj h2;exact ex_pos h3)
theorem pos_s {l:List S62} {ms:List Nat} (hl:ms.length=l.length) (h:∀(i:Nat) y,l[i]? =some y→∃m,ms[i]? =some m∧∃ls,SX y ls m):ms.length≤ms.sum:=pos_sum ms (fun i m hm=>by
 have hi:=(List.getElem?_eq_some_iff.mp hm).1;obtain⟨m2,h2,t,h3⟩:=h i _ (List.getElem?_eq_getElem (by omega));rw[hm]at h2;obtain rfl:=Option.some.inj h2;exact sx_pos h3)
theorem or_split {a b c d:Prop} (h:a∨b∨c∨d):(a∨b∨c)∨d:=by
 rcases h with h|h|h|h
 · exact .inl (.inl h)
 · exact .inl (.inr (.inl h))
 · exact .inl (.inr (.inr h))
 · exact .inr h
theorem sum_drop {ms:List Nat} {i m:Nat} (h:ms[i]? =some m):(ms.drop i).sum=m+(ms.drop (i+1)).sum:=by
 have hl:=(List.getElem?_eq_some_iff.mp h).1;rw[List.drop_eq_getElem_cons hl,List.sum_cons];rw[List.getElem?_eq_getElem hl]at h;obtain rfl:=Option.some.inj h;rfl
theorem sum_next {ms a b c d:List Nat} {i m:Nat} (h:ms[i]? =some m) (hi:i+1≤ms.length):((ms++a++b++c++d).drop (i+1)).sum=(ms.drop (i+1)).sum+(a.sum+b.sum+c.sum+d.sum):=by
 have e:ms++a++b++c++d=ms++(a++b++c++d):=by simp
 rw[e,List.drop_append_of_le_length hi];simp only[List.sum_append]
theorem parts_call (ss:List S62) (ls:Nat→List (List UInt8)) (n:Nat) (h:SXs ss ls n) (hn:n≤8000000) (w:World) (A:Option Addr) (ml c:Nat) (A':Option Addr) (c':Nat) (hl:ss.length≤c') (hF:Kd.F k62 w (fun k=>k<w.heap.size) A' ss.length ss):
 Calls Tryz.prog 33 #[.agg #[.slice A ml c,.slice A' ss.length c']] w (PtPost w n):=by
 obtain⟨k0,hk1,hk2,hk3⟩:=sxs_kids h;have hcnt:=sxs_cnt h;replace hF:=η hF;replace hl:=η hl;replace hk1:=η hk1;replace hk3:=η hk3;clear h;go_enter Tryz.func33,Tryz.ntmps33;go_upto_region 3 with(first|((with_reducible refine gate_dst (N:=1) rfl ?_);refine bxE (N:=1) (cs:=#[.slice A ml c,.slice A' ss.length c']) (t:=31) ?_;intro g hg w4 hbox hb))
 have SC:=η (show ∀W',Below w4.heap.size w4 W'→W'.cell? ⟨w.heap.size,1,none⟩=some (.slice A' ss.length c') from fun W' H=>by
  obtain⟨q0,q1,qf⟩:=heap_two ((Turn.new H).heap hbox (fun z=>z));rw[hg]at q1;exact q1)
 subst hg;have B4:=η hb;clear hbox hb;go_loopg [3,4] (ss.length+1) (fun kq v3 v4 W=>P1Loop w w4 k0 ss.length kq v3 v4 W)
 case atStart=>exact⟨0,[],none,0,rfl,rfl,Kd.N_nil _ _ _ _ _,PR.nil w,rfl,Nat.zero_le _,by omega,Below.refl _ _⟩
 case round=>
  obtain⟨j,rows,A1,cp,rfl,rfl,N1,hpr,hrl,hj,hkq,HB⟩:=hrel;have c1:=SC.out wr HB;replace N1:=η N1;replace HB:=η HB;replace hpr:=η hpr;by_cases hlt:j<ss.length
  · have hltI:(j:Int)<(ss.length:Int):=by omega
    have hp0:(0:Int)≤(j:Int):=by omega
    have hp1:(j:Int)<1000000000:=by omega
    obtain⟨y,hy⟩:∃y,ss[j]? =some y:=⟨_,List.getElem?_eq_getElem hlt⟩;obtain⟨m,hm1,lsy,hm2⟩:=hk2 j y hy;obtain⟨ad,A4,c4,A5,c5,A6,c6,eA,hc,l4,g4,l5,g5,l6,g6⟩:=kids hF.out (j:Int) hp0 y (by rw[Int.toNat_natCast];exact hy);obtain rfl:=eA;obtain⟨z0,z1,z2,z3,z4,z5,z6⟩:=hc wr (below_step B4.out HB.out);have RK:=η (show RowOk w (rowL ⟨y,z80,true,1,false⟩ A4 c4 A5 c5 A6 c6 none 0) m from⟨_,_,_,_,_,_,_,_,_,rfl,l4,g4,l5,g5,l6,g6,Nat.le_refl _,Kd.F_nil _ _ _,.inl ⟨rfl,rfl,lsy,hm2⟩⟩);have htk:k0.take (j+1)=k0.take j++[m]:=by rw[List.take_add_one,hm1];rfl
    have REL:=η (show ∀(A':Option Addr) (c':Nat) (W:World) (rows2:List (List Value)),rows2=rows++[rowL ⟨y,z80,true,1,false⟩ A4 c4 A5 c5 A6 c6 none 0]→Kd.N (Kd.raw 15) 82 W w4.heap.size (fun k=>w4.heap.size≤k) (.slice A' rows2.length c') rows2→Below w4.heap.size w4 W→P1Loop w w4 k0 ss.length (ss.length-j) (.slice A' rows2.length c') (.int .i64 ((j:Int)+1)) W from
     fun A' c' W rows2 q0 q1 q2=>⟨j+1,rows2,A',c',rfl,by simp,q1,by rw[htk,q0];exact hpr.out.snoc RK.out,by rw[q0];simp[hrl],by omega,by omega,q2⟩)
    have hms:ss.length-j<gk:=by omega
    have hrn:rows.length≤8000000:=by omega
    replace hrl:=η hrl;clear hc htk hy hm1 hm2 l4 g4 l5 g5 l6 g6;generalize(j:Int)=pl at*;go_wp2_with(at_builtin;refine Kd.N_append (Kd.raw 15) (w0:=w4) (W:=wr) w4.heap.size rfl (.tmp 19) (.tmp 26) 77 82 (.agg #[.int .i64 0,.string ⟨#[]⟩,.string ⟨#[]⟩,.string ⟨#[]⟩,.slice none 0 0,.slice none 0 0,.slice none 0 0,.int .i64 0,.int .i64 0,.string ⟨#[]⟩,.string ⟨#[]⟩,.slice none 0 0,.bool false,.int .i64 0,.bool false]) 224 rfl Tryz.underlying77 info82 rfl (by decide) (by decide) (.slice A1 rows.length cp) rows (rowL ⟨y,z80,true,1,false⟩ A4 c4 A5 c5 A6 c6 none 0) (rowL ⟨y,z80,true,1,false⟩ A4 c4 A5 c5 A6 c6 none 0) (fun k=>w4.heap.size≤k) (fun _=>False) rfl rfl (RK.out.FK _ _) (fun k hk=>hk.elim) (fun k hk=>by have:=HB.out.size;omega) N1.out HB.out HB.out.size (by omega) ?_;intro v1 w5 N5 hb5 hg5 hat5;obtain⟨A5',c5',hv1⟩:=Kd.N_slice N5;subst hv1;have N6:=η N5;have HB6:=η hb5;clear N5 hb5 hg5 hat5)
    go_roundg (ss.length-j)
    case measure=>exact hms
    case rel=>
     have q:=REL.out _ _ _ _ rfl N6.out HB6.out;simp only[List.length_append,List.length_cons,List.length_nil,Nat.zero_add]at q;exact q
  · have hlt2:¬(j:Int)<(ss.length:Int):=by omega
    have hje:j=ss.length:=by omega
    have hms:k0.take j=k0:=by rw[hje,← hk1.out,List.take_length]
    rw[hms]at hpr;have hrs:rows.length≤8000000:=by omega
    have L2:=η (show P2Loop w w4 n (n+1) (.slice A1 rows.length cp) (.int .i64 0) wr from⟨0,rows,k0,A1,cp,rfl,rfl,N1.out,hpr.out,Nat.zero_le _,by rw[List.drop_zero,hk3.out];omega,by rw[List.drop_zero,hk3.out];omega,HB.out⟩);clear hpr hms hje N1 HB hj hkq hrl;obtain⟨wo,rfl⟩:∃wo:World,wo=wr:=⟨_,rfl⟩;go_wp2_with fail
    go_loopg [3,5,6,7,8,9,10,11] (n+1) (fun kq v3 v5 v6 v7 v8 v9 v10 v11 W=>P2Loop w w4 n kq v3 v5 W)
    case atStart=>exact L2.out
    case round=>
     clear L2 c1;obtain⟨i,rows,ms,A1,cp,rfl,rfl,N1,hpr,him,hin,hkq,HB⟩:=hrel;replace N1:=η N1;replace HB:=η HB;have hpl:=pr_len hpr i him;have hrl:rows.length=ms.length:=hpr.1;by_cases hlt:i<rows.length
     · obtain⟨m,hm,q,A4,c4,A5,c5,A6,c6,A11,c11,hq⟩:=hpr.2 i rows[i] (List.getElem?_eq_getElem hlt)
       obtain⟨g1,cp1,hv1,hg1,hg1b,cells1,hcells1⟩:=Kd.N_form N1.out (by omega);obtain⟨hv1a,hv1c⟩:A1=some ⟨g1,0,none⟩∧cp=cp1:=by injection hv1 with z1 z2 z3;exact⟨z1,z3⟩
       subst hv1a;subst hv1c;obtain⟨cr,hcl,hK,hcc,_⟩:=Kd.N_elem N1.out [] (i:Int) (by omega) (by omega)
       have hce:cr=rowL q A4 c4 A5 c5 A6 c6 A11 c11:=by
        have:=(Kd.FK_now hK).1;rw[List.getD_eq_getElem?_getD,Int.toNat_natCast,List.getElem?_eq_getElem hlt]at this;rw[this,← hq.e];rfl
       subst hce;have e15:(Kd.raw 15).sz=15:=rfl;rw[e15]at hcc;have hltI:(i:Int)<(rows.length:Int):=by omega
       have hp0:(0:Int)≤(i:Int):=by omega
       have hp1:(i:Int)<1000000000:=by omega
       obtain⟨pl,hpl0⟩:∃pl,pl=(i:Int):=⟨_,rfl⟩;rw[← hpl0]at hcc hltI hp0 hp1⊢;replace hpl0:=η hpl0;have y0:wr.cell? ⟨g1,pl.toNat*15,none⟩=some (.int .i64 q.f0.f0):=hcc 0 _ rfl;have y1:wr.cell? ⟨g1,pl.toNat*15+1,none⟩=some (.string q.f0.f1):=hcc 1 _ rfl;have y2:wr.cell? ⟨g1,pl.toNat*15+2,none⟩=some (.string q.f0.f2):=hcc 2 _ rfl;have y3:wr.cell? ⟨g1,pl.toNat*15+3,none⟩=some (.string q.f0.f3):=hcc 3 _ rfl;have y4:wr.cell? ⟨g1,pl.toNat*15+4,none⟩=some (.slice A4 q.f0.f4.length c4):=hcc 4 _ rfl;have y5:wr.cell? ⟨g1,pl.toNat*15+5,none⟩=some (.slice A5 q.f0.f5.length c5):=hcc 5 _ rfl;have y6:wr.cell? ⟨g1,pl.toNat*15+6,none⟩=some (.slice A6 q.f0.f6.length c6):=hcc 6 _ rfl;have y7:wr.cell? ⟨g1,pl.toNat*15+7,none⟩=some (.int .i64 q.f1.f0):=hcc 7 _ rfl;have y8:wr.cell? ⟨g1,pl.toNat*15+8,none⟩=some (.int .i64 q.f1.f1):=hcc 8 _ rfl;have y9:wr.cell? ⟨g1,pl.toNat*15+9,none⟩=some (.string q.f1.f2):=hcc 9 _ rfl;have y10:wr.cell? ⟨g1,pl.toNat*15+10,none⟩=some (.string q.f1.f3):=hcc 10 _ rfl;have y11:wr.cell? ⟨g1,pl.toNat*15+11,none⟩=some (.slice A11 q.f1.f4.length c11):=hcc 11 _ rfl;have y12:wr.cell? ⟨g1,pl.toNat*15+12,none⟩=some (.bool q.f2):=hcc 12 _ rfl;have y13:wr.cell? ⟨g1,pl.toNat*15+13,none⟩=some (.int .i64 q.f3):=hcc 13 _ rfl;have y14:wr.cell? ⟨g1,pl.toNat*15+14,none⟩=some (.bool q.f4):=hcc 14 _ rfl;replace hpl:=η hpl;replace hrl:=η hrl;replace hpr:=η hpr;replace him:=η him;replace hin:=η hin;replace hkq:=η hkq;replace hm:=η hm;replace hq:=η hq;clear hcc hK hcl hv1;go_upto_region 10 with fail
       obtain⟨b6,hb6e⟩:∃b,b=wr.heap.size:=⟨_,rfl⟩;have N10:=η (show Kd.N (Kd.raw 15) 82 (wr.alloc (.cells (rowL q A4 c4 A5 c5 A6 c6 A11 c11).toArray 82:Obj)) w4.heap.size (fun k=>w4.heap.size≤k∧k≠b6) (.slice (some ⟨g1,0,none⟩) rows.length cp) rows from Kd.N_alloc (Kd.N_mono (Kd.N_bound N1.out) (fun k hk=>⟨hk.1,by have:=hk.2;omega⟩)) _);have G10:=η (show(wr.alloc (.cells (rowL q A4 c4 A5 c5 A6 c6 A11 c11).toArray 82:Obj)).heap[b6]? =some (.cells (rowL q A4 c4 A5 c5 A6 c6 A11 c11).toArray 82:Obj) by rw[hb6e];exact alloc_new wr _);have HB10:=η (Below.alloc HB.out HB.out.size (.cells (rowL q A4 c4 A5 c5 A6 c6 A11 c11).toArray 82:Obj));have hs10:=η (show b6<(wr.alloc (.cells (rowL q A4 c4 A5 c5 A6 c6 A11 c11).toArray 82:Obj)).heap.size by rw[hb6e];simp);rw[← hb6e];have hG:=η (fun(W:World) (h:W.heap[b6]? =some (.cells (rowL q A4 c4 A5 c5 A6 c6 A11 c11).toArray 82:Obj))=>h15 h);obtain⟨m0,m1,m2,m3,k0l,k0p,k1l,k1p,k2l,k2p,k3l,k3p,hsum⟩:=po_kids hq.out.po;replace k0l:=η k0l;replace k1l:=η k1l;replace k2l:=η k2l;replace k3l:=η k3l;have hbig:Hid (ms.length+m0.length+m1.length+m2.length+m3.length≤16000000):=η (by have:=pos_x k0l.out k0p;have:=pos_x k1l.out k1p;have:=pos_s k2l.out k2p;have:=pos_s k3l.out k3p;have:=hpl.out;have:=hin.out;have:=sum_drop hm.out;omega);replace hsum:=η hsum;have him2:=η (show i+1≤ms.length from by have:=hrl.out;omega);clear y0 y1 y2 y3 y4 y5 y6 y7 y8 y9 y10 y11 y12 y13 y14 N1 HB hb6e;show Code.wp _ _ _ _ (wr.alloc (.cells (rowL q A4 c4 A5 c5 A6 c6 A11 c11).toArray 82:Obj));generalize(.cells (rowL q A4 c4 A5 c5 A6 c6 A11 c11).toArray 82:Obj)=ob at*;generalize wr.alloc ob=w10 at*;have LK:=η (show KLoop w w4 b6 ob ms m0 (m0.length+1) (.slice (some ⟨g1,0,none⟩) rows.length cp) (.int .i64 0) w10 from⟨0,rows,_,_,rfl,rfl,N10.out,by rw[List.take_zero,List.append_nil];exact hpr.out,Nat.zero_le _,by omega,G10.out,hs10.out,HB10.out⟩);clear N10 G10 HB10 hs10 hpr;go_wp2_with fail
       obtain⟨wo_,rfl⟩:∃wo:World,wo=wr:=⟨_,rfl⟩;obtain⟨go_,rfl⟩:∃k,k=gk:=⟨_,rfl⟩;go_loopg [3,7] (m0.length+1) (fun kq v3 vj W=>KLoop w w4 b6 ob (ms) m0 kq v3 vj W)
       case atStart=>exact LK.out
       case round=>
        clear LK;obtain⟨j,rows,A1,cp,rfl,rfl,N1,hpr,hj,hkq2,G6,hb6,HB⟩:=hrel;obtain⟨h0,h4,h5,h6,h11,h13,h14⟩:=hG.out wr G6;replace N1:=η N1;replace HB:=η HB;replace G6:=η G6;have hkl:=k0l.out;have hrn:=η (show rows.length≤16000000 by have:=hpr.1;simp only[List.length_append,List.length_take]at this;have:=hbig.out;omega);replace hpr:=η hpr;by_cases hlt:j<q.f1.f4.length
        · have hltI:(j:Int)<(q.f1.f4.length:Int):=by omega
          obtain⟨y,hy⟩:∃y,q.f1.f4[j]? =some y:=⟨_,List.getElem?_eq_getElem hlt⟩;obtain⟨mk,hmk,hmk2⟩:=k0p j y hy;obtain⟨pj,hpj⟩:∃pj,pj=(j:Int):=⟨_,rfl⟩;have hj0:(0:Int)≤pj:=by omega
          have hj1:pj<1000000000:=by have:=hbig.out;omega
          have hms2:m0.length-j<gk:=by omega
          have htk:m0.take (j+1)=m0.take j++[mk]:=by rw[List.take_add_one,hmk];rfl
          rw[← hpj]at hltI⊢;replace hpj:=η hpj;obtain⟨ad,Ay,cy,eA,hc,ly,gy⟩:=kidx hq.out.g11 pj hj0 y (by rw[hpj.out,Int.toNat_natCast];exact hy);have RK:=η (show RowOk w (rowL ⟨z62,y,false,IntKind.i64.wrap (q.f3+1),q.f4⟩ none 0 none 0 none 0 Ay cy) mk from⟨_,_,_,_,_,_,_,_,_,rfl,Nat.le_refl _,Kd.F_nil _ _ _,Nat.le_refl _,Kd.F_nil _ _ _,Nat.le_refl _,Kd.F_nil _ _ _,ly,gy,.inr ⟨rfl,rfl,hmk2⟩⟩);obtain rfl:=eA
          have SCC:=η (show ∀W:World,W.heap[b6]? =some ob→Below w.heap.size w W→W.cell? ⟨b6,11,none⟩=some (.slice (some ad) q.f1.f4.length c11)∧W.cell? ⟨b6,13,none⟩=some (.int .i64 q.f3)∧W.cell? ⟨b6,14,none⟩=some (.bool q.f4)∧W.cell? (ad.add (pj.toNat*5))=some (.int .i64 y.f0)∧W.cell? ⟨(ad.add (pj.toNat*5)).block,(ad.add (pj.toNat*5)).off+1,none⟩=some (.int .i64 y.f1)∧W.cell? ⟨(ad.add (pj.toNat*5)).block,(ad.add (pj.toNat*5)).off+2,none⟩=some (.string y.f2)∧W.cell? ⟨(ad.add (pj.toNat*5)).block,(ad.add (pj.toNat*5)).off+3,none⟩=some (.string y.f3)∧W.cell? ⟨(ad.add (pj.toNat*5)).block,(ad.add (pj.toNat*5)).off+4,none⟩=some (.slice Ay y.f4.length cy) from fun W g H=>by
           obtain⟨h0,h4,h5,h6,h11,h13,h14⟩:=hG.out W g;exact⟨h11,h13,h14,hc W H⟩)
          have REL:=η (show ∀(A':Option Addr) (c':Nat) (W:World) (rows2:List (List Value)),rows2=rows++[rowL ⟨z62,y,false,IntKind.i64.wrap (q.f3+1),q.f4⟩ none 0 none 0 none 0 Ay cy]→Kd.N (Kd.raw 15) 82 W w4.heap.size (fun k=>w4.heap.size≤k∧k≠b6) (.slice A' rows2.length c') rows2→W.heap[b6]? =some ob→b6<W.heap.size→Below w4.heap.size w4 W→KLoop w w4 b6 ob (ms) m0 (m0.length-j) (.slice A' rows2.length c') (.int .i64 (pj+1)) W from
           fun A' c' W rows2 q0 q1 q2 q3 q4=>⟨j+1,rows2,A',c',rfl,by rw[hpj.out];simp,q1,by rw[htk,q0,← List.append_assoc];exact hpr.out.snoc RK.out,by omega,by omega,q2,q3,q4⟩)
          replace htk:=η htk;clear hc hy hmk hkl;go_upto_region 13 with fail
          refine sr 16 (S:=fun x'=>x'.cell? ⟨b6,11,none⟩=some (.slice (some ad) q.f1.f4.length c11)∧x'.cell? ⟨b6,13,none⟩=some (.int .i64 q.f3)∧x'.cell? ⟨b6,14,none⟩=some (.bool q.f4)∧x'.cell? (ad.add (pj.toNat*5))=some (.int .i64 y.f0)∧x'.cell? ⟨(ad.add (pj.toNat*5)).block,(ad.add (pj.toNat*5)).off+1,none⟩=some (.int .i64 y.f1)∧x'.cell? ⟨(ad.add (pj.toNat*5)).block,(ad.add (pj.toNat*5)).off+2,none⟩=some (.string y.f2)∧x'.cell? ⟨(ad.add (pj.toNat*5)).block,(ad.add (pj.toNat*5)).off+3,none⟩=some (.string y.f3)∧x'.cell? ⟨(ad.add (pj.toNat*5)).block,(ad.add (pj.toNat*5)).off+4,none⟩=some (.slice Ay y.f4.length cy)) (ds:=([]:List Nat)) (SCC.out wr.drew G6.out (below_step B4.out HB.out.drew)) ?_;have N1d:=η (Kd.N_drew N1.out);have HBd:=η HB.out.drew;have G6d:=η (show wr.drew.heap[b6]? =some ob from G6.out);have hb6d:=η (show b6<wr.drew.heap.size from hb6);clear N1 HB G6 h0 h4 h5 h6 h11 h13 h14 hb6;generalize wr.drew=wA at*;intro hH;refine pu 0 46 ?_;refine pu 1 47 ?_;refine pu 2 48 ?_;refine tk 3 49 hH ?_;refine pu 4 50 ?_;refine pu 5 51 ?_;refine tk 6 52 hH ?_;refine pu 7 53 ?_;refine tk 8 54 hH ?_;refine pu 9 55 ?_;refine pu 10 56 ?_;refine tk 11 57 hH ?_;refine pu 12 58 ?_;refine on 13 59 (fun K hK=> ?_);refine PrintLast.value_ (w1:=wA.alloc (.cells #[.int .i64 0,.string ⟨#[]⟩,.string ⟨#[]⟩,.string ⟨#[]⟩,.slice none 0 0,.slice none 0 0,.slice none 0 0,.int .i64 y.f0,.int .i64 y.f1,.string y.f2,.string y.f3,.slice Ay y.f4.length cy,.bool false,.int .i64 (IntKind.i64.wrap (q.f3+1)),.bool q.f4] 82)) (v:= .slice (some ⟨wA.heap.size,0,none⟩) 1 1) (by rfl) (by rfl) (by go_simp) ?_;refine hK.out _ _ (SCC.out _ (alloc_old G6d.out _) (below_step B4.out (Below.alloc HBd.out HBd.out.size _))) (fun hH=> ?_);clear hK K;refine nm 59 ?_;refine on 14 60 (fun K hK=> ?_);have hb6e:=hb6d.out;refine Kd.N_append_step (Kd.raw 15) (w0:=w4) (W:=wA) w4.heap.size (by simp[Region.wanted]) (.tmp 46) (.tmp 59) 77 82 (.agg #[.int .i64 0,.string ⟨#[]⟩,.string ⟨#[]⟩,.string ⟨#[]⟩,.slice none 0 0,.slice none 0 0,.slice none 0 0,.int .i64 0,.int .i64 0,.string ⟨#[]⟩,.string ⟨#[]⟩,.slice none 0 0,.bool false,.int .i64 0,.bool false]) 224 rfl Tryz.underlying77 info82 rfl (by decide) (by decide) (.slice A1 rows.length cp) rows (rowL ⟨z62,y,false,IntKind.i64.wrap (q.f3+1),q.f4⟩ none 0 none 0 none 0 Ay cy) (rowL ⟨z62,y,false,IntKind.i64.wrap (q.f3+1),q.f4⟩ none 0 none 0 none 0 Ay cy) (fun k=>w4.heap.size≤k∧k≠b6) (fun _=>False) rfl rfl (RK.out.FK _ _) (fun k hk=>hk.elim) (fun k hk=>⟨by have:=HBd.out.size;omega,by omega⟩) N1d.out HBd.out HBd.out.size (by have:=hrn.out;omega) ?_;intro v1 w5 N5 hb5 hg5 hat5;obtain⟨A5',c5',hv1⟩:=Kd.N_slice N5;subst hv1;have G65:=η (show w5.heap[b6]? =some ob from(hg5.block b6 hb6e (fun e=>(N1d.out.1 b6 e.symm).2 rfl)).trans G6d.out);have hb65:=η (show b6<w5.heap.size from Nat.lt_of_lt_of_le hb6e hg5.size);refine hK.out _ _ (SCC.out w5 G65.out (below_step B4.out hb5)) (fun hH=> ?_);clear hK K;refine nm 60 ?_;refine pu 15 3 ?_;refine PrintLast.done_ (by kernel_rfl) ?_;have RL:=η (REL.out _ _ _ _ rfl N5 G65.out hb65.out hb5);clear hH REL N5 hb5 hg5 hat5 G65 hb65 N1d HBd G6d SCC RK hb6d hb6e;go_wp2_with fail
          go_roundg (m0.length-j)
          case measure=>exact hms2
          case rel=>
           have q_:=RL.out;simp only[List.length_append,List.length_cons,List.length_nil,Nat.zero_add]at q_;exact q_
        · have hlt2:¬(j:Int)<(q.f1.f4.length:Int):=by omega
          have hje:j=m0.length:=by omega
          rw[hje,List.take_length]at hpr;clear hje hkl hkq2;have LK:=η (show KLoop w w4 b6 ob (ms++m0) m1 (m1.length+1) (.slice A1 rows.length cp) (.int .i64 0) wr from⟨0,rows,A1,cp,rfl,rfl,N1.out,by rw[List.take_zero,List.append_nil];exact hpr.out,Nat.zero_le _,by omega,G6.out,hb6,HB.out⟩);clear N1 hpr HB hrn hj;go_wp2_with fail
          clear h0 h4 h5 h6 h11 h13 h14 G6 hb6 hlt hlt2;obtain⟨wo_,rfl⟩:∃wo:World,wo=wr:=⟨_,rfl⟩;obtain⟨go_,rfl⟩:∃k,k=gk:=⟨_,rfl⟩;go_loopg [3,8] (m1.length+1) (fun kq v3 vj W=>KLoop w w4 b6 ob (ms++m0) m1 kq v3 vj W)
          case atStart=>exact LK.out
          case round=>
           clear LK;obtain⟨j,rows,A1,cp,rfl,rfl,N1,hpr,hj,hkq2,G6,hb6,HB⟩:=hrel;obtain⟨h0,h4,h5,h6,h11,h13,h14⟩:=hG.out wr G6;replace N1:=η N1;replace HB:=η HB;replace G6:=η G6;have hkl:=k1l.out;have hrn:=η (show rows.length≤16000000 by have:=hpr.1;simp only[List.length_append,List.length_take]at this;have:=hbig.out;omega);replace hpr:=η hpr;by_cases hlt:j<q.f0.f4.length
           · have hltI:(j:Int)<(q.f0.f4.length:Int):=by omega
             obtain⟨y,hy⟩:∃y,q.f0.f4[j]? =some y:=⟨_,List.getElem?_eq_getElem hlt⟩;obtain⟨mk,hmk,hmk2⟩:=k1p j y hy;obtain⟨pj,hpj⟩:∃pj,pj=(j:Int):=⟨_,rfl⟩;have hj0:(0:Int)≤pj:=by omega
             have hj1:pj<1000000000:=by have:=hbig.out;omega
             have hms2:m1.length-j<gk:=by omega
             have htk:m1.take (j+1)=m1.take j++[mk]:=by rw[List.take_add_one,hmk];rfl
             rw[← hpj]at hltI⊢;replace hpj:=η hpj;obtain⟨ad,Ay,cy,eA,hc,ly,gy⟩:=kidx hq.out.g4 pj hj0 y (by rw[hpj.out,Int.toNat_natCast];exact hy);have RK:=η (show RowOk w (rowL ⟨z62,y,false,IntKind.i64.wrap (q.f3+1),q.f4⟩ none 0 none 0 none 0 Ay cy) mk from⟨_,_,_,_,_,_,_,_,_,rfl,Nat.le_refl _,Kd.F_nil _ _ _,Nat.le_refl _,Kd.F_nil _ _ _,Nat.le_refl _,Kd.F_nil _ _ _,ly,gy,.inr ⟨rfl,rfl,hmk2⟩⟩);obtain rfl:=eA
             have SCC:=η (show ∀W:World,W.heap[b6]? =some ob→Below w.heap.size w W→W.cell? ⟨b6,4,none⟩=some (.slice (some ad) q.f0.f4.length c4)∧W.cell? ⟨b6,13,none⟩=some (.int .i64 q.f3)∧W.cell? ⟨b6,14,none⟩=some (.bool q.f4)∧W.cell? (ad.add (pj.toNat*5))=some (.int .i64 y.f0)∧W.cell? ⟨(ad.add (pj.toNat*5)).block,(ad.add (pj.toNat*5)).off+1,none⟩=some (.int .i64 y.f1)∧W.cell? ⟨(ad.add (pj.toNat*5)).block,(ad.add (pj.toNat*5)).off+2,none⟩=some (.string y.f2)∧W.cell? ⟨(ad.add (pj.toNat*5)).block,(ad.add (pj.toNat*5)).off+3,none⟩=some (.string y.f3)∧W.cell? ⟨(ad.add (pj.toNat*5)).block,(ad.add (pj.toNat*5)).off+4,none⟩=some (.slice Ay y.f4.length cy) from fun W g H=>by
              obtain⟨h0,h4,h5,h6,h11,h13,h14⟩:=hG.out W g;exact⟨h4,h13,h14,hc W H⟩)
             have REL:=η (show ∀(A':Option Addr) (c':Nat) (W:World) (rows2:List (List Value)),rows2=rows++[rowL ⟨z62,y,false,IntKind.i64.wrap (q.f3+1),q.f4⟩ none 0 none 0 none 0 Ay cy]→Kd.N (Kd.raw 15) 82 W w4.heap.size (fun k=>w4.heap.size≤k∧k≠b6) (.slice A' rows2.length c') rows2→W.heap[b6]? =some ob→b6<W.heap.size→Below w4.heap.size w4 W→KLoop w w4 b6 ob (ms++m0) m1 (m1.length-j) (.slice A' rows2.length c') (.int .i64 (pj+1)) W from
              fun A' c' W rows2 q0 q1 q2 q3 q4=>⟨j+1,rows2,A',c',rfl,by rw[hpj.out];simp,q1,by rw[htk,q0,← List.append_assoc];exact hpr.out.snoc RK.out,by omega,by omega,q2,q3,q4⟩)
             replace htk:=η htk;clear hc hy hmk hkl;go_upto_region 17 with fail
             refine sr 16 (S:=fun x'=>x'.cell? ⟨b6,4,none⟩=some (.slice (some ad) q.f0.f4.length c4)∧x'.cell? ⟨b6,13,none⟩=some (.int .i64 q.f3)∧x'.cell? ⟨b6,14,none⟩=some (.bool q.f4)∧x'.cell? (ad.add (pj.toNat*5))=some (.int .i64 y.f0)∧x'.cell? ⟨(ad.add (pj.toNat*5)).block,(ad.add (pj.toNat*5)).off+1,none⟩=some (.int .i64 y.f1)∧x'.cell? ⟨(ad.add (pj.toNat*5)).block,(ad.add (pj.toNat*5)).off+2,none⟩=some (.string y.f2)∧x'.cell? ⟨(ad.add (pj.toNat*5)).block,(ad.add (pj.toNat*5)).off+3,none⟩=some (.string y.f3)∧x'.cell? ⟨(ad.add (pj.toNat*5)).block,(ad.add (pj.toNat*5)).off+4,none⟩=some (.slice Ay y.f4.length cy)) (ds:=([]:List Nat)) (SCC.out wr.drew G6.out (below_step B4.out HB.out.drew)) ?_;have N1d:=η (Kd.N_drew N1.out);have HBd:=η HB.out.drew;have G6d:=η (show wr.drew.heap[b6]? =some ob from G6.out);have hb6d:=η (show b6<wr.drew.heap.size from hb6);clear N1 HB G6 h0 h4 h5 h6 h11 h13 h14 hb6;generalize wr.drew=wA at*;intro hH;refine pu 0 69 ?_;refine pu 1 70 ?_;refine pu 2 71 ?_;refine tk 3 72 hH ?_;refine pu 4 73 ?_;refine pu 5 74 ?_;refine tk 6 75 hH ?_;refine pu 7 76 ?_;refine tk 8 77 hH ?_;refine pu 9 78 ?_;refine pu 10 79 ?_;refine tk 11 80 hH ?_;refine pu 12 81 ?_;refine on 13 82 (fun K hK=> ?_);refine PrintLast.value_ (w1:=wA.alloc (.cells #[.int .i64 0,.string ⟨#[]⟩,.string ⟨#[]⟩,.string ⟨#[]⟩,.slice none 0 0,.slice none 0 0,.slice none 0 0,.int .i64 y.f0,.int .i64 y.f1,.string y.f2,.string y.f3,.slice Ay y.f4.length cy,.bool false,.int .i64 (IntKind.i64.wrap (q.f3+1)),.bool q.f4] 82)) (v:= .slice (some ⟨wA.heap.size,0,none⟩) 1 1) (by rfl) (by rfl) (by go_simp) ?_;refine hK.out _ _ (SCC.out _ (alloc_old G6d.out _) (below_step B4.out (Below.alloc HBd.out HBd.out.size _))) (fun hH=> ?_);clear hK K;refine nm 82 ?_;refine on 14 83 (fun K hK=> ?_);have hb6e:=hb6d.out;refine Kd.N_append_step (Kd.raw 15) (w0:=w4) (W:=wA) w4.heap.size (by simp[Region.wanted]) (.tmp 69) (.tmp 82) 77 82 (.agg #[.int .i64 0,.string ⟨#[]⟩,.string ⟨#[]⟩,.string ⟨#[]⟩,.slice none 0 0,.slice none 0 0,.slice none 0 0,.int .i64 0,.int .i64 0,.string ⟨#[]⟩,.string ⟨#[]⟩,.slice none 0 0,.bool false,.int .i64 0,.bool false]) 224 rfl Tryz.underlying77 info82 rfl (by decide) (by decide) (.slice A1 rows.length cp) rows (rowL ⟨z62,y,false,IntKind.i64.wrap (q.f3+1),q.f4⟩ none 0 none 0 none 0 Ay cy) (rowL ⟨z62,y,false,IntKind.i64.wrap (q.f3+1),q.f4⟩ none 0 none 0 none 0 Ay cy) (fun k=>w4.heap.size≤k∧k≠b6) (fun _=>False) rfl rfl (RK.out.FK _ _) (fun k hk=>hk.elim) (fun k hk=>⟨by have:=HBd.out.size;omega,by omega⟩) N1d.out HBd.out HBd.out.size (by have:=hrn.out;omega) ?_;intro v1 w5 N5 hb5 hg5 hat5;obtain⟨A5',c5',hv1⟩:=Kd.N_slice N5;subst hv1;have G65:=η (show w5.heap[b6]? =some ob from(hg5.block b6 hb6e (fun e=>(N1d.out.1 b6 e.symm).2 rfl)).trans G6d.out);have hb65:=η (show b6<w5.heap.size from Nat.lt_of_lt_of_le hb6e hg5.size);refine hK.out _ _ (SCC.out w5 G65.out (below_step B4.out hb5)) (fun hH=> ?_);clear hK K;refine nm 83 ?_;refine pu 15 3 ?_;refine PrintLast.done_ (by kernel_rfl) ?_;have RL:=η (REL.out _ _ _ _ rfl N5 G65.out hb65.out hb5);clear hH REL N5 hb5 hg5 hat5 G65 hb65 N1d HBd G6d SCC RK hb6d hb6e;go_wp2_with fail
             go_roundg (m1.length-j)
             case measure=>exact hms2
             case rel=>
              have q_:=RL.out;simp only[List.length_append,List.length_cons,List.length_nil,Nat.zero_add]at q_;exact q_
           · have hlt2:¬(j:Int)<(q.f0.f4.length:Int):=by omega
             have hje:j=m1.length:=by omega
             rw[hje,List.take_length]at hpr;clear hje hkl hkq2;have L20:=η (show KLoop w w4 b6 ob (ms++m0++m1) m2 (m2.length+1) (.slice A1 rows.length cp) (.int .i64 0) wr from⟨0,rows,A1,cp,rfl,rfl,N1.out,by rw[List.take_zero,List.append_nil];exact hpr.out,Nat.zero_le _,by omega,G6.out,hb6,HB.out⟩);clear N1 hpr HB hrn hj h5 h6 h11 h13 G6 hb6 hlt
             have hin18:q.f4=true∨(q.f4=false∧(q.f0.f0==7)=true)∨(q.f4=false∧(q.f0.f0==7)=false∧(q.f0.f0==8)=true)∨(q.f4=false∧(q.f0.f0==7)=false∧(q.f0.f0==8)=false):=by
              cases q.f4<;>cases(q.f0.f0==7)<;>cases(q.f0.f0==8)<;>simp
             rcases or_split hin18 with hin18|⟨e14,e7,e8⟩
             · rcases hin18 with e14|⟨e14,e7⟩|⟨e14,e7,e8⟩<;>(
                rw[e14]at h14;go_wp2_with fail
                (try clear e7)
                (try clear e8)
                clear h0 h4 h14 hlt2 e14;have LK:=η (show KLoop w w4 b6 ob (ms++m0++m1) m2 (m2.length+1) (.slice A1 rows.length cp) (.int .i64 0) wr from L20.out);obtain⟨wo_,rfl⟩:∃wo:World,wo=wr:=⟨_,rfl⟩;obtain⟨go_,rfl⟩:∃k,k=gk:=⟨_,rfl⟩;go_loopg [3,10] (m2.length+1) (fun kq v3 vj W=>KLoop w w4 b6 ob (ms++m0++m1) m2 kq v3 vj W)
                case atStart=>exact LK.out
                case round=>
                 clear LK;obtain⟨j,rows,A1,cp,rfl,rfl,N1,hpr,hj,hkq2,G6,hb6,HB⟩:=hrel;obtain⟨h0,h4,h5,h6,h11,h13,h14⟩:=hG.out wr G6;replace N1:=η N1;replace HB:=η HB;replace G6:=η G6;have hkl:=k2l.out;have hrn:=η (show rows.length≤16000000 by have:=hpr.1;simp only[List.length_append,List.length_take]at this;have:=hbig.out;omega);replace hpr:=η hpr;by_cases hlt:j<q.f0.f5.length
                 · have hltI:(j:Int)<(q.f0.f5.length:Int):=by omega
                   obtain⟨y,hy⟩:∃y,q.f0.f5[j]? =some y:=⟨_,List.getElem?_eq_getElem hlt⟩;obtain⟨mk,hmk,hmk2⟩:=k2p j y hy;obtain⟨pj,hpj⟩:∃pj,pj=(j:Int):=⟨_,rfl⟩;have hj0:(0:Int)≤pj:=by omega
                   have hj1:pj<1000000000:=by have:=hbig.out;omega
                   have hms2:m2.length-j<gk:=by omega
                   have htk:m2.take (j+1)=m2.take j++[mk]:=by rw[List.take_add_one,hmk];rfl
                   rw[← hpj]at hltI⊢;replace hpj:=η hpj;obtain⟨ad,Ay,cy,By,dy,Cy,ey,eA,hc,ly,gy,ly5,gy5,ly6,gy6⟩:=kids hq.out.g5 pj hj0 y (by rw[hpj.out,Int.toNat_natCast];exact hy);have RK:=η (show RowOk w (rowL ⟨y,z80,true,IntKind.i64.wrap (q.f3+1),true⟩ Ay cy By dy Cy ey none 0) mk from⟨_,_,_,_,_,_,_,_,_,rfl,ly,gy,ly5,gy5,ly6,gy6,Nat.le_refl _,Kd.F_nil _ _ _,.inl ⟨rfl,rfl,hmk2⟩⟩);obtain rfl:=eA
                   have SCC:=η (show ∀W:World,W.heap[b6]? =some ob→Below w.heap.size w W→W.cell? ⟨b6,5,none⟩=some (.slice (some ad) q.f0.f5.length c5)∧W.cell? ⟨b6,13,none⟩=some (.int .i64 q.f3)∧W.cell? (ad.add (pj.toNat*7))=some (.int .i64 y.f0)∧W.cell? ⟨(ad.add (pj.toNat*7)).block,(ad.add (pj.toNat*7)).off+1,none⟩=some (.string y.f1)∧W.cell? ⟨(ad.add (pj.toNat*7)).block,(ad.add (pj.toNat*7)).off+2,none⟩=some (.string y.f2)∧W.cell? ⟨(ad.add (pj.toNat*7)).block,(ad.add (pj.toNat*7)).off+3,none⟩=some (.string y.f3)∧W.cell? ⟨(ad.add (pj.toNat*7)).block,(ad.add (pj.toNat*7)).off+4,none⟩=some (.slice Ay y.f4.length cy)∧W.cell? ⟨(ad.add (pj.toNat*7)).block,(ad.add (pj.toNat*7)).off+5,none⟩=some (.slice By y.f5.length dy)∧W.cell? ⟨(ad.add (pj.toNat*7)).block,(ad.add (pj.toNat*7)).off+6,none⟩=some (.slice Cy y.f6.length ey) from fun W g H=>by
                    obtain⟨h0,h4,h5,h6,h11,h13,h14⟩:=hG.out W g;exact⟨h5,h13,hc W H⟩)
                   have REL:=η (show ∀(A':Option Addr) (c':Nat) (W:World) (rows2:List (List Value)),rows2=rows++[rowL ⟨y,z80,true,IntKind.i64.wrap (q.f3+1),true⟩ Ay cy By dy Cy ey none 0]→Kd.N (Kd.raw 15) 82 W w4.heap.size (fun k=>w4.heap.size≤k∧k≠b6) (.slice A' rows2.length c') rows2→W.heap[b6]? =some ob→b6<W.heap.size→Below w4.heap.size w4 W→KLoop w w4 b6 ob (ms++m0++m1) m2 (m2.length-j) (.slice A' rows2.length c') (.int .i64 (pj+1)) W from
                    fun A' c' W rows2 q0 q1 q2 q3 q4=>⟨j+1,rows2,A',c',rfl,by rw[hpj.out];simp,q1,by rw[htk,q0,← List.append_assoc];exact hpr.out.snoc RK.out,by omega,by omega,q2,q3,q4⟩)
                   replace htk:=η htk;clear hc hy hmk hkl;go_upto_region 22 with fail
                   refine sr 15 (S:=fun x'=>x'.cell? ⟨b6,5,none⟩=some (.slice (some ad) q.f0.f5.length c5)∧x'.cell? ⟨b6,13,none⟩=some (.int .i64 q.f3)∧x'.cell? (ad.add (pj.toNat*7))=some (.int .i64 y.f0)∧x'.cell? ⟨(ad.add (pj.toNat*7)).block,(ad.add (pj.toNat*7)).off+1,none⟩=some (.string y.f1)∧x'.cell? ⟨(ad.add (pj.toNat*7)).block,(ad.add (pj.toNat*7)).off+2,none⟩=some (.string y.f2)∧x'.cell? ⟨(ad.add (pj.toNat*7)).block,(ad.add (pj.toNat*7)).off+3,none⟩=some (.string y.f3)∧x'.cell? ⟨(ad.add (pj.toNat*7)).block,(ad.add (pj.toNat*7)).off+4,none⟩=some (.slice Ay y.f4.length cy)∧x'.cell? ⟨(ad.add (pj.toNat*7)).block,(ad.add (pj.toNat*7)).off+5,none⟩=some (.slice By y.f5.length dy)∧x'.cell? ⟨(ad.add (pj.toNat*7)).block,(ad.add (pj.toNat*7)).off+6,none⟩=some (.slice Cy y.f6.length ey)) (ds:=([]:List Nat)) (SCC.out wr.drew G6.out (below_step B4.out HB.out.drew)) ?_;have N1d:=η (Kd.N_drew N1.out);have HBd:=η HB.out.drew;have G6d:=η (show wr.drew.heap[b6]? =some ob from G6.out);have hb6d:=η (show b6<wr.drew.heap.size from hb6);clear N1 HB G6 h0 h4 h5 h6 h11 h13 h14 hb6;generalize wr.drew=wA at*;intro hH;refine pu 0 106 ?_;refine pu 1 107 ?_;refine pu 2 108 ?_;refine tk 3 109 hH ?_;refine pu 4 110 ?_;refine pu 5 111 ?_;refine tk 6 112 hH ?_;refine pu 7 113 ?_;refine tk 8 114 hH ?_;refine pu 9 115 ?_;refine pu 10 116 ?_;refine pu 11 117 ?_;refine on 12 118 (fun K hK=> ?_);refine PrintLast.value_ (w1:=wA.alloc (.cells #[.int .i64 y.f0,.string y.f1,.string y.f2,.string y.f3,.slice Ay y.f4.length cy,.slice By y.f5.length dy,.slice Cy y.f6.length ey,.int .i64 0,.int .i64 0,.string ⟨#[]⟩,.string ⟨#[]⟩,.slice none 0 0,.bool true,.int .i64 (IntKind.i64.wrap (q.f3+1)),.bool true] 82)) (v:= .slice (some ⟨wA.heap.size,0,none⟩) 1 1) (by rfl) (by rfl) (by go_simp) ?_;refine hK.out _ _ (SCC.out _ (alloc_old G6d.out _) (below_step B4.out (Below.alloc HBd.out HBd.out.size _))) (fun hH=> ?_);clear hK K;refine nm 118 ?_;refine on 13 119 (fun K hK=> ?_);have hb6e:=hb6d.out;refine Kd.N_append_step (Kd.raw 15) (w0:=w4) (W:=wA) w4.heap.size (by simp[Region.wanted]) (.tmp 106) (.tmp 118) 77 82 (.agg #[.int .i64 0,.string ⟨#[]⟩,.string ⟨#[]⟩,.string ⟨#[]⟩,.slice none 0 0,.slice none 0 0,.slice none 0 0,.int .i64 0,.int .i64 0,.string ⟨#[]⟩,.string ⟨#[]⟩,.slice none 0 0,.bool false,.int .i64 0,.bool false]) 224 rfl Tryz.underlying77 info82 rfl (by decide) (by decide) (.slice A1 rows.length cp) rows (rowL ⟨y,z80,true,IntKind.i64.wrap (q.f3+1),true⟩ Ay cy By dy Cy ey none 0) (rowL ⟨y,z80,true,IntKind.i64.wrap (q.f3+1),true⟩ Ay cy By dy Cy ey none 0) (fun k=>w4.heap.size≤k∧k≠b6) (fun _=>False) rfl rfl (RK.out.FK _ _) (fun k hk=>hk.elim) (fun k hk=>⟨by have:=HBd.out.size;omega,by omega⟩) N1d.out HBd.out HBd.out.size (by have:=hrn.out;omega) ?_;intro v1 w5 N5 hb5 hg5 hat5;obtain⟨A5',c5',hv1⟩:=Kd.N_slice N5;subst hv1;have G65:=η (show w5.heap[b6]? =some ob from(hg5.block b6 hb6e (fun e=>(N1d.out.1 b6 e.symm).2 rfl)).trans G6d.out);have hb65:=η (show b6<w5.heap.size from Nat.lt_of_lt_of_le hb6e hg5.size);refine hK.out _ _ (SCC.out w5 G65.out (below_step B4.out hb5)) (fun hH=> ?_);clear hK K;refine nm 119 ?_;refine pu 14 3 ?_;refine PrintLast.done_ (by kernel_rfl) ?_;have RL:=η (REL.out _ _ _ _ rfl N5 G65.out hb65.out hb5);clear hH REL N5 hb5 hg5 hat5 G65 hb65 N1d HBd G6d SCC RK hb6d hb6e;go_wp2_with fail
                   go_roundg (m2.length-j)
                   case measure=>exact hms2
                   case rel=>
                    have q_:=RL.out;simp only[List.length_append,List.length_cons,List.length_nil,Nat.zero_add]at q_;exact q_
                 · have hlt2:¬(j:Int)<(q.f0.f5.length:Int):=by omega
                   have hje:j=m2.length:=by omega
                   rw[hje,List.take_length]at hpr;clear hje hkl hkq2;have LK:=η (show KLoop w w4 b6 ob (ms++m0++m1++m2) m3 (m3.length+1) (.slice A1 rows.length cp) (.int .i64 0) wr from⟨0,rows,A1,cp,rfl,rfl,N1.out,by rw[List.take_zero,List.append_nil];exact hpr.out,Nat.zero_le _,by omega,G6.out,hb6,HB.out⟩);clear N1 hpr HB hrn hj;go_wp2_with fail
                   clear h0 h4 h5 h6 h11 h13 h14 G6 hb6 hlt hlt2;obtain⟨wo_,rfl⟩:∃wo:World,wo=wr:=⟨_,rfl⟩;obtain⟨go_,rfl⟩:∃k,k=gk:=⟨_,rfl⟩;go_loopg [3,11] (m3.length+1) (fun kq v3 vj W=>KLoop w w4 b6 ob (ms++m0++m1++m2) m3 kq v3 vj W)
                   case atStart=>exact LK.out
                   case round=>
                    clear LK;obtain⟨j,rows,A1,cp,rfl,rfl,N1,hpr,hj,hkq2,G6,hb6,HB⟩:=hrel;obtain⟨h0,h4,h5,h6,h11,h13,h14⟩:=hG.out wr G6;replace N1:=η N1;replace HB:=η HB;replace G6:=η G6;have hkl:=k3l.out;have hrn:=η (show rows.length≤16000000 by have:=hpr.1;simp only[List.length_append,List.length_take]at this;have:=hbig.out;omega);replace hpr:=η hpr;by_cases hlt:j<q.f0.f6.length
                    · have hltI:(j:Int)<(q.f0.f6.length:Int):=by omega
                      obtain⟨y,hy⟩:∃y,q.f0.f6[j]? =some y:=⟨_,List.getElem?_eq_getElem hlt⟩;obtain⟨mk,hmk,hmk2⟩:=k3p j y hy;obtain⟨pj,hpj⟩:∃pj,pj=(j:Int):=⟨_,rfl⟩;have hj0:(0:Int)≤pj:=by omega
                      have hj1:pj<1000000000:=by have:=hbig.out;omega
                      have hms2:m3.length-j<gk:=by omega
                      have htk:m3.take (j+1)=m3.take j++[mk]:=by rw[List.take_add_one,hmk];rfl
                      rw[← hpj]at hltI⊢;replace hpj:=η hpj;obtain⟨ad,Ay,cy,By,dy,Cy,ey,eA,hc,ly,gy,ly5,gy5,ly6,gy6⟩:=kids hq.out.g6 pj hj0 y (by rw[hpj.out,Int.toNat_natCast];exact hy);have RK:=η (show RowOk w (rowL ⟨y,z80,true,IntKind.i64.wrap (q.f3+1),true⟩ Ay cy By dy Cy ey none 0) mk from⟨_,_,_,_,_,_,_,_,_,rfl,ly,gy,ly5,gy5,ly6,gy6,Nat.le_refl _,Kd.F_nil _ _ _,.inl ⟨rfl,rfl,hmk2⟩⟩);obtain rfl:=eA
                      have SCC:=η (show ∀W:World,W.heap[b6]? =some ob→Below w.heap.size w W→W.cell? ⟨b6,6,none⟩=some (.slice (some ad) q.f0.f6.length c6)∧W.cell? ⟨b6,13,none⟩=some (.int .i64 q.f3)∧W.cell? (ad.add (pj.toNat*7))=some (.int .i64 y.f0)∧W.cell? ⟨(ad.add (pj.toNat*7)).block,(ad.add (pj.toNat*7)).off+1,none⟩=some (.string y.f1)∧W.cell? ⟨(ad.add (pj.toNat*7)).block,(ad.add (pj.toNat*7)).off+2,none⟩=some (.string y.f2)∧W.cell? ⟨(ad.add (pj.toNat*7)).block,(ad.add (pj.toNat*7)).off+3,none⟩=some (.string y.f3)∧W.cell? ⟨(ad.add (pj.toNat*7)).block,(ad.add (pj.toNat*7)).off+4,none⟩=some (.slice Ay y.f4.length cy)∧W.cell? ⟨(ad.add (pj.toNat*7)).block,(ad.add (pj.toNat*7)).off+5,none⟩=some (.slice By y.f5.length dy)∧W.cell? ⟨(ad.add (pj.toNat*7)).block,(ad.add (pj.toNat*7)).off+6,none⟩=some (.slice Cy y.f6.length ey) from fun W g H=>by
                       obtain⟨h0,h4,h5,h6,h11,h13,h14⟩:=hG.out W g;exact⟨h6,h13,hc W H⟩)
                      have REL:=η (show ∀(A':Option Addr) (c':Nat) (W:World) (rows2:List (List Value)),rows2=rows++[rowL ⟨y,z80,true,IntKind.i64.wrap (q.f3+1),true⟩ Ay cy By dy Cy ey none 0]→Kd.N (Kd.raw 15) 82 W w4.heap.size (fun k=>w4.heap.size≤k∧k≠b6) (.slice A' rows2.length c') rows2→W.heap[b6]? =some ob→b6<W.heap.size→Below w4.heap.size w4 W→KLoop w w4 b6 ob (ms++m0++m1++m2) m3 (m3.length-j) (.slice A' rows2.length c') (.int .i64 (pj+1)) W from
                       fun A' c' W rows2 q0 q1 q2 q3 q4=>⟨j+1,rows2,A',c',rfl,by rw[hpj.out];simp,q1,by rw[htk,q0,← List.append_assoc];exact hpr.out.snoc RK.out,by omega,by omega,q2,q3,q4⟩)
                      replace htk:=η htk;clear hc hy hmk hkl;go_upto_region 26 with fail
                      refine sr 15 (S:=fun x'=>x'.cell? ⟨b6,6,none⟩=some (.slice (some ad) q.f0.f6.length c6)∧x'.cell? ⟨b6,13,none⟩=some (.int .i64 q.f3)∧x'.cell? (ad.add (pj.toNat*7))=some (.int .i64 y.f0)∧x'.cell? ⟨(ad.add (pj.toNat*7)).block,(ad.add (pj.toNat*7)).off+1,none⟩=some (.string y.f1)∧x'.cell? ⟨(ad.add (pj.toNat*7)).block,(ad.add (pj.toNat*7)).off+2,none⟩=some (.string y.f2)∧x'.cell? ⟨(ad.add (pj.toNat*7)).block,(ad.add (pj.toNat*7)).off+3,none⟩=some (.string y.f3)∧x'.cell? ⟨(ad.add (pj.toNat*7)).block,(ad.add (pj.toNat*7)).off+4,none⟩=some (.slice Ay y.f4.length cy)∧x'.cell? ⟨(ad.add (pj.toNat*7)).block,(ad.add (pj.toNat*7)).off+5,none⟩=some (.slice By y.f5.length dy)∧x'.cell? ⟨(ad.add (pj.toNat*7)).block,(ad.add (pj.toNat*7)).off+6,none⟩=some (.slice Cy y.f6.length ey)) (ds:=([]:List Nat)) (SCC.out wr.drew G6.out (below_step B4.out HB.out.drew)) ?_;have N1d:=η (Kd.N_drew N1.out);have HBd:=η HB.out.drew;have G6d:=η (show wr.drew.heap[b6]? =some ob from G6.out);have hb6d:=η (show b6<wr.drew.heap.size from hb6);clear N1 HB G6 h0 h4 h5 h6 h11 h13 h14 hb6;generalize wr.drew=wA at*;intro hH;refine pu 0 128 ?_;refine pu 1 129 ?_;refine pu 2 130 ?_;refine tk 3 131 hH ?_;refine pu 4 132 ?_;refine pu 5 133 ?_;refine tk 6 134 hH ?_;refine pu 7 135 ?_;refine tk 8 136 hH ?_;refine pu 9 137 ?_;refine pu 10 138 ?_;refine pu 11 139 ?_;refine on 12 140 (fun K hK=> ?_);refine PrintLast.value_ (w1:=wA.alloc (.cells #[.int .i64 y.f0,.string y.f1,.string y.f2,.string y.f3,.slice Ay y.f4.length cy,.slice By y.f5.length dy,.slice Cy y.f6.length ey,.int .i64 0,.int .i64 0,.string ⟨#[]⟩,.string ⟨#[]⟩,.slice none 0 0,.bool true,.int .i64 (IntKind.i64.wrap (q.f3+1)),.bool true] 82)) (v:= .slice (some ⟨wA.heap.size,0,none⟩) 1 1) (by rfl) (by rfl) (by go_simp) ?_;refine hK.out _ _ (SCC.out _ (alloc_old G6d.out _) (below_step B4.out (Below.alloc HBd.out HBd.out.size _))) (fun hH=> ?_);clear hK K;refine nm 140 ?_;refine on 13 141 (fun K hK=> ?_);have hb6e:=hb6d.out;refine Kd.N_append_step (Kd.raw 15) (w0:=w4) (W:=wA) w4.heap.size (by simp[Region.wanted]) (.tmp 128) (.tmp 140) 77 82 (.agg #[.int .i64 0,.string ⟨#[]⟩,.string ⟨#[]⟩,.string ⟨#[]⟩,.slice none 0 0,.slice none 0 0,.slice none 0 0,.int .i64 0,.int .i64 0,.string ⟨#[]⟩,.string ⟨#[]⟩,.slice none 0 0,.bool false,.int .i64 0,.bool false]) 224 rfl Tryz.underlying77 info82 rfl (by decide) (by decide) (.slice A1 rows.length cp) rows (rowL ⟨y,z80,true,IntKind.i64.wrap (q.f3+1),true⟩ Ay cy By dy Cy ey none 0) (rowL ⟨y,z80,true,IntKind.i64.wrap (q.f3+1),true⟩ Ay cy By dy Cy ey none 0) (fun k=>w4.heap.size≤k∧k≠b6) (fun _=>False) rfl rfl (RK.out.FK _ _) (fun k hk=>hk.elim) (fun k hk=>⟨by have:=HBd.out.size;omega,by omega⟩) N1d.out HBd.out HBd.out.size (by have:=hrn.out;omega) ?_;intro v1 w5 N5 hb5 hg5 hat5;obtain⟨A5',c5',hv1⟩:=Kd.N_slice N5;subst hv1;have G65:=η (show w5.heap[b6]? =some ob from(hg5.block b6 hb6e (fun e=>(N1d.out.1 b6 e.symm).2 rfl)).trans G6d.out);have hb65:=η (show b6<w5.heap.size from Nat.lt_of_lt_of_le hb6e hg5.size);refine hK.out _ _ (SCC.out w5 G65.out (below_step B4.out hb5)) (fun hH=> ?_);clear hK K;refine nm 141 ?_;refine pu 14 3 ?_;refine PrintLast.done_ (by kernel_rfl) ?_;have RL:=η (REL.out _ _ _ _ rfl N5 G65.out hb65.out hb5);clear hH REL N5 hb5 hg5 hat5 G65 hb65 N1d HBd G6d SCC RK hb6d hb6e;go_wp2_with fail
                      go_roundg (m3.length-j)
                      case measure=>exact hms2
                      case rel=>
                       have q_:=RL.out;simp only[List.length_append,List.length_cons,List.length_nil,Nat.zero_add]at q_;exact q_
                    · have hlt2:¬(j:Int)<(q.f0.f6.length:Int):=by omega
                      have hje:j=m3.length:=by omega
                      rw[hje,List.take_length]at hpr;clear hje hkl hkq2;have P2:=η (show P2Loop w w4 n (ms.drop i).sum (.slice A1 rows.length cp) (.int .i64 (pl+1)) wr from⟨i+1,rows,ms++m0++m1++m2++m3,A1,cp,rfl,by rw[hpl0.out];simp,Kd.N_mono N1.out (fun k hk=>hk.1),hpr.out,by simp only[List.length_append];have:=him2.out;omega,by rw[sum_next hm.out (by have:=him2.out;omega)];have:=hin.out;have:=hsum.out;have:=sum_drop hm.out;omega,by rw[sum_next hm.out (by have:=him2.out;omega)];have:=hsum.out;have:=sum_drop hm.out;omega,HB.out⟩);have hms4:=hkq.out;clear N1 hpr HB hrn hj;go_wp2_with fail
                      go_roundg ((ms.drop i).sum)
                      case measure=>exact hms4
                      case rel=>exact P2.out)
             · rw[e14]at h14
               go_wp2_with fail
               clear h0 h4 h14 hlt2 e14 e7 e8;have LK:=η (show KLoop w w4 b6 ob (ms++m0++m1) m2 (m2.length+1) (.slice A1 rows.length cp) (.int .i64 0) wr from L20.out);obtain⟨wo_,rfl⟩:∃wo:World,wo=wr:=⟨_,rfl⟩;obtain⟨go_,rfl⟩:∃k,k=gk:=⟨_,rfl⟩;go_loopg [3,10] (m2.length+1) (fun kq v3 vj W=>KLoop w w4 b6 ob (ms++m0++m1) m2 kq v3 vj W)
               case atStart=>exact LK.out
               case round=>
                clear LK;obtain⟨j,rows,A1,cp,rfl,rfl,N1,hpr,hj,hkq2,G6,hb6,HB⟩:=hrel;obtain⟨h0,h4,h5,h6,h11,h13,h14⟩:=hG.out wr G6;replace N1:=η N1;replace HB:=η HB;replace G6:=η G6;have hkl:=k2l.out;have hrn:=η (show rows.length≤16000000 by have:=hpr.1;simp only[List.length_append,List.length_take]at this;have:=hbig.out;omega);replace hpr:=η hpr;by_cases hlt:j<q.f0.f5.length
                · have hltI:(j:Int)<(q.f0.f5.length:Int):=by omega
                  obtain⟨y,hy⟩:∃y,q.f0.f5[j]? =some y:=⟨_,List.getElem?_eq_getElem hlt⟩;obtain⟨mk,hmk,hmk2⟩:=k2p j y hy;obtain⟨pj,hpj⟩:∃pj,pj=(j:Int):=⟨_,rfl⟩;have hj0:(0:Int)≤pj:=by omega
                  have hj1:pj<1000000000:=by have:=hbig.out;omega
                  have hms2:m2.length-j<gk:=by omega
                  have htk:m2.take (j+1)=m2.take j++[mk]:=by rw[List.take_add_one,hmk];rfl
                  rw[← hpj]at hltI⊢;replace hpj:=η hpj;obtain⟨ad,Ay,cy,By,dy,Cy,ey,eA,hc,ly,gy,ly5,gy5,ly6,gy6⟩:=kids hq.out.g5 pj hj0 y (by rw[hpj.out,Int.toNat_natCast];exact hy);have RK:=η (show RowOk w (rowL ⟨y,z80,true,IntKind.i64.wrap (q.f3+1),false⟩ Ay cy By dy Cy ey none 0) mk from⟨_,_,_,_,_,_,_,_,_,rfl,ly,gy,ly5,gy5,ly6,gy6,Nat.le_refl _,Kd.F_nil _ _ _,.inl ⟨rfl,rfl,hmk2⟩⟩);obtain rfl:=eA
                  have SCC:=η (show ∀W:World,W.heap[b6]? =some ob→Below w.heap.size w W→W.cell? ⟨b6,5,none⟩=some (.slice (some ad) q.f0.f5.length c5)∧W.cell? ⟨b6,13,none⟩=some (.int .i64 q.f3)∧W.cell? (ad.add (pj.toNat*7))=some (.int .i64 y.f0)∧W.cell? ⟨(ad.add (pj.toNat*7)).block,(ad.add (pj.toNat*7)).off+1,none⟩=some (.string y.f1)∧W.cell? ⟨(ad.add (pj.toNat*7)).block,(ad.add (pj.toNat*7)).off+2,none⟩=some (.string y.f2)∧W.cell? ⟨(ad.add (pj.toNat*7)).block,(ad.add (pj.toNat*7)).off+3,none⟩=some (.string y.f3)∧W.cell? ⟨(ad.add (pj.toNat*7)).block,(ad.add (pj.toNat*7)).off+4,none⟩=some (.slice Ay y.f4.length cy)∧W.cell? ⟨(ad.add (pj.toNat*7)).block,(ad.add (pj.toNat*7)).off+5,none⟩=some (.slice By y.f5.length dy)∧W.cell? ⟨(ad.add (pj.toNat*7)).block,(ad.add (pj.toNat*7)).off+6,none⟩=some (.slice Cy y.f6.length ey) from fun W g H=>by
                   obtain⟨h0,h4,h5,h6,h11,h13,h14⟩:=hG.out W g;exact⟨h5,h13,hc W H⟩)
                  have REL:=η (show ∀(A':Option Addr) (c':Nat) (W:World) (rows2:List (List Value)),rows2=rows++[rowL ⟨y,z80,true,IntKind.i64.wrap (q.f3+1),false⟩ Ay cy By dy Cy ey none 0]→Kd.N (Kd.raw 15) 82 W w4.heap.size (fun k=>w4.heap.size≤k∧k≠b6) (.slice A' rows2.length c') rows2→W.heap[b6]? =some ob→b6<W.heap.size→Below w4.heap.size w4 W→KLoop w w4 b6 ob (ms++m0++m1) m2 (m2.length-j) (.slice A' rows2.length c') (.int .i64 (pj+1)) W from
                   fun A' c' W rows2 q0 q1 q2 q3 q4=>⟨j+1,rows2,A',c',rfl,by rw[hpj.out];simp,q1,by rw[htk,q0,← List.append_assoc];exact hpr.out.snoc RK.out,by omega,by omega,q2,q3,q4⟩)
                  replace htk:=η htk;clear hc hy hmk hkl;go_upto_region 22 with fail
                  refine sr 15 (S:=fun x'=>x'.cell? ⟨b6,5,none⟩=some (.slice (some ad) q.f0.f5.length c5)∧x'.cell? ⟨b6,13,none⟩=some (.int .i64 q.f3)∧x'.cell? (ad.add (pj.toNat*7))=some (.int .i64 y.f0)∧x'.cell? ⟨(ad.add (pj.toNat*7)).block,(ad.add (pj.toNat*7)).off+1,none⟩=some (.string y.f1)∧x'.cell? ⟨(ad.add (pj.toNat*7)).block,(ad.add (pj.toNat*7)).off+2,none⟩=some (.string y.f2)∧x'.cell? ⟨(ad.add (pj.toNat*7)).block,(ad.add (pj.toNat*7)).off+3,none⟩=some (.string y.f3)∧x'.cell? ⟨(ad.add (pj.toNat*7)).block,(ad.add (pj.toNat*7)).off+4,none⟩=some (.slice Ay y.f4.length cy)∧x'.cell? ⟨(ad.add (pj.toNat*7)).block,(ad.add (pj.toNat*7)).off+5,none⟩=some (.slice By y.f5.length dy)∧x'.cell? ⟨(ad.add (pj.toNat*7)).block,(ad.add (pj.toNat*7)).off+6,none⟩=some (.slice Cy y.f6.length ey)) (ds:=([]:List Nat)) (SCC.out wr.drew G6.out (below_step B4.out HB.out.drew)) ?_;have N1d:=η (Kd.N_drew N1.out);have HBd:=η HB.out.drew;have G6d:=η (show wr.drew.heap[b6]? =some ob from G6.out);have hb6d:=η (show b6<wr.drew.heap.size from hb6);clear N1 HB G6 h0 h4 h5 h6 h11 h13 h14 hb6;generalize wr.drew=wA at*;intro hH;refine pu 0 106 ?_;refine pu 1 107 ?_;refine pu 2 108 ?_;refine tk 3 109 hH ?_;refine pu 4 110 ?_;refine pu 5 111 ?_;refine tk 6 112 hH ?_;refine pu 7 113 ?_;refine tk 8 114 hH ?_;refine pu 9 115 ?_;refine pu 10 116 ?_;refine pu 11 117 ?_;refine on 12 118 (fun K hK=> ?_);refine PrintLast.value_ (w1:=wA.alloc (.cells #[.int .i64 y.f0,.string y.f1,.string y.f2,.string y.f3,.slice Ay y.f4.length cy,.slice By y.f5.length dy,.slice Cy y.f6.length ey,.int .i64 0,.int .i64 0,.string ⟨#[]⟩,.string ⟨#[]⟩,.slice none 0 0,.bool true,.int .i64 (IntKind.i64.wrap (q.f3+1)),.bool false] 82)) (v:= .slice (some ⟨wA.heap.size,0,none⟩) 1 1) (by rfl) (by rfl) (by go_simp) ?_;refine hK.out _ _ (SCC.out _ (alloc_old G6d.out _) (below_step B4.out (Below.alloc HBd.out HBd.out.size _))) (fun hH=> ?_);clear hK K;refine nm 118 ?_;refine on 13 119 (fun K hK=> ?_);have hb6e:=hb6d.out;refine Kd.N_append_step (Kd.raw 15) (w0:=w4) (W:=wA) w4.heap.size (by simp[Region.wanted]) (.tmp 106) (.tmp 118) 77 82 (.agg #[.int .i64 0,.string ⟨#[]⟩,.string ⟨#[]⟩,.string ⟨#[]⟩,.slice none 0 0,.slice none 0 0,.slice none 0 0,.int .i64 0,.int .i64 0,.string ⟨#[]⟩,.string ⟨#[]⟩,.slice none 0 0,.bool false,.int .i64 0,.bool false]) 224 rfl Tryz.underlying77 info82 rfl (by decide) (by decide) (.slice A1 rows.length cp) rows (rowL ⟨y,z80,true,IntKind.i64.wrap (q.f3+1),false⟩ Ay cy By dy Cy ey none 0) (rowL ⟨y,z80,true,IntKind.i64.wrap (q.f3+1),false⟩ Ay cy By dy Cy ey none 0) (fun k=>w4.heap.size≤k∧k≠b6) (fun _=>False) rfl rfl (RK.out.FK _ _) (fun k hk=>hk.elim) (fun k hk=>⟨by have:=HBd.out.size;omega,by omega⟩) N1d.out HBd.out HBd.out.size (by have:=hrn.out;omega) ?_;intro v1 w5 N5 hb5 hg5 hat5;obtain⟨A5',c5',hv1⟩:=Kd.N_slice N5;subst hv1;have G65:=η (show w5.heap[b6]? =some ob from(hg5.block b6 hb6e (fun e=>(N1d.out.1 b6 e.symm).2 rfl)).trans G6d.out);have hb65:=η (show b6<w5.heap.size from Nat.lt_of_lt_of_le hb6e hg5.size);refine hK.out _ _ (SCC.out w5 G65.out (below_step B4.out hb5)) (fun hH=> ?_);clear hK K;refine nm 119 ?_;refine pu 14 3 ?_;refine PrintLast.done_ (by kernel_rfl) ?_;have RL:=η (REL.out _ _ _ _ rfl N5 G65.out hb65.out hb5);clear hH REL N5 hb5 hg5 hat5 G65 hb65 N1d HBd G6d SCC RK hb6d hb6e;go_wp2_with fail
                  go_roundg (m2.length-j)
                  case measure=>exact hms2
                  case rel=>
                   have q_:=RL.out;simp only[List.length_append,List.length_cons,List.length_nil,Nat.zero_add]at q_;exact q_
                · have hlt2:¬(j:Int)<(q.f0.f5.length:Int):=by omega
                  have hje:j=m2.length:=by omega
                  rw[hje,List.take_length]at hpr;clear hje hkl hkq2;have LK:=η (show KLoop w w4 b6 ob (ms++m0++m1++m2) m3 (m3.length+1) (.slice A1 rows.length cp) (.int .i64 0) wr from⟨0,rows,A1,cp,rfl,rfl,N1.out,by rw[List.take_zero,List.append_nil];exact hpr.out,Nat.zero_le _,by omega,G6.out,hb6,HB.out⟩);clear N1 hpr HB hrn hj;go_wp2_with fail
                  clear h0 h4 h5 h6 h11 h13 h14 G6 hb6 hlt hlt2;obtain⟨wo_,rfl⟩:∃wo:World,wo=wr:=⟨_,rfl⟩;obtain⟨go_,rfl⟩:∃k,k=gk:=⟨_,rfl⟩;go_loopg [3,11] (m3.length+1) (fun kq v3 vj W=>KLoop w w4 b6 ob (ms++m0++m1++m2) m3 kq v3 vj W)
                  case atStart=>exact LK.out
                  case round=>
                   clear LK;obtain⟨j,rows,A1,cp,rfl,rfl,N1,hpr,hj,hkq2,G6,hb6,HB⟩:=hrel;obtain⟨h0,h4,h5,h6,h11,h13,h14⟩:=hG.out wr G6;replace N1:=η N1;replace HB:=η HB;replace G6:=η G6;have hkl:=k3l.out;have hrn:=η (show rows.length≤16000000 by have:=hpr.1;simp only[List.length_append,List.length_take]at this;have:=hbig.out;omega);replace hpr:=η hpr;by_cases hlt:j<q.f0.f6.length
                   · have hltI:(j:Int)<(q.f0.f6.length:Int):=by omega
                     obtain⟨y,hy⟩:∃y,q.f0.f6[j]? =some y:=⟨_,List.getElem?_eq_getElem hlt⟩;obtain⟨mk,hmk,hmk2⟩:=k3p j y hy;obtain⟨pj,hpj⟩:∃pj,pj=(j:Int):=⟨_,rfl⟩;have hj0:(0:Int)≤pj:=by omega
                     have hj1:pj<1000000000:=by have:=hbig.out;omega
                     have hms2:m3.length-j<gk:=by omega
                     have htk:m3.take (j+1)=m3.take j++[mk]:=by rw[List.take_add_one,hmk];rfl
                     rw[← hpj]at hltI⊢;replace hpj:=η hpj;obtain⟨ad,Ay,cy,By,dy,Cy,ey,eA,hc,ly,gy,ly5,gy5,ly6,gy6⟩:=kids hq.out.g6 pj hj0 y (by rw[hpj.out,Int.toNat_natCast];exact hy);have RK:=η (show RowOk w (rowL ⟨y,z80,true,IntKind.i64.wrap (q.f3+1),false⟩ Ay cy By dy Cy ey none 0) mk from⟨_,_,_,_,_,_,_,_,_,rfl,ly,gy,ly5,gy5,ly6,gy6,Nat.le_refl _,Kd.F_nil _ _ _,.inl ⟨rfl,rfl,hmk2⟩⟩);obtain rfl:=eA
                     have SCC:=η (show ∀W:World,W.heap[b6]? =some ob→Below w.heap.size w W→W.cell? ⟨b6,6,none⟩=some (.slice (some ad) q.f0.f6.length c6)∧W.cell? ⟨b6,13,none⟩=some (.int .i64 q.f3)∧W.cell? (ad.add (pj.toNat*7))=some (.int .i64 y.f0)∧W.cell? ⟨(ad.add (pj.toNat*7)).block,(ad.add (pj.toNat*7)).off+1,none⟩=some (.string y.f1)∧W.cell? ⟨(ad.add (pj.toNat*7)).block,(ad.add (pj.toNat*7)).off+2,none⟩=some (.string y.f2)∧W.cell? ⟨(ad.add (pj.toNat*7)).block,(ad.add (pj.toNat*7)).off+3,none⟩=some (.string y.f3)∧W.cell? ⟨(ad.add (pj.toNat*7)).block,(ad.add (pj.toNat*7)).off+4,none⟩=some (.slice Ay y.f4.length cy)∧W.cell? ⟨(ad.add (pj.toNat*7)).block,(ad.add (pj.toNat*7)).off+5,none⟩=some (.slice By y.f5.length dy)∧W.cell? ⟨(ad.add (pj.toNat*7)).block,(ad.add (pj.toNat*7)).off+6,none⟩=some (.slice Cy y.f6.length ey) from fun W g H=>by
                      obtain⟨h0,h4,h5,h6,h11,h13,h14⟩:=hG.out W g;exact⟨h6,h13,hc W H⟩)
                     have REL:=η (show ∀(A':Option Addr) (c':Nat) (W:World) (rows2:List (List Value)),rows2=rows++[rowL ⟨y,z80,true,IntKind.i64.wrap (q.f3+1),false⟩ Ay cy By dy Cy ey none 0]→Kd.N (Kd.raw 15) 82 W w4.heap.size (fun k=>w4.heap.size≤k∧k≠b6) (.slice A' rows2.length c') rows2→W.heap[b6]? =some ob→b6<W.heap.size→Below w4.heap.size w4 W→KLoop w w4 b6 ob (ms++m0++m1++m2) m3 (m3.length-j) (.slice A' rows2.length c') (.int .i64 (pj+1)) W from
                      fun A' c' W rows2 q0 q1 q2 q3 q4=>⟨j+1,rows2,A',c',rfl,by rw[hpj.out];simp,q1,by rw[htk,q0,← List.append_assoc];exact hpr.out.snoc RK.out,by omega,by omega,q2,q3,q4⟩)
                     replace htk:=η htk;clear hc hy hmk hkl;go_upto_region 26 with fail
                     refine sr 15 (S:=fun x'=>x'.cell? ⟨b6,6,none⟩=some (.slice (some ad) q.f0.f6.length c6)∧x'.cell? ⟨b6,13,none⟩=some (.int .i64 q.f3)∧x'.cell? (ad.add (pj.toNat*7))=some (.int .i64 y.f0)∧x'.cell? ⟨(ad.add (pj.toNat*7)).block,(ad.add (pj.toNat*7)).off+1,none⟩=some (.string y.f1)∧x'.cell? ⟨(ad.add (pj.toNat*7)).block,(ad.add (pj.toNat*7)).off+2,none⟩=some (.string y.f2)∧x'.cell? ⟨(ad.add (pj.toNat*7)).block,(ad.add (pj.toNat*7)).off+3,none⟩=some (.string y.f3)∧x'.cell? ⟨(ad.add (pj.toNat*7)).block,(ad.add (pj.toNat*7)).off+4,none⟩=some (.slice Ay y.f4.length cy)∧x'.cell? ⟨(ad.add (pj.toNat*7)).block,(ad.add (pj.toNat*7)).off+5,none⟩=some (.slice By y.f5.length dy)∧x'.cell? ⟨(ad.add (pj.toNat*7)).block,(ad.add (pj.toNat*7)).off+6,none⟩=some (.slice Cy y.f6.length ey)) (ds:=([]:List Nat)) (SCC.out wr.drew G6.out (below_step B4.out HB.out.drew)) ?_;have N1d:=η (Kd.N_drew N1.out);have HBd:=η HB.out.drew;have G6d:=η (show wr.drew.heap[b6]? =some ob from G6.out);have hb6d:=η (show b6<wr.drew.heap.size from hb6);clear N1 HB G6 h0 h4 h5 h6 h11 h13 h14 hb6;generalize wr.drew=wA at*;intro hH;refine pu 0 128 ?_;refine pu 1 129 ?_;refine pu 2 130 ?_;refine tk 3 131 hH ?_;refine pu 4 132 ?_;refine pu 5 133 ?_;refine tk 6 134 hH ?_;refine pu 7 135 ?_;refine tk 8 136 hH ?_;refine pu 9 137 ?_;refine pu 10 138 ?_;refine pu 11 139 ?_;refine on 12 140 (fun K hK=> ?_);refine PrintLast.value_ (w1:=wA.alloc (.cells #[.int .i64 y.f0,.string y.f1,.string y.f2,.string y.f3,.slice Ay y.f4.length cy,.slice By y.f5.length dy,.slice Cy y.f6.length ey,.int .i64 0,.int .i64 0,.string ⟨#[]⟩,.string ⟨#[]⟩,.slice none 0 0,.bool true,.int .i64 (IntKind.i64.wrap (q.f3+1)),.bool false] 82)) (v:= .slice (some ⟨wA.heap.size,0,none⟩) 1 1) (by rfl) (by rfl) (by go_simp) ?_;refine hK.out _ _ (SCC.out _ (alloc_old G6d.out _) (below_step B4.out (Below.alloc HBd.out HBd.out.size _))) (fun hH=> ?_);clear hK K;refine nm 140 ?_;refine on 13 141 (fun K hK=> ?_);have hb6e:=hb6d.out;refine Kd.N_append_step (Kd.raw 15) (w0:=w4) (W:=wA) w4.heap.size (by simp[Region.wanted]) (.tmp 128) (.tmp 140) 77 82 (.agg #[.int .i64 0,.string ⟨#[]⟩,.string ⟨#[]⟩,.string ⟨#[]⟩,.slice none 0 0,.slice none 0 0,.slice none 0 0,.int .i64 0,.int .i64 0,.string ⟨#[]⟩,.string ⟨#[]⟩,.slice none 0 0,.bool false,.int .i64 0,.bool false]) 224 rfl Tryz.underlying77 info82 rfl (by decide) (by decide) (.slice A1 rows.length cp) rows (rowL ⟨y,z80,true,IntKind.i64.wrap (q.f3+1),false⟩ Ay cy By dy Cy ey none 0) (rowL ⟨y,z80,true,IntKind.i64.wrap (q.f3+1),false⟩ Ay cy By dy Cy ey none 0) (fun k=>w4.heap.size≤k∧k≠b6) (fun _=>False) rfl rfl (RK.out.FK _ _) (fun k hk=>hk.elim) (fun k hk=>⟨by have:=HBd.out.size;omega,by omega⟩) N1d.out HBd.out HBd.out.size (by have:=hrn.out;omega) ?_;intro v1 w5 N5 hb5 hg5 hat5;obtain⟨A5',c5',hv1⟩:=Kd.N_slice N5;subst hv1;have G65:=η (show w5.heap[b6]? =some ob from(hg5.block b6 hb6e (fun e=>(N1d.out.1 b6 e.symm).2 rfl)).trans G6d.out);have hb65:=η (show b6<w5.heap.size from Nat.lt_of_lt_of_le hb6e hg5.size);refine hK.out _ _ (SCC.out w5 G65.out (below_step B4.out hb5)) (fun hH=> ?_);clear hK K;refine nm 141 ?_;refine pu 14 3 ?_;refine PrintLast.done_ (by kernel_rfl) ?_;have RL:=η (REL.out _ _ _ _ rfl N5 G65.out hb65.out hb5);clear hH REL N5 hb5 hg5 hat5 G65 hb65 N1d HBd G6d SCC RK hb6d hb6e;go_wp2_with fail
                     go_roundg (m3.length-j)
                     case measure=>exact hms2
                     case rel=>
                      have q_:=RL.out;simp only[List.length_append,List.length_cons,List.length_nil,Nat.zero_add]at q_;exact q_
                   · have hlt2:¬(j:Int)<(q.f0.f6.length:Int):=by omega
                     have hje:j=m3.length:=by omega
                     rw[hje,List.take_length]at hpr;clear hje hkl hkq2;have P2:=η (show P2Loop w w4 n (ms.drop i).sum (.slice A1 rows.length cp) (.int .i64 (pl+1)) wr from⟨i+1,rows,ms++m0++m1++m2++m3,A1,cp,rfl,by rw[hpl0.out];simp,Kd.N_mono N1.out (fun k hk=>hk.1),hpr.out,by simp only[List.length_append];have:=him2.out;omega,by rw[sum_next hm.out (by have:=him2.out;omega)];have:=hin.out;have:=hsum.out;have:=sum_drop hm.out;omega,by rw[sum_next hm.out (by have:=him2.out;omega)];have:=hsum.out;have:=sum_drop hm.out;omega,HB.out⟩);have hms4:=hkq.out;clear N1 hpr HB hrn hj;go_wp2_with fail
                     go_roundg ((ms.drop i).sum)
                     case measure=>exact hms4
                     case rel=>exact P2.out
     · have hlt2:¬(i:Int)<(rows.length:Int):=by omega
       have hr:rows.length≤n:=by omega
       have PP:=η (show PtPost w n (.returned (.slice A1 rows.length cp)) wr from⟨A1,cp,rows,ms,rfl,Kd.N_mono (Kd.N_lower N1.out B4.out.size) (fun k hk=>Nat.le_trans B4.out.size hk),hpr,hr,below_step B4.out HB.out⟩);clear hpr hpl hrl him hin hkq;go_wp2_with fail
       go_ret;exact PP.out
end Go.Proofs.YtbemddpmohoooaaGreatDoor
