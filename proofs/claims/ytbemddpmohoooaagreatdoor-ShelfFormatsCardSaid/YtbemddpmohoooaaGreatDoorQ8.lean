import Derived.Test.YtbemddpmohoooaaGreatDoorQ7
set_option linter.unusedVariables false
set_option linter.unusedSimpArgs false
set_option linter.unusedSectionVars false
set_option maxHeartbeats 128000000
set_option maxRecDepth 100000
namespace Go.Proofs.YtbemddpmohoooaaGreatDoor
open PShelfFormats RowKit YtbemddpmohoooaaGreatDoorW.PrintWords YtbemddpmohoooaaGreatDoorW.PrintLast YtbemddpmohoooaaGreatDoorW.PrintMore
theorem pbind_ok {α β:Type} {a:P α} {f:α→P β} {l l2:List S42} {y:β} (h:pbind a f l=some (.ok (y,l2))):∃x l1,a l=some (.ok (x,l1))∧f x l1=some (.ok (y,l2)):=by
 unfold pbind at h;cases ha:a l with
 |none=>rw[ha]at h;cases h
 |some o=>
  cases o with
  |error e=>rw[ha]at h;cases h
  |ok x=>rw[ha]at h;exact⟨x.1,x.2,rfl,h⟩
theorem pok_ok {α:Type} {x y:α} {l l2:List S42} (h:pok x l=some (.ok (y,l2))):x=y∧l=l2:=by
 unfold pok at h;injection h with h;injection h with h;injection h with h1 h2
 exact⟨h1,h2⟩
theorem hd_cons {l:List S42} (h:(hd l).f2≠0):l=hd l::l.tail:=by
 cases l with
 |nil=>exact absurd rfl h
 |cons a l=>rfl
theorem isM_cons {l:List S42} {m:List UInt8} (h:isM (hd l) m):l=hd l::l.tail:=hd_cons (by rw[h.1];decide)
theorem ptok_ok {m:List UInt8} {l l2:List S42} {u:Unit} (h:ptok m l=some (.ok (u,l2))):∃t,l=t::l2∧isM t m:=by
 unfold ptok at h;split at h
 · rename_i q
   injection h with h;injection h with h;injection h with h1 h2
   exact⟨hd l,by rw[← h2];exact isM_cons q,q⟩
 · unfold pfail at h;injection h with h;cases h
theorem pname_ok {l l2:List S42} {s:Bs} (h:pname l=some (.ok (s,l2))):∃t,l=t::l2∧t.f2=110∧s=t.f0:=by
 unfold pname at h;split at h
 · rename_i q
   injection h with h;injection h with h;injection h with h1 h2
   exact⟨hd l,by rw[← h2];exact hd_cons (by rw[q];decide),q,h1.symm⟩
 · unfold pfail at h;injection h with h;cases h
def Toks (l:List S42):Prop:=l.length<1000000000∧∀t∈l,TokOk t
theorem Toks.small {l:List S42} (h:Toks l):Small l:=⟨h.1,fun t ht=>⟨(h.2 t ht).lo,(h.2 t ht).hi⟩⟩
theorem Toks.app {a b:List S42} (h:Toks (a++b)):Toks a∧Toks b:=
 ⟨⟨by have:=h.1;simp at this;omega,fun t ht=>h.2 t (List.mem_append_left _ ht)⟩,⟨by have:=h.1;simp at this;omega,fun t ht=>h.2 t (List.mem_append_right _ ht)⟩⟩
theorem Toks.cons {t:S42} {b:List S42} (h:Toks (t::b)):TokOk t∧Toks b:=⟨h.2 t List.mem_cons_self,(Toks.app (a:=[t]) h).2⟩
def stops:List (List UInt8):=[[59],[44],[123],[125],[61]]
structure Cut (low:Int) (c:List S42) (x:S80):Prop where
 ne:c≠[]
 sp:SP low c
 se:SE c
 ps:∀ms,(∀m∈ms,m∈stops)→Pass ms c
 tr:Ev (fun k=>larderref23_tree.f k c) (flds x)
theorem mark_of {t:S42} (h:TokOk t) {m:List UInt8} (hm:isM t m):t.f3=rank0 m+1∧t.f4=sideOf m:=by
 have k:=h.mark hm.1;rw[hm.2]at k;exact k
theorem stop_mark {t:S42} {m:List UInt8} (hm:isM t m) (hs:m ∉ stops) {ms:List (List UInt8)} (h:∀m∈ms,m∈stops):∀m∈ms,¬isM t m:=fun n hn q=>hs (by
 have:m=n:=hm.2.symm.trans q.2;rw[this];exact h n hn)
theorem stop_name {t:S42} (hm:t.f2≠109) {ms:List (List UInt8)}:∀m∈ms,¬isM t m:=fun _ _ q=>hm q.1
theorem stop_op {t:S42} {low:Nat} (hr:rank0 t.f0.toList=(low:Int)) {ms:List (List UInt8)} (h:∀m∈ms,m∈stops):∀m∈ms,¬isM t m:=fun n hn q=>by
 have hn:=h n hn;rw[q.2]at hr;simp only[stops,List.mem_cons,List.not_mem_nil,or_false]at hn;rcases hn with rfl|rfl|rfl|rfl|rfl<;>exact absurd hr (by simp[rank0])
theorem side_op {m:List UInt8} {low:Nat} (hr:rank0 m=(low:Int)):sideOf m=0:=by
 unfold sideOf;split
 · rename_i q;rcases q with rfl|rfl|rfl<;>exact absurd hr (by simp[rank0])
 split
 · rename_i q;rcases q with rfl|rfl|rfl<;>exact absurd hr (by simp[rank0])
 · rfl
theorem cut_expr:∀(k:Nat),
 (∀(low:Nat) l x l',low≤5→pExpr k low l=some (.ok (x,l'))→Toks l→∃c,l=c++l'∧Cut low c x)∧
 (∀(low:Nat) x0 l x l',low<5→pLoop k low x0 l=some (.ok (x,l'))→∀c0,Toks (c0++l)→Cut low c0 x0→∃c,l=c++l'∧Cut low (c0++c) x)∧
 (∀l x l',pUn k l=some (.ok (x,l'))→Toks l→∃c,l=c++l'∧Cut 5 c x)∧
 (∀l x l',pKey k l=some (.ok (x,l'))→Toks l→∃a c b,l=a::(c++b::l')∧isM a [91]∧isM b [93]∧Cut 0 c x)
 |0=>⟨fun low l x l' _ h=>(by rw[pExpr]at h;cases h),fun low x0 l x l' _ h=>(by rw[pLoop]at h;cases h),fun l x l' h=>(by rw[pUn]at h;cases h),fun l x l' h=>(by rw[pKey]at h;cases h)⟩
 |k+1=>by
  obtain⟨ih1,ih2,ih3,ih4⟩:=cut_expr k;refine⟨?_,?_,?_,?_⟩
  · intro low l x l' hl h ht
    rw[pExpr]at h;by_cases h5:low=5
    · subst h5
      rw[if_pos rfl]at h;exact ih3 l x l' h ht
    · rw[if_neg h5]at h
      obtain⟨x0,l1,e1,e2⟩:=pbind_ok h;obtain⟨c0,rfl,hc0⟩:=ih1 (low+1) l x0 l1 (by omega) e1 ht;have hc1:Cut low c0 x0:=⟨hc0.ne,hc0.sp.mono (by omega),hc0.se,hc0.ps,hc0.tr⟩;obtain⟨c,rfl,hc⟩:=ih2 low x0 l1 x l' (by omega) e2 c0 ht hc1;exact⟨c0++c,by rw[List.append_assoc],hc⟩
  · intro low x0 l x l' hl h c0 ht hc0
    rw[pLoop]at h;dsimp only at h;by_cases hc:(hd l).f2=109∧rank0 (hd l).f0.toList=(low:Int)
    · rw[if_pos hc]at h
      have el:l=hd l::l.tail:=hd_cons (by rw[hc.1];decide);obtain⟨y,l1,e1,e2⟩:=pbind_ok h;have ht2:Toks (hd l::l.tail):=by rw[← el];exact ht.app.2
      obtain⟨c,e3,hcy⟩:=ih1 (low+1) l.tail y l1 (by omega) e1 ht2.cons.2;generalize hd l=t at hc h e1 e2 el ht2⊢;rw[e3]at el ht2;have htok:=ht2.cons.1;have hm:=htok.mark hc.1;have h4:t.f4=0:=by rw[hm.2];exact side_op hc.2
      have h3:t.f3=(low:Int)+1:=by rw[hm.1,hc.2]
      rw[el]at ht;have ht3:Toks ((c0++t::c)++l1):=by simpa using ht
      have sp2:SP ((low:Int)+1) c:=hcy.sp
      have hnew:Cut low (c0++t::c) (xBin t.f0 x0 y):=
       ⟨by simp,SP.bin hc.1 h4 h3 hc0.sp sp2,SE.bin hc.1 h4 hc0.se hcy.se,
         fun ms hms=>Pass.app (hc0.ps ms hms) (Pass.cons h4 (stop_op hc.2 hms) (hcy.ps ms hms)),
         tree_bin ht3.app.1.small (by omega) (by omega) hc.1 h4 h3 hc0.sp hc0.se sp2 hc0.tr hcy.tr⟩
      by_cases h2:low=2
      · simp only[if_pos h2]at e2
        obtain⟨rfl,rfl⟩:=pok_ok e2;exact⟨t::c,el,hnew⟩
      · simp only[if_neg h2]at e2
        obtain⟨c2,rfl,hc2⟩:=ih2 low _ l1 x l' hl e2 _ ht3 hnew;exact⟨t::c++c2,by rw[el];simp,by simpa using hc2⟩
    · rw[if_neg hc]at h
      injection h with h;injection h with h;injection h with h1 h2
      subst h1;subst h2;exact⟨[],rfl,by rwa [List.append_nil]⟩
  · intro l x l' h ht
    rw[pUn]at h;dsimp only at h;by_cases c1:isM (hd l) [45]∨isM (hd l) [33]
    · have hx:∃x0,pUn k l.tail=some (.ok (x0,l'))∧x=xUn (hd l).f0 x0:=by
       by_cases c2:isM (hd l) [45]
       · rw[if_pos c2]at h
         obtain⟨x0,l1,e1,e2⟩:=pbind_ok h;obtain⟨rfl,rfl⟩:=pok_ok e2;refine⟨x0,e1,?_⟩;rw[bt_lit.mp c2.2]
       · have c3:=c1.resolve_left c2
         rw[if_neg c2,if_pos c3]at h;obtain⟨x0,l1,e1,e2⟩:=pbind_ok h;obtain⟨rfl,rfl⟩:=pok_ok e2;refine⟨x0,e1,?_⟩;rw[bt_lit.mp c3.2]
      obtain⟨x0,e1,rfl⟩:=hx;have h109:(hd l).f2=109:=c1.elim (·.1) (·.1);have el:l=hd l::l.tail:=hd_cons (by rw[h109];decide);have ho:(hd l).f0.toList=[45]∨(hd l).f0.toList=[33]:=c1.elim (fun q=>Or.inl q.2) (fun q=>Or.inr q.2);have ht2:Toks (hd l::l.tail):=by rw[← el];exact ht
      obtain⟨c,e3,hcx⟩:=ih3 l.tail x0 l' e1 ht2.cons.2;generalize hd l=t at c1 h109 ho el ht2⊢;rw[e3]at el ht2;have hm:=ht2.cons.1.mark h109;have h4:t.f4=0:=by rw[hm.2];rcases ho with q|q<;>rw[q]<;>decide
      have ht3:Toks ((t::c)++l'):=ht2;have hsp:SP 5 (t::c):=SP.un h109 h4 hcx.sp;refine⟨t::c,el,⟨by simp,hsp,hsp.se,fun ms hms=>Pass.cons h4 ?_ (hcx.ps ms hms),tree_un ht3.app.1.small hsp h109 ho hcx.tr⟩⟩;rcases ho with q|q
      · exact stop_mark ⟨h109,q⟩ (by decide) hms
      · exact stop_mark ⟨h109,q⟩ (by decide) hms
    rw[if_neg (fun q=>c1 (Or.inl q)),if_neg (fun q=>c1 (Or.inr q))]at h;by_cases c3:(hd l).f2=57
    · rw[if_pos c3]at h
      have el:l=hd l::l.tail:=hd_cons (by rw[c3];decide);unfold pnum at h;generalize hd l=t at*;have ht2:Toks (t::l.tail):=by rw[← el];exact ht
      have hk:=ht2.cons.1;cases hv:numOf t.f0.toList with
      |none=>rw[hv]at h;unfold pfail at h;injection h with h;cases h
      |some v=>
       rw[hv]at h;injection h with h;injection h with h;injection h with h1 h2
       subst h1;subst h2;have ho:=hk.other (Or.inr (Or.inl c3));have h109:t.f2≠109:=by rw[c3];decide
       have hsp:SP 5 [t]:=SP.one ho.1 ho.2 h109;have ht3:Toks ([t]++l.tail):=ht2;obtain⟨_,q2,q3⟩:=hk.num c3;exact⟨[t],el,⟨by simp,hsp,hsp.se,fun ms hms=>Pass.one ho.2 (stop_name h109),tree_num ht3.app.1.small hsp c3 q2 q3 hv⟩⟩
    rw[if_neg c3]at h;by_cases c4:isM (hd l) [40]
    · rw[if_pos c4]at h
      have el:=isM_cons c4;obtain⟨x0,l1,e1,e2⟩:=pbind_ok h;obtain⟨_,l2,e3,e4⟩:=pbind_ok e2;obtain⟨rfl,rfl⟩:=pok_ok e4;obtain⟨b,rfl,hb⟩:=ptok_ok e3;generalize hd l=t at*;have ht2:Toks (t::l.tail):=by rw[← el];exact ht
      obtain⟨c,e5,hcx⟩:=ih1 0 l.tail x0 _ (by omega) e1 ht2.cons.2;rw[e5]at el ht2;have hm:=mark_of ht2.cons.1 c4;have hmb:=mark_of (ht2.2 b (by simp)) hb;have ht3:Toks ((t::(c++[b]))++l2):=by simpa using ht2
      have hsp:SP 5 (t::(c++[b])):=SP.br hm.1 hm.2 hmb.2 hcx.sp;exact⟨t::(c++[b]),by rw[el];simp,⟨by simp,hsp,hsp.se,fun ms hms=>Pass.br hm.2 hmb.2 (stop_mark c4 (by decide) hms) (hcx.ps ms hms),tree_par ht3.app.1.small hsp c4 hcx.tr⟩⟩
    rw[if_neg c4]at h;by_cases c5:isM (hd l) [104,97,115]
    · rw[if_pos c5]at h
      have el:=isM_cons c5;obtain⟨s,l1,e1,e2⟩:=pbind_ok h;obtain⟨x0,l2,e3,e4⟩:=pbind_ok e2;obtain⟨rfl,rfl⟩:=pok_ok e4;obtain⟨n,e5,hn,rfl⟩:=pname_ok e1;generalize hd l=t at*;rw[e5]at el;have ht2:Toks (t::n::l1):=by rw[← el];exact ht
      obtain⟨o,c,b,rfl,ho,hb,hcx⟩:=ih4 l1 x0 _ e3 ht2.cons.2.cons.2;have hm:=mark_of ht2.cons.1 c5;have hmn:=(ht2.cons.2.cons.1).other (Or.inl hn);have hmo:=mark_of ht2.cons.2.cons.2.cons.1 ho;have hmb:=mark_of (ht2.2 b (by simp)) hb;have h109:n.f2≠109:=by rw[hn];decide
      have ht3:Toks ((t::n::o::(c++[b]))++l2):=by simpa using ht2
      have hsp:SP 5 (t::n::o::(c++[b])):=SP.un c5.1 hm.2 (SP.key hmn.1 hmn.2 hmo.1 hmo.2 hmb.2 hcx.sp);exact⟨t::n::o::(c++[b]),by rw[el];simp,⟨by simp,hsp,hsp.se,fun ms hms=>Pass.cons hm.2 (stop_mark c5 (by decide) hms) (Pass.cons hmn.2 (stop_name h109) (Pass.br hmo.2 hmb.2 (stop_mark ho (by decide) hms) (hcx.ps ms hms))),tree_has ht3.app.1.small hsp c5 hcx.tr⟩⟩
    rw[if_neg c5]at h;by_cases c6:isM (hd l) [108,101,110]
    · rw[if_pos c6]at h
      have el:=isM_cons c6;obtain⟨s,l1,e1,e2⟩:=pbind_ok h;obtain⟨rfl,rfl⟩:=pok_ok e2;obtain⟨n,e5,hn,rfl⟩:=pname_ok e1;generalize hd l=t at*;rw[e5]at el;have ht2:Toks (t::n::l1):=by rw[← el];exact ht
      have hm:=mark_of ht2.cons.1 c6;have hmn:=(ht2.cons.2.cons.1).other (Or.inl hn);have h109:n.f2≠109:=by rw[hn];decide
      have ht3:Toks ([t,n]++l1):=ht2;have hsp:SP 5 [t,n]:=SP.un c6.1 hm.2 (SP.one hmn.1 hmn.2 h109);exact⟨[t,n],el,⟨by simp,hsp,hsp.se,fun ms hms=>Pass.cons hm.2 (stop_mark c6 (by decide) hms) (Pass.one hmn.2 (stop_name h109)),tree_len ht3.app.1.small hsp c6⟩⟩
    rw[if_neg c6]at h;obtain⟨s,l1,e1,e2⟩:=pbind_ok h;obtain⟨n,el,hn,rfl⟩:=pname_ok e1;rw[el]at ht;have hmn:=(ht.cons.1).other (Or.inl hn);have hnn:=(ht.cons.1).name hn;have h109:n.f2≠109:=by rw[hn];decide
    by_cases c8:isM (hd l1) [91]
    · rw[if_pos c8]at e2
      obtain⟨x0,l2,e3,e4⟩:=pbind_ok e2;obtain⟨rfl,rfl⟩:=pok_ok e4;obtain⟨o,c,b,rfl,ho,hb,hcx⟩:=ih4 l1 x0 _ e3 ht.cons.2;have hmo:=mark_of ht.cons.2.cons.1 ho;have hmb:=mark_of (ht.2 b (by simp)) hb;have ht3:Toks ((n::o::(c++[b]))++l2):=by simpa using ht
      have hsp:SP 5 (n::o::(c++[b])):=SP.key hmn.1 hmn.2 hmo.1 hmo.2 hmb.2 hcx.sp;exact⟨n::o::(c++[b]),by rw[el];simp,⟨by simp,hsp,hsp.se,fun ms hms=>(Pass.cons hmn.2 (stop_name h109) (Pass.br hmo.2 hmb.2 (stop_mark ho (by decide) hms) (hcx.ps ms hms))),tree_index ht3.app.1.small hsp hn hnn hcx.tr⟩⟩
    · rw[if_neg c8]at e2
      injection e2 with e2;injection e2 with e2;injection e2 with q1 q2
      subst q1;subst q2;have ht3:Toks ([n]++l1):=ht;have hsp:SP 5 [n]:=SP.one hmn.1 hmn.2 h109;exact⟨[n],el,⟨by simp,hsp,hsp.se,fun ms hms=>Pass.one hmn.2 (stop_name h109),tree_name ht3.app.1.small hsp hn hnn⟩⟩
  · intro l x l' h ht
    rw[pKey]at h;obtain⟨_,l1,e1,e2⟩:=pbind_ok h;obtain⟨x0,l2,e3,e4⟩:=pbind_ok e2;obtain⟨_,l3,e5,e6⟩:=pbind_ok e4;obtain⟨rfl,rfl⟩:=pok_ok e6;obtain⟨a,rfl,ha⟩:=ptok_ok e1;obtain⟨b,rfl,hb⟩:=ptok_ok e5;obtain⟨c,rfl,hc⟩:=ih1 0 l1 x0 _ (by omega) e3 ht.cons.2;exact⟨a,c,b,rfl,ha,hb,hc⟩
def wDelete:List UInt8:=[100,101,108,101,116,101]
def wClear:List UInt8:=[99,108,101,97,114]
def wPrint:List UInt8:=[112,114,105,110,116]
def wIf:List UInt8:=[105,102]
def wElse:List UInt8:=[101,108,115,101]
def wWhile:List UInt8:=[119,104,105,108,101]
def wFor:List UInt8:=[102,111,114]
def wIn:List UInt8:=[105,110]
def wBreak:List UInt8:=[98,114,101,97,107]
def wContinue:List UInt8:=[99,111,110,116,105,110,117,101]
inductive More:List S42→List S80→Prop
 |fin (b:S42):isM b [59]→More [b] []
 |more (a:S42) (c:List S42) (x:S80) (r:List S42) (xs:List S80):isM a [44]→Cut 0 c x→More r xs→More (a::(c++r)) (x::xs)
mutual
inductive Stm:List S42→S62→Prop
 |set (n q:S42) (c:List S42) (b:S42) (x:S80):n.f2=110→isM q [61]→Cut 0 c x→isM b [59]→Stm (n::q::(c++[b])) {st 1 with f1:=n.f0,f4:=[x]}
 |put (n o:S42) (c:List S42) (s q:S42) (c2:List S42) (b:S42) (x y:S80):n.f2=110→isM o [91]→Cut 0 c x→isM s [93]→isM q [61]→Cut 0 c2 y→isM b [59]→Stm (n::o::(c++s::q::(c2++[b]))) {st 2 with f1:=n.f0,f4:=[x,y]}
 |del (d n o:S42) (c:List S42) (s b:S42) (x:S80):isM d wDelete→n.f2=110→isM o [91]→Cut 0 c x→isM s [93]→isM b [59]→Stm (d::n::o::(c++[s,b])) {st 3 with f1:=n.f0,f4:=[x]}
 |clr (d n b:S42):isM d wClear→n.f2=110→isM b [59]→Stm [d,n,b] {st 4 with f1:=n.f0}
 |prt0 (p b:S42):isM p wPrint→isM b [59]→Stm [p,b] (st 5)
 |prt (p:S42) (c:List S42) (x:S80) (r:List S42) (xs:List S80):isM p wPrint→Cut 0 c x→More r xs→Stm (p::(c++r)) {st 5 with f4:=x::xs}
 |ifs (c:List S42) (s:S62):Cond c s→Stm c s
 |whl (w:S42) (c:List S42) (x:S80) (b:List S42) (l:List S62):isM w wWhile→Cut 0 c x→Blk b l→Stm (w::(c++b)) {st 7 with f4:=[x],f5:=l}
 |rng (f a m b i n:S42) (k:List S42) (l:List S62):isM f wFor→a.f2=110→isM m [44]→b.f2=110→isM i wIn→n.f2=110→Blk k l→Stm (f::a::m::b::i::n::k) {st 8 with f1:=n.f0,f2:=a.f0,f3:=b.f0,f5:=l}
 |brk (w b:S42):isM w wBreak→isM b [59]→Stm [w,b] (st 9)
 |cnt (w b:S42):isM w wContinue→isM b [59]→Stm [w,b] (st 10)
inductive Cond:List S42→S62→Prop
 |one (i:S42) (c:List S42) (x:S80) (b:List S42) (l:List S62):isM i wIf→Cut 0 c x→Blk b l→Cond (i::(c++b)) {st 6 with f4:=[x],f5:=l}
 |els (i:S42) (c:List S42) (x:S80) (b:List S42) (l:List S62) (e:S42) (b2:List S42) (l2:List S62):isM i wIf→Cut 0 c x→Blk b l→isM e wElse→Blk b2 l2→Cond (i::(c++(b++e::b2))) {st 6 with f4:=[x],f5:=l,f6:=l2}
 |eif (i:S42) (c:List S42) (x:S80) (b:List S42) (l:List S62) (e:S42) (r:List S42) (s:S62):isM i wIf→Cut 0 c x→Blk b l→isM e wElse→Cond r s→Cond (i::(c++(b++e::r))) {st 6 with f4:=[x],f5:=l,f6:=[s]}
inductive Blk:List S42→List S62→Prop
 |mk (a:S42) (c:List S42) (b:S42) (l:List S62):isM a [123]→Stms c l→isM b [125]→Blk (a::(c++[b])) l
inductive Stms:List S42→List S62→Prop
 |nil:Stms [] []
 |cons (c:List S42) (s:S62) (r:List S42) (l:List S62):Stm c s→Stms r l→Stms (c++r) (s::l)
end
theorem Toks.tail {a b:List S42} (h:Toks (a++b)):Toks b:=h.app.2
theorem cut_e {k:Nat} {l l':List S42} {x:S80} (h:pExpr k 0 l=some (.ok (x,l'))) (ht:Toks l):∃c,l=c++l'∧Cut 0 c x:=(cut_expr k).1 0 l x l' (by omega) h ht
theorem cut_key {k:Nat} {l l':List S42} {x:S80} (h:pKey k l=some (.ok (x,l'))) (ht:Toks l):∃a c b,l=a::(c++b::l')∧isM a [91]∧isM b [93]∧Cut 0 c x:=(cut_expr k).2.2.2 l x l' h ht
theorem more_of:∀(k:Nat) (xs:List S80) (l:List S42) (s:S62) (l':List S42),pItems k xs l=some (.ok (s,l'))→Toks l→∃c zs,l=c++l'∧More c zs∧s={st 5 with f4:=xs++zs}
 |0,xs,l,s,l',h,_=>by rw[pItems]at h;cases h
 |k+1,xs,l,s,l',h,ht=>by
  rw[pItems]at h;dsimp only at h;by_cases c:isM (hd l) [59]
  · rw[if_pos c]at h
    injection h with h;injection h with h;injection h with h1 h2
    subst h1;subst h2;exact⟨[hd l],[],isM_cons c,More.fin _ c,by rw[List.append_nil]⟩
  · rw[if_neg c]at h
    obtain⟨_,l1,e1,e2⟩:=pbind_ok h;obtain⟨x,l2,e3,e4⟩:=pbind_ok e2;obtain⟨a,rfl,ha⟩:=ptok_ok e1;obtain⟨c1,rfl,hc⟩:=cut_e e3 ht.cons.2;obtain⟨c2,zs,rfl,hm,rfl⟩:=more_of k _ l2 s l' e4 ht.cons.2.tail;exact⟨a::(c1++c2),x::zs,by simp,More.more a c1 x c2 zs ha hc hm,by simp⟩
theorem stm_of:∀(k:Nat),
 (∀l s l',pStmt k l=some (.ok (s,l'))→Toks l→∃c,l=c++l'∧Stm c s)∧
 (∀i l s l',pCond k l=some (.ok (s,l'))→Toks l→isM i wIf→∃c,l=c++l'∧Cond (i::c) s)∧
 (∀l s l',pBlock k l=some (.ok (s,l'))→Toks l→∃c,l=c++l'∧Blk c s)∧
 (∀xs l s l',pBody k xs l=some (.ok (s,l'))→Toks l→∃c b zs,l=c++b::l'∧isM b [125]∧Stms c zs∧s=xs++zs)
 |0=>⟨fun l s l' h=>(by rw[pStmt]at h;cases h),fun i l s l' h=>(by rw[pCond]at h;cases h),fun l s l' h=>(by rw[pBlock]at h;cases h),fun xs l s l' h=>(by rw[pBody]at h;cases h)⟩
 |k+1=>by
  obtain⟨ih1,ih2,ih3,ih4⟩:=stm_of k;refine⟨?_,?_,?_,?_⟩
  · intro l s l' h ht
    rw[pStmt]at h;dsimp only at h;by_cases c0:(hd l).f2=110
    · rw[if_pos c0]at h
      unfold pSet at h;obtain⟨nm,l1,e1,e2⟩:=pbind_ok h;obtain⟨n,rfl,hn,rfl⟩:=pname_ok e1;by_cases c1:isM (hd l1) [91]
      · rw[if_pos c1]at e2
        obtain⟨x,l2,e3,e4⟩:=pbind_ok e2;obtain⟨o,c,b,rfl,ho,hb,hc⟩:=cut_key e3 ht.cons.2;obtain⟨_,l3,e5,e6⟩:=pbind_ok e4;obtain⟨q,rfl,hq⟩:=ptok_ok e5;obtain⟨y,l4,e7,e8⟩:=pbind_ok e6;have ht2:Toks ((n::o::(c++b::[q]))++l3):=by simpa using ht
        obtain⟨c2,rfl,hc2⟩:=cut_e e7 ht2.tail;obtain⟨_,l5,e9,e10⟩:=pbind_ok e8;obtain⟨z,rfl,hz⟩:=ptok_ok e9;obtain⟨rfl,rfl⟩:=pok_ok e10;exact⟨_,by simp,Stm.put n o c b q c2 z x y hn ho hc hb hq hc2 hz⟩
      · rw[if_neg c1]at e2
        obtain⟨_,l3,e5,e6⟩:=pbind_ok e2;obtain⟨q,rfl,hq⟩:=ptok_ok e5;obtain⟨y,l4,e7,e8⟩:=pbind_ok e6;obtain⟨c2,rfl,hc2⟩:=cut_e e7 ht.cons.2.cons.2;obtain⟨_,l5,e9,e10⟩:=pbind_ok e8;obtain⟨z,rfl,hz⟩:=ptok_ok e9;obtain⟨rfl,rfl⟩:=pok_ok e10;exact⟨_,by simp,Stm.set n q c2 z y hn hq hc2 hz⟩
    rw[if_neg c0]at h;by_cases c1:isM (hd l) [100,101,108,101,116,101]
    · have el:=isM_cons c1
      rw[if_pos c1]at h;obtain⟨nm,l1,e1,e2⟩:=pbind_ok h;obtain⟨n,e3,hn,rfl⟩:=pname_ok e1;generalize hd l=d at*;rw[e3]at el;subst el;obtain⟨x,l2,e4,e5⟩:=pbind_ok e2;obtain⟨o,c,b,rfl,ho,hb,hc⟩:=cut_key e4 ht.cons.2.cons.2;obtain⟨_,l5,e9,e10⟩:=pbind_ok e5;obtain⟨z,rfl,hz⟩:=ptok_ok e9;obtain⟨rfl,rfl⟩:=pok_ok e10;exact⟨_,by simp,Stm.del d n o c b z x c1 hn ho hc hb hz⟩
    rw[if_neg c1]at h;by_cases c2:isM (hd l) [99,108,101,97,114]
    · have el:=isM_cons c2
      rw[if_pos c2]at h;obtain⟨nm,l1,e1,e2⟩:=pbind_ok h;obtain⟨n,e3,hn,rfl⟩:=pname_ok e1;generalize hd l=d at*;rw[e3]at el;subst el;obtain⟨_,l5,e9,e10⟩:=pbind_ok e2;obtain⟨z,rfl,hz⟩:=ptok_ok e9;obtain⟨rfl,rfl⟩:=pok_ok e10;exact⟨[d,n,z],by simp,Stm.clr d n z c2 hn hz⟩
    rw[if_neg c2]at h;by_cases c3:isM (hd l) [112,114,105,110,116]
    · have el:=isM_cons c3
      rw[if_pos c3]at h;unfold pPrint at h;generalize hd l=p at*;by_cases c:isM (hd l.tail) [59]
      · rw[if_pos c]at h
        have el2:=isM_cons c;injection h with h;injection h with h;injection h with h1 h2
        subst h1;subst h2;refine⟨[p,hd l.tail],?_,Stm.prt0 p _ c3 c⟩;rw[el];show p::l.tail=p::hd l.tail::l.tail.tail;rw[← el2]
      · rw[if_neg c]at h
        obtain⟨x,l2,e3,e4⟩:=pbind_ok h;have ht2:Toks (p::l.tail):=by rw[← el];exact ht
        obtain⟨c1',e5,hc⟩:=cut_e e3 ht2.cons.2;rw[e5]at el ht2;obtain⟨c2',zs,rfl,hm,rfl⟩:=more_of k _ l2 s l' e4 ht2.cons.2.tail;exact⟨p::(c1'++c2'),by rw[el];simp,Stm.prt p c1' x c2' zs c3 hc hm⟩
    rw[if_neg c3]at h;by_cases c4:isM (hd l) [105,102]
    · have el:=isM_cons c4
      rw[if_pos c4]at h;generalize hd l=p at*;have ht2:Toks (p::l.tail):=by rw[← el];exact ht
      obtain⟨c,e5,hc⟩:=ih2 p l.tail s l' h ht2.cons.2 c4;exact⟨p::c,by rw[el,e5];simp,Stm.ifs _ _ hc⟩
    rw[if_neg c4]at h;by_cases c5:isM (hd l) [119,104,105,108,101]
    · have el:=isM_cons c5
      rw[if_pos c5]at h;generalize hd l=p at*;have ht2:Toks (p::l.tail):=by rw[← el];exact ht
      obtain⟨x,l2,e3,e4⟩:=pbind_ok h;obtain⟨c,e5,hc⟩:=cut_e e3 ht2.cons.2;rw[e5]at el ht2;obtain⟨b,l3,e6,e7⟩:=pbind_ok e4;obtain⟨c2,rfl,hb⟩:=ih3 l2 b l3 e6 ht2.cons.2.tail;obtain⟨rfl,rfl⟩:=pok_ok e7;exact⟨p::(c++c2),by rw[el];simp,Stm.whl p c x c2 b c5 hc hb⟩
    rw[if_neg c5]at h;by_cases c6:isM (hd l) [102,111,114]
    · have el:=isM_cons c6
      rw[if_pos c6]at h;generalize hd l=p at*;have ht2:Toks (p::l.tail):=by rw[← el];exact ht
      obtain⟨s1,l1,e1,e2⟩:=pbind_ok h;obtain⟨a,e3,ha,rfl⟩:=pname_ok e1;rw[e3]at el ht2;obtain⟨_,l2,e4,e5⟩:=pbind_ok e2;obtain⟨m,rfl,hm⟩:=ptok_ok e4;obtain⟨s2,l3,e6,e7⟩:=pbind_ok e5;obtain⟨b,rfl,hb,rfl⟩:=pname_ok e6;obtain⟨_,l4,e8,e9⟩:=pbind_ok e7;obtain⟨i,rfl,hi⟩:=ptok_ok e8;obtain⟨s3,l5,e10,e11⟩:=pbind_ok e9;obtain⟨n,rfl,hn,rfl⟩:=pname_ok e10;obtain⟨bl,l6,e12,e13⟩:=pbind_ok e11;obtain⟨c2,rfl,hbl⟩:=ih3 l5 bl l6 e12 ht2.cons.2.cons.2.cons.2.cons.2.cons.2.cons.2;obtain⟨rfl,rfl⟩:=pok_ok e13;exact⟨p::a::m::b::i::n::c2,by rw[el];simp,Stm.rng p a m b i n c2 bl c6 ha hm hb hi hn hbl⟩
    rw[if_neg c6]at h;by_cases c7:isM (hd l) [98,114,101,97,107]
    · have el:=isM_cons c7
      rw[if_pos c7]at h;generalize hd l=p at*;obtain⟨_,l5,e9,e10⟩:=pbind_ok h;obtain⟨z,e3,hz⟩:=ptok_ok e9;obtain⟨rfl,rfl⟩:=pok_ok e10;exact⟨[p,z],by rw[el,e3];simp,Stm.brk p z c7 hz⟩
    rw[if_neg c7]at h;obtain⟨_,l1,e1,e2⟩:=pbind_ok h;obtain⟨p,rfl,hp⟩:=ptok_ok e1;obtain⟨_,l5,e9,e10⟩:=pbind_ok e2;obtain⟨z,rfl,hz⟩:=ptok_ok e9;obtain⟨rfl,rfl⟩:=pok_ok e10;exact⟨[p,z],by simp,Stm.cnt p z hp hz⟩
  · intro i l s l' h ht hi
    rw[pCond]at h;obtain⟨x,l1,e1,e2⟩:=pbind_ok h;obtain⟨c,rfl,hc⟩:=cut_e e1 ht;obtain⟨b,l2,e3,e4⟩:=pbind_ok e2;obtain⟨cb,rfl,hb⟩:=ih3 l1 b l2 e3 ht.tail;have ht2:=ht.tail.tail;by_cases q1:isM (hd l2) [101,108,115,101]
    · rw[if_pos q1]at e4
      have el:=isM_cons q1;generalize hd l2=e at*;have ht3:Toks (e::l2.tail):=by rw[← el];exact ht2
      by_cases q2:isM (hd l2.tail) [105,102]
      · rw[if_pos q2]at e4
        have el2:=isM_cons q2;generalize hd l2.tail=i2 at*;rw[el2]at ht3 el;obtain⟨s2,l3,e5,e6⟩:=pbind_ok e4;obtain⟨c3,e7,hc3⟩:=ih2 i2 _ s2 l3 e5 ht3.cons.2.cons.2 q2;obtain⟨rfl,rfl⟩:=pok_ok e6;exact⟨c++(cb++e::(i2::c3)),by rw[el,e7];simp,Cond.eif i c x cb b e _ s2 hi hc hb q1 hc3⟩
      · rw[if_neg q2]at e4
        obtain⟨b2,l3,e5,e6⟩:=pbind_ok e4;obtain⟨c3,e7,hc3⟩:=ih3 _ b2 l3 e5 ht3.cons.2;obtain⟨rfl,rfl⟩:=pok_ok e6;exact⟨c++(cb++e::c3),by rw[el,e7];simp,Cond.els i c x cb b e c3 b2 hi hc hb q1 hc3⟩
    · rw[if_neg q1]at e4
      injection e4 with e4;injection e4 with e4;injection e4 with z1 z2
      subst z1;subst z2;exact⟨c++cb,by simp,Cond.one i c x cb b hi hc hb⟩
  · intro l s l' h ht
    rw[pBlock]at h;obtain⟨_,l1,e1,e2⟩:=pbind_ok h;obtain⟨a,rfl,ha⟩:=ptok_ok e1;obtain⟨c,b,zs,rfl,hb,hc,rfl⟩:=ih4 [] l1 s l' e2 ht.cons.2;exact⟨a::(c++[b]),by simp,Blk.mk a c b _ ha (by simpa using hc) hb⟩
  · intro xs l s l' h ht
    rw[pBody]at h;dsimp only at h;by_cases q1:isM (hd l) [125]
    · rw[if_pos q1]at h
      have el:=isM_cons q1;injection h with h;injection h with h;injection h with z1 z2
      subst z1;subst z2;exact⟨[],hd l,[],el,q1,Stms.nil,by simp⟩
    · rw[if_neg q1]at h
      obtain⟨s1,l1,e1,e2⟩:=pbind_ok h;obtain⟨c,rfl,hc⟩:=ih1 l s1 l1 e1 ht;obtain⟨c2,b,zs,rfl,hb,hc2,rfl⟩:=ih4 _ l1 s l' e2 ht.tail;exact⟨c++c2,b,s1::zs,by simp,hb,Stms.cons c s1 c2 zs hc hc2,by simp⟩
theorem top_of:∀(k:Nat) (xs:List S62) (l:List S42) (s:List S62) (l':List S42),pTop k xs l=some (.ok (s,l'))→Toks l→∃c zs,l=c++l'∧(hd l').f2=36∧Stms c zs∧s=xs++zs
 |0,xs,l,s,l',h,_=>by rw[pTop]at h;cases h
 |k+1,xs,l,s,l',h,ht=>by
  rw[pTop]at h;dsimp only at h;by_cases c:(hd l).f2=36
  · rw[if_pos c]at h
    injection h with h;injection h with h;injection h with z1 z2
    subst z1;subst z2;exact⟨[],[],rfl,c,Stms.nil,by simp⟩
  · rw[if_neg c]at h
    obtain⟨s1,l1,e1,e2⟩:=pbind_ok h;obtain⟨c1,rfl,hc⟩:=(stm_of k).1 l s1 l1 e1 ht;obtain⟨c2,zs,rfl,hb,hc2,rfl⟩:=top_of k _ l1 s l' e2 ht.tail;exact⟨c1++c2,s1::zs,by simp,hb,Stms.cons c1 s1 c2 zs hc hc2,by simp⟩
theorem Cut.pass {c:List S42} {x:S80} {low:Int} (h:Cut low c x) {ms:List (List UInt8)} (hm:∀m∈ms,m∈stops):Pass ms c:=h.ps ms hm
theorem Pass.tok {t:S42} {m:List UInt8} (ht:TokOk t) (hm:isM t m) (hs:sideOf m=0) {ms:List (List UInt8)} (hn:m ∉ ms):Pass ms [t]:=
 Pass.one ((mark_of ht hm).2.trans hs) (fun n hn' q=>hn (by rw[← q.2.symm.trans hm.2]at hn;exact absurd hn' hn))
theorem Pass.nam {t:S42} (ht:TokOk t) (hm:t.f2=110) {ms:List (List UInt8)}:Pass ms [t]:=Pass.one (ht.other (.inl hm)).2 (stop_name (by rw[hm];decide))
theorem Pass.brk {a b:S42} {c:List S42} {m n:List UInt8} (ha:TokOk a) (hb:TokOk b) (hma:isM a m) (hmb:isM b n) (h1:sideOf m=1) (h2:sideOf n= -1) {ms:List (List UInt8)} (hn:m ∉ ms) (hc:Pass ms c):Pass ms (a::(c++[b])):=
 Pass.br ((mark_of ha hma).2.trans h1) ((mark_of hb hmb).2.trans h2) (fun k hk q=>hn (by rw[← q.2.symm.trans hma.2]at hn;exact absurd hk hn)) hc
theorem unt_at {ms:List (List UInt8)} {c rest:List S42} {t:S42} {m:List UInt8} (hp:Pass ms c) (hm:isM t m) (hmem:m∈ms) (i:Nat):unt ms 0 i (c++t::rest)=some (i+c.length):=by
 rw[hp 0 i _ (by omega),unt,if_pos];exact⟨by omega,List.any_eq_true.mpr ⟨m,hmem,decide_eq_true hm⟩⟩
def ms125:List (List UInt8):=[[125]]
theorem stm_pass:∀(n:Nat),
 (∀c s,c.length≤n→Cond c s→Toks c→Pass ms125 c)∧(∀c s,c.length≤n→Stm c s→Toks c→Pass ms125 c)∧(∀c l,c.length≤n→Blk c l→Toks c→Pass ms125 c)∧(∀c l,c.length≤n→Stms c l→Toks c→Pass ms125 c)
 |0=>by
  refine⟨?_,?_,?_,?_⟩
  · intro c s hn h ht;cases h<;>simp at hn
  · intro c s hn h ht
    cases h with
    |ifs c s h=>cases h<;>simp at hn
    |_=>simp at hn
  · intro c l hn h ht;cases h;simp at hn
  · intro c l hn h ht
    have:c=[]:=List.length_eq_zero_iff.mp (by omega);subst this;exact Pass.nil _
 |n+1=>by
  obtain⟨iC,iS,iB,iT⟩:=stm_pass n;have hst:∀m∈ms125,m∈stops:=by decide
  have pC:∀{c x},Cut 0 c x→Pass ms125 c:=fun h=>h.pass hst
  have sC:∀c s,c.length≤n+1→Cond c s→Toks c→Pass ms125 c:=by
   intro c s hn h ht;cases h with
   |one i c x b l hi hc hb=>
    simp only[List.length_cons,List.length_append]at hn;exact Pass.app (c1:=[i]) (Pass.tok ht.cons.1 hi (by decide) (by decide)) (Pass.app (pC hc) (iB b l (by omega) hb ht.cons.2.tail))
   |els i c x b l e b2 l2 hi hc hb he hb2=>
    simp only[List.length_cons,List.length_append]at hn;have h2:=ht.cons.2.tail.tail;exact Pass.app (c1:=[i]) (Pass.tok ht.cons.1 hi (by decide) (by decide)) (Pass.app (pC hc) (Pass.app (iB b l (by omega) hb ht.cons.2.tail.app.1) (Pass.app (c1:=[e]) (Pass.tok h2.cons.1 he (by decide) (by decide)) (iB b2 l2 (by omega) hb2 h2.cons.2))))
   |eif i c x b l e r s hi hc hb he hr=>
    simp only[List.length_cons,List.length_append]at hn;have h2:=ht.cons.2.tail.tail;exact Pass.app (c1:=[i]) (Pass.tok ht.cons.1 hi (by decide) (by decide)) (Pass.app (pC hc) (Pass.app (iB b l (by omega) hb ht.cons.2.tail.app.1) (Pass.app (c1:=[e]) (Pass.tok h2.cons.1 he (by decide) (by decide)) (iC r s (by omega) hr h2.cons.2))))
  have sB:∀c l,c.length≤n+1→Blk c l→Toks c→Pass ms125 c:=by
   intro c l hn h ht;cases h with
   |mk a c b l ha hc hb=>
    simp only[List.length_cons,List.length_append]at hn;exact Pass.brk ht.cons.1 ht.cons.2.tail.cons.1 ha hb (by decide) (by decide) (by decide) (iT c l (by omega) hc ht.cons.2.app.1)
  have sS:∀c s,c.length≤n+1→Stm c s→Toks c→Pass ms125 c:=by
   intro c s hn h ht;cases h with
   |set k q c b x h1 h2 h3 h4=>
    have hb:=ht.cons.2.cons.2.tail.cons.1;exact Pass.app (c1:=[k]) (Pass.nam ht.cons.1 h1) (Pass.app (c1:=[q]) (Pass.tok ht.cons.2.cons.1 h2 (by decide) (by decide)) (Pass.app (pC h3) (Pass.tok hb h4 (by decide) (by decide))))
   |put k o c s q c2 b x y h1 h2 h3 h4 h5 h6 h7=>
    have hs:=ht.cons.2.cons.2.tail;have e:k::o::(c++s::q::(c2++[b]))=[k]++((o::(c++[s]))++([q]++(c2++[b]))):=by simp
    rw[e];exact Pass.app (Pass.nam ht.cons.1 h1) (Pass.app (Pass.brk ht.cons.2.cons.1 hs.cons.1 h2 h4 (by decide) (by decide) (by decide) (pC h3)) (Pass.app (Pass.tok hs.cons.2.cons.1 h5 (by decide) (by decide)) (Pass.app (pC h6) (Pass.tok hs.cons.2.cons.2.tail.cons.1 h7 (by decide) (by decide)))))
   |del d k o c s b x h1 h2 h3 h4 h5 h6=>
    have hs:=ht.cons.2.cons.2.cons.2.tail;have e:d::k::o::(c++[s,b])=[d]++([k]++((o::(c++[s]))++[b])):=by simp
    rw[e];exact Pass.app (Pass.tok ht.cons.1 h1 (by decide) (by decide)) (Pass.app (Pass.nam ht.cons.2.cons.1 h2) (Pass.app (Pass.brk ht.cons.2.cons.2.cons.1 hs.cons.1 h3 h5 (by decide) (by decide) (by decide) (pC h4)) (Pass.tok hs.cons.2.cons.1 h6 (by decide) (by decide))))
   |clr d k b h1 h2 h3=>
    exact Pass.app (c1:=[d]) (Pass.tok ht.cons.1 h1 (by decide) (by decide)) (Pass.app (c1:=[k]) (Pass.nam ht.cons.2.cons.1 h2) (Pass.tok ht.cons.2.cons.2.cons.1 h3 (by decide) (by decide)))
   |prt0 p b h1 h2=>
    exact Pass.app (c1:=[p]) (Pass.tok ht.cons.1 h1 (by decide) (by decide)) (Pass.tok ht.cons.2.cons.1 h2 (by decide) (by decide))
   |prt p c x r xs h1 h2 h3=>
    have M:∀(r:List S42) (xs:List S80),More r xs→Toks r→Pass ms125 r:=by
     intro r xs h;induction h with
     |fin b hb=>intro ht;exact Pass.tok ht.cons.1 hb (by decide) (by decide)
     |more a c x r xs ha hc hr ih=>intro ht;exact Pass.app (c1:=[a]) (Pass.tok ht.cons.1 ha (by decide) (by decide)) (Pass.app (pC hc) (ih ht.cons.2.tail))
    exact Pass.app (c1:=[p]) (Pass.tok ht.cons.1 h1 (by decide) (by decide)) (Pass.app (pC h2) (M r xs h3 ht.cons.2.tail))
   |ifs c s h=>exact sC c s hn h ht
   |whl w c x b l h1 h2 h3=>
    simp only[List.length_cons,List.length_append]at hn;exact Pass.app (c1:=[w]) (Pass.tok ht.cons.1 h1 (by decide) (by decide)) (Pass.app (pC h2) (iB b l (by omega) h3 ht.cons.2.tail))
   |rng f a m b i k c l h1 h2 h3 h4 h5 h6 h7=>
    simp only[List.length_cons]at hn;have t1:=ht.cons.2;have t2:=t1.cons.2;have t3:=t2.cons.2;have t4:=t3.cons.2;have t5:=t4.cons.2;exact Pass.app (c1:=[f]) (Pass.tok ht.cons.1 h1 (by decide) (by decide)) (Pass.app (c1:=[a]) (Pass.nam t1.cons.1 h2) (Pass.app (c1:=[m]) (Pass.tok t2.cons.1 h3 (by decide) (by decide)) (Pass.app (c1:=[b]) (Pass.nam t3.cons.1 h4) (Pass.app (c1:=[i]) (Pass.tok t4.cons.1 h5 (by decide) (by decide)) (Pass.app (c1:=[k]) (Pass.nam t5.cons.1 h6) (iB c l (by omega) h7 t5.cons.2))))))
   |brk w b h1 h2=>exact Pass.app (c1:=[w]) (Pass.tok ht.cons.1 h1 (by decide) (by decide)) (Pass.tok ht.cons.2.cons.1 h2 (by decide) (by decide))
   |cnt w b h1 h2=>exact Pass.app (c1:=[w]) (Pass.tok ht.cons.1 h1 (by decide) (by decide)) (Pass.tok ht.cons.2.cons.1 h2 (by decide) (by decide))
  refine⟨sC,sS,sB,?_⟩;intro c l hn h ht;cases h with
  |nil=>exact Pass.nil _
  |cons c s r l h1 h2=>
   have hc:1≤c.length:=by
    cases h1 with
    |ifs c s h=>cases h<;>simp
    |_=>simp
   simp only[List.length_append]at hn;exact Pass.app (sS c s (by omega) h1 ht.app.1) (iT r l (by omega) h2 ht.tail)
def Heads:List (List UInt8):=[wDelete,wClear,wPrint,wIf,wWhile,wFor,wBreak,wContinue]
theorem stm_head {c:List S42} {s:S62} (h:Stm c s):∃t r,c=t::r∧(t.f2=110∨∃m∈Heads,isM t m):=by
 cases h with
 |set k q c b x h1 h2 h3 h4=>exact⟨_,_,rfl,.inl h1⟩
 |put k o c s q c2 b x y h1 h2 h3 h4 h5 h6 h7=>exact⟨_,_,rfl,.inl h1⟩
 |del d k o c s b x h1 h2 h3 h4 h5 h6=>exact⟨_,_,rfl,.inr ⟨_,by decide,h1⟩⟩
 |clr d k b h1 h2 h3=>exact⟨_,_,rfl,.inr ⟨_,by decide,h1⟩⟩
 |prt0 p b h1 h2=>exact⟨_,_,rfl,.inr ⟨_,by decide,h1⟩⟩
 |prt p c x r xs h1 h2 h3=>exact⟨_,_,rfl,.inr ⟨_,by decide,h1⟩⟩
 |ifs c s h=>
  cases h with
  |one i c x b l hi hc hb=>exact⟨_,_,rfl,.inr ⟨_,by decide,hi⟩⟩
  |els i c x b l e b2 l2 hi hc hb he hb2=>exact⟨_,_,rfl,.inr ⟨_,by decide,hi⟩⟩
  |eif i c x b l e r s hi hc hb he hr=>exact⟨_,_,rfl,.inr ⟨_,by decide,hi⟩⟩
 |whl w c x b l h1 h2 h3=>exact⟨_,_,rfl,.inr ⟨_,by decide,h1⟩⟩
 |rng f a m b i k c l h1 h2 h3 h4 h5 h6 h7=>exact⟨_,_,rfl,.inr ⟨_,by decide,h1⟩⟩
 |brk w b h1 h2=>exact⟨_,_,rfl,.inr ⟨_,by decide,h1⟩⟩
 |cnt w b h1 h2=>exact⟨_,_,rfl,.inr ⟨_,by decide,h1⟩⟩
def NoElse (r:List S42):Prop:=r=[]∨¬isM (hd r) wElse
theorem stms_noelse {r:List S42} {l:List S62} (h:Stms r l):NoElse r:=by
 cases h with
 |nil=>exact .inl rfl
 |cons c s r l h1 h2=>
  obtain⟨t,q,rfl,ht⟩:=stm_head h1;refine .inr fun e=> ?_
  have e:isM t wElse:=e;rcases ht with ht|⟨m,hm,ht⟩
  · rw[e.1]at ht;exact absurd ht (by decide)
  · have:m=wElse:=ht.2.symm.trans e.2
    subst this;revert hm;decide
end Go.Proofs.YtbemddpmohoooaaGreatDoor
