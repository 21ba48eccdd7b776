import Derived.Test.YtbemddpmohoooaaGreatDoorQ5
import Derived.Test.YtbemddpmohoooaaGreatDoorQ6
set_option linter.unusedVariables false
set_option linter.unusedSimpArgs false
set_option linter.unusedSectionVars false
set_option maxHeartbeats 128000000
set_option maxRecDepth 100000
namespace Go.Proofs.YtbemddpmohoooaaGreatDoor
open PShelfFormats RowKit YtbemddpmohoooaaGreatDoorW.PrintWords YtbemddpmohoooaaGreatDoorW.PrintLast YtbemddpmohoooaaGreatDoorW.PrintMore
def B (l:List UInt8):Bs:=⟨l.toArray⟩
theorem B_toList (l:List UInt8):(B l).toList=l:=lit_toList l
def FF (R:List S42) (r:Int×Int):Nat→List Bs→Nat→Prop
 |0,_,_=>False
 |k+1,st,i=>(st=[]∧r=(-1,0))∨∃s X,st=s++[X]∧s.length<8796093022208∧∃h:i<R.length,
  ((X.toList∈things∧∃n next ok,larderref23_rule.f n X R[i].f0 R[i].f1 R[i].f2 R[i].f3 R[i].f4=some (next,ok)∧(ok=false→r=((i:Int),230))∧(ok=true→next.length<1000∧s.length+next.length<8796093022208∧FF R r k (s++next.reverse) i))∨
    (X.toList ∉ things∧∃m,larderref23_matches.f X R[i].f0 R[i].f1 R[i].f2 R[i].f3 R[i].f4=some m∧(m=false→r=((i:Int),230))∧(m=true→∃g,(X.toList=[78,85,77,66,69,82]→∃n,larderref23_great.f n R[i].f0=some g)∧(X.toList≠[78,85,77,66,69,82]→g=false)∧(g=true→r=((i:Int),161))∧(g=false→FF R r k s (i+1)))))
def F (R:List S42) (st:List Bs) (i:Nat) (r:Int×Int):Prop:=∃k,FF R r k st i
theorem rd_get (R:List S42) (i:Nat) (h:i<R.length):rd_T42 R (i:Int)=R[i]:=by simp[rd_T42,h]
theorem F_end (R:List S42) (i:Nat):F R [] i (-1,0):=⟨1,Or.inl ⟨rfl,rfl⟩⟩
theorem F_turn (R:List S42) (st:List Bs) (X:Bs) (i:Nat) (r:Int×Int) (hs:st.length<8796093022208) (hi:i<R.length)
 (hg:X.toList∈things→∃next ok,(∃n,larderref23_rule.f n X R[i].f0 R[i].f1 R[i].f2 R[i].f3 R[i].f4=some (next,ok))∧next.length<1000∧(ok=true→st.length+next.length<8796093022208∧F R (st++next.reverse) i r)∧(ok=false→r=((i:Int),230)))
 (ht:X.toList ∉ things→∃m,larderref23_matches.f X R[i].f0 R[i].f1 R[i].f2 R[i].f3 R[i].f4=some m∧(m=false→r=((i:Int),230))∧
   (m=true→(X.toList≠[78,85,77,66,69,82]→F R st (i+1) r)∧(X.toList=[78,85,77,66,69,82]→∃g,Ev (fun k=>larderref23_great.f k R[i].f0) g∧(g=true→r=((i:Int),161))∧(g=false→F R st (i+1) r))))
 (hR:R.length<1000000000):F R (st++[X]) i r:=by
 by_cases hX:X.toList∈things
 · obtain⟨next,ok,⟨n,h1⟩,h0,h2,h3⟩:=hg hX
   cases ok with
   |false=>exact⟨1,Or.inr ⟨st,X,rfl,hs,hi,Or.inl ⟨hX,n,next,false,h1,fun _=>h3 rfl,fun q=>by cases q⟩⟩⟩
   |true=>
    obtain⟨hl,k,hF⟩:=h2 rfl;exact⟨k+1,Or.inr ⟨st,X,rfl,hs,hi,Or.inl ⟨hX,n,next,true,h1,(fun q=>by cases q),fun _=>⟨h0,hl,hF⟩⟩⟩⟩
 · obtain⟨m,h1,h2,h3⟩:=ht hX
   cases m with
   |false=>exact⟨1,Or.inr ⟨st,X,rfl,hs,hi,Or.inr ⟨hX,false,h1,h2,fun q=>by cases q⟩⟩⟩
   |true=>
    obtain⟨h4,h5⟩:=h3 rfl;by_cases en:X.toList=[78,85,77,66,69,82]
    · obtain⟨g,g1,g2,g3⟩:=h5 en
      cases g with
      |true=>exact⟨1,Or.inr ⟨st,X,rfl,hs,hi,Or.inr ⟨hX,true,h1,h2,fun _=>⟨true,fun _=>g1.get,fun q=>absurd en q,g2,fun q=>by cases q⟩⟩⟩⟩
      |false=>
       obtain⟨k,hF⟩:=g3 rfl;exact⟨k+1,Or.inr ⟨st,X,rfl,hs,hi,Or.inr ⟨hX,true,h1,h2,fun _=>⟨false,fun _=>g1.get,fun q=>absurd en q,g2,fun _=>hF⟩⟩⟩⟩
    · obtain⟨k,hF⟩:=h4 en
      exact⟨k+1,Or.inr ⟨st,X,rfl,hs,hi,Or.inr ⟨hX,true,h1,h2,fun _=>⟨false,fun q=>absurd q en,fun _=>rfl,(fun q=>by cases q),fun _=>hF⟩⟩⟩⟩
def sideOf (m:List UInt8):Int:=if m=[40]∨m=[91]∨m=[123]then 1 else if m=[41]∨m=[93]∨m=[125]then-1 else 0
def noName:List (List UInt8):=[[45],[33],[40],[109,97,112],[100,101,108,101,116,101],[99,108,101,97,114],[112,114,105,110,116],[105,102],[101,108,115,101],[119,104,105,108,101],[102,111,114],[105,110],[98,114,101,97,107],[99,111,110,116,105,110,117,101],[104,97,115],[108,101,110]]
structure TokOk (t:S42):Prop where
 mark:t.f2=109→t.f3=rank0 t.f0.toList+1∧t.f4=sideOf t.f0.toList
 other:t.f2=110∨t.f2=57∨t.f2=36→t.f3=0∧t.f4=0
 lo: -1≤t.f4
 hi:t.f4≤1
 name:t.f2=110→t.f0.toList ∉ noName
 num:t.f2=57→t.f0.toList≠[]∧t.f0.size<1000000000∧∀b∈t.f0.toList,48≤b.toNat∧b.toNat≤57
theorem split_ev (c:List S42) (r:Int) (hc:∀t∈c,-1≤t.f4∧t.f4≤1) (hlen:c.length<1000000000):Ev (fun k=>larderref23_split.f k c r) (spl r 0 false 0 (-1) c):=
 ⟨0,fun k _=>if_pos ⟨hc,by omega⟩⟩
def unt (ms:List (List UInt8)):Int→Nat→List S42→Option Nat
 |_,_,[]=>none
 |d,i,t::l=>if d≤0∧ms.any (fun m=>decide (isM t m))=true then some i else unt ms (d+t.f4) (i+1) l
def Pass (ms:List (List UInt8)) (c:List S42):Prop:=∀(d:Int) (i:Nat) (rest:List S42),0≤d→unt ms d i (c++rest)=unt ms d (i+c.length) rest
theorem Pass.nil (ms:List (List UInt8)):Pass ms []:=fun _ _ _ _=>rfl
theorem Pass.app {ms:List (List UInt8)} {c1 c2:List S42} (h1:Pass ms c1) (h2:Pass ms c2):Pass ms (c1++c2):=fun d i rest hd=>by
 rw[List.append_assoc,h1 d i _ hd,h2 d _ rest hd,List.length_append,Nat.add_assoc]
theorem Pass.one {ms:List (List UInt8)} {t:S42} (h0:t.f4=0) (h:∀m∈ms,¬isM t m):Pass ms [t]:=fun d i rest hd=>by
 have e:ms.any (fun m=>decide (isM t m))=false:=by
  rw[Bool.eq_false_iff];intro q;obtain⟨m,hm,e⟩:=List.any_eq_true.mp q;exact h m hm (of_decide_eq_true e)
 show unt ms d i (t::rest)=_;rw[unt,e,if_neg (fun q=>by cases q.2),h0,Int.add_zero];rfl
theorem Pass.cons {ms:List (List UInt8)} {t:S42} {c:List S42} (h0:t.f4=0) (h:∀m∈ms,¬isM t m) (hc:Pass ms c):Pass ms (t::c):=Pass.app (c1:=[t]) (Pass.one h0 h) hc
theorem Pass.br {ms:List (List UInt8)} {a b:S42} {c:List S42} (ha:a.f4=1) (hb:b.f4= -1) (h:∀m∈ms,¬isM a m) (hc:Pass ms c):Pass ms (a::(c++[b])):=fun d i rest hd=>by
 have e:ms.any (fun m=>decide (isM a m))=false:=by
  rw[Bool.eq_false_iff];intro q;obtain⟨m,hm,e⟩:=List.any_eq_true.mp q;exact h m hm (of_decide_eq_true e)
 show unt ms d i (a::((c++[b])++rest))=_;rw[unt,e,if_neg (fun q=>by cases q.2),ha,List.append_assoc,hc (d+1) _ _ (by omega)];show unt ms (d+1) _ (b::rest)=_;rw[unt,if_neg (fun q=>by omega),hb];congr 1
 · omega
 · simp;omega
def SP (low:Int) (c:List S42):Prop:=∀(r d:Int) (pe:Bool) (i:Nat) (a:Int) (rest:List S42),1≤r→0≤d→(d=0→pe=false∧r≤low)→spl r d pe i a (c++rest)=spl r d true (i+c.length) a rest
def SE (c:List S42):Prop:=∀(r:Int) (i:Nat) (a:Int),1≤r→r≤5→∃a',∀rest,spl r 0 false i a (c++rest)=spl r 0 true (i+c.length) a' rest
theorem SP.mono {l1 l2:Int} {c:List S42} (h:SP l2 c) (hl:l1≤l2):SP l1 c:=fun r d pe i a rest h1 h2 h3=>h r d pe i a rest h1 h2 (fun q=>⟨(h3 q).1,by have:=(h3 q).2;omega⟩)
theorem SP.se {c:List S42} (h:SP 5 c):SE c:=fun r i a h1 h2=>⟨a,fun rest=>h r 0 false i a rest h1 (by omega) (fun _=>⟨rfl,h2⟩)⟩
theorem SP.one {low:Int} {t:S42} (h3:t.f3=0) (h4:t.f4=0) (h2:t.f2≠109):SP low [t]:=fun r d pe i a rest hr hd h=>by
 show spl r d pe i a (t::rest)=_;rw[spl,h3,h4,if_neg (fun q=>by omega),Int.add_zero,decide_eq_true (Or.inl h2)];rfl
theorem SP.un {low:Int} {t:S42} {c:List S42} (h2:t.f2=109) (h4:t.f4=0) (hc:SP low c):SP low (t::c):=fun r d pe i a rest hr hd h=>by
 show spl r d pe i a (t::(c++rest))=_;have e:¬(d=0∧pe=true∧t.f3=r):=fun q=>by have:=(h q.1).1;rw[this]at q;exact absurd q.2.1 (by decide)
 rw[spl,if_neg e,h4,Int.add_zero,decide_eq_false (fun q=>q.elim (fun z=>z h2) (by rw[h4]at*;omega)),hc r d false _ a rest hr hd (fun q=>⟨rfl,(h q).2⟩)];congr 1;simp;omega
theorem spl_br {r d:Int} {pe:Bool} {i:Nat} {a:Int} {x y:S42} {c rest:List S42} (hr:1≤r) (hd:0≤d) (hx3:x.f3=0) (hx4:x.f4=1) (hy4:y.f4= -1) {low:Int} (hc:SP low c):
 spl r d pe i a (x::(c++y::rest))=spl r d true (i+(c.length+2)) a rest:=by
 rw[spl,if_neg (fun q=>by omega),hx4];rw[hc r (d+1) _ _ a (y::rest) hr (by omega) (fun q=>by omega)];rw[spl,if_neg (fun q=>by omega),hy4,decide_eq_true (Or.inr (by omega))];congr 1
 · omega
 · omega
theorem SP.br {low low2:Int} {x y:S42} {c:List S42} (hx3:x.f3=0) (hx4:x.f4=1) (hy4:y.f4= -1) (hc:SP low2 c):SP low (x::(c++[y])):=fun r d pe i a rest hr hd h=>by
 have e:(x::(c++[y]))++rest=x::(c++y::rest):=by simp
 rw[e,spl_br hr hd hx3 hx4 hy4 hc];congr 1;simp
theorem SP.key {low low2:Int} {t x y:S42} {c:List S42} (h3:t.f3=0) (h4:t.f4=0) (hx3:x.f3=0) (hx4:x.f4=1) (hy4:y.f4= -1) (hc:SP low2 c):SP low (t::x::(c++[y])):=fun r d pe i a rest hr hd h=>by
 have e:(t::x::(c++[y]))++rest=t::x::(c++y::rest):=by simp
 rw[e,spl,h3,h4,if_neg (fun q=>by omega),Int.add_zero,spl_br hr hd hx3 hx4 hy4 hc];congr 1;simp;omega
theorem SP.bin {low:Int} {t:S42} {c1 c2:List S42} (h2:t.f2=109) (h4:t.f4=0) (h3:t.f3=low+1) (hc1:SP low c1) (hc2:SP (low+1) c2):SP low (c1++t::c2):=fun r d pe i a rest hr hd h=>by
 rw[List.append_assoc,hc1 r d pe i a _ hr hd h];show spl r d true _ a (t::(c2++rest))=_;have e:¬(d=0∧true=true∧t.f3=r):=fun q=>by have:=(h q.1).2;omega
 rw[spl,if_neg e,h4,Int.add_zero,decide_eq_false (fun q=>q.elim (fun z=>z h2) (by omega)),hc2 r d false _ a rest hr hd (fun q=>⟨rfl,by have:=(h q).2;omega⟩)];congr 1;simp;omega
theorem SE.bin {t:S42} {c1 c2:List S42} (h2:t.f2=109) (h4:t.f4=0) (hc1:SE c1) (hc2:SE c2):SE (c1++t::c2):=fun r i a hr hr5=>by
 obtain⟨a1,k1⟩:=hc1 r i a hr hr5;obtain⟨a2,k2⟩:=hc2 r (i+c1.length+1) (if(0:Int)=0∧true=true∧t.f3=r then((i+c1.length:Nat):Int)else a1) hr hr5;refine⟨a2,fun rest=> ?_⟩;rw[List.append_assoc,k1];show spl r 0 true _ a1 (t::(c2++rest))=_;rw[spl,h4,Int.add_zero,decide_eq_false (fun q=>q.elim (fun z=>z h2) (by omega)),k2];congr 1;simp;omega
theorem spl_bin {low:Int} {t:S42} {c1 c2:List S42} (hl:0≤low) (hl5:low<5) (h2:t.f2=109) (h4:t.f4=0) (h3:t.f3=low+1) (hc1:SE c1) (hc2:SP (low+1) c2):spl (low+1) 0 false 0 (-1) (c1++t::c2)=(c1.length:Int):=by
 obtain⟨a1,k1⟩:=hc1 (low+1) 0 (-1) (by omega) (by omega);rw[k1];have e:((0:Int)=0∧true=true∧t.f3=low+1):=⟨rfl,rfl,h3⟩;rw[spl,if_pos e,h4,Int.add_zero,decide_eq_false (fun q=>q.elim (fun z=>z h2) (by omega))];have k2:=hc2 (low+1) 0 false (0+c1.length+1) ((0+c1.length:Nat):Int) [] (by omega) (by omega) (fun _=>⟨rfl,by omega⟩);rw[List.append_nil]at k2;rw[k2,spl];omega
theorem spl_none {low:Int} {c:List S42} (hc:SP low c) (r:Int) (hr:1≤r) (hl:r≤low):spl r 0 false 0 (-1) c= -1:=by
 have k:=hc r 0 false 0 (-1) [] hr (by omega) (fun _=>⟨rfl,hl⟩);rw[List.append_nil]at k;rw[k,spl]
def flds (x:S80):Int×Int×Bs×Bs×List S80:=(x.f0,x.f1,x.f2,x.f3,x.f4)
theorem flds_mk (x:S80):(⟨(flds x).1,(flds x).2.1,(flds x).2.2.1,(flds x).2.2.2.1,(flds x).2.2.2.2⟩:S80)=x:=by cases x;rfl
def Small (c:List S42):Prop:=c.length<1000000000∧∀t∈c,-1≤t.f4∧t.f4≤1
theorem tree_skip {c:List S42} (hs:Small c) {low:Int} (hc:SP low c) (hl5:low≤5) {x:Int×Int×Bs×Bs×List S80}:∀(n:Nat) (r:Int),1≤r→r+n=low+1→Ev (fun k=>larderref23_tree.l0 k c (low+1)) x→Ev (fun k=>larderref23_tree.l0 k c r) x
 |0,r,_,hr,h=>by
  have:r=low+1:=by omega
  rw[this];exact h
 |n+1,r,h1,hr,h=>by
  have ih:=tree_skip hs hc hl5 n (r+1) (by omega) (by omega) h;refine Ev.step (fun k=>by rw[larderref23_tree.l0]) ?_;have c1:r≤5:=by omega
  have c2:¬((-1:Int)≥0):=by omega
  have ew:wrap64 (r+1)=r+1:=wrap_id (by omega) (by omega);simp only[if_pos c1];refine Ev.bind (split_ev c r hs.2 hs.1) ?_;rw[spl_none hc r h1 (by omega)];simp only[if_neg c2,ew];exact ih
theorem tree_of {c:List S42} (hs:Small c) {low:Int} (hl0:0≤low) (hc:SP low c) (hl5:low≤5) {x:Int×Int×Bs×Bs×List S80} (h:Ev (fun k=>larderref23_tree.l0 k c (low+1)) x):Ev (fun k=>larderref23_tree.f k c) x:=
 Ev.step (fun k=>by rw[larderref23_tree.f]) (tree_skip hs hc hl5 low.toNat 1 (by omega) (by omega) h)
theorem tree_bin {low:Int} {t:S42} {c1 c2:List S42} {x y:S80} (hs:Small (c1++t::c2)) (hl0:0≤low) (hl5:low<5) (h2:t.f2=109) (h4:t.f4=0) (h3:t.f3=low+1) (p1:SP low c1) (e1:SE c1) (p2:SP (low+1) c2)
 (hx:Ev (fun k=>larderref23_tree.f k c1) (flds x)) (hy:Ev (fun k=>larderref23_tree.f k c2) (flds y)):Ev (fun k=>larderref23_tree.f k (c1++t::c2)) (flds (xBin t.f0 x y)):=by
 refine tree_of hs hl0 (SP.bin h2 h4 h3 p1 p2) (by omega) ?_;refine Ev.step (fun k=>by rw[larderref23_tree.l0]) ?_;have c1':low+1≤5:=by omega
 simp only[if_pos c1'];refine Ev.bind (split_ev _ (low+1) hs.2 hs.1) ?_;rw[spl_bin hl0 hl5 h2 h4 h3 e1 p2];have hlen:=hs.1;have q1:((c1.length:Nat):Int)≥0:=by omega
 have q2:(0:Int)≤(c1.length:Int):=by omega
 have q3:(c1.length:Int)<((c1++t::c2).length:Int):=by simp;omega
 have q4:(c1.length:Int)≤((c1++t::c2).length:Int):=by simp;omega
 have ew:wrap64 ((c1.length:Int)+1)=((c1.length+1:Nat):Int):=by
  rw[wrap_id (by omega) (by simp at hlen;omega)];omega
 have q5:(0:Int)≤((c1.length+1:Nat):Int):=by omega
 have q6:((c1.length+1:Nat):Int)≤((c1++t::c2).length:Int):=by simp;omega
 have t1:(c1++t::c2).take ((c1.length:Int)).toNat=c1:=by simp
 have t2:(c1++t::c2).drop (((c1.length+1:Nat):Int)).toNat=c2:=by
  rw[Int.toNat_natCast,← List.drop_drop];simp
 have rdt:rd_T42 (c1++t::c2) (c1.length:Int)=t:=by simp[rd_T42]
 simp only[if_pos q1,if_pos q2,if_pos q3,if_pos q4,ew,if_pos q5,if_pos q6,t1,t2,rdt];refine Ev.bind hx ?_;refine Ev.bind hy ?_;simp only[flds_mk];exact⟨0,fun _ _=>rfl⟩
theorem value_l0 (s:Bs) (hs:s.size<1000000000) (hd:∀b∈s.toList,48≤b.toNat∧b.toNat≤57) (hv:valN s.toList≤9223372036854775807):∀(n i:Nat) (m:Nat),s.size-i≤n→i≤s.size→(s.toList.drop i).foldl (fun n b=>10*n+(b.toNat-48)) m=valN s.toList→
 Ev (fun k=>larderref23_value.l0 k s (m:Int) (i:Int)) (valN s.toList:Int)
 |n,i,m,hn,hi,hf=>by
  have hsz:s.toList.length=s.size:=by rw[Lib.toList_data];rfl
  refine Ev.step (fun k=>by rw[larderref23_value.l0]) ?_;by_cases hlt:i<s.size
  · have c1:(i:Int)<(s.size:Int):=by omega
    have c2:(0:Int)≤(i:Int):=by omega
    have hlt2:i<s.toList.length:=by omega
    have hb:bt s (i:Int)=((s.toList[i]).toNat:Int):=by
     unfold bt;rw[Int.toNat_natCast,dif_pos hlt];congr 1;simp only[Lib.toList_data];rfl
    have hdr:s.toList.drop i=s.toList[i]::s.toList.drop (i+1):=List.drop_eq_getElem_cons hlt2;have hm:=hd _ (List.getElem_mem hlt2);rw[hdr,List.foldl_cons]at hf
    have mono:∀(l:List UInt8) (a:Nat),a≤l.foldl (fun n b=>10*n+(b.toNat-48)) a:=by
     intro l;induction l with
     |nil=>intro a;exact Nat.le_refl _
     |cons b l ih=>intro a;rw[List.foldl_cons];have:=ih (10*a+(b.toNat-48));omega
    have hle:=mono (s.toList.drop (i+1)) (10*m+((s.toList[i]).toNat-48));rw[hf]at hle;have ew:wrap64 ((i:Int)+1)=((i+1:Nat):Int):=by rw[wrap_id (by omega) (by omega)];omega
    have e1:wrap64 (10*(m:Int))=10*(m:Int):=wrap_id (by omega) (by omega);have e2:(((s.toList[i]).toNat:Int)-48) % 256=((s.toList[i]).toNat:Int)-48:=by omega
    have e3:wrap64 (10*(m:Int)+(((s.toList[i]).toNat:Int)-48))=((10*m+((s.toList[i]).toNat-48):Nat):Int):=by
     rw[wrap_id (by omega) (by omega)];omega
    simp only[if_pos c1,if_pos c2,hb,ew,e1,e2,e3];cases n with
    |zero=>omega
    |succ n=>exact value_l0 s hs hd hv n (i+1) _ (by omega) (by omega) hf
  · have c1:¬(i:Int)<(s.size:Int):=by omega
    simp only[if_neg c1];rw[List.drop_of_length_le (by omega),List.foldl_nil]at hf;rw[hf];exact⟨0,fun _ _=>rfl⟩
theorem value_ev (s:Bs) (hs:s.size<1000000000) (hd:∀b∈s.toList,48≤b.toNat∧b.toNat≤57) (hv:valN s.toList≤9223372036854775807):Ev (fun k=>larderref23_value.f k s) (valN s.toList:Int):=
 value_l0 s hs hd hv s.size 0 0 (by omega) (by omega) rfl
theorem tree_six {c:List S42} (hs:Small c) (hc:SP 5 c) {x:Int×Int×Bs×Bs×List S80} (hne:c≠[])
 (h:Ev (fun k=>if(rd_T42 c 0).f2=57 then((larderref23_value.f k ((rd_T42 c 0).f0)).bind fun t392=>(some (1,t392,(⟨#[]⟩:Bs),(⟨#[]⟩:Bs),([]:List (S80)))))else(if((rd_T42 c 0).f0).toList=([45]:List UInt8)then(larderref23_tree.j1 k c (c.length:Int) true)else(larderref23_tree.j1 k c (c.length:Int) (((rd_T42 c 0).f0).toList==([33]:List UInt8))))) x):Ev (fun k=>larderref23_tree.f k c) x:=by
 refine tree_of hs (by omega) hc (by omega) ?_;refine Ev.step (fun k=>by rw[larderref23_tree.l0]) ?_;have c1:¬((5:Int)+1≤5):=by omega
 have c2:0<(c.length:Int):=by
  have:=List.length_pos_iff.mpr hne;omega
 simp only[if_neg c1,if_pos c2];exact h
theorem tree_num {t:S42} (hs:Small [t]) (hc:SP 5 [t]) (h:t.f2=57) (hsz:t.f0.size<1000000000) (hd:∀b∈t.f0.toList,48≤b.toNat∧b.toNat≤57) {n:Int} (hn:numOf t.f0.toList=some n):Ev (fun k=>larderref23_tree.f k [t]) (flds (xNum n)):=by
 refine tree_six hs hc (by simp) ?_;have e:rd_T42 [t] 0=t:=rfl;simp only[e,if_pos h];unfold numOf at hn;split at hn
 · rename_i hv
   obtain rfl:=Option.some.inj hn;refine Ev.bind (value_ev _ hsz hd hv) ?_;exact⟨0,fun _ _=>rfl⟩
 · cases hn
theorem tree_j {c:List S42} (hs:Small c) (hc:SP 5 c) {t:S42} {c':List S42} (e:c=t::c') {x:Int×Int×Bs×Bs×List S80} (h:t.f2≠57) (h45:t.f0.toList≠[45])
 (hj:Ev (fun k=>larderref23_tree.j1 k c (c.length:Int) (t.f0.toList==([33]:List UInt8))) x):Ev (fun k=>larderref23_tree.f k c) x:=by
 subst e;refine tree_six hs hc (by simp) ?_;have e:rd_T42 (t::c') 0=t:=rfl;simp only[e,if_neg h,if_neg h45];exact hj
theorem tree_un {c:List S42} {t:S42} {x:S80} (hs:Small (t::c)) (hc:SP 5 (t::c)) (h:t.f2=109) (ho:t.f0.toList=[45]∨t.f0.toList=[33]) (hx:Ev (fun k=>larderref23_tree.f k c) (flds x)):Ev (fun k=>larderref23_tree.f k (t::c)) (flds (xUn t.f0 x)):=by
 have hj:Ev (fun k=>larderref23_tree.j1 k (t::c) ((t::c).length:Int) true) (flds (xUn t.f0 x)):=by
  refine Ev.step (fun k=>by rw[larderref23_tree.j1]) ?_;have c1:0<((t::c).length:Int):=by rw[List.length_cons];omega
  have c2:1≤((t::c).length:Int):=by rw[List.length_cons];omega
  have e:rd_T42 (t::c) 0=t:=rfl;have e2:(t::c).drop 1=c:=rfl;simp only[if_true,if_pos c1,if_pos c2,e,e2];refine Ev.bind hx ?_;simp only[flds_mk];exact⟨0,fun _ _=>rfl⟩
 refine tree_six hs hc (by simp) ?_;have e:rd_T42 (t::c) 0=t:=rfl;have h57:¬t.f2=57:=by rw[h];decide
 simp only[e,if_neg h57];by_cases h45:t.f0.toList=[45]
 · simp only[if_pos h45];exact hj
 · simp only[if_neg h45]
   have e3:(t.f0.toList==([33]:List UInt8))=true:=by rw[ho.resolve_left h45];rfl
   simp only[e3];exact hj
theorem cut_end {a b:List S42} {t:S42} {n:Nat} (hn:n=a.length) (hlen:(a++b++[t]).length<1000000000):((a++b++[t]).take ((wrap64 (((a++b++[t]).length:Int)-1))).toNat).drop n=b∧(n:Int)≤wrap64 (((a++b++[t]).length:Int)-1)∧wrap64 (((a++b++[t]).length:Int)-1)≤((a++b++[t]).length:Int):=by
 have ew:wrap64 (((a++b++[t]).length:Int)-1)=((a++b).length:Int):=by
  have e:((a++b++[t]).length:Int)-1=((a++b).length:Int):=by simp;omega
  rw[e,wrap_id (by omega) (by simp at hlen⊢;omega)]
 rw[ew,hn];refine⟨by rw[Int.toNat_natCast,List.take_left' rfl,List.drop_left' rfl],by simp;omega,by simp;omega⟩
theorem tree_par {c:List S42} {a b:S42} {x:S80} (hs:Small (a::(c++[b]))) (hc:SP 5 (a::(c++[b]))) (h:isM a [40]) (hx:Ev (fun k=>larderref23_tree.f k c) (flds x)):Ev (fun k=>larderref23_tree.f k (a::(c++[b]))) (flds x):=by
 refine tree_j hs hc rfl (by rw[h.1];decide) (by rw[h.2];decide) ?_;refine Ev.step (fun k=>by rw[larderref23_tree.j1]) ?_;have e3:(a.f0.toList==([33]:List UInt8))=false:=by rw[h.2];rfl
 have c1:0<((a::(c++[b])).length:Int):=by simp;omega
 have e:rd_T42 (a::(c++[b])) 0=a:=rfl;obtain⟨q1,q2,q3⟩:=cut_end (a:=[a]) (b:=c) (t:=b) (n:=1) rfl hs.1;have q1:((a::(c++[b])).take ((wrap64 (((a::(c++[b])).length:Int)-1))).toNat).drop 1=c:=q1;have q2:(1:Int)≤wrap64 (((a::(c++[b])).length:Int)-1):=q2;have q3:wrap64 (((a::(c++[b])).length:Int)-1)≤((a::(c++[b])).length:Int):=q3;simp only[e3,Bool.false_eq_true,if_false,if_pos c1,e,if_pos h.2,if_pos q2,if_pos q3,q1];refine Ev.bind hx ?_;exact⟨0,fun _ _=>rfl⟩
theorem tree_has {c:List S42} {a n o b:S42} {x:S80} (hs:Small (a::n::o::(c++[b]))) (hc:SP 5 (a::n::o::(c++[b]))) (h:isM a [104,97,115]) (hx:Ev (fun k=>larderref23_tree.f k c) (flds x)):Ev (fun k=>larderref23_tree.f k (a::n::o::(c++[b]))) (flds (xHas n.f0 x)):=by
 refine tree_j hs hc rfl (by rw[h.1];decide) (by rw[h.2];decide) ?_;refine Ev.step (fun k=>by rw[larderref23_tree.j1]) ?_;have e3:(a.f0.toList==([33]:List UInt8))=false:=by rw[h.2];rfl
 have e4:¬a.f0.toList=[40]:=by rw[h.2];decide
 have c1:0<((a::n::o::(c++[b])).length:Int):=by simp;omega
 have c2:1<((a::n::o::(c++[b])).length:Int):=by simp;omega
 have e:rd_T42 (a::n::o::(c++[b])) 0=a:=rfl;have en:rd_T42 (a::n::o::(c++[b])) 1=n:=rfl;obtain⟨q1,q2,q3⟩:=cut_end (a:=[a,n,o]) (b:=c) (t:=b) (n:=3) rfl hs.1;have q1:((a::n::o::(c++[b])).take ((wrap64 (((a::n::o::(c++[b])).length:Int)-1))).toNat).drop 3=c:=q1;have q2:(3:Int)≤wrap64 (((a::n::o::(c++[b])).length:Int)-1):=q2;have q3:wrap64 (((a::n::o::(c++[b])).length:Int)-1)≤((a::n::o::(c++[b])).length:Int):=q3;simp only[e3,Bool.false_eq_true,if_false,if_pos c1,if_pos c2,e,en,if_neg e4,if_pos h.2,if_pos q2,if_pos q3,q1];refine Ev.bind hx ?_;simp only[flds_mk];exact⟨0,fun _ _=>rfl⟩
theorem tree_len {a n:S42} (hs:Small [a,n]) (hc:SP 5 [a,n]) (h:isM a [108,101,110]):Ev (fun k=>larderref23_tree.f k [a,n]) (flds (xLen n.f0)):=by
 refine tree_j hs hc rfl (by rw[h.1];decide) (by rw[h.2];decide) ?_;refine Ev.step (fun k=>by rw[larderref23_tree.j1]) ?_;have e3:(a.f0.toList==([33]:List UInt8))=false:=by rw[h.2];rfl
 have e4:¬a.f0.toList=[40]:=by rw[h.2];decide
 have e5:¬a.f0.toList=[104,97,115]:=by rw[h.2];decide
 have c1:0<(([a,n]:List S42).length:Int):=by simp
 have c2:1<(([a,n]:List S42).length:Int):=by simp
 have e:rd_T42 [a,n] 0=a:=rfl;have en:rd_T42 [a,n] 1=n:=rfl;simp only[e3,Bool.false_eq_true,if_false,if_pos c1,if_pos c2,e,en,if_neg e4,if_neg e5,if_pos h.2];exact⟨0,fun _ _=>rfl⟩
theorem noName_ne {t:S42} (hn:t.f0.toList ∉ noName):t.f0.toList≠[45]∧(t.f0.toList==([33]:List UInt8))=false∧¬t.f0.toList=[40]∧¬t.f0.toList=[104,97,115]∧¬t.f0.toList=[108,101,110]:=by
 refine⟨fun q=>hn (by rw[q];decide),?_,fun q=>hn (by rw[q];decide),fun q=>hn (by rw[q];decide),fun q=>hn (by rw[q];decide)⟩;rw[beq_eq_false_iff_ne];exact fun q=>hn (by rw[q];decide)
theorem tree_name {a:S42} (hs:Small [a]) (hc:SP 5 [a]) (h:a.f2=110) (hn:a.f0.toList ∉ noName):Ev (fun k=>larderref23_tree.f k [a]) (flds (xName a.f0)):=by
 obtain⟨n1,n2,n3,n4,n5⟩:=noName_ne hn;refine tree_j hs hc rfl (by rw[h];decide) n1 ?_;refine Ev.step (fun k=>by rw[larderref23_tree.j1]) ?_;have c1:0<(([a]:List S42).length:Int):=by simp
 have c2:¬(([a]:List S42).length:Int)>1:=by simp
 have e:rd_T42 [a] 0=a:=rfl;simp only[n2,Bool.false_eq_true,if_false,if_pos c1,if_neg c2,e,if_neg n3,if_neg n4,if_neg n5];exact⟨0,fun _ _=>rfl⟩
theorem tree_index {c:List S42} {n o b:S42} {x:S80} (hs:Small (n::o::(c++[b]))) (hc:SP 5 (n::o::(c++[b]))) (h:n.f2=110) (hn:n.f0.toList ∉ noName) (hx:Ev (fun k=>larderref23_tree.f k c) (flds x)):Ev (fun k=>larderref23_tree.f k (n::o::(c++[b]))) (flds (xIndex n.f0 x)):=by
 obtain⟨n1,n2,n3,n4,n5⟩:=noName_ne hn;refine tree_j hs hc rfl (by rw[h];decide) n1 ?_;refine Ev.step (fun k=>by rw[larderref23_tree.j1]) ?_;have c1:0<((n::o::(c++[b])).length:Int):=by simp;omega
 have c2:((n::o::(c++[b])).length:Int)>1:=by simp;omega
 have e:rd_T42 (n::o::(c++[b])) 0=n:=rfl;obtain⟨q1,q2,q3⟩:=cut_end (a:=[n,o]) (b:=c) (t:=b) (n:=2) rfl hs.1;have q1:((n::o::(c++[b])).take ((wrap64 (((n::o::(c++[b])).length:Int)-1))).toNat).drop 2=c:=q1;have q2:(2:Int)≤wrap64 (((n::o::(c++[b])).length:Int)-1):=q2;have q3:wrap64 (((n::o::(c++[b])).length:Int)-1)≤((n::o::(c++[b])).length:Int):=q3;simp only[n2,Bool.false_eq_true,if_false,if_pos c1,if_pos c2,e,if_neg n3,if_neg n4,if_neg n5,if_pos q2,if_pos q3,q1];refine Ev.bind hx ?_;simp only[flds_mk];exact⟨0,fun _ _=>rfl⟩
end Go.Proofs.YtbemddpmohoooaaGreatDoor
