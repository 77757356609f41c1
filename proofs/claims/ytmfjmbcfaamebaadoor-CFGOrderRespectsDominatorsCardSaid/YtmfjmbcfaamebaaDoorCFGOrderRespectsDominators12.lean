/- Proved: the law CFGOrderRespectsDominators holds of the given program: Order contains every reachable node once, after its immediate dominator. Conditions: none but the row's own cells; the listed tables of Go's library are tied to the program's text. -/
import Derived.Test.YtmfjmbcfaamebaaDoorCFGOrderRespectsDominators11
import Derived.Test.YtmfjmbcfaamebaaDoorRows
import Derived.Test.YtmfjmbcfaamebaaDoorCards
import Derived.Test.YtmfjmbcfaamebaaDoorTie
import Derived.SevenTiedAt
set_option linter.unusedVariables false
set_option linter.unusedSimpArgs false
namespace Go.Proofs.YtmfjmbcfaamebaaDoor.X
noncomputable section
open Go.RowKit Go.Proofs.YtmfjmbcfaamebaaDoorW.PrintWords Go.Proofs.YtmfjmbcfaamebaaDoorW.PrintLast Go.Proofs.YtmfjmbcfaamebaaDoorW.PrintMore
theorem Rch.back {T:Int→List Int} {av:Int→Prop} {x a:Int} {P:Int→Prop} (h:Rch T av x a) (hP:P a) (hc:∀ y z,z∈T y→¬ av y→¬ av z→P z→P y):P x:=by
 induction h with
 | refl _=>exact hP
 | step h0 h1 h2 ih=>exact ih (hc _ _ h1 h0.last h2 hP)
def InLoop (l:List S60) (a h:Int) (x:Int):Prop:=x=h∨(Rch (Tg l) noN 0 x∧Rch (Tg l) (fun y=>y=h) x a)
def IsLoop (l:List S60) (a h:Int) (r:List Int):Prop:=r.Pairwise (·<·)∧∀ x,x∈r↔InLoop l a h x
theorem IsLoop.uniq {l:List S60} {a h:Int} {r r':List Int} (h1:IsLoop l a h r) (h2:IsLoop l a h r'):r=r':=qgd h1.1 h2.1 (fun x=>(h1.2 x).trans (h2.2 x).symm)
theorem rloop_in (a:Bool) (b:Int) {l:List S60} (hN:l.length≤14) {e0 e1:Int} {q:List Int} (hq:∀ x∈q,0≤x∧x<(l.length:Int)) (hql:q.length≤14):∀ (m i:Nat) (o:List Int),i+m=q.length→o.length≤i+1→
  ∃ o',Ev (fun k=>qat.l1 k o q (q.length:Int) (i:Int) a b l e0 e1) o'∧o'.Pairwise (·<·)∧∀ x,x∈o'↔(x∈o∨x∈q.drop i∧Rch (Tg l) (fun y=>y=e1) x e0)∧0≤x∧x≤65535
 | 0,i,o,hi,ho=>by
  obtain ⟨r,h1,h2,_⟩:=rOf_ev o (by omega)
  refine ⟨r,?_,h2.1,fun x=>?_⟩
  ·refine Ev.succ ?_
   have c1:((i:Int)<(q.length:Int))=False:=eq_false (by omega)
   simp only [qat.l1,c1,if_false]
   exact Ev.bind h1 (Ev.const _)
  ·rw [h2.2,List.drop_eq_nil_of_le (by omega)]
   simp
 | m+1,i,o,hi,ho=>by
  have h1:i<q.length:=by omega
  have hrd:rd q (i:Int)=q[i]:=qgz h1
  have hqi:=hq _ (List.getElem_mem h1)
  obtain ⟨r,h2,h3⟩:=rReachOne_ev a b hN q[i] e1
  have hrl:=qfn h3.1 (fun x hx=>h3.range hx)
  have hh:=qgb r e0 (by omega)
  have hm:e0∈r↔Rch (Tg l) (fun y=>y=e1) q[i] e0:=(h3.2 e0).trans ⟨fun h=>h.2,fun h=>⟨hqi,h⟩⟩
  have c1:((i:Int)<(q.length:Int))=True:=eq_true (by omega)
  have c2:(0≤(i:Int))=True:=eq_true (by omega)
  have c3:o.length<17592186044416:=by omega
  have hw:=qcw (show i<9223372036854775807 by omega)
  have hdrop:=List.drop_eq_getElem_cons h1
  by_cases h:e0∈r
  ·obtain ⟨o',h4,h5,h6⟩:=rloop_in a b hN (e0:=e0) (e1:=e1) hq hql m (i+1) (o++[q[i]]) (by omega) (by simp;omega)
   refine ⟨o',?_,h5,fun x=>?_⟩
   ·refine Ev.succ ?_
    simp only [qat.l1,c1,c2,if_true,hrd,hw]
    refine Ev.bind h2 (Ev.bind hh ?_)
    exact Ev.ifp (decide_eq_true h) (Ev.ifp c3 h4)
   ·rw [h6,hdrop,List.mem_append,List.mem_singleton,List.mem_cons]
    constructor
    ·rintro ⟨(h7|rfl)|h7,h8⟩
     ·exact ⟨.inl h7,h8⟩
     ·exact ⟨.inr ⟨.inl rfl,hm.1 h⟩,h8⟩
     ·exact ⟨.inr ⟨.inr h7.1,h7.2⟩,h8⟩
    ·rintro ⟨h7|⟨h7|h7,h9⟩,h8⟩
     ·exact ⟨.inl (.inl h7),h8⟩
     ·exact ⟨.inl (.inr h7),h8⟩
     ·exact ⟨.inr ⟨h7,h9⟩,h8⟩
  ·obtain ⟨o',h4,h5,h6⟩:=rloop_in a b hN (e0:=e0) (e1:=e1) hq hql m (i+1) o (by omega) (by omega)
   refine ⟨o',?_,h5,fun x=>?_⟩
   ·refine Ev.succ ?_
    simp only [qat.l1,c1,c2,if_true,hrd,hw]
    refine Ev.bind h2 (Ev.bind hh ?_)
    exact Ev.ifn (by simpa using h) h4
   ·rw [h6,hdrop,List.mem_cons]
    constructor
    ·rintro ⟨h7|h7,h8⟩
     ·exact ⟨.inl h7,h8⟩
     ·exact ⟨.inr ⟨.inr h7.1,h7.2⟩,h8⟩
    ·rintro ⟨h7|⟨h7|h7,h9⟩,h8⟩
     ·exact ⟨.inl h7,h8⟩
     ·rw [h7] at h9;exact absurd (hm.2 h9) h
     ·exact ⟨.inr ⟨h7,h9⟩,h8⟩
theorem edge_eq {e:S39} {a h:Int}:(e.f0==a&&e.f1==h)=true↔e=⟨a,h⟩:=by
 obtain ⟨x,y⟩:=e
 simp
def isE (e0 e1:Int) (e:S39):Bool:=e.f0==e0&&e.f1==e1
theorem isE_any {q:List S39} {e0 e1:Int}:q.any (isE e0 e1)=true↔(⟨e0,e1⟩:S39)∈q:=by
 rw [List.any_eq_true]
 constructor
 ·rintro ⟨e,h1,h2⟩
  rw [← edge_eq.1 h2];exact h1
 ·intro h
  exact ⟨_,h,edge_eq.2 rfl⟩
theorem qhy (a:Bool) (b:Int) (l:List S60) {q:List S39} (hq:q.length<100000) {e0 e1:Int} {r:List Int}:∀ (m i:Nat) (f:Bool),i+m=q.length→
  Ev (fun k=>if (f||(q.drop i).any (isE e0 e1))=true then ((qam.f k a b l 0 ([]:List Int)).bind fun t=>(qat.l1 k (([e1]:List Int)) t (t.length:Int) 0 a b l e0 e1)) else (some ([]:List Int))) r→
  Ev (fun k=>qat.l0 k f q (q.length:Int) (i:Int) a b l e0 e1) r
 | 0,i,f,hi,h=>by
  rw [List.drop_eq_nil_of_le (by omega),List.any_nil,Bool.or_false] at h
  refine Ev.next h (fun k=>?_)
  rw [qat.l0,if_neg (by omega)]
 | m+1,i,f,hi,h=>by
  have h1:i<q.length:=by omega
  have hrd:qck q (i:Int)=q[i]:=by unfold qck;rw [Int.toNat_natCast,List.getD_eq_getElem?_getD,List.getElem?_eq_getElem h1];rfl
  have c1:((i:Int)<(q.length:Int))=True:=eq_true (by omega)
  have c2:(0≤(i:Int))=True:=eq_true (by omega)
  have hw:=qcw (show i<9223372036854775807 by omega)
  have ih:=qhy a b l hq (e0:=e0) (e1:=e1) (r:=r) m (i+1) (f||isE e0 e1 q[i]) (by omega) (h.congr (fun k=>by
   have e:(f||isE e0 e1 q[i]||(q.drop (i+1)).any (isE e0 e1))=(f||(q.drop i).any (isE e0 e1)):=by
    rw [Bool.or_assoc,List.drop_eq_getElem_cons h1,List.any_cons]
   rw [e]))
  refine Ev.next ih (fun k=>?_)
  rw [qat.l0]
  simp only [c1,c2,if_true,hrd,hw]
  cases f with
  | true=>rw [if_pos rfl,Bool.true_or]
  | false=>rw [if_neg (by decide),Bool.false_or];rfl
theorem backs_len {l:List S60} (hN:l.length≤14):(qht l).length<100000:=by
 have key:∀ (rows:List (List Int)) (i:Nat) (out:List S39),(∀ r∈rows,r.length≤1000)→(bOut l i rows out).length≤out.length+1000*rows.length:=by
  intro rows
  induction rows with
  | nil=>intro i out _;simp [bOut]
  | cons r t ih=>
   intro i out hr
   have h1:=ih (i+1) (bIn l (i:Int) r out) (fun r h=>hr r (List.mem_cons_of_mem _ h))
   have h2:=qhq l (i:Int) r out
   have h3:=hr r (List.mem_cons_self ..)
   rw [bOut,List.length_cons]
   omega
 have:=key (Succ l) 0 [] (fun r h=>(Succ_rows hN r h).2.1)
 rw [qei] at this
 unfold qht
 simp at this
 omega
theorem rloop_ev (a:Bool) (b:Int) {l:List S60} (hN:l.length≤14) (e0 e1:Int):∃ r,Ev (fun k=>qat.f k a b l e0 e1) r∧((⟨e0,e1⟩:S39)∈qht l→IsLoop l e0 e1 r)∧((⟨e0,e1⟩:S39)∉qht l→r=[]):=by
 by_cases h:(⟨e0,e1⟩:S39)∈qht l
 ·obtain ⟨⟨h1,h2⟩,h3,h4⟩:=backs_mem.1 h
  have he1:0≤e1∧e1<(l.length:Int):=qee h3
  have h0:0<l.length:=by omega
  obtain ⟨q,h5,h6⟩:=rReach_ev a b hN 0
  have hql:=qfn h6.1 (fun x hx=>h6.range hx)
  obtain ⟨r,h7,h8,h9⟩:=rloop_in a b hN (e0:=e0) (e1:=e1) (fun x hx=>h6.range hx) (by omega) q.length 0 [e1] (by omega) (by simp)
  refine ⟨r,?_,fun _=>⟨h8,fun x=>?_⟩,fun h'=>absurd h h'⟩
  ·unfold qat.f
   refine Ev.bind (rback_ev a b hN) ?_
   refine qhy a b l (backs_len hN) (qht l).length 0 false (by omega) ?_
   refine Ev.ifp (by rw [Bool.false_or,List.drop_zero];exact isE_any.2 h) (Ev.bind h5 h7)
  ·rw [h9,List.drop_zero,h6.2,List.mem_singleton,InLoop]
   constructor
   ·rintro ⟨h10|h10,_⟩
    ·exact .inl h10
    ·exact .inr ⟨h10.1.2,h10.2⟩
   ·rintro (h10|⟨h10,h11⟩)
    ·exact ⟨.inl h10,by omega,by omega⟩
    ·have:=h10.range (l:=l) (by omega)
     exact ⟨.inr ⟨⟨by omega,h10⟩,h11⟩,by omega,by omega⟩
 ·refine ⟨[],?_,fun h'=>absurd h' h,fun _=>rfl⟩
  unfold qat.f
  refine Ev.bind (rback_ev a b hN) ?_
  refine qhy a b l (backs_len hN) (qht l).length 0 false (by omega) ?_
  exact Ev.ifn (by rw [Bool.false_or,List.drop_zero];exact fun h'=>h (isE_any.1 h')) (Ev.const _)
theorem contains_from {q:List S39} (hq:q.length<100000) (e0 e1:Int):∀ (m i:Nat),i+m=q.length→∃ j:Int,Ev (fun k=>qas.l0 k q (q.length:Int) (i:Int) e0 e1) j∧(0≤j↔(q.drop i).any (isE e0 e1)=true)
 | 0,i,hi=>by
  refine ⟨-1,Ev.next (Ev.const _) (fun k=>?_),?_⟩
  ·rw [qas.l0,if_neg (by omega)]
  ·rw [List.drop_eq_nil_of_le (by omega)];simp
 | m+1,i,hi=>by
  have h1:i<q.length:=by omega
  have hrd:qck q (i:Int)=q[i]:=by unfold qck;rw [Int.toNat_natCast,List.getD_eq_getElem?_getD,List.getElem?_eq_getElem h1];rfl
  have c1:((i:Int)<(q.length:Int))=True:=eq_true (by omega)
  have c2:(0≤(i:Int))=True:=eq_true (by omega)
  have hw:=qcw (show i<9223372036854775807 by omega)
  rw [List.drop_eq_getElem_cons h1,List.any_cons]
  have he:(e0==q[i].f0&&e1==q[i].f1)=isE e0 e1 q[i]:=by
   unfold isE
   rw [Bool.eq_iff_iff,Bool.and_eq_true,Bool.and_eq_true,beq_iff_eq,beq_iff_eq,beq_iff_eq,beq_iff_eq]
   exact ⟨fun h=>⟨h.1.symm,h.2.symm⟩,fun h=>⟨h.1.symm,h.2.symm⟩⟩
  cases h:isE e0 e1 q[i] with
  | true=>
   refine ⟨(i:Int),Ev.next (Ev.const _) (fun k=>?_),by simp⟩
   rw [qas.l0]
   simp only [c1,c2,if_true,hrd,he,h]
  | false=>
   obtain ⟨j,h2,h3⟩:=contains_from hq e0 e1 m (i+1) (by omega)
   refine ⟨j,Ev.next h2 (fun k=>?_),by rw [h3];simp⟩
   rw [qas.l0]
   simp only [c1,c2,if_true,hrd,he,h,hw,if_false,Bool.false_eq_true]
theorem contains_ev {q:List S39} (hq:q.length<100000) (e0 e1:Int):Ev (fun k=>qbt.f k q e0 e1) (q.any (isE e0 e1)):=by
 obtain ⟨j,h1,h2⟩:=contains_from hq e0 e1 q.length 0 (by omega)
 have e:decide (j≥0)=q.any (isE e0 e1):=by
  rw [Bool.eq_iff_iff,decide_eq_true_eq]
  exact h2
 rw [← e]
 exact Ev.bind h1 (Ev.const _)
structure LInv (l:List S60) (a h:Int) (todo:List Int) (ws:List Int):Prop where
 gs:GS ws
 rg:∀ x∈todo,0≤x∧x<(l.length:Int)
 er:∀ x∈els ws,0≤x∧x<(l.length:Int)
 sd:∀ x∈els ws,InLoop l a h x
 st:∀ x∈todo,x≠h→Rch (Tg l) (fun y=>y=h) x a
 hh:h∈els ws
 ha:Rch (Tg l) noN 0 a→a∈els ws∨a∈todo
 cl:∀ y z,z∈Tg l y→z≠h→z∈els ws→Rch (Tg l) noN 0 y→y∈els ws∨y∈todo
theorem LInv.drop {l:List S60} {a h n:Int} {t ws:List Int} (I:LInv l a h (t++[n]) ws) (hn:n∈els ws∨¬ Rch (Tg l) noN 0 n):LInv l a h t ws:=by
 have key:∀ y,Rch (Tg l) noN 0 y→(y∈els ws∨y∈t++[n])→y∈els ws∨y∈t:=by
  intro y hy h'
  rcases h' with h'|h'
  ·exact .inl h'
  ·rcases List.mem_append.1 h' with h'|h'
   ·exact .inr h'
   ·rw [List.mem_singleton] at h'
    subst h'
    exact .inl (hn.resolve_right (fun e=>e hy))
 exact ⟨I.gs,fun x hx=>I.rg x (List.mem_append_left _ hx),I.er,I.sd,fun x hx=>I.st x (List.mem_append_left _ hx),I.hh,fun hr=>key a hr (I.ha hr),fun y z h1 h2 h3 h4=>key y h4 (I.cl y z h1 h2 h3 h4)⟩
theorem Pred_getD {l:List S60} {n:Nat} (hn:n<l.length):qfa (Pred l) (n:Int)=qfe 0 (Succ l) (n:Int):=by
 unfold qfa Pred
 rw [Int.toNat_natCast,List.getD_eq_getElem?_getD,List.getElem?_map,List.getElem?_range hn]
 rfl
theorem pred_mem {l:List S60} {n:Nat} {x:Int}:x∈qfe 0 (Succ l) (n:Int)↔(0≤x∧x<(l.length:Int))∧(n:Int)∈Tg l x:=by
 rw [predsF_mem]
 constructor
 ·rintro ⟨j,h1,h2,h3⟩
  rw [qei] at h1
  rw [Succ_getD h1] at h3
  rw [Nat.zero_add] at h2
  subst h2
  exact ⟨by omega,Sc_mem.1 h3⟩
 ·rintro ⟨h1,h2⟩
  obtain ⟨j,rfl⟩:=Int.eq_ofNat_of_zero_le h1.1
  exact ⟨j,by rw [qei];omega,by rw [Nat.zero_add],by rw [Succ_getD (by omega)];exact Sc_mem.2 h2⟩
theorem Rch.cons {T:Int→List Int} {av:Int→Prop} {x y a:Int} (h:y∈T x) (hx:¬ av x) (hr:Rch T av y a):Rch T av x a:=(Rch.step (.refl hx) h hr.first).trans hr
theorem LInv.add {l:List S60} {a h:Int} {n:Nat} {t ws ws':List Int} (hN:l.length≤14) (I:LInv l a h (t++[(n:Int)]) ws) (hr:Rch (Tg l) noN 0 (n:Int)) (hn:(n:Int)∉els ws) (hg:GS ws') (hw:∀ x,tb ws' x=(tb ws x||decide (x=n))):LInv l a h (t++qfe 0 (Succ l) (n:Int)) ws':=by
 have hm:∀ x:Int,x∈els ws'↔x∈els ws∨x=(n:Int):=by
  intro x
  constructor
  ·intro hx
   obtain ⟨z,rfl,hz⟩:=qes hx
   rw [hw,Bool.or_eq_true,decide_eq_true_eq] at hz
   exact hz.imp (fun h=>qdv.2 h) (fun h=>by omega)
  ·rintro (hx|rfl)
   ·obtain ⟨z,rfl,hz⟩:=qes hx
    rw [qdv,hw,hz];rfl
   ·rw [qdv,hw];simp
 have hnr:=I.rg (n:Int) (by simp)
 have hne:(n:Int)≠h:=fun e=>hn (by rw [e];exact I.hh)
 have hna:=I.st (n:Int) (by simp) hne
 have key:∀ y,(y∈els ws∨y∈t++[(n:Int)])→y∈els ws'∨y∈t++qfe 0 (Succ l) (n:Int):=by
  intro y h'
  rcases h' with h'|h'
  ·exact .inl ((hm y).2 (.inl h'))
  ·rcases List.mem_append.1 h' with h'|h'
   ·exact .inr (List.mem_append_left _ h')
   ·exact .inl ((hm y).2 (.inr (List.mem_singleton.1 h')))
 refine ⟨hg,fun x hx=>?_,fun x hx=>?_,fun x hx=>?_,fun x hx hxh=>?_,(hm h).2 (.inl I.hh),fun hra=>key a (I.ha hra),fun y z h1 h2 h3 h4=>?_⟩
 ·rcases List.mem_append.1 hx with hx|hx
  ·exact I.rg x (List.mem_append_left _ hx)
  ·exact (pred_mem.1 hx).1
 ·rcases (hm x).1 hx with hx|rfl
  ·exact I.er x hx
  ·exact hnr
 ·rcases (hm x).1 hx with hx|rfl
  ·exact I.sd x hx
  ·exact .inr ⟨hr,hna⟩
 ·rcases List.mem_append.1 hx with hx|hx
  ·exact I.st x (List.mem_append_left _ hx) hxh
  ·exact Rch.cons (pred_mem.1 hx).2 hxh hna
 ·rcases (hm z).1 h3 with h3|rfl
  ·exact key y (I.cl y z h1 h2 h3 h4)
  ·refine .inr (List.mem_append_right _ (pred_mem.2 ⟨?_,h1⟩))
   exact h4.range (by have:=hr.first;have:=qee h1;exact ⟨by omega,by omega⟩)
theorem LInv.done {l:List S60} {a h:Int} {ws:List Int} (I:LInv l a h [] ws):IsLoop l a h (els ws):=by
 refine ⟨qfm ws,fun x=>⟨I.sd x,fun hx=>?_⟩⟩
 rcases hx with rfl|⟨h1,h2⟩
 ·exact I.hh
 ·refine Rch.back (P:=fun x=>Rch (Tg l) noN 0 x→x∈els ws) h2 (fun hr=>(I.ha hr).resolve_right (by simp)) (fun y z hz _ hzh hP hy=>?_) h1
  have hrz:Rch (Tg l) noN 0 z:=.step hy hz (fun e=>e)
  exact (I.cl y z hz hzh (hP hrz) hy).resolve_right (by simp)
theorem preds_len (l:List S60) (n:Int):(qfe 0 (Succ l) n).length≤l.length:=by
 have:=predsF_length 0 (Succ l) n
 rwa [qei] at this
theorem qhs {l:List S60} (hN:l.length≤14) {a h:Int} {rs:List Int} (hg:GS rs) (hrs:qhb l noN 0 (els rs)) (h0:0<l.length):∀ (m:Nat) (todo ws:List Int),todo.length+15*qfy (qdn l.length) (els ws)≤m→m≤1000→LInv l a h todo ws→
  ∃ r,Ev (fun k=>qbi.l0 k (Pred l) todo ws rs) r∧GS r∧IsLoop l a h (els r)
 | m,todo,ws,hm,hm2,I=>by
  rcases List.eq_nil_or_concat todo with rfl|⟨t,n,rfl⟩
  ·refine ⟨ws,Ev.next (Ev.const _) (fun k=>?_),I.gs,I.done⟩
   rw [qbi.l0,if_neg (by simp)]
  ·have htd:t.concat n=t++[n]:=List.concat_eq_append ..
   rw [htd] at hm I ⊢
   cases m with
   | zero=>simp at hm
   | succ m=>
    have hnr:=I.rg n (by simp)
    obtain ⟨i,rfl⟩:=Int.eq_ofNat_of_zero_le hnr.1
    have hi:i<l.length:=by omega
    have hlen:(t++[(i:Int)]).length=t.length+1:=by simp
    have c1:((t.length+1:Nat):Int)>0:=by omega
    have hlo:(-9223372036854775808:Int)≤((t.length+1:Nat):Int)-1:=by omega
    rw [hlen] at hm
    have hhi:((t.length+1:Nat):Int)-1<9223372036854775808:=by omega
    have ew:((t.length+1:Nat):Int)-1=(t.length:Int):=by omega
    have c2:(0≤(t.length:Int))=True:=eq_true (by omega)
    have c3:((t.length:Int)<((t.length+1:Nat):Int))=True:=eq_true (by omega)
    have c4:((t.length:Int)≤((t.length+1:Nat):Int))=True:=eq_true (by omega)
    have c1':=eq_true c1
    have e1:(t++[(i:Int)]).take t.length=t:=by simp
    have e2:rd (t++[(i:Int)]) (t.length:Int)=(i:Int):=by rw [qgo];simp
    have hw:wrap64 (((t.length+1:Nat):Int)-1)=(t.length:Int):=(qfh hlo hhi).trans ew
    have f1:qcc.f ws (i:Int)=some (tb ws i):=by rw [Has_f I.gs.wd,decide_eq_true (by omega),Bool.true_and,Int.toNat_natCast]
    have f2:qcc.f rs (i:Int)=some (tb rs i):=by rw [Has_f hg.wd,decide_eq_true (by omega),Bool.true_and,Int.toNat_natCast]
    have hreach:tb rs i=true↔Rch (Tg l) noN 0 (i:Int):=by rw [← qdv,hrs.2];exact ⟨fun h=>h.2,fun h=>⟨by omega,h⟩⟩
    cases ht:tb ws i with
    | true=>
     obtain ⟨r,h1,h2⟩:=qhs hN hg hrs h0 m t ws (by omega) (by omega) (I.drop (.inl (qdv.2 ht)))
     refine ⟨r,Ev.next h1 (fun k=>?_),h2⟩
     rw [qbi.l0]
     simp only [hlen,c1',hw,c2,c3,c4,if_true,Int.toNat_natCast,e1,e2,Option.bind_some,f1,ht]
    | false=>
     have hnot:(i:Int)∉els ws:=fun e=>by rw [qdv,ht] at e;cases e
     cases hr:tb rs i with
     | false=>
      obtain ⟨r,h1,h2⟩:=qhs hN hg hrs h0 m t ws (by omega) (by omega) (I.drop (.inr (fun e=>by rw [← hreach,hr] at e;cases e)))
      refine ⟨r,Ev.next h1 (fun k=>?_),h2⟩
      rw [qbi.l0]
      simp only [hlen,c1',hw,c2,c3,c4,if_true,Int.toNat_natCast,e1,e2,Option.bind_some,f1,ht,f2,hr,Bool.false_eq_true,if_false]
     | true=>
      obtain ⟨ws',h1,h2,h3⟩:=With_ev I.gs i (by omega)
      have hpl:=preds_len l (i:Int)
      have hIn:(i:Int)∈els ws':=by rw [qdv,h3];simp
      have hleft:qfy (qdn l.length) (els ws')<qfy (qdn l.length) (els ws):=by
       refine Nat.lt_of_le_of_lt (leftIn_le (s:=els ws++[(i:Int)]) (fun x hx=>?_)) (leftIn_lt (qeh.2 hnr) hnot)
       rcases List.mem_append.1 hx with hx|hx
       ·obtain ⟨z,rfl,hz⟩:=qes hx
        rw [qdv,h3,hz];rfl
       ·rw [List.mem_singleton.1 hx];exact hIn
      obtain ⟨r,h4,h5⟩:=qhs hN hg hrs h0 m (t++qfe 0 (Succ l) (i:Int)) ws' (by rw [List.length_append];omega) (by omega) (I.add hN (hreach.1 hr) hnot h2 h3)
      have c5:(0≤(i:Int)):=by omega
      have c6:((i:Int)<((Pred l).length:Int)):=by simp [Pred];omega
      have c7:t.length+(qfa (Pred l) (i:Int)).length<17592186044416:=by rw [Pred_getD hi];omega
      refine ⟨r,?_,h5⟩
      refine Ev.succ ?_
      simp only [qbi.l0,hlen,c1',hw,c2,c3,c4,if_true,Int.toNat_natCast,e1,e2,Option.bind_some,f1,ht,f2,hr,Bool.false_eq_true,if_false]
      refine Ev.bind h1 (Ev.ifp c5 (Ev.ifp c6 (Ev.ifp c7 ?_)))
      rw [Pred_getD hi]
      exact h4
theorem cloop_ev (a:Bool) (b:Int) {l:List S60} (hN:l.length≤14) (e0 e1:Int):∃ r,Ev (fun k=>qbi.f k a b l e0 e1) r∧GS r∧((⟨e0,e1⟩:S39)∈qht l→IsLoop l e0 e1 (els r))∧((⟨e0,e1⟩:S39)∉qht l→r=[]):=by
 by_cases h:(⟨e0,e1⟩:S39)∈qht l
 ·obtain ⟨⟨h1,h2⟩,h3,h4⟩:=backs_mem.1 h
  have he1:0≤e1∧e1<(l.length:Int):=qee h3
  have he0:0≤e0∧e0<(l.length:Int):=⟨h1,h2⟩
  obtain ⟨n,rfl⟩:=Int.eq_ofNat_of_zero_le he1.1
  have h0:0<l.length:=by omega
  obtain ⟨o,g1,g2,g3⟩:=Of_ev [(n:Int)] (by simp)
  obtain ⟨q,h5,h6,h7⟩:=cReach_ev a b hN 0
  have hels:∀ x,x∈els o↔x=(n:Int):=by
   intro x
   constructor
   ·intro hx
    obtain ⟨z,rfl,hz⟩:=qes hx
    have:=((g3 z).1 hz).1
    rwa [List.mem_singleton] at this
   ·rintro rfl
    rw [qdv,g3]
    exact ⟨by simp,by omega⟩
  have I:LInv l e0 (n:Int) [e0] o:=by
   refine ⟨g2,fun x hx=>by rw [List.mem_singleton.1 hx];exact he0,fun x hx=>by rw [(hels x).1 hx];exact he1,fun x hx=>.inl ((hels x).1 hx),fun x hx hne=>?_,(hels _).2 rfl,fun _=>.inr (by simp),fun y z _ h2 h3 _=>absurd ((hels z).1 h3) h2⟩
   rw [List.mem_singleton] at hx
   subst hx
   exact .refl hne
  have hleft:qfy (qdn l.length) (els o)≤l.length:=by
   unfold qfy
   refine Nat.le_trans (List.length_filter_le _ _) ?_
   simp [qdn]
  obtain ⟨r,g4,g5,g6⟩:=qhs hN h6 h7 h0 _ [e0] o (Nat.le_refl _) (by simp;omega) I
  refine ⟨r,?_,g5,fun _=>g6,fun h'=>absurd h h'⟩
  unfold qbi.f
  refine Ev.bind (cback_ev a b hN) (Ev.bind (contains_ev (backs_len hN) e0 (n:Int)) ?_)
  refine Ev.ifp (isE_any.2 h) ?_
  exact Ev.bind g1 (Ev.bind (cPred_ev a b hN) (Ev.bind h5 g4))
 ·refine ⟨[],?_,GS.nil,fun h'=>absurd h' h,fun _=>rfl⟩
  unfold qbi.f
  refine Ev.bind (cback_ev a b hN) (Ev.bind (contains_ev (backs_len hN) e0 e1) ?_)
  exact Ev.ifn (fun h'=>h (isE_any.1 h')) (Ev.const _)
end
end Go.Proofs.YtmfjmbcfaamebaaDoor.X
namespace Go.Proofs.YtmfjmbcfaamebaaDoor.X
open Go.RowKit Go.Proofs.YtmfjmbcfaamebaaDoorW.PrintWords Go.Proofs.YtmfjmbcfaamebaaDoorW.PrintLast Go.Proofs.YtmfjmbcfaamebaaDoorW.PrintMore
attribute [local go_sem] qbo qca
set_option linter.unusedVariables false
set_option linter.unusedSimpArgs false
def qch.l0:Nat→List (List Int)→List (List Int)→Int→Int→Option (Bool)
 | 0,_,_,_,_=>none
 | k+1,x0,x1,x12,x13=>if x13<x12 then (if 0≤x13 then (if x13<(x0.length:Int) then (if x13<(x1.length:Int) then ((qaj.f k (qfa x0 x13) (qfa x1 x13)).bind fun t387=>(if t387=true then (qch.l0 k x0 x1 x12 (wrap64 (x13+1))) else (some false))) else (none)) else (none)) else (none)) else (some true)
def qch.f (k:Nat) (l0:List (List Int)) (l1:List (List Int)):Option (Bool):=if (l0.length:Int)=(l1.length:Int) then (qch.l0 k l0 l1 (l0.length:Int) 0) else (some false)
theorem qch.mono_l:∀ k,(∀ y0 y1 y2 y3,LeO (qch.l0 k y0 y1 y2 y3) (qch.l0 (k+1) y0 y1 y2 y3))
 | 0=>fun _ _ _ _ r h=>by simp [qch.l0] at h
 | k+1=>by
  have ih0:=qch.mono_l k
  ·intro y0 y1 y2 y3
   unfold qch.l0
   repeat' first
   | (with_reducible exact ih0 _ _ _ _)
   | (with_reducible exact qaj.mono _ _ _)
   | (with_reducible exact LeO.refl _)
   | (with_reducible exact LeO.none _)
   | (with_reducible refine LeO.ite ?_ ?_)
   | (with_reducible refine LeO.bind ?_ (fun _=>?_))
   | exact ih0 _ _ _ _
   | exact qaj.mono _ _ _
   | exact LeO.none _
   | refine LeO.ite ?_ ?_
   | refine LeO.bind ?_ (fun _=>?_)
theorem qch.mono:∀ a0 a1 k,LeO (qch.f k a0 a1) (qch.f (k+1) a0 a1):=by
 intro a0 a1 k
 have ih0:=qch.mono_l k
 unfold qch.f
 repeat' first
   | (with_reducible exact ih0 _ _ _ _)
   | (with_reducible exact qaj.mono _ _ _)
   | (with_reducible exact LeO.refl _)
   | (with_reducible exact LeO.none _)
   | (with_reducible refine LeO.ite ?_ ?_)
   | (with_reducible refine LeO.bind ?_ (fun _=>?_))
   | exact ih0 _ _ _ _
   | exact qaj.mono _ _ _
   | exact LeO.none _
   | refine LeO.ite ?_ ?_
   | refine LeO.bind ?_ (fun _=>?_)
end Go.Proofs.YtmfjmbcfaamebaaDoor.X
namespace Go.Proofs.YtmfjmbcfaamebaaDoor.X
open Go.RowKit Go.Proofs.YtmfjmbcfaamebaaDoorW.PrintWords Go.Proofs.YtmfjmbcfaamebaaDoorW.PrintLast Go.Proofs.YtmfjmbcfaamebaaDoorW.PrintMore
attribute [local go_sem] qbo qca
set_option linter.unusedVariables false
set_option linter.unusedSimpArgs false
def qbh.l0:Nat→List Int→List Int→Int→Int→Option (List Int)
 | 0,_,_,_,_=>none
 | k+1,x3,x5,x17,x18=>if x18<x17 then (if 0≤(wrap64 ((wrap64 ((x3.length:Int)-1))-x18)) then (if (wrap64 ((wrap64 ((x3.length:Int)-1))-x18))<(x3.length:Int) then (if x5.length<17592186044416 then (qbh.l0 k x3 (x5++[rd x3 (wrap64 ((wrap64 ((x3.length:Int)-1))-x18))]) x17 (wrap64 (x18+1))) else (none)) else (none)) else (none)) else (some x5)
def qbh.f (k:Nat) (a0_0:Bool) (a0_1:Int) (l0_2:List (S60)):Option (List Int):=if (l0_2.length:Int)=0 then (some ([]:List Int)) else ((qaz.f k a0_0 a0_1 l0_2 0 ([]:List Int)).bind fun bt444=>(qbh.l0 k bt444.1 ([]:List Int) (bt444.1.length:Int) 0))
theorem qbh.mono_l:∀ k,(∀ y0 y1 y2 y3,LeO (qbh.l0 k y0 y1 y2 y3) (qbh.l0 (k+1) y0 y1 y2 y3))
 | 0=>fun _ _ _ _ r h=>by simp [qbh.l0] at h
 | k+1=>by
  have ih0:=qbh.mono_l k
  ·intro y0 y1 y2 y3
   unfold qbh.l0
   repeat' first|(with_reducible exact ih0 _ _ _ _)|(with_reducible exact LeO.refl _)|(with_reducible refine LeO.ite ?_ ?_)
theorem qbh.mono:∀ a0 a1 a2 k,LeO (qbh.f k a0 a1 a2) (qbh.f (k+1) a0 a1 a2):=by
 intro a0 a1 a2 k
 have ih0:=qbh.mono_l k
 unfold qbh.f
 repeat' first|(with_reducible exact ih0 _ _ _ _)|(with_reducible exact qaz.mono _ _ _ _ _ _)|(with_reducible exact LeO.refl _)|(with_reducible refine LeO.ite ?_ ?_)|(with_reducible refine LeO.bind ?_ (fun _=>?_))
end Go.Proofs.YtmfjmbcfaamebaaDoor.X
namespace Go.Proofs.YtmfjmbcfaamebaaDoor.X
noncomputable section
open Go.RowKit Go.Proofs.YtmfjmbcfaamebaaDoorW.PrintWords Go.Proofs.YtmfjmbcfaamebaaDoorW.PrintLast Go.Proofs.YtmfjmbcfaamebaaDoorW.PrintMore
attribute [local go_sem] qbo qca
set_option linter.unusedVariables false
set_option linter.unusedSimpArgs false
def qea.f (k:Nat) (a0_0:Bool) (a0_1:Int) (l0_2:List (S60)):Option (Bool):=(qbd.f k).bind fun t400=>(if t400=true then ((qaq.f k a0_0 a0_1 l0_2).bind fun t401=>(if t401=true then ((qbe.f k a0_0 a0_1 l0_2).bind fun t402=>((qbb.f k a0_0 a0_1 l0_2).bind fun t405=>((qch.f k t402 t405).bind fun t408=>(if t408=true then ((qcb.f k a0_0 a0_1 l0_2).bind fun t409=>((qav.f k a0_0 a0_1 l0_2).bind fun t412=>((qch.f k t409 t412).bind fun t415=>(some t415)))) else (some false))))) else (some true))) else (some false))
theorem qea.mono:∀ a0 a1 a2 k,LeO (qea.f k a0 a1 a2) (qea.f (k+1) a0 a1 a2):=by
 intro a0 a1 a2 k
 unfold qea.f
 repeat' first|(with_reducible exact qcb.mono _ _ _ _)|(with_reducible exact qbe.mono _ _ _ _)|(with_reducible exact qbd.mono _)|(with_reducible exact qch.mono _ _ _)|(with_reducible exact qav.mono _ _ _ _)|(with_reducible exact qaq.mono _ _ _ _)|(with_reducible exact qbb.mono _ _ _ _)|(with_reducible exact LeO.refl _)|(with_reducible refine LeO.ite ?_ ?_)|(with_reducible refine LeO.bind ?_ (fun _=>?_))
end
end Go.Proofs.YtmfjmbcfaamebaaDoor.X
namespace Go.Proofs.YtmfjmbcfaamebaaDoor.X
noncomputable section
open Go.RowKit Go.Proofs.YtmfjmbcfaamebaaDoorW.PrintWords Go.Proofs.YtmfjmbcfaamebaaDoorW.PrintLast Go.Proofs.YtmfjmbcfaamebaaDoorW.PrintMore
attribute [local go_sem] qbo qca
set_option linter.unusedVariables false
set_option linter.unusedSimpArgs false
def qdz.f (k:Nat) (a0_0:Bool) (a0_1:Int) (l0_2:List (S60)):Option (Bool):=(qbd.f k).bind fun t455=>(if t455=true then ((qaq.f k a0_0 a0_1 l0_2).bind fun t456=>(if t456=true then ((qcs.f k a0_0 a0_1 l0_2).bind fun t457=>((qbh.f k a0_0 a0_1 l0_2).bind fun t460=>((qaj.f k t457 t460).bind fun t463=>(some t463)))) else (some true))) else (some false))
theorem qdz.mono:∀ a0 a1 a2 k,LeO (qdz.f k a0 a1 a2) (qdz.f (k+1) a0 a1 a2):=by
 intro a0 a1 a2 k
 unfold qdz.f
 repeat' first|(with_reducible exact qcs.mono _ _ _ _)|(with_reducible exact qbd.mono _)|(with_reducible exact qaj.mono _ _ _)|(with_reducible exact qbh.mono _ _ _ _)|(with_reducible exact qaq.mono _ _ _ _)|(with_reducible exact LeO.refl _)|(with_reducible refine LeO.ite ?_ ?_)|(with_reducible refine LeO.bind ?_ (fun _=>?_))
end
end Go.Proofs.YtmfjmbcfaamebaaDoor.X
namespace Go.Proofs.YtmfjmbcfaamebaaDoor.X
open Go.RowKit Go.Proofs.YtmfjmbcfaamebaaDoorW.PrintWords Go.Proofs.YtmfjmbcfaamebaaDoorW.PrintLast Go.Proofs.YtmfjmbcfaamebaaDoorW.PrintMore
theorem getD_set (x:List Int) (i p:Nat) (v:Int) (hi:i<x.length):(x.set i v).getD p 0=if p=i then v else x.getD p 0:=by
 by_cases e:p=i
 ·subst e;rw [if_pos rfl,List.getD_eq_getElem?_getD,List.getElem?_set_self hi];rfl
 ·rw [if_neg e,List.getD_eq_getElem?_getD,List.getElem?_set_ne (fun h=>e h.symm),← List.getD_eq_getElem?_getD]
theorem rev_from (n:Nat) (hn:n<100000):∀ (m i:Nat) (x:List Int),n-2*i≤m→x.length=n→
  ∃ r,Ev (fun k=>qao.l0 k x (i:Int) ((n:Int)-1-(i:Int))) r∧r.length=n∧∀ p,p<n→r.getD p 0=if i≤p∧p+i+1≤n then x.getD (n-1-p) 0 else x.getD p 0:=by
 intro m
 induction m with
 | zero=>
  intro i x hm hl
  refine ⟨x,Ev.next (Ev.const x) (fun k=>?_),hl,fun p hp=>?_⟩
  ·rw [qao.l0,if_neg (by omega)]
  ·by_cases h:i≤p∧p+i+1≤n
   ·omega
   ·rw [if_neg h]
 | succ m ih=>
  intro i x hm hl
  by_cases hij:2*i+1<n
  ·have hi:i<x.length:=by omega
   have hj:n-1-i<x.length:=by omega
   obtain ⟨r,h1,h2,h3⟩:=ih (i+1) ((x.set i (x.getD (n-1-i) 0)).set (n-1-i) (x.getD i 0)) (by omega) (by simp [hl])
   refine ⟨r,Ev.next h1 (fun k=>?_),h2,fun p hp=>?_⟩
   ·have e1:((n:Int)-1-(i:Int))=((n-1-i:Nat):Int):=by omega
    have e2:((n:Int)-1-((i+1:Nat):Int))=((n-1-i:Nat):Int)-1:=by omega
    have c1:((i:Int)<((n-1-i:Nat):Int))=True:=eq_true (by omega)
    have c2:(0≤((n-1-i:Nat):Int))=True:=eq_true (by omega)
    have c3:(((n-1-i:Nat):Int)<(x.length:Int))=True:=eq_true (by omega)
    have c4:(0≤(i:Int))=True:=eq_true (by omega)
    have c5:((i:Int)<(x.length:Int))=True:=eq_true (by omega)
    have hw:=qcw (show i<9223372036854775807 by omega)
    have hb1:(-9223372036854775808:Int)≤((n-1-i:Nat):Int)-1:=by omega
    have hb2:((n-1-i:Nat):Int)-1<9223372036854775808:=by omega
    have hw2:=qfh hb1 hb2
    rw [qao.l0]
    simp only [e1,e2,c1,c2,c3,c4,c5,if_true,hw,hw2,qgo,Int.toNat_natCast]
   ·rw [h3 p hp]
    have hj':n-1-i<(x.set i (x.getD (n-1-i) 0)).length:=by simpa using hj
    by_cases h:i+1≤p∧p+(i+1)+1≤n
    ·rw [if_pos h,if_pos (by omega),getD_set _ _ _ _ hj',if_neg (by omega),getD_set _ _ _ _ hi,if_neg (by omega)]
    ·rw [if_neg h,getD_set _ _ _ _ hj']
     by_cases e:p=n-1-i
     ·rw [if_pos e,if_pos (by omega),show n-1-p=i by omega]
     ·rw [if_neg e,getD_set _ _ _ _ hi]
      by_cases e2:p=i
      ·rw [if_pos e2,if_pos (by omega),e2]
      ·rw [if_neg e2,if_neg (by omega)]
  ·refine ⟨x,Ev.next (Ev.const x) (fun k=>?_),hl,fun p hp=>?_⟩
   ·rw [qao.l0,if_neg (by omega)]
   ·by_cases h:i≤p∧p+i+1≤n
    ·rw [if_pos h,show n-1-p=p by omega]
    ·rw [if_neg h]
theorem ext_getD {a b:List Int} (hl:a.length=b.length) (h:∀ p,p<a.length→a.getD p 0=b.getD p 0):a=b:=by
 refine List.ext_getElem hl (fun p h1 h2=>?_)
 have:=h p h1
 rwa [List.getD_eq_getElem?_getD,List.getD_eq_getElem?_getD,List.getElem?_eq_getElem h1,List.getElem?_eq_getElem h2] at this
theorem getD_reverse {l:List Int} {p:Nat} (hp:p<l.length):l.reverse.getD p 0=l.getD (l.length-1-p) 0:=by
 rw [List.getD_eq_getElem?_getD,List.getD_eq_getElem?_getD,List.getElem?_reverse hp]
theorem rev_ev (l:List Int) (hl:l.length<100000):Ev (fun k=>qao.f k l) l.reverse:=by
 obtain ⟨r,h1,h2,h3⟩:=rev_from l.length hl l.length 0 l (by omega) rfl
 have e:r=l.reverse:=by
  refine ext_getD (by simp [h2]) (fun p hp=>?_)
  rw [h2] at hp
  rw [h3 p hp,if_pos (by omega),getD_reverse hp]
 subst e
 refine h1.congr (fun k=>?_)
 have hb:wrap64 ((l.length:Int)-1)=(l.length:Int)-1:=qfh (by omega) (by omega)
 rw [qao.f,hb,show ((l.length:Int)-1-((0:Nat):Int))=(l.length:Int)-1 by omega]
 rfl
theorem rord_from (x:List Int) (hl:x.length<100000):∀ (m i:Nat),i+m=x.length→Ev (fun k=>qbh.l0 k x (x.reverse.take i) (x.length:Int) (i:Int)) x.reverse
 | 0,i,hi=>by
  rw [List.take_of_length_le (by simp;omega)]
  refine Ev.next (Ev.const _) (fun k=>?_)
  rw [qbh.l0,if_neg (by omega)]
 | m+1,i,hi=>by
  have h:=rord_from x hl m (i+1) (by omega)
  have hir:i<x.reverse.length:=by simp;omega
  rw [List.take_succ_eq_append_getElem hir] at h
  refine Ev.next h (fun k=>?_)
  have c1:((i:Int)<(x.length:Int))=True:=eq_true (by omega)
  have c2:(0≤((x.length-1-i:Nat):Int))=True:=eq_true (by omega)
  have c3:(((x.length-1-i:Nat):Int)<(x.length:Int))=True:=eq_true (by omega)
  have c4:((x.reverse.take i).length<17592186044416)=True:=eq_true (by rw [List.length_take];omega)
  have e1:((x.length:Int)-1-(i:Int))=((x.length-1-i:Nat):Int):=by omega
  have hb1:(-9223372036854775808:Int)≤(x.length:Int)-1:=by omega
  have hb2:(x.length:Int)-1<9223372036854775808:=by omega
  have hb3:(-9223372036854775808:Int)≤(x.length:Int)-1-(i:Int):=by omega
  have hb4:(x.length:Int)-1-(i:Int)<9223372036854775808:=by omega
  have hwi:i<9223372036854775807:=by omega
  have hix:i<x.length:=by omega
  have e2:rd x ((x.length-1-i:Nat):Int)=x.reverse[i]:=by
   rw [qgo,← getD_reverse hix,List.getD_eq_getElem?_getD,List.getElem?_eq_getElem hir];rfl
  have hw:=qcw hwi
  have hw1:=qfh hb1 hb2
  have hw2:=qfh hb3 hb4
  rw [e1] at hw2
  rw [qbh.l0]
  simp only [c1,c2,c3,c4,if_true,hw,hw1,hw2,e1,e2]
theorem Order_ev (a:Bool) (b:Int) {l:List S60} (hN:l.length≤14):∃ p s',(l=[]∧p=[]∨l≠[]∧Dfs (Tg l) [] [0] p s')∧p.length≤l.length∧Ev (fun k=>qcs.f k a b l) p.reverse∧Ev (fun k=>qbh.f k a b l) p.reverse:=by
 by_cases hl:l=[]
 ·subst hl
  refine ⟨[],[],.inl ⟨rfl,rfl⟩,by simp,(Ev.const []).congr (fun k=>?_),(Ev.const []).congr (fun k=>?_)⟩
  ·rw [qcs.f,if_pos (by rfl)]
  ·rw [qbh.f,if_pos (by rfl)]
 ·have hpos:0<l.length:=List.length_pos_iff.2 hl
  obtain ⟨p,s',h1,h2⟩:=dfs_exists l [] [0] (fun t ht=>by rw [List.mem_singleton.1 ht];omega)
  refine ⟨p,s',.inr ⟨hl,h1⟩,h2,?_,?_⟩
  ·have hm:Mk l.length (List.replicate l.length false) []:=by
    refine ⟨by simp,fun x hx=>?_⟩
    rw [List.getD_eq_getElem?_getD,List.getElem?_replicate,if_pos hx]
    simp
   obtain ⟨bs',h3,_⟩:=cpost_ev a b l (x:=0) h1 hpos hm [] (by simp;omega)
   have h4:=rev_ev p (by omega)
   refine (Ev.bind h3 (g:=fun k bt=>(qao.f k bt.1).bind fun t=>some t) (Ev.bind h4 (Ev.const _))).congr (fun k=>?_)
   rw [qcs.f,if_neg (by omega),if_pos (by omega),if_pos (by omega),Int.toNat_natCast]
   rfl
  ·have h3:=rvisit_ev a b l h1 (by omega) (by omega) (by simp;omega)
   have h4:=rord_from p (by omega) p.length 0 (by omega)
   refine (Ev.bind h3 (g:=fun k bt=>qbh.l0 k bt.1 [] (bt.1.length:Int) 0) h4).congr (fun k=>?_)
   rw [qbh.f,if_neg (by omega)]
end Go.Proofs.YtmfjmbcfaamebaaDoor.X
namespace Go.Proofs.YtmfjmbcfaamebaaDoor.X
noncomputable section
open Go.RowKit Go.Proofs.YtmfjmbcfaamebaaDoorW.PrintWords Go.Proofs.YtmfjmbcfaamebaaDoorW.PrintLast Go.Proofs.YtmfjmbcfaamebaaDoorW.PrintMore
theorem small_from (a:Bool) (b:Int) (l:List S60) (hl:l.length≤9223372036854775807):∀ (m i:Nat) (x:Int),i+m=l.length→∃ r,Ev (fun k=>qaq.l0 k x l (l.length:Int) (i:Int) a b l) r∧(r=true→l.length≤14)
 | 0,i,x,hi=>by
  by_cases h:l.length≤14
  ·refine ⟨decide (x≤80),Ev.next (Ev.const _) (fun k=>?_),fun _=>h⟩
   rw [qaq.l0,if_neg (by omega),if_pos (by omega)]
  ·refine ⟨false,Ev.next (Ev.const _) (fun k=>?_),fun e=>by cases e⟩
   rw [qaq.l0,if_neg (by omega),if_neg (by omega)]
 | m+1,i,x,hi=>by
  obtain ⟨r,h1,h2⟩:=small_from a b l hl m (i+1) (wrap64 (x+(((qbk l (i:Int)).f0).length:Int))) (by omega)
  refine ⟨r,Ev.next h1 (fun k=>?_),h2⟩
  rw [qaq.l0,if_pos (by omega),if_pos (by omega),if_pos (by omega),qcw (show i<9223372036854775807 by omega)]
theorem small_ev (a:Bool) (b:Int) (l:List S60) (hl:l.length≤9223372036854775807):∃ r,Ev (fun k=>qaq.f k a b l) r∧(r=true→l.length≤14):=small_from a b l hl l.length 0 0 (by omega)
def ex3:List S60:=[(⟨([]:List (S85)),2,0,1,2⟩:S60),(⟨([]:List (S85)),1,0,0,0⟩:S60),(⟨([]:List (S85)),3,0,0,0⟩:S60)]
theorem qhz:ex3.length≤14:=by decide
theorem ex3_back:qcm.f 40 false 0 ex3=some [⟨1,0⟩]:=by kernel_rfl
theorem ex3_order:qbh.f 40 false 0 ex3=some [0,2,1]:=by kernel_rfl
theorem ex3_imm:qcp.f 40 false 0 ex3=some [-1,0,0]:=by kernel_rfl
theorem ex3_loop:qat.f 40 false 0 ex3 1 0=some [0,1]:=by kernel_rfl
theorem backs_ex3:qht ex3=[⟨1,0⟩]:=((rback_ev false 0 qhz).det (qcm.mono _ _ _) ex3_back).symm
theorem awake_ev:Ev (fun k=>qbd.f k) true:=by
 obtain ⟨p,_,_,_,h1,h2⟩:=Order_ev false 0 qhz
 have e1:[0,2,1]=p.reverse:=h2.det (qbh.mono _ _ _) ex3_order
 rw [← e1] at h1
 have e2:[-1,0,0]=idoms ex3:=(rimm_ev false 0 qhz).det (qcp.mono _ _ _) ex3_imm
 have h3:=cimm_f false 0 qhz
 rw [← e2] at h3
 have h4:=cback_ev false 0 qhz
 rw [backs_ex3] at h4
 have hin:(⟨1,0⟩:S39)∈qht ex3:=by rw [backs_ex3];simp
 obtain ⟨r,h5,h6,h7,_⟩:=cloop_ev false 0 qhz 1 0
 obtain ⟨r',h8,h9,_⟩:=rloop_ev false 0 qhz 1 0
 have e3:[0,1]=r':=h8.det (qat.mono _ _ _ _ _) ex3_loop
 have e4:els r=[0,1]:=by rw [e3];exact (h7 hin).uniq (h9 hin)
 have h10:qbf.f r=some (strT r):=by
  unfold qbf.f
  rw [e4,if_pos]
  exact ⟨h6.ok,by decide,by decide,by decide,by decide +kernel⟩
 have h11:((strT r).toList==([123,48,32,49,125]:List UInt8))=true:=by
  unfold strT
  rw [e4]
  kernel_rfl
 have q1:=Equal_ev [0,2,1] [0,2,1] (by decide)
 have q2:=Equal_ev [-1,0,0] [-1,0,0] (by decide)
 simp only [qbd.f,Option.bind_some]
 refine Ev.bind h4 (Ev.bind h1 (Ev.bind q1 (Ev.ifp (decide_eq_true rfl) ?_)))
 refine Ev.bind (Ev.fix h3) (Ev.bind q2 (Ev.ifp (decide_eq_true rfl) (Ev.ifp (by decide) (Ev.ifp (by decide) (Ev.ifp (by kernel_rfl) ?_)))))
 refine Ev.bind h5 ?_
 refine Ev.bind (Ev.fix h10) ?_
 rw [h11]
 exact Ev.const _
theorem law_ev {f:Nat→Option Bool} (a:Bool) (b:Int) (l:List S60) (hl:l.length≤9223372036854775807) {g:Nat→Option Bool}
  (hf:∀ k,f k=(qbd.f k).bind fun t=>if t=true then (qaq.f k a b l).bind fun t=>if t=true then g k else some true else some false) (hg:l.length≤14→Ev g true):Ev f true:=by
 obtain ⟨r,h1,h2⟩:=small_ev a b l hl
 refine Ev.congr ?_ hf
 refine Ev.bind awake_ev (Ev.ifp rfl (Ev.bind h1 ?_))
 cases r with
 | false=>exact Ev.ifn (by decide) (Ev.const _)
 | true=>exact Ev.ifp rfl (hg (h2 rfl))
end
end Go.Proofs.YtmfjmbcfaamebaaDoor.X
namespace Go.Proofs.YtmfjmbcfaamebaaDoor.X
noncomputable section
open Go.RowKit Go.Proofs.YtmfjmbcfaamebaaDoorW.PrintWords Go.Proofs.YtmfjmbcfaamebaaDoorW.PrintLast Go.Proofs.YtmfjmbcfaamebaaDoorW.PrintMore
attribute [local go_sem] qbo qca
set_option linter.unusedVariables false
set_option linter.unusedSimpArgs false
def qbs.l0:Nat→List (S38)→List (List Int)→Int→Int→Bool→Int→List (S60)→Option (Bool)
 | 0,_,_,_,_,_,_,_=>none
 | k+1,x3,x4,x21,x22,x465000,x465001,x465002=>if x22<x21 then (if 0≤x22 then (if x22<(x3.length:Int) then ((qeg.f ((qcq x3 x22).f0)).bind fun t481=>(if x22<(x4.length:Int) then ((qaj.f k t481 (qfa x4 x22)).bind fun t485=>(if t485=true then (qbs.l0 k x3 x4 x21 (wrap64 (x22+1)) x465000 x465001 x465002) else (some false))) else (none))) else (none)) else (none)) else ((qba.f x465000 x465001 x465002).bind fun t473=>((qcp.f k x465000 x465001 x465002).bind fun t476=>((qaj.f k t473 t476).bind fun t479=>(some t479))))
def qbs.f (k:Nat) (a0_0:Bool) (a0_1:Int) (l0_2:List (S60)):Option (Bool):=(qbd.f k).bind fun t465=>(if t465=true then ((qaq.f k a0_0 a0_1 l0_2).bind fun t466=>(if t466=true then ((qbn.f a0_0 a0_1 l0_2).bind fun t467=>((qap.f k a0_0 a0_1 l0_2).bind fun t470=>(if (t467.length:Int)=(t470.length:Int) then (qbs.l0 k t467 t470 (t470.length:Int) 0 a0_0 a0_1 l0_2) else (some false)))) else (some true))) else (some false))
theorem qbs.mono_l:∀ k,(∀ y0 y1 y2 y3 y4 y5 y6,LeO (qbs.l0 k y0 y1 y2 y3 y4 y5 y6) (qbs.l0 (k+1) y0 y1 y2 y3 y4 y5 y6))
 | 0=>fun _ _ _ _ _ _ _ r h=>by simp [qbs.l0] at h
 | k+1=>by
  have ih0:=qbs.mono_l k
  ·intro y0 y1 y2 y3 y4 y5 y6
   unfold qbs.l0
   repeat' first|(with_reducible exact ih0 _ _ _ _ _ _ _)|(with_reducible exact qaj.mono _ _ _)|(with_reducible exact qcp.mono _ _ _ _)|(with_reducible exact LeO.refl _)|(with_reducible refine LeO.ite ?_ ?_)|(with_reducible refine LeO.bind ?_ (fun _=>?_))
theorem qbs.mono:∀ a0 a1 a2 k,LeO (qbs.f k a0 a1 a2) (qbs.f (k+1) a0 a1 a2):=by
 intro a0 a1 a2 k
 have ih0:=qbs.mono_l k
 unfold qbs.f
 repeat' first|(with_reducible exact ih0 _ _ _ _ _ _ _)|(with_reducible exact qbd.mono _)|(with_reducible exact qap.mono _ _ _ _)|(with_reducible exact qaq.mono _ _ _ _)|(with_reducible exact LeO.refl _)|(with_reducible refine LeO.ite ?_ ?_)|(with_reducible refine LeO.bind ?_ (fun _=>?_))
end
end Go.Proofs.YtmfjmbcfaamebaaDoor.X
namespace Go.Proofs.YtmfjmbcfaamebaaDoor.X
noncomputable section
open Go.RowKit Go.Proofs.YtmfjmbcfaamebaaDoorW.PrintWords Go.Proofs.YtmfjmbcfaamebaaDoorW.PrintLast Go.Proofs.YtmfjmbcfaamebaaDoorW.PrintMore
attribute [local go_sem] qbo qca
set_option linter.unusedVariables false
set_option linter.unusedSimpArgs false
attribute [local go_sem high] eqA39
def qcg.l0:Nat→List (S39)→List (S39)→Int→Int→Bool→Int→List (S60)→Int→Int→Option (Bool)
 | 0,_,_,_,_,_,_,_,_,_=>none
 | k+1,x5,x23,x24,x25,x514000,x514001,x514002,x515000,x515001=>if x25<x24 then (if 0≤x25 then (if x25<(x23.length:Int) then (if x25<(x5.length:Int) then (if (!(((qck x5 x25).f0)==((qck x23 x25).f0))||(!(((qck x5 x25).f1)==((qck x23 x25).f1))))=true then (some false) else ((qbi.f k x514000 x514001 x514002 ((qck x23 x25).f0) ((qck x23 x25).f1)).bind fun t526=>((qeg.f t526).bind fun t529=>((qat.f k x514000 x514001 x514002 ((qck x23 x25).f0) ((qck x23 x25).f1)).bind fun t532=>((qaj.f k t529 t532).bind fun t535=>(if t535=true then (qcg.l0 k x5 x23 x24 (wrap64 (x25+1)) x514000 x514001 x514002 x515000 x515001) else (some false))))))) else (none)) else (none)) else (none)) else ((qbi.f k x514000 x514001 x514002 x515000 x515001).bind fun t536=>((qeg.f t536).bind fun t539=>((qat.f k x514000 x514001 x514002 x515000 x515001).bind fun t542=>((qaj.f k t539 t542).bind fun t545=>(some t545)))))
def qcg.f (k:Nat) (a0_0:Bool) (a0_1:Int) (l0_2:List (S60)) (a1_0:Int) (a1_1:Int):Option (Bool):=(qbd.f k).bind fun t515=>(if t515=true then ((qaq.f k a0_0 a0_1 l0_2).bind fun t516=>(if t516=true then ((qce.f k a0_0 a0_1 l0_2).bind fun t517=>((qcm.f k a0_0 a0_1 l0_2).bind fun t520=>(if (t517.length:Int)=(t520.length:Int) then (qcg.l0 k t517 t520 (t520.length:Int) 0 a0_0 a0_1 l0_2 a1_0 a1_1) else (some false)))) else (some true))) else (some false))
theorem qcg.mono_l:∀ k,(∀ y0 y1 y2 y3 y4 y5 y6 y7 y8,LeO (qcg.l0 k y0 y1 y2 y3 y4 y5 y6 y7 y8) (qcg.l0 (k+1) y0 y1 y2 y3 y4 y5 y6 y7 y8))
 | 0=>fun _ _ _ _ _ _ _ _ _ r h=>by simp [qcg.l0] at h
 | k+1=>by
  have ih0:=qcg.mono_l k
  ·intro y0 y1 y2 y3 y4 y5 y6 y7 y8
   unfold qcg.l0
   repeat' first|(with_reducible exact ih0 _ _ _ _ _ _ _ _ _)|(with_reducible exact qbi.mono _ _ _ _ _ _)|(with_reducible exact qaj.mono _ _ _)|(with_reducible exact qat.mono _ _ _ _ _ _)|(with_reducible exact LeO.refl _)|(with_reducible refine LeO.ite ?_ ?_)|(with_reducible refine LeO.bind ?_ (fun _=>?_))
theorem qcg.mono:∀ a0 a1 a2 a3 a4 k,LeO (qcg.f k a0 a1 a2 a3 a4) (qcg.f (k+1) a0 a1 a2 a3 a4):=by
 intro a0 a1 a2 a3 a4 k
 have ih0:=qcg.mono_l k
 unfold qcg.f
 repeat' first|(with_reducible exact ih0 _ _ _ _ _ _ _ _ _)|(with_reducible exact qce.mono _ _ _ _)|(with_reducible exact qbd.mono _)|(with_reducible exact qcm.mono _ _ _ _)|(with_reducible exact qaq.mono _ _ _ _)|(with_reducible exact LeO.refl _)|(with_reducible refine LeO.ite ?_ ?_)|(with_reducible refine LeO.bind ?_ (fun _=>?_))
end
end Go.Proofs.YtmfjmbcfaamebaaDoor.X
namespace Go.Proofs.YtmfjmbcfaamebaaDoor.X
open Go.RowKit Go.Proofs.YtmfjmbcfaamebaaDoorW.PrintWords Go.Proofs.YtmfjmbcfaamebaaDoorW.PrintLast Go.Proofs.YtmfjmbcfaamebaaDoorW.PrintMore
attribute [local go_sem] qbo qca
set_option linter.unusedVariables false
set_option linter.unusedSimpArgs false
def qdi.f (k:Nat) (a0_0:Bool) (a0_1:Int) (l0_2:List (S60)) (a1:Int):Option (List Int):=(qam.f k a0_0 a0_1 l0_2 a1 ([]:List Int)).bind fun t569=>(some t569)
theorem qdi.mono:∀ a0 a1 a2 a3 k,LeO (qdi.f k a0 a1 a2 a3) (qdi.f (k+1) a0 a1 a2 a3):=by
 intro a0 a1 a2 a3 k
 unfold qdi.f
 repeat' first|(with_reducible exact qam.mono _ _ _ _ _ _)|(with_reducible exact LeO.refl _)|(with_reducible refine LeO.bind ?_ (fun _=>?_))
end Go.Proofs.YtmfjmbcfaamebaaDoor.X
namespace Go.Proofs.YtmfjmbcfaamebaaDoor.X
open Go.RowKit Go.Proofs.YtmfjmbcfaamebaaDoorW.PrintWords Go.Proofs.YtmfjmbcfaamebaaDoorW.PrintLast Go.Proofs.YtmfjmbcfaamebaaDoorW.PrintMore
attribute [local go_sem] qbo qca
set_option linter.unusedVariables false
set_option linter.unusedSimpArgs false
def qge.f (k:Nat) (a0_0:Bool) (a0_1:Int) (l0_2:List (S60)) (a1:Int) (a2:Int) (l3_0:List Int):Option (Bool):=(qcn.f k a0_0 a0_1 l0_2 a1 l3_0).bind fun t574=>((qcc.f t574 a2).bind fun t577=>(some t577))
theorem qge.mono:∀ a0 a1 a2 a3 a4 a5 k,LeO (qge.f k a0 a1 a2 a3 a4 a5) (qge.f (k+1) a0 a1 a2 a3 a4 a5):=by
 intro a0 a1 a2 a3 a4 a5 k
 unfold qge.f
 repeat' first|(with_reducible exact qcn.mono _ _ _ _ _ _)|(with_reducible exact LeO.refl _)|(with_reducible refine LeO.bind ?_ (fun _=>?_))
end Go.Proofs.YtmfjmbcfaamebaaDoor.X
namespace Go.Proofs.YtmfjmbcfaamebaaDoor.X
open Go.RowKit Go.Proofs.YtmfjmbcfaamebaaDoorW.PrintWords Go.Proofs.YtmfjmbcfaamebaaDoorW.PrintLast Go.Proofs.YtmfjmbcfaamebaaDoorW.PrintMore
attribute [local go_sem] qbo qca
set_option linter.unusedVariables false
set_option linter.unusedSimpArgs false
def qdq.f (k:Nat) (a0_0:Bool) (a0_1:Int) (l0_2:List (S60)) (a1:Int) (a2:Int) (l3:List Int):Option (Bool):=(qam.f k a0_0 a0_1 l0_2 a1 l3).bind fun t579=>((qay.f k t579 a2).bind fun t582=>(some t582))
theorem qdq.mono:∀ a0 a1 a2 a3 a4 a5 k,LeO (qdq.f k a0 a1 a2 a3 a4 a5) (qdq.f (k+1) a0 a1 a2 a3 a4 a5):=by
 intro a0 a1 a2 a3 a4 a5 k
 unfold qdq.f
 repeat' first|(with_reducible exact qay.mono _ _ _)|(with_reducible exact qam.mono _ _ _ _ _ _)|(with_reducible exact LeO.refl _)|(with_reducible refine LeO.bind ?_ (fun _=>?_))
end Go.Proofs.YtmfjmbcfaamebaaDoor.X
namespace Go.Proofs.YtmfjmbcfaamebaaDoor.X
noncomputable section
open Go.RowKit Go.Proofs.YtmfjmbcfaamebaaDoorW.PrintWords Go.Proofs.YtmfjmbcfaamebaaDoorW.PrintLast Go.Proofs.YtmfjmbcfaamebaaDoorW.PrintMore
attribute [local go_sem] qbo qca
set_option linter.unusedVariables false
set_option linter.unusedSimpArgs false
def qbj.j0:Nat→List Int→Bool→Bool→Int→List (S60)→Int→Int→Option (Bool)
 | 0,_,_,_,_,_,_,_=>none
 | k+1,x2,x16,x584000,x584001,x584002,x585000,x585001=>if x16=true then (some true) else ((qbr.f k x584000 x584001 x584002 x585000).bind fun t587=>((qeg.f t587).bind fun t590=>((qdi.f k x584000 x584001 x584002 x585000).bind fun t593=>((qaj.f k t590 t593).bind fun t596=>(if t596=true then ((qau.f k x2).bind fun t597=>((qge.f k x584000 x584001 x584002 x585000 x585001 t597).bind fun t600=>((qdq.f k x584000 x584001 x584002 x585000 x585001 x2).bind fun t601=>(some (t600==t601))))) else (some false))))))
def qbj.f (k:Nat) (a0_0:Bool) (a0_1:Int) (l0_2:List (S60)) (a1_0:Int) (a1_1:Int) (l2:List Int):Option (Bool):=(qbd.f k).bind fun t585=>(if t585=true then ((qaq.f k a0_0 a0_1 l0_2).bind fun t586=>(if t586=true then (qbj.j0 k l2 (decide ((l2.length:Int)>20)) a0_0 a0_1 l0_2 a1_0 a1_1) else (qbj.j0 k l2 true a0_0 a0_1 l0_2 a1_0 a1_1))) else (some false))
theorem qbj.mono_l:∀ k,(∀ y0 y1 y2 y3 y4 y5 y6,LeO (qbj.j0 k y0 y1 y2 y3 y4 y5 y6) (qbj.j0 (k+1) y0 y1 y2 y3 y4 y5 y6))
 | 0=>fun _ _ _ _ _ _ _ r h=>by simp [qbj.j0] at h
 | k+1=>by
  have ih0:=qbj.mono_l k
  ·intro y0 y1 y2 y3 y4 y5 y6
   unfold qbj.j0
   repeat' first|(with_reducible exact qau.mono _ _)|(with_reducible exact qge.mono _ _ _ _ _ _ _)|(with_reducible exact qbr.mono _ _ _ _ _)|(with_reducible exact qaj.mono _ _ _)|(with_reducible exact qdq.mono _ _ _ _ _ _ _)|(with_reducible exact qdi.mono _ _ _ _ _)|(with_reducible exact LeO.refl _)|(with_reducible refine LeO.ite ?_ ?_)|(with_reducible refine LeO.bind ?_ (fun _=>?_))
theorem qbj.mono:∀ a0 a1 a2 a3 a4 a5 k,LeO (qbj.f k a0 a1 a2 a3 a4 a5) (qbj.f (k+1) a0 a1 a2 a3 a4 a5):=by
 intro a0 a1 a2 a3 a4 a5 k
 have ih0:=qbj.mono_l k
 unfold qbj.f
 repeat' first|(with_reducible exact ih0 _ _ _ _ _ _ _)|(with_reducible exact qbd.mono _)|(with_reducible exact qaq.mono _ _ _ _)|(with_reducible exact LeO.refl _)|(with_reducible refine LeO.ite ?_ ?_)|(with_reducible refine LeO.bind ?_ (fun _=>?_))
end
end Go.Proofs.YtmfjmbcfaamebaaDoor.X
namespace Go.Proofs.YtmfjmbcfaamebaaDoor.X
noncomputable section
open Go.RowKit Go.Proofs.YtmfjmbcfaamebaaDoorW.PrintWords Go.Proofs.YtmfjmbcfaamebaaDoorW.PrintLast Go.Proofs.YtmfjmbcfaamebaaDoorW.PrintMore
theorem idoms_length (l:List S60):(idoms l).length=l.length:=by simp [idoms]
end
end Go.Proofs.YtmfjmbcfaamebaaDoor.X
namespace Go.Proofs.YtmfjmbcfaamebaaDoor.X
noncomputable section
open Go.RowKit Go.Proofs.YtmfjmbcfaamebaaDoorW.PrintWords Go.Proofs.YtmfjmbcfaamebaaDoorW.PrintLast Go.Proofs.YtmfjmbcfaamebaaDoorW.PrintMore
theorem nodup_rev {l:List Int} (h:l.Nodup):l.reverse.Nodup:=List.pairwise_reverse.2 (h.imp (fun h e=>h e.symm))
theorem getD_in {l:List Int} {i:Nat} (h:i<l.length):l.getD i 0∈l:=by
 rw [List.getD_eq_getElem?_getD,List.getElem?_eq_getElem h];exact List.getElem_mem h
theorem idoms_rd {l:List S60} {n:Nat} (hn:n<l.length):rd (idoms l) (n:Int)=idom l (n:Int):=by
 rw [qgo,idoms,List.getD_eq_getElem?_getD,List.getElem?_map,List.getElem?_range hn];rfl
theorem idom_range {l:List S60} (h0:0<l.length) (n:Int):idom l n=-1∨(0≤idom l n∧idom l n<(l.length:Int)):=by
 rcases idom_spec h0 n with ⟨h,_⟩|⟨h,_⟩
 ·exact .inl h
 ·exact .inr (qcv.1 h).1
theorem order_dom {l:List S60} {p s':List Int} (h0:0<l.length) (hd:Dfs (Tg l) [] [0] p s') {i:Nat} (hi:i<p.length) (hne:p.reverse.getD i 0≠0):idom l (p.reverse.getD i 0)∈p.reverse.take i:=by
 obtain ⟨v,hv⟩:∃ v,p.reverse.getD i 0=v:=⟨_,rfl⟩
 rw [hv] at hne ⊢
 have hvp:v∈p:=by rw [← hv];exact List.mem_reverse.1 (getD_in (by simpa using hi))
 have hr:Rch (Tg l) noN 0 v:=(Rch.congr (fun x=>by simp [noN])).1 ((hd.found v).1 hvp)
 have h0d:(0:Int)∈qbw l v:=qcv.2 ⟨by omega,hr,fun h=>h.first rfl⟩
 have hid:idom l v∈qbw l v∧idom l v≠v:=by
  rcases idom_spec h0 v with ⟨_,h⟩|⟨h1,h2,_⟩
  ·exact absurd (h 0 h0d).symm hne
  ·exact ⟨h1,h2⟩
 have hdm:=(qcv.1 hid.1).2
 have hord:=hd.order (r:=0) (d:=idom l v) (fun t ht hne=>by rw [List.mem_singleton.1 ht] at hne ⊢;exact .refl hne) v hvp
 rcases hord with h|⟨A,B,hp,h⟩
 ·exact absurd h hdm.2
 ·have hvA:v∈A:=h.resolve_right (fun e=>hid.2 e.symm)
  have hrev:p.reverse=B.reverse++idom l v::A.reverse:=by rw [hp];simp
  have hnd:p.reverse.Nodup:=nodup_rev hd.nodup
  have hir:i<p.reverse.length:=by simpa using hi
  have hlt:B.reverse.length<i:=by
   refine Classical.byContradiction fun hc=>?_
   have hmem:v∈B.reverse++[idom l v]:=by
    have e:v=(B.reverse++[idom l v]).getD i 0:=by
     have hv2:=hv
     rw [hrev,show B.reverse++idom l v::A.reverse=(B.reverse++[idom l v])++A.reverse by simp,List.getD_eq_getElem?_getD,List.getElem?_append_left (by simp at hc ⊢;omega),← List.getD_eq_getElem?_getD] at hv2
     exact hv2.symm
    have h9:(B.reverse++[idom l v]).getD i 0∈B.reverse++[idom l v]:=getD_in (by simp at hc ⊢;omega)
    rwa [← e] at h9
   have hnd':((B.reverse++[idom l v])++A.reverse).Nodup:=by rw [hrev] at hnd;simpa using hnd
   exact (List.nodup_append.1 hnd').2.2 v hmem v (List.mem_reverse.2 hvA) rfl
  rw [hrev]
  have:idom l v=(B.reverse++idom l v::A.reverse)[B.reverse.length]'(by simp):=by simp
  rw [List.mem_take_iff_getElem]
  exact ⟨B.reverse.length,by simp at hlt ⊢;omega,this.symm⟩
theorem order_head {l:List S60} {p s':List Int} (hd:Dfs (Tg l) [] [0] p s'):∃ t,p.reverse=0::t∧0∉t:=by
 have hnd:p.reverse.Nodup:=nodup_rev hd.nodup
 cases hd with
 | skip h _=>simp at h
 | go _ _ h'=>
  cases h'
  refine ⟨_,by simp;rfl,?_⟩
  simp at hnd
  exact fun h=>hnd.1 (List.mem_reverse.1 h)
theorem respects_from {l:List S60} (hN:l.length≤14) (h0:0<l.length) {p s':List Int} (hd:Dfs (Tg l) [] [0] p s') (hpl:p.length≤l.length):∀ (m i:Nat) (seen:List Bool),i+m=p.length→Mk l.length seen (p.reverse.take i)→
  Ev (fun k=>qab.l0 k (idoms l) seen p.reverse (p.reverse.length:Int) (i:Int)) true
 | 0,i,seen,hi,hm=>by
  refine Ev.next (Ev.const true) (fun k=>?_)
  rw [qab.l0,if_neg (by simp;omega)]
 | m+1,i,seen,hi,hm=>by
  have hip:i<p.length:=by omega
  have hir:i<p.reverse.length:=by simpa using hip
  obtain ⟨v,hv⟩:∃ v,p.reverse.getD i 0=v:=⟨_,rfl⟩
  have hvp:v∈p:=by rw [← hv];exact List.mem_reverse.1 (getD_in hir)
  have hrg:=((hd.found v).1 hvp).range (l:=l) (by omega)
  have hdom:=order_dom h0 hd hip
  rw [hv] at hdom
  obtain ⟨n,rfl⟩:=Int.eq_ofNat_of_zero_le hrg.1
  have hn:n<l.length:=by omega
  have hrd:rd p.reverse (i:Int)=(n:Int):=by rw [qgo,hv]
  have hnd:p.reverse.Nodup:=nodup_rev hd.nodup
  have hget:p.reverse[i]=(n:Int):=by rw [← hv,List.getD_eq_getElem?_getD,List.getElem?_eq_getElem hir];rfl
  have htk:p.reverse.take (i+1)=p.reverse.take i++[(n:Int)]:=by rw [List.take_succ_eq_append_getElem hir,hget]
  have hnew:(n:Int)∉p.reverse.take i:=by
   intro h
   have h2:(p.reverse.take (i+1)).Nodup:=hnd.sublist (List.take_sublist _ _)
   rw [htk,List.nodup_append] at h2
   exact h2.2.2 _ h _ (by simp) rfl
  have hs:seen.getD n false=false:=by
   cases e:seen.getD n false with
   | false=>rfl
   | true=>exact absurd ((hm.2 n hn).1 e) hnew
  obtain ⟨t,ht,ht0⟩:=order_head hd
  have hz:((i:Int)==0)=((n:Int)==0):=by
   rw [Bool.eq_iff_iff,beq_iff_eq,beq_iff_eq]
   constructor
   ·intro e
    have:i=0:=by omega
    subst this
    rw [ht] at hv
    simpa using hv.symm
   ·intro e
    refine Classical.byContradiction fun hc=>?_
    obtain ⟨j,rfl⟩:∃ j,i=j+1:=⟨i-1,by omega⟩
    rw [ht] at hv hir
    have h3:t.getD j 0=(n:Int):=by simpa using hv
    rw [e] at h3
    exact ht0 (by rw [← h3];exact getD_in (by simpa using hir))
  have hrec:=respects_from hN h0 hd hpl m (i+1) (seen.set n true) (by omega) (by rw [htk];exact hm.set hn)
  have hw:=qcw (show i<9223372036854775807 by omega)
  have hlen:=hm.1
  have hj2:Ev (fun k=>qab.j2 k (idoms l) seen (i:Int) (n:Int) p.reverse (p.reverse.length:Int) (i:Int) false) true:=by
   refine Ev.next hrec (fun k=>?_)
   have c1:(0≤(n:Int))=True:=eq_true (by omega)
   have c2:((n:Int)<((idoms l).length:Int))=True:=eq_true (by rw [idoms_length];omega)
   have c3:((n:Int)<(seen.length:Int))=True:=eq_true (by omega)
   rw [qab.j2]
   simp only [c1,c2,c3,if_true,if_false,Bool.false_eq_true,hw,idoms_rd hn,Int.toNat_natCast]
   by_cases hi0:(i:Int)>0
   ·have hne:(n:Int)≠0:=fun e=>by
     rw [e] at hz
     have:((i:Int)==0)=true:=by rw [hz];rfl
     rw [beq_iff_eq] at this
     omega
    have hin:=hdom hne
    rcases idom_range h0 (n:Int) with h4|⟨h4,h5⟩
    ·have h6:=List.mem_reverse.1 (List.mem_of_mem_take hin)
     have h7:=((hd.found _).1 h6).range (l:=l) (by omega)
     omega
    ·obtain ⟨q,hq⟩:=Int.eq_ofNat_of_zero_le h4
     rw [hq] at h4 h5 hin ⊢
     have hsq:rdOf false seen (q:Int)=true:=by rw [rdOf_nat];exact (hm.2 q (by omega)).2 hin
     rw [if_pos hi0,if_neg (by omega),if_neg (by omega),if_pos (by omega),if_pos (by omega),if_pos hsq]
   ·rw [if_neg hi0]
  refine Ev.next hj2 (fun k=>?_)
  have c1:((i:Int)<(p.reverse.length:Int))=True:=eq_true (by omega)
  have c2:(0≤(i:Int))=True:=eq_true (by omega)
  have c3:((n:Int)<0)=False:=eq_false (by omega)
  have c4:((n:Int)≥(seen.length:Int))=False:=eq_false (by omega)
  have c5:(0≤(n:Int))=True:=eq_true (by omega)
  have c6:((n:Int)<(seen.length:Int))=True:=eq_true (by omega)
  have hb:(((i:Int)==0)!=((n:Int)==0))=false:=by rw [hz];simp
  rw [qab.l0]
  simp only [c1,c2,hrd,c3,c4,c5,c6,if_true,if_false,rdOf_nat,hs,Bool.false_eq_true,hb]
theorem qff (a:Bool) (b:Int) (l:List S60) (hl:l.length≤9223372036854775807):Ev (fun k=>qab.f k a b l) true:=by
 refine law_ev a b l hl (fun k=>rfl) (fun hN=>?_)
 obtain ⟨p,s',h1,h2,h3,_⟩:=Order_ev a b hN
 obtain ⟨rs,g1,g2,g3⟩:=cReach_ev a b hN 0
 have hels:∀ x∈els rs,0≤x∧x<(l.length:Int):=fun x hx=>g3.range hx
 have hlenEv:=Len_ev g2 (fun x hx=>by have:=hels x hx;omega)
 have hel:(els rs).length=p.length:=by
  have hnd:(els rs).Nodup:=(qfm rs).imp (fun h=>by omega)
  rcases h1 with ⟨rfl,rfl⟩|⟨hne,hd⟩
  ·have:=qfn (qfm rs) hels
   simpa using this
  ·have hpos:0<l.length:=List.length_pos_iff.2 hne
   have hmem:∀ x,x∈els rs↔x∈p:=by
    intro x
    rw [g3.2,hd.found]
    exact ⟨fun h=>(Rch.congr (fun x=>by simp [noN])).1 h.2,fun h=>⟨by omega,(Rch.congr (fun x=>by simp [noN])).1 h⟩⟩
   have e1:=hnd.length_le_of_subset (fun x hx=>(hmem x).1 hx)
   have e2:=hd.nodup.length_le_of_subset (fun x hx=>(hmem x).2 hx)
   omega
 have c0:((idoms l).length:Int)=(l.length:Int):=by rw [idoms_length]
 refine Ev.bind h3 (Ev.bind (Ev.fix (cimm_f a b hN)) (Ev.ifp c0 (Ev.bind g1 (Ev.bind hlenEv ?_))))
 have hb:(((p.reverse.length:Int))!=((els rs).length:Int))=false:=by rw [hel];simp
 rw [hb]
 refine Ev.succ ?_
 have c1:(0≤(l.length:Int))=True:=eq_true (by omega)
 have c2:(l.length≤281474976710656)=True:=eq_true (by omega)
 simp only [qab.j0,Bool.false_eq_true,if_false,c1,c2,if_true,Int.toNat_natCast]
 rcases h1 with ⟨rfl,rfl⟩|⟨hne,hd⟩
 ·refine Ev.next (Ev.const true) (fun k=>?_)
  rw [qab.l0,if_neg (by simp)]
 ·have hm:Mk l.length (List.replicate l.length false) (p.reverse.take 0):=by
   refine ⟨by simp,fun x hx=>?_⟩
   rw [List.getD_eq_getElem?_getD,List.getElem?_replicate,if_pos hx]
   simp
  exact respects_from hN (List.length_pos_iff.2 hne) hd h2 p.length 0 _ (by omega) hm
end
end Go.Proofs.YtmfjmbcfaamebaaDoor.X
namespace Go.Proofs.YtmfjmbcfaamebaaDoor.X
open Go.RowKit Go.Proofs.YtmfjmbcfaamebaaDoorW.PrintWords Go.Proofs.YtmfjmbcfaamebaaDoorW.PrintLast Go.Proofs.YtmfjmbcfaamebaaDoorW.PrintMore
open Go.ChangeShapes Go.WideShapes Go.ChangeAt
set_option maxRecDepth 100000 in
theorem cFGOrderRespectsDominators_lifted (os:Os) (started:os.Started) (H:Type) (enc:TypeId×Value→H) :
  ReturnsInHanded {} Tryd.checked os 7 .any (fun w args=>(Rows.cFGOrderRespectsDominatorsSpec.pre enc Tryd.prog Tryd.f7 [] false w args∧laidMetH Tryd.prog laid3 w)∧sizedMet enc Tryd.prog Tryd.f7 (OpenSpec.ofChange Rows.cFGOrderRespectsDominatorsSpec) false w args)
   (Rows.cFGOrderRespectsDominatorsSpec.post enc Tryd.prog Tryd.f7 false true false false):=by
 refine returnsInHanded_of_change_and (C:=Tryd.checked) (X:=fun w _=>laidMetH Tryd.prog laid3 w) (fun _ _ _ hh h=>h.of_heap hh) own started (by kernel_rfl) Tryd.func7
  (ChangeSpec.witness_shaped (enc:=enc) (C:=Tryd.checked) (os:=os) (X:=fun w _=>laidMetH Tryd.prog laid3 w) false (World.doorLaid Tryd.prog 400 os) #[.agg #[.bool false,.int .i64 0,.slice none 0 0]] 8 rfl (World.shaped_of_RefB (by kernel_rfl) (by kernel_rfl)) (by kernel_rfl) (by kernel_rfl) (by kernel_rfl) (door_met os _)) ?_
 intro W base args ds gs before hval0 hW _ _ hL _
 have hval:∀ (j:Nat) t v,Tryd.f7.params[j]?=some t→args[j]?=some v→Value.okWide Tryd.prog W .any base t v:=hval0
 have hW':=hW
 obtain ⟨p,q,hA0,hV,rfl,hfz,hnd⟩:=hW
 have hA:DataW.TrodAll enc Tryd.prog W 0 (fun _=>true) true Tryd.f7.params.toList args.toList ds p:=hA0
 rw [Tryd.params7] at hA hval
 obtain ⟨v0,vs0,d0,ds0,p0,q0,hargs,rfl,rfl,h0,r0⟩:=trodAll_cons hA
 obtain ⟨rfl,rfl,rfl⟩:=trodAll_nil r0
 obtain rfl:args=#[v0]:=by cases args;simp_all
 obtain ⟨rfl,rfl⟩:=trodVars_none hV
 have k0:=h0
 have lt0:∀ x∈p0,x.block<W.heap.size:=by obtain ⟨m,hm⟩:=k0;exact DataW.trod_lt m _ _ _ hm
 obtain ⟨a0,b0,A0,c0,l0,rfl,hc0,hr0⟩:=open_func (hval 0 24 v0 rfl rfl) h0
 have hT:=tab_of_laid hL
 obtain ⟨K,hK⟩:=qff a0 b0 l0 hr0.2.1
 refine (qab.calls K a0 b0 A0 c0 l0 true W hT hr0 hc0 (hK K (Nat.le_refl _))).mono fun e W' ⟨he,bel⟩=>?_
 subst he
 exact ⟨_,rfl,_,_,_,[],_,[],hW',trodAll_mk1 (shut_bool Tryd.underlying4 _),(trodAll_cons_mk (Below.trod laidOut (by kernel_rfl) (of_decide_eq_true (by kernel_rfl)) k0 bel lt0) trodAll_mk0),rfl,bel.frame _,fun h=>by cases h⟩
theorem cFGOrderRespectsDominators_over:Rows.CFGOrderRespectsDominatorsSaid:=
 OpenClaim.holds_of_wide 7 Tryd.f7 rfl rfl rfl rfl rfl rfl rfl ⟨rfl,rfl,rfl,rfl,rfl⟩ rfl rfl rfl rfl rfl (by kernel_rfl) Tryd.func7 (by kernel_rfl)
  (of_decide_eq_true (by kernel_rfl)) (by unfold Func.isWrapper;first|(rw [if_pos (by decide +kernel)];kernel_rfl)|(rw [if_neg (by decide +kernel)];exact ⟨rfl,rfl⟩))
  (fun os started H enc _=>cFGOrderRespectsDominators_lifted os started H enc)
end Go.Proofs.YtmfjmbcfaamebaaDoor.X
namespace Go.Proofs.YtmfjmbcfaamebaaDoor
open Go
theorem cFGOrderRespectsDominators_card:Rows.CFGOrderRespectsDominatorsCardSaid:=
 Claim7.holds_tied_plain_at .later [] [.data,.data,.data] true (true,"c8b5de7ce23ca5823bd3b2a7e765479804d6c7690af3a87feb374392540dd41b") false
  X.cFGOrderRespectsDominators_over (fun _ h=>by cases h) (by kernel_rfl) (fun _ h=>by cases h) cFGOrderRespectsDominators_row_tie rfl ⟨rfl,rfl⟩ (by kernel_rfl) rfl
  (fun f fn hf hfn=>by
   obtain rfl:f=7:=Option.some.inj ((show Tryd.prog.funcNamed "trickle/tricklelaw24.CFGOrderRespectsDominators" = some 7 by kernel_rfl).symm.trans hf)|>.symm
   obtain rfl:fn=Tryd.f7:=(Option.some.inj (Tryd.func7.symm.trans hfn)).symm
   exact ⟨by kernel_rfl,fun j t ht=>by
    rw [Tryd.params7] at ht
    have hm:t∈[24]:=by simpa using Array.mem_of_getElem? ht
    have hall:([24].all fun u=>!Tryd.prog.wantsStandIn u)=true:=by kernel_rfl
    exact (show Tryd.prog.wantsStandIn t=false by simpa using List.all_eq_true.1 hall t hm)⟩)
  (by kernel_rfl)
end Go.Proofs.YtmfjmbcfaamebaaDoor
