/- Proved: the law CFGReachability holds of the given program: Reachable and Paths find exactly the nodes and paths that exist. Conditions: none but the row's own cells; the listed tables of Go's library are tied to the program's text. -/
import Derived.Test.YtmfjmbcfaamebaaDoorCFGReachability14
import Derived.Test.YtmfjmbcfaamebaaDoorRows
import Derived.Test.YtmfjmbcfaamebaaDoorCards
import Derived.Test.YtmfjmbcfaamebaaDoorTie
import Derived.SevenTiedAt
set_option linter.unusedVariables false
set_option linter.unusedSimpArgs false
namespace Go.Proofs.YtmfjmbcfaamebaaDoor.X
noncomputable section
open Go.RowKit Go.Proofs.YtmfjmbcfaamebaaDoorW.PrintWords Go.Proofs.YtmfjmbcfaamebaaDoorW.PrintLast Go.Proofs.YtmfjmbcfaamebaaDoorW.PrintMore
theorem Rch.back {T:Int→List Int} {av:Int→Prop} {x a:Int} {P:Int→Prop} (h:Rch T av x a) (hP:P a) (hc:∀ y z,z∈T y→¬ av y→¬ av z→P z→P y):P x:=by
 induction h with
 | refl _=>exact hP
 | step h0 h1 h2 ih=>exact ih (hc _ _ h1 h0.last h2 hP)
def InLoop (l:List S60) (a h:Int) (x:Int):Prop:=x=h∨(Rch (Tg l) noN 0 x∧Rch (Tg l) (fun y=>y=h) x a)
def IsLoop (l:List S60) (a h:Int) (r:List Int):Prop:=r.Pairwise (·<·)∧∀ x,x∈r↔InLoop l a h x
theorem IsLoop.uniq {l:List S60} {a h:Int} {r r':List Int} (h1:IsLoop l a h r) (h2:IsLoop l a h r'):r=r':=qgf h1.1 h2.1 (fun x=>(h1.2 x).trans (h2.2 x).symm)
theorem rloop_in (a:Bool) (b:Int) {l:List S60} (hN:l.length≤14) {e0 e1:Int} {q:List Int} (hq:∀ x∈q,0≤x∧x<(l.length:Int)) (hql:q.length≤14):∀ (m i:Nat) (o:List Int),i+m=q.length→o.length≤i+1→
  ∃ o',Ev (fun k=>qaw.l1 k o q (q.length:Int) (i:Int) a b l e0 e1) o'∧o'.Pairwise (·<·)∧∀ x,x∈o'↔(x∈o∨x∈q.drop i∧Rch (Tg l) (fun y=>y=e1) x e0)∧0≤x∧x≤65535
 | 0,i,o,hi,ho=>by
  obtain ⟨r,h1,h2,_⟩:=rOf_ev o (by omega)
  refine ⟨r,?_,h2.1,fun x=>?_⟩
  ·refine Ev.succ ?_
   have c1:((i:Int)<(q.length:Int))=False:=eq_false (by omega)
   simp only [qaw.l1,c1,if_false]
   exact Ev.bind h1 (Ev.const _)
  ·rw [h2.2,List.drop_eq_nil_of_le (by omega)]
   simp
 | m+1,i,o,hi,ho=>by
  have h1:i<q.length:=by omega
  have hrd:rd q (i:Int)=q[i]:=qgw h1
  have hqi:=hq _ (List.getElem_mem h1)
  obtain ⟨r,h2,h3⟩:=rReachOne_ev a b hN q[i] e1
  have hrl:=qfe h3.1 (fun x hx=>h3.range hx)
  have hh:=qfv r e0 (by omega)
  have hm:e0∈r↔Rch (Tg l) (fun y=>y=e1) q[i] e0:=(h3.2 e0).trans ⟨fun h=>h.2,fun h=>⟨hqi,h⟩⟩
  have c1:((i:Int)<(q.length:Int))=True:=eq_true (by omega)
  have c2:(0≤(i:Int))=True:=eq_true (by omega)
  have c3:o.length<17592186044416:=by omega
  have hw:=qdf (show i<9223372036854775807 by omega)
  have hdrop:=List.drop_eq_getElem_cons h1
  by_cases h:e0∈r
  ·obtain ⟨o',h4,h5,h6⟩:=rloop_in a b hN (e0:=e0) (e1:=e1) hq hql m (i+1) (o++[q[i]]) (by omega) (by simp;omega)
   refine ⟨o',?_,h5,fun x=>?_⟩
   ·refine Ev.succ ?_
    simp only [qaw.l1,c1,c2,if_true,hrd,hw]
    refine Ev.bind h2 (Ev.bind hh ?_)
    exact Ev.ifp (decide_eq_true h) (Ev.ifp c3 h4)
   ·rw [h6,hdrop,List.mem_append,List.mem_singleton,List.mem_cons]
    constructor
    ·rintro ⟨(h7|rfl)|h7,h8⟩
     ·exact ⟨.inl h7,h8⟩
     ·exact ⟨.inr ⟨.inl rfl,hm.1 h⟩,h8⟩
     ·exact ⟨.inr ⟨.inr h7.1,h7.2⟩,h8⟩
    ·rintro ⟨h7|⟨h7|h7,h9⟩,h8⟩
     ·exact ⟨.inl (.inl h7),h8⟩
     ·exact ⟨.inl (.inr h7),h8⟩
     ·exact ⟨.inr ⟨h7,h9⟩,h8⟩
  ·obtain ⟨o',h4,h5,h6⟩:=rloop_in a b hN (e0:=e0) (e1:=e1) hq hql m (i+1) o (by omega) (by omega)
   refine ⟨o',?_,h5,fun x=>?_⟩
   ·refine Ev.succ ?_
    simp only [qaw.l1,c1,c2,if_true,hrd,hw]
    refine Ev.bind h2 (Ev.bind hh ?_)
    exact Ev.ifn (by simpa using h) h4
   ·rw [h6,hdrop,List.mem_cons]
    constructor
    ·rintro ⟨h7|h7,h8⟩
     ·exact ⟨.inl h7,h8⟩
     ·exact ⟨.inr ⟨.inr h7.1,h7.2⟩,h8⟩
    ·rintro ⟨h7|⟨h7|h7,h9⟩,h8⟩
     ·exact ⟨.inl h7,h8⟩
     ·rw [h7] at h9;exact absurd (hm.2 h9) h
     ·exact ⟨.inr ⟨h7,h9⟩,h8⟩
theorem edge_eq {e:S39} {a h:Int}:(e.f0==a&&e.f1==h)=true↔e=⟨a,h⟩:=by
 obtain ⟨x,y⟩:=e
 simp
def isE (e0 e1:Int) (e:S39):Bool:=e.f0==e0&&e.f1==e1
theorem isE_any {q:List S39} {e0 e1:Int}:q.any (isE e0 e1)=true↔(⟨e0,e1⟩:S39)∈q:=by
 rw [List.any_eq_true]
 constructor
 ·rintro ⟨e,h1,h2⟩
  rw [← edge_eq.1 h2];exact h1
 ·intro h
  exact ⟨_,h,edge_eq.2 rfl⟩
theorem qhw (a:Bool) (b:Int) (l:List S60) {q:List S39} (hq:q.length<100000) {e0 e1:Int} {r:List Int}:∀ (m i:Nat) (f:Bool),i+m=q.length→
  Ev (fun k=>if (f||(q.drop i).any (isE e0 e1))=true then ((qae.f k a b l 0 ([]:List Int)).bind fun t=>(qaw.l1 k (([e1]:List Int)) t (t.length:Int) 0 a b l e0 e1)) else (some ([]:List Int))) r→
  Ev (fun k=>qaw.l0 k f q (q.length:Int) (i:Int) a b l e0 e1) r
 | 0,i,f,hi,h=>by
  rw [List.drop_eq_nil_of_le (by omega),List.any_nil,Bool.or_false] at h
  refine Ev.next h (fun k=>?_)
  rw [qaw.l0,if_neg (by omega)]
 | m+1,i,f,hi,h=>by
  have h1:i<q.length:=by omega
  have hrd:qcq q (i:Int)=q[i]:=by unfold qcq;rw [Int.toNat_natCast,List.getD_eq_getElem?_getD,List.getElem?_eq_getElem h1];rfl
  have c1:((i:Int)<(q.length:Int))=True:=eq_true (by omega)
  have c2:(0≤(i:Int))=True:=eq_true (by omega)
  have hw:=qdf (show i<9223372036854775807 by omega)
  have ih:=qhw a b l hq (e0:=e0) (e1:=e1) (r:=r) m (i+1) (f||isE e0 e1 q[i]) (by omega) (h.congr (fun k=>by
   have e:(f||isE e0 e1 q[i]||(q.drop (i+1)).any (isE e0 e1))=(f||(q.drop i).any (isE e0 e1)):=by
    rw [Bool.or_assoc,List.drop_eq_getElem_cons h1,List.any_cons]
   rw [e]))
  refine Ev.next ih (fun k=>?_)
  rw [qaw.l0]
  simp only [c1,c2,if_true,hrd,hw]
  cases f with
  | true=>rw [if_pos rfl,Bool.true_or]
  | false=>rw [if_neg (by decide),Bool.false_or];rfl
theorem backs_len {l:List S60} (hN:l.length≤14):(qho l).length<100000:=by
 have key:∀ (rows:List (List Int)) (i:Nat) (out:List S39),(∀ r∈rows,r.length≤1000)→(bOut l i rows out).length≤out.length+1000*rows.length:=by
  intro rows
  induction rows with
  | nil=>intro i out _;simp [bOut]
  | cons r t ih=>
   intro i out hr
   have h1:=ih (i+1) (bIn l (i:Int) r out) (fun r h=>hr r (List.mem_cons_of_mem _ h))
   have h2:=qhl l (i:Int) r out
   have h3:=hr r (List.mem_cons_self ..)
   rw [bOut,List.length_cons]
   omega
 have:=key (Succ l) 0 [] (fun r h=>(Succ_rows hN r h).2.1)
 rw [qek] at this
 unfold qho
 simp at this
 omega
theorem rloop_ev (a:Bool) (b:Int) {l:List S60} (hN:l.length≤14) (e0 e1:Int):∃ r,Ev (fun k=>qaw.f k a b l e0 e1) r∧((⟨e0,e1⟩:S39)∈qho l→IsLoop l e0 e1 r)∧((⟨e0,e1⟩:S39)∉qho l→r=[]):=by
 by_cases h:(⟨e0,e1⟩:S39)∈qho l
 ·obtain ⟨⟨h1,h2⟩,h3,h4⟩:=backs_mem.1 h
  have he1:0≤e1∧e1<(l.length:Int):=qeh h3
  have h0:0<l.length:=by omega
  obtain ⟨q,h5,h6⟩:=rReach_ev a b hN 0
  have hql:=qfe h6.1 (fun x hx=>h6.range hx)
  obtain ⟨r,h7,h8,h9⟩:=rloop_in a b hN (e0:=e0) (e1:=e1) (fun x hx=>h6.range hx) (by omega) q.length 0 [e1] (by omega) (by simp)
  refine ⟨r,?_,fun _=>⟨h8,fun x=>?_⟩,fun h'=>absurd h h'⟩
  ·unfold qaw.f
   refine Ev.bind (rback_ev a b hN) ?_
   refine qhw a b l (backs_len hN) (qho l).length 0 false (by omega) ?_
   refine Ev.ifp (by rw [Bool.false_or,List.drop_zero];exact isE_any.2 h) (Ev.bind h5 h7)
  ·rw [h9,List.drop_zero,h6.2,List.mem_singleton,InLoop]
   constructor
   ·rintro ⟨h10|h10,_⟩
    ·exact .inl h10
    ·exact .inr ⟨h10.1.2,h10.2⟩
   ·rintro (h10|⟨h10,h11⟩)
    ·exact ⟨.inl h10,by omega,by omega⟩
    ·have:=h10.range (l:=l) (by omega)
     exact ⟨.inr ⟨⟨by omega,h10⟩,h11⟩,by omega,by omega⟩
 ·refine ⟨[],?_,fun h'=>absurd h' h,fun _=>rfl⟩
  unfold qaw.f
  refine Ev.bind (rback_ev a b hN) ?_
  refine qhw a b l (backs_len hN) (qho l).length 0 false (by omega) ?_
  exact Ev.ifn (by rw [Bool.false_or,List.drop_zero];exact fun h'=>h (isE_any.1 h')) (Ev.const _)
theorem contains_from {q:List S39} (hq:q.length<100000) (e0 e1:Int):∀ (m i:Nat),i+m=q.length→∃ j:Int,Ev (fun k=>qau.l0 k q (q.length:Int) (i:Int) e0 e1) j∧(0≤j↔(q.drop i).any (isE e0 e1)=true)
 | 0,i,hi=>by
  refine ⟨-1,Ev.next (Ev.const _) (fun k=>?_),?_⟩
  ·rw [qau.l0,if_neg (by omega)]
  ·rw [List.drop_eq_nil_of_le (by omega)];simp
 | m+1,i,hi=>by
  have h1:i<q.length:=by omega
  have hrd:qcq q (i:Int)=q[i]:=by unfold qcq;rw [Int.toNat_natCast,List.getD_eq_getElem?_getD,List.getElem?_eq_getElem h1];rfl
  have c1:((i:Int)<(q.length:Int))=True:=eq_true (by omega)
  have c2:(0≤(i:Int))=True:=eq_true (by omega)
  have hw:=qdf (show i<9223372036854775807 by omega)
  rw [List.drop_eq_getElem_cons h1,List.any_cons]
  have he:(e0==q[i].f0&&e1==q[i].f1)=isE e0 e1 q[i]:=by
   unfold isE
   rw [Bool.eq_iff_iff,Bool.and_eq_true,Bool.and_eq_true,beq_iff_eq,beq_iff_eq,beq_iff_eq,beq_iff_eq]
   exact ⟨fun h=>⟨h.1.symm,h.2.symm⟩,fun h=>⟨h.1.symm,h.2.symm⟩⟩
  cases h:isE e0 e1 q[i] with
  | true=>
   refine ⟨(i:Int),Ev.next (Ev.const _) (fun k=>?_),by simp⟩
   rw [qau.l0]
   simp only [c1,c2,if_true,hrd,he,h]
  | false=>
   obtain ⟨j,h2,h3⟩:=contains_from hq e0 e1 m (i+1) (by omega)
   refine ⟨j,Ev.next h2 (fun k=>?_),by rw [h3];simp⟩
   rw [qau.l0]
   simp only [c1,c2,if_true,hrd,he,h,hw,if_false,Bool.false_eq_true]
theorem contains_ev {q:List S39} (hq:q.length<100000) (e0 e1:Int):Ev (fun k=>qbs.f k q e0 e1) (q.any (isE e0 e1)):=by
 obtain ⟨j,h1,h2⟩:=contains_from hq e0 e1 q.length 0 (by omega)
 have e:decide (j≥0)=q.any (isE e0 e1):=by
  rw [Bool.eq_iff_iff,decide_eq_true_eq]
  exact h2
 rw [← e]
 exact Ev.bind h1 (Ev.const _)
structure LInv (l:List S60) (a h:Int) (todo:List Int) (ws:List Int):Prop where
 gs:GS ws
 rg:∀ x∈todo,0≤x∧x<(l.length:Int)
 er:∀ x∈els ws,0≤x∧x<(l.length:Int)
 sd:∀ x∈els ws,InLoop l a h x
 st:∀ x∈todo,x≠h→Rch (Tg l) (fun y=>y=h) x a
 hh:h∈els ws
 ha:Rch (Tg l) noN 0 a→a∈els ws∨a∈todo
 cl:∀ y z,z∈Tg l y→z≠h→z∈els ws→Rch (Tg l) noN 0 y→y∈els ws∨y∈todo
theorem LInv.drop {l:List S60} {a h n:Int} {t ws:List Int} (I:LInv l a h (t++[n]) ws) (hn:n∈els ws∨¬ Rch (Tg l) noN 0 n):LInv l a h t ws:=by
 have key:∀ y,Rch (Tg l) noN 0 y→(y∈els ws∨y∈t++[n])→y∈els ws∨y∈t:=by
  intro y hy h'
  rcases h' with h'|h'
  ·exact .inl h'
  ·rcases List.mem_append.1 h' with h'|h'
   ·exact .inr h'
   ·rw [List.mem_singleton] at h'
    subst h'
    exact .inl (hn.resolve_right (fun e=>e hy))
 exact ⟨I.gs,fun x hx=>I.rg x (List.mem_append_left _ hx),I.er,I.sd,fun x hx=>I.st x (List.mem_append_left _ hx),I.hh,fun hr=>key a hr (I.ha hr),fun y z h1 h2 h3 h4=>key y h4 (I.cl y z h1 h2 h3 h4)⟩
theorem Pred_getD {l:List S60} {n:Nat} (hn:n<l.length):qfb (Pred l) (n:Int)=qfg 0 (Succ l) (n:Int):=by
 unfold qfb Pred
 rw [Int.toNat_natCast,List.getD_eq_getElem?_getD,List.getElem?_map,List.getElem?_range hn]
 rfl
theorem pred_mem {l:List S60} {n:Nat} {x:Int}:x∈qfg 0 (Succ l) (n:Int)↔(0≤x∧x<(l.length:Int))∧(n:Int)∈Tg l x:=by
 rw [predsF_mem]
 constructor
 ·rintro ⟨j,h1,h2,h3⟩
  rw [qek] at h1
  rw [Succ_getD h1] at h3
  rw [Nat.zero_add] at h2
  subst h2
  exact ⟨by omega,Sc_mem.1 h3⟩
 ·rintro ⟨h1,h2⟩
  obtain ⟨j,rfl⟩:=Int.eq_ofNat_of_zero_le h1.1
  exact ⟨j,by rw [qek];omega,by rw [Nat.zero_add],by rw [Succ_getD (by omega)];exact Sc_mem.2 h2⟩
theorem Rch.cons {T:Int→List Int} {av:Int→Prop} {x y a:Int} (h:y∈T x) (hx:¬ av x) (hr:Rch T av y a):Rch T av x a:=(Rch.step (.refl hx) h hr.first).trans hr
theorem LInv.add {l:List S60} {a h:Int} {n:Nat} {t ws ws':List Int} (hN:l.length≤14) (I:LInv l a h (t++[(n:Int)]) ws) (hr:Rch (Tg l) noN 0 (n:Int)) (hn:(n:Int)∉els ws) (hg:GS ws') (hw:∀ x,tb ws' x=(tb ws x||decide (x=n))):LInv l a h (t++qfg 0 (Succ l) (n:Int)) ws':=by
 have hm:∀ x:Int,x∈els ws'↔x∈els ws∨x=(n:Int):=by
  intro x
  constructor
  ·intro hx
   obtain ⟨z,rfl,hz⟩:=qel hx
   rw [hw,Bool.or_eq_true,decide_eq_true_eq] at hz
   exact hz.imp (fun h=>qdw.2 h) (fun h=>by omega)
  ·rintro (hx|rfl)
   ·obtain ⟨z,rfl,hz⟩:=qel hx
    rw [qdw,hw,hz];rfl
   ·rw [qdw,hw];simp
 have hnr:=I.rg (n:Int) (by simp)
 have hne:(n:Int)≠h:=fun e=>hn (by rw [e];exact I.hh)
 have hna:=I.st (n:Int) (by simp) hne
 have key:∀ y,(y∈els ws∨y∈t++[(n:Int)])→y∈els ws'∨y∈t++qfg 0 (Succ l) (n:Int):=by
  intro y h'
  rcases h' with h'|h'
  ·exact .inl ((hm y).2 (.inl h'))
  ·rcases List.mem_append.1 h' with h'|h'
   ·exact .inr (List.mem_append_left _ h')
   ·exact .inl ((hm y).2 (.inr (List.mem_singleton.1 h')))
 refine ⟨hg,fun x hx=>?_,fun x hx=>?_,fun x hx=>?_,fun x hx hxh=>?_,(hm h).2 (.inl I.hh),fun hra=>key a (I.ha hra),fun y z h1 h2 h3 h4=>?_⟩
 ·rcases List.mem_append.1 hx with hx|hx
  ·exact I.rg x (List.mem_append_left _ hx)
  ·exact (pred_mem.1 hx).1
 ·rcases (hm x).1 hx with hx|rfl
  ·exact I.er x hx
  ·exact hnr
 ·rcases (hm x).1 hx with hx|rfl
  ·exact I.sd x hx
  ·exact .inr ⟨hr,hna⟩
 ·rcases List.mem_append.1 hx with hx|hx
  ·exact I.st x (List.mem_append_left _ hx) hxh
  ·exact Rch.cons (pred_mem.1 hx).2 hxh hna
 ·rcases (hm z).1 h3 with h3|rfl
  ·exact key y (I.cl y z h1 h2 h3 h4)
  ·refine .inr (List.mem_append_right _ (pred_mem.2 ⟨?_,h1⟩))
   exact h4.range (by have:=hr.first;have:=qeh h1;exact ⟨by omega,by omega⟩)
theorem LInv.done {l:List S60} {a h:Int} {ws:List Int} (I:LInv l a h [] ws):IsLoop l a h (els ws):=by
 refine ⟨qhm ws,fun x=>⟨I.sd x,fun hx=>?_⟩⟩
 rcases hx with rfl|⟨h1,h2⟩
 ·exact I.hh
 ·refine Rch.back (P:=fun x=>Rch (Tg l) noN 0 x→x∈els ws) h2 (fun hr=>(I.ha hr).resolve_right (by simp)) (fun y z hz _ hzh hP hy=>?_) h1
  have hrz:Rch (Tg l) noN 0 z:=.step hy hz (fun e=>e)
  exact (I.cl y z hz hzh (hP hrz) hy).resolve_right (by simp)
theorem preds_len (l:List S60) (n:Int):(qfg 0 (Succ l) n).length≤l.length:=by
 have:=predsF_length 0 (Succ l) n
 rwa [qek] at this
theorem qhj {l:List S60} (hN:l.length≤14) {a h:Int} {rs:List Int} (hg:GS rs) (hrs:qgh l noN 0 (els rs)) (h0:0<l.length):∀ (m:Nat) (todo ws:List Int),todo.length+15*qfs (qdt l.length) (els ws)≤m→m≤1000→LInv l a h todo ws→
  ∃ r,Ev (fun k=>qbo.l0 k (Pred l) todo ws rs) r∧GS r∧IsLoop l a h (els r)
 | m,todo,ws,hm,hm2,I=>by
  rcases List.eq_nil_or_concat todo with rfl|⟨t,n,rfl⟩
  ·refine ⟨ws,Ev.next (Ev.const _) (fun k=>?_),I.gs,I.done⟩
   rw [qbo.l0,if_neg (by simp)]
  ·have htd:t.concat n=t++[n]:=List.concat_eq_append ..
   rw [htd] at hm I ⊢
   cases m with
   | zero=>simp at hm
   | succ m=>
    have hnr:=I.rg n (by simp)
    obtain ⟨i,rfl⟩:=Int.eq_ofNat_of_zero_le hnr.1
    have hi:i<l.length:=by omega
    have hlen:(t++[(i:Int)]).length=t.length+1:=by simp
    have c1:((t.length+1:Nat):Int)>0:=by omega
    have hlo:(-9223372036854775808:Int)≤((t.length+1:Nat):Int)-1:=by omega
    rw [hlen] at hm
    have hhi:((t.length+1:Nat):Int)-1<9223372036854775808:=by omega
    have ew:((t.length+1:Nat):Int)-1=(t.length:Int):=by omega
    have c2:(0≤(t.length:Int))=True:=eq_true (by omega)
    have c3:((t.length:Int)<((t.length+1:Nat):Int))=True:=eq_true (by omega)
    have c4:((t.length:Int)≤((t.length+1:Nat):Int))=True:=eq_true (by omega)
    have c1':=eq_true c1
    have e1:(t++[(i:Int)]).take t.length=t:=by simp
    have e2:rd (t++[(i:Int)]) (t.length:Int)=(i:Int):=by rw [qib];simp
    have hw:wrap64 (((t.length+1:Nat):Int)-1)=(t.length:Int):=(qfi hlo hhi).trans ew
    have f1:qbu.f ws (i:Int)=some (tb ws i):=by rw [Has_f I.gs.wd,decide_eq_true (by omega),Bool.true_and,Int.toNat_natCast]
    have f2:qbu.f rs (i:Int)=some (tb rs i):=by rw [Has_f hg.wd,decide_eq_true (by omega),Bool.true_and,Int.toNat_natCast]
    have hreach:tb rs i=true↔Rch (Tg l) noN 0 (i:Int):=by rw [← qdw,hrs.2];exact ⟨fun h=>h.2,fun h=>⟨by omega,h⟩⟩
    cases ht:tb ws i with
    | true=>
     obtain ⟨r,h1,h2⟩:=qhj hN hg hrs h0 m t ws (by omega) (by omega) (I.drop (.inl (qdw.2 ht)))
     refine ⟨r,Ev.next h1 (fun k=>?_),h2⟩
     rw [qbo.l0]
     simp only [hlen,c1',hw,c2,c3,c4,if_true,Int.toNat_natCast,e1,e2,Option.bind_some,f1,ht]
    | false=>
     have hnot:(i:Int)∉els ws:=fun e=>by rw [qdw,ht] at e;cases e
     cases hr:tb rs i with
     | false=>
      obtain ⟨r,h1,h2⟩:=qhj hN hg hrs h0 m t ws (by omega) (by omega) (I.drop (.inr (fun e=>by rw [← hreach,hr] at e;cases e)))
      refine ⟨r,Ev.next h1 (fun k=>?_),h2⟩
      rw [qbo.l0]
      simp only [hlen,c1',hw,c2,c3,c4,if_true,Int.toNat_natCast,e1,e2,Option.bind_some,f1,ht,f2,hr,Bool.false_eq_true,if_false]
     | true=>
      obtain ⟨ws',h1,h2,h3⟩:=With_ev I.gs i (by omega)
      have hpl:=preds_len l (i:Int)
      have hIn:(i:Int)∈els ws':=by rw [qdw,h3];simp
      have hleft:qfs (qdt l.length) (els ws')<qfs (qdt l.length) (els ws):=by
       refine Nat.lt_of_le_of_lt (leftIn_le (s:=els ws++[(i:Int)]) (fun x hx=>?_)) (leftIn_lt (qej.2 hnr) hnot)
       rcases List.mem_append.1 hx with hx|hx
       ·obtain ⟨z,rfl,hz⟩:=qel hx
        rw [qdw,h3,hz];rfl
       ·rw [List.mem_singleton.1 hx];exact hIn
      obtain ⟨r,h4,h5⟩:=qhj hN hg hrs h0 m (t++qfg 0 (Succ l) (i:Int)) ws' (by rw [List.length_append];omega) (by omega) (I.add hN (hreach.1 hr) hnot h2 h3)
      have c5:(0≤(i:Int)):=by omega
      have c6:((i:Int)<((Pred l).length:Int)):=by simp [Pred];omega
      have c7:t.length+(qfb (Pred l) (i:Int)).length<17592186044416:=by rw [Pred_getD hi];omega
      refine ⟨r,?_,h5⟩
      refine Ev.succ ?_
      simp only [qbo.l0,hlen,c1',hw,c2,c3,c4,if_true,Int.toNat_natCast,e1,e2,Option.bind_some,f1,ht,f2,hr,Bool.false_eq_true,if_false]
      refine Ev.bind h1 (Ev.ifp c5 (Ev.ifp c6 (Ev.ifp c7 ?_)))
      rw [Pred_getD hi]
      exact h4
theorem cloop_ev (a:Bool) (b:Int) {l:List S60} (hN:l.length≤14) (e0 e1:Int):∃ r,Ev (fun k=>qbo.f k a b l e0 e1) r∧GS r∧((⟨e0,e1⟩:S39)∈qho l→IsLoop l e0 e1 (els r))∧((⟨e0,e1⟩:S39)∉qho l→r=[]):=by
 by_cases h:(⟨e0,e1⟩:S39)∈qho l
 ·obtain ⟨⟨h1,h2⟩,h3,h4⟩:=backs_mem.1 h
  have he1:0≤e1∧e1<(l.length:Int):=qeh h3
  have he0:0≤e0∧e0<(l.length:Int):=⟨h1,h2⟩
  obtain ⟨n,rfl⟩:=Int.eq_ofNat_of_zero_le he1.1
  have h0:0<l.length:=by omega
  obtain ⟨o,g1,g2,g3⟩:=Of_ev [(n:Int)] (by simp)
  obtain ⟨q,h5,h6,h7⟩:=cReach_ev a b hN 0
  have hels:∀ x,x∈els o↔x=(n:Int):=by
   intro x
   constructor
   ·intro hx
    obtain ⟨z,rfl,hz⟩:=qel hx
    have:=((g3 z).1 hz).1
    rwa [List.mem_singleton] at this
   ·rintro rfl
    rw [qdw,g3]
    exact ⟨by simp,by omega⟩
  have I:LInv l e0 (n:Int) [e0] o:=by
   refine ⟨g2,fun x hx=>by rw [List.mem_singleton.1 hx];exact he0,fun x hx=>by rw [(hels x).1 hx];exact he1,fun x hx=>.inl ((hels x).1 hx),fun x hx hne=>?_,(hels _).2 rfl,fun _=>.inr (by simp),fun y z _ h2 h3 _=>absurd ((hels z).1 h3) h2⟩
   rw [List.mem_singleton] at hx
   subst hx
   exact .refl hne
  have hleft:qfs (qdt l.length) (els o)≤l.length:=by
   unfold qfs
   refine Nat.le_trans (List.length_filter_le _ _) ?_
   simp [qdt]
  obtain ⟨r,g4,g5,g6⟩:=qhj hN h6 h7 h0 _ [e0] o (Nat.le_refl _) (by simp;omega) I
  refine ⟨r,?_,g5,fun _=>g6,fun h'=>absurd h h'⟩
  unfold qbo.f
  refine Ev.bind (cback_ev a b hN) (Ev.bind (contains_ev (backs_len hN) e0 (n:Int)) ?_)
  refine Ev.ifp (isE_any.2 h) ?_
  exact Ev.bind g1 (Ev.bind (cPred_ev a b hN) (Ev.bind h5 g4))
 ·refine ⟨[],?_,GS.nil,fun h'=>absurd h' h,fun _=>rfl⟩
  unfold qbo.f
  refine Ev.bind (cback_ev a b hN) (Ev.bind (contains_ev (backs_len hN) e0 e1) ?_)
  exact Ev.ifn (fun h'=>h (isE_any.1 h')) (Ev.const _)
end
end Go.Proofs.YtmfjmbcfaamebaaDoor.X
namespace Go.Proofs.YtmfjmbcfaamebaaDoor.X
open Go.RowKit Go.Proofs.YtmfjmbcfaamebaaDoorW.PrintWords Go.Proofs.YtmfjmbcfaamebaaDoorW.PrintLast Go.Proofs.YtmfjmbcfaamebaaDoorW.PrintMore
attribute [local go_sem] qbr qcc
set_option linter.unusedVariables false
set_option linter.unusedSimpArgs false
def qch.l0:Nat→List (List Int)→List (List Int)→Int→Int→Option (Bool)
 | 0,_,_,_,_=>none
 | k+1,x0,x1,x12,x13=>if x13<x12 then (if 0≤x13 then (if x13<(x0.length:Int) then (if x13<(x1.length:Int) then ((qak.f k (qfb x0 x13) (qfb x1 x13)).bind fun t387=>(if t387=true then (qch.l0 k x0 x1 x12 (wrap64 (x13+1))) else (some false))) else (none)) else (none)) else (none)) else (some true)
def qch.f (k:Nat) (l0:List (List Int)) (l1:List (List Int)):Option (Bool):=if (l0.length:Int)=(l1.length:Int) then (qch.l0 k l0 l1 (l0.length:Int) 0) else (some false)
theorem qch.mono_l:∀ k,(∀ y0 y1 y2 y3,LeO (qch.l0 k y0 y1 y2 y3) (qch.l0 (k+1) y0 y1 y2 y3))
 | 0=>fun _ _ _ _ r h=>by simp [qch.l0] at h
 | k+1=>by
  have ih0:=qch.mono_l k
  ·intro y0 y1 y2 y3
   unfold qch.l0
   repeat' first
   | (with_reducible exact ih0 _ _ _ _)
   | (with_reducible exact qak.mono _ _ _)
   | (with_reducible exact LeO.refl _)
   | (with_reducible exact LeO.none _)
   | (with_reducible refine LeO.ite ?_ ?_)
   | (with_reducible refine LeO.bind ?_ (fun _=>?_))
   | exact ih0 _ _ _ _
   | exact qak.mono _ _ _
   | exact LeO.none _
   | refine LeO.ite ?_ ?_
   | refine LeO.bind ?_ (fun _=>?_)
theorem qch.mono:∀ a0 a1 k,LeO (qch.f k a0 a1) (qch.f (k+1) a0 a1):=by
 intro a0 a1 k
 have ih0:=qch.mono_l k
 unfold qch.f
 repeat' first
   | (with_reducible exact ih0 _ _ _ _)
   | (with_reducible exact qak.mono _ _ _)
   | (with_reducible exact LeO.refl _)
   | (with_reducible exact LeO.none _)
   | (with_reducible refine LeO.ite ?_ ?_)
   | (with_reducible refine LeO.bind ?_ (fun _=>?_))
   | exact ih0 _ _ _ _
   | exact qak.mono _ _ _
   | exact LeO.none _
   | refine LeO.ite ?_ ?_
   | refine LeO.bind ?_ (fun _=>?_)
end Go.Proofs.YtmfjmbcfaamebaaDoor.X
namespace Go.Proofs.YtmfjmbcfaamebaaDoor.X
open Go.RowKit Go.Proofs.YtmfjmbcfaamebaaDoorW.PrintWords Go.Proofs.YtmfjmbcfaamebaaDoorW.PrintLast Go.Proofs.YtmfjmbcfaamebaaDoorW.PrintMore
attribute [local go_sem] qbr qcc
set_option linter.unusedVariables false
set_option linter.unusedSimpArgs false
def qbm.l0:Nat→List Int→List Int→Int→Int→Option (List Int)
 | 0,_,_,_,_=>none
 | k+1,x3,x5,x17,x18=>if x18<x17 then (if 0≤(wrap64 ((wrap64 ((x3.length:Int)-1))-x18)) then (if (wrap64 ((wrap64 ((x3.length:Int)-1))-x18))<(x3.length:Int) then (if x5.length<17592186044416 then (qbm.l0 k x3 (x5++[rd x3 (wrap64 ((wrap64 ((x3.length:Int)-1))-x18))]) x17 (wrap64 (x18+1))) else (none)) else (none)) else (none)) else (some x5)
def qbm.f (k:Nat) (a0_0:Bool) (a0_1:Int) (l0_2:List (S60)):Option (List Int):=if (l0_2.length:Int)=0 then (some ([]:List Int)) else ((qaz.f k a0_0 a0_1 l0_2 0 ([]:List Int)).bind fun bt444=>(qbm.l0 k bt444.1 ([]:List Int) (bt444.1.length:Int) 0))
theorem qbm.mono_l:∀ k,(∀ y0 y1 y2 y3,LeO (qbm.l0 k y0 y1 y2 y3) (qbm.l0 (k+1) y0 y1 y2 y3))
 | 0=>fun _ _ _ _ r h=>by simp [qbm.l0] at h
 | k+1=>by
  have ih0:=qbm.mono_l k
  ·intro y0 y1 y2 y3
   unfold qbm.l0
   repeat' first|(with_reducible exact ih0 _ _ _ _)|(with_reducible exact LeO.refl _)|(with_reducible refine LeO.ite ?_ ?_)
theorem qbm.mono:∀ a0 a1 a2 k,LeO (qbm.f k a0 a1 a2) (qbm.f (k+1) a0 a1 a2):=by
 intro a0 a1 a2 k
 have ih0:=qbm.mono_l k
 unfold qbm.f
 repeat' first|(with_reducible exact ih0 _ _ _ _)|(with_reducible exact qaz.mono _ _ _ _ _ _)|(with_reducible exact LeO.refl _)|(with_reducible refine LeO.ite ?_ ?_)|(with_reducible refine LeO.bind ?_ (fun _=>?_))
end Go.Proofs.YtmfjmbcfaamebaaDoor.X
namespace Go.Proofs.YtmfjmbcfaamebaaDoor.X
noncomputable section
open Go.RowKit Go.Proofs.YtmfjmbcfaamebaaDoorW.PrintWords Go.Proofs.YtmfjmbcfaamebaaDoorW.PrintLast Go.Proofs.YtmfjmbcfaamebaaDoorW.PrintMore
attribute [local go_sem] qbr qcc
set_option linter.unusedVariables false
set_option linter.unusedSimpArgs false
def qee.f (k:Nat) (a0_0:Bool) (a0_1:Int) (l0_2:List (S60)):Option (Bool):=(qbt.f k).bind fun t400=>(if t400=true then ((qas.f k a0_0 a0_1 l0_2).bind fun t401=>(if t401=true then ((qbi.f k a0_0 a0_1 l0_2).bind fun t402=>((qba.f k a0_0 a0_1 l0_2).bind fun t405=>((qch.f k t402 t405).bind fun t408=>(if t408=true then ((qbx.f k a0_0 a0_1 l0_2).bind fun t409=>((qax.f k a0_0 a0_1 l0_2).bind fun t412=>((qch.f k t409 t412).bind fun t415=>(some t415)))) else (some false))))) else (some true))) else (some false))
theorem qee.mono:∀ a0 a1 a2 k,LeO (qee.f k a0 a1 a2) (qee.f (k+1) a0 a1 a2):=by
 intro a0 a1 a2 k
 unfold qee.f
 repeat' first|(with_reducible exact qbx.mono _ _ _ _)|(with_reducible exact qbi.mono _ _ _ _)|(with_reducible exact qbt.mono _)|(with_reducible exact qch.mono _ _ _)|(with_reducible exact qax.mono _ _ _ _)|(with_reducible exact qas.mono _ _ _ _)|(with_reducible exact qba.mono _ _ _ _)|(with_reducible exact LeO.refl _)|(with_reducible refine LeO.ite ?_ ?_)|(with_reducible refine LeO.bind ?_ (fun _=>?_))
end
end Go.Proofs.YtmfjmbcfaamebaaDoor.X
namespace Go.Proofs.YtmfjmbcfaamebaaDoor.X
noncomputable section
open Go.RowKit Go.Proofs.YtmfjmbcfaamebaaDoorW.PrintWords Go.Proofs.YtmfjmbcfaamebaaDoorW.PrintLast Go.Proofs.YtmfjmbcfaamebaaDoorW.PrintMore
attribute [local go_sem] qbr qcc
set_option linter.unusedVariables false
set_option linter.unusedSimpArgs false
def qed.f (k:Nat) (a0_0:Bool) (a0_1:Int) (l0_2:List (S60)):Option (Bool):=(qbt.f k).bind fun t455=>(if t455=true then ((qas.f k a0_0 a0_1 l0_2).bind fun t456=>(if t456=true then ((qdk.f k a0_0 a0_1 l0_2).bind fun t457=>((qbm.f k a0_0 a0_1 l0_2).bind fun t460=>((qak.f k t457 t460).bind fun t463=>(some t463)))) else (some true))) else (some false))
theorem qed.mono:∀ a0 a1 a2 k,LeO (qed.f k a0 a1 a2) (qed.f (k+1) a0 a1 a2):=by
 intro a0 a1 a2 k
 unfold qed.f
 repeat' first|(with_reducible exact qdk.mono _ _ _ _)|(with_reducible exact qbt.mono _)|(with_reducible exact qak.mono _ _ _)|(with_reducible exact qbm.mono _ _ _ _)|(with_reducible exact qas.mono _ _ _ _)|(with_reducible exact LeO.refl _)|(with_reducible refine LeO.ite ?_ ?_)|(with_reducible refine LeO.bind ?_ (fun _=>?_))
end
end Go.Proofs.YtmfjmbcfaamebaaDoor.X
namespace Go.Proofs.YtmfjmbcfaamebaaDoor.X
open Go.RowKit Go.Proofs.YtmfjmbcfaamebaaDoorW.PrintWords Go.Proofs.YtmfjmbcfaamebaaDoorW.PrintLast Go.Proofs.YtmfjmbcfaamebaaDoorW.PrintMore
theorem getD_set (x:List Int) (i p:Nat) (v:Int) (hi:i<x.length):(x.set i v).getD p 0=if p=i then v else x.getD p 0:=by
 by_cases e:p=i
 ·subst e;rw [if_pos rfl,List.getD_eq_getElem?_getD,List.getElem?_set_self hi];rfl
 ·rw [if_neg e,List.getD_eq_getElem?_getD,List.getElem?_set_ne (fun h=>e h.symm),← List.getD_eq_getElem?_getD]
theorem rev_from (n:Nat) (hn:n<100000):∀ (m i:Nat) (x:List Int),n-2*i≤m→x.length=n→
  ∃ r,Ev (fun k=>qan.l0 k x (i:Int) ((n:Int)-1-(i:Int))) r∧r.length=n∧∀ p,p<n→r.getD p 0=if i≤p∧p+i+1≤n then x.getD (n-1-p) 0 else x.getD p 0:=by
 intro m
 induction m with
 | zero=>
  intro i x hm hl
  refine ⟨x,Ev.next (Ev.const x) (fun k=>?_),hl,fun p hp=>?_⟩
  ·rw [qan.l0,if_neg (by omega)]
  ·by_cases h:i≤p∧p+i+1≤n
   ·omega
   ·rw [if_neg h]
 | succ m ih=>
  intro i x hm hl
  by_cases hij:2*i+1<n
  ·have hi:i<x.length:=by omega
   have hj:n-1-i<x.length:=by omega
   obtain ⟨r,h1,h2,h3⟩:=ih (i+1) ((x.set i (x.getD (n-1-i) 0)).set (n-1-i) (x.getD i 0)) (by omega) (by simp [hl])
   refine ⟨r,Ev.next h1 (fun k=>?_),h2,fun p hp=>?_⟩
   ·have e1:((n:Int)-1-(i:Int))=((n-1-i:Nat):Int):=by omega
    have e2:((n:Int)-1-((i+1:Nat):Int))=((n-1-i:Nat):Int)-1:=by omega
    have c1:((i:Int)<((n-1-i:Nat):Int))=True:=eq_true (by omega)
    have c2:(0≤((n-1-i:Nat):Int))=True:=eq_true (by omega)
    have c3:(((n-1-i:Nat):Int)<(x.length:Int))=True:=eq_true (by omega)
    have c4:(0≤(i:Int))=True:=eq_true (by omega)
    have c5:((i:Int)<(x.length:Int))=True:=eq_true (by omega)
    have hw:=qdf (show i<9223372036854775807 by omega)
    have hb1:(-9223372036854775808:Int)≤((n-1-i:Nat):Int)-1:=by omega
    have hb2:((n-1-i:Nat):Int)-1<9223372036854775808:=by omega
    have hw2:=qfi hb1 hb2
    rw [qan.l0]
    simp only [e1,e2,c1,c2,c3,c4,c5,if_true,hw,hw2,qib,Int.toNat_natCast]
   ·rw [h3 p hp]
    have hj':n-1-i<(x.set i (x.getD (n-1-i) 0)).length:=by simpa using hj
    by_cases h:i+1≤p∧p+(i+1)+1≤n
    ·rw [if_pos h,if_pos (by omega),getD_set _ _ _ _ hj',if_neg (by omega),getD_set _ _ _ _ hi,if_neg (by omega)]
    ·rw [if_neg h,getD_set _ _ _ _ hj']
     by_cases e:p=n-1-i
     ·rw [if_pos e,if_pos (by omega),show n-1-p=i by omega]
     ·rw [if_neg e,getD_set _ _ _ _ hi]
      by_cases e2:p=i
      ·rw [if_pos e2,if_pos (by omega),e2]
      ·rw [if_neg e2,if_neg (by omega)]
  ·refine ⟨x,Ev.next (Ev.const x) (fun k=>?_),hl,fun p hp=>?_⟩
   ·rw [qan.l0,if_neg (by omega)]
   ·by_cases h:i≤p∧p+i+1≤n
    ·rw [if_pos h,show n-1-p=p by omega]
    ·rw [if_neg h]
theorem ext_getD {a b:List Int} (hl:a.length=b.length) (h:∀ p,p<a.length→a.getD p 0=b.getD p 0):a=b:=by
 refine List.ext_getElem hl (fun p h1 h2=>?_)
 have:=h p h1
 rwa [List.getD_eq_getElem?_getD,List.getD_eq_getElem?_getD,List.getElem?_eq_getElem h1,List.getElem?_eq_getElem h2] at this
theorem getD_reverse {l:List Int} {p:Nat} (hp:p<l.length):l.reverse.getD p 0=l.getD (l.length-1-p) 0:=by
 rw [List.getD_eq_getElem?_getD,List.getD_eq_getElem?_getD,List.getElem?_reverse hp]
theorem rev_ev (l:List Int) (hl:l.length<100000):Ev (fun k=>qan.f k l) l.reverse:=by
 obtain ⟨r,h1,h2,h3⟩:=rev_from l.length hl l.length 0 l (by omega) rfl
 have e:r=l.reverse:=by
  refine ext_getD (by simp [h2]) (fun p hp=>?_)
  rw [h2] at hp
  rw [h3 p hp,if_pos (by omega),getD_reverse hp]
 subst e
 refine h1.congr (fun k=>?_)
 have hb:wrap64 ((l.length:Int)-1)=(l.length:Int)-1:=qfi (by omega) (by omega)
 rw [qan.f,hb,show ((l.length:Int)-1-((0:Nat):Int))=(l.length:Int)-1 by omega]
 rfl
theorem rord_from (x:List Int) (hl:x.length<100000):∀ (m i:Nat),i+m=x.length→Ev (fun k=>qbm.l0 k x (x.reverse.take i) (x.length:Int) (i:Int)) x.reverse
 | 0,i,hi=>by
  rw [List.take_of_length_le (by simp;omega)]
  refine Ev.next (Ev.const _) (fun k=>?_)
  rw [qbm.l0,if_neg (by omega)]
 | m+1,i,hi=>by
  have h:=rord_from x hl m (i+1) (by omega)
  have hir:i<x.reverse.length:=by simp;omega
  rw [List.take_succ_eq_append_getElem hir] at h
  refine Ev.next h (fun k=>?_)
  have c1:((i:Int)<(x.length:Int))=True:=eq_true (by omega)
  have c2:(0≤((x.length-1-i:Nat):Int))=True:=eq_true (by omega)
  have c3:(((x.length-1-i:Nat):Int)<(x.length:Int))=True:=eq_true (by omega)
  have c4:((x.reverse.take i).length<17592186044416)=True:=eq_true (by rw [List.length_take];omega)
  have e1:((x.length:Int)-1-(i:Int))=((x.length-1-i:Nat):Int):=by omega
  have hb1:(-9223372036854775808:Int)≤(x.length:Int)-1:=by omega
  have hb2:(x.length:Int)-1<9223372036854775808:=by omega
  have hb3:(-9223372036854775808:Int)≤(x.length:Int)-1-(i:Int):=by omega
  have hb4:(x.length:Int)-1-(i:Int)<9223372036854775808:=by omega
  have hwi:i<9223372036854775807:=by omega
  have hix:i<x.length:=by omega
  have e2:rd x ((x.length-1-i:Nat):Int)=x.reverse[i]:=by
   rw [qib,← getD_reverse hix,List.getD_eq_getElem?_getD,List.getElem?_eq_getElem hir];rfl
  have hw:=qdf hwi
  have hw1:=qfi hb1 hb2
  have hw2:=qfi hb3 hb4
  rw [e1] at hw2
  rw [qbm.l0]
  simp only [c1,c2,c3,c4,if_true,hw,hw1,hw2,e1,e2]
theorem Order_ev (a:Bool) (b:Int) {l:List S60} (hN:l.length≤14):∃ p s',(l=[]∧p=[]∨l≠[]∧Dfs (Tg l) [] [0] p s')∧p.length≤l.length∧Ev (fun k=>qdk.f k a b l) p.reverse∧Ev (fun k=>qbm.f k a b l) p.reverse:=by
 by_cases hl:l=[]
 ·subst hl
  refine ⟨[],[],.inl ⟨rfl,rfl⟩,by simp,(Ev.const []).congr (fun k=>?_),(Ev.const []).congr (fun k=>?_)⟩
  ·rw [qdk.f,if_pos (by rfl)]
  ·rw [qbm.f,if_pos (by rfl)]
 ·have hpos:0<l.length:=List.length_pos_iff.2 hl
  obtain ⟨p,s',h1,h2⟩:=dfs_exists l [] [0] (fun t ht=>by rw [List.mem_singleton.1 ht];omega)
  refine ⟨p,s',.inr ⟨hl,h1⟩,h2,?_,?_⟩
  ·have hm:Mk l.length (List.replicate l.length false) []:=by
    refine ⟨by simp,fun x hx=>?_⟩
    rw [List.getD_eq_getElem?_getD,List.getElem?_replicate,if_pos hx]
    simp
   obtain ⟨bs',h3,_⟩:=cpost_ev a b l (x:=0) h1 hpos hm [] (by simp;omega)
   have h4:=rev_ev p (by omega)
   refine (Ev.bind h3 (g:=fun k bt=>(qan.f k bt.1).bind fun t=>some t) (Ev.bind h4 (Ev.const _))).congr (fun k=>?_)
   rw [qdk.f,if_neg (by omega),if_pos (by omega),if_pos (by omega),Int.toNat_natCast]
   rfl
  ·have h3:=rvisit_ev a b l h1 (by omega) (by omega) (by simp;omega)
   have h4:=rord_from p (by omega) p.length 0 (by omega)
   refine (Ev.bind h3 (g:=fun k bt=>qbm.l0 k bt.1 [] (bt.1.length:Int) 0) h4).congr (fun k=>?_)
   rw [qbm.f,if_neg (by omega)]
end Go.Proofs.YtmfjmbcfaamebaaDoor.X
namespace Go.Proofs.YtmfjmbcfaamebaaDoor.X
noncomputable section
open Go.RowKit Go.Proofs.YtmfjmbcfaamebaaDoorW.PrintWords Go.Proofs.YtmfjmbcfaamebaaDoorW.PrintLast Go.Proofs.YtmfjmbcfaamebaaDoorW.PrintMore
theorem small_from (a:Bool) (b:Int) (l:List S60) (hl:l.length≤9223372036854775807):∀ (m i:Nat) (x:Int),i+m=l.length→∃ r,Ev (fun k=>qas.l0 k x l (l.length:Int) (i:Int) a b l) r∧(r=true→l.length≤14)
 | 0,i,x,hi=>by
  by_cases h:l.length≤14
  ·refine ⟨decide (x≤80),Ev.next (Ev.const _) (fun k=>?_),fun _=>h⟩
   rw [qas.l0,if_neg (by omega),if_pos (by omega)]
  ·refine ⟨false,Ev.next (Ev.const _) (fun k=>?_),fun e=>by cases e⟩
   rw [qas.l0,if_neg (by omega),if_neg (by omega)]
 | m+1,i,x,hi=>by
  obtain ⟨r,h1,h2⟩:=small_from a b l hl m (i+1) (wrap64 (x+(((qaq l (i:Int)).f0).length:Int))) (by omega)
  refine ⟨r,Ev.next h1 (fun k=>?_),h2⟩
  rw [qas.l0,if_pos (by omega),if_pos (by omega),if_pos (by omega),qdf (show i<9223372036854775807 by omega)]
theorem small_ev (a:Bool) (b:Int) (l:List S60) (hl:l.length≤9223372036854775807):∃ r,Ev (fun k=>qas.f k a b l) r∧(r=true→l.length≤14):=small_from a b l hl l.length 0 0 (by omega)
def ex3:List S60:=[(⟨([]:List (S85)),2,0,1,2⟩:S60),(⟨([]:List (S85)),1,0,0,0⟩:S60),(⟨([]:List (S85)),3,0,0,0⟩:S60)]
theorem qhv:ex3.length≤14:=by decide
theorem ex3_back:qco.f 40 false 0 ex3=some [⟨1,0⟩]:=by kernel_rfl
theorem ex3_order:qbm.f 40 false 0 ex3=some [0,2,1]:=by kernel_rfl
theorem ex3_imm:qct.f 40 false 0 ex3=some [-1,0,0]:=by kernel_rfl
theorem ex3_loop:qaw.f 40 false 0 ex3 1 0=some [0,1]:=by kernel_rfl
theorem backs_ex3:qho ex3=[⟨1,0⟩]:=((rback_ev false 0 qhv).det (qco.mono _ _ _) ex3_back).symm
theorem awake_ev:Ev (fun k=>qbt.f k) true:=by
 obtain ⟨p,_,_,_,h1,h2⟩:=Order_ev false 0 qhv
 have e1:[0,2,1]=p.reverse:=h2.det (qbm.mono _ _ _) ex3_order
 rw [← e1] at h1
 have e2:[-1,0,0]=idoms ex3:=(rimm_ev false 0 qhv).det (qct.mono _ _ _) ex3_imm
 have h3:=cimm_f false 0 qhv
 rw [← e2] at h3
 have h4:=cback_ev false 0 qhv
 rw [backs_ex3] at h4
 have hin:(⟨1,0⟩:S39)∈qho ex3:=by rw [backs_ex3];simp
 obtain ⟨r,h5,h6,h7,_⟩:=cloop_ev false 0 qhv 1 0
 obtain ⟨r',h8,h9,_⟩:=rloop_ev false 0 qhv 1 0
 have e3:[0,1]=r':=h8.det (qaw.mono _ _ _ _ _) ex3_loop
 have e4:els r=[0,1]:=by rw [e3];exact (h7 hin).uniq (h9 hin)
 have h10:qbj.f r=some (strT r):=by
  unfold qbj.f
  rw [e4,if_pos]
  exact ⟨h6.ok,by decide,by decide,by decide,by decide +kernel⟩
 have h11:((strT r).toList==([123,48,32,49,125]:List UInt8))=true:=by
  unfold strT
  rw [e4]
  kernel_rfl
 have q1:=Equal_ev [0,2,1] [0,2,1] (by decide)
 have q2:=Equal_ev [-1,0,0] [-1,0,0] (by decide)
 simp only [qbt.f,Option.bind_some]
 refine Ev.bind h4 (Ev.bind h1 (Ev.bind q1 (Ev.ifp (decide_eq_true rfl) ?_)))
 refine Ev.bind (Ev.fix h3) (Ev.bind q2 (Ev.ifp (decide_eq_true rfl) (Ev.ifp (by decide) (Ev.ifp (by decide) (Ev.ifp (by kernel_rfl) ?_)))))
 refine Ev.bind h5 ?_
 refine Ev.bind (Ev.fix h10) ?_
 rw [h11]
 exact Ev.const _
theorem list_f {ws:List Int} (hw:GS ws) (hl:(els ws).length<100000):qcl.f ws=some (els ws):=by
 unfold qcl.f
 rw [if_pos ⟨hw.ok,hl⟩]
end
end Go.Proofs.YtmfjmbcfaamebaaDoor.X
namespace Go.Proofs.YtmfjmbcfaamebaaDoor.X
noncomputable section
open Go.RowKit Go.Proofs.YtmfjmbcfaamebaaDoorW.PrintWords Go.Proofs.YtmfjmbcfaamebaaDoorW.PrintLast Go.Proofs.YtmfjmbcfaamebaaDoorW.PrintMore
theorem eq_true_ev {a:List Int} (h:a.length<4611686018427387904):Ev (fun k=>qak.f k a a) true:=by
 have:=Equal_ev a a h
 rwa [decide_eq_true rfl] at this
theorem Has_els {ws:List Int} (hw:GS ws) (x:Int):qbu.f ws x=some (decide (x∈els ws)):=by
 rw [Has_f hw.wd]
 congr 1
 rw [Bool.eq_iff_iff,Bool.and_eq_true,decide_eq_true_eq,decide_eq_true_eq]
 constructor
 ·rintro ⟨h1,h2⟩
  have:=qdw.2 h2
  rwa [show ((x.toNat:Nat):Int)=x by omega] at this
 ·intro h
  obtain ⟨n,rfl,hn⟩:=qel h
  exact ⟨hw.els_len h,by rw [Int.toNat_natCast];exact hn⟩
theorem CFGReachability_ev (a:Bool) (b:Int) (l:List S60) (hl:l.length≤9223372036854775807) (x0 x1:Int) (av:List Int):Ev (fun k=>qai.f k a b l x0 x1 av) true:=by
 obtain ⟨r,h1,h2⟩:=small_ev a b l hl
 unfold qai.f
 refine Ev.bind awake_ev (Ev.ifp rfl (Ev.bind h1 ?_))
 cases r with
 | false=>
  refine Ev.ifn (by decide) (Ev.next (Ev.const true) (fun k=>?_))
  rw [qai.j0,if_pos rfl]
 | true=>
  have hN:=h2 rfl
  refine Ev.ifp rfl (Ev.succ ?_)
  by_cases hlen:(av.length:Int)>20
  ·simp only [qai.j0,decide_eq_true hlen,if_true]
   exact Ev.const true
  ·simp only [qai.j0,decide_eq_false hlen,Bool.false_eq_true,if_false]
   obtain ⟨r1,p1,p2,p3⟩:=cReach_ev a b hN x0
   obtain ⟨q1,p4,p5⟩:=rReach_ev a b hN x0
   have e1:els r1=q1:=p3.uniq p5
   have hq1:=qfe p5.1 (fun x hx=>p5.range hx)
   have p6:qcl.f r1=some q1:=by rw [list_f p2 (by rw [e1];omega),e1]
   obtain ⟨ws,p7,p8,p9⟩:=Of_ev av (by omega)
   obtain ⟨r2,g1,g2,g3⟩:=cavoid_ev a b hN x0 p8
   obtain ⟨q2,g4,g5⟩:=reach_ev a b hN x0 av (by omega)
   have g6:qgh l (fun y=>y∈av) x0 (els r2):=g3.congr (fun x h0 h1=>by
    obtain ⟨n,rfl⟩:=Int.eq_ofNat_of_zero_le h0
    rw [qdw,p9,qhs]
    exact ⟨fun h=>h.1,fun h=>⟨h,by omega⟩⟩)
   have e2:els r2=q2:=g6.uniq g5
   have hq2:=qfe g5.1 (fun x hx=>g5.range hx)
   have g7:=Has_els g2 x1
   rw [e2] at g7
   have g8:=qfv q2 x1 (by omega)
   refine Ev.bind p1 (Ev.bind (Ev.fix p6) (Ev.bind (Ev.bind p4 (Ev.const q1)) (Ev.bind (eq_true_ev (by omega)) (Ev.ifp rfl ?_))))
   refine Ev.bind p7 (Ev.bind (Ev.bind g1 (Ev.bind (Ev.fix g7) (Ev.const _))) (Ev.bind (Ev.bind g4 (Ev.bind g8 (Ev.const _))) ?_))
   rw [beq_self_eq_true]
   exact Ev.const true
end
end Go.Proofs.YtmfjmbcfaamebaaDoor.X
namespace Go.Proofs.YtmfjmbcfaamebaaDoor.X
open Go.RowKit Go.Proofs.YtmfjmbcfaamebaaDoorW.PrintWords Go.Proofs.YtmfjmbcfaamebaaDoorW.PrintLast Go.Proofs.YtmfjmbcfaamebaaDoorW.PrintMore
open Go.ChangeShapes Go.WideShapes Go.ChangeAt
set_option maxRecDepth 100000 in
theorem cFGReachability_lifted (os:Os) (started:os.Started) (H:Type) (enc:TypeId×Value→H) :
  ReturnsInHanded {} Tryd.checked os 8 .any (fun w args=>(Rows.cFGReachabilitySpec.pre enc Tryd.prog Tryd.f8 [] false w args∧laidMetH Tryd.prog laid3 w)∧sizedMet enc Tryd.prog Tryd.f8 (OpenSpec.ofChange Rows.cFGReachabilitySpec) false w args)
   (Rows.cFGReachabilitySpec.post enc Tryd.prog Tryd.f8 false true false false):=by
 refine returnsInHanded_of_change_and (C:=Tryd.checked) (X:=fun w _=>laidMetH Tryd.prog laid3 w) (fun _ _ _ hh h=>h.of_heap hh) own started (by kernel_rfl) Tryd.func8
  (ChangeSpec.witness_shaped (enc:=enc) (C:=Tryd.checked) (os:=os) (X:=fun w _=>laidMetH Tryd.prog laid3 w) false (World.doorLaid Tryd.prog 400 os) #[.agg #[.bool false,.int .i64 0,.slice none 0 0],.agg #[.int .i64 0,.int .i64 0],.slice none 0 0] 8 rfl (World.shaped_of_RefB (by kernel_rfl) (by kernel_rfl)) (by kernel_rfl) (by kernel_rfl) (by kernel_rfl) (door_met os _)) ?_
 intro W base args ds gs before hval0 hW _ _ hL _
 have hval:∀ (j:Nat) t v,Tryd.f8.params[j]?=some t→args[j]?=some v→Value.okWide Tryd.prog W .any base t v:=hval0
 have hW':=hW
 obtain ⟨p,q,hA0,hV,rfl,hfz,hnd⟩:=hW
 have hA:DataW.TrodAll enc Tryd.prog W 0 (fun _=>true) true Tryd.f8.params.toList args.toList ds p:=hA0
 rw [Tryd.params8] at hA hval
 obtain ⟨v0,vs0,d0,ds0,p0,q0,hargs,rfl,rfl,h0,r0⟩:=trodAll_cons hA
 obtain ⟨v1,vs1,d1,ds1,p1,q1,rfl,rfl,rfl,h1,r1⟩:=trodAll_cons r0
 obtain ⟨v2,vs2,d2,ds2,p2,q2,rfl,rfl,rfl,h2,r2⟩:=trodAll_cons r1
 obtain ⟨rfl,rfl,rfl⟩:=trodAll_nil r2
 obtain rfl:args=#[v0,v1,v2]:=by cases args;simp_all
 obtain ⟨rfl,rfl⟩:=trodVars_none hV
 have k0:=h0
 have lt0:∀ x∈p0,x.block<W.heap.size:=by obtain ⟨m,hm⟩:=k0;exact DataW.trod_lt m _ _ _ hm
 have k1:=h1
 have lt1:∀ x∈p1,x.block<W.heap.size:=by obtain ⟨m,hm⟩:=k1;exact DataW.trod_lt m _ _ _ hm
 have k2:=h2
 have lt2:∀ x∈p2,x.block<W.heap.size:=by obtain ⟨m,hm⟩:=k2;exact DataW.trod_lt m _ _ _ hm
 obtain ⟨a0,b0,A0,c0,l0,rfl,hc0,hr0⟩:=open_func (hval 0 24 v0 rfl rfl) h0
 obtain ⟨x1,y1,rfl⟩:=open_edge (hval 1 39 v1 rfl rfl) h1
 obtain ⟨A2,c2,l2,rfl,hc2,hr2⟩:=open_list (hval 2 31 v2 rfl rfl) h2
 have hT:=tab_of_laid hL
 obtain ⟨K,hK⟩:=CFGReachability_ev a0 b0 l0 hr0.2.1 x1 y1 l2
 refine (qai.calls K a0 b0 A0 c0 l0 x1 y1 A2 c2 l2 true W hT hr0 hc0 hr2 hc2 (hK K (Nat.le_refl _))).mono fun e W' ⟨he,bel⟩=>?_
 subst he
 exact ⟨_,rfl,_,_,_,[],_,[],hW',trodAll_mk1 (shut_bool Tryd.underlying4 _),(trodAll_cons_mk (Below.trod laidOut (by kernel_rfl) (of_decide_eq_true (by kernel_rfl)) k0 bel lt0) (trodAll_cons_mk (Below.trod laidOut (by kernel_rfl) (of_decide_eq_true (by kernel_rfl)) k1 bel lt1) (trodAll_cons_mk (Below.trod laidOut (by kernel_rfl) (of_decide_eq_true (by kernel_rfl)) k2 bel lt2) trodAll_mk0))),rfl,bel.frame _,fun h=>by cases h⟩
theorem cFGReachability_over:Rows.CFGReachabilitySaid:=
 OpenClaim.holds_of_wide 8 Tryd.f8 rfl rfl rfl rfl rfl rfl rfl ⟨rfl,rfl,rfl,rfl,rfl⟩ rfl rfl rfl rfl rfl (by kernel_rfl) Tryd.func8 (by kernel_rfl)
  (of_decide_eq_true (by kernel_rfl)) (by unfold Func.isWrapper;first|(rw [if_pos (by decide +kernel)];kernel_rfl)|(rw [if_neg (by decide +kernel)];exact ⟨rfl,rfl⟩))
  (fun os started H enc _=>cFGReachability_lifted os started H enc)
end Go.Proofs.YtmfjmbcfaamebaaDoor.X
namespace Go.Proofs.YtmfjmbcfaamebaaDoor
open Go
theorem cFGReachability_card:Rows.CFGReachabilityCardSaid:=
 Claim7.holds_tied_plain_at .later [] [.data,.data,.data] true (true,"c8b5de7ce23ca5823bd3b2a7e765479804d6c7690af3a87feb374392540dd41b") false
  X.cFGReachability_over (fun _ h=>by cases h) (by kernel_rfl) (fun _ h=>by cases h) cFGReachability_row_tie rfl ⟨rfl,rfl⟩ (by kernel_rfl) rfl
  (fun f fn hf hfn=>by
   obtain rfl:f=8:=Option.some.inj ((show Tryd.prog.funcNamed "trickle/tricklelaw24.CFGReachability" = some 8 by kernel_rfl).symm.trans hf)|>.symm
   obtain rfl:fn=Tryd.f8:=(Option.some.inj (Tryd.func8.symm.trans hfn)).symm
   exact ⟨by kernel_rfl,fun j t ht=>by
    rw [Tryd.params8] at ht
    have hm:t∈[24,39,31]:=by simpa using Array.mem_of_getElem? ht
    have hall:([24,39,31].all fun u=>!Tryd.prog.wantsStandIn u)=true:=by kernel_rfl
    exact (show Tryd.prog.wantsStandIn t=false by simpa using List.all_eq_true.1 hall t hm)⟩)
  (by kernel_rfl)
end Go.Proofs.YtmfjmbcfaamebaaDoor
