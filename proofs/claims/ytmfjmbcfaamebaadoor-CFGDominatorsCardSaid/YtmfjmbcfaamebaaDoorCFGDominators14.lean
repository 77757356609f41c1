/- Parts of the proof of the law CFGDominators: words, walks of single functions and plain laws, joined by a program out of the session's texts. -/
import Derived.Test.YtmfjmbcfaamebaaDoorCFGDominators13
set_option linter.unusedVariables false
set_option linter.unusedSimpArgs false
namespace Go.Proofs.YtmfjmbcfaamebaaDoor.X
open Go.RowKit Go.Proofs.YtmfjmbcfaamebaaDoorW.PrintWords Go.Proofs.YtmfjmbcfaamebaaDoorW.PrintLast Go.Proofs.YtmfjmbcfaamebaaDoorW.PrintMore
theorem drop_cons {ts t0:List Int} {t:Int} {i:Nat} (h:ts.drop i=t::t0):i<ts.length∧rd ts (i:Int)=t∧ts.drop (i+1)=t0:=by
 have hi:i<ts.length:=by
  by_cases hi:i<ts.length
  ·exact hi
  ·rw [List.drop_eq_nil_of_le (by omega)] at h;cases h
 rw [List.drop_eq_getElem_cons hi] at h
 injection h with h1 h2
 exact ⟨hi,by rw [qgt hi,h1],h2⟩
theorem drop_nil {ts:List Int} {i:Nat} (h:ts.drop i=[]):ts.length≤i:=List.drop_eq_nil_iff.1 h
theorem rvisit_step (a:Bool) (b:Int) (l:List S60) {s ts:List Int} {t n:Int} {i:Nat} {out:List Int} {r1:List Int} {s1:List Int} {r:List Int×List Int}
  (h1:i<ts.length) (h2:rd ts (i:Int)=t) (hl:ts.length<100000) (ho:out.length+r1.length<100000) (hv:Ev (fun k=>qaz.f k a b l t s) (r1,s1))
  (h:Ev (fun k=>qaz.l0 k n s1 (out++r1) ts (ts.length:Int) ((i+1:Nat):Int) a b l) r):Ev (fun k=>qaz.l0 k n s out ts (ts.length:Int) (i:Int) a b l) r:=by
 refine Ev.succ ?_
 have c1:((i:Int)<(ts.length:Int))=True:=eq_true (by omega)
 have c2:(0≤(i:Int))=True:=eq_true (by omega)
 have c3:out.length+r1.length<17592186044416:=by omega
 have hw:=qcz (show i<9223372036854775807 by omega)
 simp only [qaz.l0,c1,c2,if_true,h2,hw]
 refine Ev.bind hv ?_
 exact Ev.ifp c3 h
theorem rvisit_from (a:Bool) (b:Int) (l:List S60) {s t0 p s':List Int} (hd:Dfs (Tg l) s t0 p s'):∀ (ts:List Int) (i:Nat) (n:Int) (out:List Int),ts.drop i=t0→ts.length<100000→(∀ t∈t0,0≤t∧t<(l.length:Int))→out.length+p.length<100000→s.length+p.length<100000→
  Ev (fun k=>qaz.l0 k n s out ts (ts.length:Int) (i:Int) a b l) (out++p++[n],s'):=by
 induction hd with
 | @nil s=>
  intro ts i n out ht _ _ ho _
  have:=drop_nil ht
  refine Ev.next (Ev.const _) (fun k=>?_)
  rw [qaz.l0,if_neg (by omega),if_pos (by simp at ho;omega),List.append_nil]
 | @skip s t t0 p s' hs _ ih=>
  intro ts i n out ht hl hr ho hsl
  obtain ⟨h1,h2,h3⟩:=drop_cons ht
  have h:=ih ts (i+1) n out h3 hl (fun t h=>hr t (List.mem_cons_of_mem _ h)) ho hsl
  have hh:=qga s t (by omega)
  rw [decide_eq_true hs] at hh
  have hv:Ev (fun k=>qaz.f k a b l t s) (([]:List Int),s):=by
   refine Ev.succ ?_
   simp only [qaz.f]
   refine Ev.bind hh ?_
   exact Ev.ifp rfl (Ev.const _)
  refine rvisit_step a b l h1 h2 hl (by simp;omega) hv ?_
  rw [List.append_nil]
  exact h
 | @go s t t0 p1 s1 p2 s2 hs hd1 _ ih1 ih2=>
  intro ts i n out ht hl hr ho hsl
  obtain ⟨h1,h2,h3⟩:=drop_cons ht
  obtain ⟨hr0,hr1⟩:=hr t (List.mem_cons_self ..)
  rw [List.length_append,List.length_cons] at ho hsl
  have hlen:=hd1.len
  rw [List.length_append,List.length_singleton] at hlen
  have h4:=ih1 (Tg l t) 0 t [] rfl (by have:=qew l t;omega) (fun t h=>qei h) (by simp;omega) (by simp;omega)
  have h5:=ih2 ts (i+1) n (out++(p1++[t])) h3 hl (fun t h=>hr t (List.mem_cons_of_mem _ h)) (by simp;omega) (by omega)
  have hh:=qga s t (by omega)
  rw [decide_eq_false hs] at hh
  have hv:Ev (fun k=>qaz.f k a b l t s) (p1++[t],s1):=by
   refine Ev.succ ?_
   simp only [qaz.f,Option.bind_some,List.nil_append,List.length_nil,Nat.zero_add]
   refine Ev.bind hh ?_
   refine Ev.ifn (by decide) (Ev.ifp (by omega) (Ev.ifp (by omega) ?_))
   refine Ev.bind (qho a b hr0 hr1) ?_
   exact h4
  refine rvisit_step a b l h1 h2 hl (by simp;omega) hv ?_
  rw [show out++(p1++t::p2)++[n]=out++(p1++[t])++p2++[n] by simp]
  exact h5
theorem rvisit_ev (a:Bool) (b:Int) (l:List S60) {s p s':List Int} {t:Int} (hd:Dfs (Tg l) s [t] p s') (h0:0≤t) (h1:t<l.length) (hsl:s.length+p.length<100000):Ev (fun k=>qaz.f k a b l t s) (p,s'):=by
 cases hd with
 | skip hs h=>
  cases h
  have hh:=qga s t (by omega)
  rw [decide_eq_true hs] at hh
  refine Ev.succ ?_
  simp only [qaz.f]
  refine Ev.bind hh ?_
  exact Ev.ifp rfl (Ev.const _)
 | @go _ _ _ p1 s1 p2 s2 hs h h'=>
  cases h'
  rw [List.length_append,List.length_cons] at hsl
  have h4:=rvisit_from a b l h (Tg l t) 0 t [] rfl (by have:=qew l t;omega) (fun t h=>qei h) (by simp;omega) (by simp;omega)
  have hh:=qga s t (by omega)
  rw [decide_eq_false hs] at hh
  refine Ev.succ ?_
  simp only [qaz.f,Option.bind_some,List.nil_append,List.length_nil,Nat.zero_add]
  refine Ev.bind hh ?_
  refine Ev.ifn (by decide) (Ev.ifp (by omega) (Ev.ifp (by omega) ?_))
  refine Ev.bind (qho a b h0 h1) ?_
  exact h4
def Mk (N:Nat) (bs:List Bool) (s:List Int):Prop:=bs.length=N∧∀ x:Nat,x<N→(bs.getD x false=true↔(x:Int)∈s)
theorem Mk.set {N:Nat} {bs:List Bool} {s:List Int} (h:Mk N bs s) {x:Nat} (hx:x<N):Mk N (bs.set x true) (s++[(x:Int)]):=by
 refine ⟨by rw [List.length_set,h.1],fun y hy=>?_⟩
 by_cases e:y=x
 ·subst e
  rw [List.getD_eq_getElem?_getD,List.getElem?_set_self (by rw [h.1];exact hx)]
  simp
 ·rw [List.getD_eq_getElem?_getD,List.getElem?_set_ne (fun h=>e h.symm),← List.getD_eq_getElem?_getD,h.2 y hy,List.mem_append,List.mem_singleton]
  exact ⟨.inl,fun h=>h.resolve_right (by omega)⟩
theorem rdOf_nat (bs:List Bool) (x:Nat):rdOf false bs (x:Int)=bs.getD x false:=by unfold rdOf;rw [Int.toNat_natCast]
theorem cpost_step (a:Bool) (b:Int) (l:List S60) {bs bs1:List Bool} {ts:List Int} {t n:Int} {i:Nat} {out out1:List Int} {r:List Int×List Bool}
  (h1:i<ts.length) (h2:rd ts (i:Int)=t) (hl:ts.length<100000) (hv:Ev (fun k=>qat.f k a b l t bs out) (out1,bs1))
  (h:Ev (fun k=>qat.l0 k n bs1 out1 ts (ts.length:Int) ((i+1:Nat):Int) a b l) r):Ev (fun k=>qat.l0 k n bs out ts (ts.length:Int) (i:Int) a b l) r:=by
 refine Ev.succ ?_
 have c1:((i:Int)<(ts.length:Int))=True:=eq_true (by omega)
 have c2:(0≤(i:Int))=True:=eq_true (by omega)
 have hw:=qcz (show i<9223372036854775807 by omega)
 simp only [qat.l0,c1,c2,if_true,h2,hw]
 refine Ev.bind hv ?_
 exact h
theorem cpost_skip (a:Bool) (b:Int) (l:List S60) {bs:List Bool} {s out:List Int} {x:Nat} (hm:Mk l.length bs s) (hx:x<l.length) (hs:(x:Int)∈s):Ev (fun k=>qat.f k a b l (x:Int) bs out) (out,bs):=by
 refine Ev.next (Ev.const _) (fun k=>?_)
 have c1:((x:Int)<(bs.length:Int)):=by rw [hm.1];omega
 rw [qat.f,if_pos (by omega),if_pos c1,rdOf_nat,if_pos ((hm.2 x hx).2 hs)]
theorem cpost_go (a:Bool) (b:Int) (l:List S60) {bs:List Bool} {s out:List Int} {x:Nat} {r:List Int×List Bool} (hm:Mk l.length bs s) (hx:x<l.length) (hs:(x:Int)∉s)
  (h:Ev (fun k=>qat.l0 k (x:Int) (bs.set x true) out (Tg l (x:Int)) ((Tg l (x:Int)).length:Int) 0 a b l) r):Ev (fun k=>qat.f k a b l (x:Int) bs out) r:=by
 refine Ev.next h (fun k=>?_)
 have c1:((x:Int)<(bs.length:Int)):=by rw [hm.1];omega
 rw [qat.f,if_pos (by omega),if_pos c1,rdOf_nat,if_neg (fun e=>hs ((hm.2 x hx).1 e)),if_pos (by omega),ctargets_f,Option.bind_some,Int.toNat_natCast]
theorem cpost_from (a:Bool) (b:Int) (l:List S60) {s t0 p s':List Int} (hd:Dfs (Tg l) s t0 p s'):∀ (ts:List Int) (i:Nat) (n:Int) (out:List Int) (bs:List Bool),ts.drop i=t0→ts.length<100000→(∀ t∈t0,0≤t∧t<(l.length:Int))→out.length+p.length<100000→Mk l.length bs s→
  ∃ bs',Ev (fun k=>qat.l0 k n bs out ts (ts.length:Int) (i:Int) a b l) (out++p++[n],bs')∧Mk l.length bs' s':=by
 induction hd with
 | @nil s=>
  intro ts i n out bs ht _ _ ho hm
  have:=drop_nil ht
  refine ⟨bs,Ev.next (Ev.const _) (fun k=>?_),hm⟩
  rw [qat.l0,if_neg (by omega),if_pos (by simp at ho;omega),List.append_nil]
 | @skip s t t0 p s' hs _ ih=>
  intro ts i n out bs ht hl hr ho hm
  obtain ⟨h1,h2,h3⟩:=drop_cons ht
  obtain ⟨hr0,hr1⟩:=hr t (List.mem_cons_self ..)
  obtain ⟨x,rfl⟩:=Int.eq_ofNat_of_zero_le hr0
  obtain ⟨bs',h,hm'⟩:=ih ts (i+1) n out bs h3 hl (fun t h=>hr t (List.mem_cons_of_mem _ h)) ho hm
  exact ⟨bs',cpost_step a b l h1 h2 hl (cpost_skip a b l hm (by omega) hs) h,hm'⟩
 | @go s t t0 p1 s1 p2 s2 hs hd1 _ ih1 ih2=>
  intro ts i n out bs ht hl hr ho hm
  obtain ⟨h1,h2,h3⟩:=drop_cons ht
  obtain ⟨hr0,hr1⟩:=hr t (List.mem_cons_self ..)
  obtain ⟨x,rfl⟩:=Int.eq_ofNat_of_zero_le hr0
  have hx:x<l.length:=by omega
  rw [List.length_append,List.length_cons] at ho
  obtain ⟨bs1,h4,hm1⟩:=ih1 (Tg l (x:Int)) 0 (x:Int) out (bs.set x true) rfl (by have:=qew l (x:Int);omega) (fun t h=>qei h) (by omega) (hm.set hx)
  obtain ⟨bs2,h5,hm2⟩:=ih2 ts (i+1) n (out++p1++[(x:Int)]) bs1 h3 hl (fun t h=>hr t (List.mem_cons_of_mem _ h)) (by simp;omega) hm1
  refine ⟨bs2,cpost_step a b l h1 h2 hl (cpost_go a b l hm hx hs h4) ?_,hm2⟩
  rw [show out++(p1++(x:Int)::p2)++[n]=out++p1++[(x:Int)]++p2++[n] by simp]
  exact h5
theorem cpost_ev (a:Bool) (b:Int) (l:List S60) {s p s':List Int} {x:Nat} {bs:List Bool} (hd:Dfs (Tg l) s [(x:Int)] p s') (hx:x<l.length) (hm:Mk l.length bs s) (out:List Int) (hl:out.length+p.length<100000):∃ bs',Ev (fun k=>qat.f k a b l (x:Int) bs out) (out++p,bs')∧Mk l.length bs' s':=by
 cases hd with
 | skip hs h=>
  cases h
  rw [List.append_nil]
  exact ⟨bs,cpost_skip a b l hm hx hs,hm⟩
 | @go _ _ _ p1 s1 p2 s2 hs h h'=>
  cases h'
  rw [List.length_append,List.length_cons] at hl
  obtain ⟨bs',h4,h5⟩:=cpost_from a b l h (Tg l (x:Int)) 0 (x:Int) out (bs.set x true) rfl (by have:=qew l (x:Int);omega) (fun t h=>qei h) (by omega) (hm.set hx)
  refine ⟨bs',cpost_go a b l hm hx hs ?_,h5⟩
  rw [List.append_assoc] at h4
  exact h4
def qds (N:Nat):List Int:=(List.range N).map (fun (i:Nat)=>(i:Int))
theorem qek {N:Nat} {x:Int}:x∈qds N↔0≤x∧x<N:=by
 unfold qds
 rw [List.mem_map]
 constructor
 ·rintro ⟨i,hi,rfl⟩
  have:=List.mem_range.1 hi
  omega
 ·intro h
  exact ⟨x.toNat,List.mem_range.2 (by omega),by omega⟩
theorem dfs_exists (l:List S60) (s ts:List Int) (ht:∀ t∈ts,0≤t∧t<(l.length:Int)):∃ p s',Dfs (Tg l) s ts p s'∧p.length≤l.length:=by
 obtain ⟨p,s',h1,_⟩:=Dfs.exists (T:=Tg l) (U:=qds l.length) (fun x _ y hy=>qek.2 (qei hy)) _ s ts (Nat.le_refl _) (fun t h=>qek.2 (ht t h))
 refine ⟨p,s',h1,?_⟩
 have hsub:∀ x∈p,x∈qds l.length:=by
  intro x hx
  obtain ⟨t,ht',hr⟩:=h1.reach x hx
  cases hr with
  | refl _=>exact qek.2 (ht _ ht')
  | step _ h _=>exact qek.2 (qei h)
 have:=h1.nodup.length_le_of_subset hsub
 simpa [qds] using this
end Go.Proofs.YtmfjmbcfaamebaaDoor.X
namespace Go.Proofs.YtmfjmbcfaamebaaDoor.X
open Go.RowKit Go.Proofs.YtmfjmbcfaamebaaDoorW.PrintWords Go.Proofs.YtmfjmbcfaamebaaDoorW.PrintLast Go.Proofs.YtmfjmbcfaamebaaDoorW.PrintMore
def qhg (av out ts:List Int):List Int:=ts.foldl (fun o t=>if t∈o∨t∈av then o else o++[t]) out
theorem qgs (av out ts:List Int) (t:Int):qhg av out (t::ts)=qhg av (if t∈out∨t∈av then out else out++[t]) ts:=rfl
theorem qgj (av:List Int):∀ (ts out:List Int),∃ e,qhg av out ts=out++e
 | [],out=>⟨[],by simp [qhg]⟩
 | t::ts,out=>by
  rw [qgs]
  split
  ·exact qgj av ts out
  ·obtain ⟨e,h⟩:=qgj av ts (out++[t])
   exact ⟨t::e,by rw [h];simp⟩
theorem qfn (av:List Int):∀ (ts out:List Int) (x:Int),x∈qhg av out ts↔x∈out∨(x∈ts∧x∉av)
 | [],out,x=>by simp [qhg]
 | t::ts,out,x=>by
  rw [qgs,qfn av ts]
  by_cases h:t∈out∨t∈av
  ·rw [if_pos h]
   constructor
   ·rintro (h'|h')
    ·exact .inl h'
    ·exact .inr ⟨List.mem_cons_of_mem _ h'.1,h'.2⟩
   ·rintro (h'|⟨h',h''⟩)
    ·exact .inl h'
    ·rcases List.mem_cons.1 h' with rfl|h'
     ·exact .inl (h.resolve_right h'')
     ·exact .inr ⟨h',h''⟩
  ·rw [if_neg h,List.mem_append,List.mem_singleton]
   constructor
   ·rintro ((h'|rfl)|h')
    ·exact .inl h'
    ·exact .inr ⟨List.mem_cons_self ..,fun e=>h (.inr e)⟩
    ·exact .inr ⟨List.mem_cons_of_mem _ h'.1,h'.2⟩
   ·rintro (h'|⟨h',h''⟩)
    ·exact .inl (.inl h')
    ·rcases List.mem_cons.1 h' with rfl|h'
     ·exact .inl (.inr rfl)
     ·exact .inr ⟨h',h''⟩
theorem qhi (av:List Int):∀ (ts out:List Int),out.Nodup→(qhg av out ts).Nodup
 | [],out,h=>h
 | t::ts,out,h=>by
  rw [qgs]
  split
  ·exact qhi av ts out h
  ·rename_i h'
   refine qhi av ts _ ?_
   rw [List.nodup_append]
   exact ⟨h,by simp,fun a ha b hb e=>h' (.inl (by rw [List.mem_singleton] at hb;rw [← hb,← e];exact ha))⟩
theorem qgk (a:Bool) (b:Int) (l:List S60) {av:List Int} (hav:av.length<1000000) (i:Int) {ts:List Int} (hts:ts.length≤2) {r:List Int}:∀ (m j:Nat) (out:List Int),j+m=ts.length→out.length+m<1000→
  Ev (fun k=>qae.l0 k av (qhg av out (ts.drop j)) (wrap64 (i+1)) a b l) r→Ev (fun k=>qae.l1 k av out i ts (ts.length:Int) (j:Int) a b l) r
 | 0,j,out,hj,ho,h=>by
  rw [List.drop_eq_nil_of_le (by omega)] at h
  refine Ev.next h (fun k=>?_)
  rw [qae.l1,if_neg (by omega)]
  rfl
 | m+1,j,out,hj,ho,h=>by
  have h1:j<ts.length:=by omega
  have hrd:rd ts (j:Int)=ts[j]:=qgt h1
  rw [List.drop_eq_getElem_cons h1,qgs] at h
  have hh1:=qga out ts[j] (by omega)
  have hh2:=qga av ts[j] (by omega)
  have c1:((j:Int)<(ts.length:Int))=True:=eq_true (by omega)
  have c2:(0≤(j:Int))=True:=eq_true (by omega)
  have c3:out.length<17592186044416:=by omega
  have hw:=qcz (show j<9223372036854775807 by omega)
  refine Ev.succ ?_
  simp only [qae.l1,c1,c2,if_true,hrd,hw]
  refine Ev.bind hh1 ?_
  by_cases e1:ts[j]∈out
  ·rw [if_pos (.inl e1)] at h
   exact Ev.ifp (decide_eq_true e1) (qgk a b l hav i hts m (j+1) out (by omega) (by omega) h)
  ·refine Ev.ifn (by simpa using e1) ?_
   refine Ev.bind hh2 ?_
   by_cases e2:ts[j]∈av
   ·rw [if_pos (.inr e2)] at h
    exact Ev.ifp (decide_eq_true e2) (qgk a b l hav i hts m (j+1) out (by omega) (by omega) h)
   ·rw [if_neg (by rintro (e|e);exact e1 e;exact e2 e)] at h
    exact Ev.ifn (by simpa using e2) (Ev.ifp c3 (qgk a b l hav i hts m (j+1) (out++[ts[j]]) (by omega) (by simp;omega) h))
structure RInv (l:List S60) (av:List Int) (src:Int) (out:List Int) (i:Nat):Prop where
 nd:out.Nodup
 le:i≤out.length
 rch:∀ x∈out,Rch (Tg l) (fun y=>y∈av) src x
 st:src∈out
 cl:∀ j,j<i→∀ y∈Tg l (out.getD j 0),y∈out∨y∈av
 rg:∀ x∈out,0≤x∧x<(l.length:Int)
theorem RInv.len {l:List S60} {av:List Int} {src:Int} {out:List Int} {i:Nat} (h:RInv l av src out i):out.length≤l.length:=by
 have:=h.nd.length_le_of_subset (l₂:=qds l.length) (fun x hx=>qek.2 (h.rg x hx))
 simpa [qds] using this
theorem RInv.step {l:List S60} {av:List Int} {src:Int} {out:List Int} {i:Nat} (h:RInv l av src out i) (hi:i<out.length):RInv l av src (qhg av out (Tg l (out.getD i 0))) (i+1):=by
 obtain ⟨e,he⟩:=qgj av (Tg l (out.getD i 0)) out
 have hin:out.getD i 0∈out:=by rw [List.getD_eq_getElem?_getD,List.getElem?_eq_getElem hi];exact List.getElem_mem hi
 have hg:∀ j,j<out.length→(qhg av out (Tg l (out.getD i 0))).getD j 0=out.getD j 0:=by
  intro j hj
  rw [he,List.getD_eq_getElem?_getD,List.getElem?_append_left hj,← List.getD_eq_getElem?_getD]
 refine ⟨qhi _ _ _ h.nd,by rw [he,List.length_append];omega,fun x hx=>?_,(qfn ..).2 (.inl h.st),fun j hj y hy=>?_,fun x hx=>?_⟩
 ·rcases (qfn ..).1 hx with hx|⟨hx,hx'⟩
  ·exact h.rch x hx
  ·exact .step (h.rch _ hin) hx hx'
 ·rw [hg j (by omega)] at hy
  by_cases ej:j=i
  ·subst ej
   by_cases ey:y∈av
   ·exact .inr ey
   ·exact .inl ((qfn ..).2 (.inr ⟨hy,ey⟩))
  ·exact (h.cl j (by omega) y hy).imp_left (fun h'=>(qfn ..).2 (.inl h'))
 ·rcases (qfn ..).1 hx with hx|⟨hx,_⟩
  ·exact h.rg x hx
  ·exact qei hx
def qha (l:List S60) (av:Int→Prop) (src:Int) (r:List Int):Prop:=r.Pairwise (·<·)∧∀ x,x∈r↔(0≤src∧src<(l.length:Int))∧Rch (Tg l) av src x
theorem qha.uniq {l:List S60} {av:Int→Prop} {src:Int} {r r':List Int} (h:qha l av src r) (h':qha l av src r'):r=r':=qgg h.1 h'.1 (fun x=>(h.2 x).trans (h'.2 x).symm)
theorem qha.range {l:List S60} {av:Int→Prop} {src x:Int} {r:List Int} (h:qha l av src r) (hx:x∈r):0≤x∧x<(l.length:Int):=by
 obtain ⟨h1,h2⟩:=(h.2 x).1 hx
 cases h2 with
 | refl _=>exact h1
 | step _ h3 _=>exact qei h3
theorem Rch.range {l:List S60} {av:Int→Prop} {src x:Int} (h1:0≤src∧src<(l.length:Int)) (h:Rch (Tg l) av src x):0≤x∧x<(l.length:Int):=by
 cases h with
 | refl _=>exact h1
 | step _ h3 _=>exact qei h3
theorem reach_from (a:Bool) (b:Int) {l:List S60} (hN:l.length≤14) {av:List Int} (hav:av.length<1000000) {src:Int} (hs:0≤src∧src<(l.length:Int)):∀ (m i:Nat) (out:List Int),l.length-i≤m→RInv l av src out i→
  ∃ r,Ev (fun k=>qae.l0 k av out (i:Int) a b l) r∧qha l (fun y=>y∈av) src r
 | m,i,out,hm,h=>by
  have hlen:=h.len
  have hle:=h.le
  by_cases hi:i<out.length
  ·cases m with
   | zero=>omega
   | succ m=>
    obtain ⟨r,h1,h2⟩:=reach_from a b hN hav hs m (i+1) (qhg av out (Tg l (out.getD i 0))) (by omega) (h.step hi)
    refine ⟨r,?_,h2⟩
    have hin:out.getD i 0∈out:=by rw [List.getD_eq_getElem?_getD,List.getElem?_eq_getElem hi];exact List.getElem_mem hi
    obtain ⟨h3,h4⟩:=h.rg _ hin
    have hT:=qew l (out.getD i 0)
    have hw:=qcz (show i<9223372036854775807 by omega)
    have h5:=qgk a b l hav (i:Int) hT (r:=r) (Tg l (out.getD i 0)).length 0 out (by omega) (by omega) (by rw [hw];exact h1)
    have c1:((i:Int)<(out.length:Int))=True:=eq_true (by omega)
    have c2:(0≤(i:Int))=True:=eq_true (by omega)
    refine Ev.succ ?_
    simp only [qae.l0,c1,c2,if_true,qhy]
    refine Ev.bind (qho a b h3 h4) ?_
    exact h5
  ·have ei:i=out.length:=by omega
   obtain ⟨r,h1,h2,_⟩:=rOf_ev out (by omega)
   refine ⟨r,?_,h2.1,fun x=>?_⟩
   ·refine Ev.succ ?_
    have c1:((i:Int)<(out.length:Int))=False:=eq_false (by omega)
    simp only [qae.l0,c1,if_false]
    exact Ev.bind h1 (Ev.const _)
   ·rw [h2.2]
    constructor
    ·intro hx
     exact ⟨hs,h.rch x hx.1⟩
    ·rintro ⟨_,hx⟩
     have hmem:x∈out:=hx.closed (P:=fun x=>x∈out) h.st (fun y hy z hz hn=>by
      obtain ⟨j,hj,e⟩:=List.getElem_of_mem hy
      have:=h.cl j (by omega) z (by rw [List.getD_eq_getElem?_getD,List.getElem?_eq_getElem hj,Option.getD_some,e];exact hz)
      exact this.resolve_right hn)
     have:=h.rg x hmem
     exact ⟨hmem,by omega,by omega⟩
theorem reach_ev (a:Bool) (b:Int) {l:List S60} (hN:l.length≤14) (src:Int) (av:List Int) (hav:av.length<1000000):∃ r,Ev (fun k=>qae.f k a b l src av) r∧qha l (fun y=>y∈av) src r:=by
 have hno:(¬ (0≤src∧src<(l.length:Int))∨src∈av)→qha l (fun y=>y∈av) src []:=fun h=>⟨List.Pairwise.nil,fun x=>⟨fun hx=>absurd hx (by simp),fun hx=>by
  rcases h with h|h
  ·exact absurd hx.1 h
  ·exact absurd h hx.2.first⟩⟩
 have hj:Ev (fun k=>qae.j0 k src av true a b l) []:=by
  refine Ev.next (Ev.const []) (fun k=>?_)
  rw [qae.j0,if_pos rfl]
 by_cases h0:0≤src
 ·by_cases h1:src<(l.length:Int)
  ·have hh:=qga av src (by omega)
   by_cases h2:src∈av
   ·rw [decide_eq_true h2] at hh
    refine ⟨[],?_,hno (.inr h2)⟩
    refine (Ev.bind hh (g:=fun k t=>qae.j0 k src av t a b l) hj).congr (fun k=>?_)
    rw [qae.f,if_neg (by omega),if_neg (by omega)]
   ·rw [decide_eq_false h2] at hh
    obtain ⟨r,h3,h4⟩:=reach_from a b hN hav ⟨h0,h1⟩ l.length 0 [src] (by omega) ⟨by simp,by simp,fun x hx=>by rw [List.mem_singleton.1 hx];exact .refl h2,by simp,fun j hj=>absurd hj (by omega),fun x hx=>by rw [List.mem_singleton.1 hx];exact ⟨h0,h1⟩⟩
    refine ⟨r,?_,h4⟩
    refine (Ev.bind hh (g:=fun k t=>qae.j0 k src av t a b l) (Ev.next h3 (fun k=>?_))).congr (fun k=>?_)
    ·rw [qae.j0,if_neg (by decide)];rfl
    ·rw [qae.f,if_neg (by omega),if_neg (by omega)]
  ·refine ⟨[],?_,hno (.inl (fun h=>h1 h.2))⟩
   refine hj.congr (fun k=>?_)
   rw [qae.f,if_neg (by omega),if_pos (by omega)]
 ·refine ⟨[],?_,hno (.inl (fun h=>h0 h.1))⟩
  refine hj.congr (fun k=>?_)
  rw [qae.f,if_pos (by omega)]
theorem qha.congr {l:List S60} {av av':Int→Prop} {src:Int} {r:List Int} (h:qha l av src r) (e:∀ x,0≤x→x<(l.length:Int)→(av x↔av' x)):qha l av' src r:=by
 have key:∀ {p q:Int→Prop} {x:Int},(∀ x,0≤x→x<(l.length:Int)→(p x→q x))→(0≤src∧src<(l.length:Int))→Rch (Tg l) q src x→Rch (Tg l) p src x:=by
  intro p q x hpq hs hr
  induction hr with
  | refl h=>exact .refl (fun h'=>h (hpq _ hs.1 hs.2 h'))
  | step _ h1 h2 ih=>exact .step ih h1 (fun h'=>h2 (hpq _ (qei h1).1 (qei h1).2 h'))
 refine ⟨h.1,fun x=>(h.2 x).trans ⟨fun hx=>⟨hx.1,key (fun y h1 h2=>(e y h1 h2).2) hx.1 hx.2⟩,fun hx=>⟨hx.1,key (fun y h1 h2=>(e y h1 h2).1) hx.1 hx.2⟩⟩⟩
theorem marks_mem (N:Nat):∀ (xs:List Int) (bs:List Bool),bs.length=N→(∀ x:Nat,x<N→((xs.foldl (qfr N) bs).getD x false=true↔bs.getD x false=true∨(x:Int)∈xs))∧(xs.foldl (qfr N) bs).length=N
 | [],bs,h=>⟨fun x _=>by simp,h⟩
 | y::t,bs,h=>by
  have hl:(qfr N bs y).length=N:=by unfold qfr;split <;> simp [h]
  obtain ⟨h1,h2⟩:=marks_mem N t (qfr N bs y) hl
  refine ⟨fun x hx=>?_,h2⟩
  rw [List.foldl_cons,h1 x hx,List.mem_cons]
  have hone:(qfr N bs y).getD x false=true↔bs.getD x false=true∨(x:Int)=y:=by
   unfold qfr
   by_cases hy:0≤y∧y<(N:Int)
   ·rw [if_pos hy]
    by_cases e:x=y.toNat
    ·subst e
     rw [List.getD_eq_getElem?_getD,List.getElem?_set_self (by omega)]
     simp
     right;omega
    ·rw [List.getD_eq_getElem?_getD,List.getElem?_set_ne (fun h=>e h.symm),← List.getD_eq_getElem?_getD]
     exact ⟨.inl,fun h=>h.resolve_right (fun h'=>e (by omega))⟩
   ·rw [if_neg hy]
    exact ⟨.inl,fun h=>h.resolve_right (fun h'=>hy (by omega))⟩
  rw [hone,or_assoc]
theorem marks_Mk (N:Nat) (s:List Int):Mk N (marks N s) s:=by
 obtain ⟨h1,h2⟩:=marks_mem N s (List.replicate N false) (by simp)
 refine ⟨h2,fun x hx=>?_⟩
 unfold marks
 rw [h1 x hx,List.getD_eq_getElem?_getD,List.getElem?_replicate,if_pos hx]
 simp
theorem GS.els_len {ws:List Int} (h:GS ws) {x:Int} (hx:x∈els ws):0≤x∧x≤65535:=by
 have:=els_bound hx
 have:=h.len
 omega
theorem cavoid_ev (a:Bool) (b:Int) {l:List S60} (hN:l.length≤14) (src:Int) {ws:List Int} (hw:GS ws):∃ r,Ev (fun k=>qcp.f k a b l src ws) r∧GS r∧qha l (fun y=>y∈els ws) src (els r):=by
 by_cases hs:0≤src∧src<(l.length:Int)
 ·obtain ⟨x,rfl⟩:=Int.eq_ofNat_of_zero_le hs.1
  have hx:x<l.length:=by omega
  have hin:tb ws x=true↔(x:Int)∈els ws:=qec.symm
  by_cases ht:tb ws x=true
  ·refine ⟨[],(Ev.const []).congr (fun k=>?_),GS.nil,List.Pairwise.nil,fun y=>⟨fun h=>absurd h (by simp [els,qdz]),fun h=>absurd (hin.1 ht) h.2.first⟩⟩
   rw [qcp.f,if_pos hs,Has_f hw.wd,decide_eq_true (by omega),Int.toNat_natCast,ht,Option.bind_some,if_pos (by rfl)]
  ·obtain ⟨p,s',h1,h2⟩:=dfs_exists l (els ws) [(x:Int)] (fun t h=>by rw [List.mem_singleton.1 h];exact hs)
   obtain ⟨bs',h3,_⟩:=cpost_ev a b l h1 hx (marks_Mk l.length (els ws)) [] (by simp;omega)
   obtain ⟨r,h4,h5,h6⟩:=Of_ev p (by omega)
   refine ⟨r,(Ev.bind h3 (g:=fun k o=>qax.f k o.1) h4).congr (fun k=>?_),h5,qhr r,fun y=>?_⟩
   ·rw [qcp.f,if_pos hs,Has_f hw.wd,Option.bind_some,if_neg (by rw [Int.toNat_natCast];simp [ht]),if_pos ⟨hw.ok,by omega⟩]
   ·constructor
    ·intro hy
     obtain ⟨z,rfl,hz⟩:=qes hy
     exact ⟨hs,(h1.found _).1 ((h6 z).1 hz).1⟩
    ·rintro ⟨_,hr⟩
     have hrg:=hr.range hs
     obtain ⟨z,rfl⟩:=Int.eq_ofNat_of_zero_le hrg.1
     exact qec.2 ((h6 z).2 ⟨(h1.found _).2 hr,by omega⟩)
 ·refine ⟨[],(Ev.const []).congr (fun k=>?_),GS.nil,List.Pairwise.nil,fun y=>⟨fun h=>absurd h (by simp [els,qdz]),fun h=>absurd h.1 hs⟩⟩
  rw [qcp.f,if_neg hs]
theorem els_nil:els []=[]:=rfl
theorem cReach_ev (a:Bool) (b:Int) {l:List S60} (hN:l.length≤14) (src:Int):∃ r,Ev (fun k=>qcf.f k a b l src) r∧GS r∧qha l noN src (els r):=by
 obtain ⟨r,h1,h2,h3⟩:=cavoid_ev a b hN src GS.nil
 exact ⟨r,Ev.bind h1 (Ev.const r),h2,h3.congr (fun x _ _=>by simp [els_nil,noN])⟩
theorem rReach_ev (a:Bool) (b:Int) {l:List S60} (hN:l.length≤14) (src:Int):∃ r,Ev (fun k=>qae.f k a b l src []) r∧qha l noN src r:=by
 obtain ⟨r,h1,h2⟩:=reach_ev a b hN src [] (by simp)
 exact ⟨r,h1,h2.congr (fun x _ _=>by simp [noN])⟩
theorem rReachOne_ev (a:Bool) (b:Int) {l:List S60} (hN:l.length≤14) (src d:Int):∃ r,Ev (fun k=>qae.f k a b l src [d]) r∧qha l (fun x=>x=d) src r:=by
 obtain ⟨r,h1,h2⟩:=reach_ev a b hN src [d] (by simp)
 exact ⟨r,h1,h2.congr (fun x _ _=>by simp)⟩
theorem cavoidOne_ev (a:Bool) (b:Int) {l:List S60} (hN:l.length≤14) (src:Int) (d:Nat) (hd:d≤65535):∃ av r,Ev (fun k=>qax.f k [(d:Int)]) av∧Ev (fun k=>qcp.f k a b l src av) r∧GS r∧qha l (fun x=>x=d) src (els r):=by
 obtain ⟨av,h1,h2,h3⟩:=Of_ev [(d:Int)] (by simp)
 obtain ⟨r,h4,h5,h6⟩:=cavoid_ev a b hN src h2
 refine ⟨av,r,h1,h4,h5,h6.congr (fun x h0 h1=>?_)⟩
 obtain ⟨z,rfl⟩:=Int.eq_ofNat_of_zero_le h0
 rw [qec,h3,within,List.mem_singleton]
 exact ⟨fun h=>h.1,fun h=>⟨h,by omega⟩⟩
end Go.Proofs.YtmfjmbcfaamebaaDoor.X
namespace Go.Proofs.YtmfjmbcfaamebaaDoor.X
open Go.RowKit Go.Proofs.YtmfjmbcfaamebaaDoorW.PrintWords Go.Proofs.YtmfjmbcfaamebaaDoorW.PrintLast Go.Proofs.YtmfjmbcfaamebaaDoorW.PrintMore
attribute [local go_sem] qbs qcb
set_option linter.unusedVariables false
set_option linter.unusedSimpArgs false
mutual
def qay.l0:Nat→List (List Int)→Int→Int→Bool→Int→List (S60)→Option ((List (List Int)))
 | 0,_,_,_,_,_,_=>none
 | k+1,x3,x9,x10,x389000,x389001,x389002=>if x10<x9 then (qay.l1 k x3 x10 ([]:List Int) x9 x10 (x389002.length:Int) 0 x389000 x389001 x389002) else (some x3)
def qay.l1:Nat→List (List Int)→Int→List Int→Int→Int→Int→Int→Bool→Int→List (S60)→Option ((List (List Int)))
 | 0,_,_,_,_,_,_,_,_,_,_=>none
 | k+1,x3,x4,x5,x9,x10,x15,x16,x389000,x389001,x389002=>if x16<x15 then ((qag.f k x389000 x389001 x389002 x16).bind fun t392=>((qao.f k t392 x4).bind fun t395=>(if t395=true then (if x5.length<17592186044416 then (qay.l1 k x3 x4 (x5++[x16]) x9 x10 x15 (wrap64 (x16+1)) x389000 x389001 x389002) else (none)) else (qay.l1 k x3 x4 x5 x9 x10 x15 (wrap64 (x16+1)) x389000 x389001 x389002)))) else (if x3.length<5864062014805 then (qay.l0 k (x3++[x5]) x9 (wrap64 (x10+1)) x389000 x389001 x389002) else (none))
end
def qay.f (k:Nat) (a0_0:Bool) (a0_1:Int) (l0_2:List (S60)):Option ((List (List Int))):=qay.l0 k ([]:List (List Int)) (l0_2.length:Int) 0 a0_0 a0_1 l0_2
theorem qay.mono_l:∀ k,(∀ y0 y1 y2 y3 y4 y5,LeO (qay.l0 k y0 y1 y2 y3 y4 y5) (qay.l0 (k+1) y0 y1 y2 y3 y4 y5))∧(∀ y0 y1 y2 y3 y4 y5 y6 y7 y8 y9,LeO (qay.l1 k y0 y1 y2 y3 y4 y5 y6 y7 y8 y9) (qay.l1 (k+1) y0 y1 y2 y3 y4 y5 y6 y7 y8 y9))
 | 0=>⟨fun _ _ _ _ _ _ r h=>by simp [qay.l0] at h,fun _ _ _ _ _ _ _ _ _ _ r h=>by simp [qay.l1] at h⟩
 | k+1=>by
  obtain ⟨ih0,ih1⟩:=qay.mono_l k
  refine ⟨?_,?_⟩
  ·intro y0 y1 y2 y3 y4 y5
   unfold qay.l0
   repeat' first|(with_reducible exact ih1 _ _ _ _ _ _ _ _ _ _)|(with_reducible exact LeO.refl _)|(with_reducible refine LeO.ite ?_ ?_)
  ·intro y0 y1 y2 y3 y4 y5 y6 y7 y8 y9
   unfold qay.l1
   repeat' first|(with_reducible exact ih0 _ _ _ _ _ _)|(with_reducible exact ih1 _ _ _ _ _ _ _ _ _ _)|(with_reducible exact qao.mono _ _ _)|(with_reducible exact qag.mono _ _ _ _ _)|(with_reducible exact LeO.refl _)|(with_reducible refine LeO.ite ?_ ?_)|(with_reducible refine LeO.bind ?_ (fun _=>?_))
theorem qay.mono:∀ a0 a1 a2 k,LeO (qay.f k a0 a1 a2) (qay.f (k+1) a0 a1 a2):=by
 intro a0 a1 a2 k
 obtain ⟨ih0,ih1⟩:=qay.mono_l k
 unfold qay.f
 repeat' (with_reducible exact ih0 _ _ _ _ _ _)
end Go.Proofs.YtmfjmbcfaamebaaDoor.X
namespace Go.Proofs.YtmfjmbcfaamebaaDoor.X
open Go.RowKit Go.Proofs.YtmfjmbcfaamebaaDoorW.PrintWords Go.Proofs.YtmfjmbcfaamebaaDoorW.PrintLast Go.Proofs.YtmfjmbcfaamebaaDoorW.PrintMore
def Sc (l:List S60) (x:Int):List Int:=Lib.compact (qfl (Tg l x))
theorem compact_one (a:Int):Lib.compact [a]=[a]:=by
 simp [Lib.compact,Lib.compactUpTo,Lib.keeps,List.range_succ]
theorem compact_two (a b:Int):Lib.compact [a,b]=if b=a then [a] else [a,b]:=by
 by_cases h:b=a
 ·subst h;simp [Lib.compact,Lib.compactUpTo,Lib.keeps,List.range_succ]
 ·rw [if_neg h];simp [Lib.compact,Lib.compactUpTo,Lib.keeps,List.range_succ,h]
theorem sorted_two (a b:Int):qfl [a,b]=if a≤b then [a,b] else [b,a]:=by
 by_cases h:a≤b <;> simp [qfl,List.mergeSort,List.MergeSort.Internal.splitInTwo,h]
theorem qht {ts:List Int} (h:ts.length≤2):(Lib.compact (qfl ts)).Pairwise (·<·)∧∀ x,x∈Lib.compact (qfl ts)↔x∈ts:=by
 match ts,h with
 | [],_=>exact ⟨by simp [qfl,Lib.compact,Lib.compactUpTo],by simp [qfl,Lib.compact,Lib.compactUpTo]⟩
 | [a],_=>
  have:qfl [a]=[a]:=by simp [qfl]
  rw [this,compact_one]
  exact ⟨by simp,by simp⟩
 | [a,b],_=>
  rw [sorted_two]
  by_cases hab:a≤b
  ·rw [if_pos hab,compact_two]
   by_cases e:b=a
   ·subst e;rw [if_pos rfl];exact ⟨by simp,by simp⟩
   ·rw [if_neg e];exact ⟨by simp;omega,by simp⟩
  ·rw [if_neg hab,compact_two,if_neg (by omega)]
   exact ⟨by simp;omega,fun x=>by simp [or_comm]⟩
theorem Sc_isOf {l:List S60} (hN:l.length≤14) (x:Int):IsOf (Sc l x) (Tg l x):=by
 obtain ⟨h1,h2⟩:=qht (qew l x)
 refine ⟨h1,fun y=>(h2 y).trans ⟨fun h=>⟨h,?_⟩,fun h=>h.1⟩⟩
 have:=qei h
 omega
theorem Sc_mem {l:List S60} {x y:Int}:y∈Sc l x↔y∈Tg l x:=(qht (qew l x)).2 y
def Succ (l:List S60):List (List Int):=(List.range l.length).map (fun (i:Nat)=>Sc l (i:Int))
theorem qel (l:List S60):(Succ l).length=l.length:=by simp [Succ]
theorem qex {α:Type} (f:Nat→α) (i:Nat):(List.range (i+1)).map f=(List.range i).map f++[f i]:=by rw [List.range_succ,List.map_append];rfl
theorem cSucc_from (a:Bool) (b:Int) {l:List S60} (hN:l.length≤14):∀ (m i:Nat),i+m=l.length→Ev (fun k=>qbi.l0 k ((List.range i).map (fun (i:Nat)=>Sc l (i:Int))) l (l.length:Int) (i:Int) a b l) (Succ l)
 | 0,i,hi=>by
  have e:i=l.length:=by omega
  subst e
  refine Ev.next (Ev.const _) (fun k=>?_)
  rw [qbi.l0,if_neg (by omega)]
  rfl
 | m+1,i,hi=>by
  have h:=cSucc_from a b hN m (i+1) (by omega)
  rw [qex] at h
  refine Ev.next h (fun k=>?_)
  have c1:((i:Int)<(l.length:Int))=True:=eq_true (by omega)
  have c2:(0≤(i:Int))=True:=eq_true (by omega)
  have c3:(((List.range i).map (fun (i:Nat)=>Sc l (i:Int))).length<5864062014805)=True:=eq_true (by simp;omega)
  have c4:qdg.f (Tg l (i:Int))=some (qfl (Tg l (i:Int))):=by
   rw [qdg.f,if_pos (by have:=qew l (i:Int);omega)]
  have hw:=qcz (show i<9223372036854775807 by omega)
  rw [qbi.l0]
  simp only [c1,c2,if_true,ctargets_f,Option.bind_some,c4,qdc.f,hw]
  rw [if_pos (of_eq_true c3)]
  rfl
theorem cSucc_ev (a:Bool) (b:Int) {l:List S60} (hN:l.length≤14):Ev (fun k=>qbi.f k a b l) (Succ l):=cSucc_from a b hN l.length 0 (by omega)
theorem rSucc_from (a:Bool) (b:Int) {l:List S60} (hN:l.length≤14):∀ (m i:Nat),i+m=l.length→Ev (fun k=>qba.l0 k ((List.range i).map (fun (i:Nat)=>Sc l (i:Int))) (l.length:Int) (i:Int) a b l) (Succ l)
 | 0,i,hi=>by
  have e:i=l.length:=by omega
  subst e
  refine Ev.next (Ev.const _) (fun k=>?_)
  rw [qba.l0,if_neg (by omega)]
  rfl
 | m+1,i,hi=>by
  have h:=rSucc_from a b hN m (i+1) (by omega)
  rw [qex] at h
  have ht:=qho a b (l:=l) (x:=(i:Int)) (by omega) (by omega)
  obtain ⟨r,h1,h2,h3⟩:=rOf_ev (Tg l (i:Int)) (by have:=qew l (i:Int);omega)
  have e:r=Sc l (i:Int):=h2.uniq (Sc_isOf hN _)
  subst e
  have c1:((i:Int)<(l.length:Int))=True:=eq_true (by omega)
  have c3:((List.range i).map (fun (i:Nat)=>Sc l (i:Int))).length<5864062014805:=by simp;omega
  have hw:=qcz (show i<9223372036854775807 by omega)
  refine Ev.next (Ev.bind ht (g:=fun k t=>(qbe.f k t).bind fun t'=>qba.l0 k ((List.range i).map (fun (i:Nat)=>Sc l (i:Int))++[t']) (l.length:Int) ((i+1:Nat):Int) a b l) (Ev.bind h1 h)) (fun k=>?_)
  rw [qba.l0]
  simp only [c1,hw,if_true,if_pos c3]
theorem rSucc_ev (a:Bool) (b:Int) {l:List S60} (hN:l.length≤14):Ev (fun k=>qba.f k a b l) (Succ l):=rSucc_from a b hN l.length 0 (by omega)
def qfg:Nat→List (List Int)→Int→List Int
 | _,[],_=>[]
 | a,r::t,b=>(if b∈r then [(a:Int)] else [])++qfg (a+1) t b
theorem predsF_length:∀ (a:Nat) (t:List (List Int)) (b:Int),(qfg a t b).length≤t.length
 | _,[],_=>by simp [qfg]
 | a,r::t,b=>by
  have:=predsF_length (a+1) t b
  rw [qfg,List.length_append]
  split <;> simp <;> omega
theorem predsF_mem:∀ (a:Nat) (t:List (List Int)) (b x:Int),x∈qfg a t b↔∃ j,j<t.length∧x=((a+j:Nat):Int)∧b∈t.getD j []
 | _,[],_,_=>by simp [qfg]
 | a,r::t,b,x=>by
  rw [qfg,List.mem_append,predsF_mem (a+1) t b x]
  constructor
  ·rintro (h|⟨j,h1,h2,h3⟩)
   ·split at h
    ·rw [List.mem_singleton] at h;exact ⟨0,by simp,by simpa using h,by simpa⟩
    ·simp at h
   ·exact ⟨j+1,by simpa using h1,by rw [h2];congr 1;omega,by simpa using h3⟩
  ·rintro ⟨j,h1,h2,h3⟩
   cases j with
   | zero=>exact .inl (by rw [if_pos (by simpa using h3)];simpa using h2)
   | succ j=>exact .inr ⟨j,by simpa using h1,by rw [h2];congr 1;omega,by simpa using h3⟩
theorem predsIn_f (a:Int):∀ (row:List Int) (out:List (List Int)),row.Nodup→(∀ b∈row,0≤b∧b<(out.length:Int))→(∀ r∈out,r.length+row.length<1000000)→
  ∃ out',qic a row out=some out'∧out'.length=out.length∧∀ b:Nat,b<out.length→out'.getD b []=out.getD b []++(if (b:Int)∈row then [a] else [])
 | [],out,_,_,_=>⟨out,rfl,rfl,fun b _=>by simp⟩
 | c::t,out,hn,hr,hl=>by
  obtain ⟨h1,h2⟩:=List.nodup_cons.1 hn
  obtain ⟨h3,h4⟩:=hr c (List.mem_cons_self ..)
  obtain ⟨n,rfl⟩:=Int.eq_ofNat_of_zero_le h3
  have hn':n<out.length:=by omega
  have hmem:out.getD n []∈out:=by
   rw [List.getD_eq_getElem?_getD,List.getElem?_eq_getElem hn'];exact List.getElem_mem hn'
  have hlen:=hl _ hmem
  rw [List.length_cons] at hlen
  obtain ⟨out',h5,h6,h7⟩:=predsIn_f a t (out.set n (out.getD n []++[a])) h2 (fun b hb=>by rw [List.length_set];exact hr b (List.mem_cons_of_mem _ hb)) (fun r hr=>by
   rcases List.mem_or_eq_of_mem_set hr with hr|rfl
   ·have:=hl r hr;rw [List.length_cons] at this;omega
   ·rw [List.length_append,List.length_singleton];omega)
  rw [List.length_set] at h6 h7
  refine ⟨out',?_,h6,fun b hb=>?_⟩
  ·rw [qic,if_pos ⟨h3,h4,by simp only [Int.toNat_natCast];omega⟩]
   exact h5
  ·rw [h7 b hb]
   by_cases e:b=n
   ·subst e
    rw [if_neg h1,if_pos (List.mem_cons_self ..),List.getD_eq_getElem?_getD,List.getElem?_set_self hn']
    simp
   ·rw [List.getD_eq_getElem?_getD,List.getElem?_set_ne (fun h=>e h.symm),← List.getD_eq_getElem?_getD]
    by_cases hm:(b:Int)∈t
    ·rw [if_pos hm,if_pos (List.mem_cons_of_mem _ hm)]
    ·rw [if_neg hm,if_neg (fun h=>(List.mem_cons.1 h).elim (fun h=>e (by omega)) hm)]
theorem predsOut_f (N:Nat):∀ (rows:List (List Int)) (a:Nat) (out:List (List Int)),(∀ row∈rows,row.Nodup∧row.length≤1000∧∀ b∈row,0≤b∧b<(N:Int))→out.length=N→(∀ r∈out,r.length≤a)→a+rows.length≤1000→
  ∃ out',qfm a rows out=some out'∧out'.length=N∧∀ b:Nat,b<N→out'.getD b []=out.getD b []++qfg a rows b
 | [],a,out,_,hl,_,_=>⟨out,rfl,hl,fun b _=>by simp [qfg]⟩
 | row::t,a,out,hr,hl,ho,ha=>by
  obtain ⟨h1,h2,h3⟩:=hr row (List.mem_cons_self ..)
  obtain ⟨o,h4,h5,h6⟩:=predsIn_f (a:Int) row out h1 (by rw [hl];exact h3) (fun r h=>by have:=ho r h;rw [List.length_cons] at ha;omega)
  have hlen:∀ r∈o,r.length≤a+1:=by
   intro r h
   obtain ⟨j,hj,rfl⟩:=List.getElem_of_mem h
   have h7:=h6 j (by omega)
   have h7':o.getD j []=o[j]:=by rw [List.getD_eq_getElem?_getD,List.getElem?_eq_getElem hj,Option.getD_some]
   rw [h7'] at h7
   rw [h7,List.length_append]
   have h8:(out.getD j []).length≤a:=by
    rw [List.getD_eq_getElem?_getD,List.getElem?_eq_getElem (by omega:j<out.length)];exact ho _ (List.getElem_mem _)
   have h9:(if (j:Int)∈row then [(a:Int)] else []).length≤1:=by split <;> simp
   omega
  obtain ⟨o',h7,h8,h9⟩:=predsOut_f N t (a+1) o (fun row h=>hr row (List.mem_cons_of_mem _ h)) (by omega) hlen (by rw [List.length_cons] at ha;omega)
  refine ⟨o',?_,h8,fun b hb=>?_⟩
  ·rw [qfm,h4,Option.bind_some];exact h7
  ·rw [h9 b hb,h6 b (by omega),qfg,List.append_assoc]
def Pred (l:List S60):List (List Int):=(List.range l.length).map (fun (i:Nat)=>qfg 0 (Succ l) (i:Int))
theorem Succ_rows {l:List S60} (hN:l.length≤14):∀ row∈Succ l,row.Nodup∧row.length≤1000∧∀ b∈row,0≤b∧b<(l.length:Int):=by
 intro row h
 obtain ⟨i,hi,rfl⟩:=List.mem_map.1 h
 have h1:=Sc_isOf hN (i:Int)
 have hnd:(Sc l (i:Int)).Nodup:=h1.1.imp (fun h=>by omega)
 have hlen:(Sc l (i:Int)).length≤2:=Nat.le_trans (hnd.length_le_of_subset (fun y hy=>Sc_mem.1 hy)) (qew l (i:Int))
 exact ⟨hnd,by omega,fun b hb=>qei (Sc_mem.1 hb)⟩
theorem cPred_f {l:List S60} (hN:l.length≤14):qfm 0 (Succ l) (List.replicate l.length [])=some (Pred l):=by
 obtain ⟨o,h1,h2,h3⟩:=predsOut_f l.length (Succ l) 0 (List.replicate l.length []) (Succ_rows hN) (by simp) (fun r h=>by rw [(List.mem_replicate.1 h).2];simp) (by rw [qel];omega)
 rw [h1]
 congr 1
 refine List.ext_getElem (by simp [h2,Pred]) (fun j hj hj'=>?_)
 have:=h3 j (by omega)
 rw [List.getD_eq_getElem?_getD,List.getElem?_eq_getElem hj,Option.getD_some] at this
 rw [this]
 simp [Pred,h2▸hj]
theorem cPred_ev (a:Bool) (b:Int) {l:List S60} (hN:l.length≤14):Ev (fun k=>qbv.f k a b l) (Pred l):=by
 refine (Ev.bind (cSucc_ev a b hN) (g:=fun _ s=>qfm 0 s (List.replicate l.length [])) (Ev.fix (cPred_f hN))).congr (fun k=>?_)
 rw [qbv.f,if_pos (by omega)]
end Go.Proofs.YtmfjmbcfaamebaaDoor.X
namespace Go.Proofs.YtmfjmbcfaamebaaDoor.X
noncomputable section
open Go.RowKit Go.Proofs.YtmfjmbcfaamebaaDoorW.PrintWords Go.Proofs.YtmfjmbcfaamebaaDoorW.PrintLast Go.Proofs.YtmfjmbcfaamebaaDoorW.PrintMore
theorem Ev.det {α:Type} {f:Nat→Option α} {a b:α} {k:Nat} (hm:∀ k,LeO (f k) (f (k+1))) (h:Ev f a) (h':f k=some b):b=a:=by
 obtain ⟨K,h⟩:=h
 have h1:=LeO.up hm h' K
 rw [h (k+K) (by omega)] at h1
 exact (Option.some.inj h1).symm
theorem Ev.all {α:Type} (P:α→Nat→Prop):∀ l:List α,(∀ x∈l,∃ K,∀ k,K≤k→P x k)→∃ K,∀ k,K≤k→∀ x∈l,P x k
 | [],_=>⟨0,fun _ _ x hx=>absurd hx (by simp)⟩
 | y::t,h=>by
  obtain ⟨K1,h1⟩:=h y (List.mem_cons_self ..)
  obtain ⟨K2,h2⟩:=Ev.all P t (fun x hx=>h x (List.mem_cons_of_mem _ hx))
  exact ⟨K1+K2,fun k hk x hx=>by
   rcases List.mem_cons.1 hx with rfl|hx
   ·exact h1 k (by omega)
   ·exact h2 k (by omega) x hx⟩
theorem trimmed_tot {ws:List Int} (hw:qdd ws) (hb:ws.length≤1099511627776):∀ (n k:Nat),n≤ws.length→n<k→∃ r,qbc.l0 k ws (n:Int)=some r∧r.length≤n∧qdd r
 | 0,k,hn,hk=>by
  obtain ⟨j,rfl⟩:∃ j,k=j+1:=⟨k-1,by omega⟩
  refine ⟨[],?_,by simp,fun w h=>by simp at h⟩
  rw [qbc.l0,if_neg (by omega),if_pos (by omega),if_pos (by omega)]
  rfl
 | n+1,k,hn,hk=>by
  obtain ⟨j,rfl⟩:∃ j,k=j+1:=⟨k-1,by omega⟩
  have hl:n<ws.length:=by omega
  have hlo:(-9223372036854775808:Int)≤((n+1:Nat):Int)-1:=by omega
  have hhi:((n+1:Nat):Int)-1<9223372036854775808:=by omega
  have c1:(((n+1:Nat):Int)>0)=True:=eq_true (by omega)
  have c2:(0≤(n:Int))=True:=eq_true (by omega)
  have c3:((n:Int)<(ws.length:Int))=True:=eq_true (by omega)
  have c4:(0≤((n+1:Nat):Int))=True:=eq_true (by omega)
  have c5:(((n+1:Nat):Int)≤(ws.length:Int))=True:=eq_true (by omega)
  have e:((n+1:Nat):Int)-1=(n:Int):=by omega
  have hlen:(ws.take (n+1)).length≤n+1:=by rw [List.length_take];omega
  obtain ⟨r,h1,h2,h3⟩:=trimmed_tot hw hb n j (by omega) (by omega)
  have hw1:wrap64 (((n+1:Nat):Int)-1)=(n:Int):=(qfi hlo hhi).trans e
  by_cases h0:rd ws (n:Int)=0
  ·refine ⟨r,?_,Nat.le_succ_of_le h2,h3⟩
   rw [qbc.l0]
   simp only [c1,hw1,c2,c3,h0,if_true]
   exact h1
  ·refine ⟨ws.take (n+1),?_,hlen,fun w h=>hw w (List.mem_of_mem_take h)⟩
   rw [qbc.l0]
   simp only [c1,hw1,c2,c3,h0,c4,c5,if_true,if_false,Int.toNat_natCast]
theorem Union_tot {s t:List Int} (hs:qdd s) (ht:qdd t) (n:Nat) (hn:n≤1099511627776):∀ (m i k:Nat) (ws:List Int),i+m=n→ws.length=n→qdd ws→m+n+1<k→
  ∃ r,qaj.l0 k ws (n:Int) (i:Int) s t=some r∧r.length≤n∧qdd r
 | 0,i,k,ws,hi,hl,hw,hk=>by
  obtain ⟨j,rfl⟩:∃ j,k=j+1:=⟨k-1,by omega⟩
  obtain ⟨r,h1,h2,h3⟩:=trimmed_tot hw (by omega) ws.length j (Nat.le_refl _) (by omega)
  refine ⟨r,?_,by omega,h3⟩
  rw [qaj.l0,if_neg (by omega),qbc.f,h1]
  rfl
 | m+1,i,k,ws,hi,hl,hw,hk=>by
  obtain ⟨j,rfl⟩:∃ j,k=j+1:=⟨k-1,by omega⟩
  obtain ⟨h0,h1,_⟩:=bits_or_ok (hs.getD i) (ht.getD i)
  obtain ⟨r,h3,h4,h5⟩:=Union_tot hs ht n hn m (i+1) j (ws.set i (Go.bits .or .u64 (s.getD i 0) (t.getD i 0))) (by omega) (by rw [List.length_set,hl]) (hw.set' h0 h1) (by omega)
  refine ⟨r,?_,h4,h5⟩
  have c1:((i:Int)<(n:Int))=True:=eq_true (by omega)
  have c2:(0≤(i:Int))=True:=eq_true (by omega)
  have c3:((i:Int)<(ws.length:Int))=True:=eq_true (by omega)
  have hw':=qcz (show i<9223372036854775807 by omega)
  rw [qaj.l0]
  simp only [c1,c2,c3,word_f,qdi.f,hw',if_true,Option.bind_some,Int.toNat_natCast]
  exact h3
theorem setOk_wd {ws:List Int} (h:setOk ws=true):qdd ws:=fun _ hx=>qge h hx
theorem qdd.setOk {ws:List Int} (h:qdd ws) (hl:ws.length≤1099511627776):setOk ws=true:=by
 simp only [X.setOk,Bool.and_eq_true,decide_eq_true_eq,List.all_eq_true]
 exact ⟨hl,fun x hx=>⟨(h x hx).1,(h x hx).2⟩⟩
theorem WithOk_ev (d:Nat):∃ K,∀ k,K≤k→WithOk k (d:Int):=by
 obtain ⟨o,⟨K,h1⟩,h2,_⟩:=Of_ev [(d:Int)] (by simp)
 refine ⟨K+3000000000000,fun k hk ws hws=>?_⟩
 have hwl:=setOk_len hws
 have hol:=h2.len
 obtain ⟨n,hn⟩:∃ n,max ws.length o.length=n:=⟨_,rfl⟩
 have hn2:n≤1099511627776:=by omega
 obtain ⟨r,h3,h4,h5⟩:=Union_tot (setOk_wd hws) h2.wd n hn2 n 0 k (List.replicate n 0) (by omega) (by simp) (.zeros n) (by omega)
 refine ⟨r,?_,h5.setOk (by omega)⟩
 have c1:(0≤(n:Int))=True:=eq_true (by omega)
 have c2:(n≤35184372088832)=True:=eq_true (by omega)
 have hf:qaj.f k ws o=some r:=by
  unfold qaj.f
  simp only [mx_nat,hn,Int.toNat_natCast,c1,c2,if_true,Option.bind_some,List.length_replicate]
  exact h3
 have h1':qax.f k [(d:Int)]=some o:=h1 k (by omega)
 rw [qby.f,h1',Option.bind_some,qcr.f,hf]
 rfl
theorem qgd {N:Nat} {r:List Int} (hs:r.Pairwise (·<·)) (hr:∀ x∈r,0≤x∧x<(N:Int)):r.length≤N:=by
 have hnd:r.Nodup:=hs.imp (fun h=>by omega)
 have:=hnd.length_le_of_subset (l₂:=qds N) (fun x hx=>qek.2 (hr x hx))
 simpa [qds] using this
open Classical in
noncomputable def qbu (l:List S60) (n:Int):List Int:=(qds l.length).filter (fun d=>decide (Dm (Tg l) 0 d n))
theorem allNodes_sorted (N:Nat):(qds N).Pairwise (·<·):=by
 unfold qds
 rw [List.pairwise_map]
 exact List.pairwise_lt_range.imp (fun h=>by omega)
theorem qdh {l:List S60} {n x:Int}:x∈qbu l n↔(0≤x∧x<(l.length:Int))∧Dm (Tg l) 0 x n:=by
 classical
 rw [qbu,List.mem_filter,qek,decide_eq_true_eq]
theorem domRow_sorted (l:List S60) (n:Int):(qbu l n).Pairwise (·<·):=(allNodes_sorted _).filter _
theorem qgh (l:List S60) (n:Int):(qbu l n).length≤l.length:=by
 have:=List.length_filter_le (p:=fun d=>@decide (Dm (Tg l) 0 d n) (Classical.propDecidable _)) (l:=qds l.length)
 unfold qbu
 simpa [qds] using this
open Classical in
theorem Dominates_ev (a:Bool) (b:Int) {l:List S60} (hN:l.length≤14) (h0:0<l.length) (d n:Int):Ev (fun k=>qcg.f k a b l d n) (decide (Dm (Tg l) 0 d n)):=by
 obtain ⟨r,h1,h2⟩:=rReach_ev a b hN 0
 obtain ⟨q,h3,h4⟩:=rReachOne_ev a b hN 0 d
 have hl1:=qgd h2.1 (fun x hx=>h2.range hx)
 have hl2:=qgd h4.1 (fun x hx=>h4.range hx)
 have h5:=qga r n (by omega)
 have h6:=qga q n (by omega)
 have hz:(0:Int)≤0∧(0:Int)<(l.length:Int):=by omega
 have e1:n∈r↔Rch (Tg l) noN 0 n:=(h2.2 n).trans ⟨fun h=>h.2,fun h=>⟨hz,h⟩⟩
 have e2:n∈q↔Rch (Tg l) (fun x=>x=d) 0 n:=(h4.2 n).trans ⟨fun h=>h.2,fun h=>⟨hz,h⟩⟩
 unfold qcg.f
 refine Ev.bind h1 (Ev.bind h5 ?_)
 by_cases hr:n∈r
 ·refine Ev.ifp (decide_eq_true hr) (Ev.bind h3 (Ev.bind h6 ?_))
  have:(!decide (n∈q))=decide (Dm (Tg l) 0 d n):=by
   rw [Bool.eq_iff_iff,Bool.not_eq_true',decide_eq_false_iff_not,decide_eq_true_eq,e2]
   exact ⟨fun h=>⟨e1.1 hr,h⟩,fun h=>h.2⟩
  rw [this]
  exact Ev.const _
 ·refine Ev.ifn (by simpa using hr) ?_
  rw [decide_eq_false (fun h:Dm (Tg l) 0 d n=>hr (e1.2 h.1))]
  exact Ev.const _
noncomputable def qdv (l:List S60):List (List Int):=(List.range l.length).map (fun (i:Nat)=>qbu l (i:Int))
theorem allNodes_snoc (i:Nat):qds (i+1)=qds i++[(i:Int)]:=qex (fun (i:Nat)=>(i:Int)) i
theorem rdom_in (a:Bool) (b:Int) {l:List S60} (hN:l.length≤14) (acc:List (List Int)) (n:Nat) (hacc:acc.length<1000) {r:List (List Int)} (hn:n<l.length)
  (hnext:Ev (fun k=>qai.l0 k (acc++[qbu l (n:Int)]) (l.length:Int) ((n+1:Nat):Int) a b l) r) :
  ∀ (m i:Nat) (o:List Int),i+m=l.length→o.length≤i→(∀ z:List Int,z=(qds i).filter (fun d=>@decide (Dm (Tg l) 0 d (n:Int)) (Classical.propDecidable _))→o=z)→Ev (fun k=>qai.l1 k acc (n:Int) o (l.length:Int) (n:Int) (l.length:Int) (i:Int) a b l) r
 | 0,i,o,hi,ho,he=>by
  have ei:i=l.length:=by omega
  have e:o=qbu l (n:Int):=by rw [he _ rfl,ei];rfl
  subst e
  refine Ev.next hnext (fun k=>?_)
  have hw:=qcz (show n<9223372036854775807 by omega)
  rw [qai.l1,if_neg (by omega),if_pos (by omega),hw]
 | m+1,i,o,hi,ho,he=>by
  classical
  have hD:=Dominates_ev a b hN (by omega) (i:Int) (n:Int)
  have hw:=qcz (show i<9223372036854775807 by omega)
  have c1:((i:Int)<(l.length:Int))=True:=eq_true (by omega)
  have c3:o.length<17592186044416:=by omega
  refine Ev.succ ?_
  simp only [qai.l1,c1,if_true,hw]
  refine Ev.bind hD ?_
  by_cases h:Dm (Tg l) 0 (i:Int) (n:Int)
  ·refine Ev.ifp (decide_eq_true h) (Ev.ifp c3 ?_)
   refine rdom_in a b hN acc n hacc hn hnext m (i+1) (o++[(i:Int)]) (by omega) (by simp;omega) (fun z hz=>?_)
   rw [hz,allNodes_snoc,List.filter_append,he _ rfl]
   simp [h]
  ·refine Ev.ifn (by simpa using h) ?_
   refine rdom_in a b hN acc n hacc hn hnext m (i+1) o (by omega) (by omega) (fun z hz=>?_)
   rw [hz,allNodes_snoc,List.filter_append,he _ rfl]
   simp [h]
theorem rdom_from (a:Bool) (b:Int) {l:List S60} (hN:l.length≤14):∀ (m i:Nat),i+m=l.length→Ev (fun k=>qai.l0 k ((List.range i).map (fun (i:Nat)=>qbu l (i:Int))) (l.length:Int) (i:Int) a b l) (qdv l)
 | 0,i,hi=>by
  have e:i=l.length:=by omega
  subst e
  refine Ev.next (Ev.const _) (fun k=>?_)
  rw [qai.l0,if_neg (by omega)]
  rfl
 | m+1,i,hi=>by
  have h:=rdom_from a b hN m (i+1) (by omega)
  rw [qex] at h
  refine Ev.next (rdom_in a b hN _ i (by simp;omega) (by omega) h l.length 0 [] (by omega) (by simp) (fun z hz=>by rw [hz];rfl)) (fun k=>?_)
  rw [qai.l0,if_pos (by omega)]
  rfl
theorem rdom_ev (a:Bool) (b:Int) {l:List S60} (hN:l.length≤14):Ev (fun k=>qai.f k a b l) (qdv l):=rdom_from a b hN l.length 0 (by omega)
end
end Go.Proofs.YtmfjmbcfaamebaaDoor.X
namespace Go.Proofs.YtmfjmbcfaamebaaDoor.X
noncomputable section
open Go.RowKit Go.Proofs.YtmfjmbcfaamebaaDoorW.PrintWords Go.Proofs.YtmfjmbcfaamebaaDoorW.PrintLast Go.Proofs.YtmfjmbcfaamebaaDoorW.PrintMore
theorem rd38_set {out:List S38} {n m:Nat} (v:S38) (hn:n<out.length):qco (out.set n v) (m:Int)=if m=n then v else qco out (m:Int):=by
 unfold qco
 rw [Int.toNat_natCast]
 by_cases e:m=n
 ·subst e;rw [if_pos rfl,List.getD_eq_getElem?_getD,List.getElem?_set_self hn];rfl
 ·rw [if_neg e,List.getD_eq_getElem?_getD,List.getElem?_set_ne (fun h=>e h.symm),← List.getD_eq_getElem?_getD]
def AddsTo (k:Nat) (d:Nat):Prop:=∀ ws,GS ws→GS (withT k ws (d:Int))∧∀ x,tb (withT k ws (d:Int)) x=(tb ws x||decide (x=d))
theorem WithOk.adds {k d:Nat} (h:WithOk k (d:Int)) (hd:d≤65535):AddsTo k d:=by
 intro ws hw
 obtain ⟨y,h1,_⟩:=h ws hw.ok
 obtain ⟨r,h2,h3,h4⟩:=With_ev hw d hd
 have e:y=r:=h2.det (qby.mono ws (d:Int)) h1
 subst e
 have:withT k ws (d:Int)=y:=by unfold withT;rw [h1];rfl
 rw [this]
 exact ⟨h3,h4⟩
theorem dom_inner {N k d:Nat} (hW:AddsTo k d):∀ (ns:List Int) (out:List S38),out.length=N→(∀ n∈ns,0≤n∧n<(N:Int))→(∀ n:Nat,n<N→GS (qco out (n:Int)).f0)→
  (ns.foldl (qeq k (d:Int)) out).length=N∧∀ n:Nat,n<N→GS (qco (ns.foldl (qeq k (d:Int)) out) (n:Int)).f0∧∀ x,tb (qco (ns.foldl (qeq k (d:Int)) out) (n:Int)).f0 x=true↔tb (qco out (n:Int)).f0 x=true∨(x=d∧(n:Int)∈ns)
 | [],out,hl,_,hg=>⟨hl,fun n hn=>⟨hg n hn,fun x=>by simp⟩⟩
 | m::t,out,hl,hr,hg=>by
  obtain ⟨h0,h1⟩:=hr m (List.mem_cons_self ..)
  obtain ⟨i,rfl⟩:=Int.eq_ofNat_of_zero_le h0
  have hi:i<out.length:=by omega
  have hiN:i<N:=by omega
  obtain ⟨hw1,hw2⟩:=hW _ (hg i hiN)
  have hstep:qeq k (d:Int) out (i:Int)=out.set i ⟨withT k (qco out (i:Int)).f0 (d:Int)⟩:=by unfold qeq;rw [Int.toNat_natCast]
  obtain ⟨h2,h3⟩:=dom_inner (N:=N) hW t (qeq k (d:Int) out (i:Int)) (by rw [hstep,List.length_set,hl]) (fun n h=>hr n (List.mem_cons_of_mem _ h)) (fun n hn=>by
   rw [hstep,rd38_set _ hi]
   split
   ·exact hw1
   ·exact hg n hn)
  rw [List.foldl_cons]
  refine ⟨h2,fun n hn=>⟨(h3 n hn).1,fun x=>?_⟩⟩
  rw [(h3 n hn).2,hstep,rd38_set _ hi,List.mem_cons]
  by_cases e:n=i
  ·subst e
   rw [if_pos rfl]
   show tb (withT k (qco out (n:Int)).f0 (d:Int)) x=true∨_↔_
   rw [hw2,Bool.or_eq_true,decide_eq_true_eq]
   constructor
   ·rintro ((h|h)|h)
    ·exact .inl h
    ·exact .inr ⟨h,.inl rfl⟩
    ·exact .inr ⟨h.1,.inr h.2⟩
   ·rintro (h|⟨h,_⟩)
    ·exact .inl (.inl h)
    ·exact .inl (.inr h)
  ·rw [if_neg e]
   constructor
   ·rintro (h|h)
    ·exact .inl h
    ·exact .inr ⟨h.1,.inr h.2⟩
   ·rintro (h|⟨h,h'|h'⟩)
    ·exact .inl h
    ·exact absurd h' (by omega)
    ·exact .inr ⟨h,h'⟩
theorem dom_outer {l:List S60} {a:Bool} {b:Int} {k:Nat} {all:List Int} {D:Nat→Nat→Prop}:∀ (ds:List Int) (out:List S38),(∀ d∈ds,0≤d∧d≤65535)→(∀ d:Nat,(d:Int)∈ds→AddsTo k d)→(∀ d:Nat,(d:Int)∈ds→(∀ n∈els (qgw k a b l all (d:Int)),0≤n∧n<(l.length:Int))∧∀ n:Nat,n<l.length→((n:Int)∈els (qgw k a b l all (d:Int))↔D d n))→
  out.length=l.length→(∀ n:Nat,n<l.length→GS (qco out (n:Int)).f0)→
  (ds.foldl (qgy k a b l all) out).length=l.length∧∀ n:Nat,n<l.length→GS (qco (ds.foldl (qgy k a b l all) out) (n:Int)).f0∧∀ x:Nat,tb (qco (ds.foldl (qgy k a b l all) out) (n:Int)).f0 x=true↔tb (qco out (n:Int)).f0 x=true∨((x:Int)∈ds∧D x n)
 | [],out,_,_,_,hl,hg=>⟨hl,fun n hn=>⟨hg n hn,fun x=>by simp⟩⟩
 | d::t,out,hr,hW,hD,hl,hg=>by
  obtain ⟨i,rfl⟩:=Int.eq_ofNat_of_zero_le (hr d (List.mem_cons_self ..)).1
  obtain ⟨hD1,hD2⟩:=hD i (List.mem_cons_self ..)
  obtain ⟨h1,h2⟩:=dom_inner (hW i (List.mem_cons_self ..)) _ out hl hD1 hg
  obtain ⟨h3,h4⟩:=dom_outer t (qgy k a b l all out (i:Int)) (fun d h=>hr d (List.mem_cons_of_mem _ h)) (fun d h=>hW d (List.mem_cons_of_mem _ h)) (fun d h=>hD d (List.mem_cons_of_mem _ h)) h1 (fun n hn=>(h2 n hn).1)
  rw [List.foldl_cons]
  refine ⟨h3,fun n hn=>⟨(h4 n hn).1,fun x=>?_⟩⟩
  have h5:tb (qco (qgy k a b l all out (i:Int)) (n:Int)).f0 x=true↔tb (qco out (n:Int)).f0 x=true∨(x=i∧(n:Int)∈els (qgw k a b l all (i:Int))):=(h2 n hn).2 x
  rw [(h4 n hn).2,h5,hD2 n hn,List.mem_cons]
  constructor
  ·rintro ((h|⟨h,h'⟩)|h)
   ·exact .inl h
   ·subst h;exact .inr ⟨.inl rfl,h'⟩
   ·exact .inr ⟨.inr h.1,h.2⟩
  ·rintro (h|⟨h|h,h'⟩)
   ·exact .inl (.inl h)
   ·have:x=i:=by omega
    subst this
    exact .inl (.inr ⟨rfl,h'⟩)
   ·exact .inr ⟨h,h'⟩
structure DParts (a:Bool) (b:Int) (l:List S60) (all:List Int) (d:Nat) (av x s:List Int):Prop where
 hav:Ev (fun k=>qax.f k [(d:Int)]) av
 hx:Ev (fun k=>qcp.f k a b l 0 av) x
 hs:Ev (fun k=>qca.f k all x) s
 gs:GS s
 mem:∀ n:Int,n∈els s↔(0≤n∧n<(l.length:Int))∧Dm (Tg l) 0 (d:Int) n
theorem dparts {a:Bool} {b:Int} {l:List S60} (hN:l.length≤14) (h0:0<l.length) {all:List Int} (hg:GS all) (hall:qha l noN 0 (els all)) (d:Nat) (hd:d≤65535):∃ av x s,DParts a b l all d av x s:=by
 obtain ⟨av,x,h1,h2,h3,h4⟩:=cavoidOne_ev a b hN 0 d hd
 obtain ⟨s,h5,h6,h7⟩:=Minus_ev hg h3
 refine ⟨av,x,s,h1,h2,h5,h6,fun n=>?_⟩
 have hz:(0:Int)≤0∧(0:Int)<(l.length:Int):=by omega
 constructor
 ·intro hn
  obtain ⟨m,rfl,hm⟩:=qes hn
  rw [h7,Bool.and_eq_true,Bool.not_eq_true'] at hm
  have e1:=qec.2 hm.1
  refine ⟨hall.range e1,((hall.2 _).1 e1).2,fun hr=>?_⟩
  have:=qec.1 ((h4.2 _).2 ⟨hz,hr⟩)
  rw [hm.2] at this
  cases this
 ·rintro ⟨hr,h⟩
  obtain ⟨m,rfl⟩:=Int.eq_ofNat_of_zero_le hr.1
  rw [qec,h7,Bool.and_eq_true,Bool.not_eq_true']
  refine ⟨qec.1 ((hall.2 _).2 ⟨hz,h.1⟩),?_⟩
  cases e:tb x m with
  | false=>rfl
  | true=>exact absurd ((h4.2 _).1 (qec.2 e)).2 h.2
theorem dom_spec {a:Bool} {b:Int} {l:List S60} (hN:l.length≤14) {r:List S38} (h:Dom a b l r):r.length=l.length∧∀ n:Nat,n<l.length→GS (qco r (n:Int)).f0∧els (qco r (n:Int)).f0=qbu l (n:Int):=by
 obtain ⟨k,all,h1,_,_,h4,h5⟩:=h
 obtain ⟨all',e1,e2,e3⟩:=cReach_ev a b hN 0
 have ea:all=all':=e1.det (qcf.mono a b l 0) h1
 subst ea
 by_cases h0:0<l.length
 ·have hds:∀ d:Nat,(d:Int)∈els all→AddsTo k d∧(∀ n∈els (qgw k a b l all (d:Int)),0≤n∧n<(l.length:Int))∧∀ n:Nat,n<l.length→((n:Int)∈els (qgw k a b l all (d:Int))↔Dm (Tg l) 0 (d:Int) (n:Int)):=by
   intro d hd
   obtain ⟨⟨av,x,p1,p2,p3⟩,_,p5,p6⟩:=h4 d hd
   have hd':d≤65535:=by have:=e2.els_len hd;omega
   obtain ⟨av',x',s',hp⟩:=dparts (a:=a) (b:=b) hN h0 e2 e3 d hd'
   have q1:av=av':=hp.hav.det (qax.mono [(d:Int)]) p1
   subst q1
   have q2:x=x':=hp.hx.det (qcp.mono a b l 0 av) p2
   subst q2
   have q3:=hp.hs.det (qca.mono all x) p3
   refine ⟨p6.adds hd',p5,fun n hn=>?_⟩
   rw [q3,hp.mem]
   exact ⟨fun h=>h.2,fun h=>⟨by omega,h⟩⟩
  obtain ⟨g1,g2⟩:=dom_outer (a:=a) (b:=b) (k:=k) (all:=all) (D:=fun d n=>Dm (Tg l) 0 (d:Int) (n:Int)) (els all) (List.replicate l.length ⟨[]⟩) (fun d h=>e2.els_len h) (fun d h=>(hds d h).1) (fun d h=>(hds d h).2) (by simp) (fun n hn=>by
   unfold qco
   rw [Int.toNat_natCast,List.getD_eq_getElem?_getD,List.getElem?_replicate,if_pos hn]
   exact GS.nil)
  rw [← h5] at g1 g2
  refine ⟨g1,fun n hn=>⟨(g2 n hn).1,?_⟩⟩
  refine qgg (qhr _) (domRow_sorted _ _) (fun y=>?_)
  have hrep:∀ x:Nat,tb (qco (List.replicate l.length (⟨[]⟩:S38)) (n:Int)).f0 x=true↔False:=fun x=>by
   unfold qco
   rw [Int.toNat_natCast,List.getD_eq_getElem?_getD,List.getElem?_replicate,if_pos hn]
   simp [tb]
  rw [qdh]
  constructor
  ·intro hy
   obtain ⟨z,rfl,hz⟩:=qes hy
   have:=((g2 n hn).2 z).1 hz
   rw [hrep] at this
   have h':=this.resolve_left id
   exact ⟨e3.range h'.1,h'.2⟩
  ·rintro ⟨hr,hy⟩
   obtain ⟨z,rfl⟩:=Int.eq_ofNat_of_zero_le hr.1
   refine qec.2 (((g2 n hn).2 z).2 (.inr ⟨(e3.2 _).2 ⟨by omega,hy.rch⟩,hy⟩))
 ·have hl:els all=[]:=by
   rcases List.eq_nil_or_concat (els all) with h|⟨t,x,h⟩
   ·exact h
   ·have:=((e3.2 x).1 (by rw [h];simp)).1;omega
  rw [hl,List.foldl_nil] at h5
  exact ⟨by rw [h5];simp,fun n hn=>absurd hn (by omega)⟩
theorem dom_exists {a:Bool} {b:Int} {l:List S60} (hN:l.length≤14):∃ r,Dom a b l r:=by
 obtain ⟨all,e1,e2,e3⟩:=cReach_ev a b hN 0
 have key:∀ d∈els all,∃ K,∀ k,K≤k→DomAt k a b l all d:=by
  intro d hd
  obtain ⟨i,rfl⟩:=Int.eq_ofNat_of_zero_le (e2.els_len hd).1
  have h0:0<l.length:=by have:=((e3.2 _).1 hd).1;omega
  obtain ⟨av,x,s,⟨K1,q1⟩,⟨K2,q2⟩,⟨K3,q3⟩,q4,q5⟩:=dparts (a:=a) (b:=b) hN h0 e2 e3 i (by have:=e2.els_len hd;omega)
  obtain ⟨K4,q6⟩:=WithOk_ev i
  refine ⟨K1+K2+K3+K4,fun k hk=>?_⟩
  have r1:qax.f k [(i:Int)]=some av:=q1 k (by omega)
  have r2:qcp.f k a b l 0 av=some x:=q2 k (by omega)
  have r3:qca.f k all x=some s:=q3 k (by omega)
  have r4:qgw k a b l all (i:Int)=s:=by
   unfold qgw
   rw [r1,Option.bind_some,r2,Option.bind_some,r3]
   rfl
  refine ⟨⟨av,x,r1,r2,by rw [r4];exact r3⟩,by rw [r4];exact q4.ok,fun n hn=>?_,q6 k (by omega)⟩
  rw [r4] at hn
  exact ((q5 n).1 hn).1
 obtain ⟨K,hK⟩:=Ev.all (fun d k=>DomAt k a b l all d) (els all) key
 obtain ⟨K',e1⟩:=e1
 exact ⟨_,K+K',all,e1 _ (by omega),e2.ok,by omega,hK _ (by omega),rfl⟩
theorem cdom_f (a:Bool) (b:Int) {l:List S60} (hN:l.length≤14):∃ r,qbd.f a b l=some r∧r.length=l.length∧∀ n:Nat,n<l.length→GS (qco r (n:Int)).f0∧els (qco r (n:Int)).f0=qbu l (n:Int):=by
 have h:=dom_exists (a:=a) (b:=b) hN
 refine ⟨h.choose,?_,dom_spec hN h.choose_spec⟩
 unfold qbd.f
 rw [dif_pos h]
end
end Go.Proofs.YtmfjmbcfaamebaaDoor.X
namespace Go.Proofs.YtmfjmbcfaamebaaDoor.X
open Go.RowKit Go.Proofs.YtmfjmbcfaamebaaDoorW.PrintWords Go.Proofs.YtmfjmbcfaamebaaDoorW.PrintLast Go.Proofs.YtmfjmbcfaamebaaDoorW.PrintMore
def popN:Nat→Nat→Nat
 | 0,_=>0
 | k+1,w=>w % 2+popN k (w/2)
theorem popN_zero:∀ k,popN k 0=0
 | 0=>rfl
 | k+1=>by rw [popN,Nat.zero_mod,Nat.zero_div,popN_zero k]
theorem popN_more:∀ (j m w:Nat),w<2 ^ j→popN (j+m) w=popN j w
 | 0,m,w,h=>by
  have:w=0:=by simpa using h
  subst this
  rw [popN_zero,popN_zero]
 | j+1,m,w,h=>by
  rw [show j+1+m=(j+m)+1 by omega,popN,popN,popN_more j m (w/2) (by rw [Nat.pow_succ] at h;omega)]
theorem popN_range:∀ (k w:Nat),((List.range k).filter (fun i=>w.testBit i)).length=popN k w
 | 0,w=>by simp [popN]
 | k+1,w=>by
  rw [List.range_succ_eq_map,List.filter_cons,List.filter_map,popN,← popN_range k (w/2)]
  have e:(fun i=>w.testBit i)∘Nat.succ=fun i=>(w/2).testBit i:=by
   funext i
   simp [Nat.testBit_succ]
  rw [e]
  have h0:w.testBit 0=decide (w % 2=1):=by simp [Nat.testBit_zero]
  rw [h0]
  by_cases h:w % 2=1
  ·rw [if_pos (by simpa using h)];simp;omega
  ·rw [if_neg (by simpa using h)];simp;omega
theorem bitsW_length {w:Nat} (h:w<2 ^ 14):(qfy w).length=popN 14 w:=by
 unfold qfy
 rw [popN_range,popN_more 14 50 w h]
def popUpto:Nat→Nat→Bool
 | 0,w=>qdw.f (w:Int)==some ((popN 14 w:Nat):Int)
 | k+1,w=>popUpto k w&&popUpto k (w+2 ^ k)
theorem popUpto_of:∀ (k b w:Nat),popUpto k b=true→b≤w→w<b+2 ^ k→qdw.f (w:Int)=some ((popN 14 w:Nat):Int)
 | 0,b,w,h,h1,h2=>by
  have:w=b:=by rw [Nat.pow_zero] at h2;omega
  subst this
  exact eq_of_beq h
 | k+1,b,w,h,h1,h2=>by
  rw [popUpto,Bool.and_eq_true] at h
  rw [Nat.pow_succ] at h2
  by_cases hw:w<b+2 ^ k
  ·exact popUpto_of k b w h.1 h1 hw
  ·exact popUpto_of k (b+2 ^ k) w h.2 (by omega) (by omega)
set_option maxRecDepth 100000 in
theorem pop_all:popUpto 14 0=true:=by decide +kernel
theorem ones_f {w:Nat} (h:w<2 ^ 14):qdw.f (w:Int)=some ((qfy w).length:Int):=by
 rw [bitsW_length h]
 exact popUpto_of 14 0 w pop_all (by omega) (by omega)
end Go.Proofs.YtmfjmbcfaamebaaDoor.X
namespace Go.Proofs.YtmfjmbcfaamebaaDoor.X
noncomputable section
open Go.RowKit Go.Proofs.YtmfjmbcfaamebaaDoorW.PrintWords Go.Proofs.YtmfjmbcfaamebaaDoorW.PrintLast Go.Proofs.YtmfjmbcfaamebaaDoorW.PrintMore
theorem els_small {ws:List Int} (hw:GS ws) (hs:∀ x∈els ws,x<14):ws=[]∨∃ w:Nat,ws=[(w:Int)]∧w<2 ^ 14∧els ws=(qfy w).map (fun j=>((j:Nat):Int)):=by
 have hsmall:∀ j b:Nat,j<ws.length→b<64→(ws.getD j 0).toNat.testBit b=true→j*64+b<14:=by
  intro j b hj hb ht
  have:((j*64+b:Nat):Int)∈els ws:=qec.2 (by
   rw [tb,show (j*64+b)/64=j by omega,show (j*64+b) % 64=b by omega];exact ht)
  have:=hs _ this
  omega
 have hz:∀ j,0<j→j<ws.length→ws.getD j 0=0:=by
  intro j h0 hj
  have hwd:=hw.wd.getD j
  have:(ws.getD j 0).toNat=0:=by
   refine Nat.eq_of_testBit_eq (fun b=>?_)
   rw [Nat.zero_testBit]
   by_cases hb:b<64
   ·cases e:(ws.getD j 0).toNat.testBit b with
    | false=>rfl
    | true=>have:=hsmall j b hj hb e;omega
   ·refine Nat.testBit_lt_two_pow (Nat.lt_of_lt_of_le (?_:(ws.getD j 0).toNat<2 ^ 64) (Nat.pow_le_pow_right (by omega) (by omega)))
    omega
  omega
 match ws,hw,hsmall,hz with
 | [],_,_,_=>exact .inl rfl
 | [w],hw,hsmall,_=>
  right
  have hwd:=hw.wd w (by simp)
  obtain ⟨n,rfl⟩:=Int.eq_ofNat_of_zero_le hwd.1
  refine ⟨n,rfl,?_,?_⟩
  ·refine Nat.lt_pow_two_of_testBit n (fun i hi=>?_)
   by_cases hb:i<64
   ·cases e:n.testBit i with
    | false=>rfl
    | true=>have:=hsmall 0 i (by simp) hb (by simpa using e);omega
   ·exact Nat.testBit_lt_two_pow (Nat.lt_of_lt_of_le (by omega:n<2 ^ 64) (Nat.pow_le_pow_right (by omega) (by omega)))
  ·simp [els,qdz]
 | w::v::t,hw,_,hz=>
  exfalso
  have h1:(w::v::t).getLast (by simp)=0:=by
   have:=hz (t.length+1) (by omega) (by simp)
   rw [List.getLast_eq_getElem]
   rw [List.getD_eq_getElem?_getD,List.getElem?_eq_getElem (by simp)] at this
   simpa using this
  exact hw.trim (by simp) h1
theorem Len_ev {ws:List Int} (hw:GS ws) (hs:∀ x∈els ws,x<14):Ev (fun k=>qbh.f k ws) ((els ws).length:Int):=by
 have hb:(els ws).length≤14:=qgd (qhr ws) (fun x hx=>⟨(hw.els_len hx).1,hs x hx⟩)
 rcases els_small hw hs with rfl|⟨w,rfl,h1,h2⟩
 ·refine Ev.next (Ev.const _) (fun k=>?_)
  rw [qbh.f,qbh.l0,if_neg (by decide)]
  rfl
 ·have hone:=ones_f h1
  have hlen:(qfy w).length=(els [(w:Int)]).length:=by rw [h2,List.length_map]
  rw [hlen] at hone
  have hw0:wrap64 (0+((els [(w:Int)]).length:Int))=((els [(w:Int)]).length:Int):=by
   rw [Int.zero_add];exact qfi (by omega) (by omega)
  refine Ev.succ (Ev.next (Ev.const _) (fun k=>?_))
  rw [qbh.f,qbh.l0]
  have c1:((0:Int)<(([(w:Int)]:List Int).length:Int))=True:=eq_true (by show (0:Int)<1;decide)
  have c2:(0≤(0:Int))=True:=eq_true (by decide)
  have e1:rd [(w:Int)] 0=(w:Int):=rfl
  simp only [c1,c2,e1,hone,if_true,Option.bind_some,hw0]
  rw [qbh.l0,if_neg (by rw [show wrap64 (0+1)=1 from qfi (x:=0+1) (by omega) (by omega)];show ¬ (1:Int)<1;omega)]
theorem Dm.range {l:List S60} {d n:Int} (h:Dm (Tg l) 0 d n) (h0:0<l.length):(0≤d∧d<(l.length:Int))∧0≤n∧n<(l.length:Int):=⟨h.rch.range (by omega),h.1.range (by omega)⟩
theorem domRow_sub {l:List S60} {d n:Int} (h:Dm (Tg l) 0 d n) (hne:d≠n):(∀ x∈qbu l d,x∈qbu l n∧x≠n):=by
 intro x hx
 have:=qdh.1 hx
 refine ⟨qdh.2 ⟨this.1,this.2.trans h⟩,fun e=>?_⟩
 subst e
 exact hne (h.antisymm this.2)
theorem domRow_nodup (l:List S60) (n:Int):(qbu l n).Nodup:=(domRow_sorted l n).imp (fun h=>by omega)
theorem qgc {l:List S60} (h0:0<l.length) {d n:Int} (h:Dm (Tg l) 0 d n) (hne:d≠n):(qbu l d).length<(qbu l n).length:=by
 have hn:n∈qbu l n:=qdh.2 ⟨(h.range h0).2,Dm.self h.1⟩
 have h1:(n::qbu l d).Nodup:=List.nodup_cons.2 ⟨fun e=>(domRow_sub h hne n e).2 rfl,domRow_nodup l d⟩
 have:=h1.length_le_of_subset (l₂:=qbu l n) (fun x hx=>(List.mem_cons.1 hx).elim (fun e=>e▸hn) (fun e=>(domRow_sub h hne x e).1))
 rw [List.length_cons] at this
 omega
def qfk (l:List S60) (n d:Int):Prop:=(d=-1∧∀ x∈qbu l n,x=n)∨(d∈qbu l n∧d≠n∧(qbu l d).length+1=(qbu l n).length)
theorem dom_uniq {l:List S60} (h0:0<l.length) {n d d':Int} (h1:d∈qbu l n) (h2:d'∈qbu l n) (h3:(qbu l d).length=(qbu l d').length):d=d':=by
 by_cases e:d=d'
 ·exact e
 ·exfalso
  rcases (qdh.1 h1).2.chain (qdh.1 h2).2 with h|h
  ·have:=qgc h0 h e;omega
  ·have:=qgc h0 h (Ne.symm e);omega
theorem qfk.uniq {l:List S60} (h0:0<l.length) {n d d':Int} (h:qfk l n d) (h':qfk l n d'):d=d':=by
 rcases h with ⟨h1,h2⟩|⟨h1,h2,h3⟩
 ·rcases h' with ⟨h4,_⟩|⟨h4,h5,_⟩
  ·rw [h1,h4]
  ·exact absurd (h2 _ h4) h5
 ·rcases h' with ⟨_,h5⟩|⟨h4,_,h6⟩
  ·exact absurd (h5 _ h1) h2
  ·exact dom_uniq h0 h1 h4 (by omega)
theorem idom_of_max {l:List S60} (h0:0<l.length) {n d:Int} (h1:d∈qbu l n) (h2:d≠n) (h3:∀ x∈qbu l n,x≠n→(qbu l x).length≤(qbu l d).length):qfk l n d:=by
 refine .inr ⟨h1,h2,?_⟩
 have hd:=(qdh.1 h1).2
 have hlt:=qgc h0 hd h2
 have hsub:∀ x∈qbu l n,x∈n::qbu l d:=by
  intro x hx
  by_cases e:x=n
  ·rw [e];exact List.mem_cons_self ..
  ·refine List.mem_cons_of_mem _ ?_
   have hx':=qdh.1 hx
   rcases hx'.2.chain hd with h|h
   ·exact qdh.2 ⟨hx'.1,h⟩
   ·by_cases e':d=x
    ·rw [← e'];exact qdh.2 ⟨(qdh.1 h1).1,Dm.self hd.rch⟩
    ·have:=qgc h0 h e';have:=h3 x hx e;omega
 have:=(domRow_nodup l n).length_le_of_subset hsub
 rw [List.length_cons] at this
 omega
theorem idom_exists {l:List S60} (h0:0<l.length) (n:Int):∃ d,qfk l n d:=by
 by_cases h:∀ x∈qbu l n,x=n
 ·exact ⟨-1,.inl ⟨rfl,h⟩⟩
 ·obtain ⟨x,hx,hne⟩:∃ x∈qbu l n,x≠n:=Classical.byContradiction fun hc=>h (fun x hx=>Classical.byContradiction fun hne=>hc ⟨x,hx,hne⟩)
  have key:∀ m:Nat,∀ x∈qbu l n,x≠n→(qbu l n).length-(qbu l x).length≤m→∃ d,qfk l n d:=by
   intro m
   induction m with
   | zero=>intro x hx hne hm;have:=qgc h0 (qdh.1 hx).2 hne;omega
   | succ m ih=>
    intro x hx hne hm
    by_cases hmax:∀ y∈qbu l n,y≠n→(qbu l y).length≤(qbu l x).length
    ·exact ⟨x,idom_of_max h0 hx hne hmax⟩
    ·obtain ⟨y,hy,hy1,hy2⟩:∃ y∈qbu l n,y≠n∧¬ (qbu l y).length≤(qbu l x).length:=Classical.byContradiction fun hc=>hmax (fun y hy h1=>Classical.byContradiction fun h2=>hc ⟨y,hy,h1,h2⟩)
     exact ih y hy hy1 (by have:=qgc h0 (qdh.1 hy).2 hy1;omega)
  exact key _ x hx hne (Nat.le_refl _)
open Classical in
noncomputable def idom (l:List S60) (n:Int):Int:=if h:∃ d,qfk l n d then h.choose else -1
theorem idom_spec {l:List S60} (h0:0<l.length) (n:Int):qfk l n (idom l n):=by
 have h:=idom_exists h0 n
 unfold idom
 rw [dif_pos h]
 exact h.choose_spec
theorem qfk.eq {l:List S60} (h0:0<l.length) {n d:Int} (h:qfk l n d):d=idom l n:=h.uniq h0 (idom_spec h0 n)
theorem qfh {l:List S60} {n:Nat} (hn:n<l.length):(qdv l).getD n []=qbu l (n:Int):=by
 unfold qdv
 rw [List.getD_eq_getElem?_getD,List.getElem?_map,List.getElem?_range hn]
 rfl
theorem rimmIn_f {l:List S60} {n:Int}:∀ (t seen:List Int) (best:Int),qbu l n=seen++t→
  ((best=-1∧∀ x∈seen,x=n)∨(best∈qbu l n∧best≠n∧∀ x∈seen,x≠n→(qbu l x).length≤(qbu l best).length))→
  ∃ d,qgf (qdv l) n t best=some d∧((d=-1∧∀ x∈qbu l n,x=n)∨(d∈qbu l n∧d≠n∧∀ x∈qbu l n,x≠n→(qbu l x).length≤(qbu l d).length))
 | [],seen,best,he,hb=>by
  rw [List.append_nil] at he
  subst he
  exact ⟨best,rfl,hb⟩
 | d::t,seen,best,he,hb=>by
  have he':qbu l n=(seen++[d])++t:=by rw [he];simp
  have hd:d∈qbu l n:=by rw [he];simp
  have hdr:=(qdh.1 hd).1
  by_cases h1:d=n
  ·obtain ⟨r,h2,h3⟩:=rimmIn_f t (seen++[d]) best he' (hb.imp (fun h=>⟨h.1,fun x hx=>(List.mem_append.1 hx).elim (h.2 x) (fun e=>by rw [List.mem_singleton.1 e];exact h1)⟩) (fun h=>⟨h.1,h.2.1,fun x hx hne=>(List.mem_append.1 hx).elim (fun e=>h.2.2 x e hne) (fun e=>absurd (by rw [List.mem_singleton.1 e];exact h1) hne)⟩))
   exact ⟨r,by rw [qgf,if_pos h1];exact h2,h3⟩
  ·by_cases h2:best<0
   ·have hb':best=-1∧∀ x∈seen,x=n:=hb.resolve_right (fun h=>by have:=(qdh.1 h.1).1;omega)
    obtain ⟨r,h3,h4⟩:=rimmIn_f t (seen++[d]) d he' (.inr ⟨hd,h1,fun x hx hne=>(List.mem_append.1 hx).elim (fun e=>absurd (hb'.2 x e) hne) (fun e=>by rw [List.mem_singleton.1 e];exact Nat.le_refl _)⟩)
    exact ⟨r,by rw [qgf,if_neg h1,if_pos h2];exact h3,h4⟩
   ·obtain ⟨hb1,hb2,hb3⟩:=hb.resolve_left (fun h=>by omega)
    have hbr:=(qdh.1 hb1).1
    have hlen:(qdv l).length=l.length:=by simp [qdv]
    have e1:(qdv l).getD best.toNat []=qbu l best:=by
     rw [qfh (by omega),show ((best.toNat:Nat):Int)=best by omega]
    have e2:(qdv l).getD d.toNat []=qbu l d:=by
     rw [qfh (by omega),show ((d.toNat:Nat):Int)=d by omega]
    by_cases h3:(qbu l best).length<(qbu l d).length
    ·obtain ⟨r,h4,h5⟩:=rimmIn_f t (seen++[d]) d he' (.inr ⟨hd,h1,fun x hx hne=>(List.mem_append.1 hx).elim (fun e=>Nat.le_of_lt (Nat.lt_of_le_of_lt (hb3 x e hne) h3)) (fun e=>by rw [List.mem_singleton.1 e];exact Nat.le_refl _)⟩)
     exact ⟨r,by rw [qgf,if_neg h1,if_neg h2,if_pos (by rw [hlen];omega),e1,e2,if_pos h3];exact h4,h5⟩
    ·obtain ⟨r,h4,h5⟩:=rimmIn_f t (seen++[d]) best he' (.inr ⟨hb1,hb2,fun x hx hne=>(List.mem_append.1 hx).elim (fun e=>hb3 x e hne) (fun e=>by rw [List.mem_singleton.1 e];omega)⟩)
     exact ⟨r,by rw [qgf,if_neg h1,if_neg h2,if_pos (by rw [hlen];omega),e1,e2,if_neg h3];exact h4,h5⟩
noncomputable def idoms (l:List S60):List Int:=(List.range l.length).map (fun (i:Nat)=>idom l (i:Int))
theorem rimmOut_f {l:List S60} (hN:l.length≤14):∀ (m i:Nat),i+m=l.length→qhj (qdv l) m i ((List.range i).map (fun (i:Nat)=>idom l (i:Int)))=some (idoms l)
 | 0,i,hi=>by
  have e:i=l.length:=by omega
  subst e
  rfl
 | m+1,i,hi=>by
  have h0:0<l.length:=by omega
  obtain ⟨d,h1,h2⟩:=rimmIn_f (l:=l) (n:=(i:Int)) (qbu l (i:Int)) [] (-1) (by simp) (.inl ⟨rfl,fun x hx=>absurd hx (by simp)⟩)
  have hd:qfk l (i:Int) d:=h2.elim (fun h=>.inl h) (fun h=>idom_of_max h0 h.1 h.2.1 h.2.2)
  have e:=hd.eq h0
  subst e
  have:=rimmOut_f hN m (i+1) (by omega)
  rw [qex] at this
  have hlen:(qdv l).length=l.length:=by simp [qdv]
  rw [qhj,if_pos (by rw [hlen];simp;omega),qfh (by omega),h1,Option.bind_some]
  exact this
theorem rimm_ev (a:Bool) (b:Int) {l:List S60} (hN:l.length≤14):Ev (fun k=>qbw.f k a b l) (idoms l):=Ev.bind (rdom_ev a b hN) (g:=fun _ dom=>qhj dom l.length 0 []) (Ev.fix (rimmOut_f hN l.length 0 (by omega)))
theorem imm_fold {l:List S60} (h0:0<l.length) {n:Int} {step:Int→Int→Int} (hs:∀ o d,d∈qbu l n→d≠n→step o d=if (qbu l d).length+1=(qbu l n).length then d else o) :
  ∀ (t:List Int) (o:Int),(∀ x∈t,x∈qbu l n∧x≠n)→(o=-1∨qfk l n o)→(∀ x∈qbu l n,x≠n→x∈t∨(qbu l x).length+1≠(qbu l n).length∨qfk l n o)→qfk l n (t.foldl step o)
 | [],o,_,ho,hc=>by
  rcases ho with rfl|ho
  ·by_cases h:∀ x∈qbu l n,x=n
   ·exact .inl ⟨rfl,h⟩
   ·obtain ⟨d,hd⟩:=idom_exists h0 n
    have hd':=hd
    rcases hd with ⟨_,h1⟩|⟨h1,h2,h3⟩
    ·exact absurd h1 h
    ·rcases hc d h1 h2 with h4|h4|h4
     ·simp at h4
     ·exact absurd h3 h4
     ·exact h4
  ·exact ho
 | d::t,o,ht,ho,hc=>by
  obtain ⟨h1,h2⟩:=ht d (List.mem_cons_self ..)
  rw [List.foldl_cons,hs o d h1 h2]
  by_cases h3:(qbu l d).length+1=(qbu l n).length
  ·rw [if_pos h3]
   have hd:qfk l n d:=.inr ⟨h1,h2,h3⟩
   exact imm_fold h0 hs t d (fun x hx=>ht x (List.mem_cons_of_mem _ hx)) (.inr hd) (fun x _ _=>.inr (.inr hd))
  ·rw [if_neg h3]
   exact imm_fold h0 hs t o (fun x hx=>ht x (List.mem_cons_of_mem _ hx)) ho (fun x hx hne=>by
    rcases hc x hx hne with h|h
    ·rcases List.mem_cons.1 h with rfl|h
     ·exact .inr (.inl h3)
     ·exact .inl h
    ·exact .inr h)
theorem imm_parts {l:List S60} (hN:l.length≤14) {dom:List S38} (hd:∀ n:Nat,n<l.length→GS (qco dom (n:Int)).f0∧els (qco dom (n:Int)).f0=qbu l (n:Int)) (n:Nat) (hn:n<l.length) :
  (∃ s,Ev (fun k=>qci.f k (qco dom (n:Int)).f0 (n:Int)) s∧GS s∧∀ x,x∈els s↔x∈qbu l (n:Int)∧x≠(n:Int))∧Ev (fun k=>qbh.f k (qco dom (n:Int)).f0) ((qbu l (n:Int)).length:Int):=by
 obtain ⟨h1,h2⟩:=hd n hn
 obtain ⟨s,h3,h4,h5⟩:=Without_ev h1 n (by omega)
 refine ⟨⟨s,h3,h4,fun x=>?_⟩,?_⟩
 ·rw [← h2]
  constructor
  ·intro hx
   obtain ⟨z,rfl,hz⟩:=qes hx
   rw [h5,Bool.and_eq_true,Bool.not_eq_true',decide_eq_false_iff_not] at hz
   exact ⟨qec.2 hz.1,by omega⟩
  ·rintro ⟨hx,hne⟩
   obtain ⟨z,rfl,hz⟩:=qes hx
   rw [qec,h5,hz,Bool.true_and,Bool.not_eq_true',decide_eq_false_iff_not]
   omega
 ·have:=Len_ev h1 (fun x hx=>by rw [h2] at hx;have:=(qdh.1 hx).1;omega)
  rw [h2] at this
  exact this
theorem imm_at {l:List S60} (hN:l.length≤14) {dom:List S38} (hd:∀ n:Nat,n<l.length→GS (qco dom (n:Int)).f0∧els (qco dom (n:Int)).f0=qbu l (n:Int)) {k:Nat}
  (h1:∀ n:Nat,n<l.length→qci.f k (qco dom (n:Int)).f0 (n:Int)=some (qgx k dom (n:Int))) (h2:∀ d:Int,0≤d→d<(l.length:Int)→qbh.f k (qco dom d).f0=some (lenT k (qco dom d).f0))
  (n:Nat) (hn:n<l.length):immAt k dom n=idom l (n:Int):=by
 have h0:0<l.length:=by omega
 obtain ⟨⟨s,e1,_,e3⟩,_⟩:=imm_parts hN hd n hn
 have es:qgx k dom (n:Int)=s:=e1.det (qci.mono _ _) (h1 n hn)
 have hlen:∀ d:Int,0≤d→d<(l.length:Int)→lenT k (qco dom d).f0=((qbu l d).length:Int):=by
  intro d hd0 hd1
  obtain ⟨m,rfl⟩:=Int.eq_ofNat_of_zero_le hd0
  exact (imm_parts hN hd m (by omega)).2.det (qbh.mono _) (h2 _ hd0 hd1)
 refine qfk.eq h0 ?_
 unfold immAt
 rw [es]
 refine imm_fold h0 (fun o d hdm hne=>?_) (els s) (-1) (fun x hx=>(e3 x).1 hx) (.inl rfl) (fun x hx hne=>.inl ((e3 x).2 ⟨hx,hne⟩))
 have hdr:=(qdh.1 hdm).1
 have hb:(qbu l (n:Int)).length≤14:=Nat.le_trans (qgh l (n:Int)) hN
 unfold qgq
 rw [hlen d hdr.1 hdr.2,hlen (n:Int) (by omega) (by omega),qfi (by omega) (by omega)]
 by_cases h:(qbu l d).length+1=(qbu l (n:Int)).length
 ·rw [if_pos h,if_pos (by omega)]
 ·rw [if_neg h,if_neg (by omega)]
theorem cimm_f (a:Bool) (b:Int) {l:List S60} (hN:l.length≤14):qbg.f a b l=some (idoms l):=by
 obtain ⟨dom,hdom,hlen,hd⟩:=cdom_f a b hN
 have hex:∃ r,Imm a b l r:=by
  have k1:∀ n∈List.range l.length,∃ K,∀ k,K≤k→(qci.f k (qco dom (n:Int)).f0 (n:Int)=some (qgx k dom (n:Int))∧setOk (qgx k dom (n:Int))=true∧∀ d∈els (qgx k dom (n:Int)),0≤d∧d<(l.length:Int))∧qbh.f k (qco dom (n:Int)).f0=some (lenT k (qco dom (n:Int)).f0):=by
   intro n hn
   obtain ⟨⟨s,⟨K1,e1⟩,e2,e3⟩,⟨K2,e4⟩⟩:=imm_parts hN hd n (List.mem_range.1 hn)
   refine ⟨K1+K2,fun k hk=>?_⟩
   have e1':qci.f k (qco dom (n:Int)).f0 (n:Int)=some s:=e1 k (by omega)
   have e4':qbh.f k (qco dom (n:Int)).f0=some ((qbu l (n:Int)).length:Int):=e4 k (by omega)
   have es:qgx k dom (n:Int)=s:=by unfold qgx;rw [e1'];rfl
   rw [es]
   exact ⟨⟨e1',e2.ok,fun d hd'=>(qdh.1 ((e3 d).1 hd').1).1⟩,by unfold lenT;rw [e4'];rfl⟩
  obtain ⟨K,hK⟩:=Ev.all _ _ k1
  have hK:=hK K (Nat.le_refl _)
  refine ⟨_,K,dom,hdom,hlen,by omega,fun n hn=>(hK n (List.mem_range.2 hn)).1,fun d h0 h1=>?_,rfl⟩
  obtain ⟨m,rfl⟩:=Int.eq_ofNat_of_zero_le h0
  exact (hK m (List.mem_range.2 (by omega))).2
 have hall:∀ r,Imm a b l r→r=idoms l:=by
  rintro r ⟨k,dom',h1,_,_,h4,h5,h6⟩
  rw [hdom] at h1
  obtain rfl:=Option.some.inj h1
  rw [h6]
  unfold idoms
  refine List.map_congr_left (fun n hn=>?_)
  exact imm_at hN hd (fun n hn=>(h4 n hn).1) h5 n (List.mem_range.1 hn)
 unfold qbg.f
 rw [dif_pos hex,hall _ hex.choose_spec]
end
end Go.Proofs.YtmfjmbcfaamebaaDoor.X
namespace Go.Proofs.YtmfjmbcfaamebaaDoor.X
noncomputable section
open Go.RowKit Go.Proofs.YtmfjmbcfaamebaaDoorW.PrintWords Go.Proofs.YtmfjmbcfaamebaaDoorW.PrintLast Go.Proofs.YtmfjmbcfaamebaaDoorW.PrintMore
open Classical in
noncomputable def bIn (l:List S60) (a:Int) (row:List Int) (out:List S39):List S39:=row.foldl (fun o b=>if b∈qbu l a then o++[(⟨a,b⟩:S39)] else o) out
noncomputable def bOut (l:List S60):Nat→List (List Int)→List S39→List S39
 | _,[],out=>out
 | a,r::t,out=>bOut l (a+1) t (bIn l (a:Int) r out)
noncomputable def qhs (l:List S60):List S39:=bOut l 0 (Succ l) []
theorem bIn_cons (l:List S60) (a b:Int) (t:List Int) (out:List S39) (c:Bool) (hc:c=true↔b∈qbu l a):bIn l a (b::t) out=bIn l a t (if c=true then out++[(⟨a,b⟩:S39)] else out):=by
 classical
 unfold bIn
 rw [List.foldl_cons]
 by_cases h:b∈qbu l a
 ·rw [if_pos h,if_pos (hc.2 h)]
 ·rw [if_neg h,if_neg (fun e=>h (hc.1 e))]
theorem ite_len (c:Bool) (out:List S39) (x:S39):(if c=true then out++[x] else out).length≤out.length+1:=by cases c <;> simp
theorem qhp (l:List S60) (a:Int):∀ (row:List Int) (out:List S39),(bIn l a row out).length≤out.length+row.length
 | [],out=>by simp [bIn]
 | b::t,out=>by
  classical
  rw [bIn_cons l a b t out (decide (b∈qbu l a)) (by simp)]
  have:=qhp l a t (if decide (b∈qbu l a)=true then out++[(⟨a,b⟩:S39)] else out)
  have:=ite_len (decide (b∈qbu l a)) out (⟨a,b⟩:S39)
  rw [List.length_cons]
  omega
theorem bIn_mem (l:List S60) (a:Int):∀ (row:List Int) (out:List S39) (e:S39),e∈bIn l a row out↔e∈out∨∃ b,b∈row∧b∈qbu l a∧e=⟨a,b⟩
 | [],out,e=>by simp [bIn]
 | b::t,out,e=>by
  classical
  rw [bIn_cons l a b t out (decide (b∈qbu l a)) (by simp),bIn_mem l a t]
  by_cases h:b∈qbu l a
  ·rw [if_pos (by simpa using h),List.mem_append,List.mem_singleton]
   constructor
   ·rintro ((h1|h1)|⟨c,h1,h2,h3⟩)
    ·exact .inl h1
    ·exact .inr ⟨b,List.mem_cons_self ..,h,h1⟩
    ·exact .inr ⟨c,List.mem_cons_of_mem _ h1,h2,h3⟩
   ·rintro (h1|⟨c,h1,h2,h3⟩)
    ·exact .inl (.inl h1)
    ·rcases List.mem_cons.1 h1 with rfl|h1
     ·exact .inl (.inr h3)
     ·exact .inr ⟨c,h1,h2,h3⟩
  ·rw [if_neg (by simpa using h)]
   constructor
   ·rintro (h1|⟨c,h1,h2,h3⟩)
    ·exact .inl h1
    ·exact .inr ⟨c,List.mem_cons_of_mem _ h1,h2,h3⟩
   ·rintro (h1|⟨c,h1,h2,h3⟩)
    ·exact .inl h1
    ·rcases List.mem_cons.1 h1 with rfl|h1
     ·exact absurd h2 h
     ·exact .inr ⟨c,h1,h2,h3⟩
theorem bOut_mem (l:List S60):∀ (rows:List (List Int)) (i:Nat) (out:List S39) (e:S39),e∈bOut l i rows out↔e∈out∨∃ j b,j<rows.length∧b∈rows.getD j []∧b∈qbu l ((i+j:Nat):Int)∧e=⟨((i+j:Nat):Int),b⟩
 | [],i,out,e=>by simp [bOut]
 | r::t,i,out,e=>by
  rw [bOut,bOut_mem l t (i+1),bIn_mem]
  constructor
  ·rintro ((h1|⟨b,h1,h2,h3⟩)|⟨j,b,h1,h2,h3,h4⟩)
   ·exact .inl h1
   ·exact .inr ⟨0,b,by simp,by simpa using h1,by simpa using h2,by simpa using h3⟩
   ·exact .inr ⟨j+1,b,by simpa using h1,by simpa using h2,by rw [show i+(j+1)=i+1+j by omega];exact h3,by rw [show i+(j+1)=i+1+j by omega];exact h4⟩
  ·rintro (h1|⟨j,b,h1,h2,h3,h4⟩)
   ·exact .inl (.inl h1)
   ·cases j with
    | zero=>exact .inl (.inr ⟨b,by simpa using h2,by simpa using h3,by simpa using h4⟩)
    | succ j=>exact .inr ⟨j,b,by simpa using h1,by simpa using h2,by rw [show i+1+j=i+(j+1) by omega];exact h3,by rw [show i+1+j=i+(j+1) by omega];exact h4⟩
theorem Succ_getD {l:List S60} {n:Nat} (hn:n<l.length):(Succ l).getD n []=Sc l (n:Int):=by
 unfold Succ
 rw [List.getD_eq_getElem?_getD,List.getElem?_map,List.getElem?_range hn]
 rfl
theorem backs_mem {l:List S60} {e:S39}:e∈qhs l↔(0≤e.f0∧e.f0<(l.length:Int))∧e.f1∈Tg l e.f0∧e.f1∈qbu l e.f0:=by
 unfold qhs
 rw [bOut_mem]
 constructor
 ·rintro (h|⟨j,b,h1,h2,h3,h4⟩)
  ·simp at h
  ·rw [qel] at h1
   rw [Succ_getD h1] at h2
   rw [Nat.zero_add] at h3 h4
   subst h4
   exact ⟨⟨by show (0:Int)≤(j:Int);omega,by show (j:Int)<_;omega⟩,Sc_mem.1 h2,h3⟩
 ·rintro ⟨h1,h2,h3⟩
  obtain ⟨a,b⟩:=e
  obtain ⟨j,rfl⟩:=Int.eq_ofNat_of_zero_le h1.1
  have hj:j<l.length:=by have:=h1.2;simp at this;omega
  refine .inr ⟨j,b,by rw [qel];exact hj,by rw [Succ_getD hj];exact Sc_mem.2 h2,by rw [Nat.zero_add];exact h3,by rw [Nat.zero_add]⟩
theorem domRow_len14 {l:List S60} (hN:l.length≤14) (n:Int):(qbu l n).length<4611686018427387904:=by
 have:=qgh l n
 omega
theorem rbackIn_ev {l:List S60} (hN:l.length≤14) (n:Nat) (hn:n<l.length):∀ (row:List Int) (out:List S39),out.length+row.length<100000→Ev (fun k=>qfz k (qdv l) (n:Int) row out) (bIn l (n:Int) row out)
 | [],out,_=>Ev.const _
 | b::t,out,ho=>by
  classical
  rw [List.length_cons] at ho
  rw [bIn_cons l (n:Int) b t out (decide (b∈qbu l (n:Int))) (by simp)]
  have hh:=qga (qbu l (n:Int)) b (domRow_len14 hN _)
  have hlen:(qdv l).length=l.length:=by simp [qdv]
  have hg:(qdv l).getD (n:Int).toNat []=qbu l (n:Int):=by rw [Int.toNat_natCast,qfh hn]
  have c1:(n:Int)<((qdv l).length:Int)∧out.length<1099511627776:=by rw [hlen];omega
  simp only [qfz,if_pos c1,hg]
  refine Ev.bind hh ?_
  have e:(@decide (b∈qbu l (n:Int)) (List.instDecidableMemOfLawfulBEq b (qbu l (n:Int))))=decide (b∈qbu l (n:Int)):=by congr
  rw [e]
  exact rbackIn_ev hN n hn t _ (by have:=ite_len (decide (b∈qbu l (n:Int))) out (⟨(n:Int),b⟩:S39);omega)
theorem rbackOut_ev {l:List S60} (hN:l.length≤14):∀ (rows:List (List Int)) (i:Nat) (out:List S39),(∀ r∈rows,r.length≤1000)→i+rows.length≤l.length→out.length≤i*1000→Ev (fun k=>qff k (qdv l) i rows out) (bOut l i rows out)
 | [],i,out,_,_,_=>Ev.const _
 | r::t,i,out,hr,hi,ho=>by
  rw [List.length_cons] at hi
  have h1:=hr r (List.mem_cons_self ..)
  have h2:=qhp l (i:Int) r out
  simp only [qff,bOut]
  exact Ev.bind (rbackIn_ev hN i (by omega) r out (by omega)) (rbackOut_ev hN t (i+1) _ (fun r h=>hr r (List.mem_cons_of_mem _ h)) (by omega) (by omega))
theorem rback_ev (a:Bool) (b:Int) {l:List S60} (hN:l.length≤14):Ev (fun k=>qcm.f k a b l) (qhs l):=
 Ev.bind (rdom_ev a b hN) (Ev.bind (rSucc_ev a b hN) (rbackOut_ev hN (Succ l) 0 [] (fun r h=>(Succ_rows hN r h).2.1) (by rw [qel];omega) (by simp)))
theorem cbackIn_f {l:List S60} (hN:l.length≤14) {dom:List S38} (hl:dom.length=l.length) (hd:∀ n:Nat,n<l.length→GS (qco dom (n:Int)).f0∧els (qco dom (n:Int)).f0=qbu l (n:Int)) (n:Nat) (hn:n<l.length) :
  ∀ (row:List Int) (out:List S39),(∀ b∈row,0≤b∧b<(l.length:Int))→out.length+row.length<100000→backIn dom (n:Int) row out=some (bIn l (n:Int) row out)
 | [],out,_,_=>rfl
 | b::t,out,hr,ho=>by
  rw [List.length_cons] at ho
  obtain ⟨h1,h2⟩:=hd n hn
  obtain ⟨h3,h4⟩:=hr b (List.mem_cons_self ..)
  obtain ⟨m,rfl⟩:=Int.eq_ofNat_of_zero_le h3
  have hc:(decide (0≤(m:Int)∧(m:Int)≤65535)&&tb (qco dom (n:Int)).f0 (m:Int).toNat)=true↔(m:Int)∈qbu l (n:Int):=by
   rw [decide_eq_true (by omega),Bool.true_and,Int.toNat_natCast,← qec,h2]
  rw [backIn,if_pos (by rw [hl];omega),Has_f h1.wd,Option.bind_some,bIn_cons l (n:Int) (m:Int) t out _ hc]
  exact cbackIn_f hN hl hd n hn t _ (fun b h=>hr b (List.mem_cons_of_mem _ h)) (by have:=ite_len (decide (0≤(m:Int)∧(m:Int)≤65535)&&tb (qco dom (n:Int)).f0 (m:Int).toNat) out (⟨(n:Int),(m:Int)⟩:S39);omega)
theorem cbackOut_f {l:List S60} (hN:l.length≤14) {dom:List S38} (hl:dom.length=l.length) (hd:∀ n:Nat,n<l.length→GS (qco dom (n:Int)).f0∧els (qco dom (n:Int)).f0=qbu l (n:Int)) :
  ∀ (rows:List (List Int)) (i:Nat) (out:List S39),(∀ r∈rows,r.length≤1000∧∀ b∈r,0≤b∧b<(l.length:Int))→i+rows.length≤l.length→out.length≤i*1000→qhd dom i rows out=some (bOut l i rows out)
 | [],i,out,_,_,_=>rfl
 | r::t,i,out,hr,hi,ho=>by
  rw [List.length_cons] at hi
  obtain ⟨h1,h1'⟩:=hr r (List.mem_cons_self ..)
  have h2:=qhp l (i:Int) r out
  rw [qhd,bOut,cbackIn_f hN hl hd i (by omega) r out h1' (by omega),Option.bind_some]
  exact cbackOut_f hN hl hd t (i+1) _ (fun r h=>hr r (List.mem_cons_of_mem _ h)) (by omega) (by omega)
theorem cback_ev (a:Bool) (b:Int) {l:List S60} (hN:l.length≤14):Ev (fun k=>qcd.f k a b l) (qhs l):=by
 obtain ⟨dom,h1,h2,h3⟩:=cdom_f a b hN
 unfold qcd.f
 rw [h1]
 refine (Ev.bind (cSucc_ev a b hN) (g:=fun _ s=>qhd dom 0 s []) (Ev.fix (cbackOut_f hN h2 h3 (Succ l) 0 [] (fun r h=>(Succ_rows hN r h).2) (by rw [qel];omega) (by simp)))).congr (fun k=>rfl)
end
end Go.Proofs.YtmfjmbcfaamebaaDoor.X
namespace Go.Proofs.YtmfjmbcfaamebaaDoor.X
noncomputable section
open Go.RowKit Go.Proofs.YtmfjmbcfaamebaaDoorW.PrintWords Go.Proofs.YtmfjmbcfaamebaaDoorW.PrintLast Go.Proofs.YtmfjmbcfaamebaaDoorW.PrintMore
theorem Rch.back {T:Int→List Int} {av:Int→Prop} {x a:Int} {P:Int→Prop} (h:Rch T av x a) (hP:P a) (hc:∀ y z,z∈T y→¬ av y→¬ av z→P z→P y):P x:=by
 induction h with
 | refl _=>exact hP
 | step h0 h1 h2 ih=>exact ih (hc _ _ h1 h0.last h2 hP)
def InLoop (l:List S60) (a h:Int) (x:Int):Prop:=x=h∨(Rch (Tg l) noN 0 x∧Rch (Tg l) (fun y=>y=h) x a)
def IsLoop (l:List S60) (a h:Int) (r:List Int):Prop:=r.Pairwise (·<·)∧∀ x,x∈r↔InLoop l a h x
theorem IsLoop.uniq {l:List S60} {a h:Int} {r r':List Int} (h1:IsLoop l a h r) (h2:IsLoop l a h r'):r=r':=qgg h1.1 h2.1 (fun x=>(h1.2 x).trans (h2.2 x).symm)
theorem rloop_in (a:Bool) (b:Int) {l:List S60} (hN:l.length≤14) {e0 e1:Int} {q:List Int} (hq:∀ x∈q,0≤x∧x<(l.length:Int)) (hql:q.length≤14):∀ (m i:Nat) (o:List Int),i+m=q.length→o.length≤i+1→
  ∃ o',Ev (fun k=>qaw.l1 k o q (q.length:Int) (i:Int) a b l e0 e1) o'∧o'.Pairwise (·<·)∧∀ x,x∈o'↔(x∈o∨x∈q.drop i∧Rch (Tg l) (fun y=>y=e1) x e0)∧0≤x∧x≤65535
 | 0,i,o,hi,ho=>by
  obtain ⟨r,h1,h2,_⟩:=rOf_ev o (by omega)
  refine ⟨r,?_,h2.1,fun x=>?_⟩
  ·refine Ev.succ ?_
   have c1:((i:Int)<(q.length:Int))=False:=eq_false (by omega)
   simp only [qaw.l1,c1,if_false]
   exact Ev.bind h1 (Ev.const _)
  ·rw [h2.2,List.drop_eq_nil_of_le (by omega)]
   simp
 | m+1,i,o,hi,ho=>by
  have h1:i<q.length:=by omega
  have hrd:rd q (i:Int)=q[i]:=qgt h1
  have hqi:=hq _ (List.getElem_mem h1)
  obtain ⟨r,h2,h3⟩:=rReachOne_ev a b hN q[i] e1
  have hrl:=qgd h3.1 (fun x hx=>h3.range hx)
  have hh:=qga r e0 (by omega)
  have hm:e0∈r↔Rch (Tg l) (fun y=>y=e1) q[i] e0:=(h3.2 e0).trans ⟨fun h=>h.2,fun h=>⟨hqi,h⟩⟩
  have c1:((i:Int)<(q.length:Int))=True:=eq_true (by omega)
  have c2:(0≤(i:Int))=True:=eq_true (by omega)
  have c3:o.length<17592186044416:=by omega
  have hw:=qcz (show i<9223372036854775807 by omega)
  have hdrop:=List.drop_eq_getElem_cons h1
  by_cases h:e0∈r
  ·obtain ⟨o',h4,h5,h6⟩:=rloop_in a b hN (e0:=e0) (e1:=e1) hq hql m (i+1) (o++[q[i]]) (by omega) (by simp;omega)
   refine ⟨o',?_,h5,fun x=>?_⟩
   ·refine Ev.succ ?_
    simp only [qaw.l1,c1,c2,if_true,hrd,hw]
    refine Ev.bind h2 (Ev.bind hh ?_)
    exact Ev.ifp (decide_eq_true h) (Ev.ifp c3 h4)
   ·rw [h6,hdrop,List.mem_append,List.mem_singleton,List.mem_cons]
    constructor
    ·rintro ⟨(h7|rfl)|h7,h8⟩
     ·exact ⟨.inl h7,h8⟩
     ·exact ⟨.inr ⟨.inl rfl,hm.1 h⟩,h8⟩
     ·exact ⟨.inr ⟨.inr h7.1,h7.2⟩,h8⟩
    ·rintro ⟨h7|⟨h7|h7,h9⟩,h8⟩
     ·exact ⟨.inl (.inl h7),h8⟩
     ·exact ⟨.inl (.inr h7),h8⟩
     ·exact ⟨.inr ⟨h7,h9⟩,h8⟩
  ·obtain ⟨o',h4,h5,h6⟩:=rloop_in a b hN (e0:=e0) (e1:=e1) hq hql m (i+1) o (by omega) (by omega)
   refine ⟨o',?_,h5,fun x=>?_⟩
   ·refine Ev.succ ?_
    simp only [qaw.l1,c1,c2,if_true,hrd,hw]
    refine Ev.bind h2 (Ev.bind hh ?_)
    exact Ev.ifn (by simpa using h) h4
   ·rw [h6,hdrop,List.mem_cons]
    constructor
    ·rintro ⟨h7|h7,h8⟩
     ·exact ⟨.inl h7,h8⟩
     ·exact ⟨.inr ⟨.inr h7.1,h7.2⟩,h8⟩
    ·rintro ⟨h7|⟨h7|h7,h9⟩,h8⟩
     ·exact ⟨.inl h7,h8⟩
     ·rw [h7] at h9;exact absurd (hm.2 h9) h
     ·exact ⟨.inr ⟨h7,h9⟩,h8⟩
theorem edge_eq {e:S39} {a h:Int}:(e.f0==a&&e.f1==h)=true↔e=⟨a,h⟩:=by
 obtain ⟨x,y⟩:=e
 simp
def isE (e0 e1:Int) (e:S39):Bool:=e.f0==e0&&e.f1==e1
theorem isE_any {q:List S39} {e0 e1:Int}:q.any (isE e0 e1)=true↔(⟨e0,e1⟩:S39)∈q:=by
 rw [List.any_eq_true]
 constructor
 ·rintro ⟨e,h1,h2⟩
  rw [← edge_eq.1 h2];exact h1
 ·intro h
  exact ⟨_,h,edge_eq.2 rfl⟩
theorem qhw (a:Bool) (b:Int) (l:List S60) {q:List S39} (hq:q.length<100000) {e0 e1:Int} {r:List Int}:∀ (m i:Nat) (f:Bool),i+m=q.length→
  Ev (fun k=>if (f||(q.drop i).any (isE e0 e1))=true then ((qae.f k a b l 0 ([]:List Int)).bind fun t=>(qaw.l1 k (([e1]:List Int)) t (t.length:Int) 0 a b l e0 e1)) else (some ([]:List Int))) r→
  Ev (fun k=>qaw.l0 k f q (q.length:Int) (i:Int) a b l e0 e1) r
 | 0,i,f,hi,h=>by
  rw [List.drop_eq_nil_of_le (by omega),List.any_nil,Bool.or_false] at h
  refine Ev.next h (fun k=>?_)
  rw [qaw.l0,if_neg (by omega)]
 | m+1,i,f,hi,h=>by
  have h1:i<q.length:=by omega
  have hrd:qcn q (i:Int)=q[i]:=by unfold qcn;rw [Int.toNat_natCast,List.getD_eq_getElem?_getD,List.getElem?_eq_getElem h1];rfl
  have c1:((i:Int)<(q.length:Int))=True:=eq_true (by omega)
  have c2:(0≤(i:Int))=True:=eq_true (by omega)
  have hw:=qcz (show i<9223372036854775807 by omega)
  have ih:=qhw a b l hq (e0:=e0) (e1:=e1) (r:=r) m (i+1) (f||isE e0 e1 q[i]) (by omega) (h.congr (fun k=>by
   have e:(f||isE e0 e1 q[i]||(q.drop (i+1)).any (isE e0 e1))=(f||(q.drop i).any (isE e0 e1)):=by
    rw [Bool.or_assoc,List.drop_eq_getElem_cons h1,List.any_cons]
   rw [e]))
  refine Ev.next ih (fun k=>?_)
  rw [qaw.l0]
  simp only [c1,c2,if_true,hrd,hw]
  cases f with
  | true=>rw [if_pos rfl,Bool.true_or]
  | false=>rw [if_neg (by decide),Bool.false_or];rfl
theorem backs_len {l:List S60} (hN:l.length≤14):(qhs l).length<100000:=by
 have key:∀ (rows:List (List Int)) (i:Nat) (out:List S39),(∀ r∈rows,r.length≤1000)→(bOut l i rows out).length≤out.length+1000*rows.length:=by
  intro rows
  induction rows with
  | nil=>intro i out _;simp [bOut]
  | cons r t ih=>
   intro i out hr
   have h1:=ih (i+1) (bIn l (i:Int) r out) (fun r h=>hr r (List.mem_cons_of_mem _ h))
   have h2:=qhp l (i:Int) r out
   have h3:=hr r (List.mem_cons_self ..)
   rw [bOut,List.length_cons]
   omega
 have:=key (Succ l) 0 [] (fun r h=>(Succ_rows hN r h).2.1)
 rw [qel] at this
 unfold qhs
 simp at this
 omega
theorem rloop_ev (a:Bool) (b:Int) {l:List S60} (hN:l.length≤14) (e0 e1:Int):∃ r,Ev (fun k=>qaw.f k a b l e0 e1) r∧((⟨e0,e1⟩:S39)∈qhs l→IsLoop l e0 e1 r)∧((⟨e0,e1⟩:S39)∉qhs l→r=[]):=by
 by_cases h:(⟨e0,e1⟩:S39)∈qhs l
 ·obtain ⟨⟨h1,h2⟩,h3,h4⟩:=backs_mem.1 h
  have he1:0≤e1∧e1<(l.length:Int):=qei h3
  have h0:0<l.length:=by omega
  obtain ⟨q,h5,h6⟩:=rReach_ev a b hN 0
  have hql:=qgd h6.1 (fun x hx=>h6.range hx)
  obtain ⟨r,h7,h8,h9⟩:=rloop_in a b hN (e0:=e0) (e1:=e1) (fun x hx=>h6.range hx) (by omega) q.length 0 [e1] (by omega) (by simp)
  refine ⟨r,?_,fun _=>⟨h8,fun x=>?_⟩,fun h'=>absurd h h'⟩
  ·unfold qaw.f
   refine Ev.bind (rback_ev a b hN) ?_
   refine qhw a b l (backs_len hN) (qhs l).length 0 false (by omega) ?_
   refine Ev.ifp (by rw [Bool.false_or,List.drop_zero];exact isE_any.2 h) (Ev.bind h5 h7)
  ·rw [h9,List.drop_zero,h6.2,List.mem_singleton,InLoop]
   constructor
   ·rintro ⟨h10|h10,_⟩
    ·exact .inl h10
    ·exact .inr ⟨h10.1.2,h10.2⟩
   ·rintro (h10|⟨h10,h11⟩)
    ·exact ⟨.inl h10,by omega,by omega⟩
    ·have:=h10.range (l:=l) (by omega)
     exact ⟨.inr ⟨⟨by omega,h10⟩,h11⟩,by omega,by omega⟩
 ·refine ⟨[],?_,fun h'=>absurd h' h,fun _=>rfl⟩
  unfold qaw.f
  refine Ev.bind (rback_ev a b hN) ?_
  refine qhw a b l (backs_len hN) (qhs l).length 0 false (by omega) ?_
  exact Ev.ifn (by rw [Bool.false_or,List.drop_zero];exact fun h'=>h (isE_any.1 h')) (Ev.const _)
theorem contains_from {q:List S39} (hq:q.length<100000) (e0 e1:Int):∀ (m i:Nat),i+m=q.length→∃ j:Int,Ev (fun k=>qau.l0 k q (q.length:Int) (i:Int) e0 e1) j∧(0≤j↔(q.drop i).any (isE e0 e1)=true)
 | 0,i,hi=>by
  refine ⟨-1,Ev.next (Ev.const _) (fun k=>?_),?_⟩
  ·rw [qau.l0,if_neg (by omega)]
  ·rw [List.drop_eq_nil_of_le (by omega)];simp
 | m+1,i,hi=>by
  have h1:i<q.length:=by omega
  have hrd:qcn q (i:Int)=q[i]:=by unfold qcn;rw [Int.toNat_natCast,List.getD_eq_getElem?_getD,List.getElem?_eq_getElem h1];rfl
  have c1:((i:Int)<(q.length:Int))=True:=eq_true (by omega)
  have c2:(0≤(i:Int))=True:=eq_true (by omega)
  have hw:=qcz (show i<9223372036854775807 by omega)
  rw [List.drop_eq_getElem_cons h1,List.any_cons]
  have he:(e0==q[i].f0&&e1==q[i].f1)=isE e0 e1 q[i]:=by
   unfold isE
   rw [Bool.eq_iff_iff,Bool.and_eq_true,Bool.and_eq_true,beq_iff_eq,beq_iff_eq,beq_iff_eq,beq_iff_eq]
   exact ⟨fun h=>⟨h.1.symm,h.2.symm⟩,fun h=>⟨h.1.symm,h.2.symm⟩⟩
  cases h:isE e0 e1 q[i] with
  | true=>
   refine ⟨(i:Int),Ev.next (Ev.const _) (fun k=>?_),by simp⟩
   rw [qau.l0]
   simp only [c1,c2,if_true,hrd,he,h]
  | false=>
   obtain ⟨j,h2,h3⟩:=contains_from hq e0 e1 m (i+1) (by omega)
   refine ⟨j,Ev.next h2 (fun k=>?_),by rw [h3];simp⟩
   rw [qau.l0]
   simp only [c1,c2,if_true,hrd,he,h,hw,if_false,Bool.false_eq_true]
theorem contains_ev {q:List S39} (hq:q.length<100000) (e0 e1:Int):Ev (fun k=>qbt.f k q e0 e1) (q.any (isE e0 e1)):=by
 obtain ⟨j,h1,h2⟩:=contains_from hq e0 e1 q.length 0 (by omega)
 have e:decide (j≥0)=q.any (isE e0 e1):=by
  rw [Bool.eq_iff_iff,decide_eq_true_eq]
  exact h2
 rw [← e]
 exact Ev.bind h1 (Ev.const _)
structure LInv (l:List S60) (a h:Int) (todo:List Int) (ws:List Int):Prop where
 gs:GS ws
 rg:∀ x∈todo,0≤x∧x<(l.length:Int)
 er:∀ x∈els ws,0≤x∧x<(l.length:Int)
 sd:∀ x∈els ws,InLoop l a h x
 st:∀ x∈todo,x≠h→Rch (Tg l) (fun y=>y=h) x a
 hh:h∈els ws
 ha:Rch (Tg l) noN 0 a→a∈els ws∨a∈todo
 cl:∀ y z,z∈Tg l y→z≠h→z∈els ws→Rch (Tg l) noN 0 y→y∈els ws∨y∈todo
theorem LInv.drop {l:List S60} {a h n:Int} {t ws:List Int} (I:LInv l a h (t++[n]) ws) (hn:n∈els ws∨¬ Rch (Tg l) noN 0 n):LInv l a h t ws:=by
 have key:∀ y,Rch (Tg l) noN 0 y→(y∈els ws∨y∈t++[n])→y∈els ws∨y∈t:=by
  intro y hy h'
  rcases h' with h'|h'
  ·exact .inl h'
  ·rcases List.mem_append.1 h' with h'|h'
   ·exact .inr h'
   ·rw [List.mem_singleton] at h'
    subst h'
    exact .inl (hn.resolve_right (fun e=>e hy))
 exact ⟨I.gs,fun x hx=>I.rg x (List.mem_append_left _ hx),I.er,I.sd,fun x hx=>I.st x (List.mem_append_left _ hx),I.hh,fun hr=>key a hr (I.ha hr),fun y z h1 h2 h3 h4=>key y h4 (I.cl y z h1 h2 h3 h4)⟩
theorem Pred_getD {l:List S60} {n:Nat} (hn:n<l.length):qeh (Pred l) (n:Int)=qfg 0 (Succ l) (n:Int):=by
 unfold qeh Pred
 rw [Int.toNat_natCast,List.getD_eq_getElem?_getD,List.getElem?_map,List.getElem?_range hn]
 rfl
theorem pred_mem {l:List S60} {n:Nat} {x:Int}:x∈qfg 0 (Succ l) (n:Int)↔(0≤x∧x<(l.length:Int))∧(n:Int)∈Tg l x:=by
 rw [predsF_mem]
 constructor
 ·rintro ⟨j,h1,h2,h3⟩
  rw [qel] at h1
  rw [Succ_getD h1] at h3
  rw [Nat.zero_add] at h2
  subst h2
  exact ⟨by omega,Sc_mem.1 h3⟩
 ·rintro ⟨h1,h2⟩
  obtain ⟨j,rfl⟩:=Int.eq_ofNat_of_zero_le h1.1
  exact ⟨j,by rw [qel];omega,by rw [Nat.zero_add],by rw [Succ_getD (by omega)];exact Sc_mem.2 h2⟩
theorem Rch.cons {T:Int→List Int} {av:Int→Prop} {x y a:Int} (h:y∈T x) (hx:¬ av x) (hr:Rch T av y a):Rch T av x a:=(Rch.step (.refl hx) h hr.first).trans hr
theorem LInv.add {l:List S60} {a h:Int} {n:Nat} {t ws ws':List Int} (hN:l.length≤14) (I:LInv l a h (t++[(n:Int)]) ws) (hr:Rch (Tg l) noN 0 (n:Int)) (hn:(n:Int)∉els ws) (hg:GS ws') (hw:∀ x,tb ws' x=(tb ws x||decide (x=n))):LInv l a h (t++qfg 0 (Succ l) (n:Int)) ws':=by
 have hm:∀ x:Int,x∈els ws'↔x∈els ws∨x=(n:Int):=by
  intro x
  constructor
  ·intro hx
   obtain ⟨z,rfl,hz⟩:=qes hx
   rw [hw,Bool.or_eq_true,decide_eq_true_eq] at hz
   exact hz.imp (fun h=>qec.2 h) (fun h=>by omega)
  ·rintro (hx|rfl)
   ·obtain ⟨z,rfl,hz⟩:=qes hx
    rw [qec,hw,hz];rfl
   ·rw [qec,hw];simp
 have hnr:=I.rg (n:Int) (by simp)
 have hne:(n:Int)≠h:=fun e=>hn (by rw [e];exact I.hh)
 have hna:=I.st (n:Int) (by simp) hne
 have key:∀ y,(y∈els ws∨y∈t++[(n:Int)])→y∈els ws'∨y∈t++qfg 0 (Succ l) (n:Int):=by
  intro y h'
  rcases h' with h'|h'
  ·exact .inl ((hm y).2 (.inl h'))
  ·rcases List.mem_append.1 h' with h'|h'
   ·exact .inr (List.mem_append_left _ h')
   ·exact .inl ((hm y).2 (.inr (List.mem_singleton.1 h')))
 refine ⟨hg,fun x hx=>?_,fun x hx=>?_,fun x hx=>?_,fun x hx hxh=>?_,(hm h).2 (.inl I.hh),fun hra=>key a (I.ha hra),fun y z h1 h2 h3 h4=>?_⟩
 ·rcases List.mem_append.1 hx with hx|hx
  ·exact I.rg x (List.mem_append_left _ hx)
  ·exact (pred_mem.1 hx).1
 ·rcases (hm x).1 hx with hx|rfl
  ·exact I.er x hx
  ·exact hnr
 ·rcases (hm x).1 hx with hx|rfl
  ·exact I.sd x hx
  ·exact .inr ⟨hr,hna⟩
 ·rcases List.mem_append.1 hx with hx|hx
  ·exact I.st x (List.mem_append_left _ hx) hxh
  ·exact Rch.cons (pred_mem.1 hx).2 hxh hna
 ·rcases (hm z).1 h3 with h3|rfl
  ·exact key y (I.cl y z h1 h2 h3 h4)
  ·refine .inr (List.mem_append_right _ (pred_mem.2 ⟨?_,h1⟩))
   exact h4.range (by have:=hr.first;have:=qei h1;exact ⟨by omega,by omega⟩)
theorem LInv.done {l:List S60} {a h:Int} {ws:List Int} (I:LInv l a h [] ws):IsLoop l a h (els ws):=by
 refine ⟨qhr ws,fun x=>⟨I.sd x,fun hx=>?_⟩⟩
 rcases hx with rfl|⟨h1,h2⟩
 ·exact I.hh
 ·refine Rch.back (P:=fun x=>Rch (Tg l) noN 0 x→x∈els ws) h2 (fun hr=>(I.ha hr).resolve_right (by simp)) (fun y z hz _ hzh hP hy=>?_) h1
  have hrz:Rch (Tg l) noN 0 z:=.step hy hz (fun e=>e)
  exact (I.cl y z hz hzh (hP hrz) hy).resolve_right (by simp)
theorem preds_len (l:List S60) (n:Int):(qfg 0 (Succ l) n).length≤l.length:=by
 have:=predsF_length 0 (Succ l) n
 rwa [qel] at this
theorem qhn {l:List S60} (hN:l.length≤14) {a h:Int} {rs:List Int} (hg:GS rs) (hrs:qha l noN 0 (els rs)) (h0:0<l.length):∀ (m:Nat) (todo ws:List Int),todo.length+15*qfu (qds l.length) (els ws)≤m→m≤1000→LInv l a h todo ws→
  ∃ r,Ev (fun k=>qbq.l0 k (Pred l) todo ws rs) r∧GS r∧IsLoop l a h (els r)
 | m,todo,ws,hm,hm2,I=>by
  rcases List.eq_nil_or_concat todo with rfl|⟨t,n,rfl⟩
  ·refine ⟨ws,Ev.next (Ev.const _) (fun k=>?_),I.gs,I.done⟩
   rw [qbq.l0,if_neg (by simp)]
  ·have htd:t.concat n=t++[n]:=List.concat_eq_append ..
   rw [htd] at hm I ⊢
   cases m with
   | zero=>simp at hm
   | succ m=>
    have hnr:=I.rg n (by simp)
    obtain ⟨i,rfl⟩:=Int.eq_ofNat_of_zero_le hnr.1
    have hi:i<l.length:=by omega
    have hlen:(t++[(i:Int)]).length=t.length+1:=by simp
    have c1:((t.length+1:Nat):Int)>0:=by omega
    have hlo:(-9223372036854775808:Int)≤((t.length+1:Nat):Int)-1:=by omega
    rw [hlen] at hm
    have hhi:((t.length+1:Nat):Int)-1<9223372036854775808:=by omega
    have ew:((t.length+1:Nat):Int)-1=(t.length:Int):=by omega
    have c2:(0≤(t.length:Int))=True:=eq_true (by omega)
    have c3:((t.length:Int)<((t.length+1:Nat):Int))=True:=eq_true (by omega)
    have c4:((t.length:Int)≤((t.length+1:Nat):Int))=True:=eq_true (by omega)
    have c1':=eq_true c1
    have e1:(t++[(i:Int)]).take t.length=t:=by simp
    have e2:rd (t++[(i:Int)]) (t.length:Int)=(i:Int):=by rw [qhy];simp
    have hw:wrap64 (((t.length+1:Nat):Int)-1)=(t.length:Int):=(qfi hlo hhi).trans ew
    have f1:qbz.f ws (i:Int)=some (tb ws i):=by rw [Has_f I.gs.wd,decide_eq_true (by omega),Bool.true_and,Int.toNat_natCast]
    have f2:qbz.f rs (i:Int)=some (tb rs i):=by rw [Has_f hg.wd,decide_eq_true (by omega),Bool.true_and,Int.toNat_natCast]
    have hreach:tb rs i=true↔Rch (Tg l) noN 0 (i:Int):=by rw [← qec,hrs.2];exact ⟨fun h=>h.2,fun h=>⟨by omega,h⟩⟩
    cases ht:tb ws i with
    | true=>
     obtain ⟨r,h1,h2⟩:=qhn hN hg hrs h0 m t ws (by omega) (by omega) (I.drop (.inl (qec.2 ht)))
     refine ⟨r,Ev.next h1 (fun k=>?_),h2⟩
     rw [qbq.l0]
     simp only [hlen,c1',hw,c2,c3,c4,if_true,Int.toNat_natCast,e1,e2,Option.bind_some,f1,ht]
    | false=>
     have hnot:(i:Int)∉els ws:=fun e=>by rw [qec,ht] at e;cases e
     cases hr:tb rs i with
     | false=>
      obtain ⟨r,h1,h2⟩:=qhn hN hg hrs h0 m t ws (by omega) (by omega) (I.drop (.inr (fun e=>by rw [← hreach,hr] at e;cases e)))
      refine ⟨r,Ev.next h1 (fun k=>?_),h2⟩
      rw [qbq.l0]
      simp only [hlen,c1',hw,c2,c3,c4,if_true,Int.toNat_natCast,e1,e2,Option.bind_some,f1,ht,f2,hr,Bool.false_eq_true,if_false]
     | true=>
      obtain ⟨ws',h1,h2,h3⟩:=With_ev I.gs i (by omega)
      have hpl:=preds_len l (i:Int)
      have hIn:(i:Int)∈els ws':=by rw [qec,h3];simp
      have hleft:qfu (qds l.length) (els ws')<qfu (qds l.length) (els ws):=by
       refine Nat.lt_of_le_of_lt (leftIn_le (s:=els ws++[(i:Int)]) (fun x hx=>?_)) (leftIn_lt (qek.2 hnr) hnot)
       rcases List.mem_append.1 hx with hx|hx
       ·obtain ⟨z,rfl,hz⟩:=qes hx
        rw [qec,h3,hz];rfl
       ·rw [List.mem_singleton.1 hx];exact hIn
      obtain ⟨r,h4,h5⟩:=qhn hN hg hrs h0 m (t++qfg 0 (Succ l) (i:Int)) ws' (by rw [List.length_append];omega) (by omega) (I.add hN (hreach.1 hr) hnot h2 h3)
      have c5:(0≤(i:Int)):=by omega
      have c6:((i:Int)<((Pred l).length:Int)):=by simp [Pred];omega
      have c7:t.length+(qeh (Pred l) (i:Int)).length<17592186044416:=by rw [Pred_getD hi];omega
      refine ⟨r,?_,h5⟩
      refine Ev.succ ?_
      simp only [qbq.l0,hlen,c1',hw,c2,c3,c4,if_true,Int.toNat_natCast,e1,e2,Option.bind_some,f1,ht,f2,hr,Bool.false_eq_true,if_false]
      refine Ev.bind h1 (Ev.ifp c5 (Ev.ifp c6 (Ev.ifp c7 ?_)))
      rw [Pred_getD hi]
      exact h4
theorem cloop_ev (a:Bool) (b:Int) {l:List S60} (hN:l.length≤14) (e0 e1:Int):∃ r,Ev (fun k=>qbq.f k a b l e0 e1) r∧GS r∧((⟨e0,e1⟩:S39)∈qhs l→IsLoop l e0 e1 (els r))∧((⟨e0,e1⟩:S39)∉qhs l→r=[]):=by
 by_cases h:(⟨e0,e1⟩:S39)∈qhs l
 ·obtain ⟨⟨h1,h2⟩,h3,h4⟩:=backs_mem.1 h
  have he1:0≤e1∧e1<(l.length:Int):=qei h3
  have he0:0≤e0∧e0<(l.length:Int):=⟨h1,h2⟩
  obtain ⟨n,rfl⟩:=Int.eq_ofNat_of_zero_le he1.1
  have h0:0<l.length:=by omega
  obtain ⟨o,g1,g2,g3⟩:=Of_ev [(n:Int)] (by simp)
  obtain ⟨q,h5,h6,h7⟩:=cReach_ev a b hN 0
  have hels:∀ x,x∈els o↔x=(n:Int):=by
   intro x
   constructor
   ·intro hx
    obtain ⟨z,rfl,hz⟩:=qes hx
    have:=((g3 z).1 hz).1
    rwa [List.mem_singleton] at this
   ·rintro rfl
    rw [qec,g3]
    exact ⟨by simp,by omega⟩
  have I:LInv l e0 (n:Int) [e0] o:=by
   refine ⟨g2,fun x hx=>by rw [List.mem_singleton.1 hx];exact he0,fun x hx=>by rw [(hels x).1 hx];exact he1,fun x hx=>.inl ((hels x).1 hx),fun x hx hne=>?_,(hels _).2 rfl,fun _=>.inr (by simp),fun y z _ h2 h3 _=>absurd ((hels z).1 h3) h2⟩
   rw [List.mem_singleton] at hx
   subst hx
   exact .refl hne
  have hleft:qfu (qds l.length) (els o)≤l.length:=by
   unfold qfu
   refine Nat.le_trans (List.length_filter_le _ _) ?_
   simp [qds]
  obtain ⟨r,g4,g5,g6⟩:=qhn hN h6 h7 h0 _ [e0] o (Nat.le_refl _) (by simp;omega) I
  refine ⟨r,?_,g5,fun _=>g6,fun h'=>absurd h h'⟩
  unfold qbq.f
  refine Ev.bind (cback_ev a b hN) (Ev.bind (contains_ev (backs_len hN) e0 (n:Int)) ?_)
  refine Ev.ifp (isE_any.2 h) ?_
  exact Ev.bind g1 (Ev.bind (cPred_ev a b hN) (Ev.bind h5 g4))
 ·refine ⟨[],?_,GS.nil,fun h'=>absurd h' h,fun _=>rfl⟩
  unfold qbq.f
  refine Ev.bind (cback_ev a b hN) (Ev.bind (contains_ev (backs_len hN) e0 e1) ?_)
  exact Ev.ifn (fun h'=>h (isE_any.1 h')) (Ev.const _)
end
end Go.Proofs.YtmfjmbcfaamebaaDoor.X
namespace Go.Proofs.YtmfjmbcfaamebaaDoor.X
open Go.RowKit Go.Proofs.YtmfjmbcfaamebaaDoorW.PrintWords Go.Proofs.YtmfjmbcfaamebaaDoorW.PrintLast Go.Proofs.YtmfjmbcfaamebaaDoorW.PrintMore
attribute [local go_sem] qbs qcb
set_option linter.unusedVariables false
set_option linter.unusedSimpArgs false
def qce.l0:Nat→List (List Int)→List (List Int)→Int→Int→Option (Bool)
 | 0,_,_,_,_=>none
 | k+1,x0,x1,x12,x13=>if x13<x12 then (if 0≤x13 then (if x13<(x0.length:Int) then (if x13<(x1.length:Int) then ((qak.f k (qeh x0 x13) (qeh x1 x13)).bind fun t387=>(if t387=true then (qce.l0 k x0 x1 x12 (wrap64 (x13+1))) else (some false))) else (none)) else (none)) else (none)) else (some true)
def qce.f (k:Nat) (l0:List (List Int)) (l1:List (List Int)):Option (Bool):=if (l0.length:Int)=(l1.length:Int) then (qce.l0 k l0 l1 (l0.length:Int) 0) else (some false)
theorem qce.mono_l:∀ k,(∀ y0 y1 y2 y3,LeO (qce.l0 k y0 y1 y2 y3) (qce.l0 (k+1) y0 y1 y2 y3))
 | 0=>fun _ _ _ _ r h=>by simp [qce.l0] at h
 | k+1=>by
  have ih0:=qce.mono_l k
  ·intro y0 y1 y2 y3
   unfold qce.l0
   repeat' first
   | (with_reducible exact ih0 _ _ _ _)
   | (with_reducible exact qak.mono _ _ _)
   | (with_reducible exact LeO.refl _)
   | (with_reducible exact LeO.none _)
   | (with_reducible refine LeO.ite ?_ ?_)
   | (with_reducible refine LeO.bind ?_ (fun _=>?_))
   | exact ih0 _ _ _ _
   | exact qak.mono _ _ _
   | exact LeO.none _
   | refine LeO.ite ?_ ?_
   | refine LeO.bind ?_ (fun _=>?_)
theorem qce.mono:∀ a0 a1 k,LeO (qce.f k a0 a1) (qce.f (k+1) a0 a1):=by
 intro a0 a1 k
 have ih0:=qce.mono_l k
 unfold qce.f
 repeat' first
   | (with_reducible exact ih0 _ _ _ _)
   | (with_reducible exact qak.mono _ _ _)
   | (with_reducible exact LeO.refl _)
   | (with_reducible exact LeO.none _)
   | (with_reducible refine LeO.ite ?_ ?_)
   | (with_reducible refine LeO.bind ?_ (fun _=>?_))
   | exact ih0 _ _ _ _
   | exact qak.mono _ _ _
   | exact LeO.none _
   | refine LeO.ite ?_ ?_
   | refine LeO.bind ?_ (fun _=>?_)
end Go.Proofs.YtmfjmbcfaamebaaDoor.X
namespace Go.Proofs.YtmfjmbcfaamebaaDoor.X
open Go.RowKit Go.Proofs.YtmfjmbcfaamebaaDoorW.PrintWords Go.Proofs.YtmfjmbcfaamebaaDoorW.PrintLast Go.Proofs.YtmfjmbcfaamebaaDoorW.PrintMore
attribute [local go_sem] qbs qcb
set_option linter.unusedVariables false
set_option linter.unusedSimpArgs false
def qbl.l0:Nat→List Int→List Int→Int→Int→Option (List Int)
 | 0,_,_,_,_=>none
 | k+1,x3,x5,x17,x18=>if x18<x17 then (if 0≤(wrap64 ((wrap64 ((x3.length:Int)-1))-x18)) then (if (wrap64 ((wrap64 ((x3.length:Int)-1))-x18))<(x3.length:Int) then (if x5.length<17592186044416 then (qbl.l0 k x3 (x5++[rd x3 (wrap64 ((wrap64 ((x3.length:Int)-1))-x18))]) x17 (wrap64 (x18+1))) else (none)) else (none)) else (none)) else (some x5)
def qbl.f (k:Nat) (a0_0:Bool) (a0_1:Int) (l0_2:List (S60)):Option (List Int):=if (l0_2.length:Int)=0 then (some ([]:List Int)) else ((qaz.f k a0_0 a0_1 l0_2 0 ([]:List Int)).bind fun bt444=>(qbl.l0 k bt444.1 ([]:List Int) (bt444.1.length:Int) 0))
theorem qbl.mono_l:∀ k,(∀ y0 y1 y2 y3,LeO (qbl.l0 k y0 y1 y2 y3) (qbl.l0 (k+1) y0 y1 y2 y3))
 | 0=>fun _ _ _ _ r h=>by simp [qbl.l0] at h
 | k+1=>by
  have ih0:=qbl.mono_l k
  ·intro y0 y1 y2 y3
   unfold qbl.l0
   repeat' first|(with_reducible exact ih0 _ _ _ _)|(with_reducible exact LeO.refl _)|(with_reducible refine LeO.ite ?_ ?_)
theorem qbl.mono:∀ a0 a1 a2 k,LeO (qbl.f k a0 a1 a2) (qbl.f (k+1) a0 a1 a2):=by
 intro a0 a1 a2 k
 have ih0:=qbl.mono_l k
 unfold qbl.f
 repeat' first|(with_reducible exact ih0 _ _ _ _)|(with_reducible exact qaz.mono _ _ _ _ _ _)|(with_reducible exact LeO.refl _)|(with_reducible refine LeO.ite ?_ ?_)|(with_reducible refine LeO.bind ?_ (fun _=>?_))
end Go.Proofs.YtmfjmbcfaamebaaDoor.X
namespace Go.Proofs.YtmfjmbcfaamebaaDoor.X
noncomputable section
open Go.RowKit Go.Proofs.YtmfjmbcfaamebaaDoorW.PrintWords Go.Proofs.YtmfjmbcfaamebaaDoorW.PrintLast Go.Proofs.YtmfjmbcfaamebaaDoorW.PrintMore
attribute [local go_sem] qbs qcb
set_option linter.unusedVariables false
set_option linter.unusedSimpArgs false
def qed.f (k:Nat) (a0_0:Bool) (a0_1:Int) (l0_2:List (S60)):Option (Bool):=(qbp.f k).bind fun t400=>(if t400=true then ((qas.f k a0_0 a0_1 l0_2).bind fun t401=>(if t401=true then ((qbi.f k a0_0 a0_1 l0_2).bind fun t402=>((qba.f k a0_0 a0_1 l0_2).bind fun t405=>((qce.f k t402 t405).bind fun t408=>(if t408=true then ((qbv.f k a0_0 a0_1 l0_2).bind fun t409=>((qay.f k a0_0 a0_1 l0_2).bind fun t412=>((qce.f k t409 t412).bind fun t415=>(some t415)))) else (some false))))) else (some true))) else (some false))
theorem qed.mono:∀ a0 a1 a2 k,LeO (qed.f k a0 a1 a2) (qed.f (k+1) a0 a1 a2):=by
 intro a0 a1 a2 k
 unfold qed.f
 repeat' first|(with_reducible exact qbv.mono _ _ _ _)|(with_reducible exact qbi.mono _ _ _ _)|(with_reducible exact qbp.mono _)|(with_reducible exact qce.mono _ _ _)|(with_reducible exact qay.mono _ _ _ _)|(with_reducible exact qas.mono _ _ _ _)|(with_reducible exact qba.mono _ _ _ _)|(with_reducible exact LeO.refl _)|(with_reducible refine LeO.ite ?_ ?_)|(with_reducible refine LeO.bind ?_ (fun _=>?_))
end
end Go.Proofs.YtmfjmbcfaamebaaDoor.X
namespace Go.Proofs.YtmfjmbcfaamebaaDoor.X
noncomputable section
open Go.RowKit Go.Proofs.YtmfjmbcfaamebaaDoorW.PrintWords Go.Proofs.YtmfjmbcfaamebaaDoorW.PrintLast Go.Proofs.YtmfjmbcfaamebaaDoorW.PrintMore
attribute [local go_sem] qbs qcb
set_option linter.unusedVariables false
set_option linter.unusedSimpArgs false
def qef.f (k:Nat) (a0_0:Bool) (a0_1:Int) (l0_2:List (S60)):Option (Bool):=(qbp.f k).bind fun t455=>(if t455=true then ((qas.f k a0_0 a0_1 l0_2).bind fun t456=>(if t456=true then ((qdl.f k a0_0 a0_1 l0_2).bind fun t457=>((qbl.f k a0_0 a0_1 l0_2).bind fun t460=>((qak.f k t457 t460).bind fun t463=>(some t463)))) else (some true))) else (some false))
theorem qef.mono:∀ a0 a1 a2 k,LeO (qef.f k a0 a1 a2) (qef.f (k+1) a0 a1 a2):=by
 intro a0 a1 a2 k
 unfold qef.f
 repeat' first|(with_reducible exact qdl.mono _ _ _ _)|(with_reducible exact qbp.mono _)|(with_reducible exact qak.mono _ _ _)|(with_reducible exact qbl.mono _ _ _ _)|(with_reducible exact qas.mono _ _ _ _)|(with_reducible exact LeO.refl _)|(with_reducible refine LeO.ite ?_ ?_)|(with_reducible refine LeO.bind ?_ (fun _=>?_))
end
end Go.Proofs.YtmfjmbcfaamebaaDoor.X
