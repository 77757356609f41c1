/- Proved: the law CFGOrder holds of the given program: Order returns the specified reverse postorder. Conditions: none but the row's own cells; the listed tables of Go's library are tied to the program's text. -/
import Derived.Test.YtmfjmbcfaamebaaDoorCFGOrder12
import Derived.Test.YtmfjmbcfaamebaaDoorRows
import Derived.Test.YtmfjmbcfaamebaaDoorCards
import Derived.Test.YtmfjmbcfaamebaaDoorTie
import Derived.SevenTiedAt
set_option linter.unusedVariables false
set_option linter.unusedSimpArgs false
namespace Go.Proofs.YtmfjmbcfaamebaaDoor.X
noncomputable section
open Go.RowKit Go.Proofs.YtmfjmbcfaamebaaDoorW.PrintWords Go.Proofs.YtmfjmbcfaamebaaDoorW.PrintLast Go.Proofs.YtmfjmbcfaamebaaDoorW.PrintMore
theorem els_small {ws:List Int} (hw:GS ws) (hs:∀ x∈els ws,x<14):ws=[]∨∃ w:Nat,ws=[(w:Int)]∧w<2 ^ 14∧els ws=(qft w).map (fun j=>((j:Nat):Int)):=by
 have hsmall:∀ j b:Nat,j<ws.length→b<64→(ws.getD j 0).toNat.testBit b=true→j*64+b<14:=by
  intro j b hj hb ht
  have:((j*64+b:Nat):Int)∈els ws:=qdt.2 (by
   rw [tb,show (j*64+b)/64=j by omega,show (j*64+b) % 64=b by omega];exact ht)
  have:=hs _ this
  omega
 have hz:∀ j,0<j→j<ws.length→ws.getD j 0=0:=by
  intro j h0 hj
  have hwd:=hw.wd.getD j
  have:(ws.getD j 0).toNat=0:=by
   refine Nat.eq_of_testBit_eq (fun b=>?_)
   rw [Nat.zero_testBit]
   by_cases hb:b<64
   ·cases e:(ws.getD j 0).toNat.testBit b with
    | false=>rfl
    | true=>have:=hsmall j b hj hb e;omega
   ·refine Nat.testBit_lt_two_pow (Nat.lt_of_lt_of_le (?_:(ws.getD j 0).toNat<2 ^ 64) (Nat.pow_le_pow_right (by omega) (by omega)))
    omega
  omega
 match ws,hw,hsmall,hz with
 | [],_,_,_=>exact .inl rfl
 | [w],hw,hsmall,_=>
  right
  have hwd:=hw.wd w (by simp)
  obtain ⟨n,rfl⟩:=Int.eq_ofNat_of_zero_le hwd.1
  refine ⟨n,rfl,?_,?_⟩
  ·refine Nat.lt_pow_two_of_testBit n (fun i hi=>?_)
   by_cases hb:i<64
   ·cases e:n.testBit i with
    | false=>rfl
    | true=>have:=hsmall 0 i (by simp) hb (by simpa using e);omega
   ·exact Nat.testBit_lt_two_pow (Nat.lt_of_lt_of_le (by omega:n<2 ^ 64) (Nat.pow_le_pow_right (by omega) (by omega)))
  ·simp [els,qdz]
 | w::v::t,hw,_,hz=>
  exfalso
  have h1:(w::v::t).getLast (by simp)=0:=by
   have:=hz (t.length+1) (by omega) (by simp)
   rw [List.getLast_eq_getElem]
   rw [List.getD_eq_getElem?_getD,List.getElem?_eq_getElem (by simp)] at this
   simpa using this
  exact hw.trim (by simp) h1
theorem Len_ev {ws:List Int} (hw:GS ws) (hs:∀ x∈els ws,x<14):Ev (fun k=>qbb.f k ws) ((els ws).length:Int):=by
 have hb:(els ws).length≤14:=qfq (qhd ws) (fun x hx=>⟨(hw.els_len hx).1,hs x hx⟩)
 rcases els_small hw hs with rfl|⟨w,rfl,h1,h2⟩
 ·refine Ev.next (Ev.const _) (fun k=>?_)
  rw [qbb.f,qbb.l0,if_neg (by decide)]
  rfl
 ·have hone:=ones_f h1
  have hlen:(qft w).length=(els [(w:Int)]).length:=by rw [h2,List.length_map]
  rw [hlen] at hone
  have hw0:wrap64 (0+((els [(w:Int)]).length:Int))=((els [(w:Int)]).length:Int):=by
   rw [Int.zero_add];exact qew (by omega) (by omega)
  refine Ev.succ (Ev.next (Ev.const _) (fun k=>?_))
  rw [qbb.f,qbb.l0]
  have c1:((0:Int)<(([(w:Int)]:List Int).length:Int))=True:=eq_true (by show (0:Int)<1;decide)
  have c2:(0≤(0:Int))=True:=eq_true (by decide)
  have e1:rd [(w:Int)] 0=(w:Int):=rfl
  simp only [c1,c2,e1,hone,if_true,Option.bind_some,hw0]
  rw [qbb.l0,if_neg (by rw [show wrap64 (0+1)=1 from qew (x:=0+1) (by omega) (by omega)];show ¬ (1:Int)<1;omega)]
theorem Dm.range {l:List S60} {d n:Int} (h:Dm (Tg l) 0 d n) (h0:0<l.length):(0≤d∧d<(l.length:Int))∧0≤n∧n<(l.length:Int):=⟨h.rch.range (by omega),h.1.range (by omega)⟩
theorem domRow_sub {l:List S60} {d n:Int} (h:Dm (Tg l) 0 d n) (hne:d≠n):(∀ x∈qbq l d,x∈qbq l n∧x≠n):=by
 intro x hx
 have:=qdb.1 hx
 refine ⟨qdb.2 ⟨this.1,this.2.trans h⟩,fun e=>?_⟩
 subst e
 exact hne (h.antisymm this.2)
theorem domRow_nodup (l:List S60) (n:Int):(qbq l n).Nodup:=(domRow_sorted l n).imp (fun h=>by omega)
theorem qfr {l:List S60} (h0:0<l.length) {d n:Int} (h:Dm (Tg l) 0 d n) (hne:d≠n):(qbq l d).length<(qbq l n).length:=by
 have hn:n∈qbq l n:=qdb.2 ⟨(h.range h0).2,Dm.self h.1⟩
 have h1:(n::qbq l d).Nodup:=List.nodup_cons.2 ⟨fun e=>(domRow_sub h hne n e).2 rfl,domRow_nodup l d⟩
 have:=h1.length_le_of_subset (l₂:=qbq l n) (fun x hx=>(List.mem_cons.1 hx).elim (fun e=>e▸hn) (fun e=>(domRow_sub h hne x e).1))
 rw [List.length_cons] at this
 omega
def qey (l:List S60) (n d:Int):Prop:=(d=-1∧∀ x∈qbq l n,x=n)∨(d∈qbq l n∧d≠n∧(qbq l d).length+1=(qbq l n).length)
theorem dom_uniq {l:List S60} (h0:0<l.length) {n d d':Int} (h1:d∈qbq l n) (h2:d'∈qbq l n) (h3:(qbq l d).length=(qbq l d').length):d=d':=by
 by_cases e:d=d'
 ·exact e
 ·exfalso
  rcases (qdb.1 h1).2.chain (qdb.1 h2).2 with h|h
  ·have:=qfr h0 h e;omega
  ·have:=qfr h0 h (Ne.symm e);omega
theorem qey.uniq {l:List S60} (h0:0<l.length) {n d d':Int} (h:qey l n d) (h':qey l n d'):d=d':=by
 rcases h with ⟨h1,h2⟩|⟨h1,h2,h3⟩
 ·rcases h' with ⟨h4,_⟩|⟨h4,h5,_⟩
  ·rw [h1,h4]
  ·exact absurd (h2 _ h4) h5
 ·rcases h' with ⟨_,h5⟩|⟨h4,_,h6⟩
  ·exact absurd (h5 _ h1) h2
  ·exact dom_uniq h0 h1 h4 (by omega)
theorem idom_of_max {l:List S60} (h0:0<l.length) {n d:Int} (h1:d∈qbq l n) (h2:d≠n) (h3:∀ x∈qbq l n,x≠n→(qbq l x).length≤(qbq l d).length):qey l n d:=by
 refine .inr ⟨h1,h2,?_⟩
 have hd:=(qdb.1 h1).2
 have hlt:=qfr h0 hd h2
 have hsub:∀ x∈qbq l n,x∈n::qbq l d:=by
  intro x hx
  by_cases e:x=n
  ·rw [e];exact List.mem_cons_self ..
  ·refine List.mem_cons_of_mem _ ?_
   have hx':=qdb.1 hx
   rcases hx'.2.chain hd with h|h
   ·exact qdb.2 ⟨hx'.1,h⟩
   ·by_cases e':d=x
    ·rw [← e'];exact qdb.2 ⟨(qdb.1 h1).1,Dm.self hd.rch⟩
    ·have:=qfr h0 h e';have:=h3 x hx e;omega
 have:=(domRow_nodup l n).length_le_of_subset hsub
 rw [List.length_cons] at this
 omega
theorem idom_exists {l:List S60} (h0:0<l.length) (n:Int):∃ d,qey l n d:=by
 by_cases h:∀ x∈qbq l n,x=n
 ·exact ⟨-1,.inl ⟨rfl,h⟩⟩
 ·obtain ⟨x,hx,hne⟩:∃ x∈qbq l n,x≠n:=Classical.byContradiction fun hc=>h (fun x hx=>Classical.byContradiction fun hne=>hc ⟨x,hx,hne⟩)
  have key:∀ m:Nat,∀ x∈qbq l n,x≠n→(qbq l n).length-(qbq l x).length≤m→∃ d,qey l n d:=by
   intro m
   induction m with
   | zero=>intro x hx hne hm;have:=qfr h0 (qdb.1 hx).2 hne;omega
   | succ m ih=>
    intro x hx hne hm
    by_cases hmax:∀ y∈qbq l n,y≠n→(qbq l y).length≤(qbq l x).length
    ·exact ⟨x,idom_of_max h0 hx hne hmax⟩
    ·obtain ⟨y,hy,hy1,hy2⟩:∃ y∈qbq l n,y≠n∧¬ (qbq l y).length≤(qbq l x).length:=Classical.byContradiction fun hc=>hmax (fun y hy h1=>Classical.byContradiction fun h2=>hc ⟨y,hy,h1,h2⟩)
     exact ih y hy hy1 (by have:=qfr h0 (qdb.1 hy).2 hy1;omega)
  exact key _ x hx hne (Nat.le_refl _)
open Classical in
noncomputable def idom (l:List S60) (n:Int):Int:=if h:∃ d,qey l n d then h.choose else -1
theorem idom_spec {l:List S60} (h0:0<l.length) (n:Int):qey l n (idom l n):=by
 have h:=idom_exists h0 n
 unfold idom
 rw [dif_pos h]
 exact h.choose_spec
theorem qey.eq {l:List S60} (h0:0<l.length) {n d:Int} (h:qey l n d):d=idom l n:=h.uniq h0 (idom_spec h0 n)
theorem qfl {l:List S60} {n:Nat} (hn:n<l.length):(qec l).getD n []=qbq l (n:Int):=by
 unfold qec
 rw [List.getD_eq_getElem?_getD,List.getElem?_map,List.getElem?_range hn]
 rfl
theorem rimmIn_f {l:List S60} {n:Int}:∀ (t seen:List Int) (best:Int),qbq l n=seen++t→
  ((best=-1∧∀ x∈seen,x=n)∨(best∈qbq l n∧best≠n∧∀ x∈seen,x≠n→(qbq l x).length≤(qbq l best).length))→
  ∃ d,qhj (qec l) n t best=some d∧((d=-1∧∀ x∈qbq l n,x=n)∨(d∈qbq l n∧d≠n∧∀ x∈qbq l n,x≠n→(qbq l x).length≤(qbq l d).length))
 | [],seen,best,he,hb=>by
  rw [List.append_nil] at he
  subst he
  exact ⟨best,rfl,hb⟩
 | d::t,seen,best,he,hb=>by
  have he':qbq l n=(seen++[d])++t:=by rw [he];simp
  have hd:d∈qbq l n:=by rw [he];simp
  have hdr:=(qdb.1 hd).1
  by_cases h1:d=n
  ·obtain ⟨r,h2,h3⟩:=rimmIn_f t (seen++[d]) best he' (hb.imp (fun h=>⟨h.1,fun x hx=>(List.mem_append.1 hx).elim (h.2 x) (fun e=>by rw [List.mem_singleton.1 e];exact h1)⟩) (fun h=>⟨h.1,h.2.1,fun x hx hne=>(List.mem_append.1 hx).elim (fun e=>h.2.2 x e hne) (fun e=>absurd (by rw [List.mem_singleton.1 e];exact h1) hne)⟩))
   exact ⟨r,by rw [qhj,if_pos h1];exact h2,h3⟩
  ·by_cases h2:best<0
   ·have hb':best=-1∧∀ x∈seen,x=n:=hb.resolve_right (fun h=>by have:=(qdb.1 h.1).1;omega)
    obtain ⟨r,h3,h4⟩:=rimmIn_f t (seen++[d]) d he' (.inr ⟨hd,h1,fun x hx hne=>(List.mem_append.1 hx).elim (fun e=>absurd (hb'.2 x e) hne) (fun e=>by rw [List.mem_singleton.1 e];exact Nat.le_refl _)⟩)
    exact ⟨r,by rw [qhj,if_neg h1,if_pos h2];exact h3,h4⟩
   ·obtain ⟨hb1,hb2,hb3⟩:=hb.resolve_left (fun h=>by omega)
    have hbr:=(qdb.1 hb1).1
    have hlen:(qec l).length=l.length:=by simp [qec]
    have e1:(qec l).getD best.toNat []=qbq l best:=by
     rw [qfl (by omega),show ((best.toNat:Nat):Int)=best by omega]
    have e2:(qec l).getD d.toNat []=qbq l d:=by
     rw [qfl (by omega),show ((d.toNat:Nat):Int)=d by omega]
    by_cases h3:(qbq l best).length<(qbq l d).length
    ·obtain ⟨r,h4,h5⟩:=rimmIn_f t (seen++[d]) d he' (.inr ⟨hd,h1,fun x hx hne=>(List.mem_append.1 hx).elim (fun e=>Nat.le_of_lt (Nat.lt_of_le_of_lt (hb3 x e hne) h3)) (fun e=>by rw [List.mem_singleton.1 e];exact Nat.le_refl _)⟩)
     exact ⟨r,by rw [qhj,if_neg h1,if_neg h2,if_pos (by rw [hlen];omega),e1,e2,if_pos h3];exact h4,h5⟩
    ·obtain ⟨r,h4,h5⟩:=rimmIn_f t (seen++[d]) best he' (.inr ⟨hb1,hb2,fun x hx hne=>(List.mem_append.1 hx).elim (fun e=>hb3 x e hne) (fun e=>by rw [List.mem_singleton.1 e];omega)⟩)
     exact ⟨r,by rw [qhj,if_neg h1,if_neg h2,if_pos (by rw [hlen];omega),e1,e2,if_neg h3];exact h4,h5⟩
noncomputable def idoms (l:List S60):List Int:=(List.range l.length).map (fun (i:Nat)=>idom l (i:Int))
theorem rimmOut_f {l:List S60} (hN:l.length≤14):∀ (m i:Nat),i+m=l.length→rimmOut (qec l) m i ((List.range i).map (fun (i:Nat)=>idom l (i:Int)))=some (idoms l)
 | 0,i,hi=>by
  have e:i=l.length:=by omega
  subst e
  rfl
 | m+1,i,hi=>by
  have h0:0<l.length:=by omega
  obtain ⟨d,h1,h2⟩:=rimmIn_f (l:=l) (n:=(i:Int)) (qbq l (i:Int)) [] (-1) (by simp) (.inl ⟨rfl,fun x hx=>absurd hx (by simp)⟩)
  have hd:qey l (i:Int) d:=h2.elim (fun h=>.inl h) (fun h=>idom_of_max h0 h.1 h.2.1 h.2.2)
  have e:=hd.eq h0
  subst e
  have:=rimmOut_f hN m (i+1) (by omega)
  rw [qel] at this
  have hlen:(qec l).length=l.length:=by simp [qec]
  rw [rimmOut,if_pos (by rw [hlen];simp;omega),qfl (by omega),h1,Option.bind_some]
  exact this
theorem rimm_ev (a:Bool) (b:Int) {l:List S60} (hN:l.length≤14):Ev (fun k=>qcs.f k a b l) (idoms l):=Ev.bind (rdom_ev a b hN) (g:=fun _ dom=>rimmOut dom l.length 0 []) (Ev.fix (rimmOut_f hN l.length 0 (by omega)))
theorem imm_fold {l:List S60} (h0:0<l.length) {n:Int} {step:Int→Int→Int} (hs:∀ o d,d∈qbq l n→d≠n→step o d=if (qbq l d).length+1=(qbq l n).length then d else o) :
  ∀ (t:List Int) (o:Int),(∀ x∈t,x∈qbq l n∧x≠n)→(o=-1∨qey l n o)→(∀ x∈qbq l n,x≠n→x∈t∨(qbq l x).length+1≠(qbq l n).length∨qey l n o)→qey l n (t.foldl step o)
 | [],o,_,ho,hc=>by
  rcases ho with rfl|ho
  ·by_cases h:∀ x∈qbq l n,x=n
   ·exact .inl ⟨rfl,h⟩
   ·obtain ⟨d,hd⟩:=idom_exists h0 n
    have hd':=hd
    rcases hd with ⟨_,h1⟩|⟨h1,h2,h3⟩
    ·exact absurd h1 h
    ·rcases hc d h1 h2 with h4|h4|h4
     ·simp at h4
     ·exact absurd h3 h4
     ·exact h4
  ·exact ho
 | d::t,o,ht,ho,hc=>by
  obtain ⟨h1,h2⟩:=ht d (List.mem_cons_self ..)
  rw [List.foldl_cons,hs o d h1 h2]
  by_cases h3:(qbq l d).length+1=(qbq l n).length
  ·rw [if_pos h3]
   have hd:qey l n d:=.inr ⟨h1,h2,h3⟩
   exact imm_fold h0 hs t d (fun x hx=>ht x (List.mem_cons_of_mem _ hx)) (.inr hd) (fun x _ _=>.inr (.inr hd))
  ·rw [if_neg h3]
   exact imm_fold h0 hs t o (fun x hx=>ht x (List.mem_cons_of_mem _ hx)) ho (fun x hx hne=>by
    rcases hc x hx hne with h|h
    ·rcases List.mem_cons.1 h with rfl|h
     ·exact .inr (.inl h3)
     ·exact .inl h
    ·exact .inr h)
theorem imm_parts {l:List S60} (hN:l.length≤14) {dom:List S38} (hd:∀ n:Nat,n<l.length→GS (qcm dom (n:Int)).f0∧els (qcm dom (n:Int)).f0=qbq l (n:Int)) (n:Nat) (hn:n<l.length) :
  (∃ s,Ev (fun k=>qcc.f k (qcm dom (n:Int)).f0 (n:Int)) s∧GS s∧∀ x,x∈els s↔x∈qbq l (n:Int)∧x≠(n:Int))∧Ev (fun k=>qbb.f k (qcm dom (n:Int)).f0) ((qbq l (n:Int)).length:Int):=by
 obtain ⟨h1,h2⟩:=hd n hn
 obtain ⟨s,h3,h4,h5⟩:=Without_ev h1 n (by omega)
 refine ⟨⟨s,h3,h4,fun x=>?_⟩,?_⟩
 ·rw [← h2]
  constructor
  ·intro hx
   obtain ⟨z,rfl,hz⟩:=qek hx
   rw [h5,Bool.and_eq_true,Bool.not_eq_true',decide_eq_false_iff_not] at hz
   exact ⟨qdt.2 hz.1,by omega⟩
  ·rintro ⟨hx,hne⟩
   obtain ⟨z,rfl,hz⟩:=qek hx
   rw [qdt,h5,hz,Bool.true_and,Bool.not_eq_true',decide_eq_false_iff_not]
   omega
 ·have:=Len_ev h1 (fun x hx=>by rw [h2] at hx;have:=(qdb.1 hx).1;omega)
  rw [h2] at this
  exact this
theorem imm_at {l:List S60} (hN:l.length≤14) {dom:List S38} (hd:∀ n:Nat,n<l.length→GS (qcm dom (n:Int)).f0∧els (qcm dom (n:Int)).f0=qbq l (n:Int)) {k:Nat}
  (h1:∀ n:Nat,n<l.length→qcc.f k (qcm dom (n:Int)).f0 (n:Int)=some (qgj k dom (n:Int))) (h2:∀ d:Int,0≤d→d<(l.length:Int)→qbb.f k (qcm dom d).f0=some (lenT k (qcm dom d).f0))
  (n:Nat) (hn:n<l.length):immAt k dom n=idom l (n:Int):=by
 have h0:0<l.length:=by omega
 obtain ⟨⟨s,e1,_,e3⟩,_⟩:=imm_parts hN hd n hn
 have es:qgj k dom (n:Int)=s:=e1.det (qcc.mono _ _) (h1 n hn)
 have hlen:∀ d:Int,0≤d→d<(l.length:Int)→lenT k (qcm dom d).f0=((qbq l d).length:Int):=by
  intro d hd0 hd1
  obtain ⟨m,rfl⟩:=Int.eq_ofNat_of_zero_le hd0
  exact (imm_parts hN hd m (by omega)).2.det (qbb.mono _) (h2 _ hd0 hd1)
 refine qey.eq h0 ?_
 unfold immAt
 rw [es]
 refine imm_fold h0 (fun o d hdm hne=>?_) (els s) (-1) (fun x hx=>(e3 x).1 hx) (.inl rfl) (fun x hx hne=>.inl ((e3 x).2 ⟨hx,hne⟩))
 have hdr:=(qdb.1 hdm).1
 have hb:(qbq l (n:Int)).length≤14:=Nat.le_trans (domRow_length l (n:Int)) hN
 unfold qgd
 rw [hlen d hdr.1 hdr.2,hlen (n:Int) (by omega) (by omega),qew (by omega) (by omega)]
 by_cases h:(qbq l d).length+1=(qbq l (n:Int)).length
 ·rw [if_pos h,if_pos (by omega)]
 ·rw [if_neg h,if_neg (by omega)]
theorem cimm_f (a:Bool) (b:Int) {l:List S60} (hN:l.length≤14):qbh.f a b l=some (idoms l):=by
 obtain ⟨dom,hdom,hlen,hd⟩:=cdom_f a b hN
 have hex:∃ r,Imm a b l r:=by
  have k1:∀ n∈List.range l.length,∃ K,∀ k,K≤k→(qcc.f k (qcm dom (n:Int)).f0 (n:Int)=some (qgj k dom (n:Int))∧setOk (qgj k dom (n:Int))=true∧∀ d∈els (qgj k dom (n:Int)),0≤d∧d<(l.length:Int))∧qbb.f k (qcm dom (n:Int)).f0=some (lenT k (qcm dom (n:Int)).f0):=by
   intro n hn
   obtain ⟨⟨s,⟨K1,e1⟩,e2,e3⟩,⟨K2,e4⟩⟩:=imm_parts hN hd n (List.mem_range.1 hn)
   refine ⟨K1+K2,fun k hk=>?_⟩
   have e1':qcc.f k (qcm dom (n:Int)).f0 (n:Int)=some s:=e1 k (by omega)
   have e4':qbb.f k (qcm dom (n:Int)).f0=some ((qbq l (n:Int)).length:Int):=e4 k (by omega)
   have es:qgj k dom (n:Int)=s:=by unfold qgj;rw [e1'];rfl
   rw [es]
   exact ⟨⟨e1',e2.ok,fun d hd'=>(qdb.1 ((e3 d).1 hd').1).1⟩,by unfold lenT;rw [e4'];rfl⟩
  obtain ⟨K,hK⟩:=Ev.all _ _ k1
  have hK:=hK K (Nat.le_refl _)
  refine ⟨_,K,dom,hdom,hlen,by omega,fun n hn=>(hK n (List.mem_range.2 hn)).1,fun d h0 h1=>?_,rfl⟩
  obtain ⟨m,rfl⟩:=Int.eq_ofNat_of_zero_le h0
  exact (hK m (List.mem_range.2 (by omega))).2
 have hall:∀ r,Imm a b l r→r=idoms l:=by
  rintro r ⟨k,dom',h1,_,_,h4,h5,h6⟩
  rw [hdom] at h1
  obtain rfl:=Option.some.inj h1
  rw [h6]
  unfold idoms
  refine List.map_congr_left (fun n hn=>?_)
  exact imm_at hN hd (fun n hn=>(h4 n hn).1) h5 n (List.mem_range.1 hn)
 unfold qbh.f
 rw [dif_pos hex,hall _ hex.choose_spec]
end
end Go.Proofs.YtmfjmbcfaamebaaDoor.X
namespace Go.Proofs.YtmfjmbcfaamebaaDoor.X
noncomputable section
open Go.RowKit Go.Proofs.YtmfjmbcfaamebaaDoorW.PrintWords Go.Proofs.YtmfjmbcfaamebaaDoorW.PrintLast Go.Proofs.YtmfjmbcfaamebaaDoorW.PrintMore
open Classical in
noncomputable def bIn (l:List S60) (a:Int) (row:List Int) (out:List S39):List S39:=row.foldl (fun o b=>if b∈qbq l a then o++[(⟨a,b⟩:S39)] else o) out
noncomputable def bOut (l:List S60):Nat→List (List Int)→List S39→List S39
 | _,[],out=>out
 | a,r::t,out=>bOut l (a+1) t (bIn l (a:Int) r out)
noncomputable def qhf (l:List S60):List S39:=bOut l 0 (Succ l) []
theorem bIn_cons (l:List S60) (a b:Int) (t:List Int) (out:List S39) (c:Bool) (hc:c=true↔b∈qbq l a):bIn l a (b::t) out=bIn l a t (if c=true then out++[(⟨a,b⟩:S39)] else out):=by
 classical
 unfold bIn
 rw [List.foldl_cons]
 by_cases h:b∈qbq l a
 ·rw [if_pos h,if_pos (hc.2 h)]
 ·rw [if_neg h,if_neg (fun e=>h (hc.1 e))]
theorem ite_len (c:Bool) (out:List S39) (x:S39):(if c=true then out++[x] else out).length≤out.length+1:=by cases c <;> simp
theorem qhc (l:List S60) (a:Int):∀ (row:List Int) (out:List S39),(bIn l a row out).length≤out.length+row.length
 | [],out=>by simp [bIn]
 | b::t,out=>by
  classical
  rw [bIn_cons l a b t out (decide (b∈qbq l a)) (by simp)]
  have:=qhc l a t (if decide (b∈qbq l a)=true then out++[(⟨a,b⟩:S39)] else out)
  have:=ite_len (decide (b∈qbq l a)) out (⟨a,b⟩:S39)
  rw [List.length_cons]
  omega
theorem bIn_mem (l:List S60) (a:Int):∀ (row:List Int) (out:List S39) (e:S39),e∈bIn l a row out↔e∈out∨∃ b,b∈row∧b∈qbq l a∧e=⟨a,b⟩
 | [],out,e=>by simp [bIn]
 | b::t,out,e=>by
  classical
  rw [bIn_cons l a b t out (decide (b∈qbq l a)) (by simp),bIn_mem l a t]
  by_cases h:b∈qbq l a
  ·rw [if_pos (by simpa using h),List.mem_append,List.mem_singleton]
   constructor
   ·rintro ((h1|h1)|⟨c,h1,h2,h3⟩)
    ·exact .inl h1
    ·exact .inr ⟨b,List.mem_cons_self ..,h,h1⟩
    ·exact .inr ⟨c,List.mem_cons_of_mem _ h1,h2,h3⟩
   ·rintro (h1|⟨c,h1,h2,h3⟩)
    ·exact .inl (.inl h1)
    ·rcases List.mem_cons.1 h1 with rfl|h1
     ·exact .inl (.inr h3)
     ·exact .inr ⟨c,h1,h2,h3⟩
  ·rw [if_neg (by simpa using h)]
   constructor
   ·rintro (h1|⟨c,h1,h2,h3⟩)
    ·exact .inl h1
    ·exact .inr ⟨c,List.mem_cons_of_mem _ h1,h2,h3⟩
   ·rintro (h1|⟨c,h1,h2,h3⟩)
    ·exact .inl h1
    ·rcases List.mem_cons.1 h1 with rfl|h1
     ·exact absurd h2 h
     ·exact .inr ⟨c,h1,h2,h3⟩
theorem bOut_mem (l:List S60):∀ (rows:List (List Int)) (i:Nat) (out:List S39) (e:S39),e∈bOut l i rows out↔e∈out∨∃ j b,j<rows.length∧b∈rows.getD j []∧b∈qbq l ((i+j:Nat):Int)∧e=⟨((i+j:Nat):Int),b⟩
 | [],i,out,e=>by simp [bOut]
 | r::t,i,out,e=>by
  rw [bOut,bOut_mem l t (i+1),bIn_mem]
  constructor
  ·rintro ((h1|⟨b,h1,h2,h3⟩)|⟨j,b,h1,h2,h3,h4⟩)
   ·exact .inl h1
   ·exact .inr ⟨0,b,by simp,by simpa using h1,by simpa using h2,by simpa using h3⟩
   ·exact .inr ⟨j+1,b,by simpa using h1,by simpa using h2,by rw [show i+(j+1)=i+1+j by omega];exact h3,by rw [show i+(j+1)=i+1+j by omega];exact h4⟩
  ·rintro (h1|⟨j,b,h1,h2,h3,h4⟩)
   ·exact .inl (.inl h1)
   ·cases j with
    | zero=>exact .inl (.inr ⟨b,by simpa using h2,by simpa using h3,by simpa using h4⟩)
    | succ j=>exact .inr ⟨j,b,by simpa using h1,by simpa using h2,by rw [show i+1+j=i+(j+1) by omega];exact h3,by rw [show i+1+j=i+(j+1) by omega];exact h4⟩
theorem Succ_getD {l:List S60} {n:Nat} (hn:n<l.length):(Succ l).getD n []=Sc l (n:Int):=by
 unfold Succ
 rw [List.getD_eq_getElem?_getD,List.getElem?_map,List.getElem?_range hn]
 rfl
theorem backs_mem {l:List S60} {e:S39}:e∈qhf l↔(0≤e.f0∧e.f0<(l.length:Int))∧e.f1∈Tg l e.f0∧e.f1∈qbq l e.f0:=by
 unfold qhf
 rw [bOut_mem]
 constructor
 ·rintro (h|⟨j,b,h1,h2,h3,h4⟩)
  ·simp at h
  ·rw [qeb] at h1
   rw [Succ_getD h1] at h2
   rw [Nat.zero_add] at h3 h4
   subst h4
   exact ⟨⟨by show (0:Int)≤(j:Int);omega,by show (j:Int)<_;omega⟩,Sc_mem.1 h2,h3⟩
 ·rintro ⟨h1,h2,h3⟩
  obtain ⟨a,b⟩:=e
  obtain ⟨j,rfl⟩:=Int.eq_ofNat_of_zero_le h1.1
  have hj:j<l.length:=by have:=h1.2;simp at this;omega
  refine .inr ⟨j,b,by rw [qeb];exact hj,by rw [Succ_getD hj];exact Sc_mem.2 h2,by rw [Nat.zero_add];exact h3,by rw [Nat.zero_add]⟩
theorem domRow_len14 {l:List S60} (hN:l.length≤14) (n:Int):(qbq l n).length<4611686018427387904:=by
 have:=domRow_length l n
 omega
theorem rbackIn_ev {l:List S60} (hN:l.length≤14) (n:Nat) (hn:n<l.length):∀ (row:List Int) (out:List S39),out.length+row.length<100000→Ev (fun k=>qfn k (qec l) (n:Int) row out) (bIn l (n:Int) row out)
 | [],out,_=>Ev.const _
 | b::t,out,ho=>by
  classical
  rw [List.length_cons] at ho
  rw [bIn_cons l (n:Int) b t out (decide (b∈qbq l (n:Int))) (by simp)]
  have hh:=qfp (qbq l (n:Int)) b (domRow_len14 hN _)
  have hlen:(qec l).length=l.length:=by simp [qec]
  have hg:(qec l).getD (n:Int).toNat []=qbq l (n:Int):=by rw [Int.toNat_natCast,qfl hn]
  have c1:(n:Int)<((qec l).length:Int)∧out.length<1099511627776:=by rw [hlen];omega
  simp only [qfn,if_pos c1,hg]
  refine Ev.bind hh ?_
  have e:(@decide (b∈qbq l (n:Int)) (List.instDecidableMemOfLawfulBEq b (qbq l (n:Int))))=decide (b∈qbq l (n:Int)):=by congr
  rw [e]
  exact rbackIn_ev hN n hn t _ (by have:=ite_len (decide (b∈qbq l (n:Int))) out (⟨(n:Int),b⟩:S39);omega)
theorem rbackOut_ev {l:List S60} (hN:l.length≤14):∀ (rows:List (List Int)) (i:Nat) (out:List S39),(∀ r∈rows,r.length≤1000)→i+rows.length≤l.length→out.length≤i*1000→Ev (fun k=>qeu k (qec l) i rows out) (bOut l i rows out)
 | [],i,out,_,_,_=>Ev.const _
 | r::t,i,out,hr,hi,ho=>by
  rw [List.length_cons] at hi
  have h1:=hr r (List.mem_cons_self ..)
  have h2:=qhc l (i:Int) r out
  simp only [qeu,bOut]
  exact Ev.bind (rbackIn_ev hN i (by omega) r out (by omega)) (rbackOut_ev hN t (i+1) _ (fun r h=>hr r (List.mem_cons_of_mem _ h)) (by omega) (by omega))
theorem rback_ev (a:Bool) (b:Int) {l:List S60} (hN:l.length≤14):Ev (fun k=>qci.f k a b l) (qhf l):=
 Ev.bind (rdom_ev a b hN) (Ev.bind (rSucc_ev a b hN) (rbackOut_ev hN (Succ l) 0 [] (fun r h=>(Succ_rows hN r h).2.1) (by rw [qeb];omega) (by simp)))
theorem cbackIn_f {l:List S60} (hN:l.length≤14) {dom:List S38} (hl:dom.length=l.length) (hd:∀ n:Nat,n<l.length→GS (qcm dom (n:Int)).f0∧els (qcm dom (n:Int)).f0=qbq l (n:Int)) (n:Nat) (hn:n<l.length) :
  ∀ (row:List Int) (out:List S39),(∀ b∈row,0≤b∧b<(l.length:Int))→out.length+row.length<100000→backIn dom (n:Int) row out=some (bIn l (n:Int) row out)
 | [],out,_,_=>rfl
 | b::t,out,hr,ho=>by
  rw [List.length_cons] at ho
  obtain ⟨h1,h2⟩:=hd n hn
  obtain ⟨h3,h4⟩:=hr b (List.mem_cons_self ..)
  obtain ⟨m,rfl⟩:=Int.eq_ofNat_of_zero_le h3
  have hc:(decide (0≤(m:Int)∧(m:Int)≤65535)&&tb (qcm dom (n:Int)).f0 (m:Int).toNat)=true↔(m:Int)∈qbq l (n:Int):=by
   rw [decide_eq_true (by omega),Bool.true_and,Int.toNat_natCast,← qdt,h2]
  rw [backIn,if_pos (by rw [hl];omega),Has_f h1.wd,Option.bind_some,bIn_cons l (n:Int) (m:Int) t out _ hc]
  exact cbackIn_f hN hl hd n hn t _ (fun b h=>hr b (List.mem_cons_of_mem _ h)) (by have:=ite_len (decide (0≤(m:Int)∧(m:Int)≤65535)&&tb (qcm dom (n:Int)).f0 (m:Int).toNat) out (⟨(n:Int),(m:Int)⟩:S39);omega)
theorem cbackOut_f {l:List S60} (hN:l.length≤14) {dom:List S38} (hl:dom.length=l.length) (hd:∀ n:Nat,n<l.length→GS (qcm dom (n:Int)).f0∧els (qcm dom (n:Int)).f0=qbq l (n:Int)) :
  ∀ (rows:List (List Int)) (i:Nat) (out:List S39),(∀ r∈rows,r.length≤1000∧∀ b∈r,0≤b∧b<(l.length:Int))→i+rows.length≤l.length→out.length≤i*1000→qgs dom i rows out=some (bOut l i rows out)
 | [],i,out,_,_,_=>rfl
 | r::t,i,out,hr,hi,ho=>by
  rw [List.length_cons] at hi
  obtain ⟨h1,h1'⟩:=hr r (List.mem_cons_self ..)
  have h2:=qhc l (i:Int) r out
  rw [qgs,bOut,cbackIn_f hN hl hd i (by omega) r out h1' (by omega),Option.bind_some]
  exact cbackOut_f hN hl hd t (i+1) _ (fun r h=>hr r (List.mem_cons_of_mem _ h)) (by omega) (by omega)
theorem cback_ev (a:Bool) (b:Int) {l:List S60} (hN:l.length≤14):Ev (fun k=>qcb.f k a b l) (qhf l):=by
 obtain ⟨dom,h1,h2,h3⟩:=cdom_f a b hN
 unfold qcb.f
 rw [h1]
 refine (Ev.bind (cSucc_ev a b hN) (g:=fun _ s=>qgs dom 0 s []) (Ev.fix (cbackOut_f hN h2 h3 (Succ l) 0 [] (fun r h=>(Succ_rows hN r h).2) (by rw [qeb];omega) (by simp)))).congr (fun k=>rfl)
end
end Go.Proofs.YtmfjmbcfaamebaaDoor.X
namespace Go.Proofs.YtmfjmbcfaamebaaDoor.X
noncomputable section
open Go.RowKit Go.Proofs.YtmfjmbcfaamebaaDoorW.PrintWords Go.Proofs.YtmfjmbcfaamebaaDoorW.PrintLast Go.Proofs.YtmfjmbcfaamebaaDoorW.PrintMore
theorem Rch.back {T:Int→List Int} {av:Int→Prop} {x a:Int} {P:Int→Prop} (h:Rch T av x a) (hP:P a) (hc:∀ y z,z∈T y→¬ av y→¬ av z→P z→P y):P x:=by
 induction h with
 | refl _=>exact hP
 | step h0 h1 h2 ih=>exact ih (hc _ _ h1 h0.last h2 hP)
def InLoop (l:List S60) (a h:Int) (x:Int):Prop:=x=h∨(Rch (Tg l) noN 0 x∧Rch (Tg l) (fun y=>y=h) x a)
def IsLoop (l:List S60) (a h:Int) (r:List Int):Prop:=r.Pairwise (·<·)∧∀ x,x∈r↔InLoop l a h x
theorem IsLoop.uniq {l:List S60} {a h:Int} {r r':List Int} (h1:IsLoop l a h r) (h2:IsLoop l a h r'):r=r':=qfs h1.1 h2.1 (fun x=>(h1.2 x).trans (h2.2 x).symm)
theorem rloop_in (a:Bool) (b:Int) {l:List S60} (hN:l.length≤14) {e0 e1:Int} {q:List Int} (hq:∀ x∈q,0≤x∧x<(l.length:Int)) (hql:q.length≤14):∀ (m i:Nat) (o:List Int),i+m=q.length→o.length≤i+1→
  ∃ o',Ev (fun k=>qay.l1 k o q (q.length:Int) (i:Int) a b l e0 e1) o'∧o'.Pairwise (·<·)∧∀ x,x∈o'↔(x∈o∨x∈q.drop i∧Rch (Tg l) (fun y=>y=e1) x e0)∧0≤x∧x≤65535
 | 0,i,o,hi,ho=>by
  obtain ⟨r,h1,h2,_⟩:=rOf_ev o (by omega)
  refine ⟨r,?_,h2.1,fun x=>?_⟩
  ·refine Ev.succ ?_
   have c1:((i:Int)<(q.length:Int))=False:=eq_false (by omega)
   simp only [qay.l1,c1,if_false]
   exact Ev.bind h1 (Ev.const _)
  ·rw [h2.2,List.drop_eq_nil_of_le (by omega)]
   simp
 | m+1,i,o,hi,ho=>by
  have h1:i<q.length:=by omega
  have hrd:rd q (i:Int)=q[i]:=qgf h1
  have hqi:=hq _ (List.getElem_mem h1)
  obtain ⟨r,h2,h3⟩:=rReachOne_ev a b hN q[i] e1
  have hrl:=qfq h3.1 (fun x hx=>h3.range hx)
  have hh:=qfp r e0 (by omega)
  have hm:e0∈r↔Rch (Tg l) (fun y=>y=e1) q[i] e0:=(h3.2 e0).trans ⟨fun h=>h.2,fun h=>⟨hqi,h⟩⟩
  have c1:((i:Int)<(q.length:Int))=True:=eq_true (by omega)
  have c2:(0≤(i:Int))=True:=eq_true (by omega)
  have c3:o.length<17592186044416:=by omega
  have hw:=qcv (show i<9223372036854775807 by omega)
  have hdrop:=List.drop_eq_getElem_cons h1
  by_cases h:e0∈r
  ·obtain ⟨o',h4,h5,h6⟩:=rloop_in a b hN (e0:=e0) (e1:=e1) hq hql m (i+1) (o++[q[i]]) (by omega) (by simp;omega)
   refine ⟨o',?_,h5,fun x=>?_⟩
   ·refine Ev.succ ?_
    simp only [qay.l1,c1,c2,if_true,hrd,hw]
    refine Ev.bind h2 (Ev.bind hh ?_)
    exact Ev.ifp (decide_eq_true h) (Ev.ifp c3 h4)
   ·rw [h6,hdrop,List.mem_append,List.mem_singleton,List.mem_cons]
    constructor
    ·rintro ⟨(h7|rfl)|h7,h8⟩
     ·exact ⟨.inl h7,h8⟩
     ·exact ⟨.inr ⟨.inl rfl,hm.1 h⟩,h8⟩
     ·exact ⟨.inr ⟨.inr h7.1,h7.2⟩,h8⟩
    ·rintro ⟨h7|⟨h7|h7,h9⟩,h8⟩
     ·exact ⟨.inl (.inl h7),h8⟩
     ·exact ⟨.inl (.inr h7),h8⟩
     ·exact ⟨.inr ⟨h7,h9⟩,h8⟩
  ·obtain ⟨o',h4,h5,h6⟩:=rloop_in a b hN (e0:=e0) (e1:=e1) hq hql m (i+1) o (by omega) (by omega)
   refine ⟨o',?_,h5,fun x=>?_⟩
   ·refine Ev.succ ?_
    simp only [qay.l1,c1,c2,if_true,hrd,hw]
    refine Ev.bind h2 (Ev.bind hh ?_)
    exact Ev.ifn (by simpa using h) h4
   ·rw [h6,hdrop,List.mem_cons]
    constructor
    ·rintro ⟨h7|h7,h8⟩
     ·exact ⟨.inl h7,h8⟩
     ·exact ⟨.inr ⟨.inr h7.1,h7.2⟩,h8⟩
    ·rintro ⟨h7|⟨h7|h7,h9⟩,h8⟩
     ·exact ⟨.inl h7,h8⟩
     ·rw [h7] at h9;exact absurd (hm.2 h9) h
     ·exact ⟨.inr ⟨h7,h9⟩,h8⟩
theorem edge_eq {e:S39} {a h:Int}:(e.f0==a&&e.f1==h)=true↔e=⟨a,h⟩:=by
 obtain ⟨x,y⟩:=e
 simp
def isE (e0 e1:Int) (e:S39):Bool:=e.f0==e0&&e.f1==e1
theorem isE_any {q:List S39} {e0 e1:Int}:q.any (isE e0 e1)=true↔(⟨e0,e1⟩:S39)∈q:=by
 rw [List.any_eq_true]
 constructor
 ·rintro ⟨e,h1,h2⟩
  rw [← edge_eq.1 h2];exact h1
 ·intro h
  exact ⟨_,h,edge_eq.2 rfl⟩
theorem qhn (a:Bool) (b:Int) (l:List S60) {q:List S39} (hq:q.length<100000) {e0 e1:Int} {r:List Int}:∀ (m i:Nat) (f:Bool),i+m=q.length→
  Ev (fun k=>if (f||(q.drop i).any (isE e0 e1))=true then ((qal.f k a b l 0 ([]:List Int)).bind fun t=>(qay.l1 k (([e1]:List Int)) t (t.length:Int) 0 a b l e0 e1)) else (some ([]:List Int))) r→
  Ev (fun k=>qay.l0 k f q (q.length:Int) (i:Int) a b l e0 e1) r
 | 0,i,f,hi,h=>by
  rw [List.drop_eq_nil_of_le (by omega),List.any_nil,Bool.or_false] at h
  refine Ev.next h (fun k=>?_)
  rw [qay.l0,if_neg (by omega)]
 | m+1,i,f,hi,h=>by
  have h1:i<q.length:=by omega
  have hrd:qch q (i:Int)=q[i]:=by unfold qch;rw [Int.toNat_natCast,List.getD_eq_getElem?_getD,List.getElem?_eq_getElem h1];rfl
  have c1:((i:Int)<(q.length:Int))=True:=eq_true (by omega)
  have c2:(0≤(i:Int))=True:=eq_true (by omega)
  have hw:=qcv (show i<9223372036854775807 by omega)
  have ih:=qhn a b l hq (e0:=e0) (e1:=e1) (r:=r) m (i+1) (f||isE e0 e1 q[i]) (by omega) (h.congr (fun k=>by
   have e:(f||isE e0 e1 q[i]||(q.drop (i+1)).any (isE e0 e1))=(f||(q.drop i).any (isE e0 e1)):=by
    rw [Bool.or_assoc,List.drop_eq_getElem_cons h1,List.any_cons]
   rw [e]))
  refine Ev.next ih (fun k=>?_)
  rw [qay.l0]
  simp only [c1,c2,if_true,hrd,hw]
  cases f with
  | true=>rw [if_pos rfl,Bool.true_or]
  | false=>rw [if_neg (by decide),Bool.false_or];rfl
theorem backs_len {l:List S60} (hN:l.length≤14):(qhf l).length<100000:=by
 have key:∀ (rows:List (List Int)) (i:Nat) (out:List S39),(∀ r∈rows,r.length≤1000)→(bOut l i rows out).length≤out.length+1000*rows.length:=by
  intro rows
  induction rows with
  | nil=>intro i out _;simp [bOut]
  | cons r t ih=>
   intro i out hr
   have h1:=ih (i+1) (bIn l (i:Int) r out) (fun r h=>hr r (List.mem_cons_of_mem _ h))
   have h2:=qhc l (i:Int) r out
   have h3:=hr r (List.mem_cons_self ..)
   rw [bOut,List.length_cons]
   omega
 have:=key (Succ l) 0 [] (fun r h=>(Succ_rows hN r h).2.1)
 rw [qeb] at this
 unfold qhf
 simp at this
 omega
theorem rloop_ev (a:Bool) (b:Int) {l:List S60} (hN:l.length≤14) (e0 e1:Int):∃ r,Ev (fun k=>qay.f k a b l e0 e1) r∧((⟨e0,e1⟩:S39)∈qhf l→IsLoop l e0 e1 r)∧((⟨e0,e1⟩:S39)∉qhf l→r=[]):=by
 by_cases h:(⟨e0,e1⟩:S39)∈qhf l
 ·obtain ⟨⟨h1,h2⟩,h3,h4⟩:=backs_mem.1 h
  have he1:0≤e1∧e1<(l.length:Int):=qdx h3
  have h0:0<l.length:=by omega
  obtain ⟨q,h5,h6⟩:=rReach_ev a b hN 0
  have hql:=qfq h6.1 (fun x hx=>h6.range hx)
  obtain ⟨r,h7,h8,h9⟩:=rloop_in a b hN (e0:=e0) (e1:=e1) (fun x hx=>h6.range hx) (by omega) q.length 0 [e1] (by omega) (by simp)
  refine ⟨r,?_,fun _=>⟨h8,fun x=>?_⟩,fun h'=>absurd h h'⟩
  ·unfold qay.f
   refine Ev.bind (rback_ev a b hN) ?_
   refine qhn a b l (backs_len hN) (qhf l).length 0 false (by omega) ?_
   refine Ev.ifp (by rw [Bool.false_or,List.drop_zero];exact isE_any.2 h) (Ev.bind h5 h7)
  ·rw [h9,List.drop_zero,h6.2,List.mem_singleton,InLoop]
   constructor
   ·rintro ⟨h10|h10,_⟩
    ·exact .inl h10
    ·exact .inr ⟨h10.1.2,h10.2⟩
   ·rintro (h10|⟨h10,h11⟩)
    ·exact ⟨.inl h10,by omega,by omega⟩
    ·have:=h10.range (l:=l) (by omega)
     exact ⟨.inr ⟨⟨by omega,h10⟩,h11⟩,by omega,by omega⟩
 ·refine ⟨[],?_,fun h'=>absurd h' h,fun _=>rfl⟩
  unfold qay.f
  refine Ev.bind (rback_ev a b hN) ?_
  refine qhn a b l (backs_len hN) (qhf l).length 0 false (by omega) ?_
  exact Ev.ifn (by rw [Bool.false_or,List.drop_zero];exact fun h'=>h (isE_any.1 h')) (Ev.const _)
theorem contains_from {q:List S39} (hq:q.length<100000) (e0 e1:Int):∀ (m i:Nat),i+m=q.length→∃ j:Int,Ev (fun k=>qat.l0 k q (q.length:Int) (i:Int) e0 e1) j∧(0≤j↔(q.drop i).any (isE e0 e1)=true)
 | 0,i,hi=>by
  refine ⟨-1,Ev.next (Ev.const _) (fun k=>?_),?_⟩
  ·rw [qat.l0,if_neg (by omega)]
  ·rw [List.drop_eq_nil_of_le (by omega)];simp
 | m+1,i,hi=>by
  have h1:i<q.length:=by omega
  have hrd:qch q (i:Int)=q[i]:=by unfold qch;rw [Int.toNat_natCast,List.getD_eq_getElem?_getD,List.getElem?_eq_getElem h1];rfl
  have c1:((i:Int)<(q.length:Int))=True:=eq_true (by omega)
  have c2:(0≤(i:Int))=True:=eq_true (by omega)
  have hw:=qcv (show i<9223372036854775807 by omega)
  rw [List.drop_eq_getElem_cons h1,List.any_cons]
  have he:(e0==q[i].f0&&e1==q[i].f1)=isE e0 e1 q[i]:=by
   unfold isE
   rw [Bool.eq_iff_iff,Bool.and_eq_true,Bool.and_eq_true,beq_iff_eq,beq_iff_eq,beq_iff_eq,beq_iff_eq]
   exact ⟨fun h=>⟨h.1.symm,h.2.symm⟩,fun h=>⟨h.1.symm,h.2.symm⟩⟩
  cases h:isE e0 e1 q[i] with
  | true=>
   refine ⟨(i:Int),Ev.next (Ev.const _) (fun k=>?_),by simp⟩
   rw [qat.l0]
   simp only [c1,c2,if_true,hrd,he,h]
  | false=>
   obtain ⟨j,h2,h3⟩:=contains_from hq e0 e1 m (i+1) (by omega)
   refine ⟨j,Ev.next h2 (fun k=>?_),by rw [h3];simp⟩
   rw [qat.l0]
   simp only [c1,c2,if_true,hrd,he,h,hw,if_false,Bool.false_eq_true]
theorem contains_ev {q:List S39} (hq:q.length<100000) (e0 e1:Int):Ev (fun k=>qbm.f k q e0 e1) (q.any (isE e0 e1)):=by
 obtain ⟨j,h1,h2⟩:=contains_from hq e0 e1 q.length 0 (by omega)
 have e:decide (j≥0)=q.any (isE e0 e1):=by
  rw [Bool.eq_iff_iff,decide_eq_true_eq]
  exact h2
 rw [← e]
 exact Ev.bind h1 (Ev.const _)
structure LInv (l:List S60) (a h:Int) (todo:List Int) (ws:List Int):Prop where
 gs:GS ws
 rg:∀ x∈todo,0≤x∧x<(l.length:Int)
 er:∀ x∈els ws,0≤x∧x<(l.length:Int)
 sd:∀ x∈els ws,InLoop l a h x
 st:∀ x∈todo,x≠h→Rch (Tg l) (fun y=>y=h) x a
 hh:h∈els ws
 ha:Rch (Tg l) noN 0 a→a∈els ws∨a∈todo
 cl:∀ y z,z∈Tg l y→z≠h→z∈els ws→Rch (Tg l) noN 0 y→y∈els ws∨y∈todo
theorem LInv.drop {l:List S60} {a h n:Int} {t ws:List Int} (I:LInv l a h (t++[n]) ws) (hn:n∈els ws∨¬ Rch (Tg l) noN 0 n):LInv l a h t ws:=by
 have key:∀ y,Rch (Tg l) noN 0 y→(y∈els ws∨y∈t++[n])→y∈els ws∨y∈t:=by
  intro y hy h'
  rcases h' with h'|h'
  ·exact .inl h'
  ·rcases List.mem_append.1 h' with h'|h'
   ·exact .inr h'
   ·rw [List.mem_singleton] at h'
    subst h'
    exact .inl (hn.resolve_right (fun e=>e hy))
 exact ⟨I.gs,fun x hx=>I.rg x (List.mem_append_left _ hx),I.er,I.sd,fun x hx=>I.st x (List.mem_append_left _ hx),I.hh,fun hr=>key a hr (I.ha hr),fun y z h1 h2 h3 h4=>key y h4 (I.cl y z h1 h2 h3 h4)⟩
theorem Pred_getD {l:List S60} {n:Nat} (hn:n<l.length):qer (Pred l) (n:Int)=qev 0 (Succ l) (n:Int):=by
 unfold qer Pred
 rw [Int.toNat_natCast,List.getD_eq_getElem?_getD,List.getElem?_map,List.getElem?_range hn]
 rfl
theorem pred_mem {l:List S60} {n:Nat} {x:Int}:x∈qev 0 (Succ l) (n:Int)↔(0≤x∧x<(l.length:Int))∧(n:Int)∈Tg l x:=by
 rw [predsF_mem]
 constructor
 ·rintro ⟨j,h1,h2,h3⟩
  rw [qeb] at h1
  rw [Succ_getD h1] at h3
  rw [Nat.zero_add] at h2
  subst h2
  exact ⟨by omega,Sc_mem.1 h3⟩
 ·rintro ⟨h1,h2⟩
  obtain ⟨j,rfl⟩:=Int.eq_ofNat_of_zero_le h1.1
  exact ⟨j,by rw [qeb];omega,by rw [Nat.zero_add],by rw [Succ_getD (by omega)];exact Sc_mem.2 h2⟩
theorem Rch.cons {T:Int→List Int} {av:Int→Prop} {x y a:Int} (h:y∈T x) (hx:¬ av x) (hr:Rch T av y a):Rch T av x a:=(Rch.step (.refl hx) h hr.first).trans hr
theorem LInv.add {l:List S60} {a h:Int} {n:Nat} {t ws ws':List Int} (hN:l.length≤14) (I:LInv l a h (t++[(n:Int)]) ws) (hr:Rch (Tg l) noN 0 (n:Int)) (hn:(n:Int)∉els ws) (hg:GS ws') (hw:∀ x,tb ws' x=(tb ws x||decide (x=n))):LInv l a h (t++qev 0 (Succ l) (n:Int)) ws':=by
 have hm:∀ x:Int,x∈els ws'↔x∈els ws∨x=(n:Int):=by
  intro x
  constructor
  ·intro hx
   obtain ⟨z,rfl,hz⟩:=qek hx
   rw [hw,Bool.or_eq_true,decide_eq_true_eq] at hz
   exact hz.imp (fun h=>qdt.2 h) (fun h=>by omega)
  ·rintro (hx|rfl)
   ·obtain ⟨z,rfl,hz⟩:=qek hx
    rw [qdt,hw,hz];rfl
   ·rw [qdt,hw];simp
 have hnr:=I.rg (n:Int) (by simp)
 have hne:(n:Int)≠h:=fun e=>hn (by rw [e];exact I.hh)
 have hna:=I.st (n:Int) (by simp) hne
 have key:∀ y,(y∈els ws∨y∈t++[(n:Int)])→y∈els ws'∨y∈t++qev 0 (Succ l) (n:Int):=by
  intro y h'
  rcases h' with h'|h'
  ·exact .inl ((hm y).2 (.inl h'))
  ·rcases List.mem_append.1 h' with h'|h'
   ·exact .inr (List.mem_append_left _ h')
   ·exact .inl ((hm y).2 (.inr (List.mem_singleton.1 h')))
 refine ⟨hg,fun x hx=>?_,fun x hx=>?_,fun x hx=>?_,fun x hx hxh=>?_,(hm h).2 (.inl I.hh),fun hra=>key a (I.ha hra),fun y z h1 h2 h3 h4=>?_⟩
 ·rcases List.mem_append.1 hx with hx|hx
  ·exact I.rg x (List.mem_append_left _ hx)
  ·exact (pred_mem.1 hx).1
 ·rcases (hm x).1 hx with hx|rfl
  ·exact I.er x hx
  ·exact hnr
 ·rcases (hm x).1 hx with hx|rfl
  ·exact I.sd x hx
  ·exact .inr ⟨hr,hna⟩
 ·rcases List.mem_append.1 hx with hx|hx
  ·exact I.st x (List.mem_append_left _ hx) hxh
  ·exact Rch.cons (pred_mem.1 hx).2 hxh hna
 ·rcases (hm z).1 h3 with h3|rfl
  ·exact key y (I.cl y z h1 h2 h3 h4)
  ·refine .inr (List.mem_append_right _ (pred_mem.2 ⟨?_,h1⟩))
   exact h4.range (by have:=hr.first;have:=qdx h1;exact ⟨by omega,by omega⟩)
theorem LInv.done {l:List S60} {a h:Int} {ws:List Int} (I:LInv l a h [] ws):IsLoop l a h (els ws):=by
 refine ⟨qhd ws,fun x=>⟨I.sd x,fun hx=>?_⟩⟩
 rcases hx with rfl|⟨h1,h2⟩
 ·exact I.hh
 ·refine Rch.back (P:=fun x=>Rch (Tg l) noN 0 x→x∈els ws) h2 (fun hr=>(I.ha hr).resolve_right (by simp)) (fun y z hz _ hzh hP hy=>?_) h1
  have hrz:Rch (Tg l) noN 0 z:=.step hy hz (fun e=>e)
  exact (I.cl y z hz hzh (hP hrz) hy).resolve_right (by simp)
theorem preds_len (l:List S60) (n:Int):(qev 0 (Succ l) n).length≤l.length:=by
 have:=predsF_length 0 (Succ l) n
 rwa [qeb] at this
theorem qhb {l:List S60} (hN:l.length≤14) {a h:Int} {rs:List Int} (hg:GS rs) (hrs:qgo l noN 0 (els rs)) (h0:0<l.length):∀ (m:Nat) (todo ws:List Int),todo.length+15*qfi (qdj l.length) (els ws)≤m→m≤1000→LInv l a h todo ws→
  ∃ r,Ev (fun k=>qbk.l0 k (Pred l) todo ws rs) r∧GS r∧IsLoop l a h (els r)
 | m,todo,ws,hm,hm2,I=>by
  rcases List.eq_nil_or_concat todo with rfl|⟨t,n,rfl⟩
  ·refine ⟨ws,Ev.next (Ev.const _) (fun k=>?_),I.gs,I.done⟩
   rw [qbk.l0,if_neg (by simp)]
  ·have htd:t.concat n=t++[n]:=List.concat_eq_append ..
   rw [htd] at hm I ⊢
   cases m with
   | zero=>simp at hm
   | succ m=>
    have hnr:=I.rg n (by simp)
    obtain ⟨i,rfl⟩:=Int.eq_ofNat_of_zero_le hnr.1
    have hi:i<l.length:=by omega
    have hlen:(t++[(i:Int)]).length=t.length+1:=by simp
    have c1:((t.length+1:Nat):Int)>0:=by omega
    have hlo:(-9223372036854775808:Int)≤((t.length+1:Nat):Int)-1:=by omega
    rw [hlen] at hm
    have hhi:((t.length+1:Nat):Int)-1<9223372036854775808:=by omega
    have ew:((t.length+1:Nat):Int)-1=(t.length:Int):=by omega
    have c2:(0≤(t.length:Int))=True:=eq_true (by omega)
    have c3:((t.length:Int)<((t.length+1:Nat):Int))=True:=eq_true (by omega)
    have c4:((t.length:Int)≤((t.length+1:Nat):Int))=True:=eq_true (by omega)
    have c1':=eq_true c1
    have e1:(t++[(i:Int)]).take t.length=t:=by simp
    have e2:rd (t++[(i:Int)]) (t.length:Int)=(i:Int):=by rw [qhr];simp
    have hw:wrap64 (((t.length+1:Nat):Int)-1)=(t.length:Int):=(qew hlo hhi).trans ew
    have f1:qbx.f ws (i:Int)=some (tb ws i):=by rw [Has_f I.gs.wd,decide_eq_true (by omega),Bool.true_and,Int.toNat_natCast]
    have f2:qbx.f rs (i:Int)=some (tb rs i):=by rw [Has_f hg.wd,decide_eq_true (by omega),Bool.true_and,Int.toNat_natCast]
    have hreach:tb rs i=true↔Rch (Tg l) noN 0 (i:Int):=by rw [← qdt,hrs.2];exact ⟨fun h=>h.2,fun h=>⟨by omega,h⟩⟩
    cases ht:tb ws i with
    | true=>
     obtain ⟨r,h1,h2⟩:=qhb hN hg hrs h0 m t ws (by omega) (by omega) (I.drop (.inl (qdt.2 ht)))
     refine ⟨r,Ev.next h1 (fun k=>?_),h2⟩
     rw [qbk.l0]
     simp only [hlen,c1',hw,c2,c3,c4,if_true,Int.toNat_natCast,e1,e2,Option.bind_some,f1,ht]
    | false=>
     have hnot:(i:Int)∉els ws:=fun e=>by rw [qdt,ht] at e;cases e
     cases hr:tb rs i with
     | false=>
      obtain ⟨r,h1,h2⟩:=qhb hN hg hrs h0 m t ws (by omega) (by omega) (I.drop (.inr (fun e=>by rw [← hreach,hr] at e;cases e)))
      refine ⟨r,Ev.next h1 (fun k=>?_),h2⟩
      rw [qbk.l0]
      simp only [hlen,c1',hw,c2,c3,c4,if_true,Int.toNat_natCast,e1,e2,Option.bind_some,f1,ht,f2,hr,Bool.false_eq_true,if_false]
     | true=>
      obtain ⟨ws',h1,h2,h3⟩:=With_ev I.gs i (by omega)
      have hpl:=preds_len l (i:Int)
      have hIn:(i:Int)∈els ws':=by rw [qdt,h3];simp
      have hleft:qfi (qdj l.length) (els ws')<qfi (qdj l.length) (els ws):=by
       refine Nat.lt_of_le_of_lt (leftIn_le (s:=els ws++[(i:Int)]) (fun x hx=>?_)) (leftIn_lt (qea.2 hnr) hnot)
       rcases List.mem_append.1 hx with hx|hx
       ·obtain ⟨z,rfl,hz⟩:=qek hx
        rw [qdt,h3,hz];rfl
       ·rw [List.mem_singleton.1 hx];exact hIn
      obtain ⟨r,h4,h5⟩:=qhb hN hg hrs h0 m (t++qev 0 (Succ l) (i:Int)) ws' (by rw [List.length_append];omega) (by omega) (I.add hN (hreach.1 hr) hnot h2 h3)
      have c5:(0≤(i:Int)):=by omega
      have c6:((i:Int)<((Pred l).length:Int)):=by simp [Pred];omega
      have c7:t.length+(qer (Pred l) (i:Int)).length<17592186044416:=by rw [Pred_getD hi];omega
      refine ⟨r,?_,h5⟩
      refine Ev.succ ?_
      simp only [qbk.l0,hlen,c1',hw,c2,c3,c4,if_true,Int.toNat_natCast,e1,e2,Option.bind_some,f1,ht,f2,hr,Bool.false_eq_true,if_false]
      refine Ev.bind h1 (Ev.ifp c5 (Ev.ifp c6 (Ev.ifp c7 ?_)))
      rw [Pred_getD hi]
      exact h4
theorem cloop_ev (a:Bool) (b:Int) {l:List S60} (hN:l.length≤14) (e0 e1:Int):∃ r,Ev (fun k=>qbk.f k a b l e0 e1) r∧GS r∧((⟨e0,e1⟩:S39)∈qhf l→IsLoop l e0 e1 (els r))∧((⟨e0,e1⟩:S39)∉qhf l→r=[]):=by
 by_cases h:(⟨e0,e1⟩:S39)∈qhf l
 ·obtain ⟨⟨h1,h2⟩,h3,h4⟩:=backs_mem.1 h
  have he1:0≤e1∧e1<(l.length:Int):=qdx h3
  have he0:0≤e0∧e0<(l.length:Int):=⟨h1,h2⟩
  obtain ⟨n,rfl⟩:=Int.eq_ofNat_of_zero_le he1.1
  have h0:0<l.length:=by omega
  obtain ⟨o,g1,g2,g3⟩:=Of_ev [(n:Int)] (by simp)
  obtain ⟨q,h5,h6,h7⟩:=cReach_ev a b hN 0
  have hels:∀ x,x∈els o↔x=(n:Int):=by
   intro x
   constructor
   ·intro hx
    obtain ⟨z,rfl,hz⟩:=qek hx
    have:=((g3 z).1 hz).1
    rwa [List.mem_singleton] at this
   ·rintro rfl
    rw [qdt,g3]
    exact ⟨by simp,by omega⟩
  have I:LInv l e0 (n:Int) [e0] o:=by
   refine ⟨g2,fun x hx=>by rw [List.mem_singleton.1 hx];exact he0,fun x hx=>by rw [(hels x).1 hx];exact he1,fun x hx=>.inl ((hels x).1 hx),fun x hx hne=>?_,(hels _).2 rfl,fun _=>.inr (by simp),fun y z _ h2 h3 _=>absurd ((hels z).1 h3) h2⟩
   rw [List.mem_singleton] at hx
   subst hx
   exact .refl hne
  have hleft:qfi (qdj l.length) (els o)≤l.length:=by
   unfold qfi
   refine Nat.le_trans (List.length_filter_le _ _) ?_
   simp [qdj]
  obtain ⟨r,g4,g5,g6⟩:=qhb hN h6 h7 h0 _ [e0] o (Nat.le_refl _) (by simp;omega) I
  refine ⟨r,?_,g5,fun _=>g6,fun h'=>absurd h h'⟩
  unfold qbk.f
  refine Ev.bind (cback_ev a b hN) (Ev.bind (contains_ev (backs_len hN) e0 (n:Int)) ?_)
  refine Ev.ifp (isE_any.2 h) ?_
  exact Ev.bind g1 (Ev.bind (cPred_ev a b hN) (Ev.bind h5 g4))
 ·refine ⟨[],?_,GS.nil,fun h'=>absurd h' h,fun _=>rfl⟩
  unfold qbk.f
  refine Ev.bind (cback_ev a b hN) (Ev.bind (contains_ev (backs_len hN) e0 e1) ?_)
  exact Ev.ifn (fun h'=>h (isE_any.1 h')) (Ev.const _)
end
end Go.Proofs.YtmfjmbcfaamebaaDoor.X
namespace Go.Proofs.YtmfjmbcfaamebaaDoor.X
open Go.RowKit Go.Proofs.YtmfjmbcfaamebaaDoorW.PrintWords Go.Proofs.YtmfjmbcfaamebaaDoorW.PrintLast Go.Proofs.YtmfjmbcfaamebaaDoorW.PrintMore
theorem getD_set (x:List Int) (i p:Nat) (v:Int) (hi:i<x.length):(x.set i v).getD p 0=if p=i then v else x.getD p 0:=by
 by_cases e:p=i
 ·subst e;rw [if_pos rfl,List.getD_eq_getElem?_getD,List.getElem?_set_self hi];rfl
 ·rw [if_neg e,List.getD_eq_getElem?_getD,List.getElem?_set_ne (fun h=>e h.symm),← List.getD_eq_getElem?_getD]
theorem rev_from (n:Nat) (hn:n<100000):∀ (m i:Nat) (x:List Int),n-2*i≤m→x.length=n→
  ∃ r,Ev (fun k=>qam.l0 k x (i:Int) ((n:Int)-1-(i:Int))) r∧r.length=n∧∀ p,p<n→r.getD p 0=if i≤p∧p+i+1≤n then x.getD (n-1-p) 0 else x.getD p 0:=by
 intro m
 induction m with
 | zero=>
  intro i x hm hl
  refine ⟨x,Ev.next (Ev.const x) (fun k=>?_),hl,fun p hp=>?_⟩
  ·rw [qam.l0,if_neg (by omega)]
  ·by_cases h:i≤p∧p+i+1≤n
   ·omega
   ·rw [if_neg h]
 | succ m ih=>
  intro i x hm hl
  by_cases hij:2*i+1<n
  ·have hi:i<x.length:=by omega
   have hj:n-1-i<x.length:=by omega
   obtain ⟨r,h1,h2,h3⟩:=ih (i+1) ((x.set i (x.getD (n-1-i) 0)).set (n-1-i) (x.getD i 0)) (by omega) (by simp [hl])
   refine ⟨r,Ev.next h1 (fun k=>?_),h2,fun p hp=>?_⟩
   ·have e1:((n:Int)-1-(i:Int))=((n-1-i:Nat):Int):=by omega
    have e2:((n:Int)-1-((i+1:Nat):Int))=((n-1-i:Nat):Int)-1:=by omega
    have c1:((i:Int)<((n-1-i:Nat):Int))=True:=eq_true (by omega)
    have c2:(0≤((n-1-i:Nat):Int))=True:=eq_true (by omega)
    have c3:(((n-1-i:Nat):Int)<(x.length:Int))=True:=eq_true (by omega)
    have c4:(0≤(i:Int))=True:=eq_true (by omega)
    have c5:((i:Int)<(x.length:Int))=True:=eq_true (by omega)
    have hw:=qcv (show i<9223372036854775807 by omega)
    have hb1:(-9223372036854775808:Int)≤((n-1-i:Nat):Int)-1:=by omega
    have hb2:((n-1-i:Nat):Int)-1<9223372036854775808:=by omega
    have hw2:=qew hb1 hb2
    rw [qam.l0]
    simp only [e1,e2,c1,c2,c3,c4,c5,if_true,hw,hw2,qhr,Int.toNat_natCast]
   ·rw [h3 p hp]
    have hj':n-1-i<(x.set i (x.getD (n-1-i) 0)).length:=by simpa using hj
    by_cases h:i+1≤p∧p+(i+1)+1≤n
    ·rw [if_pos h,if_pos (by omega),getD_set _ _ _ _ hj',if_neg (by omega),getD_set _ _ _ _ hi,if_neg (by omega)]
    ·rw [if_neg h,getD_set _ _ _ _ hj']
     by_cases e:p=n-1-i
     ·rw [if_pos e,if_pos (by omega),show n-1-p=i by omega]
     ·rw [if_neg e,getD_set _ _ _ _ hi]
      by_cases e2:p=i
      ·rw [if_pos e2,if_pos (by omega),e2]
      ·rw [if_neg e2,if_neg (by omega)]
  ·refine ⟨x,Ev.next (Ev.const x) (fun k=>?_),hl,fun p hp=>?_⟩
   ·rw [qam.l0,if_neg (by omega)]
   ·by_cases h:i≤p∧p+i+1≤n
    ·rw [if_pos h,show n-1-p=p by omega]
    ·rw [if_neg h]
theorem ext_getD {a b:List Int} (hl:a.length=b.length) (h:∀ p,p<a.length→a.getD p 0=b.getD p 0):a=b:=by
 refine List.ext_getElem hl (fun p h1 h2=>?_)
 have:=h p h1
 rwa [List.getD_eq_getElem?_getD,List.getD_eq_getElem?_getD,List.getElem?_eq_getElem h1,List.getElem?_eq_getElem h2] at this
theorem getD_reverse {l:List Int} {p:Nat} (hp:p<l.length):l.reverse.getD p 0=l.getD (l.length-1-p) 0:=by
 rw [List.getD_eq_getElem?_getD,List.getD_eq_getElem?_getD,List.getElem?_reverse hp]
theorem rev_ev (l:List Int) (hl:l.length<100000):Ev (fun k=>qam.f k l) l.reverse:=by
 obtain ⟨r,h1,h2,h3⟩:=rev_from l.length hl l.length 0 l (by omega) rfl
 have e:r=l.reverse:=by
  refine ext_getD (by simp [h2]) (fun p hp=>?_)
  rw [h2] at hp
  rw [h3 p hp,if_pos (by omega),getD_reverse hp]
 subst e
 refine h1.congr (fun k=>?_)
 have hb:wrap64 ((l.length:Int)-1)=(l.length:Int)-1:=qew (by omega) (by omega)
 rw [qam.f,hb,show ((l.length:Int)-1-((0:Nat):Int))=(l.length:Int)-1 by omega]
 rfl
theorem rord_from (x:List Int) (hl:x.length<100000):∀ (m i:Nat),i+m=x.length→Ev (fun k=>qaq.l0 k x (x.reverse.take i) (x.length:Int) (i:Int)) x.reverse
 | 0,i,hi=>by
  rw [List.take_of_length_le (by simp;omega)]
  refine Ev.next (Ev.const _) (fun k=>?_)
  rw [qaq.l0,if_neg (by omega)]
 | m+1,i,hi=>by
  have h:=rord_from x hl m (i+1) (by omega)
  have hir:i<x.reverse.length:=by simp;omega
  rw [List.take_succ_eq_append_getElem hir] at h
  refine Ev.next h (fun k=>?_)
  have c1:((i:Int)<(x.length:Int))=True:=eq_true (by omega)
  have c2:(0≤((x.length-1-i:Nat):Int))=True:=eq_true (by omega)
  have c3:(((x.length-1-i:Nat):Int)<(x.length:Int))=True:=eq_true (by omega)
  have c4:((x.reverse.take i).length<17592186044416)=True:=eq_true (by rw [List.length_take];omega)
  have e1:((x.length:Int)-1-(i:Int))=((x.length-1-i:Nat):Int):=by omega
  have hb1:(-9223372036854775808:Int)≤(x.length:Int)-1:=by omega
  have hb2:(x.length:Int)-1<9223372036854775808:=by omega
  have hb3:(-9223372036854775808:Int)≤(x.length:Int)-1-(i:Int):=by omega
  have hb4:(x.length:Int)-1-(i:Int)<9223372036854775808:=by omega
  have hwi:i<9223372036854775807:=by omega
  have hix:i<x.length:=by omega
  have e2:rd x ((x.length-1-i:Nat):Int)=x.reverse[i]:=by
   rw [qhr,← getD_reverse hix,List.getD_eq_getElem?_getD,List.getElem?_eq_getElem hir];rfl
  have hw:=qcv hwi
  have hw1:=qew hb1 hb2
  have hw2:=qew hb3 hb4
  rw [e1] at hw2
  rw [qaq.l0]
  simp only [c1,c2,c3,c4,if_true,hw,hw1,hw2,e1,e2]
theorem Order_ev (a:Bool) (b:Int) {l:List S60} (hN:l.length≤14):∃ p s',(l=[]∧p=[]∨l≠[]∧Dfs (Tg l) [] [0] p s')∧p.length≤l.length∧Ev (fun k=>qco.f k a b l) p.reverse∧Ev (fun k=>qaq.f k a b l) p.reverse:=by
 by_cases hl:l=[]
 ·subst hl
  refine ⟨[],[],.inl ⟨rfl,rfl⟩,by simp,(Ev.const []).congr (fun k=>?_),(Ev.const []).congr (fun k=>?_)⟩
  ·rw [qco.f,if_pos (by rfl)]
  ·rw [qaq.f,if_pos (by rfl)]
 ·have hpos:0<l.length:=List.length_pos_iff.2 hl
  obtain ⟨p,s',h1,h2⟩:=dfs_exists l [] [0] (fun t ht=>by rw [List.mem_singleton.1 ht];omega)
  refine ⟨p,s',.inr ⟨hl,h1⟩,h2,?_,?_⟩
  ·have hm:Mk l.length (List.replicate l.length false) []:=by
    refine ⟨by simp,fun x hx=>?_⟩
    rw [List.getD_eq_getElem?_getD,List.getElem?_replicate,if_pos hx]
    simp
   obtain ⟨bs',h3,_⟩:=cpost_ev a b l (x:=0) h1 hpos hm [] (by simp;omega)
   have h4:=rev_ev p (by omega)
   refine (Ev.bind h3 (g:=fun k bt=>(qam.f k bt.1).bind fun t=>some t) (Ev.bind h4 (Ev.const _))).congr (fun k=>?_)
   rw [qco.f,if_neg (by omega),if_pos (by omega),if_pos (by omega),Int.toNat_natCast]
   rfl
  ·have h3:=rvisit_ev a b l h1 (by omega) (by omega) (by simp;omega)
   have h4:=rord_from p (by omega) p.length 0 (by omega)
   refine (Ev.bind h3 (g:=fun k bt=>qaq.l0 k bt.1 [] (bt.1.length:Int) 0) h4).congr (fun k=>?_)
   rw [qaq.f,if_neg (by omega)]
end Go.Proofs.YtmfjmbcfaamebaaDoor.X
namespace Go.Proofs.YtmfjmbcfaamebaaDoor.X
noncomputable section
open Go.RowKit Go.Proofs.YtmfjmbcfaamebaaDoorW.PrintWords Go.Proofs.YtmfjmbcfaamebaaDoorW.PrintLast Go.Proofs.YtmfjmbcfaamebaaDoorW.PrintMore
theorem small_from (a:Bool) (b:Int) (l:List S60) (hl:l.length≤9223372036854775807):∀ (m i:Nat) (x:Int),i+m=l.length→∃ r,Ev (fun k=>qaw.l0 k x l (l.length:Int) (i:Int) a b l) r∧(r=true→l.length≤14)
 | 0,i,x,hi=>by
  by_cases h:l.length≤14
  ·refine ⟨decide (x≤80),Ev.next (Ev.const _) (fun k=>?_),fun _=>h⟩
   rw [qaw.l0,if_neg (by omega),if_pos (by omega)]
  ·refine ⟨false,Ev.next (Ev.const _) (fun k=>?_),fun e=>by cases e⟩
   rw [qaw.l0,if_neg (by omega),if_neg (by omega)]
 | m+1,i,x,hi=>by
  obtain ⟨r,h1,h2⟩:=small_from a b l hl m (i+1) (wrap64 (x+(((qao l (i:Int)).f0).length:Int))) (by omega)
  refine ⟨r,Ev.next h1 (fun k=>?_),h2⟩
  rw [qaw.l0,if_pos (by omega),if_pos (by omega),if_pos (by omega),qcv (show i<9223372036854775807 by omega)]
theorem small_ev (a:Bool) (b:Int) (l:List S60) (hl:l.length≤9223372036854775807):∃ r,Ev (fun k=>qaw.f k a b l) r∧(r=true→l.length≤14):=small_from a b l hl l.length 0 0 (by omega)
def ex3:List S60:=[(⟨([]:List (S85)),2,0,1,2⟩:S60),(⟨([]:List (S85)),1,0,0,0⟩:S60),(⟨([]:List (S85)),3,0,0,0⟩:S60)]
theorem qhk:ex3.length≤14:=by decide
theorem ex3_back:qci.f 40 false 0 ex3=some [⟨1,0⟩]:=by kernel_rfl
theorem ex3_order:qaq.f 40 false 0 ex3=some [0,2,1]:=by kernel_rfl
theorem ex3_imm:qcs.f 40 false 0 ex3=some [-1,0,0]:=by kernel_rfl
theorem ex3_loop:qay.f 40 false 0 ex3 1 0=some [0,1]:=by kernel_rfl
theorem backs_ex3:qhf ex3=[⟨1,0⟩]:=((rback_ev false 0 qhk).det (qci.mono _ _ _) ex3_back).symm
theorem awake_ev:Ev (fun k=>qbw.f k) true:=by
 obtain ⟨p,_,_,_,h1,h2⟩:=Order_ev false 0 qhk
 have e1:[0,2,1]=p.reverse:=h2.det (qaq.mono _ _ _) ex3_order
 rw [← e1] at h1
 have e2:[-1,0,0]=idoms ex3:=(rimm_ev false 0 qhk).det (qcs.mono _ _ _) ex3_imm
 have h3:=cimm_f false 0 qhk
 rw [← e2] at h3
 have h4:=cback_ev false 0 qhk
 rw [backs_ex3] at h4
 have hin:(⟨1,0⟩:S39)∈qhf ex3:=by rw [backs_ex3];simp
 obtain ⟨r,h5,h6,h7,_⟩:=cloop_ev false 0 qhk 1 0
 obtain ⟨r',h8,h9,_⟩:=rloop_ev false 0 qhk 1 0
 have e3:[0,1]=r':=h8.det (qay.mono _ _ _ _ _) ex3_loop
 have e4:els r=[0,1]:=by rw [e3];exact (h7 hin).uniq (h9 hin)
 have h10:qbd.f r=some (strT r):=by
  unfold qbd.f
  rw [e4,if_pos]
  exact ⟨h6.ok,by decide,by decide,by decide,by decide +kernel⟩
 have h11:((strT r).toList==([123,48,32,49,125]:List UInt8))=true:=by
  unfold strT
  rw [e4]
  kernel_rfl
 have q1:=Equal_ev [0,2,1] [0,2,1] (by decide)
 have q2:=Equal_ev [-1,0,0] [-1,0,0] (by decide)
 simp only [qbw.f,Option.bind_some]
 refine Ev.bind h4 (Ev.bind h1 (Ev.bind q1 (Ev.ifp (decide_eq_true rfl) ?_)))
 refine Ev.bind (Ev.fix h3) (Ev.bind q2 (Ev.ifp (decide_eq_true rfl) (Ev.ifp (by decide) (Ev.ifp (by decide) (Ev.ifp (by kernel_rfl) ?_)))))
 refine Ev.bind h5 ?_
 refine Ev.bind (Ev.fix h10) ?_
 rw [h11]
 exact Ev.const _
theorem law_ev {f:Nat→Option Bool} (a:Bool) (b:Int) (l:List S60) (hl:l.length≤9223372036854775807) {g:Nat→Option Bool}
  (hf:∀ k,f k=(qbw.f k).bind fun t=>if t=true then (qaw.f k a b l).bind fun t=>if t=true then g k else some true else some false) (hg:l.length≤14→Ev g true):Ev f true:=by
 obtain ⟨r,h1,h2⟩:=small_ev a b l hl
 refine Ev.congr ?_ hf
 refine Ev.bind awake_ev (Ev.ifp rfl (Ev.bind h1 ?_))
 cases r with
 | false=>exact Ev.ifn (by decide) (Ev.const _)
 | true=>exact Ev.ifp rfl (hg (h2 rfl))
theorem CFGOrder_ev (a:Bool) (b:Int) (l:List S60) (hl:l.length≤9223372036854775807):Ev (fun k=>qcp.f k a b l) true:=by
 refine law_ev a b l hl (fun k=>rfl) (fun hN=>?_)
 obtain ⟨p,_,_,h1,h2,h3⟩:=Order_ev a b hN
 have h4:=Equal_ev p.reverse p.reverse (by simp;omega)
 rw [decide_eq_true rfl] at h4
 exact Ev.bind h2 (Ev.bind h3 (Ev.bind h4 (Ev.const _)))
end
end Go.Proofs.YtmfjmbcfaamebaaDoor.X
namespace Go.Proofs.YtmfjmbcfaamebaaDoor.X
open Go.RowKit Go.Proofs.YtmfjmbcfaamebaaDoorW.PrintWords Go.Proofs.YtmfjmbcfaamebaaDoorW.PrintLast Go.Proofs.YtmfjmbcfaamebaaDoorW.PrintMore
open Go.ChangeShapes Go.WideShapes Go.ChangeAt
set_option maxRecDepth 100000 in
theorem cFGOrder_lifted (os:Os) (started:os.Started) (H:Type) (enc:TypeId×Value→H) :
  ReturnsInHanded {} Tryd.checked os 4 .any (fun w args=>(Rows.cFGOrderSpec.pre enc Tryd.prog Tryd.f4 [] false w args∧laidMetH Tryd.prog laid3 w)∧sizedMet enc Tryd.prog Tryd.f4 (OpenSpec.ofChange Rows.cFGOrderSpec) false w args)
   (Rows.cFGOrderSpec.post enc Tryd.prog Tryd.f4 false true false false):=by
 refine returnsInHanded_of_change_and (C:=Tryd.checked) (X:=fun w _=>laidMetH Tryd.prog laid3 w) (fun _ _ _ hh h=>h.of_heap hh) own started (by kernel_rfl) Tryd.func4
  (ChangeSpec.witness_shaped (enc:=enc) (C:=Tryd.checked) (os:=os) (X:=fun w _=>laidMetH Tryd.prog laid3 w) false (World.doorLaid Tryd.prog 400 os) #[.agg #[.bool false,.int .i64 0,.slice none 0 0]] 8 rfl (World.shaped_of_RefB (by kernel_rfl) (by kernel_rfl)) (by kernel_rfl) (by kernel_rfl) (by kernel_rfl) (door_met os _)) ?_
 intro W base args ds gs before hval0 hW _ _ hL _
 have hval:∀ (j:Nat) t v,Tryd.f4.params[j]?=some t→args[j]?=some v→Value.okWide Tryd.prog W .any base t v:=hval0
 have hW':=hW
 obtain ⟨p,q,hA0,hV,rfl,hfz,hnd⟩:=hW
 have hA:DataW.TrodAll enc Tryd.prog W 0 (fun _=>true) true Tryd.f4.params.toList args.toList ds p:=hA0
 rw [Tryd.params4] at hA hval
 obtain ⟨v0,vs0,d0,ds0,p0,q0,hargs,rfl,rfl,h0,r0⟩:=trodAll_cons hA
 obtain ⟨rfl,rfl,rfl⟩:=trodAll_nil r0
 obtain rfl:args=#[v0]:=by cases args;simp_all
 obtain ⟨rfl,rfl⟩:=trodVars_none hV
 have k0:=h0
 have lt0:∀ x∈p0,x.block<W.heap.size:=by obtain ⟨m,hm⟩:=k0;exact DataW.trod_lt m _ _ _ hm
 obtain ⟨a0,b0,A0,c0,l0,rfl,hc0,hr0⟩:=open_func (hval 0 24 v0 rfl rfl) h0
 have hT:=tab_of_laid hL
 obtain ⟨K,hK⟩:=CFGOrder_ev a0 b0 l0 hr0.2.1
 refine (qcp.calls K a0 b0 A0 c0 l0 true W hT hr0 hc0 (hK K (Nat.le_refl _))).mono fun e W' ⟨he,bel⟩=>?_
 subst he
 exact ⟨_,rfl,_,_,_,[],_,[],hW',trodAll_mk1 (shut_bool Tryd.underlying4 _),(trodAll_cons_mk (Below.trod laidOut (by kernel_rfl) (of_decide_eq_true (by kernel_rfl)) k0 bel lt0) trodAll_mk0),rfl,bel.frame _,fun h=>by cases h⟩
theorem cFGOrder_over:Rows.CFGOrderSaid:=
 OpenClaim.holds_of_wide 4 Tryd.f4 rfl rfl rfl rfl rfl rfl rfl ⟨rfl,rfl,rfl,rfl,rfl⟩ rfl rfl rfl rfl rfl (by kernel_rfl) Tryd.func4 (by kernel_rfl)
  (of_decide_eq_true (by kernel_rfl)) (by unfold Func.isWrapper;first|(rw [if_pos (by decide +kernel)];kernel_rfl)|(rw [if_neg (by decide +kernel)];exact ⟨rfl,rfl⟩))
  (fun os started H enc _=>cFGOrder_lifted os started H enc)
end Go.Proofs.YtmfjmbcfaamebaaDoor.X
namespace Go.Proofs.YtmfjmbcfaamebaaDoor
open Go
theorem cFGOrder_card:Rows.CFGOrderCardSaid:=
 Claim7.holds_tied_plain_at .later [] [.data,.data,.data] true (true,"c8b5de7ce23ca5823bd3b2a7e765479804d6c7690af3a87feb374392540dd41b") false
  X.cFGOrder_over (fun _ h=>by cases h) (by kernel_rfl) (fun _ h=>by cases h) cFGOrder_row_tie rfl ⟨rfl,rfl⟩ (by kernel_rfl) rfl
  (fun f fn hf hfn=>by
   obtain rfl:f=4:=Option.some.inj ((show Tryd.prog.funcNamed "trickle/tricklelaw24.CFGOrder" = some 4 by kernel_rfl).symm.trans hf)|>.symm
   obtain rfl:fn=Tryd.f4:=(Option.some.inj (Tryd.func4.symm.trans hfn)).symm
   exact ⟨by kernel_rfl,fun j t ht=>by
    rw [Tryd.params4] at ht
    have hm:t∈[24]:=by simpa using Array.mem_of_getElem? ht
    have hall:([24].all fun u=>!Tryd.prog.wantsStandIn u)=true:=by kernel_rfl
    exact (show Tryd.prog.wantsStandIn t=false by simpa using List.all_eq_true.1 hall t hm)⟩)
  (by kernel_rfl)
end Go.Proofs.YtmfjmbcfaamebaaDoor
