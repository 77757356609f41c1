/- Proved: the law CFGDominators holds of the given program: Dominators and Immediate return the dominators according to their definition. Conditions: none but the row's own cells; the listed tables of Go's library are tied to the program's text. -/
import Derived.Test.YtmfjmbcfaamebaaDoorCFGDominators14
import Derived.Test.YtmfjmbcfaamebaaDoorRows
import Derived.Test.YtmfjmbcfaamebaaDoorCards
import Derived.Test.YtmfjmbcfaamebaaDoorTie
import Derived.SevenTiedAt
set_option linter.unusedVariables false
set_option linter.unusedSimpArgs false
namespace Go.Proofs.YtmfjmbcfaamebaaDoor.X
open Go.RowKit Go.Proofs.YtmfjmbcfaamebaaDoorW.PrintWords Go.Proofs.YtmfjmbcfaamebaaDoorW.PrintLast Go.Proofs.YtmfjmbcfaamebaaDoorW.PrintMore
theorem getD_set (x:List Int) (i p:Nat) (v:Int) (hi:i<x.length):(x.set i v).getD p 0=if p=i then v else x.getD p 0:=by
 by_cases e:p=i
 ·subst e;rw [if_pos rfl,List.getD_eq_getElem?_getD,List.getElem?_set_self hi];rfl
 ·rw [if_neg e,List.getD_eq_getElem?_getD,List.getElem?_set_ne (fun h=>e h.symm),← List.getD_eq_getElem?_getD]
theorem rev_from (n:Nat) (hn:n<100000):∀ (m i:Nat) (x:List Int),n-2*i≤m→x.length=n→
  ∃ r,Ev (fun k=>qap.l0 k x (i:Int) ((n:Int)-1-(i:Int))) r∧r.length=n∧∀ p,p<n→r.getD p 0=if i≤p∧p+i+1≤n then x.getD (n-1-p) 0 else x.getD p 0:=by
 intro m
 induction m with
 | zero=>
  intro i x hm hl
  refine ⟨x,Ev.next (Ev.const x) (fun k=>?_),hl,fun p hp=>?_⟩
  ·rw [qap.l0,if_neg (by omega)]
  ·by_cases h:i≤p∧p+i+1≤n
   ·omega
   ·rw [if_neg h]
 | succ m ih=>
  intro i x hm hl
  by_cases hij:2*i+1<n
  ·have hi:i<x.length:=by omega
   have hj:n-1-i<x.length:=by omega
   obtain ⟨r,h1,h2,h3⟩:=ih (i+1) ((x.set i (x.getD (n-1-i) 0)).set (n-1-i) (x.getD i 0)) (by omega) (by simp [hl])
   refine ⟨r,Ev.next h1 (fun k=>?_),h2,fun p hp=>?_⟩
   ·have e1:((n:Int)-1-(i:Int))=((n-1-i:Nat):Int):=by omega
    have e2:((n:Int)-1-((i+1:Nat):Int))=((n-1-i:Nat):Int)-1:=by omega
    have c1:((i:Int)<((n-1-i:Nat):Int))=True:=eq_true (by omega)
    have c2:(0≤((n-1-i:Nat):Int))=True:=eq_true (by omega)
    have c3:(((n-1-i:Nat):Int)<(x.length:Int))=True:=eq_true (by omega)
    have c4:(0≤(i:Int))=True:=eq_true (by omega)
    have c5:((i:Int)<(x.length:Int))=True:=eq_true (by omega)
    have hw:=qcz (show i<9223372036854775807 by omega)
    have hb1:(-9223372036854775808:Int)≤((n-1-i:Nat):Int)-1:=by omega
    have hb2:((n-1-i:Nat):Int)-1<9223372036854775808:=by omega
    have hw2:=qfi hb1 hb2
    rw [qap.l0]
    simp only [e1,e2,c1,c2,c3,c4,c5,if_true,hw,hw2,qhy,Int.toNat_natCast]
   ·rw [h3 p hp]
    have hj':n-1-i<(x.set i (x.getD (n-1-i) 0)).length:=by simpa using hj
    by_cases h:i+1≤p∧p+(i+1)+1≤n
    ·rw [if_pos h,if_pos (by omega),getD_set _ _ _ _ hj',if_neg (by omega),getD_set _ _ _ _ hi,if_neg (by omega)]
    ·rw [if_neg h,getD_set _ _ _ _ hj']
     by_cases e:p=n-1-i
     ·rw [if_pos e,if_pos (by omega),show n-1-p=i by omega]
     ·rw [if_neg e,getD_set _ _ _ _ hi]
      by_cases e2:p=i
      ·rw [if_pos e2,if_pos (by omega),e2]
      ·rw [if_neg e2,if_neg (by omega)]
  ·refine ⟨x,Ev.next (Ev.const x) (fun k=>?_),hl,fun p hp=>?_⟩
   ·rw [qap.l0,if_neg (by omega)]
   ·by_cases h:i≤p∧p+i+1≤n
    ·rw [if_pos h,show n-1-p=p by omega]
    ·rw [if_neg h]
theorem ext_getD {a b:List Int} (hl:a.length=b.length) (h:∀ p,p<a.length→a.getD p 0=b.getD p 0):a=b:=by
 refine List.ext_getElem hl (fun p h1 h2=>?_)
 have:=h p h1
 rwa [List.getD_eq_getElem?_getD,List.getD_eq_getElem?_getD,List.getElem?_eq_getElem h1,List.getElem?_eq_getElem h2] at this
theorem getD_reverse {l:List Int} {p:Nat} (hp:p<l.length):l.reverse.getD p 0=l.getD (l.length-1-p) 0:=by
 rw [List.getD_eq_getElem?_getD,List.getD_eq_getElem?_getD,List.getElem?_reverse hp]
theorem rev_ev (l:List Int) (hl:l.length<100000):Ev (fun k=>qap.f k l) l.reverse:=by
 obtain ⟨r,h1,h2,h3⟩:=rev_from l.length hl l.length 0 l (by omega) rfl
 have e:r=l.reverse:=by
  refine ext_getD (by simp [h2]) (fun p hp=>?_)
  rw [h2] at hp
  rw [h3 p hp,if_pos (by omega),getD_reverse hp]
 subst e
 refine h1.congr (fun k=>?_)
 have hb:wrap64 ((l.length:Int)-1)=(l.length:Int)-1:=qfi (by omega) (by omega)
 rw [qap.f,hb,show ((l.length:Int)-1-((0:Nat):Int))=(l.length:Int)-1 by omega]
 rfl
theorem rord_from (x:List Int) (hl:x.length<100000):∀ (m i:Nat),i+m=x.length→Ev (fun k=>qbl.l0 k x (x.reverse.take i) (x.length:Int) (i:Int)) x.reverse
 | 0,i,hi=>by
  rw [List.take_of_length_le (by simp;omega)]
  refine Ev.next (Ev.const _) (fun k=>?_)
  rw [qbl.l0,if_neg (by omega)]
 | m+1,i,hi=>by
  have h:=rord_from x hl m (i+1) (by omega)
  have hir:i<x.reverse.length:=by simp;omega
  rw [List.take_succ_eq_append_getElem hir] at h
  refine Ev.next h (fun k=>?_)
  have c1:((i:Int)<(x.length:Int))=True:=eq_true (by omega)
  have c2:(0≤((x.length-1-i:Nat):Int))=True:=eq_true (by omega)
  have c3:(((x.length-1-i:Nat):Int)<(x.length:Int))=True:=eq_true (by omega)
  have c4:((x.reverse.take i).length<17592186044416)=True:=eq_true (by rw [List.length_take];omega)
  have e1:((x.length:Int)-1-(i:Int))=((x.length-1-i:Nat):Int):=by omega
  have hb1:(-9223372036854775808:Int)≤(x.length:Int)-1:=by omega
  have hb2:(x.length:Int)-1<9223372036854775808:=by omega
  have hb3:(-9223372036854775808:Int)≤(x.length:Int)-1-(i:Int):=by omega
  have hb4:(x.length:Int)-1-(i:Int)<9223372036854775808:=by omega
  have hwi:i<9223372036854775807:=by omega
  have hix:i<x.length:=by omega
  have e2:rd x ((x.length-1-i:Nat):Int)=x.reverse[i]:=by
   rw [qhy,← getD_reverse hix,List.getD_eq_getElem?_getD,List.getElem?_eq_getElem hir];rfl
  have hw:=qcz hwi
  have hw1:=qfi hb1 hb2
  have hw2:=qfi hb3 hb4
  rw [e1] at hw2
  rw [qbl.l0]
  simp only [c1,c2,c3,c4,if_true,hw,hw1,hw2,e1,e2]
theorem Order_ev (a:Bool) (b:Int) {l:List S60} (hN:l.length≤14):∃ p s',(l=[]∧p=[]∨l≠[]∧Dfs (Tg l) [] [0] p s')∧p.length≤l.length∧Ev (fun k=>qdl.f k a b l) p.reverse∧Ev (fun k=>qbl.f k a b l) p.reverse:=by
 by_cases hl:l=[]
 ·subst hl
  refine ⟨[],[],.inl ⟨rfl,rfl⟩,by simp,(Ev.const []).congr (fun k=>?_),(Ev.const []).congr (fun k=>?_)⟩
  ·rw [qdl.f,if_pos (by rfl)]
  ·rw [qbl.f,if_pos (by rfl)]
 ·have hpos:0<l.length:=List.length_pos_iff.2 hl
  obtain ⟨p,s',h1,h2⟩:=dfs_exists l [] [0] (fun t ht=>by rw [List.mem_singleton.1 ht];omega)
  refine ⟨p,s',.inr ⟨hl,h1⟩,h2,?_,?_⟩
  ·have hm:Mk l.length (List.replicate l.length false) []:=by
    refine ⟨by simp,fun x hx=>?_⟩
    rw [List.getD_eq_getElem?_getD,List.getElem?_replicate,if_pos hx]
    simp
   obtain ⟨bs',h3,_⟩:=cpost_ev a b l (x:=0) h1 hpos hm [] (by simp;omega)
   have h4:=rev_ev p (by omega)
   refine (Ev.bind h3 (g:=fun k bt=>(qap.f k bt.1).bind fun t=>some t) (Ev.bind h4 (Ev.const _))).congr (fun k=>?_)
   rw [qdl.f,if_neg (by omega),if_pos (by omega),if_pos (by omega),Int.toNat_natCast]
   rfl
  ·have h3:=rvisit_ev a b l h1 (by omega) (by omega) (by simp;omega)
   have h4:=rord_from p (by omega) p.length 0 (by omega)
   refine (Ev.bind h3 (g:=fun k bt=>qbl.l0 k bt.1 [] (bt.1.length:Int) 0) h4).congr (fun k=>?_)
   rw [qbl.f,if_neg (by omega)]
end Go.Proofs.YtmfjmbcfaamebaaDoor.X
namespace Go.Proofs.YtmfjmbcfaamebaaDoor.X
noncomputable section
open Go.RowKit Go.Proofs.YtmfjmbcfaamebaaDoorW.PrintWords Go.Proofs.YtmfjmbcfaamebaaDoorW.PrintLast Go.Proofs.YtmfjmbcfaamebaaDoorW.PrintMore
theorem small_from (a:Bool) (b:Int) (l:List S60) (hl:l.length≤9223372036854775807):∀ (m i:Nat) (x:Int),i+m=l.length→∃ r,Ev (fun k=>qas.l0 k x l (l.length:Int) (i:Int) a b l) r∧(r=true→l.length≤14)
 | 0,i,x,hi=>by
  by_cases h:l.length≤14
  ·refine ⟨decide (x≤80),Ev.next (Ev.const _) (fun k=>?_),fun _=>h⟩
   rw [qas.l0,if_neg (by omega),if_pos (by omega)]
  ·refine ⟨false,Ev.next (Ev.const _) (fun k=>?_),fun e=>by cases e⟩
   rw [qas.l0,if_neg (by omega),if_neg (by omega)]
 | m+1,i,x,hi=>by
  obtain ⟨r,h1,h2⟩:=small_from a b l hl m (i+1) (wrap64 (x+(((qar l (i:Int)).f0).length:Int))) (by omega)
  refine ⟨r,Ev.next h1 (fun k=>?_),h2⟩
  rw [qas.l0,if_pos (by omega),if_pos (by omega),if_pos (by omega),qcz (show i<9223372036854775807 by omega)]
theorem small_ev (a:Bool) (b:Int) (l:List S60) (hl:l.length≤9223372036854775807):∃ r,Ev (fun k=>qas.f k a b l) r∧(r=true→l.length≤14):=small_from a b l hl l.length 0 0 (by omega)
def ex3:List S60:=[(⟨([]:List (S85)),2,0,1,2⟩:S60),(⟨([]:List (S85)),1,0,0,0⟩:S60),(⟨([]:List (S85)),3,0,0,0⟩:S60)]
theorem qhx:ex3.length≤14:=by decide
theorem ex3_back:qcm.f 40 false 0 ex3=some [⟨1,0⟩]:=by kernel_rfl
theorem ex3_order:qbl.f 40 false 0 ex3=some [0,2,1]:=by kernel_rfl
theorem ex3_imm:qbw.f 40 false 0 ex3=some [-1,0,0]:=by kernel_rfl
theorem ex3_loop:qaw.f 40 false 0 ex3 1 0=some [0,1]:=by kernel_rfl
theorem backs_ex3:qhs ex3=[⟨1,0⟩]:=((rback_ev false 0 qhx).det (qcm.mono _ _ _) ex3_back).symm
theorem awake_ev:Ev (fun k=>qbp.f k) true:=by
 obtain ⟨p,_,_,_,h1,h2⟩:=Order_ev false 0 qhx
 have e1:[0,2,1]=p.reverse:=h2.det (qbl.mono _ _ _) ex3_order
 rw [← e1] at h1
 have e2:[-1,0,0]=idoms ex3:=(rimm_ev false 0 qhx).det (qbw.mono _ _ _) ex3_imm
 have h3:=cimm_f false 0 qhx
 rw [← e2] at h3
 have h4:=cback_ev false 0 qhx
 rw [backs_ex3] at h4
 have hin:(⟨1,0⟩:S39)∈qhs ex3:=by rw [backs_ex3];simp
 obtain ⟨r,h5,h6,h7,_⟩:=cloop_ev false 0 qhx 1 0
 obtain ⟨r',h8,h9,_⟩:=rloop_ev false 0 qhx 1 0
 have e3:[0,1]=r':=h8.det (qaw.mono _ _ _ _ _) ex3_loop
 have e4:els r=[0,1]:=by rw [e3];exact (h7 hin).uniq (h9 hin)
 have h10:qbj.f r=some (strT r):=by
  unfold qbj.f
  rw [e4,if_pos]
  exact ⟨h6.ok,by decide,by decide,by decide,by decide +kernel⟩
 have h11:((strT r).toList==([123,48,32,49,125]:List UInt8))=true:=by
  unfold strT
  rw [e4]
  kernel_rfl
 have q1:=Equal_ev [0,2,1] [0,2,1] (by decide)
 have q2:=Equal_ev [-1,0,0] [-1,0,0] (by decide)
 simp only [qbp.f,Option.bind_some]
 refine Ev.bind h4 (Ev.bind h1 (Ev.bind q1 (Ev.ifp (decide_eq_true rfl) ?_)))
 refine Ev.bind (Ev.fix h3) (Ev.bind q2 (Ev.ifp (decide_eq_true rfl) (Ev.ifp (by decide) (Ev.ifp (by decide) (Ev.ifp (by kernel_rfl) ?_)))))
 refine Ev.bind h5 ?_
 refine Ev.bind (Ev.fix h10) ?_
 rw [h11]
 exact Ev.const _
theorem list_f {ws:List Int} (hw:GS ws) (hl:(els ws).length<100000):qcq.f ws=some (els ws):=by
 unfold qcq.f
 rw [if_pos ⟨hw.ok,hl⟩]
theorem law_ev {f:Nat→Option Bool} (a:Bool) (b:Int) (l:List S60) (hl:l.length≤9223372036854775807) {g:Nat→Option Bool}
  (hf:∀ k,f k=(qbp.f k).bind fun t=>if t=true then (qas.f k a b l).bind fun t=>if t=true then g k else some true else some false) (hg:l.length≤14→Ev g true):Ev f true:=by
 obtain ⟨r,h1,h2⟩:=small_ev a b l hl
 refine Ev.congr ?_ hf
 refine Ev.bind awake_ev (Ev.ifp rfl (Ev.bind h1 ?_))
 cases r with
 | false=>exact Ev.ifn (by decide) (Ev.const _)
 | true=>exact Ev.ifp rfl (hg (h2 rfl))
end
end Go.Proofs.YtmfjmbcfaamebaaDoor.X
namespace Go.Proofs.YtmfjmbcfaamebaaDoor.X
noncomputable section
open Go.RowKit Go.Proofs.YtmfjmbcfaamebaaDoorW.PrintWords Go.Proofs.YtmfjmbcfaamebaaDoorW.PrintLast Go.Proofs.YtmfjmbcfaamebaaDoorW.PrintMore
theorem rdL6 (A:List (List Int)) (i:Nat):qeh A (i:Int)=A.getD i []:=by unfold qeh;rw [Int.toNat_natCast]
theorem eq_true_ev {a:List Int} (h:a.length<4611686018427387904):Ev (fun k=>qak.f k a a) true:=by
 have:=Equal_ev a a h
 rwa [decide_eq_true rfl] at this
theorem idoms_length (l:List S60):(idoms l).length=l.length:=by simp [idoms]
theorem qgu (a:Bool) (b:Int) {l:List S60} (hN:l.length≤14) {dom:List S38} (hl:dom.length=l.length) (hd:∀ n:Nat,n<l.length→GS (qco dom (n:Int)).f0∧els (qco dom (n:Int)).f0=qbu l (n:Int)) :
  ∀ (m i:Nat),i+m=l.length→Ev (fun k=>qam.l0 k dom (qdv l) (l.length:Int) (i:Int) a b l) true
 | 0,i,hi=>by
  refine Ev.succ ?_
  have c1:((i:Int)<(l.length:Int))=False:=eq_false (by omega)
  simp only [qam.l0,c1,if_false]
  refine Ev.bind (Ev.fix (cimm_f a b hN)) (Ev.bind (rimm_ev a b hN) (Ev.bind (eq_true_ev (by rw [idoms_length];omega)) (Ev.const _)))
 | m+1,i,hi=>by
  have h1:i<l.length:=by omega
  obtain ⟨h2,h3⟩:=hd i h1
  have hlen:=qgh l (i:Int)
  have h4:qcq.f (qco dom (i:Int)).f0=some (qbu l (i:Int)):=by rw [list_f h2 (by rw [h3];omega),h3]
  have h5:qeh (qdv l) (i:Int)=qbu l (i:Int):=by rw [rdL6,qfh h1]
  have h6:(qdv l).length=l.length:=by simp [qdv]
  have c1:((i:Int)<(l.length:Int))=True:=eq_true (by omega)
  have c2:(0≤(i:Int))=True:=eq_true (by omega)
  have hw:=qcz (show i<9223372036854775807 by omega)
  refine Ev.succ ?_
  simp only [qam.l0,hl,h6,c1,c2,if_true,h4,h5,hw,Option.bind_some]
  exact Ev.bind (eq_true_ev (by omega)) (Ev.ifp rfl (qgu a b hN hl hd m (i+1) (by omega)))
theorem CFGDominators_ev (a:Bool) (b:Int) (l:List S60) (hl:l.length≤9223372036854775807):Ev (fun k=>qam.f k a b l) true:=by
 refine law_ev a b l hl (fun k=>rfl) (fun hN=>?_)
 obtain ⟨dom,h1,h2,h3⟩:=cdom_f a b hN
 have h6:(qdv l).length=l.length:=by simp [qdv]
 have h7:((dom.length:Int)=((qdv l).length:Int)):=by rw [h2,h6]
 refine Ev.bind (Ev.fix h1) (Ev.bind (rdom_ev a b hN) (Ev.ifp h7 ?_))
 rw [h6]
 exact qgu a b hN h2 h3 l.length 0 (by omega)
end
end Go.Proofs.YtmfjmbcfaamebaaDoor.X
namespace Go.Proofs.YtmfjmbcfaamebaaDoor.X
open Go.RowKit Go.Proofs.YtmfjmbcfaamebaaDoorW.PrintWords Go.Proofs.YtmfjmbcfaamebaaDoorW.PrintLast Go.Proofs.YtmfjmbcfaamebaaDoorW.PrintMore
open Go.ChangeShapes Go.WideShapes Go.ChangeAt
set_option maxRecDepth 100000 in
theorem cFGDominators_lifted (os:Os) (started:os.Started) (H:Type) (enc:TypeId×Value→H) :
  ReturnsInHanded {} Tryd.checked os 5 .any (fun w args=>(Rows.cFGDominatorsSpec.pre enc Tryd.prog Tryd.f5 [] false w args∧laidMetH Tryd.prog laid3 w)∧sizedMet enc Tryd.prog Tryd.f5 (OpenSpec.ofChange Rows.cFGDominatorsSpec) false w args)
   (Rows.cFGDominatorsSpec.post enc Tryd.prog Tryd.f5 false true false false):=by
 refine returnsInHanded_of_change_and (C:=Tryd.checked) (X:=fun w _=>laidMetH Tryd.prog laid3 w) (fun _ _ _ hh h=>h.of_heap hh) own started (by kernel_rfl) Tryd.func5
  (ChangeSpec.witness_shaped (enc:=enc) (C:=Tryd.checked) (os:=os) (X:=fun w _=>laidMetH Tryd.prog laid3 w) false (World.doorLaid Tryd.prog 400 os) #[.agg #[.bool false,.int .i64 0,.slice none 0 0]] 8 rfl (World.shaped_of_RefB (by kernel_rfl) (by kernel_rfl)) (by kernel_rfl) (by kernel_rfl) (by kernel_rfl) (door_met os _)) ?_
 intro W base args ds gs before hval0 hW _ _ hL _
 have hval:∀ (j:Nat) t v,Tryd.f5.params[j]?=some t→args[j]?=some v→Value.okWide Tryd.prog W .any base t v:=hval0
 have hW':=hW
 obtain ⟨p,q,hA0,hV,rfl,hfz,hnd⟩:=hW
 have hA:DataW.TrodAll enc Tryd.prog W 0 (fun _=>true) true Tryd.f5.params.toList args.toList ds p:=hA0
 rw [Tryd.params5] at hA hval
 obtain ⟨v0,vs0,d0,ds0,p0,q0,hargs,rfl,rfl,h0,r0⟩:=trodAll_cons hA
 obtain ⟨rfl,rfl,rfl⟩:=trodAll_nil r0
 obtain rfl:args=#[v0]:=by cases args;simp_all
 obtain ⟨rfl,rfl⟩:=trodVars_none hV
 have k0:=h0
 have lt0:∀ x∈p0,x.block<W.heap.size:=by obtain ⟨m,hm⟩:=k0;exact DataW.trod_lt m _ _ _ hm
 obtain ⟨a0,b0,A0,c0,l0,rfl,hc0,hr0⟩:=open_func (hval 0 24 v0 rfl rfl) h0
 have hT:=tab_of_laid hL
 obtain ⟨K,hK⟩:=CFGDominators_ev a0 b0 l0 hr0.2.1
 refine (qam.calls K a0 b0 A0 c0 l0 true W hT hr0 hc0 (hK K (Nat.le_refl _))).mono fun e W' ⟨he,bel⟩=>?_
 subst he
 exact ⟨_,rfl,_,_,_,[],_,[],hW',trodAll_mk1 (shut_bool Tryd.underlying4 _),(trodAll_cons_mk (Below.trod laidOut (by kernel_rfl) (of_decide_eq_true (by kernel_rfl)) k0 bel lt0) trodAll_mk0),rfl,bel.frame _,fun h=>by cases h⟩
theorem cFGDominators_over:Rows.CFGDominatorsSaid:=
 OpenClaim.holds_of_wide 5 Tryd.f5 rfl rfl rfl rfl rfl rfl rfl ⟨rfl,rfl,rfl,rfl,rfl⟩ rfl rfl rfl rfl rfl (by kernel_rfl) Tryd.func5 (by kernel_rfl)
  (of_decide_eq_true (by kernel_rfl)) (by unfold Func.isWrapper;first|(rw [if_pos (by decide +kernel)];kernel_rfl)|(rw [if_neg (by decide +kernel)];exact ⟨rfl,rfl⟩))
  (fun os started H enc _=>cFGDominators_lifted os started H enc)
end Go.Proofs.YtmfjmbcfaamebaaDoor.X
namespace Go.Proofs.YtmfjmbcfaamebaaDoor
open Go
theorem cFGDominators_card:Rows.CFGDominatorsCardSaid:=
 Claim7.holds_tied_plain_at .later [] [.data,.data,.data] true (true,"c8b5de7ce23ca5823bd3b2a7e765479804d6c7690af3a87feb374392540dd41b") false
  X.cFGDominators_over (fun _ h=>by cases h) (by kernel_rfl) (fun _ h=>by cases h) cFGDominators_row_tie rfl ⟨rfl,rfl⟩ (by kernel_rfl) rfl
  (fun f fn hf hfn=>by
   obtain rfl:f=5:=Option.some.inj ((show Tryd.prog.funcNamed "trickle/tricklelaw24.CFGDominators" = some 5 by kernel_rfl).symm.trans hf)|>.symm
   obtain rfl:fn=Tryd.f5:=(Option.some.inj (Tryd.func5.symm.trans hfn)).symm
   exact ⟨by kernel_rfl,fun j t ht=>by
    rw [Tryd.params5] at ht
    have hm:t∈[24]:=by simpa using Array.mem_of_getElem? ht
    have hall:([24].all fun u=>!Tryd.prog.wantsStandIn u)=true:=by kernel_rfl
    exact (show Tryd.prog.wantsStandIn t=false by simpa using List.all_eq_true.1 hall t hm)⟩)
  (by kernel_rfl)
end Go.Proofs.YtmfjmbcfaamebaaDoor
