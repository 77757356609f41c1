/- Parts of the proof of the law CFGDominators: words, walks of single functions and plain laws, joined by a program out of the session's texts. -/
import Derived.Test.YtmfjmbcfaamebaaDoorCFGDominators3
import Derived.RangeFuncNested
import Derived.RangeFuncBound
import Derived.RangeFuncCalls
import Derived.RangeFuncLeaves
import Derived.RangeFuncOne
import Derived.Shelf.Abstract
import Derived.Shelf.RegionOpen
import Derived.OwnWalkIn
import Derived.TacticsInMore
import Derived.LoopNIn
import Derived.LoopIn
import Derived.Lib.Hide
import Derived.Lib.TrailingZeros
import Derived.Laws.Bits64b
set_option linter.unusedVariables false
set_option linter.unusedSimpArgs false
namespace Go.Proofs.YtmfjmbcfaamebaaDoor.X
open Go.RowKit Go.Proofs.YtmfjmbcfaamebaaDoorW.PrintWords Go.Proofs.YtmfjmbcfaamebaaDoorW.PrintLast Go.Proofs.YtmfjmbcfaamebaaDoorW.PrintMore
attribute [local go_sem] qbs qcb
set_option linter.unusedVariables false
set_option linter.unusedSimpArgs false
def qdl.f (k:Nat) (a0_0:Bool) (a0_1:Int) (l0_2:List (S60)):Option (List Int):=if (l0_2.length:Int)=0 then (some ([]:List Int)) else (if 0≤(l0_2.length:Int) then (if ((l0_2.length:Int):Int).toNat≤281474976710656 then ((qat.f k a0_0 a0_1 l0_2 0 (List.replicate ((l0_2.length:Int):Int).toNat false) ([]:List Int)).bind fun bt351=>((qap.f k bt351.1).bind fun t355=>(some t355))) else (none)) else (none))
theorem qdl.mono:∀ a0 a1 a2 k,LeO (qdl.f k a0 a1 a2) (qdl.f (k+1) a0 a1 a2):=by
 intro a0 a1 a2 k
 unfold qdl.f
 repeat' first|(with_reducible exact qat.mono _ _ _ _ _ _ _)|(with_reducible exact qap.mono _ _)|(with_reducible exact LeO.refl _)|(with_reducible refine LeO.ite ?_ ?_)|(with_reducible refine LeO.bind ?_ (fun _=>?_))
set_option maxHeartbeats 8000000 in
set_option maxRecDepth 100000 in
theorem qdl.calls (k:Nat) (a0_0:Bool) (a0_1:Int) (A0_2:Option Addr) (c0_2:Nat) (l0_2:List (S60)) (r:List Int) (w:World) (hr0_2:Kd.C k60 w A0_2 l0_2.length l0_2) (hc0_2:l0_2.length≤c0_2) (h:qdl.f k a0_0 a0_1 l0_2=some r) :
  Calls Tryd.prog 19 #[.agg #[.bool a0_0,.int .i64 a0_1,.slice A0_2 l0_2.length c0_2]] w fun e w'=>∃ v0_:Value,e=.returned (v0_)∧Kd.R (Kd.int .i64) 3 w' w.heap.size (fun _=>True) v0_ r∧Below w.heap.size w w':=by
 have hu24:=Tryd.underlying24
 have HR0_2:=qaa.mk hr0_2
 have HC0_2:=qaa.mk hc0_2
 clear hr0_2 hc0_2
 have HB:=qaa.mk (Below.refl w.heap.size w)
 have H:(if (l0_2.length:Int)=0 then (some ([]:List Int)) else (if 0≤(l0_2.length:Int) then (if ((l0_2.length:Int):Int).toNat≤281474976710656 then ((qat.f k a0_0 a0_1 l0_2 0 (List.replicate ((l0_2.length:Int):Int).toNat false) ([]:List Int)).bind fun bt351=>((qap.f k bt351.1).bind fun t355=>(some t355))) else (none)) else (none)))=some r:=h
 clear h
 by_cases c2:(l0_2.length:Int)=0
 ·rw [if_pos c2] at H
  have c2b0:((l0_2.length:Int)==0)=true:=beq_iff_eq.mpr c2
  have c2b1:((l0_2.length:Int)!=0)=false:=bne_eq_false_iff_eq.mpr c2
  clear c2
  obtain rfl:=Option.some.inj H
  go_enter Tryd.func19,Tryd.ntmps19
  go_wp2_with (((with_reducible refine qbf (N:=1) rfl ?_);refine qbr ?hg (N:=1) ?hd (cs:=#[.bool a0_0,.int .i64 a0_1,.slice A0_2 l0_2.length c0_2]) (t:=24) ?hr ?_;(case hd=>rfl);(case hg=>rfl);(case hr=>(go_simp;done));intro gb347 hg w3 hbox hb;have BK347:=qaa.mk (hbox);have GW347:=qaa.mk ((by rw [hg];exact (qac HB.out):w.heap.size≤gb347));have GE347:=qaa.mk ((by rw [hg];exact (qac HB.out):w.heap.size≤gb347));replace HB:=qaa.mk (qal HB.out hb);clear hb hbox hg;have hcz4_0:w3.cell? ⟨gb347,0,none⟩=some (.bool a0_0):=(qad BK347.out 0).trans rfl;have hcz4_1:w3.cell? ⟨gb347,1,none⟩=some (.int .i64 a0_1):=(qad BK347.out 1).trans rfl;have hcz4_2:w3.cell? ⟨gb347,2,none⟩=some (.slice A0_2 l0_2.length c0_2):=(qad BK347.out 2).trans rfl;have hfz4_0:=qaf BK347.out 0;have hfz4_1:=qaf BK347.out 1;have hfz4_2:=qaf BK347.out 2))
  go_ret
  exact ⟨_,by rfl,by exact Kd.R_nil _ _ _ _ _,by repeat ((with_reducible exact HB.out))⟩
 ·rw [if_neg c2] at H
  have c2b0:((l0_2.length:Int)==0)=false:=beq_eq_false_iff_ne.mpr c2
  have c2b1:((l0_2.length:Int)!=0)=true:=bne_iff_ne.mpr c2
  have c2b2:¬ (l0_2=[]):=fun h_=>c2 (by rw [h_];rfl)
  by_cases c5:0≤(l0_2.length:Int)
  ·rw [if_pos c5] at H
   have c5b0:=eq_true c5
   have c5b1:decide (0≤(l0_2.length:Int))=true:=decide_eq_true c5
   clear c5
   by_cases c6:((l0_2.length:Int):Int).toNat≤281474976710656
   ·rw [if_pos c6] at H
    have c6b0:=eq_true c6
    have c6b1:decide (((l0_2.length:Int):Int).toNat≤281474976710656)=true:=decide_eq_true c6
    clear c6
    obtain ⟨y348,hy348⟩:∃ y_:List Bool,y_=(List.replicate ((l0_2.length:Int):Int).toNat false):=⟨_,rfl⟩
    replace H:((qat.f k a0_0 a0_1 l0_2 0 y348 ([]:List Int)).bind fun bt351=>((qap.f k bt351.1).bind fun t355=>(some t355)))=some r:=by (rw [hy348];with_reducible exact H)
    have Ny348:=qaa.mk hy348
    clear hy348
    replace H:=Option.bind_eq_some_iff.mp H
    obtain ⟨⟨t351,t354⟩,A70,H⟩:=H
    replace H:((qap.f k t351).bind fun t355=>(some t355))=some r:=H
    have A7:=qaa.mk A70
    clear A70
    replace H:=Option.bind_eq_some_iff.mp H
    obtain ⟨t355,A80,H⟩:=H
    replace H:(some t355)=some r:=H
    have A8:=qaa.mk A80
    clear A80
    obtain rfl:=Option.some.inj H
    go_enter Tryd.func19,Tryd.ntmps19
    try go_wp2_with (((with_reducible refine qbf (N:=1) rfl ?_);refine qbr ?hg (N:=1) ?hd (cs:=#[.bool a0_0,.int .i64 a0_1,.slice A0_2 l0_2.length c0_2]) (t:=24) ?hr ?_;(case hd=>rfl);(case hg=>rfl);(case hr=>(go_simp;done));intro gb347 hg w9 hbox hb;have BK347:=qaa.mk (hbox);have GW347:=qaa.mk ((by rw [hg];exact (qac HB.out):w.heap.size≤gb347));have GE347:=qaa.mk ((by rw [hg];exact (qac HB.out):w.heap.size≤gb347));replace HB:=qaa.mk (qal HB.out hb);clear hb hbox hg;have hcz10_0:w9.cell? ⟨gb347,0,none⟩=some (.bool a0_0):=(qad BK347.out 0).trans rfl;have hcz10_1:w9.cell? ⟨gb347,1,none⟩=some (.int .i64 a0_1):=(qad BK347.out 1).trans rfl;have hcz10_2:w9.cell? ⟨gb347,2,none⟩=some (.slice A0_2 l0_2.length c0_2):=(qad BK347.out 2).trans rfl;have hfz10_0:=qaf BK347.out 0;have hfz10_1:=qaf BK347.out 1;have hfz10_2:=qaf BK347.out 2))
    have n0_:=qaa.mk (qab BK347.out)
    have n1_:=qaa.mk (qdb HB.out)
    clear BK347
    clear HB
    have BK347:=n0_
    have HB:=n1_
    clear n0_ n1_
    refine qfb (n:=7) (S:=fun w'=>w'.cell? ⟨gb347,0,none⟩=some (.bool a0_0)∧w'.cell? ⟨gb347,1,none⟩=some (.int .i64 a0_1)∧w'.cell? ⟨gb347,2,none⟩=some (.slice A0_2 l0_2.length c0_2)) (ds:=[]) #[false,false,false,false,false,false,false] (by kernel_rfl) rfl rfl ⟨(qad BK347.out 0).trans rfl,(qad BK347.out 1).trans rfl,(qad BK347.out 2).trans rfl⟩ (fun hHeld=>?_)
    generalize w9.drew=w11 at BK347 HB hHeld ⊢
    refine qct (i:=1) (N:=some 9) (v:=?_) (a':=?_) #[false,true,false,false,false,false,false] rfl rfl (by kernel_rfl) (fun _ _ _ h=>h) (Or.inl ⟨by rfl,?_⟩) ?_ ?_
    rotate_left
    ·intro w'
     go_simp
     with_reducible rfl
    rotate_left
    ·simp only [Act.put,List.setIfInBounds_toArray,List.set_cons_zero,List.set_cons_succ,qbk,qbm]
     rfl
    refine take_ (i:=0) (N:=some 8) (v:=?_) (a':=?_) #[true,true,false,false,false,false,false] rfl rfl (by kernel_rfl) (fun _ _ _ h=>h) (Or.inl ⟨by rfl,?_⟩) hHeld ?_ ?_
    rotate_left
    ·rintro w' ⟨s0,s1,s2⟩
     go_simp
     with_reducible rfl
    rotate_left
    ·simp only [Act.put,List.setIfInBounds_toArray,List.set_cons_zero,List.set_cons_succ,qbk,qbm]
     rfl
    refine take_ (i:=2) (N:=some 10) (v:=?_) (a':=?_) #[true,true,true,false,false,false,false] rfl rfl (by kernel_rfl) (fun _ _ _ h=>h) (Or.inl ⟨by rfl,?_⟩) hHeld ?_ ?_
    rotate_left
    ·rintro w' ⟨s0,s1,s2⟩
     go_simp
     with_reducible rfl
    rotate_left
    ·simp only [Act.put,List.setIfInBounds_toArray,List.set_cons_zero,List.set_cons_succ,qbk,qbm]
     rfl
    refine qct (i:=3) (N:=some 11) (v:=?_) (a':=?_) #[true,true,true,true,false,false,false] rfl rfl (by kernel_rfl) (fun _ _ _ h=>h) (Or.inl ⟨by rfl,?_⟩) ?_ ?_
    rotate_left
    ·intro w'
     go_simp
     with_reducible rfl
    rotate_left
    ·simp only [Act.put,List.setIfInBounds_toArray,List.set_cons_zero,List.set_cons_succ,qbk,qbm]
     rfl
    refine one_ (i:=4) (N:=some 12) #[true,true,true,true,true,false,false] rfl rfl (by kernel_rfl) (by decide) (fun K hK=>?_)
    refine Kd.R_make_step Kd.bool _ 4 (by rfl) (N:=12) rfl 47 _ _ rfl (l0_2.length:Int) rfl rfl Tryd.underlying47 (.bool false) 1 info4 rfl (by decide) (by omega) false (ok:=fun _=>True) (okp:=fun _=>True) rfl (fun _ hk=>hk) trivial (of_decide_eq_true (by (with_reducible assumption))) (Nat.le_trans (Nat.mul_le_mul_right _ (of_decide_eq_true (by (with_reducible assumption)):(l0_2.length:Int).toNat≤281474976710656)) (by omega)) (Below.refl _ _) (Nat.le_refl _) ?_
    intro v349 w12 ho13 hb hg_ hnew_
    clear hg_ hnew_
    (rw [← Ny348.out] at ho13)
    have n0_:=qaa.mk (Kd.R_lower ho13 (qac HB.out))
    have n1_:=qaa.mk (qah (g:=gb347) (o:=.cells #[.bool a0_0,.int .i64 a0_1,.slice A0_2 l0_2.length c0_2] 24 (0,0)) (by (with_reducible repeat (refine qab ?_));exact BK347.out) hb)
    have n2_:=qaa.mk (qal HB.out hb)
    clear BK347
    clear HB
    have HO350:=n0_
    have BK347:=n1_
    have HB:=n2_
    clear n0_ n1_ n2_
    clear hb ho13
    obtain ⟨Ao14,co14,eo14⟩:=Kd.R_slice HO350.out
    (subst eo14)
    refine hK.out _ _ ⟨(qad BK347.out 0).trans rfl,(qad BK347.out 1).trans rfl,(qad BK347.out 2).trans rfl⟩ (fun hHeld=>?_)
    clear hK K
    refine qdt (a':=?_) ?_ ?_
    rotate_left
    ·show Act.put _ (some 12) _=_
     simp only [Act.put,List.setIfInBounds_toArray,List.set_cons_zero,List.set_cons_succ,qbk,qbm]
     rfl
    refine one_ (i:=5) (N:=some 13) #[true,true,true,true,true,true,false] rfl rfl (by kernel_rfl) (by decide) (fun K hK=>?_)
    refine qej Tryd.func49 (by kernel_rfl) rfl #[.agg #[.bool a0_0,.int .i64 a0_1,.slice A0_2 l0_2.length c0_2],.int .i64 0,.slice Ao14 y348.length co14,.slice none 0 0] (by rfl) rfl rfl (by (try simp only [List.map_toArray,List.map_cons,List.map_nil]);rfl) ?_
    refine (qat.calls k a0_0 a0_1 _ _ l0_2 0 (fun k_=>some k_=(.slice Ao14 y348.length co14:Value).ownBlock) (.slice Ao14 y348.length co14) y348 (fun k_=>some k_=(.slice none 0 0:Value).ownBlock) (.slice none 0 0) ([]:List Int) t351 t354 w _ ?side1 ?side2 ?side3 ?side4 ?side5 A7.out).mono ?_
    (case side1=>repeat ((with_reducible exact HB.out)))
    (case side2=>exact Kd.C_kept_came k60_heap HR0_2.out HB.out (fun k_ hs_=>Or.elim hs_ (fun e_=>(fun e_=>Kd.R_base HO350.out k_ e_.symm) e_) (fun e_=>(fun e_=>by simp [Value.ownBlock] at e_) e_)))
    (case side3=>exact HC0_2.out)
    (case side4=>exact Kd.R_tight rfl HO350.out)
    (case side5=>exact Kd.R_nil _ _ _ _ _)
    rintro e w15 ⟨v352,rfl,ho0,hy0,hb,hkp⟩
    refine ⟨_,rfl,?_⟩
    have n0_:=qaa.mk (qen (by (with_reducible repeat (refine qab ?_));exact BK347.out) hkp (fun hs_=>Or.elim hs_ (fun e_=>(fun e_=>(Kd.R_ne HO350.out BK347.out (by decide)) e_) e_) (fun e_=>(fun e_=>by simp [Value.ownBlock] at e_) e_)))
    have n1_:=qaa.mk (Kd.R_reok rfl hy0 (fun k_ e_=>HO350.out.1 k_ e_))
    have n2_:=qaa.mk (Kd.R_mono (ok':=fun k_=>True) ho0 (fun k_ hk_=>trivial))
    have n3_:=qaa.mk (hb)
    clear BK347
    clear HO350
    clear HB
    have BK347:=n0_
    have HO350:=n1_
    have HO353:=n2_
    have HB:=n3_
    clear n0_ n1_ n2_ n3_
    (try clear hb)
    (try clear hkp)
    (try clear ho0)
    (try clear hy0)
    refine hK.out _ _ ⟨(qad BK347.out 0).trans rfl,(qad BK347.out 1).trans rfl,(qad BK347.out 2).trans rfl⟩ (fun hHeld=>?_)
    clear hK K
    refine qdt (a':=?_) ?_ ?_
    rotate_left
    ·show Act.put _ (some 13) _=_
     simp only [Act.put,List.setIfInBounds_toArray,List.set_cons_zero,List.set_cons_succ,qbk,qbm]
     rfl
    refine qct (i:=6) (N:=some 3) (v:=?_) (a':=?_) #[true,true,true,true,true,true,true] rfl rfl (by kernel_rfl) (fun _ _ _ h=>h) (Or.inl ⟨by rfl,?_⟩) ?_ ?_
    rotate_left
    ·intro w'
     go_simp
     with_reducible rfl
    rotate_left
    ·simp only [Act.put,List.setIfInBounds_toArray,List.set_cons_zero,List.set_cons_succ,qbk,qbm]
     rfl
    refine qfq (by kernel_rfl) ?_
    obtain ⟨Ao16,co16,eo16⟩:=Kd.R_slice HO353.out
    subst eo16
    try go_wp2_with (((with_reducible refine qbb (f:=50) rfl ?_);refine qcv (some 15) rfl rfl Tryd.func50 (by kernel_rfl) rfl #[.slice Ao16 t351.length co16] rfl (by (try simp only [List.map_toArray,List.map_cons,List.map_nil]);rfl) ?_;(with_reducible refine (qap.calls k (fun k_=>some k_=(.slice Ao16 t351.length co16:Value).ownBlock) (.slice Ao16 t351.length co16) t351 t355 w _ ?side1 ?side2 A8.out).mono ?_);(case side1=>repeat ((with_reducible exact HB.out)));(case side2=>exact Kd.R_tight rfl HO353.out);rintro e w17 ⟨rfl,hy0,hb,hkp⟩;refine ⟨_,rfl,?_⟩;replace BK347:=qaa.mk (qen (by (with_reducible repeat (refine qab ?_));exact BK347.out) hkp (fun hs_=>(fun e_=>(Kd.R_ne HO353.out BK347.out (by decide)) e_) hs_));replace HO350:=qaa.mk (Kd.R_mono (ok':=fun k_=>True) (Kd.R_keptB ((Kd.R_apart' HO350.out (Kd.R_typed HO353.out) (by decide))) hkp (fun k_ hk_ hs_=>(hk_.2) hs_)) (fun k_ hk_=>trivial));replace HO353:=qaa.mk (Kd.R_reok rfl hy0 (fun k_ e_=>HO353.out.1 k_ e_));replace HB:=qaa.mk (hb);(try clear hb);(try clear hkp);(try clear hy0)))
    go_ret
    exact ⟨_,by rfl,by (with_reducible repeat (apply Kd.R_drew));exact HO353.out,by repeat ((with_reducible exact HB.out))⟩
   ·rw [if_neg c6] at H
    exact absurd H (by simp)
  ·rw [if_neg c5] at H
   exact absurd H (by simp)
end Go.Proofs.YtmfjmbcfaamebaaDoor.X
namespace Go.Proofs.YtmfjmbcfaamebaaDoor.X
open Go.RowKit Go.Proofs.YtmfjmbcfaamebaaDoorW.PrintWords Go.Proofs.YtmfjmbcfaamebaaDoorW.PrintLast Go.Proofs.YtmfjmbcfaamebaaDoorW.PrintMore
open Go.Shelf
section
variable {P:Program} {r n:Nat} {ops:Array Oper} {Q:Exit→Act→World→Prop} {a:Act} {w:World}
theorem uponIn_of_upon {o:Oper} {next:Act→World→Prop} {x:Result Next} (hL:¬ LetsOut Q) (h:o.upon P a next Q x):o.uponIn (Fence.wide.inRound r) n P a next Q x:=by
 cases x with
 | ok x w'=>
  cases x with
  | value v=>exact h
  | skip=>exact h
  | defer d=>exact h
  | enter f args=>exact ⟨fun h_=>(by cases h_),CallsIn.inRound r (callsIn_wide.2 h)⟩
  | row row args=>exact ⟨fun h_=>(by cases h_),fun c cs _=>let ⟨v,w',q,s⟩:=h c cs;⟨v,w',q,(stepsIn_wide (P:=P)).2 s⟩⟩
  | _=>exact h.elim
 | halt x w'=>cases x <;> exact h
theorem opIn_of_op {o:Oper} {next:Act→World→Prop} (hd:∀ c,o.op≠.defer c) (hL:¬ LetsOut Q) (h:o.wp P a w next Q):o.wpIn (Fence.wide.inRound r) n P a w next Q:=
 ⟨fun _ _=>trivial,by rw [Oper.semAt_plain _ _ _ hd];exact uponIn_of_upon hL h⟩
theorem qfv (hd:∀ o∈ops.toList,∀ c,o.op≠.defer c) (hL:¬ LetsOut Q):∀ (l:List Nat) (a:Act) (w:World),wpOps P ops Q l a w→wpOpsIn (Fence.wide.inRound r) n P ops Q l a w
 | [],_,_,h=>h
 | i::l,a,w,h=>by
  unfold wpOps at h
  unfold wpOpsIn
  cases ho:ops[i]? with
  | none=>rw [ho] at h;exact qfv hd hL l a w h
  | some o=>
   rw [ho] at h
   dsimp only at h ⊢
   split
   ·rename_i hw
    rw [if_pos hw] at h
    rcases h with h|h
    ·refine opIn_of_op (hd o (Array.mem_toList_iff.2 (Array.mem_of_getElem? ho))) hL (Oper.wp_mono (fun a w h=>qfv hd hL l a w h) h)
    ·exact absurd h.2 hL
   ·rename_i hw
    rw [if_neg hw] at h
    exact ⟨fun _ _=>trivial,qfv hd hL l _ w h⟩
def noDefer (ops:Array Oper):Bool:=ops.toList.all fun o=>match o.op with|.defer _=>false|_=>true
theorem noDefer_spec (h:noDefer ops=true):∀ o∈ops.toList,∀ c,o.op≠.defer c:=fun o ho c e=>by
 have:=List.all_eq_true.1 h o ho
 rw [e] at this
 cases this
theorem region_round_draw {id:Nat} (hd:noDefer ops=true) (hL:¬ LetsOut Q) (h:∀ t,wpOps P ops Q (Region.schedule (P.follows .mixedOrders) ops t) a { w with drawn:=w.drawn+1 }):(Code.region id ops true).wpIn (Fence.wide.inRound r) n P Q a w:=
 wpIn_region_draw fun t=>qfv (noDefer_spec hd) hL _ a _ (h t)
theorem region_round_any {id:Nat} (hm:P.follows .mixedOrders=true) (hd:noDefer ops=true) (hL:¬ LetsOut Q) (h:wpAny P .any ops Q ops.size (Array.replicate ops.size false) a { w with drawn:=w.drawn+1 }):(Code.region id ops true).wpIn (Fence.wide.inRound r) n P Q a w:=
 region_round_draw hd hL fun t=>by
  simp only [Region.schedule,hm,Bool.true_or,if_true]
  exact wpAny_sound ops.size t _ a _ h
theorem startIn_ {S:World→Prop} {ds:List Nat} {id m:Nat} (l:Array Bool) (hm:P.follows .mixedOrders=true) (hn:ops.size=m) (hl:Array.replicate m false=l) (hd:noDefer ops=true) (hL:¬ LetsOut Q) (hS:S w.drew)
  (h:S w.drew→qcj P .any ops Q S ds m l a w.drew):(Code.region id ops true).wpIn (Fence.wide.inRound r) n P Q a w:=by
 subst hn
 subst hl
 exact region_round_any hm hd hL (qgl _ _ _ _ (h hS))
end
theorem qcu {W:World} {B t:Nat} {cs:Array Value} (h:W.heap[B]?=some (.cells cs t (0,0))) (i:Nat) {u:Value} (hi:cs[i]?=some u):W.cell? ⟨B,i,none⟩=some u:=by simp [World.cell?,h,hi]
theorem qhq {W:World} {B t:Nat} {cs:Array Value} (h:W.heap[B]?=some (.cells cs t (0,0))) (i:Nat):W.frozen? ⟨B,i,none⟩=false:=by simp [World.frozen?,h]
theorem setOf {W:World} {B t i:Nat} {cs:Array Value} (h:W.heap[B]?=some (.cells cs t (0,0))) (u:Value):(W.setCell ⟨B,i,none⟩ u).heap[B]?=some (.cells (cs.setIfInBounds i u) t (0,0)):=by
 simp [World.setCell,Array.getElem?_modify,h]
theorem heap_own {β:Type} (B t:Nat) (cs:β→Array Value):Own (fun s W=>W.heap[B]?=some (.cells (cs s) t (0,0))):=fun s X Y row hs hg hr=>
 (hg.block B (Array.getElem?_eq_some_iff.1 hs).1 (fun e=>by obtain ⟨o,ho,hc⟩:=hr B e.symm;rw [hs] at ho;cases ho;cases hc)).trans hs
theorem R_ownW {α β:Type} {d:Kd α} {e base:Nat} {ok:Nat→Prop} (v:β→Value) (xs:β→List α):Own (fun s W=>Kd.R d e W base ok (v s) (xs s)):=fun s X Y row hs hg hr=>
 Kd.R_mono (Kd.R_grown (Kd.R_bound hs) hg (fun k hk e=>by
  obtain ⟨o,ho,hc⟩:=hr k e.symm
  obtain ⟨_,_,_,q,_,cells,hk⟩:=hk
  rw [hk] at ho;cases ho;cases hc)) (fun k hk=>hk.1)
section
variable {X Y:World} {row:Option Nat}
theorem qez {B t:Nat} {cs:Array Value} (hg:X.grownBy Y row) (hr:∀ r,row=some r→∃ o:Obj,X.heap[r]?=some o∧o.isCells=false) (hs:X.heap[B]?=some (.cells cs t (0,0))):Y.heap[B]?=some (.cells cs t (0,0)):=
 heap_own (β:=Unit) B t (fun _=>cs) () X Y row hs hg hr
theorem rowRow {α:Type} {d:Kd α} {e base:Nat} {ok:Nat→Prop} {v:Value} {xs:List α} (hg:X.grownBy Y row) (hr:∀ r,row=some r→∃ o:Obj,X.heap[r]?=some o∧o.isCells=false) (hs:Kd.R d e X base ok v xs):Kd.R d e Y base ok v xs:=
 R_ownW (β:=Unit) (fun _=>v) (fun _=>xs) () X Y row hs hg hr
end
def IsC (W:World) (k:Nat):Prop:=∃ c t f,W.heap[k]?=some (.cells c t f)
theorem IsC.lt {W:World} {k:Nat} (h:IsC W k):k<W.heap.size:=by obtain ⟨c,t,f,h⟩:=h;exact (Array.getElem?_eq_some_iff.1 h).1
theorem IsC.same {W W':World} {k:Nat} (h:IsC W k) (e:W'.heap[k]?=W.heap[k]?):IsC W' k:=by obtain ⟨c,t,f,h⟩:=h;exact ⟨c,t,f,e.trans h⟩
theorem IsC.ofCell {W:World} {a:Addr} {v:Value} (h:W.cell? a=some v):IsC W a.block:=by
 unfold World.cell? at h
 split at h
 ·rename_i c t f e;exact ⟨c,t,f,e⟩
 ·cases h
theorem IsC.away {X:World} {row:Option Nat} {k:Nat} (hr:∀ r,row=some r→∃ o:Obj,X.heap[r]?=some o∧o.isCells=false) (h:IsC X k):some k≠row:=fun e=>by
 obtain ⟨o,ho,hc⟩:=hr k e.symm
 obtain ⟨c,t,f,h⟩:=h
 rw [h] at ho;cases ho;cases hc
section
variable {X Y:World} {row:Option Nat} {α:Type} {d:Kd α} {e base n:Nat} {p:Nat→Prop} {v:Value} {xs:List α} {A:Option Addr}
theorem N_rowC (hg:X.grownBy Y row) (hr:∀ r,row=some r→∃ o:Obj,X.heap[r]?=some o∧o.isCells=false) (h:Kd.N d e X base (fun k=>p k∧IsC X k) v xs):Kd.N d e Y base (fun k=>p k∧IsC Y k) v xs:=
 Kd.N_mono (Kd.N_step h (fun k hk hlt=>hg.block k hlt (hk.2.away hr))) (fun k hk=>⟨hk.1,hk.2.same (hg.block k hk.2.lt (hk.2.away hr))⟩)
theorem F_rowC (hg:X.grownBy Y row) (hr:∀ r,row=some r→∃ o:Obj,X.heap[r]?=some o∧o.isCells=false) (h:Kd.F d X (fun k=>p k∧IsC X k) A n xs):Kd.F d Y (fun k=>p k∧IsC Y k) A n xs:=
 Kd.F_mono (Kd.F_step h (fun k hk hlt=>hg.block k hlt (hk.2.away hr))) (fun k hk=>⟨hk.1,hk.2.same (hg.block k hk.2.lt (hk.2.away hr))⟩)
theorem N_belowC (h:Kd.N d e X base (fun k=>p k∧IsC X k) v xs) (hb:Below X.heap.size X Y):Kd.N d e Y base (fun k=>p k∧IsC Y k) v xs:=
 Kd.N_mono (Kd.N_below h hb) (fun k hk=>⟨hk.1,hk.2.same (hb.block k hk.2.lt)⟩)
theorem F_belowC (h:Kd.F d X (fun k=>p k∧IsC X k) A n xs) (hb:Below X.heap.size X Y):Kd.F d Y (fun k=>p k∧IsC Y k) A n xs:=
 Kd.F_mono (Kd.F_below h hb) (fun k hk=>⟨hk.1,hk.2.same (hb.block k hk.2.lt)⟩)
theorem qhz {k:IntKind} {zs:List Int} (h:Kd.F (Kd.int k) X p A n zs):Kd.F (Kd.int k) X (fun b=>p b∧IsC X b) A n zs:=fun W' hW=>by
 have hn:=Kd.F_now h
 refine ⟨hn.1,hn.2.1,fun hp=>?_⟩
 obtain ⟨ad,rfl,hc⟩:=hn.2.2 hp
 obtain ⟨ad',c',he,hcl,_,hcc,hin⟩:=Kd.F_get h 0 0 (by omega) (by omega)
 injection he with he
 subst he
 have hsz:c'.length=1:=hcl
 have h0:=hcc 0 _ (List.getElem?_eq_getElem (by omega))
 have hC:=IsC.ofCell h0
 rw [qhk] at hC
 have hb:=hW ad.block ⟨hin Nat.one_pos,hC⟩ hC.lt
 refine ⟨ad,rfl,fun j q hj=>?_⟩
 obtain ⟨c,hl,hr,hcell⟩:=hc j q hj
 exact ⟨c,hl,hr,fun i u hu=>(World.cell?_of_block (w:=X) (by rw [qhk];exact hb)).trans (hcell i u hu)⟩
end
theorem C_one (W:World) (x:Int) (t:TypeId):Kd.C (Kd.int .i64) (W.alloc (.cells #[.int .i64 x] t)) (some ⟨W.heap.size,0,none⟩) 1 [x]:=by
 have h:=own_lit_of (enc:=Value.int .i64) W 0 t [x] (Nat.zero_le _) (by simp)
 exact (Kd.R_reads' (Kd.R_of_own (h1:=fun _=>rfl) (ok:=fun _=>True) (xs:=[x]) (by simpa [encs] using h) (fun _ _=>trivial))).2.2
theorem IsC.setCell {W:World} {k:Nat} (h:IsC W k) (p:Addr) (v:Value):IsC (W.setCell p v) k:=by
 obtain ⟨c,t,f,h⟩:=h
 by_cases hk:p.block=k
 ·subst hk
  refine ⟨if p.spot.isSome then c else c.setIfInBounds p.off v,t,f,?_⟩
  simp [World.setCell,Array.getElem?_modify,h]
 ·exact ⟨c,t,f,by rw [Below.heap_setCell _ _ _ _ (Ne.symm hk)];exact h⟩
theorem qfs {W W':World} (h:Below W.heap.size W W'):KeepsOthers W W':=⟨h.size,fun k o hk _=>(h.block k (Array.getElem?_eq_some_iff.1 hk).1).trans hk⟩
def Only (Ds:List Nat) (W W':World):Prop:=W'.os=W.os∧W'.tape=W.tape∧W'.output=W.output∧W'.heap.size=W.heap.size∧∀ k,k∉Ds→W'.heap[k]?=W.heap[k]?
theorem qgv {F:Fence} {n:Nat} {P:Program} {fn:Func} {tmps:Array Value} {R:Ending→World→Prop}:∀ (Ds:List Nat) (W:World),Ds.Nodup→(∀ D∈Ds,W.heap[D]?=some (.deferred (some [])))→(∀ W',Only Ds W W'→LeavesInM F n P fn tmps R [] .returning W')→
  LeavesInM F n P fn tmps R (Ds.map fun D=>{ target:=.collected D,args:=#[] }) .returning W
 | [],W,_,_,h=>h W ⟨rfl,rfl,rfl,rfl,fun _ _=>rfl⟩
 | D::t,W,hn,hD,h=>by
  have hn':=List.nodup_cons.1 hn
  refine ⟨by simp,.inl ⟨D,_,rfl,run_takeDeferred (hD D (List.mem_cons_self ..)),?_⟩⟩
  refine qgv t _ hn'.2 (fun E hE=>(World.putObj_heap_other (fun e=>hn'.1 (by rw [← e];exact hE))).trans (hD E (List.mem_cons_of_mem _ hE))) (fun W' hW'=>h W' ?_)
  obtain ⟨h1,h2,h3,h4,h5⟩:=hW'
  refine ⟨h1,h2,h3,h4.trans (by simp),fun k hk=>?_⟩
  have hk1:k≠D:=fun e=>hk (by rw [e];exact List.mem_cons_self ..)
  have hk2:k∉t:=fun e=>hk (List.mem_cons_of_mem _ e)
  exact (h5 k hk2).trans (World.putObj_heap_other hk1)
theorem Only.below {Ds:List Nat} {w W W':World} (h:Only Ds W W') (hb:Below w.heap.size w W) (hD:∀ D∈Ds,w.heap.size≤D):Below w.heap.size w W':=
 ⟨h.1.trans hb.os,h.2.1.trans hb.tape,h.2.2.1.trans hb.output,by rw [h.2.2.2.1];exact hb.size,fun k hk=>(h.2.2.2.2 k (fun e=>by have:=hD k e;omega)).trans (hb.block k hk)⟩
theorem wpIn_loop_inv {F:Fence} {n:Nat} {P:Program} {Q:Exit→Act→World→Prop} {c:Code} (Inv:Nat→Act→World→Prop)
    (hstep:∀ m a W,Inv m a W→∀ K:Act→World→Prop,(∀ m' a W,m=m'+1→Inv m' a W→K a W)→c.wpIn F n P (Exit.then K Q) a W) (m:Nat) (a:Act) (W:World) (h:Inv m a W):(Code.loop c).wpIn F n P Q a W:=by
  refine wpIn_loop_rounds (m+1) ?_
  induction m generalizing a W with
  | zero=>exact hstep 0 a W h _ (fun m' _ _ e _=>absurd e (by omega))
  | succ m ih => exact hstep (m + 1) a W h _ (fun m' a W e hI => by obtain rfl : m' = m := by omega
                                                                    exact ih a W hI)
end Go.Proofs.YtmfjmbcfaamebaaDoor.X
namespace Go.Proofs.YtmfjmbcfaamebaaDoor.X
open Go.RowKit Go.Proofs.YtmfjmbcfaamebaaDoorW.PrintWords Go.Proofs.YtmfjmbcfaamebaaDoorW.PrintLast Go.Proofs.YtmfjmbcfaamebaaDoorW.PrintMore
attribute [local go_sem] qbs qcb
set_option linter.unusedVariables false
set_option linter.unusedSimpArgs false
def qdj.f (a0:Int):Option (Bool):=if a0≥0 then (some (decide (a0≤65535))) else (some false)
set_option maxHeartbeats 8000000 in
set_option maxRecDepth 100000 in
theorem qdj.calls (a0:Int) (r:Bool) (w:World) (h:qdj.f a0=some r) :
  Calls Tryd.prog 61 #[.int .i64 a0] w fun e w'=>e=.returned (.bool r)∧qdm w w':=by
 have H:(if a0≥0 then (some (decide (a0≤65535))) else (some false))=some r:=h
 clear h
 by_cases c2:a0≥0
 ·rw [if_pos c2] at H
  have c2b0:decide (0≤a0)=true:=decide_eq_true c2
  clear c2
  obtain rfl:=Option.some.inj H
  go_enter Tryd.func61,Tryd.ntmps61
  go_wp2
  go_ret
  exact ⟨by rfl,by repeat (exact qdm.refl _)⟩
 ·rw [if_neg c2] at H
  have c2b0:decide (0≤a0)=false:=decide_eq_false c2
  clear c2
  obtain rfl:=Option.some.inj H
  go_enter Tryd.func61,Tryd.ntmps61
  go_wp2
  go_ret
  exact ⟨by rfl,by repeat (exact qdm.refl _)⟩
end Go.Proofs.YtmfjmbcfaamebaaDoor.X
namespace Go.Proofs.YtmfjmbcfaamebaaDoor.X
open Go.RowKit Go.Proofs.YtmfjmbcfaamebaaDoorW.PrintWords Go.Proofs.YtmfjmbcfaamebaaDoorW.PrintLast Go.Proofs.YtmfjmbcfaamebaaDoorW.PrintMore
attribute [local go_sem] qbs qcb
set_option linter.unusedVariables false
set_option linter.unusedSimpArgs false
def qbc.l0:Nat→List Int→Int→Option (List Int)
 | 0,_,_=>none
 | k+1,x0,x3=>if x3>0 then (if 0≤(wrap64 (x3-1)) then (if (wrap64 (x3-1))<(x0.length:Int) then (if (rd x0 (wrap64 (x3-1)))=0 then (qbc.l0 k x0 (wrap64 (x3-1))) else (if 0≤x3 then (if x3≤(x0.length:Int) then (some (x0.take (x3:Int).toNat)) else (none)) else (none))) else (none)) else (none)) else (if 0≤x3 then (if x3≤(x0.length:Int) then (some (x0.take (x3:Int).toNat)) else (none)) else (none))
def qbc.f (k:Nat) (l0:List Int):Option (List Int):=qbc.l0 k l0 (l0.length:Int)
theorem qbc.mono_l:∀ k,(∀ y0 y1,LeO (qbc.l0 k y0 y1) (qbc.l0 (k+1) y0 y1))
 | 0=>fun _ _ r h=>by simp [qbc.l0] at h
 | k+1=>by
  have ih0:=qbc.mono_l k
  ·intro y0 y1
   unfold qbc.l0
   repeat' first|(with_reducible exact ih0 _ _)|(with_reducible exact LeO.refl _)|(with_reducible refine LeO.ite ?_ ?_)
theorem qbc.mono:∀ a0 k,LeO (qbc.f k a0) (qbc.f (k+1) a0):=by
 intro a0 k
 have ih0:=qbc.mono_l k
 unfold qbc.f
 repeat' (with_reducible exact ih0 _ _)
set_option maxHeartbeats 8000000 in
set_option maxRecDepth 100000 in
theorem qbc.calls (k:Nat) (P0_:Nat→Prop) (u9000_:Value) (l0:List Int) (r:List Int) (w0 w:World) (hB:Below w0.heap.size w0 w) (ho0:Kd.R (Kd.int .u64) 77 w w0.heap.size P0_ u9000_ l0) (h:qbc.f k l0=some r) :
  Calls Tryd.prog 62 #[u9000_] w fun e w'=>∃ v0_:Value,e=.returned (.agg #[v0_])∧Kd.V (Kd.int .u64) 77 w' w0.heap.size (fun k_=>(P0_ k_∨w.heap.size≤k_)) v0_ r∧Below w0.heap.size w0 w'∧Kept w w' (fun k_=>P0_ k_):=by
 have hu38:=Tryd.underlying38
 have HO0:=qaa.mk (show Kd.R (Kd.int .u64) 77 w w0.heap.size (fun k_=>(P0_ k_∨w.heap.size≤k_)) u9000_ l0 from Kd.R_mono ho0 (fun k_ hk=>(.inl hk)))
 have HK:=qaa.mk (Kept.refl w (fun k_=>P0_ k_))
 have HW0:=qaa.mk hB.size
 have HB:=qaa.mk hB
 clear hB
 have H:(qbc.l0 k l0 (l0.length:Int))=some r:=h
 clear h
 have H':=qaa.mk H
 clear H
 go_enter Tryd.func62,Tryd.ntmps62
 go_wp2_with (((with_reducible refine qbf (N:=2) rfl ?_);refine qbr ?hg (N:=2) ?hd (cs:=#[.slice none 0 0]) (t:=38) ?hr ?_;(case hd=>rfl);(case hg=>rfl);(case hr=>(go_simp;done));intro gb114 hg w2 hbox hb;replace HO0:=qaa.mk (Kd.R_below (by (with_reducible repeat (apply Kd.R_drew));exact HO0.out) hb);have BK114:=qaa.mk (hbox);have GW114:=qaa.mk ((by rw [hg];exact (by exact HK.out.1):w.heap.size≤gb114));replace HK:=qaa.mk (Kept.below (S:=(fun k_=>P0_ k_)) HK.out hb);have GE114:=qaa.mk ((by rw [hg];exact (qac HB.out):w0.heap.size≤gb114));replace HB:=qaa.mk (qal HB.out hb);clear hb hbox hg;obtain ⟨Ao3,co3,eo3⟩:=Kd.R_slice HO0.out;subst eo3))
 go_loopg [3] k (fun kq v3 w'=>∃ (x3_1:Int),v3=.int .i64 x3_1∧qaa (qbc.l0 kq l0 x3_1=some r)∧qaa (kq≤k)∧qaa (Kd.R (Kd.int .u64) 77 w' w0.heap.size (fun k_=>(P0_ k_∨w.heap.size≤k_)) (.slice Ao3 l0.length co3) l0)∧qaa (w'.heap[gb114]?=some (.cells #[(.slice none 0 0)] 38 (0,0)))∧qaa (Kept w w' (fun k_=>P0_ k_))∧qaa (Below w0.heap.size w0 w'))
 case atStart=>exact ⟨((l0.length:Int)),(by rfl),H',⟨Nat.le_refl _⟩,⟨by (with_reducible repeat (apply Kd.R_drew));exact HO0.out⟩,⟨by (with_reducible repeat (refine qab ?_));exact BK114.out⟩,⟨by repeat ((with_reducible exact HK.out))⟩,⟨by repeat ((with_reducible exact HB.out))⟩⟩
 case round=>
  clear H'
  obtain ⟨x3_1,rfl,HA,HK1,HO_0,BK114,HK,HB⟩:=hrel
  cases gk with
  | zero=>exact absurd HA.out (by simp [qbc.l0])
  | succ k1=>
   have H:=HA.out
   clear HA
   simp only [qbc.l0] at H
   by_cases c4:x3_1>0
   ·rw [if_pos c4] at H
    have c4b0:decide (0<x3_1)=true:=decide_eq_true c4
    clear c4
    obtain ⟨ji5,hji5⟩:∃ j_:Int,(wrap64 (x3_1-1))=j_:=⟨_,rfl⟩
    replace H:(if 0≤(ji5) then (if (ji5)<(l0.length:Int) then (if (rd l0 (ji5))=0 then (qbc.l0 k1 l0 ji5) else (if 0≤x3_1 then (if x3_1≤(l0.length:Int) then (some (l0.take (x3_1:Int).toNat)) else (none)) else (none))) else (none)) else (none))=some r:=by (rw [hji5] at H;exact H)
    have hji5w:(IntKind.i64.wrap (x3_1-1))=ji5:=(qbk _).trans hji5
    by_cases c6:0≤(ji5)
    ·rw [if_pos c6] at H
     have c6b0:decide (0≤(ji5))=true:=decide_eq_true c6
     clear c6
     by_cases c7:(ji5)<(l0.length:Int)
     ·rw [if_pos c7] at H
      have c7b0:decide ((ji5)<(l0.length:Int))=true:=decide_eq_true c7
      clear c7
      by_cases c8:(rd l0 (ji5))=0
      ·rw [if_pos c8] at H
       have c8b0:((rd l0 (ji5))==0)=true:=beq_iff_eq.mpr c8
       have c8b1:((rd l0 (ji5))!=0)=false:=bne_eq_false_iff_eq.mpr c8
       clear c8
       have H':=qaa.mk H
       clear H
       have p115:0≤((ji5):Int):=of_decide_eq_true (by (with_reducible assumption))
       have q115:(ji5)<(l0.length:Int):=of_decide_eq_true (by (with_reducible assumption))
       obtain ⟨ad115,e115,hx115_0⟩:=Kd.at_int (Kd.R_reads' HO_0.out).2.2 (ji5) p115 q115
       cases e115
       replace p115:=eq_true p115
       replace q115:=eq_true q115
       go_wp2
       go_roundg k1
       case measure=>have:=HK1.out;omega
       case rel=>exact ⟨(ji5),(by rfl),H',⟨by have:=HK1.out;omega⟩,⟨by (with_reducible repeat (apply Kd.R_drew));exact HO_0.out⟩,⟨by (with_reducible repeat (refine qab ?_));exact BK114.out⟩,⟨by repeat ((with_reducible exact HK.out))⟩,⟨by repeat ((with_reducible exact HB.out))⟩⟩
      ·rw [if_neg c8] at H
       have c8b0:((rd l0 (ji5))==0)=false:=beq_eq_false_iff_ne.mpr c8
       have c8b1:((rd l0 (ji5))!=0)=true:=bne_iff_ne.mpr c8
       by_cases c9:0≤x3_1
       ·rw [if_pos c9] at H
        have c9b0:=eq_true c9
        have c9b1:decide (0≤x3_1)=true:=decide_eq_true c9
        clear c9
        by_cases c10:x3_1≤(l0.length:Int)
        ·rw [if_pos c10] at H
         have c10b0:=eq_true c10
         have c10b1:decide (x3_1≤(l0.length:Int))=true:=decide_eq_true c10
         clear c10
         obtain ⟨y116,hy116⟩:∃ y_:List Int,y_=(l0.take (x3_1:Int).toNat):=⟨_,rfl⟩
         replace H:(some y116)=some r:=by (rw [hy116];with_reducible exact H)
         have Ny116:=qaa.mk hy116
         clear hy116
         obtain rfl:=Option.some.inj H
         have p115:0≤((ji5):Int):=of_decide_eq_true (by (with_reducible assumption))
         have q115:(ji5)<(l0.length:Int):=of_decide_eq_true (by (with_reducible assumption))
         obtain ⟨ad115,e115,hx115_0⟩:=Kd.at_int (Kd.R_reads' HO_0.out).2.2 (ji5) p115 q115
         cases e115
         replace p115:=eq_true p115
         replace q115:=eq_true q115
         have q11:(x3_1:Int)≤((l0.length:Int):Int):=of_decide_eq_true (by (with_reducible assumption))
         obtain ⟨i011,hi011,_,hsz11,_⟩:=info_parts info77
         have hroom11:l0.length≤co3:=(Kd.R_reads' HO_0.out).2.1
         have hC11:Kd.F (Kd.int .u64) _ _ (some ad115) l0.length l0:=(Kd.V_at (base:=w0.heap.size) (Kd.R_V (Kd.R_types (HO_0.out) BK114.out (by decide)))).2.2
         have hcut11:=cut_to3 (P:=Tryd.prog) 36 77 .i64 .i64 Tryd.underlying36 hi011 (some ad115) l0.length co3 x3_1 (of_decide_eq_true (by (with_reducible assumption))) q11 hroom11
         have hr11:=Kd.F_take (m:=(x3_1:Int).toNat) hC11 (by omega)
         have hy11:y116.length=(x3_1:Int).toNat:=(by rw [Ny116.out,List.length_take];omega)
         rw [← Ny116.out] at hr11
         rw [← hy11] at hcut11
         have HO120:=qaa.mk (show Kd.V (Kd.int .u64) 77 _ w0.heap.size _ (.slice (some ad115) y116.length y116.length) y116 from Kd.V_mk (Nat.le_refl _) hr11)
         have HC120:=qaa.mk (show y116.length≤y116.length from Nat.le_refl _)
         clear hr11 hC11 hroom11 hi011 hsz11
         have KY11:=qaa.mk hy11
         clear hy11
         replace q11:=eq_true q11
         have hcz12_0:wr.cell? ⟨gb114,0,none⟩=some (.slice none 0 0):=(qad BK114.out 0).trans rfl
         have hfz12_0:=qaf BK114.out 0
         go_wp2
         refine bodyPost_ret (results_cell_row rfl _ _ gb114 38 #[.slice (some ad115) y116.length y116.length] (0,0) _ rfl (by (with_reducible repeat (refine qab ?_));refine qcs (cs:=#[.slice none 0 0]) ?_ 0 _ rfl;(with_reducible repeat (refine qab ?_));exact BK114.out) Tryd.underlying38 rfl (by kernel_rfl)) rfl ?_
         exact ⟨_,by rfl,by (with_reducible repeat (apply Kd.V_drew));exact Kd.V_mono (Kd.V_far (p:=⟨gb114,0,none⟩) (Kd.V_mono HO120.out (fun k_ hk=>(⟨hk,hk.2⟩:_∧k_≠gb114))) (fun _ hk=>hk.2) (.slice (some ad115) y116.length y116.length)) (fun _ hk=>hk.1.1),by repeat ((with_reducible first|exact HB.out|refine qbx ?_ GE114.out)),by repeat ((with_reducible first|exact HK.out|refine Kept.setCell ?_ (.inr GW114.out) _))⟩
        ·rw [if_neg c10] at H
         exact absurd H (by simp)
       ·rw [if_neg c9] at H
        exact absurd H (by simp)
     ·rw [if_neg c7] at H
      exact absurd H (by simp)
    ·rw [if_neg c6] at H
     exact absurd H (by simp)
   ·rw [if_neg c4] at H
    have c4b0:decide (0<x3_1)=false:=decide_eq_false c4
    clear c4
    by_cases c13:0≤x3_1
    ·rw [if_pos c13] at H
     have c13b0:=eq_true c13
     have c13b1:decide (0≤x3_1)=true:=decide_eq_true c13
     clear c13
     by_cases c14:x3_1≤(l0.length:Int)
     ·rw [if_pos c14] at H
      have c14b0:=eq_true c14
      have c14b1:decide (x3_1≤(l0.length:Int))=true:=decide_eq_true c14
      clear c14
      obtain ⟨y121,hy121⟩:∃ y_:List Int,y_=(l0.take (x3_1:Int).toNat):=⟨_,rfl⟩
      replace H:(some y121)=some r:=by (rw [hy121];with_reducible exact H)
      have Ny121:=qaa.mk hy121
      clear hy121
      obtain rfl:=Option.some.inj H
      have q15:(x3_1:Int)≤((l0.length:Int):Int):=of_decide_eq_true (by (with_reducible assumption))
      obtain ⟨i015,hi015,_,hsz15,_⟩:=info_parts info77
      have hroom15:l0.length≤co3:=(Kd.R_reads' HO_0.out).2.1
      have hC15:Kd.F (Kd.int .u64) _ _ Ao3 l0.length l0:=(Kd.V_at (base:=w0.heap.size) (Kd.R_V (Kd.R_types (HO_0.out) BK114.out (by decide)))).2.2
      have hcut15:=cut_to3 (P:=Tryd.prog) 36 77 .i64 .i64 Tryd.underlying36 hi015 Ao3 l0.length co3 x3_1 (of_decide_eq_true (by (with_reducible assumption))) q15 hroom15
      have hr15:=Kd.F_take (m:=(x3_1:Int).toNat) hC15 (by omega)
      have hy15:y121.length=(x3_1:Int).toNat:=(by rw [Ny121.out,List.length_take];omega)
      rw [← Ny121.out] at hr15
      rw [← hy15] at hcut15
      have HO125:=qaa.mk (show Kd.V (Kd.int .u64) 77 _ w0.heap.size _ (.slice Ao3 y121.length y121.length) y121 from Kd.V_mk (Nat.le_refl _) hr15)
      have HC125:=qaa.mk (show y121.length≤y121.length from Nat.le_refl _)
      clear hr15 hC15 hroom15 hi015 hsz15
      have KY15:=qaa.mk hy15
      clear hy15
      replace q15:=eq_true q15
      have hcz16_0:wr.cell? ⟨gb114,0,none⟩=some (.slice none 0 0):=(qad BK114.out 0).trans rfl
      have hfz16_0:=qaf BK114.out 0
      go_wp2
      refine bodyPost_ret (results_cell_row rfl _ _ gb114 38 #[.slice Ao3 y121.length y121.length] (0,0) _ rfl (by (with_reducible repeat (refine qab ?_));refine qcs (cs:=#[.slice none 0 0]) ?_ 0 _ rfl;(with_reducible repeat (refine qab ?_));exact BK114.out) Tryd.underlying38 rfl (by kernel_rfl)) rfl ?_
      exact ⟨_,by rfl,by (with_reducible repeat (apply Kd.V_drew));exact Kd.V_mono (Kd.V_far (p:=⟨gb114,0,none⟩) (Kd.V_mono HO125.out (fun k_ hk=>(⟨hk,hk.2⟩:_∧k_≠gb114))) (fun _ hk=>hk.2) (.slice Ao3 y121.length y121.length)) (fun _ hk=>hk.1.1),by repeat ((with_reducible first|exact HB.out|refine qbx ?_ GE114.out)),by repeat ((with_reducible first|exact HK.out|refine Kept.setCell ?_ (.inr GW114.out) _))⟩
     ·rw [if_neg c14] at H
      exact absurd H (by simp)
    ·rw [if_neg c13] at H
     exact absurd H (by simp)
end Go.Proofs.YtmfjmbcfaamebaaDoor.X
namespace Go.Proofs.YtmfjmbcfaamebaaDoor.X
open Go.RowKit Go.Proofs.YtmfjmbcfaamebaaDoorW.PrintWords Go.Proofs.YtmfjmbcfaamebaaDoorW.PrintLast Go.Proofs.YtmfjmbcfaamebaaDoorW.PrintMore
attribute [local go_sem] qbs qcb
set_option linter.unusedVariables false
set_option linter.unusedSimpArgs false
def qax.l0:Nat→List Int→List Int→Int→Int→Option (List Int)
 | 0,_,_,_,_=>none
 | k+1,x3,x7,x8,x9=>if x9<x8 then (if 0≤x9 then (if x9<(x7.length:Int) then ((qdj.f (rd x7 x9)).bind fun t131=>(if t131=true then (if (wrap64 ((wrap64 ((wrap64 (Int.tdiv (rd x7 x9) 64))+1))-(x3.length:Int)))>0 then (if 0≤(wrap64 ((wrap64 ((wrap64 (Int.tdiv (rd x7 x9) 64))+1))-(x3.length:Int))) then (if x3.length+(wrap64 ((wrap64 ((wrap64 (Int.tdiv (rd x7 x9) 64))+1))-(x3.length:Int)):Int).toNat<17592186044416 then ((some (x3++List.replicate (wrap64 ((wrap64 ((wrap64 (Int.tdiv (rd x7 x9) 64))+1))-(x3.length:Int)):Int).toNat 0:List Int)).bind fun y132=>(if 0≤(wrap64 (Int.tdiv (rd x7 x9) 64)) then (if (wrap64 (Int.tdiv (rd x7 x9) 64))<(y132.length:Int) then (if 0≤(Int.tmod (rd x7 x9) 64) then (qax.l0 k (y132.set ((wrap64 (Int.tdiv (rd x7 x9) 64)):Int).toNat (Go.bits .or .u64 (rd y132 (wrap64 (Int.tdiv (rd x7 x9) 64))) (shl .u64 1 (Int.tmod (rd x7 x9) 64)))) x7 x8 (wrap64 (x9+1))) else (none)) else (none)) else (none))) else (none)) else (none)) else (if 0≤(wrap64 (Int.tdiv (rd x7 x9) 64)) then (if (wrap64 (Int.tdiv (rd x7 x9) 64))<(x3.length:Int) then (if 0≤(Int.tmod (rd x7 x9) 64) then (qax.l0 k (x3.set ((wrap64 (Int.tdiv (rd x7 x9) 64)):Int).toNat (Go.bits .or .u64 (rd x3 (wrap64 (Int.tdiv (rd x7 x9) 64))) (shl .u64 1 (Int.tmod (rd x7 x9) 64)))) x7 x8 (wrap64 (x9+1))) else (none)) else (none)) else (none))) else (qax.l0 k x3 x7 x8 (wrap64 (x9+1))))) else (none)) else (none)) else ((qbc.f k x3).bind fun t127=>(some t127))
def qax.f (k:Nat) (l0:List Int):Option (List Int):=qax.l0 k ([]:List Int) l0 (l0.length:Int) 0
theorem qax.mono_l:∀ k,(∀ y0 y1 y2 y3,LeO (qax.l0 k y0 y1 y2 y3) (qax.l0 (k+1) y0 y1 y2 y3))
 | 0=>fun _ _ _ _ r h=>by simp [qax.l0] at h
 | k+1=>by
  have ih0:=qax.mono_l k
  ·intro y0 y1 y2 y3
   unfold qax.l0
   repeat' first|(with_reducible exact ih0 _ _ _ _)|(with_reducible exact qbc.mono _ _)|(with_reducible exact LeO.refl _)|(with_reducible refine LeO.ite ?_ ?_)|(with_reducible refine LeO.bind ?_ (fun _=>?_))
theorem qax.mono:∀ a0 k,LeO (qax.f k a0) (qax.f (k+1) a0):=by
 intro a0 k
 have ih0:=qax.mono_l k
 unfold qax.f
 repeat' (with_reducible exact ih0 _ _ _ _)
def qax.T9:Bool×List (List Nat×List Nat):=(true,[([],[]),([],[]),([1],[1]),([0,2],[0,2]),([3],[3]),([],[]),([5],[5]),([6],[6]),([4,7],[4,7]),([0,2,0,1,2,3,4,5,6,7,8],[0,2]),([9,8,0,1,2,3,4,5,6,7,8],[8,9])])
def qax.B9:List Nat:=[0,0,2,7,15,0,32,96,255,511,1023]
theorem qax.tab9:rtab .any (opsOf Tryd.f34 9)=qax.T9:=by kernel_rfl
theorem qax.bits9:qeu qax.T9.2 qax.B9=true:=by kernel_rfl
set_option maxHeartbeats 8000000 in
set_option maxRecDepth 100000 in
theorem qax.calls (k:Nat) (A0:Option Addr) (c0:Nat) (l0:List Int) (r:List Int) (w:World) (hr0:Kd.C (Kd.int .i64) w A0 l0.length l0) (hc0:l0.length≤c0) (h:qax.f k l0=some r) :
  Calls Tryd.prog 34 #[.slice A0 l0.length c0] w fun e w'=>∃ v0_:Value,e=.returned (.agg #[v0_])∧Kd.V (Kd.int .u64) 77 w' w.heap.size (fun k_=>(w.heap.size≤k_)) v0_ r∧Below w.heap.size w w':=by
 have hu38:=Tryd.underlying38
 have HR0:=qaa.mk hr0
 have HC0:=qaa.mk hc0
 clear hr0 hc0
 have HB:=qaa.mk (Below.refl w.heap.size w)
 have H:(qax.l0 k ([]:List Int) l0 (l0.length:Int) 0)=some r:=h
 clear h
 have H':=qaa.mk H
 clear H
 go_enter Tryd.func34,Tryd.ntmps34
 go_wp2_with (((with_reducible refine qbf (N:=2) rfl ?_);refine qbr ?hg (N:=2) ?hd (cs:=#[.slice none 0 0]) (t:=38) ?hr ?_;(case hd=>rfl);(case hg=>rfl);(case hr=>(go_simp;done));intro gb126 hg w2 hbox hb;have BK126:=qaa.mk (hbox);have GW126:=qaa.mk ((by rw [hg];exact (qac HB.out):w.heap.size≤gb126));have GE126:=qaa.mk ((by rw [hg];exact (qac HB.out):w.heap.size≤gb126));replace HB:=qaa.mk (qal HB.out hb);clear hb hbox hg))
 go_loopg [3,9] k (fun kq v3 v9 w'=>∃ (x3_1:List Int) (x9_1:Int),v9=.int .i64 x9_1∧qaa (qax.l0 kq x3_1 l0 (l0.length:Int) x9_1=some r)∧qaa (kq≤k)∧qaa (Kd.R (Kd.int .u64) 77 w' w.heap.size (fun k_=>(w.heap.size≤k_)) v3 x3_1)∧qaa (w'.heap[gb126]?=some (.cells #[(.slice none 0 0)] 38 (0,0)))∧qaa (Below w.heap.size w w'))
 case atStart=>exact ⟨(([]:List Int)),(0),(by rfl),H',⟨Nat.le_refl _⟩,⟨by exact Kd.R_nil _ _ _ _ _⟩,⟨by (with_reducible repeat (refine qab ?_));exact BK126.out⟩,⟨by repeat ((with_reducible exact HB.out))⟩⟩
 case round=>
  clear H'
  obtain ⟨x3_1,x9_1,rfl,HA,HK1,HO_3,BK126,HB⟩:=hrel
  cases gk with
  | zero=>exact absurd HA.out (by simp [qax.l0])
  | succ k1=>
   have H:=HA.out
   clear HA
   simp only [qax.l0] at H
   by_cases c3:x9_1<(l0.length:Int)
   ·rw [if_pos c3] at H
    have c3b0:decide (x9_1<(l0.length:Int))=true:=decide_eq_true c3
    clear c3
    by_cases c4:0≤x9_1
    ·rw [if_pos c4] at H
     have c4b0:decide (0≤x9_1)=true:=decide_eq_true c4
     clear c4
     by_cases c5:x9_1<(l0.length:Int)
     ·rw [if_pos c5] at H
      have c5b0:decide (x9_1<(l0.length:Int))=true:=decide_eq_true c5
      clear c5
      replace H:=Option.bind_eq_some_iff.mp H
      obtain ⟨t131,A60,H⟩:=H
      replace H:(if t131=true then (if (wrap64 ((wrap64 ((wrap64 (Int.tdiv (rd l0 x9_1) 64))+1))-(x3_1.length:Int)))>0 then (if 0≤(wrap64 ((wrap64 ((wrap64 (Int.tdiv (rd l0 x9_1) 64))+1))-(x3_1.length:Int))) then (if x3_1.length+(wrap64 ((wrap64 ((wrap64 (Int.tdiv (rd l0 x9_1) 64))+1))-(x3_1.length:Int)):Int).toNat<17592186044416 then ((some (x3_1++List.replicate (wrap64 ((wrap64 ((wrap64 (Int.tdiv (rd l0 x9_1) 64))+1))-(x3_1.length:Int)):Int).toNat 0:List Int)).bind fun y132=>(if 0≤(wrap64 (Int.tdiv (rd l0 x9_1) 64)) then (if (wrap64 (Int.tdiv (rd l0 x9_1) 64))<(y132.length:Int) then (if 0≤(Int.tmod (rd l0 x9_1) 64) then (qax.l0 k1 (y132.set ((wrap64 (Int.tdiv (rd l0 x9_1) 64)):Int).toNat (Go.bits .or .u64 (rd y132 (wrap64 (Int.tdiv (rd l0 x9_1) 64))) (shl .u64 1 (Int.tmod (rd l0 x9_1) 64)))) l0 (l0.length:Int) (wrap64 (x9_1+1))) else (none)) else (none)) else (none))) else (none)) else (none)) else (if 0≤(wrap64 (Int.tdiv (rd l0 x9_1) 64)) then (if (wrap64 (Int.tdiv (rd l0 x9_1) 64))<(x3_1.length:Int) then (if 0≤(Int.tmod (rd l0 x9_1) 64) then (qax.l0 k1 (x3_1.set ((wrap64 (Int.tdiv (rd l0 x9_1) 64)):Int).toNat (Go.bits .or .u64 (rd x3_1 (wrap64 (Int.tdiv (rd l0 x9_1) 64))) (shl .u64 1 (Int.tmod (rd l0 x9_1) 64)))) l0 (l0.length:Int) (wrap64 (x9_1+1))) else (none)) else (none)) else (none))) else (qax.l0 k1 x3_1 l0 (l0.length:Int) (wrap64 (x9_1+1))))=some r:=H
      have A6:=qaa.mk A60
      clear A60
      by_cases c7:t131=true
      ·subst c7
       have H1:(if (wrap64 ((wrap64 ((wrap64 (Int.tdiv (rd l0 x9_1) 64))+1))-(x3_1.length:Int)))>0 then (if 0≤(wrap64 ((wrap64 ((wrap64 (Int.tdiv (rd l0 x9_1) 64))+1))-(x3_1.length:Int))) then (if x3_1.length+(wrap64 ((wrap64 ((wrap64 (Int.tdiv (rd l0 x9_1) 64))+1))-(x3_1.length:Int)):Int).toNat<17592186044416 then ((some (x3_1++List.replicate (wrap64 ((wrap64 ((wrap64 (Int.tdiv (rd l0 x9_1) 64))+1))-(x3_1.length:Int)):Int).toNat 0:List Int)).bind fun y132=>(if 0≤(wrap64 (Int.tdiv (rd l0 x9_1) 64)) then (if (wrap64 (Int.tdiv (rd l0 x9_1) 64))<(y132.length:Int) then (if 0≤(Int.tmod (rd l0 x9_1) 64) then (qax.l0 k1 (y132.set ((wrap64 (Int.tdiv (rd l0 x9_1) 64)):Int).toNat (Go.bits .or .u64 (rd y132 (wrap64 (Int.tdiv (rd l0 x9_1) 64))) (shl .u64 1 (Int.tmod (rd l0 x9_1) 64)))) l0 (l0.length:Int) (wrap64 (x9_1+1))) else (none)) else (none)) else (none))) else (none)) else (none)) else (if 0≤(wrap64 (Int.tdiv (rd l0 x9_1) 64)) then (if (wrap64 (Int.tdiv (rd l0 x9_1) 64))<(x3_1.length:Int) then (if 0≤(Int.tmod (rd l0 x9_1) 64) then (qax.l0 k1 (x3_1.set ((wrap64 (Int.tdiv (rd l0 x9_1) 64)):Int).toNat (Go.bits .or .u64 (rd x3_1 (wrap64 (Int.tdiv (rd l0 x9_1) 64))) (shl .u64 1 (Int.tmod (rd l0 x9_1) 64)))) l0 (l0.length:Int) (wrap64 (x9_1+1))) else (none)) else (none)) else (none)))=some r:=by rw [if_pos rfl] at H;exact H
       clear H
       have H:=H1
       clear H1
       by_cases c8:(wrap64 ((wrap64 ((wrap64 (Int.tdiv (rd l0 x9_1) 64))+1))-(x3_1.length:Int)))>0
       ·rw [if_pos c8] at H
        have c8b0:decide (0<(wrap64 ((wrap64 ((wrap64 (Int.tdiv (rd l0 x9_1) 64))+1))-(x3_1.length:Int))))=true:=decide_eq_true c8
        clear c8
        obtain ⟨ji9,hji9⟩:∃ j_:Int,(wrap64 ((wrap64 ((wrap64 (Int.tdiv (rd l0 x9_1) 64))+1))-(x3_1.length:Int)))=j_:=⟨_,rfl⟩
        replace H:(if 0≤(ji9) then (if x3_1.length+(ji9:Int).toNat<17592186044416 then ((some (x3_1++List.replicate (ji9:Int).toNat 0:List Int)).bind fun y132=>(if 0≤(wrap64 (Int.tdiv (rd l0 x9_1) 64)) then (if (wrap64 (Int.tdiv (rd l0 x9_1) 64))<(y132.length:Int) then (if 0≤(Int.tmod (rd l0 x9_1) 64) then (qax.l0 k1 (y132.set ((wrap64 (Int.tdiv (rd l0 x9_1) 64)):Int).toNat (Go.bits .or .u64 (rd y132 (wrap64 (Int.tdiv (rd l0 x9_1) 64))) (shl .u64 1 (Int.tmod (rd l0 x9_1) 64)))) l0 (l0.length:Int) (wrap64 (x9_1+1))) else (none)) else (none)) else (none))) else (none)) else (none))=some r:=by (rw [hji9] at H;exact H)
        (try rw [hji9] at c8b0)
        have hji9w:(IntKind.i64.wrap ((wrap64 ((wrap64 (Int.tdiv (rd l0 x9_1) 64))+1))-(x3_1.length:Int)))=ji9:=(qbk _).trans hji9
        by_cases c10:0≤(ji9)
        ·rw [if_pos c10] at H
         have c10b0:=eq_true c10
         have c10b1:decide (0≤(ji9))=true:=decide_eq_true c10
         clear c10
         by_cases c11:x3_1.length+(ji9:Int).toNat<17592186044416
         ·rw [if_pos c11] at H
          have LMc11:=qaa.mk c11
          clear c11
          obtain ⟨y132,hy132⟩:∃ y_:List Int,y_=(x3_1++List.replicate (ji9:Int).toNat 0):=⟨_,rfl⟩
          replace H:(if 0≤(wrap64 (Int.tdiv (rd l0 x9_1) 64)) then (if (wrap64 (Int.tdiv (rd l0 x9_1) 64))<(y132.length:Int) then (if 0≤(Int.tmod (rd l0 x9_1) 64) then (qax.l0 k1 (y132.set ((wrap64 (Int.tdiv (rd l0 x9_1) 64)):Int).toNat (Go.bits .or .u64 (rd y132 (wrap64 (Int.tdiv (rd l0 x9_1) 64))) (shl .u64 1 (Int.tmod (rd l0 x9_1) 64)))) l0 (l0.length:Int) (wrap64 (x9_1+1))) else (none)) else (none)) else (none))=some r:=by (have H2_:=(Option.bind_some _ _).symm.trans H;rw [hy132];with_reducible exact H2_)
          have Ny132:=qaa.mk hy132
          clear hy132
          obtain ⟨ji12,hji12⟩:∃ j_:Int,(wrap64 (Int.tdiv (rd l0 x9_1) 64))=j_:=⟨_,rfl⟩
          replace H:(if 0≤(ji12) then (if (ji12)<(y132.length:Int) then (if 0≤(Int.tmod (rd l0 x9_1) 64) then (qax.l0 k1 (y132.set ((ji12):Int).toNat (Go.bits .or .u64 (rd y132 (ji12)) (shl .u64 1 (Int.tmod (rd l0 x9_1) 64)))) l0 (l0.length:Int) (wrap64 (x9_1+1))) else (none)) else (none)) else (none))=some r:=by (rw [hji12] at H;exact H)
          have hji12w:(IntKind.i64.wrap (Int.tdiv (rd l0 x9_1) 64))=ji12:=(qbk _).trans hji12
          (try rw [hji12] at hji9)
          (try rw [hji12] at hji9w)
          by_cases c13:0≤(ji12)
          ·rw [if_pos c13] at H
           have c13b0:decide (0≤(ji12))=true:=decide_eq_true c13
           clear c13
           by_cases c14:(ji12)<(y132.length:Int)
           ·rw [if_pos c14] at H
            have c14b0:decide ((ji12)<(y132.length:Int))=true:=decide_eq_true c14
            clear c14
            obtain ⟨ji15,hji15⟩:∃ j_:Int,(Int.tmod (rd l0 x9_1) 64)=j_:=⟨_,rfl⟩
            replace H:(if 0≤(ji15) then (qax.l0 k1 (y132.set ((ji12):Int).toNat (Go.bits .or .u64 (rd y132 (ji12)) (shl .u64 1 (ji15)))) l0 (l0.length:Int) (wrap64 (x9_1+1))) else (none))=some r:=by (rw [hji15] at H;exact H)
            by_cases c16:0≤(ji15)
            ·rw [if_pos c16] at H
             have c16b0:=eq_true c16
             have c16b1:decide (0≤(ji15))=true:=decide_eq_true c16
             clear c16
             obtain ⟨ji17,hji17⟩:∃ j_:Int,(shl .u64 1 (ji15))=j_:=⟨_,rfl⟩
             replace H:(qax.l0 k1 (y132.set ((ji12):Int).toNat (Go.bits .or .u64 (rd y132 (ji12)) (ji17))) l0 (l0.length:Int) (wrap64 (x9_1+1)))=some r:=by (rw [hji17] at H;exact H)
             have hji17_:(IntKind.u64.wrap (1*2 ^ min (ji15).toNat 64))=ji17:=hji17
             have hji17z:(ji15)≤64→(IntKind.u64.wrap (1*2 ^ (ji15).toNat))=ji17:=shl_small hji17
             have hji17u:(IntKind.u64.wrap (2 ^ min (ji15).toNat 64))=ji17:=by have h_:=hji17_;rw [Int.one_mul] at h_;exact h_
             have hji17v:(ji15)≤64→(IntKind.u64.wrap (2 ^ (ji15).toNat))=ji17:=fun hle_=>by have h_:=hji17z hle_;rw [Int.one_mul] at h_;exact h_
             obtain ⟨y136,hy136⟩:∃ y_:List Int,y_=(y132.set ((ji12):Int).toNat (Go.bits .or .u64 (rd y132 (ji12)) (ji17))):=⟨_,rfl⟩
             replace H:(qax.l0 k1 y136 l0 (l0.length:Int) (wrap64 (x9_1+1)))=some r:=by (rw [hy136];with_reducible exact H)
             have Ny136:=qaa.mk hy136
             clear hy136
             have H':=qaa.mk H
             clear H
             have p130:0≤(x9_1:Int):=of_decide_eq_true (by (with_reducible assumption))
             have q130:x9_1<(l0.length:Int):=of_decide_eq_true (by (with_reducible assumption))
             obtain ⟨ad130,e130,hx130_0⟩:=Kd.at_int HR0.out x9_1 p130 q130
             cases e130
             replace hx130_0:=(HB.out.cell (World.block_lt_of_cell? w _ hx130_0)).trans hx130_0
             replace p130:=eq_true p130
             replace q130:=eq_true q130
             try go_wp2_with (first|((with_reducible refine qbb (f:=61) rfl ?_);refine qcv (some 14) rfl rfl Tryd.func61 (by kernel_rfl) rfl #[.int .i64 (rd l0 x9_1)] rfl (by (try simp only [List.map_toArray,List.map_cons,List.map_nil]);rfl) ?_;(with_reducible refine (qdj.calls (rd l0 x9_1) true _ A6.out).mono ?_);rintro e w' ⟨rfl,⟨nd,rfl⟩⟩;refine ⟨_,rfl,?_⟩;(try (rw [drewN_self wr];generalize hq_:World.drewN wr _=wr;have n0_:qaa (Kd.R (Kd.int .u64) 77 wr w.heap.size (fun k_=>(w.heap.size≤k_)) u3 x3_1):=⟨by rw [← hq_];exact (by (with_reducible repeat (apply Kd.R_drewN));exact HO_3.out)⟩;have n1_:qaa (wr.heap[gb126]?=some (.cells #[.slice none 0 0] 38 (0,0))):=⟨by rw [← hq_];exact (by (with_reducible repeat (refine qde ?_ _));exact BK126.out)⟩;have n2_:qaa (Below w.heap.size w wr):=⟨by rw [← hq_];exact (by repeat ((with_reducible first|exact HB.out|apply qav)))⟩;clear HO_3 BK126 HB hq_;have HO_3:=n0_;have BK126:=n1_;have HB:=n2_;clear n0_ n1_ n2_));obtain ⟨Ao19,co19,eo19⟩:=Kd.R_slice HO_3.out;subst eo19)|(at_builtin;refine Kd.R_append_zeros (Kd.int .u64) (w0:=w) w.heap.size rfl (.tmp 24) (.tmp 25) 36 3 77 (.int .u64 0) 8 rfl Tryd.underlying36 Tryd.underlying3 info77 rfl (by decide) (by omega) (.slice Ao19 x3_1.length co19) x3_1 0 (ji9:Int) (fun k_=>(w.heap.size≤k_)) rfl rfl rfl ?aF ?aO (of_decide_eq_true (by (with_reducible assumption))) ?aB ?aS ?aL ?_;(case aB=>exact HB.out);(case aF=>exact (fun k_ hk=>(Nat.le_trans (qac HB.out) hk)));(case aO=>exact (by (with_reducible repeat (apply Kd.R_drew));exact HO_3.out));(case aS=>exact (qac HB.out));(case aL=>have:=LMc11.out;omega);intro v133 w20 ho hb hg hat;rw [← Ny132.out] at ho;have n0_:=qaa.mk (qdp (g:=gb126) (o:=.cells #[.slice none 0 0] 38 (0,0)) (by (with_reducible repeat (refine qab ?_));exact BK126.out) hg (Kd.R_ne HO_3.out BK126.out (by decide)));have n1_:=qaa.mk (hb);have n2_:=qaa.mk (ho);clear BK126;clear HB;clear HO_3;have BK126:=n0_;have HB:=n1_;have HO134:=n2_;clear n0_ n1_ n2_;clear ho hb hg hat))
             have n0_:=qaa.mk (Kd.R_drew HO134.out)
             have n1_:=qaa.mk (qab BK126.out)
             have n2_:=qaa.mk (qdb HB.out)
             clear HO134
             clear BK126
             clear HB
             have HO134:=n0_
             have BK126:=n1_
             have HB:=n2_
             clear n0_ n1_ n2_
             obtain ⟨Ao22,co22,eo22⟩:=Kd.R_slice HO134.out
             (subst eo22)
             have p135:0≤((ji12):Int):=of_decide_eq_true (by (with_reducible assumption))
             have q135:(ji12)<(y132.length:Int):=of_decide_eq_true (by (with_reducible assumption))
             obtain ⟨ad135,e135,hx135_0⟩:=Kd.at_int (Kd.R_reads' HO134.out).2.2 (ji12) p135 q135
             cases e135
             replace p135:=eq_true p135
             replace q135:=eq_true q135
             have p18:0≤((ji12):Int):=of_decide_eq_true (by (with_reducible assumption))
             have q18:((ji12):Int)<((y132.length:Int):Int):=of_decide_eq_true (by (with_reducible assumption))
             obtain ⟨go18,co18,eo18,gb18,gl18,cl18,HG18⟩:=Kd.R_form HO134.out (by omega)
             (cases eo18)
             have GB18:=qaa.mk gb18
             have GG18:=qaa.mk HG18
             clear gb18 gl18 HG18
             (simp only [qep] at hx135_0)
             obtain ⟨hx18_0,hf18_0⟩:=Kd.R_celln 0 HO134.out ((ji12):Int) p18 q18
             replace p18:=eq_true p18
             replace q18:=eq_true q18
             have HP23:=Kd.R_putn HO134.out ((ji12):Int) (Go.bits .or .u64 (rd y132 (ji12)) (ji17))
             rw [← Ny136.out] at HP23
             have HQ23:=qaa.mk HP23
             clear HP23
             refine qfb (n:=11) (S:=fun w'=>w'.cell? ⟨go18,((ji12)).toNat,none⟩=some (.int .u64 (rd y132 (ji12)))) (ds:=[10]) #[false,false,false,false,false,false,false,false,false,false,false] (by kernel_rfl) rfl rfl (hx135_0) (fun hHeld=>?_);refine qee qax.tab9 qax.bits9 (fun HT_ HW_=>?_)
             generalize w20.drew=w21 at HO134 BK126 HB GG18 HQ23 hf18_0 hx135_0 hx18_0 hHeld ⊢
             refine qct (i:=0) (N:=some 27) (v:=?_) (a':=?_) #[true,false,false,false,false,false,false,false,false,false,false] rfl rfl (qck HT_.out (by kernel_rfl)) (fun _ _ _ h=>h) (Or.inl ⟨by rfl,?_⟩) ?_ ?_
             rotate_left
             ·intro w'
              go_simp
              with_reducible rfl
             rotate_left
             ·simp only [Act.put,List.setIfInBounds_toArray,List.set_cons_zero,List.set_cons_succ,qbk,qbm]
              rfl
             refine qct (i:=1) (N:=some 28) (v:=?_) (a':=?_) #[true,true,false,false,false,false,false,false,false,false,false] rfl rfl (qck HT_.out (by kernel_rfl)) (fun _ _ _ h=>h) (Or.inl ⟨by rfl,?_⟩) ?_ ?_
             rotate_left
             ·intro w'
              go_simp
              with_reducible rfl
             rotate_left
             ·simp only [Act.put,List.setIfInBounds_toArray,List.set_cons_zero,List.set_cons_succ,qbk,qbm]
              rfl
             refine qct (i:=2) (N:=some 29) (v:=?_) (a':=?_) #[true,true,true,false,false,false,false,false,false,false,false] rfl rfl (qck HT_.out (by kernel_rfl)) (fun _ _ _ h=>h) (Or.inl ⟨by rfl,?_⟩) ?_ ?_
             rotate_left
             ·intro w'
              go_simp
              with_reducible rfl
             rotate_left
             ·simp only [Act.put,List.setIfInBounds_toArray,List.set_cons_zero,List.set_cons_succ,qbk,qbm]
              rfl
             refine qct (i:=3) (N:=some 30) (v:=?_) (a':=?_) #[true,true,true,true,false,false,false,false,false,false,false] rfl rfl (qck HT_.out (by kernel_rfl)) (fun _ _ _ h=>h) (Or.inl ⟨by rfl,?_⟩) ?_ ?_
             rotate_left
             ·intro w'
              go_simp
              with_reducible rfl
             rotate_left
             ·simp only [Act.put,List.setIfInBounds_toArray,List.set_cons_zero,List.set_cons_succ,qbk,qbm]
              rfl
             refine qct (i:=5) (N:=some 32) (v:=?_) (a':=?_) #[true,true,true,true,false,true,false,false,false,false,false] rfl rfl (qck HT_.out (by kernel_rfl)) (fun _ _ _ h=>h) (Or.inl ⟨by rfl,?_⟩) ?_ ?_
             rotate_left
             ·intro w'
              go_simp
              with_reducible rfl
             rotate_left
             ·simp only [Act.put,List.setIfInBounds_toArray,List.set_cons_zero,List.set_cons_succ,qbk,qbm]
              rfl
             refine qct (i:=6) (N:=some 33) (v:=?_) (a':=?_) #[true,true,true,true,false,true,true,false,false,false,false] rfl rfl (qck HT_.out (by kernel_rfl)) (fun _ _ _ h=>h) (Or.inl ⟨by rfl,?_⟩) ?_ ?_
             rotate_left
             ·intro w'
              go_simp
              with_reducible rfl
             rotate_left
             ·simp only [Act.put,List.setIfInBounds_toArray,List.set_cons_zero,List.set_cons_succ,qbk,qbm]
              rfl
             refine qct (i:=7) (N:=some 34) (v:=?_) (a':=?_) #[true,true,true,true,false,true,true,true,false,false,false] rfl rfl (qck HT_.out (by kernel_rfl)) (fun _ _ _ h=>h) (Or.inl ⟨by rfl,?_⟩) ?_ ?_
             rotate_left
             ·intro w'
              go_simp
              with_reducible rfl
             rotate_left
             ·simp only [Act.put,List.setIfInBounds_toArray,List.set_cons_zero,List.set_cons_succ,qbk,qbm]
              rfl
             refine take_ (i:=4) (N:=some 31) (v:=?_) (a':=?_) #[true,true,true,true,true,true,true,true,false,false,false] rfl rfl (qcw HT_.out HW_.out (by kernel_rfl)) (fun _ _ _ h=>h) (Or.inl ⟨by rfl,?_⟩) hHeld ?_ ?_
             rotate_left
             ·intro w' s0
              go_simp
              with_reducible rfl
             rotate_left
             ·simp only [Act.put,List.setIfInBounds_toArray,List.set_cons_zero,List.set_cons_succ,qbk,qbm]
              rfl
             refine qct (i:=8) (N:=some 35) (v:=?_) (a':=?_) #[true,true,true,true,true,true,true,true,true,false,false] rfl rfl (qck HT_.out (by kernel_rfl)) (fun _ _ _ h=>h) (Or.inl ⟨by rfl,?_⟩) ?_ ?_
             rotate_left
             ·intro w'
              go_simp
              with_reducible rfl
             rotate_left
             ·simp only [Act.put,List.setIfInBounds_toArray,List.set_cons_zero,List.set_cons_succ,qbk,qbm]
              rfl
             refine qct (i:=9) (N:=some 36) (v:=?_) (a':=?_) #[true,true,true,true,true,true,true,true,true,true,false] rfl rfl (qck HT_.out (by kernel_rfl)) (fun _ _ _ h=>h) (Or.inl ⟨by rfl,?_⟩) ?_ ?_
             rotate_left
             ·intro w'
              go_simp
              with_reducible rfl
             rotate_left
             ·simp only [Act.put,List.setIfInBounds_toArray,List.set_cons_zero,List.set_cons_succ,qbk,qbm]
              rfl
             refine last_ (i:=10) (N:=none) #[true,true,true,true,true,true,true,true,true,true,true] rfl rfl (qdx HT_.out (by kernel_rfl)) (by decide) (fun K hK=>?_)
             refine skip_ (w1:=?_) (by rfl) rfl ?_ ?_
             rotate_left
             ·go_simp
              rfl
             refine hK.out _ _ ?_
             clear hK K
             refine qfq (qfd HT_.out (by kernel_rfl)) ?_
             try go_wp2
             go_roundg k1
             case measure=>have:=HK1.out;omega
             case rel=>exact ⟨(y136),(wrap64 (x9_1+1)),(by rfl),H',⟨by have:=HK1.out;omega⟩,⟨by (with_reducible repeat (apply Kd.R_drew));exact HQ23.out⟩,⟨by (with_reducible repeat (refine qab ?_));refine qcx ?_ (by have h_:=Kd.R_ne HO134.out BK126.out (by decide);intro e_;exact h_ (by rw [e_];rfl)) _;(with_reducible repeat (refine qab ?_));exact BK126.out⟩,⟨by repeat ((with_reducible first|exact HB.out|refine qbx ?_ GB18.out))⟩⟩
            ·rw [if_neg c16] at H
             exact absurd H (by simp)
           ·rw [if_neg c14] at H
            exact absurd H (by simp)
          ·rw [if_neg c13] at H
           exact absurd H (by simp)
         ·rw [if_neg c11] at H
          exact absurd H (by simp)
        ·rw [if_neg c10] at H
         exact absurd H (by simp)
       ·rw [if_neg c8] at H
        have c8b0:decide (0<(wrap64 ((wrap64 ((wrap64 (Int.tdiv (rd l0 x9_1) 64))+1))-(x3_1.length:Int))))=false:=decide_eq_false c8
        clear c8
        obtain ⟨ji24,hji24⟩:∃ j_:Int,(wrap64 (Int.tdiv (rd l0 x9_1) 64))=j_:=⟨_,rfl⟩
        replace H:(if 0≤(ji24) then (if (ji24)<(x3_1.length:Int) then (if 0≤(Int.tmod (rd l0 x9_1) 64) then (qax.l0 k1 (x3_1.set ((ji24):Int).toNat (Go.bits .or .u64 (rd x3_1 (ji24)) (shl .u64 1 (Int.tmod (rd l0 x9_1) 64)))) l0 (l0.length:Int) (wrap64 (x9_1+1))) else (none)) else (none)) else (none))=some r:=by (rw [hji24] at H;exact H)
        (try rw [hji24] at c8b0)
        have hji24w:(IntKind.i64.wrap (Int.tdiv (rd l0 x9_1) 64))=ji24:=(qbk _).trans hji24
        by_cases c25:0≤(ji24)
        ·rw [if_pos c25] at H
         have c25b0:decide (0≤(ji24))=true:=decide_eq_true c25
         clear c25
         by_cases c26:(ji24)<(x3_1.length:Int)
         ·rw [if_pos c26] at H
          have c26b0:decide ((ji24)<(x3_1.length:Int))=true:=decide_eq_true c26
          clear c26
          obtain ⟨ji27,hji27⟩:∃ j_:Int,(Int.tmod (rd l0 x9_1) 64)=j_:=⟨_,rfl⟩
          replace H:(if 0≤(ji27) then (qax.l0 k1 (x3_1.set ((ji24):Int).toNat (Go.bits .or .u64 (rd x3_1 (ji24)) (shl .u64 1 (ji27)))) l0 (l0.length:Int) (wrap64 (x9_1+1))) else (none))=some r:=by (rw [hji27] at H;exact H)
          by_cases c28:0≤(ji27)
          ·rw [if_pos c28] at H
           have c28b0:=eq_true c28
           have c28b1:decide (0≤(ji27))=true:=decide_eq_true c28
           clear c28
           obtain ⟨ji29,hji29⟩:∃ j_:Int,(shl .u64 1 (ji27))=j_:=⟨_,rfl⟩
           replace H:(qax.l0 k1 (x3_1.set ((ji24):Int).toNat (Go.bits .or .u64 (rd x3_1 (ji24)) (ji29))) l0 (l0.length:Int) (wrap64 (x9_1+1)))=some r:=by (rw [hji29] at H;exact H)
           have hji29_:(IntKind.u64.wrap (1*2 ^ min (ji27).toNat 64))=ji29:=hji29
           have hji29z:(ji27)≤64→(IntKind.u64.wrap (1*2 ^ (ji27).toNat))=ji29:=shl_small hji29
           have hji29u:(IntKind.u64.wrap (2 ^ min (ji27).toNat 64))=ji29:=by have h_:=hji29_;rw [Int.one_mul] at h_;exact h_
           have hji29v:(ji27)≤64→(IntKind.u64.wrap (2 ^ (ji27).toNat))=ji29:=fun hle_=>by have h_:=hji29z hle_;rw [Int.one_mul] at h_;exact h_
           obtain ⟨y138,hy138⟩:∃ y_:List Int,y_=(x3_1.set ((ji24):Int).toNat (Go.bits .or .u64 (rd x3_1 (ji24)) (ji29))):=⟨_,rfl⟩
           replace H:(qax.l0 k1 y138 l0 (l0.length:Int) (wrap64 (x9_1+1)))=some r:=by (rw [hy138];with_reducible exact H)
           have Ny138:=qaa.mk hy138
           clear hy138
           have H':=qaa.mk H
           clear H
           have p130:0≤(x9_1:Int):=of_decide_eq_true (by (with_reducible assumption))
           have q130:x9_1<(l0.length:Int):=of_decide_eq_true (by (with_reducible assumption))
           obtain ⟨ad130,e130,hx130_0⟩:=Kd.at_int HR0.out x9_1 p130 q130
           cases e130
           replace hx130_0:=(HB.out.cell (World.block_lt_of_cell? w _ hx130_0)).trans hx130_0
           replace p130:=eq_true p130
           replace q130:=eq_true q130
           try go_wp2_with (((with_reducible refine qbb (f:=61) rfl ?_);refine qcv (some 14) rfl rfl Tryd.func61 (by kernel_rfl) rfl #[.int .i64 (rd l0 x9_1)] rfl (by (try simp only [List.map_toArray,List.map_cons,List.map_nil]);rfl) ?_;(with_reducible refine (qdj.calls (rd l0 x9_1) true _ A6.out).mono ?_);rintro e w' ⟨rfl,⟨nd,rfl⟩⟩;refine ⟨_,rfl,?_⟩;(try (rw [drewN_self wr];generalize hq_:World.drewN wr _=wr;have n0_:qaa (Kd.R (Kd.int .u64) 77 wr w.heap.size (fun k_=>(w.heap.size≤k_)) u3 x3_1):=⟨by rw [← hq_];exact (by (with_reducible repeat (apply Kd.R_drewN));exact HO_3.out)⟩;have n1_:qaa (wr.heap[gb126]?=some (.cells #[.slice none 0 0] 38 (0,0))):=⟨by rw [← hq_];exact (by (with_reducible repeat (refine qde ?_ _));exact BK126.out)⟩;have n2_:qaa (Below w.heap.size w wr):=⟨by rw [← hq_];exact (by repeat ((with_reducible first|exact HB.out|apply qav)))⟩;clear HO_3 BK126 HB hq_;have HO_3:=n0_;have BK126:=n1_;have HB:=n2_;clear n0_ n1_ n2_));obtain ⟨Ao31,co31,eo31⟩:=Kd.R_slice HO_3.out;subst eo31))
           have n0_:=qaa.mk (Kd.R_drew HO_3.out)
           have n1_:=qaa.mk (qab BK126.out)
           have n2_:=qaa.mk (qdb HB.out)
           clear HO_3
           clear BK126
           clear HB
           have HO_3:=n0_
           have BK126:=n1_
           have HB:=n2_
           clear n0_ n1_ n2_
           have p137:0≤((ji24):Int):=of_decide_eq_true (by (with_reducible assumption))
           have q137:(ji24)<(x3_1.length:Int):=of_decide_eq_true (by (with_reducible assumption))
           obtain ⟨ad137,e137,hx137_0⟩:=Kd.at_int (Kd.R_reads' HO_3.out).2.2 (ji24) p137 q137
           cases e137
           replace p137:=eq_true p137
           replace q137:=eq_true q137
           have p30:0≤((ji24):Int):=of_decide_eq_true (by (with_reducible assumption))
           have q30:((ji24):Int)<((x3_1.length:Int):Int):=of_decide_eq_true (by (with_reducible assumption))
           obtain ⟨go30,co30,eo30,gb30,gl30,cl30,HG30⟩:=Kd.R_form HO_3.out (by omega)
           (cases eo30)
           have GB30:=qaa.mk gb30
           have GG30:=qaa.mk HG30
           clear gb30 gl30 HG30
           (simp only [qep] at hx137_0)
           obtain ⟨hx30_0,hf30_0⟩:=Kd.R_celln 0 HO_3.out ((ji24):Int) p30 q30
           replace p30:=eq_true p30
           replace q30:=eq_true q30
           have HP33:=Kd.R_putn HO_3.out ((ji24):Int) (Go.bits .or .u64 (rd x3_1 (ji24)) (ji29))
           rw [← Ny138.out] at HP33
           have HQ33:=qaa.mk HP33
           clear HP33
           refine qfb (n:=11) (S:=fun w'=>w'.cell? ⟨go30,((ji24)).toNat,none⟩=some (.int .u64 (rd x3_1 (ji24)))) (ds:=[10]) #[false,false,false,false,false,false,false,false,false,false,false] (by kernel_rfl) rfl rfl (hx137_0) (fun hHeld=>?_);refine qee qax.tab9 qax.bits9 (fun HT_ HW_=>?_)
           generalize wr.drew=w32 at HO_3 BK126 HB GG30 HQ33 hf30_0 hx137_0 hx30_0 hHeld ⊢
           refine qct (i:=0) (N:=some 27) (v:=?_) (a':=?_) #[true,false,false,false,false,false,false,false,false,false,false] rfl rfl (qck HT_.out (by kernel_rfl)) (fun _ _ _ h=>h) (Or.inl ⟨by rfl,?_⟩) ?_ ?_
           rotate_left
           ·intro w'
            go_simp
            with_reducible rfl
           rotate_left
           ·simp only [Act.put,List.setIfInBounds_toArray,List.set_cons_zero,List.set_cons_succ,qbk,qbm]
            rfl
           refine qct (i:=1) (N:=some 28) (v:=?_) (a':=?_) #[true,true,false,false,false,false,false,false,false,false,false] rfl rfl (qck HT_.out (by kernel_rfl)) (fun _ _ _ h=>h) (Or.inl ⟨by rfl,?_⟩) ?_ ?_
           rotate_left
           ·intro w'
            go_simp
            with_reducible rfl
           rotate_left
           ·simp only [Act.put,List.setIfInBounds_toArray,List.set_cons_zero,List.set_cons_succ,qbk,qbm]
            rfl
           refine qct (i:=2) (N:=some 29) (v:=?_) (a':=?_) #[true,true,true,false,false,false,false,false,false,false,false] rfl rfl (qck HT_.out (by kernel_rfl)) (fun _ _ _ h=>h) (Or.inl ⟨by rfl,?_⟩) ?_ ?_
           rotate_left
           ·intro w'
            go_simp
            with_reducible rfl
           rotate_left
           ·simp only [Act.put,List.setIfInBounds_toArray,List.set_cons_zero,List.set_cons_succ,qbk,qbm]
            rfl
           refine qct (i:=3) (N:=some 30) (v:=?_) (a':=?_) #[true,true,true,true,false,false,false,false,false,false,false] rfl rfl (qck HT_.out (by kernel_rfl)) (fun _ _ _ h=>h) (Or.inl ⟨by rfl,?_⟩) ?_ ?_
           rotate_left
           ·intro w'
            go_simp
            with_reducible rfl
           rotate_left
           ·simp only [Act.put,List.setIfInBounds_toArray,List.set_cons_zero,List.set_cons_succ,qbk,qbm]
            rfl
           refine qct (i:=5) (N:=some 32) (v:=?_) (a':=?_) #[true,true,true,true,false,true,false,false,false,false,false] rfl rfl (qck HT_.out (by kernel_rfl)) (fun _ _ _ h=>h) (Or.inl ⟨by rfl,?_⟩) ?_ ?_
           rotate_left
           ·intro w'
            go_simp
            with_reducible rfl
           rotate_left
           ·simp only [Act.put,List.setIfInBounds_toArray,List.set_cons_zero,List.set_cons_succ,qbk,qbm]
            rfl
           refine qct (i:=6) (N:=some 33) (v:=?_) (a':=?_) #[true,true,true,true,false,true,true,false,false,false,false] rfl rfl (qck HT_.out (by kernel_rfl)) (fun _ _ _ h=>h) (Or.inl ⟨by rfl,?_⟩) ?_ ?_
           rotate_left
           ·intro w'
            go_simp
            with_reducible rfl
           rotate_left
           ·simp only [Act.put,List.setIfInBounds_toArray,List.set_cons_zero,List.set_cons_succ,qbk,qbm]
            rfl
           refine qct (i:=7) (N:=some 34) (v:=?_) (a':=?_) #[true,true,true,true,false,true,true,true,false,false,false] rfl rfl (qck HT_.out (by kernel_rfl)) (fun _ _ _ h=>h) (Or.inl ⟨by rfl,?_⟩) ?_ ?_
           rotate_left
           ·intro w'
            go_simp
            with_reducible rfl
           rotate_left
           ·simp only [Act.put,List.setIfInBounds_toArray,List.set_cons_zero,List.set_cons_succ,qbk,qbm]
            rfl
           refine take_ (i:=4) (N:=some 31) (v:=?_) (a':=?_) #[true,true,true,true,true,true,true,true,false,false,false] rfl rfl (qcw HT_.out HW_.out (by kernel_rfl)) (fun _ _ _ h=>h) (Or.inl ⟨by rfl,?_⟩) hHeld ?_ ?_
           rotate_left
           ·intro w' s0
            go_simp
            with_reducible rfl
           rotate_left
           ·simp only [Act.put,List.setIfInBounds_toArray,List.set_cons_zero,List.set_cons_succ,qbk,qbm]
            rfl
           refine qct (i:=8) (N:=some 35) (v:=?_) (a':=?_) #[true,true,true,true,true,true,true,true,true,false,false] rfl rfl (qck HT_.out (by kernel_rfl)) (fun _ _ _ h=>h) (Or.inl ⟨by rfl,?_⟩) ?_ ?_
           rotate_left
           ·intro w'
            go_simp
            with_reducible rfl
           rotate_left
           ·simp only [Act.put,List.setIfInBounds_toArray,List.set_cons_zero,List.set_cons_succ,qbk,qbm]
            rfl
           refine qct (i:=9) (N:=some 36) (v:=?_) (a':=?_) #[true,true,true,true,true,true,true,true,true,true,false] rfl rfl (qck HT_.out (by kernel_rfl)) (fun _ _ _ h=>h) (Or.inl ⟨by rfl,?_⟩) ?_ ?_
           rotate_left
           ·intro w'
            go_simp
            with_reducible rfl
           rotate_left
           ·simp only [Act.put,List.setIfInBounds_toArray,List.set_cons_zero,List.set_cons_succ,qbk,qbm]
            rfl
           refine last_ (i:=10) (N:=none) #[true,true,true,true,true,true,true,true,true,true,true] rfl rfl (qdx HT_.out (by kernel_rfl)) (by decide) (fun K hK=>?_)
           refine skip_ (w1:=?_) (by rfl) rfl ?_ ?_
           rotate_left
           ·go_simp
            rfl
           refine hK.out _ _ ?_
           clear hK K
           refine qfq (qfd HT_.out (by kernel_rfl)) ?_
           try go_wp2
           go_roundg k1
           case measure=>have:=HK1.out;omega
           case rel=>exact ⟨(y138),(wrap64 (x9_1+1)),(by rfl),H',⟨by have:=HK1.out;omega⟩,⟨by (with_reducible repeat (apply Kd.R_drew));exact HQ33.out⟩,⟨by (with_reducible repeat (refine qab ?_));refine qcx ?_ (by have h_:=Kd.R_ne HO_3.out BK126.out (by decide);intro e_;exact h_ (by rw [e_];rfl)) _;(with_reducible repeat (refine qab ?_));exact BK126.out⟩,⟨by repeat ((with_reducible first|exact HB.out|refine qbx ?_ GB30.out))⟩⟩
          ·rw [if_neg c28] at H
           exact absurd H (by simp)
         ·rw [if_neg c26] at H
          exact absurd H (by simp)
        ·rw [if_neg c25] at H
         exact absurd H (by simp)
      ·replace c7:=Bool.eq_false_iff.mpr c7
       subst c7
       have H1:(qax.l0 k1 x3_1 l0 (l0.length:Int) (wrap64 (x9_1+1)))=some r:=by rw [if_neg (show ¬ (false=true) by decide)] at H;exact H
       clear H
       have H:=H1
       clear H1
       have H':=qaa.mk H
       clear H
       have p130:0≤(x9_1:Int):=of_decide_eq_true (by (with_reducible assumption))
       have q130:x9_1<(l0.length:Int):=of_decide_eq_true (by (with_reducible assumption))
       obtain ⟨ad130,e130,hx130_0⟩:=Kd.at_int HR0.out x9_1 p130 q130
       cases e130
       replace hx130_0:=(HB.out.cell (World.block_lt_of_cell? w _ hx130_0)).trans hx130_0
       replace p130:=eq_true p130
       replace q130:=eq_true q130
       go_wp2_with (((with_reducible refine qbb (f:=61) rfl ?_);refine qcv (some 14) rfl rfl Tryd.func61 (by kernel_rfl) rfl #[.int .i64 (rd l0 x9_1)] rfl (by (try simp only [List.map_toArray,List.map_cons,List.map_nil]);rfl) ?_;(with_reducible refine (qdj.calls (rd l0 x9_1) false _ A6.out).mono ?_);rintro e w' ⟨rfl,⟨nd,rfl⟩⟩;refine ⟨_,rfl,?_⟩))
       go_roundg k1
       case measure=>have:=HK1.out;omega
       case rel=>exact ⟨(x3_1),(wrap64 (x9_1+1)),(by rfl),H',⟨by have:=HK1.out;omega⟩,⟨by (with_reducible repeat (apply Kd.R_drewN));exact HO_3.out⟩,⟨by (with_reducible repeat (refine qde ?_ _));exact BK126.out⟩,⟨by repeat ((with_reducible first|exact HB.out|apply qav))⟩⟩
     ·rw [if_neg c5] at H
      exact absurd H (by simp)
    ·rw [if_neg c4] at H
     exact absurd H (by simp)
   ·rw [if_neg c3] at H
    have c3b0:decide (x9_1<(l0.length:Int))=false:=decide_eq_false c3
    clear c3
    replace H:=Option.bind_eq_some_iff.mp H
    obtain ⟨t127,A340,H⟩:=H
    replace H:(some t127)=some r:=H
    have A34:=qaa.mk A340
    clear A340
    obtain rfl:=Option.some.inj H
    obtain ⟨Ao35,co35,eo35⟩:=Kd.R_slice HO_3.out
    subst eo35
    go_wp2_with (((with_reducible refine qbb (f:=62) rfl ?_);refine qcv (some 39) rfl rfl Tryd.func62 (by kernel_rfl) rfl #[.slice Ao35 x3_1.length co35] rfl (by (try simp only [List.map_toArray,List.map_cons,List.map_nil]);rfl) ?_;(with_reducible refine (qbc.calls k1 (fun k_=>some k_=(.slice Ao35 x3_1.length co35:Value).ownBlock) (.slice Ao35 x3_1.length co35) x3_1 t127 w _ ?side1 ?side2 A34.out).mono ?_);(case side1=>repeat ((with_reducible exact HB.out)));(case side2=>exact Kd.R_tight rfl HO_3.out);rintro e w36 ⟨v128,rfl,ho0,hb,hkp⟩;refine ⟨_,rfl,?_⟩;have n0_:=qaa.mk (qen (by (with_reducible repeat (refine qab ?_));exact BK126.out) hkp (fun hs_=>(fun e_=>(Kd.R_ne HO_3.out BK126.out (by decide)) e_) hs_));have n1_:=qaa.mk (Kd.V_mono (ok':=fun k_=>(w.heap.size≤k_)∧k_≠gb126) ho0 (fun k_ hk_=>⟨Or.elim hk_ (fun hs_=>(HO_3.out.1 k_ (hs_).symm)) (fun hn_=>(Nat.le_trans (qac HB.out) hn_)),Or.elim hk_ (fun hs_=>fun e_=>(Kd.R_ne HO_3.out BK126.out (by decide)) (by rw [← e_];exact hs_)) (fun hn_=>(Kd.freshB (g:=gb126) (o:=.cells #[.slice none 0 0] 38 (0,0)) (by (with_reducible repeat (refine qab ?_));exact BK126.out) k_ hn_))⟩));have n2_:=qaa.mk (hb);clear BK126;clear HB;clear HO_3;have BK126:=n0_;have HO129:=n1_;have HB:=n2_;clear n0_ n1_ n2_;(try clear hb);(try clear hkp);(try clear ho0);obtain ⟨Ao37,co37,eo37⟩:=Kd.V_slice HO129.out;subst eo37;have hcz38_0:w36.cell? ⟨gb126,0,none⟩=some (.slice none 0 0):=(qad BK126.out 0).trans rfl;have hfz38_0:=qaf BK126.out 0))
    refine bodyPost_ret (results_cell_row rfl _ _ gb126 38 #[.slice Ao37 t127.length co37] (0,0) _ rfl (by (with_reducible repeat (refine qab ?_));refine qcs (cs:=#[.slice none 0 0]) ?_ 0 _ rfl;(with_reducible repeat (refine qab ?_));exact BK126.out) Tryd.underlying38 rfl (by kernel_rfl)) rfl ?_
    exact ⟨_,by rfl,by (with_reducible repeat (apply Kd.V_drew));exact Kd.V_mono (Kd.V_far (p:=⟨gb126,0,none⟩) (Kd.V_mono HO129.out (fun k_ hk=>(⟨hk,hk.2⟩:_∧k_≠gb126))) (fun _ hk=>hk.2) (.slice Ao37 t127.length co37)) (fun _ hk=>hk.1.1),by repeat ((with_reducible first|exact HB.out|refine qbx ?_ GE126.out))⟩
end Go.Proofs.YtmfjmbcfaamebaaDoor.X
namespace Go.Proofs.YtmfjmbcfaamebaaDoor.X
open Go.RowKit Go.Proofs.YtmfjmbcfaamebaaDoorW.PrintWords Go.Proofs.YtmfjmbcfaamebaaDoorW.PrintLast Go.Proofs.YtmfjmbcfaamebaaDoorW.PrintMore
attribute [local go_sem] qbs qcb
set_option linter.unusedVariables false
set_option linter.unusedSimpArgs false
def qch.f (l0_0:List Int) (a1:Int):Option (Int):=if a1<(l0_0.length:Int) then (if 0≤a1 then (some (rd l0_0 a1)) else (none)) else (some 0)
set_option maxHeartbeats 8000000 in
set_option maxRecDepth 100000 in
theorem qch.calls (A0_0:Option Addr) (c0_0:Nat) (l0_0:List Int) (a1:Int) (r:Int) (w:World) (hr0_0:Kd.C (Kd.int .u64) w A0_0 l0_0.length l0_0) (hc0_0:l0_0.length≤c0_0) (h:qch.f l0_0 a1=some r) :
  Calls Tryd.prog 65 #[.agg #[.slice A0_0 l0_0.length c0_0],.int .i64 a1] w fun e w'=>e=.returned (.int .u64 r)∧Below w.heap.size w w':=by
 have hu38:=Tryd.underlying38
 have HR0_0:=qaa.mk hr0_0
 have HC0_0:=qaa.mk hc0_0
 clear hr0_0 hc0_0
 have HB:=qaa.mk (Below.refl w.heap.size w)
 have H:(if a1<(l0_0.length:Int) then (if 0≤a1 then (some (rd l0_0 a1)) else (none)) else (some 0))=some r:=h
 clear h
 by_cases c3:a1<(l0_0.length:Int)
 ·rw [if_pos c3] at H
  have c3b0:decide (a1<(l0_0.length:Int))=true:=decide_eq_true c3
  clear c3
  by_cases c4:0≤a1
  ·rw [if_pos c4] at H
   have c4b0:decide (0≤a1)=true:=decide_eq_true c4
   clear c4
   obtain rfl:=Option.some.inj H
   go_enter Tryd.func65,Tryd.ntmps65
   go_wp2_with (((with_reducible refine qbf (N:=2) rfl ?_);refine qbr ?hg (N:=2) ?hd (cs:=#[.slice A0_0 l0_0.length c0_0]) (t:=38) ?hr ?_;(case hd=>rfl);(case hg=>rfl);(case hr=>(go_simp;done));intro gb139 hg w5 hbox hb;have BK139:=qaa.mk (hbox);have GW139:=qaa.mk ((by rw [hg];exact (qac HB.out):w.heap.size≤gb139));have GE139:=qaa.mk ((by rw [hg];exact (qac HB.out):w.heap.size≤gb139));replace HB:=qaa.mk (qal HB.out hb);clear hb hbox hg;have hcz6_0:w5.cell? ⟨gb139,0,none⟩=some (.slice A0_0 l0_0.length c0_0):=(qad BK139.out 0).trans rfl;have hfz6_0:=qaf BK139.out 0;have p140:0≤(a1:Int):=of_decide_eq_true (by (with_reducible assumption));have q140:a1<(l0_0.length:Int):=of_decide_eq_true (by (with_reducible assumption));obtain ⟨ad140,e140,hx140_0⟩:=Kd.at_int HR0_0.out a1 p140 q140;cases e140;replace hx140_0:=(HB.out.cell (World.block_lt_of_cell? w _ hx140_0)).trans hx140_0;replace p140:=eq_true p140;replace q140:=eq_true q140))
   go_ret
   exact ⟨by rfl,by repeat ((with_reducible exact HB.out))⟩
  ·rw [if_neg c4] at H
   exact absurd H (by simp)
 ·rw [if_neg c3] at H
  have c3b0:decide (a1<(l0_0.length:Int))=false:=decide_eq_false c3
  clear c3
  obtain rfl:=Option.some.inj H
  go_enter Tryd.func65,Tryd.ntmps65
  go_wp2_with (((with_reducible refine qbf (N:=2) rfl ?_);refine qbr ?hg (N:=2) ?hd (cs:=#[.slice A0_0 l0_0.length c0_0]) (t:=38) ?hr ?_;(case hd=>rfl);(case hg=>rfl);(case hr=>(go_simp;done));intro gb139 hg w7 hbox hb;have BK139:=qaa.mk (hbox);have GW139:=qaa.mk ((by rw [hg];exact (qac HB.out):w.heap.size≤gb139));have GE139:=qaa.mk ((by rw [hg];exact (qac HB.out):w.heap.size≤gb139));replace HB:=qaa.mk (qal HB.out hb);clear hb hbox hg;have hcz8_0:w7.cell? ⟨gb139,0,none⟩=some (.slice A0_0 l0_0.length c0_0):=(qad BK139.out 0).trans rfl;have hfz8_0:=qaf BK139.out 0))
  go_ret
  exact ⟨by rfl,by repeat ((with_reducible exact HB.out))⟩
end Go.Proofs.YtmfjmbcfaamebaaDoor.X
namespace Go.Proofs.YtmfjmbcfaamebaaDoor.X
open Go.RowKit Go.Proofs.YtmfjmbcfaamebaaDoorW.PrintWords Go.Proofs.YtmfjmbcfaamebaaDoorW.PrintLast Go.Proofs.YtmfjmbcfaamebaaDoorW.PrintMore
attribute [local go_sem] qbs qcb
set_option linter.unusedVariables false
set_option linter.unusedSimpArgs false
def qbz.f (l0_0:List Int) (a1:Int):Option (Bool):=(qdj.f a1).bind fun t142=>(if t142=true then ((qch.f l0_0 (wrap64 (Int.tdiv a1 64))).bind fun t143=>(if 0≤(Int.tmod a1 64) then (some ((Go.bits .and .u64 (shr .u64 t143 (Int.tmod a1 64)) 1)==1)) else (none))) else (some false))
set_option maxHeartbeats 8000000 in
set_option maxRecDepth 100000 in
theorem qbz.calls (A0_0:Option Addr) (c0_0:Nat) (l0_0:List Int) (a1:Int) (r:Bool) (w:World) (hr0_0:Kd.C (Kd.int .u64) w A0_0 l0_0.length l0_0) (hc0_0:l0_0.length≤c0_0) (h:qbz.f l0_0 a1=some r) :
  Calls Tryd.prog 38 #[.agg #[.slice A0_0 l0_0.length c0_0],.int .i64 a1] w fun e w'=>e=.returned (.bool r)∧Below w.heap.size w w':=by
 have hu38:=Tryd.underlying38
 have HR0_0:=qaa.mk hr0_0
 have HC0_0:=qaa.mk hc0_0
 clear hr0_0 hc0_0
 have HB:=qaa.mk (Below.refl w.heap.size w)
 have H:((qdj.f a1).bind fun t142=>(if t142=true then ((qch.f l0_0 (wrap64 (Int.tdiv a1 64))).bind fun t143=>(if 0≤(Int.tmod a1 64) then (some ((Go.bits .and .u64 (shr .u64 t143 (Int.tmod a1 64)) 1)==1)) else (none))) else (some false)))=some r:=h
 clear h
 replace H:=Option.bind_eq_some_iff.mp H
 obtain ⟨t142,A30,H⟩:=H
 replace H:(if t142=true then ((qch.f l0_0 (wrap64 (Int.tdiv a1 64))).bind fun t143=>(if 0≤(Int.tmod a1 64) then (some ((Go.bits .and .u64 (shr .u64 t143 (Int.tmod a1 64)) 1)==1)) else (none))) else (some false))=some r:=H
 have A3:=qaa.mk A30
 clear A30
 by_cases c4:t142=true
 ·subst c4
  have H1:((qch.f l0_0 (wrap64 (Int.tdiv a1 64))).bind fun t143=>(if 0≤(Int.tmod a1 64) then (some ((Go.bits .and .u64 (shr .u64 t143 (Int.tmod a1 64)) 1)==1)) else (none)))=some r:=by rw [if_pos rfl] at H;exact H
  clear H
  have H:=H1
  clear H1
  replace H:=Option.bind_eq_some_iff.mp H
  obtain ⟨t143,A50,H⟩:=H
  replace H:(if 0≤(Int.tmod a1 64) then (some ((Go.bits .and .u64 (shr .u64 t143 (Int.tmod a1 64)) 1)==1)) else (none))=some r:=H
  have A5:=qaa.mk A50
  clear A50
  obtain ⟨ji6,hji6⟩:∃ j_:Int,(Int.tmod a1 64)=j_:=⟨_,rfl⟩
  replace H:(if 0≤(ji6) then (some ((Go.bits .and .u64 (shr .u64 t143 (ji6)) 1)==1)) else (none))=some r:=by (rw [hji6] at H;exact H)
  by_cases c7:0≤(ji6)
  ·rw [if_pos c7] at H
   have c7b0:=eq_true c7
   have c7b1:decide (0≤(ji6))=true:=decide_eq_true c7
   clear c7
   obtain ⟨ji8,hji8⟩:∃ j_:Int,(shr .u64 t143 (ji6))=j_:=⟨_,rfl⟩
   replace H:(some ((Go.bits .and .u64 (ji8) 1)==1))=some r:=by (rw [hji8] at H;exact H)
   have hji8_:(t143/2 ^ min (ji6).toNat 64)=ji8:=hji8
   have hji8z:(ji6)≤64→(t143/2 ^ (ji6).toNat)=ji8:=shr_small hji8
   obtain rfl:=Option.some.inj H
   go_enter Tryd.func38,Tryd.ntmps38
   go_wp2_with (first|((with_reducible refine qbf (N:=2) rfl ?_);refine qbr ?hg (N:=2) ?hd (cs:=#[.slice A0_0 l0_0.length c0_0]) (t:=38) ?hr ?_;(case hd=>rfl);(case hg=>rfl);(case hr=>(go_simp;done));intro gb141 hg w9 hbox hb;have BK141:=qaa.mk (hbox);have GW141:=qaa.mk ((by rw [hg];exact (qac HB.out):w.heap.size≤gb141));have GE141:=qaa.mk ((by rw [hg];exact (qac HB.out):w.heap.size≤gb141));replace HB:=qaa.mk (qal HB.out hb);clear hb hbox hg)|((with_reducible refine qbb (f:=61) rfl ?_);refine qcv (some 6) rfl rfl Tryd.func61 (by kernel_rfl) rfl #[.int .i64 a1] rfl (by (try simp only [List.map_toArray,List.map_cons,List.map_nil]);rfl) ?_;(with_reducible refine (qdj.calls a1 true _ A3.out).mono ?_);rintro e w' ⟨rfl,⟨nd,rfl⟩⟩;refine ⟨_,rfl,?_⟩;have hcz10_0:w9.cell? ⟨gb141,0,none⟩=some (.slice A0_0 l0_0.length c0_0):=(qad BK141.out 0).trans rfl;have hfz10_0:=qaf BK141.out 0)|(go_at_call 65;(with_reducible refine (qch.calls _ _ l0_0 (wrap64 (Int.tdiv a1 64)) t143 _ ?side1 ?side2 A5.out).mono ?_);(case side1=>repeat (exact (Kd.C_below HR0_0.out (by repeat ((with_reducible first|exact HB.out|apply qav))))));(case side2=>exact HC0_0.out);rintro e w11 ⟨rfl,hb⟩;replace BK141:=qaa.mk (qah (g:=gb141) (o:=.cells #[.slice A0_0 l0_0.length c0_0] 38 (0,0)) (by (with_reducible repeat (refine qde ?_ _));exact BK141.out) hb);replace HB:=qaa.mk (qal (by repeat ((with_reducible first|exact HB.out|apply qav))) hb);(try clear hb)))
   go_ret
   exact ⟨by rfl,by repeat ((with_reducible exact HB.out))⟩
  ·rw [if_neg c7] at H
   exact absurd H (by simp)
 ·replace c4:=Bool.eq_false_iff.mpr c4
  subst c4
  have H1:(some false)=some r:=by rw [if_neg (show ¬ (false=true) by decide)] at H;exact H
  clear H
  have H:=H1
  clear H1
  obtain rfl:=Option.some.inj H
  go_enter Tryd.func38,Tryd.ntmps38
  go_wp2_with (first|((with_reducible refine qbf (N:=2) rfl ?_);refine qbr ?hg (N:=2) ?hd (cs:=#[.slice A0_0 l0_0.length c0_0]) (t:=38) ?hr ?_;(case hd=>rfl);(case hg=>rfl);(case hr=>(go_simp;done));intro gb141 hg w12 hbox hb;have BK141:=qaa.mk (hbox);have GW141:=qaa.mk ((by rw [hg];exact (qac HB.out):w.heap.size≤gb141));have GE141:=qaa.mk ((by rw [hg];exact (qac HB.out):w.heap.size≤gb141));replace HB:=qaa.mk (qal HB.out hb);clear hb hbox hg)|((with_reducible refine qbb (f:=61) rfl ?_);refine qcv (some 6) rfl rfl Tryd.func61 (by kernel_rfl) rfl #[.int .i64 a1] rfl (by (try simp only [List.map_toArray,List.map_cons,List.map_nil]);rfl) ?_;(with_reducible refine (qdj.calls a1 false _ A3.out).mono ?_);rintro e w' ⟨rfl,⟨nd,rfl⟩⟩;refine ⟨_,rfl,?_⟩))
  go_ret
  exact ⟨by rfl,by repeat ((with_reducible first|exact HB.out|apply qav))⟩
end Go.Proofs.YtmfjmbcfaamebaaDoor.X
namespace Go.Proofs.YtmfjmbcfaamebaaDoor.X
open Go.RowKit Go.Proofs.YtmfjmbcfaamebaaDoorW.PrintWords Go.Proofs.YtmfjmbcfaamebaaDoorW.PrintLast Go.Proofs.YtmfjmbcfaamebaaDoorW.PrintMore
attribute [local go_sem] qbs qcb
set_option linter.unusedVariables false
set_option linter.unusedSimpArgs false
theorem qdq.key (x a:Nat) (hx:x<18446744073709551616) (hlow:x &&& (18446744073709551616-x)=a) :
  IntKind.u64.wrap (Go.bits BinOp.and IntKind.u64 (x:Int) (IntKind.u64.wrap (-(x:Int)))*285870213051353865)/288230376151711744=((a*285870213051353865 % 18446744073709551616/288230376151711744:Nat):Int):=by
 by_cases h0:x=0
 ·subst h0
  subst hlow
  simp [IntKind.wrap_u64,Go.bits]
 ·have e1:IntKind.u64.wrap (-(x:Int))=((18446744073709551616-x:Nat):Int):=by rw [IntKind.wrap_u64];omega
  rw [e1,bits_and_u64_nat x _ hx (by omega),hlow,IntKind.wrap_u64]
  omega
set_option maxHeartbeats 1000000 in
theorem qdq.core (x k idx:Nat) (w:World) (hx0:((x:Int)==0)=false)
  (key:IntKind.u64.wrap (Go.bits BinOp.and IntKind.u64 (x:Int) (IntKind.u64.wrap (-(x:Int)))*285870213051353865)/288230376151711744=(idx:Int))
  (hi:idx<64) (hk:k<64) (hcell:w.cell? ⟨0,idx,none⟩=some (.int .u8 k)) :
  Calls Tryd.prog 77 #[.int .u64 x] w fun e w'=>e=.returned (.int .i64 k)∧w=w':=by
 go_enter Tryd.func77,Tryd.ntmps77
 go_wp2_with (simp only [key])
 go_ret
 exact ⟨rfl,rfl⟩
theorem qdq.calls (x:Nat) (hx:x<18446744073709551616) (hx0:x≠0) (w:World) (hT:TabW w) :
  Calls Tryd.prog 77 #[.int .u64 x] w fun e w'=>e=.returned (.int .i64 (Lib.ctz 64 x))∧w=w':=by
 obtain ⟨hlow,hk⟩:=Lib.lowest_bit 64 x hx0 hx
 obtain ⟨hi,htab⟩:=Lib.deBruijn64_at _ hk
 have hcell:=hT.2.2 _ (Nat.lt_of_lt_of_le hi hT.1)
 rw [htab] at hcell
 exact qdq.core x _ _ w (by simp;omega) (qdq.key x _ hx hlow) hi hk hcell
end Go.Proofs.YtmfjmbcfaamebaaDoor.X
namespace Go.Proofs.YtmfjmbcfaamebaaDoor.X
open Go.RowKit Go.Proofs.YtmfjmbcfaamebaaDoorW.PrintWords Go.Proofs.YtmfjmbcfaamebaaDoorW.PrintLast Go.Proofs.YtmfjmbcfaamebaaDoorW.PrintMore
attribute [local go_sem] qbs qcb
set_option linter.unusedVariables false
set_option linter.unusedSimpArgs false
attribute [local go_sem] Oper.semAt_some
def setOk (l:List Int):Bool:=decide (l.length≤1099511627776)&&l.all (fun x=>decide (0≤x)&&decide (x<18446744073709551616))
theorem setOk_len {l:List Int} (h:setOk l=true):l.length≤1099511627776:=by simp [setOk] at h;exact h.1
theorem qge {l:List Int} (h:setOk l=true) {x:Int} (hx:x∈l):0≤x∧x<18446744073709551616:=by simp [setOk] at h;exact h.2 x hx
abbrev Elt (ws:List Int):={ x:Int // x∈els ws }
def vals {ws:List Int} (pre:List (Elt ws)):List Int:=pre.map (·.1)
theorem vals_snoc {ws:List Int} (pre:List (Elt ws)) (x:Elt ws):vals (pre++[x])=vals pre++[x.1]:=by simp [vals]
theorem elsFrom_drop (ws:List Int) (i k:Nat) (h:k<ws.length):qdz i (ws.drop k)=(qfy (rd ws k).toNat).map (fun j=>((i*64+j:Nat):Int))++qdz (i+1) (ws.drop (k+1)):=by
 rw [List.drop_eq_getElem_cons h]
 simp [qdz,rd,h]
set_option maxRecDepth 100000 in
set_option maxHeartbeats 4000000 in
theorem qey.round_in (n:Nat) (l Bs:Nat) (Kp:World→World→Prop) (hKr:∀ X,Kp X X) (hKt:∀ {X Y Z:World},Kp X Y→Kp Y Z→Kp X Z) (A:Option Addr) (c:Nat) (ws:List Int) (hok:setOk ws=true) (J Jx:List (Elt ws)→World→Prop) (W:World) (hT:∀ W',Kp W W'→TabW W')
  (hY:∀ pre x W1,J pre W1→pre.length<(els ws).length→YieldAt Fence.wide (n-1) Tryd.prog l #[.int .i64 x.1] W1 fun e W'=>
   (e=.returned (.bool true)∧J (pre++[x]) W'∧Kp W1 W')∨(e=.returned (.bool false)∧Jx (pre++[x]) W'))
  (hBs:W.cell? ⟨Bs,0,none⟩=some (.slice A ws.length c)) (hC:∀ W',Kp W W'→Kd.C (Kd.int .u64) W' A ws.length ws) (h0:J [] W) :
  CallsIn Fence.wide n Tryd.prog 76 #[.func (.yield l) #[] #[],.pointer (some ⟨Bs,0,none⟩)] W fun e W'=>(∃ v,e=.returned v)∧
   ((∃ xs:List (Elt ws),xs.map (·.1)=els ws∧J xs W')∨(∃ pre:List (Elt ws),pre.map (·.1) <+: els ws∧Jx pre W')):=by
 have hlen:=setOk_len hok
 refine callsIn_of_wp Tryd.func76 rfl trivial ?_ rfl
 simp only [Tryd.ntmps76,List.size_toArray,List.length_cons,List.length_nil,Nat.reduceAdd,Nat.reduceSub,Array.replicate_succ,Array.replicate_zero,List.push_toArray,List.append_toArray,List.nil_append,List.cons_append]
 gi_wp2
 gi_loopw [8] (fun i wr=>∃ k:Nat,k≤ws.length∧i=.int .i64 k∧∃ pre:List (Elt ws),pre.map (·.1)++qdz k (ws.drop k)=els ws∧J pre wr∧Kp W wr)
  (fun i _=>ws.length-(intOf i).toNat)
 case atStart=>exact ⟨0,Nat.zero_le _,rfl,[],by simp [els],h0,hKr _⟩
 case round=>
  obtain ⟨k,hk,rfl,pre0,hpre0,hJ0,hB0⟩:=hrel
  have HPre0:=qaa.mk hpre0
  clear hpre0
  by_cases hlt:k<ws.length
  ·obtain ⟨ad,e1,hx⟩:=Kd.at_int (hC wr hB0) (k:Int) (by omega) (by omega)
   cases e1
   rw [Int.toNat_natCast] at hx
   obtain ⟨v0,hv0⟩:∃ v0:Nat,rd ws k=(v0:Int):=⟨(rd ws k).toNat,by
    have:=qge hok (x:=rd ws k) (by simp [rd,hlt]);omega⟩
   have hv0lt:v0<18446744073709551616:=by
    have:=qge hok (x:=rd ws k) (by simp [rd,hlt]);omega
   have HV0:=qaa.mk hv0
   rw [hv0] at hx
   clear hv0
   obtain ⟨wo,rfl⟩:∃ wo:World,wo=wr:=⟨_,rfl⟩
   gi_wp2
   gi_loopw [4] (fun v wr2=>∃ x:Nat,x<18446744073709551616∧v=.int .u64 x∧∃ pre:List (Elt ws),qaa (pre.map (·.1)++((qfy x).map (fun j=>((k*64+j:Nat):Int))++qdz (k+1) (ws.drop (k+1)))=els ws)∧J pre wr2∧Kp W wr2)
    (fun v _=>(intOf v).toNat)
   case atStart=>
    refine ⟨v0,hv0lt,rfl,pre0,⟨?_⟩,hJ0,hB0⟩
    refine Eq.trans ?_ HPre0.out
    rw [elsFrom_drop ws k k hlt,HV0.out,Int.toNat_natCast]
   case round=>
    obtain ⟨x,hxlt,rfl,pre,hpre,hJ,hB⟩:=hrel
    by_cases hx0:x=0
    ·subst hx0
     gi_wp2
     go_roundw
     case rel=>
      refine ⟨k+1,by omega,by go_num,pre,?_,hJ,hB⟩
      have:=hpre.out
      simpa [bitsW_zero] using this
     case measure=>simp [intOf];omega
    ·have hst:=bitsW_step hx0 (by omega)
     obtain ⟨cz,hcz⟩:∃ cz,Lib.ctz 64 x=cz:=⟨_,rfl⟩
     have hczl:cz<64:=by rw [← hcz];exact (Lib.lowest_bit 64 x hx0 (by omega)).2
     have hmem:((k*64+cz:Nat):Int)∈els ws:=by rw [← hpre.out,hst,hcz];simp
     have hpl:pre.length<(els ws).length:=by rw [← hpre.out,hst];simp
     obtain ⟨fn,tmps,assign,body,hy,hR⟩:=hY pre ⟨((k*64+cz:Nat):Int),hmem⟩ _ hJ hpl
     dsimp only at hy
     rw [show ((k*64+cz:Nat):Int)=(k:Int)*64+(cz:Int) by simp] at hy
     have hxn:((x:Int)!=0)=true:=by simp;omega
     have hxe:((x:Int)==0)=false:=by simp;omega
     have hTz:=qdq.calls x (by omega) hx0 _ (hT _ hB)
     rw [hcz] at hTz
     have HTz:=Lib.hid hTz
     clear hTz
     have HSt:=qaa.mk hst
     have HCz:=qaa.mk hcz
     clear hst hcz
     have hand:Go.bits .and .u64 (x:Int) ((x:Int)-1)=((x &&& (x-1):Nat):Int):=by
      rw [show (x:Int)-1=((x-1:Nat):Int) by omega]
      exact bits_and_u64_nat x (x-1) (by omega) (by omega)
     have HAnd:=Lib.hid hand
     clear hand
     have hdec:x &&& (x-1)<x:=Nat.lt_of_le_of_lt Nat.and_le_right (by omega)
     gi_wp2_with (refine ⟨trivial,fun h_=>absurd h_ (by decide),?_⟩;refine (callsIn_wide.2 (HTz.out)).mono ?_;rintro e w' ⟨rfl,rfl⟩)
     refine ⟨fun h_=>absurd h_ (by decide),?_⟩
     refine hR.mono ?_
     rintro e W3 (⟨rfl,hJ3,hk3⟩|⟨rfl,hJx3⟩)
     ·gi_wp2
      go_roundw
      case rel=>exact ⟨x &&& (x-1),by omega,by rw [HAnd.out],pre++[⟨((k*64+cz:Nat):Int),hmem⟩],⟨by refine Eq.trans ?_ hpre.out;rw [HSt.out,HCz.out];simp⟩,hJ3,hKt hB hk3⟩
      case measure=>simp only [intOf];simp;rw [HAnd.out];omega
     ·gi_wp2
      refine bodyPost_ret (results_none rfl _ _ _) rfl ?_
      exact ⟨⟨_,rfl⟩,.inr ⟨pre++[⟨((k*64+cz:Nat):Int),hmem⟩],⟨(qfy (x &&& (x-1))).map (fun j=>((k*64+j:Nat):Int))++qdz (k+1) (ws.drop (k+1)),by refine Eq.trans ?_ hpre.out;rw [HSt.out,HCz.out];simp⟩,hJx3⟩⟩
  ·obtain rfl:k=ws.length:=by omega
   gi_wp2
   go_end0
   refine ⟨⟨_,rfl⟩,.inl ⟨pre0,?_,hJ0⟩⟩
   have:=HPre0.out
   simpa [qdz] using this
end Go.Proofs.YtmfjmbcfaamebaaDoor.X
namespace Go.Proofs.YtmfjmbcfaamebaaDoor.X
open Go.RowKit Go.Proofs.YtmfjmbcfaamebaaDoorW.PrintWords Go.Proofs.YtmfjmbcfaamebaaDoorW.PrintLast Go.Proofs.YtmfjmbcfaamebaaDoorW.PrintMore
attribute [local go_sem] qbs qcb
set_option linter.unusedVariables false
set_option linter.unusedSimpArgs false
open Go.Shelf
theorem qda.calls_in (v:Value) (w:World) :
  Calls Tryd.prog 52 #[.agg #[v]] w fun e w'=>e=.returned (.func (.func 76) #[] #[.pointer (some ⟨w.heap.size,0,none⟩)])∧w'=w.alloc (.cells #[v] 38):=by
 go_enter Tryd.func52,Tryd.ntmps52
 go_wp2
 go_ret
 exact ⟨rfl,rfl⟩
theorem qda.stops (n Bs:Nat) (Kp:World→World→Prop) (hKr:∀ X,Kp X X) (hKt:∀ {X Y Z:World},Kp X Y→Kp Y Z→Kp X Z) (A:Option Addr) (c:Nat) (ws:List Int) (w:World) (hKb:∀ {X Y:World},Below w.heap.size w X→Kp X Y→Kp w Y) (hok:setOk ws=true) (hBs:Bs<w.heap.size) (hT:∀ W',Kp w W'→TabW W')
  (hc:w.cell? ⟨Bs,0,none⟩=some (.slice A ws.length c)) (hC:∀ W',Kp w W'→Kd.C (Kd.int .u64) W' A ws.length ws) :
  SeqStopsK Fence.wide n Tryd.prog 76 #[.pointer (some ⟨Bs,0,none⟩)] (fun x:Elt ws=>#[Value.int .i64 x.1]) Kp (fun ys=>ys.map (·.1)=els ws) (fun pre=>pre.map (·.1) <+: els ws) (els ws).length w:=fun l J Jx W hW _ _ hY h0=>
 qey.round_in n l Bs Kp hKr hKt A c ws hok J Jx W (fun W' h=>hT W' (hKb hW h)) hY ((hW.cell (p:=⟨Bs,0,none⟩) hBs).trans hc) (fun W' h=>hC W' (hKb hW h)) h0
theorem qda.stopsB (n Bs n₀:Nat) (A:Option Addr) (c:Nat) (ws:List Int) (w:World) (hok:setOk ws=true) (hBs:Bs<w.heap.size) (hn₀:n₀≤w.heap.size) (hT0:0<n₀) (hT:TabW w)
  (hc:w.cell? ⟨Bs,0,none⟩=some (.slice A ws.length c)) (hC:∀ W',Below n₀ w W'→Kd.C (Kd.int .u64) W' A ws.length ws) :
  SeqStopsK Fence.wide n Tryd.prog 76 #[.pointer (some ⟨Bs,0,none⟩)] (fun x:Elt ws=>#[Value.int .i64 x.1]) (Below n₀) (fun ys=>ys.map (·.1)=els ws) (fun pre=>pre.map (·.1) <+: els ws) (els ws).length w:=fun l J Jx W hW _ _ hY h0=>
 qey.round_in n l Bs (Below n₀) (fun X=>Below.refl _ X) (fun h h'=>h.trans h') A c ws hok J Jx W (fun W' h=>(hT.below (Nat.le_refl _) hW).below0 hT0 h) hY ((hW.cell (p:=⟨Bs,0,none⟩) hBs).trans hc) (fun W' h=>hC W' ((hW.mono hn₀).trans h)) h0
def But (n₀ g:Nat) (W W':World):Prop:=W.heap.size≤W'.heap.size∧∀ k,k<n₀→k≠g→W'.heap[k]?=W.heap[k]?
theorem But.refl (n₀ g:Nat) (W:World):But n₀ g W W:=⟨Nat.le_refl _,fun _ _ _=>rfl⟩
theorem But.trans {n₀ g:Nat} {X Y Z:World} (h:But n₀ g X Y) (h':But n₀ g Y Z):But n₀ g X Z:=⟨Nat.le_trans h.1 h'.1,fun k hk hg=>(h'.2 k hk hg).trans (h.2 k hk hg)⟩
theorem But.of_below {n n₀ g:Nat} {X Y:World} (h:Below n X Y) (hn:n₀≤n):But n₀ g X Y:=⟨h.size,fun k hk _=>h.block k (Nat.lt_of_lt_of_le hk hn)⟩
theorem But.setCell {n₀ g:Nat} (W:World) (i:Nat) (v:Value):But n₀ g W (W.setCell ⟨g,i,none⟩ v):=⟨by simp,fun k _ hg=>Below.heap_setCell _ _ _ _ hg⟩
theorem But.putObj {n₀ g l:Nat} (W:World) (o:Obj) (hl:n₀≤l):But n₀ g W (W.putObj l o):=⟨by simp,fun k hk _=>World.putObj_heap_other (by omega)⟩
theorem But.tab {n₀ g:Nat} {W W':World} (h:TabW W) (h0:0<n₀) (hg:0≠g) (hb:But n₀ g W W'):TabW W':=
 ⟨h.1,Nat.lt_of_lt_of_le h.2.1 hb.1,fun j hj=>(World.cell?_of_block (w:=W) (hb.2 _ h0 hg)).trans (h.2.2 j hj)⟩
theorem ownFrom_but {β:Type} {n₀ g B:Nat} {w₀:World} (hn:n₀≤w₀.heap.size) (hB:n₀≤B):OwnFrom B (fun (_:β) W=>But n₀ g w₀ W):=fun _ _ _ _ hs hg hr=>
 ⟨Nat.le_trans hs.1 hg.size,fun k hk hne=>by
  exact (hg.block k (Nat.lt_of_lt_of_le (Nat.lt_of_lt_of_le hk hn) hs.1) (fun e=>by have:=(hr k e.symm).1;omega)).trans (hs.2 k hk hne)⟩
end Go.Proofs.YtmfjmbcfaamebaaDoor.X
namespace Go.Proofs.YtmfjmbcfaamebaaDoor.X
open Go.RowKit Go.Proofs.YtmfjmbcfaamebaaDoorW.PrintWords Go.Proofs.YtmfjmbcfaamebaaDoorW.PrintLast Go.Proofs.YtmfjmbcfaamebaaDoorW.PrintMore
attribute [local go_sem] qbs qcb
set_option linter.unusedVariables false
set_option linter.unusedSimpArgs false
def cfg_node.f (a0_0:Bool) (a0_1:Int) (l0_2:List (S60)) (a1:Int):Option (Bool):=if a1≥0 then (some (decide (a1<(l0_2.length:Int)))) else (some false)
set_option maxHeartbeats 8000000 in
set_option maxRecDepth 100000 in
theorem cfg_node.calls (a0_0:Bool) (a0_1:Int) (A0_2:Option Addr) (c0_2:Nat) (l0_2:List (S60)) (a1:Int) (r:Bool) (w:World) (hr0_2:Kd.C k60 w A0_2 l0_2.length l0_2) (hc0_2:l0_2.length≤c0_2) (h:cfg_node.f a0_0 a0_1 l0_2 a1=some r) :
  Calls Tryd.prog 80 #[.agg #[.bool a0_0,.int .i64 a0_1,.slice A0_2 l0_2.length c0_2],.int .i64 a1] w fun e w'=>e=.returned (.bool r)∧Below w.heap.size w w':=by
 have hu24:=Tryd.underlying24
 have HR0_2:=qaa.mk hr0_2
 have HC0_2:=qaa.mk hc0_2
 clear hr0_2 hc0_2
 have HB:=qaa.mk (Below.refl w.heap.size w)
 have H:(if a1≥0 then (some (decide (a1<(l0_2.length:Int)))) else (some false))=some r:=h
 clear h
 by_cases c3:a1≥0
 ·rw [if_pos c3] at H
  have c3b0:decide (0≤a1)=true:=decide_eq_true c3
  clear c3
  obtain rfl:=Option.some.inj H
  go_enter Tryd.func80,Tryd.ntmps80
  go_wp2_with (((with_reducible refine qbf (N:=2) rfl ?_);(try (refine qcl (by rfl) ?_;dsimp only));refine qbr ?hg (N:=2) ?hd (cs:=#[.bool a0_0,.int .i64 a0_1,.slice A0_2 l0_2.length c0_2]) (t:=24) ?hr ?_;(case hd=>rfl);(case hg=>rfl);(case hr=>(go_simp;done));intro gb159 hg w4 hbox hb;have BK159:=qaa.mk (hbox);have GW159:=qaa.mk ((by rw [hg];exact (qac HB.out):w.heap.size≤gb159));have GE159:=qaa.mk ((by rw [hg];exact (qac HB.out):w.heap.size≤gb159));replace HB:=qaa.mk (qal HB.out hb);clear hb hbox hg;have hcz5_0:w4.cell? ⟨gb159,0,none⟩=some (.bool a0_0):=(qad BK159.out 0).trans rfl;have hcz5_1:w4.cell? ⟨gb159,1,none⟩=some (.int .i64 a0_1):=(qad BK159.out 1).trans rfl;have hcz5_2:w4.cell? ⟨gb159,2,none⟩=some (.slice A0_2 l0_2.length c0_2):=(qad BK159.out 2).trans rfl;have hfz5_0:=qaf BK159.out 0;have hfz5_1:=qaf BK159.out 1;have hfz5_2:=qaf BK159.out 2))
  go_ret
  exact ⟨by rfl,by repeat ((with_reducible exact HB.out))⟩
 ·rw [if_neg c3] at H
  have c3b0:decide (0≤a1)=false:=decide_eq_false c3
  clear c3
  obtain rfl:=Option.some.inj H
  go_enter Tryd.func80,Tryd.ntmps80
  go_wp2_with (((with_reducible refine qbf (N:=2) rfl ?_);(try (refine qcl (by rfl) ?_;dsimp only));refine qbr ?hg (N:=2) ?hd (cs:=#[.bool a0_0,.int .i64 a0_1,.slice A0_2 l0_2.length c0_2]) (t:=24) ?hr ?_;(case hd=>rfl);(case hg=>rfl);(case hr=>(go_simp;done));intro gb159 hg w6 hbox hb;have BK159:=qaa.mk (hbox);have GW159:=qaa.mk ((by rw [hg];exact (qac HB.out):w.heap.size≤gb159));have GE159:=qaa.mk ((by rw [hg];exact (qac HB.out):w.heap.size≤gb159));replace HB:=qaa.mk (qal HB.out hb);clear hb hbox hg))
  go_ret
  exact ⟨by rfl,by repeat ((with_reducible exact HB.out))⟩
end Go.Proofs.YtmfjmbcfaamebaaDoor.X
