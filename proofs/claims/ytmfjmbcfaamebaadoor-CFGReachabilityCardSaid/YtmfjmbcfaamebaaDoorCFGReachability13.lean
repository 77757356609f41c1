/- Parts of the proof of the law CFGReachability: words, walks of single functions and plain laws, joined by a program out of the session's texts. -/
import Derived.Test.YtmfjmbcfaamebaaDoorCFGReachability12
import Derived.BigQuiet
import Derived.Laws.BitsAllLaws
set_option linter.unusedVariables false
set_option linter.unusedSimpArgs false
namespace Go.Proofs.YtmfjmbcfaamebaaDoor.X
noncomputable section
open Go.RowKit Go.Proofs.YtmfjmbcfaamebaaDoorW.PrintWords Go.Proofs.YtmfjmbcfaamebaaDoorW.PrintLast Go.Proofs.YtmfjmbcfaamebaaDoorW.PrintMore
attribute [local go_sem] qbr qcc
set_option linter.unusedVariables false
set_option linter.unusedSimpArgs false
def qai.j0:Nat→List Int→Bool→Bool→Int→List (S60)→Int→Int→Option (Bool)
 | 0,_,_,_,_,_,_,_=>none
 | k+1,x2,x16,x584000,x584001,x584002,x585000,x585001=>if x16=true then (some true) else ((qbz.f k x584000 x584001 x584002 x585000).bind fun t587=>((qcl.f t587).bind fun t590=>((qcf.f k x584000 x584001 x584002 x585000).bind fun t593=>((qak.f k t590 t593).bind fun t596=>(if t596=true then ((qav.f k x2).bind fun t597=>((qdy.f k x584000 x584001 x584002 x585000 x585001 t597).bind fun t600=>((qce.f k x584000 x584001 x584002 x585000 x585001 x2).bind fun t601=>(some (t600==t601))))) else (some false))))))
def qai.f (k:Nat) (a0_0:Bool) (a0_1:Int) (l0_2:List (S60)) (a1_0:Int) (a1_1:Int) (l2:List Int):Option (Bool):=(qbt.f k).bind fun t585=>(if t585=true then ((qas.f k a0_0 a0_1 l0_2).bind fun t586=>(if t586=true then (qai.j0 k l2 (decide ((l2.length:Int)>20)) a0_0 a0_1 l0_2 a1_0 a1_1) else (qai.j0 k l2 true a0_0 a0_1 l0_2 a1_0 a1_1))) else (some false))
theorem qai.mono_l:∀ k,(∀ y0 y1 y2 y3 y4 y5 y6,LeO (qai.j0 k y0 y1 y2 y3 y4 y5 y6) (qai.j0 (k+1) y0 y1 y2 y3 y4 y5 y6))
 | 0=>fun _ _ _ _ _ _ _ r h=>by simp [qai.j0] at h
 | k+1=>by
  have ih0:=qai.mono_l k
  ·intro y0 y1 y2 y3 y4 y5 y6
   unfold qai.j0
   repeat' first|(with_reducible exact qav.mono _ _)|(with_reducible exact qdy.mono _ _ _ _ _ _ _)|(with_reducible exact qbz.mono _ _ _ _ _)|(with_reducible exact qak.mono _ _ _)|(with_reducible exact qce.mono _ _ _ _ _ _ _)|(with_reducible exact qcf.mono _ _ _ _ _)|(with_reducible exact LeO.refl _)|(with_reducible refine LeO.ite ?_ ?_)|(with_reducible refine LeO.bind ?_ (fun _=>?_))
theorem qai.mono:∀ a0 a1 a2 a3 a4 a5 k,LeO (qai.f k a0 a1 a2 a3 a4 a5) (qai.f (k+1) a0 a1 a2 a3 a4 a5):=by
 intro a0 a1 a2 a3 a4 a5 k
 have ih0:=qai.mono_l k
 unfold qai.f
 repeat' first|(with_reducible exact ih0 _ _ _ _ _ _ _)|(with_reducible exact qbt.mono _)|(with_reducible exact qas.mono _ _ _ _)|(with_reducible exact LeO.refl _)|(with_reducible refine LeO.ite ?_ ?_)|(with_reducible refine LeO.bind ?_ (fun _=>?_))
def qai.T5:Bool×List (List Nat×List Nat):=(true,[([],[]),([],[]),([1],[1]),([0,2],[0,2]),([3,3],[3]),([],[]),([],[]),([6],[6]),([5,7,4],[5,7]),([4,8,8],[4,8]),([9,9],[9]),([10],[10]),([10],[10]),([12,10],[10,12]),([10],[10]),([14,10],[10,14]),([10],[10]),([16,10,10],[10,16]),([11,13,15,17,17,10],[10,11,13,15,17]),([10],[10]),([10],[10]),([20,10],[10,20]),([10],[10]),([22,10],[10,22]),([10],[10]),([19,21,23,24,18,10],[10,19,21,23,24]),([18,25,10],[10,18,25]),([10,26],[10,26]),([27,25,0,1,2,3,4,5,6,7,8,9,10,11,12,13,14,15,16,17,18,19,20,21,22,23,24,25,26,27],[27])])
def qai.B5:List Nat:=[0,0,2,7,15,0,0,64,255,511,1023,2047,2047,6143,2047,18431,2047,67583,262143,2047,2047,1050623,2047,4196351,2047,33554431,67108863,134217727,268435455]
theorem qai.tab5:rtab .any (opsOf Tryd.f8 5)=qai.T5:=by kernel_rfl
theorem qai.bits5:qeu qai.T5.2 qai.B5=true:=by kernel_rfl
set_option maxHeartbeats 8000000 in
set_option maxRecDepth 100000 in
theorem qai.calls (k:Nat) (a0_0:Bool) (a0_1:Int) (A0_2:Option Addr) (c0_2:Nat) (l0_2:List (S60)) (a1_0:Int) (a1_1:Int) (A2:Option Addr) (c2:Nat) (l2:List Int) (r:Bool) (w:World) (hT:TabW w) (hr0_2:Kd.C k60 w A0_2 l0_2.length l0_2) (hc0_2:l0_2.length≤c0_2) (hr2:Kd.C (Kd.int .i64) w A2 l2.length l2) (hc2:l2.length≤c2) (h:qai.f k a0_0 a0_1 l0_2 a1_0 a1_1 l2=some r) :
  Calls Tryd.prog 8 #[.agg #[.bool a0_0,.int .i64 a0_1,.slice A0_2 l0_2.length c0_2],.agg #[.int .i64 a1_0,.int .i64 a1_1],.slice A2 l2.length c2] w fun e w'=>e=.returned (.bool r)∧Below w.heap.size w w':=by
 have hu24:=Tryd.underlying24
 have hu39:=Tryd.underlying39
 have HR0_2:=qaa.mk hr0_2
 have HC0_2:=qaa.mk hc0_2
 clear hr0_2 hc0_2
 have HR2:=qaa.mk hr2
 have HC2:=qaa.mk hc2
 clear hr2 hc2
 have HTB:=qaa.mk hT
 clear hT
 have HB:=qaa.mk (Below.refl w.heap.size w)
 have H:((qbt.f k).bind fun t585=>(if t585=true then ((qas.f k a0_0 a0_1 l0_2).bind fun t586=>(if t586=true then (qai.j0 k l2 (decide ((l2.length:Int)>20)) a0_0 a0_1 l0_2 a1_0 a1_1) else (qai.j0 k l2 true a0_0 a0_1 l0_2 a1_0 a1_1))) else (some false)))=some r:=h
 clear h
 replace H:=Option.bind_eq_some_iff.mp H
 obtain ⟨t585,A40,H⟩:=H
 replace H:(if t585=true then ((qas.f k a0_0 a0_1 l0_2).bind fun t586=>(if t586=true then (qai.j0 k l2 (decide ((l2.length:Int)>20)) a0_0 a0_1 l0_2 a1_0 a1_1) else (qai.j0 k l2 true a0_0 a0_1 l0_2 a1_0 a1_1))) else (some false))=some r:=H
 have A4:=qaa.mk A40
 clear A40
 by_cases c5:t585=true
 ·subst c5
  have H1:((qas.f k a0_0 a0_1 l0_2).bind fun t586=>(if t586=true then (qai.j0 k l2 (decide ((l2.length:Int)>20)) a0_0 a0_1 l0_2 a1_0 a1_1) else (qai.j0 k l2 true a0_0 a0_1 l0_2 a1_0 a1_1)))=some r:=by rw [if_pos rfl] at H;exact H
  clear H
  have H:=H1
  clear H1
  have HC6:=qaa.mk H
  clear H
  go_enter Tryd.func8,Tryd.ntmps8
  go_upto_region 3 with (first|((with_reducible refine qbg (N:=3) rfl ?_);(try (refine qcm (by rfl) ?_;dsimp only));refine qbn ?hg (N:=3) ?hd (cs:=#[.bool a0_0,.int .i64 a0_1,.slice A0_2 l0_2.length c0_2]) (t:=24) ?hr ?_;(case hd=>rfl);(case hg=>rfl);(case hr=>(go_simp;done));intro gb583 hg w7 hbox hb;have BK583:=qaa.mk (hbox);have GW583:=qaa.mk ((by rw [hg];exact (qad HB.out):w.heap.size≤gb583));have GE583:=qaa.mk ((by rw [hg];exact (qad HB.out):w.heap.size≤gb583));replace HB:=qaa.mk (qal HB.out hb);clear hb hbox hg)|((with_reducible refine qbg (N:=4) rfl ?_);(try (refine qcm (by rfl) ?_;dsimp only));refine qbn ?hg (N:=4) ?hd (cs:=#[.int .i64 a1_0,.int .i64 a1_1]) (t:=39) ?hr ?_;(case hd=>rfl);(case hg=>rfl);(case hr=>(go_simp;done));intro gb584 hg w8 hbox hb;have BK584:=qaa.mk (hbox);have GW584:=qaa.mk ((by rw [hg];exact (qad HB.out):w.heap.size≤gb584));have GE584:=qaa.mk ((by rw [hg];exact (qad HB.out):w.heap.size≤gb584));replace HB:=qaa.mk (qal HB.out hb);have NB583_584:=qaa.mk ((by rw [hg];exact Nat.ne_of_lt (qbl (g:=gb583) (o:=.cells #[.bool a0_0,.int .i64 a0_1,.slice A0_2 l0_2.length c0_2] 24 (0,0)) (by (with_reducible repeat (refine qab ?_));exact BK583.out)):gb583≠gb584));have NB584_583:=qaa.mk ((by rw [hg];exact Nat.ne_of_gt (qbl (g:=gb583) (o:=.cells #[.bool a0_0,.int .i64 a0_1,.slice A0_2 l0_2.length c0_2] 24 (0,0)) (by (with_reducible repeat (refine qab ?_));exact BK583.out)):gb584≠gb583));replace BK583:=qaa.mk (qah (g:=gb583) (o:=.cells #[.bool a0_0,.int .i64 a0_1,.slice A0_2 l0_2.length c0_2] 24 (0,0)) (by (with_reducible repeat (refine qab ?_));exact BK583.out) hb);clear hb hbox hg)|((with_reducible refine qbc (f:=11) rfl ?_);refine qcy (some 7) rfl rfl Tryd.func11 (by kernel_rfl) rfl #[] rfl (by (try simp only [List.map_toArray,List.map_cons,List.map_nil]);done) ?_;(with_reducible refine (qbt.calls k  true _ ?side1 A4.out).mono ?_);(case side1=>exact TabW.below' HTB.out HB.out);rintro e w9 ⟨rfl,hb⟩;refine ⟨_,rfl,?_⟩;replace BK583:=qaa.mk (qah (g:=gb583) (o:=.cells #[.bool a0_0,.int .i64 a0_1,.slice A0_2 l0_2.length c0_2] 24 (0,0)) (by (with_reducible repeat (refine qab ?_));exact BK583.out) hb);replace BK584:=qaa.mk (qah (g:=gb584) (o:=.cells #[.int .i64 a1_0,.int .i64 a1_1] 39 (0,0)) (by (with_reducible repeat (refine qab ?_));exact BK584.out) hb);replace HB:=qaa.mk (qal HB.out hb);(try clear hb)))
  go_cut [16] (fun v16 wc=>∃ (kq:Nat) (x16_5:Bool),v16=.bool x16_5∧qaa (qai.j0 kq l2 x16_5 a0_0 a0_1 l0_2 a1_0 a1_1=some r)∧qaa (kq≤k)∧qaa (wc.heap[gb583]?=some (.cells #[.bool a0_0,.int .i64 a0_1,(.slice A0_2 l0_2.length c0_2)] 24 (0,0)))∧qaa (wc.heap[gb584]?=some (.cells #[.int .i64 a1_0,.int .i64 a1_1] 39 (0,0)))∧qaa (Below w.heap.size w wc))
  case first=>
   have H:=HC6.out
   clear HC6
   replace H:=Option.bind_eq_some_iff.mp H
   obtain ⟨t586,A100,H⟩:=H
   replace H:(if t586=true then (qai.j0 k l2 (decide ((l2.length:Int)>20)) a0_0 a0_1 l0_2 a1_0 a1_1) else (qai.j0 k l2 true a0_0 a0_1 l0_2 a1_0 a1_1))=some r:=H
   have A10:=qaa.mk A100
   clear A100
   by_cases c11:t586=true
   ·subst c11
    have H1:(qai.j0 k l2 (decide ((l2.length:Int)>20)) a0_0 a0_1 l0_2 a1_0 a1_1)=some r:=by rw [if_pos rfl] at H;exact H
    clear H
    have H:=H1
    clear H1
    have H':=qaa.mk H
    clear H
    have hnb12:=NB583_584.out
    have hnc12:=NB584_583.out
    have hcz13_0:w9.cell? ⟨gb583,0,none⟩=some (.bool a0_0):=(qac BK583.out 0).trans rfl
    have hcz13_1:w9.cell? ⟨gb583,1,none⟩=some (.int .i64 a0_1):=(qac BK583.out 1).trans rfl
    have hcz13_2:w9.cell? ⟨gb583,2,none⟩=some (.slice A0_2 l0_2.length c0_2):=(qac BK583.out 2).trans rfl
    have hfz13_0:=qag BK583.out 0
    have hfz13_1:=qag BK583.out 1
    have hfz13_2:=qag BK583.out 2
    go_wp2_with (((with_reducible refine qbc (f:=12) rfl ?_);refine qcy (some 10) rfl rfl Tryd.func12 (by kernel_rfl) rfl #[.agg #[.bool a0_0,.int .i64 a0_1,.slice A0_2 l0_2.length c0_2]] rfl (by (try simp only [List.map_toArray,List.map_cons,List.map_nil]);rfl) ?_;(with_reducible refine (qas.calls k a0_0 a0_1 _ _ l0_2 true _ ?side1 ?side2 A10.out).mono ?_);(case side1=>repeat (exact (Kd.C_below HR0_2.out HB.out)));(case side2=>exact HC0_2.out);rintro e w14 ⟨rfl,hb⟩;refine ⟨_,rfl,?_⟩;replace BK583:=qaa.mk (qah (g:=gb583) (o:=.cells #[.bool a0_0,.int .i64 a0_1,.slice A0_2 l0_2.length c0_2] 24 (0,0)) (by (with_reducible repeat (refine qab ?_));exact BK583.out) hb);replace BK584:=qaa.mk (qah (g:=gb584) (o:=.cells #[.int .i64 a1_0,.int .i64 a1_1] 39 (0,0)) (by (with_reducible repeat (refine qab ?_));exact BK584.out) hb);replace HB:=qaa.mk (qal HB.out hb);(try clear hb)))
    go_meet
    case rel=>exact ⟨_,(decide ((l2.length:Int)>20)),(by rfl),H',⟨by omega⟩,⟨by (with_reducible repeat (refine qab ?_));exact BK583.out⟩,⟨by (with_reducible repeat (refine qab ?_));exact BK584.out⟩,⟨by repeat ((with_reducible exact HB.out))⟩⟩
   ·replace c11:=Bool.eq_false_iff.mpr c11
    subst c11
    have H1:(qai.j0 k l2 true a0_0 a0_1 l0_2 a1_0 a1_1)=some r:=by rw [if_neg (show ¬ (false=true) by decide)] at H;exact H
    clear H
    have H:=H1
    clear H1
    have H':=qaa.mk H
    clear H
    have hnb15:=NB583_584.out
    have hnc15:=NB584_583.out
    have hcz16_0:w9.cell? ⟨gb583,0,none⟩=some (.bool a0_0):=(qac BK583.out 0).trans rfl
    have hcz16_1:w9.cell? ⟨gb583,1,none⟩=some (.int .i64 a0_1):=(qac BK583.out 1).trans rfl
    have hcz16_2:w9.cell? ⟨gb583,2,none⟩=some (.slice A0_2 l0_2.length c0_2):=(qac BK583.out 2).trans rfl
    have hfz16_0:=qag BK583.out 0
    have hfz16_1:=qag BK583.out 1
    have hfz16_2:=qag BK583.out 2
    go_wp2_with (((with_reducible refine qbc (f:=12) rfl ?_);refine qcy (some 10) rfl rfl Tryd.func12 (by kernel_rfl) rfl #[.agg #[.bool a0_0,.int .i64 a0_1,.slice A0_2 l0_2.length c0_2]] rfl (by (try simp only [List.map_toArray,List.map_cons,List.map_nil]);rfl) ?_;(with_reducible refine (qas.calls k a0_0 a0_1 _ _ l0_2 false _ ?side1 ?side2 A10.out).mono ?_);(case side1=>repeat (exact (Kd.C_below HR0_2.out HB.out)));(case side2=>exact HC0_2.out);rintro e w17 ⟨rfl,hb⟩;refine ⟨_,rfl,?_⟩;replace BK583:=qaa.mk (qah (g:=gb583) (o:=.cells #[.bool a0_0,.int .i64 a0_1,.slice A0_2 l0_2.length c0_2] 24 (0,0)) (by (with_reducible repeat (refine qab ?_));exact BK583.out) hb);replace BK584:=qaa.mk (qah (g:=gb584) (o:=.cells #[.int .i64 a1_0,.int .i64 a1_1] 39 (0,0)) (by (with_reducible repeat (refine qab ?_));exact BK584.out) hb);replace HB:=qaa.mk (qal HB.out hb);(try clear hb)))
    go_meet
    case rel=>exact ⟨_,(true),(by rfl),H',⟨by omega⟩,⟨by (with_reducible repeat (refine qab ?_));exact BK583.out⟩,⟨by (with_reducible repeat (refine qab ?_));exact BK584.out⟩,⟨by repeat ((with_reducible exact HB.out))⟩⟩
  case rest=>
   clear HC6
   obtain ⟨kq,x16_5,rfl,HA,HJ5,BK583,BK584,HB⟩:=hcut
   cases kq with
   | zero=>exact absurd HA.out (by simp [qai.j0])
   | succ kj5=>
    have H:=HA.out
    clear HA
    simp only [qai.j0] at H
    by_cases c18:x16_5=true
    ·subst c18
     have H1:(some true)=some r:=by rw [if_pos rfl] at H;exact H
     clear H
     have H:=H1
     clear H1
     obtain rfl:=Option.some.inj H
     go_wp2
     go_ret
     exact ⟨by rfl,by repeat ((with_reducible exact HB.out))⟩
    ·replace c18:=Bool.eq_false_iff.mpr c18
     subst c18
     have H1:((qbz.f kj5 a0_0 a0_1 l0_2 a1_0).bind fun t587=>((qcl.f t587).bind fun t590=>((qcf.f kj5 a0_0 a0_1 l0_2 a1_0).bind fun t593=>((qak.f kj5 t590 t593).bind fun t596=>(if t596=true then ((qav.f kj5 l2).bind fun t597=>((qdy.f kj5 a0_0 a0_1 l0_2 a1_0 a1_1 t597).bind fun t600=>((qce.f kj5 a0_0 a0_1 l0_2 a1_0 a1_1 l2).bind fun t601=>(some (t600==t601))))) else (some false))))))=some r:=by rw [if_neg (show ¬ (false=true) by decide)] at H;exact H
     clear H
     have H:=H1
     clear H1
     replace H:=Option.bind_eq_some_iff.mp H
     obtain ⟨t587,A190,H⟩:=H
     replace H:((qcl.f t587).bind fun t590=>((qcf.f kj5 a0_0 a0_1 l0_2 a1_0).bind fun t593=>((qak.f kj5 t590 t593).bind fun t596=>(if t596=true then ((qav.f kj5 l2).bind fun t597=>((qdy.f kj5 a0_0 a0_1 l0_2 a1_0 a1_1 t597).bind fun t600=>((qce.f kj5 a0_0 a0_1 l0_2 a1_0 a1_1 l2).bind fun t601=>(some (t600==t601))))) else (some false)))))=some r:=H
     have A19:=qaa.mk A190
     clear A190
     replace H:=Option.bind_eq_some_iff.mp H
     obtain ⟨t590,A200,H⟩:=H
     replace H:((qcf.f kj5 a0_0 a0_1 l0_2 a1_0).bind fun t593=>((qak.f kj5 t590 t593).bind fun t596=>(if t596=true then ((qav.f kj5 l2).bind fun t597=>((qdy.f kj5 a0_0 a0_1 l0_2 a1_0 a1_1 t597).bind fun t600=>((qce.f kj5 a0_0 a0_1 l0_2 a1_0 a1_1 l2).bind fun t601=>(some (t600==t601))))) else (some false))))=some r:=H
     have A20:=qaa.mk A200
     clear A200
     replace H:=Option.bind_eq_some_iff.mp H
     obtain ⟨t593,A210,H⟩:=H
     replace H:((qak.f kj5 t590 t593).bind fun t596=>(if t596=true then ((qav.f kj5 l2).bind fun t597=>((qdy.f kj5 a0_0 a0_1 l0_2 a1_0 a1_1 t597).bind fun t600=>((qce.f kj5 a0_0 a0_1 l0_2 a1_0 a1_1 l2).bind fun t601=>(some (t600==t601))))) else (some false)))=some r:=H
     have A21:=qaa.mk A210
     clear A210
     replace H:=Option.bind_eq_some_iff.mp H
     obtain ⟨t596,A220,H⟩:=H
     replace H:(if t596=true then ((qav.f kj5 l2).bind fun t597=>((qdy.f kj5 a0_0 a0_1 l0_2 a1_0 a1_1 t597).bind fun t600=>((qce.f kj5 a0_0 a0_1 l0_2 a1_0 a1_1 l2).bind fun t601=>(some (t600==t601))))) else (some false))=some r:=H
     have A22:=qaa.mk A220
     clear A220
     by_cases c23:t596=true
     ·subst c23
      have H1:((qav.f kj5 l2).bind fun t597=>((qdy.f kj5 a0_0 a0_1 l0_2 a1_0 a1_1 t597).bind fun t600=>((qce.f kj5 a0_0 a0_1 l0_2 a1_0 a1_1 l2).bind fun t601=>(some (t600==t601)))))=some r:=by rw [if_pos rfl] at H;exact H
      clear H
      have H:=H1
      clear H1
      replace H:=Option.bind_eq_some_iff.mp H
      obtain ⟨t597,A240,H⟩:=H
      replace H:((qdy.f kj5 a0_0 a0_1 l0_2 a1_0 a1_1 t597).bind fun t600=>((qce.f kj5 a0_0 a0_1 l0_2 a1_0 a1_1 l2).bind fun t601=>(some (t600==t601))))=some r:=H
      have A24:=qaa.mk A240
      clear A240
      replace H:=Option.bind_eq_some_iff.mp H
      obtain ⟨t600,A250,H⟩:=H
      replace H:((qce.f kj5 a0_0 a0_1 l0_2 a1_0 a1_1 l2).bind fun t601=>(some (t600==t601)))=some r:=H
      have A25:=qaa.mk A250
      clear A250
      replace H:=Option.bind_eq_some_iff.mp H
      obtain ⟨t601,A260,H⟩:=H
      replace H:(some (t600==t601))=some r:=H
      have A26:=qaa.mk A260
      clear A260
      obtain rfl:=Option.some.inj H
      try go_wp2
      have n0_:=qaa.mk (qab BK583.out)
      have n1_:=qaa.mk (qab BK584.out)
      have n2_:=qaa.mk (qdl HB.out)
      clear BK583
      clear BK584
      clear HB
      have BK583:=n0_
      have BK584:=n1_
      have HB:=n2_
      clear n0_ n1_ n2_
      refine qfm (n:=29) (S:=fun w'=>w'.cell? ⟨gb583,0,none⟩=some (.bool a0_0)∧w'.cell? ⟨gb583,1,none⟩=some (.int .i64 a0_1)∧w'.cell? ⟨gb583,2,none⟩=some (.slice A0_2 l0_2.length c0_2)∧w'.cell? ⟨gb584,0,none⟩=some (.int .i64 a1_0)∧w'.cell? ⟨gb584,1,none⟩=some (.int .i64 a1_1)) (ds:=[]) #[false,false,false,false,false,false,false,false,false,false,false,false,false,false,false,false,false,false,false,false,false,false,false,false,false,false,false,false,false] (by kernel_rfl) rfl rfl ⟨(qac BK583.out 0).trans rfl,(qac BK583.out 1).trans rfl,(qac BK583.out 2).trans rfl,(qac BK584.out 0).trans rfl,(qac BK584.out 1).trans rfl⟩ (fun hHeld=>?_);refine qef qai.tab5 qai.bits5 (fun HT_ HW_=>?_)
      generalize wc.drew=w27 at BK583 BK584 HB hHeld ⊢
      refine qcr (i:=1) (N:=some 18) (v:=?_) (a':=?_) #[false,true,false,false,false,false,false,false,false,false,false,false,false,false,false,false,false,false,false,false,false,false,false,false,false,false,false,false,false] rfl rfl (qbw HT_.out (by kernel_rfl)) (fun _ _ _ h=>h) (Or.inl ⟨by rfl,?_⟩) ?_ ?_
      rotate_left
      ·intro w'
       go_simp
       with_reducible rfl
      rotate_left
      ·simp only [Act.put,List.setIfInBounds_toArray,List.set_cons_zero,List.set_cons_succ,qbd,qbe]
       rfl
      refine qcr (i:=6) (N:=some 23) (v:=?_) (a':=?_) #[false,true,false,false,false,false,true,false,false,false,false,false,false,false,false,false,false,false,false,false,false,false,false,false,false,false,false,false,false] rfl rfl (qbw HT_.out (by kernel_rfl)) (fun _ _ _ h=>h) (Or.inl ⟨by rfl,?_⟩) ?_ ?_
      rotate_left
      ·intro w'
       go_simp
       with_reducible rfl
      rotate_left
      ·simp only [Act.put,List.setIfInBounds_toArray,List.set_cons_zero,List.set_cons_succ,qbd,qbe]
       rfl
      refine take_ (i:=0) (N:=some 17) (v:=?_) (a':=?_) #[true,true,false,false,false,false,true,false,false,false,false,false,false,false,false,false,false,false,false,false,false,false,false,false,false,false,false,false,false] rfl rfl (qcp HT_.out HW_.out (by kernel_rfl)) (fun _ _ _ h=>h) (Or.inl ⟨by rfl,?_⟩) hHeld ?_ ?_
      rotate_left
      ·rintro w' ⟨s0,s1,s2,s3,s4⟩
       go_simp
       with_reducible rfl
      rotate_left
      ·simp only [Act.put,List.setIfInBounds_toArray,List.set_cons_zero,List.set_cons_succ,qbd,qbe]
       rfl
      refine take_ (i:=2) (N:=some 19) (v:=?_) (a':=?_) #[true,true,true,false,false,false,true,false,false,false,false,false,false,false,false,false,false,false,false,false,false,false,false,false,false,false,false,false,false] rfl rfl (qcp HT_.out HW_.out (by kernel_rfl)) (fun _ _ _ h=>h) (Or.inl ⟨by rfl,?_⟩) hHeld ?_ ?_
      rotate_left
      ·rintro w' ⟨s0,s1,s2,s3,s4⟩
       go_simp
       with_reducible rfl
      rotate_left
      ·simp only [Act.put,List.setIfInBounds_toArray,List.set_cons_zero,List.set_cons_succ,qbd,qbe]
       rfl
      refine take_ (i:=5) (N:=some 22) (v:=?_) (a':=?_) #[true,true,true,false,false,true,true,false,false,false,false,false,false,false,false,false,false,false,false,false,false,false,false,false,false,false,false,false,false] rfl rfl (qcp HT_.out HW_.out (by kernel_rfl)) (fun _ _ _ h=>h) (Or.inl ⟨by rfl,?_⟩) hHeld ?_ ?_
      rotate_left
      ·rintro w' ⟨s0,s1,s2,s3,s4⟩
       go_simp
       with_reducible rfl
      rotate_left
      ·simp only [Act.put,List.setIfInBounds_toArray,List.set_cons_zero,List.set_cons_succ,qbd,qbe]
       rfl
      refine take_ (i:=7) (N:=some 24) (v:=?_) (a':=?_) #[true,true,true,false,false,true,true,true,false,false,false,false,false,false,false,false,false,false,false,false,false,false,false,false,false,false,false,false,false] rfl rfl (qcp HT_.out HW_.out (by kernel_rfl)) (fun _ _ _ h=>h) (Or.inl ⟨by rfl,?_⟩) hHeld ?_ ?_
      rotate_left
      ·rintro w' ⟨s0,s1,s2,s3,s4⟩
       go_simp
       with_reducible rfl
      rotate_left
      ·simp only [Act.put,List.setIfInBounds_toArray,List.set_cons_zero,List.set_cons_succ,qbd,qbe]
       rfl
      refine one_ (i:=3) (N:=some 20) #[true,true,true,true,false,true,true,true,false,false,false,false,false,false,false,false,false,false,false,false,false,false,false,false,false,false,false,false,false] rfl rfl (qdo HT_.out (by kernel_rfl)) (by decide) (fun K hK=>?_)
      refine qei Tryd.func30 (by kernel_rfl) rfl #[.agg #[.bool a0_0,.int .i64 a0_1,.slice A0_2 l0_2.length c0_2],.int .i64 a1_0] (by rfl) rfl rfl (by (try simp only [List.map_toArray,List.map_cons,List.map_nil]);rfl) ?_
      with_reducible refine (qbz.calls kj5 a0_0 a0_1 _ _ l0_2 a1_0 t587 _ ?side1 ?side2 ?side3 A19.out).mono ?_
      (case side1=>exact TabW.below' HTB.out HB.out)
      (case side2=>repeat (exact (Kd.C_below HR0_2.out HB.out)))
      (case side3=>exact HC0_2.out)
      rintro e w28 ⟨v588,rfl,ho0,hb⟩
      refine ⟨_,rfl,?_⟩
      have n0_:=qaa.mk (Kd.V_lower (Kd.V_mono (ok':=fun k_=>k_≠gb583∧k_≠gb584) ho0 (fun k_ hk_=>⟨(Kd.freshB (g:=gb583) (o:=.cells #[.bool a0_0,.int .i64 a0_1,.slice A0_2 l0_2.length c0_2] 24 (0,0)) (by (with_reducible repeat (refine qab ?_));exact BK583.out) k_ hk_),(Kd.freshB (g:=gb584) (o:=.cells #[.int .i64 a1_0,.int .i64 a1_1] 39 (0,0)) (by (with_reducible repeat (refine qab ?_));exact BK584.out) k_ hk_)⟩)) (qad HB.out))
      have n1_:=qaa.mk (qah (g:=gb583) (o:=.cells #[.bool a0_0,.int .i64 a0_1,.slice A0_2 l0_2.length c0_2] 24 (0,0)) (by (with_reducible repeat (refine qab ?_));exact BK583.out) hb)
      have n2_:=qaa.mk (qah (g:=gb584) (o:=.cells #[.int .i64 a1_0,.int .i64 a1_1] 39 (0,0)) (by (with_reducible repeat (refine qab ?_));exact BK584.out) hb)
      have n3_:=qaa.mk (qal HB.out hb)
      clear BK583
      clear BK584
      clear HB
      have HO589:=n0_
      have BK583:=n1_
      have BK584:=n2_
      have HB:=n3_
      clear n0_ n1_ n2_ n3_
      (try clear hb)
      (try clear ho0)
      obtain ⟨Ao29,co29,eo29⟩:=Kd.V_slice HO589.out
      (subst eo29)
      refine hK.out _ _ ⟨(qac BK583.out 0).trans rfl,(qac BK583.out 1).trans rfl,(qac BK583.out 2).trans rfl,(qac BK584.out 0).trans rfl,(qac BK584.out 1).trans rfl⟩ (fun hHeld=>?_)
      clear hK K
      refine qdu (a':=?_) ?_ ?_
      rotate_left
      ·show Act.put _ (some 20) _=_
       simp only [Act.put,List.setIfInBounds_toArray,List.set_cons_zero,List.set_cons_succ,qbd,qbe]
       rfl
      refine one_ (i:=4) (N:=some 21) #[true,true,true,true,true,true,true,true,false,false,false,false,false,false,false,false,false,false,false,false,false,false,false,false,false,false,false,false,false] rfl rfl (qdo HT_.out (by kernel_rfl)) (by decide) (fun K hK=>?_)
      refine qei Tryd.func23 (by kernel_rfl) rfl #[.agg #[.slice Ao29 t587.length co29]] (by rfl) rfl rfl (by (try simp only [List.map_toArray,List.map_cons,List.map_nil]);rfl) ?_
      with_reducible refine (qcl.calls _ _ t587 t590 _ ?side1 ?side2 ?side3 A20.out).mono ?_
      (case side1=>exact TabW.below' HTB.out HB.out)
      (case side2=>repeat (exact (Kd.V_reads' HO589.out).2.2))
      (case side3=>exact (Kd.V_reads' HO589.out).2.1)
      rintro e w30 ⟨v591,rfl,ho0,hb⟩
      refine ⟨_,rfl,?_⟩
      have n0_:=qaa.mk (Kd.V_elder' (by (with_reducible repeat (apply Kd.V_drew));exact HO589.out) (Kd.R_base ho0) hb)
      have n1_:=qaa.mk (Kd.R_lower ho0 (qad HB.out))
      have n2_:=qaa.mk (qah (g:=gb583) (o:=.cells #[.bool a0_0,.int .i64 a0_1,.slice A0_2 l0_2.length c0_2] 24 (0,0)) (by (with_reducible repeat (refine qab ?_));exact BK583.out) hb)
      have n3_:=qaa.mk (qah (g:=gb584) (o:=.cells #[.int .i64 a1_0,.int .i64 a1_1] 39 (0,0)) (by (with_reducible repeat (refine qab ?_));exact BK584.out) hb)
      have n4_:=qaa.mk (qal HB.out hb)
      clear HO589
      clear BK583
      clear BK584
      clear HB
      have HO589:=n0_
      have HO592:=n1_
      have BK583:=n2_
      have BK584:=n3_
      have HB:=n4_
      clear n0_ n1_ n2_ n3_ n4_
      (try clear hb)
      (try clear ho0)
      refine hK.out _ _ ⟨(qac BK583.out 0).trans rfl,(qac BK583.out 1).trans rfl,(qac BK583.out 2).trans rfl,(qac BK584.out 0).trans rfl,(qac BK584.out 1).trans rfl⟩ (fun hHeld=>?_)
      clear hK K
      refine qdu (a':=?_) ?_ ?_
      rotate_left
      ·show Act.put _ (some 21) _=_
       simp only [Act.put,List.setIfInBounds_toArray,List.set_cons_zero,List.set_cons_succ,qbd,qbe]
       rfl
      refine one_ (i:=8) (N:=some 25) #[true,true,true,true,true,true,true,true,true,false,false,false,false,false,false,false,false,false,false,false,false,false,false,false,false,false,false,false,false] rfl rfl (qdo HT_.out (by kernel_rfl)) (by decide) (fun K hK=>?_)
      refine qei Tryd.func32 (by kernel_rfl) rfl #[.agg #[.bool a0_0,.int .i64 a0_1,.slice A0_2 l0_2.length c0_2],.int .i64 a1_0] (by rfl) rfl rfl (by (try simp only [List.map_toArray,List.map_cons,List.map_nil]);rfl) ?_
      with_reducible refine (qcf.calls kj5 a0_0 a0_1 _ _ l0_2 a1_0 t593 _ ?side1 ?side2 A21.out).mono ?_
      (case side1=>repeat (exact (Kd.C_below HR0_2.out HB.out)))
      (case side2=>exact HC0_2.out)
      rintro e w31 ⟨v594,rfl,ho0,hb⟩
      refine ⟨_,rfl,?_⟩
      have n0_:=qaa.mk (Kd.V_elder' (by (with_reducible repeat (apply Kd.V_drew));exact HO589.out) (Kd.R_base ho0) hb)
      have n1_:=qaa.mk (Kd.R_elder' (by (with_reducible repeat (apply Kd.R_drew));exact HO592.out) (Kd.R_base ho0) hb)
      have n2_:=qaa.mk (Kd.R_lower (Kd.R_new' ho0 (Kd.R_lt (by (with_reducible repeat (apply Kd.R_drew));exact HO592.out))) (qad HB.out))
      have n3_:=qaa.mk (qah (g:=gb583) (o:=.cells #[.bool a0_0,.int .i64 a0_1,.slice A0_2 l0_2.length c0_2] 24 (0,0)) (by (with_reducible repeat (refine qab ?_));exact BK583.out) hb)
      have n4_:=qaa.mk (qah (g:=gb584) (o:=.cells #[.int .i64 a1_0,.int .i64 a1_1] 39 (0,0)) (by (with_reducible repeat (refine qab ?_));exact BK584.out) hb)
      have n5_:=qaa.mk (qal HB.out hb)
      clear HO589
      clear HO592
      clear BK583
      clear BK584
      clear HB
      have HO589:=n0_
      have HO592:=n1_
      have HO595:=n2_
      have BK583:=n3_
      have BK584:=n4_
      have HB:=n5_
      clear n0_ n1_ n2_ n3_ n4_ n5_
      (try clear hb)
      (try clear ho0)
      obtain ⟨Ao32,co32,eo32⟩:=Kd.R_slice HO592.out
      (subst eo32)
      obtain ⟨Ao33,co33,eo33⟩:=Kd.R_slice HO595.out
      (subst eo33)
      refine hK.out _ _ ⟨(qac BK583.out 0).trans rfl,(qac BK583.out 1).trans rfl,(qac BK583.out 2).trans rfl,(qac BK584.out 0).trans rfl,(qac BK584.out 1).trans rfl⟩ (fun hHeld=>?_)
      clear hK K
      refine qdu (a':=?_) ?_ ?_
      rotate_left
      ·show Act.put _ (some 25) _=_
       simp only [Act.put,List.setIfInBounds_toArray,List.set_cons_zero,List.set_cons_succ,qbd,qbe]
       rfl
      refine one_ (i:=9) (N:=some 26) #[true,true,true,true,true,true,true,true,true,true,false,false,false,false,false,false,false,false,false,false,false,false,false,false,false,false,false,false,false] rfl rfl (qdo HT_.out (by kernel_rfl)) (by decide) (fun K hK=>?_)
      refine qei Tryd.func18 (by kernel_rfl) rfl #[.slice Ao32 t590.length co32,.slice Ao33 t593.length co33] (by rfl) rfl rfl (by (try simp only [List.map_toArray,List.map_cons,List.map_nil]);rfl) ?_
      with_reducible refine (qak.calls kj5 _ _ t590 _ _ t593 true _ ?side1 ?side2 ?side3 ?side4 A22.out).mono ?_
      (case side1=>repeat (exact (Kd.R_reads' HO592.out).2.2))
      (case side2=>exact (Kd.R_reads' HO592.out).2.1)
      (case side3=>repeat (exact (Kd.R_reads' HO595.out).2.2))
      (case side4=>exact (Kd.R_reads' HO595.out).2.1)
      rintro e w' ⟨rfl,⟨nd,rfl⟩⟩
      refine ⟨_,rfl,?_⟩
      refine hK.out _ _ ⟨(qac BK583.out 0).trans rfl,(qac BK583.out 1).trans rfl,(qac BK583.out 2).trans rfl,(qac BK584.out 0).trans rfl,(qac BK584.out 1).trans rfl⟩ (fun hHeld=>?_)
      clear hK K
      refine qdu (a':=?_) ?_ ?_
      rotate_left
      ·show Act.put _ (some 26) _=_
       simp only [Act.put,List.setIfInBounds_toArray,List.set_cons_zero,List.set_cons_succ,qbd,qbe]
       rfl
      refine qcr (i:=10) (N:=some 27) (v:=?_) (a':=?_) #[true,true,true,true,true,true,true,true,true,true,true,false,false,false,false,false,false,false,false,false,false,false,false,false,false,false,false,false,false] rfl rfl (qbw HT_.out (by kernel_rfl)) (fun _ _ _ h=>h) (Or.inl ⟨by rfl,?_⟩) ?_ ?_
      rotate_left
      ·intro w'
       go_simp
       with_reducible rfl
      rotate_left
      ·simp only [Act.put,List.setIfInBounds_toArray,List.set_cons_zero,List.set_cons_succ,qbd,qbe]
       rfl
      refine qcr (i:=12) (N:=some 29) (v:=?_) (a':=?_) #[true,true,true,true,true,true,true,true,true,true,true,false,true,false,false,false,false,false,false,false,false,false,false,false,false,false,false,false,false] rfl rfl (qbw HT_.out (by kernel_rfl)) (fun _ _ _ h=>h) (Or.inl ⟨by rfl,?_⟩) ?_ ?_
      rotate_left
      ·intro w'
       go_simp
       with_reducible rfl
      rotate_left
      ·simp only [Act.put,List.setIfInBounds_toArray,List.set_cons_zero,List.set_cons_succ,qbd,qbe]
       rfl
      refine qcr (i:=14) (N:=some 31) (v:=?_) (a':=?_) #[true,true,true,true,true,true,true,true,true,true,true,false,true,false,true,false,false,false,false,false,false,false,false,false,false,false,false,false,false] rfl rfl (qbw HT_.out (by kernel_rfl)) (fun _ _ _ h=>h) (Or.inl ⟨by rfl,?_⟩) ?_ ?_
      rotate_left
      ·intro w'
       go_simp
       with_reducible rfl
      rotate_left
      ·simp only [Act.put,List.setIfInBounds_toArray,List.set_cons_zero,List.set_cons_succ,qbd,qbe]
       rfl
      refine qcr (i:=16) (N:=some 33) (v:=?_) (a':=?_) #[true,true,true,true,true,true,true,true,true,true,true,false,true,false,true,false,true,false,false,false,false,false,false,false,false,false,false,false,false] rfl rfl (qbw HT_.out (by kernel_rfl)) (fun _ _ _ h=>h) (Or.inl ⟨by rfl,?_⟩) ?_ ?_
      rotate_left
      ·intro w'
       go_simp
       with_reducible rfl
      rotate_left
      ·simp only [Act.put,List.setIfInBounds_toArray,List.set_cons_zero,List.set_cons_succ,qbd,qbe]
       rfl
      refine qcr (i:=20) (N:=some 37) (v:=?_) (a':=?_) #[true,true,true,true,true,true,true,true,true,true,true,false,true,false,true,false,true,false,false,false,true,false,false,false,false,false,false,false,false] rfl rfl (qbw HT_.out (by kernel_rfl)) (fun _ _ _ h=>h) (Or.inl ⟨by rfl,?_⟩) ?_ ?_
      rotate_left
      ·intro w'
       go_simp
       with_reducible rfl
      rotate_left
      ·simp only [Act.put,List.setIfInBounds_toArray,List.set_cons_zero,List.set_cons_succ,qbd,qbe]
       rfl
      refine qcr (i:=22) (N:=some 39) (v:=?_) (a':=?_) #[true,true,true,true,true,true,true,true,true,true,true,false,true,false,true,false,true,false,false,false,true,false,true,false,false,false,false,false,false] rfl rfl (qbw HT_.out (by kernel_rfl)) (fun _ _ _ h=>h) (Or.inl ⟨by rfl,?_⟩) ?_ ?_
      rotate_left
      ·intro w'
       go_simp
       with_reducible rfl
      rotate_left
      ·simp only [Act.put,List.setIfInBounds_toArray,List.set_cons_zero,List.set_cons_succ,qbd,qbe]
       rfl
      refine qcr (i:=24) (N:=some 41) (v:=?_) (a':=?_) #[true,true,true,true,true,true,true,true,true,true,true,false,true,false,true,false,true,false,false,false,true,false,true,false,true,false,false,false,false] rfl rfl (qbw HT_.out (by kernel_rfl)) (fun _ _ _ h=>h) (Or.inl ⟨by rfl,?_⟩) ?_ ?_
      rotate_left
      ·intro w'
       go_simp
       with_reducible rfl
      rotate_left
      ·simp only [Act.put,List.setIfInBounds_toArray,List.set_cons_zero,List.set_cons_succ,qbd,qbe]
       rfl
      refine take_ (i:=11) (N:=some 28) (v:=?_) (a':=?_) #[true,true,true,true,true,true,true,true,true,true,true,true,true,false,true,false,true,false,false,false,true,false,true,false,true,false,false,false,false] rfl rfl (qcp HT_.out HW_.out (by kernel_rfl)) (fun _ _ _ h=>h) (Or.inl ⟨by rfl,?_⟩) hHeld ?_ ?_
      rotate_left
      ·rintro w' ⟨s0,s1,s2,s3,s4⟩
       go_simp
       with_reducible rfl
      rotate_left
      ·simp only [Act.put,List.setIfInBounds_toArray,List.set_cons_zero,List.set_cons_succ,qbd,qbe]
       rfl
      refine take_ (i:=13) (N:=some 30) (v:=?_) (a':=?_) #[true,true,true,true,true,true,true,true,true,true,true,true,true,true,true,false,true,false,false,false,true,false,true,false,true,false,false,false,false] rfl rfl (qcp HT_.out HW_.out (by kernel_rfl)) (fun _ _ _ h=>h) (Or.inl ⟨by rfl,?_⟩) hHeld ?_ ?_
      rotate_left
      ·rintro w' ⟨s0,s1,s2,s3,s4⟩
       go_simp
       with_reducible rfl
      rotate_left
      ·simp only [Act.put,List.setIfInBounds_toArray,List.set_cons_zero,List.set_cons_succ,qbd,qbe]
       rfl
      refine take_ (i:=15) (N:=some 32) (v:=?_) (a':=?_) #[true,true,true,true,true,true,true,true,true,true,true,true,true,true,true,true,true,false,false,false,true,false,true,false,true,false,false,false,false] rfl rfl (qcp HT_.out HW_.out (by kernel_rfl)) (fun _ _ _ h=>h) (Or.inl ⟨by rfl,?_⟩) hHeld ?_ ?_
      rotate_left
      ·rintro w' ⟨s0,s1,s2,s3,s4⟩
       go_simp
       with_reducible rfl
      rotate_left
      ·simp only [Act.put,List.setIfInBounds_toArray,List.set_cons_zero,List.set_cons_succ,qbd,qbe]
       rfl
      refine take_ (i:=19) (N:=some 36) (v:=?_) (a':=?_) #[true,true,true,true,true,true,true,true,true,true,true,true,true,true,true,true,true,false,false,true,true,false,true,false,true,false,false,false,false] rfl rfl (qcp HT_.out HW_.out (by kernel_rfl)) (fun _ _ _ h=>h) (Or.inl ⟨by rfl,?_⟩) hHeld ?_ ?_
      rotate_left
      ·rintro w' ⟨s0,s1,s2,s3,s4⟩
       go_simp
       with_reducible rfl
      rotate_left
      ·simp only [Act.put,List.setIfInBounds_toArray,List.set_cons_zero,List.set_cons_succ,qbd,qbe]
       rfl
      refine take_ (i:=21) (N:=some 38) (v:=?_) (a':=?_) #[true,true,true,true,true,true,true,true,true,true,true,true,true,true,true,true,true,false,false,true,true,true,true,false,true,false,false,false,false] rfl rfl (qcp HT_.out HW_.out (by kernel_rfl)) (fun _ _ _ h=>h) (Or.inl ⟨by rfl,?_⟩) hHeld ?_ ?_
      rotate_left
      ·rintro w' ⟨s0,s1,s2,s3,s4⟩
       go_simp
       with_reducible rfl
      rotate_left
      ·simp only [Act.put,List.setIfInBounds_toArray,List.set_cons_zero,List.set_cons_succ,qbd,qbe]
       rfl
      refine take_ (i:=23) (N:=some 40) (v:=?_) (a':=?_) #[true,true,true,true,true,true,true,true,true,true,true,true,true,true,true,true,true,false,false,true,true,true,true,true,true,false,false,false,false] rfl rfl (qcp HT_.out HW_.out (by kernel_rfl)) (fun _ _ _ h=>h) (Or.inl ⟨by rfl,?_⟩) hHeld ?_ ?_
      rotate_left
      ·rintro w' ⟨s0,s1,s2,s3,s4⟩
       go_simp
       with_reducible rfl
      rotate_left
      ·simp only [Act.put,List.setIfInBounds_toArray,List.set_cons_zero,List.set_cons_succ,qbd,qbe]
       rfl
      refine one_ (i:=17) (N:=some 34) #[true,true,true,true,true,true,true,true,true,true,true,true,true,true,true,true,true,true,false,true,true,true,true,true,true,false,false,false,false] rfl rfl (qdo HT_.out (by kernel_rfl)) (by decide) (fun K hK=>?_)
      refine qei Tryd.func34 (by kernel_rfl) rfl #[.slice A2 l2.length c2] (by rfl) rfl rfl (by (try simp only [List.map_toArray,List.map_cons,List.map_nil]);rfl) ?_
      with_reducible refine (qav.calls kj5 _ _ l2 t597 _ ?side1 ?side2 A24.out).mono ?_
      (case side1=>repeat (exact (Kd.C_below HR2.out (by repeat ((with_reducible first|exact HB.out|apply qay))))))
      (case side2=>exact HC2.out)
      rintro e w34 ⟨v598,rfl,ho0,hb⟩
      refine ⟨_,rfl,?_⟩
      have n0_:=qaa.mk (Kd.V_below (by (with_reducible repeat (apply Kd.V_drewN));exact HO589.out) hb)
      have n1_:=qaa.mk (Kd.R_below (by (with_reducible repeat (apply Kd.R_drewN));exact HO592.out) hb)
      have n2_:=qaa.mk (Kd.R_below (by (with_reducible repeat (apply Kd.R_drewN));exact HO595.out) hb)
      have n3_:=qaa.mk (Kd.V_lower (Kd.V_mono (ok':=fun k_=>some k_≠(.slice Ao32 t590.length co32:Value).ownBlock∧some k_≠(.slice Ao33 t593.length co33:Value).ownBlock∧k_≠gb583∧k_≠gb584) ho0 (fun k_ hk_=>⟨(Kd.fresh' (Kd.R_lt (by (with_reducible repeat (apply Kd.R_drewN));exact HO592.out)) k_ hk_),(Kd.fresh' (Kd.R_lt (by (with_reducible repeat (apply Kd.R_drewN));exact HO595.out)) k_ hk_),(Kd.freshB (g:=gb583) (o:=.cells #[.bool a0_0,.int .i64 a0_1,.slice A0_2 l0_2.length c0_2] 24 (0,0)) (by (with_reducible repeat (refine qcz ?_ _));exact BK583.out) k_ hk_),(Kd.freshB (g:=gb584) (o:=.cells #[.int .i64 a1_0,.int .i64 a1_1] 39 (0,0)) (by (with_reducible repeat (refine qcz ?_ _));exact BK584.out) k_ hk_)⟩)) (qad (by repeat ((with_reducible first|exact HB.out|apply qay)))))
      have n4_:=qaa.mk (qah (g:=gb583) (o:=.cells #[.bool a0_0,.int .i64 a0_1,.slice A0_2 l0_2.length c0_2] 24 (0,0)) (by (with_reducible repeat (refine qcz ?_ _));exact BK583.out) hb)
      have n5_:=qaa.mk (qah (g:=gb584) (o:=.cells #[.int .i64 a1_0,.int .i64 a1_1] 39 (0,0)) (by (with_reducible repeat (refine qcz ?_ _));exact BK584.out) hb)
      have n6_:=qaa.mk (qal (by repeat ((with_reducible first|exact HB.out|apply qay))) hb)
      clear HO589
      clear HO592
      clear HO595
      clear BK583
      clear BK584
      clear HB
      have HO589:=n0_
      have HO592:=n1_
      have HO595:=n2_
      have HO599:=n3_
      have BK583:=n4_
      have BK584:=n5_
      have HB:=n6_
      clear n0_ n1_ n2_ n3_ n4_ n5_ n6_
      (try clear hb)
      (try clear ho0)
      obtain ⟨Ao35,co35,eo35⟩:=Kd.V_slice HO599.out
      (subst eo35)
      refine hK.out _ _ ⟨(qac BK583.out 0).trans rfl,(qac BK583.out 1).trans rfl,(qac BK583.out 2).trans rfl,(qac BK584.out 0).trans rfl,(qac BK584.out 1).trans rfl⟩ (fun hHeld=>?_)
      clear hK K
      refine qdu (a':=?_) ?_ ?_
      rotate_left
      ·show Act.put _ (some 34) _=_
       simp only [Act.put,List.setIfInBounds_toArray,List.set_cons_zero,List.set_cons_succ,qbd,qbe]
       rfl
      refine one_ (i:=18) (N:=some 35) #[true,true,true,true,true,true,true,true,true,true,true,true,true,true,true,true,true,true,true,true,true,true,true,true,true,false,false,false,false] rfl rfl (qdo HT_.out (by kernel_rfl)) (by decide) (fun K hK=>?_)
      refine qei Tryd.func33 (by kernel_rfl) rfl #[.agg #[.bool a0_0,.int .i64 a0_1,.slice A0_2 l0_2.length c0_2],.int .i64 a1_0,.int .i64 a1_1,.agg #[.slice Ao35 t597.length co35]] (by rfl) rfl rfl (by (try simp only [List.map_toArray,List.map_cons,List.map_nil]);rfl) ?_
      with_reducible refine (qdy.calls kj5 a0_0 a0_1 _ _ l0_2 a1_0 a1_1 _ _ t597 t600 _ ?side1 ?side2 ?side3 ?side4 ?side5 A25.out).mono ?_
      (case side1=>exact TabW.below' HTB.out HB.out)
      (case side2=>repeat (exact (Kd.C_below HR0_2.out HB.out)))
      (case side3=>exact HC0_2.out)
      (case side4=>repeat (exact (Kd.V_reads' HO599.out).2.2))
      (case side5=>exact (Kd.V_reads' HO599.out).2.1)
      rintro e w36 ⟨rfl,hb⟩
      refine ⟨_,rfl,?_⟩
      have n0_:=qaa.mk (Kd.V_below (by (with_reducible repeat (apply Kd.V_drew));exact HO589.out) hb)
      have n1_:=qaa.mk (Kd.R_below (by (with_reducible repeat (apply Kd.R_drew));exact HO592.out) hb)
      have n2_:=qaa.mk (Kd.R_below (by (with_reducible repeat (apply Kd.R_drew));exact HO595.out) hb)
      have n3_:=qaa.mk (Kd.V_below (by (with_reducible repeat (apply Kd.V_drew));exact HO599.out) hb)
      have n4_:=qaa.mk (qah (g:=gb583) (o:=.cells #[.bool a0_0,.int .i64 a0_1,.slice A0_2 l0_2.length c0_2] 24 (0,0)) (by (with_reducible repeat (refine qab ?_));exact BK583.out) hb)
      have n5_:=qaa.mk (qah (g:=gb584) (o:=.cells #[.int .i64 a1_0,.int .i64 a1_1] 39 (0,0)) (by (with_reducible repeat (refine qab ?_));exact BK584.out) hb)
      have n6_:=qaa.mk (qal HB.out hb)
      clear HO589
      clear HO592
      clear HO595
      clear HO599
      clear BK583
      clear BK584
      clear HB
      have HO589:=n0_
      have HO592:=n1_
      have HO595:=n2_
      have HO599:=n3_
      have BK583:=n4_
      have BK584:=n5_
      have HB:=n6_
      clear n0_ n1_ n2_ n3_ n4_ n5_ n6_
      (try clear hb)
      refine hK.out _ _ ⟨(qac BK583.out 0).trans rfl,(qac BK583.out 1).trans rfl,(qac BK583.out 2).trans rfl,(qac BK584.out 0).trans rfl,(qac BK584.out 1).trans rfl⟩ (fun hHeld=>?_)
      clear hK K
      refine qdu (a':=?_) ?_ ?_
      rotate_left
      ·show Act.put _ (some 35) _=_
       simp only [Act.put,List.setIfInBounds_toArray,List.set_cons_zero,List.set_cons_succ,qbd,qbe]
       rfl
      refine one_ (i:=25) (N:=some 42) #[true,true,true,true,true,true,true,true,true,true,true,true,true,true,true,true,true,true,true,true,true,true,true,true,true,true,false,false,false] rfl rfl (qdo HT_.out (by kernel_rfl)) (by decide) (fun K hK=>?_)
      refine qei Tryd.func35 (by kernel_rfl) rfl #[.agg #[.bool a0_0,.int .i64 a0_1,.slice A0_2 l0_2.length c0_2],.int .i64 a1_0,.int .i64 a1_1,.slice A2 l2.length c2] (by rfl) rfl rfl (by (try simp only [List.map_toArray,List.map_cons,List.map_nil]);rfl) ?_
      with_reducible refine (qce.calls kj5 a0_0 a0_1 _ _ l0_2 a1_0 a1_1 _ _ l2 t601 _ ?side1 ?side2 ?side3 ?side4 A26.out).mono ?_
      (case side1=>repeat (exact (Kd.C_below HR0_2.out HB.out)))
      (case side2=>exact HC0_2.out)
      (case side3=>repeat (exact (Kd.C_below HR2.out HB.out)))
      (case side4=>exact HC2.out)
      rintro e w37 ⟨rfl,hb⟩
      refine ⟨_,rfl,?_⟩
      have n0_:=qaa.mk (Kd.V_below (by (with_reducible repeat (apply Kd.V_drew));exact HO589.out) hb)
      have n1_:=qaa.mk (Kd.R_below (by (with_reducible repeat (apply Kd.R_drew));exact HO592.out) hb)
      have n2_:=qaa.mk (Kd.R_below (by (with_reducible repeat (apply Kd.R_drew));exact HO595.out) hb)
      have n3_:=qaa.mk (Kd.V_below (by (with_reducible repeat (apply Kd.V_drew));exact HO599.out) hb)
      have n4_:=qaa.mk (qah (g:=gb583) (o:=.cells #[.bool a0_0,.int .i64 a0_1,.slice A0_2 l0_2.length c0_2] 24 (0,0)) (by (with_reducible repeat (refine qab ?_));exact BK583.out) hb)
      have n5_:=qaa.mk (qah (g:=gb584) (o:=.cells #[.int .i64 a1_0,.int .i64 a1_1] 39 (0,0)) (by (with_reducible repeat (refine qab ?_));exact BK584.out) hb)
      have n6_:=qaa.mk (qal HB.out hb)
      clear HO589
      clear HO592
      clear HO595
      clear HO599
      clear BK583
      clear BK584
      clear HB
      have HO589:=n0_
      have HO592:=n1_
      have HO595:=n2_
      have HO599:=n3_
      have BK583:=n4_
      have BK584:=n5_
      have HB:=n6_
      clear n0_ n1_ n2_ n3_ n4_ n5_ n6_
      (try clear hb)
      refine hK.out _ _ ⟨(qac BK583.out 0).trans rfl,(qac BK583.out 1).trans rfl,(qac BK583.out 2).trans rfl,(qac BK584.out 0).trans rfl,(qac BK584.out 1).trans rfl⟩ (fun hHeld=>?_)
      clear hK K
      refine qdu (a':=?_) ?_ ?_
      rotate_left
      ·show Act.put _ (some 42) _=_
       simp only [Act.put,List.setIfInBounds_toArray,List.set_cons_zero,List.set_cons_succ,qbd,qbe]
       rfl
      refine qcr (i:=26) (N:=some 43) (v:=?_) (a':=?_) #[true,true,true,true,true,true,true,true,true,true,true,true,true,true,true,true,true,true,true,true,true,true,true,true,true,true,true,false,false] rfl rfl (qbw HT_.out (by kernel_rfl)) (fun _ _ _ h=>h) (Or.inl ⟨by rfl,?_⟩) ?_ ?_
      rotate_left
      ·intro w'
       go_simp
       with_reducible rfl
      rotate_left
      ·simp only [Act.put,List.setIfInBounds_toArray,List.set_cons_zero,List.set_cons_succ,qbd,qbe]
       rfl
      refine qcr (i:=27) (N:=some 44) (v:=?_) (a':=?_) #[true,true,true,true,true,true,true,true,true,true,true,true,true,true,true,true,true,true,true,true,true,true,true,true,true,true,true,true,false] rfl rfl (qbw HT_.out (by kernel_rfl)) (fun _ _ _ h=>h) (Or.inl ⟨by rfl,?_⟩) ?_ ?_
      rotate_left
      ·intro w'
       go_simp
       with_reducible rfl
      rotate_left
      ·simp only [Act.put,List.setIfInBounds_toArray,List.set_cons_zero,List.set_cons_succ,qbd,qbe]
       rfl
      refine qcr (i:=28) (N:=some 6) (v:=?_) (a':=?_) #[true,true,true,true,true,true,true,true,true,true,true,true,true,true,true,true,true,true,true,true,true,true,true,true,true,true,true,true,true] rfl rfl (qbw HT_.out (by kernel_rfl)) (fun _ _ _ h=>h) (Or.inl ⟨by rfl,?_⟩) ?_ ?_
      rotate_left
      ·intro w'
       go_simp
       with_reducible rfl
      rotate_left
      ·simp only [Act.put,List.setIfInBounds_toArray,List.set_cons_zero,List.set_cons_succ,qbd,qbe]
       rfl
      refine qgd (qfc HT_.out (by kernel_rfl)) ?_
      try go_wp2
      go_ret
      exact ⟨by rfl,by repeat ((with_reducible exact HB.out))⟩
     ·replace c23:=Bool.eq_false_iff.mpr c23
      subst c23
      have H1:(some false)=some r:=by rw [if_neg (show ¬ (false=true) by decide)] at H;exact H
      clear H
      have H:=H1
      clear H1
      obtain rfl:=Option.some.inj H
      try go_wp2
      have n0_:=qaa.mk (qab BK583.out)
      have n1_:=qaa.mk (qab BK584.out)
      have n2_:=qaa.mk (qdl HB.out)
      clear BK583
      clear BK584
      clear HB
      have BK583:=n0_
      have BK584:=n1_
      have HB:=n2_
      clear n0_ n1_ n2_
      refine qfm (n:=29) (S:=fun w'=>w'.cell? ⟨gb583,0,none⟩=some (.bool a0_0)∧w'.cell? ⟨gb583,1,none⟩=some (.int .i64 a0_1)∧w'.cell? ⟨gb583,2,none⟩=some (.slice A0_2 l0_2.length c0_2)∧w'.cell? ⟨gb584,0,none⟩=some (.int .i64 a1_0)∧w'.cell? ⟨gb584,1,none⟩=some (.int .i64 a1_1)) (ds:=[]) #[false,false,false,false,false,false,false,false,false,false,false,false,false,false,false,false,false,false,false,false,false,false,false,false,false,false,false,false,false] (by kernel_rfl) rfl rfl ⟨(qac BK583.out 0).trans rfl,(qac BK583.out 1).trans rfl,(qac BK583.out 2).trans rfl,(qac BK584.out 0).trans rfl,(qac BK584.out 1).trans rfl⟩ (fun hHeld=>?_);refine qef qai.tab5 qai.bits5 (fun HT_ HW_=>?_)
      generalize wc.drew=w38 at BK583 BK584 HB hHeld ⊢
      refine qcr (i:=1) (N:=some 18) (v:=?_) (a':=?_) #[false,true,false,false,false,false,false,false,false,false,false,false,false,false,false,false,false,false,false,false,false,false,false,false,false,false,false,false,false] rfl rfl (qbw HT_.out (by kernel_rfl)) (fun _ _ _ h=>h) (Or.inl ⟨by rfl,?_⟩) ?_ ?_
      rotate_left
      ·intro w'
       go_simp
       with_reducible rfl
      rotate_left
      ·simp only [Act.put,List.setIfInBounds_toArray,List.set_cons_zero,List.set_cons_succ,qbd,qbe]
       rfl
      refine qcr (i:=6) (N:=some 23) (v:=?_) (a':=?_) #[false,true,false,false,false,false,true,false,false,false,false,false,false,false,false,false,false,false,false,false,false,false,false,false,false,false,false,false,false] rfl rfl (qbw HT_.out (by kernel_rfl)) (fun _ _ _ h=>h) (Or.inl ⟨by rfl,?_⟩) ?_ ?_
      rotate_left
      ·intro w'
       go_simp
       with_reducible rfl
      rotate_left
      ·simp only [Act.put,List.setIfInBounds_toArray,List.set_cons_zero,List.set_cons_succ,qbd,qbe]
       rfl
      refine take_ (i:=0) (N:=some 17) (v:=?_) (a':=?_) #[true,true,false,false,false,false,true,false,false,false,false,false,false,false,false,false,false,false,false,false,false,false,false,false,false,false,false,false,false] rfl rfl (qcp HT_.out HW_.out (by kernel_rfl)) (fun _ _ _ h=>h) (Or.inl ⟨by rfl,?_⟩) hHeld ?_ ?_
      rotate_left
      ·rintro w' ⟨s0,s1,s2,s3,s4⟩
       go_simp
       with_reducible rfl
      rotate_left
      ·simp only [Act.put,List.setIfInBounds_toArray,List.set_cons_zero,List.set_cons_succ,qbd,qbe]
       rfl
      refine take_ (i:=2) (N:=some 19) (v:=?_) (a':=?_) #[true,true,true,false,false,false,true,false,false,false,false,false,false,false,false,false,false,false,false,false,false,false,false,false,false,false,false,false,false] rfl rfl (qcp HT_.out HW_.out (by kernel_rfl)) (fun _ _ _ h=>h) (Or.inl ⟨by rfl,?_⟩) hHeld ?_ ?_
      rotate_left
      ·rintro w' ⟨s0,s1,s2,s3,s4⟩
       go_simp
       with_reducible rfl
      rotate_left
      ·simp only [Act.put,List.setIfInBounds_toArray,List.set_cons_zero,List.set_cons_succ,qbd,qbe]
       rfl
      refine take_ (i:=5) (N:=some 22) (v:=?_) (a':=?_) #[true,true,true,false,false,true,true,false,false,false,false,false,false,false,false,false,false,false,false,false,false,false,false,false,false,false,false,false,false] rfl rfl (qcp HT_.out HW_.out (by kernel_rfl)) (fun _ _ _ h=>h) (Or.inl ⟨by rfl,?_⟩) hHeld ?_ ?_
      rotate_left
      ·rintro w' ⟨s0,s1,s2,s3,s4⟩
       go_simp
       with_reducible rfl
      rotate_left
      ·simp only [Act.put,List.setIfInBounds_toArray,List.set_cons_zero,List.set_cons_succ,qbd,qbe]
       rfl
      refine take_ (i:=7) (N:=some 24) (v:=?_) (a':=?_) #[true,true,true,false,false,true,true,true,false,false,false,false,false,false,false,false,false,false,false,false,false,false,false,false,false,false,false,false,false] rfl rfl (qcp HT_.out HW_.out (by kernel_rfl)) (fun _ _ _ h=>h) (Or.inl ⟨by rfl,?_⟩) hHeld ?_ ?_
      rotate_left
      ·rintro w' ⟨s0,s1,s2,s3,s4⟩
       go_simp
       with_reducible rfl
      rotate_left
      ·simp only [Act.put,List.setIfInBounds_toArray,List.set_cons_zero,List.set_cons_succ,qbd,qbe]
       rfl
      refine one_ (i:=3) (N:=some 20) #[true,true,true,true,false,true,true,true,false,false,false,false,false,false,false,false,false,false,false,false,false,false,false,false,false,false,false,false,false] rfl rfl (qdo HT_.out (by kernel_rfl)) (by decide) (fun K hK=>?_)
      refine qei Tryd.func30 (by kernel_rfl) rfl #[.agg #[.bool a0_0,.int .i64 a0_1,.slice A0_2 l0_2.length c0_2],.int .i64 a1_0] (by rfl) rfl rfl (by (try simp only [List.map_toArray,List.map_cons,List.map_nil]);rfl) ?_
      with_reducible refine (qbz.calls kj5 a0_0 a0_1 _ _ l0_2 a1_0 t587 _ ?side1 ?side2 ?side3 A19.out).mono ?_
      (case side1=>exact TabW.below' HTB.out HB.out)
      (case side2=>repeat (exact (Kd.C_below HR0_2.out HB.out)))
      (case side3=>exact HC0_2.out)
      rintro e w39 ⟨v588,rfl,ho0,hb⟩
      refine ⟨_,rfl,?_⟩
      have n0_:=qaa.mk (Kd.V_lower (Kd.V_mono (ok':=fun k_=>k_≠gb583∧k_≠gb584) ho0 (fun k_ hk_=>⟨(Kd.freshB (g:=gb583) (o:=.cells #[.bool a0_0,.int .i64 a0_1,.slice A0_2 l0_2.length c0_2] 24 (0,0)) (by (with_reducible repeat (refine qab ?_));exact BK583.out) k_ hk_),(Kd.freshB (g:=gb584) (o:=.cells #[.int .i64 a1_0,.int .i64 a1_1] 39 (0,0)) (by (with_reducible repeat (refine qab ?_));exact BK584.out) k_ hk_)⟩)) (qad HB.out))
      have n1_:=qaa.mk (qah (g:=gb583) (o:=.cells #[.bool a0_0,.int .i64 a0_1,.slice A0_2 l0_2.length c0_2] 24 (0,0)) (by (with_reducible repeat (refine qab ?_));exact BK583.out) hb)
      have n2_:=qaa.mk (qah (g:=gb584) (o:=.cells #[.int .i64 a1_0,.int .i64 a1_1] 39 (0,0)) (by (with_reducible repeat (refine qab ?_));exact BK584.out) hb)
      have n3_:=qaa.mk (qal HB.out hb)
      clear BK583
      clear BK584
      clear HB
      have HO589:=n0_
      have BK583:=n1_
      have BK584:=n2_
      have HB:=n3_
      clear n0_ n1_ n2_ n3_
      (try clear hb)
      (try clear ho0)
      obtain ⟨Ao40,co40,eo40⟩:=Kd.V_slice HO589.out
      (subst eo40)
      refine hK.out _ _ ⟨(qac BK583.out 0).trans rfl,(qac BK583.out 1).trans rfl,(qac BK583.out 2).trans rfl,(qac BK584.out 0).trans rfl,(qac BK584.out 1).trans rfl⟩ (fun hHeld=>?_)
      clear hK K
      refine qdu (a':=?_) ?_ ?_
      rotate_left
      ·show Act.put _ (some 20) _=_
       simp only [Act.put,List.setIfInBounds_toArray,List.set_cons_zero,List.set_cons_succ,qbd,qbe]
       rfl
      refine one_ (i:=4) (N:=some 21) #[true,true,true,true,true,true,true,true,false,false,false,false,false,false,false,false,false,false,false,false,false,false,false,false,false,false,false,false,false] rfl rfl (qdo HT_.out (by kernel_rfl)) (by decide) (fun K hK=>?_)
      refine qei Tryd.func23 (by kernel_rfl) rfl #[.agg #[.slice Ao40 t587.length co40]] (by rfl) rfl rfl (by (try simp only [List.map_toArray,List.map_cons,List.map_nil]);rfl) ?_
      with_reducible refine (qcl.calls _ _ t587 t590 _ ?side1 ?side2 ?side3 A20.out).mono ?_
      (case side1=>exact TabW.below' HTB.out HB.out)
      (case side2=>repeat (exact (Kd.V_reads' HO589.out).2.2))
      (case side3=>exact (Kd.V_reads' HO589.out).2.1)
      rintro e w41 ⟨v591,rfl,ho0,hb⟩
      refine ⟨_,rfl,?_⟩
      have n0_:=qaa.mk (Kd.V_elder' (by (with_reducible repeat (apply Kd.V_drew));exact HO589.out) (Kd.R_base ho0) hb)
      have n1_:=qaa.mk (Kd.R_lower ho0 (qad HB.out))
      have n2_:=qaa.mk (qah (g:=gb583) (o:=.cells #[.bool a0_0,.int .i64 a0_1,.slice A0_2 l0_2.length c0_2] 24 (0,0)) (by (with_reducible repeat (refine qab ?_));exact BK583.out) hb)
      have n3_:=qaa.mk (qah (g:=gb584) (o:=.cells #[.int .i64 a1_0,.int .i64 a1_1] 39 (0,0)) (by (with_reducible repeat (refine qab ?_));exact BK584.out) hb)
      have n4_:=qaa.mk (qal HB.out hb)
      clear HO589
      clear BK583
      clear BK584
      clear HB
      have HO589:=n0_
      have HO592:=n1_
      have BK583:=n2_
      have BK584:=n3_
      have HB:=n4_
      clear n0_ n1_ n2_ n3_ n4_
      (try clear hb)
      (try clear ho0)
      refine hK.out _ _ ⟨(qac BK583.out 0).trans rfl,(qac BK583.out 1).trans rfl,(qac BK583.out 2).trans rfl,(qac BK584.out 0).trans rfl,(qac BK584.out 1).trans rfl⟩ (fun hHeld=>?_)
      clear hK K
      refine qdu (a':=?_) ?_ ?_
      rotate_left
      ·show Act.put _ (some 21) _=_
       simp only [Act.put,List.setIfInBounds_toArray,List.set_cons_zero,List.set_cons_succ,qbd,qbe]
       rfl
      refine one_ (i:=8) (N:=some 25) #[true,true,true,true,true,true,true,true,true,false,false,false,false,false,false,false,false,false,false,false,false,false,false,false,false,false,false,false,false] rfl rfl (qdo HT_.out (by kernel_rfl)) (by decide) (fun K hK=>?_)
      refine qei Tryd.func32 (by kernel_rfl) rfl #[.agg #[.bool a0_0,.int .i64 a0_1,.slice A0_2 l0_2.length c0_2],.int .i64 a1_0] (by rfl) rfl rfl (by (try simp only [List.map_toArray,List.map_cons,List.map_nil]);rfl) ?_
      with_reducible refine (qcf.calls kj5 a0_0 a0_1 _ _ l0_2 a1_0 t593 _ ?side1 ?side2 A21.out).mono ?_
      (case side1=>repeat (exact (Kd.C_below HR0_2.out HB.out)))
      (case side2=>exact HC0_2.out)
      rintro e w42 ⟨v594,rfl,ho0,hb⟩
      refine ⟨_,rfl,?_⟩
      have n0_:=qaa.mk (Kd.V_elder' (by (with_reducible repeat (apply Kd.V_drew));exact HO589.out) (Kd.R_base ho0) hb)
      have n1_:=qaa.mk (Kd.R_elder' (by (with_reducible repeat (apply Kd.R_drew));exact HO592.out) (Kd.R_base ho0) hb)
      have n2_:=qaa.mk (Kd.R_lower (Kd.R_new' ho0 (Kd.R_lt (by (with_reducible repeat (apply Kd.R_drew));exact HO592.out))) (qad HB.out))
      have n3_:=qaa.mk (qah (g:=gb583) (o:=.cells #[.bool a0_0,.int .i64 a0_1,.slice A0_2 l0_2.length c0_2] 24 (0,0)) (by (with_reducible repeat (refine qab ?_));exact BK583.out) hb)
      have n4_:=qaa.mk (qah (g:=gb584) (o:=.cells #[.int .i64 a1_0,.int .i64 a1_1] 39 (0,0)) (by (with_reducible repeat (refine qab ?_));exact BK584.out) hb)
      have n5_:=qaa.mk (qal HB.out hb)
      clear HO589
      clear HO592
      clear BK583
      clear BK584
      clear HB
      have HO589:=n0_
      have HO592:=n1_
      have HO595:=n2_
      have BK583:=n3_
      have BK584:=n4_
      have HB:=n5_
      clear n0_ n1_ n2_ n3_ n4_ n5_
      (try clear hb)
      (try clear ho0)
      obtain ⟨Ao43,co43,eo43⟩:=Kd.R_slice HO592.out
      (subst eo43)
      obtain ⟨Ao44,co44,eo44⟩:=Kd.R_slice HO595.out
      (subst eo44)
      refine hK.out _ _ ⟨(qac BK583.out 0).trans rfl,(qac BK583.out 1).trans rfl,(qac BK583.out 2).trans rfl,(qac BK584.out 0).trans rfl,(qac BK584.out 1).trans rfl⟩ (fun hHeld=>?_)
      clear hK K
      refine qdu (a':=?_) ?_ ?_
      rotate_left
      ·show Act.put _ (some 25) _=_
       simp only [Act.put,List.setIfInBounds_toArray,List.set_cons_zero,List.set_cons_succ,qbd,qbe]
       rfl
      refine one_ (i:=9) (N:=some 26) #[true,true,true,true,true,true,true,true,true,true,false,false,false,false,false,false,false,false,false,false,false,false,false,false,false,false,false,false,false] rfl rfl (qdo HT_.out (by kernel_rfl)) (by decide) (fun K hK=>?_)
      refine qei Tryd.func18 (by kernel_rfl) rfl #[.slice Ao43 t590.length co43,.slice Ao44 t593.length co44] (by rfl) rfl rfl (by (try simp only [List.map_toArray,List.map_cons,List.map_nil]);rfl) ?_
      with_reducible refine (qak.calls kj5 _ _ t590 _ _ t593 false _ ?side1 ?side2 ?side3 ?side4 A22.out).mono ?_
      (case side1=>repeat (exact (Kd.R_reads' HO592.out).2.2))
      (case side2=>exact (Kd.R_reads' HO592.out).2.1)
      (case side3=>repeat (exact (Kd.R_reads' HO595.out).2.2))
      (case side4=>exact (Kd.R_reads' HO595.out).2.1)
      rintro e w' ⟨rfl,⟨nd,rfl⟩⟩
      refine ⟨_,rfl,?_⟩
      refine hK.out _ _ ⟨(qac BK583.out 0).trans rfl,(qac BK583.out 1).trans rfl,(qac BK583.out 2).trans rfl,(qac BK584.out 0).trans rfl,(qac BK584.out 1).trans rfl⟩ (fun hHeld=>?_)
      clear hK K
      refine qdu (a':=?_) ?_ ?_
      rotate_left
      ·show Act.put _ (some 26) _=_
       simp only [Act.put,List.setIfInBounds_toArray,List.set_cons_zero,List.set_cons_succ,qbd,qbe]
       rfl
      refine qcr (i:=10) (N:=some 27) (v:=?_) (a':=?_) #[true,true,true,true,true,true,true,true,true,true,true,false,false,false,false,false,false,false,false,false,false,false,false,false,false,false,false,false,false] rfl rfl (qbw HT_.out (by kernel_rfl)) (fun _ _ _ h=>h) (Or.inl ⟨by rfl,?_⟩) ?_ ?_
      rotate_left
      ·intro w'
       go_simp
       with_reducible rfl
      rotate_left
      ·simp only [Act.put,List.setIfInBounds_toArray,List.set_cons_zero,List.set_cons_succ,qbd,qbe]
       rfl
      refine qcr (i:=11) (N:=some 28) (v:=undef) (a':=?_) #[true,true,true,true,true,true,true,true,true,true,true,true,false,false,false,false,false,false,false,false,false,false,false,false,false,false,false,false,false] rfl rfl (qbw HT_.out (by kernel_rfl)) (fun _ _ _ h=>h) (Or.inr ⟨by rfl,rfl⟩) ?_ ?_
      rotate_left
      ·simp only [Act.put,List.setIfInBounds_toArray,List.set_cons_zero,List.set_cons_succ,qbd,qbe]
       rfl
      refine qcr (i:=12) (N:=some 29) (v:=undef) (a':=?_) #[true,true,true,true,true,true,true,true,true,true,true,true,true,false,false,false,false,false,false,false,false,false,false,false,false,false,false,false,false] rfl rfl (qbw HT_.out (by kernel_rfl)) (fun _ _ _ h=>h) (Or.inr ⟨by rfl,rfl⟩) ?_ ?_
      rotate_left
      ·simp only [Act.put,List.setIfInBounds_toArray,List.set_cons_zero,List.set_cons_succ,qbd,qbe]
       rfl
      refine qcr (i:=13) (N:=some 30) (v:=undef) (a':=?_) #[true,true,true,true,true,true,true,true,true,true,true,true,true,true,false,false,false,false,false,false,false,false,false,false,false,false,false,false,false] rfl rfl (qbw HT_.out (by kernel_rfl)) (fun _ _ _ h=>h) (Or.inr ⟨by rfl,rfl⟩) ?_ ?_
      rotate_left
      ·simp only [Act.put,List.setIfInBounds_toArray,List.set_cons_zero,List.set_cons_succ,qbd,qbe]
       rfl
      refine qcr (i:=14) (N:=some 31) (v:=undef) (a':=?_) #[true,true,true,true,true,true,true,true,true,true,true,true,true,true,true,false,false,false,false,false,false,false,false,false,false,false,false,false,false] rfl rfl (qbw HT_.out (by kernel_rfl)) (fun _ _ _ h=>h) (Or.inr ⟨by rfl,rfl⟩) ?_ ?_
      rotate_left
      ·simp only [Act.put,List.setIfInBounds_toArray,List.set_cons_zero,List.set_cons_succ,qbd,qbe]
       rfl
      refine qcr (i:=15) (N:=some 32) (v:=undef) (a':=?_) #[true,true,true,true,true,true,true,true,true,true,true,true,true,true,true,true,false,false,false,false,false,false,false,false,false,false,false,false,false] rfl rfl (qbw HT_.out (by kernel_rfl)) (fun _ _ _ h=>h) (Or.inr ⟨by rfl,rfl⟩) ?_ ?_
      rotate_left
      ·simp only [Act.put,List.setIfInBounds_toArray,List.set_cons_zero,List.set_cons_succ,qbd,qbe]
       rfl
      refine qcr (i:=16) (N:=some 33) (v:=undef) (a':=?_) #[true,true,true,true,true,true,true,true,true,true,true,true,true,true,true,true,true,false,false,false,false,false,false,false,false,false,false,false,false] rfl rfl (qbw HT_.out (by kernel_rfl)) (fun _ _ _ h=>h) (Or.inr ⟨by rfl,rfl⟩) ?_ ?_
      rotate_left
      ·simp only [Act.put,List.setIfInBounds_toArray,List.set_cons_zero,List.set_cons_succ,qbd,qbe]
       rfl
      refine qcr (i:=17) (N:=some 34) (v:=undef) (a':=?_) #[true,true,true,true,true,true,true,true,true,true,true,true,true,true,true,true,true,true,false,false,false,false,false,false,false,false,false,false,false] rfl rfl (qbw HT_.out (by kernel_rfl)) (fun _ _ _ h=>h) (Or.inr ⟨by rfl,rfl⟩) ?_ ?_
      rotate_left
      ·simp only [Act.put,List.setIfInBounds_toArray,List.set_cons_zero,List.set_cons_succ,qbd,qbe]
       rfl
      refine qcr (i:=18) (N:=some 35) (v:=undef) (a':=?_) #[true,true,true,true,true,true,true,true,true,true,true,true,true,true,true,true,true,true,true,false,false,false,false,false,false,false,false,false,false] rfl rfl (qbw HT_.out (by kernel_rfl)) (fun _ _ _ h=>h) (Or.inr ⟨by rfl,rfl⟩) ?_ ?_
      rotate_left
      ·simp only [Act.put,List.setIfInBounds_toArray,List.set_cons_zero,List.set_cons_succ,qbd,qbe]
       rfl
      refine qcr (i:=19) (N:=some 36) (v:=undef) (a':=?_) #[true,true,true,true,true,true,true,true,true,true,true,true,true,true,true,true,true,true,true,true,false,false,false,false,false,false,false,false,false] rfl rfl (qbw HT_.out (by kernel_rfl)) (fun _ _ _ h=>h) (Or.inr ⟨by rfl,rfl⟩) ?_ ?_
      rotate_left
      ·simp only [Act.put,List.setIfInBounds_toArray,List.set_cons_zero,List.set_cons_succ,qbd,qbe]
       rfl
      refine qcr (i:=20) (N:=some 37) (v:=undef) (a':=?_) #[true,true,true,true,true,true,true,true,true,true,true,true,true,true,true,true,true,true,true,true,true,false,false,false,false,false,false,false,false] rfl rfl (qbw HT_.out (by kernel_rfl)) (fun _ _ _ h=>h) (Or.inr ⟨by rfl,rfl⟩) ?_ ?_
      rotate_left
      ·simp only [Act.put,List.setIfInBounds_toArray,List.set_cons_zero,List.set_cons_succ,qbd,qbe]
       rfl
      refine qcr (i:=21) (N:=some 38) (v:=undef) (a':=?_) #[true,true,true,true,true,true,true,true,true,true,true,true,true,true,true,true,true,true,true,true,true,true,false,false,false,false,false,false,false] rfl rfl (qbw HT_.out (by kernel_rfl)) (fun _ _ _ h=>h) (Or.inr ⟨by rfl,rfl⟩) ?_ ?_
      rotate_left
      ·simp only [Act.put,List.setIfInBounds_toArray,List.set_cons_zero,List.set_cons_succ,qbd,qbe]
       rfl
      refine qcr (i:=22) (N:=some 39) (v:=undef) (a':=?_) #[true,true,true,true,true,true,true,true,true,true,true,true,true,true,true,true,true,true,true,true,true,true,true,false,false,false,false,false,false] rfl rfl (qbw HT_.out (by kernel_rfl)) (fun _ _ _ h=>h) (Or.inr ⟨by rfl,rfl⟩) ?_ ?_
      rotate_left
      ·simp only [Act.put,List.setIfInBounds_toArray,List.set_cons_zero,List.set_cons_succ,qbd,qbe]
       rfl
      refine qcr (i:=23) (N:=some 40) (v:=undef) (a':=?_) #[true,true,true,true,true,true,true,true,true,true,true,true,true,true,true,true,true,true,true,true,true,true,true,true,false,false,false,false,false] rfl rfl (qbw HT_.out (by kernel_rfl)) (fun _ _ _ h=>h) (Or.inr ⟨by rfl,rfl⟩) ?_ ?_
      rotate_left
      ·simp only [Act.put,List.setIfInBounds_toArray,List.set_cons_zero,List.set_cons_succ,qbd,qbe]
       rfl
      refine qcr (i:=24) (N:=some 41) (v:=undef) (a':=?_) #[true,true,true,true,true,true,true,true,true,true,true,true,true,true,true,true,true,true,true,true,true,true,true,true,true,false,false,false,false] rfl rfl (qbw HT_.out (by kernel_rfl)) (fun _ _ _ h=>h) (Or.inr ⟨by rfl,rfl⟩) ?_ ?_
      rotate_left
      ·simp only [Act.put,List.setIfInBounds_toArray,List.set_cons_zero,List.set_cons_succ,qbd,qbe]
       rfl
      refine qcr (i:=25) (N:=some 42) (v:=undef) (a':=?_) #[true,true,true,true,true,true,true,true,true,true,true,true,true,true,true,true,true,true,true,true,true,true,true,true,true,true,false,false,false] rfl rfl (qbw HT_.out (by kernel_rfl)) (fun _ _ _ h=>h) (Or.inr ⟨by rfl,rfl⟩) ?_ ?_
      rotate_left
      ·simp only [Act.put,List.setIfInBounds_toArray,List.set_cons_zero,List.set_cons_succ,qbd,qbe]
       rfl
      refine qcr (i:=26) (N:=some 43) (v:=undef) (a':=?_) #[true,true,true,true,true,true,true,true,true,true,true,true,true,true,true,true,true,true,true,true,true,true,true,true,true,true,true,false,false] rfl rfl (qbw HT_.out (by kernel_rfl)) (fun _ _ _ h=>h) (Or.inr ⟨by rfl,rfl⟩) ?_ ?_
      rotate_left
      ·simp only [Act.put,List.setIfInBounds_toArray,List.set_cons_zero,List.set_cons_succ,qbd,qbe]
       rfl
      refine qcr (i:=27) (N:=some 44) (v:=?_) (a':=?_) #[true,true,true,true,true,true,true,true,true,true,true,true,true,true,true,true,true,true,true,true,true,true,true,true,true,true,true,true,false] rfl rfl (qbw HT_.out (by kernel_rfl)) (fun _ _ _ h=>h) (Or.inl ⟨by rfl,?_⟩) ?_ ?_
      rotate_left
      ·intro w'
       go_simp
       with_reducible rfl
      rotate_left
      ·simp only [Act.put,List.setIfInBounds_toArray,List.set_cons_zero,List.set_cons_succ,qbd,qbe]
       rfl
      refine qcr (i:=28) (N:=some 6) (v:=?_) (a':=?_) #[true,true,true,true,true,true,true,true,true,true,true,true,true,true,true,true,true,true,true,true,true,true,true,true,true,true,true,true,true] rfl rfl (qbw HT_.out (by kernel_rfl)) (fun _ _ _ h=>h) (Or.inl ⟨by rfl,?_⟩) ?_ ?_
      rotate_left
      ·intro w'
       go_simp
       with_reducible rfl
      rotate_left
      ·simp only [Act.put,List.setIfInBounds_toArray,List.set_cons_zero,List.set_cons_succ,qbd,qbe]
       rfl
      refine qgd (qfc HT_.out (by kernel_rfl)) ?_
      try go_wp2
      go_ret
      exact ⟨by rfl,by repeat ((with_reducible first|exact HB.out|apply qay))⟩
 ·replace c5:=Bool.eq_false_iff.mpr c5
  subst c5
  have H1:(some false)=some r:=by rw [if_neg (show ¬ (false=true) by decide)] at H;exact H
  clear H
  have H:=H1
  clear H1
  obtain rfl:=Option.some.inj H
  go_enter Tryd.func8,Tryd.ntmps8
  go_wp2_with (first|((with_reducible refine qbg (N:=3) rfl ?_);(try (refine qcm (by rfl) ?_;dsimp only));refine qbn ?hg (N:=3) ?hd (cs:=#[.bool a0_0,.int .i64 a0_1,.slice A0_2 l0_2.length c0_2]) (t:=24) ?hr ?_;(case hd=>rfl);(case hg=>rfl);(case hr=>(go_simp;done));intro gb583 hg w45 hbox hb;have BK583:=qaa.mk (hbox);have GW583:=qaa.mk ((by rw [hg];exact (qad HB.out):w.heap.size≤gb583));have GE583:=qaa.mk ((by rw [hg];exact (qad HB.out):w.heap.size≤gb583));replace HB:=qaa.mk (qal HB.out hb);clear hb hbox hg)|((with_reducible refine qbg (N:=4) rfl ?_);(try (refine qcm (by rfl) ?_;dsimp only));refine qbn ?hg (N:=4) ?hd (cs:=#[.int .i64 a1_0,.int .i64 a1_1]) (t:=39) ?hr ?_;(case hd=>rfl);(case hg=>rfl);(case hr=>(go_simp;done));intro gb584 hg w46 hbox hb;have BK584:=qaa.mk (hbox);have GW584:=qaa.mk ((by rw [hg];exact (qad HB.out):w.heap.size≤gb584));have GE584:=qaa.mk ((by rw [hg];exact (qad HB.out):w.heap.size≤gb584));replace HB:=qaa.mk (qal HB.out hb);have NB583_584:=qaa.mk ((by rw [hg];exact Nat.ne_of_lt (qbl (g:=gb583) (o:=.cells #[.bool a0_0,.int .i64 a0_1,.slice A0_2 l0_2.length c0_2] 24 (0,0)) (by (with_reducible repeat (refine qab ?_));exact BK583.out)):gb583≠gb584));have NB584_583:=qaa.mk ((by rw [hg];exact Nat.ne_of_gt (qbl (g:=gb583) (o:=.cells #[.bool a0_0,.int .i64 a0_1,.slice A0_2 l0_2.length c0_2] 24 (0,0)) (by (with_reducible repeat (refine qab ?_));exact BK583.out)):gb584≠gb583));replace BK583:=qaa.mk (qah (g:=gb583) (o:=.cells #[.bool a0_0,.int .i64 a0_1,.slice A0_2 l0_2.length c0_2] 24 (0,0)) (by (with_reducible repeat (refine qab ?_));exact BK583.out) hb);clear hb hbox hg)|((with_reducible refine qbc (f:=11) rfl ?_);refine qcy (some 7) rfl rfl Tryd.func11 (by kernel_rfl) rfl #[] rfl (by (try simp only [List.map_toArray,List.map_cons,List.map_nil]);done) ?_;(with_reducible refine (qbt.calls k  false _ ?side1 A4.out).mono ?_);(case side1=>exact TabW.below' HTB.out HB.out);rintro e w47 ⟨rfl,hb⟩;refine ⟨_,rfl,?_⟩;replace BK583:=qaa.mk (qah (g:=gb583) (o:=.cells #[.bool a0_0,.int .i64 a0_1,.slice A0_2 l0_2.length c0_2] 24 (0,0)) (by (with_reducible repeat (refine qab ?_));exact BK583.out) hb);replace BK584:=qaa.mk (qah (g:=gb584) (o:=.cells #[.int .i64 a1_0,.int .i64 a1_1] 39 (0,0)) (by (with_reducible repeat (refine qab ?_));exact BK584.out) hb);replace HB:=qaa.mk (qal HB.out hb);(try clear hb)))
  go_ret
  exact ⟨by rfl,by repeat ((with_reducible exact HB.out))⟩
end
end Go.Proofs.YtmfjmbcfaamebaaDoor.X
namespace Go.Proofs.YtmfjmbcfaamebaaDoor.X
open Go.RowKit Go.Proofs.YtmfjmbcfaamebaaDoorW.PrintWords Go.Proofs.YtmfjmbcfaamebaaDoorW.PrintLast Go.Proofs.YtmfjmbcfaamebaaDoorW.PrintMore
attribute [local go_sem] qbr qcc
set_option linter.unusedVariables false
set_option linter.unusedSimpArgs false
def qba.l0:Nat→List (List Int)→Int→Int→Bool→Int→List (S60)→Option ((List (List Int)))
 | 0,_,_,_,_,_,_=>none
 | k+1,x3,x7,x8,x294000,x294001,x294002=>if x8<x7 then ((qaf.f k x294000 x294001 x294002 x8).bind fun t294=>((qbf.f k t294).bind fun t297=>(if x3.length<5864062014805 then (qba.l0 k (x3++[t297]) x7 (wrap64 (x8+1)) x294000 x294001 x294002) else (none)))) else (some x3)
def qba.f (k:Nat) (a0_0:Bool) (a0_1:Int) (l0_2:List (S60)):Option ((List (List Int))):=qba.l0 k ([]:List (List Int)) (l0_2.length:Int) 0 a0_0 a0_1 l0_2
theorem qba.mono_l:∀ k,(∀ y0 y1 y2 y3 y4 y5,LeO (qba.l0 k y0 y1 y2 y3 y4 y5) (qba.l0 (k+1) y0 y1 y2 y3 y4 y5))
 | 0=>fun _ _ _ _ _ _ r h=>by simp [qba.l0] at h
 | k+1=>by
  have ih0:=qba.mono_l k
  ·intro y0 y1 y2 y3 y4 y5
   unfold qba.l0
   repeat' first|(with_reducible exact ih0 _ _ _ _ _ _)|(with_reducible exact qbf.mono _ _)|(with_reducible exact qaf.mono _ _ _ _ _)|(with_reducible exact LeO.refl _)|(with_reducible refine LeO.ite ?_ ?_)|(with_reducible refine LeO.bind ?_ (fun _=>?_))
theorem qba.mono:∀ a0 a1 a2 k,LeO (qba.f k a0 a1 a2) (qba.f (k+1) a0 a1 a2):=by
 intro a0 a1 a2 k
 have ih0:=qba.mono_l k
 unfold qba.f
 repeat' (with_reducible exact ih0 _ _ _ _ _ _)
end Go.Proofs.YtmfjmbcfaamebaaDoor.X
namespace Go.Proofs.YtmfjmbcfaamebaaDoor.X
open Go.RowKit Go.Proofs.YtmfjmbcfaamebaaDoorW.PrintWords Go.Proofs.YtmfjmbcfaamebaaDoorW.PrintLast Go.Proofs.YtmfjmbcfaamebaaDoorW.PrintMore
attribute [local go_sem] qbr qcc
set_option linter.unusedVariables false
set_option linter.unusedSimpArgs false
def qcw.f (k:Nat) (a0_0:Bool) (a0_1:Int) (l0_2:List (S60)) (a1:Int) (a2:Int):Option (Bool):=(qae.f k a0_0 a0_1 l0_2 0 ([]:List Int)).bind fun t322=>((qao.f k t322 a2).bind fun t325=>(if t325=true then ((qae.f k a0_0 a0_1 l0_2 0 (([a1]:List Int))).bind fun t329=>((qao.f k t329 a2).bind fun t332=>(some (!t332)))) else (some false)))
theorem qcw.mono:∀ a0 a1 a2 a3 a4 k,LeO (qcw.f k a0 a1 a2 a3 a4) (qcw.f (k+1) a0 a1 a2 a3 a4):=by
 intro a0 a1 a2 a3 a4 k
 unfold qcw.f
 repeat' first|(with_reducible exact qao.mono _ _ _)|(with_reducible exact qae.mono _ _ _ _ _ _)|(with_reducible exact LeO.refl _)|(with_reducible refine LeO.ite ?_ ?_)|(with_reducible refine LeO.bind ?_ (fun _=>?_))
end Go.Proofs.YtmfjmbcfaamebaaDoor.X
namespace Go.Proofs.YtmfjmbcfaamebaaDoor.X
open Go.RowKit Go.Proofs.YtmfjmbcfaamebaaDoorW.PrintWords Go.Proofs.YtmfjmbcfaamebaaDoorW.PrintLast Go.Proofs.YtmfjmbcfaamebaaDoorW.PrintMore
attribute [local go_sem] qbr qcc
set_option linter.unusedVariables false
set_option linter.unusedSimpArgs false
mutual
def qar.l0:Nat→List (List Int)→Int→Int→Bool→Int→List (S60)→Option ((List (List Int)))
 | 0,_,_,_,_,_,_=>none
 | k+1,x3,x9,x10,x334000,x334001,x334002=>if x10<x9 then (qar.l1 k x3 x10 ([]:List Int) x9 x10 (x334002.length:Int) 0 x334000 x334001 x334002) else (some x3)
def qar.l1:Nat→List (List Int)→Int→List Int→Int→Int→Int→Int→Bool→Int→List (S60)→Option ((List (List Int)))
 | 0,_,_,_,_,_,_,_,_,_,_=>none
 | k+1,x3,x4,x5,x9,x10,x15,x16,x334000,x334001,x334002=>if x16<x15 then ((qcw.f k x334000 x334001 x334002 x16 x4).bind fun t334=>(if t334=true then (if x5.length<17592186044416 then (qar.l1 k x3 x4 (x5++[x16]) x9 x10 x15 (wrap64 (x16+1)) x334000 x334001 x334002) else (none)) else (qar.l1 k x3 x4 x5 x9 x10 x15 (wrap64 (x16+1)) x334000 x334001 x334002))) else (if x3.length<5864062014805 then (qar.l0 k (x3++[x5]) x9 (wrap64 (x10+1)) x334000 x334001 x334002) else (none))
end
def qar.f (k:Nat) (a0_0:Bool) (a0_1:Int) (l0_2:List (S60)):Option ((List (List Int))):=qar.l0 k ([]:List (List Int)) (l0_2.length:Int) 0 a0_0 a0_1 l0_2
theorem qar.mono_l:∀ k,(∀ y0 y1 y2 y3 y4 y5,LeO (qar.l0 k y0 y1 y2 y3 y4 y5) (qar.l0 (k+1) y0 y1 y2 y3 y4 y5))∧(∀ y0 y1 y2 y3 y4 y5 y6 y7 y8 y9,LeO (qar.l1 k y0 y1 y2 y3 y4 y5 y6 y7 y8 y9) (qar.l1 (k+1) y0 y1 y2 y3 y4 y5 y6 y7 y8 y9))
 | 0=>⟨fun _ _ _ _ _ _ r h=>by simp [qar.l0] at h,fun _ _ _ _ _ _ _ _ _ _ r h=>by simp [qar.l1] at h⟩
 | k+1=>by
  obtain ⟨ih0,ih1⟩:=qar.mono_l k
  refine ⟨?_,?_⟩
  ·intro y0 y1 y2 y3 y4 y5
   unfold qar.l0
   repeat' first|(with_reducible exact ih1 _ _ _ _ _ _ _ _ _ _)|(with_reducible exact LeO.refl _)|(with_reducible refine LeO.ite ?_ ?_)
  ·intro y0 y1 y2 y3 y4 y5 y6 y7 y8 y9
   unfold qar.l1
   repeat' first|(with_reducible exact ih0 _ _ _ _ _ _)|(with_reducible exact ih1 _ _ _ _ _ _ _ _ _ _)|(with_reducible exact qcw.mono _ _ _ _ _ _)|(with_reducible exact LeO.refl _)|(with_reducible refine LeO.ite ?_ ?_)|(with_reducible refine LeO.bind ?_ (fun _=>?_))
theorem qar.mono:∀ a0 a1 a2 k,LeO (qar.f k a0 a1 a2) (qar.f (k+1) a0 a1 a2):=by
 intro a0 a1 a2 k
 obtain ⟨ih0,ih1⟩:=qar.mono_l k
 unfold qar.f
 repeat' (with_reducible exact ih0 _ _ _ _ _ _)
end Go.Proofs.YtmfjmbcfaamebaaDoor.X
namespace Go.Proofs.YtmfjmbcfaamebaaDoor.X
open Go.RowKit Go.Proofs.YtmfjmbcfaamebaaDoorW.PrintWords Go.Proofs.YtmfjmbcfaamebaaDoorW.PrintLast Go.Proofs.YtmfjmbcfaamebaaDoorW.PrintMore
attribute [local go_sem] qbr qcc
set_option linter.unusedVariables false
set_option linter.unusedSimpArgs false
def qfy (k:Nat) (dom:List (List Int)) (a:Int):List Int→List S39→Option (List S39)
 | [],out=>some out
 | b::t,out=>if a<(dom.length:Int)∧out.length<1099511627776 then (qao.f k (dom.getD a.toNat []) b).bind fun h=>qfy k dom a t (if h=true then out++[⟨a,b⟩] else out) else none
def qff (k:Nat) (dom:List (List Int)):Nat→List (List Int)→List S39→Option (List S39)
 | _,[],out=>some out
 | a,l::t,out=>(qfy k dom (a:Int) l out).bind (qff k dom (a+1) t)
def qco.f (k:Nat) (a0_0:Bool) (a0_1:Int) (l0_2:List S60):Option (List S39):=
 (qar.f k a0_0 a0_1 l0_2).bind fun dom=>(qba.f k a0_0 a0_1 l0_2).bind fun s=>qff k dom 0 s []
theorem qfy.mono (k:Nat) (dom:List (List Int)) (a:Int):∀ (l:List Int) (out:List S39),LeO (qfy k dom a l out) (qfy (k+1) dom a l out)
 | [],_=>LeO.refl _
 | b::t,out=>by
  unfold qfy
  exact LeO.ite (LeO.bind (qao.mono _ _ _) (fun _=>qfy.mono k dom a t _)) (LeO.refl _)
theorem qff.mono (k:Nat) (dom:List (List Int)):∀ (a:Nat) (l:List (List Int)) (out:List S39),LeO (qff k dom a l out) (qff (k+1) dom a l out)
 | _,[],_=>LeO.refl _
 | a,l::t,out=>by
  unfold qff
  exact LeO.bind (qfy.mono k dom _ l out) (fun _=>qff.mono k dom _ t _)
theorem qco.mono:∀ a0 a1 a2 k,LeO (qco.f k a0 a1 a2) (qco.f (k+1) a0 a1 a2):=by
 intro a0 a1 a2 k
 unfold qco.f
 exact LeO.bind (qar.mono _ _ _ _) (fun _=>LeO.bind (qba.mono _ _ _ _) (fun _=>qff.mono _ _ _ _ _))
end Go.Proofs.YtmfjmbcfaamebaaDoor.X
namespace Go.Proofs.YtmfjmbcfaamebaaDoor.X
open Go.RowKit Go.Proofs.YtmfjmbcfaamebaaDoorW.PrintWords Go.Proofs.YtmfjmbcfaamebaaDoorW.PrintLast Go.Proofs.YtmfjmbcfaamebaaDoorW.PrintMore
attribute [local go_sem] qbr qcc
set_option linter.unusedVariables false
set_option linter.unusedSimpArgs false
attribute [local go_sem high] eqA39
mutual
def qaw.l0:Nat→Bool→List (S39)→Int→Int→Bool→Int→List (S60)→Int→Int→Option (List Int)
 | 0,_,_,_,_,_,_,_,_,_=>none
 | k+1,x5,x12,x13,x14,x487000,x487001,x487002,x488000,x488001=>if x14<x13 then (if 0≤x14 then (if x14<(x12.length:Int) then (if x5=true then (qaw.l0 k true x12 x13 (wrap64 (x14+1)) x487000 x487001 x487002 x488000 x488001) else (qaw.l0 k (((qcq x12 x14).f0)==x488000&&(((qcq x12 x14).f1)==x488001)) x12 x13 (wrap64 (x14+1)) x487000 x487001 x487002 x488000 x488001)) else (none)) else (none)) else (if x5=true then ((qae.f k x487000 x487001 x487002 0 ([]:List Int)).bind fun t496=>(qaw.l1 k (([x488001]:List Int)) t496 (t496.length:Int) 0 x487000 x487001 x487002 x488000 x488001)) else (some ([]:List Int)))
def qaw.l1:Nat→List Int→List Int→Int→Int→Bool→Int→List (S60)→Int→Int→Option (List Int)
 | 0,_,_,_,_,_,_,_,_,_=>none
 | k+1,x8,x31,x32,x33,x487000,x487001,x487002,x488000,x488001=>if x33<x32 then (if 0≤x33 then (if x33<(x31.length:Int) then ((qae.f k x487000 x487001 x487002 (rd x31 x33) (([x488001]:List Int))).bind fun t506=>((qao.f k t506 x488000).bind fun t509=>(if t509=true then (if x8.length<17592186044416 then (qaw.l1 k (x8++[rd x31 x33]) x31 x32 (wrap64 (x33+1)) x487000 x487001 x487002 x488000 x488001) else (none)) else (qaw.l1 k x8 x31 x32 (wrap64 (x33+1)) x487000 x487001 x487002 x488000 x488001)))) else (none)) else (none)) else ((qbf.f k x8).bind fun t499=>(some t499))
end
def qaw.f (k:Nat) (a0_0:Bool) (a0_1:Int) (l0_2:List (S60)) (a1_0:Int) (a1_1:Int):Option (List Int):=(qco.f k a0_0 a0_1 l0_2).bind fun t488=>(qaw.l0 k false t488 (t488.length:Int) 0 a0_0 a0_1 l0_2 a1_0 a1_1)
theorem qaw.mono_l:∀ k,(∀ y0 y1 y2 y3 y4 y5 y6 y7 y8,LeO (qaw.l0 k y0 y1 y2 y3 y4 y5 y6 y7 y8) (qaw.l0 (k+1) y0 y1 y2 y3 y4 y5 y6 y7 y8))∧(∀ y0 y1 y2 y3 y4 y5 y6 y7 y8,LeO (qaw.l1 k y0 y1 y2 y3 y4 y5 y6 y7 y8) (qaw.l1 (k+1) y0 y1 y2 y3 y4 y5 y6 y7 y8))
 | 0=>⟨fun _ _ _ _ _ _ _ _ _ r h=>by simp [qaw.l0] at h,fun _ _ _ _ _ _ _ _ _ r h=>by simp [qaw.l1] at h⟩
 | k+1=>by
  obtain ⟨ih0,ih1⟩:=qaw.mono_l k
  refine ⟨?_,?_⟩
  ·intro y0 y1 y2 y3 y4 y5 y6 y7 y8
   unfold qaw.l0
   repeat' first|(with_reducible exact ih0 _ _ _ _ _ _ _ _ _)|(with_reducible exact ih1 _ _ _ _ _ _ _ _ _)|(with_reducible exact qae.mono _ _ _ _ _ _)|(with_reducible exact LeO.refl _)|(with_reducible refine LeO.ite ?_ ?_)|(with_reducible refine LeO.bind ?_ (fun _=>?_))
  ·intro y0 y1 y2 y3 y4 y5 y6 y7 y8
   unfold qaw.l1
   repeat' first|(with_reducible exact ih1 _ _ _ _ _ _ _ _ _)|(with_reducible exact qao.mono _ _ _)|(with_reducible exact qbf.mono _ _)|(with_reducible exact qae.mono _ _ _ _ _ _)|(with_reducible exact LeO.refl _)|(with_reducible refine LeO.ite ?_ ?_)|(with_reducible refine LeO.bind ?_ (fun _=>?_))
theorem qaw.mono:∀ a0 a1 a2 a3 a4 k,LeO (qaw.f k a0 a1 a2 a3 a4) (qaw.f (k+1) a0 a1 a2 a3 a4):=by
 intro a0 a1 a2 a3 a4 k
 obtain ⟨ih0,ih1⟩:=qaw.mono_l k
 unfold qaw.f
 repeat' first|(with_reducible exact ih0 _ _ _ _ _ _ _ _ _)|(with_reducible exact qco.mono _ _ _ _)|(with_reducible refine LeO.bind ?_ (fun _=>?_))
end Go.Proofs.YtmfjmbcfaamebaaDoor.X
namespace Go.Proofs.YtmfjmbcfaamebaaDoor.X
open Go.RowKit Go.Proofs.YtmfjmbcfaamebaaDoorW.PrintWords Go.Proofs.YtmfjmbcfaamebaaDoorW.PrintLast Go.Proofs.YtmfjmbcfaamebaaDoorW.PrintMore
attribute [local go_sem] qbr qcc
set_option linter.unusedVariables false
set_option linter.unusedSimpArgs false
def qhp (dom:List (List Int)) (n:Int):List Int→Int→Option Int
 | [],best=>some best
 | d::t,best=>if d=n then qhp dom n t best else if best<0 then qhp dom n t d else if 0≤d∧d<(dom.length:Int)∧best<(dom.length:Int) then (if (dom.getD best.toNat []).length<(dom.getD d.toNat []).length then qhp dom n t d else qhp dom n t best) else none
def rimmOut (dom:List (List Int)):Nat→Nat→List Int→Option (List Int)
 | 0,_,out=>some out
 | m+1,i,out=>if i<dom.length∧out.length<1099511627776 then (qhp dom (i:Int) (dom.getD i []) (-1)).bind fun b=>rimmOut dom m (i+1) (out++[b]) else none
def qct.f (k:Nat) (a0_0:Bool) (a0_1:Int) (l0_2:List S60):Option (List Int):=(qar.f k a0_0 a0_1 l0_2).bind fun dom=>rimmOut dom l0_2.length 0 []
theorem qct.mono:∀ a0 a1 a2 k,LeO (qct.f k a0 a1 a2) (qct.f (k+1) a0 a1 a2):=by
 intro a0 a1 a2 k
 unfold qct.f
 exact LeO.bind (qar.mono _ _ _ _) (fun _=>LeO.refl _)
end Go.Proofs.YtmfjmbcfaamebaaDoor.X
namespace Go.Proofs.YtmfjmbcfaamebaaDoor.X
noncomputable section
open Go.RowKit Go.Proofs.YtmfjmbcfaamebaaDoorW.PrintWords Go.Proofs.YtmfjmbcfaamebaaDoorW.PrintLast Go.Proofs.YtmfjmbcfaamebaaDoorW.PrintMore
attribute [local go_sem] qbr qcc
set_option linter.unusedVariables false
set_option linter.unusedSimpArgs false
def qbq.l0:Nat→List (S38)→List (List Int)→Int→Int→Bool→Int→List (S60)→Option (Bool)
 | 0,_,_,_,_,_,_,_=>none
 | k+1,x3,x4,x21,x22,x465000,x465001,x465002=>if x22<x21 then (if 0≤x22 then (if x22<(x3.length:Int) then ((qcl.f ((qcv x3 x22).f0)).bind fun t481=>(if x22<(x4.length:Int) then ((qak.f k t481 (qfb x4 x22)).bind fun t485=>(if t485=true then (qbq.l0 k x3 x4 x21 (wrap64 (x22+1)) x465000 x465001 x465002) else (some false))) else (none))) else (none)) else (none)) else ((qbk.f x465000 x465001 x465002).bind fun t473=>((qct.f k x465000 x465001 x465002).bind fun t476=>((qak.f k t473 t476).bind fun t479=>(some t479))))
def qbq.f (k:Nat) (a0_0:Bool) (a0_1:Int) (l0_2:List (S60)):Option (Bool):=(qbt.f k).bind fun t465=>(if t465=true then ((qas.f k a0_0 a0_1 l0_2).bind fun t466=>(if t466=true then ((qbp.f a0_0 a0_1 l0_2).bind fun t467=>((qar.f k a0_0 a0_1 l0_2).bind fun t470=>(if (t467.length:Int)=(t470.length:Int) then (qbq.l0 k t467 t470 (t470.length:Int) 0 a0_0 a0_1 l0_2) else (some false)))) else (some true))) else (some false))
theorem qbq.mono_l:∀ k,(∀ y0 y1 y2 y3 y4 y5 y6,LeO (qbq.l0 k y0 y1 y2 y3 y4 y5 y6) (qbq.l0 (k+1) y0 y1 y2 y3 y4 y5 y6))
 | 0=>fun _ _ _ _ _ _ _ r h=>by simp [qbq.l0] at h
 | k+1=>by
  have ih0:=qbq.mono_l k
  ·intro y0 y1 y2 y3 y4 y5 y6
   unfold qbq.l0
   repeat' first|(with_reducible exact ih0 _ _ _ _ _ _ _)|(with_reducible exact qak.mono _ _ _)|(with_reducible exact qct.mono _ _ _ _)|(with_reducible exact LeO.refl _)|(with_reducible refine LeO.ite ?_ ?_)|(with_reducible refine LeO.bind ?_ (fun _=>?_))
theorem qbq.mono:∀ a0 a1 a2 k,LeO (qbq.f k a0 a1 a2) (qbq.f (k+1) a0 a1 a2):=by
 intro a0 a1 a2 k
 have ih0:=qbq.mono_l k
 unfold qbq.f
 repeat' first|(with_reducible exact ih0 _ _ _ _ _ _ _)|(with_reducible exact qbt.mono _)|(with_reducible exact qar.mono _ _ _ _)|(with_reducible exact qas.mono _ _ _ _)|(with_reducible exact LeO.refl _)|(with_reducible refine LeO.ite ?_ ?_)|(with_reducible refine LeO.bind ?_ (fun _=>?_))
end
end Go.Proofs.YtmfjmbcfaamebaaDoor.X
namespace Go.Proofs.YtmfjmbcfaamebaaDoor.X
noncomputable section
open Go.RowKit Go.Proofs.YtmfjmbcfaamebaaDoorW.PrintWords Go.Proofs.YtmfjmbcfaamebaaDoorW.PrintLast Go.Proofs.YtmfjmbcfaamebaaDoorW.PrintMore
attribute [local go_sem] qbr qcc
set_option linter.unusedVariables false
set_option linter.unusedSimpArgs false
attribute [local go_sem high] eqA39
def qcd.l0:Nat→List (S39)→List (S39)→Int→Int→Bool→Int→List (S60)→Int→Int→Option (Bool)
 | 0,_,_,_,_,_,_,_,_,_=>none
 | k+1,x5,x23,x24,x25,x514000,x514001,x514002,x515000,x515001=>if x25<x24 then (if 0≤x25 then (if x25<(x23.length:Int) then (if x25<(x5.length:Int) then (if (!(((qcq x5 x25).f0)==((qcq x23 x25).f0))||(!(((qcq x5 x25).f1)==((qcq x23 x25).f1))))=true then (some false) else ((qbo.f k x514000 x514001 x514002 ((qcq x23 x25).f0) ((qcq x23 x25).f1)).bind fun t526=>((qcl.f t526).bind fun t529=>((qaw.f k x514000 x514001 x514002 ((qcq x23 x25).f0) ((qcq x23 x25).f1)).bind fun t532=>((qak.f k t529 t532).bind fun t535=>(if t535=true then (qcd.l0 k x5 x23 x24 (wrap64 (x25+1)) x514000 x514001 x514002 x515000 x515001) else (some false))))))) else (none)) else (none)) else (none)) else ((qbo.f k x514000 x514001 x514002 x515000 x515001).bind fun t536=>((qcl.f t536).bind fun t539=>((qaw.f k x514000 x514001 x514002 x515000 x515001).bind fun t542=>((qak.f k t539 t542).bind fun t545=>(some t545)))))
def qcd.f (k:Nat) (a0_0:Bool) (a0_1:Int) (l0_2:List (S60)) (a1_0:Int) (a1_1:Int):Option (Bool):=(qbt.f k).bind fun t515=>(if t515=true then ((qas.f k a0_0 a0_1 l0_2).bind fun t516=>(if t516=true then ((qcg.f k a0_0 a0_1 l0_2).bind fun t517=>((qco.f k a0_0 a0_1 l0_2).bind fun t520=>(if (t517.length:Int)=(t520.length:Int) then (qcd.l0 k t517 t520 (t520.length:Int) 0 a0_0 a0_1 l0_2 a1_0 a1_1) else (some false)))) else (some true))) else (some false))
theorem qcd.mono_l:∀ k,(∀ y0 y1 y2 y3 y4 y5 y6 y7 y8,LeO (qcd.l0 k y0 y1 y2 y3 y4 y5 y6 y7 y8) (qcd.l0 (k+1) y0 y1 y2 y3 y4 y5 y6 y7 y8))
 | 0=>fun _ _ _ _ _ _ _ _ _ r h=>by simp [qcd.l0] at h
 | k+1=>by
  have ih0:=qcd.mono_l k
  ·intro y0 y1 y2 y3 y4 y5 y6 y7 y8
   unfold qcd.l0
   repeat' first|(with_reducible exact ih0 _ _ _ _ _ _ _ _ _)|(with_reducible exact qbo.mono _ _ _ _ _ _)|(with_reducible exact qak.mono _ _ _)|(with_reducible exact qaw.mono _ _ _ _ _ _)|(with_reducible exact LeO.refl _)|(with_reducible refine LeO.ite ?_ ?_)|(with_reducible refine LeO.bind ?_ (fun _=>?_))
theorem qcd.mono:∀ a0 a1 a2 a3 a4 k,LeO (qcd.f k a0 a1 a2 a3 a4) (qcd.f (k+1) a0 a1 a2 a3 a4):=by
 intro a0 a1 a2 a3 a4 k
 have ih0:=qcd.mono_l k
 unfold qcd.f
 repeat' first|(with_reducible exact ih0 _ _ _ _ _ _ _ _ _)|(with_reducible exact qcg.mono _ _ _ _)|(with_reducible exact qbt.mono _)|(with_reducible exact qco.mono _ _ _ _)|(with_reducible exact qas.mono _ _ _ _)|(with_reducible exact LeO.refl _)|(with_reducible refine LeO.ite ?_ ?_)|(with_reducible refine LeO.bind ?_ (fun _=>?_))
end
end Go.Proofs.YtmfjmbcfaamebaaDoor.X
namespace Go.Proofs.YtmfjmbcfaamebaaDoor.X
open Go.RowKit Go.Proofs.YtmfjmbcfaamebaaDoorW.PrintWords Go.Proofs.YtmfjmbcfaamebaaDoorW.PrintLast Go.Proofs.YtmfjmbcfaamebaaDoorW.PrintMore
inductive Rch (T:Int→List Int) (av:Int→Prop):Int→Int→Prop
 | refl {a:Int}:¬ av a→Rch T av a a
 | step {a b c:Int}:Rch T av a b→c∈T b→¬ av c→Rch T av a c
section
variable {T:Int→List Int} {av av':Int→Prop} {a b c:Int}
theorem Rch.first (h:Rch T av a b):¬ av a:=by
 induction h with
 | refl h=>exact h
 | step _ _ _ ih=>exact ih
theorem Rch.last (h:Rch T av a b):¬ av b:=by
 cases h with
 | refl h=>exact h
 | step _ _ h=>exact h
theorem Rch.mono (hm:∀ x,av' x→av x) (h:Rch T av a b):Rch T av' a b:=by
 induction h with
 | refl h=>exact .refl (fun e=>h (hm _ e))
 | step _ h1 h2 ih=>exact .step ih h1 (fun e=>h2 (hm _ e))
theorem Rch.trans (h:Rch T av a b) (h':Rch T av b c):Rch T av a c:=by
 induction h' with
 | refl _=>exact h
 | step _ h1 h2 ih=>exact .step ih h1 h2
theorem Rch.split (h:Rch T av a c) (b:Int):Rch T (fun x=>av x∨x=b) a c∨Rch T av a b:=by
 induction h with
 | @refl h=>
  by_cases e:a=b
  ·subst e;exact .inr (.refl h)
  ·exact .inl (.refl (fun hh=>hh.elim h e))
 | @step x y h0 h1 h2 ih=>
  rcases ih with ih|ih
  ·by_cases e:y=b
   ·subst e;exact .inr (.step h0 h1 h2)
   ·exact .inl (.step ih h1 (fun hh=>hh.elim h2 e))
  ·exact .inr ih
theorem Rch.congr (hm:∀ x,av x↔av' x):Rch T av a b↔Rch T av' a b:=⟨mono (fun x h=>(hm x).2 h),mono (fun x h=>(hm x).1 h)⟩
theorem Rch.closed {P:Int→Prop} (h:Rch T av a b) (h0:P a) (hc:∀ x,P x→∀ y∈T x,¬ av y→P y):P b:=by
 induction h with
 | refl _=>exact h0
 | step _ h1 h2 ih=>exact hc _ (ih) _ h1 h2
end
def noN:Int→Prop:=fun _=>False
def Dm (T:Int→List Int) (r d n:Int):Prop:=Rch T noN r n∧¬ Rch T (fun x=>x=d) r n
section
variable {T:Int→List Int} {r a b c n:Int}
theorem Dm.self (h:Rch T noN r n):Dm T r n n:=⟨h,fun h'=>h'.last rfl⟩
theorem Dm.rch (h:Dm T r a n):Rch T noN r a:=by
 rcases h.1.split a with h'|h'
 ·exact absurd (h'.mono (fun x e=>.inr e)) h.2
 ·exact h'
theorem Dm.trans (h1:Dm T r a b) (h2:Dm T r b c):Dm T r a c:=by
 refine ⟨h2.1,fun h=>?_⟩
 rcases h.split b with h'|h'
 ·exact h2.2 (h'.mono (fun x e=>.inr e))
 ·exact h1.2 h'
theorem Dm.antisymm (h1:Dm T r a b) (h2:Dm T r b a):a=b:=by
 by_cases hab:a=b
 ·exact hab
 ·exfalso
  have key:∀ x,Rch T noN r x→Rch T (fun x=>x=a∨x=b) r x∨Rch T (fun x=>x=b) r a∨Rch T (fun x=>x=a) r b:=by
   intro x hx
   induction hx with
   | refl _=>
    by_cases e:r=a
    ·subst e;exact .inr (.inl (.refl hab))
    ·by_cases e':r=b
     ·subst e';exact .inr (.inr (.refl (fun h=>hab h.symm)))
     ·exact .inl (.refl (fun hh=>hh.elim e e'))
   | @step x y _ hE _ ih=>
    rcases ih with ih|ih
    ·by_cases e:y=a
     ·subst e;exact .inr (.inl (.step (ih.mono (fun x e=>.inr e)) hE hab))
     ·by_cases e':y=b
      ·subst e';exact .inr (.inr (.step (ih.mono (fun x e=>.inl e)) hE (fun h=>hab h.symm)))
      ·exact .inl (.step ih hE (fun hh=>hh.elim e e'))
    ·exact .inr ih
  rcases key a h2.1 with h|h|h
  ·exact h.last (.inl rfl)
  ·exact h2.2 h
  ·exact h1.2 h
theorem Dm.chain (h1:Dm T r a n) (h2:Dm T r b n):Dm T r a b∨Dm T r b a:=by
 by_cases hab:a=b
 ·subst hab;exact .inl (Dm.self h1.rch)
 ·by_cases ha:Dm T r a b
  ·exact .inl ha
  ·by_cases hb:Dm T r b a
   ·exact .inr hb
   ·exfalso
    have e1:Rch T (fun x=>x=a) r b:=Classical.byContradiction fun h=>ha ⟨h2.rch,h⟩
    have e2:Rch T (fun x=>x=b) r a:=Classical.byContradiction fun h=>hb ⟨h1.rch,h⟩
    have key:∀ x,Rch T noN r x→Rch T (fun x=>x=a) r x∨Rch T (fun x=>x=b) r x:=by
     intro x hx
     induction hx with
     | refl _=>
      by_cases e:r=a
      ·subst e;exact .inr (.refl hab)
      ·exact .inl (.refl e)
     | @step x y _ h1 _ ih=>
      rcases ih with ih|ih
      ·by_cases e:y=a
       ·subst e;exact .inr e2
       ·exact .inl (.step ih h1 e)
      ·by_cases e:y=b
       ·subst e;exact .inl e1
       ·exact .inr (.step ih h1 e)
    rcases key n h1.1 with h|h
    ·exact h1.2 h
    ·exact h2.2 h
end
inductive Dfs (T:Int→List Int):List Int→List Int→List Int→List Int→Prop
 | nil {s:List Int}:Dfs T s [] [] s
 | skip {s:List Int} {n:Int} {ts p s':List Int}:n∈s→Dfs T s ts p s'→Dfs T s (n::ts) p s'
 | go {s:List Int} {n:Int} {ts p1 s1 p2 s2:List Int}:n∉s→Dfs T (s++[n]) (T n) p1 s1→Dfs T s1 ts p2 s2→Dfs T s (n::ts) (p1++n::p2) s2
def qfs (U s:List Int):Nat:=(U.filter (fun x=>decide (x∉s))).length
theorem leftIn_le {U s s':List Int} (h:∀ x∈s,x∈s'):qfs U s'≤qfs U s:=by
 unfold qfs
 induction U with
 | nil=>simp
 | cons a t ih=>
  simp only [List.filter_cons]
  by_cases h1:a∈s'
  ·by_cases h2:a∈s
   ·simpa [h1,h2] using ih
   ·simp [h1,h2];simp at ih;omega
  ·have h2:a∉s:=fun e=>h1 (h _ e)
   simpa [h1,h2] using ih
theorem leftIn_lt {U s:List Int} {n:Int} (hU:n∈U) (hs:n∉s):qfs U (s++[n])<qfs U s:=by
 induction U with
 | nil=>simp at hU
 | cons a t ih=>
  have hle:qfs t (s++[n])≤qfs t s:=leftIn_le (fun x h=>List.mem_append_left _ h)
  unfold qfs at *
  simp only [List.filter_cons]
  by_cases e:a=n
  ·subst e
   simp [hs];simp at hle;omega
  ·have:=ih (by simpa [Ne.symm e] using hU)
   by_cases h2:a∈s
   ·simp [h2];simpa using this
   ·simp [h2,e];simpa using this
theorem Dfs.exists {T:Int→List Int} {U:List Int} (hT:∀ x∈U,∀ y∈T x,y∈U):∀ (m:Nat) (s ts:List Int),qfs U s≤m→(∀ t∈ts,t∈U)→∃ p s',Dfs T s ts p s'∧∀ x∈s,x∈s':=by
 intro m
 induction m with
 | zero=>
  intro s ts
  induction ts with
  | nil=>intro _ _;exact ⟨[],s,.nil,fun _ h=>h⟩
  | cons t ts ih=>
   intro hm ht
   have hts:t∈s:=Classical.byContradiction fun h=>by have:=leftIn_lt (ht t (List.mem_cons_self ..)) h;omega
   obtain ⟨p,s',h1,h2⟩:=ih hm (fun x h=>ht x (List.mem_cons_of_mem _ h))
   exact ⟨p,s',.skip hts h1,h2⟩
 | succ m ihm=>
  intro s ts
  induction ts generalizing s with
  | nil=>intro _ _;exact ⟨[],s,.nil,fun _ h=>h⟩
  | cons t ts ih=>
   intro hm ht
   by_cases hts:t∈s
   ·obtain ⟨p,s',h1,h2⟩:=ih s hm (fun x h=>ht x (List.mem_cons_of_mem _ h))
    exact ⟨p,s',.skip hts h1,h2⟩
   ·have hU:=ht t (List.mem_cons_self ..)
    have hlt:=leftIn_lt hU hts
    obtain ⟨p1,s1,h1,h2⟩:=ihm (s++[t]) (T t) (by omega) (hT t hU)
    have hs1:∀ x∈s,x∈s1:=fun x h=>h2 x (List.mem_append_left _ h)
    obtain ⟨p2,s2,h3,h4⟩:=ih s1 (Nat.le_trans (leftIn_le hs1) hm) (fun x h=>ht x (List.mem_cons_of_mem _ h))
    exact ⟨_,s2,.go hts h1 h3,fun x h=>h4 x (hs1 x h)⟩
section
variable {T:Int→List Int} {s ts p s':List Int}
theorem Dfs.mem (h:Dfs T s ts p s'):∀ x,x∈s'↔x∈s∨x∈p:=by
 induction h with
 | nil=>simp
 | skip _ _ ih=>exact ih
 | go h0 _ _ ih1 ih2=>
  intro x
  rw [ih2,ih1]
  simp only [List.mem_append,List.mem_cons,List.not_mem_nil,or_false]
  constructor
  ·rintro (((h|h)|h)|h)
   ·exact .inl h
   ·exact .inr (.inr (.inl h))
   ·exact .inr (.inl h)
   ·exact .inr (.inr (.inr h))
  ·rintro (h|h|h|h)
   ·exact .inl (.inl (.inl h))
   ·exact .inl (.inr h)
   ·exact .inl (.inl (.inr h))
   ·exact .inr h
theorem Dfs.len (h:Dfs T s ts p s'):s'.length=s.length+p.length:=by
 induction h with
 | nil=>simp
 | skip _ _ ih=>exact ih
 | go _ _ _ ih1 ih2=>simp at ih1 ih2 ⊢;omega
theorem Dfs.fresh (h:Dfs T s ts p s'):∀ x∈p,x∉s:=by
 induction h with
 | nil=>simp
 | skip _ _ ih=>exact ih
 | @go s n ts p1 s1 p2 s2 h0 h1 _ ih1 ih2=>
  intro x hx hs
  rcases List.mem_append.1 hx with h|h
  ·exact ih1 x h (List.mem_append_left _ hs)
  ·rcases List.mem_cons.1 h with rfl|h
   ·exact h0 hs
   ·exact ih2 x h ((h1.mem x).2 (.inl (List.mem_append_left _ hs)))
theorem Dfs.nodup (h:Dfs T s ts p s'):p.Nodup:=by
 induction h with
 | nil=>simp
 | skip _ _ ih=>exact ih
 | @go s n ts p1 s1 p2 s2 h0 h1 h2 ih1 ih2=>
  rw [List.nodup_append]
  refine ⟨ih1,?_,?_⟩
  ·rw [List.nodup_cons]
   exact ⟨fun h=>h2.fresh n h ((h1.mem n).2 (.inl (by simp))),ih2⟩
  ·intro a ha b hb e
   subst e
   rcases List.mem_cons.1 hb with rfl|hb
   ·exact h1.fresh a ha (by simp)
   ·exact h2.fresh a hb ((h1.mem a).2 (.inr ha))
theorem Dfs.reach (h:Dfs T s ts p s'):∀ x∈p,∃ t∈ts,Rch T (fun y=>y∈s) t x:=by
 induction h with
 | nil=>simp
 | skip _ _ ih=>
  intro x hx
  obtain ⟨t,ht,hr⟩:=ih x hx
  exact ⟨t,List.mem_cons_of_mem _ ht,hr⟩
 | @go s n ts p1 s1 p2 s2 h0 h1 _ ih1 ih2=>
  intro x hx
  rcases List.mem_append.1 hx with h|h
  ·obtain ⟨t,ht,hr⟩:=ih1 x h
   have hr':=hr.mono (av':=fun y=>y∈s) (fun y hy=>List.mem_append_left _ hy)
   exact ⟨n,List.mem_cons_self ..,(Rch.step (.refl h0) ht hr'.first).trans hr'⟩
  ·rcases List.mem_cons.1 h with rfl|h
   ·exact ⟨x,List.mem_cons_self ..,.refl h0⟩
   ·obtain ⟨t,ht,hr⟩:=ih2 x h
    exact ⟨t,List.mem_cons_of_mem _ ht,hr.mono (fun y hy=>(h1.mem y).2 (.inl (List.mem_append_left _ hy)))⟩
theorem Dfs.done (h:Dfs T s ts p s'):(∀ t∈ts,t∈s')∧∀ x∈p,∀ y∈T x,y∈s':=by
 induction h with
 | nil=>simp
 | skip h0 h1 ih=>
  refine ⟨fun t ht=>?_,ih.2⟩
  rcases List.mem_cons.1 ht with rfl|ht
  ·exact (h1.mem _).2 (.inl h0)
  ·exact ih.1 t ht
 | @go s n ts p1 s1 p2 s2 h0 h1 h2 ih1 ih2=>
  have up:∀ x,x∈s1→x∈s2:=fun x h=>(h2.mem x).2 (.inl h)
  refine ⟨fun t ht=>?_,fun x hx y hy=>?_⟩
  ·rcases List.mem_cons.1 ht with rfl|ht
   ·exact up _ ((h1.mem _).2 (.inl (by simp)))
   ·exact ih2.1 t ht
  ·rcases List.mem_append.1 hx with h|h
   ·exact up _ (ih1.2 x h y hy)
   ·rcases List.mem_cons.1 h with rfl|h
    ·exact up _ (ih1.1 y hy)
    ·exact ih2.2 x h y hy
theorem Dfs.found {n:Int} (h:Dfs T s [n] p s'):∀ x,x∈p↔Rch T (fun y=>y∈s) n x:=by
 intro x
 constructor
 ·intro hx
  obtain ⟨t,ht,hr⟩:=h.reach x hx
  rw [List.mem_singleton.1 ht] at hr
  exact hr
 ·intro hr
  have in':∀ y,y∈s'→y∉s→y∈p:=fun y h1 h2=>((h.mem y).1 h1).resolve_left h2
  exact hr.closed (in' n (h.done.1 n (by simp)) hr.first) (fun y hy z hz hn=>in' z (h.done.2 y hy z hz) hn)
end
end Go.Proofs.YtmfjmbcfaamebaaDoor.X
namespace Go.Proofs.YtmfjmbcfaamebaaDoor.X
open Go.RowKit Go.Proofs.YtmfjmbcfaamebaaDoorW.PrintWords Go.Proofs.YtmfjmbcfaamebaaDoorW.PrintLast Go.Proofs.YtmfjmbcfaamebaaDoorW.PrintMore
theorem word_f (ws:List Int) (j:Nat):qck.f ws (j:Int)=some (ws.getD j 0):=by
 unfold qck.f
 by_cases h:j<ws.length
 ·rw [if_pos (by omega),if_pos (by omega),qib]
 ·rw [if_neg (by omega),List.getD_eq_getElem?_getD,List.getElem?_eq_none (by omega)];rfl
theorem shr_u64 (v b:Nat) (hb:b<64):shr .u64 (v:Int) (b:Int)=((v/2 ^ b:Nat):Int):=by
 unfold shr
 rw [Int.toNat_natCast,show min b IntKind.u64.bits=b from Nat.min_eq_left (Nat.le_of_lt hb)]
 simp
theorem Has_f {ws:List Int} (hw:qde ws) (x:Int):qbu.f ws x=some (decide (0≤x∧x≤65535)&&tb ws x.toNat):=by
 unfold qbu.f
 rw [valid_f,Option.bind_some]
 by_cases hv:0≤x∧x≤65535
 ·obtain ⟨n,rfl⟩:=Int.eq_ofNat_of_zero_le hv.1
  obtain ⟨q,b,hb64,hnq⟩:∃ q b:Nat,b<64∧n=q*64+b:=⟨n/64,n % 64,Nat.mod_lt _ (by decide),by omega⟩
  obtain ⟨h0,h1⟩:=hw.getD q
  obtain ⟨v,hv'⟩:=Int.eq_ofNat_of_zero_le h0
  have hvb:v<18446744073709551616:=by omega
  have e1:n/64=q:=by omega
  have e2:n % 64=b:=by omega
  have hd:v/2 ^ b<18446744073709551616:=Nat.lt_of_le_of_lt (Nat.div_le_self _ _) hvb
  have e3:bits .and .u64 ((v/2 ^ b:Nat):Int) 1=((v/2 ^ b &&& 1:Nat):Int):=bits_and_u64_nat _ 1 hd (by omega)
  rw [decide_eq_true hv,if_pos rfl,quo64 (by omega) hnq hb64,rem64 hnq hb64,word_f,Option.bind_some,if_pos (by omega),hv',shr_u64 _ _ hb64,e3,Bool.true_and,tb,Int.toNat_natCast,e1,e2,hv',Int.toNat_natCast,Nat.testBit_eq_decide_div_mod_eq,Nat.and_one_is_mod]
  congr 1
  rw [Bool.eq_iff_iff,beq_iff_eq,decide_eq_true_eq]
  omega
 ·rw [decide_eq_false hv,if_neg (by decide)]
  rfl
theorem tb_set {ws:List Int} {i:Nat} (hi:i<ws.length) (v:Int) (x:Nat):tb (ws.set i v) x=if x/64=i then v.toNat.testBit (x % 64) else tb ws x:=by
 unfold tb
 by_cases h:x/64=i
 ·rw [if_pos h,h,List.getD_eq_getElem?_getD,List.getElem?_set_self hi];rfl
 ·rw [if_neg h,List.getD_eq_getElem?_getD,List.getElem?_set_ne (fun e=>h e.symm),← List.getD_eq_getElem?_getD]
theorem qde.set' {ws:List Int} (hw:qde ws) {i:Nat} {v:Int} (h0:0≤v) (h1:v<18446744073709551616):qde (ws.set i v):=by
 intro w h
 rcases List.mem_or_eq_of_mem_set h with h|rfl
 ·exact hw w h
 ·exact ⟨h0,h1⟩
theorem bits_or_ok {a b:Int} (ha:0≤a∧a<18446744073709551616) (hb:0≤b∧b<18446744073709551616):0≤Go.bits .or .u64 a b∧Go.bits .or .u64 a b<18446744073709551616∧∀ j,(Go.bits .or .u64 a b).toNat.testBit j=(a.toNat.testBit j||b.toNat.testBit j):=by
 obtain ⟨m,rfl⟩:=Int.eq_ofNat_of_zero_le ha.1
 obtain ⟨n,rfl⟩:=Int.eq_ofNat_of_zero_le hb.1
 have h1:m<2 ^ 64:=by omega
 have h2:n<2 ^ 64:=by omega
 have:=Nat.or_lt_two_pow h1 h2
 rw [bits_or_u64_nat m n (by omega) (by omega)]
 refine ⟨by omega,by omega,fun j=>?_⟩
 rw [Int.toNat_natCast,Int.toNat_natCast,Int.toNat_natCast,Nat.testBit_or]
theorem bits_andNot_ok {a b:Int} (ha:0≤a∧a<18446744073709551616) (hb:0≤b∧b<18446744073709551616):0≤Go.bits .andNot .u64 a b∧Go.bits .andNot .u64 a b<18446744073709551616∧∀ j,j<64→(Go.bits .andNot .u64 a b).toNat.testBit j=(a.toNat.testBit j&&!b.toNat.testBit j):=by
 obtain ⟨m,rfl⟩:=Int.eq_ofNat_of_zero_le ha.1
 obtain ⟨n,rfl⟩:=Int.eq_ofNat_of_zero_le hb.1
 have h2:n<2 ^ 64:=by omega
 have h3:m &&& (18446744073709551615-n)<2 ^ 64:=Nat.and_lt_two_pow _ (by omega)
 rw [u64_andNot_nat m n (by omega) (by omega)]
 refine ⟨by omega,by omega,fun j hj=>?_⟩
 have:=Nat.testBit_two_pow_sub_succ h2 j
 rw [show 2 ^ 64-(n+1)=18446744073709551615-n by omega] at this
 rw [Int.toNat_natCast,Int.toNat_natCast,Int.toNat_natCast,Nat.testBit_and,this,decide_eq_true hj,Bool.true_and]
theorem Union_from {s t:List Int} (hs:qde s) (ht:qde t) (n:Nat) (hn:n≤1024):∀ (m i:Nat) (ws:List Int),i+m=n→ws.length=n→qde ws→
  ∃ r,Ev (fun k=>qaj.l0 k ws (n:Int) (i:Int) s t) r∧GS r∧∀ x,tb r x=if x/64<i∨n≤x/64 then tb ws x else (tb s x||tb t x)
 | 0,i,ws,hi,hl,hw=>by
  obtain ⟨r,h1,h2,h3⟩:=trimmed_ev hw (by omega)
  refine ⟨r,Ev.next (Ev.bind h1 (Ev.const r)) (fun k=>?_),h3,fun x=>?_⟩
  ·rw [qaj.l0,if_neg (by omega)]
  ·rw [h2,if_pos (by omega)]
 | m+1,i,ws,hi,hl,hw=>by
  obtain ⟨h0,h1,h2⟩:=bits_or_ok (hs.getD i) (ht.getD i)
  have hil:i<ws.length:=by omega
  obtain ⟨r,h3,h4,h5⟩:=Union_from hs ht n hn m (i+1) (ws.set i (Go.bits .or .u64 (s.getD i 0) (t.getD i 0))) (by omega) (by rw [List.length_set,hl]) (hw.set' h0 h1)
  refine ⟨r,Ev.next h3 (fun k=>?_),h4,fun x=>?_⟩
  ·have c1:((i:Int)<(n:Int))=True:=eq_true (by omega)
   have c2:(0≤(i:Int))=True:=eq_true (by omega)
   have c3:((i:Int)<(ws.length:Int))=True:=eq_true (by omega)
   have hw':=qdf (show i<9223372036854775807 by omega)
   rw [qaj.l0]
   simp only [c1,c2,c3,word_f,qdi.f,hw',if_true,Option.bind_some,Int.toNat_natCast]
  ·rw [h5]
   by_cases e:x/64=i
   ·rw [if_pos (by omega),if_neg (by omega),tb_set hil,if_pos e,h2]
    unfold tb
    rw [e]
   ·rw [tb_set hil,if_neg e]
    by_cases e2:x/64<i∨n≤x/64
    ·rw [if_pos e2,if_pos (by omega)]
    ·rw [if_neg e2,if_neg (by omega)]
theorem Minus_from {s t:List Int} (hs:qde s) (ht:qde t) (n:Nat) (hn:n≤1024):∀ (m i:Nat) (ws:List Int),i+m=n→ws.length=n→qde ws→
  ∃ r,Ev (fun k=>qam.l0 k ws (n:Int) (i:Int) s t) r∧GS r∧∀ x,tb r x=if x/64<i∨n≤x/64 then tb ws x else (tb s x&&!tb t x)
 | 0,i,ws,hi,hl,hw=>by
  obtain ⟨r,h1,h2,h3⟩:=trimmed_ev hw (by omega)
  refine ⟨r,Ev.next (Ev.bind h1 (Ev.const r)) (fun k=>?_),h3,fun x=>?_⟩
  ·rw [qam.l0,if_neg (by omega)]
  ·rw [h2,if_pos (by omega)]
 | m+1,i,ws,hi,hl,hw=>by
  obtain ⟨h0,h1,h2⟩:=bits_andNot_ok (hs.getD i) (ht.getD i)
  have hil:i<ws.length:=by omega
  obtain ⟨r,h3,h4,h5⟩:=Minus_from hs ht n hn m (i+1) (ws.set i (Go.bits .andNot .u64 (s.getD i 0) (t.getD i 0))) (by omega) (by rw [List.length_set,hl]) (hw.set' h0 h1)
  refine ⟨r,Ev.next h3 (fun k=>?_),h4,fun x=>?_⟩
  ·have c1:((i:Int)<(n:Int))=True:=eq_true (by omega)
   have c2:(0≤(i:Int))=True:=eq_true (by omega)
   have c3:((i:Int)<(ws.length:Int))=True:=eq_true (by omega)
   have hw':=qdf (show i<9223372036854775807 by omega)
   rw [qam.l0]
   simp only [c1,c2,c3,word_f,qdq.f,hw',if_true,Option.bind_some,Int.toNat_natCast]
  ·rw [h5]
   by_cases e:x/64=i
   ·rw [if_pos (by omega),if_neg (by omega),tb_set hil,if_pos e,h2 _ (Nat.mod_lt _ (by decide))]
    unfold tb
    rw [e]
   ·rw [tb_set hil,if_neg e]
    by_cases e2:x/64<i∨n≤x/64
    ·rw [if_pos e2,if_pos (by omega)]
    ·rw [if_neg e2,if_neg (by omega)]
theorem mx_nat (a b:Nat):mx (a:Int) (b:Int)=((max a b:Nat):Int):=by unfold mx;omega
theorem tb_zeros (n x:Nat):tb (List.replicate n 0) x=false:=by
 unfold tb
 rw [List.getD_eq_getElem?_getD,List.getElem?_replicate]
 split <;> simp
theorem qde.zeros (n:Nat):qde (List.replicate n 0):=by
 intro w h
 obtain ⟨_,rfl⟩:=List.mem_replicate.1 h
 omega
theorem tb_out {ws:List Int} {x:Nat} (h:ws.length≤x/64):tb ws x=false:=by
 cases e:tb ws x with
 | false=>rfl
 | true=>have:=tb_len e;omega
theorem Union_ev {s t:List Int} (hs:GS s) (ht:GS t):∃ r,Ev (fun k=>qcs.f k s t) r∧GS r∧∀ x,tb r x=(tb s x||tb t x):=by
 obtain ⟨n,hn⟩:∃ n,max s.length t.length=n:=⟨_,rfl⟩
 have hn2:n≤1024:=by have:=hs.len;have:=ht.len;omega
 obtain ⟨r,h1,h2,h3⟩:=Union_from hs.wd ht.wd n hn2 n 0 (List.replicate n 0) (by omega) (by simp) (.zeros n)
 refine ⟨r,(Ev.bind h1 (Ev.const r)).congr (fun k=>?_),h2,fun x=>?_⟩
 ·unfold qcs.f qaj.f
  have c1:(0≤(n:Int))=True:=eq_true (by omega)
  have c2:(n≤35184372088832)=True:=eq_true (by omega)
  simp only [mx_nat,hn,Int.toNat_natCast,c1,c2,if_true,Option.bind_some,List.length_replicate]
  rfl
 ·rw [h3]
  by_cases h:n≤x/64
  ·rw [if_pos (.inr h),tb_zeros,tb_out (by omega),tb_out (by omega)];rfl
  ·rw [if_neg (by omega)]
theorem Minus_ev {s t:List Int} (hs:GS s) (ht:GS t):∃ r,Ev (fun k=>qcb.f k s t) r∧GS r∧∀ x,tb r x=(tb s x&&!tb t x):=by
 obtain ⟨n,hn⟩:∃ n,max s.length t.length=n:=⟨_,rfl⟩
 have hn2:n≤1024:=by have:=hs.len;have:=ht.len;omega
 obtain ⟨r,h1,h2,h3⟩:=Minus_from hs.wd ht.wd n hn2 n 0 (List.replicate n 0) (by omega) (by simp) (.zeros n)
 refine ⟨r,(Ev.bind h1 (Ev.const r)).congr (fun k=>?_),h2,fun x=>?_⟩
 ·unfold qcb.f qam.f
  have c1:(0≤(n:Int))=True:=eq_true (by omega)
  have c2:(n≤35184372088832)=True:=eq_true (by omega)
  simp only [mx_nat,hn,Int.toNat_natCast,c1,c2,if_true,Option.bind_some,List.length_replicate]
  rfl
 ·rw [h3]
  by_cases h:n≤x/64
  ·rw [if_pos (.inr h),tb_zeros,tb_out (by omega),tb_out (by omega)];rfl
  ·rw [if_neg (by omega)]
theorem With_ev {s:List Int} (hs:GS s) (n:Nat) (hn:n≤65535):∃ r,Ev (fun k=>qca.f k s (n:Int)) r∧GS r∧∀ x,tb r x=(tb s x||decide (x=n)):=by
 obtain ⟨o,h1,h2,h3⟩:=Of_ev [(n:Int)] (by simp)
 obtain ⟨r,h4,h5,h6⟩:=Union_ev hs h2
 refine ⟨r,Ev.bind h1 (Ev.bind h4 (Ev.const r)),h5,fun x=>?_⟩
 rw [h6,Bool.eq_iff_iff,Bool.or_eq_true,Bool.or_eq_true,h3,qhs,List.mem_singleton,decide_eq_true_eq]
 exact ⟨fun h=>h.imp_right (fun h=>by omega),fun h=>h.imp_right (fun h=>by subst h;exact ⟨rfl,hn⟩)⟩
theorem Without_ev {s:List Int} (hs:GS s) (n:Nat) (hn:n≤65535):∃ r,Ev (fun k=>qcj.f k s (n:Int)) r∧GS r∧∀ x,tb r x=(tb s x&&!decide (x=n)):=by
 obtain ⟨o,h1,h2,h3⟩:=Of_ev [(n:Int)] (by simp)
 obtain ⟨r,h4,h5,h6⟩:=Minus_ev hs h2
 refine ⟨r,Ev.bind h1 (Ev.bind h4 (Ev.const r)),h5,fun x=>?_⟩
 have:tb o x=decide (x=n):=by
  rw [Bool.eq_iff_iff,h3,qhs,List.mem_singleton,decide_eq_true_eq]
  exact ⟨fun h=>by omega,fun h=>by subst h;exact ⟨rfl,hn⟩⟩
 rw [h6,this]
end Go.Proofs.YtmfjmbcfaamebaaDoor.X
