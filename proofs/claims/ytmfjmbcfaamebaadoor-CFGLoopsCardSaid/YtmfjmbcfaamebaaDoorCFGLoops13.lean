/- Parts of the proof of the law CFGLoops: words, walks of single functions and plain laws, joined by a program out of the session's texts. -/
import Derived.Test.YtmfjmbcfaamebaaDoorCFGLoops12
set_option linter.unusedVariables false
set_option linter.unusedSimpArgs false
namespace Go.Proofs.YtmfjmbcfaamebaaDoor.X
open Go.RowKit Go.Proofs.YtmfjmbcfaamebaaDoorW.PrintWords Go.Proofs.YtmfjmbcfaamebaaDoorW.PrintLast Go.Proofs.YtmfjmbcfaamebaaDoorW.PrintMore
attribute [local go_sem] qbv qcg
set_option linter.unusedVariables false
set_option linter.unusedSimpArgs false
attribute [local go_sem high] eqA39
mutual
def qaj.l0:Nat→Bool→List (S39)→Int→Int→Bool→Int→List (S60)→Int→Int→Option (List Int)
 | 0,_,_,_,_,_,_,_,_,_=>none
 | k+1,x5,x12,x13,x14,x487000,x487001,x487002,x488000,x488001=>if x14<x13 then (if 0≤x14 then (if x14<(x12.length:Int) then (if x5=true then (qaj.l0 k true x12 x13 (wrap64 (x14+1)) x487000 x487001 x487002 x488000 x488001) else (qaj.l0 k (((qav x12 x14).f0)==x488000&&(((qav x12 x14).f1)==x488001)) x12 x13 (wrap64 (x14+1)) x487000 x487001 x487002 x488000 x488001)) else (none)) else (none)) else (if x5=true then ((qae.f k x487000 x487001 x487002 0 ([]:List Int)).bind fun t496=>(qaj.l1 k (([x488001]:List Int)) t496 (t496.length:Int) 0 x487000 x487001 x487002 x488000 x488001)) else (some ([]:List Int)))
def qaj.l1:Nat→List Int→List Int→Int→Int→Bool→Int→List (S60)→Int→Int→Option (List Int)
 | 0,_,_,_,_,_,_,_,_,_=>none
 | k+1,x8,x31,x32,x33,x487000,x487001,x487002,x488000,x488001=>if x33<x32 then (if 0≤x33 then (if x33<(x31.length:Int) then ((qae.f k x487000 x487001 x487002 (rd x31 x33) (([x488001]:List Int))).bind fun t506=>((qap.f k t506 x488000).bind fun t509=>(if t509=true then (if x8.length<17592186044416 then (qaj.l1 k (x8++[rd x31 x33]) x31 x32 (wrap64 (x33+1)) x487000 x487001 x487002 x488000 x488001) else (none)) else (qaj.l1 k x8 x31 x32 (wrap64 (x33+1)) x487000 x487001 x487002 x488000 x488001)))) else (none)) else (none)) else ((qbi.f k x8).bind fun t499=>(some t499))
end
def qaj.f (k:Nat) (a0_0:Bool) (a0_1:Int) (l0_2:List (S60)) (a1_0:Int) (a1_1:Int):Option (List Int):=(qbg.f k a0_0 a0_1 l0_2).bind fun t488=>(qaj.l0 k false t488 (t488.length:Int) 0 a0_0 a0_1 l0_2 a1_0 a1_1)
theorem qaj.mono_l:∀ k,(∀ y0 y1 y2 y3 y4 y5 y6 y7 y8,LeO (qaj.l0 k y0 y1 y2 y3 y4 y5 y6 y7 y8) (qaj.l0 (k+1) y0 y1 y2 y3 y4 y5 y6 y7 y8))∧(∀ y0 y1 y2 y3 y4 y5 y6 y7 y8,LeO (qaj.l1 k y0 y1 y2 y3 y4 y5 y6 y7 y8) (qaj.l1 (k+1) y0 y1 y2 y3 y4 y5 y6 y7 y8))
 | 0=>⟨fun _ _ _ _ _ _ _ _ _ r h=>by simp [qaj.l0] at h,fun _ _ _ _ _ _ _ _ _ r h=>by simp [qaj.l1] at h⟩
 | k+1=>by
  obtain ⟨ih0,ih1⟩:=qaj.mono_l k
  refine ⟨?_,?_⟩
  ·intro y0 y1 y2 y3 y4 y5 y6 y7 y8
   unfold qaj.l0
   repeat' first|(with_reducible exact ih0 _ _ _ _ _ _ _ _ _)|(with_reducible exact ih1 _ _ _ _ _ _ _ _ _)|(with_reducible exact qae.mono _ _ _ _ _ _)|(with_reducible exact LeO.refl _)|(with_reducible refine LeO.ite ?_ ?_)|(with_reducible refine LeO.bind ?_ (fun _=>?_))
  ·intro y0 y1 y2 y3 y4 y5 y6 y7 y8
   unfold qaj.l1
   repeat' first|(with_reducible exact ih1 _ _ _ _ _ _ _ _ _)|(with_reducible exact qap.mono _ _ _)|(with_reducible exact qbi.mono _ _)|(with_reducible exact qae.mono _ _ _ _ _ _)|(with_reducible exact LeO.refl _)|(with_reducible refine LeO.ite ?_ ?_)|(with_reducible refine LeO.bind ?_ (fun _=>?_))
theorem qaj.mono:∀ a0 a1 a2 a3 a4 k,LeO (qaj.f k a0 a1 a2 a3 a4) (qaj.f (k+1) a0 a1 a2 a3 a4):=by
 intro a0 a1 a2 a3 a4 k
 obtain ⟨ih0,ih1⟩:=qaj.mono_l k
 unfold qaj.f
 repeat' first|(with_reducible exact ih0 _ _ _ _ _ _ _ _ _)|(with_reducible exact qbg.mono _ _ _ _)|(with_reducible refine LeO.bind ?_ (fun _=>?_))
def qaj.T13:Bool×List (List Nat×List Nat):=(true,[([],[]),([],[]),([],[]),([2],[2]),([3],[3]),([0,1,4],[0,1,4]),([],[]),([6],[6]),([5,7,5],[5,7])])
def qaj.B13:List Nat:=[0,0,0,4,12,31,0,64,255]
theorem qaj.tab13:rtab .any (opsOf Tryd.f29 13)=qaj.T13:=by kernel_rfl
theorem qaj.bits13:qel qaj.T13.2 qaj.B13=true:=by kernel_rfl
set_option maxHeartbeats 8000000 in
set_option maxRecDepth 100000 in
theorem qaj.calls (k:Nat) (a0_0:Bool) (a0_1:Int) (A0_2:Option Addr) (c0_2:Nat) (l0_2:List (S60)) (a1_0:Int) (a1_1:Int) (r:List Int) (w:World) (hr0_2:Kd.C k60 w A0_2 l0_2.length l0_2) (hc0_2:l0_2.length≤c0_2) (h:qaj.f k a0_0 a0_1 l0_2 a1_0 a1_1=some r) :
  Calls Tryd.prog 29 #[.agg #[.bool a0_0,.int .i64 a0_1,.slice A0_2 l0_2.length c0_2],.agg #[.int .i64 a1_0,.int .i64 a1_1]] w fun e w'=>∃ v0_:Value,e=.returned (v0_)∧Kd.R (Kd.int .i64) 3 w' w.heap.size (fun _=>True) v0_ r∧Below w.heap.size w w':=by
 have hu24:=Tryd.underlying24
 have hu39:=Tryd.underlying39
 have HR0_2:=qaa.mk hr0_2
 have HC0_2:=qaa.mk hc0_2
 clear hr0_2 hc0_2
 have HB:=qaa.mk (Below.refl w.heap.size w)
 have H:((qbg.f k a0_0 a0_1 l0_2).bind fun t488=>(qaj.l0 k false t488 (t488.length:Int) 0 a0_0 a0_1 l0_2 a1_0 a1_1))=some r:=h
 clear h
 replace H:=Option.bind_eq_some_iff.mp H
 obtain ⟨t488,A30,H⟩:=H
 replace H:(qaj.l0 k false t488 (t488.length:Int) 0 a0_0 a0_1 l0_2 a1_0 a1_1)=some r:=H
 have A3:=qaa.mk A30
 clear A30
 have H':=qaa.mk H
 clear H
 go_enter Tryd.func29,Tryd.ntmps29
 go_wp2_with (first|((with_reducible refine qbf (N:=2) rfl ?_);refine qbk ?hg (N:=2) ?hd (cs:=#[.bool a0_0,.int .i64 a0_1,.slice A0_2 l0_2.length c0_2]) (t:=24) ?hr ?_;(case hd=>rfl);(case hg=>rfl);(case hr=>(go_simp;done));intro gb486 hg w4 hbox hb;have BK486:=qaa.mk (hbox);have GW486:=qaa.mk ((by rw [hg];exact (qad HB.out):w.heap.size≤gb486));have GE486:=qaa.mk ((by rw [hg];exact (qad HB.out):w.heap.size≤gb486));replace HB:=qaa.mk (qai HB.out hb);clear hb hbox hg)|((with_reducible refine qbf (N:=3) rfl ?_);refine qbk ?hg (N:=3) ?hd (cs:=#[.int .i64 a1_0,.int .i64 a1_1]) (t:=39) ?hr ?_;(case hd=>rfl);(case hg=>rfl);(case hr=>(go_simp;done));intro gb487 hg w5 hbox hb;have BK487:=qaa.mk (hbox);have GW487:=qaa.mk ((by rw [hg];exact (qad HB.out):w.heap.size≤gb487));have GE487:=qaa.mk ((by rw [hg];exact (qad HB.out):w.heap.size≤gb487));replace HB:=qaa.mk (qai HB.out hb);have NB486_487:=qaa.mk ((by rw [hg];exact Nat.ne_of_lt (qbh (g:=gb486) (o:=.cells #[.bool a0_0,.int .i64 a0_1,.slice A0_2 l0_2.length c0_2] 24 (0,0)) (by (with_reducible repeat (refine qab ?_));exact BK486.out)):gb486≠gb487));have NB487_486:=qaa.mk ((by rw [hg];exact Nat.ne_of_gt (qbh (g:=gb486) (o:=.cells #[.bool a0_0,.int .i64 a0_1,.slice A0_2 l0_2.length c0_2] 24 (0,0)) (by (with_reducible repeat (refine qab ?_));exact BK486.out)):gb487≠gb486));replace BK486:=qaa.mk (qaf (g:=gb486) (o:=.cells #[.bool a0_0,.int .i64 a0_1,.slice A0_2 l0_2.length c0_2] 24 (0,0)) (by (with_reducible repeat (refine qab ?_));exact BK486.out) hb);clear hb hbox hg;have hnb6:=NB486_487.out;have hnc6:=NB487_486.out;have hcz7_0:w5.cell? ⟨gb486,0,none⟩=some (.bool a0_0):=(qac BK486.out 0).trans rfl;have hcz7_1:w5.cell? ⟨gb486,1,none⟩=some (.int .i64 a0_1):=(qac BK486.out 1).trans rfl;have hcz7_2:w5.cell? ⟨gb486,2,none⟩=some (.slice A0_2 l0_2.length c0_2):=(qac BK486.out 2).trans rfl;have hfz7_0:=qag BK486.out 0;have hfz7_1:=qag BK486.out 1;have hfz7_2:=qag BK486.out 2)|((with_reducible refine qbb (f:=27) rfl ?_);refine qcu (some 12) rfl rfl Tryd.func27 (by kernel_rfl) rfl #[.agg #[.bool a0_0,.int .i64 a0_1,.slice A0_2 l0_2.length c0_2]] rfl (by (try simp only [List.map_toArray,List.map_cons,List.map_nil]);rfl) ?_;(with_reducible refine (qbg.calls k a0_0 a0_1 _ _ l0_2 t488 _ ?side1 ?side2 A3.out).mono ?_);(case side1=>repeat (exact (Kd.C_below HR0_2.out HB.out)));(case side2=>exact HC0_2.out);rintro e w8 ⟨v489,rfl,ho0,hb⟩;refine ⟨_,rfl,?_⟩;have HO490:=qaa.mk (Kd.R_lower (Kd.R_newB ho0 (g:=gb487) (o:=.cells #[.int .i64 a1_0,.int .i64 a1_1] 39 (0,0)) (by (with_reducible repeat (refine qab ?_));exact BK487.out)) (qad HB.out));replace BK486:=qaa.mk (qaf (g:=gb486) (o:=.cells #[.bool a0_0,.int .i64 a0_1,.slice A0_2 l0_2.length c0_2] 24 (0,0)) (by (with_reducible repeat (refine qab ?_));exact BK486.out) hb);replace BK487:=qaa.mk (qaf (g:=gb487) (o:=.cells #[.int .i64 a1_0,.int .i64 a1_1] 39 (0,0)) (by (with_reducible repeat (refine qab ?_));exact BK487.out) hb);replace HB:=qaa.mk (qai HB.out hb);(try clear hb);(try clear ho0);obtain ⟨Ao9,co9,eo9⟩:=Kd.R_slice HO490.out;subst eo9))
 go_loopg [5,14] k (fun kq v5 v14 w'=>∃ (x5_1:Bool) (x14_1:Int),v5=.bool x5_1∧v14=.int .i64 x14_1∧qaa (qaj.l0 kq x5_1 t488 (t488.length:Int) x14_1 a0_0 a0_1 l0_2 a1_0 a1_1=some r)∧qaa (kq≤k)∧qaa (Kd.R k39 39 w' w.heap.size (fun k_=>k_≠gb487) (.slice Ao9 t488.length co9) t488)∧qaa (w'.heap[gb486]?=some (.cells #[.bool a0_0,.int .i64 a0_1,(.slice A0_2 l0_2.length c0_2)] 24 (0,0)))∧qaa (w'.heap[gb487]?=some (.cells #[.int .i64 a1_0,.int .i64 a1_1] 39 (0,0)))∧qaa (Below w.heap.size w w'))
 case atStart=>exact ⟨(false),(0),(by rfl),(by rfl),H',⟨Nat.le_refl _⟩,⟨by (with_reducible repeat (apply Kd.R_drew));exact Kd.R_mono HO490.out (fun _ hk=>hk.2)⟩,⟨by (with_reducible repeat (refine qab ?_));exact BK486.out⟩,⟨by (with_reducible repeat (refine qab ?_));exact BK487.out⟩,⟨by repeat ((with_reducible exact HB.out))⟩⟩
 case round=>
  clear H'
  try clear hcz7_0
  try clear hcz7_1
  try clear hcz7_2
  try clear hfz7_0
  try clear hfz7_1
  try clear hfz7_2
  obtain ⟨x5_1,x14_1,rfl,rfl,HA,HK1,HO_12,BK486,BK487,HB⟩:=hrel
  cases gk with
  | zero=>exact absurd HA.out (by simp [qaj.l0])
  | succ k1=>
   have H:=HA.out
   clear HA
   simp only [qaj.l0] at H
   by_cases c10:x14_1<(t488.length:Int)
   ·rw [if_pos c10] at H
    have c10b0:decide (x14_1<(t488.length:Int))=true:=decide_eq_true c10
    clear c10
    by_cases c11:0≤x14_1
    ·rw [if_pos c11] at H
     have c11b0:decide (0≤x14_1)=true:=decide_eq_true c11
     clear c11
     by_cases c12:x14_1<(t488.length:Int)
     ·rw [if_pos c12] at H
      have c12b0:decide (x14_1<(t488.length:Int))=true:=decide_eq_true c12
      clear c12
      by_cases c13:x5_1=true
      ·subst c13
       have H1:(qaj.l0 k1 true t488 (t488.length:Int) (wrap64 (x14_1+1)) a0_0 a0_1 l0_2 a1_0 a1_1)=some r:=by rw [if_pos rfl] at H;exact H
       clear H
       have H:=H1
       clear H1
       have H':=qaa.mk H
       clear H
       have p491:0≤(x14_1:Int):=of_decide_eq_true (by (with_reducible assumption))
       have q491:x14_1<(t488.length:Int):=of_decide_eq_true (by (with_reducible assumption))
       obtain ⟨ad491,e491,hx491_0,hx491_1⟩:=qgv (Kd.R_reads' HO_12.out).2.2 x14_1 p491 q491
       cases e491
       replace p491:=eq_true p491
       replace q491:=eq_true q491
       go_wp2_with (((with_reducible refine qbf (N:=7) rfl ?_);refine qbk ?hg (N:=7) ?hd (cs:=#[.int .i64 0,.int .i64 0]) (t:=39) ?hr ?_;(case hd=>rfl);(case hg=>rfl);(case hr=>(go_simp;done));intro gb492 hg w14 hbox hb;replace HO_12:=qaa.mk (Kd.R_below (Kd.R_elderB (by (with_reducible repeat (apply Kd.R_drew));exact HO_12.out) gb492 (Nat.le_of_eq hg.symm)) hb);have BK492:=qaa.mk (hbox);have GW492:=qaa.mk ((by rw [hg];exact (qad HB.out):w.heap.size≤gb492));have GE492:=qaa.mk ((by rw [hg];exact (qad HB.out):w.heap.size≤gb492));replace HB:=qaa.mk (qai HB.out hb);have NB486_492:=qaa.mk ((by rw [hg];exact Nat.ne_of_lt (qbh (g:=gb486) (o:=.cells #[.bool a0_0,.int .i64 a0_1,.slice A0_2 l0_2.length c0_2] 24 (0,0)) (by (with_reducible repeat (refine qab ?_));exact BK486.out)):gb486≠gb492));have NB492_486:=qaa.mk ((by rw [hg];exact Nat.ne_of_gt (qbh (g:=gb486) (o:=.cells #[.bool a0_0,.int .i64 a0_1,.slice A0_2 l0_2.length c0_2] 24 (0,0)) (by (with_reducible repeat (refine qab ?_));exact BK486.out)):gb492≠gb486));replace BK486:=qaa.mk (qaf (g:=gb486) (o:=.cells #[.bool a0_0,.int .i64 a0_1,.slice A0_2 l0_2.length c0_2] 24 (0,0)) (by (with_reducible repeat (refine qab ?_));exact BK486.out) hb);have NB487_492:=qaa.mk ((by rw [hg];exact Nat.ne_of_lt (qbh (g:=gb487) (o:=.cells #[.int .i64 a1_0,.int .i64 a1_1] 39 (0,0)) (by (with_reducible repeat (refine qab ?_));exact BK487.out)):gb487≠gb492));have NB492_487:=qaa.mk ((by rw [hg];exact Nat.ne_of_gt (qbh (g:=gb487) (o:=.cells #[.int .i64 a1_0,.int .i64 a1_1] 39 (0,0)) (by (with_reducible repeat (refine qab ?_));exact BK487.out)):gb492≠gb487));replace BK487:=qaa.mk (qaf (g:=gb487) (o:=.cells #[.int .i64 a1_0,.int .i64 a1_1] 39 (0,0)) (by (with_reducible repeat (refine qab ?_));exact BK487.out) hb);clear hb hbox hg;have hnb15:=NB492_486.out;have hnc15:=NB486_492.out;have hnb16:=NB492_487.out;have hnc16:=NB487_492.out;have hcz17_0:w14.cell? ⟨gb492,0,none⟩=some (.int .i64 0):=(qac BK492.out 0).trans rfl;have hcz17_1:w14.cell? ⟨gb492,1,none⟩=some (.int .i64 0):=(qac BK492.out 1).trans rfl;have hfz17_0:=qag BK492.out 0;have hfz17_1:=qag BK492.out 1))
       go_roundg k1
       case measure=>have:=HK1.out;omega
       case rel=>exact ⟨(true),(wrap64 (x14_1+1)),(by rfl),(by rfl),H',⟨by have:=HK1.out;omega⟩,⟨by (with_reducible repeat (apply Kd.R_drew));exact Kd.R_mono (Kd.R_far (p:=⟨gb492,1,none⟩) (Kd.R_far (p:=⟨gb492,0,none⟩) (Kd.R_mono HO_12.out (fun k_ hk=>(⟨hk,hk.2⟩:_∧k_≠gb492))) (fun _ hk=>hk.2) (.int .i64 ((qav t488 x14_1).f0))) (fun _ hk=>hk.2) (.int .i64 ((qav t488 x14_1).f1))) (fun _ hk=>hk.1.1)⟩,⟨by (with_reducible repeat (refine qab ?_));refine qcm ?_ NB486_492.out _;(with_reducible repeat (refine qab ?_));refine qcm ?_ NB486_492.out _;(with_reducible repeat (refine qab ?_));exact BK486.out⟩,⟨by (with_reducible repeat (refine qab ?_));refine qcm ?_ NB487_492.out _;(with_reducible repeat (refine qab ?_));refine qcm ?_ NB487_492.out _;(with_reducible repeat (refine qab ?_));exact BK487.out⟩,⟨by repeat ((with_reducible first|exact HB.out|refine qby ?_ GE492.out))⟩⟩
      ·replace c13:=Bool.eq_false_iff.mpr c13
       subst c13
       have H1:(qaj.l0 k1 (((qav t488 x14_1).f0)==a1_0&&(((qav t488 x14_1).f1)==a1_1)) t488 (t488.length:Int) (wrap64 (x14_1+1)) a0_0 a0_1 l0_2 a1_0 a1_1)=some r:=by rw [if_neg (show ¬ (false=true) by decide)] at H;exact H
       clear H
       have H:=H1
       clear H1
       have H':=qaa.mk H
       clear H
       have p491:0≤(x14_1:Int):=of_decide_eq_true (by (with_reducible assumption))
       have q491:x14_1<(t488.length:Int):=of_decide_eq_true (by (with_reducible assumption))
       obtain ⟨ad491,e491,hx491_0,hx491_1⟩:=qgv (Kd.R_reads' HO_12.out).2.2 x14_1 p491 q491
       cases e491
       replace p491:=eq_true p491
       replace q491:=eq_true q491
       go_wp2_with (((with_reducible refine qbf (N:=7) rfl ?_);refine qbk ?hg (N:=7) ?hd (cs:=#[.int .i64 0,.int .i64 0]) (t:=39) ?hr ?_;(case hd=>rfl);(case hg=>rfl);(case hr=>(go_simp;done));intro gb492 hg w18 hbox hb;replace HO_12:=qaa.mk (Kd.R_below (Kd.R_elderB (by (with_reducible repeat (apply Kd.R_drew));exact HO_12.out) gb492 (Nat.le_of_eq hg.symm)) hb);have BK492:=qaa.mk (hbox);have GW492:=qaa.mk ((by rw [hg];exact (qad HB.out):w.heap.size≤gb492));have GE492:=qaa.mk ((by rw [hg];exact (qad HB.out):w.heap.size≤gb492));replace HB:=qaa.mk (qai HB.out hb);have NB486_492:=qaa.mk ((by rw [hg];exact Nat.ne_of_lt (qbh (g:=gb486) (o:=.cells #[.bool a0_0,.int .i64 a0_1,.slice A0_2 l0_2.length c0_2] 24 (0,0)) (by (with_reducible repeat (refine qab ?_));exact BK486.out)):gb486≠gb492));have NB492_486:=qaa.mk ((by rw [hg];exact Nat.ne_of_gt (qbh (g:=gb486) (o:=.cells #[.bool a0_0,.int .i64 a0_1,.slice A0_2 l0_2.length c0_2] 24 (0,0)) (by (with_reducible repeat (refine qab ?_));exact BK486.out)):gb492≠gb486));replace BK486:=qaa.mk (qaf (g:=gb486) (o:=.cells #[.bool a0_0,.int .i64 a0_1,.slice A0_2 l0_2.length c0_2] 24 (0,0)) (by (with_reducible repeat (refine qab ?_));exact BK486.out) hb);have NB487_492:=qaa.mk ((by rw [hg];exact Nat.ne_of_lt (qbh (g:=gb487) (o:=.cells #[.int .i64 a1_0,.int .i64 a1_1] 39 (0,0)) (by (with_reducible repeat (refine qab ?_));exact BK487.out)):gb487≠gb492));have NB492_487:=qaa.mk ((by rw [hg];exact Nat.ne_of_gt (qbh (g:=gb487) (o:=.cells #[.int .i64 a1_0,.int .i64 a1_1] 39 (0,0)) (by (with_reducible repeat (refine qab ?_));exact BK487.out)):gb492≠gb487));replace BK487:=qaa.mk (qaf (g:=gb487) (o:=.cells #[.int .i64 a1_0,.int .i64 a1_1] 39 (0,0)) (by (with_reducible repeat (refine qab ?_));exact BK487.out) hb);clear hb hbox hg;have hnb19:=NB492_486.out;have hnc19:=NB486_492.out;have hnb20:=NB492_487.out;have hnc20:=NB487_492.out;have hcz21_0:w18.cell? ⟨gb492,0,none⟩=some (.int .i64 0):=(qac BK492.out 0).trans rfl;have hcz21_1:w18.cell? ⟨gb492,1,none⟩=some (.int .i64 0):=(qac BK492.out 1).trans rfl;have hfz21_0:=qag BK492.out 0;have hfz21_1:=qag BK492.out 1;have hnb22:=NB487_486.out;have hnc22:=NB486_487.out;have hcz23_0:w18.cell? ⟨gb487,0,none⟩=some (.int .i64 a1_0):=(qac BK487.out 0).trans rfl;have hcz23_1:w18.cell? ⟨gb487,1,none⟩=some (.int .i64 a1_1):=(qac BK487.out 1).trans rfl;have hfz23_0:=qag BK487.out 0;have hfz23_1:=qag BK487.out 1))
       go_roundg k1
       case measure=>have:=HK1.out;omega
       case rel=>exact ⟨((((qav t488 x14_1).f0)==a1_0&&(((qav t488 x14_1).f1)==a1_1))),(wrap64 (x14_1+1)),(by rfl),(by rfl),H',⟨by have:=HK1.out;omega⟩,⟨by (with_reducible repeat (apply Kd.R_drew));exact Kd.R_mono (Kd.R_far (p:=⟨gb492,1,none⟩) (Kd.R_far (p:=⟨gb492,0,none⟩) (Kd.R_mono HO_12.out (fun k_ hk=>(⟨hk,hk.2⟩:_∧k_≠gb492))) (fun _ hk=>hk.2) (.int .i64 ((qav t488 x14_1).f0))) (fun _ hk=>hk.2) (.int .i64 ((qav t488 x14_1).f1))) (fun _ hk=>hk.1.1)⟩,⟨by (with_reducible repeat (refine qab ?_));refine qcm ?_ NB486_492.out _;(with_reducible repeat (refine qab ?_));refine qcm ?_ NB486_492.out _;(with_reducible repeat (refine qab ?_));exact BK486.out⟩,⟨by (with_reducible repeat (refine qab ?_));refine qcm ?_ NB487_492.out _;(with_reducible repeat (refine qab ?_));refine qcm ?_ NB487_492.out _;(with_reducible repeat (refine qab ?_));exact BK487.out⟩,⟨by repeat ((with_reducible first|exact HB.out|refine qby ?_ GE492.out))⟩⟩
     ·rw [if_neg c12] at H
      exact absurd H (by simp)
    ·rw [if_neg c11] at H
     exact absurd H (by simp)
   ·rw [if_neg c10] at H
    have c10b0:decide (x14_1<(t488.length:Int))=false:=decide_eq_false c10
    clear c10
    by_cases c24:x5_1=true
    ·subst c24
     have H1:((qae.f k1 a0_0 a0_1 l0_2 0 ([]:List Int)).bind fun t496=>(qaj.l1 k1 (([a1_1]:List Int)) t496 (t496.length:Int) 0 a0_0 a0_1 l0_2 a1_0 a1_1))=some r:=by rw [if_pos rfl] at H;exact H
     clear H
     have H:=H1
     clear H1
     obtain ⟨y493,hy493⟩:∃ y_:List Int,y_=(([a1_1]:List Int)):=⟨_,rfl⟩
     replace H:((qae.f k1 a0_0 a0_1 l0_2 0 ([]:List Int)).bind fun t496=>(qaj.l1 k1 y493 t496 (t496.length:Int) 0 a0_0 a0_1 l0_2 a1_0 a1_1))=some r:=by (rw [hy493];with_reducible exact H)
     have Ny493:=qaa.mk hy493
     clear hy493
     replace H:=Option.bind_eq_some_iff.mp H
     obtain ⟨t496,A250,H⟩:=H
     replace H:(qaj.l1 k1 y493 t496 (t496.length:Int) 0 a0_0 a0_1 l0_2 a1_0 a1_1)=some r:=H
     have A25:=qaa.mk A250
     clear A250
     have H':=qaa.mk H
     clear H
     have hnb26:=NB487_486.out
     have hnc26:=NB486_487.out
     have hcz27_0:wr.cell? ⟨gb487,0,none⟩=some (.int .i64 a1_0):=(qac BK487.out 0).trans rfl
     have hcz27_1:wr.cell? ⟨gb487,1,none⟩=some (.int .i64 a1_1):=(qac BK487.out 1).trans rfl
     have hfz27_0:=qag BK487.out 0
     have hfz27_1:=qag BK487.out 1
     go_wp2_with (first|((with_reducible refine qbf (N:=29) rfl ?_);refine Kd.R_lit (Kd.int .i64) _ 3 ?hg (N:=29) ?hd (xs:=([a1_1]:List Int)) (inner:=[.int .i64 a1_1]) (ok:=fun _=>True) (okp:=fun _=>True) ?hr ?hp (fun _ hk=>hk) trivial (Below.refl _ _) (Nat.le_refl _) (by simp) ?_;(case hd=>rfl);(case hg=>rfl);(case hr=>(go_simp;done));(case hp=>exact (Reps.one (show Kd.M (Kd.int .i64) _ _ _ a1_1 [.int .i64 a1_1] from rfl) (Reps.none _ _)));intro v494 w28 ho29 hb hg_ hnew_;clear hg_ hnew_;(rw [← Ny493.out] at ho29);replace HO_12:=qaa.mk (Kd.R_below (by (with_reducible repeat (apply Kd.R_drew));exact HO_12.out) hb);have HO495:=qaa.mk (Kd.R_lower ho29 (qad HB.out));replace BK486:=qaa.mk (qaf (g:=gb486) (o:=.cells #[.bool a0_0,.int .i64 a0_1,.slice A0_2 l0_2.length c0_2] 24 (0,0)) (by (with_reducible repeat (refine qab ?_));exact BK486.out) hb);replace BK487:=qaa.mk (qaf (g:=gb487) (o:=.cells #[.int .i64 a1_0,.int .i64 a1_1] 39 (0,0)) (by (with_reducible repeat (refine qab ?_));exact BK487.out) hb);replace HB:=qaa.mk (qai HB.out hb);clear hb ho29;have hcz30_0:w28.cell? ⟨gb486,0,none⟩=some (.bool a0_0):=(qac BK486.out 0).trans rfl;have hcz30_1:w28.cell? ⟨gb486,1,none⟩=some (.int .i64 a0_1):=(qac BK486.out 1).trans rfl;have hcz30_2:w28.cell? ⟨gb486,2,none⟩=some (.slice A0_2 l0_2.length c0_2):=(qac BK486.out 2).trans rfl;have hfz30_0:=qag BK486.out 0;have hfz30_1:=qag BK486.out 1;have hfz30_2:=qag BK486.out 2)|((with_reducible refine qbb (f:=59) rfl ?_);refine qcu (some 31) rfl rfl Tryd.func59 (by kernel_rfl) rfl #[.agg #[.bool a0_0,.int .i64 a0_1,.slice A0_2 l0_2.length c0_2],.int .i64 0,.slice none 0 0] rfl (by (try simp only [List.map_toArray,List.map_cons,List.map_nil]);rfl) ?_;(refine (qae.calls k1 a0_0 a0_1 _ _ l0_2 0 _ _ ([]:List Int) t496 _ ?side1 ?side2 ?side3 ?side4 A25.out).mono ?_);(case side1=>repeat (exact (Kd.C_below HR0_2.out HB.out)));(case side2=>exact HC0_2.out);(case side3=>exact Kd.C_nil _ _);(case side4=>exact Nat.le_refl _);rintro e w31 ⟨v497,rfl,ho0,hb⟩;refine ⟨_,rfl,?_⟩;replace HO_12:=qaa.mk (Kd.R_below (by (with_reducible repeat (apply Kd.R_drew));exact HO_12.out) hb);have HO498:=qaa.mk (Kd.R_lower (Kd.R_new' ho0 (Kd.R_lt (by (with_reducible repeat (apply Kd.R_drew));exact HO495.out))) (qad HB.out));replace HO495:=qaa.mk (Kd.R_elder' (by (with_reducible repeat (apply Kd.R_drew));exact HO495.out) (Kd.R_base ho0) hb);replace BK486:=qaa.mk (qaf (g:=gb486) (o:=.cells #[.bool a0_0,.int .i64 a0_1,.slice A0_2 l0_2.length c0_2] 24 (0,0)) (by (with_reducible repeat (refine qab ?_));exact BK486.out) hb);replace BK487:=qaa.mk (qaf (g:=gb487) (o:=.cells #[.int .i64 a1_0,.int .i64 a1_1] 39 (0,0)) (by (with_reducible repeat (refine qab ?_));exact BK487.out) hb);replace HB:=qaa.mk (qai HB.out hb);(try clear hb);(try clear ho0);obtain ⟨Ao32,co32,eo32⟩:=Kd.R_slice HO498.out;subst eo32))
     go_loopg [8,33] k1 (fun kq v8 v33 w'=>∃ (x8_2:List Int) (x33_2:Int),v33=.int .i64 x33_2∧qaa (qaj.l1 kq x8_2 t496 (t496.length:Int) x33_2 a0_0 a0_1 l0_2 a1_0 a1_1=some r)∧qaa (kq≤k1)∧qaa (Kd.R (Kd.int .i64) 3 w' w.heap.size (fun k_=>some k_≠((.slice Ao32 t496.length co32):Value).ownBlock) v8 x8_2)∧qaa (Kd.R (Kd.int .i64) 3 w' w.heap.size (fun k_=>some k_≠(v8:Value).ownBlock) (.slice Ao32 t496.length co32) t496)∧qaa (w'.heap[gb486]?=some (.cells #[.bool a0_0,.int .i64 a0_1,(.slice A0_2 l0_2.length c0_2)] 24 (0,0)))∧qaa (w'.heap[gb487]?=some (.cells #[.int .i64 a1_0,.int .i64 a1_1] 39 (0,0)))∧qaa (Below w.heap.size w w'))
     case atStart=>exact ⟨(y493),(0),(by rfl),H',⟨Nat.le_refl _⟩,⟨by (with_reducible repeat (apply Kd.R_drew));exact Kd.R_mono HO495.out (fun _ hk=>hk.2)⟩,⟨by (with_reducible repeat (apply Kd.R_drew));exact Kd.R_mono HO498.out (fun _ hk=>hk.2)⟩,⟨by (with_reducible repeat (refine qab ?_));exact BK486.out⟩,⟨by (with_reducible repeat (refine qab ?_));exact BK487.out⟩,⟨by repeat ((with_reducible exact HB.out))⟩⟩
     case round=>
      clear H'
      try clear c10b0
      try clear hcz27_0
      try clear hcz27_1
      try clear hcz30_0
      try clear hcz30_1
      try clear hcz30_2
      try clear hfz27_0
      try clear hfz27_1
      try clear hfz30_0
      try clear hfz30_1
      try clear hfz30_2
      obtain ⟨x8_2,x33_2,rfl,HA,HK2,HO_8,HO_31,BK486,BK487,HB⟩:=hrel
      cases gk with
      | zero=>exact absurd HA.out (by simp [qaj.l1])
      | succ k2=>
       have H:=HA.out
       clear HA
       simp only [qaj.l1] at H
       by_cases c33:x33_2<(t496.length:Int)
       ·rw [if_pos c33] at H
        have c33b0:decide (x33_2<(t496.length:Int))=true:=decide_eq_true c33
        clear c33
        by_cases c34:0≤x33_2
        ·rw [if_pos c34] at H
         have c34b0:decide (0≤x33_2)=true:=decide_eq_true c34
         clear c34
         by_cases c35:x33_2<(t496.length:Int)
         ·rw [if_pos c35] at H
          have c35b0:decide (x33_2<(t496.length:Int))=true:=decide_eq_true c35
          clear c35
          obtain ⟨y503,hy503⟩:∃ y_:List Int,y_=(([a1_1]:List Int)):=⟨_,rfl⟩
          replace H:((qae.f k2 a0_0 a0_1 l0_2 (rd t496 x33_2) y503).bind fun t506=>((qap.f k2 t506 a1_0).bind fun t509=>(if t509=true then (if x8_2.length<17592186044416 then (qaj.l1 k2 (x8_2++[rd t496 x33_2]) t496 (t496.length:Int) (wrap64 (x33_2+1)) a0_0 a0_1 l0_2 a1_0 a1_1) else (none)) else (qaj.l1 k2 x8_2 t496 (t496.length:Int) (wrap64 (x33_2+1)) a0_0 a0_1 l0_2 a1_0 a1_1))))=some r:=by (rw [hy503];with_reducible exact H)
          have Ny503:=qaa.mk hy503
          clear hy503
          replace H:=Option.bind_eq_some_iff.mp H
          obtain ⟨t506,A360,H⟩:=H
          replace H:((qap.f k2 t506 a1_0).bind fun t509=>(if t509=true then (if x8_2.length<17592186044416 then (qaj.l1 k2 (x8_2++[rd t496 x33_2]) t496 (t496.length:Int) (wrap64 (x33_2+1)) a0_0 a0_1 l0_2 a1_0 a1_1) else (none)) else (qaj.l1 k2 x8_2 t496 (t496.length:Int) (wrap64 (x33_2+1)) a0_0 a0_1 l0_2 a1_0 a1_1)))=some r:=H
          have A36:=qaa.mk A360
          clear A360
          replace H:=Option.bind_eq_some_iff.mp H
          obtain ⟨t509,A370,H⟩:=H
          replace H:(if t509=true then (if x8_2.length<17592186044416 then (qaj.l1 k2 (x8_2++[rd t496 x33_2]) t496 (t496.length:Int) (wrap64 (x33_2+1)) a0_0 a0_1 l0_2 a1_0 a1_1) else (none)) else (qaj.l1 k2 x8_2 t496 (t496.length:Int) (wrap64 (x33_2+1)) a0_0 a0_1 l0_2 a1_0 a1_1))=some r:=H
          have A37:=qaa.mk A370
          clear A370
          by_cases c38:t509=true
          ·subst c38
           have H1:(if x8_2.length<17592186044416 then (qaj.l1 k2 (x8_2++[rd t496 x33_2]) t496 (t496.length:Int) (wrap64 (x33_2+1)) a0_0 a0_1 l0_2 a1_0 a1_1) else (none))=some r:=by rw [if_pos rfl] at H;exact H
           clear H
           have H:=H1
           clear H1
           by_cases c39:x8_2.length<17592186044416
           ·rw [if_pos c39] at H
            have LMc39:=qaa.mk c39
            clear c39
            obtain ⟨y510,hy510⟩:∃ y_:List Int,y_=(x8_2++[rd t496 x33_2]):=⟨_,rfl⟩
            replace H:(qaj.l1 k2 y510 t496 (t496.length:Int) (wrap64 (x33_2+1)) a0_0 a0_1 l0_2 a1_0 a1_1)=some r:=by (rw [hy510];with_reducible exact H)
            have Ny510:=qaa.mk hy510
            clear hy510
            have H':=qaa.mk H
            clear H
            have p502:0≤(x33_2:Int):=of_decide_eq_true (by (with_reducible assumption))
            have q502:x33_2<(t496.length:Int):=of_decide_eq_true (by (with_reducible assumption))
            obtain ⟨ad502,e502,hx502_0⟩:=Kd.at_int (Kd.R_reads' HO_31.out).2.2 x33_2 p502 q502
            cases e502
            replace p502:=eq_true p502
            replace q502:=eq_true q502
            try go_wp2
            have n0_:=qaa.mk (Kd.R_drew HO_8.out)
            have n1_:=qaa.mk (Kd.R_drew HO_31.out)
            have n2_:=qaa.mk (qab BK486.out)
            have n3_:=qaa.mk (qab BK487.out)
            have n4_:=qaa.mk (qcz HB.out)
            clear HO_8
            clear HO_31
            clear BK486
            clear BK487
            clear HB
            have HO_8:=n0_
            have HO_31:=n1_
            have BK486:=n2_
            have BK487:=n3_
            have HB:=n4_
            clear n0_ n1_ n2_ n3_ n4_
            refine qew (n:=9) (S:=fun w'=>w'.cell? ⟨gb486,0,none⟩=some (.bool a0_0)∧w'.cell? ⟨gb486,1,none⟩=some (.int .i64 a0_1)∧w'.cell? ⟨gb486,2,none⟩=some (.slice A0_2 l0_2.length c0_2)∧w'.cell? ⟨gb487,0,none⟩=some (.int .i64 a1_0)∧w'.cell? ⟨gb487,1,none⟩=some (.int .i64 a1_1)) (ds:=[]) #[false,false,false,false,false,false,false,false,false] (by kernel_rfl) rfl rfl ⟨(qac BK486.out 0).trans rfl,(qac BK486.out 1).trans rfl,(qac BK486.out 2).trans rfl,(qac BK487.out 0).trans rfl,(qac BK487.out 1).trans rfl⟩ (fun hHeld=>?_);refine qdv qaj.tab13 qaj.bits13 (fun HT_ HW_=>?_)
            generalize wr.drew=w40 at HO_8 HO_31 BK486 BK487 HB hHeld ⊢
            refine qcr (i:=1) (N:=some 38) (v:=?_) (a':=?_) #[false,true,false,false,false,false,false,false,false] rfl rfl (qca HT_.out (by kernel_rfl)) (fun _ _ _ h=>h) (Or.inl ⟨by rfl,?_⟩) ?_ ?_
            rotate_left
            ·intro w'
             go_simp
             with_reducible rfl
            rotate_left
            ·simp only [Act.put,List.setIfInBounds_toArray,List.set_cons_zero,List.set_cons_succ,qbd,qbe]
             rfl
            refine qcr (i:=2) (N:=some 39) (v:=?_) (a':=?_) #[false,true,true,false,false,false,false,false,false] rfl rfl (qca HT_.out (by kernel_rfl)) (fun _ _ _ h=>h) (Or.inl ⟨by rfl,?_⟩) ?_ ?_
            rotate_left
            ·intro w'
             go_simp
             with_reducible rfl
            rotate_left
            ·simp only [Act.put,List.setIfInBounds_toArray,List.set_cons_zero,List.set_cons_succ,qbd,qbe]
             rfl
            refine qcr (i:=6) (N:=some 43) (v:=?_) (a':=?_) #[false,true,true,false,false,false,true,false,false] rfl rfl (qca HT_.out (by kernel_rfl)) (fun _ _ _ h=>h) (Or.inl ⟨by rfl,?_⟩) ?_ ?_
            rotate_left
            ·intro w'
             go_simp
             with_reducible rfl
            rotate_left
            ·simp only [Act.put,List.setIfInBounds_toArray,List.set_cons_zero,List.set_cons_succ,qbd,qbe]
             rfl
            refine take_ (i:=0) (N:=some 37) (v:=?_) (a':=?_) #[true,true,true,false,false,false,true,false,false] rfl rfl (qce HT_.out HW_.out (by kernel_rfl)) (fun _ _ _ h=>h) (Or.inl ⟨by rfl,?_⟩) hHeld ?_ ?_
            rotate_left
            ·rintro w' ⟨s0,s1,s2,s3,s4⟩
             go_simp
             with_reducible rfl
            rotate_left
            ·simp only [Act.put,List.setIfInBounds_toArray,List.set_cons_zero,List.set_cons_succ,qbd,qbe]
             rfl
            refine take_ (i:=3) (N:=some 40) (v:=?_) (a':=?_) #[true,true,true,true,false,false,true,false,false] rfl rfl (qce HT_.out HW_.out (by kernel_rfl)) (fun _ _ _ h=>h) (Or.inl ⟨by rfl,?_⟩) hHeld ?_ ?_
            rotate_left
            ·rintro w' ⟨s0,s1,s2,s3,s4⟩
             go_simp
             with_reducible rfl
            rotate_left
            ·simp only [Act.put,List.setIfInBounds_toArray,List.set_cons_zero,List.set_cons_succ,qbd,qbe]
             rfl
            refine take_ (i:=7) (N:=some 44) (v:=?_) (a':=?_) #[true,true,true,true,false,false,true,true,false] rfl rfl (qce HT_.out HW_.out (by kernel_rfl)) (fun _ _ _ h=>h) (Or.inl ⟨by rfl,?_⟩) hHeld ?_ ?_
            rotate_left
            ·rintro w' ⟨s0,s1,s2,s3,s4⟩
             go_simp
             with_reducible rfl
            rotate_left
            ·simp only [Act.put,List.setIfInBounds_toArray,List.set_cons_zero,List.set_cons_succ,qbd,qbe]
             rfl
            refine one_ (i:=4) (N:=some 41) #[true,true,true,true,true,false,true,true,false] rfl rfl (qdg HT_.out (by kernel_rfl)) (by decide) (fun K hK=>?_)
            refine Kd.R_lit_step (Kd.int .i64) _ 3 ?hg (N:=41) ?hd (xs:=([a1_1]:List Int)) (inner:=[.int .i64 a1_1]) (ok:=fun _=>True) (okp:=fun _=>True) ?hr ?hp (fun _ hk=>hk) trivial (Below.refl _ _) (Nat.le_refl _) (by simp) ?_;(case hd=>rfl);(case hg=>rfl);(case hr=>(go_simp;done));(case hp=>exact (Reps.one (show Kd.M (Kd.int .i64) _ _ _ a1_1 [.int .i64 a1_1] from rfl) (Reps.none _ _)))
            intro v504 w41 ho42 hb hg_ hnew_
            clear hg_ hnew_
            (rw [← Ny503.out] at ho42)
            have n0_:=qaa.mk (Kd.R_elder' (by (with_reducible repeat (apply Kd.R_drew));exact HO_8.out) (Kd.R_base ho42) hb)
            have n1_:=qaa.mk (Kd.R_elder' (by (with_reducible repeat (apply Kd.R_drew));exact HO_31.out) (Kd.R_base ho42) hb)
            have n2_:=qaa.mk (Kd.R_lower (Kd.R_new' (Kd.R_new' ho42 (Kd.R_lt (by (with_reducible repeat (apply Kd.R_drew));exact HO_8.out))) (Kd.R_lt (by (with_reducible repeat (apply Kd.R_drew));exact HO_31.out))) (qad HB.out))
            have n3_:=qaa.mk (qaf (g:=gb486) (o:=.cells #[.bool a0_0,.int .i64 a0_1,.slice A0_2 l0_2.length c0_2] 24 (0,0)) (by (with_reducible repeat (refine qab ?_));exact BK486.out) hb)
            have n4_:=qaa.mk (qaf (g:=gb487) (o:=.cells #[.int .i64 a1_0,.int .i64 a1_1] 39 (0,0)) (by (with_reducible repeat (refine qab ?_));exact BK487.out) hb)
            have n5_:=qaa.mk (qai HB.out hb)
            clear HO_8
            clear HO_31
            clear BK486
            clear BK487
            clear HB
            have HO_8:=n0_
            have HO_31:=n1_
            have HO505:=n2_
            have BK486:=n3_
            have BK487:=n4_
            have HB:=n5_
            clear n0_ n1_ n2_ n3_ n4_ n5_
            clear hb ho42
            obtain ⟨Ao43,co43,eo43⟩:=Kd.R_slice HO505.out
            (subst eo43)
            refine hK.out _ _ ⟨(qac BK486.out 0).trans rfl,(qac BK486.out 1).trans rfl,(qac BK486.out 2).trans rfl,(qac BK487.out 0).trans rfl,(qac BK487.out 1).trans rfl⟩ (fun hHeld=>?_)
            clear hK K
            refine qdk (a':=?_) ?_ ?_
            rotate_left
            ·show Act.put _ (some 41) _=_
             simp only [Act.put,List.setIfInBounds_toArray,List.set_cons_zero,List.set_cons_succ,qbd,qbe]
             rfl
            refine one_ (i:=5) (N:=some 42) #[true,true,true,true,true,true,true,true,false] rfl rfl (qdg HT_.out (by kernel_rfl)) (by decide) (fun K hK=>?_)
            refine qdz Tryd.func59 (by kernel_rfl) rfl #[.agg #[.bool a0_0,.int .i64 a0_1,.slice A0_2 l0_2.length c0_2],.int .i64 (rd t496 x33_2),.slice Ao43 y503.length co43] (by rfl) rfl rfl (by (try simp only [List.map_toArray,List.map_cons,List.map_nil]);rfl) ?_
            with_reducible refine (qae.calls k2 a0_0 a0_1 _ _ l0_2 (rd t496 x33_2) _ _ y503 t506 _ ?side1 ?side2 ?side3 ?side4 A36.out).mono ?_
            (case side1=>repeat (exact (Kd.C_below HR0_2.out HB.out)))
            (case side2=>exact HC0_2.out)
            (case side3=>repeat (exact (Kd.R_reads' HO505.out).2.2))
            (case side4=>exact (Kd.R_reads' HO505.out).2.1)
            rintro e w44 ⟨v507,rfl,ho0,hb⟩
            refine ⟨_,rfl,?_⟩
            have n0_:=qaa.mk (Kd.R_elder' (by (with_reducible repeat (apply Kd.R_drew));exact HO_8.out) (Kd.R_base ho0) hb)
            have n1_:=qaa.mk (Kd.R_elder' (by (with_reducible repeat (apply Kd.R_drew));exact HO_31.out) (Kd.R_base ho0) hb)
            have n2_:=qaa.mk (Kd.R_elder' (by (with_reducible repeat (apply Kd.R_drew));exact HO505.out) (Kd.R_base ho0) hb)
            have n3_:=qaa.mk (Kd.R_lower (Kd.R_new' (Kd.R_new' (Kd.R_new' ho0 (Kd.R_lt (by (with_reducible repeat (apply Kd.R_drew));exact HO_8.out))) (Kd.R_lt (by (with_reducible repeat (apply Kd.R_drew));exact HO_31.out))) (Kd.R_lt (by (with_reducible repeat (apply Kd.R_drew));exact HO505.out))) (qad HB.out))
            have n4_:=qaa.mk (qaf (g:=gb486) (o:=.cells #[.bool a0_0,.int .i64 a0_1,.slice A0_2 l0_2.length c0_2] 24 (0,0)) (by (with_reducible repeat (refine qab ?_));exact BK486.out) hb)
            have n5_:=qaa.mk (qaf (g:=gb487) (o:=.cells #[.int .i64 a1_0,.int .i64 a1_1] 39 (0,0)) (by (with_reducible repeat (refine qab ?_));exact BK487.out) hb)
            have n6_:=qaa.mk (qai HB.out hb)
            clear HO_8
            clear HO_31
            clear HO505
            clear BK486
            clear BK487
            clear HB
            have HO_8:=n0_
            have HO_31:=n1_
            have HO505:=n2_
            have HO508:=n3_
            have BK486:=n4_
            have BK487:=n5_
            have HB:=n6_
            clear n0_ n1_ n2_ n3_ n4_ n5_ n6_
            (try clear hb)
            (try clear ho0)
            obtain ⟨Ao45,co45,eo45⟩:=Kd.R_slice HO508.out
            (subst eo45)
            refine hK.out _ _ ⟨(qac BK486.out 0).trans rfl,(qac BK486.out 1).trans rfl,(qac BK486.out 2).trans rfl,(qac BK487.out 0).trans rfl,(qac BK487.out 1).trans rfl⟩ (fun hHeld=>?_)
            clear hK K
            refine qdk (a':=?_) ?_ ?_
            rotate_left
            ·show Act.put _ (some 42) _=_
             simp only [Act.put,List.setIfInBounds_toArray,List.set_cons_zero,List.set_cons_succ,qbd,qbe]
             rfl
            refine one_ (i:=8) (N:=some 45) #[true,true,true,true,true,true,true,true,true] rfl rfl (qdg HT_.out (by kernel_rfl)) (by decide) (fun K hK=>?_)
            refine qdz Tryd.func48 (by kernel_rfl) rfl #[.slice Ao45 t506.length co45,.int .i64 a1_0] (by rfl) rfl rfl (by (try simp only [List.map_toArray,List.map_cons,List.map_nil]);rfl) ?_
            with_reducible refine (qap.calls k2 _ _ t506 a1_0 true _ ?side1 ?side2 A37.out).mono ?_
            (case side1=>repeat (exact (Kd.R_reads' HO508.out).2.2))
            (case side2=>exact (Kd.R_reads' HO508.out).2.1)
            rintro e w' ⟨rfl,⟨nd,rfl⟩⟩
            refine ⟨_,rfl,?_⟩
            refine hK.out _ _ ⟨(qac BK486.out 0).trans rfl,(qac BK486.out 1).trans rfl,(qac BK486.out 2).trans rfl,(qac BK487.out 0).trans rfl,(qac BK487.out 1).trans rfl⟩ (fun hHeld=>?_)
            clear hK K
            refine qdk (a':=?_) ?_ ?_
            rotate_left
            ·show Act.put _ (some 45) _=_
             simp only [Act.put,List.setIfInBounds_toArray,List.set_cons_zero,List.set_cons_succ,qbd,qbe]
             rfl
            refine qfj (qek HT_.out (by kernel_rfl)) ?_
            try go_wp2_with (((with_reducible refine qda (b:=.append) (xs:=#[.tmp 46,.tmp 48]) rfl ?_);at_builtin;refine Kd.R_append (Kd.int .i64) (w0:=w) w.heap.size rfl (.tmp 46) (.tmp 48) 31 3 (.int .i64 0) 8 rfl Tryd.underlying31 qfh rfl (by decide) (by omega) u8 x8_2 (rd t496 x33_2) [.int .i64 (rd t496 x33_2)] (fun k_=>some k_≠(.slice (some ad502) t496.length co32:Value).ownBlock∧some k_≠(.slice Ao43 y503.length co43:Value).ownBlock∧some k_≠(.slice Ao45 t506.length co45:Value).ownBlock) (fun _=>False) rfl rfl ?aP (fun _ hk=>hk.elim) ?aF ?aO ?aB ?aS ?aL ?_;(case aP=>exact rfl);(case aB=>exact (by repeat ((with_reducible first|exact HB.out|apply qay))));(case aF=>exact (fun k_ hk=>⟨Kd.fresh' (Kd.R_lt (by (with_reducible repeat (apply Kd.R_drewN));exact HO_31.out)) k_ hk,Kd.fresh' (Kd.R_lt (by (with_reducible repeat (apply Kd.R_drewN));exact HO505.out)) k_ hk,Kd.fresh' (Kd.R_lt (by (with_reducible repeat (apply Kd.R_drewN));exact HO508.out)) k_ hk⟩));(case aO=>exact (by (with_reducible repeat (apply Kd.R_drewN));exact Kd.R_mono HO_8.out (fun _ hk=>⟨hk.1.1,⟨hk.1.2,hk.2⟩⟩)));(case aS=>exact (qad (by repeat ((with_reducible first|exact HB.out|apply qay)))));(case aL=>have:=LMc39.out;omega);intro v511 w46 ho hb hg hat;rw [← Ny510.out] at ho;have n0_:=qaa.mk (Kd.R_after (ok:=(fun k_=>some k_≠(.slice Ao43 y503.length co43:Value).ownBlock∧some k_≠(.slice Ao45 t506.length co45:Value).ownBlock)) (by (with_reducible repeat (apply Kd.R_drewN));exact Kd.R_mono HO_31.out (fun _ hk=>⟨⟨hk.1.2,hk.2⟩,hk.1.1⟩)) hg hat);have n1_:=qaa.mk (qdj (g:=gb486) (o:=.cells #[.bool a0_0,.int .i64 a0_1,.slice A0_2 l0_2.length c0_2] 24 (0,0)) (by (with_reducible repeat (refine qcx ?_ _));exact BK486.out) hg (Kd.R_ne HO_8.out BK486.out (by decide)));have n2_:=qaa.mk (qdj (g:=gb487) (o:=.cells #[.int .i64 a1_0,.int .i64 a1_1] 39 (0,0)) (by (with_reducible repeat (refine qcx ?_ _));exact BK487.out) hg (Kd.R_ne HO_8.out BK487.out (by decide)));have n3_:=qaa.mk (Kd.R_after (ok:=(fun k_=>some k_≠(.slice (some ad502) t496.length co32:Value).ownBlock∧some k_≠(.slice Ao45 t506.length co45:Value).ownBlock)) (by (with_reducible repeat (apply Kd.R_drewN));exact Kd.R_mono HO505.out (fun _ hk=>⟨⟨hk.1.2,hk.2⟩,hk.1.1.2⟩)) hg hat);have n4_:=qaa.mk (Kd.R_after (ok:=(fun k_=>some k_≠(.slice (some ad502) t496.length co32:Value).ownBlock∧some k_≠(.slice Ao43 y503.length co43:Value).ownBlock)) (by (with_reducible repeat (apply Kd.R_drewN));exact Kd.R_mono HO508.out (fun _ hk=>⟨⟨hk.1.2,hk.2⟩,hk.1.1.2⟩)) hg hat);have n5_:=qaa.mk (hb);have n6_:=qaa.mk (ho);clear HO_31;clear BK486;clear BK487;clear HO505;clear HO508;clear HB;clear HO_8;have HO_31:=n0_;have BK486:=n1_;have BK487:=n2_;have HO505:=n3_;have HO508:=n4_;have HB:=n5_;have HO512:=n6_;clear n0_ n1_ n2_ n3_ n4_ n5_ n6_;clear ho hb hg hat))
            go_roundg k2
            case measure=>have:=HK1.out;have:=HK2.out;omega
            case rel=>exact ⟨(y510),(wrap64 (x33_2+1)),(by rfl),H',⟨by have:=HK1.out;have:=HK2.out;omega⟩,⟨by (with_reducible repeat (apply Kd.R_drew));exact Kd.R_mono HO512.out (fun _ hk=>hk.1)⟩,⟨by (with_reducible repeat (apply Kd.R_drew));exact Kd.R_mono HO_31.out (fun _ hk=>hk.2)⟩,⟨by (with_reducible repeat (refine qab ?_));exact BK486.out⟩,⟨by (with_reducible repeat (refine qab ?_));exact BK487.out⟩,⟨by repeat ((with_reducible exact HB.out))⟩⟩
           ·rw [if_neg c39] at H
            exact absurd H (by simp)
          ·replace c38:=Bool.eq_false_iff.mpr c38
           subst c38
           have H1:(qaj.l1 k2 x8_2 t496 (t496.length:Int) (wrap64 (x33_2+1)) a0_0 a0_1 l0_2 a1_0 a1_1)=some r:=by rw [if_neg (show ¬ (false=true) by decide)] at H;exact H
           clear H
           have H:=H1
           clear H1
           have H':=qaa.mk H
           clear H
           have p502:0≤(x33_2:Int):=of_decide_eq_true (by (with_reducible assumption))
           have q502:x33_2<(t496.length:Int):=of_decide_eq_true (by (with_reducible assumption))
           obtain ⟨ad502,e502,hx502_0⟩:=Kd.at_int (Kd.R_reads' HO_31.out).2.2 x33_2 p502 q502
           cases e502
           replace p502:=eq_true p502
           replace q502:=eq_true q502
           try go_wp2
           have n0_:=qaa.mk (Kd.R_drew HO_8.out)
           have n1_:=qaa.mk (Kd.R_drew HO_31.out)
           have n2_:=qaa.mk (qab BK486.out)
           have n3_:=qaa.mk (qab BK487.out)
           have n4_:=qaa.mk (qcz HB.out)
           clear HO_8
           clear HO_31
           clear BK486
           clear BK487
           clear HB
           have HO_8:=n0_
           have HO_31:=n1_
           have BK486:=n2_
           have BK487:=n3_
           have HB:=n4_
           clear n0_ n1_ n2_ n3_ n4_
           refine qew (n:=9) (S:=fun w'=>w'.cell? ⟨gb486,0,none⟩=some (.bool a0_0)∧w'.cell? ⟨gb486,1,none⟩=some (.int .i64 a0_1)∧w'.cell? ⟨gb486,2,none⟩=some (.slice A0_2 l0_2.length c0_2)∧w'.cell? ⟨gb487,0,none⟩=some (.int .i64 a1_0)∧w'.cell? ⟨gb487,1,none⟩=some (.int .i64 a1_1)) (ds:=[]) #[false,false,false,false,false,false,false,false,false] (by kernel_rfl) rfl rfl ⟨(qac BK486.out 0).trans rfl,(qac BK486.out 1).trans rfl,(qac BK486.out 2).trans rfl,(qac BK487.out 0).trans rfl,(qac BK487.out 1).trans rfl⟩ (fun hHeld=>?_);refine qdv qaj.tab13 qaj.bits13 (fun HT_ HW_=>?_)
           generalize wr.drew=w47 at HO_8 HO_31 BK486 BK487 HB hHeld ⊢
           refine qcr (i:=1) (N:=some 38) (v:=?_) (a':=?_) #[false,true,false,false,false,false,false,false,false] rfl rfl (qca HT_.out (by kernel_rfl)) (fun _ _ _ h=>h) (Or.inl ⟨by rfl,?_⟩) ?_ ?_
           rotate_left
           ·intro w'
            go_simp
            with_reducible rfl
           rotate_left
           ·simp only [Act.put,List.setIfInBounds_toArray,List.set_cons_zero,List.set_cons_succ,qbd,qbe]
            rfl
           refine qcr (i:=2) (N:=some 39) (v:=?_) (a':=?_) #[false,true,true,false,false,false,false,false,false] rfl rfl (qca HT_.out (by kernel_rfl)) (fun _ _ _ h=>h) (Or.inl ⟨by rfl,?_⟩) ?_ ?_
           rotate_left
           ·intro w'
            go_simp
            with_reducible rfl
           rotate_left
           ·simp only [Act.put,List.setIfInBounds_toArray,List.set_cons_zero,List.set_cons_succ,qbd,qbe]
            rfl
           refine qcr (i:=6) (N:=some 43) (v:=?_) (a':=?_) #[false,true,true,false,false,false,true,false,false] rfl rfl (qca HT_.out (by kernel_rfl)) (fun _ _ _ h=>h) (Or.inl ⟨by rfl,?_⟩) ?_ ?_
           rotate_left
           ·intro w'
            go_simp
            with_reducible rfl
           rotate_left
           ·simp only [Act.put,List.setIfInBounds_toArray,List.set_cons_zero,List.set_cons_succ,qbd,qbe]
            rfl
           refine take_ (i:=0) (N:=some 37) (v:=?_) (a':=?_) #[true,true,true,false,false,false,true,false,false] rfl rfl (qce HT_.out HW_.out (by kernel_rfl)) (fun _ _ _ h=>h) (Or.inl ⟨by rfl,?_⟩) hHeld ?_ ?_
           rotate_left
           ·rintro w' ⟨s0,s1,s2,s3,s4⟩
            go_simp
            with_reducible rfl
           rotate_left
           ·simp only [Act.put,List.setIfInBounds_toArray,List.set_cons_zero,List.set_cons_succ,qbd,qbe]
            rfl
           refine take_ (i:=3) (N:=some 40) (v:=?_) (a':=?_) #[true,true,true,true,false,false,true,false,false] rfl rfl (qce HT_.out HW_.out (by kernel_rfl)) (fun _ _ _ h=>h) (Or.inl ⟨by rfl,?_⟩) hHeld ?_ ?_
           rotate_left
           ·rintro w' ⟨s0,s1,s2,s3,s4⟩
            go_simp
            with_reducible rfl
           rotate_left
           ·simp only [Act.put,List.setIfInBounds_toArray,List.set_cons_zero,List.set_cons_succ,qbd,qbe]
            rfl
           refine take_ (i:=7) (N:=some 44) (v:=?_) (a':=?_) #[true,true,true,true,false,false,true,true,false] rfl rfl (qce HT_.out HW_.out (by kernel_rfl)) (fun _ _ _ h=>h) (Or.inl ⟨by rfl,?_⟩) hHeld ?_ ?_
           rotate_left
           ·rintro w' ⟨s0,s1,s2,s3,s4⟩
            go_simp
            with_reducible rfl
           rotate_left
           ·simp only [Act.put,List.setIfInBounds_toArray,List.set_cons_zero,List.set_cons_succ,qbd,qbe]
            rfl
           refine one_ (i:=4) (N:=some 41) #[true,true,true,true,true,false,true,true,false] rfl rfl (qdg HT_.out (by kernel_rfl)) (by decide) (fun K hK=>?_)
           refine Kd.R_lit_step (Kd.int .i64) _ 3 ?hg (N:=41) ?hd (xs:=([a1_1]:List Int)) (inner:=[.int .i64 a1_1]) (ok:=fun _=>True) (okp:=fun _=>True) ?hr ?hp (fun _ hk=>hk) trivial (Below.refl _ _) (Nat.le_refl _) (by simp) ?_;(case hd=>rfl);(case hg=>rfl);(case hr=>(go_simp;done));(case hp=>exact (Reps.one (show Kd.M (Kd.int .i64) _ _ _ a1_1 [.int .i64 a1_1] from rfl) (Reps.none _ _)))
           intro v504 w48 ho49 hb hg_ hnew_
           clear hg_ hnew_
           (rw [← Ny503.out] at ho49)
           have n0_:=qaa.mk (Kd.R_elder' (by (with_reducible repeat (apply Kd.R_drew));exact HO_8.out) (Kd.R_base ho49) hb)
           have n1_:=qaa.mk (Kd.R_elder' (by (with_reducible repeat (apply Kd.R_drew));exact HO_31.out) (Kd.R_base ho49) hb)
           have n2_:=qaa.mk (Kd.R_lower (Kd.R_new' (Kd.R_new' ho49 (Kd.R_lt (by (with_reducible repeat (apply Kd.R_drew));exact HO_8.out))) (Kd.R_lt (by (with_reducible repeat (apply Kd.R_drew));exact HO_31.out))) (qad HB.out))
           have n3_:=qaa.mk (qaf (g:=gb486) (o:=.cells #[.bool a0_0,.int .i64 a0_1,.slice A0_2 l0_2.length c0_2] 24 (0,0)) (by (with_reducible repeat (refine qab ?_));exact BK486.out) hb)
           have n4_:=qaa.mk (qaf (g:=gb487) (o:=.cells #[.int .i64 a1_0,.int .i64 a1_1] 39 (0,0)) (by (with_reducible repeat (refine qab ?_));exact BK487.out) hb)
           have n5_:=qaa.mk (qai HB.out hb)
           clear HO_8
           clear HO_31
           clear BK486
           clear BK487
           clear HB
           have HO_8:=n0_
           have HO_31:=n1_
           have HO505:=n2_
           have BK486:=n3_
           have BK487:=n4_
           have HB:=n5_
           clear n0_ n1_ n2_ n3_ n4_ n5_
           clear hb ho49
           obtain ⟨Ao50,co50,eo50⟩:=Kd.R_slice HO505.out
           (subst eo50)
           refine hK.out _ _ ⟨(qac BK486.out 0).trans rfl,(qac BK486.out 1).trans rfl,(qac BK486.out 2).trans rfl,(qac BK487.out 0).trans rfl,(qac BK487.out 1).trans rfl⟩ (fun hHeld=>?_)
           clear hK K
           refine qdk (a':=?_) ?_ ?_
           rotate_left
           ·show Act.put _ (some 41) _=_
            simp only [Act.put,List.setIfInBounds_toArray,List.set_cons_zero,List.set_cons_succ,qbd,qbe]
            rfl
           refine one_ (i:=5) (N:=some 42) #[true,true,true,true,true,true,true,true,false] rfl rfl (qdg HT_.out (by kernel_rfl)) (by decide) (fun K hK=>?_)
           refine qdz Tryd.func59 (by kernel_rfl) rfl #[.agg #[.bool a0_0,.int .i64 a0_1,.slice A0_2 l0_2.length c0_2],.int .i64 (rd t496 x33_2),.slice Ao50 y503.length co50] (by rfl) rfl rfl (by (try simp only [List.map_toArray,List.map_cons,List.map_nil]);rfl) ?_
           with_reducible refine (qae.calls k2 a0_0 a0_1 _ _ l0_2 (rd t496 x33_2) _ _ y503 t506 _ ?side1 ?side2 ?side3 ?side4 A36.out).mono ?_
           (case side1=>repeat (exact (Kd.C_below HR0_2.out HB.out)))
           (case side2=>exact HC0_2.out)
           (case side3=>repeat (exact (Kd.R_reads' HO505.out).2.2))
           (case side4=>exact (Kd.R_reads' HO505.out).2.1)
           rintro e w51 ⟨v507,rfl,ho0,hb⟩
           refine ⟨_,rfl,?_⟩
           have n0_:=qaa.mk (Kd.R_elder' (by (with_reducible repeat (apply Kd.R_drew));exact HO_8.out) (Kd.R_base ho0) hb)
           have n1_:=qaa.mk (Kd.R_elder' (by (with_reducible repeat (apply Kd.R_drew));exact HO_31.out) (Kd.R_base ho0) hb)
           have n2_:=qaa.mk (Kd.R_elder' (by (with_reducible repeat (apply Kd.R_drew));exact HO505.out) (Kd.R_base ho0) hb)
           have n3_:=qaa.mk (Kd.R_lower (Kd.R_new' (Kd.R_new' (Kd.R_new' ho0 (Kd.R_lt (by (with_reducible repeat (apply Kd.R_drew));exact HO_8.out))) (Kd.R_lt (by (with_reducible repeat (apply Kd.R_drew));exact HO_31.out))) (Kd.R_lt (by (with_reducible repeat (apply Kd.R_drew));exact HO505.out))) (qad HB.out))
           have n4_:=qaa.mk (qaf (g:=gb486) (o:=.cells #[.bool a0_0,.int .i64 a0_1,.slice A0_2 l0_2.length c0_2] 24 (0,0)) (by (with_reducible repeat (refine qab ?_));exact BK486.out) hb)
           have n5_:=qaa.mk (qaf (g:=gb487) (o:=.cells #[.int .i64 a1_0,.int .i64 a1_1] 39 (0,0)) (by (with_reducible repeat (refine qab ?_));exact BK487.out) hb)
           have n6_:=qaa.mk (qai HB.out hb)
           clear HO_8
           clear HO_31
           clear HO505
           clear BK486
           clear BK487
           clear HB
           have HO_8:=n0_
           have HO_31:=n1_
           have HO505:=n2_
           have HO508:=n3_
           have BK486:=n4_
           have BK487:=n5_
           have HB:=n6_
           clear n0_ n1_ n2_ n3_ n4_ n5_ n6_
           (try clear hb)
           (try clear ho0)
           obtain ⟨Ao52,co52,eo52⟩:=Kd.R_slice HO508.out
           (subst eo52)
           refine hK.out _ _ ⟨(qac BK486.out 0).trans rfl,(qac BK486.out 1).trans rfl,(qac BK486.out 2).trans rfl,(qac BK487.out 0).trans rfl,(qac BK487.out 1).trans rfl⟩ (fun hHeld=>?_)
           clear hK K
           refine qdk (a':=?_) ?_ ?_
           rotate_left
           ·show Act.put _ (some 42) _=_
            simp only [Act.put,List.setIfInBounds_toArray,List.set_cons_zero,List.set_cons_succ,qbd,qbe]
            rfl
           refine one_ (i:=8) (N:=some 45) #[true,true,true,true,true,true,true,true,true] rfl rfl (qdg HT_.out (by kernel_rfl)) (by decide) (fun K hK=>?_)
           refine qdz Tryd.func48 (by kernel_rfl) rfl #[.slice Ao52 t506.length co52,.int .i64 a1_0] (by rfl) rfl rfl (by (try simp only [List.map_toArray,List.map_cons,List.map_nil]);rfl) ?_
           with_reducible refine (qap.calls k2 _ _ t506 a1_0 false _ ?side1 ?side2 A37.out).mono ?_
           (case side1=>repeat (exact (Kd.R_reads' HO508.out).2.2))
           (case side2=>exact (Kd.R_reads' HO508.out).2.1)
           rintro e w' ⟨rfl,⟨nd,rfl⟩⟩
           refine ⟨_,rfl,?_⟩
           refine hK.out _ _ ⟨(qac BK486.out 0).trans rfl,(qac BK486.out 1).trans rfl,(qac BK486.out 2).trans rfl,(qac BK487.out 0).trans rfl,(qac BK487.out 1).trans rfl⟩ (fun hHeld=>?_)
           clear hK K
           refine qdk (a':=?_) ?_ ?_
           rotate_left
           ·show Act.put _ (some 45) _=_
            simp only [Act.put,List.setIfInBounds_toArray,List.set_cons_zero,List.set_cons_succ,qbd,qbe]
            rfl
           refine qfj (qek HT_.out (by kernel_rfl)) ?_
           try go_wp2
           go_roundg k2
           case measure=>have:=HK1.out;have:=HK2.out;omega
           case rel=>exact ⟨(x8_2),(wrap64 (x33_2+1)),(by rfl),H',⟨by have:=HK1.out;have:=HK2.out;omega⟩,⟨by (with_reducible repeat (apply Kd.R_drewN));exact Kd.R_mono HO_8.out (fun _ hk=>hk.1.1)⟩,⟨by (with_reducible repeat (apply Kd.R_drewN));exact Kd.R_mono HO_31.out (fun _ hk=>hk.1.1)⟩,⟨by (with_reducible repeat (refine qcx ?_ _));exact BK486.out⟩,⟨by (with_reducible repeat (refine qcx ?_ _));exact BK487.out⟩,⟨by repeat ((with_reducible first|exact HB.out|apply qay))⟩⟩
         ·rw [if_neg c35] at H
          exact absurd H (by simp)
        ·rw [if_neg c34] at H
         exact absurd H (by simp)
       ·rw [if_neg c33] at H
        have c33b0:decide (x33_2<(t496.length:Int))=false:=decide_eq_false c33
        clear c33
        replace H:=Option.bind_eq_some_iff.mp H
        obtain ⟨t499,A530,H⟩:=H
        replace H:(some t499)=some r:=H
        have A53:=qaa.mk A530
        clear A530
        obtain rfl:=Option.some.inj H
        obtain ⟨Ao54,co54,eo54⟩:=Kd.R_slice HO_8.out
        subst eo54
        go_wp2_with (((with_reducible refine qbb (f:=46) rfl ?_);refine qcu (some 52) rfl rfl Tryd.func46 (by kernel_rfl) rfl #[.slice Ao54 x8_2.length co54] rfl (by (try simp only [List.map_toArray,List.map_cons,List.map_nil]);rfl) ?_;(with_reducible refine (qbi.calls k2 _ _ x8_2 t499 _ ?side1 ?side2 A53.out).mono ?_);(case side1=>repeat (exact (Kd.R_reads' HO_8.out).2.2));(case side2=>exact (Kd.R_reads' HO_8.out).2.1);rintro e w55 ⟨v500,rfl,ho0,hb⟩;refine ⟨_,rfl,?_⟩;have HO501:=qaa.mk (Kd.R_lower (Kd.R_new' (Kd.R_new' ho0 (Kd.R_lt (by (with_reducible repeat (apply Kd.R_drew));exact HO_8.out))) (Kd.R_lt (by (with_reducible repeat (apply Kd.R_drew));exact HO_31.out))) (qad HB.out));replace HO_8:=qaa.mk (Kd.R_elder' (by (with_reducible repeat (apply Kd.R_drew));exact HO_8.out) (Kd.R_base ho0) hb);replace HO_31:=qaa.mk (Kd.R_elder' (by (with_reducible repeat (apply Kd.R_drew));exact HO_31.out) (Kd.R_base ho0) hb);replace BK486:=qaa.mk (qaf (g:=gb486) (o:=.cells #[.bool a0_0,.int .i64 a0_1,.slice A0_2 l0_2.length c0_2] 24 (0,0)) (by (with_reducible repeat (refine qab ?_));exact BK486.out) hb);replace BK487:=qaa.mk (qaf (g:=gb487) (o:=.cells #[.int .i64 a1_0,.int .i64 a1_1] 39 (0,0)) (by (with_reducible repeat (refine qab ?_));exact BK487.out) hb);replace HB:=qaa.mk (qai HB.out hb);(try clear hb);(try clear ho0)))
        go_ret
        exact ⟨_,by rfl,by (with_reducible repeat (apply Kd.R_drew));exact Kd.R_mono HO501.out (fun _ hk=>trivial),by repeat ((with_reducible exact HB.out))⟩
    ·replace c24:=Bool.eq_false_iff.mpr c24
     subst c24
     have H1:(some ([]:List Int))=some r:=by rw [if_neg (show ¬ (false=true) by decide)] at H;exact H
     clear H
     have H:=H1
     clear H1
     obtain rfl:=Option.some.inj H
     go_wp2
     go_ret
     exact ⟨_,by rfl,by exact Kd.R_nil _ _ _ _ _,by repeat ((with_reducible exact HB.out))⟩
end Go.Proofs.YtmfjmbcfaamebaaDoor.X
