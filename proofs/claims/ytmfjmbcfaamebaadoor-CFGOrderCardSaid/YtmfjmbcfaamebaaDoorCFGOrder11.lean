/- Parts of the proof of the law CFGOrder: words, walks of single functions and plain laws, joined by a program out of the session's texts. -/
import Derived.Test.YtmfjmbcfaamebaaDoorCFGOrder10
import Derived.Lib.Hide
set_option linter.unusedVariables false
set_option linter.unusedSimpArgs false
namespace Go.Proofs.YtmfjmbcfaamebaaDoor.X
open Go.RowKit Go.Proofs.YtmfjmbcfaamebaaDoorW.PrintWords Go.Proofs.YtmfjmbcfaamebaaDoorW.PrintLast Go.Proofs.YtmfjmbcfaamebaaDoorW.PrintMore
attribute [local go_sem] qbp qbz
set_option linter.unusedVariables false
set_option linter.unusedSimpArgs false
mutual
def qad.j0:Nat→List Int→Bool→Bool→Int→List (S60)→List (S85)→Int→Int→Int→Int→Option (List Int)
 | 0,_,_,_,_,_,_,_,_,_,_=>none
 | k+1,x5,x22,x281000,x281001,x281002,x283000,x283001,x283002,x283003,x283004=>if x22=true then (if x5.length<17592186044416 then (qad.j1 k (x5++[x283003]) x281000 x281001 x281002 x283000 x283001 x283002 x283003 x283004) else (none)) else (qad.j1 k x5 x281000 x281001 x281002 x283000 x283001 x283002 x283003 x283004)
def qad.j1:Nat→List Int→Bool→Int→List (S60)→List (S85)→Int→Int→Int→Int→Option (List Int)
 | 0,_,_,_,_,_,_,_,_,_=>none
 | k+1,x5,x281000,x281001,x281002,x283000,x283001,x283002,x283003,x283004=>if x283001=2 then (if x5.length<17592186044416 then (qad.j2 k (x5++[x283004]) x281000 x281001 x281002) else (none)) else (qad.j2 k x5 x281000 x281001 x281002)
def qad.j2:Nat→List Int→Bool→Int→List (S60)→Option (List Int)
 | 0,_,_,_,_=>none
 | k+1,x5,x281000,x281001,x281002=>qad.l0 k ([]:List Int) x5 (x5.length:Int) 0 x281000 x281001 x281002
def qad.l0:Nat→List Int→List Int→Int→Int→Bool→Int→List (S60)→Option (List Int)
 | 0,_,_,_,_,_,_,_=>none
 | k+1,x7,x36,x37,x38,x281000,x281001,x281002=>if x38<x37 then (if 0≤x38 then (if x38<(x36.length:Int) then (if (rd x36 x38)≥0 then (if (rd x36 x38)<(x281002.length:Int) then (if x7.length<17592186044416 then (qad.l0 k (x7++[rd x36 x38]) x36 x37 (wrap64 (x38+1)) x281000 x281001 x281002) else (none)) else (qad.l0 k x7 x36 x37 (wrap64 (x38+1)) x281000 x281001 x281002)) else (qad.l0 k x7 x36 x37 (wrap64 (x38+1)) x281000 x281001 x281002)) else (none)) else (none)) else (some x7)
end
def qad.f (k:Nat) (a0_0:Bool) (a0_1:Int) (l0_2:List (S60)) (a1:Int):Option (List Int):=if 0≤a1 then (if a1<(l0_2.length:Int) then (if ((qao l0_2 a1).f1)=1 then (qad.j0 k ([]:List Int) true a0_0 a0_1 l0_2 ((qao l0_2 a1).f0) ((qao l0_2 a1).f1) ((qao l0_2 a1).f2) ((qao l0_2 a1).f3) ((qao l0_2 a1).f4)) else (qad.j0 k ([]:List Int) (((qao l0_2 a1).f1)==2) a0_0 a0_1 l0_2 ((qao l0_2 a1).f0) ((qao l0_2 a1).f1) ((qao l0_2 a1).f2) ((qao l0_2 a1).f3) ((qao l0_2 a1).f4))) else (none)) else (none)
theorem qad.mono_l:∀ k,(∀ y0 y1 y2 y3 y4 y5 y6 y7 y8 y9,LeO (qad.j0 k y0 y1 y2 y3 y4 y5 y6 y7 y8 y9) (qad.j0 (k+1) y0 y1 y2 y3 y4 y5 y6 y7 y8 y9))∧(∀ y0 y1 y2 y3 y4 y5 y6 y7 y8,LeO (qad.j1 k y0 y1 y2 y3 y4 y5 y6 y7 y8) (qad.j1 (k+1) y0 y1 y2 y3 y4 y5 y6 y7 y8))∧(∀ y0 y1 y2 y3,LeO (qad.j2 k y0 y1 y2 y3) (qad.j2 (k+1) y0 y1 y2 y3))∧(∀ y0 y1 y2 y3 y4 y5 y6,LeO (qad.l0 k y0 y1 y2 y3 y4 y5 y6) (qad.l0 (k+1) y0 y1 y2 y3 y4 y5 y6))
 | 0=>⟨fun _ _ _ _ _ _ _ _ _ _ r h=>by simp [qad.j0] at h,fun _ _ _ _ _ _ _ _ _ r h=>by simp [qad.j1] at h,fun _ _ _ _ r h=>by simp [qad.j2] at h,fun _ _ _ _ _ _ _ r h=>by simp [qad.l0] at h⟩
 | k+1=>by
  obtain ⟨ih0,ih1,ih2,ih3⟩:=qad.mono_l k
  refine ⟨?_,?_,?_,?_⟩
  ·intro y0 y1 y2 y3 y4 y5 y6 y7 y8 y9
   unfold qad.j0
   repeat' first|(with_reducible exact ih1 _ _ _ _ _ _ _ _ _)|(with_reducible exact LeO.refl _)|(with_reducible refine LeO.ite ?_ ?_)
  ·intro y0 y1 y2 y3 y4 y5 y6 y7 y8
   unfold qad.j1
   repeat' first|(with_reducible exact ih2 _ _ _ _)|(with_reducible exact LeO.refl _)|(with_reducible refine LeO.ite ?_ ?_)
  ·intro y0 y1 y2 y3
   unfold qad.j2
   repeat' (with_reducible exact ih3 _ _ _ _ _ _ _)
  ·intro y0 y1 y2 y3 y4 y5 y6
   unfold qad.l0
   repeat' first|(with_reducible exact ih3 _ _ _ _ _ _ _)|(with_reducible exact LeO.refl _)|(with_reducible refine LeO.ite ?_ ?_)
theorem qad.mono:∀ a0 a1 a2 a3 k,LeO (qad.f k a0 a1 a2 a3) (qad.f (k+1) a0 a1 a2 a3):=by
 intro a0 a1 a2 a3 k
 obtain ⟨ih0,ih1,ih2,ih3⟩:=qad.mono_l k
 unfold qad.f
 repeat' first|(with_reducible exact ih0 _ _ _ _ _ _ _ _ _ _)|(with_reducible exact LeO.refl _)|(with_reducible refine LeO.ite ?_ ?_)
set_option maxHeartbeats 8000000 in
set_option maxRecDepth 100000 in
theorem qad.calls (k:Nat) (a0_0:Bool) (a0_1:Int) (A0_2:Option Addr) (c0_2:Nat) (l0_2:List (S60)) (a1:Int) (r:List Int) (w:World) (hr0_2:Kd.C k60 w A0_2 l0_2.length l0_2) (hc0_2:l0_2.length≤c0_2) (h:qad.f k a0_0 a0_1 l0_2 a1=some r) :
  Calls Tryd.prog 47 #[.agg #[.bool a0_0,.int .i64 a0_1,.slice A0_2 l0_2.length c0_2],.int .i64 a1] w fun e w'=>∃ v0_:Value,e=.returned (v0_)∧Kd.R (Kd.int .i64) 3 w' w.heap.size (fun _=>True) v0_ r∧Below w.heap.size w w':=by
 have hu24:=Tryd.underlying24
 have hu60:=Tryd.underlying60
 have HR0_2:=qaa.mk hr0_2
 have HC0_2:=qaa.mk hc0_2
 clear hr0_2 hc0_2
 have HB:=qaa.mk (Below.refl w.heap.size w)
 have H:(if 0≤a1 then (if a1<(l0_2.length:Int) then (if ((qao l0_2 a1).f1)=1 then (qad.j0 k ([]:List Int) true a0_0 a0_1 l0_2 ((qao l0_2 a1).f0) ((qao l0_2 a1).f1) ((qao l0_2 a1).f2) ((qao l0_2 a1).f3) ((qao l0_2 a1).f4)) else (qad.j0 k ([]:List Int) (((qao l0_2 a1).f1)==2) a0_0 a0_1 l0_2 ((qao l0_2 a1).f0) ((qao l0_2 a1).f1) ((qao l0_2 a1).f2) ((qao l0_2 a1).f3) ((qao l0_2 a1).f4))) else (none)) else (none))=some r:=h
 clear h
 by_cases c3:0≤a1
 ·rw [if_pos c3] at H
  have c3b0:decide (0≤a1)=true:=decide_eq_true c3
  clear c3
  by_cases c4:a1<(l0_2.length:Int)
  ·rw [if_pos c4] at H
   have c4b0:decide (a1<(l0_2.length:Int))=true:=decide_eq_true c4
   clear c4
   have HC5:=qaa.mk H
   clear H
   go_enter Tryd.func47,Tryd.ntmps47
   go_upto_region 3 with (first|((with_reducible refine qbf (N:=2) rfl ?_);(try (refine qcj (by rfl) ?_;dsimp only));refine qbj ?hg (N:=2) ?hd (cs:=#[.bool a0_0,.int .i64 a0_1,.slice A0_2 l0_2.length c0_2]) (t:=24) ?hr ?_;(case hd=>rfl);(case hg=>rfl);(case hr=>(go_simp;done));intro gb280 hg w6 hbox hb;have BK280:=qaa.mk (hbox);have GW280:=qaa.mk ((by rw [hg];exact (qac HB.out):w.heap.size≤gb280));have GE280:=qaa.mk ((by rw [hg];exact (qac HB.out):w.heap.size≤gb280));replace HB:=qaa.mk (qak HB.out hb);clear hb hbox hg;have hcz7_0:w6.cell? ⟨gb280,0,none⟩=some (.bool a0_0):=(qae BK280.out 0).trans rfl;have hcz7_1:w6.cell? ⟨gb280,1,none⟩=some (.int .i64 a0_1):=(qae BK280.out 1).trans rfl;have hcz7_2:w6.cell? ⟨gb280,2,none⟩=some (.slice A0_2 l0_2.length c0_2):=(qae BK280.out 2).trans rfl;have hfz7_0:=qaf BK280.out 0;have hfz7_1:=qaf BK280.out 1;have hfz7_2:=qaf BK280.out 2;have p281:0≤(a1:Int):=of_decide_eq_true (by (with_reducible assumption));have q281:a1<(l0_2.length:Int):=of_decide_eq_true (by (with_reducible assumption));obtain ⟨ad281,A281_0,c281_0,e281,hx281_0,hx281_1,hx281_2,hx281_3,hx281_4,hl281_0,hi281_0⟩:=at_T60 HR0_2.out a1 p281 q281;cases e281;replace hx281_0:=(HB.out.cell (World.block_lt_of_cell? w _ hx281_0)).trans hx281_0;replace hx281_1:=(HB.out.cell (World.block_lt_of_cell? w _ hx281_1)).trans hx281_1;replace hx281_2:=(HB.out.cell (World.block_lt_of_cell? w _ hx281_2)).trans hx281_2;replace hx281_3:=(HB.out.cell (World.block_lt_of_cell? w _ hx281_3)).trans hx281_3;replace hx281_4:=(HB.out.cell (World.block_lt_of_cell? w _ hx281_4)).trans hx281_4;have HR281_0:=qaa.mk hi281_0;have HC281_0:=qaa.mk hl281_0;clear hi281_0 hl281_0;replace p281:=eq_true p281;replace q281:=eq_true q281)|((with_reducible refine qbf (N:=6) rfl ?_);(try (refine qcj (by rfl) ?_;dsimp only));refine qbj ?hg (N:=6) ?hd (cs:=#[.slice none 0 0,.int .i64 0,.int .i64 0,.int .i64 0,.int .i64 0]) (t:=60) ?hr ?_;(case hd=>rfl);(case hg=>rfl);(case hr=>(go_simp;done));intro gb282 hg w8 hbox hb;have BK282:=qaa.mk (hbox);have GW282:=qaa.mk ((by rw [hg];exact (qac HB.out):w.heap.size≤gb282));have GE282:=qaa.mk ((by rw [hg];exact (qac HB.out):w.heap.size≤gb282));replace HB:=qaa.mk (qak HB.out hb);have NB280_282:=qaa.mk ((by rw [hg];exact Nat.ne_of_lt (qbi (g:=gb280) (o:=.cells #[.bool a0_0,.int .i64 a0_1,.slice (some ad281) l0_2.length c0_2] 24 (0,0)) (by (with_reducible repeat (refine qab ?_));exact BK280.out)):gb280≠gb282));have NB282_280:=qaa.mk ((by rw [hg];exact Nat.ne_of_gt (qbi (g:=gb280) (o:=.cells #[.bool a0_0,.int .i64 a0_1,.slice (some ad281) l0_2.length c0_2] 24 (0,0)) (by (with_reducible repeat (refine qab ?_));exact BK280.out)):gb282≠gb280));replace BK280:=qaa.mk (qag (g:=gb280) (o:=.cells #[.bool a0_0,.int .i64 a0_1,.slice (some ad281) l0_2.length c0_2] 24 (0,0)) (by (with_reducible repeat (refine qab ?_));exact BK280.out) hb);clear hb hbox hg;have hnb9:=NB282_280.out;have hnc9:=NB280_282.out;have hcz10_0:w8.cell? ⟨gb282,0,none⟩=some (.slice none 0 0):=(qae BK282.out 0).trans rfl;have hcz10_1:w8.cell? ⟨gb282,1,none⟩=some (.int .i64 0):=(qae BK282.out 1).trans rfl;have hcz10_2:w8.cell? ⟨gb282,2,none⟩=some (.int .i64 0):=(qae BK282.out 2).trans rfl;have hcz10_3:w8.cell? ⟨gb282,3,none⟩=some (.int .i64 0):=(qae BK282.out 3).trans rfl;have hcz10_4:w8.cell? ⟨gb282,4,none⟩=some (.int .i64 0):=(qae BK282.out 4).trans rfl;have hfz10_0:=qaf BK282.out 0;have hfz10_1:=qaf BK282.out 1;have hfz10_2:=qaf BK282.out 2;have hfz10_3:=qaf BK282.out 3;have hfz10_4:=qaf BK282.out 4))
   go_cut [22] (fun v22 wc=>∃ (kq:Nat) (x22_4:Bool),v22=.bool x22_4∧qaa (qad.j0 kq ([]:List Int) x22_4 a0_0 a0_1 l0_2 ((qao l0_2 a1).f0) ((qao l0_2 a1).f1) ((qao l0_2 a1).f2) ((qao l0_2 a1).f3) ((qao l0_2 a1).f4)=some r)∧qaa (kq≤k)∧qaa (Kd.R (Kd.int .i64) 3 wc w.heap.size (fun _=>True) (.slice none 0 0) ([]:List Int))∧qaa (wc.heap[gb280]?=some (.cells #[.bool a0_0,.int .i64 a0_1,(.slice (some ad281) l0_2.length c0_2)] 24 (0,0)))∧qaa (wc.heap[gb282]?=some (.cells #[(.slice A281_0 ((qao l0_2 a1).f0).length c281_0),.int .i64 ((qao l0_2 a1).f1),.int .i64 ((qao l0_2 a1).f2),.int .i64 ((qao l0_2 a1).f3),.int .i64 ((qao l0_2 a1).f4)] 60 (0,0)))∧qaa (Below w.heap.size w wc))
   case first=>
    have H:=HC5.out
    clear HC5
    by_cases c11:((qao l0_2 a1).f1)=1
    ·rw [if_pos c11] at H
     have c11b0:(((qao l0_2 a1).f1)==1)=true:=beq_iff_eq.mpr c11
     have c11b1:(((qao l0_2 a1).f1)!=1)=false:=bne_eq_false_iff_eq.mpr c11
     clear c11
     have H':=qaa.mk H
     clear H
     have hnb12:=NB282_280.out
     have hnc12:=NB280_282.out
     have hcz13_0:w8.cell? ⟨gb282,0,none⟩=some (.slice none 0 0):=(qae BK282.out 0).trans rfl
     have hcz13_1:w8.cell? ⟨gb282,1,none⟩=some (.int .i64 0):=(qae BK282.out 1).trans rfl
     have hcz13_2:w8.cell? ⟨gb282,2,none⟩=some (.int .i64 0):=(qae BK282.out 2).trans rfl
     have hcz13_3:w8.cell? ⟨gb282,3,none⟩=some (.int .i64 0):=(qae BK282.out 3).trans rfl
     have hcz13_4:w8.cell? ⟨gb282,4,none⟩=some (.int .i64 0):=(qae BK282.out 4).trans rfl
     have hfz13_0:=qaf BK282.out 0
     have hfz13_1:=qaf BK282.out 1
     have hfz13_2:=qaf BK282.out 2
     have hfz13_3:=qaf BK282.out 3
     have hfz13_4:=qaf BK282.out 4
     go_wp2
     go_meet
     case rel=>exact ⟨_,(true),(by rfl),H',⟨by omega⟩,⟨by exact Kd.R_nil _ _ _ _ _⟩,⟨by (with_reducible repeat (refine qab ?_));refine qcq ?_ NB280_282.out _;(with_reducible repeat (refine qab ?_));refine qcq ?_ NB280_282.out _;(with_reducible repeat (refine qab ?_));refine qcq ?_ NB280_282.out _;(with_reducible repeat (refine qab ?_));refine qcq ?_ NB280_282.out _;(with_reducible repeat (refine qab ?_));refine qcq ?_ NB280_282.out _;(with_reducible repeat (refine qab ?_));exact BK280.out⟩,⟨by (with_reducible repeat (refine qab ?_));refine qck (cs:=#[.slice A281_0 ((qao l0_2 a1).f0).length c281_0,.int .i64 ((qao l0_2 a1).f1),.int .i64 ((qao l0_2 a1).f2),.int .i64 ((qao l0_2 a1).f3),.int .i64 0]) ?_ 4 _ rfl;(with_reducible repeat (refine qab ?_));refine qck (cs:=#[.slice A281_0 ((qao l0_2 a1).f0).length c281_0,.int .i64 ((qao l0_2 a1).f1),.int .i64 ((qao l0_2 a1).f2),.int .i64 0,.int .i64 0]) ?_ 3 _ rfl;(with_reducible repeat (refine qab ?_));refine qck (cs:=#[.slice A281_0 ((qao l0_2 a1).f0).length c281_0,.int .i64 ((qao l0_2 a1).f1),.int .i64 0,.int .i64 0,.int .i64 0]) ?_ 2 _ rfl;(with_reducible repeat (refine qab ?_));refine qck (cs:=#[.slice A281_0 ((qao l0_2 a1).f0).length c281_0,.int .i64 0,.int .i64 0,.int .i64 0,.int .i64 0]) ?_ 1 _ rfl;(with_reducible repeat (refine qab ?_));refine qck (cs:=#[.slice none 0 0,.int .i64 0,.int .i64 0,.int .i64 0,.int .i64 0]) ?_ 0 _ rfl;(with_reducible repeat (refine qab ?_));exact BK282.out⟩,⟨by repeat ((with_reducible first|exact HB.out|refine qbt ?_ GE282.out))⟩⟩
    ·rw [if_neg c11] at H
     have c11b0:(((qao l0_2 a1).f1)==1)=false:=beq_eq_false_iff_ne.mpr c11
     have c11b1:(((qao l0_2 a1).f1)!=1)=true:=bne_iff_ne.mpr c11
     have H':=qaa.mk H
     clear H
     have hnb14:=NB282_280.out
     have hnc14:=NB280_282.out
     have hcz15_0:w8.cell? ⟨gb282,0,none⟩=some (.slice none 0 0):=(qae BK282.out 0).trans rfl
     have hcz15_1:w8.cell? ⟨gb282,1,none⟩=some (.int .i64 0):=(qae BK282.out 1).trans rfl
     have hcz15_2:w8.cell? ⟨gb282,2,none⟩=some (.int .i64 0):=(qae BK282.out 2).trans rfl
     have hcz15_3:w8.cell? ⟨gb282,3,none⟩=some (.int .i64 0):=(qae BK282.out 3).trans rfl
     have hcz15_4:w8.cell? ⟨gb282,4,none⟩=some (.int .i64 0):=(qae BK282.out 4).trans rfl
     have hfz15_0:=qaf BK282.out 0
     have hfz15_1:=qaf BK282.out 1
     have hfz15_2:=qaf BK282.out 2
     have hfz15_3:=qaf BK282.out 3
     have hfz15_4:=qaf BK282.out 4
     go_wp2
     go_meet
     case rel=>exact ⟨_,((((qao l0_2 a1).f1)==2)),(by rfl),H',⟨by omega⟩,⟨by exact Kd.R_nil _ _ _ _ _⟩,⟨by (with_reducible repeat (refine qab ?_));refine qcq ?_ NB280_282.out _;(with_reducible repeat (refine qab ?_));refine qcq ?_ NB280_282.out _;(with_reducible repeat (refine qab ?_));refine qcq ?_ NB280_282.out _;(with_reducible repeat (refine qab ?_));refine qcq ?_ NB280_282.out _;(with_reducible repeat (refine qab ?_));refine qcq ?_ NB280_282.out _;(with_reducible repeat (refine qab ?_));exact BK280.out⟩,⟨by (with_reducible repeat (refine qab ?_));refine qck (cs:=#[.slice A281_0 ((qao l0_2 a1).f0).length c281_0,.int .i64 ((qao l0_2 a1).f1),.int .i64 ((qao l0_2 a1).f2),.int .i64 ((qao l0_2 a1).f3),.int .i64 0]) ?_ 4 _ rfl;(with_reducible repeat (refine qab ?_));refine qck (cs:=#[.slice A281_0 ((qao l0_2 a1).f0).length c281_0,.int .i64 ((qao l0_2 a1).f1),.int .i64 ((qao l0_2 a1).f2),.int .i64 0,.int .i64 0]) ?_ 3 _ rfl;(with_reducible repeat (refine qab ?_));refine qck (cs:=#[.slice A281_0 ((qao l0_2 a1).f0).length c281_0,.int .i64 ((qao l0_2 a1).f1),.int .i64 0,.int .i64 0,.int .i64 0]) ?_ 2 _ rfl;(with_reducible repeat (refine qab ?_));refine qck (cs:=#[.slice A281_0 ((qao l0_2 a1).f0).length c281_0,.int .i64 0,.int .i64 0,.int .i64 0,.int .i64 0]) ?_ 1 _ rfl;(with_reducible repeat (refine qab ?_));refine qck (cs:=#[.slice none 0 0,.int .i64 0,.int .i64 0,.int .i64 0,.int .i64 0]) ?_ 0 _ rfl;(with_reducible repeat (refine qab ?_));exact BK282.out⟩,⟨by repeat ((with_reducible first|exact HB.out|refine qbt ?_ GE282.out))⟩⟩
   case rest=>
    clear HC5
    try clear c3b0
    try clear c4b0
    try clear hcz10_0
    try clear hcz10_1
    try clear hcz10_2
    try clear hcz10_3
    try clear hcz10_4
    try clear hcz7_0
    try clear hcz7_1
    try clear hcz7_2
    try clear hfz10_0
    try clear hfz10_1
    try clear hfz10_2
    try clear hfz10_3
    try clear hfz10_4
    try clear hfz7_0
    try clear hfz7_1
    try clear hfz7_2
    try clear hx281_0
    try clear hx281_1
    try clear hx281_2
    try clear hx281_3
    try clear hx281_4
    try clear p281
    try clear q281
    obtain ⟨kq,x22_4,rfl,HA,HJ4,HO_5,BK280,BK282,HB⟩:=hcut
    cases kq with
    | zero=>exact absurd HA.out (by simp [qad.j0])
    | succ kj4=>
     have H:=HA.out
     clear HA
     simp only [qad.j0] at H
     have HC16:=qaa.mk H
     clear H
     go_upto_if 22 with (fail)
     go_cut [5] (fun v5 wc=>∃ (kq:Nat) (x5_15:List Int),qaa (qad.j1 kq x5_15 a0_0 a0_1 l0_2 ((qao l0_2 a1).f0) ((qao l0_2 a1).f1) ((qao l0_2 a1).f2) ((qao l0_2 a1).f3) ((qao l0_2 a1).f4)=some r)∧qaa (kq≤kj4)∧qaa (Kd.R (Kd.int .i64) 3 wc w.heap.size (fun _=>True) v5 x5_15)∧qaa (wc.heap[gb280]?=some (.cells #[.bool a0_0,.int .i64 a0_1,(.slice (some ad281) l0_2.length c0_2)] 24 (0,0)))∧qaa (wc.heap[gb282]?=some (.cells #[(.slice A281_0 ((qao l0_2 a1).f0).length c281_0),.int .i64 ((qao l0_2 a1).f1),.int .i64 ((qao l0_2 a1).f2),.int .i64 ((qao l0_2 a1).f3),.int .i64 ((qao l0_2 a1).f4)] 60 (0,0)))∧qaa (Below w.heap.size w wc))
     case first=>
      have H:=HC16.out
      clear HC16
      by_cases c17:x22_4=true
      ·subst c17
       have H1:(if ([]:List Int).length<17592186044416 then (qad.j1 kj4 (([]:List Int)++[((qao l0_2 a1).f3)]) a0_0 a0_1 l0_2 ((qao l0_2 a1).f0) ((qao l0_2 a1).f1) ((qao l0_2 a1).f2) ((qao l0_2 a1).f3) ((qao l0_2 a1).f4)) else (none))=some r:=by rw [if_pos rfl] at H;exact H
       clear H
       have H:=H1
       clear H1
       by_cases c18:([]:List Int).length<17592186044416
       ·rw [if_pos c18] at H
        have LMc18:=qaa.mk c18
        clear c18
        obtain ⟨y283,hy283⟩:∃ y_:List Int,y_=(([]:List Int)++[((qao l0_2 a1).f3)]):=⟨_,rfl⟩
        replace H:(qad.j1 kj4 y283 a0_0 a0_1 l0_2 ((qao l0_2 a1).f0) ((qao l0_2 a1).f1) ((qao l0_2 a1).f2) ((qao l0_2 a1).f3) ((qao l0_2 a1).f4))=some r:=by (rw [hy283];with_reducible exact H)
        have Ny283:=qaa.mk hy283
        clear hy283
        have H':=qaa.mk H
        clear H
        have hnb19:=NB282_280.out
        have hnc19:=NB280_282.out
        have hcz20_0:wc.cell? ⟨gb282,0,none⟩=some (.slice A281_0 ((qao l0_2 a1).f0).length c281_0):=(qae BK282.out 0).trans rfl
        have hcz20_1:wc.cell? ⟨gb282,1,none⟩=some (.int .i64 ((qao l0_2 a1).f1)):=(qae BK282.out 1).trans rfl
        have hcz20_2:wc.cell? ⟨gb282,2,none⟩=some (.int .i64 ((qao l0_2 a1).f2)):=(qae BK282.out 2).trans rfl
        have hcz20_3:wc.cell? ⟨gb282,3,none⟩=some (.int .i64 ((qao l0_2 a1).f3)):=(qae BK282.out 3).trans rfl
        have hcz20_4:wc.cell? ⟨gb282,4,none⟩=some (.int .i64 ((qao l0_2 a1).f4)):=(qae BK282.out 4).trans rfl
        have hfz20_0:=qaf BK282.out 0
        have hfz20_1:=qaf BK282.out 1
        have hfz20_2:=qaf BK282.out 2
        have hfz20_3:=qaf BK282.out 3
        have hfz20_4:=qaf BK282.out 4
        go_wp2_with (((with_reducible refine qdm (b:=.append) (xs:=#[.tmp 23,.tmp 26]) rfl ?_);(try (refine qcj (by rfl) ?_;dsimp only));at_builtin;refine Kd.R_append (Kd.int .i64) (w0:=w) w.heap.size rfl (.tmp 23) (.tmp 26) 31 3 (.int .i64 0) 8 rfl Tryd.underlying31 qgn rfl (by decide) (by omega) (.slice none 0 0) ([]:List Int) ((qao l0_2 a1).f3) [.int .i64 ((qao l0_2 a1).f3)] (fun _=>True) (fun _=>False) rfl rfl ?aP (fun _ hk=>hk.elim) ?aF ?aO ?aB ?aS ?aL ?_;(case aP=>exact rfl);(case aB=>exact HB.out);(case aF=>exact (fun _ _=>trivial));(case aO=>exact (by (with_reducible repeat (apply Kd.R_drew));exact HO_5.out));(case aS=>exact (qac HB.out));(case aL=>have:=LMc18.out;omega);intro v284 w21 ho hb hg hat;rw [← Ny283.out] at ho;have n0_:=qaa.mk (qdf (g:=gb280) (o:=.cells #[.bool a0_0,.int .i64 a0_1,.slice (some ad281) l0_2.length c0_2] 24 (0,0)) (by (with_reducible repeat (refine qab ?_));exact BK280.out) hg (Kd.R_ne HO_5.out BK280.out (by decide)));have n1_:=qaa.mk (qdf (g:=gb282) (o:=.cells #[.slice A281_0 ((qao l0_2 a1).f0).length c281_0,.int .i64 ((qao l0_2 a1).f1),.int .i64 ((qao l0_2 a1).f2),.int .i64 ((qao l0_2 a1).f3),.int .i64 ((qao l0_2 a1).f4)] 60 (0,0)) (by (with_reducible repeat (refine qab ?_));exact BK282.out) hg (Kd.R_ne HO_5.out BK282.out (by decide)));have n2_:=qaa.mk (hb);have n3_:=qaa.mk (ho);clear BK280;clear BK282;clear HB;clear HO_5;have BK280:=n0_;have BK282:=n1_;have HB:=n2_;have HO285:=n3_;clear n0_ n1_ n2_ n3_;clear ho hb hg hat))
        go_meet
        case rel=>exact ⟨_,(y283),H',⟨by have:=HJ4.out;omega⟩,⟨by (with_reducible repeat (apply Kd.R_drew));exact HO285.out⟩,⟨by (with_reducible repeat (refine qab ?_));exact BK280.out⟩,⟨by (with_reducible repeat (refine qab ?_));exact BK282.out⟩,⟨by repeat ((with_reducible exact HB.out))⟩⟩
       ·rw [if_neg c18] at H
        exact absurd H (by simp)
      ·replace c17:=Bool.eq_false_iff.mpr c17
       subst c17
       have H1:(qad.j1 kj4 ([]:List Int) a0_0 a0_1 l0_2 ((qao l0_2 a1).f0) ((qao l0_2 a1).f1) ((qao l0_2 a1).f2) ((qao l0_2 a1).f3) ((qao l0_2 a1).f4))=some r:=by rw [if_neg (show ¬ (false=true) by decide)] at H;exact H
       clear H
       have H:=H1
       clear H1
       have H':=qaa.mk H
       clear H
       go_wp2
       go_meet
       case rel=>exact ⟨_,(([]:List Int)),H',⟨by have:=HJ4.out;omega⟩,⟨by (with_reducible repeat (apply Kd.R_drew));exact HO_5.out⟩,⟨by (with_reducible repeat (refine qab ?_));exact BK280.out⟩,⟨by (with_reducible repeat (refine qab ?_));exact BK282.out⟩,⟨by repeat ((with_reducible exact HB.out))⟩⟩
     case rest=>
      clear HC16
      obtain ⟨kq,x5_15,HA,HJ15,HO_5,BK280,BK282,HB⟩:=hcut
      cases kq with
      | zero=>exact absurd HA.out (by simp [qad.j1])
      | succ kj15=>
       have H:=HA.out
       clear HA
       simp only [qad.j1] at H
       have HC22:=qaa.mk H
       clear H
       have hnb23:=NB282_280.out
       have hnc23:=NB280_282.out
       have hcz24_0:wc.cell? ⟨gb282,0,none⟩=some (.slice A281_0 ((qao l0_2 a1).f0).length c281_0):=(qae BK282.out 0).trans rfl
       have hcz24_1:wc.cell? ⟨gb282,1,none⟩=some (.int .i64 ((qao l0_2 a1).f1)):=(qae BK282.out 1).trans rfl
       have hcz24_2:wc.cell? ⟨gb282,2,none⟩=some (.int .i64 ((qao l0_2 a1).f2)):=(qae BK282.out 2).trans rfl
       have hcz24_3:wc.cell? ⟨gb282,3,none⟩=some (.int .i64 ((qao l0_2 a1).f3)):=(qae BK282.out 3).trans rfl
       have hcz24_4:wc.cell? ⟨gb282,4,none⟩=some (.int .i64 ((qao l0_2 a1).f4)):=(qae BK282.out 4).trans rfl
       have hfz24_0:=qaf BK282.out 0
       have hfz24_1:=qaf BK282.out 1
       have hfz24_2:=qaf BK282.out 2
       have hfz24_3:=qaf BK282.out 3
       have hfz24_4:=qaf BK282.out 4
       go_upto_if 30 with (fail)
       go_cut [5] (fun v5 wc=>∃ (kq:Nat) (x5_21:List Int),qaa (qad.j2 kq x5_21 a0_0 a0_1 l0_2=some r)∧qaa (kq≤kj15)∧qaa (Kd.R (Kd.int .i64) 3 wc w.heap.size (fun _=>True) v5 x5_21)∧qaa (wc.heap[gb280]?=some (.cells #[.bool a0_0,.int .i64 a0_1,(.slice (some ad281) l0_2.length c0_2)] 24 (0,0)))∧qaa (wc.heap[gb282]?=some (.cells #[(.slice A281_0 ((qao l0_2 a1).f0).length c281_0),.int .i64 ((qao l0_2 a1).f1),.int .i64 ((qao l0_2 a1).f2),.int .i64 ((qao l0_2 a1).f3),.int .i64 ((qao l0_2 a1).f4)] 60 (0,0)))∧qaa (Below w.heap.size w wc))
       case first=>
        have H:=HC22.out
        clear HC22
        by_cases c25:((qao l0_2 a1).f1)=2
        ·rw [if_pos c25] at H
         have c25b0:(((qao l0_2 a1).f1)==2)=true:=beq_iff_eq.mpr c25
         have c25b1:(((qao l0_2 a1).f1)!=2)=false:=bne_eq_false_iff_eq.mpr c25
         clear c25
         (rw [c25b0])
         by_cases c26:x5_15.length<17592186044416
         ·rw [if_pos c26] at H
          have LMc26:=qaa.mk c26
          clear c26
          obtain ⟨y286,hy286⟩:∃ y_:List Int,y_=(x5_15++[((qao l0_2 a1).f4)]):=⟨_,rfl⟩
          replace H:(qad.j2 kj15 y286 a0_0 a0_1 l0_2)=some r:=by (rw [hy286];with_reducible exact H)
          have Ny286:=qaa.mk hy286
          clear hy286
          have H':=qaa.mk H
          clear H
          have hnb27:=NB282_280.out
          have hnc27:=NB280_282.out
          have hcz28_0:wc.cell? ⟨gb282,0,none⟩=some (.slice A281_0 ((qao l0_2 a1).f0).length c281_0):=(qae BK282.out 0).trans rfl
          have hcz28_1:wc.cell? ⟨gb282,1,none⟩=some (.int .i64 ((qao l0_2 a1).f1)):=(qae BK282.out 1).trans rfl
          have hcz28_2:wc.cell? ⟨gb282,2,none⟩=some (.int .i64 ((qao l0_2 a1).f2)):=(qae BK282.out 2).trans rfl
          have hcz28_3:wc.cell? ⟨gb282,3,none⟩=some (.int .i64 ((qao l0_2 a1).f3)):=(qae BK282.out 3).trans rfl
          have hcz28_4:wc.cell? ⟨gb282,4,none⟩=some (.int .i64 ((qao l0_2 a1).f4)):=(qae BK282.out 4).trans rfl
          have hfz28_0:=qaf BK282.out 0
          have hfz28_1:=qaf BK282.out 1
          have hfz28_2:=qaf BK282.out 2
          have hfz28_3:=qaf BK282.out 3
          have hfz28_4:=qaf BK282.out 4
          go_wp2_with (((with_reducible refine qdm (b:=.append) (xs:=#[.tmp 31,.tmp 34]) rfl ?_);(try (refine qcj (by rfl) ?_;dsimp only));at_builtin;refine Kd.R_append (Kd.int .i64) (w0:=w) w.heap.size rfl (.tmp 31) (.tmp 34) 31 3 (.int .i64 0) 8 rfl Tryd.underlying31 qgn rfl (by decide) (by omega) u5 x5_15 ((qao l0_2 a1).f4) [.int .i64 ((qao l0_2 a1).f4)] (fun _=>True) (fun _=>False) rfl rfl ?aP (fun _ hk=>hk.elim) ?aF ?aO ?aB ?aS ?aL ?_;(case aP=>exact rfl);(case aB=>exact HB.out);(case aF=>exact (fun _ _=>trivial));(case aO=>exact (by (with_reducible repeat (apply Kd.R_drew));exact HO_5.out));(case aS=>exact (qac HB.out));(case aL=>have:=LMc26.out;omega);intro v287 w29 ho hb hg hat;rw [← Ny286.out] at ho;have n0_:=qaa.mk (qdf (g:=gb280) (o:=.cells #[.bool a0_0,.int .i64 a0_1,.slice (some ad281) l0_2.length c0_2] 24 (0,0)) (by (with_reducible repeat (refine qab ?_));exact BK280.out) hg (Kd.R_ne HO_5.out BK280.out (by decide)));have n1_:=qaa.mk (qdf (g:=gb282) (o:=.cells #[.slice A281_0 ((qao l0_2 a1).f0).length c281_0,.int .i64 ((qao l0_2 a1).f1),.int .i64 ((qao l0_2 a1).f2),.int .i64 ((qao l0_2 a1).f3),.int .i64 ((qao l0_2 a1).f4)] 60 (0,0)) (by (with_reducible repeat (refine qab ?_));exact BK282.out) hg (Kd.R_ne HO_5.out BK282.out (by decide)));have n2_:=qaa.mk (hb);have n3_:=qaa.mk (ho);clear BK280;clear BK282;clear HB;clear HO_5;have BK280:=n0_;have BK282:=n1_;have HB:=n2_;have HO288:=n3_;clear n0_ n1_ n2_ n3_;clear ho hb hg hat))
          go_meet
          case rel=>exact ⟨_,(y286),H',⟨by have:=HJ4.out;have:=HJ15.out;omega⟩,⟨by (with_reducible repeat (apply Kd.R_drew));exact HO288.out⟩,⟨by (with_reducible repeat (refine qab ?_));exact BK280.out⟩,⟨by (with_reducible repeat (refine qab ?_));exact BK282.out⟩,⟨by repeat ((with_reducible exact HB.out))⟩⟩
         ·rw [if_neg c26] at H
          exact absurd H (by simp)
        ·rw [if_neg c25] at H
         have c25b0:(((qao l0_2 a1).f1)==2)=false:=beq_eq_false_iff_ne.mpr c25
         have c25b1:(((qao l0_2 a1).f1)!=2)=true:=bne_iff_ne.mpr c25
         (rw [c25b0])
         have H':=qaa.mk H
         clear H
         go_wp2
         go_meet
         case rel=>exact ⟨_,(x5_15),H',⟨by have:=HJ4.out;have:=HJ15.out;omega⟩,⟨by (with_reducible repeat (apply Kd.R_drew));exact HO_5.out⟩,⟨by (with_reducible repeat (refine qab ?_));exact BK280.out⟩,⟨by (with_reducible repeat (refine qab ?_));exact BK282.out⟩,⟨by repeat ((with_reducible exact HB.out))⟩⟩
       case rest=>
        clear HC22
        try clear hcz24_0
        try clear hcz24_1
        try clear hcz24_2
        try clear hcz24_3
        try clear hcz24_4
        try clear hfz24_0
        try clear hfz24_1
        try clear hfz24_2
        try clear hfz24_3
        try clear hfz24_4
        obtain ⟨kq,x5_21,HA,HJ21,HO_5,BK280,BK282,HB⟩:=hcut
        cases kq with
        | zero=>exact absurd HA.out (by simp [qad.j2])
        | succ kj21=>
         have H:=HA.out
         clear HA
         simp only [qad.j2] at H
         have H':=qaa.mk H
         clear H
         obtain ⟨Ao30,co30,eo30⟩:=Kd.R_slice HO_5.out
         subst eo30
         go_wp2
         go_loopg [7,38] kj21 (fun kq v7 v38 w'=>∃ (x7_4:List Int) (x38_4:Int),v38=.int .i64 x38_4∧qaa (qad.l0 kq x7_4 x5_21 (x5_21.length:Int) x38_4 a0_0 a0_1 l0_2=some r)∧qaa (kq≤kj21)∧qaa (Kd.R (Kd.int .i64) 3 w' w.heap.size (fun k_=>some k_≠((.slice Ao30 x5_21.length co30):Value).ownBlock) v7 x7_4)∧qaa (Kd.R (Kd.int .i64) 3 w' w.heap.size (fun k_=>some k_≠(v7:Value).ownBlock) (.slice Ao30 x5_21.length co30) x5_21)∧qaa (w'.heap[gb280]?=some (.cells #[.bool a0_0,.int .i64 a0_1,(.slice (some ad281) l0_2.length c0_2)] 24 (0,0)))∧qaa (w'.heap[gb282]?=some (.cells #[(.slice A281_0 ((qao l0_2 a1).f0).length c281_0),.int .i64 ((qao l0_2 a1).f1),.int .i64 ((qao l0_2 a1).f2),.int .i64 ((qao l0_2 a1).f3),.int .i64 ((qao l0_2 a1).f4)] 60 (0,0)))∧qaa (Below w.heap.size w w'))
         case atStart=>exact ⟨(([]:List Int)),(0),(by rfl),H',⟨Nat.le_refl _⟩,⟨by exact Kd.R_nil _ _ _ _ _⟩,⟨by (with_reducible repeat (apply Kd.R_drew));exact Kd.R_mono HO_5.out (fun _ hk=>(by simp [Value.ownBlock]))⟩,⟨by (with_reducible repeat (refine qab ?_));exact BK280.out⟩,⟨by (with_reducible repeat (refine qab ?_));exact BK282.out⟩,⟨by repeat ((with_reducible exact HB.out))⟩⟩
         case round=>
          clear H'
          obtain ⟨x7_4,x38_4,rfl,HA,HK4,HO_7,HO_36,BK280,BK282,HB⟩:=hrel
          cases gk with
          | zero=>exact absurd HA.out (by simp [qad.l0])
          | succ k4=>
           have H:=HA.out
           clear HA
           simp only [qad.l0] at H
           by_cases c31:x38_4<(x5_21.length:Int)
           ·rw [if_pos c31] at H
            have c31b0:decide (x38_4<(x5_21.length:Int))=true:=decide_eq_true c31
            clear c31
            by_cases c32:0≤x38_4
            ·rw [if_pos c32] at H
             have c32b0:decide (0≤x38_4)=true:=decide_eq_true c32
             clear c32
             by_cases c33:x38_4<(x5_21.length:Int)
             ·rw [if_pos c33] at H
              have c33b0:decide (x38_4<(x5_21.length:Int))=true:=decide_eq_true c33
              clear c33
              by_cases c34:(rd x5_21 x38_4)≥0
              ·rw [if_pos c34] at H
               have c34b0:decide (0≤(rd x5_21 x38_4))=true:=decide_eq_true c34
               clear c34
               by_cases c35:(rd x5_21 x38_4)<(l0_2.length:Int)
               ·rw [if_pos c35] at H
                have c35b0:decide ((rd x5_21 x38_4)<(l0_2.length:Int))=true:=decide_eq_true c35
                clear c35
                by_cases c36:x7_4.length<17592186044416
                ·rw [if_pos c36] at H
                 have LMc36:=qaa.mk c36
                 clear c36
                 obtain ⟨y290,hy290⟩:∃ y_:List Int,y_=(x7_4++[rd x5_21 x38_4]):=⟨_,rfl⟩
                 replace H:(qad.l0 k4 y290 x5_21 (x5_21.length:Int) (wrap64 (x38_4+1)) a0_0 a0_1 l0_2)=some r:=by (rw [hy290];with_reducible exact H)
                 have Ny290:=qaa.mk hy290
                 clear hy290
                 have H':=qaa.mk H
                 clear H
                 have p289:0≤(x38_4:Int):=of_decide_eq_true (by (with_reducible assumption))
                 have q289:x38_4<(x5_21.length:Int):=of_decide_eq_true (by (with_reducible assumption))
                 obtain ⟨ad289,e289,hx289_0⟩:=Kd.at_int (Kd.R_reads' HO_36.out).2.2 x38_4 p289 q289
                 cases e289
                 replace p289:=eq_true p289
                 replace q289:=eq_true q289
                 have hnb37:=NB280_282.out
                 have hnc37:=NB282_280.out
                 have hcz38_0:wr.cell? ⟨gb280,0,none⟩=some (.bool a0_0):=(qae BK280.out 0).trans rfl
                 have hcz38_1:wr.cell? ⟨gb280,1,none⟩=some (.int .i64 a0_1):=(qae BK280.out 1).trans rfl
                 have hcz38_2:wr.cell? ⟨gb280,2,none⟩=some (.slice (some ad281) l0_2.length c0_2):=(qae BK280.out 2).trans rfl
                 have hfz38_0:=qaf BK280.out 0
                 have hfz38_1:=qaf BK280.out 1
                 have hfz38_2:=qaf BK280.out 2
                 go_wp2_with (((with_reducible refine qdm (b:=.append) (xs:=#[.tmp 51,.tmp 53]) rfl ?_);(try (refine qcj (by rfl) ?_;dsimp only));at_builtin;refine Kd.R_append (Kd.int .i64) (w0:=w) w.heap.size rfl (.tmp 51) (.tmp 53) 31 3 (.int .i64 0) 8 rfl Tryd.underlying31 qgn rfl (by decide) (by omega) u7 x7_4 (rd x5_21 x38_4) [.int .i64 (rd x5_21 x38_4)] (fun k_=>some k_≠(.slice (some ad289) x5_21.length co30:Value).ownBlock) (fun _=>False) rfl rfl ?aP (fun _ hk=>hk.elim) ?aF ?aO ?aB ?aS ?aL ?_;(case aP=>exact rfl);(case aB=>exact HB.out);(case aF=>exact (fun k_ hk=>Kd.fresh' (Kd.R_lt (by (with_reducible repeat (apply Kd.R_drew));exact HO_36.out)) k_ hk));(case aO=>exact (by (with_reducible repeat (apply Kd.R_drew));exact HO_7.out));(case aS=>exact (qac HB.out));(case aL=>have:=LMc36.out;omega);intro v291 w39 ho hb hg hat;rw [← Ny290.out] at ho;have n0_:=qaa.mk (Kd.R_after (ok:=(fun _=>True)) (by (with_reducible repeat (apply Kd.R_drew));exact Kd.R_mono HO_36.out (fun _ hk=>⟨trivial,hk⟩)) hg hat);have n1_:=qaa.mk (qdf (g:=gb280) (o:=.cells #[.bool a0_0,.int .i64 a0_1,.slice (some ad281) l0_2.length c0_2] 24 (0,0)) (by (with_reducible repeat (refine qab ?_));exact BK280.out) hg (Kd.R_ne HO_7.out BK280.out (by decide)));have n2_:=qaa.mk (qdf (g:=gb282) (o:=.cells #[.slice A281_0 ((qao l0_2 a1).f0).length c281_0,.int .i64 ((qao l0_2 a1).f1),.int .i64 ((qao l0_2 a1).f2),.int .i64 ((qao l0_2 a1).f3),.int .i64 ((qao l0_2 a1).f4)] 60 (0,0)) (by (with_reducible repeat (refine qab ?_));exact BK282.out) hg (Kd.R_ne HO_7.out BK282.out (by decide)));have n3_:=qaa.mk (hb);have n4_:=qaa.mk (ho);clear HO_36;clear BK280;clear BK282;clear HB;clear HO_7;have HO_36:=n0_;have BK280:=n1_;have BK282:=n2_;have HB:=n3_;have HO292:=n4_;clear n0_ n1_ n2_ n3_ n4_;clear ho hb hg hat))
                 go_roundg k4
                 case measure=>have:=HJ4.out;have:=HJ15.out;have:=HJ21.out;have:=HK4.out;omega
                 case rel=>exact ⟨(y290),(wrap64 (x38_4+1)),(by rfl),H',⟨by have:=HJ4.out;have:=HJ15.out;have:=HJ21.out;have:=HK4.out;omega⟩,⟨by (with_reducible repeat (apply Kd.R_drew));exact HO292.out⟩,⟨by (with_reducible repeat (apply Kd.R_drew));exact Kd.R_mono HO_36.out (fun _ hk=>hk.2)⟩,⟨by (with_reducible repeat (refine qab ?_));exact BK280.out⟩,⟨by (with_reducible repeat (refine qab ?_));exact BK282.out⟩,⟨by repeat ((with_reducible exact HB.out))⟩⟩
                ·rw [if_neg c36] at H
                 exact absurd H (by simp)
               ·rw [if_neg c35] at H
                have c35b0:decide ((rd x5_21 x38_4)<(l0_2.length:Int))=false:=decide_eq_false c35
                clear c35
                have H':=qaa.mk H
                clear H
                have p289:0≤(x38_4:Int):=of_decide_eq_true (by (with_reducible assumption))
                have q289:x38_4<(x5_21.length:Int):=of_decide_eq_true (by (with_reducible assumption))
                obtain ⟨ad289,e289,hx289_0⟩:=Kd.at_int (Kd.R_reads' HO_36.out).2.2 x38_4 p289 q289
                cases e289
                replace p289:=eq_true p289
                replace q289:=eq_true q289
                have hnb40:=NB280_282.out
                have hnc40:=NB282_280.out
                have hcz41_0:wr.cell? ⟨gb280,0,none⟩=some (.bool a0_0):=(qae BK280.out 0).trans rfl
                have hcz41_1:wr.cell? ⟨gb280,1,none⟩=some (.int .i64 a0_1):=(qae BK280.out 1).trans rfl
                have hcz41_2:wr.cell? ⟨gb280,2,none⟩=some (.slice (some ad281) l0_2.length c0_2):=(qae BK280.out 2).trans rfl
                have hfz41_0:=qaf BK280.out 0
                have hfz41_1:=qaf BK280.out 1
                have hfz41_2:=qaf BK280.out 2
                go_wp2
                go_roundg k4
                case measure=>have:=HJ4.out;have:=HJ15.out;have:=HJ21.out;have:=HK4.out;omega
                case rel=>exact ⟨(x7_4),(wrap64 (x38_4+1)),(by rfl),H',⟨by have:=HJ4.out;have:=HJ15.out;have:=HJ21.out;have:=HK4.out;omega⟩,⟨by (with_reducible repeat (apply Kd.R_drew));exact HO_7.out⟩,⟨by (with_reducible repeat (apply Kd.R_drew));exact HO_36.out⟩,⟨by (with_reducible repeat (refine qab ?_));exact BK280.out⟩,⟨by (with_reducible repeat (refine qab ?_));exact BK282.out⟩,⟨by repeat ((with_reducible exact HB.out))⟩⟩
              ·rw [if_neg c34] at H
               have c34b0:decide (0≤(rd x5_21 x38_4))=false:=decide_eq_false c34
               clear c34
               have H':=qaa.mk H
               clear H
               have p289:0≤(x38_4:Int):=of_decide_eq_true (by (with_reducible assumption))
               have q289:x38_4<(x5_21.length:Int):=of_decide_eq_true (by (with_reducible assumption))
               obtain ⟨ad289,e289,hx289_0⟩:=Kd.at_int (Kd.R_reads' HO_36.out).2.2 x38_4 p289 q289
               cases e289
               replace p289:=eq_true p289
               replace q289:=eq_true q289
               go_wp2
               go_roundg k4
               case measure=>have:=HJ4.out;have:=HJ15.out;have:=HJ21.out;have:=HK4.out;omega
               case rel=>exact ⟨(x7_4),(wrap64 (x38_4+1)),(by rfl),H',⟨by have:=HJ4.out;have:=HJ15.out;have:=HJ21.out;have:=HK4.out;omega⟩,⟨by (with_reducible repeat (apply Kd.R_drew));exact HO_7.out⟩,⟨by (with_reducible repeat (apply Kd.R_drew));exact HO_36.out⟩,⟨by (with_reducible repeat (refine qab ?_));exact BK280.out⟩,⟨by (with_reducible repeat (refine qab ?_));exact BK282.out⟩,⟨by repeat ((with_reducible exact HB.out))⟩⟩
             ·rw [if_neg c33] at H
              exact absurd H (by simp)
            ·rw [if_neg c32] at H
             exact absurd H (by simp)
           ·rw [if_neg c31] at H
            have c31b0:decide (x38_4<(x5_21.length:Int))=false:=decide_eq_false c31
            clear c31
            obtain rfl:=Option.some.inj H
            go_wp2
            go_ret
            exact ⟨_,by rfl,by (with_reducible repeat (apply Kd.R_drew));exact Kd.R_mono HO_7.out (fun _ hk=>trivial),by repeat ((with_reducible exact HB.out))⟩
  ·rw [if_neg c4] at H
   exact absurd H (by simp)
 ·rw [if_neg c3] at H
  exact absurd H (by simp)
end Go.Proofs.YtmfjmbcfaamebaaDoor.X
namespace Go.Proofs.YtmfjmbcfaamebaaDoor.X
open Go.RowKit Go.Proofs.YtmfjmbcfaamebaaDoorW.PrintWords Go.Proofs.YtmfjmbcfaamebaaDoorW.PrintLast Go.Proofs.YtmfjmbcfaamebaaDoorW.PrintMore
attribute [local go_sem] qbp qbz
set_option linter.unusedVariables false
set_option linter.unusedSimpArgs false
mutual
def qan.l0:Nat→Int→List Int→List Int→List Int→Int→Int→Bool→Int→List (S60)→Option (List Int×List Int)
 | 0,_,_,_,_,_,_,_,_,_=>none
 | k+1,x1,x2,x8,x25,x26,x27,x417000,x417001,x417002=>if x27<x26 then (if 0≤x27 then (if x27<(x25.length:Int) then ((qan.f k x417000 x417001 x417002 (rd x25 x27) x2).bind fun bt431=>(if x8.length+bt431.1.length<17592186044416 then (qan.l0 k x1 bt431.2 (x8++bt431.1) x25 x26 (wrap64 (x27+1)) x417000 x417001 x417002) else (none))) else (none)) else (none)) else (if x8.length<17592186044416 then (some ((x8++[x1]),x2)) else (none))
def qan.f:Nat→Bool→Int→List (S60)→Int→List Int→Option (List Int×List Int)
 | 0,_,_,_,_,_=>none
 | k+1,a0_0,a0_1,l0_2,a1,l2=>(qar.f k l2 a1).bind fun t417=>(if t417=true then (some (([]:List Int),l2)) else ((some (([]:List Int):List Int)).bind fun y418=>(if y418.length+l2.length<17592186044416 then ((some (y418++l2:List Int)).bind fun y421=>(if y421.length<17592186044416 then ((qad.f k a0_0 a0_1 l0_2 a1).bind fun t427=>(qan.l0 k a1 (y421++[a1]) ([]:List Int) t427 (t427.length:Int) 0 a0_0 a0_1 l0_2)) else (none))) else (none))))
end
theorem qan.mono_l:∀ k,(∀ y0 y1 y2 y3 y4,LeO (qan.f k y0 y1 y2 y3 y4) (qan.f (k+1) y0 y1 y2 y3 y4))∧(∀ y0 y1 y2 y3 y4 y5 y6 y7 y8,LeO (qan.l0 k y0 y1 y2 y3 y4 y5 y6 y7 y8) (qan.l0 (k+1) y0 y1 y2 y3 y4 y5 y6 y7 y8))
 | 0=>⟨fun _ _ _ _ _ r h=>by simp [qan.f] at h,fun _ _ _ _ _ _ _ _ _ r h=>by simp [qan.l0] at h⟩
 | k+1=>by
  obtain ⟨ih0,ih1⟩:=qan.mono_l k
  refine ⟨?_,?_⟩
  ·intro y0 y1 y2 y3 y4
   unfold qan.f
   repeat' first|(with_reducible exact ih1 _ _ _ _ _ _ _ _ _)|(with_reducible exact qar.mono _ _ _)|(with_reducible exact qad.mono _ _ _ _ _)|(with_reducible exact LeO.refl _)|(with_reducible refine LeO.ite ?_ ?_)|(with_reducible refine LeO.bind ?_ (fun _=>?_))
  ·intro y0 y1 y2 y3 y4 y5 y6 y7 y8
   unfold qan.l0
   repeat' first|(with_reducible exact ih0 _ _ _ _ _)|(with_reducible exact ih1 _ _ _ _ _ _ _ _ _)|(with_reducible exact LeO.refl _)|(with_reducible refine LeO.ite ?_ ?_)|(with_reducible refine LeO.bind ?_ (fun _=>?_))
theorem qan.mono:∀ a0 a1 a2 a3 a4 k,LeO (qan.f k a0 a1 a2 a3 a4) (qan.f (k+1) a0 a1 a2 a3 a4):=by
 intro a0 a1 a2 a3 a4 k
 obtain ⟨ih0,ih1⟩:=qan.mono_l k
 exact ih0 a0 a1 a2 a3 a4
set_option maxHeartbeats 8000000 in
set_option maxRecDepth 100000 in
theorem qan.calls (k:Nat):∀ (a0_0:Bool) (a0_1:Int) (A0_2:Option Addr) (c0_2:Nat) (l0_2:List (S60)) (a1:Int) (P2_:Nat→Prop) (u9000_:Value) (l2:List Int) (r1:List Int) (r2:List Int) (w0 w:World) (hB:Below w0.heap.size w0 w) (hr0_2:∀ W_,Kept w W_ (fun k_=>P2_ k_)→Kd.C k60 W_ A0_2 l0_2.length l0_2) (hc0_2:l0_2.length≤c0_2) (ho2:Kd.R (Kd.int .i64) 3 w w0.heap.size P2_ u9000_ l2) (h:qan.f k a0_0 a0_1 l0_2 a1 l2=some (r1,r2)),
  Calls Tryd.prog 51 #[.agg #[.bool a0_0,.int .i64 a0_1,.slice A0_2 l0_2.length c0_2],.int .i64 a1,u9000_] w fun e w'=>∃ v0_ v1_:Value,e=.returned (.tuple #[v0_,v1_])∧Kd.R (Kd.int .i64) 3 w' w0.heap.size (fun k_=>(P2_ k_∨w.heap.size≤k_)∧some k_≠(v1_:Value).ownBlock) v0_ r1∧Kd.R (Kd.int .i64) 3 w' w0.heap.size (fun k_=>(P2_ k_∨w.heap.size≤k_)∧some k_≠(v0_:Value).ownBlock) v1_ r2∧Below w0.heap.size w0 w'∧Kept w w' (fun k_=>P2_ k_):=by
 induction k using Nat.strongRecOn with
 | _ k ih=>
 intro a0_0 a0_1 A0_2 c0_2 l0_2 a1 P2_ u9000_ l2 r1 r2 w0 w hB hr0_2 hc0_2 ho2 h
 cases k with
 | zero=>exact absurd h (by simp [qan.f])
 | succ k=>
 simp only [qan.f] at h
 have hu24:=Tryd.underlying24
 have HR0_2:=qaa.mk hr0_2
 have HC0_2:=qaa.mk hc0_2
 clear hr0_2 hc0_2
 have HO2:=qaa.mk (show Kd.R (Kd.int .i64) 3 w w0.heap.size (fun k_=>(P2_ k_∨w.heap.size≤k_)) u9000_ l2 from Kd.R_mono ho2 (fun k_ hk=>(.inl hk)))
 have HK:=qaa.mk (Kept.refl w (fun k_=>P2_ k_))
 have HW0:=qaa.mk hB.size
 have HB:=qaa.mk hB
 clear hB
 have H:((qar.f k l2 a1).bind fun t417=>(if t417=true then (some (([]:List Int),l2)) else ((some (([]:List Int):List Int)).bind fun y418=>(if y418.length+l2.length<17592186044416 then ((some (y418++l2:List Int)).bind fun y421=>(if y421.length<17592186044416 then ((qad.f k a0_0 a0_1 l0_2 a1).bind fun t427=>(qan.l0 k a1 (y421++[a1]) ([]:List Int) t427 (t427.length:Int) 0 a0_0 a0_1 l0_2)) else (none))) else (none)))))=some (r1,r2):=h
 clear h
 replace H:=Option.bind_eq_some_iff.mp H
 obtain ⟨t417,A40,H⟩:=H
 replace H:(if t417=true then (some (([]:List Int),l2)) else ((some (([]:List Int):List Int)).bind fun y418=>(if y418.length+l2.length<17592186044416 then ((some (y418++l2:List Int)).bind fun y421=>(if y421.length<17592186044416 then ((qad.f k a0_0 a0_1 l0_2 a1).bind fun t427=>(qan.l0 k a1 (y421++[a1]) ([]:List Int) t427 (t427.length:Int) 0 a0_0 a0_1 l0_2)) else (none))) else (none))))=some (r1,r2):=H
 have A4:=qaa.mk A40
 clear A40
 by_cases c5:t417=true
 ·subst c5
  have H1:(some (([]:List Int),l2))=some (r1,r2):=by rw [if_pos rfl] at H;exact H
  clear H
  have H:=H1
  clear H1
  simp only [Option.some.injEq,Prod.mk.injEq] at H
  obtain ⟨rfl,rfl⟩:=H
  go_enter Tryd.func51,Tryd.ntmps51
  go_wp2_with (first|((with_reducible refine qbf (N:=3) rfl ?_);refine qbj ?hg (N:=3) ?hd (cs:=#[.bool a0_0,.int .i64 a0_1,.slice A0_2 l0_2.length c0_2]) (t:=24) ?hr ?_;(case hd=>rfl);(case hg=>rfl);(case hr=>(go_simp;done));intro gb416 hg w6 hbox hb;replace HO2:=qaa.mk (Kd.R_below (by (with_reducible repeat (apply Kd.R_drew));exact HO2.out) hb);have BK416:=qaa.mk (hbox);have GW416:=qaa.mk ((by rw [hg];exact (by exact HK.out.1):w.heap.size≤gb416));replace HK:=qaa.mk (Kept.below (S:=(fun k_=>P2_ k_)) HK.out hb);have GE416:=qaa.mk ((by rw [hg];exact (qac HB.out):w0.heap.size≤gb416));replace HB:=qaa.mk (qak HB.out hb);clear hb hbox hg;obtain ⟨Ao7,co7,eo7⟩:=Kd.R_slice HO2.out;subst eo7)|((with_reducible refine qbg (f:=48) rfl ?_);refine qcx (some 15) rfl rfl Tryd.func48 (by kernel_rfl) rfl #[.slice Ao7 l2.length co7,.int .i64 a1] rfl (by (try simp only [List.map_toArray,List.map_cons,List.map_nil]);rfl) ?_;(with_reducible refine (qar.calls k _ _ l2 a1 true _ ?side1 ?side2 A4.out).mono ?_);(case side1=>repeat (exact (Kd.R_reads' HO2.out).2.2));(case side2=>exact (Kd.R_reads' HO2.out).2.1);rintro e w' ⟨rfl,⟨nd,rfl⟩⟩;refine ⟨_,rfl,?_⟩))
  go_ret2
  exact ⟨_,_,by rfl,by exact Kd.R_nil _ _ _ _ _,by (with_reducible repeat (apply Kd.R_drewN));exact Kd.R_mono HO2.out (fun _ hk=>⟨hk,(by simp [Value.ownBlock])⟩),by repeat ((with_reducible first|exact HB.out|apply qbe)),by repeat ((with_reducible first|exact HK.out|apply Kept.drewN))⟩
 ·replace c5:=Bool.eq_false_iff.mpr c5
  subst c5
  have H1:((some (([]:List Int):List Int)).bind fun y418=>(if y418.length+l2.length<17592186044416 then ((some (y418++l2:List Int)).bind fun y421=>(if y421.length<17592186044416 then ((qad.f k a0_0 a0_1 l0_2 a1).bind fun t427=>(qan.l0 k a1 (y421++[a1]) ([]:List Int) t427 (t427.length:Int) 0 a0_0 a0_1 l0_2)) else (none))) else (none)))=some (r1,r2):=by rw [if_neg (show ¬ (false=true) by decide)] at H;exact H
  clear H
  have H:=H1
  clear H1
  obtain ⟨y418,hy418⟩:∃ y_:List Int,y_=(([]:List Int)):=⟨_,rfl⟩
  replace H:(if y418.length+l2.length<17592186044416 then ((some (y418++l2:List Int)).bind fun y421=>(if y421.length<17592186044416 then ((qad.f k a0_0 a0_1 l0_2 a1).bind fun t427=>(qan.l0 k a1 (y421++[a1]) ([]:List Int) t427 (t427.length:Int) 0 a0_0 a0_1 l0_2)) else (none))) else (none))=some (r1,r2):=by (have H2_:=(Option.bind_some _ _).symm.trans H;rw [hy418];with_reducible exact H2_)
  have Ny418:=qaa.mk hy418
  clear hy418
  by_cases c8:y418.length+l2.length<17592186044416
  ·rw [if_pos c8] at H
   have LMc8:=qaa.mk c8
   clear c8
   obtain ⟨y421,hy421⟩:∃ y_:List Int,y_=(y418++l2):=⟨_,rfl⟩
   replace H:(if y421.length<17592186044416 then ((qad.f k a0_0 a0_1 l0_2 a1).bind fun t427=>(qan.l0 k a1 (y421++[a1]) ([]:List Int) t427 (t427.length:Int) 0 a0_0 a0_1 l0_2)) else (none))=some (r1,r2):=by (have H2_:=(Option.bind_some _ _).symm.trans H;rw [hy421];with_reducible exact H2_)
   have Ny421:=qaa.mk hy421
   clear hy421
   by_cases c9:y421.length<17592186044416
   ·rw [if_pos c9] at H
    have LMc9:=qaa.mk c9
    clear c9
    obtain ⟨y424,hy424⟩:∃ y_:List Int,y_=(y421++[a1]):=⟨_,rfl⟩
    replace H:((qad.f k a0_0 a0_1 l0_2 a1).bind fun t427=>(qan.l0 k a1 y424 ([]:List Int) t427 (t427.length:Int) 0 a0_0 a0_1 l0_2))=some (r1,r2):=by (rw [hy424];with_reducible exact H)
    have Ny424:=qaa.mk hy424
    clear hy424
    replace H:=Option.bind_eq_some_iff.mp H
    obtain ⟨t427,A100,H⟩:=H
    replace H:(qan.l0 k a1 y424 ([]:List Int) t427 (t427.length:Int) 0 a0_0 a0_1 l0_2)=some (r1,r2):=H
    have A10:=qaa.mk A100
    clear A100
    have H':=qaa.mk H
    clear H
    go_enter Tryd.func51,Tryd.ntmps51
    go_wp2_with (first|((with_reducible refine qbf (N:=3) rfl ?_);refine qbj ?hg (N:=3) ?hd (cs:=#[.bool a0_0,.int .i64 a0_1,.slice A0_2 l0_2.length c0_2]) (t:=24) ?hr ?_;(case hd=>rfl);(case hg=>rfl);(case hr=>(go_simp;done));intro gb416 hg w11 hbox hb;replace HO2:=qaa.mk (Kd.R_below (by (with_reducible repeat (apply Kd.R_drew));exact HO2.out) hb);have BK416:=qaa.mk (hbox);have GW416:=qaa.mk ((by rw [hg];exact (by exact HK.out.1):w.heap.size≤gb416));replace HK:=qaa.mk (Kept.below (S:=(fun k_=>P2_ k_)) HK.out hb);have GE416:=qaa.mk ((by rw [hg];exact (qac HB.out):w0.heap.size≤gb416));replace HB:=qaa.mk (qak HB.out hb);clear hb hbox hg;obtain ⟨Ao12,co12,eo12⟩:=Kd.R_slice HO2.out;subst eo12)|((with_reducible refine qbg (f:=48) rfl ?_);refine qcx (some 15) rfl rfl Tryd.func48 (by kernel_rfl) rfl #[.slice Ao12 l2.length co12,.int .i64 a1] rfl (by (try simp only [List.map_toArray,List.map_cons,List.map_nil]);rfl) ?_;(with_reducible refine (qar.calls k _ _ l2 a1 false _ ?side1 ?side2 A4.out).mono ?_);(case side1=>repeat (exact (Kd.R_reads' HO2.out).2.2));(case side2=>exact (Kd.R_reads' HO2.out).2.1);rintro e w' ⟨rfl,⟨nd,rfl⟩⟩;refine ⟨_,rfl,?_⟩)|((with_reducible refine qbf (N:=17) rfl ?_);refine Kd.R_lit (Kd.int .i64) _ 3 ?hg (N:=17) ?hd (xs:=([]:List Int)) (inner:=[]) (ok:=fun _=>True) (okp:=fun _=>True) ?hr ?hp (fun _ hk=>hk) trivial (Below.refl _ _) (Nat.le_refl _) (by simp) ?_;(case hd=>rfl);(case hg=>rfl);(case hr=>(go_simp;done));(case hp=>exact (Reps.none _ _));intro v419 w13 ho14 hb hg_ hnew_;clear hg_ hnew_;(rw [← Ny418.out] at ho14);have HO420:=qaa.mk (Kd.R_lower (Kd.R_new' (Kd.R_newM (M:=fun k_=>(P2_ k_∨w.heap.size≤k_)) ho14 (by exact HK.out.1) (fun k_ h_=>.inr h_)) (Kd.R_lt (by (with_reducible repeat (apply Kd.R_drewN));exact HO2.out))) (qac (by repeat ((with_reducible first|exact HB.out|apply qbe)))));replace HO2:=qaa.mk (Kd.R_elder' (by (with_reducible repeat (apply Kd.R_drewN));exact HO2.out) (Kd.R_base ho14) hb);replace BK416:=qaa.mk (qag (g:=gb416) (o:=.cells #[.bool a0_0,.int .i64 a0_1,.slice A0_2 l0_2.length c0_2] 24 (0,0)) (by (with_reducible repeat (refine qdh ?_ _));exact BK416.out) hb);replace HK:=qaa.mk (Kept.below (S:=(fun k_=>P2_ k_)) (by repeat ((with_reducible first|exact HK.out|apply Kept.drewN))) hb);replace HB:=qaa.mk (qak (by repeat ((with_reducible first|exact HB.out|apply qbe))) hb);clear hb ho14)|((with_reducible refine qdm (b:=.append) (xs:=#[.tmp 17,.tmp 18]) rfl ?_);at_builtin;refine Kd.R_append_rows (Kd.int .i64) (w0:=w0) w0.heap.size rfl (.tmp 17) (.tmp 18) 31 3 (.int .i64 0) 8 rfl Tryd.underlying31 qgn rfl (by decide) (by omega) v419 y418 l2 _ _ _ (fun k_=>(P2_ k_∨w.heap.size≤k_)∧some k_≠(.slice Ao12 l2.length co12:Value).ownBlock) (fun _=>False) rfl rfl ?aO ?aR (fun _ _ h=>h) (fun _ h=>h.elim) ?aF ?aB ?aS ?aL ?_;(case aR=>repeat (exact (Kd.R_reads' HO2.out).2.2));(case aB=>exact HB.out);(case aF=>exact (fun k_ hk=>⟨(.inr (Nat.le_trans (by exact HK.out.1) hk)),Kd.fresh' (Kd.R_lt (by (with_reducible repeat (apply Kd.R_drew));exact HO2.out)) k_ hk⟩));(case aO=>exact (by (with_reducible repeat (apply Kd.R_drew));exact Kd.R_mono HO420.out (fun _ hk=>⟨hk.1.1,hk.2⟩)));(case aS=>exact (qac HB.out));(case aL=>have:=LMc8.out;omega);intro v422 w15 ho hb hg hat;rw [← Ny421.out] at ho;have n0_:=qaa.mk (Kd.R_after (ok:=(fun k_=>(P2_ k_∨w.heap.size≤k_))) (by (with_reducible repeat (apply Kd.R_drew));exact HO2.out) hg hat);have n1_:=qaa.mk (qdf (g:=gb416) (o:=.cells #[.bool a0_0,.int .i64 a0_1,.slice A0_2 l0_2.length c0_2] 24 (0,0)) (by (with_reducible repeat (refine qab ?_));exact BK416.out) hg (Kd.R_ne HO420.out BK416.out (by decide)));have n2_:=qaa.mk (hb);have n3_:=qaa.mk (Kept.of_grown (S:=(fun k_=>P2_ k_)) hg HK.out (fun k_ e_=>(HO420.out.1 k_ e_).1.1));have n4_:=qaa.mk (ho);clear HO2;clear BK416;clear HB;clear HK;clear HO420;have HO2:=n0_;have BK416:=n1_;have HB:=n2_;have HK:=n3_;have HO423:=n4_;clear n0_ n1_ n2_ n3_ n4_;clear ho hb hg hat)|((with_reducible refine qdm (b:=.append) (xs:=#[.tmp 19,.tmp 21]) rfl ?_);at_builtin;refine Kd.R_append (Kd.int .i64) (w0:=w0) w0.heap.size rfl (.tmp 19) (.tmp 21) 31 3 (.int .i64 0) 8 rfl Tryd.underlying31 qgn rfl (by decide) (by omega) v422 y421 a1 [.int .i64 a1] (fun k_=>(P2_ k_∨w.heap.size≤k_)∧some k_≠(.slice Ao12 l2.length co12:Value).ownBlock) (fun _=>False) rfl rfl ?aP (fun _ hk=>hk.elim) ?aF ?aO ?aB ?aS ?aL ?_;(case aP=>exact rfl);(case aB=>exact HB.out);(case aF=>exact (fun k_ hk=>⟨(.inr (Nat.le_trans (by exact HK.out.1) hk)),Kd.fresh' (Kd.R_lt (by (with_reducible repeat (apply Kd.R_drew));exact HO2.out)) k_ hk⟩));(case aO=>exact (by (with_reducible repeat (apply Kd.R_drew));exact HO423.out));(case aS=>exact (qac HB.out));(case aL=>have:=LMc9.out;omega);intro v425 w16 ho hb hg hat;rw [← Ny424.out] at ho;have n0_:=qaa.mk (Kd.R_after (ok:=(fun k_=>(P2_ k_∨w.heap.size≤k_))) (by (with_reducible repeat (apply Kd.R_drew));exact HO2.out) hg hat);have n1_:=qaa.mk (qdf (g:=gb416) (o:=.cells #[.bool a0_0,.int .i64 a0_1,.slice A0_2 l0_2.length c0_2] 24 (0,0)) (by (with_reducible repeat (refine qab ?_));exact BK416.out) hg (Kd.R_ne HO423.out BK416.out (by decide)));have n2_:=qaa.mk (hb);have n3_:=qaa.mk (Kept.of_grown (S:=(fun k_=>P2_ k_)) hg HK.out (fun k_ e_=>(HO423.out.1 k_ e_).1));have n4_:=qaa.mk (ho);clear HO2;clear BK416;clear HB;clear HK;clear HO423;have HO2:=n0_;have BK416:=n1_;have HB:=n2_;have HK:=n3_;have HO426:=n4_;clear n0_ n1_ n2_ n3_ n4_;clear ho hb hg hat;have hcz17_0:w16.cell? ⟨gb416,0,none⟩=some (.bool a0_0):=(qae BK416.out 0).trans rfl;have hcz17_1:w16.cell? ⟨gb416,1,none⟩=some (.int .i64 a0_1):=(qae BK416.out 1).trans rfl;have hcz17_2:w16.cell? ⟨gb416,2,none⟩=some (.slice A0_2 l0_2.length c0_2):=(qae BK416.out 2).trans rfl;have hfz17_0:=qaf BK416.out 0;have hfz17_1:=qaf BK416.out 1;have hfz17_2:=qaf BK416.out 2)|((with_reducible refine qbg (f:=47) rfl ?_);refine qcx (some 25) rfl rfl Tryd.func47 (by kernel_rfl) rfl #[.agg #[.bool a0_0,.int .i64 a0_1,.slice A0_2 l0_2.length c0_2],.int .i64 a1] rfl (by (try simp only [List.map_toArray,List.map_cons,List.map_nil]);rfl) ?_;(with_reducible refine (qad.calls k a0_0 a0_1 _ _ l0_2 a1 t427 _ ?side1 ?side2 A10.out).mono ?_);(case side1=>exact Kd.C_kept_now HR0_2.out HK.out);(case side2=>exact HC0_2.out);rintro e w18 ⟨v428,rfl,ho0,hb⟩;refine ⟨_,rfl,?_⟩;have HO429:=qaa.mk (Kd.R_lower (Kd.R_new' (Kd.R_new' (Kd.R_newM (M:=fun k_=>(P2_ k_∨w.heap.size≤k_)) ho0 (by exact HK.out.1) (fun k_ h_=>.inr h_)) (Kd.R_lt (by (with_reducible repeat (apply Kd.R_drew));exact HO2.out))) (Kd.R_lt (by (with_reducible repeat (apply Kd.R_drew));exact HO426.out))) (qac HB.out));replace HO2:=qaa.mk (Kd.R_elder' (by (with_reducible repeat (apply Kd.R_drew));exact HO2.out) (Kd.R_base ho0) hb);replace HO426:=qaa.mk (Kd.R_elder' (by (with_reducible repeat (apply Kd.R_drew));exact HO426.out) (Kd.R_base ho0) hb);replace BK416:=qaa.mk (qag (g:=gb416) (o:=.cells #[.bool a0_0,.int .i64 a0_1,.slice A0_2 l0_2.length c0_2] 24 (0,0)) (by (with_reducible repeat (refine qab ?_));exact BK416.out) hb);replace HK:=qaa.mk (Kept.below (S:=(fun k_=>P2_ k_)) HK.out hb);replace HB:=qaa.mk (qak HB.out hb);(try clear hb);(try clear ho0);obtain ⟨Ao19,co19,eo19⟩:=Kd.R_slice HO429.out;subst eo19))
    go_loopg [2,8,27] k (fun kq v2 v8 v27 w'=>∃ (x2_1:List Int) (x8_1:List Int) (x27_1:Int),v27=.int .i64 x27_1∧qaa (qan.l0 kq a1 x2_1 x8_1 t427 (t427.length:Int) x27_1 a0_0 a0_1 l0_2=some (r1,r2))∧qaa (kq≤k)∧qaa (Kd.R (Kd.int .i64) 3 w' w0.heap.size (fun k_=>(P2_ k_∨w.heap.size≤k_)∧some k_≠(v8:Value).ownBlock∧some k_≠((.slice Ao19 t427.length co19):Value).ownBlock) v2 x2_1)∧qaa (Kd.R (Kd.int .i64) 3 w' w0.heap.size (fun k_=>(P2_ k_∨w.heap.size≤k_)∧some k_≠(v2:Value).ownBlock∧some k_≠((.slice Ao19 t427.length co19):Value).ownBlock) v8 x8_1)∧qaa (Kd.R (Kd.int .i64) 3 w' w0.heap.size (fun k_=>(P2_ k_∨w.heap.size≤k_)∧some k_≠(v2:Value).ownBlock∧some k_≠(v8:Value).ownBlock) (.slice Ao19 t427.length co19) t427)∧qaa (w'.heap[gb416]?=some (.cells #[.bool a0_0,.int .i64 a0_1,(.slice A0_2 l0_2.length c0_2)] 24 (0,0)))∧qaa (Kept w w' (fun k_=>P2_ k_))∧qaa (Below w0.heap.size w0 w'))
    case atStart=>exact ⟨(y424),(([]:List Int)),(0),(by rfl),H',⟨Nat.le_refl _⟩,⟨by (with_reducible repeat (apply Kd.R_drew));exact Kd.R_mono HO426.out (fun _ hk=>⟨hk.1.1,⟨(by simp [Value.ownBlock]),hk.2⟩⟩)⟩,⟨by exact Kd.R_nil _ _ _ _ _⟩,⟨by (with_reducible repeat (apply Kd.R_drew));exact Kd.R_mono HO429.out (fun _ hk=>⟨hk.1.1.1,⟨hk.2,(by simp [Value.ownBlock])⟩⟩)⟩,⟨by (with_reducible repeat (refine qab ?_));exact BK416.out⟩,⟨by repeat ((with_reducible exact HK.out))⟩,⟨by repeat ((with_reducible exact HB.out))⟩⟩
    case round=>
     clear H'
     try clear hcz17_0
     try clear hcz17_1
     try clear hcz17_2
     try clear hfz17_0
     try clear hfz17_1
     try clear hfz17_2
     obtain ⟨x2_1,x8_1,x27_1,rfl,HA,HK1,HO_2,HO_8,HO_25,BK416,HK,HB⟩:=hrel
     cases gk with
     | zero=>exact absurd HA.out (by simp [qan.l0])
     | succ k1=>
      have H:=HA.out
      clear HA
      simp only [qan.l0] at H
      by_cases c20:x27_1<(t427.length:Int)
      ·rw [if_pos c20] at H
       have c20b0:decide (x27_1<(t427.length:Int))=true:=decide_eq_true c20
       clear c20
       by_cases c21:0≤x27_1
       ·rw [if_pos c21] at H
        have c21b0:decide (0≤x27_1)=true:=decide_eq_true c21
        clear c21
        by_cases c22:x27_1<(t427.length:Int)
        ·rw [if_pos c22] at H
         have c22b0:decide (x27_1<(t427.length:Int))=true:=decide_eq_true c22
         clear c22
         replace H:=Option.bind_eq_some_iff.mp H
         obtain ⟨⟨t431,t434⟩,A230,H⟩:=H
         replace H:(if x8_1.length+t431.length<17592186044416 then (qan.l0 k1 a1 t434 (x8_1++t431) t427 (t427.length:Int) (wrap64 (x27_1+1)) a0_0 a0_1 l0_2) else (none))=some (r1,r2):=H
         have A23:=qaa.mk A230
         clear A230
         by_cases c24:x8_1.length+t431.length<17592186044416
         ·rw [if_pos c24] at H
          have LMc24:=qaa.mk c24
          clear c24
          obtain ⟨y437,hy437⟩:∃ y_:List Int,y_=(x8_1++t431):=⟨_,rfl⟩
          replace H:(qan.l0 k1 a1 t434 y437 t427 (t427.length:Int) (wrap64 (x27_1+1)) a0_0 a0_1 l0_2)=some (r1,r2):=by (rw [hy437];with_reducible exact H)
          have Ny437:=qaa.mk hy437
          clear hy437
          have H':=qaa.mk H
          clear H
          have p430:0≤(x27_1:Int):=of_decide_eq_true (by (with_reducible assumption))
          have q430:x27_1<(t427.length:Int):=of_decide_eq_true (by (with_reducible assumption))
          obtain ⟨ad430,e430,hx430_0⟩:=Kd.at_int (Kd.R_reads' HO_25.out).2.2 x27_1 p430 q430
          cases e430
          replace p430:=eq_true p430
          replace q430:=eq_true q430
          have hcz25_0:wr.cell? ⟨gb416,0,none⟩=some (.bool a0_0):=(qae BK416.out 0).trans rfl
          have hcz25_1:wr.cell? ⟨gb416,1,none⟩=some (.int .i64 a0_1):=(qae BK416.out 1).trans rfl
          have hcz25_2:wr.cell? ⟨gb416,2,none⟩=some (.slice A0_2 l0_2.length c0_2):=(qae BK416.out 2).trans rfl
          have hfz25_0:=qaf BK416.out 0
          have hfz25_1:=qaf BK416.out 1
          have hfz25_2:=qaf BK416.out 2
          obtain ⟨Ao26,co26,eo26⟩:=Kd.R_slice HO_2.out
          subst eo26
          go_wp2_with (first|((with_reducible refine qbg (f:=51) rfl ?_);refine qcx (some 35) rfl rfl Tryd.func51 (by kernel_rfl) rfl #[.agg #[.bool a0_0,.int .i64 a0_1,.slice A0_2 l0_2.length c0_2],.int .i64 (rd t427 x27_1),.slice Ao26 x2_1.length co26] rfl (by (try simp only [List.map_toArray,List.map_cons,List.map_nil]);rfl) ?_;(with_reducible refine (ih k1 (by have:=HK1.out;omega) a0_0 a0_1 _ _ l0_2 (rd t427 x27_1) (fun k_=>some k_=(.slice Ao26 x2_1.length co26:Value).ownBlock) (.slice Ao26 x2_1.length co26) x2_1 t431 t434 w0 _ ?side1 ?side2 ?side3 ?side4 A23.out).mono ?_);(case side1=>repeat ((with_reducible exact HB.out)));(case side2=>exact Kd.C_kept_call HR0_2.out HK.out (fun k_ hs_=>(fun e_=>(HO_2.out.1 k_ e_.symm).1) hs_));(case side3=>exact HC0_2.out);(case side4=>exact Kd.R_tight rfl HO_2.out);rintro e w27 ⟨v432,v435,rfl,ho0,ho1,hb,hkp⟩;refine ⟨_,rfl,?_⟩;have n0_:=qaa.mk (Kd.R_mono (ok':=fun k_=>(P2_ k_∨w.heap.size≤k_)∧some k_≠(.slice (some ad430) t427.length co19:Value).ownBlock∧some k_≠(v432:Value).ownBlock∧some k_≠(v435:Value).ownBlock) (Kd.R_keptB (HO_8.out) hkp (fun k_ hk_ hs_=>(hk_.2.1) hs_)) (fun k_ hk_=>⟨hk_.1.1,hk_.1.2.2,fun e_=>Or.elim (ho0.1 k_ e_.symm).1 (fun hs_=>hk_.2.1 hs_) (fun hn_=>Nat.not_le.2 hk_.2.2 hn_),fun e_=>Or.elim (ho1.1 k_ e_.symm).1 (fun hs_=>hk_.2.1 hs_) (fun hn_=>Nat.not_le.2 hk_.2.2 hn_)⟩));have n1_:=qaa.mk (Kd.R_mono (ok':=fun k_=>(P2_ k_∨w.heap.size≤k_)∧some k_≠(u8:Value).ownBlock∧some k_≠(v432:Value).ownBlock∧some k_≠(v435:Value).ownBlock) (Kd.R_keptB (HO_25.out) hkp (fun k_ hk_ hs_=>(hk_.2.1) hs_)) (fun k_ hk_=>⟨hk_.1.1,hk_.1.2.2,fun e_=>Or.elim (ho0.1 k_ e_.symm).1 (fun hs_=>hk_.2.1 hs_) (fun hn_=>Nat.not_le.2 hk_.2.2 hn_),fun e_=>Or.elim (ho1.1 k_ e_.symm).1 (fun hs_=>hk_.2.1 hs_) (fun hn_=>Nat.not_le.2 hk_.2.2 hn_)⟩));have n2_:=qaa.mk (qdy (by (with_reducible repeat (refine qab ?_));exact BK416.out) hkp (fun hs_=>(fun e_=>(Kd.R_ne HO_2.out BK416.out (by decide)) e_) hs_));have n3_:=qaa.mk (Kd.R_mono (ok':=fun k_=>(P2_ k_∨w.heap.size≤k_)∧some k_≠(v435:Value).ownBlock∧some k_≠(u8:Value).ownBlock∧some k_≠(.slice (some ad430) t427.length co19:Value).ownBlock) ho0 (fun k_ hk_=>⟨Or.elim hk_.1 (fun hs_=>(HO_2.out.1 k_ (hs_).symm).1) (fun hn_=>(.inr (Nat.le_trans (by exact HK.out.1) hn_))),hk_.2,Or.elim hk_.1 (fun hs_=>fun e_=>(((HO_8.out).1 k_ e_.symm).2.1) hs_) (fun hn_=>(Kd.fresh' (Kd.R_lt (by (with_reducible repeat (apply Kd.R_drew));exact HO_8.out)) k_ hn_)),Or.elim hk_.1 (fun hs_=>fun e_=>(((HO_25.out).1 k_ e_.symm).2.1) hs_) (fun hn_=>(Kd.fresh' (Kd.R_lt (by (with_reducible repeat (apply Kd.R_drew));exact HO_25.out)) k_ hn_))⟩));have n4_:=qaa.mk (Kd.R_mono (ok':=fun k_=>(P2_ k_∨w.heap.size≤k_)∧some k_≠(v432:Value).ownBlock∧some k_≠(u8:Value).ownBlock∧some k_≠(.slice (some ad430) t427.length co19:Value).ownBlock) ho1 (fun k_ hk_=>⟨Or.elim hk_.1 (fun hs_=>(HO_2.out.1 k_ (hs_).symm).1) (fun hn_=>(.inr (Nat.le_trans (by exact HK.out.1) hn_))),hk_.2,Or.elim hk_.1 (fun hs_=>fun e_=>(((HO_8.out).1 k_ e_.symm).2.1) hs_) (fun hn_=>(Kd.fresh' (Kd.R_lt (by (with_reducible repeat (apply Kd.R_drew));exact HO_8.out)) k_ hn_)),Or.elim hk_.1 (fun hs_=>fun e_=>(((HO_25.out).1 k_ e_.symm).2.1) hs_) (fun hn_=>(Kd.fresh' (Kd.R_lt (by (with_reducible repeat (apply Kd.R_drew));exact HO_25.out)) k_ hn_))⟩));have n5_:=qaa.mk (Kept.then_ (S:=(fun k_=>P2_ k_)) HK.out hkp (fun k_ hs_=>(fun e_=>(HO_2.out.1 k_ e_.symm).1) hs_));have n6_:=qaa.mk (hb);clear HO_8;clear HO_25;clear BK416;clear HK;clear HB;clear HO_2;have HO_8:=n0_;have HO_25:=n1_;have BK416:=n2_;have HO433:=n3_;have HO436:=n4_;have HK:=n5_;have HB:=n6_;clear n0_ n1_ n2_ n3_ n4_ n5_ n6_;(try clear hb);(try clear hkp);(try clear ho0);(try clear ho1);obtain ⟨Ao29,co29,eo29⟩:=Kd.R_slice HO433.out;subst eo29)|((with_reducible refine qdm (b:=.append) (xs:=#[.tmp 38,.tmp 39]) rfl ?_);at_builtin;refine Kd.R_append_rows (Kd.int .i64) (w0:=w0) w0.heap.size rfl (.tmp 38) (.tmp 39) 31 3 (.int .i64 0) 8 rfl Tryd.underlying31 qgn rfl (by decide) (by omega) u8 x8_1 t431 _ _ _ (fun k_=>(P2_ k_∨w.heap.size≤k_)∧some k_≠(.slice (some ad430) t427.length co19:Value).ownBlock∧some k_≠(.slice Ao29 t431.length co29:Value).ownBlock∧some k_≠(v435:Value).ownBlock) (fun _=>False) rfl rfl ?aO ?aR (fun _ _ h=>h) (fun _ h=>h.elim) ?aF ?aB ?aS ?aL ?_;(case aR=>repeat (exact (Kd.R_reads' HO433.out).2.2));(case aB=>exact HB.out);(case aF=>exact (fun k_ hk=>⟨(.inr (Nat.le_trans (by exact HK.out.1) hk)),Kd.fresh' (Kd.R_lt (by (with_reducible repeat (apply Kd.R_drew));exact HO_25.out)) k_ hk,Kd.fresh' (Kd.R_lt (by (with_reducible repeat (apply Kd.R_drew));exact HO433.out)) k_ hk,Kd.fresh' (Kd.R_lt (by (with_reducible repeat (apply Kd.R_drew));exact HO436.out)) k_ hk⟩));(case aO=>exact (by (with_reducible repeat (apply Kd.R_drew));exact HO_8.out));(case aS=>exact (qac HB.out));(case aL=>have:=LMc24.out;omega);intro v438 w28 ho hb hg hat;rw [← Ny437.out] at ho;have n0_:=qaa.mk (Kd.R_after (ok:=(fun k_=>(P2_ k_∨w.heap.size≤k_)∧some k_≠(.slice Ao29 t431.length co29:Value).ownBlock∧some k_≠(v435:Value).ownBlock)) (by (with_reducible repeat (apply Kd.R_drew));exact Kd.R_mono HO_25.out (fun _ hk=>⟨⟨hk.1,⟨hk.2.2.1,hk.2.2.2⟩⟩,hk.2.1⟩)) hg hat);have n1_:=qaa.mk (qdf (g:=gb416) (o:=.cells #[.bool a0_0,.int .i64 a0_1,.slice A0_2 l0_2.length c0_2] 24 (0,0)) (by (with_reducible repeat (refine qab ?_));exact BK416.out) hg (Kd.R_ne HO_8.out BK416.out (by decide)));have n2_:=qaa.mk (Kd.R_after (ok:=(fun k_=>(P2_ k_∨w.heap.size≤k_)∧some k_≠(.slice (some ad430) t427.length co19:Value).ownBlock∧some k_≠(v435:Value).ownBlock)) (by (with_reducible repeat (apply Kd.R_drew));exact Kd.R_mono HO433.out (fun _ hk=>⟨⟨hk.1,⟨hk.2.2.2,hk.2.1⟩⟩,hk.2.2.1⟩)) hg hat);have n3_:=qaa.mk (Kd.R_after (ok:=(fun k_=>(P2_ k_∨w.heap.size≤k_)∧some k_≠(.slice (some ad430) t427.length co19:Value).ownBlock∧some k_≠(.slice Ao29 t431.length co29:Value).ownBlock)) (by (with_reducible repeat (apply Kd.R_drew));exact Kd.R_mono HO436.out (fun _ hk=>⟨⟨hk.1,⟨hk.2.2.2,hk.2.1⟩⟩,hk.2.2.1⟩)) hg hat);have n4_:=qaa.mk (hb);have n5_:=qaa.mk (Kept.of_grown (S:=(fun k_=>P2_ k_)) hg HK.out (fun k_ e_=>(HO_8.out.1 k_ e_).1));have n6_:=qaa.mk (ho);clear HO_25;clear BK416;clear HO433;clear HO436;clear HB;clear HK;clear HO_8;have HO_25:=n0_;have BK416:=n1_;have HO433:=n2_;have HO436:=n3_;have HB:=n4_;have HK:=n5_;have HO439:=n6_;clear n0_ n1_ n2_ n3_ n4_ n5_ n6_;clear ho hb hg hat))
          go_roundg k1
          case measure=>have:=HK1.out;omega
          case rel=>exact ⟨(t434),(y437),(wrap64 (x27_1+1)),(by rfl),H',⟨by have:=HK1.out;omega⟩,⟨by (with_reducible repeat (apply Kd.R_drew));exact Kd.R_mono HO436.out (fun _ hk=>⟨hk.1.1,⟨hk.2,hk.1.2.1⟩⟩)⟩,⟨by (with_reducible repeat (apply Kd.R_drew));exact Kd.R_mono HO439.out (fun _ hk=>⟨hk.1,⟨hk.2.2.2,hk.2.1⟩⟩)⟩,⟨by (with_reducible repeat (apply Kd.R_drew));exact Kd.R_mono HO_25.out (fun _ hk=>⟨hk.1.1,⟨hk.1.2.2,hk.2⟩⟩)⟩,⟨by (with_reducible repeat (refine qab ?_));exact BK416.out⟩,⟨by repeat ((with_reducible exact HK.out))⟩,⟨by repeat ((with_reducible exact HB.out))⟩⟩
         ·rw [if_neg c24] at H
          exact absurd H (by simp)
        ·rw [if_neg c22] at H
         exact absurd H (by simp)
       ·rw [if_neg c21] at H
        exact absurd H (by simp)
      ·rw [if_neg c20] at H
       have c20b0:decide (x27_1<(t427.length:Int))=false:=decide_eq_false c20
       clear c20
       by_cases c30:x8_1.length<17592186044416
       ·rw [if_pos c30] at H
        have LMc30:=qaa.mk c30
        clear c30
        obtain ⟨y440,hy440⟩:∃ y_:List Int,y_=(x8_1++[a1]):=⟨_,rfl⟩
        replace H:(some (y440,x2_1))=some (r1,r2):=by (rw [hy440];with_reducible exact H)
        have Ny440:=qaa.mk hy440
        clear hy440
        simp only [Option.some.injEq,Prod.mk.injEq] at H
        obtain ⟨rfl,rfl⟩:=H
        go_wp2_with (((with_reducible refine qdm (b:=.append) (xs:=#[.tmp 43,.tmp 45]) rfl ?_);at_builtin;refine Kd.R_append (Kd.int .i64) (w0:=w0) w0.heap.size rfl (.tmp 43) (.tmp 45) 31 3 (.int .i64 0) 8 rfl Tryd.underlying31 qgn rfl (by decide) (by omega) u8 x8_1 a1 [.int .i64 a1] (fun k_=>(P2_ k_∨w.heap.size≤k_)∧some k_≠(u2:Value).ownBlock∧some k_≠(.slice Ao19 t427.length co19:Value).ownBlock) (fun _=>False) rfl rfl ?aP (fun _ hk=>hk.elim) ?aF ?aO ?aB ?aS ?aL ?_;(case aP=>exact rfl);(case aB=>exact HB.out);(case aF=>exact (fun k_ hk=>⟨(.inr (Nat.le_trans (by exact HK.out.1) hk)),Kd.fresh' (Kd.R_lt (by (with_reducible repeat (apply Kd.R_drew));exact HO_2.out)) k_ hk,Kd.fresh' (Kd.R_lt (by (with_reducible repeat (apply Kd.R_drew));exact HO_25.out)) k_ hk⟩));(case aO=>exact (by (with_reducible repeat (apply Kd.R_drew));exact HO_8.out));(case aS=>exact (qac HB.out));(case aL=>have:=LMc30.out;omega);intro v441 w31 ho hb hg hat;rw [← Ny440.out] at ho;have n0_:=qaa.mk (Kd.R_after (ok:=(fun k_=>(P2_ k_∨w.heap.size≤k_)∧some k_≠(.slice Ao19 t427.length co19:Value).ownBlock)) (by (with_reducible repeat (apply Kd.R_drew));exact Kd.R_mono HO_2.out (fun _ hk=>⟨⟨hk.1,hk.2.2⟩,hk.2.1⟩)) hg hat);have n1_:=qaa.mk (Kd.R_after (ok:=(fun k_=>(P2_ k_∨w.heap.size≤k_)∧some k_≠(u2:Value).ownBlock)) (by (with_reducible repeat (apply Kd.R_drew));exact Kd.R_mono HO_25.out (fun _ hk=>⟨⟨hk.1,hk.2.1⟩,hk.2.2⟩)) hg hat);have n2_:=qaa.mk (qdf (g:=gb416) (o:=.cells #[.bool a0_0,.int .i64 a0_1,.slice A0_2 l0_2.length c0_2] 24 (0,0)) (by (with_reducible repeat (refine qab ?_));exact BK416.out) hg (Kd.R_ne HO_8.out BK416.out (by decide)));have n3_:=qaa.mk (hb);have n4_:=qaa.mk (Kept.of_grown (S:=(fun k_=>P2_ k_)) hg HK.out (fun k_ e_=>(HO_8.out.1 k_ e_).1));have n5_:=qaa.mk (ho);clear HO_2;clear HO_25;clear BK416;clear HB;clear HK;clear HO_8;have HO_2:=n0_;have HO_25:=n1_;have BK416:=n2_;have HB:=n3_;have HK:=n4_;have HO442:=n5_;clear n0_ n1_ n2_ n3_ n4_ n5_;clear ho hb hg hat))
        go_ret2
        exact ⟨_,_,by rfl,by (with_reducible repeat (apply Kd.R_drew));exact Kd.R_mono HO442.out (fun _ hk=>⟨hk.1,hk.2.1⟩),by (with_reducible repeat (apply Kd.R_drew));exact Kd.R_mono HO_2.out (fun _ hk=>⟨hk.1.1,hk.2⟩),by repeat ((with_reducible exact HB.out)),by repeat ((with_reducible exact HK.out))⟩
       ·rw [if_neg c30] at H
        exact absurd H (by simp)
   ·rw [if_neg c9] at H
    exact absurd H (by simp)
  ·rw [if_neg c8] at H
   exact absurd H (by simp)
end Go.Proofs.YtmfjmbcfaamebaaDoor.X
namespace Go.Proofs.YtmfjmbcfaamebaaDoor.X
open Go.RowKit Go.Proofs.YtmfjmbcfaamebaaDoorW.PrintWords Go.Proofs.YtmfjmbcfaamebaaDoorW.PrintLast Go.Proofs.YtmfjmbcfaamebaaDoorW.PrintMore
attribute [local go_sem] qbp qbz
set_option linter.unusedVariables false
set_option linter.unusedSimpArgs false
def qaq.l0:Nat→List Int→List Int→Int→Int→Option (List Int)
 | 0,_,_,_,_=>none
 | k+1,x3,x5,x17,x18=>if x18<x17 then (if 0≤(wrap64 ((wrap64 ((x3.length:Int)-1))-x18)) then (if (wrap64 ((wrap64 ((x3.length:Int)-1))-x18))<(x3.length:Int) then (if x5.length<17592186044416 then (qaq.l0 k x3 (x5++[rd x3 (wrap64 ((wrap64 ((x3.length:Int)-1))-x18))]) x17 (wrap64 (x18+1))) else (none)) else (none)) else (none)) else (some x5)
def qaq.f (k:Nat) (a0_0:Bool) (a0_1:Int) (l0_2:List (S60)):Option (List Int):=if (l0_2.length:Int)=0 then (some ([]:List Int)) else ((qan.f k a0_0 a0_1 l0_2 0 ([]:List Int)).bind fun bt444=>(qaq.l0 k bt444.1 ([]:List Int) (bt444.1.length:Int) 0))
theorem qaq.mono_l:∀ k,(∀ y0 y1 y2 y3,LeO (qaq.l0 k y0 y1 y2 y3) (qaq.l0 (k+1) y0 y1 y2 y3))
 | 0=>fun _ _ _ _ r h=>by simp [qaq.l0] at h
 | k+1=>by
  have ih0:=qaq.mono_l k
  ·intro y0 y1 y2 y3
   unfold qaq.l0
   repeat' first|(with_reducible exact ih0 _ _ _ _)|(with_reducible exact LeO.refl _)|(with_reducible refine LeO.ite ?_ ?_)
theorem qaq.mono:∀ a0 a1 a2 k,LeO (qaq.f k a0 a1 a2) (qaq.f (k+1) a0 a1 a2):=by
 intro a0 a1 a2 k
 have ih0:=qaq.mono_l k
 unfold qaq.f
 repeat' first|(with_reducible exact ih0 _ _ _ _)|(with_reducible exact qan.mono _ _ _ _ _ _)|(with_reducible exact LeO.refl _)|(with_reducible refine LeO.ite ?_ ?_)|(with_reducible refine LeO.bind ?_ (fun _=>?_))
set_option maxHeartbeats 8000000 in
set_option maxRecDepth 100000 in
theorem qaq.calls (k:Nat) (a0_0:Bool) (a0_1:Int) (A0_2:Option Addr) (c0_2:Nat) (l0_2:List (S60)) (r:List Int) (w:World) (hr0_2:Kd.C k60 w A0_2 l0_2.length l0_2) (hc0_2:l0_2.length≤c0_2) (h:qaq.f k a0_0 a0_1 l0_2=some r) :
  Calls Tryd.prog 20 #[.agg #[.bool a0_0,.int .i64 a0_1,.slice A0_2 l0_2.length c0_2]] w fun e w'=>∃ v0_:Value,e=.returned (v0_)∧Kd.R (Kd.int .i64) 3 w' w.heap.size (fun _=>True) v0_ r∧Below w.heap.size w w':=by
 have hu24:=Tryd.underlying24
 have HR0_2:=qaa.mk hr0_2
 have HC0_2:=qaa.mk hc0_2
 clear hr0_2 hc0_2
 have HB:=qaa.mk (Below.refl w.heap.size w)
 have H:(if (l0_2.length:Int)=0 then (some ([]:List Int)) else ((qan.f k a0_0 a0_1 l0_2 0 ([]:List Int)).bind fun bt444=>(qaq.l0 k bt444.1 ([]:List Int) (bt444.1.length:Int) 0)))=some r:=h
 clear h
 by_cases c2:(l0_2.length:Int)=0
 ·rw [if_pos c2] at H
  have c2b0:((l0_2.length:Int)==0)=true:=beq_iff_eq.mpr c2
  have c2b1:((l0_2.length:Int)!=0)=false:=bne_eq_false_iff_eq.mpr c2
  clear c2
  obtain rfl:=Option.some.inj H
  go_enter Tryd.func20,Tryd.ntmps20
  go_wp2_with (((with_reducible refine qbf (N:=1) rfl ?_);refine qbj ?hg (N:=1) ?hd (cs:=#[.bool a0_0,.int .i64 a0_1,.slice A0_2 l0_2.length c0_2]) (t:=24) ?hr ?_;(case hd=>rfl);(case hg=>rfl);(case hr=>(go_simp;done));intro gb443 hg w3 hbox hb;have BK443:=qaa.mk (hbox);have GW443:=qaa.mk ((by rw [hg];exact (qac HB.out):w.heap.size≤gb443));have GE443:=qaa.mk ((by rw [hg];exact (qac HB.out):w.heap.size≤gb443));replace HB:=qaa.mk (qak HB.out hb);clear hb hbox hg;have hcz4_0:w3.cell? ⟨gb443,0,none⟩=some (.bool a0_0):=(qae BK443.out 0).trans rfl;have hcz4_1:w3.cell? ⟨gb443,1,none⟩=some (.int .i64 a0_1):=(qae BK443.out 1).trans rfl;have hcz4_2:w3.cell? ⟨gb443,2,none⟩=some (.slice A0_2 l0_2.length c0_2):=(qae BK443.out 2).trans rfl;have hfz4_0:=qaf BK443.out 0;have hfz4_1:=qaf BK443.out 1;have hfz4_2:=qaf BK443.out 2))
  go_ret
  exact ⟨_,by rfl,by exact Kd.R_nil _ _ _ _ _,by repeat ((with_reducible exact HB.out))⟩
 ·rw [if_neg c2] at H
  have c2b0:((l0_2.length:Int)==0)=false:=beq_eq_false_iff_ne.mpr c2
  have c2b1:((l0_2.length:Int)!=0)=true:=bne_iff_ne.mpr c2
  have c2b2:¬ (l0_2=[]):=fun h_=>c2 (by rw [h_];rfl)
  replace H:=Option.bind_eq_some_iff.mp H
  obtain ⟨⟨t444,t447⟩,A50,H⟩:=H
  replace H:(qaq.l0 k t444 ([]:List Int) (t444.length:Int) 0)=some r:=H
  have A5:=qaa.mk A50
  clear A50
  have H':=qaa.mk H
  clear H
  go_enter Tryd.func20,Tryd.ntmps20
  go_wp2_with (first|((with_reducible refine qbf (N:=1) rfl ?_);refine qbj ?hg (N:=1) ?hd (cs:=#[.bool a0_0,.int .i64 a0_1,.slice A0_2 l0_2.length c0_2]) (t:=24) ?hr ?_;(case hd=>rfl);(case hg=>rfl);(case hr=>(go_simp;done));intro gb443 hg w6 hbox hb;have BK443:=qaa.mk (hbox);have GW443:=qaa.mk ((by rw [hg];exact (qac HB.out):w.heap.size≤gb443));have GE443:=qaa.mk ((by rw [hg];exact (qac HB.out):w.heap.size≤gb443));replace HB:=qaa.mk (qak HB.out hb);clear hb hbox hg;have hcz7_0:w6.cell? ⟨gb443,0,none⟩=some (.bool a0_0):=(qae BK443.out 0).trans rfl;have hcz7_1:w6.cell? ⟨gb443,1,none⟩=some (.int .i64 a0_1):=(qae BK443.out 1).trans rfl;have hcz7_2:w6.cell? ⟨gb443,2,none⟩=some (.slice A0_2 l0_2.length c0_2):=(qae BK443.out 2).trans rfl;have hfz7_0:=qaf BK443.out 0;have hfz7_1:=qaf BK443.out 1;have hfz7_2:=qaf BK443.out 2)|((with_reducible refine qbg (f:=51) rfl ?_);refine qcx (some 13) rfl rfl Tryd.func51 (by kernel_rfl) rfl #[.agg #[.bool a0_0,.int .i64 a0_1,.slice A0_2 l0_2.length c0_2],.int .i64 0,.slice none 0 0] rfl (by (try simp only [List.map_toArray,List.map_cons,List.map_nil]);rfl) ?_;(refine (qan.calls k a0_0 a0_1 _ _ l0_2 0 (fun k_=>some k_=(.slice none 0 0:Value).ownBlock) (.slice none 0 0) ([]:List Int) t444 t447 w _ ?side1 ?side2 ?side3 ?side4 A5.out).mono ?_);(case side1=>repeat ((with_reducible exact HB.out)));(case side2=>exact Kd.C_kept_came k60_heap HR0_2.out HB.out (fun k_ hs_=>(fun e_=>by simp [Value.ownBlock] at e_) hs_));(case side3=>exact HC0_2.out);(case side4=>exact Kd.R_nil _ _ _ _ _);rintro e w8 ⟨v445,v448,rfl,ho0,ho1,hb,hkp⟩;refine ⟨_,rfl,?_⟩;replace BK443:=qaa.mk (qdy (by (with_reducible repeat (refine qab ?_));exact BK443.out) hkp (fun hs_=>(fun e_=>by simp [Value.ownBlock] at e_) hs_));have HO446:=qaa.mk (Kd.R_mono (ok':=fun k_=>some k_≠(v448:Value).ownBlock) ho0 (fun k_ hk_=>hk_.2));have HO449:=qaa.mk (Kd.R_mono (ok':=fun k_=>some k_≠(v445:Value).ownBlock) ho1 (fun k_ hk_=>hk_.2));replace HB:=qaa.mk (hb);(try clear hb);(try clear hkp);(try clear ho0);(try clear ho1);obtain ⟨Ao9,co9,eo9⟩:=Kd.R_slice HO446.out;subst eo9))
  go_loopg [5,18] k (fun kq v5 v18 w'=>∃ (x5_1:List Int) (x18_1:Int),v18=.int .i64 x18_1∧qaa (qaq.l0 kq t444 x5_1 (t444.length:Int) x18_1=some r)∧qaa (kq≤k)∧qaa (Kd.R (Kd.int .i64) 3 w' w.heap.size (fun k_=>some k_≠(v5:Value).ownBlock) (.slice Ao9 t444.length co9) t444)∧qaa (Kd.R (Kd.int .i64) 3 w' w.heap.size (fun k_=>some k_≠((.slice Ao9 t444.length co9):Value).ownBlock) v5 x5_1)∧qaa (w'.heap[gb443]?=some (.cells #[.bool a0_0,.int .i64 a0_1,(.slice A0_2 l0_2.length c0_2)] 24 (0,0)))∧qaa (Below w.heap.size w w'))
  case atStart=>exact ⟨(([]:List Int)),(0),(by rfl),H',⟨Nat.le_refl _⟩,⟨by (with_reducible repeat (apply Kd.R_drew));exact Kd.R_mono HO446.out (fun _ hk=>(by simp [Value.ownBlock]))⟩,⟨by exact Kd.R_nil _ _ _ _ _⟩,⟨by (with_reducible repeat (refine qab ?_));exact BK443.out⟩,⟨by repeat ((with_reducible exact HB.out))⟩⟩
  case round=>
   clear H'
   try clear c2
   try clear c2b0
   try clear c2b1
   try clear c2b2
   try clear hcz7_0
   try clear hcz7_1
   try clear hcz7_2
   try clear hfz7_0
   try clear hfz7_1
   try clear hfz7_2
   obtain ⟨x5_1,x18_1,rfl,HA,HK1,HO_3,HO_5,BK443,HB⟩:=hrel
   cases gk with
   | zero=>exact absurd HA.out (by simp [qaq.l0])
   | succ k1=>
    have H:=HA.out
    clear HA
    simp only [qaq.l0] at H
    by_cases c10:x18_1<(t444.length:Int)
    ·rw [if_pos c10] at H
     have c10b0:decide (x18_1<(t444.length:Int))=true:=decide_eq_true c10
     clear c10
     obtain ⟨ji11,hji11⟩:∃ j_:Int,(wrap64 ((wrap64 ((t444.length:Int)-1))-x18_1))=j_:=⟨_,rfl⟩
     replace H:(if 0≤(ji11) then (if (ji11)<(t444.length:Int) then (if x5_1.length<17592186044416 then (qaq.l0 k1 t444 (x5_1++[rd t444 (ji11)]) (t444.length:Int) (wrap64 (x18_1+1))) else (none)) else (none)) else (none))=some r:=by (rw [hji11] at H;exact H)
     have hji11w:(IntKind.i64.wrap ((wrap64 ((t444.length:Int)-1))-x18_1))=ji11:=(qbo _).trans hji11
     by_cases c12:0≤(ji11)
     ·rw [if_pos c12] at H
      have c12b0:decide (0≤(ji11))=true:=decide_eq_true c12
      clear c12
      by_cases c13:(ji11)<(t444.length:Int)
      ·rw [if_pos c13] at H
       have c13b0:decide ((ji11)<(t444.length:Int))=true:=decide_eq_true c13
       clear c13
       by_cases c14:x5_1.length<17592186044416
       ·rw [if_pos c14] at H
        have LMc14:=qaa.mk c14
        clear c14
        obtain ⟨y451,hy451⟩:∃ y_:List Int,y_=(x5_1++[rd t444 (ji11)]):=⟨_,rfl⟩
        replace H:(qaq.l0 k1 t444 y451 (t444.length:Int) (wrap64 (x18_1+1)))=some r:=by (rw [hy451];with_reducible exact H)
        have Ny451:=qaa.mk hy451
        clear hy451
        have H':=qaa.mk H
        clear H
        have p450:0≤((ji11):Int):=of_decide_eq_true (by (with_reducible assumption))
        have q450:(ji11)<(t444.length:Int):=of_decide_eq_true (by (with_reducible assumption))
        obtain ⟨ad450,e450,hx450_0⟩:=Kd.at_int (Kd.R_reads' HO_3.out).2.2 (ji11) p450 q450
        cases e450
        replace p450:=eq_true p450
        replace q450:=eq_true q450
        go_wp2_with (((with_reducible refine qdm (b:=.append) (xs:=#[.tmp 21,.tmp 30]) rfl ?_);at_builtin;refine Kd.R_append (Kd.int .i64) (w0:=w) w.heap.size rfl (.tmp 21) (.tmp 30) 31 3 (.int .i64 0) 8 rfl Tryd.underlying31 qgn rfl (by decide) (by omega) u5 x5_1 (rd t444 (ji11)) [.int .i64 (rd t444 (ji11))] (fun k_=>some k_≠(.slice (some ad450) t444.length co9:Value).ownBlock) (fun _=>False) rfl rfl ?aP (fun _ hk=>hk.elim) ?aF ?aO ?aB ?aS ?aL ?_;(case aP=>exact rfl);(case aB=>exact HB.out);(case aF=>exact (fun k_ hk=>Kd.fresh' (Kd.R_lt (by (with_reducible repeat (apply Kd.R_drew));exact HO_3.out)) k_ hk));(case aO=>exact (by (with_reducible repeat (apply Kd.R_drew));exact HO_5.out));(case aS=>exact (qac HB.out));(case aL=>have:=LMc14.out;omega);intro v452 w15 ho hb hg hat;rw [← Ny451.out] at ho;have n0_:=qaa.mk (Kd.R_after (ok:=(fun _=>True)) (by (with_reducible repeat (apply Kd.R_drew));exact Kd.R_mono HO_3.out (fun _ hk=>⟨trivial,hk⟩)) hg hat);have n1_:=qaa.mk (qdf (g:=gb443) (o:=.cells #[.bool a0_0,.int .i64 a0_1,.slice A0_2 l0_2.length c0_2] 24 (0,0)) (by (with_reducible repeat (refine qab ?_));exact BK443.out) hg (Kd.R_ne HO_5.out BK443.out (by decide)));have n2_:=qaa.mk (hb);have n3_:=qaa.mk (ho);clear HO_3;clear BK443;clear HB;clear HO_5;have HO_3:=n0_;have BK443:=n1_;have HB:=n2_;have HO453:=n3_;clear n0_ n1_ n2_ n3_;clear ho hb hg hat))
        go_roundg k1
        case measure=>have:=HK1.out;omega
        case rel=>exact ⟨(y451),(wrap64 (x18_1+1)),(by rfl),H',⟨by have:=HK1.out;omega⟩,⟨by (with_reducible repeat (apply Kd.R_drew));exact Kd.R_mono HO_3.out (fun _ hk=>hk.2)⟩,⟨by (with_reducible repeat (apply Kd.R_drew));exact HO453.out⟩,⟨by (with_reducible repeat (refine qab ?_));exact BK443.out⟩,⟨by repeat ((with_reducible exact HB.out))⟩⟩
       ·rw [if_neg c14] at H
        exact absurd H (by simp)
      ·rw [if_neg c13] at H
       exact absurd H (by simp)
     ·rw [if_neg c12] at H
      exact absurd H (by simp)
    ·rw [if_neg c10] at H
     have c10b0:decide (x18_1<(t444.length:Int))=false:=decide_eq_false c10
     clear c10
     obtain rfl:=Option.some.inj H
     go_wp2
     go_ret
     exact ⟨_,by rfl,by (with_reducible repeat (apply Kd.R_drew));exact Kd.R_mono HO_5.out (fun _ hk=>trivial),by repeat ((with_reducible exact HB.out))⟩
end Go.Proofs.YtmfjmbcfaamebaaDoor.X
namespace Go.Proofs.YtmfjmbcfaamebaaDoor.X
noncomputable section
open Go.RowKit Go.Proofs.YtmfjmbcfaamebaaDoorW.PrintWords Go.Proofs.YtmfjmbcfaamebaaDoorW.PrintLast Go.Proofs.YtmfjmbcfaamebaaDoorW.PrintMore
attribute [local go_sem] qbp qbz
set_option linter.unusedVariables false
set_option linter.unusedSimpArgs false
def qcp.f (k:Nat) (a0_0:Bool) (a0_1:Int) (l0_2:List (S60)):Option (Bool):=(qbw.f k).bind fun t455=>(if t455=true then ((qaw.f k a0_0 a0_1 l0_2).bind fun t456=>(if t456=true then ((qco.f k a0_0 a0_1 l0_2).bind fun t457=>((qaq.f k a0_0 a0_1 l0_2).bind fun t460=>((qaj.f k t457 t460).bind fun t463=>(some t463)))) else (some true))) else (some false))
theorem qcp.mono:∀ a0 a1 a2 k,LeO (qcp.f k a0 a1 a2) (qcp.f (k+1) a0 a1 a2):=by
 intro a0 a1 a2 k
 unfold qcp.f
 repeat' first|(with_reducible exact qco.mono _ _ _ _)|(with_reducible exact qbw.mono _)|(with_reducible exact qaj.mono _ _ _)|(with_reducible exact qaq.mono _ _ _ _)|(with_reducible exact qaw.mono _ _ _ _)|(with_reducible exact LeO.refl _)|(with_reducible refine LeO.ite ?_ ?_)|(with_reducible refine LeO.bind ?_ (fun _=>?_))
set_option maxHeartbeats 8000000 in
set_option maxRecDepth 100000 in
theorem qcp.calls (k:Nat) (a0_0:Bool) (a0_1:Int) (A0_2:Option Addr) (c0_2:Nat) (l0_2:List (S60)) (r:Bool) (w:World) (hT:TabW w) (hr0_2:Kd.C k60 w A0_2 l0_2.length l0_2) (hc0_2:l0_2.length≤c0_2) (h:qcp.f k a0_0 a0_1 l0_2=some r) :
  Calls Tryd.prog 4 #[.agg #[.bool a0_0,.int .i64 a0_1,.slice A0_2 l0_2.length c0_2]] w fun e w'=>e=.returned (.bool r)∧Below w.heap.size w w':=by
 have hu24:=Tryd.underlying24
 have HR0_2:=qaa.mk hr0_2
 have HC0_2:=qaa.mk hc0_2
 clear hr0_2 hc0_2
 have HTB:=qaa.mk hT
 clear hT
 have HB:=qaa.mk (Below.refl w.heap.size w)
 have H:((qbw.f k).bind fun t455=>(if t455=true then ((qaw.f k a0_0 a0_1 l0_2).bind fun t456=>(if t456=true then ((qco.f k a0_0 a0_1 l0_2).bind fun t457=>((qaq.f k a0_0 a0_1 l0_2).bind fun t460=>((qaj.f k t457 t460).bind fun t463=>(some t463)))) else (some true))) else (some false)))=some r:=h
 clear h
 replace H:=Option.bind_eq_some_iff.mp H
 obtain ⟨t455,A20,H⟩:=H
 replace H:(if t455=true then ((qaw.f k a0_0 a0_1 l0_2).bind fun t456=>(if t456=true then ((qco.f k a0_0 a0_1 l0_2).bind fun t457=>((qaq.f k a0_0 a0_1 l0_2).bind fun t460=>((qaj.f k t457 t460).bind fun t463=>(some t463)))) else (some true))) else (some false))=some r:=H
 have A2:=qaa.mk A20
 clear A20
 by_cases c3:t455=true
 ·subst c3
  have H1:((qaw.f k a0_0 a0_1 l0_2).bind fun t456=>(if t456=true then ((qco.f k a0_0 a0_1 l0_2).bind fun t457=>((qaq.f k a0_0 a0_1 l0_2).bind fun t460=>((qaj.f k t457 t460).bind fun t463=>(some t463)))) else (some true)))=some r:=by rw [if_pos rfl] at H;exact H
  clear H
  have H:=H1
  clear H1
  replace H:=Option.bind_eq_some_iff.mp H
  obtain ⟨t456,A40,H⟩:=H
  replace H:(if t456=true then ((qco.f k a0_0 a0_1 l0_2).bind fun t457=>((qaq.f k a0_0 a0_1 l0_2).bind fun t460=>((qaj.f k t457 t460).bind fun t463=>(some t463)))) else (some true))=some r:=H
  have A4:=qaa.mk A40
  clear A40
  by_cases c5:t456=true
  ·subst c5
   have H1:((qco.f k a0_0 a0_1 l0_2).bind fun t457=>((qaq.f k a0_0 a0_1 l0_2).bind fun t460=>((qaj.f k t457 t460).bind fun t463=>(some t463))))=some r:=by rw [if_pos rfl] at H;exact H
   clear H
   have H:=H1
   clear H1
   replace H:=Option.bind_eq_some_iff.mp H
   obtain ⟨t457,A60,H⟩:=H
   replace H:((qaq.f k a0_0 a0_1 l0_2).bind fun t460=>((qaj.f k t457 t460).bind fun t463=>(some t463)))=some r:=H
   have A6:=qaa.mk A60
   clear A60
   replace H:=Option.bind_eq_some_iff.mp H
   obtain ⟨t460,A70,H⟩:=H
   replace H:((qaj.f k t457 t460).bind fun t463=>(some t463))=some r:=H
   have A7:=qaa.mk A70
   clear A70
   replace H:=Option.bind_eq_some_iff.mp H
   obtain ⟨t463,A80,H⟩:=H
   replace H:(some t463)=some r:=H
   have A8:=qaa.mk A80
   clear A80
   obtain rfl:=Option.some.inj H
   go_enter Tryd.func4,Tryd.ntmps4
   try go_wp2_with (first|((with_reducible refine qbf (N:=1) rfl ?_);refine qbj ?hg (N:=1) ?hd (cs:=#[.bool a0_0,.int .i64 a0_1,.slice A0_2 l0_2.length c0_2]) (t:=24) ?hr ?_;(case hd=>rfl);(case hg=>rfl);(case hr=>(go_simp;done));intro gb454 hg w9 hbox hb;have BK454:=qaa.mk (hbox);have GW454:=qaa.mk ((by rw [hg];exact (qac HB.out):w.heap.size≤gb454));have GE454:=qaa.mk ((by rw [hg];exact (qac HB.out):w.heap.size≤gb454));replace HB:=qaa.mk (qak HB.out hb);clear hb hbox hg)|((with_reducible refine qbg (f:=11) rfl ?_);refine qcx (some 3) rfl rfl Tryd.func11 (by kernel_rfl) rfl #[] rfl (by (try simp only [List.map_toArray,List.map_cons,List.map_nil]);done) ?_;(with_reducible refine (qbw.calls k  true _ ?side1 A2.out).mono ?_);(case side1=>exact TabW.below' HTB.out HB.out);rintro e w10 ⟨rfl,hb⟩;refine ⟨_,rfl,?_⟩;replace BK454:=qaa.mk (qag (g:=gb454) (o:=.cells #[.bool a0_0,.int .i64 a0_1,.slice A0_2 l0_2.length c0_2] 24 (0,0)) (by (with_reducible repeat (refine qab ?_));exact BK454.out) hb);replace HB:=qaa.mk (qak HB.out hb);(try clear hb);have hcz11_0:w10.cell? ⟨gb454,0,none⟩=some (.bool a0_0):=(qae BK454.out 0).trans rfl;have hcz11_1:w10.cell? ⟨gb454,1,none⟩=some (.int .i64 a0_1):=(qae BK454.out 1).trans rfl;have hcz11_2:w10.cell? ⟨gb454,2,none⟩=some (.slice A0_2 l0_2.length c0_2):=(qae BK454.out 2).trans rfl;have hfz11_0:=qaf BK454.out 0;have hfz11_1:=qaf BK454.out 1;have hfz11_2:=qaf BK454.out 2)|((with_reducible refine qbg (f:=12) rfl ?_);refine qcx (some 6) rfl rfl Tryd.func12 (by kernel_rfl) rfl #[.agg #[.bool a0_0,.int .i64 a0_1,.slice A0_2 l0_2.length c0_2]] rfl (by (try simp only [List.map_toArray,List.map_cons,List.map_nil]);rfl) ?_;(with_reducible refine (qaw.calls k a0_0 a0_1 _ _ l0_2 true _ ?side1 ?side2 A4.out).mono ?_);(case side1=>repeat (exact (Kd.C_below HR0_2.out HB.out)));(case side2=>exact HC0_2.out);rintro e w12 ⟨rfl,hb⟩;refine ⟨_,rfl,?_⟩;replace BK454:=qaa.mk (qag (g:=gb454) (o:=.cells #[.bool a0_0,.int .i64 a0_1,.slice A0_2 l0_2.length c0_2] 24 (0,0)) (by (with_reducible repeat (refine qab ?_));exact BK454.out) hb);replace HB:=qaa.mk (qak HB.out hb);(try clear hb)))
   have n0_:=qaa.mk (qab BK454.out)
   have n1_:=qaa.mk (qdl HB.out)
   clear BK454
   clear HB
   have BK454:=n0_
   have HB:=n1_
   clear n0_ n1_
   refine qfj (n:=6) (S:=fun w'=>w'.cell? ⟨gb454,0,none⟩=some (.bool a0_0)∧w'.cell? ⟨gb454,1,none⟩=some (.int .i64 a0_1)∧w'.cell? ⟨gb454,2,none⟩=some (.slice A0_2 l0_2.length c0_2)) (ds:=[]) #[false,false,false,false,false,false] (by kernel_rfl) rfl rfl ⟨(qae BK454.out 0).trans rfl,(qae BK454.out 1).trans rfl,(qae BK454.out 2).trans rfl⟩ (fun hHeld=>?_)
   generalize w12.drew=w13 at BK454 HB hHeld ⊢
   refine take_ (i:=0) (N:=some 8) (v:=?_) (a':=?_) #[true,false,false,false,false,false] rfl rfl (by kernel_rfl) (fun _ _ _ h=>h) (Or.inl ⟨by rfl,?_⟩) hHeld ?_ ?_
   rotate_left
   ·rintro w' ⟨s0,s1,s2⟩
    go_simp
    with_reducible rfl
   rotate_left
   ·simp only [Act.put,List.setIfInBounds_toArray,List.set_cons_zero,List.set_cons_succ,qbo,qbr]
    rfl
   refine take_ (i:=2) (N:=some 10) (v:=?_) (a':=?_) #[true,false,true,false,false,false] rfl rfl (by kernel_rfl) (fun _ _ _ h=>h) (Or.inl ⟨by rfl,?_⟩) hHeld ?_ ?_
   rotate_left
   ·rintro w' ⟨s0,s1,s2⟩
    go_simp
    with_reducible rfl
   rotate_left
   ·simp only [Act.put,List.setIfInBounds_toArray,List.set_cons_zero,List.set_cons_succ,qbo,qbr]
    rfl
   refine one_ (i:=1) (N:=some 9) #[true,true,true,false,false,false] rfl rfl (by kernel_rfl) (by decide) (fun K hK=>?_)
   refine qen Tryd.func19 (by kernel_rfl) rfl #[.agg #[.bool a0_0,.int .i64 a0_1,.slice A0_2 l0_2.length c0_2]] (by rfl) rfl rfl (by (try simp only [List.map_toArray,List.map_cons,List.map_nil]);rfl) ?_
   with_reducible refine (qco.calls k a0_0 a0_1 _ _ l0_2 t457 _ ?side1 ?side2 A6.out).mono ?_
   (case side1=>repeat (exact (Kd.C_below HR0_2.out HB.out)))
   (case side2=>exact HC0_2.out)
   rintro e w14 ⟨v458,rfl,ho0,hb⟩
   refine ⟨_,rfl,?_⟩
   have n0_:=qaa.mk (Kd.R_lower ho0 (qac HB.out))
   have n1_:=qaa.mk (qag (g:=gb454) (o:=.cells #[.bool a0_0,.int .i64 a0_1,.slice A0_2 l0_2.length c0_2] 24 (0,0)) (by (with_reducible repeat (refine qab ?_));exact BK454.out) hb)
   have n2_:=qaa.mk (qak HB.out hb)
   clear BK454
   clear HB
   have HO459:=n0_
   have BK454:=n1_
   have HB:=n2_
   clear n0_ n1_ n2_
   (try clear hb)
   (try clear ho0)
   refine hK.out _ _ ⟨(qae BK454.out 0).trans rfl,(qae BK454.out 1).trans rfl,(qae BK454.out 2).trans rfl⟩ (fun hHeld=>?_)
   clear hK K
   refine qds (a':=?_) ?_ ?_
   rotate_left
   ·show Act.put _ (some 9) _=_
    simp only [Act.put,List.setIfInBounds_toArray,List.set_cons_zero,List.set_cons_succ,qbo,qbr]
    rfl
   refine one_ (i:=3) (N:=some 11) #[true,true,true,true,false,false] rfl rfl (by kernel_rfl) (by decide) (fun K hK=>?_)
   refine qen Tryd.func20 (by kernel_rfl) rfl #[.agg #[.bool a0_0,.int .i64 a0_1,.slice A0_2 l0_2.length c0_2]] (by rfl) rfl rfl (by (try simp only [List.map_toArray,List.map_cons,List.map_nil]);rfl) ?_
   with_reducible refine (qaq.calls k a0_0 a0_1 _ _ l0_2 t460 _ ?side1 ?side2 A7.out).mono ?_
   (case side1=>repeat (exact (Kd.C_below HR0_2.out HB.out)))
   (case side2=>exact HC0_2.out)
   rintro e w15 ⟨v461,rfl,ho0,hb⟩
   refine ⟨_,rfl,?_⟩
   have n0_:=qaa.mk (Kd.R_elder' (by (with_reducible repeat (apply Kd.R_drew));exact HO459.out) (Kd.R_base ho0) hb)
   have n1_:=qaa.mk (Kd.R_lower (Kd.R_new' ho0 (Kd.R_lt (by (with_reducible repeat (apply Kd.R_drew));exact HO459.out))) (qac HB.out))
   have n2_:=qaa.mk (qag (g:=gb454) (o:=.cells #[.bool a0_0,.int .i64 a0_1,.slice A0_2 l0_2.length c0_2] 24 (0,0)) (by (with_reducible repeat (refine qab ?_));exact BK454.out) hb)
   have n3_:=qaa.mk (qak HB.out hb)
   clear HO459
   clear BK454
   clear HB
   have HO459:=n0_
   have HO462:=n1_
   have BK454:=n2_
   have HB:=n3_
   clear n0_ n1_ n2_ n3_
   (try clear hb)
   (try clear ho0)
   obtain ⟨Ao16,co16,eo16⟩:=Kd.R_slice HO459.out
   (subst eo16)
   obtain ⟨Ao17,co17,eo17⟩:=Kd.R_slice HO462.out
   (subst eo17)
   refine hK.out _ _ ⟨(qae BK454.out 0).trans rfl,(qae BK454.out 1).trans rfl,(qae BK454.out 2).trans rfl⟩ (fun hHeld=>?_)
   clear hK K
   refine qds (a':=?_) ?_ ?_
   rotate_left
   ·show Act.put _ (some 11) _=_
    simp only [Act.put,List.setIfInBounds_toArray,List.set_cons_zero,List.set_cons_succ,qbo,qbr]
    rfl
   refine one_ (i:=4) (N:=some 12) #[true,true,true,true,true,false] rfl rfl (by kernel_rfl) (by decide) (fun K hK=>?_)
   refine qen Tryd.func18 (by kernel_rfl) rfl #[.slice Ao16 t457.length co16,.slice Ao17 t460.length co17] (by rfl) rfl rfl (by (try simp only [List.map_toArray,List.map_cons,List.map_nil]);rfl) ?_
   with_reducible refine (qaj.calls k _ _ t457 _ _ t460 t463 _ ?side1 ?side2 ?side3 ?side4 A8.out).mono ?_
   (case side1=>repeat (exact (Kd.R_reads' HO459.out).2.2))
   (case side2=>exact (Kd.R_reads' HO459.out).2.1)
   (case side3=>repeat (exact (Kd.R_reads' HO462.out).2.2))
   (case side4=>exact (Kd.R_reads' HO462.out).2.1)
   rintro e w' ⟨rfl,⟨nd,rfl⟩⟩
   refine ⟨_,rfl,?_⟩
   refine hK.out _ _ ⟨(qae BK454.out 0).trans rfl,(qae BK454.out 1).trans rfl,(qae BK454.out 2).trans rfl⟩ (fun hHeld=>?_)
   clear hK K
   refine qds (a':=?_) ?_ ?_
   rotate_left
   ·show Act.put _ (some 12) _=_
    simp only [Act.put,List.setIfInBounds_toArray,List.set_cons_zero,List.set_cons_succ,qbo,qbr]
    rfl
   refine qdc (i:=5) (N:=some 2) (v:=?_) (a':=?_) #[true,true,true,true,true,true] rfl rfl (by kernel_rfl) (fun _ _ _ h=>h) (Or.inl ⟨by rfl,?_⟩) ?_ ?_
   rotate_left
   ·intro w'
    go_simp
    with_reducible rfl
   rotate_left
   ·simp only [Act.put,List.setIfInBounds_toArray,List.set_cons_zero,List.set_cons_succ,qbo,qbr]
    rfl
   refine qgm (by kernel_rfl) ?_
   try go_wp2
   go_ret
   exact ⟨by rfl,by repeat ((with_reducible first|exact HB.out|apply qbe))⟩
  ·replace c5:=Bool.eq_false_iff.mpr c5
   subst c5
   have H1:(some true)=some r:=by rw [if_neg (show ¬ (false=true) by decide)] at H;exact H
   clear H
   have H:=H1
   clear H1
   obtain rfl:=Option.some.inj H
   go_enter Tryd.func4,Tryd.ntmps4
   go_wp2_with (first|((with_reducible refine qbf (N:=1) rfl ?_);refine qbj ?hg (N:=1) ?hd (cs:=#[.bool a0_0,.int .i64 a0_1,.slice A0_2 l0_2.length c0_2]) (t:=24) ?hr ?_;(case hd=>rfl);(case hg=>rfl);(case hr=>(go_simp;done));intro gb454 hg w18 hbox hb;have BK454:=qaa.mk (hbox);have GW454:=qaa.mk ((by rw [hg];exact (qac HB.out):w.heap.size≤gb454));have GE454:=qaa.mk ((by rw [hg];exact (qac HB.out):w.heap.size≤gb454));replace HB:=qaa.mk (qak HB.out hb);clear hb hbox hg)|((with_reducible refine qbg (f:=11) rfl ?_);refine qcx (some 3) rfl rfl Tryd.func11 (by kernel_rfl) rfl #[] rfl (by (try simp only [List.map_toArray,List.map_cons,List.map_nil]);done) ?_;(with_reducible refine (qbw.calls k  true _ ?side1 A2.out).mono ?_);(case side1=>exact TabW.below' HTB.out HB.out);rintro e w19 ⟨rfl,hb⟩;refine ⟨_,rfl,?_⟩;replace BK454:=qaa.mk (qag (g:=gb454) (o:=.cells #[.bool a0_0,.int .i64 a0_1,.slice A0_2 l0_2.length c0_2] 24 (0,0)) (by (with_reducible repeat (refine qab ?_));exact BK454.out) hb);replace HB:=qaa.mk (qak HB.out hb);(try clear hb);have hcz20_0:w19.cell? ⟨gb454,0,none⟩=some (.bool a0_0):=(qae BK454.out 0).trans rfl;have hcz20_1:w19.cell? ⟨gb454,1,none⟩=some (.int .i64 a0_1):=(qae BK454.out 1).trans rfl;have hcz20_2:w19.cell? ⟨gb454,2,none⟩=some (.slice A0_2 l0_2.length c0_2):=(qae BK454.out 2).trans rfl;have hfz20_0:=qaf BK454.out 0;have hfz20_1:=qaf BK454.out 1;have hfz20_2:=qaf BK454.out 2)|((with_reducible refine qbg (f:=12) rfl ?_);refine qcx (some 6) rfl rfl Tryd.func12 (by kernel_rfl) rfl #[.agg #[.bool a0_0,.int .i64 a0_1,.slice A0_2 l0_2.length c0_2]] rfl (by (try simp only [List.map_toArray,List.map_cons,List.map_nil]);rfl) ?_;(with_reducible refine (qaw.calls k a0_0 a0_1 _ _ l0_2 false _ ?side1 ?side2 A4.out).mono ?_);(case side1=>repeat (exact (Kd.C_below HR0_2.out HB.out)));(case side2=>exact HC0_2.out);rintro e w21 ⟨rfl,hb⟩;refine ⟨_,rfl,?_⟩;replace BK454:=qaa.mk (qag (g:=gb454) (o:=.cells #[.bool a0_0,.int .i64 a0_1,.slice A0_2 l0_2.length c0_2] 24 (0,0)) (by (with_reducible repeat (refine qab ?_));exact BK454.out) hb);replace HB:=qaa.mk (qak HB.out hb);(try clear hb)))
   go_ret
   exact ⟨by rfl,by repeat ((with_reducible exact HB.out))⟩
 ·replace c3:=Bool.eq_false_iff.mpr c3
  subst c3
  have H1:(some false)=some r:=by rw [if_neg (show ¬ (false=true) by decide)] at H;exact H
  clear H
  have H:=H1
  clear H1
  obtain rfl:=Option.some.inj H
  go_enter Tryd.func4,Tryd.ntmps4
  go_wp2_with (first|((with_reducible refine qbf (N:=1) rfl ?_);refine qbj ?hg (N:=1) ?hd (cs:=#[.bool a0_0,.int .i64 a0_1,.slice A0_2 l0_2.length c0_2]) (t:=24) ?hr ?_;(case hd=>rfl);(case hg=>rfl);(case hr=>(go_simp;done));intro gb454 hg w22 hbox hb;have BK454:=qaa.mk (hbox);have GW454:=qaa.mk ((by rw [hg];exact (qac HB.out):w.heap.size≤gb454));have GE454:=qaa.mk ((by rw [hg];exact (qac HB.out):w.heap.size≤gb454));replace HB:=qaa.mk (qak HB.out hb);clear hb hbox hg)|((with_reducible refine qbg (f:=11) rfl ?_);refine qcx (some 3) rfl rfl Tryd.func11 (by kernel_rfl) rfl #[] rfl (by (try simp only [List.map_toArray,List.map_cons,List.map_nil]);done) ?_;(with_reducible refine (qbw.calls k  false _ ?side1 A2.out).mono ?_);(case side1=>exact TabW.below' HTB.out HB.out);rintro e w23 ⟨rfl,hb⟩;refine ⟨_,rfl,?_⟩;replace BK454:=qaa.mk (qag (g:=gb454) (o:=.cells #[.bool a0_0,.int .i64 a0_1,.slice A0_2 l0_2.length c0_2] 24 (0,0)) (by (with_reducible repeat (refine qab ?_));exact BK454.out) hb);replace HB:=qaa.mk (qak HB.out hb);(try clear hb)))
  go_ret
  exact ⟨by rfl,by repeat ((with_reducible exact HB.out))⟩
end
end Go.Proofs.YtmfjmbcfaamebaaDoor.X
namespace Go.Proofs.YtmfjmbcfaamebaaDoor.X
open Go.RowKit Go.Proofs.YtmfjmbcfaamebaaDoorW.PrintWords Go.Proofs.YtmfjmbcfaamebaaDoorW.PrintLast Go.Proofs.YtmfjmbcfaamebaaDoorW.PrintMore
attribute [local go_sem] qbp qbz
set_option linter.unusedVariables false
set_option linter.unusedSimpArgs false
def qby.l0:Nat→List (List Int)→List (List Int)→Int→Int→Option (Bool)
 | 0,_,_,_,_=>none
 | k+1,x0,x1,x12,x13=>if x13<x12 then (if 0≤x13 then (if x13<(x0.length:Int) then (if x13<(x1.length:Int) then ((qaj.f k (qer x0 x13) (qer x1 x13)).bind fun t387=>(if t387=true then (qby.l0 k x0 x1 x12 (wrap64 (x13+1))) else (some false))) else (none)) else (none)) else (none)) else (some true)
def qby.f (k:Nat) (l0:List (List Int)) (l1:List (List Int)):Option (Bool):=if (l0.length:Int)=(l1.length:Int) then (qby.l0 k l0 l1 (l0.length:Int) 0) else (some false)
theorem qby.mono_l:∀ k,(∀ y0 y1 y2 y3,LeO (qby.l0 k y0 y1 y2 y3) (qby.l0 (k+1) y0 y1 y2 y3))
 | 0=>fun _ _ _ _ r h=>by simp [qby.l0] at h
 | k+1=>by
  have ih0:=qby.mono_l k
  ·intro y0 y1 y2 y3
   unfold qby.l0
   repeat' first
   | (with_reducible exact ih0 _ _ _ _)
   | (with_reducible exact qaj.mono _ _ _)
   | (with_reducible exact LeO.refl _)
   | (with_reducible exact LeO.none _)
   | (with_reducible refine LeO.ite ?_ ?_)
   | (with_reducible refine LeO.bind ?_ (fun _=>?_))
   | exact ih0 _ _ _ _
   | exact qaj.mono _ _ _
   | exact LeO.none _
   | refine LeO.ite ?_ ?_
   | refine LeO.bind ?_ (fun _=>?_)
theorem qby.mono:∀ a0 a1 k,LeO (qby.f k a0 a1) (qby.f (k+1) a0 a1):=by
 intro a0 a1 k
 have ih0:=qby.mono_l k
 unfold qby.f
 repeat' first
   | (with_reducible exact ih0 _ _ _ _)
   | (with_reducible exact qaj.mono _ _ _)
   | (with_reducible exact LeO.refl _)
   | (with_reducible exact LeO.none _)
   | (with_reducible refine LeO.ite ?_ ?_)
   | (with_reducible refine LeO.bind ?_ (fun _=>?_))
   | exact ih0 _ _ _ _
   | exact qaj.mono _ _ _
   | exact LeO.none _
   | refine LeO.ite ?_ ?_
   | refine LeO.bind ?_ (fun _=>?_)
end Go.Proofs.YtmfjmbcfaamebaaDoor.X
namespace Go.Proofs.YtmfjmbcfaamebaaDoor.X
open Go.RowKit Go.Proofs.YtmfjmbcfaamebaaDoorW.PrintWords Go.Proofs.YtmfjmbcfaamebaaDoorW.PrintLast Go.Proofs.YtmfjmbcfaamebaaDoorW.PrintMore
attribute [local go_sem] qbp qbz
set_option linter.unusedVariables false
set_option linter.unusedSimpArgs false
open Go.Shelf
def tricklelaw24_list.f (l0_0:List Int):Option (List Int):=if setOk l0_0=true∧(els l0_0).length<100000 then some (els l0_0) else none
end Go.Proofs.YtmfjmbcfaamebaaDoor.X
namespace Go.Proofs.YtmfjmbcfaamebaaDoor.X
open Go.RowKit Go.Proofs.YtmfjmbcfaamebaaDoorW.PrintWords Go.Proofs.YtmfjmbcfaamebaaDoorW.PrintLast Go.Proofs.YtmfjmbcfaamebaaDoorW.PrintMore
attribute [local go_sem] qbp qbz
set_option linter.unusedVariables false
set_option linter.unusedSimpArgs false
def qfk.f (a0:Int):Option (Bool):=if a0≥0 then (some (decide (a0≤65535))) else (some false)
end Go.Proofs.YtmfjmbcfaamebaaDoor.X
namespace Go.Proofs.YtmfjmbcfaamebaaDoor.X
open Go.RowKit Go.Proofs.YtmfjmbcfaamebaaDoorW.PrintWords Go.Proofs.YtmfjmbcfaamebaaDoorW.PrintLast Go.Proofs.YtmfjmbcfaamebaaDoorW.PrintMore
attribute [local go_sem] qbp qbz
set_option linter.unusedVariables false
set_option linter.unusedSimpArgs false
mutual
def qax.j0:Nat→List Int→Int→Bool→Option (List Int)
 | 0,_,_,_=>none
 | k+1,x0,x1,x14=>if x14=true then (some x0) else (qax.l0 k x0 x1 0)
def qax.l0:Nat→List Int→Int→Int→Option (List Int)
 | 0,_,_,_=>none
 | k+1,x0,x1,x5=>if x5<(x0.length:Int) then (if 0≤x5 then (if (rd x0 x5)<x1 then (qax.l0 k x0 x1 (wrap64 (x5+1))) else ((some (([]:List Int):List Int)).bind fun y236=>(if x5≤(x0.length:Int) then ((some (x0.take (x5:Int).toNat:List Int)).bind fun y239=>(if y236.length+y239.length<17592186044416 then ((some (y236++y239:List Int)).bind fun y243=>(if y243.length<17592186044416 then ((some (y243++[x1]:List Int)).bind fun y246=>((some (x0.drop (x5:Int).toNat:List Int)).bind fun y249=>(if y246.length+y249.length<17592186044416 then (some (y246++y249)) else (none)))) else (none))) else (none))) else (none)))) else (none)) else ((some (([]:List Int):List Int)).bind fun y256=>(if 0≤x5 then (if x5≤(x0.length:Int) then ((some (x0.take (x5:Int).toNat:List Int)).bind fun y259=>(if y256.length+y259.length<17592186044416 then ((some (y256++y259:List Int)).bind fun y263=>(if y263.length<17592186044416 then ((some (y263++[x1]:List Int)).bind fun y266=>((some (x0.drop (x5:Int).toNat:List Int)).bind fun y269=>(if y266.length+y269.length<17592186044416 then (some (y266++y269)) else (none)))) else (none))) else (none))) else (none)) else (none)))
end
def qax.f (k:Nat) (l0:List Int) (a1:Int):Option (List Int):=(qfk.f a1).bind fun t233=>(if t233=true then ((qar.f k l0 a1).bind fun t234=>(qax.j0 k l0 a1 t234)) else (qax.j0 k l0 a1 true))
theorem qax.mono_l:∀ k,(∀ y0 y1 y2,LeO (qax.j0 k y0 y1 y2) (qax.j0 (k+1) y0 y1 y2))∧(∀ y0 y1 y2,LeO (qax.l0 k y0 y1 y2) (qax.l0 (k+1) y0 y1 y2))
 | 0=>⟨fun _ _ _ r h=>by simp [qax.j0] at h,fun _ _ _ r h=>by simp [qax.l0] at h⟩
 | k+1=>by
  obtain ⟨ih0,ih1⟩:=qax.mono_l k
  refine ⟨?_,?_⟩
  ·intro y0 y1 y2
   unfold qax.j0
   repeat' first|(with_reducible exact ih1 _ _ _)|(with_reducible exact LeO.refl _)|(with_reducible refine LeO.ite ?_ ?_)
  ·intro y0 y1 y2
   unfold qax.l0
   repeat' first|(with_reducible exact ih1 _ _ _)|(with_reducible exact LeO.refl _)|(with_reducible refine LeO.ite ?_ ?_)
theorem qax.mono:∀ a0 a1 k,LeO (qax.f k a0 a1) (qax.f (k+1) a0 a1):=by
 intro a0 a1 k
 obtain ⟨ih0,ih1⟩:=qax.mono_l k
 unfold qax.f
 repeat' first|(with_reducible exact ih0 _ _ _)|(with_reducible exact qar.mono _ _ _)|(with_reducible exact LeO.refl _)|(with_reducible refine LeO.ite ?_ ?_)|(with_reducible refine LeO.bind ?_ (fun _=>?_))
end Go.Proofs.YtmfjmbcfaamebaaDoor.X
namespace Go.Proofs.YtmfjmbcfaamebaaDoor.X
open Go.RowKit Go.Proofs.YtmfjmbcfaamebaaDoorW.PrintWords Go.Proofs.YtmfjmbcfaamebaaDoorW.PrintLast Go.Proofs.YtmfjmbcfaamebaaDoorW.PrintMore
attribute [local go_sem] qbp qbz
set_option linter.unusedVariables false
set_option linter.unusedSimpArgs false
def qbn.l0:Nat→List Int→List Int→Int→Int→Option (List Int)
 | 0,_,_,_,_=>none
 | k+1,x3,x6,x7,x8=>if x8<x7 then (if 0≤x8 then (if x8<(x6.length:Int) then ((qax.f k x3 (rd x6 x8)).bind fun t277=>(qbn.l0 k t277 x6 x7 (wrap64 (x8+1)))) else (none)) else (none)) else (some x3)
def qbn.f (k:Nat) (l0:List Int):Option (List Int):=qbn.l0 k ([]:List Int) l0 (l0.length:Int) 0
theorem qbn.mono_l:∀ k,(∀ y0 y1 y2 y3,LeO (qbn.l0 k y0 y1 y2 y3) (qbn.l0 (k+1) y0 y1 y2 y3))
 | 0=>fun _ _ _ _ r h=>by simp [qbn.l0] at h
 | k+1=>by
  have ih0:=qbn.mono_l k
  ·intro y0 y1 y2 y3
   unfold qbn.l0
   repeat' first|(with_reducible exact ih0 _ _ _ _)|(with_reducible exact qax.mono _ _ _)|(with_reducible exact LeO.refl _)|(with_reducible refine LeO.ite ?_ ?_)|(with_reducible refine LeO.bind ?_ (fun _=>?_))
theorem qbn.mono:∀ a0 k,LeO (qbn.f k a0) (qbn.f (k+1) a0):=by
 intro a0 k
 have ih0:=qbn.mono_l k
 unfold qbn.f
 repeat' (with_reducible exact ih0 _ _ _ _)
end Go.Proofs.YtmfjmbcfaamebaaDoor.X
namespace Go.Proofs.YtmfjmbcfaamebaaDoor.X
open Go.RowKit Go.Proofs.YtmfjmbcfaamebaaDoorW.PrintWords Go.Proofs.YtmfjmbcfaamebaaDoorW.PrintLast Go.Proofs.YtmfjmbcfaamebaaDoorW.PrintMore
attribute [local go_sem] qbp qbz
set_option linter.unusedVariables false
set_option linter.unusedSimpArgs false
mutual
def qal.j0:Nat→Int→List Int→Bool→Bool→Int→List (S60)→Option (List Int)
 | 0,_,_,_,_,_,_=>none
 | k+1,x1,x2,x24,x304000,x304001,x304002=>if x24=true then (some ([]:List Int)) else (qal.l0 k x2 (([x1]:List Int)) 0 x304000 x304001 x304002)
def qal.l0:Nat→List Int→List Int→Int→Bool→Int→List (S60)→Option (List Int)
 | 0,_,_,_,_,_,_=>none
 | k+1,x2,x7,x8,x304000,x304001,x304002=>if x8<(x7.length:Int) then (if 0≤x8 then ((qad.f k x304000 x304001 x304002 (rd x7 x8)).bind fun t312=>(qal.l1 k x2 x7 x8 t312 (t312.length:Int) 0 x304000 x304001 x304002)) else (none)) else ((qbn.f k x7).bind fun t308=>(some t308))
def qal.l1:Nat→List Int→List Int→Int→List Int→Int→Int→Bool→Int→List (S60)→Option (List Int)
 | 0,_,_,_,_,_,_,_,_,_=>none
 | k+1,x2,x7,x8,x38,x39,x40,x304000,x304001,x304002=>if x40<x39 then (if 0≤x40 then (if x40<(x38.length:Int) then ((qar.f k x7 (rd x38 x40)).bind fun t316=>(if t316=true then (qal.l1 k x2 x7 x8 x38 x39 (wrap64 (x40+1)) x304000 x304001 x304002) else ((qar.f k x2 (rd x38 x40)).bind fun t317=>(if t317=true then (qal.l1 k x2 x7 x8 x38 x39 (wrap64 (x40+1)) x304000 x304001 x304002) else (if x7.length<17592186044416 then (qal.l1 k x2 (x7++[rd x38 x40]) x8 x38 x39 (wrap64 (x40+1)) x304000 x304001 x304002) else (none)))))) else (none)) else (none)) else (qal.l0 k x2 x7 (wrap64 (x8+1)) x304000 x304001 x304002)
end
def qal.f (k:Nat) (a0_0:Bool) (a0_1:Int) (l0_2:List (S60)) (a1:Int) (l2:List Int):Option (List Int):=if a1<0 then (qal.j0 k a1 l2 true a0_0 a0_1 l0_2) else (if a1≥(l0_2.length:Int) then (qal.j0 k a1 l2 true a0_0 a0_1 l0_2) else ((qar.f k l2 a1).bind fun t304=>(qal.j0 k a1 l2 t304 a0_0 a0_1 l0_2)))
theorem qal.mono_l:∀ k,(∀ y0 y1 y2 y3 y4 y5,LeO (qal.j0 k y0 y1 y2 y3 y4 y5) (qal.j0 (k+1) y0 y1 y2 y3 y4 y5))∧(∀ y0 y1 y2 y3 y4 y5,LeO (qal.l0 k y0 y1 y2 y3 y4 y5) (qal.l0 (k+1) y0 y1 y2 y3 y4 y5))∧(∀ y0 y1 y2 y3 y4 y5 y6 y7 y8,LeO (qal.l1 k y0 y1 y2 y3 y4 y5 y6 y7 y8) (qal.l1 (k+1) y0 y1 y2 y3 y4 y5 y6 y7 y8))
 | 0=>⟨fun _ _ _ _ _ _ r h=>by simp [qal.j0] at h,fun _ _ _ _ _ _ r h=>by simp [qal.l0] at h,fun _ _ _ _ _ _ _ _ _ r h=>by simp [qal.l1] at h⟩
 | k+1=>by
  obtain ⟨ih0,ih1,ih2⟩:=qal.mono_l k
  refine ⟨?_,?_,?_⟩
  ·intro y0 y1 y2 y3 y4 y5
   unfold qal.j0
   repeat' first|(with_reducible exact ih1 _ _ _ _ _ _)|(with_reducible exact LeO.refl _)|(with_reducible refine LeO.ite ?_ ?_)
  ·intro y0 y1 y2 y3 y4 y5
   unfold qal.l0
   repeat' first|(with_reducible exact ih2 _ _ _ _ _ _ _ _ _)|(with_reducible exact qbn.mono _ _)|(with_reducible exact qad.mono _ _ _ _ _)|(with_reducible exact LeO.refl _)|(with_reducible refine LeO.ite ?_ ?_)|(with_reducible refine LeO.bind ?_ (fun _=>?_))
  ·intro y0 y1 y2 y3 y4 y5 y6 y7 y8
   unfold qal.l1
   repeat' first|(with_reducible exact ih1 _ _ _ _ _ _)|(with_reducible exact ih2 _ _ _ _ _ _ _ _ _)|(with_reducible exact qar.mono _ _ _)|(with_reducible exact LeO.refl _)|(with_reducible refine LeO.ite ?_ ?_)|(with_reducible refine LeO.bind ?_ (fun _=>?_))
theorem qal.mono:∀ a0 a1 a2 a3 a4 k,LeO (qal.f k a0 a1 a2 a3 a4) (qal.f (k+1) a0 a1 a2 a3 a4):=by
 intro a0 a1 a2 a3 a4 k
 obtain ⟨ih0,ih1,ih2⟩:=qal.mono_l k
 unfold qal.f
 repeat' first|(with_reducible exact ih0 _ _ _ _ _ _)|(with_reducible exact qar.mono _ _ _)|(with_reducible refine LeO.ite ?_ ?_)|(with_reducible refine LeO.bind ?_ (fun _=>?_))
end Go.Proofs.YtmfjmbcfaamebaaDoor.X
namespace Go.Proofs.YtmfjmbcfaamebaaDoor.X
open Go.RowKit Go.Proofs.YtmfjmbcfaamebaaDoorW.PrintWords Go.Proofs.YtmfjmbcfaamebaaDoorW.PrintLast Go.Proofs.YtmfjmbcfaamebaaDoorW.PrintMore
attribute [local go_sem] qbp qbz
set_option linter.unusedVariables false
set_option linter.unusedSimpArgs false
def qcn.f (k:Nat) (a0_0:Bool) (a0_1:Int) (l0_2:List (S60)) (a1:Int) (a2:Int):Option (Bool):=(qal.f k a0_0 a0_1 l0_2 0 ([]:List Int)).bind fun t322=>((qar.f k t322 a2).bind fun t325=>(if t325=true then ((qal.f k a0_0 a0_1 l0_2 0 (([a1]:List Int))).bind fun t329=>((qar.f k t329 a2).bind fun t332=>(some (!t332)))) else (some false)))
theorem qcn.mono:∀ a0 a1 a2 a3 a4 k,LeO (qcn.f k a0 a1 a2 a3 a4) (qcn.f (k+1) a0 a1 a2 a3 a4):=by
 intro a0 a1 a2 a3 a4 k
 unfold qcn.f
 repeat' first|(with_reducible exact qar.mono _ _ _)|(with_reducible exact qal.mono _ _ _ _ _ _)|(with_reducible exact LeO.refl _)|(with_reducible refine LeO.ite ?_ ?_)|(with_reducible refine LeO.bind ?_ (fun _=>?_))
end Go.Proofs.YtmfjmbcfaamebaaDoor.X
